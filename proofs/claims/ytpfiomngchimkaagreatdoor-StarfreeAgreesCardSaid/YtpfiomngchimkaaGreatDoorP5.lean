/-
  Functions of the program, lifted to plain data.
-/
import Derived.Test.YtpfiomngchimkaaGreatDoorProg
import Derived.Test.YtpfiomngchimkaaGreatDoorP4
set_option linter.unusedVariables false
set_option linter.unusedSimpArgs false
set_option linter.unusedSectionVars false
set_option maxRecDepth 100000
namespace Go.AM
open Go.Proofs
abbrev FV:List UInt8:=[0,1,2,2,3,3,3,3,4,4,4,4,4,4,4,4,5,5,5,5,5,5,5,5,5,5,5,5,5,5,5,5,6,6,6,6,6,6,6,6,6,6,6,6,6,6,6,6,6,6,6,6,6,6,6,6,6,6,6,6,6,6,6,6,7,7,7,7,7,7,7,7,7,7,7,7,7,7,7,7,7,7,7,7,7,7,7,7,7,7,7,7,7,7,7,7,7,7,7,7,7,7,7,7,7,7,7,7,7,7,7,7,7,7,7,7,7,7,7,7,7,7,7,7,7,7,7,7,8,8,8,8,8,8,8,8,8,8,8,8,8,8,8,8,8,8,8,8,8,8,8,8,8,8,8,8,8,8,8,8,8,8,8,8,8,8,8,8,8,8,8,8,8,8,8,8,8,8,8,8,8,8,8,8,8,8,8,8,8,8,8,8,8,8,8,8,8,8,8,8,8,8,8,8,8,8,8,8,8,8,8,8,8,8,8,8,8,8,8,8,8,8,8,8,8,8,8,8,8,8,8,8,8,8,8,8,8,8,8,8,8,8,8,8,8,8,8,8,8,8,8,8,8,8,8,8]
abbrev dA:FuncId:=121
abbrev lu:TypeId:=124
abbrev kf:TypeId:=145
abbrev vI(n:Int):V:=V.int .i64 n
abbrev qM(l:LV):V:=V.list 122 l
abbrev fy(l:LV):V:=V.list 48 l
abbrev cg(l:LV):V:=V.list 107 l
abbrev cM(l:LV):V:=V.list 34 l
abbrev fU(l:LV):V:=V.list 54 l
abbrev aB(l:LV):V:=V.list 4 l
abbrev dB(l:LV):V:=V.list 74 l
abbrev aR(l:LV):V:=V.list 3 l
abbrev aE(l:LV):V:=V.list 22 l
abbrev po(l:LV):V:=V.list 73 l
abbrev iw(l:LV):V:=V.list 88 l
abbrev iy(l:LV):V:=V.list 87 l
abbrev oC(l:LV):V:=V.list 65 l
abbrev bn(l:LV):V:=V.list 63 l
abbrev kg(l:LV):V:=V.list 5 l
@[simp] abbrev gI (r:LV):=(V.nth r 0).toInt
@[simp] abbrev gL (r:LV):=(V.nth r 0).toList
@[simp] abbrev gB (r:LV):=(V.nth r 0).toBool
@[simp] abbrev gS (r:LV):=(V.nth r 0).toStr
@[simp] abbrev eu (r:LV):=(gL (r.drop 1))
@[simp] abbrev jq (r:LV):=(gI ((r.drop 1).drop 1))
@[simp] abbrev bM (r:LV):=(gI (r.drop 1))
@[simp] abbrev KD (r:LV):=(gL (((r.drop 1).drop 1).drop 1))
@[simp] abbrev Yw (r:LV):=(gL ((((r.drop 1).drop 1).drop 1).drop 1))
@[simp] abbrev lW (r:LV):=(gL ((r.drop 1).drop 1))
@[simp] abbrev Yx (r:LV):=(gL ((((r.drop 3).drop 4).drop 1).drop 1))
@[simp] abbrev Yy (r:LV):=(gL ((r.drop 3).drop 4))
@[simp] abbrev Yz (r:LV):=(gL (((r.drop 3).drop 4).drop 1))
@[simp] abbrev fV (r:LV):=(gL (r.drop 2))
@[simp] abbrev mr (r:LV):=(gL ((r.drop 2).drop 1))
@[simp] abbrev ug (r:LV):=(gL (((r.drop 2).drop 1).drop 1))
@[simp] abbrev hD (r:LV):=(gI (r.drop 2))
@[simp] abbrev aiu (r:LV):=(gI ((r.drop 2).drop 1))
@[simp] abbrev Sf (r:LV):=(gL ((((r.drop 2).drop 1).drop 1).drop 1))
@[simp] abbrev aiv (r:LV):=(gI ((r.drop 2).drop 2))
@[simp] abbrev auf (r:LV):=(gL (r.drop 5))
@[simp] abbrev aug (r:LV):=(gL (((r.drop 5).drop 1).drop 1))
@[simp] abbrev auh (r:LV):=(gL ((((r.drop 5).drop 1).drop 1).drop 1))
@[simp] abbrev lX (r:LV):=(gL (r.drop 3))
@[simp] abbrev s9 (r:LV):=(gL ((r.drop 3).drop 1))
@[simp] abbrev vL (r:LV):=(gI (((r.drop 1).drop 1).drop 1))
@[simp] abbrev uh (r:LV):=(gB (r.drop 1))
@[simp] abbrev A4 (r:LV):=(gL (r.drop 4))
@[simp] abbrev YA (r:LV):=(gI (r.drop 3))
@[simp] abbrev zo (r:LV):=(gL ((r.drop 1).drop 2))
abbrev p6(x:V)(l:LV):LV:=vI ((x.cell 0).toInt)::vI ((x.cell 1).toInt)::aB ((x.cell 2).toList)::aE ((x.cell 3).toList)::l
abbrev ui(r:LV)(l:LV):LV:=vI (gI r)::vI (bM r)::aB (fV r)::aE (mr r)::l
abbrev F8(r:LV)(l:LV):LV:=vI (gI r)::vI (bM r)::vI (hD r)::l
abbrev Sg(r:LV)(l:LV):LV:=vI (gI r)::vI (bM r)::aB (lX r)::aE (s9 r)::l
abbrev YB(r:LV):=(gI r,bM r,jq r,vL r,A4 r)
abbrev bD{α β:Type}(y:α):Option (α⊕β):=some (Sum.inl y)
abbrev bE{α β:Type}(r:β):Option (α⊕β):=some (Sum.inr r)
def aD(n k:Nat):List Bool:=(List.range n).map k.testBit
abbrev YC(α β:Type):=α->Option β
abbrev bz(A B:Type):={β:Type}->YC A β->YC B β->Option β
abbrev eN(A:Type):={β:Type}->YC A β->Option β
abbrev YD:Nat:=198
abbrev YE:Nat:=199
abbrev Sh:Nat:=201
abbrev YF:Nat:=202
abbrev YG:Nat:=203
abbrev YH:Nat:=205
abbrev Si:Nat:=206
abbrev YI:Nat:=207
abbrev YJ:Nat:=208
abbrev YK:Nat:=209
def F9:LV:=[.int .u8 0,.int .u8 1,.int .u8 56,.int .u8 2,.int .u8 57,.int .u8 49,.int .u8 28,.int .u8 3,.int .u8 61,.int .u8 58,.int .u8 42,.int .u8 50,.int .u8 38,.int .u8 29,.int .u8 17,.int .u8 4,.int .u8 62,.int .u8 47,.int .u8 59,.int .u8 36,.int .u8 45,.int .u8 43,.int .u8 51,.int .u8 22,.int .u8 53,.int .u8 39,.int .u8 33,.int .u8 30,.int .u8 24,.int .u8 18,.int .u8 12,.int .u8 5,.int .u8 63,.int .u8 55,.int .u8 48,.int .u8 27,.int .u8 60,.int .u8 41,.int .u8 37,.int .u8 16,.int .u8 46,.int .u8 35,.int .u8 44,.int .u8 21,.int .u8 52,.int .u8 32,.int .u8 23,.int .u8 11,.int .u8 54,.int .u8 26,.int .u8 40,.int .u8 15,.int .u8 34,.int .u8 20,.int .u8 31,.int .u8 10,.int .u8 25,.int .u8 14,.int .u8 19,.int .u8 9,.int .u8 13,.int .u8 8,.int .u8 7,.int .u8 6]
def YL:LV:=[.int .u64 1,.int .u64 10,.int .u64 100,.int .u64 1000,.int .u64 10000,.int .u64 100000,.int .u64 1000000,.int .u64 10000000,.int .u64 100000000,.int .u64 1000000000,.int .u64 10000000000,.int .u64 100000000000,.int .u64 1000000000000,.int .u64 10000000000000,.int .u64 100000000000000,.int .u64 1000000000000000,.int .u64 10000000000000000,.int .u64 100000000000000000,.int .u64 1000000000000000000,.int .u64 10000000000000000000]
def YM:LV:=[.int .u8 0,.int .u8 1,.int .u8 28,.int .u8 2,.int .u8 29,.int .u8 14,.int .u8 24,.int .u8 3,.int .u8 30,.int .u8 22,.int .u8 20,.int .u8 15,.int .u8 25,.int .u8 17,.int .u8 4,.int .u8 8,.int .u8 31,.int .u8 27,.int .u8 13,.int .u8 23,.int .u8 21,.int .u8 19,.int .u8 16,.int .u8 7,.int .u8 26,.int .u8 12,.int .u8 18,.int .u8 6,.int .u8 11,.int .u8 5,.int .u8 10,.int .u8 9]
abbrev aH:=Shape×List (Out×Shape)
abbrev aa:VS:=.one (.int .i64)
abbrev aA:VS:=.one (.bool)
abbrev aV:VS:=.one (.ba 0 0 0)
abbrev dm:VS:=.one (.int .u64)
abbrev rP:VS:=.one (.list 22)
abbrev Dm:VS:=.one (.list 4)
abbrev cU:VS:=.one (.ba 1 0 0)
abbrev dK:VS:=.one (.ba 2 0 0)
abbrev gQ:VS:=.one (.list 3)
abbrev hZ:VS:=.one (.list 54)
abbrev dy:VS:=.one (.whole 107 0)
abbrev mu:VS:=.one (.str)
abbrev fA:VS:=.one (.list 63)
abbrev gF:VS:=.one (.ba 3 0 0)
abbrev p7:VS:=.one (.list 107)
abbrev kh:VS:=.one (.whole 3 1)
abbrev aui:VS:=.one (.whole 74 3)
abbrev Dn:VS:=.one (.list 34)
abbrev auj:VS:=.one (.whole 74 4)
abbrev qO:VS:=.one (.whole 3 2)
abbrev auk:VS:=.one (.whole 4 6)
abbrev aul:VS:=.one (.whole 22 7)
abbrev oD:VS:=.one (.ba 4 0 0)
abbrev uj:VS:=.one (.whole 3 3)
abbrev YN:VS:=.one (.whole 4 3)
abbrev aum:VS:=.one (.whole 4 8)
abbrev aun:VS:=.one (.whole 22 9)
abbrev auo:VS:=.one (.whole 4 5)
abbrev aup:VS:=.one (.whole 22 6)
abbrev tc:VS:=.one (.whole 48 0)
abbrev auq:VS:=.one (.whole 22 4)
abbrev xz:VS:=.one (.whole 3 4)
abbrev vM:VS:=.one (.ba 5 0 0)
abbrev A5:VS:=.one (.whole 3 0)
abbrev aur:VS:=.one (.whole 4 4)
abbrev aus:VS:=.one (.whole 22 5)
abbrev aiw:VS:=.one (.whole 107 2)
abbrev A6:VS:=.one (.list 61)
abbrev xA:VS:=.one (.whole 63 2)
abbrev Dp:VS:=.one (.whole 65 1)
abbrev Sj:VS:=.one (.cX 87 2)
abbrev Sk:VS:=.one (.cX 88 3)
abbrev A7:VS:=.one (.whole 5 1)
abbrev aut:VS:=.one (.whole 4 7)
abbrev auu:VS:=.one (.whole 22 8)
abbrev auv:VS:=.one (.whole 4 9)
abbrev auw:VS:=.one (.whole 22 10)
abbrev auy:VS:=.one (.whole 4 10)
abbrev auz:VS:=.one (.whole 22 11)
abbrev auA:VS:=.one (.whole 54 4)
abbrev Sl:VS:=.one (.whole 4 1)
abbrev Dq:VS:=.one (.whole 3 5)
abbrev YO:VS:=.one (.whole 107 1)
abbrev auB:VS:=.one (.list 73)
abbrev YP:VS:=.one (.whole 63 4)
abbrev auC:VS:=.one (.whole 54 5)
abbrev aix:VS:=.one (.whole 4 2)
abbrev Dr:VS:=.one (.whole 3 7)
abbrev YQ:VS:=.one (.whole 107 3)
abbrev auD:VS:=.one (.whole 74 5)
abbrev KE:VS:=.one (.whole 122 3)
abbrev KF:VS:=.one (.cX 143 3)
abbrev aiy:VS:=.one (.whole 63 5)
abbrev auE:VS:=.one (.whole 22 3)
abbrev Sm:VS:=.one (.whole 48 2)
abbrev auF:VS:=.one (.whole 107 12)
abbrev Sn:VS:=.one (.cX lu 4)
abbrev KG:VS:=.one (.ba 6 0 0)
abbrev auG:VS:=.one (.whole 22 2)
abbrev auH:VS:=.one (.whole 107 4)
abbrev So:VS:=.one (.whole 63 3)
abbrev aiz:VS:=.one (.whole 48 4)
abbrev aiA:VS:=.one (.whole 107 5)
abbrev auI:VS:=.one (.whole 48 6)
abbrev Sp:VS:=.one (.whole 63 0)
abbrev Sq:VS:=.one (.sub 5 0)
abbrev auJ:VS:=.one (.whole 48 1)
abbrev auK:VS:=.one (.whole 74 0)
abbrev auL:VS:=.one (.cX 87 5)
abbrev auM:VS:=.one (.cX 88 6)
abbrev auN:VS:=.one (.whole 34 3)
abbrev auO:VS:=.one (.whole 34 4)
abbrev auP:VS:=.one (.whole 107 11)
abbrev YR:VS:=.one (.whole 74 2)
abbrev aiB:VS:=.one (.whole 9 2)
abbrev YS:VS:=.one (.whole 3 6)
abbrev aiC:VS:=.one (.cX 179 2)
abbrev Sr:VS:=.one (.whole 5 0)
abbrev auQ:VS:=.one (.whole 4 11)
abbrev auR:VS:=.one (.whole 22 12)
abbrev A8:VS:=.agg [.int .i64,.int .i64,.list 4,.list 22]
abbrev Ga:VS:=.agg [.int .i64,.int .i64,.whole 4 0,.whole 22 1]
abbrev Gb:VS:=.agg [.int .i64,.int .i64,.list 34]
abbrev KH:VS:=.agg [.int .u64,.int .u64]
abbrev KI:VS:=.agg [.list 54,.int .i64]
abbrev aiD:VS:=.agg [.int .i64,.int .i64,.int .u64,.int .u64,.list 107]
abbrev YT:VS:=.agg [.str]
abbrev aiE:VS:=.agg [.int .i64,.int .i64,.int .i64]
abbrev Gc:VS:=.agg [.int .i64,.int .i64]
abbrev Ss:VS:=.agg [.int .i64,.int .i64,.int .i64,.int .i64]
abbrev Su:VS:=.agg [.int .i64,.int .i64,.whole 4 4,.whole 22 5]
abbrev YU:VS:=.agg [.int .i64,.int .i64,.whole 4 2,.whole 22 3]
abbrev eY:BS:=.var 48 [aa,aa,Dm,rP]
abbrev p8:BS:=.var 54 [aa,aa,aa,aa]
abbrev qP:BS:=.var 3 [aa]
abbrev xB:BS:=.var 77 [aui]
abbrev td:BS:=.var 72 [mu]
abbrev ny:BS:=.var 28 [hZ,aa]
abbrev Ds:BS:=.var 77 [auj]
abbrev vN:BS:=.var 48 [aa,aa,auk,aul]
abbrev Ge:BS:=.var 34 [aa,aa,Dn]
abbrev xC:BS:=.var 48 [aa,aa,aum,aun]
abbrev qQ:BS:=.var 104 [aa,aa,dm,dm,p7]
abbrev A9:BS:=.var 48 [aa,aa,auo,aup]
abbrev uk:BS:=.var 51 [gQ,aa]
abbrev Gf:BS:=.var 48 [aa,aa,YN,auq]
abbrev Sv:BS:=.var 4 [aA]
abbrev Dt:BS:=.var 48 [aa,aa,aur,aus]
abbrev auS:BS:=.var 161 [aa,aa,dm,dm,aiw]
abbrev KJ:BS:=.var 48 [aa,aa,aut,auu]
abbrev Gg:BS:=.var 48 [aa,aa,auv,auw]
abbrev KK:BS:=.var 48 [aa,aa,auy,auz]
abbrev YV:BS:=.var 28 [auA,aa]
abbrev Ba:BS:=.var 208 [auB]
abbrev Gh:BS:=.var 122 [aa,aa]
abbrev auT:BS:=.var 28 [auC,aa]
abbrev auU:BS:=.var 77 [auD]
abbrev auV:BS:=.var 161 [aa,aa,dm,dm,YO]
abbrev YW:BS:=.var 48 [aa,aa,aix,auE]
abbrev aiF:BS:=.var 104 [aa,aa,dm,dm,auF]
abbrev aiG:BS:=.var 48 [aa,aa,Sl,auG]
abbrev auW:BS:=.var 104 [aa,aa,dm,dm,YQ]
abbrev auX:BS:=.var 104 [aa,aa,dm,dm,auH]
abbrev YX:BS:=.var 201 [dm]
abbrev auY:BS:=.var 74 [YP]
abbrev auZ:BS:=.var 74 [aiy]
abbrev aiH:BS:=.var 90 [aa,auI,Sj,Sk]
abbrev au0:BS:=.var 90 [aa,auJ,Sj,Sk]
abbrev au1:BS:=.var 90 [aa,aiz,auL,auM]
abbrev au2:BS:=.var 34 [aa,aa,auN]
abbrev au3:BS:=.var 34 [aa,aa,auO]
abbrev au4:BS:=.var 104 [aa,aa,dm,dm,auP]
abbrev Sw:BS:=.var 65 [dm,dm]
abbrev aiI:BS:=.var 104 [aa,aa,dm,dm,aiA]
abbrev aiJ:BS:=.var 48 [aa,aa,auQ,auR]
abbrev au5:BS:=.var 90 [aa,.one (.whole 48 3),.one (.cX 87 4),.one (.cX 88 5)]
abbrev au6:BS:=.var 161 [aa,aa,dm,dm,.one (.whole 107 7)]
abbrev au7:BS:=.var 168 [.one (.whole 122 10),.one (.cX lu 11)]
abbrev au8:BS:=.var 48 [aa,aa,.one (.whole 4 12),.one (.whole 22 13)]
abbrev au9:BS:=.var 168 [.one (.whole 122 8),.one (.cX lu 9)]
abbrev ava:BS:=.var 207 [.one (.whole 63 8),.one (.cX 143 9)]
abbrev avb:BS:=.var 207 [.one (.whole 63 7),.one (.cX 143 8)]
abbrev cJ:BS:=.arr 4 false
abbrev cZ:BS:=.arr 22 false
abbrev lx:BS:=.arr 107 false
abbrev dL:BS:=.arr 3 false
abbrev jd:BS:=.arr 63 false
abbrev nz:BS:=.arr 48 false
abbrev Bb:BS:=.arr 54 false
abbrev Du:BS:=.arr 5 false
abbrev vO:BS:=.arr 122 false
abbrev aiK:BS:=.arr 65 false
abbrev Sy:BS:=.arr 34 false
abbrev aiL:BS:=.arr 9 false
abbrev jr:BS:=.nest 74
abbrev aiM:BS:=.nest 22
abbrev Sz:BS:=.nest 73
abbrev cO:List BS:=[lx]
abbrev oE:List BS:=[eY]
abbrev qR:List BS:=[qP]
abbrev rQ:List BS:=[dL]
abbrev te:List BS:=[cJ,cZ]
abbrev um:List BS:=[p8,aiK]
abbrev uo:List BS:=[auS,.dead,lx]
abbrev xD:List BS:=[td,xB,Ge,jr]
abbrev xE:List BS:=[xB,Ge,Ds,jr,jr]
abbrev xF:List BS:=[Du]
abbrev Bc:List BS:=[uk,YV,auT,p8,Bb,Bb]
abbrev Bd:List BS:=[td,qP,xB,jr]
abbrev Be:List BS:=[td,Ds,Sv,auU,jr,jr]
abbrev Bf:List BS:=[auV,lx]
abbrev Dv:List BS:=[eY,dL]
abbrev Gi:List BS:=[nz,p8,Gf,cJ,aiM]
abbrev Gj:List BS:=[eY,Gf,A9,cJ,cZ,cJ,cZ]
abbrev Gk:List BS:=[eY,auW,auX,lx,lx]
abbrev Gl:List BS:=[eY,Du]
abbrev Gm:List BS:=[auY,xB,.dead,jr,jd]
abbrev Gn:List BS:=[Sv,auZ,Ds,.dead,jr,jd]
abbrev KL:List BS:=[ny,dL,dL,p8]
abbrev KM:List BS:=[au0,nz,.map 87,.map 88]
abbrev SA:List BS:=[nz,YW,cJ,aiM]
abbrev SB:List BS:=[au1,dL,nz,p8,nz,.map 87,.map 88]
abbrev SC:List BS:=[au2,p8,au3,Sy,Sy]
abbrev SD:List BS:=[A9,KJ,Gg,au4,aiF,cJ,cZ,cJ,cZ,cJ,cZ,lx,lx]
abbrev SF:List BS:=[ny,dL,p8]
abbrev SG:List BS:=[eY,Dt,dL,dL,cJ,cZ]
abbrev SH:List BS:=[qQ,vN,jd,.map 143,xC,dL,cJ,cZ,cJ,cZ]
abbrev SI:List BS:=[eY,dL,aiL,cJ]
abbrev SJ:List BS:=[Dt,vN,dL,dL,cJ,cZ,cJ,cZ]
abbrev SK:List BS:=[lx,YX]
abbrev SM:List BS:=[aiH,.dead,.map 87,.map 88,cJ,cZ,nz]
abbrev YY:List BS:=[ny,dL,dL]
abbrev YZ:List BS:=[aiG,cJ,cZ]
abbrev Y0:List BS:=[eY,eY,xC,vO,.map lu,KK,Gh,dL,cJ,cZ,cJ,cZ]
abbrev Y1:List BS:=[aiG,cJ,cZ,jd]
abbrev Y2:List BS:=[eY,eY,qP]
abbrev Y3:List BS:=[cJ,cZ,dL]
abbrev aiN:List BS:=[au5,dL,nz,nz,.map 87,.map 88]
abbrev aiO:List BS:=[vN,xC,KK,aiF,aiI,lx,cJ,cZ,cJ,cZ,cJ,cZ,lx]
abbrev aiP:List BS:=[eY,Dt,vN,dL,cJ,cZ,cJ,cZ]
abbrev aiQ:List BS:=[eY,eY,vN,vO,.map lu,xC,cJ,cZ,cJ,cZ]
abbrev aiR:List BS:=[eY,vN,dL,xC,dL,dL,cJ,cZ,cJ,cZ]
abbrev aiS:List BS:=[eY,A9,dL,KJ,dL,cJ,cZ,cJ,cZ]
abbrev aiT:List BS:=[qQ,A9,jd,.map 143,KJ,cJ,cZ,cJ,cZ]
abbrev aiU:List BS:=[Gf,A9,au6,cJ,cZ,cJ,cZ,lx]
abbrev aiV:List BS:=[eY,KJ,Gg,dL,dL,aiJ,dL,cJ,cZ,cJ,cZ,cJ,cZ]
abbrev aiW:List BS:=[eY,vN,xC,dL,dL,KK,cJ,cZ,cJ,cZ,cJ,cZ]
abbrev aiX:List BS:=[vN,dL,xC,dL,dL,dL,cJ,cZ,cJ,cZ]
abbrev aiY:List BS:=[eY,eY,qP,xC,au7,au8,Gh,dL,cJ,cZ,vO,.map lu,cJ,cZ]
abbrev aiZ:List BS:=[eY,eY,qP,vN,au9,KK,cJ,cZ,vO,.map lu,cJ,cZ]
abbrev ai0:List BS:=[Ba,qQ,vN,ava,KK,dL,cJ,cZ,jd,.map 143,cJ,cZ]
abbrev ai1:List BS:=[Ba,qQ,A9,avb,Gg,cJ,cZ,jd,.map 143,cJ,cZ]
abbrev eS:List (Nat×VS):=[(0,aa)]
abbrev jH:List (Nat×VS):=[(0,aA)]
abbrev rR:List (Nat×VS):=[(0,A8)]
abbrev rS:List (Nat×VS):=[(0,dm)]
abbrev Bg:List (Nat×VS):=[(0,aa),(1,aa)]
abbrev Bh:List (Nat×VS):=[(0,Ga),(1,aa)]
abbrev Dw:List (Nat×VS):=[(2,aa)]
abbrev Dx:List (Nat×VS):=[(0,aiD)]
abbrev Gp:List (Nat×VS):=[(0,aV),(1,aa)]
abbrev Gq:List (Nat×VS):=[(0,Gb)]
abbrev KN:List (Nat×VS):=[(1,A6),(2,mu),(3,aV),(7,Dp),(15,aa),(16,aa)]
abbrev KO:List (Nat×VS):=[(0,KI),(1,aa)]
abbrev KP:List (Nat×VS):=[(0,auK)]
abbrev KQ:List (Nat×VS):=[(0,Ga)]
abbrev KR:List (Nat×VS):=[(0,KH)]
abbrev KS:List (Nat×VS):=[(0,A5)]
abbrev SN:List (Nat×VS):=[(0,aV),(1,aa),(6,cU),(7,dK),(8,aa),(9,aa),(10,gF)]
abbrev SO:List (Nat×VS):=[(0,YT),(1,Gb),(2,fA)]
abbrev SP:List (Nat×VS):=[(0,A8),(1,A8),(2,aa)]
abbrev SQ:List (Nat×VS):=[(0,A8),(1,A8)]
abbrev SR:List (Nat×VS):=[(0,aa),(1,aV),(2,cU),(3,dK)]
abbrev Y4:List (Nat×VS):=[(1,aa),(2,aV),(17,hZ),(18,aa),(19,aa)]
abbrev Y5:List (Nat×VS):=[(6,aV),(7,aa)]
abbrev Y6:List (Nat×VS):=[(2,aV),(3,So),(4,aa)]
abbrev Y7:List (Nat×VS):=[(0,gQ),(1,gQ)]
abbrev Y8:List (Nat×VS):=[(0,KH),(1,KH)]
abbrev Y9:List (Nat×VS):=[(0,aiE),(1,aiE)]
abbrev Za:List (Nat×VS):=[(0,Ga),(1,qO)]
abbrev ai2:List (Nat×VS):=[(7,aV),(8,kh),(9,Sm),(10,aa),(11,gF),(34,hZ),(35,aa),(36,aa)]
abbrev ai3:List (Nat×VS):=[(1,aV),(4,kh),(5,qO),(6,aa),(7,gF),(21,hZ),(22,aa),(23,aa)]
abbrev ai4:List (Nat×VS):=[(1,aV),(3,kh),(4,aa),(5,dK),(18,hZ),(19,aa),(20,aa)]
abbrev ai5:List (Nat×VS):=[(1,aV),(3,aa),(38,rP),(39,aa),(40,aa),(49,gQ),(50,aa),(51,aa)]
abbrev ai6:List (Nat×VS):=[(1,aV),(3,aa),(38,rP),(39,aa),(40,aa),(49,gQ),(50,aa),(51,aa),(52,aA)]
abbrev ai7:List (Nat×VS):=[(1,aV),(3,aa),(38,rP),(39,aa),(40,aa),(41,aA)]
def Zb:aH:=(⟨[(0,aV),(1,aa),(6,cU),(7,dK),(8,aa),(9,aa),(10,gF),(25,aA)],Bc⟩,[(.norm,⟨SN,Bc⟩)])
def Zc:aH:=(⟨[(0,aV),(1,aa),(6,cU),(7,dK),(8,aa),(9,aa),(10,gF),(33,aA)],Bc⟩,[(.norm,⟨SN,Bc⟩)])
def Zd:aH:=(⟨[(0,aV),(1,aa),(6,cU),(7,dK),(8,aa),(9,aa),(10,gF),(40,aA)],Bc⟩,[(.norm,⟨SN,Bc⟩)])
def Ze:aH:=(⟨[(0,aV),(1,aa),(6,cU),(7,dK),(8,aa),(9,aa),(10,gF),(52,aA)],Bc⟩,[(.norm,⟨SN,Bc⟩)])
abbrev ai8:List (Nat×VS):=[(0,aV),(1,aa),(6,cU),(7,dK),(8,aa),(9,aa)]
def Zf:aH:=(⟨ai8,[uk,.var 28 [.one (.whole 54 3),aa],YV,Bb,Bb]⟩,[(.exit 0,⟨ai8++[(17,aA)],[uk,.var 28 [.one (.whole 54 3),aa],YV,Bb,Bb]⟩)])
abbrev ai9:List (Nat×VS):=[(0,aV),(1,aa),(7,A7),(8,aa)]
def Zg:aH:=(⟨ai9,[uk,Du]⟩,[(.exit 0,⟨ai9++[(14,aA)],[uk,Du]⟩)])
abbrev aja:List (Nat×VS):=[(1,mu),(2,aV),(5,.one (.whole 61 1)),(26,aix),(27,aa),(28,aa)]
def Zh:aH:=(⟨aja,[ny,.nest 61,cJ]⟩,[(.exit 0,⟨aja++[(29,aA)],[ny,.nest 61,cJ]⟩)])
abbrev ajb:List (Nat×VS):=[(1,aa),(7,tc),(10,cU),(11,aa),(12,aa),(13,aa),(24,hZ),(25,aa),(26,aa)]
def Zi:aH:=(⟨ajb,SA⟩,[(.exit 5,⟨ajb++[(56,aA)],SA⟩)])
abbrev ajc:List (Nat×VS):=[(1,aa),(7,tc),(10,cU),(11,aa),(12,aa),(24,hZ),(25,aa),(26,aa)]
def Zj:aH:=(⟨ajc,SA⟩,[(.exit 3,⟨ajc++[(46,aA)],SA⟩)])
def Zk:aH:=(⟨[(1,aa),(7,tc),(9,cU),(10,dK),(11,aa),(14,aa),(15,aa),(16,aa),(24,hZ),(25,aa),(26,aa),(96,aA)],Gi⟩,[(.norm,⟨[(1,aa),(7,tc),(9,cU),(10,dK),(11,aa),(14,aa),(15,aa),(16,aa),(24,hZ),(25,aa),(26,aa)],Gi⟩)])
abbrev ajd:List (Nat×VS):=[(1,aa),(7,tc),(9,cU),(10,dK),(11,aa),(14,aa),(15,aa),(24,hZ),(25,aa),(26,aa)]
def Zl:aH:=(⟨ajd,Gi⟩,[(.exit 9,⟨ajd++[(86,aA)],Gi⟩)])
abbrev aje:List (Nat×VS):=[(1,aa),(7,tc),(9,cU),(10,dK),(11,aa),(14,aa),(24,hZ),(25,aa),(26,aa)]
def Zm:aH:=(⟨aje,Gi⟩,[(.exit 7,⟨aje++[(76,aA)],Gi⟩)])
def Zn:aH:=(⟨[(1,aa),(7,tc),(9,cU),(10,dK),(11,aa),(24,hZ),(25,aa),(26,aa),(31,aa),(109,aA)],[nz,p8,Gf,cJ,cZ]⟩,[(.norm,⟨[(1,aa),(7,tc),(10,cU),(11,aa),(24,hZ),(25,aa),(26,aa)],[nz,YW,cJ,cZ]⟩)])
abbrev ajf:List (Nat×VS):=[(1,aa),(7,tc),(24,hZ),(25,aa),(26,aa)]
def Zo:aH:=(⟨ajf,[nz]⟩,[(.ret,⟨[(4,tc),(5,aa)],[nz]⟩),(.exit 0,⟨ajf++[(27,aA)],[nz]⟩)])
def Zp:aH:=(⟨[(7,aV),(8,kh),(9,Sm),(10,aa),(11,gF),(34,hZ),(35,aa),(36,aa),(44,aA)],SB⟩,[(.norm,⟨ai2,SB⟩)])
def Zq:aH:=(⟨[(7,aV),(8,kh),(9,Sm),(10,aa),(11,gF),(34,hZ),(35,aa),(36,aa),(54,aA)],SB⟩,[(.norm,⟨ai2,SB⟩)])
abbrev ajg:List (Nat×VS):=[(7,aV),(8,kh),(9,Sm),(34,hZ),(35,aa),(36,aa)]
def Zr:aH:=(⟨ajg,aiN⟩,[(.ret,⟨[(4,tc),(5,aa)],[nz]⟩),(.exit 0,⟨ajg++[(37,aA)],aiN⟩)])
abbrev ajh:List (Nat×VS):=[(1,aa),(2,aV),(18,hZ),(19,aa),(20,aa)]
def Zs:aH:=(⟨ajh,[ny]⟩,[(.ret,⟨[(4,aa)],[]⟩),(.exit 0,⟨ajh++[(21,aA)],[ny]⟩)])
abbrev aji:List (Nat×VS):=[(0,mu),(1,aa),(18,aa),(19,aa)]
def Zt:aH:=(⟨aji,[]⟩,[(.ret,⟨[(4,aA)],[]⟩),(.exit 0,⟨aji++[(20,aA)],[]⟩)])
def Zu:aH:=(⟨[(1,aV),(3,Sl),(4,aa),(5,dK),(33,aA)],[ny,cJ,p8]⟩,[(.norm,⟨[(1,aV),(3,Sl),(4,aa),(5,dK)],[ny,cJ,p8]⟩)])
abbrev ajj:List (Nat×VS):=[(1,aV),(3,Sl),(4,aa)]
def Zv:aH:=(⟨ajj,[ny,cJ]⟩,[(.exit 0,⟨ajj++[(17,aA)],[ny,cJ]⟩)])
abbrev ajk:List (Nat×VS):=[(1,A6),(2,mu),(3,aV),(7,Dp),(8,aa),(9,aa),(15,aa),(16,aa)]
def Zw:aH:=(⟨ajk,um⟩,[(.exit 3,⟨ajk++[(117,aA)],um⟩)])
def Zx:aH:=(⟨[(1,A6),(2,mu),(3,aV),(7,Dp),(8,aa),(15,aa),(16,aa),(20,aa),(67,aA)],um⟩,[(.norm,⟨KN,um⟩)])
def Zy:aH:=(⟨[(1,A6),(2,mu),(3,aV),(7,Dp),(8,aa),(15,aa),(16,aa),(20,aa),(58,aA)],um⟩,[(.norm,⟨KN,um⟩)])
def Zz:aH:=(⟨[(1,A6),(2,mu),(3,aV),(7,Dp),(8,aa),(15,aa),(16,aa),(20,aa),(32,aA)],um⟩,[(.norm,⟨KN,um⟩)])
def ZA:aH:=(⟨[(1,A6),(2,mu),(3,aV),(7,Dp),(8,aa),(15,aa),(16,aa),(20,aa),(21,aA)],um⟩,[(.norm,⟨KN,um⟩)])
def ZB:aH:=(⟨KN,um⟩,[(.exit 0,⟨[(1,A6),(2,mu),(3,aV),(7,Dp),(15,aa),(16,aa),(17,aA)],um⟩)])
def ZC:aH:=(⟨[(1,aV),(4,kh),(5,qO),(6,aa),(7,gF),(21,hZ),(22,aa),(23,aa),(36,aA)],KL⟩,[(.norm,⟨ai3,KL⟩)])
def ZD:aH:=(⟨[(1,aV),(4,kh),(5,qO),(6,aa),(7,gF),(21,hZ),(22,aa),(23,aa),(46,aA)],KL⟩,[(.norm,⟨ai3,KL⟩)])
def ZE:aH:=(⟨[(1,aV),(4,kh),(5,qO),(6,aa),(7,gF),(21,hZ),(22,aa),(23,aa),(70,aA)],KL⟩,[(.norm,⟨[(1,aV),(4,kh),(5,qO),(6,aa),(21,hZ),(22,aa),(23,aa)],YY⟩)])
abbrev ajl:List (Nat×VS):=[(1,aV),(4,kh),(5,qO),(21,hZ),(22,aa),(23,aa)]
def ZF:aH:=(⟨ajl,YY⟩,[(.exit 0,⟨ajl++[(24,aA)],YY⟩)])
def ZG:aH:=(⟨[(0,hZ),(4,aV),(5,cU),(6,dK),(19,aA)],SC⟩,[(.norm,⟨[(0,hZ),(4,aV),(5,cU),(6,dK)],SC⟩)])
def ZH:aH:=(⟨[(0,hZ),(4,aV),(5,cU),(6,dK),(26,aA)],SC⟩,[(.norm,⟨[(0,hZ),(4,aV),(5,cU),(6,dK)],SC⟩)])
abbrev ajm:List (Nat×VS):=[(3,aa),(7,Dn),(8,aa),(9,aa)]
def ZI:aH:=(⟨ajm,[]⟩,[(.exit 0,⟨ajm++[(10,aA)],[]⟩)])
def ZJ:aH:=(⟨[(1,aa),(2,aV),(5,aa),(6,cU),(7,aA),(8,aA),(17,hZ),(18,aa),(19,aa),(64,aA)],[ny,p8]⟩,[(.ret,⟨[(4,aa)],[]⟩),(.norm,⟨Y4,[ny]⟩)])
def ZK:aH:=(⟨[(1,aa),(2,aV),(5,aa),(6,cU),(7,aA),(8,aA),(17,hZ),(18,aa),(19,aa),(55,aA)],[ny,p8]⟩,[(.ret,⟨[(4,aa)],[]⟩),(.norm,⟨Y4,[ny]⟩)])
def ZL:aH:=(⟨Y4,[ny]⟩,[(.ret,⟨[(4,aa)],[]⟩),(.exit 0,⟨[(1,aa),(2,aV),(17,hZ),(18,aa),(19,aa),(20,aA)],[ny]⟩)])
abbrev ajn:List (Nat×VS):=[(2,aV),(3,cU),(4,dK),(6,gF),(7,oD),(8,aa),(9,aa),(35,aa),(36,aa),(43,gQ),(44,aa),(45,aa)]
def ZM:aH:=(⟨ajn,SD⟩,[(.exit 2,⟨ajn++[(46,aA)],SD⟩)])
abbrev ajo:List (Nat×VS):=[(2,aV),(3,cU),(4,dK),(6,gF),(7,oD),(8,aa),(35,aa),(36,aa)]
def ZN:aH:=(⟨ajo,SD⟩,[(.exit 0,⟨ajo++[(37,aA)],SD⟩)])
abbrev ajp:List (Nat×VS):=[(2,aV),(3,cU),(4,dK),(6,gF),(7,oD),(8,aa),(70,aiA),(71,aa),(72,aa)]
def ZO:aH:=(⟨ajp,aiO⟩,[(.exit 4,⟨ajp++[(73,aA)],aiO⟩)])
def ZP:aH:=(⟨[(3,aV),(4,cU),(6,dK),(7,gF),(8,aa),(98,aA)],[Dt,vN,.var 104 [aa,aa,dm,dm,.one (.whole 107 8)],.var 104 [aa,aa,dm,dm,.one (.whole 107 9)],cJ,cZ,cJ,cZ,lx,lx]⟩,[(.norm,⟨[(4,aV),(6,cU),(7,dK),(8,aa)],[Gf,aiI,.var 104 [aa,aa,dm,dm,.one (.whole 107 6)],cJ,cZ,lx,lx]⟩)])
abbrev ajq:List (Nat×VS):=[(1,aV),(2,cU),(3,dK),(12,aa),(13,aa)]
def ZQ:aH:=(⟨ajq,Gj⟩,[(.exit 0,⟨ajq++[(14,aA)],Gj⟩)])
abbrev ajr:List (Nat×VS):=[(1,aV),(2,cU),(3,gQ),(4,dK),(5,aa),(6,aa),(8,uj),(21,gQ),(22,aa),(23,aa),(37,gQ),(38,aa),(39,aa)]
def ZR:aH:=(⟨ajr,aiP⟩,[(.exit 2,⟨ajr++[(40,aA)],aiP⟩)])
abbrev ajs:List (Nat×VS):=[(1,aV),(2,cU),(3,gQ),(4,dK),(5,aa),(21,gQ),(22,aa),(23,aa)]
def ZS:aH:=(⟨ajs,Gj⟩,[(.exit 0,⟨ajs++[(24,aA)],Gj⟩)])
def avc:aH:=(⟨[(1,aV),(3,kh),(4,aa),(5,dK),(18,hZ),(19,aa),(20,aa),(28,aA)],SF⟩,[(.norm,⟨ai4,SF⟩)])
def avd:aH:=(⟨[(1,aV),(3,kh),(4,aa),(5,dK),(18,hZ),(19,aa),(20,aa),(40,aA)],SF⟩,[(.norm,⟨ai4,SF⟩)])
abbrev ajt:List (Nat×VS):=[(1,aV),(3,kh),(18,hZ),(19,aa),(20,aa)]
def ave:aH:=(⟨ajt,[ny,dL]⟩,[(.exit 0,⟨ajt++[(21,aA)],[ny,dL]⟩)])
def ZT:aH:=(⟨[(0,aV),(3,oD),(8,vM),(10,mu),(11,aa),(45,aA)],[aiH,.dead,.map 87,.map 88,p8,KJ,nz,cJ,cZ]⟩,[(.norm,⟨[(0,aV),(3,oD),(11,aa)],[.var 90 [aa,.one (.whole 48 5),Sj,Sk],.dead,.map 87,.map 88,p8,nz]⟩)])
abbrev aju:List (Nat×VS):=[(1,aa),(2,mu),(3,aV),(30,aa),(31,aa)]
def ZU:aH:=(⟨aju,oE⟩,[(.exit 0,⟨aju++[(32,aA)],oE⟩)])
def ZV:aH:=(⟨[(1,aa),(2,aa),(3,aV),(17,aA)],[p8]⟩,[(.ret,⟨[(6,aA)],[]⟩),(.norm,⟨[(1,aa),(3,aV)],[p8]⟩)])
abbrev ajv:List (Nat×VS):=[(1,aa),(4,aV),(5,cU),(6,aa)]
def ZW:aH:=(⟨ajv,[Sw,Sw]⟩,[(.exit 0,⟨ajv++[(10,aA)],[Sw,Sw]⟩)])
abbrev ajw:List (Nat×VS):=[(2,fA),(3,aV),(7,cU),(20,Dn),(21,aa),(22,aa)]
def ZX:aH:=(⟨ajw,[td,.var 77 [YR],jr]⟩,[(.exit 0,⟨ajw++[(23,aA)],[td,.var 77 [YR],jr]⟩)])
abbrev ajx:List (Nat×VS):=[(3,aV),(4,cU),(7,xA),(8,gF),(9,aa)]
def avf:aH:=(⟨ajx,[td,Ge,jd,qP]⟩,[(.exit 0,⟨ajx++[(28,aA)],[td,Ge,jd,qP]⟩)])
abbrev ajy:List (Nat×VS):=[(3,aV),(8,cU),(10,YR),(11,gF),(12,aa)]
def avg:aH:=(⟨ajy,[td,qP,jr,Ds,jr]⟩,[(.exit 2,⟨ajy++[(48,aA)],[td,qP,jr,Ds,jr]⟩)])
abbrev ajz:List (Nat×VS):=[(2,fA),(3,aV),(4,cU),(7,dK),(20,Dn),(21,aa),(22,aa)]
def ZY:aH:=(⟨ajz,[td,Ge,xB,jr]⟩,[(.exit 0,⟨ajz++[(23,aA)],[td,Ge,xB,jr]⟩)])
def ZZ:aH:=(⟨[(1,.fn 54 [] [.ba 0 0 0,.ba 1 0 0,.ba 2 0 0]),(4,aa),(5,dm),(6,fA),(7,aa),(8,aa)],xD⟩,[(.exit 2,⟨[(1,.fn 54 [] [.ba 0 0 0,.ba 1 0 0,.ba 2 0 0]),(4,aa),(5,dm),(6,fA),(7,aa),(8,aa),(14,aA)],xD⟩)])
def Z0:aH:=(⟨[(1,.fn 54 [] [.ba 0 0 0,.ba 1 0 0,.ba 2 0 0]),(6,fA),(7,aa),(8,aa)],xD⟩,[(.exit 0,⟨[(1,.fn 54 [] [.ba 0 0 0,.ba 1 0 0,.ba 2 0 0]),(6,fA),(7,aa),(8,aa),(9,aA)],xD⟩)])
def Z1:aH:=(⟨[(0,aa),(1,aV),(2,cU),(3,dK),(10,aA)],xD⟩,[(.norm,⟨[],xD⟩)])
def Z2:aH:=(⟨[(2,aa),(3,aV),(4,cU),(6,dK),(9,KE),(10,Sn),(11,vM),(12,aa),(13,KG),(14,Dr),(15,aa),(16,.one (.ba 8 0 0)),(17,aa),(91,aA)],[eY,eY,Gg,vO,.map lu,aiJ,Gh,dL,Gh,cJ,cZ,cJ,cZ]⟩,[(.ret,⟨Y5,YZ⟩),(.norm,⟨[(2,aa),(3,aV),(4,cU),(6,dK),(9,KE),(10,Sn),(11,vM),(12,aa),(13,KG),(14,Dr),(15,aa),(17,aa)],Y0⟩)])
abbrev ajA:List (Nat×VS):=[(2,aa),(3,aV),(4,cU),(6,dK),(9,KE),(10,Sn),(11,vM),(12,aa),(13,KG),(14,Dr),(15,aa)]
def Z3:aH:=(⟨ajA,Y0⟩,[(.ret,⟨Y5,YZ⟩),(.exit 2,⟨ajA++[(62,aA)],Y0⟩)])
abbrev ajB:List (Nat×VS):=[(2,aa),(3,aV),(4,cU),(6,dK),(9,KE),(10,Sn),(11,vM),(12,aa)]
def Z4:aH:=(⟨ajB,aiQ⟩,[(.ret,⟨Y5,YZ⟩),(.exit 0,⟨ajB++[(52,aA)],aiQ⟩)])
def Z5:aH:=(⟨[(1,aV),(2,cU),(3,dK),(4,aa),(18,aa),(19,aa),(26,aA)],Gk⟩,[(.norm,⟨[(1,aV),(2,cU),(3,dK),(4,aa),(18,aa),(19,aa)],Gk⟩)])
abbrev ajC:List (Nat×VS):=[(1,aV),(2,cU),(3,dK),(4,aa),(18,aa),(19,aa),(37,gQ),(38,aa),(39,aa)]
def Z6:aH:=(⟨ajC,Gk⟩,[(.exit 2,⟨ajC++[(40,aA)],Gk⟩)])
abbrev ajD:List (Nat×VS):=[(1,aV),(2,cU),(3,dK),(18,aa),(19,aa)]
def Z7:aH:=(⟨ajD,Gk⟩,[(.exit 0,⟨ajD++[(20,aA)],Gk⟩)])
abbrev ajE:List (Nat×VS):=[(1,aV),(3,kh),(14,aa),(15,aa)]
def Z8:aH:=(⟨ajE,Dv⟩,[(.exit 0,⟨ajE++[(16,aA)],Dv⟩)])
abbrev ajF:List (Nat×VS):=[(1,aV),(3,gQ),(5,gQ),(6,aa),(7,kh),(37,aa),(38,aa)]
def Z9:aH:=(⟨ajF,Dv⟩,[(.exit 6,⟨ajF++[(39,aA)],Dv⟩)])
abbrev ajG:List (Nat×VS):=[(1,aV),(3,gQ),(5,gQ),(6,aa)]
def aaa:aH:=(⟨ajG,oE⟩,[(.exit 4,⟨ajG++[(33,aA)],oE⟩)])
def aab:aH:=(⟨[(1,aV),(3,gQ)],oE⟩,[(.ret,⟨[(2,gQ)],[]⟩)])
abbrev ajH:List (Nat×VS):=[(1,aV),(2,cU),(4,qO),(6,uj),(26,aa),(27,aa)]
def aac:aH:=(⟨ajH,SG⟩,[(.exit 0,⟨ajH++[(28,aA)],SG⟩)])
abbrev ajI:List (Nat×VS):=[(1,aV),(2,cU),(4,qO),(6,uj),(34,qO),(35,aa),(36,aa)]
def aad:aH:=(⟨ajI,SG⟩,[(.exit 2,⟨ajI++[(37,aA)],SG⟩)])
abbrev ajJ:List (Nat×VS):=[(1,aV),(2,cU),(6,qO),(10,gF),(12,aa),(13,xz),(49,Dq),(50,aa),(51,aa),(59,gQ),(60,aa),(61,aa)]
def aae:aH:=(⟨ajJ,aiR⟩,[(.exit 6,⟨ajJ++[(62,aA)],aiR⟩)])
abbrev ajK:List (Nat×VS):=[(1,aV),(2,cU),(6,qO),(10,gF),(49,xz),(50,aa),(51,aa)]
def aaf:aH:=(⟨ajK,aiS⟩,[(.exit 4,⟨ajK++[(52,aA)],aiS⟩)])
def aag:aH:=(⟨[(1,aV),(3,A7),(5,gQ),(12,rP),(13,aa),(14,aa),(23,aA)],Gl⟩,[(.norm,⟨[(1,aV),(3,A7),(5,gQ),(12,rP),(13,aa),(14,aa)],Gl⟩)])
abbrev ajL:List (Nat×VS):=[(1,aV),(3,A7),(12,rP),(13,aa),(14,aa),(27,gQ),(28,aa),(29,aa)]
def aah:aH:=(⟨ajL,Gl⟩,[(.exit 2,⟨ajL++[(30,aA)],Gl⟩)])
abbrev ajM:List (Nat×VS):=[(1,aV),(3,A7),(12,rP),(13,aa),(14,aa)]
def aai:aH:=(⟨ajM,Gl⟩,[(.exit 0,⟨ajM++[(15,aA)],Gl⟩)])
def aaj:aH:=(⟨ai5,oE⟩,[(.ret,⟨Dw,[]⟩),(.exit 2,⟨ai6,oE⟩)])
def aak:aH:=(⟨[(1,aV),(3,aa),(38,rP),(39,aa),(40,aa)],oE⟩,[(.ret,⟨Dw,[]⟩),(.exit 0,⟨ai7,oE⟩)])
abbrev ajN:List (Nat×VS):=[(1,aa),(53,Dn),(54,aa),(55,aa)]
def aal:aH:=(⟨ajN,[]⟩,[(.ret,⟨[(4,aA)],[]⟩),(.exit 1,⟨ajN++[(56,aA)],[]⟩)])
abbrev ajO:List (Nat×VS):=[(0,Sp),(1,fA),(6,aa)]
def aam:aH:=(⟨ajO,[jd]⟩,[(.exit 0,⟨ajO++[(12,aA)],[jd]⟩)])
abbrev ajP:List (Nat×VS):=[(0,aa),(1,aV),(2,cU),(3,dK),(10,aa),(11,aa)]
def aan:aH:=(⟨ajP,xE⟩,[(.exit 0,⟨ajP++[(12,aA)],xE⟩)])
abbrev ajQ:List (Nat×VS):=[(0,aa),(1,aV),(2,cU),(3,dK),(5,YP),(6,aa)]
def aao:aH:=(⟨ajQ,[td,qP,xB,jr,jd]⟩,[(.exit 0,⟨ajQ++[(13,aA)],[td,qP,xB,jr,jd]⟩)])
def aap:aH:=(⟨[(0,aa),(2,aA),(7,aa),(8,aA)],[]⟩,[(.norm,⟨[(0,aa),(2,aA),(7,aa)],[]⟩)])
abbrev ajR:List (Nat×VS):=[(3,dy),(5,cU),(6,aa),(7,p7),(8,aa),(9,aa)]
def aaq:aH:=(⟨ajR,[lx,.var 107 [aa,aa,aa]]⟩,[(.exit 2,⟨ajR++[(25,aA)],[lx,.var 107 [aa,aa,aa]]⟩)])
abbrev ajS:List (Nat×VS):=[(3,dy),(7,p7),(8,aa),(9,aa)]
def aar:aH:=(⟨ajS,cO⟩,[(.exit 0,⟨ajS++[(10,aA)],cO⟩)])
def aas:aH:=(⟨[(1,aV),(2,cU),(6,xA),(7,KF),(8,oD),(9,aa),(10,Dq),(11,aa),(12,dm),(13,aa),(57,aA)],SH⟩,[(.ret,⟨Y6,Y1⟩),(.norm,⟨[(1,aV),(2,cU),(6,xA),(7,KF),(8,oD),(9,aa),(10,Dq),(11,aa),(13,aa)],SH⟩)])
abbrev ajT:List (Nat×VS):=[(1,aV),(2,cU),(6,xA),(7,KF),(8,oD),(9,aa),(10,Dq),(11,aa)]
def aat:aH:=(⟨ajT,SH⟩,[(.ret,⟨Y6,Y1⟩),(.exit 2,⟨ajT++[(40,aA)],SH⟩)])
abbrev ajU:List (Nat×VS):=[(1,aV),(2,cU),(6,xA),(7,KF),(8,oD),(9,aa)]
def aau:aH:=(⟨ajU,aiT⟩,[(.ret,⟨Y6,Y1⟩),(.exit 0,⟨ajU++[(34,aA)],aiT⟩)])
abbrev ajV:List (Nat×VS):=[(3,.one (.cX kf 0)),(4,kh),(13,gQ),(14,aa),(15,aa)]
def aav:aH:=(⟨ajV,[.map kf,dL]⟩,[(.exit 0,⟨ajV++[(16,aA)],[.map kf,dL]⟩)])
abbrev ajW:List (Nat×VS):=[(0,gQ),(1,gQ),(5,A5),(11,aa),(12,aa)]
def aaw:aH:=(⟨ajW,rQ⟩,[(.exit 0,⟨ajW++[(13,aA)],rQ⟩)])
abbrev ajX:List (Nat×VS):=[(0,gQ),(1,gQ),(12,aa),(13,aa)]
def aax:aH:=(⟨ajX,[]⟩,[(.ret,⟨[(4,aA)],[]⟩),(.exit 0,⟨ajX++[(14,aA)],[]⟩)])
abbrev ajY:List (Nat×VS):=[(1,aV),(4,kh),(5,aiB),(6,YN),(7,aa),(8,aa)]
def aay:aH:=(⟨ajY,SI⟩,[(.exit 2,⟨ajY++[(31,aA)],SI⟩)])
abbrev ajZ:List (Nat×VS):=[(1,aV),(4,kh),(5,aiB),(6,YN),(7,aa)]
def aaz:aH:=(⟨ajZ,SI⟩,[(.exit 0,⟨ajZ++[(25,aA)],SI⟩)])
def aaA:aH:=(⟨[(4,aV),(7,cU),(9,dK),(10,aa),(66,aA)],aiU⟩,[(.norm,⟨[(4,aV),(7,cU),(9,dK),(10,aa)],aiU⟩)])
abbrev aj0:List (Nat×VS):=[(1,aV),(2,cU),(3,dK),(16,Dm),(17,aa),(18,aa)]
def aaB:aH:=(⟨aj0,Gj⟩,[(.exit 0,⟨aj0++[(19,aA)],Gj⟩)])
abbrev aj1:List (Nat×VS):=[(1,aa),(2,aV),(23,Dn),(24,aa),(25,aa)]
def aaC:aH:=(⟨aj1,qR⟩,[(.ret,⟨[(6,aA)],qR⟩),(.exit 0,⟨aj1++[(26,aA)],qR⟩)])
def aaD:aH:=(⟨ai5,oE⟩,[(.ret,⟨Dw,[]⟩),(.exit 2,⟨ai6,oE⟩)])
def aaE:aH:=(⟨[(1,aV),(3,aa),(38,rP),(39,aa),(40,aa)],oE⟩,[(.ret,⟨Dw,[]⟩),(.exit 0,⟨ai7,oE⟩)])
abbrev aj2:List (Nat×VS):=[(1,aV),(38,p7),(39,aa),(40,aa)]
def aaF:aH:=(⟨aj2,[qQ]⟩,[(.ret,⟨Dw,[]⟩),(.exit 0,⟨aj2++[(41,aA)],[qQ]⟩)])
abbrev aj3:List (Nat×VS):=[(1,dm),(2,aa),(7,dm),(11,p7),(12,aa),(13,aa)]
def aaG:aH:=(⟨aj3,[]⟩,[(.exit 0,⟨aj3++[(14,aA)],[]⟩)])
abbrev aj4:List (Nat×VS):=[(1,aa),(5,A5),(13,aa),(14,aa)]
def aaH:aH:=(⟨aj4,rQ⟩,[(.exit 0,⟨aj4++[(15,aA)],rQ⟩)])
abbrev aj5:List (Nat×VS):=[(0,aV),(2,aa),(6,aa),(11,rP),(12,aa),(13,aa),(18,gQ),(19,aa),(20,aa)]
def aaI:aH:=(⟨aj5,uo⟩,[(.exit 2,⟨aj5++[(21,aA)],uo⟩)])
abbrev aj6:List (Nat×VS):=[(0,aV),(2,aa),(11,rP),(12,aa),(13,aa)]
def aaJ:aH:=(⟨aj6,uo⟩,[(.exit 0,⟨aj6++[(14,aA)],uo⟩)])
abbrev aj7:List (Nat×VS):=[(0,aV),(1,Dm),(2,aa),(13,aiw),(14,aa),(15,aa)]
def aaK:aH:=(⟨aj7,[.var 161 [aa,aa,dm,dm,YQ],.dead,lx,lx]⟩,[(.exit 0,⟨aj7++[(16,aA)],[.var 161 [aa,aa,dm,dm,YQ],.dead,lx,lx]⟩)])
abbrev aj8:List (Nat×VS):=[(0,aV),(2,aa),(8,Dm),(9,aa),(10,aa)]
def aaL:aH:=(⟨aj8,uo⟩,[(.exit 0,⟨aj8++[(11,aA)],uo⟩)])
abbrev aj9:List (Nat×VS):=[(1,aV),(2,cU),(4,dK),(5,uj),(6,xz),(7,vM),(8,aa),(10,YS),(28,xz),(29,aa),(30,aa),(47,gQ),(48,aa),(49,aa)]
def aaM:aH:=(⟨aj9,aiV⟩,[(.exit 2,⟨aj9++[(50,aA)],aiV⟩)])
abbrev aka:List (Nat×VS):=[(1,aV),(2,cU),(4,dK),(5,uj),(6,xz),(7,vM),(28,xz),(29,aa),(30,aa)]
def aaN:aH:=(⟨aka,aiW⟩,[(.exit 0,⟨aka++[(31,aA)],aiW⟩)])
abbrev akb:List (Nat×VS):=[(2,aV),(6,kh),(13,dK),(14,uj),(15,xz),(87,Dq),(88,aa),(89,aa)]
def aaO:aH:=(⟨akb,aiX⟩,[(.exit 4,⟨akb++[(90,aA)],aiX⟩)])
def aaP:aH:=(⟨[(0,aa),(2,.fn 115 [] [.ba 0 0 0,.ba 1 0 0]),(3,.fn 116 [] [.ba 0 0 0,.ba 1 0 0,.ba 2 0 0]),(8,gF),(11,oD),(12,vM),(13,aa),(14,KG),(15,Dr),(36,aa),(37,aa)],aiY⟩,[(.exit 2,⟨[(0,aa),(2,.fn 115 [] [.ba 0 0 0,.ba 1 0 0]),(3,.fn 116 [] [.ba 0 0 0,.ba 1 0 0,.ba 2 0 0]),(8,gF),(11,oD),(12,vM),(13,aa),(14,KG),(15,Dr),(36,aa),(37,aa),(38,aA)],aiY⟩)])
def aaQ:aH:=(⟨[(0,aa),(2,.fn 115 [] [.ba 0 0 0,.ba 1 0 0]),(3,.fn 116 [] [.ba 0 0 0,.ba 1 0 0,.ba 2 0 0]),(8,gF),(11,oD),(12,vM),(13,aa)],aiZ⟩,[(.ret,⟨[(8,gF),(9,.one (.whole 122 6)),(10,aa)],[eY,eY,qP,Dt,cJ,cZ,vO]⟩),(.exit 0,⟨[(0,aa),(2,.fn 115 [] [.ba 0 0 0,.ba 1 0 0]),(3,.fn 116 [] [.ba 0 0 0,.ba 1 0 0,.ba 2 0 0]),(8,gF),(11,oD),(12,vM),(13,aa),(25,aA)],aiZ⟩)])
def aaR:aH:=(⟨[(2,cU),(3,dK),(4,gF),(6,aa),(12,aA)],[eY,eY,qP,Gh]⟩,[(.norm,⟨[(2,cU),(3,dK),(4,gF),(6,aa)],[eY,eY,qP,Gh]⟩)])
abbrev akc:List (Nat×VS):=[(3,aa),(6,gQ),(7,aa),(8,aa)]
def aaS:aH:=(⟨akc,[]⟩,[(.ret,⟨Dw,[]⟩),(.exit 0,⟨akc++[(9,aA)],[]⟩)])
abbrev akd:List (Nat×VS):=[(0,dy),(3,aa),(4,.one (.sub 107 0)),(5,aa)]
def aaT:aH:=(⟨akd,cO⟩,[(.exit 2,⟨akd++[(32,aA)],cO⟩)])
def aaU:aH:=(⟨[(0,dy),(3,aa)],cO⟩,[(.ret,⟨[(2,YO)],[.dead,lx]⟩),(.exit 0,⟨[(0,dy),(3,aa),(13,aA)],cO⟩)])
abbrev ake:List (Nat×VS):=[(2,aV),(4,cU),(5,qO),(7,uj),(31,aa),(32,aa)]
def aaV:aH:=(⟨ake,SJ⟩,[(.exit 0,⟨ake++[(33,aA)],SJ⟩)])
abbrev akf:List (Nat×VS):=[(2,aV),(4,cU),(7,qO),(39,uj),(40,aa),(41,aa)]
def aaW:aH:=(⟨akf,SJ⟩,[(.exit 2,⟨akf++[(42,aA)],SJ⟩)])
abbrev akg:List (Nat×VS):=[(1,aV),(3,kh),(4,aa),(24,Dm),(25,aa),(26,aa)]
def aaX:aH:=(⟨akg,Dv⟩,[(.exit 0,⟨akg++[(27,aA)],Dv⟩)])
abbrev akh:List (Nat×VS):=[(1,aV),(3,kh),(4,aa),(7,aiC),(8,uj),(9,aa),(11,oD),(46,rP),(47,aa),(48,aa),(58,gQ),(59,aa),(60,aa)]
def aaY:aH:=(⟨akh,[eY,dL,.map 179,dL,.var 181 [aa,aa,aa,aa,aa,aa,aa]]⟩,[(.exit 6,⟨akh++[(61,aA)],[eY,dL,.map 179,dL,.var 181 [aa,aa,aa,aa,aa,aa,aa]]⟩)])
abbrev aki:List (Nat×VS):=[(1,aV),(3,kh),(4,aa),(7,aiC),(8,uj),(46,rP),(47,aa),(48,aa)]
def aaZ:aH:=(⟨aki,[eY,dL,.map 179,dL]⟩,[(.exit 4,⟨aki++[(49,aA)],[eY,dL,.map 179,dL]⟩)])
def aa0:aH:=(⟨[(1,aV),(3,kh),(4,aa)],Dv⟩,[(.ret,⟨[(2,A5)],rQ⟩)])
def aa1:aH:=(⟨[(0,dy),(1,aa),(2,aa),(3,aa),(4,.fn dA [] []),(10,aA),(11,aA),(12,aa),(39,aA)],cO⟩,[(.norm,⟨[(0,dy),(1,aa),(2,aa),(3,aa),(4,.fn dA [] []),(10,aA),(11,aA),(12,aa)],cO⟩)])
def aa2:aH:=(⟨[(0,dy),(1,aa),(2,aa),(3,aa),(4,.fn dA [] []),(10,aA),(11,aA),(12,aa),(13,aa),(14,aa),(56,aA)],cO⟩,[(.norm,⟨[(0,dy),(1,aa),(2,aa),(3,aa),(4,.fn dA [] []),(10,aA),(11,aA),(12,aa),(13,aa),(14,aa)],cO⟩)])
def aa3:aH:=(⟨[(0,dy),(1,aa),(2,aa),(3,aa),(4,.fn dA [] []),(10,aA),(11,aA),(12,aa),(13,aa),(75,aA)],cO⟩,[(.ret,⟨[(0,dy),(1,aa),(2,aa),(3,aa),(4,.fn dA [] []),(10,aA),(11,aA),(12,aa),(13,aa),(80,aA)],cO⟩),(.norm,⟨[(0,dy),(1,aa),(2,aa),(3,aa),(4,.fn dA [] []),(10,aA),(11,aA),(12,aa),(13,aa)],cO⟩)])
def aa4:aH:=(⟨[(0,dy),(1,aa),(2,aa),(3,aa),(4,.fn dA [] []),(10,aA),(11,aA)],cO⟩,[(.ret,⟨[],cO⟩)])
abbrev akj:List (Nat×VS):=[(0,Sq),(1,dm),(4,aa)]
def avh:aH:=(⟨akj,xF⟩,[(.exit 0,⟨akj++[(20,aA)],xF⟩)])
def avi:aH:=(⟨[(0,Sq),(4,aa),(12,.one (.int .u32)),(99,aA)],xF⟩,[(.norm,⟨[(0,Sq),(4,aa),(12,.one (.int .u32))],xF⟩)])
def aa5:aH:=(⟨[(0,aa),(2,.fn 139 [] [.ba 0 0 0]),(3,.fn 140 [] [.ba 0 0 0]),(8,cU),(11,dK),(12,gF),(13,aa),(14,aa),(15,xz),(36,aa),(37,aa)],[eY,A9,.var 200 [Dr,.one (.cX kf 8)],Gg,dL,cJ,cZ,dL,.map kf,cJ,cZ]⟩,[(.exit 2,⟨[(0,aa),(2,.fn 139 [] [.ba 0 0 0]),(3,.fn 140 [] [.ba 0 0 0]),(8,cU),(11,dK),(12,gF),(13,aa),(14,aa),(15,xz),(36,aa),(37,aa),(38,aA)],[eY,A9,.var 200 [Dr,.one (.cX kf 8)],Gg,dL,cJ,cZ,dL,.map kf,cJ,cZ]⟩)])
def aa6:aH:=(⟨[(0,aa),(2,.fn 139 [] [.ba 0 0 0]),(3,.fn 140 [] [.ba 0 0 0]),(8,cU),(11,dK),(12,gF),(13,aa)],[eY,Dt,.var 200 [YS,.one (.cX kf 7)],xC,cJ,cZ,dL,.map kf,cJ,cZ]⟩,[(.ret,⟨[(8,cU),(9,xz),(10,aa)],[eY,YW,cJ,cZ,dL]⟩),(.exit 0,⟨[(0,aa),(2,.fn 139 [] [.ba 0 0 0]),(3,.fn 140 [] [.ba 0 0 0]),(8,cU),(11,dK),(12,gF),(13,aa),(25,aA)],[eY,Dt,.var 200 [YS,.one (.cX kf 7)],xC,cJ,cZ,dL,.map kf,cJ,cZ]⟩)])
def aa7:aH:=(⟨[(0,dy),(1,aa),(2,aa),(3,.fn dA [] []),(8,aa),(9,aa)],cO⟩,[(.exit 2,⟨[(0,dy),(1,aa),(2,aa),(3,.fn dA [] []),(8,aa),(9,aa),(34,aA)],cO⟩)])
def aa8:aH:=(⟨[(0,dy),(1,aa),(2,aa),(3,.fn dA [] []),(8,aa)],cO⟩,[(.exit 0,⟨[(0,dy),(1,aa),(2,aa),(3,.fn dA [] []),(8,aa),(14,aA)],cO⟩)])
def aa9:aH:=(⟨[(0,dy),(3,.fn dA [] []),(8,aa),(9,aa),(10,aa),(11,aa)],cO⟩,[(.exit 0,⟨[(0,dy),(3,.fn dA [] []),(8,aa),(9,aa),(10,aa),(11,aa),(21,aA)],cO⟩)])
def aba:aH:=(⟨[(0,dy),(3,.fn dA [] []),(8,aa),(9,aa),(12,aa)],cO⟩,[(.exit 2,⟨[(0,dy),(3,.fn dA [] []),(8,aa),(9,aa),(12,aa),(33,aA)],cO⟩)])
def abb:aH:=(⟨[(0,dy),(1,aa),(8,aa),(9,cU),(10,dm),(11,aa),(12,aa),(45,aA)],SK⟩,[(.norm,⟨[(0,dy),(1,aa),(8,aa),(9,cU),(10,dm),(11,aa),(12,aa)],SK⟩)])
abbrev akk:List (Nat×VS):=[(0,dy),(1,aa),(8,aa),(9,cU),(10,dm),(11,aa)]
def abc:aH:=(⟨akk,SK⟩,[(.exit 0,⟨akk++[(35,aA)],SK⟩)])
def abd:aH:=(⟨[(0,p7),(3,.fn dA [] []),(11,aV),(12,aa),(13,aa),(14,aa),(36,aA)],qR⟩,[(.norm,⟨[(0,p7),(3,.fn dA [] []),(11,aV),(12,aa),(13,aa),(14,aa)],qR⟩)])
def abe:aH:=(⟨[(0,p7),(3,.fn dA [] []),(10,aa),(11,aV),(12,aa),(13,aa),(14,aa),(34,aA)],qR⟩,[(.norm,⟨[(11,aV),(13,aa)],qR⟩)])
abbrev akl:List (Nat×VS):=[(0,dy),(8,aa),(9,aa)]
def abf:aH:=(⟨akl,cO⟩,[(.exit 0,⟨akl++[(15,aA)],cO⟩)])
def abg:aH:=(⟨[(0,dy),(1,aa),(2,aa),(3,.fn dA [] []),(9,aa),(10,aa)],cO⟩,[(.exit 2,⟨[(0,dy),(1,aa),(2,aa),(3,.fn dA [] []),(9,aa),(10,aa),(36,aA)],cO⟩)])
def abh:aH:=(⟨[(0,dy),(1,aa),(2,aa),(3,.fn dA [] []),(9,aa),(10,aa),(11,aa)],cO⟩,[(.exit 4,⟨[(0,dy),(1,aa),(2,aa),(3,.fn dA [] []),(9,aa),(10,aa),(11,aa)],cO⟩)])
def abi:aH:=(⟨[(0,dy),(1,aa),(2,aa),(3,.fn dA [] []),(9,aa),(10,aa),(65,aA)],cO⟩,[(.norm,⟨[(0,dy),(1,aa),(2,aa),(3,.fn dA [] []),(9,aa),(10,aa)],cO⟩)])
def abj:aH:=(⟨[(0,dy),(1,aa),(2,aa),(3,.fn dA [] []),(9,aa),(10,aa),(12,aa)],cO⟩,[(.exit 6,⟨[(0,dy),(1,aa),(2,aa),(3,.fn dA [] []),(9,aa),(10,aa),(12,aa)],cO⟩)])
def abk:aH:=(⟨[(0,dy),(1,aa),(2,aa),(3,.fn dA [] []),(9,aa),(10,aa)],cO⟩,[(.ret,⟨[(8,aA)],cO⟩),(.exit 0,⟨[(0,dy),(1,aa),(2,aa),(3,.fn dA [] []),(9,aa),(10,aa),(16,aA)],cO⟩)])
def abl:aH:=(⟨[(0,dy),(1,aa),(4,.fn dA [] []),(11,aa),(12,aa)],cO⟩,[(.exit 2,⟨[(0,dy),(1,aa),(4,.fn dA [] []),(11,aa),(12,aa),(47,aA)],cO⟩)])
def abm:aH:=(⟨[(0,dy),(1,aa),(4,.fn dA [] []),(11,aa),(12,aa)],cO⟩,[(.exit 4,⟨[(0,dy),(1,aa),(4,.fn dA [] []),(11,aa),(12,aa),(65,aA)],cO⟩)])
def abn:aH:=(⟨[(0,dy),(1,aa),(4,.fn dA [] []),(11,aa),(12,aa)],cO⟩,[(.exit 0,⟨[(0,dy),(1,aa),(4,.fn dA [] []),(11,aa),(12,aa),(70,aA)],cO⟩)])
def abo:aH:=(⟨[(0,dy),(1,aa),(4,.fn dA [] []),(12,aa),(13,aa)],cO⟩,[(.exit 0,⟨[(0,dy),(1,aa),(4,.fn dA [] []),(12,aa),(13,aa),(47,aA)],cO⟩)])
def abp:aH:=(⟨[(0,dy),(1,aa),(4,.fn dA [] []),(12,aa),(13,aa)],cO⟩,[(.exit 2,⟨[(0,dy),(1,aa),(4,.fn dA [] []),(12,aa),(13,aa),(66,aA)],cO⟩)])
def abq:aH:=(⟨[(0,dy),(1,aa),(4,.fn dA [] []),(12,aa),(13,aa)],cO⟩,[(.exit 6,⟨[(0,dy),(1,aa),(4,.fn dA [] []),(12,aa),(13,aa),(120,aA)],cO⟩)])
def abr:aH:=(⟨[(0,dy),(1,aa),(4,.fn dA [] []),(12,aa),(13,aa)],cO⟩,[(.exit 8,⟨[(0,dy),(1,aa),(4,.fn dA [] []),(12,aa),(13,aa),(139,aA)],cO⟩)])
def abt:aH:=(⟨[(0,dy),(1,aa),(4,.fn dA [] []),(12,aa),(13,aa)],cO⟩,[(.exit 4,⟨[(0,dy),(1,aa),(4,.fn dA [] []),(12,aa),(13,aa),(144,aA)],cO⟩)])
def abu:aH:=(⟨[(0,dm),(2,aa),(4,aA)],[]⟩,[(.norm,⟨[(0,dm),(2,aa)],[]⟩)])
def abv:aH:=(⟨[(0,dm),(2,aa),(8,aA)],[]⟩,[(.norm,⟨[(0,dm),(2,aa)],[]⟩)])
abbrev akm:List (Nat×VS):=[(1,aV),(34,p7),(35,aa),(36,aa)]
def abw:aH:=(⟨akm,[qQ]⟩,[(.ret,⟨Dw,[]⟩),(.exit 0,⟨akm++[(37,aA)],[qQ]⟩)])
def abx:aH:=(⟨[(0,aa),(2,.fn 168 [] [.ba 0 0 0]),(3,.fn 154 [] [.ba 1 0 0]),(8,dK),(11,gF),(12,oD),(13,aa),(14,dm),(15,Dq),(36,aa),(37,aa)],ai0⟩,[(.exit 2,⟨[(0,aa),(2,.fn 168 [] [.ba 0 0 0]),(3,.fn 154 [] [.ba 1 0 0]),(8,dK),(11,gF),(12,oD),(13,aa),(14,dm),(15,Dq),(36,aa),(37,aa),(38,aA)],ai0⟩)])
def aby:aH:=(⟨[(0,aa),(2,.fn 168 [] [.ba 0 0 0]),(3,.fn 154 [] [.ba 1 0 0]),(8,dK),(11,gF),(12,oD),(13,aa)],ai1⟩,[(.ret,⟨[(8,dK),(9,aiy),(10,aa)],[Ba,qQ,Gf,cJ,cZ,jd]⟩),(.exit 0,⟨[(0,aa),(2,.fn 168 [] [.ba 0 0 0]),(3,.fn 154 [] [.ba 1 0 0]),(8,dK),(11,gF),(12,oD),(13,aa),(25,aA)],ai1⟩)])
abbrev akn:List (Nat×VS):=[(1,aV),(3,cU),(11,aa),(12,aa)]
def abz:aH:=(⟨akn,[qQ,.var 208 [.one (.whole 73 2)],Sz]⟩,[(.exit 0,⟨akn++[(13,aA)],[qQ,.var 208 [.one (.whole 73 2)],Sz]⟩)])
abbrev ako:List (Nat×VS):=[(3,aV),(23,p7),(24,aa),(25,aa)]
def abA:aH:=(⟨ako,[.var 208 [.one (.whole 73 1)],Sz]⟩,[(.exit 2,⟨ako++[(26,aA)],[.var 208 [.one (.whole 73 1)],Sz]⟩)])
def abB:aH:=(⟨[(0,dy),(2,aa),(3,aa),(4,.fn dA [] []),(10,aa),(11,aa),(40,aA)],cO⟩,[(.norm,⟨[(0,dy),(2,aa),(3,aa),(4,.fn dA [] []),(10,aa),(11,aa)],cO⟩)])
def abC:aH:=(⟨[(0,dy),(2,aa),(3,aa),(4,.fn dA [] []),(10,aa)],cO⟩,[(.exit 0,⟨[(0,dy),(2,aa),(3,aa),(4,.fn dA [] []),(10,aa),(11,aa),(18,aA)],cO⟩),(.ret,⟨[(0,dy),(2,aa),(3,aa),(4,.fn dA [] []),(10,aa),(11,aa),(58,aA)],cO⟩)])
abbrev akp:List (Nat×VS):=[(0,fA),(5,dm),(16,A5),(17,aa),(18,aa)]
def abD:aH:=(⟨akp,rQ⟩,[(.exit 0,⟨akp++[(19,aA)],rQ⟩)])
abbrev akq:List (Nat×VS):=[(0,fA),(8,fA),(9,aa),(10,aa)]
def abE:aH:=(⟨akq,[]⟩,[(.ret,⟨[(2,aA)],[]⟩),(.exit 0,⟨akq++[(11,aA)],[]⟩)])
def abF:aH:=(⟨[(0,dm),(3,A5)],rQ⟩,[(.exit 0,⟨[(0,dm),(3,A5),(5,aA)],rQ⟩)])
def abG:aH:=(⟨[(1,.fn 76 [] [.ba 0 0 0,.ba 1 0 0,.ba 2 0 0]),(4,aa),(5,dm),(6,fA),(7,aa),(8,aa)],Bd⟩,[(.exit 2,⟨[(1,.fn 76 [] [.ba 0 0 0,.ba 1 0 0,.ba 2 0 0]),(4,aa),(5,dm),(6,fA),(7,aa),(8,aa),(14,aA)],Bd⟩)])
def abH:aH:=(⟨[(1,.fn 76 [] [.ba 0 0 0,.ba 1 0 0,.ba 2 0 0]),(6,fA),(7,aa),(8,aa)],Bd⟩,[(.exit 0,⟨[(1,.fn 76 [] [.ba 0 0 0,.ba 1 0 0,.ba 2 0 0]),(6,fA),(7,aa),(8,aa),(9,aA)],Bd⟩)])
def abI:aH:=(⟨[(1,.fn 75 [] [.ba 0 0 0,.ba 1 0 0,.ba 2 0 0]),(4,aa),(5,dm),(6,fA),(7,aa),(8,aa)],xE⟩,[(.exit 2,⟨[(1,.fn 75 [] [.ba 0 0 0,.ba 1 0 0,.ba 2 0 0]),(4,aa),(5,dm),(6,fA),(7,aa),(8,aa),(14,aA)],xE⟩)])
def abJ:aH:=(⟨[(1,.fn 75 [] [.ba 0 0 0,.ba 1 0 0,.ba 2 0 0]),(6,fA),(7,aa),(8,aa)],xE⟩,[(.exit 0,⟨[(1,.fn 75 [] [.ba 0 0 0,.ba 1 0 0,.ba 2 0 0]),(6,fA),(7,aa),(8,aa),(9,aA)],xE⟩)])
def abK:aH:=(⟨[(1,.fn 68 [] [.ba 0 0 0,.ba 1 0 0]),(4,aa),(5,dm),(6,fA),(7,aa),(8,aa)],Gm⟩,[(.exit 2,⟨[(1,.fn 68 [] [.ba 0 0 0,.ba 1 0 0]),(4,aa),(5,dm),(6,fA),(7,aa),(8,aa),(14,aA)],Gm⟩)])
def abL:aH:=(⟨[(1,.fn 68 [] [.ba 0 0 0,.ba 1 0 0]),(6,fA),(7,aa),(8,aa)],Gm⟩,[(.exit 0,⟨[(1,.fn 68 [] [.ba 0 0 0,.ba 1 0 0]),(6,fA),(7,aa),(8,aa),(9,aA)],Gm⟩)])
def abM:aH:=(⟨[(1,.fn 71 [] [.ba 0 0 0,.ba 1 0 0,.ba 2 0 0,.ba 3 0 0]),(4,aa),(5,dm),(6,fA),(7,aa),(8,aa)],Be⟩,[(.exit 2,⟨[(1,.fn 71 [] [.ba 0 0 0,.ba 1 0 0,.ba 2 0 0,.ba 3 0 0]),(4,aa),(5,dm),(6,fA),(7,aa),(8,aa),(14,aA)],Be⟩)])
def abN:aH:=(⟨[(1,.fn 71 [] [.ba 0 0 0,.ba 1 0 0,.ba 2 0 0,.ba 3 0 0]),(6,fA),(7,aa),(8,aa)],Be⟩,[(.exit 0,⟨[(1,.fn 71 [] [.ba 0 0 0,.ba 1 0 0,.ba 2 0 0,.ba 3 0 0]),(6,fA),(7,aa),(8,aa),(9,aA)],Be⟩)])
def abO:aH:=(⟨[(1,.fn 72 [] [.ba 0 0 0,.ba 1 0 0,.ba 2 0 0]),(4,aa),(5,dm),(6,fA),(7,aa),(8,aa)],Gn⟩,[(.exit 2,⟨[(1,.fn 72 [] [.ba 0 0 0,.ba 1 0 0,.ba 2 0 0]),(4,aa),(5,dm),(6,fA),(7,aa),(8,aa),(14,aA)],Gn⟩)])
def abP:aH:=(⟨[(1,.fn 72 [] [.ba 0 0 0,.ba 1 0 0,.ba 2 0 0]),(6,fA),(7,aa),(8,aa)],Gn⟩,[(.exit 0,⟨[(1,.fn 72 [] [.ba 0 0 0,.ba 1 0 0,.ba 2 0 0]),(6,fA),(7,aa),(8,aa),(9,aA)],Gn⟩)])
def avj:List (Nat×FuncId):=[(3,3),(4,4),(5,5),(6,6),(7,7),(8,8),(9,9),(10,10),(11,11),(12,12),(13,13),(14,14),(15,15),(16,16),(17,17),(18,18),(19,19),(20,20),(21,21),(22,22),(23,23),(24,24),(25,25),(26,26),(27,27),(28,28),(29,29),(30,30),(31,31),(32,32),(33,33),(34,34),(35,35),(36,36),(37,37),(38,38),(39,39),(40,40),(41,41),(42,42),(43,43),(44,44),(45,45),(46,46),(47,47),(48,48),(49,49),(50,50),(51,51),(52,52),(53,53),(54,54),(55,55),(56,56),(57,57),(58,58),(59,59),(60,60),(61,61),(62,62),(63,63),(64,64),(65,65),(66,66),(67,67),(68,68),(69,69),(70,70),(71,71),(72,72),(75,75),(76,76),(77,77),(78,78),(79,79),(80,80),(81,81),(82,82),(83,83),(84,84),(85,85),(86,86),(87,87),(88,88),(89,89),(90,90),(91,91),(92,92),(93,93),(94,94),(95,95),(96,96),(97,97),(98,98),(99,99),(100,100),(101,101),(102,102),(103,103),(104,104),(105,105),(106,106),(107,107),(108,108),(110,110),(111,111),(112,112),(113,113),(114,114),(115,115),(116,116),(117,117),(119,119),(120,120),(121,dA),(122,122),(123,123),(124,124),(125,125),(126,126),(127,127),(128,128),(129,129),(130,130),(131,131),(132,132),(133,133),(134,134),(135,135),(136,136),(138,138),(139,139),(140,140),(141,141),(142,142),(143,143),(144,144),(145,145),(146,146),(147,147),(148,148),(150,150),(151,151),(152,152),(153,153),(154,154),(155,155),(156,156),(159,159),(160,160),(161,161),(162,162),(163,163),(164,164),(165,165),(166,166),(167,167),(168,168),(169,169),(171,171),(172,172),(173,173),(174,174),(198,159),(199,129),(201,27),(202,53),(203,53),(205,53),(206,53),(207,53),(208,92),(209,167)]
def avk:List (Nat×Shape):=[(3,⟨Y7,[]⟩),(4,⟨[(0,gQ)],[]⟩),(5,⟨Gp,[uk]⟩),(6,⟨[(0,aV),(1,aa),(2,aa)],[uk]⟩),(7,⟨[(0,aV),(1,aa),(2,aa)],[uk]⟩),(8,⟨[(0,KI),(1,mu)],[]⟩),(9,⟨KO,[]⟩),(10,⟨Gq,[]⟩),(11,⟨[(0,Gb),(1,mu)],[]⟩),(12,⟨KO,[]⟩),(13,⟨[],[]⟩),(14,⟨KO,[]⟩),(15,⟨[(0,A8),(1,mu)],[]⟩),(16,⟨Bg,[]⟩),(17,⟨KO,[]⟩),(18,⟨[(0,mu),(1,aa)],[]⟩),(19,⟨[(0,KI)],[]⟩),(20,⟨[(0,Ss),(1,A6),(2,mu)],[]⟩),(21,⟨[(0,KH),(1,aa)],[]⟩),(22,⟨[(0,KI)],[]⟩),(23,⟨[(0,hZ),(1,aa)],[]⟩),(24,⟨Gq,[]⟩),(25,⟨Gq,[]⟩),(26,⟨[(0,YT)],[]⟩),(27,⟨[(0,Sp),(1,aa)],[jd]⟩),(28,⟨SO,[]⟩),(29,⟨[(0,fA),(1,aa)],[]⟩),(30,⟨KO,[]⟩),(31,⟨[(0,aa),(1,aA)],[]⟩),(32,⟨SP,[]⟩),(33,⟨SQ,[]⟩),(34,⟨rR,[]⟩),(35,⟨rR,[]⟩),(36,⟨[],[]⟩),(37,⟨[(0,KI)],[]⟩),(38,⟨eS,[]⟩),(39,⟨[(0,aV),(1,Ss)],KM⟩),(40,⟨[(0,A8),(1,aa),(2,mu)],[]⟩),(41,⟨[(0,Ss),(1,aa),(2,aa)],[]⟩),(42,⟨[(0,KH),(1,aa)],[]⟩),(43,⟨Bg,[]⟩),(44,⟨Y8,[]⟩),(45,⟨Y8,[]⟩),(46,⟨Y8,[]⟩),(47,⟨eS,[]⟩),(48,⟨[(0,Gb),(1,aa)],[]⟩),(49,⟨[(0,YT),(1,Dn),(2,fA)],[]⟩),(50,⟨SO,[]⟩),(51,⟨SO,[]⟩),(52,⟨SO,[]⟩),(53,⟨[(0,fA),(1,.fn 54 [] [.ba 0 0 0,.ba 1 0 0,.ba 2 0 0])],xD⟩),(54,⟨SR,xD⟩),(55,⟨eS,[]⟩),(56,⟨SP,[]⟩),(57,⟨rR,[]⟩),(58,⟨eS,[]⟩),(59,⟨Dx,[]⟩),(60,⟨rR,[]⟩),(61,⟨rR,[]⟩),(62,⟨[(0,aV),(1,Ss)],KM⟩),(63,⟨rR,[]⟩),(64,⟨rR,[]⟩),(65,⟨[(0,aa),(1,aa),(2,aA)],[]⟩),(66,⟨Gq,[]⟩),(67,⟨[(0,Gb),(1,aa)],[]⟩),(68,⟨[(0,aa),(1,aV),(2,cU)],[.var 74 [xA],xB,jd,jr]⟩),(69,⟨[(0,Sp),(1,fA),(2,aa)],[jd]⟩),(70,⟨Gq,[]⟩),(71,⟨[(0,aa),(1,aV),(2,cU),(3,dK),(4,gF)],Be⟩),(72,⟨SR,[Sv,.var 74 [So],Ds,jd,jr]⟩),(75,⟨SR,xE⟩),(76,⟨SR,Bd⟩),(77,⟨rS,[]⟩),(78,⟨SQ,[]⟩),(79,⟨[(0,aa),(1,aA),(2,aA)],[]⟩),(80,⟨[(0,p7)],[]⟩),(81,⟨Dx,[]⟩),(82,⟨[(0,gQ)],[]⟩),(83,⟨Y7,[]⟩),(84,⟨Y7,[]⟩),(85,⟨rR,[]⟩),(86,⟨[(0,aV),(1,aA)],KM⟩),(87,⟨[(0,aV)],KM⟩),(88,⟨Gp,KM⟩),(89,⟨SP,[]⟩),(90,⟨SQ,[]⟩),(91,⟨rR,[]⟩),(92,⟨[(0,.one (.nilS 5)),(1,aa),(2,aa)],[]⟩),(93,⟨[(0,Gb),(1,aa),(2,aV)],qR⟩),(94,⟨Gq,[]⟩),(95,⟨rR,[]⟩),(96,⟨Y9,[]⟩),(97,⟨Dx,[]⟩),(98,⟨[(0,aiD),(1,dm),(2,aa)],[]⟩),(99,⟨[(0,.pref [3] [.int .i64]),(1,aa)],[]⟩),(100,⟨rR,[]⟩),(101,⟨SQ,[]⟩),(102,⟨SP,[]⟩),(103,⟨Bg,[]⟩),(104,⟨[(0,aV),(1,A8),(2,aa)],Bf⟩),(105,⟨[(0,aV),(1,Dm),(2,aa)],Bf⟩),(106,⟨Gp,Bf⟩),(107,⟨[(0,aV),(1,Dm),(2,aa)],Bf⟩),(108,⟨[(0,aV)],Bf⟩),(110,⟨[(0,Sr),(1,aa),(2,aa)],xF⟩),(111,⟨eS,[]⟩),(112,⟨[(0,dm),(1,aa)],[]⟩),(113,⟨rR,[]⟩),(114,⟨[(0,aa),(1,Gc),(2,.fn 115 [] [.ba 0 0 0,.ba 1 0 0]),(3,.fn 116 [] [.ba 0 0 0,.ba 1 0 0,.ba 2 0 0])],Y2⟩),(115,⟨[(0,Gc),(1,aa),(2,aV),(3,cU)],[eY,eY]⟩),(116,⟨[(0,Gc),(1,aV),(2,cU),(3,dK)],Y2⟩),(117,⟨[(0,aV),(1,aa),(2,aa),(3,aa)],Bf⟩),(119,⟨Gp,Bf⟩),(120,⟨[(0,dy),(1,.fn dA [] [])],cO⟩),(121,⟨Y9,[]⟩),(122,⟨[(0,gQ)],[]⟩),(123,⟨Bg,[]⟩),(124,⟨[(0,dy)],cO⟩),(125,⟨Dx,[]⟩),(126,⟨[(0,Sr),(1,dm),(2,aa)],xF⟩),(127,⟨rR,[]⟩),(128,⟨rR,[]⟩),(129,⟨[(0,aV),(1,Gc)],[.var 168 [.one (.whole 122 1),.one (.fQ lu)],vO]⟩),(130,⟨[(0,dy),(1,aa),(2,aa),(3,aa),(4,.fn dA [] [])],cO⟩),(131,⟨rS,[]⟩),(132,⟨eS,[]⟩),(133,⟨Dx,[]⟩),(134,⟨eS,[]⟩),(135,⟨rS,[]⟩),(136,⟨[(0,Sq),(1,dm)],xF⟩),(138,⟨[(0,aa),(1,aa),(2,.fn 139 [] [.ba 0 0 0]),(3,.fn 140 [] [.ba 0 0 0])],oE⟩),(139,⟨[(0,aa),(1,aa),(2,aV)],oE⟩),(140,⟨[(0,aa),(1,aV)],oE⟩),(141,⟨[(0,dy),(1,aa),(2,aa),(3,.fn dA [] [])],cO⟩),(142,⟨[(0,dy),(1,aa),(2,aa),(3,.fn dA [] [])],cO⟩),(143,⟨[(0,dy),(1,aa),(2,aa),(3,.fn dA [] [])],cO⟩),(144,⟨[(0,p7),(1,aa),(2,aa),(3,.fn dA [] [])],[]⟩),(145,⟨[(0,dy),(1,aa),(2,aa),(3,.fn dA [] [])],cO⟩),(146,⟨[(0,dy),(1,aa),(2,aa),(3,.fn dA [] [])],cO⟩),(147,⟨[(0,dy),(1,aa),(2,aa),(3,aa),(4,.fn dA [] [])],cO⟩),(148,⟨[(0,dy),(1,aa),(2,aa),(3,aa),(4,.fn dA [] [])],cO⟩),(150,⟨rS,[]⟩),(151,⟨Dx,[]⟩),(152,⟨[(0,aa),(1,dm),(2,.fn 168 [] [.ba 0 0 0]),(3,.fn 154 [] [.ba 1 0 0])],[Ba,qQ]⟩),(153,⟨Dx,[]⟩),(154,⟨[(0,dm),(1,aV)],[qQ]⟩),(155,⟨eS,[]⟩),(156,⟨jH,[]⟩),(159,⟨Gp,[.var 200 [kh,.one (.fQ kf)],dL]⟩),(160,⟨[(0,dy),(1,aa),(2,aa),(3,aa),(4,.fn dA [] [])],cO⟩),(161,⟨eS,[]⟩),(162,⟨[(0,aV)],[YX]⟩),(163,⟨[(0,p7),(1,aa),(2,aV),(3,.fn dA [] [])],qR⟩),(164,⟨[(0,p7),(1,aa),(2,aa),(3,aa),(4,aV),(5,.fn dA [] [])],qR⟩),(165,⟨eS,[]⟩),(166,⟨Y9,[]⟩),(167,⟨[(0,aV),(1,dm)],[.var 207 [.one (.whole 63 1),.one (.fQ 143)],jd]⟩),(168,⟨[(0,dm),(1,aa),(2,aV)],[Ba]⟩),(169,⟨[(0,fA),(1,dm)],[]⟩),(171,⟨[(0,p7),(1,aa),(2,aa),(3,aV),(4,.fn dA [] [])],qR⟩),(172,⟨[(0,fA)],[]⟩),(173,⟨rS,[]⟩),(174,⟨eS,[]⟩),(198,⟨Gp,[.var 200 [kh,.one (.cX kf 2)],dL,.map kf]⟩),(199,⟨[(0,aV),(1,Gc)],[.var 168 [.one (.whole 122 1),.one (.cX lu 2)],vO,.map lu]⟩),(201,⟨[(0,.one (.row 63 0 [0])),(1,aa)],[jr]⟩),(202,⟨[(0,fA),(1,.fn 76 [] [.ba 0 0 0,.ba 1 0 0,.ba 2 0 0])],Bd⟩),(203,⟨[(0,fA),(1,.fn 75 [] [.ba 0 0 0,.ba 1 0 0,.ba 2 0 0])],xE⟩),(205,⟨[(0,fA),(1,.fn 68 [] [.ba 0 0 0,.ba 1 0 0])],[.var 74 [xA],xB,jd,jr]⟩),(206,⟨[(0,fA),(1,.fn 71 [] [.ba 0 0 0,.ba 1 0 0,.ba 2 0 0,.ba 3 0 0])],Be⟩),(207,⟨[(0,fA),(1,.fn 72 [] [.ba 0 0 0,.ba 1 0 0,.ba 2 0 0])],[Sv,.var 74 [So],Ds,jd,jr]⟩),(208,⟨[(0,Sr),(1,aa),(2,aa)],xF⟩),(209,⟨[(0,aV),(1,dm)],[.var 207 [.one (.whole 63 1),.one (.cX 143 2)],jd,.map 143]⟩)]
def avl:List (Nat×Shape):=[(3,⟨jH,[]⟩),(4,⟨[(0,aV)],[uk]⟩),(5,⟨eS,[uk]⟩),(6,⟨[(0,.agg [.whole 54 1,.int .i64])],[uk,Bb]⟩),(7,⟨[(0,mu)],[uk]⟩),(8,⟨jH,[]⟩),(9,⟨[(0,.agg [.int .i64,.int .i64,.whole 34 0]),(1,aa)],[Sy]⟩),(10,⟨eS,[]⟩),(11,⟨jH,[]⟩),(12,⟨[(0,tc),(1,aa)],[nz]⟩),(13,⟨jH,[]⟩),(14,⟨[(0,tc),(1,aa)],[nz]⟩),(15,⟨jH,[]⟩),(16,⟨eS,[]⟩),(17,⟨eS,[]⟩),(18,⟨jH,[]⟩),(19,⟨[(0,.one (.whole 4 0))],[cJ]⟩),(20,⟨[(0,.one (.whole 65 0))],[aiK]⟩),(21,⟨jH,[]⟩),(22,⟨Bg,[]⟩),(23,⟨[(0,.agg [.int .i64,.int .i64,.whole 34 0])],[Sy]⟩),(24,⟨jH,[]⟩),(25,⟨eS,[]⟩),(26,⟨[(0,Sp)],[jd]⟩),(27,⟨[],[jd]⟩),(28,⟨KP,[jr]⟩),(29,⟨jH,[]⟩),(30,⟨eS,[]⟩),(31,⟨KQ,te⟩),(32,⟨Bh,te⟩),(33,⟨Bh,te⟩),(34,⟨KQ,te⟩),(35,⟨KQ,te⟩),(36,⟨[(0,.agg [.whole 54 0,.int .i64])],[Bb]⟩),(37,⟨eS,[]⟩),(38,⟨eS,[]⟩),(39,⟨Bg,[.var 90 [aa,aiz,Sj,Sk],.dead,.map 87,.map 88,nz]⟩),(40,⟨eS,[]⟩),(41,⟨jH,[]⟩),(42,⟨KR,[]⟩),(43,⟨KR,[]⟩),(44,⟨KR,[]⟩),(45,⟨KR,[]⟩),(46,⟨KR,[]⟩),(47,⟨eS,[]⟩),(48,⟨eS,[]⟩),(49,⟨KP,[jr]⟩),(50,⟨KP,[jr]⟩),(51,⟨KP,[jr]⟩),(52,⟨KP,[jr]⟩),(53,⟨[],xD⟩),(54,⟨[],xD⟩),(55,⟨jH,[]⟩),(56,⟨Bh,te⟩),(57,⟨[(0,.agg [.int .i64,.int .i64,.int .u64,.int .u64,.whole 107 0])],cO⟩),(58,⟨rS,[]⟩),(59,⟨Bh,te⟩),(60,⟨[(0,gQ)],[]⟩),(61,⟨Za,Y3⟩),(62,⟨[(0,Su),(1,aa)],SM⟩),(63,⟨[(0,mu)],[]⟩),(64,⟨eS,[]⟩),(65,⟨jH,[]⟩),(66,⟨jH,[]⟩),(67,⟨jH,[]⟩),(68,⟨[],Gm⟩),(69,⟨[],[jd]⟩),(70,⟨jH,[]⟩),(71,⟨[],Be⟩),(72,⟨[],Gn⟩),(75,⟨[],xE⟩),(76,⟨[],Bd⟩),(77,⟨eS,[]⟩),(78,⟨eS,[]⟩),(79,⟨jH,[]⟩),(80,⟨[(0,dy)],cO⟩),(81,⟨[(0,Ga),(1,xA),(2,aa)],[cJ,cZ,jd]⟩),(82,⟨KS,rQ⟩),(83,⟨KS,rQ⟩),(84,⟨jH,[]⟩),(85,⟨[(0,A5),(1,.one (.whole 9 1))],[dL,aiL]⟩),(86,⟨[(0,Su)],SM⟩),(87,⟨[(0,Su)],SM⟩),(88,⟨[(0,Su)],SM⟩),(89,⟨Bh,te⟩),(90,⟨Bh,te⟩),(91,⟨KQ,te⟩),(92,⟨[(0,Sr)],xF⟩),(93,⟨jH,qR⟩),(94,⟨jH,[]⟩),(95,⟨eS,[]⟩),(96,⟨jH,[]⟩),(97,⟨eS,[]⟩),(98,⟨rS,[]⟩),(99,⟨KS,rQ⟩),(100,⟨KQ,te⟩),(101,⟨[(0,Ga),(1,YU),(2,aa)],[cJ,cZ,cJ,cZ]⟩),(102,⟨Bh,te⟩),(103,⟨[(0,aV),(1,.one (.EX .i64 0))],Bf⟩),(104,⟨[],uo⟩),(105,⟨[],uo⟩),(106,⟨[],uo⟩),(107,⟨[],uo⟩),(108,⟨[(0,YU),(1,aa)],[.var 161 [aa,aa,dm,dm,p7],.dead,cJ,cZ]⟩),(110,⟨[(0,A7)],[.dead,Du]⟩),(111,⟨rS,[]⟩),(112,⟨jH,[]⟩),(113,⟨Za,Y3⟩),(114,⟨[(0,.agg [.int .i64,.int .i64,.whole 4 3,.whole 22 4]),(1,.one (.whole 122 5)),(2,aa)],[eY,eY,qP,cJ,cZ,vO]⟩),(115,⟨[(0,Gc)],[eY,eY]⟩),(116,⟨jH,Y2⟩),(117,⟨[],uo⟩),(119,⟨[],uo⟩),(120,⟨[],cO⟩),(121,⟨eS,[]⟩),(122,⟨eS,[]⟩),(123,⟨eS,[]⟩),(124,⟨[(0,YO)],[.dead,lx]⟩),(125,⟨Bh,te⟩),(126,⟨[(0,A7)],[.dead,Du]⟩),(127,⟨Za,Y3⟩),(128,⟨KS,rQ⟩),(129,⟨eS,[.var 168 [.one (.whole 122 2),.one (.cX lu 3)],.dead,vO,.map lu]⟩),(130,⟨[],cO⟩),(131,⟨eS,[]⟩),(132,⟨jH,[]⟩),(133,⟨[(0,Ga),(1,xA),(2,aa)],[cJ,cZ,jd]⟩),(134,⟨[(0,mu)],[]⟩),(135,⟨eS,[]⟩),(136,⟨[],xF⟩),(138,⟨[(0,.agg [.int .i64,.int .i64,.whole 4 1,.whole 22 2]),(1,uj),(2,aa)],[eY,cJ,cZ,dL]⟩),(139,⟨eS,oE⟩),(140,⟨jH,oE⟩),(141,⟨[],cO⟩),(142,⟨[],cO⟩),(143,⟨[],cO⟩),(144,⟨Bg,[]⟩),(145,⟨[],cO⟩),(146,⟨jH,cO⟩),(147,⟨eS,cO⟩),(148,⟨[(0,aa),(1,aA)],cO⟩),(150,⟨eS,[]⟩),(151,⟨eS,[]⟩),(152,⟨[(0,YU),(1,YP),(2,aa)],[Ba,qQ,cJ,cZ,jd]⟩),(153,⟨[(0,.fn 168 [] [.ba 0 0 0])],[Ba]⟩),(154,⟨jH,[qQ]⟩),(155,⟨eS,[]⟩),(156,⟨eS,[]⟩),(159,⟨eS,[.var 200 [qO,.one (.cX kf 3)],.dead,dL,.map kf]⟩),(160,⟨[],cO⟩),(161,⟨rS,[]⟩),(162,⟨rS,[YX]⟩),(163,⟨eS,qR⟩),(164,⟨eS,qR⟩),(165,⟨rS,[]⟩),(166,⟨eS,[]⟩),(167,⟨eS,[.var 207 [xA,KF],.dead,jd,.map 143]⟩),(168,⟨rS,[Ba]⟩),(169,⟨rS,[]⟩),(171,⟨Bg,qR⟩),(172,⟨jH,[]⟩),(173,⟨KS,rQ⟩),(174,⟨rS,[]⟩),(198,⟨eS,[.var 200 [uj,.one (.cX kf 2)],.dead,.map kf,dL]⟩),(199,⟨eS,[.var 168 [KE,.one (.cX lu 2)],.dead,.map lu,vO]⟩),(201,⟨[],[jr]⟩),(202,⟨[],Bd⟩),(203,⟨[],xE⟩),(205,⟨[],Gm⟩),(206,⟨[],Be⟩),(207,⟨[],Gn⟩),(208,⟨[(0,A7)],[.dead,Du]⟩),(209,⟨eS,[.var 207 [So,.one (.cX 143 2)],.dead,.map 143,jd]⟩)]
def avm:List (Nat×Shape):=[(103,⟨[(0,.one (.im)),(1,.one (.EX .i64 3))],[]⟩),(124,⟨[(0,dy)],cO⟩)]
def akr(n:Nat):List Nat:=(List.range (n.log2+1)).filter n.testBit
def aks:Nat->List Nat->List (Nat×List Nat)
 |i,g::n::l=>(List.range g).map (fun j=>(i+j,[]))++(i+g,akr n)::aks (i+g+1) l
 |_,_=>[]
def avn(l:List (Nat×List Nat)):List (Nat×List (Nat×List Nat)):=l.map fun e=>(e.1,aks 0 e.2)
def akt:Nat->List Nat->List (Nat×List Nat)
 |i,n::l=>(i,akr n)::akt (i+1) l
 |_,_=>[]
def aku(l:List (Nat×List Nat)):List (Nat×List (Nat×List Nat)):=l.map fun e=>(e.1,akt 0 e.2)
def avo:List (Nat×List (Nat×LN)):=aku [(3,[3,34,98,194,448,960,4032,1125899906843584,16,9152,288230376151712704,16,50048,16]),(4,[1,33,1,4]),(5,[3,16387,16,3,16]),(6,[71,199,451,963,132035,963,1987,33556419,1987,8589936579,1987,1099511629763,1987,4503599627372483,1987,963,192,64]),(7,[7,135,387,16771,387,387,64]),(8,[6,1048582,16,38,469762086,1006632998,469762278,9059696742,469762086,469762086,16]),(9,[22,84,8276,48,404,67108884,48,48]),(10,[2,34,4,4]),(11,[6,16390,16,38,102,102,16]),(12,[6,70,2097222,48,134,117440642,251658370,117441154,117442178,117444226,2264927874,6559895170,117443714,70984404610,117443714,1101776555650,117443714,117447810,70368861625474,117447810,117447810,117456002,72057594155383938,117456002,117456002,1180591620719676231298,117444226,117460610,75557863725914440879746,117460610,117460610,117493378,77371252455336267298688642,117493378,117558914,79228162514264337593661509250,117558914,117493378,649037107316853453566314306080386,117443714,42535295865117307932921825931235954306,117443714,2787593149816327892691964784081047453175426,117443714,182687704666362864775460604089535377457109012098,117443714,93536104789177786765035829293842113257979800192130,48,117440642,117440642,48]),(13,[0,2,1]),(14,[6,70,262214,48,132,388,900,120259085184,257698038656,120259088256,17712445132672,120259088256,18014518768570240,120259088256,120259098496,295147905299611924352,48,120259090304,120259085184,120259085184,48]),(15,[6,36,16]),(16,[3,67,16,3,2051,1,16]),(17,[6,4102,16,65542,16,1835014,3932166,1835110,538705926,16,1835014,2199023255552,16,16]),(18,[3,65539,16,786435,1835011,786467,17180655619,16,786435,16]),(19,[2,10,10,26,131098,26,16777242,58,8589934650,58,2199023255610,26,4]),(20,[14,142,98446,229518,98702,1147278,3244430,98446,4296114574,140737488454030,98446,288230376152859022,98446,147573952589677560206,98446,618970019642690137450709390,98446,2596148429267413814265248165757326,99214,166153499473114484112975882535142286,99214,680564733841876926926749214863536522126,99214,89202980794122492566142873090593446024020366,98446,98446,64]),(21,[6,16]),(22,[2,18,50,14680114,31457330,14680306,14680306,68734157042,14680306,70368758857970,14680306,14680306,1180591620717425983730,14680306,14680178,14680114,14680114,12]),(23,[19,49,113,524401,113,67108977,113,549755814001,80,16]),(24,[2,4]),(25,[2,10,904,1928,936,904,904,4]),(26,[2,4]),(27,[0]),(28,[28,540,1564,64,131612,64,67109404,67109404,64,8589934620,64,156,128,64]),(29,[3,16]),(30,[6,2054,16,32774,16,917510,1966086,917606,917990,36028797019881958,16,18446744073710469606,16,618970019642690137450479622,16,917510,44601490397061246283071436545296723011960832,16,16]),(31,[19,16]),(32,[92,832,1049408,192,192]),(33,[28,28,220,476,476,2147484124,48,103079215580,240518169052,103079216092,61675730371548,132044474549212,61675730374620,18076074239854556,61675730371548,61675730371548,103079215580,8264141345021879124444,17708874310761169551836,8264141345021879132636,8264141345021879124444,8264141345021879124444,316912650057057350374175801816,464,80,48]),(34,[6,14,12302,28686,12318,12302,12302,4]),(35,[6,14,30,62,14680126,31457342,14680318,1088422014,14680190,14680446,962087354750,2061598982526,962087355774,962087354750,962087354750,14680126,14680126,20,4]),(36,[1,1]),(37,[2,258,4,10,1835018,3932170,1835066,270270522,1835066,1099513462842,1835066,72057594039762970,1835018,1835018,4]),(38,[1,8,24,24,24,4,256,4,4]),(39,[9,201,4194377,48,777,2147484425,48,1289,7433,35184372092169,3337,2313,2057,2048,48]),(40,[14,268435470,64,3221225486,7516192782,3221225614,3221225486,3221225486,64]),(41,[14,16398,64,131086,67108874,64,536870922,64,64]),(42,[22,20,16]),(43,[19,51,114,1138,114,114,16]),(44,[28,16]),(45,[28,16]),(46,[28,16]),(47,[1,8,24,4,72,4,264,4,1032,4,4104,4,16384,4,4]),(48,[6,1030,16,8198,16,131072,16,16]),(49,[14,142,7340172,15728780,7340684,7341708,7341708,7342732,7346316,7340172,7340172,64]),(50,[28,412,408,920,268436376,920,920,1288,3336,7432,281474976718088,7432,15624,15624,15624,7432,64]),(51,[28,156,7340188,15728796,7340700,7341212,7340188,7340188,64]),(52,[28,140,396,128,64]),(53,[450,962,498,16882,498,498,450]),(54,[15,1039,0,1048581,0]),(55,[1,4]),(56,[92,348,8388956,192,2147483740,192,604,1628,3676,7772,4503599627378268,7772,15964,32348,65116,4611686018427453020,65116,130652,523868,2475880078570760549798510172,19807040628566084398386118236,192,261724,261724,196188,65116,7772,192]),(57,[6,14,786446,1835022,786462,67895326,786462,962073460766,2061585088542,962073460862,962073460766,962073460766,786446,4]),(58,[1,4]),(59,[6,518,12,6,84,4194388,12,12]),(60,[2,10,49162,114698,49178,4243482,49162,49162,10,42,106,8589934698,106,234,412316860650,962072674538,412316860906,412316860650,412316860650,106,2305843009213693994,4,10]),(61,[6,22,86,201326678,469762134,201326806,201326678,201326678,120259084374,257698037846,120259085142,120259084374,120259084374,1110,3940649673950278,8444249301320774,3940649673954374,3940649673962566,4039165915797926982,8650851934225314886,4039165915797959750,4039165915797926982,4039165915797926982,3940649673950278,3940649673950278,12]),(62,[25,153,409,48,4249,48,65689,48,4194457,48,67109017,48,140737488355481,48,295147905179352825881,48,48]),(63,[2,10,28682,61450,28730,8417322,28714,939552778,2013294602,939552906,939552778,939552778,28682,28682,4]),(64,[2,32770,4,10,1048586,4,68719476746,4,1924145348618,4123168604170,1924145348650,283399122059306,4,3942573819297802,8446173446668298,3942573819297930,2309785583032991754,4,3942573819297802,1924145348618,4]),(65,[7,131,64,64]),(66,[2,10,4]),(67,[6,518,16,134217734,16,536870918,16,1610612742,1610612742,16,137975824390,137975824390,137975824390,17592186044422,16,35184908959750,35184372088838,2251799813685254,16,63050394783186946,135107988821114882,63050394783187010,4674736413210574850,16,63050394783186946,16]),(68,[0]),(69,[67,4163,67,67]),(70,[2,4]),(71,[93,69,0]),(72,[4109,0]),(75,[3087,7183,3119,68655,3087,3087,3087]),(76,[47,111,8303,111,111,47,41,0]),(77,[1,17,4,4]),(78,[12,44,1068,16,76,32844,16,2097152,16,16]),(79,[7,135,389,133,641,129,64]),(80,[1,9,904,1928,936,1000,33555432,1000,274877907944,904,904,4]),(81,[6,38,262182,28,70,198,454,966,17179870150,966,1990,4038,1099511631814,4038,8134,32710,144115188075872198,1152921504606855110,28,16326,16326,12230,4038,966,28]),(82,[1,9,25,57368,122904,57464,57848,134275320,57592,57528,57368,57368,4]),(83,[3,35,6179,14371,6243,6179,6179,16]),(84,[3,1027,16,12291,28675,12323,16789507,16,12291,16]),(85,[2,50,114,114,242,33554674,242,498,2147484146,498,1010,562949953422322,1010,498,12]),(86,[19,16]),(87,[5,4]),(88,[19,51,49,16]),(89,[92,1860,1050436,192,3136,2147486784,192,192]),(90,[28,468,524756,48,976,68719477712,48,1744,1744,1744,1744,1744,73786976294838208144,1680,528,48]),(91,[6,262,4,14,458766,983054,458814,458782,458766,458766,4]),(92,[7,64]),(93,[14,65550,64,14,58720262,125829126,58720518,17238589446,64,58720262,64]),(94,[2,4]),(95,[2,10,16394,4,65546,4,68719476746,4,1924145348618,4123168604170,1924145348650,283399122059306,4,3942573819297802,8446173446668298,3942573819297930,2309785583032991754,4,3942573819297802,1924145348618,4]),(96,[12,524,16,524300,16,16]),(97,[2,524290,4,10,68719476738,4,1924145348610,4123168604162,1924145348658,9903520314283044123338342402,4,1924145348610,4]),(98,[14,142,14470,30854,14982,67123846,14470,14470,64]),(99,[3,34,24610,57378,24674,24610,24610,16]),(100,[6,134,4,12,4]),(101,[60,188,4284,112,316,524604,112,134217788,112,112]),(102,[120,376,65912,192,632,4194936,192,137438953592,192,5184,192]),(103,[3,131,48,48]),(104,[21,14341,30725,14533,1849413,3946565,1850181,1849413,1849413,14341]),(105,[57351,122887,57479,1073799303,57351,57351]),(106,[0]),(107,[1797,3845,1989,34629,1797,1797]),(108,[5,5,5,12]),(110,[7,135,2181,133,133,64]),(111,[1,17,4,4]),(112,[3,16]),(113,[6,54,118,246,1879048438,4026532086,1879049206,551634862582,1879049718,985164297537014,2111064204379638,985164297543158,985164297537014,985164297537014,1879049462,1879048438,1879048438,24676,57444,1083197534374707740536791108,2321137573660088015435915332,1083197534374707740536987716,1083197534374707740536987716,317995847591432058114712789060,1083197534374707740536791108,1083197534374707740536791108,12]),(114,[301,2349,2317,6413,14605,33569037,14605,30989,63757,206158493965,481036400909,206158559501,206158493965,206158493965,4503599627434253,1792,30989,14605,1792]),(115,[94,64]),(116,[30,94,4188,92,1048648,72,32]),(117,[0]),(119,[0]),(120,[19,0]),(121,[12,16]),(122,[1,9,456,968,488,16872,4,456,4]),(123,[3,35,99,2115,4096,16,16,8195,16,65539,16,524288,16,16]),(124,[1,257,4,9,8201,9,33554441,25,57,4294967353,57,17592186044473,57,57,9,4,4]),(125,[6,84,16468,12,12]),(126,[7,1031,4099,64,131,387,385,64,1,64]),(127,[6,8198,12,54,180,6442451124,15032385716,6442451380,6442451124,6442451124,3848290697364,8246337208468,3848290698900,3848290697364,3848290697364,12]),(128,[2,262146,4,26,117440538,251658266,117440634,68836917306,117440538,117440538,154,410,492581209244058,1055531162665370,492581209245594,492581209247642,2018105214271228826,4323948223484922778,2018105214271241114,2018105214271228826,2018105214271228826,492581209295770,1208925820107210383969178,492581209263002,492581209260954,492581209244058,492581209244058,19807040628566084398385987970,4,26]),(129,[9,105,131113,4194313,9,41,41,32,16]),(130,[1055,3103,7199,33561631,0,4294974495,0,549755821087,7199,7199,31775,72057594037959711,15391,15391,31775,37778931862957161724959,1208925819614629174721567,158456325028528675187087916063,35869,3103,200735,71711,858143,1902623,42535295865117307932921825928972929055,68639,68637,3103,68639,68635,3103]),(131,[1,4,4]),(132,[1,4]),(133,[6,38,550,28,28]),(134,[1,17,4,4]),(135,[1,9,4]),(136,[19,1048595,51,51,211,851,3859,3347,3091,1043,19,19,4113,633825300114114700748351606801,12305,12305,53265,20497,4113,4113,696898287454081973172991196020261297066001,69649,69649,4113,4113,2923003274661805836407369665432566039311865090049,0]),(138,[271,2319,2317,6413,14605,33569037,14605,30989,63757,206158493965,481036400909,206158559501,206158493965,206158493965,4503599627434253,1792,30989,14605,1792]),(139,[7,32]),(140,[3,8]),(141,[271,16655,271,783,17179869967,783,783]),(142,[271,783,1801,3849,2101001,3849,3849,4873,8589939465,4873,4873,4873]),(143,[259,131331,771,1795,3843,34359742211,3843,7939,35184372096771,7939,3843]),(144,[15,1035,3083,7179,15371,31753,17179900937,68719507465,30729,30729,30729,10240,36028797018972160,768,180143985094828032,768,1152921504606855168,768]),(145,[261,769,33537,769,769,769]),(146,[15,527,1551,67087,1551,68719478287,1551,2199023257103,256,35184372090383,256,1551,36893488147419104783,3599,590295810358705655311,3599,19342813113834066795302415,3599,20282409603651670423947251287567,5647,649037107316853453566312041158159,5647,21267647932558653966460912964485518863,5647,256]),(147,[31,23,6163,140737488361491,6163,36893488147419109395,6163,1180591620717411309587,6163,6163,6163,1024]),(148,[31,23,12307,140737488367635,12307,73786976294838218771,12307,2361183241434822619155,8192,3072,12307,12307,12307,1329227995784915872903807060280356883,12307,696898287454081973172991196020261297074195,12307,22300745198530623141535718272648361505992723,12307,12307,12307,8192,3072]),(150,[5,21,1,5,261,5,5,16389,5,5,4]),(151,[2,4194306,4,4294967298,4,120259084290,257698037762,120259084314,36893488267678187546,4,309485009821345188983865346,4,120259084290,4]),(152,[271,2319,2317,6413,14605,33569037,14605,30989,63757,206158493965,481036400909,206158559501,206158493965,206158493965,4503599627434253,1792,30989,14605,1792]),(153,[2,10,6154,14346,6170,6154,6154,58720264,125829128,58720328,58720264,58720264,4]),(154,[3,8]),(155,[1,4]),(156,[1,8,4,4]),(159,[3,99,131107,4194307,3,35,35,32,16]),(160,[1053,3101,265245,1099511630877,3101,288230376151714845,2077,1053]),(161,[1,4]),(162,[1,1,1,1,4]),(163,[15,256]),(164,[63,63,55,4,4096]),(165,[1,4]),(166,[12,16]),(167,[3,99,131107,4194307,3,35,35,32,16]),(168,[7,32]),(169,[3,1027,16,35,458785,983073,458913,458785,458785,16]),(171,[31,4194318,6,3072,3072]),(172,[1,129,4,1793,3841,1809,526081,4,1793,4]),(173,[1,9,41,9,9,4]),(174,[1,4])]
def avp:List (Nat×List (Nat×LN)):=avn [(3,[50,960,7,960]),(4,[5,1]),(5,[14,3]),(6,[17,963,7,1987,7,1987,6,1987,11,1987]),(7,[14,387]),(8,[20,6,8,469762086,3,469762086]),(9,[13,20,12,20]),(10,[5,2]),(11,[14,6]),(12,[21,6,5,117440642,4,117443714,3,117443714,3,117443714,5,117447810,9,117456002,13,117443714,5,117460610,9,117493378,9,117558914,12,117443714,15,117443714,15,117443714,15,117443714,8,117441666]),(14,[18,6,18,120259085184,6,120259088256,9,120259088256,13,120259090304]),(16,[6,3,4,1]),(17,[12,6,3,6,4,1835014,7,1835014,11,0]),(18,[16,3,3,786435,13,786435]),(19,[17,26,6,26,8,58,7,26]),(20,[17,98446,3,98446,10,98446,14,98446,10,98446,8,98446,21,98446,21,98446,5,99214,11,99214,16,98446]),(22,[24,14680114,11,14680306,9,14680306,23,14680178]),(23,[19,113,6,113,12,80]),(25,[10,904]),(28,[10,28,6,28,8,67109404,6,28]),(30,[11,6,3,6,4,917510,34,917510,8,917510,24,917510,55,0]),(32,[20,320]),(33,[31,476,5,103079215580,8,61675730371548,7,61675730371548,18,8264141345021879124444,24,464]),(34,[14,12302]),(35,[24,14680126,5,14680190,9,962087354750]),(37,[8,2,12,1835018,6,1835066,11,1835066,15,1835018]),(38,[4,24,3,0]),(39,[22,9,8,265,13,2057]),(40,[28,14,3,3221225486]),(41,[14,14,2,10,8,10,2,10]),(43,[10,114]),(47,[14,0]),(48,[10,6,2,6,3,0]),(49,[23,7340172]),(50,[28,920,19,7432]),(51,[23,7340188]),(53,[9,450,4,498]),(54,[20,0]),(56,[23,92,7,92,20,7772,9,65116,28,196188,2,130652]),(57,[20,786446,5,786462,13,962073460766]),(59,[9,6,12,20]),(60,[16,49162,5,49162,10,106,5,412316860650,21,34]),(61,[28,201326678,8,120259084374,14,3940649673950278,9,4039165915797926982]),(62,[8,25,3,25,3,25,5,25,3,25,20,25,20,25]),(63,[15,28682,7,28714,6,939552778]),(64,[15,2,4,10,15,10,4,1924145348618,6,1924145348650,3,3942573819297802,8,3942573819297802]),(65,[7,1]),(67,[9,6,17,6,2,1610612742,6,137975824390,6,6,0,35184372088838,5,6,4,63050394783186946,5,63050394783186946]),(69,[12,67]),(72,[12,0]),(75,[12,3087,3,3087]),(76,[13,111]),(77,[4,1]),(78,[10,12,4,12,5,0]),(79,[8,133,0,129]),(80,[10,904,14,1000,12,904]),(81,[18,6,15,966,5,4038,16,12230,2,8134]),(82,[16,57368,10,57528]),(83,[13,6179]),(84,[10,3,3,12291,9,12291]),(85,[25,242,5,498,17,498]),(89,[20,836,10,2112]),(90,[19,212,16,720,29,1680]),(91,[8,6,10,458766]),(93,[16,14,9,58720262,7,58720262]),(95,[14,10,1,10,19,10,4,1924145348618,6,1924145348650,3,3942573819297802,8,3942573819297802]),(96,[9,12,9,12]),(97,[19,2,16,2,4,1924145348610,51,1924145348610]),(98,[14,14470,11,14470]),(99,[15,24610]),(100,[7,6]),(101,[12,60,6,60,7,60]),(102,[16,120,5,120,14,120]),(103,[7,3]),(104,[14,14341,6,1849413]),(105,[16,57351,13,57351]),(107,[11,1797,3,1797]),(110,[11,133]),(111,[4,1]),(113,[31,1879048438,7,1879048694,10,985164297537014,39,1083197534374707740536791108,7,1083197534374707740536791108]),(114,[25,14605,12,206158493965,13,63757]),(116,[12,92,7,72]),(122,[9,456,4,456]),(123,[11,67,1,3,2,3,2,0]),(124,[8,1,4,9,11,9,6,57,11,57]),(125,[14,20]),(126,[10,7,1,3]),(127,[13,6,19,6442451124,8,3848290697364]),(128,[18,2,8,117440538,8,117440538,12,492581209244058,11,2018105214271228826,18,492581209260954,13,386]),(129,[17,32,4,9]),(130,[25,7199,6,7199,6,7199,16,31775,18,15391,4,15391,16,12319,27,3103]),(133,[9,6]),(134,[4,1]),(136,[20,19,78,4113,39,4113,21,0]),(138,[25,14605,12,206158493965,13,63757]),(141,[14,271,19,783]),(142,[21,3849,11,4873]),(143,[35,3843,9,7939]),(144,[34,10240,1,30729,20,768,2,768]),(145,[15,769]),(146,[16,1551,19,1551,4,1551,3,1551,19,1551,3,3599,14,3599,19,1551,4,5647,14,5647]),(147,[47,6163,17,6163,4,6163]),(148,[47,12307,18,12307,4,12307,48,12307,18,12307,4,12307]),(150,[4,5,3,5,5,5]),(151,[22,2,9,2,4,120259084290,27,120259084314,22,120259084290]),(152,[25,14605,12,206158493965,13,63757]),(153,[13,6154,12,58720264]),(156,[3,0]),(159,[17,32,4,3]),(160,[18,3101,21,3101,17,3101]),(167,[17,32,4,3]),(169,[10,3,8,458785]),(171,[22,6]),(172,[7,1,3,1793,7,1793]),(173,[5,9])]
def avq:List (Nat×List (Nat×LN)):=aku [(6,[448,963]),(7,[128,387]),(8,[38,469762086]),(12,[128,117440642,117443714,117443714,117447810,117447810,117456002,117443714,117460610,117460610,117493378]),(14,[512,120259085184]),(17,[4,1835014]),(18,[0,786435]),(19,[8,26]),(20,[128,98446,98446,98446,99214]),(22,[50,14680114]),(25,[8,904]),(28,[28]),(30,[4,917510,917510]),(33,[476,103079215580,103079215580,61675730371548,476,8264141345021879124444]),(34,[12,12302]),(35,[20,14680126,14680446,962087354750]),(37,[10,1835018]),(38,[0]),(40,[2,3221225486]),(43,[48,114]),(47,[0]),(49,[128,7340172]),(50,[408,920,2048,7432]),(51,[128,7340188]),(53,[0,450,450,498]),(54,[0]),(56,[2112,7772,32348,65116]),(57,[12,786446,786446,962073460766]),(60,[10,49162,4,10,42,106,234,412316860650]),(61,[86,201326678,86,120259084374,1092,3940649673950278,3940649673962566,4039165915797926982]),(62,[25]),(63,[8,28682,28682,939552778]),(64,[0,1924145348618,1924145348618,3942573819297802]),(67,[6,0,63050394783186946]),(69,[0,67]),(75,[0,3087]),(76,[47,111]),(80,[8,904,1000,1000]),(81,[324,966,1990,4038]),(82,[16,57368]),(83,[32,6179]),(84,[0,12291]),(85,[48,242,242,498]),(91,[12,458766]),(93,[0,58720262]),(95,[0,1924145348618,1924145348618,3942573819297802]),(97,[0,1924145348610]),(98,[128,14470]),(99,[32,24610]),(104,[0,14341,14341,1849413]),(105,[0,57351]),(107,[0,1797]),(113,[228,1879048438,1879049718,985164297537014,40964,1083197534374707740536791108]),(114,[6400,14605,63757,206158493965]),(122,[8,456]),(124,[1,9,9,57]),(127,[180,6442451124,148,3848290697364]),(128,[26,117440538,4,26,402,492581209244058,492581209246618,2018105214271228826]),(130,[0,3103]),(136,[19,19]),(138,[6400,14605,63757,206158493965]),(141,[0,271,271,783]),(142,[1801,3849,0,4873]),(143,[0,3843]),(144,[768]),(145,[0,769]),(146,[0,1551,1551,1551,1551,3599,1551,5647]),(147,[2048,6163,6163,6163,6163,6163]),(148,[12307,12307,12307,12307,8195,12307,12307,12307,12307,12307]),(151,[0,120259084290]),(152,[6400,14605,63757,206158493965]),(153,[10,6154,8,58720264]),(160,[0,1053]),(169,[32,458785]),(172,[0,1793]),(173,[8,9])]
def avr:List (Nat×List (Nat×LN)):=[(12,[(16,[5000025]),(26,[5000025])]),(60,[(8,[3]),(19,[5])])]
def avs:List (Nat×LN):=[(153,[0])]
def avt:List (Nat×List (Nat×List (Nat×Nat))):=[(3,[(1,[(1,4)]),(2,[(1,5)]),(3,[(2,6)]),(4,[(1,4),(3,7)]),(5,[(2,8)]),(6,[(2,9)]),(7,[(4,10),(10,11)]),(9,[(2,12)]),(11,[(0,13)]),(12,[(2,14)]),(13,[(18,15),(23,13)])]),(5,[(4,[(12,16)])]),(6,[(2,[(2,5)]),(6,[(1,5)]),(8,[(2,16)]),(10,[(2,5)]),(12,[(2,5)]),(14,[(2,5)])]),(7,[(2,[(3,5)]),(5,[(3,5)])]),(8,[(1,[(1,17),(5,18)]),(4,[(1,19)]),(8,[(9,20)]),(10,[(9,21)])]),(9,[(1,[(2,17)]),(4,[(1,22)]),(7,[(4,23)])]),(10,[(1,[(1,24)]),(3,[(1,25)])]),(11,[(1,[(1,24),(5,18)]),(4,[(1,26)]),(5,[(1,27)]),(6,[(3,28),(8,29)])]),(12,[(1,[(2,30)]),(12,[(1,31)]),(14,[(1,31)]),(39,[(10,32)]),(41,[(10,32)]),(43,[(10,33)]),(45,[(5,34)]),(48,[(2,35)])]),(13,[(1,[(0,36)]),(2,[(1,8),(4,8),(9,37),(14,17),(19,17)])]),(14,[(1,[(2,17)]),(10,[(2,38)]),(12,[(2,38)]),(14,[(2,39)])]),(15,[(1,[(4,40)])]),(17,[(8,[(3,41)])]),(19,[(8,[(2,38)]),(10,[(2,38)])]),(20,[(7,[(7,42)]),(10,[(8,42)]),(12,[(5,43)]),(14,[(18,44)]),(16,[(18,45)]),(21,[(9,21)]),(22,[(14,44)]),(24,[(5,43),(14,46)])]),(22,[(9,[(2,38)]),(12,[(2,38)])]),(23,[(2,[(2,47)]),(5,[(2,38)]),(6,[(5,23)]),(7,[(2,38)]),(8,[(5,23)])]),(24,[(1,[(1,48)])]),(25,[(5,[(2,25)])]),(28,[(3,[(4,49)]),(5,[(6,50)]),(8,[(3,51)]),(10,[(6,52)]),(12,[(2,53)])]),(30,[(1,[(1,55)])]),(32,[(1,[(1,35),(3,35),(5,56)]),(4,[(1,35)])]),(33,[(1,[(1,35),(3,35)]),(2,[(1,57),(3,57)]),(23,[(6,58)]),(25,[(1,59)])]),(35,[(1,[(1,60)]),(17,[(1,61)])]),(37,[(1,[(1,17)]),(7,[(2,38)]),(9,[(2,38)])]),(39,[(4,[(2,62)]),(7,[(1,63)])]),(40,[(1,[(1,64),(18,18)])]),(41,[(8,[(5,38),(7,65),(14,38),(16,65)])]),(43,[(5,[(2,42)])]),(48,[(3,[(1,66)]),(5,[(2,67)])]),(49,[(1,[(5,28)]),(5,[(1,26)]),(6,[(2,205)]),(7,[(3,28)]),(8,[(5,70)]),(9,[(2,206)])]),(50,[(1,[(1,26)]),(2,[(2,200)]),(6,[(2,27)]),(7,[(3,28)]),(12,[(1,26)]),(13,[(2,27)]),(14,[(5,204)])]),(51,[(1,[(6,28)]),(5,[(3,28)]),(6,[(2,203)])]),(52,[(1,[(3,28)]),(3,[(2,202)])]),(53,[(5,[(4,77),(6,54)])]),(54,[(0,[(3,26)]),(2,[(5,201)]),(4,[(6,201)])]),(56,[(1,[(2,78)]),(26,[(20,79)])]),(57,[(1,[(7,58)]),(6,[(3,58)])]),(59,[(3,[(2,80)]),(4,[(1,81)]),(7,[(1,35)])]),(60,[(8,[(1,82)]),(19,[(2,83)]),(20,[(2,84)])]),(61,[(1,[(1,85)])]),(62,[(3,[(1,86)]),(5,[(1,87)]),(7,[(3,88)]),(9,[(1,86)]),(11,[(16,89)]),(13,[(16,89)]),(15,[(16,90)]),(16,[(8,91)])]),(63,[(1,[(2,92)]),(10,[(4,208)])]),(66,[(2,[(1,93)])]),(67,[(22,[(2,67)])]),(68,[(0,[(6,69)])]),(70,[(1,[(14,94)])]),(71,[(0,[(1,26)]),(1,[(5,207)])]),(72,[(0,[(5,29)]),(1,[(6,69)])]),(76,[(0,[(1,26)])]),(78,[(1,[(1,95)]),(4,[(1,95)])]),(80,[(6,[(9,96)])]),(81,[(1,[(1,97)]),(14,[(6,98)])]),(83,[(7,[(1,82)])]),(86,[(1,[(7,99)])]),(87,[(1,[(6,99),(8,99)])]),(88,[(1,[(1,99)]),(3,[(7,99),(9,99),(12,100)])]),(89,[(1,[(2,101)]),(4,[(3,102)]),(7,[(1,100)])]),(90,[(1,[(2,101)]),(4,[(9,103)]),(8,[(2,104)]),(9,[(3,104)]),(10,[(7,105)]),(11,[(3,106)]),(13,[(5,106)]),(14,[(4,107)]),(15,[(1,108)])]),(91,[(1,[(1,64)])]),(92,[(1,[(3,110)])]),(93,[(7,[(4,93)])]),(95,[(2,[(2,55)])]),(97,[(1,[(2,55)]),(3,[(2,111)]),(9,[(45,96)])]),(98,[(5,[(8,112)]),(6,[(3,58)])]),(100,[(1,[(1,64)]),(3,[(1,113)])]),(101,[(1,[(1,64)]),(4,[(1,64)]),(9,[(1,100),(3,100)])]),(102,[(1,[(1,64)]),(4,[(1,64)]),(9,[(9,114)])]),(104,[(7,[(8,117)])]),(105,[(4,[(6,117)])]),(107,[(4,[(4,119)])]),(108,[(1,[(5,120)]),(2,[(6,124)]),(3,[(4,125)])]),(110,[(5,[(3,126)])]),(113,[(1,[(1,127)]),(2,[(1,128)]),(17,[(1,127)])]),(114,[(2,[(1,129)]),(12,[(5,115),(6,199)]),(17,[(4,116)])]),(120,[(1,[(4,131),(6,130)])]),(121,[(1,[(4,123),(9,123),(14,123),(16,122)])]),(123,[(1,[(1,132)]),(2,[(1,132)])]),(125,[(1,[(1,133)]),(4,[(1,100)])]),(126,[(3,[(3,134)]),(5,[(1,135)]),(6,[(3,136)])]),(127,[(1,[(1,64)]),(3,[(6,138)])]),(128,[(1,[(1,64)])]),(130,[(4,[(4,141)]),(6,[(4,142)]),(8,[(4,143)]),(10,[(4,144)]),(12,[(4,145)]),(16,[(4,146)]),(17,[(13,121)]),(18,[(5,147)]),(20,[(5,148)]),(26,[(5,130)]),(29,[(6,130)])]),(131,[(2,[(1,150)])]),(133,[(1,[(1,151)]),(4,[(5,153),(7,152)])]),(135,[(1,[(1,150),(2,155)]),(2,[(6,156)])]),(138,[(2,[(1,159)]),(12,[(5,139),(6,198)]),(17,[(4,140)])]),(141,[(4,[(14,121)])]),(142,[(6,[(5,160)]),(11,[(5,160)])]),(143,[(3,[(1,161)]),(7,[(0,162)])]),(144,[(8,[(3,163)]),(9,[(3,163)]),(10,[(3,163)]),(11,[(5,164)])]),(146,[(5,[(14,121)]),(16,[(10,121)]),(22,[(10,121)])]),(147,[(3,[(13,121)]),(5,[(13,121)])]),(148,[(3,[(13,121)]),(5,[(13,121)]),(13,[(13,121)]),(15,[(13,121)])]),(151,[(3,[(7,165)]),(10,[(19,166)])]),(152,[(2,[(1,167)]),(12,[(5,168),(6,209)]),(17,[(4,154)])]),(160,[(3,[(19,121)]),(5,[(13,121)])]),(161,[(1,[(2,131)])]),(163,[(1,[(8,164)])]),(164,[(1,[(5,171)]),(2,[(5,171)]),(3,[(5,171)])]),(166,[(1,[(4,123),(9,123),(14,123),(16,122)])]),(168,[(1,[(5,169)])]),(169,[(1,[(1,172)]),(4,[(3,174),(5,173)])]),(171,[(1,[(9,121)])]),(172,[(6,[(3,174)])]),(173,[(4,[(2,77)])]),(202,[(5,[(4,77),(6,76)])]),(203,[(5,[(4,77),(6,75)])]),(205,[(5,[(4,77),(6,68)])]),(206,[(5,[(4,77),(6,71)])]),(207,[(5,[(4,77),(6,72)])]),(208,[(1,[(3,110)])])]
def avu:List (Nat×List (Nat×(Shape×List (Out×Shape)))):=[(6,[(415,Zb),(543,Zc),(655,Zd),(847,Ze),(65,Zf)]),(7,[(49,Zg)]),(8,[(81,Zh)]),(12,[(353,Zi),(289,Zj),(1551,Zk),(513,Zl),(449,Zm),(1759,Zn),(97,Zo)]),(14,[(719,Zp),(879,Zq),(129,Zr)]),(17,[(97,Zs)]),(18,[(65,Zt)]),(19,[(543,Zu),(65,Zv)]),(20,[(305,Zw),(1087,Zx),(943,Zy),(527,Zz),(351,ZA),(49,ZB)]),(22,[(591,ZC),(751,ZD),(1135,ZE),(65,ZF)]),(23,[(319,ZG),(431,ZH)]),(25,[(49,ZI)]),(30,[(1039,ZJ),(895,ZK),(97,ZL)]),(33,[(177,ZM),(129,ZN),(289,ZO),(1583,ZP)]),(34,[(49,ZQ)]),(35,[(177,ZR),(81,ZS)]),(37,[(463,avc),(655,avd),(81,ave)]),(39,[(735,ZT)]),(40,[(65,ZU)]),(41,[(287,ZV)]),(43,[(49,ZW)]),(49,[(49,ZX)]),(50,[(65,avf),(161,avg)]),(51,[(49,ZY)]),(53,[(49,ZZ),(17,Z0)]),(54,[(175,Z1)]),(56,[(1471,Z2),(241,Z3),(161,Z4)]),(57,[(431,Z5),(129,Z6),(49,Z7)]),(60,[(49,Z8),(241,Z9),(177,aaa),(145,aab)]),(61,[(65,aac),(145,aad),(305,aae),(241,aaf)]),(63,[(383,aag),(129,aah),(49,aai)]),(64,[(225,aaj),(145,aak)]),(67,[(321,aal)]),(69,[(17,aam)]),(75,[(17,aan)]),(76,[(33,aao)]),(79,[(143,aap)]),(80,[(97,aaq),(49,aar)]),(81,[(927,aas),(193,aat),(129,aau)]),(82,[(65,aav)]),(83,[(49,aaw)]),(84,[(65,aax)]),(85,[(129,aay),(81,aaz)]),(90,[(1071,aaA)]),(91,[(81,aaB)]),(93,[(81,aaC)]),(95,[(225,aaD),(145,aaE)]),(97,[(113,aaF)]),(98,[(49,aaG)]),(99,[(49,aaH)]),(104,[(81,aaI),(33,aaJ)]),(105,[(17,aaK)]),(107,[(17,aaL)]),(113,[(161,aaM),(81,aaN),(321,aaO)]),(114,[(161,aaP),(81,aaQ)]),(116,[(207,aaR)]),(122,[(49,aaS)]),(124,[(145,aaT),(65,aaU)]),(127,[(97,aaV),(177,aaW)]),(128,[(81,aaX),(273,aaY),(209,aaZ),(161,aa0)]),(130,[(639,aa1),(911,aa2),(1215,aa3),(33,aa4)]),(136,[(17,avh),(1599,avi)]),(138,[(161,aa5),(81,aa6)]),(141,[(65,aa7),(17,aa8)]),(142,[(65,aa9),(129,aba)]),(143,[(735,abb),(81,abc)]),(144,[(591,abd),(559,abe)]),(145,[(33,abf)]),(146,[(81,abg),(225,abh),(1055,abi),(321,abj),(49,abk)]),(147,[(49,abl),(81,abm),(50,abn)]),(148,[(49,abo),(81,abp),(209,abq),(241,abr),(210,abt)]),(150,[(79,abu),(143,abv)]),(151,[(97,abw)]),(152,[(161,abx),(81,aby)]),(153,[(49,abz),(129,abA)]),(160,[(655,abB),(17,abC)]),(169,[(81,abD)]),(172,[(65,abE)]),(173,[(33,abF)]),(202,[(49,abG),(17,abH)]),(203,[(49,abI),(17,abJ)]),(205,[(49,abK),(17,abL)]),(206,[(49,abM),(17,abN)]),(207,[(49,abO),(17,abP)])]
def avv:List (Nat×List (Nat×LN)):=[(8,[(3,[24])]),(12,[(20,[51,52]),(30,[81,82])]),(28,[(11,[46])]),(50,[(8,[42])]),(124,[(15,[59])]),(126,[(4,[7])]),(153,[(1,[9])])]
def SS(k:Nat):FuncId:=(gM avj k).getD 0
def mC:eh where
 ll:=SS
 sin:=fun k=>(gM avk k).getD ⟨[],[]⟩
 j6:=fun k=>(gM avl k).getD ⟨[],[]⟩
 live:=fun k r=>(gM ((gM avo (SS k)).getD []) r).getD []
 join:=fun k r=>(gM ((gM avp (SS k)).getD []) r).getD []
 blk:=fun k r=>(gM ((gM avq (SS k)).getD []) r).getD []
 pur:=fun k r=>(gM ((gM avr k).getD []) r).getD []
 Cc:=fun k=>(gM avs k).getD []
 alt:=fun k=>gM avm k
 nst:=fun k r=>(gM ((gM avv k).getD []) r).getD []
 ck:=fun k r i=>(gM ((gM ((gM avt k).getD []) r).getD []) i).getD 0
 ni:=fun k x=>gM ((gM avu k).getD []) x
 u0:=[]
 Pp:=fun _=>0
 ext:=fun f=>none
 u5:=fun f=>bif Nat.beq f 109 then some 3 else bif Nat.beq f 118 then some 107 else none
 idle:=fun f=>false
 mv:=fun k=>(gM ([(39,[1]),(62,[1]),(68,[2]),(72,[3]),(74,[2]),(86,[1]),(87,[1]),(88,[1]),(104,[1]),(105,[1]),(106,[1]),(107,[1]),(108,[1]),(117,[1]),(119,[1]),(129,[1]),(159,[1]),(167,[1]),(198,[1]),(199,[1]),(204,[2]),(205,[2]),(207,[3]),(209,[1])]:List (Nat×LN)) k).getD []
 bf:=fun g=>bif Nat.beq g 0 then .pref [5,5,5,5,5,5,5,5,5,5,5,5,5,5,5,5,5,5,5,5,5,5,5,5,5,5,5,5,5,5,5,5,5,5,5,5,5,5,5,5,5,5,5,5,5,5,5,5,5,5,5,5,5,5,5,5,5,5,5,5,5,5,5,5] F9 else bif Nat.beq g 1 then .pref [63,63,63,63,63,63,63,63,63,63,63,63,63,63,63,63,63,63,63,63] YL else bif Nat.beq g 2 then .pref [5,5,5,5,5,5,5,5,5,5,5,5,5,5,5,5,5,5,5,5,5,5,5,5,5,5,5,5,5,5,5,5] YM else .undef
noncomputable abbrev PG:Program:=Tryz.prog
noncomputable abbrev CC:ab:=Call Tryz.prog mC
noncomputable abbrev Lp(p:LN)(k:Nat):rL:=.loop (za p (yI PG (mC.ll k)))
noncomputable abbrev Cd(t:Nat)(p q:LN)(k:Nat):rL:=.cond t (za p (yI PG (mC.ll k))) (za q (yI PG (mC.ll k)))
abbrev aP(C:ab)(L:cm)(k:Nat)(b:rL):Prop:=xk PG mC C L k (Iy PG (mC.ll k)) (mC.sin k).dN.length b
noncomputable def KT(C:ab)(tf:Int)(t38:LV)(t39 t40:Int)(t49:LV)(t50 bc bp:Int)(cd b9:LV)(t51:Int):bz Int ((Int)⊕(Int×Bool)):=fun kn kr=>
 bif decide (t51<t50)then
  (idx t49 t51).bind fun x2=>
  bif decide ((x2.toInt:Int)<0)then
  kr (.inl 4)
  else
  bif decide ((x2.toInt:Int)>=tf)then
   kr (.inl 4)
  else
   kn (wI (t51+1))
 else
  kr (.inr (t51,decide (t51<t50)))
noncomputable def SU(C:ab)(tf:Int)(t38:LV)(t39 t40:Int)(t49:LV)(t50 bc bp:Int)(cd b9:LV):=fun t51=>KT C tf t38 t39 t40 t49 t50 bc bp cd b9 t51 bD bE
noncomputable def KU(C:ab)(tf:Int)(t38:LV)(t39 bc bp:Int)(cd b9:LV)(t40:Int):bz Int ((Int)⊕(Int×Bool)):=fun kn kr=>
 bif decide (t40<t39)then
  (idx t38 t40).bind fun x1=>
  bif(x1.toList.length:Int) !=bc then
  kr (.inl 4)
  else
  (Loop (SU C tf t38 t39 t40 x1.toList (x1.toList.length:Int) bc bp cd b9) 0).bind (db (fun ly=>
   kr (.inl ly)) (un fun lz kD=>
   kn (wI (t40+1))))
 else
  kr (.inr (t40,decide (t40<t39)))
noncomputable def SV(C:ab)(tf:Int)(t38:LV)(t39 bc bp:Int)(cd b9:LV):=fun t40=>KU C tf t38 t39 bc bp cd b9 t40 bD bE
noncomputable def akv(C:ab):cm:=bC 225 aaj (aD 11 64) [[0],[1,2,3,4,5,6,0,0,8,9,10,11]] (@KT C) (bC 145 aak (aD 8 8) [[0],[1,2,3,0,0,5,6,7,8]] (@KU C) aO)
theorem avw(C:ab):aP C (akv C) 64 (Lp [1,1,1,1,1,0,1,0,0,1,1,0,0,1,1,1,0,0] 64):=bB aaj (aD 11 64) [[0],[1,2,3,4,5,6,0,0,8,9,10,11]] (@KT C) (ay ag)
theorem avx(C:ab):aP C (akv C) 64 (Lp [1,1,1,1,1,0,1,0,0] 64):=bB aak (aD 8 8) [[0],[1,2,3,0,0,5,6,7,8]] (@KU C) (ay (aL (avw C) ag))
noncomputable def akw(C:ab)(bH bJ:Int)(bu cb:LV):Option LV:=
 bif decide (bH<1)then
  some [vI 1]
 else
  bif decide (bH>6)then
  some [vI 1]
  else
  bif decide ((bu.length:Int)>512)then
   some [vI 3]
  else
   bif(cb.length:Int) != (bu.length:Int)then
   some [vI 4]
   else
   bif decide (bJ<0)then
    some [vI 4]
   else
    bif decide (bJ>=(bu.length:Int))then
    some [vI 4]
    else
    (Loop (SV C (bu.length:Int) cb (cb.length:Int) bH bJ bu cb) 0).bind (db (fun pq=>
     some [vI pq]) (un fun lA mw=>
     some [vI 0]))
theorem avy{bH bJ:Int}{bu cb:LV}{r:Option LV}(h:akw CC bH bJ bu cb=r):CC 64 [vI bH,vI bJ,aB bu,aE cb]=r:=aM (aL (avx CC) ag) h
noncomputable def KV(C:ab)(n:Int)(t38:LV)(t39 t40:Int)(t49:LV)(t50 bc bp:Int)(cd b9:LV)(t51:Int):bz Int ((Int)⊕(Int×Bool)):=fun kn kr=>
 bif decide (t51<t50)then
  (idx t49 t51).bind fun x3=>
  bif decide ((x3.toInt:Int)<0)then
  kr (.inl 4)
  else
  bif decide ((x3.toInt:Int)>=n)then
   kr (.inl 4)
  else
   kn (wI (t51+1))
 else
  kr (.inr (t51,decide (t51<t50)))
noncomputable def SW(C:ab)(n:Int)(t38:LV)(t39 t40:Int)(t49:LV)(t50 bc bp:Int)(cd b9:LV):=fun t51=>KV C n t38 t39 t40 t49 t50 bc bp cd b9 t51 bD bE
noncomputable def KW(C:ab)(n:Int)(t38:LV)(t39 bc bp:Int)(cd b9:LV)(t40:Int):bz Int ((Int)⊕(Int×Bool)):=fun kn kr=>
 bif decide (t40<t39)then
  (idx t38 t40).bind fun x2=>
  bif(x2.toList.length:Int) !=bc then
  kr (.inl 4)
  else
  (Loop (SW C n t38 t39 t40 x2.toList (x2.toList.length:Int) bc bp cd b9) 0).bind (db (fun lz=>
   kr (.inl lz)) (un fun kD pq=>
   kn (wI (t40+1))))
 else
  kr (.inr (t40,decide (t40<t39)))
noncomputable def SX(C:ab)(n:Int)(t38:LV)(t39 bc bp:Int)(cd b9:LV):=fun t40=>KW C n t38 t39 bc bp cd b9 t40 bD bE
noncomputable def akx(C:ab):cm:=bC 225 aaD (aD 11 64) [[0],[1,2,3,4,5,6,0,0,8,9,10,11]] (@KV C) (bC 145 aaE (aD 8 8) [[0],[1,2,3,0,0,5,6,7,8]] (@KW C) aO)
theorem avz(C:ab):aP C (akx C) 95 (Lp [1,1,1,1,1,0,1,0,0,1,1,0,0,1,1,1,0,0] 95):=bB aaD (aD 11 64) [[0],[1,2,3,4,5,6,0,0,8,9,10,11]] (@KV C) (ay ag)
theorem avA(C:ab):aP C (akx C) 95 (Lp [1,1,1,1,1,0,1,0,0] 95):=bB aaE (aD 8 8) [[0],[1,2,3,0,0,5,6,7,8]] (@KW C) (ay (aL (avz C) ag))
noncomputable def aky(C:ab)(bH bJ:Int)(bu cb:LV):Option LV:=
 (C 55 [vI bH]).bind fun r1=>
 bif !(gB r1)then
  some [vI 1]
 else
  bif decide ((bu.length:Int)>512)then
  some [vI 3]
  else
  bif(bu.length:Int)==0 then
   some [vI 4]
  else
   bif(cb.length:Int) != (bu.length:Int)then
   some [vI 4]
   else
   bif decide (bJ<0)then
    some [vI 4]
   else
    bif decide (bJ>=(bu.length:Int))then
    some [vI 4]
    else
    (Loop (SX C (bu.length:Int) cb (cb.length:Int) bH bJ bu cb) 0).bind (db (fun lA=>
     some [vI lA]) (un fun mw pr=>
     some [vI 0]))
theorem avB{bH bJ:Int}{bu cb:LV}{r:Option LV}(h:aky CC bH bJ bu cb=r):CC 95 [vI bH,vI bJ,aB bu,aE cb]=r:=aM (aL (avA CC) ag) h
noncomputable def akz(C:ab)(an:Int):Option LV:=
 bif decide (an>=1)then
  some [.bool (decide (an<=6))]
 else
  some [.bool false]
theorem akA{an:Int}{r:Option LV}(h:akz CC an=r):CC 55 [vI an]=r:=aM (L:=aO) ag h
noncomputable def akB(C:ab)(x n:Int):Option LV:=
 bif decide (n<1)then
  some [vI 0]
 else
  bif !decide (n=0)then
  bif decide (((Int.tmod x n):Int)<0)then
   some [vI (wI ((Int.tmod x n)+n))]
  else
   some [vI (Int.tmod x n)]
  else none
theorem avC{x n:Int}{r:Option LV}(h:akB CC x n=r):CC 16 [vI x,vI n]=r:=aM (L:=aO) ag h
noncomputable def abQ(C:ab)(l:LV):Option LV:=
 bif decide ((l.length:Int)>80)then
  bif decide (80<=(l.length:Int))then
  some [aR ((l.drop 0).take (80-0)),vI 0]
  else none
 else
  some [aR l,vI 0]
theorem akC{l:LV}{r:Option LV}(h:abQ CC l=r):CC 4 [aR l]=r:=aM (L:=aO) ag h
noncomputable def abR(C:ab)(n:Int)(ft:LV)(fu:Int):Option LV:=
 bif decide (fu>=(ft.length:Int))then
  some [vI 0,aR ft,vI fu]
 else
  (idx ft (wI ((wI (fu+1))-1))).bind fun x1=>
  (C 16 [vI x1.toInt,vI n]).bind fun r2=>
  some [vI (gI r2),aR ft,vI (wI (fu+1))]
theorem akD{n:Int}{ft:LV}{fu:Int}{r:Option LV}(h:abR CC n ft fu=r):CC 5 [vI n,aR ft,vI fu]=r:=aM (L:=aO) ag h
noncomputable def Gr(C:ab)(an n i:Int)(t25:Bool)(ft:LV)(fu vP gs p9 qa nA oF:Int)(aG bY:LV):eN (Int):=fun kr=>
 bif t25 then
  (C 16 [vI p9,vI 4]).bind fun r3=>
  kr (wI (1+(gI r3)))
 else
  kr p9
noncomputable def Gs(C:ab)(an n i:Int)(t33:Bool)(ft:LV)(fu vP gs p9 qa nA oF:Int)(aG bY:LV):eN (LV×Int×Int):=fun kr=>
 bif t33 then
  (C 5 [vI an,aR ft,vI fu]).bind fun r5=>
  kr ((eu r5),(jq r5),(gI r5))
 else
  kr (ft,fu,qa)
noncomputable def Gt(C:ab)(an n i:Int)(t40:Bool)(ft:LV)(fu vP gs p9 qa nA oF:Int)(aG bY:LV):eN (LV×Int×Int):=fun kr=>
 bif t40 then
  (C 5 [vI i,aR ft,vI fu]).bind fun r9=>
  kr ((eu r9),(jq r9),(gI r9))
 else
  kr (ft,fu,nA)
noncomputable def Dy(C:ab)(an n i:Int)(t52:Bool)(ft:LV)(fu vP gs p9 qa nA oF:Int)(aG bY:LV):eN (LV×Int×Int):=fun kr=>
 bif t52 then
  (C 5 [vI i,aR ft,vI fu]).bind fun Dz=>
  kr ((eu Dz),(jq Dz),(gI Dz))
 else
  kr (ft,fu,oF)
noncomputable def KX(C:ab)(an n vP gs:Int)(ar:LV)(i:Int)(ft:LV)(fu:Int)(aG:LV):bz (Int×LV×Int×LV) (Int×Bool×LV×Int×LV):=fun kn kr=>
 bif decide (i<n)then
  (C 5 [vI 8,aR ft,vI fu]).bind fun r2=>
  Gr C an n i (i==0) (eu r2) (jq r2) vP gs (wI (1+(gI r2))) 0 0 0 ar aG (fun uq=>
   Gs C an n i (uq==3) (eu r2) (jq r2) vP gs uq 0 0 0 ar aG (un fun abS=>un fun avD DA=>
    Gt C an n i (decide (uq>=5)) abS avD vP gs uq DA 0 0 ar aG (un fun akE=>un fun akF Gu=>
     bif decide (uq>=5)then
     Dy C an n i (uq !=8) akE akF vP gs uq DA Gu 0 ar aG (un fun avE=>un fun avF akG=>
      bif Nat.ble ((aG.length+([.agg [vI uq,vI DA,vI Gu,vI akG]]:LV).length)*32) br then
       kn (wI (i+1),avE,avF,aG++([.agg [vI uq,vI DA,vI Gu,vI akG]]:LV))
      else none)
     else
     Dy C an n i false akE akF vP gs uq DA Gu 0 ar aG (un fun avG=>un fun avH akH=>
      bif Nat.ble ((aG.length+([.agg [vI uq,vI DA,vI Gu,vI akH]]:LV).length)*32) br then
       kn (wI (i+1),avG,avH,aG++([.agg [vI uq,vI DA,vI Gu,vI akH]]:LV))
      else none))))
 else
  kr (i,decide (i<n),ft,fu,aG)
noncomputable def SY(C:ab)(an n vP gs:Int)(ar:LV):=un fun i=>un fun ft=>un fun fu aG=>KX C an n vP gs ar i ft fu aG bD bE
noncomputable def KY(C:ab):cm:=fK 415 Zb [[1,2,3,5,6,7,8,0,10,11,12,13,14]] (@Gr C) (fK 543 Zc [[1,2,3,0,0,7,8,9,0,11,12,13,14]] (@Gs C) (fK 655 Zd [[1,2,3,0,0,7,8,9,10,0,12,13,14]] (@Gt C) (fK 847 Ze [[1,2,3,0,0,7,8,9,10,11,0,13,14]] (@Dy C) (bC 65 Zf (aD 9 284) [[1,2,0,0,0,0,6,7,8,0]] (@KX C) aO))))
theorem avI(C:ab):aP C (KY C) 6 (Cd 25 [1,1,1,0,1,0,0,1,0,0,1,0,1,0] [1,1,1,0,1,0,0,1,0,0,1,0,1,1] 6):=fJ Zb [[1,2,3,5,6,7,8,0,10,11,12,13,14]] (@Gr C) (ay ag) (ay ag)
theorem avJ(C:ab):aP C (KY C) 6 (Cd 33 [1,1,1,0,1,0,0,1,0,0,1,1,0,1,0] [1,1,1,0,1,0,0,1,0,0,1,1,0,1,1] 6):=fJ Zc [[1,2,3,0,0,7,8,9,0,11,12,13,14]] (@Gs C) (ay ag) (ay ag)
theorem avK(C:ab):aP C (KY C) 6 (Cd 40 [1,1,1,0,1,0,0,1,0,0,1,1,1,0,1,0] [1,1,1,0,1,0,0,1,0,0,1,1,1,0,1,1] 6):=fJ Zd [[1,2,3,0,0,7,8,9,10,0,12,13,14]] (@Gt C) (ay ag) (ay ag)
theorem avL(C:ab):aP C (KY C) 6 (Cd 52 [1,1,1,0,1,0,0,1,0,0,1,1,1,1,0,1,0] [1,1,1,0,1,0,0,1,0,0,1,1,1,1,0,1,1] 6):=fJ Ze [[1,2,3,0,0,7,8,9,10,11,0,13,14]] (@Dy C) (ay ag) (ay ag)
theorem avM(C:ab):aP C (KY C) 6 (Lp [1,1,1,0,1,0,0] 6):=bB Zf (aD 9 284) [[1,2,0,0,0,0,6,7,8,0]] (@KX C) (ay (aL (avI C) (aL (avJ C) (aL (avK C) (aL (avL C) ag)))))
noncomputable def akI(C:ab)(an dr:Int)(ft:LV)(fu:Int):Option LV:=
 (C 5 [vI dr,aR ft,vI fu]).bind fun r1=>
 (Loop (SY C an (wI (1+(gI r1))) 0 0 ([]:LV)) (0,(eu r1),(jq r1),([]:LV))).bind (un fun aJR=>un fun akJ=>un fun avN=>un fun avO DB=>
  some [vI (wI ((wI (1+(gI r1)))-1)),aR avN,vI avO,fU DB])
theorem avP{an dr:Int}{ft:LV}{fu:Int}{r:Option LV}(h:akI CC an dr ft fu=r):CC 6 [vI an,vI dr,aR ft,vI fu]=r:=aM (aL (avM CC) ag) h
noncomputable def KZ(C:ab)(w:List UInt8)(an t18 t19:Int):bz Int ((Bool)⊕(Int×Bool)):=fun kn kr=>
 bif decide (t19<t18)then
  (bif decide (0<=t19)then(w[t19.toNat]?).map fun b=>V.int .u8 b.toNat else none).bind fun x1=>
  bif decide ((x1.toInt:Int)<97)then
  kr (.inl false)
  else
  (bif decide (0<=t19)then(w[t19.toNat]?).map fun b=>V.int .u8 b.toNat else none).bind fun x2=>
  bif decide (((wI (IntKind.wrap .u8 (x2.toInt-97))):Int)>=an)then
   kr (.inl false)
  else
   kn (wI (t19+1))
 else
  kr (.inr (t19,decide (t19<t18)))
noncomputable def SZ(C:ab)(w:List UInt8)(an t18:Int):=fun t19=>KZ C w an t18 t19 bD bE
noncomputable def avQ(C:ab):cm:=bC 65 Zt [J0,J0,J0,J1] [[0],[1,2,3,0,0]] (@KZ C) aO
theorem avR(C:ab):aP C (avQ C) 18 (Lp [1,1,0,1,0,0] 18):=bB Zt [J0,J0,J0,J1] [[0],[1,2,3,0,0]] (@KZ C) (ay ag)
noncomputable def akK(C:ab)(w:List UInt8)(an:Int):Option LV:=
 bif decide (an<1)then
  some [.bool false]
 else
  bif decide (an>6)then
  some [.bool false]
  else
  bif decide ((w.length:Int)>2048)then
   some [.bool false]
  else
   (Loop (SZ C w an (w.length:Int)) 0).bind (db (fun(ly:Bool)=>
    some [.bool ly]) (un fun lz kD=>
    some [.bool true]))
theorem avS{w:List UInt8}{an:Int}{r:Option LV}(h:akK CC w an=r):CC 18 [.str w,vI an]=r:=aM (aL (avR CC) ag) h
noncomputable def K0(C:ab)(w:List UInt8)(t30 bc bp:Int)(cd b9:LV)(state t31:Int):bz (Int×Int) (Int×Int×Bool):=fun kn kr=>
 bif decide (t31<t30)then
  (idx b9 state).bind fun x3=>
  (bif decide (0<=t31)then(w[t31.toNat]?).map fun b=>V.int .u8 b.toNat else none).bind fun x4=>
  (idx x3.toList (IntKind.wrap .u8 (x4.toInt-97))).bind fun x5=>
  kn (x5.toInt,wI (t31+1))
 else
  kr (state,t31,decide (t31<t30))
noncomputable def S3(C:ab)(w:List UInt8)(t30 bc bp:Int)(cd b9:LV):=un fun state t31=>K0 C w t30 bc bp cd b9 state t31 bD bE
noncomputable def avT(C:ab):cm:=bC 65 ZU (aD 8 9) [[0,2,3,0,0,5,6,7,8]] (@K0 C) aO
theorem avU(C:ab):aP C (avT C) 40 (Lp [1,1,0,1,0,0] 40):=bB ZU (aD 8 9) [[0,2,3,0,0,5,6,7,8]] (@K0 C) (ay ag)
noncomputable def akL(C:ab)(bH bJ:Int)(bu cb:LV)(state:Int)(w:List UInt8):Option LV:=
 (C 64 [vI bH,vI bJ,aB bu,aE cb]).bind fun r1=>
 bif((gI r1):Int) !=0 then
  some [vI (-1)]
 else
  bif decide (state<0)then
  some [vI (-1)]
  else
  bif decide (state>=(bu.length:Int))then
   some [vI (-1)]
  else
   (C 18 [.str w,vI bH]).bind fun r2=>
   bif !(gB r2)then
   some [vI (-1)]
   else
   (Loop (S3 C w (w.length:Int) bH bJ bu cb) (state,0)).bind (un fun avV=>un fun lA mw=>
    some [vI avV])
theorem avW{bH bJ:Int}{bu cb:LV}{state:Int}{w:List UInt8}{r:Option LV}(h:akL CC bH bJ bu cb state w=r):CC 40 [vI bH,vI bJ,aB bu,aE cb,vI state,.str w]=r:=aM (aL (avU CC) ag) h
noncomputable def akM(C:ab)(bH bJ:Int)(bu cb:LV)(w:List UInt8):Option LV:=
 (C 40 [vI bH,vI bJ,aB bu,aE cb,vI bJ,.str w]).bind fun r1=>
 bif decide (((gI r1):Int)>=0)then
  (idx bu (gI r1)).bind fun x2=>
  some [.bool x2.toBool]
 else
  some [.bool false]
theorem avX{bH bJ:Int}{bu cb:LV}{w:List UInt8}{r:Option LV}(h:akM CC bH bJ bu cb w=r):CC 15 [vI bH,vI bJ,aB bu,aE cb,.str w]=r:=aM (L:=aO) ag h
noncomputable def akN(C:ab)(q x cE cG:Int)(gG jI:LV):Option LV:=
 (idx jI q).bind fun x1=>
 (idx x1.toList x).bind fun x2=>
 some [vI x2.toInt,vI cE,vI cG,aB gG,aE jI]
theorem avY{q x cE cG:Int}{gG jI:LV}{r:Option LV}(h:akN CC q x cE cG gG jI=r):CC 139 [vI q,vI x,vI cE,vI cG,aB gG,aE jI]=r:=aM (L:=aO) ag h
noncomputable def akO(C:ab)(q qb qc:Int)(oG pw:LV):Option LV:=
 (idx oG q).bind fun x1=>
 some [.bool x1.toBool,vI qb,vI qc,aB oG,aE pw]
theorem avZ{q qb qc:Int}{oG pw:LV}{r:Option LV}(h:akO CC q qb qc oG pw=r):CC 140 [vI q,vI qb,vI qc,aB oG,aE pw]=r:=aM (L:=aO) ag h
noncomputable def akP(C:ab)(x:Int)(bh:LV):Option LV:=
 bif cS .i64 x&&true then
  bif cS .i64 x&&true then
  bif Nat.ble ((bh.length+([vI x]:LV).length)*8) br then
   some [vI (bh.length:Int),aR (bh++([vI x]:LV)),.list kf (fj (vI x) (vI (bh.length:Int)) ([]:LV))]
  else none
  else none
 else none
theorem av0{x:Int}{bh:LV}{r:Option LV}(h:akP CC x bh=r):CC 159 [vI x,aR bh]=r:=aM (L:=aO) ag h
noncomputable def akQ(C:ab)(x:Int)(bh bZ:LV):Option LV:=
 bif cS .i64 x&&true then
  bif !(fi (vI x) bZ)then
  bif cS .i64 x&&true then
   bif Nat.ble ((bh.length+([vI x]:LV).length)*8) br then
   some [vI (bh.length:Int),.list kf (fj (vI x) (vI (bh.length:Int)) bZ),aR (bh++([vI x]:LV))]
   else none
  else none
  else
  some [vI ((gV (vI x) bZ (vI 0)).toInt),.list kf bZ,aR bh]
 else none
theorem av1{x:Int}{bh bZ:LV}{r:Option LV}(h:akQ CC x bh bZ=r):CC YD [vI x,aR bh,.list kf bZ]=r:=aM (L:=aO) ag h
noncomputable def K1(C:ab)(an i state t36 mU mV bc bp:Int)(bY ch dt eE:LV)(t37 js jt:Int)(ju jv rows cH cy:LV):bz (Int×Int×Int×LV×LV×LV×LV×LV) (Int×Bool×Int×Int×LV×LV×LV×LV×LV):=fun kn kr=>
 bif decide (t37<t36)then
  (C 139 [vI state,vI t37,vI js,vI jt,aB ju,aE jv]).bind fun r3=>
  (C YD [vI (gI r3),aR cH,.list kf cy]).bind fun r4=>
  aj rows t37 fun x5=>
  kn (wI (t37+1),(bM r3),(jq r3),(KD r3),(Yw r3),az rows t37 (vI (gI r4)),(lW r4),(eu r4))
 else
  kr (t37,decide (t37<t36),js,jt,ju,jv,rows,cH,cy)
noncomputable def S4(C:ab)(an i state t36 mU mV bc bp:Int)(bY ch dt eE:LV):=un fun t37=>un fun js=>un fun jt=>un fun ju=>un fun jv=>un fun rows=>un fun cH cy=>K1 C an i state t36 mU mV bc bp bY ch dt eE t37 js jt ju jv rows cH cy bD bE
noncomputable def K3(C:ab)(an mU mV bc bp:Int)(aG bY:LV)(i js jt:Int)(ju jv ch cH cy dt:LV):bz (Int×Int×Int×LV×LV×LV×LV×LV×LV) ((Int×Int×Int×LV×LV×Int×Int×LV×LV×LV)⊕(Int×Bool×Int×Int×LV×LV×LV×LV×LV×LV)):=fun kn kr=>
 bif decide (i<(ch.length:Int))then
  aj ch i fun x2=>
  bif(decide (0<=an))&&((decide (an<=an))&&(Nat.ble ((an.toNat)*8) br))then
  (Loop (S4 C an i x2.toInt ((List.replicate (an.toNat) (vI 0)).length:Int) mU mV bc bp aG bY cy dt) (0,js,jt,ju,jv,List.replicate (an.toNat) (vI 0),ch,cH)).bind (un fun pq=>un fun lA=>un fun Bi=>un fun K4=>un fun K5=>un fun K6=>un fun akR=>un fun ur th=>
   bif decide ((ur.length:Int)>512)then
    kr (.inl (3,Bi,K4,K5,K6,0,0,([]:LV),([]:LV),([]:LV)))
   else
    bif Nat.ble ((dt.length+([aR akR]:LV).length)*24) br then
    (C 140 [vI x2.toInt,vI Bi,vI K4,aB K5,aE K6]).bind fun jw=>
    bif Nat.ble ((cy.length+([.bool (gB jw)]:LV).length)*1) br then
     kn (wI (i+1),(bM jw),(jq jw),(KD jw),(Yw jw),ur,th,cy++([.bool (gB jw)]:LV),dt++([aR akR]:LV))
    else none
    else none)
  else none
 else
  kr (.inr (i,decide (i<(ch.length:Int)),js,jt,ju,jv,ch,cH,cy,dt))
noncomputable def S5(C:ab)(an mU mV bc bp:Int)(aG bY:LV):=un fun i=>un fun js=>un fun jt=>un fun ju=>un fun jv=>un fun ch=>un fun cH=>un fun cy dt=>K3 C an mU mV bc bp aG bY i js jt ju jv ch cH cy dt bD bE
noncomputable def akS(C:ab):cm:=bC 161 aa5 (aD 20 205296) [[1,2,3,4,0,0,0,0,0,0,10,11,12,13,0,15,16,0,0,19,20]] (@K1 C) (bC 81 aa6 (aD 16 61502) [[0,0,0,0,0,0,0,0,0,0],[1,0,0,0,0,0,0,7,8,9,10,11,12,0,0,0,0]] (@K3 C) aO)
theorem av2(C:ab):aP C (akS C) 138 (Lp [1,1,1,1,0,1,0,0,1,0,0,1,1,0,1,0,0] 138):=bB aa5 (aD 20 205296) [[1,2,3,4,0,0,0,0,0,0,10,11,12,13,0,15,16,0,0,19,20]] (@K1 C) (ay ag)
theorem av3(C:ab):aP C (akS C) 138 (Lp [1,1,1,1,0,1,0,0] 138):=bB aa6 (aD 16 61502) [[0,0,0,0,0,0,0,0,0,0],[1,0,0,0,0,0,0,7,8,9,10,11,12,0,0,0,0]] (@K3 C) (ay (aL (av2 C) ag))
noncomputable def akT(C:ab)(an start js jt:Int)(ju jv:LV):Option LV:=
 (C 159 [vI start,aR ([]:LV)]).bind fun r1=>
 (Loop (S5 C an 0 0 an 0 ([]:LV) ([]:LV)) (0,js,jt,ju,jv,(eu r1),(lW r1),([]:LV),([]:LV))).bind (db (un fun K7=>un fun py=>un fun DC=>un fun K8=>un fun akU=>un fun abT=>un fun av4=>un fun K9=>un fun DB av5=>
  some [vI abT,vI av4,vI K7,vI py,vI DC,aB K8,aE akU,aB K9,aE DB,aR av5]) (un fun xG=>un fun S6=>un fun av6=>un fun av7=>un fun av8=>un fun av9=>un fun La=>un fun S7=>un fun akV Lb=>
  some [vI an,vI 0,vI 0,vI av6,vI av7,aB av8,aE av9,aB akV,aE Lb,aR La]))
theorem awa{an start js jt:Int}{ju jv:LV}{r:Option LV}(h:akT CC an start js jt ju jv=r):CC 138 [vI an,vI start,vI js,vI jt,aB ju,aE jv]=r:=aM (aL (av3 CC) ag) h
noncomputable def Lc(C:ab)(t31 cE cG ft fu:Int)(iN aG bY ch cH:LV)(t32:Int)(numbers:LV):bz (Int×LV) (Int×Bool×LV):=fun kn kr=>
 bif decide (t32<t31)then
  aj numbers t32 fun x3=>
  kn (wI (t32+1),az numbers t32 (vI (-1)))
 else
  kr (t32,decide (t32<t31),numbers)
noncomputable def S8(C:ab)(t31 cE cG ft fu:Int)(iN aG bY ch cH:LV):=un fun t32 numbers=>Lc C t31 cE cG ft fu iN aG bY ch cH t32 numbers bD bE
noncomputable def Ld(C:ab)(t40 cE cG ft fu:Int)(abU aG bY ch cH:LV)(t41:Int)(numbers:LV):bz (Int×LV) (Int×Bool×LV):=fun kn kr=>
 bif decide (t41<t40)then
  aj abU t41 fun x7=>
  bif(decide (0<=x7.toInt))&&(decide (x7.toInt<(numbers.length:Int)))then
  (numbers[(x7.toInt:Int).toNat]?).bind fun x8=>
  kn (wI (t41+1),az numbers (x7.toInt) (vI t41))
  else none
 else
  kr (t41,decide (t41<t40),numbers)
noncomputable def S9(C:ab)(t40 cE cG ft fu:Int)(abU aG bY ch cH:LV):=un fun t41 numbers=>Ld C t40 cE cG ft fu abU aG bY ch cH t41 numbers bD bE
noncomputable def akW(C:ab):cm:=bC 97 aaV (aD 12 130) [[1,0,0,3,4,5,6,7,0,9,10,11,12]] (@Lc C) (bC 177 aaW (aD 12 66) [[1,0,0,3,4,5,6,0,8,9,10,11,12]] (@Ld C) aO)
theorem awb(C:ab):aP C (akW C) 127 (Lp [1,1,1,1,0,1,0,0] 127):=bB aaV (aD 12 130) [[1,0,0,3,4,5,6,7,0,9,10,11,12]] (@Lc C) (ay ag)
theorem awc(C:ab):aP C (akW C) 127 (Lp [1,1,1,1,1,0,1,0,0] 127):=bB aaW (aD 12 66) [[1,0,0,3,4,5,6,0,8,9,10,11,12]] (@Ld C) (ay ag)
noncomputable def akX(C:ab)(bH bJ:Int)(bu cb:LV):Option LV:=
 (C 64 [vI bH,vI bJ,aB bu,aE cb]).bind fun r1=>
 bif((gI r1):Int) !=0 then
  some [vI 0,vI 0,aB ([]:LV),aE ([]:LV),aR ([]:LV)]
 else
  (C 138 [vI bH,vI bJ,vI bH,vI bJ,aB bu,aE cb]).bind fun r2=>
  bif(decide (0<=((gL (((r2.drop 3).drop 1).drop 1)).length:Int)))&&((decide (((gL (((r2.drop 3).drop 1).drop 1)).length:Int)<=((gL (((r2.drop 3).drop 1).drop 1)).length:Int)))&&(Nat.ble (((((gL (((r2.drop 3).drop 1).drop 1)).length:Int):Int).toNat)*8) br))then
  (Loop (S8 C ((List.replicate ((((gL (((r2.drop 3).drop 1).drop 1)).length:Int):Int).toNat) (vI 0)).length:Int) 0 0 (gI r2) (bM r2) (Yx r2) ([]:LV) ([]:LV) (Yy r2) (Yz r2)) (0,List.replicate ((((gL (((r2.drop 3).drop 1).drop 1)).length:Int):Int).toNat) (vI 0))).bind (un fun lz=>un fun kD awd=>
   (Loop (S9 C ((Yx r2).length:Int) 0 0 (gI r2) (bM r2) (Yx r2) ([]:LV) ([]:LV) (Yy r2) (Yz r2)) (0,awd)).bind (un fun pr=>un fun xH awe=>
    some [vI (gI r2),vI (bM r2),aB (Yy r2),aE (Yz r2),aR awe]))
  else none
theorem awf{bH bJ:Int}{bu cb:LV}{r:Option LV}(h:akX CC bH bJ bu cb=r):CC 127 [vI bH,vI bJ,aB bu,aE cb]=r:=aM (aL (awb CC) (aL (awc CC) ag)) h
noncomputable def Lf(C:ab)(t24:LV)(t25 bc bp:Int)(cd b9:LV)(count t26:Int)(fO:LV):bz (Int×Int×LV) (Int×Int×Bool×LV):=fun kn kr=>
 bif decide (t26<t25)then
  (idx t24 t26).bind fun x2=>
  (cd[0]?).bind fun x3=>
  bif !(x2.toBool==x3.toBool)then
  aj fO t26 fun x4=>
  kn (2,wI (t26+1),az fO t26 (vI 1))
  else
  kn (count,wI (t26+1),fO)
 else
  kr (count,t26,decide (t26<t25),fO)
noncomputable def Ta(C:ab)(t24:LV)(t25 bc bp:Int)(cd b9:LV):=un fun count=>un fun t26 fO=>Lf C t24 t25 bc bp cd b9 count t26 fO bD bE
noncomputable def Lh(C:ab)(count q:Int)(t46:LV)(t47 t48:Int)(t58:LV)(t59 bc bp:Int)(cd b9 fO numbers vQ:LV)(t60 Tb Td Te Tf Tg Th Ti:Int):bz (Int×Int×Int×Int×Int×Int×Int×Int) (Int×Bool×Int×Int×Int×Int×Int×Int×Int):=fun kn kr=>
 bif decide (t60<t59)then
  (idx t58 t60).bind fun iO=>
  bif(decide (0<=iO.toInt))&&(decide (iO.toInt<(fO.length:Int)))then
  (fO[(iO.toInt:Int).toNat]?).bind fun kE=>
  bif(decide (0<=(wI (1+t60))))&&(decide ((wI (1+t60))<7))then
   bif Nat.blt (0+(((wI (1+t60):Int).toNat)*1)) 7 then
   kn (wI (t60+1),bif Nat.beq (0+(((wI (1+t60):Int).toNat)*1)) 0 then kE.toInt else Tb,bif Nat.beq (0+(((wI (1+t60):Int).toNat)*1)) 1 then kE.toInt else Td,bif Nat.beq (0+(((wI (1+t60):Int).toNat)*1)) 2 then kE.toInt else Te,bif Nat.beq (0+(((wI (1+t60):Int).toNat)*1)) 3 then kE.toInt else Tf,bif Nat.beq (0+(((wI (1+t60):Int).toNat)*1)) 4 then kE.toInt else Tg,bif Nat.beq (0+(((wI (1+t60):Int).toNat)*1)) 5 then kE.toInt else Th,bif Nat.beq (0+(((wI (1+t60):Int).toNat)*1)) 6 then kE.toInt else Ti)
   else none
  else none
  else none
 else
  kr (t60,decide (t60<t59),Tb,Td,Te,Tf,Tg,Th,Ti)
noncomputable def Tj(C:ab)(count q:Int)(t46:LV)(t47 t48:Int)(t58:LV)(t59 bc bp:Int)(cd b9 fO numbers vQ:LV):=un fun t60=>un fun Tb=>un fun Td=>un fun Te=>un fun Tf=>un fun Tg=>un fun Th Ti=>Lh C count q t46 t47 t48 t58 t59 bc bp cd b9 fO numbers vQ t60 Tb Td Te Tf Tg Th Ti bD bE
noncomputable def Li(C:ab)(count:Int)(t46:LV)(t47 bc bp:Int)(cd b9 fO:LV)(t48:Int)(numbers vQ:LV):bz (Int×LV×LV) (Int×Bool×LV×LV):=fun kn kr=>
 bif decide (t48<t47)then
  (idx t46 t48).bind fun x9=>
  aj fO t48 fun kY=>
  (Loop (Tj C count t48 t46 t47 t48 x9.toList (x9.toList.length:Int) bc bp cd b9 fO numbers vQ) (0,kY.toInt,0,0,0,0,0,0)).bind (un fun ti=>un fun Gv=>un fun Lj=>un fun Lk=>un fun Ll=>un fun Lm=>un fun Ln=>un fun Lo Lq=>
   bif(cS .i64 Lj&&(cS .i64 Lk&&(cS .i64 Ll&&(cS .i64 Lm&&(cS .i64 Ln&&(cS .i64 Lo&&(cS .i64 Lq&&true)))))))&&true then
   bif !(fi (.agg [vI Lj,vI Lk,vI Ll,vI Lm,vI Ln,vI Lo,vI Lq]) numbers)then
    bif(cS .i64 Lj&&(cS .i64 Lk&&(cS .i64 Ll&&(cS .i64 Lm&&(cS .i64 Ln&&(cS .i64 Lo&&(cS .i64 Lq&&true)))))))&&true then
    aj vQ t48 fun Gw=>
    kn (wI (t48+1),fj (.agg [vI Lj,vI Lk,vI Ll,vI Lm,vI Ln,vI Lo,vI Lq]) (vI (numbers.length:Int)) numbers,az vQ t48 (vI (numbers.length:Int)))
    else none
   else
    aj vQ t48 fun vR=>
    kn (wI (t48+1),numbers,az vQ t48 (vI ((gV (.agg [vI Lj,vI Lk,vI Ll,vI Lm,vI Ln,vI Lo,vI Lq]) numbers (vI 0)).toInt)))
   else none)
 else
  kr (t48,decide (t48<t47),numbers,vQ)
noncomputable def Tk(C:ab)(count:Int)(t46:LV)(t47 bc bp:Int)(cd b9 fO:LV):=un fun t48=>un fun numbers vQ=>Li C count t46 t47 bc bp cd b9 fO t48 numbers vQ bD bE
noncomputable def Lr(C:ab)(bc bp:Int)(cd b9:LV)(count:Int)(fO:LV):bz (Int×LV) LV:=fun kn kr=>
 bif(decide (0<=(fO.length:Int)))&&((decide ((fO.length:Int)<=(fO.length:Int)))&&(Nat.ble (((fO.length:Int).toNat)*8) br))then
  (Loop (Tk C count b9 (b9.length:Int) bc bp cd b9 fO) (0,([]:LV),List.replicate ((fO.length:Int).toNat) (vI 0))).bind (un fun aJS=>un fun Tl=>un fun akY akZ=>
   bif(akY.length:Int)==count then
   kr akZ
   else
   kn ((akY.length:Int),akZ))
 else none
noncomputable def Lt(C:ab)(bc bp:Int)(cd b9:LV):=un fun count fO=>Lr C bc bp cd b9 count fO bD bE
noncomputable def Tm(C:ab):cm:=bC 81 aaX (aD 9 265) [[0,2,3,0,0,5,6,7,8,0]] (@Lf C) (bC 273 aaY (aD 22 4161664) [[1,2,3,4,5,6,7,0,0,9,10,11,12,13,14,15,0,0,0,0,0,0,0]] (@Lh C) (bC 209 aaZ (aD 11 1544) [[1,2,3,0,0,5,6,7,8,9,0,0]] (@Li C) (bC 161 aa0 (aD 6 33) [[0]] (@Lr C) aO)))
theorem awg(C:ab):aP C (Tm C) 128 (Lp [1,1,1,0,1,0,0] 128):=bB aaX (aD 9 265) [[0,2,3,0,0,5,6,7,8,0]] (@Lf C) (ay ag)
theorem awh(C:ab):aP C (Tm C) 128 (Lp [1,1,1,1,0,0,0,1,1,0,1,0,0,1,1,0,0,1,1,0,1,0,0] 128):=bB aaY (aD 22 4161664) [[1,2,3,4,5,6,7,0,0,9,10,11,12,13,14,15,0,0,0,0,0,0,0]] (@Lh C) (ay ag)
theorem awi(C:ab):aP C (Tm C) 128 (Lp [1,1,1,1,0,0,0,1,1,0,1,0,0] 128):=bB aaZ (aD 11 1544) [[1,2,3,0,0,5,6,7,8,9,0,0]] (@Li C) (ay (aL (awh C) ag))
theorem awj(C:ab):aP C (Tm C) 128 (Lp [1,1,1,1,0,0] 128):=bB aa0 (aD 6 33) [[0]] (@Lr C) (ay (aL (awi C) ag))
noncomputable def ak0(C:ab)(bH bJ:Int)(bu cb:LV):Option LV:=
 (C 64 [vI bH,vI bJ,aB bu,aE cb]).bind fun r1=>
 bif((gI r1):Int) !=0 then
  some [aR ([]:LV)]
 else
  bif(decide (0<=(bu.length:Int)))&&((decide ((bu.length:Int)<=(bu.length:Int)))&&(Nat.ble (((bu.length:Int).toNat)*8) br))then
  (Loop (Ta C bu (bu.length:Int) bH bJ bu cb) (1,0,List.replicate ((bu.length:Int).toNat) (vI 0))).bind (un fun awk=>un fun pq=>un fun lA awl=>
   (Loop (Lt C bH bJ bu cb) (awk,awl)).bind (fun(awm:LV)=>
    some [aR awm]))
  else none
theorem awn{bH bJ:Int}{bu cb:LV}{r:Option LV}(h:ak0 CC bH bJ bu cb=r):CC 128 [vI bH,vI bJ,aB bu,aE cb]=r:=aM (aL (awg CC) (aL (awj CC) ag)) h
noncomputable def Lu(C:ab)(q t29 t30:Int)(t47:LV)(t48 bc bp:Int)(cd b9:LV)(cE cG Gx Gy:Int)(places fO:LV)(Gz GA:Int)(cH cy dt eE fc nB:LV)(t49:Int)(rows:LV):bz (Int×LV) (Int×Bool×LV):=fun kn kr=>
 bif decide (t49<t48)then
  (idx t47 t49).bind fun x5=>
  bif(decide (0<=x5.toInt))&&(decide (x5.toInt<(fO.length:Int)))then
  (fO[(x5.toInt:Int).toNat]?).bind fun x6=>
  aj rows t49 fun x7=>
  kn (wI (t49+1),az rows t49 (vI x6.toInt))
  else none
 else
  kr (t49,decide (t49<t48),rows)
noncomputable def Tn(C:ab)(q t29 t30:Int)(t47:LV)(t48 bc bp:Int)(cd b9:LV)(cE cG Gx Gy:Int)(places fO:LV)(Gz GA:Int)(cH cy dt eE fc nB:LV):=un fun t49 rows=>Lu C q t29 t30 t47 t48 bc bp cd b9 cE cG Gx Gy places fO Gz GA cH cy dt eE fc nB t49 rows bD bE
noncomputable def Lv(C:ab)(t29 bc bp:Int)(cd b9:LV)(cE cG Gx Gy:Int)(places fO:LV)(Gz GA:Int)(ch cH cy dt:LV)(t30:Int)(eE fc:LV):bz (Int×LV×LV) (Int×Bool×LV×LV):=fun kn kr=>
 bif decide (t30<t29)then
  aj fO t30 fun x3=>
  bif decide ((x3.toInt:Int)<(eE.length:Int))then
  kn (wI (t30+1),eE,fc)
  else
  bif(decide (0<=bc))&&((decide (bc<=bc))&&(Nat.ble ((bc.toNat)*8) br))then
   aj dt t30 fun x4=>
   (Loop (Tn C t30 t29 t30 x4.toList (x4.toList.length:Int) bc bp cd b9 cE cG Gx Gy places fO Gz GA ch cH cy dt eE fc) (0,List.replicate (bc.toNat) (vI 0))).bind (un fun mw=>un fun pr ak1=>
    aj cy t30 fun iO=>
    bif Nat.ble ((eE.length+([.bool iO.toBool]:LV).length)*1) br then
    bif Nat.ble ((fc.length+([aR ak1]:LV).length)*24) br then
     kn (wI (t30+1),eE++([.bool iO.toBool]:LV),fc++([aR ak1]:LV))
    else none
    else none)
  else none
 else
  kr (t30,decide (t30<t29),eE,fc)
noncomputable def To(C:ab)(t29 bc bp:Int)(cd b9:LV)(cE cG Gx Gy:Int)(places fO:LV)(Gz GA:Int)(ch cH cy dt:LV):=un fun t30=>un fun eE fc=>Lv C t29 bc bp cd b9 cE cG Gx Gy places fO Gz GA ch cH cy dt t30 eE fc bD bE
noncomputable def Lw(C:ab)(t88 cE cG:Int)(fO:LV)(tj tk:Int)(numbers abV ch cH cy dt:LV)(t89:Int)(iN:LV):bz (Int×LV) (Int×Bool×LV):=fun kn kr=>
 bif decide (t89<t88)then
  aj abV t89 fun qS=>
  aj iN t89 fun oH=>
  bif decide ((qS.toInt:Int)>=0)then
  bif(decide (0<=qS.toInt))&&(decide (qS.toInt<(fO.length:Int)))then
   (fO[(qS.toInt:Int).toNat]?).bind fun uu=>
   bif(decide (0<=uu.toInt))&&(decide (uu.toInt<(numbers.length:Int)))then
   (numbers[(uu.toInt:Int).toNat]?).bind fun xI=>
   aj (az iN t89 (vI (-1))) t89 fun zp=>
   kn (wI (t89+1),az (az iN t89 (vI (-1))) t89 (vI xI.toInt))
   else none
  else none
  else
  kn (wI (t89+1),az iN t89 (vI (-1)))
 else
  kr (t89,decide (t89<t88),iN)
noncomputable def Tr(C:ab)(t88 cE cG:Int)(fO:LV)(tj tk:Int)(numbers abV ch cH cy dt:LV):=un fun t89 iN=>Lw C t88 cE cG fO tj tk numbers abV ch cH cy dt t89 iN bD bE
noncomputable def abW(C:ab):cm:=bC 161 aaM (aD 25 262176) [[1,2,3,4,5,0,0,7,8,9,10,11,12,13,14,15,16,17,18,0,20,21,22,23,24,25]] (@Lu C) (bC 81 aaN (aD 20 786434) [[1,0,0,3,4,5,6,7,8,9,10,11,12,13,14,15,16,17,18,0,0]] (@Lv C) (bC 321 aaO (aD 14 258) [[1,0,0,3,4,5,6,7,8,0,10,11,12,13,14]] (@Lw C) aO))
theorem awo(C:ab):aP C (abW C) 113 (Lp [1,1,1,1,0,1,0,0,1,1,0,0,1,1,1,0,1,0,0] 113):=bB aaM (aD 25 262176) [[1,2,3,4,5,0,0,7,8,9,10,11,12,13,14,15,16,17,18,0,20,21,22,23,24,25]] (@Lu C) (ay ag)
theorem awp(C:ab):aP C (abW C) 113 (Lp [1,1,1,1,0,1,0,0] 113):=bB aaN (aD 20 786434) [[1,0,0,3,4,5,6,7,8,9,10,11,12,13,14,15,16,17,18,0,0]] (@Lv C) (ay (aL (awo C) ag))
theorem awq(C:ab):aP C (abW C) 113 (Lp [1,1,1,1,1,1,1,0,1,0,0] 113):=bB aaO (aD 14 258) [[1,0,0,3,4,5,6,7,8,0,10,11,12,13,14]] (@Lw C) (ay ag)
noncomputable def ak2(C:ab)(bH bJ:Int)(bu cb:LV):Option LV:=
 (C 127 [vI bH,vI bJ,aB bu,aE cb]).bind fun r1=>
 (C 128 (ui r1 [])).bind fun r2=>
 (Loop (To C ((gL r2).length:Int) bH bJ bu cb 0 0 (gI r1) (bM r1) (ug r1) (gL r2) bH 0 ([]:LV) ([]:LV) (fV r1) (mr r1)) (0,([]:LV),([]:LV))).bind (un fun Bj=>un fun ti=>un fun th zq=>
  (C 127 [vI bH,vI 0,aB th,aE zq]).bind fun xJ=>
  bif(decide (0<=((ug r1).length:Int)))&&((decide (((ug r1).length:Int)<=((ug r1).length:Int)))&&(Nat.ble (((((ug r1).length:Int):Int).toNat)*8) br))then
   (Loop (Tr C ((ug r1).length:Int) 0 0 (gL r2) (gI xJ) (bM xJ) (ug xJ) (ug r1) ([]:LV) ([]:LV) (fV xJ) (mr xJ)) (0,List.replicate ((((ug r1).length:Int):Int).toNat) (vI 0))).bind (un fun awr=>un fun ak3 aws=>
    some (ui xJ [aR aws]))
  else none)
theorem awt{bH bJ:Int}{bu cb:LV}{r:Option LV}(h:ak2 CC bH bJ bu cb=r):CC 113 [vI bH,vI bJ,aB bu,aE cb]=r:=aM (aL (awp CC) (aL (awq CC) ag)) h
noncomputable def ak4(C:ab)(bH bJ:Int)(bu cb:LV):Option LV:=
 (C 64 [vI bH,vI bJ,aB bu,aE cb]).bind fun r1=>
 bif((gI r1):Int) !=0 then
  some [vI 0,vI 0,aB ([]:LV),aE ([]:LV)]
 else
  (C 113 [vI bH,vI bJ,aB bu,aE cb]).bind fun r2=>
  some (ui r2 [])
theorem awu{bH bJ:Int}{bu cb:LV}{r:Option LV}(h:ak4 CC bH bJ bu cb=r):CC 100 [vI bH,vI bJ,aB bu,aE cb]=r:=aM (L:=aO) ag h
noncomputable def GB(C:ab)(i bc bp:Int)(cd b9:LV)(x:Int)(iN uv rT:LV):bz (Int×LV×LV×LV) (Int×Bool×LV×LV×LV):=fun kn kr=>
 bif decide (x<bc)then
  aj iN i fun x2=>
  (idx b9 x2.toInt).bind fun x3=>
  (idx x3.toList x).bind fun x4=>
  bif(decide (0<=x4.toInt))&&(decide (x4.toInt<(rT.length:Int)))then
  (rT[(x4.toInt:Int).toNat]?).bind fun x5=>
  bif !x5.toBool then
   bif(decide (0<=x4.toInt))&&(decide (x4.toInt<(rT.length:Int)))then
   (rT[(x4.toInt:Int).toNat]?).bind fun x6=>
   bif Nat.ble ((iN.length+([vI x4.toInt]:LV).length)*8) br then
    aj uv i fun x7=>
    bif Nat.ble (x7.toStr.length+(oX ([.int .u8 (IntKind.wrap .u8 (wI (97+x)))]:LV)).length) Pu then
    bif Nat.ble ((uv.length+([.str (x7.toStr++(oX ([.int .u8 (IntKind.wrap .u8 (wI (97+x)))]:LV)))]:LV).length)*16) br then
     kn (wI (x+1),iN++([vI x4.toInt]:LV),uv++([.str (x7.toStr++(oX ([.int .u8 (IntKind.wrap .u8 (wI (97+x)))]:LV)))]:LV),az rT (x4.toInt) (.bool true))
    else none
    else none
   else none
   else none
  else
   kn (wI (x+1),iN,uv,rT)
  else none
 else
  kr (x,decide (x<bc),iN,uv,rT)
noncomputable def Lx(C:ab)(i bc bp:Int)(cd b9:LV):=un fun x=>un fun iN=>un fun uv rT=>GB C i bc bp cd b9 x iN uv rT bD bE
noncomputable def Ly(C:ab)(bc bp:Int)(cd b9:LV)(i:Int)(iN uv rT:LV):bz (Int×LV×LV×LV) (Int×Bool×LV×LV×LV):=fun kn kr=>
 bif decide (i<(iN.length:Int))then
  (Loop (Lx C i bc bp cd b9) (0,iN,uv,rT)).bind (un fun x_8=>un fun pr=>un fun awv=>un fun aww awx=>
   kn (wI (i+1),awv,aww,awx))
 else
  kr (i,decide (i<(iN.length:Int)),iN,uv,rT)
noncomputable def Ts(C:ab)(bc bp:Int)(cd b9:LV):=un fun i=>un fun iN=>un fun uv rT=>Ly C bc bp cd b9 i iN uv rT bD bE
noncomputable def ak5(C:ab):cm:=bC 129 aay (aD 9 450) [[1,0,0,3,4,5,6,0,0,0]] (@GB C) (bC 81 aaz (aD 8 225) [[0,0,2,3,4,5,0,0,0]] (@Ly C) aO)
theorem awy(C:ab):aP C (ak5 C) 85 (Lp [1,1,1,1,0,1,0,0,1,0,0,1,0,0] 85):=bB aay (aD 9 450) [[1,0,0,3,4,5,6,0,0,0]] (@GB C) (ay ag)
theorem awz(C:ab):aP C (ak5 C) 85 (Lp [1,1,1,1,0,1,0,0] 85):=bB aaz (aD 8 225) [[0,0,2,3,4,5,0,0,0]] (@Ly C) (ay (aL (awy C) ag))
noncomputable def ak6(C:ab)(bH bJ:Int)(bu cb:LV):Option LV:=
 bif(decide (0<=(bu.length:Int)))&&((decide ((bu.length:Int)<=(bu.length:Int)))&&(Nat.ble (((bu.length:Int).toNat)*1) br))then
  aj (List.replicate ((bu.length:Int).toNat) (V.bool false)) bJ fun x1=>
  (Loop (Ts C bH bJ bu cb) (0,([vI bJ]:LV),([.str []]:LV),az (List.replicate ((bu.length:Int).toNat) (V.bool false)) bJ (.bool true))).bind (un fun aJT=>un fun Gv=>un fun awA=>un fun awB aJU=>
   some [aR awA,.list 9 awB])
 else none
theorem awC{bH bJ:Int}{bu cb:LV}{r:Option LV}(h:ak6 CC bH bJ bu cb=r):CC 85 [vI bH,vI bJ,aB bu,aE cb]=r:=aM (aL (awz CC) ag) h
noncomputable def LA(C:ab)(t26 bc bp:Int)(cd b9:LV)(cE cG:Int)(iN aG bY:LV)(t27:Int)(places:LV):bz (Int×LV) (Int×Bool×LV):=fun kn kr=>
 bif decide (t27<t26)then
  aj places t27 fun x2=>
  kn (wI (t27+1),az places t27 (vI (-1)))
 else
  kr (t27,decide (t27<t26),places)
noncomputable def Tt(C:ab)(t26 bc bp:Int)(cd b9:LV)(cE cG:Int)(iN aG bY:LV):=un fun t27 places=>LA C t26 bc bp cd b9 cE cG iN aG bY t27 places bD bE
noncomputable def LB(C:ab)(t35 bc bp:Int)(cd b9:LV)(cE cG:Int)(iN aG bY:LV)(t36:Int)(places:LV):bz (Int×LV) (Int×Bool×LV):=fun kn kr=>
 bif decide (t36<t35)then
  aj iN t36 fun x6=>
  bif(decide (0<=x6.toInt))&&(decide (x6.toInt<(places.length:Int)))then
  (places[(x6.toInt:Int).toNat]?).bind fun x7=>
  kn (wI (t36+1),az places (x6.toInt) (vI t36))
  else none
 else
  kr (t36,decide (t36<t35),places)
noncomputable def Tu(C:ab)(t35 bc bp:Int)(cd b9:LV)(cE cG:Int)(iN aG bY:LV):=un fun t36 places=>LB C t35 bc bp cd b9 cE cG iN aG bY t36 places bD bE
noncomputable def LC(C:ab)(q t50 t51:Int)(t59:LV)(t60 bc bp:Int)(cd b9:LV)(cE cG:Int)(places:LV)(ic ig:Int)(DD ch cH cy dt:LV)(t61:Int)(rows:LV):bz (Int×LV) (Int×Bool×LV):=fun kn kr=>
 bif decide (t61<t60)then
  (idx t59 t61).bind fun qd=>
  bif(decide (0<=qd.toInt))&&(decide (qd.toInt<(places.length:Int)))then
  (places[(qd.toInt:Int).toNat]?).bind fun oI=>
  bif Nat.ble ((rows.length+([vI oI.toInt]:LV).length)*8) br then
   kn (wI (t61+1),rows++([vI oI.toInt]:LV))
  else none
  else none
 else
  kr (t61,decide (t61<t60),rows)
noncomputable def Tv(C:ab)(q t50 t51:Int)(t59:LV)(t60 bc bp:Int)(cd b9:LV)(cE cG:Int)(places:LV)(ic ig:Int)(DD ch cH cy dt:LV):=un fun t61 rows=>LC C q t50 t51 t59 t60 bc bp cd b9 cE cG places ic ig DD ch cH cy dt t61 rows bD bE
noncomputable def LD(C:ab)(t50 bc bp:Int)(cd b9:LV)(cE cG:Int)(places:LV)(ic ig:Int)(DD bY ch:LV)(t51:Int)(cH cy:LV):bz (Int×LV×LV) (Int×Bool×LV×LV):=fun kn kr=>
 bif decide (t51<t50)then
  aj DD t51 fun iO=>
  (idx b9 iO.toInt).bind fun kE=>
  (Loop (Tv C iO.toInt t50 t51 kE.toList (kE.toList.length:Int) bc bp cd b9 cE cG places ic ig DD bY ch cH cy) (0,([]:LV))).bind (un fun Tw=>un fun K7 ak7=>
   bif Nat.ble ((cy.length+([aR ak7]:LV).length)*24) br then
   (idx cd iO.toInt).bind fun oH=>
   bif Nat.ble ((cH.length+([.bool oH.toBool]:LV).length)*1) br then
    kn (wI (t51+1),cH++([.bool oH.toBool]:LV),cy++([aR ak7]:LV))
   else none
   else none)
 else
  kr (t51,decide (t51<t50),cH,cy)
noncomputable def Tx(C:ab)(t50 bc bp:Int)(cd b9:LV)(cE cG:Int)(places:LV)(ic ig:Int)(DD bY ch:LV):=un fun t51=>un fun cH cy=>LD C t50 bc bp cd b9 cE cG places ic ig DD bY ch t51 cH cy bD bE
noncomputable def Tz(C:ab):cm:=bC 65 aac (aD 12 514) [[1,0,0,3,4,5,6,7,8,9,0,11,12]] (@LA C) (bC 145 aad (aD 12 514) [[1,0,0,3,4,5,6,7,8,9,0,11,12]] (@LB C) (bC 305 aae (aD 21 32800) [[1,2,3,4,5,0,0,7,8,9,10,11,12,13,14,15,0,17,18,19,20,21]] (@LC C) (bC 241 aaf (aD 16 49154) [[1,0,0,3,4,5,6,7,8,9,10,11,12,13,14,0,0]] (@LD C) aO)))
theorem awD(C:ab):aP C (Tz C) 61 (Lp [1,1,1,0,1,0,0] 61):=bB aac (aD 12 514) [[1,0,0,3,4,5,6,7,8,9,0,11,12]] (@LA C) (ay ag)
theorem awE(C:ab):aP C (Tz C) 61 (Lp [1,1,1,1,0,1,0,0] 61):=bB aad (aD 12 514) [[1,0,0,3,4,5,6,7,8,9,0,11,12]] (@LB C) (ay ag)
theorem awF(C:ab):aP C (Tz C) 61 (Lp [1,1,1,1,1,1,0,1,0,0,1,1,0,0,1,1,0,1,0,0] 61):=bB aae (aD 21 32800) [[1,2,3,4,5,0,0,7,8,9,10,11,12,13,14,15,0,17,18,19,20,21]] (@LC C) (ay ag)
theorem awG(C:ab):aP C (Tz C) 61 (Lp [1,1,1,1,1,1,0,1,0,0] 61):=bB aaf (aD 16 49154) [[1,0,0,3,4,5,6,7,8,9,10,11,12,13,14,0,0]] (@LD C) (ay (aL (awF C) ag))
noncomputable def ak8(C:ab)(bH bJ:Int)(bu cb:LV):Option LV:=
 (C 85 [vI bH,vI bJ,aB bu,aE cb]).bind fun r1=>
 bif(decide (0<=(bu.length:Int)))&&((decide ((bu.length:Int)<=(bu.length:Int)))&&(Nat.ble (((bu.length:Int).toNat)*8) br))then
  (Loop (Tt C ((List.replicate ((bu.length:Int).toNat) (vI 0)).length:Int) bH bJ bu cb 0 0 (gL r1) ([]:LV) ([]:LV)) (0,List.replicate ((bu.length:Int).toNat) (vI 0))).bind (un fun ly=>un fun lz awH=>
   (Loop (Tu C ((gL r1).length:Int) bH bJ bu cb 0 0 (gL r1) ([]:LV) ([]:LV)) (0,awH)).bind (un fun mw=>un fun pr ak9=>
    (Loop (Tx C ((gL r1).length:Int) bH bJ bu cb 0 0 ak9 bH 0 (gL r1) ([]:LV) ([]:LV)) (0,([]:LV),([]:LV))).bind (un fun aJV=>un fun abX=>un fun TA GC=>
     some [vI bH,vI 0,aB TA,aE GC,aR ak9])))
 else none
theorem awI{bH bJ:Int}{bu cb:LV}{r:Option LV}(h:ak8 CC bH bJ bu cb=r):CC 61 [vI bH,vI bJ,aB bu,aE cb]=r:=aM (aL (awD CC) (aL (awE CC) (aL (awG CC) ag))) h
noncomputable def LF(C:ab)(a b':LV)(t12 t13:Int):bz Int ((Bool)⊕(Int×Bool)):=fun kn kr=>
 bif decide (t13<t12)then
  (idx a t13).bind fun x1=>
  (idx b' t13).bind fun x2=>
  bif(x1.toInt:Int) !=x2.toInt then
  kr (.inl false)
  else
  kn (wI (t13+1))
 else
  kr (.inr (t13,decide (t13<t12)))
noncomputable def abY(C:ab)(a b':LV)(t12:Int):=fun t13=>LF C a b' t12 t13 bD bE
noncomputable def awJ(C:ab):cm:=bC 65 aax [J0,J0,J0,J1] [[0],[1,2,3,0,0]] (@LF C) aO
theorem awK(C:ab):aP C (awJ C) 84 (Lp [1,1,0,1,0,0] 84):=bB aax [J0,J0,J0,J1] [[0],[1,2,3,0,0]] (@LF C) (ay ag)
noncomputable def ala(C:ab)(a b':LV):Option LV:=
 bif(a.length:Int) != (b'.length:Int)then
  some [.bool false]
 else
  (Loop (abY C a b' (a.length:Int)) 0).bind (db (fun(ly:Bool)=>
   some [.bool ly]) (un fun lz kD=>
   some [.bool true]))
theorem awL{a b':LV}{r:Option LV}(h:ala CC a b'=r):CC 84 [aR a,aR b']=r:=aM (aL (awK CC) ag) h
noncomputable def LG(C:ab)(t13:LV)(t14 t15:Int)(zr outs:LV):bz (Int×LV×LV) (Int×Bool×LV×LV):=fun kn kr=>
 bif decide (t15<t14)then
  (idx t13 t15).bind fun x1=>
  bif cS .i64 x1.toInt&&true then
  bif !(fi (vI x1.toInt) zr)then
   bif cS .i64 x1.toInt&&true then
   aj outs t15 fun x2=>
   kn (wI (t15+1),fj (vI x1.toInt) (vI (zr.length:Int)) zr,az outs t15 (vI (zr.length:Int)))
   else none
  else
   aj outs t15 fun x3=>
   kn (wI (t15+1),zr,az outs t15 (vI ((gV (vI x1.toInt) zr (vI 0)).toInt)))
  else none
 else
  kr (t15,decide (t15<t14),zr,outs)
noncomputable def abZ(C:ab)(t13:LV)(t14:Int):=un fun t15=>un fun zr outs=>LG C t13 t14 t15 zr outs bD bE
noncomputable def awM(C:ab):cm:=bC 65 aav (aD 5 28) [[1,2,0,0,0,0]] (@LG C) aO
theorem awN(C:ab):aP C (awM C) 82 (Lp [1,1,1,0,1,0,0] 82):=bB aav (aD 5 28) [[1,2,0,0,0,0]] (@LG C) (ay ag)
noncomputable def alb(C:ab)(l:LV):Option LV:=
 bif(decide (0<=(l.length:Int)))&&((decide ((l.length:Int)<=(l.length:Int)))&&(Nat.ble (((l.length:Int).toNat)*8) br))then
  (Loop (abZ C l (l.length:Int)) (0,([]:LV),List.replicate ((l.length:Int).toNat) (vI 0))).bind (un fun lz=>un fun kD=>un fun aJW awO=>
   some [aR awO])
 else none
theorem awP{l:LV}{r:Option LV}(h:alb CC l=r):CC 82 [aR l]=r:=aM (aL (awN CC) ag) h
noncomputable def LH(C:ab)(p q:LV)(t11 t12:Int)(outs:LV):bz (Int×LV) (Int×Bool×LV):=fun kn kr=>
 bif decide (t12<t11)then
  (idx p t12).bind fun x1=>
  (idx q t12).bind fun x2=>
  aj outs t12 fun x3=>
  kn (wI (t12+1),az outs t12 (vI (wI ((wI ((wI ((p.length:Int)+1))*x1.toInt))+x2.toInt))))
 else
  kr (t12,decide (t12<t11),outs)
noncomputable def ab0(C:ab)(p q:LV)(t11:Int):=un fun t12 outs=>LH C p q t11 t12 outs bD bE
noncomputable def awQ(C:ab):cm:=bC 49 aaw (aD 5 24) [[1,2,3,0,0,0]] (@LH C) aO
theorem awR(C:ab):aP C (awQ C) 83 (Lp [1,1,0,1,0,0] 83):=bB aaw (aD 5 24) [[1,2,3,0,0,0]] (@LH C) (ay ag)
noncomputable def alc(C:ab)(p q:LV):Option LV:=
 bif(decide (0<=(p.length:Int)))&&((decide ((p.length:Int)<=(p.length:Int)))&&(Nat.ble (((p.length:Int).toNat)*8) br))then
  (Loop (ab0 C p q (p.length:Int)) (0,List.replicate ((p.length:Int).toNat) (vI 0))).bind (un fun lz=>un fun kD awS=>
   (C 82 [aR awS]).bind fun r7=>
   some [aR (gL r7)])
 else none
theorem awT{p q:LV}{r:Option LV}(h:alc CC p q=r):CC 83 [aR p,aR q]=r:=aM (aL (awR CC) ag) h
noncomputable def LI(C:ab)(t14 bc bp:Int)(cd b9:LV)(t15:Int)(ps:LV):bz (Int×LV) (Int×Bool×LV):=fun kn kr=>
 bif decide (t15<t14)then
  (idx cd t15).bind fun x1=>
  bif x1.toBool then
  aj ps t15 fun x2=>
  kn (wI (t15+1),az ps t15 (vI 1))
  else
  kn (wI (t15+1),ps)
 else
  kr (t15,decide (t15<t14),ps)
noncomputable def ab1(C:ab)(t14 bc bp:Int)(cd b9:LV):=un fun t15 ps=>LI C t14 bc bp cd b9 t15 ps bD bE
noncomputable def LJ(C:ab)(p next':LV)(x t37 bc bp:Int)(cd b9:LV)(t38:Int)(LL:LV):bz (Int×LV) (Int×Bool×LV):=fun kn kr=>
 bif decide (t38<t37)then
  (idx b9 t38).bind fun x7=>
  (idx x7.toList x).bind fun x8=>
  (idx p x8.toInt).bind fun x9=>
  bif Nat.ble ((LL.length+([vI x9.toInt]:LV).length)*8) br then
  kn (wI (t38+1),LL++([vI x9.toInt]:LV))
  else none
 else
  kr (t38,decide (t38<t37),LL)
noncomputable def TB(C:ab)(p next':LV)(x t37 bc bp:Int)(cd b9:LV):=un fun t38 LL=>LJ C p next' x t37 bc bp cd b9 t38 LL bD bE
noncomputable def LM(C:ab)(p:LV)(bc bp:Int)(cd b9 next':LV)(x:Int):bz (LV×Int) (LV×Int×Bool):=fun kn kr=>
 bif decide (x<bc)then
  (Loop (TB C p next' x (p.length:Int) bc bp cd b9) (0,([]:LV))).bind (un fun xH=>un fun zt awU=>
   (C 83 [aR next',aR awU]).bind fun Dz=>
   kn ((gL Dz),wI (x+1)))
 else
  kr (next',x,decide (x<bc))
noncomputable def TC(C:ab)(p:LV)(bc bp:Int)(cd b9:LV):=un fun next' x=>LM C p bc bp cd b9 next' x bD bE
noncomputable def LO(C:ab)(bc bp:Int)(cd b9 p:LV):bz LV LV:=fun kn kr=>
 (Loop (TC C p bc bp cd b9) (p,0)).bind (un fun ald=>un fun aJX K7=>
  (C 84 [aR ald,aR p]).bind fun r17=>
  bif(gB r17)then
   kr p
  else
   kn ald)
noncomputable def LP(C:ab)(bc bp:Int)(cd b9:LV):=fun p=>LO C bc bp cd b9 p bD bE
noncomputable def TD(C:ab):cm:=bC 49 Z8 (aD 7 66) [[1,0,0,3,4,5,6,0]] (@LI C) (bC 241 Z9 (aD 10 528) [[1,2,3,4,0,0,6,7,8,9,0]] (@LJ C) (bC 177 aaa (aD 7 6) [[1,0,0,0,4,5,6,7]] (@LM C) (bC 145 aab (aD 5 1) [[0]] (@LO C) aO)))
theorem awV(C:ab):aP C (TD C) 60 (Lp [1,1,0,1,0,0] 60):=bB Z8 (aD 7 66) [[1,0,0,3,4,5,6,0]] (@LI C) (ay ag)
theorem awW(C:ab):aP C (TD C) 60 (Lp [1,1,1,1,0,0,0,1,0,1,0,0,1,0,0,1,0,1,0,0] 60):=bB Z9 (aD 10 528) [[1,2,3,4,0,0,6,7,8,9,0]] (@LJ C) (ay ag)
theorem awX(C:ab):aP C (TD C) 60 (Lp [1,1,1,1,0,0,0,1,0,1,0,0] 60):=bB aaa (aD 7 6) [[1,0,0,0,4,5,6,7]] (@LM C) (ay (aL (awW C) ag))
theorem awY(C:ab):aP C (TD C) 60 (Lp [1,1,1,1,0,0] 60):=bB aab (aD 5 1) [[0]] (@LO C) (ay (aL (awX C) ag))
noncomputable def ale(C:ab)(bH bJ:Int)(bu cb:LV):Option LV:=
 bif(decide (0<=(bu.length:Int)))&&((decide ((bu.length:Int)<=(bu.length:Int)))&&(Nat.ble (((bu.length:Int).toNat)*8) br))then
  (Loop (ab1 C ((List.replicate ((bu.length:Int).toNat) (vI 0)).length:Int) bH bJ bu cb) (0,List.replicate ((bu.length:Int).toNat) (vI 0))).bind (un fun ly=>un fun lz awZ=>
   (C 82 [aR awZ]).bind fun r6=>
   (Loop (LP C bH bJ bu cb) (gL r6)).bind (fun(aw0:LV)=>
    some [aR aw0]))
 else none
theorem aw1{bH bJ:Int}{bu cb:LV}{r:Option LV}(h:ale CC bH bJ bu cb=r):CC 60 [vI bH,vI bJ,aB bu,aE cb]=r:=aM (aL (awV CC) (aL (awY CC) ag)) h
noncomputable def LQ(C:ab)(p:LV)(xK q:Int)(t21:LV)(t22 t23:Int)(t37:LV)(t38 bc bp:Int)(cd b9:LV)(cE cG ic ig:Int)(aG bY ch cH:LV)(t39:Int)(rows:LV):bz (Int×LV) (Int×Bool×LV):=fun kn kr=>
 bif decide (t39<t38)then
  (idx t37 t39).bind fun x5=>
  (idx p x5.toInt).bind fun x6=>
  bif Nat.ble ((rows.length+([vI x6.toInt]:LV).length)*8) br then
  kn (wI (t39+1),rows++([vI x6.toInt]:LV))
  else none
 else
  kr (t39,decide (t39<t38),rows)
noncomputable def TE(C:ab)(p:LV)(xK q:Int)(t21:LV)(t22 t23:Int)(t37:LV)(t38 bc bp:Int)(cd b9:LV)(cE cG ic ig:Int)(aG bY ch cH:LV):=un fun t39 rows=>LQ C p xK q t21 t22 t23 t37 t38 bc bp cd b9 cE cG ic ig aG bY ch cH t39 rows bD bE
noncomputable def LR(C:ab)(p t21:LV)(t22 bc bp:Int)(cd b9:LV)(cE cG ic ig:Int)(ar aG:LV)(xK t23:Int)(bY ch:LV):bz (Int×Int×LV×LV) (Int×Int×Bool×LV×LV):=fun kn kr=>
 bif decide (t23<t22)then
  (idx t21 t23).bind fun x3=>
  bif(x3.toInt:Int) !=xK then
  kn (xK,wI (t23+1),bY,ch)
  else
  (idx b9 t23).bind fun x4=>
  (Loop (TE C p (wI (xK+1)) t23 t21 t22 t23 x4.toList (x4.toList.length:Int) bc bp cd b9 cE cG ic ig ar aG bY ch) (0,([]:LV))).bind (un fun lA=>un fun mw LU=>
   bif Nat.ble ((ch.length+([aR LU]:LV).length)*24) br then
    (idx cd t23).bind fun kY=>
    bif Nat.ble ((bY.length+([.bool kY.toBool]:LV).length)*1) br then
    kn (wI (xK+1),wI (t23+1),bY++([.bool kY.toBool]:LV),ch++([aR LU]:LV))
    else none
   else none)
 else
  kr (xK,t23,decide (t23<t22),bY,ch)
noncomputable def TF(C:ab)(p t21:LV)(t22 bc bp:Int)(cd b9:LV)(cE cG ic ig:Int)(ar aG:LV):=un fun xK=>un fun t23=>un fun bY ch=>LR C p t21 t22 bc bp cd b9 cE cG ic ig ar aG xK t23 bY ch bD bE
noncomputable def alf(C:ab):cm:=bC 177 ZR (aD 22 131328) [[1,2,3,4,5,6,7,8,0,0,10,11,12,13,14,15,16,17,0,19,20,21,22]] (@LQ C) (bC 81 ZS (aD 17 98322) [[1,0,3,4,0,0,6,7,8,9,10,11,12,13,14,15,0,0]] (@LR C) aO)
theorem aw2(C:ab):aP C (alf C) 35 (Lp [1,1,1,1,0,1,0,0,1,1,0,0,1,1,1,1,0,1,0,0] 35):=bB ZR (aD 22 131328) [[1,2,3,4,5,6,7,8,0,0,10,11,12,13,14,15,16,17,0,19,20,21,22]] (@LQ C) (ay ag)
theorem aw3(C:ab):aP C (alf C) 35 (Lp [1,1,1,1,0,1,0,0] 35):=bB ZS (aD 17 98322) [[1,0,3,4,0,0,6,7,8,9,10,11,12,13,14,15,0,0]] (@LR C) (ay (aL (aw2 C) ag))
noncomputable def alg(C:ab)(bH bJ:Int)(bu cb:LV):Option LV:=
 (C 60 [vI bH,vI bJ,aB bu,aE cb]).bind fun r1=>
 (idx (gL r1) bJ).bind fun x2=>
 (Loop (TF C (gL r1) (gL r1) ((gL r1).length:Int) bH bJ bu cb 0 0 bH x2.toInt ([]:LV) ([]:LV)) (0,0,([]:LV),([]:LV))).bind (un fun aJY=>un fun Bj=>un fun ti=>un fun th zq=>
  (C 61 [vI bH,vI x2.toInt,aB th,aE zq]).bind fun xJ=>
  some (ui xJ []))
theorem aw4{bH bJ:Int}{bu cb:LV}{r:Option LV}(h:alg CC bH bJ bu cb=r):CC 35 [vI bH,vI bJ,aB bu,aE cb]=r:=aM (aL (aw3 CC) ag) h
noncomputable def LW(C:ab)(t16:LV)(t17 bc bp:Int)(cd b9:LV)(cE cG DE DF:Int)(ar aG:LV)(t18:Int)(bY ch:LV):bz (Int×LV×LV) (Int×Bool×LV×LV):=fun kn kr=>
 bif decide (t18<t17)then
  (idx t16 t18).bind fun x2=>
  bif Nat.ble ((bY.length+([.bool (!x2.toBool)]:LV).length)*1) br then
  (idx b9 t18).bind fun x3=>
  bif Nat.ble (x3.toList.length*8) br then
   bif Nat.ble ((ch.length+([aR x3.toList]:LV).length)*24) br then
   kn (wI (t18+1),bY++([.bool (!x2.toBool)]:LV),ch++([aR x3.toList]:LV))
   else none
  else none
  else none
 else
  kr (t18,decide (t18<t17),bY,ch)
noncomputable def ab2(C:ab)(t16:LV)(t17 bc bp:Int)(cd b9:LV)(cE cG DE DF:Int)(ar aG:LV):=un fun t18=>un fun bY ch=>LW C t16 t17 bc bp cd b9 cE cG DE DF ar aG t18 bY ch bD bE
noncomputable def aw5(C:ab):cm:=bC 81 aaB (aD 15 24580) [[1,2,0,0,4,5,6,7,8,9,10,11,12,13,0,0]] (@LW C) aO
theorem aw6(C:ab):aP C (aw5 C) 91 (Lp [1,1,1,0,1,0,0] 91):=bB aaB (aD 15 24580) [[1,2,0,0,4,5,6,7,8,9,10,11,12,13,0,0]] (@LW C) (ay ag)
noncomputable def alh(C:ab)(bH bJ:Int)(bu cb:LV):Option LV:=
 (C 64 [vI bH,vI bJ,aB bu,aE cb]).bind fun r1=>
 bif((gI r1):Int) !=0 then
  some [vI 0,vI 0,aB ([]:LV),aE ([]:LV)]
 else
  (Loop (ab2 C bu (bu.length:Int) bH bJ bu cb 0 0 bH bJ ([]:LV) ([]:LV)) (0,([]:LV),([]:LV))).bind (un fun lz=>un fun kD=>un fun zu DG=>
   some [vI bH,vI bJ,aB zu,aE DG])
theorem aw7{bH bJ:Int}{bu cb:LV}{r:Option LV}(h:alh CC bH bJ bu cb=r):CC 91 [vI bH,vI bJ,aB bu,aE cb]=r:=aM (aL (aw6 CC) ag) h
noncomputable def aw8(C:ab)(op:Int):Option LV:=
 bif op==5 then
  bif op==5 then
  some [vI 2]
  else
  bif op==8 then
   some [vI 1]
  else
   some [vI 0]
 else
  bif op==6 then
  bif op==6 then
   some [vI 2]
  else
   bif op==8 then
   some [vI 1]
   else
   some [vI 0]
  else
  bif op==7 then
   some [vI 2]
  else
   bif op==8 then
   some [vI 1]
   else
   some [vI 0]
theorem aw9{op:Int}{r:Option LV}(h:aw8 CC op=r):CC 38 [vI op]=r:=aM (L:=aO) ag h
noncomputable def ali(C:ab)(part i:Int)(TG:Bool):Option LV:=
 bif TG then
  bif decide (part>=0)then
  some [.bool (decide (part<i))]
  else
  some [.bool false]
 else
  some [.bool (part==0)]
theorem axa{part i:Int}{TG:Bool}{r:Option LV}(h:ali CC part i TG=r):CC 65 [vI part,vI i,.bool TG]=r:=aM (L:=aO) ag h
noncomputable def LX(C:ab)(i an:Int)(t17:Bool)(bd aY aW aS:Int):eN ((Bool)⊕(Unit)):=fun kr=>
 bif t17 then
  bif decide (aY<0)then
  kr (.inl false)
  else
  bif decide (aY>=an)then
   kr (.inl false)
  else
   kr (.inr ())
 else
  bif aY !=0 then
  kr (.inl false)
  else
  kr (.inr ())
noncomputable def axb(C:ab):cm:=fK 287 ZV [[0],[1,4,5,6,7]] (@LX C) aO
theorem axc(C:ab):aP C (axb C) 41 (Cd 17 [1,1,0,1,0] [1,1,0,1,1] 41):=fJ ZV [[0],[1,4,5,6,7]] (@LX C) (ay ag) (ay ag)
noncomputable def alj(C:ab)(cz dc cL dh i an:Int):Option LV:=
 bif decide (cz<1)then
  some [.bool false]
 else
  bif decide (cz>8)then
  some [.bool false]
  else
  LX C i an (cz==3) cz dc cL dh (db (fun(t_1:Bool)=>
   some [.bool t_1]) (fun _=>
   (C 38 [vI cz]).bind fun r2=>
   (C 65 [vI cL,vI i,.bool (decide (((gI r2):Int)>=1))]).bind fun r3=>
   bif(gB r3)then
    (C 38 [vI cz]).bind fun r4=>
    (C 65 [vI dh,vI i,.bool (((gI r4):Int)==2)]).bind fun r5=>
    some [.bool (gB r5)]
   else
    some [.bool false]))
theorem axd{cz dc cL dh i an:Int}{r:Option LV}(h:alj CC cz dc cL dh i an=r):CC 41 [vI cz,vI dc,vI cL,vI dh,vI i,vI an]=r:=aM (aL (axc CC) ag) h
noncomputable def DH(C:ab)(an:Int)(t18:LV)(t19:Int)(eH:LV)(eO t20:Int):bz Int ((Int)⊕(Int×Bool)):=fun kn kr=>
 bif decide (t20<t19)then
  (idx t18 t20).bind fun x1=>
  (C 41 [vI ((x1.cell 0).toInt),vI ((x1.cell 1).toInt),vI ((x1.cell 2).toInt),vI ((x1.cell 3).toInt),vI t20,vI an]).bind fun r2=>
  bif !(gB r2)then
  kr (.inl 22)
  else
  kn (wI (t20+1))
 else
  kr (.inr (t20,decide (t20<t19)))
noncomputable def LY(C:ab)(an:Int)(t18:LV)(t19:Int)(eH:LV)(eO:Int):=fun t20=>DH C an t18 t19 eH eO t20 bD bE
noncomputable def axe(C:ab):cm:=bC 97 Zs (aD 6 8) [[0],[1,2,3,0,0,5,6]] (@DH C) aO
theorem axf(C:ab):aP C (axe C) 17 (Lp [1,1,1,0,1,0,0] 17):=bB Zs (aD 6 8) [[0],[1,2,3,0,0,5,6]] (@DH C) (ay ag)
noncomputable def ab3(C:ab)(cR:LV)(dz an:Int):Option LV:=
 bif decide (an<1)then
  some [vI 1]
 else
  bif decide (an>6)then
  some [vI 1]
  else
  bif decide ((cR.length:Int)>20000)then
   some [vI 3]
  else
   (Loop (LY C an cR (cR.length:Int) cR dz) 0).bind (db (fun ly=>
    some [vI ly]) (un fun lz kD=>
    bif decide (dz<0)then
    some [vI 22]
    else
    bif decide (dz>=(cR.length:Int))then
     some [vI 22]
    else
     some [vI 0]))
theorem alk{cR:LV}{dz an:Int}{r:Option LV}(h:ab3 CC cR dz an=r):CC 17 [fU cR,vI dz,vI an]=r:=aM (aL (axf CC) ag) h
noncomputable abbrev LZ(b':Bool)(aS i:Int):eN ((Int)⊕(Unit)):=fun kr=>
 bif b' then
  bif decide ((aS:Int)<0)then
  kr (.inl 22)
  else
  bif decide ((aS:Int)>=i)then
   kr (.inl 22)
  else
   bif !b' then
   bif(aS:Int) !=0 then
    kr (.inl 22)
   else
    kr (.inr ())
   else
   kr (.inr ())
 else
  bif !b' then
  bif(aS:Int) !=0 then
   kr (.inl 22)
  else
   kr (.inr ())
  else
  kr (.inr ())
noncomputable def xL(C:ab)(an i:Int)(a b':Bool)(t17:LV)(t18 t19:Int)(t64:Bool)(eH:LV)(eO bd aY aW aS:Int):eN ((Int)⊕(Unit)):=fun kr=>
 bif t64 then
  kr (.inl 22)
 else
  bif a then
  bif decide (aW<0)then
   kr (.inl 22)
  else
   bif decide (aW>=i)then
   kr (.inl 22)
   else
   bif !a then
    bif aW !=0 then
    kr (.inl 22)
    else
    LZ b' aS i kr
   else
    LZ b' aS i kr
  else
  bif !a then
   bif aW !=0 then
   kr (.inl 22)
   else
   LZ b' aS i kr
  else
   LZ b' aS i kr
noncomputable def uw(C:ab)(an i:Int)(a b':Bool)(t17:LV)(t18 t19:Int)(t55:Bool)(eH:LV)(eO bd aY aW aS:Int):eN ((Int)⊕(Unit)):=fun kr=>
 bif t55 then
  kr (.inl 22)
 else
  bif bd==3 then
  bif decide (aY<0)then
   xL C an i a b' t17 t18 t19 true eH eO bd aY aW aS (db (fun ly=>
    kr (.inl ly)) (fun _=>
    kr (.inr ())))
  else
   bif decide (aY>=an)then
   xL C an i a b' t17 t18 t19 true eH eO bd aY aW aS (db (fun lz=>
    kr (.inl lz)) (fun _=>
    kr (.inr ())))
   else
   bif bd !=3 then
    xL C an i a b' t17 t18 t19 (aY !=0) eH eO bd aY aW aS (db (fun kD=>
     kr (.inl kD)) (fun _=>
     kr (.inr ())))
   else
    xL C an i a b' t17 t18 t19 false eH eO bd aY aW aS (db (fun pq=>
     kr (.inl pq)) (fun _=>
     kr (.inr ())))
  else
  bif bd !=3 then
   xL C an i a b' t17 t18 t19 (aY !=0) eH eO bd aY aW aS (db (fun lA=>
    kr (.inl lA)) (fun _=>
    kr (.inr ())))
  else
   xL C an i a b' t17 t18 t19 false eH eO bd aY aW aS (db (fun mw=>
    kr (.inl mw)) (fun _=>
    kr (.inr ())))
noncomputable abbrev ab4(x2:V)(C:ab)(an t19:Int)(t17:LV)(t18:Int)(eH:LV)(eO:Int):bz ((Int)⊕(Int×Bool)) Int:=fun kr kn=>
 bif decide ((((x2.cell 0).toInt):Int)<1)then
  uw C an t19 true true t17 t18 t19 true eH eO ((x2.cell 0).toInt) ((x2.cell 1).toInt) ((x2.cell 2).toInt) ((x2.cell 3).toInt) (db (fun(pr:Int)=>
   kr (.inl pr)) (fun _=>
   kn (wI (t19+1))))
 else
  uw C an t19 true true t17 t18 t19 (decide ((((x2.cell 0).toInt):Int)>8)) eH eO ((x2.cell 0).toInt) ((x2.cell 1).toInt) ((x2.cell 2).toInt) ((x2.cell 3).toInt) (db (fun(xH:Int)=>
   kr (.inl xH)) (fun _=>
   kn (wI (t19+1))))
noncomputable abbrev TH(x2:V)(C:ab)(an t19:Int)(t17:LV)(t18:Int)(eH:LV)(eO:Int):bz ((Int)⊕(Int×Bool)) Int:=fun kr kn=>
 bif(((x2.cell 0).toInt):Int)==5 then
  ab4 x2 C an t19 t17 t18 eH eO kr kn
 else
  bif(((x2.cell 0).toInt):Int)==6 then
  ab4 x2 C an t19 t17 t18 eH eO kr kn
  else
  bif decide ((((x2.cell 0).toInt):Int)<1)then
   uw C an t19 true ((((x2.cell 0).toInt):Int)==7) t17 t18 t19 true eH eO ((x2.cell 0).toInt) ((x2.cell 1).toInt) ((x2.cell 2).toInt) ((x2.cell 3).toInt) (db (fun(ti:Int)=>
    kr (.inl ti)) (fun _=>
    kn (wI (t19+1))))
  else
   uw C an t19 true ((((x2.cell 0).toInt):Int)==7) t17 t18 t19 (decide ((((x2.cell 0).toInt):Int)>8)) eH eO ((x2.cell 0).toInt) ((x2.cell 1).toInt) ((x2.cell 2).toInt) ((x2.cell 3).toInt) (db (fun(Gv:Int)=>
    kr (.inl Gv)) (fun _=>
    kn (wI (t19+1))))
noncomputable abbrev ab5(x2:V)(C:ab)(an t19:Int)(t17:LV)(t18:Int)(eH:LV)(eO:Int):bz ((Int)⊕(Int×Bool)) Int:=fun kr kn=>
 bif decide ((((x2.cell 0).toInt):Int)<1)then
  uw C an t19 ((((x2.cell 0).toInt):Int)==8) true t17 t18 t19 true eH eO ((x2.cell 0).toInt) ((x2.cell 1).toInt) ((x2.cell 2).toInt) ((x2.cell 3).toInt) (db (fun(S6:Int)=>
   kr (.inl S6)) (fun _=>
   kn (wI (t19+1))))
 else
  uw C an t19 ((((x2.cell 0).toInt):Int)==8) true t17 t18 t19 (decide ((((x2.cell 0).toInt):Int)>8)) eH eO ((x2.cell 0).toInt) ((x2.cell 1).toInt) ((x2.cell 2).toInt) ((x2.cell 3).toInt) (db (fun(TI:Int)=>
   kr (.inl TI)) (fun _=>
   kn (wI (t19+1))))
noncomputable def L0(C:ab)(an:Int)(t17:LV)(t18:Int)(eH:LV)(eO t19:Int):bz Int ((Int)⊕(Int×Bool)):=fun kn kr=>
 bif decide (t19<t18)then
  (idx t17 t19).bind fun x2=>
  bif(((x2.cell 0).toInt):Int)==5 then
  TH x2 C an t19 t17 t18 eH eO kr kn
  else
  bif(((x2.cell 0).toInt):Int)==6 then
   TH x2 C an t19 t17 t18 eH eO kr kn
  else
   bif(((x2.cell 0).toInt):Int)==7 then
   TH x2 C an t19 t17 t18 eH eO kr kn
   else
   bif(((x2.cell 0).toInt):Int)==5 then
    ab5 x2 C an t19 t17 t18 eH eO kr kn
   else
    bif(((x2.cell 0).toInt):Int)==6 then
    ab5 x2 C an t19 t17 t18 eH eO kr kn
    else
    bif decide ((((x2.cell 0).toInt):Int)<1)then
     uw C an t19 ((((x2.cell 0).toInt):Int)==8) ((((x2.cell 0).toInt):Int)==7) t17 t18 t19 true eH eO ((x2.cell 0).toInt) ((x2.cell 1).toInt) ((x2.cell 2).toInt) ((x2.cell 3).toInt) (db (fun alm=>
      kr (.inl alm)) (fun _=>
      kn (wI (t19+1))))
    else
     uw C an t19 ((((x2.cell 0).toInt):Int)==8) ((((x2.cell 0).toInt):Int)==7) t17 t18 t19 (decide ((((x2.cell 0).toInt):Int)>8)) eH eO ((x2.cell 0).toInt) ((x2.cell 1).toInt) ((x2.cell 2).toInt) ((x2.cell 3).toInt) (db (fun ab6=>
      kr (.inl ab6)) (fun _=>
      kn (wI (t19+1))))
 else
  kr (.inr (t19,decide (t19<t18)))
noncomputable def ab7(C:ab)(an:Int)(t17:LV)(t18:Int)(eH:LV)(eO:Int):=fun t19=>L0 C an t17 t18 eH eO t19 bD bE
noncomputable def ab8(C:ab):cm:=fK 1039 ZJ [[0],[1,5,6,7,9,10]] (@xL C) (fK 895 ZK [[0],[1,5,6,7,9,10]] (@uw C) (bC 97 ZL (aD 6 8) [[0],[1,2,3,0,0,5,6]] (@L0 C) aO))
theorem axg(C:ab):aP C (ab8 C) 30 (Cd 64 [1,1,1,0,1,0,0,1,1,0,0,1,1,0,1,1,1,0] [1,1,1,0,1,0,0,1,1,0,0,1,1,0,1,1,1,1] 30):=fJ ZJ [[0],[1,5,6,7,9,10]] (@xL C) (ay ag) (ay ag)
theorem axh(C:ab):aP C (ab8 C) 30 (Cd 55 [1,1,1,0,1,0,0,1,1,0,0,1,1,0,1,0] [1,1,1,0,1,0,0,1,1,0,0,1,1,0,1,1] 30):=fJ ZK [[0],[1,5,6,7,9,10]] (@uw C) (ay ag) (ay (aL (axg C) ag))
theorem axi(C:ab):aP C (ab8 C) 30 (Lp [1,1,1,0,1,0,0] 30):=bB ZL (aD 6 8) [[0],[1,2,3,0,0,5,6]] (@L0 C) (ay (aL (axh C) ag))
noncomputable def aln(C:ab)(cR:LV)(dz an:Int):Option LV:=
 (C 55 [vI an]).bind fun r1=>
 bif !(gB r1)then
  some [vI 1]
 else
  bif decide ((cR.length:Int)>20000)then
  some [vI 3]
  else
  (Loop (ab7 C an cR (cR.length:Int) cR dz) 0).bind (db (fun alo=>
   some [vI alo]) (un fun axj aJZ=>
   bif decide (dz<0)then
    some [vI 22]
   else
    bif decide (dz>=(cR.length:Int))then
    some [vI 22]
    else
    some [vI 0]))
theorem axk{cR:LV}{dz an:Int}{r:Option LV}(h:aln CC cR dz an=r):CC 30 [fU cR,vI dz,vI an]=r:=aM (aL (axi CC) ag) h
noncomputable def alp(C:ab)(xM xN x cE cG:Int)(gG jI:LV)(tm ux:Int)(vS L3:LV):Option LV:=
 (idx jI xM).bind fun x1=>
 (idx x1.toList x).bind fun x2=>
 (idx L3 xN).bind fun x3=>
 (idx x3.toList x).bind fun x4=>
 some [vI x2.toInt,vI x4.toInt,vI cE,vI cG,aB gG,aE jI,vI tm,vI ux,aB vS,aE L3]
theorem axl{xM xN x cE cG:Int}{gG jI:LV}{tm ux:Int}{vS L3:LV}{r:Option LV}(h:alp CC xM xN x cE cG gG jI tm ux vS L3=r):CC 115 [vI xM,vI xN,vI x,vI cE,vI cG,aB gG,aE jI,vI tm,vI ux,aB vS,aE L3]=r:=aM (L:=aO) ag h
noncomputable def TJ(C:ab)(bit:Int)(t12:Bool)(aJ0 aJ1:Int)(aJ2 aJ3:LV)(cE cG:Int)(gG jI:LV)(rU aJ4 aJ5:Int):eN (Int):=fun kr=>
 bif t12 then
  kr (wI (bit+2))
 else
  kr bit
noncomputable def axm(C:ab):cm:=fK 207 aaR [[0,3,4,5,6,7,8,9,10,11,12,13]] (@TJ C) aO
theorem axn(C:ab):aP C (axm C) 116 (Cd 12 [1,1,0,1,0] [1,1,0,1,1] 116):=fJ aaR [[0,3,4,5,6,7,8,9,10,11,12,13]] (@TJ C) (ay ag) (ay ag)
noncomputable def alq(C:ab)(xM xN qb qc:Int)(oG pw:LV)(cE cG:Int)(gG jI:LV)(rU:Int):Option LV:=
 (idx oG xM).bind fun x1=>
 TJ C 0 x1.toBool qb qc oG pw cE cG gG jI rU xM xN (fun TK=>
  (idx gG xN).bind fun x3=>
  bif x3.toBool then
   bif decide (0<=(wI (TK+1)))then
   some [.bool (((wI ((bI (Int.fdiv rU (2^(min (wI (TK+1)).toNat kI)))&&&bI 1).toNat)):Int)==1),vI qb,vI qc,aB oG,aE pw,vI cE,vI cG,aB gG,aE jI,vI rU]
   else none
  else
   bif decide (0<=TK)then
   some [.bool (((wI ((bI (Int.fdiv rU (2^(min TK.toNat kI)))&&&bI 1).toNat)):Int)==1),vI qb,vI qc,aB oG,aE pw,vI cE,vI cG,aB gG,aE jI,vI rU]
   else none)
theorem axo{xM xN qb qc:Int}{oG pw:LV}{cE cG:Int}{gG jI:LV}{rU:Int}{r:Option LV}(h:alq CC xM xN qb qc oG pw cE cG gG jI rU=r):CC 116 [vI xM,vI xN,vI qb,vI qc,aB oG,aE pw,vI cE,vI cG,aB gG,aE jI,vI rU]=r:=aM (aL (axn CC) ag) h
noncomputable def alr(C:ab)(nC jJ:Int)(bh:LV):Option LV:=
 bif(cS .i64 nC&&(cS .i64 jJ&&true))&&true then
  bif(cS .i64 nC&&(cS .i64 jJ&&true))&&true then
  bif Nat.ble ((bh.length+([.agg [vI nC,vI jJ]]:LV).length)*16) br then
   some [vI (bh.length:Int),qM (bh++([.agg [vI nC,vI jJ]]:LV)),.list lu (fj (.agg [vI nC,vI jJ]) (vI (bh.length:Int)) ([]:LV))]
  else none
  else none
 else none
theorem axp{nC jJ:Int}{bh:LV}{r:Option LV}(h:alr CC nC jJ bh=r):CC 129 [vI nC,vI jJ,qM bh]=r:=aM (L:=aO) ag h
noncomputable def als(C:ab)(nC jJ:Int)(bh bZ:LV):Option LV:=
 bif(cS .i64 nC&&(cS .i64 jJ&&true))&&true then
  bif !(fi (.agg [vI nC,vI jJ]) bZ)then
  bif(cS .i64 nC&&(cS .i64 jJ&&true))&&true then
   bif Nat.ble ((bh.length+([.agg [vI nC,vI jJ]]:LV).length)*16) br then
   some [vI (bh.length:Int),.list lu (fj (.agg [vI nC,vI jJ]) (vI (bh.length:Int)) bZ),qM (bh++([.agg [vI nC,vI jJ]]:LV))]
   else none
  else none
  else
  some [vI ((gV (.agg [vI nC,vI jJ]) bZ (vI 0)).toInt),.list lu bZ,qM bh]
 else none
theorem axq{nC jJ:Int}{bh bZ:LV}{r:Option LV}(h:als CC nC jJ bh bZ=r):CC YE [vI nC,vI jJ,qM bh,.list lu bZ]=r:=aM (L:=aO) ag h
noncomputable def L4(C:ab)(an i t36 rV mU mV bc bp ab9 aca:Int)(cy dt nB alu:LV)(t37 js jt:Int)(ju jv:LV)(rW rX:Int)(rY rZ rows eE fc:LV):bz (Int×Int×Int×LV×LV×Int×Int×LV×LV×LV×LV×LV) (Int×Bool×Int×Int×LV×LV×Int×Int×LV×LV×LV×LV×LV):=fun kn kr=>
 bif decide (t37<t36)then
  (C 115 [vI ab9,vI aca,vI t37,vI js,vI jt,aB ju,aE jv,vI rW,vI rX,aB rY,aE rZ]).bind fun r3=>
  (C YE [vI (gI r3),vI (bM r3),qM eE,.list lu fc]).bind fun r4=>
  aj rows t37 fun x5=>
  kn (wI (t37+1),(hD r3),(aiu r3),(ug r3),(Sf r3),(gI ((r3.drop 2).drop 4)),(gI (((r3.drop 2).drop 4).drop 1)),(gL ((((r3.drop 2).drop 4).drop 1).drop 1)),(gL (((((r3.drop 2).drop 4).drop 1).drop 1).drop 1)),az rows t37 (vI (gI r4)),(lW r4),(eu r4))
 else
  kr (t37,decide (t37<t36),js,jt,ju,jv,rW,rX,rY,rZ,rows,eE,fc)
noncomputable def TL(C:ab)(an i t36 rV mU mV bc bp ab9 aca:Int)(cy dt nB alu:LV):=un fun t37=>un fun js=>un fun jt=>un fun ju=>un fun jv=>un fun rW=>un fun rX=>un fun rY=>un fun rZ=>un fun rows=>un fun eE fc=>L4 C an i t36 rV mU mV bc bp ab9 aca cy dt nB alu t37 js jt ju jv rW rX rY rZ rows eE fc bD bE
noncomputable def L5(C:ab)(an mU mV bc bp:Int)(ch cH:LV)(i js jt:Int)(ju jv:LV)(rW rX:Int)(rY rZ:LV)(rV:Int)(cy dt eE fc:LV):bz (Int×Int×Int×LV×LV×Int×Int×LV×LV×Int×LV×LV×LV×LV) ((Int×Int×Int×LV×LV×Int×Int×LV×LV×Int×Int×Int×LV×LV×LV)⊕(Int×Bool×Int×Int×LV×LV×Int×Int×LV×LV×Int×LV×LV×LV×LV)):=fun kn kr=>
 bif decide (i<(cy.length:Int))then
  aj cy i fun x2=>
  bif(decide (0<=an))&&((decide (an<=an))&&(Nat.ble ((an.toNat)*8) br))then
  (Loop (TL C an i ((List.replicate (an.toNat) (vI 0)).length:Int) rV mU mV bc bp ((x2.cell 0).toInt) ((x2.cell 1).toInt) ch cH eE fc) (0,js,jt,ju,jv,rW,rX,rY,rZ,List.replicate (an.toNat) (vI 0),cy,dt)).bind (un fun pq=>un fun lA=>un fun Bi=>un fun K4=>un fun K5=>un fun K6=>un fun alv=>un fun alw=>un fun alx=>un fun aly=>un fun alz=>un fun py DC=>
   bif decide ((py.length:Int)>512)then
    kr (.inl (3,Bi,K4,K5,K6,alv,alw,alx,aly,rV,0,0,([]:LV),([]:LV),([]:LV)))
   else
    bif Nat.ble ((fc.length+([aR alz]:LV).length)*24) br then
    (C 116 [vI ((x2.cell 0).toInt),vI ((x2.cell 1).toInt),vI Bi,vI K4,aB K5,aE K6,vI alv,vI alw,aB alx,aE aly,vI rV]).bind fun ki=>
    bif Nat.ble ((eE.length+([.bool (gB ki)]:LV).length)*1) br then
     kn (wI (i+1),(bM ki),(jq ki),(KD ki),(Yw ki),(gI ((ki.drop 1).drop 4)),(gI (((ki.drop 1).drop 4).drop 1)),(gL ((((ki.drop 1).drop 4).drop 1).drop 1)),(gL (((((ki.drop 1).drop 4).drop 1).drop 1).drop 1)),(gI (((ki.drop 1).drop 4).drop 4)),py,DC,eE++([.bool (gB ki)]:LV),fc++([aR alz]:LV))
    else none
    else none)
  else none
 else
  kr (.inr (i,decide (i<(cy.length:Int)),js,jt,ju,jv,rW,rX,rY,rZ,rV,cy,dt,eE,fc))
noncomputable def GD(C:ab)(an mU mV bc bp:Int)(ch cH:LV):=un fun i=>un fun js=>un fun jt=>un fun ju=>un fun jv=>un fun rW=>un fun rX=>un fun rY=>un fun rZ=>un fun rV=>un fun cy=>un fun dt=>un fun eE fc=>L5 C an mU mV bc bp ch cH i js jt ju jv rW rX rY rZ rV cy dt eE fc bD bE
noncomputable def alA(C:ab):cm:=bC 161 aaP (aD 26 13111288) [[1,2,3,0,0,0,0,0,0,0,0,0,0,13,14,15,16,17,18,19,0,21,22,0,0,25,26]] (@L4 C) (bC 81 aaQ (aD 21 1968126) [[0,0,0,0,0,0,0,0,0,0,0,0,0,0,0],[1,0,0,0,0,0,0,0,0,0,0,0,12,13,14,15,16,17,0,0,0,0]] (@L5 C) aO)
theorem axr(C:ab):aP C (alA C) 114 (Lp [1,1,1,1,0,1,0,0,1,0,0,1,1,0,1,0,0] 114):=bB aaP (aD 26 13111288) [[1,2,3,0,0,0,0,0,0,0,0,0,0,13,14,15,16,17,18,19,0,21,22,0,0,25,26]] (@L4 C) (ay ag)
theorem axs(C:ab):aP C (alA C) 114 (Lp [1,1,1,1,0,1,0,0] 114):=bB aaQ (aD 21 1968126) [[0,0,0,0,0,0,0,0,0,0,0,0,0,0,0],[1,0,0,0,0,0,0,0,0,0,0,0,12,13,14,15,16,17,0,0,0,0]] (@L5 C) (ay (aL (axr C) ag))
noncomputable def acb(C:ab)(an TM TN js jt:Int)(ju jv:LV)(rW rX:Int)(rY rZ:LV)(rV:Int):Option LV:=
 (C 129 [vI TM,vI TN,qM ([]:LV)]).bind fun r1=>
 (Loop (GD C an 0 0 an 0 ([]:LV) ([]:LV)) (0,js,jt,ju,jv,rW,rX,rY,rZ,rV,(eu r1),(lW r1),([]:LV),([]:LV))).bind (db (un fun abX=>un fun TA=>un fun GC=>un fun K9=>un fun DB=>un fun axt=>un fun axu=>un fun L7=>un fun acd=>un fun ace=>un fun axv=>un fun axw=>un fun La=>un fun S7 axx=>
  some [vI axv,vI axw,vI abX,vI TA,vI GC,aB K9,aE DB,vI axt,vI axu,aB L7,aE acd,vI ace,aB La,aE S7,qM axx]) (un fun aJ6=>un fun aJ7=>un fun axy=>un fun axz=>un fun axA=>un fun axB=>un fun axC=>un fun axD=>un fun axE=>un fun axF=>un fun axG=>un fun axH=>un fun aJ8=>un fun axI axJ=>
  some [vI an,vI 0,vI 0,vI axy,vI axz,aB axA,aE axB,vI axC,vI axD,aB axE,aE axF,vI axG,aB axI,aE axJ,qM axH]))
theorem alB{an TM TN js jt:Int}{ju jv:LV}{rW rX:Int}{rY rZ:LV}{rV:Int}{r:Option LV}(h:acb CC an TM TN js jt ju jv rW rX rY rZ rV=r):CC 114 [vI an,vI TM,vI TN,vI js,vI jt,aB ju,aE jv,vI rW,vI rX,aB rY,aE rZ,vI rV]=r:=aM (aL (axs CC) ag) h
noncomputable def acf(C:ab)(dG dR:Int)(dV eT:LV)(eF ew:Int)(eU fB:LV)(op:Int):Option LV:=
 (C 64 [vI dG,vI dR,aB dV,aE eT]).bind fun r1=>
 bif((gI r1):Int) !=0 then
  some [vI 0,vI 0,vI (gI r1),aB ([]:LV),aE ([]:LV)]
 else
  (C 64 [vI eF,vI ew,aB eU,aE fB]).bind fun r2=>
  bif((gI r2):Int) !=0 then
  some [vI 0,vI 0,vI (gI r2),aB ([]:LV),aE ([]:LV)]
  else
  bif dG !=eF then
   some [vI 0,vI 0,vI 1,aB ([]:LV),aE ([]:LV)]
  else
   bif decide (op<0)then
   some [vI 0,vI 0,vI 1,aB ([]:LV),aE ([]:LV)]
   else
   bif decide (op>15)then
    some [vI 0,vI 0,vI 1,aB ([]:LV),aE ([]:LV)]
   else
    (C 114 [vI dG,vI dR,vI ew,vI dG,vI dR,aB dV,aE eT,vI eF,vI ew,aB eU,aE fB,vI op]).bind fun r3=>
    some (F8 r3 [aB (gL ((((r3.drop 3).drop 4).drop 4).drop 1)),aE (gL (((((r3.drop 3).drop 4).drop 4).drop 1).drop 1))])
theorem alC{dG dR:Int}{dV eT:LV}{eF ew:Int}{eU fB:LV}{op:Int}{r:Option LV}(h:acf CC dG dR dV eT eF ew eU fB op=r):CC 102 [vI dG,vI dR,aB dV,aE eT,vI eF,vI ew,aB eU,aE fB,vI op]=r:=aM (L:=aO) ag h
noncomputable def TO(C:ab)(op:Int)(b':Bool)(k':Int)(t8:Bool):eN (Int):=fun kr=>
 bif t8 then
  kr 2
 else
  kr k'
noncomputable def axK(C:ab):cm:=fK 143 aap [[1,2,0]] (@TO C) aO
theorem axL(C:ab):aP C (axK C) 79 (Cd 8 [1,1,0,1,0] [1,1,0,1,1] 79):=fJ aap [[1,2,0]] (@TO C) (ay ag) (ay ag)
noncomputable def alD(C:ab)(op:Int)(a b':Bool):Option LV:=
 TO C op b' 0 a (fun TP=>
  bif b' then
   bif decide (0<=(wU (wI (TP+1))))then
   some [.bool (((wI ((bI (Int.fdiv op (2^(min (wU (wI (TP+1))).toNat kI)))&&&bI 1).toNat)):Int)==1)]
   else none
  else
   bif decide (0<=(wU TP))then
   some [.bool (((wI ((bI (Int.fdiv op (2^(min (wU TP).toNat kI)))&&&bI 1).toNat)):Int)==1)]
   else none)
theorem axM{op:Int}{a b':Bool}{r:Option LV}(h:alD CC op a b'=r):CC 79 [vI op,.bool a,.bool b']=r:=aM (aL (axL CC) ag) h
noncomputable def alE(C:ab)(dG dR:Int)(dV eT:LV)(eF ew:Int)(eU fB:LV):Option LV:=
 (C 95 [vI dG,vI dR,aB dV,aE eT]).bind fun r1=>
 bif((gI r1):Int) !=0 then
  some [vI (gI r1)]
 else
  (C 95 [vI eF,vI ew,aB eU,aE fB]).bind fun r2=>
  bif((gI r2):Int) !=0 then
  some [vI (gI r2)]
  else
  bif dG !=eF then
   some [vI 1]
  else
   some [vI 0]
theorem axN{dG dR:Int}{dV eT:LV}{eF ew:Int}{eU fB:LV}{r:Option LV}(h:alE CC dG dR dV eT eF ew eU fB=r):CC 78 [vI dG,vI dR,aB dV,aE eT,vI eF,vI ew,aB eU,aE fB]=r:=aM (L:=aO) ag h
noncomputable def GF(C:ab)(op i x at':Int)(t91:Bool)(jx jW:Int)(nD nE:LV)(nF lY:Int)(zw zx:LV)(Bk Bl:Int)(nG places:LV)(ic ig L8 L9:Int)(rows:LV)(TQ TR:Int)(dt eE fc nB:LV):eN ((Int×Int×Int×LV×LV)⊕(Int×LV×LV)):=fun kr=>
 bif t91 then
  bif(nG.length:Int)==512 then
  kr (.inl (3,0,0,([]:LV),([]:LV)))
  else
  bif(cS .i64 TQ&&(cS .i64 TR&&true))&&true then
   bif Nat.ble ((nG.length+([.agg [vI TQ,vI TR]]:LV).length)*16) br then
   kr (.inr ((nG.length:Int),nG++([.agg [vI TQ,vI TR]]:LV),fj (.agg [vI TQ,vI TR]) (vI (nG.length:Int)) places))
   else none
  else none
 else
  kr (.inr (at',nG,places))
noncomputable def DI(C:ab)(op i jx jW:Int)(nD nE:LV)(nF lY:Int)(zw zx:LV)(Bk Bl ic ig L8 L9:Int)(cy dt eE fc:LV)(x:Int)(nG places rows:LV):bz (Int×LV×LV×LV) ((Int×Int×Int×LV×LV)⊕(Int×Bool×LV×LV×LV)):=fun kn kr=>
 bif decide (x<jx)then
  (idx nE L8).bind fun x3=>
  (idx x3.toList x).bind fun x4=>
  (idx zx L9).bind fun x5=>
  (idx x5.toList x).bind fun x6=>
  bif(cS .i64 x4.toInt&&(cS .i64 x6.toInt&&true))&&true then
  GF C op i x ((gV (.agg [vI x4.toInt,vI x6.toInt]) places (vI 0)).toInt) (!(fi (.agg [vI x4.toInt,vI x6.toInt]) places)) jx jW nD nE nF lY zw zx Bk Bl nG places ic ig L8 L9 rows x4.toInt x6.toInt cy dt eE fc (db (un fun lA=>un fun axO=>un fun axP=>un fun oJ zy=>
   kr (.inl (lA,axO,axP,oJ,zy))) (un fun alF=>un fun axQ axR=>
   bif Nat.ble ((rows.length+([vI alF]:LV).length)*8) br then
    kn (wI (x+1),axQ,axR,rows++([vI alF]:LV))
   else none))
  else none
 else
  kr (.inr (x,decide (x<jx),nG,places,rows))
noncomputable def Bm(C:ab)(op i jx jW:Int)(nD nE:LV)(nF lY:Int)(zw zx:LV)(Bk Bl ic ig L8 L9:Int)(cy dt eE fc:LV):=un fun x=>un fun nG=>un fun places rows=>DI C op i jx jW nD nE nF lY zw zx Bk Bl ic ig L8 L9 cy dt eE fc x nG places rows bD bE
noncomputable def DJ(C:ab)(op jx jW:Int)(nD nE:LV)(nF lY:Int)(zw zx:LV)(Bk Bl ic ig:Int)(ch cH:LV)(i:Int)(nG places cy dt:LV):bz (Int×LV×LV×LV×LV) ((Int×Int×Int×LV×LV)⊕(Int×Bool×LV×LV×LV×LV)):=fun kn kr=>
 bif decide (i<(nG.length:Int))then
  aj nG i fun x2=>
  (Loop (Bm C op i jx jW nD nE nF lY zw zx Bk Bl ic ig ((x2.cell 0).toInt) ((x2.cell 1).toInt) ch cH cy dt) (0,nG,places,([]:LV))).bind (db (un fun Tw=>un fun axS=>un fun axT=>un fun DC K8=>
   kr (.inl (Tw,axS,axT,DC,K8))) (un fun aJ9=>un fun akJ=>un fun axU=>un fun axV alG=>
   bif Nat.ble ((dt.length+([aR alG]:LV).length)*24) br then
   (idx nD ((x2.cell 0).toInt)).bind fun Bn=>
   (idx zw ((x2.cell 1).toInt)).bind fun Ma=>
   (C 79 [vI op,.bool Bn.toBool,.bool Ma.toBool]).bind fun r27=>
   bif Nat.ble ((cy.length+([.bool (gB r27)]:LV).length)*1) br then
    kn (wI (i+1),axU,axV,cy++([.bool (gB r27)]:LV),dt++([aR alG]:LV))
   else none
   else none))
 else
  kr (.inr (i,decide (i<(nG.length:Int)),nG,places,cy,dt))
noncomputable def zz(C:ab)(op jx jW:Int)(nD nE:LV)(nF lY:Int)(zw zx:LV)(Bk Bl ic ig:Int)(ch cH:LV):=un fun i=>un fun nG=>un fun places=>un fun cy dt=>DJ C op jx jW nD nE nF lY zw zx Bk Bl ic ig ch cH i nG places cy dt bD bE
noncomputable def acg(C:ab):cm:=fK 1471 Z2 [[0,0,0,0,0],[1,2,3,0,6,7,8,9,10,11,12,13,14,15,0,0,18,19,20,21,22,25,26,27,28]] (@GF C) (bC 241 Z3 (aD 24 548868) [[0,0,0,0,0],[1,2,0,0,4,5,6,7,8,9,10,11,12,13,0,0,16,17,18,19,0,21,22,23,24]] (@DI C) (bC 161 Z4 (aD 20 798722) [[0,0,0,0,0],[1,0,0,3,4,5,6,7,8,9,10,11,12,0,0,15,16,17,18,0,0]] (@DJ C) aO))
theorem axW(C:ab):aP C (acg C) 56 (Cd 91 [1,1,1,1,1,1,0,1,0,0,1,0,0,1,1,0,1,0,0,1,0,0,1,1,0,1,0] [1,1,1,1,1,1,0,1,0,0,1,0,0,1,1,0,1,0,0,1,0,0,1,1,0,1,1] 56):=fJ Z2 [[0,0,0,0,0],[1,2,3,0,6,7,8,9,10,11,12,13,14,15,0,0,18,19,20,21,22,25,26,27,28]] (@GF C) (ay ag) (ay ag)
theorem axX(C:ab):aP C (acg C) 56 (Lp [1,1,1,1,1,1,0,1,0,0,1,0,0,1,1,0,1,0,0] 56):=bB Z3 (aD 24 548868) [[0,0,0,0,0],[1,2,0,0,4,5,6,7,8,9,10,11,12,13,0,0,16,17,18,19,0,21,22,23,24]] (@DI C) (ay (aL (axW C) ag))
theorem axY(C:ab):aP C (acg C) 56 (Lp [1,1,1,1,1,1,0,1,0,0] 56):=bB Z4 (aD 20 798722) [[0,0,0,0,0],[1,0,0,3,4,5,6,7,8,9,10,11,12,0,0,15,16,17,18,0,0]] (@DJ C) (ay (aL (axX C) ag))
noncomputable def ach(C:ab)(dG dR:Int)(dV eT:LV)(eF ew:Int)(eU fB:LV)(op:Int):Option LV:=
 (C 78 [vI dG,vI dR,aB dV,aE eT,vI eF,vI ew,aB eU,aE fB]).bind fun r1=>
 bif((gI r1):Int) !=0 then
  some [vI 0,vI 0,vI (gI r1),aB ([]:LV),aE ([]:LV)]
 else
  bif decide (op<0)then
  some [vI 0,vI 0,vI 1,aB ([]:LV),aE ([]:LV)]
  else
  bif decide (op>15)then
   some [vI 0,vI 0,vI 1,aB ([]:LV),aE ([]:LV)]
  else
   bif(cS .i64 dR&&(cS .i64 ew&&true))&&true then
   (Loop (zz C op dG dR dV eT eF ew eU fB 0 0 dG 0 ([]:LV) ([]:LV)) (0,([.agg [vI dR,vI ew]]:LV),fj (.agg [vI dR,vI ew]) (vI 0) ([]:LV),([]:LV),([]:LV))).bind (db (un fun TI=>un fun axZ=>un fun ax0=>un fun ax1 La=>
    some [vI axZ,vI ax0,vI TI,aB ax1,aE La]) (un fun aKa=>un fun axj=>un fun aKb=>un fun aKc=>un fun ax2 ax3=>
    some [vI dG,vI 0,vI 0,aB ax2,aE ax3]))
   else none
theorem alH{dG dR:Int}{dV eT:LV}{eF ew:Int}{eU fB:LV}{op:Int}{r:Option LV}(h:ach CC dG dR dV eT eF ew eU fB op=r):CC 56 [vI dG,vI dR,aB dV,aE eT,vI eF,vI ew,aB eU,aE fB,vI op]=r:=aM (aL (axY CC) ag) h
noncomputable def alI(C:ab)(dG dR:Int)(dV eT:LV)(eF ew:Int)(eU fB:LV):Option LV:=
 (C 64 [vI dG,vI dR,aB dV,aE eT]).bind fun r1=>
 bif((gI r1):Int) !=0 then
  some [vI 0,vI 0,vI 0,vI 0,vI (gI r1),aB ([]:LV),aE ([]:LV),aB ([]:LV),aE ([]:LV)]
 else
  (C 64 [vI eF,vI ew,aB eU,aE fB]).bind fun r2=>
  bif((gI r2):Int) !=0 then
  some [vI 0,vI 0,vI 0,vI 0,vI (gI r2),aB ([]:LV),aE ([]:LV),aB ([]:LV),aE ([]:LV)]
  else
  bif dG !=eF then
   some [vI 0,vI 0,vI 0,vI 0,vI 1,aB ([]:LV),aE ([]:LV),aB ([]:LV),aE ([]:LV)]
  else
   (C 100 [vI dG,vI dR,aB dV,aE eT]).bind fun r3=>
   (C 100 [vI eF,vI ew,aB eU,aE fB]).bind fun r4=>
   some [vI (gI r3),vI (bM r3),vI (gI r4),vI (bM r4),vI 0,aB (fV r3),aE (mr r3),aB (fV r4),aE (mr r4)]
theorem ax4{dG dR:Int}{dV eT:LV}{eF ew:Int}{eU fB:LV}{r:Option LV}(h:alI CC dG dR dV eT eF ew eU fB=r):CC 101 [vI dG,vI dR,aB dV,aE eT,vI eF,vI ew,aB eU,aE fB]=r:=aM (L:=aO) ag h
noncomputable def aci(C:ab)(dG dR:Int)(dV eT:LV)(eF ew:Int)(eU fB:LV)(op:Int):Option LV:=
 (C 101 [vI dG,vI dR,aB dV,aE eT,vI eF,vI ew,aB eU,aE fB]).bind fun r1=>
 bif((aiv r1):Int) !=0 then
  some [vI 0,vI 0,vI (aiv r1),aB ([]:LV),aE ([]:LV)]
 else
  (C 102 [vI (gI r1),vI (bM r1),aB (auf r1),aE (gL ((r1.drop 5).drop 1)),vI (hD r1),vI (aiu r1),aB (aug r1),aE (auh r1),vI op]).bind fun r2=>
  bif((hD r2):Int) !=0 then
  some [vI 0,vI 0,vI (hD r2),aB ([]:LV),aE ([]:LV)]
  else
  (C 100 (Sg r2 [])).bind fun r3=>
  some [vI (gI r3),vI (bM r3),vI 0,aB (fV r3),aE (mr r3)]
theorem alJ{dG dR:Int}{dV eT:LV}{eF ew:Int}{eU fB:LV}{op:Int}{r:Option LV}(h:aci CC dG dR dV eT eF ew eU fB op=r):CC 89 [vI dG,vI dR,aB dV,aE eT,vI eF,vI ew,aB eU,aE fB,vI op]=r:=aM (L:=aO) ag h
noncomputable def acj(C:ab)(dG dR:Int)(dV eT:LV)(eF ew:Int)(eU fB:LV)(op:Int):Option LV:=
 (C 35 [vI dG,vI dR,aB dV,aE eT]).bind fun r1=>
 (C 35 [vI eF,vI ew,aB eU,aE fB]).bind fun r2=>
 (C 56 (ui r1 (ui r2 [vI op]))).bind fun r3=>
 bif((hD r3):Int) !=0 then
  some [vI 0,vI 0,vI (hD r3),aB ([]:LV),aE ([]:LV)]
 else
  (C 35 (Sg r3 [])).bind fun r4=>
  some [vI (gI r4),vI (bM r4),vI 0,aB (fV r4),aE (mr r4)]
theorem alK{dG dR:Int}{dV eT:LV}{eF ew:Int}{eU fB:LV}{op:Int}{r:Option LV}(h:acj CC dG dR dV eT eF ew eU fB op=r):CC 32 [vI dG,vI dR,aB dV,aE eT,vI eF,vI ew,aB eU,aE fB,vI op]=r:=aM (L:=aO) ag h
noncomputable def alL(C:ab)(x:Int):Option LV:=
 bif x==0 then
  some [vI 64]
 else
  bif(decide (0<=(Int.fdiv (wU (285870213051353865*(wU ((bU x&&&bU (wU (0-x))).toNat)))) (2^(min (58:Int).toNat kU)))))&&(decide ((Int.fdiv (wU (285870213051353865*(wU ((bU x&&&bU (wU (0-x))).toNat)))) (2^(min (58:Int).toNat kU)))<64))then
  (((F9).drop ((Int.fdiv (wU (285870213051353865*(wU ((bU x&&&bU (wU (0-x))).toNat)))) (2^(min (58:Int).toNat kU)):Int).toNat*1))[0]?).bind fun x1=>
  bif fR Tryz.prog 5 x1 then
   some [vI (wI x1.toInt)]
  else none
  else none
theorem ax5{x:Int}{r:Option LV}(h:alL CC x=r):CC 77 [.int .u64 x]=r:=aM (L:=aO) ag h
noncomputable def Mb(C:ab)(fC:Int)(Mc:LV):bz (Int×LV) (Int×Bool×LV):=fun kn kr=>
 bif fC !=0 then
  (C 77 [.int .u64 fC]).bind fun r1=>
  bif Nat.ble ((Mc.length+([vI (gI r1)]:LV).length)*8) br then
  kn (wU ((bU fC&&&bU (wU (fC-1))).toNat),Mc++([vI (gI r1)]:LV))
  else none
 else
  kr (fC,fC !=0,Mc)
noncomputable def Md(C:ab):=un fun fC Mc=>Mb C fC Mc bD bE
noncomputable def ax6(C:ab):cm:=bC 33 abF [true,true] [[0,0,0]] (@Mb C) aO
theorem ax7(C:ab):aP C (ax6 C) 173 (Lp [1,1,0,0,0] 173):=bB abF [true,true] [[0,0,0]] (@Mb C) (ay ag)
noncomputable def alM(C:ab)(fC:Int):Option LV:=
 (Loop (Md C) (fC,([]:LV))).bind (un fun aKd=>un fun ly ax8=>
  some [aR ax8])
theorem ax9{fC:Int}{r:Option LV}(h:alM CC fC=r):CC 173 [.int .u64 fC]=r:=aM (aL (ax7 CC) ag) h
noncomputable def Me(C:ab)(r':LV)(t17:Int)(ack:LV)(image t18:Int):bz (Int×Int) (Int×Int×Bool):=fun kn kr=>
 bif decide (t18<t17)then
  aj ack t18 fun x4=>
  (idx r' x4.toInt).bind fun x5=>
  kn (wU ((bU image|||bU x5.toInt).toNat),wI (t18+1))
 else
  kr (image,t18,decide (t18<t17))
noncomputable def Mf(C:ab)(r':LV)(t17:Int)(ack:LV):=un fun image t18=>Me C r' t17 ack image t18 bD bE
noncomputable def aya(C:ab):cm:=bC 81 abD (aD 5 10) [[1,0,3,0,0,5]] (@Me C) aO
theorem ayb(C:ab):aP C (aya C) 169 (Lp [1,1,1,0,1,0,0] 169):=bB abD (aD 5 10) [[1,0,3,0,0,5]] (@Me C) (ay ag)
noncomputable def alN(C:ab)(r':LV)(fC:Int):Option LV:=
 (C 172 [bn r']).bind fun r1=>
 bif !(gB r1)then
  some [.int .u64 0]
 else
  (C 174 [vI (r'.length:Int)]).bind fun r2=>
  (C 173 [.int .u64 (wU ((bU fC&&&bU (gI r2)).toNat))]).bind fun r3=>
  (Loop (Mf C r' ((gL r3).length:Int) (gL r3)) (0,0)).bind (un fun ayc=>un fun lA mw=>
   some [.int .u64 ayc])
theorem ayd{r':LV}{fC:Int}{r:Option LV}(h:alN CC r' fC=r):CC 169 [bn r',.int .u64 fC]=r:=aM (aL (ayb CC) ag) h
noncomputable def Mg(C:ab)(r' t8:LV)(t9 t10:Int):bz Int ((Bool)⊕(Int×Bool)):=fun kn kr=>
 bif decide (t10<t9)then
  (idx t8 t10).bind fun x1=>
  (C 174 [vI (r'.length:Int)]).bind fun r2=>
  bif((wU ((bU x1.toInt&&&~~~bU (gI r2)).toNat)):Int) !=0 then
  kr (.inl false)
  else
  kn (wI (t10+1))
 else
  kr (.inr (t10,decide (t10<t9)))
noncomputable def Mh(C:ab)(r' t8:LV)(t9:Int):=fun t10=>Mg C r' t8 t9 t10 bD bE
noncomputable def aye(C:ab):cm:=bC 65 abE [J0,J0,J0,J1] [[0],[1,2,3,0,0]] (@Mg C) aO
theorem ayf(C:ab):aP C (aye C) 172 (Lp [1,1,0,1,0,0] 172):=bB abE [J0,J0,J0,J1] [[0],[1,2,3,0,0]] (@Mg C) (ay ag)
noncomputable def alO(C:ab)(r':LV):Option LV:=
 bif decide ((r'.length:Int)>64)then
  some [.bool false]
 else
  (Loop (Mh C r' r' (r'.length:Int)) 0).bind (db (fun(ly:Bool)=>
   some [.bool ly]) (un fun lz kD=>
   some [.bool true]))
theorem ayg{r':LV}{r:Option LV}(h:alO CC r'=r):CC 172 [bn r']=r:=aM (aL (ayf CC) ag) h
noncomputable def alP(C:ab)(n:Int):Option LV:=
 bif decide (0<=n)then
  some [.int .u64 (wU ((wU (1*2^(min n.toNat kU)))-1))]
 else none
theorem ayh{n:Int}{r:Option LV}(h:alP CC n=r):CC 174 [vI n]=r:=aM (L:=aO) ag h
noncomputable def alQ(C:ab)(n:Int):Option LV:=
 bif decide (0<=n)then
  some [.int .u64 (wU ((wU (1*2^(min n.toNat kU)))-1))]
 else none
theorem ayi{n:Int}{r:Option LV}(h:alQ CC n=r):CC 165 [vI n]=r:=aM (L:=aO) ag h
noncomputable def alR(C:ab)(cf da bS zA zB zC:Int):Option LV:=
 (C 123 [vI cf,vI zA]).bind fun r1=>
 (C 123 [vI da,vI zB]).bind fun r2=>
 (C 123 [vI bS,vI zC]).bind fun r3=>
 (C 122 [aR ([vI (gI r1),vI (gI r2),vI (gI r3)]:LV)]).bind fun r4=>
 some [vI (gI r4)]
theorem ayj{cf da bS zA zB zC:Int}{r:Option LV}(h:alR CC cf da bS zA zB zC=r):CC 166 [vI cf,vI da,vI bS,vI zA,vI zB,vI zC]=r:=aM (L:=aO) ag h
noncomputable def alS(C:ab)(x y:Int):Option LV:=
 (C 132 [vI x]).bind fun r1=>
 (C 132 [vI y]).bind fun r2=>
 bif(gB r1)then
  bif(gB r2)then
  some [vI 0]
  else
  some [vI (-1)]
 else
  bif(gB r2)then
  some [vI 1]
  else
  bif decide (x<y)then
   some [vI (-1)]
  else
   bif decide (x>y)then
   some [vI 1]
   else
   some [vI 0]
theorem ayk{x y:Int}{r:Option LV}(h:alS CC x y=r):CC 123 [vI x,vI y]=r:=aM (L:=aO) ag h
noncomputable def alT(C:ab)(x:Int):Option LV:=
 some [.bool (x !=x)]
theorem ayl{x:Int}{r:Option LV}(h:alT CC x=r):CC 132 [vI x]=r:=aM (L:=aO) ag h
noncomputable def Mi(C:ab)(zero:Int)(t6:LV)(t7 t8:Int):bz Int ((Int)⊕(Int×Bool)):=fun kn kr=>
 bif decide (t8<t7)then
  (idx t6 t8).bind fun x1=>
  bif(x1.toInt:Int) !=zero then
  kr (.inl x1.toInt)
  else
  kn (wI (t8+1))
 else
  kr (.inr (t8,decide (t8<t7)))
noncomputable def Bo(C:ab)(zero:Int)(t6:LV)(t7:Int):=fun t8=>Mi C zero t6 t7 t8 bD bE
noncomputable def aym(C:ab):cm:=bC 49 aaS [J0,J0,J0,J1] [[0],[1,2,3,0,0]] (@Mi C) aO
theorem ayn(C:ab):aP C (aym C) 122 (Lp [1,1,0,1,0,0] 122):=bB aaS [J0,J0,J0,J1] [[0],[1,2,3,0,0]] (@Mi C) (ay ag)
noncomputable def alU(C:ab)(vals:LV):Option LV:=
 (Loop (Bo C 0 vals (vals.length:Int)) 0).bind (db (fun t_2=>
  some [vI t_2]) (un fun ly lz=>
  some [vI 0]))
theorem ayo{vals:LV}{r:Option LV}(h:alU CC vals=r):CC 122 [aR vals]=r:=aM (aL (ayn CC) ag) h
noncomputable def alV(C:ab)(dG dR dV eF ew eU:Int):Option LV:=
 bif dG !=eF then
  some [.bool (decide (dG<eF))]
 else
  bif dR !=ew then
  some [.bool (decide (dR<ew))]
  else
  some [.bool (decide (dV<eU))]
theorem ayp{dG dR dV eF ew eU:Int}{r:Option LV}(h:alV CC dG dR dV eF ew eU=r):CC 96 [vI dG,vI dR,vI dV,vI eF,vI ew,vI eU]=r:=aM (L:=aO) ag h
noncomputable def Mj(C:ab)(t34:LV)(t35 bd aY aW aS:Int)(my:LV)(t36:Int):bz Int ((Int)⊕(Int×Bool)):=fun kn kr=>
 bif decide (t36<t35)then
  (idx t34 t36).bind fun x2=>
  bif decide (((if((x2.cell 2).toInt)<(if((x2.cell 1).toInt)<((x2.cell 0).toInt)then((x2.cell 1).toInt)else((x2.cell 0).toInt))then((x2.cell 2).toInt)else(if((x2.cell 1).toInt)<((x2.cell 0).toInt)then((x2.cell 1).toInt)else((x2.cell 0).toInt))):Int)<0)then
  kr (.inl 4)
  else
  bif decide (((if((x2.cell 2).toInt)>((x2.cell 0).toInt)then((x2.cell 2).toInt)else((x2.cell 0).toInt)):Int)>=aY)then
   kr (.inl 4)
  else
   bif decide ((((x2.cell 1).toInt):Int)>=bd)then
   kr (.inl 4)
   else
   bif decide (t36>0)then
    (idx my (wI (t36-1))).bind fun x3=>
    bif((((x3.cell 0).toInt):Int)==((x2.cell 0).toInt))&&(((((x3.cell 1).toInt):Int)==((x2.cell 1).toInt))&&(((((x3.cell 2).toInt):Int)==((x2.cell 2).toInt))&&true))then
    kr (.inl 4)
    else
    (idx my (wI (t36-1))).bind fun x4=>
    (C 166 [vI ((x4.cell 0).toInt),vI ((x4.cell 1).toInt),vI ((x4.cell 2).toInt),vI ((x2.cell 0).toInt),vI ((x2.cell 1).toInt),vI ((x2.cell 2).toInt)]).bind fun r5=>
    bif decide (((gI r5):Int)>0)then
     kr (.inl 4)
    else
     kn (wI (t36+1))
   else
    kn (wI (t36+1))
 else
  kr (.inr (t36,decide (t36<t35)))
noncomputable def TS(C:ab)(t34:LV)(t35 bd aY aW aS:Int)(my:LV):=fun t36=>Mj C t34 t35 bd aY aW aS my t36 bD bE
noncomputable def ayq(C:ab):cm:=bC 97 abw (aD 8 4) [[0],[1,2,0,0,4,5,6,7,8]] (@Mj C) aO
theorem ayr(C:ab):aP C (ayq C) 151 (Lp [1,1,1,0,1,0,0] 151):=bB abw (aD 8 4) [[0],[1,2,0,0,4,5,6,7,8]] (@Mj C) (ay ag)
noncomputable def alW(C:ab)(cz dc cL dh:Int)(ey:LV):Option LV:=
 bif decide (cz<1)then
  some [vI 1]
 else
  bif decide (cz>6)then
  some [vI 1]
  else
  bif decide (dc<0)then
   some [vI 1]
  else
   bif decide (dc>64)then
   some [vI 1]
   else
   (C 165 [vI dc]).bind fun r1=>
   bif((wU ((bU (wU ((bU cL|||bU dh).toNat))&&&~~~bU (gI r1)).toNat)):Int) !=0 then
    some [vI 4]
   else
    (Loop (TS C ey (ey.length:Int) cz dc cL dh ey) 0).bind (db (fun pq=>
     some [vI pq]) (un fun lA mw=>
     some [vI 0]))
theorem ays{cz dc cL dh:Int}{ey:LV}{r:Option LV}(h:alW CC cz dc cL dh ey=r):CC 151 [vI cz,vI dc,.int .u64 cL,.int .u64 dh,cg ey]=r:=aM (aL (ayr CC) ag) h
noncomputable def Ml(C:ab)(t38:LV)(t39 bd aY aW aS:Int)(my:LV)(t40:Int):bz Int ((Int)⊕(Int×Bool)):=fun kn kr=>
 bif decide (t40<t39)then
  (idx t38 t40).bind fun x3=>
  bif decide ((((x3.cell 0).toInt):Int)<0)then
  kr (.inl 4)
  else
  bif decide ((((x3.cell 0).toInt):Int)>=aY)then
   kr (.inl 4)
  else
   bif decide ((((x3.cell 2).toInt):Int)<0)then
   kr (.inl 4)
   else
   bif decide ((((x3.cell 2).toInt):Int)>=aY)then
    kr (.inl 4)
   else
    bif decide ((((x3.cell 1).toInt):Int)<0)then
    kr (.inl 4)
    else
    bif decide ((((x3.cell 1).toInt):Int)>=bd)then
     kr (.inl 4)
    else
     bif decide (t40>0)then
     (idx my (wI (t40-1))).bind fun x4=>
     (C 96 [vI ((x4.cell 0).toInt),vI ((x4.cell 1).toInt),vI ((x4.cell 2).toInt),vI ((x3.cell 0).toInt),vI ((x3.cell 1).toInt),vI ((x3.cell 2).toInt)]).bind fun r5=>
     bif !(gB r5)then
      kr (.inl 4)
     else
      kn (wI (t40+1))
     else
     kn (wI (t40+1))
 else
  kr (.inr (t40,decide (t40<t39)))
noncomputable def TT(C:ab)(t38:LV)(t39 bd aY aW aS:Int)(my:LV):=fun t40=>Ml C t38 t39 bd aY aW aS my t40 bD bE
noncomputable def ayt(C:ab):cm:=bC 113 aaF (aD 8 4) [[0],[1,2,0,0,4,5,6,7,8]] (@Ml C) aO
theorem ayu(C:ab):aP C (ayt C) 97 (Lp [1,1,1,1,0,1,0,0] 97):=bB aaF (aD 8 4) [[0],[1,2,0,0,4,5,6,7,8]] (@Ml C) (ay ag)
noncomputable def alX(C:ab)(cz dc cL dh:Int)(ey:LV):Option LV:=
 (C 55 [vI cz]).bind fun r1=>
 bif !(gB r1)then
  some [vI 1]
 else
  bif decide (dc<0)then
  some [vI 1]
  else
  bif decide (dc>64)then
   some [vI 1]
  else
   (C 111 [vI dc]).bind fun r2=>
   bif((wU ((bU cL|||bU (gI r2)).toNat)):Int) != (gI r2)then
   some [vI 4]
   else
   bif((wU ((bU dh|||bU (gI r2)).toNat)):Int) != (gI r2)then
    some [vI 4]
   else
    (Loop (TT C ey (ey.length:Int) cz dc cL dh ey) 0).bind (db (fun pq=>
     some [vI pq]) (un fun lA mw=>
     some [vI 0]))
theorem ayv{cz dc cL dh:Int}{ey:LV}{r:Option LV}(h:alX CC cz dc cL dh ey=r):CC 97 [vI cz,vI dc,.int .u64 cL,.int .u64 dh,cg ey]=r:=aM (aL (ayu CC) ag) h
noncomputable def alY(C:ab)(n:Int):Option LV:=
 bif decide (n>=64)then
  some [.int .u64 18446744073709551615]
 else
  bif decide (0<=(wU n))then
  some [.int .u64 (wU ((wU (1*2^(min (wU n).toNat kU)))-1))]
  else none
theorem ayw{n:Int}{r:Option LV}(h:alY CC n=r):CC 111 [vI n]=r:=aM (L:=aO) ag h
noncomputable def acm(C:ab)(j:Int):Option LV:=
 bif decide (0<=(wU j))then
  some [.int .u64 (wU (1*2^(min (wU j).toNat kU)))]
 else none
theorem alZ{j:Int}{r:Option LV}(h:acm CC j=r):CC 58 [vI j]=r:=aM (L:=aO) ag h
noncomputable def Mm(C:ab)(fC letter:Int)(t11:LV)(t12 out t13:Int):bz (Int×Int) (Int×Int×Bool):=fun kn kr=>
 bif decide (t13<t12)then
  (idx t11 t13).bind fun x1=>
  bif(((x1.cell 1).toInt):Int)==letter then
  (C 112 [.int .u64 fC,vI ((x1.cell 0).toInt)]).bind fun r2=>
  bif(gB r2)then
   (C 58 [vI ((x1.cell 2).toInt)]).bind fun r3=>
   kn (wU ((bU out|||bU (gI r3)).toNat),wI (t13+1))
  else
   kn (out,wI (t13+1))
  else
  kn (out,wI (t13+1))
 else
  kr (out,t13,decide (t13<t12))
noncomputable def Mn(C:ab)(fC letter:Int)(t11:LV)(t12:Int):=un fun out t13=>Mm C fC letter t11 t12 out t13 bD bE
noncomputable def ayx(C:ab):cm:=bC 49 aaG (aD 6 36) [[1,2,0,4,5,0,0]] (@Mm C) aO
theorem ayy(C:ab):aP C (ayx C) 98 (Lp [1,1,0,1,0,0] 98):=bB aaG (aD 6 36) [[1,2,0,4,5,0,0]] (@Mm C) (ay ag)
noncomputable def al0(C:ab)(cz dc cL dh:Int)(ey:LV)(fC letter:Int):Option LV:=
 (Loop (Mn C fC letter ey (ey.length:Int)) (0,0)).bind (un fun ayz=>un fun kD pq=>
  some [.int .u64 ayz])
theorem ayA{cz dc cL dh:Int}{ey:LV}{fC letter:Int}{r:Option LV}(h:al0 CC cz dc cL dh ey fC letter=r):CC 98 [vI cz,vI dc,.int .u64 cL,.int .u64 dh,cg ey,.int .u64 fC,vI letter]=r:=aM (aL (ayy CC) ag) h
noncomputable def al1(C:ab)(fC j:Int):Option LV:=
 bif decide (0<=(wU j))then
  some [.bool (((wU ((bU (Int.fdiv fC (2^(min (wU j).toNat kU)))&&&bU 1).toNat)):Int)==1)]
 else none
theorem ayB{fC j:Int}{r:Option LV}(h:al1 CC fC j=r):CC 112 [.int .u64 fC,vI j]=r:=aM (L:=aO) ag h
noncomputable def Mo(C:ab)(t11 bd aY aW aS:Int)(my:LV)(t12:Int)(bZ:LV):bz (Int×LV) (Int×Bool×LV):=fun kn kr=>
 bif decide (t12<t11)then
  bif(decide (0<=aY))&&((decide (aY<=aY))&&(Nat.ble ((aY.toNat)*8) br))then
  aj bZ t12 fun x1=>
  kn (wI (t12+1),az bZ t12 (bn (List.replicate (aY.toNat) (V.int .u64 0))))
  else none
 else
  kr (t12,decide (t12<t11),bZ)
noncomputable def Mp(C:ab)(t11 bd aY aW aS:Int)(my:LV):=un fun t12 bZ=>Mo C t11 bd aY aW aS my t12 bZ bD bE
noncomputable def Mq(C:ab)(t23:LV)(t24 t25:Int)(bh:LV):bz (Int×LV) (Int×Bool×LV):=fun kn kr=>
 bif decide (t25<t24)then
  (idx t23 t25).bind fun x5=>
  aj bh ((x5.cell 1).toInt) fun x6=>
  (ej Tryz.prog 73 bh [(((x5.cell 1).toInt:Int).toNat,0)]).bind fun x7=>
  bif(decide (0<=((x5.cell 0).toInt)))&&(decide (((x5.cell 0).toInt)<(x7.toList.length:Int)))then
  (ej Tryz.prog 73 bh [(((x5.cell 1).toInt:Int).toNat,0)]).bind fun x8=>
  (x8.toList[((x5.cell 0).toInt:Int).toNat]?).bind fun x9=>
  bif decide (0<=((x5.cell 2).toInt))then
   (ej Tryz.prog 73 bh [(((x5.cell 1).toInt:Int).toNat,0)]).bind fun kY=>
   bif(decide (0<=((x5.cell 0).toInt)))&&(decide (((x5.cell 0).toInt)<(kY.toList.length:Int)))then
   (ej Tryz.prog 73 bh [(((x5.cell 1).toInt:Int).toNat,0)]).bind fun iO=>
   (iO.toList[((x5.cell 0).toInt:Int).toNat]?).bind fun kE=>
   kn (wI (t25+1),setRow Tryz.prog (az iO.toList ((x5.cell 0).toInt) (.int .u64 (wU ((bU x9.toInt|||bU (wU (1*2^(min ((x5.cell 2).toInt).toNat kU)))).toNat)))) 73 bh [(((x5.cell 1).toInt:Int).toNat,0)])
   else none
  else none
  else none
 else
  kr (t25,decide (t25<t24),bh)
noncomputable def Mr(C:ab)(t23:LV)(t24:Int):=un fun t25 bh=>Mq C t23 t24 t25 bh bD bE
noncomputable def al2(C:ab):cm:=bC 49 abz (aD 8 130) [[1,0,0,3,4,5,6,7,0]] (@Mo C) (bC 129 abA [J0,J0,J1,J1] [[1,2,0,0,0]] (@Mq C) aO)
theorem ayC(C:ab):aP C (al2 C) 153 (Lp [1,1,0,1,0,0] 153):=bB abz (aD 8 130) [[1,0,0,3,4,5,6,7,0]] (@Mo C) (ay ag)
theorem ayD(C:ab):aP C (al2 C) 153 (Lp [1,1,1,0,1,0,0] 153):=bB abA [J0,J0,J1,J1] [[1,2,0,0,0]] (@Mq C) (ay ag)
noncomputable def al3(C:ab)(cz dc cL dh:Int)(ey:LV):Option LV:=
 bif(decide (0<=cz))&&((decide (cz<=cz))&&(Nat.ble ((cz.toNat)*24) br))then
  (Loop (Mp C ((List.replicate (cz.toNat) (bn ([]:LV))).length:Int) cz dc cL dh ey) (0,List.replicate (cz.toNat) (bn ([]:LV)))).bind (un fun t_2=>un fun ly Ms=>
   (Loop (Mr C ey (ey.length:Int)) (0,Ms)).bind (un fun ti=>un fun Gv zq=>
    some [po zq]))
 else none
theorem ayE{cz dc cL dh:Int}{ey:LV}{r:Option LV}(h:al3 CC cz dc cL dh ey=r):CC 153 [vI cz,vI dc,.int .u64 cL,.int .u64 dh,cg ey]=r:=aM (aL (ayC CC) (aL (ayD CC) ag)) h
noncomputable def al4(C:ab)(fC letter:Int)(nH:LV):Option LV:=
 (idx nH letter).bind fun x1=>
 (C 169 [bn x1.toList,.int .u64 fC]).bind fun r2=>
 some [.int .u64 (gI r2),po nH]
theorem ayF{fC letter:Int}{nH:LV}{r:Option LV}(h:al4 CC fC letter nH=r):CC 168 [.int .u64 fC,vI letter,po nH]=r:=aM (L:=aO) ag h
noncomputable def al5(C:ab)(fC qb qc oG pw:Int)(TU:LV):Option LV:=
 some [.bool (((wU ((bU fC&&&bU pw).toNat)):Int) !=0),vI qb,vI qc,.int .u64 oG,.int .u64 pw,cg TU]
theorem ayG{fC qb qc oG pw:Int}{TU:LV}{r:Option LV}(h:al5 CC fC qb qc oG pw TU=r):CC 154 [.int .u64 fC,vI qb,vI qc,.int .u64 oG,.int .u64 pw,cg TU]=r:=aM (L:=aO) ag h
noncomputable def al6(C:ab)(x:Int)(bh:LV):Option LV:=
 bif cS .u64 x&&true then
  bif cS .u64 x&&true then
  bif Nat.ble ((bh.length+([.int .u64 x]:LV).length)*8) br then
   some [vI (bh.length:Int),bn (bh++([.int .u64 x]:LV)),.list 143 (fj (.int .u64 x) (vI (bh.length:Int)) ([]:LV))]
  else none
  else none
 else none
theorem ayH{x:Int}{bh:LV}{r:Option LV}(h:al6 CC x bh=r):CC 167 [.int .u64 x,bn bh]=r:=aM (L:=aO) ag h
noncomputable def al7(C:ab)(x:Int)(bh bZ:LV):Option LV:=
 bif cS .u64 x&&true then
  bif !(fi (.int .u64 x) bZ)then
  bif cS .u64 x&&true then
   bif Nat.ble ((bh.length+([.int .u64 x]:LV).length)*8) br then
   some [vI (bh.length:Int),.list 143 (fj (.int .u64 x) (vI (bh.length:Int)) bZ),bn (bh++([.int .u64 x]:LV))]
   else none
  else none
  else
  some [vI ((gV (.int .u64 x) bZ (vI 0)).toInt),.list 143 bZ,bn bh]
 else none
theorem ayI{x:Int}{bh bZ:LV}{r:Option LV}(h:al7 CC x bh bZ=r):CC YK [.int .u64 x,bn bh,.list 143 bZ]=r:=aM (L:=aO) ag h
noncomputable def Mt(C:ab)(an i state t36 sa sb sc sd:Int)(se:LV)(mU mV bc bp:Int)(ch cH eE fc:LV)(t37:Int)(sg rows cy dt:LV):bz (Int×LV×LV×LV×LV) (Int×Bool×LV×LV×LV×LV):=fun kn kr=>
 bif decide (t37<t36)then
  (C 168 [.int .u64 state,vI t37,po sg]).bind fun r3=>
  (C YK [.int .u64 (gI r3),bn cy,.list 143 dt]).bind fun r4=>
  aj rows t37 fun x5=>
  kn (wI (t37+1),(eu r3),az rows t37 (vI (gI r4)),(lW r4),(eu r4))
 else
  kr (t37,decide (t37<t36),sg,rows,cy,dt)
noncomputable def TV(C:ab)(an i state t36 sa sb sc sd:Int)(se:LV)(mU mV bc bp:Int)(ch cH eE fc:LV):=un fun t37=>un fun sg=>un fun rows=>un fun cy dt=>Mt C an i state t36 sa sb sc sd se mU mV bc bp ch cH eE fc t37 sg rows cy dt bD bE
noncomputable def Mu(C:ab)(an mU mV bc bp:Int)(bY ch:LV)(i:Int)(sg:LV)(sa sb sc sd:Int)(se cH cy dt eE:LV):bz (Int×LV×Int×Int×Int×Int×LV×LV×LV×LV×LV) ((Int×LV×Int×Int×Int×Int×LV×Int×Int×LV×LV×LV)⊕(Int×Bool×LV×Int×Int×Int×Int×LV×LV×LV×LV×LV)):=fun kn kr=>
 bif decide (i<(cH.length:Int))then
  aj cH i fun x2=>
  bif(decide (0<=an))&&((decide (an<=an))&&(Nat.ble ((an.toNat)*8) br))then
  (Loop (TV C an i x2.toInt ((List.replicate (an.toNat) (vI 0)).length:Int) sa sb sc sd se mU mV bc bp bY ch dt eE) (0,sg,List.replicate (an.toNat) (vI 0),cH,cy)).bind (un fun pq=>un fun lA=>un fun Bi=>un fun LU=>un fun oJ zy=>
   bif decide ((oJ.length:Int)>512)then
    kr (.inl (3,Bi,sa,sb,sc,sd,se,0,0,([]:LV),([]:LV),([]:LV)))
   else
    bif Nat.ble ((eE.length+([aR LU]:LV).length)*24) br then
    (C 154 [.int .u64 x2.toInt,vI sa,vI sb,.int .u64 sc,.int .u64 sd,cg se]).bind fun mX=>
    bif Nat.ble ((dt.length+([.bool (gB mX)]:LV).length)*1) br then
     kn (wI (i+1),Bi,(bM mX),(jq mX),(vL mX),(gI ((((mX.drop 1).drop 1).drop 1).drop 1)),(gL (((((mX.drop 1).drop 1).drop 1).drop 1).drop 1)),oJ,zy,dt++([.bool (gB mX)]:LV),eE++([aR LU]:LV))
    else none
    else none)
  else none
 else
  kr (.inr (i,decide (i<(cH.length:Int)),sg,sa,sb,sc,sd,se,cH,cy,dt,eE))
noncomputable def GG(C:ab)(an mU mV bc bp:Int)(bY ch:LV):=un fun i=>un fun sg=>un fun sa=>un fun sb=>un fun sc=>un fun sd=>un fun se=>un fun cH=>un fun cy=>un fun dt eE=>Mu C an mU mV bc bp bY ch i sg sa sb sc sd se cH cy dt eE bD bE
noncomputable def al8(C:ab):cm:=bC 161 abx (aD 22 819248) [[1,2,3,4,0,0,0,7,8,9,10,11,12,13,14,15,0,17,18,0,0,21,22]] (@Mt C) (bC 81 aby (aD 18 246014) [[0,0,0,0,0,0,0,0,0,0,0,0],[1,0,0,0,0,0,0,0,0,9,10,11,12,13,14,0,0,0,0]] (@Mu C) aO)
theorem ayJ(C:ab):aP C (al8 C) 152 (Lp [1,1,1,1,0,1,0,0,1,0,0,1,1,0,1,0,0] 152):=bB abx (aD 22 819248) [[1,2,3,4,0,0,0,7,8,9,10,11,12,13,14,15,0,17,18,0,0,21,22]] (@Mt C) (ay ag)
theorem ayK(C:ab):aP C (al8 C) 152 (Lp [1,1,1,1,0,1,0,0] 152):=bB aby (aD 18 246014) [[0,0,0,0,0,0,0,0,0,0,0,0],[1,0,0,0,0,0,0,0,0,9,10,11,12,13,14,0,0,0,0]] (@Mu C) (ay (aL (ayJ C) ag))
noncomputable def acn(C:ab)(an start:Int)(sg:LV)(sa sb sc sd:Int)(se:LV):Option LV:=
 (C 167 [.int .u64 start,bn ([]:LV)]).bind fun r1=>
 (Loop (GG C an 0 0 an 0 ([]:LV) ([]:LV)) (0,sg,sa,sb,sc,sd,se,(eu r1),(lW r1),([]:LV),([]:LV))).bind (db (un fun ti=>un fun th=>un fun zq=>un fun Mv=>un fun py=>un fun DC=>un fun K8=>un fun ayL=>un fun abT=>un fun GC=>un fun K9 ayM=>
  some [vI ayL,vI abT,vI ti,po th,vI zq,vI Mv,.int .u64 py,.int .u64 DC,cg K8,aB GC,aE K9,bn ayM]) (un fun aKe=>un fun aco=>un fun ayN=>un fun ayO=>un fun ayP=>un fun ayQ=>un fun ayR=>un fun ayS=>un fun S7=>un fun akV=>un fun Lb acp=>
  some [vI an,vI 0,vI 0,po ayN,vI ayO,vI ayP,.int .u64 ayQ,.int .u64 ayR,cg ayS,aB Lb,aE acp,bn S7]))
theorem al9{an start:Int}{sg:LV}{sa sb sc sd:Int}{se:LV}{r:Option LV}(h:acn CC an start sg sa sb sc sd se=r):CC 152 [vI an,.int .u64 start,po sg,vI sa,vI sb,.int .u64 sc,.int .u64 sd,cg se]=r:=aM (aL (ayK CC) ag) h
noncomputable def acq(C:ab)(cz dc cL dh:Int)(ey:LV):Option LV:=
 (C 151 [vI cz,vI dc,.int .u64 cL,.int .u64 dh,cg ey]).bind fun r1=>
 bif((gI r1):Int) !=0 then
  some [vI 0,vI 0,vI (gI r1),aB ([]:LV),aE ([]:LV),bn ([]:LV)]
 else
  (C 153 [vI cz,vI dc,.int .u64 cL,.int .u64 dh,cg ey]).bind fun r2=>
  (C 152 [vI cz,.int .u64 cL,po (gL r2),vI cz,vI dc,.int .u64 cL,.int .u64 dh,cg ey]).bind fun r3=>
  some (F8 r3 [aB (gL (((r3.drop 3).drop 1).drop 5)),aE (gL ((((r3.drop 3).drop 1).drop 5).drop 1)),bn (gL (((((r3.drop 3).drop 1).drop 5).drop 1).drop 1))])
theorem ama{cz dc cL dh:Int}{ey:LV}{r:Option LV}(h:acq CC cz dc cL dh ey=r):CC 133 [vI cz,vI dc,.int .u64 cL,.int .u64 dh,cg ey]=r:=aM (L:=aO) ag h
noncomputable def Mw(C:ab)(t7:LV)(t8 t9:Int)(outs:LV)(xO xP Bp k':Int):bz Int (Int×Bool):=fun kn kr=>
 bif decide (k'>0)then
  aj outs (wI (k'-1)) fun x2=>
  (C 96 [vI xO,vI xP,vI Bp,vI ((x2.cell 0).toInt),vI ((x2.cell 1).toInt),vI ((x2.cell 2).toInt)]).bind fun r3=>
  bif(gB r3)then
  kn (wI (k'-1))
  else
  kr (k',(gB r3))
 else
  kr (k',false)
noncomputable def Mx(C:ab)(t7:LV)(t8 t9:Int)(outs:LV)(xO xP Bp:Int):=fun k'=>Mw C t7 t8 t9 outs xO xP Bp k' bD bE
noncomputable abbrev acr(oK:Int)(outs:LV)(x1:V)(t9:Int):eN (Int×LV):=fun kn=>
 bif(decide (0<=oK))&&(decide (oK<=(outs.length:Int)))then
  bif Nat.ble ((([]:LV).length+((outs.drop 0).take (((oK:Int).toNat)-0)).length)*24) br then
  bif Nat.ble (((([]:LV)++((outs.drop 0).take (((oK:Int).toNat)-0))).length+([.agg [vI ((x1.cell 0).toInt),vI ((x1.cell 1).toInt),vI ((x1.cell 2).toInt)]]:LV).length)*24) br then
   bif(decide (0<=oK))&&(decide (oK<=(outs.length:Int)))then
   bif Nat.ble ((((([]:LV)++((outs.drop 0).take (((oK:Int).toNat)-0)))++([.agg [vI ((x1.cell 0).toInt),vI ((x1.cell 1).toInt),vI ((x1.cell 2).toInt)]]:LV)).length+((outs.drop ((oK:Int).toNat)).take (outs.length-((oK:Int).toNat))).length)*24) br then
    kn (wI (t9+1),((([]:LV)++((outs.drop 0).take (((oK:Int).toNat)-0)))++([.agg [vI ((x1.cell 0).toInt),vI ((x1.cell 1).toInt),vI ((x1.cell 2).toInt)]]:LV))++((outs.drop ((oK:Int).toNat)).take (outs.length-((oK:Int).toNat))))
   else none
   else none
  else none
  else none
 else none
noncomputable def My(C:ab)(t7:LV)(t8 t9:Int)(outs:LV):bz (Int×LV) (Int×Bool×LV):=fun kn kr=>
 bif decide (t9<t8)then
  (idx t7 t9).bind fun x1=>
  (Loop (Mx C t7 t8 t9 outs ((x1.cell 0).toInt) ((x1.cell 1).toInt) ((x1.cell 2).toInt)) (outs.length:Int)).bind (un fun oK kD=>
   bif(oK:Int)==0 then
   acr oK outs x1 t9 kn
   else
   aj outs (wI (oK-1)) fun x6=>
   bif !(((((x6.cell 0).toInt):Int)==((x1.cell 0).toInt))&&(((((x6.cell 1).toInt):Int)==((x1.cell 1).toInt))&&(((((x6.cell 2).toInt):Int)==((x1.cell 2).toInt))&&true)))then
    acr oK outs x1 t9 kn
   else
    kn (wI (t9+1),outs))
 else
  kr (t9,decide (t9<t8),outs)
noncomputable def Mz(C:ab)(t7:LV)(t8:Int):=un fun t9 outs=>My C t7 t8 t9 outs bD bE
noncomputable def amb(C:ab):cm:=bC 97 aaq (aD 8 1) [[0,2,3,4,0,5,6,7,8]] (@Mw C) (bC 49 aar [J0,J0,J1,J1] [[1,2,0,0,0]] (@My C) aO)
theorem ayT(C:ab):aP C (amb C) 80 (Lp [1,1,0,1,0,0,1,1,0,0,1,1,0,0,0] 80):=bB aaq (aD 8 1) [[0,2,3,4,0,5,6,7,8]] (@Mw C) (ay ag)
theorem ayU(C:ab):aP C (amb C) 80 (Lp [1,1,0,1,0,0] 80):=bB aar [J0,J0,J1,J1] [[1,2,0,0,0]] (@My C) (ay (aL (ayT C) ag))
noncomputable def amc(C:ab)(l:LV):Option LV:=
 (Loop (Mz C l (l.length:Int)) (0,([]:LV))).bind (un fun lA=>un fun mw DK=>
  some [cg DK])
theorem ayV{l:LV}{r:Option LV}(h:amc CC l=r):CC 80 [cg l]=r:=aM (aL (ayU CC) ag) h
noncomputable def GH(C:ab)(MA DL:Nat)(k' qe:Int)(ss:LV):bz (Int×Int×LV) (Int×Int×Bool×LV):=fun kn kr=>
 bif decide (qe<(DL:Int))then
  bif(decide (0<=qe))&&(decide (qe<(DL:Int)))then
  (ss[MA+(qe.toNat)]?).bind fun x3=>
  bif(decide (0<=(wI (qe-1))))&&(decide ((wI (qe-1))<(DL:Int)))then
   (ss[MA+((wI (qe-1):Int).toNat)]?).bind fun x4=>
   bif !(((((x3.cell 0).toInt):Int)==((x4.cell 0).toInt))&&(((((x3.cell 1).toInt):Int)==((x4.cell 1).toInt))&&(((((x3.cell 2).toInt):Int)==((x4.cell 2).toInt))&&true)))then
   bif(decide (0<=qe))&&(decide (qe<(DL:Int)))then
    (ss[MA+(qe.toNat)]?).bind fun x5=>
    aj ss k' fun x6=>
    kn (wI (k'+1),wI (qe+1),az ss k' (.agg [vI ((x5.cell 0).toInt),vI ((x5.cell 1).toInt),vI ((x5.cell 2).toInt)]))
   else none
   else
   kn (k',wI (qe+1),ss)
  else none
  else none
 else
  kr (k',qe,decide (qe<(DL:Int)),ss)
noncomputable def DM(C:ab)(MA DL:Nat):=un fun k'=>un fun qe ss=>GH C MA DL k' qe ss bD bE
noncomputable def GI(C:ab)(ss:LV)(k':Int):bz Int (LV⊕(Int×Bool)):=fun kn kr=>
 bif decide (k'<(ss.length:Int))then
  aj ss k' fun x1=>
  aj ss (wI (k'-1)) fun x2=>
  bif((((x1.cell 0).toInt):Int)==((x2.cell 0).toInt))&&(((((x1.cell 1).toInt):Int)==((x2.cell 1).toInt))&&(((((x1.cell 2).toInt):Int)==((x2.cell 2).toInt))&&true))then
  bif(decide (0<=k'))&&(decide (k'<=(ss.length:Int)))then
   (Loop (DM C (k'.toNat) (ss.length-(k'.toNat))) (k',1,ss)).bind (un fun sh=>un fun k_8=>un fun pr zE=>
    bif(decide (0<=sh))&&(decide (sh<=(zE.length:Int)))then
    bif(decide (0<=sh))&&(decide (sh<=((zE.take ((sh:Int).toNat)++(List.replicate (zE.length-((sh:Int).toNat)) (V.agg [vI 0,vI 0,vI 0])++zE.drop (((sh:Int).toNat)+(zE.length-((sh:Int).toNat))))).length:Int)))then
     kr (.inl ((zE.take ((sh:Int).toNat)++(List.replicate (zE.length-((sh:Int).toNat)) (V.agg [vI 0,vI 0,vI 0])++zE.drop (((sh:Int).toNat)+(zE.length-((sh:Int).toNat))))).take ((sh:Int).toNat)))
    else none
    else none)
  else none
  else
  kn (wI (k'+1))
 else
  kr (.inr (k',decide (k'<(ss.length:Int))))
noncomputable def DN(C:ab)(ss:LV):=fun k'=>GI C ss k' bD bE
noncomputable def amd(C:ab):cm:=bC 145 aaT (aD 5 25) [[0,2,3,0,0,0]] (@GH C) (bC 65 aaU [true,false] [[0],[0,0,2]] (@GI C) aO)
theorem ayW(C:ab):aP C (amd C) 124 (Lp [1,1,0,1,0,0,1,0,0,1,0,1,0,1,0,0] 124):=bB aaT (aD 5 25) [[0,2,3,0,0,0]] (@GH C) (ay ag)
theorem ayX(C:ab):aP C (amd C) 124 (Lp [1,1,0,1,0,0] 124):=bB aaU [true,false] [[0],[0,0,2]] (@GI C) (ay (aL (ayW C) ag))
noncomputable def TW(C:ab)(ss:LV):Option LV:=
 bif decide ((ss.length:Int)<2)then
  some [V.bool true,cg ss]
 else
  (Loop (DN C ss) 1).bind (db (fun(ayY:LV)=>
   some [V.bool false,cg ayY]) (un fun aKf ti=>
   some [V.bool true,cg ss]))
theorem acs{ss:LV}{r:Option LV}(h:TW CC ss=r):CC 124 [cg ss]=r:=aM (aL (ayX CC) ag) h
noncomputable def GJ(E:SE)(C:ab)(a b' i j:Int)(aq:LV):bz (Int×LV) (Int×Bool×LV):=fun kn kr=>
 bif decide ((j:Int)>a)then
  aj aq j fun x1=>
  aj aq (wI (j-1)) fun x2=>
  (C E.cmp (E.ex x1++E.ex x2)).bind fun r3=>
  bif decide (((gI r3):Int)<0)then
  aj aq (wI (j-1)) fun x4=>
  aj aq j fun x5=>
  aj aq j fun x6=>
  aj (az aq j (.agg (E.ex x4))) (wI (j-1)) fun x7=>
  kn (wI (j-1),az (az aq j (.agg (E.ex x4))) (wI (j-1)) (.agg (E.ex x5)))
  else
  kr (j,decide (((gI r3):Int)<0),aq)
 else
  kr (j,false,aq)
noncomputable def GK(E:SE)(C:ab)(a b' i:Int):=un fun j aq=>GJ E C a b' i j aq bD bE
noncomputable def MB(E:SE)(C:ab)(a b' i:Int)(aq:LV):bz (Int×LV) (Int×Bool×LV):=fun kn kr=>
 bif decide ((i:Int)<b')then
  (Loop (GK E C a b' i) (i,aq)).bind (un fun j_8=>un fun pr DO=>
   kn (wI (i+1),DO))
 else
  kr (i,decide ((i:Int)<b'),aq)
noncomputable def TX(E:SE)(C:ab)(a b':Int):=un fun i aq=>MB E C a b' i aq bD bE
noncomputable def acu(E:SE)(C:ab)(a b':Int)(aq:LV):Option LV:=
 (Loop (TX E C a b') (wI (a+1),aq)).bind (un fun aKg=>un fun Bj acv=>
  some [.list E.T acv])
noncomputable def DP(E:SE)(C:ab)(hi first root child:Int)(t40:Bool)(aq:LV):eN (Int):=fun kr=>
 bif t40 then
  kr (wI (child+1))
 else
  kr child
noncomputable abbrev ame(aq:LV)(first root Bq:Int)(C:ab)(E:SE):bz ((Int×Int×Bool×LV)⊕(Int×Int×Bool×LV)) (Int×LV):=fun kr kn=>
 aj aq (wI (first+root)) fun x5=>
 aj aq (wI (first+Bq)) fun x6=>
 (C E.cmp (E.ex x5++E.ex x6)).bind fun r7=>
 bif !(decide (((gI r7):Int)<0))then
  kr (.inr (root,Bq,!(decide (((gI r7):Int)<0)),aq))
 else
  aj aq (wI (first+Bq)) fun x8=>
  aj aq (wI (first+root)) fun x9=>
  aj aq (wI (first+root)) fun kY=>
  aj (az aq (wI (first+root)) (.agg (E.ex x8))) (wI (first+Bq)) fun iO=>
  kn (Bq,az (az aq (wI (first+root)) (.agg (E.ex x8))) (wI (first+Bq)) (.agg (E.ex x9)))
noncomputable def Br(E:SE)(C:ab)(hi first root:Int)(aq:LV):bz (Int×LV) ((Int×Int×Bool×LV)⊕(Int×Int×Bool×LV)):=fun kn kr=>
 bif decide (((wI ((wI (root*2))+1)):Int)>=hi)then
  kr (.inl (root,wI ((wI (root*2))+1),decide (((wI ((wI (root*2))+1)):Int)>=hi),aq))
 else
  bif decide (((wI ((wI ((wI (root*2))+1))+1)):Int)<hi)then
  aj aq (wI (first+(wI ((wI (root*2))+1)))) fun x1=>
  aj aq (wI ((wI (first+(wI ((wI (root*2))+1))))+1)) fun x2=>
  (C E.cmp (E.ex x1++E.ex x2)).bind fun r3=>
  DP E C hi first root (wI ((wI (root*2))+1)) (decide (((gI r3):Int)<0)) aq (fun(Bq:Int)=>
   ame aq first root Bq C E kr kn)
  else
  DP E C hi first root (wI ((wI (root*2))+1)) false aq (fun(ayZ:Int)=>
   ame aq first root ayZ C E kr kn)
noncomputable def vT(E:SE)(C:ab)(hi first:Int):=un fun root aq=>Br E C hi first root aq bD bE
noncomputable def acw(E:SE)(C:ab)(lo hi first:Int)(aq:LV):Option LV:=
 (Loop (vT E C hi first) (lo,aq)).bind (db (un fun aKh=>un fun aKi=>un fun awr ay0=>
  some [.list E.T ay0]) (un fun aKj=>un fun aKk=>un fun aco acx=>
  some [.list E.T acx]))
end Go.AM
