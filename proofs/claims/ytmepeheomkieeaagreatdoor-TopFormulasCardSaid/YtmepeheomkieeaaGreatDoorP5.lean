/-
  Functions of the program, lifted to plain data.
-/
import Derived.Test.YtmepeheomkieeaaGreatDoorProg
import Derived.Tactics
import Derived.Tactics2
import Derived.StillTactics
import Derived.Laws.Pointers
import Derived.Lib.LazyBuf
import Derived.RegionTactic
import Derived.LoopTactic
import Derived.WalkKit
import Derived.Laws.Externs
import Derived.Lib.Builder
import Derived.Recover
import Derived.Test.YtmepeheomkieeaaGreatDoorRows
import Derived.Lib.LaidTab
import Derived.LaidHandle
import Derived.MakeChecks
import Derived.Lay
import Derived.Test.YtmepeheomkieeaaGreatDoorP4
set_option linter.unusedVariables false
set_option linter.unusedSimpArgs false
set_option linter.unusedSectionVars false
set_option maxRecDepth 100000
namespace Go.AM
open Go.IntKind (wrap)
open Go.Proofs
abbrev dy:FuncId:=194
abbrev mB:TypeId:=243
abbrev vI(n:Int):V:=V.int .i64 n
abbrev dP(l:List V):V:=V.list 81 l
abbrev gG(l:List V):V:=V.list 120 l
abbrev jc(l:List V):V:=V.list 215 l
abbrev cz(l:List V):V:=V.list 88 l
abbrev au(l:List V):V:=V.list 4 l
abbrev mC(l:List V):V:=V.list 105 l
abbrev ab(l:List V):V:=V.list 3 l
abbrev bd(l:List V):V:=V.list 23 l
abbrev aq(l:List V):V:=V.list 22 l
abbrev mD(l:List V):V:=V.list 91 l
abbrev fK(l:List V):V:=V.list 72 l
abbrev eF(l:List V):V:=V.list 183 l
abbrev oQ(l:List V):V:=V.list 114 l
abbrev cq(l:List V):V:=V.list 9 l
abbrev uu(l:List V):V:=V.list 135 l
abbrev jd(l:List V):V:=V.list 112 l
@[simp] abbrev gI (r:List V):=(V.nth r 0).toInt
@[simp] abbrev gL (r:List V):=(V.nth r 0).toList
@[simp] abbrev gB (r:List V):=(V.nth r 0).toBool
@[simp] abbrev gS (r:List V):=(V.nth r 0).toStr
abbrev Bz(x:V):List V:=[V.int .i64 ((x.cell 0).toInt),V.int .i64 ((x.cell 1).toInt),V.int .i64 ((x.cell 2).toInt),V.int .i64 ((x.cell 3).toInt),V.int .i64 ((x.cell 4).toInt),V.int .i64 ((x.cell 5).toInt),V.int .i64 ((x.cell 6).toInt),V.int .i64 ((x.cell 7).toInt),V.int .i64 ((x.cell 8).toInt)]
abbrev oo(i:Int)(v:Bool)(x:V):V:= .agg [.bool (bif Nat.beq (0+((i.toNat)*1)) 0 then v else(x.cell 0).toBool),.bool (bif Nat.beq (0+((i.toNat)*1)) 1 then v else(x.cell 1).toBool),.bool (bif Nat.beq (0+((i.toNat)*1)) 2 then v else(x.cell 2).toBool),.bool (bif Nat.beq (0+((i.toNat)*1)) 3 then v else(x.cell 3).toBool),.bool (bif Nat.beq (0+((i.toNat)*1)) 4 then v else(x.cell 4).toBool),.bool (bif Nat.beq (0+((i.toNat)*1)) 5 then v else(x.cell 5).toBool),.bool (bif Nat.beq (0+((i.toNat)*1)) 6 then v else(x.cell 6).toBool),.bool (bif Nat.beq (0+((i.toNat)*1)) 7 then v else(x.cell 7).toBool),.bool (bif Nat.beq (0+((i.toNat)*1)) 8 then v else(x.cell 8).toBool)]
abbrev asW(i:Int)(v:Int)(x:V):V:= .agg [V.int .i64 (bif Nat.beq (0+((i.toNat)*1)) 0 then v else(x.cell 0).toInt),V.int .i64 (bif Nat.beq (0+((i.toNat)*1)) 1 then v else(x.cell 1).toInt),V.int .i64 (bif Nat.beq (0+((i.toNat)*1)) 2 then v else(x.cell 2).toInt),V.int .i64 (bif Nat.beq (0+((i.toNat)*1)) 3 then v else(x.cell 3).toInt),V.int .i64 (bif Nat.beq (0+((i.toNat)*1)) 4 then v else(x.cell 4).toInt),V.int .i64 (bif Nat.beq (0+((i.toNat)*1)) 5 then v else(x.cell 5).toInt),V.int .i64 (bif Nat.beq (0+((i.toNat)*1)) 6 then v else(x.cell 6).toInt),V.int .i64 (bif Nat.beq (0+((i.toNat)*1)) 7 then v else(x.cell 7).toInt),V.int .i64 (bif Nat.beq (0+((i.toNat)*1)) 8 then v else(x.cell 8).toInt)]
@[simp] abbrev dm (r:List V):=(gI (r.drop 1))
@[simp] abbrev jo (r:List V):=(gI ((r.drop 1).drop 1))
@[simp] abbrev GZ (r:List V):=(gL (((r.drop 1).drop 2).drop 1))
@[simp] abbrev G0 (r:List V):=(gL ((((r.drop 1).drop 2).drop 1).drop 1))
@[simp] abbrev G1 (r:List V):=(gL ((r.drop 1).drop 2))
@[simp] abbrev jT (r:List V):=(gL ((r.drop 1).drop 1))
@[simp] abbrev jq (r:List V):=(gL (r.drop 2))
@[simp] abbrev oR (r:List V):=(gL ((r.drop 2).drop 1))
@[simp] abbrev uv (r:List V):=(gL (((r.drop 2).drop 1).drop 1))
@[simp] abbrev D6 (r:List V):=(gL (((r.drop 2).drop 2).drop 1))
@[simp] abbrev G2 (r:List V):=(gI (r.drop 3))
@[simp] abbrev dw (r:List V):=(gL (r.drop 1))
@[simp] abbrev jr (r:List V):=(gL (((r.drop 1).drop 1).drop 1))
@[simp] abbrev oq (r:List V):=(gL ((((r.drop 1).drop 1).drop 1).drop 1))
@[simp] abbrev Lt (r:List V):=(gL ((((r.drop 3).drop 4).drop 1).drop 1))
@[simp] abbrev Lu (r:List V):=(gL ((r.drop 3).drop 4))
@[simp] abbrev Lv (r:List V):=(gL (((r.drop 3).drop 4).drop 1))
@[simp] abbrev vM (r:List V):=(gL (((((r.drop 1).drop 3).drop 1).drop 1).drop 1))
@[simp] abbrev vN (r:List V):=(gL ((((((r.drop 1).drop 3).drop 1).drop 1).drop 1).drop 1))
@[simp] abbrev mR (r:List V):=(gB ((r.drop 1).drop 1))
@[simp] abbrev uw (r:List V):=(gI (((r.drop 1).drop 1).drop 1))
@[simp] abbrev xP (r:List V):=(gL ((r.drop 1).drop 3))
@[simp] abbrev xQ (r:List V):=(gL (((r.drop 1).drop 3).drop 1))
@[simp] abbrev xR (r:List V):=(gL ((((r.drop 1).drop 3).drop 1).drop 1))
@[simp] abbrev xS (r:List V):=(gL (((((((r.drop 1).drop 3).drop 1).drop 1).drop 1).drop 1).drop 1))
@[simp] abbrev vO (r:List V):=(gL ((((((((r.drop 1).drop 3).drop 1).drop 1).drop 1).drop 1).drop 1).drop 1))
@[simp] abbrev vP (r:List V):=(gL (((((((((r.drop 1).drop 3).drop 1).drop 1).drop 1).drop 1).drop 1).drop 1).drop 1))
@[simp] abbrev xT (r:List V):=(gL ((((((((((r.drop 1).drop 3).drop 1).drop 1).drop 1).drop 1).drop 1).drop 1).drop 1).drop 1))
@[simp] abbrev xU (r:List V):=(gL (((((((((((r.drop 1).drop 3).drop 1).drop 1).drop 1).drop 1).drop 1).drop 1).drop 1).drop 1).drop 1))
@[simp] abbrev lx (r:List V):=(gL ((r.drop 4).drop 1))
@[simp] abbrev BA (r:List V):=(gL (((((r.drop 4).drop 1).drop 1).drop 1).drop 1))
@[simp] abbrev js (r:List V):=(gB (r.drop 1))
@[simp] abbrev Lw (r:List V):=(gL (r.drop 4))
@[simp] abbrev Lx (r:List V):=(gL (((r.drop 4).drop 1).drop 1))
@[simp] abbrev Ly (r:List V):=(gL ((((r.drop 4).drop 1).drop 1).drop 1))
@[simp] abbrev LA (r:List V):=(gL ((((((r.drop 4).drop 1).drop 1).drop 1).drop 1).drop 1))
@[simp] abbrev qR (r:List V):=(gL (((((r.drop 1).drop 1).drop 1).drop 1).drop 1))
@[simp] abbrev sW (r:List V):=(gL ((((((r.drop 1).drop 1).drop 1).drop 1).drop 1).drop 1))
@[simp] abbrev sX (r:List V):=(gL (((((((r.drop 1).drop 1).drop 1).drop 1).drop 1).drop 1).drop 1))
@[simp] abbrev sY (r:List V):=(gL ((((((((r.drop 1).drop 1).drop 1).drop 1).drop 1).drop 1).drop 1).drop 1))
@[simp] abbrev sZ (r:List V):=(gL (((((((((r.drop 1).drop 1).drop 1).drop 1).drop 1).drop 1).drop 1).drop 1).drop 1))
@[simp] abbrev vQ (r:List V):=(gL ((((((((((r.drop 1).drop 1).drop 1).drop 1).drop 1).drop 1).drop 1).drop 1).drop 1).drop 1))
@[simp] abbrev ux (r:List V):=(gL ((r.drop 1).drop 10))
@[simp] abbrev nq (r:List V):=(gL (((r.drop 1).drop 10).drop 1))
@[simp] abbrev s6 (r:List V):=(gL ((((r.drop 1).drop 10).drop 1).drop 1))
@[simp] abbrev vR (r:List V):=(gB (((r.drop 1).drop 1).drop 1))
@[simp] abbrev uy (r:List V):=(gB ((((r.drop 1).drop 1).drop 1).drop 1))
@[simp] abbrev BB (r:List V):=(gB (((((r.drop 1).drop 1).drop 1).drop 1).drop 1))
@[simp] abbrev LB (r:List V):=(gI ((r.drop 2).drop 1))
@[simp] abbrev G3 (r:List V):=(gL ((r.drop 2).drop 2))
abbrev kh(r:List V)(l:List V):List V:=vI (dm r)::aq (jT r)::cq (jr r)::ab (oq r)::au (qR r)::au (sW r)::bd (sX r)::bd (sY r)::bd (sZ r)::ab (vQ r)::l
abbrev vS(r:List V)(l:List V):List V:=vI (gI r)::cz (dw r)::mD (jT r)::mC (jr r)::gG (oq r)::l
abbrev xV(x:V)(l:List V):List V:= .bool ((x.cell 0).toBool):: .bool ((x.cell 1).toBool):: .bool ((x.cell 2).toBool)::vI ((x.cell 3).toInt)::vI ((x.cell 4).toInt)::l
abbrev oS(r:List V)(l:List V):List V:=cz (s6 r)::fK (ux r)::ab (nq r)::l
abbrev D7(r:List V)(l:List V):List V:=vI (gI r)::vI (dm r)::au (jq r)::aq (oR r)::l
abbrev zN(r:List V)(l:List V):List V:=fK (ux r)::ab (nq r)::cz (s6 r)::l
abbrev SG(r:List V)(l:List V):List V:=vI (gI r)::aq (dw r)::cq (jT r)::ab (jr r)::au (oq r)::au (qR r)::l
abbrev G4(r:List V)(l:List V):List V:=cz (dw r)::gG (oq r)::mD (jT r)::mC (jr r)::l
abbrev SH(r:List V)(l:List V):List V:=vI (gI r)::vI (dm r)::ab (jq r)::vI (LB r)::au (G3 r)::aq (D6 r)::l
abbrev ait(r:List V)(l:List V):List V:=vI (dm r):: .bool (mR r)::vI (uw r)::aq (xP r)::eF (xQ r)::aq (xR r)::ab (vM r)::ab (vN r)::aq (xS r)::jc (vO r)::cq (vP r)::ab (xT r)::ab (xU r)::l
abbrev SI(x:V)(l:List V):List V:=vI ((x.cell 0).toInt)::vI ((x.cell 1).toInt)::vI ((x.cell 2).toInt)::vI ((x.cell 3).toInt)::l
abbrev LC(r:List V)(l:List V):List V:=vI (gI r)::vI (dm r)::dP (jT r)::l
abbrev aiu(r:List V):=(gI r,dm r,mR r,uw r,xP r,xR r,vM r,vN r,xS r,vO r,xQ r,vP r,xT r,xU r)
abbrev aiv(r:List V):=(dm r,mR r,uw r,xQ r,xP r,xR r,vM r,vN r,xS r,vO r,vP r,xT r,xU r)
abbrev aiw(r:List V):=(dm r,mR r,uw r,xQ r,xR r,vM r,vN r,xS r,vO r,xP r,vP r,xT r,xU r)
abbrev asX(r:List V):=(xR r,vM r,vN r,xS r,vO r,vP r,xT r,xU r)
abbrev asY(r:List V):=(vP r,xT r,xU r)
abbrev ct{α β:Type}(y:α):Option (α ⊕ β):=some (Sum.inl y)
abbrev cu{α β:Type}(r:β):Option (α ⊕ β):=some (Sum.inr r)
def aN(n k:Nat):List Bool:=(List.range n).map k.testBit
abbrev ay(α β:Type):=α→Option β
abbrev YL:Nat:=233
def SJ:List V:=[.int .u8 0,.int .u8 1,.int .u8 56,.int .u8 2,.int .u8 57,.int .u8 49,.int .u8 28,.int .u8 3,.int .u8 61,.int .u8 58,.int .u8 42,.int .u8 50,.int .u8 38,.int .u8 29,.int .u8 17,.int .u8 4,.int .u8 62,.int .u8 47,.int .u8 59,.int .u8 36,.int .u8 45,.int .u8 43,.int .u8 51,.int .u8 22,.int .u8 53,.int .u8 39,.int .u8 33,.int .u8 30,.int .u8 24,.int .u8 18,.int .u8 12,.int .u8 5,.int .u8 63,.int .u8 55,.int .u8 48,.int .u8 27,.int .u8 60,.int .u8 41,.int .u8 37,.int .u8 16,.int .u8 46,.int .u8 35,.int .u8 44,.int .u8 21,.int .u8 52,.int .u8 32,.int .u8 23,.int .u8 11,.int .u8 54,.int .u8 26,.int .u8 40,.int .u8 15,.int .u8 34,.int .u8 20,.int .u8 31,.int .u8 10,.int .u8 25,.int .u8 14,.int .u8 19,.int .u8 9,.int .u8 13,.int .u8 8,.int .u8 7,.int .u8 6]
abbrev az:=Shape×List (Out×Shape)
abbrev aa:VS:= .one (.int .i64)
abbrev ai:VS:= .one (.bool)
abbrev aT:VS:= .one (.aF 0 0 0)
abbrev cZ:VS:= .one (.list 3)
abbrev mE:VS:= .one (.list 23)
abbrev nr:VS:= .one (.list 4)
abbrev mF:VS:= .one (.whole 3 3)
abbrev gR:VS:= .one (.list 22)
abbrev dc:VS:= .one (.aF 1 0 0)
abbrev di:VS:= .one (.aF 2 0 0)
abbrev eh:VS:= .one (.str)
abbrev c9:VS:= .one (.whole 81 0)
abbrev dj:VS:= .one (.whole 3 0)
abbrev fh:VS:= .one (.int .u64)
abbrev gn:VS:= .one (.list 81)
abbrev xW:VS:= .one (.list 9)
abbrev mU:VS:= .one (.whole 3 4)
abbrev fm:VS:= .one (.list 112)
abbrev SK:VS:= .one (.dt 72 2)
abbrev jU:VS:= .one (.aF 3 0 0)
abbrev LD:VS:= .one (.list 88)
abbrev G5:VS:= .one (.whole 22 5)
abbrev rU:VS:= .one (.whole 22 1)
abbrev asZ:VS:= .one (.whole 163 3)
abbrev D8:VS:= .one (.whole 22 6)
abbrev G6:VS:= .one (.whole 3 10)
abbrev G7:VS:= .one (.whole 22 2)
abbrev D9:VS:= .one (.yV)
abbrev qf:VS:= .one (.aF 4 0 0)
abbrev vT:VS:= .one (.whole 3 6)
abbrev SL:VS:= .one (.whole 4 5)
abbrev LF:VS:= .one (.dt 183 7)
abbrev Ea:VS:= .one (.whole 22 7)
abbrev aix:VS:= .one (.whole 112 4)
abbrev Eb:VS:= .one (.whole 3 2)
abbrev aiy:VS:= .one (.whole 4 4)
abbrev YM:VS:= .one (.whole 4 6)
abbrev zO:VS:= .one (.whole 9 3)
abbrev as0:VS:= .one (.whole 163 4)
abbrev uz:VS:= .one (.list 120)
abbrev s7:VS:= .one (.list 125)
abbrev aiz:VS:= .one (.whole 112 5)
abbrev BD:VS:= .one (.aF 5 0 0)
abbrev YN:VS:= .one (.whole 9 8)
abbrev YO:VS:= .one (.whole 3 9)
abbrev YP:VS:= .one (.whole 22 8)
abbrev LG:VS:= .one (.whole 3 11)
abbrev aiA:VS:= .one (.whole 88 4)
abbrev BE:VS:= .one (.whole 22 12)
abbrev aiB:VS:= .one (.whole 215 6)
abbrev SM:VS:= .one (.whole 22 9)
abbrev xX:VS:= .one (.whole 3 1)
abbrev Ec:VS:= .one (.dt 183 3)
abbrev YQ:VS:= .one (.whole 88 5)
abbrev G8:VS:= .one (.whole 22 13)
abbrev BF:VS:= .one (.list 110)
abbrev aiC:VS:= .one (.whole 88 7)
abbrev LH:VS:= .one (.whole 3 15)
abbrev BG:VS:= .one (.whole 3 5)
abbrev SN:VS:= .one (.whole 81 4)
abbrev Ed:VS:= .one (.whole 114 1)
abbrev as1:VS:= .one (.whole 4 3)
abbrev as2:VS:= .one (.whole 22 4)
abbrev Ee:VS:= .one (.whole 81 1)
abbrev LI:VS:= .one (.whole 3 16)
abbrev as3:VS:= .one (.whole 5 2)
abbrev LJ:VS:= .one (.whole 4 11)
abbrev YR:VS:= .one (.whole 3 20)
abbrev SO:VS:= .one (.whole 22 14)
abbrev YS:VS:= .one (.whole 23 3)
abbrev YT:VS:= .one (.whole 23 4)
abbrev YU:VS:= .one (.whole 23 5)
abbrev YV:VS:= .one (.whole 23 8)
abbrev YW:VS:= .one (.whole 23 9)
abbrev as4:VS:= .one (.whole 88 1)
abbrev aiD:VS:= .one (.dt 91 2)
abbrev aiE:VS:= .one (.whole 105 3)
abbrev aiF:VS:= .one (.whole 120 4)
abbrev YX:VS:= .one (.whole 215 17)
abbrev YY:VS:= .one (.whole 3 14)
abbrev aiG:VS:= .one (.whole 22 18)
abbrev aiH:VS:= .one (.whole 4 22)
abbrev aiI:VS:= .one (.whole 135 7)
abbrev as5:VS:= .one (.whole 23 7)
abbrev as6:VS:= .one (.whole 4 7)
abbrev as7:VS:= .one (.whole 4 8)
abbrev SP:VS:= .one (.whole 22 11)
abbrev SQ:VS:= .one (.whole 81 5)
abbrev aiJ:VS:= .one (.whole 5 1)
abbrev aiK:VS:= .one (.whole 9 19)
abbrev YZ:VS:= .one (.whole 3 17)
abbrev SR:VS:= .one (.whole 22 3)
abbrev LL:VS:= .one (.whole 81 3)
abbrev as8:VS:= .one (.whole 5 3)
abbrev as9:VS:= .one (.whole 88 6)
abbrev G9:VS:= .one (.whole 4 10)
abbrev ata:VS:= .one (.whole 4 21)
abbrev atb:VS:= .one (.whole 9 9)
abbrev atc:VS:= .one (.whole 4 12)
abbrev SS:VS:= .one (.whole 23 6)
abbrev aiL:VS:= .one (.whole 22 10)
abbrev Y0:VS:= .one (.whole 3 12)
abbrev LM:VS:= .one (.whole 81 6)
abbrev aiM:VS:= .one (.whole 3 19)
abbrev aiN:VS:= .one (.whole 3 13)
abbrev aiO:VS:= .one (.whole 3 18)
abbrev Y1:VS:= .one (.whole 81 2)
abbrev atd:VS:= .one (.whole 163 5)
abbrev aiP:VS:= .one (.whole 4 2)
abbrev aiQ:VS:= .one (.nilS 135)
abbrev aiR:VS:= .one (.whole 22 16)
abbrev aiS:VS:= .one (.whole 22 15)
abbrev SU:VS:= .one (.whole 4 1)
abbrev Y2:VS:= .one (.whole 9 0)
abbrev ate:VS:= .one (.whole 120 1)
abbrev atf:VS:= .one (.whole 88 3)
abbrev atg:VS:= .one (.dt 72 5)
abbrev aiT:VS:= .one (.whole 101 3)
abbrev ath:VS:= .one (.dt 91 5)
abbrev ati:VS:= .one (.whole 105 6)
abbrev Y3:VS:= .one (.whole 125 1)
abbrev Y4:VS:= .one (.whole 135 8)
abbrev aiU:VS:= .one (.whole 4 23)
abbrev SV:VS:= .one (.whole 3 7)
abbrev aiV:VS:= .one (.whole 101 1)
abbrev atj:VS:= .one (.whole 4 9)
abbrev aiW:VS:= .one (.dt 208 2)
abbrev aiX:VS:= .one (.whole 22 17)
abbrev aiY:VS:= .one (.whole 215 18)
abbrev aiZ:VS:= .one (.whole 3 21)
abbrev ai0:VS:= .one (.whole 23 0)
abbrev atk:VS:= .one (.whole 9 18)
abbrev atl:VS:= .one (.whole 215 16)
abbrev atm:VS:= .one (.whole 9 17)
abbrev atn:VS:= .one (.whole 215 15)
abbrev ato:VS:= .one (.whole 9 16)
abbrev zP:VS:= .agg [.int .i64,.int .i64,.list 81]
abbrev LN:VS:= .agg [.int .u64,.int .u64]
abbrev SW:VS:= .agg [.int .i64,.int .i64,.list 4,.list 22]
abbrev Y5:VS:= .agg [.int .i64,.list 22,.list 9,.list 3,.list 4,.list 4]
abbrev Ha:VS:= .agg [.list 88,.int .i64]
abbrev Hb:VS:= .agg [.int .i64,.int .i64,.whole 4 0,.whole 22 1]
abbrev ai1:VS:= .agg [.int .i64,.int .i64,.whole 4 1,.whole 22 2]
abbrev LO:VS:= .agg [.int .i64,.int .i64]
abbrev LP:VS:= .agg [.int .i64,.int .i64,.int .i64,.int .i64,.int .i64,.int .i64]
abbrev ai2:VS:= .agg [.bool,.bool,.bool,.bool,.bool,.bool,.bool,.bool,.bool]
abbrev SX:VS:= .agg [.int .i64,.int .i64,.int .i64,.int .i64]
abbrev ai3:VS:= .agg [.bool,.bool,.bool]
abbrev Y6:VS:= .agg [.int .i64,.int .i64,.list 81,.int .i64,.int .i64,.list 81,.bool]
abbrev atp:VS:= .agg [.int .i64,.bool]
abbrev Y7:VS:= .agg [.int .i64,.int .i64,.whole 81 0]
abbrev ai4:BS:= .var 22 [mF]
abbrev xY:BS:= .var 56 [cZ,aa]
abbrev Hc:BS:= .var 166 [asZ]
abbrev ot:BS:= .var 26 [aa,aa,nr,gR]
abbrev Y8:BS:= .var 3 [aa]
abbrev Ef:BS:= .var 81 [aa,aa,gn]
abbrev qg:BS:= .var 39 [LD,aa]
abbrev BH:BS:= .var 88 [aa,aa,aa,aa]
abbrev Hd:BS:= .var 120 [aa,aa,aa,aa,aa,aa]
abbrev Y9:BS:= .var 162 [eh]
abbrev LQ:BS:= .var 26 [aa,aa,SL,D8]
abbrev SY:BS:= .var 166 [as0]
abbrev uA:BS:= .var 33 [aa,gR,xW,cZ,nr,nr]
abbrev Eg:BS:= .var 26 [aa,aa,aiy,G5]
abbrev He:BS:= .var 26 [aa,aa,YM,Ea]
abbrev atq:BS:= .var 185 [aa,ai,rU,G7,mF,mU,G5,aiB,aa,LF,YN,YO,G6]
abbrev atr:BS:= .var 125 [ai,ai,ai,aa,aa,aix]
abbrev ats:BS:= .var 125 [ai,ai,ai,aa,aa,aiz]
abbrev att:BS:= .var 122 [aa,aa]
abbrev ai5:BS:= .var 26 [aa,aa,as1,as2]
abbrev ai6:BS:= .var 121 [ai,ai,ai]
abbrev Za:BS:= .var 4 [ai]
abbrev atu:BS:= .var 74 [aa,gR,xW,cZ,nr,nr,mE,mE,mE,cZ,YQ,SK,mF]
abbrev atv:BS:= .var 74 [aa,gR,xW,cZ,nr,nr,mE,mE,mE,cZ,aiA,SK,mF]
abbrev atw:BS:= .var 238 [D9,as3]
abbrev Zb:BS:= .var 22 [Eb]
abbrev LR:BS:= .var 128 [ai,ai,ai,ai,ai,ai]
abbrev Zc:BS:= .var 22 [LG]
abbrev SZ:BS:= .var 246 [fh]
abbrev atx:BS:= .var 163 [aix]
abbrev aty:BS:= .var 74 [aa,gR,xW,cZ,nr,nr,mE,mE,mE,cZ,as4,SK,mF]
abbrev atz:BS:= .var 70 [YS,YT,YU,vT]
abbrev atA:BS:= .var 70 [as5,YV,YW,G6]
abbrev atB:BS:= .var 74 [aa,gR,xW,cZ,nr,nr,mE,mE,mE,cZ,aiC,SK,mF]
abbrev atC:BS:= .var 70 [mE,mE,mE,cZ]
abbrev Zd:BS:= .var 26 [aa,aa,as6,YP]
abbrev Eh:BS:= .var 26 [aa,aa,as7,SM]
abbrev atD:BS:= .var 238 [D9,as8]
abbrev Ze:BS:= .var 39 [as9,aa]
abbrev Zf:BS:= .var 33 [aa,aiG,aiK,YR,ata,aiH]
abbrev ai7:BS:= .var 62 [rU,aiI,aa]
abbrev ai8:BS:= .var 33 [aa,YP,atb,G6,LJ,atc]
abbrev atE:BS:= .var 166 [atd]
abbrev LU:BS:= .var 232 [aa,aa,SN,aa,aa,SQ,ai]
abbrev atF:BS:= .var 163 [aiz]
abbrev atG:BS:= .var 95 [LD,ate,aiD,aiE]
abbrev atH:BS:= .var 196 [aa,Ee,G7,aa,Ec]
abbrev atI:BS:= .var 238 [D9,aiJ]
abbrev atJ:BS:= .var 95 [LD,aiF,aiD,aiE]
abbrev ai9:BS:= .var 39 [atf,aa]
abbrev aja:BS:= .var 74 [aa,gR,xW,cZ,nr,nr,mE,mE,mE,cZ,aiA,atg,vT]
abbrev atK:BS:= .var 39 [aiC,aa]
abbrev atL:BS:= .var 95 [LD,aiF,ath,ati]
abbrev atM:BS:= .var 97 [aa,aa]
abbrev atN:BS:= .var 62 [G7,aiQ,aa]
abbrev atO:BS:= .var 140 [aa,ai,G8,SO,LH,LI,D8,YX,aa]
abbrev S0:BS:= .var 26 [aa,aa,atj,aiL]
abbrev atP:BS:= .var 196 [aa,SN,G5,aa,Ec]
abbrev S3:BS:= .var 114 [fh,fh]
abbrev atQ:BS:= .var 22 [mU]
abbrev ajb:BS:= .var 26 [aa,aa,aiP,SR]
abbrev atS:BS:= .var 185 [aa,ai,BE,G8,YY,LH,aiR,YX,aa,LF,atk,aiM,YR]
abbrev atT:BS:= .var 185 [aa,ai,SP,BE,aiN,YY,aiS,atl,aa,LF,atm,aiO,aiM]
abbrev atU:BS:= .var 185 [aa,ai,rU,SP,Y0,aiN,SO,atn,aa,LF,ato,YZ,aiO]
abbrev ajc:BS:= .var 140 [aa,ai,BE,G8,YY,LH,aiR,YX,aa]
abbrev ajd:BS:= .var 33 [aa,aiL,.one (.whole 9 11),Y0,.one (.whole 4 13),.one (.whole 4 14)]
abbrev aje:BS:= .var 140 [aa,ai,aiS,SM,LI,YZ,aiG,.one (.whole 215 19),aa]
abbrev ajf:BS:= .var 33 [aa,.one (.whole 22 20),.one (.whole 9 21),.one (.whole 3 22),aiU,.one (.whole 4 24)]
abbrev atV:BS:= .var 140 [aa,ai,G8,SO,LH,LI,aiX,aiY,aa]
abbrev atW:BS:= .var 33 [aa,.one (.whole 22 19),.one (.whole 9 20),aiZ,aiH,aiU]
abbrev atX:BS:= .var 196 [aa,SN,G5,aa,.one (.dt 183 6)]
abbrev atY:BS:= .var 140 [aa,ai,G7,SR,mU,BG,D8,.one (.whole 215 7),aa]
abbrev atZ:BS:= .var 185 [aa,ai,YP,SM,G6,LG,BE,.one (.whole 215 13),aa,.one (.dt 183 14),.one (.whole 9 15),LI,YZ]
abbrev aZ:BS:= .arr 3 false
abbrev cd:BS:= .arr 22 false
abbrev cH:BS:= .arr 4 false
abbrev fC:BS:= .arr 81 false
abbrev qh:BS:= .arr 88 false
abbrev ly:BS:= .arr 9 false
abbrev vU:BS:= .arr 112 false
abbrev qS:BS:= .arr 215 false
abbrev zQ:BS:= .arr 23 false
abbrev Ei:BS:= .arr 5 false
abbrev S4:BS:= .arr 120 false
abbrev Zg:BS:= .arr 105 false
abbrev zR:BS:= .arr 135 false
abbrev ajg:BS:= .arr 114 false
abbrev Ej:BS:= .arr 22 true
abbrev Hf:BS:= .arr 101 false
abbrev S5:BS:= .arr 125 false
abbrev rV:BS:= .nest 163
abbrev ou:BS:= .nest 22
abbrev qT:BS:= .nest 23
abbrev cC:List BS:=[fC]
abbrev dQ:List BS:=[aZ,ai4,.dead,aZ]
abbrev nt:List BS:=[Y8]
abbrev rW:List BS:=[atq,cd,cd,aZ,aZ,cd,qS,.map 183,ly,aZ,aZ]
abbrev s8:List BS:=[aZ]
abbrev uB:List BS:=[BH,ajg]
abbrev uC:List BS:=[Hd,atr,ats,att,vU,vU]
abbrev uD:List BS:=[xY]
abbrev vV:List BS:=[ot]
abbrev vW:List BS:=[atu,.dead,.map 72,aZ,aZ,qh]
abbrev vX:List BS:=[atv,.dead,.map 72,aZ,qh]
abbrev vY:List BS:=[atw,.dead,Ei]
abbrev xZ:List BS:=[Y9,Hc,Ef,rV]
abbrev ya:List BS:=[atx,Hc,.dead,rV,vU]
abbrev yb:List BS:=[aty,qh,.map 72,aZ]
abbrev zS:List BS:=[aZ,Zb,aZ]
abbrev BI:List BS:=[atz,atA,Zc,zQ,zQ,zQ,aZ,qT,qT,qT,aZ,aZ]
abbrev BJ:List BS:=[atB,.dead,.map 72,aZ,atC,aZ,aZ,qh]
abbrev BL:List BS:=[xY,ai5,LQ,cH,cd,cH,ou]
abbrev Ek:List BS:=[atD,.dead,Ef,Ei]
abbrev Hg:List BS:=[xY,Eg,He,aZ,cH,cd,cH,ou]
abbrev Hh:List BS:=[xY,LQ,Zd,ly,aZ,cH,cd,cH,ou]
abbrev Hi:List BS:=[Hd,ai6,ai6,LR]
abbrev Hj:List BS:=[Y9,Y8,Hc,rV]
abbrev Hk:List BS:=[Hc,Ef,SY,rV,rV]
abbrev Hl:List BS:=[Y9,SY,Za,atE,rV,rV]
abbrev LW:List BS:=[.dead,fC]
abbrev LX:List BS:=[Za,atF,SY,.dead,rV,vU]
abbrev LY:List BS:=[atG,S4,.map 91,Zg]
abbrev LZ:List BS:=[atH,fC,cd,.map 183]
abbrev L3:List BS:=[atI,Ei]
abbrev L4:List BS:=[xY,cH,ou]
abbrev L5:List BS:=[atJ,.dead,.map 91,Zg,S4]
abbrev S6:List BS:=[qg,Ze,atK,aZ,BH,cH,qh,qh]
abbrev S7:List BS:=[qg,atL,atM,Hf,S4,.map 91,Zg]
abbrev S8:List BS:=[atN,ot,ou]
abbrev S9:List BS:=[ai7,Ej,.dead,ai8,atO,Zf,cd,zR,cd,ly,aZ,cH,cH,cd,cd,aZ,aZ,qS,ou,ly,aZ,cH,cH]
abbrev Ta:List BS:=[uA,ai5,LQ,cH,cd,cH,ou]
abbrev Td:List BS:=[atP,.dead,.dead,.map 183,fC,cd]
abbrev Te:List BS:=[Eg,He,aZ,aZ,cH,cd,cH,cd]
abbrev Tf:List BS:=[aZ,atQ,.dead,SZ,aZ]
abbrev Tg:List BS:=[ai4,.dead,Y8,aZ]
abbrev Th:List BS:=[fC,SZ]
abbrev Zh:List BS:=[atS,.dead,.dead,.dead,.dead,.dead,.dead,.map 183,.dead,.dead,.dead,aZ,cd,cd,aZ,aZ,cd,qS,ly,aZ,aZ]
abbrev Zi:List BS:=[atT,.dead,.dead,.dead,.dead,.dead,.dead,.map 183,.dead,.dead,.dead,cd,cd,aZ,aZ,cd,qS,ly,aZ,aZ]
abbrev Zj:List BS:=[atU,cd,.dead,.dead,.dead,.dead,.dead,.map 183,.dead,.dead,.dead,cd,aZ,aZ,cd,qS,ly,aZ,aZ]
abbrev ajh:List BS:=[uA,ai9,aja,qh,qh,.map 72,aZ]
abbrev aji:List BS:=[ai9,aja,aZ,qh,qh,.map 72,aZ]
abbrev ajj:List BS:=[ai7,Ej,.dead,ai8,atV,atW,qT,zR,cd,ly,aZ,cH,cH,cd,cd,aZ,aZ,cd,qS,ou,ly,aZ,cH,cH]
abbrev ajk:List BS:=[ajb,atX,cH,cd,fC,cd,.map 183]
abbrev ajl:List BS:=[xY,Eg,He,ly,cH,cd,cH,ou]
abbrev ajm:List BS:=[He,aZ,Eh,aZ,aZ,aZ,cH,cd,cH,cd]
abbrev ajn:List BS:=[atY,atZ,cd,cd,aZ,aZ,cd,qS,cd,cd,aZ,aZ,cd,qS,.map 183,ly,aZ,aZ]
abbrev dG:List (Nat×VS):=[(0,aa)]
abbrev fD:List (Nat×VS):=[(0,ai)]
abbrev pB:List (Nat×VS):=[(0,zP)]
abbrev s9:List (Nat×VS):=[(0,aT)]
abbrev vZ:List (Nat×VS):=[(0,aT),(1,aa),(2,aa)]
abbrev BM:List (Nat×VS):=[(0,fh)]
abbrev El:List (Nat×VS):=[(0,zP),(1,aa)]
abbrev Em:List (Nat×VS):=[(0,aa),(1,aa)]
abbrev Hm:List (Nat×VS):=[(2,aa)]
abbrev Hn:List (Nat×VS):=[(4,aa)]
abbrev Ho:List (Nat×VS):=[(4,ai)]
abbrev Hp:List (Nat×VS):=[(0,SW)]
abbrev Hq:List (Nat×VS):=[(0,aT),(1,aa)]
abbrev Hr:List (Nat×VS):=[(0,c9)]
abbrev L7:List (Nat×VS):=[(1,BF),(2,eh),(3,aT),(7,Ed),(15,aa),(16,aa)]
abbrev L8:List (Nat×VS):=[(0,Y5)]
abbrev L9:List (Nat×VS):=[(0,ai1)]
abbrev Ma:List (Nat×VS):=[(0,LN)]
abbrev Ti:List (Nat×VS):=[(0,cZ),(1,aa)]
abbrev Zk:List (Nat×VS):=[(0,cZ),(1,cZ)]
abbrev Zl:List (Nat×VS):=[(0,aa),(1,gn)]
abbrev Zm:List (Nat×VS):=[(0,LN),(1,LN)]
abbrev Zn:List (Nat×VS):=[(0,atp),(1,zP)]
abbrev ajo:List (Nat×VS):=[(1,aT),(2,dc),(5,di),(6,mF),(7,aa),(9,qf),(21,SL),(22,aa),(23,aa)]
abbrev ajp:List (Nat×VS):=[(0,aT),(1,aa),(2,cZ),(7,gR),(8,qf),(9,BG),(10,vT),(12,aa),(30,cZ),(31,aa),(32,aa),(40,cZ),(41,aa),(42,aa)]
abbrev ajq:List (Nat×VS):=[(1,s7),(2,eh),(3,aT),(6,dc),(7,di),(8,aa),(9,jU)]
abbrev ajr:List (Nat×VS):=[(1,s7),(2,eh),(3,aT),(6,dc),(7,di),(8,aa),(9,jU),(10,fh),(11,aa),(13,fh),(49,aa),(50,aa),(54,aa),(55,aa)]
abbrev ajs:List (Nat×VS):=[(0,aT),(1,aa),(6,dc),(7,di),(8,aa),(9,aa)]
abbrev ajt:List (Nat×VS):=[(0,aT),(1,aa),(7,aiJ),(8,aa)]
def Zo:az:=(⟨ajt,[xY,Ei]⟩,[(.exit 0,⟨ajt++[(14,ai)],[xY,Ei]⟩)])
abbrev aju:List (Nat×VS):=[(1,aT),(2,dc),(8,di),(57,cZ),(58,aa),(59,aa)]
def Zp:az:=(⟨aju,ajh⟩,[(.exit 0,⟨aju++[(60,ai)],ajh⟩)])
abbrev ajv:List (Nat×VS):=[(2,aT),(8,dc),(11,Eb),(93,nr),(94,aa),(95,aa)]
def Zq:az:=(⟨ajv,aji⟩,[(.exit 2,⟨ajv++[(96,ai)],aji⟩)])
abbrev ajw:List (Nat×VS):=[(1,aT),(3,aa),(4,aa),(10,aa),(11,aa)]
def Zr:az:=(⟨ajw,[uA]⟩,[(.exit 2,⟨ajw++[(24,ai)],[uA]⟩)])
abbrev ajx:List (Nat×VS):=[(1,aT),(10,aa),(11,aa)]
def Zs:az:=(⟨ajx,[uA]⟩,[(.ret,⟨[(2,ai)],[]⟩),(.exit 0,⟨ajx++[(12,ai)],[uA]⟩)])
def Zt:az:=(⟨[(1,aT),(2,dc),(5,di),(6,mF),(7,aa),(9,qf),(21,SL),(22,aa),(23,aa),(38,ai)],S6⟩,[(.norm,⟨ajo,S6⟩)])
def Zu:az:=(⟨[(1,aT),(2,dc),(5,di),(6,mF),(7,aa),(9,qf),(21,SL),(22,aa),(23,aa),(48,ai)],S6⟩,[(.norm,⟨ajo,S6⟩)])
abbrev ajy:List (Nat×VS):=[(1,aT),(2,dc),(5,di),(6,mF),(21,aiy),(22,aa),(23,aa)]
def Zv:az:=(⟨ajy,[qg,.var 39 [YQ,aa],Ze,aZ,cH,qh,qh]⟩,[(.exit 0,⟨ajy++[(24,ai)],[qg,.var 39 [YQ,aa],Ze,aZ,cH,qh,qh]⟩)])
abbrev ajz:List (Nat×VS):=[(2,aT),(8,dc),(9,di),(10,aiT),(11,aa),(45,aa),(46,aa),(52,ai2),(53,aa)]
def Zw:az:=(⟨ajz,S7⟩,[(.exit 2,⟨ajz++[(54,ai)],S7⟩)])
abbrev ajA:List (Nat×VS):=[(2,aT),(8,dc),(9,di),(10,aiT),(45,aa),(46,aa)]
def Zx:az:=(⟨ajA,S7⟩,[(.exit 0,⟨ajA++[(47,ai)],S7⟩)])
abbrev ajB:List (Nat×VS):=[(1,eh),(2,aT),(5,.one (.whole 110 1)),(26,aiP),(27,aa),(28,aa)]
def Zy:az:=(⟨ajB,[qg,.nest 110,cH]⟩,[(.exit 0,⟨ajB++[(29,ai)],[qg,.nest 110,cH]⟩)])
def Zz:az:=(⟨[(1,aa),(2,eh),(7,dj),(8,Y3),(9,aa),(10,di),(11,jU),(35,uz),(36,aa),(37,aa),(67,ai)],[aZ,S5,Hd,LR]⟩,[(.norm,⟨[(1,aa),(2,eh),(7,dj),(8,Y3),(9,aa),(10,di),(11,jU),(35,uz),(36,aa),(37,aa)],[aZ,S5,Hd,LR]⟩)])
abbrev ajC:List (Nat×VS):=[(1,aa),(2,eh),(7,dj),(8,Y3),(35,uz),(36,aa),(37,aa)]
def ZA:az:=(⟨ajC,[aZ,S5]⟩,[(.exit 0,⟨ajC++[(38,ai)],[aZ,S5]⟩)])
abbrev ajD:List (Nat×VS):=[(1,aT),(3,aa),(38,gR),(39,aa),(40,aa),(49,cZ),(50,aa),(51,aa)]
def ZB:az:=(⟨ajD,vV⟩,[(.ret,⟨Hm,[]⟩),(.exit 2,⟨ajD++[(52,ai)],vV⟩)])
abbrev ajE:List (Nat×VS):=[(1,aT),(3,aa),(38,gR),(39,aa),(40,aa)]
def ZC:az:=(⟨ajE,vV⟩,[(.ret,⟨Hm,[]⟩),(.exit 0,⟨ajE++[(41,ai)],vV⟩)])
abbrev ajF:List (Nat×VS):=[(0,aT),(3,dc),(5,aa),(6,aa),(33,aa),(34,aa),(37,aa),(38,aa)]
def ZD:az:=(⟨ajF,S8⟩,[(.exit 2,⟨ajF++[(39,ai)],S8⟩)])
abbrev ajG:List (Nat×VS):=[(0,aT),(3,dc),(5,aa),(33,aa),(34,aa)]
def ZE:az:=(⟨ajG,S8⟩,[(.exit 0,⟨ajG++[(35,ai)],S8⟩)])
abbrev ajH:List (Nat×VS):=[(0,aT),(2,jU),(5,qf),(7,aa),(8,BD),(9,aa)]
def ZF:az:=(⟨ajH,[.var 62 [rU,.one (.whole 135 6),aa],Ej,.dead,.var 33 [aa,Ea,YN,YO,G9,LJ],ajc,Zf,zR,cd,ly,aZ,cH,cH,cd,cd,aZ,aZ,cd,qS,ou,ly,aZ,cH,cH]⟩,[(.exit 0,⟨ajH++[(55,ai)],[.var 62 [rU,.one (.whole 135 6),aa],Ej,.dead,.var 33 [aa,Ea,YN,YO,G9,LJ],ajc,Zf,zR,cd,ly,aZ,cH,cH,cd,cd,aZ,aZ,cd,qS,ou,ly,aZ,cH,cH]⟩)])
abbrev ajI:List (Nat×VS):=[(0,aT),(2,jU),(5,qf),(7,aa),(8,BD),(10,aa),(12,aa),(86,D8),(87,aa),(88,aa)]
def ZG:az:=(⟨ajI,S9⟩,[(.exit 4,⟨ajI++[(119,ai)],S9⟩)])
abbrev ajJ:List (Nat×VS):=[(0,aT),(2,jU),(5,qf),(7,aa),(8,BD),(86,D8),(87,aa),(88,aa)]
def ZH:az:=(⟨ajJ,S9⟩,[(.exit 2,⟨ajJ++[(89,ai)],S9⟩)])
abbrev ajK:List (Nat×VS):=[(2,jU),(5,qf),(7,aa),(8,BD),(13,SS),(14,aa),(15,.one (.aF 7 0 0)),(162,Y4),(163,aa),(164,aa),(175,SM),(176,aa),(177,aa)]
def ZI:az:=(⟨ajK,[.var 62 [rU,Y4,aa],Ej,.dead,ajd,aje,ajf,qT,.var 135 [aa,nr,aa],zR,cd,cd,ly,aZ,cH,cH,cd,aZ,aZ,cd,qS,ou,ly,aZ,cH,cH]⟩,[(.exit 8,⟨ajK++[(178,ai)],[.var 62 [rU,Y4,aa],Ej,.dead,ajd,aje,ajf,qT,.var 135 [aa,nr,aa],zR,cd,cd,ly,aZ,cH,cH,cd,aZ,aZ,cd,qS,ou,ly,aZ,cH,cH]⟩)])
abbrev ajL:List (Nat×VS):=[(2,jU),(5,qf),(7,aa),(8,BD),(13,SS),(162,aiI),(163,aa),(164,aa)]
def ZJ:az:=(⟨ajL,ajj⟩,[(.exit 6,⟨ajL++[(165,ai)],ajj⟩)])
abbrev ajM:List (Nat×VS):=[(1,aT),(3,dc),(28,gR),(29,aa),(30,aa)]
def ZK:az:=(⟨ajM,[uA,uA]⟩,[(.ret,⟨Hm,[]⟩),(.exit 0,⟨ajM++[(31,ai)],[uA,uA]⟩)])
abbrev ajN:List (Nat×VS):=[(0,gR),(2,aT),(3,aa),(4,dc),(5,di),(6,aa),(25,aa),(26,aa),(34,aa),(35,aa)]
def ZL:az:=(⟨ajN,BI⟩,[(.exit 2,⟨ajN++[(36,ai)],BI⟩)])
abbrev ajO:List (Nat×VS):=[(0,gR),(2,aT),(3,aa),(4,dc),(5,di),(6,aa),(8,aa),(25,aa),(26,aa),(65,aa),(66,aa),(78,aa),(79,aa)]
def ZM:az:=(⟨ajO,BI⟩,[(.exit 6,⟨ajO++[(80,ai)],BI⟩)])
abbrev ajP:List (Nat×VS):=[(0,gR),(2,aT),(3,aa),(4,dc),(5,di),(6,aa),(25,aa),(26,aa),(65,aa),(66,aa)]
def ZN:az:=(⟨ajP,BI⟩,[(.exit 4,⟨ajP++[(67,ai)],BI⟩)])
def ZO:az:=(⟨[(0,gR),(2,aT),(3,aa),(4,dc),(5,di),(6,aa),(25,aa),(26,aa),(101,.one (.row 4 3 [0])),(102,aa),(103,aa)],[.var 70 [YT,YU,SS,SV],.var 70 [YV,YW,YS,G6],Zc,qT,zQ,zQ,zQ,aZ,qT,qT,aZ,aZ]⟩,[(.exit 8,⟨[(0,gR),(2,aT),(3,aa),(4,dc),(5,di),(6,aa),(25,aa),(26,aa),(101,.one (.row 4 3 [0])),(102,aa),(103,aa),(104,ai)],[.var 70 [YT,YU,SS,SV],.var 70 [YV,YW,YS,G6],Zc,qT,zQ,zQ,zQ,aZ,qT,qT,aZ,aZ]⟩)])
abbrev ajQ:List (Nat×VS):=[(0,gR),(2,aT),(3,aa),(4,dc),(5,di),(25,aa),(26,aa)]
def ZP:az:=(⟨ajQ,BI⟩,[(.exit 0,⟨ajQ++[(27,ai)],BI⟩)])
abbrev ajR:List (Nat×VS):=[(0,aT),(1,aa),(5,mU),(12,cZ),(13,aa),(14,aa)]
def ZQ:az:=(⟨ajR,vW⟩,[(.exit 0,⟨ajR++[(15,ai)],vW⟩)])
def ZR:az:=(⟨[(0,aT),(1,aa),(2,cZ),(7,gR),(8,qf),(9,BG),(10,vT),(12,aa),(13,aa),(16,aa),(30,cZ),(31,aa),(32,aa),(40,cZ),(41,aa),(42,aa),(89,ai)],BJ⟩,[(.norm,⟨[(0,aT),(1,aa),(2,cZ),(7,gR),(8,qf),(9,BG),(10,vT),(12,aa),(13,aa),(16,aa),(30,cZ),(31,aa),(32,aa),(40,cZ),(41,aa),(42,aa)],BJ⟩)])
def ZS:az:=(⟨[(0,aT),(1,aa),(2,cZ),(7,gR),(8,qf),(9,BG),(10,vT),(12,aa),(13,aa),(30,cZ),(31,aa),(32,aa),(40,cZ),(41,aa),(42,aa),(133,ai)],BJ⟩,[(.norm,⟨ajp,BJ⟩)])
def ZT:az:=(⟨ajp,BJ⟩,[(.exit 2,⟨[(0,aT),(1,aa),(2,cZ),(7,gR),(8,qf),(9,BG),(10,vT),(12,aa),(30,cZ),(31,aa),(32,aa),(40,cZ),(41,aa),(42,aa),(43,ai)],BJ⟩)])
abbrev ajS:List (Nat×VS):=[(0,aT),(1,aa),(2,cZ),(7,gR),(8,qf),(9,BG),(10,vT),(30,cZ),(31,aa),(32,aa)]
def ZU:az:=(⟨ajS,BJ⟩,[(.exit 0,⟨ajS++[(33,ai)],BJ⟩)])
abbrev ajT:List (Nat×VS):=[(0,aT),(5,aa),(18,cZ),(19,aa),(20,aa)]
def ZV:az:=(⟨ajT,vX⟩,[(.exit 0,⟨ajT++[(21,ai)],vX⟩)])
def ZW:az:=(⟨[(4,aT),(7,dc)],ajk⟩,[(.ret,⟨[(4,aT),(5,aa)],[.var 26 [aa,aa,SU,G7],cH,cd]⟩),(.exit 0,⟨[(4,aT),(7,dc),(22,ai)],ajk⟩)])
abbrev ajU:List (Nat×VS):=[(1,aa),(2,aT),(18,LD),(19,aa),(20,aa)]
def ZX:az:=(⟨ajU,[qg]⟩,[(.ret,⟨Hn,[]⟩),(.exit 0,⟨ajU++[(21,ai)],[qg]⟩)])
def ZY:az:=(⟨[(1,aT),(3,SU),(4,aa),(5,di),(33,ai)],[qg,cH,BH]⟩,[(.norm,⟨[(1,aT),(3,SU),(4,aa),(5,di)],[qg,cH,BH]⟩)])
abbrev ajV:List (Nat×VS):=[(1,aT),(3,SU),(4,aa)]
def ZZ:az:=(⟨ajV,[qg,cH]⟩,[(.exit 0,⟨ajV++[(17,ai)],[qg,cH]⟩)])
abbrev ajW:List (Nat×VS):=[(2,aT),(5,aiV),(6,aa),(7,di),(36,ai2),(37,aa)]
def Z0:az:=(⟨ajW,[qg,Hf,BH]⟩,[(.exit 2,⟨ajW++[(38,ai)],[qg,Hf,BH]⟩)])
abbrev ajX:List (Nat×VS):=[(2,aT),(5,aiV),(6,aa)]
def Z1:az:=(⟨ajX,[qg,Hf]⟩,[(.exit 0,⟨ajX++[(25,ai)],[qg,Hf]⟩)])
abbrev ajY:List (Nat×VS):=[(1,aa),(2,eh),(3,aT),(30,aa),(31,aa)]
def Z2:az:=(⟨ajY,vV⟩,[(.exit 0,⟨ajY++[(32,ai)],vV⟩)])
abbrev ajZ:List (Nat×VS):=[(0,eh),(1,aa),(18,aa),(19,aa)]
def Z3:az:=(⟨ajZ,[]⟩,[(.ret,⟨Ho,[]⟩),(.exit 0,⟨ajZ++[(20,ai)],[]⟩)])
abbrev aj0:List (Nat×VS):=[(1,BF),(2,eh),(3,aT),(7,Ed),(8,aa),(9,aa),(15,aa),(16,aa)]
def Z4:az:=(⟨aj0,uB⟩,[(.exit 3,⟨aj0++[(117,ai)],uB⟩)])
def Z5:az:=(⟨[(1,BF),(2,eh),(3,aT),(7,Ed),(8,aa),(15,aa),(16,aa),(20,aa),(67,ai)],uB⟩,[(.norm,⟨L7,uB⟩)])
def Z6:az:=(⟨[(1,BF),(2,eh),(3,aT),(7,Ed),(8,aa),(15,aa),(16,aa),(20,aa),(58,ai)],uB⟩,[(.norm,⟨L7,uB⟩)])
def Z7:az:=(⟨[(1,BF),(2,eh),(3,aT),(7,Ed),(8,aa),(15,aa),(16,aa),(20,aa),(32,ai)],uB⟩,[(.norm,⟨L7,uB⟩)])
def Z8:az:=(⟨[(1,BF),(2,eh),(3,aT),(7,Ed),(8,aa),(15,aa),(16,aa),(20,aa),(21,ai)],uB⟩,[(.norm,⟨L7,uB⟩)])
def Z9:az:=(⟨L7,uB⟩,[(.exit 0,⟨[(1,BF),(2,eh),(3,aT),(7,Ed),(15,aa),(16,aa),(17,ai)],uB⟩)])
abbrev aj1:List (Nat×VS):=[(0,uz),(1,aa),(2,aa),(19,uz),(20,aa),(21,aa)]
def aaa:az:=(⟨aj1,[]⟩,[(.ret,⟨[(6,aa)],[]⟩),(.exit 0,⟨aj1++[(22,ai)],[]⟩)])
abbrev aj2:List (Nat×VS):=[(0,uz),(1,aa),(5,dj),(13,aa),(14,aa)]
def aab:az:=(⟨aj2,s8⟩,[(.exit 0,⟨aj2++[(15,ai)],s8⟩)])
def aac:az:=(⟨[(0,uz),(5,dj),(7,aa),(8,dc),(42,ai)],[aZ,LR]⟩,[(.norm,⟨[(0,uz),(5,dj),(7,aa),(8,dc)],[aZ,LR]⟩)])
abbrev aj3:List (Nat×VS):=[(0,uz),(5,dj),(7,aa)]
def aad:az:=(⟨aj3,s8⟩,[(.exit 2,⟨aj3++[(27,ai)],s8⟩)])
def aae:az:=(⟨[(1,s7),(2,eh),(3,aT),(6,dc),(7,di),(8,aa),(9,jU),(24,ai)],uC⟩,[(.norm,⟨ajq,uC⟩)])
def aaf:az:=(⟨[(1,s7),(2,eh),(3,aT),(6,dc),(7,di),(8,aa),(9,jU),(31,ai)],uC⟩,[(.norm,⟨ajq,uC⟩)])
def aag:az:=(⟨[(1,s7),(2,eh),(3,aT),(6,dc),(7,di),(8,aa),(9,jU),(10,fh),(11,aa),(12,aa),(13,fh),(49,aa),(50,aa),(54,aa),(55,aa),(59,aa),(71,ai)],uC⟩,[(.norm,⟨ajr,uC⟩)])
def aah:az:=(⟨[(1,s7),(2,eh),(3,aT),(6,dc),(7,di),(8,aa),(9,jU),(10,fh),(11,aa),(12,aa),(13,fh),(49,aa),(50,aa),(54,aa),(55,aa),(59,aa),(60,ai)],uC⟩,[(.norm,⟨ajr,uC⟩)])
abbrev aj4:List (Nat×VS):=[(1,s7),(2,eh),(3,aT),(6,dc),(7,di),(8,aa),(9,jU),(10,fh),(11,aa),(49,aa),(50,aa),(54,aa),(55,aa)]
def aai:az:=(⟨aj4,uC⟩,[(.exit 2,⟨aj4++[(56,ai)],uC⟩)])
abbrev aj5:List (Nat×VS):=[(1,s7),(2,eh),(3,aT),(6,dc),(7,di),(8,aa),(9,jU),(10,fh),(49,aa),(50,aa)]
def aaj:az:=(⟨aj5,uC⟩,[(.exit 0,⟨aj5++[(51,ai)],uC⟩)])
def aak:az:=(⟨[(6,dc),(7,di),(8,aa),(17,aa),(18,aa),(25,.one (.row 3 3 [0])),(26,aa),(27,aa)],[xY,Eg,.var 26 [aa,aa,YM,SR],ou,cH,cd,cH]⟩,[(.exit 2,⟨[(6,dc),(7,di),(8,aa),(17,aa),(18,aa),(25,.one (.row 3 3 [0])),(26,aa),(27,aa),(28,ai)],[xY,Eg,.var 26 [aa,aa,YM,SR],ou,cH,cd,cH]⟩)])
abbrev aj6:List (Nat×VS):=[(6,dc),(7,di),(17,aa),(18,aa)]
def aal:az:=(⟨aj6,BL⟩,[(.exit 0,⟨aj6++[(19,ai)],BL⟩)])
def aam:az:=(⟨ajs,BL⟩,[(.exit 0,⟨[(0,aT),(1,aa),(6,dc),(7,di),(8,aa),(9,aa),(27,ai)],BL⟩)])
abbrev aj7:List (Nat×VS):=[(0,aT),(1,aa),(6,dc),(7,di),(8,aa),(10,aa),(11,mF),(12,aa)]
def aan:az:=(⟨aj7,Hg⟩,[(.exit 4,⟨aj7++[(52,ai)],Hg⟩)])
abbrev aj8:List (Nat×VS):=[(0,aT),(1,aa),(6,dc),(7,di),(8,aa),(10,aa),(11,mF),(13,aa)]
def aao:az:=(⟨aj8,Hg⟩,[(.exit 6,⟨aj8++[(61,ai)],Hg⟩)])
abbrev aj9:List (Nat×VS):=[(0,aT),(1,aa),(6,dc),(7,di),(8,aa),(10,aa)]
def aap:az:=(⟨aj9,BL⟩,[(.exit 2,⟨aj9++[(47,ai)],BL⟩)])
abbrev aka:List (Nat×VS):=[(0,aT),(1,aa),(4,dc),(5,di),(6,zO),(8,eh),(9,mU),(10,aa),(11,eh),(12,aa),(22,zO),(23,aa),(24,aa),(50,zO),(51,aa),(52,aa)]
def aaq:az:=(⟨aka,Hh⟩,[(.exit 6,⟨aka++[(53,ai)],Hh⟩)])
abbrev akb:List (Nat×VS):=[(0,aT),(1,aa),(4,dc),(5,di),(6,zO),(8,eh),(9,mU),(10,aa),(11,eh),(12,aa),(22,zO),(23,aa),(24,aa)]
def aar:az:=(⟨akb,Hh⟩,[(.exit 4,⟨akb++[(49,ai)],Hh⟩)])
abbrev akc:List (Nat×VS):=[(0,aT),(1,aa),(4,dc),(5,di),(6,zO),(8,eh),(9,mU),(10,aa),(22,zO),(23,aa),(24,aa)]
def aas:az:=(⟨akc,Hh⟩,[(.exit 2,⟨akc++[(38,ai)],Hh⟩)])
abbrev akd:List (Nat×VS):=[(0,aT),(1,aa),(4,dc),(5,di),(6,zO),(22,zO),(23,aa),(24,aa)]
def aat:az:=(⟨akd,ajl⟩,[(.exit 0,⟨akd++[(25,ai)],ajl⟩)])
abbrev ake:List (Nat×VS):=[(0,aT),(1,aa),(6,dc),(7,di),(8,aa),(9,aa),(10,mF),(11,aa)]
def aau:az:=(⟨ake,Hg⟩,[(.exit 2,⟨ake++[(37,ai)],Hg⟩)])
def aav:az:=(⟨ajs,BL⟩,[(.exit 0,⟨[(0,aT),(1,aa),(6,dc),(7,di),(8,aa),(9,aa),(24,ai)],BL⟩)])
abbrev akf:List (Nat×VS):=[(1,aT),(2,dc),(4,di),(5,mF),(6,mU),(7,BD),(8,aa),(10,vT),(28,mU),(29,aa),(30,aa),(47,cZ),(48,aa),(49,aa)]
def aaw:az:=(⟨akf,[ot,Zd,S0,aZ,aZ,.var 26 [aa,aa,LJ,BE],aZ,cH,cd,cH,cd,cH,cd]⟩,[(.exit 2,⟨akf++[(50,ai)],[ot,Zd,S0,aZ,aZ,.var 26 [aa,aa,LJ,BE],aZ,cH,cd,cH,cd,cH,cd]⟩)])
abbrev akg:List (Nat×VS):=[(1,aT),(2,dc),(4,di),(5,mF),(6,mU),(7,BD),(28,mU),(29,aa),(30,aa)]
def aax:az:=(⟨akg,[ot,He,Eh,aZ,aZ,.var 26 [aa,aa,G9,SP],cH,cd,cH,cd,cH,cd]⟩,[(.exit 0,⟨akg++[(31,ai)],[ot,He,Eh,aZ,aZ,.var 26 [aa,aa,G9,SP],cH,cd,cH,cd,cH,cd]⟩)])
abbrev akh:List (Nat×VS):=[(2,aT),(6,xX),(13,di),(14,mF),(15,mU),(87,BG),(88,aa),(89,aa)]
def aay:az:=(⟨akh,ajm⟩,[(.exit 4,⟨akh++[(90,ai)],ajm⟩)])
def aaz:az:=(⟨[(4,aT),(6,dc)],ajn⟩,[(.ret,⟨[(4,aT),(5,aa)],[.var 140 [aa,ai,rU,G7,mF,mU,G5,aiB,aa],cd,cd,aZ,aZ,cd,qS]⟩),(.exit 0,⟨[(4,aT),(6,dc),(21,ai)],ajn⟩)])
abbrev aki:List (Nat×VS):=[(1,aT),(3,aa),(53,gR),(54,aa),(55,aa)]
def aaA:az:=(⟨aki,[uA]⟩,[(.ret,⟨[(2,ai)],[]⟩),(.exit 0,⟨aki++[(56,ai)],[uA]⟩)])
abbrev akj:List (Nat×VS):=[(1,aT),(2,dc),(3,di),(4,aa),(5,cZ),(19,gR),(20,aa),(21,aa),(34,cZ),(35,aa),(36,aa)]
def aaB:az:=(⟨akj,Ta⟩,[(.exit 2,⟨akj++[(37,ai)],Ta⟩)])
abbrev akk:List (Nat×VS):=[(1,aT),(2,dc),(3,di),(19,gR),(20,aa),(21,aa)]
def aaC:az:=(⟨akk,Ta⟩,[(.exit 0,⟨akk++[(22,ai)],Ta⟩)])
abbrev akl:List (Nat×VS):=[(0,cZ),(1,cZ),(12,aa),(13,aa)]
def aaD:az:=(⟨akl,[]⟩,[(.ret,⟨Ho,[]⟩),(.exit 0,⟨akl++[(14,ai)],[]⟩)])
abbrev akm:List (Nat×VS):=[(0,xW),(1,xW),(12,aa),(13,aa)]
def aaE:az:=(⟨akm,[]⟩,[(.ret,⟨Ho,[]⟩),(.exit 0,⟨akm++[(14,ai)],[]⟩)])
abbrev akn:List (Nat×VS):=[(0,nr),(1,nr),(12,aa),(13,aa)]
def aaF:az:=(⟨akn,[]⟩,[(.ret,⟨Ho,[]⟩),(.exit 0,⟨akn++[(14,ai)],[]⟩)])
abbrev ako:List (Nat×VS):=[(0,aa),(3,ai0),(8,aa),(9,aa)]
def aaG:az:=(⟨ako,[qT]⟩,[(.exit 0,⟨ako++[(10,ai)],[qT]⟩)])
abbrev akp:List (Nat×VS):=[(3,aa),(6,cZ),(7,aa),(8,aa)]
def aaH:az:=(⟨akp,[]⟩,[(.ret,⟨Hm,[]⟩),(.exit 0,⟨akp++[(9,ai)],[]⟩)])
abbrev akq:List (Nat×VS):=[(0,aT),(1,aa),(2,cZ),(7,gR),(8,mE),(9,mU),(34,cZ),(35,aa),(36,aa)]
def aaI:az:=(⟨akq,vW⟩,[(.exit 0,⟨akq++[(37,ai)],vW⟩)])
abbrev akr:List (Nat×VS):=[(0,aT),(1,aa),(7,gR),(8,mE),(9,mU),(13,aa),(14,aa),(15,aa),(56,cZ),(57,aa),(58,aa),(66,cZ),(67,aa),(68,aa),(77,cZ),(78,aa),(79,aa)]
def aaJ:az:=(⟨akr,vW⟩,[(.exit 6,⟨akr++[(80,ai)],vW⟩)])
abbrev aks:List (Nat×VS):=[(0,aT),(1,aa),(7,gR),(8,mE),(9,mU),(13,aa),(56,cZ),(57,aa),(58,aa),(66,cZ),(67,aa),(68,aa)]
def aaK:az:=(⟨aks,vW⟩,[(.exit 4,⟨aks++[(69,ai)],vW⟩)])
abbrev akt:List (Nat×VS):=[(0,aT),(1,aa),(7,gR),(8,mE),(9,mU),(56,cZ),(57,aa),(58,aa)]
def aaL:az:=(⟨akt,vW⟩,[(.exit 2,⟨akt++[(59,ai)],vW⟩)])
abbrev aku:List (Nat×VS):=[(0,aT),(3,mU),(16,aa),(17,aa)]
def aaM:az:=(⟨aku,[.var 196 [aa,SQ,D8,aa,Ec],.dead,.dead,.map 183,aZ,fC,cd]⟩,[(.ret,⟨Hm,Td⟩),(.exit 0,⟨aku++[(18,ai)],[.var 196 [aa,SQ,D8,aa,Ec],.dead,.dead,.map 183,aZ,fC,cd]⟩)])
abbrev akv:List (Nat×VS):=[(2,qf),(3,BD),(21,LM),(22,aa),(23,aa)]
def at1:az:=(⟨akv,[.var 196 [aa,LM,Ea,aa,Ec],.dead,.dead,.map 183,Eh,.var 26 [aa,aa,G9,Ea],fC,cd,cH,cd,cH]⟩,[(.exit 0,⟨akv++[(24,ai)],[.var 196 [aa,LM,Ea,aa,Ec],.dead,.dead,.map 183,Eh,.var 26 [aa,aa,G9,Ea],fC,cd,cH,cd,cH]⟩)])
def aaN:az:=(⟨[(1,aa),(2,aa),(3,aT),(17,ai)],[BH]⟩,[(.ret,⟨[(6,ai)],[]⟩),(.norm,⟨[(1,aa),(3,aT)],[BH]⟩)])
abbrev akw:List (Nat×VS):=[(1,aa),(4,aT),(5,dc),(6,aa)]
def aaO:az:=(⟨akw,[S3,S3]⟩,[(.exit 0,⟨akw++[(10,ai)],[S3,S3]⟩)])
def aaP:az:=(⟨[(1,s7),(2,aT),(4,dc),(5,di),(6,jU),(13,ai)],Hi⟩,[(.norm,⟨[(1,s7),(2,aT),(4,dc),(5,di),(6,jU)],Hi⟩)])
abbrev akx:List (Nat×VS):=[(2,aT),(4,dc),(5,di),(6,jU),(27,ai3),(28,aa)]
def aaQ:az:=(⟨akx,Hi⟩,[(.exit 0,⟨akx++[(29,ai)],Hi⟩)])
def aaR:az:=(⟨[(1,s7),(2,aT),(4,dc),(5,di),(6,jU),(21,ai)],Hi⟩,[(.norm,⟨[(2,aT),(4,dc),(5,di),(6,jU)],Hi⟩)])
def aaS:az:=(⟨[(3,eh),(9,fh),(33,ai)],[]⟩,[(.norm,⟨[(9,fh)],[]⟩)])
abbrev aky:List (Nat×VS):=[(3,eh),(4,aT),(9,fh),(10,dc),(42,aa),(43,aa)]
def aaT:az:=(⟨aky,[Hd,.var 204 [aa,aa,aa]]⟩,[(.exit 0,⟨aky++[(44,ai)],[Hd,.var 204 [aa,aa,aa]]⟩)])
def aaU:az:=(⟨[(0,aa),(1,.pref [4,4,4,3,3,123] [.bool,.bool,.bool,.int .i64,.int .i64,.list 112]),(2,aa),(3,aa),(11,fh),(23,aa),(24,aa)],[]⟩,[(.exit 0,⟨[(0,aa),(1,.pref [4,4,4,3,3,123] [.bool,.bool,.bool,.int .i64,.int .i64,.list 112]),(2,aa),(3,aa),(11,fh),(23,aa),(24,aa),(25,ai)],[]⟩)])
abbrev akz:List (Nat×VS):=[(0,aa),(1,aa),(5,Y2),(6,aa),(7,aa)]
def at2:az:=(⟨akz,[ly]⟩,[(.exit 2,⟨akz++[(26,ai)],[ly]⟩)])
abbrev akA:List (Nat×VS):=[(0,aa),(1,aa),(5,Y2),(6,aa)]
def at3:az:=(⟨akA,[ly]⟩,[(.exit 0,⟨akA++[(12,ai)],[ly]⟩)])
abbrev akB:List (Nat×VS):=[(2,aT),(4,dc),(5,Eb),(7,mF),(31,aa),(32,aa)]
def aaV:az:=(⟨akB,Te⟩,[(.exit 0,⟨akB++[(33,ai)],Te⟩)])
abbrev akC:List (Nat×VS):=[(2,aT),(4,dc),(7,Eb),(39,mF),(40,aa),(41,aa)]
def aaW:az:=(⟨akC,Te⟩,[(.exit 2,⟨akC++[(42,ai)],Te⟩)])
abbrev akD:List (Nat×VS):=[(1,aT),(3,xX),(4,aa),(24,nr),(25,aa),(26,aa)]
def aaX:az:=(⟨akD,[ot,aZ]⟩,[(.exit 0,⟨akD++[(27,ai)],[ot,aZ]⟩)])
abbrev akE:List (Nat×VS):=[(1,aT),(3,xX),(4,aa),(7,aiW),(8,mF),(9,aa),(11,qf),(46,gR),(47,aa),(48,aa),(58,cZ),(59,aa),(60,aa)]
def aaY:az:=(⟨akE,[ot,aZ,.map 208,aZ,.var 210 [aa,aa,aa,aa,aa,aa,aa]]⟩,[(.exit 6,⟨akE++[(61,ai)],[ot,aZ,.map 208,aZ,.var 210 [aa,aa,aa,aa,aa,aa,aa]]⟩)])
abbrev akF:List (Nat×VS):=[(1,aT),(3,xX),(4,aa),(7,aiW),(8,mF),(46,gR),(47,aa),(48,aa)]
def aaZ:az:=(⟨akF,[ot,aZ,.map 208,aZ]⟩,[(.exit 4,⟨akF++[(49,ai)],[ot,aZ,.map 208,aZ]⟩)])
def aa0:az:=(⟨[(1,aT),(3,xX),(4,aa)],[ot,aZ]⟩,[(.ret,⟨[(2,dj)],s8⟩)])
abbrev akG:List (Nat×VS):=[(1,ai),(6,aT),(39,gR),(40,aa),(41,aa)]
def aa1:az:=(⟨akG,rW⟩,[(.ret,⟨[(4,.one (.gX)),(5,aa)],[]⟩),(.exit 0,⟨akG++[(42,ai)],rW⟩)])
def aa2:az:=(⟨[(6,aT),(9,aa),(72,ai)],rW⟩,[(.norm,⟨[(6,aT),(9,aa)],rW⟩)])
def aa3:az:=(⟨[(6,aT),(9,aa),(10,aa),(11,cZ),(12,eh),(13,aa),(85,rU),(86,aa),(87,aa),(106,ai)],rW⟩,[(.norm,⟨[(6,aT),(9,aa),(13,aa),(85,rU),(86,aa),(87,aa)],rW⟩)])
abbrev akH:List (Nat×VS):=[(6,aT),(9,aa),(85,rU),(86,aa),(87,aa)]
def aa4:az:=(⟨akH,rW⟩,[(.exit 2,⟨akH++[(88,ai)],rW⟩)])
def aa5:az:=(⟨[(0,aT),(3,aa),(4,LG),(5,aa),(7,Y0),(8,aa),(10,eh),(27,G8),(28,aa),(29,aa),(78,ai)],[.var 185 [aa,ai,G8,SO,LH,LI,aiX,aiY,aa,LF,aiK,YR,aiZ],.dead,.dead,.dead,.dead,.dead,.dead,.map 183,.dead,.dead,.dead,aZ,aZ,cd,cd,aZ,aZ,cd,qS,ly,aZ,aZ]⟩,[(.norm,⟨[(0,aT),(3,aa),(4,LG),(5,aa),(8,aa),(27,BE),(28,aa),(29,aa)],Zh⟩)])
abbrev akI:List (Nat×VS):=[(0,aT),(3,aa),(4,LG),(27,BE),(28,aa),(29,aa)]
def aa6:az:=(⟨akI,Zh⟩,[(.ret,⟨Hm,Zi⟩),(.exit 0,⟨akI++[(30,ai)],Zh⟩)])
abbrev akJ:List (Nat×VS):=[(0,cZ),(1,aa),(7,aa),(8,aa)]
def aa7:az:=(⟨akJ,[]⟩,[(.ret,⟨Hn,[]⟩),(.exit 0,⟨akJ++[(9,ai)],[]⟩)])
abbrev akK:List (Nat×VS):=[(1,aa),(7,cZ),(8,aa),(9,aa)]
def aa8:az:=(⟨akK,[]⟩,[(.ret,⟨Ho,[]⟩),(.exit 0,⟨akK++[(10,ai)],[]⟩)])
def aa9:az:=(⟨[(0,dj),(1,aa),(2,aa),(3,aa),(4,.fn 65 [] [.aF 1 0 0]),(10,ai),(11,ai),(12,aa),(39,ai)],dQ⟩,[(.norm,⟨[(0,dj),(1,aa),(2,aa),(3,aa),(4,.fn 65 [] [.aF 1 0 0]),(10,ai),(11,ai),(12,aa)],dQ⟩)])
def aba:az:=(⟨[(0,dj),(1,aa),(2,aa),(3,aa),(4,.fn 65 [] [.aF 1 0 0]),(10,ai),(11,ai),(12,aa),(13,aa),(14,aa),(56,ai)],dQ⟩,[(.norm,⟨[(0,dj),(1,aa),(2,aa),(3,aa),(4,.fn 65 [] [.aF 1 0 0]),(10,ai),(11,ai),(12,aa),(13,aa),(14,aa)],dQ⟩)])
def abb:az:=(⟨[(0,dj),(1,aa),(2,aa),(3,aa),(4,.fn 65 [] [.aF 1 0 0]),(10,ai),(11,ai),(12,aa),(13,aa),(75,ai)],dQ⟩,[(.ret,⟨[(0,dj),(1,aa),(2,aa),(3,aa),(4,.fn 65 [] [.aF 1 0 0]),(10,ai),(11,ai),(12,aa),(13,aa),(80,ai)],dQ⟩),(.norm,⟨[(0,dj),(1,aa),(2,aa),(3,aa),(4,.fn 65 [] [.aF 1 0 0]),(10,ai),(11,ai),(12,aa),(13,aa)],dQ⟩)])
def abc:az:=(⟨[(0,dj),(1,aa),(2,aa),(3,aa),(4,.fn 65 [] [.aF 1 0 0]),(10,ai),(11,ai)],dQ⟩,[(.ret,⟨[],dQ⟩)])
abbrev akL:List (Nat×VS):=[(1,aa),(53,gn),(54,aa),(55,aa)]
def at4:az:=(⟨akL,[]⟩,[(.ret,⟨Ho,[]⟩),(.exit 1,⟨akL++[(56,ai)],[]⟩)])
abbrev akM:List (Nat×VS):=[(1,aT),(2,dc),(3,Y1),(20,gn),(21,aa),(22,aa)]
def at5:az:=(⟨akM,[Ef,.var 81 [aa,aa,LL],fC,fC]⟩,[(.exit 0,⟨akM++[(23,ai)],[Ef,.var 81 [aa,aa,LL],fC,fC]⟩)])
abbrev akN:List (Nat×VS):=[(19,gn),(20,aa),(21,aa)]
def at6:az:=(⟨akN,[]⟩,[(.ret,⟨[(2,ai)],[]⟩),(.exit 1,⟨akN++[(22,ai)],[]⟩)])
def at7:az:=(⟨[(1,.fn 125 [] [.aF 0 0 0,.aF 1 0 0,.aF 2 0 0]),(4,aa),(5,fh),(6,fm),(7,aa),(8,aa)],xZ⟩,[(.exit 2,⟨[(1,.fn 125 [] [.aF 0 0 0,.aF 1 0 0,.aF 2 0 0]),(4,aa),(5,fh),(6,fm),(7,aa),(8,aa),(14,ai)],xZ⟩)])
def aua:az:=(⟨[(1,.fn 125 [] [.aF 0 0 0,.aF 1 0 0,.aF 2 0 0]),(6,fm),(7,aa),(8,aa)],xZ⟩,[(.exit 0,⟨[(1,.fn 125 [] [.aF 0 0 0,.aF 1 0 0,.aF 2 0 0]),(6,fm),(7,aa),(8,aa),(9,ai)],xZ⟩)])
def aub:az:=(⟨[(0,aa),(1,aT),(2,dc),(3,di),(10,ai)],xZ⟩,[(.norm,⟨[],xZ⟩)])
def abd:az:=(⟨[(0,aa),(2,.fn 129 [] [.aF 0 0 0]),(3,.fn 130 [] [.aF 0 0 0]),(8,dc),(11,di),(12,jU),(13,aa),(14,aa),(15,mU),(36,aa),(37,aa)],[ot,LQ,.var 245 [SV,.one (.dt mB 8)],S0,aZ,cH,cd,aZ,.map mB,cH,cd]⟩,[(.exit 2,⟨[(0,aa),(2,.fn 129 [] [.aF 0 0 0]),(3,.fn 130 [] [.aF 0 0 0]),(8,dc),(11,di),(12,jU),(13,aa),(14,aa),(15,mU),(36,aa),(37,aa),(38,ai)],[ot,LQ,.var 245 [SV,.one (.dt mB 8)],S0,aZ,cH,cd,aZ,.map mB,cH,cd]⟩)])
def abe:az:=(⟨[(0,aa),(2,.fn 129 [] [.aF 0 0 0]),(3,.fn 130 [] [.aF 0 0 0]),(8,dc),(11,di),(12,jU),(13,aa)],[ot,Eg,.var 245 [vT,.one (.dt mB 7)],Eh,cH,cd,aZ,.map mB,cH,cd]⟩,[(.ret,⟨[(8,dc),(9,mU),(10,aa)],[ot,ajb,cH,cd,aZ]⟩),(.exit 0,⟨[(0,aa),(2,.fn 129 [] [.aF 0 0 0]),(3,.fn 130 [] [.aF 0 0 0]),(8,dc),(11,di),(12,jU),(13,aa),(25,ai)],[ot,Eg,.var 245 [vT,.one (.dt mB 7)],Eh,cH,cd,aZ,.map mB,cH,cd]⟩)])
abbrev akO:List (Nat×VS):=[(0,cZ),(13,cZ),(14,aa),(15,aa)]
def abf:az:=(⟨akO,[]⟩,[(.ret,⟨[(2,ai)],[]⟩),(.exit 0,⟨akO++[(16,ai)],[]⟩)])
abbrev akP:List (Nat×VS):=[(3,dj),(14,aa),(15,aa)]
def abg:az:=(⟨akP,s8⟩,[(.exit 0,⟨akP++[(16,ai)],s8⟩)])
abbrev akQ:List (Nat×VS):=[(3,.one (.whole 5 0)),(9,cZ),(10,aa),(11,aa)]
def abh:az:=(⟨akQ,[Ei]⟩,[(.exit 0,⟨akQ++[(12,ai)],[Ei]⟩)])
abbrev akR:List (Nat×VS):=[(1,cZ),(5,dj),(26,cZ),(27,aa),(28,aa)]
def abi:az:=(⟨akR,s8⟩,[(.exit 0,⟨akR++[(29,ai)],s8⟩)])
def abj:az:=(⟨[(0,dj),(1,aa),(2,aa),(3,.fn 65 [] [.aF 1 0 0]),(8,aa),(9,aa)],dQ⟩,[(.exit 2,⟨[(0,dj),(1,aa),(2,aa),(3,.fn 65 [] [.aF 1 0 0]),(8,aa),(9,aa),(34,ai)],dQ⟩)])
def abk:az:=(⟨[(0,dj),(1,aa),(2,aa),(3,.fn 65 [] [.aF 1 0 0]),(8,aa)],dQ⟩,[(.exit 0,⟨[(0,dj),(1,aa),(2,aa),(3,.fn 65 [] [.aF 1 0 0]),(8,aa),(14,ai)],dQ⟩)])
def auc:az:=(⟨[(0,dj),(3,.fn 65 [] [.aF 1 0 0]),(8,aa),(9,aa),(10,aa),(11,aa)],dQ⟩,[(.exit 0,⟨[(0,dj),(3,.fn 65 [] [.aF 1 0 0]),(8,aa),(9,aa),(10,aa),(11,aa),(21,ai)],dQ⟩)])
def aud:az:=(⟨[(0,dj),(3,.fn 65 [] [.aF 1 0 0]),(8,aa),(9,aa),(12,aa)],dQ⟩,[(.exit 2,⟨[(0,dj),(3,.fn 65 [] [.aF 1 0 0]),(8,aa),(9,aa),(12,aa),(33,ai)],dQ⟩)])
def aue:az:=(⟨[(0,dj),(1,aa),(8,aa),(9,jU),(10,fh),(11,aa),(12,aa),(45,ai)],Tf⟩,[(.norm,⟨[(0,dj),(1,aa),(8,aa),(9,jU),(10,fh),(11,aa),(12,aa)],Tf⟩)])
abbrev akS:List (Nat×VS):=[(0,dj),(1,aa),(8,aa),(9,jU),(10,fh),(11,aa)]
def auf:az:=(⟨akS,Tf⟩,[(.exit 0,⟨akS++[(35,ai)],Tf⟩)])
def aug:az:=(⟨[(0,cZ),(3,.fn 65 [] [.aF 0 0 0]),(11,di),(12,aa),(13,aa),(14,aa),(36,ai)],Tg⟩,[(.norm,⟨[(0,cZ),(3,.fn 65 [] [.aF 0 0 0]),(11,di),(12,aa),(13,aa),(14,aa)],Tg⟩)])
def auh:az:=(⟨[(0,cZ),(3,.fn 65 [] [.aF 0 0 0]),(10,aa),(11,di),(12,aa),(13,aa),(14,aa),(34,ai)],Tg⟩,[(.norm,⟨[(11,di),(13,aa)],Tg⟩)])
abbrev akT:List (Nat×VS):=[(0,dj),(8,aa),(9,aa)]
def aui:az:=(⟨akT,dQ⟩,[(.exit 0,⟨akT++[(15,ai)],dQ⟩)])
def auj:az:=(⟨[(0,dj),(1,aa),(2,aa),(3,.fn 65 [] [.aF 1 0 0]),(9,aa),(10,aa)],dQ⟩,[(.exit 2,⟨[(0,dj),(1,aa),(2,aa),(3,.fn 65 [] [.aF 1 0 0]),(9,aa),(10,aa),(36,ai)],dQ⟩)])
def auk:az:=(⟨[(0,dj),(1,aa),(2,aa),(3,.fn 65 [] [.aF 1 0 0]),(9,aa),(10,aa),(11,aa)],dQ⟩,[(.exit 4,⟨[(0,dj),(1,aa),(2,aa),(3,.fn 65 [] [.aF 1 0 0]),(9,aa),(10,aa),(11,aa)],dQ⟩)])
def aul:az:=(⟨[(0,dj),(1,aa),(2,aa),(3,.fn 65 [] [.aF 1 0 0]),(9,aa),(10,aa),(65,ai)],dQ⟩,[(.norm,⟨[(0,dj),(1,aa),(2,aa),(3,.fn 65 [] [.aF 1 0 0]),(9,aa),(10,aa)],dQ⟩)])
def aum:az:=(⟨[(0,dj),(1,aa),(2,aa),(3,.fn 65 [] [.aF 1 0 0]),(9,aa),(10,aa),(12,aa)],dQ⟩,[(.exit 6,⟨[(0,dj),(1,aa),(2,aa),(3,.fn 65 [] [.aF 1 0 0]),(9,aa),(10,aa),(12,aa)],dQ⟩)])
def aun:az:=(⟨[(0,dj),(1,aa),(2,aa),(3,.fn 65 [] [.aF 1 0 0]),(9,aa),(10,aa)],dQ⟩,[(.ret,⟨[(8,ai)],dQ⟩),(.exit 0,⟨[(0,dj),(1,aa),(2,aa),(3,.fn 65 [] [.aF 1 0 0]),(9,aa),(10,aa),(16,ai)],dQ⟩)])
def auo:az:=(⟨[(0,dj),(1,aa),(4,.fn 65 [] [.aF 1 0 0]),(11,aa),(12,aa)],dQ⟩,[(.exit 2,⟨[(0,dj),(1,aa),(4,.fn 65 [] [.aF 1 0 0]),(11,aa),(12,aa),(47,ai)],dQ⟩)])
def aup:az:=(⟨[(0,dj),(1,aa),(4,.fn 65 [] [.aF 1 0 0]),(11,aa),(12,aa)],dQ⟩,[(.exit 4,⟨[(0,dj),(1,aa),(4,.fn 65 [] [.aF 1 0 0]),(11,aa),(12,aa),(65,ai)],dQ⟩)])
def auq:az:=(⟨[(0,dj),(1,aa),(4,.fn 65 [] [.aF 1 0 0]),(11,aa),(12,aa)],dQ⟩,[(.exit 0,⟨[(0,dj),(1,aa),(4,.fn 65 [] [.aF 1 0 0]),(11,aa),(12,aa),(70,ai)],dQ⟩)])
def aur:az:=(⟨[(0,dj),(1,aa),(4,.fn 65 [] [.aF 1 0 0]),(12,aa),(13,aa)],dQ⟩,[(.exit 0,⟨[(0,dj),(1,aa),(4,.fn 65 [] [.aF 1 0 0]),(12,aa),(13,aa),(47,ai)],dQ⟩)])
def aus:az:=(⟨[(0,dj),(1,aa),(4,.fn 65 [] [.aF 1 0 0]),(12,aa),(13,aa)],dQ⟩,[(.exit 2,⟨[(0,dj),(1,aa),(4,.fn 65 [] [.aF 1 0 0]),(12,aa),(13,aa),(66,ai)],dQ⟩)])
def aut:az:=(⟨[(0,dj),(1,aa),(4,.fn 65 [] [.aF 1 0 0]),(12,aa),(13,aa)],dQ⟩,[(.exit 6,⟨[(0,dj),(1,aa),(4,.fn 65 [] [.aF 1 0 0]),(12,aa),(13,aa),(120,ai)],dQ⟩)])
def auu:az:=(⟨[(0,dj),(1,aa),(4,.fn 65 [] [.aF 1 0 0]),(12,aa),(13,aa)],dQ⟩,[(.exit 8,⟨[(0,dj),(1,aa),(4,.fn 65 [] [.aF 1 0 0]),(12,aa),(13,aa),(139,ai)],dQ⟩)])
def auv:az:=(⟨[(0,dj),(1,aa),(4,.fn 65 [] [.aF 1 0 0]),(12,aa),(13,aa)],dQ⟩,[(.exit 4,⟨[(0,dj),(1,aa),(4,.fn 65 [] [.aF 1 0 0]),(12,aa),(13,aa),(144,ai)],dQ⟩)])
def auw:az:=(⟨[(0,fh),(2,aa),(4,ai)],[]⟩,[(.norm,⟨[(0,fh),(2,aa)],[]⟩)])
def auy:az:=(⟨[(0,fh),(2,aa),(8,ai)],[]⟩,[(.norm,⟨[(0,fh),(2,aa)],[]⟩)])
abbrev akU:List (Nat×VS):=[(1,aa),(2,aT),(23,gn),(24,aa),(25,aa)]
def auz:az:=(⟨akU,nt⟩,[(.ret,⟨[(6,ai)],nt⟩),(.exit 0,⟨akU++[(26,ai)],nt⟩)])
def auA:az:=(⟨[(3,aT),(4,dc),(5,di),(6,jU),(24,ai)],[Ef,LU,.var 81 [aa,aa,LM],.var 81 [aa,aa,.one (.whole 81 7)],fC,fC,fC,fC]⟩,[(.norm,⟨[(3,aT),(4,dc),(5,di)],[Ef,.var 232 [aa,aa,LL,aa,aa,SN,ai],.var 81 [aa,aa,SQ],fC,fC,fC]⟩)])
def auB:az:=(⟨[(0,aT),(3,di),(5,aa),(28,ai)],Ek⟩,[(.norm,⟨[],vY⟩)])
def auC:az:=(⟨[(0,aT),(3,di),(5,aa),(22,ai)],Ek⟩,[(.norm,⟨[],vY⟩)])
def auD:az:=(⟨[(0,aT),(3,di),(5,aa),(14,ai)],Ek⟩,[(.norm,⟨[],vY⟩)])
def auE:az:=(⟨[(0,aT),(3,di),(5,aa),(10,ai)],Ek⟩,[(.norm,⟨[],vY⟩)])
def auF:az:=(⟨[(0,aT),(3,di),(5,aa),(6,ai)],Ek⟩,[(.norm,⟨[],vY⟩)])
abbrev akV:List (Nat×VS):=[(2,aT),(4,dc),(5,Y1),(6,LL),(7,ai),(20,gn),(21,aa),(22,aa)]
def auG:az:=(⟨akV,[.var 234 [aa,ai],LU,fC,fC,fC,fC]⟩,[(.exit 0,⟨akV++[(23,ai)],[.var 234 [aa,ai],LU,fC,fC,fC,fC]⟩)])
abbrev akW:List (Nat×VS):=[(4,aT),(6,Ee),(7,ai),(11,Y1),(54,LL),(55,aa),(56,aa)]
def auH:az:=(⟨akW,[LU,fC,fC,fC,fC,fC]⟩,[(.exit 2,⟨akW++[(57,ai)],[LU,fC,fC,fC,fC,fC]⟩)])
def auI:az:=(⟨[(0,aT),(2,eh),(3,aa),(9,di),(10,gn),(11,aa),(12,aa),(18,ai)],Ek⟩,[(.norm,⟨[(0,aT),(2,eh),(3,aa),(9,di),(10,gn),(11,aa),(12,aa)],Ek⟩)])
abbrev akX:List (Nat×VS):=[(0,aT),(2,eh),(3,aa),(10,gn),(11,aa),(12,aa)]
def auJ:az:=(⟨akX,vY⟩,[(.exit 0,⟨akX++[(13,ai)],vY⟩)])
def auK:az:=(⟨[(0,gn),(1,.fn 180 [] []),(7,aa),(8,aa)],[]⟩,[(.ret,⟨Hn,[]⟩),(.exit 0,⟨[(0,gn),(1,.fn 180 [] []),(7,aa),(8,aa),(9,ai)],[]⟩)])
abbrev akY:List (Nat×VS):=[(0,aa),(5,c9),(8,gn),(9,aa),(10,aa)]
def auL:az:=(⟨akY,cC⟩,[(.exit 0,⟨akY++[(11,ai)],cC⟩)])
def auM:az:=(⟨[(0,c9),(1,.fn 196 [] []),(5,aa),(6,.one (.sub 81 0)),(7,aa)],cC⟩,[(.exit 2,⟨[(0,c9),(1,.fn 196 [] []),(5,aa),(6,.one (.sub 81 0)),(7,aa),(35,ai)],cC⟩)])
def auN:az:=(⟨[(0,c9),(1,.fn 196 [] []),(5,aa)],cC⟩,[(.ret,⟨[(4,Ee)],LW⟩),(.exit 0,⟨[(0,c9),(1,.fn 196 [] []),(5,aa),(15,ai)],cC⟩)])
def auO:az:=(⟨[(0,c9),(1,aa),(2,aa),(3,aa),(4,.fn dy [] []),(10,ai),(11,ai),(12,aa),(39,ai)],cC⟩,[(.norm,⟨[(0,c9),(1,aa),(2,aa),(3,aa),(4,.fn dy [] []),(10,ai),(11,ai),(12,aa)],cC⟩)])
def auP:az:=(⟨[(0,c9),(1,aa),(2,aa),(3,aa),(4,.fn dy [] []),(10,ai),(11,ai),(12,aa),(13,aa),(14,aa),(56,ai)],cC⟩,[(.norm,⟨[(0,c9),(1,aa),(2,aa),(3,aa),(4,.fn dy [] []),(10,ai),(11,ai),(12,aa),(13,aa),(14,aa)],cC⟩)])
def auQ:az:=(⟨[(0,c9),(1,aa),(2,aa),(3,aa),(4,.fn dy [] []),(10,ai),(11,ai),(12,aa),(13,aa),(75,ai)],cC⟩,[(.ret,⟨[(0,c9),(1,aa),(2,aa),(3,aa),(4,.fn dy [] []),(10,ai),(11,ai),(12,aa),(13,aa),(80,ai)],cC⟩),(.norm,⟨[(0,c9),(1,aa),(2,aa),(3,aa),(4,.fn dy [] []),(10,ai),(11,ai),(12,aa),(13,aa)],cC⟩)])
def auR:az:=(⟨[(0,c9),(1,aa),(2,aa),(3,aa),(4,.fn dy [] []),(10,ai),(11,ai)],cC⟩,[(.ret,⟨[],cC⟩)])
def auS:az:=(⟨[(0,c9),(1,aa),(2,aa),(3,.fn dy [] []),(8,aa),(9,aa)],cC⟩,[(.exit 2,⟨[(0,c9),(1,aa),(2,aa),(3,.fn dy [] []),(8,aa),(9,aa),(34,ai)],cC⟩)])
def auT:az:=(⟨[(0,c9),(1,aa),(2,aa),(3,.fn dy [] []),(8,aa)],cC⟩,[(.exit 0,⟨[(0,c9),(1,aa),(2,aa),(3,.fn dy [] []),(8,aa),(14,ai)],cC⟩)])
def auU:az:=(⟨[(0,c9),(3,.fn dy [] []),(8,aa),(9,aa),(10,aa),(11,aa)],cC⟩,[(.exit 0,⟨[(0,c9),(3,.fn dy [] []),(8,aa),(9,aa),(10,aa),(11,aa),(21,ai)],cC⟩)])
def auV:az:=(⟨[(0,c9),(3,.fn dy [] []),(8,aa),(9,aa),(12,aa)],cC⟩,[(.exit 2,⟨[(0,c9),(3,.fn dy [] []),(8,aa),(9,aa),(12,aa),(33,ai)],cC⟩)])
def auW:az:=(⟨[(0,c9),(1,aa),(8,aa),(9,dc),(10,fh),(11,aa),(12,aa),(45,ai)],Th⟩,[(.norm,⟨[(0,c9),(1,aa),(8,aa),(9,dc),(10,fh),(11,aa),(12,aa)],Th⟩)])
abbrev akZ:List (Nat×VS):=[(0,c9),(1,aa),(8,aa),(9,dc),(10,fh),(11,aa)]
def auX:az:=(⟨akZ,Th⟩,[(.exit 0,⟨akZ++[(35,ai)],Th⟩)])
def auY:az:=(⟨[(0,gn),(3,.fn dy [] []),(11,aT),(12,aa),(13,aa),(14,aa),(36,ai)],nt⟩,[(.norm,⟨[(0,gn),(3,.fn dy [] []),(11,aT),(12,aa),(13,aa),(14,aa)],nt⟩)])
def auZ:az:=(⟨[(0,gn),(3,.fn dy [] []),(10,aa),(11,aT),(12,aa),(13,aa),(14,aa),(34,ai)],nt⟩,[(.norm,⟨[(11,aT),(13,aa)],nt⟩)])
abbrev ak0:List (Nat×VS):=[(0,c9),(8,aa),(9,aa)]
def au0:az:=(⟨ak0,cC⟩,[(.exit 0,⟨ak0++[(15,ai)],cC⟩)])
def au1:az:=(⟨[(0,c9),(1,aa),(2,aa),(3,.fn dy [] []),(9,aa),(10,aa)],cC⟩,[(.exit 2,⟨[(0,c9),(1,aa),(2,aa),(3,.fn dy [] []),(9,aa),(10,aa),(36,ai)],cC⟩)])
def au2:az:=(⟨[(0,c9),(1,aa),(2,aa),(3,.fn dy [] []),(9,aa),(10,aa),(11,aa)],cC⟩,[(.exit 4,⟨[(0,c9),(1,aa),(2,aa),(3,.fn dy [] []),(9,aa),(10,aa),(11,aa)],cC⟩)])
def au3:az:=(⟨[(0,c9),(1,aa),(2,aa),(3,.fn dy [] []),(9,aa),(10,aa),(65,ai)],cC⟩,[(.norm,⟨[(0,c9),(1,aa),(2,aa),(3,.fn dy [] []),(9,aa),(10,aa)],cC⟩)])
def au4:az:=(⟨[(0,c9),(1,aa),(2,aa),(3,.fn dy [] []),(9,aa),(10,aa),(12,aa)],cC⟩,[(.exit 6,⟨[(0,c9),(1,aa),(2,aa),(3,.fn dy [] []),(9,aa),(10,aa),(12,aa)],cC⟩)])
def au5:az:=(⟨[(0,c9),(1,aa),(2,aa),(3,.fn dy [] []),(9,aa),(10,aa)],cC⟩,[(.ret,⟨[(8,ai)],cC⟩),(.exit 0,⟨[(0,c9),(1,aa),(2,aa),(3,.fn dy [] []),(9,aa),(10,aa),(16,ai)],cC⟩)])
def au6:az:=(⟨[(0,c9),(1,aa),(4,.fn dy [] []),(11,aa),(12,aa)],cC⟩,[(.exit 2,⟨[(0,c9),(1,aa),(4,.fn dy [] []),(11,aa),(12,aa),(47,ai)],cC⟩)])
def au7:az:=(⟨[(0,c9),(1,aa),(4,.fn dy [] []),(11,aa),(12,aa)],cC⟩,[(.exit 4,⟨[(0,c9),(1,aa),(4,.fn dy [] []),(11,aa),(12,aa),(65,ai)],cC⟩)])
def au8:az:=(⟨[(0,c9),(1,aa),(4,.fn dy [] []),(11,aa),(12,aa)],cC⟩,[(.exit 0,⟨[(0,c9),(1,aa),(4,.fn dy [] []),(11,aa),(12,aa),(70,ai)],cC⟩)])
def au9:az:=(⟨[(0,c9),(1,aa),(4,.fn dy [] []),(12,aa),(13,aa)],cC⟩,[(.exit 0,⟨[(0,c9),(1,aa),(4,.fn dy [] []),(12,aa),(13,aa),(47,ai)],cC⟩)])
def ava:az:=(⟨[(0,c9),(1,aa),(4,.fn dy [] []),(12,aa),(13,aa)],cC⟩,[(.exit 2,⟨[(0,c9),(1,aa),(4,.fn dy [] []),(12,aa),(13,aa),(66,ai)],cC⟩)])
def avb:az:=(⟨[(0,c9),(1,aa),(4,.fn dy [] []),(12,aa),(13,aa)],cC⟩,[(.exit 6,⟨[(0,c9),(1,aa),(4,.fn dy [] []),(12,aa),(13,aa),(120,ai)],cC⟩)])
def avc:az:=(⟨[(0,c9),(1,aa),(4,.fn dy [] []),(12,aa),(13,aa)],cC⟩,[(.exit 8,⟨[(0,c9),(1,aa),(4,.fn dy [] []),(12,aa),(13,aa),(139,ai)],cC⟩)])
def avd:az:=(⟨[(0,c9),(1,aa),(4,.fn dy [] []),(12,aa),(13,aa)],cC⟩,[(.exit 4,⟨[(0,c9),(1,aa),(4,.fn dy [] []),(12,aa),(13,aa),(144,ai)],cC⟩)])
def ave:az:=(⟨[(0,c9),(2,aa),(3,aa),(4,.fn dy [] []),(10,aa),(11,aa),(40,ai)],cC⟩,[(.norm,⟨[(0,c9),(2,aa),(3,aa),(4,.fn dy [] []),(10,aa),(11,aa)],cC⟩)])
def avf:az:=(⟨[(0,c9),(2,aa),(3,aa),(4,.fn dy [] []),(10,aa)],cC⟩,[(.exit 0,⟨[(0,c9),(2,aa),(3,aa),(4,.fn dy [] []),(10,aa),(11,aa),(18,ai)],cC⟩),(.ret,⟨[(0,c9),(2,aa),(3,aa),(4,.fn dy [] []),(10,aa),(11,aa),(58,ai)],cC⟩)])
def avg:az:=(⟨[(0,gn),(1,.fn 157 [] []),(7,aa),(8,aa)],[]⟩,[(.ret,⟨Hn,[]⟩),(.exit 0,⟨[(0,gn),(1,.fn 157 [] []),(7,aa),(8,aa),(9,ai)],[]⟩)])
def avh:az:=(⟨[(1,.fn 160 [] [.aF 0 0 0]),(4,aa),(5,fh),(6,fm),(7,aa),(8,aa)],nt⟩,[(.exit 2,⟨[(1,.fn 160 [] [.aF 0 0 0]),(4,aa),(5,fh),(6,fm),(7,aa),(8,aa),(14,ai)],nt⟩)])
def avi:az:=(⟨[(1,.fn 160 [] [.aF 0 0 0]),(6,fm),(7,aa),(8,aa)],nt⟩,[(.exit 0,⟨[(1,.fn 160 [] [.aF 0 0 0]),(6,fm),(7,aa),(8,aa),(9,ai)],nt⟩)])
def avj:az:=(⟨[(0,c9),(1,.fn 188 [] []),(5,aa),(6,aa)],cC⟩,[(.exit 0,⟨[(0,c9),(1,.fn 188 [] []),(5,aa),(6,aa),(19,ai)],cC⟩)])
def avk:az:=(⟨[(0,gn),(1,.fn 188 [] []),(7,aa),(8,aa)],[]⟩,[(.ret,⟨Hn,[]⟩),(.exit 0,⟨[(0,gn),(1,.fn 188 [] []),(7,aa),(8,aa),(9,ai)],[]⟩)])
def avl:az:=(⟨[(0,c9),(1,.fn 180 [] []),(5,aa),(6,aa)],cC⟩,[(.exit 0,⟨[(0,c9),(1,.fn 180 [] []),(5,aa),(6,aa),(19,ai)],cC⟩)])
def avm:az:=(⟨[(1,.fn 163 [] [.aF 0 0 0,.aF 1 0 0,.aF 2 0 0]),(4,aa),(5,fh),(6,fm),(7,aa),(8,aa)],Hj⟩,[(.exit 2,⟨[(1,.fn 163 [] [.aF 0 0 0,.aF 1 0 0,.aF 2 0 0]),(4,aa),(5,fh),(6,fm),(7,aa),(8,aa),(14,ai)],Hj⟩)])
def avn:az:=(⟨[(1,.fn 163 [] [.aF 0 0 0,.aF 1 0 0,.aF 2 0 0]),(6,fm),(7,aa),(8,aa)],Hj⟩,[(.exit 0,⟨[(1,.fn 163 [] [.aF 0 0 0,.aF 1 0 0,.aF 2 0 0]),(6,fm),(7,aa),(8,aa),(9,ai)],Hj⟩)])
def avo:az:=(⟨[(1,.fn 162 [] [.aF 0 0 0,.aF 1 0 0,.aF 2 0 0]),(4,aa),(5,fh),(6,fm),(7,aa),(8,aa)],Hk⟩,[(.exit 2,⟨[(1,.fn 162 [] [.aF 0 0 0,.aF 1 0 0,.aF 2 0 0]),(4,aa),(5,fh),(6,fm),(7,aa),(8,aa),(14,ai)],Hk⟩)])
def avp:az:=(⟨[(1,.fn 162 [] [.aF 0 0 0,.aF 1 0 0,.aF 2 0 0]),(6,fm),(7,aa),(8,aa)],Hk⟩,[(.exit 0,⟨[(1,.fn 162 [] [.aF 0 0 0,.aF 1 0 0,.aF 2 0 0]),(6,fm),(7,aa),(8,aa),(9,ai)],Hk⟩)])
def avq:az:=(⟨[(1,.fn 161 [] [.aF 0 0 0,.aF 1 0 0]),(4,aa),(5,fh),(6,fm),(7,aa),(8,aa)],ya⟩,[(.exit 2,⟨[(1,.fn 161 [] [.aF 0 0 0,.aF 1 0 0]),(4,aa),(5,fh),(6,fm),(7,aa),(8,aa),(14,ai)],ya⟩)])
def avr:az:=(⟨[(1,.fn 161 [] [.aF 0 0 0,.aF 1 0 0]),(6,fm),(7,aa),(8,aa)],ya⟩,[(.exit 0,⟨[(1,.fn 161 [] [.aF 0 0 0,.aF 1 0 0]),(6,fm),(7,aa),(8,aa),(9,ai)],ya⟩)])
def avs:az:=(⟨[(1,.fn 155 [] [.aF 0 0 0,.aF 1 0 0]),(4,aa),(5,fh),(6,fm),(7,aa),(8,aa)],ya⟩,[(.exit 2,⟨[(1,.fn 155 [] [.aF 0 0 0,.aF 1 0 0]),(4,aa),(5,fh),(6,fm),(7,aa),(8,aa),(14,ai)],ya⟩)])
def avt:az:=(⟨[(1,.fn 155 [] [.aF 0 0 0,.aF 1 0 0]),(6,fm),(7,aa),(8,aa)],ya⟩,[(.exit 0,⟨[(1,.fn 155 [] [.aF 0 0 0,.aF 1 0 0]),(6,fm),(7,aa),(8,aa),(9,ai)],ya⟩)])
def avu:az:=(⟨[(1,.fn 158 [] [.aF 0 0 0,.aF 1 0 0,.aF 2 0 0,.aF 3 0 0]),(4,aa),(5,fh),(6,fm),(7,aa),(8,aa)],Hl⟩,[(.exit 2,⟨[(1,.fn 158 [] [.aF 0 0 0,.aF 1 0 0,.aF 2 0 0,.aF 3 0 0]),(4,aa),(5,fh),(6,fm),(7,aa),(8,aa),(14,ai)],Hl⟩)])
def avv:az:=(⟨[(1,.fn 158 [] [.aF 0 0 0,.aF 1 0 0,.aF 2 0 0,.aF 3 0 0]),(6,fm),(7,aa),(8,aa)],Hl⟩,[(.exit 0,⟨[(1,.fn 158 [] [.aF 0 0 0,.aF 1 0 0,.aF 2 0 0,.aF 3 0 0]),(6,fm),(7,aa),(8,aa),(9,ai)],Hl⟩)])
def avw:az:=(⟨[(1,.fn 159 [] [.aF 0 0 0,.aF 1 0 0,.aF 2 0 0]),(4,aa),(5,fh),(6,fm),(7,aa),(8,aa)],LX⟩,[(.exit 2,⟨[(1,.fn 159 [] [.aF 0 0 0,.aF 1 0 0,.aF 2 0 0]),(4,aa),(5,fh),(6,fm),(7,aa),(8,aa),(14,ai)],LX⟩)])
def avx:az:=(⟨[(1,.fn 159 [] [.aF 0 0 0,.aF 1 0 0,.aF 2 0 0]),(6,fm),(7,aa),(8,aa)],LX⟩,[(.exit 0,⟨[(1,.fn 159 [] [.aF 0 0 0,.aF 1 0 0,.aF 2 0 0]),(6,fm),(7,aa),(8,aa),(9,ai)],LX⟩)])
def avy:az:=(⟨[(0,gn),(1,.fn 119 [] []),(7,aa),(8,aa)],[]⟩,[(.ret,⟨Hn,[]⟩),(.exit 0,⟨[(0,gn),(1,.fn 119 [] []),(7,aa),(8,aa),(9,ai)],[]⟩)])
def avz:List (Nat×FuncId):=[(3,3),
 (4,4),
 (5,5),
 (6,6),
 (7,7),
 (8,8),
 (9,9),
 (10,10),
 (11,11),
 (12,12),
 (13,13),
 (14,14),
 (15,15),
 (16,16),
 (17,17),
 (18,18),
 (19,19),
 (20,20),
 (21,21),
 (22,22),
 (23,23),
 (24,24),
 (25,25),
 (26,26),
 (27,27),
 (28,28),
 (29,29),
 (30,30),
 (31,31),
 (32,32),
 (33,33),
 (34,34),
 (35,35),
 (36,36),
 (37,37),
 (38,38),
 (39,39),
 (40,40),
 (41,41),
 (42,42),
 (43,43),
 (44,44),
 (45,45),
 (46,46),
 (47,47),
 (48,48),
 (49,49),
 (50,50),
 (51,51),
 (52,52),
 (53,53),
 (54,54),
 (56,56),
 (57,57),
 (58,58),
 (59,59),
 (60,60),
 (61,61),
 (62,62),
 (63,63),
 (64,64),
 (65,65),
 (66,66),
 (67,67),
 (68,68),
 (69,69),
 (70,70),
 (71,71),
 (72,72),
 (73,73),
 (74,74),
 (75,75),
 (76,76),
 (77,77),
 (78,78),
 (79,79),
 (80,80),
 (81,81),
 (82,82),
 (83,83),
 (84,84),
 (85,85),
 (86,86),
 (87,87),
 (88,88),
 (89,89),
 (90,90),
 (91,91),
 (92,92),
 (93,93),
 (94,94),
 (95,95),
 (96,96),
 (97,97),
 (98,98),
 (99,99),
 (100,100),
 (101,101),
 (102,102),
 (103,103),
 (104,104),
 (105,105),
 (106,106),
 (107,107),
 (108,108),
 (110,110),
 (111,111),
 (112,112),
 (113,113),
 (114,114),
 (115,115),
 (116,116),
 (117,117),
 (118,118),
 (119,119),
 (124,124),
 (125,125),
 (126,126),
 (127,127),
 (128,128),
 (129,129),
 (130,130),
 (131,131),
 (132,132),
 (133,133),
 (134,134),
 (135,135),
 (136,136),
 (137,137),
 (138,138),
 (139,139),
 (140,140),
 (141,141),
 (142,142),
 (143,143),
 (144,144),
 (145,145),
 (147,147),
 (148,148),
 (149,149),
 (150,150),
 (151,151),
 (152,152),
 (153,153),
 (154,154),
 (157,157),
 (164,164),
 (165,165),
 (167,167),
 (168,168),
 (171,171),
 (172,172),
 (174,174),
 (176,176),
 (177,177),
 (178,178),
 (179,179),
 (180,180),
 (184,184),
 (185,185),
 (186,186),
 (187,187),
 (188,188),
 (189,189),
 (191,191),
 (192,192),
 (193,193),
 (195,195),
 (198,198),
 (200,200),
 (201,201),
 (202,202),
 (203,203),
 (204,204),
 (205,205),
 (206,206),
 (207,207),
 (208,208),
 (209,209),
 (210,210),
 (211,211),
 (233,165),
 (234,154),
 (235,179),
 (236,124),
 (237,183),
 (238,179),
 (239,183),
 (240,83),
 (241,124),
 (242,124),
 (243,124),
 (244,124),
 (245,124),
 (246,124),
 (247,154),
 (248,179)]
def avA:List (Nat×Shape):=[(3,⟨Zk,[]⟩),
 (4,⟨Ti,[]⟩),
 (5,⟨[(0,cZ)],[]⟩),
 (6,⟨vZ,uD⟩),
 (7,⟨Hp,[]⟩),
 (8,⟨L8,[]⟩),
 (9,⟨L8,[]⟩),
 (10,⟨[],[]⟩),
 (11,⟨[(0,Ha)],[]⟩),
 (12,⟨[(0,Ha),(1,aa)],[]⟩),
 (13,⟨[(0,SW),(1,eh)],[]⟩),
 (14,⟨[(0,Ha),(1,eh)],[]⟩),
 (15,⟨[(0,uz),(1,aa),(2,eh)],[]⟩),
 (16,⟨vZ,uD⟩),
 (17,⟨s9,uD⟩),
 (18,⟨Hq,uD⟩),
 (19,⟨Hp,[]⟩),
 (20,⟨[(0,aT),(1,SW)],[.var 62 [.one (.nilS 22),aiQ,aa]]⟩),
 (21,⟨Hp,[]⟩),
 (22,⟨s9,[.var 62 [rU,.one (.whole 135 2),aa],ou,zR]⟩),
 (23,⟨L8,[]⟩),
 (24,⟨[(0,gR)],[]⟩),
 (25,⟨Hq,yb⟩),
 (26,⟨[(0,aT),(1,aa),(2,cZ)],yb⟩),
 (27,⟨[(0,aT),(1,cZ)],yb⟩),
 (28,⟨El,[]⟩),
 (29,⟨Zl,[]⟩),
 (30,⟨dG,[]⟩),
 (31,⟨[(0,zP),(1,eh)],[]⟩),
 (32,⟨[(0,Ha),(1,aa)],[]⟩),
 (33,⟨[(0,Ha)],[]⟩),
 (34,⟨dG,[]⟩),
 (35,⟨[(0,Ha),(1,LO)],[]⟩),
 (36,⟨[(0,aT),(1,SX),(2,LO)],LY⟩),
 (37,⟨dG,[]⟩),
 (38,⟨[(0,LO)],[]⟩),
 (39,⟨[(0,SW),(1,aa),(2,eh)],[]⟩),
 (40,⟨[(0,eh),(1,aa)],[]⟩),
 (41,⟨[(0,SX),(1,BF),(2,eh)],[]⟩),
 (42,⟨[(0,LN),(1,aa)],[]⟩),
 (43,⟨[(0,uz),(1,aa),(2,aa)],[]⟩),
 (44,⟨[(0,uz),(1,aa)],[]⟩),
 (45,⟨[(0,LP),(1,s7),(2,eh)],[]⟩),
 (46,⟨dG,[]⟩),
 (47,⟨[(0,.pref [4,4,4,3,3,123] [.bool,.bool,.bool,.int .i64,.int .i64,.list 112]),(1,aa),(2,aa)],[]⟩),
 (48,⟨vZ,uD⟩),
 (49,⟨vZ,uD⟩),
 (50,⟨Hq,uD⟩),
 (51,⟨vZ,uD⟩),
 (52,⟨Em,[]⟩),
 (53,⟨Hp,[]⟩),
 (54,⟨[(0,gR),(1,ai)],[]⟩),
 (56,⟨Ti,[]⟩),
 (57,⟨[(0,.agg [.int .i64,.list 4,.int .i64]),(1,cZ)],[]⟩),
 (58,⟨L8,[]⟩),
 (59,⟨L8,[]⟩),
 (60,⟨Zk,[]⟩),
 (61,⟨[(0,xW),(1,xW)],[]⟩),
 (62,⟨[(0,nr),(1,nr)],[]⟩),
 (63,⟨dG,[]⟩),
 (64,⟨[(0,dj),(1,.fn 65 [] [.aF 1 0 0])],zS⟩),
 (65,⟨[(0,aa),(1,aa),(2,aT)],[.var 22 [xX],aZ]⟩),
 (66,⟨[(0,cZ)],[]⟩),
 (67,⟨Em,[]⟩),
 (68,⟨Hq,yb⟩),
 (69,⟨[(0,aT),(1,cZ)],yb⟩),
 (70,⟨vZ,yb⟩),
 (71,⟨s9,yb⟩),
 (72,⟨vZ,yb⟩),
 (73,⟨[(0,aT),(1,aa),(2,cZ)],yb⟩),
 (74,⟨[(0,aT),(1,SX)],yb⟩),
 (75,⟨El,[]⟩),
 (76,⟨El,[]⟩),
 (77,⟨pB,[]⟩),
 (78,⟨s9,LZ⟩),
 (79,⟨s9,LZ⟩),
 (80,⟨s9,LZ⟩),
 (81,⟨pB,[]⟩),
 (82,⟨[(0,.agg [.str])],[]⟩),
 (83,⟨[(0,.one (.whole 112 0)),(1,aa)],[vU]⟩),
 (84,⟨[(0,.agg [.str]),(1,zP),(2,fm)],[]⟩),
 (85,⟨[(0,fm),(1,aa)],[]⟩),
 (86,⟨[(0,SX),(1,aa),(2,aa)],[]⟩),
 (87,⟨[(0,LO)],[]⟩),
 (88,⟨[(0,.one (.aF 0 0 1)),(1,LP)],LY⟩),
 (89,⟨s9,LY⟩),
 (90,⟨vZ,LY⟩),
 (91,⟨vZ,LY⟩),
 (92,⟨[(0,LN),(1,aa)],[]⟩),
 (93,⟨Em,[]⟩),
 (94,⟨Zm,[]⟩),
 (95,⟨Zm,[]⟩),
 (96,⟨Zm,[]⟩),
 (97,⟨[(0,aa),(1,aa),(2,ai)],[]⟩),
 (98,⟨[(0,LP),(1,s7)],[]⟩),
 (99,⟨[(0,LP),(1,aa),(2,aa),(3,eh)],[]⟩),
 (100,⟨[(0,aa),(1,.pref [4,4,4,3,3,123] [.bool,.bool,.bool,.int .i64,.int .i64,.list 112]),(2,aa),(3,aa),(4,aa)],[]⟩),
 (101,⟨Em,[]⟩),
 (102,⟨Hp,[]⟩),
 (103,⟨Hp,[]⟩),
 (104,⟨[(0,gR),(1,ai)],[]⟩),
 (105,⟨s9,rW⟩),
 (106,⟨s9,rW⟩),
 (107,⟨Ti,[]⟩),
 (108,⟨Ti,[]⟩),
 (110,⟨[(0,dj),(1,aa),(2,aa),(3,aa),(4,.fn 65 [] [.aF 1 0 0])],zS⟩),
 (111,⟨BM,[]⟩),
 (112,⟨dG,[]⟩),
 (113,⟨pB,[]⟩),
 (114,⟨El,[]⟩),
 (115,⟨[(0,aT),(1,zP)],LZ⟩),
 (116,⟨pB,[]⟩),
 (117,⟨El,[]⟩),
 (118,⟨pB,[]⟩),
 (119,⟨pB,[]⟩),
 (124,⟨[(0,fm),(1,.fn 125 [] [.aF 0 0 0,.aF 1 0 0,.aF 2 0 0])],xZ⟩),
 (125,⟨[(0,aa),(1,aT),(2,dc),(3,di)],xZ⟩),
 (126,⟨[(0,aa),(1,aa),(2,ai)],[]⟩),
 (127,⟨[(0,LP),(1,aa),(2,aa),(3,eh)],[]⟩),
 (128,⟨[(0,aa),(1,aa),(2,.fn 129 [] [.aF 0 0 0]),(3,.fn 130 [] [.aF 0 0 0])],vV⟩),
 (129,⟨[(0,aa),(1,aa),(2,aT)],vV⟩),
 (130,⟨[(0,aa),(1,aT)],vV⟩),
 (131,⟨[(0,cZ)],[]⟩),
 (132,⟨[(0,aT),(1,cZ),(2,aa),(3,aa),(4,eh),(5,aa)],rW⟩),
 (133,⟨dG,[]⟩),
 (134,⟨[(0,cZ)],[]⟩),
 (135,⟨Zk,[]⟩),
 (136,⟨vZ,rW⟩),
 (137,⟨vZ,rW⟩),
 (138,⟨[(0,dj),(1,aa),(2,aa),(3,.fn 65 [] [.aF 1 0 0])],zS⟩),
 (139,⟨[(0,dj),(1,aa),(2,aa),(3,.fn 65 [] [.aF 1 0 0])],zS⟩),
 (140,⟨[(0,dj),(1,aa),(2,aa),(3,.fn 65 [] [.aF 1 0 0])],zS⟩),
 (141,⟨[(0,cZ),(1,aa),(2,aa),(3,.fn 65 [] [.aF 0 0 0])],[.var 22 [xX],aZ]⟩),
 (142,⟨[(0,dj),(1,aa),(2,aa),(3,.fn 65 [] [.aF 1 0 0])],zS⟩),
 (143,⟨[(0,dj),(1,aa),(2,aa),(3,.fn 65 [] [.aF 1 0 0])],zS⟩),
 (144,⟨[(0,dj),(1,aa),(2,aa),(3,aa),(4,.fn 65 [] [.aF 1 0 0])],zS⟩),
 (145,⟨[(0,dj),(1,aa),(2,aa),(3,aa),(4,.fn 65 [] [.aF 1 0 0])],zS⟩),
 (147,⟨BM,[]⟩),
 (148,⟨[(0,zP),(1,aa),(2,aT)],nt⟩),
 (149,⟨Zl,[]⟩),
 (150,⟨[(0,Y6)],[]⟩),
 (151,⟨Zn,[]⟩),
 (152,⟨[(0,aT),(1,zP)],L3⟩),
 (153,⟨s9,L3⟩),
 (154,⟨[(0,gn),(1,.fn 180 [] [])],[]⟩),
 (157,⟨pB,[]⟩),
 (164,⟨BM,[]⟩),
 (165,⟨Hq,[.var 245 [xX,.one (.fZ mB)],aZ]⟩),
 (167,⟨dG,[]⟩),
 (168,⟨s9,[SZ]⟩),
 (171,⟨[(0,gn)],[]⟩),
 (172,⟨[(0,gn)],[]⟩),
 (174,⟨[],[]⟩),
 (176,⟨Zn,[]⟩),
 (177,⟨[(0,aT),(1,.one (.int .u8))],L3⟩),
 (178,⟨[(0,aT),(1,gn),(2,eh),(3,aa)],L3⟩),
 (179,⟨[(0,gn),(1,.fn 180 [] [])],[]⟩),
 (180,⟨pB,[]⟩),
 (184,⟨Zl,[]⟩),
 (185,⟨[(0,aa),(1,gn),(2,zP)],[]⟩),
 (186,⟨Hr,cC⟩),
 (187,⟨[],[]⟩),
 (188,⟨pB,[]⟩),
 (189,⟨Zn,[]⟩),
 (191,⟨[(0,aT),(1,eh)],L3⟩),
 (192,⟨dG,[]⟩),
 (193,⟨[(0,c9),(1,.fn dy [] [])],cC⟩),
 (195,⟨[(0,c9),(1,.fn 196 [] [])],cC⟩),
 (198,⟨[(0,c9),(1,aa),(2,aa),(3,aa),(4,.fn dy [] [])],cC⟩),
 (200,⟨[(0,c9),(1,aa),(2,aa),(3,.fn dy [] [])],cC⟩),
 (201,⟨[(0,c9),(1,aa),(2,aa),(3,.fn dy [] [])],cC⟩),
 (202,⟨[(0,c9),(1,aa),(2,aa),(3,.fn dy [] [])],cC⟩),
 (203,⟨[(0,gn),(1,aa),(2,aa),(3,.fn dy [] [])],[]⟩),
 (204,⟨[(0,c9),(1,aa),(2,aa),(3,.fn dy [] [])],cC⟩),
 (205,⟨[(0,c9),(1,aa),(2,aa),(3,.fn dy [] [])],cC⟩),
 (206,⟨[(0,c9),(1,aa),(2,aa),(3,aa),(4,.fn dy [] [])],cC⟩),
 (207,⟨[(0,c9),(1,aa),(2,aa),(3,aa),(4,.fn dy [] [])],cC⟩),
 (208,⟨[(0,c9),(1,aa),(2,aa),(3,aa),(4,.fn dy [] [])],cC⟩),
 (209,⟨[(0,gn),(1,aa),(2,aT),(3,.fn dy [] [])],nt⟩),
 (210,⟨[(0,gn),(1,aa),(2,aa),(3,aa),(4,aT),(5,.fn dy [] [])],nt⟩),
 (211,⟨[(0,gn),(1,aa),(2,aa),(3,aT),(4,.fn dy [] [])],nt⟩),
 (233,⟨Hq,[.var 245 [xX,.one (.dt mB 2)],aZ,.map mB]⟩),
 (234,⟨[(0,gn),(1,.fn 157 [] [])],[]⟩),
 (235,⟨[(0,gn),(1,.fn 157 [] [])],[]⟩),
 (236,⟨[(0,fm),(1,.fn 160 [] [.aF 0 0 0])],nt⟩),
 (237,⟨[(0,c9),(1,.fn 188 [] [])],cC⟩),
 (238,⟨[(0,gn),(1,.fn 188 [] [])],[]⟩),
 (239,⟨[(0,c9),(1,.fn 180 [] [])],cC⟩),
 (240,⟨[(0,.one (.row 112 0 [0])),(1,aa)],[rV]⟩),
 (241,⟨[(0,fm),(1,.fn 163 [] [.aF 0 0 0,.aF 1 0 0,.aF 2 0 0])],Hj⟩),
 (242,⟨[(0,fm),(1,.fn 162 [] [.aF 0 0 0,.aF 1 0 0,.aF 2 0 0])],Hk⟩),
 (243,⟨[(0,fm),(1,.fn 161 [] [.aF 0 0 0,.aF 1 0 0])],[.var 163 [.one (.whole 112 2)],Hc,vU,rV]⟩),
 (244,⟨[(0,fm),(1,.fn 155 [] [.aF 0 0 0,.aF 1 0 0])],[.var 163 [.one (.whole 112 2)],Hc,vU,rV]⟩),
 (245,⟨[(0,fm),(1,.fn 158 [] [.aF 0 0 0,.aF 1 0 0,.aF 2 0 0,.aF 3 0 0])],Hl⟩),
 (246,⟨[(0,fm),(1,.fn 159 [] [.aF 0 0 0,.aF 1 0 0,.aF 2 0 0])],[Za,.var 163 [.one (.whole 112 3)],SY,vU,rV]⟩),
 (247,⟨[(0,gn),(1,.fn 119 [] [])],[]⟩),
 (248,⟨[(0,gn),(1,.fn 119 [] [])],[]⟩)]
def avB:List (Nat×Shape):=[(3,⟨fD,[]⟩),
 (4,⟨[(0,Hb)],[cH,ou]⟩),
 (5,⟨s9,uD⟩),
 (6,⟨[(0,eh)],uD⟩),
 (7,⟨[(0,Y5),(1,aa)],[]⟩),
 (8,⟨[(0,.agg [.whole 88 0,.int .i64]),(1,xX),(2,aa)],[qh,aZ]⟩),
 (9,⟨fD,[]⟩),
 (10,⟨fD,[]⟩),
 (11,⟨[(0,.agg [.whole 88 0,.int .i64]),(1,aa)],[qh]⟩),
 (12,⟨[(0,.one (.whole 120 0)),(1,aa),(2,aa)],[S4]⟩),
 (13,⟨fD,[]⟩),
 (14,⟨fD,[]⟩),
 (15,⟨fD,[]⟩),
 (16,⟨L9,L4⟩),
 (17,⟨dG,uD⟩),
 (18,⟨dG,uD⟩),
 (19,⟨dG,[]⟩),
 (20,⟨dG,[.var 62 [rU,.one (.whole 135 2),aa],ou,zR]⟩),
 (21,⟨[(0,Hb)],[cH,cd]⟩),
 (22,⟨[(0,Y5),(1,mE),(2,aa)],[.var 62 [rU,.one (.whole 135 3),aa],Ej,.dead,zR]⟩),
 (23,⟨dG,[]⟩),
 (24,⟨[(0,.agg [.list 23,.list 23,.list 23,.list 3])],[]⟩),
 (25,⟨dG,vX⟩),
 (26,⟨dG,vX⟩),
 (27,⟨dG,vX⟩),
 (28,⟨[(0,Hb),(1,aa)],[cH,cd]⟩),
 (29,⟨pB,[]⟩),
 (30,⟨[(0,Y7)],cC⟩),
 (31,⟨fD,[]⟩),
 (32,⟨dG,[]⟩),
 (33,⟨[(0,.one (.whole 4 0))],[cH]⟩),
 (34,⟨dG,[]⟩),
 (35,⟨[(0,.one (.whole 101 0))],[Hf]⟩),
 (36,⟨dG,L5⟩),
 (37,⟨[(0,LO)],[]⟩),
 (38,⟨dG,[]⟩),
 (39,⟨dG,[]⟩),
 (40,⟨fD,[]⟩),
 (41,⟨[(0,.one (.whole 114 0))],[ajg]⟩),
 (42,⟨fD,[]⟩),
 (43,⟨dG,[]⟩),
 (44,⟨[(0,dj)],s8⟩),
 (45,⟨[(0,.agg [.bool,.bool,.bool,.int .i64,.int .i64,.whole 112 0])],[vU]⟩),
 (46,⟨[(0,.agg [.bool,.bool,.bool,.bool,.bool,.bool])],[]⟩),
 (47,⟨BM,[]⟩),
 (48,⟨L9,L4⟩),
 (49,⟨L9,L4⟩),
 (50,⟨L9,L4⟩),
 (51,⟨L9,L4⟩),
 (52,⟨dG,[]⟩),
 (53,⟨[(0,Hb),(1,Eb)],[cH,cd,aZ]⟩),
 (54,⟨[(0,.agg [.int .i64,.bool,.whole 22 0,.whole 22 1,.whole 3 2,.whole 3 3,.whole 22 4,.whole 215 5,.int .i64]),(1,aa)],[cd,cd,aZ,aZ,cd,qS]⟩),
 (56,⟨fD,[]⟩),
 (57,⟨fD,[]⟩),
 (58,⟨fD,[]⟩),
 (59,⟨[(0,Hb)],[cH,ou]⟩),
 (60,⟨fD,[]⟩),
 (61,⟨fD,[]⟩),
 (62,⟨fD,[]⟩),
 (63,⟨[(0,ai0)],[qT]⟩),
 (64,⟨[],dQ⟩),
 (65,⟨dG,[Zb,.dead,aZ]⟩),
 (66,⟨dG,[]⟩),
 (67,⟨dG,[]⟩),
 (68,⟨dG,vX⟩),
 (69,⟨dG,vX⟩),
 (70,⟨dG,vX⟩),
 (71,⟨dG,vX⟩),
 (72,⟨dG,vX⟩),
 (73,⟨[(0,mU)],vW⟩),
 (74,⟨dG,vX⟩),
 (75,⟨dG,[]⟩),
 (76,⟨s9,LZ⟩),
 (77,⟨pB,[]⟩),
 (78,⟨fD,Td⟩),
 (79,⟨dG,Td⟩),
 (80,⟨[(0,.agg [.int .i64,.int .i64,.whole 4 4,.whole 22 5])],[.var 196 [aa,LM,G5,aa,Ec],.dead,.dead,.map 183,cH,cd,fC]⟩),
 (81,⟨fD,[]⟩),
 (82,⟨[(0,.one (.whole 112 0))],[vU]⟩),
 (83,⟨[],[vU]⟩),
 (84,⟨[(0,.one (.whole 163 0))],[rV]⟩),
 (85,⟨fD,[]⟩),
 (86,⟨fD,[]⟩),
 (87,⟨dG,[]⟩),
 (88,⟨dG,L5⟩),
 (89,⟨dG,L5⟩),
 (90,⟨dG,L5⟩),
 (91,⟨dG,L5⟩),
 (92,⟨Ma,[]⟩),
 (93,⟨Ma,[]⟩),
 (94,⟨Ma,[]⟩),
 (95,⟨Ma,[]⟩),
 (96,⟨Ma,[]⟩),
 (97,⟨fD,[]⟩),
 (98,⟨[(0,ai3)],[]⟩),
 (99,⟨BM,[]⟩),
 (100,⟨BM,[]⟩),
 (101,⟨[(0,Y2)],[ly]⟩),
 (102,⟨[(0,Hb),(1,Eb)],[cH,cd,aZ]⟩),
 (103,⟨[(0,dj)],s8⟩),
 (104,⟨[(0,aT),(1,.one (.Jf .i64 0))],rW⟩),
 (105,⟨fD,Zi⟩),
 (106,⟨dG,Zi⟩),
 (107,⟨dG,[]⟩),
 (108,⟨fD,[]⟩),
 (110,⟨[],dQ⟩),
 (111,⟨dG,[]⟩),
 (112,⟨fD,[]⟩),
 (113,⟨fD,[]⟩),
 (114,⟨fD,[]⟩),
 (115,⟨dG,Td⟩),
 (116,⟨pB,[]⟩),
 (117,⟨El,[]⟩),
 (118,⟨[(0,eh)],[]⟩),
 (119,⟨fD,[]⟩),
 (124,⟨[],xZ⟩),
 (125,⟨[],xZ⟩),
 (126,⟨fD,[]⟩),
 (127,⟨fD,[]⟩),
 (128,⟨[(0,ai1),(1,mF),(2,aa)],[ot,cH,cd,aZ]⟩),
 (129,⟨dG,vV⟩),
 (130,⟨fD,vV⟩),
 (131,⟨fD,[]⟩),
 (132,⟨dG,Zj⟩),
 (133,⟨[(0,dj)],s8⟩),
 (134,⟨[(0,eh)],[]⟩),
 (135,⟨[(0,dj)],s8⟩),
 (136,⟨dG,Zj⟩),
 (137,⟨fD,Zj⟩),
 (138,⟨[],dQ⟩),
 (139,⟨[],dQ⟩),
 (140,⟨[],dQ⟩),
 (141,⟨Em,[Zb,.dead,aZ]⟩),
 (142,⟨[],dQ⟩),
 (143,⟨fD,dQ⟩),
 (144,⟨dG,dQ⟩),
 (145,⟨[(0,aa),(1,ai)],dQ⟩),
 (147,⟨dG,[]⟩),
 (148,⟨fD,nt⟩),
 (149,⟨pB,[]⟩),
 (150,⟨El,[]⟩),
 (151,⟨[(0,Y6)],[]⟩),
 (152,⟨[],vY⟩),
 (153,⟨[(0,eh)],[.var 238 [D9,D9],.dead]⟩),
 (154,⟨fD,[]⟩),
 (157,⟨fD,[]⟩),
 (164,⟨dG,[]⟩),
 (165,⟨dG,[.var 245 [Eb,.one (.dt mB 3)],.dead,aZ,.map mB]⟩),
 (167,⟨BM,[]⟩),
 (168,⟨BM,[SZ]⟩),
 (171,⟨pB,[]⟩),
 (172,⟨pB,[]⟩),
 (174,⟨[(0,Y7)],cC⟩),
 (176,⟨[(0,Y6)],[]⟩),
 (177,⟨[(0,D9)],vY⟩),
 (178,⟨[],vY⟩),
 (179,⟨dG,[]⟩),
 (180,⟨fD,[]⟩),
 (184,⟨Hr,cC⟩),
 (185,⟨pB,[]⟩),
 (186,⟨[(0,Ee)],LW⟩),
 (187,⟨[(0,Y7)],cC⟩),
 (188,⟨fD,[]⟩),
 (189,⟨pB,[]⟩),
 (191,⟨[(0,aa),(1,D9)],vY⟩),
 (192,⟨dG,[]⟩),
 (193,⟨[],cC⟩),
 (195,⟨[(0,Ee)],LW⟩),
 (198,⟨[],cC⟩),
 (200,⟨[],cC⟩),
 (201,⟨[],cC⟩),
 (202,⟨[],cC⟩),
 (203,⟨Em,[]⟩),
 (204,⟨[],cC⟩),
 (205,⟨fD,cC⟩),
 (206,⟨dG,cC⟩),
 (207,⟨[(0,aa),(1,ai)],cC⟩),
 (208,⟨[],cC⟩),
 (209,⟨dG,nt⟩),
 (210,⟨dG,nt⟩),
 (211,⟨Em,nt⟩),
 (233,⟨dG,[.var 245 [mF,.one (.dt mB 2)],.dead,.map mB,aZ]⟩),
 (234,⟨fD,[]⟩),
 (235,⟨dG,[]⟩),
 (236,⟨[],nt⟩),
 (237,⟨[(0,Ee)],LW⟩),
 (238,⟨dG,[]⟩),
 (239,⟨[(0,Ee)],LW⟩),
 (240,⟨[],[rV]⟩),
 (241,⟨[],Hj⟩),
 (242,⟨[],Hk⟩),
 (243,⟨[],ya⟩),
 (244,⟨[],ya⟩),
 (245,⟨[],Hl⟩),
 (246,⟨[],LX⟩),
 (247,⟨fD,[]⟩),
 (248,⟨dG,[]⟩)]
def avC:List (Nat×Shape):=[(104,⟨[(0,.one (.gX)),(1,aa)],[]⟩),
 (186,⟨Hr,cC⟩),
 (195,⟨Hr,cC⟩),
 (237,⟨Hr,cC⟩),
 (239,⟨Hr,cC⟩)]
def avD(n:Nat):List Nat:=(List.range (n.log2+1)).filter n.testBit
def ak1:Nat→List Nat→List (Nat×List Nat)
 |i,g::n::l=>(List.range g).map (fun j=>(i+j,[]))++(i+g,avD n)::ak1 (i+g+1) l
 |_,_=>[]
def abl(l:List (Nat×List Nat)):List (Nat×List (Nat×List Nat)):=l.map fun e=>(e.1,ak1 0 e.2)
def avE:List (Nat×List (Nat×List Nat)):=abl [(3,[0,3,0,34,0,96,0,480,0,137438953696,0,16,0,2784,0,70368744180448,0,16,0,36028797018966752,0,16,0,14560,0,129120,0,604462909807314587406432,0,16,0,184384,0,16]),
 (4,[0,19,0,50,0,16]),
 (5,[0,1,0,33,0,1,0,4]),
 (6,[0,7,0,135,0,387,0,16771,0,387,0,387,0,64]),
 (8,[0,6,0,38,0,262182,0,28,0,8388614,0,28,0,198,0,4398046511174,0,28,0,262,0,1008806316530991366,0,2161727821137838342,0,1008806316530992902,0,37902294463950096134,0,1008806316530991366,0,1008806316530991366,0,1008806316530991366,0,2310,0,69324642199981295394350958852,0,148552804714245632987894909188,0,69324642199981295394350971140,0,1336975242428210696891054168324,0,69324642199981295394350958852,0,69324642199981295394350958852,0,16644,0,28]),
 (9,[0,2,0,130,0,4,0,3074,0,7170,0,3082,0,3098,0,16780314,0,3098,0,4398046514178,0,4,0,3074,0,4]),
 (10,[1,6,0,1]),
 (11,[0,6,0,22,0,8214,0,12,0,38,0,102,0,14680166,0,31457382,0,14680550,0,551551206,0,14680806,0,274892587750,0,14680806,0,281474991391462,0,14680806,0,14680678,0,14680166,0,14680166,0,36,0,12]),
 (12,[0,6,0,132,0,262276,0,112,0,33554436,0,112,0,260,0,260,0,772,0,1796,0,105553116268292,0,246290604623620,0,105553116270340,0,13616351998381828,0,31630750507863812,0,13616351998394116,0,157731540074241796,0,13616351998381828,0,13616351998381828,0,105553116268292,0,112]),
 (13,[0,6,0,36,0,16]),
 (14,[0,6,0,1048582,0,16,0,38,0,469762086,0,1006632998,0,469762278,0,9059696742,0,469762086,0,469762086,0,16]),
 (15,[0,7,0,33554439,0,64,0,135,0,391,0,240518168966,0,515396075910,0,240518170502,0,70609262348166,0,240518170502,0,240518172550,0,147573952830194585478,0,240518172550,0,9671406556917273915819398,0,240518168966,0,240518168966,0,64]),
 (16,[0,71,0,327,0,839,0,64,0,33095,0,64,0,4194375,0,64,0,64]),
 (17,[0,1,0,4]),
 (18,[0,3,0,16387,0,16,0,3,0,16]),
 (19,[0,2,0,32770,0,4,0,10,0,1048586,0,4,0,68719476746,0,4,0,1924145348618,0,4123168604170,0,1924145348650,0,283399122059306,0,4,0,3942573819297802,0,8446173446668298,0,3942573819297930,0,2309785583032991754,0,4,0,3942573819297802,0,1924145348618,0,4]),
 (21,[0,6,0,134,0,4,0,12,0,4]),
 (22,[0,5,0,101,0,134217829,0,28,0,165,0,17179869349,0,28,0,421,0,933,0,36028797018964901,0,933,0,933,0,933,0,541598767187353870268367269,0,1160568786830044007717929381,0,541598767187353870268370341,0,541598767187353870268368293,0,541598767187353870268368293,0,541598767187353870268368293,0,541598767187353870268372389,0,664613998434056703639257400408544677,0,541598767187353870268372389,0,541598767187353870268372389,0,541598767187353870268367269,0,8613,0,40922045845265281709703175316055924550366111211940,0,87690098239854175092221089962976981179355952587172,0,40922045845265281709703175316055924550366111261092,0,40922045845265281709703175316055924550366111261092,0,335274321610258453047598115364446189841149549088924068,0,718398206826730667637184872152023485745834329634824612,0,335274321610258453047598115364446189841149549089120676,0,335274321610258453047598115364446189841149549088924068,0,335274321610258453047598115364446189841149549088924068,0,40922045845265281709703175316055924550366111211940,0,28]),
 (23,[0,2,0,514,0,4,0,26,0,67108874,0,4,0,1879048202,0,4026531850,0,1879048298,0,4399925559306,0,4,0,1879048202,0,9444732965739290427392,0,4,0,4]),
 (24,[0,5,0,13,0,29,0,61,0,100663357,0,234881085,0,100663421,0,100663421,0,51640270973,0,120359747709,0,51640271101,0,51640271101,0,51640270973,0,51640270973,0,110680464442357973117,0,258254417032034386045,0,110680464442357973373,0,151226407916271004811645,0,906805045175414239003005,0,2115730864790043413709181,0,906805045175414239003517,0,906805045175414239003005,0,906805045175414239003005,0,110680464442357973117,0,17747108403195211620953945538685,0,38029518006846882044901196824701,0,17747108403195211620953945540733,0,180006385232408575012531955826813,0,17747108403195211620953945538685,0,17747108403195211620953945538685,0,100663357,0,20,0,4]),
 (25,[0,3,0,35,0,28707,0,61475,0,28899,0,2125923,0,28707,0,28707,0,16]),
 (26,[0,7,0,391,0,1927,0,7516194695,0,16106129287,0,7516198791,0,7704097593223,0,16500190615431,0,7704097617799,0,7704097699719,0,618970019642697841547229063,0,7704097666951,0,10889035741470030830827987445520680368007,0,7704097593223,0,7704097593223,0,7516194695,0,132103,0,393223,0,524295,0,1572865,0,47890485652059026823698344598447161988085597569810433,0,64,0,64]),
 (27,[0,3,0,1027,0,16,0,35,0,1835041,0,3932193,0,1835169,0,1835041,0,1835041,0,16]),
 (28,[0,22,0,86,0,8278,0,48,0,144,0,4194448,0,400,0,67109264,0,48,0,48]),
 (29,[0,19,0,16]),
 (30,[0,5,0,4]),
 (31,[0,6,0,16390,0,16,0,38,0,102,0,102,0,16]),
 (32,[0,6,0,4102,0,16,0,65542,0,16,0,1835014,0,3932166,0,1835110,0,538705926,0,16,0,1835014,0,2199023255552,0,16,0,16]),
 (33,[0,2,0,10,0,10,0,26,0,131098,0,26,0,16777242,0,58,0,8589934650,0,58,0,2199023255610,0,26,0,4]),
 (34,[0,1,0,8,0,24,0,24,0,24,0,4,0,256,0,4,0,4]),
 (35,[0,12,0,44,0,36,0,100,0,33554532,0,100,0,228,0,206158430436,0,481036337380,0,206158431204,0,4604204941796,0,206158431716,0,70574902609380,0,211312390964708,0,211312390964708,0,206158430692,0,206158430436,0,4611756593329997284,0,206158430436,0,1180591620923569734884,0,206158431460,0,206158430436,0,206158430436,0,16]),
 (36,[0,49,0,2097,0,6193,0,64,0,2099249,0,64,0,536873009,0,64,0,4398046513201,0,64,0,2361183241434822608945,0,64,0,158456325028528675187087902769,0,64,0,41538374868278621028243970633760817,0,177,0,433,0,897,0,64,0,64]),
 (37,[0,5,0,4]),
 (38,[0,2,0,4]),
 (39,[0,14,0,268435470,0,64,0,3221225486,0,7516192782,0,3221225614,0,3221225486,0,3221225486,0,64]),
 (40,[0,3,0,65539,0,16,0,786435,0,1835011,0,786467,0,17180655619,0,16,0,786435,0,16]),
 (41,[0,14,0,142,0,98446,0,229518,0,98702,0,1147278,0,3244430,0,98446,0,4296114574,0,140737488454030,0,98446,0,288230376152859022,0,98446,0,147573952589677560206,0,98446,0,618970019642690137450709390,0,98446,0,2596148429267413814265248165757326,0,99214,0,166153499473114484112975882535142286,0,99214,0,680564733841876926926749214863536522126,0,99214,0,89202980794122492566142873090593446024020366,0,98446,0,98446,0,64]),
 (42,[0,6,0,16]),
 (43,[0,7,0,32775,0,64,0,262151,0,64,0,3670023,0,7864327,0,3670407,0,3670919,0,18889465931478584524807,0,64,0,3670023,0,9671406556917033397649408,0,64,0,64]),
 (44,[0,3,0,35,0,24611,0,57379,0,24675,0,24611,0,24611,0,35,0,161,0,134217889,0,161,0,17179869345,0,417,0,4398046511521,0,417,0,2305843009213694113,0,161,0,16]),
 (45,[0,78,0,206,0,462,0,974,0,16778190,0,974,0,974,0,2147484622,0,974,0,974,0,1998,0,1998,0,1688849860265934,0,3940649673951182,0,1688849860267982,0,55732045388713934,0,127789639426641870,0,55732045388718030,0,55732045388726222,0,632192797692149710,0,1785114302298996686,0,55732045388722126,0,9855564834546925518,0,9855564834546925518,0,55732045388722126,0,2361815434232514756558,0,55732045388722126,0,4835703910651314390974414,0,55732045388722126,0,633825300114746893546043752398,0,55732045388722126,0,83076749736557242112219986656247758,0,55732045388722126,0,55732045388713934,0,55732045388713934,0,1688849860265934,0,64]),
 (46,[0,5,0,12,0,28,0,4,0,140,0,4,0,1036,0,4,0,8204,0,4,0,65548,0,65548,0,4,0,1048580,0,4,0,4]),
 (47,[0,7,0,64]),
 (48,[0,71,0,192,0,393408,0,917696,0,393664,0,235274688,0,503710144,0,235276224,0,235274688,0,235274688,0,393408,0,192,0,64]),
 (49,[0,71,0,199,0,451,0,451,0,963,0,134218691,0,963,0,963,0,1475,0,140737488356803,0,1475,0,3523,0,7619,0,4503599627378115,0,7619,0,7619,0,11715,0,2305843009213705667,0,11715,0,28099,0,28099,0,11715,0,64]),
 (50,[0,19,0,51,0,115,0,29360243,0,62914675,0,29360499,0,29360499,0,29361011,0,29362035,0,274907268979,0,29362035,0,29364083,0,29368179,0,562949982789491,0,7881299377266547,0,16888498632007539,0,7881299377291123,0,584342051680698227,0,7881299377266547,0,7881299377266547,0,29368179,0,29362035,0,29360243,0,29360243,0,16]),
 (51,[0,71,0,199,0,451,0,451,0,963,0,16778179,0,963,0,963,0,1987,0,4035,0,137438957507,0,4035,0,4035,0,963,0,64]),
 (52,[0,3,0,67,0,16,0,3,0,2051,0,1,0,16]),
 (53,[0,6,0,54,0,118,0,246,0,1879048438,0,4026532086,0,1879049206,0,551634862582,0,1879049718,0,985164297537014,0,2111064204379638,0,985164297543158,0,985164297537014,0,985164297537014,0,1879049462,0,1879048438,0,1879048438,0,24676,0,57444,0,1083197534374707740536791108,0,2321137573660088015435915332,0,1083197534374707740536987716,0,1083197534374707740536987716,0,317995847591432058114712789060,0,1083197534374707740536791108,0,1083197534374707740536791108,0,12]),
 (54,[0,19,0,208,0,65744,0,48,0,2097232,0,336,0,33554768,0,48,0,48]),
 (56,[0,3,0,16]),
 (57,[0,6,0,16]),
 (58,[0,2,0,10,0,16777226,0,4,0,2251799813685258,0,4,0,63050394783186954,0,135107988821114890,0,63050394783186986,0,295210955574136012810,0,4,0,63050394783186954,0,4]),
 (59,[0,6,0,14,0,3670030,0,7864334,0,3670078,0,3670078,0,120262754366,0,257701707838,0,120262754558,0,120262754366,0,120262754366,0,3670030,0,4]),
 (60,[0,3,0,1027,0,16,0,12291,0,28675,0,12323,0,16789507,0,16,0,12291,0,16]),
 (61,[0,3,0,1027,0,16,0,12291,0,28675,0,12323,0,16789507,0,16,0,12291,0,16]),
 (62,[0,3,0,1027,0,16,0,12291,0,28675,0,12323,0,16789507,0,16,0,12291,0,16]),
 (63,[0,1,0,9,0,777,0,1801,0,793,0,777,0,777,0,4]),
 (64,[0,19,0,0]),
 (65,[0,7,0,32]),
 (66,[0,1,0,9,0,456,0,968,0,488,0,16872,0,4,0,456,0,4]),
 (67,[0,3,0,35,0,99,0,2115,0,4096,0,16,0,16,0,8195,0,16,0,65539,0,16,0,524288,0,16,0,16]),
 (68,[0,3,0,16]),
 (69,[0,3,0,259,0,16,0,33,0,16]),
 (70,[0,7,0,64]),
 (71,[0,1,0,4]),
 (72,[0,7,0,64]),
 (73,[0,7,0,391,0,903,0,120259085191,0,257698038663,0,120259088263,0,281595235796871,0,120259085191,0,120259085191,0,504403158265496451,0,1080863910568919939,0,504403158265504643,0,517013237222132949891,0,1107309047580838601603,0,517013237222132999043,0,1058327105400022660866947,0,2267252925014651835573123,0,1058327105400022661063555,0,1058327105400022661849987,0,680564733841877985253854614886197355395,0,1058327105400022660866947,0,1058327105400022660866947,0,517013237222132949891,0,504403158265496451,0,64]),
 (74,[0,9,0,105,0,131113,0,41,0,41,0,32,0,16]),
 (75,[0,6,0,1030,0,16,0,8198,0,16,0,131072,0,16,0,16]),
 (76,[0,6,0,38,0,36,0,32,0,16]),
 (77,[0,6,0,38,0,4,0,4]),
 (78,[0,1,0,4]),
 (79,[0,1,0,9,0,196617,0,458761,0,196633,0,196729,0,274878103673,0,4,0,197049,0,2251799813882041,0,288230376151908409,0,4,0,196761,0,196617,0,196617,0,1,1,4]),
 (80,[0,5,0,13,0,14680076,0,31457292,0,14680108,0,14680076,0,14680076,0,4]),
 (81,[0,2,0,4]),
 (82,[0,2,0,4]),
 (83,[0,0]),
 (84,[0,28,0,540,0,1564,0,64,0,131612,0,64,0,67109404,0,67109404,0,64,0,8589934620,0,64,0,156,0,128,0,64]),
 (85,[0,3,0,16]),
 (86,[0,14,0,16398,0,64,0,131086,0,67108874,0,64,0,536870922,0,64,0,64]),
 (87,[0,2,0,4]),
 (88,[0,9,0,105,0,131113,0,41,0,41,0,32,0,16]),
 (89,[0,1,0,4]),
 (90,[0,7,0,64]),
 (91,[0,7,0,64]),
 (92,[0,22,0,20,0,16]),
 (93,[0,19,0,51,0,114,0,1138,0,114,0,114,0,16]),
 (94,[0,28,0,16]),
 (95,[0,28,0,16]),
 (96,[0,28,0,16]),
 (97,[0,7,0,131,0,64,0,64]),
 (98,[0,22,0,54,0,118,0,8310,0,118,0,2097270,0,402653300,0,939524212,0,402653684,0,402653300,0,402653300,0,8796093022324,0,48,0,281474976710708,0,48,0,16]),
 (99,[0,30,0,542,0,1560,0,4195864,0,8589935112,0,512,0,256,0,13194139534872,0,30786325579288,0,13194139536920,0,13194139536920,0,288243570291248664,0,13194139534872,0,13194139534872,0,256]),
 (100,[0,31,0,16415,0,524304,0,1024,0,1024,0,2079,0,25167887,0,58722319,0,25171983,0,293607439,0,25167887,0,25167887,0,25167887,0,1024]),
 (101,[0,3,0,35,0,99,0,4195,0,99,0,227,0,67109091,0,227,0,227,0,16]),
 (102,[0,6,0,8198,0,12,0,54,0,180,0,6442451124,0,15032385716,0,6442451380,0,6442451124,0,6442451124,0,3848290697364,0,8246337208468,0,3848290698900,0,3848290697364,0,3848290697364,0,12]),
 (103,[0,2,0,262146,0,4,0,26,0,117440538,0,251658266,0,117440634,0,68836917306,0,117440538,0,117440538,0,154,0,410,0,492581209244058,0,1055531162665370,0,492581209245594,0,492581209247642,0,2018105214271228826,0,4323948223484922778,0,2018105214271241114,0,2018105214271228826,0,2018105214271228826,0,492581209295770,0,1208925820107210383969178,0,492581209263002,0,492581209260954,0,492581209244058,0,492581209244058,0,19807040628566084398385987970,0,4,0,26]),
 (104,[0,3,0,4194307,0,48,0,67,0,67,0,3848290697282,0,8246337208386,0,3848290697538,0,144119036366553410,0,48,0,3848290697282,0,3848290697282,0,578,0,4722366482869645214272,0,576,0,270799383593676935134184000,0,580284393415022003858965056,0,270799383593676935134187072,0,270799383593676935134191168,0,270799383593676935134215744,0,81129909213990275372724139343424,0,270799383593676935134192192,0,270799383593676935134192192,0,270799383593676935134184000,0,270799383593676935134184000,0,48]),
 (105,[0,1,0,4]),
 (106,[0,1,0,9,0,25,0,939524121,0,2013265945,0,939524217,0,939524281,0,939525049,0,939526073,0,73786976295777732537,0,4,0,302231454903658233202105,0,939524409,0,158456325028528675188027426105,0,939524409,0,939524121,0,939524121,0,1,1,4]),
 (107,[0,3,0,387,0,899,0,419,0,65955,0,16,0,387,0,16]),
 (108,[0,3,0,898,0,1922,0,962,0,525186,0,16,0,898,0,16]),
 (110,[0,1055,0,3103,0,7199,0,33561631,1,4294974495,1,549755821087,0,7199,0,7199,0,31775,0,72057594037959711,0,15391,0,15391,0,31775,0,37778931862957161724959,0,1208925819614629174721567,0,158456325028528675187087916063,0,35869,0,3103,0,200735,0,71711,0,858143,0,1902623,0,42535295865117307932921825928972929055,0,68639,0,68637,0,3103,0,68639,0,68635,0,3103]),
 (111,[0,1,0,4,0,4]),
 (112,[0,1,0,4]),
 (113,[0,2,0,10,0,4]),
 (114,[0,6,0,518,0,16,0,134217734,0,16,0,536870918,0,16,0,1610612742,0,1610612742,0,16,0,137975824390,0,137975824390,0,137975824390,0,17592186044422,0,16,0,35184908959750,0,35184372088838,0,2251799813685254,0,16,0,63050394783186946,0,135107988821114882,0,63050394783187010,0,4674736413210574850,0,16,0,63050394783186946,0,16]),
 (115,[0,9,0,41,0,41,0,32,0,16]),
 (116,[0,6,0,518,0,4,0,14,0,7340046,0,15728654,0,7340094,0,7340046,0,7340046,0,4]),
 (117,[0,22,0,48]),
 (118,[0,2,0,66,0,4,0,10,0,8,0,4]),
 (119,[0,2,0,66,0,194,0,194,0,4,0,1090,0,4,0,32834,0,32834,0,3670016,0,7864320,0,3670032,0,137887744,0,4,0,3670016,0,4,0,536870914,0,4,0,4]),
 (124,[0,450,0,962,0,498,0,16882,0,498,0,498,0,450]),
 (125,[0,15,0,1039,1,1048581,0,0]),
 (126,[0,7,0,131,0,64,0,64]),
 (127,[0,30,0,2078,0,256,0,256]),
 (128,[0,271,0,2319,0,2317,0,6413,0,14605,0,33569037,0,14605,0,30989,0,63757,0,206158493965,0,481036400909,0,206158559501,0,206158493965,0,206158493965,0,4503599627434253,0,1792,0,30989,0,14605,0,1792]),
 (129,[0,7,0,32]),
 (130,[0,3,0,8]),
 (131,[0,1,0,4097,0,4,0,57345,0,122881,0,57361,0,67166209,0,4,0,57345,0,4]),
 (132,[0,63,0,8255,0,8255,0,8253,0,8249,0,8241,0,8225,0,8192,0,4096]),
 (133,[0,1,0,1025,0,4,0,8,0,49160,0,114696,0,49176,0,49160,0,49160,0,4]),
 (134,[0,1,0,9,0,3592,0,7688,0,3640,0,3592,0,3592,0,4]),
 (135,[0,3,0,4194307,0,16,0,35,0,469762082,0,1006632994,0,469762274,0,469762082,0,469762082,0,16]),
 (136,[0,7,0,263,0,64,0,64]),
 (137,[0,7,0,135,0,64]),
 (138,[0,271,0,16655,0,271,0,783,0,17179869967,0,783,0,783]),
 (139,[0,271,0,783,0,1801,0,3849,0,2101001,0,3849,0,3849,0,4873,0,8589939465,0,4873,0,4873,0,4873]),
 (140,[0,259,0,131331,0,771,0,1795,0,3843,0,34359742211,0,3843,0,7939,0,35184372096771,0,7939,0,3843]),
 (141,[0,15,0,1035,0,3083,0,7179,0,15371,0,31753,0,17179900937,0,68719507465,0,30729,0,30729,0,30729,0,10240,0,36028797018972160,0,768,0,180143985094828032,0,768,0,1152921504606855168,0,768]),
 (142,[0,261,0,769,0,33537,0,769,0,769,0,769]),
 (143,[0,15,0,527,0,1551,0,67087,0,1551,0,68719478287,0,1551,0,2199023257103,0,256,0,35184372090383,0,256,0,1551,0,36893488147419104783,0,3599,0,590295810358705655311,0,3599,0,19342813113834066795302415,0,3599,0,20282409603651670423947251287567,0,5647,0,649037107316853453566312041158159,0,5647,0,21267647932558653966460912964485518863,0,5647,0,256]),
 (144,[0,31,0,23,0,6163,0,140737488361491,0,6163,0,36893488147419109395,0,6163,0,1180591620717411309587,0,6163,0,6163,0,6163,0,1024]),
 (145,[0,31,0,23,0,12307,0,140737488367635,0,12307,0,73786976294838218771,0,12307,0,2361183241434822619155,0,8192,0,3072,0,12307,0,12307,0,12307,0,1329227995784915872903807060280356883,0,12307,0,696898287454081973172991196020261297074195,0,12307,0,22300745198530623141535718272648361505992723,0,12307,0,12307,0,12307,0,8192,0,3072]),
 (147,[0,5,0,21,0,1,0,5,0,261,0,5,0,5,0,16389,0,5,0,5,0,4]),
 (148,[0,14,0,65550,0,64,0,14,0,58720262,0,125829126,0,58720518,0,17238589446,0,64,0,58720262,0,64]),
 (149,[0,19,0,83,0,211,0,16,0,2131,0,16,0,32787,0,16,0,2097171,0,16,0,49,0,67108912,0,201326640,0,137438953520,0,16,0,16,0,35184372088880,0,140737488355376,0,16,0,144115188075855920,0,16,0,16,0,16]),
 (150,[0,6,0,134,0,12,0,12]),
 (151,[0,28,0,124,0,4220,0,12412,0,16,0,266364,0,16777336,0,56,0,16,0,2147487804,0,2147487804,0,2147487804,0,16,0,274877911100,0,144,0,400,0,16,0,144115188075855932,0,16,0,16]),
 (152,[0,9,0,41,0,105,1,1065,1,16425,1,4194345,1,268435497,1,17179869225,1,1099511627817,0,9,1,281474976710665,0,1,0,0]),
 (153,[0,1,0,4]),
 (154,[0,3,0,16]),
 (157,[0,2,0,4]),
 (164,[0,1,0,17,0,4,0,4]),
 (165,[0,3,0,99,0,131107,0,4194307,0,3,0,35,0,35,0,32,0,16]),
 (167,[0,1,0,4]),
 (168,[0,1,0,1,0,1,0,1,0,4]),
 (171,[0,5,0,37,0,4,0,12,0,4]),
 (172,[0,5,0,37,0,4,0,12,0,4]),
 (174,[0,1,0,1]),
 (176,[0,28,0,60,0,124,0,252,0,7340276,0,15728884,0,7341044,0,275776500,0,7340276,0,7341428,0,7340276,0,7340276,0,2288,0,126100789566376144,0,270215977642232016,0,126100789566388432,0,9349472826421164240,0,126100789566376144,0,126100789566396624,0,126100789566376144,0,126100789566376144,0,16]),
 (177,[0,3,0,3,1,16]),
 (178,[0,7181,0,15373,0,7949,0,269837,0,7693,0,67116557,0,7181,0,7693,0,7181,0,7181,0,7181]),
 (179,[0,3,0,387,0,899,0,419,0,65955,0,16,0,387,0,16]),
 (180,[0,2,0,4]),
 (183,[0,3,0,35,0,4131,0,16,0,99,0,524387,0,99,0,227,0,536871139,0,99,0,99,0,33,0,16]),
 (184,[0,3,0,35,0,1825,0,3873,0,1953,0,133025,0,1825,0,1825,0,1825,0,16]),
 (185,[0,99,0,355,0,867,0,64,0,4163,0,64,0,64]),
 (186,[0,1,0,1,0,4]),
 (187,[0,1,0,1]),
 (188,[0,2,0,4]),
 (189,[0,28,0,88,0,16,0,16]),
 (191,[0,3,0,3,0,2,0,48]),
 (192,[0,1,0,8,0,24,0,4,0,72,0,4,0,264,0,4,0,1032,0,4,0,4096,0,4,0,4]),
 (193,[0,19,0,0]),
 (195,[0,3,0,1027,0,16,0,35,0,32803,0,35,0,268435491,0,99,0,227,0,34359738595,0,227,0,562949953421539,0,227,0,227,0,33,0,16,0,16]),
 (198,[0,1055,0,3103,0,7199,0,33561631,1,4294974495,1,549755821087,0,7199,0,7199,0,31775,0,72057594037959711,0,15391,0,15391,0,31775,0,37778931862957161724959,0,1208925819614629174721567,0,158456325028528675187087916063,0,35869,0,3103,0,200735,0,71711,0,858143,0,1902623,0,42535295865117307932921825928972929055,0,68639,0,68637,0,3103,0,68639,0,68635,0,3103]),
 (200,[0,271,0,16655,0,271,0,783,0,17179869967,0,783,0,783]),
 (201,[0,271,0,783,0,1801,0,3849,0,2101001,0,3849,0,3849,0,4873,0,8589939465,0,4873,0,4873,0,4873]),
 (202,[0,259,0,131331,0,771,0,1795,0,3843,0,34359742211,0,3843,0,7939,0,35184372096771,0,7939,0,3843]),
 (203,[0,15,0,1035,0,3083,0,7179,0,15371,0,31753,0,17179900937,0,68719507465,0,30729,0,30729,0,30729,0,10240,0,36028797018972160,0,768,0,180143985094828032,0,768,0,1152921504606855168,0,768]),
 (204,[0,261,0,769,0,33537,0,769,0,769,0,769]),
 (205,[0,15,0,527,0,1551,0,67087,0,1551,0,68719478287,0,1551,0,2199023257103,0,256,0,35184372090383,0,256,0,1551,0,36893488147419104783,0,3599,0,590295810358705655311,0,3599,0,19342813113834066795302415,0,3599,0,20282409603651670423947251287567,0,5647,0,649037107316853453566312041158159,0,5647,0,21267647932558653966460912964485518863,0,5647,0,256]),
 (206,[0,31,0,23,0,6163,0,140737488361491,0,6163,0,36893488147419109395,0,6163,0,1180591620717411309587,0,6163,0,6163,0,6163,0,1024]),
 (207,[0,31,0,23,0,12307,0,140737488367635,0,12307,0,73786976294838218771,0,12307,0,2361183241434822619155,0,8192,0,3072,0,12307,0,12307,0,12307,0,1329227995784915872903807060280356883,0,12307,0,696898287454081973172991196020261297074195,0,12307,0,22300745198530623141535718272648361505992723,0,12307,0,12307,0,12307,0,8192,0,3072]),
 (208,[0,1053,0,3101,0,265245,0,1099511630877,0,3101,0,288230376151714845,0,2077,0,1053]),
 (209,[0,15,0,256]),
 (210,[0,63,0,63,0,55,0,4,0,4096]),
 (211,[0,31,0,4194318,0,6,0,3072,0,3072])]++[(7,[(0,[1,2]),(1,[1,2,4]),(2,[1,2,4,13]),(3,[2,3]),(4,[1,2,5,2000011]),(5,[2,5,6,2000011]),(6,[2,5,6,20,2000011]),(7,[2,3]),(8,[2,7,8,9]),(9,[2,7,8,9,29]),(10,[2,3]),(11,[2,7]),(12,[2,3])]),(20,[(0,[0,3,2000006]),(1,[0,3,5,2000006]),(2,[0,3,5,17,2000006]),(3,[4]),(4,[0,3,5,22,2000006]),(5,[0,3,5,2000006]),(6,[0,3,5,33,34,2000006]),(7,[0,3,5,33,34,35,2000006]),(8,[0,3,5,6,33,34,2000006]),(9,[0,3,5,6,33,34,37,38,2000006]),(10,[0,3,5,6,33,34,37,38,39,2000006]),(11,[0,3,5,6,7,33,34,37,38,2000006]),(12,[0,3,5,6,33,34,37,38,2000006]),(13,[0,3,5,6,33,34,37,38,2000006]),(14,[0,3,5,33,34,2000006]),(15,[0,5,2000006]),(16,[]),(17,[4])])]
def avF:List (Nat×List (Nat×List Nat)):=abl [(3,[37,224,8,2784,8,2784,23,53344]),
 (4,[]),
 (5,[5,1]),
 (6,[14,387]),
 (8,[18,6,4,6,18,70,17,1008806316530991366,4,1008806316530991366,30,69324642199981295394350958852,3,69324642199981295394350958852]),
 (9,[7,2,4,3074,11,3098,17,3074]),
 (10,[]),
 (11,[13,6,10,14680166,4,14680294,8,14680806,9,14680806]),
 (12,[18,4,6,4,21,105553116268292,6,13616351998381828,2,13616351998381828]),
 (13,[]),
 (14,[20,6,8,469762086,3,469762086]),
 (15,[25,7,12,240518168966,7,240518170502,20,240518172550,15,240518168966]),
 (16,[9,71,5,71,6,71]),
 (17,[]),
 (18,[14,3]),
 (19,[15,2,4,10,15,10,4,1924145348618,6,1924145348650,3,3942573819297802,8,3942573819297802]),
 (21,[7,6]),
 (22,[27,37,6,165,20,933,33,541598767187353870268367269,29,541598767187353870268372389,45,40922045845265281709703175316055924550366111211940,12,335274321610258453047598115364446189841149549088924068]),
 (23,[9,2,16,10,4,1879048202,10,1879048202,30,0]),
 (24,[27,100663357,8,51640270973,30,110680464442357973117,9,110680464442357973373,2,906805045175414239003005,23,17747108403195211620953945538685,2,17747108403195211620953945538685]),
 (25,[15,28707,5,28707]),
 (26,[33,7516194695,9,7704097593223,45,7704097666951,43,7704097593223,41,1572865]),
 (27,[10,3,10,1835041]),
 (28,[13,22,8,144,3,144]),
 (29,[]),
 (30,[]),
 (31,[14,6]),
 (32,[12,6,3,6,4,1835014,7,1835014,11,0]),
 (33,[17,26,6,26,8,58,7,26]),
 (34,[4,24,3,0]),
 (35,[25,100,12,206158430436,3,206158430692,4,211312390964708,14,206158430436,7,206158430436]),
 (36,[12,1,8,1,7,1,12,1,28,1,25,1,17,1]),
 (37,[]),
 (38,[]),
 (39,[28,14,3,3221225486]),
 (40,[16,3,3,786435,13,786435]),
 (41,[17,98446,3,98446,10,98446,14,98446,10,98446,8,98446,21,98446,21,98446,5,99214,11,99214,16,98446]),
 (42,[]),
 (43,[15,7,2,7,3,3670023,51,3670023,8,0]),
 (44,[15,24611,11,161,6,161,7,417,18,161]),
 (45,[24,974,6,974,19,1688849860265934,4,55732045388713934,3,55732045388722126,2,9855564834546925518,7,55732045388722126,10,55732045388722126,16,55732045388722126,16,55732045388722126]),
 (46,[4,4,2,4,2,4,2,4,2,65548,3,4]),
 (47,[]),
 (48,[19,393408,8,235274688]),
 (49,[27,963,19,1475,4,7619,8,11715]),
 (50,[25,29360243,12,29362035,10,29368179,3,7881299377266547,5,7881299377266547]),
 (51,[24,963,12,4035]),
 (52,[6,3,4,1]),
 (53,[31,1879048438,7,1879048694,10,985164297537014,39,1083197534374707740536791108,7,1083197534374707740536791108]),
 (54,[16,80,4,80,3,80]),
 (56,[]),
 (57,[]),
 (58,[24,10,26,10,4,63050394783186954,11,63050394783186954]),
 (59,[22,3670030,14,120262754366]),
 (60,[10,3,3,12291,9,12291]),
 (61,[10,3,3,12291,9,12291]),
 (62,[10,3,3,12291,9,12291]),
 (63,[10,777]),
 (64,[]),
 (65,[]),
 (66,[9,456,4,456]),
 (67,[11,67,1,3,2,3,2,0]),
 (68,[]),
 (69,[8,3]),
 (70,[]),
 (71,[]),
 (72,[]),
 (73,[37,120259085191,10,120259085191,10,504403158265496451,9,517013237222132949891,10,1058327105400022660866947,48,1058327105400022660866947]),
 (74,[17,32]),
 (75,[10,6,2,6,3,0]),
 (76,[]),
 (77,[5,6]),
 (78,[]),
 (79,[18,196617,19,196665,12,196761,6,196665]),
 (80,[24,14680076]),
 (81,[]),
 (82,[]),
 (83,[]),
 (84,[10,28,6,28,8,67109404,6,28]),
 (85,[]),
 (86,[14,14,2,10,8,10,2,10]),
 (87,[]),
 (88,[17,32]),
 (89,[]),
 (90,[]),
 (91,[]),
 (92,[]),
 (93,[10,114]),
 (94,[]),
 (95,[]),
 (96,[]),
 (97,[7,1]),
 (98,[13,118,7,116,7,402653300,13,48,4,48]),
 (99,[22,1560,10,512,10,13194139534872,13,13194139534872]),
 (100,[14,31,10,25167887,2,25167887]),
 (101,[12,99,13,227]),
 (102,[13,6,19,6442451124,8,3848290697364]),
 (103,[18,2,8,117440538,8,117440538,12,492581209244058,11,2018105214271228826,18,492581209260954,13,386]),
 (104,[22,3,19,3848290697282,14,3848290697538,14,576,15,270799383593676935134184000,17,270799383593676935134192192]),
 (105,[]),
 (106,[30,939524121,35,939524409,11,939524409,18,939524409]),
 (107,[9,387,6,387]),
 (108,[10,898,8,898]),
 (110,[25,7199,6,7199,6,7199,16,31775,18,15391,4,15391,16,12319,27,3103]),
 (111,[]),
 (112,[]),
 (113,[]),
 (114,[9,6,17,6,2,1610612742,6,137975824390,6,6,0,35184372088838,5,6,4,63050394783186946,5,63050394783186946]),
 (115,[]),
 (116,[9,6,13,7340046]),
 (117,[]),
 (118,[6,2]),
 (119,[7,194,7,32834,6,3670016,4,3670016,1,0]),
 (124,[9,450,4,498]),
 (125,[20,0]),
 (126,[7,1]),
 (127,[11,6]),
 (128,[25,14605,12,206158493965,13,63757]),
 (129,[]),
 (130,[]),
 (131,[12,1,3,57345,9,57345]),
 (132,[]),
 (133,[10,1,5,49160]),
 (134,[12,3592]),
 (135,[22,3,6,469762082]),
 (136,[8,7]),
 (137,[]),
 (138,[14,271,19,783]),
 (139,[21,3849,11,4873]),
 (140,[35,3843,9,7939]),
 (141,[34,10240,1,30729,20,768,2,768]),
 (142,[15,769]),
 (143,[16,1551,19,1551,4,1551,3,1551,19,1551,3,3599,14,3599,19,1551,4,5647,14,5647]),
 (144,[47,6163,17,6163,4,6163]),
 (145,[47,12307,18,12307,4,12307,48,12307,18,12307,4,12307]),
 (147,[4,5,3,5,5,5]),
 (148,[16,14,9,58720262,7,58720262]),
 (149,[7,19,3,19,3,19,5,19,5,16,9,48,7,16,1,48,9,48]),
 (150,[7,6]),
 (151,[13,48,4,48,5,56,6,2147487804,6,48,18,48]),
 (152,[48,0]),
 (153,[]),
 (154,[]),
 (157,[]),
 (164,[4,1]),
 (165,[17,32,4,3]),
 (167,[]),
 (168,[]),
 (171,[5,5]),
 (172,[5,5]),
 (174,[]),
 (176,[23,7340276,4,7340916,28,126100789566376144,5,126100789566388432]),
 (177,[]),
 (178,[13,7181,4,7693,7,7693]),
 (179,[9,387,6,387]),
 (180,[]),
 (183,[12,35,6,99,9,99]),
 (184,[11,1825,5,1825]),
 (185,[9,67,2,67]),
 (186,[]),
 (187,[]),
 (188,[]),
 (189,[6,24]),
 (191,[]),
 (192,[12,0]),
 (193,[]),
 (195,[10,3,4,35,12,35,6,227,13,227]),
 (198,[25,7199,6,7199,6,7199,16,31775,18,15391,4,15391,16,12319,27,3103]),
 (200,[14,271,19,783]),
 (201,[21,3849,11,4873]),
 (202,[35,3843,9,7939]),
 (203,[34,10240,1,30729,20,768,2,768]),
 (204,[15,769]),
 (205,[16,1551,19,1551,4,1551,3,1551,19,1551,3,3599,14,3599,19,1551,4,5647,14,5647]),
 (206,[47,6163,17,6163,4,6163]),
 (207,[47,12307,18,12307,4,12307,48,12307,18,12307,4,12307]),
 (208,[18,3101,21,3101,17,3101]),
 (209,[]),
 (210,[]),
 (211,[22,6])]++[(7,[(13,[1,2]),(20,[2,5,2000011]),(29,[2,7,8])]),(20,[(17,[0,3,5,2000006]),(22,[0,3,5,2000006]),(35,[0,3,5,33,34,2000006]),(39,[0,3,5,6,33,34,37,38,2000006])])]
def avG:List (Nat×List (Nat×List Nat)):=abl [(3,[]),
 (4,[]),
 (5,[]),
 (6,[0,128,0,387]),
 (7,[]),
 (8,[0,262,0,1008806316530991366,0,2308,0,69324642199981295394350958852]),
 (9,[1,3074,0,3098,0,3098]),
 (10,[]),
 (11,[0,36,0,14680166]),
 (12,[0,772,0,105553116268292,0,105553116268292,0,13616351998381828]),
 (13,[]),
 (14,[0,38,0,469762086]),
 (15,[0,262,0,240518168966]),
 (16,[0,71]),
 (17,[]),
 (18,[]),
 (19,[1,1924145348618,0,1924145348618,0,3942573819297802]),
 (21,[]),
 (22,[0,421,0,933,0,421,0,541598767187353870268367269,0,541598767187353870268367269,0,541598767187353870268372389,0,8452,0,40922045845265281709703175316055924550366111211940,0,40922045845265281709703175316055924550366111211940,0,335274321610258453047598115364446189841149549088924068]),
 (23,[0,10,0,1879048202]),
 (24,[0,52,0,100663357,0,100663421,0,51640270973,0,100663421,0,110680464442357973117,0,110680464442357973117,0,906805045175414239003005,0,100663357,0,17747108403195211620953945538685]),
 (25,[0,33,0,28707]),
 (26,[0,1543,0,7516194695,0,7516194695,0,7704097593223]),
 (27,[0,32,0,1835041]),
 (28,[0,144,0,144]),
 (29,[]),
 (30,[]),
 (31,[]),
 (32,[0,4,0,1835014]),
 (33,[0,8,0,26]),
 (34,[0,0]),
 (35,[0,32,0,100,0,100,0,206158430436,0,206158430436]),
 (36,[0,1]),
 (37,[]),
 (38,[]),
 (39,[0,2,0,3221225486]),
 (40,[1,786435]),
 (41,[0,128,0,98446,0,98446,0,98446,0,99214]),
 (42,[]),
 (43,[0,3,0,3670023]),
 (44,[0,35,0,24611,0,32,0,161]),
 (45,[0,192,0,1688849860265934,0,1688849860265934,0,55732045388713934,0,55732045388722126]),
 (46,[0,4]),
 (47,[]),
 (48,[0,192,0,393408,0,393408,0,235274688]),
 (49,[0,451,0,963,0,192,0,1475,0,3523,0,7619,0,1475,0,11715]),
 (50,[0,48,0,29360243,0,29360755,0,29362035,0,29366131,0,29368179,0,29368179,0,7881299377266547]),
 (51,[0,192,0,963,0,1987,0,4035]),
 (52,[]),
 (53,[0,228,0,1879048438,0,1879049718,0,985164297537014,0,40964,0,1083197534374707740536791108]),
 (54,[0,80,0,80]),
 (56,[]),
 (57,[]),
 (58,[0,10,0,63050394783186954]),
 (59,[0,12,0,3670030,0,3670030,0,120262754366]),
 (60,[1,12291]),
 (61,[1,12291]),
 (62,[1,12291]),
 (63,[0,8,0,777]),
 (64,[]),
 (65,[]),
 (66,[0,8,0,456]),
 (67,[]),
 (68,[]),
 (69,[]),
 (70,[]),
 (71,[]),
 (72,[]),
 (73,[0,903,0,120259085191,0,512,0,504403158265496451,0,504403158265496451,0,517013237222132949891,0,517013237222132949891,0,1058327105400022660866947]),
 (74,[]),
 (75,[]),
 (76,[]),
 (77,[]),
 (78,[]),
 (79,[0,9,0,196617]),
 (80,[0,12,0,14680076]),
 (81,[]),
 (82,[]),
 (83,[]),
 (84,[0,28]),
 (85,[]),
 (86,[]),
 (87,[]),
 (88,[]),
 (89,[]),
 (90,[]),
 (91,[]),
 (92,[]),
 (93,[0,48,0,114]),
 (94,[]),
 (95,[]),
 (96,[]),
 (97,[]),
 (98,[0,116,0,402653300]),
 (99,[0,512,0,13194139534872]),
 (100,[0,2048,0,25167887]),
 (101,[0,32,0,99,0,99,0,227]),
 (102,[0,180,0,6442451124,0,148,0,3848290697364]),
 (103,[0,26,0,117440538,0,4,0,26,0,402,0,492581209244058,0,492581209246618,0,2018105214271228826]),
 (104,[0,66,0,3848290697282,0,64,0,270799383593676935134184000]),
 (105,[]),
 (106,[0,17,0,939524121,0,939524409]),
 (107,[1,387]),
 (108,[1,898]),
 (110,[1,3103]),
 (111,[]),
 (112,[]),
 (113,[]),
 (114,[0,6,1,63050394783186946]),
 (115,[]),
 (116,[0,14,0,7340046]),
 (117,[]),
 (118,[]),
 (119,[2,3670016]),
 (124,[1,450,0,450,0,498]),
 (125,[0,0]),
 (126,[]),
 (127,[]),
 (128,[0,6400,0,14605,0,63757,0,206158493965]),
 (129,[]),
 (130,[]),
 (131,[1,57345]),
 (132,[]),
 (133,[0,8,0,49160]),
 (134,[0,8,0,3592]),
 (135,[0,32,0,469762082]),
 (136,[]),
 (137,[]),
 (138,[1,271,0,271,0,783]),
 (139,[0,1801,0,3849,1,4873]),
 (140,[1,3843]),
 (141,[0,768]),
 (142,[1,769]),
 (143,[1,1551,0,1551,0,1551,0,1551,0,3599,0,1551,0,5647]),
 (144,[0,2048,0,6163,0,6163,0,6163,0,6163,0,6163]),
 (145,[0,12307,0,12307,0,12307,0,12307,0,8195,0,12307,0,12307,0,12307,0,12307,0,12307]),
 (147,[]),
 (148,[1,58720262]),
 (149,[0,19,0,16,0,48]),
 (150,[]),
 (151,[0,48]),
 (152,[0,0]),
 (153,[]),
 (154,[]),
 (157,[]),
 (164,[]),
 (165,[]),
 (167,[]),
 (168,[]),
 (171,[]),
 (172,[]),
 (174,[]),
 (176,[0,240,0,7340276,0,2256,0,126100789566376144]),
 (177,[]),
 (178,[1,7181]),
 (179,[1,387]),
 (180,[]),
 (183,[0,33,0,99]),
 (184,[0,32,0,1825]),
 (185,[0,67]),
 (186,[]),
 (187,[]),
 (188,[]),
 (189,[]),
 (191,[]),
 (192,[0,0]),
 (193,[]),
 (195,[0,1,0,35,0,33,0,227]),
 (198,[1,3103]),
 (200,[1,271,0,271,0,783]),
 (201,[0,1801,0,3849,1,4873]),
 (202,[1,3843]),
 (203,[0,768]),
 (204,[1,769]),
 (205,[1,1551,0,1551,0,1551,0,1551,0,3599,0,1551,0,5647]),
 (206,[0,2048,0,6163,0,6163,0,6163,0,6163,0,6163]),
 (207,[0,12307,0,12307,0,12307,0,12307,0,8195,0,12307,0,12307,0,12307,0,12307,0,12307]),
 (208,[1,1053]),
 (209,[]),
 (210,[]),
 (211,[])]++[(20,[(0,[0,3,5,2000006]),(1,[0,3,5,33,34,2000006]),(2,[0,3,5,33,34,2000006]),(3,[0,3,5,6,33,34,37,38,2000006])])]
def avH:List (Nat×List (Nat×List Nat)):=[(20,[(3,[2000006])]),
 (49,[(1,[5000022])]),
 (50,[(1,[5000020])]),
 (51,[(1,[5000022])])]
def avI:List (Nat×List Nat):=[(7,[0]),
 (22,[0,1]),
 (24,[0]),
 (77,[0]),
 (116,[0]),
 (149,[0]),
 (150,[0]),
 (151,[0]),
 (171,[0]),
 (172,[0])]
def avJ:List (Nat×List (Nat×List (Nat×Nat))):=[(3,[(1,[(1,4)]),(2,[(1,5),(4,6)]),(3,[(1,7)]),(6,[(1,8)]),(7,[(1,9)]),(8,[(3,10)]),(10,[(0,10)]),(11,[(1,11)]),(12,[(3,12)]),(15,[(2,13)]),(16,[(2,14),(9,15),(14,10)])]),
 (4,[(1,[(1,5)]),(2,[(2,17),(4,16)])]),
 (6,[(2,[(3,18)]),(5,[(3,18)])]),
 (7,[(1,[(1,19)]),(5,[(1,21),(2,20)]),(8,[(0,22)])]),
 (8,[(1,[(1,23)]),(4,[(1,9)]),(9,[(3,24)]),(14,[(7,25)]),(15,[(14,26)]),(24,[(2,27)])]),
 (9,[(1,[(1,23)])]),
 (10,[(1,[(0,30),(1,30),(3,29),(5,29),(6,28)]),(2,[(4,21),(10,30),(11,31)])]),
 (11,[(1,[(1,32)]),(6,[(1,33)]),(11,[(2,34)]),(13,[(2,34)])]),
 (12,[(1,[(2,32)]),(9,[(2,35)]),(17,[(13,37),(14,36)]),(20,[(12,38)])]),
 (13,[(1,[(4,39)])]),
 (14,[(1,[(1,32),(5,40)]),(4,[(1,33)]),(8,[(9,41)]),(10,[(9,42)])]),
 (15,[(1,[(2,43),(6,40)]),(3,[(2,44)]),(9,[(5,45)]),(10,[(2,46)]),(16,[(5,47)])]),
 (16,[(1,[(1,18)]),(3,[(3,48)]),(5,[(4,49)]),(7,[(2,50)]),(8,[(3,51)])]),
 (17,[(1,[(1,18)])]),
 (18,[(4,[(12,52)])]),
 (21,[(1,[(1,19)]),(3,[(1,53)])]),
 (22,[(1,[(4,54)]),(16,[(8,56)]),(32,[(7,57)])]),
 (23,[(1,[(1,58)]),(3,[(1,59),(2,7)]),(9,[(6,60)]),(12,[(4,61),(11,60),(19,62),(27,62)])]),
 (24,[(2,[(1,63),(3,63),(5,63)]),(31,[(3,64)])]),
 (25,[(6,[(3,68)]),(8,[(2,69)])]),
 (26,[(11,[(11,68),(12,70)]),(13,[(4,68),(12,70)]),(16,[(3,27),(5,71),(6,70)]),(17,[(2,71),(5,27),(6,70)]),(18,[(3,72)]),(19,[(3,73)]),(22,[(4,69),(5,72)])]),
 (27,[(2,[(2,74)]),(7,[(4,74)])]),
 (28,[(1,[(2,75)]),(4,[(1,77),(3,76)]),(5,[(1,78)]),(6,[(1,79)]),(9,[(1,80)])]),
 (31,[(1,[(1,81),(5,40)]),(4,[(1,82)]),(5,[(1,83)]),(6,[(3,84),(8,85)])]),
 (32,[(8,[(3,86)])]),
 (33,[(8,[(2,34)]),(10,[(2,34)])]),
 (35,[(2,[(4,38)]),(11,[(1,37)]),(20,[(6,87),(8,38)]),(21,[(4,87),(8,38)])]),
 (36,[(3,[(4,89),(6,88)]),(5,[(5,90)]),(7,[(10,88)]),(9,[(10,38),(21,38),(26,88)]),(11,[(8,38),(19,38),(23,91)]),(13,[(10,38),(15,88)]),(15,[(1,87)]),(16,[(5,90),(10,90),(11,91)]),(17,[(11,38),(25,38),(29,91)]),(18,[(7,91),(9,88)]),(19,[(1,89)])]),
 (39,[(1,[(1,19),(18,40)])]),
 (41,[(7,[(7,92)]),(10,[(8,92)]),(12,[(5,93)]),(14,[(18,94)]),(16,[(18,95)]),(21,[(9,42)]),(22,[(14,94)]),(24,[(5,93),(14,96)])]),
 (43,[(8,[(2,46)]),(9,[(8,97),(16,97),(25,97),(34,97),(43,97)])]),
 (44,[(12,[(5,46)])]),
 (45,[(1,[(2,98)]),(24,[(4,99)]),(26,[(7,47)]),(28,[(6,47),(13,47)]),(30,[(6,47),(13,47)]),(32,[(9,100)])]),
 (48,[(1,[(3,51)])]),
 (49,[(2,[(2,18)]),(3,[(2,18)]),(7,[(3,18)]),(19,[(3,18)])]),
 (50,[(2,[(2,18),(4,101)]),(6,[(3,18)])]),
 (51,[(2,[(2,18)]),(3,[(2,18)]),(7,[(3,18)]),(12,[(3,18)])]),
 (53,[(1,[(1,102)]),(2,[(1,103)]),(17,[(1,102)])]),
 (54,[(1,[(2,104)]),(4,[(1,105)]),(5,[(1,106)])]),
 (56,[(1,[(2,107)])]),
 (58,[(9,[(7,108)]),(12,[(3,108)])]),
 (64,[(1,[(4,111),(6,110)])]),
 (65,[(1,[(8,67),(11,67),(13,66)])]),
 (67,[(1,[(1,112)]),(2,[(1,112)])]),
 (68,[(1,[(3,74)])]),
 (69,[(2,[(1,71)]),(3,[(2,71),(6,27),(8,71),(9,70),(10,70)]),(4,[(3,74)])]),
 (70,[(1,[(4,74)])]),
 (71,[(1,[(2,74)])]),
 (72,[(1,[(4,74)])]),
 (73,[(7,[(3,68)]),(20,[(5,68),(13,70),(16,68),(17,70)])]),
 (75,[(3,[(1,113)]),(5,[(2,114)])]),
 (76,[(3,[(2,115)])]),
 (77,[(1,[(1,81)]),(3,[(1,116)])]),
 (79,[(5,[(13,117)]),(8,[(5,118)]),(12,[(2,115)])]),
 (80,[(5,[(3,119)])]),
 (81,[(1,[(1,75)])]),
 (84,[(3,[(4,120)]),(5,[(6,121)]),(8,[(3,122)]),(10,[(6,123)]),(12,[(2,124)])]),
 (86,[(8,[(5,34),(7,126),(14,34),(16,126)])]),
 (89,[(1,[(4,88)])]),
 (90,[(1,[(6,88)])]),
 (91,[(1,[(6,88)])]),
 (93,[(5,[(2,92)])]),
 (98,[(2,[(2,46)])]),
 (99,[(4,[(10,127)]),(11,[(10,127)])]),
 (100,[(2,[(3,47)]),(10,[(4,47)]),(11,[(4,47)])]),
 (102,[(1,[(1,19)]),(3,[(6,128)])]),
 (103,[(1,[(1,19)])]),
 (104,[(8,[(10,131)]),(14,[(6,133),(7,132)]),(19,[(5,134)]),(22,[(7,132)])]),
 (106,[(6,[(9,135)]),(7,[(5,134)]),(12,[(14,136),(15,132)]),(13,[(18,137)])]),
 (110,[(4,[(4,138)]),(6,[(4,139)]),(8,[(4,140)]),(10,[(4,141)]),(12,[(4,142)]),(16,[(4,143)]),(17,[(13,65)]),(18,[(5,144)]),(20,[(5,145)]),(26,[(5,110)]),(29,[(6,110)])]),
 (111,[(2,[(1,147)])]),
 (113,[(2,[(1,148)])]),
 (114,[(22,[(2,114)])]),
 (115,[(2,[(5,118)])]),
 (116,[(7,[(3,116)]),(9,[(3,149)])]),
 (117,[(1,[(3,151),(4,150)])]),
 (118,[(1,[(1,81)]),(4,[(1,152)]),(5,[(0,153)])]),
 (119,[(6,[(2,247)]),(12,[(1,119)]),(17,[(9,119)])]),
 (124,[(5,[(4,164),(6,125)])]),
 (125,[(0,[(3,82)]),(2,[(5,240)]),(4,[(6,240)])]),
 (128,[(2,[(1,165)]),(12,[(5,129),(6,233)]),(17,[(4,130)])]),
 (132,[(2,[(5,134)])]),
 (135,[(1,[(7,131),(12,131)])]),
 (137,[(1,[(3,136)])]),
 (138,[(4,[(14,65)])]),
 (139,[(6,[(5,166)]),(11,[(5,166)])]),
 (140,[(3,[(1,167)]),(7,[(0,168)])]),
 (141,[(8,[(3,169)]),(9,[(3,169)]),(10,[(3,169)]),(11,[(5,170)])]),
 (143,[(5,[(14,65)]),(16,[(10,65)]),(22,[(10,65)])]),
 (144,[(3,[(13,65)]),(5,[(13,65)])]),
 (145,[(3,[(13,65)]),(5,[(13,65)]),(13,[(13,65)]),(15,[(13,65)])]),
 (148,[(7,[(4,148)])]),
 (149,[(3,[(1,171)]),(5,[(1,172)]),(7,[(1,173)]),(18,[(0,174)]),(19,[(5,157)])]),
 (150,[(1,[(2,75)])]),
 (151,[(12,[(2,175)]),(14,[(5,151)]),(15,[(3,149)]),(16,[(4,149)]),(18,[(2,176)])]),
 (152,[(3,[(1,177)]),(5,[(1,177)]),(7,[(5,177)]),(9,[(3,178)]),(11,[(3,178)]),(13,[(3,178)]),(15,[(1,177)]),(16,[(3,178)]),(18,[(3,178)]),(19,[(1,177)])]),
 (154,[(1,[(2,179)])]),
 (157,[(1,[(14,180)])]),
 (167,[(1,[(2,111)])]),
 (171,[(1,[(1,234)]),(2,[(0,182)]),(3,[(1,184),(2,239)]),(4,[(1,186),(2,187),(3,185)])]),
 (172,[(1,[(1,154)]),(2,[(0,187)]),(3,[(1,184),(2,237)]),(4,[(1,174),(2,185)])]),
 (176,[(8,[(4,189)]),(9,[(2,151)]),(19,[(3,149)]),(21,[(1,149),(3,149)])]),
 (178,[(4,[(2,191)]),(5,[(2,192)]),(6,[(2,152)]),(7,[(1,177)]),(8,[(2,152)]),(9,[(1,177)])]),
 (179,[(4,[(5,180)])]),
 (186,[(1,[(1,193)]),(2,[(1,195)])]),
 (189,[(3,[(1,116)])]),
 (193,[(1,[(4,111),(6,198)])]),
 (195,[(6,[(10,196)]),(11,[(10,196)])]),
 (198,[(4,[(4,200)]),(6,[(4,201)]),(8,[(4,202)]),(10,[(4,203)]),(12,[(4,204)]),(16,[(4,205)]),(17,[(13,194)]),(18,[(5,206)]),(20,[(5,207)]),(26,[(5,198)]),(29,[(6,198)])]),
 (200,[(4,[(14,194)])]),
 (201,[(6,[(5,208)]),(11,[(5,208)])]),
 (202,[(3,[(1,167)]),(7,[(0,168)])]),
 (203,[(8,[(3,209)]),(9,[(3,209)]),(10,[(3,209)]),(11,[(5,210)])]),
 (205,[(5,[(14,194)]),(16,[(10,194)]),(22,[(10,194)])]),
 (206,[(3,[(13,194)]),(5,[(13,194)])]),
 (207,[(3,[(13,194)]),(5,[(13,194)]),(13,[(13,194)]),(15,[(13,194)])]),
 (208,[(3,[(19,194)]),(5,[(13,194)])]),
 (209,[(1,[(8,210)])]),
 (210,[(1,[(5,211)]),(2,[(5,211)]),(3,[(5,211)])]),
 (211,[(1,[(9,194)])]),
 (234,[(1,[(2,235)])]),
 (235,[(4,[(5,157)])]),
 (236,[(5,[(4,164),(6,160)])]),
 (237,[(1,[(2,238)]),(8,[(2,188)])]),
 (238,[(4,[(5,188)])]),
 (239,[(1,[(2,179)]),(8,[(2,180)])]),
 (241,[(5,[(4,164),(6,163)])]),
 (242,[(5,[(4,164),(6,162)])]),
 (243,[(5,[(4,164),(6,161)])]),
 (244,[(5,[(4,164),(6,155)])]),
 (245,[(5,[(4,164),(6,158)])]),
 (246,[(5,[(4,164),(6,159)])]),
 (247,[(1,[(2,248)])]),
 (248,[(4,[(5,119)])])]
def avK:List (Nat×List (Nat×(Shape×List (Out×Shape)))):=[(6,[(49,Zo)]),
 (8,[(177,Zp),(305,Zq)]),
 (9,[(113,Zr),(65,Zs)]),
 (11,[(623,Zt),(783,Zu),(113,Zv)]),
 (12,[(225,Zw),(177,Zx)]),
 (14,[(81,Zy)]),
 (15,[(1087,Zz),(97,ZA)]),
 (19,[(225,ZB),(145,ZC)]),
 (20,[(161,ZD),(113,ZE)]),
 (22,[(145,ZF),(321,ZG),(225,ZH),(481,ZI),(417,ZJ)]),
 (23,[(113,ZK)]),
 (24,[(145,ZL),(305,ZM),(241,ZN),(401,ZO),(81,ZP)]),
 (25,[(49,ZQ)]),
 (26,[(1439,ZR),(2143,ZS),(113,ZT),(65,ZU)]),
 (27,[(81,ZV)]),
 (28,[(81,ZW)]),
 (32,[(97,ZX)]),
 (33,[(543,ZY),(65,ZZ)]),
 (35,[(129,Z0),(65,Z1)]),
 (39,[(65,Z2)]),
 (40,[(65,Z3)]),
 (41,[(305,Z4),(1087,Z5),(943,Z6),(527,Z7),(351,Z8),(49,Z9)]),
 (43,[(97,aaa)]),
 (44,[(49,aab),(687,aac),(145,aad)]),
 (45,[(399,aae),(511,aaf),(1151,aag),(975,aah),(257,aai),(209,aaj)]),
 (48,[(97,aak),(49,aal)]),
 (49,[(81,aam),(209,aan),(273,aao),(145,aap)]),
 (50,[(241,aaq),(209,aar),(145,aas),(65,aat)]),
 (51,[(161,aau),(81,aav)]),
 (53,[(161,aaw),(81,aax),(321,aay)]),
 (54,[(65,aaz)]),
 (58,[(113,aaA)]),
 (59,[(113,aaB),(49,aaC)]),
 (60,[(65,aaD)]),
 (61,[(65,aaE)]),
 (62,[(65,aaF)]),
 (63,[(49,aaG)]),
 (66,[(49,aaH)]),
 (73,[(65,aaI),(257,aaJ),(209,aaK),(161,aaL)]),
 (79,[(49,aaM)]),
 (80,[(49,at1)]),
 (86,[(287,aaN)]),
 (93,[(49,aaO)]),
 (98,[(223,aaP),(113,aaQ),(351,aaR)]),
 (99,[(543,aaS),(129,aaT)]),
 (100,[(113,aaU)]),
 (101,[(97,at2),(49,at3)]),
 (102,[(97,aaV),(177,aaW)]),
 (103,[(81,aaX),(273,aaY),(209,aaZ),(161,aa0)]),
 (104,[(97,aa1),(1167,aa2),(1711,aa3),(257,aa4)]),
 (106,[(1263,aa5),(65,aa6)]),
 (107,[(33,aa7)]),
 (108,[(33,aa8)]),
 (110,[(639,aa9),(911,aba),(1215,abb),(33,abc)]),
 (114,[(321,at4)]),
 (116,[(81,at5)]),
 (119,[(161,at6)]),
 (124,[(49,at7),(17,aua)]),
 (125,[(175,aub)]),
 (128,[(161,abd),(81,abe)]),
 (131,[(65,abf)]),
 (133,[(81,abg)]),
 (134,[(49,abh)]),
 (135,[(81,abi)]),
 (138,[(65,abj),(17,abk)]),
 (139,[(65,auc),(129,aud)]),
 (140,[(735,aue),(81,auf)]),
 (141,[(591,aug),(559,auh)]),
 (142,[(33,aui)]),
 (143,[(81,auj),(225,auk),(1055,aul),(321,aum),(49,aun)]),
 (144,[(49,auo),(81,aup),(50,auq)]),
 (145,[(49,aur),(81,aus),(209,aut),(241,auu),(210,auv)]),
 (147,[(79,auw),(143,auy)]),
 (148,[(81,auz)]),
 (151,[(399,auA)]),
 (152,[(463,auB),(367,auC),(239,auD),(175,auE),(111,auF)]),
 (176,[(81,auG),(225,auH)]),
 (178,[(303,auI),(17,auJ)]),
 (179,[(33,auK)]),
 (184,[(49,auL)]),
 (195,[(145,auM),(65,auN)]),
 (198,[(639,auO),(911,auP),(1215,auQ),(33,auR)]),
 (200,[(65,auS),(17,auT)]),
 (201,[(65,auU),(129,auV)]),
 (202,[(735,auW),(81,auX)]),
 (203,[(591,auY),(559,auZ)]),
 (204,[(33,au0)]),
 (205,[(81,au1),(225,au2),(1055,au3),(321,au4),(49,au5)]),
 (206,[(49,au6),(81,au7),(50,au8)]),
 (207,[(49,au9),(81,ava),(209,avb),(241,avc),(210,avd)]),
 (208,[(655,ave),(17,avf)]),
 (235,[(33,avg)]),
 (236,[(49,avh),(17,avi)]),
 (237,[(81,avj)]),
 (238,[(33,avk)]),
 (239,[(81,avl)]),
 (241,[(49,avm),(17,avn)]),
 (242,[(49,avo),(17,avp)]),
 (243,[(49,avq),(17,avr)]),
 (244,[(49,avs),(17,avt)]),
 (245,[(49,avu),(17,avv)]),
 (246,[(49,avw),(17,avx)]),
 (248,[(33,avy)])]
def avL:List (Nat×List (Nat×List Nat)):=[(14,[(3,[24])]),
 (20,[(5,[26])]),
 (22,[(7,[42]),(24,[158])]),
 (49,[(7,[41,42])]),
 (50,[(22,[71,72])]),
 (51,[(13,[49,50])]),
 (59,[(1,[16])]),
 (63,[(1,[6])]),
 (84,[(11,[46])]),
 (195,[(15,[64])]),
 (237,[(12,[41])]),
 (239,[(12,[41])])]
def Tj(k:Nat):FuncId:=(gN avz k).getD 0
def oB:dM where
 mn:=Tj
 sin:=fun k=>(gN avA k).getD ⟨[],[]⟩
 kI:=fun k=>(gN avB k).getD ⟨[],[]⟩
 live:=fun k r=>(gN ((gN avE (Tj k)).getD []) r).getD []
 join:=fun k r=>(gN ((gN avF (Tj k)).getD []) r).getD []
 blk:=fun k r=>(gN ((gN avG (Tj k)).getD []) r).getD []
 pur:=fun k r=>(gN ((gN avH k).getD []) r).getD []
 CM:=fun k=>(gN avI k).getD []
 alt:=fun k=>gN avC k
 nst:=fun k r=>(gN ((gN avL k).getD []) r).getD []
 ck:=fun k r i=>(gN ((gN ((gN avJ k).getD []) r).getD []) i).getD 0
 oa:=fun k x=>gN ((gN avK k).getD []) x
 yW:=[]
 Qa:=fun _=>0
 ext:=fun f=>bif Nat.beq f 190 then some 238 else none
 vb:=fun f=>bif Nat.beq f 55 then some 3 else bif Nat.beq f 109 then some 4 else none
 idle:=fun f=>false
 mv:=fun k=>(gN ([(22,[2]),(25,[1]),(26,[1]),(27,[1]),(36,[1]),(64,[2]),(65,[1]),(68,[1]),(69,[1]),(70,[1]),(71,[1]),(72,[1]),(73,[1]),(74,[1]),(78,[1,2]),(79,[1,2]),(80,[1,2]),(88,[1]),(89,[1]),(90,[1]),(91,[1]),(105,[1,2,3,4,5,6,8,9,10]),(106,[1,2,3,4,5,6,8,9,10]),(110,[2]),(115,[1,2]),(132,[2,3,4,5,6,8,9,10]),(136,[2,3,4,5,6,8,9,10]),(137,[2,3,4,5,6,8,9,10]),(138,[2]),(139,[2]),(140,[2]),(141,[1]),(142,[2]),(143,[2]),(144,[2]),(145,[2]),(152,[1]),(153,[1]),(155,[2]),(159,[3]),(161,[2]),(165,[1]),(166,[2]),(169,[2]),(170,[2]),(177,[1]),(178,[1]),(181,[2]),(191,[1]),(233,[1]),(243,[2]),(244,[2]),(246,[3])]:List (Nat×List Nat)) k).getD []
 aV:=fun g=>bif Nat.beq g 0 then .pref [5,5,5,5,5,5,5,5,5,5,5,5,5,5,5,5,5,5,5,5,5,5,5,5,5,5,5,5,5,5,5,5,5,5,5,5,5,5,5,5,5,5,5,5,5,5,5,5,5,5,5,5,5,5,5,5,5,5,5,5,5,5,5,5] SJ else .undef
noncomputable abbrev PG:Program:=Tryz.prog
noncomputable abbrev CC:af:=Call Tryz.prog oB
noncomputable abbrev Lp(p:List Nat)(k:Nat):rS:= .loop (zC p (wY PG (oB.mn k)))
noncomputable abbrev Cd(t:Nat)(p q:List Nat)(k:Nat):rS:= .cond t (zC p (wY PG (oB.mn k))) (zC q (wY PG (oB.mn k)))
abbrev bt(C:af)(L:da)(k:Nat)(b:rS):Prop:=xJ PG oB C L k (Jw PG (oB.mn k)) (oB.sin k).dI.length b
end Go.AM
set_option maxRecDepth 100000
namespace Go.AM
open Go.IntKind (wrap)
open Go.Proofs Go.RowKit
set_option maxHeartbeats 1000000 in
theorem avM(hP:DF Tryz.prog):Rk Tryz.prog 55 3:=by
 refine⟨fun args w=>MuLone.run_callFunc_enter Tryz.func55 (hP _ _ Tryz.func55) (by kernel_rfl:Tryz.f55.body=some (wY Tryz.prog 55)) _ _,22,by kernel_rfl,?_⟩;intro s w Q h1 h2 h3;have hu:Tryz.prog.underlying 22=some (.slice 3):=by kernel_rfl
 go_enter Tryz.func55,Tryz.ntmps55
 rcases h3 with rfl|⟨a,n,c,rfl⟩
 ·go_wp2
  rw[run_eql_slice_nil w 22 3 none 0 0 hu];simp only[Result.andThen];rw[Oper.upon_value]
  go_wp2
  exact trivial
 ·go_wp2
  rw[run_eql_slice_nil w 22 3 (some a) n c hu];simp only[Result.andThen];rw[Oper.upon_value]
  iterate 17 go_step
  obtain⟨v,w',hv,hQ⟩:=h2 _ _ _ rfl;unfold Oper.wp;simp[execOp,resolve,invoke,Act.eval,hv,builtin];rw[Oper.upon_value]
  go_wp2
  exact hQ
set_option maxHeartbeats 1000000 in
theorem avN(hP:DF Tryz.prog):Rk Tryz.prog 109 4:=by
 refine⟨fun args w=>MuLone.run_callFunc_enter Tryz.func109 (hP _ _ Tryz.func109) (by kernel_rfl:Tryz.f109.body=some (wY Tryz.prog 109)) _ _,23,by kernel_rfl,?_⟩;intro s w Q h1 h2 h3;have hu:Tryz.prog.underlying 23=some (.slice 4):=by kernel_rfl
 go_enter Tryz.func109,Tryz.ntmps109
 rcases h3 with rfl|⟨a,n,c,rfl⟩
 ·go_wp2
  rw[run_eql_slice_nil w 23 4 none 0 0 hu];simp only[Result.andThen];rw[Oper.upon_value]
  go_wp2
  exact trivial
 ·go_wp2
  rw[run_eql_slice_nil w 23 4 (some a) n c hu];simp only[Result.andThen];rw[Oper.upon_value]
  iterate 17 go_step
  obtain⟨v,w',hv,hQ⟩:=h2 _ _ _ rfl;unfold Oper.wp;simp[execOp,resolve,invoke,Act.eval,hv,builtin];rw[Oper.upon_value]
  go_wp2
  exact hQ
theorem avO(hP:DF PG)(f:FuncId)(e:TypeId)(h:oB.vb f=some e):Rk PG f e:=by
 have h1:oB.vb f=bif Nat.beq f 55 then some 3 else bif Nat.beq f 109 then some 4 else none:=by kernel_rfl
 rw[h1]at h;cases Tk:Nat.beq f 55 with
 |true=>
  rw[Tk]at h;rw[bU]at Tk;cases h;subst Tk;exact avM hP
 |false=>
 rw[Tk]at h;simp only[cond_false]at h;cases Tl:Nat.beq f 109 with
 |true=>
  rw[Tl]at h;rw[bU]at Tl;cases h;subst Tl;exact avN hP
 |false=>
 rw[Tl]at h;simp only[cond_false]at h;cases h
theorem avP{w:World}{b:Nat}{C:Array Value}{T:TypeId}(h:w.heap[b]? =some (.cells C T (0,0))):w.shape? b=some (T,C.size)∧w.frozen? ⟨b,0,none⟩=false∧w.cell? ⟨b,0,none⟩=C[0]? :=by
 refine⟨by simp[World.shape?,h],by simp[World.frozen?,h],cell?_cells h⟩
set_option maxHeartbeats 1000000 in
theorem avQ(b:Nat)(w:World)(h0:w.cell? ⟨b,0,none⟩=some (.pointer (some ⟨b,0,none⟩))):
  Calls Tryz.prog 190 #[.pointer (some ⟨b,0,none⟩)] w fun e w'=>e= .returned (.tuple #[])∧w'=w:=by
 obtain⟨j,hj⟩:=PQ.1 (show(Tryz.prog.info? 238).isSome=true by kernel_rfl);have hu:Tryz.prog.underlying 236=some (.pointer 238):=by kernel_rfl
 go_enter Tryz.func190,Tryz.ntmps190
 go_wp2
 rw[Lib.run_neq_ptr_same w _ hu hj]
 go_wp2
 go_end0
 exact⟨rfl,rfl⟩
set_option maxHeartbeats 1000000 in
theorem avR(b n:Nat)(w:World)(hn:0<n)(h0:w.cell? ⟨b,0,none⟩=some (.pointer none))(Ra:w.shape? b=some (238,n))(Gl:w.frozen? ⟨b,0,none⟩=false)(hl:liesAt Tryz.prog Tryz.prog.depth 238 (n/Tryz.prog.cellsOf 238) 0 238 1=true):
  Calls Tryz.prog 190 #[.pointer (some ⟨b,0,none⟩)] w fun e w'=>e= .returned (.tuple #[])∧w'=w.setCell ⟨b,0,none⟩ (.pointer (some ⟨b,0,none⟩)):=by
 obtain⟨j,hj⟩:=PQ.1 (show(Tryz.prog.info? 238).isSome=true by kernel_rfl);have hjs:j.size≠0:=by
  have h2:(Tryz.prog.info? 238).map (·.size)=some 2:=by kernel_rfl
  rw[hj]at h2;simp at h2;omega
 have hu:Tryz.prog.underlying 236=some (.pointer 238):=by kernel_rfl
 have sO:Tryz.prog.underlying 274=some .unsafePointer:=by kernel_rfl
 go_enter Tryz.func190,Tryz.ntmps190
 go_wp2
 rw[Lib.run_to_unsafe w ⟨b,0,none⟩ hu sO hj hjs Ra hn];simp only[Result.andThen];rw[Oper.upon_value]
 go_wp2
 rw[run_callFunc_extern Tryz.func197 (by kernel_rfl) (by kernel_rfl) (by kernel_rfl) (e:=Extern.AbiNoEscape.same) (by kernel_rfl)];rw[Lib.run_noEscape];simp only[Result.andThen];rw[Oper.upon_value]
 go_wp2
 rw[Lib.run_from_unsafe w ⟨b,0,none⟩ sO hu hj Ra hl];simp only[Result.andThen];rw[Oper.upon_value]
 go_wp2
 go_end0
 exact⟨rfl,rfl⟩
theorem avS(hP:DF Tryz.prog):nO Tryz.prog oB where
 count:=hP
 vb:=avO hP
 ext:=by
  intro f T h b C w hh hs hc;have hf:f=190∧T=238:=by
   have h1:oB.ext f=bif Nat.beq f 190 then some 238 else none:=by kernel_rfl
   rw[h1]at h;cases hb:Nat.beq f 190 with
   |true=>rw[hb]at h;rw[bU]at hb;exact⟨hb,(fP h).symm⟩
   |false=>rw[hb]at h;cases h
  obtain⟨rfl,rfl⟩:=hf;obtain⟨h1,h2,h3⟩:=avP hh;refine⟨MuLone.run_callFunc_enter Tryz.func190 (hP _ _ Tryz.func190) (by kernel_rfl:Tryz.f190.body=some (wY Tryz.prog 190)) _ _,?_⟩;have gh:Tryz.prog.cellsOf 238=2:=by kernel_rfl
  rcases hc with hc|hc
  ·refine(avR b C.size w (by omega) (h3.trans hc) h1 h2 (by rw[hs,gh];kernel_rfl)).mono ?_;rintro e w' ⟨rfl,rfl⟩;exact⟨rfl,.inr rfl⟩
  ·refine(avQ b w (h3.trans hc)).mono ?_;rintro e w' ⟨rfl,rfl⟩;exact⟨rfl,.inl rfl⟩
 idle:=by
  intro f h;have h1:oB.idle f=false:=by kernel_rfl
  rw[h1]at h;cases h
end Go.AM
set_option maxRecDepth 100000
namespace Go.AM
open Go.IntKind (wrap)
open Go.Proofs Go.Proofs.YtmepeheomkieeaaGreatDoor Go.Lib Go.MakeChecks
def zT:List Int:=[0,1,56,2,57,49,28,3,61,58,42,50,38,29,17,4,62,47,59,36,45,43,51,22,53,39,33,30,24,18,12,5,63,55,48,27,60,41,37,16,46,35,44,21,52,32,23,11,54,26,40,15,34,20,31,10,25,14,19,9,13,8,7,6]
theorem avT:SJ=zT.map fun z=> .int .u8 z:=by kernel_rfl
theorem avU:Rows.laid_math_bits_deBruijn64tab (H:=Unit)=tabData .u8 zT:=by kernel_rfl
def Mb : List (String×DataW Unit) := [("math/bits.deBruijn64tab", Rows.laid_math_bits_deBruijn64tab)]
theorem aoZ{W:World}(h:laidMetH Tryz.prog Mb W):nh Tryz.prog oB.aV W (rR W):=by
 have h1 : laidMetH Tryz.prog [("math/bits.deBruijn64tab", tabData .u8 zT)] W := by
  have : Mb = [("math/bits.deBruijn64tab", tabData .u8 zT)] := by unfold Mb; rw [avU]
  rwa [this]at h
 rw[laidMetH_plain _ _ _ (by kernel_rfl)] at h1;have hn : Tryz.prog.globalNamed "math/bits.deBruijn64tab" = some 0 := by kernel_rfl
 have ht:=tabIs_of_head (g:=0) (t:=259) (e:=5) (n:=64) hn (by kernel_rfl) (by kernel_rfl) (by kernel_rfl) (by kernel_rfl) (by kernel_rfl) h1;have hlen:zT.length=64:=by kernel_rfl
 have hc:∀i,i<64→W.cell? ⟨0,i,none⟩=some (.int .u8 (zT.getD i 0)):=fun i hi=>ht.cell hn i (by rw[hlen];exact hi);intro g;have hg:oB.aV g=bif Nat.beq g 0 then .pref (List.replicate 64 5) SJ else .undef:=by kernel_rfl
 rw[hg];cases hb:Nat.beq g 0 with
 |false=>exact .inl rfl
 |true=>
  rw[bU]at hb;subst hb;refine .inr ⟨List.replicate 64 5,SJ,rfl,by kernel_rfl,fun _ _=> ?_,fun j t x hj hx=> ?_⟩
  ·have h0:=hc 0 (by omega);unfold rR;unfold World.cell? at h0;by_cases hz:0<W.heap.size
   ·exact hz
   ·have:W.heap[0]? =none:=Array.getElem?_eq_none (by omega);simp[this]at h0
  ·have Tm:j<64:=by
    have:=(cP.1 hj).1;simpa using this
   rw[List.getElem?_replicate,aP Tm]at hj;cases hj;rw[avT,mY]at hx;have nj:zT[j]? =some (zT.getD j 0):=by
    rw[cv (by rw[hlen];exact Tm)];simp[List.getD,cv (show j<zT.length by rw[hlen];exact Tm)]
   rw[nj]at hx;cases hx;exact⟨_,by simpa using hc j Tm,.int (by kernel_rfl)⟩
theorem own:ownKnob Tryz.prog.godebug=none:=by kernel_rfl
theorem avV:DF Tryz.prog:=ar3 (by kernel_rfl)
theorem mixed:Tryz.prog.follows .mixedOrders=true:=by kernel_rfl
theorem aoY:nO Tryz.prog oB:=avS avV
noncomputable def ae3(os:Os):World:=World.laidAll Tryz.prog os Mb
theorem aoW(os:Os)(args:Array Value):laidMetH Tryz.prog Mb ((ae3 os).forCall (fun _ _=>0) ⟨#[],args,[]⟩).memory:=by
 rw[laidMetH_plain _ _ _ (by kernel_rfl)];exact laidMet_laidAll args (by kernel_rfl) (by kernel_rfl)
end Go.AM
namespace Go.AM
open Go.IntKind (wrap)
theorem wrap_u64(n:Int):IntKind.u64.wrap n=n %18446744073709551616:=by simp[IntKind.wrap,IntKind.bits,IntKind.signed]
theorem Mc{A:Nat}(h:A<2^64):wrap .u64 (A:Int)=A:=by
 rw[wrap_u64];omega
theorem Tn{n A:Nat}(h:A<2^n):(BitVec.ofInt n (A:Int)).toNat=A:=by
 rw[BitVec.ofInt_natCast,BitVec.toNat_ofNat];exact IW h
theorem avW{n A B:Nat}(hA:A<2^n)(hB:B<2^n):(BitVec.ofInt n (A:Int)|||BitVec.ofInt n (B:Int)).toNat=A|||B:=by
 rw[BitVec.toNat_or,Tn hA,Tn hB]
theorem bv_and{n A B:Nat}(hA:A<2^n)(hB:B<2^n):(BitVec.ofInt n (A:Int)&&&BitVec.ofInt n (B:Int)).toNat=A&&&B:=by
 rw[BitVec.toNat_and,Tn hA,Tn hB]
theorem avX{n A B:Nat}(hA:A<2^n)(i:Nat):(BitVec.ofInt n (A:Int)&&& ~~~ BitVec.ofInt n (B:Int)).toNat.testBit i=(A.testBit i&& !(B.testBit i)):=by
 rw[BitVec.testBit_toNat,BitVec.ofInt_natCast,BitVec.ofInt_natCast];by_cases hi:i<n
 ·simp only[BitVec.getLsbD_and,BitVec.getLsbD_not,BitVec.getLsbD_ofNat,hi,decide_true,Bool.true_and]
 ·have hf:A.testBit i=false:=Nat.testBit_lt_two_pow (fY hA (Nat.pow_le_pow_right (by omega) (by omega)));rw[hf,Bool.false_and,BitVec.getLsbD_of_ge _ _ (by omega)]
theorem u64_or{A B:Nat}(hA:A<2^64)(hB:B<2^64):wrap .u64 ((BitVec.ofInt (IntKind.bits .u64) (A:Int)|||BitVec.ofInt (IntKind.bits .u64) (B:Int)).toNat)=((A|||B:Nat):Int):=by
 rw[avW (n:=IntKind.bits .u64) hA hB];exact Mc (yO hA hB)
theorem u64_and{A B:Nat}(hA:A<2^64)(hB:B<2^64):wrap .u64 ((BitVec.ofInt (IntKind.bits .u64) (A:Int)&&&BitVec.ofInt (IntKind.bits .u64) (B:Int)).toNat)=((A&&&B:Nat):Int):=by
 rw[bv_and (n:=IntKind.bits .u64) hA hB];exact Mc (Fs Nat.and_le_left hA)
theorem u64_andNot{A:Nat}(B:Nat)(hA:A<2^64):∃D:Nat,D<2^64∧(∀i,D.testBit i=(A.testBit i&& !(B.testBit i)))∧
  wrap .u64 ((BitVec.ofInt (IntKind.bits .u64) (A:Int)&&& ~~~ BitVec.ofInt (IntKind.bits .u64) (B:Int)).toNat)=(D:Int):=
 ⟨(BitVec.ofInt (IntKind.bits .u64) (A:Int)&&& ~~~ BitVec.ofInt (IntKind.bits .u64) (B:Int)).toNat,BitVec.isLt _,fun i=>avX hA i,Mc (BitVec.isLt _)⟩
theorem abm{m:Nat}(h:m<64):wrap .u64 (1*2^(min m (IntKind.bits .u64)))=((2^m:Nat):Int):=by
 have e:min m (IntKind.bits .u64)=m:=Nat.min_eq_left (by show m≤64;omega);rw[e];have:(1*2^m:Int)=((2^m:Nat):Int):=by simp
 rw[this];exact Mc (yP (by omega) h)
theorem avY{A m:Nat}(h:m<64):Int.fdiv (A:Int) (2^(min m (IntKind.bits .u64)))=((A/2^m:Nat):Int):=by
 have e:min m (IntKind.bits .u64)=m:=Nat.min_eq_left (by show m≤64;omega);rw[e];have:(2^m:Int)=((2^m:Nat):Int):=by simp
 rw[this,Int.fdiv_eq_ediv_of_nonneg _ (Int.natCast_nonneg _)];exact Int.natCast_ediv ..
theorem avZ{A m:Nat}(hA:A<2^64)(h:m<64):
  (wrap .u64 ((BitVec.ofInt (IntKind.bits .u64) (Int.fdiv (A:Int) (2^(min m (IntKind.bits .u64))))&&&BitVec.ofInt (IntKind.bits .u64) 1).toNat)==1)=A.testBit m:=by
 rw[avY h];have:=u64_and (A:=A/2^m) (B:=1) (Fs (Nat.div_le_self _ _) hA) (by omega);rw[show((1:Nat):Int)=1 from rfl]at this;rw[this];rw[Nat.and_one_is_mod,Nat.testBit_eq_decide_div_mod_eq];by_cases hb:A/2^m %2=1
 ·simp[hb]
 ·have:A/2^m %2=0:=by omega
  simp[this]
end Go.AM
set_option maxRecDepth 100000
namespace Go.AM
open Go.IntKind (wrap)
open Go.Proofs
theorem ak2:maxLen≤9223372036854775807:=by unfold maxLen;omega
theorem zU:bf=35184372088832:=by unfold bf;rfl
section
variable {α β:Type}{o:Option α}{a:α}{f:α→Option β}{r:Option β}{x y z:β}{b:Bool}
theorem bs(h:o=some a)(h2:f a=r):o.bind f=r:=by rw[h];exact h2
theorem bT(hb:b=true)(h:x=z):(bif b then x else y)=z:=by rw[hb];exact h
theorem bF(hb:b=false)(h:y=z):(bif b then x else y)=z:=by rw[hb];exact h
end
section
variable {X R A α:Type}{step:X→Option (X ⊕ R)}
theorem abn(good:Nat→Prop)[DecidablePred good](n:Nat)(s:Nat→X)(bad ok:R)(h:∀i,i<n→step (s i)=some (if good i then .inl (s (i+1))else .inr bad))(he:step (s n)=some (.inr ok)):
  Loop step (s 0)=some (if∀i,i<n→good i then ok else bad):=by
 have go:∀(d k:Nat),k+d=n→((∀i,k≤i→i<n→good i)→Loop step (s k)=some ok)∧((¬∀i,k≤i→i<n→good i)→Loop step (s k)=some bad):=by
  intro d
  induction d with
  |zero=>
   intro k hk;have:k=n:=by omega
   subst this;exact⟨fun _=>lS he,fun hx=>absurd (fun i h1 h2=>by omega) hx⟩
  |succ d ih=>
   intro k hk;have h1:=h k (by omega);by_cases hg:good k
   ·rw[aP hg]at h1;rw[kY h1];grind
   ·rw[aM hg]at h1;rw[lS h1];grind
 obtain⟨g1,g2⟩:=go n 0 (by omega);grind
end
noncomputable def av0(C:af)(x:Int):Option LV:=
 some [vI 3,vI x,dP ([]:LV)]
theorem av1{x:Int}{r:Option LV}(h:av0 CC x=r):CC 30 [vI x]=r:=bR (L:=bS) ak h
noncomputable def av2(C:af)(op:Int)(kids:LV):Option LV:=
 some [vI op,vI 0,dP kids]
theorem ak3{op:Int}{kids:LV}{r:Option LV}(h:av2 CC op kids=r):CC 29 [vI op,dP kids]=r:=bR (L:=bS) ak h
noncomputable def En(C:af)(jF jG:Int)(ao aj:LV)(bW bX:Int)(aS aw aC:LV){β:Type}(kn:ay (Int×Int×LV×LV×LV) β)(kr:ay ((Int×Int×Int×LV×LV) ⊕ (Bool×Int×Int×LV×LV×LV)) β):Option β:=
 (C 78 [vI bW,vI bX,dP aS,aq aw,eF aC]).bind fun r4=>
 bif !(gB r4)then
  (C 79 [vI (dm r4),vI (jo r4),dP (GZ r4),aq (G0 r4),eF (G1 r4)]).bind fun r5=>
  bif ((gI r5):Int) != 0 then
  kr (.inl ((gI r5),0,0,([]:LV),([]:LV)))
  else
  kn ((dm r5),(jo r5),(GZ r5),(G0 r5),(G1 r5))
 else
  kr (.inr (!(gB r4),(dm r4),(jo r4),(GZ r4),(G0 r4),(G1 r4)))
noncomputable def zV(C:af)(jF jG:Int)(ao aj:LV):=un fun bW=>un fun bX=>un fun aS=>un fun aw aC=>En C jF jG ao aj bW bX aS aw aC ct cu
noncomputable def av3(C:af):da:=cm 81 ZW (aN 9 460) [[0,0,0,0,0],[0,1,2,0,0,5,6,0,0,0]] (@En C) bS
theorem av4(C:af):bt C (av3 C) 28 (Lp [1,1,1,0,0,0] 28):=cj ZW (aN 9 460) [[0,0,0,0,0],[0,1,2,0,0,5,6,0,0,0]] (@En C) (aY ak)
noncomputable def ak4(C:af)(Md Me:Int)(Mf:LV)(aO:Int):Option LV:=
 (C 75 [vI Md,vI Me,dP Mf,vI aO]).bind fun r1=>
 bif ((gI r1):Int) != 0 then
  some [vI 0,vI 0,vI (gI r1),au ([]:LV),aq ([]:LV)]
 else
  (C 77 [vI Md,vI Me,dP Mf]).bind fun r2=>
  (C 76 (LC r2 [vI aO])).bind fun r3=>
  (Loop (zV C 0 0 ([]:LV) ([]:LV)) ((gI r3),(dm r3),(jq r3),(oR r3),(uv r3))).bind (gZ (un fun uE=>un fun abo=>un fun av5=>un fun(Eo:LV) (v5:LV)=>
   some [vI abo,vI av5,vI uE,au Eo,aq v5]) (un fun(Mg:Bool)=>un fun abp=>un fun abq=>un fun(rX:LV)=>un fun(uF:LV) (Ep:LV)=>
   (C 80 [vI abp,vI abq,dP rX,aq uF,eF Ep]).bind fun Hs=>
   some [vI (gI Hs),vI (dm Hs),vI 0,au (D6 Hs),aq (gL ((((Hs.drop 2).drop 2).drop 1).drop 1))]))
theorem av6{Md Me:Int}{Mf:LV}{aO:Int}{r:Option LV}(h:ak4 CC Md Me Mf aO=r):CC 28 [vI Md,vI Me,dP Mf,vI aO]=r:=bR (br (av4 CC) ak) h
noncomputable def av7(C:af)(bW bX:Int)(aE ao aj:LV):Option LV:=
 some [.bool (bX==(aE.length:Int)),vI bW,vI bX,eF aj,dP aE,aq ao]
theorem To{bW bX:Int}{aE ao aj:LV}{r:Option LV}(h:av7 CC bW bX aE ao aj=r):CC 78 [vI bW,vI bX,dP aE,aq ao,eF aj]=r:=bR (L:=bS) ak h
noncomputable def zW(C:af)(t16 t17 bW bX:Int)(aj rows aw aC:LV){β:Type}(kn:ay (Int×Int×Int×LV×LV×LV×LV) β)(kr:ay ((Int×Int×Int×LV×LV×LV) ⊕ (Int×Bool×Int×Int×LV×LV×LV×LV)) β):Option β:=
 bif decide (t17<t16)then
  aL aw bX fun x1=>
  (C 117 [vI ((x1.cell 0).toInt),vI ((x1.cell 1).toInt),dP ((x1.cell 2).toList),vI t17]).bind fun r2=>
  bif ((G2 r2):Int) != 0 then
  kr (.inl ((G2 r2),bW,bX,aj,aw,aC))
  else
  (C 118 (LC r2 [])).bind fun r3=>
  bif Nat.ble ((gS r3).length) maxLen&&true then
   bif !(gD (.str (gS r3)) aj)then
   bif (aw.length:Int)==512 then
    kr (.inl (3,bW,bX,aj,aw,aC))
   else
    (C 115 (LC r2 [vI bW,vI bX,dP aw,aq aC,eF aj])).bind fun r4=>
    aL rows t17 fun x5=>
    kn (wrap .i64 (t17+1),(dm r4),(jo r4),(G1 r4),aG rows t17 (vI (gI r4)),(GZ r4),(G0 r4))
   else
   aL rows t17 fun x6=>
   kn (wrap .i64 (t17+1),bW,bX,aj,aG rows t17 (vI ((mq (.str (gS r3)) aj (vI 0)).toInt)),aw,aC)
  else none
 else
  kr (.inr (t17,decide (t17<t16),bW,bX,aj,rows,aw,aC))
noncomputable def tc(C:af)(t16:Int):=un fun t17=>un fun bW=>un fun bX=>un fun aj=>un fun rows=>un fun aw aC=>zW C t16 t17 bW bX aj rows aw aC ct cu
noncomputable def av8(C:af):da:=cm 49 aaM (aN 8 254) [[0,0,0,0,0,0],[1,0,0,0,0,0,0,0,0]] (@zW C) bS
theorem av9(C:af):bt C (av8 C) 79 (Lp [1,1,0,1,0,0] 79):=cj aaM (aN 8 254) [[0,0,0,0,0,0],[1,0,0,0,0,0,0,0,0]] (@zW C) (aY ak)
noncomputable def Ts(C:af)(bW bX:Int)(aE ao aj:LV):Option LV:=
 bif (decide (0≤bW))&&((decide (bW≤bW))&&(Nat.ble ((bW.toNat)*8) bf))then
  (Loop (tc C ((List.replicate (bW.toNat) (vI 0)).length:Int)) (0,bW,bX,aj,List.replicate (bW.toNat) (vI 0),aE,ao)).bind (gZ (un fun v7=>un fun Ht=>un fun Eo=>un fun(v5:LV)=>un fun(zX:LV) (zY:LV)=>
   some [vI v7,vI Ht,vI Eo,eF v5,dP zX,aq zY]) (un fun Er=>un fun(Mh:Bool)=>un fun Mi=>un fun Mj=>un fun(Es:LV)=>un fun(ak5:LV)=>un fun(qi:LV) (lz:LV)=>
   bif Nat.ble ((lz.length+([ab ak5]:LV).length)*24) bf then
   some [vI 0,vI Mi,vI (wrap .i64 (Mj+1)),eF Es,dP qi,aq (lz++([ab ak5]:LV))]
   else none))
 else none
theorem abr{bW bX:Int}{aE ao aj:LV}{r:Option LV}(h:Ts CC bW bX aE ao aj=r):CC 79 [vI bW,vI bX,dP aE,aq ao,eF aj]=r:=bR (br (av9 CC) ak) h
noncomputable def ak6(C:af):Option LV:=
 (C 30 [vI 0]).bind fun r1=>
 (C 30 [vI 1]).bind fun r2=>
 (C 29 [vI 5,dP ([.agg [vI (gI r1),vI (dm r1),dP (jq r1)],.agg [vI (gI r2),vI (dm r2),dP (jq r2)]]:LV)]).bind fun r3=>
 (C 29 [vI 7,dP ([.agg (LC r3 [])]:LV)]).bind fun r4=>
 (C 28 (LC r4 [vI 2])).bind fun r5=>
 bif ((gI (r5.drop 2)):Int)==0 then
  (C 21 [vI (gI r5),vI (dm r5),au (gL (r5.drop 3)),aq (gL ((r5.drop 3).drop 1))]).bind fun r6=>
  bif (((jq r6).length:Int):Int)==3 then
  (C 30 [vI 0]).bind fun r7=>
  (C 31 [vI (gI r7),vI (dm r7),dP (jq r7),.str [97]]).bind fun r8=>
  some [.bool (gB r8)]
  else
  some [.bool false]
 else
  some [.bool false]
theorem awa{r:Option LV}(h:ak6 CC=r):CC 10 []=r:=bR (L:=bS) ak h
def kA:V:=dP [.agg [vI 5,vI 0,dP [.agg [vI 3,vI 0,dP []],.agg [vI 3,vI 1,dP []]]]]
def kB:V:=dP [.agg [vI 3,vI 1,dP []],.agg [vI 7,vI 0,kA]]
def kE:LV:=[.agg [vI 7,vI 0,kA],.agg [vI 5,vI 0,kB],.agg [vI 1,vI 0,dP []]]
def kM:LV:=[.bN [.str [40,97,98,41,42],vI 0],.bN [.str [98,40,97,98,41,42],vI 1],.bN [.str [48],vI 2]]
def kF:V:=au [.bool true,.bool false,.bool false]
def kN:V:=aq [ab [vI 1,vI 2],ab [vI 2,vI 0],ab [vI 2,vI 2]]
theorem awb:CC 75 [vI 7,vI 0,kA,vI 2]=some [vI 0]:=gl (N:=60) (n:=30) (by kernel_rfl)
theorem awc:CC 77 [vI 7,vI 0,kA]=some [vI 7,vI 0,kA]:=gl (N:=60) (n:=30) (by kernel_rfl)
theorem awd:CC 76 [vI 7,vI 0,kA,vI 2]=some [vI 2,vI 0,dP [.agg [vI 7,vI 0,kA]],aq [],eF [.bN [.str [40,97,98,41,42],vI 0]]]:=gl (N:=60) (n:=30) (by kernel_rfl)
theorem awe:CC 117 [vI 7,vI 0,kA,vI 0]=some [vI 5,vI 0,kB,vI 0]:=gl (N:=60) (n:=30) (by kernel_rfl)
theorem awf:CC 118 [vI 5,vI 0,kB]=some [.str [98,40,97,98,41,42]]:=gl (N:=60) (n:=30) (by kernel_rfl)
theorem awg:CC 115 [vI 5,vI 0,kB,vI 2,vI 0,dP [.agg [vI 7,vI 0,kA]],aq [],eF [.bN [.str [40,97,98,41,42],vI 0]]]=some [vI 1,vI 2,vI 0,eF [.bN [.str [40,97,98,41,42],vI 0],.bN [.str [98,40,97,98,41,42],vI 1]],dP [.agg [vI 7,vI 0,kA],.agg [vI 5,vI 0,kB]],aq []]:=gl (N:=60) (n:=30) (by kernel_rfl)
theorem awh:CC 117 [vI 7,vI 0,kA,vI 1]=some [vI 1,vI 0,dP [],vI 0]:=gl (N:=60) (n:=30) (by kernel_rfl)
theorem awi:CC 118 [vI 1,vI 0,dP []]=some [.str [48]]:=gl (N:=60) (n:=30) (by kernel_rfl)
theorem awj:CC 115 [vI 1,vI 0,dP [],vI 2,vI 0,dP [.agg [vI 7,vI 0,kA],.agg [vI 5,vI 0,kB]],aq [],eF [.bN [.str [40,97,98,41,42],vI 0],.bN [.str [98,40,97,98,41,42],vI 1]]]=some [vI 2,vI 2,vI 0,eF kM,dP kE,aq []]:=gl (N:=60) (n:=30) (by kernel_rfl)
theorem awk:CC 79 [vI 2,vI 0,dP [.agg [vI 7,vI 0,kA]],aq [],eF [.bN [.str [40,97,98,41,42],vI 0]]]=some [vI 0,vI 2,vI 1,eF kM,dP kE,aq [ab [vI 1,vI 2]]]:=by
 have h1:tc CC 2 (0,2,0,[.bN [.str [40,97,98,41,42],vI 0]],[vI 0,vI 0],[.agg [vI 7,vI 0,kA]],[])=some (.inl (1,2,0,[.bN [.str [40,97,98,41,42],vI 0],.bN [.str [98,40,97,98,41,42],vI 1]],[vI 1,vI 0],[.agg [vI 7,vI 0,kA],.agg [vI 5,vI 0,kB]],[])):=by simp only[tc,zW,un,aL];exact bT rfl (bT rfl (bs rfl (bs awe (bF rfl (bs awf (bT rfl (bT rfl (bF rfl (bs awg (bT rfl (bs rfl rfl)))))))))))
 have h2:tc CC 2 (1,2,0,[.bN [.str [40,97,98,41,42],vI 0],.bN [.str [98,40,97,98,41,42],vI 1]],[vI 1,vI 0],[.agg [vI 7,vI 0,kA],.agg [vI 5,vI 0,kB]],[])=some (.inl (2,2,0,kM,[vI 1,vI 2],kE,[])):=by simp only[tc,zW,un,aL];exact bT rfl (bT rfl (bs rfl (bs awh (bF rfl (bs awi (bT rfl (bT rfl (bF rfl (bs awj (bT rfl (bs rfl rfl)))))))))))
 refine abr ?_;unfold Ts;exact bT rfl (bs ((kY h1).trans ((kY h2).trans (lS rfl))) rfl)
theorem awl:CC 117 [vI 5,vI 0,kB,vI 0]=some [vI 1,vI 0,dP [],vI 0]:=gl (N:=60) (n:=30) (by kernel_rfl)
theorem awm:CC 118 [vI 1,vI 0,dP []]=some [.str [48]]:=gl (N:=60) (n:=30) (by kernel_rfl)
theorem awn:CC 117 [vI 5,vI 0,kB,vI 1]=some [vI 7,vI 0,kA,vI 0]:=gl (N:=60) (n:=30) (by kernel_rfl)
theorem awo:CC 118 [vI 7,vI 0,kA]=some [.str [40,97,98,41,42]]:=gl (N:=60) (n:=30) (by kernel_rfl)
theorem awp:CC 79 [vI 2,vI 1,dP kE,aq [ab [vI 1,vI 2]],eF kM]=some [vI 0,vI 2,vI 2,eF kM,dP kE,aq [ab [vI 1,vI 2],ab [vI 2,vI 0]]]:=by
 have h1:tc CC 2 (0,2,1,kM,[vI 0,vI 0],kE,[ab [vI 1,vI 2]])=some (.inl (1,2,1,kM,[vI 2,vI 0],kE,[ab [vI 1,vI 2]])):=by simp only[tc,zW,un,aL];exact bT rfl (bT rfl (bs rfl (bs awl (bF rfl (bs awm (bT rfl (bF rfl (bT rfl (bs rfl rfl)))))))))
 have h2:tc CC 2 (1,2,1,kM,[vI 2,vI 0],kE,[ab [vI 1,vI 2]])=some (.inl (2,2,1,kM,[vI 2,vI 0],kE,[ab [vI 1,vI 2]])):=by simp only[tc,zW,un,aL];exact bT rfl (bT rfl (bs rfl (bs awn (bF rfl (bs awo (bT rfl (bF rfl (bT rfl (bs rfl rfl)))))))))
 refine abr ?_;unfold Ts;exact bT rfl (bs ((kY h1).trans ((kY h2).trans (lS rfl))) rfl)
theorem awq:CC 117 [vI 1,vI 0,dP [],vI 0]=some [vI 1,vI 0,dP [],vI 0]:=gl (N:=60) (n:=30) (by kernel_rfl)
theorem awr:CC 118 [vI 1,vI 0,dP []]=some [.str [48]]:=gl (N:=60) (n:=30) (by kernel_rfl)
theorem aws:CC 117 [vI 1,vI 0,dP [],vI 1]=some [vI 1,vI 0,dP [],vI 0]:=gl (N:=60) (n:=30) (by kernel_rfl)
theorem awt:CC 118 [vI 1,vI 0,dP []]=some [.str [48]]:=gl (N:=60) (n:=30) (by kernel_rfl)
theorem awu:CC 79 [vI 2,vI 2,dP kE,aq [ab [vI 1,vI 2],ab [vI 2,vI 0]],eF kM]=some [vI 0,vI 2,vI 3,eF kM,dP kE,kN]:=by
 have h1:tc CC 2 (0,2,2,kM,[vI 0,vI 0],kE,[ab [vI 1,vI 2],ab [vI 2,vI 0]])=some (.inl (1,2,2,kM,[vI 2,vI 0],kE,[ab [vI 1,vI 2],ab [vI 2,vI 0]])):=by simp only[tc,zW,un,aL];exact bT rfl (bT rfl (bs rfl (bs awq (bF rfl (bs awr (bT rfl (bF rfl (bT rfl (bs rfl rfl)))))))))
 have h2:tc CC 2 (1,2,2,kM,[vI 2,vI 0],kE,[ab [vI 1,vI 2],ab [vI 2,vI 0]])=some (.inl (2,2,2,kM,[vI 2,vI 2],kE,[ab [vI 1,vI 2],ab [vI 2,vI 0]])):=by simp only[tc,zW,un,aL];exact bT rfl (bT rfl (bs rfl (bs aws (bF rfl (bs awt (bT rfl (bF rfl (bT rfl (bs rfl rfl)))))))))
 refine abr ?_;unfold Ts;exact bT rfl (bs ((kY h1).trans ((kY h2).trans (lS rfl))) rfl)
theorem awv:CC 80 [vI 2,vI 3,dP kE,kN,eF kM]=some [vI 2,vI 0,vI 2,vI 3,eF kM,kF,kN,dP kE]:=gl (N:=60) (n:=30) (by kernel_rfl)
theorem aww:CC 28 [vI 7,vI 0,kA,vI 2]=some [vI 2,vI 0,vI 0,kF,kN]:=by
 have b1:zV CC 0 0 [] [] (2,0,[.agg [vI 7,vI 0,kA]],[],[.bN [.str [40,97,98,41,42],vI 0]])=some (.inl (2,1,kE,[ab [vI 1,vI 2]],kM)):=by simp only[zV,En,un];exact bs (To rfl) (bT rfl (bs awk (bF rfl rfl)))
 have b2:zV CC 0 0 [] [] (2,1,kE,[ab [vI 1,vI 2]],kM)=some (.inl (2,2,kE,[ab [vI 1,vI 2],ab [vI 2,vI 0]],kM)):=by simp only[zV,En,un];exact bs (To rfl) (bT rfl (bs awp (bF rfl rfl)))
 have b3:zV CC 0 0 [] [] (2,2,kE,[ab [vI 1,vI 2],ab [vI 2,vI 0]],kM)=some (.inl (2,3,kE,[ab [vI 1,vI 2],ab [vI 2,vI 0],ab [vI 2,vI 2]],kM)):=by simp only[zV,En,un];exact bs (To rfl) (bT rfl (bs awu (bF rfl rfl)))
 have b4:zV CC 0 0 [] [] (2,3,kE,[ab [vI 1,vI 2],ab [vI 2,vI 0],ab [vI 2,vI 2]],kM)=some (.inr (.inr (false,2,3,kE,[ab [vI 1,vI 2],ab [vI 2,vI 0],ab [vI 2,vI 2]],kM))):=by simp only[zV,En,un];exact bs (To rfl) (bF rfl rfl)
 refine av6 ?_;unfold ak4;refine bs awb (bF rfl (bs awc (bs awd (bs ((kY b1).trans ((kY b2).trans ((kY b3).trans (lS b4)))) ?_))));exact bs awv rfl
theorem awx:CC 21 [vI 2,vI 0,kF,kN]=some [vI 2,vI 0,kF,kN]:=gl (N:=60) (n:=30) (by kernel_rfl)
theorem awy:CC 31 [vI 3,vI 0,dP [],.str [97]]=some [.bool true]:=gl (N:=60) (n:=30) (by kernel_rfl)
theorem abt:CC 10 []=some [.bool true]:=by
 have hl:∀x,CC 30 [vI x]=some [vI 3,vI x,dP []]:=fun x=>av1 rfl;refine awa ?_;unfold ak6;refine bs (hl 0) (bs (hl 1) (bs (ak3 rfl) (bs (ak3 rfl) (bs aww (bT rfl (bs awx (bT rfl (bs (hl 0) (bs awy rfl)))))))))
end Go.AM
set_option maxRecDepth 100000
namespace Go.AM
open Go.IntKind (wrap)
theorem dK{α:Type}{l:List α}{i:Nat}{d:α}(h:i<l.length):l.getD i d=l[i]:=by simp[h]
structure Da where
 L:Nat
 st:Nat
 F:List Bool
 N:List (List Nat)
deriving DecidableEq
namespace Da
def n(d:Da):Nat:=d.F.length
def nx(d:Da)(q x:Nat):Nat:=(d.N.getD q []).getD x 0
def fin(d:Da)(q:Nat):Bool:=d.F.getD q false
def run(d:Da)(q:Nat)(w:List Nat):Nat:=w.foldl d.nx q
def acc(d:Da)(q:Nat)(w:List Nat):Bool:=d.fin (d.run q w)
structure Ok(d:Da):Prop where
 l1:1≤d.L
 l6:d.L≤6
 nN:d.N.length=d.n
 row:∀r∈d.N,r.length=d.L∧∀q∈r,q<d.n
 s:d.st<d.n
 eG:d.n≤512
end Da
def WL(L:Nat)(w:List Nat):Prop:= ∀x∈w,x<L
theorem WL.nil{L:Nat}:WL L []:=fun _ h=>by cases h
theorem WL.cons{L x:Nat}{w:List Nat}(h:x<L)(hw:WL L w):WL L (x::w):=fun y hy=>by
 rcases kC.1 hy with rfl|hy
 ·exact h
 ·exact hw y hy
theorem WL.head{L x:Nat}{w:List Nat}(h:WL L (x::w)):x<L:=h x (by simp)
theorem WL.tail{L x:Nat}{w:List Nat}(h:WL L (x::w)):WL L w:=fun y hy=>h y (by simp[hy])
theorem WL.app{L:Nat}{v w:List Nat}:WL L (v++w)↔WL L v∧WL L w:=by
 unfold WL;grind
namespace Da
def uG(d:Da)(q:Nat)(d':Da)(q':Nat):Prop:= ∀w,WL d.L w→d.acc q w=d'.acc q' w
theorem Ok.ov{d:Da}(h:d.Ok){q x:Nat}(hq:q<d.n)(hx:x<d.L):d.nx q x<d.n:=by
 have eC:q<d.N.length:=by rw[h.nN];exact hq
 have hr:=h.row d.N[q] (fx eC);unfold nx;simp_all
theorem Ok.Et{d:Da}(h:d.Ok):∀(w:List Nat) {q:Nat},q<d.n→WL d.L w→d.run q w<d.n
 | [],q,hq,_=>hq
 |x::w,q,hq,hw=>h.Et w (h.ov hq hw.head) hw.tail
theorem ak7{d:Da}{q x:Nat}{w:List Nat}:d.run q (x::w)=d.run (d.nx q x) w:=rfl
theorem Tu{d:Da}{q x:Nat}{w:List Nat}:d.acc q (x::w)=d.acc (d.nx q x) w:=rfl
theorem Hu{d:Da}{q:Nat}{v w:List Nat}:d.run q (v++w)=d.run (d.run q v) w:=Fx
theorem BN{d:Da}{q:Nat}{v w:List Nat}:d.acc q (v++w)=d.acc (d.run q v) w:=by unfold acc;rw[Hu]
theorem yc{d:Da}{q:Nat}:d.acc q []=d.fin q:=rfl
theorem uG.nx{d d':Da}{q q' x:Nat}(h:d.uG q d' q')(hx:x<d.L):d.uG (d.nx q x) d' (d'.nx q' x):=fun w hw=>h (x::w) (hw.cons hx)
def pos(d:Da)(t:Nat):Nat:=d.nx (t/d.L) (t %d.L)
def mt(d:Da):Nat→Nat
 |0=>1
 |t+1=>if d.pos t=d.mt t then d.mt t+1 else d.mt t
structure Tv(d:Da):Prop where
 le:∀t,t<d.n*d.L→d.pos t≤d.mt t
 row:∀q,q<d.n→q<d.mt (q*d.L)
 all:d.mt (d.n*d.L)=d.n
structure Canon(d:Da)(L:Nat)(K:List Nat→Bool):Prop where
 ok:d.Ok
 hL:d.L=L
 st:d.st=0
 num:d.Tv
 red:∀p q,p<d.n→q<d.n→d.uG p d q→p=q
 Hv:∀w,WL L w→d.acc 0 w=K w
theorem Tw(d:Da):∀{s t:Nat},s≤t→d.mt s≤d.mt t:=by
 intro s t h
 induction t with
 |zero=>grind
 |succ t ih=>
  rcases fR s (t+1)with h1|h1
  ·have:=ih (by omega);have e:d.mt (t+1)=if d.pos t=d.mt t then d.mt t+1 else d.mt t:=rfl
   grind
  grind
theorem abu{d d':Da}{K:List Nat→Bool}{L:Nat}(h:d.Canon L K)(h':d'.Canon L K):∀t,t≤d.n*L→t≤d'.n*L→d.mt t=d'.mt t∧(∀s,s<t→d.pos s=d'.pos s)∧∀q,q<d.mt t→d.uG q d' q:=by
 intro t;have e:=h.hL;have e':=h'.hL;have hl:=h.ok.l1
 induction t with
 |zero=>
  intro _ _;refine⟨rfl,fun s hs=>by omega,fun q hq=> ?_⟩;obtain rfl:q=0:=by have:q<1:=hq;omega
  intro w hw;rw[h.Hv w (e▸hw),h'.Hv w (e▸hw)]
 |succ t ih=>
  intro h1 h2;obtain⟨i1,i2,i3⟩:=ih (by omega) (by omega);have hm:d.mt t≤d.n:=by rw[←h.num.all];exact d.Tw (by grind)
  have xb:d'.mt t≤d'.n:=by rw[←h'.num.all];exact d'.Tw (by grind)
  have hq:t/L<d.n:=by rw[PZ (by omega)];omega
  have eC:t/L<d'.n:=by rw[PZ (by omega)];omega
  have hx:t %L<L:=CB _ (by omega);have hqm:t/L<d.mt t:=by
   have a:=h.num.row _ hq;rw[e]at a;have b:d.mt (t/L*L)≤d.mt t:=d.Tw (Nat.div_mul_le_self t L);omega
  have hE:=(i3 _ hqm).nx (by rw[e];exact hx);have p1:d.pos t=d.nx (t/L) (t %L):=by unfold pos;rw[e]
  have p2:d'.pos t=d'.nx (t/L) (t %L):=by unfold pos;rw[e']
  rw[←p1,←p2]at hE;have l1:=h.num.le t (by grind);have l2:=h'.num.le t (by grind);have b1:d.pos t<d.n:=by rw[p1];exact h.ok.ov hq (by omega)
  have b2:d'.pos t<d'.n:=by rw[p2];exact h'.ok.ov eC (by omega)
  have key:d.pos t=d'.pos t:=by
   rcases fR (d.pos t) (d.mt t)with c|c
   ·have hA:=i3 _ c;refine h'.red _ _ (by omega) b2 fun w hw=> ?_;have Bm:WL d.L w:=by grind
    rw[←hA w Bm,hE w Bm]
   ·rcases fR (d'.pos t) (d.mt t)with c'|c'
    ·have hA:=i3 _ c';refine h.red _ _ b1 (by omega) fun w hw=> ?_;rw[hE w hw,hA w hw]
    ·omega
  refine⟨?_,?_,?_⟩
  ·unfold mt;grind
  ·grind
  ·intro q Bd;rcases fR q (d.mt t)with c|c
   ·grind
   ·have:d.pos t=d.mt t∧q=d.mt t:=by
     unfold mt at Bd;grind
    grind
theorem awz{a b:List Nat}(hl:a.length=b.length)(h:∀x,x<a.length→a.getD x 0=b.getD x 0):a=b:=by
 refine yQ hl fun x h1 h2=> ?_;grind
theorem abv{d:Da}(h:d.Ok){q:Nat}(hq:q<d.n):(d.N.getD q []).length=d.L:=by
 have eC:q<d.N.length:=by rw[h.nN];exact hq
 rw[dK eC];exact(h.row _ (fx eC)).1
theorem Canon.eq{d d':Da}{K:List Nat→Bool}{L:Nat}(h:d.Canon L K)(h':d'.Canon L K):d=d':=by
 have e:=h.hL;have e':=h'.hL;have hl:=h.ok.l1;rw[e]at hl;have hn:d.n=d'.n:=by
  rcases Nat.lt_trichotomy d.n d'.n with c|c|c
  ·obtain⟨s1,_,_⟩:=abu h h' (d.n*L) (aR _) (fg _ (by omega));have a:=h.num.all;have b:=h'.num.row d.n c;grind
  ·exact c
  ·obtain⟨s1,_,_⟩:=abu h h' (d'.n*L) (fg _ (by omega)) (aR _);have a:=h'.num.all;have b:=h.num.row d'.n c;grind
 obtain⟨s1,s2,s3⟩:=abu h h' (d.n*L) (aR _) (by grind);have a:=h.num.all;rw[e]at a;have hE:∀q,q<d.n→d.uG q d' q:=fun q hq=>s3 q (by omega);have hP:∀q x,q<d.n→x<L→d.nx q x=d'.nx q x:=fun q x hq hx=>by
  have:=s2 (q*L+x) (by
   have:(q+1)*L≤d.n*L:=fg _ (by omega);grind)
  unfold pos at this;rw[e,e']at this;rwa [show(q*L+x)/L=q by rw[wJ,Nat.mul_add_div (by omega),Nat.div_eq_of_lt hx];rfl,show(q*L+x) %L=x by rw[wJ,Nat.mul_add_mod,IW hx]]at this
 have hF:d.F=d'.F:=by
  refine yQ hn fun q h1 h2=> ?_;have:=hE q h1 [] WL.nil;rw[yc,yc]at this;unfold fin at this;grind
 have hN:d.N=d'.N:=by
  refine yQ (by rw[h.ok.nN,h'.ok.nN,hn]) fun q h1 h2=> ?_;have hq:q<d.n:=by rw[←h.ok.nN];exact h1
  have r1:=abv h.ok hq;have r2:=abv h'.ok (show q<d'.n by omega);have hx:=fun x hx=>hP q x hq hx;unfold nx at hx;rw[dK h1]at r1 hx;rw[dK h2]at r2 hx;exact awz (by omega) fun x h3=>hx x (by omega)
 obtain⟨L1,s1,F1,N1⟩:=d;obtain⟨L2,s2,F2,N2⟩:=d';have q1:=h.st;have q2:=h'.st;grind
end Da
section
variable {α:Type}[DecidableEq α]
def eV(S:List α)(a:α):List α:=if a∈S then S else S++[a]
def dg(next:α→Nat→α)(S:List α)(a:α):Nat→List α
 |0=>S
 |x+1=>eV (dg next S a x) (next a x)
def aX(L:Nat)(next:α→Nat→α)(a0:α):Nat→List α
 |0=>[a0]
 |i+1=>match(aX L next a0 i)[i]? with
  |some a=>dg next (aX L next a0 i) a L
  |none=>aX L next a0 i
theorem abw(S:List α)(a:α):S <+: eV S a:=by
 unfold eV;grind
theorem Ml{S:List α}{a:α}:a∈eV S a:=by
 unfold eV;split
 ·assumption
 ·simp
theorem abx{S:List α}{a:α}(h:S.Nodup):(eV S a).Nodup:=by
 unfold eV;grind
theorem Hw{S:List α}{a:α}:(eV S a).length=if a∈S then S.length else S.length+1:=by
 unfold eV;grind
variable {L:Nat}{next:α→Nat→α}{a0:α}
theorem Tx(S:List α)(a:α):∀x,S <+: dg next S a x
 |0=>List.prefix_refl _
 |x+1=>(Tx S a x).trans (abw _ _)
theorem Hy(S:List α)(a:α){x y:Nat}(h:x≤y):dg next S a x <+: dg next S a y:=by
 induction y with
 |zero=>grind
 |succ y ih=>
  rcases fR x (y+1)with c|c
  ·exact(ih (by omega)).trans (abw _ _)
  grind
theorem ak8{S:List α}{a:α}(h:S.Nodup):∀x,(dg next S a x).Nodup
 |0=>h
 |x+1=>abx (ak8 h x)
theorem ak9{S:List α}{a:α}{x y:Nat}(h:x<y):next a x∈dg next S a y:=
 (Hy S a (show x+1≤y by omega)).subset Ml
theorem awA{i:Nat}{a:α}(h:(aX L next a0 i)[i]? =some a):aX L next a0 (i+1)=dg next (aX L next a0 i) a L:=by
 rw[aX,h]
theorem awB{i:Nat}(h:(aX L next a0 i).length≤i):aX L next a0 (i+1)=aX L next a0 i:=by
 rw[aX,P0 h]
theorem awC(i:Nat):aX L next a0 i <+: aX L next a0 (i+1):=by
 rw[aX];split
 ·exact Tx _ _ _
 grind
theorem zZ{i j:Nat}(h:i≤j):aX L next a0 i <+: aX L next a0 j:=by
 induction j with
 |zero=>grind
 |succ j ih=>
  rcases fR i (j+1)with c|c
  ·exact(ih (by omega)).trans (awC j)
  grind
theorem Hz:∀i,(aX L next a0 i).Nodup
 |0=>by simp[aX]
 |i+1=>by
  rw[aX];split
  ·exact ak8 (Hz i) _
  ·exact Hz i
theorem ala{i j:Nat}(h:(aX L next a0 i).length≤i)(hj:i≤j):aX L next a0 j=aX L next a0 i:=by
 induction j with
 |zero=>grind
 |succ j ih=>
  rcases fR i (j+1)with c|c
  ·rw[awB (by grind),ih (by omega)]
  grind
theorem awD(i:Nat):(aX L next a0 i)[0]? =some a0:=by
 have h:=zZ (L:=L) (next:=next) (a0:=a0) (mi i);have h0:0<(aX L next a0 0).length:=by simp[aX]
 rw[cv (fY h0 h.length_le),←h.getElem h0];rfl
theorem alb(i:Nat):0<(aX L next a0 i).length:=fY (by simp[aX]) (zZ (L:=L) (next:=next) (a0:=a0) (mi i)).length_le
theorem Tz:∀i,∀a∈aX L next a0 i,∃w,WL L w∧a=w.foldl next a0
 |0,a,h=>⟨[],WL.nil,by simpa[aX]using h⟩
 |i+1,a,h=>by
  rw[aX]at h;split at h
  ·rename_i b hb;have aJ:b∈aX L next a0 i:=o4 hb
   obtain⟨w,hw,rfl⟩:=Tz i b aJ;have:∀x,x≤L→∀a∈dg next (aX L next a0 i) (w.foldl next a0) x,∃w,WL L w∧a=w.foldl next a0:=by
    intro x
    induction x with
    |zero=>intro _ a h;exact Tz i a h
    |succ x ih=>
     intro hx a h;rw[dg]at h;unfold eV at h;split at h
     ·grind
     ·rcases fQ.1 h with h|h
      ·grind
      ·refine⟨w++[x],WL.app.2 ⟨hw,WL.nil.cons (by omega)⟩,?_⟩;grind
   grind
  ·exact Tz i a h
section
variable {k:Nat}(hd:(aX L next a0 k).length≤k)
include hd
theorem aby{i:Nat}(h:i<(aX L next a0 k).length):i<(aX L next a0 i).length:=by
 rcases fR i (aX L next a0 i).length with c|c
 ·exact c
 ·have:=ala c (show i≤k by omega);grind
theorem awE{i:Nat}(h:i<(aX L next a0 k).length):(aX L next a0 i)[i]? =some (aX L next a0 k)[i]:=by
 have h1:=aby hd h;rw[cv h1,(zZ (show i≤k by omega)).getElem h1]
theorem Mm{i:Nat}(h:i<(aX L next a0 k).length):aX L next a0 (i+1)=dg next (aX L next a0 i) (aX L next a0 k)[i] L:=awA (awE hd h)
theorem alc{a:α}(h:a∈aX L next a0 k){x:Nat}(hx:x<L):next a x∈aX L next a0 k:=by
 obtain⟨i,hi,rfl⟩:=CH h;have h1:next (aX L next a0 k)[i] x∈aX L next a0 (i+1):=by rw[Mm hd hi];exact ak9 hx
 rcases fR i k with c|c
 ·exact(zZ (show i+1≤k by omega)).subset h1
 ·omega
end
def ki(L:Nat)(next:α→Nat→α)(fin:α→Bool)(S:List α):Da where
 L:=L
 st:=0
 F:=S.map fin
 N:=S.map fun a=>(List.range L).map fun x=>S.idxOf (next a x)
theorem yd{fin:α→Bool}{S:List α}:(ki L next fin S).n=S.length:=by simp[ki,Da.n]
theorem TB{fin:α→Bool}{S:List α}{i x:Nat}(hi:i<S.length)(hx:x<L):(ki L next fin S).nx i x=S.idxOf (next S[i] x):=by
 unfold Da.nx ki;grind
theorem ald{fin:α→Bool}{S:List α}{i:Nat}(hi:i<S.length):(ki L next fin S).fin i=fin S[i]:=by
 unfold Da.fin ki;grind
theorem HA{S T:List α}(hp:T <+: S){a:α}(h:a∈T):S.idxOf a=T.idxOf a:=by
 obtain⟨U,rfl⟩:=hp;grind
section
variable {k:Nat}(hd:(aX L next a0 k).length≤k){fin:α→Bool}
include hd
theorem awF{i x:Nat}(hi:i<(aX L next a0 k).length)(hx:x<L):∃h:(ki L next fin (aX L next a0 k)).nx i x<(aX L next a0 k).length,(aX L next a0 k)[(ki L next fin (aX L next a0 k)).nx i x]=next (aX L next a0 k)[i] x:=by
 have hm:=alc hd (fx hi) hx;rw[TB hi hx];grind
theorem ale:∀(w:List Nat) {i:Nat} (hi:i<(aX L next a0 k).length),WL L w→∃h:(ki L next fin (aX L next a0 k)).run i w<(aX L next a0 k).length,(aX L next a0 k)[(ki L next fin (aX L next a0 k)).run i w]=w.foldl next (aX L next a0 k)[i]
 | [],i,hi,_=>⟨hi,rfl⟩
 |x::w,i,hi,hw=>by
  obtain⟨h1,h2⟩:=awF (fin:=fin) hd hi hw.head;obtain⟨h3,h4⟩:=ale w h1 hw.tail;refine⟨h3,?_⟩;rw[List.foldl_cons,←h2];exact h4
theorem awG{w:List Nat}{i:Nat}(hi:i<(aX L next a0 k).length)(hw:WL L w):(ki L next fin (aX L next a0 k)).acc i w=fin (w.foldl next (aX L next a0 k)[i]):=by
 obtain⟨h1,h2⟩:=ale (fin:=fin) hd w hi hw;unfold Da.acc;rw[ald h1,h2]
theorem awH(h1:1≤L)(h6:L≤6)(hm:(aX L next a0 k).length≤512):(ki L next fin (aX L next a0 k)).Ok where
 l1:=h1
 l6:=h6
 nN:=by rw[yd];simp[ki]
 row r hr:=by
  rw[yd];obtain⟨a,ha,rfl⟩:=iZ.1 (show r∈(aX L next a0 k).map _ from hr);refine⟨by simp[ki],fun q hq=> ?_⟩;obtain⟨x,hx,rfl⟩:=iZ.1 hq;exact I7 (alc hd ha (gM.1 hx))
 s:=by rw[yd];exact alb k
 eG:=by rw[yd];exact hm
theorem abz(h1:1≤L):∀i,i≤(aX L next a0 k).length→(ki L next fin (aX L next a0 k)).mt (i*L)=(aX L next a0 i).length∧∀(hi:i<(aX L next a0 k).length) x,x≤L→(ki L next fin (aX L next a0 k)).mt (i*L+x)=(dg next (aX L next a0 i) (aX L next a0 k)[i] x).length:=by
 have key:∀i,(ki L next fin (aX L next a0 k)).mt (i*L)=(aX L next a0 i).length→∀(hi:i<(aX L next a0 k).length) x,x≤L→(ki L next fin (aX L next a0 k)).mt (i*L+x)=(dg next (aX L next a0 i) (aX L next a0 k)[i] x).length:=by
  intro i h hi x
  induction x with
  |zero=>intro _;exact h
  |succ x ih=>
   intro hx;have ih:=ih (by omega);have hp:dg next (aX L next a0 i) (aX L next a0 k)[i] (x+1) <+: aX L next a0 k:=by
    refine(Hy _ _ hx).trans ?_;rw[←Mm hd hi];exact zZ (by omega)
   have hp0:dg next (aX L next a0 i) (aX L next a0 k)[i] x <+: aX L next a0 k:=(Hy _ _ (by omega)).trans hp
   have ka:(ki L next fin (aX L next a0 k)).pos (i*L+x)=(aX L next a0 k).idxOf (next (aX L next a0 k)[i] x):=by
    unfold Da.pos;rw[show(ki L next fin (aX L next a0 k)).L=L from rfl,show(i*L+x)/L=i by rw[wJ,Nat.mul_add_div (by omega),Nat.div_eq_of_lt (by omega)];rfl,show(i*L+x) %L=x by rw[wJ,Nat.mul_add_mod,IW (by omega)],TB hi (by omega)]
   show(ki L next fin (aX L next a0 k)).mt ((i*L+x)+1)=_;rw[Da.mt,ka,ih,dg];rw[dg]at hp;generalize dg next (aX L next a0 i) (aX L next a0 k)[i] x=T at*
   generalize next (aX L next a0 k)[i] x=b at*
   rw[Hw];by_cases hb:b∈T
   ·rw[aP hb,HA hp0 hb,aM (by grind)]
   ·rw[aM hb];unfold eV at hp;rw[aM hb]at hp;rw[HA hp (by simp),List.idxOf_append,aM hb];simp
 intro i
 induction i with
 |zero=>
  intro _;have:(ki L next fin (aX L next a0 k)).mt (0*L)=(aX L next a0 0).length:=by rw[Nat.zero_mul];rfl
  grind
 |succ i ih=>
  intro hi;obtain⟨_,h3⟩:=ih (by omega);have h4:=h3 (by omega) L (aR _);rw[←Mm hd (by omega),←sy]at h4;grind
theorem alf:(aX L next a0 (aX L next a0 k).length)=aX L next a0 k:=by
 have hp:=zZ (L:=L) (next:=next) (a0:=a0) hd;exact(ala hp.length_le hd).symm
theorem awI(h1:1≤L):(ki L next fin (aX L next a0 k)).Tv where
 le t ht:=by
  rw[yd]at ht;have hq:t/L<(aX L next a0 k).length:=by rw[PZ (by omega)];exact ht
  have hx:t %L<L:=CB _ (by omega);have ht2:t/L*L+t %L=t:=Nat.div_add_mod' t L;have h2:=(abz (fin:=fin) hd h1 (t/L) (by omega)).2 hq (t %L) (by omega);rw[ht2]at h2;rw[h2];unfold Da.pos;rw[show(ki L next fin (aX L next a0 k)).L=L from rfl,TB hq hx];have hp:dg next (aX L next a0 (t/L)) (aX L next a0 k)[t/L] (t %L+1) <+: aX L next a0 k:=by
   refine(Hy _ _ (show t %L+1≤L by omega)).trans ?_;rw[←Mm hd hq];exact zZ (by omega)
  rw[dg]at hp;generalize dg next (aX L next a0 (t/L)) (aX L next a0 k)[t/L] (t %L)=T at*
  generalize next (aX L next a0 k)[t/L] (t %L)=b at*
  rw[HA hp Ml];have:=I7 (Ml (S:=T) (a:=b));rw[Hw]at this;grind
 row q hq:=by
  rw[yd]at hq;rw[show(ki L next fin (aX L next a0 k)).L=L from rfl,(abz hd h1 q (by omega)).1];exact aby hd hq
 all:=by
  rw[yd,show(ki L next fin (aX L next a0 k)).L=L from rfl,(abz hd h1 _ (aR _)).1,alf hd]
end
theorem alg{U:List α}(h0:a0∈U)(hU:∀a∈U,∀x,x<L→next a x∈U)(k:Nat):aX L next a0 k ⊆ U:=by
 intro a ha;obtain⟨w,hw,rfl⟩:=Tz k a ha;have:∀(w:List Nat) (b:α),b∈U→WL L w→w.foldl next b∈U:=by
  intro w
  induction w with
  |nil=>grind
  |cons x w ih=>intro b hb hw;exact ih _ (hU b hb x hw.head) hw.tail
 grind
theorem awJ{U:List α}(h0:a0∈U)(hU:∀a∈U,∀x,x<L→next a x∈U)(k:Nat):(aX L next a0 k).length≤U.length:=
 tJ (Hz k) (alg h0 hU k)
end
namespace Da
def trim(d:Da):Da:=ki d.L d.nx d.fin (aX d.L d.nx d.st d.n)
theorem Ok.z0{d:Da}(h:d.Ok)(k:Nat):(aX d.L d.nx d.st k).length≤d.n:=by
 have:=awJ (L:=d.L) (next:=d.nx) (a0:=d.st) (U:=List.range d.n) (gM.2 h.s) (fun a ha x hx=>gM.2 (h.ov (gM.1 ha) hx)) k;grind
theorem Ok.Mo{d:Da}(h:d.Ok)(k:Nat):∀q∈aX d.L d.nx d.st k,q<d.n:=fun q hq=>by
 have:=alg (L:=d.L) (next:=d.nx) (a0:=d.st) (U:=List.range d.n) (gM.2 h.s) (fun a ha x hx=>gM.2 (h.ov (gM.1 ha) hx)) k hq;grind
theorem Ok.alh{d:Da}(h:d.Ok):d.trim.Ok:=awH (h.z0 _) h.l1 h.l6 (lR (h.z0 _) h.eG)
theorem Ok.abA{d:Da}(h:d.Ok){i:Nat}(hi:i<(aX d.L d.nx d.st d.n).length){w:List Nat}(hw:WL d.L w):d.trim.acc i w=d.acc (aX d.L d.nx d.st d.n)[i] w:=awG (h.z0 _) hi hw
theorem Ok.ali{d:Da}(h:d.Ok){w:List Nat}(hw:WL d.L w):d.trim.acc 0 w=d.acc d.st w:=by
 rw[h.abA (alb _) hw];have:=awD (L:=d.L) (next:=d.nx) (a0:=d.st) d.n;grind
theorem Ok.awK{d:Da}(h:d.Ok)(hr:∀p q,p<d.n→q<d.n→d.uG p d q→p=q):d.trim.Canon d.L (d.acc d.st)where
 ok:=h.alh
 hL:=rfl
 st:=rfl
 num:=awI (h.z0 _) h.l1
 red p q hp hq he:=by
  unfold trim at hp hq;rw[yd]at hp hq;have h1:d.uG (aX d.L d.nx d.st d.n)[p] d (aX d.L d.nx d.st d.n)[q]:=fun w hw=>by
   rw[←h.abA hp hw,←h.abA hq hw];exact he w hw
  have h2:=hr _ _ (h.Mo _ _ (fx hp)) (h.Mo _ _ (fx hq)) h1;rw[←List.Nodup.idxOf_getElem (Hz _) p hp,←List.Nodup.idxOf_getElem (Hz _) q hq,h2]
 Hv w hw:=h.ali hw
end Da
end Go.AM
set_option maxRecDepth 100000
namespace Go.AM
open Go.IntKind (wrap)
open Go.Proofs
noncomputable def Mp(C:af)(Eu:Int)(t38:LV)(t39 t40:Int)(t49:LV)(t50 cD cJ:Int)(je iA:LV)(t51:Int){β:Type}(kn:ay Int β)(kr:ay ((Int) ⊕ (Int×Bool)) β):Option β:=
 bif decide (t51<t50)then
  (idx t49 t51).bind fun x2=>
  bif decide ((x2.toInt:Int)<0)then
  kr (.inl 4)
  else
  bif decide ((x2.toInt:Int)≥Eu)then
   kr (.inl 4)
  else
   kn (wrap .i64 (t51+1))
 else
  kr (.inr (t51,decide (t51<t50)))
noncomputable def TC(C:af)(Eu:Int)(t38:LV)(t39 t40:Int)(t49:LV)(t50 cD cJ:Int)(je iA:LV):=fun t51=>Mp C Eu t38 t39 t40 t49 t50 cD cJ je iA t51 ct cu
noncomputable def Mq(C:af)(Eu:Int)(t38:LV)(t39 cD cJ:Int)(je iA:LV)(t40:Int){β:Type}(kn:ay Int β)(kr:ay ((Int) ⊕ (Int×Bool)) β):Option β:=
 bif decide (t40<t39)then
  (idx t38 t40).bind fun x1=>
  bif (x1.toList.length:Int) != cD then
  kr (.inl 4)
  else
  (Loop (TC C Eu t38 t39 t40 x1.toList (x1.toList.length:Int) cD cJ je iA) 0).bind (gZ (fun fL=>
   kr (.inl fL)) (un fun(hZ:Int) (jV:Bool)=>
   kn (wrap .i64 (t40+1))))
 else
  kr (.inr (t40,decide (t40<t39)))
noncomputable def TD(C:af)(Eu:Int)(t38:LV)(t39 cD cJ:Int)(je iA:LV):=fun t40=>Mq C Eu t38 t39 cD cJ je iA t40 ct cu
noncomputable def alj(C:af):da:=cm 225 ZB (aN 11 64) [[0],[1,2,3,4,5,6,0,0,8,9,10,11]] (@Mp C) (cm 145 ZC (aN 8 8) [[0],[1,2,3,0,0,5,6,7,8]] (@Mq C) bS)
theorem awL(C:af):bt C (alj C) 19 (Lp [1,1,1,1,1,0,1,0,0,1,1,0,0,1,1,1,0,0] 19):=cj ZB (aN 11 64) [[0],[1,2,3,4,5,6,0,0,8,9,10,11]] (@Mp C) (aY ak)
theorem awM(C:af):bt C (alj C) 19 (Lp [1,1,1,1,1,0,1,0,0] 19):=cj ZC (aN 8 8) [[0],[1,2,3,0,0,5,6,7,8]] (@Mq C) (aY (br (awL C) ak))
noncomputable def alk(C:af)(dp dx:Int)(dJ eE:LV):Option LV:=
 bif decide (dp<1)then
  some [vI 1]
 else
  bif decide (dp>6)then
  some [vI 1]
  else
  bif decide ((dJ.length:Int)>512)then
   some [vI 3]
  else
   bif (eE.length:Int) != (dJ.length:Int)then
   some [vI 4]
   else
   bif decide (dx<0)then
    some [vI 4]
   else
    bif decide (dx≥(dJ.length:Int))then
    some [vI 4]
    else
    (Loop (TD C (dJ.length:Int) eE (eE.length:Int) dp dx dJ eE) 0).bind (gZ (fun uE=>
     some [vI uE]) (un fun(v7:Int) (BO:Bool)=>
     some [vI 0]))
theorem awN{dp dx:Int}{dJ eE:LV}{r:Option LV}(h:alk CC dp dx dJ eE=r):CC 19 [vI dp,vI dx,au dJ,aq eE]=r:=bR (br (awM CC) ak) h
abbrev iV(n:Int):V:=vI n
def ye(r:List Int):V:=ab (r.map iV)
@[simp] theorem awO (r:List Int):(ye r).toList=r.map iV:=by simp[ye]
structure Df where
 L:Int
 st:Int
 F:List Bool
 N:List (List Int)
def TE(d:Df)(l:List V):List V:=vI d.L::vI d.st::au (d.F.map V.bool)::aq (d.N.map ye)::l
namespace Df
structure Ok(d:Df):Prop where
 L1: -9223372036854775808≤d.L
 L2:d.L≤9223372036854775807
 s1: -9223372036854775808≤d.st
 s2:d.st≤9223372036854775807
 F:d.F.length≤maxLen
 N:d.N.length≤maxLen
 row:∀r∈d.N,r.length≤maxLen∧∀q∈r,-9223372036854775808≤q∧q≤9223372036854775807
def uH(d:Df)(r:List Int)(i:Nat):Prop:=0≤r.getD i 0∧r.getD i 0<d.F.length
instance (d:Df)(r:List Int):DecidablePred (d.uH r):=fun i=>by unfold uH;infer_instance
def z7(d:Df)(q:Nat):Prop:=((d.N.getD q []).length:Int)=d.L∧∀i,i<(d.N.getD q []).length→d.uH (d.N.getD q []) i
instance (d:Df):DecidablePred d.z7:=fun i=>by unfold z7;infer_instance
def val(d:Df):Int:=
 if d.L<1∨6<d.L then 1
 else if 512<d.F.length then 3
 else if d.N.length≠d.F.length∨d.st<0∨(d.F.length:Int)≤d.st then 4
 else if∀q,q<d.N.length→d.z7 q then 0 else 4
end Df
theorem abB{α:Type}{f:α→V}{l:List α}{i:Nat}{z:α}(h:i<l.length):idx (l.map f) (i:Int)=some (f (l.getD i z)):=by
 simp_all
section
variable {d:Df}(hd:d.Ok)
include hd
theorem awP{q:Nat}(h:q<d.N.length):(d.N.getD q []).length≤maxLen:=by
 rw[show d.N.getD q []=d.N[q] by simp[h]];exact(hd.row _ (fx h)).1
theorem awQ{q:Nat}(hq:q<d.N.length){t38:List V}{t39:Int}{a b:Int}{l1 l2:List V}:
  Loop (TC CC (d.F.length:Int) t38 t39 (q:Int) ((d.N.getD q []).map iV) (((d.N.getD q []).map iV).length:Int) a b l1 l2) 0=
   some (if∀i,i<(d.N.getD q []).length→d.uH (d.N.getD q []) i then .inr (((d.N.getD q []).length:Int),false)else .inl 4):=by
 have hl:=awP hd hq;have hm:=ak2;generalize d.N.getD q []=r at*
 refine abn (d.uH r) r.length (fun i=>(i:Int)) (.inl 4:Int ⊕ (Int×Bool)) (.inr ((r.length:Int),false)) (fun i hi=> ?_) ?_
 ·simp only[TC,Mp,dD,xI];rw[gC,abB (z:=0) hi];simp only[Option.bind_some,V.toInt_int];by_cases h1:r.getD i 0<0
  ·rw[aP h1,aM (show¬d.uH r i from fun h=>by unfold Df.uH at h;omega)]
  ·rw[aM h1];by_cases h2:r.getD i 0≥(d.F.length:Int)
   ·rw[aP h2,aM (show¬d.uH r i from fun h=>by unfold Df.uH at h;omega)]
   ·rw[aM h2,aP (show d.uH r i from⟨by omega,by omega⟩),uh];rfl
 ·simp only[TC,Mp,dD,xI];grind
theorem awR{a b:Int}{l1 l2:List V}:
  Loop (TD CC (d.F.length:Int) (d.N.map ye) ((d.N.map ye).length:Int) d.L b l1 l2) 0=
   some (if∀q,q<d.N.length→d.z7 q then .inr ((d.N.length:Int),false)else .inl 4):=by
 have hm:=ak2;have hN:=hd.N;refine abn d.z7 d.N.length (fun i=>(i:Int)) (.inl 4:Int ⊕ (Int×Bool)) (.inr ((d.N.length:Int),false)) (fun q hq=> ?_) ?_
 ·simp only[TD,Mq,dD,xI];rw[gC,abB (z:=[]) hq];simp only[Option.bind_some,awO,dD,ah1];have:=awQ hd hq (t38:=d.N.map ye) (t39:=(d.N.length:Int)) (a:=d.L) (b:=b) (l1:=l1) (l2:=l2);rw[dD]at this;by_cases h1:((d.N.getD q []).length:Int)=d.L
  ·rw[aP h1];refine bs this ?_;by_cases h2:∀i,i<(d.N.getD q []).length→d.uH (d.N.getD q []) i
   ·rw[aP h2,aP (show d.z7 q from⟨h1,h2⟩)];simp only[gZ,un];rw[uh];rfl
   ·rw[aM h2,aM (show¬d.z7 q from fun h=>h2 h.2)];rfl
  ·rw[aM h1,aM (show¬d.z7 q from fun h=>h1 h.1)]
 ·simp only[TD,Mq,dD,xI];grind
theorem awS:CC 19 (TE d [])=some [vI d.val]:=by
 refine awN ?_;unfold alk Df.val;simp only[dD,xI,ah1];have h:=awR hd (a:=0) (b:=d.st) (l1:=d.F.map V.bool) (l2:=d.N.map ye);rw[dD]at h;by_cases h1:d.L<1
 ·grind
 rw[aM h1];by_cases h2:d.L>6
 ·grind
 rw[aM h2,aM (show¬(d.L<1∨6<d.L) by omega)];by_cases h3:512<d.F.length
 ·grind
 rw[aM (show¬(d.F.length:Int)>512 by omega),aM h3];by_cases h4:d.N.length=d.F.length
 ·rw[aP (show(d.N.length:Int)=(d.F.length:Int) by omega)];by_cases h5:d.st<0
  ·grind
  rw[aM h5];by_cases h6:d.st≥(d.F.length:Int)
  ·grind
  rw[aM h6,aM (show¬(d.N.length≠d.F.length∨d.st<0∨(d.F.length:Int)≤d.st) by omega)];refine bs h ?_;split<;>rfl
 grind
end
def v8(r:List Nat):List Int:=r.map fun q:Nat=>(q:Int)
theorem alm(r:List Nat)(i:Nat):(v8 r).getD i 0=((r.getD i 0:Nat):Int):=by
 unfold v8;grind
def Da.df(a:Da):Df:=⟨a.L,a.st,a.F,a.N.map v8⟩
theorem Da.Ok.awT{a:Da}(h:a.Ok):a.df.Ok:=by
 have h1:=h.l6;have h2:=h.s;have h3:=h.eG;have h4:=h.nN;unfold Da.n at*
 refine⟨by simp only[Da.df];omega,by simp only[Da.df];omega,by simp only[Da.df];omega,by simp only[Da.df];omega,by simp only[Da.df];unfold maxLen;omega,by simp only[Da.df,dD];unfold maxLen;omega,fun r hr=> ?_⟩;obtain⟨r,pq,rfl⟩:=iZ.1 hr;have:=h.row r pq;refine⟨by simp only[v8,dD];unfold maxLen;omega,fun q hq=> ?_⟩;obtain⟨q,Bd,rfl⟩:=iZ.1 hq;have:=this.2 q Bd;unfold Da.n at this;omega
theorem Da.Ok.val{a:Da}(h:a.Ok):a.df.val=0:=by
 have h0:=h.l1;have h1:=h.l6;have h2:=h.s;have h3:=h.eG;have h4:=h.nN;unfold Da.n at*
 unfold Df.val;rw[aM (by simp only[Da.df];omega),aM (by simp only[Da.df];omega),aM (by simp only[Da.df,dD];omega),aP];intro q hq;simp only[Da.df,dD]at hq;have e:a.df.N.getD q []=v8 (a.N.getD q []):=by simp[Da.df,hq]
 have hr:=h.row (a.N.getD q []) (by grind);unfold Df.z7;rw[e];refine⟨by simp only[v8,dD,Da.df];omega,fun i hi=> ?_⟩;rw[v8,dD]at hi;have:=hr.2 ((a.N.getD q [])[i]) (fx hi);unfold Df.uH;rw[alm,dK hi];simp only[Da.df];unfold Da.n at this;omega
def tab{α:Type}(n:Nat)(g:Nat→α):List α:=(List.range n).map g
section
variable {α β:Type}{n i:Nat}{g h:Nat→α}
@[simp] theorem fi:(tab n g).length=n:=by simp[tab]
theorem dH(hi:i<n):(tab n g)[i]? =some (g i):=by simp[tab,hi]
theorem Ew(hi:i<n){z:α}:(tab n g).getD i z=g i:=by simp[tab,hi]
theorem abC(hi:i<(tab n g).length):(tab n g)[i]=g i:=by simp[tab]
theorem dA(e:∀j,j<n→g j=h j):tab n g=tab n h:=rl fun j hj=>e j (gM.1 hj)
theorem jf{v:α}:(tab n g).set i v=tab n fun j=>if j=i then v else g j:=by
 refine yQ (by simp) fun j h1 h2=> ?_;rw[List.getElem_set,abC,abC];grind
theorem awU:tab n g++[g n]=tab (n+1) g:=by simp[tab,Fy]
theorem TF:tab (n+1) g=tab n g++[g n]:=awU.symm
theorem mG{v:α}:List.replicate n v=tab n fun _=>v:=by simp[tab,List.map_const']
theorem awV{f:α→β}:(tab n g).map f=tab n fun i=>f (g i):=by simp[tab,Function.comp]
theorem aln(l:List α)(z:α):l=tab l.length fun i=>l.getD i z:=by
 refine yQ (by simp) fun j h1 h2=> ?_;rw[abC];simp[h1]
theorem Ex(l:List α)(z:α){f:α→β}:l.map f=tab l.length fun i=>f (l.getD i z):=by
 rw[←awV,←aln]
theorem alo{a:α}:a∈tab n g↔∃i,i<n∧g i=a:=by simp[tab]
end
section
variable {γ:Type}{n i:Nat}{g:Nat→V}
theorem pC(hi:i<n):idx (tab n g) (i:Int)=some (g i):=by rw[zB rfl,dH hi]
theorem pD(hi:i<n){K:V→Option γ}:(bif (decide (0≤(i:Int)))&&(decide ((i:Int)<((tab n g).length:Int)))then((tab n g)[((i:Int)).toNat]?).bind K else none)=K (g i):=by
 rw[Int.toNat_natCast,dH hi,u7.2 ⟨bj (by omega),bj (by simp_all)⟩];rfl
theorem aU{es:List V}{v:V}(hi:es[i]? =some v){K:V→Option γ}:(bif (decide (0≤(i:Int)))&&(decide ((i:Int)<(es.length:Int)))then(es[((i:Int)).toNat]?).bind K else none)=K v:=by
 grind
theorem qj{m:Nat}(hi:i<m):((decide (0≤(i:Int)))&&(decide ((i:Int)<(m:Int))))=true:=u7.2 ⟨bj (by omega),bj (by omega)⟩
end
theorem cap{a b m:Nat}(h:a+b≤10000000)(hm:m≤1000):Nat.ble ((a+b)*m) bf=true:=by
 rw[fG,zU];have:=Fz h hm;omega
theorem iB{n m:Nat}(h:n≤10000000)(hm:m≤1000):((decide (0≤(n:Int)))&&((decide ((n:Int)≤(n:Int)))&&(Nat.ble (((n:Int).toNat)*m) bf)))=true:=by
 have h2:=Fz h hm;rw[Int.toNat_natCast];refine u7.2 ⟨bj (by omega),u7.2 ⟨bj (by omega),?_⟩⟩;rw[fG,zU];omega
theorem bY{i:Nat}(h:i≤1000000000):wrap .i64 ((i:Int)+1)=((i+1:Nat):Int):=by rw[uh];omega
theorem cF{i n:Nat}(h:i<n):decide ((i:Int)<(n:Int))=true:=bj (by omega)
theorem cf{i n:Nat}(h:n≤i):decide ((i:Int)<(n:Int))=false:=cw (by omega)
section
variable {X R:Type}{step:X→Option (X ⊕ R)}
theorem gp(n:Nat)(s:Nat→X)(r:R)(h:∀i,i<n→step (s i)=some (.inl (s (i+1))))(he:step (s n)=some (.inr r)):Loop step (s 0)=some r:=ar2 s n h he
theorem gH(P:Nat→X→Prop)(Q:R→Prop):∀(n k:Nat) (x:X),(∀i,k≤i→i<k+n→∀x,P i x→∃y,step x=some (.inl y)∧P (i+1) y)→(∀x,P (k+n) x→∃r,step x=some (.inr r)∧Q r)→P k x→∃r,Loop step x=some r∧Q r
 |0,k,x,_,he,hx=>by
  obtain⟨r,h1,h2⟩:=he x hx;exact⟨r,lS h1,h2⟩
 |n+1,k,x,h,he,hx=>by
  obtain⟨y,h1,h2⟩:=h k (aR _) (by omega) x hx;obtain⟨r,h3,h4⟩:=gH P Q n (k+1) y (fun i hi hn=>h i (by omega) (by omega)) (by grind) h2;exact⟨r,(kY h1).trans h3,h4⟩
theorem alp(bad:Nat→Bool)(n:Nat)(s:Nat→X)(r1:Nat→R)(r2:R)(h:∀i,i<n→step (s i)=some (if bad i=true then .inr (r1 i)else .inl (s (i+1))))(he:step (s n)=some (.inr r2)):
  (∃i,i<n∧bad i=true∧(∀j,j<i→bad j=false)∧Loop step (s 0)=some (r1 i))∨((∀i,i<n→bad i=false)∧Loop step (s 0)=some r2):=by
 have go:∀(d k:Nat),k+d=n→(∀j,j<k→bad j=false)→Loop step (s 0)=Loop step (s k)→(∃i,i<n∧bad i=true∧(∀j,j<i→bad j=false)∧Loop step (s 0)=some (r1 i))∨((∀i,i<n→bad i=false)∧Loop step (s 0)=some r2):=by
  intro d
  induction d with
  |zero=>
   intro k hk hb e;obtain rfl:k=n:=by omega
   exact .inr ⟨hb,e.trans (lS he)⟩
  |succ d ih=>
   intro k hk hb e;have h1:=h k (by omega);cases DE:bad k with
   |true=>
    rw[aP DE]at h1;exact .inl ⟨k,by omega,DE,hb,e.trans (lS h1)⟩
   |false=>
    rw[aM (by grind)]at h1;refine ih (k+1) (by omega) (fun j hj=> ?_) (e.trans (kY h1));grind
 grind
end
noncomputable def alq(C:af)(x n:Int):Option LV:=
 bif decide (n<1)then
  some [vI 0]
 else
  bif !decide (n=0)then
  bif decide (((Int.tmod x n):Int)<0)then
   some [vI (wrap .i64 ((Int.tmod x n)+n))]
  else
   some [vI (Int.tmod x n)]
  else none
theorem awW{x n:Int}{r:Option LV}(h:alq CC x n=r):CC 52 [vI x,vI n]=r:=bR (L:=bS) ak h
noncomputable def abD(C:af)(l:LV):Option LV:=
 bif decide ((l.length:Int)>80)then
  bif decide (80≤(l.length:Int))then
  some [ab ((l.drop 0).take (80-0)),vI 0]
  else none
 else
  some [ab l,vI 0]
theorem alr{l:LV}{r:Option LV}(h:abD CC l=r):CC 5 [ab l]=r:=bR (L:=bS) ak h
noncomputable def abE(C:af)(n:Int)(bP:LV)(bQ:Int):Option LV:=
 bif decide (bQ≥(bP.length:Int))then
  some [vI 0,ab bP,vI bQ]
 else
  (idx bP (wrap .i64 ((wrap .i64 (bQ+1))-1))).bind fun x1=>
  (C 52 [vI x1.toInt,vI n]).bind fun r2=>
  some [vI (gI r2),ab bP,vI (wrap .i64 (bQ+1))]
theorem als{n:Int}{bP:LV}{bQ:Int}{r:Option LV}(h:abE CC n bP bQ=r):CC 18 [vI n,ab bP,vI bQ]=r:=bR (L:=bS) ak h
theorem awX{x:Int}{n:Nat}(hn:1≤n)(hm:n≤1000000):∃v:Nat,v<n∧CC 52 [vI x,vI (n:Int)]=some [vI (v:Int)]:=by
 have h1:x %n<n:=Int.emod_lt_of_pos _ (by omega);have h2:0≤x %n:=Int.emod_nonneg _ (by omega);have e:((x %n).toNat:Int)=x %n:=Int.toNat_of_nonneg h2;have h0:Int.tmod x n=x %n∨Int.tmod x n=x %n-n:=by
  grind
 refine⟨(x %n).toNat,by omega,awW ?_⟩;unfold alq;refine bF (by simp;omega) (bT (by simp;omega) ?_);rw[e];by_cases h:Int.tmod x n<0
 ·refine bT (bj h) ?_;have h3:Int.tmod x n+n=x %n:=by omega
  rw[h3,uh (by omega) (by omega)]
 grind
structure Tp where
 l:List Int
 k:Nat
 h:l.length≤80
 hk:k≤80
def Tp.L(t:Tp):V:=ab (t.l.map iV)
def Tp.K(t:Tp):V:=vI (t.k:Int)
theorem alu(l:List Int):∃t:Tp,CC 5 [ab (l.map iV)]=some [t.L,t.K]:=by
 by_cases h:80<l.length
 ·refine⟨⟨l.take 80,0,by simp;omega,by omega⟩,alr ?_⟩;unfold abD;refine bT (by simp;omega) (bT (by simp;omega) ?_);simp[Tp.L,Tp.K,List.map_take]
 ·refine⟨⟨l,0,by omega,by omega⟩,alr ?_⟩;unfold abD;exact bF (by simp;omega) rfl
theorem rY(t:Tp){n:Nat}(hn:1≤n)(hm:n≤1000000):∃(v:Nat) (u:Tp),v<n∧CC 18 [vI (n:Int),t.L,t.K]=some [vI (v:Int),u.L,u.K]:=by
 have hh:=t.h;have hk:=t.hk;by_cases h:t.l.length≤t.k
 ·refine⟨0,t,by omega,als ?_⟩;unfold abE;exact bT (by simp;omega) rfl
 ·obtain⟨v,hv,e⟩:=awX (x:=t.l.getD t.k 0) hn hm;refine⟨v,⟨t.l,t.k+1,t.h,by omega⟩,hv,als ?_⟩;unfold abE;refine bF (by simp;omega) ?_;rw[bY (by omega),uh (by omega) (by omega),show((t.k+1:Nat):Int)-1=(t.k:Int) by omega];refine bs (abB (z:=0) (by omega)) ?_;refine bs (by rw[V.toInt_int];exact e) ?_;rfl
structure Nd where
 op:Nat
 x:Nat
 a:Nat
 b:Nat
deriving DecidableEq
def Nd.v(d:Nd):V:= .agg [vI (d.op:Int),vI (d.x:Int),vI (d.a:Int),vI (d.b:Int)]
structure Nd.Ok(d:Nd)(L i:Nat):Prop where
 o1:1≤d.op
 o8:d.op≤8
 x1:d.op=3→d.x<L
 x0:d.op≠3→d.x=0
 a1:5≤d.op→d.a<i
 a0:d.op<5→d.a=0
 b1:5≤d.op→d.op≠8→d.b<i
 b0:d.op<5∨d.op=8→d.b=0
structure GOk(g:List Nd)(L:Nat):Prop where
 l1:1≤L
 l2:L≤6
 n1:1≤g.length
 n2:g.length≤100
 nd:∀i (h:i<g.length),g[i].Ok L i
theorem GOk.get{g:List Nd}{L i:Nat}(h:GOk g L)(hi:i<g.length):idx (g.map Nd.v) (i:Int)=some g[i].v:=by
 simp_all
noncomputable def Mr(C:af)(w:List UInt8)(aO t18 t19:Int){β:Type}(kn:ay Int β)(kr:ay ((Bool) ⊕ (Int×Bool)) β):Option β:=
 bif decide (t19<t18)then
  (bif decide (0≤t19)then(w[t19.toNat]?).map fun b=>V.int .u8 b.toNat else none).bind fun x1=>
  bif decide ((x1.toInt:Int)<97)then
  kr (.inl false)
  else
  (bif decide (0≤t19)then(w[t19.toNat]?).map fun b=>V.int .u8 b.toNat else none).bind fun x2=>
  bif decide (((wrap .i64 (wrap .u8 (x2.toInt-97))):Int)≥aO)then
   kr (.inl false)
  else
   kn (wrap .i64 (t19+1))
 else
  kr (.inr (t19,decide (t19<t18)))
noncomputable def TG(C:af)(w:List UInt8)(aO t18:Int):=fun t19=>Mr C w aO t18 t19 ct cu
noncomputable def awY(C:af):da:=cm 65 Z3 [zJ,zJ,zJ,zK] [[0],[1,2,3,0,0]] (@Mr C) bS
theorem awZ(C:af):bt C (awY C) 40 (Lp [1,1,0,1,0,0] 40):=cj Z3 [zJ,zJ,zJ,zK] [[0],[1,2,3,0,0]] (@Mr C) (aY ak)
noncomputable def alv(C:af)(w:List UInt8)(aO:Int):Option LV:=
 bif decide (aO<1)then
  some [.bool false]
 else
  bif decide (aO>6)then
  some [.bool false]
  else
  bif decide ((w.length:Int)>2048)then
   some [.bool false]
  else
   (Loop (TG C w aO (w.length:Int)) 0).bind (gZ (fun(fL:Bool)=>
    some [.bool fL]) (un fun(hZ:Int) (jV:Bool)=>
    some [.bool true]))
theorem aw0{w:List UInt8}{aO:Int}{r:Option LV}(h:alv CC w aO=r):CC 40 [.str w,vI aO]=r:=bR (br (awZ CC) ak) h
def nu(w:List UInt8)(i:Nat):Int:=((w.getD i 0).toNat:Int)-97
def nv(w:List UInt8)(L:Int):Prop:=1≤L∧L≤6∧w.length≤2048∧∀i,i<w.length→0≤nu w i∧nu w i<L
instance (w:List UInt8)(L:Int):Decidable (nv w L):=by unfold nv;infer_instance
theorem Ms{w:List UInt8}{i:Nat}(h:i<w.length):(bif decide (0≤(i:Int))then(w[((i:Nat):Int).toNat]?).map (fun b=>V.int .u8 b.toNat)else none)=some (.int .u8 ((w.getD i 0).toNat:Int)):=by
 rw[xI,gC,Int.toNat_natCast];simp[h]
theorem alw(b:UInt8):b.toNat<256:=b.toNat_lt
theorem TH{w:List UInt8}{i:Nat}(h:0≤nu w i):wrap .u8 (((w.getD i 0).toNat:Int)-97)=nu w i:=by
 have:=alw (w.getD i 0);unfold nu at*
 exact ahZ h (by omega)
theorem aw1{w:List UInt8}{i:Nat}:nu w i<256:=by
 have:=alw (w.getD i 0);unfold nu;omega
theorem aw2{w:List UInt8}{L:Int}(hl:w.length≤2048):Loop (TG CC w L (w.length:Int)) 0=some (if∀i,i<w.length→0≤nu w i∧nu w i<L then .inr ((w.length:Int),false)else .inl false):=by
 refine abn (good:=fun i=>0≤nu w i∧nu w i<L) w.length (fun i=>(i:Int)) (Sum.inl false:Bool ⊕ (Int×Bool)) (Sum.inr ((w.length:Int),false)) (fun i hi=> ?_) ?_
 ·simp only[TG,Mr,un];rw[xI,gC,Ms hi];simp only[Option.bind_some,V.toInt_int,xI];by_cases h1:0≤nu w i
  ·have rH:=h1;unfold nu at rH;rw[fH,TH h1,wrap64 (by omega) (by have:= @aw1 w i;omega)];by_cases h2:nu w i<L
   ·rw[fH,aP ⟨h1,h2⟩,uh];simp
   ·rw[gC,aM (fun h=>h2 h.2)]
  ·have rH:=h1;unfold nu at rH;rw[gC,aM (fun h=>h1 h.1)]
 ·simp only[TG,Mr,un];rw[xI,fH];simp
theorem abF(w:List UInt8)(L:Int):CC 40 [.str w,vI L]=some [.bool (decide (nv w L))]:=by
 refine aw0 ?_;unfold alv;simp only[xI];by_cases h1:L<1
 ·rw[aP h1,cw (fun h=>by have:=h.1;omega)]
 rw[aM h1];by_cases h2:L>6
 ·rw[aP h2,cw (fun h=>by have:=h.2.1;omega)]
 rw[aM h2];by_cases h3:(w.length:Int)>2048
 ·rw[aP h3,cw (fun h=>by have:=h.2.2.1;omega)]
 rw[aM h3,aw2 (by omega)];by_cases h4:∀i,i<w.length→0≤nu w i∧nu w i<L
 ·rw[aP h4,bj (show nv w L from⟨by omega,by omega,by omega,h4⟩)];simp[gZ,un]
 ·rw[aM h4,cw (fun h=>h4 h.2.2.2)];simp[gZ,un]
noncomputable def Mt(C:af)(aO n:Int)(bP:LV)(bQ:Int)(v9:LV){β:Type}(kn:ay (Int×LV×Int×LV) β)(kr:ay (Int×Bool×LV×Int×LV) β):Option β:=
 bif decide (n>0)then
  (C 18 [vI aO,ab bP,vI bQ]).bind fun r2=>
  bif Nat.ble ((v9.length+([.int .u8 (wrap .u8 (wrap .i64 (97+(gI r2))))]:LV).length)*1) bf then
  kn (wrap .i64 (n-1),(dw r2),(jo r2),v9++([.int .u8 (wrap .u8 (wrap .i64 (97+(gI r2))))]:LV))
  else none
 else
  kr (n,decide (n>0),bP,bQ,v9)
noncomputable def TJ(C:af)(aO:Int):=un fun n=>un fun bP=>un fun bQ v9=>Mt C aO n bP bQ v9 ct cu
noncomputable def aw3(C:af):da:=cm 49 Zo (aN 5 30) [[1,0,0,0,0,0]] (@Mt C) bS
theorem aw4(C:af):bt C (aw3 C) 6 (Lp [1,1,0,1,0,0] 6):=cj Zo (aN 5 30) [[1,0,0,0,0,0]] (@Mt C) (aY ak)
noncomputable def alx(C:af)(aO eG:Int)(bP:LV)(bQ:Int):Option LV:=
 (C 18 [vI (wrap .i64 (eG+1)),ab bP,vI bQ]).bind fun r1=>
 (Loop (TJ C aO) ((gI r1),(dw r1),(jo r1),([]:LV))).bind (un fun iR=>un fun(hZ:Bool)=>un fun(Mu:LV)=>un fun(abG:Int) (z8:LV)=>
  some [.str (mu z8),ab Mu,vI abG])
theorem aw5{aO eG:Int}{bP:LV}{bQ:Int}{r:Option LV}(h:alx CC aO eG bP bQ=r):CC 6 [vI aO,vI eG,ab bP,vI bQ]=r:=bR (br (aw4 CC) ak) h
def Mv(b:UInt8):V:= .int .u8 (b.toNat:Int)
theorem aw6(w:List UInt8):mu (w.map Mv)=w:=by
 unfold mu;rw[AE]
 conv=>rhs;rw[←List.map_id w]
 apply rl;intro b _;show UInt8.ofNat ((b.toNat:Int)).toNat=b;simp
theorem aw7(t:Tp){L m:Nat}(h1:1≤L)(h2:L≤6)(hm:m≤100):∃(w:List UInt8) (u:Tp),nv w (L:Int)∧w.length≤m∧CC 6 [vI (L:Int),vI (m:Int),t.L,t.K]=some [.str w,u.L,u.K]:=by
 have key:∀(n:Nat) (t:Tp) (w:List UInt8),w.length+n≤m→(∀b∈w,97≤b.toNat∧b.toNat<97+L)→∃(w':List UInt8) (u:Tp),w'.length≤w.length+n∧(∀b∈w',97≤b.toNat∧b.toNat<97+L)∧
   Loop (TJ CC (L:Int)) ((n:Int),t.l.map iV,(t.k:Int),w.map Mv)=some (0,false,u.l.map iV,(u.k:Int),w'.map Mv):=by
  intro n
  induction n with
  |zero=>
   intro t w hw hb;refine⟨w,t,aR _,hb,lS ?_⟩;simp only[TJ,Mt,un];exact bF rfl rfl
  |succ n ih=>
   intro t w hw hb;obtain⟨v,t1,hv,e1⟩:=rY t (n:=L) h1 (by omega);have fc:V.int .u8 (wrap .u8 (wrap .i64 (97+(v:Int))))=Mv (UInt8.ofNat (97+v)):=by
    have a1:wrap .i64 (97+(v:Int))=((97+v:Nat):Int):=by
     rw[show(97+(v:Int))=((97+v:Nat):Int) by omega];exact wrap64 (by omega) (by omega)
    have a2:wrap .u8 ((97+v:Nat):Int)=((97+v:Nat):Int):=by
     rcases(by omega:v=0∨v=1∨v=2∨v=3∨v=4∨v=5)with rfl|rfl|rfl|rfl|rfl|rfl<;>rfl
    rw[a1,a2];unfold Mv;refine congrArg _ (congrArg _ ?_);rcases(by omega:v=0∨v=1∨v=2∨v=3∨v=4∨v=5)with rfl|rfl|rfl|rfl|rfl|rfl<;>rfl
   have hvb:97≤(UInt8.ofNat (97+v)).toNat∧(UInt8.ofNat (97+v)).toNat<97+L:=by
    have:(UInt8.ofNat (97+v)).toNat=97+v:=by
     rcases(by omega:v=0∨v=1∨v=2∨v=3∨v=4∨v=5)with rfl|rfl|rfl|rfl|rfl|rfl<;>rfl
    omega
   obtain⟨w',u,g1,g2,g3⟩:=ih t1 (w++[UInt8.ofNat (97+v)]) (by simp;omega) fun b gY=>by
    rcases fQ.1 gY with h|h
    ·exact hb b h
    ·rw[iY.1 h];exact hvb
   refine⟨w',u,by simp at g1;omega,g2,(kY ?_).trans g3⟩;simp only[TJ,Mt,un];refine bT (bj (by omega)) (bs e1 ?_);have Dt:(gI [vI (v:Int),t1.L,t1.K])=(v:Int):=rfl;rw[Dt,fc];refine bT (by rw[fG,zU];simp;omega) ?_;have w2:wrap .i64 (((n+1:Nat):Int)-1)=(n:Int):=by
    rw[show(((n+1:Nat):Int)-1)=(n:Int) by omega];exact wrap64 (by omega) (by omega)
   rw[w2,sA];rfl
 obtain⟨n,t1,hn,e1⟩:=rY t (n:=m+1) (by omega) (by omega);obtain⟨w,u,g1,g2,g3⟩:=key n t1 [] (by simp;omega) fun _ h=>by cases h
 have hl:w.length≤m:=by simp at g1;omega
 refine⟨w,u,⟨by omega,by omega,by omega,fun i hi=> ?_⟩,hl,aw5 ?_⟩
 ·have:=g2 w[i] (fx hi);unfold nu;rw[dK hi];omega
 ·unfold alx;have w1:wrap .i64 ((m:Int)+1)=((m+1:Nat):Int):=bY (by omega);rw[w1];refine bs e1 (bs g3 ?_);simp only[un];rw[aw6];rfl
noncomputable def Mw(C:af)(w:List UInt8)(t30 cD cJ:Int)(je iA:LV)(state t31:Int){β:Type}(kn:ay (Int×Int) β)(kr:ay (Int×Int×Bool) β):Option β:=
 bif decide (t31<t30)then
  (idx iA state).bind fun x3=>
  (bif decide (0≤t31)then(w[t31.toNat]?).map fun b=>V.int .u8 b.toNat else none).bind fun x4=>
  (idx x3.toList (wrap .u8 (x4.toInt-97))).bind fun x5=>
  kn (x5.toInt,wrap .i64 (t31+1))
 else
  kr (state,t31,decide (t31<t30))
noncomputable def TK(C:af)(w:List UInt8)(t30 cD cJ:Int)(je iA:LV):=un fun state t31=>Mw C w t30 cD cJ je iA state t31 ct cu
noncomputable def aw8(C:af):da:=cm 65 Z2 (aN 8 9) [[0,2,3,0,0,5,6,7,8]] (@Mw C) bS
theorem aw9(C:af):bt C (aw8 C) 39 (Lp [1,1,0,1,0,0] 39):=cj Z2 (aN 8 9) [[0,2,3,0,0,5,6,7,8]] (@Mw C) (aY ak)
noncomputable def aly(C:af)(dp dx:Int)(dJ eE:LV)(state:Int)(w:List UInt8):Option LV:=
 (C 19 [vI dp,vI dx,au dJ,aq eE]).bind fun r1=>
 bif ((gI r1):Int) != 0 then
  some [vI (-1)]
 else
  bif decide (state<0)then
  some [vI (-1)]
  else
  bif decide (state≥(dJ.length:Int))then
   some [vI (-1)]
  else
   (C 40 [.str w,vI dp]).bind fun r2=>
   bif !(gB r2)then
   some [vI (-1)]
   else
   (Loop (TK C w (w.length:Int) dp dx dJ eE) (state,0)).bind (un fun axa=>un fun(v7:Int) (BO:Bool)=>
    some [vI axa])
theorem axb{dp dx:Int}{dJ eE:LV}{state:Int}{w:List UInt8}{r:Option LV}(h:aly CC dp dx dJ eE state w=r):CC 39 [vI dp,vI dx,au dJ,aq eE,vI state,.str w]=r:=bR (br (aw9 CC) ak) h
noncomputable def alz(C:af)(dp dx:Int)(dJ eE:LV)(w:List UInt8):Option LV:=
 (C 39 [vI dp,vI dx,au dJ,aq eE,vI dx,.str w]).bind fun r1=>
 bif decide (((gI r1):Int)≥0)then
  (idx dJ (gI r1)).bind fun x2=>
  some [.bool x2.toBool]
 else
  some [.bool false]
theorem axc{dp dx:Int}{dJ eE:LV}{w:List UInt8}{r:Option LV}(h:alz CC dp dx dJ eE w=r):CC 13 [vI dp,vI dx,au dJ,aq eE,.str w]=r:=bR (L:=bS) ak h
def td(L:Nat)(f:Nat→Nat):V:=ab (tab L fun x=>iV (f x))
def Da.gq(a:Da):List V:=tab a.n fun q=>V.bool (a.fin q)
def Da.ia(a:Da):List V:=tab a.n fun q=>td a.L (a.nx q)
@[simp] theorem Da.Mx {a:Da}:a.gq.length=a.n:=by simp[Da.gq]
@[simp] theorem Da.axd {a:Da}:a.ia.length=a.n:=by simp[Da.ia]
@[simp] theorem My {L:Nat} {f:Nat→Nat}:(td L f).toList=tab L fun x=>iV (f x):=by simp[td]
def BP(a:Da)(l:List V):List V:=vI a.L::vI a.st::au a.gq::aq a.ia::l
def iC(a:Da):List V:=BP a []
theorem Da.Ok.leaves{a:Da}(h:a.Ok)(l:List V):TE a.df l=BP a l:=by
 unfold TE BP;have e1:a.df.F.map V.bool=a.gq:=Ex _ false;have e2:a.df.N.map ye=a.ia:=by
  unfold Da.ia;rw[Ex _ [],show a.df.N.length=a.n by simp[Da.df,h.nN]];refine dA fun q hq=> ?_;have eC:q<a.N.length:=by rw[h.nN];exact hq
  unfold ye td;rw[show a.df.N.getD q []=v8 (a.N.getD q []) by simp[Da.df,eC],Ex _ 0];have hl:(v8 (a.N.getD q [])).length=a.L:=by simp only[v8,dD];exact Da.abv h hq
  rw[hl];exact congrArg _ (dA fun x _=>by rw[alm];rfl)
 rw[e1,e2];rfl
theorem Da.TL{a:Da}{q:Nat}(hq:q<a.n):idx a.gq (q:Int)=some (.bool (a.fin q)):=pC hq
theorem Da.TM{a:Da}{q:Nat}(hq:q<a.n):idx a.ia (q:Int)=some (td a.L (a.nx q)):=pC hq
theorem Mz{L x:Nat}{f:Nat→Nat}(hx:x<L):idx (tab L fun x=>iV (f x)) (x:Int)=some (iV (f x)):=pC hx
theorem BQ{a:Da}(h:a.Ok):CC 19 (iC a)=some [vI 0]:=by
 have:=awS h.awT;rwa [h.val,h.leaves]at this
def lets(w:List UInt8):List Nat:=w.map fun b=>b.toNat-97
theorem rZ{w:List UInt8}:(lets w).length=w.length:=by simp[lets]
theorem TN{w:List UInt8}{i:Nat}(hi:i<w.length)(h:0≤nu w i):(((lets w).getD i 0:Nat):Int)=nu w i:=by
 unfold lets nu at*
 grind
theorem nv.WL{w:List UInt8}{L:Nat}(h:nv w (L:Int)):WL L (lets w):=fun x hx=>by
 obtain⟨i,hi,rfl⟩:=CH hx;rw[rZ]at hi;obtain⟨h1,h2⟩:=h.2.2.2 i hi;have:=TN hi h1;grind
theorem axe{a:Da}{w:List UInt8}{q i:Nat}(hi:i<w.length):a.run q ((lets w).take (i+1))=a.nx (a.run q ((lets w).take i)) ((lets w).getD i 0):=by
 rw[u9 (by rw[rZ];exact hi),Da.Hu,dK (by rw[rZ];exact hi)];rfl
theorem abH{w:List UInt8}{L i:Nat}(hw:nv w (L:Int))(hi:i<w.length):(lets w).getD i 0<L:=hw.WL _ (by rw[dK (by rw[rZ];exact hi)];grind)
section
variable {a:Da}(h:a.Ok){w:List UInt8}(hw:nv w (a.L:Int)){q:Nat}(hq:q<a.n)
include h hw hq
theorem axf{i:Nat}:a.run q ((lets w).take i)<a.n:=h.Et _ hq fun x hx=>hw.WL x (List.mem_of_mem_take hx)
theorem axg{x1 x2:Int}{l2:List V}:Loop (TK CC w (w.length:Int) x1 x2 l2 a.ia) ((q:Int),0)=some ((a.run q (lets w):Int),(w.length:Int),false):=by
 have hl:w.length≤2048:=hw.2.2.1;have e:lets w=(lets w).take w.length:=by rw[P3 (by rw[rZ];omega)]
 refine(gp w.length (fun i=>((a.run q ((lets w).take i):Int),(i:Int))) ((a.run q ((lets w).take w.length):Int),(w.length:Int),false) (fun i hi=> ?_) ?_).trans (by rw[←e])
 ·simp only[TK,Mw,un];refine bT (cF hi) ?_;refine bs (Da.TM (axf h hw hq)) ?_;refine bs (Ms hi) ?_;have h1:=(hw.2.2.2 i hi).1;simp only[V.toInt_int,TH h1,My];rw[←TN hi h1];refine bs (Mz (abH hw hi)) ?_;rw[bY (by omega),axe hi];rfl
 ·simp only[TK,Mw,un];exact bF (cf (aR _)) (by rw[cf (aR _)])
end
theorem axh{a:Da}(h:a.Ok){q:Nat}(hq:q<a.n)(w:List UInt8):CC 39 (BP a [vI (q:Int),.str w])=some [vI (if nv w (a.L:Int)then(a.run q (lets w):Int)else-1)]:=by
 refine axb ?_;unfold aly;refine bs (BQ h) ?_;refine bF rfl ?_;refine bF (cw (by omega)) ?_;refine bF (cw (by rw[Da.Mx];omega)) ?_;refine bs (abF w a.L) ?_;by_cases hw:nv w (a.L:Int)
 ·rw[aP hw];refine bF (by simp[hw]) ?_;exact bs (axg h hw hq) rfl
 ·rw[aM hw];exact bT (by simp[hw]) rfl
theorem axi{a:Da}(h:a.Ok){w:List UInt8}(hw:nv w (a.L:Int)):CC 13 (BP a [.str w])=some [.bool (a.acc a.st (lets w))]:=by
 refine axc ?_;unfold alz;refine bs (axh h h.s w) ?_;rw[aP hw];refine bT (bj (by simp only[V.jE,V.toInt_int,gI,gL,gB,gS];omega)) ?_;refine bs (Da.TL (h.Et _ h.s hw.WL)) ?_;rfl
section
variable {α:Type}(ke:α→V)
def cO(i:Nat):List α→List V
 | []=>[]
 |a::S=> .bN [ke a,iV (i:Int)]::cO (i+1) S
where iV (n:Int):V:=vI n
end
theorem MA{α:Type}{ke:α→V}:∀(S:List α) (i:Nat),(cO ke i S).length=S.length
 | [],_=>rfl
 |a::S,i=>by simp[cO,MA S (i+1)]
section
variable {α:Type}[DecidableEq α]{ke:α→V}
variable (hk:∀a b,jO (ke a) (ke b)=decide (a=b))
include hk
theorem Ey(x:α):∀(S:List α) (i:Nat),gD (ke x) (cO ke i S)=decide (x∈S)
 | [],_=>by simp[cO,gD]
 |a::S,i=>by
  have c:∀(p q:V),(V.bN [p,q]).comp 0=p:=fun p q=>rfl;rw[cO,gD,c,hk,Ey x S (i+1)];grind
theorem MB(x:α)(z:V):∀(S:List α) (i:Nat),x∈S→mq (ke x) (cO ke i S) z=vI ((i+S.idxOf x:Nat):Int)
 | [],_,h=>by cases h
 |a::S,i,h=>by
  have c:∀(p q:V),(V.bN [p,q]).comp 0=p:=fun p q=>rfl;have c1:∀(p q:V),(V.bN [p,q]).comp 1=q:=fun p q=>rfl;rw[cO,mq,c,c1,hk];by_cases e:x=a
  ·subst e;rw[bj rfl];simp[cO.iV]
  ·rw[cw e,cond_false,MB x z S (i+1) ((kC.1 h).resolve_left e),show(a::S).idxOf x=S.idxOf x+1 from by grind];grind
theorem MC(x:α):∀(S:List α) (i:Nat),x∉S→kJ (ke x) (vI ((i+S.length:Nat):Int)) (cO ke i S)=cO ke i (S++[x])
 | [],i,_=>by simp[cO,kJ,cO.iV]
 |a::S,i,h=>by
  have c:∀(p q:V),(V.bN [p,q]).comp 0=p:=fun p q=>rfl;have e:x≠a:=fun e=>h (by simp[e]);rw[cO,kJ,c,hk,cw e,cond_false,List.cons_append,cO];congr 1;have:=MC x S (i+1) fun hx=>h (by simp[hx]);grind
end
theorem axj(a b:Nat):jO (vI (a:Int)) (vI (b:Int))=decide (a=b):=by
 simp only[jO,V.cells,qy,wR,CF];grind
theorem te{n:Nat}(h:n≤1000000000000):dE .i64 (n:Int)=true:=by
 have e1:IntKind.min .i64= -9223372036854775808:=by decide
 have e2:IntKind.max .i64=9223372036854775807:=by decide
 unfold dE;grind
theorem axk{α:Type}[DecidableEq α]{S:List α}{a:α}:(eV S a).idxOf a=if a∈S then S.idxOf a else S.length:=by
 unfold eV;grind
noncomputable def alA(C:af)(q x kj km:Int)(TP MD:LV):Option LV:=
 (idx MD q).bind fun x1=>
 (idx x1.toList x).bind fun x2=>
 some [vI x2.toInt,vI kj,vI km,au TP,aq MD]
theorem axl{q x kj km:Int}{TP MD:LV}{r:Option LV}(h:alA CC q x kj km TP MD=r):CC 129 [vI q,vI x,vI kj,vI km,au TP,aq MD]=r:=bR (L:=bS) ak h
noncomputable def alB(C:af)(q TQ TR:Int)(ME TS:LV):Option LV:=
 (idx ME q).bind fun x1=>
 some [.bool x1.toBool,vI TQ,vI TR,au ME,aq TS]
theorem axm{q TQ TR:Int}{ME TS:LV}{r:Option LV}(h:alB CC q TQ TR ME TS=r):CC 130 [vI q,vI TQ,vI TR,au ME,aq TS]=r:=bR (L:=bS) ak h
noncomputable def alC(C:af)(x:Int)(aE:LV):Option LV:=
 bif dE .i64 x&&true then
  bif dE .i64 x&&true then
  bif Nat.ble ((aE.length+([vI x]:LV).length)*8) bf then
   some [vI (aE.length:Int),ab (aE++([vI x]:LV)),.list mB (kJ (vI x) (vI (aE.length:Int)) ([]:LV))]
  else none
  else none
 else none
theorem axn{x:Int}{aE:LV}{r:Option LV}(h:alC CC x aE=r):CC 165 [vI x,ab aE]=r:=bR (L:=bS) ak h
noncomputable def alD(C:af)(x:Int)(aE ao:LV):Option LV:=
 bif dE .i64 x&&true then
  bif !(gD (vI x) ao)then
  bif dE .i64 x&&true then
   bif Nat.ble ((aE.length+([vI x]:LV).length)*8) bf then
   some [vI (aE.length:Int),.list mB (kJ (vI x) (vI (aE.length:Int)) ao),ab (aE++([vI x]:LV))]
   else none
  else none
  else
  some [vI ((mq (vI x) ao (vI 0)).toInt),.list mB ao,ab aE]
 else none
theorem axo{x:Int}{aE ao:LV}{r:Option LV}(h:alD CC x aE ao=r):CC YL [vI x,ab aE,.list mB ao]=r:=bR (L:=bS) ak h
noncomputable def MF(C:af)(aO i state t36 HB HC cD cJ:Int)(aw aC bZ cg:LV)(t37 sa sb:Int)(sc sd rows aH bB:LV){β:Type}(kn:ay (Int×Int×Int×LV×LV×LV×LV×LV) β)(kr:ay (Int×Bool×Int×Int×LV×LV×LV×LV×LV) β):Option β:=
 bif decide (t37<t36)then
  (C 129 [vI state,vI t37,vI sa,vI sb,au sc,aq sd]).bind fun r3=>
  (C YL [vI (gI r3),ab aH,.list mB bB]).bind fun r4=>
  aL rows t37 fun x5=>
  kn (wrap .i64 (t37+1),(dm r3),(jo r3),(jr r3),(oq r3),aG rows t37 (vI (gI r4)),(jT r4),(dw r4))
 else
  kr (t37,decide (t37<t36),sa,sb,sc,sd,rows,aH,bB)
noncomputable def TT(C:af)(aO i state t36 HB HC cD cJ:Int)(aw aC bZ cg:LV):=un fun t37=>un fun sa=>un fun sb=>un fun sc=>un fun sd=>un fun rows=>un fun aH bB=>MF C aO i state t36 HB HC cD cJ aw aC bZ cg t37 sa sb sc sd rows aH bB ct cu
noncomputable def MG(C:af)(aO HB HC cD cJ:Int)(aS aw:LV)(i sa sb:Int)(sc sd aC aH bB bZ:LV){β:Type}(kn:ay (Int×Int×Int×LV×LV×LV×LV×LV×LV) β)(kr:ay ((Int×Int×Int×LV×LV×Int×Int×LV×LV×LV) ⊕ (Int×Bool×Int×Int×LV×LV×LV×LV×LV×LV)) β):Option β:=
 bif decide (i<(aC.length:Int))then
  aL aC i fun x2=>
  bif (decide (0≤aO))&&((decide (aO≤aO))&&(Nat.ble ((aO.toNat)*8) bf))then
  (Loop (TT C aO i x2.toInt ((List.replicate (aO.toNat) (vI 0)).length:Int) HB HC cD cJ aS aw bB bZ) (0,sa,sb,sc,sd,List.replicate (aO.toNat) (vI 0),aC,aH)).bind (un fun uE=>un fun(v7:Bool)=>un fun alE=>un fun alF=>un fun(alG:LV)=>un fun(alH:LV)=>un fun(alI:LV)=>un fun(HD:LV) (rX:LV)=>
   bif decide ((HD.length:Int)>512)then
    kr (.inl (3,alE,alF,alG,alH,0,0,([]:LV),([]:LV),([]:LV)))
   else
    bif Nat.ble ((bZ.length+([ab alI]:LV).length)*24) bf then
    (C 130 [vI x2.toInt,vI alE,vI alF,au alG,aq alH]).bind fun jt=>
    bif Nat.ble ((bB.length+([.bool (gB jt)]:LV).length)*1) bf then
     kn (wrap .i64 (i+1),(dm jt),(jo jt),(jr jt),(oq jt),HD,rX,bB++([.bool (gB jt)]:LV),bZ++([ab alI]:LV))
    else none
    else none)
  else none
 else
  kr (.inr (i,decide (i<(aC.length:Int)),sa,sb,sc,sd,aC,aH,bB,bZ))
noncomputable def TU(C:af)(aO HB HC cD cJ:Int)(aS aw:LV):=un fun i=>un fun sa=>un fun sb=>un fun sc=>un fun sd=>un fun aC=>un fun aH=>un fun bB bZ=>MG C aO HB HC cD cJ aS aw i sa sb sc sd aC aH bB bZ ct cu
noncomputable def alJ(C:af):da:=cm 161 abd (aN 20 205296) [[1,2,3,4,0,0,0,0,0,0,10,11,12,13,0,15,16,0,0,19,20]] (@MF C) (cm 81 abe (aN 16 61502) [[0,0,0,0,0,0,0,0,0,0],[1,0,0,0,0,0,0,7,8,9,10,11,12,0,0,0,0]] (@MG C) bS)
theorem axp(C:af):bt C (alJ C) 128 (Lp [1,1,1,1,0,1,0,0,1,0,0,1,1,0,1,0,0] 128):=cj abd (aN 20 205296) [[1,2,3,4,0,0,0,0,0,0,10,11,12,13,0,15,16,0,0,19,20]] (@MF C) (aY ak)
theorem axq(C:af):bt C (alJ C) 128 (Lp [1,1,1,1,0,1,0,0] 128):=cj abe (aN 16 61502) [[0,0,0,0,0,0,0,0,0,0],[1,0,0,0,0,0,0,7,8,9,10,11,12,0,0,0,0]] (@MG C) (aY (br (axp C) ak))
noncomputable def alK(C:af)(aO start sa sb:Int)(sc sd:LV):Option LV:=
 (C 165 [vI start,ab ([]:LV)]).bind fun r1=>
 (Loop (TU C aO 0 0 aO 0 ([]:LV) ([]:LV)) (0,sa,sb,sc,sd,(dw r1),(jT r1),([]:LV),([]:LV))).bind (gZ (un fun abI=>un fun Es=>un fun yf=>un fun(qi:LV)=>un fun(lz:LV)=>un fun axr=>un fun axs=>un fun(se:LV)=>un fun(HE:LV) (axt:LV)=>
  some [vI axr,vI axs,vI abI,vI Es,vI yf,au qi,aq lz,au se,aq HE,ab axt]) (un fun aIQ=>un fun(alL:Bool)=>un fun axu=>un fun axv=>un fun(axw:LV)=>un fun(axx:LV)=>un fun(abJ:LV)=>un fun(Ez:LV)=>un fun(EA:LV) (MH:LV)=>
  some [vI aO,vI 0,vI 0,vI axu,vI axv,au axw,aq axx,au EA,aq MH,ab abJ]))
theorem axy{aO start sa sb:Int}{sc sd:LV}{r:Option LV}(h:alK CC aO start sa sb sc sd=r):CC 128 [vI aO,vI start,vI sa,vI sb,au sc,aq sd]=r:=bR (br (axq CC) ak) h
noncomputable def MI(C:af)(t31 kj km bP bQ:Int)(yg aS aw aC aH:LV)(t32:Int)(numbers:LV){β:Type}(kn:ay (Int×LV) β)(kr:ay (Int×Bool×LV) β):Option β:=
 bif decide (t32<t31)then
  aL numbers t32 fun x3=>
  kn (wrap .i64 (t32+1),aG numbers t32 (vI (-1)))
 else
  kr (t32,decide (t32<t31),numbers)
noncomputable def TV(C:af)(t31 kj km bP bQ:Int)(yg aS aw aC aH:LV):=un fun t32 numbers=>MI C t31 kj km bP bQ yg aS aw aC aH t32 numbers ct cu
noncomputable def MJ(C:af)(t40 kj km bP bQ:Int)(abK aS aw aC aH:LV)(t41:Int)(numbers:LV){β:Type}(kn:ay (Int×LV) β)(kr:ay (Int×Bool×LV) β):Option β:=
 bif decide (t41<t40)then
  aL abK t41 fun x7=>
  bif (decide (0≤x7.toInt))&&(decide (x7.toInt<(numbers.length:Int)))then
  (numbers[(x7.toInt:Int).toNat]?).bind fun x8=>
  kn (wrap .i64 (t41+1),aG numbers (x7.toInt) (vI t41))
  else none
 else
  kr (t41,decide (t41<t40),numbers)
noncomputable def TW(C:af)(t40 kj km bP bQ:Int)(abK aS aw aC aH:LV):=un fun t41 numbers=>MJ C t40 kj km bP bQ abK aS aw aC aH t41 numbers ct cu
noncomputable def alM(C:af):da:=cm 97 aaV (aN 12 130) [[1,0,0,3,4,5,6,7,0,9,10,11,12]] (@MI C) (cm 177 aaW (aN 12 66) [[1,0,0,3,4,5,6,0,8,9,10,11,12]] (@MJ C) bS)
theorem axz(C:af):bt C (alM C) 102 (Lp [1,1,1,1,0,1,0,0] 102):=cj aaV (aN 12 130) [[1,0,0,3,4,5,6,7,0,9,10,11,12]] (@MI C) (aY ak)
theorem axA(C:af):bt C (alM C) 102 (Lp [1,1,1,1,1,0,1,0,0] 102):=cj aaW (aN 12 66) [[1,0,0,3,4,5,6,0,8,9,10,11,12]] (@MJ C) (aY ak)
noncomputable def alN(C:af)(dp dx:Int)(dJ eE:LV):Option LV:=
 (C 19 [vI dp,vI dx,au dJ,aq eE]).bind fun r1=>
 bif ((gI r1):Int) != 0 then
  some [vI 0,vI 0,au ([]:LV),aq ([]:LV),ab ([]:LV)]
 else
  (C 128 [vI dp,vI dx,vI dp,vI dx,au dJ,aq eE]).bind fun r2=>
  bif (decide (0≤((gL (((r2.drop 3).drop 1).drop 1)).length:Int)))&&((decide (((gL (((r2.drop 3).drop 1).drop 1)).length:Int)≤((gL (((r2.drop 3).drop 1).drop 1)).length:Int)))&&(Nat.ble (((((gL (((r2.drop 3).drop 1).drop 1)).length:Int):Int).toNat)*8) bf))then
  (Loop (TV C ((List.replicate ((((gL (((r2.drop 3).drop 1).drop 1)).length:Int):Int).toNat) (vI 0)).length:Int) 0 0 (gI r2) (dm r2) (Lt r2) ([]:LV) ([]:LV) (Lu r2) (Lv r2)) (0,List.replicate ((((gL (((r2.drop 3).drop 1).drop 1)).length:Int):Int).toNat) (vI 0))).bind (un fun hZ=>un fun(jV:Bool) (axB:LV)=>
   (Loop (TW C ((Lt r2).length:Int) 0 0 (gI r2) (dm r2) (Lt r2) ([]:LV) ([]:LV) (Lu r2) (Lv r2)) (0,axB)).bind (un fun uI=>un fun(z9:Bool) (axC:LV)=>
    some [vI (gI r2),vI (dm r2),au (Lu r2),aq (Lv r2),ab axC]))
  else none
theorem axD{dp dx:Int}{dJ eE:LV}{r:Option LV}(h:alN CC dp dx dJ eE=r):CC 102 [vI dp,vI dx,au dJ,aq eE]=r:=bR (br (axz CC) (br (axA CC) ak)) h
end Go.AM
