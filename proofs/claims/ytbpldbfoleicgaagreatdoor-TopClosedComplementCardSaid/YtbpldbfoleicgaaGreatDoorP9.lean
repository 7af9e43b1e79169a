/-
  Functions of the program, lifted to plain data.
-/
import Derived.Test.YtbpldbfoleicgaaGreatDoorP8
set_option linter.unusedVariables false
set_option linter.unusedSimpArgs false
set_option linter.unusedSectionVars false
set_option maxRecDepth 100000
namespace Go.AM
open Go.Proofs
theorem afv:CC lU (cJ ep)=some [.int .i64 0]:=aD (N:=60) (n:=30) (by kernel_rfl)
theorem awJ:CC fF [.int .i64 ep.l0,.int .i64 ep.l1,.list ai ep.l2]=some [.list bA (ep.p.map cb)]:=aD (N:=60) (n:=30) (by kernel_rfl)
theorem awK:CC fF [.int .i64 ep.r0,.int .i64 ep.r1,.list ai ep.r2]=some [.list bA (ep.q.map cb)]:=aD (N:=60) (n:=30) (by kernel_rfl)
theorem awL:CC gv ([.int .i64 ep.l0,.int .i64 ep.l1,.list ai ep.l2,.int .i64 0,.int .i64 0,.list ai []]++cP (fun _=>false) (fun _=>false))=some (cP ep.o1 ep.e1):=aD (N:=60) (n:=30) (by kernel_rfl)
theorem awM:CC gv ([.int .i64 ep.r0,.int .i64 ep.r1,.list ai ep.r2,.int .i64 0,.int .i64 0,.list ai []]++cP ep.o1 ep.e1)=some (cP ep.cQ ep.cT):=aD (N:=60) (n:=30) (by kernel_rfl)
theorem awN:CC mZ [.list ai [.agg [.int .i64 ep.l0,.int .i64 ep.l1,.list ai ep.l2],.agg [.int .i64 ep.r0,.int .i64 ep.r1,.list ai ep.r2]]]=some [.int .i64 (ep.nv:Int)]:=aD (N:=60) (n:=30) (by kernel_rfl)
theorem awO:CC ga [.str AA,.int .i64 0]=some [.int .i64 ep.l0,.int .i64 ep.l1,.list ai ep.l2,.bool true,.str AA,.int .i64 5]:=aD (N:=60) (n:=30) (by kernel_rfl)
theorem awP:CC na [.int .u8 61,.str AA,.int .i64 5]=some [.bool true,.str AA,.int .i64 6]:=aD (N:=60) (n:=30) (by kernel_rfl)
theorem awQ:CC ga [.str AA,.int .i64 6]=some [.int .i64 ep.r0,.int .i64 ep.r1,.list ai ep.r2,.bool true,.str AA,.int .i64 10]:=aD (N:=60) (n:=30) (by kernel_rfl)
theorem WB:nT ep:=⟨afv,awJ,awK,awL,awM,awN,by decide,by unfold fy;decide,by unfold fy;decide,by decide,by decide,by decide,by decide⟩
theorem Wv:mB AA ep:=o4 (by decide) awO awP awQ (by decide) afv
theorem afw:CC lU (cJ et)=some [.int .i64 0]:=aD (N:=60) (n:=30) (by kernel_rfl)
theorem awR:CC fF [.int .i64 et.l0,.int .i64 et.l1,.list ai et.l2]=some [.list bA (et.p.map cb)]:=aD (N:=60) (n:=30) (by kernel_rfl)
theorem awS:CC fF [.int .i64 et.r0,.int .i64 et.r1,.list ai et.r2]=some [.list bA (et.q.map cb)]:=aD (N:=60) (n:=30) (by kernel_rfl)
theorem awT:CC gv ([.int .i64 et.l0,.int .i64 et.l1,.list ai et.l2,.int .i64 0,.int .i64 0,.list ai []]++cP (fun _=>false) (fun _=>false))=some (cP et.o1 et.e1):=aD (N:=60) (n:=30) (by kernel_rfl)
theorem awU:CC gv ([.int .i64 et.r0,.int .i64 et.r1,.list ai et.r2,.int .i64 0,.int .i64 0,.list ai []]++cP et.o1 et.e1)=some (cP et.cQ et.cT):=aD (N:=60) (n:=30) (by kernel_rfl)
theorem awV:CC mZ [.list ai [.agg [.int .i64 et.l0,.int .i64 et.l1,.list ai et.l2],.agg [.int .i64 et.r0,.int .i64 et.r1,.list ai et.r2]]]=some [.int .i64 (et.nv:Int)]:=aD (N:=60) (n:=30) (by kernel_rfl)
theorem awW:CC ga [.str AB,.int .i64 0]=some [.int .i64 et.l0,.int .i64 et.l1,.list ai et.l2,.bool true,.str AB,.int .i64 5]:=aD (N:=60) (n:=30) (by kernel_rfl)
theorem awX:CC na [.int .u8 61,.str AB,.int .i64 5]=some [.bool true,.str AB,.int .i64 6]:=aD (N:=60) (n:=30) (by kernel_rfl)
theorem awY:CC ga [.str AB,.int .i64 6]=some [.int .i64 et.r0,.int .i64 et.r1,.list ai et.r2,.bool true,.str AB,.int .i64 10]:=aD (N:=60) (n:=30) (by kernel_rfl)
theorem WC:nT et:=⟨afw,awR,awS,awT,awU,awV,by decide,by unfold fy;decide,by unfold fy;decide,by decide,by decide,by decide,by decide⟩
theorem Ww:mB AB et:=o4 (by decide) awW awX awY (by decide) afw
theorem afx:CC lU (cJ eL)=some [.int .i64 0]:=aD (N:=60) (n:=30) (by kernel_rfl)
theorem awZ:CC fF [.int .i64 eL.l0,.int .i64 eL.l1,.list ai eL.l2]=some [.list bA (eL.p.map cb)]:=aD (N:=60) (n:=30) (by kernel_rfl)
theorem aw0:CC fF [.int .i64 eL.r0,.int .i64 eL.r1,.list ai eL.r2]=some [.list bA (eL.q.map cb)]:=aD (N:=60) (n:=30) (by kernel_rfl)
theorem aw1:CC gv ([.int .i64 eL.l0,.int .i64 eL.l1,.list ai eL.l2,.int .i64 0,.int .i64 0,.list ai []]++cP (fun _=>false) (fun _=>false))=some (cP eL.o1 eL.e1):=aD (N:=60) (n:=30) (by kernel_rfl)
theorem aw2:CC gv ([.int .i64 eL.r0,.int .i64 eL.r1,.list ai eL.r2,.int .i64 0,.int .i64 0,.list ai []]++cP eL.o1 eL.e1)=some (cP eL.cQ eL.cT):=aD (N:=60) (n:=30) (by kernel_rfl)
theorem aw3:CC mZ [.list ai [.agg [.int .i64 eL.l0,.int .i64 eL.l1,.list ai eL.l2],.agg [.int .i64 eL.r0,.int .i64 eL.r1,.list ai eL.r2]]]=some [.int .i64 (eL.nv:Int)]:=aD (N:=60) (n:=30) (by kernel_rfl)
theorem aw4:CC ga [.str AD,.int .i64 0]=some [.int .i64 eL.l0,.int .i64 eL.l1,.list ai eL.l2,.bool true,.str AD,.int .i64 8]:=aD (N:=60) (n:=30) (by kernel_rfl)
theorem aw5:CC na [.int .u8 61,.str AD,.int .i64 8]=some [.bool true,.str AD,.int .i64 9]:=aD (N:=60) (n:=30) (by kernel_rfl)
theorem aw6:CC ga [.str AD,.int .i64 9]=some [.int .i64 eL.r0,.int .i64 eL.r1,.list ai eL.r2,.bool true,.str AD,.int .i64 13]:=aD (N:=60) (n:=30) (by kernel_rfl)
theorem agP:nT eL:=⟨afx,awZ,aw0,aw1,aw2,aw3,by decide,by unfold fy;decide,by unfold fy;decide,by decide,by decide,by decide,by decide⟩
theorem agF:mB AD eL:=o4 (by decide) aw4 aw5 aw6 (by decide) afx
theorem afy:CC lU (cJ eM)=some [.int .i64 0]:=aD (N:=60) (n:=30) (by kernel_rfl)
theorem aw7:CC fF [.int .i64 eM.l0,.int .i64 eM.l1,.list ai eM.l2]=some [.list bA (eM.p.map cb)]:=aD (N:=60) (n:=30) (by kernel_rfl)
theorem aw8:CC fF [.int .i64 eM.r0,.int .i64 eM.r1,.list ai eM.r2]=some [.list bA (eM.q.map cb)]:=aD (N:=60) (n:=30) (by kernel_rfl)
theorem aw9:CC gv ([.int .i64 eM.l0,.int .i64 eM.l1,.list ai eM.l2,.int .i64 0,.int .i64 0,.list ai []]++cP (fun _=>false) (fun _=>false))=some (cP eM.o1 eM.e1):=aD (N:=60) (n:=30) (by kernel_rfl)
theorem axa:CC gv ([.int .i64 eM.r0,.int .i64 eM.r1,.list ai eM.r2,.int .i64 0,.int .i64 0,.list ai []]++cP eM.o1 eM.e1)=some (cP eM.cQ eM.cT):=aD (N:=60) (n:=30) (by kernel_rfl)
theorem axb:CC mZ [.list ai [.agg [.int .i64 eM.l0,.int .i64 eM.l1,.list ai eM.l2],.agg [.int .i64 eM.r0,.int .i64 eM.r1,.list ai eM.r2]]]=some [.int .i64 (eM.nv:Int)]:=aD (N:=60) (n:=30) (by kernel_rfl)
theorem axc:CC ga [.str AE,.int .i64 0]=some [.int .i64 eM.l0,.int .i64 eM.l1,.list ai eM.l2,.bool true,.str AE,.int .i64 12]:=aD (N:=60) (n:=30) (by kernel_rfl)
theorem axd:CC na [.int .u8 61,.str AE,.int .i64 12]=some [.bool true,.str AE,.int .i64 13]:=aD (N:=60) (n:=30) (by kernel_rfl)
theorem axe:CC ga [.str AE,.int .i64 13]=some [.int .i64 eM.r0,.int .i64 eM.r1,.list ai eM.r2,.bool true,.str AE,.int .i64 21]:=aD (N:=60) (n:=30) (by kernel_rfl)
theorem agQ:nT eM:=⟨afy,aw7,aw8,aw9,axa,axb,by decide,by unfold fy;decide,by unfold fy;decide,by decide,by decide,by decide,by decide⟩
theorem agH:mB AE eM:=o4 (by decide) axc axd axe (by decide) afy
theorem afz:CC lU (cJ eN)=some [.int .i64 0]:=aD (N:=60) (n:=30) (by kernel_rfl)
theorem axf:CC fF [.int .i64 eN.l0,.int .i64 eN.l1,.list ai eN.l2]=some [.list bA (eN.p.map cb)]:=aD (N:=60) (n:=30) (by kernel_rfl)
theorem axg:CC fF [.int .i64 eN.r0,.int .i64 eN.r1,.list ai eN.r2]=some [.list bA (eN.q.map cb)]:=aD (N:=60) (n:=30) (by kernel_rfl)
theorem axh:CC gv ([.int .i64 eN.l0,.int .i64 eN.l1,.list ai eN.l2,.int .i64 0,.int .i64 0,.list ai []]++cP (fun _=>false) (fun _=>false))=some (cP eN.o1 eN.e1):=aD (N:=60) (n:=30) (by kernel_rfl)
theorem axi:CC gv ([.int .i64 eN.r0,.int .i64 eN.r1,.list ai eN.r2,.int .i64 0,.int .i64 0,.list ai []]++cP eN.o1 eN.e1)=some (cP eN.cQ eN.cT):=aD (N:=60) (n:=30) (by kernel_rfl)
theorem axj:CC mZ [.list ai [.agg [.int .i64 eN.l0,.int .i64 eN.l1,.list ai eN.l2],.agg [.int .i64 eN.r0,.int .i64 eN.r1,.list ai eN.r2]]]=some [.int .i64 (eN.nv:Int)]:=aD (N:=60) (n:=30) (by kernel_rfl)
theorem axk:CC ga [.str AF,.int .i64 0]=some [.int .i64 eN.l0,.int .i64 eN.l1,.list ai eN.l2,.bool true,.str AF,.int .i64 12]:=aD (N:=60) (n:=30) (by kernel_rfl)
theorem axl:CC na [.int .u8 61,.str AF,.int .i64 12]=some [.bool true,.str AF,.int .i64 13]:=aD (N:=60) (n:=30) (by kernel_rfl)
theorem axm:CC ga [.str AF,.int .i64 13]=some [.int .i64 eN.r0,.int .i64 eN.r1,.list ai eN.r2,.bool true,.str AF,.int .i64 25]:=aD (N:=60) (n:=30) (by kernel_rfl)
theorem agR:nT eN:=⟨afz,axf,axg,axh,axi,axj,by decide,by unfold fy;decide,by unfold fy;decide,by decide,by decide,by decide,by decide⟩
theorem agI:mB AF eN:=o4 (by decide) axk axl axm (by decide) afz
end Go.AM
