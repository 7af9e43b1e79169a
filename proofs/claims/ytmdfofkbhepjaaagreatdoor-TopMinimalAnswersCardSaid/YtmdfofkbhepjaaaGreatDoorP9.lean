/-
  Functions of the program, lifted to plain data.
-/
import Derived.Test.YtmdfofkbhepjaaaGreatDoorP8
set_option linter.unusedVariables false
set_option linter.unusedSimpArgs false
set_option linter.unusedSectionVars false
set_option maxRecDepth 100000
namespace Go.AM
open Go.Proofs
theorem agI:CC lY (cL ej)=some [.int .i64 0]:=aG (N:=60) (n:=30) (by kernel_rfl)
theorem ayF:CC fI [.int .i64 ej.l0,.int .i64 ej.l1,.list ai ej.l2]=some [.list bG (ej.p.map cb)]:=aG (N:=60) (n:=30) (by kernel_rfl)
theorem ayG:CC fI [.int .i64 ej.r0,.int .i64 ej.r1,.list ai ej.r2]=some [.list bG (ej.q.map cb)]:=aG (N:=60) (n:=30) (by kernel_rfl)
theorem ayH:CC gy ([.int .i64 ej.l0,.int .i64 ej.l1,.list ai ej.l2,.int .i64 0,.int .i64 0,.list ai []]++cQ (fun _=>false) (fun _=>false))=some (cQ ej.o1 ej.e1):=aG (N:=60) (n:=30) (by kernel_rfl)
theorem ayI:CC gy ([.int .i64 ej.r0,.int .i64 ej.r1,.list ai ej.r2,.int .i64 0,.int .i64 0,.list ai []]++cQ ej.o1 ej.e1)=some (cQ ej.cR ej.cU):=aG (N:=60) (n:=30) (by kernel_rfl)
theorem ayJ:CC nr [.list ai [.agg [.int .i64 ej.l0,.int .i64 ej.l1,.list ai ej.l2],.agg [.int .i64 ej.r0,.int .i64 ej.r1,.list ai ej.r2]]]=some [.int .i64 (ej.nv:Int)]:=aG (N:=60) (n:=30) (by kernel_rfl)
theorem ayK:CC gg [.str Bd,.int .i64 0]=some [.int .i64 ej.l0,.int .i64 ej.l1,.list ai ej.l2,.bool true,.str Bd,.int .i64 5]:=aG (N:=60) (n:=30) (by kernel_rfl)
theorem ayL:CC nt [.int .u8 61,.str Bd,.int .i64 5]=some [.bool true,.str Bd,.int .i64 6]:=aG (N:=60) (n:=30) (by kernel_rfl)
theorem ayM:CC gg [.str Bd,.int .i64 6]=some [.int .i64 ej.r0,.int .i64 ej.r1,.list ai ej.r2,.bool true,.str Bd,.int .i64 10]:=aG (N:=60) (n:=30) (by kernel_rfl)
theorem XS:oj ej:=⟨agI,ayF,ayG,ayH,ayI,ayJ,by decide,by unfold fC;decide,by unfold fC;decide,by decide,by decide,by decide,by decide⟩
theorem XM:mK Bd ej:=pC (by decide) ayK ayL ayM (by decide) agI
theorem agJ:CC lY (cL en)=some [.int .i64 0]:=aG (N:=60) (n:=30) (by kernel_rfl)
theorem ayN:CC fI [.int .i64 en.l0,.int .i64 en.l1,.list ai en.l2]=some [.list bG (en.p.map cb)]:=aG (N:=60) (n:=30) (by kernel_rfl)
theorem ayO:CC fI [.int .i64 en.r0,.int .i64 en.r1,.list ai en.r2]=some [.list bG (en.q.map cb)]:=aG (N:=60) (n:=30) (by kernel_rfl)
theorem ayP:CC gy ([.int .i64 en.l0,.int .i64 en.l1,.list ai en.l2,.int .i64 0,.int .i64 0,.list ai []]++cQ (fun _=>false) (fun _=>false))=some (cQ en.o1 en.e1):=aG (N:=60) (n:=30) (by kernel_rfl)
theorem ayQ:CC gy ([.int .i64 en.r0,.int .i64 en.r1,.list ai en.r2,.int .i64 0,.int .i64 0,.list ai []]++cQ en.o1 en.e1)=some (cQ en.cR en.cU):=aG (N:=60) (n:=30) (by kernel_rfl)
theorem ayR:CC nr [.list ai [.agg [.int .i64 en.l0,.int .i64 en.l1,.list ai en.l2],.agg [.int .i64 en.r0,.int .i64 en.r1,.list ai en.r2]]]=some [.int .i64 (en.nv:Int)]:=aG (N:=60) (n:=30) (by kernel_rfl)
theorem ayS:CC gg [.str Be,.int .i64 0]=some [.int .i64 en.l0,.int .i64 en.l1,.list ai en.l2,.bool true,.str Be,.int .i64 5]:=aG (N:=60) (n:=30) (by kernel_rfl)
theorem ayT:CC nt [.int .u8 61,.str Be,.int .i64 5]=some [.bool true,.str Be,.int .i64 6]:=aG (N:=60) (n:=30) (by kernel_rfl)
theorem ayU:CC gg [.str Be,.int .i64 6]=some [.int .i64 en.r0,.int .i64 en.r1,.list ai en.r2,.bool true,.str Be,.int .i64 10]:=aG (N:=60) (n:=30) (by kernel_rfl)
theorem XT:oj en:=⟨agJ,ayN,ayO,ayP,ayQ,ayR,by decide,by unfold fC;decide,by unfold fC;decide,by decide,by decide,by decide,by decide⟩
theorem XN:mK Be en:=pC (by decide) ayS ayT ayU (by decide) agJ
theorem agK:CC lY (cL eL)=some [.int .i64 0]:=aG (N:=60) (n:=30) (by kernel_rfl)
theorem ayV:CC fI [.int .i64 eL.l0,.int .i64 eL.l1,.list ai eL.l2]=some [.list bG (eL.p.map cb)]:=aG (N:=60) (n:=30) (by kernel_rfl)
theorem ayW:CC fI [.int .i64 eL.r0,.int .i64 eL.r1,.list ai eL.r2]=some [.list bG (eL.q.map cb)]:=aG (N:=60) (n:=30) (by kernel_rfl)
theorem ayX:CC gy ([.int .i64 eL.l0,.int .i64 eL.l1,.list ai eL.l2,.int .i64 0,.int .i64 0,.list ai []]++cQ (fun _=>false) (fun _=>false))=some (cQ eL.o1 eL.e1):=aG (N:=60) (n:=30) (by kernel_rfl)
theorem ayY:CC gy ([.int .i64 eL.r0,.int .i64 eL.r1,.list ai eL.r2,.int .i64 0,.int .i64 0,.list ai []]++cQ eL.o1 eL.e1)=some (cQ eL.cR eL.cU):=aG (N:=60) (n:=30) (by kernel_rfl)
theorem ayZ:CC nr [.list ai [.agg [.int .i64 eL.l0,.int .i64 eL.l1,.list ai eL.l2],.agg [.int .i64 eL.r0,.int .i64 eL.r1,.list ai eL.r2]]]=some [.int .i64 (eL.nv:Int)]:=aG (N:=60) (n:=30) (by kernel_rfl)
theorem ay0:CC gg [.str Bf,.int .i64 0]=some [.int .i64 eL.l0,.int .i64 eL.l1,.list ai eL.l2,.bool true,.str Bf,.int .i64 8]:=aG (N:=60) (n:=30) (by kernel_rfl)
theorem ay1:CC nt [.int .u8 61,.str Bf,.int .i64 8]=some [.bool true,.str Bf,.int .i64 9]:=aG (N:=60) (n:=30) (by kernel_rfl)
theorem ay2:CC gg [.str Bf,.int .i64 9]=some [.int .i64 eL.r0,.int .i64 eL.r1,.list ai eL.r2,.bool true,.str Bf,.int .i64 13]:=aG (N:=60) (n:=30) (by kernel_rfl)
theorem ah1:oj eL:=⟨agK,ayV,ayW,ayX,ayY,ayZ,by decide,by unfold fC;decide,by unfold fC;decide,by decide,by decide,by decide,by decide⟩
theorem ahR:mK Bf eL:=pC (by decide) ay0 ay1 ay2 (by decide) agK
theorem agL:CC lY (cL eM)=some [.int .i64 0]:=aG (N:=60) (n:=30) (by kernel_rfl)
theorem ay3:CC fI [.int .i64 eM.l0,.int .i64 eM.l1,.list ai eM.l2]=some [.list bG (eM.p.map cb)]:=aG (N:=60) (n:=30) (by kernel_rfl)
theorem ay4:CC fI [.int .i64 eM.r0,.int .i64 eM.r1,.list ai eM.r2]=some [.list bG (eM.q.map cb)]:=aG (N:=60) (n:=30) (by kernel_rfl)
theorem ay5:CC gy ([.int .i64 eM.l0,.int .i64 eM.l1,.list ai eM.l2,.int .i64 0,.int .i64 0,.list ai []]++cQ (fun _=>false) (fun _=>false))=some (cQ eM.o1 eM.e1):=aG (N:=60) (n:=30) (by kernel_rfl)
theorem ay6:CC gy ([.int .i64 eM.r0,.int .i64 eM.r1,.list ai eM.r2,.int .i64 0,.int .i64 0,.list ai []]++cQ eM.o1 eM.e1)=some (cQ eM.cR eM.cU):=aG (N:=60) (n:=30) (by kernel_rfl)
theorem ay7:CC nr [.list ai [.agg [.int .i64 eM.l0,.int .i64 eM.l1,.list ai eM.l2],.agg [.int .i64 eM.r0,.int .i64 eM.r1,.list ai eM.r2]]]=some [.int .i64 (eM.nv:Int)]:=aG (N:=60) (n:=30) (by kernel_rfl)
theorem ay8:CC gg [.str Bg,.int .i64 0]=some [.int .i64 eM.l0,.int .i64 eM.l1,.list ai eM.l2,.bool true,.str Bg,.int .i64 12]:=aG (N:=60) (n:=30) (by kernel_rfl)
theorem ay9:CC nt [.int .u8 61,.str Bg,.int .i64 12]=some [.bool true,.str Bg,.int .i64 13]:=aG (N:=60) (n:=30) (by kernel_rfl)
theorem aza:CC gg [.str Bg,.int .i64 13]=some [.int .i64 eM.r0,.int .i64 eM.r1,.list ai eM.r2,.bool true,.str Bg,.int .i64 21]:=aG (N:=60) (n:=30) (by kernel_rfl)
theorem ah2:oj eM:=⟨agL,ay3,ay4,ay5,ay6,ay7,by decide,by unfold fC;decide,by unfold fC;decide,by decide,by decide,by decide,by decide⟩
theorem ahT:mK Bg eM:=pC (by decide) ay8 ay9 aza (by decide) agL
theorem agM:CC lY (cL eN)=some [.int .i64 0]:=aG (N:=60) (n:=30) (by kernel_rfl)
theorem azb:CC fI [.int .i64 eN.l0,.int .i64 eN.l1,.list ai eN.l2]=some [.list bG (eN.p.map cb)]:=aG (N:=60) (n:=30) (by kernel_rfl)
theorem azc:CC fI [.int .i64 eN.r0,.int .i64 eN.r1,.list ai eN.r2]=some [.list bG (eN.q.map cb)]:=aG (N:=60) (n:=30) (by kernel_rfl)
theorem azd:CC gy ([.int .i64 eN.l0,.int .i64 eN.l1,.list ai eN.l2,.int .i64 0,.int .i64 0,.list ai []]++cQ (fun _=>false) (fun _=>false))=some (cQ eN.o1 eN.e1):=aG (N:=60) (n:=30) (by kernel_rfl)
theorem aze:CC gy ([.int .i64 eN.r0,.int .i64 eN.r1,.list ai eN.r2,.int .i64 0,.int .i64 0,.list ai []]++cQ eN.o1 eN.e1)=some (cQ eN.cR eN.cU):=aG (N:=60) (n:=30) (by kernel_rfl)
theorem azf:CC nr [.list ai [.agg [.int .i64 eN.l0,.int .i64 eN.l1,.list ai eN.l2],.agg [.int .i64 eN.r0,.int .i64 eN.r1,.list ai eN.r2]]]=some [.int .i64 (eN.nv:Int)]:=aG (N:=60) (n:=30) (by kernel_rfl)
theorem azg:CC gg [.str Bh,.int .i64 0]=some [.int .i64 eN.l0,.int .i64 eN.l1,.list ai eN.l2,.bool true,.str Bh,.int .i64 12]:=aG (N:=60) (n:=30) (by kernel_rfl)
theorem azh:CC nt [.int .u8 61,.str Bh,.int .i64 12]=some [.bool true,.str Bh,.int .i64 13]:=aG (N:=60) (n:=30) (by kernel_rfl)
theorem azi:CC gg [.str Bh,.int .i64 13]=some [.int .i64 eN.r0,.int .i64 eN.r1,.list ai eN.r2,.bool true,.str Bh,.int .i64 25]:=aG (N:=60) (n:=30) (by kernel_rfl)
theorem ah3:oj eN:=⟨agM,azb,azc,azd,aze,azf,by decide,by unfold fC;decide,by unfold fC;decide,by decide,by decide,by decide,by decide⟩
theorem ahU:mK Bh eN:=pC (by decide) azg azh azi (by decide) agM
end Go.AM
