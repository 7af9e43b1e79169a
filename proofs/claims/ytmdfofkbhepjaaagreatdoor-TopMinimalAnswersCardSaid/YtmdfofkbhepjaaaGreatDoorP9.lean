/-
  Functions of the program, lifted to plain data.
-/
import Derived.Test.YtmdfofkbhepjaaaGreatDoorP8
set_option linter.unusedVariables false
set_option linter.unusedSimpArgs false
set_option linter.unusedSectionVars false
set_option maxRecDepth 100000
namespace Go.AM
open Go.Proofs
theorem agH:CC lY (cL ej)=some [.int .i64 0]:=aG (N:=60) (n:=30) (by kernel_rfl)
theorem ayz:CC fI [.int .i64 ej.l0,.int .i64 ej.l1,.list ai ej.l2]=some [.list bG (ej.p.map cb)]:=aG (N:=60) (n:=30) (by kernel_rfl)
theorem ayA:CC fI [.int .i64 ej.r0,.int .i64 ej.r1,.list ai ej.r2]=some [.list bG (ej.q.map cb)]:=aG (N:=60) (n:=30) (by kernel_rfl)
theorem ayB:CC gy ([.int .i64 ej.l0,.int .i64 ej.l1,.list ai ej.l2,.int .i64 0,.int .i64 0,.list ai []]++cQ (fun _=>false) (fun _=>false))=some (cQ ej.o1 ej.e1):=aG (N:=60) (n:=30) (by kernel_rfl)
theorem ayC:CC gy ([.int .i64 ej.r0,.int .i64 ej.r1,.list ai ej.r2,.int .i64 0,.int .i64 0,.list ai []]++cQ ej.o1 ej.e1)=some (cQ ej.cR ej.cU):=aG (N:=60) (n:=30) (by kernel_rfl)
theorem ayD:CC nr [.list ai [.agg [.int .i64 ej.l0,.int .i64 ej.l1,.list ai ej.l2],.agg [.int .i64 ej.r0,.int .i64 ej.r1,.list ai ej.r2]]]=some [.int .i64 (ej.nv:Int)]:=aG (N:=60) (n:=30) (by kernel_rfl)
theorem ayE:CC gg [.str Bd,.int .i64 0]=some [.int .i64 ej.l0,.int .i64 ej.l1,.list ai ej.l2,.bool true,.str Bd,.int .i64 5]:=aG (N:=60) (n:=30) (by kernel_rfl)
theorem ayF:CC nt [.int .u8 61,.str Bd,.int .i64 5]=some [.bool true,.str Bd,.int .i64 6]:=aG (N:=60) (n:=30) (by kernel_rfl)
theorem ayG:CC gg [.str Bd,.int .i64 6]=some [.int .i64 ej.r0,.int .i64 ej.r1,.list ai ej.r2,.bool true,.str Bd,.int .i64 10]:=aG (N:=60) (n:=30) (by kernel_rfl)
theorem XQ:oj ej:=⟨agH,ayz,ayA,ayB,ayC,ayD,by decide,by unfold fC;decide,by unfold fC;decide,by decide,by decide,by decide,by decide⟩
theorem XK:mK Bd ej:=pC (by decide) ayE ayF ayG (by decide) agH
theorem agI:CC lY (cL en)=some [.int .i64 0]:=aG (N:=60) (n:=30) (by kernel_rfl)
theorem ayH:CC fI [.int .i64 en.l0,.int .i64 en.l1,.list ai en.l2]=some [.list bG (en.p.map cb)]:=aG (N:=60) (n:=30) (by kernel_rfl)
theorem ayI:CC fI [.int .i64 en.r0,.int .i64 en.r1,.list ai en.r2]=some [.list bG (en.q.map cb)]:=aG (N:=60) (n:=30) (by kernel_rfl)
theorem ayJ:CC gy ([.int .i64 en.l0,.int .i64 en.l1,.list ai en.l2,.int .i64 0,.int .i64 0,.list ai []]++cQ (fun _=>false) (fun _=>false))=some (cQ en.o1 en.e1):=aG (N:=60) (n:=30) (by kernel_rfl)
theorem ayK:CC gy ([.int .i64 en.r0,.int .i64 en.r1,.list ai en.r2,.int .i64 0,.int .i64 0,.list ai []]++cQ en.o1 en.e1)=some (cQ en.cR en.cU):=aG (N:=60) (n:=30) (by kernel_rfl)
theorem ayL:CC nr [.list ai [.agg [.int .i64 en.l0,.int .i64 en.l1,.list ai en.l2],.agg [.int .i64 en.r0,.int .i64 en.r1,.list ai en.r2]]]=some [.int .i64 (en.nv:Int)]:=aG (N:=60) (n:=30) (by kernel_rfl)
theorem ayM:CC gg [.str Be,.int .i64 0]=some [.int .i64 en.l0,.int .i64 en.l1,.list ai en.l2,.bool true,.str Be,.int .i64 5]:=aG (N:=60) (n:=30) (by kernel_rfl)
theorem ayN:CC nt [.int .u8 61,.str Be,.int .i64 5]=some [.bool true,.str Be,.int .i64 6]:=aG (N:=60) (n:=30) (by kernel_rfl)
theorem ayO:CC gg [.str Be,.int .i64 6]=some [.int .i64 en.r0,.int .i64 en.r1,.list ai en.r2,.bool true,.str Be,.int .i64 10]:=aG (N:=60) (n:=30) (by kernel_rfl)
theorem XR:oj en:=⟨agI,ayH,ayI,ayJ,ayK,ayL,by decide,by unfold fC;decide,by unfold fC;decide,by decide,by decide,by decide,by decide⟩
theorem XL:mK Be en:=pC (by decide) ayM ayN ayO (by decide) agI
theorem agJ:CC lY (cL eL)=some [.int .i64 0]:=aG (N:=60) (n:=30) (by kernel_rfl)
theorem ayP:CC fI [.int .i64 eL.l0,.int .i64 eL.l1,.list ai eL.l2]=some [.list bG (eL.p.map cb)]:=aG (N:=60) (n:=30) (by kernel_rfl)
theorem ayQ:CC fI [.int .i64 eL.r0,.int .i64 eL.r1,.list ai eL.r2]=some [.list bG (eL.q.map cb)]:=aG (N:=60) (n:=30) (by kernel_rfl)
theorem ayR:CC gy ([.int .i64 eL.l0,.int .i64 eL.l1,.list ai eL.l2,.int .i64 0,.int .i64 0,.list ai []]++cQ (fun _=>false) (fun _=>false))=some (cQ eL.o1 eL.e1):=aG (N:=60) (n:=30) (by kernel_rfl)
theorem ayS:CC gy ([.int .i64 eL.r0,.int .i64 eL.r1,.list ai eL.r2,.int .i64 0,.int .i64 0,.list ai []]++cQ eL.o1 eL.e1)=some (cQ eL.cR eL.cU):=aG (N:=60) (n:=30) (by kernel_rfl)
theorem ayT:CC nr [.list ai [.agg [.int .i64 eL.l0,.int .i64 eL.l1,.list ai eL.l2],.agg [.int .i64 eL.r0,.int .i64 eL.r1,.list ai eL.r2]]]=some [.int .i64 (eL.nv:Int)]:=aG (N:=60) (n:=30) (by kernel_rfl)
theorem ayU:CC gg [.str Bf,.int .i64 0]=some [.int .i64 eL.l0,.int .i64 eL.l1,.list ai eL.l2,.bool true,.str Bf,.int .i64 8]:=aG (N:=60) (n:=30) (by kernel_rfl)
theorem ayV:CC nt [.int .u8 61,.str Bf,.int .i64 8]=some [.bool true,.str Bf,.int .i64 9]:=aG (N:=60) (n:=30) (by kernel_rfl)
theorem ayW:CC gg [.str Bf,.int .i64 9]=some [.int .i64 eL.r0,.int .i64 eL.r1,.list ai eL.r2,.bool true,.str Bf,.int .i64 13]:=aG (N:=60) (n:=30) (by kernel_rfl)
theorem ah0:oj eL:=⟨agJ,ayP,ayQ,ayR,ayS,ayT,by decide,by unfold fC;decide,by unfold fC;decide,by decide,by decide,by decide,by decide⟩
theorem ahQ:mK Bf eL:=pC (by decide) ayU ayV ayW (by decide) agJ
theorem agK:CC lY (cL eM)=some [.int .i64 0]:=aG (N:=60) (n:=30) (by kernel_rfl)
theorem ayX:CC fI [.int .i64 eM.l0,.int .i64 eM.l1,.list ai eM.l2]=some [.list bG (eM.p.map cb)]:=aG (N:=60) (n:=30) (by kernel_rfl)
theorem ayY:CC fI [.int .i64 eM.r0,.int .i64 eM.r1,.list ai eM.r2]=some [.list bG (eM.q.map cb)]:=aG (N:=60) (n:=30) (by kernel_rfl)
theorem ayZ:CC gy ([.int .i64 eM.l0,.int .i64 eM.l1,.list ai eM.l2,.int .i64 0,.int .i64 0,.list ai []]++cQ (fun _=>false) (fun _=>false))=some (cQ eM.o1 eM.e1):=aG (N:=60) (n:=30) (by kernel_rfl)
theorem ay0:CC gy ([.int .i64 eM.r0,.int .i64 eM.r1,.list ai eM.r2,.int .i64 0,.int .i64 0,.list ai []]++cQ eM.o1 eM.e1)=some (cQ eM.cR eM.cU):=aG (N:=60) (n:=30) (by kernel_rfl)
theorem ay1:CC nr [.list ai [.agg [.int .i64 eM.l0,.int .i64 eM.l1,.list ai eM.l2],.agg [.int .i64 eM.r0,.int .i64 eM.r1,.list ai eM.r2]]]=some [.int .i64 (eM.nv:Int)]:=aG (N:=60) (n:=30) (by kernel_rfl)
theorem ay2:CC gg [.str Bg,.int .i64 0]=some [.int .i64 eM.l0,.int .i64 eM.l1,.list ai eM.l2,.bool true,.str Bg,.int .i64 12]:=aG (N:=60) (n:=30) (by kernel_rfl)
theorem ay3:CC nt [.int .u8 61,.str Bg,.int .i64 12]=some [.bool true,.str Bg,.int .i64 13]:=aG (N:=60) (n:=30) (by kernel_rfl)
theorem ay4:CC gg [.str Bg,.int .i64 13]=some [.int .i64 eM.r0,.int .i64 eM.r1,.list ai eM.r2,.bool true,.str Bg,.int .i64 21]:=aG (N:=60) (n:=30) (by kernel_rfl)
theorem ah1:oj eM:=⟨agK,ayX,ayY,ayZ,ay0,ay1,by decide,by unfold fC;decide,by unfold fC;decide,by decide,by decide,by decide,by decide⟩
theorem ahS:mK Bg eM:=pC (by decide) ay2 ay3 ay4 (by decide) agK
theorem agL:CC lY (cL eN)=some [.int .i64 0]:=aG (N:=60) (n:=30) (by kernel_rfl)
theorem ay5:CC fI [.int .i64 eN.l0,.int .i64 eN.l1,.list ai eN.l2]=some [.list bG (eN.p.map cb)]:=aG (N:=60) (n:=30) (by kernel_rfl)
theorem ay6:CC fI [.int .i64 eN.r0,.int .i64 eN.r1,.list ai eN.r2]=some [.list bG (eN.q.map cb)]:=aG (N:=60) (n:=30) (by kernel_rfl)
theorem ay7:CC gy ([.int .i64 eN.l0,.int .i64 eN.l1,.list ai eN.l2,.int .i64 0,.int .i64 0,.list ai []]++cQ (fun _=>false) (fun _=>false))=some (cQ eN.o1 eN.e1):=aG (N:=60) (n:=30) (by kernel_rfl)
theorem ay8:CC gy ([.int .i64 eN.r0,.int .i64 eN.r1,.list ai eN.r2,.int .i64 0,.int .i64 0,.list ai []]++cQ eN.o1 eN.e1)=some (cQ eN.cR eN.cU):=aG (N:=60) (n:=30) (by kernel_rfl)
theorem ay9:CC nr [.list ai [.agg [.int .i64 eN.l0,.int .i64 eN.l1,.list ai eN.l2],.agg [.int .i64 eN.r0,.int .i64 eN.r1,.list ai eN.r2]]]=some [.int .i64 (eN.nv:Int)]:=aG (N:=60) (n:=30) (by kernel_rfl)
theorem aza:CC gg [.str Bh,.int .i64 0]=some [.int .i64 eN.l0,.int .i64 eN.l1,.list ai eN.l2,.bool true,.str Bh,.int .i64 12]:=aG (N:=60) (n:=30) (by kernel_rfl)
theorem azb:CC nt [.int .u8 61,.str Bh,.int .i64 12]=some [.bool true,.str Bh,.int .i64 13]:=aG (N:=60) (n:=30) (by kernel_rfl)
theorem azc:CC gg [.str Bh,.int .i64 13]=some [.int .i64 eN.r0,.int .i64 eN.r1,.list ai eN.r2,.bool true,.str Bh,.int .i64 25]:=aG (N:=60) (n:=30) (by kernel_rfl)
theorem ah2:oj eN:=⟨agL,ay5,ay6,ay7,ay8,ay9,by decide,by unfold fC;decide,by unfold fC;decide,by decide,by decide,by decide,by decide⟩
theorem ahT:mK Bh eN:=pC (by decide) aza azb azc (by decide) agL
end Go.AM
