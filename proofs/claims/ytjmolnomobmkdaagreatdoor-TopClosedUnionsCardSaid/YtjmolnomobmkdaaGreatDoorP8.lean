/-
  Functions of the program, lifted to plain data.
-/
import Derived.Test.YtjmolnomobmkdaaGreatDoorP7
set_option linter.unusedVariables false
set_option linter.unusedSimpArgs false
set_option linter.unusedSectionVars false
set_option maxRecDepth 100000
namespace Go.AM
open Go.Proofs
theorem ahs:CC mq (cS eT)=some [.int .i64 0]:=aG (N:=60) (n:=30) (by kernel_rfl)
theorem ayi:CC fO [.int .i64 eT.l0,.int .i64 eT.l1,.list ai eT.l2]=some [.list bG (eT.p.map cg)]:=aG (N:=60) (n:=30) (by kernel_rfl)
theorem ayj:CC fO [.int .i64 eT.r0,.int .i64 eT.r1,.list ai eT.r2]=some [.list bG (eT.q.map cg)]:=aG (N:=60) (n:=30) (by kernel_rfl)
theorem ayk:CC gE ([.int .i64 eT.l0,.int .i64 eT.l1,.list ai eT.l2,.int .i64 0,.int .i64 0,.list ai []]++cU (fun _=>false) (fun _=>false))=some (cU eT.o1 eT.e1):=aG (N:=60) (n:=30) (by kernel_rfl)
theorem ayl:CC gE ([.int .i64 eT.r0,.int .i64 eT.r1,.list ai eT.r2,.int .i64 0,.int .i64 0,.list ai []]++cU eT.o1 eT.e1)=some (cU eT.bC eT.bD):=aG (N:=60) (n:=30) (by kernel_rfl)
theorem aym:CC nH [.list ai [.agg [.int .i64 eT.l0,.int .i64 eT.l1,.list ai eT.l2],.agg [.int .i64 eT.r0,.int .i64 eT.r1,.list ai eT.r2]]]=some [.int .i64 (eT.nv:Int)]:=aG (N:=60) (n:=30) (by kernel_rfl)
theorem ayn:CC gk [.str Bs,.int .i64 0]=some [.int .i64 eT.l0,.int .i64 eT.l1,.list ai eT.l2,.bool true,.str Bs,.int .i64 2]:=aG (N:=60) (n:=30) (by kernel_rfl)
theorem ayo:CC nJ [.int .u8 61,.str Bs,.int .i64 2]=some [.bool true,.str Bs,.int .i64 3]:=aG (N:=60) (n:=30) (by kernel_rfl)
theorem ayp:CC gk [.str Bs,.int .i64 3]=some [.int .i64 eT.r0,.int .i64 eT.r1,.list ai eT.r2,.bool true,.str Bs,.int .i64 5]:=aG (N:=60) (n:=30) (by kernel_rfl)
theorem aiP:nc eT:=⟨ahs,ayi,ayj,ayk,ayl,aym,by decide,by unfold fp;decide,by unfold fp;decide,by decide,by decide,by decide,by decide⟩
theorem ait:nf Bs eT:=p6 (by decide) ayn ayo ayp (by decide) ahs
theorem aht:CC mq (cS dt)=some [.int .i64 0]:=aG (N:=60) (n:=30) (by kernel_rfl)
theorem ayq:CC fO [.int .i64 dt.l0,.int .i64 dt.l1,.list ai dt.l2]=some [.list bG (dt.p.map cg)]:=aG (N:=60) (n:=30) (by kernel_rfl)
theorem ayr:CC fO [.int .i64 dt.r0,.int .i64 dt.r1,.list ai dt.r2]=some [.list bG (dt.q.map cg)]:=aG (N:=60) (n:=30) (by kernel_rfl)
theorem ays:CC gE ([.int .i64 dt.l0,.int .i64 dt.l1,.list ai dt.l2,.int .i64 0,.int .i64 0,.list ai []]++cU (fun _=>false) (fun _=>false))=some (cU dt.o1 dt.e1):=aG (N:=60) (n:=30) (by kernel_rfl)
theorem ayt:CC gE ([.int .i64 dt.r0,.int .i64 dt.r1,.list ai dt.r2,.int .i64 0,.int .i64 0,.list ai []]++cU dt.o1 dt.e1)=some (cU dt.bC dt.bD):=aG (N:=60) (n:=30) (by kernel_rfl)
theorem ayu:CC nH [.list ai [.agg [.int .i64 dt.l0,.int .i64 dt.l1,.list ai dt.l2],.agg [.int .i64 dt.r0,.int .i64 dt.r1,.list ai dt.r2]]]=some [.int .i64 (dt.nv:Int)]:=aG (N:=60) (n:=30) (by kernel_rfl)
theorem ayv:CC gk [.str Bt,.int .i64 0]=some [.int .i64 dt.l0,.int .i64 dt.l1,.list ai dt.l2,.bool true,.str Bt,.int .i64 3]:=aG (N:=60) (n:=30) (by kernel_rfl)
theorem ayw:CC nJ [.int .u8 61,.str Bt,.int .i64 3]=some [.bool true,.str Bt,.int .i64 4]:=aG (N:=60) (n:=30) (by kernel_rfl)
theorem ayx:CC gk [.str Bt,.int .i64 4]=some [.int .i64 dt.r0,.int .i64 dt.r1,.list ai dt.r2,.bool true,.str Bt,.int .i64 7]:=aG (N:=60) (n:=30) (by kernel_rfl)
theorem K9:nc dt:=⟨aht,ayq,ayr,ays,ayt,ayu,by decide,by unfold fp;decide,by unfold fp;decide,by decide,by decide,by decide,by decide⟩
theorem K8:nf Bt dt:=p6 (by decide) ayv ayw ayx (by decide) aht
theorem ahu:CC mq (cS aH)=some [.int .i64 0]:=aG (N:=60) (n:=30) (by kernel_rfl)
theorem ayy:CC fO [.int .i64 aH.l0,.int .i64 aH.l1,.list ai aH.l2]=some [.list bG (aH.p.map cg)]:=aG (N:=60) (n:=30) (by kernel_rfl)
theorem ayz:CC fO [.int .i64 aH.r0,.int .i64 aH.r1,.list ai aH.r2]=some [.list bG (aH.q.map cg)]:=aG (N:=60) (n:=30) (by kernel_rfl)
theorem ayA:CC gE ([.int .i64 aH.l0,.int .i64 aH.l1,.list ai aH.l2,.int .i64 0,.int .i64 0,.list ai []]++cU (fun _=>false) (fun _=>false))=some (cU aH.o1 aH.e1):=aG (N:=60) (n:=30) (by kernel_rfl)
theorem ayB:CC gE ([.int .i64 aH.r0,.int .i64 aH.r1,.list ai aH.r2,.int .i64 0,.int .i64 0,.list ai []]++cU aH.o1 aH.e1)=some (cU aH.bC aH.bD):=aG (N:=60) (n:=30) (by kernel_rfl)
theorem ayC:CC nH [.list ai [.agg [.int .i64 aH.l0,.int .i64 aH.l1,.list ai aH.l2],.agg [.int .i64 aH.r0,.int .i64 aH.r1,.list ai aH.r2]]]=some [.int .i64 (aH.nv:Int)]:=aG (N:=60) (n:=30) (by kernel_rfl)
theorem ayD:CC gk [.str Bu,.int .i64 0]=some [.int .i64 aH.l0,.int .i64 aH.l1,.list ai aH.l2,.bool true,.str Bu,.int .i64 8]:=aG (N:=60) (n:=30) (by kernel_rfl)
theorem ayE:CC nJ [.int .u8 61,.str Bu,.int .i64 8]=some [.bool true,.str Bu,.int .i64 9]:=aG (N:=60) (n:=30) (by kernel_rfl)
theorem ayF:CC gk [.str Bu,.int .i64 9]=some [.int .i64 aH.r0,.int .i64 aH.r1,.list ai aH.r2,.bool true,.str Bu,.int .i64 13]:=aG (N:=60) (n:=30) (by kernel_rfl)
theorem Yx:nc aH:=⟨ahu,ayy,ayz,ayA,ayB,ayC,by decide,by unfold fp;decide,by unfold fp;decide,by decide,by decide,by decide,by decide⟩
theorem Yq:nf Bu aH:=p6 (by decide) ayD ayE ayF (by decide) ahu
theorem ahv:CC mq (cS dP)=some [.int .i64 0]:=aG (N:=60) (n:=30) (by kernel_rfl)
theorem ayG:CC fO [.int .i64 dP.l0,.int .i64 dP.l1,.list ai dP.l2]=some [.list bG (dP.p.map cg)]:=aG (N:=60) (n:=30) (by kernel_rfl)
theorem ayH:CC fO [.int .i64 dP.r0,.int .i64 dP.r1,.list ai dP.r2]=some [.list bG (dP.q.map cg)]:=aG (N:=60) (n:=30) (by kernel_rfl)
theorem ayI:CC gE ([.int .i64 dP.l0,.int .i64 dP.l1,.list ai dP.l2,.int .i64 0,.int .i64 0,.list ai []]++cU (fun _=>false) (fun _=>false))=some (cU dP.o1 dP.e1):=aG (N:=60) (n:=30) (by kernel_rfl)
theorem ayJ:CC gE ([.int .i64 dP.r0,.int .i64 dP.r1,.list ai dP.r2,.int .i64 0,.int .i64 0,.list ai []]++cU dP.o1 dP.e1)=some (cU dP.bC dP.bD):=aG (N:=60) (n:=30) (by kernel_rfl)
theorem ayK:CC nH [.list ai [.agg [.int .i64 dP.l0,.int .i64 dP.l1,.list ai dP.l2],.agg [.int .i64 dP.r0,.int .i64 dP.r1,.list ai dP.r2]]]=some [.int .i64 (dP.nv:Int)]:=aG (N:=60) (n:=30) (by kernel_rfl)
theorem ayL:CC gk [.str Bv,.int .i64 0]=some [.int .i64 dP.l0,.int .i64 dP.l1,.list ai dP.l2,.bool true,.str Bv,.int .i64 4]:=aG (N:=60) (n:=30) (by kernel_rfl)
theorem ayM:CC nJ [.int .u8 61,.str Bv,.int .i64 4]=some [.bool true,.str Bv,.int .i64 5]:=aG (N:=60) (n:=30) (by kernel_rfl)
theorem ayN:CC gk [.str Bv,.int .i64 5]=some [.int .i64 dP.r0,.int .i64 dP.r1,.list ai dP.r2,.bool true,.str Bv,.int .i64 7]:=aG (N:=60) (n:=30) (by kernel_rfl)
theorem Yy:nc dP:=⟨ahv,ayG,ayH,ayI,ayJ,ayK,by decide,by unfold fp;decide,by unfold fp;decide,by decide,by decide,by decide,by decide⟩
theorem Yr:nf Bv dP:=p6 (by decide) ayL ayM ayN (by decide) ahv
theorem ahw:CC mq (cS eU)=some [.int .i64 0]:=aG (N:=60) (n:=30) (by kernel_rfl)
theorem ayO:CC fO [.int .i64 eU.l0,.int .i64 eU.l1,.list ai eU.l2]=some [.list bG (eU.p.map cg)]:=aG (N:=60) (n:=30) (by kernel_rfl)
theorem ayP:CC fO [.int .i64 eU.r0,.int .i64 eU.r1,.list ai eU.r2]=some [.list bG (eU.q.map cg)]:=aG (N:=60) (n:=30) (by kernel_rfl)
theorem ayQ:CC gE ([.int .i64 eU.l0,.int .i64 eU.l1,.list ai eU.l2,.int .i64 0,.int .i64 0,.list ai []]++cU (fun _=>false) (fun _=>false))=some (cU eU.o1 eU.e1):=aG (N:=60) (n:=30) (by kernel_rfl)
theorem ayR:CC gE ([.int .i64 eU.r0,.int .i64 eU.r1,.list ai eU.r2,.int .i64 0,.int .i64 0,.list ai []]++cU eU.o1 eU.e1)=some (cU eU.bC eU.bD):=aG (N:=60) (n:=30) (by kernel_rfl)
theorem ayS:CC nH [.list ai [.agg [.int .i64 eU.l0,.int .i64 eU.l1,.list ai eU.l2],.agg [.int .i64 eU.r0,.int .i64 eU.r1,.list ai eU.r2]]]=some [.int .i64 (eU.nv:Int)]:=aG (N:=60) (n:=30) (by kernel_rfl)
theorem ayT:CC gk [.str Bw,.int .i64 0]=some [.int .i64 eU.l0,.int .i64 eU.l1,.list ai eU.l2,.bool true,.str Bw,.int .i64 3]:=aG (N:=60) (n:=30) (by kernel_rfl)
theorem ayU:CC nJ [.int .u8 61,.str Bw,.int .i64 3]=some [.bool true,.str Bw,.int .i64 4]:=aG (N:=60) (n:=30) (by kernel_rfl)
theorem ayV:CC gk [.str Bw,.int .i64 4]=some [.int .i64 eU.r0,.int .i64 eU.r1,.list ai eU.r2,.bool true,.str Bw,.int .i64 6]:=aG (N:=60) (n:=30) (by kernel_rfl)
theorem aiQ:nc eU:=⟨ahw,ayO,ayP,ayQ,ayR,ayS,by decide,by unfold fp;decide,by unfold fp;decide,by decide,by decide,by decide,by decide⟩
theorem aiy:nf Bw eU:=p6 (by decide) ayT ayU ayV (by decide) ahw
theorem ahx:CC mq (cS ep)=some [.int .i64 0]:=aG (N:=60) (n:=30) (by kernel_rfl)
theorem ayW:CC fO [.int .i64 ep.l0,.int .i64 ep.l1,.list ai ep.l2]=some [.list bG (ep.p.map cg)]:=aG (N:=60) (n:=30) (by kernel_rfl)
theorem ayX:CC fO [.int .i64 ep.r0,.int .i64 ep.r1,.list ai ep.r2]=some [.list bG (ep.q.map cg)]:=aG (N:=60) (n:=30) (by kernel_rfl)
theorem ayY:CC gE ([.int .i64 ep.l0,.int .i64 ep.l1,.list ai ep.l2,.int .i64 0,.int .i64 0,.list ai []]++cU (fun _=>false) (fun _=>false))=some (cU ep.o1 ep.e1):=aG (N:=60) (n:=30) (by kernel_rfl)
theorem ayZ:CC gE ([.int .i64 ep.r0,.int .i64 ep.r1,.list ai ep.r2,.int .i64 0,.int .i64 0,.list ai []]++cU ep.o1 ep.e1)=some (cU ep.bC ep.bD):=aG (N:=60) (n:=30) (by kernel_rfl)
theorem ay0:CC nH [.list ai [.agg [.int .i64 ep.l0,.int .i64 ep.l1,.list ai ep.l2],.agg [.int .i64 ep.r0,.int .i64 ep.r1,.list ai ep.r2]]]=some [.int .i64 (ep.nv:Int)]:=aG (N:=60) (n:=30) (by kernel_rfl)
theorem ay1:CC gk [.str Bx,.int .i64 0]=some [.int .i64 ep.l0,.int .i64 ep.l1,.list ai ep.l2,.bool true,.str Bx,.int .i64 8]:=aG (N:=60) (n:=30) (by kernel_rfl)
theorem ay2:CC nJ [.int .u8 61,.str Bx,.int .i64 8]=some [.bool true,.str Bx,.int .i64 9]:=aG (N:=60) (n:=30) (by kernel_rfl)
theorem ay3:CC gk [.str Bx,.int .i64 9]=some [.int .i64 ep.r0,.int .i64 ep.r1,.list ai ep.r2,.bool true,.str Bx,.int .i64 16]:=aG (N:=60) (n:=30) (by kernel_rfl)
theorem Yz:nc ep:=⟨ahx,ayW,ayX,ayY,ayZ,ay0,by decide,by unfold fp;decide,by unfold fp;decide,by decide,by decide,by decide,by decide⟩
theorem Ys:nf Bx ep:=p6 (by decide) ay1 ay2 ay3 (by decide) ahx
theorem ahy:CC mq (cS et)=some [.int .i64 0]:=aG (N:=60) (n:=30) (by kernel_rfl)
theorem ay4:CC fO [.int .i64 et.l0,.int .i64 et.l1,.list ai et.l2]=some [.list bG (et.p.map cg)]:=aG (N:=60) (n:=30) (by kernel_rfl)
theorem ay5:CC fO [.int .i64 et.r0,.int .i64 et.r1,.list ai et.r2]=some [.list bG (et.q.map cg)]:=aG (N:=60) (n:=30) (by kernel_rfl)
theorem ay6:CC gE ([.int .i64 et.l0,.int .i64 et.l1,.list ai et.l2,.int .i64 0,.int .i64 0,.list ai []]++cU (fun _=>false) (fun _=>false))=some (cU et.o1 et.e1):=aG (N:=60) (n:=30) (by kernel_rfl)
theorem ay7:CC gE ([.int .i64 et.r0,.int .i64 et.r1,.list ai et.r2,.int .i64 0,.int .i64 0,.list ai []]++cU et.o1 et.e1)=some (cU et.bC et.bD):=aG (N:=60) (n:=30) (by kernel_rfl)
theorem ay8:CC nH [.list ai [.agg [.int .i64 et.l0,.int .i64 et.l1,.list ai et.l2],.agg [.int .i64 et.r0,.int .i64 et.r1,.list ai et.r2]]]=some [.int .i64 (et.nv:Int)]:=aG (N:=60) (n:=30) (by kernel_rfl)
theorem ay9:CC gk [.str By,.int .i64 0]=some [.int .i64 et.l0,.int .i64 et.l1,.list ai et.l2,.bool true,.str By,.int .i64 8]:=aG (N:=60) (n:=30) (by kernel_rfl)
theorem aza:CC nJ [.int .u8 61,.str By,.int .i64 8]=some [.bool true,.str By,.int .i64 9]:=aG (N:=60) (n:=30) (by kernel_rfl)
theorem azb:CC gk [.str By,.int .i64 9]=some [.int .i64 et.r0,.int .i64 et.r1,.list ai et.r2,.bool true,.str By,.int .i64 16]:=aG (N:=60) (n:=30) (by kernel_rfl)
theorem YA:nc et:=⟨ahy,ay4,ay5,ay6,ay7,ay8,by decide,by unfold fp;decide,by unfold fp;decide,by decide,by decide,by decide,by decide⟩
theorem Yt:nf By et:=p6 (by decide) ay9 aza azb (by decide) ahy
theorem ahz:CC mq (cS eV)=some [.int .i64 0]:=aG (N:=60) (n:=30) (by kernel_rfl)
theorem azc:CC fO [.int .i64 eV.l0,.int .i64 eV.l1,.list ai eV.l2]=some [.list bG (eV.p.map cg)]:=aG (N:=60) (n:=30) (by kernel_rfl)
theorem azd:CC fO [.int .i64 eV.r0,.int .i64 eV.r1,.list ai eV.r2]=some [.list bG (eV.q.map cg)]:=aG (N:=60) (n:=30) (by kernel_rfl)
theorem aze:CC gE ([.int .i64 eV.l0,.int .i64 eV.l1,.list ai eV.l2,.int .i64 0,.int .i64 0,.list ai []]++cU (fun _=>false) (fun _=>false))=some (cU eV.o1 eV.e1):=aG (N:=60) (n:=30) (by kernel_rfl)
theorem azf:CC gE ([.int .i64 eV.r0,.int .i64 eV.r1,.list ai eV.r2,.int .i64 0,.int .i64 0,.list ai []]++cU eV.o1 eV.e1)=some (cU eV.bC eV.bD):=aG (N:=60) (n:=30) (by kernel_rfl)
theorem azg:CC nH [.list ai [.agg [.int .i64 eV.l0,.int .i64 eV.l1,.list ai eV.l2],.agg [.int .i64 eV.r0,.int .i64 eV.r1,.list ai eV.r2]]]=some [.int .i64 (eV.nv:Int)]:=aG (N:=60) (n:=30) (by kernel_rfl)
theorem azh:CC gk [.str Bz,.int .i64 0]=some [.int .i64 eV.l0,.int .i64 eV.l1,.list ai eV.l2,.bool true,.str Bz,.int .i64 14]:=aG (N:=60) (n:=30) (by kernel_rfl)
theorem azi:CC nJ [.int .u8 61,.str Bz,.int .i64 14]=some [.bool true,.str Bz,.int .i64 15]:=aG (N:=60) (n:=30) (by kernel_rfl)
theorem azj:CC gk [.str Bz,.int .i64 15]=some [.int .i64 eV.r0,.int .i64 eV.r1,.list ai eV.r2,.bool true,.str Bz,.int .i64 22]:=aG (N:=60) (n:=30) (by kernel_rfl)
theorem aiR:nc eV:=⟨ahz,azc,azd,aze,azf,azg,by decide,by unfold fp;decide,by unfold fp;decide,by decide,by decide,by decide,by decide⟩
theorem aiF:nf Bz eV:=p6 (by decide) azh azi azj (by decide) ahz
end Go.AM
