/-
  Functions of the program, lifted to plain data.
-/
import Derived.Test.YtjmolnomobmkdaaGreatDoorP8
set_option linter.unusedVariables false
set_option linter.unusedSimpArgs false
set_option linter.unusedSectionVars false
set_option maxRecDepth 100000
namespace Go.AM
open Go.Proofs
theorem ahA:CC mq (cS eu)=some [.int .i64 0]:=aG (N:=60) (n:=30) (by kernel_rfl)
theorem azk:CC fO [.int .i64 eu.l0,.int .i64 eu.l1,.list ai eu.l2]=some [.list bG (eu.p.map cg)]:=aG (N:=60) (n:=30) (by kernel_rfl)
theorem azl:CC fO [.int .i64 eu.r0,.int .i64 eu.r1,.list ai eu.r2]=some [.list bG (eu.q.map cg)]:=aG (N:=60) (n:=30) (by kernel_rfl)
theorem azm:CC gE ([.int .i64 eu.l0,.int .i64 eu.l1,.list ai eu.l2,.int .i64 0,.int .i64 0,.list ai []]++cU (fun _=>false) (fun _=>false))=some (cU eu.o1 eu.e1):=aG (N:=60) (n:=30) (by kernel_rfl)
theorem azn:CC gE ([.int .i64 eu.r0,.int .i64 eu.r1,.list ai eu.r2,.int .i64 0,.int .i64 0,.list ai []]++cU eu.o1 eu.e1)=some (cU eu.bC eu.bD):=aG (N:=60) (n:=30) (by kernel_rfl)
theorem azo:CC nH [.list ai [.agg [.int .i64 eu.l0,.int .i64 eu.l1,.list ai eu.l2],.agg [.int .i64 eu.r0,.int .i64 eu.r1,.list ai eu.r2]]]=some [.int .i64 (eu.nv:Int)]:=aG (N:=60) (n:=30) (by kernel_rfl)
theorem azp:CC gk [.str BA,.int .i64 0]=some [.int .i64 eu.l0,.int .i64 eu.l1,.list ai eu.l2,.bool true,.str BA,.int .i64 5]:=aG (N:=60) (n:=30) (by kernel_rfl)
theorem azq:CC nJ [.int .u8 61,.str BA,.int .i64 5]=some [.bool true,.str BA,.int .i64 6]:=aG (N:=60) (n:=30) (by kernel_rfl)
theorem azr:CC gk [.str BA,.int .i64 6]=some [.int .i64 eu.r0,.int .i64 eu.r1,.list ai eu.r2,.bool true,.str BA,.int .i64 10]:=aG (N:=60) (n:=30) (by kernel_rfl)
theorem YB:nc eu:=⟨ahA,azk,azl,azm,azn,azo,by decide,by unfold fp;decide,by unfold fp;decide,by decide,by decide,by decide,by decide⟩
theorem Yu:nf BA eu:=p6 (by decide) azp azq azr (by decide) ahA
theorem ahB:CC mq (cS ew)=some [.int .i64 0]:=aG (N:=60) (n:=30) (by kernel_rfl)
theorem azs:CC fO [.int .i64 ew.l0,.int .i64 ew.l1,.list ai ew.l2]=some [.list bG (ew.p.map cg)]:=aG (N:=60) (n:=30) (by kernel_rfl)
theorem azt:CC fO [.int .i64 ew.r0,.int .i64 ew.r1,.list ai ew.r2]=some [.list bG (ew.q.map cg)]:=aG (N:=60) (n:=30) (by kernel_rfl)
theorem azu:CC gE ([.int .i64 ew.l0,.int .i64 ew.l1,.list ai ew.l2,.int .i64 0,.int .i64 0,.list ai []]++cU (fun _=>false) (fun _=>false))=some (cU ew.o1 ew.e1):=aG (N:=60) (n:=30) (by kernel_rfl)
theorem azv:CC gE ([.int .i64 ew.r0,.int .i64 ew.r1,.list ai ew.r2,.int .i64 0,.int .i64 0,.list ai []]++cU ew.o1 ew.e1)=some (cU ew.bC ew.bD):=aG (N:=60) (n:=30) (by kernel_rfl)
theorem azw:CC nH [.list ai [.agg [.int .i64 ew.l0,.int .i64 ew.l1,.list ai ew.l2],.agg [.int .i64 ew.r0,.int .i64 ew.r1,.list ai ew.r2]]]=some [.int .i64 (ew.nv:Int)]:=aG (N:=60) (n:=30) (by kernel_rfl)
theorem azx:CC gk [.str BB,.int .i64 0]=some [.int .i64 ew.l0,.int .i64 ew.l1,.list ai ew.l2,.bool true,.str BB,.int .i64 5]:=aG (N:=60) (n:=30) (by kernel_rfl)
theorem azy:CC nJ [.int .u8 61,.str BB,.int .i64 5]=some [.bool true,.str BB,.int .i64 6]:=aG (N:=60) (n:=30) (by kernel_rfl)
theorem azz:CC gk [.str BB,.int .i64 6]=some [.int .i64 ew.r0,.int .i64 ew.r1,.list ai ew.r2,.bool true,.str BB,.int .i64 10]:=aG (N:=60) (n:=30) (by kernel_rfl)
theorem YC:nc ew:=⟨ahB,azs,azt,azu,azv,azw,by decide,by unfold fp;decide,by unfold fp;decide,by decide,by decide,by decide,by decide⟩
theorem Yv:nf BB ew:=p6 (by decide) azx azy azz (by decide) ahB
theorem ahC:CC mq (cS eW)=some [.int .i64 0]:=aG (N:=60) (n:=30) (by kernel_rfl)
theorem azA:CC fO [.int .i64 eW.l0,.int .i64 eW.l1,.list ai eW.l2]=some [.list bG (eW.p.map cg)]:=aG (N:=60) (n:=30) (by kernel_rfl)
theorem azB:CC fO [.int .i64 eW.r0,.int .i64 eW.r1,.list ai eW.r2]=some [.list bG (eW.q.map cg)]:=aG (N:=60) (n:=30) (by kernel_rfl)
theorem azC:CC gE ([.int .i64 eW.l0,.int .i64 eW.l1,.list ai eW.l2,.int .i64 0,.int .i64 0,.list ai []]++cU (fun _=>false) (fun _=>false))=some (cU eW.o1 eW.e1):=aG (N:=60) (n:=30) (by kernel_rfl)
theorem azD:CC gE ([.int .i64 eW.r0,.int .i64 eW.r1,.list ai eW.r2,.int .i64 0,.int .i64 0,.list ai []]++cU eW.o1 eW.e1)=some (cU eW.bC eW.bD):=aG (N:=60) (n:=30) (by kernel_rfl)
theorem azE:CC nH [.list ai [.agg [.int .i64 eW.l0,.int .i64 eW.l1,.list ai eW.l2],.agg [.int .i64 eW.r0,.int .i64 eW.r1,.list ai eW.r2]]]=some [.int .i64 (eW.nv:Int)]:=aG (N:=60) (n:=30) (by kernel_rfl)
theorem azF:CC gk [.str BC,.int .i64 0]=some [.int .i64 eW.l0,.int .i64 eW.l1,.list ai eW.l2,.bool true,.str BC,.int .i64 8]:=aG (N:=60) (n:=30) (by kernel_rfl)
theorem azG:CC nJ [.int .u8 61,.str BC,.int .i64 8]=some [.bool true,.str BC,.int .i64 9]:=aG (N:=60) (n:=30) (by kernel_rfl)
theorem azH:CC gk [.str BC,.int .i64 9]=some [.int .i64 eW.r0,.int .i64 eW.r1,.list ai eW.r2,.bool true,.str BC,.int .i64 13]:=aG (N:=60) (n:=30) (by kernel_rfl)
theorem aiS:nc eW:=⟨ahC,azA,azB,azC,azD,azE,by decide,by unfold fp;decide,by unfold fp;decide,by decide,by decide,by decide,by decide⟩
theorem aiK:nf BC eW:=p6 (by decide) azF azG azH (by decide) ahC
theorem ahD:CC mq (cS eX)=some [.int .i64 0]:=aG (N:=60) (n:=30) (by kernel_rfl)
theorem azI:CC fO [.int .i64 eX.l0,.int .i64 eX.l1,.list ai eX.l2]=some [.list bG (eX.p.map cg)]:=aG (N:=60) (n:=30) (by kernel_rfl)
theorem azJ:CC fO [.int .i64 eX.r0,.int .i64 eX.r1,.list ai eX.r2]=some [.list bG (eX.q.map cg)]:=aG (N:=60) (n:=30) (by kernel_rfl)
theorem azK:CC gE ([.int .i64 eX.l0,.int .i64 eX.l1,.list ai eX.l2,.int .i64 0,.int .i64 0,.list ai []]++cU (fun _=>false) (fun _=>false))=some (cU eX.o1 eX.e1):=aG (N:=60) (n:=30) (by kernel_rfl)
theorem azL:CC gE ([.int .i64 eX.r0,.int .i64 eX.r1,.list ai eX.r2,.int .i64 0,.int .i64 0,.list ai []]++cU eX.o1 eX.e1)=some (cU eX.bC eX.bD):=aG (N:=60) (n:=30) (by kernel_rfl)
theorem azM:CC nH [.list ai [.agg [.int .i64 eX.l0,.int .i64 eX.l1,.list ai eX.l2],.agg [.int .i64 eX.r0,.int .i64 eX.r1,.list ai eX.r2]]]=some [.int .i64 (eX.nv:Int)]:=aG (N:=60) (n:=30) (by kernel_rfl)
theorem azN:CC gk [.str BD,.int .i64 0]=some [.int .i64 eX.l0,.int .i64 eX.l1,.list ai eX.l2,.bool true,.str BD,.int .i64 12]:=aG (N:=60) (n:=30) (by kernel_rfl)
theorem azO:CC nJ [.int .u8 61,.str BD,.int .i64 12]=some [.bool true,.str BD,.int .i64 13]:=aG (N:=60) (n:=30) (by kernel_rfl)
theorem azP:CC gk [.str BD,.int .i64 13]=some [.int .i64 eX.r0,.int .i64 eX.r1,.list ai eX.r2,.bool true,.str BD,.int .i64 21]:=aG (N:=60) (n:=30) (by kernel_rfl)
theorem aiT:nc eX:=⟨ahD,azI,azJ,azK,azL,azM,by decide,by unfold fp;decide,by unfold fp;decide,by decide,by decide,by decide,by decide⟩
theorem aiM:nf BD eX:=p6 (by decide) azN azO azP (by decide) ahD
theorem ahE:CC mq (cS eY)=some [.int .i64 0]:=aG (N:=60) (n:=30) (by kernel_rfl)
theorem azQ:CC fO [.int .i64 eY.l0,.int .i64 eY.l1,.list ai eY.l2]=some [.list bG (eY.p.map cg)]:=aG (N:=60) (n:=30) (by kernel_rfl)
theorem azR:CC fO [.int .i64 eY.r0,.int .i64 eY.r1,.list ai eY.r2]=some [.list bG (eY.q.map cg)]:=aG (N:=60) (n:=30) (by kernel_rfl)
theorem azS:CC gE ([.int .i64 eY.l0,.int .i64 eY.l1,.list ai eY.l2,.int .i64 0,.int .i64 0,.list ai []]++cU (fun _=>false) (fun _=>false))=some (cU eY.o1 eY.e1):=aG (N:=60) (n:=30) (by kernel_rfl)
theorem azT:CC gE ([.int .i64 eY.r0,.int .i64 eY.r1,.list ai eY.r2,.int .i64 0,.int .i64 0,.list ai []]++cU eY.o1 eY.e1)=some (cU eY.bC eY.bD):=aG (N:=60) (n:=30) (by kernel_rfl)
theorem azU:CC nH [.list ai [.agg [.int .i64 eY.l0,.int .i64 eY.l1,.list ai eY.l2],.agg [.int .i64 eY.r0,.int .i64 eY.r1,.list ai eY.r2]]]=some [.int .i64 (eY.nv:Int)]:=aG (N:=60) (n:=30) (by kernel_rfl)
theorem azV:CC gk [.str BE,.int .i64 0]=some [.int .i64 eY.l0,.int .i64 eY.l1,.list ai eY.l2,.bool true,.str BE,.int .i64 12]:=aG (N:=60) (n:=30) (by kernel_rfl)
theorem azW:CC nJ [.int .u8 61,.str BE,.int .i64 12]=some [.bool true,.str BE,.int .i64 13]:=aG (N:=60) (n:=30) (by kernel_rfl)
theorem azX:CC gk [.str BE,.int .i64 13]=some [.int .i64 eY.r0,.int .i64 eY.r1,.list ai eY.r2,.bool true,.str BE,.int .i64 25]:=aG (N:=60) (n:=30) (by kernel_rfl)
theorem aiU:nc eY:=⟨ahE,azQ,azR,azS,azT,azU,by decide,by unfold fp;decide,by unfold fp;decide,by decide,by decide,by decide,by decide⟩
theorem aiN:nf BE eY:=p6 (by decide) azV azW azX (by decide) ahE
end Go.AM
