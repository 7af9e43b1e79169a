/-
  Functions of the program, lifted to plain data.
-/
import Derived.Test.YtbpldbfoleicgaaGreatDoorP7
set_option linter.unusedVariables false
set_option linter.unusedSimpArgs false
set_option linter.unusedSectionVars false
set_option maxRecDepth 100000
namespace Go.AM
open Go.Proofs
theorem afm:CC lU (cJ eH)=some [.int .i64 0]:=aD (N:=60) (n:=30) (by kernel_rfl)
theorem avH:CC fF [.int .i64 eH.l0,.int .i64 eH.l1,.list ai eH.l2]=some [.list bA (eH.p.map cb)]:=aD (N:=60) (n:=30) (by kernel_rfl)
theorem avI:CC fF [.int .i64 eH.r0,.int .i64 eH.r1,.list ai eH.r2]=some [.list bA (eH.q.map cb)]:=aD (N:=60) (n:=30) (by kernel_rfl)
theorem avJ:CC gv ([.int .i64 eH.l0,.int .i64 eH.l1,.list ai eH.l2,.int .i64 0,.int .i64 0,.list ai []]++cP (fun _=>false) (fun _=>false))=some (cP eH.o1 eH.e1):=aD (N:=60) (n:=30) (by kernel_rfl)
theorem avK:CC gv ([.int .i64 eH.r0,.int .i64 eH.r1,.list ai eH.r2,.int .i64 0,.int .i64 0,.list ai []]++cP eH.o1 eH.e1)=some (cP eH.cQ eH.cT):=aD (N:=60) (n:=30) (by kernel_rfl)
theorem avL:CC mZ [.list ai [.agg [.int .i64 eH.l0,.int .i64 eH.l1,.list ai eH.l2],.agg [.int .i64 eH.r0,.int .i64 eH.r1,.list ai eH.r2]]]=some [.int .i64 (eH.nv:Int)]:=aD (N:=60) (n:=30) (by kernel_rfl)
theorem avM:CC ga [.str Ar,.int .i64 0]=some [.int .i64 eH.l0,.int .i64 eH.l1,.list ai eH.l2,.bool true,.str Ar,.int .i64 2]:=aD (N:=60) (n:=30) (by kernel_rfl)
theorem avN:CC na [.int .u8 61,.str Ar,.int .i64 2]=some [.bool true,.str Ar,.int .i64 3]:=aD (N:=60) (n:=30) (by kernel_rfl)
theorem avO:CC ga [.str Ar,.int .i64 3]=some [.int .i64 eH.r0,.int .i64 eH.r1,.list ai eH.r2,.bool true,.str Ar,.int .i64 5]:=aD (N:=60) (n:=30) (by kernel_rfl)
theorem agM:nT eH:=⟨afm,avH,avI,avJ,avK,avL,by decide,by unfold fy;decide,by unfold fy;decide,by decide,by decide,by decide,by decide⟩
theorem ago:mB Ar eH:=o4 (by decide) avM avN avO (by decide) afm
theorem afn:CC lU (cJ dq)=some [.int .i64 0]:=aD (N:=60) (n:=30) (by kernel_rfl)
theorem avP:CC fF [.int .i64 dq.l0,.int .i64 dq.l1,.list ai dq.l2]=some [.list bA (dq.p.map cb)]:=aD (N:=60) (n:=30) (by kernel_rfl)
theorem avQ:CC fF [.int .i64 dq.r0,.int .i64 dq.r1,.list ai dq.r2]=some [.list bA (dq.q.map cb)]:=aD (N:=60) (n:=30) (by kernel_rfl)
theorem avR:CC gv ([.int .i64 dq.l0,.int .i64 dq.l1,.list ai dq.l2,.int .i64 0,.int .i64 0,.list ai []]++cP (fun _=>false) (fun _=>false))=some (cP dq.o1 dq.e1):=aD (N:=60) (n:=30) (by kernel_rfl)
theorem avS:CC gv ([.int .i64 dq.r0,.int .i64 dq.r1,.list ai dq.r2,.int .i64 0,.int .i64 0,.list ai []]++cP dq.o1 dq.e1)=some (cP dq.cQ dq.cT):=aD (N:=60) (n:=30) (by kernel_rfl)
theorem avT:CC mZ [.list ai [.agg [.int .i64 dq.l0,.int .i64 dq.l1,.list ai dq.l2],.agg [.int .i64 dq.r0,.int .i64 dq.r1,.list ai dq.r2]]]=some [.int .i64 (dq.nv:Int)]:=aD (N:=60) (n:=30) (by kernel_rfl)
theorem avU:CC ga [.str As,.int .i64 0]=some [.int .i64 dq.l0,.int .i64 dq.l1,.list ai dq.l2,.bool true,.str As,.int .i64 3]:=aD (N:=60) (n:=30) (by kernel_rfl)
theorem avV:CC na [.int .u8 61,.str As,.int .i64 3]=some [.bool true,.str As,.int .i64 4]:=aD (N:=60) (n:=30) (by kernel_rfl)
theorem avW:CC ga [.str As,.int .i64 4]=some [.int .i64 dq.r0,.int .i64 dq.r1,.list ai dq.r2,.bool true,.str As,.int .i64 7]:=aD (N:=60) (n:=30) (by kernel_rfl)
theorem Jz:nT dq:=⟨afn,avP,avQ,avR,avS,avT,by decide,by unfold fy;decide,by unfold fy;decide,by decide,by decide,by decide,by decide⟩
theorem Jx:mB As dq:=o4 (by decide) avU avV avW (by decide) afn
theorem afo:CC lU (cJ aH)=some [.int .i64 0]:=aD (N:=60) (n:=30) (by kernel_rfl)
theorem avX:CC fF [.int .i64 aH.l0,.int .i64 aH.l1,.list ai aH.l2]=some [.list bA (aH.p.map cb)]:=aD (N:=60) (n:=30) (by kernel_rfl)
theorem avY:CC fF [.int .i64 aH.r0,.int .i64 aH.r1,.list ai aH.r2]=some [.list bA (aH.q.map cb)]:=aD (N:=60) (n:=30) (by kernel_rfl)
theorem avZ:CC gv ([.int .i64 aH.l0,.int .i64 aH.l1,.list ai aH.l2,.int .i64 0,.int .i64 0,.list ai []]++cP (fun _=>false) (fun _=>false))=some (cP aH.o1 aH.e1):=aD (N:=60) (n:=30) (by kernel_rfl)
theorem av0:CC gv ([.int .i64 aH.r0,.int .i64 aH.r1,.list ai aH.r2,.int .i64 0,.int .i64 0,.list ai []]++cP aH.o1 aH.e1)=some (cP aH.cQ aH.cT):=aD (N:=60) (n:=30) (by kernel_rfl)
theorem av1:CC mZ [.list ai [.agg [.int .i64 aH.l0,.int .i64 aH.l1,.list ai aH.l2],.agg [.int .i64 aH.r0,.int .i64 aH.r1,.list ai aH.r2]]]=some [.int .i64 (aH.nv:Int)]:=aD (N:=60) (n:=30) (by kernel_rfl)
theorem av2:CC ga [.str Au,.int .i64 0]=some [.int .i64 aH.l0,.int .i64 aH.l1,.list ai aH.l2,.bool true,.str Au,.int .i64 8]:=aD (N:=60) (n:=30) (by kernel_rfl)
theorem av3:CC na [.int .u8 61,.str Au,.int .i64 8]=some [.bool true,.str Au,.int .i64 9]:=aD (N:=60) (n:=30) (by kernel_rfl)
theorem av4:CC ga [.str Au,.int .i64 9]=some [.int .i64 aH.r0,.int .i64 aH.r1,.list ai aH.r2,.bool true,.str Au,.int .i64 13]:=aD (N:=60) (n:=30) (by kernel_rfl)
theorem Wx:nT aH:=⟨afo,avX,avY,avZ,av0,av1,by decide,by unfold fy;decide,by unfold fy;decide,by decide,by decide,by decide,by decide⟩
theorem Wr:mB Au aH:=o4 (by decide) av2 av3 av4 (by decide) afo
theorem afp:CC lU (cJ dJ)=some [.int .i64 0]:=aD (N:=60) (n:=30) (by kernel_rfl)
theorem av5:CC fF [.int .i64 dJ.l0,.int .i64 dJ.l1,.list ai dJ.l2]=some [.list bA (dJ.p.map cb)]:=aD (N:=60) (n:=30) (by kernel_rfl)
theorem av6:CC fF [.int .i64 dJ.r0,.int .i64 dJ.r1,.list ai dJ.r2]=some [.list bA (dJ.q.map cb)]:=aD (N:=60) (n:=30) (by kernel_rfl)
theorem av7:CC gv ([.int .i64 dJ.l0,.int .i64 dJ.l1,.list ai dJ.l2,.int .i64 0,.int .i64 0,.list ai []]++cP (fun _=>false) (fun _=>false))=some (cP dJ.o1 dJ.e1):=aD (N:=60) (n:=30) (by kernel_rfl)
theorem av8:CC gv ([.int .i64 dJ.r0,.int .i64 dJ.r1,.list ai dJ.r2,.int .i64 0,.int .i64 0,.list ai []]++cP dJ.o1 dJ.e1)=some (cP dJ.cQ dJ.cT):=aD (N:=60) (n:=30) (by kernel_rfl)
theorem av9:CC mZ [.list ai [.agg [.int .i64 dJ.l0,.int .i64 dJ.l1,.list ai dJ.l2],.agg [.int .i64 dJ.r0,.int .i64 dJ.r1,.list ai dJ.r2]]]=some [.int .i64 (dJ.nv:Int)]:=aD (N:=60) (n:=30) (by kernel_rfl)
theorem awa:CC ga [.str Av,.int .i64 0]=some [.int .i64 dJ.l0,.int .i64 dJ.l1,.list ai dJ.l2,.bool true,.str Av,.int .i64 4]:=aD (N:=60) (n:=30) (by kernel_rfl)
theorem awb:CC na [.int .u8 61,.str Av,.int .i64 4]=some [.bool true,.str Av,.int .i64 5]:=aD (N:=60) (n:=30) (by kernel_rfl)
theorem awc:CC ga [.str Av,.int .i64 5]=some [.int .i64 dJ.r0,.int .i64 dJ.r1,.list ai dJ.r2,.bool true,.str Av,.int .i64 7]:=aD (N:=60) (n:=30) (by kernel_rfl)
theorem Wy:nT dJ:=⟨afp,av5,av6,av7,av8,av9,by decide,by unfold fy;decide,by unfold fy;decide,by decide,by decide,by decide,by decide⟩
theorem Ws:mB Av dJ:=o4 (by decide) awa awb awc (by decide) afp
theorem afq:CC lU (cJ eI)=some [.int .i64 0]:=aD (N:=60) (n:=30) (by kernel_rfl)
theorem awd:CC fF [.int .i64 eI.l0,.int .i64 eI.l1,.list ai eI.l2]=some [.list bA (eI.p.map cb)]:=aD (N:=60) (n:=30) (by kernel_rfl)
theorem awe:CC fF [.int .i64 eI.r0,.int .i64 eI.r1,.list ai eI.r2]=some [.list bA (eI.q.map cb)]:=aD (N:=60) (n:=30) (by kernel_rfl)
theorem awf:CC gv ([.int .i64 eI.l0,.int .i64 eI.l1,.list ai eI.l2,.int .i64 0,.int .i64 0,.list ai []]++cP (fun _=>false) (fun _=>false))=some (cP eI.o1 eI.e1):=aD (N:=60) (n:=30) (by kernel_rfl)
theorem awg:CC gv ([.int .i64 eI.r0,.int .i64 eI.r1,.list ai eI.r2,.int .i64 0,.int .i64 0,.list ai []]++cP eI.o1 eI.e1)=some (cP eI.cQ eI.cT):=aD (N:=60) (n:=30) (by kernel_rfl)
theorem awh:CC mZ [.list ai [.agg [.int .i64 eI.l0,.int .i64 eI.l1,.list ai eI.l2],.agg [.int .i64 eI.r0,.int .i64 eI.r1,.list ai eI.r2]]]=some [.int .i64 (eI.nv:Int)]:=aD (N:=60) (n:=30) (by kernel_rfl)
theorem awi:CC ga [.str Aw,.int .i64 0]=some [.int .i64 eI.l0,.int .i64 eI.l1,.list ai eI.l2,.bool true,.str Aw,.int .i64 3]:=aD (N:=60) (n:=30) (by kernel_rfl)
theorem awj:CC na [.int .u8 61,.str Aw,.int .i64 3]=some [.bool true,.str Aw,.int .i64 4]:=aD (N:=60) (n:=30) (by kernel_rfl)
theorem awk:CC ga [.str Aw,.int .i64 4]=some [.int .i64 eI.r0,.int .i64 eI.r1,.list ai eI.r2,.bool true,.str Aw,.int .i64 6]:=aD (N:=60) (n:=30) (by kernel_rfl)
theorem agN:nT eI:=⟨afq,awd,awe,awf,awg,awh,by decide,by unfold fy;decide,by unfold fy;decide,by decide,by decide,by decide,by decide⟩
theorem agt:mB Aw eI:=o4 (by decide) awi awj awk (by decide) afq
theorem afr:CC lU (cJ en)=some [.int .i64 0]:=aD (N:=60) (n:=30) (by kernel_rfl)
theorem awl:CC fF [.int .i64 en.l0,.int .i64 en.l1,.list ai en.l2]=some [.list bA (en.p.map cb)]:=aD (N:=60) (n:=30) (by kernel_rfl)
theorem awm:CC fF [.int .i64 en.r0,.int .i64 en.r1,.list ai en.r2]=some [.list bA (en.q.map cb)]:=aD (N:=60) (n:=30) (by kernel_rfl)
theorem awn:CC gv ([.int .i64 en.l0,.int .i64 en.l1,.list ai en.l2,.int .i64 0,.int .i64 0,.list ai []]++cP (fun _=>false) (fun _=>false))=some (cP en.o1 en.e1):=aD (N:=60) (n:=30) (by kernel_rfl)
theorem awo:CC gv ([.int .i64 en.r0,.int .i64 en.r1,.list ai en.r2,.int .i64 0,.int .i64 0,.list ai []]++cP en.o1 en.e1)=some (cP en.cQ en.cT):=aD (N:=60) (n:=30) (by kernel_rfl)
theorem awp:CC mZ [.list ai [.agg [.int .i64 en.l0,.int .i64 en.l1,.list ai en.l2],.agg [.int .i64 en.r0,.int .i64 en.r1,.list ai en.r2]]]=some [.int .i64 (en.nv:Int)]:=aD (N:=60) (n:=30) (by kernel_rfl)
theorem awq:CC ga [.str Ax,.int .i64 0]=some [.int .i64 en.l0,.int .i64 en.l1,.list ai en.l2,.bool true,.str Ax,.int .i64 8]:=aD (N:=60) (n:=30) (by kernel_rfl)
theorem awr:CC na [.int .u8 61,.str Ax,.int .i64 8]=some [.bool true,.str Ax,.int .i64 9]:=aD (N:=60) (n:=30) (by kernel_rfl)
theorem aws:CC ga [.str Ax,.int .i64 9]=some [.int .i64 en.r0,.int .i64 en.r1,.list ai en.r2,.bool true,.str Ax,.int .i64 16]:=aD (N:=60) (n:=30) (by kernel_rfl)
theorem Wz:nT en:=⟨afr,awl,awm,awn,awo,awp,by decide,by unfold fy;decide,by unfold fy;decide,by decide,by decide,by decide,by decide⟩
theorem Wt:mB Ax en:=o4 (by decide) awq awr aws (by decide) afr
theorem afs:CC lU (cJ eo)=some [.int .i64 0]:=aD (N:=60) (n:=30) (by kernel_rfl)
theorem awt:CC fF [.int .i64 eo.l0,.int .i64 eo.l1,.list ai eo.l2]=some [.list bA (eo.p.map cb)]:=aD (N:=60) (n:=30) (by kernel_rfl)
theorem awu:CC fF [.int .i64 eo.r0,.int .i64 eo.r1,.list ai eo.r2]=some [.list bA (eo.q.map cb)]:=aD (N:=60) (n:=30) (by kernel_rfl)
theorem awv:CC gv ([.int .i64 eo.l0,.int .i64 eo.l1,.list ai eo.l2,.int .i64 0,.int .i64 0,.list ai []]++cP (fun _=>false) (fun _=>false))=some (cP eo.o1 eo.e1):=aD (N:=60) (n:=30) (by kernel_rfl)
theorem aww:CC gv ([.int .i64 eo.r0,.int .i64 eo.r1,.list ai eo.r2,.int .i64 0,.int .i64 0,.list ai []]++cP eo.o1 eo.e1)=some (cP eo.cQ eo.cT):=aD (N:=60) (n:=30) (by kernel_rfl)
theorem awx:CC mZ [.list ai [.agg [.int .i64 eo.l0,.int .i64 eo.l1,.list ai eo.l2],.agg [.int .i64 eo.r0,.int .i64 eo.r1,.list ai eo.r2]]]=some [.int .i64 (eo.nv:Int)]:=aD (N:=60) (n:=30) (by kernel_rfl)
theorem awy:CC ga [.str Ay,.int .i64 0]=some [.int .i64 eo.l0,.int .i64 eo.l1,.list ai eo.l2,.bool true,.str Ay,.int .i64 8]:=aD (N:=60) (n:=30) (by kernel_rfl)
theorem awz:CC na [.int .u8 61,.str Ay,.int .i64 8]=some [.bool true,.str Ay,.int .i64 9]:=aD (N:=60) (n:=30) (by kernel_rfl)
theorem awA:CC ga [.str Ay,.int .i64 9]=some [.int .i64 eo.r0,.int .i64 eo.r1,.list ai eo.r2,.bool true,.str Ay,.int .i64 16]:=aD (N:=60) (n:=30) (by kernel_rfl)
theorem WA:nT eo:=⟨afs,awt,awu,awv,aww,awx,by decide,by unfold fy;decide,by unfold fy;decide,by decide,by decide,by decide,by decide⟩
theorem Wu:mB Ay eo:=o4 (by decide) awy awz awA (by decide) afs
theorem afu:CC lU (cJ eJ)=some [.int .i64 0]:=aD (N:=60) (n:=30) (by kernel_rfl)
theorem awB:CC fF [.int .i64 eJ.l0,.int .i64 eJ.l1,.list ai eJ.l2]=some [.list bA (eJ.p.map cb)]:=aD (N:=60) (n:=30) (by kernel_rfl)
theorem awC:CC fF [.int .i64 eJ.r0,.int .i64 eJ.r1,.list ai eJ.r2]=some [.list bA (eJ.q.map cb)]:=aD (N:=60) (n:=30) (by kernel_rfl)
theorem awD:CC gv ([.int .i64 eJ.l0,.int .i64 eJ.l1,.list ai eJ.l2,.int .i64 0,.int .i64 0,.list ai []]++cP (fun _=>false) (fun _=>false))=some (cP eJ.o1 eJ.e1):=aD (N:=60) (n:=30) (by kernel_rfl)
theorem awE:CC gv ([.int .i64 eJ.r0,.int .i64 eJ.r1,.list ai eJ.r2,.int .i64 0,.int .i64 0,.list ai []]++cP eJ.o1 eJ.e1)=some (cP eJ.cQ eJ.cT):=aD (N:=60) (n:=30) (by kernel_rfl)
theorem awF:CC mZ [.list ai [.agg [.int .i64 eJ.l0,.int .i64 eJ.l1,.list ai eJ.l2],.agg [.int .i64 eJ.r0,.int .i64 eJ.r1,.list ai eJ.r2]]]=some [.int .i64 (eJ.nv:Int)]:=aD (N:=60) (n:=30) (by kernel_rfl)
theorem awG:CC ga [.str Az,.int .i64 0]=some [.int .i64 eJ.l0,.int .i64 eJ.l1,.list ai eJ.l2,.bool true,.str Az,.int .i64 14]:=aD (N:=60) (n:=30) (by kernel_rfl)
theorem awH:CC na [.int .u8 61,.str Az,.int .i64 14]=some [.bool true,.str Az,.int .i64 15]:=aD (N:=60) (n:=30) (by kernel_rfl)
theorem awI:CC ga [.str Az,.int .i64 15]=some [.int .i64 eJ.r0,.int .i64 eJ.r1,.list ai eJ.r2,.bool true,.str Az,.int .i64 22]:=aD (N:=60) (n:=30) (by kernel_rfl)
theorem agO:nT eJ:=⟨afu,awB,awC,awD,awE,awF,by decide,by unfold fy;decide,by unfold fy;decide,by decide,by decide,by decide,by decide⟩
theorem agA:mB Az eJ:=o4 (by decide) awG awH awI (by decide) afu
end Go.AM
