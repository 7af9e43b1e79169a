/-
  Functions of the program, lifted to plain data.
-/
import Derived.Test.YtmdfofkbhepjaaaGreatDoorP7
set_option linter.unusedVariables false
set_option linter.unusedSimpArgs false
set_option linter.unusedSectionVars false
set_option maxRecDepth 100000
namespace Go.AM
open Go.Proofs
theorem agz:CC lY (cL eH)=some [.int .i64 0]:=aG (N:=60) (n:=30) (by kernel_rfl)
theorem axx:CC fI [.int .i64 eH.l0,.int .i64 eH.l1,.list ai eH.l2]=some [.list bG (eH.p.map cb)]:=aG (N:=60) (n:=30) (by kernel_rfl)
theorem axy:CC fI [.int .i64 eH.r0,.int .i64 eH.r1,.list ai eH.r2]=some [.list bG (eH.q.map cb)]:=aG (N:=60) (n:=30) (by kernel_rfl)
theorem axz:CC gy ([.int .i64 eH.l0,.int .i64 eH.l1,.list ai eH.l2,.int .i64 0,.int .i64 0,.list ai []]++cQ (fun _=>false) (fun _=>false))=some (cQ eH.o1 eH.e1):=aG (N:=60) (n:=30) (by kernel_rfl)
theorem axA:CC gy ([.int .i64 eH.r0,.int .i64 eH.r1,.list ai eH.r2,.int .i64 0,.int .i64 0,.list ai []]++cQ eH.o1 eH.e1)=some (cQ eH.cR eH.cU):=aG (N:=60) (n:=30) (by kernel_rfl)
theorem axB:CC nr [.list ai [.agg [.int .i64 eH.l0,.int .i64 eH.l1,.list ai eH.l2],.agg [.int .i64 eH.r0,.int .i64 eH.r1,.list ai eH.r2]]]=some [.int .i64 (eH.nv:Int)]:=aG (N:=60) (n:=30) (by kernel_rfl)
theorem axC:CC gg [.str A5,.int .i64 0]=some [.int .i64 eH.l0,.int .i64 eH.l1,.list ai eH.l2,.bool true,.str A5,.int .i64 2]:=aG (N:=60) (n:=30) (by kernel_rfl)
theorem axD:CC nt [.int .u8 61,.str A5,.int .i64 2]=some [.bool true,.str A5,.int .i64 3]:=aG (N:=60) (n:=30) (by kernel_rfl)
theorem axE:CC gg [.str A5,.int .i64 3]=some [.int .i64 eH.r0,.int .i64 eH.r1,.list ai eH.r2,.bool true,.str A5,.int .i64 5]:=aG (N:=60) (n:=30) (by kernel_rfl)
theorem ahX:oj eH:=⟨agz,axx,axy,axz,axA,axB,by decide,by unfold fC;decide,by unfold fC;decide,by decide,by decide,by decide,by decide⟩
theorem ahz:mK A5 eH:=pC (by decide) axC axD axE (by decide) agz
theorem agA:CC lY (cL dw)=some [.int .i64 0]:=aG (N:=60) (n:=30) (by kernel_rfl)
theorem axF:CC fI [.int .i64 dw.l0,.int .i64 dw.l1,.list ai dw.l2]=some [.list bG (dw.p.map cb)]:=aG (N:=60) (n:=30) (by kernel_rfl)
theorem axG:CC fI [.int .i64 dw.r0,.int .i64 dw.r1,.list ai dw.r2]=some [.list bG (dw.q.map cb)]:=aG (N:=60) (n:=30) (by kernel_rfl)
theorem axH:CC gy ([.int .i64 dw.l0,.int .i64 dw.l1,.list ai dw.l2,.int .i64 0,.int .i64 0,.list ai []]++cQ (fun _=>false) (fun _=>false))=some (cQ dw.o1 dw.e1):=aG (N:=60) (n:=30) (by kernel_rfl)
theorem axI:CC gy ([.int .i64 dw.r0,.int .i64 dw.r1,.list ai dw.r2,.int .i64 0,.int .i64 0,.list ai []]++cQ dw.o1 dw.e1)=some (cQ dw.cR dw.cU):=aG (N:=60) (n:=30) (by kernel_rfl)
theorem axJ:CC nr [.list ai [.agg [.int .i64 dw.l0,.int .i64 dw.l1,.list ai dw.l2],.agg [.int .i64 dw.r0,.int .i64 dw.r1,.list ai dw.r2]]]=some [.int .i64 (dw.nv:Int)]:=aG (N:=60) (n:=30) (by kernel_rfl)
theorem axK:CC gg [.str A6,.int .i64 0]=some [.int .i64 dw.l0,.int .i64 dw.l1,.list ai dw.l2,.bool true,.str A6,.int .i64 3]:=aG (N:=60) (n:=30) (by kernel_rfl)
theorem axL:CC nt [.int .u8 61,.str A6,.int .i64 3]=some [.bool true,.str A6,.int .i64 4]:=aG (N:=60) (n:=30) (by kernel_rfl)
theorem axM:CC gg [.str A6,.int .i64 4]=some [.int .i64 dw.r0,.int .i64 dw.r1,.list ai dw.r2,.bool true,.str A6,.int .i64 7]:=aG (N:=60) (n:=30) (by kernel_rfl)
theorem Kl:oj dw:=⟨agA,axF,axG,axH,axI,axJ,by decide,by unfold fC;decide,by unfold fC;decide,by decide,by decide,by decide,by decide⟩
theorem Kk:mK A6 dw:=pC (by decide) axK axL axM (by decide) agA
theorem agB:CC lY (cL aH)=some [.int .i64 0]:=aG (N:=60) (n:=30) (by kernel_rfl)
theorem axN:CC fI [.int .i64 aH.l0,.int .i64 aH.l1,.list ai aH.l2]=some [.list bG (aH.p.map cb)]:=aG (N:=60) (n:=30) (by kernel_rfl)
theorem axO:CC fI [.int .i64 aH.r0,.int .i64 aH.r1,.list ai aH.r2]=some [.list bG (aH.q.map cb)]:=aG (N:=60) (n:=30) (by kernel_rfl)
theorem axP:CC gy ([.int .i64 aH.l0,.int .i64 aH.l1,.list ai aH.l2,.int .i64 0,.int .i64 0,.list ai []]++cQ (fun _=>false) (fun _=>false))=some (cQ aH.o1 aH.e1):=aG (N:=60) (n:=30) (by kernel_rfl)
theorem axQ:CC gy ([.int .i64 aH.r0,.int .i64 aH.r1,.list ai aH.r2,.int .i64 0,.int .i64 0,.list ai []]++cQ aH.o1 aH.e1)=some (cQ aH.cR aH.cU):=aG (N:=60) (n:=30) (by kernel_rfl)
theorem axR:CC nr [.list ai [.agg [.int .i64 aH.l0,.int .i64 aH.l1,.list ai aH.l2],.agg [.int .i64 aH.r0,.int .i64 aH.r1,.list ai aH.r2]]]=some [.int .i64 (aH.nv:Int)]:=aG (N:=60) (n:=30) (by kernel_rfl)
theorem axS:CC gg [.str A7,.int .i64 0]=some [.int .i64 aH.l0,.int .i64 aH.l1,.list ai aH.l2,.bool true,.str A7,.int .i64 8]:=aG (N:=60) (n:=30) (by kernel_rfl)
theorem axT:CC nt [.int .u8 61,.str A7,.int .i64 8]=some [.bool true,.str A7,.int .i64 9]:=aG (N:=60) (n:=30) (by kernel_rfl)
theorem axU:CC gg [.str A7,.int .i64 9]=some [.int .i64 aH.r0,.int .i64 aH.r1,.list ai aH.r2,.bool true,.str A7,.int .i64 13]:=aG (N:=60) (n:=30) (by kernel_rfl)
theorem XM:oj aH:=⟨agB,axN,axO,axP,axQ,axR,by decide,by unfold fC;decide,by unfold fC;decide,by decide,by decide,by decide,by decide⟩
theorem XG:mK A7 aH:=pC (by decide) axS axT axU (by decide) agB
theorem agC:CC lY (cL dO)=some [.int .i64 0]:=aG (N:=60) (n:=30) (by kernel_rfl)
theorem axV:CC fI [.int .i64 dO.l0,.int .i64 dO.l1,.list ai dO.l2]=some [.list bG (dO.p.map cb)]:=aG (N:=60) (n:=30) (by kernel_rfl)
theorem axW:CC fI [.int .i64 dO.r0,.int .i64 dO.r1,.list ai dO.r2]=some [.list bG (dO.q.map cb)]:=aG (N:=60) (n:=30) (by kernel_rfl)
theorem axX:CC gy ([.int .i64 dO.l0,.int .i64 dO.l1,.list ai dO.l2,.int .i64 0,.int .i64 0,.list ai []]++cQ (fun _=>false) (fun _=>false))=some (cQ dO.o1 dO.e1):=aG (N:=60) (n:=30) (by kernel_rfl)
theorem axY:CC gy ([.int .i64 dO.r0,.int .i64 dO.r1,.list ai dO.r2,.int .i64 0,.int .i64 0,.list ai []]++cQ dO.o1 dO.e1)=some (cQ dO.cR dO.cU):=aG (N:=60) (n:=30) (by kernel_rfl)
theorem axZ:CC nr [.list ai [.agg [.int .i64 dO.l0,.int .i64 dO.l1,.list ai dO.l2],.agg [.int .i64 dO.r0,.int .i64 dO.r1,.list ai dO.r2]]]=some [.int .i64 (dO.nv:Int)]:=aG (N:=60) (n:=30) (by kernel_rfl)
theorem ax0:CC gg [.str A8,.int .i64 0]=some [.int .i64 dO.l0,.int .i64 dO.l1,.list ai dO.l2,.bool true,.str A8,.int .i64 4]:=aG (N:=60) (n:=30) (by kernel_rfl)
theorem ax1:CC nt [.int .u8 61,.str A8,.int .i64 4]=some [.bool true,.str A8,.int .i64 5]:=aG (N:=60) (n:=30) (by kernel_rfl)
theorem ax2:CC gg [.str A8,.int .i64 5]=some [.int .i64 dO.r0,.int .i64 dO.r1,.list ai dO.r2,.bool true,.str A8,.int .i64 7]:=aG (N:=60) (n:=30) (by kernel_rfl)
theorem XN:oj dO:=⟨agC,axV,axW,axX,axY,axZ,by decide,by unfold fC;decide,by unfold fC;decide,by decide,by decide,by decide,by decide⟩
theorem XH:mK A8 dO:=pC (by decide) ax0 ax1 ax2 (by decide) agC
theorem agD:CC lY (cL eI)=some [.int .i64 0]:=aG (N:=60) (n:=30) (by kernel_rfl)
theorem ax3:CC fI [.int .i64 eI.l0,.int .i64 eI.l1,.list ai eI.l2]=some [.list bG (eI.p.map cb)]:=aG (N:=60) (n:=30) (by kernel_rfl)
theorem ax4:CC fI [.int .i64 eI.r0,.int .i64 eI.r1,.list ai eI.r2]=some [.list bG (eI.q.map cb)]:=aG (N:=60) (n:=30) (by kernel_rfl)
theorem ax5:CC gy ([.int .i64 eI.l0,.int .i64 eI.l1,.list ai eI.l2,.int .i64 0,.int .i64 0,.list ai []]++cQ (fun _=>false) (fun _=>false))=some (cQ eI.o1 eI.e1):=aG (N:=60) (n:=30) (by kernel_rfl)
theorem ax6:CC gy ([.int .i64 eI.r0,.int .i64 eI.r1,.list ai eI.r2,.int .i64 0,.int .i64 0,.list ai []]++cQ eI.o1 eI.e1)=some (cQ eI.cR eI.cU):=aG (N:=60) (n:=30) (by kernel_rfl)
theorem ax7:CC nr [.list ai [.agg [.int .i64 eI.l0,.int .i64 eI.l1,.list ai eI.l2],.agg [.int .i64 eI.r0,.int .i64 eI.r1,.list ai eI.r2]]]=some [.int .i64 (eI.nv:Int)]:=aG (N:=60) (n:=30) (by kernel_rfl)
theorem ax8:CC gg [.str A9,.int .i64 0]=some [.int .i64 eI.l0,.int .i64 eI.l1,.list ai eI.l2,.bool true,.str A9,.int .i64 3]:=aG (N:=60) (n:=30) (by kernel_rfl)
theorem ax9:CC nt [.int .u8 61,.str A9,.int .i64 3]=some [.bool true,.str A9,.int .i64 4]:=aG (N:=60) (n:=30) (by kernel_rfl)
theorem aya:CC gg [.str A9,.int .i64 4]=some [.int .i64 eI.r0,.int .i64 eI.r1,.list ai eI.r2,.bool true,.str A9,.int .i64 6]:=aG (N:=60) (n:=30) (by kernel_rfl)
theorem ahY:oj eI:=⟨agD,ax3,ax4,ax5,ax6,ax7,by decide,by unfold fC;decide,by unfold fC;decide,by decide,by decide,by decide,by decide⟩
theorem ahE:mK A9 eI:=pC (by decide) ax8 ax9 aya (by decide) agD
theorem agE:CC lY (cL eh)=some [.int .i64 0]:=aG (N:=60) (n:=30) (by kernel_rfl)
theorem ayb:CC fI [.int .i64 eh.l0,.int .i64 eh.l1,.list ai eh.l2]=some [.list bG (eh.p.map cb)]:=aG (N:=60) (n:=30) (by kernel_rfl)
theorem ayc:CC fI [.int .i64 eh.r0,.int .i64 eh.r1,.list ai eh.r2]=some [.list bG (eh.q.map cb)]:=aG (N:=60) (n:=30) (by kernel_rfl)
theorem ayd:CC gy ([.int .i64 eh.l0,.int .i64 eh.l1,.list ai eh.l2,.int .i64 0,.int .i64 0,.list ai []]++cQ (fun _=>false) (fun _=>false))=some (cQ eh.o1 eh.e1):=aG (N:=60) (n:=30) (by kernel_rfl)
theorem aye:CC gy ([.int .i64 eh.r0,.int .i64 eh.r1,.list ai eh.r2,.int .i64 0,.int .i64 0,.list ai []]++cQ eh.o1 eh.e1)=some (cQ eh.cR eh.cU):=aG (N:=60) (n:=30) (by kernel_rfl)
theorem ayf:CC nr [.list ai [.agg [.int .i64 eh.l0,.int .i64 eh.l1,.list ai eh.l2],.agg [.int .i64 eh.r0,.int .i64 eh.r1,.list ai eh.r2]]]=some [.int .i64 (eh.nv:Int)]:=aG (N:=60) (n:=30) (by kernel_rfl)
theorem ayg:CC gg [.str Ba,.int .i64 0]=some [.int .i64 eh.l0,.int .i64 eh.l1,.list ai eh.l2,.bool true,.str Ba,.int .i64 8]:=aG (N:=60) (n:=30) (by kernel_rfl)
theorem ayh:CC nt [.int .u8 61,.str Ba,.int .i64 8]=some [.bool true,.str Ba,.int .i64 9]:=aG (N:=60) (n:=30) (by kernel_rfl)
theorem ayi:CC gg [.str Ba,.int .i64 9]=some [.int .i64 eh.r0,.int .i64 eh.r1,.list ai eh.r2,.bool true,.str Ba,.int .i64 16]:=aG (N:=60) (n:=30) (by kernel_rfl)
theorem XO:oj eh:=⟨agE,ayb,ayc,ayd,aye,ayf,by decide,by unfold fC;decide,by unfold fC;decide,by decide,by decide,by decide,by decide⟩
theorem XI:mK Ba eh:=pC (by decide) ayg ayh ayi (by decide) agE
theorem agF:CC lY (cL ei)=some [.int .i64 0]:=aG (N:=60) (n:=30) (by kernel_rfl)
theorem ayj:CC fI [.int .i64 ei.l0,.int .i64 ei.l1,.list ai ei.l2]=some [.list bG (ei.p.map cb)]:=aG (N:=60) (n:=30) (by kernel_rfl)
theorem ayk:CC fI [.int .i64 ei.r0,.int .i64 ei.r1,.list ai ei.r2]=some [.list bG (ei.q.map cb)]:=aG (N:=60) (n:=30) (by kernel_rfl)
theorem ayl:CC gy ([.int .i64 ei.l0,.int .i64 ei.l1,.list ai ei.l2,.int .i64 0,.int .i64 0,.list ai []]++cQ (fun _=>false) (fun _=>false))=some (cQ ei.o1 ei.e1):=aG (N:=60) (n:=30) (by kernel_rfl)
theorem aym:CC gy ([.int .i64 ei.r0,.int .i64 ei.r1,.list ai ei.r2,.int .i64 0,.int .i64 0,.list ai []]++cQ ei.o1 ei.e1)=some (cQ ei.cR ei.cU):=aG (N:=60) (n:=30) (by kernel_rfl)
theorem ayn:CC nr [.list ai [.agg [.int .i64 ei.l0,.int .i64 ei.l1,.list ai ei.l2],.agg [.int .i64 ei.r0,.int .i64 ei.r1,.list ai ei.r2]]]=some [.int .i64 (ei.nv:Int)]:=aG (N:=60) (n:=30) (by kernel_rfl)
theorem ayo:CC gg [.str Bb,.int .i64 0]=some [.int .i64 ei.l0,.int .i64 ei.l1,.list ai ei.l2,.bool true,.str Bb,.int .i64 8]:=aG (N:=60) (n:=30) (by kernel_rfl)
theorem ayp:CC nt [.int .u8 61,.str Bb,.int .i64 8]=some [.bool true,.str Bb,.int .i64 9]:=aG (N:=60) (n:=30) (by kernel_rfl)
theorem ayq:CC gg [.str Bb,.int .i64 9]=some [.int .i64 ei.r0,.int .i64 ei.r1,.list ai ei.r2,.bool true,.str Bb,.int .i64 16]:=aG (N:=60) (n:=30) (by kernel_rfl)
theorem XP:oj ei:=⟨agF,ayj,ayk,ayl,aym,ayn,by decide,by unfold fC;decide,by unfold fC;decide,by decide,by decide,by decide,by decide⟩
theorem XJ:mK Bb ei:=pC (by decide) ayo ayp ayq (by decide) agF
theorem agG:CC lY (cL eJ)=some [.int .i64 0]:=aG (N:=60) (n:=30) (by kernel_rfl)
theorem ayr:CC fI [.int .i64 eJ.l0,.int .i64 eJ.l1,.list ai eJ.l2]=some [.list bG (eJ.p.map cb)]:=aG (N:=60) (n:=30) (by kernel_rfl)
theorem ays:CC fI [.int .i64 eJ.r0,.int .i64 eJ.r1,.list ai eJ.r2]=some [.list bG (eJ.q.map cb)]:=aG (N:=60) (n:=30) (by kernel_rfl)
theorem ayt:CC gy ([.int .i64 eJ.l0,.int .i64 eJ.l1,.list ai eJ.l2,.int .i64 0,.int .i64 0,.list ai []]++cQ (fun _=>false) (fun _=>false))=some (cQ eJ.o1 eJ.e1):=aG (N:=60) (n:=30) (by kernel_rfl)
theorem ayu:CC gy ([.int .i64 eJ.r0,.int .i64 eJ.r1,.list ai eJ.r2,.int .i64 0,.int .i64 0,.list ai []]++cQ eJ.o1 eJ.e1)=some (cQ eJ.cR eJ.cU):=aG (N:=60) (n:=30) (by kernel_rfl)
theorem ayv:CC nr [.list ai [.agg [.int .i64 eJ.l0,.int .i64 eJ.l1,.list ai eJ.l2],.agg [.int .i64 eJ.r0,.int .i64 eJ.r1,.list ai eJ.r2]]]=some [.int .i64 (eJ.nv:Int)]:=aG (N:=60) (n:=30) (by kernel_rfl)
theorem ayw:CC gg [.str Bc,.int .i64 0]=some [.int .i64 eJ.l0,.int .i64 eJ.l1,.list ai eJ.l2,.bool true,.str Bc,.int .i64 14]:=aG (N:=60) (n:=30) (by kernel_rfl)
theorem ayx:CC nt [.int .u8 61,.str Bc,.int .i64 14]=some [.bool true,.str Bc,.int .i64 15]:=aG (N:=60) (n:=30) (by kernel_rfl)
theorem ayy:CC gg [.str Bc,.int .i64 15]=some [.int .i64 eJ.r0,.int .i64 eJ.r1,.list ai eJ.r2,.bool true,.str Bc,.int .i64 22]:=aG (N:=60) (n:=30) (by kernel_rfl)
theorem ahZ:oj eJ:=⟨agG,ayr,ays,ayt,ayu,ayv,by decide,by unfold fC;decide,by unfold fC;decide,by decide,by decide,by decide,by decide⟩
theorem ahL:mK Bc eJ:=pC (by decide) ayw ayx ayy (by decide) agG
end Go.AM
