/-
  Functions of the program, lifted to plain data.
-/
import Derived.Test.YtmdfofkbhepjaaaGreatDoorP7
set_option linter.unusedVariables false
set_option linter.unusedSimpArgs false
set_option linter.unusedSectionVars false
set_option maxRecDepth 100000
namespace Go.AM
open Go.Proofs
theorem agA:CC lY (cL eH)=some [.int .i64 0]:=aG (N:=60) (n:=30) (by kernel_rfl)
theorem axD:CC fI [.int .i64 eH.l0,.int .i64 eH.l1,.list ai eH.l2]=some [.list bG (eH.p.map cb)]:=aG (N:=60) (n:=30) (by kernel_rfl)
theorem axE:CC fI [.int .i64 eH.r0,.int .i64 eH.r1,.list ai eH.r2]=some [.list bG (eH.q.map cb)]:=aG (N:=60) (n:=30) (by kernel_rfl)
theorem axF:CC gy ([.int .i64 eH.l0,.int .i64 eH.l1,.list ai eH.l2,.int .i64 0,.int .i64 0,.list ai []]++cQ (fun _=>false) (fun _=>false))=some (cQ eH.o1 eH.e1):=aG (N:=60) (n:=30) (by kernel_rfl)
theorem axG:CC gy ([.int .i64 eH.r0,.int .i64 eH.r1,.list ai eH.r2,.int .i64 0,.int .i64 0,.list ai []]++cQ eH.o1 eH.e1)=some (cQ eH.cR eH.cU):=aG (N:=60) (n:=30) (by kernel_rfl)
theorem axH:CC nr [.list ai [.agg [.int .i64 eH.l0,.int .i64 eH.l1,.list ai eH.l2],.agg [.int .i64 eH.r0,.int .i64 eH.r1,.list ai eH.r2]]]=some [.int .i64 (eH.nv:Int)]:=aG (N:=60) (n:=30) (by kernel_rfl)
theorem axI:CC gg [.str A5,.int .i64 0]=some [.int .i64 eH.l0,.int .i64 eH.l1,.list ai eH.l2,.bool true,.str A5,.int .i64 2]:=aG (N:=60) (n:=30) (by kernel_rfl)
theorem axJ:CC nt [.int .u8 61,.str A5,.int .i64 2]=some [.bool true,.str A5,.int .i64 3]:=aG (N:=60) (n:=30) (by kernel_rfl)
theorem axK:CC gg [.str A5,.int .i64 3]=some [.int .i64 eH.r0,.int .i64 eH.r1,.list ai eH.r2,.bool true,.str A5,.int .i64 5]:=aG (N:=60) (n:=30) (by kernel_rfl)
theorem ahY:oj eH:=⟨agA,axD,axE,axF,axG,axH,by decide,by unfold fC;decide,by unfold fC;decide,by decide,by decide,by decide,by decide⟩
theorem ahA:mK A5 eH:=pC (by decide) axI axJ axK (by decide) agA
theorem agB:CC lY (cL dx)=some [.int .i64 0]:=aG (N:=60) (n:=30) (by kernel_rfl)
theorem axL:CC fI [.int .i64 dx.l0,.int .i64 dx.l1,.list ai dx.l2]=some [.list bG (dx.p.map cb)]:=aG (N:=60) (n:=30) (by kernel_rfl)
theorem axM:CC fI [.int .i64 dx.r0,.int .i64 dx.r1,.list ai dx.r2]=some [.list bG (dx.q.map cb)]:=aG (N:=60) (n:=30) (by kernel_rfl)
theorem axN:CC gy ([.int .i64 dx.l0,.int .i64 dx.l1,.list ai dx.l2,.int .i64 0,.int .i64 0,.list ai []]++cQ (fun _=>false) (fun _=>false))=some (cQ dx.o1 dx.e1):=aG (N:=60) (n:=30) (by kernel_rfl)
theorem axO:CC gy ([.int .i64 dx.r0,.int .i64 dx.r1,.list ai dx.r2,.int .i64 0,.int .i64 0,.list ai []]++cQ dx.o1 dx.e1)=some (cQ dx.cR dx.cU):=aG (N:=60) (n:=30) (by kernel_rfl)
theorem axP:CC nr [.list ai [.agg [.int .i64 dx.l0,.int .i64 dx.l1,.list ai dx.l2],.agg [.int .i64 dx.r0,.int .i64 dx.r1,.list ai dx.r2]]]=some [.int .i64 (dx.nv:Int)]:=aG (N:=60) (n:=30) (by kernel_rfl)
theorem axQ:CC gg [.str A6,.int .i64 0]=some [.int .i64 dx.l0,.int .i64 dx.l1,.list ai dx.l2,.bool true,.str A6,.int .i64 3]:=aG (N:=60) (n:=30) (by kernel_rfl)
theorem axR:CC nt [.int .u8 61,.str A6,.int .i64 3]=some [.bool true,.str A6,.int .i64 4]:=aG (N:=60) (n:=30) (by kernel_rfl)
theorem axS:CC gg [.str A6,.int .i64 4]=some [.int .i64 dx.r0,.int .i64 dx.r1,.list ai dx.r2,.bool true,.str A6,.int .i64 7]:=aG (N:=60) (n:=30) (by kernel_rfl)
theorem Km:oj dx:=⟨agB,axL,axM,axN,axO,axP,by decide,by unfold fC;decide,by unfold fC;decide,by decide,by decide,by decide,by decide⟩
theorem Kl:mK A6 dx:=pC (by decide) axQ axR axS (by decide) agB
theorem agC:CC lY (cL aH)=some [.int .i64 0]:=aG (N:=60) (n:=30) (by kernel_rfl)
theorem axT:CC fI [.int .i64 aH.l0,.int .i64 aH.l1,.list ai aH.l2]=some [.list bG (aH.p.map cb)]:=aG (N:=60) (n:=30) (by kernel_rfl)
theorem axU:CC fI [.int .i64 aH.r0,.int .i64 aH.r1,.list ai aH.r2]=some [.list bG (aH.q.map cb)]:=aG (N:=60) (n:=30) (by kernel_rfl)
theorem axV:CC gy ([.int .i64 aH.l0,.int .i64 aH.l1,.list ai aH.l2,.int .i64 0,.int .i64 0,.list ai []]++cQ (fun _=>false) (fun _=>false))=some (cQ aH.o1 aH.e1):=aG (N:=60) (n:=30) (by kernel_rfl)
theorem axW:CC gy ([.int .i64 aH.r0,.int .i64 aH.r1,.list ai aH.r2,.int .i64 0,.int .i64 0,.list ai []]++cQ aH.o1 aH.e1)=some (cQ aH.cR aH.cU):=aG (N:=60) (n:=30) (by kernel_rfl)
theorem axX:CC nr [.list ai [.agg [.int .i64 aH.l0,.int .i64 aH.l1,.list ai aH.l2],.agg [.int .i64 aH.r0,.int .i64 aH.r1,.list ai aH.r2]]]=some [.int .i64 (aH.nv:Int)]:=aG (N:=60) (n:=30) (by kernel_rfl)
theorem axY:CC gg [.str A7,.int .i64 0]=some [.int .i64 aH.l0,.int .i64 aH.l1,.list ai aH.l2,.bool true,.str A7,.int .i64 8]:=aG (N:=60) (n:=30) (by kernel_rfl)
theorem axZ:CC nt [.int .u8 61,.str A7,.int .i64 8]=some [.bool true,.str A7,.int .i64 9]:=aG (N:=60) (n:=30) (by kernel_rfl)
theorem ax0:CC gg [.str A7,.int .i64 9]=some [.int .i64 aH.r0,.int .i64 aH.r1,.list ai aH.r2,.bool true,.str A7,.int .i64 13]:=aG (N:=60) (n:=30) (by kernel_rfl)
theorem XO:oj aH:=⟨agC,axT,axU,axV,axW,axX,by decide,by unfold fC;decide,by unfold fC;decide,by decide,by decide,by decide,by decide⟩
theorem XI:mK A7 aH:=pC (by decide) axY axZ ax0 (by decide) agC
theorem agD:CC lY (cL dO)=some [.int .i64 0]:=aG (N:=60) (n:=30) (by kernel_rfl)
theorem ax1:CC fI [.int .i64 dO.l0,.int .i64 dO.l1,.list ai dO.l2]=some [.list bG (dO.p.map cb)]:=aG (N:=60) (n:=30) (by kernel_rfl)
theorem ax2:CC fI [.int .i64 dO.r0,.int .i64 dO.r1,.list ai dO.r2]=some [.list bG (dO.q.map cb)]:=aG (N:=60) (n:=30) (by kernel_rfl)
theorem ax3:CC gy ([.int .i64 dO.l0,.int .i64 dO.l1,.list ai dO.l2,.int .i64 0,.int .i64 0,.list ai []]++cQ (fun _=>false) (fun _=>false))=some (cQ dO.o1 dO.e1):=aG (N:=60) (n:=30) (by kernel_rfl)
theorem ax4:CC gy ([.int .i64 dO.r0,.int .i64 dO.r1,.list ai dO.r2,.int .i64 0,.int .i64 0,.list ai []]++cQ dO.o1 dO.e1)=some (cQ dO.cR dO.cU):=aG (N:=60) (n:=30) (by kernel_rfl)
theorem ax5:CC nr [.list ai [.agg [.int .i64 dO.l0,.int .i64 dO.l1,.list ai dO.l2],.agg [.int .i64 dO.r0,.int .i64 dO.r1,.list ai dO.r2]]]=some [.int .i64 (dO.nv:Int)]:=aG (N:=60) (n:=30) (by kernel_rfl)
theorem ax6:CC gg [.str A8,.int .i64 0]=some [.int .i64 dO.l0,.int .i64 dO.l1,.list ai dO.l2,.bool true,.str A8,.int .i64 4]:=aG (N:=60) (n:=30) (by kernel_rfl)
theorem ax7:CC nt [.int .u8 61,.str A8,.int .i64 4]=some [.bool true,.str A8,.int .i64 5]:=aG (N:=60) (n:=30) (by kernel_rfl)
theorem ax8:CC gg [.str A8,.int .i64 5]=some [.int .i64 dO.r0,.int .i64 dO.r1,.list ai dO.r2,.bool true,.str A8,.int .i64 7]:=aG (N:=60) (n:=30) (by kernel_rfl)
theorem XP:oj dO:=⟨agD,ax1,ax2,ax3,ax4,ax5,by decide,by unfold fC;decide,by unfold fC;decide,by decide,by decide,by decide,by decide⟩
theorem XJ:mK A8 dO:=pC (by decide) ax6 ax7 ax8 (by decide) agD
theorem agE:CC lY (cL eI)=some [.int .i64 0]:=aG (N:=60) (n:=30) (by kernel_rfl)
theorem ax9:CC fI [.int .i64 eI.l0,.int .i64 eI.l1,.list ai eI.l2]=some [.list bG (eI.p.map cb)]:=aG (N:=60) (n:=30) (by kernel_rfl)
theorem aya:CC fI [.int .i64 eI.r0,.int .i64 eI.r1,.list ai eI.r2]=some [.list bG (eI.q.map cb)]:=aG (N:=60) (n:=30) (by kernel_rfl)
theorem ayb:CC gy ([.int .i64 eI.l0,.int .i64 eI.l1,.list ai eI.l2,.int .i64 0,.int .i64 0,.list ai []]++cQ (fun _=>false) (fun _=>false))=some (cQ eI.o1 eI.e1):=aG (N:=60) (n:=30) (by kernel_rfl)
theorem ayc:CC gy ([.int .i64 eI.r0,.int .i64 eI.r1,.list ai eI.r2,.int .i64 0,.int .i64 0,.list ai []]++cQ eI.o1 eI.e1)=some (cQ eI.cR eI.cU):=aG (N:=60) (n:=30) (by kernel_rfl)
theorem ayd:CC nr [.list ai [.agg [.int .i64 eI.l0,.int .i64 eI.l1,.list ai eI.l2],.agg [.int .i64 eI.r0,.int .i64 eI.r1,.list ai eI.r2]]]=some [.int .i64 (eI.nv:Int)]:=aG (N:=60) (n:=30) (by kernel_rfl)
theorem aye:CC gg [.str A9,.int .i64 0]=some [.int .i64 eI.l0,.int .i64 eI.l1,.list ai eI.l2,.bool true,.str A9,.int .i64 3]:=aG (N:=60) (n:=30) (by kernel_rfl)
theorem ayf:CC nt [.int .u8 61,.str A9,.int .i64 3]=some [.bool true,.str A9,.int .i64 4]:=aG (N:=60) (n:=30) (by kernel_rfl)
theorem ayg:CC gg [.str A9,.int .i64 4]=some [.int .i64 eI.r0,.int .i64 eI.r1,.list ai eI.r2,.bool true,.str A9,.int .i64 6]:=aG (N:=60) (n:=30) (by kernel_rfl)
theorem ahZ:oj eI:=⟨agE,ax9,aya,ayb,ayc,ayd,by decide,by unfold fC;decide,by unfold fC;decide,by decide,by decide,by decide,by decide⟩
theorem ahF:mK A9 eI:=pC (by decide) aye ayf ayg (by decide) agE
theorem agF:CC lY (cL eh)=some [.int .i64 0]:=aG (N:=60) (n:=30) (by kernel_rfl)
theorem ayh:CC fI [.int .i64 eh.l0,.int .i64 eh.l1,.list ai eh.l2]=some [.list bG (eh.p.map cb)]:=aG (N:=60) (n:=30) (by kernel_rfl)
theorem ayi:CC fI [.int .i64 eh.r0,.int .i64 eh.r1,.list ai eh.r2]=some [.list bG (eh.q.map cb)]:=aG (N:=60) (n:=30) (by kernel_rfl)
theorem ayj:CC gy ([.int .i64 eh.l0,.int .i64 eh.l1,.list ai eh.l2,.int .i64 0,.int .i64 0,.list ai []]++cQ (fun _=>false) (fun _=>false))=some (cQ eh.o1 eh.e1):=aG (N:=60) (n:=30) (by kernel_rfl)
theorem ayk:CC gy ([.int .i64 eh.r0,.int .i64 eh.r1,.list ai eh.r2,.int .i64 0,.int .i64 0,.list ai []]++cQ eh.o1 eh.e1)=some (cQ eh.cR eh.cU):=aG (N:=60) (n:=30) (by kernel_rfl)
theorem ayl:CC nr [.list ai [.agg [.int .i64 eh.l0,.int .i64 eh.l1,.list ai eh.l2],.agg [.int .i64 eh.r0,.int .i64 eh.r1,.list ai eh.r2]]]=some [.int .i64 (eh.nv:Int)]:=aG (N:=60) (n:=30) (by kernel_rfl)
theorem aym:CC gg [.str Ba,.int .i64 0]=some [.int .i64 eh.l0,.int .i64 eh.l1,.list ai eh.l2,.bool true,.str Ba,.int .i64 8]:=aG (N:=60) (n:=30) (by kernel_rfl)
theorem ayn:CC nt [.int .u8 61,.str Ba,.int .i64 8]=some [.bool true,.str Ba,.int .i64 9]:=aG (N:=60) (n:=30) (by kernel_rfl)
theorem ayo:CC gg [.str Ba,.int .i64 9]=some [.int .i64 eh.r0,.int .i64 eh.r1,.list ai eh.r2,.bool true,.str Ba,.int .i64 16]:=aG (N:=60) (n:=30) (by kernel_rfl)
theorem XQ:oj eh:=⟨agF,ayh,ayi,ayj,ayk,ayl,by decide,by unfold fC;decide,by unfold fC;decide,by decide,by decide,by decide,by decide⟩
theorem XK:mK Ba eh:=pC (by decide) aym ayn ayo (by decide) agF
theorem agG:CC lY (cL ei)=some [.int .i64 0]:=aG (N:=60) (n:=30) (by kernel_rfl)
theorem ayp:CC fI [.int .i64 ei.l0,.int .i64 ei.l1,.list ai ei.l2]=some [.list bG (ei.p.map cb)]:=aG (N:=60) (n:=30) (by kernel_rfl)
theorem ayq:CC fI [.int .i64 ei.r0,.int .i64 ei.r1,.list ai ei.r2]=some [.list bG (ei.q.map cb)]:=aG (N:=60) (n:=30) (by kernel_rfl)
theorem ayr:CC gy ([.int .i64 ei.l0,.int .i64 ei.l1,.list ai ei.l2,.int .i64 0,.int .i64 0,.list ai []]++cQ (fun _=>false) (fun _=>false))=some (cQ ei.o1 ei.e1):=aG (N:=60) (n:=30) (by kernel_rfl)
theorem ays:CC gy ([.int .i64 ei.r0,.int .i64 ei.r1,.list ai ei.r2,.int .i64 0,.int .i64 0,.list ai []]++cQ ei.o1 ei.e1)=some (cQ ei.cR ei.cU):=aG (N:=60) (n:=30) (by kernel_rfl)
theorem ayt:CC nr [.list ai [.agg [.int .i64 ei.l0,.int .i64 ei.l1,.list ai ei.l2],.agg [.int .i64 ei.r0,.int .i64 ei.r1,.list ai ei.r2]]]=some [.int .i64 (ei.nv:Int)]:=aG (N:=60) (n:=30) (by kernel_rfl)
theorem ayu:CC gg [.str Bb,.int .i64 0]=some [.int .i64 ei.l0,.int .i64 ei.l1,.list ai ei.l2,.bool true,.str Bb,.int .i64 8]:=aG (N:=60) (n:=30) (by kernel_rfl)
theorem ayv:CC nt [.int .u8 61,.str Bb,.int .i64 8]=some [.bool true,.str Bb,.int .i64 9]:=aG (N:=60) (n:=30) (by kernel_rfl)
theorem ayw:CC gg [.str Bb,.int .i64 9]=some [.int .i64 ei.r0,.int .i64 ei.r1,.list ai ei.r2,.bool true,.str Bb,.int .i64 16]:=aG (N:=60) (n:=30) (by kernel_rfl)
theorem XR:oj ei:=⟨agG,ayp,ayq,ayr,ays,ayt,by decide,by unfold fC;decide,by unfold fC;decide,by decide,by decide,by decide,by decide⟩
theorem XL:mK Bb ei:=pC (by decide) ayu ayv ayw (by decide) agG
theorem agH:CC lY (cL eJ)=some [.int .i64 0]:=aG (N:=60) (n:=30) (by kernel_rfl)
theorem ayx:CC fI [.int .i64 eJ.l0,.int .i64 eJ.l1,.list ai eJ.l2]=some [.list bG (eJ.p.map cb)]:=aG (N:=60) (n:=30) (by kernel_rfl)
theorem ayy:CC fI [.int .i64 eJ.r0,.int .i64 eJ.r1,.list ai eJ.r2]=some [.list bG (eJ.q.map cb)]:=aG (N:=60) (n:=30) (by kernel_rfl)
theorem ayz:CC gy ([.int .i64 eJ.l0,.int .i64 eJ.l1,.list ai eJ.l2,.int .i64 0,.int .i64 0,.list ai []]++cQ (fun _=>false) (fun _=>false))=some (cQ eJ.o1 eJ.e1):=aG (N:=60) (n:=30) (by kernel_rfl)
theorem ayA:CC gy ([.int .i64 eJ.r0,.int .i64 eJ.r1,.list ai eJ.r2,.int .i64 0,.int .i64 0,.list ai []]++cQ eJ.o1 eJ.e1)=some (cQ eJ.cR eJ.cU):=aG (N:=60) (n:=30) (by kernel_rfl)
theorem ayB:CC nr [.list ai [.agg [.int .i64 eJ.l0,.int .i64 eJ.l1,.list ai eJ.l2],.agg [.int .i64 eJ.r0,.int .i64 eJ.r1,.list ai eJ.r2]]]=some [.int .i64 (eJ.nv:Int)]:=aG (N:=60) (n:=30) (by kernel_rfl)
theorem ayC:CC gg [.str Bc,.int .i64 0]=some [.int .i64 eJ.l0,.int .i64 eJ.l1,.list ai eJ.l2,.bool true,.str Bc,.int .i64 14]:=aG (N:=60) (n:=30) (by kernel_rfl)
theorem ayD:CC nt [.int .u8 61,.str Bc,.int .i64 14]=some [.bool true,.str Bc,.int .i64 15]:=aG (N:=60) (n:=30) (by kernel_rfl)
theorem ayE:CC gg [.str Bc,.int .i64 15]=some [.int .i64 eJ.r0,.int .i64 eJ.r1,.list ai eJ.r2,.bool true,.str Bc,.int .i64 22]:=aG (N:=60) (n:=30) (by kernel_rfl)
theorem ah0:oj eJ:=⟨agH,ayx,ayy,ayz,ayA,ayB,by decide,by unfold fC;decide,by unfold fC;decide,by decide,by decide,by decide,by decide⟩
theorem ahM:mK Bc eJ:=pC (by decide) ayC ayD ayE (by decide) agH
end Go.AM
