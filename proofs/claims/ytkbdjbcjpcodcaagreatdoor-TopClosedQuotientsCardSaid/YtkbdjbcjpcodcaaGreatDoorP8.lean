/-
  Functions of the program, lifted to plain data.
-/
import Derived.Test.YtkbdjbcjpcodcaaGreatDoorP7
set_option linter.unusedVariables false
set_option linter.unusedSimpArgs false
set_option linter.unusedSectionVars false
set_option maxRecDepth 100000
namespace Go.AM
open Go.Proofs
theorem agG:CC me (cU eM)=some [.int .i64 0]:=aH (N:=60) (n:=30) (by kernel_rfl)
theorem axn:CC fP [.int .i64 eM.l0,.int .i64 eM.l1,.list ai eM.l2]=some [.list bJ (eM.p.map cp)]:=aH (N:=60) (n:=30) (by kernel_rfl)
theorem axo:CC fP [.int .i64 eM.r0,.int .i64 eM.r1,.list ai eM.r2]=some [.list bJ (eM.q.map cp)]:=aH (N:=60) (n:=30) (by kernel_rfl)
theorem axp:CC gB ([.int .i64 eM.l0,.int .i64 eM.l1,.list ai eM.l2,.int .i64 0,.int .i64 0,.list ai []]++cZ (fun _=>false) (fun _=>false))=some (cZ eM.o1 eM.e1):=aH (N:=60) (n:=30) (by kernel_rfl)
theorem axq:CC gB ([.int .i64 eM.r0,.int .i64 eM.r1,.list ai eM.r2,.int .i64 0,.int .i64 0,.list ai []]++cZ eM.o1 eM.e1)=some (cZ eM.bH eM.bI):=aH (N:=60) (n:=30) (by kernel_rfl)
theorem axr:CC nr [.list ai [.agg [.int .i64 eM.l0,.int .i64 eM.l1,.list ai eM.l2],.agg [.int .i64 eM.r0,.int .i64 eM.r1,.list ai eM.r2]]]=some [.int .i64 (eM.nv:Int)]:=aH (N:=60) (n:=30) (by kernel_rfl)
theorem axs:CC gi [.str AK,.int .i64 0]=some [.int .i64 eM.l0,.int .i64 eM.l1,.list ai eM.l2,.bool true,.str AK,.int .i64 2]:=aH (N:=60) (n:=30) (by kernel_rfl)
theorem axt:CC nt [.int .u8 61,.str AK,.int .i64 2]=some [.bool true,.str AK,.int .i64 3]:=aH (N:=60) (n:=30) (by kernel_rfl)
theorem axu:CC gi [.str AK,.int .i64 3]=some [.int .i64 eM.r0,.int .i64 eM.r1,.list ai eM.r2,.bool true,.str AK,.int .i64 5]:=aH (N:=60) (n:=30) (by kernel_rfl)
theorem ah0:mN eM:=⟨agG,axn,axo,axp,axq,axr,by decide,by unfold fo;decide,by unfold fo;decide,by decide,by decide,by decide,by decide⟩
theorem ahE:mO AK eM:=py (by decide) axs axt axu (by decide) agG
theorem agH:CC me (cU dx)=some [.int .i64 0]:=aH (N:=60) (n:=30) (by kernel_rfl)
theorem axv:CC fP [.int .i64 dx.l0,.int .i64 dx.l1,.list ai dx.l2]=some [.list bJ (dx.p.map cp)]:=aH (N:=60) (n:=30) (by kernel_rfl)
theorem axw:CC fP [.int .i64 dx.r0,.int .i64 dx.r1,.list ai dx.r2]=some [.list bJ (dx.q.map cp)]:=aH (N:=60) (n:=30) (by kernel_rfl)
theorem axx:CC gB ([.int .i64 dx.l0,.int .i64 dx.l1,.list ai dx.l2,.int .i64 0,.int .i64 0,.list ai []]++cZ (fun _=>false) (fun _=>false))=some (cZ dx.o1 dx.e1):=aH (N:=60) (n:=30) (by kernel_rfl)
theorem axy:CC gB ([.int .i64 dx.r0,.int .i64 dx.r1,.list ai dx.r2,.int .i64 0,.int .i64 0,.list ai []]++cZ dx.o1 dx.e1)=some (cZ dx.bH dx.bI):=aH (N:=60) (n:=30) (by kernel_rfl)
theorem axz:CC nr [.list ai [.agg [.int .i64 dx.l0,.int .i64 dx.l1,.list ai dx.l2],.agg [.int .i64 dx.r0,.int .i64 dx.r1,.list ai dx.r2]]]=some [.int .i64 (dx.nv:Int)]:=aH (N:=60) (n:=30) (by kernel_rfl)
theorem axA:CC gi [.str AL,.int .i64 0]=some [.int .i64 dx.l0,.int .i64 dx.l1,.list ai dx.l2,.bool true,.str AL,.int .i64 3]:=aH (N:=60) (n:=30) (by kernel_rfl)
theorem axB:CC nt [.int .u8 61,.str AL,.int .i64 3]=some [.bool true,.str AL,.int .i64 4]:=aH (N:=60) (n:=30) (by kernel_rfl)
theorem axC:CC gi [.str AL,.int .i64 4]=some [.int .i64 dx.r0,.int .i64 dx.r1,.list ai dx.r2,.bool true,.str AL,.int .i64 7]:=aH (N:=60) (n:=30) (by kernel_rfl)
theorem Ke:mN dx:=⟨agH,axv,axw,axx,axy,axz,by decide,by unfold fo;decide,by unfold fo;decide,by decide,by decide,by decide,by decide⟩
theorem Kd:mO AL dx:=py (by decide) axA axB axC (by decide) agH
theorem agI:CC me (cU aJ)=some [.int .i64 0]:=aH (N:=60) (n:=30) (by kernel_rfl)
theorem axD:CC fP [.int .i64 aJ.l0,.int .i64 aJ.l1,.list ai aJ.l2]=some [.list bJ (aJ.p.map cp)]:=aH (N:=60) (n:=30) (by kernel_rfl)
theorem axE:CC fP [.int .i64 aJ.r0,.int .i64 aJ.r1,.list ai aJ.r2]=some [.list bJ (aJ.q.map cp)]:=aH (N:=60) (n:=30) (by kernel_rfl)
theorem axF:CC gB ([.int .i64 aJ.l0,.int .i64 aJ.l1,.list ai aJ.l2,.int .i64 0,.int .i64 0,.list ai []]++cZ (fun _=>false) (fun _=>false))=some (cZ aJ.o1 aJ.e1):=aH (N:=60) (n:=30) (by kernel_rfl)
theorem axG:CC gB ([.int .i64 aJ.r0,.int .i64 aJ.r1,.list ai aJ.r2,.int .i64 0,.int .i64 0,.list ai []]++cZ aJ.o1 aJ.e1)=some (cZ aJ.bH aJ.bI):=aH (N:=60) (n:=30) (by kernel_rfl)
theorem axH:CC nr [.list ai [.agg [.int .i64 aJ.l0,.int .i64 aJ.l1,.list ai aJ.l2],.agg [.int .i64 aJ.r0,.int .i64 aJ.r1,.list ai aJ.r2]]]=some [.int .i64 (aJ.nv:Int)]:=aH (N:=60) (n:=30) (by kernel_rfl)
theorem axI:CC gi [.str AN,.int .i64 0]=some [.int .i64 aJ.l0,.int .i64 aJ.l1,.list ai aJ.l2,.bool true,.str AN,.int .i64 8]:=aH (N:=60) (n:=30) (by kernel_rfl)
theorem axJ:CC nt [.int .u8 61,.str AN,.int .i64 8]=some [.bool true,.str AN,.int .i64 9]:=aH (N:=60) (n:=30) (by kernel_rfl)
theorem axK:CC gi [.str AN,.int .i64 9]=some [.int .i64 aJ.r0,.int .i64 aJ.r1,.list ai aJ.r2,.bool true,.str AN,.int .i64 13]:=aH (N:=60) (n:=30) (by kernel_rfl)
theorem XH:mN aJ:=⟨agI,axD,axE,axF,axG,axH,by decide,by unfold fo;decide,by unfold fo;decide,by decide,by decide,by decide,by decide⟩
theorem XA:mO AN aJ:=py (by decide) axI axJ axK (by decide) agI
theorem agJ:CC me (cU dQ)=some [.int .i64 0]:=aH (N:=60) (n:=30) (by kernel_rfl)
theorem axL:CC fP [.int .i64 dQ.l0,.int .i64 dQ.l1,.list ai dQ.l2]=some [.list bJ (dQ.p.map cp)]:=aH (N:=60) (n:=30) (by kernel_rfl)
theorem axM:CC fP [.int .i64 dQ.r0,.int .i64 dQ.r1,.list ai dQ.r2]=some [.list bJ (dQ.q.map cp)]:=aH (N:=60) (n:=30) (by kernel_rfl)
theorem axN:CC gB ([.int .i64 dQ.l0,.int .i64 dQ.l1,.list ai dQ.l2,.int .i64 0,.int .i64 0,.list ai []]++cZ (fun _=>false) (fun _=>false))=some (cZ dQ.o1 dQ.e1):=aH (N:=60) (n:=30) (by kernel_rfl)
theorem axO:CC gB ([.int .i64 dQ.r0,.int .i64 dQ.r1,.list ai dQ.r2,.int .i64 0,.int .i64 0,.list ai []]++cZ dQ.o1 dQ.e1)=some (cZ dQ.bH dQ.bI):=aH (N:=60) (n:=30) (by kernel_rfl)
theorem axP:CC nr [.list ai [.agg [.int .i64 dQ.l0,.int .i64 dQ.l1,.list ai dQ.l2],.agg [.int .i64 dQ.r0,.int .i64 dQ.r1,.list ai dQ.r2]]]=some [.int .i64 (dQ.nv:Int)]:=aH (N:=60) (n:=30) (by kernel_rfl)
theorem axQ:CC gi [.str AO,.int .i64 0]=some [.int .i64 dQ.l0,.int .i64 dQ.l1,.list ai dQ.l2,.bool true,.str AO,.int .i64 4]:=aH (N:=60) (n:=30) (by kernel_rfl)
theorem axR:CC nt [.int .u8 61,.str AO,.int .i64 4]=some [.bool true,.str AO,.int .i64 5]:=aH (N:=60) (n:=30) (by kernel_rfl)
theorem axS:CC gi [.str AO,.int .i64 5]=some [.int .i64 dQ.r0,.int .i64 dQ.r1,.list ai dQ.r2,.bool true,.str AO,.int .i64 7]:=aH (N:=60) (n:=30) (by kernel_rfl)
theorem XI:mN dQ:=⟨agJ,axL,axM,axN,axO,axP,by decide,by unfold fo;decide,by unfold fo;decide,by decide,by decide,by decide,by decide⟩
theorem XB:mO AO dQ:=py (by decide) axQ axR axS (by decide) agJ
theorem agK:CC me (cU eQ)=some [.int .i64 0]:=aH (N:=60) (n:=30) (by kernel_rfl)
theorem axT:CC fP [.int .i64 eQ.l0,.int .i64 eQ.l1,.list ai eQ.l2]=some [.list bJ (eQ.p.map cp)]:=aH (N:=60) (n:=30) (by kernel_rfl)
theorem axU:CC fP [.int .i64 eQ.r0,.int .i64 eQ.r1,.list ai eQ.r2]=some [.list bJ (eQ.q.map cp)]:=aH (N:=60) (n:=30) (by kernel_rfl)
theorem axV:CC gB ([.int .i64 eQ.l0,.int .i64 eQ.l1,.list ai eQ.l2,.int .i64 0,.int .i64 0,.list ai []]++cZ (fun _=>false) (fun _=>false))=some (cZ eQ.o1 eQ.e1):=aH (N:=60) (n:=30) (by kernel_rfl)
theorem axW:CC gB ([.int .i64 eQ.r0,.int .i64 eQ.r1,.list ai eQ.r2,.int .i64 0,.int .i64 0,.list ai []]++cZ eQ.o1 eQ.e1)=some (cZ eQ.bH eQ.bI):=aH (N:=60) (n:=30) (by kernel_rfl)
theorem axX:CC nr [.list ai [.agg [.int .i64 eQ.l0,.int .i64 eQ.l1,.list ai eQ.l2],.agg [.int .i64 eQ.r0,.int .i64 eQ.r1,.list ai eQ.r2]]]=some [.int .i64 (eQ.nv:Int)]:=aH (N:=60) (n:=30) (by kernel_rfl)
theorem axY:CC gi [.str AP,.int .i64 0]=some [.int .i64 eQ.l0,.int .i64 eQ.l1,.list ai eQ.l2,.bool true,.str AP,.int .i64 3]:=aH (N:=60) (n:=30) (by kernel_rfl)
theorem axZ:CC nt [.int .u8 61,.str AP,.int .i64 3]=some [.bool true,.str AP,.int .i64 4]:=aH (N:=60) (n:=30) (by kernel_rfl)
theorem ax0:CC gi [.str AP,.int .i64 4]=some [.int .i64 eQ.r0,.int .i64 eQ.r1,.list ai eQ.r2,.bool true,.str AP,.int .i64 6]:=aH (N:=60) (n:=30) (by kernel_rfl)
theorem ah1:mN eQ:=⟨agK,axT,axU,axV,axW,axX,by decide,by unfold fo;decide,by unfold fo;decide,by decide,by decide,by decide,by decide⟩
theorem ahJ:mO AP eQ:=py (by decide) axY axZ ax0 (by decide) agK
theorem agL:CC me (cU en)=some [.int .i64 0]:=aH (N:=60) (n:=30) (by kernel_rfl)
theorem ax1:CC fP [.int .i64 en.l0,.int .i64 en.l1,.list ai en.l2]=some [.list bJ (en.p.map cp)]:=aH (N:=60) (n:=30) (by kernel_rfl)
theorem ax2:CC fP [.int .i64 en.r0,.int .i64 en.r1,.list ai en.r2]=some [.list bJ (en.q.map cp)]:=aH (N:=60) (n:=30) (by kernel_rfl)
theorem ax3:CC gB ([.int .i64 en.l0,.int .i64 en.l1,.list ai en.l2,.int .i64 0,.int .i64 0,.list ai []]++cZ (fun _=>false) (fun _=>false))=some (cZ en.o1 en.e1):=aH (N:=60) (n:=30) (by kernel_rfl)
theorem ax4:CC gB ([.int .i64 en.r0,.int .i64 en.r1,.list ai en.r2,.int .i64 0,.int .i64 0,.list ai []]++cZ en.o1 en.e1)=some (cZ en.bH en.bI):=aH (N:=60) (n:=30) (by kernel_rfl)
theorem ax5:CC nr [.list ai [.agg [.int .i64 en.l0,.int .i64 en.l1,.list ai en.l2],.agg [.int .i64 en.r0,.int .i64 en.r1,.list ai en.r2]]]=some [.int .i64 (en.nv:Int)]:=aH (N:=60) (n:=30) (by kernel_rfl)
theorem ax6:CC gi [.str AQ,.int .i64 0]=some [.int .i64 en.l0,.int .i64 en.l1,.list ai en.l2,.bool true,.str AQ,.int .i64 8]:=aH (N:=60) (n:=30) (by kernel_rfl)
theorem ax7:CC nt [.int .u8 61,.str AQ,.int .i64 8]=some [.bool true,.str AQ,.int .i64 9]:=aH (N:=60) (n:=30) (by kernel_rfl)
theorem ax8:CC gi [.str AQ,.int .i64 9]=some [.int .i64 en.r0,.int .i64 en.r1,.list ai en.r2,.bool true,.str AQ,.int .i64 16]:=aH (N:=60) (n:=30) (by kernel_rfl)
theorem XJ:mN en:=⟨agL,ax1,ax2,ax3,ax4,ax5,by decide,by unfold fo;decide,by unfold fo;decide,by decide,by decide,by decide,by decide⟩
theorem XC:mO AQ en:=py (by decide) ax6 ax7 ax8 (by decide) agL
theorem agM:CC me (cU eo)=some [.int .i64 0]:=aH (N:=60) (n:=30) (by kernel_rfl)
theorem ax9:CC fP [.int .i64 eo.l0,.int .i64 eo.l1,.list ai eo.l2]=some [.list bJ (eo.p.map cp)]:=aH (N:=60) (n:=30) (by kernel_rfl)
theorem aya:CC fP [.int .i64 eo.r0,.int .i64 eo.r1,.list ai eo.r2]=some [.list bJ (eo.q.map cp)]:=aH (N:=60) (n:=30) (by kernel_rfl)
theorem ayb:CC gB ([.int .i64 eo.l0,.int .i64 eo.l1,.list ai eo.l2,.int .i64 0,.int .i64 0,.list ai []]++cZ (fun _=>false) (fun _=>false))=some (cZ eo.o1 eo.e1):=aH (N:=60) (n:=30) (by kernel_rfl)
theorem ayc:CC gB ([.int .i64 eo.r0,.int .i64 eo.r1,.list ai eo.r2,.int .i64 0,.int .i64 0,.list ai []]++cZ eo.o1 eo.e1)=some (cZ eo.bH eo.bI):=aH (N:=60) (n:=30) (by kernel_rfl)
theorem ayd:CC nr [.list ai [.agg [.int .i64 eo.l0,.int .i64 eo.l1,.list ai eo.l2],.agg [.int .i64 eo.r0,.int .i64 eo.r1,.list ai eo.r2]]]=some [.int .i64 (eo.nv:Int)]:=aH (N:=60) (n:=30) (by kernel_rfl)
theorem aye:CC gi [.str AR,.int .i64 0]=some [.int .i64 eo.l0,.int .i64 eo.l1,.list ai eo.l2,.bool true,.str AR,.int .i64 8]:=aH (N:=60) (n:=30) (by kernel_rfl)
theorem ayf:CC nt [.int .u8 61,.str AR,.int .i64 8]=some [.bool true,.str AR,.int .i64 9]:=aH (N:=60) (n:=30) (by kernel_rfl)
theorem ayg:CC gi [.str AR,.int .i64 9]=some [.int .i64 eo.r0,.int .i64 eo.r1,.list ai eo.r2,.bool true,.str AR,.int .i64 16]:=aH (N:=60) (n:=30) (by kernel_rfl)
theorem XK:mN eo:=⟨agM,ax9,aya,ayb,ayc,ayd,by decide,by unfold fo;decide,by unfold fo;decide,by decide,by decide,by decide,by decide⟩
theorem XD:mO AR eo:=py (by decide) aye ayf ayg (by decide) agM
theorem agN:CC me (cU eS)=some [.int .i64 0]:=aH (N:=60) (n:=30) (by kernel_rfl)
theorem ayh:CC fP [.int .i64 eS.l0,.int .i64 eS.l1,.list ai eS.l2]=some [.list bJ (eS.p.map cp)]:=aH (N:=60) (n:=30) (by kernel_rfl)
theorem ayi:CC fP [.int .i64 eS.r0,.int .i64 eS.r1,.list ai eS.r2]=some [.list bJ (eS.q.map cp)]:=aH (N:=60) (n:=30) (by kernel_rfl)
theorem ayj:CC gB ([.int .i64 eS.l0,.int .i64 eS.l1,.list ai eS.l2,.int .i64 0,.int .i64 0,.list ai []]++cZ (fun _=>false) (fun _=>false))=some (cZ eS.o1 eS.e1):=aH (N:=60) (n:=30) (by kernel_rfl)
theorem ayk:CC gB ([.int .i64 eS.r0,.int .i64 eS.r1,.list ai eS.r2,.int .i64 0,.int .i64 0,.list ai []]++cZ eS.o1 eS.e1)=some (cZ eS.bH eS.bI):=aH (N:=60) (n:=30) (by kernel_rfl)
theorem ayl:CC nr [.list ai [.agg [.int .i64 eS.l0,.int .i64 eS.l1,.list ai eS.l2],.agg [.int .i64 eS.r0,.int .i64 eS.r1,.list ai eS.r2]]]=some [.int .i64 (eS.nv:Int)]:=aH (N:=60) (n:=30) (by kernel_rfl)
theorem aym:CC gi [.str AS,.int .i64 0]=some [.int .i64 eS.l0,.int .i64 eS.l1,.list ai eS.l2,.bool true,.str AS,.int .i64 14]:=aH (N:=60) (n:=30) (by kernel_rfl)
theorem ayn:CC nt [.int .u8 61,.str AS,.int .i64 14]=some [.bool true,.str AS,.int .i64 15]:=aH (N:=60) (n:=30) (by kernel_rfl)
theorem ayo:CC gi [.str AS,.int .i64 15]=some [.int .i64 eS.r0,.int .i64 eS.r1,.list ai eS.r2,.bool true,.str AS,.int .i64 22]:=aH (N:=60) (n:=30) (by kernel_rfl)
theorem ah2:mN eS:=⟨agN,ayh,ayi,ayj,ayk,ayl,by decide,by unfold fo;decide,by unfold fo;decide,by decide,by decide,by decide,by decide⟩
theorem ahQ:mO AS eS:=py (by decide) aym ayn ayo (by decide) agN
end Go.AM
