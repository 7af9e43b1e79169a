/-
  Functions of the program, lifted to plain data.
-/
import Derived.Test.YtmknicoledcapaaGreatDoorP7
set_option linter.unusedVariables false
set_option linter.unusedSimpArgs false
set_option linter.unusedSectionVars false
set_option maxRecDepth 100000
namespace Go.AM
open Go.Proofs
theorem al8:pb n0:=aS (by kernel_rfl)
theorem aFd:pS n0:=aS (by kernel_rfl)
theorem aFe:pU n0:=aS (by kernel_rfl)
theorem aFf:pV n0:=aS (by kernel_rfl)
theorem aFg:pW n0:=aS (by kernel_rfl)
theorem aFh:pX n0:=aS (by kernel_rfl)
theorem aFi:iv Tf 0 n0.l0 n0.l1 n0.l2 2:=aS (by kernel_rfl)
theorem aFj:pY Tf 2:=aS (by kernel_rfl)
theorem aFk:iv Tf 3 n0.r0 n0.r1 n0.r2 5:=aS (by kernel_rfl)
theorem am8:mZ n0:=qW al8 aFd aFe aFf aFg aFh (by decide)
theorem anm:nW Tf n0:=qX (by decide) aFi aFj aFk (by decide) al8
theorem al9:pb lI:=aS (by kernel_rfl)
theorem aFl:pS lI:=aS (by kernel_rfl)
theorem aFm:pU lI:=aS (by kernel_rfl)
theorem aFn:pV lI:=aS (by kernel_rfl)
theorem aFo:pW lI:=aS (by kernel_rfl)
theorem aFp:pX lI:=aS (by kernel_rfl)
theorem aFq:iv Tg 0 lI.l0 lI.l1 lI.l2 3:=aS (by kernel_rfl)
theorem aFr:pY Tg 3:=aS (by kernel_rfl)
theorem aFs:iv Tg 4 lI.r0 lI.r1 lI.r2 7:=aS (by kernel_rfl)
theorem am9:mZ lI:=qW al9 aFl aFm aFn aFo aFp (by decide)
theorem NR:nW Tg lI:=qX (by decide) aFq aFr aFs (by decide) al9
theorem ama:pb aY:=aS (by kernel_rfl)
theorem aFt:pS aY:=aS (by kernel_rfl)
theorem aFu:pU aY:=aS (by kernel_rfl)
theorem aFv:pV aY:=aS (by kernel_rfl)
theorem aFw:pW aY:=aS (by kernel_rfl)
theorem aFx:pX aY:=aS (by kernel_rfl)
theorem aFy:iv Th 0 aY.l0 aY.l1 aY.l2 8:=aS (by kernel_rfl)
theorem aFz:pY Th 8:=aS (by kernel_rfl)
theorem aFA:iv Th 9 aY.r0 aY.r1 aY.r2 13:=aS (by kernel_rfl)
theorem ana:mZ aY:=qW ama aFt aFu aFv aFw aFx (by decide)
theorem acj:nW Th aY:=qX (by decide) aFy aFz aFA (by decide) ama
theorem amb:pb la:=aS (by kernel_rfl)
theorem aFB:pS la:=aS (by kernel_rfl)
theorem aFC:pU la:=aS (by kernel_rfl)
theorem aFD:pV la:=aS (by kernel_rfl)
theorem aFE:pW la:=aS (by kernel_rfl)
theorem aFF:pX la:=aS (by kernel_rfl)
theorem aFG:iv Ti 0 la.l0 la.l1 la.l2 4:=aS (by kernel_rfl)
theorem aFH:pY Ti 4:=aS (by kernel_rfl)
theorem aFI:iv Ti 5 la.r0 la.r1 la.r2 7:=aS (by kernel_rfl)
theorem anb:mZ la:=qW amb aFB aFC aFD aFE aFF (by decide)
theorem ack:nW Ti la:=qX (by decide) aFG aFH aFI (by decide) amb
theorem amc:pb oC:=aS (by kernel_rfl)
theorem aFJ:pS oC:=aS (by kernel_rfl)
theorem aFK:pU oC:=aS (by kernel_rfl)
theorem aFL:pV oC:=aS (by kernel_rfl)
theorem aFM:pW oC:=aS (by kernel_rfl)
theorem aFN:pX oC:=aS (by kernel_rfl)
theorem aFO:iv Tj 0 oC.l0 oC.l1 oC.l2 3:=aS (by kernel_rfl)
theorem aFP:pY Tj 3:=aS (by kernel_rfl)
theorem aFQ:iv Tj 4 oC.r0 oC.r1 oC.r2 6:=aS (by kernel_rfl)
theorem anc:mZ oC:=qW amc aFJ aFK aFL aFM aFN (by decide)
theorem ano:nW Tj oC:=qX (by decide) aFO aFP aFQ (by decide) amc
theorem amd:pb oD:=aS (by kernel_rfl)
theorem aFR:pS oD:=aS (by kernel_rfl)
theorem aFS:pU oD:=aS (by kernel_rfl)
theorem aFT:pV oD:=aS (by kernel_rfl)
theorem aFU:pW oD:=aS (by kernel_rfl)
theorem aFV:pX oD:=aS (by kernel_rfl)
theorem aFW:iv Tk 0 oD.l0 oD.l1 oD.l2 8:=aS (by kernel_rfl)
theorem aFX:pY Tk 8:=aS (by kernel_rfl)
theorem aFY:iv Tk 9 oD.r0 oD.r1 oD.r2 16:=aS (by kernel_rfl)
theorem ane:mZ oD:=qW amd aFR aFS aFT aFU aFV (by decide)
theorem acm:nW Tk oD:=qX (by decide) aFW aFX aFY (by decide) amd
theorem ame:pb oE:=aS (by kernel_rfl)
theorem aFZ:pS oE:=aS (by kernel_rfl)
theorem aF0:pU oE:=aS (by kernel_rfl)
theorem aF1:pV oE:=aS (by kernel_rfl)
theorem aF2:pW oE:=aS (by kernel_rfl)
theorem aF3:pX oE:=aS (by kernel_rfl)
theorem aF4:iv Tl 0 oE.l0 oE.l1 oE.l2 8:=aS (by kernel_rfl)
theorem aF5:pY Tl 8:=aS (by kernel_rfl)
theorem aF6:iv Tl 9 oE.r0 oE.r1 oE.r2 16:=aS (by kernel_rfl)
theorem anf:mZ oE:=qW ame aFZ aF0 aF1 aF2 aF3 (by decide)
theorem acn:nW Tl oE:=qX (by decide) aF4 aF5 aF6 (by decide) ame
theorem amf:pb lJ:=aS (by kernel_rfl)
theorem aF7:pS lJ:=aS (by kernel_rfl)
theorem aF8:pU lJ:=aS (by kernel_rfl)
theorem aF9:pV lJ:=aS (by kernel_rfl)
theorem aGa:pW lJ:=aS (by kernel_rfl)
theorem aGb:pX lJ:=aS (by kernel_rfl)
theorem aGc:iv Tm 0 lJ.l0 lJ.l1 lJ.l2 14:=aS (by kernel_rfl)
theorem aGd:pY Tm 14:=aS (by kernel_rfl)
theorem aGe:iv Tm 15 lJ.r0 lJ.r1 lJ.r2 22:=aS (by kernel_rfl)
theorem ang:mZ lJ:=qW amf aF7 aF8 aF9 aGa aGb (by decide)
theorem anp:nW Tm lJ:=qX (by decide) aGc aGd aGe (by decide) amf
end Go.AM
