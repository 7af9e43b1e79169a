/-
  Functions of the program, lifted to plain data.
-/
import Derived.Test.YtmknicoledcapaaGreatDoorP8
set_option linter.unusedVariables false
set_option linter.unusedSimpArgs false
set_option linter.unusedSectionVars false
set_option maxRecDepth 100000
namespace Go.AM
open Go.Proofs
theorem amg:pb oF:=aS (by kernel_rfl)
theorem aGf:pS oF:=aS (by kernel_rfl)
theorem aGg:pU oF:=aS (by kernel_rfl)
theorem aGh:pV oF:=aS (by kernel_rfl)
theorem aGi:pW oF:=aS (by kernel_rfl)
theorem aGj:pX oF:=aS (by kernel_rfl)
theorem aGk:iv Tn 0 oF.l0 oF.l1 oF.l2 5:=aS (by kernel_rfl)
theorem aGl:pY Tn 5:=aS (by kernel_rfl)
theorem aGm:iv Tn 6 oF.r0 oF.r1 oF.r2 10:=aS (by kernel_rfl)
theorem anh:mZ oF:=qW amg aGf aGg aGh aGi aGj (by decide)
theorem aco:nW Tn oF:=qX (by decide) aGk aGl aGm (by decide) amg
theorem amh:pb oG:=aS (by kernel_rfl)
theorem aGn:pS oG:=aS (by kernel_rfl)
theorem aGo:pU oG:=aS (by kernel_rfl)
theorem aGp:pV oG:=aS (by kernel_rfl)
theorem aGq:pW oG:=aS (by kernel_rfl)
theorem aGr:pX oG:=aS (by kernel_rfl)
theorem aGs:iv To 0 oG.l0 oG.l1 oG.l2 5:=aS (by kernel_rfl)
theorem aGt:pY To 5:=aS (by kernel_rfl)
theorem aGu:iv To 6 oG.r0 oG.r1 oG.r2 10:=aS (by kernel_rfl)
theorem ani:mZ oG:=qW amh aGn aGo aGp aGq aGr (by decide)
theorem acp:nW To oG:=qX (by decide) aGs aGt aGu (by decide) amh
theorem ami:pb oH:=aS (by kernel_rfl)
theorem aGv:pS oH:=aS (by kernel_rfl)
theorem aGw:pU oH:=aS (by kernel_rfl)
theorem aGx:pV oH:=aS (by kernel_rfl)
theorem aGy:pW oH:=aS (by kernel_rfl)
theorem aGz:pX oH:=aS (by kernel_rfl)
theorem aGA:iv Ts 0 oH.l0 oH.l1 oH.l2 8:=aS (by kernel_rfl)
theorem aGB:pY Ts 8:=aS (by kernel_rfl)
theorem aGC:iv Ts 9 oH.r0 oH.r1 oH.r2 13:=aS (by kernel_rfl)
theorem anj:mZ oH:=qW ami aGv aGw aGx aGy aGz (by decide)
theorem anq:nW Ts oH:=qX (by decide) aGA aGB aGC (by decide) ami
theorem amj:pb oI:=aS (by kernel_rfl)
theorem aGD:pS oI:=aS (by kernel_rfl)
theorem aGE:pU oI:=aS (by kernel_rfl)
theorem aGF:pV oI:=aS (by kernel_rfl)
theorem aGG:pW oI:=aS (by kernel_rfl)
theorem aGH:pX oI:=aS (by kernel_rfl)
theorem aGI:iv Tt 0 oI.l0 oI.l1 oI.l2 12:=aS (by kernel_rfl)
theorem aGJ:pY Tt 12:=aS (by kernel_rfl)
theorem aGK:iv Tt 13 oI.r0 oI.r1 oI.r2 21:=aS (by kernel_rfl)
theorem ank:mZ oI:=qW amj aGD aGE aGF aGG aGH (by decide)
theorem anr:nW Tt oI:=qX (by decide) aGI aGJ aGK (by decide) amj
theorem amk:pb oJ:=aS (by kernel_rfl)
theorem aGL:pS oJ:=aS (by kernel_rfl)
theorem aGM:pU oJ:=aS (by kernel_rfl)
theorem aGN:pV oJ:=aS (by kernel_rfl)
theorem aGO:pW oJ:=aS (by kernel_rfl)
theorem aGP:pX oJ:=aS (by kernel_rfl)
theorem aGQ:iv Tu 0 oJ.l0 oJ.l1 oJ.l2 12:=aS (by kernel_rfl)
theorem aGR:pY Tu 12:=aS (by kernel_rfl)
theorem aGS:iv Tu 13 oJ.r0 oJ.r1 oJ.r2 25:=aS (by kernel_rfl)
theorem anl:mZ oJ:=qW amk aGL aGM aGN aGO aGP (by decide)
theorem ans:nW Tu oJ:=qX (by decide) aGQ aGR aGS (by decide) amk
end Go.AM
