/-
  Functions of the program, lifted to plain data.
-/
import Derived.Test.YtkbdjbcjpcodcaaGreatDoorP8
set_option linter.unusedVariables false
set_option linter.unusedSimpArgs false
set_option linter.unusedSectionVars false
set_option maxRecDepth 100000
namespace Go.AM
open Go.Proofs
theorem agO:CC me (cU ep)=some [.int .i64 0]:=aH (N:=60) (n:=30) (by kernel_rfl)
theorem ayp:CC fP [.int .i64 ep.l0,.int .i64 ep.l1,.list ai ep.l2]=some [.list bJ (ep.p.map cp)]:=aH (N:=60) (n:=30) (by kernel_rfl)
theorem ayq:CC fP [.int .i64 ep.r0,.int .i64 ep.r1,.list ai ep.r2]=some [.list bJ (ep.q.map cp)]:=aH (N:=60) (n:=30) (by kernel_rfl)
theorem ayr:CC gB ([.int .i64 ep.l0,.int .i64 ep.l1,.list ai ep.l2,.int .i64 0,.int .i64 0,.list ai []]++cZ (fun _=>false) (fun _=>false))=some (cZ ep.o1 ep.e1):=aH (N:=60) (n:=30) (by kernel_rfl)
theorem ays:CC gB ([.int .i64 ep.r0,.int .i64 ep.r1,.list ai ep.r2,.int .i64 0,.int .i64 0,.list ai []]++cZ ep.o1 ep.e1)=some (cZ ep.bH ep.bI):=aH (N:=60) (n:=30) (by kernel_rfl)
theorem ayt:CC nr [.list ai [.agg [.int .i64 ep.l0,.int .i64 ep.l1,.list ai ep.l2],.agg [.int .i64 ep.r0,.int .i64 ep.r1,.list ai ep.r2]]]=some [.int .i64 (ep.nv:Int)]:=aH (N:=60) (n:=30) (by kernel_rfl)
theorem ayu:CC gi [.str AT,.int .i64 0]=some [.int .i64 ep.l0,.int .i64 ep.l1,.list ai ep.l2,.bool true,.str AT,.int .i64 5]:=aH (N:=60) (n:=30) (by kernel_rfl)
theorem ayv:CC nt [.int .u8 61,.str AT,.int .i64 5]=some [.bool true,.str AT,.int .i64 6]:=aH (N:=60) (n:=30) (by kernel_rfl)
theorem ayw:CC gi [.str AT,.int .i64 6]=some [.int .i64 ep.r0,.int .i64 ep.r1,.list ai ep.r2,.bool true,.str AT,.int .i64 10]:=aH (N:=60) (n:=30) (by kernel_rfl)
theorem XL:mN ep:=⟨agO,ayp,ayq,ayr,ays,ayt,by decide,by unfold fo;decide,by unfold fo;decide,by decide,by decide,by decide,by decide⟩
theorem XE:mO AT ep:=py (by decide) ayu ayv ayw (by decide) agO
theorem agP:CC me (cU et)=some [.int .i64 0]:=aH (N:=60) (n:=30) (by kernel_rfl)
theorem ayx:CC fP [.int .i64 et.l0,.int .i64 et.l1,.list ai et.l2]=some [.list bJ (et.p.map cp)]:=aH (N:=60) (n:=30) (by kernel_rfl)
theorem ayy:CC fP [.int .i64 et.r0,.int .i64 et.r1,.list ai et.r2]=some [.list bJ (et.q.map cp)]:=aH (N:=60) (n:=30) (by kernel_rfl)
theorem ayz:CC gB ([.int .i64 et.l0,.int .i64 et.l1,.list ai et.l2,.int .i64 0,.int .i64 0,.list ai []]++cZ (fun _=>false) (fun _=>false))=some (cZ et.o1 et.e1):=aH (N:=60) (n:=30) (by kernel_rfl)
theorem ayA:CC gB ([.int .i64 et.r0,.int .i64 et.r1,.list ai et.r2,.int .i64 0,.int .i64 0,.list ai []]++cZ et.o1 et.e1)=some (cZ et.bH et.bI):=aH (N:=60) (n:=30) (by kernel_rfl)
theorem ayB:CC nr [.list ai [.agg [.int .i64 et.l0,.int .i64 et.l1,.list ai et.l2],.agg [.int .i64 et.r0,.int .i64 et.r1,.list ai et.r2]]]=some [.int .i64 (et.nv:Int)]:=aH (N:=60) (n:=30) (by kernel_rfl)
theorem ayC:CC gi [.str AU,.int .i64 0]=some [.int .i64 et.l0,.int .i64 et.l1,.list ai et.l2,.bool true,.str AU,.int .i64 5]:=aH (N:=60) (n:=30) (by kernel_rfl)
theorem ayD:CC nt [.int .u8 61,.str AU,.int .i64 5]=some [.bool true,.str AU,.int .i64 6]:=aH (N:=60) (n:=30) (by kernel_rfl)
theorem ayE:CC gi [.str AU,.int .i64 6]=some [.int .i64 et.r0,.int .i64 et.r1,.list ai et.r2,.bool true,.str AU,.int .i64 10]:=aH (N:=60) (n:=30) (by kernel_rfl)
theorem XM:mN et:=⟨agP,ayx,ayy,ayz,ayA,ayB,by decide,by unfold fo;decide,by unfold fo;decide,by decide,by decide,by decide,by decide⟩
theorem XF:mO AU et:=py (by decide) ayC ayD ayE (by decide) agP
theorem agQ:CC me (cU eT)=some [.int .i64 0]:=aH (N:=60) (n:=30) (by kernel_rfl)
theorem ayF:CC fP [.int .i64 eT.l0,.int .i64 eT.l1,.list ai eT.l2]=some [.list bJ (eT.p.map cp)]:=aH (N:=60) (n:=30) (by kernel_rfl)
theorem ayG:CC fP [.int .i64 eT.r0,.int .i64 eT.r1,.list ai eT.r2]=some [.list bJ (eT.q.map cp)]:=aH (N:=60) (n:=30) (by kernel_rfl)
theorem ayH:CC gB ([.int .i64 eT.l0,.int .i64 eT.l1,.list ai eT.l2,.int .i64 0,.int .i64 0,.list ai []]++cZ (fun _=>false) (fun _=>false))=some (cZ eT.o1 eT.e1):=aH (N:=60) (n:=30) (by kernel_rfl)
theorem ayI:CC gB ([.int .i64 eT.r0,.int .i64 eT.r1,.list ai eT.r2,.int .i64 0,.int .i64 0,.list ai []]++cZ eT.o1 eT.e1)=some (cZ eT.bH eT.bI):=aH (N:=60) (n:=30) (by kernel_rfl)
theorem ayJ:CC nr [.list ai [.agg [.int .i64 eT.l0,.int .i64 eT.l1,.list ai eT.l2],.agg [.int .i64 eT.r0,.int .i64 eT.r1,.list ai eT.r2]]]=some [.int .i64 (eT.nv:Int)]:=aH (N:=60) (n:=30) (by kernel_rfl)
theorem ayK:CC gi [.str AV,.int .i64 0]=some [.int .i64 eT.l0,.int .i64 eT.l1,.list ai eT.l2,.bool true,.str AV,.int .i64 8]:=aH (N:=60) (n:=30) (by kernel_rfl)
theorem ayL:CC nt [.int .u8 61,.str AV,.int .i64 8]=some [.bool true,.str AV,.int .i64 9]:=aH (N:=60) (n:=30) (by kernel_rfl)
theorem ayM:CC gi [.str AV,.int .i64 9]=some [.int .i64 eT.r0,.int .i64 eT.r1,.list ai eT.r2,.bool true,.str AV,.int .i64 13]:=aH (N:=60) (n:=30) (by kernel_rfl)
theorem ah3:mN eT:=⟨agQ,ayF,ayG,ayH,ayI,ayJ,by decide,by unfold fo;decide,by unfold fo;decide,by decide,by decide,by decide,by decide⟩
theorem ahV:mO AV eT:=py (by decide) ayK ayL ayM (by decide) agQ
theorem agR:CC me (cU eU)=some [.int .i64 0]:=aH (N:=60) (n:=30) (by kernel_rfl)
theorem ayN:CC fP [.int .i64 eU.l0,.int .i64 eU.l1,.list ai eU.l2]=some [.list bJ (eU.p.map cp)]:=aH (N:=60) (n:=30) (by kernel_rfl)
theorem ayO:CC fP [.int .i64 eU.r0,.int .i64 eU.r1,.list ai eU.r2]=some [.list bJ (eU.q.map cp)]:=aH (N:=60) (n:=30) (by kernel_rfl)
theorem ayP:CC gB ([.int .i64 eU.l0,.int .i64 eU.l1,.list ai eU.l2,.int .i64 0,.int .i64 0,.list ai []]++cZ (fun _=>false) (fun _=>false))=some (cZ eU.o1 eU.e1):=aH (N:=60) (n:=30) (by kernel_rfl)
theorem ayQ:CC gB ([.int .i64 eU.r0,.int .i64 eU.r1,.list ai eU.r2,.int .i64 0,.int .i64 0,.list ai []]++cZ eU.o1 eU.e1)=some (cZ eU.bH eU.bI):=aH (N:=60) (n:=30) (by kernel_rfl)
theorem ayR:CC nr [.list ai [.agg [.int .i64 eU.l0,.int .i64 eU.l1,.list ai eU.l2],.agg [.int .i64 eU.r0,.int .i64 eU.r1,.list ai eU.r2]]]=some [.int .i64 (eU.nv:Int)]:=aH (N:=60) (n:=30) (by kernel_rfl)
theorem ayS:CC gi [.str AW,.int .i64 0]=some [.int .i64 eU.l0,.int .i64 eU.l1,.list ai eU.l2,.bool true,.str AW,.int .i64 12]:=aH (N:=60) (n:=30) (by kernel_rfl)
theorem ayT:CC nt [.int .u8 61,.str AW,.int .i64 12]=some [.bool true,.str AW,.int .i64 13]:=aH (N:=60) (n:=30) (by kernel_rfl)
theorem ayU:CC gi [.str AW,.int .i64 13]=some [.int .i64 eU.r0,.int .i64 eU.r1,.list ai eU.r2,.bool true,.str AW,.int .i64 21]:=aH (N:=60) (n:=30) (by kernel_rfl)
theorem ah4:mN eU:=⟨agR,ayN,ayO,ayP,ayQ,ayR,by decide,by unfold fo;decide,by unfold fo;decide,by decide,by decide,by decide,by decide⟩
theorem ahX:mO AW eU:=py (by decide) ayS ayT ayU (by decide) agR
theorem agS:CC me (cU eV)=some [.int .i64 0]:=aH (N:=60) (n:=30) (by kernel_rfl)
theorem ayV:CC fP [.int .i64 eV.l0,.int .i64 eV.l1,.list ai eV.l2]=some [.list bJ (eV.p.map cp)]:=aH (N:=60) (n:=30) (by kernel_rfl)
theorem ayW:CC fP [.int .i64 eV.r0,.int .i64 eV.r1,.list ai eV.r2]=some [.list bJ (eV.q.map cp)]:=aH (N:=60) (n:=30) (by kernel_rfl)
theorem ayX:CC gB ([.int .i64 eV.l0,.int .i64 eV.l1,.list ai eV.l2,.int .i64 0,.int .i64 0,.list ai []]++cZ (fun _=>false) (fun _=>false))=some (cZ eV.o1 eV.e1):=aH (N:=60) (n:=30) (by kernel_rfl)
theorem ayY:CC gB ([.int .i64 eV.r0,.int .i64 eV.r1,.list ai eV.r2,.int .i64 0,.int .i64 0,.list ai []]++cZ eV.o1 eV.e1)=some (cZ eV.bH eV.bI):=aH (N:=60) (n:=30) (by kernel_rfl)
theorem ayZ:CC nr [.list ai [.agg [.int .i64 eV.l0,.int .i64 eV.l1,.list ai eV.l2],.agg [.int .i64 eV.r0,.int .i64 eV.r1,.list ai eV.r2]]]=some [.int .i64 (eV.nv:Int)]:=aH (N:=60) (n:=30) (by kernel_rfl)
theorem ay0:CC gi [.str AX,.int .i64 0]=some [.int .i64 eV.l0,.int .i64 eV.l1,.list ai eV.l2,.bool true,.str AX,.int .i64 12]:=aH (N:=60) (n:=30) (by kernel_rfl)
theorem ay1:CC nt [.int .u8 61,.str AX,.int .i64 12]=some [.bool true,.str AX,.int .i64 13]:=aH (N:=60) (n:=30) (by kernel_rfl)
theorem ay2:CC gi [.str AX,.int .i64 13]=some [.int .i64 eV.r0,.int .i64 eV.r1,.list ai eV.r2,.bool true,.str AX,.int .i64 25]:=aH (N:=60) (n:=30) (by kernel_rfl)
theorem ah5:mN eV:=⟨agS,ayV,ayW,ayX,ayY,ayZ,by decide,by unfold fo;decide,by unfold fo;decide,by decide,by decide,by decide,by decide⟩
theorem ahY:mO AX eV:=py (by decide) ay0 ay1 ay2 (by decide) agS
end Go.AM
