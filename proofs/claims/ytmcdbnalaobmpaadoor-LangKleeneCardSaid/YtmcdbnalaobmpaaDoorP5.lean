/-
  Functions of the program, lifted to plain data.
-/
import Derived.Sort.AssemblyPlain
import Derived.Test.YtmcdbnalaobmpaaDoorP4
set_option linter.unusedVariables false
set_option linter.unusedSimpArgs false
set_option maxRecDepth 100000
namespace Go.AM
open Go.Proofs
noncomputable abbrev ti:Code:=cL Tryd.prog (av.aT 109)
noncomputable def BC (C:ae) (t24:List V) (t25 aK aP:Int) (bc a9:List V) (count t26:Int) (dg:List V) {β:Type} (kn:(Int × Int × (List V))→Option β) (kr:(Int × Int × Bool × (List V))→Option β):Option β:=
 bif decide ((t26:Int)<t25) then
  (idx t24 t26).bind fun x2=>
  (bc[0]?).bind fun x3=>
  bif !(x2.toBool==x3.toBool) then
  bif (decide (0≤t26))&&(decide (t26<(dg.length:Int))) then
   (dg[(t26:Int).toNat]?).bind fun x4=>
   kn (2,IntKind.wrap .i64 (t26+1),dg.set ((t26:Int).toNat) (.int .i64 1))
  else none
  else
  kn (count,IntKind.wrap .i64 (t26+1),dg)
 else
  kr (count,t26,decide ((t26:Int)<t25),dg)
noncomputable def GK (C:ae) (t24:List V) (t25 aK aP:Int) (bc a9:List V):(Int × Int × (List V))→Option ((Int × Int × (List V)) ⊕ (Int × Int × Bool × (List V))):=un fun count=>un fun t26 dg=>BC C t24 t25 aK aP bc a9 count t26 dg (fun y=>some (.inl y)) (fun r=>some (.inr r))
noncomputable def BD (C:ae) (count q:Int) (t46:List V) (t47 t48:Int) (t58:List V) (t59 aK aP:Int) (bc a9 dg numbers mQ:List V) (t60 GL GM GN GO GP GQ GR:Int) {β:Type} (kn:(Int × Int × Int × Int × Int × Int × Int × Int)→Option β) (kr:(Int × Bool × Int × Int × Int × Int × Int × Int × Int)→Option β):Option β:=
 bif decide ((t60:Int)<t59) then
  (idx t58 t60).bind fun fh=>
  bif (decide (0≤fh.toInt))&&(decide (fh.toInt<(dg.length:Int))) then
  (dg[(fh.toInt:Int).toNat]?).bind fun mK=>
  bif (decide (0≤(IntKind.wrap .i64 (1+t60))))&&(decide ((IntKind.wrap .i64 (1+t60))<7)) then
   bif Nat.blt (0+(((IntKind.wrap .i64 (1+t60):Int).toNat)*1)) 7 then
   kn (IntKind.wrap .i64 (t60+1),bif Nat.beq (0+(((IntKind.wrap .i64 (1+t60):Int).toNat)*1)) 0 then mK.toInt else GL,bif Nat.beq (0+(((IntKind.wrap .i64 (1+t60):Int).toNat)*1)) 1 then mK.toInt else GM,bif Nat.beq (0+(((IntKind.wrap .i64 (1+t60):Int).toNat)*1)) 2 then mK.toInt else GN,bif Nat.beq (0+(((IntKind.wrap .i64 (1+t60):Int).toNat)*1)) 3 then mK.toInt else GO,bif Nat.beq (0+(((IntKind.wrap .i64 (1+t60):Int).toNat)*1)) 4 then mK.toInt else GP,bif Nat.beq (0+(((IntKind.wrap .i64 (1+t60):Int).toNat)*1)) 5 then mK.toInt else GQ,bif Nat.beq (0+(((IntKind.wrap .i64 (1+t60):Int).toNat)*1)) 6 then mK.toInt else GR)
   else none
  else none
  else none
 else
  kr (t60,decide ((t60:Int)<t59),GL,GM,GN,GO,GP,GQ,GR)
noncomputable def GS (C:ae) (count q:Int) (t46:List V) (t47 t48:Int) (t58:List V) (t59 aK aP:Int) (bc a9 dg numbers mQ:List V):(Int × Int × Int × Int × Int × Int × Int × Int)→Option ((Int × Int × Int × Int × Int × Int × Int × Int) ⊕ (Int × Bool × Int × Int × Int × Int × Int × Int × Int)):=un fun t60=>un fun GL=>un fun GM=>un fun GN=>un fun GO=>un fun GP=>un fun GQ GR=>BD C count q t46 t47 t48 t58 t59 aK aP bc a9 dg numbers mQ t60 GL GM GN GO GP GQ GR (fun y=>some (.inl y)) (fun r=>some (.inr r))
noncomputable def BE (C:ae) (count:Int) (t46:List V) (t47 aK aP:Int) (bc a9 dg:List V) (t48:Int) (numbers mQ:List V) {β:Type} (kn:(Int × (List V) × (List V))→Option β) (kr:(Int × Bool × (List V) × (List V))→Option β):Option β:=
 bif decide ((t48:Int)<t47) then
  (idx t46 t48).bind fun x9=>
  bif (decide (0≤t48))&&(decide (t48<(dg.length:Int))) then
  (dg[(t48:Int).toNat]?).bind fun gU=>
  (Loop (GS C count t48 t46 t47 t48 x9.toList (x9.toList.length:Int) aK aP bc a9 dg numbers mQ) (0,gU.toInt,0,0,0,0,0,0)).bind (un fun (rD:Int)=>un fun (A9:Bool)=>un fun (BF:Int)=>un fun (BG:Int)=>un fun (BH:Int)=>un fun (BI:Int)=>un fun (BJ:Int)=>un fun (BK:Int) (BL:Int)=>
   bif (cK .i64 BF&&(cK .i64 BG&&(cK .i64 BH&&(cK .i64 BI&&(cK .i64 BJ&&(cK .i64 BK&&(cK .i64 BL&&true)))))))&&true then
    bif !(fH (.agg [.int .i64 BF,.int .i64 BG,.int .i64 BH,.int .i64 BI,.int .i64 BJ,.int .i64 BK,.int .i64 BL]) numbers) then
    bif (cK .i64 BF&&(cK .i64 BG&&(cK .i64 BH&&(cK .i64 BI&&(cK .i64 BJ&&(cK .i64 BK&&(cK .i64 BL&&true)))))))&&true then
     bif (decide (0≤t48))&&(decide (t48<(mQ.length:Int))) then
     (mQ[(t48:Int).toNat]?).bind fun x22=>
     kn (IntKind.wrap .i64 (t48+1),e9 (.agg [.int .i64 BF,.int .i64 BG,.int .i64 BH,.int .i64 BI,.int .i64 BJ,.int .i64 BK,.int .i64 BL]) (.int .i64 (numbers.length:Int)) numbers,mQ.set ((t48:Int).toNat) (.int .i64 (numbers.length:Int)))
     else none
    else none
    else
    bif (decide (0≤t48))&&(decide (t48<(mQ.length:Int))) then
     (mQ[(t48:Int).toNat]?).bind fun lJ=>
     kn (IntKind.wrap .i64 (t48+1),numbers,mQ.set ((t48:Int).toNat) (.int .i64 ((gY (.agg [.int .i64 BF,.int .i64 BG,.int .i64 BH,.int .i64 BI,.int .i64 BJ,.int .i64 BK,.int .i64 BL]) numbers (.int .i64 0)).toInt)))
    else none
   else none)
  else none
 else
  kr (t48,decide ((t48:Int)<t47),numbers,mQ)
noncomputable def GU (C:ae) (count:Int) (t46:List V) (t47 aK aP:Int) (bc a9 dg:List V):(Int × (List V) × (List V))→Option ((Int × (List V) × (List V)) ⊕ (Int × Bool × (List V) × (List V))):=un fun t48=>un fun numbers mQ=>BE C count t46 t47 aK aP bc a9 dg t48 numbers mQ (fun y=>some (.inl y)) (fun r=>some (.inr r))
noncomputable def BM (C:ae) (aK aP:Int) (bc a9:List V) (count:Int) (dg:List V) {β:Type} (kn:(Int × (List V))→Option β) (kr:(List V)→Option β):Option β:=
 bif (decide (0≤(dg.length:Int)))&&((decide ((dg.length:Int)≤(dg.length:Int)))&&(Nat.ble ((((dg.length:Int):Int).toNat)*8) bH)) then
  (Loop (GU C count a9 (a9.length:Int) aK aP bc a9 dg) (0,([]:List V),List.replicate (((dg.length:Int):Int).toNat) (V.int .i64 0))).bind (un fun (ak6:Int)=>un fun (afk:Bool)=>un fun (Vk:List V) (Vl:List V)=>
   bif ((Vk.length:Int):Int)==count then
   kr Vl
   else
   kn ((Vk.length:Int),Vl))
 else none
noncomputable def BN (C:ae) (aK aP:Int) (bc a9:List V):(Int × (List V))→Option ((Int × (List V)) ⊕ (List V)):=un fun count dg=>BM C aK aP bc a9 count dg (fun y=>some (.inl y)) (fun r=>some (.inr r))
noncomputable def Vm (C:ae):cy:=fun β n ds k=>
 bif Nat.beq n 81 then bw LC [true,false,false,true,false,false,false,false,true] [[0,2,3,0,0,5,6,7,8,0]] (@BC C) ds k else
 bif Nat.beq n 273 then bw LD [false,false,false,false,false,false,false,true,false,false,false,false,false,false,false,true,true,true,true,true,true,true] [[1,2,3,4,5,6,7,0,0,9,10,11,12,13,14,15,0,0,0,0,0,0,0]] (@BD C) ds k else
 bif Nat.beq n 209 then bw LF [false,false,false,true,false,false,false,false,false,true,true] [[1,2,3,0,0,5,6,7,8,9,0,0]] (@BE C) ds k else
 bif Nat.beq n 161 then bw LG [true,false,false,false,false,true] [[0]] (@BM C) ds k else
 none
abbrev GV (C:ae) (b:cv):Prop:=cw Tryd.prog av C (Vm C) 109 (cR Tryd.prog (av.aT 109)) (av.sin 109).aX.length b
theorem afl (C:ae):GV C (.loop (aq [1,1,1,0,1,0,0] ti)):=
 bC LC [true,false,false,true,false,false,false,false,true] [[0,2,3,0,0,5,6,7,8,0]] (@BC C) (by kernel_rfl) (aV (bs:=[]) (by kernel_rfl) au) (fun ds=>by kernel_rfl) (fun i x=>by kernel_rfl) (fun i x β k=>by kernel_rfl) (fun β ds k=>by kernel_rfl)
theorem afm (C:ae):GV C (.loop (aq [1,1,1,1,0,0,0,1,1,0,1,0,0,1,1,0,0,1,1,0,1,0,0] ti)):=
 bC LD [false,false,false,false,false,false,false,true,false,false,false,false,false,false,false,true,true,true,true,true,true,true] [[1,2,3,4,5,6,7,0,0,9,10,11,12,13,14,15,0,0,0,0,0,0,0]] (@BD C) (by kernel_rfl) (aV (bs:=[]) (by kernel_rfl) au) (fun ds=>by kernel_rfl) (fun i x=>by kernel_rfl) (fun i x β k=>by kernel_rfl) (fun β ds k=>by kernel_rfl)
theorem afn (C:ae):GV C (.loop (aq [1,1,1,1,0,0,0,1,1,0,1,0,0] ti)):=
 bC LF [false,false,false,true,false,false,false,false,false,true,true] [[1,2,3,0,0,5,6,7,8,9,0,0]] (@BE C) (by kernel_rfl) (aV (bs:=[.loop (aq [1,1,1,1,0,0,0,1,1,0,1,0,0,1,1,0,0,1,1,0,1,0,0] ti)]) (by kernel_rfl) (bf (afm C) au)) (fun ds=>by kernel_rfl) (fun i x=>by kernel_rfl) (fun i x β k=>by kernel_rfl) (fun β ds k=>by kernel_rfl)
theorem afo (C:ae):GV C (.loop (aq [1,1,1,1,0,0] ti)):=
 bC LG [true,false,false,false,false,true] [[0]] (@BM C) (by kernel_rfl) (aV (bs:=[.loop (aq [1,1,1,1,0,0,0,1,1,0,1,0,0] ti)]) (by kernel_rfl) (bf (afn C) au)) (fun ds=>by kernel_rfl) (fun i x=>by kernel_rfl) (fun i x β k=>by kernel_rfl) (fun β ds k=>by kernel_rfl)
noncomputable def Vn (C:ae) (aQ aS:Int) (aF aZ:List V):Option (List V):=
 (C lC [.int .i64 aQ,.int .i64 aS,.list ak aF,.list an aZ]).bind fun r1=>
 bif (((V.nth r1 0).toInt):Int) != 0 then
  some [.list aY ([]:List V)]
 else
  bif (decide (0≤(aF.length:Int)))&&((decide ((aF.length:Int)≤(aF.length:Int)))&&(Nat.ble ((((aF.length:Int):Int).toNat)*8) bH)) then
  (Loop (GK C aF (aF.length:Int) aQ aS aF aZ) (1,0,List.replicate (((aF.length:Int):Int).toNat) (V.int .i64 0))).bind (un fun (afp:Int)=>un fun (rn:Int)=>un fun (nF:Bool) (afq:List V)=>
   (Loop (BN C aQ aS aF aZ) (afp,afq)).bind (fun (afr:List V)=>
    some [.list aY afr]))
  else none
theorem afs {aQ aS:Int} {aF aZ:List V} {r:Option (List V)} (h:Vn CC aQ aS aF aZ=r):CC Fx [.int .i64 aQ,.int .i64 aS,.list ak aF,.list an aZ]=r:=
 bh (key:=109) (L:=Vm CC) (bs:=[.loop (aq [1,1,1,0,1,0,0] ti),.loop (aq [1,1,1,1,0,0] ti)]) (by kernel_rfl) (bf (afl CC) (bf (afo CC) au)) (Eq.trans (by kernel_rfl) h)
def dx (a:Da) (c:Nat→Nat) (q t j:Nat):Nat:=if j=0 then c q else if j≤t then c (a.nx q (j-1)) else 0
def dv (a:Da) (c:Nat→Nat) (q:Nat):List Nat:=tab 7 (dx a c q a.L)
def BO (s:List Nat):V:= .agg (s.map nV)
theorem Vo: ∀s t:List Nat,oc (s.map nV) (t.map nV)=decide (s=t)
 | [],[]=>rfl
 | [],b::t=>rfl
 | a::s,[]=>rfl
 | a::s,b::t=>by
  simp only[List.map_cons,oc]
  rw[Vo s t,Bool.eq_iff_iff]
  simp only[nV,qf]
  simp only[Bool.and_eq_true,beq_iff_eq,decide_eq_true_eq,List.cons.injEq]
  exact and_congr (by omega) Iff.rfl
theorem MX (s t:List Nat):gJ (BO s) (BO t)=decide (s=t):=Vo s t
theorem MY {a:Da} (h:a.Ok) {c:Nat→Nat} {q q':Nat}:dv a c q=dv a c q'↔a.sig c q=a.sig c q':=by
 rw[Da.vo]
 have h6:=h.l6
 constructor
 ·intro e
  have g:=fun j (hj:j<7)=>congrArg (fun l:List Nat=>l.getD j 0) e
  unfold dv at g
  refine ⟨?_,fun x hx=> ?_⟩
  ·have:=g 0 (by omega)
   rw[xF (by omega),xF (by omega)] at this
   exact this
  ·have:=g (x+1) (by omega)
   rw[xF (by omega),xF (by omega)] at this
   unfold dx at this
   rwa [if_neg (by omega),if_pos (by omega),if_neg (by omega),if_pos (by omega)] at this
 ·rintro ⟨h1,h2⟩
  refine dU fun j _=> ?_
  unfold dx
  by_cases hj:j=0
  ·rw[if_pos hj,if_pos hj,h1]
  ·rw[if_neg hj,if_neg hj]
   by_cases bZ:j≤a.L
   ·rw[if_pos bZ,if_pos bZ,h2 (j-1) (by omega)]
   ·rw[if_neg bZ,if_neg bZ]
theorem vr {a:Da} {c:Nat→Nat} {q t:Nat} (j:Nat):(bif Nat.beq (0+(t+1)*1) j then ((c (a.nx q t):Nat):Int) else ((dx a c q t j:Nat):Int))=((dx a c q (t+1) j:Nat):Int):=by
 by_cases hj:t+1=j
 ·rw[show Nat.beq (0+(t+1)*1) j=true from by rw[Nat.beq_eq];omega,cond_true,←hj]
  unfold dx
  rw[if_neg (by omega),if_pos (by omega)]
  rfl
 ·rw[show Nat.beq (0+(t+1)*1) j=false from by rw[←Bool.not_eq_true,Nat.beq_eq];omega,cond_false]
  unfold dx
  by_cases h0:j=0
  ·rw[if_pos h0,if_pos h0]
  ·rw[if_neg h0,if_neg h0]
   by_cases h1:j≤t
   ·rw[if_pos h1,if_pos (by omega)]
   ·rw[if_neg h1,if_neg (by omega)]
def cV (n:Nat) (c:Nat→Nat):List V:=tab n fun q=>nV (c q)
section
variable {a:Da} (h:a.Ok) {c:Nat→Nat}
include h
theorem aft {q:Nat} (hq:q<a.n) {k1 k2 k3 k4 k5 k6:Int} {l1 l2 l3 l4 l5:List V}:
  Loop (GS CC k1 k2 l1 k3 k4 (tab a.L fun x=>iV (a.nx q x)) ((tab a.L fun x=>iV (a.nx q x)).length:Int) k5 k6 l2 l3 (cV a.n c) l4 l5) (0,(c q:Int),0,0,0,0,0,0)=
   some ((a.L:Int),false,(dx a c q a.L 0:Int),(dx a c q a.L 1:Int),(dx a c q a.L 2:Int),(dx a c q a.L 3:Int),(dx a c q a.L 4:Int),(dx a c q a.L 5:Int),(dx a c q a.L 6:Int)):=by
 have h6:=h.l6
 rw[dJ]
 refine (eG a.L (fun t=>((t:Int),(dx a c q t 0:Int),(dx a c q t 1:Int),(dx a c q t 2:Int),(dx a c q t 3:Int),(dx a c q t 4:Int),(dx a c q t 5:Int),(dx a c q t 6:Int))) _ (fun t ht=> ?_) ?_)
 ·simp only[GS,BD,un]
  refine bT (dE ht) ?_
  refine bs (mP ht) ?_
  refine (eF (i:=a.nx q t) (h.dS hq ht)).trans ?_
  have w:IntKind.wrap .i64 (1+(t:Int))=((t+1:Nat):Int):=by rw[wrap64 (by omega) (by omega)];omega
  rw[w,cN (by omega),Int.toNat_natCast]
  refine bT (Bool.and_eq_true_iff.2 ⟨decide_eq_true (by omega),decide_eq_true (by omega)⟩) ?_
  refine bT (show Nat.ble (0+(t+1)*1+1) 7=true by rw[Nat.ble_eq];omega) ?_
  show some (Sum.inl _)=some (Sum.inl _)
  refine congrArg (fun x=>some (Sum.inl x)) ?_
  exact Prod.ext rfl (Prod.ext (vr 0) (Prod.ext (vr 1) (Prod.ext (vr 2) (Prod.ext (vr 3) (Prod.ext (vr 4) (Prod.ext (vr 5) (vr 6)))))))
 ·simp only[GS,BD,un]
  refine bF (bu (Nat.le_refl _)) ?_
  rw[bu (Nat.le_refl _)]
theorem afu (hc: ∀q,q<a.n→c q≤1000) {q:Nat} (hq:q<a.n) (j:Nat):dx a c q a.L j≤1000:=by
 unfold dx
 split
 ·exact hc q hq
 ·split
  ·exact hc _ (h.dS hq (by omega))
  ·omega
theorem afv (hc: ∀q,q<a.n→c q≤1000) {k1 k2 k3:Int} {l2:List V}:
  Loop (GU CC k1 a.bD (a.bD.length:Int) k2 k3 l2 a.bD (cV a.n c)) (0,([]:List V),List.replicate ((((cV a.n c).length:Int):Int).toNat) (V.int .i64 0))=
   some ((a.n:Int),false,fB BO 0 (aL (dv a c) a.n),cV a.n (cp (dv a c) a.n)):=by
 have hm:=h.di
 have hl:(cV a.n c).length=a.n:=by simp[cV]
 rw[hl,Int.toNat_natCast,lH,Da.UR]
 refine (eG a.n (fun i=>((i:Int),fB BO 0 (aL (dv a c) i),(tab a.n fun q=>if q<i then nV (cp (dv a c) a.n q) else nV 0))) _ (fun q hq=> ?_) ?_)
 ·have hle:=rH (dv a c) q
  simp only[GU,BE,un]
  refine bT (dE hq) ?_
  refine bs (Da.kX hq) ?_
  refine (eF (i:=q) hq).trans ?_
  simp only[lI]
  refine bs (aft h hq) ?_
  have k0:=afu h hc hq
  have kk: ∀j,cK .i64 ((dx a c q a.L j:Nat):Int)=true:=fun j=>te (by have:=k0 j;omega)
  have Vp:((cK .i64 ((dx a c q a.L 0:Nat):Int)&&(cK .i64 ((dx a c q a.L 1:Nat):Int)&&(cK .i64 ((dx a c q a.L 2:Nat):Int)&&(cK .i64 ((dx a c q a.L 3:Nat):Int)&&(cK .i64 ((dx a c q a.L 4:Nat):Int)&&(cK .i64 ((dx a c q a.L 5:Nat):Int)&&(cK .i64 ((dx a c q a.L 6:Nat):Int)&&true)))))))&&true)=true:=by
   simp only[kk,Bool.and_self]
  refine bT Vp ?_
  have ek:V.agg [V.int .i64 (dx a c q a.L 0:Int),V.int .i64 (dx a c q a.L 1:Int),V.int .i64 (dx a c q a.L 2:Int),V.int .i64 (dx a c q a.L 3:Int),V.int .i64 (dx a c q a.L 4:Int),V.int .i64 (dx a c q a.L 5:Int),V.int .i64 (dx a c q a.L 6:Int)]=BO (dv a c q):=rfl
  simp only[un,ek]
  have e1:=xI MX (dv a c q) (aL (dv a c) q) 0
  have fin: ∀v,v=nV (cp (dv a c) a.n q)→(tab a.n fun j=>if j<q then nV (cp (dv a c) a.n j) else nV 0).set q v=tab a.n fun j=>if j<q+1 then nV (cp (dv a c) a.n j) else nV 0:=by
   rintro v rfl
   rw[mO]
   refine dU fun j _=> ?_
   by_cases hj:j=q
   ·rw[if_pos hj,if_pos (by omega),hj]
   ·rw[if_neg hj]
    by_cases bZ:j<q
    ·rw[if_pos bZ,if_pos (by omega)]
    ·rw[if_neg bZ,if_neg (by omega)]
  rw[cN (by omega)]
  by_cases hx:dv a c q∈aL (dv a c) q
  ·refine bF (by rw[e1];simpa using hx) ?_
   refine (eF hq).trans ?_
   have e2:=xJ MX (dv a c q) (.int .i64 0) (aL (dv a c) q) 0 hx
   rw[Nat.zero_add,←Vd hq hx] at e2
   rw[e2,V.toInt_int,Int.toNat_natCast,show (V.int .i64 (cp (dv a c) a.n q:Int))=nV (cp (dv a c) a.n q) from rfl,fin _ rfl,MT hx]
  ·refine bT (by rw[e1];simpa using hx) ?_
   refine bT Vp ?_
   refine (eF hq).trans ?_
   have e2:=xK MX (dv a c q) (aL (dv a c) q) 0 hx
   rw[Nat.zero_add] at e2
   rw[xH,e2,Int.toNat_natCast,←Ve hq hx,show (V.int .i64 (cp (dv a c) a.n q:Int))=nV (cp (dv a c) a.n q) from rfl,fin _ rfl,GF hx]
 ·simp only[GU,BE,un]
  refine bF (bu (Nat.le_refl _)) ?_
  rw[bu (Nat.le_refl _)]
  have:(tab a.n fun q=>if q<a.n then nV (cp (dv a c) a.n q) else nV 0)=cV a.n (cp (dv a c) a.n):=dU fun q hq=>if_pos hq
  rw[this]
def kZ (a:Da):Nat→Nat
 | 0=>1
 | i+1=>if a.fin i=a.fin 0 then kZ a i else 2
def fp (a:Da) (q:Nat):Nat:=if a.fin q=a.fin 0 then 0 else 1
theorem afw:(aL (fp a) a.n).length=kZ a a.n:=by
 have key: ∀m,(aL (fp a) (m+1)=[0]∧kZ a (m+1)=1)∨(aL (fp a) (m+1)=[0,1]∧kZ a (m+1)=2):=by
  intro m
  induction m with
  | zero=>left;simp[aL,cx,fp,kZ]
  | succ m ih=>
   rw[aL,kZ]
   unfold fp cx
   by_cases hf:a.fin (m+1)=a.fin 0
   ·rw[if_pos hf,if_pos hf]
    rcases ih with ⟨i1,i2⟩|⟨i1,i2⟩
    ·left;refine ⟨?_,i2⟩;unfold fp at i1;rw[i1];rfl
    ·right;refine ⟨?_,i2⟩;unfold fp at i1;rw[i1];rfl
   ·rw[if_neg hf,if_neg hf]
    rcases ih with ⟨i1,i2⟩|⟨i1,i2⟩
    ·right;refine ⟨?_,rfl⟩;unfold fp at i1;rw[i1];rfl
    ·right;refine ⟨?_,rfl⟩;unfold fp at i1;rw[i1];rfl
 have hs:=h.s
 obtain ⟨m,hm⟩: ∃m,a.n=m+1:=⟨a.n-1,by omega⟩
 rw[hm]
 rcases key m with ⟨e1,e2⟩|⟨e1,e2⟩<;>rw[e1,e2]<;>rfl
theorem afx {k2 k3:Int} {l2:List V}:Loop (GK CC a.bz (a.bz.length:Int) k2 k3 a.bz l2) (1,0,List.replicate ((((a.bz.length:Nat):Int)).toNat) (V.int .i64 0))=some ((kZ a a.n:Int),(a.n:Int),false,cV a.n (fp a)):=by
 have hm:=h.di
 have hs:=h.s
 rw[Da.kW,Int.toNat_natCast,lH]
 refine (eG a.n (fun i=>((kZ a i:Int),(i:Int),(tab a.n fun q=>if q<i then nV (fp a q) else nV 0))) _ (fun q hq=> ?_) ?_)
 ·simp only[GK,BC,un]
  refine bT (dE hq) ?_
  refine bs (Da.oP hq) ?_
  refine bs (a:= .bool (a.fin 0)) (by unfold Da.bz;exact Gt (by omega)) ?_
  rw[cN (by omega)]
  have fin:(tab a.n fun j=>if j<q then nV (fp a j) else nV 0).set q (nV (fp a q))=tab a.n fun j=>if j<q+1 then nV (fp a j) else nV 0:=by
   rw[mO]
   refine dU fun j _=> ?_
   by_cases hj:j=q
   ·rw[if_pos hj,if_pos (by omega),hj]
   ·rw[if_neg hj]
    by_cases bZ:j<q
    ·rw[if_pos bZ,if_pos (by omega)]
    ·rw[if_neg bZ,if_neg (by omega)]
  simp only[V.oG]
  by_cases hf:a.fin q=a.fin 0
  ·refine bF (by rw[hf];simp) ?_
   have e:kZ a (q+1)=kZ a q:=by rw[kZ,if_pos hf]
   have e2:(tab a.n fun j=>if j<q then nV (fp a j) else nV 0)=tab a.n fun j=>if j<q+1 then nV (fp a j) else nV 0:=dU fun j _=>by
    by_cases hj:j=q
    ·rw[if_neg (by omega),if_pos (by omega),hj];unfold fp;rw[if_pos hf]
    ·by_cases bZ:j<q
     ·rw[if_pos bZ,if_pos (by omega)]
     ·rw[if_neg bZ,if_neg (by omega)]
   rw[e,e2]
  ·refine bT (by simpa using hf) ?_
   refine (eF hq).trans ?_
   have e:kZ a (q+1)=2:=by rw[kZ,if_neg hf]
   have e3:fp a q=1:=by unfold fp;rw[if_neg hf]
   rw[e3] at fin
   rw[e,Int.toNat_natCast,show (V.int .i64 1)=nV 1 from rfl,fin];rfl
 ·simp only[GK,BC,un]
  refine bF (bu (Nat.le_refl _)) ?_
  rw[bu (Nat.le_refl _)]
  have:(tab a.n fun q=>if q<a.n then nV (fp a q) else nV 0)=cV a.n (fp a):=dU fun q hq=>if_pos hq
  rw[this]
theorem afy {k2 k3:Int} {l2:List V}: ∃p,Loop (BN CC k2 k3 l2 a.bD) ((kZ a a.n:Int),cV a.n (fp a))=some (cV a.n p)∧a.vp p∧∀q,q<a.n→p q≤1000:=by
 have hm:=h.di
 have:=R5 (step:=BN CC k2 k3 l2 a.bD)
  (fun x=> ∃c,x=(((aL c a.n).length:Int),cV a.n c)∧a.Part c∧∀q,q<a.n→c q≤1000)
  (fun x=>a.n-x.1.toNat)
  (fun r=> ∃p,r=cV a.n p∧a.vp p∧∀q,q<a.n→p q≤1000) (fun x hx=> ?_) ((kZ a a.n:Int),cV a.n (fp a)) ⟨fp a,by rw[afw h],⟨?_,?_⟩,?_⟩
 ·obtain ⟨r,h1,p,rfl,h2,h3⟩:=this
  exact ⟨p,h1,h2,h3⟩
 ·obtain ⟨c,rfl,hp,hc⟩:=hx
  have hl:(cV a.n c).length=a.n:=by simp[cV]
  have nL:a.GG c (cp (dv a c) a.n):=fun q q' hq b9=>(Bz hq b9).trans (MY h)
  have hle:=rH (dv a c) a.n
  have hb: ∀q,q<a.n→cp (dv a c) a.n q≤1000:=fun q hq=>by have:=By (g:=dv a c) hq;omega
  have vu: ∀q q',q<a.n→q'<a.n→dv a c q=dv a c q'→c q=c q':=fun q q' hq b9 e=>(Da.vo.1 ((MY h).1 e)).1
  have afz:=Vg vu
  have cr:=afv h hc (k1:=((aL c a.n).length:Int)) (k2:=k2) (k3:=k3) (l2:=l2)
  by_cases he:(aL (dv a c) a.n).length=(aL c a.n).length
  ·right
   refine ⟨_,?_,cp (dv a c) a.n,rfl,⟨fun q q' hq b9=> ?_,MU _ _⟩,hb⟩
   ·simp only[BN,BM,un]
    refine bT (by rw[hl];exact kV (by omega) (by omega)) ?_
    refine bs cr ?_
    refine bT (by rw[xH];simp[he]) ?_
    rfl
   ·have bP:=MV vu (by omega)
    rw[Bz hq b9,←hp.Vh h (fun s s' hs sN e=>(MY h).1 (bP s s' hs sN e)) q q' hq b9]
    exact ⟨vu q q' hq b9,bP q q' hq b9⟩
  ·left
   have e2:(aL (cp (dv a c) a.n) a.n).length=(aL (dv a c) a.n).length:=by rw[Vf _ _ _ (Nat.le_refl _),List.length_range]
   refine ⟨(((aL (dv a c) a.n).length:Int),cV a.n (cp (dv a c) a.n)),?_,⟨cp (dv a c) a.n,by rw[e2],nL.part h hp,hb⟩,?_⟩
   ·simp only[BN,BM,un]
    refine bT (by rw[hl];exact kV (by omega) (by omega)) ?_
    refine bs cr ?_
    refine bF (by rw[xH];simpa using fun e=>he (by omega)) ?_
    rw[xH]
   ·simp only[Int.toNat_natCast]
    omega
 ·intro q q' hq b9 he
  have:=he [] WL.nil
  rw[Da.nJ,Da.nJ] at this
  unfold fp;rw[this]
 ·intro q q' hq b9 he
  unfold fp at he
  split at he<;>split at he
  ·rename_i h1 h2;rw[h1,h2]
  ·omega
  ·omega
  ·rename_i h1 h2
   revert h1 h2
   cases a.fin q<;>cases a.fin q'<;>cases a.fin 0<;>simp
 ·intro q _
  unfold fp;split<;>omega
theorem afA: ∃p,CC Fx (dj a)=some [.list aY (cV a.n p)]∧a.vp p∧∀q,q<a.n→p q≤1000:=by
 have hm:=h.di
 obtain ⟨p,h1,h2,h3⟩:=afy h (k2:=(a.L:Int)) (k3:=(a.st:Int)) (l2:=a.bz)
 refine ⟨p,afs ?_,h2,h3⟩
 unfold Vn
 refine bs (oQ h) ?_
 refine bF rfl ?_
 refine bT (by rw[Da.kW];exact kV (by omega) (by omega)) ?_
 refine bs (afx h) ?_
 refine bs h1 ?_
 rfl
end
noncomputable abbrev xQ:Code:=cL Tryd.prog (av.aT 86)
noncomputable def BP (C:ae) (q t29 t30:Int) (t47:List V) (t48 aK aP:Int) (bc a9:List V) (bX bY xR xS:Int) (places dg:List V) (xT xU:Int) (bK bS dc dK fP BQ:List V) (t49:Int) (rows:List V) {β:Type} (kn:(Int × (List V))→Option β) (kr:(Int × Bool × (List V))→Option β):Option β:=
 bif decide ((t49:Int)<t48) then
  (idx t47 t49).bind fun x5=>
  bif (decide (0≤x5.toInt))&&(decide (x5.toInt<(dg.length:Int))) then
  (dg[(x5.toInt:Int).toNat]?).bind fun x6=>
  bif (decide (0≤t49))&&(decide (t49<(rows.length:Int))) then
   (rows[(t49:Int).toNat]?).bind fun x7=>
   kn (IntKind.wrap .i64 (t49+1),rows.set ((t49:Int).toNat) (.int .i64 x6.toInt))
  else none
  else none
 else
  kr (t49,decide ((t49:Int)<t48),rows)
noncomputable def GW (C:ae) (q t29 t30:Int) (t47:List V) (t48 aK aP:Int) (bc a9:List V) (bX bY xR xS:Int) (places dg:List V) (xT xU:Int) (bK bS dc dK fP BQ:List V):(Int × (List V))→Option ((Int × (List V)) ⊕ (Int × Bool × (List V))):=un fun t49 rows=>BP C q t29 t30 t47 t48 aK aP bc a9 bX bY xR xS places dg xT xU bK bS dc dK fP BQ t49 rows (fun y=>some (.inl y)) (fun r=>some (.inr r))
noncomputable def BR (C:ae) (t29 aK aP:Int) (bc a9:List V) (bX bY xR xS:Int) (places dg:List V) (xT xU:Int) (bU bK bS dc:List V) (t30:Int) (dK fP:List V) {β:Type} (kn:(Int × (List V) × (List V))→Option β) (kr:(Int × Bool × (List V) × (List V))→Option β):Option β:=
 bif decide ((t30:Int)<t29) then
  bif (decide (0≤t30))&&(decide (t30<(dg.length:Int))) then
  (dg[(t30:Int).toNat]?).bind fun x3=>
  bif decide ((x3.toInt:Int)<(dK.length:Int)) then
   kn (IntKind.wrap .i64 (t30+1),dK,fP)
  else
   bif (decide (0≤aK))&&((decide (aK≤aK))&&(Nat.ble (((aK:Int).toNat)*8) bH)) then
   bif (decide (0≤t30))&&(decide (t30<(dc.length:Int))) then
    (dc[(t30:Int).toNat]?).bind fun x4=>
    (Loop (GW C t30 t29 t30 x4.toList (x4.toList.length:Int) aK aP bc a9 bX bY xR xS places dg xT xU bU bK bS dc dK fP) (0,List.replicate ((aK:Int).toNat) (V.int .i64 0))).bind (un fun (ta:Int)=>un fun (rF:Bool) (Vq:List V)=>
     bif (decide (0≤t30))&&(decide (t30<(bS.length:Int))) then
     (bS[(t30:Int).toNat]?).bind fun fh=>
     bif Nat.ble ((dK.length+([.bool fh.toBool]:List V).length)*1) bH then
      bif Nat.ble ((fP.length+([.list aY Vq]:List V).length)*24) bH then
      kn (IntKind.wrap .i64 (t30+1),dK++([.bool fh.toBool]:List V),fP++([.list aY Vq]:List V))
      else none
     else none
     else none)
   else none
   else none
  else none
 else
  kr (t30,decide ((t30:Int)<t29),dK,fP)
noncomputable def GX (C:ae) (t29 aK aP:Int) (bc a9:List V) (bX bY xR xS:Int) (places dg:List V) (xT xU:Int) (bU bK bS dc:List V):(Int × (List V) × (List V))→Option ((Int × (List V) × (List V)) ⊕ (Int × Bool × (List V) × (List V))):=un fun t30=>un fun dK fP=>BR C t29 aK aP bc a9 bX bY xR xS places dg xT xU bU bK bS dc t30 dK fP (fun y=>some (.inl y)) (fun r=>some (.inr r))
noncomputable def BT (C:ae) (t88 bX bY:Int) (dg:List V) (nM nO:Int) (numbers GY bU bK bS dc:List V) (t89:Int) (dL:List V) {β:Type} (kn:(Int × (List V))→Option β) (kr:(Int × Bool × (List V))→Option β):Option β:=
 bif decide ((t89:Int)<t88) then
  bif (decide (0≤t89))&&(decide (t89<(GY.length:Int))) then
  (GY[(t89:Int).toNat]?).bind fun pW=>
  bif (decide (0≤t89))&&(decide (t89<(dL.length:Int))) then
   (dL[(t89:Int).toNat]?).bind fun xV=>
   bif decide ((pW.toInt:Int)≥0) then
   bif (decide (0≤pW.toInt))&&(decide (pW.toInt<(dg.length:Int))) then
    (dg[(pW.toInt:Int).toNat]?).bind fun lK=>
    bif (decide (0≤lK.toInt))&&(decide (lK.toInt<(numbers.length:Int))) then
    (numbers[(lK.toInt:Int).toNat]?).bind fun rJ=>
    bif (decide (0≤t89))&&(decide (t89<((dL.set ((t89:Int).toNat) (.int .i64 (-1))).length:Int))) then
     ((dL.set ((t89:Int).toNat) (.int .i64 (-1)))[(t89:Int).toNat]?).bind fun BU=>
     kn (IntKind.wrap .i64 (t89+1),(dL.set ((t89:Int).toNat) (.int .i64 (-1))).set ((t89:Int).toNat) (.int .i64 rJ.toInt))
    else none
    else none
   else none
   else
   kn (IntKind.wrap .i64 (t89+1),dL.set ((t89:Int).toNat) (.int .i64 (-1)))
  else none
  else none
 else
  kr (t89,decide ((t89:Int)<t88),dL)
noncomputable def GZ (C:ae) (t88 bX bY:Int) (dg:List V) (nM nO:Int) (numbers GY bU bK bS dc:List V):(Int × (List V))→Option ((Int × (List V)) ⊕ (Int × Bool × (List V))):=un fun t89 dL=>BT C t88 bX bY dg nM nO numbers GY bU bK bS dc t89 dL (fun y=>some (.inl y)) (fun r=>some (.inr r))
noncomputable def Vr (C:ae):cy:=fun β n ds k=>
 bif Nat.beq n 161 then bw Li [false,false,false,false,false,true,false,false,false,false,false,false,false,false,false,false,false,false,true,false,false,false,false,false,false] [[1,2,3,4,5,0,0,7,8,9,10,11,12,13,14,15,16,17,18,0,20,21,22,23,24,25]] (@BP C) ds k else
 bif Nat.beq n 81 then bw Lj [false,true,false,false,false,false,false,false,false,false,false,false,false,false,false,false,false,false,true,true] [[1,0,0,3,4,5,6,7,8,9,10,11,12,13,14,15,16,17,18,0,0]] (@BR C) ds k else
 bif Nat.beq n 321 then bw Lk [false,true,false,false,false,false,false,false,true,false,false,false,false,false] [[1,0,0,3,4,5,6,7,8,0,10,11,12,13,14]] (@BT C) ds k else
 none
abbrev MZ (C:ae) (b:cv):Prop:=cw Tryd.prog av C (Vr C) 86 (cR Tryd.prog (av.aT 86)) (av.sin 86).aX.length b
theorem afB (C:ae):MZ C (.loop (aq [1,1,1,1,0,1,0,0,1,1,0,0,1,1,1,0,1,0,0] xQ)):=
 bC Li [false,false,false,false,false,true,false,false,false,false,false,false,false,false,false,false,false,false,true,false,false,false,false,false,false] [[1,2,3,4,5,0,0,7,8,9,10,11,12,13,14,15,16,17,18,0,20,21,22,23,24,25]] (@BP C) (by kernel_rfl) (aV (bs:=[]) (by kernel_rfl) au) (fun ds=>by kernel_rfl) (fun i x=>by kernel_rfl) (fun i x β k=>by kernel_rfl) (fun β ds k=>by kernel_rfl)
theorem afC (C:ae):MZ C (.loop (aq [1,1,1,1,0,1,0,0] xQ)):=
 bC Lj [false,true,false,false,false,false,false,false,false,false,false,false,false,false,false,false,false,false,true,true] [[1,0,0,3,4,5,6,7,8,9,10,11,12,13,14,15,16,17,18,0,0]] (@BR C) (by kernel_rfl) (aV (bs:=[.loop (aq [1,1,1,1,0,1,0,0,1,1,0,0,1,1,1,0,1,0,0] xQ)]) (by kernel_rfl) (bf (afB C) au)) (fun ds=>by kernel_rfl) (fun i x=>by kernel_rfl) (fun i x β k=>by kernel_rfl) (fun β ds k=>by kernel_rfl)
theorem afD (C:ae):MZ C (.loop (aq [1,1,1,1,1,1,1,0,1,0,0] xQ)):=
 bC Lk [false,true,false,false,false,false,false,false,true,false,false,false,false,false] [[1,0,0,3,4,5,6,7,8,0,10,11,12,13,14]] (@BT C) (by kernel_rfl) (aV (bs:=[]) (by kernel_rfl) au) (fun ds=>by kernel_rfl) (fun i x=>by kernel_rfl) (fun i x β k=>by kernel_rfl) (fun β ds k=>by kernel_rfl)
noncomputable def Vs (C:ae) (aQ aS:Int) (aF aZ:List V):Option (List V):=
 (C xo [.int .i64 aQ,.int .i64 aS,.list ak aF,.list an aZ]).bind fun r1=>
 (C Fx [.int .i64 ((V.nth r1 0).toInt),.int .i64 ((V.nth (r1.drop 1) 0).toInt),.list ak ((V.nth (r1.drop 2) 0).toList),.list an ((V.nth ((r1.drop 2).drop 1) 0).toList)]).bind fun r2=>
 (Loop (GX C (((V.nth r2 0).toList).length:Int) aQ aS aF aZ 0 0 ((V.nth r1 0).toInt) ((V.nth (r1.drop 1) 0).toInt) ((V.nth (((r1.drop 2).drop 1).drop 1) 0).toList) ((V.nth r2 0).toList) aQ 0 ([]:List V) ([]:List V) ((V.nth (r1.drop 2) 0).toList) ((V.nth ((r1.drop 2).drop 1) 0).toList)) (0,([]:List V),([]:List V))).bind (un fun (BV:Int)=>un fun (rD:Bool)=>un fun (vl:List V) (vd:List V)=>
  (C xo [.int .i64 aQ,.int .i64 0,.list ak vl,.list an vd]).bind fun fQ=>
  bif (decide (0≤(((V.nth (((r1.drop 2).drop 1).drop 1) 0).toList).length:Int)))&&((decide ((((V.nth (((r1.drop 2).drop 1).drop 1) 0).toList).length:Int)≤(((V.nth (((r1.drop 2).drop 1).drop 1) 0).toList).length:Int)))&&(Nat.ble ((((((V.nth (((r1.drop 2).drop 1).drop 1) 0).toList).length:Int):Int).toNat)*8) bH)) then
   (Loop (GZ C (((V.nth (((r1.drop 2).drop 1).drop 1) 0).toList).length:Int) 0 0 ((V.nth r2 0).toList) ((V.nth fQ 0).toInt) ((V.nth (fQ.drop 1) 0).toInt) ((V.nth (((fQ.drop 2).drop 1).drop 1) 0).toList) ((V.nth (((r1.drop 2).drop 1).drop 1) 0).toList) ([]:List V) ([]:List V) ((V.nth (fQ.drop 2) 0).toList) ((V.nth ((fQ.drop 2).drop 1) 0).toList)) (0,List.replicate (((((V.nth (((r1.drop 2).drop 1).drop 1) 0).toList).length:Int):Int).toNat) (V.int .i64 0))).bind (un fun (afE:Int)=>un fun (Vt:Bool) (afF:List V)=>
    some [.int .i64 ((V.nth fQ 0).toInt),.int .i64 ((V.nth (fQ.drop 1) 0).toInt),.list ak ((V.nth (fQ.drop 2) 0).toList),.list an ((V.nth ((fQ.drop 2).drop 1) 0).toList),.list aY afF])
  else none)
theorem afG {aQ aS:Int} {aF aZ:List V} {r:Option (List V)} (h:Vs CC aQ aS aF aZ=r):CC Fm [.int .i64 aQ,.int .i64 aS,.list ak aF,.list an aZ]=r:=
 bh (key:=86) (L:=Vr CC) (bs:=[.loop (aq [1,1,1,1,0,1,0,0] xQ),.loop (aq [1,1,1,1,1,1,1,0,1,0,0] xQ)]) (by kernel_rfl) (bf (afC CC) (bf (afD CC) au)) (Eq.trans (by kernel_rfl) h)
noncomputable def Vu (C:ae) (aQ aS:Int) (aF aZ:List V):Option (List V):=
 (C lC [.int .i64 aQ,.int .i64 aS,.list ak aF,.list an aZ]).bind fun r1=>
 bif (((V.nth r1 0).toInt):Int) != 0 then
  some [.int .i64 0,.int .i64 0,.list ak ([]:List V),.list an ([]:List V)]
 else
  (C Fm [.int .i64 aQ,.int .i64 aS,.list ak aF,.list an aZ]).bind fun r2=>
  some [.int .i64 ((V.nth r2 0).toInt),.int .i64 ((V.nth (r2.drop 1) 0).toInt),.list ak ((V.nth (r2.drop 2) 0).toList),.list an ((V.nth ((r2.drop 2).drop 1) 0).toList)]
theorem afH {aQ aS:Int} {aF aZ:List V} {r:Option (List V)} (h:Vu CC aQ aS aF aZ=r):CC qW [.int .i64 aQ,.int .i64 aS,.list ak aF,.list an aZ]=r:=
 bh (key:=54) (L:=db) (bs:=[]) (by kernel_rfl) au (Eq.trans (by kernel_rfl) h)
theorem afI {p:Nat→Nat} {n:Nat} (h:nK p n) (hn:0<n):p 0=0:=by
 simpa[aL,cx] using h 1 (by omega)
theorem M0 {p:Nat→Nat} {n i:Nat} (h:nK p n) (hi:i<n):p i∈aL p i↔p i<(Da.dF p i).length:=by
 rw[Da.xO]
 constructor
 ·intro hm
  rw[h i (by omega)] at hm
  simpa using hm
 ·intro hm
  rw[h i (by omega)]
  simpa using hm
theorem M1 (p:Nat→Nat) (n:Nat):(Da.dF p n).length≤n:=by rw[Da.xO];exact rH p n
def qF (a:Da) (p:Nat→Nat) (i:Nat):List V:=(Da.dF p i).map fun r=>V.bool (a.fin r)
def qN (a:Da) (p:Nat→Nat) (i:Nat):List V:=(Da.dF p i).map fun r=>fo a.L fun x=>p (a.nx r x)
theorem Vv {a:Da} {p:Nat→Nat}:(a.quo p).bz=qF a p a.n∧(a.quo p).bD=qN a p a.n:=by
 constructor
 ·unfold Da.bz qF
  rw[Bj _ 0,Da.rI]
  exact dU fun i hi=>by rw[Da.Vi hi,fA hi]
 ·unfold Da.bD qN
  rw[Bj _ 0,Da.rI]
  refine dU fun i hi=> ?_
  unfold fo
  exact congrArg _ (dU fun x hx=>by rw[Da.Vj hi hx,fA hi])
section
variable {a:Da} (h:a.Ok) {p:Nat→Nat}
include h
theorem afJ {q:Nat} (hq:q<a.n) {k1 k2 k3 k4 k5 k6 k7 k8 k9 M3 k11:Int} {l1 l2 l3 l4 l5 l6 l7 l8 l9:List V}:
  Loop (GW CC k1 k2 k3 (tab a.L fun x=>iV (a.nx q x)) ((tab a.L fun x=>iV (a.nx q x)).length:Int) k4 k5 l1 l2 k6 k7 k8 k9 l3 (cV a.n p) M3 k11 l4 l5 l6 l7 l8 l9) (0,List.replicate (((a.L:Nat):Int).toNat) (V.int .i64 0))=
   some ((a.L:Int),false,(tab a.L fun x=>nV (p (a.nx q x)))):=by
 have h6:=h.l6
 rw[dJ,Int.toNat_natCast,lH]
 refine (eG a.L (fun t=>((t:Int),(tab a.L fun x=>if x<t then nV (p (a.nx q x)) else nV 0))) _ (fun t ht=> ?_) ?_)
 ·simp only[GW,BP,un]
  refine bT (dE ht) ?_
  refine bs (mP ht) ?_
  refine (eF (i:=a.nx q t) (h.dS hq ht)).trans ?_
  refine (eF ht).trans ?_
  rw[cN (by omega),Int.toNat_natCast,mO]
  refine congrArg (fun x=>some (Sum.inl (((t+1:Nat):Int),x))) (dU fun j _=> ?_)
  by_cases hj:j=t
  ·rw[if_pos hj,if_pos (by omega),hj];rfl
  ·rw[if_neg hj]
   by_cases bZ:j<t
   ·rw[if_pos bZ,if_pos (by omega)]
   ·rw[if_neg bZ,if_neg (by omega)]
 ·simp only[GW,BP,un]
  refine bF (bu (Nat.le_refl _)) ?_
  rw[bu (Nat.le_refl _)]
  refine congrArg (fun x=>some (Sum.inr ((a.L:Int),false,x))) (dU fun j hj=>if_pos hj)
theorem afK (ho:nK p a.n) {k3 k4 k5 k6 k7 k8 k9:Int} {l1 l2 l3 l4 l5:List V}:
  Loop (GX CC ((cV a.n p).length:Int) (a.L:Int) k3 l1 l2 k4 k5 k6 k7 l3 (cV a.n p) k8 k9 l4 l5 a.bz a.bD) (0,([]:List V),([]:List V))=
   some ((a.n:Int),false,qF a p a.n,qN a p a.n):=by
 have h6:=h.l6
 have hm:=h.di
 rw[show (cV a.n p).length=a.n by simp[cV]]
 refine (eG a.n (fun i=>((i:Int),qF a p i,qN a p i)) _ (fun q hq=> ?_) ?_)
 ·have hle:=M1 p q
  have hF:(qF a p q).length=(Da.dF p q).length:=by simp[qF]
  have hN:(qN a p q).length=(Da.dF p q).length:=by simp[qN]
  simp only[GX,BR,un]
  refine bT (dE hq) ?_
  refine (eF (i:=q) hq).trans ?_
  rw[cN (by omega)]
  simp only[nV,V.toInt_int]
  by_cases hx:p q∈aL p q
  ·refine bT (decide_eq_true (by rw[hF];have:=(M0 ho hq).1 hx;omega)) ?_
   unfold qF qN
   rw[Da.dF,if_pos hx]
  ·refine bF (decide_eq_false (by rw[hF];intro h2;exact hx ((M0 ho hq).2 (by omega)))) ?_
   refine bT (kV (by omega) (by omega)) ?_
   refine (eF (i:=q) hq).trans ?_
   simp only[lI]
   refine bs (afJ h hq) ?_
   refine (eF (i:=q) hq).trans ?_
   refine bT (cap (by rw[hF];simp;omega) (by omega)) ?_
   refine bT (cap (by rw[hN];simp;omega) (by omega)) ?_
   unfold qF qN
   rw[Da.dF,if_neg hx,List.map_append,List.map_append]
   rfl
 ·simp only[GX,BR,un]
  refine bF (bu (Nat.le_refl _)) ?_
  rw[bu (Nat.le_refl _)]
end
def rK (U U':List Nat) (p:Nat→Nat) (q:Nat):V:=if q∈U then iV ((if p (U.idxOf q)∈U' then nV (U'.idxOf (p (U.idxOf q))) else V.int .i64 (-1)).toInt) else V.int .i64 (-1)
theorem afL {n m k:Nat} {U U':List Nat} {p:Nat→Nat} (hn:n≤512) (hU:U.length≤m) (hp: ∀q,q<m→p q<k) {k1 k2 k3 k4:Int} {l1 l2 l3 l4:List V}:
  ∃X,Loop (GZ CC ((iR U n).length:Int) k1 k2 (cV m p) k3 k4 (iR U' k) (iR U n) l1 l2 l3 l4) (0,List.replicate ((((iR U n).length:Int):Int).toNat) (V.int .i64 0))=some ((n:Int),false,X):=by
 rw[show (iR U n).length=n by simp[iR],Int.toNat_natCast,lH]
 refine ⟨tab n fun q=>if q<n then rK U U' p q else V.int .i64 0,eG n (fun i=>((i:Int),(tab n fun q=>if q<i then rK U U' p q else V.int .i64 0))) _ (fun q hq=> ?_) ?_⟩
 ·simp only[GZ,BT,un]
  refine bT (dE hq) ?_
  refine (eF (i:=q) hq).trans ?_
  refine (eF (i:=q) hq).trans ?_
  rw[cN (by omega)]
  have fin: ∀v,v=rK U U' p q→((tab n fun j=>if j<q then rK U U' p j else V.int .i64 0).set q v)=tab n fun j=>if j<q+1 then rK U U' p j else V.int .i64 0:=by
   rintro v rfl
   rw[mO]
   refine dU fun j _=> ?_
   by_cases hj:j=q
   ·rw[if_pos hj,if_pos (show j<q+1 by omega),hj]
   ·rw[if_neg hj]
    by_cases bZ:j<q
    ·rw[if_pos bZ,if_pos (show j<q+1 by omega)]
    ·rw[if_neg bZ,if_neg (show¬j<q+1 by omega)]
  by_cases hx:q∈U
  ·have es:rK U U' p q=iV ((if p (U.idxOf q)∈U' then nV (U'.idxOf (p (U.idxOf q))) else V.int .i64 (-1)).toInt):=by unfold rK;rw[if_pos hx]
   have hi:=List.idxOf_lt_length_of_mem hx
   rw[if_pos hx]
   refine bT (decide_eq_true (by simp only[nV,V.toInt_int];omega)) ?_
   simp only[nV,V.toInt_int]
   refine (eF (i:=U.idxOf q) (by omega)).trans ?_
   simp only[nV,V.toInt_int]
   refine (eF (i:=p (U.idxOf q)) (hp _ (by omega))).trans ?_
   refine bT (by rw[List.length_set,dJ];exact UG hq) ?_
   refine bs (a:= .int .i64 (-1)) (by rw[Int.toNat_natCast,List.getElem?_set];simp[hq]) ?_
   rw[Int.toNat_natCast,List.set_set,←fin _ es.symm]
  ·rw[if_neg hx]
   refine bF (decide_eq_false (by simp)) ?_
   rw[Int.toNat_natCast,←fin _ (show V.int .i64 (-1)=rK U U' p q by unfold rK;rw[if_neg hx])]
 ·simp only[GZ,BT,un]
  refine bF (bu (Nat.le_refl _)) ?_
  rw[bu (Nat.le_refl _)]
theorem Canon.congr {m:Da} {L:Nat} {K K':List Nat→Bool} (h:m.Canon L K) (e: ∀w,WL L w→K w=K' w):m.Canon L K':=⟨h.ok,h.hL,h.st,h.num,h.red,fun w hw=>(h.jJ w hw).trans (e w hw)⟩
theorem afM {a:Da} (h:a.Ok): ∃m X,CC Fm (dj a)=some (dj m++[.list aY X])∧m.Canon a.L (a.acc a.st):=by
 have ht:=h.Ur
 have hm:=h.di
 have hle:=h.mL a.n
 have e3:a.trim.n=(aj a.L a.nx a.st a.n).length:=kR
 obtain ⟨p,c1,c2,c3⟩:=afA ht
 have hq:=Da.GI ht c2
 obtain ⟨q1,q2⟩:=Vv (a:=a.trim) (p:=p)
 have afN:=Da.MW ht c2
 have bP:(a.trim.quo p).st=0:=afI c2.2 ht.s
 have wX:=Vc hq
 obtain ⟨X,hX⟩:=afL (n:=a.n) (m:=a.trim.n) (k:=(a.trim.quo p).n) (U:=aj a.L a.nx a.st a.n) (U':=aj (a.trim.quo p).L (a.trim.quo p).nx (a.trim.quo p).st (a.trim.quo p).n) (p:=p) hm (by omega) (fun q hq=>by rw[Da.rI];exact Da.BB c2.2 hq) (k1:=0) (k2:=0) (k3:=((a.trim.quo p).trim.L:Int)) (k4:=((a.trim.quo p).trim.st:Int)) (l1:=[]) (l2:=[]) (l3:=(a.trim.quo p).trim.bz) (l4:=(a.trim.quo p).trim.bD)
 refine ⟨(a.trim.quo p).trim,X,afG ?_,Canon.congr afN fun w hw=>h.Us hw⟩
 unfold Vs
 refine bs (Vc h) ?_
 refine bs c1 ?_
 refine bs (afK ht c2.2) ?_
 simp only[un]
 rw[←q1,←q2]
 have afO:CC xo [.int .i64 (a.L:Int),.int .i64 0,.list ak (a.trim.quo p).bz,.list an (a.trim.quo p).bD]=some (dj (a.trim.quo p).trim++[.list aY (iR (aj (a.trim.quo p).L (a.trim.quo p).nx (a.trim.quo p).st (a.trim.quo p).n) (a.trim.quo p).n)]):=by
  rw[←wX]
  unfold dj dt
  rw[bP];rfl
 refine bs afO ?_
 have e0:(iR (aj a.L a.nx a.st a.n) a.n).length=a.n:=by simp[iR]
 refine bT (show ((decide (0≤((iR (aj a.L a.nx a.st a.n) a.n).length:Int)))&&((decide (((iR (aj a.L a.nx a.st a.n) a.n).length:Int)≤((iR (aj a.L a.nx a.st a.n) a.n).length:Int)))&&(Nat.ble (((((iR (aj a.L a.nx a.st a.n) a.n).length:Nat):Int).toNat)*8) bH)))=true from kV (by rw[e0];omega) (by omega)) ?_
 refine bs hX ?_
 rfl
theorem Vw {a:Da} (h:a.Ok): ∃m,CC qW (dj a)=some (dj m)∧m.Canon a.L (a.acc a.st):=by
 obtain ⟨m,X,h1,h2⟩:=afM h
 refine ⟨m,afH ?_,h2⟩
 unfold Vu
 refine bs (oQ h) ?_
 refine bF rfl ?_
 refine bs h1 ?_
 rfl
open Classical in
noncomputable def minD (a:Da):Da:=if h: ∃m:Da,m.Canon a.L (a.acc a.st) then Classical.choose h else a
theorem xW {a:Da} (h:a.Ok):(minD a).Canon a.L (a.acc a.st):=by
 obtain ⟨m,_,h2⟩:=Vw h
 have: ∃m:Da,m.Canon a.L (a.acc a.st):=⟨m,h2⟩
 unfold minD
 rw[dif_pos this]
 exact Classical.choose_spec this
theorem xX {a m:Da} (h:a.Ok) (hm:m.Canon a.L (a.acc a.st)):m=minD a:=hm.eq (xW h)
theorem BW {a:Da} (h:a.Ok):CC qW (dj a)=some (dj (minD a)):=by
 obtain ⟨m,h1,h2⟩:=Vw h
 rw[h1,xX h h2]
end Go.AM
set_option maxRecDepth 100000
namespace Go.AM
section
variable {α:Type} [DecidableEq α] {L:Nat} {next:α→Nat→α} {a0:α}
theorem M4 (S:List α) (a:α): ∀x,(bJ next S a x).length≤S.length+x
 | 0=>Nat.le_refl _
 | x+1=>by
  have:=M4 S a x
  rw[bJ,rE]
  split<;>omega
theorem afP {m:Nat} (h:(aj L next a0 m).length≤m) (i:Nat):(aj L next a0 i).length≤m:=by
 rcases Nat.lt_or_ge m i with c|c
 ·rw[Bb h (by omega)];exact h
 ·exact Nat.le_trans (ki c).length_le h
theorem Vx {k:Nat} (hd:(aj L next a0 k).length≤k) (i:Nat):(aj L next a0 i).length≤(aj L next a0 k).length:=by
 rcases Nat.lt_or_ge k i with c|c
 ·rw[Bb hd (by omega)];exact Nat.le_refl _
 ·exact (ki c).length_le
theorem Vy {k m:Nat} (h:m<(aj L next a0 k).length):m<(aj L next a0 m).length:=by
 rcases Nat.lt_or_ge m (aj L next a0 m).length with c|c
 ·exact c
 ·have:=afP c k
  omega
theorem Vz {m:Nat} (h:m<(aj L next a0 m).length) (hm:1≤m): ∃i,i<m∧(∀j,j≤i→j<(aj L next a0 j).length∧(aj L next a0 j).length≤m)∧m<(aj L next a0 (i+1)).length:=by
 have key: ∀d k,k+d=m→(∀j,j≤k→(aj L next a0 j).length≤m)→∃i,i<m∧(∀j,j≤i→j<(aj L next a0 j).length∧(aj L next a0 j).length≤m)∧m<(aj L next a0 (i+1)).length:=by
  intro d
  induction d with
  | zero=>
   intro k hk hj
   have:=hj k (Nat.le_refl _)
   rw[show k=m by omega] at this
   omega
  | succ d ih=>
   intro k hk hj
   rcases Nat.lt_or_ge m (aj L next a0 (k+1)).length with c|c
   ·refine ⟨k,by omega,fun j VA=>⟨?_,hj j VA⟩,c⟩
    rcases Nat.lt_or_ge j (aj L next a0 j).length with c1|c1
    ·exact c1
    ·have h1:=hj j VA
     rw[←Bb c1 (show j≤m by omega)] at h1
     omega
   ·refine ih (k+1) (by omega) fun j bZ=> ?_
    rcases Nat.lt_or_ge j (k+1) with c1|c1
    ·exact hj j (by omega)
    ·rw[show j=k+1 by omega];exact c
 exact key m 0 (by omega) fun j hj=>by rw[Nat.le_zero.1 hj];simp[aj];omega
theorem VB {P:α→Prop} (h0:P a0) (hP: ∀a,P a→∀x,x<L→P (next a x)) (i:Nat): ∀a∈aj L next a0 i,P a:=by
 intro a ha
 obtain ⟨w,hw,rfl⟩:=Bc i a ha
 have: ∀(w:List Nat) (b:α),P b→WL L w→P (w.foldl next b):=by
  intro w
  induction w with
  | nil=>intro b hb _;exact hb
  | cons x w ih=>intro b hb hw;exact ih _ (hP b hb x hw.head) hw.tail
 exact this w a0 h0 hw
end
end Go.AM
set_option maxRecDepth 100000
namespace Go.AM
open Go.Proofs
noncomputable def VC (C:ae) (pX pY x bX bY:Int) (jn iQ:List V) (G0 G1:Int) (G2 BX:List V):Option (List V):=
 (idx iQ pX).bind fun x1=>
 (idx x1.toList x).bind fun x2=>
 (idx BX pY).bind fun x3=>
 (idx x3.toList x).bind fun x4=>
 some [.int .i64 x2.toInt,.int .i64 x4.toInt,.int .i64 bX,.int .i64 bY,.list ak jn,.list an iQ,.int .i64 G0,.int .i64 G1,.list ak G2,.list an BX]
theorem afQ {pX pY x bX bY:Int} {jn iQ:List V} {G0 G1:Int} {G2 BX:List V} {r:Option (List V)} (h:VC CC pX pY x bX bY jn iQ G0 G1 G2 BX=r):CC qZ [.int .i64 pX,.int .i64 pY,.int .i64 x,.int .i64 bX,.int .i64 bY,.list ak jn,.list an iQ,.int .i64 G0,.int .i64 G1,.list ak G2,.list an BX]=r:=
 bh (key:=95) (L:=db) (bs:=[]) (by kernel_rfl) au (Eq.trans (by kernel_rfl) h)
noncomputable abbrev G3:Code:=cL Tryd.prog (av.aT 96)
noncomputable def G4 (C:ae) (bit:Int) (t12:Bool) (ak7 ak8:Int) (ak9 ala:List V) (bX bY:Int) (jn iQ:List V) (rL alb alc:Int) {β:Type} (kr:(Int)→Option β):Option β:=
 bif t12 then
  kr (IntKind.wrap .i64 (bit+2))
 else
  kr bit
noncomputable def VD (C:ae):cy:=fun β n ds k=>
 bif Nat.beq n 207 then mH Lq [[0,3,4,5,6,7,8,9,10,11,12,13]] (@G4 C) ds k else
 none
abbrev afR (C:ae) (b:cv):Prop:=cw Tryd.prog av C (VD C) 96 (cR Tryd.prog (av.aT 96)) (av.sin 96).aX.length b
theorem afS (C:ae):afR C (.cond 12 (aq [1,1,0,1,0] G3) (aq [1,1,0,1,1] G3)):=
 nA Lq [[0,3,4,5,6,7,8,9,10,11,12,13]] (@G4 C) (by kernel_rfl) (aV (bs:=[]) (by kernel_rfl) au) (aV (bs:=[]) (by kernel_rfl) au) (fun ds=>by kernel_rfl) (fun i β k=>by kernel_rfl) (fun β ds k=>by kernel_rfl)
noncomputable def VE (C:ae) (pX pY kj km:Int) (jo jK:List V) (bX bY:Int) (jn iQ:List V) (rL:Int):Option (List V):=
 (idx jo pX).bind fun x1=>
 G4 C 0 x1.toBool kj km jo jK bX bY jn iQ rL pX pY (fun (G5:Int)=>
  (idx jn pY).bind fun x3=>
  bif x3.toBool then
   bif decide (0≤(IntKind.wrap .i64 (G5+1))) then
   some [.bool (((IntKind.wrap .i64 ((BitVec.ofInt (IntKind.bits .i64) (Int.fdiv rL (2^(min (IntKind.wrap .i64 (G5+1)).toNat (IntKind.bits .i64))))&&&BitVec.ofInt (IntKind.bits .i64) 1).toNat)):Int)==1),.int .i64 kj,.int .i64 km,.list ak jo,.list an jK,.int .i64 bX,.int .i64 bY,.list ak jn,.list an iQ,.int .i64 rL]
   else none
  else
   bif decide (0≤G5) then
   some [.bool (((IntKind.wrap .i64 ((BitVec.ofInt (IntKind.bits .i64) (Int.fdiv rL (2^(min G5.toNat (IntKind.bits .i64))))&&&BitVec.ofInt (IntKind.bits .i64) 1).toNat)):Int)==1),.int .i64 kj,.int .i64 km,.list ak jo,.list an jK,.int .i64 bX,.int .i64 bY,.list ak jn,.list an iQ,.int .i64 rL]
   else none)
theorem afT {pX pY kj km:Int} {jo jK:List V} {bX bY:Int} {jn iQ:List V} {rL:Int} {r:Option (List V)} (h:VE CC pX pY kj km jo jK bX bY jn iQ rL=r):CC q0 [.int .i64 pX,.int .i64 pY,.int .i64 kj,.int .i64 km,.list ak jo,.list an jK,.int .i64 bX,.int .i64 bY,.list ak jn,.list an iQ,.int .i64 rL]=r:=
 bh (key:=96) (L:=VD CC) (bs:=[.cond 12 (aq [1,1,0,1,0] G3) (aq [1,1,0,1,1] G3)]) (by kernel_rfl) (bf (afS CC) au) (Eq.trans (by kernel_rfl) h)
noncomputable def VF (C:ae) (iT fi:Int) (aW:List V):Option (List V):=
 bif (cK .i64 iT&&(cK .i64 fi&&true))&&true then
  bif (cK .i64 iT&&(cK .i64 fi&&true))&&true then
  bif Nat.ble ((aW.length+([.agg [.int .i64 iT,.int .i64 fi]]:List V).length)*16) bH then
   some [.int .i64 (aW.length:Int),.list gb (aW++([.agg [.int .i64 iT,.int .i64 fi]]:List V)),.list iN (e9 (.agg [.int .i64 iT,.int .i64 fi]) (.int .i64 (aW.length:Int)) ([]:List V))]
  else none
  else none
 else none
theorem afU {iT fi:Int} {aW:List V} {r:Option (List V)} (h:VF CC iT fi aW=r):CC AG [.int .i64 iT,.int .i64 fi,.list gb aW]=r:=
 bh (key:=116) (L:=db) (bs:=[]) (by kernel_rfl) au (Eq.trans (by kernel_rfl) h)
noncomputable def VG (C:ae) (iT fi:Int) (aW cT:List V):Option (List V):=
 bif (cK .i64 iT&&(cK .i64 fi&&true))&&true then
  bif !(fH (.agg [.int .i64 iT,.int .i64 fi]) cT) then
  bif (cK .i64 iT&&(cK .i64 fi&&true))&&true then
   bif Nat.ble ((aW.length+([.agg [.int .i64 iT,.int .i64 fi]]:List V).length)*16) bH then
   some [.int .i64 (aW.length:Int),.list iN (e9 (.agg [.int .i64 iT,.int .i64 fi]) (.int .i64 (aW.length:Int)) cT),.list gb (aW++([.agg [.int .i64 iT,.int .i64 fi]]:List V))]
   else none
  else none
  else
  some [.int .i64 ((gY (.agg [.int .i64 iT,.int .i64 fi]) cT (.int .i64 0)).toInt),.list iN cT,.list gb aW]
 else none
theorem afV {iT fi:Int} {aW cT:List V} {r:Option (List V)} (h:VG CC iT fi aW cT=r):CC Kz [.int .i64 iT,.int .i64 fi,.list gb aW,.list iN cT]=r:=
 bh (key:=178) (L:=db) (bs:=[]) (by kernel_rfl) au (Eq.trans (by kernel_rfl) h)
noncomputable abbrev G6:Code:=cL Tryd.prog (av.aT 94)
noncomputable def BY (C:ae) (br i t36 lM iq iu aK aP M5 M6:Int) (bS dc BQ VH:List V) (t37 eX eY:Int) (eZ e6:List V) (lN lO:Int) (lP lQ rows dK fP:List V) {β:Type} (kn:(Int × Int × Int × (List V) × (List V) × Int × Int × (List V) × (List V) × (List V) × (List V) × (List V))→Option β) (kr:(Int × Bool × Int × Int × (List V) × (List V) × Int × Int × (List V) × (List V) × (List V) × (List V) × (List V))→Option β):Option β:=
 bif decide ((t37:Int)<t36) then
  (C qZ [.int .i64 M5,.int .i64 M6,.int .i64 t37,.int .i64 eX,.int .i64 eY,.list ak eZ,.list an e6,.int .i64 lN,.int .i64 lO,.list ak lP,.list an lQ]).bind fun r3=>
  (C Kz [.int .i64 ((V.nth r3 0).toInt),.int .i64 ((V.nth (r3.drop 1) 0).toInt),.list gb dK,.list iN fP]).bind fun r4=>
  bif (decide (0≤t37))&&(decide (t37<(rows.length:Int))) then
  (rows[(t37:Int).toNat]?).bind fun x5=>
  kn (IntKind.wrap .i64 (t37+1),(V.nth (r3.drop 2) 0).toInt,(V.nth ((r3.drop 2).drop 1) 0).toInt,(V.nth (((r3.drop 2).drop 1).drop 1) 0).toList,(V.nth ((((r3.drop 2).drop 1).drop 1).drop 1) 0).toList,(V.nth ((r3.drop 2).drop 4) 0).toInt,(V.nth (((r3.drop 2).drop 4).drop 1) 0).toInt,(V.nth ((((r3.drop 2).drop 4).drop 1).drop 1) 0).toList,(V.nth (((((r3.drop 2).drop 4).drop 1).drop 1).drop 1) 0).toList,rows.set ((t37:Int).toNat) (.int .i64 ((V.nth r4 0).toInt)),(V.nth ((r4.drop 1).drop 1) 0).toList,(V.nth (r4.drop 1) 0).toList)
  else none
 else
  kr (t37,decide ((t37:Int)<t36),eX,eY,eZ,e6,lN,lO,lP,lQ,rows,dK,fP)
noncomputable def G7 (C:ae) (br i t36 lM iq iu aK aP M5 M6:Int) (bS dc BQ VH:List V):(Int × Int × Int × (List V) × (List V) × Int × Int × (List V) × (List V) × (List V) × (List V) × (List V))→Option ((Int × Int × Int × (List V) × (List V) × Int × Int × (List V) × (List V) × (List V) × (List V) × (List V)) ⊕ (Int × Bool × Int × Int × (List V) × (List V) × Int × Int × (List V) × (List V) × (List V) × (List V) × (List V))):=un fun t37=>un fun eX=>un fun eY=>un fun eZ=>un fun e6=>un fun lN=>un fun lO=>un fun lP=>un fun lQ=>un fun rows=>un fun dK fP=>BY C br i t36 lM iq iu aK aP M5 M6 bS dc BQ VH t37 eX eY eZ e6 lN lO lP lQ rows dK fP (fun y=>some (.inl y)) (fun r=>some (.inr r))
noncomputable def BZ (C:ae) (br iq iu aK aP:Int) (bU bK:List V) (i eX eY:Int) (eZ e6:List V) (lN lO:Int) (lP lQ:List V) (lM:Int) (bS dc dK fP:List V) {β:Type} (kn:(Int × Int × Int × (List V) × (List V) × Int × Int × (List V) × (List V) × Int × (List V) × (List V) × (List V) × (List V))→Option β) (kr:((Int × Int × Int × (List V) × (List V) × Int × Int × (List V) × (List V) × Int × Int × Int × (List V) × (List V) × (List V)) ⊕ (Int × Bool × Int × Int × (List V) × (List V) × Int × Int × (List V) × (List V) × Int × (List V) × (List V) × (List V) × (List V)))→Option β):Option β:=
 bif decide ((i:Int)<(bS.length:Int)) then
  bif (decide (0≤i))&&(decide (i<(bS.length:Int))) then
  (bS[(i:Int).toNat]?).bind fun x2=>
  bif (decide (0≤br))&&((decide (br≤br))&&(Nat.ble (((br:Int).toNat)*8) bH)) then
   (Loop (G7 C br i ((List.replicate ((br:Int).toNat) (V.int .i64 0)).length:Int) lM iq iu aK aP ((x2.cell 0).toInt) ((x2.cell 1).toInt) bU bK dK fP) (0,eX,eY,eZ,e6,lN,lO,lP,lQ,List.replicate ((br:Int).toNat) (V.int .i64 0),bS,dc)).bind (un fun (rn:Int)=>un fun (nF:Bool)=>un fun (tf:Int)=>un fun (Bp:Int)=>un fun (Bq:List V)=>un fun (Br:List V)=>un fun (VI:Int)=>un fun (VJ:Int)=>un fun (VK:List V)=>un fun (VL:List V)=>un fun (VM:List V)=>un fun (th:List V) (vm:List V)=>
    bif decide (((th.length:Int):Int)>512) then
    kr (.inl (3,tf,Bp,Bq,Br,VI,VJ,VK,VL,lM,0,0,([]:List V),([]:List V),([]:List V)))
    else
    bif Nat.ble ((fP.length+([.list aY VM]:List V).length)*24) bH then
     (C q0 [.int .i64 ((x2.cell 0).toInt),.int .i64 ((x2.cell 1).toInt),.int .i64 tf,.int .i64 Bp,.list ak Bq,.list an Br,.int .i64 VI,.int .i64 VJ,.list ak VK,.list an VL,.int .i64 lM]).bind fun dk=>
     bif Nat.ble ((dK.length+([.bool ((V.nth dk 0).toBool)]:List V).length)*1) bH then
     kn (IntKind.wrap .i64 (i+1),(V.nth (dk.drop 1) 0).toInt,(V.nth ((dk.drop 1).drop 1) 0).toInt,(V.nth (((dk.drop 1).drop 1).drop 1) 0).toList,(V.nth ((((dk.drop 1).drop 1).drop 1).drop 1) 0).toList,(V.nth ((dk.drop 1).drop 4) 0).toInt,(V.nth (((dk.drop 1).drop 4).drop 1) 0).toInt,(V.nth ((((dk.drop 1).drop 4).drop 1).drop 1) 0).toList,(V.nth (((((dk.drop 1).drop 4).drop 1).drop 1).drop 1) 0).toList,(V.nth (((dk.drop 1).drop 4).drop 4) 0).toInt,th,vm,dK++([.bool ((V.nth dk 0).toBool)]:List V),fP++([.list aY VM]:List V))
     else none
    else none)
  else none
  else none
 else
  kr (.inr (i,decide ((i:Int)<(bS.length:Int)),eX,eY,eZ,e6,lN,lO,lP,lQ,lM,bS,dc,dK,fP))
noncomputable def xY (C:ae) (br iq iu aK aP:Int) (bU bK:List V):(Int × Int × Int × (List V) × (List V) × Int × Int × (List V) × (List V) × Int × (List V) × (List V) × (List V) × (List V))→Option ((Int × Int × Int × (List V) × (List V) × Int × Int × (List V) × (List V) × Int × (List V) × (List V) × (List V) × (List V)) ⊕ ((Int × Int × Int × (List V) × (List V) × Int × Int × (List V) × (List V) × Int × Int × Int × (List V) × (List V) × (List V)) ⊕ (Int × Bool × Int × Int × (List V) × (List V) × Int × Int × (List V) × (List V) × Int × (List V) × (List V) × (List V) × (List V)))):=un fun i=>un fun eX=>un fun eY=>un fun eZ=>un fun e6=>un fun lN=>un fun lO=>un fun lP=>un fun lQ=>un fun lM=>un fun bS=>un fun dc=>un fun dK fP=>BZ C br iq iu aK aP bU bK i eX eY eZ e6 lN lO lP lQ lM bS dc dK fP (fun y=>some (.inl y)) (fun r=>some (.inr r))
noncomputable def VN (C:ae):cy:=fun β n ds k=>
 bif Nat.beq n 161 then bw Lo [false,false,false,true,true,true,true,true,true,true,true,true,false,false,false,false,false,false,false,true,false,false,true,true,false,false] [[1,2,3,0,0,0,0,0,0,0,0,0,0,13,14,15,16,17,18,19,0,21,22,0,0,25,26]] (@BY C) ds k else
 bif Nat.beq n 81 then bw Lp [false,true,true,true,true,true,true,true,true,true,true,false,false,false,false,false,false,true,true,true,true] [[0,0,0,0,0,0,0,0,0,0,0,0,0,0,0],[1,0,0,0,0,0,0,0,0,0,0,0,12,13,14,15,16,17,0,0,0,0]] (@BZ C) ds k else
 none
abbrev VO (C:ae) (b:cv):Prop:=cw Tryd.prog av C (VN C) 94 (cR Tryd.prog (av.aT 94)) (av.sin 94).aX.length b
theorem afW (C:ae):VO C (.loop (aq [1,1,1,1,0,1,0,0,1,0,0,1,1,0,1,0,0] G6)):=
 bC Lo [false,false,false,true,true,true,true,true,true,true,true,true,false,false,false,false,false,false,false,true,false,false,true,true,false,false] [[1,2,3,0,0,0,0,0,0,0,0,0,0,13,14,15,16,17,18,19,0,21,22,0,0,25,26]] (@BY C) (by kernel_rfl) (aV (bs:=[]) (by kernel_rfl) au) (fun ds=>by kernel_rfl) (fun i x=>by kernel_rfl) (fun i x β k=>by kernel_rfl) (fun β ds k=>by kernel_rfl)
theorem afX (C:ae):VO C (.loop (aq [1,1,1,1,0,1,0,0] G6)):=
 bC Lp [false,true,true,true,true,true,true,true,true,true,true,false,false,false,false,false,false,true,true,true,true] [[0,0,0,0,0,0,0,0,0,0,0,0,0,0,0],[1,0,0,0,0,0,0,0,0,0,0,0,12,13,14,15,16,17,0,0,0,0]] (@BZ C) (by kernel_rfl) (aV (bs:=[.loop (aq [1,1,1,1,0,1,0,0,1,0,0,1,1,0,1,0,0] G6)]) (by kernel_rfl) (bf (afW C) au)) (fun ds=>by kernel_rfl) (fun i x=>by kernel_rfl) (fun i x β k=>by kernel_rfl) (fun β ds k=>by kernel_rfl)
noncomputable def M7 (C:ae) (br G8 G9 eX eY:Int) (eZ e6:List V) (lN lO:Int) (lP lQ:List V) (lM:Int):Option (List V):=
 (C AG [.int .i64 G8,.int .i64 G9,.list gb ([]:List V)]).bind fun r1=>
 (Loop (xY C br 0 0 br 0 ([]:List V) ([]:List V)) (0,eX,eY,eZ,e6,lN,lO,lP,lQ,lM,(V.nth (r1.drop 1) 0).toList,(V.nth ((r1.drop 1).drop 1) 0).toList,([]:List V),([]:List V))).bind (dA (un fun (VP:Int)=>un fun (M8:Int)=>un fun (B0:Int)=>un fun (Bt:List V)=>un fun (MO:List V)=>un fun (afY:Int)=>un fun (afZ:Int)=>un fun (af0:List V)=>un fun (af1:List V)=>un fun (af2:Int)=>un fun (af3:Int)=>un fun (af4:Int)=>un fun (MP:List V)=>un fun (Gz:List V) (af5:List V)=>
  some [.int .i64 af3,.int .i64 af4,.int .i64 VP,.int .i64 M8,.int .i64 B0,.list ak Bt,.list an MO,.int .i64 afY,.int .i64 afZ,.list ak af0,.list an af1,.int .i64 af2,.list ak MP,.list an Gz,.list gb af5]) (un fun (ald:Int)=>un fun (af6:Bool)=>un fun (af7:Int)=>un fun (af8:Int)=>un fun (af9:List V)=>un fun (aga:List V)=>un fun (agb:Int)=>un fun (agc:Int)=>un fun (agd:List V)=>un fun (age:List V)=>un fun (agf:Int)=>un fun (agh:List V)=>un fun (ale:List V)=>un fun (agi:List V) (agj:List V)=>
  some [.int .i64 br,.int .i64 0,.int .i64 0,.int .i64 af7,.int .i64 af8,.list ak af9,.list an aga,.int .i64 agb,.int .i64 agc,.list ak agd,.list an age,.int .i64 agf,.list ak agi,.list an agj,.list gb agh]))
theorem VQ {br G8 G9 eX eY:Int} {eZ e6:List V} {lN lO:Int} {lP lQ:List V} {lM:Int} {r:Option (List V)} (h:M7 CC br G8 G9 eX eY eZ e6 lN lO lP lQ lM=r):CC AA [.int .i64 br,.int .i64 G8,.int .i64 G9,.int .i64 eX,.int .i64 eY,.list ak eZ,.list an e6,.int .i64 lN,.int .i64 lO,.list ak lP,.list an lQ,.int .i64 lM]=r:=
 bh (key:=94) (L:=VN CC) (bs:=[.loop (aq [1,1,1,1,0,1,0,0] G6)]) (by kernel_rfl) (bf (afX CC) au) (Eq.trans (by kernel_rfl) h)
noncomputable def M9 (C:ae) (bW cC:Int) (cA cD:List V) (cI cO:Int) (cP cU:List V) (op:Int):Option (List V):=
 (C lC [.int .i64 bW,.int .i64 cC,.list ak cA,.list an cD]).bind fun r1=>
 bif (((V.nth r1 0).toInt):Int) != 0 then
  some [.int .i64 0,.int .i64 0,.int .i64 ((V.nth r1 0).toInt),.list ak ([]:List V),.list an ([]:List V)]
 else
  (C lC [.int .i64 cI,.int .i64 cO,.list ak cP,.list an cU]).bind fun r2=>
  bif (((V.nth r2 0).toInt):Int) != 0 then
  some [.int .i64 0,.int .i64 0,.int .i64 ((V.nth r2 0).toInt),.list ak ([]:List V),.list an ([]:List V)]
  else
  bif (bW:Int) != cI then
   some [.int .i64 0,.int .i64 0,.int .i64 1,.list ak ([]:List V),.list an ([]:List V)]
  else
   bif decide ((op:Int)<0) then
   some [.int .i64 0,.int .i64 0,.int .i64 1,.list ak ([]:List V),.list an ([]:List V)]
   else
   bif decide ((op:Int)>15) then
    some [.int .i64 0,.int .i64 0,.int .i64 1,.list ak ([]:List V),.list an ([]:List V)]
   else
    (C AA [.int .i64 bW,.int .i64 cC,.int .i64 cO,.int .i64 bW,.int .i64 cC,.list ak cA,.list an cD,.int .i64 cI,.int .i64 cO,.list ak cP,.list an cU,.int .i64 op]).bind fun r3=>
    some [.int .i64 ((V.nth r3 0).toInt),.int .i64 ((V.nth (r3.drop 1) 0).toInt),.int .i64 ((V.nth (r3.drop 2) 0).toInt),.list ak ((V.nth ((((r3.drop 3).drop 4).drop 4).drop 1) 0).toList),.list an ((V.nth (((((r3.drop 3).drop 4).drop 4).drop 1).drop 1) 0).toList)]
theorem VR {bW cC:Int} {cA cD:List V} {cI cO:Int} {cP cU:List V} {op:Int} {r:Option (List V)} (h:M9 CC bW cC cA cD cI cO cP cU op=r):CC Av [.int .i64 bW,.int .i64 cC,.list ak cA,.list an cD,.int .i64 cI,.int .i64 cO,.list ak cP,.list an cU,.int .i64 op]=r:=
 bh (key:=71) (L:=db) (bs:=[]) (by kernel_rfl) au (Eq.trans (by kernel_rfl) h)
structure NP where
 p:Nat
 q:Nat
deriving DecidableEq
def pV (p:NP):V:= .agg [.int .i64 (p.p:Int),.int .i64 (p.q:Int)]
def pS (S:List (NP)):List V:=S.map pV
def pM (S:List (NP)):List V:=fB pV 0 S
theorem Na (a b:NP):gJ (pV a) (pV b)=decide (a=b):=by
 have:=aeP (a.p,a.q) (b.p,b.q)
 refine this.trans ?_
 rw[decide_eq_decide]
 cases a;cases b
 simp
theorem agk (p:NP):((pV p).cell 0).toInt=(p.p:Int):=by simp[pV]
theorem agl (p:NP):((pV p).cell 1).toInt=(p.q:Int):=by simp[pV]
theorem xZ {S:List (NP)}:(pS S).length=S.length:=by simp[pS]
theorem agm {S:List (NP)} {i:Nat} (h:i<S.length):(pS S)[i]? =some (pV S[i]):=by simp[pS,h]
theorem VT {x:NP} (h1:x.p≤1000000) (h2:x.q≤1000000):CC AG [nV x.p,nV x.q,.list gb []]=some [nV 0,.list gb (pS [x]),.list iN (pM [x])]:=by
 refine afU ?_
 unfold VF
 rw[te (show x.p≤_ by omega),te (show x.q≤_ by omega)]
 exact bT rfl (bT rfl (bT (cap (by simp) (by omega)) rfl))
theorem agn {S:List (NP)} {x:NP} (h1:x.p≤1000000) (h2:x.q≤1000000) (hl:S.length≤1000000):CC Kz [nV x.p,nV x.q,.list gb (pS S),.list iN (pM S)]=some [nV ((cx S x).idxOf x),.list iN (pM (cx S x)),.list gb (pS (cx S x))]:=by
 refine afV ?_
 unfold VG
 have e1:=xI Na x S 0
 rw[te (show x.p≤_ by omega),te (show x.q≤_ by omega)]
 refine bT rfl ?_
 rw[show (V.agg [V.int .i64 (x.p:Int),V.int .i64 (x.q:Int)])=pV x from rfl]
 rw[ML]
 by_cases h:x∈S
 ·refine bF (by rw[show fH (pV x) (pM S)=_ from e1];simpa using h) ?_
  have e2:=xJ Na x (.int .i64 0) S 0 h
  rw[show gY (pV x) (pM S) (.int .i64 0)=_ from e2,if_pos h,Nat.zero_add,show cx S x=S by unfold cx;rw[if_pos h]]
  rfl
 ·refine bT (by rw[show fH (pV x) (pM S)=_ from e1];simpa using h) ?_
  refine bT rfl ?_
  refine bT (cap (by rw[xZ];simp;omega) (by omega)) ?_
  have e2:=xK Na x S 0 h
  rw[Nat.zero_add] at e2
  rw[xZ,show e9 (pV x) (.int .i64 (S.length:Int)) (pM S)=_ from e2,if_neg h,show cx S x=S++[x] by unfold cx;rw[if_neg h]]
  simp[pS,nV,pM]
def ya (op:Nat) (x y:Bool):Bool:=op.testBit ((if x=true then 2 else 0)+(if y=true then 1 else 0))
theorem ago: ∀op:Fin 16,∀k:Fin 4,((IntKind.wrap .i64 ((BitVec.ofInt (IntKind.bits .i64) (Int.fdiv (op.val:Int) (2^(min ((k.val:Int)).toNat (IntKind.bits .i64))))&&&BitVec.ofInt (IntKind.bits .i64) 1).toNat))==1)=op.val.testBit k.val:=by decide+kernel
theorem Ha {op k:Nat} (ho:op≤15) (hk:k≤3):((IntKind.wrap .i64 ((BitVec.ofInt (IntKind.bits .i64) (Int.fdiv (op:Int) (2^(min ((k:Int)).toNat (IntKind.bits .i64))))&&&BitVec.ofInt (IntKind.bits .i64) 1).toNat))==1)=op.testBit k:=ago ⟨op,by omega⟩ ⟨k,by omega⟩
def pn (a b:Da) (p:NP) (x:Nat):NP:=⟨a.nx p.p x,b.nx p.q x⟩
def pf (a b:Da) (op:Nat) (p:NP):Bool:=ya op (a.fin p.p) (b.fin p.q)
def PI (a b:Da) (p:NP):Prop:=p.p<a.n∧p.q<b.n
theorem agp {a b:Da} (hL:a.L=b.L) {p:NP} {x:Nat} (hp:PI a b p) (hx:x<a.L):CC qZ (nV p.p::nV p.q::nV x::dt a (dj b))=some (nV (pn a b p x).p::nV (pn a b p x).q::dt a (dj b)):=by
 refine afQ ?_
 unfold VC
 refine bs (Da.kX hp.1) ?_
 rw[lI]
 refine bs (mP hx) ?_
 refine bs (Da.kX hp.2) ?_
 rw[lI]
 exact bs (mP (hL▸hx)) rfl
theorem agq {a b:Da} {op:Nat} (ho:op≤15) {p:NP} (hp:PI a b p):CC q0 (nV p.p::nV p.q::dt a (dt b [.int .i64 (op:Int)]))=some (.bool (pf a b op p)::dt a (dt b [.int .i64 (op:Int)])):=by
 refine afT ?_
 unfold VE
 refine bs (Da.oP hp.1) ?_
 unfold G4 pf ya
 rw[V.oG]
 cases ha:a.fin p.p with
 | true=>
  refine bT rfl ?_
  refine bs (Da.oP hp.2) ?_
  rw[V.oG,show IntKind.wrap .i64 (0+2)=((2:Nat):Int) from by decide]
  cases hb:b.fin p.q with
  | true=>
   refine bT rfl ?_
   rw[show IntKind.wrap .i64 (((2:Nat):Int)+1)=((3:Nat):Int) from by decide]
   refine bT (by decide) ?_
   rw[Ha ho (by omega)];rfl
  | false=>
   refine bF rfl ?_
   refine bT (by decide) ?_
   rw[Ha ho (by omega)];rfl
 | false=>
  refine bF rfl ?_
  refine bs (Da.oP hp.2) ?_
  rw[V.oG]
  cases hb:b.fin p.q with
  | true=>
   refine bT rfl ?_
   rw[show IntKind.wrap .i64 (0+1)=((1:Nat):Int) from by decide]
   refine bT (by decide) ?_
   rw[Ha ho (by omega)];rfl
  | false=>
   refine bF rfl ?_
   refine bT (by decide) ?_
   have:=Ha (k:=0) ho (by omega)
   rw[show ((0:Nat):Int)=0 from rfl] at this
   rw[this];rfl
def iU (a b:Da):List NP:=aj a.L (pn a b) ⟨a.st,b.st⟩ (a.n*b.n)
def jL (a b:Da) (op:Nat):Da:=eW a.L (pn a b) (pf a b op) (iU a b)
def jM (a b:Da):Prop:=512<(iU a b).length
def Hb (m n:Nat):List NP:=(List.range m).flatMap fun p=>(List.range n).map fun q=>⟨p,q⟩
theorem agr (m n:Nat):(Hb m n).length=m*n:=by
 unfold Hb
 induction m with
 | zero=>simp
 | succ m ih=>rw[List.range_succ,List.flatMap_append,List.length_append,ih];simp[Nat.succ_mul]
theorem Nb {m n:Nat} {x:NP}:x∈Hb m n↔x.p<m∧x.q<n:=by
 unfold Hb
 simp only[List.mem_flatMap,List.mem_map,List.mem_range]
 constructor
 ·rintro ⟨p,hp,q,hq,rfl⟩;exact ⟨hp,hq⟩
 ·rintro ⟨h1,h2⟩;exact ⟨x.p,h1,x.q,h2,rfl⟩
section
variable {a b:Da} (ha:a.Ok) (hb:b.Ok) (hL:a.L=b.L) {op:Nat}
include ha hb hL
theorem Nc {p:NP} (hp:PI a b p) {x:Nat} (hx:x<a.L):PI a b (pn a b p x):=⟨ha.dS hp.1 hx,hb.dS hp.2 (hL▸hx)⟩
theorem ags {S U:List (NP)} {p:NP} (hp0:PI a b p) (Va:S.length≤1000) (hp:bJ (pn a b) S p a.L <+: U) {i c1 c2 c3:Int} {l1 l2 l3 l4:List V}:
  Loop (G7 CC (a.L:Int) i ((List.replicate (((a.L:Nat):Int).toNat) (V.int .i64 0)).length:Int) c1 c2 c3 (a.L:Int) 0 (p.p:Int) (p.q:Int) l1 l2 l3 l4) (0,(a.L:Int),(a.st:Int),a.bz,a.bD,(b.L:Int),(b.st:Int),b.bz,b.bD,List.replicate (((a.L:Nat):Int).toNat) (V.int .i64 0),pS S,pM S)=
   some ((a.L:Int),false,(a.L:Int),(a.st:Int),a.bz,a.bD,(b.L:Int),(b.st:Int),b.bz,b.bD,(tab a.L fun x=>nV (U.idxOf (pn a b p x))),pS (bJ (pn a b) S p a.L),pM (bJ (pn a b) S p a.L)):=by
 have h6:=ha.l6
 have VU:=ha.di
 have EI:=hb.di
 rw[Int.toNat_natCast,lH,dJ]
 refine (eG a.L (fun x=>((x:Int),(a.L:Int),(a.st:Int),a.bz,a.bD,(b.L:Int),(b.st:Int),b.bz,b.bD,(tab a.L fun j=>if j<x then nV (U.idxOf (pn a b p j)) else nV 0),pS (bJ (pn a b) S p x),pM (bJ (pn a b) S p x))) _ (fun x hx=> ?_) ?_)
 ·simp only[G7,BY,un]
  refine bT (dE hx) ?_
  refine bs (agp hL hp0 hx) ?_
  have hT:=M4 (next:=pn a b) S p x
  have hn:=Nc ha hb hL hp0 hx
  unfold PI at hn
  refine bs (agn (S:=bJ (pn a b) S p x) (x:=pn a b p x) (by omega) (by omega) (by omega)) ?_
  refine (eF hx).trans ?_
  rw[cN (by omega),Int.toNat_natCast,mO]
  have e:(cx (bJ (pn a b) S p x) (pn a b p x)).idxOf (pn a b p x)=U.idxOf (pn a b p x):=(vj ((vf S p (show x+1≤a.L by omega)).trans hp) ve).symm
  show some (Sum.inl _)=some (Sum.inl _)
  refine congrArg (fun x=>some (Sum.inl x)) ?_
  refine Prod.ext rfl (Prod.ext rfl (Prod.ext rfl (Prod.ext rfl (Prod.ext rfl (Prod.ext rfl (Prod.ext rfl (Prod.ext rfl (Prod.ext rfl (Prod.ext ?_ (Prod.ext rfl rfl))))))))))
  refine dU fun j _=> ?_
  by_cases hj:j=x
  ·rw[if_pos hj,if_pos (by omega),hj,←e];rfl
  ·rw[if_neg hj]
   by_cases bZ:j<x
   ·rw[if_pos bZ,if_pos (by omega)]
   ·rw[if_neg bZ,if_neg (by omega)]
 ·simp only[G7,BY,un]
  refine bF (bu (Nat.le_refl _)) ?_
  rw[bu (Nat.le_refl _)]
  have:(tab a.L fun j=>if j<a.L then nV (U.idxOf (pn a b p j)) else nV 0)=tab a.L fun j=>nV (U.idxOf (pn a b p j)):=dU fun j hj=>if_pos hj
  rw[this]
theorem Hc (i:Nat):(aj a.L (pn a b) ⟨a.st,b.st⟩ i).length≤a.n*b.n:=by
 rw[←agr]
 exact MH (Nb.2 ⟨ha.s,hb.s⟩) (fun p hp x hx=>Nb.2 (Nc ha hb hL (Nb.1 hp) hx)) i
theorem agt (i:Nat): ∀p∈aj a.L (pn a b) ⟨a.st,b.st⟩ i,PI a b p:=VB (P:=PI a b) ⟨ha.s,hb.s⟩ (fun _ hp _ hx=>Nc ha hb hL hp hx) i
theorem Nd (ho:op≤15) {i:Nat} (gr:i<(aj a.L (pn a b) ⟨a.st,b.st⟩ i).length) (hlen:(aj a.L (pn a b) ⟨a.st,b.st⟩ i).length≤512) {U:List (NP)} (hp:aj a.L (pn a b) ⟨a.st,b.st⟩ (i+1) <+: U) {l1 l2 l3 l4:List V} (hl3:l3.length≤1000) (hl4:l4.length≤1000):
  xY CC (a.L:Int) 0 0 (a.L:Int) 0 l1 l2 ((i:Int),(a.L:Int),(a.st:Int),a.bz,a.bD,(b.L:Int),(b.st:Int),b.bz,b.bD,(op:Int),pS (aj a.L (pn a b) ⟨a.st,b.st⟩ i),pM (aj a.L (pn a b) ⟨a.st,b.st⟩ i),l3,l4)=
   if 512<(aj a.L (pn a b) ⟨a.st,b.st⟩ (i+1)).length then some (.inr (.inl (3,(a.L:Int),(a.st:Int),a.bz,a.bD,(b.L:Int),(b.st:Int),b.bz,b.bD,(op:Int),0,0,[],[],[])))
   else some (.inl (((i+1:Nat):Int),(a.L:Int),(a.st:Int),a.bz,a.bD,(b.L:Int),(b.st:Int),b.bz,b.bD,(op:Int),pS (aj a.L (pn a b) ⟨a.st,b.st⟩ (i+1)),pM (aj a.L (pn a b) ⟨a.st,b.st⟩ (i+1)),l3++[V.bool (pf a b op (aj a.L (pn a b) ⟨a.st,b.st⟩ i)[i])],l4++[V.list aY (tab a.L fun x=>nV (U.idxOf (pn a b (aj a.L (pn a b) ⟨a.st,b.st⟩ i)[i] x)))])):=by
 have h6:=ha.l6
 have hq:=agt ha hb hL i _ (List.getElem_mem gr)
 have jg:aj a.L (pn a b) ⟨a.st,b.st⟩ (i+1)=bJ (pn a b) (aj a.L (pn a b) ⟨a.st,b.st⟩ i) (aj a.L (pn a b) ⟨a.st,b.st⟩ i)[i] a.L:=MB (List.getElem?_eq_getElem gr)
 simp only[xY,BZ,un]
 refine bT (decide_eq_true (by rw[xZ];omega)) ?_
 refine (pU (agm gr)).trans ?_
 rw[agk,agl]
 refine bT (kV (by omega) (by omega)) ?_
 refine bs (ags ha hb hL hq (by omega) (U:=U) (by rw[←jg];exact hp)) ?_
 rw[←jg]
 by_cases pz:512<(aj a.L (pn a b) ⟨a.st,b.st⟩ (i+1)).length
 ·rw[if_pos pz]
  refine bT (decide_eq_true (by rw[xZ];omega)) ?_
  rfl
 ·rw[if_neg pz]
  refine bF (decide_eq_false (by rw[xZ];omega)) ?_
  refine bT (cap (by simp;omega) (by omega)) ?_
  refine bs (agq ho hq) ?_
  refine bT (cap (by simp;omega) (by omega)) ?_
  rw[cN (by omega)]
  rfl
theorem agu (ho:op≤15) (hn: ¬jM a b): ∃X,CC AA ([nV a.L,nV a.st,nV b.st]++dt a (dt b [.int .i64 (op:Int)]))=some ([nV a.L,nV 0,.int .i64 0]++(dt a (dt b [.int .i64 (op:Int)])++[.list ak (jL a b op).bz,.list an (jL a b op).bD,X])):=by
 have h6:=ha.l6
 have VU:=ha.di
 have EI:=hb.di
 have hsa:=ha.s
 have Jo:=hb.s
 have hd:(aj a.L (pn a b) ⟨a.st,b.st⟩ (a.n*b.n)).length≤a.n*b.n:=Hc ha hb hL _
 have hle: ∀i,(aj a.L (pn a b) ⟨a.st,b.st⟩ i).length≤(iU a b).length:=Vx hd
 have agv:(iU a b).length≤512:=by unfold jM at hn;omega
 refine ⟨.list gb (pS (iU a b)),VQ ?_⟩
 unfold M7
 refine bs (VT (x:=⟨a.st,b.st⟩) (by simp only;omega) (by simp only;omega)) ?_
 have key:Loop (xY CC (a.L:Int) 0 0 (a.L:Int) 0 ([]:List V) ([]:List V)) (0,(a.L:Int),(a.st:Int),a.bz,a.bD,(b.L:Int),(b.st:Int),b.bz,b.bD,(op:Int),pS [⟨a.st,b.st⟩],pM [⟨a.st,b.st⟩],([]:List V),([]:List V))=
   some (.inr (((iU a b).length:Int),false,(a.L:Int),(a.st:Int),a.bz,a.bD,(b.L:Int),(b.st:Int),b.bz,b.bD,(op:Int),pS (iU a b),pM (iU a b),(jL a b op).bz,(jL a b op).bD)):=by
  refine (eG (iU a b).length (fun i=>((i:Int),(a.L:Int),(a.st:Int),a.bz,a.bD,(b.L:Int),(b.st:Int),b.bz,b.bD,(op:Int),pS (aj a.L (pn a b) ⟨a.st,b.st⟩ i),pM (aj a.L (pn a b) ⟨a.st,b.st⟩ i),(tab i fun j=>V.bool ((jL a b op).fin j)),(tab i fun j=>fo a.L ((jL a b op).nx j)))) _ (fun i hi=> ?_) ?_)
  ·have gr:=xD hd hi
   have hiK:i<a.n*b.n:=Nat.lt_of_lt_of_le hi hd
   have vn:(aj a.L (pn a b) ⟨a.st,b.st⟩ i)[i]=(iU a b)[i]:=(ki (show i≤a.n*b.n by omega)).getElem gr
   have agw:=hle (i+1)
   have agx:=hle i
   have:=Nd ha hb hL ho gr (by omega) (U:=iU a b) (ki (by omega)) (l1:=[]) (l2:=[]) (l3:=(tab i fun j=>V.bool ((jL a b op).fin j))) (l4:=(tab i fun j=>fo a.L ((jL a b op).nx j))) (by rw[dJ];omega) (by rw[dJ];omega)
   rw[if_neg (by omega),vn] at this
   rw[this,lG,lG]
   have e1:(jL a b op).fin i=pf a b op (iU a b)[i]:=Bd hi
   have e2:fo a.L ((jL a b op).nx i)= .list aY (tab a.L fun x=>nV ((iU a b).idxOf (pn a b (iU a b)[i] x))):=by
    unfold fo
    refine congrArg _ (dU fun x hx=> ?_)
    rw[show (jL a b op).nx i x=_ from vi hi hx];rfl
   rw[e1,e2]
  ·simp only[xY,BZ,un]
   rw[show aj a.L (pn a b) ⟨a.st,b.st⟩ (iU a b).length=iU a b from Be hd,xZ]
   refine bF (bu (Nat.le_refl _)) ?_
   rw[bu (Nat.le_refl _)]
   have e3:(jL a b op).n=(iU a b).length:=kR
   unfold Da.bz Da.bD
   rw[e3];rfl
 refine bs key ?_
 rfl
theorem agy (ho:op≤15) (hn:jM a b): ∃X,CC AA ([nV a.L,nV a.st,nV b.st]++dt a (dt b [.int .i64 (op:Int)]))=some ([nV 0,nV 0,.int .i64 3]++(dt a (dt b [.int .i64 (op:Int)])++[.list ak [],.list an [],X])):=by
 have h6:=ha.l6
 have VU:=ha.di
 have EI:=hb.di
 have hsa:=ha.s
 have Jo:=hb.s
 obtain ⟨m,hm1,oq,hm3⟩:=Vz (Vy (show 512<(aj a.L (pn a b) ⟨a.st,b.st⟩ (a.n*b.n)).length from hn)) (by omega)
 refine ⟨.list gb [],VQ ?_⟩
 unfold M7
 refine bs (VT (x:=⟨a.st,b.st⟩) (by simp only;omega) (by simp only;omega)) ?_
 have key: ∃r,Loop (xY CC (a.L:Int) 0 0 (a.L:Int) 0 ([]:List V) ([]:List V)) (0,(a.L:Int),(a.st:Int),a.bz,a.bD,(b.L:Int),(b.st:Int),b.bz,b.bD,(op:Int),pS [⟨a.st,b.st⟩],pM [⟨a.st,b.st⟩],([]:List V),([]:List V))=some r∧r=(.inl (3,(a.L:Int),(a.st:Int),a.bz,a.bD,(b.L:Int),(b.st:Int),b.bz,b.bD,(op:Int),0,0,[],[],[])):=by
  refine Bk (fun i st=> ∃l3 l4:List V,l3.length=i∧l4.length=i∧st=((i:Int),(a.L:Int),(a.st:Int),a.bz,a.bD,(b.L:Int),(b.st:Int),b.bz,b.bD,(op:Int),pS (aj a.L (pn a b) ⟨a.st,b.st⟩ i),pM (aj a.L (pn a b) ⟨a.st,b.st⟩ i),l3,l4)) _ m 0 _ (fun i _ hi st bP=> ?_) (fun st bP=> ?_) ⟨[],[],rfl,rfl,rfl⟩
  ·obtain ⟨l3,l4,e3,e4,rfl⟩:=bP
   obtain ⟨h1,h2⟩:=oq i (by omega)
   have h3:=(oq (i+1) (by omega)).2
   have:=Nd ha hb hL ho h1 h2 (List.prefix_refl _) (l1:=[]) (l2:=[]) (l3:=l3) (l4:=l4) (by omega) (by omega)
   rw[if_neg (by omega)] at this
   exact ⟨_,this,_,_,by simp[e3],by simp[e4],rfl⟩
  ·obtain ⟨l3,l4,e3,e4,rfl⟩:=bP
   rw[Nat.zero_add] at*
   obtain ⟨h1,h2⟩:=oq m (by omega)
   have:=Nd ha hb hL ho h1 h2 (List.prefix_refl _) (l1:=[]) (l2:=[]) (l3:=l3) (l4:=l4) (by omega) (by omega)
   rw[if_pos (by omega)] at this
   exact ⟨_,this,rfl⟩
 obtain ⟨r,h1,rfl⟩:=key
 refine bs h1 ?_
 rfl
end
def zD:Da:=⟨0,0,[],[]⟩
def gf (m:Da) (e:Int):List V:=[.int .i64 (m.L:Int),.int .i64 (m.st:Int),.int .i64 e,.list ak m.bz,.list an m.bD]
section
variable {a b:Da} (ha:a.Ok) (hb:b.Ok) (hL:a.L=b.L) {op:Nat}
include ha hb hL
theorem agz (ho:op≤15) (hn: ¬jM a b):CC Av (dt a (dt b [.int .i64 (op:Int)]))=some (gf (jL a b op) 0):=by
 obtain ⟨X,hX⟩:=agu ha hb hL ho hn
 refine VR ?_
 unfold M9
 refine bs (oQ ha) (bF rfl ?_)
 refine bs (oQ hb) (bF rfl ?_)
 refine bF (by rw[hL];simp) ?_
 refine bF (decide_eq_false (by omega)) ?_
 refine bF (decide_eq_false (by omega)) ?_
 refine bs hX ?_
 rfl
theorem agA (ho:op≤15) (hn:jM a b):CC Av (dt a (dt b [.int .i64 (op:Int)]))=some (gf zD 3):=by
 obtain ⟨X,hX⟩:=agy ha hb hL ho hn
 refine VR ?_
 unfold M9
 refine bs (oQ ha) (bF rfl ?_)
 refine bs (oQ hb) (bF rfl ?_)
 refine bF (by rw[hL];simp) ?_
 refine bF (decide_eq_false (by omega)) ?_
 refine bF (decide_eq_false (by omega)) ?_
 refine bs hX ?_
 rfl
end
theorem VV {a b:Da}: ∀(w:List Nat) (p:NP),w.foldl (pn a b) p=⟨a.run p.p w,b.run p.q w⟩
 | [],_=>rfl
 | x::w,p=>VV w (pn a b p x)
section
variable {a b:Da} (ha:a.Ok) (hb:b.Ok) (hL:a.L=b.L) {op:Nat}
include ha hb hL
theorem B1 (hn: ¬jM a b):(jL a b op).Ok:=by
 unfold jM at hn
 exact MF (Hc ha hb hL _) ha.l1 ha.l6 (show (iU a b).length≤512 by omega)
theorem agB {w:List Nat} (hw:WL a.L w):(jL a b op).acc 0 w=ya op (a.acc a.st w) (b.acc b.st w):=by
 have hd:(aj a.L (pn a b) ⟨a.st,b.st⟩ (a.n*b.n)).length≤a.n*b.n:=Hc ha hb hL _
 have h1:=ME (fin:=pf a b op) hd (vh _) hw
 have h2:=MC (L:=a.L) (next:=pn a b) (a0:=(⟨a.st,b.st⟩:NP)) (a.n*b.n)
 rw[List.getElem?_eq_getElem (vh _)] at h2
 rw[Option.some.inj h2,VV] at h1
 exact h1
theorem agC (h:a.n*b.n≤512): ¬jM a b:=by
 have:=Hc ha hb hL (a.n*b.n)
 unfold jM iU
 omega
end
noncomputable def VW (C:ae) (fg letter:Int) (B4:List V):Option (List V):=
 (idx B4 letter).bind fun x1=>
 (C FC [.list ch x1.toList,.int .u64 fg]).bind fun r2=>
 some [.int .u64 ((V.nth r2 0).toInt),.list eu B4]
theorem agD {fg letter:Int} {B4:List V} {r:Option (List V)} (h:VW CC fg letter B4=r):CC pI [.int .u64 fg,.int .i64 letter,.list eu B4]=r:=
 bh (key:=138) (L:=db) (bs:=[]) (by kernel_rfl) au (Eq.trans (by kernel_rfl) h)
noncomputable def VX (C:ae) (fg kj km jo jK:Int) (Hd:List V):Option (List V):=
 some [.bool (((IntKind.wrap .u64 ((BitVec.ofInt (IntKind.bits .u64) fg&&&BitVec.ofInt (IntKind.bits .u64) jK).toNat)):Int) != 0),.int .i64 kj,.int .i64 km,.int .u64 jo,.int .u64 jK,.list ar Hd]
theorem agE {fg kj km jo jK:Int} {Hd:List V} {r:Option (List V)} (h:VX CC fg kj km jo jK Hd=r):CC ra [.int .u64 fg,.int .i64 kj,.int .i64 km,.int .u64 jo,.int .u64 jK,.list ar Hd]=r:=
 bh (key:=119) (L:=db) (bs:=[]) (by kernel_rfl) au (Eq.trans (by kernel_rfl) h)
noncomputable def VY (C:ae) (x:Int) (aW:List V):Option (List V):=
 bif cK .u64 x&&true then
  bif cK .u64 x&&true then
  bif Nat.ble ((aW.length+([.int .u64 x]:List V).length)*8) bH then
   some [.int .i64 (aW.length:Int),.list ch (aW++([.int .u64 x]:List V)),.list iO (e9 (.int .u64 x) (.int .i64 (aW.length:Int)) ([]:List V))]
  else none
  else none
 else none
theorem agF {x:Int} {aW:List V} {r:Option (List V)} (h:VY CC x aW=r):CC AI [.int .u64 x,.list ch aW]=r:=
 bh (key:=137) (L:=db) (bs:=[]) (by kernel_rfl) au (Eq.trans (by kernel_rfl) h)
noncomputable def VZ (C:ae) (x:Int) (aW cT:List V):Option (List V):=
 bif cK .u64 x&&true then
  bif !(fH (.int .u64 x) cT) then
  bif cK .u64 x&&true then
   bif Nat.ble ((aW.length+([.int .u64 x]:List V).length)*8) bH then
   some [.int .i64 (aW.length:Int),.list iO (e9 (.int .u64 x) (.int .i64 (aW.length:Int)) cT),.list ch (aW++([.int .u64 x]:List V))]
   else none
  else none
  else
  some [.int .i64 ((gY (.int .u64 x) cT (.int .i64 0)).toInt),.list iO cT,.list ch aW]
 else none
theorem agG {x:Int} {aW cT:List V} {r:Option (List V)} (h:VZ CC x aW cT=r):CC KC [.int .u64 x,.list ch aW,.list iO cT]=r:=
 bh (key:=183) (L:=db) (bs:=[]) (by kernel_rfl) au (Eq.trans (by kernel_rfl) h)
noncomputable abbrev He:Code:=cL Tryd.prog (av.aT 117)
noncomputable def B5 (C:ae) (br i state t36 lR lS lT lU:Int) (lV:List V) (iq iu aK aP:Int) (bU bK dK fP:List V) (t37:Int) (lW rows bS dc:List V) {β:Type} (kn:(Int × (List V) × (List V) × (List V) × (List V))→Option β) (kr:(Int × Bool × (List V) × (List V) × (List V) × (List V))→Option β):Option β:=
 bif decide ((t37:Int)<t36) then
  (C pI [.int .u64 state,.int .i64 t37,.list eu lW]).bind fun r3=>
  (C KC [.int .u64 ((V.nth r3 0).toInt),.list ch bS,.list iO dc]).bind fun r4=>
  bif (decide (0≤t37))&&(decide (t37<(rows.length:Int))) then
  (rows[(t37:Int).toNat]?).bind fun x5=>
  kn (IntKind.wrap .i64 (t37+1),(V.nth (r3.drop 1) 0).toList,rows.set ((t37:Int).toNat) (.int .i64 ((V.nth r4 0).toInt)),(V.nth ((r4.drop 1).drop 1) 0).toList,(V.nth (r4.drop 1) 0).toList)
  else none
 else
  kr (t37,decide ((t37:Int)<t36),lW,rows,bS,dc)
noncomputable def Hf (C:ae) (br i state t36 lR lS lT lU:Int) (lV:List V) (iq iu aK aP:Int) (bU bK dK fP:List V):(Int × (List V) × (List V) × (List V) × (List V))→Option ((Int × (List V) × (List V) × (List V) × (List V)) ⊕ (Int × Bool × (List V) × (List V) × (List V) × (List V))):=un fun t37=>un fun lW=>un fun rows=>un fun bS dc=>B5 C br i state t36 lR lS lT lU lV iq iu aK aP bU bK dK fP t37 lW rows bS dc (fun y=>some (.inl y)) (fun r=>some (.inr r))
noncomputable def B6 (C:ae) (br iq iu aK aP:Int) (cM bU:List V) (i:Int) (lW:List V) (lR lS lT lU:Int) (lV bK bS dc dK:List V) {β:Type} (kn:(Int × (List V) × Int × Int × Int × Int × (List V) × (List V) × (List V) × (List V) × (List V))→Option β) (kr:((Int × (List V) × Int × Int × Int × Int × (List V) × Int × Int × (List V) × (List V) × (List V)) ⊕ (Int × Bool × (List V) × Int × Int × Int × Int × (List V) × (List V) × (List V) × (List V) × (List V)))→Option β):Option β:=
 bif decide ((i:Int)<(bK.length:Int)) then
  bif (decide (0≤i))&&(decide (i<(bK.length:Int))) then
  (bK[(i:Int).toNat]?).bind fun x2=>
  bif (decide (0≤br))&&((decide (br≤br))&&(Nat.ble (((br:Int).toNat)*8) bH)) then
   (Loop (Hf C br i x2.toInt ((List.replicate ((br:Int).toNat) (V.int .i64 0)).length:Int) lR lS lT lU lV iq iu aK aP cM bU dc dK) (0,lW,List.replicate ((br:Int).toNat) (V.int .i64 0),bK,bS)).bind (un fun (rn:Int)=>un fun (nF:Bool)=>un fun (tf:List V)=>un fun (B7:List V)=>un fun (yb:List V) (Ng:List V)=>
    bif decide (((yb.length:Int):Int)>512) then
    kr (.inl (3,tf,lR,lS,lT,lU,lV,0,0,([]:List V),([]:List V),([]:List V)))
    else
    bif Nat.ble ((dK.length+([.list aY B7]:List V).length)*24) bH then
     (C ra [.int .u64 x2.toInt,.int .i64 lR,.int .i64 lS,.int .u64 lT,.int .u64 lU,.list ar lV]).bind fun jN=>
     bif Nat.ble ((dc.length+([.bool ((V.nth jN 0).toBool)]:List V).length)*1) bH then
     kn (IntKind.wrap .i64 (i+1),tf,(V.nth (jN.drop 1) 0).toInt,(V.nth ((jN.drop 1).drop 1) 0).toInt,(V.nth (((jN.drop 1).drop 1).drop 1) 0).toInt,(V.nth ((((jN.drop 1).drop 1).drop 1).drop 1) 0).toInt,(V.nth (((((jN.drop 1).drop 1).drop 1).drop 1).drop 1) 0).toList,yb,Ng,dc++([.bool ((V.nth jN 0).toBool)]:List V),dK++([.list aY B7]:List V))
     else none
    else none)
  else none
  else none
 else
  kr (.inr (i,decide ((i:Int)<(bK.length:Int)),lW,lR,lS,lT,lU,lV,bK,bS,dc,dK))
noncomputable def yc (C:ae) (br iq iu aK aP:Int) (cM bU:List V):(Int × (List V) × Int × Int × Int × Int × (List V) × (List V) × (List V) × (List V) × (List V))→Option ((Int × (List V) × Int × Int × Int × Int × (List V) × (List V) × (List V) × (List V) × (List V)) ⊕ ((Int × (List V) × Int × Int × Int × Int × (List V) × Int × Int × (List V) × (List V) × (List V)) ⊕ (Int × Bool × (List V) × Int × Int × Int × Int × (List V) × (List V) × (List V) × (List V) × (List V)))):=un fun i=>un fun lW=>un fun lR=>un fun lS=>un fun lT=>un fun lU=>un fun lV=>un fun bK=>un fun bS=>un fun dc dK=>B6 C br iq iu aK aP cM bU i lW lR lS lT lU lV bK bS dc dK (fun y=>some (.inl y)) (fun r=>some (.inr r))
noncomputable def V0 (C:ae):cy:=fun β n ds k=>
 bif Nat.beq n 161 then bw LH [false,false,false,false,true,true,false,false,false,false,false,false,false,false,false,true,false,false,true,true,false,false] [[1,2,3,4,0,0,0,7,8,9,10,11,12,13,14,15,0,17,18,0,0,21,22]] (@B5 C) ds k else
 bif Nat.beq n 81 then bw LI [false,true,true,true,true,true,true,true,false,false,false,false,false,false,true,true,true,true] [[0,0,0,0,0,0,0,0,0,0,0,0],[1,0,0,0,0,0,0,0,0,9,10,11,12,13,14,0,0,0,0]] (@B6 C) ds k else
 none
abbrev V1 (C:ae) (b:cv):Prop:=cw Tryd.prog av C (V0 C) 117 (cR Tryd.prog (av.aT 117)) (av.sin 117).aX.length b
theorem agH (C:ae):V1 C (.loop (aq [1,1,1,1,0,1,0,0,1,0,0,1,1,0,1,0,0] He)):=
 bC LH [false,false,false,false,true,true,false,false,false,false,false,false,false,false,false,true,false,false,true,true,false,false] [[1,2,3,4,0,0,0,7,8,9,10,11,12,13,14,15,0,17,18,0,0,21,22]] (@B5 C) (by kernel_rfl) (aV (bs:=[]) (by kernel_rfl) au) (fun ds=>by kernel_rfl) (fun i x=>by kernel_rfl) (fun i x β k=>by kernel_rfl) (fun β ds k=>by kernel_rfl)
theorem agI (C:ae):V1 C (.loop (aq [1,1,1,1,0,1,0,0] He)):=
 bC LI [false,true,true,true,true,true,true,true,false,false,false,false,false,false,true,true,true,true] [[0,0,0,0,0,0,0,0,0,0,0,0],[1,0,0,0,0,0,0,0,0,9,10,11,12,13,14,0,0,0,0]] (@B6 C) (by kernel_rfl) (aV (bs:=[.loop (aq [1,1,1,1,0,1,0,0,1,0,0,1,1,0,1,0,0] He)]) (by kernel_rfl) (bf (agH C) au)) (fun ds=>by kernel_rfl) (fun i x=>by kernel_rfl) (fun i x β k=>by kernel_rfl) (fun β ds k=>by kernel_rfl)
noncomputable def Nh (C:ae) (br start:Int) (lW:List V) (lR lS lT lU:Int) (lV:List V):Option (List V):=
 (C AI [.int .u64 start,.list ch ([]:List V)]).bind fun r1=>
 (Loop (yc C br 0 0 br 0 ([]:List V) ([]:List V)) (0,lW,lR,lS,lT,lU,lV,(V.nth (r1.drop 1) 0).toList,(V.nth ((r1.drop 1).drop 1) 0).toList,([]:List V),([]:List V))).bind (dA (un fun (rD:Int)=>un fun (vl:List V)=>un fun (vd:Int)=>un fun (agJ:Int)=>un fun (th:Int)=>un fun (vm:Int)=>un fun (MM:List V)=>un fun (agK:Int)=>un fun (MN:Int)=>un fun (B0:List V)=>un fun (Bt:List V) (agL:List V)=>
  some [.int .i64 agK,.int .i64 MN,.int .i64 rD,.list eu vl,.int .i64 vd,.int .i64 agJ,.int .u64 th,.int .u64 vm,.list ar MM,.list ak B0,.list an Bt,.list ch agL]) (un fun (alf:Int)=>un fun (agM:Bool)=>un fun (agN:List V)=>un fun (agO:Int)=>un fun (agP:Int)=>un fun (agQ:Int)=>un fun (agR:Int)=>un fun (agS:List V)=>un fun (Gz:List V)=>un fun (U6:List V)=>un fun (MQ:List V) (agT:List V)=>
  some [.int .i64 br,.int .i64 0,.int .i64 0,.list eu agN,.int .i64 agO,.int .i64 agP,.int .u64 agQ,.int .u64 agR,.list ar agS,.list ak MQ,.list an agT,.list ch Gz]))
theorem V2 {br start:Int} {lW:List V} {lR lS lT lU:Int} {lV:List V} {r:Option (List V)} (h:Nh CC br start lW lR lS lT lU lV=r):CC u0 [.int .i64 br,.int .u64 start,.list eu lW,.int .i64 lR,.int .i64 lS,.int .u64 lT,.int .u64 lU,.list ar lV]=r:=
 bh (key:=117) (L:=V0 CC) (bs:=[.loop (aq [1,1,1,1,0,1,0,0] He)]) (by kernel_rfl) (bf (agI CC) au) (Eq.trans (by kernel_rfl) h)
noncomputable def Ni (C:ae) (eN gd eV gE:Int) (ff:List V):Option (List V):=
 (C Fp [.int .i64 eN,.int .i64 gd,.int .u64 eV,.int .u64 gE,.list ar ff]).bind fun r1=>
 bif (((V.nth r1 0).toInt):Int) != 0 then
  some [.int .i64 0,.int .i64 0,.int .i64 ((V.nth r1 0).toInt),.list ak ([]:List V),.list an ([]:List V),.list ch ([]:List V)]
 else
  (C Fy [.int .i64 eN,.int .i64 gd,.int .u64 eV,.int .u64 gE,.list ar ff]).bind fun r2=>
  (C u0 [.int .i64 eN,.int .u64 eV,.list eu ((V.nth r2 0).toList),.int .i64 eN,.int .i64 gd,.int .u64 eV,.int .u64 gE,.list ar ff]).bind fun r3=>
  some [.int .i64 ((V.nth r3 0).toInt),.int .i64 ((V.nth (r3.drop 1) 0).toInt),.int .i64 ((V.nth (r3.drop 2) 0).toInt),.list ak ((V.nth (((r3.drop 3).drop 1).drop 5) 0).toList),.list an ((V.nth ((((r3.drop 3).drop 1).drop 5).drop 1) 0).toList),.list ch ((V.nth (((((r3.drop 3).drop 1).drop 5).drop 1).drop 1) 0).toList)]
theorem V3 {eN gd eV gE:Int} {ff:List V} {r:Option (List V)} (h:Ni CC eN gd eV gE ff=r):CC AB [.int .i64 eN,.int .i64 gd,.int .u64 eV,.int .u64 gE,.list ar ff]=r:=
 bh (key:=99) (L:=db) (bs:=[]) (by kernel_rfl) au (Eq.trans (by kernel_rfl) h)
def uV (q:Nat):V:= .int .u64 (q:Int)
def uM (S:List Nat):List V:=fB uV 0 S
theorem Nj (a b:Nat):gJ (uV a) (uV b)=decide (a=b):=aeO a b
theorem agU {S:List Nat} {i:Nat} (h:i<S.length):(U1 S)[i]? =some (uV S[i]):=Mt (List.getElem?_eq_getElem h)
theorem V4 {x:Nat} (hx:x<2^64):CC AI [uV x,.list ch []]=some [nV 0,.list ch (U1 [x]),.list iO (uM [x])]:=by
 refine agF ?_
 unfold VY
 rw[UU hx]
 exact bT rfl (bT rfl (bT (cap (by simp) (by omega)) rfl))
theorem agV {S:List Nat} {x:Nat} (hx:x<2^64) (hl:S.length≤1000000):CC KC [uV x,.list ch (U1 S),.list iO (uM S)]=some [nV ((cx S x).idxOf x),.list iO (uM (cx S x)),.list ch (U1 (cx S x))]:=by
 refine agG ?_
 unfold VZ
 have e1:=xI Nj x S 0
 rw[UU hx]
 refine bT rfl ?_
 rw[show (V.int .u64 (x:Int))=uV x from rfl,ML]
 by_cases h:x∈S
 ·refine bF (by rw[show fH (uV x) (uM S)=_ from e1];simpa using h) ?_
  have e2:=xJ Nj x (.int .i64 0) S 0 h
  rw[show gY (uV x) (uM S) (.int .i64 0)=_ from e2,if_pos h,Nat.zero_add,show cx S x=S by unfold cx;rw[if_pos h]]
  rfl
 ·refine bT (by rw[show fH (uV x) (uM S)=_ from e1];simpa using h) ?_
  refine bT rfl ?_
  refine bT (cap (by rw[pR];simp;omega) (by omega)) ?_
  have e2:=xK Nj x S 0 h
  rw[Nat.zero_add] at e2
  rw[pR,show e9 (uV x) (.int .i64 (S.length:Int)) (uM S)=_ from e2,if_neg h,show cx S x=S++[x] by unfold cx;rw[if_neg h]]
  simp[U1,nV,uM,uV]
def sn (E:List Ed) (s x:Nat):Nat:=im E s (x:Int)
def sf (fin s:Nat):Bool:= !((s&&&fin)==0)
structure Nat6 (n:Nf) (L S:Nat):Prop where
 code:n.code=0
 ok:n.Ok
 hL:n.L=(L:Int)
 hS:n.S=(S:Int)
namespace Nat6
variable {n:Nf} {L S:Nat} (h:Nat6 n L S)
include h
theorem good:n.Good:=Nf.ac8 h.code
theorem l1:1≤L:=by have:=h.good.L1;have:=h.hL;omega
theorem l6:L≤6:=by have:=h.good.L6;have:=h.hL;omega
theorem pT:S≤64:=by have:=h.good.S64;have:=h.hS;omega
theorem sS:n.S.toNat=S:=by have:=h.hS;omega
theorem lL:n.L.toNat=L:=by have:=h.hL;omega
theorem edF: ∀e∈n.E,e.f.toNat<S:=fun e he=>by have:=h.good.E e he;have:=h.hS;unfold Ed.In at*;omega
theorem V5: ∀e∈n.E,e.t.toNat<S:=fun e he=>by have:=h.good.E e he;have:=h.hS;unfold Ed.In at*;omega
theorem st:n.st<2^S:=by have:=h.good.st;rwa [h.sS] at this
theorem fin:n.fin<2^S:=by have:=h.good.fin;rwa [h.sS] at this
theorem pow:2^S≤2^64:=Nat.pow_le_pow_right (by omega) h.pT
theorem next (s x:Nat):sn n.E s x<2^S:=Mq h.V5
end Nat6
def iv (n:Nf) (L S:Nat):List Nat:=aj L (sn n.E) n.st (2^S)
def iW (n:Nf) (L S:Nat):Da:=eW L (sn n.E) (sf n.fin) (iv n L S)
def iw (n:Nf) (L S:Nat):Prop:=512<(iv n L S).length
def tV (n:Nf) (L S:Nat):List V:=U2 (jI L S n.E)
def V6 (m:Da) (e:Int) (X:V):List V:=[.int .i64 (m.L:Int),.int .i64 (m.st:Int),.int .i64 e,.list ak m.bz,.list an m.bD,X]
section
variable {n:Nf} {L S:Nat} (h:Nat6 n L S)
include h
theorem agW {s x:Nat} (hs:s<2^S) (hx:x<L):CC pI [uV s,nV x,.list eu (tV n L S)]=some [uV (sn n.E s x),.list eu (tV n L S)]:=by
 have hp:=h.pow
 refine agD ?_
 unfold VW
 have e1:idx (tV n L S) (x:Int)=some (.list ch (U1 (lF S n.E (x:Int)))):=by
  rw[Kg rfl]
  unfold tV U2
  rw[List.getElem?_map,Mu hx];rfl
 refine bs e1 ?_
 have hr:xB (lF S n.E (x:Int)):=ad9 h.pT h.V5
 have e2:=ad8 hr (s:=s) (by omega)
 have hl:(lF S n.E (x:Int)).length=S:=by simp[lF]
 rw[hl,aea (by omega) h.pT h.edF] at e2
 refine bs e2 ?_
 rfl
theorem agX {s:Nat} (hs:s<2^S):CC ra (uV s::mJ n [])=some (.bool (sf n.fin s)::mJ n []):=by
 have hp:=h.pow
 have hf:=h.fin
 refine agE ?_
 unfold VX
 have e:IntKind.wrap .u64 ((BitVec.ofInt (IntKind.bits .u64) (s:Int)&&&BitVec.ofInt (IntKind.bits .u64) (n.fin:Int)).toNat)=((s&&&n.fin:Nat):Int):=u64_and (by omega) (by omega)
 rw[e]
 have e2:(((s&&&n.fin:Nat):Int) != 0)=sf n.fin s:=by
  unfold sf
  rw[Bool.eq_iff_iff]
  simp
 rw[e2];rfl
theorem sub_lt (i:Nat): ∀s∈aj L (sn n.E) n.st i,s<2^S:=VB (P:=fun s=>s<2^S) h.st (fun s _ x _=>h.next s x) i
theorem yd (i:Nat):(aj L (sn n.E) n.st i).length≤2^S:=by
 have:=MH (L:=L) (next:=sn n.E) (a0:=n.st) (U:=List.range (2^S)) (List.mem_range.2 h.st) (fun s _ x _=>List.mem_range.2 (h.next s x)) i
 simpa using this
theorem agY {T U:List Nat} {s:Nat} (hs:s<2^S) (hT:T.length≤1000) (hp:bJ (sn n.E) T s L <+: U) {i c1 c2:Int} {l1 l2 l3 l4:List V}:
  Loop (Hf CC (L:Int) i (s:Int) ((List.replicate (((L:Nat):Int).toNat) (V.int .i64 0)).length:Int) n.L n.S (n.st:Int) (n.fin:Int) (n.E.map Ed.enc) c1 c2 (L:Int) 0 l1 l2 l3 l4) (0,tV n L S,List.replicate (((L:Nat):Int).toNat) (V.int .i64 0),U1 T,uM T)=
   some ((L:Int),false,tV n L S,(tab L fun x=>nV (U.idxOf (sn n.E s x))),U1 (bJ (sn n.E) T s L),uM (bJ (sn n.E) T s L)):=by
 have h6:=h.l6
 have V7:=h.pow
 rw[Int.toNat_natCast,lH,dJ]
 refine (eG L (fun x=>((x:Int),tV n L S,(tab L fun j=>if j<x then nV (U.idxOf (sn n.E s j)) else nV 0),U1 (bJ (sn n.E) T s x),uM (bJ (sn n.E) T s x))) _ (fun x hx=> ?_) ?_)
 ·simp only[Hf,B5,un]
  refine bT (dE hx) ?_
  refine bs (agW h hs hx) ?_
  have hl:=M4 (next:=sn n.E) T s x
  have hn:=h.next s x
  refine bs (agV (S:=bJ (sn n.E) T s x) (x:=sn n.E s x) (by omega) (by omega)) ?_
  refine (eF hx).trans ?_
  rw[cN (by omega),Int.toNat_natCast,mO]
  have e:(cx (bJ (sn n.E) T s x) (sn n.E s x)).idxOf (sn n.E s x)=U.idxOf (sn n.E s x):=(vj ((vf T s (show x+1≤L by omega)).trans hp) ve).symm
  show some (Sum.inl _)=some (Sum.inl _)
  refine congrArg (fun x=>some (Sum.inl x)) ?_
  refine Prod.ext rfl (Prod.ext rfl (Prod.ext ?_ (Prod.ext rfl rfl)))
  refine dU fun j _=> ?_
  by_cases hj:j=x
  ·rw[if_pos hj,if_pos (by omega),hj,←e];rfl
  ·rw[if_neg hj]
   by_cases bZ:j<x
   ·rw[if_pos bZ,if_pos (by omega)]
   ·rw[if_neg bZ,if_neg (by omega)]
 ·simp only[Hf,B5,un]
  refine bF (bu (Nat.le_refl _)) ?_
  rw[bu (Nat.le_refl _)]
  have:(tab L fun j=>if j<L then nV (U.idxOf (sn n.E s j)) else nV 0)=tab L fun j=>nV (U.idxOf (sn n.E s j)):=dU fun j hj=>if_pos hj
  rw[this]
theorem Nk {i:Nat} (gr:i<(aj L (sn n.E) n.st i).length) (hlen:(aj L (sn n.E) n.st i).length≤512) {U:List Nat} (hp:aj L (sn n.E) n.st (i+1) <+: U) {l1 l2 l3 l4:List V} (hl3:l3.length≤1000) (hl4:l4.length≤1000):
  yc CC (L:Int) 0 0 (L:Int) 0 l1 l2 ((i:Int),tV n L S,n.L,n.S,(n.st:Int),(n.fin:Int),n.E.map Ed.enc,U1 (aj L (sn n.E) n.st i),uM (aj L (sn n.E) n.st i),l3,l4)=
   if 512<(aj L (sn n.E) n.st (i+1)).length then some (.inr (.inl (3,tV n L S,n.L,n.S,(n.st:Int),(n.fin:Int),n.E.map Ed.enc,0,0,[],[],[])))
   else some (.inl (((i+1:Nat):Int),tV n L S,n.L,n.S,(n.st:Int),(n.fin:Int),n.E.map Ed.enc,U1 (aj L (sn n.E) n.st (i+1)),uM (aj L (sn n.E) n.st (i+1)),l3++[V.bool (sf n.fin (aj L (sn n.E) n.st i)[i])],l4++[V.list aY (tab L fun x=>nV (U.idxOf (sn n.E (aj L (sn n.E) n.st i)[i] x)))])):=by
 have h6:=h.l6
 have hq:=sub_lt h i _ (List.getElem_mem gr)
 have jg:aj L (sn n.E) n.st (i+1)=bJ (sn n.E) (aj L (sn n.E) n.st i) (aj L (sn n.E) n.st i)[i] L:=MB (List.getElem?_eq_getElem gr)
 simp only[yc,B6,un]
 refine bT (decide_eq_true (by rw[pR];omega)) ?_
 refine (pU (agU gr)).trans ?_
 refine bT (kV (by omega) (by omega)) ?_
 refine bs (agY h hq (by omega) (U:=U) (by rw[←jg];exact hp)) ?_
 rw[←jg]
 by_cases pz:512<(aj L (sn n.E) n.st (i+1)).length
 ·rw[if_pos pz]
  refine bT (decide_eq_true (by rw[pR];omega)) ?_
  rfl
 ·rw[if_neg pz]
  refine bF (decide_eq_false (by rw[pR];omega)) ?_
  refine bT (cap (by simp;omega) (by omega)) ?_
  refine bs (agX h hq) ?_
  refine bT (cap (by simp;omega) (by omega)) ?_
  rw[cN (by omega)]
  rfl
theorem agZ (hn: ¬iw n L S): ∃X,CC u0 (nV L::uV n.st:: .list eu (tV n L S)::mJ n [])=some ([nV L,nV 0,.int .i64 0,.list eu (tV n L S)]++(mJ n []++[.list ak (iW n L S).bz,.list an (iW n L S).bD,X])):=by
 have h6:=h.l6
 have bP:=h.st
 have V7:=h.pow
 have hd:(aj L (sn n.E) n.st (2^S)).length≤2^S:=yd h _
 have hle: ∀i,(aj L (sn n.E) n.st i).length≤(iv n L S).length:=Vx hd
 have agv:(iv n L S).length≤512:=by unfold iw at hn;omega
 refine ⟨.list ch (U1 (iv n L S)),V2 ?_⟩
 unfold Nh
 refine bs (V4 (x:=n.st) (by omega)) ?_
 have key:Loop (yc CC (L:Int) 0 0 (L:Int) 0 ([]:List V) ([]:List V)) (0,tV n L S,n.L,n.S,(n.st:Int),(n.fin:Int),n.E.map Ed.enc,U1 [n.st],uM [n.st],([]:List V),([]:List V))=
   some (.inr (((iv n L S).length:Int),false,tV n L S,n.L,n.S,(n.st:Int),(n.fin:Int),n.E.map Ed.enc,U1 (iv n L S),uM (iv n L S),(iW n L S).bz,(iW n L S).bD)):=by
  refine (eG (iv n L S).length (fun i=>((i:Int),tV n L S,n.L,n.S,(n.st:Int),(n.fin:Int),n.E.map Ed.enc,U1 (aj L (sn n.E) n.st i),uM (aj L (sn n.E) n.st i),(tab i fun j=>V.bool ((iW n L S).fin j)),(tab i fun j=>fo L ((iW n L S).nx j)))) _ (fun i hi=> ?_) ?_)
  ·have gr:=xD hd hi
   have hiK:i<2^S:=Nat.lt_of_lt_of_le hi hd
   have vn:(aj L (sn n.E) n.st i)[i]=(iv n L S)[i]:=(ki (show i≤2^S by omega)).getElem gr
   have agw:=hle (i+1)
   have agx:=hle i
   have:=Nk h gr (by omega) (U:=iv n L S) (ki (by omega)) (l1:=[]) (l2:=[]) (l3:=(tab i fun j=>V.bool ((iW n L S).fin j))) (l4:=(tab i fun j=>fo L ((iW n L S).nx j))) (by rw[dJ];omega) (by rw[dJ];omega)
   rw[if_neg (by omega),vn] at this
   rw[this,lG,lG]
   have e1:(iW n L S).fin i=sf n.fin (iv n L S)[i]:=Bd hi
   have e2:fo L ((iW n L S).nx i)= .list aY (tab L fun x=>nV ((iv n L S).idxOf (sn n.E (iv n L S)[i] x))):=by
    unfold fo
    refine congrArg _ (dU fun x hx=> ?_)
    rw[show (iW n L S).nx i x=_ from vi hi hx];rfl
   rw[e1,e2]
  ·simp only[yc,B6,un]
   rw[show aj L (sn n.E) n.st (iv n L S).length=iv n L S from Be hd,pR]
   refine bF (bu (Nat.le_refl _)) ?_
   rw[bu (Nat.le_refl _)]
   have e3:(iW n L S).n=(iv n L S).length:=kR
   unfold Da.bz Da.bD
   rw[e3];rfl
 refine bs key ?_
 rfl
theorem ag0 (hn:iw n L S): ∃X,CC u0 (nV L::uV n.st:: .list eu (tV n L S)::mJ n [])=some ([nV 0,nV 0,.int .i64 3,.list eu (tV n L S)]++(mJ n []++[.list ak [],.list an [],X])):=by
 have h6:=h.l6
 have bP:=h.st
 have V7:=h.pow
 obtain ⟨m,hm1,oq,hm3⟩:=Vz (Vy (show 512<(aj L (sn n.E) n.st (2^S)).length from hn)) (by omega)
 refine ⟨.list ch [],V2 ?_⟩
 unfold Nh
 refine bs (V4 (x:=n.st) (by omega)) ?_
 have key: ∃r,Loop (yc CC (L:Int) 0 0 (L:Int) 0 ([]:List V) ([]:List V)) (0,tV n L S,n.L,n.S,(n.st:Int),(n.fin:Int),n.E.map Ed.enc,U1 [n.st],uM [n.st],([]:List V),([]:List V))=some r∧r=(.inl (3,tV n L S,n.L,n.S,(n.st:Int),(n.fin:Int),n.E.map Ed.enc,0,0,[],[],[])):=by
  refine Bk (fun i st=> ∃l3 l4:List V,l3.length=i∧l4.length=i∧st=((i:Int),tV n L S,n.L,n.S,(n.st:Int),(n.fin:Int),n.E.map Ed.enc,U1 (aj L (sn n.E) n.st i),uM (aj L (sn n.E) n.st i),l3,l4)) _ m 0 _ (fun i _ hi st bP=> ?_) (fun st bP=> ?_) ⟨[],[],rfl,rfl,rfl⟩
  ·obtain ⟨l3,l4,e3,e4,rfl⟩:=bP
   obtain ⟨h1,h2⟩:=oq i (by omega)
   have h3:=(oq (i+1) (by omega)).2
   have:=Nk h h1 h2 (List.prefix_refl _) (l1:=[]) (l2:=[]) (l3:=l3) (l4:=l4) (by omega) (by omega)
   rw[if_neg (by omega)] at this
   exact ⟨_,this,_,_,by simp[e3],by simp[e4],rfl⟩
  ·obtain ⟨l3,l4,e3,e4,rfl⟩:=bP
   rw[Nat.zero_add] at*
   obtain ⟨h1,h2⟩:=oq m (by omega)
   have:=Nk h h1 h2 (List.prefix_refl _) (l1:=[]) (l2:=[]) (l3:=l3) (l4:=l4) (by omega) (by omega)
   rw[if_pos (by omega)] at this
   exact ⟨_,this,rfl⟩
 obtain ⟨r,h1,rfl⟩:=key
 refine bs h1 ?_
 rfl
theorem ag1 (hn: ¬iw n L S): ∃X,CC AB (mJ n [])=some (V6 (iW n L S) 0 (.list ch X)):=by
 obtain ⟨X,hX⟩:=agZ h hn
 refine ⟨X.toList,V3 ?_⟩
 unfold Ni
 have hv:=TR n h.ok
 rw[h.code] at hv
 refine bs hv (bF rfl ?_)
 have hs:=Ug n h.ok h.good
 rw[h.lL,h.sS] at hs
 refine bs hs ?_
 refine bs ((congrArg (fun z=>CC u0 (.int .i64 z::uV n.st:: .list eu (tV n L S)::mJ n [])) h.hL).trans hX) ?_
 rfl
theorem ag2 (hn:iw n L S): ∃X,CC AB (mJ n [])=some (V6 zD 3 (.list ch X)):=by
 obtain ⟨X,hX⟩:=ag0 h hn
 refine ⟨X.toList,V3 ?_⟩
 unfold Ni
 have hv:=TR n h.ok
 rw[h.code] at hv
 refine bs hv (bF rfl ?_)
 have hs:=Ug n h.ok h.good
 rw[h.lL,h.sS] at hs
 refine bs hs ?_
 refine bs ((congrArg (fun z=>CC u0 (.int .i64 z::uV n.st:: .list eu (tV n L S)::mJ n [])) h.hL).trans hX) ?_
 rfl
theorem ye (hn: ¬iw n L S):(iW n L S).Ok:=by
 unfold iw at hn
 exact MF (yd h _) h.l1 h.l6 (show (iv n L S).length≤512 by omega)
theorem ag3 {w:List Nat} (hw:WL L w):(iW n L S).acc 0 w=sf n.fin (w.foldl (sn n.E) n.st):=by
 have h1:=ME (fin:=sf n.fin) (yd h _) (vh _) hw
 have h2:=MC (L:=L) (next:=sn n.E) (a0:=n.st) (2^S)
 rw[List.getElem?_eq_getElem (vh _)] at h2
 rw[Option.some.inj h2] at h1
 exact h1
end
noncomputable abbrev Hg:Code:=cL Tryd.prog (av.aT 107)
noncomputable def yf (C:ae) (i aK aP:Int) (bc a9:List V) (x:Int) (dL mR lX:List V) {β:Type} (kn:(Int × (List V) × (List V) × (List V))→Option β) (kr:(Int × Bool × (List V) × (List V) × (List V))→Option β):Option β:=
 bif decide ((x:Int)<aK) then
  bif (decide (0≤i))&&(decide (i<(dL.length:Int))) then
  (dL[(i:Int).toNat]?).bind fun x2=>
  (idx a9 x2.toInt).bind fun x3=>
  (idx x3.toList x).bind fun x4=>
  bif (decide (0≤x4.toInt))&&(decide (x4.toInt<(lX.length:Int))) then
   (lX[(x4.toInt:Int).toNat]?).bind fun x5=>
   bif !x5.toBool then
   bif (decide (0≤x4.toInt))&&(decide (x4.toInt<(lX.length:Int))) then
    (lX[(x4.toInt:Int).toNat]?).bind fun x6=>
    bif Nat.ble ((dL.length+([.int .i64 x4.toInt]:List V).length)*8) bH then
    bif (decide (0≤i))&&(decide (i<(mR.length:Int))) then
     (mR[(i:Int).toNat]?).bind fun x7=>
     bif Nat.ble (x7.toStr.length+(jb ([.int .u8 (IntKind.wrap .u8 (IntKind.wrap .i64 (97+x)))]:List V)).length) tI then
     bif Nat.ble ((mR.length+([.str (x7.toStr++(jb ([.int .u8 (IntKind.wrap .u8 (IntKind.wrap .i64 (97+x)))]:List V)))]:List V).length)*16) bH then
      kn (IntKind.wrap .i64 (x+1),dL++([.int .i64 x4.toInt]:List V),mR++([.str (x7.toStr++(jb ([.int .u8 (IntKind.wrap .u8 (IntKind.wrap .i64 (97+x)))]:List V)))]:List V),lX.set ((x4.toInt:Int).toNat) (.bool true))
     else none
     else none
    else none
    else none
   else none
   else
   kn (IntKind.wrap .i64 (x+1),dL,mR,lX)
  else none
  else none
 else
  kr (x,decide ((x:Int)<aK),dL,mR,lX)
noncomputable def B8 (C:ae) (i aK aP:Int) (bc a9:List V):(Int × (List V) × (List V) × (List V))→Option ((Int × (List V) × (List V) × (List V)) ⊕ (Int × Bool × (List V) × (List V) × (List V))):=un fun x=>un fun dL=>un fun mR lX=>yf C i aK aP bc a9 x dL mR lX (fun y=>some (.inl y)) (fun r=>some (.inr r))
noncomputable def B9 (C:ae) (aK aP:Int) (bc a9:List V) (i:Int) (dL mR lX:List V) {β:Type} (kn:(Int × (List V) × (List V) × (List V))→Option β) (kr:(Int × Bool × (List V) × (List V) × (List V))→Option β):Option β:=
 bif decide ((i:Int)<(dL.length:Int)) then
  (Loop (B8 C i aK aP bc a9) (0,dL,mR,lX)).bind (un fun (x_8:Int)=>un fun (rF:Bool)=>un fun (ag4:List V)=>un fun (ag5:List V) (ag6:List V)=>
   kn (IntKind.wrap .i64 (i+1),ag4,ag5,ag6))
 else
  kr (i,decide ((i:Int)<(dL.length:Int)),dL,mR,lX)
noncomputable def Hh (C:ae) (aK aP:Int) (bc a9:List V):(Int × (List V) × (List V) × (List V))→Option ((Int × (List V) × (List V) × (List V)) ⊕ (Int × Bool × (List V) × (List V) × (List V))):=un fun i=>un fun dL=>un fun mR lX=>B9 C aK aP bc a9 i dL mR lX (fun y=>some (.inl y)) (fun r=>some (.inr r))
noncomputable def V8 (C:ae):cy:=fun β n ds k=>
 bif Nat.beq n 129 then bw Lw [false,true,false,false,false,false,true,true,true] [[1,0,0,3,4,5,6,0,0,0]] (@yf C) ds k else
 bif Nat.beq n 81 then bw Lx [true,false,false,false,false,true,true,true] [[0,0,2,3,4,5,0,0,0]] (@B9 C) ds k else
 none
abbrev V9 (C:ae) (b:cv):Prop:=cw Tryd.prog av C (V8 C) 107 (cR Tryd.prog (av.aT 107)) (av.sin 107).aX.length b
theorem ag7 (C:ae):V9 C (.loop (aq [1,1,1,1,0,1,0,0,1,0,0,1,0,0] Hg)):=
 bC Lw [false,true,false,false,false,false,true,true,true] [[1,0,0,3,4,5,6,0,0,0]] (@yf C) (by kernel_rfl) (aV (bs:=[]) (by kernel_rfl) au) (fun ds=>by kernel_rfl) (fun i x=>by kernel_rfl) (fun i x β k=>by kernel_rfl) (fun β ds k=>by kernel_rfl)
theorem ag8 (C:ae):V9 C (.loop (aq [1,1,1,1,0,1,0,0] Hg)):=
 bC Lx [true,false,false,false,false,true,true,true] [[0,0,2,3,4,5,0,0,0]] (@B9 C) (by kernel_rfl) (aV (bs:=[.loop (aq [1,1,1,1,0,1,0,0,1,0,0,1,0,0] Hg)]) (by kernel_rfl) (bf (ag7 C) au)) (fun ds=>by kernel_rfl) (fun i x=>by kernel_rfl) (fun i x β k=>by kernel_rfl) (fun β ds k=>by kernel_rfl)
noncomputable def Wa (C:ae) (aQ aS:Int) (aF aZ:List V):Option (List V):=
 bif (decide (0≤(aF.length:Int)))&&((decide ((aF.length:Int)≤(aF.length:Int)))&&(Nat.ble ((((aF.length:Int):Int).toNat)*1) bH)) then
  bif (decide (0≤aS))&&(decide (aS<((List.replicate (((aF.length:Int):Int).toNat) (V.bool false)).length:Int))) then
  ((List.replicate (((aF.length:Int):Int).toNat) (V.bool false))[(aS:Int).toNat]?).bind fun x1=>
  (Loop (Hh C aQ aS aF aZ) (0,([.int .i64 aS]:List V),([.str []]:List V),(List.replicate (((aF.length:Int):Int).toNat) (V.bool false)).set ((aS:Int).toNat) (.bool true))).bind (un fun (alg:Int)=>un fun (A9:Bool)=>un fun (ag9:List V)=>un fun (aha:List V) (alh:List V)=>
   some [.list aY ag9,.list AK aha])
  else none
 else none
theorem ahb {aQ aS:Int} {aF aZ:List V} {r:Option (List V)} (h:Wa CC aQ aS aF aZ=r):CC Fw [.int .i64 aQ,.int .i64 aS,.list ak aF,.list an aZ]=r:=
 bh (key:=107) (L:=V8 CC) (bs:=[.loop (aq [1,1,1,1,0,1,0,0] Hg)]) (by kernel_rfl) (bf (ag8 CC) au) (Eq.trans (by kernel_rfl) h)
noncomputable abbrev tj:Code:=cL Tryd.prog (av.aT 85)
noncomputable def Cc (C:ae) (t26 aK aP:Int) (bc a9:List V) (bX bY:Int) (dL ee cM:List V) (t27:Int) (places:List V) {β:Type} (kn:(Int × (List V))→Option β) (kr:(Int × Bool × (List V))→Option β):Option β:=
 bif decide ((t27:Int)<t26) then
  bif (decide (0≤t27))&&(decide (t27<(places.length:Int))) then
  (places[(t27:Int).toNat]?).bind fun x2=>
  kn (IntKind.wrap .i64 (t27+1),places.set ((t27:Int).toNat) (.int .i64 (-1)))
  else none
 else
  kr (t27,decide ((t27:Int)<t26),places)
noncomputable def Hi (C:ae) (t26 aK aP:Int) (bc a9:List V) (bX bY:Int) (dL ee cM:List V):(Int × (List V))→Option ((Int × (List V)) ⊕ (Int × Bool × (List V))):=un fun t27 places=>Cc C t26 aK aP bc a9 bX bY dL ee cM t27 places (fun y=>some (.inl y)) (fun r=>some (.inr r))
noncomputable def Cd (C:ae) (t35 aK aP:Int) (bc a9:List V) (bX bY:Int) (dL ee cM:List V) (t36:Int) (places:List V) {β:Type} (kn:(Int × (List V))→Option β) (kr:(Int × Bool × (List V))→Option β):Option β:=
 bif decide ((t36:Int)<t35) then
  bif (decide (0≤t36))&&(decide (t36<(dL.length:Int))) then
  (dL[(t36:Int).toNat]?).bind fun x6=>
  bif (decide (0≤x6.toInt))&&(decide (x6.toInt<(places.length:Int))) then
   (places[(x6.toInt:Int).toNat]?).bind fun x7=>
   kn (IntKind.wrap .i64 (t36+1),places.set ((x6.toInt:Int).toNat) (.int .i64 t36))
  else none
  else none
 else
  kr (t36,decide ((t36:Int)<t35),places)
noncomputable def Hj (C:ae) (t35 aK aP:Int) (bc a9:List V) (bX bY:Int) (dL ee cM:List V):(Int × (List V))→Option ((Int × (List V)) ⊕ (Int × Bool × (List V))):=un fun t36 places=>Cd C t35 aK aP bc a9 bX bY dL ee cM t36 places (fun y=>some (.inl y)) (fun r=>some (.inr r))
noncomputable def Ce (C:ae) (q t50 t51:Int) (t59:List V) (t60 aK aP:Int) (bc a9:List V) (bX bY:Int) (places:List V) (mT mU:Int) (tk bU bK bS dc:List V) (t61:Int) (rows:List V) {β:Type} (kn:(Int × (List V))→Option β) (kr:(Int × Bool × (List V))→Option β):Option β:=
 bif decide ((t61:Int)<t60) then
  (idx t59 t61).bind fun gW=>
  bif (decide (0≤gW.toInt))&&(decide (gW.toInt<(places.length:Int))) then
  (places[(gW.toInt:Int).toNat]?).bind fun lY=>
  bif Nat.ble ((rows.length+([.int .i64 lY.toInt]:List V).length)*8) bH then
   kn (IntKind.wrap .i64 (t61+1),rows++([.int .i64 lY.toInt]:List V))
  else none
  else none
 else
  kr (t61,decide ((t61:Int)<t60),rows)
noncomputable def Hk (C:ae) (q t50 t51:Int) (t59:List V) (t60 aK aP:Int) (bc a9:List V) (bX bY:Int) (places:List V) (mT mU:Int) (tk bU bK bS dc:List V):(Int × (List V))→Option ((Int × (List V)) ⊕ (Int × Bool × (List V))):=un fun t61 rows=>Ce C q t50 t51 t59 t60 aK aP bc a9 bX bY places mT mU tk bU bK bS dc t61 rows (fun y=>some (.inl y)) (fun r=>some (.inr r))
noncomputable def Cf (C:ae) (t50 aK aP:Int) (bc a9:List V) (bX bY:Int) (places:List V) (mT mU:Int) (tk cM bU:List V) (t51:Int) (bK bS:List V) {β:Type} (kn:(Int × (List V) × (List V))→Option β) (kr:(Int × Bool × (List V) × (List V))→Option β):Option β:=
 bif decide ((t51:Int)<t50) then
  bif (decide (0≤t51))&&(decide (t51<(tk.length:Int))) then
  (tk[(t51:Int).toNat]?).bind fun fh=>
  (idx a9 fh.toInt).bind fun mK=>
  (Loop (Hk C fh.toInt t50 t51 mK.toList (mK.toList.length:Int) aK aP bc a9 bX bY places mT mU tk cM bU bK bS) (0,([]:List V))).bind (un fun (ahc:Int)=>un fun (Bs:Bool) (Wb:List V)=>
   bif Nat.ble ((bS.length+([.list aY Wb]:List V).length)*24) bH then
    (idx bc fh.toInt).bind fun xV=>
    bif Nat.ble ((bK.length+([.bool xV.toBool]:List V).length)*1) bH then
    kn (IntKind.wrap .i64 (t51+1),bK++([.bool xV.toBool]:List V),bS++([.list aY Wb]:List V))
    else none
   else none)
  else none
 else
  kr (t51,decide ((t51:Int)<t50),bK,bS)
noncomputable def Hl (C:ae) (t50 aK aP:Int) (bc a9:List V) (bX bY:Int) (places:List V) (mT mU:Int) (tk cM bU:List V):(Int × (List V) × (List V))→Option ((Int × (List V) × (List V)) ⊕ (Int × Bool × (List V) × (List V))):=un fun t51=>un fun bK bS=>Cf C t50 aK aP bc a9 bX bY places mT mU tk cM bU t51 bK bS (fun y=>some (.inl y)) (fun r=>some (.inr r))
noncomputable def Wc (C:ae):cy:=fun β n ds k=>
 bif Nat.beq n 65 then bw Ld [false,true,false,false,false,false,false,false,false,true,false,false] [[1,0,0,3,4,5,6,7,8,9,0,11,12]] (@Cc C) ds k else
 bif Nat.beq n 145 then bw Lf [false,true,false,false,false,false,false,false,false,true,false,false] [[1,0,0,3,4,5,6,7,8,9,0,11,12]] (@Cd C) ds k else
 bif Nat.beq n 305 then bw Lg [false,false,false,false,false,true,false,false,false,false,false,false,false,false,false,true,false,false,false,false,false] [[1,2,3,4,5,0,0,7,8,9,10,11,12,13,14,15,0,17,18,19,20,21]] (@Ce C) ds k else
 bif Nat.beq n 241 then bw Lh [false,true,false,false,false,false,false,false,false,false,false,false,false,false,true,true] [[1,0,0,3,4,5,6,7,8,9,10,11,12,13,14,0,0]] (@Cf C) ds k else
 none
abbrev Hm (C:ae) (b:cv):Prop:=cw Tryd.prog av C (Wc C) 85 (cR Tryd.prog (av.aT 85)) (av.sin 85).aX.length b
theorem ahd (C:ae):Hm C (.loop (aq [1,1,1,0,1,0,0] tj)):=
 bC Ld [false,true,false,false,false,false,false,false,false,true,false,false] [[1,0,0,3,4,5,6,7,8,9,0,11,12]] (@Cc C) (by kernel_rfl) (aV (bs:=[]) (by kernel_rfl) au) (fun ds=>by kernel_rfl) (fun i x=>by kernel_rfl) (fun i x β k=>by kernel_rfl) (fun β ds k=>by kernel_rfl)
theorem ahe (C:ae):Hm C (.loop (aq [1,1,1,1,0,1,0,0] tj)):=
 bC Lf [false,true,false,false,false,false,false,false,false,true,false,false] [[1,0,0,3,4,5,6,7,8,9,0,11,12]] (@Cd C) (by kernel_rfl) (aV (bs:=[]) (by kernel_rfl) au) (fun ds=>by kernel_rfl) (fun i x=>by kernel_rfl) (fun i x β k=>by kernel_rfl) (fun β ds k=>by kernel_rfl)
theorem ahf (C:ae):Hm C (.loop (aq [1,1,1,1,1,1,0,1,0,0,1,1,0,0,1,1,0,1,0,0] tj)):=
 bC Lg [false,false,false,false,false,true,false,false,false,false,false,false,false,false,false,true,false,false,false,false,false] [[1,2,3,4,5,0,0,7,8,9,10,11,12,13,14,15,0,17,18,19,20,21]] (@Ce C) (by kernel_rfl) (aV (bs:=[]) (by kernel_rfl) au) (fun ds=>by kernel_rfl) (fun i x=>by kernel_rfl) (fun i x β k=>by kernel_rfl) (fun β ds k=>by kernel_rfl)
theorem ahg (C:ae):Hm C (.loop (aq [1,1,1,1,1,1,0,1,0,0] tj)):=
 bC Lh [false,true,false,false,false,false,false,false,false,false,false,false,false,false,true,true] [[1,0,0,3,4,5,6,7,8,9,10,11,12,13,14,0,0]] (@Cf C) (by kernel_rfl) (aV (bs:=[.loop (aq [1,1,1,1,1,1,0,1,0,0,1,1,0,0,1,1,0,1,0,0] tj)]) (by kernel_rfl) (bf (ahf C) au)) (fun ds=>by kernel_rfl) (fun i x=>by kernel_rfl) (fun i x β k=>by kernel_rfl) (fun β ds k=>by kernel_rfl)
noncomputable def Wd (C:ae) (aQ aS:Int) (aF aZ:List V):Option (List V):=
 (C Fw [.int .i64 aQ,.int .i64 aS,.list ak aF,.list an aZ]).bind fun r1=>
 bif (decide (0≤(aF.length:Int)))&&((decide ((aF.length:Int)≤(aF.length:Int)))&&(Nat.ble ((((aF.length:Int):Int).toNat)*8) bH)) then
  (Loop (Hi C ((List.replicate (((aF.length:Int):Int).toNat) (V.int .i64 0)).length:Int) aQ aS aF aZ 0 0 ((V.nth r1 0).toList) ([]:List V) ([]:List V)) (0,List.replicate (((aF.length:Int):Int).toNat) (V.int .i64 0))).bind (un fun (kh:Int)=>un fun (kQ:Bool) (ahh:List V)=>
   (Loop (Hj C (((V.nth r1 0).toList).length:Int) aQ aS aF aZ 0 0 ((V.nth r1 0).toList) ([]:List V) ([]:List V)) (0,ahh)).bind (un fun (ta:Int)=>un fun (rF:Bool) (We:List V)=>
    (Loop (Hl C (((V.nth r1 0).toList).length:Int) aQ aS aF aZ 0 0 We aQ 0 ((V.nth r1 0).toList) ([]:List V) ([]:List V)) (0,([]:List V),([]:List V))).bind (un fun (ali:Int)=>un fun (VP:Bool)=>un fun (M8:List V) (B0:List V)=>
     some [.int .i64 aQ,.int .i64 0,.list ak M8,.list an B0,.list aY We])))
 else none
theorem ahi {aQ aS:Int} {aF aZ:List V} {r:Option (List V)} (h:Wd CC aQ aS aF aZ=r):CC Fl [.int .i64 aQ,.int .i64 aS,.list ak aF,.list an aZ]=r:=
 bh (key:=85) (L:=Wc CC) (bs:=[.loop (aq [1,1,1,0,1,0,0] tj),.loop (aq [1,1,1,1,0,1,0,0] tj),.loop (aq [1,1,1,1,1,1,0,1,0,0] tj)]) (by kernel_rfl) (bf (ahd CC) (bf (ahe CC) (bf (ahg CC) au))) (Eq.trans (by kernel_rfl) h)
def oS (n:Nat) (S:List Nat):List V:=tab n fun q=>V.bool (decide (q∈S))
def Hn (S:List Nat) (ws:List (List UInt8)):Prop:=ws.length=S.length∧∀j (hj:j<ws.length),ws[j].length≤j
section
variable {a:Da} (h:a.Ok)
include h
theorem ahj {S:List Nat} {i:Nat} (hi:i<S.length) (hS: ∀s∈S,s<a.n) (Va:S.length≤1000) {ws:List (List UInt8)} (hw:Hn S ws) {l2:List V} {c1:Int}:
  ∃r,Loop (B8 CC (i:Int) (a.L:Int) c1 l2 a.bD) (0,nS S,ws.map V.str,oS a.n S)=some r∧∃gg,r=((a.L:Int),false,nS (bJ a.nx S S[i] a.L),List.map V.str gg,oS a.n (bJ a.nx S S[i] a.L))∧Hn (bJ a.nx S S[i] a.L) gg:=by
 have h6:=h.l6
 have hq:=hS _ (List.getElem_mem hi)
 have hlen: ∀x,(bJ a.nx S S[i] x).length≤S.length+x:=by
  intro x
  induction x with
  | zero=>exact Nat.le_refl _
  | succ x ih=>rw[bJ,rE];split<;>omega
 refine Bk (fun x st=> ∃gg,st=((x:Int),nS (bJ a.nx S S[i] x),List.map V.str gg,oS a.n (bJ a.nx S S[i] x))∧Hn (bJ a.nx S S[i] x) gg) _ a.L 0 _ (fun x _ hx st bP=> ?_) (fun st bP=> ?_) ⟨ws,rfl,hw⟩
 ·obtain ⟨gg,rfl,jE⟩:=bP
  rw[Nat.zero_add] at hx
  have hT:=hlen x
  have Wf:=MA (next:=a.nx) S S[i] x
  have Nl:i<(bJ a.nx S S[i] x).length:=Nat.lt_of_lt_of_le hi Wf.length_le
  have Wg:(bJ a.nx S S[i] x)[i]=S[i]:=(Wf.getElem hi).symm
  have sK:=h.dS hq hx
  have hm:=h.di
  by_cases kJ:a.nx S[i] x∈bJ a.nx S S[i] x
  ·have e:bJ a.nx S S[i] (x+1)=bJ a.nx S S[i] x:=by rw[bJ];unfold cx;rw[if_pos kJ]
   refine ⟨_,?_,gg,rfl,by rw[e];exact jE⟩
   simp only[B8,yf,un]
   refine bT (dE hx) ?_
   refine (pU (xN Nl)).trans ?_
   rw[Wg]
   refine bs (Da.kX hq) ?_
   simp only[lI]
   refine bs (mP hx) ?_
   refine (eF (i:=a.nx S[i] x) sK).trans ?_
   refine bF (by simp[kJ]) ?_
   rw[cN (by omega),e]
  ·have e:bJ a.nx S S[i] (x+1)=bJ a.nx S S[i] x++[a.nx S[i] x]:=by rw[bJ];unfold cx;rw[if_neg kJ]
   have Wh:i<gg.length:=by rw[jE.1];exact Nl
   have hwi:=jE.2 i Wh
   refine ⟨(((x+1:Nat):Int),nS (bJ a.nx S S[i] (x+1)),List.map V.str (gg++[gg[i]++jb [.int .u8 (IntKind.wrap .u8 (IntKind.wrap .i64 (97+(x:Int))))]]),oS a.n (bJ a.nx S S[i] (x+1))),?_,_,rfl,?_⟩
   ·simp only[B8,yf,un]
    refine bT (dE hx) ?_
    refine (pU (xN Nl)).trans ?_
    rw[Wg]
    refine bs (Da.kX hq) ?_
    simp only[lI]
    refine bs (mP hx) ?_
    refine (eF (i:=a.nx S[i] x) sK).trans ?_
    refine bT (by simp[kJ]) ?_
    refine (eF (i:=a.nx S[i] x) sK).trans ?_
    refine bT (cap (by rw[oR];simp;omega) (by omega)) ?_
    refine (pU (v:= .str gg[i]) (by simp[Wh])).trans ?_
    refine bT (by
     rw[Nat.ble_eq]
     simp only[V.toStr,jb,List.length_map,List.length_cons,List.length_nil,tI]
     omega) ?_
    refine bT (cap (by rw[List.length_map,jE.1];simp;omega) (by omega)) ?_
    rw[cN (by omega),e]
    refine congrArg (fun x=>some (Sum.inl x)) (Prod.ext rfl (Prod.ext ?_ (Prod.ext ?_ ?_)))
    ·simp[nS,nV]
    ·simp[V.toStr]
    ·show (oS a.n (bJ a.nx S S[i] x)).set _ _=oS a.n _
     unfold oS
     rw[V.toInt_int,Int.toNat_natCast,mO]
     refine dU fun j _=> ?_
     by_cases hj:j=a.nx S[i] x
     ·rw[if_pos hj,decide_eq_true (by rw[hj];simp)]
     ·rw[if_neg hj]
      congr 1
      rw[decide_eq_decide,List.mem_append,List.mem_singleton]
      exact ⟨.inl,fun h=>h.resolve_right hj⟩
   ·rw[e]
    refine ⟨by simp[jE.1],fun j hj=> ?_⟩
    rw[List.length_append,List.length_singleton] at hj
    rcases Nat.lt_or_ge j gg.length with c|c
    ·rw[List.getElem_append_left c];exact jE.2 j c
    ·rw[List.getElem_append_right c]
     simp only[List.getElem_singleton,List.length_append,jb,List.length_map,List.length_cons,List.length_nil]
     omega
 ·obtain ⟨gg,rfl,jE⟩:=bP
  rw[Nat.zero_add] at*
  refine ⟨_,?_,gg,rfl,jE⟩
  simp only[B8,yf,un]
  refine bF (bu (Nat.le_refl _)) ?_
  rw[bu (Nat.le_refl _)]
theorem ahk: ∃W,CC Fw (dj a)=some [.list aY (nS (aj a.L a.nx a.st a.n)),W]:=by
 have hm:=h.di
 have hd:=h.mL a.n
 have key: ∃r,Loop (Hh CC (a.L:Int) (a.st:Int) a.bz a.bD) (0,nS [a.st],[[]].map V.str,oS a.n [a.st])=some r∧∃gg,r=(((aj a.L a.nx a.st a.n).length:Int),false,nS (aj a.L a.nx a.st a.n),List.map V.str gg,oS a.n (aj a.L a.nx a.st a.n)):=by
  refine Bk (fun i st=> ∃gg,st=((i:Int),nS (aj a.L a.nx a.st i),List.map V.str gg,oS a.n (aj a.L a.nx a.st i))∧Hn (aj a.L a.nx a.st i) gg) _ (aj a.L a.nx a.st a.n).length 0 _ (fun i _ hi st bP=> ?_) (fun st bP=> ?_) ⟨[[]],rfl,⟨rfl,fun j hj=>by simp at hj;subst hj;simp⟩⟩
  ·obtain ⟨gg,rfl,jE⟩:=bP
   rw[Nat.zero_add] at hi
   have gr:=xD hd hi
   have vn:(aj a.L a.nx a.st i)[i]=(aj a.L a.nx a.st a.n)[i]:=(ki (show i≤a.n by omega)).getElem gr
   have hlen:(aj a.L a.nx a.st i).length≤512:=Nat.le_trans (h.mL i) hm
   have jg:=xE hd hi
   obtain ⟨r,h1,ws2,rfl,h3⟩:=ahj h gr (h.vk i) (by omega) jE (l2:=a.bz) (c1:=(a.st:Int))
   rw[vn,←jg] at h1 h3
   refine ⟨_,?_,ws2,rfl,h3⟩
   simp only[Hh,B9,un]
   refine bT (decide_eq_true (by rw[oR];omega)) ?_
   refine bs h1 ?_
   rw[cN (by omega)]
   rfl
  ·obtain ⟨gg,rfl,jE⟩:=bP
   rw[Nat.zero_add,Be hd] at*
   refine ⟨_,?_,gg,rfl⟩
   simp only[Hh,B9,un]
   rw[oR]
   refine bF (bu (Nat.le_refl _)) ?_
   rw[bu (Nat.le_refl _)]
 obtain ⟨r,h1,gg,rfl⟩:=key
 refine ⟨.list AK (gg.map V.str),ahb ?_⟩
 unfold Wa
 rw[Da.kW,Int.toNat_natCast,lH]
 refine bT (by have:=kV (n:=a.n) (m:=1) (by omega) (by omega);rwa [Int.toNat_natCast] at this) ?_
 refine (eF (i:=a.st) h.s).trans ?_
 have e:(tab a.n fun _=>V.bool false).set (((a.st:Nat):Int).toNat) (.bool true)=oS a.n [a.st]:=by
  rw[Int.toNat_natCast,mO]
  refine dU fun j _=> ?_
  by_cases hj:j=a.st
  ·rw[if_pos hj,decide_eq_true (by rw[hj];simp)]
  ·rw[if_neg hj,decide_eq_false (by simpa using hj)]
 rw[e]
 refine bs h1 ?_
 rfl
theorem ahl {q:Nat} (hq:q<a.n) (hU: ∀x,x<a.L→a.nx q x∈aj a.L a.nx a.st a.n) {c1 c2 c3 c4 c5 c6 c7 c8 c9:Int} {l1 l2 l3 l4 l5 l6 l7:List V}:
  Loop (Hk CC c1 c2 c3 (tab a.L fun x=>iV (a.nx q x)) ((tab a.L fun x=>iV (a.nx q x)).length:Int) c4 c5 l1 l2 c6 c7 (iR (aj a.L a.nx a.st a.n) a.n) c8 c9 l3 l4 l5 l6 l7) (0,([]:List V))=
   some ((a.L:Int),false,tab a.L fun x=>nV ((aj a.L a.nx a.st a.n).idxOf (a.nx q x))):=by
 have h6:=h.l6
 rw[dJ]
 refine (eG a.L (fun t=>((t:Int),(tab t fun x=>nV ((aj a.L a.nx a.st a.n).idxOf (a.nx q x))))) _ (fun t ht=> ?_) ?_)
 ·simp only[Hk,Ce,un]
  refine bT (dE ht) ?_
  refine bs (mP ht) ?_
  refine (eF (i:=a.nx q t) (h.dS hq ht)).trans ?_
  refine bT (cap (by rw[dJ];simp;omega) (by omega)) ?_
  rw[cN (by omega),if_pos (hU t ht),lG]
  rfl
 ·simp only[Hk,Ce,un]
  refine bF (bu (Nat.le_refl _)) ?_
  rw[bu (Nat.le_refl _)]
theorem ahm:CC Fl (dj a)=some (dj a.trim++[.list aY (iR (aj a.L a.nx a.st a.n) a.n)]):=by
 have h6:=h.l6
 have hm:=h.di
 have hU:=h.vk a.n
 have hle:=h.mL a.n
 obtain ⟨W,hW⟩:=ahk h
 refine ahi ?_
 unfold Wd
 refine bs hW ?_
 rw[Da.kW]
 refine bT (kV (by omega) (by omega)) ?_
 rw[Int.toNat_natCast,lH,dJ]
 have row:=fun {q:Nat} (hq:q<a.n) hU=> @ahl a h q hq hU
 have e1: ∀{i:Nat} (hi:i<(aj a.L a.nx a.st a.n).length),a.trim.fin i=a.fin (aj a.L a.nx a.st a.n)[i]:=fun hi=>Bd hi
 have e2: ∀{i:Nat} (hi:i<(aj a.L a.nx a.st a.n).length),fo a.L (a.trim.nx i)= .list aY (tab a.L fun x=>nV ((aj a.L a.nx a.st a.n).idxOf (a.nx (aj a.L a.nx a.st a.n)[i] x))):=fun hi=>by
  unfold fo
  refine congrArg _ (dU fun x hx=> ?_)
  rw[show a.trim.nx _ x=_ from vi hi hx];rfl
 have e3:a.trim.n=(aj a.L a.nx a.st a.n).length:=kR
 have ka: ∀q∈aj a.L a.nx a.st a.n,∀x,x<a.L→a.nx q x∈aj a.L a.nx a.st a.n:=fun q hq x hx=>MD hle hq hx
 have MR:(aj a.L a.nx a.st a.n).Nodup:=vg _
 have er:a.trim.bz=(tab (aj a.L a.nx a.st a.n).length fun i=>V.bool (a.trim.fin i)):=by unfold Da.bz;rw[e3]
 have en:a.trim.bD=(tab (aj a.L a.nx a.st a.n).length fun i=>fo a.L (a.trim.nx i)):=by unfold Da.bD;rw[e3];rfl
 have eL:a.trim.L=a.L:=rfl
 unfold dj dt
 rw[er,en,eL]
 generalize aj a.L a.nx a.st a.n=U at*
 have l1: ∀{c1 c2 c3 c4:Int} {s1 s2 s3 s4 s5:List V},Loop (Hi CC (a.n:Int) c1 c2 s1 s2 c3 c4 s3 s4 s5) (0,tab a.n fun _=>V.int .i64 0)=some ((a.n:Int),false,tab a.n fun q=>if q∈U.take 0 then nV (U.idxOf q) else V.int .i64 (-1)):=by
  intro c1 c2 c3 c4 s1 s2 s3 s4 s5
  refine (eG a.n (fun i=>((i:Int),(tab a.n fun j=>if j<i then V.int .i64 (-1) else V.int .i64 0))) _ (fun i hi=> ?_) ?_)
  ·simp only[Hi,Cc,un]
   refine bT (dE hi) ?_
   refine (eF hi).trans ?_
   rw[cN (by omega),Int.toNat_natCast,mO]
   refine congrArg (fun x=>some (Sum.inl (((i+1:Nat):Int),x))) (dU fun j _=> ?_)
   by_cases hj:j=i
   ·rw[if_pos hj,if_pos (by omega)]
   ·rw[if_neg hj]
    by_cases bZ:j<i
    ·rw[if_pos bZ,if_pos (by omega)]
    ·rw[if_neg bZ,if_neg (by omega)]
  ·simp only[Hi,Cc,un]
   refine bF (bu (Nat.le_refl _)) ?_
   rw[bu (Nat.le_refl _)]
   refine congrArg (fun x=>some (Sum.inr ((a.n:Int),false,x))) (dU fun j hj=> ?_)
   rw[if_pos hj,List.take_zero,if_neg (by simp)]
 refine bs l1 ?_
 simp only[un]
 have l2: ∀{c1 c2 c3 c4:Int} {s1 s2 s3 s4:List V},Loop (Hj CC ((nS U).length:Int) c1 c2 s1 s2 c3 c4 (nS U) s3 s4) (0,tab a.n fun q=>if q∈U.take 0 then nV (U.idxOf q) else V.int .i64 (-1))=some ((U.length:Int),false,iR U a.n):=by
  intro c1 c2 c3 c4 s1 s2 s3 s4
  rw[oR]
  refine (eG U.length (fun i=>((i:Int),(tab a.n fun q=>if q∈U.take i then nV (U.idxOf q) else V.int .i64 (-1)))) _ (fun i hi=> ?_) ?_)
  ·have hq:=hU U[i] (List.getElem_mem hi)
   simp only[Hj,Cd,un]
   refine bT (dE hi) ?_
   refine (pU (xN hi)).trans ?_
   refine (eF (i:=U[i]) hq).trans ?_
   rw[cN (by omega)]
   refine congrArg (fun x=>some (Sum.inl (((i+1:Nat):Int),x))) ?_
   exact Vb MR hi
  ·simp only[Hj,Cd,un]
   refine bF (bu (Nat.le_refl _)) ?_
   rw[bu (Nat.le_refl _),List.take_length]
   rfl
 refine bs l2 ?_
 have l4: ∀{c1 c2 c3 c4:Int} {s1 s2:List V},Loop (Hl CC ((nS U).length:Int) (a.L:Int) (a.st:Int) a.bz a.bD c1 c2 (iR U a.n) c3 c4 (nS U) s1 s2) (0,([]:List V),([]:List V))=some ((U.length:Int),false,(tab U.length fun i=>V.bool (a.trim.fin i)),(tab U.length fun i=>fo a.L (a.trim.nx i))):=by
  intro c1 c2 c3 c4 s1 s2
  rw[oR]
  refine (eG U.length (fun i=>((i:Int),(tab i fun i=>V.bool (a.trim.fin i)),(tab i fun i=>fo a.L (a.trim.nx i)))) _ (fun i hi=> ?_) ?_)
  ·have hq:=hU U[i] (List.getElem_mem hi)
   simp only[Hl,Cf,un]
   refine bT (dE hi) ?_
   refine (pU (xN hi)).trans ?_
   refine bs (Da.kX hq) ?_
   simp only[lI]
   refine bs (row hq (ka _ (List.getElem_mem hi))) ?_
   refine bT (cap (by rw[dJ];simp;omega) (by omega)) ?_
   refine bs (Da.oP hq) ?_
   refine bT (cap (by rw[dJ];simp;omega) (by omega)) ?_
   rw[cN (by omega),lG,lG,e1 hi,e2 hi]
   rfl
  ·simp only[Hl,Cf,un]
   refine bF (bu (Nat.le_refl _)) ?_
   rw[bu (Nat.le_refl _)]
 refine bs l4 ?_
 rfl
end
noncomputable abbrev Wi:Code:=cL Tryd.prog (av.aT 106)
noncomputable def Cg (C:ae) (a b':List V) (t12 t13:Int) {β:Type} (kn:Int→Option β) (kr:((Bool) ⊕ (Int × Bool))→Option β):Option β:=
 bif decide ((t13:Int)<t12) then
  (idx a t13).bind fun x1=>
  (idx b' t13).bind fun x2=>
  bif (x1.toInt:Int) != x2.toInt then
  kr (.inl false)
  else
  kn (IntKind.wrap .i64 (t13+1))
 else
  kr (.inr (t13,decide ((t13:Int)<t12)))
noncomputable def Nm (C:ae) (a b':List V) (t12:Int):(Int)→Option ((Int) ⊕ ((Bool) ⊕ (Int × Bool))):=fun t13=>Cg C a b' t12 t13 (fun y=>some (.inl y)) (fun r=>some (.inr r))
noncomputable def Wj (C:ae):cy:=fun β n ds k=>
 bif Nat.beq n 65 then bw Lv [false,false,false,true] [[0],[1,2,3,0,0]] (@Cg C) ds k else
 none
abbrev ahn (C:ae) (b:cv):Prop:=cw Tryd.prog av C (Wj C) 106 (cR Tryd.prog (av.aT 106)) (av.sin 106).aX.length b
theorem aho (C:ae):ahn C (.loop (aq [1,1,0,1,0,0] Wi)):=
 bC Lv [false,false,false,true] [[0],[1,2,3,0,0]] (@Cg C) (by kernel_rfl) (aV (bs:=[]) (by kernel_rfl) au) (fun ds=>by kernel_rfl) (fun i x=>by kernel_rfl) (fun i x β k=>by kernel_rfl) (fun β ds k=>by kernel_rfl)
noncomputable def Wk (C:ae) (a b':List V):Option (List V):=
 bif ((a.length:Int):Int) != (b'.length:Int) then
  some [.bool false]
 else
  (Loop (Nm C a b' (a.length:Int)) 0).bind (dA (fun (kh:Bool)=>
   some [.bool kh]) (un fun (kQ:Int) (nG:Bool)=>
   some [.bool true]))
theorem ahp {a b':List V} {r:Option (List V)} (h:Wk CC a b'=r):CC Fv [.list aY a,.list aY b']=r:=
 bh (key:=106) (L:=Wj CC) (bs:=[.loop (aq [1,1,0,1,0,0] Wi)]) (by kernel_rfl) (bf (aho CC) au) (Eq.trans (by kernel_rfl) h)
noncomputable abbrev Wl:Code:=cL Tryd.prog (av.aT 104)
noncomputable def Ch (C:ae) (t13:List V) (t14 t15:Int) (rM outs:List V) {β:Type} (kn:(Int × (List V) × (List V))→Option β) (kr:(Int × Bool × (List V) × (List V))→Option β):Option β:=
 bif decide ((t15:Int)<t14) then
  (idx t13 t15).bind fun x1=>
  bif cK .i64 x1.toInt&&true then
  bif !(fH (.int .i64 x1.toInt) rM) then
   bif cK .i64 x1.toInt&&true then
   bif (decide (0≤t15))&&(decide (t15<(outs.length:Int))) then
    (outs[(t15:Int).toNat]?).bind fun x2=>
    kn (IntKind.wrap .i64 (t15+1),e9 (.int .i64 x1.toInt) (.int .i64 (rM.length:Int)) rM,outs.set ((t15:Int).toNat) (.int .i64 (rM.length:Int)))
   else none
   else none
  else
   bif (decide (0≤t15))&&(decide (t15<(outs.length:Int))) then
   (outs[(t15:Int).toNat]?).bind fun x3=>
   kn (IntKind.wrap .i64 (t15+1),rM,outs.set ((t15:Int).toNat) (.int .i64 ((gY (.int .i64 x1.toInt) rM (.int .i64 0)).toInt)))
   else none
  else none
 else
  kr (t15,decide ((t15:Int)<t14),rM,outs)
noncomputable def Nn (C:ae) (t13:List V) (t14:Int):(Int × (List V) × (List V))→Option ((Int × (List V) × (List V)) ⊕ (Int × Bool × (List V) × (List V))):=un fun t15=>un fun rM outs=>Ch C t13 t14 t15 rM outs (fun y=>some (.inl y)) (fun r=>some (.inr r))
noncomputable def Wm (C:ae):cy:=fun β n ds k=>
 bif Nat.beq n 65 then bw Lt [false,false,true,true,true] [[1,2,0,0,0,0]] (@Ch C) ds k else
 none
abbrev ahq (C:ae) (b:cv):Prop:=cw Tryd.prog av C (Wm C) 104 (cR Tryd.prog (av.aT 104)) (av.sin 104).aX.length b
theorem ahr (C:ae):ahq C (.loop (aq [1,1,1,0,1,0,0] Wl)):=
 bC Lt [false,false,true,true,true] [[1,2,0,0,0,0]] (@Ch C) (by kernel_rfl) (aV (bs:=[]) (by kernel_rfl) au) (fun ds=>by kernel_rfl) (fun i x=>by kernel_rfl) (fun i x β k=>by kernel_rfl) (fun β ds k=>by kernel_rfl)
noncomputable def Wn (C:ae) (l:List V):Option (List V):=
 bif (decide (0≤(l.length:Int)))&&((decide ((l.length:Int)≤(l.length:Int)))&&(Nat.ble ((((l.length:Int):Int).toNat)*8) bH)) then
  (Loop (Nn C l (l.length:Int)) (0,([]:List V),List.replicate (((l.length:Int):Int).toNat) (V.int .i64 0))).bind (un fun (kQ:Int)=>un fun (nG:Bool)=>un fun (alj:List V) (ahs:List V)=>
   some [.list aY ahs])
 else none
theorem aht {l:List V} {r:Option (List V)} (h:Wn CC l=r):CC AD [.list aY l]=r:=
 bh (key:=104) (L:=Wm CC) (bs:=[.loop (aq [1,1,1,0,1,0,0] Wl)]) (by kernel_rfl) (bf (ahr CC) au) (Eq.trans (by kernel_rfl) h)
noncomputable abbrev Wo:Code:=cL Tryd.prog (av.aT 105)
noncomputable def Ci (C:ae) (p q:List V) (t11 t12:Int) (outs:List V) {β:Type} (kn:(Int × (List V))→Option β) (kr:(Int × Bool × (List V))→Option β):Option β:=
 bif decide ((t12:Int)<t11) then
  (idx p t12).bind fun x1=>
  (idx q t12).bind fun x2=>
  bif (decide (0≤t12))&&(decide (t12<(outs.length:Int))) then
  (outs[(t12:Int).toNat]?).bind fun x3=>
  kn (IntKind.wrap .i64 (t12+1),outs.set ((t12:Int).toNat) (.int .i64 (IntKind.wrap .i64 ((IntKind.wrap .i64 ((IntKind.wrap .i64 ((p.length:Int)+1))*x1.toInt))+x2.toInt))))
  else none
 else
  kr (t12,decide ((t12:Int)<t11),outs)
noncomputable def No (C:ae) (p q:List V) (t11:Int):(Int × (List V))→Option ((Int × (List V)) ⊕ (Int × Bool × (List V))):=un fun t12 outs=>Ci C p q t11 t12 outs (fun y=>some (.inl y)) (fun r=>some (.inr r))
noncomputable def Wp (C:ae):cy:=fun β n ds k=>
 bif Nat.beq n 49 then bw Lu [false,false,false,true,true] [[1,2,3,0,0,0]] (@Ci C) ds k else
 none
abbrev ahu (C:ae) (b:cv):Prop:=cw Tryd.prog av C (Wp C) 105 (cR Tryd.prog (av.aT 105)) (av.sin 105).aX.length b
theorem ahv (C:ae):ahu C (.loop (aq [1,1,0,1,0,0] Wo)):=
 bC Lu [false,false,false,true,true] [[1,2,3,0,0,0]] (@Ci C) (by kernel_rfl) (aV (bs:=[]) (by kernel_rfl) au) (fun ds=>by kernel_rfl) (fun i x=>by kernel_rfl) (fun i x β k=>by kernel_rfl) (fun β ds k=>by kernel_rfl)
noncomputable def Wq (C:ae) (p q:List V):Option (List V):=
 bif (decide (0≤(p.length:Int)))&&((decide ((p.length:Int)≤(p.length:Int)))&&(Nat.ble ((((p.length:Int):Int).toNat)*8) bH)) then
  (Loop (No C p q (p.length:Int)) (0,List.replicate (((p.length:Int):Int).toNat) (V.int .i64 0))).bind (un fun (kQ:Int)=>un fun (nG:Bool) (ahw:List V)=>
   (C AD [.list aY ahw]).bind fun r7=>
   some [.list aY ((V.nth r7 0).toList)])
 else none
theorem ahx {p q:List V} {r:Option (List V)} (h:Wq CC p q=r):CC Fu [.list aY p,.list aY q]=r:=
 bh (key:=105) (L:=Wp CC) (bs:=[.loop (aq [1,1,0,1,0,0] Wo)]) (by kernel_rfl) (bf (ahv CC) au) (Eq.trans (by kernel_rfl) h)
noncomputable abbrev tm:Code:=cL Tryd.prog (av.aT 84)
noncomputable def Cj (C:ae) (t14 aK aP:Int) (bc a9:List V) (t15:Int) (ps:List V) {β:Type} (kn:(Int × (List V))→Option β) (kr:(Int × Bool × (List V))→Option β):Option β:=
 bif decide ((t15:Int)<t14) then
  (idx bc t15).bind fun x1=>
  bif x1.toBool then
  bif (decide (0≤t15))&&(decide (t15<(ps.length:Int))) then
   (ps[(t15:Int).toNat]?).bind fun x2=>
   kn (IntKind.wrap .i64 (t15+1),ps.set ((t15:Int).toNat) (.int .i64 1))
  else none
  else
  kn (IntKind.wrap .i64 (t15+1),ps)
 else
  kr (t15,decide ((t15:Int)<t14),ps)
noncomputable def Np (C:ae) (t14 aK aP:Int) (bc a9:List V):(Int × (List V))→Option ((Int × (List V)) ⊕ (Int × Bool × (List V))):=un fun t15 ps=>Cj C t14 aK aP bc a9 t15 ps (fun y=>some (.inl y)) (fun r=>some (.inr r))
noncomputable def Ck (C:ae) (p next':List V) (x t37 aK aP:Int) (bc a9:List V) (t38:Int) (Cl:List V) {β:Type} (kn:(Int × (List V))→Option β) (kr:(Int × Bool × (List V))→Option β):Option β:=
 bif decide ((t38:Int)<t37) then
  (idx a9 t38).bind fun x7=>
  (idx x7.toList x).bind fun x8=>
  (idx p x8.toInt).bind fun x9=>
  bif Nat.ble ((Cl.length+([.int .i64 x9.toInt]:List V).length)*8) bH then
  kn (IntKind.wrap .i64 (t38+1),Cl++([.int .i64 x9.toInt]:List V))
  else none
 else
  kr (t38,decide ((t38:Int)<t37),Cl)
noncomputable def Ho (C:ae) (p next':List V) (x t37 aK aP:Int) (bc a9:List V):(Int × (List V))→Option ((Int × (List V)) ⊕ (Int × Bool × (List V))):=un fun t38 Cl=>Ck C p next' x t37 aK aP bc a9 t38 Cl (fun y=>some (.inl y)) (fun r=>some (.inr r))
noncomputable def Cm (C:ae) (p:List V) (aK aP:Int) (bc a9 next':List V) (x:Int) {β:Type} (kn:((List V) × Int)→Option β) (kr:((List V) × Int × Bool)→Option β):Option β:=
 bif decide ((x:Int)<aK) then
  (Loop (Ho C p next' x (p.length:Int) aK aP bc a9) (0,([]:List V))).bind (un fun (ae8:Int)=>un fun (Wr:Bool) (ahy:List V)=>
   (C Fu [.list aY next',.list aY ahy]).bind fun Nq=>
   kn ((V.nth Nq 0).toList,IntKind.wrap .i64 (x+1)))
 else
  kr (next',x,decide ((x:Int)<aK))
noncomputable def Hp (C:ae) (p:List V) (aK aP:Int) (bc a9:List V):((List V) × Int)→Option (((List V) × Int) ⊕ ((List V) × Int × Bool)):=un fun next' x=>Cm C p aK aP bc a9 next' x (fun y=>some (.inl y)) (fun r=>some (.inr r))
noncomputable def Cn (C:ae) (aK aP:Int) (bc a9 p:List V) {β:Type} (kn:List V→Option β) (kr:(List V)→Option β):Option β:=
 (Loop (Hp C p aK aP bc a9) (p,0)).bind (un fun (Ws:List V)=>un fun (alk:Int) (Bs:Bool)=>
  (C Fv [.list aY Ws,.list aY p]).bind fun dG=>
  bif (V.nth dG 0).toBool then
   kr p
  else
   kn Ws)
noncomputable def Co (C:ae) (aK aP:Int) (bc a9:List V):(List V)→Option ((List V) ⊕ (List V)):=fun p=>Cn C aK aP bc a9 p (fun y=>some (.inl y)) (fun r=>some (.inr r))
noncomputable def Wt (C:ae):cy:=fun β n ds k=>
 bif Nat.beq n 49 then bw K9 [false,true,false,false,false,false,true] [[1,0,0,3,4,5,6,0]] (@Cj C) ds k else
 bif Nat.beq n 241 then bw La [false,false,false,false,true,false,false,false,false,true] [[1,2,3,4,0,0,6,7,8,9,0]] (@Ck C) ds k else
 bif Nat.beq n 177 then bw Lb [false,true,true,false,false,false,false] [[1,0,0,0,4,5,6,7]] (@Cm C) ds k else
 bif Nat.beq n 145 then bw Lc [true,false,false,false,false] [[0]] (@Cn C) ds k else
 none
abbrev Hq (C:ae) (b:cv):Prop:=cw Tryd.prog av C (Wt C) 84 (cR Tryd.prog (av.aT 84)) (av.sin 84).aX.length b
theorem ahz (C:ae):Hq C (.loop (aq [1,1,0,1,0,0] tm)):=
 bC K9 [false,true,false,false,false,false,true] [[1,0,0,3,4,5,6,0]] (@Cj C) (by kernel_rfl) (aV (bs:=[]) (by kernel_rfl) au) (fun ds=>by kernel_rfl) (fun i x=>by kernel_rfl) (fun i x β k=>by kernel_rfl) (fun β ds k=>by kernel_rfl)
theorem ahA (C:ae):Hq C (.loop (aq [1,1,1,1,0,0,0,1,0,1,0,0,1,0,0,1,0,1,0,0] tm)):=
 bC La [false,false,false,false,true,false,false,false,false,true] [[1,2,3,4,0,0,6,7,8,9,0]] (@Ck C) (by kernel_rfl) (aV (bs:=[]) (by kernel_rfl) au) (fun ds=>by kernel_rfl) (fun i x=>by kernel_rfl) (fun i x β k=>by kernel_rfl) (fun β ds k=>by kernel_rfl)
theorem ahB (C:ae):Hq C (.loop (aq [1,1,1,1,0,0,0,1,0,1,0,0] tm)):=
 bC Lb [false,true,true,false,false,false,false] [[1,0,0,0,4,5,6,7]] (@Cm C) (by kernel_rfl) (aV (bs:=[.loop (aq [1,1,1,1,0,0,0,1,0,1,0,0,1,0,0,1,0,1,0,0] tm)]) (by kernel_rfl) (bf (ahA C) au)) (fun ds=>by kernel_rfl) (fun i x=>by kernel_rfl) (fun i x β k=>by kernel_rfl) (fun β ds k=>by kernel_rfl)
theorem ahC (C:ae):Hq C (.loop (aq [1,1,1,1,0,0] tm)):=
 bC Lc [true,false,false,false,false] [[0]] (@Cn C) (by kernel_rfl) (aV (bs:=[.loop (aq [1,1,1,1,0,0,0,1,0,1,0,0] tm)]) (by kernel_rfl) (bf (ahB C) au)) (fun ds=>by kernel_rfl) (fun i x=>by kernel_rfl) (fun i x β k=>by kernel_rfl) (fun β ds k=>by kernel_rfl)
noncomputable def Wu (C:ae) (aQ aS:Int) (aF aZ:List V):Option (List V):=
 bif (decide (0≤(aF.length:Int)))&&((decide ((aF.length:Int)≤(aF.length:Int)))&&(Nat.ble ((((aF.length:Int):Int).toNat)*8) bH)) then
  (Loop (Np C ((List.replicate (((aF.length:Int):Int).toNat) (V.int .i64 0)).length:Int) aQ aS aF aZ) (0,List.replicate (((aF.length:Int):Int).toNat) (V.int .i64 0))).bind (un fun (kh:Int)=>un fun (kQ:Bool) (ahD:List V)=>
   (C AD [.list aY ahD]).bind fun r6=>
   (Loop (Co C aQ aS aF aZ) ((V.nth r6 0).toList)).bind (fun (Wv:List V)=>
    some [.list aY Wv]))
 else none
theorem ahE {aQ aS:Int} {aF aZ:List V} {r:Option (List V)} (h:Wu CC aQ aS aF aZ=r):CC Fk [.int .i64 aQ,.int .i64 aS,.list ak aF,.list an aZ]=r:=
 bh (key:=84) (L:=Wt CC) (bs:=[.loop (aq [1,1,0,1,0,0] tm),.loop (aq [1,1,1,1,0,0] tm)]) (by kernel_rfl) (bf (ahz CC) (bf (ahC CC) au)) (Eq.trans (by kernel_rfl) h)
noncomputable abbrev Hr:Code:=cL Tryd.prog (av.aT 53)
noncomputable def Cp (C:ae) (p:List V) (pZ q:Int) (t21:List V) (t22 t23:Int) (t37:List V) (t38 aK aP:Int) (bc a9:List V) (bX bY mT mU:Int) (ee cM bU bK:List V) (t39:Int) (rows:List V) {β:Type} (kn:(Int × (List V))→Option β) (kr:(Int × Bool × (List V))→Option β):Option β:=
 bif decide ((t39:Int)<t38) then
  (idx t37 t39).bind fun x5=>
  (idx p x5.toInt).bind fun x6=>
  bif Nat.ble ((rows.length+([.int .i64 x6.toInt]:List V).length)*8) bH then
  kn (IntKind.wrap .i64 (t39+1),rows++([.int .i64 x6.toInt]:List V))
  else none
 else
  kr (t39,decide ((t39:Int)<t38),rows)
noncomputable def Hs (C:ae) (p:List V) (pZ q:Int) (t21:List V) (t22 t23:Int) (t37:List V) (t38 aK aP:Int) (bc a9:List V) (bX bY mT mU:Int) (ee cM bU bK:List V):(Int × (List V))→Option ((Int × (List V)) ⊕ (Int × Bool × (List V))):=un fun t39 rows=>Cp C p pZ q t21 t22 t23 t37 t38 aK aP bc a9 bX bY mT mU ee cM bU bK t39 rows (fun y=>some (.inl y)) (fun r=>some (.inr r))
noncomputable def Cq (C:ae) (p t21:List V) (t22 aK aP:Int) (bc a9:List V) (bX bY mT mU:Int) (lZ ee:List V) (pZ t23:Int) (cM bU:List V) {β:Type} (kn:(Int × Int × (List V) × (List V))→Option β) (kr:(Int × Int × Bool × (List V) × (List V))→Option β):Option β:=
 bif decide ((t23:Int)<t22) then
  (idx t21 t23).bind fun x3=>
  bif (x3.toInt:Int) != pZ then
  kn (pZ,IntKind.wrap .i64 (t23+1),cM,bU)
  else
  (idx a9 t23).bind fun x4=>
  (Loop (Hs C p (IntKind.wrap .i64 (pZ+1)) t23 t21 t22 t23 x4.toList (x4.toList.length:Int) aK aP bc a9 bX bY mT mU lZ ee cM bU) (0,([]:List V))).bind (un fun (nF:Int)=>un fun (ta:Bool) (B7:List V)=>
   bif Nat.ble ((bU.length+([.list aY B7]:List V).length)*24) bH then
    (idx bc t23).bind fun gU=>
    bif Nat.ble ((cM.length+([.bool gU.toBool]:List V).length)*1) bH then
    kn (IntKind.wrap .i64 (pZ+1),IntKind.wrap .i64 (t23+1),cM++([.bool gU.toBool]:List V),bU++([.list aY B7]:List V))
    else none
   else none)
 else
  kr (pZ,t23,decide ((t23:Int)<t22),cM,bU)
noncomputable def Ht (C:ae) (p t21:List V) (t22 aK aP:Int) (bc a9:List V) (bX bY mT mU:Int) (lZ ee:List V):(Int × Int × (List V) × (List V))→Option ((Int × Int × (List V) × (List V)) ⊕ (Int × Int × Bool × (List V) × (List V))):=un fun pZ=>un fun t23=>un fun cM bU=>Cq C p t21 t22 aK aP bc a9 bX bY mT mU lZ ee pZ t23 cM bU (fun y=>some (.inl y)) (fun r=>some (.inr r))
noncomputable def Ww (C:ae):cy:=fun β n ds k=>
 bif Nat.beq n 177 then bw KZ [false,false,false,false,false,false,false,false,true,false,false,false,false,false,false,false,false,true,false,false,false,false] [[1,2,3,4,5,6,7,8,0,0,10,11,12,13,14,15,16,17,0,19,20,21,22]] (@Cp C) ds k else
 bif Nat.beq n 81 then bw K0 [false,true,false,false,true,false,false,false,false,false,false,false,false,false,false,true,true] [[1,0,3,4,0,0,6,7,8,9,10,11,12,13,14,15,0,0]] (@Cq C) ds k else
 none
abbrev Wx (C:ae) (b:cv):Prop:=cw Tryd.prog av C (Ww C) 53 (cR Tryd.prog (av.aT 53)) (av.sin 53).aX.length b
theorem ahF (C:ae):Wx C (.loop (aq [1,1,1,1,0,1,0,0,1,1,0,0,1,1,1,1,0,1,0,0] Hr)):=
 bC KZ [false,false,false,false,false,false,false,false,true,false,false,false,false,false,false,false,false,true,false,false,false,false] [[1,2,3,4,5,6,7,8,0,0,10,11,12,13,14,15,16,17,0,19,20,21,22]] (@Cp C) (by kernel_rfl) (aV (bs:=[]) (by kernel_rfl) au) (fun ds=>by kernel_rfl) (fun i x=>by kernel_rfl) (fun i x β k=>by kernel_rfl) (fun β ds k=>by kernel_rfl)
theorem ahG (C:ae):Wx C (.loop (aq [1,1,1,1,0,1,0,0] Hr)):=
 bC K0 [false,true,false,false,true,false,false,false,false,false,false,false,false,false,false,true,true] [[1,0,3,4,0,0,6,7,8,9,10,11,12,13,14,15,0,0]] (@Cq C) (by kernel_rfl) (aV (bs:=[.loop (aq [1,1,1,1,0,1,0,0,1,1,0,0,1,1,1,1,0,1,0,0] Hr)]) (by kernel_rfl) (bf (ahF C) au)) (fun ds=>by kernel_rfl) (fun i x=>by kernel_rfl) (fun i x β k=>by kernel_rfl) (fun β ds k=>by kernel_rfl)
noncomputable def Wy (C:ae) (aQ aS:Int) (aF aZ:List V):Option (List V):=
 (C Fk [.int .i64 aQ,.int .i64 aS,.list ak aF,.list an aZ]).bind fun r1=>
 (idx ((V.nth r1 0).toList) aS).bind fun x2=>
 (Loop (Ht C ((V.nth r1 0).toList) ((V.nth r1 0).toList) (((V.nth r1 0).toList).length:Int) aQ aS aF aZ 0 0 aQ x2.toInt ([]:List V) ([]:List V)) (0,0,([]:List V),([]:List V))).bind (un fun (alm:Int)=>un fun (BV:Int)=>un fun (rD:Bool)=>un fun (vl:List V) (vd:List V)=>
  (C Fl [.int .i64 aQ,.int .i64 x2.toInt,.list ak vl,.list an vd]).bind fun fQ=>
  some [.int .i64 ((V.nth fQ 0).toInt),.int .i64 ((V.nth (fQ.drop 1) 0).toInt),.list ak ((V.nth (fQ.drop 2) 0).toList),.list an ((V.nth ((fQ.drop 2).drop 1) 0).toList)])
theorem ahH {aQ aS:Int} {aF aZ:List V} {r:Option (List V)} (h:Wy CC aQ aS aF aZ=r):CC xn [.int .i64 aQ,.int .i64 aS,.list ak aF,.list an aZ]=r:=
 bh (key:=53) (L:=Ww CC) (bs:=[.loop (aq [1,1,1,1,0,1,0,0] Hr)]) (by kernel_rfl) (bf (ahG CC) au) (Eq.trans (by kernel_rfl) h)
theorem vw {n:Nat} {c:Nat→Nat}:(cV n c).length=n:=by simp[cV]
theorem rN {n q:Nat} {c:Nat→Nat} (h:q<n):idx (cV n c) (q:Int)=some (nV (c q)):=rG h
theorem Hu {n q:Nat} {f:Nat→V} {z v:V} (hv:v=f q):(tab n fun j=>if j<q then f j else z).set q v=tab n fun j=>if j<q+1 then f j else z:=by
 rw[hv,mO]
 refine dU fun j _=> ?_
 by_cases hj:j=q
 ·rw[if_pos hj,if_pos (by omega),hj]
 ·rw[if_neg hj]
  by_cases bZ:j<q
  ·rw[if_pos bZ,if_pos (by omega)]
  ·rw[if_neg bZ,if_neg (by omega)]
theorem Nr {n:Nat} {f:Nat→V} {z:V}:(tab n fun j=>if j<n then f j else z)=tab n f:=dU fun j hj=>if_pos hj
theorem Wz {n:Nat} {g:Nat→Nat} (hn:n≤1000) (hg: ∀q,q<n→g q≤1000000000):CC AD [.list aY (cV n g)]=some [.list aY (cV n (cp g n))]:=by
 refine aht ?_
 unfold Wn
 rw[vw]
 refine bT (kV (by omega) (by omega)) ?_
 rw[Int.toNat_natCast,lH]
 refine bs (eG n (fun i=>((i:Int),fB nV 0 (aL g i),(tab n fun q=>if q<i then nV (cp g n q) else nV 0))) ((n:Int),false,fB nV 0 (aL g n),cV n (cp g n)) (fun q hq=> ?_) ?_) ?_
 ·have hle:=rH g q
  simp only[Nn,Ch,un]
  refine bT (dE hq) ?_
  refine bs (rN hq) ?_
  have hk:cK .i64 (g q:Int)=true:=te (by have:=hg q hq;omega)
  refine bT (by simp only[nV,V.toInt_int,hk,Bool.and_self]) ?_
  have e1:=xI xM (g q) (aL g q) 0
  rw[cN (by omega)]
  simp only[nV,V.toInt_int]
  rw[show (V.int .i64 (g q:Int))=nV (g q) from rfl]
  by_cases hx:g q∈aL g q
  ·refine bF (by rw[show fH (nV (g q)) _=_ from e1];simpa using hx) ?_
   refine (eF hq).trans ?_
   have e2:=xJ xM (g q) (.int .i64 0) (aL g q) 0 hx
   rw[Nat.zero_add,←Vd hq hx] at e2
   rw[show gY (nV (g q)) _ (.int .i64 0)=_ from e2,V.toInt_int,Int.toNat_natCast,MT hx]
   exact congrArg (fun x=>some (Sum.inl (((q+1:Nat):Int),fB nV 0 (aL g q),x))) (Hu (f:=fun j=>nV (cp g n j)) rfl)
  ·refine bT (by rw[show fH (nV (g q)) _=_ from e1];simpa using hx) ?_
   refine bT (by simp only[hk,Bool.and_self]) ?_
   refine (eF hq).trans ?_
   have e2:=xK xM (g q) (aL g q) 0 hx
   rw[Nat.zero_add] at e2
   rw[show List.length (fB nV 0 (aL g q))=(aL g q).length from xH _ _,show e9 (nV (g q)) _ _=_ from e2,Int.toNat_natCast,←Ve hq hx,GF hx]
   exact congrArg (fun x=>some (Sum.inl (((q+1:Nat):Int),fB nV 0 (aL g q++[g q]),x))) (Hu (f:=fun j=>nV (cp g n j)) rfl)
 ·simp only[Nn,Ch,un]
  refine bF (bu (Nat.le_refl _)) ?_
  rw[bu (Nat.le_refl _)]
  exact congrArg (fun x=>some (Sum.inr ((n:Int),false,fB nV 0 (aL g n),x))) (Nr (f:=fun j=>nV (cp g n j)))
 ·rfl
def la (n:Nat) (p q:Nat→Nat) (i:Nat):Nat:=p i*(n+1)+q i
theorem ahI {n:Nat} {p q:Nat→Nat} (hn:n≤512) (hp: ∀i,i<n→p i≤1000) (hq: ∀i,i<n→q i≤1000):CC Fu [.list aY (cV n p),.list aY (cV n q)]=some [.list aY (cV n (cp (la n p q) n))]:=by
 have hb: ∀i,i<n→la n p q i≤1000000000:=fun i hi=>by
  have h1:=hp i hi
  have h2:=hq i hi
  have:=Nat.mul_le_mul h1 (show n+1≤513 by omega)
  unfold la
  omega
 refine ahx ?_
 unfold Wq
 rw[vw]
 refine bT (kV (by omega) (by omega)) ?_
 rw[Int.toNat_natCast,lH]
 refine bs (eG n (fun i=>((i:Int),(tab n fun j=>if j<i then nV (la n p q j) else nV 0))) ((n:Int),false,cV n (la n p q)) (fun i hi=> ?_) ?_) ?_
 ·simp only[No,Ci,un]
  refine bT (dE hi) ?_
  refine bs (rN hi) ?_
  refine bs (rN hi) ?_
  refine (eF hi).trans ?_
  have h1:=hp i hi
  have h2:=hq i hi
  have h3:=hb i hi
  have h4:IntKind.wrap .i64 ((IntKind.wrap .i64 ((IntKind.wrap .i64 (((cV n p).length:Int)+1))*(p i:Int)))+(q i:Int))=(la n p q i:Int):=by
   rw[vw,cN (by omega)]
   have e:((n+1:Nat):Int)*(p i:Int)=((p i*(n+1):Nat):Int):=by rw[Nat.mul_comm];push_cast;rfl
   unfold la at*
   rw[e]
   have h5:p i*(n+1)≤1000000000:=by omega
   generalize p i*(n+1)=z at*
   rw[wrap64 (x:=(z:Int)) (by omega) (by omega),wrap64 (by omega) (by omega)]
   push_cast;rfl
  simp only[nV,V.toInt_int]
  rw[h4,cN (by omega),Int.toNat_natCast]
  exact congrArg (fun x=>some (Sum.inl (((i+1:Nat):Int),x))) (Hu (f:=fun j=>nV (la n p q j)) rfl)
 ·simp only[No,Ci,un]
  refine bF (bu (Nat.le_refl _)) ?_
  rw[bu (Nat.le_refl _)]
  exact congrArg (fun x=>some (Sum.inr ((n:Int),false,x))) (Nr (f:=fun j=>nV (la n p q j)))
 ·simp only[un]
  refine bs (Wz (by omega) hb) ?_
  rfl
theorem WA {n:Nat} {p q:Nat→Nat} (hn:n≤1000):CC Fv [.list aY (cV n p),.list aY (cV n q)]=some [.bool (decide (∀i,i<n→p i=q i))]:=by
 refine ahp ?_
 unfold Wk
 rw[vw,vw]
 refine bF (by simp) ?_
 refine bs (u9 (fun i=>p i=q i) n (fun i=>(i:Int)) (.inl false:Bool ⊕ (Int × Bool)) (.inr ((n:Int),false)) (fun i hi=> ?_) ?_) ?_
 ·simp only[Nm,Cg]
  refine bT (dE hi) ?_
  refine bs (rN hi) ?_
  refine bs (rN hi) ?_
  simp only[nV,V.toInt_int]
  by_cases h:p i=q i
  ·refine bF (by simp[h]) ?_
   rw[if_pos h,cN (by omega)]
  ·refine bT (by simp;omega) ?_
   rw[if_neg h]
 ·simp only[Nm,Cg]
  refine bF (bu (Nat.le_refl _)) ?_
  rw[bu (Nat.le_refl _)]
 ·by_cases h: ∀i,i<n→p i=q i
  ·rw[if_pos h,decide_eq_true h];rfl
  ·rw[if_neg h,decide_eq_false h];rfl
theorem ahJ {n:Nat} {p q:Nat→Nat} {i j:Nat} (hi:q i≤n) (hj:q j≤n):la n p q i=la n p q j↔p i=p j∧q i=q j:=by
 unfold la
 constructor
 ·intro h
  have h1:(p i*(n+1)+q i)/(n+1)=p i:=by rw[Nat.mul_comm,Nat.mul_add_div (by omega),Nat.div_eq_of_lt (by omega)];rfl
  have h2:(p j*(n+1)+q j)/(n+1)=p j:=by rw[Nat.mul_comm,Nat.mul_add_div (by omega),Nat.div_eq_of_lt (by omega)];rfl
  have h3:p i=p j:=by rw[←h1,←h2,h]
  rw[h3] at h
  exact ⟨h3,by omega⟩
 ·rintro ⟨h1,h2⟩
  rw[h1,h2]
section
variable {a:Da} (h:a.Ok)
def jq (a:Da) (c:Nat→Nat):Nat→Nat→Nat
 | 0=>c
 | x+1=>cp (la a.n (jq a c x) fun q=>c (a.nx q x)) a.n
theorem WB {c:Nat→Nat} (hc: ∀q,q<a.n→c q<a.n): ∀x q,q<a.n→jq a c x q<a.n
 | 0,q,hq=>hc q hq
 | x+1,q,hq=>by
  have h1:=By (g:=la a.n (jq a c x) fun q=>c (a.nx q x)) hq
  have h2:=rH (la a.n (jq a c x) fun q=>c (a.nx q x)) a.n
  show cp _ _ _<_
  omega
include h
theorem ahK {c:Nat→Nat} (hc: ∀q,q<a.n→c q<a.n): ∀x,x≤a.L→∀q q',q<a.n→q'<a.n→(jq a c x q=jq a c x q'↔c q=c q'∧∀y,y<x→c (a.nx q y)=c (a.nx q' y)):=by
 intro x
 induction x with
 | zero=>intro _ q q' _ _;exact ⟨fun e=>⟨e,fun y hy=>by omega⟩,fun e=>e.1⟩
 | succ x ih=>
  intro hx q q' hq b9
  show cp _ _ _=cp _ _ _↔_
  rw[Bz hq b9,ahJ (by have:=hc _ (h.dS hq (show x<a.L by omega));omega) (by have:=hc _ (h.dS b9 (show x<a.L by omega));omega),ih (by omega) q q' hq b9]
  constructor
  ·rintro ⟨⟨e1,e2⟩,e3⟩
   refine ⟨e1,fun y hy=> ?_⟩
   rcases Nat.lt_or_ge y x with c1|c1
   ·exact e2 y c1
   ·rw[show y=x by omega];exact e3
  ·rintro ⟨e1,e2⟩
   exact ⟨⟨e1,fun y hy=>e2 y (by omega)⟩,e2 x (by omega)⟩
theorem ahL {c:Nat→Nat} {x:Nat} (hx:x<a.L) {k1 k2:Int} {l1 l2:List V}:
  Loop (Ho CC (cV a.n c) l1 (x:Int) ((cV a.n c).length:Int) k1 k2 l2 a.bD) (0,([]:List V))=some ((a.n:Int),false,cV a.n fun q=>c (a.nx q x)):=by
 have hm:=h.di
 rw[vw]
 refine (eG a.n (fun t=>((t:Int),(tab t fun q=>nV (c (a.nx q x))))) _ (fun q hq=> ?_) ?_)
 ·simp only[Ho,Ck,un]
  refine bT (dE hq) ?_
  refine bs (Da.kX hq) ?_
  simp only[lI]
  refine bs (mP hx) ?_
  refine bs (rN (h.dS hq hx)) ?_
  refine bT (cap (by rw[dJ];simp;omega) (by omega)) ?_
  rw[cN (by omega),lG]
  rfl
 ·simp only[Ho,Ck,un]
  refine bF (bu (Nat.le_refl _)) ?_
  rw[bu (Nat.le_refl _)]
  rfl
theorem WC {c:Nat→Nat} (hc: ∀q,q<a.n→c q<a.n) {k2:Int} {l2:List V}:
  Loop (Hp CC (cV a.n c) (a.L:Int) k2 l2 a.bD) (cV a.n c,0)=some (cV a.n (jq a c a.L),(a.L:Int),false):=by
 have hm:=h.di
 have h6:=h.l6
 refine (eG a.L (fun x=>(cV a.n (jq a c x),(x:Int))) _ (fun x hx=> ?_) ?_)
 ·simp only[Hp,Cm,un]
  refine bT (dE hx) ?_
  refine bs (ahL h hx) ?_
  refine bs (ahI hm (fun q hq=>by have:=WB hc x q hq;omega) fun q hq=>by have:=hc _ (h.dS hq hx);omega) ?_
  rw[cN (by omega)]
  rfl
 ·simp only[Hp,Cm,un]
  refine bF (bu (Nat.le_refl _)) ?_
  rw[bu (Nat.le_refl _)]
theorem ahM {c0:Nat→Nat} (hp0:a.Part c0) (ho0:nK c0 a.n) (El: ∀q,q<a.n→c0 q<a.n) {k2:Int} {l2:List V}: ∃p,Loop (Co CC (a.L:Int) k2 l2 a.bD) (cV a.n c0)=some (cV a.n p)∧a.vp p∧∀q,q<a.n→p q<a.n:=by
 have hm:=h.di
 have:=R5 (step:=Co CC (a.L:Int) k2 l2 a.bD)
  (fun x=> ∃c,x=cV a.n c∧a.Part c∧nK c a.n∧∀q,q<a.n→c q<a.n)
  (fun x=>a.n-(aL (fun q=>(x.getD q (nV 0)).toInt) a.n).length)
  (fun r=> ∃p,r=cV a.n p∧a.vp p∧∀q,q<a.n→p q<a.n) (fun x hx=> ?_) (cV a.n c0) ⟨c0,rfl,hp0,ho0,El⟩
 ·obtain ⟨r,h1,p,rfl,h2,h3⟩:=this
  exact ⟨p,h1,h2,h3⟩
 ·obtain ⟨c,rfl,hp,ho,hc⟩:=hx
  have nL:a.GG c (jq a c a.L):=fun q q' hq b9=>(ahK h hc a.L (Nat.le_refl _) q q' hq b9).trans Da.vo.symm
  have hb:=WB hc a.L
  have vu: ∀q q',q<a.n→q'<a.n→jq a c a.L q=jq a c a.L q'→c q=c q':=fun q q' hq b9 e=>(Da.vo.1 ((nL q q' hq b9).1 e)).1
  have jf:nK (jq a c a.L) a.n:=by
   have h1:=h.l1
   obtain ⟨m,hm⟩: ∃m,a.L=m+1:=⟨a.L-1,by omega⟩
   rw[hm]
   exact MU _ _
  by_cases he: ∀q,q<a.n→jq a c a.L q=c q
  ·right
   refine ⟨_,?_,c,rfl,⟨hp.Vh h fun q q' hq b9 e=>(nL q q' hq b9).1 (by rw[he q hq,he q' b9,e]),ho⟩,hc⟩
   simp only[Co,Cn,un]
   refine bs (WC h hc) ?_
   refine bs (WA (by omega)) ?_
   refine bT (by simpa using he) ?_
   rfl
  ·left
   refine ⟨cV a.n (jq a c a.L),?_,⟨jq a c a.L,rfl,nL.part h hp,jf,hb⟩,?_⟩
   ·simp only[Co,Cn,un]
    refine bs (WC h hc) ?_
    refine bs (WA (by omega)) ?_
    refine bF (by rw[V.cu,V.oG];exact decide_eq_false he) ?_
    rfl
   ·have ec: ∀d:Nat→Nat,(aL (fun q=>((cV a.n d).getD q (nV 0)).toInt) a.n).length=(aL d a.n).length:=fun d=>by
     have key: ∀m,m≤a.n→aL (fun q=>((cV a.n d).getD q (nV 0)).toInt) m=(aL d m).map fun n:Nat=>(n:Int):=by
      intro m
      induction m with
      | zero=>intro _;rfl
      | succ m ih=>
       intro hm
       have e:((cV a.n d).getD m (nV 0)).toInt=(d m:Int):=by unfold cV;rw[xF (by omega)];rfl
       rw[aL,aL,ih (by omega),e]
       unfold cx
       by_cases hx:d m∈aL d m
       ·rw[if_pos hx,if_pos (List.mem_map.2 ⟨d m,hx,rfl⟩)]
       ·rw[if_neg hx,if_neg]
        ·simp
        ·intro h2
         obtain ⟨y,h3,h4⟩:=List.mem_map.1 h2
         exact hx ((show y=d m by omega)▸h3)
     rw[key a.n (Nat.le_refl _),List.length_map]
    simp only[ec]
    have afz:=Vg vu
    have hle:=rH (jq a c a.L) a.n
    have bN:(aL c a.n).length≠(aL (jq a c a.L) a.n).length:=by
     intro e
     have bP:=MV vu (by omega)
     refine he fun q hq=> ?_
     have h1:=afi (f:=jq a c a.L) (c:=c) (fun s s' hs sN=>⟨vu s s' hs sN,bP s s' hs sN⟩) q hq
     have own: ∀(d:Nat→Nat),nK d a.n→cp d a.n q=d q:=fun d hd=>by
      have h2:d q∈aL d a.n:=iS.2 ⟨q,hq,rfl⟩
      unfold cp
      rw[hd a.n (Nat.le_refl _)] at h2⊢
      have h3:=List.mem_range.1 h2
      have h4:=(List.nodup_range (n:=(aL d a.n).length)).idxOf_getElem (d q) (by rw[List.length_range];exact h3)
      rwa [List.getElem_range] at h4
     rw[own _ jf,own _ ho] at h1
     exact h1
    omega
theorem WD: ∃p,CC Fk (dj a)=some [.list aY (cV a.n p)]∧a.vp p∧∀q,q<a.n→p q<a.n:=by
 have hm:=h.di
 have hf0: ∀q,q<a.n→(if a.fin q=true then 1 else 0)≤1000000000:=fun q _=>by split<;>omega
 have hb: ∀q,q<a.n→cp (fun q=>if a.fin q=true then 1 else 0) a.n q<a.n:=fun q hq=>by
  have h1:=By (g:=fun q=>if a.fin q=true then 1 else 0) hq
  have h2:=rH (fun q=>if a.fin q=true then 1 else 0) a.n
  omega
 obtain ⟨p,h1,h2,h3⟩:=ahM h (c0:=cp (fun q=>if a.fin q=true then 1 else 0) a.n)
  ⟨fun q q' hq b9 he=>(Bz hq b9).2 (by have:=he [] WL.nil;rw[Da.nJ,Da.nJ] at this;rw[this]),
   fun q q' hq b9 he=>by
   have h1:=(Bz hq b9).1 he
   revert h1
   cases a.fin q<;>cases a.fin q'<;>simp⟩ (MU _ _) hb (k2:=(a.st:Int)) (l2:=a.bz)
 refine ⟨p,ahE ?_,h2,h3⟩
 unfold Wu
 rw[Da.kW]
 refine bT (kV (by omega) (by omega)) ?_
 rw[Int.toNat_natCast,lH,dJ]
 refine bs (eG a.n (fun i=>((i:Int),(tab a.n fun j=>if j<i then nV (if a.fin j=true then 1 else 0) else nV 0))) ((a.n:Int),false,cV a.n fun q=>if a.fin q=true then 1 else 0) (fun q hq=> ?_) ?_) ?_
 ·simp only[Np,Cj,un]
  refine bT (dE hq) ?_
  refine bs (Da.oP hq) ?_
  rw[cN (by omega),V.oG]
  cases hf:a.fin q with
  | true=>
   refine bT rfl ?_
   refine (eF hq).trans ?_
   rw[Int.toNat_natCast]
   exact congrArg (fun x=>some (Sum.inl (((q+1:Nat):Int),x))) (Hu (f:=fun j=>nV (if a.fin j=true then 1 else 0)) (by rw[hf];rfl))
  | false=>
   refine bF rfl ?_
   refine congrArg (fun x=>some (Sum.inl (((q+1:Nat):Int),x))) (dU fun j _=> ?_)
   by_cases hj:j=q
   ·rw[if_neg (show¬j<q by omega),if_pos (show j<q+1 by omega),hj,hf];rfl
   ·by_cases bZ:j<q
    ·rw[if_pos bZ,if_pos (show j<q+1 by omega)]
    ·rw[if_neg bZ,if_neg (show¬j<q+1 by omega)]
 ·simp only[Np,Cj,un]
  refine bF (bu (Nat.le_refl _)) ?_
  rw[bu (Nat.le_refl _)]
  exact congrArg (fun x=>some (Sum.inr ((a.n:Int),false,x))) (Nr (f:=fun j=>nV (if a.fin j=true then 1 else 0)))
 ·simp only[un]
  refine bs (Wz (by omega) hf0) ?_
  refine bs h1 ?_
  rfl
theorem ahN {p:Nat→Nat} {q:Nat} (hq:q<a.n) {k1 k2 k3 k4 k5 k6 k7 k8 k9 M3:Int} {l1 l2 l3 l4 l5 l6 l7:List V}:
  Loop (Hs CC (cV a.n p) k1 k2 l1 k3 k4 (tab a.L fun x=>iV (a.nx q x)) ((tab a.L fun x=>iV (a.nx q x)).length:Int) k5 k6 l2 l3 k7 k8 k9 M3 l4 l5 l6 l7) (0,([]:List V))=
   some ((a.L:Int),false,(tab a.L fun x=>nV (p (a.nx q x)))):=by
 have h6:=h.l6
 rw[dJ]
 refine (eG a.L (fun t=>((t:Int),(tab t fun x=>nV (p (a.nx q x))))) _ (fun t ht=> ?_) ?_)
 ·simp only[Hs,Cp,un]
  refine bT (dE ht) ?_
  refine bs (mP ht) ?_
  refine bs (rN (h.dS hq ht)) ?_
  refine bT (cap (by rw[dJ];simp;omega) (by omega)) ?_
  rw[cN (by omega),lG]
  rfl
 ·simp only[Hs,Cp,un]
  refine bF (bu (Nat.le_refl _)) ?_
  rw[bu (Nat.le_refl _)]
theorem ahO {p:Nat→Nat} (ho:nK p a.n) {k2 k3 k4 k5 k6:Int} {l4 l5:List V}:
  Loop (Ht CC (cV a.n p) (cV a.n p) ((cV a.n p).length:Int) (a.L:Int) k2 a.bz a.bD k3 k4 k5 k6 l4 l5) (0,0,([]:List V),([]:List V))=
   some (((Da.dF p a.n).length:Int),(a.n:Int),false,qF a p a.n,qN a p a.n):=by
 have h6:=h.l6
 have hm:=h.di
 rw[vw]
 refine (eG a.n (fun i=>(((Da.dF p i).length:Int),(i:Int),qF a p i,qN a p i)) _ (fun q hq=> ?_) ?_)
 ·have hle:=M1 p q
  have hF:(qF a p q).length=(Da.dF p q).length:=by simp[qF]
  have hN:(qN a p q).length=(Da.dF p q).length:=by simp[qN]
  simp only[Ht,Cq,un]
  refine bT (dE hq) ?_
  refine bs (rN hq) ?_
  rw[cN (by omega)]
  simp only[nV,V.toInt_int]
  by_cases hx:p q∈aL p q
  ·have:=(M0 ho hq).1 hx
   refine bT (by simp;omega) ?_
   unfold qF qN
   rw[Da.dF,if_pos hx]
  ·have e:p q=(Da.dF p q).length:=by
    have h1:=ho (q+1) (by omega)
    rw[GF hx,List.length_append,List.length_singleton,List.range_succ] at h1
    rw[Da.xO]
    exact List.singleton_inj.1 (List.append_inj_right h1 (by simp))
   refine bF (by rw[e];simp) ?_
   refine bs (Da.kX hq) ?_
   simp only[lI]
   refine bs (ahN h hq) ?_
   refine bT (cap (by rw[hN];simp;omega) (by omega)) ?_
   refine bs (Da.oP hq) ?_
   refine bT (cap (by rw[hF];simp;omega) (by omega)) ?_
   unfold qF qN
   rw[Da.dF,if_neg hx,List.map_append,List.map_append,List.length_append,cN (by omega)]
   rfl
 ·simp only[Ht,Cq,un]
  refine bF (bu (Nat.le_refl _)) ?_
  rw[bu (Nat.le_refl _)]
theorem WE:CC xn (dj a)=some (dj (minD a)):=by
 obtain ⟨p,c1,c2,c3⟩:=WD h
 have hq:=Da.GI h c2
 obtain ⟨q1,q2⟩:=Vv (a:=a) (p:=p)
 rw[←xX h (Da.MW h c2)]
 refine ahH ?_
 unfold Wy
 refine bs c1 ?_
 refine bs (rN h.s) ?_
 refine bs (ahO h c2.2) ?_
 simp only[un]
 rw[←q1,←q2]
 have wX:=ahm hq
 refine bs wX ?_
 rfl
end
end Go.AM
set_option maxRecDepth 100000
namespace Go.AM
open Go.Proofs Go.Sort
section
variable {α:Type} {enc:α→V}
def p5 (enc:α→V) (d:Array α):List V:=d.toList.map enc
theorem gh (d:Array α):(p5 enc d).length=d.size:=by simp[p5]
theorem gi (d:Array α) (i:Nat) (x:α):(p5 enc d).set i (enc x)=p5 enc (d.setIfInBounds i x):=by
 unfold p5;rw[Array.toList_setIfInBounds,List.map_set]
variable [Inhabited α]
theorem gj {d:Array α} {i:Nat} (h:i<d.size):(p5 enc d)[i]? =some (enc d[i]!):=by
 unfold p5;rw[List.getElem?_map,Array.getElem?_toList,Array.getElem?_eq_getElem h,getElem!_pos d i h];rfl
theorem iy {d:Array α} {i j:Nat} {x:α} (h:i<d.size):(p5 enc (d.setIfInBounds j x))[i]? =some (enc (d.setIfInBounds j x)[i]!):=gj (by rw[Array.size_setIfInBounds];exact h)
theorem gk (a b:Nat):(a:Int)+(b:Int)=((a+b:Nat):Int):=(Int.natCast_add a b).symm
theorem dV (a:Nat):(a:Int)+1=((a+1:Nat):Int):=rfl
theorem vy (a:Nat):((a+1:Nat):Int)-1=(a:Int):=by omega
theorem Cr (a:Nat):(a:Int)*2=((a*2:Nat):Int):=by omega
theorem mV {a b:Nat} (h:b≤a):(a:Int)-(b:Int)=((a-b:Nat):Int):=by omega
theorem ko {a:Nat} (h:1≤a):(a:Int)-1=((a-1:Nat):Int):=by omega
theorem divC (a b:Nat):Int.tdiv (a:Int) (b:Int)=((a/b:Nat):Int):=by rw[Int.tdiv_eq_ediv_of_nonneg (by omega)];rfl
theorem nP {p:Prop} [Decidable p] (h:p):decide p=true:=decide_eq_true h
theorem tn {p:Prop} [Decidable p] (h: ¬p):decide p=false:=decide_eq_false h
variable {lt:α→α→Bool}
theorem WG (a j:Nat) (d:Array α):insInner lt a (j+1) d=if j+1>a&&lt d[j+1]! d[j]! then insInner lt a j (swp d (j+1) j) else d:=rfl
theorem Ns {a:Nat}: ∀(j:Nat) (d:Array α),(insInner lt a j d).size=d.size
 | 0,d=>rfl
 | j+1,d=>by
  rw[WG]
  split
  ·rw[Ns j,size_swp]
  ·rfl
theorem Cs (hi first:Nat): ∀(n root:Nat) (d:Array α),hi-root≤n→(siftDown lt hi first root d).size=d.size:=by
 intro n
 induction n with
 | zero=>intro root d h;rw[siftDown,dif_pos (by omega)]
 | succ n ih=>
  intro root d h
  rw[siftDown]
  split
  ·rfl
  ·split
   ·split
    ·rfl
    ·split
     ·rw[ih _ _ (by omega),size_swp]
     ·rfl
   ·split
    ·rfl
    ·rw[ih _ _ (by omega),size_swp]
theorem Nt (hi first:Nat): ∀(k:Nat) (d:Array α),(heapBuild lt hi first k d).size=d.size
 | 0,d=>rfl
 | k+1,d=>by rw[heapBuild,Nt,Cs _ _ _ _ _ (Nat.le_refl _)]
end
end Go.AM
set_option maxRecDepth 100000
set_option maxHeartbeats 1000000
namespace Go.AM
open Go.Proofs
theorem Ed.lt_irrefl (a:Ed): ¬a.lt a:=by unfold Ed.lt;omega
theorem Ed.lt_trans {a b c:Ed}:a.lt b→b.lt c→a.lt c:=by unfold Ed.lt;omega
theorem Ed.lt_asymm {a b:Ed}:a.lt b→¬b.lt a:=by unfold Ed.lt;omega
theorem Ed.WH {a b:Ed} (h1: ¬a.lt b) (h2: ¬b.lt a):a=b:=by
 cases a;cases b
 simp only[Ed.lt,Ed.mk.injEq] at*
 omega
abbrev nQ (E:List Ed):Prop:=E.Pairwise Ed.lt
def Ed.key (e:Ed):Nat:=(e.f.toNat*6+e.l.toNat)*64+e.t.toNat
theorem Ed.ahP {a b:Ed} {L S:Int} (hL:L≤6) (hS:S≤64) (ha:a.In L S) (hb:b.In L S) (h:a.lt b):a.key<b.key:=by
 unfold Ed.In at ha hb
 unfold Ed.lt at h
 unfold Ed.key
 omega
theorem ahQ {L S:Int} (hL:L≤6) (hS:S≤64): ∀(E:List Ed),nQ E→(∀e∈E,e.In L S)→∀i (hi:i<E.length),i≤E[i].key:=by
 intro E h hE i
 induction i with
 | zero=>intro hi;omega
 | succ i ih=>
  intro hi
  have h1:=ih (by omega)
  have h2:=(List.pairwise_iff_getElem.1 h) i (i+1) (by omega) hi (by omega)
  have:=Ed.ahP hL hS (hE _ (List.getElem_mem _)) (hE _ (List.getElem_mem _)) h2
  omega
theorem ahR {L S:Int} (hL:L≤6) (hS:S≤64) {E:List Ed} (h:nQ E) (hE: ∀e∈E,e.In L S):E.length≤24576:=by
 by_cases h0:E.length=0
 ·omega
 ·have h1:=ahQ hL hS E h hE (E.length-1) (by omega)
  have h2:=hE E[E.length-1] (List.getElem_mem _)
  unfold Ed.In at h2
  unfold Ed.key at h1
  omega
theorem WI: ∀{A B:List Ed},nQ A→nQ B→(∀x,x∈A↔x∈B)→A=B
 | [],[],_,_,_=>rfl
 | [],b::B,_,_,h=>by have:=(h b).2 (by simp);cases this
 | a::A,[],_,_,h=>by have:=(h a).1 (by simp);cases this
 | a::A,b::B,hA,hB,h=>by
  have a1:=List.pairwise_cons.1 hA
  have b1:=List.pairwise_cons.1 hB
  have fZ:a=b:=by
   have ha:=(h a).1 (by simp)
   have hb:=(h b).2 (by simp)
   rcases List.mem_cons.1 ha with e|e
   ·exact e
   ·rcases List.mem_cons.1 hb with e'|e'
    ·exact e'.symm
    ·exact absurd (a1.1 b e') (Ed.lt_asymm (b1.1 a e))
  subst fZ
  rw[WI a1.2 b1.2 fun x=> ?_]
  constructor
  ·intro hx
   rcases List.mem_cons.1 ((h x).1 (by simp[hx])) with e|e
   ·subst e;exact absurd (a1.1 x hx) (Ed.lt_irrefl x)
   ·exact e
  ·intro hx
   rcases List.mem_cons.1 ((h x).2 (by simp[hx])) with e|e
   ·subst e;exact absurd (b1.1 x hx) (Ed.lt_irrefl x)
   ·exact e
def jO (out:List Ed) (e:Ed):Nat→Nat
 | 0=>0
 | k+1=>if e.lt (out.getD k default) then jO out e k else k+1
def tp (out:List Ed) (e:Ed):List Ed:=
 if jO out e out.length=0∨¬out.getD (jO out e out.length-1) default=e then out.take (jO out e out.length)++[e]++out.drop (jO out e out.length) else out
def rO (l:List Ed):List Ed:=l.foldl tp []
theorem Nu (out:List Ed) (e:Ed): ∀k,jO out e k≤k
 | 0=>Nat.le_refl _
 | k+1=>by unfold jO;split;exact Nat.le_succ_of_le (Nu out e k);exact Nat.le_refl _
theorem WJ (out:List Ed) (e:Ed): ∀k i,jO out e k≤i→i<k→e.lt (out.getD i default)
 | 0,i,_,h=>by omega
 | k+1,i,h1,h2=>by
  unfold jO at h1
  split at h1
  ·rename_i h3
   by_cases hi:i=k
   ·subst hi;exact h3
   ·exact WJ out e k i h1 (by omega)
  ·omega
theorem WK (out:List Ed) (e:Ed): ∀k,jO out e k≠0→¬e.lt (out.getD (jO out e k-1) default)
 | 0,h=>by simp[jO] at h
 | k+1,h=>by
  unfold jO at h⊢
  split
  ·rename_i h3
   rw[if_pos h3] at h
   exact WK out e k h
  ·rename_i h3
   simpa using h3
theorem ahS {out:List Ed} {e x:Ed} (hk:jO out e out.length≤out.length):x∈tp out e↔x=e∨x∈out:=by
 unfold tp
 split
 ·rename_i h
  have:=List.take_append_drop (jO out e out.length) out
  constructor
  ·intro hx
   simp only[List.append_assoc,List.mem_append,List.mem_singleton] at hx
   rcases hx with hx|hx|hx
   ·exact .inr (List.mem_of_mem_take hx)
   ·exact .inl hx
   ·exact .inr (List.mem_of_mem_drop hx)
  ·rintro (rfl|hx)
   ·simp
   ·rw[←this] at hx
    simp only[List.mem_append] at hx
    simp only[List.append_assoc,List.mem_append,List.mem_singleton]
    rcases hx with hx|hx
    ·exact .inl hx
    ·exact .inr (.inr hx)
 ·rename_i h
  simp only[not_or,Classical.not_not] at h
  constructor
  ·exact .inr
  ·rintro (rfl|hx)
   ·have h1:=h.2
    have h2:jO out x out.length-1<out.length:=by omega
    rw[←h1]
    simp[h2]
   ·exact hx
theorem ahT {out:List Ed} {e:Ed} (h:nQ out):nQ (tp out e):=by
 have hk:=Nu out e out.length
 have up:=WJ out e out.length
 have dn:=WK out e out.length
 unfold tp
 generalize hq:jO out e out.length=k at*
 split
 ·rename_i hc
  have g:=List.pairwise_iff_getElem.1 h
  have iJ: ∀x∈out.take k,x.lt e:=by
   intro x hx
   obtain ⟨i,hi,rfl⟩:=List.getElem_of_mem hx
   have dZ:i<k:=by rw[List.length_take] at hi;omega
   have qD:i<out.length:=by omega
   rw[List.getElem_take]
   have WM:k≠0:=by omega
   have h1:=dn WM
   have h2: ¬out.getD (k-1) default=e:=by
    rcases hc with hc|hc
    ·exact absurd hc WM
    ·exact hc
   have lu:k-1<out.length:=by omega
   have e1:out.getD (k-1) default=out[k-1]:=by simp[lu]
   rw[e1] at h1 h2
   have h3:out[k-1].lt e:=by
    by_cases h4:out[k-1].lt e
    ·exact h4
    ·exact absurd (Ed.WH h4 h1) h2
   by_cases hik:i=k-1
   ·subst hik;exact h3
   ·exact Ed.lt_trans (g i (k-1) qD lu (by omega)) h3
  have gQ: ∀y∈out.drop k,e.lt y:=by
   intro y hy
   obtain ⟨i,hi,rfl⟩:=List.getElem_of_mem hy
   rw[List.length_drop] at hi
   rw[List.getElem_drop]
   have:=up (k+i) (by omega) (by omega)
   have e1:out.getD (k+i) default=out[k+i]:=by simp[show k+i<out.length by omega]
   rwa [e1] at this
  rw[nQ,List.append_assoc,List.pairwise_append]
  refine ⟨h.sublist (List.take_sublist _ _),?_,?_⟩
  ·rw[List.singleton_append,List.pairwise_cons]
   exact ⟨gQ,h.sublist (List.drop_sublist _ _)⟩
  ·intro x hx y hy
   rw[List.singleton_append,List.mem_cons] at hy
   rcases hy with rfl|hy
   ·exact iJ x hx
   ·exact Ed.lt_trans (iJ x hx) (gQ y hy)
 ·exact h
theorem Nv: ∀(l out:List Ed),nQ out→nQ (l.foldl tp out)∧∀x,x∈l.foldl tp out↔x∈l∨x∈out
 | [],out,h=>⟨h,by simp⟩
 | e::l,out,h=>by
  obtain ⟨h1,h2⟩:=Nv l (tp out e) (ahT h)
  refine ⟨h1,fun x=> ?_⟩
  rw[List.foldl_cons,h2,ahS (Nu _ _ _)]
  simp only[List.mem_cons]
  constructor
  ·rintro (h|h|h)
   ·exact .inl (.inr h)
   ·exact .inl (.inl h)
   ·exact .inr h
  ·rintro ((h|h)|h)
   ·exact .inr (.inl h)
   ·exact .inl h
   ·exact .inr (.inr h)
theorem Nw (l:List Ed):nQ (rO l):=(Nv l [] List.Pairwise.nil).1
theorem yg {l:List Ed} {x:Ed}:x∈rO l↔x∈l:=by
 have:=(Nv l [] List.Pairwise.nil).2 x
 simpa[rO] using this
theorem Hv (a b:Ed):((a.f==b.f)&&((a.l==b.l)&&((a.t==b.t)&&true)))=decide (a=b):=by
 cases a;cases b
 rw[Bool.eq_iff_iff]
 simp
end Go.AM
set_option maxRecDepth 100000
namespace Go.AM
open Go.Proofs
noncomputable abbrev Hw:Code:=cL Tryd.prog (av.aT 91)
noncomputable def yh (C:ae) (Ct vz:Nat) (k' kp:Int) (ss:List V) {β:Type} (kn:(Int × Int × (List V))→Option β) (kr:(Int × Int × Bool × (List V))→Option β):Option β:=
 bif decide ((kp:Int)<(vz:Int)) then
  bif (decide (0≤kp))&&(decide (kp<(vz:Int))) then
  (ss[Ct+((kp:Int).toNat)]?).bind fun x3=>
  bif (decide (0≤(IntKind.wrap .i64 (kp-1))))&&(decide ((IntKind.wrap .i64 (kp-1))<(vz:Int))) then
   (ss[Ct+((IntKind.wrap .i64 (kp-1):Int).toNat)]?).bind fun x4=>
   bif !(((((x3.cell 0).toInt):Int)==((x4.cell 0).toInt))&&(((((x3.cell 1).toInt):Int)==((x4.cell 1).toInt))&&(((((x3.cell 2).toInt):Int)==((x4.cell 2).toInt))&&true))) then
   bif (decide (0≤kp))&&(decide (kp<(vz:Int))) then
    (ss[Ct+((kp:Int).toNat)]?).bind fun x5=>
    bif (decide (0≤k'))&&(decide (k'<(ss.length:Int))) then
    (ss[(k':Int).toNat]?).bind fun x6=>
    kn (IntKind.wrap .i64 (k'+1),IntKind.wrap .i64 (kp+1),ss.set ((k':Int).toNat) (.agg [.int .i64 ((x5.cell 0).toInt),.int .i64 ((x5.cell 1).toInt),.int .i64 ((x5.cell 2).toInt)]))
    else none
   else none
   else
   kn (k',IntKind.wrap .i64 (kp+1),ss)
  else none
  else none
 else
  kr (k',kp,decide ((kp:Int)<(vz:Int)),ss)
noncomputable def vA (C:ae) (Ct vz:Nat):(Int × Int × (List V))→Option ((Int × Int × (List V)) ⊕ (Int × Int × Bool × (List V))):=un fun k'=>un fun kp ss=>yh C Ct vz k' kp ss (fun y=>some (.inl y)) (fun r=>some (.inr r))
noncomputable def yi (C:ae) (ss:List V) (k':Int) {β:Type} (kn:Int→Option β) (kr:((List V) ⊕ (Int × Bool))→Option β):Option β:=
 bif decide ((k':Int)<(ss.length:Int)) then
  bif (decide (0≤k'))&&(decide (k'<(ss.length:Int))) then
  (ss[(k':Int).toNat]?).bind fun x1=>
  bif (decide (0≤(IntKind.wrap .i64 (k'-1))))&&(decide ((IntKind.wrap .i64 (k'-1))<(ss.length:Int))) then
   (ss[(IntKind.wrap .i64 (k'-1):Int).toNat]?).bind fun x2=>
   bif ((((x1.cell 0).toInt):Int)==((x2.cell 0).toInt))&&(((((x1.cell 1).toInt):Int)==((x2.cell 1).toInt))&&(((((x1.cell 2).toInt):Int)==((x2.cell 2).toInt))&&true)) then
   bif (decide (0≤k'))&&(decide (k'≤(ss.length:Int))) then
    (Loop (vA C ((k':Int).toNat) (ss.length-((k':Int).toNat))) (k',1,ss)).bind (un fun (mW:Int)=>un fun (k_8:Int)=>un fun (rF:Bool) (rP:List V)=>
     bif (decide (0≤mW))&&(decide (mW≤(rP.length:Int))) then
     bif (decide (0≤mW))&&(decide (mW≤((rP.take ((mW:Int).toNat)++(List.replicate (rP.length-((mW:Int).toNat)) (V.agg [.int .i64 0,.int .i64 0,.int .i64 0])++rP.drop (((mW:Int).toNat)+(rP.length-((mW:Int).toNat))))).length:Int))) then
      kr (.inl ((rP.take ((mW:Int).toNat)++(List.replicate (rP.length-((mW:Int).toNat)) (V.agg [.int .i64 0,.int .i64 0,.int .i64 0])++rP.drop (((mW:Int).toNat)+(rP.length-((mW:Int).toNat))))).take ((mW:Int).toNat)))
     else none
     else none)
   else none
   else
   kn (IntKind.wrap .i64 (k'+1))
  else none
  else none
 else
  kr (.inr (k',decide ((k':Int)<(ss.length:Int))))
noncomputable def vB (C:ae) (ss:List V):(Int)→Option ((Int) ⊕ ((List V) ⊕ (Int × Bool))):=fun k'=>yi C ss k' (fun y=>some (.inl y)) (fun r=>some (.inr r))
noncomputable def WN (C:ae):cy:=fun β n ds k=>
 bif Nat.beq n 145 then bw Lm [true,false,false,true,true] [[0,2,3,0,0,0]] (@yh C) ds k else
 bif Nat.beq n 65 then bw Ln [true,false] [[0],[0,0,2]] (@yi C) ds k else
 none
abbrev WO (C:ae) (b:cv):Prop:=cw Tryd.prog av C (WN C) 91 (cR Tryd.prog (av.aT 91)) (av.sin 91).aX.length b
theorem ahU (C:ae):WO C (.loop (aq [1,1,0,1,0,0,1,0,0,1,0,1,0,1,0,0] Hw)):=
 bC Lm [true,false,false,true,true] [[0,2,3,0,0,0]] (@yh C) (by kernel_rfl) (aV (bs:=[]) (by kernel_rfl) au) (fun ds=>by kernel_rfl) (fun i x=>by kernel_rfl) (fun i x β k=>by kernel_rfl) (fun β ds k=>by kernel_rfl)
theorem ahV (C:ae):WO C (.loop (aq [1,1,0,1,0,0] Hw)):=
 bC Ln [true,false] [[0],[0,0,2]] (@yi C) (by kernel_rfl) (aV (bs:=[.loop (aq [1,1,0,1,0,0,1,0,0,1,0,1,0,1,0,0] Hw)]) (by kernel_rfl) (bf (ahU C) au)) (fun ds=>by kernel_rfl) (fun i x=>by kernel_rfl) (fun i x β k=>by kernel_rfl) (fun β ds k=>by kernel_rfl)
noncomputable def Hy (C:ae) (ss:List V):Option (List V):=
 bif decide (((ss.length:Int):Int)<2) then
  some [V.bool true,.list ar ss]
 else
  (Loop (vB C ss) 1).bind (dA (fun (ahW:List V)=>
   some [V.bool false,.list ar ahW]) (un fun (aln:Int) (rD:Bool)=>
   some [V.bool true,.list ar ss]))
theorem Nx {ss:List V} {r:Option (List V)} (h:Hy CC ss=r):CC Fo [.list ar ss]=r:=
 bh (key:=91) (L:=WN CC) (bs:=[.loop (aq [1,1,0,1,0,0] Hw)]) (by kernel_rfl) (bf (ahV CC) au) (Eq.trans (by kernel_rfl) h)
def nR (prev:Ed):List Ed→List Ed
 | []=>[]
 | x::l=>if x=prev then nR x l else x::nR x l
def iz:List Ed→List Ed
 | []=>[]
 | x::l=>x::nR x l
theorem Ny {l:List Ed} {j:Nat} (h:j<l.length):l.take (j+1)=l.take j++[l.getD j default]:=by
 rw[List.take_succ_eq_append_getElem h];simp[h]
theorem WQ {l ss:List Ed} {j:Nat} (hl:ss.length=l.length) (h:ss.drop j=l.drop j) (hj:j<l.length):ss.getD j default=l.getD j default:=by
 have h1:=congrArg (fun x:List Ed=>x.getD 0 default) h
 simpa[hj,hl] using h1
theorem Cu {l:List Ed} {i:Nat} (h:i<l.length):(l.map Ed.enc)[i]? =some (l.getD i default).enc:=by simp[h]
theorem ahX (ss:List Ed) (m:Nat) (z:V) (hm:m≤ss.length):((((ss.map Ed.enc).take m++(List.replicate ((ss.map Ed.enc).length-m) z++(ss.map Ed.enc).drop (m+((ss.map Ed.enc).length-m)))).take m)=(ss.take m).map Ed.enc):=by
 rw[List.take_append_of_le_length (by simp;omega),List.take_of_length_le (by simp;omega),List.map_take]
theorem WR: ∀(m:List Ed) (prev x:Ed),nR prev (m++[x])=nR prev m++(if x=(prev::m).getD m.length default then [] else [x])
 | [],prev,x=>by simp only[List.nil_append,nR,List.length_nil,List.getD_cons_zero]
 | y::m,prev,x=>by
  have ih:=WR m y x
  simp only[List.cons_append,nR,List.length_cons,List.getD_cons_succ]
  split
  ·exact ih
  ·rw[ih];rfl
theorem WS {l:List Ed} {p:Nat} (h1:1≤p) (h2:p<l.length):iz (l.take (p+1))=iz (l.take p)++(if l.getD p default=l.getD (p-1) default then [] else [l.getD p default]):=by
 match l,p,h1,h2 with
 | y::l,p+1,_,h2=>
  simp only[List.length_cons] at h2
  rw[List.take_succ_cons,List.take_succ_cons,iz,iz,Ny (by omega),WR]
  simp only[List.getD_cons_succ,List.length_take,Nat.add_sub_cancel]
  rw[show min p l.length=p by omega]
  have:(y::l.take p).getD p default=(y::l).getD p default:=by
   match p with
   | 0=>rfl
   | q+1=>simp only[List.getD_cons_succ];rw[List.getD_eq_getElem?_getD,List.getD_eq_getElem?_getD,List.getElem?_take_of_lt (by omega)]
  rw[this];rfl
theorem WU: ∀(m:List Ed) (prev:Ed),(prev::m).Pairwise (fun x y=> ¬y.lt x)→nQ (prev::nR prev m)∧∀x,x∈prev::nR prev m↔x∈prev::m
 | [],prev,_=>⟨by simp[nR],by simp[nR]⟩
 | y::m,prev,h=>by
  have h1:=List.pairwise_cons.1 h
  obtain ⟨i1,i2⟩:=WU m y h1.2
  rw[nR]
  by_cases hc:y=prev
  ·rw[if_pos hc]
   subst hc
   refine ⟨i1,fun x=> ?_⟩
   rw[i2 x];simp
  ·rw[if_neg hc]
   have aM:prev.lt y:=by
    by_cases h2:prev.lt y
    ·exact h2
    ·exact absurd (Ed.WH h2 (h1.1 y (by simp))) fun e=>hc e.symm
   refine ⟨List.pairwise_cons.2 ⟨fun x hx=> ?_,i1⟩,fun x=> ?_⟩
   ·rcases List.mem_cons.1 hx with rfl|hx
    ·exact aM
    ·exact Ed.lt_trans aM ((List.pairwise_cons.1 i1).1 x hx)
   ·rw[List.mem_cons,i2 x,←List.mem_cons]
theorem ahY {l:List Ed} (h:l.Pairwise (fun x y=> ¬y.lt x)):nQ (iz l)∧∀x,x∈iz l↔x∈l:=by
 match l,h with
 | [],_=>exact ⟨List.Pairwise.nil,fun _=>Iff.rfl⟩
 | y::l,h=>exact WU l y h
section
variable {l:List Ed} (hn:l.length≤1000000)
include hn
theorem ahZ {k:Nat}: ∀(d k2 i:Nat) (ss:List Ed),k+k2+d=l.length→1≤k2→i+1≤k+k2→ss.length=l.length→ss.take i=iz (l.take (k+k2))→ss.drop (k+k2-1)=l.drop (k+k2-1)→
  ∃t u yj,Loop (vA CC k (l.length-k)) ((i:Int),(k2:Int),ss.map Ed.enc)=some (((iz l).length:Int),u,t,List.map Ed.enc yj)∧yj.take (iz l).length=iz l∧yj.length=l.length:=by
 intro d
 induction d with
 | zero=>
  intro k2 i ss hj sU hi hl ht hd
  have e0:l.take (k+k2)=l:=List.take_of_length_le (by omega)
  rw[e0] at ht
  have kK:i=(iz l).length:=by rw[←ht,List.length_take];omega
  refine ⟨false,(k2:Int),ss,ca ?_,by rw[←kK];exact ht,hl⟩
  simp only[vA,yh,un,List.length_map,aE]
  rw[if_neg (by omega),decide_eq_false (by omega),kK]
 | succ d ih=>
  intro k2 i ss hj sU hi hl ht hd
  have hp:k+k2<l.length:=by omega
  have nk:ss.drop (k+k2)=l.drop (k+k2):=by
   have h:=congrArg (List.drop 1) hd
   rw[List.drop_drop,List.drop_drop] at h
   rwa [show k+k2-1+1=k+k2 by omega] at h
  have g1:=WQ hl nk hp
  have g0:=WQ hl hd (show k+k2-1<l.length by omega)
  have x1:(ss.map Ed.enc)[k+k2]? =some (l.getD (k+k2) default).enc:=by rw[Cu (by omega),g1]
  have x0:(ss.map Ed.enc)[k+(k2-1)]? =some (l.getD (k+k2-1) default).enc:=by rw[show k+(k2-1)=k+k2-1 by omega,Cu (by omega),g0]
  have w1:IntKind.wrap .i64 ((k2:Int)-1)=((k2-1:Nat):Int):=by rw[wrap64 (by omega) (by omega)];omega
  have t1:((k2:Nat):Int)<((l.length-k:Nat):Int):=by omega
  have t2:(0:Int)≤((k2:Nat):Int):=by omega
  have t3:(0:Int)≤((k2-1:Nat):Int):=by omega
  have t4:((k2-1:Nat):Int)<((l.length-k:Nat):Int):=by omega
  have t5:((i:Nat):Int)<(ss.length:Int):=by omega
  have t6:(0:Int)≤((i:Nat):Int):=by omega
  have zR: ∃y,(ss.map Ed.enc)[i]? =some y:=⟨_,Cu (by omega)⟩
  obtain ⟨y,hy⟩:=zR
  have cs:=WS (l:=l) (p:=k+k2) (by omega) hp
  by_cases he:l.getD (k+k2) default=l.getD (k+k2-1) default
  ·have bP:vA CC k (l.length-k) ((i:Int),(k2:Int),ss.map Ed.enc)=some (.inl ((i:Int),((k2+1:Nat):Int),ss.map Ed.enc)):=by
    simp only[vA,yh,un]
    refine bT (decide_eq_true t1) ?_
    refine bT (Bool.and_eq_true_iff.2 ⟨decide_eq_true t2,decide_eq_true t1⟩) ?_
    rw[Int.toNat_natCast]
    refine bs x1 ?_
    rw[w1]
    refine bT (Bool.and_eq_true_iff.2 ⟨decide_eq_true t3,decide_eq_true t4⟩) ?_
    rw[Int.toNat_natCast]
    refine bs x0 ?_
    simp only[Ed.dB,Ed.dC,Ed.dD,Hv]
    rw[decide_eq_true he]
    refine bF rfl ?_
    rw[wrap64 (by omega) (by omega)]
    rfl
   rw[eg bP]
   refine ih (k2+1) i ss (by omega) (by omega) (by omega) hl ?_ (by rw[show k+(k2+1)-1=k+k2 by omega];exact nk)
   rw[show k+(k2+1)=k+k2+1 by omega,cs,if_pos he,List.append_nil,ht]
  ·have bP:vA CC k (l.length-k) ((i:Int),(k2:Int),ss.map Ed.enc)=some (.inl (((i+1:Nat):Int),((k2+1:Nat):Int),(ss.set i (l.getD (k+k2) default)).map Ed.enc)):=by
    simp only[vA,yh,un]
    refine bT (decide_eq_true t1) ?_
    refine bT (Bool.and_eq_true_iff.2 ⟨decide_eq_true t2,decide_eq_true t1⟩) ?_
    rw[Int.toNat_natCast]
    refine bs x1 ?_
    rw[w1]
    refine bT (Bool.and_eq_true_iff.2 ⟨decide_eq_true t3,decide_eq_true t4⟩) ?_
    rw[Int.toNat_natCast]
    refine bs x0 ?_
    simp only[Ed.dB,Ed.dC,Ed.dD,Hv]
    rw[decide_eq_false he]
    refine bT rfl ?_
    refine bT (Bool.and_eq_true_iff.2 ⟨decide_eq_true t2,decide_eq_true t1⟩) ?_
    refine bs x1 ?_
    refine bT (by rw[List.length_map];exact Bool.and_eq_true_iff.2 ⟨decide_eq_true t6,decide_eq_true t5⟩) ?_
    rw[Int.toNat_natCast]
    refine bs hy ?_
    simp only[Ed.dB,Ed.dC,Ed.dD,Ed.re]
    rw[wrap64 (by omega) (by omega),wrap64 (by omega) (by omega),List.map_set]
    rfl
   rw[eg bP]
   refine ih (k2+1) (i+1) (ss.set i (l.getD (k+k2) default)) (by omega) (by omega) (by omega) (by simpa using hl) ?_ ?_
   ·rw[Ny (by rw[List.length_set];omega),List.take_set_of_le (Nat.le_refl i),ht,show k+(k2+1)=k+k2+1 by omega,cs,if_neg he]
    simp[show i<ss.length by omega]
   ·rw[show k+(k2+1)-1=k+k2 by omega,List.drop_set_of_lt (by omega),nk]
theorem ah0: ∀(d p:Nat),p+d=l.length→1≤p→iz (l.take p)=l.take p→
  (iz l=l∧∃t,Loop (vB CC (l.map Ed.enc)) (p:Int)=some (.inr t))∨Loop (vB CC (l.map Ed.enc)) (p:Int)=some (.inl ((iz l).map Ed.enc)):=by
 intro d
 induction d with
 | zero=>
  intro p hp h1 hc
  obtain rfl:p=l.length:=by omega
  rw[List.take_length] at hc
  refine .inl ⟨hc,((l.length:Int),false),ca ?_⟩
  simp only[vB,yi,List.length_map,aE]
  rw[if_neg (by omega),decide_eq_false (by omega)]
 | succ d ih=>
  intro p hp h1 hc
  have fM:p<l.length:=by omega
  have cs:=WS (l:=l) h1 fM
  have x1:(l.map Ed.enc)[p]? =some (l.getD p default).enc:=Cu fM
  have x0:(l.map Ed.enc)[p-1]? =some (l.getD (p-1) default).enc:=Cu (by omega)
  have w1:IntKind.wrap .i64 ((p:Int)-1)=((p-1:Nat):Int):=by rw[wrap64 (by omega) (by omega)];omega
  have t1:((p:Nat):Int)<(l.length:Int):=by omega
  have t2:(0:Int)≤((p:Nat):Int):=by omega
  have t3:(0:Int)≤((p-1:Nat):Int):=by omega
  have t4:((p-1:Nat):Int)<(l.length:Int):=by omega
  have t5:((p:Nat):Int)≤(l.length:Int):=by omega
  by_cases he:l.getD p default=l.getD (p-1) default
  ·refine .inr (ca ?_)
   obtain ⟨t,u,yj,e1,e2,e3⟩:=ahZ hn (k:=p) (l.length-(p+1)) 1 p l (by omega) (by omega) (by omega) rfl (by rw[cs,if_pos he,List.append_nil,hc]) rfl
   have hm:(iz l).length≤yj.length:=by
    have:=congrArg List.length e2
    rw[List.length_take] at this
    omega
   have m1:(0:Int)≤(((iz l).length:Nat):Int):=by omega
   have m2:(((iz l).length:Nat):Int)≤((yj.map Ed.enc).length:Int):=by rw[List.length_map];omega
   simp only[vB,yi,List.length_map]
   refine bT (decide_eq_true t1) ?_
   refine bT (Bool.and_eq_true_iff.2 ⟨decide_eq_true t2,decide_eq_true t1⟩) ?_
   rw[Int.toNat_natCast]
   refine bs x1 ?_
   rw[w1]
   refine bT (Bool.and_eq_true_iff.2 ⟨decide_eq_true t3,decide_eq_true t4⟩) ?_
   rw[Int.toNat_natCast]
   refine bs x0 ?_
   simp only[Ed.dB,Ed.dC,Ed.dD,Hv]
   rw[decide_eq_true he]
   refine bT rfl ?_
   refine bT (Bool.and_eq_true_iff.2 ⟨decide_eq_true t2,decide_eq_true t5⟩) ?_
   refine (congrArg (fun o=>Option.bind o _) e1).trans ?_
   simp only[Option.bind_some,un,ed,aE,Int.toNat_natCast]
   rw[if_pos m1,if_pos m2,if_pos m1,if_pos (by simp only[List.length_append,List.length_take,List.length_replicate,List.length_drop,List.length_map];omega),ahX _ _ _ hm,e2]
  ·have bP:vB CC (l.map Ed.enc) (p:Int)=some (.inl ((p+1:Nat):Int)):=by
    simp only[vB,yi,List.length_map]
    refine bT (decide_eq_true t1) ?_
    refine bT (Bool.and_eq_true_iff.2 ⟨decide_eq_true t2,decide_eq_true t1⟩) ?_
    rw[Int.toNat_natCast]
    refine bs x1 ?_
    rw[w1]
    refine bT (Bool.and_eq_true_iff.2 ⟨decide_eq_true t3,decide_eq_true t4⟩) ?_
    rw[Int.toNat_natCast]
    refine bs x0 ?_
    simp only[Ed.dB,Ed.dC,Ed.dD,Hv]
    rw[decide_eq_false he]
    refine bF rfl ?_
    rw[wrap64 (by omega) (by omega)]
    rfl
   rw[eg bP]
   exact ih (p+1) (by omega) (by omega) (by rw[cs,if_neg he,hc,←Ny fM])
theorem WV: ∃b,CC Fo [.list ar (l.map Ed.enc)]=some [.bool b,.list ar ((iz l).map Ed.enc)]:=by
 by_cases h2:l.length<2
 ·refine ⟨true,Nx ?_⟩
  unfold Hy
  rw[List.length_map,aE,if_pos (by omega)]
  match l,h2 with
  | [],_=>rfl
  | [k],_=>rfl
 ·rcases ah0 hn (l.length-1) 1 (by omega) (by omega) (by
   match l,h2 with
   | k::l,_=>rfl) with ⟨h3,t,h4⟩|h4
  ·refine ⟨true,Nx ?_⟩
   unfold Hy
   rw[List.length_map,aE,if_neg (by omega)]
   refine (congrArg (fun o=>Option.bind o _) h4).trans ?_
   rw[h3];rfl
  ·refine ⟨false,Nx ?_⟩
   unfold Hy
   rw[List.length_map,aE,if_neg (by omega)]
   refine (congrArg (fun o=>Option.bind o _) h4).trans ?_
   rfl
end
noncomputable def WW (C:ae) (rp rq rr rz rA rB:Int):Option (List V):=
 (C qY [.int .i64 rp,.int .i64 rz]).bind fun r1=>
 (C qY [.int .i64 rq,.int .i64 rA]).bind fun r2=>
 (C qY [.int .i64 rr,.int .i64 rB]).bind fun r3=>
 (C Az [.list aY ([.int .i64 ((V.nth r1 0).toInt),.int .i64 ((V.nth r2 0).toInt),.int .i64 ((V.nth r3 0).toInt)]:List V)]).bind fun r4=>
 some [.int .i64 ((V.nth r4 0).toInt)]
theorem ah1 {rp rq rr rz rA rB:Int} {r:Option (List V)} (h:WW CC rp rq rr rz rA rB=r):CC bj [.int .i64 rp,.int .i64 rq,.int .i64 rr,.int .i64 rz,.int .i64 rA,.int .i64 rB]=r:=
 bh (key:=88) (L:=db) (bs:=[]) (by kernel_rfl) au (Eq.trans (by kernel_rfl) h)
theorem gG (a b:Ed):CC bj [.int .i64 a.f,.int .i64 a.l,.int .i64 a.t,.int .i64 b.f,.int .i64 b.l,.int .i64 b.t]=some [.int .i64 (bR a b)]:=by
 refine ah1 ?_
 unfold WW
 refine bs (xz _ _) ?_
 refine bs (xz _ _) ?_
 refine bs (xz _ _) ?_
 refine bs (TO _ _ _) ?_
 rfl
noncomputable abbrev Hz:Code:=cL Tryd.prog (av.aT 170)
noncomputable def yk (C:ae) (a b' i j:Int) (af:List V) {β:Type} (kn:(Int × (List V))→Option β) (kr:(Int × Bool × (List V))→Option β):Option β:=
 bif decide ((j:Int)>a) then
  bif (decide (0≤j))&&(decide (j<(af.length:Int))) then
  (af[(j:Int).toNat]?).bind fun x1=>
  bif (decide (0≤(IntKind.wrap .i64 (j-1))))&&(decide ((IntKind.wrap .i64 (j-1))<(af.length:Int))) then
   (af[(IntKind.wrap .i64 (j-1):Int).toNat]?).bind fun x2=>
   (C bj [.int .i64 ((x1.cell 0).toInt),.int .i64 ((x1.cell 1).toInt),.int .i64 ((x1.cell 2).toInt),.int .i64 ((x2.cell 0).toInt),.int .i64 ((x2.cell 1).toInt),.int .i64 ((x2.cell 2).toInt)]).bind fun r3=>
   bif decide ((((V.nth r3 0).toInt):Int)<0) then
   bif (decide (0≤(IntKind.wrap .i64 (j-1))))&&(decide ((IntKind.wrap .i64 (j-1))<(af.length:Int))) then
    (af[(IntKind.wrap .i64 (j-1):Int).toNat]?).bind fun x4=>
    bif (decide (0≤j))&&(decide (j<(af.length:Int))) then
    (af[(j:Int).toNat]?).bind fun x5=>
    bif (decide (0≤j))&&(decide (j<(af.length:Int))) then
     (af[(j:Int).toNat]?).bind fun x6=>
     bif (decide (0≤(IntKind.wrap .i64 (j-1))))&&(decide ((IntKind.wrap .i64 (j-1))<((af.set ((j:Int).toNat) (.agg [.int .i64 ((x4.cell 0).toInt),.int .i64 ((x4.cell 1).toInt),.int .i64 ((x4.cell 2).toInt)])).length:Int))) then
     ((af.set ((j:Int).toNat) (.agg [.int .i64 ((x4.cell 0).toInt),.int .i64 ((x4.cell 1).toInt),.int .i64 ((x4.cell 2).toInt)]))[(IntKind.wrap .i64 (j-1):Int).toNat]?).bind fun x7=>
     kn (IntKind.wrap .i64 (j-1),(af.set ((j:Int).toNat) (.agg [.int .i64 ((x4.cell 0).toInt),.int .i64 ((x4.cell 1).toInt),.int .i64 ((x4.cell 2).toInt)])).set ((IntKind.wrap .i64 (j-1):Int).toNat) (.agg [.int .i64 ((x5.cell 0).toInt),.int .i64 ((x5.cell 1).toInt),.int .i64 ((x5.cell 2).toInt)]))
     else none
    else none
    else none
   else none
   else
   kr (j,decide ((((V.nth r3 0).toInt):Int)<0),af)
  else none
  else none
 else
  kr (j,false,af)
noncomputable def yl (C:ae) (a b' i:Int):(Int × (List V))→Option ((Int × (List V)) ⊕ (Int × Bool × (List V))):=un fun j af=>yk C a b' i j af (fun y=>some (.inl y)) (fun r=>some (.inr r))
noncomputable def Cv (C:ae) (a b' i:Int) (af:List V) {β:Type} (kn:(Int × (List V))→Option β) (kr:(Int × Bool × (List V))→Option β):Option β:=
 bif decide ((i:Int)<b') then
  (Loop (yl C a b' i) (i,af)).bind (un fun (j_8:Int)=>un fun (rF:Bool) (oT:List V)=>
   kn (IntKind.wrap .i64 (i+1),oT))
 else
  kr (i,decide ((i:Int)<b'),af)
noncomputable def HA (C:ae) (a b':Int):(Int × (List V))→Option ((Int × (List V)) ⊕ (Int × Bool × (List V))):=un fun i af=>Cv C a b' i af (fun y=>some (.inl y)) (fun r=>some (.inr r))
noncomputable def WX (C:ae):cy:=fun β n ds k=>
 bif Nat.beq n 65 then bw LX [false,false,false,true,true] [[1,2,3,0,0,0]] (@yk C) ds k else
 bif Nat.beq n 17 then bw LY [false,false,true,true] [[1,2,0,0,0]] (@Cv C) ds k else
 none
abbrev WY (C:ae) (b:cv):Prop:=cw Tryd.prog av C (WX C) 170 (cR Tryd.prog (av.aT 170)) (av.sin 170).aX.length b
theorem ah2 (C:ae):WY C (.loop (aq [1,0,0,1,0,0,1,0,0] Hz)):=
 bC LX [false,false,false,true,true] [[1,2,3,0,0,0]] (@yk C) (by kernel_rfl) (aV (bs:=[]) (by kernel_rfl) au) (fun ds=>by kernel_rfl) (fun i x=>by kernel_rfl) (fun i x β k=>by kernel_rfl) (fun β ds k=>by kernel_rfl)
theorem ah3 (C:ae):WY C (.loop (aq [1,0,0] Hz)):=
 bC LY [false,false,true,true] [[1,2,0,0,0]] (@Cv C) (by kernel_rfl) (aV (bs:=[.loop (aq [1,0,0,1,0,0,1,0,0] Hz)]) (by kernel_rfl) (bf (ah2 C) au)) (fun ds=>by kernel_rfl) (fun i x=>by kernel_rfl) (fun i x β k=>by kernel_rfl) (fun β ds k=>by kernel_rfl)
noncomputable def WZ (C:ae) (a b':Int) (af:List V):Option (List V):=
 (Loop (HA C a b') (IntKind.wrap .i64 (a+1),af)).bind (un fun (alo:Int)=>un fun (BV:Bool) (Nz:List V)=>
  some [.list ar Nz])
theorem ah4 {a b':Int} {af:List V} {r:Option (List V)} (h:WZ CC a b' af=r):CC FF [.int .i64 a,.int .i64 b',.list ar af]=r:=
 bh (key:=170) (L:=WX CC) (bs:=[.loop (aq [1,0,0] Hz)]) (by kernel_rfl) (bf (ah3 CC) au) (Eq.trans (by kernel_rfl) h)
noncomputable abbrev ym:Code:=cL Tryd.prog (av.aT 177)
noncomputable def vC (C:ae) (hi first root child:Int) (t40:Bool) (af:List V) {β:Type} (kr:(Int)→Option β):Option β:=
 bif t40 then
  kr (IntKind.wrap .i64 (child+1))
 else
  kr child
noncomputable def tq (C:ae) (hi first root:Int) (af:List V) {β:Type} (kn:(Int × (List V))→Option β) (kr:((Int × Int × Bool × (List V)) ⊕ (Int × Int × Bool × (List V)))→Option β):Option β:=
 bif decide (((IntKind.wrap .i64 ((IntKind.wrap .i64 (root*2))+1)):Int)≥hi) then
  kr (.inl (root,IntKind.wrap .i64 ((IntKind.wrap .i64 (root*2))+1),decide (((IntKind.wrap .i64 ((IntKind.wrap .i64 (root*2))+1)):Int)≥hi),af))
 else
  bif decide (((IntKind.wrap .i64 ((IntKind.wrap .i64 ((IntKind.wrap .i64 (root*2))+1))+1)):Int)<hi) then
  bif (decide (0≤(IntKind.wrap .i64 (first+(IntKind.wrap .i64 ((IntKind.wrap .i64 (root*2))+1))))))&&(decide ((IntKind.wrap .i64 (first+(IntKind.wrap .i64 ((IntKind.wrap .i64 (root*2))+1))))<(af.length:Int))) then
   (af[(IntKind.wrap .i64 (first+(IntKind.wrap .i64 ((IntKind.wrap .i64 (root*2))+1))):Int).toNat]?).bind fun x1=>
   bif (decide (0≤(IntKind.wrap .i64 ((IntKind.wrap .i64 (first+(IntKind.wrap .i64 ((IntKind.wrap .i64 (root*2))+1))))+1))))&&(decide ((IntKind.wrap .i64 ((IntKind.wrap .i64 (first+(IntKind.wrap .i64 ((IntKind.wrap .i64 (root*2))+1))))+1))<(af.length:Int))) then
   (af[(IntKind.wrap .i64 ((IntKind.wrap .i64 (first+(IntKind.wrap .i64 ((IntKind.wrap .i64 (root*2))+1))))+1):Int).toNat]?).bind fun x2=>
   (C bj [.int .i64 ((x1.cell 0).toInt),.int .i64 ((x1.cell 1).toInt),.int .i64 ((x1.cell 2).toInt),.int .i64 ((x2.cell 0).toInt),.int .i64 ((x2.cell 1).toInt),.int .i64 ((x2.cell 2).toInt)]).bind fun r3=>
   vC C hi first root (IntKind.wrap .i64 ((IntKind.wrap .i64 (root*2))+1)) (decide ((((V.nth r3 0).toInt):Int)<0)) af (fun (nT:Int)=>
    bif (decide (0≤(IntKind.wrap .i64 (first+root))))&&(decide ((IntKind.wrap .i64 (first+root))<(af.length:Int))) then
     (af[(IntKind.wrap .i64 (first+root):Int).toNat]?).bind fun x5=>
     bif (decide (0≤(IntKind.wrap .i64 (first+nT))))&&(decide ((IntKind.wrap .i64 (first+nT))<(af.length:Int))) then
     (af[(IntKind.wrap .i64 (first+nT):Int).toNat]?).bind fun x6=>
     (C bj [.int .i64 ((x5.cell 0).toInt),.int .i64 ((x5.cell 1).toInt),.int .i64 ((x5.cell 2).toInt),.int .i64 ((x6.cell 0).toInt),.int .i64 ((x6.cell 1).toInt),.int .i64 ((x6.cell 2).toInt)]).bind fun r7=>
     bif !(decide ((((V.nth r7 0).toInt):Int)<0)) then
      kr (.inr (root,nT,!(decide ((((V.nth r7 0).toInt):Int)<0)),af))
     else
      bif (decide (0≤(IntKind.wrap .i64 (first+nT))))&&(decide ((IntKind.wrap .i64 (first+nT))<(af.length:Int))) then
      (af[(IntKind.wrap .i64 (first+nT):Int).toNat]?).bind fun x8=>
      bif (decide (0≤(IntKind.wrap .i64 (first+root))))&&(decide ((IntKind.wrap .i64 (first+root))<(af.length:Int))) then
       (af[(IntKind.wrap .i64 (first+root):Int).toNat]?).bind fun x9=>
       bif (decide (0≤(IntKind.wrap .i64 (first+root))))&&(decide ((IntKind.wrap .i64 (first+root))<(af.length:Int))) then
       (af[(IntKind.wrap .i64 (first+root):Int).toNat]?).bind fun gU=>
       bif (decide (0≤(IntKind.wrap .i64 (first+nT))))&&(decide ((IntKind.wrap .i64 (first+nT))<((af.set ((IntKind.wrap .i64 (first+root):Int).toNat) (.agg [.int .i64 ((x8.cell 0).toInt),.int .i64 ((x8.cell 1).toInt),.int .i64 ((x8.cell 2).toInt)])).length:Int))) then
        ((af.set ((IntKind.wrap .i64 (first+root):Int).toNat) (.agg [.int .i64 ((x8.cell 0).toInt),.int .i64 ((x8.cell 1).toInt),.int .i64 ((x8.cell 2).toInt)]))[(IntKind.wrap .i64 (first+nT):Int).toNat]?).bind fun fh=>
        kn (nT,(af.set ((IntKind.wrap .i64 (first+root):Int).toNat) (.agg [.int .i64 ((x8.cell 0).toInt),.int .i64 ((x8.cell 1).toInt),.int .i64 ((x8.cell 2).toInt)])).set ((IntKind.wrap .i64 (first+nT):Int).toNat) (.agg [.int .i64 ((x9.cell 0).toInt),.int .i64 ((x9.cell 1).toInt),.int .i64 ((x9.cell 2).toInt)]))
       else none
       else none
      else none
      else none
     else none
    else none)
   else none
  else none
  else
  vC C hi first root (IntKind.wrap .i64 ((IntKind.wrap .i64 (root*2))+1)) false af (fun (nU:Int)=>
   bif (decide (0≤(IntKind.wrap .i64 (first+root))))&&(decide ((IntKind.wrap .i64 (first+root))<(af.length:Int))) then
    (af[(IntKind.wrap .i64 (first+root):Int).toNat]?).bind fun gW=>
    bif (decide (0≤(IntKind.wrap .i64 (first+nU))))&&(decide ((IntKind.wrap .i64 (first+nU))<(af.length:Int))) then
    (af[(IntKind.wrap .i64 (first+nU):Int).toNat]?).bind fun lY=>
    (C bj [.int .i64 ((gW.cell 0).toInt),.int .i64 ((gW.cell 1).toInt),.int .i64 ((gW.cell 2).toInt),.int .i64 ((lY.cell 0).toInt),.int .i64 ((lY.cell 1).toInt),.int .i64 ((lY.cell 2).toInt)]).bind fun eH=>
    bif !(decide ((((V.nth eH 0).toInt):Int)<0)) then
     kr (.inr (root,nU,!(decide ((((V.nth eH 0).toInt):Int)<0)),af))
    else
     bif (decide (0≤(IntKind.wrap .i64 (first+nU))))&&(decide ((IntKind.wrap .i64 (first+nU))<(af.length:Int))) then
     (af[(IntKind.wrap .i64 (first+nU):Int).toNat]?).bind fun gH=>
     bif (decide (0≤(IntKind.wrap .i64 (first+root))))&&(decide ((IntKind.wrap .i64 (first+root))<(af.length:Int))) then
      (af[(IntKind.wrap .i64 (first+root):Int).toNat]?).bind fun pW=>
      bif (decide (0≤(IntKind.wrap .i64 (first+root))))&&(decide ((IntKind.wrap .i64 (first+root))<(af.length:Int))) then
      (af[(IntKind.wrap .i64 (first+root):Int).toNat]?).bind fun xV=>
      bif (decide (0≤(IntKind.wrap .i64 (first+nU))))&&(decide ((IntKind.wrap .i64 (first+nU))<((af.set ((IntKind.wrap .i64 (first+root):Int).toNat) (.agg [.int .i64 ((gH.cell 0).toInt),.int .i64 ((gH.cell 1).toInt),.int .i64 ((gH.cell 2).toInt)])).length:Int))) then
       ((af.set ((IntKind.wrap .i64 (first+root):Int).toNat) (.agg [.int .i64 ((gH.cell 0).toInt),.int .i64 ((gH.cell 1).toInt),.int .i64 ((gH.cell 2).toInt)]))[(IntKind.wrap .i64 (first+nU):Int).toNat]?).bind fun lK=>
       kn (nU,(af.set ((IntKind.wrap .i64 (first+root):Int).toNat) (.agg [.int .i64 ((gH.cell 0).toInt),.int .i64 ((gH.cell 1).toInt),.int .i64 ((gH.cell 2).toInt)])).set ((IntKind.wrap .i64 (first+nU):Int).toNat) (.agg [.int .i64 ((pW.cell 0).toInt),.int .i64 ((pW.cell 1).toInt),.int .i64 ((pW.cell 2).toInt)]))
      else none
      else none
     else none
     else none
    else none
   else none)
noncomputable def oU (C:ae) (hi first:Int):(Int × (List V))→Option ((Int × (List V)) ⊕ ((Int × Int × Bool × (List V)) ⊕ (Int × Int × Bool × (List V)))):=un fun root af=>tq C hi first root af (fun y=>some (.inl y)) (fun r=>some (.inr r))
noncomputable def W0 (C:ae):cy:=fun β n ds k=>
 bif Nat.beq n 655 then mH L8 [[1,2,3,0,6]] (@vC C) ds k else
 bif Nat.beq n 17 then bw L9 [false,false,true,true] [[1,2,0,0,0,0],[1,2,0,0,0,0]] (@tq C) ds k else
 none
abbrev W3 (C:ae) (b:cv):Prop:=cw Tryd.prog av C (W0 C) 177 (cR Tryd.prog (av.aT 177)) (av.sin 177).aX.length b
theorem ah5 (C:ae):W3 C (.cond 40 (aq [1,0,0,0,1,1,0,1,0] ym) (aq [1,0,0,0,1,1,0,1,1] ym)):=
 nA L8 [[1,2,3,0,6]] (@vC C) (by kernel_rfl) (aV (bs:=[]) (by kernel_rfl) au) (aV (bs:=[]) (by kernel_rfl) au) (fun ds=>by kernel_rfl) (fun i β k=>by kernel_rfl) (fun β ds k=>by kernel_rfl)
theorem ah6 (C:ae):W3 C (.loop (aq [1,0,0] ym)):=
 bC L9 [false,false,true,true] [[1,2,0,0,0,0],[1,2,0,0,0,0]] (@tq C) (by kernel_rfl) (aV (bs:=[.cond 40 (aq [1,0,0,0,1,1,0,1,0] ym) (aq [1,0,0,0,1,1,0,1,1] ym)]) (by kernel_rfl) (bf (ah5 C) au)) (fun ds=>by kernel_rfl) (fun i x=>by kernel_rfl) (fun i x β k=>by kernel_rfl) (fun β ds k=>by kernel_rfl)
noncomputable def W4 (C:ae) (lo hi first:Int) (af:List V):Option (List V):=
 (Loop (oU C hi first) (lo,af)).bind (dA (un fun (alp:Int)=>un fun (alq:Int)=>un fun (afE:Bool) (ah7:List V)=>
  some [.list ar ah7]) (un fun (alr:Int)=>un fun (als:Int)=>un fun (agM:Bool) (rQ:List V)=>
  some [.list ar rQ]))
theorem ah8 {lo hi first:Int} {af:List V} {r:Option (List V)} (h:W4 CC lo hi first af=r):CC FJ [.int .i64 lo,.int .i64 hi,.int .i64 first,.list ar af]=r:=
 bh (key:=177) (L:=W0 CC) (bs:=[.loop (aq [1,0,0] ym)]) (by kernel_rfl) (bf (ah6 CC) au) (Eq.trans (by kernel_rfl) h)
noncomputable abbrev HB:Code:=cL Tryd.prog (av.aT 171)
noncomputable def Cw (C:ae) (first lo hi i:Int) (af:List V) {β:Type} (kn:(Int × (List V))→Option β) (kr:(Int × Bool × (List V))→Option β):Option β:=
 bif decide ((i:Int)≥0) then
  (C FJ [.int .i64 i,.int .i64 hi,.int .i64 first,.list ar af]).bind fun r1=>
  kn (IntKind.wrap .i64 (i-1),(V.nth r1 0).toList)
 else
  kr (i,decide ((i:Int)≥0),af)
noncomputable def HC (C:ae) (first lo hi:Int):(Int × (List V))→Option ((Int × (List V)) ⊕ (Int × Bool × (List V))):=un fun i af=>Cw C first lo hi i af (fun y=>some (.inl y)) (fun r=>some (.inr r))
noncomputable def Cx (C:ae) (first lo i:Int) (af:List V) {β:Type} (kn:(Int × (List V))→Option β) (kr:(Int × Bool × (List V))→Option β):Option β:=
 bif decide ((i:Int)≥0) then
  bif (decide (0≤(IntKind.wrap .i64 (first+i))))&&(decide ((IntKind.wrap .i64 (first+i))<(af.length:Int))) then
  (af[(IntKind.wrap .i64 (first+i):Int).toNat]?).bind fun x5=>
  bif (decide (0≤first))&&(decide (first<(af.length:Int))) then
   (af[(first:Int).toNat]?).bind fun x6=>
   bif (decide (0≤first))&&(decide (first<(af.length:Int))) then
   (af[(first:Int).toNat]?).bind fun x7=>
   bif (decide (0≤(IntKind.wrap .i64 (first+i))))&&(decide ((IntKind.wrap .i64 (first+i))<((af.set ((first:Int).toNat) (.agg [.int .i64 ((x5.cell 0).toInt),.int .i64 ((x5.cell 1).toInt),.int .i64 ((x5.cell 2).toInt)])).length:Int))) then
    ((af.set ((first:Int).toNat) (.agg [.int .i64 ((x5.cell 0).toInt),.int .i64 ((x5.cell 1).toInt),.int .i64 ((x5.cell 2).toInt)]))[(IntKind.wrap .i64 (first+i):Int).toNat]?).bind fun x8=>
    (C FJ [.int .i64 lo,.int .i64 i,.int .i64 first,.list ar ((af.set ((first:Int).toNat) (.agg [.int .i64 ((x5.cell 0).toInt),.int .i64 ((x5.cell 1).toInt),.int .i64 ((x5.cell 2).toInt)])).set ((IntKind.wrap .i64 (first+i):Int).toNat) (.agg [.int .i64 ((x6.cell 0).toInt),.int .i64 ((x6.cell 1).toInt),.int .i64 ((x6.cell 2).toInt)]))]).bind fun r9=>
    kn (IntKind.wrap .i64 (i-1),(V.nth r9 0).toList)
   else none
   else none
  else none
  else none
 else
  kr (i,decide ((i:Int)≥0),af)
noncomputable def HD (C:ae) (first lo:Int):(Int × (List V))→Option ((Int × (List V)) ⊕ (Int × Bool × (List V))):=un fun i af=>Cx C first lo i af (fun y=>some (.inl y)) (fun r=>some (.inr r))
noncomputable def W5 (C:ae):cy:=fun β n ds k=>
 bif Nat.beq n 65 then bw LZ [false,false,false,true,true] [[1,2,3,0,0,0]] (@Cw C) ds k else
 bif Nat.beq n 129 then bw L0 [false,false,true,true] [[1,2,0,0,0]] (@Cx C) ds k else
 none
abbrev W6 (C:ae) (b:cv):Prop:=cw Tryd.prog av C (W5 C) 171 (cR Tryd.prog (av.aT 171)) (av.sin 171).aX.length b
theorem ah9 (C:ae):W6 C (.loop (aq [1,1,1,0,1,0,0] HB)):=
 bC LZ [false,false,false,true,true] [[1,2,3,0,0,0]] (@Cw C) (by kernel_rfl) (aV (bs:=[]) (by kernel_rfl) au) (fun ds=>by kernel_rfl) (fun i x=>by kernel_rfl) (fun i x β k=>by kernel_rfl) (fun β ds k=>by kernel_rfl)
theorem aia (C:ae):W6 C (.loop (aq [1,1,1,1,1,0,0] HB)):=
 bC L0 [false,false,true,true] [[1,2,0,0,0]] (@Cx C) (by kernel_rfl) (aV (bs:=[]) (by kernel_rfl) au) (fun ds=>by kernel_rfl) (fun i x=>by kernel_rfl) (fun i x β k=>by kernel_rfl) (fun β ds k=>by kernel_rfl)
noncomputable def W7 (C:ae) (a b':Int) (af:List V):Option (List V):=
 (Loop (HC C a 0 (IntKind.wrap .i64 (b'-a))) (IntKind.wrap .i64 (Int.tdiv (IntKind.wrap .i64 ((IntKind.wrap .i64 (b'-a))-1)) 2),af)).bind (un fun (i_2:Int)=>un fun (kh:Bool) (aib:List V)=>
  (Loop (HD C a 0) (IntKind.wrap .i64 ((IntKind.wrap .i64 (b'-a))-1),aib)).bind (un fun (alu:Int)=>un fun (Wr:Bool) (mX:List V)=>
   some [.list ar mX]))
theorem aic {a b':Int} {af:List V} {r:Option (List V)} (h:W7 CC a b' af=r):CC FG [.int .i64 a,.int .i64 b',.list ar af]=r:=
 bh (key:=171) (L:=W5 CC) (bs:=[.loop (aq [1,1,1,0,1,0,0] HB),.loop (aq [1,1,1,1,1,0,0] HB)]) (by kernel_rfl) (bf (ah9 CC) (bf (aia CC) au)) (Eq.trans (by kernel_rfl) h)
noncomputable abbrev W8:Code:=cL Tryd.prog (av.aT 179)
noncomputable def yn (C:ae) (i j:Int) (af:List V) {β:Type} (kn:(Int × Int × (List V))→Option β) (kr:(Int × Int × Bool × (List V))→Option β):Option β:=
 bif decide ((i:Int)<j) then
  bif (decide (0≤j))&&(decide (j<(af.length:Int))) then
  (af[(j:Int).toNat]?).bind fun x1=>
  bif (decide (0≤i))&&(decide (i<(af.length:Int))) then
   (af[(i:Int).toNat]?).bind fun x2=>
   bif (decide (0≤i))&&(decide (i<(af.length:Int))) then
   (af[(i:Int).toNat]?).bind fun x3=>
   bif (decide (0≤j))&&(decide (j<((af.set ((i:Int).toNat) (.agg [.int .i64 ((x1.cell 0).toInt),.int .i64 ((x1.cell 1).toInt),.int .i64 ((x1.cell 2).toInt)])).length:Int))) then
    ((af.set ((i:Int).toNat) (.agg [.int .i64 ((x1.cell 0).toInt),.int .i64 ((x1.cell 1).toInt),.int .i64 ((x1.cell 2).toInt)]))[(j:Int).toNat]?).bind fun x4=>
    kn (IntKind.wrap .i64 (i+1),IntKind.wrap .i64 (j-1),(af.set ((i:Int).toNat) (.agg [.int .i64 ((x1.cell 0).toInt),.int .i64 ((x1.cell 1).toInt),.int .i64 ((x1.cell 2).toInt)])).set ((j:Int).toNat) (.agg [.int .i64 ((x2.cell 0).toInt),.int .i64 ((x2.cell 1).toInt),.int .i64 ((x2.cell 2).toInt)]))
   else none
   else none
  else none
  else none
 else
  kr (i,j,decide ((i:Int)<j),af)
noncomputable def Cy (C:ae):(Int × Int × (List V))→Option ((Int × Int × (List V)) ⊕ (Int × Int × Bool × (List V))):=un fun i=>un fun j af=>yn C i j af (fun y=>some (.inl y)) (fun r=>some (.inr r))
noncomputable def W9 (C:ae):cy:=fun β n ds k=>
 bif Nat.beq n 33 then bw Ma [true,true,true] [[0,0,0,0]] (@yn C) ds k else
 none
abbrev aid (C:ae) (b:cv):Prop:=cw Tryd.prog av C (W9 C) 179 (cR Tryd.prog (av.aT 179)) (av.sin 179).aX.length b
theorem aie (C:ae):aid C (.loop (aq [1,1,0,0] W8)):=
 bC Ma [true,true,true] [[0,0,0,0]] (@yn C) (by kernel_rfl) (aV (bs:=[]) (by kernel_rfl) au) (fun ds=>by kernel_rfl) (fun i x=>by kernel_rfl) (fun i x β k=>by kernel_rfl) (fun β ds k=>by kernel_rfl)
noncomputable def Xa (C:ae) (a b':Int) (af:List V):Option (List V):=
 (Loop (Cy C) (a,IntKind.wrap .i64 (b'-1),af)).bind (un fun (i_5:Int)=>un fun (j_6:Int)=>un fun (nF:Bool) (aif:List V)=>
  some [.list ar aif])
theorem aih {a b':Int} {af:List V} {r:Option (List V)} (h:Xa CC a b' af=r):CC KA [.int .i64 a,.int .i64 b',.list ar af]=r:=
 bh (key:=179) (L:=W9 CC) (bs:=[.loop (aq [1,1,0,0] W8)]) (by kernel_rfl) (bf (aie CC) au) (Eq.trans (by kernel_rfl) h)
end Go.AM
set_option maxRecDepth 100000
set_option maxHeartbeats 4000000
namespace Go.AM.SL
open Go.AM Go.Proofs Go.Sort
def ax (a b:Ed):Bool:=decide (bR a b<0)
theorem tt (a b:Ed):(ax a b=true)=(bR a b<0):=by unfold ax;rw[decide_eq_true_eq]
theorem rR (a b:Ed):((!ax a b)=true)= ¬(bR a b<0):=by unfold ax;simp
abbrev eA (d:Array Ed):List V:=p5 Ed.enc d
theorem aii (a j:Nat) (d:Array Ed):insInner ax a (j+1) d=if j+1>a then (if bR d[j+1]! d[j]! <0 then insInner ax a j (swp d (j+1) j) else d) else d:=by
 rw[WG]
 by_cases h1:j+1>a
 ·rw[if_pos h1];simp only[h1,decide_true,Bool.true_and,tt]
 ·rw[if_neg h1,if_neg (by simp[h1])]
theorem NA (hi first root:Nat) (d:Array Ed):siftDown ax hi first root d=
  if 2*root+1≥hi then d else
   if 2*root+2<hi then
    (if bR d[first+(2*root+1)]! d[first+(2*root+2)]! <0 then
     (if bR d[first+root]! d[first+(2*root+2)]! <0 then siftDown ax hi first (2*root+2) (swp d (first+root) (first+(2*root+2))) else d)
    else (if bR d[first+root]! d[first+(2*root+1)]! <0 then siftDown ax hi first (2*root+1) (swp d (first+root) (first+(2*root+1))) else d))
   else (if bR d[first+root]! d[first+(2*root+1)]! <0 then siftDown ax hi first (2*root+1) (swp d (first+root) (first+(2*root+1))) else d):=by
 rw[siftDown]
 by_cases h1:2*root+1≥hi
 ·rw[dif_pos h1,if_pos h1]
 rw[dif_neg h1,if_neg h1]
 by_cases h2:2*root+2<hi
 ·rw[if_pos h2]
  by_cases h3:bR d[first+(2*root+1)]! d[first+(2*root+2)]! <0
  ·rw[if_pos h3,if_pos (by simp only[Bool.and_eq_true,decide_eq_true_eq,tt];exact ⟨h2,h3⟩)]
   simp only[rR]
   by_cases h4:bR d[first+root]! d[first+(2*root+2)]! <0
   ·rw[if_neg (not_not_intro h4),dif_pos h2,if_pos h4]
   ·rw[if_pos h4,if_neg h4]
  ·rw[if_neg h3,if_neg (by simp only[Bool.and_eq_true,decide_eq_true_eq,tt];exact fun h=>h3 h.2)]
   simp only[rR]
   by_cases h4:bR d[first+root]! d[first+(2*root+1)]! <0
   ·rw[if_neg (not_not_intro h4),if_pos h4]
   ·rw[if_pos h4,if_neg h4]
 ·rw[if_neg h2,if_neg (by simp only[Bool.and_eq_true,decide_eq_true_eq,tt];exact fun h=>h2 h.1)]
  simp only[rR]
  by_cases h4:bR d[first+root]! d[first+(2*root+1)]! <0
  ·rw[if_neg (not_not_intro h4),if_pos h4]
  ·rw[if_pos h4,if_neg h4]
theorem Xb {a b i:Nat}: ∀(j:Nat) (d:Array Ed),j<d.size→d.size<1152921504606846976→
  ∃j' t,Loop (yl CC a b i) ((j:Int),eA d)=some (j',t,eA (insInner ax a j d))
 | 0,d,hj,hs=>⟨(0:Nat),false,ca (by
   simp (disch:=omega) only[yl,yk,un,aE,if_neg]
   rfl)⟩
 | j+1,d,hj,hs=>by
  obtain ⟨j',t,ih⟩:=Xb (a:=a) (b:=b) (i:=i) j (swp d (j+1) j) (by rw[size_swp];omega) (by rw[size_swp];omega)
  rw[aii]
  by_cases h1:j+1>a
  ·rw[if_pos h1]
   have e:yl CC a b i (((j+1:Nat):Int),eA d)=if bR d[j+1]! d[j]! <0 then some (.inl ((j:Int),eA (swp d (j+1) j))) else some (.inr (((j+1:Nat):Int),decide (bR d[j+1]! d[j]! <0),eA d)):=by
    simp (disch:=omega) only[yl,yk,un,aE,ed,gS,if_pos,if_neg,wrap64,dV,gk,Int.toNat_natCast,Option.bind_some,gh,gj,Ed.dB,Ed.dC,Ed.dD,Ed.re,gi,iy,Array.size_setIfInBounds,gG,V.cu,V.toInt_int,cond_true,cond_false,vy]
    rfl
   by_cases h2:bR d[j+1]! d[j]! <0
   ·rw[if_pos h2] at e⊢
    exact ⟨j',t,(eg e).trans ih⟩
   ·rw[if_neg h2] at e⊢
    exact ⟨_,_,ca e⟩
  ·rw[if_neg h1]
   exact ⟨((j+1:Nat):Int),false,ca (by
    simp (disch:=omega) only[yl,yk,un,aE,if_neg])⟩
theorem aij {a b:Nat}: ∀(n i:Nat) (d:Array Ed),b-i=n→b≤d.size→d.size<1152921504606846976→
  ∃j' t,Loop (HA CC a b) ((i:Int),eA d)=some (j',t,eA (insOuter ax a b i d)):=by
 intro n
 induction n with
 | zero=>
  intro i d hn hb hs
  rw[insOuter,if_neg (by omega)]
  exact ⟨(i:Int),false,ca (by
   simp (disch:=omega) only[HA,Cv,un,tn,cond_false])⟩
 | succ n ih=>
  intro i d hn hb hs
  obtain ⟨j1,t1,h1⟩:=Xb (a:=a) (b:=b) (i:=i) i d (by omega) hs
  obtain ⟨j',t,h2⟩:=ih (i+1) (insInner ax a i d) (by omega) (by rw[Ns];omega) (by rw[Ns];omega)
  rw[insOuter,if_pos (by omega)]
  refine ⟨j',t,(eg ?_).trans h2⟩
  simp (disch:=omega) only[HA,Cv,un,aE,if_pos,h1,Option.bind_some,dV,wrap64]
theorem Xc {a b:Nat} {d:Array Ed} (hb:b≤d.size) (hs:d.size<1152921504606846976) (ha:a<1152921504606846976):
  CC FF [.int .i64 (a:Int),.int .i64 (b:Int),.list ar (eA d)]=some [.list ar (eA (insertionSort ax d a b))]:=by
 refine ah4 ?_
 unfold WZ
 obtain ⟨j',t,h⟩:=aij (a:=a) (b:=b) _ (a+1) d rfl hb hs
 simp (disch:=omega) only[dV,wrap64]
 rw[h]
 rfl
theorem aik (hi first:Nat): ∀(n root:Nat) (d:Array Ed),hi-root≤n→root<1152921504606846976→first+hi≤d.size→d.size<1152921504606846976→
  (∃x y z,Loop (oU CC hi first) ((root:Int),eA d)=some (.inl (x,y,z,eA (siftDown ax hi first root d))))∨
  (∃x y z,Loop (oU CC hi first) ((root:Int),eA d)=some (.inr (x,y,z,eA (siftDown ax hi first root d)))):=by
 intro n
 induction n with
 | zero=>
  intro root d hn hr hb hs
  rw[NA,if_pos (by omega)]
  exact .inl ⟨(root:Int),((root*2+1:Nat):Int),true,ca (by
   simp (disch:=omega) only[oU,tq,un,Cr,dV,wrap64];rw[nP (by omega)];rfl)⟩
 | succ n ih=>
  intro root d hn hr hb hs
  by_cases h1:2*root+1≥hi
  ·rw[NA,if_pos h1]
   exact .inl ⟨(root:Int),((root*2+1:Nat):Int),true,ca (by
    simp (disch:=omega) only[oU,tq,un,Cr,dV,wrap64];rw[nP (by omega)];rfl)⟩
  ·have go: ∀c:Nat,c<hi→root<c→(oU CC hi first ((root:Int),eA d)=
      if bR d[first+root]! d[first+c]! <0 then some (.inl ((c:Int),eA (swp d (first+root) (first+c)))) else some (.inr (.inr ((root:Int),(c:Int),true,eA d))))→
     siftDown ax hi first root d=(if bR d[first+root]! d[first+c]! <0 then siftDown ax hi first c (swp d (first+root) (first+c)) else d)→
     ((∃x y z,Loop (oU CC hi first) ((root:Int),eA d)=some (.inl (x,y,z,eA (siftDown ax hi first root d))))∨
     (∃x y z,Loop (oU CC hi first) ((root:Int),eA d)=some (.inr (x,y,z,eA (siftDown ax hi first root d))))):=by
    intro c hc hrc e1 e2
    rw[e2]
    by_cases h3:bR d[first+root]! d[first+c]! <0
    ·rw[if_pos h3] at e1
     rw[if_pos h3,eg e1]
     exact ih c _ (by omega) (by omega) (by rw[size_swp];omega) (by rw[size_swp];omega)
    ·rw[if_neg h3] at e1
     rw[if_neg h3,ca e1]
     exact .inr ⟨_,_,_,rfl⟩
   have e0:=NA hi first root d
   rw[if_neg h1] at e0
   by_cases h2:2*root+2<hi
   ·rw[if_pos h2] at e0
    by_cases h3:bR d[first+(2*root+1)]! d[first+(2*root+2)]! <0
    ·rw[if_pos h3] at e0
     refine go (2*root+2) (by omega) (by omega) ?_ e0
     rw[Nat.mul_comm 2 root] at h3
     simp (disch:=omega) only[oU,tq,un,Cr,dV,gk,wrap64]
     rw[aE,if_neg (by omega),aE,if_pos (by omega)]
     simp (disch:=omega) only[vC,aE,ed,gS,if_pos,if_neg,wrap64,dV,gk,Int.toNat_natCast,Option.bind_some,gh,gj,Ed.dB,Ed.dC,Ed.dD,Ed.re,gi,iy,Array.size_setIfInBounds,gG,V.cu,V.toInt_int,cond_true,cond_false,Nat.mul_comm 2 root,nP]
     by_cases h4:bR d[first+root]! d[first+(root*2+2)]! <0
     ·simp only[h4,if_true];rfl
     ·simp only[h4,if_false];rfl
    ·rw[if_neg h3] at e0
     refine go (2*root+1) (by omega) (by omega) ?_ e0
     rw[Nat.mul_comm 2 root] at h3
     simp (disch:=omega) only[oU,tq,un,Cr,dV,gk,wrap64]
     rw[aE,if_neg (by omega),aE,if_pos (by omega)]
     simp (disch:=omega) only[vC,aE,ed,gS,if_pos,if_neg,wrap64,dV,gk,Int.toNat_natCast,Option.bind_some,gh,gj,Ed.dB,Ed.dC,Ed.dD,Ed.re,gi,iy,Array.size_setIfInBounds,gG,V.cu,V.toInt_int,cond_true,cond_false,Nat.mul_comm 2 root,tn]
     by_cases h4:bR d[first+root]! d[first+(root*2+1)]! <0
     ·simp only[h4,if_true];rfl
     ·simp only[h4,if_false];rfl
   ·rw[if_neg h2] at e0
    refine go (2*root+1) (by omega) (by omega) ?_ e0
    simp (disch:=omega) only[oU,tq,un,Cr,dV,gk,wrap64]
    rw[aE,if_neg (by omega),aE,if_neg (by omega)]
    simp (disch:=omega) only[vC,aE,ed,gS,if_pos,if_neg,wrap64,dV,gk,Int.toNat_natCast,Option.bind_some,gh,gj,Ed.dB,Ed.dC,Ed.dD,Ed.re,gi,iy,Array.size_setIfInBounds,gG,V.cu,V.toInt_int,cond_true,cond_false,Nat.mul_comm 2 root]
    by_cases h4:bR d[first+root]! d[first+(root*2+1)]! <0
    ·simp only[h4,if_true];rfl
    ·simp only[h4,if_false];rfl
theorem Xd {lo hi first:Nat} {d:Array Ed} (hl:lo<1152921504606846976) (hb:first+hi≤d.size) (hs:d.size<1152921504606846976):
  CC FJ [.int .i64 (lo:Int),.int .i64 (hi:Int),.int .i64 (first:Int),.list ar (eA d)]=some [.list ar (eA (siftDown ax hi first lo d))]:=by
 refine ah8 ?_
 unfold W4
 rcases aik hi first _ lo d (Nat.le_refl _) hl hb hs with ⟨x,y,z,h⟩|⟨x,y,z,h⟩
 ·rw[h];rfl
 ·rw[h];rfl
theorem Xe {hi first:Nat}: ∀(k:Nat) (d:Array Ed),k<1152921504606846976→first+hi≤d.size→d.size<1152921504606846976→
  ∃x y,Loop (HC CC first 0 hi) ((k:Int)-1,eA d)=some (x,y,eA (heapBuild ax hi first k d))
 | 0,d,hk,hb,hs=>⟨-1,false,ca (by
   simp (disch:=omega) only[HC,Cw,un,aE,if_neg]
   rfl)⟩
 | k+1,d,hk,hb,hs=>by
  obtain ⟨x,y,ih⟩:=Xe (hi:=hi) (first:=first) k (siftDown ax hi first k d) (by omega) (by rw[Cs _ _ _ _ _ (Nat.le_refl _)];omega) (by rw[Cs _ _ _ _ _ (Nat.le_refl _)];omega)
  refine ⟨x,y,(eg ?_).trans ih⟩
  simp (disch:=omega) only[HC,Cw,un,aE,if_pos,vy,Xd,Option.bind_some,V.cu,V.pD,wrap64]
theorem Xf {first:Nat}: ∀(k:Nat) (d:Array Ed),k<1152921504606846976→first+k≤d.size→d.size<1152921504606846976→
  ∃x y,Loop (HD CC first 0) ((k:Int)-1,eA d)=some (x,y,eA (heapPop ax first k d))
 | 0,d,hk,hb,hs=>⟨-1,false,ca (by
   simp (disch:=omega) only[HD,Cx,un,aE,if_neg]
   rfl)⟩
 | k+1,d,hk,hb,hs=>by
  obtain ⟨x,y,ih⟩:=Xf (first:=first) k (siftDown ax k first 0 (swp d first (first+k))) (by omega) (by rw[Cs _ _ _ _ _ (Nat.le_refl _),size_swp];omega) (by rw[Cs _ _ _ _ _ (Nat.le_refl _),size_swp];omega)
  refine ⟨x,y,(eg ?_).trans ih⟩
  have kL:=Xd (lo:=0) (hi:=k) (first:=first) (d:=swp d first (first+k)) (by omega) (by rw[size_swp];omega) (by rw[size_swp];omega)
  unfold swp at kL⊢
  rw[show ((0:Nat):Int)=0 from rfl] at kL
  simp (disch:=omega) only[HD,Cx,un,vy,aE,ed,gS,if_pos,if_neg,wrap64,dV,gk,Int.toNat_natCast,Option.bind_some,gh,gj,Ed.dB,Ed.dC,Ed.dD,Ed.re,gi,iy,Array.size_setIfInBounds,gG,V.cu,V.toInt_int,cond_true,cond_false]
  rw[kL]
  simp (disch:=omega) only[Option.bind_some,V.cu,V.pD,wrap64]
theorem ail {a b:Nat} {d:Array Ed} (fZ:a<b) (hb:b≤d.size) (hs:d.size<1152921504606846976):
  CC FG [.int .i64 (a:Int),.int .i64 (b:Int),.list ar (eA d)]=some [.list ar (eA (heapSort ax d a b))]:=by
 refine aic ?_
 unfold W7
 obtain ⟨x,y,h1⟩:=Xe (hi:=b-a) (first:=a) ((b-a-1)/2+1) d (by omega) (by omega) hs
 obtain ⟨x2,y2,h2⟩:=Xf (first:=a) (b-a) (heapBuild ax (b-a) a ((b-a-1)/2+1) d) (by omega) (by rw[Nt];omega) (by rw[Nt];omega)
 have e1:((((b-a-1)/2+1:Nat):Int)-1)=Int.tdiv (((b-a:Nat):Int)-1) 2:=by
  rw[Int.tdiv_eq_ediv_of_nonneg (by omega)]
  omega
 rw[e1] at h1
 simp (disch:=omega) only[mV,wrap64]
 rw[h1]
 simp only[Option.bind_some,un]
 rw[h2]
 rfl
theorem aim: ∀(n i j:Nat) (d:Array Ed),j-i≤n→j<d.size→d.size<1152921504606846976→
  ∃x y z,Loop (Cy CC) ((i:Int),(j:Int),eA d)=some (x,y,z,eA (reverseLoop i j d)):=by
 intro n
 induction n with
 | zero=>
  intro i j d hn hj hs
  rw[reverseLoop,if_neg (by omega)]
  exact ⟨(i:Int),(j:Int),false,ca (by
   simp (disch:=omega) only[Cy,yn,un,tn,cond_false])⟩
 | succ n ih=>
  intro i j d hn hj hs
  rw[reverseLoop]
  by_cases h:i<j
  ·rw[if_pos h]
   obtain ⟨x,y,z,h2⟩:=ih (i+1) (j-1) (swp d i j) (by omega) (by rw[size_swp];omega) (by rw[size_swp];omega)
   refine ⟨x,y,z,(eg ?_).trans h2⟩
   simp (disch:=omega) only[Cy,yn,un,aE,ed,gS,if_pos,if_neg,wrap64,dV,gk,Int.toNat_natCast,Option.bind_some,gh,gj,Ed.dB,Ed.dC,Ed.dD,Ed.re,gi,iy,Array.size_setIfInBounds,gG,V.cu,V.toInt_int,cond_true,cond_false,ko]
   rfl
  ·rw[if_neg h]
   exact ⟨(i:Int),(j:Int),false,ca (by
    simp (disch:=omega) only[Cy,yn,un,tn,cond_false])⟩
theorem ain {a b:Nat} {d:Array Ed} (fZ:a<b) (hb:b≤d.size) (hs:d.size<1152921504606846976):
  CC KA [.int .i64 (a:Int),.int .i64 (b:Int),.list ar (eA d)]=some [.list ar (eA (reverseRange d a b))]:=by
 refine aih ?_
 unfold Xa
 obtain ⟨x,y,z,h⟩:=aim _ a (b-1) d (Nat.le_refl _) (by omega) hs
 simp (disch:=omega) only[ko,wrap64]
 rw[h]
 rfl
end Go.AM.SL
