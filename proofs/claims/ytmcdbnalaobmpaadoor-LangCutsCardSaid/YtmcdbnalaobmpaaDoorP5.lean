/-
  Functions of wX program, lifted to plain data.
-/
import Derived.Sort.AssemblyPlain
import Derived.Test.YtmcdbnalaobmpaaDoorP4
set_option linter.unusedVariables false
set_option linter.unusedSimpArgs false
set_option maxRecDepth 100000
namespace Go.AM
open Go.Proofs
noncomputable abbrev rz:Code:=cy Tryd.prog (ar.aP 109)
noncomputable def zV (C:ae) (t24:List V) (t25 bc bw:Int) (bJ bI:List V) (count t26:Int) (cH:List V) {β:Type} (kn:(Int × Int × (List V))→Option β) (kr:(Int × Int × Bool × (List V))→Option β):Option β:=
 bif decide ((t26:Int)<t25) then
  (idx t24 t26).bind fun x2=>
  (bJ[0]?).bind fun x3=>
  bif !(x2.toBool==x3.toBool) then
  bif (decide (0≤t26))&&(decide (t26<(cH.length:Int))) then
   (cH[(t26:Int).toNat]?).bind fun x4=>
   kn (2,IntKind.wrap .i64 (t26+1),cH.set ((t26:Int).toNat) (.int .i64 1))
  else none
  else
  kn (count,IntKind.wrap .i64 (t26+1),cH)
 else
  kr (count,t26,decide ((t26:Int)<t25),cH)
noncomputable def EO (C:ae) (t24:List V) (t25 bc bw:Int) (bJ bI:List V):(Int × Int × (List V))→Option ((Int × Int × (List V)) ⊕ (Int × Int × Bool × (List V))):=un fun count=>un fun t26 cH=>zV C t24 t25 bc bw bJ bI count t26 cH (fun y=>some (.inl y)) (fun r=>some (.inr r))
noncomputable def zW (C:ae) (count q:Int) (t46:List V) (t47 t48:Int) (t58:List V) (t59 bc bw:Int) (bJ bI cH numbers lF:List V) (t60 EP ER ES ET EU EV EW:Int) {β:Type} (kn:(Int × Int × Int × Int × Int × Int × Int × Int)→Option β) (kr:(Int × Bool × Int × Int × Int × Int × Int × Int × Int)→Option β):Option β:=
 bif decide ((t60:Int)<t59) then
  (idx t58 t60).bind fun fA=>
  bif (decide (0≤fA.toInt))&&(decide (fA.toInt<(cH.length:Int))) then
  (cH[(fA.toInt:Int).toNat]?).bind fun oI=>
  bif (decide (0≤(IntKind.wrap .i64 (1+t60))))&&(decide ((IntKind.wrap .i64 (1+t60))<7)) then
   bif Nat.blt (0+(((IntKind.wrap .i64 (1+t60):Int).toNat)*1)) 7 then
   kn (IntKind.wrap .i64 (t60+1),bif Nat.beq (0+(((IntKind.wrap .i64 (1+t60):Int).toNat)*1)) 0 then oI.toInt else EP,bif Nat.beq (0+(((IntKind.wrap .i64 (1+t60):Int).toNat)*1)) 1 then oI.toInt else ER,bif Nat.beq (0+(((IntKind.wrap .i64 (1+t60):Int).toNat)*1)) 2 then oI.toInt else ES,bif Nat.beq (0+(((IntKind.wrap .i64 (1+t60):Int).toNat)*1)) 3 then oI.toInt else ET,bif Nat.beq (0+(((IntKind.wrap .i64 (1+t60):Int).toNat)*1)) 4 then oI.toInt else EU,bif Nat.beq (0+(((IntKind.wrap .i64 (1+t60):Int).toNat)*1)) 5 then oI.toInt else EV,bif Nat.beq (0+(((IntKind.wrap .i64 (1+t60):Int).toNat)*1)) 6 then oI.toInt else EW)
   else none
  else none
  else none
 else
  kr (t60,decide ((t60:Int)<t59),EP,ER,ES,ET,EU,EV,EW)
noncomputable def EX (C:ae) (count q:Int) (t46:List V) (t47 t48:Int) (t58:List V) (t59 bc bw:Int) (bJ bI cH numbers lF:List V):(Int × Int × Int × Int × Int × Int × Int × Int)→Option ((Int × Int × Int × Int × Int × Int × Int × Int) ⊕ (Int × Bool × Int × Int × Int × Int × Int × Int × Int)):=un fun t60=>un fun EP=>un fun ER=>un fun ES=>un fun ET=>un fun EU=>un fun EV EW=>zW C count q t46 t47 t48 t58 t59 bc bw bJ bI cH numbers lF t60 EP ER ES ET EU EV EW (fun y=>some (.inl y)) (fun r=>some (.inr r))
noncomputable def zX (C:ae) (count:Int) (t46:List V) (t47 bc bw:Int) (bJ bI cH:List V) (t48:Int) (numbers lF:List V) {β:Type} (kn:(Int × (List V) × (List V))→Option β) (kr:(Int × Bool × (List V) × (List V))→Option β):Option β:=
 bif decide ((t48:Int)<t47) then
  (idx t46 t48).bind fun x9=>
  bif (decide (0≤t48))&&(decide (t48<(cH.length:Int))) then
  (cH[(t48:Int).toNat]?).bind fun iG=>
  (Loop (EX C count t48 t46 t47 t48 x9.toList (x9.toList.length:Int) bc bw bJ bI cH numbers lF) (0,iG.toInt,0,0,0,0,0,0)).bind (un fun (rr:Int)=>un fun (Ej:Bool)=>un fun (zY:Int)=>un fun (zZ:Int)=>un fun (z0:Int)=>un fun (z5:Int)=>un fun (z6:Int)=>un fun (z7:Int) (z8:Int)=>
   bif (cL .i64 zY&&(cL .i64 zZ&&(cL .i64 z0&&(cL .i64 z5&&(cL .i64 z6&&(cL .i64 z7&&(cL .i64 z8&&true)))))))&&true then
    bif !(fR (.agg [.int .i64 zY,.int .i64 zZ,.int .i64 z0,.int .i64 z5,.int .i64 z6,.int .i64 z7,.int .i64 z8]) numbers) then
    bif (cL .i64 zY&&(cL .i64 zZ&&(cL .i64 z0&&(cL .i64 z5&&(cL .i64 z6&&(cL .i64 z7&&(cL .i64 z8&&true)))))))&&true then
     bif (decide (0≤t48))&&(decide (t48<(lF.length:Int))) then
     (lF[(t48:Int).toNat]?).bind fun x22=>
     kn (IntKind.wrap .i64 (t48+1),e7 (.agg [.int .i64 zY,.int .i64 zZ,.int .i64 z0,.int .i64 z5,.int .i64 z6,.int .i64 z7,.int .i64 z8]) (.int .i64 (numbers.length:Int)) numbers,lF.set ((t48:Int).toNat) (.int .i64 (numbers.length:Int)))
     else none
    else none
    else
    bif (decide (0≤t48))&&(decide (t48<(lF.length:Int))) then
     (lF[(t48:Int).toNat]?).bind fun kI=>
     kn (IntKind.wrap .i64 (t48+1),numbers,lF.set ((t48:Int).toNat) (.int .i64 ((im (.agg [.int .i64 zY,.int .i64 zZ,.int .i64 z0,.int .i64 z5,.int .i64 z6,.int .i64 z7,.int .i64 z8]) numbers (.int .i64 0)).toInt)))
    else none
   else none)
  else none
 else
  kr (t48,decide ((t48:Int)<t47),numbers,lF)
noncomputable def EY (C:ae) (count:Int) (t46:List V) (t47 bc bw:Int) (bJ bI cH:List V):(Int × (List V) × (List V))→Option ((Int × (List V) × (List V)) ⊕ (Int × Bool × (List V) × (List V))):=un fun t48=>un fun numbers lF=>zX C count t46 t47 bc bw bJ bI cH t48 numbers lF (fun y=>some (.inl y)) (fun r=>some (.inr r))
noncomputable def z9 (C:ae) (bc bw:Int) (bJ bI:List V) (count:Int) (cH:List V) {β:Type} (kn:(Int × (List V))→Option β) (kr:(List V)→Option β):Option β:=
 bif (decide (0≤(cH.length:Int)))&&((decide ((cH.length:Int)≤(cH.length:Int)))&&(Nat.ble ((((cH.length:Int):Int).toNat)*8) b9)) then
  (Loop (EY C count bI (bI.length:Int) bc bw bJ bI cH) (0,([]:List V),List.replicate (((cH.length:Int):Int).toNat) (V.int .i64 0))).bind (un fun (ahF:Int)=>un fun (acK:Bool)=>un fun (Sw:List V) (Sy:List V)=>
   bif ((Sw.length:Int):Int)==count then
   kr Sy
   else
   kn ((Sw.length:Int),Sy))
 else none
noncomputable def Aa (C:ae) (bc bw:Int) (bJ bI:List V):(Int × (List V))→Option ((Int × (List V)) ⊕ (List V)):=un fun count cH=>z9 C bc bw bJ bI count cH (fun y=>some (.inl y)) (fun r=>some (.inr r))
noncomputable def Sz (C:ae):cq:=fun β n ds k=>
 bif Nat.beq n 81 then bA Jc [true,false,false,true,false,false,false,false,true] [[0,2,3,0,0,5,6,7,8,0]] (@zV C) ds k else
 bif Nat.beq n 273 then bA Jd [false,false,false,false,false,false,false,true,false,false,false,false,false,false,false,true,true,true,true,true,true,true] [[1,2,3,4,5,6,7,0,0,9,10,11,12,13,14,15,0,0,0,0,0,0,0]] (@zW C) ds k else
 bif Nat.beq n 209 then bA Je [false,false,false,true,false,false,false,false,false,true,true] [[1,2,3,0,0,5,6,7,8,9,0,0]] (@zX C) ds k else
 bif Nat.beq n 161 then bA Jf [true,false,false,false,false,true] [[0]] (@z9 C) ds k else
 none
abbrev EZ (C:ae) (b:cl):Prop:=cm Tryd.prog ar C (Sz C) 109 (cE Tryd.prog (ar.aP 109)) (ar.sin 109).aO.length b
theorem acL (C:ae):EZ C (.loop (ao [1,1,1,0,1,0,0] rz)):=
 bD Jc [true,false,false,true,false,false,false,false,true] [[0,2,3,0,0,5,6,7,8,0]] (@zV C) (by kernel_rfl) (aT (bs:=[]) (by kernel_rfl) au) (fun ds=>by kernel_rfl) (fun i x=>by kernel_rfl) (fun i x β k=>by kernel_rfl) (fun β ds k=>by kernel_rfl)
theorem acM (C:ae):EZ C (.loop (ao [1,1,1,1,0,0,0,1,1,0,1,0,0,1,1,0,0,1,1,0,1,0,0] rz)):=
 bD Jd [false,false,false,false,false,false,false,true,false,false,false,false,false,false,false,true,true,true,true,true,true,true] [[1,2,3,4,5,6,7,0,0,9,10,11,12,13,14,15,0,0,0,0,0,0,0]] (@zW C) (by kernel_rfl) (aT (bs:=[]) (by kernel_rfl) au) (fun ds=>by kernel_rfl) (fun i x=>by kernel_rfl) (fun i x β k=>by kernel_rfl) (fun β ds k=>by kernel_rfl)
theorem acN (C:ae):EZ C (.loop (ao [1,1,1,1,0,0,0,1,1,0,1,0,0] rz)):=
 bD Je [false,false,false,true,false,false,false,false,false,true,true] [[1,2,3,0,0,5,6,7,8,9,0,0]] (@zX C) (by kernel_rfl) (aT (bs:=[.loop (ao [1,1,1,1,0,0,0,1,1,0,1,0,0,1,1,0,0,1,1,0,1,0,0] rz)]) (by kernel_rfl) (bm (acM C) au)) (fun ds=>by kernel_rfl) (fun i x=>by kernel_rfl) (fun i x β k=>by kernel_rfl) (fun β ds k=>by kernel_rfl)
theorem acO (C:ae):EZ C (.loop (ao [1,1,1,1,0,0] rz)):=
 bD Jf [true,false,false,false,false,true] [[0]] (@z9 C) (by kernel_rfl) (aT (bs:=[.loop (ao [1,1,1,1,0,0,0,1,1,0,1,0,0] rz)]) (by kernel_rfl) (bm (acN C) au)) (fun ds=>by kernel_rfl) (fun i x=>by kernel_rfl) (fun i x β k=>by kernel_rfl) (fun β ds k=>by kernel_rfl)
noncomputable def SA (C:ae) (bd bn:Int) (aR bh:List V):Option (List V):=
 (C nv [.int .i64 bd,.int .i64 bn,.list ax aR,.list aA bh]).bind fun r1=>
 bif (((V.nth r1 0).toInt):Int) != 0 then
  some [.list ba ([]:List V)]
 else
  bif (decide (0≤(aR.length:Int)))&&((decide ((aR.length:Int)≤(aR.length:Int)))&&(Nat.ble ((((aR.length:Int):Int).toNat)*8) b9)) then
  (Loop (EO C aR (aR.length:Int) bd bn aR bh) (1,0,List.replicate (((aR.length:Int):Int).toNat) (V.int .i64 0))).bind (un fun (acP:Int)=>un fun (pX:Int)=>un fun (oG:Bool) (acQ:List V)=>
   (Loop (Aa C bd bn aR bh) (acP,acQ)).bind (fun (acR:List V)=>
    some [.list ba acR]))
  else none
theorem acS {bd bn:Int} {aR bh:List V} {r:Option (List V)} (h:SA CC bd bn aR bh=r):CC DG [.int .i64 bd,.int .i64 bn,.list ax aR,.list aA bh]=r:=
 bj (key:=109) (L:=Sz CC) (bs:=[.loop (ao [1,1,1,0,1,0,0] rz),.loop (ao [1,1,1,1,0,0] rz)]) (by kernel_rfl) (bm (acL CC) (bm (acO CC) au)) (Eq.trans (by kernel_rfl) h)
end Go.AM
set_option maxRecDepth 100000
set_option linter.unusedSimpArgs false
namespace Go.AM
open Go.Proofs
def cZ (a:Da) (c:Nat→Nat) (q t j:Nat):Nat:=if j=0 then c q else if j≤t then c (a.nx q (j-1)) else 0
def cT (a:Da) (c:Nat→Nat) (q:Nat):List Nat:=tab 7 (cZ a c q a.L)
def Ab (s:List Nat):V:= .agg (s.map nV)
theorem SB: ∀s t:List Nat,nQ (s.map nV) (t.map nV)=decide (s=t)
 | [],[]=>rfl
 | [],b::t=>rfl
 | a::s,[]=>rfl
 | a::s,b::t=>by
  simp only[List.map_cons,nQ]
  rw[SB s t,Bool.eq_iff_iff]
  simp only[nV,qE]
  simp only[Bool.and_eq_true,beq_iff_eq,decide_eq_true_eq,List.cons.injEq]
  exact and_congr (by omega) Iff.rfl
theorem Km (s t:List Nat):il (Ab s) (Ab t)=decide (s=t):=SB s t
theorem Kn {a:Da} (h:a.Ok) {c:Nat→Nat} {q q':Nat}:cT a c q=cT a c q'↔a.sig c q=a.sig c q':=by
 rw[Da.tD]
 have h6:=h.l6
 constructor
 ·intro e
  have g:=fun j (hj:j<7)=>congrArg (fun l:List Nat=>l.getD j 0) e
  unfold cT at g
  refine ⟨?_,fun x hx=> ?_⟩
  ·have:=g 0 (by omega)
   rw[vQ (by omega),vQ (by omega)] at this
   exact this
  ·have:=g (x+1) (by omega)
   rw[vQ (by omega),vQ (by omega)] at this
   unfold cZ at this
   rwa [if_neg (by omega),if_pos (by omega),if_neg (by omega),if_pos (by omega)] at this
 ·rintro ⟨h1,h2⟩
  refine eW fun j _=> ?_
  unfold cZ
  by_cases hj:j=0
  ·rw[if_pos hj,if_pos hj,h1]
  ·rw[if_neg hj,if_neg hj]
   by_cases bW:j≤a.L
   ·rw[if_pos bW,if_pos bW,h2 (j-1) (by omega)]
   ·rw[if_neg bW,if_neg bW]
theorem tG {a:Da} {c:Nat→Nat} {q t:Nat} (j:Nat):(bif Nat.beq (0+(t+1)*1) j then ((c (a.nx q t):Nat):Int) else ((cZ a c q t j:Nat):Int))=((cZ a c q (t+1) j:Nat):Int):=by
 by_cases hj:t+1=j
 ·rw[show Nat.beq (0+(t+1)*1) j=true from by rw[Nat.beq_eq];omega,cond_true,←hj]
  unfold cZ
  rw[if_neg (by omega),if_pos (by omega)]
  rfl
 ·rw[show Nat.beq (0+(t+1)*1) j=false from by rw[←Bool.not_eq_true,Nat.beq_eq];omega,cond_false]
  unfold cZ
  by_cases h0:j=0
  ·rw[if_pos h0,if_pos h0]
  ·rw[if_neg h0,if_neg h0]
   by_cases h1:j≤t
   ·rw[if_pos h1,if_pos (by omega)]
   ·rw[if_neg h1,if_neg (by omega)]
def cV (n:Nat) (c:Nat→Nat):List V:=tab n fun q=>nV (c q)
section
variable {a:Da} (h:a.Ok) {c:Nat→Nat}
include h
theorem acT {q:Nat} (hq:q<a.n) {k1 k2 k3 k4 k5 k6:Int} {l1 l2 l3 l4 l5:List V}:
  Loop (EX CC k1 k2 l1 k3 k4 (tab a.L fun x=>iV (a.nx q x)) ((tab a.L fun x=>iV (a.nx q x)).length:Int) k5 k6 l2 l3 (cV a.n c) l4 l5) (0,(c q:Int),0,0,0,0,0,0)=
   some ((a.L:Int),false,(cZ a c q a.L 0:Int),(cZ a c q a.L 1:Int),(cZ a c q a.L 2:Int),(cZ a c q a.L 3:Int),(cZ a c q a.L 4:Int),(cZ a c q a.L 5:Int),(cZ a c q a.L 6:Int)):=by
 have h6:=h.l6
 rw[eV]
 refine (fO a.L (fun t=>((t:Int),(cZ a c q t 0:Int),(cZ a c q t 1:Int),(cZ a c q t 2:Int),(cZ a c q t 3:Int),(cZ a c q t 4:Int),(cZ a c q t 5:Int),(cZ a c q t 6:Int))) _ (fun t ht=> ?_) ?_)
 ·simp only[EX,zW,un]
  refine bT (eL ht) ?_
  refine bs (tA ht) ?_
  refine (fN (i:=a.nx q t) (h.eg hq ht)).trans ?_
  have w:IntKind.wrap .i64 (1+(t:Int))=((t+1:Nat):Int):=by rw[wrap64 (by omega) (by omega)];omega
  rw[w,dh (by omega),Int.toNat_natCast]
  refine bT (Bool.and_eq_true_iff.2 ⟨decide_eq_true (by omega),decide_eq_true (by omega)⟩) ?_
  refine bT (show Nat.ble (0+(t+1)*1+1) 7=true by rw[Nat.ble_eq];omega) ?_
  show some (Sum.inl _)=some (Sum.inl _)
  refine congrArg (fun x=>some (Sum.inl x)) ?_
  exact Prod.ext rfl (Prod.ext (tG 0) (Prod.ext (tG 1) (Prod.ext (tG 2) (Prod.ext (tG 3) (Prod.ext (tG 4) (Prod.ext (tG 5) (tG 6)))))))
 ·simp only[EX,zW,un]
  refine bF (bN (Nat.le_refl _)) ?_
  rw[bN (Nat.le_refl _)]
theorem acU (hc: ∀q,q<a.n→c q≤1000) {q:Nat} (hq:q<a.n) (j:Nat):cZ a c q a.L j≤1000:=by
 unfold cZ
 split
 ·exact hc q hq
 ·split
  ·exact hc _ (h.eg hq (by omega))
  ·omega
theorem acV (hc: ∀q,q<a.n→c q≤1000) {k1 k2 k3:Int} {l2:List V}:
  Loop (EY CC k1 a.cD (a.cD.length:Int) k2 k3 l2 a.cD (cV a.n c)) (0,([]:List V),List.replicate ((((cV a.n c).length:Int):Int).toNat) (V.int .i64 0))=
   some ((a.n:Int),false,fi Ab 0 (aJ (cT a c) a.n),cV a.n (b8 (cT a c) a.n)):=by
 have hm:=h.ee
 have hl:(cV a.n c).length=a.n:=by simp[cV]
 rw[hl,Int.toNat_natCast,oL,Da.RY]
 refine (fO a.n (fun i=>((i:Int),fi Ab 0 (aJ (cT a c) i),(tab a.n fun q=>if q<i then nV (b8 (cT a c) a.n q) else nV 0))) _ (fun q hq=> ?_) ?_)
 ·have hle:=qg (cT a c) q
  simp only[EY,zX,un]
  refine bT (eL hq) ?_
  refine bs (Da.qc hq) ?_
  refine (fN (i:=q) hq).trans ?_
  simp only[ry]
  refine bs (acT h hq) ?_
  have k0:=acU h hc hq
  have kk: ∀j,cL .i64 ((cZ a c q a.L j:Nat):Int)=true:=fun j=>EB (by have:=k0 j;omega)
  have SC:((cL .i64 ((cZ a c q a.L 0:Nat):Int)&&(cL .i64 ((cZ a c q a.L 1:Nat):Int)&&(cL .i64 ((cZ a c q a.L 2:Nat):Int)&&(cL .i64 ((cZ a c q a.L 3:Nat):Int)&&(cL .i64 ((cZ a c q a.L 4:Nat):Int)&&(cL .i64 ((cZ a c q a.L 5:Nat):Int)&&(cL .i64 ((cZ a c q a.L 6:Nat):Int)&&true)))))))&&true)=true:=by
   simp only[kk,Bool.and_self]
  refine bT SC ?_
  have ek:V.agg [V.int .i64 (cZ a c q a.L 0:Int),V.int .i64 (cZ a c q a.L 1:Int),V.int .i64 (cZ a c q a.L 2:Int),V.int .i64 (cZ a c q a.L 3:Int),V.int .i64 (cZ a c q a.L 4:Int),V.int .i64 (cZ a c q a.L 5:Int),V.int .i64 (cZ a c q a.L 6:Int)]=Ab (cT a c q):=rfl
  simp only[un,ek]
  have e1:=zB Km (cT a c q) (aJ (cT a c) q) 0
  have fin: ∀v,v=nV (b8 (cT a c) a.n q)→(tab a.n fun j=>if j<q then nV (b8 (cT a c) a.n j) else nV 0).set q v=tab a.n fun j=>if j<q+1 then nV (b8 (cT a c) a.n j) else nV 0:=by
   rintro v rfl
   rw[qa]
   refine eW fun j _=> ?_
   by_cases hj:j=q
   ·rw[if_pos hj,if_pos (by omega),hj]
   ·rw[if_neg hj]
    by_cases bW:j<q
    ·rw[if_pos bW,if_pos (by omega)]
    ·rw[if_neg bW,if_neg (by omega)]
  rw[dh (by omega)]
  by_cases hx:cT a c q∈aJ (cT a c) q
  ·refine bF (by rw[e1];simpa using hx) ?_
   refine (fN hq).trans ?_
   have e2:=zC Km (cT a c q) (.int .i64 0) (aJ (cT a c) q) 0 hx
   rw[Nat.zero_add,←Sn hq hx] at e2
   rw[e2,V.toInt_int,Int.toNat_natCast,show (V.int .i64 (b8 (cT a c) a.n q:Int))=nV (b8 (cT a c) a.n q) from rfl,fin _ rfl,Kh hx]
  ·refine bT (by rw[e1];simpa using hx) ?_
   refine bT SC ?_
   refine (fN hq).trans ?_
   have e2:=zE Km (cT a c q) (aJ (cT a c) q) 0 hx
   rw[Nat.zero_add] at e2
   rw[vT,e2,Int.toNat_natCast,←So hq hx,show (V.int .i64 (b8 (cT a c) a.n q:Int))=nV (b8 (cT a c) a.n q) from rfl,fin _ rfl,Ki hx]
 ·simp only[EY,zX,un]
  refine bF (bN (Nat.le_refl _)) ?_
  rw[bN (Nat.le_refl _)]
  have:(tab a.n fun q=>if q<a.n then nV (b8 (cT a c) a.n q) else nV 0)=cV a.n (b8 (cT a c) a.n):=eW fun q hq=>if_pos hq
  rw[this]
def j6 (a:Da):Nat→Nat
 | 0=>1
 | i+1=>if a.fin i=a.fin 0 then j6 a i else 2
def eN (a:Da) (q:Nat):Nat:=if a.fin q=a.fin 0 then 0 else 1
theorem acW:(aJ (eN a) a.n).length=j6 a a.n:=by
 have key: ∀m,(aJ (eN a) (m+1)=[0]∧j6 a (m+1)=1)∨(aJ (eN a) (m+1)=[0,1]∧j6 a (m+1)=2):=by
  intro m
  induction m with
  | zero=>left;simp[aJ,cJ,eN,j6]
  | succ m ih=>
   rw[aJ,j6]
   unfold eN cJ
   by_cases hf:a.fin (m+1)=a.fin 0
   ·rw[if_pos hf,if_pos hf]
    rcases ih with ⟨i1,i2⟩|⟨i1,i2⟩
    ·left;refine ⟨?_,i2⟩;unfold eN at i1;rw[i1];rfl
    ·right;refine ⟨?_,i2⟩;unfold eN at i1;rw[i1];rfl
   ·rw[if_neg hf,if_neg hf]
    rcases ih with ⟨i1,i2⟩|⟨i1,i2⟩
    ·right;refine ⟨?_,rfl⟩;unfold eN at i1;rw[i1];rfl
    ·right;refine ⟨?_,rfl⟩;unfold eN at i1;rw[i1];rfl
 have hs:=h.s
 obtain ⟨m,hm⟩: ∃m,a.n=m+1:=⟨a.n-1,by omega⟩
 rw[hm]
 rcases key m with ⟨e1,e2⟩|⟨e1,e2⟩<;>rw[e1,e2]<;>rfl
theorem acX {k2 k3:Int} {l2:List V}:Loop (EO CC a.cu (a.cu.length:Int) k2 k3 a.cu l2) (1,0,List.replicate ((((a.cu.length:Nat):Int)).toNat) (V.int .i64 0))=some ((j6 a a.n:Int),(a.n:Int),false,cV a.n (eN a)):=by
 have hm:=h.ee
 have hs:=h.s
 rw[Da.lC,Int.toNat_natCast,oL]
 refine (fO a.n (fun i=>((j6 a i:Int),(i:Int),(tab a.n fun q=>if q<i then nV (eN a q) else nV 0))) _ (fun q hq=> ?_) ?_)
 ·simp only[EO,zV,un]
  refine bT (eL hq) ?_
  refine bs (Da.vS hq) ?_
  refine bs (a:= .bool (a.fin 0)) (by unfold Da.cu;exact Ew (by omega)) ?_
  rw[dh (by omega)]
  have fin:(tab a.n fun j=>if j<q then nV (eN a j) else nV 0).set q (nV (eN a q))=tab a.n fun j=>if j<q+1 then nV (eN a j) else nV 0:=by
   rw[qa]
   refine eW fun j _=> ?_
   by_cases hj:j=q
   ·rw[if_pos hj,if_pos (by omega),hj]
   ·rw[if_neg hj]
    by_cases bW:j<q
    ·rw[if_pos bW,if_pos (by omega)]
    ·rw[if_neg bW,if_neg (by omega)]
  simp only[V.lu]
  by_cases hf:a.fin q=a.fin 0
  ·refine bF (by rw[hf];simp) ?_
   have e:j6 a (q+1)=j6 a q:=by rw[j6,if_pos hf]
   have e2:(tab a.n fun j=>if j<q then nV (eN a j) else nV 0)=tab a.n fun j=>if j<q+1 then nV (eN a j) else nV 0:=eW fun j _=>by
    by_cases hj:j=q
    ·rw[if_neg (by omega),if_pos (by omega),hj];unfold eN;rw[if_pos hf]
    ·by_cases bW:j<q
     ·rw[if_pos bW,if_pos (by omega)]
     ·rw[if_neg bW,if_neg (by omega)]
   rw[e,e2]
  ·refine bT (by simpa using hf) ?_
   refine (fN hq).trans ?_
   have e:j6 a (q+1)=2:=by rw[j6,if_neg hf]
   have e3:eN a q=1:=by unfold eN;rw[if_neg hf]
   rw[e3] at fin
   rw[e,Int.toNat_natCast,show (V.int .i64 1)=nV 1 from rfl,fin];rfl
 ·simp only[EO,zV,un]
  refine bF (bN (Nat.le_refl _)) ?_
  rw[bN (Nat.le_refl _)]
  have:(tab a.n fun q=>if q<a.n then nV (eN a q) else nV 0)=cV a.n (eN a):=eW fun q hq=>if_pos hq
  rw[this]
theorem acY {k2 k3:Int} {l2:List V}: ∃p,Loop (Aa CC k2 k3 l2 a.cD) ((j6 a a.n:Int),cV a.n (eN a))=some (cV a.n p)∧a.tE p∧∀q,q<a.n→p q≤1000:=by
 have hm:=h.ee
 have:=Pj (step:=Aa CC k2 k3 l2 a.cD)
  (fun x=> ∃c,x=(((aJ c a.n).length:Int),cV a.n c)∧a.Part c∧∀q,q<a.n→c q≤1000)
  (fun x=>a.n-x.1.toNat)
  (fun r=> ∃p,r=cV a.n p∧a.tE p∧∀q,q<a.n→p q≤1000) (fun x hx=> ?_) ((j6 a a.n:Int),cV a.n (eN a)) ⟨eN a,by rw[acW h],⟨?_,?_⟩,?_⟩
 ·obtain ⟨r,h1,p,rfl,h2,h3⟩:=this
  exact ⟨p,h1,h2,h3⟩
 ·obtain ⟨c,rfl,hp,hc⟩:=hx
  have hl:(cV a.n c).length=a.n:=by simp[cV]
  have mB:a.EL c (b8 (cT a c) a.n):=fun q q' hq bM=>(zR hq bM).trans (Kn h)
  have hle:=qg (cT a c) a.n
  have hb: ∀q,q<a.n→b8 (cT a c) a.n q≤1000:=fun q hq=>by have:=zQ (g:=cT a c) hq;omega
  have tH: ∀q q',q<a.n→q'<a.n→cT a c q=cT a c q'→c q=c q':=fun q q' hq bM e=>(Da.tD.1 ((Kn h).1 e)).1
  have acZ:=Sq tH
  have cr:=acV h hc (k1:=((aJ c a.n).length:Int)) (k2:=k2) (k3:=k3) (l2:=l2)
  by_cases he:(aJ (cT a c) a.n).length=(aJ c a.n).length
  ·right
   refine ⟨_,?_,b8 (cT a c) a.n,rfl,⟨fun q q' hq bM=> ?_,Kj _ _⟩,hb⟩
   ·simp only[Aa,z9,un]
    refine bT (by rw[hl];exact nD (by omega) (by omega)) ?_
    refine bs cr ?_
    refine bT (by rw[vT];simp[he]) ?_
    rfl
   ·have b7:=Kk tH (by omega)
    rw[zR hq bM,←hp.Sr h (fun s s' hs qY e=>(Kn h).1 (b7 s s' hs qY e)) q q' hq bM]
    exact ⟨tH q q' hq bM,b7 q q' hq bM⟩
  ·left
   have e2:(aJ (b8 (cT a c) a.n) a.n).length=(aJ (cT a c) a.n).length:=by rw[Sp _ _ _ (Nat.le_refl _),List.length_range]
   refine ⟨(((aJ (cT a c) a.n).length:Int),cV a.n (b8 (cT a c) a.n)),?_,⟨b8 (cT a c) a.n,by rw[e2],mB.part h hp,hb⟩,?_⟩
   ·simp only[Aa,z9,un]
    refine bT (by rw[hl];exact nD (by omega) (by omega)) ?_
    refine bs cr ?_
    refine bF (by rw[vT];simpa using fun e=>he (by omega)) ?_
    rw[vT]
   ·simp only[Int.toNat_natCast]
    omega
 ·intro q q' hq bM he
  have:=he [] WL.nil
  rw[Da.mz,Da.mz] at this
  unfold eN;rw[this]
 ·intro q q' hq bM he
  unfold eN at he
  split at he<;>split at he
  ·rename_i h1 h2;rw[h1,h2]
  ·omega
  ·omega
  ·rename_i h1 h2
   revert h1 h2
   cases a.fin q<;>cases a.fin q'<;>cases a.fin 0<;>simp
 ·intro q _
  unfold eN;split<;>omega
theorem ac0: ∃p,CC DG (dQ a)=some [.list ba (cV a.n p)]∧a.tE p∧∀q,q<a.n→p q≤1000:=by
 have hm:=h.ee
 obtain ⟨p,h1,h2,h3⟩:=acY h (k2:=(a.L:Int)) (k3:=(a.st:Int)) (l2:=a.cu)
 refine ⟨p,acS ?_,h2,h3⟩
 unfold SA
 refine bs (tB h) ?_
 refine bF rfl ?_
 refine bT (by rw[Da.lC];exact nD (by omega) (by omega)) ?_
 refine bs (acX h) ?_
 refine bs h1 ?_
 rfl
end
end Go.AM
set_option maxRecDepth 100000
namespace Go.AM
open Go.Proofs
noncomputable abbrev vY:Code:=cy Tryd.prog (ar.aP 86)
noncomputable def Ac (C:ae) (q t29 t30:Int) (t47:List V) (t48 bc bw:Int) (bJ bI:List V) (eh ei vZ v5:Int) (places cH:List V) (v7 v8:Int) (bR cG dH fB lG SD:List V) (t49:Int) (rows:List V) {β:Type} (kn:(Int × (List V))→Option β) (kr:(Int × Bool × (List V))→Option β):Option β:=
 bif decide ((t49:Int)<t48) then
  (idx t47 t49).bind fun x5=>
  bif (decide (0≤x5.toInt))&&(decide (x5.toInt<(cH.length:Int))) then
  (cH[(x5.toInt:Int).toNat]?).bind fun x6=>
  bif (decide (0≤t49))&&(decide (t49<(rows.length:Int))) then
   (rows[(t49:Int).toNat]?).bind fun x7=>
   kn (IntKind.wrap .i64 (t49+1),rows.set ((t49:Int).toNat) (.int .i64 x6.toInt))
  else none
  else none
 else
  kr (t49,decide ((t49:Int)<t48),rows)
noncomputable def E0 (C:ae) (q t29 t30:Int) (t47:List V) (t48 bc bw:Int) (bJ bI:List V) (eh ei vZ v5:Int) (places cH:List V) (v7 v8:Int) (bR cG dH fB lG SD:List V):(Int × (List V))→Option ((Int × (List V)) ⊕ (Int × Bool × (List V))):=un fun t49 rows=>Ac C q t29 t30 t47 t48 bc bw bJ bI eh ei vZ v5 places cH v7 v8 bR cG dH fB lG SD t49 rows (fun y=>some (.inl y)) (fun r=>some (.inr r))
noncomputable def Ad (C:ae) (t29 bc bw:Int) (bJ bI:List V) (eh ei vZ v5:Int) (places cH:List V) (v7 v8:Int) (ct bR cG dH:List V) (t30:Int) (fB lG:List V) {β:Type} (kn:(Int × (List V) × (List V))→Option β) (kr:(Int × Bool × (List V) × (List V))→Option β):Option β:=
 bif decide ((t30:Int)<t29) then
  bif (decide (0≤t30))&&(decide (t30<(cH.length:Int))) then
  (cH[(t30:Int).toNat]?).bind fun x3=>
  bif decide ((x3.toInt:Int)<(fB.length:Int)) then
   kn (IntKind.wrap .i64 (t30+1),fB,lG)
  else
   bif (decide (0≤bc))&&((decide (bc≤bc))&&(Nat.ble (((bc:Int).toNat)*8) b9)) then
   bif (decide (0≤t30))&&(decide (t30<(dH.length:Int))) then
    (dH[(t30:Int).toNat]?).bind fun x4=>
    (Loop (E0 C t30 t29 t30 x4.toList (x4.toList.length:Int) bc bw bJ bI eh ei vZ v5 places cH v7 v8 ct bR cG dH fB lG) (0,List.replicate ((bc:Int).toNat) (V.int .i64 0))).bind (un fun (vI:Int)=>un fun (tz:Bool) (SE:List V)=>
     bif (decide (0≤t30))&&(decide (t30<(cG.length:Int))) then
     (cG[(t30:Int).toNat]?).bind fun fA=>
     bif Nat.ble ((fB.length+([.bool fA.toBool]:List V).length)*1) b9 then
      bif Nat.ble ((lG.length+([.list ba SE]:List V).length)*24) b9 then
      kn (IntKind.wrap .i64 (t30+1),fB++([.bool fA.toBool]:List V),lG++([.list ba SE]:List V))
      else none
     else none
     else none)
   else none
   else none
  else none
 else
  kr (t30,decide ((t30:Int)<t29),fB,lG)
noncomputable def E1 (C:ae) (t29 bc bw:Int) (bJ bI:List V) (eh ei vZ v5:Int) (places cH:List V) (v7 v8:Int) (ct bR cG dH:List V):(Int × (List V) × (List V))→Option ((Int × (List V) × (List V)) ⊕ (Int × Bool × (List V) × (List V))):=un fun t30=>un fun fB lG=>Ad C t29 bc bw bJ bI eh ei vZ v5 places cH v7 v8 ct bR cG dH t30 fB lG (fun y=>some (.inl y)) (fun r=>some (.inr r))
noncomputable def Ae (C:ae) (t88 eh ei:Int) (cH:List V) (mC mD:Int) (numbers E2 ct bR cG dH:List V) (t89:Int) (mA:List V) {β:Type} (kn:(Int × (List V))→Option β) (kr:(Int × Bool × (List V))→Option β):Option β:=
 bif decide ((t89:Int)<t88) then
  bif (decide (0≤t89))&&(decide (t89<(E2.length:Int))) then
  (E2[(t89:Int).toNat]?).bind fun oO=>
  bif (decide (0≤t89))&&(decide (t89<(mA.length:Int))) then
   (mA[(t89:Int).toNat]?).bind fun Ko=>
   bif decide ((oO.toInt:Int)≥0) then
   bif (decide (0≤oO.toInt))&&(decide (oO.toInt<(cH.length:Int))) then
    (cH[(oO.toInt:Int).toNat]?).bind fun kJ=>
    bif (decide (0≤kJ.toInt))&&(decide (kJ.toInt<(numbers.length:Int))) then
    (numbers[(kJ.toInt:Int).toNat]?).bind fun qi=>
    bif (decide (0≤t89))&&(decide (t89<((mA.set ((t89:Int).toNat) (.int .i64 (-1))).length:Int))) then
     ((mA.set ((t89:Int).toNat) (.int .i64 (-1)))[(t89:Int).toNat]?).bind fun Af=>
     kn (IntKind.wrap .i64 (t89+1),(mA.set ((t89:Int).toNat) (.int .i64 (-1))).set ((t89:Int).toNat) (.int .i64 qi.toInt))
    else none
    else none
   else none
   else
   kn (IntKind.wrap .i64 (t89+1),mA.set ((t89:Int).toNat) (.int .i64 (-1)))
  else none
  else none
 else
  kr (t89,decide ((t89:Int)<t88),mA)
noncomputable def E3 (C:ae) (t88 eh ei:Int) (cH:List V) (mC mD:Int) (numbers E2 ct bR cG dH:List V):(Int × (List V))→Option ((Int × (List V)) ⊕ (Int × Bool × (List V))):=un fun t89 mA=>Ae C t88 eh ei cH mC mD numbers E2 ct bR cG dH t89 mA (fun y=>some (.inl y)) (fun r=>some (.inr r))
noncomputable def SF (C:ae):cq:=fun β n ds k=>
 bif Nat.beq n 161 then bA IX [false,false,false,false,false,true,false,false,false,false,false,false,false,false,false,false,false,false,true,false,false,false,false,false,false] [[1,2,3,4,5,0,0,7,8,9,10,11,12,13,14,15,16,17,18,0,20,21,22,23,24,25]] (@Ac C) ds k else
 bif Nat.beq n 81 then bA IY [false,true,false,false,false,false,false,false,false,false,false,false,false,false,false,false,false,false,true,true] [[1,0,0,3,4,5,6,7,8,9,10,11,12,13,14,15,16,17,18,0,0]] (@Ad C) ds k else
 bif Nat.beq n 321 then bA IZ [false,true,false,false,false,false,false,false,true,false,false,false,false,false] [[1,0,0,3,4,5,6,7,8,0,10,11,12,13,14]] (@Ae C) ds k else
 none
abbrev Kp (C:ae) (b:cl):Prop:=cm Tryd.prog ar C (SF C) 86 (cE Tryd.prog (ar.aP 86)) (ar.sin 86).aO.length b
theorem ac1 (C:ae):Kp C (.loop (ao [1,1,1,1,0,1,0,0,1,1,0,0,1,1,1,0,1,0,0] vY)):=
 bD IX [false,false,false,false,false,true,false,false,false,false,false,false,false,false,false,false,false,false,true,false,false,false,false,false,false] [[1,2,3,4,5,0,0,7,8,9,10,11,12,13,14,15,16,17,18,0,20,21,22,23,24,25]] (@Ac C) (by kernel_rfl) (aT (bs:=[]) (by kernel_rfl) au) (fun ds=>by kernel_rfl) (fun i x=>by kernel_rfl) (fun i x β k=>by kernel_rfl) (fun β ds k=>by kernel_rfl)
theorem ac2 (C:ae):Kp C (.loop (ao [1,1,1,1,0,1,0,0] vY)):=
 bD IY [false,true,false,false,false,false,false,false,false,false,false,false,false,false,false,false,false,false,true,true] [[1,0,0,3,4,5,6,7,8,9,10,11,12,13,14,15,16,17,18,0,0]] (@Ad C) (by kernel_rfl) (aT (bs:=[.loop (ao [1,1,1,1,0,1,0,0,1,1,0,0,1,1,1,0,1,0,0] vY)]) (by kernel_rfl) (bm (ac1 C) au)) (fun ds=>by kernel_rfl) (fun i x=>by kernel_rfl) (fun i x β k=>by kernel_rfl) (fun β ds k=>by kernel_rfl)
theorem ac3 (C:ae):Kp C (.loop (ao [1,1,1,1,1,1,1,0,1,0,0] vY)):=
 bD IZ [false,true,false,false,false,false,false,false,true,false,false,false,false,false] [[1,0,0,3,4,5,6,7,8,0,10,11,12,13,14]] (@Ae C) (by kernel_rfl) (aT (bs:=[]) (by kernel_rfl) au) (fun ds=>by kernel_rfl) (fun i x=>by kernel_rfl) (fun i x β k=>by kernel_rfl) (fun β ds k=>by kernel_rfl)
noncomputable def SG (C:ae) (bd bn:Int) (aR bh:List V):Option (List V):=
 (C vz [.int .i64 bd,.int .i64 bn,.list ax aR,.list aA bh]).bind fun r1=>
 (C DG [.int .i64 ((V.nth r1 0).toInt),.int .i64 ((V.nth (r1.drop 1) 0).toInt),.list ax ((V.nth (r1.drop 2) 0).toList),.list aA ((V.nth ((r1.drop 2).drop 1) 0).toList)]).bind fun r2=>
 (Loop (E1 C (((V.nth r2 0).toList).length:Int) bd bn aR bh 0 0 ((V.nth r1 0).toInt) ((V.nth (r1.drop 1) 0).toInt) ((V.nth (((r1.drop 2).drop 1).drop 1) 0).toList) ((V.nth r2 0).toList) bd 0 ([]:List V) ([]:List V) ((V.nth (r1.drop 2) 0).toList) ((V.nth ((r1.drop 2).drop 1) 0).toList)) (0,([]:List V),([]:List V))).bind (un fun (E4:Int)=>un fun (rr:Bool)=>un fun (zJ:List V) (zi:List V)=>
  (C vz [.int .i64 bd,.int .i64 0,.list ax zJ,.list aA zi]).bind fun iH=>
  bif (decide (0≤(((V.nth (((r1.drop 2).drop 1).drop 1) 0).toList).length:Int)))&&((decide ((((V.nth (((r1.drop 2).drop 1).drop 1) 0).toList).length:Int)≤(((V.nth (((r1.drop 2).drop 1).drop 1) 0).toList).length:Int)))&&(Nat.ble ((((((V.nth (((r1.drop 2).drop 1).drop 1) 0).toList).length:Int):Int).toNat)*8) b9)) then
   (Loop (E3 C (((V.nth (((r1.drop 2).drop 1).drop 1) 0).toList).length:Int) 0 0 ((V.nth r2 0).toList) ((V.nth iH 0).toInt) ((V.nth (iH.drop 1) 0).toInt) ((V.nth (((iH.drop 2).drop 1).drop 1) 0).toList) ((V.nth (((r1.drop 2).drop 1).drop 1) 0).toList) ([]:List V) ([]:List V) ((V.nth (iH.drop 2) 0).toList) ((V.nth ((iH.drop 2).drop 1) 0).toList)) (0,List.replicate (((((V.nth (((r1.drop 2).drop 1).drop 1) 0).toList).length:Int):Int).toNat) (V.int .i64 0))).bind (un fun (ac4:Int)=>un fun (SH:Bool) (ac5:List V)=>
    some [.int .i64 ((V.nth iH 0).toInt),.int .i64 ((V.nth (iH.drop 1) 0).toInt),.list ax ((V.nth (iH.drop 2) 0).toList),.list aA ((V.nth ((iH.drop 2).drop 1) 0).toList),.list ba ac5])
  else none)
theorem ac6 {bd bn:Int} {aR bh:List V} {r:Option (List V)} (h:SG CC bd bn aR bh=r):CC Dy [.int .i64 bd,.int .i64 bn,.list ax aR,.list aA bh]=r:=
 bj (key:=86) (L:=SF CC) (bs:=[.loop (ao [1,1,1,1,0,1,0,0] vY),.loop (ao [1,1,1,1,1,1,1,0,1,0,0] vY)]) (by kernel_rfl) (bm (ac2 CC) (bm (ac3 CC) au)) (Eq.trans (by kernel_rfl) h)
end Go.AM
set_option maxRecDepth 100000
namespace Go.AM
open Go.Proofs
noncomputable def SI (C:ae) (bd bn:Int) (aR bh:List V):Option (List V):=
 (C nv [.int .i64 bd,.int .i64 bn,.list ax aR,.list aA bh]).bind fun r1=>
 bif (((V.nth r1 0).toInt):Int) != 0 then
  some [.int .i64 0,.int .i64 0,.list ax ([]:List V),.list aA ([]:List V)]
 else
  (C Dy [.int .i64 bd,.int .i64 bn,.list ax aR,.list aA bh]).bind fun r2=>
  some [.int .i64 ((V.nth r2 0).toInt),.int .i64 ((V.nth (r2.drop 1) 0).toInt),.list ax ((V.nth (r2.drop 2) 0).toList),.list aA ((V.nth ((r2.drop 2).drop 1) 0).toList)]
theorem ac7 {bd bn:Int} {aR bh:List V} {r:Option (List V)} (h:SI CC bd bn aR bh=r):CC rj [.int .i64 bd,.int .i64 bn,.list ax aR,.list aA bh]=r:=
 bj (key:=54) (L:=cP) (bs:=[]) (by kernel_rfl) au (Eq.trans (by kernel_rfl) h)
end Go.AM
set_option maxRecDepth 100000
set_option linter.unusedSimpArgs false
namespace Go.AM
open Go.Proofs
theorem ac8 {p:Nat→Nat} {n:Nat} (h:nE p n) (hn:0<n):p 0=0:=by
 simpa[aJ,cJ] using h 1 (by omega)
theorem SJ {p:Nat→Nat} {n i:Nat} (h:nE p n) (hi:i<n):p i∈aJ p i↔p i<(Da.en p i).length:=by
 rw[Da.zT]
 constructor
 ·intro hm
  rw[h i (by omega)] at hm
  simpa using hm
 ·intro hm
  rw[h i (by omega)]
  simpa using hm
theorem SK (p:Nat→Nat) (n:Nat):(Da.en p n).length≤n:=by rw[Da.zT];exact qg p n
def qF (a:Da) (p:Nat→Nat) (i:Nat):List V:=(Da.en p i).map fun r=>V.bool (a.fin r)
def qN (a:Da) (p:Nat→Nat) (i:Nat):List V:=(Da.en p i).map fun r=>jB a.L fun x=>p (a.nx r x)
theorem ac9 {a:Da} {p:Nat→Nat}:(a.quo p).cu=qF a p a.n∧(a.quo p).cD=qN a p a.n:=by
 constructor
 ·unfold Da.cu qF
  rw[zx _ 0,Da.qh]
  exact eW fun i hi=>by rw[Da.Ss hi,eU hi]
 ·unfold Da.cD qN
  rw[zx _ 0,Da.qh]
  refine eW fun i hi=> ?_
  unfold jB
  exact congrArg _ (eW fun x hx=>by rw[Da.Su hi hx,eU hi])
section
variable {a:Da} (h:a.Ok) {p:Nat→Nat}
include h
theorem ada {q:Nat} (hq:q<a.n) {k1 k2 k3 k4 k5 k6 k7 k8 k9 k10 k11:Int} {l1 l2 l3 l4 l5 l6 l7 l8 l9:List V}:
  Loop (E0 CC k1 k2 k3 (tab a.L fun x=>iV (a.nx q x)) ((tab a.L fun x=>iV (a.nx q x)).length:Int) k4 k5 l1 l2 k6 k7 k8 k9 l3 (cV a.n p) k10 k11 l4 l5 l6 l7 l8 l9) (0,List.replicate (((a.L:Nat):Int).toNat) (V.int .i64 0))=
   some ((a.L:Int),false,(tab a.L fun x=>nV (p (a.nx q x)))):=by
 have h6:=h.l6
 rw[eV,Int.toNat_natCast,oL]
 refine (fO a.L (fun t=>((t:Int),(tab a.L fun x=>if x<t then nV (p (a.nx q x)) else nV 0))) _ (fun t ht=> ?_) ?_)
 ·simp only[E0,Ac,un]
  refine bT (eL ht) ?_
  refine bs (tA ht) ?_
  refine (fN (i:=a.nx q t) (h.eg hq ht)).trans ?_
  refine (fN ht).trans ?_
  rw[dh (by omega),Int.toNat_natCast,qa]
  refine congrArg (fun x=>some (Sum.inl (((t+1:Nat):Int),x))) (eW fun j _=> ?_)
  by_cases hj:j=t
  ·rw[if_pos hj,if_pos (by omega),hj];rfl
  ·rw[if_neg hj]
   by_cases bW:j<t
   ·rw[if_pos bW,if_pos (by omega)]
   ·rw[if_neg bW,if_neg (by omega)]
 ·simp only[E0,Ac,un]
  refine bF (bN (Nat.le_refl _)) ?_
  rw[bN (Nat.le_refl _)]
  refine congrArg (fun x=>some (Sum.inr ((a.L:Int),false,x))) (eW fun j hj=>if_pos hj)
theorem adb (ho:nE p a.n) {k3 k4 k5 k6 k7 k8 k9:Int} {l1 l2 l3 l4 l5:List V}:
  Loop (E1 CC ((cV a.n p).length:Int) (a.L:Int) k3 l1 l2 k4 k5 k6 k7 l3 (cV a.n p) k8 k9 l4 l5 a.cu a.cD) (0,([]:List V),([]:List V))=
   some ((a.n:Int),false,qF a p a.n,qN a p a.n):=by
 have h6:=h.l6
 have hm:=h.ee
 rw[show (cV a.n p).length=a.n by simp[cV]]
 refine (fO a.n (fun i=>((i:Int),qF a p i,qN a p i)) _ (fun q hq=> ?_) ?_)
 ·have hle:=SK p q
  have hF:(qF a p q).length=(Da.en p q).length:=by simp[qF]
  have hN:(qN a p q).length=(Da.en p q).length:=by simp[qN]
  simp only[E1,Ad,un]
  refine bT (eL hq) ?_
  refine (fN (i:=q) hq).trans ?_
  rw[dh (by omega)]
  simp only[nV,V.toInt_int]
  by_cases hx:p q∈aJ p q
  ·refine bT (decide_eq_true (by rw[hF];have:=(SJ ho hq).1 hx;omega)) ?_
   unfold qF qN
   rw[Da.en,if_pos hx]
  ·refine bF (decide_eq_false (by rw[hF];intro h2;exact hx ((SJ ho hq).2 (by omega)))) ?_
   refine bT (nD (by omega) (by omega)) ?_
   refine (fN (i:=q) hq).trans ?_
   simp only[ry]
   refine bs (ada h hq) ?_
   refine (fN (i:=q) hq).trans ?_
   refine bT (cap (by rw[hF];simp;omega) (by omega)) ?_
   refine bT (cap (by rw[hN];simp;omega) (by omega)) ?_
   unfold qF qN
   rw[Da.en,if_neg hx,List.map_append,List.map_append]
   rfl
 ·simp only[E1,Ad,un]
  refine bF (bN (Nat.le_refl _)) ?_
  rw[bN (Nat.le_refl _)]
end
def qj (U U':List Nat) (p:Nat→Nat) (q:Nat):V:=if q∈U then iV ((if p (U.idxOf q)∈U' then nV (U'.idxOf (p (U.idxOf q))) else V.int .i64 (-1)).toInt) else V.int .i64 (-1)
theorem ade {n m k:Nat} {U U':List Nat} {p:Nat→Nat} (hn:n≤512) (hU:U.length≤m) (hp: ∀q,q<m→p q<k) {k1 k2 k3 k4:Int} {l1 l2 l3 l4:List V}:
  ∃X,Loop (E3 CC ((j5 U n).length:Int) k1 k2 (cV m p) k3 k4 (j5 U' k) (j5 U n) l1 l2 l3 l4) (0,List.replicate ((((j5 U n).length:Int):Int).toNat) (V.int .i64 0))=some ((n:Int),false,X):=by
 rw[show (j5 U n).length=n by simp[j5],Int.toNat_natCast,oL]
 refine ⟨tab n fun q=>if q<n then qj U U' p q else V.int .i64 0,fO n (fun i=>((i:Int),(tab n fun q=>if q<i then qj U U' p q else V.int .i64 0))) _ (fun q hq=> ?_) ?_⟩
 ·simp only[E3,Ae,un]
  refine bT (eL hq) ?_
  refine (fN (i:=q) hq).trans ?_
  refine (fN (i:=q) hq).trans ?_
  rw[dh (by omega)]
  have fin: ∀v,v=qj U U' p q→((tab n fun j=>if j<q then qj U U' p j else V.int .i64 0).set q v)=tab n fun j=>if j<q+1 then qj U U' p j else V.int .i64 0:=by
   rintro v rfl
   rw[qa]
   refine eW fun j _=> ?_
   by_cases hj:j=q
   ·rw[if_pos hj,if_pos (show j<q+1 by omega),hj]
   ·rw[if_neg hj]
    by_cases bW:j<q
    ·rw[if_pos bW,if_pos (show j<q+1 by omega)]
    ·rw[if_neg bW,if_neg (show¬j<q+1 by omega)]
  by_cases hx:q∈U
  ·have es:qj U U' p q=iV ((if p (U.idxOf q)∈U' then nV (U'.idxOf (p (U.idxOf q))) else V.int .i64 (-1)).toInt):=by unfold qj;rw[if_pos hx]
   have hi:=List.idxOf_lt_length_of_mem hx
   rw[if_pos hx]
   refine bT (decide_eq_true (by simp only[nV,V.toInt_int];omega)) ?_
   simp only[nV,V.toInt_int]
   refine (fN (i:=U.idxOf q) (by omega)).trans ?_
   simp only[nV,V.toInt_int]
   refine (fN (i:=p (U.idxOf q)) (hp _ (by omega))).trans ?_
   refine bT (by rw[List.length_set,eV];exact RJ hq) ?_
   refine bs (a:= .int .i64 (-1)) (by rw[Int.toNat_natCast,List.getElem?_set];simp[hq]) ?_
   rw[Int.toNat_natCast,List.set_set,←fin _ es.symm]
  ·rw[if_neg hx]
   refine bF (decide_eq_false (by simp)) ?_
   rw[Int.toNat_natCast,←fin _ (show V.int .i64 (-1)=qj U U' p q by unfold qj;rw[if_neg hx])]
 ·simp only[E3,Ae,un]
  refine bF (bN (Nat.le_refl _)) ?_
  rw[bN (Nat.le_refl _)]
theorem Canon.congr {m:Da} {L:Nat} {K K':List Nat→Bool} (h:m.Canon L K) (e: ∀w,WL L w→K w=K' w):m.Canon L K':=⟨h.ok,h.hL,h.st,h.num,h.red,fun w hw=>(h.jW w hw).trans (e w hw)⟩
theorem adf {a:Da} (h:a.Ok): ∃m X,CC Dy (dQ a)=some (dQ m++[.list ba X])∧m.Canon a.L (a.acc a.st):=by
 have ht:=h.Rw
 have hm:=h.ee
 have hle:=h.oK a.n
 have e3:a.trim.n=(ak a.L a.nx a.st a.n).length:=lA
 obtain ⟨p,c1,c2,c3⟩:=ac0 ht
 have hq:=Da.Kl ht c2
 obtain ⟨q1,q2⟩:=ac9 (a:=a.trim) (p:=p)
 have adg:=Da.Sv ht c2
 have b7:(a.trim.quo p).st=0:=ac8 c2.2 ht.s
 have Cz:=Sm hq
 obtain ⟨X,hX⟩:=ade (n:=a.n) (m:=a.trim.n) (k:=(a.trim.quo p).n) (U:=ak a.L a.nx a.st a.n) (U':=ak (a.trim.quo p).L (a.trim.quo p).nx (a.trim.quo p).st (a.trim.quo p).n) (p:=p) hm (by omega) (fun q hq=>by rw[Da.qh];exact Da.zU c2.2 hq) (k1:=0) (k2:=0) (k3:=((a.trim.quo p).trim.L:Int)) (k4:=((a.trim.quo p).trim.st:Int)) (l1:=[]) (l2:=[]) (l3:=(a.trim.quo p).trim.cu) (l4:=(a.trim.quo p).trim.cD)
 refine ⟨(a.trim.quo p).trim,X,ac6 ?_,Canon.congr adg fun w hw=>h.Rx hw⟩
 unfold SG
 refine bs (Sm h) ?_
 refine bs c1 ?_
 refine bs (adb ht c2.2) ?_
 simp only[un]
 rw[←q1,←q2]
 have adh:CC vz [.int .i64 (a.L:Int),.int .i64 0,.list ax (a.trim.quo p).cu,.list aA (a.trim.quo p).cD]=some (dQ (a.trim.quo p).trim++[.list ba (j5 (ak (a.trim.quo p).L (a.trim.quo p).nx (a.trim.quo p).st (a.trim.quo p).n) (a.trim.quo p).n)]):=by
  rw[←Cz]
  unfold dQ jZ
  rw[b7];rfl
 refine bs adh ?_
 have e0:(j5 (ak a.L a.nx a.st a.n) a.n).length=a.n:=by simp[j5]
 refine bT (show ((decide (0≤((j5 (ak a.L a.nx a.st a.n) a.n).length:Int)))&&((decide (((j5 (ak a.L a.nx a.st a.n) a.n).length:Int)≤((j5 (ak a.L a.nx a.st a.n) a.n).length:Int)))&&(Nat.ble (((((j5 (ak a.L a.nx a.st a.n) a.n).length:Nat):Int).toNat)*8) b9)))=true from nD (by rw[e0];omega) (by omega)) ?_
 refine bs hX ?_
 rfl
theorem SM {a:Da} (h:a.Ok): ∃m,CC rj (dQ a)=some (dQ m)∧m.Canon a.L (a.acc a.st):=by
 obtain ⟨m,X,h1,h2⟩:=adf h
 refine ⟨m,ac7 ?_,h2⟩
 unfold SI
 refine bs (tB h) ?_
 refine bF rfl ?_
 refine bs h1 ?_
 rfl
open Classical in
noncomputable def minD (a:Da):Da:=if h: ∃m:Da,m.Canon a.L (a.acc a.st) then Classical.choose h else a
theorem v9 {a:Da} (h:a.Ok):(minD a).Canon a.L (a.acc a.st):=by
 obtain ⟨m,_,h2⟩:=SM h
 have: ∃m:Da,m.Canon a.L (a.acc a.st):=⟨m,h2⟩
 unfold minD
 rw[dif_pos this]
 exact Classical.choose_spec this
theorem Ag {a m:Da} (h:a.Ok) (hm:m.Canon a.L (a.acc a.st)):m=minD a:=hm.eq (v9 h)
theorem E5 {a:Da} (h:a.Ok):CC rj (dQ a)=some (dQ (minD a)):=by
 obtain ⟨m,h1,h2⟩:=SM h
 rw[h1,Ag h h2]
end Go.AM
set_option maxRecDepth 100000
set_option linter.unusedSimpArgs false
namespace Go.AM
section
variable {α:Type} [DecidableEq α] {L:Nat} {next:α→Nat→α} {a0:α}
theorem SN (S:List α) (a:α): ∀x,(cK next S a x).length≤S.length+x
 | 0=>Nat.le_refl _
 | x+1=>by
  have:=SN S a x
  rw[cK,ru]
  split<;>omega
theorem adi {m:Nat} (h:(ak L next a0 m).length≤m) (i:Nat):(ak L next a0 i).length≤m:=by
 rcases Nat.lt_or_ge m i with c|c
 ·rw[zl h (by omega)];exact h
 ·exact Nat.le_trans (lz c).length_le h
theorem adj {k:Nat} (hd:(ak L next a0 k).length≤k) (i:Nat):(ak L next a0 i).length≤(ak L next a0 k).length:=by
 rcases Nat.lt_or_ge k i with c|c
 ·rw[zl hd (by omega)];exact Nat.le_refl _
 ·exact (lz c).length_le
theorem adk {k m:Nat} (h:m<(ak L next a0 k).length):m<(ak L next a0 m).length:=by
 rcases Nat.lt_or_ge m (ak L next a0 m).length with c|c
 ·exact c
 ·have:=adi c k
  omega
theorem adl {m:Nat} (h:m<(ak L next a0 m).length) (hm:1≤m): ∃i,i<m∧(∀j,j≤i→j<(ak L next a0 j).length∧(ak L next a0 j).length≤m)∧m<(ak L next a0 (i+1)).length:=by
 have key: ∀d k,k+d=m→(∀j,j≤k→(ak L next a0 j).length≤m)→∃i,i<m∧(∀j,j≤i→j<(ak L next a0 j).length∧(ak L next a0 j).length≤m)∧m<(ak L next a0 (i+1)).length:=by
  intro d
  induction d with
  | zero=>
   intro k hk hj
   have:=hj k (Nat.le_refl _)
   rw[show k=m by omega] at this
   omega
  | succ d ih=>
   intro k hk hj
   rcases Nat.lt_or_ge m (ak L next a0 (k+1)).length with c|c
   ·refine ⟨k,by omega,fun j SO=>⟨?_,hj j SO⟩,c⟩
    rcases Nat.lt_or_ge j (ak L next a0 j).length with c1|c1
    ·exact c1
    ·have h1:=hj j SO
     rw[←zl c1 (show j≤m by omega)] at h1
     omega
   ·refine ih (k+1) (by omega) fun j bW=> ?_
    rcases Nat.lt_or_ge j (k+1) with c1|c1
    ·exact hj j (by omega)
    ·rw[show j=k+1 by omega];exact c
 exact key m 0 (by omega) fun j hj=>by rw[Nat.le_zero.1 hj];simp[ak];omega
theorem adm {P:α→Prop} (h0:P a0) (hP: ∀a,P a→∀x,x<L→P (next a x)) (i:Nat): ∀a∈ak L next a0 i,P a:=by
 intro a ha
 obtain ⟨w,hw,rfl⟩:=zn i a ha
 have: ∀(w:List Nat) (b:α),P b→WL L w→P (w.foldl next b):=by
  intro w
  induction w with
  | nil=>intro b hb _;exact hb
  | cons x w ih=>intro b hb hw;exact ih _ (hP b hb x hw.head) hw.tail
 exact this w a0 h0 hw
end
end Go.AM
set_option maxRecDepth 100000
set_option linter.unusedSimpArgs false
namespace Go.AM
open Go.Proofs
structure NP where
 p:Nat
 q:Nat
deriving DecidableEq
section
variable {a b:Da} (ha:a.Ok) (hb:b.Ok) (hL:a.L=b.L) {op:Nat}
include ha hb hL
end
def zD:Da:=⟨0,0,[],[]⟩
def hZ (m:Da) (e:Int):List V:=[.int .i64 (m.L:Int),.int .i64 (m.st:Int),.int .i64 e,.list ax m.cu,.list aA m.cD]
section
variable {a b:Da} (ha:a.Ok) (hb:b.Ok) (hL:a.L=b.L) {op:Nat}
include ha hb hL
end
section
variable {a b:Da} (ha:a.Ok) (hb:b.Ok) (hL:a.L=b.L) {op:Nat}
include ha hb hL
end
end Go.AM
set_option maxRecDepth 100000
namespace Go.AM
open Go.Proofs
noncomputable def SP (C:ae) (eJ letter:Int) (Ah:List V):Option (List V):=
 (idx Ah letter).bind fun x1=>
 (C DL [.list bY x1.toList,.int .u64 eJ]).bind fun r2=>
 some [.int .u64 ((V.nth r2 0).toInt),.list dO Ah]
theorem adn {eJ letter:Int} {Ah:List V} {r:Option (List V)} (h:SP CC eJ letter Ah=r):CC oy [.int .u64 eJ,.int .i64 letter,.list dO Ah]=r:=
 bj (key:=138) (L:=cP) (bs:=[]) (by kernel_rfl) au (Eq.trans (by kernel_rfl) h)
end Go.AM
set_option maxRecDepth 100000
namespace Go.AM
open Go.Proofs
noncomputable def SQ (C:ae) (eJ qe qf oM oN:Int) (E6:List V):Option (List V):=
 some [.bool (((IntKind.wrap .u64 ((BitVec.ofInt (IntKind.bits .u64) eJ&&&BitVec.ofInt (IntKind.bits .u64) oN).toNat)):Int) != 0),.int .i64 qe,.int .i64 qf,.int .u64 oM,.int .u64 oN,.list an E6]
theorem ado {eJ qe qf oM oN:Int} {E6:List V} {r:Option (List V)} (h:SQ CC eJ qe qf oM oN E6=r):CC pP [.int .u64 eJ,.int .i64 qe,.int .i64 qf,.int .u64 oM,.int .u64 oN,.list an E6]=r:=
 bj (key:=119) (L:=cP) (bs:=[]) (by kernel_rfl) au (Eq.trans (by kernel_rfl) h)
end Go.AM
set_option maxRecDepth 100000
namespace Go.AM
open Go.Proofs
noncomputable def SR (C:ae) (x:Int) (a9:List V):Option (List V):=
 bif cL .u64 x&&true then
  bif cL .u64 x&&true then
  bif Nat.ble ((a9.length+([.int .u64 x]:List V).length)*8) b9 then
   some [.int .i64 (a9.length:Int),.list bY (a9++([.int .u64 x]:List V)),.list hO (e7 (.int .u64 x) (.int .i64 (a9.length:Int)) ([]:List V))]
  else none
  else none
 else none
theorem adp {x:Int} {a9:List V} {r:Option (List V)} (h:SR CC x a9=r):CC yP [.int .u64 x,.list bY a9]=r:=
 bj (key:=137) (L:=cP) (bs:=[]) (by kernel_rfl) au (Eq.trans (by kernel_rfl) h)
end Go.AM
set_option maxRecDepth 100000
namespace Go.AM
open Go.Proofs
noncomputable def SS (C:ae) (x:Int) (a9 cY:List V):Option (List V):=
 bif cL .u64 x&&true then
  bif !(fR (.int .u64 x) cY) then
  bif cL .u64 x&&true then
   bif Nat.ble ((a9.length+([.int .u64 x]:List V).length)*8) b9 then
   some [.int .i64 (a9.length:Int),.list hO (e7 (.int .u64 x) (.int .i64 (a9.length:Int)) cY),.list bY (a9++([.int .u64 x]:List V))]
   else none
  else none
  else
  some [.int .i64 ((im (.int .u64 x) cY (.int .i64 0)).toInt),.list hO cY,.list bY a9]
 else none
theorem adq {x:Int} {a9 cY:List V} {r:Option (List V)} (h:SS CC x a9 cY=r):CC Io [.int .u64 x,.list bY a9,.list hO cY]=r:=
 bj (key:=183) (L:=cP) (bs:=[]) (by kernel_rfl) au (Eq.trans (by kernel_rfl) h)
end Go.AM
set_option maxRecDepth 100000
namespace Go.AM
open Go.Proofs
noncomputable abbrev E7:Code:=cy Tryd.prog (ar.aP 117)
noncomputable def Ai (C:ae) (bx i state t36 kK kL kM kN:Int) (kO:List V) (lD lE bc bw:Int) (ct bR fB lG:List V) (t37:Int) (kP rows cG dH:List V) {β:Type} (kn:(Int × (List V) × (List V) × (List V) × (List V))→Option β) (kr:(Int × Bool × (List V) × (List V) × (List V) × (List V))→Option β):Option β:=
 bif decide ((t37:Int)<t36) then
  (C oy [.int .u64 state,.int .i64 t37,.list dO kP]).bind fun r3=>
  (C Io [.int .u64 ((V.nth r3 0).toInt),.list bY cG,.list hO dH]).bind fun r4=>
  bif (decide (0≤t37))&&(decide (t37<(rows.length:Int))) then
  (rows[(t37:Int).toNat]?).bind fun x5=>
  kn (IntKind.wrap .i64 (t37+1),(V.nth (r3.drop 1) 0).toList,rows.set ((t37:Int).toNat) (.int .i64 ((V.nth r4 0).toInt)),(V.nth ((r4.drop 1).drop 1) 0).toList,(V.nth (r4.drop 1) 0).toList)
  else none
 else
  kr (t37,decide ((t37:Int)<t36),kP,rows,cG,dH)
noncomputable def E8 (C:ae) (bx i state t36 kK kL kM kN:Int) (kO:List V) (lD lE bc bw:Int) (ct bR fB lG:List V):(Int × (List V) × (List V) × (List V) × (List V))→Option ((Int × (List V) × (List V) × (List V) × (List V)) ⊕ (Int × Bool × (List V) × (List V) × (List V) × (List V))):=un fun t37=>un fun kP=>un fun rows=>un fun cG dH=>Ai C bx i state t36 kK kL kM kN kO lD lE bc bw ct bR fB lG t37 kP rows cG dH (fun y=>some (.inl y)) (fun r=>some (.inr r))
noncomputable def Aj (C:ae) (bx lD lE bc bw:Int) (ej ct:List V) (i:Int) (kP:List V) (kK kL kM kN:Int) (kO bR cG dH fB:List V) {β:Type} (kn:(Int × (List V) × Int × Int × Int × Int × (List V) × (List V) × (List V) × (List V) × (List V))→Option β) (kr:((Int × (List V) × Int × Int × Int × Int × (List V) × Int × Int × (List V) × (List V) × (List V)) ⊕ (Int × Bool × (List V) × Int × Int × Int × Int × (List V) × (List V) × (List V) × (List V) × (List V)))→Option β):Option β:=
 bif decide ((i:Int)<(bR.length:Int)) then
  bif (decide (0≤i))&&(decide (i<(bR.length:Int))) then
  (bR[(i:Int).toNat]?).bind fun x2=>
  bif (decide (0≤bx))&&((decide (bx≤bx))&&(Nat.ble (((bx:Int).toNat)*8) b9)) then
   (Loop (E8 C bx i x2.toInt ((List.replicate ((bx:Int).toNat) (V.int .i64 0)).length:Int) kK kL kM kN kO lD lE bc bw ej ct dH fB) (0,kP,List.replicate ((bx:Int).toNat) (V.int .i64 0),bR,cG)).bind (un fun (pX:Int)=>un fun (oG:Bool)=>un fun (zI:List V)=>un fun (SU:List V)=>un fun (wa:List V) (Kq:List V)=>
    bif decide (((wa.length:Int):Int)>512) then
    kr (.inl (3,zI,kK,kL,kM,kN,kO,0,0,([]:List V),([]:List V),([]:List V)))
    else
    bif Nat.ble ((fB.length+([.list ba SU]:List V).length)*24) b9 then
     (C pP [.int .u64 x2.toInt,.int .i64 kK,.int .i64 kL,.int .u64 kM,.int .u64 kN,.list an kO]).bind fun ja=>
     bif Nat.ble ((dH.length+([.bool ((V.nth ja 0).toBool)]:List V).length)*1) b9 then
     kn (IntKind.wrap .i64 (i+1),zI,(V.nth (ja.drop 1) 0).toInt,(V.nth ((ja.drop 1).drop 1) 0).toInt,(V.nth (((ja.drop 1).drop 1).drop 1) 0).toInt,(V.nth ((((ja.drop 1).drop 1).drop 1).drop 1) 0).toInt,(V.nth (((((ja.drop 1).drop 1).drop 1).drop 1).drop 1) 0).toList,wa,Kq,dH++([.bool ((V.nth ja 0).toBool)]:List V),fB++([.list ba SU]:List V))
     else none
    else none)
  else none
  else none
 else
  kr (.inr (i,decide ((i:Int)<(bR.length:Int)),kP,kK,kL,kM,kN,kO,bR,cG,dH,fB))
noncomputable def we (C:ae) (bx lD lE bc bw:Int) (ej ct:List V):(Int × (List V) × Int × Int × Int × Int × (List V) × (List V) × (List V) × (List V) × (List V))→Option ((Int × (List V) × Int × Int × Int × Int × (List V) × (List V) × (List V) × (List V) × (List V)) ⊕ ((Int × (List V) × Int × Int × Int × Int × (List V) × Int × Int × (List V) × (List V) × (List V)) ⊕ (Int × Bool × (List V) × Int × Int × Int × Int × (List V) × (List V) × (List V) × (List V) × (List V)))):=un fun i=>un fun kP=>un fun kK=>un fun kL=>un fun kM=>un fun kN=>un fun kO=>un fun bR=>un fun cG=>un fun dH fB=>Aj C bx lD lE bc bw ej ct i kP kK kL kM kN kO bR cG dH fB (fun y=>some (.inl y)) (fun r=>some (.inr r))
noncomputable def SV (C:ae):cq:=fun β n ds k=>
 bif Nat.beq n 161 then bA Jg [false,false,false,false,true,true,false,false,false,false,false,false,false,false,false,true,false,false,true,true,false,false] [[1,2,3,4,0,0,0,7,8,9,10,11,12,13,14,15,0,17,18,0,0,21,22]] (@Ai C) ds k else
 bif Nat.beq n 81 then bA Jh [false,true,true,true,true,true,true,true,false,false,false,false,false,false,true,true,true,true] [[0,0,0,0,0,0,0,0,0,0,0,0],[1,0,0,0,0,0,0,0,0,9,10,11,12,13,14,0,0,0,0]] (@Aj C) ds k else
 none
abbrev SW (C:ae) (b:cl):Prop:=cm Tryd.prog ar C (SV C) 117 (cE Tryd.prog (ar.aP 117)) (ar.sin 117).aO.length b
theorem adr (C:ae):SW C (.loop (ao [1,1,1,1,0,1,0,0,1,0,0,1,1,0,1,0,0] E7)):=
 bD Jg [false,false,false,false,true,true,false,false,false,false,false,false,false,false,false,true,false,false,true,true,false,false] [[1,2,3,4,0,0,0,7,8,9,10,11,12,13,14,15,0,17,18,0,0,21,22]] (@Ai C) (by kernel_rfl) (aT (bs:=[]) (by kernel_rfl) au) (fun ds=>by kernel_rfl) (fun i x=>by kernel_rfl) (fun i x β k=>by kernel_rfl) (fun β ds k=>by kernel_rfl)
theorem ads (C:ae):SW C (.loop (ao [1,1,1,1,0,1,0,0] E7)):=
 bD Jh [false,true,true,true,true,true,true,true,false,false,false,false,false,false,true,true,true,true] [[0,0,0,0,0,0,0,0,0,0,0,0],[1,0,0,0,0,0,0,0,0,9,10,11,12,13,14,0,0,0,0]] (@Aj C) (by kernel_rfl) (aT (bs:=[.loop (ao [1,1,1,1,0,1,0,0,1,0,0,1,1,0,1,0,0] E7)]) (by kernel_rfl) (bm (adr C) au)) (fun ds=>by kernel_rfl) (fun i x=>by kernel_rfl) (fun i x β k=>by kernel_rfl) (fun β ds k=>by kernel_rfl)
noncomputable def Kr (C:ae) (bx start:Int) (kP:List V) (kK kL kM kN:Int) (kO:List V):Option (List V):=
 (C yP [.int .u64 start,.list bY ([]:List V)]).bind fun r1=>
 (Loop (we C bx 0 0 bx 0 ([]:List V) ([]:List V)) (0,kP,kK,kL,kM,kN,kO,(V.nth (r1.drop 1) 0).toList,(V.nth ((r1.drop 1).drop 1) 0).toList,([]:List V),([]:List V))).bind (cO (un fun (rr:Int)=>un fun (zJ:List V)=>un fun (zi:Int)=>un fun (adt:Int)=>un fun (zK:Int)=>un fun (zL:Int)=>un fun (Kb:List V)=>un fun (adu:Int)=>un fun (Kc:Int)=>un fun (adv:List V)=>un fun (Kd:List V) (adw:List V)=>
  some [.int .i64 adu,.int .i64 Kc,.int .i64 rr,.list dO zJ,.int .i64 zi,.int .i64 adt,.int .u64 zK,.int .u64 zL,.list an Kb,.list ax adv,.list aA Kd,.list bY adw]) (un fun (ahG:Int)=>un fun (adx:Bool)=>un fun (ady:List V)=>un fun (adz:Int)=>un fun (adA:Int)=>un fun (adB:Int)=>un fun (adC:Int)=>un fun (adD:List V)=>un fun (Sg:List V)=>un fun (Sh:List V)=>un fun (Ke:List V) (adE:List V)=>
  some [.int .i64 bx,.int .i64 0,.int .i64 0,.list dO ady,.int .i64 adz,.int .i64 adA,.int .u64 adB,.int .u64 adC,.list an adD,.list ax Ke,.list aA adE,.list bY Sg]))
theorem SX {bx start:Int} {kP:List V} {kK kL kM kN:Int} {kO:List V} {r:Option (List V)} (h:Kr CC bx start kP kK kL kM kN kO=r):CC tm [.int .i64 bx,.int .u64 start,.list dO kP,.int .i64 kK,.int .i64 kL,.int .u64 kM,.int .u64 kN,.list an kO]=r:=
 bj (key:=117) (L:=SV CC) (bs:=[.loop (ao [1,1,1,1,0,1,0,0] E7)]) (by kernel_rfl) (bm (ads CC) au) (Eq.trans (by kernel_rfl) h)
end Go.AM
set_option maxRecDepth 100000
namespace Go.AM
open Go.Proofs
noncomputable def Ks (C:ae) (ed fy eB fZ:Int) (eI:List V):Option (List V):=
 (C DA [.int .i64 ed,.int .i64 fy,.int .u64 eB,.int .u64 fZ,.list an eI]).bind fun r1=>
 bif (((V.nth r1 0).toInt):Int) != 0 then
  some [.int .i64 0,.int .i64 0,.int .i64 ((V.nth r1 0).toInt),.list ax ([]:List V),.list aA ([]:List V),.list bY ([]:List V)]
 else
  (C DH [.int .i64 ed,.int .i64 fy,.int .u64 eB,.int .u64 fZ,.list an eI]).bind fun r2=>
  (C tm [.int .i64 ed,.int .u64 eB,.list dO ((V.nth r2 0).toList),.int .i64 ed,.int .i64 fy,.int .u64 eB,.int .u64 fZ,.list an eI]).bind fun r3=>
  some [.int .i64 ((V.nth r3 0).toInt),.int .i64 ((V.nth (r3.drop 1) 0).toInt),.int .i64 ((V.nth (r3.drop 2) 0).toInt),.list ax ((V.nth (((r3.drop 3).drop 1).drop 5) 0).toList),.list aA ((V.nth ((((r3.drop 3).drop 1).drop 5).drop 1) 0).toList),.list bY ((V.nth (((((r3.drop 3).drop 1).drop 5).drop 1).drop 1) 0).toList)]
theorem SY {ed fy eB fZ:Int} {eI:List V} {r:Option (List V)} (h:Ks CC ed fy eB fZ eI=r):CC yK [.int .i64 ed,.int .i64 fy,.int .u64 eB,.int .u64 fZ,.list an eI]=r:=
 bj (key:=99) (L:=cP) (bs:=[]) (by kernel_rfl) au (Eq.trans (by kernel_rfl) h)
end Go.AM
set_option maxRecDepth 100000
set_option linter.unusedSimpArgs false
namespace Go.AM
open Go.Proofs
def uV (q:Nat):V:= .int .u64 (q:Int)
def uM (S:List Nat):List V:=fi uV 0 S
theorem Kt (a b:Nat):il (uV a) (uV b)=decide (a=b):=ab9 a b
theorem adF {S:List Nat} {i:Nat} (h:i<S.length):(U1 S)[i]? =some (uV S[i]):=JW (List.getElem?_eq_getElem h)
theorem SZ {x:Nat} (hx:x<2^64):CC yP [uV x,.list bY []]=some [nV 0,.list bY (U1 [x]),.list hO (uM [x])]:=by
 refine adp ?_
 unfold SR
 rw[R0 hx]
 exact bT rfl (bT rfl (bT (cap (by simp) (by omega)) rfl))
theorem adG {S:List Nat} {x:Nat} (hx:x<2^64) (hl:S.length≤1000000):CC Io [uV x,.list bY (U1 S),.list hO (uM S)]=some [nV ((cJ S x).idxOf x),.list hO (uM (cJ S x)),.list bY (U1 (cJ S x))]:=by
 refine adq ?_
 unfold SS
 have e1:=zB Kt x S 0
 rw[R0 hx]
 refine bT rfl ?_
 rw[show (V.int .u64 (x:Int))=uV x from rfl,R3]
 by_cases h:x∈S
 ·refine bF (by rw[show fR (uV x) (uM S)=_ from e1];simpa using h) ?_
  have e2:=zC Kt x (.int .i64 0) S 0 h
  rw[show im (uV x) (uM S) (.int .i64 0)=_ from e2,if_pos h,Nat.zero_add,show cJ S x=S by unfold cJ;rw[if_pos h]]
  rfl
 ·refine bT (by rw[show fR (uV x) (uM S)=_ from e1];simpa using h) ?_
  refine bT rfl ?_
  refine bT (cap (by rw[oH];simp;omega) (by omega)) ?_
  have e2:=zE Kt x S 0 h
  rw[Nat.zero_add] at e2
  rw[oH,show e7 (uV x) (.int .i64 (S.length:Int)) (uM S)=_ from e2,if_neg h,show cJ S x=S++[x] by unfold cJ;rw[if_neg h]]
  simp[U1,nV,uM,uV]
def sn (E:List Ed) (s x:Nat):Nat:=gK E s (x:Int)
def sf (fin s:Nat):Bool:= !((s&&&fin)==0)
structure Nat6 (n:Nf) (L S:Nat):Prop where
 code:n.code=0
 ok:n.Ok
 hL:n.L=(L:Int)
 hS:n.S=(S:Int)
namespace Nat6
variable {n:Nf} {L S:Nat} (h:Nat6 n L S)
include h
theorem good:n.Good:=Nf.aaq h.code
theorem l1:1≤L:=by have:=h.good.L1;have:=h.hL;omega
theorem l6:L≤6:=by have:=h.good.L6;have:=h.hL;omega
theorem oJ:S≤64:=by have:=h.good.S64;have:=h.hS;omega
theorem sS:n.S.toNat=S:=by have:=h.hS;omega
theorem lL:n.L.toNat=L:=by have:=h.hL;omega
theorem edF: ∀e∈n.E,e.f.toNat<S:=fun e he=>by have:=h.good.E e he;have:=h.hS;unfold Ed.In at*;omega
theorem S3: ∀e∈n.E,e.t.toNat<S:=fun e he=>by have:=h.good.E e he;have:=h.hS;unfold Ed.In at*;omega
theorem st:n.st<2^S:=by have:=h.good.st;rwa [h.sS] at this
theorem fin:n.fin<2^S:=by have:=h.good.fin;rwa [h.sS] at this
theorem pow:2^S≤2^64:=Nat.pow_le_pow_right (by omega) h.oJ
theorem next (s x:Nat):sn n.E s x<2^S:=JT h.S3
end Nat6
def gL (n:Nf) (L S:Nat):List Nat:=ak L (sn n.E) n.st (2^S)
def ia (n:Nf) (L S:Nat):Da:=eK L (sn n.E) (sf n.fin) (gL n L S)
def gM (n:Nf) (L S:Nat):Prop:=512<(gL n L S).length
def tV (n:Nf) (L S:Nat):List V:=U2 (iZ L S n.E)
def S4 (m:Da) (e:Int) (X:V):List V:=[.int .i64 (m.L:Int),.int .i64 (m.st:Int),.int .i64 e,.list ax m.cu,.list aA m.cD,X]
section
variable {n:Nf} {L S:Nat} (h:Nat6 n L S)
include h
theorem adH {s x:Nat} (hs:s<2^S) (hx:x<L):CC oy [uV s,nV x,.list dO (tV n L S)]=some [uV (sn n.E s x),.list dO (tV n L S)]:=by
 have hp:=h.pow
 refine adn ?_
 unfold SP
 have e1:idx (tV n L S) (x:Int)=some (.list bY (U1 (kD S n.E (x:Int)))):=by
  rw[HY rfl]
  unfold tV U2
  rw[List.getElem?_map,JX hx];rfl
 refine bs e1 ?_
 have hr:vL (kD S n.E (x:Int)):=abo h.oJ h.S3
 have e2:=abn hr (s:=s) (by omega)
 have hl:(kD S n.E (x:Int)).length=S:=by simp[kD]
 rw[hl,abp (by omega) h.oJ h.edF] at e2
 refine bs e2 ?_
 rfl
theorem adI {s:Nat} (hs:s<2^S):CC pP (uV s::ly n [])=some (.bool (sf n.fin s)::ly n []):=by
 have hp:=h.pow
 have hf:=h.fin
 refine ado ?_
 unfold SQ
 have e:IntKind.wrap .u64 ((BitVec.ofInt (IntKind.bits .u64) (s:Int)&&&BitVec.ofInt (IntKind.bits .u64) (n.fin:Int)).toNat)=((s&&&n.fin:Nat):Int):=u64_and (by omega) (by omega)
 rw[e]
 have e2:(((s&&&n.fin:Nat):Int) != 0)=sf n.fin s:=by
  unfold sf
  rw[Bool.eq_iff_iff]
  simp
 rw[e2];rfl
theorem sub_lt (i:Nat): ∀s∈ak L (sn n.E) n.st i,s<2^S:=adm (P:=fun s=>s<2^S) h.st (fun s _ x _=>h.next s x) i
theorem wg (i:Nat):(ak L (sn n.E) n.st i).length≤2^S:=by
 have:=Rv (L:=L) (next:=sn n.E) (a0:=n.st) (U:=List.range (2^S)) (List.mem_range.2 h.st) (fun s _ x _=>List.mem_range.2 (h.next s x)) i
 simpa using this
theorem adJ {T U:List Nat} {s:Nat} (hs:s<2^S) (hT:T.length≤1000) (hp:cK (sn n.E) T s L <+: U) {i c1 c2:Int} {l1 l2 l3 l4:List V}:
  Loop (E8 CC (L:Int) i (s:Int) ((List.replicate (((L:Nat):Int).toNat) (V.int .i64 0)).length:Int) n.L n.S (n.st:Int) (n.fin:Int) (n.E.map Ed.enc) c1 c2 (L:Int) 0 l1 l2 l3 l4) (0,tV n L S,List.replicate (((L:Nat):Int).toNat) (V.int .i64 0),U1 T,uM T)=
   some ((L:Int),false,tV n L S,(tab L fun x=>nV (U.idxOf (sn n.E s x))),U1 (cK (sn n.E) T s L),uM (cK (sn n.E) T s L)):=by
 have h6:=h.l6
 have S5:=h.pow
 rw[Int.toNat_natCast,oL,eV]
 refine (fO L (fun x=>((x:Int),tV n L S,(tab L fun j=>if j<x then nV (U.idxOf (sn n.E s j)) else nV 0),U1 (cK (sn n.E) T s x),uM (cK (sn n.E) T s x))) _ (fun x hx=> ?_) ?_)
 ·simp only[E8,Ai,un]
  refine bT (eL hx) ?_
  refine bs (adH h hs hx) ?_
  have hl:=SN (next:=sn n.E) T s x
  have hn:=h.next s x
  refine bs (adG (S:=cK (sn n.E) T s x) (x:=sn n.E s x) (by omega) (by omega)) ?_
  refine (fN hx).trans ?_
  rw[dh (by omega),Int.toNat_natCast,qa]
  have e:(cJ (cK (sn n.E) T s x) (sn n.E s x)).idxOf (sn n.E s x)=U.idxOf (sn n.E s x):=(vP ((vN T s (show x+1≤L by omega)).trans hp) vM).symm
  show some (Sum.inl _)=some (Sum.inl _)
  refine congrArg (fun x=>some (Sum.inl x)) ?_
  refine Prod.ext rfl (Prod.ext rfl (Prod.ext ?_ (Prod.ext rfl rfl)))
  refine eW fun j _=> ?_
  by_cases hj:j=x
  ·rw[if_pos hj,if_pos (by omega),hj,←e];rfl
  ·rw[if_neg hj]
   by_cases bW:j<x
   ·rw[if_pos bW,if_pos (by omega)]
   ·rw[if_neg bW,if_neg (by omega)]
 ·simp only[E8,Ai,un]
  refine bF (bN (Nat.le_refl _)) ?_
  rw[bN (Nat.le_refl _)]
  have:(tab L fun j=>if j<L then nV (U.idxOf (sn n.E s j)) else nV 0)=tab L fun j=>nV (U.idxOf (sn n.E s j)):=eW fun j hj=>if_pos hj
  rw[this]
theorem Ku {i:Nat} (lk:i<(ak L (sn n.E) n.st i).length) (hlen:(ak L (sn n.E) n.st i).length≤512) {U:List Nat} (hp:ak L (sn n.E) n.st (i+1) <+: U) {l1 l2 l3 l4:List V} (hl3:l3.length≤1000) (hl4:l4.length≤1000):
  we CC (L:Int) 0 0 (L:Int) 0 l1 l2 ((i:Int),tV n L S,n.L,n.S,(n.st:Int),(n.fin:Int),n.E.map Ed.enc,U1 (ak L (sn n.E) n.st i),uM (ak L (sn n.E) n.st i),l3,l4)=
   if 512<(ak L (sn n.E) n.st (i+1)).length then some (.inr (.inl (3,tV n L S,n.L,n.S,(n.st:Int),(n.fin:Int),n.E.map Ed.enc,0,0,[],[],[])))
   else some (.inl (((i+1:Nat):Int),tV n L S,n.L,n.S,(n.st:Int),(n.fin:Int),n.E.map Ed.enc,U1 (ak L (sn n.E) n.st (i+1)),uM (ak L (sn n.E) n.st (i+1)),l3++[V.bool (sf n.fin (ak L (sn n.E) n.st i)[i])],l4++[V.list ba (tab L fun x=>nV (U.idxOf (sn n.E (ak L (sn n.E) n.st i)[i] x)))])):=by
 have h6:=h.l6
 have hq:=sub_lt h i _ (List.getElem_mem lk)
 have la:ak L (sn n.E) n.st (i+1)=cK (sn n.E) (ak L (sn n.E) n.st i) (ak L (sn n.E) n.st i)[i] L:=Ro (List.getElem?_eq_getElem lk)
 simp only[we,Aj,un]
 refine bT (decide_eq_true (by rw[oH];omega)) ?_
 refine (Ex (adF lk)).trans ?_
 refine bT (nD (by omega) (by omega)) ?_
 refine bs (adJ h hq (by omega) (U:=U) (by rw[←la];exact hp)) ?_
 rw[←la]
 by_cases sO:512<(ak L (sn n.E) n.st (i+1)).length
 ·rw[if_pos sO]
  refine bT (decide_eq_true (by rw[oH];omega)) ?_
  rfl
 ·rw[if_neg sO]
  refine bF (decide_eq_false (by rw[oH];omega)) ?_
  refine bT (cap (by simp;omega) (by omega)) ?_
  refine bs (adI h hq) ?_
  refine bT (cap (by simp;omega) (by omega)) ?_
  rw[dh (by omega)]
  rfl
theorem adK (hn: ¬gM n L S): ∃X,CC tm (nV L::uV n.st:: .list dO (tV n L S)::ly n [])=some ([nV L,nV 0,.int .i64 0,.list dO (tV n L S)]++(ly n []++[.list ax (ia n L S).cu,.list aA (ia n L S).cD,X])):=by
 have h6:=h.l6
 have b7:=h.st
 have S5:=h.pow
 have hd:(ak L (sn n.E) n.st (2^S)).length≤2^S:=wg h _
 have hle: ∀i,(ak L (sn n.E) n.st i).length≤(gL n L S).length:=adj hd
 have ahH:(gL n L S).length≤512:=by unfold gM at hn;omega
 refine ⟨.list bY (U1 (gL n L S)),SX ?_⟩
 unfold Kr
 refine bs (SZ (x:=n.st) (by omega)) ?_
 have key:Loop (we CC (L:Int) 0 0 (L:Int) 0 ([]:List V) ([]:List V)) (0,tV n L S,n.L,n.S,(n.st:Int),(n.fin:Int),n.E.map Ed.enc,U1 [n.st],uM [n.st],([]:List V),([]:List V))=
   some (.inr (((gL n L S).length:Int),false,tV n L S,n.L,n.S,(n.st:Int),(n.fin:Int),n.E.map Ed.enc,U1 (gL n L S),uM (gL n L S),(ia n L S).cu,(ia n L S).cD)):=by
  refine (fO (gL n L S).length (fun i=>((i:Int),tV n L S,n.L,n.S,(n.st:Int),(n.fin:Int),n.E.map Ed.enc,U1 (ak L (sn n.E) n.st i),uM (ak L (sn n.E) n.st i),(tab i fun j=>V.bool ((ia n L S).fin j)),(tab i fun j=>jB L ((ia n L S).nx j)))) _ (fun i hi=> ?_) ?_)
  ·have lk:=En hd hi
   have hiK:i<2^S:=Nat.lt_of_lt_of_le hi hd
   have Kf:(ak L (sn n.E) n.st i)[i]=(gL n L S)[i]:=(lz (show i≤2^S by omega)).getElem lk
   have ahI:=hle (i+1)
   have ahJ:=hle i
   have:=Ku h lk (by omega) (U:=gL n L S) (lz (by omega)) (l1:=[]) (l2:=[]) (l3:=(tab i fun j=>V.bool ((ia n L S).fin j))) (l4:=(tab i fun j=>jB L ((ia n L S).nx j))) (by rw[eV];omega) (by rw[eV];omega)
   rw[if_neg (by omega),Kf] at this
   rw[this,rv,rv]
   have e1:(ia n L S).fin i=sf n.fin (gL n L S)[i]:=J3 hi
   have e2:jB L ((ia n L S).nx i)= .list ba (tab L fun x=>nV ((gL n L S).idxOf (sn n.E (gL n L S)[i] x))):=by
    unfold jB
    refine congrArg _ (eW fun x hx=> ?_)
    rw[show (ia n L S).nx i x=_ from zp hi hx];rfl
   rw[e1,e2]
  ·simp only[we,Aj,un]
   rw[show ak L (sn n.E) n.st (gL n L S).length=gL n L S from J5 hd,oH]
   refine bF (bN (Nat.le_refl _)) ?_
   rw[bN (Nat.le_refl _)]
   have e3:(ia n L S).n=(gL n L S).length:=lA
   unfold Da.cu Da.cD
   rw[e3];rfl
 refine bs key ?_
 rfl
theorem adL (hn:gM n L S): ∃X,CC tm (nV L::uV n.st:: .list dO (tV n L S)::ly n [])=some ([nV 0,nV 0,.int .i64 3,.list dO (tV n L S)]++(ly n []++[.list ax [],.list aA [],X])):=by
 have h6:=h.l6
 have b7:=h.st
 have S5:=h.pow
 obtain ⟨m,hm1,sm,hm3⟩:=adl (adk (show 512<(ak L (sn n.E) n.st (2^S)).length from hn)) (by omega)
 refine ⟨.list bY [],SX ?_⟩
 unfold Kr
 refine bs (SZ (x:=n.st) (by omega)) ?_
 have key: ∃r,Loop (we CC (L:Int) 0 0 (L:Int) 0 ([]:List V) ([]:List V)) (0,tV n L S,n.L,n.S,(n.st:Int),(n.fin:Int),n.E.map Ed.enc,U1 [n.st],uM [n.st],([]:List V),([]:List V))=some r∧r=(.inl (3,tV n L S,n.L,n.S,(n.st:Int),(n.fin:Int),n.E.map Ed.enc,0,0,[],[],[])):=by
  refine RK (fun i st=> ∃l3 l4:List V,l3.length=i∧l4.length=i∧st=((i:Int),tV n L S,n.L,n.S,(n.st:Int),(n.fin:Int),n.E.map Ed.enc,U1 (ak L (sn n.E) n.st i),uM (ak L (sn n.E) n.st i),l3,l4)) _ m 0 _ (fun i _ hi st b7=> ?_) (fun st b7=> ?_) ⟨[],[],rfl,rfl,rfl⟩
  ·obtain ⟨l3,l4,e3,e4,rfl⟩:=b7
   obtain ⟨h1,h2⟩:=sm i (by omega)
   have h3:=(sm (i+1) (by omega)).2
   have:=Ku h h1 h2 (List.prefix_refl _) (l1:=[]) (l2:=[]) (l3:=l3) (l4:=l4) (by omega) (by omega)
   rw[if_neg (by omega)] at this
   exact ⟨_,this,_,_,by simp[e3],by simp[e4],rfl⟩
  ·obtain ⟨l3,l4,e3,e4,rfl⟩:=b7
   rw[Nat.zero_add] at*
   obtain ⟨h1,h2⟩:=sm m (by omega)
   have:=Ku h h1 h2 (List.prefix_refl _) (l1:=[]) (l2:=[]) (l3:=l3) (l4:=l4) (by omega) (by omega)
   rw[if_pos (by omega)] at this
   exact ⟨_,this,rfl⟩
 obtain ⟨r,h1,rfl⟩:=key
 refine bs h1 ?_
 rfl
theorem adM (hn: ¬gM n L S): ∃X,CC yK (ly n [])=some (S4 (ia n L S) 0 (.list bY X)):=by
 obtain ⟨X,hX⟩:=adK h hn
 refine ⟨X.toList,SY ?_⟩
 unfold Ks
 have hv:=QR n h.ok
 rw[h.code] at hv
 refine bs hv (bF rfl ?_)
 have hs:=Re n h.ok h.good
 rw[h.lL,h.sS] at hs
 refine bs hs ?_
 refine bs ((congrArg (fun z=>CC tm (.int .i64 z::uV n.st:: .list dO (tV n L S)::ly n [])) h.hL).trans hX) ?_
 rfl
theorem adN (hn:gM n L S): ∃X,CC yK (ly n [])=some (S4 zD 3 (.list bY X)):=by
 obtain ⟨X,hX⟩:=adL h hn
 refine ⟨X.toList,SY ?_⟩
 unfold Ks
 have hv:=QR n h.ok
 rw[h.code] at hv
 refine bs hv (bF rfl ?_)
 have hs:=Re n h.ok h.good
 rw[h.lL,h.sS] at hs
 refine bs hs ?_
 refine bs ((congrArg (fun z=>CC tm (.int .i64 z::uV n.st:: .list dO (tV n L S)::ly n [])) h.hL).trans hX) ?_
 rfl
theorem wh (hn: ¬gM n L S):(ia n L S).Ok:=by
 unfold gM at hn
 exact Rt (wg h _) h.l1 h.l6 (show (gL n L S).length≤512 by omega)
theorem adO {w:List Nat} (hw:WL L w):(ia n L S).acc 0 w=sf n.fin (w.foldl (sn n.E) n.st):=by
 have h1:=Rs (fin:=sf n.fin) (wg h _) (zm _) hw
 have h2:=Rp (L:=L) (next:=sn n.E) (a0:=n.st) (2^S)
 rw[List.getElem?_eq_getElem (zm _)] at h2
 rw[Option.some.inj h2] at h1
 exact h1
end
end Go.AM
set_option maxRecDepth 100000
namespace Go.AM
open Go.Proofs
noncomputable abbrev S6:Code:=cy Tryd.prog (ar.aP 106)
noncomputable def Ak (C:ae) (a b':List V) (t12 t13:Int) {β:Type} (kn:Int→Option β) (kr:((Bool) ⊕ (Int × Bool))→Option β):Option β:=
 bif decide ((t13:Int)<t12) then
  (idx a t13).bind fun x1=>
  (idx b' t13).bind fun x2=>
  bif (x1.toInt:Int) != x2.toInt then
  kr (.inl false)
  else
  kn (IntKind.wrap .i64 (t13+1))
 else
  kr (.inr (t13,decide ((t13:Int)<t12)))
noncomputable def Kv (C:ae) (a b':List V) (t12:Int):(Int)→Option ((Int) ⊕ ((Bool) ⊕ (Int × Bool))):=fun t13=>Ak C a b' t12 t13 (fun y=>some (.inl y)) (fun r=>some (.inr r))
noncomputable def S7 (C:ae):cq:=fun β n ds k=>
 bif Nat.beq n 65 then bA I9 [false,false,false,true] [[0],[1,2,3,0,0]] (@Ak C) ds k else
 none
abbrev adP (C:ae) (b:cl):Prop:=cm Tryd.prog ar C (S7 C) 106 (cE Tryd.prog (ar.aP 106)) (ar.sin 106).aO.length b
theorem adQ (C:ae):adP C (.loop (ao [1,1,0,1,0,0] S6)):=
 bD I9 [false,false,false,true] [[0],[1,2,3,0,0]] (@Ak C) (by kernel_rfl) (aT (bs:=[]) (by kernel_rfl) au) (fun ds=>by kernel_rfl) (fun i x=>by kernel_rfl) (fun i x β k=>by kernel_rfl) (fun β ds k=>by kernel_rfl)
noncomputable def S8 (C:ae) (a b':List V):Option (List V):=
 bif ((a.length:Int):Int) != (b'.length:Int) then
  some [.bool false]
 else
  (Loop (Kv C a b' (a.length:Int)) 0).bind (cO (fun (jV:Bool)=>
   some [.bool jV]) (un fun (jA:Int) (mw:Bool)=>
   some [.bool true]))
theorem adR {a b':List V} {r:Option (List V)} (h:S8 CC a b'=r):CC DF [.list ba a,.list ba b']=r:=
 bj (key:=106) (L:=S7 CC) (bs:=[.loop (ao [1,1,0,1,0,0] S6)]) (by kernel_rfl) (bm (adQ CC) au) (Eq.trans (by kernel_rfl) h)
end Go.AM
set_option maxRecDepth 100000
namespace Go.AM
open Go.Proofs
noncomputable abbrev S9:Code:=cy Tryd.prog (ar.aP 104)
noncomputable def Al (C:ae) (t13:List V) (t14 t15:Int) (qk outs:List V) {β:Type} (kn:(Int × (List V) × (List V))→Option β) (kr:(Int × Bool × (List V) × (List V))→Option β):Option β:=
 bif decide ((t15:Int)<t14) then
  (idx t13 t15).bind fun x1=>
  bif cL .i64 x1.toInt&&true then
  bif !(fR (.int .i64 x1.toInt) qk) then
   bif cL .i64 x1.toInt&&true then
   bif (decide (0≤t15))&&(decide (t15<(outs.length:Int))) then
    (outs[(t15:Int).toNat]?).bind fun x2=>
    kn (IntKind.wrap .i64 (t15+1),e7 (.int .i64 x1.toInt) (.int .i64 (qk.length:Int)) qk,outs.set ((t15:Int).toNat) (.int .i64 (qk.length:Int)))
   else none
   else none
  else
   bif (decide (0≤t15))&&(decide (t15<(outs.length:Int))) then
   (outs[(t15:Int).toNat]?).bind fun x3=>
   kn (IntKind.wrap .i64 (t15+1),qk,outs.set ((t15:Int).toNat) (.int .i64 ((im (.int .i64 x1.toInt) qk (.int .i64 0)).toInt)))
   else none
  else none
 else
  kr (t15,decide ((t15:Int)<t14),qk,outs)
noncomputable def Kw (C:ae) (t13:List V) (t14:Int):(Int × (List V) × (List V))→Option ((Int × (List V) × (List V)) ⊕ (Int × Bool × (List V) × (List V))):=un fun t15=>un fun qk outs=>Al C t13 t14 t15 qk outs (fun y=>some (.inl y)) (fun r=>some (.inr r))
noncomputable def Ta (C:ae):cq:=fun β n ds k=>
 bif Nat.beq n 65 then bA I7 [false,false,true,true,true] [[1,2,0,0,0,0]] (@Al C) ds k else
 none
abbrev adS (C:ae) (b:cl):Prop:=cm Tryd.prog ar C (Ta C) 104 (cE Tryd.prog (ar.aP 104)) (ar.sin 104).aO.length b
theorem adT (C:ae):adS C (.loop (ao [1,1,1,0,1,0,0] S9)):=
 bD I7 [false,false,true,true,true] [[1,2,0,0,0,0]] (@Al C) (by kernel_rfl) (aT (bs:=[]) (by kernel_rfl) au) (fun ds=>by kernel_rfl) (fun i x=>by kernel_rfl) (fun i x β k=>by kernel_rfl) (fun β ds k=>by kernel_rfl)
noncomputable def Tb (C:ae) (l:List V):Option (List V):=
 bif (decide (0≤(l.length:Int)))&&((decide ((l.length:Int)≤(l.length:Int)))&&(Nat.ble ((((l.length:Int):Int).toNat)*8) b9)) then
  (Loop (Kw C l (l.length:Int)) (0,([]:List V),List.replicate (((l.length:Int):Int).toNat) (V.int .i64 0))).bind (un fun (jA:Int)=>un fun (mw:Bool)=>un fun (ahK:List V) (adU:List V)=>
   some [.list ba adU])
 else none
theorem adV {l:List V} {r:Option (List V)} (h:Tb CC l=r):CC yL [.list ba l]=r:=
 bj (key:=104) (L:=Ta CC) (bs:=[.loop (ao [1,1,1,0,1,0,0] S9)]) (by kernel_rfl) (bm (adT CC) au) (Eq.trans (by kernel_rfl) h)
end Go.AM
set_option maxRecDepth 100000
namespace Go.AM
open Go.Proofs
noncomputable abbrev Tc:Code:=cy Tryd.prog (ar.aP 105)
noncomputable def Am (C:ae) (p q:List V) (t11 t12:Int) (outs:List V) {β:Type} (kn:(Int × (List V))→Option β) (kr:(Int × Bool × (List V))→Option β):Option β:=
 bif decide ((t12:Int)<t11) then
  (idx p t12).bind fun x1=>
  (idx q t12).bind fun x2=>
  bif (decide (0≤t12))&&(decide (t12<(outs.length:Int))) then
  (outs[(t12:Int).toNat]?).bind fun x3=>
  kn (IntKind.wrap .i64 (t12+1),outs.set ((t12:Int).toNat) (.int .i64 (IntKind.wrap .i64 ((IntKind.wrap .i64 ((IntKind.wrap .i64 ((p.length:Int)+1))*x1.toInt))+x2.toInt))))
  else none
 else
  kr (t12,decide ((t12:Int)<t11),outs)
noncomputable def Kx (C:ae) (p q:List V) (t11:Int):(Int × (List V))→Option ((Int × (List V)) ⊕ (Int × Bool × (List V))):=un fun t12 outs=>Am C p q t11 t12 outs (fun y=>some (.inl y)) (fun r=>some (.inr r))
noncomputable def Td (C:ae):cq:=fun β n ds k=>
 bif Nat.beq n 49 then bA I8 [false,false,false,true,true] [[1,2,3,0,0,0]] (@Am C) ds k else
 none
abbrev adW (C:ae) (b:cl):Prop:=cm Tryd.prog ar C (Td C) 105 (cE Tryd.prog (ar.aP 105)) (ar.sin 105).aO.length b
theorem adX (C:ae):adW C (.loop (ao [1,1,0,1,0,0] Tc)):=
 bD I8 [false,false,false,true,true] [[1,2,3,0,0,0]] (@Am C) (by kernel_rfl) (aT (bs:=[]) (by kernel_rfl) au) (fun ds=>by kernel_rfl) (fun i x=>by kernel_rfl) (fun i x β k=>by kernel_rfl) (fun β ds k=>by kernel_rfl)
noncomputable def Te (C:ae) (p q:List V):Option (List V):=
 bif (decide (0≤(p.length:Int)))&&((decide ((p.length:Int)≤(p.length:Int)))&&(Nat.ble ((((p.length:Int):Int).toNat)*8) b9)) then
  (Loop (Kx C p q (p.length:Int)) (0,List.replicate (((p.length:Int):Int).toNat) (V.int .i64 0))).bind (un fun (jA:Int)=>un fun (mw:Bool) (adY:List V)=>
   (C yL [.list ba adY]).bind fun r7=>
   some [.list ba ((V.nth r7 0).toList)])
 else none
theorem adZ {p q:List V} {r:Option (List V)} (h:Te CC p q=r):CC DE [.list ba p,.list ba q]=r:=
 bj (key:=105) (L:=Td CC) (bs:=[.loop (ao [1,1,0,1,0,0] Tc)]) (by kernel_rfl) (bm (adX CC) au) (Eq.trans (by kernel_rfl) h)
end Go.AM
set_option maxRecDepth 100000
namespace Go.AM
open Go.Proofs
noncomputable abbrev rA:Code:=cy Tryd.prog (ar.aP 84)
noncomputable def An (C:ae) (t14 bc bw:Int) (bJ bI:List V) (t15:Int) (ps:List V) {β:Type} (kn:(Int × (List V))→Option β) (kr:(Int × Bool × (List V))→Option β):Option β:=
 bif decide ((t15:Int)<t14) then
  (idx bJ t15).bind fun x1=>
  bif x1.toBool then
  bif (decide (0≤t15))&&(decide (t15<(ps.length:Int))) then
   (ps[(t15:Int).toNat]?).bind fun x2=>
   kn (IntKind.wrap .i64 (t15+1),ps.set ((t15:Int).toNat) (.int .i64 1))
  else none
  else
  kn (IntKind.wrap .i64 (t15+1),ps)
 else
  kr (t15,decide ((t15:Int)<t14),ps)
noncomputable def Ky (C:ae) (t14 bc bw:Int) (bJ bI:List V):(Int × (List V))→Option ((Int × (List V)) ⊕ (Int × Bool × (List V))):=un fun t15 ps=>An C t14 bc bw bJ bI t15 ps (fun y=>some (.inl y)) (fun r=>some (.inr r))
noncomputable def Ao (C:ae) (p next':List V) (x t37 bc bw:Int) (bJ bI:List V) (t38:Int) (Ap:List V) {β:Type} (kn:(Int × (List V))→Option β) (kr:(Int × Bool × (List V))→Option β):Option β:=
 bif decide ((t38:Int)<t37) then
  (idx bI t38).bind fun x7=>
  (idx x7.toList x).bind fun x8=>
  (idx p x8.toInt).bind fun x9=>
  bif Nat.ble ((Ap.length+([.int .i64 x9.toInt]:List V).length)*8) b9 then
  kn (IntKind.wrap .i64 (t38+1),Ap++([.int .i64 x9.toInt]:List V))
  else none
 else
  kr (t38,decide ((t38:Int)<t37),Ap)
noncomputable def E9 (C:ae) (p next':List V) (x t37 bc bw:Int) (bJ bI:List V):(Int × (List V))→Option ((Int × (List V)) ⊕ (Int × Bool × (List V))):=un fun t38 Ap=>Ao C p next' x t37 bc bw bJ bI t38 Ap (fun y=>some (.inl y)) (fun r=>some (.inr r))
noncomputable def Aq (C:ae) (p:List V) (bc bw:Int) (bJ bI next':List V) (x:Int) {β:Type} (kn:((List V) × Int)→Option β) (kr:((List V) × Int × Bool)→Option β):Option β:=
 bif decide ((x:Int)<bc) then
  (Loop (E9 C p next' x (p.length:Int) bc bw bJ bI) (0,([]:List V))).bind (un fun (acx:Int)=>un fun (Tf:Bool) (ad0:List V)=>
   (C DE [.list ba next',.list ba ad0]).bind fun Kz=>
   kn ((V.nth Kz 0).toList,IntKind.wrap .i64 (x+1)))
 else
  kr (next',x,decide ((x:Int)<bc))
noncomputable def Fa (C:ae) (p:List V) (bc bw:Int) (bJ bI:List V):((List V) × Int)→Option (((List V) × Int) ⊕ ((List V) × Int × Bool)):=un fun next' x=>Aq C p bc bw bJ bI next' x (fun y=>some (.inl y)) (fun r=>some (.inr r))
noncomputable def Ar (C:ae) (bc bw:Int) (bJ bI p:List V) {β:Type} (kn:List V→Option β) (kr:(List V)→Option β):Option β:=
 (Loop (Fa C p bc bw bJ bI) (p,0)).bind (un fun (Tg:List V)=>un fun (ahL:Int) (EG:Bool)=>
  (C DF [.list ba Tg,.list ba p]).bind fun dv=>
  bif (V.nth dv 0).toBool then
   kr p
  else
   kn Tg)
noncomputable def As (C:ae) (bc bw:Int) (bJ bI:List V):(List V)→Option ((List V) ⊕ (List V)):=fun p=>Ar C bc bw bJ bI p (fun y=>some (.inl y)) (fun r=>some (.inr r))
noncomputable def Th (C:ae):cq:=fun β n ds k=>
 bif Nat.beq n 49 then bA IT [false,true,false,false,false,false,true] [[1,0,0,3,4,5,6,0]] (@An C) ds k else
 bif Nat.beq n 241 then bA IU [false,false,false,false,true,false,false,false,false,true] [[1,2,3,4,0,0,6,7,8,9,0]] (@Ao C) ds k else
 bif Nat.beq n 177 then bA IV [false,true,true,false,false,false,false] [[1,0,0,0,4,5,6,7]] (@Aq C) ds k else
 bif Nat.beq n 145 then bA IW [true,false,false,false,false] [[0]] (@Ar C) ds k else
 none
abbrev Fb (C:ae) (b:cl):Prop:=cm Tryd.prog ar C (Th C) 84 (cE Tryd.prog (ar.aP 84)) (ar.sin 84).aO.length b
theorem ad1 (C:ae):Fb C (.loop (ao [1,1,0,1,0,0] rA)):=
 bD IT [false,true,false,false,false,false,true] [[1,0,0,3,4,5,6,0]] (@An C) (by kernel_rfl) (aT (bs:=[]) (by kernel_rfl) au) (fun ds=>by kernel_rfl) (fun i x=>by kernel_rfl) (fun i x β k=>by kernel_rfl) (fun β ds k=>by kernel_rfl)
theorem ad2 (C:ae):Fb C (.loop (ao [1,1,1,1,0,0,0,1,0,1,0,0,1,0,0,1,0,1,0,0] rA)):=
 bD IU [false,false,false,false,true,false,false,false,false,true] [[1,2,3,4,0,0,6,7,8,9,0]] (@Ao C) (by kernel_rfl) (aT (bs:=[]) (by kernel_rfl) au) (fun ds=>by kernel_rfl) (fun i x=>by kernel_rfl) (fun i x β k=>by kernel_rfl) (fun β ds k=>by kernel_rfl)
theorem ad3 (C:ae):Fb C (.loop (ao [1,1,1,1,0,0,0,1,0,1,0,0] rA)):=
 bD IV [false,true,true,false,false,false,false] [[1,0,0,0,4,5,6,7]] (@Aq C) (by kernel_rfl) (aT (bs:=[.loop (ao [1,1,1,1,0,0,0,1,0,1,0,0,1,0,0,1,0,1,0,0] rA)]) (by kernel_rfl) (bm (ad2 C) au)) (fun ds=>by kernel_rfl) (fun i x=>by kernel_rfl) (fun i x β k=>by kernel_rfl) (fun β ds k=>by kernel_rfl)
theorem ad4 (C:ae):Fb C (.loop (ao [1,1,1,1,0,0] rA)):=
 bD IW [true,false,false,false,false] [[0]] (@Ar C) (by kernel_rfl) (aT (bs:=[.loop (ao [1,1,1,1,0,0,0,1,0,1,0,0] rA)]) (by kernel_rfl) (bm (ad3 C) au)) (fun ds=>by kernel_rfl) (fun i x=>by kernel_rfl) (fun i x β k=>by kernel_rfl) (fun β ds k=>by kernel_rfl)
noncomputable def Ti (C:ae) (bd bn:Int) (aR bh:List V):Option (List V):=
 bif (decide (0≤(aR.length:Int)))&&((decide ((aR.length:Int)≤(aR.length:Int)))&&(Nat.ble ((((aR.length:Int):Int).toNat)*8) b9)) then
  (Loop (Ky C ((List.replicate (((aR.length:Int):Int).toNat) (V.int .i64 0)).length:Int) bd bn aR bh) (0,List.replicate (((aR.length:Int):Int).toNat) (V.int .i64 0))).bind (un fun (jV:Int)=>un fun (jA:Bool) (ad5:List V)=>
   (C yL [.list ba ad5]).bind fun r6=>
   (Loop (As C bd bn aR bh) ((V.nth r6 0).toList)).bind (fun (Tj:List V)=>
    some [.list ba Tj]))
 else none
theorem ad6 {bd bn:Int} {aR bh:List V} {r:Option (List V)} (h:Ti CC bd bn aR bh=r):CC Ig [.int .i64 bd,.int .i64 bn,.list ax aR,.list aA bh]=r:=
 bj (key:=84) (L:=Th CC) (bs:=[.loop (ao [1,1,0,1,0,0] rA),.loop (ao [1,1,1,1,0,0] rA)]) (by kernel_rfl) (bm (ad1 CC) (bm (ad4 CC) au)) (Eq.trans (by kernel_rfl) h)
end Go.AM
set_option maxRecDepth 100000
set_option linter.unusedSimpArgs false
namespace Go.AM
open Go.Proofs
theorem wi {n:Nat} {c:Nat→Nat}:(cV n c).length=n:=by simp[cV]
theorem wj {n q:Nat} {c:Nat→Nat} (h:q<n):idx (cV n c) (q:Int)=some (nV (c q)):=qb h
theorem Fc {n q:Nat} {f:Nat→V} {z v:V} (hv:v=f q):(tab n fun j=>if j<q then f j else z).set q v=tab n fun j=>if j<q+1 then f j else z:=by
 rw[hv,qa]
 refine eW fun j _=> ?_
 by_cases hj:j=q
 ·rw[if_pos hj,if_pos (by omega),hj]
 ·rw[if_neg hj]
  by_cases bW:j<q
  ·rw[if_pos bW,if_pos (by omega)]
  ·rw[if_neg bW,if_neg (by omega)]
theorem KA {n:Nat} {f:Nat→V} {z:V}:(tab n fun j=>if j<n then f j else z)=tab n f:=eW fun j hj=>if_pos hj
theorem Tk {n:Nat} {g:Nat→Nat} (hn:n≤1000) (hg: ∀q,q<n→g q≤1000000000):CC yL [.list ba (cV n g)]=some [.list ba (cV n (b8 g n))]:=by
 refine adV ?_
 unfold Tb
 rw[wi]
 refine bT (nD (by omega) (by omega)) ?_
 rw[Int.toNat_natCast,oL]
 refine bs (fO n (fun i=>((i:Int),fi nV 0 (aJ g i),(tab n fun q=>if q<i then nV (b8 g n q) else nV 0))) ((n:Int),false,fi nV 0 (aJ g n),cV n (b8 g n)) (fun q hq=> ?_) ?_) ?_
 ·have hle:=qg g q
  simp only[Kw,Al,un]
  refine bT (eL hq) ?_
  refine bs (wj hq) ?_
  have hk:cL .i64 (g q:Int)=true:=EB (by have:=hg q hq;omega)
  refine bT (by simp only[nV,V.toInt_int,hk,Bool.and_self]) ?_
  have e1:=zB vV (g q) (aJ g q) 0
  rw[dh (by omega)]
  simp only[nV,V.toInt_int]
  rw[show (V.int .i64 (g q:Int))=nV (g q) from rfl]
  by_cases hx:g q∈aJ g q
  ·refine bF (by rw[show fR (nV (g q)) _=_ from e1];simpa using hx) ?_
   refine (fN hq).trans ?_
   have e2:=zC vV (g q) (.int .i64 0) (aJ g q) 0 hx
   rw[Nat.zero_add,←Sn hq hx] at e2
   rw[show im (nV (g q)) _ (.int .i64 0)=_ from e2,V.toInt_int,Int.toNat_natCast,Kh hx]
   exact congrArg (fun x=>some (Sum.inl (((q+1:Nat):Int),fi nV 0 (aJ g q),x))) (Fc (f:=fun j=>nV (b8 g n j)) rfl)
  ·refine bT (by rw[show fR (nV (g q)) _=_ from e1];simpa using hx) ?_
   refine bT (by simp only[hk,Bool.and_self]) ?_
   refine (fN hq).trans ?_
   have e2:=zE vV (g q) (aJ g q) 0 hx
   rw[Nat.zero_add] at e2
   rw[show List.length (fi nV 0 (aJ g q))=(aJ g q).length from vT _ _,show e7 (nV (g q)) _ _=_ from e2,Int.toNat_natCast,←So hq hx,Ki hx]
   exact congrArg (fun x=>some (Sum.inl (((q+1:Nat):Int),fi nV 0 (aJ g q++[g q]),x))) (Fc (f:=fun j=>nV (b8 g n j)) rfl)
 ·simp only[Kw,Al,un]
  refine bF (bN (Nat.le_refl _)) ?_
  rw[bN (Nat.le_refl _)]
  exact congrArg (fun x=>some (Sum.inr ((n:Int),false,fi nV 0 (aJ g n),x))) (KA (f:=fun j=>nV (b8 g n j)))
 ·rfl
def j7 (n:Nat) (p q:Nat→Nat) (i:Nat):Nat:=p i*(n+1)+q i
theorem ad7 {n:Nat} {p q:Nat→Nat} (hn:n≤512) (hp: ∀i,i<n→p i≤1000) (hq: ∀i,i<n→q i≤1000):CC DE [.list ba (cV n p),.list ba (cV n q)]=some [.list ba (cV n (b8 (j7 n p q) n))]:=by
 have hb: ∀i,i<n→j7 n p q i≤1000000000:=fun i hi=>by
  have h1:=hp i hi
  have h2:=hq i hi
  have:=Nat.mul_le_mul h1 (show n+1≤513 by omega)
  unfold j7
  omega
 refine adZ ?_
 unfold Te
 rw[wi]
 refine bT (nD (by omega) (by omega)) ?_
 rw[Int.toNat_natCast,oL]
 refine bs (fO n (fun i=>((i:Int),(tab n fun j=>if j<i then nV (j7 n p q j) else nV 0))) ((n:Int),false,cV n (j7 n p q)) (fun i hi=> ?_) ?_) ?_
 ·simp only[Kx,Am,un]
  refine bT (eL hi) ?_
  refine bs (wj hi) ?_
  refine bs (wj hi) ?_
  refine (fN hi).trans ?_
  have h1:=hp i hi
  have h2:=hq i hi
  have h3:=hb i hi
  have h4:IntKind.wrap .i64 ((IntKind.wrap .i64 ((IntKind.wrap .i64 (((cV n p).length:Int)+1))*(p i:Int)))+(q i:Int))=(j7 n p q i:Int):=by
   rw[wi,dh (by omega)]
   have e:((n+1:Nat):Int)*(p i:Int)=((p i*(n+1):Nat):Int):=by rw[Nat.mul_comm];push_cast;rfl
   unfold j7 at*
   rw[e]
   have h5:p i*(n+1)≤1000000000:=by omega
   generalize p i*(n+1)=z at*
   rw[wrap64 (x:=(z:Int)) (by omega) (by omega),wrap64 (by omega) (by omega)]
   push_cast;rfl
  simp only[nV,V.toInt_int]
  rw[h4,dh (by omega),Int.toNat_natCast]
  exact congrArg (fun x=>some (Sum.inl (((i+1:Nat):Int),x))) (Fc (f:=fun j=>nV (j7 n p q j)) rfl)
 ·simp only[Kx,Am,un]
  refine bF (bN (Nat.le_refl _)) ?_
  rw[bN (Nat.le_refl _)]
  exact congrArg (fun x=>some (Sum.inr ((n:Int),false,x))) (KA (f:=fun j=>nV (j7 n p q j)))
 ·simp only[un]
  refine bs (Tk (by omega) hb) ?_
  rfl
theorem Tl {n:Nat} {p q:Nat→Nat} (hn:n≤1000):CC DF [.list ba (cV n p),.list ba (cV n q)]=some [.bool (decide (∀i,i<n→p i=q i))]:=by
 refine adR ?_
 unfold S8
 rw[wi,wi]
 refine bF (by simp) ?_
 refine bs (rp (fun i=>p i=q i) n (fun i=>(i:Int)) (.inl false:Bool ⊕ (Int × Bool)) (.inr ((n:Int),false)) (fun i hi=> ?_) ?_) ?_
 ·simp only[Kv,Ak]
  refine bT (eL hi) ?_
  refine bs (wj hi) ?_
  refine bs (wj hi) ?_
  simp only[nV,V.toInt_int]
  by_cases h:p i=q i
  ·refine bF (by simp[h]) ?_
   rw[if_pos h,dh (by omega)]
  ·refine bT (by simp;omega) ?_
   rw[if_neg h]
 ·simp only[Kv,Ak]
  refine bF (bN (Nat.le_refl _)) ?_
  rw[bN (Nat.le_refl _)]
 ·by_cases h: ∀i,i<n→p i=q i
  ·rw[if_pos h,decide_eq_true h];rfl
  ·rw[if_neg h,decide_eq_false h];rfl
theorem ad8 {n:Nat} {p q:Nat→Nat} {i j:Nat} (hi:q i≤n) (hj:q j≤n):j7 n p q i=j7 n p q j↔p i=p j∧q i=q j:=by
 unfold j7
 constructor
 ·intro h
  have h1:(p i*(n+1)+q i)/(n+1)=p i:=by rw[Nat.mul_comm,Nat.mul_add_div (by omega),Nat.div_eq_of_lt (by omega)];rfl
  have h2:(p j*(n+1)+q j)/(n+1)=p j:=by rw[Nat.mul_comm,Nat.mul_add_div (by omega),Nat.div_eq_of_lt (by omega)];rfl
  have h3:p i=p j:=by rw[←h1,←h2,h]
  rw[h3] at h
  exact ⟨h3,by omega⟩
 ·rintro ⟨h1,h2⟩
  rw[h1,h2]
section
variable {a:Da} (h:a.Ok)
def iI (a:Da) (c:Nat→Nat):Nat→Nat→Nat
 | 0=>c
 | x+1=>b8 (j7 a.n (iI a c x) fun q=>c (a.nx q x)) a.n
theorem Tm {c:Nat→Nat} (hc: ∀q,q<a.n→c q<a.n): ∀x q,q<a.n→iI a c x q<a.n
 | 0,q,hq=>hc q hq
 | x+1,q,hq=>by
  have h1:=zQ (g:=j7 a.n (iI a c x) fun q=>c (a.nx q x)) hq
  have h2:=qg (j7 a.n (iI a c x) fun q=>c (a.nx q x)) a.n
  show b8 _ _ _<_
  omega
include h
theorem ad9 {c:Nat→Nat} (hc: ∀q,q<a.n→c q<a.n): ∀x,x≤a.L→∀q q',q<a.n→q'<a.n→(iI a c x q=iI a c x q'↔c q=c q'∧∀y,y<x→c (a.nx q y)=c (a.nx q' y)):=by
 intro x
 induction x with
 | zero=>intro _ q q' _ _;exact ⟨fun e=>⟨e,fun y hy=>by omega⟩,fun e=>e.1⟩
 | succ x ih=>
  intro hx q q' hq bM
  show b8 _ _ _=b8 _ _ _↔_
  rw[zR hq bM,ad8 (by have:=hc _ (h.eg hq (show x<a.L by omega));omega) (by have:=hc _ (h.eg bM (show x<a.L by omega));omega),ih (by omega) q q' hq bM]
  constructor
  ·rintro ⟨⟨e1,e2⟩,e3⟩
   refine ⟨e1,fun y hy=> ?_⟩
   rcases Nat.lt_or_ge y x with c1|c1
   ·exact e2 y c1
   ·rw[show y=x by omega];exact e3
  ·rintro ⟨e1,e2⟩
   exact ⟨⟨e1,fun y hy=>e2 y (by omega)⟩,e2 x (by omega)⟩
theorem aea {c:Nat→Nat} {x:Nat} (hx:x<a.L) {k1 k2:Int} {l1 l2:List V}:
  Loop (E9 CC (cV a.n c) l1 (x:Int) ((cV a.n c).length:Int) k1 k2 l2 a.cD) (0,([]:List V))=some ((a.n:Int),false,cV a.n fun q=>c (a.nx q x)):=by
 have hm:=h.ee
 rw[wi]
 refine (fO a.n (fun t=>((t:Int),(tab t fun q=>nV (c (a.nx q x))))) _ (fun q hq=> ?_) ?_)
 ·simp only[E9,Ao,un]
  refine bT (eL hq) ?_
  refine bs (Da.qc hq) ?_
  simp only[ry]
  refine bs (tA hx) ?_
  refine bs (wj (h.eg hq hx)) ?_
  refine bT (cap (by rw[eV];simp;omega) (by omega)) ?_
  rw[dh (by omega),rv]
  rfl
 ·simp only[E9,Ao,un]
  refine bF (bN (Nat.le_refl _)) ?_
  rw[bN (Nat.le_refl _)]
  rfl
theorem Tn {c:Nat→Nat} (hc: ∀q,q<a.n→c q<a.n) {k2:Int} {l2:List V}:
  Loop (Fa CC (cV a.n c) (a.L:Int) k2 l2 a.cD) (cV a.n c,0)=some (cV a.n (iI a c a.L),(a.L:Int),false):=by
 have hm:=h.ee
 have h6:=h.l6
 refine (fO a.L (fun x=>(cV a.n (iI a c x),(x:Int))) _ (fun x hx=> ?_) ?_)
 ·simp only[Fa,Aq,un]
  refine bT (eL hx) ?_
  refine bs (aea h hx) ?_
  refine bs (ad7 hm (fun q hq=>by have:=Tm hc x q hq;omega) fun q hq=>by have:=hc _ (h.eg hq hx);omega) ?_
  rw[dh (by omega)]
  rfl
 ·simp only[Fa,Aq,un]
  refine bF (bN (Nat.le_refl _)) ?_
  rw[bN (Nat.le_refl _)]
theorem aeb {c0:Nat→Nat} (hp0:a.Part c0) (ho0:nE c0 a.n) (Cr: ∀q,q<a.n→c0 q<a.n) {k2:Int} {l2:List V}: ∃p,Loop (As CC (a.L:Int) k2 l2 a.cD) (cV a.n c0)=some (cV a.n p)∧a.tE p∧∀q,q<a.n→p q<a.n:=by
 have hm:=h.ee
 have:=Pj (step:=As CC (a.L:Int) k2 l2 a.cD)
  (fun x=> ∃c,x=cV a.n c∧a.Part c∧nE c a.n∧∀q,q<a.n→c q<a.n)
  (fun x=>a.n-(aJ (fun q=>(x.getD q (nV 0)).toInt) a.n).length)
  (fun r=> ∃p,r=cV a.n p∧a.tE p∧∀q,q<a.n→p q<a.n) (fun x hx=> ?_) (cV a.n c0) ⟨c0,rfl,hp0,ho0,Cr⟩
 ·obtain ⟨r,h1,p,rfl,h2,h3⟩:=this
  exact ⟨p,h1,h2,h3⟩
 ·obtain ⟨c,rfl,hp,ho,hc⟩:=hx
  have mB:a.EL c (iI a c a.L):=fun q q' hq bM=>(ad9 h hc a.L (Nat.le_refl _) q q' hq bM).trans Da.tD.symm
  have hb:=Tm hc a.L
  have tH: ∀q q',q<a.n→q'<a.n→iI a c a.L q=iI a c a.L q'→c q=c q':=fun q q' hq bM e=>(Da.tD.1 ((mB q q' hq bM).1 e)).1
  have iy:nE (iI a c a.L) a.n:=by
   have h1:=h.l1
   obtain ⟨m,hm⟩: ∃m,a.L=m+1:=⟨a.L-1,by omega⟩
   rw[hm]
   exact Kj _ _
  by_cases he: ∀q,q<a.n→iI a c a.L q=c q
  ·right
   refine ⟨_,?_,c,rfl,⟨hp.Sr h fun q q' hq bM e=>(mB q q' hq bM).1 (by rw[he q hq,he q' bM,e]),ho⟩,hc⟩
   simp only[As,Ar,un]
   refine bs (Tn h hc) ?_
   refine bs (Tl (by omega)) ?_
   refine bT (by simpa using he) ?_
   rfl
  ·left
   refine ⟨cV a.n (iI a c a.L),?_,⟨iI a c a.L,rfl,mB.part h hp,iy,hb⟩,?_⟩
   ·simp only[As,Ar,un]
    refine bs (Tn h hc) ?_
    refine bs (Tl (by omega)) ?_
    refine bF (by rw[V.bS,V.lu];exact decide_eq_false he) ?_
    rfl
   ·have ec: ∀d:Nat→Nat,(aJ (fun q=>((cV a.n d).getD q (nV 0)).toInt) a.n).length=(aJ d a.n).length:=fun d=>by
     have key: ∀m,m≤a.n→aJ (fun q=>((cV a.n d).getD q (nV 0)).toInt) m=(aJ d m).map fun n:Nat=>(n:Int):=by
      intro m
      induction m with
      | zero=>intro _;rfl
      | succ m ih=>
       intro hm
       have e:((cV a.n d).getD m (nV 0)).toInt=(d m:Int):=by unfold cV;rw[vQ (by omega)];rfl
       rw[aJ,aJ,ih (by omega),e]
       unfold cJ
       by_cases hx:d m∈aJ d m
       ·rw[if_pos hx,if_pos (List.mem_map.2 ⟨d m,hx,rfl⟩)]
       ·rw[if_neg hx,if_neg]
        ·simp
        ·intro h2
         obtain ⟨y,h3,h4⟩:=List.mem_map.1 h2
         exact hx ((show y=d m by omega)▸h3)
     rw[key a.n (Nat.le_refl _),List.length_map]
    simp only[ec]
    have acZ:=Sq tH
    have hle:=qg (iI a c a.L) a.n
    have bC:(aJ c a.n).length≠(aJ (iI a c a.L) a.n).length:=by
     intro e
     have b7:=Kk tH (by omega)
     refine he fun q hq=> ?_
     have h1:=acI (f:=iI a c a.L) (c:=c) (fun s s' hs qY=>⟨tH s s' hs qY,b7 s s' hs qY⟩) q hq
     have own: ∀(d:Nat→Nat),nE d a.n→b8 d a.n q=d q:=fun d hd=>by
      have h2:d q∈aJ d a.n:=hY.2 ⟨q,hq,rfl⟩
      unfold b8
      rw[hd a.n (Nat.le_refl _)] at h2⊢
      have h3:=List.mem_range.1 h2
      have h4:=(List.nodup_range (n:=(aJ d a.n).length)).idxOf_getElem (d q) (by rw[List.length_range];exact h3)
      rwa [List.getElem_range] at h4
     rw[own _ iy,own _ ho] at h1
     exact h1
    omega
theorem aec: ∃p,CC Ig (dQ a)=some [.list ba (cV a.n p)]∧a.tE p∧∀q,q<a.n→p q<a.n:=by
 have hm:=h.ee
 have hf0: ∀q,q<a.n→(if a.fin q=true then 1 else 0)≤1000000000:=fun q _=>by split<;>omega
 have hb: ∀q,q<a.n→b8 (fun q=>if a.fin q=true then 1 else 0) a.n q<a.n:=fun q hq=>by
  have h1:=zQ (g:=fun q=>if a.fin q=true then 1 else 0) hq
  have h2:=qg (fun q=>if a.fin q=true then 1 else 0) a.n
  omega
 obtain ⟨p,h1,h2,h3⟩:=aeb h (c0:=b8 (fun q=>if a.fin q=true then 1 else 0) a.n)
  ⟨fun q q' hq bM he=>(zR hq bM).2 (by have:=he [] WL.nil;rw[Da.mz,Da.mz] at this;rw[this]),
   fun q q' hq bM he=>by
   have h1:=(zR hq bM).1 he
   revert h1
   cases a.fin q<;>cases a.fin q'<;>simp⟩ (Kj _ _) hb (k2:=(a.st:Int)) (l2:=a.cu)
 refine ⟨p,ad6 ?_,h2,h3⟩
 unfold Ti
 rw[Da.lC]
 refine bT (nD (by omega) (by omega)) ?_
 rw[Int.toNat_natCast,oL,eV]
 refine bs (fO a.n (fun i=>((i:Int),(tab a.n fun j=>if j<i then nV (if a.fin j=true then 1 else 0) else nV 0))) ((a.n:Int),false,cV a.n fun q=>if a.fin q=true then 1 else 0) (fun q hq=> ?_) ?_) ?_
 ·simp only[Ky,An,un]
  refine bT (eL hq) ?_
  refine bs (Da.vS hq) ?_
  rw[dh (by omega),V.lu]
  cases hf:a.fin q with
  | true=>
   refine bT rfl ?_
   refine (fN hq).trans ?_
   rw[Int.toNat_natCast]
   exact congrArg (fun x=>some (Sum.inl (((q+1:Nat):Int),x))) (Fc (f:=fun j=>nV (if a.fin j=true then 1 else 0)) (by rw[hf];rfl))
  | false=>
   refine bF rfl ?_
   refine congrArg (fun x=>some (Sum.inl (((q+1:Nat):Int),x))) (eW fun j _=> ?_)
   by_cases hj:j=q
   ·rw[if_neg (show¬j<q by omega),if_pos (show j<q+1 by omega),hj,hf];rfl
   ·by_cases bW:j<q
    ·rw[if_pos bW,if_pos (show j<q+1 by omega)]
    ·rw[if_neg bW,if_neg (show¬j<q+1 by omega)]
 ·simp only[Ky,An,un]
  refine bF (bN (Nat.le_refl _)) ?_
  rw[bN (Nat.le_refl _)]
  exact congrArg (fun x=>some (Sum.inr ((a.n:Int),false,x))) (KA (f:=fun j=>nV (if a.fin j=true then 1 else 0)))
 ·simp only[un]
  refine bs (Tk (by omega) hf0) ?_
  refine bs h1 ?_
  rfl
end
end Go.AM
set_option maxRecDepth 100000
set_option linter.unusedSimpArgs false
namespace Go.AM
open Go.Proofs Go.Sort
section
variable {α:Type} {enc:α→V}
def oP (enc:α→V) (d:Array α):List V:=d.toList.map enc
theorem fC (d:Array α):(oP enc d).length=d.size:=by simp[oP]
theorem fD (d:Array α) (i:Nat) (x:α):(oP enc d).set i (enc x)=oP enc (d.setIfInBounds i x):=by
 unfold oP;rw[Array.toList_setIfInBounds,List.map_set]
variable [Inhabited α]
theorem fE {d:Array α} {i:Nat} (h:i<d.size):(oP enc d)[i]? =some (enc d[i]!):=by
 unfold oP;rw[List.getElem?_map,Array.getElem?_toList,Array.getElem?_eq_getElem h,getElem!_pos d i h];rfl
theorem gN {d:Array α} {i j:Nat} {x:α} (h:i<d.size):(oP enc (d.setIfInBounds j x))[i]? =some (enc (d.setIfInBounds j x)[i]!):=fE (by rw[Array.size_setIfInBounds];exact h)
theorem fF (a b:Nat):(a:Int)+(b:Int)=((a+b:Nat):Int):=(Int.natCast_add a b).symm
theorem dw (a:Nat):(a:Int)+1=((a+1:Nat):Int):=rfl
theorem tI (a:Nat):((a+1:Nat):Int)-1=(a:Int):=by omega
theorem Au (a:Nat):(a:Int)*2=((a*2:Nat):Int):=by omega
theorem lH {a b:Nat} (h:b≤a):(a:Int)-(b:Int)=((a-b:Nat):Int):=by omega
theorem jC {a:Nat} (h:1≤a):(a:Int)-1=((a-1:Nat):Int):=by omega
theorem divC (a b:Nat):Int.tdiv (a:Int) (b:Int)=((a/b:Nat):Int):=by rw[Int.tdiv_eq_ediv_of_nonneg (by omega)];rfl
theorem mE {p:Prop} [Decidable p] (h:p):decide p=true:=decide_eq_true h
theorem rB {p:Prop} [Decidable p] (h: ¬p):decide p=false:=decide_eq_false h
variable {lt:α→α→Bool}
theorem To (a j:Nat) (d:Array α):insInner lt a (j+1) d=if j+1>a&&lt d[j+1]! d[j]! then insInner lt a j (swp d (j+1) j) else d:=rfl
theorem KB {a:Nat}: ∀(j:Nat) (d:Array α),(insInner lt a j d).size=d.size
 | 0,d=>rfl
 | j+1,d=>by
  rw[To]
  split
  ·rw[KB j,size_swp]
  ·rfl
theorem Av (hi first:Nat): ∀(n root:Nat) (d:Array α),hi-root≤n→(siftDown lt hi first root d).size=d.size:=by
 intro n
 induction n with
 | zero=>intro root d h;rw[siftDown,dif_pos (by omega)]
 | succ n ih=>
  intro root d h
  rw[siftDown]
  split
  ·rfl
  ·split
   ·split
    ·rfl
    ·split
     ·rw[ih _ _ (by omega),size_swp]
     ·rfl
   ·split
    ·rfl
    ·rw[ih _ _ (by omega),size_swp]
theorem KC (hi first:Nat): ∀(k:Nat) (d:Array α),(heapBuild lt hi first k d).size=d.size
 | 0,d=>rfl
 | k+1,d=>by rw[heapBuild,KC,Av _ _ _ _ _ (Nat.le_refl _)]
end
end Go.AM
set_option maxRecDepth 100000
set_option linter.unusedSimpArgs false
set_option maxHeartbeats 1000000
namespace Go.AM
open Go.Proofs
theorem Ed.lt_irrefl (a:Ed): ¬a.lt a:=by unfold Ed.lt;omega
theorem Ed.lt_trans {a b c:Ed}:a.lt b→b.lt c→a.lt c:=by unfold Ed.lt;omega
theorem Ed.lt_asymm {a b:Ed}:a.lt b→¬b.lt a:=by unfold Ed.lt;omega
theorem Ed.Tp {a b:Ed} (h1: ¬a.lt b) (h2: ¬b.lt a):a=b:=by
 cases a;cases b
 simp only[Ed.lt,Ed.mk.injEq] at*
 omega
abbrev mF (E:List Ed):Prop:=E.Pairwise Ed.lt
def Ed.key (e:Ed):Nat:=(e.f.toNat*6+e.l.toNat)*64+e.t.toNat
theorem Ed.aed {a b:Ed} {L S:Int} (hL:L≤6) (hS:S≤64) (ha:a.In L S) (hb:b.In L S) (h:a.lt b):a.key<b.key:=by
 unfold Ed.In at ha hb
 unfold Ed.lt at h
 unfold Ed.key
 omega
theorem aee {L S:Int} (hL:L≤6) (hS:S≤64): ∀(E:List Ed),mF E→(∀e∈E,e.In L S)→∀i (hi:i<E.length),i≤E[i].key:=by
 intro E h hE i
 induction i with
 | zero=>intro hi;omega
 | succ i ih=>
  intro hi
  have h1:=ih (by omega)
  have h2:=(List.pairwise_iff_getElem.1 h) i (i+1) (by omega) hi (by omega)
  have:=Ed.aed hL hS (hE _ (List.getElem_mem _)) (hE _ (List.getElem_mem _)) h2
  omega
theorem aef {L S:Int} (hL:L≤6) (hS:S≤64) {E:List Ed} (h:mF E) (hE: ∀e∈E,e.In L S):E.length≤24576:=by
 by_cases h0:E.length=0
 ·omega
 ·have h1:=aee hL hS E h hE (E.length-1) (by omega)
  have h2:=hE E[E.length-1] (List.getElem_mem _)
  unfold Ed.In at h2
  unfold Ed.key at h1
  omega
theorem Tq: ∀{A B:List Ed},mF A→mF B→(∀x,x∈A↔x∈B)→A=B
 | [],[],_,_,_=>rfl
 | [],b::B,_,_,h=>by have:=(h b).2 (by simp);cases this
 | a::A,[],_,_,h=>by have:=(h a).1 (by simp);cases this
 | a::A,b::B,hA,hB,h=>by
  have a1:=List.pairwise_cons.1 hA
  have b1:=List.pairwise_cons.1 hB
  have fv:a=b:=by
   have ha:=(h a).1 (by simp)
   have hb:=(h b).2 (by simp)
   rcases List.mem_cons.1 ha with e|e
   ·exact e
   ·rcases List.mem_cons.1 hb with e'|e'
    ·exact e'.symm
    ·exact absurd (a1.1 b e') (Ed.lt_asymm (b1.1 a e))
  subst fv
  rw[Tq a1.2 b1.2 fun x=> ?_]
  constructor
  ·intro hx
   rcases List.mem_cons.1 ((h x).1 (by simp[hx])) with e|e
   ·subst e;exact absurd (a1.1 x hx) (Ed.lt_irrefl x)
   ·exact e
  ·intro hx
   rcases List.mem_cons.1 ((h x).2 (by simp[hx])) with e|e
   ·subst e;exact absurd (b1.1 x hx) (Ed.lt_irrefl x)
   ·exact e
def jb (out:List Ed) (e:Ed):Nat→Nat
 | 0=>0
 | k+1=>if e.lt (out.getD k default) then jb out e k else k+1
def rC (out:List Ed) (e:Ed):List Ed:=
 if jb out e out.length=0∨¬out.getD (jb out e out.length-1) default=e then out.take (jb out e out.length)++[e]++out.drop (jb out e out.length) else out
def ql (l:List Ed):List Ed:=l.foldl rC []
theorem KD (out:List Ed) (e:Ed): ∀k,jb out e k≤k
 | 0=>Nat.le_refl _
 | k+1=>by unfold jb;split;exact Nat.le_succ_of_le (KD out e k);exact Nat.le_refl _
theorem Tr (out:List Ed) (e:Ed): ∀k i,jb out e k≤i→i<k→e.lt (out.getD i default)
 | 0,i,_,h=>by omega
 | k+1,i,h1,h2=>by
  unfold jb at h1
  split at h1
  ·rename_i h3
   by_cases hi:i=k
   ·subst hi;exact h3
   ·exact Tr out e k i h1 (by omega)
  ·omega
theorem Ts (out:List Ed) (e:Ed): ∀k,jb out e k≠0→¬e.lt (out.getD (jb out e k-1) default)
 | 0,h=>by simp[jb] at h
 | k+1,h=>by
  unfold jb at h⊢
  split
  ·rename_i h3
   rw[if_pos h3] at h
   exact Ts out e k h
  ·rename_i h3
   simpa using h3
theorem aeg {out:List Ed} {e x:Ed} (hk:jb out e out.length≤out.length):x∈rC out e↔x=e∨x∈out:=by
 unfold rC
 split
 ·rename_i h
  have:=List.take_append_drop (jb out e out.length) out
  constructor
  ·intro hx
   simp only[List.append_assoc,List.mem_append,List.mem_singleton] at hx
   rcases hx with hx|hx|hx
   ·exact .inr (List.mem_of_mem_take hx)
   ·exact .inl hx
   ·exact .inr (List.mem_of_mem_drop hx)
  ·rintro (rfl|hx)
   ·simp
   ·rw[←this] at hx
    simp only[List.mem_append] at hx
    simp only[List.append_assoc,List.mem_append,List.mem_singleton]
    rcases hx with hx|hx
    ·exact .inl hx
    ·exact .inr (.inr hx)
 ·rename_i h
  simp only[not_or,Classical.not_not] at h
  constructor
  ·exact .inr
  ·rintro (rfl|hx)
   ·have h1:=h.2
    have h2:jb out x out.length-1<out.length:=by omega
    rw[←h1]
    simp[h2]
   ·exact hx
theorem aeh {out:List Ed} {e:Ed} (h:mF out):mF (rC out e):=by
 have hk:=KD out e out.length
 have up:=Tr out e out.length
 have dn:=Ts out e out.length
 unfold rC
 generalize hq:jb out e out.length=k at*
 split
 ·rename_i hc
  have g:=List.pairwise_iff_getElem.1 h
  have gY: ∀x∈out.take k,x.lt e:=by
   intro x hx
   obtain ⟨i,hi,rfl⟩:=List.getElem_of_mem hx
   have dE:i<k:=by rw[List.length_take] at hi;omega
   have pt:i<out.length:=by omega
   rw[List.getElem_take]
   have Tt:k≠0:=by omega
   have h1:=dn Tt
   have h2: ¬out.getD (k-1) default=e:=by
    rcases hc with hc|hc
    ·exact absurd hc Tt
    ·exact hc
   have kp:k-1<out.length:=by omega
   have e1:out.getD (k-1) default=out[k-1]:=by simp[kp]
   rw[e1] at h1 h2
   have h3:out[k-1].lt e:=by
    by_cases h4:out[k-1].lt e
    ·exact h4
    ·exact absurd (Ed.Tp h4 h1) h2
   by_cases hik:i=k-1
   ·subst hik;exact h3
   ·exact Ed.lt_trans (g i (k-1) pt kp (by omega)) h3
  have gp: ∀y∈out.drop k,e.lt y:=by
   intro y hy
   obtain ⟨i,hi,rfl⟩:=List.getElem_of_mem hy
   rw[List.length_drop] at hi
   rw[List.getElem_drop]
   have:=up (k+i) (by omega) (by omega)
   have e1:out.getD (k+i) default=out[k+i]:=by simp[show k+i<out.length by omega]
   rwa [e1] at this
  rw[mF,List.append_assoc,List.pairwise_append]
  refine ⟨h.sublist (List.take_sublist _ _),?_,?_⟩
  ·rw[List.singleton_append,List.pairwise_cons]
   exact ⟨gp,h.sublist (List.drop_sublist _ _)⟩
  ·intro x hx y hy
   rw[List.singleton_append,List.mem_cons] at hy
   rcases hy with rfl|hy
   ·exact gY x hx
   ·exact Ed.lt_trans (gY x hx) (gp y hy)
 ·exact h
theorem KE: ∀(l out:List Ed),mF out→mF (l.foldl rC out)∧∀x,x∈l.foldl rC out↔x∈l∨x∈out
 | [],out,h=>⟨h,by simp⟩
 | e::l,out,h=>by
  obtain ⟨h1,h2⟩:=KE l (rC out e) (aeh h)
  refine ⟨h1,fun x=> ?_⟩
  rw[List.foldl_cons,h2,aeg (KD _ _ _)]
  simp only[List.mem_cons]
  constructor
  ·rintro (h|h|h)
   ·exact .inl (.inr h)
   ·exact .inl (.inl h)
   ·exact .inr h
  ·rintro ((h|h)|h)
   ·exact .inr (.inl h)
   ·exact .inl h
   ·exact .inr (.inr h)
theorem KF (l:List Ed):mF (ql l):=(KE l [] List.Pairwise.nil).1
theorem wk {l:List Ed} {x:Ed}:x∈ql l↔x∈l:=by
 have:=(KE l [] List.Pairwise.nil).2 x
 simpa[ql] using this
theorem Fe (a b:Ed):((a.f==b.f)&&((a.l==b.l)&&((a.t==b.t)&&true)))=decide (a=b):=by
 cases a;cases b
 rw[Bool.eq_iff_iff]
 simp
end Go.AM
set_option maxRecDepth 100000
namespace Go.AM
open Go.Proofs
noncomputable abbrev Ff:Code:=cy Tryd.prog (ar.aP 91)
noncomputable def wm (C:ae) (Aw tJ:Nat) (k' jD:Int) (ss:List V) {β:Type} (kn:(Int × Int × (List V))→Option β) (kr:(Int × Int × Bool × (List V))→Option β):Option β:=
 bif decide ((jD:Int)<(tJ:Int)) then
  bif (decide (0≤jD))&&(decide (jD<(tJ:Int))) then
  (ss[Aw+((jD:Int).toNat)]?).bind fun x3=>
  bif (decide (0≤(IntKind.wrap .i64 (jD-1))))&&(decide ((IntKind.wrap .i64 (jD-1))<(tJ:Int))) then
   (ss[Aw+((IntKind.wrap .i64 (jD-1):Int).toNat)]?).bind fun x4=>
   bif !(((((x3.cell 0).toInt):Int)==((x4.cell 0).toInt))&&(((((x3.cell 1).toInt):Int)==((x4.cell 1).toInt))&&(((((x3.cell 2).toInt):Int)==((x4.cell 2).toInt))&&true))) then
   bif (decide (0≤jD))&&(decide (jD<(tJ:Int))) then
    (ss[Aw+((jD:Int).toNat)]?).bind fun x5=>
    bif (decide (0≤k'))&&(decide (k'<(ss.length:Int))) then
    (ss[(k':Int).toNat]?).bind fun x6=>
    kn (IntKind.wrap .i64 (k'+1),IntKind.wrap .i64 (jD+1),ss.set ((k':Int).toNat) (.agg [.int .i64 ((x5.cell 0).toInt),.int .i64 ((x5.cell 1).toInt),.int .i64 ((x5.cell 2).toInt)]))
    else none
   else none
   else
   kn (k',IntKind.wrap .i64 (jD+1),ss)
  else none
  else none
 else
  kr (k',jD,decide ((jD:Int)<(tJ:Int)),ss)
noncomputable def tK (C:ae) (Aw tJ:Nat):(Int × Int × (List V))→Option ((Int × Int × (List V)) ⊕ (Int × Int × Bool × (List V))):=un fun k'=>un fun jD ss=>wm C Aw tJ k' jD ss (fun y=>some (.inl y)) (fun r=>some (.inr r))
noncomputable def wo (C:ae) (ss:List V) (k':Int) {β:Type} (kn:Int→Option β) (kr:((List V) ⊕ (Int × Bool))→Option β):Option β:=
 bif decide ((k':Int)<(ss.length:Int)) then
  bif (decide (0≤k'))&&(decide (k'<(ss.length:Int))) then
  (ss[(k':Int).toNat]?).bind fun x1=>
  bif (decide (0≤(IntKind.wrap .i64 (k'-1))))&&(decide ((IntKind.wrap .i64 (k'-1))<(ss.length:Int))) then
   (ss[(IntKind.wrap .i64 (k'-1):Int).toNat]?).bind fun x2=>
   bif ((((x1.cell 0).toInt):Int)==((x2.cell 0).toInt))&&(((((x1.cell 1).toInt):Int)==((x2.cell 1).toInt))&&(((((x1.cell 2).toInt):Int)==((x2.cell 2).toInt))&&true)) then
   bif (decide (0≤k'))&&(decide (k'≤(ss.length:Int))) then
    (Loop (tK C ((k':Int).toNat) (ss.length-((k':Int).toNat))) (k',1,ss)).bind (un fun (lI:Int)=>un fun (k_8:Int)=>un fun (tz:Bool) (qm:List V)=>
     bif (decide (0≤lI))&&(decide (lI≤(qm.length:Int))) then
     bif (decide (0≤lI))&&(decide (lI≤((qm.take ((lI:Int).toNat)++(List.replicate (qm.length-((lI:Int).toNat)) (V.agg [.int .i64 0,.int .i64 0,.int .i64 0])++qm.drop (((lI:Int).toNat)+(qm.length-((lI:Int).toNat))))).length:Int))) then
      kr (.inl ((qm.take ((lI:Int).toNat)++(List.replicate (qm.length-((lI:Int).toNat)) (V.agg [.int .i64 0,.int .i64 0,.int .i64 0])++qm.drop (((lI:Int).toNat)+(qm.length-((lI:Int).toNat))))).take ((lI:Int).toNat)))
     else none
     else none)
   else none
   else
   kn (IntKind.wrap .i64 (k'+1))
  else none
  else none
 else
  kr (.inr (k',decide ((k':Int)<(ss.length:Int))))
noncomputable def tL (C:ae) (ss:List V):(Int)→Option ((Int) ⊕ ((List V) ⊕ (Int × Bool))):=fun k'=>wo C ss k' (fun y=>some (.inl y)) (fun r=>some (.inr r))
noncomputable def Tu (C:ae):cq:=fun β n ds k=>
 bif Nat.beq n 145 then bA I1 [true,false,false,true,true] [[0,2,3,0,0,0]] (@wm C) ds k else
 bif Nat.beq n 65 then bA I4 [true,false] [[0],[0,0,2]] (@wo C) ds k else
 none
abbrev Tv (C:ae) (b:cl):Prop:=cm Tryd.prog ar C (Tu C) 91 (cE Tryd.prog (ar.aP 91)) (ar.sin 91).aO.length b
theorem aei (C:ae):Tv C (.loop (ao [1,1,0,1,0,0,1,0,0,1,0,1,0,1,0,0] Ff)):=
 bD I1 [true,false,false,true,true] [[0,2,3,0,0,0]] (@wm C) (by kernel_rfl) (aT (bs:=[]) (by kernel_rfl) au) (fun ds=>by kernel_rfl) (fun i x=>by kernel_rfl) (fun i x β k=>by kernel_rfl) (fun β ds k=>by kernel_rfl)
theorem aej (C:ae):Tv C (.loop (ao [1,1,0,1,0,0] Ff)):=
 bD I4 [true,false] [[0],[0,0,2]] (@wo C) (by kernel_rfl) (aT (bs:=[.loop (ao [1,1,0,1,0,0,1,0,0,1,0,1,0,1,0,0] Ff)]) (by kernel_rfl) (bm (aei C) au)) (fun ds=>by kernel_rfl) (fun i x=>by kernel_rfl) (fun i x β k=>by kernel_rfl) (fun β ds k=>by kernel_rfl)
noncomputable def Fg (C:ae) (ss:List V):Option (List V):=
 bif decide (((ss.length:Int):Int)<2) then
  some [V.bool true,.list an ss]
 else
  (Loop (tL C ss) 1).bind (cO (fun (aek:List V)=>
   some [V.bool false,.list an aek]) (un fun (ahM:Int) (rr:Bool)=>
   some [V.bool true,.list an ss]))
theorem KG {ss:List V} {r:Option (List V)} (h:Fg CC ss=r):CC Dz [.list an ss]=r:=
 bj (key:=91) (L:=Tu CC) (bs:=[.loop (ao [1,1,0,1,0,0] Ff)]) (by kernel_rfl) (bm (aej CC) au) (Eq.trans (by kernel_rfl) h)
end Go.AM
set_option maxRecDepth 100000
set_option linter.unusedSimpArgs false
namespace Go.AM
open Go.Proofs
def mG (prev:Ed):List Ed→List Ed
 | []=>[]
 | x::l=>if x=prev then mG x l else x::mG x l
def gO:List Ed→List Ed
 | []=>[]
 | x::l=>x::mG x l
theorem KH {l:List Ed} {j:Nat} (h:j<l.length):l.take (j+1)=l.take j++[l.getD j default]:=by
 rw[List.take_succ_eq_append_getElem h];simp[h]
theorem Tw {l ss:List Ed} {j:Nat} (hl:ss.length=l.length) (h:ss.drop j=l.drop j) (hj:j<l.length):ss.getD j default=l.getD j default:=by
 have h1:=congrArg (fun x:List Ed=>x.getD 0 default) h
 simpa[hj,hl] using h1
theorem Ax {l:List Ed} {i:Nat} (h:i<l.length):(l.map Ed.enc)[i]? =some (l.getD i default).enc:=by simp[h]
theorem ael (ss:List Ed) (m:Nat) (z:V) (hm:m≤ss.length):((((ss.map Ed.enc).take m++(List.replicate ((ss.map Ed.enc).length-m) z++(ss.map Ed.enc).drop (m+((ss.map Ed.enc).length-m)))).take m)=(ss.take m).map Ed.enc):=by
 rw[List.take_append_of_le_length (by simp;omega),List.take_of_length_le (by simp;omega),List.map_take]
theorem Tx: ∀(m:List Ed) (prev x:Ed),mG prev (m++[x])=mG prev m++(if x=(prev::m).getD m.length default then [] else [x])
 | [],prev,x=>by simp only[List.nil_append,mG,List.length_nil,List.getD_cons_zero]
 | y::m,prev,x=>by
  have ih:=Tx m y x
  simp only[List.cons_append,mG,List.length_cons,List.getD_cons_succ]
  split
  ·exact ih
  ·rw[ih];rfl
theorem Tz {l:List Ed} {p:Nat} (h1:1≤p) (h2:p<l.length):gO (l.take (p+1))=gO (l.take p)++(if l.getD p default=l.getD (p-1) default then [] else [l.getD p default]):=by
 match l,p,h1,h2 with
 | y::l,p+1,_,h2=>
  simp only[List.length_cons] at h2
  rw[List.take_succ_cons,List.take_succ_cons,gO,gO,KH (by omega),Tx]
  simp only[List.getD_cons_succ,List.length_take,Nat.add_sub_cancel]
  rw[show min p l.length=p by omega]
  have:(y::l.take p).getD p default=(y::l).getD p default:=by
   match p with
   | 0=>rfl
   | q+1=>simp only[List.getD_cons_succ];rw[List.getD_eq_getElem?_getD,List.getD_eq_getElem?_getD,List.getElem?_take_of_lt (by omega)]
  rw[this];rfl
theorem TA: ∀(m:List Ed) (prev:Ed),(prev::m).Pairwise (fun x y=> ¬y.lt x)→mF (prev::mG prev m)∧∀x,x∈prev::mG prev m↔x∈prev::m
 | [],prev,_=>⟨by simp[mG],by simp[mG]⟩
 | y::m,prev,h=>by
  have h1:=List.pairwise_cons.1 h
  obtain ⟨i1,i2⟩:=TA m y h1.2
  rw[mG]
  by_cases hc:y=prev
  ·rw[if_pos hc]
   subst hc
   refine ⟨i1,fun x=> ?_⟩
   rw[i2 x];simp
  ·rw[if_neg hc]
   have aK:prev.lt y:=by
    by_cases h2:prev.lt y
    ·exact h2
    ·exact absurd (Ed.Tp h2 (h1.1 y (by simp))) fun e=>hc e.symm
   refine ⟨List.pairwise_cons.2 ⟨fun x hx=> ?_,i1⟩,fun x=> ?_⟩
   ·rcases List.mem_cons.1 hx with rfl|hx
    ·exact aK
    ·exact Ed.lt_trans aK ((List.pairwise_cons.1 i1).1 x hx)
   ·rw[List.mem_cons,i2 x,←List.mem_cons]
theorem aem {l:List Ed} (h:l.Pairwise (fun x y=> ¬y.lt x)):mF (gO l)∧∀x,x∈gO l↔x∈l:=by
 match l,h with
 | [],_=>exact ⟨List.Pairwise.nil,fun _=>Iff.rfl⟩
 | y::l,h=>exact TA l y h
section
variable {l:List Ed} (hn:l.length≤1000000)
include hn
theorem aen {k:Nat}: ∀(d k2 i:Nat) (ss:List Ed),k+k2+d=l.length→1≤k2→i+1≤k+k2→ss.length=l.length→ss.take i=gO (l.take (k+k2))→ss.drop (k+k2-1)=l.drop (k+k2-1)→
  ∃t u wq,Loop (tK CC k (l.length-k)) ((i:Int),(k2:Int),ss.map Ed.enc)=some (((gO l).length:Int),u,t,List.map Ed.enc wq)∧wq.take (gO l).length=gO l∧wq.length=l.length:=by
 intro d
 induction d with
 | zero=>
  intro k2 i ss hj rf hi hl ht hd
  have e0:l.take (k+k2)=l:=List.take_of_length_le (by omega)
  rw[e0] at ht
  have mg:i=(gO l).length:=by rw[←ht,List.length_take];omega
  refine ⟨false,(k2:Int),ss,bO ?_,by rw[←mg];exact ht,hl⟩
  simp only[tK,wm,un,List.length_map,aE]
  rw[if_neg (by omega),decide_eq_false (by omega),mg]
 | succ d ih=>
  intro k2 i ss hj rf hi hl ht hd
  have hp:k+k2<l.length:=by omega
  have ma:ss.drop (k+k2)=l.drop (k+k2):=by
   have h:=congrArg (List.drop 1) hd
   rw[List.drop_drop,List.drop_drop] at h
   rwa [show k+k2-1+1=k+k2 by omega] at h
  have g1:=Tw hl ma hp
  have g0:=Tw hl hd (show k+k2-1<l.length by omega)
  have x1:(ss.map Ed.enc)[k+k2]? =some (l.getD (k+k2) default).enc:=by rw[Ax (by omega),g1]
  have x0:(ss.map Ed.enc)[k+(k2-1)]? =some (l.getD (k+k2-1) default).enc:=by rw[show k+(k2-1)=k+k2-1 by omega,Ax (by omega),g0]
  have w1:IntKind.wrap .i64 ((k2:Int)-1)=((k2-1:Nat):Int):=by rw[wrap64 (by omega) (by omega)];omega
  have t1:((k2:Nat):Int)<((l.length-k:Nat):Int):=by omega
  have t2:(0:Int)≤((k2:Nat):Int):=by omega
  have t3:(0:Int)≤((k2-1:Nat):Int):=by omega
  have t4:((k2-1:Nat):Int)<((l.length-k:Nat):Int):=by omega
  have t5:((i:Nat):Int)<(ss.length:Int):=by omega
  have t6:(0:Int)≤((i:Nat):Int):=by omega
  have xW: ∃y,(ss.map Ed.enc)[i]? =some y:=⟨_,Ax (by omega)⟩
  obtain ⟨y,hy⟩:=xW
  have cs:=Tz (l:=l) (p:=k+k2) (by omega) hp
  by_cases he:l.getD (k+k2) default=l.getD (k+k2-1) default
  ·have b7:tK CC k (l.length-k) ((i:Int),(k2:Int),ss.map Ed.enc)=some (.inl ((i:Int),((k2+1:Nat):Int),ss.map Ed.enc)):=by
    simp only[tK,wm,un]
    refine bT (decide_eq_true t1) ?_
    refine bT (Bool.and_eq_true_iff.2 ⟨decide_eq_true t2,decide_eq_true t1⟩) ?_
    rw[Int.toNat_natCast]
    refine bs x1 ?_
    rw[w1]
    refine bT (Bool.and_eq_true_iff.2 ⟨decide_eq_true t3,decide_eq_true t4⟩) ?_
    rw[Int.toNat_natCast]
    refine bs x0 ?_
    simp only[Ed.c8,Ed.c9,Ed.da,Fe]
    rw[decide_eq_true he]
    refine bF rfl ?_
    rw[wrap64 (by omega) (by omega)]
    rfl
   rw[dI b7]
   refine ih (k2+1) i ss (by omega) (by omega) (by omega) hl ?_ (by rw[show k+(k2+1)-1=k+k2 by omega];exact ma)
   rw[show k+(k2+1)=k+k2+1 by omega,cs,if_pos he,List.append_nil,ht]
  ·have b7:tK CC k (l.length-k) ((i:Int),(k2:Int),ss.map Ed.enc)=some (.inl (((i+1:Nat):Int),((k2+1:Nat):Int),(ss.set i (l.getD (k+k2) default)).map Ed.enc)):=by
    simp only[tK,wm,un]
    refine bT (decide_eq_true t1) ?_
    refine bT (Bool.and_eq_true_iff.2 ⟨decide_eq_true t2,decide_eq_true t1⟩) ?_
    rw[Int.toNat_natCast]
    refine bs x1 ?_
    rw[w1]
    refine bT (Bool.and_eq_true_iff.2 ⟨decide_eq_true t3,decide_eq_true t4⟩) ?_
    rw[Int.toNat_natCast]
    refine bs x0 ?_
    simp only[Ed.c8,Ed.c9,Ed.da,Fe]
    rw[decide_eq_false he]
    refine bT rfl ?_
    refine bT (Bool.and_eq_true_iff.2 ⟨decide_eq_true t2,decide_eq_true t1⟩) ?_
    refine bs x1 ?_
    refine bT (by rw[List.length_map];exact Bool.and_eq_true_iff.2 ⟨decide_eq_true t6,decide_eq_true t5⟩) ?_
    rw[Int.toNat_natCast]
    refine bs hy ?_
    simp only[Ed.c8,Ed.c9,Ed.da,Ed.re]
    rw[wrap64 (by omega) (by omega),wrap64 (by omega) (by omega),List.map_set]
    rfl
   rw[dI b7]
   refine ih (k2+1) (i+1) (ss.set i (l.getD (k+k2) default)) (by omega) (by omega) (by omega) (by simpa using hl) ?_ ?_
   ·rw[KH (by rw[List.length_set];omega),List.take_set_of_le (Nat.le_refl i),ht,show k+(k2+1)=k+k2+1 by omega,cs,if_neg he]
    simp[show i<ss.length by omega]
   ·rw[show k+(k2+1)-1=k+k2 by omega,List.drop_set_of_lt (by omega),ma]
theorem aeo: ∀(d p:Nat),p+d=l.length→1≤p→gO (l.take p)=l.take p→
  (gO l=l∧∃t,Loop (tL CC (l.map Ed.enc)) (p:Int)=some (.inr t))∨Loop (tL CC (l.map Ed.enc)) (p:Int)=some (.inl ((gO l).map Ed.enc)):=by
 intro d
 induction d with
 | zero=>
  intro p hp h1 hc
  obtain rfl:p=l.length:=by omega
  rw[List.take_length] at hc
  refine .inl ⟨hc,((l.length:Int),false),bO ?_⟩
  simp only[tL,wo,List.length_map,aE]
  rw[if_neg (by omega),decide_eq_false (by omega)]
 | succ d ih=>
  intro p hp h1 hc
  have fc:p<l.length:=by omega
  have cs:=Tz (l:=l) h1 fc
  have x1:(l.map Ed.enc)[p]? =some (l.getD p default).enc:=Ax fc
  have x0:(l.map Ed.enc)[p-1]? =some (l.getD (p-1) default).enc:=Ax (by omega)
  have w1:IntKind.wrap .i64 ((p:Int)-1)=((p-1:Nat):Int):=by rw[wrap64 (by omega) (by omega)];omega
  have t1:((p:Nat):Int)<(l.length:Int):=by omega
  have t2:(0:Int)≤((p:Nat):Int):=by omega
  have t3:(0:Int)≤((p-1:Nat):Int):=by omega
  have t4:((p-1:Nat):Int)<(l.length:Int):=by omega
  have t5:((p:Nat):Int)≤(l.length:Int):=by omega
  by_cases he:l.getD p default=l.getD (p-1) default
  ·refine .inr (bO ?_)
   obtain ⟨t,u,wq,e1,e2,e3⟩:=aen hn (k:=p) (l.length-(p+1)) 1 p l (by omega) (by omega) (by omega) rfl (by rw[cs,if_pos he,List.append_nil,hc]) rfl
   have hm:(gO l).length≤wq.length:=by
    have:=congrArg List.length e2
    rw[List.length_take] at this
    omega
   have m1:(0:Int)≤(((gO l).length:Nat):Int):=by omega
   have m2:(((gO l).length:Nat):Int)≤((wq.map Ed.enc).length:Int):=by rw[List.length_map];omega
   simp only[tL,wo,List.length_map]
   refine bT (decide_eq_true t1) ?_
   refine bT (Bool.and_eq_true_iff.2 ⟨decide_eq_true t2,decide_eq_true t1⟩) ?_
   rw[Int.toNat_natCast]
   refine bs x1 ?_
   rw[w1]
   refine bT (Bool.and_eq_true_iff.2 ⟨decide_eq_true t3,decide_eq_true t4⟩) ?_
   rw[Int.toNat_natCast]
   refine bs x0 ?_
   simp only[Ed.c8,Ed.c9,Ed.da,Fe]
   rw[decide_eq_true he]
   refine bT rfl ?_
   refine bT (Bool.and_eq_true_iff.2 ⟨decide_eq_true t2,decide_eq_true t5⟩) ?_
   refine (congrArg (fun o=>Option.bind o _) e1).trans ?_
   simp only[Option.bind_some,un,dG,aE,Int.toNat_natCast]
   rw[if_pos m1,if_pos m2,if_pos m1,if_pos (by simp only[List.length_append,List.length_take,List.length_replicate,List.length_drop,List.length_map];omega),ael _ _ _ hm,e2]
  ·have b7:tL CC (l.map Ed.enc) (p:Int)=some (.inl ((p+1:Nat):Int)):=by
    simp only[tL,wo,List.length_map]
    refine bT (decide_eq_true t1) ?_
    refine bT (Bool.and_eq_true_iff.2 ⟨decide_eq_true t2,decide_eq_true t1⟩) ?_
    rw[Int.toNat_natCast]
    refine bs x1 ?_
    rw[w1]
    refine bT (Bool.and_eq_true_iff.2 ⟨decide_eq_true t3,decide_eq_true t4⟩) ?_
    rw[Int.toNat_natCast]
    refine bs x0 ?_
    simp only[Ed.c8,Ed.c9,Ed.da,Fe]
    rw[decide_eq_false he]
    refine bF rfl ?_
    rw[wrap64 (by omega) (by omega)]
    rfl
   rw[dI b7]
   exact ih (p+1) (by omega) (by omega) (by rw[cs,if_neg he,hc,←KH fc])
theorem TB: ∃b,CC Dz [.list an (l.map Ed.enc)]=some [.bool b,.list an ((gO l).map Ed.enc)]:=by
 by_cases h2:l.length<2
 ·refine ⟨true,KG ?_⟩
  unfold Fg
  rw[List.length_map,aE,if_pos (by omega)]
  match l,h2 with
  | [],_=>rfl
  | [k],_=>rfl
 ·rcases aeo hn (l.length-1) 1 (by omega) (by omega) (by
   match l,h2 with
   | k::l,_=>rfl) with ⟨h3,t,h4⟩|h4
  ·refine ⟨true,KG ?_⟩
   unfold Fg
   rw[List.length_map,aE,if_neg (by omega)]
   refine (congrArg (fun o=>Option.bind o _) h4).trans ?_
   rw[h3];rfl
  ·refine ⟨false,KG ?_⟩
   unfold Fg
   rw[List.length_map,aE,if_neg (by omega)]
   refine (congrArg (fun o=>Option.bind o _) h4).trans ?_
   rfl
end
end Go.AM
set_option maxRecDepth 100000
namespace Go.AM
open Go.Proofs
noncomputable def TC (C:ae) (pY pZ p5 p6 p7 p8:Int):Option (List V):=
 (C pO [.int .i64 pY,.int .i64 p6]).bind fun r1=>
 (C pO [.int .i64 pZ,.int .i64 p7]).bind fun r2=>
 (C pO [.int .i64 p5,.int .i64 p8]).bind fun r3=>
 (C yJ [.list ba ([.int .i64 ((V.nth r1 0).toInt),.int .i64 ((V.nth r2 0).toInt),.int .i64 ((V.nth r3 0).toInt)]:List V)]).bind fun r4=>
 some [.int .i64 ((V.nth r4 0).toInt)]
theorem aep {pY pZ p5 p6 p7 p8:Int} {r:Option (List V)} (h:TC CC pY pZ p5 p6 p7 p8=r):CC aW [.int .i64 pY,.int .i64 pZ,.int .i64 p5,.int .i64 p6,.int .i64 p7,.int .i64 p8]=r:=
 bj (key:=88) (L:=cP) (bs:=[]) (by kernel_rfl) au (Eq.trans (by kernel_rfl) h)
end Go.AM
set_option maxRecDepth 100000
set_option linter.unusedSimpArgs false
namespace Go.AM
open Go.Proofs
theorem ga (a b:Ed):CC aW [.int .i64 a.f,.int .i64 a.l,.int .i64 a.t,.int .i64 b.f,.int .i64 b.l,.int .i64 b.t]=some [.int .i64 (bG a b)]:=by
 refine aep ?_
 unfold TC
 refine bs (vJ _ _) ?_
 refine bs (vJ _ _) ?_
 refine bs (vJ _ _) ?_
 refine bs (QO _ _ _) ?_
 rfl
end Go.AM
set_option maxRecDepth 100000
namespace Go.AM
open Go.Proofs
noncomputable abbrev Fh:Code:=cy Tryd.prog (ar.aP 170)
noncomputable def wu (C:ae) (a b' i j:Int) (af:List V) {β:Type} (kn:(Int × (List V))→Option β) (kr:(Int × Bool × (List V))→Option β):Option β:=
 bif decide ((j:Int)>a) then
  bif (decide (0≤j))&&(decide (j<(af.length:Int))) then
  (af[(j:Int).toNat]?).bind fun x1=>
  bif (decide (0≤(IntKind.wrap .i64 (j-1))))&&(decide ((IntKind.wrap .i64 (j-1))<(af.length:Int))) then
   (af[(IntKind.wrap .i64 (j-1):Int).toNat]?).bind fun x2=>
   (C aW [.int .i64 ((x1.cell 0).toInt),.int .i64 ((x1.cell 1).toInt),.int .i64 ((x1.cell 2).toInt),.int .i64 ((x2.cell 0).toInt),.int .i64 ((x2.cell 1).toInt),.int .i64 ((x2.cell 2).toInt)]).bind fun r3=>
   bif decide ((((V.nth r3 0).toInt):Int)<0) then
   bif (decide (0≤(IntKind.wrap .i64 (j-1))))&&(decide ((IntKind.wrap .i64 (j-1))<(af.length:Int))) then
    (af[(IntKind.wrap .i64 (j-1):Int).toNat]?).bind fun x4=>
    bif (decide (0≤j))&&(decide (j<(af.length:Int))) then
    (af[(j:Int).toNat]?).bind fun x5=>
    bif (decide (0≤j))&&(decide (j<(af.length:Int))) then
     (af[(j:Int).toNat]?).bind fun x6=>
     bif (decide (0≤(IntKind.wrap .i64 (j-1))))&&(decide ((IntKind.wrap .i64 (j-1))<((af.set ((j:Int).toNat) (.agg [.int .i64 ((x4.cell 0).toInt),.int .i64 ((x4.cell 1).toInt),.int .i64 ((x4.cell 2).toInt)])).length:Int))) then
     ((af.set ((j:Int).toNat) (.agg [.int .i64 ((x4.cell 0).toInt),.int .i64 ((x4.cell 1).toInt),.int .i64 ((x4.cell 2).toInt)]))[(IntKind.wrap .i64 (j-1):Int).toNat]?).bind fun x7=>
     kn (IntKind.wrap .i64 (j-1),(af.set ((j:Int).toNat) (.agg [.int .i64 ((x4.cell 0).toInt),.int .i64 ((x4.cell 1).toInt),.int .i64 ((x4.cell 2).toInt)])).set ((IntKind.wrap .i64 (j-1):Int).toNat) (.agg [.int .i64 ((x5.cell 0).toInt),.int .i64 ((x5.cell 1).toInt),.int .i64 ((x5.cell 2).toInt)]))
     else none
    else none
    else none
   else none
   else
   kr (j,decide ((((V.nth r3 0).toInt):Int)<0),af)
  else none
  else none
 else
  kr (j,false,af)
noncomputable def wv (C:ae) (a b' i:Int):(Int × (List V))→Option ((Int × (List V)) ⊕ (Int × Bool × (List V))):=un fun j af=>wu C a b' i j af (fun y=>some (.inl y)) (fun r=>some (.inr r))
noncomputable def Ay (C:ae) (a b' i:Int) (af:List V) {β:Type} (kn:(Int × (List V))→Option β) (kr:(Int × Bool × (List V))→Option β):Option β:=
 bif decide ((i:Int)<b') then
  (Loop (wv C a b' i) (i,af)).bind (un fun (j_8:Int)=>un fun (tz:Bool) (nF:List V)=>
   kn (IntKind.wrap .i64 (i+1),nF))
 else
  kr (i,decide ((i:Int)<b'),af)
noncomputable def Fi (C:ae) (a b':Int):(Int × (List V))→Option ((Int × (List V)) ⊕ (Int × Bool × (List V))):=un fun i af=>Ay C a b' i af (fun y=>some (.inl y)) (fun r=>some (.inr r))
noncomputable def TD (C:ae):cq:=fun β n ds k=>
 bif Nat.beq n 65 then bA Jt [false,false,false,true,true] [[1,2,3,0,0,0]] (@wu C) ds k else
 bif Nat.beq n 17 then bA Ju [false,false,true,true] [[1,2,0,0,0]] (@Ay C) ds k else
 none
abbrev TE (C:ae) (b:cl):Prop:=cm Tryd.prog ar C (TD C) 170 (cE Tryd.prog (ar.aP 170)) (ar.sin 170).aO.length b
theorem aeq (C:ae):TE C (.loop (ao [1,0,0,1,0,0,1,0,0] Fh)):=
 bD Jt [false,false,false,true,true] [[1,2,3,0,0,0]] (@wu C) (by kernel_rfl) (aT (bs:=[]) (by kernel_rfl) au) (fun ds=>by kernel_rfl) (fun i x=>by kernel_rfl) (fun i x β k=>by kernel_rfl) (fun β ds k=>by kernel_rfl)
theorem aer (C:ae):TE C (.loop (ao [1,0,0] Fh)):=
 bD Ju [false,false,true,true] [[1,2,0,0,0]] (@Ay C) (by kernel_rfl) (aT (bs:=[.loop (ao [1,0,0,1,0,0,1,0,0] Fh)]) (by kernel_rfl) (bm (aeq C) au)) (fun ds=>by kernel_rfl) (fun i x=>by kernel_rfl) (fun i x β k=>by kernel_rfl) (fun β ds k=>by kernel_rfl)
noncomputable def TF (C:ae) (a b':Int) (af:List V):Option (List V):=
 (Loop (Fi C a b') (IntKind.wrap .i64 (a+1),af)).bind (un fun (ahN:Int)=>un fun (E4:Bool) (KI:List V)=>
  some [.list an KI])
theorem aes {a b':Int} {af:List V} {r:Option (List V)} (h:TF CC a b' af=r):CC DO [.int .i64 a,.int .i64 b',.list an af]=r:=
 bj (key:=170) (L:=TD CC) (bs:=[.loop (ao [1,0,0] Fh)]) (by kernel_rfl) (bm (aer CC) au) (Eq.trans (by kernel_rfl) h)
end Go.AM
set_option maxRecDepth 100000
namespace Go.AM
open Go.Proofs
noncomputable abbrev wx:Code:=cy Tryd.prog (ar.aP 177)
noncomputable def tM (C:ae) (hi first root child:Int) (t40:Bool) (af:List V) {β:Type} (kr:(Int)→Option β):Option β:=
 bif t40 then
  kr (IntKind.wrap .i64 (child+1))
 else
  kr child
noncomputable def rD (C:ae) (hi first root:Int) (af:List V) {β:Type} (kn:(Int × (List V))→Option β) (kr:((Int × Int × Bool × (List V)) ⊕ (Int × Int × Bool × (List V)))→Option β):Option β:=
 bif decide (((IntKind.wrap .i64 ((IntKind.wrap .i64 (root*2))+1)):Int)≥hi) then
  kr (.inl (root,IntKind.wrap .i64 ((IntKind.wrap .i64 (root*2))+1),decide (((IntKind.wrap .i64 ((IntKind.wrap .i64 (root*2))+1)):Int)≥hi),af))
 else
  bif decide (((IntKind.wrap .i64 ((IntKind.wrap .i64 ((IntKind.wrap .i64 (root*2))+1))+1)):Int)<hi) then
  bif (decide (0≤(IntKind.wrap .i64 (first+(IntKind.wrap .i64 ((IntKind.wrap .i64 (root*2))+1))))))&&(decide ((IntKind.wrap .i64 (first+(IntKind.wrap .i64 ((IntKind.wrap .i64 (root*2))+1))))<(af.length:Int))) then
   (af[(IntKind.wrap .i64 (first+(IntKind.wrap .i64 ((IntKind.wrap .i64 (root*2))+1))):Int).toNat]?).bind fun x1=>
   bif (decide (0≤(IntKind.wrap .i64 ((IntKind.wrap .i64 (first+(IntKind.wrap .i64 ((IntKind.wrap .i64 (root*2))+1))))+1))))&&(decide ((IntKind.wrap .i64 ((IntKind.wrap .i64 (first+(IntKind.wrap .i64 ((IntKind.wrap .i64 (root*2))+1))))+1))<(af.length:Int))) then
   (af[(IntKind.wrap .i64 ((IntKind.wrap .i64 (first+(IntKind.wrap .i64 ((IntKind.wrap .i64 (root*2))+1))))+1):Int).toNat]?).bind fun x2=>
   (C aW [.int .i64 ((x1.cell 0).toInt),.int .i64 ((x1.cell 1).toInt),.int .i64 ((x1.cell 2).toInt),.int .i64 ((x2.cell 0).toInt),.int .i64 ((x2.cell 1).toInt),.int .i64 ((x2.cell 2).toInt)]).bind fun r3=>
   tM C hi first root (IntKind.wrap .i64 ((IntKind.wrap .i64 (root*2))+1)) (decide ((((V.nth r3 0).toInt):Int)<0)) af (fun (mH:Int)=>
    bif (decide (0≤(IntKind.wrap .i64 (first+root))))&&(decide ((IntKind.wrap .i64 (first+root))<(af.length:Int))) then
     (af[(IntKind.wrap .i64 (first+root):Int).toNat]?).bind fun x5=>
     bif (decide (0≤(IntKind.wrap .i64 (first+mH))))&&(decide ((IntKind.wrap .i64 (first+mH))<(af.length:Int))) then
     (af[(IntKind.wrap .i64 (first+mH):Int).toNat]?).bind fun x6=>
     (C aW [.int .i64 ((x5.cell 0).toInt),.int .i64 ((x5.cell 1).toInt),.int .i64 ((x5.cell 2).toInt),.int .i64 ((x6.cell 0).toInt),.int .i64 ((x6.cell 1).toInt),.int .i64 ((x6.cell 2).toInt)]).bind fun r7=>
     bif !(decide ((((V.nth r7 0).toInt):Int)<0)) then
      kr (.inr (root,mH,!(decide ((((V.nth r7 0).toInt):Int)<0)),af))
     else
      bif (decide (0≤(IntKind.wrap .i64 (first+mH))))&&(decide ((IntKind.wrap .i64 (first+mH))<(af.length:Int))) then
      (af[(IntKind.wrap .i64 (first+mH):Int).toNat]?).bind fun x8=>
      bif (decide (0≤(IntKind.wrap .i64 (first+root))))&&(decide ((IntKind.wrap .i64 (first+root))<(af.length:Int))) then
       (af[(IntKind.wrap .i64 (first+root):Int).toNat]?).bind fun x9=>
       bif (decide (0≤(IntKind.wrap .i64 (first+root))))&&(decide ((IntKind.wrap .i64 (first+root))<(af.length:Int))) then
       (af[(IntKind.wrap .i64 (first+root):Int).toNat]?).bind fun iG=>
       bif (decide (0≤(IntKind.wrap .i64 (first+mH))))&&(decide ((IntKind.wrap .i64 (first+mH))<((af.set ((IntKind.wrap .i64 (first+root):Int).toNat) (.agg [.int .i64 ((x8.cell 0).toInt),.int .i64 ((x8.cell 1).toInt),.int .i64 ((x8.cell 2).toInt)])).length:Int))) then
        ((af.set ((IntKind.wrap .i64 (first+root):Int).toNat) (.agg [.int .i64 ((x8.cell 0).toInt),.int .i64 ((x8.cell 1).toInt),.int .i64 ((x8.cell 2).toInt)]))[(IntKind.wrap .i64 (first+mH):Int).toNat]?).bind fun fA=>
        kn (mH,(af.set ((IntKind.wrap .i64 (first+root):Int).toNat) (.agg [.int .i64 ((x8.cell 0).toInt),.int .i64 ((x8.cell 1).toInt),.int .i64 ((x8.cell 2).toInt)])).set ((IntKind.wrap .i64 (first+mH):Int).toNat) (.agg [.int .i64 ((x9.cell 0).toInt),.int .i64 ((x9.cell 1).toInt),.int .i64 ((x9.cell 2).toInt)]))
       else none
       else none
      else none
      else none
     else none
    else none)
   else none
  else none
  else
  tM C hi first root (IntKind.wrap .i64 ((IntKind.wrap .i64 (root*2))+1)) false af (fun (mI:Int)=>
   bif (decide (0≤(IntKind.wrap .i64 (first+root))))&&(decide ((IntKind.wrap .i64 (first+root))<(af.length:Int))) then
    (af[(IntKind.wrap .i64 (first+root):Int).toNat]?).bind fun jc=>
    bif (decide (0≤(IntKind.wrap .i64 (first+mI))))&&(decide ((IntKind.wrap .i64 (first+mI))<(af.length:Int))) then
    (af[(IntKind.wrap .i64 (first+mI):Int).toNat]?).bind fun nG=>
    (C aW [.int .i64 ((jc.cell 0).toInt),.int .i64 ((jc.cell 1).toInt),.int .i64 ((jc.cell 2).toInt),.int .i64 ((nG.cell 0).toInt),.int .i64 ((nG.cell 1).toInt),.int .i64 ((nG.cell 2).toInt)]).bind fun dW=>
    bif !(decide ((((V.nth dW 0).toInt):Int)<0)) then
     kr (.inr (root,mI,!(decide ((((V.nth dW 0).toInt):Int)<0)),af))
    else
     bif (decide (0≤(IntKind.wrap .i64 (first+mI))))&&(decide ((IntKind.wrap .i64 (first+mI))<(af.length:Int))) then
     (af[(IntKind.wrap .i64 (first+mI):Int).toNat]?).bind fun gb=>
     bif (decide (0≤(IntKind.wrap .i64 (first+root))))&&(decide ((IntKind.wrap .i64 (first+root))<(af.length:Int))) then
      (af[(IntKind.wrap .i64 (first+root):Int).toNat]?).bind fun oO=>
      bif (decide (0≤(IntKind.wrap .i64 (first+root))))&&(decide ((IntKind.wrap .i64 (first+root))<(af.length:Int))) then
      (af[(IntKind.wrap .i64 (first+root):Int).toNat]?).bind fun Ko=>
      bif (decide (0≤(IntKind.wrap .i64 (first+mI))))&&(decide ((IntKind.wrap .i64 (first+mI))<((af.set ((IntKind.wrap .i64 (first+root):Int).toNat) (.agg [.int .i64 ((gb.cell 0).toInt),.int .i64 ((gb.cell 1).toInt),.int .i64 ((gb.cell 2).toInt)])).length:Int))) then
       ((af.set ((IntKind.wrap .i64 (first+root):Int).toNat) (.agg [.int .i64 ((gb.cell 0).toInt),.int .i64 ((gb.cell 1).toInt),.int .i64 ((gb.cell 2).toInt)]))[(IntKind.wrap .i64 (first+mI):Int).toNat]?).bind fun kJ=>
       kn (mI,(af.set ((IntKind.wrap .i64 (first+root):Int).toNat) (.agg [.int .i64 ((gb.cell 0).toInt),.int .i64 ((gb.cell 1).toInt),.int .i64 ((gb.cell 2).toInt)])).set ((IntKind.wrap .i64 (first+mI):Int).toNat) (.agg [.int .i64 ((oO.cell 0).toInt),.int .i64 ((oO.cell 1).toInt),.int .i64 ((oO.cell 2).toInt)]))
      else none
      else none
     else none
     else none
    else none
   else none)
noncomputable def nH (C:ae) (hi first:Int):(Int × (List V))→Option ((Int × (List V)) ⊕ ((Int × Int × Bool × (List V)) ⊕ (Int × Int × Bool × (List V)))):=un fun root af=>rD C hi first root af (fun y=>some (.inl y)) (fun r=>some (.inr r))
noncomputable def TG (C:ae):cq:=fun β n ds k=>
 bif Nat.beq n 655 then mq JB [[1,2,3,0,6]] (@tM C) ds k else
 bif Nat.beq n 17 then bA JC [false,false,true,true] [[1,2,0,0,0,0],[1,2,0,0,0,0]] (@rD C) ds k else
 none
abbrev TH (C:ae) (b:cl):Prop:=cm Tryd.prog ar C (TG C) 177 (cE Tryd.prog (ar.aP 177)) (ar.sin 177).aO.length b
theorem aet (C:ae):TH C (.cond 40 (ao [1,0,0,0,1,1,0,1,0] wx) (ao [1,0,0,0,1,1,0,1,1] wx)):=
 nu JB [[1,2,3,0,6]] (@tM C) (by kernel_rfl) (aT (bs:=[]) (by kernel_rfl) au) (aT (bs:=[]) (by kernel_rfl) au) (fun ds=>by kernel_rfl) (fun i β k=>by kernel_rfl) (fun β ds k=>by kernel_rfl)
theorem aeu (C:ae):TH C (.loop (ao [1,0,0] wx)):=
 bD JC [false,false,true,true] [[1,2,0,0,0,0],[1,2,0,0,0,0]] (@rD C) (by kernel_rfl) (aT (bs:=[.cond 40 (ao [1,0,0,0,1,1,0,1,0] wx) (ao [1,0,0,0,1,1,0,1,1] wx)]) (by kernel_rfl) (bm (aet C) au)) (fun ds=>by kernel_rfl) (fun i x=>by kernel_rfl) (fun i x β k=>by kernel_rfl) (fun β ds k=>by kernel_rfl)
noncomputable def TI (C:ae) (lo hi first:Int) (af:List V):Option (List V):=
 (Loop (nH C hi first) (lo,af)).bind (cO (un fun (ahO:Int)=>un fun (ahP:Int)=>un fun (ac4:Bool) (aev:List V)=>
  some [.list an aev]) (un fun (ahQ:Int)=>un fun (ahR:Int)=>un fun (adx:Bool) (qn:List V)=>
  some [.list an qn]))
theorem aew {lo hi first:Int} {af:List V} {r:Option (List V)} (h:TI CC lo hi first af=r):CC DS [.int .i64 lo,.int .i64 hi,.int .i64 first,.list an af]=r:=
 bj (key:=177) (L:=TG CC) (bs:=[.loop (ao [1,0,0] wx)]) (by kernel_rfl) (bm (aeu CC) au) (Eq.trans (by kernel_rfl) h)
end Go.AM
set_option maxRecDepth 100000
namespace Go.AM
open Go.Proofs
noncomputable abbrev Fj:Code:=cy Tryd.prog (ar.aP 171)
noncomputable def Az (C:ae) (first lo hi i:Int) (af:List V) {β:Type} (kn:(Int × (List V))→Option β) (kr:(Int × Bool × (List V))→Option β):Option β:=
 bif decide ((i:Int)≥0) then
  (C DS [.int .i64 i,.int .i64 hi,.int .i64 first,.list an af]).bind fun r1=>
  kn (IntKind.wrap .i64 (i-1),(V.nth r1 0).toList)
 else
  kr (i,decide ((i:Int)≥0),af)
noncomputable def Fk (C:ae) (first lo hi:Int):(Int × (List V))→Option ((Int × (List V)) ⊕ (Int × Bool × (List V))):=un fun i af=>Az C first lo hi i af (fun y=>some (.inl y)) (fun r=>some (.inr r))
noncomputable def AA (C:ae) (first lo i:Int) (af:List V) {β:Type} (kn:(Int × (List V))→Option β) (kr:(Int × Bool × (List V))→Option β):Option β:=
 bif decide ((i:Int)≥0) then
  bif (decide (0≤(IntKind.wrap .i64 (first+i))))&&(decide ((IntKind.wrap .i64 (first+i))<(af.length:Int))) then
  (af[(IntKind.wrap .i64 (first+i):Int).toNat]?).bind fun x5=>
  bif (decide (0≤first))&&(decide (first<(af.length:Int))) then
   (af[(first:Int).toNat]?).bind fun x6=>
   bif (decide (0≤first))&&(decide (first<(af.length:Int))) then
   (af[(first:Int).toNat]?).bind fun x7=>
   bif (decide (0≤(IntKind.wrap .i64 (first+i))))&&(decide ((IntKind.wrap .i64 (first+i))<((af.set ((first:Int).toNat) (.agg [.int .i64 ((x5.cell 0).toInt),.int .i64 ((x5.cell 1).toInt),.int .i64 ((x5.cell 2).toInt)])).length:Int))) then
    ((af.set ((first:Int).toNat) (.agg [.int .i64 ((x5.cell 0).toInt),.int .i64 ((x5.cell 1).toInt),.int .i64 ((x5.cell 2).toInt)]))[(IntKind.wrap .i64 (first+i):Int).toNat]?).bind fun x8=>
    (C DS [.int .i64 lo,.int .i64 i,.int .i64 first,.list an ((af.set ((first:Int).toNat) (.agg [.int .i64 ((x5.cell 0).toInt),.int .i64 ((x5.cell 1).toInt),.int .i64 ((x5.cell 2).toInt)])).set ((IntKind.wrap .i64 (first+i):Int).toNat) (.agg [.int .i64 ((x6.cell 0).toInt),.int .i64 ((x6.cell 1).toInt),.int .i64 ((x6.cell 2).toInt)]))]).bind fun r9=>
    kn (IntKind.wrap .i64 (i-1),(V.nth r9 0).toList)
   else none
   else none
  else none
  else none
 else
  kr (i,decide ((i:Int)≥0),af)
noncomputable def Fl (C:ae) (first lo:Int):(Int × (List V))→Option ((Int × (List V)) ⊕ (Int × Bool × (List V))):=un fun i af=>AA C first lo i af (fun y=>some (.inl y)) (fun r=>some (.inr r))
noncomputable def TJ (C:ae):cq:=fun β n ds k=>
 bif Nat.beq n 65 then bA Jv [false,false,false,true,true] [[1,2,3,0,0,0]] (@Az C) ds k else
 bif Nat.beq n 129 then bA Jw [false,false,true,true] [[1,2,0,0,0]] (@AA C) ds k else
 none
abbrev TK (C:ae) (b:cl):Prop:=cm Tryd.prog ar C (TJ C) 171 (cE Tryd.prog (ar.aP 171)) (ar.sin 171).aO.length b
theorem aex (C:ae):TK C (.loop (ao [1,1,1,0,1,0,0] Fj)):=
 bD Jv [false,false,false,true,true] [[1,2,3,0,0,0]] (@Az C) (by kernel_rfl) (aT (bs:=[]) (by kernel_rfl) au) (fun ds=>by kernel_rfl) (fun i x=>by kernel_rfl) (fun i x β k=>by kernel_rfl) (fun β ds k=>by kernel_rfl)
theorem aey (C:ae):TK C (.loop (ao [1,1,1,1,1,0,0] Fj)):=
 bD Jw [false,false,true,true] [[1,2,0,0,0]] (@AA C) (by kernel_rfl) (aT (bs:=[]) (by kernel_rfl) au) (fun ds=>by kernel_rfl) (fun i x=>by kernel_rfl) (fun i x β k=>by kernel_rfl) (fun β ds k=>by kernel_rfl)
noncomputable def TL (C:ae) (a b':Int) (af:List V):Option (List V):=
 (Loop (Fk C a 0 (IntKind.wrap .i64 (b'-a))) (IntKind.wrap .i64 (Int.tdiv (IntKind.wrap .i64 ((IntKind.wrap .i64 (b'-a))-1)) 2),af)).bind (un fun (i_2:Int)=>un fun (jV:Bool) (aez:List V)=>
  (Loop (Fl C a 0) (IntKind.wrap .i64 ((IntKind.wrap .i64 (b'-a))-1),aez)).bind (un fun (ahS:Int)=>un fun (Tf:Bool) (lJ:List V)=>
   some [.list an lJ]))
theorem aeA {a b':Int} {af:List V} {r:Option (List V)} (h:TL CC a b' af=r):CC DP [.int .i64 a,.int .i64 b',.list an af]=r:=
 bj (key:=171) (L:=TJ CC) (bs:=[.loop (ao [1,1,1,0,1,0,0] Fj),.loop (ao [1,1,1,1,1,0,0] Fj)]) (by kernel_rfl) (bm (aex CC) (bm (aey CC) au)) (Eq.trans (by kernel_rfl) h)
end Go.AM
set_option maxRecDepth 100000
namespace Go.AM
open Go.Proofs
noncomputable abbrev TM:Code:=cy Tryd.prog (ar.aP 179)
noncomputable def wy (C:ae) (i j:Int) (af:List V) {β:Type} (kn:(Int × Int × (List V))→Option β) (kr:(Int × Int × Bool × (List V))→Option β):Option β:=
 bif decide ((i:Int)<j) then
  bif (decide (0≤j))&&(decide (j<(af.length:Int))) then
  (af[(j:Int).toNat]?).bind fun x1=>
  bif (decide (0≤i))&&(decide (i<(af.length:Int))) then
   (af[(i:Int).toNat]?).bind fun x2=>
   bif (decide (0≤i))&&(decide (i<(af.length:Int))) then
   (af[(i:Int).toNat]?).bind fun x3=>
   bif (decide (0≤j))&&(decide (j<((af.set ((i:Int).toNat) (.agg [.int .i64 ((x1.cell 0).toInt),.int .i64 ((x1.cell 1).toInt),.int .i64 ((x1.cell 2).toInt)])).length:Int))) then
    ((af.set ((i:Int).toNat) (.agg [.int .i64 ((x1.cell 0).toInt),.int .i64 ((x1.cell 1).toInt),.int .i64 ((x1.cell 2).toInt)]))[(j:Int).toNat]?).bind fun x4=>
    kn (IntKind.wrap .i64 (i+1),IntKind.wrap .i64 (j-1),(af.set ((i:Int).toNat) (.agg [.int .i64 ((x1.cell 0).toInt),.int .i64 ((x1.cell 1).toInt),.int .i64 ((x1.cell 2).toInt)])).set ((j:Int).toNat) (.agg [.int .i64 ((x2.cell 0).toInt),.int .i64 ((x2.cell 1).toInt),.int .i64 ((x2.cell 2).toInt)]))
   else none
   else none
  else none
  else none
 else
  kr (i,j,decide ((i:Int)<j),af)
noncomputable def AB (C:ae):(Int × Int × (List V))→Option ((Int × Int × (List V)) ⊕ (Int × Int × Bool × (List V))):=un fun i=>un fun j af=>wy C i j af (fun y=>some (.inl y)) (fun r=>some (.inr r))
noncomputable def TN (C:ae):cq:=fun β n ds k=>
 bif Nat.beq n 33 then bA JD [true,true,true] [[0,0,0,0]] (@wy C) ds k else
 none
abbrev aeB (C:ae) (b:cl):Prop:=cm Tryd.prog ar C (TN C) 179 (cE Tryd.prog (ar.aP 179)) (ar.sin 179).aO.length b
theorem aeC (C:ae):aeB C (.loop (ao [1,1,0,0] TM)):=
 bD JD [true,true,true] [[0,0,0,0]] (@wy C) (by kernel_rfl) (aT (bs:=[]) (by kernel_rfl) au) (fun ds=>by kernel_rfl) (fun i x=>by kernel_rfl) (fun i x β k=>by kernel_rfl) (fun β ds k=>by kernel_rfl)
noncomputable def TO (C:ae) (a b':Int) (af:List V):Option (List V):=
 (Loop (AB C) (a,IntKind.wrap .i64 (b'-1),af)).bind (un fun (i_5:Int)=>un fun (j_6:Int)=>un fun (oG:Bool) (aeD:List V)=>
  some [.list an aeD])
theorem aeE {a b':Int} {af:List V} {r:Option (List V)} (h:TO CC a b' af=r):CC Il [.int .i64 a,.int .i64 b',.list an af]=r:=
 bj (key:=179) (L:=TN CC) (bs:=[.loop (ao [1,1,0,0] TM)]) (by kernel_rfl) (bm (aeC CC) au) (Eq.trans (by kernel_rfl) h)
end Go.AM
set_option maxRecDepth 100000
set_option linter.unusedSimpArgs false
set_option maxHeartbeats 4000000
namespace Go.AM.SL
open Go.AM Go.Proofs Go.Sort
def av (a b:Ed):Bool:=decide (bG a b<0)
theorem rE (a b:Ed):(av a b=true)=(bG a b<0):=by unfold av;rw[decide_eq_true_eq]
theorem qo (a b:Ed):((!av a b)=true)= ¬(bG a b<0):=by unfold av;simp
abbrev eA (d:Array Ed):List V:=oP Ed.enc d
theorem aeF (a j:Nat) (d:Array Ed):insInner av a (j+1) d=if j+1>a then (if bG d[j+1]! d[j]! <0 then insInner av a j (swp d (j+1) j) else d) else d:=by
 rw[To]
 by_cases h1:j+1>a
 ·rw[if_pos h1];simp only[h1,decide_true,Bool.true_and,rE]
 ·rw[if_neg h1,if_neg (by simp[h1])]
theorem KJ (hi first root:Nat) (d:Array Ed):siftDown av hi first root d=
  if 2*root+1≥hi then d else
   if 2*root+2<hi then
    (if bG d[first+(2*root+1)]! d[first+(2*root+2)]! <0 then
     (if bG d[first+root]! d[first+(2*root+2)]! <0 then siftDown av hi first (2*root+2) (swp d (first+root) (first+(2*root+2))) else d)
    else (if bG d[first+root]! d[first+(2*root+1)]! <0 then siftDown av hi first (2*root+1) (swp d (first+root) (first+(2*root+1))) else d))
   else (if bG d[first+root]! d[first+(2*root+1)]! <0 then siftDown av hi first (2*root+1) (swp d (first+root) (first+(2*root+1))) else d):=by
 rw[siftDown]
 by_cases h1:2*root+1≥hi
 ·rw[dif_pos h1,if_pos h1]
 rw[dif_neg h1,if_neg h1]
 by_cases h2:2*root+2<hi
 ·rw[if_pos h2]
  by_cases h3:bG d[first+(2*root+1)]! d[first+(2*root+2)]! <0
  ·rw[if_pos h3,if_pos (by simp only[Bool.and_eq_true,decide_eq_true_eq,rE];exact ⟨h2,h3⟩)]
   simp only[qo]
   by_cases h4:bG d[first+root]! d[first+(2*root+2)]! <0
   ·rw[if_neg (not_not_intro h4),dif_pos h2,if_pos h4]
   ·rw[if_pos h4,if_neg h4]
  ·rw[if_neg h3,if_neg (by simp only[Bool.and_eq_true,decide_eq_true_eq,rE];exact fun h=>h3 h.2)]
   simp only[qo]
   by_cases h4:bG d[first+root]! d[first+(2*root+1)]! <0
   ·rw[if_neg (not_not_intro h4),if_pos h4]
   ·rw[if_pos h4,if_neg h4]
 ·rw[if_neg h2,if_neg (by simp only[Bool.and_eq_true,decide_eq_true_eq,rE];exact fun h=>h2 h.1)]
  simp only[qo]
  by_cases h4:bG d[first+root]! d[first+(2*root+1)]! <0
  ·rw[if_neg (not_not_intro h4),if_pos h4]
  ·rw[if_pos h4,if_neg h4]
theorem TP {a b i:Nat}: ∀(j:Nat) (d:Array Ed),j<d.size→d.size<1152921504606846976→
  ∃j' t,Loop (wv CC a b i) ((j:Int),eA d)=some (j',t,eA (insInner av a j d))
 | 0,d,hj,hs=>⟨(0:Nat),false,bO (by
   simp (disch:=omega) only[wv,wu,un,aE,if_neg]
   rfl)⟩
 | j+1,d,hj,hs=>by
  obtain ⟨j',t,ih⟩:=TP (a:=a) (b:=b) (i:=i) j (swp d (j+1) j) (by rw[size_swp];omega) (by rw[size_swp];omega)
  rw[aeF]
  by_cases h1:j+1>a
  ·rw[if_pos h1]
   have e:wv CC a b i (((j+1:Nat):Int),eA d)=if bG d[j+1]! d[j]! <0 then some (.inl ((j:Int),eA (swp d (j+1) j))) else some (.inr (((j+1:Nat):Int),decide (bG d[j+1]! d[j]! <0),eA d)):=by
    simp (disch:=omega) only[wv,wu,un,aE,dG,fX,if_pos,if_neg,wrap64,dw,fF,Int.toNat_natCast,Option.bind_some,fC,fE,Ed.c8,Ed.c9,Ed.da,Ed.re,fD,gN,Array.size_setIfInBounds,ga,V.bS,V.toInt_int,cond_true,cond_false,tI]
    rfl
   by_cases h2:bG d[j+1]! d[j]! <0
   ·rw[if_pos h2] at e⊢
    exact ⟨j',t,(dI e).trans ih⟩
   ·rw[if_neg h2] at e⊢
    exact ⟨_,_,bO e⟩
  ·rw[if_neg h1]
   exact ⟨((j+1:Nat):Int),false,bO (by
    simp (disch:=omega) only[wv,wu,un,aE,if_neg])⟩
theorem aeG {a b:Nat}: ∀(n i:Nat) (d:Array Ed),b-i=n→b≤d.size→d.size<1152921504606846976→
  ∃j' t,Loop (Fi CC a b) ((i:Int),eA d)=some (j',t,eA (insOuter av a b i d)):=by
 intro n
 induction n with
 | zero=>
  intro i d hn hb hs
  rw[insOuter,if_neg (by omega)]
  exact ⟨(i:Int),false,bO (by
   simp (disch:=omega) only[Fi,Ay,un,rB,cond_false])⟩
 | succ n ih=>
  intro i d hn hb hs
  obtain ⟨j1,t1,h1⟩:=TP (a:=a) (b:=b) (i:=i) i d (by omega) hs
  obtain ⟨j',t,h2⟩:=ih (i+1) (insInner av a i d) (by omega) (by rw[KB];omega) (by rw[KB];omega)
  rw[insOuter,if_pos (by omega)]
  refine ⟨j',t,(dI ?_).trans h2⟩
  simp (disch:=omega) only[Fi,Ay,un,aE,if_pos,h1,Option.bind_some,dw,wrap64]
theorem TQ {a b:Nat} {d:Array Ed} (hb:b≤d.size) (hs:d.size<1152921504606846976) (ha:a<1152921504606846976):
  CC DO [.int .i64 (a:Int),.int .i64 (b:Int),.list an (eA d)]=some [.list an (eA (insertionSort av d a b))]:=by
 refine aes ?_
 unfold TF
 obtain ⟨j',t,h⟩:=aeG (a:=a) (b:=b) _ (a+1) d rfl hb hs
 simp (disch:=omega) only[dw,wrap64]
 rw[h]
 rfl
theorem aeH (hi first:Nat): ∀(n root:Nat) (d:Array Ed),hi-root≤n→root<1152921504606846976→first+hi≤d.size→d.size<1152921504606846976→
  (∃x y z,Loop (nH CC hi first) ((root:Int),eA d)=some (.inl (x,y,z,eA (siftDown av hi first root d))))∨
  (∃x y z,Loop (nH CC hi first) ((root:Int),eA d)=some (.inr (x,y,z,eA (siftDown av hi first root d)))):=by
 intro n
 induction n with
 | zero=>
  intro root d hn hr hb hs
  rw[KJ,if_pos (by omega)]
  exact .inl ⟨(root:Int),((root*2+1:Nat):Int),true,bO (by
   simp (disch:=omega) only[nH,rD,un,Au,dw,wrap64];rw[mE (by omega)];rfl)⟩
 | succ n ih=>
  intro root d hn hr hb hs
  by_cases h1:2*root+1≥hi
  ·rw[KJ,if_pos h1]
   exact .inl ⟨(root:Int),((root*2+1:Nat):Int),true,bO (by
    simp (disch:=omega) only[nH,rD,un,Au,dw,wrap64];rw[mE (by omega)];rfl)⟩
  ·have go: ∀c:Nat,c<hi→root<c→(nH CC hi first ((root:Int),eA d)=
      if bG d[first+root]! d[first+c]! <0 then some (.inl ((c:Int),eA (swp d (first+root) (first+c)))) else some (.inr (.inr ((root:Int),(c:Int),true,eA d))))→
     siftDown av hi first root d=(if bG d[first+root]! d[first+c]! <0 then siftDown av hi first c (swp d (first+root) (first+c)) else d)→
     ((∃x y z,Loop (nH CC hi first) ((root:Int),eA d)=some (.inl (x,y,z,eA (siftDown av hi first root d))))∨
     (∃x y z,Loop (nH CC hi first) ((root:Int),eA d)=some (.inr (x,y,z,eA (siftDown av hi first root d))))):=by
    intro c hc hrc e1 e2
    rw[e2]
    by_cases h3:bG d[first+root]! d[first+c]! <0
    ·rw[if_pos h3] at e1
     rw[if_pos h3,dI e1]
     exact ih c _ (by omega) (by omega) (by rw[size_swp];omega) (by rw[size_swp];omega)
    ·rw[if_neg h3] at e1
     rw[if_neg h3,bO e1]
     exact .inr ⟨_,_,_,rfl⟩
   have e0:=KJ hi first root d
   rw[if_neg h1] at e0
   by_cases h2:2*root+2<hi
   ·rw[if_pos h2] at e0
    by_cases h3:bG d[first+(2*root+1)]! d[first+(2*root+2)]! <0
    ·rw[if_pos h3] at e0
     refine go (2*root+2) (by omega) (by omega) ?_ e0
     rw[Nat.mul_comm 2 root] at h3
     simp (disch:=omega) only[nH,rD,un,Au,dw,fF,wrap64]
     rw[aE,if_neg (by omega),aE,if_pos (by omega)]
     simp (disch:=omega) only[tM,aE,dG,fX,if_pos,if_neg,wrap64,dw,fF,Int.toNat_natCast,Option.bind_some,fC,fE,Ed.c8,Ed.c9,Ed.da,Ed.re,fD,gN,Array.size_setIfInBounds,ga,V.bS,V.toInt_int,cond_true,cond_false,Nat.mul_comm 2 root,mE]
     by_cases h4:bG d[first+root]! d[first+(root*2+2)]! <0
     ·simp only[h4,if_true];rfl
     ·simp only[h4,if_false];rfl
    ·rw[if_neg h3] at e0
     refine go (2*root+1) (by omega) (by omega) ?_ e0
     rw[Nat.mul_comm 2 root] at h3
     simp (disch:=omega) only[nH,rD,un,Au,dw,fF,wrap64]
     rw[aE,if_neg (by omega),aE,if_pos (by omega)]
     simp (disch:=omega) only[tM,aE,dG,fX,if_pos,if_neg,wrap64,dw,fF,Int.toNat_natCast,Option.bind_some,fC,fE,Ed.c8,Ed.c9,Ed.da,Ed.re,fD,gN,Array.size_setIfInBounds,ga,V.bS,V.toInt_int,cond_true,cond_false,Nat.mul_comm 2 root,rB]
     by_cases h4:bG d[first+root]! d[first+(root*2+1)]! <0
     ·simp only[h4,if_true];rfl
     ·simp only[h4,if_false];rfl
   ·rw[if_neg h2] at e0
    refine go (2*root+1) (by omega) (by omega) ?_ e0
    simp (disch:=omega) only[nH,rD,un,Au,dw,fF,wrap64]
    rw[aE,if_neg (by omega),aE,if_neg (by omega)]
    simp (disch:=omega) only[tM,aE,dG,fX,if_pos,if_neg,wrap64,dw,fF,Int.toNat_natCast,Option.bind_some,fC,fE,Ed.c8,Ed.c9,Ed.da,Ed.re,fD,gN,Array.size_setIfInBounds,ga,V.bS,V.toInt_int,cond_true,cond_false,Nat.mul_comm 2 root]
    by_cases h4:bG d[first+root]! d[first+(root*2+1)]! <0
    ·simp only[h4,if_true];rfl
    ·simp only[h4,if_false];rfl
theorem TR {lo hi first:Nat} {d:Array Ed} (hl:lo<1152921504606846976) (hb:first+hi≤d.size) (hs:d.size<1152921504606846976):
  CC DS [.int .i64 (lo:Int),.int .i64 (hi:Int),.int .i64 (first:Int),.list an (eA d)]=some [.list an (eA (siftDown av hi first lo d))]:=by
 refine aew ?_
 unfold TI
 rcases aeH hi first _ lo d (Nat.le_refl _) hl hb hs with ⟨x,y,z,h⟩|⟨x,y,z,h⟩
 ·rw[h];rfl
 ·rw[h];rfl
theorem TS {hi first:Nat}: ∀(k:Nat) (d:Array Ed),k<1152921504606846976→first+hi≤d.size→d.size<1152921504606846976→
  ∃x y,Loop (Fk CC first 0 hi) ((k:Int)-1,eA d)=some (x,y,eA (heapBuild av hi first k d))
 | 0,d,hk,hb,hs=>⟨-1,false,bO (by
   simp (disch:=omega) only[Fk,Az,un,aE,if_neg]
   rfl)⟩
 | k+1,d,hk,hb,hs=>by
  obtain ⟨x,y,ih⟩:=TS (hi:=hi) (first:=first) k (siftDown av hi first k d) (by omega) (by rw[Av _ _ _ _ _ (Nat.le_refl _)];omega) (by rw[Av _ _ _ _ _ (Nat.le_refl _)];omega)
  refine ⟨x,y,(dI ?_).trans ih⟩
  simp (disch:=omega) only[Fk,Az,un,aE,if_pos,tI,TR,Option.bind_some,V.bS,V.ou,wrap64]
theorem TT {first:Nat}: ∀(k:Nat) (d:Array Ed),k<1152921504606846976→first+k≤d.size→d.size<1152921504606846976→
  ∃x y,Loop (Fl CC first 0) ((k:Int)-1,eA d)=some (x,y,eA (heapPop av first k d))
 | 0,d,hk,hb,hs=>⟨-1,false,bO (by
   simp (disch:=omega) only[Fl,AA,un,aE,if_neg]
   rfl)⟩
 | k+1,d,hk,hb,hs=>by
  obtain ⟨x,y,ih⟩:=TT (first:=first) k (siftDown av k first 0 (swp d first (first+k))) (by omega) (by rw[Av _ _ _ _ _ (Nat.le_refl _),size_swp];omega) (by rw[Av _ _ _ _ _ (Nat.le_refl _),size_swp];omega)
  refine ⟨x,y,(dI ?_).trans ih⟩
  have jQ:=TR (lo:=0) (hi:=k) (first:=first) (d:=swp d first (first+k)) (by omega) (by rw[size_swp];omega) (by rw[size_swp];omega)
  unfold swp at jQ⊢
  rw[show ((0:Nat):Int)=0 from rfl] at jQ
  simp (disch:=omega) only[Fl,AA,un,tI,aE,dG,fX,if_pos,if_neg,wrap64,dw,fF,Int.toNat_natCast,Option.bind_some,fC,fE,Ed.c8,Ed.c9,Ed.da,Ed.re,fD,gN,Array.size_setIfInBounds,ga,V.bS,V.toInt_int,cond_true,cond_false]
  rw[jQ]
  simp (disch:=omega) only[Option.bind_some,V.bS,V.ou,wrap64]
theorem aeI {a b:Nat} {d:Array Ed} (fv:a<b) (hb:b≤d.size) (hs:d.size<1152921504606846976):
  CC DP [.int .i64 (a:Int),.int .i64 (b:Int),.list an (eA d)]=some [.list an (eA (heapSort av d a b))]:=by
 refine aeA ?_
 unfold TL
 obtain ⟨x,y,h1⟩:=TS (hi:=b-a) (first:=a) ((b-a-1)/2+1) d (by omega) (by omega) hs
 obtain ⟨x2,y2,h2⟩:=TT (first:=a) (b-a) (heapBuild av (b-a) a ((b-a-1)/2+1) d) (by omega) (by rw[KC];omega) (by rw[KC];omega)
 have e1:((((b-a-1)/2+1:Nat):Int)-1)=Int.tdiv (((b-a:Nat):Int)-1) 2:=by
  rw[Int.tdiv_eq_ediv_of_nonneg (by omega)]
  omega
 rw[e1] at h1
 simp (disch:=omega) only[lH,wrap64]
 rw[h1]
 simp only[Option.bind_some,un]
 rw[h2]
 rfl
theorem aeJ: ∀(n i j:Nat) (d:Array Ed),j-i≤n→j<d.size→d.size<1152921504606846976→
  ∃x y z,Loop (AB CC) ((i:Int),(j:Int),eA d)=some (x,y,z,eA (reverseLoop i j d)):=by
 intro n
 induction n with
 | zero=>
  intro i j d hn hj hs
  rw[reverseLoop,if_neg (by omega)]
  exact ⟨(i:Int),(j:Int),false,bO (by
   simp (disch:=omega) only[AB,wy,un,rB,cond_false])⟩
 | succ n ih=>
  intro i j d hn hj hs
  rw[reverseLoop]
  by_cases h:i<j
  ·rw[if_pos h]
   obtain ⟨x,y,z,h2⟩:=ih (i+1) (j-1) (swp d i j) (by omega) (by rw[size_swp];omega) (by rw[size_swp];omega)
   refine ⟨x,y,z,(dI ?_).trans h2⟩
   simp (disch:=omega) only[AB,wy,un,aE,dG,fX,if_pos,if_neg,wrap64,dw,fF,Int.toNat_natCast,Option.bind_some,fC,fE,Ed.c8,Ed.c9,Ed.da,Ed.re,fD,gN,Array.size_setIfInBounds,ga,V.bS,V.toInt_int,cond_true,cond_false,jC]
   rfl
  ·rw[if_neg h]
   exact ⟨(i:Int),(j:Int),false,bO (by
    simp (disch:=omega) only[AB,wy,un,rB,cond_false])⟩
theorem aeK {a b:Nat} {d:Array Ed} (fv:a<b) (hb:b≤d.size) (hs:d.size<1152921504606846976):
  CC Il [.int .i64 (a:Int),.int .i64 (b:Int),.list an (eA d)]=some [.list an (eA (reverseRange d a b))]:=by
 refine aeE ?_
 unfold TO
 obtain ⟨x,y,z,h⟩:=aeJ _ a (b-1) d (Nat.le_refl _) (by omega) hs
 simp (disch:=omega) only[jC,wrap64]
 rw[h]
 rfl
end Go.AM.SL
set_option maxRecDepth 100000
namespace Go.AM
open Go.Proofs
noncomputable abbrev oQ:Code:=cy Tryd.prog (ar.aP 181)
noncomputable def AD (C:ae) (a j:Int) (af:List V) (i:Int) {β:Type} (kn:Int→Option β) (kr:(Int × Bool)→Option β):Option β:=
 bif decide ((i:Int)≤j) then
  bif (decide (0≤i))&&(decide (i<(af.length:Int))) then
  (af[(i:Int).toNat]?).bind fun x5=>
  bif (decide (0≤a))&&(decide (a<(af.length:Int))) then
   (af[(a:Int).toNat]?).bind fun x6=>
   (C aW [.int .i64 ((x5.cell 0).toInt),.int .i64 ((x5.cell 1).toInt),.int .i64 ((x5.cell 2).toInt),.int .i64 ((x6.cell 0).toInt),.int .i64 ((x6.cell 1).toInt),.int .i64 ((x6.cell 2).toInt)]).bind fun r7=>
   bif decide ((((V.nth r7 0).toInt):Int)<0) then
   kn (IntKind.wrap .i64 (i+1))
   else
   kr (i,decide ((((V.nth r7 0).toInt):Int)<0))
  else none
  else none
 else
  kr (i,false)
noncomputable def AE (C:ae) (a j:Int) (af:List V):(Int)→Option ((Int) ⊕ (Int × Bool)):=fun i=>AD C a j af i (fun y=>some (.inl y)) (fun r=>some (.inr r))
noncomputable def wz (C:ae) (a i:Int) (af:List V) (j:Int) {β:Type} (kn:Int→Option β) (kr:(Int × Bool)→Option β):Option β:=
 bif decide ((i:Int)≤j) then
  bif (decide (0≤j))&&(decide (j<(af.length:Int))) then
  (af[(j:Int).toNat]?).bind fun iG=>
  bif (decide (0≤a))&&(decide (a<(af.length:Int))) then
   (af[(a:Int).toNat]?).bind fun fA=>
   (C aW [.int .i64 ((iG.cell 0).toInt),.int .i64 ((iG.cell 1).toInt),.int .i64 ((iG.cell 2).toInt),.int .i64 ((fA.cell 0).toInt),.int .i64 ((fA.cell 1).toInt),.int .i64 ((fA.cell 2).toInt)]).bind fun ja=>
   bif !(decide ((((V.nth ja 0).toInt):Int)<0)) then
   kn (IntKind.wrap .i64 (j-1))
   else
   kr (j,!(decide ((((V.nth ja 0).toInt):Int)<0)))
  else none
  else none
 else
  kr (j,false)
noncomputable def wA (C:ae) (a i:Int) (af:List V):(Int)→Option ((Int) ⊕ (Int × Bool)):=fun j=>wz C a i af j (fun y=>some (.inl y)) (fun r=>some (.inr r))
noncomputable def AF (C:ae) (a j:Int) (af:List V) (i:Int) {β:Type} (kn:Int→Option β) (kr:(Int × Bool)→Option β):Option β:=
 bif decide ((i:Int)≤j) then
  bif (decide (0≤i))&&(decide (i<(af.length:Int))) then
  (af[(i:Int).toNat]?).bind fun kI=>
  bif (decide (0≤a))&&(decide (a<(af.length:Int))) then
   (af[(a:Int).toNat]?).bind fun tN=>
   (C aW [.int .i64 ((kI.cell 0).toInt),.int .i64 ((kI.cell 1).toInt),.int .i64 ((kI.cell 2).toInt),.int .i64 ((tN.cell 0).toInt),.int .i64 ((tN.cell 1).toInt),.int .i64 ((tN.cell 2).toInt)]).bind fun TU=>
   bif decide ((((V.nth TU 0).toInt):Int)<0) then
   kn (IntKind.wrap .i64 (i+1))
   else
   kr (i,decide ((((V.nth TU 0).toInt):Int)<0))
  else none
  else none
 else
  kr (i,false)
noncomputable def AG (C:ae) (a j:Int) (af:List V):(Int)→Option ((Int) ⊕ (Int × Bool)):=fun i=>AF C a j af i (fun y=>some (.inl y)) (fun r=>some (.inr r))
noncomputable def wB (C:ae) (a i:Int) (af:List V) (j:Int) {β:Type} (kn:Int→Option β) (kr:(Int × Bool)→Option β):Option β:=
 bif decide ((i:Int)≤j) then
  bif (decide (0≤j))&&(decide (j<(af.length:Int))) then
  (af[(j:Int).toNat]?).bind fun tO=>
  bif (decide (0≤a))&&(decide (a<(af.length:Int))) then
   (af[(a:Int).toNat]?).bind fun tP=>
   (C aW [.int .i64 ((tO.cell 0).toInt),.int .i64 ((tO.cell 1).toInt),.int .i64 ((tO.cell 2).toInt),.int .i64 ((tP.cell 0).toInt),.int .i64 ((tP.cell 1).toInt),.int .i64 ((tP.cell 2).toInt)]).bind fun Fm=>
   bif !(decide ((((V.nth Fm 0).toInt):Int)<0)) then
   kn (IntKind.wrap .i64 (j-1))
   else
   kr (j,!(decide ((((V.nth Fm 0).toInt):Int)<0)))
  else none
  else none
 else
  kr (j,false)
noncomputable def wC (C:ae) (a i:Int) (af:List V):(Int)→Option ((Int) ⊕ (Int × Bool)):=fun j=>wB C a i af j (fun y=>some (.inl y)) (fun r=>some (.inr r))
noncomputable def AH (C:ae) (a i j:Int) (af:List V) {β:Type} (kn:(Int × Int × (List V))→Option β) (kr:(Int × Int × Bool × (List V))→Option β):Option β:=
 (Loop (AG C a j af) i).bind (un fun (j4:Int) (acm:Bool)=>
  (Loop (wC C a j4 af) j).bind (un fun (nJ:Int) (ahT:Bool)=>
   bif decide ((j4:Int)>nJ) then
    kr (j4,nJ,decide ((j4:Int)>nJ),af)
   else
    bif (decide (0≤nJ))&&(decide (nJ<(af.length:Int))) then
    (af[(nJ:Int).toNat]?).bind fun qp=>
    bif (decide (0≤j4))&&(decide (j4<(af.length:Int))) then
     (af[(j4:Int).toNat]?).bind fun KK=>
     bif (decide (0≤j4))&&(decide (j4<(af.length:Int))) then
     (af[(j4:Int).toNat]?).bind fun x35=>
     bif (decide (0≤nJ))&&(decide (nJ<((af.set ((j4:Int).toNat) (.agg [.int .i64 ((qp.cell 0).toInt),.int .i64 ((qp.cell 1).toInt),.int .i64 ((qp.cell 2).toInt)])).length:Int))) then
      ((af.set ((j4:Int).toNat) (.agg [.int .i64 ((qp.cell 0).toInt),.int .i64 ((qp.cell 1).toInt),.int .i64 ((qp.cell 2).toInt)]))[(nJ:Int).toNat]?).bind fun x36=>
      kn (IntKind.wrap .i64 (j4+1),IntKind.wrap .i64 (nJ-1),(af.set ((j4:Int).toNat) (.agg [.int .i64 ((qp.cell 0).toInt),.int .i64 ((qp.cell 1).toInt),.int .i64 ((qp.cell 2).toInt)])).set ((nJ:Int).toNat) (.agg [.int .i64 ((KK.cell 0).toInt),.int .i64 ((KK.cell 1).toInt),.int .i64 ((KK.cell 2).toInt)]))
     else none
     else none
    else none
    else none))
noncomputable def wD (C:ae) (a:Int):(Int × Int × (List V))→Option ((Int × Int × (List V)) ⊕ (Int × Int × Bool × (List V))):=un fun i=>un fun j af=>AH C a i j af (fun y=>some (.inl y)) (fun r=>some (.inr r))
noncomputable def TV (C:ae):cq:=fun β n ds k=>
 bif Nat.beq n 49 then bA JJ [false,true,false,false] [[1,0,3,0,4]] (@AD C) ds k else
 bif Nat.beq n 81 then bA JK [false,false,true,false] [[1,2,0,0,4]] (@wz C) ds k else
 bif Nat.beq n 209 then bA JL [false,true,false,false] [[1,0,3,0,4]] (@AF C) ds k else
 bif Nat.beq n 241 then bA JM [false,false,true,false] [[1,2,0,0,4]] (@wB C) ds k else
 bif Nat.beq n 210 then bA JN [false,true,true,true] [[1,0,0,0,0]] (@AH C) ds k else
 none
abbrev AI (C:ae) (b:cl):Prop:=cm Tryd.prog ar C (TV C) 181 (cE Tryd.prog (ar.aP 181)) (ar.sin 181).aO.length b
theorem aeL (C:ae):AI C (.loop (ao [1,1,1,0,0,0] oQ)):=
 bD JJ [false,true,false,false] [[1,0,3,0,4]] (@AD C) (by kernel_rfl) (aT (bs:=[]) (by kernel_rfl) au) (fun ds=>by kernel_rfl) (fun i x=>by kernel_rfl) (fun i x β k=>by kernel_rfl) (fun β ds k=>by kernel_rfl)
theorem aeM (C:ae):AI C (.loop (ao [1,1,1,1,0,0,0] oQ)):=
 bD JK [false,false,true,false] [[1,2,0,0,4]] (@wz C) (by kernel_rfl) (aT (bs:=[]) (by kernel_rfl) au) (fun ds=>by kernel_rfl) (fun i x=>by kernel_rfl) (fun i x β k=>by kernel_rfl) (fun β ds k=>by kernel_rfl)
theorem aeN (C:ae):AI C (.loop (ao [1,1,1,1,1,1,1,1,1,0,0,0,0,0,0,0] oQ)):=
 bD JL [false,true,false,false] [[1,0,3,0,4]] (@AF C) (by kernel_rfl) (aT (bs:=[]) (by kernel_rfl) au) (fun ds=>by kernel_rfl) (fun i x=>by kernel_rfl) (fun i x β k=>by kernel_rfl) (fun β ds k=>by kernel_rfl)
theorem aeO (C:ae):AI C (.loop (ao [1,1,1,1,1,1,1,1,1,0,0,0,0,1,0,0,0] oQ)):=
 bD JM [false,false,true,false] [[1,2,0,0,4]] (@wB C) (by kernel_rfl) (aT (bs:=[]) (by kernel_rfl) au) (fun ds=>by kernel_rfl) (fun i x=>by kernel_rfl) (fun i x β k=>by kernel_rfl) (fun β ds k=>by kernel_rfl)
theorem aeP (C:ae):AI C (.loop (ao [1,1,1,1,1,1,1,1,1,0,0,0] oQ)):=
 bD JN [false,true,true,true] [[1,0,0,0,0]] (@AH C) (by kernel_rfl) (aT (bs:=[.loop (ao [1,1,1,1,1,1,1,1,1,0,0,0,0,0,0,0] oQ),.loop (ao [1,1,1,1,1,1,1,1,1,0,0,0,0,1,0,0,0] oQ)]) (by kernel_rfl) (bm (aeN C) (bm (aeO C) au))) (fun ds=>by kernel_rfl) (fun i x=>by kernel_rfl) (fun i x β k=>by kernel_rfl) (fun β ds k=>by kernel_rfl)
noncomputable def TW (C:ae) (a b' pivot:Int) (af:List V):Option (List V):=
 bif (decide (0≤pivot))&&(decide (pivot<(af.length:Int))) then
  (af[(pivot:Int).toNat]?).bind fun x1=>
  bif (decide (0≤a))&&(decide (a<(af.length:Int))) then
  (af[(a:Int).toNat]?).bind fun x2=>
  bif (decide (0≤a))&&(decide (a<(af.length:Int))) then
   (af[(a:Int).toNat]?).bind fun x3=>
   bif (decide (0≤pivot))&&(decide (pivot<((af.set ((a:Int).toNat) (.agg [.int .i64 ((x1.cell 0).toInt),.int .i64 ((x1.cell 1).toInt),.int .i64 ((x1.cell 2).toInt)])).length:Int))) then
   ((af.set ((a:Int).toNat) (.agg [.int .i64 ((x1.cell 0).toInt),.int .i64 ((x1.cell 1).toInt),.int .i64 ((x1.cell 2).toInt)]))[(pivot:Int).toNat]?).bind fun x4=>
   (Loop (AE C a (IntKind.wrap .i64 (b'-1)) ((af.set ((a:Int).toNat) (.agg [.int .i64 ((x1.cell 0).toInt),.int .i64 ((x1.cell 1).toInt),.int .i64 ((x1.cell 2).toInt)])).set ((pivot:Int).toNat) (.agg [.int .i64 ((x2.cell 0).toInt),.int .i64 ((x2.cell 1).toInt),.int .i64 ((x2.cell 2).toInt)]))) (IntKind.wrap .i64 (a+1))).bind (un fun (eO:Int) (tz:Bool)=>
    (Loop (wA C a eO ((af.set ((a:Int).toNat) (.agg [.int .i64 ((x1.cell 0).toInt),.int .i64 ((x1.cell 1).toInt),.int .i64 ((x1.cell 2).toInt)])).set ((pivot:Int).toNat) (.agg [.int .i64 ((x2.cell 0).toInt),.int .i64 ((x2.cell 1).toInt),.int .i64 ((x2.cell 2).toInt)]))) (IntKind.wrap .i64 (b'-1))).bind (un fun (dX:Int) (Ej:Bool)=>
     bif decide ((eO:Int)>dX) then
      bif (decide (0≤a))&&(decide (a<(((af.set ((a:Int).toNat) (.agg [.int .i64 ((x1.cell 0).toInt),.int .i64 ((x1.cell 1).toInt),.int .i64 ((x1.cell 2).toInt)])).set ((pivot:Int).toNat) (.agg [.int .i64 ((x2.cell 0).toInt),.int .i64 ((x2.cell 1).toInt),.int .i64 ((x2.cell 2).toInt)])).length:Int))) then
      (((af.set ((a:Int).toNat) (.agg [.int .i64 ((x1.cell 0).toInt),.int .i64 ((x1.cell 1).toInt),.int .i64 ((x1.cell 2).toInt)])).set ((pivot:Int).toNat) (.agg [.int .i64 ((x2.cell 0).toInt),.int .i64 ((x2.cell 1).toInt),.int .i64 ((x2.cell 2).toInt)]))[(a:Int).toNat]?).bind fun fG=>
      bif (decide (0≤dX))&&(decide (dX<(((af.set ((a:Int).toNat) (.agg [.int .i64 ((x1.cell 0).toInt),.int .i64 ((x1.cell 1).toInt),.int .i64 ((x1.cell 2).toInt)])).set ((pivot:Int).toNat) (.agg [.int .i64 ((x2.cell 0).toInt),.int .i64 ((x2.cell 1).toInt),.int .i64 ((x2.cell 2).toInt)])).length:Int))) then
       (((af.set ((a:Int).toNat) (.agg [.int .i64 ((x1.cell 0).toInt),.int .i64 ((x1.cell 1).toInt),.int .i64 ((x1.cell 2).toInt)])).set ((pivot:Int).toNat) (.agg [.int .i64 ((x2.cell 0).toInt),.int .i64 ((x2.cell 1).toInt),.int .i64 ((x2.cell 2).toInt)]))[(dX:Int).toNat]?).bind fun gb=>
       bif (decide (0≤dX))&&(decide (dX<(((af.set ((a:Int).toNat) (.agg [.int .i64 ((x1.cell 0).toInt),.int .i64 ((x1.cell 1).toInt),.int .i64 ((x1.cell 2).toInt)])).set ((pivot:Int).toNat) (.agg [.int .i64 ((x2.cell 0).toInt),.int .i64 ((x2.cell 1).toInt),.int .i64 ((x2.cell 2).toInt)])).length:Int))) then
       (((af.set ((a:Int).toNat) (.agg [.int .i64 ((x1.cell 0).toInt),.int .i64 ((x1.cell 1).toInt),.int .i64 ((x1.cell 2).toInt)])).set ((pivot:Int).toNat) (.agg [.int .i64 ((x2.cell 0).toInt),.int .i64 ((x2.cell 1).toInt),.int .i64 ((x2.cell 2).toInt)]))[(dX:Int).toNat]?).bind fun oO=>
       bif (decide (0≤a))&&(decide (a<((((af.set ((a:Int).toNat) (.agg [.int .i64 ((x1.cell 0).toInt),.int .i64 ((x1.cell 1).toInt),.int .i64 ((x1.cell 2).toInt)])).set ((pivot:Int).toNat) (.agg [.int .i64 ((x2.cell 0).toInt),.int .i64 ((x2.cell 1).toInt),.int .i64 ((x2.cell 2).toInt)])).set ((dX:Int).toNat) (.agg [.int .i64 ((fG.cell 0).toInt),.int .i64 ((fG.cell 1).toInt),.int .i64 ((fG.cell 2).toInt)])).length:Int))) then
        ((((af.set ((a:Int).toNat) (.agg [.int .i64 ((x1.cell 0).toInt),.int .i64 ((x1.cell 1).toInt),.int .i64 ((x1.cell 2).toInt)])).set ((pivot:Int).toNat) (.agg [.int .i64 ((x2.cell 0).toInt),.int .i64 ((x2.cell 1).toInt),.int .i64 ((x2.cell 2).toInt)])).set ((dX:Int).toNat) (.agg [.int .i64 ((fG.cell 0).toInt),.int .i64 ((fG.cell 1).toInt),.int .i64 ((fG.cell 2).toInt)]))[(a:Int).toNat]?).bind fun Ko=>
        some [.int .i64 dX,.bool true,.list an ((((af.set ((a:Int).toNat) (.agg [.int .i64 ((x1.cell 0).toInt),.int .i64 ((x1.cell 1).toInt),.int .i64 ((x1.cell 2).toInt)])).set ((pivot:Int).toNat) (.agg [.int .i64 ((x2.cell 0).toInt),.int .i64 ((x2.cell 1).toInt),.int .i64 ((x2.cell 2).toInt)])).set ((dX:Int).toNat) (.agg [.int .i64 ((fG.cell 0).toInt),.int .i64 ((fG.cell 1).toInt),.int .i64 ((fG.cell 2).toInt)])).set ((a:Int).toNat) (.agg [.int .i64 ((gb.cell 0).toInt),.int .i64 ((gb.cell 1).toInt),.int .i64 ((gb.cell 2).toInt)]))]
       else none
       else none
      else none
      else none
     else
      bif (decide (0≤dX))&&(decide (dX<(((af.set ((a:Int).toNat) (.agg [.int .i64 ((x1.cell 0).toInt),.int .i64 ((x1.cell 1).toInt),.int .i64 ((x1.cell 2).toInt)])).set ((pivot:Int).toNat) (.agg [.int .i64 ((x2.cell 0).toInt),.int .i64 ((x2.cell 1).toInt),.int .i64 ((x2.cell 2).toInt)])).length:Int))) then
      (((af.set ((a:Int).toNat) (.agg [.int .i64 ((x1.cell 0).toInt),.int .i64 ((x1.cell 1).toInt),.int .i64 ((x1.cell 2).toInt)])).set ((pivot:Int).toNat) (.agg [.int .i64 ((x2.cell 0).toInt),.int .i64 ((x2.cell 1).toInt),.int .i64 ((x2.cell 2).toInt)]))[(dX:Int).toNat]?).bind fun kJ=>
      bif (decide (0≤eO))&&(decide (eO<(((af.set ((a:Int).toNat) (.agg [.int .i64 ((x1.cell 0).toInt),.int .i64 ((x1.cell 1).toInt),.int .i64 ((x1.cell 2).toInt)])).set ((pivot:Int).toNat) (.agg [.int .i64 ((x2.cell 0).toInt),.int .i64 ((x2.cell 1).toInt),.int .i64 ((x2.cell 2).toInt)])).length:Int))) then
       (((af.set ((a:Int).toNat) (.agg [.int .i64 ((x1.cell 0).toInt),.int .i64 ((x1.cell 1).toInt),.int .i64 ((x1.cell 2).toInt)])).set ((pivot:Int).toNat) (.agg [.int .i64 ((x2.cell 0).toInt),.int .i64 ((x2.cell 1).toInt),.int .i64 ((x2.cell 2).toInt)]))[(eO:Int).toNat]?).bind fun qi=>
       bif (decide (0≤eO))&&(decide (eO<(((af.set ((a:Int).toNat) (.agg [.int .i64 ((x1.cell 0).toInt),.int .i64 ((x1.cell 1).toInt),.int .i64 ((x1.cell 2).toInt)])).set ((pivot:Int).toNat) (.agg [.int .i64 ((x2.cell 0).toInt),.int .i64 ((x2.cell 1).toInt),.int .i64 ((x2.cell 2).toInt)])).length:Int))) then
       (((af.set ((a:Int).toNat) (.agg [.int .i64 ((x1.cell 0).toInt),.int .i64 ((x1.cell 1).toInt),.int .i64 ((x1.cell 2).toInt)])).set ((pivot:Int).toNat) (.agg [.int .i64 ((x2.cell 0).toInt),.int .i64 ((x2.cell 1).toInt),.int .i64 ((x2.cell 2).toInt)]))[(eO:Int).toNat]?).bind fun Af=>
       bif (decide (0≤dX))&&(decide (dX<((((af.set ((a:Int).toNat) (.agg [.int .i64 ((x1.cell 0).toInt),.int .i64 ((x1.cell 1).toInt),.int .i64 ((x1.cell 2).toInt)])).set ((pivot:Int).toNat) (.agg [.int .i64 ((x2.cell 0).toInt),.int .i64 ((x2.cell 1).toInt),.int .i64 ((x2.cell 2).toInt)])).set ((eO:Int).toNat) (.agg [.int .i64 ((kJ.cell 0).toInt),.int .i64 ((kJ.cell 1).toInt),.int .i64 ((kJ.cell 2).toInt)])).length:Int))) then
        ((((af.set ((a:Int).toNat) (.agg [.int .i64 ((x1.cell 0).toInt),.int .i64 ((x1.cell 1).toInt),.int .i64 ((x1.cell 2).toInt)])).set ((pivot:Int).toNat) (.agg [.int .i64 ((x2.cell 0).toInt),.int .i64 ((x2.cell 1).toInt),.int .i64 ((x2.cell 2).toInt)])).set ((eO:Int).toNat) (.agg [.int .i64 ((kJ.cell 0).toInt),.int .i64 ((kJ.cell 1).toInt),.int .i64 ((kJ.cell 2).toInt)]))[(dX:Int).toNat]?).bind fun x22=>
        (Loop (wD C a) (IntKind.wrap .i64 (eO+1),IntKind.wrap .i64 (dX-1),(((af.set ((a:Int).toNat) (.agg [.int .i64 ((x1.cell 0).toInt),.int .i64 ((x1.cell 1).toInt),.int .i64 ((x1.cell 2).toInt)])).set ((pivot:Int).toNat) (.agg [.int .i64 ((x2.cell 0).toInt),.int .i64 ((x2.cell 1).toInt),.int .i64 ((x2.cell 2).toInt)])).set ((eO:Int).toNat) (.agg [.int .i64 ((kJ.cell 0).toInt),.int .i64 ((kJ.cell 1).toInt),.int .i64 ((kJ.cell 2).toInt)])).set ((dX:Int).toNat) (.agg [.int .i64 ((qi.cell 0).toInt),.int .i64 ((qi.cell 1).toInt),.int .i64 ((qi.cell 2).toInt)]))).bind (un fun (ahU:Int)=>un fun (oR:Int)=>un fun (ahV:Bool) (jd:List V)=>
         bif (decide (0≤a))&&(decide (a<(jd.length:Int))) then
         (jd[(a:Int).toNat]?).bind fun lK=>
         bif (decide (0≤oR))&&(decide (oR<(jd.length:Int))) then
          (jd[(oR:Int).toNat]?).bind fun tQ=>
          bif (decide (0≤oR))&&(decide (oR<(jd.length:Int))) then
          (jd[(oR:Int).toNat]?).bind fun x43=>
          bif (decide (0≤a))&&(decide (a<((jd.set ((oR:Int).toNat) (.agg [.int .i64 ((lK.cell 0).toInt),.int .i64 ((lK.cell 1).toInt),.int .i64 ((lK.cell 2).toInt)])).length:Int))) then
           ((jd.set ((oR:Int).toNat) (.agg [.int .i64 ((lK.cell 0).toInt),.int .i64 ((lK.cell 1).toInt),.int .i64 ((lK.cell 2).toInt)]))[(a:Int).toNat]?).bind fun x44=>
           some [.int .i64 oR,.bool false,.list an ((jd.set ((oR:Int).toNat) (.agg [.int .i64 ((lK.cell 0).toInt),.int .i64 ((lK.cell 1).toInt),.int .i64 ((lK.cell 2).toInt)])).set ((a:Int).toNat) (.agg [.int .i64 ((tQ.cell 0).toInt),.int .i64 ((tQ.cell 1).toInt),.int .i64 ((tQ.cell 2).toInt)]))]
          else none
          else none
         else none
         else none)
       else none
       else none
      else none
      else none))
   else none
  else none
  else none
 else none
theorem aeQ {a b' pivot:Int} {af:List V} {r:Option (List V)} (h:TW CC a b' pivot af=r):CC nw [.int .i64 a,.int .i64 b',.int .i64 pivot,.list an af]=r:=
 bj (key:=181) (L:=TV CC) (bs:=[.loop (ao [1,1,1,0,0,0] oQ),.loop (ao [1,1,1,1,0,0,0] oQ),.loop (ao [1,1,1,1,1,1,1,1,1,0,0,0] oQ)]) (by kernel_rfl) (bm (aeL CC) (bm (aeM CC) (bm (aeP CC) au))) (Eq.trans (by kernel_rfl) h)
end Go.AM
set_option maxRecDepth 100000
namespace Go.AM
open Go.Proofs
noncomputable abbrev wE:Code:=cy Tryd.prog (ar.aP 182)
noncomputable def AJ (C:ae) (a j:Int) (af:List V) (i:Int) {β:Type} (kn:Int→Option β) (kr:(Int × Bool)→Option β):Option β:=
 bif decide ((i:Int)≤j) then
  bif (decide (0≤a))&&(decide (a<(af.length:Int))) then
  (af[(a:Int).toNat]?).bind fun x5=>
  bif (decide (0≤i))&&(decide (i<(af.length:Int))) then
   (af[(i:Int).toNat]?).bind fun x6=>
   (C aW [.int .i64 ((x5.cell 0).toInt),.int .i64 ((x5.cell 1).toInt),.int .i64 ((x5.cell 2).toInt),.int .i64 ((x6.cell 0).toInt),.int .i64 ((x6.cell 1).toInt),.int .i64 ((x6.cell 2).toInt)]).bind fun r7=>
   bif !(decide ((((V.nth r7 0).toInt):Int)<0)) then
   kn (IntKind.wrap .i64 (i+1))
   else
   kr (i,!(decide ((((V.nth r7 0).toInt):Int)<0)))
  else none
  else none
 else
  kr (i,false)
noncomputable def AK (C:ae) (a j:Int) (af:List V):(Int)→Option ((Int) ⊕ (Int × Bool)):=fun i=>AJ C a j af i (fun y=>some (.inl y)) (fun r=>some (.inr r))
noncomputable def wF (C:ae) (a i:Int) (af:List V) (j:Int) {β:Type} (kn:Int→Option β) (kr:(Int × Bool)→Option β):Option β:=
 bif decide ((i:Int)≤j) then
  bif (decide (0≤a))&&(decide (a<(af.length:Int))) then
  (af[(a:Int).toNat]?).bind fun iG=>
  bif (decide (0≤j))&&(decide (j<(af.length:Int))) then
   (af[(j:Int).toNat]?).bind fun fA=>
   (C aW [.int .i64 ((iG.cell 0).toInt),.int .i64 ((iG.cell 1).toInt),.int .i64 ((iG.cell 2).toInt),.int .i64 ((fA.cell 0).toInt),.int .i64 ((fA.cell 1).toInt),.int .i64 ((fA.cell 2).toInt)]).bind fun ja=>
   bif decide ((((V.nth ja 0).toInt):Int)<0) then
   kn (IntKind.wrap .i64 (j-1))
   else
   kr (j,decide ((((V.nth ja 0).toInt):Int)<0))
  else none
  else none
 else
  kr (j,false)
noncomputable def wG (C:ae) (a i:Int) (af:List V):(Int)→Option ((Int) ⊕ (Int × Bool)):=fun j=>wF C a i af j (fun y=>some (.inl y)) (fun r=>some (.inr r))
noncomputable def AL (C:ae) (a i j:Int) (af:List V) {β:Type} (kn:(Int × Int × (List V))→Option β) (kr:(Int × Int × Bool × (List V))→Option β):Option β:=
 (Loop (AK C a j af) i).bind (un fun (eO:Int) (tz:Bool)=>
  (Loop (wG C a eO af) j).bind (un fun (dX:Int) (Ej:Bool)=>
   bif decide ((eO:Int)>dX) then
    kr (eO,dX,decide ((eO:Int)>dX),af)
   else
    bif (decide (0≤dX))&&(decide (dX<(af.length:Int))) then
    (af[(dX:Int).toNat]?).bind fun fG=>
    bif (decide (0≤eO))&&(decide (eO<(af.length:Int))) then
     (af[(eO:Int).toNat]?).bind fun gb=>
     bif (decide (0≤eO))&&(decide (eO<(af.length:Int))) then
     (af[(eO:Int).toNat]?).bind fun oO=>
     bif (decide (0≤dX))&&(decide (dX<((af.set ((eO:Int).toNat) (.agg [.int .i64 ((fG.cell 0).toInt),.int .i64 ((fG.cell 1).toInt),.int .i64 ((fG.cell 2).toInt)])).length:Int))) then
      ((af.set ((eO:Int).toNat) (.agg [.int .i64 ((fG.cell 0).toInt),.int .i64 ((fG.cell 1).toInt),.int .i64 ((fG.cell 2).toInt)]))[(dX:Int).toNat]?).bind fun Ko=>
      kn (IntKind.wrap .i64 (eO+1),IntKind.wrap .i64 (dX-1),(af.set ((eO:Int).toNat) (.agg [.int .i64 ((fG.cell 0).toInt),.int .i64 ((fG.cell 1).toInt),.int .i64 ((fG.cell 2).toInt)])).set ((dX:Int).toNat) (.agg [.int .i64 ((gb.cell 0).toInt),.int .i64 ((gb.cell 1).toInt),.int .i64 ((gb.cell 2).toInt)]))
     else none
     else none
    else none
    else none))
noncomputable def wH (C:ae) (a:Int):(Int × Int × (List V))→Option ((Int × Int × (List V)) ⊕ (Int × Int × Bool × (List V))):=un fun i=>un fun j af=>AL C a i j af (fun y=>some (.inl y)) (fun r=>some (.inr r))
noncomputable def TX (C:ae):cq:=fun β n ds k=>
 bif Nat.beq n 49 then bA JO [false,true,false,false] [[1,0,3,0,4]] (@AJ C) ds k else
 bif Nat.beq n 81 then bA JP [false,false,true,false] [[1,2,0,0,4]] (@wF C) ds k else
 bif Nat.beq n 50 then bA JQ [false,true,true,true] [[1,0,0,0,0]] (@AL C) ds k else
 none
abbrev KL (C:ae) (b:cl):Prop:=cm Tryd.prog ar C (TX C) 182 (cE Tryd.prog (ar.aP 182)) (ar.sin 182).aO.length b
theorem aeR (C:ae):KL C (.loop (ao [1,1,1,0,0,0,0,0,0,0] wE)):=
 bD JO [false,true,false,false] [[1,0,3,0,4]] (@AJ C) (by kernel_rfl) (aT (bs:=[]) (by kernel_rfl) au) (fun ds=>by kernel_rfl) (fun i x=>by kernel_rfl) (fun i x β k=>by kernel_rfl) (fun β ds k=>by kernel_rfl)
theorem aeS (C:ae):KL C (.loop (ao [1,1,1,0,0,0,0,1,0,0,0] wE)):=
 bD JP [false,false,true,false] [[1,2,0,0,4]] (@wF C) (by kernel_rfl) (aT (bs:=[]) (by kernel_rfl) au) (fun ds=>by kernel_rfl) (fun i x=>by kernel_rfl) (fun i x β k=>by kernel_rfl) (fun β ds k=>by kernel_rfl)
theorem aeT (C:ae):KL C (.loop (ao [1,1,1,0,0,0] wE)):=
 bD JQ [false,true,true,true] [[1,0,0,0,0]] (@AL C) (by kernel_rfl) (aT (bs:=[.loop (ao [1,1,1,0,0,0,0,0,0,0] wE),.loop (ao [1,1,1,0,0,0,0,1,0,0,0] wE)]) (by kernel_rfl) (bm (aeR C) (bm (aeS C) au))) (fun ds=>by kernel_rfl) (fun i x=>by kernel_rfl) (fun i x β k=>by kernel_rfl) (fun β ds k=>by kernel_rfl)
noncomputable def TY (C:ae) (a b' pivot:Int) (af:List V):Option (List V):=
 bif (decide (0≤pivot))&&(decide (pivot<(af.length:Int))) then
  (af[(pivot:Int).toNat]?).bind fun x1=>
  bif (decide (0≤a))&&(decide (a<(af.length:Int))) then
  (af[(a:Int).toNat]?).bind fun x2=>
  bif (decide (0≤a))&&(decide (a<(af.length:Int))) then
   (af[(a:Int).toNat]?).bind fun x3=>
   bif (decide (0≤pivot))&&(decide (pivot<((af.set ((a:Int).toNat) (.agg [.int .i64 ((x1.cell 0).toInt),.int .i64 ((x1.cell 1).toInt),.int .i64 ((x1.cell 2).toInt)])).length:Int))) then
   ((af.set ((a:Int).toNat) (.agg [.int .i64 ((x1.cell 0).toInt),.int .i64 ((x1.cell 1).toInt),.int .i64 ((x1.cell 2).toInt)]))[(pivot:Int).toNat]?).bind fun x4=>
   (Loop (wH C a) (IntKind.wrap .i64 (a+1),IntKind.wrap .i64 (b'-1),(af.set ((a:Int).toNat) (.agg [.int .i64 ((x1.cell 0).toInt),.int .i64 ((x1.cell 1).toInt),.int .i64 ((x1.cell 2).toInt)])).set ((pivot:Int).toNat) (.agg [.int .i64 ((x2.cell 0).toInt),.int .i64 ((x2.cell 1).toInt),.int .i64 ((x2.cell 2).toInt)]))).bind (un fun (aeU:Int)=>un fun (ahW:Int)=>un fun (ahX:Bool) (aeV:List V)=>
    some [.int .i64 aeU,.list an aeV])
   else none
  else none
  else none
 else none
theorem aeW {a b' pivot:Int} {af:List V} {r:Option (List V)} (h:TY CC a b' pivot af=r):CC vA [.int .i64 a,.int .i64 b',.int .i64 pivot,.list an af]=r:=
 bj (key:=182) (L:=TX CC) (bs:=[.loop (ao [1,1,1,0,0,0] wE)]) (by kernel_rfl) (bm (aeT CC) au) (Eq.trans (by kernel_rfl) h)
end Go.AM
set_option maxRecDepth 100000
namespace Go.AM
open Go.Proofs
noncomputable abbrev mJ:Code:=cy Tryd.prog (ar.aP 180)
noncomputable def AN (C:ae) (a b' j:Int) (af:List V) (i:Int) {β:Type} (kn:Int→Option β) (kr:(Int × Bool)→Option β):Option β:=
 bif decide ((i:Int)<b') then
  bif (decide (0≤i))&&(decide (i<(af.length:Int))) then
  (af[(i:Int).toNat]?).bind fun x1=>
  bif (decide (0≤(IntKind.wrap .i64 (i-1))))&&(decide ((IntKind.wrap .i64 (i-1))<(af.length:Int))) then
   (af[(IntKind.wrap .i64 (i-1):Int).toNat]?).bind fun x2=>
   (C aW [.int .i64 ((x1.cell 0).toInt),.int .i64 ((x1.cell 1).toInt),.int .i64 ((x1.cell 2).toInt),.int .i64 ((x2.cell 0).toInt),.int .i64 ((x2.cell 1).toInt),.int .i64 ((x2.cell 2).toInt)]).bind fun r3=>
   bif !(decide ((((V.nth r3 0).toInt):Int)<0)) then
   kn (IntKind.wrap .i64 (i+1))
   else
   kr (i,!(decide ((((V.nth r3 0).toInt):Int)<0)))
  else none
  else none
 else
  kr (i,false)
noncomputable def AO (C:ae) (a b' j:Int) (af:List V):(Int)→Option ((Int) ⊕ (Int × Bool)):=fun i=>AN C a b' j af i (fun y=>some (.inl y)) (fun r=>some (.inr r))
noncomputable def AP (C:ae) (a b' i j j':Int) (af:List V) {β:Type} (kn:(Int × (List V))→Option β) (kr:(Int × (List V))→Option β):Option β:=
 bif decide ((j':Int)≥1) then
  bif (decide (0≤j'))&&(decide (j'<(af.length:Int))) then
  (af[(j':Int).toNat]?).bind fun iG=>
  bif (decide (0≤(IntKind.wrap .i64 (j'-1))))&&(decide ((IntKind.wrap .i64 (j'-1))<(af.length:Int))) then
   (af[(IntKind.wrap .i64 (j'-1):Int).toNat]?).bind fun fA=>
   (C aW [.int .i64 ((iG.cell 0).toInt),.int .i64 ((iG.cell 1).toInt),.int .i64 ((iG.cell 2).toInt),.int .i64 ((fA.cell 0).toInt),.int .i64 ((fA.cell 1).toInt),.int .i64 ((fA.cell 2).toInt)]).bind fun ja=>
   bif !(decide ((((V.nth ja 0).toInt):Int)<0)) then
   kr (j',af)
   else
   bif (decide (0≤(IntKind.wrap .i64 (j'-1))))&&(decide ((IntKind.wrap .i64 (j'-1))<(af.length:Int))) then
    (af[(IntKind.wrap .i64 (j'-1):Int).toNat]?).bind fun jc=>
    bif (decide (0≤j'))&&(decide (j'<(af.length:Int))) then
    (af[(j':Int).toNat]?).bind fun nG=>
    bif (decide (0≤j'))&&(decide (j'<(af.length:Int))) then
     (af[(j':Int).toNat]?).bind fun fG=>
     bif (decide (0≤(IntKind.wrap .i64 (j'-1))))&&(decide ((IntKind.wrap .i64 (j'-1))<((af.set ((j':Int).toNat) (.agg [.int .i64 ((jc.cell 0).toInt),.int .i64 ((jc.cell 1).toInt),.int .i64 ((jc.cell 2).toInt)])).length:Int))) then
     ((af.set ((j':Int).toNat) (.agg [.int .i64 ((jc.cell 0).toInt),.int .i64 ((jc.cell 1).toInt),.int .i64 ((jc.cell 2).toInt)]))[(IntKind.wrap .i64 (j'-1):Int).toNat]?).bind fun gb=>
     kn (IntKind.wrap .i64 (j'-1),(af.set ((j':Int).toNat) (.agg [.int .i64 ((jc.cell 0).toInt),.int .i64 ((jc.cell 1).toInt),.int .i64 ((jc.cell 2).toInt)])).set ((IntKind.wrap .i64 (j'-1):Int).toNat) (.agg [.int .i64 ((nG.cell 0).toInt),.int .i64 ((nG.cell 1).toInt),.int .i64 ((nG.cell 2).toInt)]))
     else none
    else none
    else none
   else none
  else none
  else none
 else
  kr (j',af)
noncomputable def AQ (C:ae) (a b' i j:Int):(Int × (List V))→Option ((Int × (List V)) ⊕ (Int × (List V))):=un fun j' af=>AP C a b' i j j' af (fun y=>some (.inl y)) (fun r=>some (.inr r))
noncomputable def Fo (C:ae) (a b' i j:Int) (t65:Bool) (af:List V) {β:Type} (kr:(List V)→Option β):Option β:=
 bif t65 then
  (Loop (AQ C a b' i j) (IntKind.wrap .i64 (i-1),af)).bind (un fun (ahY:Int) (aeX:List V)=>
   kr aeX)
 else
  kr af
noncomputable def AR (C:ae) (a b' i j j':Int) (af:List V) {β:Type} (kn:(Int × (List V))→Option β) (kr:(Int × (List V))→Option β):Option β:=
 bif decide ((j':Int)<b') then
  bif (decide (0≤j'))&&(decide (j'<(af.length:Int))) then
  (af[(j':Int).toNat]?).bind fun qi=>
  bif (decide (0≤(IntKind.wrap .i64 (j'-1))))&&(decide ((IntKind.wrap .i64 (j'-1))<(af.length:Int))) then
   (af[(IntKind.wrap .i64 (j'-1):Int).toNat]?).bind fun Af=>
   (C aW [.int .i64 ((qi.cell 0).toInt),.int .i64 ((qi.cell 1).toInt),.int .i64 ((qi.cell 2).toInt),.int .i64 ((Af.cell 0).toInt),.int .i64 ((Af.cell 1).toInt),.int .i64 ((Af.cell 2).toInt)]).bind fun iJ=>
   bif !(decide ((((V.nth iJ 0).toInt):Int)<0)) then
   kr (j',af)
   else
   bif (decide (0≤(IntKind.wrap .i64 (j'-1))))&&(decide ((IntKind.wrap .i64 (j'-1))<(af.length:Int))) then
    (af[(IntKind.wrap .i64 (j'-1):Int).toNat]?).bind fun kI=>
    bif (decide (0≤j'))&&(decide (j'<(af.length:Int))) then
    (af[(j':Int).toNat]?).bind fun tN=>
    bif (decide (0≤j'))&&(decide (j'<(af.length:Int))) then
     (af[(j':Int).toNat]?).bind fun x25=>
     bif (decide (0≤(IntKind.wrap .i64 (j'-1))))&&(decide ((IntKind.wrap .i64 (j'-1))<((af.set ((j':Int).toNat) (.agg [.int .i64 ((kI.cell 0).toInt),.int .i64 ((kI.cell 1).toInt),.int .i64 ((kI.cell 2).toInt)])).length:Int))) then
     ((af.set ((j':Int).toNat) (.agg [.int .i64 ((kI.cell 0).toInt),.int .i64 ((kI.cell 1).toInt),.int .i64 ((kI.cell 2).toInt)]))[(IntKind.wrap .i64 (j'-1):Int).toNat]?).bind fun x26=>
     kn (IntKind.wrap .i64 (j'+1),(af.set ((j':Int).toNat) (.agg [.int .i64 ((kI.cell 0).toInt),.int .i64 ((kI.cell 1).toInt),.int .i64 ((kI.cell 2).toInt)])).set ((IntKind.wrap .i64 (j'-1):Int).toNat) (.agg [.int .i64 ((tN.cell 0).toInt),.int .i64 ((tN.cell 1).toInt),.int .i64 ((tN.cell 2).toInt)]))
     else none
    else none
    else none
   else none
  else none
  else none
 else
  kr (j',af)
noncomputable def AS (C:ae) (a b' i j:Int):(Int × (List V))→Option ((Int × (List V)) ⊕ (Int × (List V))):=un fun j' af=>AR C a b' i j j' af (fun y=>some (.inl y)) (fun r=>some (.inr r))
noncomputable def AT (C:ae) (a b' i j:Int) (af:List V) {β:Type} (kn:(Int × Int × (List V))→Option β) (kr:((Bool × (List V)) ⊕ (Int × Int × Bool × (List V)))→Option β):Option β:=
 bif decide ((j:Int)<5) then
  (Loop (AO C a b' j af) i).bind (un fun (eX:Int) (mw:Bool)=>
   bif (eX:Int)==b' then
   kr (.inl (true,af))
   else
   bif decide (((IntKind.wrap .i64 (b'-a)):Int)<50) then
    kr (.inl (false,af))
   else
    bif (decide (0≤(IntKind.wrap .i64 (eX-1))))&&(decide ((IntKind.wrap .i64 (eX-1))<(af.length:Int))) then
    (af[(IntKind.wrap .i64 (eX-1):Int).toNat]?).bind fun x6=>
    bif (decide (0≤eX))&&(decide (eX<(af.length:Int))) then
     (af[(eX:Int).toNat]?).bind fun x7=>
     bif (decide (0≤eX))&&(decide (eX<(af.length:Int))) then
     (af[(eX:Int).toNat]?).bind fun x8=>
     bif (decide (0≤(IntKind.wrap .i64 (eX-1))))&&(decide ((IntKind.wrap .i64 (eX-1))<((af.set ((eX:Int).toNat) (.agg [.int .i64 ((x6.cell 0).toInt),.int .i64 ((x6.cell 1).toInt),.int .i64 ((x6.cell 2).toInt)])).length:Int))) then
      ((af.set ((eX:Int).toNat) (.agg [.int .i64 ((x6.cell 0).toInt),.int .i64 ((x6.cell 1).toInt),.int .i64 ((x6.cell 2).toInt)]))[(IntKind.wrap .i64 (eX-1):Int).toNat]?).bind fun x9=>
      Fo C a b' eX j (decide (((IntKind.wrap .i64 (eX-a)):Int)≥2)) ((af.set ((eX:Int).toNat) (.agg [.int .i64 ((x6.cell 0).toInt),.int .i64 ((x6.cell 1).toInt),.int .i64 ((x6.cell 2).toInt)])).set ((IntKind.wrap .i64 (eX-1):Int).toNat) (.agg [.int .i64 ((x7.cell 0).toInt),.int .i64 ((x7.cell 1).toInt),.int .i64 ((x7.cell 2).toInt)])) (fun (TZ:List V)=>
       bif decide (((IntKind.wrap .i64 (b'-eX)):Int)≥2) then
       (Loop (AS C a b' eX j) (IntKind.wrap .i64 (eX+1),TZ)).bind (un fun (ahZ:Int) (aeY:List V)=>
        kn (eX,IntKind.wrap .i64 (j+1),aeY))
       else
       kn (eX,IntKind.wrap .i64 (j+1),TZ))
     else none
     else none
    else none
    else none)
 else
  kr (.inr (i,j,decide ((j:Int)<5),af))
noncomputable def rF (C:ae) (a b':Int):(Int × Int × (List V))→Option ((Int × Int × (List V)) ⊕ ((Bool × (List V)) ⊕ (Int × Int × Bool × (List V)))):=un fun i=>un fun j af=>AT C a b' i j af (fun y=>some (.inl y)) (fun r=>some (.inr r))
noncomputable def T2 (C:ae):cq:=fun β n ds k=>
 bif Nat.beq n 81 then bA JE [false,false,true,false,false] [[1,2,0,4,0,5]] (@AN C) ds k else
 bif Nat.beq n 225 then bA JF [false,false,false,false,true,true] [[1,2,3,4,0,0]] (@AP C) ds k else
 bif Nat.beq n 1055 then mq JG [[1,2,3,4,0]] (@Fo C) ds k else
 bif Nat.beq n 321 then bA JH [false,false,false,false,true,true] [[1,2,3,4,0,0]] (@AR C) ds k else
 bif Nat.beq n 49 then bA JI [false,false,true,true,true] [[0,0],[1,2,0,0,0,0]] (@AT C) ds k else
 none
abbrev AU (C:ae) (b:cl):Prop:=cm Tryd.prog ar C (T2 C) 180 (cE Tryd.prog (ar.aP 180)) (ar.sin 180).aO.length b
theorem aeZ (C:ae):AU C (.loop (ao [1,1,0,1,0,0,1,0,0,0,0,0] mJ)):=
 bD JE [false,false,true,false,false] [[1,2,0,4,0,5]] (@AN C) (by kernel_rfl) (aT (bs:=[]) (by kernel_rfl) au) (fun ds=>by kernel_rfl) (fun i x=>by kernel_rfl) (fun i x β k=>by kernel_rfl) (fun β ds k=>by kernel_rfl)
theorem ae0 (C:ae):AU C (.loop (ao [1,1,0,1,0,0,1,0,0,1,1,1,1,0,1,0,1,0,0] mJ)):=
 bD JF [false,false,false,false,true,true] [[1,2,3,4,0,0]] (@AP C) (by kernel_rfl) (aT (bs:=[]) (by kernel_rfl) au) (fun ds=>by kernel_rfl) (fun i x=>by kernel_rfl) (fun i x β k=>by kernel_rfl) (fun β ds k=>by kernel_rfl)
theorem ae1 (C:ae):AU C (.cond 65 (ao [1,1,0,1,0,0,1,0,0,1,1,1,1,0,1,0] mJ) (ao [1,1,0,1,0,0,1,0,0,1,1,1,1,0,1,1] mJ)):=
 nu JG [[1,2,3,4,0]] (@Fo C) (by kernel_rfl) (aT (bs:=[.loop (ao [1,1,0,1,0,0,1,0,0,1,1,1,1,0,1,0,1,0,0] mJ)]) (by kernel_rfl) (bm (ae0 C) au)) (aT (bs:=[]) (by kernel_rfl) au) (fun ds=>by kernel_rfl) (fun i β k=>by kernel_rfl) (fun β ds k=>by kernel_rfl)
theorem ae2 (C:ae):AU C (.loop (ao [1,1,0,1,0,0,1,0,0,1,1,1,1,1,1,0,1,0,0] mJ)):=
 bD JH [false,false,false,false,true,true] [[1,2,3,4,0,0]] (@AR C) (by kernel_rfl) (aT (bs:=[]) (by kernel_rfl) au) (fun ds=>by kernel_rfl) (fun i x=>by kernel_rfl) (fun i x β k=>by kernel_rfl) (fun β ds k=>by kernel_rfl)
theorem ae3 (C:ae):AU C (.loop (ao [1,1,0,1,0,0] mJ)):=
 bD JI [false,false,true,true,true] [[0,0],[1,2,0,0,0,0]] (@AT C) (by kernel_rfl) (aT (bs:=[.loop (ao [1,1,0,1,0,0,1,0,0,0,0,0] mJ),.cond 65 (ao [1,1,0,1,0,0,1,0,0,1,1,1,1,0,1,0] mJ) (ao [1,1,0,1,0,0,1,0,0,1,1,1,1,0,1,1] mJ),.loop (ao [1,1,0,1,0,0,1,0,0,1,1,1,1,1,1,0,1,0,0] mJ)]) (by kernel_rfl) (bm (aeZ C) (bm (ae1 C) (bm (ae2 C) au)))) (fun ds=>by kernel_rfl) (fun i x=>by kernel_rfl) (fun i x β k=>by kernel_rfl) (fun β ds k=>by kernel_rfl)
noncomputable def T4 (C:ae) (a b':Int) (af:List V):Option (List V):=
 (Loop (rF C a b') (IntKind.wrap .i64 (a+1),0,af)).bind (cO (un fun (ae4:Bool) (ae5:List V)=>
  some [.bool ae4,.list an ae5]) (un fun (ah0:Int)=>un fun (ah1:Int)=>un fun (ah2:Bool) (ae6:List V)=>
  some [.bool false,.list an ae6]))
theorem ae7 {a b':Int} {af:List V} {r:Option (List V)} (h:T4 CC a b' af=r):CC Im [.int .i64 a,.int .i64 b',.list an af]=r:=
 bj (key:=180) (L:=T2 CC) (bs:=[.loop (ao [1,1,0,1,0,0] mJ)]) (by kernel_rfl) (bm (ae3 CC) au) (Eq.trans (by kernel_rfl) h)
end Go.AM
set_option maxRecDepth 100000
set_option linter.unusedSimpArgs false
set_option maxHeartbeats 4000000
namespace Go.AM.SL
open Go.AM Go.Proofs Go.Sort
theorem wI (p:Ed→Bool) (d:Array Ed) (j i:Nat):scanUp p d j i=if i≤j then (if p d[i]! =true then scanUp p d j (i+1) else i) else i:=by
 conv=>lhs;rw[scanUp]
 by_cases h:i≤j
 ·rw[if_pos h];simp only[h,decide_true,Bool.true_and]
 ·rw[if_neg h,if_neg (by simp[h])]
theorem KM (p:Ed→Bool) (d:Array Ed) (i j:Nat):scanDown p d i (j+1)=if i≤j+1 then (if p d[j+1]! =true then scanDown p d i j else j+1) else j+1:=by
 conv=>lhs;rw[scanDown]
 by_cases h:i≤j+1
 ·rw[if_pos h];simp only[h,decide_true,Bool.true_and]
 ·rw[if_neg h,if_neg (by simp[h])]
theorem Fp (d:Array Ed) (b i:Nat):scanSorted av d b i=if i<b then (if bG d[i]! d[i-1]! <0 then i else scanSorted av d b (i+1)) else i:=by
 conv=>lhs;rw[scanSorted]
 by_cases h:i<b
 ·rw[if_pos h];simp only[h,decide_true,Bool.true_and,qo]
  by_cases h2:bG d[i]! d[i-1]! <0
  ·rw[if_neg (not_not_intro h2),if_pos h2]
  ·rw[if_pos h2,if_neg h2]
 ·rw[if_neg h,if_neg (by simp[h])]
theorem T6 (j:Nat) (d:Array Ed):shiftDown av (j+1) d=if bG d[j+1]! d[j]! <0 then shiftDown av j (swp d (j+1) j) else d:=by
 conv=>lhs;rw[shiftDown]
 simp only[qo]
 by_cases h2:bG d[j+1]! d[j]! <0
 ·rw[if_neg (not_not_intro h2),if_pos h2]
 ·rw[if_pos h2,if_neg h2]
theorem Fq (b j:Nat) (d:Array Ed):shiftUp av b j d=if j<b then (if bG d[j]! d[j-1]! <0 then shiftUp av b (j+1) (swp d j (j-1)) else d) else d:=by
 conv=>lhs;rw[shiftUp]
 simp only[qo]
 by_cases h:j<b
 ·rw[if_pos h,if_pos h]
  by_cases h2:bG d[j]! d[j-1]! <0
  ·rw[if_neg (not_not_intro h2),if_pos h2]
  ·rw[if_pos h2,if_neg h2]
 ·rw[if_neg h,if_neg h]
theorem ae8 {a:Nat}: ∀(n i j:Nat) (d:Array Ed),j+1-i≤n→(partLoop av a i j d).2.size=d.size∧(partLoop av a i j d).1≤j:=by
 intro n
 induction n with
 | zero=>
  intro i j d hn
  have h1:=scanUp_ge (fun x=>av x d[a]!) d j i
  have h2:=scanDown_le (fun x=> !av x d[a]!) d (scanUp (fun x=>av x d[a]!) d j i) j
  rw[partLoop_eq,if_pos (by omega)]
  exact ⟨rfl,h2⟩
 | succ n ih=>
  intro i j d hn
  rw[partLoop_eq]
  have h1:=scanUp_ge (fun x=>av x d[a]!) d j i
  have h2:=scanDown_le (fun x=> !av x d[a]!) d (scanUp (fun x=>av x d[a]!) d j i) j
  split
  ·exact ⟨rfl,h2⟩
  ·obtain ⟨h3,h4⟩:=ih (scanUp (fun x=>av x d[a]!) d j i+1) (scanDown (fun x=> !av x d[a]!) d (scanUp (fun x=>av x d[a]!) d j i) j-1) (swp d (scanUp (fun x=>av x d[a]!) d j i) (scanDown (fun x=> !av x d[a]!) d (scanUp (fun x=>av x d[a]!) d j i) j)) (by omega)
   exact ⟨by rw[h3,size_swp],by omega⟩
theorem jE {β:Type} {d:Array Ed} {i:Nat} {x y:Option β} (h:i<d.size):(bif (decide (0≤(i:Int)))&&(decide ((i:Int)<((eA d).length:Int))) then x else y)=x:=by
 rw[fC,dG,aE,if_pos (by omega),aE,if_pos (by omega)]
theorem Fs {β:Type} {d:Array Ed} {i k:Nat} {v:V} {x y:Option β} (h:i<d.size):(bif (decide (0≤(i:Int)))&&(decide ((i:Int)<(((eA d).set k v).length:Int))) then x else y)=x:=by
 rw[List.length_set,fC,dG,aE,if_pos (by omega),aE,if_pos (by omega)]
theorem jF {β:Type} {d:Array Ed} {i:Nat} {f:V→Option β} (h:i<d.size):((eA d)[(i:Int).toNat]?).bind f=f (d[i]!).enc:=by
 rw[Int.toNat_natCast,fE h];rfl
theorem Ft {β:Type} {d:Array Ed} {i k:Nat} {v:V} {x:Option β} (h:i<d.size):(((eA d).set k v)[(i:Int).toNat]?).bind (fun _=>x)=x:=by
 rw[Int.toNat_natCast,List.getElem?_eq_getElem (by rw[List.length_set,fC];exact h)];rfl
theorem qq {β:Type} {d:Array Ed} {i:Nat} {f:V→Option β} (h:i<d.size):((eA d)[i]?).bind f=f (d[i]!).enc:=by
 rw[fE h];rfl
theorem KN {β:Type} {d:Array Ed} {i k:Nat} {v:V} {x:Option β} (h:i<d.size):(((eA d).set k v)[i]?).bind (fun _=>x)=x:=by
 rw[List.getElem?_eq_getElem (by rw[List.length_set,fC];exact h)];rfl
theorem ae9 {a j:Nat} {d:Array Ed} (ha:a<d.size) (hj:j<d.size) (hs:d.size<1152921504606846976): ∀(n i:Nat),j+1-i=n→i≤d.size→
  ∃t,Loop (AE CC a j (eA d)) (i:Int)=some (((scanUp (fun x=>av x d[a]!) d j i:Nat):Int),t):=by
 intro n
 induction n with
 | zero=>
  intro i hn hi
  rw[wI,if_neg (by omega)]
  exact ⟨false,bO (by simp (disch:=omega) only[AE,AD,aE,if_neg])⟩
 | succ n ih=>
  intro i hn hi
  obtain ⟨t,h⟩:=ih (i+1) (by omega) (by omega)
  rw[wI,if_pos (by omega)]
  have e:AE CC a j (eA d) (i:Int)=if bG d[i]! d[a]! <0 then some (.inl ((i+1:Nat):Int)) else some (.inr ((i:Int),decide (bG d[i]! d[a]! <0))):=by
   simp (disch:=omega) only[AE,AD,aE,dG,fX,if_pos,if_neg,wrap64,dw,fF,Int.toNat_natCast,Option.bind_some,fC,fE,Ed.c8,Ed.c9,Ed.da,Ed.re,fD,gN,Array.size_setIfInBounds,ga,V.bS,V.toInt_int,cond_true,cond_false]
  simp only[rE]
  by_cases h2:bG d[i]! d[a]! <0
  ·rw[if_pos h2] at e
   rw[if_pos h2]
   exact ⟨t,(dI e).trans h⟩
  ·rw[if_neg h2] at e
   rw[if_neg h2]
   exact ⟨_,bO e⟩
theorem T7 {a j:Nat} {d:Array Ed} (ha:a<d.size) (hj:j<d.size) (hs:d.size<1152921504606846976): ∀(n i:Nat),j+1-i=n→i≤d.size→
  ∃t,Loop (AG CC a j (eA d)) (i:Int)=some (((scanUp (fun x=>av x d[a]!) d j i:Nat):Int),t):=by
 intro n
 induction n with
 | zero=>
  intro i hn hi
  rw[wI,if_neg (by omega)]
  exact ⟨false,bO (by simp (disch:=omega) only[AG,AF,aE,if_neg])⟩
 | succ n ih=>
  intro i hn hi
  obtain ⟨t,h⟩:=ih (i+1) (by omega) (by omega)
  rw[wI,if_pos (by omega)]
  have e:AG CC a j (eA d) (i:Int)=if bG d[i]! d[a]! <0 then some (.inl ((i+1:Nat):Int)) else some (.inr ((i:Int),decide (bG d[i]! d[a]! <0))):=by
   simp (disch:=omega) only[AG,AF,aE,dG,fX,if_pos,if_neg,wrap64,dw,fF,Int.toNat_natCast,Option.bind_some,fC,fE,Ed.c8,Ed.c9,Ed.da,Ed.re,fD,gN,Array.size_setIfInBounds,ga,V.bS,V.toInt_int,cond_true,cond_false]
  simp only[rE]
  by_cases h2:bG d[i]! d[a]! <0
  ·rw[if_pos h2] at e
   rw[if_pos h2]
   exact ⟨t,(dI e).trans h⟩
  ·rw[if_neg h2] at e
   rw[if_neg h2]
   exact ⟨_,bO e⟩
theorem T8 {a i:Nat} {d:Array Ed} (ha:a<d.size) (hi:1≤i) (hs:d.size<1152921504606846976): ∀(j:Nat),j<d.size→
  ∃t,Loop (wA CC a i (eA d)) (j:Int)=some (((scanDown (fun x=> !av x d[a]!) d i j:Nat):Int),t)
 | 0,hj=>⟨false,bO (by simp (disch:=omega) only[wA,wz,aE,if_neg];rfl)⟩
 | j+1,hj=>by
  obtain ⟨t,h⟩:=T8 ha hi hs j (by omega)
  rw[KM]
  by_cases h1:i≤j+1
  ·rw[if_pos h1]
   have e:wA CC a i (eA d) ((j+1:Nat):Int)=if bG d[j+1]! d[a]! <0 then some (.inr (((j+1:Nat):Int),!decide (bG d[j+1]! d[a]! <0))) else some (.inl (j:Int)):=by
    simp (disch:=omega) only[wA,wz,aE,dG,fX,if_pos,if_neg,wrap64,dw,fF,Int.toNat_natCast,Option.bind_some,fC,fE,Ed.c8,Ed.c9,Ed.da,Ed.re,fD,gN,Array.size_setIfInBounds,ga,V.bS,V.toInt_int,cond_true,cond_false,tI]
   simp only[qo]
   by_cases h2:bG d[j+1]! d[a]! <0
   ·rw[if_pos h2] at e
    rw[if_neg (not_not_intro h2)]
    exact ⟨_,bO e⟩
   ·rw[if_neg h2] at e
    rw[if_pos h2]
    exact ⟨t,(dI e).trans h⟩
  ·rw[if_neg h1]
   exact ⟨false,bO (by simp (disch:=omega) only[wA,wz,aE,if_neg])⟩
theorem KO {a i:Nat} {d:Array Ed} (ha:a<d.size) (hi:1≤i) (hs:d.size<1152921504606846976): ∀(j:Nat),j<d.size→
  ∃t,Loop (wC CC a i (eA d)) (j:Int)=some (((scanDown (fun x=> !av x d[a]!) d i j:Nat):Int),t)
 | 0,hj=>⟨false,bO (by simp (disch:=omega) only[wC,wB,aE,if_neg];rfl)⟩
 | j+1,hj=>by
  obtain ⟨t,h⟩:=KO ha hi hs j (by omega)
  rw[KM]
  by_cases h1:i≤j+1
  ·rw[if_pos h1]
   have e:wC CC a i (eA d) ((j+1:Nat):Int)=if bG d[j+1]! d[a]! <0 then some (.inr (((j+1:Nat):Int),!decide (bG d[j+1]! d[a]! <0))) else some (.inl (j:Int)):=by
    simp (disch:=omega) only[wC,wB,aE,dG,fX,if_pos,if_neg,wrap64,dw,fF,Int.toNat_natCast,Option.bind_some,fC,fE,Ed.c8,Ed.c9,Ed.da,Ed.re,fD,gN,Array.size_setIfInBounds,ga,V.bS,V.toInt_int,cond_true,cond_false,tI]
   simp only[qo]
   by_cases h2:bG d[j+1]! d[a]! <0
   ·rw[if_pos h2] at e
    rw[if_neg (not_not_intro h2)]
    exact ⟨_,bO e⟩
   ·rw[if_neg h2] at e
    rw[if_pos h2]
    exact ⟨t,(dI e).trans h⟩
  ·rw[if_neg h1]
   exact ⟨false,bO (by simp (disch:=omega) only[wC,wB,aE,if_neg])⟩
theorem T9 {a j:Nat} {d:Array Ed} (ha:a<d.size) (hj:j<d.size) (hs:d.size<1152921504606846976): ∀(n i:Nat),j+1-i=n→i≤d.size→
  ∃t,Loop (AK CC a j (eA d)) (i:Int)=some (((scanUp (fun x=> !av d[a]! x) d j i:Nat):Int),t):=by
 intro n
 induction n with
 | zero=>
  intro i hn hi
  rw[wI,if_neg (by omega)]
  exact ⟨false,bO (by simp (disch:=omega) only[AK,AJ,aE,if_neg])⟩
 | succ n ih=>
  intro i hn hi
  obtain ⟨t,h⟩:=ih (i+1) (by omega) (by omega)
  rw[wI,if_pos (by omega)]
  have e:AK CC a j (eA d) (i:Int)=if bG d[a]! d[i]! <0 then some (.inr ((i:Int),!decide (bG d[a]! d[i]! <0))) else some (.inl ((i+1:Nat):Int)):=by
   simp (disch:=omega) only[AK,AJ,aE,dG,fX,if_pos,if_neg,wrap64,dw,fF,Int.toNat_natCast,Option.bind_some,fC,fE,Ed.c8,Ed.c9,Ed.da,Ed.re,fD,gN,Array.size_setIfInBounds,ga,V.bS,V.toInt_int,cond_true,cond_false]
  simp only[qo]
  by_cases h2:bG d[a]! d[i]! <0
  ·rw[if_pos h2] at e
   rw[if_neg (not_not_intro h2)]
   exact ⟨_,bO e⟩
  ·rw[if_neg h2] at e
   rw[if_pos h2]
   exact ⟨t,(dI e).trans h⟩
theorem KP {a i:Nat} {d:Array Ed} (ha:a<d.size) (hi:1≤i) (hs:d.size<1152921504606846976): ∀(j:Nat),j<d.size→
  ∃t,Loop (wG CC a i (eA d)) (j:Int)=some (((scanDown (fun x=>av d[a]! x) d i j:Nat):Int),t)
 | 0,hj=>⟨false,bO (by simp (disch:=omega) only[wG,wF,aE,if_neg];rfl)⟩
 | j+1,hj=>by
  obtain ⟨t,h⟩:=KP ha hi hs j (by omega)
  rw[KM]
  by_cases h1:i≤j+1
  ·rw[if_pos h1]
   have e:wG CC a i (eA d) ((j+1:Nat):Int)=if bG d[a]! d[j+1]! <0 then some (.inl (j:Int)) else some (.inr (((j+1:Nat):Int),decide (bG d[a]! d[j+1]! <0))):=by
    simp (disch:=omega) only[wG,wF,aE,dG,fX,if_pos,if_neg,wrap64,dw,fF,Int.toNat_natCast,Option.bind_some,fC,fE,Ed.c8,Ed.c9,Ed.da,Ed.re,fD,gN,Array.size_setIfInBounds,ga,V.bS,V.toInt_int,cond_true,cond_false,tI]
   simp only[rE]
   by_cases h2:bG d[a]! d[j+1]! <0
   ·rw[if_pos h2] at e
    rw[if_pos h2]
    exact ⟨t,(dI e).trans h⟩
   ·rw[if_neg h2] at e
    rw[if_neg h2]
    exact ⟨_,bO e⟩
  ·rw[if_neg h1]
   exact ⟨false,bO (by simp (disch:=omega) only[wG,wF,aE,if_neg])⟩
theorem afa {a:Nat}: ∀(n i j:Nat) (d:Array Ed),j+1-i≤n→1≤i→i≤d.size→a<d.size→j<d.size→d.size<1152921504606846976→
  ∃x z,Loop (wD CC a) ((i:Int),(j:Int),eA d)=some (x,(((partLoop av a i j d).1:Nat):Int),z,eA (partLoop av a i j d).2):=by
 intro n
 induction n with
 | zero=>
  intro i j d hn h1 h2 ha hj hs
  obtain ⟨t3,e3⟩:=T7 (a:=a) ha hj hs _ i rfl h2
  have g1:=scanUp_ge (fun x=>av x d[a]!) d j i
  have g2:=scanDown_le (fun x=> !av x d[a]!) d (scanUp (fun x=>av x d[a]!) d j i) j
  obtain ⟨t4,e4⟩:=KO (a:=a) (i:=scanUp (fun x=>av x d[a]!) d j i) ha (by omega) hs j hj
  rw[partLoop_eq,if_pos (by omega)]
  refine ⟨((scanUp (fun x=>av x d[a]!) d j i:Nat):Int),true,bO ?_⟩
  simp only[wD,AH,un]
  rw[e3]
  simp only[Option.bind_some,un]
  rw[e4]
  simp (disch:=omega) only[Option.bind_some,un,mE,cond_true]
 | succ n ih=>
  intro i j d hn h1 h2 ha hj hs
  obtain ⟨t3,e3⟩:=T7 (a:=a) ha hj hs _ i rfl h2
  have g1:=scanUp_ge (fun x=>av x d[a]!) d j i
  have g2:=scanDown_le (fun x=> !av x d[a]!) d (scanUp (fun x=>av x d[a]!) d j i) j
  obtain ⟨t4,e4⟩:=KO (a:=a) (i:=scanUp (fun x=>av x d[a]!) d j i) ha (by omega) hs j hj
  rw[partLoop_eq]
  have f:wD CC a ((i:Int),(j:Int),eA d)=wD CC a ((i:Int),(j:Int),eA d):=rfl
  conv at f=>rhs;simp only[wD,AH,un];rw[e3];simp only[Option.bind_some,un];rw[e4];simp only[Option.bind_some,un]
  generalize mg:scanUp (fun x=>av x d[a]!) d j i=i2 at*
  generalize bW:scanDown (fun x=> !av x d[a]!) d i2 j=j2 at*
  by_cases h:i2>j2
  ·rw[if_pos h]
   refine ⟨(i2:Int),true,bO (f.trans ?_)⟩
   simp (disch:=omega) only[Option.bind_some,mE,cond_true]
  ·rw[if_neg h]
   obtain ⟨x,z,e⟩:=ih (i2+1) (j2-1) (swp d i2 j2) (by omega) (by omega) (by rw[size_swp];omega) (by rw[size_swp];omega) (by rw[size_swp];omega) (by rw[size_swp];omega)
   refine ⟨x,z,(dI (f.trans ?_)).trans e⟩
   simp (disch:=omega) only[aE,dG,fX,if_pos,if_neg,wrap64,dw,fF,Int.toNat_natCast,Option.bind_some,fC,fE,Ed.c8,Ed.c9,Ed.da,Ed.re,fD,gN,Array.size_setIfInBounds,ga,V.bS,V.toInt_int,cond_true,cond_false,jC]
   rfl
theorem afb (d:Array Ed) (a b pivot:Nat):partition av d a b pivot=
  if scanUp (fun x=>av x (swp d a pivot)[a]!) (swp d a pivot) (b-1) (a+1)>scanDown (fun x=> !av x (swp d a pivot)[a]!) (swp d a pivot) (scanUp (fun x=>av x (swp d a pivot)[a]!) (swp d a pivot) (b-1) (a+1)) (b-1) then
   (scanDown (fun x=> !av x (swp d a pivot)[a]!) (swp d a pivot) (scanUp (fun x=>av x (swp d a pivot)[a]!) (swp d a pivot) (b-1) (a+1)) (b-1),true,swp (swp d a pivot) (scanDown (fun x=> !av x (swp d a pivot)[a]!) (swp d a pivot) (scanUp (fun x=>av x (swp d a pivot)[a]!) (swp d a pivot) (b-1) (a+1)) (b-1)) a)
  else
   ((partLoop av a (scanUp (fun x=>av x (swp d a pivot)[a]!) (swp d a pivot) (b-1) (a+1)+1) (scanDown (fun x=> !av x (swp d a pivot)[a]!) (swp d a pivot) (scanUp (fun x=>av x (swp d a pivot)[a]!) (swp d a pivot) (b-1) (a+1)) (b-1)-1) (swp (swp d a pivot) (scanUp (fun x=>av x (swp d a pivot)[a]!) (swp d a pivot) (b-1) (a+1)) (scanDown (fun x=> !av x (swp d a pivot)[a]!) (swp d a pivot) (scanUp (fun x=>av x (swp d a pivot)[a]!) (swp d a pivot) (b-1) (a+1)) (b-1)))).1,false,
    swp (partLoop av a (scanUp (fun x=>av x (swp d a pivot)[a]!) (swp d a pivot) (b-1) (a+1)+1) (scanDown (fun x=> !av x (swp d a pivot)[a]!) (swp d a pivot) (scanUp (fun x=>av x (swp d a pivot)[a]!) (swp d a pivot) (b-1) (a+1)) (b-1)-1) (swp (swp d a pivot) (scanUp (fun x=>av x (swp d a pivot)[a]!) (swp d a pivot) (b-1) (a+1)) (scanDown (fun x=> !av x (swp d a pivot)[a]!) (swp d a pivot) (scanUp (fun x=>av x (swp d a pivot)[a]!) (swp d a pivot) (b-1) (a+1)) (b-1)))).2
    (partLoop av a (scanUp (fun x=>av x (swp d a pivot)[a]!) (swp d a pivot) (b-1) (a+1)+1) (scanDown (fun x=> !av x (swp d a pivot)[a]!) (swp d a pivot) (scanUp (fun x=>av x (swp d a pivot)[a]!) (swp d a pivot) (b-1) (a+1)) (b-1)-1) (swp (swp d a pivot) (scanUp (fun x=>av x (swp d a pivot)[a]!) (swp d a pivot) (b-1) (a+1)) (scanDown (fun x=> !av x (swp d a pivot)[a]!) (swp d a pivot) (scanUp (fun x=>av x (swp d a pivot)[a]!) (swp d a pivot) (b-1) (a+1)) (b-1)))).1 a):=rfl
theorem wJ (d:Array Ed) (i j:Nat):eA ((d.setIfInBounds i d[j]!).setIfInBounds j d[i]!)=eA (swp d i j):=rfl
theorem afc {a b pivot:Nat} {d:Array Ed} (hp:pivot<b) (fv:a<b) (hb:b≤d.size) (hs:d.size<1152921504606846976):
  CC nw [.int .i64 (a:Int),.int .i64 (b:Int),.int .i64 (pivot:Int),.list an (eA d)]=
   some [.int .i64 ((partition av d a b pivot).1:Int),.bool (partition av d a b pivot).2.1,.list an (eA (partition av d a b pivot).2.2)]:=by
 refine aeQ ?_
 unfold TW
 have z1:(swp d a pivot).size=d.size:=size_swp ..
 obtain ⟨t1,e1⟩:=ae9 (a:=a) (j:=b-1) (d:=swp d a pivot) (by omega) (by omega) (by omega) _ (a+1) rfl (by omega)
 have g1:=scanUp_ge (fun x=>av x (swp d a pivot)[a]!) (swp d a pivot) (b-1) (a+1)
 have g2:=scanDown_le (fun x=> !av x (swp d a pivot)[a]!) (swp d a pivot) (scanUp (fun x=>av x (swp d a pivot)[a]!) (swp d a pivot) (b-1) (a+1)) (b-1)
 obtain ⟨t2,e2⟩:=T8 (a:=a) (i:=scanUp (fun x=>av x (swp d a pivot)[a]!) (swp d a pivot) (b-1) (a+1)) (d:=swp d a pivot) (by omega) (by omega) (by omega) (b-1) (by omega)
 have e0:=afb d a b pivot
 rw[jE (i:=pivot) (by omega),jF (by omega),jE (i:=a) (by omega),jF (by omega),jE (i:=a) (by omega),jF (by omega),Fs (i:=pivot) (by omega),Ft (by omega)]
 simp only[Ed.c8,Ed.c9,Ed.da,Ed.re,Int.toNat_natCast,fD,wJ]
 simp (disch:=omega) only[jC,dw,wrap64]
 rw[e1]
 simp only[Option.bind_some,un]
 rw[e2]
 simp only[Option.bind_some,un]
 generalize mg:scanUp (fun x=>av x (swp d a pivot)[a]!) (swp d a pivot) (b-1) (a+1)=i2 at*
 generalize bW:scanDown (fun x=> !av x (swp d a pivot)[a]!) (swp d a pivot) i2 (b-1)=j2 at*
 generalize swp d a pivot=d1 at*
 by_cases h:i2>j2
 ·rw[if_pos h] at e0
  rw[e0,aE,if_pos (by omega)]
  rw[jE (i:=a) (by omega)];(first|rw[jF (by omega)]|rw[qq (by omega)]);rw[jE (i:=j2) (by omega)];(first|rw[jF (by omega)]|rw[qq (by omega)]);rw[jE (i:=j2) (by omega)];(first|rw[jF (by omega)]|rw[qq (by omega)]);rw[Fs (i:=a) (by omega)];(first|rw[Ft (by omega)]|rw[KN (by omega)])
  simp only[Ed.c8,Ed.c9,Ed.da,Ed.re,Int.toNat_natCast,fD,wJ]
 ·rw[if_neg h] at e0
  rw[e0,aE,if_neg (by omega)]
  have z2:(swp d1 i2 j2).size=d1.size:=size_swp ..
  obtain ⟨x,z,e5⟩:=afa (a:=a) _ (i2+1) (j2-1) (swp d1 i2 j2) (Nat.le_refl _) (by omega) (by omega) (by omega) (by omega) (by omega)
  obtain ⟨q1,q2⟩:=ae8 (a:=a) _ (i2+1) (j2-1) (swp d1 i2 j2) (Nat.le_refl _)
  rw[jE (i:=j2) (by omega)];(first|rw[jF (by omega)]|rw[qq (by omega)]);rw[jE (i:=i2) (by omega)];(first|rw[jF (by omega)]|rw[qq (by omega)]);rw[jE (i:=i2) (by omega)];(first|rw[jF (by omega)]|rw[qq (by omega)]);rw[Fs (i:=j2) (by omega)];(first|rw[Ft (by omega)]|rw[KN (by omega)])
  simp only[Ed.c8,Ed.c9,Ed.da,Ed.re,Int.toNat_natCast,fD,wJ]
  simp (disch:=omega) only[jC,dw,wrap64]
  rw[e5]
  generalize partLoop av a (i2+1) (j2-1) (swp d1 i2 j2)=r at*
  simp only[Option.bind_some,un]
  rw[jE (i:=a) (by omega)];(first|rw[jF (by omega)]|rw[qq (by omega)]);rw[jE (i:=r.1) (by omega)];(first|rw[jF (by omega)]|rw[qq (by omega)]);rw[jE (i:=r.1) (by omega)];(first|rw[jF (by omega)]|rw[qq (by omega)]);rw[Fs (i:=a) (by omega)];(first|rw[Ft (by omega)]|rw[KN (by omega)])
  simp only[Ed.c8,Ed.c9,Ed.da,Ed.re,Int.toNat_natCast,fD,wJ]
theorem afd {a:Nat}: ∀(n i j:Nat) (d:Array Ed),j+1-i≤n→1≤i→i≤d.size→a<d.size→j<d.size→d.size<1152921504606846976→
  ∃x z,Loop (wH CC a) ((i:Int),(j:Int),eA d)=some ((((partEqLoop av a i j d).1:Nat):Int),x,z,eA (partEqLoop av a i j d).2):=by
 intro n
 induction n with
 | zero=>
  intro i j d hn h1 h2 ha hj hs
  obtain ⟨t3,e3⟩:=T9 (a:=a) ha hj hs _ i rfl h2
  have g1:=scanUp_ge (fun x=> !av d[a]! x) d j i
  have g2:=scanDown_le (fun x=>av d[a]! x) d (scanUp (fun x=> !av d[a]! x) d j i) j
  obtain ⟨t4,e4⟩:=KP (a:=a) (i:=scanUp (fun x=> !av d[a]! x) d j i) ha (by omega) hs j hj
  rw[partEqLoop_eq,if_pos (by omega)]
  refine ⟨((scanDown (fun x=>av d[a]! x) d (scanUp (fun x=> !av d[a]! x) d j i) j:Nat):Int),true,bO ?_⟩
  simp only[wH,AL,un]
  rw[e3]
  simp only[Option.bind_some,un]
  rw[e4]
  simp (disch:=omega) only[Option.bind_some,un,mE,cond_true]
 | succ n ih=>
  intro i j d hn h1 h2 ha hj hs
  obtain ⟨t3,e3⟩:=T9 (a:=a) ha hj hs _ i rfl h2
  have g1:=scanUp_ge (fun x=> !av d[a]! x) d j i
  have g2:=scanDown_le (fun x=>av d[a]! x) d (scanUp (fun x=> !av d[a]! x) d j i) j
  obtain ⟨t4,e4⟩:=KP (a:=a) (i:=scanUp (fun x=> !av d[a]! x) d j i) ha (by omega) hs j hj
  rw[partEqLoop_eq]
  have f:wH CC a ((i:Int),(j:Int),eA d)=wH CC a ((i:Int),(j:Int),eA d):=rfl
  conv at f=>rhs;simp only[wH,AL,un];rw[e3];simp only[Option.bind_some,un];rw[e4];simp only[Option.bind_some,un]
  generalize mg:scanUp (fun x=> !av d[a]! x) d j i=i2 at*
  generalize bW:scanDown (fun x=>av d[a]! x) d i2 j=j2 at*
  by_cases h:i2>j2
  ·rw[if_pos h]
   refine ⟨(j2:Int),true,bO (f.trans ?_)⟩
   simp (disch:=omega) only[Option.bind_some,mE,cond_true]
  ·rw[if_neg h]
   obtain ⟨x,z,e⟩:=ih (i2+1) (j2-1) (swp d i2 j2) (by omega) (by omega) (by rw[size_swp];omega) (by rw[size_swp];omega) (by rw[size_swp];omega) (by rw[size_swp];omega)
   refine ⟨x,z,(dI (f.trans ?_)).trans e⟩
   simp (disch:=omega) only[aE,dG,fX,if_pos,if_neg,wrap64,dw,fF,Int.toNat_natCast,Option.bind_some,fC,fE,Ed.c8,Ed.c9,Ed.da,Ed.re,fD,gN,Array.size_setIfInBounds,ga,V.bS,V.toInt_int,cond_true,cond_false,jC]
   rfl
theorem afe {a b pivot:Nat} {d:Array Ed} (hp:pivot<b) (fv:a<b) (hb:b≤d.size) (hs:d.size<1152921504606846976):
  CC vA [.int .i64 (a:Int),.int .i64 (b:Int),.int .i64 (pivot:Int),.list an (eA d)]=
   some [.int .i64 ((partitionEqual av d a b pivot).1:Int),.list an (eA (partitionEqual av d a b pivot).2)]:=by
 refine aeW ?_
 unfold TY
 have z1:(swp d a pivot).size=d.size:=size_swp ..
 obtain ⟨x,z,e⟩:=afd (a:=a) _ (a+1) (b-1) (swp d a pivot) (Nat.le_refl _) (by omega) (by omega) (by omega) (by omega) (by omega)
 simp (disch:=omega) only[aE,dG,if_pos,fC,fE,Int.toNat_natCast,Option.bind_some,Ed.c8,Ed.c9,Ed.da,Ed.re,fD,gN,Array.size_setIfInBounds,jC,dw,wrap64,wJ]
 rw[e]
 rfl
theorem aff {a b j:Nat} {d:Array Ed} (hb:b≤d.size) (hs:d.size<1152921504606846976): ∀(n i:Nat),b-i=n→1≤i→i≤b→
  ∃t,Loop (AO CC a b j (eA d)) (i:Int)=some (((scanSorted av d b i:Nat):Int),t):=by
 intro n
 induction n with
 | zero=>
  intro i hn h1 hi
  rw[Fp,if_neg (by omega)]
  exact ⟨false,bO (by simp (disch:=omega) only[AO,AN,aE,if_neg])⟩
 | succ n ih=>
  intro i hn h1 hi
  obtain ⟨t,h⟩:=ih (i+1) (by omega) (by omega) (by omega)
  rw[Fp,if_pos (by omega)]
  have e:AO CC a b j (eA d) (i:Int)=if bG d[i]! d[i-1]! <0 then some (.inr ((i:Int),!decide (bG d[i]! d[i-1]! <0))) else some (.inl ((i+1:Nat):Int)):=by
   simp (disch:=omega) only[AO,AN,jC,aE,dG,fX,if_pos,if_neg,wrap64,dw,fF,Int.toNat_natCast,Option.bind_some,fC,fE,Ed.c8,Ed.c9,Ed.da,Ed.re,fD,gN,Array.size_setIfInBounds,ga,V.bS,V.toInt_int,cond_true,cond_false]
  by_cases h2:bG d[i]! d[i-1]! <0
  ·rw[if_pos h2] at e⊢
   exact ⟨_,bO e⟩
  ·rw[if_neg h2] at e⊢
   exact ⟨t,(dI e).trans h⟩
theorem Ua: ∀(j:Nat) (d:Array Ed),(shiftDown av j d).size=d.size
 | 0,_=>rfl
 | j+1,d=>by
  rw[T6]
  split
  ·rw[Ua j,size_swp]
  ·rfl
theorem afg {b:Nat}: ∀(n j:Nat) (d:Array Ed),b-j=n→(shiftUp av b j d).size=d.size:=by
 intro n
 induction n with
 | zero=>intro j d h;rw[Fq,if_neg (by omega)]
 | succ n ih=>
  intro j d h
  rw[Fq,if_pos (by omega)]
  split
  ·rw[ih _ _ (by omega),size_swp]
  ·rfl
theorem Ub {a b i k:Nat}: ∀(j:Nat) (d:Array Ed),j<d.size→d.size<1152921504606846976→
  ∃t,Loop (AQ CC a b i k) ((j:Int),eA d)=some (t,eA (shiftDown av j d))
 | 0,d,hj,hs=>⟨(0:Nat),bO (by
   simp (disch:=omega) only[AQ,AP,un,aE,if_neg]
   rfl)⟩
 | j+1,d,hj,hs=>by
  obtain ⟨t,ih⟩:=Ub (a:=a) (b:=b) (i:=i) (k:=k) j (swp d (j+1) j) (by rw[size_swp];omega) (by rw[size_swp];omega)
  rw[T6]
  have e:AQ CC a b i k (((j+1:Nat):Int),eA d)=if bG d[j+1]! d[j]! <0 then some (.inl ((j:Int),eA (swp d (j+1) j))) else some (.inr (((j+1:Nat):Int),eA d)):=by
   simp (disch:=omega) only[AQ,AP,un,aE,dG,fX,if_pos,if_neg,wrap64,dw,fF,Int.toNat_natCast,Option.bind_some,fC,fE,Ed.c8,Ed.c9,Ed.da,Ed.re,fD,gN,Array.size_setIfInBounds,ga,V.bS,V.toInt_int,cond_true,cond_false,tI]
   rfl
  by_cases h2:bG d[j+1]! d[j]! <0
  ·rw[if_pos h2] at e⊢
   exact ⟨t,(dI e).trans ih⟩
  ·rw[if_neg h2] at e⊢
   exact ⟨_,bO e⟩
theorem afh {a b i k:Nat}: ∀(n j:Nat) (d:Array Ed),b-j=n→1≤j→j≤b→b≤d.size→d.size<1152921504606846976→
  ∃t,Loop (AS CC a b i k) ((j:Int),eA d)=some (t,eA (shiftUp av b j d)):=by
 intro n
 induction n with
 | zero=>
  intro j d hn h1 hj hb hs
  rw[Fq,if_neg (by omega)]
  exact ⟨(j:Int),bO (by
   simp (disch:=omega) only[AS,AR,un,aE,if_neg])⟩
 | succ n ih=>
  intro j d hn h1 hj hb hs
  obtain ⟨t,h⟩:=ih (j+1) (swp d j (j-1)) (by omega) (by omega) (by omega) (by rw[size_swp];omega) (by rw[size_swp];omega)
  rw[Fq,if_pos (by omega)]
  have e:AS CC a b i k ((j:Int),eA d)=if bG d[j]! d[j-1]! <0 then some (.inl (((j+1:Nat):Int),eA (swp d j (j-1)))) else some (.inr ((j:Int),eA d)):=by
   simp (disch:=omega) only[AS,AR,un,jC,aE,dG,fX,if_pos,if_neg,wrap64,dw,fF,Int.toNat_natCast,Option.bind_some,fC,fE,Ed.c8,Ed.c9,Ed.da,Ed.re,fD,gN,Array.size_setIfInBounds,ga,V.bS,V.toInt_int,cond_true,cond_false]
   rfl
  by_cases h2:bG d[j]! d[j-1]! <0
  ·rw[if_pos h2] at e⊢
   exact ⟨t,(dI e).trans h⟩
  ·rw[if_neg h2] at e⊢
   exact ⟨_,bO e⟩
theorem afi {d:Array Ed} {b:Nat}: ∀(n i:Nat),b-i=n→i≤b→i≤scanSorted av d b i∧scanSorted av d b i≤b:=by
 intro n
 induction n with
 | zero=>intro i hn hi;rw[Fp,if_neg (by omega)];omega
 | succ n ih=>
  intro i hn hi
  rw[Fp,if_pos (by omega)]
  obtain ⟨h1,h2⟩:=ih (i+1) (by omega) (by omega)
  split<;>omega
theorem afj {a b:Nat}: ∀(s i:Nat) (d:Array Ed),s≤5→a<i→i≤b→b≤d.size→d.size<1152921504606846976→
  (Loop (rF CC a b) ((i:Int),((5-s:Nat):Int),eA d)=some (.inl ((partialIns av a b s i d).2,eA (partialIns av a b s i d).1)))∨
  (∃x y z,(partialIns av a b s i d).2=false∧Loop (rF CC a b) ((i:Int),((5-s:Nat):Int),eA d)=some (.inr (x,y,z,eA (partialIns av a b s i d).1))):=by
 intro s
 induction s with
 | zero=>
  intro i d hs5 hi KQ hb hs
  refine .inr ⟨(i:Int),((5:Nat):Int),false,rfl,bO ?_⟩
  simp (disch:=omega) only[rF,AT,un,rB,cond_false]
  rfl
 | succ s ih=>
  intro i d hs5 hi KQ hb hs
  obtain ⟨t1,e1⟩:=aff (a:=a) (j:=5-(s+1)) hb hs _ i rfl (by omega) KQ
  obtain ⟨q1,q2⟩:=afi (d:=d) _ i rfl KQ
  rw[partialIns_succ]
  have f:rF CC a b ((i:Int),((5-(s+1):Nat):Int),eA d)=rF CC a b ((i:Int),((5-(s+1):Nat):Int),eA d):=rfl
  conv at f=>rhs;simp only[rF,AT,un];rw[aE,if_pos (by omega),e1];simp only[Option.bind_some,un]
  generalize scanSorted av d b i=k at*
  by_cases h1:k=b
  ·rw[if_pos h1]
   left
   refine bO (f.trans ?_)
   rw[pJ,if_pos (by omega)]
  ·rw[if_neg h1]
   by_cases h2:b-a<50
   ·rw[if_pos h2]
    left
    refine bO (f.trans ?_)
    rw[pJ,if_neg (by omega),wrap64 (by omega) (by omega),aE,if_pos (by omega)]
   ·rw[if_neg h2]
    have z1:(swp d k (k-1)).size=d.size:=size_swp ..
    have z2:(fixDown av a k (swp d k (k-1))).size=d.size:=by
     unfold fixDown
     split
     ·rw[Ua,z1]
     ·exact z1
    have z3:(fixUp av b k (fixDown av a k (swp d k (k-1)))).size=d.size:=by
     unfold fixUp
     split
     ·rw[afg _ _ _ rfl,z2]
     ·exact z2
    obtain ⟨t2,e2⟩:=Ub (a:=a) (b:=b) (i:=k) (k:=5-(s+1)) (k-1) (swp d k (k-1)) (by omega) (by omega)
    obtain ⟨t4,e4⟩:=afh (a:=a) (b:=b) (i:=k) (k:=5-(s+1)) _ (k+1) (fixDown av a k (swp d k (k-1))) rfl (by omega) (by omega) (by omega) (by omega)
    have e5:rF CC a b ((i:Int),((5-(s+1):Nat):Int),eA d)=some (.inl ((k:Int),((5-s:Nat):Int),eA (fixUp av b k (fixDown av a k (swp d k (k-1)))))):=by
     refine f.trans ?_
     rw[pJ,if_neg (by omega),wrap64 (by omega) (by omega),aE,if_neg (by omega)]
     simp (disch:=omega) only[aE,dG,if_pos,fC,fE,Int.toNat_natCast,Option.bind_some,Ed.c8,Ed.c9,Ed.da,Ed.re,fD,gN,Array.size_setIfInBounds,jC,dw,lH,wrap64,wJ,Fo]
     rw[show 5-(s+1)+1=5-s by omega]
     unfold fixDown at e4⊢
     unfold fixUp
     have c1:(((k-a:Nat):Int)≥2)=(k-a≥2):=propext (by omega)
     have c2:(((b-k:Nat):Int)≥2)=(b-k≥2):=propext (by omega)
     simp only[c1,c2]
     by_cases g1:k-a≥2
     ·by_cases g2:b-k≥2
      ·simp only[g1,g2,if_true,e2,Option.bind_some,un] at e4⊢
       rw[e4]
       rfl
      ·simp only[g1,g2,if_true,if_false,e2,Option.bind_some,un]
     ·by_cases g2:b-k≥2
      ·simp only[g1,g2,if_true,if_false] at e4⊢
       rw[e4]
       rfl
      ·exact absurd (show b-k≥2 by omega) g2
    rw[dI e5]
    exact ih k _ (by omega) (by omega) (by omega) (by omega) (by omega)
theorem Uc {a b:Nat} {d:Array Ed} (fv:a<b) (hb:b≤d.size) (hs:d.size<1152921504606846976):
  CC Im [.int .i64 (a:Int),.int .i64 (b:Int),.list an (eA d)]=
   some [.bool (partialInsertionSort av d a b).2,.list an (eA (partialInsertionSort av d a b).1)]:=by
 refine ae7 ?_
 unfold T4
 simp (disch:=omega) only[dw,wrap64]
 rcases afj (a:=a) (b:=b) 5 (a+1) d (Nat.le_refl _) (by omega) (by omega) hb hs with h|⟨x,y,z,h0,h⟩
 ·rw[show ((5-5:Nat):Int)=0 from rfl] at h
  rw[h]
  rfl
 ·rw[show ((5-5:Nat):Int)=0 from rfl] at h
  rw[h]
  unfold partialInsertionSort
  rw[h0]
  rfl
end Go.AM.SL
set_option maxRecDepth 100000
namespace Go.AM
open Go.Proofs
noncomputable abbrev rG:Code:=cy Tryd.prog (ar.aP 173)
noncomputable def AV (C:ae) (data:List V) (i j k':Int) (t36:Bool) (gv:Int) {β:Type} (kr:(Int × Int × Int × Int)→Option β):Option β:=
 bif t36 then
  (C yS [.list an data,.int .i64 i,.int .i64 gv]).bind fun r1=>
  (C yS [.list an data,.int .i64 j,.int .i64 ((V.nth (r1.drop 1) 0).toInt)]).bind fun r2=>
  (C yS [.list an data,.int .i64 k',.int .i64 ((V.nth (r2.drop 1) 0).toInt)]).bind fun r3=>
  kr ((V.nth r1 0).toInt,(V.nth r2 0).toInt,(V.nth r3 0).toInt,(V.nth (r3.drop 1) 0).toInt)
 else
  kr (i,j,k',gv)
noncomputable def AW (C:ae) (data:List V) (l i j k':Int) (t34:Bool) (gv:Int) {β:Type} (kr:(Int × Int)→Option β):Option β:=
 bif t34 then
  AV C data i j k' (decide ((l:Int)≥50)) gv (un fun (eX:Int)=>un fun (j_5:Int)=>un fun (k_6:Int) (afk:Int)=>
   (C DR [.list an data,.int .i64 eX,.int .i64 j_5,.int .i64 k_6,.int .i64 afk]).bind fun r8=>
   kr ((V.nth r8 0).toInt,(V.nth (r8.drop 1) 0).toInt))
 else
  kr (j,gv)
noncomputable def Ud (C:ae):cq:=fun β n ds k=>
 bif Nat.beq n 591 then mq Jz [[1,0,0,0,0]] (@AV C) ds k else
 bif Nat.beq n 559 then mq JA [[0,0]] (@AW C) ds k else
 none
abbrev Ue (C:ae) (b:cl):Prop:=cm Tryd.prog ar C (Ud C) 173 (cE Tryd.prog (ar.aP 173)) (ar.sin 173).aO.length b
theorem afl (C:ae):Ue C (.cond 36 (ao [1,1,1,1,1,1,0,1,0,0,1,0] rG) (ao [1,1,1,1,1,1,0,1,0,0,1,1] rG)):=
 nu Jz [[1,0,0,0,0]] (@AV C) (by kernel_rfl) (aT (bs:=[]) (by kernel_rfl) au) (aT (bs:=[]) (by kernel_rfl) au) (fun ds=>by kernel_rfl) (fun i β k=>by kernel_rfl) (fun β ds k=>by kernel_rfl)
theorem afm (C:ae):Ue C (.cond 34 (ao [1,1,1,1,1,1,0,1,0] rG) (ao [1,1,1,1,1,1,0,1,1] rG)):=
 nu JA [[0,0]] (@AW C) (by kernel_rfl) (aT (bs:=[.cond 36 (ao [1,1,1,1,1,1,0,1,0,0,1,0] rG) (ao [1,1,1,1,1,1,0,1,0,0,1,1] rG)]) (by kernel_rfl) (bm (afl C) au)) (aT (bs:=[]) (by kernel_rfl) au) (fun ds=>by kernel_rfl) (fun i β k=>by kernel_rfl) (fun β ds k=>by kernel_rfl)
noncomputable def KR (C:ae) (data:List V) (a b':Int):Option (List V):=
 AW C data (IntKind.wrap .i64 (b'-a)) (IntKind.wrap .i64 (a+(IntKind.wrap .i64 (1*(IntKind.wrap .i64 (Int.tdiv (IntKind.wrap .i64 (b'-a)) 4)))))) (IntKind.wrap .i64 (a+(IntKind.wrap .i64 (2*(IntKind.wrap .i64 (Int.tdiv (IntKind.wrap .i64 (b'-a)) 4)))))) (IntKind.wrap .i64 (a+(IntKind.wrap .i64 (3*(IntKind.wrap .i64 (Int.tdiv (IntKind.wrap .i64 (b'-a)) 4)))))) (decide (((IntKind.wrap .i64 (b'-a)):Int)≥8)) 0 (un fun (KS:Int) (Uf:Int)=>
  bif (Uf:Int)==0 then
   some [.int .i64 KS,.int .i64 1]
  else
   bif (Uf:Int)==12 then
   some [.int .i64 KS,.int .i64 2]
   else
   some [.int .i64 KS,.int .i64 0])
theorem Ug {data:List V} {a b':Int} {r:Option (List V)} (h:KR CC data a b'=r):CC DQ [.list an data,.int .i64 a,.int .i64 b']=r:=
 bj (key:=173) (L:=Ud CC) (bs:=[.cond 34 (ao [1,1,1,1,1,1,0,1,0] rG) (ao [1,1,1,1,1,1,0,1,1] rG)]) (by kernel_rfl) (bm (afm CC) au) (Eq.trans (by kernel_rfl) h)
end Go.AM
set_option maxRecDepth 100000
namespace Go.AM
open Go.Proofs
noncomputable def Uh (C:ae) (data:List V) (a b' c gv:Int):Option (List V):=
 (C yT [.list an data,.int .i64 a,.int .i64 b',.int .i64 gv]).bind fun r1=>
 (C yT [.list an data,.int .i64 ((V.nth (r1.drop 1) 0).toInt),.int .i64 c,.int .i64 ((V.nth (r1.drop 2) 0).toInt)]).bind fun r2=>
 (C yT [.list an data,.int .i64 ((V.nth r1 0).toInt),.int .i64 ((V.nth r2 0).toInt),.int .i64 ((V.nth (r2.drop 2) 0).toInt)]).bind fun r3=>
 some [.int .i64 ((V.nth (r3.drop 1) 0).toInt),.int .i64 ((V.nth (r3.drop 2) 0).toInt)]
theorem afn {data:List V} {a b' c gv:Int} {r:Option (List V)} (h:Uh CC data a b' c gv=r):CC DR [.list an data,.int .i64 a,.int .i64 b',.int .i64 c,.int .i64 gv]=r:=
 bj (key:=175) (L:=cP) (bs:=[]) (by kernel_rfl) au (Eq.trans (by kernel_rfl) h)
end Go.AM
set_option maxRecDepth 100000
namespace Go.AM
open Go.Proofs
noncomputable def KT (C:ae) (data:List V) (a b' gv:Int):Option (List V):=
 (idx data b').bind fun x1=>
 (idx data a).bind fun x2=>
 (C aW [.int .i64 ((x1.cell 0).toInt),.int .i64 ((x1.cell 1).toInt),.int .i64 ((x1.cell 2).toInt),.int .i64 ((x2.cell 0).toInt),.int .i64 ((x2.cell 1).toInt),.int .i64 ((x2.cell 2).toInt)]).bind fun r3=>
 bif decide ((((V.nth r3 0).toInt):Int)<0) then
  some [.int .i64 b',.int .i64 a,.int .i64 (IntKind.wrap .i64 (gv+1))]
 else
  some [.int .i64 a,.int .i64 b',.int .i64 gv]
theorem Ui {data:List V} {a b' gv:Int} {r:Option (List V)} (h:KT CC data a b' gv=r):CC yT [.list an data,.int .i64 a,.int .i64 b',.int .i64 gv]=r:=
 bj (key:=176) (L:=cP) (bs:=[]) (by kernel_rfl) au (Eq.trans (by kernel_rfl) h)
end Go.AM
