/-
  Functions of the program, lifted to plain data.
-/
import Derived.Test.YtnbcjledacomdaaGreatDoorP6
set_option linter.unusedVariables false
set_option linter.unusedSimpArgs false
set_option maxRecDepth 100000
namespace Go.AM
open Go.Proofs
noncomputable def GS (C:ab) (p t46 t47:Int) (t52:LV) (t53 bf bh fv fw aH aD aJ aE:Int) (y5 bE br bt bH:LV) (t54:Int) (rq:LV) {β:Type} (kn:(Int × LV)→Option β) (kr:(Int × Bool × LV)→Option β):Option β:=
 bif decide ((t54:Int)<t53) then
  (idx t52 t54).bind fun x4=>
  ar rq p fun x5=>
  bif decide (0≤x4.toInt) then
  ar rq p fun x6=>
  kn (IntKind.wrap .i64 (t54+1),aS rq p (.int .u64 (IntKind.wrap .u64 ((BitVec.ofInt (IntKind.bits .u64) x5.toInt|||BitVec.ofInt (IntKind.bits .u64) (IntKind.wrap .u64 (1*2^(min x4.toInt.toNat (IntKind.bits .u64))))).toNat))))
  else none
 else
  kr (t54,decide ((t54:Int)<t53),rq)
noncomputable def UF (C:ab) (p t46 t47:Int) (t52:LV) (t53 bf bh fv fw aH aD aJ aE:Int) (y5 bE br bt bH:LV):=un fun t54 rq=>GS C p t46 t47 t52 t53 bf bh fv fw aH aD aJ aE y5 bE br bt bH t54 rq (fun y=>some (Sum.inl y)) (fun r=>some (Sum.inr r))
noncomputable def GU (C:ab) (t46 bf bh fv fw aH aD aJ aE:Int) (y5 bE br bt bH:LV) (t47:Int) (rq:LV) {β:Type} (kn:(Int × LV)→Option β) (kr:(Int × Bool × LV)→Option β):Option β:=
 bif decide ((t47:Int)<t46) then
  ar y5 t47 fun x3=>
  (Loop (UF C t47 t46 t47 x3.toList (x3.toList.length:Int) bf bh fv fw aH aD aJ aE y5 bE br bt bH) (0,rq)).bind (un fun (jE:Int)=>un fun (mJ:Bool) (arp:LV)=>
   kn (IntKind.wrap .i64 (t47+1),arp))
 else
  kr (t47,decide ((t47:Int)<t46),rq)
noncomputable def UG (C:ab) (t46 bf bh fv fw aH aD aJ aE:Int) (y5 bE br bt bH:LV):=un fun t47 rq=>GU C t46 bf bh fv fw aH aD aJ aE y5 bE br bt bH t47 rq (fun y=>some (Sum.inl y)) (fun r=>some (Sum.inr r))
noncomputable def GV (C:ab) (p t70 t71 t78 t79:Int) (t87:LV) (t88 bf bh fv fw:Int) (rr y6 bE br bt bH:LV) (t89 aH aD aJ aE:Int) (cH:LV) {β:Type} (kn:(Int × Int × Int × Int × Int × LV)→Option β) (kr:(Int × Bool × Int × Int × Int × Int × LV)→Option β):Option β:=
 bif decide ((t89:Int)<t88) then
  (idx t87 t89).bind fun vM=>
  (C vp [V.int .i64 p,V.int .i64 t89,V.int .i64 vM.toInt,V.int .i64 aH,V.int .i64 aD,.int .u64 aJ,.int .u64 aE,.list aL cH]).bind fun fV=>
  kn (IntKind.wrap .i64 (t89+1),(V.nth fV 0).toInt,(V.nth (fV.drop 1) 0).toInt,(V.nth ((fV.drop 1).drop 1) 0).toInt,(V.nth (((fV.drop 1).drop 1).drop 1) 0).toInt,(V.nth (fV.drop 4) 0).toList)
 else
  kr (t89,decide ((t89:Int)<t88),aH,aD,aJ,aE,cH)
noncomputable def UH (C:ab) (p t70 t71 t78 t79:Int) (t87:LV) (t88 bf bh fv fw:Int) (rr y6 bE br bt bH:LV):=un fun t89=>un fun aH=>un fun aD=>un fun aJ=>un fun aE cH=>GV C p t70 t71 t78 t79 t87 t88 bf bh fv fw rr y6 bE br bt bH t89 aH aD aJ aE cH (fun y=>some (Sum.inl y)) (fun r=>some (Sum.inr r))
noncomputable def GW (C:ab) (p t70 t71 t78 bf bh fv fw:Int) (rr y6 bE br bt bH:LV) (t79 aH aD aJ aE:Int) (cH:LV) {β:Type} (kn:(Int × Int × Int × Int × Int × LV)→Option β) (kr:(Int × Bool × Int × Int × Int × Int × LV)→Option β):Option β:=
 bif decide ((t79:Int)<t78) then
  ar y6 t79 fun oP=>
  bif (decide (0≤oP.toInt))&&(decide (oP.toInt<(bH.length:Int))) then
  (bH[(oP.toInt:Int).toNat]?).bind fun qX=>
  (Loop (UH C p t70 t71 t78 t79 qX.toList (qX.toList.length:Int) bf bh fv fw rr y6 bE br bt bH) (0,aH,aD,aJ,aE,cH)).bind (un fun (acH:Int)=>un fun (anI:Bool)=>un fun (arq:Int)=>un fun (ars:Int)=>un fun (art:Int)=>un fun (aru:Int) (arv:LV)=>
   kn (IntKind.wrap .i64 (t79+1),arq,ars,art,aru,arv))
  else none
 else
  kr (t79,decide ((t79:Int)<t78),aH,aD,aJ,aE,cH)
noncomputable def UI (C:ab) (p t70 t71 t78 bf bh fv fw:Int) (rr y6 bE br bt bH:LV):=un fun t79=>un fun aH=>un fun aD=>un fun aJ=>un fun aE cH=>GW C p t70 t71 t78 bf bh fv fw rr y6 bE br bt bH t79 aH aD aJ aE cH (fun y=>some (Sum.inl y)) (fun r=>some (Sum.inr r))
noncomputable def GX (C:ab) (t70 bf bh fv fw:Int) (rr bI bE br bt:LV) (t71 aH aD aJ aE:Int) (bH:LV) {β:Type} (kn:(Int × Int × Int × Int × Int × LV)→Option β) (kr:(Int × Bool × Int × Int × Int × Int × LV)→Option β):Option β:=
 bif decide ((t71:Int)<t70) then
  ar rr t71 fun sy=>
  (C DP [.int .u64 sy.toInt]).bind fun fe=>
  (Loop (UI C t71 t70 t71 (((V.nth fe 0).toList).length:Int) bf bh fv fw rr ((V.nth fe 0).toList) bI bE br bt) (0,aH,aD,aJ,aE,bH)).bind (un fun (abY:Int)=>un fun (auT:Bool)=>un fun (arw:Int)=>un fun (arx:Int)=>un fun (ary:Int)=>un fun (arz:Int) (AR:LV)=>
   kn (IntKind.wrap .i64 (t71+1),arw,arx,ary,arz,AR))
 else
  kr (t71,decide ((t71:Int)<t70),aH,aD,aJ,aE,bH)
noncomputable def UJ (C:ab) (t70 bf bh fv fw:Int) (rr bI bE br bt:LV):=un fun t71=>un fun aH=>un fun aD=>un fun aJ=>un fun aE bH=>GX C t70 bf bh fv fw rr bI bE br bt t71 aH aD aJ aE bH (fun y=>some (Sum.inl y)) (fun r=>some (Sum.inr r))
noncomputable def GY (C:ab):bR:=bd 193 PC [false,false,false,false,false,true,false,false,false,false,false,false,false,false,true,false,false,false,false,false] [[1,2,3,4,5,0,0,7,8,9,10,11,12,13,14,0,16,17,18,19,20]] (@GS C) (bd 145 PD [false,true,false,false,false,false,false,false,false,false,true,false,false,false,false,false] [[1,0,0,3,4,5,6,7,8,9,10,0,12,13,14,15,16]] (@GU C) (bd 385 PE [false,false,false,false,false,false,false,true,false,false,false,false,true,true,true,true,false,false,false,false,false,false,true] [[1,2,3,4,5,6,7,0,0,9,10,11,12,0,0,0,0,17,18,19,20,21,22,0]] (@GV C) (bd 337 PF [false,false,false,false,true,false,false,false,false,true,true,true,true,false,false,false,false,false,false,true] [[1,2,3,4,0,0,6,7,8,9,0,0,0,0,14,15,16,17,18,19,0]] (@GW C) (bd 289 PH [false,true,false,false,false,false,true,true,true,true,false,false,false,false,false,true] [[1,0,0,3,4,5,6,0,0,0,0,11,12,13,14,15,0]] (@GX C) bw))))
theorem arA (C:ab):aQ C (GY C) 15 (Lp [1,1,1,1,1,1,0,1,0,0,1,1,0,0,1,1,0,0] 15):=bc PC [false,false,false,false,false,true,false,false,false,false,false,false,false,false,true,false,false,false,false,false] [[1,2,3,4,5,0,0,7,8,9,10,11,12,13,14,0,16,17,18,19,20]] (@GS C) (aA ak)
theorem arB (C:ab):aQ C (GY C) 15 (Lp [1,1,1,1,1,1,0,1,0,0] 15):=bc PD [false,true,false,false,false,false,false,false,false,false,true,false,false,false,false,false] [[1,0,0,3,4,5,6,7,8,9,10,0,12,13,14,15,16]] (@GU C) (aA (aO (arA C) ak))
theorem arC (C:ab):aQ C (GY C) 15 (Lp [1,1,1,1,1,1,1,0,1,0,0,1,1,0,0,1,1,0,0,1,1,0,0,1,1,0,0] 15):=bc PE [false,false,false,false,false,false,false,true,false,false,false,false,true,true,true,true,false,false,false,false,false,false,true] [[1,2,3,4,5,6,7,0,0,9,10,11,12,0,0,0,0,17,18,19,20,21,22,0]] (@GV C) (aA ak)
theorem arD (C:ab):aQ C (GY C) 15 (Lp [1,1,1,1,1,1,1,0,1,0,0,1,1,0,0,1,1,0,0] 15):=bc PF [false,false,false,false,true,false,false,false,false,true,true,true,true,false,false,false,false,false,false,true] [[1,2,3,4,0,0,6,7,8,9,0,0,0,0,14,15,16,17,18,19,0]] (@GW C) (aA (aO (arC C) ak))
theorem arE (C:ab):aQ C (GY C) 15 (Lp [1,1,1,1,1,1,1,0,1,0,0] 15):=bc PH [false,true,false,false,false,false,true,true,true,true,false,false,false,false,false,true] [[1,0,0,3,4,5,6,0,0,0,0,11,12,13,14,15,0]] (@GX C) (aA (aO (arD C) ak))
noncomputable def UK (C:ab) (aB aC:Int) (av aF:LV):Option LV:=
 (C qL [V.int .i64 aB,V.int .i64 aC,.list au av,.list ax aF]).bind fun r1=>
 bif (((V.nth (r1.drop 2) 0).toInt):Int) != 0 then
  some [V.int .i64 0,V.int .i64 0,V.int .i64 ((V.nth (r1.drop 2) 0).toInt),.list au ([]:LV),.list ax ([]:LV)]
 else
  (C xE [V.int .i64 aB,V.int .i64 (((V.nth (r1.drop 3) 0).toList).length:Int)]).bind fun r2=>
  bif (V.nth r2 0).toBool then
  some [V.int .i64 0,V.int .i64 0,V.int .i64 3,.list au ([]:LV),.list ax ([]:LV)]
  else
  bif (decide (0≤(((V.nth (r1.drop 3) 0).toList).length:Int)))&&((decide ((((V.nth (r1.drop 3) 0).toList).length:Int)≤(((V.nth (r1.drop 3) 0).toList).length:Int)))&&(Nat.ble ((((((V.nth (r1.drop 3) 0).toList).length:Int):Int).toNat)*8) bM)) then
   (Loop (UG C (((V.nth ((r1.drop 3).drop 1) 0).toList).length:Int) 0 0 ((V.nth r1 0).toInt) ((V.nth (r1.drop 1) 0).toInt) ((V.nth (r2.drop 1) 0).toInt) ((V.nth ((r2.drop 1).drop 1) 0).toInt) ((V.nth (((r2.drop 1).drop 1).drop 1) 0).toInt) ((V.nth ((((r2.drop 1).drop 1).drop 1).drop 1) 0).toInt) ((V.nth ((r1.drop 3).drop 1) 0).toList) ([]:LV) ([]:LV) ((V.nth (r1.drop 3) 0).toList) ((V.nth ((r2.drop 1).drop 4) 0).toList)) (0,List.replicate (((((V.nth (r1.drop 3) 0).toList).length:Int):Int).toNat) (V.int .u64 0))).bind (un fun (AS:Int)=>un fun (uj:Bool) (arF:LV)=>
    (C Jy [.list cp arF]).bind fun pN=>
    (Loop (UJ C (((V.nth pN 0).toList).length:Int) 0 0 ((V.nth r1 0).toInt) ((V.nth (r1.drop 1) 0).toInt) ((V.nth pN 0).toList) ([]:LV) ([]:LV) ((V.nth (r1.drop 3) 0).toList) ((V.nth ((r1.drop 3).drop 1) 0).toList)) (0,(V.nth (r2.drop 1) 0).toInt,(V.nth ((r2.drop 1).drop 1) 0).toInt,(V.nth (((r2.drop 1).drop 1).drop 1) 0).toInt,(V.nth ((((r2.drop 1).drop 1).drop 1).drop 1) 0).toInt,(V.nth ((r2.drop 1).drop 4) 0).toList)).bind (un fun (auU:Int)=>un fun (auV:Bool)=>un fun (arG:Int)=>un fun (arH:Int)=>un fun (arI:Int)=>un fun (arJ:Int) (arK:LV)=>
     (C xF [V.int .i64 ((V.nth (r1.drop 1) 0).toInt),V.int .i64 arG,V.int .i64 arH,.int .u64 arI,.int .u64 arJ,.list aL arK]).bind fun GZ=>
     (C DO [V.int .i64 ((V.nth r1 0).toInt),V.int .i64 ((V.nth (r1.drop 1) 0).toInt),.list au ((V.nth (r1.drop 3) 0).toList),.list ax ((V.nth ((r1.drop 3).drop 1) 0).toList)]).bind fun r42=>
     (C xG [.list au ((V.nth r42 0).toList),V.int .i64 0,V.int .i64 ((V.nth GZ 0).toInt),V.int .i64 ((V.nth (GZ.drop 1) 0).toInt),.int .u64 ((V.nth ((GZ.drop 1).drop 1) 0).toInt),.int .u64 ((V.nth (((GZ.drop 1).drop 1).drop 1) 0).toInt),.list aL ((V.nth (GZ.drop 4) 0).toList)]).bind fun yR=>
     (C tI [V.int .i64 ((V.nth yR 0).toInt),V.int .i64 ((V.nth (yR.drop 1) 0).toInt),.int .u64 ((V.nth ((yR.drop 1).drop 1) 0).toInt),.int .u64 ((V.nth (((yR.drop 1).drop 1).drop 1) 0).toInt),.list aL ((V.nth (yR.drop 4) 0).toList)]).bind fun vZ=>
     some [V.int .i64 ((V.nth vZ 0).toInt),V.int .i64 ((V.nth (vZ.drop 1) 0).toInt),V.int .i64 ((V.nth (vZ.drop 2) 0).toInt),.list au ((V.nth ((vZ.drop 3).drop 5) 0).toList),.list ax ((V.nth (((vZ.drop 3).drop 5).drop 1) 0).toList)]))
  else none
theorem aeE {aB aC:Int} {av aF:LV} {r:Option LV} (h:UK CC aB aC av aF=r):CC As [V.int .i64 aB,V.int .i64 aC,.list au av,.list ax aF]=r:=bu (aO (arB CC) (aO (arE CC) ak)) h
def p9 (m:Da) (p:Nat):Nat→Nat
 | 0=>0
 | x+1=>p9 m p x|||2^m.nx p x
def lu (m:Da):List Nat:=tab m.n fun p=>p9 m p m.L
theorem aeF {m:Da} {p j:Nat}: ∀{x:Nat},(p9 m p x).testBit j=true↔∃y,y<x∧j=m.nx p y
 | 0=>by simp[p9]
 | x+1=>by
  unfold p9
  rw[o0,qc,aeF,aqR]
  constructor
  ·rintro (⟨y,h1,h2⟩|h)
   ·exact ⟨y,by omega,h2⟩
   ·exact ⟨x,by omega,h⟩
  ·rintro ⟨y,h1,h2⟩
   by_cases h:y=x
   ·exact .inr (h▸h2)
   ·exact .inl ⟨y,by omega,h2⟩
def qa (m:Da) (p q:Nat):List Ed:=tab m.L fun x=>dV p x (m.nx q x)
def gJ (m:Da) (p:Nat):List Nat:=mem ((rp (lu m)).getD p 0)
def ru (m:Da) (p:Nat):List Ed:=(gJ m p).flatMap (qa m p)
def wc (m:Da):List Ed:=fm m.n (ru m)
section
variable {m:Da} (hm:m.Ok)
include hm
theorem UL {p:Nat} (hp:p<m.n): ∀x,x≤m.L→p9 m p x<2^m.n
 | 0,_=>sP _
 | x+1,hx=>uH (UL hp x (by omega)) (gx (by omega) (hm.ej hp (by omega)))
variable (hs:m.n≤64)
include hs
theorem Mq:jG (lu m) where
 len:=by unfold lu;rw[cL];exact hs
 lt:=fun a ha=>by
  unfold lu at*
  obtain ⟨p,hp,rfl⟩:=oJ.1 ha
  rw[cL]
  exact UL hm hp _ (aw _)
theorem arL:(rp (lu m)).length=m.n:=by
 have:=(UE (Mq hm hs)).len
 rw[this]
 unfold lu
 rw[cL]
omit hm hs in
theorem aeG {p j:Nat} (hp:p<m.n):Bt (lu m) p j↔∃y,y<m.L∧j=m.nx p y:=by
 unfold Bt lu
 rw[ua hp,aeF]
theorem G0 {p q:Nat} (hp:p<m.n):q∈gJ m p↔∃y,WL m.L y∧q=m.run p y:=by
 have hc:=UE (Mq hm hs)
 have hl:(lu m).length=m.n:=by unfold lu;rw[cL]
 unfold gJ
 rw[mem_iff (hc.ok.get p)]
 constructor
 ·intro h
  refine hc.sound (fun i=> ∃y,WL m.L y∧i=m.run p y) (fun i j hi hT hb=> ?_) p q (by omega) ⟨[],WL.nil,rfl⟩ h
  obtain ⟨y,hy,rfl⟩:=hT
  obtain ⟨x,hx,rfl⟩:=(aeG (by omega)).1 hb
  exact ⟨y++[x],WL.app.2 ⟨hy,WL.nil.cons hx⟩,by rw[Da.abk];rfl⟩
 ·rintro ⟨y,hy,rfl⟩
  have key: ∀(y:List Nat) (p:Nat),p<m.n→WL m.L y→Bt (rp (lu m)) p (m.run p y):=by
   intro y
   induction y with
   | nil=>intro p hp _;exact hc.refl p (by omega)
   | cons x y ih=>
    intro p hp hy
    have hn:=hm.ej hp hy.head
    exact hc.trans p (m.nx p x) _ (by omega) (by omega) (by omega) (hc.base _ _ (by omega) ((aeG hp).2 ⟨x,hy.head,rfl⟩)) (ih _ hn hy.tail)
  exact key y p hp hy
theorem arM {e:Ed}:e∈wc m↔∃p y x,p<m.n∧WL m.L y∧x<m.L∧e=dV p x (m.nx (m.run p y) x):=by
 unfold wc
 rw[Bz]
 constructor
 ·rintro ⟨p,hp,he⟩
  obtain ⟨q,hq,he⟩:=uF.1 he
  obtain ⟨x,hx,rfl⟩:=oJ.1 he
  obtain ⟨y,hy,rfl⟩:=(G0 hm hs hp).1 hq
  exact ⟨p,y,x,hp,hy,hx,rfl⟩
 ·rintro ⟨p,y,x,hp,hy,hx,rfl⟩
  exact ⟨p,hp,uF.2 ⟨_,(G0 hm hs hp).2 ⟨y,hy,rfl⟩,oJ.2 ⟨x,hx,rfl⟩⟩⟩
omit hs in
theorem G1 {p:Nat}: ∀l:List Nat,(l.flatMap (qa m p)).length≤l.length*6
 | []=>by simp
 | q::l=>by
  have ih:=G1 (p:=p) l
  have h6:=hm.l6
  rw[uG,cX,List.length_cons]
  have:(qa m p q).length=m.L:=cL
  omega
omit hs in
theorem aeH {p:Nat}:(ru m p).length≤384:=by
 have h1:=G1 hm (p:=p) (gJ m p)
 have h2:(gJ m p).length≤64:=Kt _
 unfold ru
 omega
theorem UM:rh m.L m.n (2^m.st) (cS 0 m.fp 0 m.n) (wc m) where
 l1:=hm.l1
 l6:=hm.l6
 lX:=hs
 st:=gx (by omega) hm.s
 fin:=p5 (sP _) (by omega)
 E:=fun e he=>by
  obtain ⟨p,y,x,hp,hy,hx,rfl⟩:=(arM hm hs).1 he
  exact Mh hp hx (hm.ej (hm.AG y hp hy) hx)
 len:=by
  have h1:(wc m).length≤m.n*384:=yY fun p _=>aeH hm
  omega
noncomputable def rv (m:Da):Nf:=cR m.L m.n (2^m.st) (cS 0 m.fp 0 m.n) (wc m)
end
section
variable {a:Da} (h:a.Ok)
include h
omit h in
theorem arN {m:Da} (hm:m.Ok) (hL:m.L=a.L) (It:CC qL (cY a)=some (dB m 0)) (hs:m.n≤64):CC As (cY a)=some (dB (dC (rv m) a.L m.n) (fy (rv m) a.L m.n)):=by
 have h6:=hm.l6
 have bP:=hm.s
 have hr:=L4 (UM hm hs)
 have auW:(2:Nat)^m.n≤2^64:=o5 (by omega) hs
 refine aeE ?_
 unfold UK
 refine bs It (bF rfl ?_)
 simp only[dB,V.bZ,jn,hZ,V.toInt_int,V.jB,Da.mb]
 refine bs (Md hs) (bF rfl ?_)
 refine bT (mN (by omega) (by omega)) ?_
 rw[Int.toNat_natCast,oI,show m.cd.length=m.n from cL]
 refine bs (hO m.n (fun i=>((i:Int),tab m.n fun j=>uV (if j<i then p9 m j m.L else 0))) ((m.n:Int),false,U1 (lu m)) rfl (fun p hp=> ?_) ?_) ?_
 ·simp only[UG,GU,un,ar]
  refine bT (cB hp) ?_
  refine (dt (i:=p) hp).trans ?_
  rw[show (eX m.L (m.nx p)).toList=tab m.L fun x=>nV (m.nx p x) from rfl,cL]
  refine bs (hO m.L (fun i=>((i:Int),tab m.n fun j=>uV (if j=p then p9 m p i else if j<p then p9 m j m.L else 0))) ((m.L:Int),false,tab m.n fun j=>uV (if j<p+1 then p9 m j m.L else 0)) ?_ (fun x hx=> ?_) ?_) ?_
  ·refine congrArg (fun z=>((0:Int),z)) (dZ fun j hj=>congrArg uV ?_)
   by_cases c:j=p
   ·rw[af c,bK];rfl
   ·rw[ag c]
  ·have hl:=UL hm hp x (by omega)
   have hq:=hm.ej hp hx
   simp only[UF,GS,un,ar,aS]
   refine bT (cB hx) ?_
   refine bs (j9 hx) ?_
   refine (dt (i:=p) hp).trans ?_
   rw[show (nV (m.nx p x)).toInt=((m.nx p x:Nat):Int) from rfl]
   refine bT (b7 (by omega)) ?_
   refine (dt (i:=p) hp).trans ?_
   rw[af rfl,show (uV (p9 m p x)).toInt=((p9 m p x:Nat):Int) from rfl,Int.toNat_natCast,Int.toNat_natCast,tU (by omega),u64_or (by omega) (gx (by omega) (by omega)),ca (by omega),nK]
   refine congrArg (fun z=>some (Sum.inl (((x+1:Nat):Int),z))) (dZ fun j hj=> ?_)
   by_cases c:j=p
   ·rw[af c,af c];rfl
   ·rw[ag c,ag c,ag c]
  ·simp only[UF,GS,un,ar,aS]
   refine bF (bm (aw _)) ?_
   rw[bm (aw _)]
   refine congrArg (fun z=>some (Sum.inr ((m.L:Int),false,z))) (dZ fun j hj=>congrArg uV ?_)
   by_cases c:j=p
   ·rw[af c,aZ,c]
   ·rw[ag c]
    by_cases c2:j<p
    ·rw[af c2,aZ]
    ·rw[ag c2,bK]
  ·simp only[un]
   rw[ca (by omega)]
 ·simp only[UG,GU,un,ar]
  refine bF (bm (aw _)) ?_
  rw[bm (aw _)]
  refine congrArg (fun z=>some (Sum.inr ((m.n:Int),false,z))) ?_
  unfold U1 lu
  rw[abF]
  exact dZ fun j hj=>by rw[af hj];rfl
 ·simp only[un]
  have hc:=UE (Mq hm hs)
  have fl:=arL hm hs
  refine bs (aro (Mq hm hs)) ?_
  rw[show (V.nth [V.list cp (U1 (rp (lu m)))] 0).toList=U1 (rp (lu m)) from rfl,gG,fl]
  have l0: ∀n,(fm n (ru m)).length≤n*384:=fun n=>yY fun p _=>aeH hm
  refine bs (hO m.n (fun i=>((i:Int),(a.L:Int),(m.n:Int),((0:Nat):Int),((0:Nat):Int),(fm i (ru m)).map Ed.enc)) ((m.n:Int),false,(a.L:Int),(m.n:Int),((0:Nat):Int),((0:Nat):Int),(wc m).map Ed.enc) rfl (fun p hp=> ?_) ?_) ?_
  ·have l1:=l0 p
   have l2:(gJ m p).length≤64:=Kt _
   simp only[UJ,GX,un,ar]
   refine bT (cB hp) ?_
   refine (mM (i:=p) (v:=uV ((rp (lu m)).getD p 0)) (xU (by rw[o4,bU (by omega)];rfl))).trans ?_
   refine bs (aaM (hc.ok.get p)) ?_
   rw[show (V.nth [V.list bJ (kK (mem ((rp (lu m)).getD p 0)))] 0).toList=kK (gJ m p) from rfl,show (kK (gJ m p)).length=(gJ m p).length from bX _]
   refine bs (hO (gJ m p).length (fun i=>((i:Int),(a.L:Int),(m.n:Int),((0:Nat):Int),((0:Nat):Int),(fm p (ru m)++((gJ m p).take i).flatMap (qa m p)).map Ed.enc)) (((gJ m p).length:Int),false,(a.L:Int),(m.n:Int),((0:Nat):Int),((0:Nat):Int),(fm p (ru m)++ru m p).map Ed.enc) (by rw[List.take_zero,List.flatMap_nil,eY];rfl) (fun t ht=> ?_) ?_) ?_
   ·have l3:=G1 hm (p:=p) ((gJ m p).take t)
    have l4:((gJ m p).take t).length≤t:=zk _ _
    obtain ⟨y,hy,hq⟩:=(G0 hm hs hp).1 (ep ht)
    have hqn:(gJ m p)[t]<m.n:=by rw[hq];exact hm.AG y hp hy
    simp only[UI,GW,un,ar]
    refine bT (cB ht) ?_
    refine (mM (i:=t) (v:=nV (gJ m p)[t]) (by unfold kK;rw[eZ,bU ht];rfl)).trans ?_
    refine (dt (i:=(gJ m p)[t]) hqn).trans ?_
    rw[show (eX m.L (m.nx (gJ m p)[t])).toList=tab m.L fun x=>nV (m.nx (gJ m p)[t] x) from rfl,cL]
    refine bs (hO m.L (fun i=>((i:Int),(a.L:Int),(m.n:Int),((0:Nat):Int),((0:Nat):Int),((fm p (ru m)++((gJ m p).take t).flatMap (qa m p))++tab i fun x=>dV p x (m.nx (gJ m p)[t] x)).map Ed.enc)) ((m.L:Int),false,(a.L:Int),(m.n:Int),((0:Nat):Int),((0:Nat):Int),((fm p (ru m)++((gJ m p).take t).flatMap (qa m p))++qa m p (gJ m p)[t]).map Ed.enc) (by rw[ub,eY];rfl) (fun x hx=> ?_) ?_) ?_
    ·simp only[UH,GV,un]
     refine bT (cB hx) ?_
     refine bs (j9 hx) ?_
     rw[show (nV (m.nx (gJ m p)[t] x)).toInt=((m.nx (gJ m p)[t] x:Nat):Int) from rfl]
     refine bs (GB (by rw[cX,cX,cL];omega)) ?_
     rw[ca (by omega),iN,←db]
     rfl
    ·simp only[UH,GV,un]
     refine bF (bm (aw _)) ?_
     rw[bm (aw _)]
     rfl
    ·simp only[un]
     rw[ca (by omega),zi ht,List.flatMap_append,←db]
     simp
   ·simp only[UI,GW,un,ar]
    refine bF (bm (aw _)) ?_
    rw[bm (aw _),oa]
    rfl
   ·simp only[un]
    rw[ca (by omega),sF]
  ·simp only[UJ,GX,un,ar]
   refine bF (bm (aw _)) ?_
   rw[bm (aw _)]
   rfl
  ·simp only[un]
   refine bs (Mc (q:=m.st) (by omega) (by omega)) ?_
   refine bs (ad1 hm) ?_
   refine bs (Me (n:=m.n) (f:=m.fp) (off:=0) (by omega) (by omega)) ?_
   rw[Nat.zero_or]
   rw[hL] at hr
   refine bs hr ?_
   show _=some (dB (dC (cR m.L _ _ _ _) a.L _) (fy (cR m.L _ _ _ _) a.L _))
   rw[hL]
   rfl
theorem arO (hs:(minD a).n≤64):CC As (cY a)=some (dB (dC (rv (minD a)) a.L (minD a).n) (fy (rv (minD a)) a.L (minD a).n)):=arN (mX h) (hY h) (BB h) hs
end
theorem arP {d:Df} (h:d.Ok) (hv:d.val≠0):CC As (lx d [])=some (dB zD d.val):=by
 refine aeE ?_
 unfold UK
 refine bs (BC h hv) (bT (by simpa[dB] using hv) ?_)
 rfl
noncomputable def cg:SE:=⟨aL,cm,fun x1=>[V.int .i64 ((x1.cell 0).toInt),V.int .i64 ((x1.cell 1).toInt),V.int .i64 ((x1.cell 2).toInt)],fun k=>[JN,JZ,JO,JR,JU,YV,JS,JP,J3,J2,J4,JQ,JG,J5].getD k 0⟩
noncomputable def aeI (C:ab):bR:=bd 65 Q0 [false,false,false,true,true] [[1,2,3,0,0,0]] (@vQ cg C) (bd 17 Q1 [false,false,true,true] [[1,2,0,0,0]] (@yA cg C) bw)
theorem arQ (C:ab):aQ C (aeI C) 82 (Lp [1,0,0,1,0,0,1,0,0] 82):=bc Q0 [false,false,false,true,true] [[1,2,3,0,0,0]] (@vQ cg C) (aA ak)
theorem arR (C:ab):aQ C (aeI C) 82 (Lp [1,0,0] 82):=bc Q1 [false,false,true,true] [[1,2,0,0,0]] (@yA cg C) (aA (aO (arQ C) ak))
theorem arS {a b':Int} {ai:LV} {r:Option LV} (h:Lv cg CC a b' ai=r):CC JN [V.int .i64 a,V.int .i64 b',.list aL ai]=r:=bu (aO (arR CC) ak) h
noncomputable def aeJ (C:ab):bR:=fS 655 Rs [[1,2,3,0,6]] (@uo cg C) (bd 17 Rt [false,false,true,true] [[1,2,0,0,0,0],[1,2,0,0,0,0]] (@sC cg C) bw)
theorem arT (C:ab):aQ C (aeJ C) 99 (Cd 40 [1,0,0,0,1,1,0,1,0] [1,0,0,0,1,1,0,1,1] 99):=fR Rs [[1,2,3,0,6]] (@uo cg C) (aA ak) (aA ak)
theorem arU (C:ab):aQ C (aeJ C) 99 (Lp [1,0,0] 99):=bc Rt [false,false,true,true] [[1,2,0,0,0,0],[1,2,0,0,0,0]] (@sC cg C) (aA (aO (arT C) ak))
theorem arV {lo hi first:Int} {ai:LV} {r:Option LV} (h:Lw cg CC lo hi first ai=r):CC JZ [V.int .i64 lo,V.int .i64 hi,V.int .i64 first,.list aL ai]=r:=bu (aO (arU CC) ak) h
noncomputable def aeK (C:ab):bR:=bd 65 Q2 [false,false,false,true,true] [[1,2,3,0,0,0]] (@yC cg C) (bd 129 Q3 [false,false,true,true] [[1,2,0,0,0]] (@yD cg C) bw)
theorem arW (C:ab):aQ C (aeK C) 83 (Lp [1,1,1,0,1,0,0] 83):=bc Q2 [false,false,false,true,true] [[1,2,3,0,0,0]] (@yC cg C) (aA ak)
theorem arX (C:ab):aQ C (aeK C) 83 (Lp [1,1,1,1,1,0,0] 83):=bc Q3 [false,false,true,true] [[1,2,0,0,0]] (@yD cg C) (aA ak)
theorem arY {a b':Int} {ai:LV} {r:Option LV} (h:LA cg CC a b' ai=r):CC JO [V.int .i64 a,V.int .i64 b',.list aL ai]=r:=bu (aO (arW CC) (aO (arX CC) ak)) h
noncomputable def arZ (C:ab):bR:=bd 33 Q8 [true,true,true] [[0,0,0,0]] (@vR cg C) bw
theorem ar0 (C:ab):aQ C (arZ C) 86 (Lp [1,1,0,0] 86):=bc Q8 [true,true,true] [[0,0,0,0]] (@vR cg C) (aA ak)
theorem ar1 {a b':Int} {ai:LV} {r:Option LV} (h:LB cg CC a b' ai=r):CC JR [V.int .i64 a,V.int .i64 b',.list aL ai]=r:=bu (aO (ar0 CC) ak) h
noncomputable def G2 (C:ab):bR:=bd 49 Ri [false,true,false,false] [[1,0,3,0,4]] (@yE cg C) (bd 81 Rj [false,false,true,false] [[1,2,0,0,4]] (@vS cg C) (bd 209 Rk [false,true,false,false] [[1,0,3,0,4]] (@yF cg C) (bd 241 Rl [false,false,true,false] [[1,2,0,0,4]] (@vT cg C) (bd 210 Rm [false,true,true,true] [[1,0,0,0,0]] (@yG cg C) bw))))
theorem ar2 (C:ab):aQ C (G2 C) 89 (Lp [1,1,1,0,0,0] 89):=bc Ri [false,true,false,false] [[1,0,3,0,4]] (@yE cg C) (aA ak)
theorem ar3 (C:ab):aQ C (G2 C) 89 (Lp [1,1,1,1,0,0,0] 89):=bc Rj [false,false,true,false] [[1,2,0,0,4]] (@vS cg C) (aA ak)
theorem ar4 (C:ab):aQ C (G2 C) 89 (Lp [1,1,1,1,1,1,1,1,1,0,0,0,0,0,0,0] 89):=bc Rk [false,true,false,false] [[1,0,3,0,4]] (@yF cg C) (aA ak)
theorem ar5 (C:ab):aQ C (G2 C) 89 (Lp [1,1,1,1,1,1,1,1,1,0,0,0,0,1,0,0,0] 89):=bc Rl [false,false,true,false] [[1,2,0,0,4]] (@vT cg C) (aA ak)
theorem ar6 (C:ab):aQ C (G2 C) 89 (Lp [1,1,1,1,1,1,1,1,1,0,0,0] 89):=bc Rm [false,true,true,true] [[1,0,0,0,0]] (@yG cg C) (aA (aO (ar4 C) (aO (ar5 C) ak)))
theorem ar7 {a b' pivot:Int} {ai:LV} {r:Option LV} (h:LD cg CC a b' pivot ai=r):CC JU [V.int .i64 a,V.int .i64 b',V.int .i64 pivot,.list aL ai]=r:=bu (aO (ar2 CC) (aO (ar3 CC) (aO (ar6 CC) ak))) h
noncomputable def UN (C:ab):bR:=bd 49 RT [false,true,false,false] [[1,0,3,0,4]] (@yI cg C) (bd 81 RU [false,false,true,false] [[1,2,0,0,4]] (@vV cg C) (bd 50 RV [false,true,true,true] [[1,0,0,0,0]] (@yJ cg C) bw))
theorem ar8 (C:ab):aQ C (UN C) 140 (Lp [1,1,1,0,0,0,0,0,0,0] 140):=bc RT [false,true,false,false] [[1,0,3,0,4]] (@yI cg C) (aA ak)
theorem ar9 (C:ab):aQ C (UN C) 140 (Lp [1,1,1,0,0,0,0,1,0,0,0] 140):=bc RU [false,false,true,false] [[1,2,0,0,4]] (@vV cg C) (aA ak)
theorem asa (C:ab):aQ C (UN C) 140 (Lp [1,1,1,0,0,0] 140):=bc RV [false,true,true,true] [[1,0,0,0,0]] (@yJ cg C) (aA (aO (ar8 C) (aO (ar9 C) ak)))
theorem asb {a b' pivot:Int} {ai:LV} {r:Option LV} (h:LG cg CC a b' pivot ai=r):CC YV [V.int .i64 a,V.int .i64 b',V.int .i64 pivot,.list aL ai]=r:=bu (aO (asa CC) ak) h
noncomputable def G3 (C:ab):bR:=bd 81 Q9 [false,false,true,false,false] [[1,2,0,4,0,5]] (@yK cg C) (bd 225 Ra [false,false,false,false,true,true] [[1,2,3,4,0,0]] (@yL cg C) (fS 1055 Rb [[1,2,3,4,0]] (@Bm cg C) (bd 321 Rc [false,false,false,false,true,true] [[1,2,3,4,0,0]] (@yM cg C) (bd 49 Re [false,false,true,true,true] [[0,0],[1,2,0,0,0,0]] (@yN cg C) bw))))
theorem asc (C:ab):aQ C (G3 C) 87 (Lp [1,1,0,1,0,0,1,0,0,0,0,0] 87):=bc Q9 [false,false,true,false,false] [[1,2,0,4,0,5]] (@yK cg C) (aA ak)
theorem asd (C:ab):aQ C (G3 C) 87 (Lp [1,1,0,1,0,0,1,0,0,1,1,1,1,0,1,0,1,0,0] 87):=bc Ra [false,false,false,false,true,true] [[1,2,3,4,0,0]] (@yL cg C) (aA ak)
theorem ase (C:ab):aQ C (G3 C) 87 (Cd 65 [1,1,0,1,0,0,1,0,0,1,1,1,1,0,1,0] [1,1,0,1,0,0,1,0,0,1,1,1,1,0,1,1] 87):=fR Rb [[1,2,3,4,0]] (@Bm cg C) (aA (aO (asd C) ak)) (aA ak)
theorem asf (C:ab):aQ C (G3 C) 87 (Lp [1,1,0,1,0,0,1,0,0,1,1,1,1,1,1,0,1,0,0] 87):=bc Rc [false,false,false,false,true,true] [[1,2,3,4,0,0]] (@yM cg C) (aA ak)
theorem asg (C:ab):aQ C (G3 C) 87 (Lp [1,1,0,1,0,0] 87):=bc Re [false,false,true,true,true] [[0,0],[1,2,0,0,0,0]] (@yN cg C) (aA (aO (asc C) (aO (ase C) (aO (asf C) ak))))
theorem ash {a b':Int} {ai:LV} {r:Option LV} (h:LH cg CC a b' ai=r):CC JS [V.int .i64 a,V.int .i64 b',.list aL ai]=r:=bu (aO (asg CC) ak) h
noncomputable def aeL (C:ab):bR:=fS 735 Q4 [[1,2,3,4,0,7,8]] (@Bn cg C) (bd 81 Q5 [false,false,false,true,true,true] [[1,2,3,0,0,0,0]] (@yO cg C) bw)
theorem asi (C:ab):aQ C (aeL C) 84 (Cd 45 [1,1,0,1,1,1,0,0,1,0,0,1,0,1,0] [1,1,0,1,1,1,0,0,1,0,0,1,0,1,1] 84):=fR Q4 [[1,2,3,4,0,7,8]] (@Bn cg C) (aA ak) (aA ak)
theorem asj (C:ab):aQ C (aeL C) 84 (Lp [1,1,0,1,1,1,0,0] 84):=bc Q5 [false,false,false,true,true,true] [[1,2,3,0,0,0,0]] (@yO cg C) (aA (aO (asi C) ak))
theorem asl {a b':Int} {ai:LV} {r:Option LV} (h:LJ cg CC a b' ai=r):CC JP [V.int .i64 a,V.int .i64 b',.list aL ai]=r:=bu (aO (asj CC) ak) h
theorem asm {data:LV} {a b' c ed:Int} {r:Option LV} (h:LL cg CC data a b' c ed=r):CC J3 [.list aL data,V.int .i64 a,V.int .i64 b',V.int .i64 c,V.int .i64 ed]=r:=bu (L:=bw) ak h
theorem asn {data:LV} {a ed:Int} {r:Option LV} (h:LM cg CC data a ed=r):CC J2 [.list aL data,V.int .i64 a,V.int .i64 ed]=r:=bu (L:=bw) ak h
theorem aso {data:LV} {a b' ed:Int} {r:Option LV} (h:F6 cg CC data a b' ed=r):CC J4 [.list aL data,V.int .i64 a,V.int .i64 b',V.int .i64 ed]=r:=bu (L:=bw) ak h
noncomputable def aeM (C:ab):bR:=fS 591 Q6 [[1,0,0,0,0]] (@yP cg C) (fS 559 Q7 [[0,0]] (@yQ cg C) bw)
theorem asp (C:ab):aQ C (aeM C) 85 (Cd 36 [1,1,1,1,1,1,0,1,0,0,1,0] [1,1,1,1,1,1,0,1,0,0,1,1] 85):=fR Q6 [[1,0,0,0,0]] (@yP cg C) (aA ak) (aA ak)
theorem asq (C:ab):aQ C (aeM C) 85 (Cd 34 [1,1,1,1,1,1,0,1,0] [1,1,1,1,1,1,0,1,1] 85):=fR Q7 [[0,0]] (@yQ cg C) (aA (aO (asp C) ak)) (aA ak)
theorem asr {data:LV} {a b':Int} {r:Option LV} (h:F7 cg CC data a b'=r):CC JQ [.list aL data,V.int .i64 a,V.int .i64 b']=r:=bu (aO (asq CC) ak) h
noncomputable def Mr (C:ab):bR:=fS 639 QH [[1,2,0,4,5,6,0]] (@vX cg C) (fS 911 QI [[1,2,3,4,5,6,0,0,0]] (@vY cg C) (fS 1215 QJ [[1,2,3,4,5,6,7,0,0],[1,2,3,4,5,6,7,0]] (@mT cg C) (bd 33 QK [true,true,true,true,true,true] [[0]] (@pT cg C) bw)))
theorem ass (C:ab):aQ C (Mr C) 66 (Cd 39 [1,1,0,0,0,1,1,1,0,1,0] [1,1,0,0,0,1,1,1,0,1,1] 66):=fR QH [[1,2,0,4,5,6,0]] (@vX cg C) (aA ak) (aA ak)
theorem ast (C:ab):aQ C (Mr C) 66 (Cd 56 [1,1,0,0,0,1,1,1,1,1,0,1,0] [1,1,0,0,0,1,1,1,1,1,0,1,1] 66):=fR QI [[1,2,3,4,5,6,0,0,0]] (@vY cg C) (aA ak) (aA ak)
theorem asu (C:ab):aQ C (Mr C) 66 (Cd 75 [1,1,0,0,0,1,1,1,1,1,1,0,1,0] [1,1,0,0,0,1,1,1,1,1,1,0,1,1] 66):=fR QJ [[1,2,3,4,5,6,7,0,0],[1,2,3,4,5,6,7,0]] (@mT cg C) (aA ak) (aA ak)
theorem asv (C:ab):aQ C (Mr C) 66 (Lp [1,1,0,0] 66):=bc QK [true,true,true,true,true,true] [[0]] (@pT cg C) (aA (aO (ass C) (aO (ast C) (aO (asu C) ak))))
theorem asw {a b' hG:Int} {ai:LV} {r:Option LV} (h:LN cg CC a b' hG ai=r):CC JG [V.int .i64 a,V.int .i64 b',V.int .i64 hG,.list aL ai]=r:=bu (aO (asv CC) ak) h
theorem asx {xs:LV} {r:Option LV} (h:LO cg CC xs=r):CC J5 [.list aL xs]=r:=bu (L:=bw) ak h
end Go.AM
set_option maxRecDepth 100000
namespace Go.AM
open Go.Proofs Go.Sort
noncomputable abbrev asy:aq Ed where
 E:=cg
 enc:=Ed.enc
 cmp:=oE
 re x:=by simp only[cg,Ed.iI,Ed.iJ,Ed.iK];exact Ed.re x
 cs a b:=by simp only[cg,Ed.iI,Ed.iJ,Ed.iK];exact aa1 a b
 Tm:=⟨fun x=>by simp only[Hs,sj];unfold Ed.lt;omega,fun x y z=>by simp only[dW,sj];unfold Ed.lt;omega,fun x y z=>by simp only[Hs,sj];unfold Ed.lt;omega⟩
 Tn:=arS
 To:=arV
 Tp:=arY
 Tq:=ar1
 Tr:=ar7
 Ts:=asb
 Tt:=ash
 Tu:=asl
 Tv:=asm
 Tw:=asn
 LP:=aso
 LQ:=asr
 Tx:=asw
 Tz:=asx
theorem asz (l:List Ed) (hs:l.length<1152921504606846976): ∃R:List Ed,CC J5 [.list aL (l.map Ed.enc)]=some [.list aL (R.map Ed.enc)]∧R.Perm l∧R.Pairwise (fun x y=> ¬y.lt x):=by
 obtain ⟨R,h1,h2,h3⟩:= @adz Ed asy _ l hs
 exact ⟨R,h1,h2,h3.imp fun h g=>h ((sj _ _).2 g)⟩
end Go.AM
set_option maxRecDepth 100000
namespace Go.AM
open Go.Proofs
noncomputable def Ms (C:ab) (p:Int) (row t31:LV) (t32 t33:Int) (t42:Bool) (aM aT:Int) (aY aX:LV) (bf bh fU fI aH aD aJ aE:Int) (cz bI:LV) {β:Type} (kr:(Int)→Option β):Option β:=
 bif t42 then
  bif decide (0≤p) then
  kr (IntKind.wrap .u64 ((BitVec.ofInt (IntKind.bits .u64) aE|||BitVec.ofInt (IntKind.bits .u64) (IntKind.wrap .u64 (1*2^(min p.toNat (IntKind.bits .u64))))).toNat))
  else none
 else
  kr aE
noncomputable def G4 (C:ab) (p:Int) (t31:LV) (t32 t33:Int) (t49:LV) (t50 aM aT:Int) (aY aX:LV) (bf bh fU fI aH aD aJ aE:Int) (cz:LV) (t51:Int) (bI:LV) {β:Type} (kn:(Int × LV)→Option β) (kr:(Int × Bool × LV)→Option β):Option β:=
 bif decide ((t51:Int)<t50) then
  (idx t49 t51).bind fun x5=>
  bif Nat.ble ((bI.length+([.agg [V.int .i64 p,V.int .i64 t51,V.int .i64 x5.toInt]]:LV).length)*24) bM then
  kn (IntKind.wrap .i64 (t51+1),bI++([.agg [V.int .i64 p,V.int .i64 t51,V.int .i64 x5.toInt]]:LV))
  else none
 else
  kr (t51,decide ((t51:Int)<t50),bI)
noncomputable def Mt (C:ab) (p:Int) (t31:LV) (t32 t33:Int) (t49:LV) (t50 aM aT:Int) (aY aX:LV) (bf bh fU fI aH aD aJ aE:Int) (cz:LV):=un fun t51 bI=>G4 C p t31 t32 t33 t49 t50 aM aT aY aX bf bh fU fI aH aD aJ aE cz t51 bI (fun y=>some (Sum.inl y)) (fun r=>some (Sum.inr r))
noncomputable def G5 (C:ab) (t31:LV) (t32 aM aT:Int) (aY aX:LV) (bf bh fU fI aH aD aJ:Int) (cz:LV) (t33 aE:Int) (bI:LV) {β:Type} (kn:(Int × Int × LV)→Option β) (kr:(Int × Bool × Int × LV)→Option β):Option β:=
 bif decide ((t33:Int)<t32) then
  (idx t31 t33).bind fun x2=>
  (idx aY t33).bind fun x3=>
  Ms C t33 x2.toList t31 t32 t33 x3.toBool aM aT aY aX bf bh fU fI aH aD aJ aE cz bI (fun (fu:Int)=>
   (Loop (Mt C t33 t31 t32 t33 x2.toList (x2.toList.length:Int) aM aT aY aX bf bh fU fI aH aD aJ fu cz) (0,bI)).bind (un fun (oF:Int)=>un fun (jE:Bool) (Gf:LV)=>
    kn (IntKind.wrap .i64 (t33+1),fu,Gf)))
 else
  kr (t33,decide ((t33:Int)<t32),aE,bI)
noncomputable def UO (C:ab) (t31:LV) (t32 aM aT:Int) (aY aX:LV) (bf bh fU fI aH aD aJ:Int) (cz:LV):=un fun t33=>un fun aE bI=>G5 C t31 t32 aM aT aY aX bf bh fU fI aH aD aJ cz t33 aE bI (fun y=>some (Sum.inl y)) (fun r=>some (Sum.inr r))
noncomputable def UP (C:ab):bR:=fS 687 PW [[1,2,3,4,5,7,8,9,10,11,12,13,14,15,16,17,0,19,20]] (@Ms C) (bd 209 PX [false,false,false,false,false,false,true,false,false,false,false,false,false,false,false,false,false,false,false,false,true] [[1,2,3,4,5,6,0,0,8,9,10,11,12,13,14,15,16,17,18,19,20,0]] (@G4 C) (bd 129 PY [false,false,true,false,false,false,false,false,false,false,false,false,false,false,true,false,true] [[1,2,0,0,4,5,6,7,8,9,10,11,12,13,14,0,16,0]] (@G5 C) bw))
theorem asA (C:ab):aQ C (UP C) 34 (Cd 42 [1,1,1,1,0,1,0,0,1,1,0,0,1,0,1,0] [1,1,1,1,0,1,0,0,1,1,0,0,1,0,1,1] 34):=fR PW [[1,2,3,4,5,7,8,9,10,11,12,13,14,15,16,17,0,19,20]] (@Ms C) (aA ak) (aA ak)
theorem asB (C:ab):aQ C (UP C) 34 (Lp [1,1,1,1,0,1,0,0,1,1,0,0,1,1,1,0,0] 34):=bc PX [false,false,false,false,false,false,true,false,false,false,false,false,false,false,false,false,false,false,false,false,true] [[1,2,3,4,5,6,0,0,8,9,10,11,12,13,14,15,16,17,18,19,20,0]] (@G4 C) (aA ak)
theorem asC (C:ab):aQ C (UP C) 34 (Lp [1,1,1,1,0,1,0,0] 34):=bc PY [false,false,true,false,false,false,false,false,false,false,false,false,false,false,true,false,true] [[1,2,0,0,4,5,6,7,8,9,10,11,12,13,14,0,16,0]] (@G5 C) (aA (aO (asA C) (aO (asB C) ak)))
noncomputable def aeN (C:ab) (aB aC:Int) (av aF:LV):Option LV:=
 (C se [V.int .i64 aB,V.int .i64 aC,.list au av,.list ax aF]).bind fun r1=>
 bif (((V.nth r1 0).toInt):Int) != 0 then
  some [V.int .i64 0,V.int .i64 0,.int .u64 0,.int .u64 0,V.int .i64 ((V.nth r1 0).toInt),.list aL ([]:LV)]
 else
  bif decide (((av.length:Int):Int)>64) then
  some [V.int .i64 0,V.int .i64 0,.int .u64 0,.int .u64 0,V.int .i64 3,.list aL ([]:LV)]
  else
  bif decide (0≤aC) then
   (Loop (UO C aF (aF.length:Int) aB aC av aF 0 0 0 0 aB (av.length:Int) (IntKind.wrap .u64 (1*2^(min aC.toNat (IntKind.bits .u64)))) ([]:LV)) (0,0,([]:LV))).bind (un fun (sq:Int)=>un fun (AS:Bool)=>un fun (Ux:Int) (UQ:LV)=>
    some [V.int .i64 aB,V.int .i64 (av.length:Int),.int .u64 (IntKind.wrap .u64 (1*2^(min aC.toNat (IntKind.bits .u64)))),.int .u64 Ux,V.int .i64 0,.list aL UQ])
  else none
theorem asD {aB aC:Int} {av aF:LV} {r:Option LV} (h:aeN CC aB aC av aF=r):CC Jv [V.int .i64 aB,V.int .i64 aC,.list au av,.list ax aF]=r:=bu (aO (asC CC) ak) h
noncomputable def G6 (C:ab) (t20:LV) (t21 bf bh fU fI aeO aeP aeQ aeR:Int) (di:LV) (t22:Int) (cz:LV) {β:Type} (kn:(Int × LV)→Option β) (kr:(Int × Bool × LV)→Option β):Option β:=
 bif decide ((t22:Int)<t21) then
  (idx t20 t22).bind fun x2=>
  bif Nat.ble ((cz.length+([.agg [V.int .i64 ((x2.cell 2).toInt),V.int .i64 ((x2.cell 1).toInt),V.int .i64 ((x2.cell 0).toInt)]]:LV).length)*24) bM then
  kn (IntKind.wrap .i64 (t22+1),cz++([.agg [V.int .i64 ((x2.cell 2).toInt),V.int .i64 ((x2.cell 1).toInt),V.int .i64 ((x2.cell 0).toInt)]]:LV))
  else none
 else
  kr (t22,decide ((t22:Int)<t21),cz)
noncomputable def UR (C:ab) (t20:LV) (t21 bf bh fU fI aeO aeP aeQ aeR:Int) (di:LV):=un fun t22 cz=>G6 C t20 t21 bf bh fU fI aeO aeP aeQ aeR di t22 cz (fun y=>some (Sum.inl y)) (fun r=>some (Sum.inr r))
noncomputable def asE (C:ab):bR:=bd 81 PZ [false,false,true,false,false,false,false,false,false,false,false,false,true] [[1,2,0,0,4,5,6,7,8,9,10,11,12,0]] (@G6 C) bw
theorem asF (C:ab):aQ C (asE C) 36 (Lp [1,1,1,0,1,0,0] 36):=bc PZ [false,false,true,false,false,false,false,false,false,false,false,false,true] [[1,2,0,0,4,5,6,7,8,9,10,11,12,0]] (@G6 C) (aA ak)
noncomputable def aeS (C:ab) (cu cF cv cW:Int) (cw:LV):Option LV:=
 (C DU [V.int .i64 cu,V.int .i64 cF,.int .u64 cv,.int .u64 cW,.list aL cw]).bind fun r1=>
 bif (((V.nth r1 0).toInt):Int) != 0 then
  some [V.int .i64 0,V.int .i64 0,.int .u64 0,.int .u64 0,.list aL ([]:LV)]
 else
  (Loop (UR C cw (cw.length:Int) 0 0 0 0 cu cF cW cv ([]:LV)) (0,([]:LV))).bind (un fun (kJ:Int)=>un fun (jh:Bool) (US:LV)=>
   (C J5 [.list aL US]).bind fun r6=>
   some [V.int .i64 cu,V.int .i64 cF,.int .u64 cW,.int .u64 cv,.list aL ((V.nth r6 0).toList)])
theorem asG {cu cF cv cW:Int} {cw:LV} {r:Option LV} (h:aeS CC cu cF cv cW cw=r):CC Jw [V.int .i64 cu,V.int .i64 cF,.int .u64 cv,.int .u64 cW,.list aL cw]=r:=bu (aO (asF CC) ak) h
noncomputable def UT (C:ab) (aB aC:Int) (av aF:LV):Option LV:=
 (C qL [V.int .i64 aB,V.int .i64 aC,.list au av,.list ax aF]).bind fun r1=>
 bif (((V.nth (r1.drop 2) 0).toInt):Int) != 0 then
  some [V.int .i64 0,V.int .i64 0,V.int .i64 ((V.nth (r1.drop 2) 0).toInt),.list au ([]:LV),.list ax ([]:LV)]
 else
  (C Jv [V.int .i64 ((V.nth r1 0).toInt),V.int .i64 ((V.nth (r1.drop 1) 0).toInt),.list au ((V.nth (r1.drop 3) 0).toList),.list ax ((V.nth ((r1.drop 3).drop 1) 0).toList)]).bind fun r2=>
  bif (((V.nth (r2.drop 4) 0).toInt):Int) != 0 then
  some [V.int .i64 0,V.int .i64 0,V.int .i64 ((V.nth (r2.drop 4) 0).toInt),.list au ([]:LV),.list ax ([]:LV)]
  else
  (C Jw [V.int .i64 ((V.nth r2 0).toInt),V.int .i64 ((V.nth (r2.drop 1) 0).toInt),.int .u64 ((V.nth ((r2.drop 1).drop 1) 0).toInt),.int .u64 ((V.nth (((r2.drop 1).drop 1).drop 1) 0).toInt),.list aL ((V.nth (r2.drop 5) 0).toList)]).bind fun r3=>
  (C Av [V.int .i64 ((V.nth r3 0).toInt),V.int .i64 ((V.nth (r3.drop 1) 0).toInt),.int .u64 ((V.nth ((r3.drop 1).drop 1) 0).toInt),.int .u64 ((V.nth (((r3.drop 1).drop 1).drop 1) 0).toInt),.list aL ((V.nth (r3.drop 4) 0).toList)]).bind fun r4=>
  some [V.int .i64 ((V.nth r4 0).toInt),V.int .i64 ((V.nth (r4.drop 1) 0).toInt),V.int .i64 ((V.nth (r4.drop 2) 0).toInt),.list au ((V.nth (r4.drop 3) 0).toList),.list ax ((V.nth ((r4.drop 3).drop 1) 0).toList)]
theorem aeT {aB aC:Int} {av aF:LV} {r:Option LV} (h:UT CC aB aC av aF=r):CC DF [V.int .i64 aB,V.int .i64 aC,.list au av,.list ax aF]=r:=bu (L:=bw) ak h
theorem asH {a:Da} {off p:Nat}:ln (iS a off p):=by
 unfold iS tab ln
 rw[List.pairwise_map]
 refine List.Pairwise.imp ?_ List.pairwise_lt_range
 intro x y h
 show (dV (p+off) x (a.nx p x+off)).lt (dV (p+off) y (a.nx p y+off))
 exact .inr ⟨rfl,.inl (Int.ofNat_lt.2 h)⟩
theorem UU {a:Da} {off:Nat}: ∀n,ln (fm n (iS a off))
 | 0=>List.Pairwise.nil
 | n+1=>by
  rw[sF]
  refine Hn.2 ⟨UU n,asH,fun e he f hf=> ?_⟩
  obtain ⟨p,hp,he⟩:=Bz.1 he
  obtain ⟨x,_,rfl⟩:=oJ.1 he
  obtain ⟨y,_,rfl⟩:=oJ.1 hf
  unfold Ed.lt dV
  simp only
  omega
theorem asI {a:Da}:iQ (cx a 0)=cx a 0:=FO (yv _) (UU _) fun _=>pQ
def BF (m:Da):Nf:=⟨m.L,m.n,2^m.st,cS 0 m.fin 0 m.n,cx m 0⟩
section
variable {m:Da} (hm:m.Ok)
include hm
theorem asJ (hs:m.n≤64):rh m.L m.n (2^m.st) (cS 0 m.fin 0 m.n) (cx m 0) where
 l1:=hm.l1
 l6:=hm.l6
 lX:=hs
 st:=gx (by omega) hm.s
 fin:=p5 (sP _) (by omega)
 E:=fun e he=>Mi hm (by omega) he
 len:=by
  have h1:=mV hm (off:=0) (n:=m.n)
  unfold cx
  omega
theorem asK (hs:m.n≤64):Nat6 (BF m) m.L m.n:=by
 have h:=n7 (asJ hm hs)
 unfold cR at h
 rw[asI] at h
 exact h
theorem asL (hs:m.n≤64):CC Jv (cY m)=some [.int .i64 (m.L:Int),.int .i64 (m.n:Int),.int .u64 ((2^m.st:Nat):Int),.int .u64 (cS 0 m.fin 0 m.n:Int),.int .i64 0,.list aL ((cx m 0).map Ed.enc)]:=by
 have h6:=hm.l6
 have bP:=hm.s
 refine asD ?_
 unfold aeN
 refine bs (AK hm) (bF rfl ?_)
 rw[Da.mb]
 refine bF (eB (by omega)) ?_
 refine bT (b7 (by omega)) ?_
 rw[Int.toNat_natCast,tU (by omega),show m.cd.length=m.n from cL]
 refine bs (hO m.n (fun i=>((i:Int),(cS 0 m.fin 0 i:Int),(fm i (iS m 0)).map Ed.enc)) ((m.n:Int),false,(cS 0 m.fin 0 m.n:Int),(cx m 0).map Ed.enc) rfl (fun p hp=> ?_) ?_) ?_
 ·have hlen:=mV hm (off:=0) (n:=p)
  have bx:=p5 (f:=m.fin) (off:=0) (fin:=0) (k:=64) (by omega) (n:=p) (by omega)
  have key: ∀{c1 c2 c3 c4 c5 c6 c7 c8:Int} {l1:List V},Loop (Mt CC (p:Int) m.cd (m.n:Int) (p:Int) (eX m.L (m.nx p)).toList ((eX m.L (m.nx p)).toList.length:Int) (m.L:Int) (m.st:Int) m.cG m.cd c1 c2 c3 c4 c5 c6 c7 c8 l1) (0,(fm p (iS m 0)).map Ed.enc)=some ((m.L:Int),false,(fm p (iS m 0)++iS m 0 p).map Ed.enc):=by
   intro c1 c2 c3 c4 c5 c6 c7 c8 l1
   rw[show (eX m.L (m.nx p)).toList=tab m.L fun x=>nV (m.nx p x) from rfl,cL]
   refine hO m.L (fun i=>((i:Int),(fm p (iS m 0)++tab i fun x=>dV (p+0) x (m.nx p x+0)).map Ed.enc)) _ (by rw[ub,eY];rfl) (fun x hx=> ?_) ?_
   ·simp only[Mt,G4,un]
    refine bT (cB hx) ?_
    refine bs (j9 hx) ?_
    refine bT (cap (by rw[bX,cX,cL];simp;omega) (by omega)) ?_
    rw[show (nV (m.nx p x)).toInt=((m.nx p x:Nat):Int) from rfl,yZ,ca (by omega),iN,←db]
    rfl
   ·simp only[Mt,G4,un]
    refine bF (bm (aw _)) ?_
    rw[bm (aw _)]
    rfl
  simp only[UO,G5,un]
  refine bT (cB hp) ?_
  refine bs (j9 hp) ?_
  refine bs (j9 hp) ?_
  unfold Ms
  rw[V.kG]
  cases hf:m.fin p with
  | true=>
   refine bT rfl (bT (b7 (by omega)) ?_)
   rw[Int.toNat_natCast,tU (by omega),u64_or bx (gx (by omega) (by omega)),show cS 0 m.fin 0 (p+1)=cS 0 m.fin 0 p|||2^p from af hf]
   refine bs key ?_
   simp only[un]
   rw[ca (by omega),sF]
  | false=>
   refine bF rfl ?_
   rw[show cS 0 m.fin 0 (p+1)=cS 0 m.fin 0 p from ag (by rw[hf];simp)]
   refine bs key ?_
   simp only[un]
   rw[ca (by omega),sF]
 ·simp only[UO,G5,un]
  refine bF (bm (aw _)) ?_
  rw[bm (aw _)]
  rfl
 ·rfl
theorem asM (hs:m.n≤64):CC Jw (j6 (BF m) [])=some (j6 (rl m) []):=by
 have h6:=asK hm hs
 have hl:=mV hm (off:=0) (n:=m.n)
 refine asG ?_
 unfold aeS
 have hv:=R9 _ h6.ok
 rw[h6.code] at hv
 refine bs hv (bF rfl ?_)
 have hll:(cx m 0).length≤m.n*6:=hl
 refine bs (hO (cx m 0).length (fun i=>((i:Int),(((cx m 0).take i).map Ed.rev).map Ed.enc)) (((cx m 0).length:Int),false,((cx m 0).map Ed.rev).map Ed.enc) rfl (fun i hi=> ?_) ?_) ?_
 ·have qg:((cx m 0).take i).length≤i:=zk _ _
  simp only[UR,G6,un]
  refine bT (b7 (show (i:Int)<(((BF m).E.map Ed.enc).length:Int) by rw[bX];show (i:Int)<((cx m 0).length:Int);omega)) ?_
  refine bs (sk (E:=(BF m).E) hi) ?_
  have e1:(BF m).E.getD i default=(cx m 0)[i]:=Sa hi
  rw[e1,Ed.iI,Ed.iJ,Ed.iK]
  refine bT (cap (by simp;omega) (by omega)) ?_
  rw[ca (by omega),zi hi,nd,nd]
  rfl
 ·simp only[UR,G6,un]
  have e2:decide (((cx m 0).length:Int)<(((BF m).E.map Ed.enc).length:Int))=false:=eB (by rw[bX];show¬((cx m 0).length:Int)<((cx m 0).length:Int);omega)
  refine bF e2 ?_
  rw[e2,oa]
 ·simp only[un]
  obtain ⟨R,e,hp,hr⟩:=asz ((cx m 0).map Ed.rev) (by rw[bX];omega)
  refine bs e ?_
  have hn:((cx m 0).map Ed.rev).Nodup:=by
   have:=anq (UU (a:=m) (off:=0) m.n)
   rw[List.Nodup,List.pairwise_map]
   exact this.imp fun {x y} fN e=>fN (by have:=congrArg Ed.rev e;simpa using this)
  have hR:R=iQ ((cx m 0).map Ed.rev):=FO (anr hp hn hr) (yv _) fun x=>by rw[pQ,hp.mem_iff]
  rw[hR]
  rfl
end
section
variable {a:Da} (h:a.Ok)
include h
theorem asN (hs:(minD a).n≤64):CC DF (cY a)=some (dB (dC (rl (minD a)) a.L (minD a).n) (fy (rl (minD a)) a.L (minD a).n)):=by
 have hm:=mX h
 have hl:=TS (n7 (Uu hm hs))
 rw[hY h] at hl
 refine aeT ?_
 unfold UT
 refine bs (BB h) (bF rfl ?_)
 refine bs (asL hm hs) (bF rfl ?_)
 refine bs (asM hm hs) ?_
 unfold rl
 rw[hY h]
 refine bs hl ?_
 rfl
end
theorem asO {d:Df} (h:d.Ok) (hv:d.val≠0):CC DF (lx d [])=some (dB zD d.val):=by
 refine aeT ?_
 unfold UT
 refine bs (BC h hv) (bT (by simpa[dB] using hv) ?_)
 rfl
noncomputable def G7 (C:ab) (t7:LV) (t8 aH aD aJ aE:Int) (fu:LV) (bf bh fU fI:Int) (cz:LV) (t9:Int) (ls:LV) {β:Type} (kn:(Int × LV)→Option β) (kr:(Int × Bool × LV)→Option β):Option β:=
 bif decide ((t9:Int)<t8) then
  (idx t7 t9).bind fun x1=>
  bif Nat.ble ((ls.length+([.agg [V.int .i64 ((x1.cell 2).toInt),V.int .i64 ((x1.cell 1).toInt),V.int .i64 ((x1.cell 0).toInt)]]:LV).length)*24) bM then
  kn (IntKind.wrap .i64 (t9+1),ls++([.agg [V.int .i64 ((x1.cell 2).toInt),V.int .i64 ((x1.cell 1).toInt),V.int .i64 ((x1.cell 0).toInt)]]:LV))
  else none
 else
  kr (t9,decide ((t9:Int)<t8),ls)
noncomputable def Mu (C:ab) (t7:LV) (t8 aH aD aJ aE:Int) (fu:LV) (bf bh fU fI:Int) (cz:LV):=un fun t9 ls=>G7 C t7 t8 aH aD aJ aE fu bf bh fU fI cz t9 ls (fun y=>some (Sum.inl y)) (fun r=>some (Sum.inr r))
noncomputable def asP (C:ab):bR:=bd 49 P0 [false,false,true,false,false,false,false,false,false,false,false,false,true,false] [[1,2,0,0,4,5,6,7,8,9,10,11,12,0,14]] (@G7 C) bw
theorem asQ (C:ab):aQ C (asP C) 37 (Lp [1,1,0,1,0,0] 37):=bc P0 [false,false,true,false,false,false,false,false,false,false,false,false,true,false] [[1,2,0,0,4,5,6,7,8,9,10,11,12,0,14]] (@G7 C) (aA ak)
noncomputable def aeU (C:ab) (cu cF cv cW:Int) (cw:LV):Option LV:=
 (Loop (Mu C cw (cw.length:Int) cu cF cv cW cw 0 0 0 0 ([]:LV)) (0,([]:LV))).bind (un fun (R7:Int)=>un fun (kJ:Bool) (asR:LV)=>
  (C DR [.list aL asR]).bind fun r5=>
  some [V.int .i64 cu,V.int .i64 cF,.int .u64 cW,.int .u64 cv,.list aL ((V.nth r5 0).toList)])
theorem asS {cu cF cv cW:Int} {cw:LV} {r:Option LV} (h:aeU CC cu cF cv cW cw=r):CC Jx [V.int .i64 cu,V.int .i64 cF,.int .u64 cv,.int .u64 cW,.list aL cw]=r:=bu (aO (asQ CC) ak) h
noncomputable def G8 (C:ab) (s:Int) (t31:LV) (t32 bf bh dU dQ aH aD aJ aE:Int) (cz bI bE br:LV) (t33:Int) (bt:LV) {β:Type} (kn:(Int × LV)→Option β) (kr:(Int × Bool × LV)→Option β):Option β:=
 bif decide ((t33:Int)<t32) then
  (idx t31 t33).bind fun x4=>
  bif Nat.ble ((bt.length+([.agg [V.int .i64 s,V.int .i64 t33,V.int .i64 x4.toInt]]:LV).length)*24) bM then
  kn (IntKind.wrap .i64 (t33+1),bt++([.agg [V.int .i64 s,V.int .i64 t33,V.int .i64 x4.toInt]]:LV))
  else none
 else
  kr (t33,decide ((t33:Int)<t32),bt)
noncomputable def UW (C:ab) (s:Int) (t31:LV) (t32 bf bh dU dQ aH aD aJ aE:Int) (cz bI bE br:LV):=un fun t33 bt=>G8 C s t31 t32 bf bh dU dQ aH aD aJ aE cz bI bE br t33 bt (fun y=>some (Sum.inl y)) (fun r=>some (Sum.inr r))
noncomputable def G9 (C:ab) (s:Int) (t50:LV) (t51 bf bh dU dQ aH aD aJ aE:Int) (cz bI bE br:LV) (t52:Int) (bt:LV) {β:Type} (kn:(Int × LV)→Option β) (kr:(Int × Bool × LV)→Option β):Option β:=
 bif decide ((t52:Int)<t51) then
  (idx t50 t52).bind fun x8=>
  ar bE ((x8.cell 2).toInt) fun x9=>
  bif x9.toBool then
  bif Nat.ble ((bt.length+([.agg [V.int .i64 ((x8.cell 0).toInt),V.int .i64 ((x8.cell 1).toInt),V.int .i64 dQ]]:LV).length)*24) bM then
   kn (IntKind.wrap .i64 (t52+1),bt++([.agg [V.int .i64 ((x8.cell 0).toInt),V.int .i64 ((x8.cell 1).toInt),V.int .i64 dQ]]:LV))
  else none
  else
  kn (IntKind.wrap .i64 (t52+1),bt)
 else
  kr (t52,decide ((t52:Int)<t51),bt)
noncomputable def UX (C:ab) (s:Int) (t50:LV) (t51 bf bh dU dQ aH aD aJ aE:Int) (cz bI bE br:LV):=un fun t52 bt=>G9 C s t50 t51 bf bh dU dQ aH aD aJ aE cz bI bE br t52 bt (fun y=>some (Sum.inl y)) (fun r=>some (Sum.inr r))
noncomputable def aeV (C:ab):bR:=bd 129 Pv [false,false,false,true,false,false,false,false,false,false,false,false,false,false,false,false,true] [[1,2,3,0,0,5,6,7,8,9,10,11,12,13,14,15,16,0]] (@G8 C) (bd 225 Pw [false,false,false,true,false,false,false,false,false,false,false,false,false,false,false,false,true] [[1,2,3,0,0,5,6,7,8,9,10,11,12,13,14,15,16,0]] (@G9 C) bw)
theorem asT (C:ab):aQ C (aeV C) 7 (Lp [1,1,1,1,1,1,0,1,0,0] 7):=bc Pv [false,false,false,true,false,false,false,false,false,false,false,false,false,false,false,false,true] [[1,2,3,0,0,5,6,7,8,9,10,11,12,13,14,15,16,0]] (@G8 C) (aA ak)
theorem asU (C:ab):aQ C (aeV C) 7 (Lp [1,1,1,1,1,1,1,1,0,1,0,0] 7):=bc Pw [false,false,false,true,false,false,false,false,false,false,false,false,false,false,false,false,true] [[1,2,3,0,0,5,6,7,8,9,10,11,12,13,14,15,16,0]] (@G9 C) (aA ak)
noncomputable def aeW (C:ab) (aB aC:Int) (av aF:LV):Option LV:=
 (C tJ [V.int .i64 aB,V.int .i64 aC,.list au av,.list ax aF]).bind fun r1=>
 (C vq [V.int .i64 ((V.nth r1 0).toInt),V.int .i64 ((V.nth (r1.drop 1) 0).toInt),.list au ((V.nth (r1.drop 2) 0).toList),.list ax ((V.nth ((r1.drop 2).drop 1) 0).toList)]).bind fun r2=>
 bif decide (((IntKind.wrap .i64 (((V.nth (r2.drop 1) 0).toInt)+1)):Int)>64) then
  some [V.int .i64 0,V.int .i64 0,V.int .i64 3,.list au ([]:LV),.list ax ([]:LV)]
 else
  ar ((V.nth ((r1.drop 2).drop 1) 0).toList) ((V.nth (r1.drop 1) 0).toInt) fun x3=>
  (Loop (UW C ((V.nth (r2.drop 1) 0).toInt) x3.toList (x3.toList.length:Int) 0 0 ((V.nth r1 0).toInt) ((V.nth (r1.drop 1) 0).toInt) ((V.nth r2 0).toInt) (IntKind.wrap .i64 (((V.nth (r2.drop 1) 0).toInt)+1)) ((V.nth ((r2.drop 1).drop 1) 0).toInt) ((V.nth (((r2.drop 1).drop 1).drop 1) 0).toInt) ([]:LV) ([]:LV) ((V.nth (r1.drop 2) 0).toList) ((V.nth ((r1.drop 2).drop 1) 0).toList)) (0,(V.nth (r2.drop 4) 0).toList)).bind (un fun (lj:Int)=>un fun (oF:Bool) (Ge:LV)=>
   (Loop (UX C ((V.nth (r2.drop 1) 0).toInt) Ge (Ge.length:Int) 0 0 ((V.nth r1 0).toInt) ((V.nth (r1.drop 1) 0).toInt) ((V.nth r2 0).toInt) (IntKind.wrap .i64 (((V.nth (r2.drop 1) 0).toInt)+1)) ((V.nth ((r2.drop 1).drop 1) 0).toInt) ((V.nth (((r2.drop 1).drop 1).drop 1) 0).toInt) ([]:LV) ([]:LV) ((V.nth (r1.drop 2) 0).toList) ((V.nth ((r1.drop 2).drop 1) 0).toList)) (0,Ge)).bind (un fun (AS:Int)=>un fun (uj:Bool) (UQ:LV)=>
    (C tK [V.int .i64 ((V.nth (r2.drop 1) 0).toInt)]).bind fun pN=>
    (C tK [V.int .i64 ((V.nth (r2.drop 1) 0).toInt)]).bind fun kO=>
    (C vr [V.int .i64 ((V.nth r2 0).toInt),V.int .i64 (IntKind.wrap .i64 (((V.nth (r2.drop 1) 0).toInt)+1)),.int .u64 ((V.nth pN 0).toInt),.int .u64 (IntKind.wrap .u64 ((BitVec.ofInt (IntKind.bits .u64) ((V.nth (((r2.drop 1).drop 1).drop 1) 0).toInt)|||BitVec.ofInt (IntKind.bits .u64) ((V.nth kO 0).toInt)).toNat)),.list aL UQ]).bind fun fe=>
    some [V.int .i64 ((V.nth fe 0).toInt),V.int .i64 ((V.nth (fe.drop 1) 0).toInt),V.int .i64 ((V.nth (fe.drop 2) 0).toInt),.list au ((V.nth (fe.drop 3) 0).toList),.list ax ((V.nth ((fe.drop 3).drop 1) 0).toList)]))
theorem asV {aB aC:Int} {av aF:LV} {r:Option LV} (h:aeW CC aB aC av aF=r):CC Jp [V.int .i64 aB,V.int .i64 aC,.list au av,.list ax aF]=r:=bu (aO (asT CC) (aO (asU CC) ak)) h
noncomputable def Ha (C:ab) (t10:Bool) (Uy Uz dU dQ:Int) (di cz bI bE:LV) {β:Type} (kr:LV→Option β):Option β:=
 bif t10 then
  (C DM [V.int .i64 dU,V.int .i64 dQ,.list au bI,.list ax bE]).bind fun r2=>
  kr ((V.nth r2 0).toList)
 else
  kr bI
noncomputable def asW (C:ab):bR:=fS 175 Px [[2,3,4,5,6,7,0,9]] (@Ha C) bw
theorem asX (C:ab):aQ C (asW C) 11 (Cd 10 [1,1,0,1,0] [1,1,0,1,1] 11):=fR Px [[2,3,4,5,6,7,0,9]] (@Ha C) (aA ak) (aA ak)
noncomputable def aeX (C:ab) (aB aC:Int) (av aF:LV) (Mv:Bool):Option LV:=
 (C tJ [V.int .i64 aB,V.int .i64 aC,.list au av,.list ax aF]).bind fun r1=>
 Ha C Mv 0 0 ((V.nth r1 0).toInt) ((V.nth (r1.drop 1) 0).toInt) ([]:LV) ([]:LV) ((V.nth (r1.drop 2) 0).toList) ((V.nth ((r1.drop 2).drop 1) 0).toList) (fun (b_3:LV)=>
  (C vq [V.int .i64 ((V.nth r1 0).toInt),V.int .i64 ((V.nth (r1.drop 1) 0).toInt),.list au b_3,.list ax ((V.nth ((r1.drop 2).drop 1) 0).toList)]).bind fun r4=>
  bif decide ((((V.nth (r4.drop 1) 0).toInt):Int)>64) then
   some [V.int .i64 0,V.int .i64 0,V.int .i64 3,.list au ([]:LV),.list ax ([]:LV)]
  else
   (C DN [V.int .i64 ((V.nth (r4.drop 1) 0).toInt)]).bind fun r5=>
   (C vr [V.int .i64 ((V.nth r4 0).toInt),V.int .i64 ((V.nth (r4.drop 1) 0).toInt),.int .u64 ((V.nth r5 0).toInt),.int .u64 ((V.nth (((r4.drop 1).drop 1).drop 1) 0).toInt),.list aL ((V.nth (r4.drop 4) 0).toList)]).bind fun r6=>
   some [V.int .i64 ((V.nth r6 0).toInt),V.int .i64 ((V.nth (r6.drop 1) 0).toInt),V.int .i64 ((V.nth (r6.drop 2) 0).toInt),.list au ((V.nth (r6.drop 3) 0).toList),.list ax ((V.nth ((r6.drop 3).drop 1) 0).toList)])
theorem asY {aB aC:Int} {av aF:LV} {Mv:Bool} {r:Option LV} (h:aeX CC aB aC av aF Mv=r):CC xC [V.int .i64 aB,V.int .i64 aC,.list au av,.list ax aF,.bool Mv]=r:=bu (aO (asX CC) ak) h
noncomputable def Hb (C:ab) (q bf bh aH aD aJ aE:Int) (di cz:LV) (x:Int) (bI:LV) {β:Type} (kn:(Int × LV)→Option β) (kr:(Int × Bool × LV)→Option β):Option β:=
 bif decide ((x:Int)<aH) then
  bif Nat.ble ((bI.length+([.agg [V.int .i64 q,V.int .i64 x,V.int .i64 q]]:LV).length)*24) bM then
  kn (IntKind.wrap .i64 (x+1),bI++([.agg [V.int .i64 q,V.int .i64 x,V.int .i64 q]]:LV))
  else none
 else
  kr (x,decide ((x:Int)<aH),bI)
noncomputable def UY (C:ab) (q bf bh aH aD aJ aE:Int) (di cz:LV):=un fun x bI=>Hb C q bf bh aH aD aJ aE di cz x bI (fun y=>some (Sum.inl y)) (fun r=>some (Sum.inr r))
noncomputable def Hc (C:ab) (bf bh aH aD aJ aE:Int) (di cz:LV) (q:Int) (bI:LV) {β:Type} (kn:(Int × LV)→Option β) (kr:(Int × Bool × LV)→Option β):Option β:=
 bif decide ((q:Int)<aD) then
  (Loop (UY C q bf bh aH aD aJ aE di cz) (0,bI)).bind (un fun (Bq:Int)=>un fun (jh:Bool) (US:LV)=>
   kn (IntKind.wrap .i64 (q+1),US))
 else
  kr (q,decide ((q:Int)<aD),bI)
noncomputable def UZ (C:ab) (bf bh aH aD aJ aE:Int) (di cz:LV):=un fun q bI=>Hc C bf bh aH aD aJ aE di cz q bI (fun y=>some (Sum.inl y)) (fun r=>some (Sum.inr r))
noncomputable def aeY (C:ab):bR:=bd 129 PA [false,true,false,false,false,false,false,false,false,false,true] [[1,0,0,3,4,5,6,7,8,9,10,0]] (@Hb C) (bd 81 PB [true,false,false,false,false,false,false,false,false,true] [[0,0,2,3,4,5,6,7,8,9,0]] (@Hc C) bw)
theorem asZ (C:ab):aQ C (aeY C) 14 (Lp [1,1,1,0,1,0,0,1,0,0,1,0,0] 14):=bc PA [false,true,false,false,false,false,false,false,false,false,true] [[1,0,0,3,4,5,6,7,8,9,10,0]] (@Hb C) (aA ak)
theorem as0 (C:ab):aQ C (aeY C) 14 (Lp [1,1,1,0,1,0,0] 14):=bc PB [true,false,false,false,false,false,false,false,false,true] [[0,0,2,3,4,5,6,7,8,9,0]] (@Hc C) (aA (aO (asZ C) ak))
noncomputable def aeZ (C:ab) (aB aC:Int) (av aF:LV):Option LV:=
 (C tJ [V.int .i64 aB,V.int .i64 aC,.list au av,.list ax aF]).bind fun r1=>
 (C vq [V.int .i64 ((V.nth r1 0).toInt),V.int .i64 ((V.nth (r1.drop 1) 0).toInt),.list au ((V.nth (r1.drop 2) 0).toList),.list ax ((V.nth ((r1.drop 2).drop 1) 0).toList)]).bind fun r2=>
 bif decide ((((V.nth (r2.drop 1) 0).toInt):Int)>64) then
  some [V.int .i64 0,V.int .i64 0,V.int .i64 3,.list au ([]:LV),.list ax ([]:LV)]
 else
  (Loop (UZ C 0 0 ((V.nth r2 0).toInt) ((V.nth (r2.drop 1) 0).toInt) ((V.nth ((r2.drop 1).drop 1) 0).toInt) ((V.nth (((r2.drop 1).drop 1).drop 1) 0).toInt) ([]:LV) ([]:LV)) (0,(V.nth (r2.drop 4) 0).toList)).bind (un fun (q_6:Int)=>un fun (jE:Bool) (Gf:LV)=>
   (C vr [V.int .i64 ((V.nth r2 0).toInt),V.int .i64 ((V.nth (r2.drop 1) 0).toInt),.int .u64 ((V.nth ((r2.drop 1).drop 1) 0).toInt),.int .u64 ((V.nth (((r2.drop 1).drop 1).drop 1) 0).toInt),.list aL Gf]).bind fun r9=>
   some [V.int .i64 ((V.nth r9 0).toInt),V.int .i64 ((V.nth (r9.drop 1) 0).toInt),V.int .i64 ((V.nth (r9.drop 2) 0).toInt),.list au ((V.nth (r9.drop 3) 0).toList),.list ax ((V.nth ((r9.drop 3).drop 1) 0).toList)])
theorem as1 {aB aC:Int} {av aF:LV} {r:Option LV} (h:aeZ CC aB aC av aF=r):CC Jr [V.int .i64 aB,V.int .i64 aC,.list au av,.list ax aF]=r:=bu (aO (as0 CC) ak) h
noncomputable def Mw (C:ab) (p t29 t30:Int) (t36:Bool) (bf bh dU dQ aH aD aJ aE:Int) (oR bI bE br bt bH:LV) {β:Type} (kr:(Int)→Option β):Option β:=
 bif t36 then
  (C tK [V.int .i64 p]).bind fun r5=>
  kr (IntKind.wrap .u64 ((BitVec.ofInt (IntKind.bits .u64) aE|||BitVec.ofInt (IntKind.bits .u64) ((V.nth r5 0).toInt)).toNat))
 else
  kr aE
noncomputable def Hd (C:ab) (p t29 t30 t52 t53:Int) (t61:LV) (t62 bf bh dU dQ aH aD aJ aE:Int) (oR y7 bE br bt bH:LV) (t63:Int) (cH:LV) {β:Type} (kn:(Int × LV)→Option β) (kr:(Int × Bool × LV)→Option β):Option β:=
 bif decide ((t63:Int)<t62) then
  (idx t61 t63).bind fun j8=>
  bif Nat.ble ((cH.length+([.agg [V.int .i64 p,V.int .i64 t63,V.int .i64 j8.toInt]]:LV).length)*24) bM then
  kn (IntKind.wrap .i64 (t63+1),cH++([.agg [V.int .i64 p,V.int .i64 t63,V.int .i64 j8.toInt]]:LV))
  else none
 else
  kr (t63,decide ((t63:Int)<t62),cH)
noncomputable def U0 (C:ab) (p t29 t30 t52 t53:Int) (t61:LV) (t62 bf bh dU dQ aH aD aJ aE:Int) (oR y7 bE br bt bH:LV):=un fun t63 cH=>Hd C p t29 t30 t52 t53 t61 t62 bf bh dU dQ aH aD aJ aE oR y7 bE br bt bH t63 cH (fun y=>some (Sum.inl y)) (fun r=>some (Sum.inr r))
noncomputable def He (C:ab) (p t29 t30 t52 bf bh dU dQ aH aD aJ aE:Int) (oR y7 bE br bt bH:LV) (t53:Int) (cH:LV) {β:Type} (kn:(Int × LV)→Option β) (kr:(Int × Bool × LV)→Option β):Option β:=
 bif decide ((t53:Int)<t52) then
  ar y7 t53 fun x8=>
  bif (decide (0≤x8.toInt))&&(decide (x8.toInt<(bH.length:Int))) then
  (bH[(x8.toInt:Int).toNat]?).bind fun x9=>
  (Loop (U0 C p t29 t30 t52 t53 x9.toList (x9.toList.length:Int) bf bh dU dQ aH aD aJ aE oR y7 bE br bt bH) (0,cH)).bind (un fun (uj:Int)=>un fun (vN:Bool) (vL:LV)=>
   kn (IntKind.wrap .i64 (t53+1),vL))
  else none
 else
  kr (t53,decide ((t53:Int)<t52),cH)
noncomputable def Mx (C:ab) (p t29 t30 t52 bf bh dU dQ aH aD aJ aE:Int) (oR y7 bE br bt bH:LV):=un fun t53 cH=>He C p t29 t30 t52 bf bh dU dQ aH aD aJ aE oR y7 bE br bt bH t53 cH (fun y=>some (Sum.inl y)) (fun r=>some (Sum.inr r))
noncomputable def Hf (C:ab) (t29 bf bh dU dQ aH aD aJ:Int) (oR bI bE br bt:LV) (t30 aE:Int) (bH:LV) {β:Type} (kn:(Int × Int × LV)→Option β) (kr:(Int × Bool × Int × LV)→Option β):Option β:=
 bif decide ((t30:Int)<t29) then
  ar oR t30 fun x4=>
  Mw C t30 t29 t30 x4.toBool bf bh dU dQ aH aD aJ aE oR bI bE br bt bH (fun (sE:Int)=>
   (C xI [V.int .i64 dU,V.int .i64 t30,.list au br,.list ax bt]).bind fun r7=>
   (Loop (Mx C t30 t29 t30 (((V.nth r7 0).toList).length:Int) bf bh dU dQ aH aD aJ sE oR ((V.nth r7 0).toList) bI bE br bt) (0,bH)).bind (un fun (sm:Int)=>un fun (Li:Bool) (yn:LV)=>
    kn (IntKind.wrap .i64 (t30+1),sE,yn)))
 else
  kr (t30,decide ((t30:Int)<t29),aE,bH)
noncomputable def U3 (C:ab) (t29 bf bh dU dQ aH aD aJ:Int) (oR bI bE br bt:LV):=un fun t30=>un fun aE bH=>Hf C t29 bf bh dU dQ aH aD aJ oR bI bE br bt t30 aE bH (fun y=>some (Sum.inl y)) (fun r=>some (Sum.inr r))
noncomputable def My (C:ab):bR:=fS 591 PI [[1,2,3,5,6,7,8,9,10,11,0,13,14,15,16,17,18]] (@Mw C) (bd 305 PJ [false,false,false,false,false,false,false,true,false,false,false,false,false,false,false,false,false,false,false,false,false,false,true] [[1,2,3,4,5,6,7,0,0,9,10,11,12,13,14,15,16,17,18,19,20,21,22,0]] (@Hd C) (bd 257 PK [false,false,false,false,true,false,false,false,false,false,false,false,false,false,false,false,false,false,false,true] [[1,2,3,4,0,0,6,7,8,9,10,11,12,13,14,15,16,17,18,19,0]] (@He C) (bd 129 PL [false,true,false,false,false,false,false,false,false,true,false,false,false,false,false,true] [[1,0,0,3,4,5,6,7,8,9,0,11,12,13,14,15,0]] (@Hf C) bw)))
theorem as2 (C:ab):aQ C (My C) 16 (Cd 36 [1,1,1,1,1,1,0,1,0,0,1,1,0,0,1,0,1,0] [1,1,1,1,1,1,0,1,0,0,1,1,0,0,1,0,1,1] 16):=fR PI [[1,2,3,5,6,7,8,9,10,11,0,13,14,15,16,17,18]] (@Mw C) (aA ak) (aA ak)
theorem as3 (C:ab):aQ C (My C) 16 (Lp [1,1,1,1,1,1,0,1,0,0,1,1,0,0,1,1,1,1,1,1,0,0,1,1,0,0,1,1,0,0] 16):=bc PJ [false,false,false,false,false,false,false,true,false,false,false,false,false,false,false,false,false,false,false,false,false,false,true] [[1,2,3,4,5,6,7,0,0,9,10,11,12,13,14,15,16,17,18,19,20,21,22,0]] (@Hd C) (aA ak)
theorem as4 (C:ab):aQ C (My C) 16 (Lp [1,1,1,1,1,1,0,1,0,0,1,1,0,0,1,1,1,1,1,1,0,0] 16):=bc PK [false,false,false,false,true,false,false,false,false,false,false,false,false,false,false,false,false,false,false,true] [[1,2,3,4,0,0,6,7,8,9,10,11,12,13,14,15,16,17,18,19,0]] (@He C) (aA (aO (as3 C) ak))
theorem as5 (C:ab):aQ C (My C) 16 (Lp [1,1,1,1,1,1,0,1,0,0] 16):=bc PL [false,true,false,false,false,false,false,false,false,true,false,false,false,false,false,true] [[1,0,0,3,4,5,6,7,8,9,0,11,12,13,14,15,0]] (@Hf C) (aA (aO (as2 C) (aO (as4 C) ak)))
noncomputable def ae0 (C:ab) (aB aC:Int) (av aF:LV):Option LV:=
 (C tJ [V.int .i64 aB,V.int .i64 aC,.list au av,.list ax aF]).bind fun r1=>
 (C vq [V.int .i64 ((V.nth r1 0).toInt),V.int .i64 ((V.nth (r1.drop 1) 0).toInt),.list au ((V.nth (r1.drop 2) 0).toList),.list ax ((V.nth ((r1.drop 2).drop 1) 0).toList)]).bind fun r2=>
 bif decide ((((V.nth (r2.drop 1) 0).toInt):Int)>64) then
  some [V.int .i64 0,V.int .i64 0,V.int .i64 3,.list au ([]:LV),.list ax ([]:LV)]
 else
  (C DM [V.int .i64 ((V.nth r1 0).toInt),V.int .i64 ((V.nth (r1.drop 1) 0).toInt),.list au ((V.nth (r1.drop 2) 0).toList),.list ax ((V.nth ((r1.drop 2).drop 1) 0).toList)]).bind fun r3=>
  (Loop (U3 C (((V.nth (r1.drop 2) 0).toList).length:Int) 0 0 ((V.nth r1 0).toInt) ((V.nth (r1.drop 1) 0).toInt) ((V.nth r2 0).toInt) ((V.nth (r2.drop 1) 0).toInt) ((V.nth ((r2.drop 1).drop 1) 0).toInt) ((V.nth r3 0).toList) ([]:LV) ([]:LV) ((V.nth (r1.drop 2) 0).toList) ((V.nth ((r1.drop 2).drop 1) 0).toList)) (0,0,([]:LV))).bind (un fun (apP:Int)=>un fun (SZ:Bool)=>un fun (as6:Int) (Sq:LV)=>
   (C vr [V.int .i64 ((V.nth r2 0).toInt),V.int .i64 ((V.nth (r2.drop 1) 0).toInt),.int .u64 ((V.nth ((r2.drop 1).drop 1) 0).toInt),.int .u64 as6,.list aL Sq]).bind fun mU=>
   some [V.int .i64 ((V.nth mU 0).toInt),V.int .i64 ((V.nth (mU.drop 1) 0).toInt),V.int .i64 ((V.nth (mU.drop 2) 0).toInt),.list au ((V.nth (mU.drop 3) 0).toList),.list ax ((V.nth ((mU.drop 3).drop 1) 0).toList)])
theorem as7 {aB aC:Int} {av aF:LV} {r:Option LV} (h:ae0 CC aB aC av aF=r):CC Js [V.int .i64 aB,V.int .i64 aC,.list au av,.list ax aF]=r:=bu (aO (as5 CC) ak) h
noncomputable def ae1 (C:ab) (aB aC:Int) (av aF:LV):Option LV:=
 (C tJ [V.int .i64 aB,V.int .i64 aC,.list au av,.list ax aF]).bind fun r1=>
 (C vq [V.int .i64 ((V.nth r1 0).toInt),V.int .i64 ((V.nth (r1.drop 1) 0).toInt),.list au ((V.nth (r1.drop 2) 0).toList),.list ax ((V.nth ((r1.drop 2).drop 1) 0).toList)]).bind fun r2=>
 bif decide ((((V.nth (r2.drop 1) 0).toInt):Int)>64) then
  some [V.int .i64 0,V.int .i64 0,V.int .i64 3,.list au ([]:LV),.list ax ([]:LV)]
 else
  (C Jx [V.int .i64 ((V.nth r2 0).toInt),V.int .i64 ((V.nth (r2.drop 1) 0).toInt),.int .u64 ((V.nth ((r2.drop 1).drop 1) 0).toInt),.int .u64 ((V.nth (((r2.drop 1).drop 1).drop 1) 0).toInt),.list aL ((V.nth (r2.drop 4) 0).toList)]).bind fun r3=>
  (C vr [V.int .i64 ((V.nth r3 0).toInt),V.int .i64 ((V.nth (r3.drop 1) 0).toInt),.int .u64 ((V.nth ((r3.drop 1).drop 1) 0).toInt),.int .u64 ((V.nth (((r3.drop 1).drop 1).drop 1) 0).toInt),.list aL ((V.nth (r3.drop 4) 0).toList)]).bind fun r4=>
  some [V.int .i64 ((V.nth r4 0).toInt),V.int .i64 ((V.nth (r4.drop 1) 0).toInt),V.int .i64 ((V.nth (r4.drop 2) 0).toInt),.list au ((V.nth (r4.drop 3) 0).toList),.list ax ((V.nth ((r4.drop 3).drop 1) 0).toList)]
theorem as8 {aB aC:Int} {av aF:LV} {r:Option LV} (h:ae1 CC aB aC av aF=r):CC Jq [V.int .i64 aB,V.int .i64 aC,.list au av,.list ax aF]=r:=bu (L:=bw) ak h
end Go.AM
set_option maxRecDepth 100000
set_option maxHeartbeats 1000000
namespace Go.AM
open Go.Proofs
theorem as9 {E:List Ed} (hl:E.length≤24576) {a0 a1 a2 a3 r0 r1 r2 r3:Int} {a4 b:List V}:Loop (Mu CC (E.map Ed.enc) (E.length:Int) a0 a1 a2 a3 a4 r0 r1 r2 r3 b) (0,([]:List V))=some ((E.length:Int),false,(E.map Ed.rev).map Ed.enc):=by
 refine hO E.length (fun i=>((i:Int),((E.take i).map Ed.rev).map Ed.enc)) _ rfl (fun i hi=> ?_) ?_
 ·have h1:(E.take i).length≤i:=zk _ _
  simp only[Mu,G7,un]
  refine bT (cB hi) ?_
  refine bs (sk hi) ?_
  rw[Ed.iI,Ed.iJ,Ed.iK]
  refine bT (cap (by rw[bX,bX];simp;omega) (by omega)) ?_
  have e1:E.getD i default=E[i]:=by simp[hi]
  rw[ca (by omega),e1,←Hq hi,nd,nd]
  rfl
 ·simp only[Mu,G7,un]
  refine bF (bm (aw _)) ?_
  rw[bm (aw _),oa]
theorem ata {L S st fin:Nat} {l:List Ed} (hl:l.length≤24576):CC Jx (aN L S st fin l)=some (aN L S fin st (iQ (l.map Ed.rev))):=by
 refine asS ?_
 unfold aeU
 rw[bX]
 refine bs (as9 hl) ?_
 simp only[un]
 refine bs (ac2 (by rw[bX];omega)) ?_
 rfl
theorem atb (l:List Ed):iQ (iQ l)=iQ l:=adO fun x=>pQ
theorem atc {f g:Nat→Bool} {fin off:Nat}: ∀{n:Nat},(∀q,q<n→f q=g q)→cS fin f off n=cS fin g off n:=by
 intro n h
 refine uI fun j=> ?_
 rw[BA,BA]
 by_cases c:off≤j∧j<n+off
 ·rw[h (j-off) (by omega)]
 ·rw[eB c];rfl
theorem atd (l:List Ed):(iQ l).length≤l.length:=by
 have: ∀(l out:List Ed),(l.foldl n0 out).length≤out.length+l.length:=fun l=>by
  induction l with
  | nil=>simp
  | cons x l ih=>intro out;have h1:=ih (n0 out x);have h2:=ac0 out x;simp only[List.foldl_cons,List.length_cons];omega
 have:=this l []
 unfold iQ
 simpa using this
section
variable {a:Da} (h:a.Ok)
include h
theorem ate (hs:(minD a).n≤64):CC Jq (cY a)=some (dB (dC (rl (minD a)) a.L (minD a).n) (fy (rl (minD a)) a.L (minD a).n)):=by
 have hm:=mX h
 have h6:=hm.l6
 have hL:=hY h
 have hlen:(cx (minD a) 0).length≤(minD a).n*6:=mV hm
 have hw:=Uu hm hs
 have hr:=Gh (l:=iQ ((cx (minD a) 0).map Ed.rev)) (L:=(minD a).L) (S:=(minD a).n) (st:=cS 0 (minD a).fin 0 (minD a).n) (fin:=2^(minD a).st)
  ⟨hw.l1,hw.l6,hw.lX,hw.st,hw.fin,fun e he=>hw.E e (pQ.1 he),by have:=hw.len;have h2:=atd ((cx (minD a) 0).map Ed.rev);omega⟩
 rw[show cR (minD a).L (minD a).n (cS 0 (minD a).fin 0 (minD a).n) (2^(minD a).st) (iQ ((cx (minD a) 0).map Ed.rev))=rl (minD a) by unfold rl cR;rw[atb],hL] at hr
 refine as8 ?_
 unfold ae1
 refine bs (A8 h) ?_
 refine bs (GC hm hs) ?_
 simp only[aN,V.bZ,jn,hZ,V.toInt_int,V.jB]
 refine bF (eB (by omega)) ?_
 refine bs (ata (by omega)) ?_
 simp only[aN,V.bZ,jn,hZ,V.toInt_int,V.jB]
 rw[hL]
 refine bs hr ?_
 rfl
theorem atf (hs:(minD a).n+1≤64):CC Jp (cY a)=some (dB (dC (y4 (minD a)) a.L ((minD a).n+1)) (fy (y4 (minD a)) a.L ((minD a).n+1))):=by
 have hm:=mX h
 have h6:=hm.l6
 have hL:=hY h
 have bP:=hm.s
 have hr:=Gh (Ut hm hs)
 rw[hL] at hr
 have hlen:(cx (minD a) 0).length≤(minD a).n*6:=mV hm
 have hA:=Us hm
 refine asV ?_
 unfold aeW
 refine bs (A8 h) ?_
 refine bs (GC hm (by omega)) ?_
 simp only[aN,cY,fY,V.bZ,jn,hZ,V.toInt_int,V.jB]
 rw[ca (by omega)]
 refine bF (eB (by omega)) ?_
 refine (dt (i:=(minD a).st) bP).trans ?_
 rw[show (eX (minD a).L ((minD a).nx (minD a).st)).toList=tab (minD a).L fun x=>nV ((minD a).nx (minD a).st x) from rfl,cL]
 refine bs (hO (minD a).L (fun i=>((i:Int),(cx (minD a) 0++tab i fun x=>dV (minD a).n x ((minD a).nx (minD a).st x)).map Ed.enc)) (((minD a).L:Int),false,(lr (minD a)).map Ed.enc) (by rw[ub,eY];rfl) (fun x hx=> ?_) ?_) ?_
 ·simp only[UW,G8,un]
  refine bT (cB hx) ?_
  refine bs (j9 hx) ?_
  refine bT (cap (by rw[bX,cX,cL];simp;omega) (by omega)) ?_
  rw[show (nV ((minD a).nx (minD a).st x)).toInt=(((minD a).nx (minD a).st x:Nat):Int) from rfl,yZ,ca (by omega),iN,←db]
 ·simp only[UW,G8,un]
  refine bF (bm (aw _)) ?_
  rw[bm (aw _)]
  rfl
 ·simp only[un]
  rw[bX]
  refine bs (hO (lr (minD a)).length (fun i=>((i:Int),(lr (minD a)++mW (minD a).n (minD a).fin (minD a).st ((lr (minD a)).take i)).map Ed.enc)) (((lr (minD a)).length:Int),false,(GI (minD a)).map Ed.enc) (by rw[List.take_zero,show mW (minD a).n (minD a).fin (minD a).st []=[] from rfl,eY];rfl) (fun i hi=> ?_) ?_) ?_
  ·obtain ⟨p,x,hp,hx,he⟩:=(aep hm).1 (ep hi)
   have hq:=hm.ej (aeo hm hp) hx
   have hl:((lr (minD a)).take i).length≤i:=zk _ _
   have qg:=Mf (l:=(lr (minD a)).take i) (n:=(minD a).n) (to:=(minD a).st) (f:=(minD a).fin)
   simp only[UX,G9,un]
   refine bT (cB hi) ?_
   refine bs (sk hi) ?_
   rw[show (lr (minD a)).getD i default=dV p x ((minD a).nx (p7 (minD a) p) x) by simp[hi,he],Ed.iI,Ed.iJ,Ed.iK]
   refine (dt (i:=(minD a).nx (p7 (minD a) p) x) hq).trans ?_
   rw[aee hi,he,ca (by omega),show (dV p x ((minD a).nx (p7 (minD a) p) x)).t.toNat=(minD a).nx (p7 (minD a) p) x from rfl]
   cases hf:(minD a).fin ((minD a).nx (p7 (minD a) p) x) with
   | true=>
    refine bT rfl ?_
    refine bT (cap (by rw[bX,cX];simp;omega) (by omega)) ?_
    rw[af ⟨hq,rfl⟩,←db]
    exact congrArg (fun l=>some (Sum.inl (_,l))) yZ
   | false=>
    refine bF rfl ?_
    rw[ag (by simp),eY]
  ·simp only[UX,G9,un]
   refine bF (bm (aw _)) ?_
   rw[bm (aw _),oa]
   rfl
  ·simp only[un]
   have p1:(2:Nat)^(minD a).n<2^64:=gx (by omega) (by omega)
   have p2:cS 0 (minD a).fin 0 (minD a).n<2^64:=p5 (sP _) (by omega)
   have e1:cS 0 (minD a).fin 0 (minD a).n|||2^(minD a).n=Mj (minD a):=by
    refine uI fun j=> ?_
    unfold Mj
    rw[o0,BA,BA,Nat.zero_testBit,Bool.false_or,Bool.or_comm]
   refine bs (AF (by omega)) ?_
   refine bs (AF (by omega)) ?_
   simp only[V.bZ,V.toInt_int]
   rw[u64_or p2 p1,e1,hL]
   refine bs hr ?_
   rfl
theorem atg (hs:(minD a).n≤64):CC Jr (cY a)=some (dB (dC (p6 (minD a)) (minD a).L (minD a).n) (fy (p6 (minD a)) (minD a).L (minD a).n)):=by
 have hm:=mX h
 have h6:=hm.l6
 have hr:=Gh (GH hm hs)
 have hlen:(cx (minD a) 0).length≤(minD a).n*6:=mV hm
 refine as1 ?_
 unfold aeZ
 refine bs (A8 h) ?_
 refine bs (GC hm hs) ?_
 simp only[aN,V.bZ,jn,hZ,V.toInt_int,V.jB]
 refine bF (eB (by omega)) ?_
 refine bs (hO (minD a).n (fun i=>((i:Int),(cx (minD a) 0++gI (minD a).L i).map Ed.enc)) (((minD a).n:Int),false,(cx (minD a) 0++gI (minD a).L (minD a).n).map Ed.enc) (by rw[show gI (minD a).L 0=[] from rfl,eY];rfl) (fun q hq=> ?_) ?_) ?_
 ·have qg:(gI (minD a).L q).length≤q*6:=yY fun p _=>by rw[cL];exact h6
  simp only[UZ,Hc,un]
  refine bT (cB hq) ?_
  refine bs (hO (minD a).L (fun i=>((i:Int),((cx (minD a) 0++gI (minD a).L q)++tab i fun x=>dV q x q).map Ed.enc)) (((minD a).L:Int),false,((cx (minD a) 0++gI (minD a).L q)++tab (minD a).L fun x=>dV q x q).map Ed.enc) (by rw[ub,eY];rfl) (fun x hx=> ?_) ?_) ?_
  ·simp only[UY,Hb,un]
   refine bT (cB hx) ?_
   refine bT (cap (by rw[bX,cX,cX,cL];simp;omega) (by omega)) ?_
   rw[yZ,ca (by omega),iN,←db]
  ·simp only[UY,Hb,un]
   refine bF (bm (aw _)) ?_
   rw[bm (aw _)]
  ·simp only[un]
   rw[ca (by omega),show gI (minD a).L (q+1)=gI (minD a).L q++tab (minD a).L fun x=>dV q x q from sF,←db]
 ·simp only[UZ,Hc,un]
  refine bF (bm (aw _)) ?_
  rw[bm (aw _)]
 ·simp only[un]
  refine bs hr ?_
  rfl
theorem ae2 (hs:(minD a).n≤64) {c:Bool} {f:Nat→Bool} (hc: ∀{β:Type} {k1 k2:Int} {l1 l2:List V} {kr:List V→Option β},Ha CC c k1 k2 ((minD a).L:Int) ((minD a).st:Int) l1 l2 (minD a).cG (minD a).cd kr=kr (bV (minD a).n f)):
  CC xC (fY a [.bool c])=some (dB (dC (n9 (minD a) f) a.L (minD a).n) (fy (n9 (minD a) f) a.L (minD a).n)):=by
 have hm:=mX h
 have h6:=hm.l6
 have hL:=hY h
 have hr:=Gh (Mk hm hs (f:=f))
 rw[hL] at hr
 have hb:=GC (Da.Ok.rn hm (f:=f)) (by rw[Da.uz];exact hs)
 have e1:cS 0 ((minD a).rn f).fin 0 (minD a).n=cS 0 f 0 (minD a).n:=atc fun q hq=>Da.aet hq
 have e2:cx ((minD a).rn f) 0=cx (minD a) 0:=by unfold cx;rw[Da.uz];rfl
 rw[Da.uz,e1,e2] at hb
 unfold cY fY at hb
 rw[Da.aqZ,Da.aq0] at hb
 refine asY ?_
 unfold aeX
 refine bs (A8 h) ?_
 simp only[cY,fY,V.bZ,jn,hZ,V.toInt_int,V.jB]
 refine hc.trans ?_
 refine bs hb ?_
 simp only[aN,V.bZ,jn,hZ,V.toInt_int,V.jB]
 refine bF (eB (by omega)) ?_
 refine bs (aa8 (by omega) (by omega)) ?_
 simp only[V.bZ,V.toInt_int,Int.toNat_natCast]
 rw[show (((minD a).rn f).L:Int)=(a.L:Int) from congrArg _ hL]
 refine bs hr ?_
 rfl
theorem ath (hs:(minD a).n≤64):CC xC (fY a [.bool false])=some (dB (dC (n9 (minD a) (minD a).fin) a.L (minD a).n) (fy (n9 (minD a) (minD a).fin) a.L (minD a).n)):=
 ae2 h hs rfl
theorem ati (hs:(minD a).n≤64):CC xC (fY a [.bool true])=some (dB (dC (n9 (minD a) (minD a).fp) a.L (minD a).n) (fy (n9 (minD a) (minD a).fp) a.L (minD a).n)):=
 ae2 h hs fun {β k1 k2 l1 l2 kr}=>by
  unfold Ha
  refine bT rfl ?_
  refine bs (ad2 (mX h)) ?_
  rfl
def mi (m:Da) (p:Nat):List Ed:=(ao m.L m.nx p m.n).flatMap (qa m p)
omit h in
theorem ae3 {m:Da} (hm:m.Ok) {p:Nat} (hp:p<m.n) {q:Nat}:q∈ao m.L m.nx p m.n↔∃y,WL m.L y∧q=m.run p y:=by
 have hd:=(hm.p8 hp).lZ (m.p8 p).n
 constructor
 ·intro hq
  obtain ⟨w,h1,h2⟩:=AH _ _ hq
  exact ⟨w,h1,h2⟩
 ·rintro ⟨y,h1,rfl⟩
  exact abo hd y (jN (Si m.n)) h1
omit h in
theorem ae4 {m:Da} (hm:m.Ok) (hs:m.n≤64) {e:Ed}:e∈fm m.n (mi m)↔e∈wc m:=by
 unfold wc mi ru
 rw[Bz,Bz]
 constructor
 ·rintro ⟨p,hp,he⟩
  obtain ⟨q,hq,hx⟩:=uF.1 he
  exact ⟨p,hp,uF.2 ⟨q,(G0 hm hs hp).2 ((ae3 hm hp).1 hq),hx⟩⟩
 ·rintro ⟨p,hp,he⟩
  obtain ⟨q,hq,hx⟩:=uF.1 he
  exact ⟨p,hp,uF.2 ⟨q,(ae3 hm hp).2 ((G0 hm hs hp).1 hq),hx⟩⟩
omit h in
theorem atj {m:Da} (hm:m.Ok) (hs:m.n≤64) {p:Nat} (hp:p<m.n):(mi m p).length≤384:=by
 have h1:=G1 hm (p:=p) (ao m.L m.nx p m.n)
 have h2:=(hm.p8 hp).lZ (m.p8 p).n
 have h3:(ao m.L m.nx p m.n).length≤m.n:=h2
 unfold mi
 omega
theorem atk (hs:(minD a).n≤64):CC Js (cY a)=some (dB (dC (rv (minD a)) a.L (minD a).n) (fy (rv (minD a)) a.L (minD a).n)):=by
 have hm:=mX h
 have h6:=hm.l6
 have hL:=hY h
 have hw:=UM hm hs
 have lJ: ∀i,i≤(minD a).n→(fm i (mi (minD a))).length≤i*384:=fun i hi=>yY fun p hp=>atj hm hs (by omega)
 have hr:=Gh (l:=fm (minD a).n (mi (minD a))) (L:=(minD a).L) (S:=(minD a).n) (st:=2^(minD a).st) (fin:=cS 0 (minD a).fp 0 (minD a).n)
  ⟨hw.l1,hw.l6,hw.lX,hw.st,hw.fin,fun e he=>hw.E e ((ae4 hm hs).1 he),by have:=lJ _ (aw _);omega⟩
 rw[show cR (minD a).L (minD a).n (2^(minD a).st) (cS 0 (minD a).fp 0 (minD a).n) (fm (minD a).n (mi (minD a)))=rv (minD a) by unfold rv cR;rw[adO fun x=>ae4 hm hs],hL] at hr
 refine as7 ?_
 unfold ae0
 refine bs (A8 h) ?_
 refine bs (GC hm hs) ?_
 simp only[aN,V.bZ,jn,hZ,V.toInt_int,V.jB]
 refine bF (eB (by omega)) ?_
 refine bs (ad2 hm) ?_
 simp only[cY,fY,V.bZ,jn,hZ,V.toInt_int,V.jB,Da.mb]
 refine bs (hO (minD a).n (fun i=>((i:Int),((cS 0 (minD a).fp 0 i:Nat):Int),(fm i (mi (minD a))).map Ed.enc)) (((minD a).n:Int),false,((cS 0 (minD a).fp 0 (minD a).n:Nat):Int),(fm (minD a).n (mi (minD a))).map Ed.enc) rfl (fun p hp=> ?_) ?_) ?_
 ·obtain ⟨W,vn⟩:=acI (hm.p8 hp)
  have vn:CC xI [.int .i64 ((minD a).L:Int),.int .i64 (p:Int),.list au (minD a).cG,.list ax (minD a).cd]=some [.list bJ (nS (ao (minD a).L (minD a).nx p (minD a).n)),W]:=vn
  have rK:(ao (minD a).L (minD a).nx p (minD a).n).length≤(minD a).n:=(hm.p8 hp).lZ _
  have wK:=lJ p (by omega)
  simp only[U3,Hf,un]
  refine bT (cB hp) ?_
  refine (dt (i:=p) hp).trans ?_
  have step: ∀nf:Int,nf=((cS 0 (minD a).fp 0 (p+1):Nat):Int)→((CC xI [.int .i64 ((minD a).L:Int),.int .i64 (p:Int),.list au (minD a).cG,.list ax (minD a).cd]).bind fun r7=>
    (Loop (Mx CC (p:Int) ((minD a).n:Int) (p:Int) (((V.nth r7 0).toList).length:Int) 0 0 ((minD a).L:Int) ((minD a).st:Int) ((minD a).L:Int) ((minD a).n:Int) ((2^(minD a).st:Nat):Int) nf (bV (minD a).n (minD a).fp) ((V.nth r7 0).toList) [] [] (minD a).cG (minD a).cd) (0,(fm p (mi (minD a))).map Ed.enc)).bind (un fun (sm:Int)=>un fun (Li:Bool) (yn:List V)=>
     some (Sum.inl (IntKind.wrap .i64 ((p:Int)+1),nf,yn))))=some (Sum.inl (((p+1:Nat):Int),((cS 0 (minD a).fp 0 (p+1):Nat):Int),(fm (p+1) (mi (minD a))).map Ed.enc):(Int × Int × List V) ⊕ (Int × Bool × Int × List V)):=by
   intro nf dX
   subst dX
   refine bs vn ?_
   simp only[V.bZ,V.jB,nS,bX]
   generalize hB:ao (minD a).L (minD a).nx p (minD a).n=B at*
   refine bs (hO B.length (fun i=>((i:Int),(fm p (mi (minD a))++(B.take i).flatMap (qa (minD a) p)).map Ed.enc)) ((B.length:Int),false,(fm (p+1) (mi (minD a))).map Ed.enc) (by rw[List.take_zero,List.flatMap_nil,eY];rfl) (fun i hi=> ?_) ?_) ?_
   ·have hq:B[i]<(minD a).n:=(hm.p8 hp).vJ _ _ (by rw[show ao ((minD a).p8 p).L ((minD a).p8 p).nx ((minD a).p8 p).st (minD a).n=B from hB];exact ep hi)
    have qg:=G1 hm (p:=p) (B.take i)
    have hl3:(B.take i).length≤i:=zk _ _
    simp only[Mx,He,un]
    refine bT (cB hi) ?_
    refine (mM (i:=i) (v:=nV B[i]) (by simp[hi])).trans ?_
    refine (dt (i:=B[i]) hq).trans ?_
    rw[show (eX (minD a).L ((minD a).nx B[i])).toList=tab (minD a).L fun x=>nV ((minD a).nx B[i] x) from rfl,cL]
    refine bs (hO (minD a).L (fun j=>((j:Int),((fm p (mi (minD a))++(B.take i).flatMap (qa (minD a) p))++tab j fun x=>dV p x ((minD a).nx B[i] x)).map Ed.enc)) (((minD a).L:Int),false,((fm p (mi (minD a))++(B.take i).flatMap (qa (minD a) p))++qa (minD a) p B[i]).map Ed.enc) (by rw[ub,eY];rfl) (fun x hx=> ?_) ?_) ?_
    ·simp only[U0,Hd,un]
     refine bT (cB hx) ?_
     refine bs (j9 hx) ?_
     refine bT (cap (by rw[bX,cX,cX,cL];simp only[List.length_singleton];omega) (by omega)) ?_
     rw[show (nV ((minD a).nx B[i] x)).toInt=(((minD a).nx B[i] x:Nat):Int) from rfl,yZ,ca (by omega),iN,←db]
    ·simp only[U0,Hd,un]
     refine bF (bm (aw _)) ?_
     rw[bm (aw _)]
     rfl
    ·simp only[un]
     rw[ca (by omega),←Hq hi,List.flatMap_append,List.flatMap_singleton,←db]
   ·simp only[Mx,He,un]
    refine bF (bm (aw _)) ?_
    rw[bm (aw _),oa,sF]
    unfold mi
    rw[hB]
   ·simp only[un]
    rw[ca (by omega)]
  have p1:cS 0 (minD a).fp 0 p<2^64:=p5 (sP _) (by omega)
  have p2:(2:Nat)^p<2^64:=gx (by omega) (by omega)
  unfold Mw
  cases hf:(minD a).fp p with
  | true=>
   refine bT rfl ?_
   refine bs (AF (by omega)) ?_
   refine step _ ?_
   simp only[V.bZ,V.toInt_int]
   rw[u64_or p1 p2]
   simp[cS,hf]
  | false=>
   refine bF rfl ?_
   refine step _ ?_
   simp[cS,hf]
 ·simp only[U3,Hf,un]
  refine bF (bm (aw _)) ?_
  rw[bm (aw _)]
 ·simp only[un]
  rw[hL]
  refine bs hr ?_
  rfl
end
end Go.AM
set_option maxRecDepth 100000
namespace Go.AM
open Go.Proofs
def fA:Da:=⟨2,0,[false,true],[[1,0],[0,1]]⟩
def oS:Da:=⟨2,0,[false,true],[[1,0],[1,1]]⟩
theorem Hg:fA.Ok:=⟨by decide,by decide,by decide,by decide,by decide,by decide⟩
theorem Mz:oS.Ok:=⟨by decide,by decide,by decide,by decide,by decide,by decide⟩
theorem atl:fA.Canon fA.L (fA.acc fA.st) where
 ok:=Hg
 hL:=rfl
 st:=rfl
 num:=⟨by decide,by decide,by decide⟩
 red:=fun p q hp hq h=>by
  have h0:=h [] WL.nil
  have hp':p<2:=hp
  have cQ:q<2:=hq
  have: ∀p,p<2→∀q,q<2→fA.acc p []=fA.acc q []→p=q:=by decide
  exact this p hp' q cQ h0
 nJ:=fun _ _=>rfl
theorem atm:oS.Canon oS.L (oS.acc oS.st) where
 ok:=Mz
 hL:=rfl
 st:=rfl
 num:=⟨by decide,by decide,by decide⟩
 red:=fun p q hp hq h=>by
  have h0:=h [] WL.nil
  have hp':p<2:=hp
  have cQ:q<2:=hq
  have: ∀p,p<2→∀q,q<2→oS.acc p []=oS.acc q []→p=q:=by decide
  exact this p hp' q cQ h0
 nJ:=fun _ _=>rfl
theorem ae5:minD fA=fA:=(A3 Hg atl).symm
theorem atn:fx (p6 fA) 2 2=oS:=by kernel_rfl
theorem ae6: ¬gX (p6 fA) 2 2:=by
 have:=yp (n7 (GH Hg (by decide))) (2^2)
 exact fun h=>absurd (gd h this) (by decide)
theorem ato:dC (p6 fA) 2 2=oS:=by
 unfold dC
 rw[ag ae6,atn]
 exact (A3 Mz atm).symm
noncomputable def ae7 (C:ab):Option LV:=
 (C Jt []).bind fun r1=>
 (C xD [V.int .i64 ((V.nth r1 0).toInt),V.int .i64 ((V.nth (r1.drop 1) 0).toInt),.list au ((V.nth (r1.drop 2) 0).toList),.list ax ((V.nth ((r1.drop 2).drop 1) 0).toList)]).bind fun r2=>
 bif (((V.nth (r2.drop 2) 0).toInt):Int)==0 then
  bif ((((V.nth (r2.drop 3) 0).toList).length:Int):Int)==2 then
  (C DK [V.int .i64 ((V.nth r2 0).toInt),V.int .i64 ((V.nth (r2.drop 1) 0).toInt),.list au ((V.nth (r2.drop 3) 0).toList),.list ax ((V.nth ((r2.drop 3).drop 1) 0).toList),.str [98,97,97]]).bind fun r3=>
  bif (V.nth r3 0).toBool then
   (C DK [V.int .i64 ((V.nth r2 0).toInt),V.int .i64 ((V.nth (r2.drop 1) 0).toInt),.list au ((V.nth (r2.drop 3) 0).toList),.list ax ((V.nth ((r2.drop 3).drop 1) 0).toList),.str [98,98]]).bind fun r4=>
   some [.bool (!((V.nth r4 0).toBool))]
  else
   some [.bool false]
  else
  some [.bool false]
 else
  some [.bool false]
theorem atp {r:Option LV} (h:ae7 CC=r):CC Ar []=r:=bu (L:=bw) ak h
noncomputable def atq (C:ab):Option LV:=
 some [V.int .i64 2,V.int .i64 0,.list au ([.bool false,.bool true]:LV),.list ax ([.list bJ ([V.int .i64 1,V.int .i64 0]:LV),.list bJ ([V.int .i64 0,V.int .i64 1]:LV)]:LV)]
theorem atr {r:Option LV} (h:atq CC=r):CC Jt []=r:=bu (L:=bw) ak h
def ae8:List Ed:=[⟨0,0,1⟩,⟨0,1,0⟩,⟨1,0,0⟩,⟨1,1,1⟩,⟨0,0,0⟩,⟨0,1,0⟩,⟨1,0,1⟩,⟨1,1,1⟩]
def U4:List Ed:=[⟨0,0,0⟩,⟨0,0,1⟩,⟨0,1,0⟩,⟨0,1,0⟩,⟨1,0,0⟩,⟨1,0,1⟩,⟨1,1,1⟩,⟨1,1,1⟩]
def MA:List Ed:=[⟨0,0,0⟩,⟨0,0,1⟩,⟨0,1,0⟩,⟨1,0,0⟩,⟨1,0,1⟩,⟨1,1,1⟩]
theorem ats:cx fA 0++gI 2 2=ae8:=by decide
theorem att:CC xJ [.list aL (ae8.map Ed.enc)]=some [.list aL (U4.map Ed.enc)]:=aiu (N:=40) (n:=40) (by kernel_rfl)
theorem atu:p6 fA=⟨2,2,1,2,MA⟩:=by kernel_rfl
theorem atv:CC tI (aN 2 2 (2^fA.st) (cS 0 fA.fin 0 2) (cx fA 0++gI 2 2))=some (TT oS 0 ⟨2,2,1,2,MA⟩):=by
 obtain ⟨b,e2⟩:=ac9 (l:=U4) (by decide)
 have hc:jK U4=MA:=by decide
 rw[hc] at e2
 have e3:=TS (n7 (GH Hg (by decide)))
 rw[show cR fA.L fA.n (2^fA.st) (cS 0 fA.fin 0 fA.n) (cx fA 0++gI fA.L fA.n)=p6 fA from rfl,show fA.L=2 from rfl,show fA.n=2 from rfl,ato,show fy (p6 fA) 2 2=0 from ag ae6,atu] at e3
 rw[ats]
 refine adM ?_
 unfold TQ
 refine bs att ?_
 refine bs e2 ?_
 cases b
 ·refine bF rfl ?_
  refine bs e3 ?_
  rfl
 ·refine bT rfl ?_
  refine bs e3 ?_
  rfl
theorem U5:CC Ar []=some [.bool true]:=by
 have h1:CC Jt []=some (cY fA):=atr rfl
 have h2:=aen Hg (X:=oS) (e:=0) (n:=⟨2,2,1,2,MA⟩) (by rw[ae5];decide) (by rw[ae5];exact atv)
 refine atp ?_
 unfold ae7
 refine bs h1 ?_
 refine bs h2 ?_
 refine bT rfl (bT (by decide) ?_)
 refine bs (abN Mz (w:=[98,97,97]) (by decide)) ?_
 refine bT (by decide) ?_
 refine bs (abN Mz (w:=[98,98]) (by decide)) ?_
 rw[show oS.acc oS.st (lets [98,98])=false by decide]
 rfl
noncomputable def y8 (C:ab) (g ok t23:Int) (t78:Bool) (aM aT:Int) (aY aX:LV) (y9 za oT oU:Int) (cz bI bE br:LV) {β:Type} (kr:(Int × Int × Int × Int × Int × Int × LV × LV × LV × LV)→Option β):Option β:=
 bif t78 then
  (C DH [V.int .i64 aM,V.int .i64 aT,.list au aY,.list ax aX]).bind fun sH=>
  bif (ok:Int)==0 then
  (C xC [V.int .i64 aM,V.int .i64 aT,.list au aY,.list ax aX,.bool true]).bind fun mf=>
  kr ((V.nth (sH.drop 2) 0).toInt,(V.nth (mf.drop 2) 0).toInt,(V.nth sH 0).toInt,(V.nth (sH.drop 1) 0).toInt,(V.nth mf 0).toInt,(V.nth (mf.drop 1) 0).toInt,(V.nth (sH.drop 3) 0).toList,(V.nth ((sH.drop 3).drop 1) 0).toList,(V.nth (mf.drop 3) 0).toList,(V.nth ((mf.drop 3).drop 1) 0).toList)
  else
  kr ((V.nth (sH.drop 2) 0).toInt,g,(V.nth sH 0).toInt,(V.nth (sH.drop 1) 0).toInt,oT,oU,(V.nth (sH.drop 3) 0).toList,(V.nth ((sH.drop 3).drop 1) 0).toList,bE,br)
 else
  bif (t23:Int)==4 then
  (C xD [V.int .i64 aM,V.int .i64 aT,.list au aY,.list ax aX]).bind fun fg=>
  bif (ok:Int)==0 then
   (C Jr [V.int .i64 aM,V.int .i64 aT,.list au aY,.list ax aX]).bind fun pN=>
   kr ((V.nth (fg.drop 2) 0).toInt,(V.nth (pN.drop 2) 0).toInt,(V.nth fg 0).toInt,(V.nth (fg.drop 1) 0).toInt,(V.nth pN 0).toInt,(V.nth (pN.drop 1) 0).toInt,(V.nth (fg.drop 3) 0).toList,(V.nth ((fg.drop 3).drop 1) 0).toList,(V.nth (pN.drop 3) 0).toList,(V.nth ((pN.drop 3).drop 1) 0).toList)
  else
   kr ((V.nth (fg.drop 2) 0).toInt,g,(V.nth fg 0).toInt,(V.nth (fg.drop 1) 0).toInt,oT,oU,(V.nth (fg.drop 3) 0).toList,(V.nth ((fg.drop 3).drop 1) 0).toList,bE,br)
  else
  (C As [V.int .i64 aM,V.int .i64 aT,.list au aY,.list ax aX]).bind fun kO=>
  bif (ok:Int)==0 then
   (C Js [V.int .i64 aM,V.int .i64 aT,.list au aY,.list ax aX]).bind fun fe=>
   kr ((V.nth (kO.drop 2) 0).toInt,(V.nth (fe.drop 2) 0).toInt,(V.nth kO 0).toInt,(V.nth (kO.drop 1) 0).toInt,(V.nth fe 0).toInt,(V.nth (fe.drop 1) 0).toInt,(V.nth (kO.drop 3) 0).toList,(V.nth ((kO.drop 3).drop 1) 0).toList,(V.nth (fe.drop 3) 0).toList,(V.nth ((fe.drop 3).drop 1) 0).toList)
  else
   kr ((V.nth (kO.drop 2) 0).toInt,g,(V.nth kO 0).toInt,(V.nth (kO.drop 1) 0).toInt,oT,oU,(V.nth (kO.drop 3) 0).toList,(V.nth ((kO.drop 3).drop 1) 0).toList,bE,br)
noncomputable def we (C:ab) (g ok t23:Int) (t64:Bool) (aM aT:Int) (aY aX:LV) (y9 za oT oU:Int) (cz bI bE br:LV) {β:Type} (kr:(Int × Int × Int × Int × Int × Int × LV × LV × LV × LV)→Option β):Option β:=
 bif t64 then
  (C DG [V.int .i64 aM,V.int .i64 aT,.list au aY,.list ax aX]).bind fun r8=>
  bif (ok:Int)==0 then
  (C xC [V.int .i64 aM,V.int .i64 aT,.list au aY,.list ax aX,.bool false]).bind fun r9=>
  kr ((V.nth (r8.drop 2) 0).toInt,(V.nth (r9.drop 2) 0).toInt,(V.nth r8 0).toInt,(V.nth (r8.drop 1) 0).toInt,(V.nth r9 0).toInt,(V.nth (r9.drop 1) 0).toInt,(V.nth (r8.drop 3) 0).toList,(V.nth ((r8.drop 3).drop 1) 0).toList,(V.nth (r9.drop 3) 0).toList,(V.nth ((r9.drop 3).drop 1) 0).toList)
  else
  kr ((V.nth (r8.drop 2) 0).toInt,g,(V.nth r8 0).toInt,(V.nth (r8.drop 1) 0).toInt,oT,oU,(V.nth (r8.drop 3) 0).toList,(V.nth ((r8.drop 3).drop 1) 0).toList,bE,br)
 else
  y8 C g ok t23 ((t23:Int)==3) aM aT aY aX y9 za oT oU cz bI bE br (un fun (atw:Int)=>un fun (atx:Int)=>un fun (aty:Int)=>un fun (atz:Int)=>un fun (atA:Int)=>un fun (atB:Int)=>un fun (Fp:LV)=>un fun (ES:LV)=>un fun (Ss:LV) (atC:LV)=>
   kr (atw,atx,aty,atz,atA,atB,Fp,ES,Ss,atC))
noncomputable def uA (C:ab) (g ok t23:Int) (t50:Bool) (aM aT:Int) (aY aX:LV) (y9 za oT oU:Int) (cz bI bE br:LV) {β:Type} (kr:(Int × Int × Int × Int × Int × Int × LV × LV × LV × LV)→Option β):Option β:=
 bif t50 then
  (C DF [V.int .i64 aM,V.int .i64 aT,.list au aY,.list ax aX]).bind fun r6=>
  bif (ok:Int)==0 then
  (C Jq [V.int .i64 aM,V.int .i64 aT,.list au aY,.list ax aX]).bind fun r7=>
  kr ((V.nth (r6.drop 2) 0).toInt,(V.nth (r7.drop 2) 0).toInt,(V.nth r6 0).toInt,(V.nth (r6.drop 1) 0).toInt,(V.nth r7 0).toInt,(V.nth (r7.drop 1) 0).toInt,(V.nth (r6.drop 3) 0).toList,(V.nth ((r6.drop 3).drop 1) 0).toList,(V.nth (r7.drop 3) 0).toList,(V.nth ((r7.drop 3).drop 1) 0).toList)
  else
  kr ((V.nth (r6.drop 2) 0).toInt,g,(V.nth r6 0).toInt,(V.nth (r6.drop 1) 0).toInt,oT,oU,(V.nth (r6.drop 3) 0).toList,(V.nth ((r6.drop 3).drop 1) 0).toList,bE,br)
 else
  we C g ok t23 ((t23:Int)==2) aM aT aY aX y9 za oT oU cz bI bE br (un fun (atD:Int)=>un fun (atE:Int)=>un fun (atF:Int)=>un fun (atG:Int)=>un fun (atH:Int)=>un fun (atI:Int)=>un fun (Su:LV)=>un fun (AR:LV)=>un fun (KM:LV) (yf:LV)=>
   kr (atD,atE,atF,atG,atH,atI,Su,AR,KM,yf))
noncomputable def oV (C:ab) (g ok t23:Int) (t36:Bool) (aM aT:Int) (aY aX:LV) (y9 za oT oU:Int) (cz bI bE br:LV) {β:Type} (kr:(Int × Int × Int × Int × Int × Int × LV × LV × LV × LV)→Option β):Option β:=
 bif t36 then
  (C DE [V.int .i64 aM,V.int .i64 aT,.list au aY,.list ax aX]).bind fun r4=>
  bif (ok:Int)==0 then
  (C Jp [V.int .i64 aM,V.int .i64 aT,.list au aY,.list ax aX]).bind fun r5=>
  kr ((V.nth (r4.drop 2) 0).toInt,(V.nth (r5.drop 2) 0).toInt,(V.nth r4 0).toInt,(V.nth (r4.drop 1) 0).toInt,(V.nth r5 0).toInt,(V.nth (r5.drop 1) 0).toInt,(V.nth (r4.drop 3) 0).toList,(V.nth ((r4.drop 3).drop 1) 0).toList,(V.nth (r5.drop 3) 0).toList,(V.nth ((r5.drop 3).drop 1) 0).toList)
  else
  kr ((V.nth (r4.drop 2) 0).toInt,g,(V.nth r4 0).toInt,(V.nth (r4.drop 1) 0).toInt,oT,oU,(V.nth (r4.drop 3) 0).toList,(V.nth ((r4.drop 3).drop 1) 0).toList,bE,br)
 else
  uA C g ok t23 ((t23:Int)==1) aM aT aY aX y9 za oT oU cz bI bE br (un fun (atJ:Int)=>un fun (atK:Int)=>un fun (atL:Int)=>un fun (atM:Int)=>un fun (atN:Int)=>un fun (atO:Int)=>un fun (atP:LV)=>un fun (atQ:LV)=>un fun (atS:LV) (atT:LV)=>
   kr (atJ,atK,atL,atM,atN,atO,atP,atQ,atS,atT))
noncomputable def BG (C:ab) (f g ok:Int) (t107:Bool) (y9 za oT oU:Int) (di cz bI bE:LV) {β:Type} (kr:(Int)→Option β):Option β:=
 bif t107 then
  kr ok
 else
  kr g
noncomputable def Hh (C:ab):bR:=fS 1263 Pn [[0,0,2,0,0,0,0,0,0,0,0]] (@y8 C) (fS 1039 Po [[0,0,2,0,0,0,0,0,0,0,0]] (@we C) (fS 815 Pp [[0,0,2,0,0,0,0,0,0,0,0]] (@uA C) (fS 591 Pq [[0,0,2,0,0,0,0,0,0,0,0]] (@oV C) (fS 1727 Pr [[1,0,5,6,7,8,9,10,11,12]] (@BG C) bw))))
theorem atU (C:ab):aQ C (Hh C) 3 (Cd 78 [1,1,1,1,1,0,1,0,1,1,1,1,1,1,1,0] [1,1,1,1,1,0,1,0,1,1,1,1,1,1,1,1] 3):=fR Pn [[0,0,2,0,0,0,0,0,0,0,0]] (@y8 C) (aA ak) (aA ak)
theorem atV (C:ab):aQ C (Hh C) 3 (Cd 64 [1,1,1,1,1,0,1,0,1,1,1,1,1,0] [1,1,1,1,1,0,1,0,1,1,1,1,1,1] 3):=fR Po [[0,0,2,0,0,0,0,0,0,0,0]] (@we C) (aA ak) (aA (aO (atU C) ak))
theorem atW (C:ab):aQ C (Hh C) 3 (Cd 50 [1,1,1,1,1,0,1,0,1,1,1,0] [1,1,1,1,1,0,1,0,1,1,1,1] 3):=fR Pp [[0,0,2,0,0,0,0,0,0,0,0]] (@uA C) (aA ak) (aA (aO (atV C) ak))
theorem atX (C:ab):aQ C (Hh C) 3 (Cd 36 [1,1,1,1,1,0,1,0,1,0] [1,1,1,1,1,0,1,0,1,1] 3):=fR Pq [[0,0,2,0,0,0,0,0,0,0,0]] (@oV C) (aA ak) (aA (aO (atW C) ak))
theorem atY (C:ab):aQ C (Hh C) 3 (Cd 107 [1,1,1,1,1,1,0,1,0] [1,1,1,1,1,1,0,1,1] 3):=fR Pr [[1,0,5,6,7,8,9,10,11,12]] (@BG C) (aA ak) (aA ak)
noncomputable def ae9 (C:ab) (aB aC:Int) (av aF:LV) (sI:Int):Option LV:=
 (C xB [V.int .i64 aB,V.int .i64 aC,.list au av,.list ax aF]).bind fun r1=>
 bif (((V.nth r1 0).toInt):Int)==0 then
  bif decide (((av.length:Int):Int)>6) then
  (C Ar []).bind fun r2=>
  some [.bool ((V.nth r2 0).toBool)]
  else
  (C xB [V.int .i64 aB,V.int .i64 aC,.list au av,.list ax aF]).bind fun r3=>
  oV C 0 ((V.nth r3 0).toInt) (Int.tmod sI 6) (((Int.tmod sI 6):Int)==0) aB aC av aF 0 0 0 0 ([]:LV) ([]:LV) ([]:LV) ([]:LV) (un fun (afa:Int)=>un fun (atZ:Int)=>un fun (afb:Int)=>un fun (afc:Int)=>un fun (afd:Int)=>un fun (afe:Int)=>un fun (aff:LV)=>un fun (afg:LV)=>un fun (afh:LV) (afi:LV)=>
   BG C afa atZ ((V.nth r3 0).toInt) ((((V.nth r3 0).toInt):Int) != 0) afb afc afd afe aff afg afh afi (fun (at0:Int)=>
    (C DI [V.int .i64 afb,V.int .i64 afc,.list au aff,.list ax afg,V.int .i64 afa,V.int .i64 afd,V.int .i64 afe,.list au afh,.list ax afi,V.int .i64 at0]).bind fun r57=>
    bif (V.nth r57 0).toBool then
     (C Ar []).bind fun r58=>
     some [.bool ((V.nth r58 0).toBool)]
    else
     some [.bool false]))
 else
  (C xB [V.int .i64 aB,V.int .i64 aC,.list au av,.list ax aF]).bind fun U6=>
  oV C 0 ((V.nth U6 0).toInt) (Int.tmod sI 6) (((Int.tmod sI 6):Int)==0) aB aC av aF 0 0 0 0 ([]:LV) ([]:LV) ([]:LV) ([]:LV) (un fun (afj:Int)=>un fun (at1:Int)=>un fun (afk:Int)=>un fun (afl:Int)=>un fun (afm:Int)=>un fun (afn:Int)=>un fun (afo:LV)=>un fun (afp:LV)=>un fun (afq:LV) (afr:LV)=>
   BG C afj at1 ((V.nth U6 0).toInt) ((((V.nth U6 0).toInt):Int) != 0) afk afl afm afn afo afp afq afr (fun (at2:Int)=>
    (C DI [V.int .i64 afk,V.int .i64 afl,.list au afo,.list ax afp,V.int .i64 afj,V.int .i64 afm,V.int .i64 afn,.list au afq,.list ax afr,V.int .i64 at2]).bind fun r71=>
    bif (V.nth r71 0).toBool then
    (C Ar []).bind fun r72=>
    some [.bool ((V.nth r72 0).toBool)]
    else
    some [.bool false]))
theorem at3 {aB aC:Int} {av aF:LV} {sI:Int} {r:Option LV} (h:ae9 CC aB aC av aF sI=r):CC O2 [V.int .i64 aB,V.int .i64 aC,.list au av,.list ax aF,V.int .i64 sI]=r:=bu (aO (atX CC) (aO (atY CC) ak)) h
end Go.AM
set_option maxRecDepth 100000
set_option maxHeartbeats 1000000
namespace Go.AM
open Go.Proofs
abbrev U7:Type:=Int × Int × Int × Int × Int × Int × List V × List V × List V × List V
def unR (X:Da) (e:Int):U7:=(e,e,(X.L:Int),(X.st:Int),(X.L:Int),(X.st:Int),X.cG,X.cd,X.cG,X.cd)
theorem at4 {a:Da} (h:a.Ok) (hs:(minD a).n+1≤64) (t:Int): ∃(X:Da) (e:Int),CC tL (fY X (cY X))=some [.bool true]∧
  ∀(β:Type) (kr:U7→Option β),oV CC 0 0 t (t==0) (a.L:Int) (a.st:Int) a.cG a.cd 0 0 0 0 [] [] [] [] kr=kr (unR X e):=by
 have hm:=mX h
 have mY:(minD a).n≤64:=by omega
 by_cases h0:t=0
 ·have hq:=BD (Ut hm hs)
  refine ⟨dC (y4 (minD a)) a.L ((minD a).n+1),fy (y4 (minD a)) a.L ((minD a).n+1),by rw[hY h] at hq;unfold y4;rw[hY h];exact hq,fun β kr=> ?_⟩
  unfold oV
  refine bT (nc.2 h0) ?_
  refine bs (aqX h hs) (bT rfl ?_)
  refine bs (atf h hs) ?_
  rfl
 by_cases h1:t=1
 ·have hq:=BD (Uu hm mY)
  refine ⟨dC (rl (minD a)) a.L (minD a).n,fy (rl (minD a)) a.L (minD a).n,by rw[hY h] at hq;unfold rl;rw[hY h];exact hq,fun β kr=> ?_⟩
  unfold oV
  refine bF (gu.2 h0) ?_
  unfold uA
  refine bT (nc.2 h1) ?_
  refine bs (asN h mY) (bT rfl ?_)
  refine bs (ate h mY) ?_
  rfl
 by_cases h2:t=2
 ·have hq:=BD (Mk hm mY (f:=(minD a).fin))
  refine ⟨dC (n9 (minD a) (minD a).fin) a.L (minD a).n,fy (n9 (minD a) (minD a).fin) a.L (minD a).n,by rw[hY h] at hq;unfold n9;rw[hY h];exact hq,fun β kr=> ?_⟩
  have hf:=aex hm mY (f:=(minD a).fin)
  rw[hY h] at hf
  unfold oV
  refine bF (gu.2 h0) ?_
  unfold uA
  refine bF (gu.2 h1) ?_
  unfold we
  refine bT (nc.2 h2) ?_
  refine bs (aq5 h hf) (bT rfl ?_)
  refine bs (ath h mY) ?_
  rfl
 by_cases h3:t=3
 ·have hq:=BD (Mk hm mY (f:=(minD a).fp))
  refine ⟨dC (n9 (minD a) (minD a).fp) a.L (minD a).n,fy (n9 (minD a) (minD a).fp) a.L (minD a).n,by rw[hY h] at hq;unfold n9;rw[hY h];exact hq,fun β kr=> ?_⟩
  have hf:=aex hm mY (f:=(minD a).fp)
  rw[hY h] at hf
  unfold oV
  refine bF (gu.2 h0) ?_
  unfold uA
  refine bF (gu.2 h1) ?_
  unfold we
  refine bF (gu.2 h2) ?_
  unfold y8
  refine bT (nc.2 h3) ?_
  refine bs (aq6 h hf) (bT rfl ?_)
  refine bs (ati h mY) ?_
  rfl
 by_cases h4:t=4
 ·have hq:=BD (GH hm mY)
  refine ⟨dC (p6 (minD a)) (minD a).L (minD a).n,fy (p6 (minD a)) (minD a).L (minD a).n,hq,fun β kr=> ?_⟩
  unfold oV
  refine bF (gu.2 h0) ?_
  unfold uA
  refine bF (gu.2 h1) ?_
  unfold we
  refine bF (gu.2 h2) ?_
  unfold y8
  refine bF (gu.2 h3) ?_
  refine bT (nc.2 h4) ?_
  refine bs (aqP h mY) (bT rfl ?_)
  refine bs (atg h mY) ?_
  rfl
 ·have hq:=BD (UM hm mY)
  refine ⟨dC (rv (minD a)) a.L (minD a).n,fy (rv (minD a)) a.L (minD a).n,by rw[hY h] at hq;unfold rv;rw[hY h];exact hq,fun β kr=> ?_⟩
  unfold oV
  refine bF (gu.2 h0) ?_
  unfold uA
  refine bF (gu.2 h1) ?_
  unfold we
  refine bF (gu.2 h2) ?_
  unfold y8
  refine bF (gu.2 h3) ?_
  refine bF (gu.2 h4) ?_
  refine bs (arO h mY) (bT rfl ?_)
  refine bs (atk h mY) ?_
  rfl
section
variable {d:Df} (hd:d.Ok) (hv:d.val≠0)
include hd hv
theorem at5 (t:Int) (β:Type) (kr:U7→Option β):oV CC 0 d.val t (t==0) d.L d.st (d.F.map V.bool) (d.N.map ma) 0 0 0 0 [] [] [] [] kr=kr (d.val,0,0,0,0,0,[],[],[],[]):=by
 have hz:(d.val==0)=false:=gu.2 hv
 unfold oV
 by_cases h0:t=0
 ·refine bT (nc.2 h0) ?_
  refine bs (aqY hd hv) (bF hz ?_)
  rfl
 refine bF (gu.2 h0) ?_
 unfold uA
 by_cases h1:t=1
 ·refine bT (nc.2 h1) ?_
  refine bs (asO hd hv) (bF hz ?_)
  rfl
 refine bF (gu.2 h1) ?_
 unfold we
 by_cases h2:t=2
 ·refine bT (nc.2 h2) ?_
  refine bs (aq7 hd hv) (bF hz ?_)
  rfl
 refine bF (gu.2 h2) ?_
 unfold y8
 by_cases h3:t=3
 ·refine bT (nc.2 h3) ?_
  refine bs (aq8 hd hv) (bF hz ?_)
  rfl
 refine bF (gu.2 h3) ?_
 by_cases h4:t=4
 ·refine bT (nc.2 h4) ?_
  refine bs (aq9 hd hv) (bF hz ?_)
  rfl
 refine bF (gu.2 h4) ?_
 refine bs (arP hd hv) (bF hz ?_)
 rfl
end
theorem afv (d:Df) (hd:d.Ok) (sI:Int):CC O2 (lx d [.int .i64 sI])=some [.bool true]:=by
 have hV:CC xB (lx d [])=some [.int .i64 d.val]:=akJ hd
 refine at3 ?_
 unfold ae9
 refine bs hV ?_
 by_cases hv:d.val=0
 ·refine bT (nc.2 hv) ?_
  by_cases h6:6<d.F.length
  ·refine bT (b7 (by rw[bX];omega)) ?_
   exact bs U5 rfl
  refine bF (eB (by rw[bX];omega)) ?_
  refine bs hV ?_
  obtain ⟨a,ha,rfl⟩:=akK hv
  have n1:a.n≤6:=by have:a.df.F.length=a.n:=rfl;omega
  have n3:=aei ha
  obtain ⟨X,e,hX,hk⟩:=at4 ha (by omega) (Int.tmod sI 6)
  have hl:=ha.leaves []
  simp only[V.bZ,V.toInt_int]
  rw[hv]
  unfold lx fY at hl
  simp only[zf,V.int.injEq,V.list.injEq,true_and,and_true] at hl
  obtain ⟨e1,e2,e3,e4⟩:=hl
  rw[e1,e2,e3,e4]
  refine (hk _ _).trans ?_
  simp only[unR,un]
  unfold BG
  refine bF rfl ?_
  refine bs (aek hX e) (bT rfl ?_)
  exact bs U5 rfl
 ·refine bF (gu.2 hv) ?_
  refine bs hV ?_
  refine (at5 hd hv _ _ _).trans ?_
  simp only[un]
  unfold BG
  refine bT (bne_iff_ne.2 hv) ?_
  refine bs (aek adR d.val) (bT rfl ?_)
  exact bs U5 rfl
end Go.AM
set_option maxRecDepth 100000
namespace Go.AM
theorem WT.Hi {P:Program} {t:TypeId} {x:V} (hu:P.underlying t=some (.int .i64)) (h:WT P t x): ∃n:Int,x= .int .i64 n∧ -9223372036854775808≤n∧n≤9223372036854775807:=by
 obtain ⟨n,rfl,h1,h2⟩:=h.fa hu
 have e1:IntKind.min .i64= -9223372036854775808:=by decide
 have e2:IntKind.max .i64=9223372036854775807:=by decide
 rw[e1] at h1
 rw[e2] at h2
 exact ⟨n,rfl,h1,h2⟩
theorem WT.NU {P:Program} {t:TypeId} {x:V} (hu:P.underlying t=some (.int .u8)) (h:WT P t x): ∃n:Int,x= .int .u8 n∧0≤n∧n≤255:=by
 obtain ⟨n,rfl,h1,h2⟩:=h.fa hu
 have e1:IntKind.min .u8=0:=by decide
 have e2:IntKind.max .u8=255:=by decide
 rw[e1] at h1
 rw[e2] at h2
 exact ⟨n,rfl,h1,h2⟩
end Go.AM
set_option maxRecDepth 100000
namespace Go.AM
open Go.Proofs
theorem at6 {α:Type} {l:List α} (h:l.length=4): ∃a b c d,l=[a,b,c,d]:=by
 match l,h with
 | [a,b,c,d],_=>exact ⟨a,b,c,d,rfl⟩
theorem at7 {x:V} (h:iT Tryz.prog ax x): ∃r:List Int,x=ma r∧(r.length≤maxLen∧∀q∈r,-9223372036854775808≤q∧q≤9223372036854775807):=by
 have hu:Tryz.prog.underlying ax=some (.slice bJ):=by kernel_rfl
 have hi:Tryz.prog.underlying bJ=some (.int .i64):=by kernel_rfl
 obtain ⟨es,rfl,e1,e2⟩:=WT.OP hu (iT.one (by kernel_rfl) h)
 obtain ⟨r,rfl,hr⟩:=OQ (f:=iV) (p:=fun q=> -9223372036854775808≤q∧q≤9223372036854775807) fun y hy=>WT.Hi hi (iT.one (by kernel_rfl) (e2 y hy))
 exact ⟨r,rfl,by simpa using e1,hr⟩
def Df.enc (d:Df):V:= .agg (lx d [])
theorem afu {t:TypeId} {x:V} (ha:cb Tryz.prog t=true) (he:bC Tryz.prog t=[bJ,bJ,O3,O4]) (h:iT Tryz.prog t x): ∃d:Df,x=d.enc∧d.Ok:=by
 obtain ⟨xs,rfl,hl,hx⟩:=iT.my ha h
 rw[he] at hl
 obtain ⟨a,b,c,d,rfl⟩:=at6 hl
 have hu:Tryz.prog.underlying bJ=some (.int .i64):=by kernel_rfl
 have hb:Tryz.prog.underlying au=some .bool:=by kernel_rfl
 have hv:Tryz.prog.underlying O3=some (.slice au):=by kernel_rfl
 have hw:Tryz.prog.underlying O4=some (.slice ax):=by kernel_rfl
 obtain ⟨L,rfl,l1,l2⟩:=WT.Hi hu (hx 0 bJ a (by rw[he];rfl) rfl)
 obtain ⟨S,rfl,s1,s2⟩:=WT.Hi hu (hx 1 bJ b (by rw[he];rfl) rfl)
 obtain ⟨fs,rfl,f1,f2⟩:=WT.OP hv (hx 2 O3 c (by rw[he];rfl) rfl)
 obtain ⟨ns,rfl,n1,n2⟩:=WT.OP hw (hx 3 O4 d (by rw[he];rfl) rfl)
 obtain ⟨F,rfl⟩:=Yp (f:=V.bool) fun y hy=>WT.kW hb (iT.one (by kernel_rfl) (f2 y hy))
 obtain ⟨N,rfl,hN⟩:=OQ (f:=ma) fun y hy=>at7 (n2 y hy)
 exact ⟨⟨L,S,F,N⟩,rfl,l1,l2,s1,s2,by simpa using f1,by simpa using n1,hN⟩
end Go.AM
