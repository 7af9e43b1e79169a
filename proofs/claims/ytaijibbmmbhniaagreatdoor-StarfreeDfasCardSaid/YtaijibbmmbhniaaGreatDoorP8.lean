/-
  Functions of the program, lifted to plain data.
-/
import Derived.Test.YtaijibbmmbhniaaGreatDoorP7
set_option linter.unusedVariables false
set_option linter.unusedSimpArgs false
set_option linter.unusedSectionVars false
set_option maxRecDepth 100000
namespace Go.AM
open Go.IntKind (wrap)
open Go.Proofs
theorem awH {p x q L S:Nat} (hp:p<S) (hx:x<L) (hq:q<S):(gH p x q).In (L:Int) (S:Int):=by unfold Ed.In gH;simp only;omega
theorem aij {a:Da} (h:a.Ok) {off S:Nat} (hs:a.n+off≤S) {e:Ed} (he:e∈eH a off):e.In (a.L:Int) (S:Int):=by
 obtain ⟨p,x,hp,hx,rfl⟩:=yr.1 he;have:=h.fL hp hx;exact awH (by omega) hx (by omega)
section
variable {a:Da} (h:a.Ok)
include h
end
def yu (m k:Da):List Ed:=(eH m 0++eH k m.n)++oY m.n m.fin (m.n+k.st) (eH m 0++eH k m.n)
def wG (m k:Da):Nat:=if m.fin m.st=true then 2^m.st|||2^(m.n+k.st) else 2^m.st
def DS (m k:Da):Nat:=ic 0 k.fin m.n k.n
def mc (m k:Da):Nf:=dZ m.L (m.n+k.n) (wG m k) (DS m k) (yu m k)
theorem awI {L S:Nat} {e:Ed} (h:e.In (L:Int) (S:Int)):0≤e.f∧0≤e.l∧0≤e.t:=by unfold Ed.In at h;omega
section
variable {m k:Da} (hm:m.Ok) (hk:k.Ok) (hL:m.L=k.L)
include hm hk hL
theorem Yl {e:Ed} (he:e∈eH m 0++eH k m.n):e.In (m.L:Int) ((m.n+k.n:Nat):Int):=by
 rcases eW.1 he with he|he
 ·exact aij hm (by omega) he
 ·rw[hL];exact aij hk (by omega) he
theorem aik {e:Ed} (he:e∈yu m k):e.In (m.L:Int) ((m.n+k.n:Nat):Int):=by
 rcases eW.1 he with he|he
 ·exact Yl hm hk hL he
 ·obtain ⟨e',h1,h2,h3,rfl⟩:=aih.1 he;have:=Yl hm hk hL h1;have:=hk.s;unfold Ed.In at*
  simp only;omega
theorem PF (hs:m.n+k.n≤64):A0 m.L (m.n+k.n) (wG m k) (DS m k) (yu m k) where
 l1:=hm.l1
 l6:=hm.l6
 uP:=hs
 st:=by
  have h1:=hm.s;have h2:=hk.s;unfold wG;split
  ·exact yL (mU (by omega) (by omega)) (mU (by omega) (by omega))
  ·exact mU (by omega) (by omega)
 fin:=JJ (Nat.two_pow_pos _) (by omega)
 E:=fun e he=>aik hm hk hL he
 len:=by
  have h1:=uU hm (off:=0) (n:=m.n);have h2:=uU hk (off:=m.n) (n:=k.n);have h3:=Yj (l:=eH m 0++eH k m.n) (n:=m.n) (to:=m.n+k.st) (f:=m.fin);unfold yu;rw[dd];rw[dd] at*
  unfold eH at*
  omega
end
theorem ail {f:Nat→Bool} {off n j:Nat}:(ic 0 f off n).testBit j=true↔off≤j∧j<n+off∧f (j-off)=true:=by
 rw[Yi,Nat.zero_testBit,Bool.false_or,aK,fl,and_assoc]
section
variable {m k:Da} (hm:m.Ok) (hk:k.Ok) (hL:m.L=k.L)
include hm hk hL
end
noncomputable def PH (C:ae) (offset:Int) (t66:Bool) (tn tp azK awJ bn aY bh aS:Int) (bC bQ cx bJ cd:LV) {β:Type} (kr:(Int×Int×Int×Int×LV)→Option β):Option β:=
 bif t66 then
  (C Gj [V.int .i64 (wrap .i64 (offset+awJ)),V.int .i64 bn,V.int .i64 aY,.int .u64 bh,.int .u64 aS,.list bt cd]).bind fun r8=>
  kr ((V.nth r8 0).toInt,(V.nth (r8.drop 1) 0).toInt,(V.nth ((r8.drop 1).drop 1) 0).toInt,(V.nth (((r8.drop 1).drop 1).drop 1) 0).toInt,(V.nth (r8.drop 4) 0).toList)
 else
  kr (bn,aY,bh,aS,cd)
noncomputable def awK (C:ae):cE:=gG 1071 Ut [[1,3,4,5,6,0,0,0,0,11,12,13,14,0]] (@PH C) bm
theorem awL (C:ae):aW C (awK C) 56 (Cd 66 [1,1,1,1,1,1,1,1,1,1,0,1,0] [1,1,1,1,1,1,1,1,1,1,0,1,1] 56):=gF Ut [[1,3,4,5,6,0,0,0,0,11,12,13,14,0]] (@PH C) (aG an) (aG an)
noncomputable def Ym (C:ae) (aO bR:Int) (dc dB:LV) (dv dt:Int) (dG dV:LV):Option LV:=
 (C Gf [V.int .i64 aO,V.int .i64 bR,.list ao dc,.list ar dB,V.int .i64 dv,V.int .i64 dt,.list ao dG,.list ar dV]).bind fun r1=>
 bif (((V.nth ((r1.drop 2).drop 2) 0).toInt):Int) != 0 then
  some [V.int .i64 0,V.int .i64 0,V.int .i64 ((V.nth ((r1.drop 2).drop 2) 0).toInt),.list ao ([]:LV),.list ar ([]:LV)]
 else
  (C Gh [V.int .i64 aO,V.int .i64 (wrap .i64 ((((V.nth (r1.drop 5) 0).toList).length:Int)+(((V.nth (((r1.drop 5).drop 1).drop 1) 0).toList).length:Int)))]).bind fun r2=>
  bif (V.nth r2 0).toBool then
  some [V.int .i64 0,V.int .i64 0,V.int .i64 3,.list ao ([]:LV),.list ar ([]:LV)]
  else
  (C Gi [V.int .i64 ((V.nth r1 0).toInt),V.int .i64 ((V.nth (r1.drop 1) 0).toInt),.list ao ((V.nth (r1.drop 5) 0).toList),.list ar ((V.nth ((r1.drop 5).drop 1) 0).toList),V.int .i64 0,V.int .i64 ((V.nth (r2.drop 1) 0).toInt),V.int .i64 ((V.nth ((r2.drop 1).drop 1) 0).toInt),.int .u64 ((V.nth (((r2.drop 1).drop 1).drop 1) 0).toInt),.int .u64 ((V.nth ((((r2.drop 1).drop 1).drop 1).drop 1) 0).toInt),.list bt ((V.nth ((r2.drop 1).drop 4) 0).toList)]).bind fun r3=>
  (C Gi [V.int .i64 ((V.nth (r1.drop 2) 0).toInt),V.int .i64 ((V.nth ((r1.drop 2).drop 1) 0).toInt),.list ao ((V.nth (((r1.drop 5).drop 1).drop 1) 0).toList),.list ar ((V.nth ((((r1.drop 5).drop 1).drop 1).drop 1) 0).toList),V.int .i64 (((V.nth (r1.drop 5) 0).toList).length:Int),V.int .i64 ((V.nth r3 0).toInt),V.int .i64 ((V.nth (r3.drop 1) 0).toInt),.int .u64 ((V.nth ((r3.drop 1).drop 1) 0).toInt),.int .u64 ((V.nth (((r3.drop 1).drop 1).drop 1) 0).toInt),.list bt ((V.nth (r3.drop 4) 0).toList)]).bind fun r4=>
  (C MO [.list ao ((V.nth (r1.drop 5) 0).toList),V.int .i64 (wrap .i64 ((((V.nth (r1.drop 5) 0).toList).length:Int)+((V.nth ((r1.drop 2).drop 1) 0).toInt))),V.int .i64 ((V.nth r4 0).toInt),V.int .i64 ((V.nth (r4.drop 1) 0).toInt),.int .u64 ((V.nth ((r4.drop 1).drop 1) 0).toInt),.int .u64 ((V.nth (((r4.drop 1).drop 1).drop 1) 0).toInt),.list bt ((V.nth (r4.drop 4) 0).toList)]).bind fun r5=>
  (C Gj [V.int .i64 ((V.nth (r1.drop 1) 0).toInt),V.int .i64 ((V.nth r5 0).toInt),V.int .i64 ((V.nth (r5.drop 1) 0).toInt),.int .u64 ((V.nth ((r5.drop 1).drop 1) 0).toInt),.int .u64 ((V.nth (((r5.drop 1).drop 1).drop 1) 0).toInt),.list bt ((V.nth (r5.drop 4) 0).toList)]).bind fun r6=>
  aq ((V.nth (r1.drop 5) 0).toList) ((V.nth (r1.drop 1) 0).toInt) fun x7=>
  PH C (((V.nth (r1.drop 5) 0).toList).length:Int) x7.toBool 0 0 ((V.nth (r1.drop 2) 0).toInt) ((V.nth ((r1.drop 2).drop 1) 0).toInt) ((V.nth r6 0).toInt) ((V.nth (r6.drop 1) 0).toInt) ((V.nth ((r6.drop 1).drop 1) 0).toInt) ((V.nth (((r6.drop 1).drop 1).drop 1) 0).toInt) ([]:LV) ([]:LV) ((V.nth (((r1.drop 5).drop 1).drop 1) 0).toList) ((V.nth ((((r1.drop 5).drop 1).drop 1).drop 1) 0).toList) ((V.nth (r6.drop 4) 0).toList) (un fun JG=>un fun awM=>un fun awN=>un fun (Yg:Int) (xY:LV)=>
   (C Gk [.list ao ((V.nth (((r1.drop 5).drop 1).drop 1) 0).toList),V.int .i64 (((V.nth (r1.drop 5) 0).toList).length:Int),V.int .i64 JG,V.int .i64 awM,.int .u64 awN,.int .u64 Yg,.list bt xY]).bind fun tq=>
   (C Gl [V.int .i64 ((V.nth tq 0).toInt),V.int .i64 ((V.nth (tq.drop 1) 0).toInt),.int .u64 ((V.nth ((tq.drop 1).drop 1) 0).toInt),.int .u64 ((V.nth (((tq.drop 1).drop 1).drop 1) 0).toInt),.list bt ((V.nth (tq.drop 4) 0).toList)]).bind fun fx=>
   some [V.int .i64 ((V.nth fx 0).toInt),V.int .i64 ((V.nth (fx.drop 1) 0).toInt),V.int .i64 ((V.nth (fx.drop 2) 0).toInt),.list ao ((V.nth ((fx.drop 3).drop 5) 0).toList),.list ar ((V.nth (((fx.drop 3).drop 5).drop 1) 0).toList)])
theorem aim {aO bR:Int} {dc dB:LV} {dv dt:Int} {dG dV:LV} {r:Option LV} (h:Ym CC aO bR dc dB dv dt dG dV=r):CC Ga [V.int .i64 aO,V.int .i64 bR,.list ao dc,.list ar dB,V.int .i64 dv,V.int .i64 dt,.list ao dG,.list ar dV]=r:=bj (aU (awL CC) an) h
section
variable {a b:Da} (ha:a.Ok) (hb:b.Ok) (hL:a.L=b.L)
include ha hb hL
theorem awO (hs:(minD a).n+(minD b).n≤64):CC Ga (dN a (dh b))=some (lW (iz (mc (minD a) (minD b)) a.L ((minD a).n+(minD b).n)) (mO (mc (minD a) (minD b)) a.L ((minD a).n+(minD b).n))):=by
 have hm:=fc ha;have hk:=fc hb;have yv:=oo ha;have Yn:=oo hb;have iI:(minD a).L=(minD b).L:=by rw[yv,Yn,hL]
 have b9:=hm.s;have hsk:=hk.s;have hr:=av9 (PF hm hk iI hs);have l1:=uU hm (off:=0) (n:=(minD a).n);have l2:=uU hk (off:=(minD a).n) (n:=(minD b).n);refine aim ?_;unfold Ym aq;refine bs (O4 ha hb hL) (bF rfl ?_);have e0:(V.nth ((AE (minD a) (minD b) 0).drop 5) 0).toList=(minD a).bI:=rfl;have e1:(V.nth ((((AE (minD a) (minD b) 0).drop 5).drop 1).drop 1) 0).toList=(minD b).bI:=rfl;have e2:(V.nth (((AE (minD a) (minD b) 0).drop 2).drop 1) 0).toInt=((minD b).st:Int):=rfl;have e3:(V.nth ((AE (minD a) (minD b) 0).drop 1) 0).toInt=((minD a).st:Int):=rfl;rw[e0,e1,e2,e3,Da.pJ,Da.pJ,qK (by omega),qK (by omega)];refine bs (awv hs) (bF rfl ?_);refine bs (aif (l:=[]) hm (off:=0) (by omega) (by simp)) ?_;rw[List.nil_append];refine bs (aif hk (off:=(minD a).n) (by omega) (by unfold eH;omega)) ?_;refine bs (awz (n:=(minD a).n) (f:=(minD a).fin) (fun e he=>awI (Yl hm hk iI he)) (by rw[dd];unfold eH;omega) (by omega)) ?_;refine bs (aie (q:=(minD a).st) (by omega) (by omega)) ?_;refine bT (VW b9) ?_;rw[Int.toNat_natCast];refine bs (wa b9) ?_;rw[yv] at hr;have fin: ∀(s:Nat),s=wG (minD a) (minD b)→s<2^64→((CC Gk [.list ao (minD b).bI,.int .i64 ((minD a).n:Int),.int .i64 (a.L:Int),.int .i64 (((minD a).n+(minD b).n:Nat):Int),.int .u64 (s:Int),.int .u64 ((0:Nat):Int),.list bt ((yu (minD a) (minD b)).map Ed.enc)]).bind fun tq=>
    (CC Gl [.int .i64 ((V.nth tq 0).toInt),.int .i64 ((V.nth (tq.drop 1) 0).toInt),.int .u64 ((V.nth ((tq.drop 1).drop 1) 0).toInt),.int .u64 ((V.nth (((tq.drop 1).drop 1).drop 1) 0).toInt),.list bt ((V.nth (tq.drop 4) 0).toList)]).bind fun fx=>
    some [.int .i64 ((V.nth fx 0).toInt),.int .i64 ((V.nth (fx.drop 1) 0).toInt),.int .i64 ((V.nth (fx.drop 2) 0).toInt),.list ao ((V.nth ((fx.drop 3).drop 5) 0).toList),.list ar ((V.nth (((fx.drop 3).drop 5).drop 1) 0).toList)])=some (lW (iz (mc (minD a) (minD b)) a.L ((minD a).n+(minD b).n)) (mO (mc (minD a) (minD b)) a.L ((minD a).n+(minD b).n))):=by
  rintro s rfl kF;refine bs (awx (n:=(minD b).n) (f:=(minD b).fin) (off:=(minD a).n) (by omega) (by omega)) ?_;refine bs hr ?_;show _=some (lW (iz (dZ (minD a).L _ _ _ _) a.L _) (mO (dZ (minD a).L _ _ _ _) a.L _));rw[yv];rfl
 have p1:(2:Nat)^(minD a).st<2^64:=mU (by omega) (by omega);have p2:(2:Nat)^((minD a).n+(minD b).st)<2^64:=mU (by omega) (by omega);unfold PH;rw[Nat.zero_or];cases hf:(minD a).fin (minD a).st with
 | true=>
  refine bT rfl ?_;rw[qK (by omega)];refine bs (aie (q:=(minD a).n+(minD b).st) (by omega) p1) ?_;exact fin _ (ah hf).symm (yL p1 p2)
 | false=>
  refine bF rfl ?_;exact fin _ (ag (by rw[hf];simp)).symm p1
theorem awP (hs:64<(minD a).n+(minD b).n):CC Ga (dN a (dh b))=some (lW zD 3):=by
 have h1:=(fc ha).cU;have h2:=(fc hb).cU;refine aim ?_;unfold Ym aq;refine bs (O4 ha hb hL) (bF rfl ?_);have e0:(V.nth ((AE (minD a) (minD b) 0).drop 5) 0).toList=(minD a).bI:=rfl;have e1:(V.nth ((((AE (minD a) (minD b) 0).drop 5).drop 1).drop 1) 0).toList=(minD b).bI:=rfl;rw[e0,e1,Da.pJ,Da.pJ,qK (by omega)];refine bs (aww hs) (bT rfl ?_);rfl
end
noncomputable def JL (C:ae) (k' q t35 t36:Int) (t43:LV) (t44 e9 fA hZ gz tn tp bn aY bh aS qD qE uW uX:Int) (cx bJ cd bS cM dO lV:LV) (t45:Int) (eu:LV) {β:Type} (kn:(Int×LV)→Option β) (kr:(Int×Bool×LV)→Option β):Option β:=
 bif decide (t45<t44) then
  (idx t43 t45).bind fun x6=>
  bif (decide (0≤x6.toInt))&&(decide (x6.toInt<(cx.length:Int))) then
  (cx[(x6.toInt:Int).toNat]?).bind fun x7=>
  bif x7.toBool then
   bif Nat.ble ((eu.length+([.agg [V.int .i64 q,V.int .i64 t45,V.int .i64 (wrap .i64 (k'+gz))]]:LV).length)*24) aX then
   kn (wrap .i64 (t45+1),eu++([.agg [V.int .i64 q,V.int .i64 t45,V.int .i64 (wrap .i64 (k'+gz))]]:LV))
   else none
  else
   kn (wrap .i64 (t45+1),eu)
  else none
 else
  kr (t45,decide (t45<t44),eu)
noncomputable def Yo (C:ae) (k' q t35 t36:Int) (t43:LV) (t44 e9 fA hZ gz tn tp bn aY bh aS qD qE uW uX:Int) (cx bJ cd bS cM dO lV:LV):=un fun t45 eu=>JL C k' q t35 t36 t43 t44 e9 fA hZ gz tn tp bn aY bh aS qD qE uW uX cx bJ cd bS cM dO lV t45 eu (fun y=>some (Sum.inl y)) (fun r=>some (Sum.inr r))
noncomputable def JM (C:ae) (k' t35 e9 fA hZ gz tn tp bn aY bh aS qD qE uW uX:Int) (cx bJ cd bS cM dO lV:LV) (t36:Int) (eu:LV) {β:Type} (kn:(Int×LV)→Option β) (kr:(Int×Bool×LV)→Option β):Option β:=
 bif decide (t36<t35) then
  aq bJ t36 fun x5=>
  (Loop (Yo C k' t36 t35 t36 x5.toList (x5.toList.length:Int) e9 fA hZ gz tn tp bn aY bh aS qD qE uW uX cx bJ cd bS cM dO lV) (0,eu)).bind (un fun oe=>un fun (rH:Bool) (uO:LV)=>
   kn (wrap .i64 (t36+1),uO))
 else
  kr (t36,decide (t36<t35),eu)
noncomputable def Yp (C:ae) (k' t35 e9 fA hZ gz tn tp bn aY bh aS qD qE uW uX:Int) (cx bJ cd bS cM dO lV:LV):=un fun t36 eu=>JM C k' t35 e9 fA hZ gz tn tp bn aY bh aS qD qE uW uX cx bJ cd bS cM dO lV t36 eu (fun y=>some (Sum.inl y)) (fun r=>some (Sum.inr r))
noncomputable def JN (C:ae) (k' t71 e9 fA hZ gz tn tp bn aY bh aS qD qE uW uX:Int) (Yq bJ cd bS cM dO eu:LV) (t72:Int) (lV:LV) {β:Type} (kn:(Int×LV)→Option β) (kr:(Int×Bool×LV)→Option β):Option β:=
 bif decide (t72<t71) then
  aq Yq t72 fun ko=>
  bif Nat.ble ((lV.length+([.agg [V.int .i64 (wrap .i64 (k'+((ko.cell 0).toInt))),V.int .i64 ((ko.cell 1).toInt),V.int .i64 (wrap .i64 (k'+((ko.cell 2).toInt)))]]:LV).length)*24) aX then
  kn (wrap .i64 (t72+1),lV++([.agg [V.int .i64 (wrap .i64 (k'+((ko.cell 0).toInt))),V.int .i64 ((ko.cell 1).toInt),V.int .i64 (wrap .i64 (k'+((ko.cell 2).toInt)))]]:LV))
  else none
 else
  kr (t72,decide (t72<t71),lV)
noncomputable def Yr (C:ae) (k' t71 e9 fA hZ gz tn tp bn aY bh aS qD qE uW uX:Int) (Yq bJ cd bS cM dO eu:LV):=un fun t72 lV=>JN C k' t71 e9 fA hZ gz tn tp bn aY bh aS qD qE uW uX Yq bJ cd bS cM dO eu t72 lV (fun y=>some (Sum.inl y)) (fun r=>some (Sum.inr r))
noncomputable def PJ (C:ae) (k':Int) (t98:Bool) (hZ gz tn tp bn aY bh aS qD qE uW uX:Int) (bQ cx bJ cd bS cM:LV) {β:Type} (kr:(Int)→Option β):Option β:=
 bif t98 then
  (C xD [V.int .i64 (wrap .i64 (k'+gz))]).bind fun gL=>
  kr (wrap .u64 ((BitVec.ofInt (IntKind.bits .u64) bh|||BitVec.ofInt (IntKind.bits .u64) ((V.nth gL 0).toInt)).toNat))
 else
  kr bh
noncomputable def PK (C:ae):cE:=bG 177 TM [EQ,EQ,EQ,EQ,EQ,EQ,H1,EQ,EQ,EQ,EQ,EQ,EQ,EQ,EQ,EQ,EQ,EQ,EQ,EQ,EQ,EQ,EQ,EQ,EQ,EQ,EQ,H1,EQ] [[1,2,3,4,5,6,0,0,8,9,10,11,12,13,14,15,16,17,18,19,20,21,22,23,24,25,26,27,0,29]] (@JL C) (bG 129 TN [EQ,EQ,H1,EQ,EQ,EQ,EQ,EQ,EQ,EQ,EQ,EQ,EQ,EQ,EQ,EQ,EQ,EQ,EQ,EQ,EQ,EQ,EQ,H1,EQ] [[1,2,0,0,4,5,6,7,8,9,10,11,12,13,14,15,16,17,18,19,20,21,22,23,0,25]] (@JM C) (bG 289 TO [EQ,EQ,H1,EQ,EQ,EQ,EQ,EQ,EQ,EQ,EQ,EQ,EQ,EQ,EQ,EQ,EQ,EQ,EQ,EQ,EQ,EQ,EQ,EQ,H1] [[1,2,0,0,4,5,6,7,8,9,10,11,12,13,14,15,16,17,18,19,20,21,22,23,24,0]] (@JN C) (gG 1583 TP [[1,5,6,7,8,0,10,11,12,13,14,17,18,19,20]] (@PJ C) bm)))
theorem awQ (C:ae):aW C (PK C) 15 (Lp [1,1,1,1,1,1,0,1,0,0,1,1,0,0,1,1,0,0] 15):=bE TM [EQ,EQ,EQ,EQ,EQ,EQ,H1,EQ,EQ,EQ,EQ,EQ,EQ,EQ,EQ,EQ,EQ,EQ,EQ,EQ,EQ,EQ,EQ,EQ,EQ,EQ,EQ,H1,EQ] [[1,2,3,4,5,6,0,0,8,9,10,11,12,13,14,15,16,17,18,19,20,21,22,23,24,25,26,27,0,29]] (@JL C) (aG an)
theorem awR (C:ae):aW C (PK C) 15 (Lp [1,1,1,1,1,1,0,1,0,0] 15):=bE TN [EQ,EQ,H1,EQ,EQ,EQ,EQ,EQ,EQ,EQ,EQ,EQ,EQ,EQ,EQ,EQ,EQ,EQ,EQ,EQ,EQ,EQ,EQ,H1,EQ] [[1,2,0,0,4,5,6,7,8,9,10,11,12,13,14,15,16,17,18,19,20,21,22,23,0,25]] (@JM C) (aG (aU (awQ C) an))
theorem awS (C:ae):aW C (PK C) 15 (Lp [1,1,1,1,1,1,1,0,1,0,0] 15):=bE TO [EQ,EQ,H1,EQ,EQ,EQ,EQ,EQ,EQ,EQ,EQ,EQ,EQ,EQ,EQ,EQ,EQ,EQ,EQ,EQ,EQ,EQ,EQ,EQ,H1] [[1,2,0,0,4,5,6,7,8,9,10,11,12,13,14,15,16,17,18,19,20,21,22,23,24,0]] (@JN C) (aG an)
theorem awT (C:ae):aW C (PK C) 15 (Cd 98 [1,1,1,1,1,1,1,1,0,1,0] [1,1,1,1,1,1,1,1,0,1,1] 15):=gF TP [[1,5,6,7,8,0,10,11,12,13,14,17,18,19,20]] (@PJ C) (aG an) (aG an)
noncomputable def Ys (C:ae) (aO bR:Int) (dc dB:LV) (dv dt:Int) (dG dV:LV):Option LV:=
 (C pB [V.int .i64 aO,V.int .i64 bR,.list ao dc,.list ar dB]).bind fun r1=>
 (C pB [V.int .i64 dv,V.int .i64 dt,.list ao dG,.list ar dV]).bind fun r2=>
 (C Ct [V.int .i64 ((V.nth r1 0).toInt),V.int .i64 ((V.nth (r1.drop 1) 0).toInt),.list ao ((V.nth (r1.drop 2) 0).toList),.list ar ((V.nth ((r1.drop 2).drop 1) 0).toList)]).bind fun r3=>
 (C Ct [V.int .i64 ((V.nth r2 0).toInt),V.int .i64 ((V.nth (r2.drop 1) 0).toInt),.list ao ((V.nth (r2.drop 2) 0).toList),.list ar ((V.nth ((r2.drop 2).drop 1) 0).toList)]).bind fun r4=>
 bif decide (((wrap .i64 (((V.nth (r3.drop 1) 0).toInt)+((V.nth (r4.drop 1) 0).toInt))):Int)>64) then
  some [V.int .i64 0,V.int .i64 0,V.int .i64 3,.list ao ([]:LV),.list ar ([]:LV)]
 else
  (Loop (Yp C ((V.nth (r3.drop 1) 0).toInt) (((V.nth (r1.drop 2) 0).toList).length:Int) ((V.nth r1 0).toInt) ((V.nth (r1.drop 1) 0).toInt) ((V.nth r2 0).toInt) ((V.nth (r2.drop 1) 0).toInt) 0 0 ((V.nth r3 0).toInt) (wrap .i64 (((V.nth (r3.drop 1) 0).toInt)+((V.nth (r4.drop 1) 0).toInt))) ((V.nth ((r3.drop 1).drop 1) 0).toInt) ((V.nth (((r3.drop 1).drop 1).drop 1) 0).toInt) ((V.nth r4 0).toInt) ((V.nth (r4.drop 1) 0).toInt) ((V.nth ((r4.drop 1).drop 1) 0).toInt) ((V.nth (((r4.drop 1).drop 1).drop 1) 0).toInt) ((V.nth (r1.drop 2) 0).toList) ((V.nth ((r1.drop 2).drop 1) 0).toList) ((V.nth (r2.drop 2) 0).toList) ((V.nth ((r2.drop 2).drop 1) 0).toList) ([]:LV) ([]:LV) ((V.nth (r4.drop 4) 0).toList)) (0,(V.nth (r3.drop 4) 0).toList)).bind (un fun xV=>un fun (xW:Bool) (xY:LV)=>
   (Loop (Yr C ((V.nth (r3.drop 1) 0).toInt) (((V.nth (r4.drop 4) 0).toList).length:Int) ((V.nth r1 0).toInt) ((V.nth (r1.drop 1) 0).toInt) ((V.nth r2 0).toInt) ((V.nth (r2.drop 1) 0).toInt) 0 0 ((V.nth r3 0).toInt) (wrap .i64 (((V.nth (r3.drop 1) 0).toInt)+((V.nth (r4.drop 1) 0).toInt))) ((V.nth ((r3.drop 1).drop 1) 0).toInt) ((V.nth (((r3.drop 1).drop 1).drop 1) 0).toInt) ((V.nth r4 0).toInt) ((V.nth (r4.drop 1) 0).toInt) ((V.nth ((r4.drop 1).drop 1) 0).toInt) ((V.nth (((r4.drop 1).drop 1).drop 1) 0).toInt) ((V.nth (r4.drop 4) 0).toList) ((V.nth (r1.drop 2) 0).toList) ((V.nth ((r1.drop 2).drop 1) 0).toList) ((V.nth (r2.drop 2) 0).toList) ((V.nth ((r2.drop 2).drop 1) 0).toList) ([]:LV) ([]:LV)) (0,xY)).bind (un fun An=>un fun (wc:Bool) (qC:LV)=>
    aq ((V.nth (r1.drop 2) 0).toList) ((V.nth (r1.drop 1) 0).toInt) fun pK=>
    PJ C ((V.nth (r3.drop 1) 0).toInt) pK.toBool ((V.nth r2 0).toInt) ((V.nth (r2.drop 1) 0).toInt) 0 0 ((V.nth r3 0).toInt) (wrap .i64 (((V.nth (r3.drop 1) 0).toInt)+((V.nth (r4.drop 1) 0).toInt))) ((V.nth ((r3.drop 1).drop 1) 0).toInt) ((V.nth (((r3.drop 1).drop 1).drop 1) 0).toInt) ((V.nth r4 0).toInt) ((V.nth (r4.drop 1) 0).toInt) ((V.nth ((r4.drop 1).drop 1) 0).toInt) ((V.nth (((r4.drop 1).drop 1).drop 1) 0).toInt) ((V.nth (r2.drop 2) 0).toList) ((V.nth ((r2.drop 2).drop 1) 0).toList) ([]:LV) ([]:LV) qC ((V.nth (r4.drop 4) 0).toList) (fun awU=>
     bif decide (0≤(wrap .u64 ((V.nth (r3.drop 1) 0).toInt))) then
     (C Mz [V.int .i64 ((V.nth r3 0).toInt),V.int .i64 (wrap .i64 (((V.nth (r3.drop 1) 0).toInt)+((V.nth (r4.drop 1) 0).toInt))),.int .u64 awU,.int .u64 (wrap .u64 (((V.nth (((r4.drop 1).drop 1).drop 1) 0).toInt)*2^(min (wrap .u64 ((V.nth (r3.drop 1) 0).toInt)).toNat (IntKind.bits .u64)))),.list bt qC]).bind fun wE=>
     some [V.int .i64 ((V.nth wE 0).toInt),V.int .i64 ((V.nth (wE.drop 1) 0).toInt),V.int .i64 ((V.nth (wE.drop 2) 0).toInt),.list ao ((V.nth (wE.drop 3) 0).toList),.list ar ((V.nth ((wE.drop 3).drop 1) 0).toList)]
     else none)))
theorem ain {aO bR:Int} {dc dB:LV} {dv dt:Int} {dG dV:LV} {r:Option LV} (h:Ys CC aO bR dc dB dv dt dG dV=r):CC F3 [V.int .i64 aO,V.int .i64 bR,.list ao dc,.list ar dB,V.int .i64 dv,V.int .i64 dt,.list ao dG,.list ar dV]=r:=bj (aU (awR CC) (aU (awS CC) (aU (awT CC) an))) h
def mP (m k:Da) (p:Nat) (n:Nat):List Ed:=(List.range n).flatMap fun x=>if m.fin (m.nx p x)=true then [gH p x (m.n+k.st)] else []
theorem aio {m k:Da} {p n:Nat}:mP m k p (n+1)=mP m k p n++(if m.fin (m.nx p n)=true then [gH p n (m.n+k.st)] else []):=by simp[mP,yO]
theorem PL {m k:Da} {p:Nat}: ∀{n:Nat},(mP m k p n).length≤n
 | 0=>by simp[mP]
 | n+1=>by
  rw[aio,dd];have:=PL (m:=m) (k:=k) (p:=p) (n:=n);split
  ·rw[List.length_singleton];omega
  ·rw[List.length_nil];omega
def DT (d:Nat) (e:Ed):Ed:=⟨(d:Int)+e.f,e.l,(d:Int)+e.t⟩
def DU (m k:Da):List Ed:=(eH m 0++fm m.n fun p=>mP m k p m.L)++(eH k 0).map (DT m.n)
theorem Yt {d p x q:Nat}:DT d (gH p x q)=gH (p+d) x (q+d):=by
 show Ed.mk ((d:Int)+(p:Int)) (x:Int) ((d:Int)+(q:Int))=Ed.mk ((p+d:Nat):Int) (x:Int) ((q+d:Nat):Int);rw[Ed.mk.injEq];exact ⟨by omega,rfl,by omega⟩
section
variable {m k:Da} (hm:m.Ok) (hk:k.Ok) (hL:m.L=k.L)
include hm hk hL
omit hk hL in
theorem aip {e:Ed}:e∈DU m k↔e∈yu m k:=by
 unfold DU yu;have h1:(∃i,i<m.n∧e∈mP m k i m.L)↔e∈oY m.n m.fin (m.n+k.st) (eH m 0++eH k m.n):=by
  rw[aih];unfold mP;simp only[List.mem_flatMap,jG];constructor
  ·rintro ⟨p,hp,x,hx,h⟩;split at h
   ·next c=>
    rw[jF] at h;exact ⟨gH p x (m.nx p x),List.mem_append_left _ (yr.2 ⟨p,x,hp,hx,rfl⟩),hm.fL hp hx,c,h⟩
   ·cases h
  ·rintro ⟨e',h1,h2,h3,rfl⟩;rcases eW.1 h1 with h1|h1
   ·obtain ⟨p,x,hp,hx,rfl⟩:=yr.1 h1;have sw:m.fin (m.nx p x)=true:=h3;refine ⟨p,hp,x,hx,?_⟩;rw[ah sw];exact jF.2 rfl
   ·obtain ⟨p,x,hp,hx,rfl⟩:=yr.1 h1;have:(gH (p+m.n) x (k.nx p x+m.n)).t.toNat=k.nx p x+m.n:=rfl;omega
 have h2:e∈(eH k 0).map (DT m.n)↔e∈eH k m.n:=by
  rw[j5,yr];constructor
  ·rintro ⟨e',g1,g2⟩;obtain ⟨p,x,hp,hx,rfl⟩:=yr.1 g1;exact ⟨p,x,hp,hx,g2.symm.trans Yt⟩
  ·rintro ⟨p,x,hp,hx,rfl⟩;exact ⟨_,yr.2 ⟨p,x,hp,hx,rfl⟩,Yt⟩
 rw[eW,eW,eW,eW,aic,h1,h2,or_assoc,or_assoc,or_comm (a:=e∈oY _ _ _ _)]
theorem awV (hs:m.n+k.n≤64):A0 m.L (m.n+k.n) (wG m k) (DS m k) (DU m k) where
 l1:=hm.l1
 l6:=hm.l6
 uP:=hs
 st:=(PF hm hk hL hs).st
 fin:=(PF hm hk hL hs).fin
 E:=fun e he=>aik hm hk hL ((aip hm).1 he)
 len:=by
  have h1:=uU hm (off:=0) (n:=m.n);have h2:=uU hk (off:=0) (n:=k.n);have h3:(fm m.n fun p=>mP m k p m.L).length≤m.n*6:=Yh fun p _=>kP PL hm.l6;unfold DU;rw[dd,dd,cH];unfold eH;omega
end
theorem awW {f:Nat→Bool} {d n:Nat}:ic 0 f 0 n*2^d=ic 0 f d n:=by
 refine Bp fun j=> ?_;rw[Nat.testBit_mul_two_pow,nJ,aK,ail,ail,fl];rw[Nat.sub_zero];constructor
 ·rintro ⟨h1,h2,h3,h4⟩;exact ⟨h1,by omega,h4⟩
 ·rintro ⟨h1,h2,h3⟩;exact ⟨h1,by omega,by omega,h3⟩
section
variable {a b:Da} (ha:a.Ok) (hb:b.Ok) (hL:a.L=b.L)
include ha hb hL
theorem awX (hs:(minD a).n+(minD b).n≤64):CC F3 (dN a (dh b))=some (lW (iz (mc (minD a) (minD b)) a.L ((minD a).n+(minD b).n)) (mO (mc (minD a) (minD b)) a.L ((minD a).n+(minD b).n))):=by
 have hm:=fc ha;have hk:=fc hb;have yv:=oo ha;have Yn:=oo hb;have iI:(minD a).L=(minD b).L:=by rw[yv,Yn,hL]
 have b9:=hm.s;have hsk:=hk.s;have hm6:=hm.l6;have hr:=awa (awV hm hk iI hs);have en:dZ (minD a).L ((minD a).n+(minD b).n) (wG (minD a) (minD b)) (DS (minD a) (minD b)) (DU (minD a) (minD b))=mc (minD a) (minD b):=by
  unfold mc dZ;rw[av7 fun e=>aip hm (e:=e)]
 rw[en,yv] at hr;have l1:=uU hm (off:=0) (n:=(minD a).n);have l2:=uU hk (off:=0) (n:=(minD b).n);have l3: ∀i,(fm i fun p=>mP (minD a) (minD b) p (minD a).L).length≤i*6:=fun i=>Yh fun p _=>kP PL hm6;refine ain ?_;unfold Ys aq;refine bs (mJ ha) ?_;refine bs (mJ hb) ?_;refine bs (aii hm (by omega)) ?_;refine bs (aii hk (by omega)) ?_;simp only[aN,dh,dN,V.ct,mn,jZ,V.toInt_int,V.ki,Da.pJ,cH];rw[qK (by omega)];refine bF (cJ (by omega)) ?_;refine bs (yq (minD a).n (fun i=>((i:Int),(eH (minD a) 0++fm i fun p=>mP (minD a) (minD b) p (minD a).L).map Ed.enc)) (((minD a).n:Int),false,(eH (minD a) 0++fm (minD a).n fun p=>mP (minD a) (minD b) p (minD a).L).map Ed.enc) (by rw[aib,j4];rfl) (fun p hp=> ?_) ?_) ?_
 ·have l4:=l3 p;simp only[Yp,JM,un,aq];refine bT (cN hp) ?_;refine (fu (i:=p) hp).trans ?_;rw[show (ep (minD a).L ((minD a).nx p)).toList=tab (minD a).L fun x=>nV ((minD a).nx p x) from rfl,db];refine bs (yq (minD a).L (fun i=>((i:Int),((eH (minD a) 0++fm p fun p=>mP (minD a) (minD b) p (minD a).L)++mP (minD a) (minD b) p i).map Ed.enc)) (((minD a).L:Int),false,((eH (minD a) 0++fm p fun p=>mP (minD a) (minD b) p (minD a).L)++mP (minD a) (minD b) p (minD a).L).map Ed.enc) (by rw[show mP (minD a) (minD b) p 0=[] from rfl,j4];rfl) (fun x hx=> ?_) ?_) ?_
  ·have l5:=PL (m:=minD a) (k:=minD b) (p:=p) (n:=x);simp only[Yo,JL,un];refine bT (cN hx) ?_;refine bs (np hx) ?_;refine (fu (i:=(minD a).nx p x) (hm.fL hp hx)).trans ?_;rw[aio,qK (by omega)];cases hf:(minD a).fin ((minD a).nx p x) with
   | true=>
    refine bT rfl ?_;refine bT (cap (by rw[cH,dd,dd];unfold eH;simp;omega) (by omega)) ?_;rw[JI,cG (by omega),ah rfl,←fN]
   | false=>
    refine bF rfl ?_;rw[cG (by omega),ag (by simp),j4]
  ·simp only[Yo,JL,un];refine bF (bp (az _)) ?_;rw[bp (az _)]
  ·simp only[un];rw[cG (by omega),PE,←fN]
 ·simp only[Yp,JM,un,aq];refine bF (bp (az _)) ?_;rw[bp (az _)]
 ·simp only[un];have l4:=l3 (minD a).n;refine bs (yq (eH (minD b) 0).length (fun i=>((i:Int),((eH (minD a) 0++fm (minD a).n fun p=>mP (minD a) (minD b) p (minD a).L)++((eH (minD b) 0).take i).map (DT (minD a).n)).map Ed.enc)) (((eH (minD b) 0).length:Int),false,(DU (minD a) (minD b)).map Ed.enc) (by rw[List.take_zero,List.map_nil,j4];rfl) (fun i hi=> ?_) ?_) ?_
  ·have hl:((eH (minD b) 0).take i).length≤i:=List.length_take_le _ _;have qb:(eH (minD b) 0).length≤(minD b).n*6:=l2;simp only[Yr,JN,un,aq];refine bT (cN hi) ?_;refine (eo (i:=i) (v:=(eH (minD b) 0)[i].enc) (by simp[hi])).trans ?_;obtain ⟨p,x,hp,hx,he⟩:=yr.1 (ff hi);have hq:=hk.fL hp hx;rw[Ed.mK,Ed.mL,Ed.mM];have t1:(eH (minD b) 0)[i].f=((p+0:Nat):Int):=by rw[he];rfl
   have t2:(eH (minD b) 0)[i].l=(x:Int):=by rw[he];rfl
   have t3:(eH (minD b) 0)[i].t=(((minD b).nx p x+0:Nat):Int):=by rw[he];rfl
   rw[t1,t2,t3,qK (by omega),qK (by omega)];refine bT (cap (by rw[cH,dd,dd,cH];unfold eH at*;simp;omega) (by omega)) ?_;have e6:((eH (minD b) 0).take (i+1)).map (DT (minD a).n)=((eH (minD b) 0).take i).map (DT (minD a).n)++[gH (p+0+(minD a).n) x ((minD b).nx p x+0+(minD a).n)]:=by rw[Kt hi,qS,List.map_singleton,he,Yt]
   rw[JI,cG (by omega),e6,←fN,Nat.add_comm (minD a).n (p+0),Nat.add_comm (minD a).n ((minD b).nx p x+0)]
  ·simp only[Yr,JN,un,aq];refine bF (bp (az _)) ?_;rw[bp (az _),u0];rfl
  ·simp only[un];refine bT (VW b9) ?_;rw[Int.toNat_natCast];refine bs (wa b9) ?_;have p1:(2:Nat)^(minD a).st<2^64:=mU (by omega) (by omega);have p2:(2:Nat)^((minD a).n+(minD b).st)<2^64:=mU (by omega) (by omega);have p3:ic 0 (minD b).fin (minD a).n (minD b).n<2^64:=JJ (Nat.two_pow_pos _) (by omega);have es:wrap .u64 ((ic 0 (minD b).fin 0 (minD b).n:Int)*2^(min (wrap .u64 ((minD a).n:Int)).toNat (IntKind.bits .u64)))=((DS (minD a) (minD b):Nat):Int):=by
    rw[sY (by omega),Int.toNat_natCast,show min (minD a).n (IntKind.bits .u64)=(minD a).n from Bg (show (minD a).n≤64 by omega),show ((ic 0 (minD b).fin 0 (minD b).n:Int)*2^(minD a).n)=((ic 0 (minD b).fin 0 (minD b).n*2^(minD a).n:Nat):Int) by rw[Int.natCast_mul,Int.natCast_pow];rfl,awW,sY p3];rfl
   have eb:decide (0≤wrap .u64 ((minD a).n:Int))=true:=by rw[sY (by omega)];exact bU (by omega)
   unfold PJ;cases hf:(minD a).fin (minD a).st with
   | true=>
    refine bT rfl ?_;rw[qK (by omega)];refine bs (Pb (by omega)) ?_;rw[show (V.nth [V.int .u64 ((2^((minD a).n+(minD b).st):Nat):Int)] 0).toInt=((2^((minD a).n+(minD b).st):Nat):Int) from rfl,u64_or p1 p2,show 2^(minD a).st|||2^((minD a).n+(minD b).st)=wG (minD a) (minD b) from (ah hf).symm];refine bT eb ?_;rw[es,yv];refine bs hr ?_;rfl
   | false=>
    refine bF rfl ?_;rw[show ((2^(minD a).st:Nat):Int)=((wG (minD a) (minD b):Nat):Int) from congrArg _ (ag (by rw[hf];simp)).symm];refine bT eb ?_;rw[es,yv];refine bs hr ?_;rfl
end
end Go.AM
set_option maxRecDepth 100000
namespace Go.AM
open Go.IntKind (wrap)
open Go.Proofs
namespace Da
def qL (a:Da) (f:Nat→Bool):Da:=⟨a.L,a.st,tab a.n f,a.N⟩
def pre (a:Da) (k:Nat) (g:Nat→List Nat):Da:=⟨k,a.st,a.F,tab a.n fun q=>tab k fun x=>a.run q (g x)⟩
theorem A7 {a:Da} {f:Nat→Bool}:(a.qL f).n=a.n:=by simp[qL,n]
theorem aiq {a:Da} {f:Nat→Bool} {q:Nat} (h:q<a.n):(a.qL f).fin q=f q:=by
 show (tab a.n f).getD q false=f q;exact xS h
theorem Ok.qL {a:Da} (h:a.Ok) {f:Nat→Bool}:(a.qL f).Ok:=⟨h.l1,h.l6,by rw[A7];exact h.nN,fun r hr=>by rw[A7];exact h.row r hr,by rw[A7];exact h.s,by rw[A7];exact h.cU⟩
theorem awY {a:Da} {f:Nat→Bool} {q:Nat} {w:List Nat}:(a.qL f).run q w=a.run q w:=rfl
theorem awZ {a:Da} (h:a.Ok) {f:Nat→Bool} {q:Nat} (hq:q<a.n) {w:List Nat} (hw:WL a.L w):(a.qL f).acc q w=f (a.run q w):=by
 unfold acc;rw[awY,aiq (h.VK w hq hw)]
theorem air {a:Da} {f:Nat→Bool}:(a.qL f).bI=bV a.n f:=by
 unfold bI bV;rw[A7];exact dR fun q hq=>by rw[aiq hq]
theorem ais {a:Da} {f:Nat→Bool}:(a.qL f).bz=a.bz:=by unfold bz;rw[A7];rfl
theorem Ok.pre {a:Da} (h:a.Ok) {k:Nat} {g:Nat→List Nat} (h1:1≤k) (h6:k≤6) (hg: ∀x,x<k→WL a.L (g x)):(a.pre k g).Ok:=⟨h1,h6,by simp[Da.pre,n],fun r hr=>by
 obtain ⟨q,hq,rfl⟩:=uB.1 hr;refine ⟨by simp[Da.pre],fun s hs=> ?_⟩;obtain ⟨x,hx,rfl⟩:=uB.1 hs;exact h.VK _ hq (hg x hx),h.s,h.cU⟩
end Da
end Go.AM
set_option maxRecDepth 100000
namespace Go.AM
open Go.IntKind (wrap)
open Go.Proofs
noncomputable def JO (C:ae) (t16:LV) (t17 aP aT:Int) (bL bH:LV) (cy cz ait aiu:Int) (bC bQ:LV) (t18:Int) (cx bJ:LV) {β:Type} (kn:(Int×LV×LV)→Option β) (kr:(Int×Bool×LV×LV)→Option β):Option β:=
 bif decide (t18<t17) then
  (idx t16 t18).bind fun x2=>
  bif Nat.ble ((cx.length+([.bool (!x2.toBool)]:LV).length)*1) aX then
  (idx bH t18).bind fun x3=>
  bif Nat.ble (x3.toList.length*8) aX then
   bif Nat.ble ((bJ.length+([.list aF x3.toList]:LV).length)*24) aX then
   kn (wrap .i64 (t18+1),cx++([.bool (!x2.toBool)]:LV),bJ++([.list aF x3.toList]:LV))
   else none
  else none
  else none
 else
  kr (t18,decide (t18<t17),cx,bJ)
noncomputable def Yu (C:ae) (t16:LV) (t17 aP aT:Int) (bL bH:LV) (cy cz ait aiu:Int) (bC bQ:LV):=un fun t18=>un fun cx bJ=>JO C t16 t17 aP aT bL bH cy cz ait aiu bC bQ t18 cx bJ (fun y=>some (Sum.inl y)) (fun r=>some (Sum.inr r))
noncomputable def aw0 (C:ae):cE:=bG 81 Uu [EQ,EQ,H1,EQ,EQ,EQ,EQ,EQ,EQ,EQ,EQ,EQ,EQ,H1,H1] [[1,2,0,0,4,5,6,7,8,9,10,11,12,13,0,0]] (@JO C) bm
theorem aw1 (C:ae):aW C (aw0 C) 57 (Lp [1,1,1,0,1,0,0] 57):=bE Uu [EQ,EQ,H1,EQ,EQ,EQ,EQ,EQ,EQ,EQ,EQ,EQ,EQ,H1,H1] [[1,2,0,0,4,5,6,7,8,9,10,11,12,13,0,0]] (@JO C) (aG an)
noncomputable def aiv (C:ae) (bO bP:Int) (bu bY:LV):Option LV:=
 (C rz [V.int .i64 bO,V.int .i64 bP,.list ao bu,.list ar bY]).bind fun r1=>
 bif (((V.nth r1 0).toInt):Int) != 0 then
  some [V.int .i64 0,V.int .i64 0,.list ao ([]:LV),.list ar ([]:LV)]
 else
  (Loop (Yu C bu (bu.length:Int) bO bP bu bY 0 0 bO bP ([]:LV) ([]:LV)) (0,([]:LV),([]:LV))).bind (un fun kI=>un fun (od:Bool)=>un fun (Yv:LV) (X2:LV)=>
   some [V.int .i64 bO,V.int .i64 bP,.list ao Yv,.list ar X2])
theorem aw2 {bO bP:Int} {bu bY:LV} {r:Option LV} (h:aiv CC bO bP bu bY=r):CC MM [V.int .i64 bO,V.int .i64 bP,.list ao bu,.list ar bY]=r:=bj (aU (aw1 CC) an) h
theorem aw3 {a:Da} (h:a.Ok):CC MM (dh a)=some (dh (a.qL fun q=> !(a.fin q))):=by
 have hm:=h.cU;have h6:=h.l6;refine aw2 ?_;unfold aiv;refine bs (uE h) (bF rfl ?_);rw[Da.pJ];refine bs (eh a.n (fun i=>((i:Int),(tab i fun q=>V.bool (!(a.fin q))),(tab i fun q=>ep a.L (a.nx q)))) ((a.n:Int),false,(bV a.n fun q=> !(a.fin q)),a.bz) (fun q hq=> ?_) ?_) ?_
 ·simp only[Yu,JO,un];refine bT (cN hq) ?_;refine bs (Da.nq hq) ?_;refine bT (cap (by rw[db];simp;omega) (by omega)) ?_;refine bs (Da.jU hq) ?_;rw[kj,db];refine bT (by rw[fo,v8];omega) ?_;refine bT (cap (by rw[db];simp;omega) (by omega)) ?_;rw[cG (by omega),gg,gg];rfl
 ·simp only[Yu,JO,un];refine bF (bp (az _)) ?_;rw[bp (az _)];rfl
 ·unfold dh dN;rw[Da.air,Da.ais];rfl
noncomputable def JP (C:ae) (t12 aP aT:Int) (bL bH:LV) (cy cz fV fW:Int) (bC bQ:LV) (t13:Int) (cx bJ:LV) {β:Type} (kn:(Int×LV×LV)→Option β) (kr:(Int×Bool×LV×LV)→Option β):Option β:=
 bif decide (t13<t12) then
  (idx bL t13).bind fun x1=>
  bif Nat.ble ((cx.length+([.bool (!x1.toBool)]:LV).length)*1) aX then
  (idx bH t13).bind fun x2=>
  bif Nat.ble ((([]:LV).length+x2.toList.length)*8) aX then
   bif Nat.ble ((bJ.length+([.list aF (([]:LV)++x2.toList)]:LV).length)*24) aX then
   kn (wrap .i64 (t13+1),cx++([.bool (!x1.toBool)]:LV),bJ++([.list aF (([]:LV)++x2.toList)]:LV))
   else none
  else none
  else none
 else
  kr (t13,decide (t13<t12),cx,bJ)
noncomputable def Yw (C:ae) (t12 aP aT:Int) (bL bH:LV) (cy cz fV fW:Int) (bC bQ:LV):=un fun t13=>un fun cx bJ=>JP C t12 aP aT bL bH cy cz fV fW bC bQ t13 cx bJ (fun y=>some (Sum.inl y)) (fun r=>some (Sum.inr r))
noncomputable def aw4 (C:ae):cE:=bG 49 TQ [EQ,H1,EQ,EQ,EQ,EQ,EQ,EQ,EQ,EQ,EQ,EQ,H1,H1] [[1,0,0,3,4,5,6,7,8,9,10,11,12,0,0]] (@JP C) bm
theorem aw5 (C:ae):aW C (aw4 C) 16 (Lp [1,1,0,1,0,0] 16):=bE TQ [EQ,H1,EQ,EQ,EQ,EQ,EQ,EQ,EQ,EQ,EQ,EQ,H1,H1] [[1,0,0,3,4,5,6,7,8,9,10,11,12,0,0]] (@JP C) (aG an)
noncomputable def aiw (C:ae) (bO bP:Int) (bu bY:LV):Option LV:=
 (Loop (Yw C (bu.length:Int) bO bP bu bY 0 0 bO bP ([]:LV) ([]:LV)) (0,([]:LV),([]:LV))).bind (un fun lq=>un fun (kI:Bool)=>un fun (Yx:LV) (Yv:LV)=>
  some [V.int .i64 bO,V.int .i64 bP,.list ao Yx,.list ar Yv])
theorem aw6 {bO bP:Int} {bu bY:LV} {r:Option LV} (h:aiw CC bO bP bu bY=r):CC Mx [V.int .i64 bO,V.int .i64 bP,.list ao bu,.list ar bY]=r:=bj (aU (aw5 CC) an) h
noncomputable def aix (C:ae) (ay:Int) (all:Bool):Option LV:=
 bif (decide (0≤ay))&&((decide (ay≤ay))&&(Nat.ble ((ay.toNat)*8) aX)) then
  some [V.int .i64 ay,V.int .i64 0,.list ao ([.bool all]:LV),.list ar ([.list aF (List.replicate (ay.toNat) (V.int .i64 0))]:LV)]
 else none
theorem aw7 {ay:Int} {all:Bool} {r:Option LV} (h:aix CC ay all=r):CC F0 [V.int .i64 ay,.bool all]=r:=bj (L:=bm) an h
section
variable {a b:Da} (ha:a.Ok) (hb:b.Ok) (hL:a.L=b.L) {op:Nat}
include ha hb hL
theorem aw8 {S U:List (NP)} {p:NP} (hp0:PI a b p) {x:Nat} (hx:x<a.L) (Dg:aJ (pn a b) S p (x+1) <+: U) (hU:(aJ (pn a b) S p (x+1)).length≤512) {o i c1 c2 c3 c4 c5 c6 c7:Int} {l1 l2 l3 l4 l5 l6:List V}:
  yd CC o i (a.L:Int) c1 l1 a.bz c2 c3 l2 b.bz c4 c5 c6 c7 (p.p:Int) (p.q:Int) l3 l4 l5 l6 ((x:Int),pS (aJ (pn a b) S p x),pM (aJ (pn a b) S p x),(tab x fun j=>nV (U.idxOf (pn a b p j))))=
   some (.inl (((x+1:Nat):Int),pS (aJ (pn a b) S p (x+1)),pM (aJ (pn a b) S p (x+1)),(tab (x+1) fun j=>nV (U.idxOf (pn a b p j))))):=by
 have h6:=ha.l6;have ya:=ha.cU;have ug:=hb.cU;have hn:=C9 ha hb hL hp0 hx;unfold PI at hn;have fS:=hU;have k1:cw .i64 ((a.nx p.p x:Nat):Int)=true:=km (by have:(pn a b p x).p=a.nx p.p x:=rfl;omega);have k2:cw .i64 ((b.nx p.q x:Nat):Int)=true:=km (by have:(pn a b p x).q=b.nx p.q x:=rfl;omega);simp only[yd,AB,un];refine bT (cN hx) ?_;refine bs (Da.jU hp0.1) ?_;rw[kj];refine bs (mG hx) ?_;refine bs (Da.jU hp0.2) ?_;rw[kj];refine bs (mG (hL▸hx)) ?_;simp only[V.toInt_int];refine bT (by rw[k1,k2];rfl) ?_;rw[show (V.agg [V.int .i64 ((a.nx p.p x:Nat):Int),V.int .i64 ((b.nx p.q x:Nat):Int)])=pV (pn a b p x) from rfl];have e1:=qB uL (pn a b p x) (aJ (pn a b) S p x) 0;unfold De;rw[show ez (pV (pn a b p x)) (pM (aJ (pn a b) S p x))=_ from e1,show (V.agg [V.int .i64 ((a.nx p.p x:Nat):Int),V.int .i64 ((b.nx p.q x:Nat):Int)])=pV (pn a b p x) from rfl];have ei:U.idxOf (pn a b p x)=(dj (aJ (pn a b) S p x) (pn a b p x)).idxOf (pn a b p x):=uz Dg uy;rw[CS] at ei;rw[aJ,qv] at fS;by_cases h:pn a b p x∈aJ (pn a b) S p x
 ·have e2:=uF uL (pn a b p x) (.int .i64 0) (aJ (pn a b) S p x) 0 h;rw[ed] at e2;rw[ah h] at ei;refine bF (by simpa using h) ?_;rw[show fO (pV (pn a b p x)) (pM (aJ (pn a b) S p x)) (.int .i64 0)=_ from e2,V.toInt_int,←ei];simp only[bN,un];refine bT (cap (by rw[db];simp;omega) (by omega)) ?_;rw[cG (by omega),gg,aJ];unfold dj;rw[ah h];rfl
 ·rw[ag h] at ei fS;refine bT (by simpa using h) ?_;refine bF (by rw[nu];simp;omega) ?_;refine bT (by rw[k1,k2];rfl) ?_;refine bT (cap (by rw[nu];simp;omega) (by omega)) ?_;simp only[bN,un];refine bT (cap (by rw[db];simp;omega) (by omega)) ?_;have e2:=uG uL (pn a b p x) (aJ (pn a b) S p x) 0 h;rw[ed] at e2;rw[nu,show eB (pV (pn a b p x)) _ (pM (aJ (pn a b) S p x))=_ from e2,←ei,cG (by omega),gg,aJ];unfold dj;rw[ag h];simp[pS,pM,nV]
theorem aw9 {T:List (NP)} {p:NP} (hp0:PI a b p) (hT:T.length≤512) (hU:512<(aJ (pn a b) T p a.L).length) {o i c1 c2 c3 c4 c5 c6 c7:Int} {l1 l2 l3 l4 l5 l6:List V}:
  Loop (yd CC o i (a.L:Int) c1 l1 a.bz c2 c3 l2 b.bz c4 c5 c6 c7 (p.p:Int) (p.q:Int) l3 l4 l5 l6) (0,pS T,pM T,([]:List V))=some (.inl (3,0,0,[],[])):=by
 obtain ⟨y,hy,L4,X5,X6⟩:=afs hT hU;have h6:=ha.l6;have ya:=ha.cU;have ug:=hb.cU;refine (ab6 (fun x=>((x:Int),pS (aJ (pn a b) T p x),pM (aJ (pn a b) T p x),(tab x fun j=>nV ((aJ (pn a b) T p y).idxOf (pn a b p j))))) y (fun x hx=> ?_) ?_)
 ·exact aw8 ha hb hL hp0 (by omega) (rG T p (by omega)) (X6 (x+1) (by omega))
 ·have hn:=C9 ha hb hL hp0 hy;unfold PI at hn;have k1:cw .i64 ((a.nx p.p y:Nat):Int)=true:=km (by have:(pn a b p y).p=a.nx p.p y:=rfl;omega);have k2:cw .i64 ((b.nx p.q y:Nat):Int)=true:=km (by have:(pn a b p y).q=b.nx p.q y:=rfl;omega);simp only[yd,AB,un];refine bT (cN hy) ?_;refine bs (Da.jU hp0.1) ?_;rw[kj];refine bs (mG hy) ?_;refine bs (Da.jU hp0.2) ?_;rw[kj];refine bs (mG (hL▸hy)) ?_;simp only[V.toInt_int];refine bT (by rw[k1,k2];rfl) ?_;rw[show (V.agg [V.int .i64 ((a.nx p.p y:Nat):Int),V.int .i64 ((b.nx p.q y:Nat):Int)])=pV (pn a b p y) from rfl];have e1:=qB uL (pn a b p y) (aJ (pn a b) T p y) 0;unfold De;rw[show ez (pV (pn a b p y)) (pM (aJ (pn a b) T p y))=_ from e1];refine bT (by simpa using X5) ?_;refine bT (by rw[nu];simp;omega) ?_;rfl
theorem aiy (ho:op≤15) {i:Nat} (eP:i<(aj a.L (pn a b) ⟨a.st,b.st⟩ i).length) (hlen:(aj a.L (pn a b) ⟨a.st,b.st⟩ i).length≤512) {k1 k2 k3 k4:Int} {l1 l2 l3 l4:List V} (Db:l3.length≤1000) (WB:l4.length≤1000):
  ((aj a.L (pn a b) ⟨a.st,b.st⟩ (i+1)).length≤512→∃x y,wo CC (op:Int) (a.L:Int) k1 a.bI a.bz k2 k3 b.bI b.bz 0 0 (a.L:Int) k4 l1 l2 ((i:Int),pS (aj a.L (pn a b) ⟨a.st,b.st⟩ i),pM (aj a.L (pn a b) ⟨a.st,b.st⟩ i),l3,l4)=
   some (.inl (((i+1:Nat):Int),pS (aj a.L (pn a b) ⟨a.st,b.st⟩ (i+1)),pM (aj a.L (pn a b) ⟨a.st,b.st⟩ (i+1)),l3++[x],l4++[y])))∧
  (512<(aj a.L (pn a b) ⟨a.st,b.st⟩ (i+1)).length→wo CC (op:Int) (a.L:Int) k1 a.bI a.bz k2 k3 b.bI b.bz 0 0 (a.L:Int) k4 l1 l2 ((i:Int),pS (aj a.L (pn a b) ⟨a.st,b.st⟩ i),pM (aj a.L (pn a b) ⟨a.st,b.st⟩ i),l3,l4)=
   some (.inr (.inl (3,0,0,[],[])))):=by
 have h6:=ha.l6;have ya:=ha.cU;have ug:=hb.cU;have hq:PI a b (aj a.L (pn a b) ⟨a.st,b.st⟩ i)[i]:=Wz ha hb hL _ _ (ff eP);have gS:aj a.L (pn a b) ⟨a.st,b.st⟩ (i+1)=aJ (pn a b) (aj a.L (pn a b) ⟨a.st,b.st⟩ i) (aj a.L (pn a b) ⟨a.st,b.st⟩ i)[i] a.L:=G1 (cp eP);refine ⟨fun h=>⟨V.bool (pf a b op (aj a.L (pn a b) ⟨a.st,b.st⟩ i)[i]),.list aF (tab a.L fun x=>nV ((aj a.L (pn a b) ⟨a.st,b.st⟩ (i+1)).idxOf (pn a b (aj a.L (pn a b) ⟨a.st,b.st⟩ i)[i] x))),?_⟩,fun h=> ?_⟩
 ·simp only[wo,AD,un];refine bT (bU (by rw[nu];omega)) ?_;refine (eo (OG eP)).trans ?_;rw[OE,OF];refine bs (af7 ha hb hL hq (U:=aj a.L (pn a b) ⟨a.st,b.st⟩ (i+1)) (by rw[←gS];exact lG _) h) ?_;rw[←gS];simp only[bN,un];refine bT (cap (by simp;omega) (by omega)) ?_;refine bs (Da.nq hq.1) ?_;refine bs (Da.nq hq.2) ?_;refine bs (af6 ho _ _) ?_;refine bT (cap (by simp;omega) (by omega)) ?_;rw[cG (by omega)];rfl
 ·simp only[wo,AD,un];refine bT (bU (by rw[nu];omega)) ?_;refine (eo (OG eP)).trans ?_;rw[OE,OF];refine bs (aw9 ha hb hL hq hlen (by rw[←gS];exact h)) ?_;rfl
theorem axa (ho:op≤15) (hn:iF a b) (xA:CC zU (dN a (dh b))=some [.int .i64 0]):CC F5 (dN a (dN b [.int .i64 (op:Int)]))=some (lW zD 3):=by
 have h6:=ha.l6;have ya:=ha.cU;have ug:=hb.cU;have WC:=ha.s;have Fj:=hb.s;obtain ⟨m,WG,lb,OK⟩:=Ou (Ot (show 512<(aj a.L (pn a b) ⟨a.st,b.st⟩ (a.n*b.n)).length from hn)) (by omega);refine af5 ?_;unfold WV;refine bs xA (bF rfl ?_);refine bF (cJ (by omega)) ?_;refine bF (cJ (by omega)) ?_;refine bT (by rw[km (show a.st≤_ by omega),km (show b.st≤_ by omega)];rfl) ?_;have key: ∃r,Loop (wo CC (op:Int) (a.L:Int) (a.st:Int) a.bI a.bz (b.L:Int) (b.st:Int) b.bI b.bz 0 0 (a.L:Int) 0 ([]:List V) ([]:List V)) (0,pS [⟨a.st,b.st⟩],pM [⟨a.st,b.st⟩],([]:List V),([]:List V))=some r∧r=(.inl (3,0,0,[],[])):=by
  refine uC (fun i st=> ∃l3 l4:List V,l3.length=i∧l4.length=i∧st=((i:Int),pS (aj a.L (pn a b) ⟨a.st,b.st⟩ i),pM (aj a.L (pn a b) ⟨a.st,b.st⟩ i),l3,l4)) _ m 0 _ (fun i _ hi st b9=> ?_) (fun st b9=> ?_) ⟨[],[],rfl,rfl,rfl⟩
  ·obtain ⟨l3,l4,e3,e4,rfl⟩:=b9;obtain ⟨h1,h2⟩:=lb i (by omega);obtain ⟨x,y,h4⟩:=(aiy ha hb hL ho h1 h2 (k1:=(a.st:Int)) (k2:=(b.L:Int)) (k3:=(b.st:Int)) (k4:=0) (l1:=[]) (l2:=[]) (l3:=l3) (l4:=l4) (by omega) (by omega)).1 (lb (i+1) (by omega)).2;exact ⟨_,h4,_,_,by simp[e3],by simp[e4],rfl⟩
  ·obtain ⟨l3,l4,e3,e4,rfl⟩:=b9;rw[ed] at*
   obtain ⟨h1,h2⟩:=lb m (by omega);exact ⟨_,(aiy ha hb hL ho h1 h2 (k1:=(a.st:Int)) (k2:=(b.L:Int)) (k3:=(b.st:Int)) (k4:=0) (l1:=[]) (l2:=[]) (l3:=l3) (l4:=l4) (by omega) (by omega)).2 OK,rfl⟩
 obtain ⟨r,h1,rfl⟩:=key;refine bs h1 ?_;rfl
theorem aiz (ho:op≤15) (hn:iF (minD a) (minD b)): ∃X,CC Cs (dN a (dN b [.int .i64 (op:Int)]))=some (lW X 3):=by
 refine ⟨zD,agd ?_⟩;unfold WY;refine bs (mJ ha) ?_;refine bs (mJ hb) ?_;refine bs (axa (fc ha) (fc hb) (td ha hb hL) ho hn (af8 (fc ha) (fc hb) (td ha hb hL))) (bT rfl ?_);rfl
end
theorem aiA (m:Int) (h0:0≤m) (h:m<1000000): ∃v:Int,CC xD [.int .i64 m]=some [.int .u64 v]:=by
 refine ⟨wrap .u64 (1*2^(min m.toNat (IntKind.bits .u64))),agJ ?_⟩;unfold Xc;have e:wrap .u64 m=m:=by rw[wrap_u64];omega
 rw[e];exact bT (bU h0) rfl
theorem aiB {a:Da} (h:a.Ok): ∃(s F:Int) (l:LV),CC Ct (dh a)=some [.int .i64 (a.L:Int),.int .i64 (a.n:Int),.int .u64 s,.int .u64 F,.list bt l]:=by
 have h6:=h.l6;have hm:=h.cU;have b9:=h.s;obtain ⟨s,es⟩:=aiA (a.st:Int) (by omega) (by omega);suffices key: ∃r:Int×Bool×Int×LV,Loop (A6 CC (a.n:Int) (a.L:Int) (a.st:Int) a.bI a.bz 0 0 0 0 (a.L:Int) (a.n:Int) s ([]:LV)) (0,0,([]:LV))=some r∧True by
  obtain ⟨⟨r1,r2,r3,r4⟩,e,_⟩:=key;refine ⟨s,r3,r4,aia ?_⟩;unfold Yf;refine bs es ?_;rw[show a.bI.length=a.n from db];refine bs e ?_;rfl
 refine uC (fun i x=> ∃(F:Int) (l:List Ed),l.length=i*a.L∧x=((i:Int),F,l.map Ed.enc)) _ a.n 0 _ (fun p _ hp x hx=> ?_) (fun x hx=> ?_) ⟨0,[],by simp,rfl⟩
 ·obtain ⟨F,l,hl,rfl⟩:=hx;rw[ed] at hp;have qb:l.length≤512*6:=by rw[hl];exact Nat.mul_le_mul (by omega) h6
  have key: ∀(F:Int),((idx a.bz (p:Int)).bind fun x5=>
   (Loop (A5 CC (p:Int) (a.n:Int) (p:Int) x5.toList (x5.toList.length:Int) (a.L:Int) (a.st:Int) a.bI a.bz 0 0 0 0 (a.L:Int) (a.n:Int) s F ([]:LV)) (0,l.map Ed.enc)).bind (un fun (kJ:Int)=>un fun (oe:Bool) (A3:LV)=>
    some (Sum.inl (wrap .i64 ((p:Int)+1),F,A3):(Int×Int×LV) ⊕ (Int×Bool×Int×LV))))=some (Sum.inl (((p+1:Nat):Int),F,(l++tab a.L fun x=>gH p x (a.nx p x)).map Ed.enc)):=by
   intro F;refine bs (np hp) ?_;rw[show (ep a.L (a.nx p)).toList=tab a.L fun x=>nV (a.nx p x) from rfl,db];refine bs (yq a.L (fun i=>((i:Int),(l++tab i fun x=>gH p x (a.nx p x)).map Ed.enc)) ((a.L:Int),false,(l++tab a.L fun x=>gH p x (a.nx p x)).map Ed.enc) (by rw[Ha,j4];rfl) (fun x hx=> ?_) ?_) ?_
   ·simp only[A5,A4,un];refine bT (cN hx) ?_;refine bs (np hx) ?_;refine bT (cap (by rw[cH,dd,db];simp;omega) (by omega)) ?_;rw[show (nV (a.nx p x)).toInt=((a.nx p x:Nat):Int) from rfl,JI,cG (by omega),gg,←fN]
   ·simp only[A5,A4,un];refine bF (bp (az _)) ?_;rw[bp (az _)]
   ·simp only[un];rw[cG (by omega)]
  have Db:(l++tab a.L fun x=>gH p x (a.nx p x)).length=(p+1)*a.L:=by rw[dd,db,hl,yC]
  cases hf:a.fin p with
  | true=>
   obtain ⟨v,ev⟩:=aiA (p:Int) (by omega) (by omega);refine ⟨(((p+1:Nat):Int),wrap .u64 ((BitVec.ofInt (IntKind.bits .u64) F|||BitVec.ofInt (IntKind.bits .u64) v).toNat),(l++tab a.L fun x=>gH p x (a.nx p x)).map Ed.enc),?_,_,_,Db,rfl⟩;simp only[A6,yp,un];refine bT (cN hp) ?_;refine bs (np hp) ?_;unfold DR;refine bT (by rw[V.mC];exact hf) (bs ev ?_);exact key _
  | false=>
   refine ⟨(((p+1:Nat):Int),F,(l++tab a.L fun x=>gH p x (a.nx p x)).map Ed.enc),?_,_,_,Db,rfl⟩;simp only[A6,yp,un];refine bT (cN hp) ?_;refine bs (np hp) ?_;unfold DR;refine bF (by rw[V.mC];exact hf) ?_;exact key _
 ·obtain ⟨F,l,hl,rfl⟩:=hx;rw[ed] at*
  refine ⟨((a.n:Int),false,F,l.map Ed.enc),?_,trivial⟩;simp only[A6,yp,un];refine bF (bp (az _)) ?_;rw[bp (az _)]
theorem axb {a b:Da} (ha:a.Ok) (hb:b.Ok) (hs:64<(minD a).n+(minD b).n):CC F3 (dN a (dh b))=some (lW zD 3):=by
 have h1:=(fc ha).cU;have h2:=(fc hb).cU;obtain ⟨s,F,l,e1⟩:=aiB (fc ha);obtain ⟨s2,F2,l2,e2⟩:=aiB (fc hb);refine ain ?_;unfold Ys aq;refine bs (mJ ha) ?_;refine bs (mJ hb) ?_;refine bs e1 ?_;refine bs e2 ?_;simp only[V.ct,mn,jZ,V.toInt_int];rw[qK (by omega)];refine bT (bU (by omega)) ?_;rfl
theorem axc {a:Da} (h:a.Ok):CC Mx (dh a)=some (dh (a.qL fun q=> !(a.fin q))):=by
 have hm:=h.cU;have h6:=h.l6;refine aw6 ?_;unfold aiw;rw[Da.pJ];refine bs (eh a.n (fun i=>((i:Int),(tab i fun q=>V.bool (!(a.fin q))),(tab i fun q=>ep a.L (a.nx q)))) ((a.n:Int),false,(bV a.n fun q=> !(a.fin q)),a.bz) (fun q hq=> ?_) ?_) ?_
 ·simp only[Yw,JP,un];refine bT (cN hq) ?_;refine bs (Da.nq hq) ?_;refine bT (cap (by rw[db];simp;omega) (by omega)) ?_;refine bs (Da.jU hq) ?_;rw[kj,db];refine bT (by rw[fo,v8];simp;omega) ?_;refine bT (cap (by rw[db];simp;omega) (by omega)) ?_;rw[cG (by omega),gg,gg];rfl
 ·simp only[Yw,JP,un];refine bF (bp (az _)) ?_;rw[bp (az _)];rfl
 ·unfold dh dN;rw[Da.air,Da.ais];rfl
noncomputable def JQ (C:ae) (to t13 t14:Int) (rows:LV) {β:Type} (kn:(Int×LV)→Option β) (kr:(Int×Bool×LV)→Option β):Option β:=
 bif decide (t14<t13) then
  aq rows t14 fun x1=>
  kn (wrap .i64 (t14+1),aI rows t14 (V.int .i64 to))
 else
  kr (t14,decide (t14<t13),rows)
noncomputable def Yy (C:ae) (to t13:Int):=un fun t14 rows=>JQ C to t13 t14 rows (fun y=>some (Sum.inl y)) (fun r=>some (Sum.inr r))
noncomputable def axd (C:ae):cE:=bG 49 Uz [EQ,EQ,H1,H1] [[1,2,0,0,0]] (@JQ C) bm
theorem axe (C:ae):aW C (axd C) 63 (Lp [1,1,0,1,0,0] 63):=bE Uz [EQ,EQ,H1,H1] [[1,2,0,0,0]] (@JQ C) (aG an)
noncomputable def aiC (C:ae) (b' to:Int):Option LV:=
 bif (decide (0≤b'))&&((decide (b'≤b'))&&(Nat.ble ((b'.toNat)*8) aX)) then
  (Loop (Yy C to ((List.replicate (b'.toNat) (V.int .i64 0)).length:Int)) (0,List.replicate (b'.toNat) (V.int .i64 0))).bind (un fun Xa=>un fun (lq:Bool) (axf:LV)=>
   some [.list aF axf])
 else none
theorem axg {b' to:Int} {r:Option LV} (h:aiC CC b' to=r):CC vT [V.int .i64 b',V.int .i64 to]=r:=bj (aU (axe CC) an) h
def me (L:Nat) (b:Bool):Da:=⟨L,0,[b],[List.replicate L 0]⟩
def mf (L:Nat):Da:=⟨L,0,[true,false],[List.replicate L 1,List.replicate L 1]⟩
def jY (L x:Nat):Da:=⟨L,0,[EQ,H1,EQ],[tab L fun y=>if y=x then 1 else 2,List.replicate L 2,List.replicate L 2]⟩
theorem A8 {L:Nat} {b:Bool} (h1:1≤L) (h2:L≤6):(me L b).Ok where
 l1:=h1
 l6:=h2
 nN:=rfl
 row:=fun r hr=>by
  obtain rfl:r=List.replicate L 0:=by simpa[me] using hr
  exact ⟨by simp[me],fun q hq=>by have:=List.eq_of_mem_replicate hq;subst this;exact (show 0<1 by decide)⟩
 s:=by show 0<1;omega
 cU:=by show 1≤512;omega
theorem PM {L:Nat} (h1:1≤L) (h2:L≤6):(mf L).Ok where
 l1:=h1
 l6:=h2
 nN:=rfl
 row:=fun r hr=>by
  obtain rfl:r=List.replicate L 1:=by simpa[mf] using hr
  exact ⟨by simp[mf],fun q hq=>by have:=List.eq_of_mem_replicate hq;subst this;exact (show 1<2 by decide)⟩
 s:=by show 0<2;omega
 cU:=by show 2≤512;omega
theorem Yz {L x:Nat} (h1:1≤L) (h2:L≤6):(jY L x).Ok where
 l1:=h1
 l6:=h2
 nN:=rfl
 row:=fun r hr=>by
  have hn:(jY L x).n=3:=rfl;have hl:(jY L x).L=L:=rfl;rw[hn,hl];have:r=(tab L fun y=>if y=x then 1 else 2)∨r=List.replicate L 2:=by simpa[jY] using hr
  rcases this with rfl|rfl
  ·refine ⟨db,fun q hq=> ?_⟩;obtain ⟨y,_,rfl⟩:=uB.1 hq;split<;>omega
  ·exact ⟨by simp,fun q hq=>by have:=List.eq_of_mem_replicate hq;omega⟩
 s:=by show 0<3;omega
 cU:=by show 3≤512;omega
theorem DV {L:Nat} {b:Bool} (h:L=1∨L=2):minD (me L b)=me L b:=by
 have aw:(me L b).Ok:=A8 (by omega) (by omega);refine (Ay aw ⟨aw,rfl,rfl,?_,fun p q hp hq _=> ?_,fun _ _=>rfl⟩).symm
 ·rcases h with rfl|rfl<;>cases b<;>exact ⟨by decide,by decide,by decide⟩
 ·have h1:p<1:=hp;have h2:q<1:=hq;omega
theorem YA {L:Nat} (h:L=1∨L=2):minD (mf L)=mf L:=by
 have aw:(mf L).Ok:=PM (by omega) (by omega);refine (Ay aw ⟨aw,rfl,rfl,?_,fun p q hp hq he=> ?_,fun _ _=>rfl⟩).symm
 ·rcases h with rfl|rfl<;>exact ⟨by decide,by decide,by decide⟩
 ·have h1:p<2:=hp;have h2:q<2:=hq;have h3:=he [] WL.nil;rcases (by omega:p=0∨p=1) with rfl|rfl<;>rcases (by omega:q=0∨q=1) with rfl|rfl
  ·rfl
  ·cases h3
  ·cases h3
  ·rfl
def nB (a:Da):Da:=a.qL fun q=> !(a.fin q)
theorem JR {a:Da} (h:a.Ok):(nB a).Ok:=h.qL
theorem YB {a:Da} (h:a.Ok) (hm:minD a=a):minD (nB a)=nB a:=by
 have hc:=Ax h;rw[hm] at hc;have b9:a.st=0:=hc.st;have hn:(nB a).n=a.n:=Da.A7;have zH: ∀q,q<a.n→∀w,WL a.L w→(nB a).acc q w= !(a.acc q w):=fun q hq w hw=>Da.awZ h hq hw;have kD:(nB a).pos=a.pos:=rfl;have YC: ∀t,(nB a).mt t=a.mt t:=by
  intro t
  induction t with
  | zero=>rfl
  | succ t ih=>
   show (if (nB a).pos t=(nB a).mt t then (nB a).mt t+1 else (nB a).mt t)=(if a.pos t=a.mt t then a.mt t+1 else a.mt t)
   rw[ih,kD]
 have axh:(nB a).VL:=by
  refine ⟨fun t ht=> ?_,fun q hq=> ?_,?_⟩
  ·rw[YC,kD];exact hc.num.le t (by rw[hn] at ht;exact ht)
  ·rw[YC];exact hc.num.row q (by rw[hn] at hq;exact hq)
  ·rw[YC,hn];exact hc.num.all
 refine (Ay (JR h) ⟨JR h,rfl,b9,axh,fun p q hp hq he=> ?_,fun w hw=> ?_⟩).symm
 ·rw[hn] at hp hq;refine hc.red p q hp hq fun w hw=> ?_;have:=he w hw;rw[zH p hp w hw,zH q hq w hw] at this;exact Bool.not_inj this
 ·rw[show (nB a).st=0 from b9]
theorem JS {L v:Nat} {f:Nat→Nat} (h: ∀x,x<L→f x=v):ep L f= .list aF (List.replicate L (.int .i64 (v:Int))):=by
 unfold ep;rw[lu];exact congrArg _ (dR fun x hx=>by rw[h x hx])
theorem JT {L v x:Nat} (h:x<L):(List.replicate L v).getD x 0=v:=by simp[List.getD,h]
theorem aiD {L:Nat} {b:Bool}:(me L b).bz=[.list aF (List.replicate L (.int .i64 0))]:=by
 have:(me L b).bz=[ep L ((me L b).nx 0)]:=rfl;rw[this,JS (L:=L) (f:=(me L b).nx 0) (v:=0) fun x hx=>JT hx];rfl
theorem aiE {L:Nat}:(mf L).bz=[.list aF (List.replicate L (.int .i64 1)),.list aF (List.replicate L (.int .i64 1))]:=by
 have:(mf L).bz=[ep L ((mf L).nx 0),ep L ((mf L).nx 1)]:=rfl;rw[this,JS (f:=(mf L).nx 0) (v:=1) fun x hx=>JT hx,JS (f:=(mf L).nx 1) (v:=1) fun x hx=>JT hx];rfl
theorem aiF {L x:Nat}:(jY L x).bz=[.list aF (tab L fun y=>iV ((if y=x then 1 else 2:Nat):Int)),.list aF (List.replicate L (.int .i64 2)),.list aF (List.replicate L (.int .i64 2))]:=by
 have:(jY L x).bz=[ep L ((jY L x).nx 0),ep L ((jY L x).nx 1),ep L ((jY L x).nx 2)]:=rfl;rw[this,JS (f:=(jY L x).nx 1) (v:=2) fun x hx=>JT hx,JS (f:=(jY L x).nx 2) (v:=2) fun x hx=>JT hx];congr 1;unfold ep;exact congrArg _ (dR fun y hy=>by rw[show (jY L x).nx 0 y=(tab L fun y=>if y=x then 1 else 2).getD y 0 from rfl,xS hy])
theorem DW {L t:Nat} (h:L≤1000):CC vT [.int .i64 (L:Int),.int .i64 (t:Int)]=some [.list aF (List.replicate L (.int .i64 (t:Int)))]:=by
 refine axg ?_;unfold aiC;refine bT (mE (by omega) (by omega)) ?_;rw[Int.toNat_natCast,Bf];have e0:(List.replicate L (V.int .i64 0))=tab L fun j=>if j<0 then V.int .i64 (t:Int) else V.int .i64 0:=by
  rw[lu];exact dR fun j _=>by rw[ag (by omega)]
 rw[e0];refine bs (eh L (fun i=>((i:Int),tab L fun j=>if j<i then V.int .i64 (t:Int) else V.int .i64 0)) ((L:Int),false,List.replicate L (.int .i64 (t:Int))) (fun i hi=> ?_) ?_) rfl
 ·simp only[Yy,JQ,un,aq,aI];refine bT (cN hi) ?_;refine (fu hi).trans ?_;rw[cG (by omega),Int.toNat_natCast,nn];refine congrArg (fun z=>some (Sum.inl (((i+1:Nat):Int),z))) (dR fun j _=> ?_);by_cases h1:j=i
  ·rw[ah h1,ah (by omega)]
  ·rw[ag h1];by_cases h2:j<i
   ·rw[ah h2,ah (by omega)]
   ·rw[ag h2,ag (by omega)]
 ·simp only[Yy,JQ,un,aq,aI];refine bF (bp (az _)) ?_;rw[bp (az _),lu];refine congrArg (fun z=>some (Sum.inr ((L:Int),false,z))) (dR fun j hj=> ?_);rw[ah hj]
inductive wH (K:List Nat→Prop):List Nat→Prop
 | nil:wH K []
 | app {u v:List Nat}:u≠[]→K u→wH K v→wH K (u++v)
section
variable {K:List Nat→Prop}
theorem wH.one {w:List Nat} (h:K w):wH K w:=by
 by_cases hw:w=[]
 ·rw[hw];exact .nil
 ·have:=wH.app hw h .nil;rwa [j4] at this
theorem wH.ext {K2:List Nat→Prop} {L:Nat} (h: ∀u,WL L u→(K u↔K2 u)) {w:List Nat} (hw:WL L w):wH K w↔wH K2 w:=by
 constructor
 ·intro hr
  induction hr with
  | nil=>exact .nil
  | app g1 g2 _ ih=>exact .app g1 ((h _ (WL.app.1 hw).1).1 g2) (ih (WL.app.1 hw).2)
 ·intro hr
  induction hr with
  | nil=>exact .nil
  | app g1 g2 _ ih=>exact .app g1 ((h _ (WL.app.1 hw).1).2 g2) (ih (WL.app.1 hw).2)
end
section
variable {m:Da} (hm:m.Ok)
include hm
end
section
variable {m:Da} (hm:m.Ok)
include hm
end
def Ed.rev (e:Ed):Ed:=⟨e.t,e.l,e.f⟩
@[simp] theorem Ed.rev_rev (e:Ed):e.rev.rev=e:=rfl
theorem WL.rev {L:Nat} {w:List Nat} (h:WL L w):WL L w.reverse:=fun x hx=>h x (List.mem_reverse.1 hx)
section
variable {m:Da} (hm:m.Ok)
include hm
end
section
variable {m:Da} (hm:m.Ok)
include hm
end
end Go.AM
set_option maxRecDepth 100000
namespace Go.AM
open Go.IntKind (wrap)
open Go.Proofs
namespace Da
end Da
structure tt (X:Da) (L:Nat) (K:List Nat→Prop):Prop where
 ok:X.Ok
 hL:X.L=L
 min:minD X=X
 rF: ∀w,WL L w→(X.acc X.st w=true↔K w)
theorem tt.eq {X Y:Da} {L:Nat} {K K':List Nat→Prop} (h:tt X L K) (h':tt Y L K') (e: ∀w,WL L w→(K w↔K' w)):X=Y:=by
 rw[←h.min,←h'.min];refine aga h.ok h'.ok (h.hL.trans h'.hL.symm) fun w hw=> ?_;have nf:WL L w:=h.hL▸hw;rw[nJ,h.rF w nf,h'.rF w nf,e w nf]
theorem tt.ext {X:Da} {L:Nat} {K K':List Nat→Prop} (h:tt X L K) (e: ∀w,WL L w→(K w↔K' w)):tt X L K':=⟨h.ok,h.hL,h.min,fun w hw=>(h.rF w hw).trans (e w hw)⟩
theorem tt.acc {X:Da} {L:Nat} {K:List Nat→Prop} (h:tt X L K) {w:List Nat} (hw:WL L w) {b:Bool} (e:K w↔b=true):X.acc X.st w=b:=by
 rw[nJ,h.rF w hw,e]
section
variable {L S st fin:Nat} {l:List Ed} (h:A0 L S st fin l)
include h
theorem axi (hn: ¬jV (dZ L S st fin l) L S):tt (iz (dZ L S st fin l) L S) L (JK st fin l) where
 ok:=awD h hn
 hL:=awE h hn
 min:=by
  unfold iz;rw[ag hn];exact O3 (AJ (uT h) hn)
 rF:=fun _ hw=>awF h hn hw
theorem axj (hn: ¬jV (dZ L S st fin l) L S):(iz (dZ L S st fin l) L S).n≤2^S:=by
 have h1:=ar2 (AJ (uT h) hn);have h2:=Dm (uT h) (2^S);have h3:(ia (dZ L S st fin l) L S).n=(fM (dZ L S st fin l) L S).length:=nk;unfold iz;rw[ag hn];unfold fM at h3;omega
theorem aiG:(mO (dZ L S st fin l) L S=0∧tt (iz (dZ L S st fin l) L S) L (JK st fin l)∧(iz (dZ L S st fin l) L S).n≤2^S)∨(mO (dZ L S st fin l) L S=3∧iz (dZ L S st fin l) L S=zD∧9<S):=by
 by_cases hn:jV (dZ L S st fin l) L S
 ·refine .inr ⟨ah hn,ah hn,?_⟩;rcases fH 9 S with c|c
  ·exact c
  ·exact absurd hn (awG h c)
 ·exact .inl ⟨ag hn,axi h hn,axj h hn⟩
end
def aiH (r:Option (List V)) (L S:Nat) (K:List Nat→Prop):Prop:=(∃X,r=some (lW X 0)∧tt X L K∧X.n≤2^S)∨(r=some (lW zD 3)∧9<S)
theorem aiH.of {L S st fin:Nat} {l:List Ed} (h:A0 L S st fin l) {r:Option (List V)} (e:r=some (lW (iz (dZ L S st fin l) L S) (mO (dZ L S st fin l) L S))) {K:List Nat→Prop} (hK: ∀w,WL L w→(JK st fin l w↔K w)):aiH r L S K:=by
 rcases aiG h with ⟨h1,h2,h3⟩|⟨h1,h2,h3⟩
 ·exact .inl ⟨_,by rw[e,h1],h2.ext hK,h3⟩
 ·exact .inr ⟨by rw[e,h1,h2],h3⟩
end Go.AM
set_option maxRecDepth 100000
namespace Go.AM
open Go.IntKind (wrap)
open Go.Proofs
noncomputable def aiI (C:ae) (all:Bool) (dC:Int) (aR ca bC:LV):Option LV:=
 (C vT [V.int .i64 dC,V.int .i64 0]).bind fun r1=>
 some [V.int .i64 dC,V.int .i64 0,V.int .i64 dC,.list dX ca,.list dY bC,.list ao ([.bool all]:LV),.list ar ([.list aF ((V.nth r1 0).toList)]:LV),.list dA aR]
theorem axk {all:Bool} {dC:Int} {aR ca bC:LV} {r:Option LV} (h:aiI CC all dC aR ca bC=r):CC F9 [.bool all,V.int .i64 dC,.list dA aR,.list dX ca,.list dY bC]=r:=bj (L:=bm) an h
noncomputable def aiJ (C:ae) (dC:Int) (aR ca bC:LV):Option LV:=
 (C vT [V.int .i64 dC,V.int .i64 1]).bind fun r1=>
 (C vT [V.int .i64 dC,V.int .i64 1]).bind fun r2=>
 some [V.int .i64 dC,V.int .i64 0,V.int .i64 dC,.list dX ca,.list dY bC,.list ao ([.bool true,.bool false]:LV),.list ar ([.list aF ((V.nth r1 0).toList),.list aF ((V.nth r2 0).toList)]:LV),.list dA aR]
theorem axl {dC:Int} {aR ca bC:LV} {r:Option LV} (h:aiJ CC dC aR ca bC=r):CC MK [V.int .i64 dC,.list dA aR,.list dX ca,.list dY bC]=r:=bj (L:=bm) an h
noncomputable def aiK (C:ae) (a dC:Int) (aR ca bC:LV):Option LV:=
 (C vT [V.int .i64 dC,V.int .i64 2]).bind fun r1=>
 aq ((V.nth r1 0).toList) a fun x2=>
 (C vT [V.int .i64 dC,V.int .i64 2]).bind fun r3=>
 (C vT [V.int .i64 dC,V.int .i64 2]).bind fun r4=>
 (C vU [V.int .i64 dC,V.int .i64 0,.list ao ([.bool false,.bool true,.bool false]:LV),.list ar ([.list aF (aI ((V.nth r1 0).toList) a (V.int .i64 1)),.list aF ((V.nth r3 0).toList),.list aF ((V.nth r4 0).toList)]:LV)]).bind fun r5=>
 some [V.int .i64 ((V.nth r5 0).toInt),V.int .i64 ((V.nth (r5.drop 1) 0).toInt),V.int .i64 dC,.list dX ca,.list dY bC,.list ao ((V.nth (r5.drop 2) 0).toList),.list ar ((V.nth ((r5.drop 2).drop 1) 0).toList),.list dA aR]
theorem axm {a dC:Int} {aR ca bC:LV} {r:Option LV} (h:aiK CC a dC aR ca bC=r):CC ML [V.int .i64 a,V.int .i64 dC,.list dA aR,.list dX ca,.list dY bC]=r:=bj (L:=bm) an h
noncomputable def aiL (C:ae) (cj cQ cv cW dC:Int) (aR ca bC:LV):Option LV:=
 bif cj==1 then
  (C F9 [.bool false,V.int .i64 dC,.list dA aR,.list dX ca,.list dY bC]).bind fun r1=>
  some [V.int .i64 ((V.nth r1 0).toInt),V.int .i64 ((V.nth (r1.drop 1) 0).toInt),V.int .i64 0,V.int .i64 ((V.nth (r1.drop 2) 0).toInt),.list dX ((V.nth ((r1.drop 2).drop 1) 0).toList),.list dY ((V.nth (((r1.drop 2).drop 1).drop 1) 0).toList),.list ao ((V.nth ((((r1.drop 2).drop 1).drop 1).drop 1) 0).toList),.list ar ((V.nth (((((r1.drop 2).drop 1).drop 1).drop 1).drop 1) 0).toList),.list dA ((V.nth ((((((r1.drop 2).drop 1).drop 1).drop 1).drop 1).drop 1) 0).toList)]
 else
  bif cj==2 then
  (C MK [V.int .i64 dC,.list dA aR,.list dX ca,.list dY bC]).bind fun r2=>
  some [V.int .i64 ((V.nth r2 0).toInt),V.int .i64 ((V.nth (r2.drop 1) 0).toInt),V.int .i64 0,V.int .i64 ((V.nth (r2.drop 2) 0).toInt),.list dX ((V.nth ((r2.drop 2).drop 1) 0).toList),.list dY ((V.nth (((r2.drop 2).drop 1).drop 1) 0).toList),.list ao ((V.nth ((((r2.drop 2).drop 1).drop 1).drop 1) 0).toList),.list ar ((V.nth (((((r2.drop 2).drop 1).drop 1).drop 1).drop 1) 0).toList),.list dA ((V.nth ((((((r2.drop 2).drop 1).drop 1).drop 1).drop 1).drop 1) 0).toList)]
  else
  bif cj==3 then
   (C ML [V.int .i64 cQ,V.int .i64 dC,.list dA aR,.list dX ca,.list dY bC]).bind fun r3=>
   some [V.int .i64 ((V.nth r3 0).toInt),V.int .i64 ((V.nth (r3.drop 1) 0).toInt),V.int .i64 0,V.int .i64 ((V.nth (r3.drop 2) 0).toInt),.list dX ((V.nth ((r3.drop 2).drop 1) 0).toList),.list dY ((V.nth (((r3.drop 2).drop 1).drop 1) 0).toList),.list ao ((V.nth ((((r3.drop 2).drop 1).drop 1).drop 1) 0).toList),.list ar ((V.nth (((((r3.drop 2).drop 1).drop 1).drop 1).drop 1) 0).toList),.list dA ((V.nth ((((((r3.drop 2).drop 1).drop 1).drop 1).drop 1).drop 1) 0).toList)]
  else
   bif cj==4 then
   (C F9 [.bool true,V.int .i64 dC,.list dA aR,.list dX ca,.list dY bC]).bind fun r4=>
   some [V.int .i64 ((V.nth r4 0).toInt),V.int .i64 ((V.nth (r4.drop 1) 0).toInt),V.int .i64 0,V.int .i64 ((V.nth (r4.drop 2) 0).toInt),.list dX ((V.nth ((r4.drop 2).drop 1) 0).toList),.list dY ((V.nth (((r4.drop 2).drop 1).drop 1) 0).toList),.list ao ((V.nth ((((r4.drop 2).drop 1).drop 1).drop 1) 0).toList),.list ar ((V.nth (((((r4.drop 2).drop 1).drop 1).drop 1).drop 1) 0).toList),.list dA ((V.nth ((((((r4.drop 2).drop 1).drop 1).drop 1).drop 1).drop 1) 0).toList)]
   else
   bif cj==5 then
    aq aR cv fun x5=>
    aq aR cW fun x6=>
    (C Cu [V.int .i64 ((x5.cell 0).toInt),V.int .i64 ((x5.cell 1).toInt),.list ao ((x5.cell 2).toList),.list ar ((x5.cell 3).toList),V.int .i64 ((x6.cell 0).toInt),V.int .i64 ((x6.cell 1).toInt),.list ao ((x6.cell 2).toList),.list ar ((x6.cell 3).toList),V.int .i64 14]).bind fun r7=>
    some [V.int .i64 ((V.nth r7 0).toInt),V.int .i64 ((V.nth (r7.drop 1) 0).toInt),V.int .i64 ((V.nth (r7.drop 2) 0).toInt),V.int .i64 dC,.list dX ca,.list dY bC,.list ao ((V.nth (r7.drop 3) 0).toList),.list ar ((V.nth ((r7.drop 3).drop 1) 0).toList),.list dA aR]
   else
    bif cj==6 then
    aq aR cv fun x8=>
    aq aR cW fun x9=>
    (C Cu [V.int .i64 ((x8.cell 0).toInt),V.int .i64 ((x8.cell 1).toInt),.list ao ((x8.cell 2).toList),.list ar ((x8.cell 3).toList),V.int .i64 ((x9.cell 0).toInt),V.int .i64 ((x9.cell 1).toInt),.list ao ((x9.cell 2).toList),.list ar ((x9.cell 3).toList),V.int .i64 8]).bind fun JU=>
    some [V.int .i64 ((V.nth JU 0).toInt),V.int .i64 ((V.nth (JU.drop 1) 0).toInt),V.int .i64 ((V.nth (JU.drop 2) 0).toInt),V.int .i64 dC,.list dX ca,.list dY bC,.list ao ((V.nth (JU.drop 3) 0).toList),.list ar ((V.nth ((JU.drop 3).drop 1) 0).toList),.list dA aR]
    else
    bif cj==7 then
     aq aR cv fun gj=>
     aq aR cW fun lz=>
     (C Ga [V.int .i64 ((gj.cell 0).toInt),V.int .i64 ((gj.cell 1).toInt),.list ao ((gj.cell 2).toList),.list ar ((gj.cell 3).toList),V.int .i64 ((lz.cell 0).toInt),V.int .i64 ((lz.cell 1).toInt),.list ao ((lz.cell 2).toList),.list ar ((lz.cell 3).toList)]).bind fun qA=>
     some [V.int .i64 ((V.nth qA 0).toInt),V.int .i64 ((V.nth (qA.drop 1) 0).toInt),V.int .i64 ((V.nth (qA.drop 2) 0).toInt),V.int .i64 dC,.list dX ca,.list dY bC,.list ao ((V.nth (qA.drop 3) 0).toList),.list ar ((V.nth ((qA.drop 3).drop 1) 0).toList),.list dA aR]
    else
     aq aR cv fun ko=>
     (C MM [V.int .i64 ((ko.cell 0).toInt),V.int .i64 ((ko.cell 1).toInt),.list ao ((ko.cell 2).toList),.list ar ((ko.cell 3).toList)]).bind fun fx=>
     some [V.int .i64 ((V.nth fx 0).toInt),V.int .i64 ((V.nth (fx.drop 1) 0).toInt),V.int .i64 0,V.int .i64 dC,.list dX ca,.list dY bC,.list ao ((V.nth (fx.drop 2) 0).toList),.list ar ((V.nth ((fx.drop 2).drop 1) 0).toList),.list dA aR]
theorem axn {cj cQ cv cW dC:Int} {aR ca bC:LV} {r:Option LV} (h:aiL CC cj cQ cv cW dC aR ca bC=r):CC MD [V.int .i64 cj,V.int .i64 cQ,V.int .i64 cv,V.int .i64 cW,V.int .i64 dC,.list dA aR,.list dX ca,.list dY bC]=r:=bj (L:=bm) an h
open Classical in
noncomputable def gA (L op x:Nat) (p q:Da):Option Da:=
 if op=1 then some (me L false) else if op=2 then some (mf L) else if op=3 then some (minD (jY L x)) else if op=4 then some (me L true)
 else if op=5 then (if iF (minD p) (minD q) then none else some (wq p q 14))
 else if op=6 then (if iF (minD p) (minD q) then none else some (wq p q 8))
 else if op=7 then (if 64<(minD p).n+(minD q).n then none else if mO (mc (minD p) (minD q)) p.L ((minD p).n+(minD q).n)=0 then some (iz (mc (minD p) (minD q)) p.L ((minD p).n+(minD q).n)) else none)
 else some (nB p)
def fe (A:List Da):LV:=A.map fun X=> .agg (dh X)
def axo (L:Nat) (m2 m3 A:LV):Option Da→LV
 | some X=>[.int .i64 (X.L:Int),.int .i64 (X.st:Int),.int .i64 0,.int .i64 (L:Int),.list dX m2,.list dY m3,.list ao X.bI,.list ar X.bz,.list dA A]
 | none=>[.int .i64 0,.int .i64 0,.int .i64 3,.int .i64 (L:Int),.list dX m2,.list dY m3,.list ao [],.list ar [],.list dA A]
structure Gd (X:Da) (L:Nat):Prop where
 ok:X.Ok
 hL:X.L=L
 min:minD X=X
theorem YD {p q:Da} (hp:p.Ok) (hq:q.Ok) (hL:p.L=q.L) (hs:(minD p).n+(minD q).n≤64):
  (mO (mc (minD p) (minD q)) p.L ((minD p).n+(minD q).n)=0∧Gd (iz (mc (minD p) (minD q)) p.L ((minD p).n+(minD q).n)) p.L)∨(mO (mc (minD p) (minD q)) p.L ((minD p).n+(minD q).n)=3∧iz (mc (minD p) (minD q)) p.L ((minD p).n+(minD q).n)=zD):=by
 have hr:=PF (fc hp) (fc hq) (by rw[oo hp,oo hq,hL]) hs;have h1:=aiG hr;have e:dZ (minD p).L ((minD p).n+(minD q).n) (wG (minD p) (minD q)) (DS (minD p) (minD q)) (yu (minD p) (minD q))=mc (minD p) (minD q):=rfl;rw[e,oo hp] at h1;rcases h1 with ⟨h1,h2,_⟩|⟨h1,h2,_⟩
 ·exact .inl ⟨h1,h2.ok,h2.hL,h2.min⟩
 ·exact .inr ⟨h1,h2⟩
section
variable {L x:Nat} {p q:Da}
theorem YE:gA L 1 x p q=some (me L false):=rfl
theorem YF:gA L 2 x p q=some (mf L):=rfl
theorem YG:gA L 3 x p q=some (minD (jY L x)):=rfl
theorem YH:gA L 4 x p q=some (me L true):=rfl
theorem axp (h:iF (minD p) (minD q)):gA L 5 x p q=none:=by simp[gA,h]
theorem YI (h: ¬iF (minD p) (minD q)):gA L 5 x p q=some (wq p q 14):=by simp[gA,h]
theorem axq (h:iF (minD p) (minD q)):gA L 6 x p q=none:=by simp[gA,h]
theorem YJ (h: ¬iF (minD p) (minD q)):gA L 6 x p q=some (wq p q 8):=by simp[gA,h]
theorem axr (h:64<(minD p).n+(minD q).n):gA L 7 x p q=none:=by simp[gA,h]
theorem axs (h: ¬64<(minD p).n+(minD q).n) (h1:mO (mc (minD p) (minD q)) p.L ((minD p).n+(minD q).n)=3):gA L 7 x p q=none:=by
 have e: ¬mO (mc (minD p) (minD q)) p.L ((minD p).n+(minD q).n)=0:=by rw[h1];decide
 simp[gA,h,e]
theorem YK (h: ¬64<(minD p).n+(minD q).n) (h1:mO (mc (minD p) (minD q)) p.L ((minD p).n+(minD q).n)=0):gA L 7 x p q=some (iz (mc (minD p) (minD q)) p.L ((minD p).n+(minD q).n)):=by
 unfold gA;rw[ag (by omega),ag (by omega),ag (by omega),ag (by omega),ag (by omega),ag (by omega),ah rfl,ag h,ah h1]
theorem YL:gA L 8 x p q=some (nB p):=rfl
end
theorem PN {L op x:Nat} {p q X:Da} (hL:L=1∨L=2) (hp:5≤op→Gd p L) (hq:5≤op→op≠8→Gd q L) (h1:1≤op) (h8:op≤8) (h:gA L op x p q=some X):Gd X L:=by
 have hc: ∀{o:Nat},5≤op→op≠8→(¬iF (minD p) (minD q))→Gd (wq p q o) L:=fun {o} h5 h8 hn=>by
  have hp:=hp h5;have hq:=hq h5 h8;have iI:p.L=q.L:=by rw[hp.hL,hq.hL]
  exact ⟨ar4 hp.ok hq.ok iI hn,(ar5 hp.ok hq.ok iI hn).trans hp.hL,O3 (HW (fc hp.ok) (fc hq.ok) (td hp.ok hq.ok iI) hn)⟩
 unfold gA at h;split at h
 ·cases h;exact ⟨A8 (by omega) (by omega),rfl,DV hL⟩
 split at h
 ·cases h;exact ⟨PM (by omega) (by omega),rfl,YA hL⟩
 split at h
 ·cases h;have:=Yz (L:=L) (x:=x) (by omega) (by omega);exact ⟨fc this,oo this,O3 this⟩
 split at h
 ·cases h;exact ⟨A8 (by omega) (by omega),rfl,DV hL⟩
 split at h
 ·split at h
  ·cases h
  ·cases h;exact hc (by omega) (by omega) (by assumption)
 split at h
 ·split at h
  ·cases h
  ·cases h;exact hc (by omega) (by omega) (by assumption)
 split at h
 ·split at h
  ·cases h
  ·have hp:=hp (by omega);have hq:=hq (by omega) (by omega);split at h
   ·rename_i h1;cases h;rcases YD hp.ok hq.ok (by rw[hp.hL,hq.hL]) (by omega) with ⟨_,h2⟩|⟨h2,_⟩
    ·exact ⟨h2.ok,h2.hL.trans hp.hL,h2.min⟩
    ·rw[h2] at h1;cases h1
   ·cases h
 ·cases h;have hp:=hp (by omega);exact ⟨JR hp.ok,hp.hL,YB hp.ok hp.min⟩
section
variable {L:Nat} (hL:L=1∨L=2) {A m2 m3:LV}
include hL
theorem aiM {b:Bool}:CC F9 [.bool b,.int .i64 (L:Int),.list dA A,.list dX m2,.list dY m3]=
  some [.int .i64 (L:Int),.int .i64 0,.int .i64 (L:Int),.list dX m2,.list dY m3,.list ao (me L b).bI,.list ar (me L b).bz,.list dA A]:=by
 refine axk ?_;unfold aiI;refine bs (DW (t:=0) (by omega)) ?_;rw[aiD];rfl
theorem axt:CC MK [.int .i64 (L:Int),.list dA A,.list dX m2,.list dY m3]=
  some [.int .i64 (L:Int),.int .i64 0,.int .i64 (L:Int),.list dX m2,.list dY m3,.list ao (mf L).bI,.list ar (mf L).bz,.list dA A]:=by
 refine axl ?_;unfold aiJ;refine bs (DW (t:=1) (by omega)) ?_;refine bs (DW (t:=1) (by omega)) ?_;rw[aiE];rfl
theorem axu {x:Nat}:dh (jY L x)=[.int .i64 (L:Int),.int .i64 0,.list ao [.bool false,.bool true,.bool false],.list ar [.list aF (aI (List.replicate L (.int .i64 2)) (x:Int) (.int .i64 1)),.list aF (List.replicate L (.int .i64 2)),.list aF (List.replicate L (.int .i64 2))]]:=by
 unfold dh dN;rw[aiF];have e:(tab L fun y=>iV ((if y=x then 1 else 2:Nat):Int))=aI (List.replicate L (.int .i64 2)) (x:Int) (.int .i64 1):=by
  unfold aI;rw[lu,Int.toNat_natCast,nn];refine dR fun y _=> ?_;by_cases h:y=x
  ·rw[ah h,ah h];rfl
  ·rw[ag h,ag h];rfl
 rw[e];rfl
theorem axv {x:Nat} (hx:x<L):CC ML [.int .i64 (x:Int),.int .i64 (L:Int),.list dA A,.list dX m2,.list dY m3]=
  some [.int .i64 ((minD (jY L x)).L:Int),.int .i64 ((minD (jY L x)).st:Int),.int .i64 (L:Int),.list dX m2,.list dY m3,.list ao (minD (jY L x)).bI,.list ar (minD (jY L x)).bz,.list dA A]:=by
 have hm:=HS (Yz (L:=L) (x:=x) (by omega) (by omega));rw[axu hL] at hm;refine axm ?_;unfold aiK aq;refine bs (DW (t:=2) (by omega)) ?_;refine (eo (i:=x) (v:= .int .i64 2) (by rw[V.ct,V.ki];simp[hx])).trans ?_;refine bs (DW (t:=2) (by omega)) ?_;refine bs (DW (t:=2) (by omega)) ?_;refine bs hm ?_;rfl
end
theorem jd {A:List Da} {a:Nat} (h:a<A.length):(fe A)[a]? =some (.agg (dh (A.getD a zD))):=by
 simp[fe,h]
theorem mQ {A:List Da} {a:Nat} (h:a<A.length):A.getD a zD∈A:=by
 rw[fG h];exact ff h
theorem axw {L op x a b:Nat} {A:List Da} {m2 m3:LV} (hL:L=1∨L=2) (o1:1≤op) (o8:op≤8) (hx:op=3→x<L) (hA: ∀X∈A,Gd X L) (ha:5≤op→a<A.length) (hb:5≤op→op≠8→b<A.length):
  CC MD [.int .i64 (op:Int),.int .i64 (x:Int),.int .i64 (a:Int),.int .i64 (b:Int),.int .i64 (L:Int),.list dA (fe A),.list dX m2,.list dY m3]=
   some (axo L m2 m3 (fe A) (gA L op x (A.getD a zD) (A.getD b zD))):=by
 refine axn ?_;unfold aiL aq;rcases (by omega:op=1∨op=2∨op=3∨op=4∨op=5∨op=6∨op=7∨op=8) with rfl|rfl|rfl|rfl|rfl|rfl|rfl|rfl
 ·refine bT rfl (bs (aiM hL) ?_);rfl
 ·refine bF rfl (bT rfl (bs (axt hL) ?_));rfl
 ·refine bF rfl (bF rfl (bT rfl (bs (axv hL (hx rfl)) ?_)));rfl
 ·refine bF rfl (bF rfl (bF rfl (bT rfl (bs (aiM hL) ?_))));rfl
 ·have ha:=ha (by omega);have hb:=hb (by omega) (by omega);have gp:=hA _ (mQ ha);have gq:=hA _ (mQ hb);have iI:(A.getD a zD).L=(A.getD b zD).L:=by rw[gp.hL,gq.hL]
  refine bF rfl (bF rfl (bF rfl (bF rfl (bT rfl ?_))));refine (eo (jd ha)).trans ((eo (jd hb)).trans ?_)
  by_cases hn:iF (minD (A.getD a zD)) (minD (A.getD b zD))
  ·rw[axp hn];refine bs (agf gp.ok gq.ok iI (op:=14) (by omega) hn) ?_;rfl
  ·rw[YI hn];refine bs (age gp.ok gq.ok iI (op:=14) (by omega) hn) ?_;rfl
 ·have ha:=ha (by omega);have hb:=hb (by omega) (by omega);have gp:=hA _ (mQ ha);have gq:=hA _ (mQ hb);have iI:(A.getD a zD).L=(A.getD b zD).L:=by rw[gp.hL,gq.hL]
  refine bF rfl (bF rfl (bF rfl (bF rfl (bF rfl (bT rfl ?_)))));refine (eo (jd ha)).trans ((eo (jd hb)).trans ?_)
  by_cases hn:iF (minD (A.getD a zD)) (minD (A.getD b zD))
  ·rw[axq hn];refine bs (agf gp.ok gq.ok iI (op:=8) (by omega) hn) ?_;rfl
  ·rw[YJ hn];refine bs (age gp.ok gq.ok iI (op:=8) (by omega) hn) ?_;rfl
 ·have ha:=ha (by omega);have hb:=hb (by omega) (by omega);have gp:=hA _ (mQ ha);have gq:=hA _ (mQ hb);have iI:(A.getD a zD).L=(A.getD b zD).L:=by rw[gp.hL,gq.hL]
  refine bF rfl (bF rfl (bF rfl (bF rfl (bF rfl (bF rfl (bT rfl ?_))))));refine (eo (jd ha)).trans ((eo (jd hb)).trans ?_)
  by_cases hs:64<(minD (A.getD a zD)).n+(minD (A.getD b zD)).n
  ·rw[axr hs];refine bs (awP gp.ok gq.ok iI hs) ?_;rfl
  ·have hk:=awO gp.ok gq.ok iI (Bm hs);rcases YD gp.ok gq.ok iI (Bm hs) with ⟨h1,_⟩|⟨h1,h2⟩
   ·rw[YK hs h1];rw[h1] at hk;refine bs hk ?_;rfl
   ·rw[axs hs h1];rw[h1,h2] at hk;refine bs hk ?_;rfl
 ·have ha:=ha (by omega);have gp:=hA _ (mQ ha);refine bF rfl (bF rfl (bF rfl (bF rfl (bF rfl (bF rfl (bF rfl ?_))))));refine (eo (jd ha)).trans ?_;refine bs (aw3 gp.ok) ?_;rfl
theorem JV {L op x:Nat} {p q p' q':Da} (h1:1≤op) (h8:op≤8) (hp:5≤op→p=p') (hq:5≤op→op≠8→q=q'):gA L op x p q=gA L op x p' q':=by
 rcases (by omega:op=1∨op=2∨op=3∨op=4∨op=5∨op=6∨op=7∨op=8) with rfl|rfl|rfl|rfl|rfl|rfl|rfl|rfl
 ·exact YE.trans YE.symm
 ·exact YF.trans YF.symm
 ·exact YG.trans YG.symm
 ·exact YH.trans YH.symm
 ·rw[hp (by omega),hq (by omega) (by omega)]
 ·rw[hp (by omega),hq (by omega) (by omega)]
 ·rw[hp (by omega),hq (by omega) (by omega)]
 ·rw[YL,YL,hp (by omega)]
noncomputable def aiN (C:ae) (i base:Int) (mg:LV):Option LV:=
 bif base==10 then
  bif decide (i<100) then
  (C MV [V.int .i64 (wrap .i64 i)]).bind fun r1=>
  bif Nat.ble ((mg.length+(((V.nth r1 0).toStr).map vg).length)*1) aX then
   some [.list fF (mg++(((V.nth r1 0).toStr).map vg))]
  else none
  else
  (C MW [.int .u64 i]).bind fun r2=>
  bif (Nat.beq ([.int .u8 0,.int .u8 0,.int .u8 0,.int .u8 0,.int .u8 0,.int .u8 0,.int .u8 0,.int .u8 0,.int .u8 0,.int .u8 0,.int .u8 0,.int .u8 0,.int .u8 0,.int .u8 0,.int .u8 0,.int .u8 0,.int .u8 0,.int .u8 0,.int .u8 0,.int .u8 0,.int .u8 0,.int .u8 0,.int .u8 0,.int .u8 0]:LV).length 24)&&true then
   bif (decide (0≤((V.nth r2 0).toInt)))&&(decide (((V.nth r2 0).toInt)≤24)) then
   (C MX [fh 0,fh ((((V.nth r2 0).toInt:Int).toNat)-0),.int .u64 i,.list fF ([.int .u8 0,.int .u8 0,.int .u8 0,.int .u8 0,.int .u8 0,.int .u8 0,.int .u8 0,.int .u8 0,.int .u8 0,.int .u8 0,.int .u8 0,.int .u8 0,.int .u8 0,.int .u8 0,.int .u8 0,.int .u8 0,.int .u8 0,.int .u8 0,.int .u8 0,.int .u8 0,.int .u8 0,.int .u8 0,.int .u8 0,.int .u8 0]:LV)]).bind fun r3=>
   bif (Nat.beq ((V.nth r3 0).toList).length 24)&&true then
    bif (decide (0≤((V.nth r2 0).toInt)))&&(decide (((V.nth r2 0).toInt)≤24)) then
    bif Nat.ble ((mg.length+((((V.nth r3 0).toList).drop 0).take ((((V.nth r2 0).toInt:Int).toNat)-0)).length)*1) aX then
     some [.list fF (mg++((((V.nth r3 0).toList).drop 0).take ((((V.nth r2 0).toInt:Int).toNat)-0)))]
    else none
    else none
   else none
   else none
  else none
 else none
theorem axx {i base:Int} {mg:LV} {r:Option LV} (h:aiN CC i base mg=r):CC Gt [.int .u64 i,V.int .i64 base,.list fF mg]=r:=bj (L:=bm) an h
noncomputable def PO (C:ae) (aO bR:Nat) (u nd:Int) (iA:LV) {β:Type} (kn:(Int×Int×LV)→Option β) (kr:(Int×Int×Bool×LV)→Option β):Option β:=
 bif decide (nd≥8) then
  (bif decide (0≤(wrap .u32 ((wrap .u32 (2*(Int.tmod (Int.tmod (wrap .u32 (Int.tmod u 100000000)) 10000) 100)))+1))) then (pA[(wrap .u32 ((wrap .u32 (2*(Int.tmod (Int.tmod (wrap .u32 (Int.tmod u 100000000)) 10000) 100)))+1):Int).toNat]?).map fun b=>V.int .u8 b.toNat else none).bind fun x1=>
  (bif decide (0≤(wrap .u32 (2*(Int.tmod (Int.tmod (wrap .u32 (Int.tmod u 100000000)) 10000) 100)))) then (pA[(wrap .u32 (2*(Int.tmod (Int.tmod (wrap .u32 (Int.tmod u 100000000)) 10000) 100)):Int).toNat]?).map fun b=>V.int .u8 b.toNat else none).bind fun x2=>
  bif (decide (0≤(wrap .i64 (nd-1))))&&(decide ((wrap .i64 (nd-1))<(bR:Int))) then
  (iA[aO+((wrap .i64 (nd-1):Int).toNat)]?).bind fun x3=>
  bif (decide (0≤(wrap .i64 (nd-2))))&&(decide ((wrap .i64 (nd-2))<(bR:Int))) then
   ((iA.set (aO+((wrap .i64 (nd-1):Int).toNat)) (.int .u8 x1.toInt))[aO+((wrap .i64 (nd-2):Int).toNat)]?).bind fun x4=>
   (bif decide (0≤(wrap .u32 ((wrap .u32 (2*(wrap .u32 (Int.tdiv (Int.tmod (wrap .u32 (Int.tmod u 100000000)) 10000) 100))))+1))) then (pA[(wrap .u32 ((wrap .u32 (2*(wrap .u32 (Int.tdiv (Int.tmod (wrap .u32 (Int.tmod u 100000000)) 10000) 100))))+1):Int).toNat]?).map fun b=>V.int .u8 b.toNat else none).bind fun x5=>
   (bif decide (0≤(wrap .u32 (2*(wrap .u32 (Int.tdiv (Int.tmod (wrap .u32 (Int.tmod u 100000000)) 10000) 100))))) then (pA[(wrap .u32 (2*(wrap .u32 (Int.tdiv (Int.tmod (wrap .u32 (Int.tmod u 100000000)) 10000) 100))):Int).toNat]?).map fun b=>V.int .u8 b.toNat else none).bind fun x6=>
   bif (decide (0≤(wrap .i64 (nd-3))))&&(decide ((wrap .i64 (nd-3))<(bR:Int))) then
   (((iA.set (aO+((wrap .i64 (nd-1):Int).toNat)) (.int .u8 x1.toInt)).set (aO+((wrap .i64 (nd-2):Int).toNat)) (.int .u8 x2.toInt))[aO+((wrap .i64 (nd-3):Int).toNat)]?).bind fun x7=>
   bif (decide (0≤(wrap .i64 (nd-4))))&&(decide ((wrap .i64 (nd-4))<(bR:Int))) then
    ((((iA.set (aO+((wrap .i64 (nd-1):Int).toNat)) (.int .u8 x1.toInt)).set (aO+((wrap .i64 (nd-2):Int).toNat)) (.int .u8 x2.toInt)).set (aO+((wrap .i64 (nd-3):Int).toNat)) (.int .u8 x5.toInt))[aO+((wrap .i64 (nd-4):Int).toNat)]?).bind fun x8=>
    (bif decide (0≤(wrap .u32 ((wrap .u32 (2*(Int.tmod (wrap .u32 (Int.tdiv (wrap .u32 (Int.tmod u 100000000)) 10000)) 100)))+1))) then (pA[(wrap .u32 ((wrap .u32 (2*(Int.tmod (wrap .u32 (Int.tdiv (wrap .u32 (Int.tmod u 100000000)) 10000)) 100)))+1):Int).toNat]?).map fun b=>V.int .u8 b.toNat else none).bind fun x9=>
    (bif decide (0≤(wrap .u32 (2*(Int.tmod (wrap .u32 (Int.tdiv (wrap .u32 (Int.tmod u 100000000)) 10000)) 100)))) then (pA[(wrap .u32 (2*(Int.tmod (wrap .u32 (Int.tdiv (wrap .u32 (Int.tmod u 100000000)) 10000)) 100)):Int).toNat]?).map fun b=>V.int .u8 b.toNat else none).bind fun lA=>
    bif (decide (0≤(wrap .i64 (nd-5))))&&(decide ((wrap .i64 (nd-5))<(bR:Int))) then
    (((((iA.set (aO+((wrap .i64 (nd-1):Int).toNat)) (.int .u8 x1.toInt)).set (aO+((wrap .i64 (nd-2):Int).toNat)) (.int .u8 x2.toInt)).set (aO+((wrap .i64 (nd-3):Int).toNat)) (.int .u8 x5.toInt)).set (aO+((wrap .i64 (nd-4):Int).toNat)) (.int .u8 x6.toInt))[aO+((wrap .i64 (nd-5):Int).toNat)]?).bind fun gj=>
    bif (decide (0≤(wrap .i64 (nd-6))))&&(decide ((wrap .i64 (nd-6))<(bR:Int))) then
     ((((((iA.set (aO+((wrap .i64 (nd-1):Int).toNat)) (.int .u8 x1.toInt)).set (aO+((wrap .i64 (nd-2):Int).toNat)) (.int .u8 x2.toInt)).set (aO+((wrap .i64 (nd-3):Int).toNat)) (.int .u8 x5.toInt)).set (aO+((wrap .i64 (nd-4):Int).toNat)) (.int .u8 x6.toInt)).set (aO+((wrap .i64 (nd-5):Int).toNat)) (.int .u8 x9.toInt))[aO+((wrap .i64 (nd-6):Int).toNat)]?).bind fun lz=>
     (bif decide (0≤(wrap .u32 ((wrap .u32 (2*(wrap .u32 (Int.tdiv (wrap .u32 (Int.tdiv (wrap .u32 (Int.tmod u 100000000)) 10000)) 100))))+1))) then (pA[(wrap .u32 ((wrap .u32 (2*(wrap .u32 (Int.tdiv (wrap .u32 (Int.tdiv (wrap .u32 (Int.tmod u 100000000)) 10000)) 100))))+1):Int).toNat]?).map fun b=>V.int .u8 b.toNat else none).bind fun qG=>
     (bif decide (0≤(wrap .u32 (2*(wrap .u32 (Int.tdiv (wrap .u32 (Int.tdiv (wrap .u32 (Int.tmod u 100000000)) 10000)) 100))))) then (pA[(wrap .u32 (2*(wrap .u32 (Int.tdiv (wrap .u32 (Int.tdiv (wrap .u32 (Int.tmod u 100000000)) 10000)) 100))):Int).toNat]?).map fun b=>V.int .u8 b.toNat else none).bind fun ko=>
     bif (decide (0≤(wrap .i64 (nd-7))))&&(decide ((wrap .i64 (nd-7))<(bR:Int))) then
     (((((((iA.set (aO+((wrap .i64 (nd-1):Int).toNat)) (.int .u8 x1.toInt)).set (aO+((wrap .i64 (nd-2):Int).toNat)) (.int .u8 x2.toInt)).set (aO+((wrap .i64 (nd-3):Int).toNat)) (.int .u8 x5.toInt)).set (aO+((wrap .i64 (nd-4):Int).toNat)) (.int .u8 x6.toInt)).set (aO+((wrap .i64 (nd-5):Int).toNat)) (.int .u8 x9.toInt)).set (aO+((wrap .i64 (nd-6):Int).toNat)) (.int .u8 lA.toInt))[aO+((wrap .i64 (nd-7):Int).toNat)]?).bind fun wD=>
     bif (decide (0≤(wrap .i64 (nd-8))))&&(decide ((wrap .i64 (nd-8))<(bR:Int))) then
      ((((((((iA.set (aO+((wrap .i64 (nd-1):Int).toNat)) (.int .u8 x1.toInt)).set (aO+((wrap .i64 (nd-2):Int).toNat)) (.int .u8 x2.toInt)).set (aO+((wrap .i64 (nd-3):Int).toNat)) (.int .u8 x5.toInt)).set (aO+((wrap .i64 (nd-4):Int).toNat)) (.int .u8 x6.toInt)).set (aO+((wrap .i64 (nd-5):Int).toNat)) (.int .u8 x9.toInt)).set (aO+((wrap .i64 (nd-6):Int).toNat)) (.int .u8 lA.toInt)).set (aO+((wrap .i64 (nd-7):Int).toNat)) (.int .u8 qG.toInt))[aO+((wrap .i64 (nd-8):Int).toNat)]?).bind fun uR=>
      kn (wrap .u64 (Int.tdiv u 100000000),wrap .i64 (nd-8),(((((((iA.set (aO+((wrap .i64 (nd-1):Int).toNat)) (.int .u8 x1.toInt)).set (aO+((wrap .i64 (nd-2):Int).toNat)) (.int .u8 x2.toInt)).set (aO+((wrap .i64 (nd-3):Int).toNat)) (.int .u8 x5.toInt)).set (aO+((wrap .i64 (nd-4):Int).toNat)) (.int .u8 x6.toInt)).set (aO+((wrap .i64 (nd-5):Int).toNat)) (.int .u8 x9.toInt)).set (aO+((wrap .i64 (nd-6):Int).toNat)) (.int .u8 lA.toInt)).set (aO+((wrap .i64 (nd-7):Int).toNat)) (.int .u8 qG.toInt)).set (aO+((wrap .i64 (nd-8):Int).toNat)) (.int .u8 ko.toInt))
     else none
     else none
    else none
    else none
   else none
   else none
  else none
  else none
 else
  kr (u,nd,decide (nd≥8),iA)
noncomputable def PQ (C:ae) (aO bR:Nat):=un fun u=>un fun nd iA=>PO C aO bR u nd iA (fun y=>some (Sum.inl y)) (fun r=>some (Sum.inr r))
noncomputable def YM (C:ae) (aO bR:Nat) (nd x:Int) (t99:Bool) (iA:LV) {β:Type} (kr:(Int×Int×LV)→Option β):Option β:=
 bif t99 then
  (bif decide (0≤(wrap .u32 ((wrap .u32 (2*(Int.tmod (Int.tmod x 10000) 100)))+1))) then (pA[(wrap .u32 ((wrap .u32 (2*(Int.tmod (Int.tmod x 10000) 100)))+1):Int).toNat]?).map fun b=>V.int .u8 b.toNat else none).bind fun ta=>
  (bif decide (0≤(wrap .u32 (2*(Int.tmod (Int.tmod x 10000) 100)))) then (pA[(wrap .u32 (2*(Int.tmod (Int.tmod x 10000) 100)):Int).toNat]?).map fun b=>V.int .u8 b.toNat else none).bind fun HL=>
  bif (decide (0≤(wrap .i64 (nd-1))))&&(decide ((wrap .i64 (nd-1))<(bR:Int))) then
  (iA[aO+((wrap .i64 (nd-1):Int).toNat)]?).bind fun CX=>
  bif (decide (0≤(wrap .i64 (nd-2))))&&(decide ((wrap .i64 (nd-2))<(bR:Int))) then
   ((iA.set (aO+((wrap .i64 (nd-1):Int).toNat)) (.int .u8 ta.toInt))[aO+((wrap .i64 (nd-2):Int).toNat)]?).bind fun AR=>
   (bif decide (0≤(wrap .u32 ((wrap .u32 (2*(wrap .u32 (Int.tdiv (Int.tmod x 10000) 100))))+1))) then (pA[(wrap .u32 ((wrap .u32 (2*(wrap .u32 (Int.tdiv (Int.tmod x 10000) 100))))+1):Int).toNat]?).map fun b=>V.int .u8 b.toNat else none).bind fun Ip=>
   (bif decide (0≤(wrap .u32 (2*(wrap .u32 (Int.tdiv (Int.tmod x 10000) 100))))) then (pA[(wrap .u32 (2*(wrap .u32 (Int.tdiv (Int.tmod x 10000) 100))):Int).toNat]?).map fun b=>V.int .u8 b.toNat else none).bind fun O2=>
   bif (decide (0≤(wrap .i64 (nd-3))))&&(decide ((wrap .i64 (nd-3))<(bR:Int))) then
   (((iA.set (aO+((wrap .i64 (nd-1):Int).toNat)) (.int .u8 ta.toInt)).set (aO+((wrap .i64 (nd-2):Int).toNat)) (.int .u8 HL.toInt))[aO+((wrap .i64 (nd-3):Int).toNat)]?).bind fun x27=>
   bif (decide (0≤(wrap .i64 (nd-4))))&&(decide ((wrap .i64 (nd-4))<(bR:Int))) then
    ((((iA.set (aO+((wrap .i64 (nd-1):Int).toNat)) (.int .u8 ta.toInt)).set (aO+((wrap .i64 (nd-2):Int).toNat)) (.int .u8 HL.toInt)).set (aO+((wrap .i64 (nd-3):Int).toNat)) (.int .u8 Ip.toInt))[aO+((wrap .i64 (nd-4):Int).toNat)]?).bind fun Pm=>
    kr (wrap .i64 (nd-4),wrap .u32 (Int.tdiv x 10000),(((iA.set (aO+((wrap .i64 (nd-1):Int).toNat)) (.int .u8 ta.toInt)).set (aO+((wrap .i64 (nd-2):Int).toNat)) (.int .u8 HL.toInt)).set (aO+((wrap .i64 (nd-3):Int).toNat)) (.int .u8 Ip.toInt)).set (aO+((wrap .i64 (nd-4):Int).toNat)) (.int .u8 O2.toInt))
   else none
   else none
  else none
  else none
 else
  kr (nd,x,iA)
noncomputable def aiO (C:ae):cE:=bG 17 U0 [EQ,EQ,H1,H1,H1] [[1,2,0,0,0,0]] (@PO C) (gG 1599 U3 [[1,2,0,0,0]] (@YM C) bm)
theorem axy (C:ae):aW C (aiO C) 101 (Lp [1,0,0,0] 101):=bE U0 [EQ,EQ,H1,H1,H1] [[1,2,0,0,0,0]] (@PO C) (aG an)
theorem axz (C:ae):aW C (aiO C) 101 (Cd 99 [1,1,1,0,1,0] [1,1,1,0,1,1] 101):=gF U3 [[1,2,0,0,0]] (@YM C) (aG an) (aG an)
noncomputable def aiP (C:ae) (aO bR:Nat) (u:Int) (iA:LV):Option LV:=
 (Loop (PQ C aO bR) (u,(bR:Int),iA)).bind (un fun axA=>un fun aiQ=>un fun (V0:Bool) (axB:LV)=>
  YM C aO bR aiQ (wrap .u32 axA) (decide (aiQ≥4)) axB (un fun oy=>un fun (DX:Int) (yw:LV)=>
   bif decide (oy≥2) then
    (bif decide (0≤(wrap .u32 ((wrap .u32 (2*(Int.tmod DX 100)))+1))) then (pA[(wrap .u32 ((wrap .u32 (2*(Int.tmod DX 100)))+1):Int).toNat]?).map fun b=>V.int .u8 b.toNat else none).bind fun wI=>
    (bif decide (0≤(wrap .u32 (2*(Int.tmod DX 100)))) then (pA[(wrap .u32 (2*(Int.tmod DX 100)):Int).toNat]?).map fun b=>V.int .u8 b.toNat else none).bind fun tj=>
    bif (decide (0≤(wrap .i64 (oy-1))))&&(decide ((wrap .i64 (oy-1))<(bR:Int))) then
    (yw[aO+((wrap .i64 (oy-1):Int).toNat)]?).bind fun x34=>
    bif (decide (0≤(wrap .i64 (oy-2))))&&(decide ((wrap .i64 (oy-2))<(bR:Int))) then
     ((yw.set (aO+((wrap .i64 (oy-1):Int).toNat)) (.int .u8 wI.toInt))[aO+((wrap .i64 (oy-2):Int).toNat)]?).bind fun DC=>
     bif decide (((wrap .i64 (oy-2)):Int)>0) then
     bif decide (0<(bR:Int)) then
      (((yw.set (aO+((wrap .i64 (oy-1):Int).toNat)) (.int .u8 wI.toInt)).set (aO+((wrap .i64 (oy-2):Int).toNat)) (.int .u8 tj.toInt))[aO]?).bind fun DD=>
      some [.list fF (((yw.set (aO+((wrap .i64 (oy-1):Int).toNat)) (.int .u8 wI.toInt)).set (aO+((wrap .i64 (oy-2):Int).toNat)) (.int .u8 tj.toInt)).set aO (.int .u8 (wrap .u8 (wrap .u32 (48+(wrap .u32 (Int.tdiv DX 100)))))))]
     else none
     else
     some [.list fF ((yw.set (aO+((wrap .i64 (oy-1):Int).toNat)) (.int .u8 wI.toInt)).set (aO+((wrap .i64 (oy-2):Int).toNat)) (.int .u8 tj.toInt))]
    else none
    else none
   else
    bif decide (oy>0) then
    bif decide (0<(bR:Int)) then
     (yw[aO]?).bind fun x37=>
     some [.list fF (yw.set aO (.int .u8 (wrap .u8 (wrap .u32 (48+DX)))))]
    else none
    else
    some [.list fF yw]))
theorem axC {aO bR:Nat} {u:Int} {iA:LV} {r:Option LV} (h:aiP CC aO bR u iA=r):CC MX [fh aO,fh bR,.int .u64 u,.list fF iA]=r:=bj (aU (axy CC) (aU (axz CC) an)) h
noncomputable def aiR (C:ae) (d:Int):Option LV:=
 (C Gy [.int .u64 d]).bind fun r1=>
 (C M1 [V.int .i64 ((V.nth r1 0).toInt)]).bind fun r2=>
 bif (decide (0≤((V.nth r2 0).toInt)))&&(decide (((V.nth r2 0).toInt)<20)) then
  (((Nc).drop (((V.nth r2 0).toInt:Int).toNat*1))[0]?).bind fun x3=>
  bif fp Tryz.prog 63 x3 then
  (C SO [.bool (decide (d≥x3.toInt))]).bind fun r4=>
  some [V.int .i64 (wrap .i64 (((V.nth r2 0).toInt)+((V.nth r4 0).toInt)))]
  else none
 else none
theorem axD {d:Int} {r:Option LV} (h:aiR CC d=r):CC MW [.int .u64 d]=r:=bj (L:=bm) an h
noncomputable def axE (C:ae) (x:Int):Option LV:=
 some [V.int .i64 (Int.fdiv (wrap .i64 (78913*x)) (2^(min (18:Int).toNat (IntKind.bits .i64))))]
theorem axF {x:Int} {r:Option LV} (h:axE CC x=r):CC M1 [V.int .i64 x]=r:=bj (L:=bm) an h
noncomputable def axG (C:ae) (b':Bool):Option LV:=
 bif b' then
  some [V.int .i64 1]
 else
  some [V.int .i64 0]
theorem aiS {b':Bool} {r:Option LV} (h:axG CC b'=r):CC SO [.bool b']=r:=bj (L:=bm) an h
noncomputable def aiT (C:ae) (i base:Int):Option LV:=
 (C Gm [V.int .i64 i,V.int .i64 base,.list fF ([]:LV)]).bind fun r1=>
 some [.list fF ((V.nth r1 0).toList)]
theorem axH {i base:Int} {r:Option LV} (h:aiT CC i base=r):CC Gb [V.int .i64 i,V.int .i64 base]=r:=bj (L:=bm) an h
noncomputable def aiU (C:ae) (i base:Int) (mg:LV):Option LV:=
 bif decide (i<0) then
  bif Nat.ble ((mg.length+([.int .u8 45]:LV).length)*1) aX then
  (C Gt [.int .u64 (wrap .u64 (0-(wrap .u64 i))),V.int .i64 base,.list fF (mg++([.int .u8 45]:LV))]).bind fun r1=>
  some [.list fF ((V.nth r1 0).toList)]
  else none
 else
  (C Gt [.int .u64 (wrap .u64 i),V.int .i64 base,.list fF mg]).bind fun r2=>
  some [.list fF ((V.nth r2 0).toList)]
theorem axI {i base:Int} {mg:LV} {r:Option LV} (h:aiU CC i base mg=r):CC Gm [V.int .i64 i,V.int .i64 base,.list fF mg]=r:=bj (L:=bm) an h
noncomputable def aiV (C:ae) (i base:Int) (mg:LV):Option LV:=
 (C Gm [V.int .i64 i,V.int .i64 base,.list fF mg]).bind fun r1=>
 some [.list fF ((V.nth r1 0).toList)]
theorem axJ {i base:Int} {mg:LV} {r:Option LV} (h:aiV CC i base mg=r):CC SX [V.int .i64 i,V.int .i64 base,.list fF mg]=r:=bj (L:=bm) an h
def eS (l:List Nat):List V:=l.map fun x:Nat=>V.int .u8 (x:Int)
def DY:List V→List Nat→Bool
 | [],[]=>true
 | .int .u8 a::l,b::m=>(a==(b:Int))&&DY l m
 | _,_=>false
theorem aiW: ∀{l:List V} {m:List Nat},DY l m=true→l=eS m
 | [],[],_=>rfl
 | [],_::_,h=>by simp[DY] at h
 | x::l,[],h=>by cases x<;>simp[DY] at h
 | x::l,b::m,h=>by
  unfold DY at h;split at h
  ·rename_i h1 h2;cases h1
  ·rename_i h1 h2;cases h1;cases h2;rw[aK,Bj] at h;rw[h.1,aiW h.2];rfl
  ·cases h
def YN (r:Option (List V)) (m:List Nat):Bool:=
 match r with
 | some [.list t l]=>Nat.beq t fF&&DY l m
 | _=>false
theorem axK {r:Option (List V)} {m:List Nat} (h:YN r m=true):r=some [.list fF (eS m)]:=by
 unfold YN at h;split at h
 ·rw[aK,ba] at h;rw[h.1,aiW h.2]
 ·cases h
def isS (r:Option (List V)) (m:List UInt8):Bool:=
 match r with
 | some [.str l]=>l==m
 | _=>false
theorem axL {r:Option (List V)} {m:List UInt8} (h:isS r m=true):r=some [.str m]:=by
 unfold isS at h;split at h
 ·rw[Bj] at h;rw[h]
 ·cases h
def fX (i:Nat):List Nat:=if i<10 then [48+i] else if i<100 then [48+i/10,48+i %10] else [48+i/100,48+i/10 %10,48+i %10]
noncomputable def axM (i:Nat):Bool:=isS (Ci PG lE 4 4 MV [.int .i64 (i:Int)]) ((fX i).map UInt8.ofNat)
theorem axN:(List.range 100).all axM=true:=by kernel_rfl
def JW:List V:=eS (List.replicate 24 0)
noncomputable def K3:{K // ∀u z,aiP CC 0 3 u z=(Loop (PQ CC 0 3) (u,((3:Nat):Int),z)).bind K}:=⟨_,fun u z=>rfl⟩
noncomputable def runK (i:Nat):Bool:=YN (K3.1 ((i:Int),((3:Nat):Int),decide ((((3:Nat):Int):Int)≥8),JW)) (fX i++List.replicate 21 0)
theorem axO:(List.range 420).all (fun k=>runK (k+100))=true:=by kernel_rfl
def YO (r:Option (List V)):Bool:=
 match r with
 | some [.int .i64 n]=>decide (7≤n)&&decide (n≤10)
 | _=>false
theorem axP {r:Option (List V)} (h:YO r=true): ∃n:Int,r=some [.int .i64 n]∧7≤n∧n≤10:=by
 unfold YO at h;split at h
 ·simp only[aK,fl] at h;exact ⟨_,rfl,h⟩
 ·cases h
theorem axQ:(List.range 420).all (fun k=>YO (ahK CC ((k+100:Nat):Int)))=true:=by kernel_rfl
theorem YP {n i:Nat} {p:Nat→Bool} (h:(List.range n).all p=true) (hi:i<n):p i=true:=gC.1 h i (jG.2 hi)
theorem axR {i:Nat} (h:i<100):CC MV [.int .i64 (i:Int)]=some [.str ((fX i).map UInt8.ofNat)]:=acd (axL (YP axN h))
theorem axS {i:Nat} (h:100≤i) (h2:i<520):CC MX [fh 0,fh 3,.int .u64 (i:Int),.list fF JW]=some [.list fF (eS (fX i++List.replicate 21 0))]:=by
 refine axC ?_;refine (K3.2 (i:Int) JW).trans ?_;have b9:PQ CC 0 3 ((i:Int),((3:Nat):Int),JW)=some (Sum.inr ((i:Int),((3:Nat):Int),decide ((((3:Nat):Int):Int)≥8),JW)):=by
  unfold PQ PO;exact bF (x:=none) rfl rfl
 refine bs (di b9) ?_;have:=YP axO (i:=i-100) (by omega);rw[show i-100+100=i by omega] at this;exact axK this
theorem axT {i:Nat} (h:100≤i) (h2:i<520):CC MW [.int .u64 (i:Int)]=some [.int .i64 3]:=by
 have h3:=YP axQ (i:=i-100) (by omega);rw[show i-100+100=i by omega] at h3;obtain ⟨n,e,n1,n2⟩:=axP h3;refine axD ?_;unfold aiR;refine bs (XR e) ?_;rw[V.ct,V.toInt_int];have R4:CC M1 [.int .i64 n]=some [.int .i64 (if n=10 then 3 else 2)]:=by
  refine axF ?_;rcases (by omega:n=7∨n=8∨n=9∨n=10) with rfl|rfl|rfl|rfl<;>rfl
 refine bs R4 ?_;rw[V.ct,V.toInt_int];by_cases h10:n=10
 ·rw[ah h10];refine bT rfl ?_;refine bs (a:= .int .u64 1000) (by kernel_rfl) ?_;refine bT (by kernel_rfl) ?_;refine bs (aiS (bF (by rw[V.toInt_int];exact cJ (by omega)) rfl)) ?_;rfl
 ·rw[ag h10];refine bT rfl ?_;refine bs (a:= .int .u64 100) (by kernel_rfl) ?_;refine bT (by kernel_rfl) ?_;refine bs (aiS (bT (by rw[V.toInt_int];exact bU (by omega)) rfl)) ?_;rfl
theorem PR {i:Nat} (h:i<1000):1≤(fX i).length∧(fX i).length≤3:=by
 unfold fX;split
 ·simp
 ·split<;>simp
theorem JX {i x:Nat} (h:i<1000) (hx:x∈fX i):48≤x∧x<58:=by
 unfold fX at hx;split at hx
 ·simp at hx;omega
 ·split at hx<;>simp at hx<;>omega
theorem axU {i j:Nat} (h:i<1000) (h':j<1000) (e:fX i=fX j):i=j:=by
 unfold fX at e;split at e<;>split at e<;>(try split at e)<;>(try split at e)<;>simp at e<;>omega
theorem axV {i:Nat} (h:i<520) {l:List V} (hl:l.length≤1000000):CC Gt [.int .u64 (i:Int),.int .i64 10,.list fF l]=some [.list fF (l++eS (fX i))]:=by
 have hd:=PR (i:=i) (by omega);refine axx ?_;unfold aiN;refine bT rfl ?_;by_cases h1:i<100
 ·refine bT (bU (by omega)) ?_;have hw:wrap .i64 (i:Int)=(i:Int):=dM;rw[hw];refine bs (axR h1) ?_;have he:((fX i).map UInt8.ofNat).map vg=eS (fX i):=by
   rw[eS,List.map_map];refine rZ fun x hx=> ?_;have:=JX (by omega) hx;simp only[Function.comp,vg,UInt8.toNat_ofNat'];congr 1;omega
  rw[V.ct,V.amv,he];refine bT ?_ rfl;exact cap (by simp[eS];omega) (by omega)
 ·refine bF (cJ (by omega)) ?_;refine bs (axT (by omega) h) ?_;refine bT rfl (bT rfl ?_);refine bs (axS (by omega) h) ?_;have h3:(fX i).length=3:=by unfold fX;rw[ag (by omega),ag h1];rfl
  have qb:(eS (fX i++List.replicate 21 0)).length=24:=by simp[eS,h3]
  rw[V.ct,V.ki,qb];refine bT rfl (bT rfl ?_);have he:((eS (fX i++List.replicate 21 0)).drop 0).take (((V.nth [V.int .i64 3] 0).toInt:Int).toNat-0)=eS (fX i):=by
   rw[V.ct,V.toInt_int,jZ,eS,qS,List.take_append_of_le_length (by simp[h3]),Ku (by simp[h3])];rfl
  rw[he];refine bT ?_ rfl;exact cap (by simp[eS];omega) (by omega)
theorem aiX {i:Nat} (h:i<520) {l:List V} (hl:l.length≤1000000):CC Gm [.int .i64 (i:Int),.int .i64 10,.list fF l]=some [.list fF (l++eS (fX i))]:=by
 refine axI ?_;unfold aiU;refine bF (cJ (by omega)) ?_;have hw:wrap .u64 (i:Int)=(i:Int):=by rw[wrap_u64];omega
 rw[hw];exact bs (axV h hl) rfl
theorem axW {i:Nat} (h:i<520):CC Gb [.int .i64 (i:Int),.int .i64 10]=some [.list fF (eS (fX i))]:=by
 refine axH ?_;unfold aiT;exact bs (aiX h (by simp)) rfl
theorem axX {i:Nat} (h:i<520) {l:List V} (hl:l.length≤1000000):CC SX [.int .i64 (i:Int),.int .i64 10,.list fF l]=some [.list fF (l++eS (fX i))]:=by
 refine axJ ?_;unfold aiV;exact bs (aiX h hl) rfl
noncomputable def JY (C:ae) (row t12:LV) (t13 t14:Int) (t23:Bool) (aP aT:Int) (bL bH outs:LV) {β:Type} (kr:LV→Option β):Option β:=
 bif t23 then
  bif Nat.ble ((outs.length+([.int .u8 33]:LV).length)*1) aX then
  kr (outs++([.int .u8 33]:LV))
  else none
 else
  kr outs
noncomputable def JZ (C:ae) (t12:LV) (t13 t14:Int) (t27:LV) (t28 aP aT:Int) (bL bH:LV) (t29:Int) (outs:LV) {β:Type} (kn:(Int×LV)→Option β) (kr:(Int×Bool×LV)→Option β):Option β:=
 bif decide (t29<t28) then
  (idx t27 t29).bind fun x5=>
  bif Nat.ble ((outs.length+([.int .u8 32]:LV).length)*1) aX then
  (C SX [V.int .i64 x5.toInt,V.int .i64 10,.list fF (outs++([.int .u8 32]:LV))]).bind fun r6=>
  kn (wrap .i64 (t29+1),(V.nth r6 0).toList)
  else none
 else
  kr (t29,decide (t29<t28),outs)
noncomputable def J0 (C:ae) (t12:LV) (t13 t14:Int) (t27:LV) (t28 aP aT:Int) (bL bH:LV):=un fun t29 outs=>JZ C t12 t13 t14 t27 t28 aP aT bL bH t29 outs (fun y=>some (Sum.inl y)) (fun r=>some (Sum.inr r))
noncomputable def J1 (C:ae) (t12:LV) (t13 aP aT:Int) (bL bH:LV) (t14:Int) (outs:LV) {β:Type} (kn:(Int×LV)→Option β) (kr:(Int×Bool×LV)→Option β):Option β:=
 bif decide (t14<t13) then
  (idx t12 t14).bind fun x2=>
  (idx bL t14).bind fun x3=>
  JY C x2.toList t12 t13 t14 x3.toBool aP aT bL bH outs (fun (axY:LV)=>
   (Loop (J0 C t12 t13 t14 x2.toList (x2.toList.length:Int) aP aT bL bH) (0,axY)).bind (un fun kJ=>un fun (oe:Bool) (AK:LV)=>
    bif Nat.ble ((AK.length+([.int .u8 59]:LV).length)*1) aX then
    kn (wrap .i64 (t14+1),AK++([.int .u8 59]:LV))
    else none))
 else
  kr (t14,decide (t14<t13),outs)
noncomputable def YQ (C:ae) (t12:LV) (t13 aP aT:Int) (bL bH:LV):=un fun t14 outs=>J1 C t12 t13 aP aT bL bH t14 outs (fun y=>some (Sum.inl y)) (fun r=>some (Sum.inr r))
noncomputable def YR (C:ae):cE:=gG 383 Uf [[1,2,3,4,6,7,8,9,0]] (@JY C) (bG 129 Ug [EQ,EQ,EQ,EQ,EQ,H1,EQ,EQ,EQ,EQ,H1] [[1,2,3,4,5,0,0,7,8,9,10,0]] (@JZ C) (bG 49 Uh [EQ,EQ,H1,EQ,EQ,EQ,EQ,H1] [[1,2,0,0,4,5,6,7,0]] (@J1 C) bm))
theorem axZ (C:ae):aW C (YR C) 37 (Cd 23 [1,1,0,1,0,0,1,1,0,0,1,0,1,0] [1,1,0,1,0,0,1,1,0,0,1,0,1,1] 37):=gF Uf [[1,2,3,4,6,7,8,9,0]] (@JY C) (aG an) (aG an)
theorem ax0 (C:ae):aW C (YR C) 37 (Lp [1,1,0,1,0,0,1,1,0,0,1,1,0,1,0,0] 37):=bE Ug [EQ,EQ,EQ,EQ,EQ,H1,EQ,EQ,EQ,EQ,H1] [[1,2,3,4,5,0,0,7,8,9,10,0]] (@JZ C) (aG an)
theorem ax1 (C:ae):aW C (YR C) 37 (Lp [1,1,0,1,0,0] 37):=bE Uh [EQ,EQ,H1,EQ,EQ,EQ,EQ,H1] [[1,2,0,0,4,5,6,7,0]] (@J1 C) (aG (aU (axZ C) (aU (ax0 C) an)))
noncomputable def aiY (C:ae) (bO bP:Int) (bu bY:LV):Option LV:=
 (C Gb [V.int .i64 bP,V.int .i64 10]).bind fun r1=>
 (Loop (YQ C bY (bY.length:Int) bO bP bu bY) (0,(V.nth r1 0).toList)).bind (un fun xU=>un fun (xV:Bool) (ax2:LV)=>
  some [.str (j8 ax2)])
theorem ax3 {bO bP:Int} {bu bY:LV} {r:Option LV} (h:aiY CC bO bP bu bY=r):CC ME [V.int .i64 bO,V.int .i64 bP,.list ao bu,.list ar bY]=r:=bj (aU (ax1 CC) an) h
def gO:List Nat→List Nat
 | []=>[]
 | v::l=>32::(fX v++gO l)
def qM:Bool×List Nat→List Nat
 | (b,r)=>(if b=true then [33] else [])++(gO r++[59])
def je:List (Bool×List Nat)→List Nat
 | []=>[]
 | r::l=>qM r++je l
theorem aiZ: ∀l m,gO (l++m)=gO l++gO m
 | [],_=>rfl
 | v::l,m=>by simp[gO,aiZ l m]
theorem YS: ∀l m,je (l++m)=je l++je m
 | [],_=>rfl
 | v::l,m=>by simp[je,YS l m]
def nC (a:Da) (q:Nat):Bool×List Nat:=(a.fin q,tab a.L (a.nx q))
def yx (a:Da):List Nat:=fX a.st++je (tab a.n (nC a))
theorem PS: ∀l:List Nat,(∀x∈l,x<1000)→(gO l).length≤4*l.length
 | [],_=>by simp[gO]
 | v::l,h=>by
  have h1:=PR (h v (by simp));have h2:=PS l fun x hx=>h x (by simp[hx]);simp only[gO,List.length_cons,dd];omega
theorem ax4 {r:Bool×List Nat} (h: ∀x∈r.2,x<1000):(qM r).length≤2+4*r.2.length:=by
 obtain ⟨b,r⟩:=r;have:=PS r h;cases b<;>simp only[qM,dd,List.length_cons,List.length_nil,kR,Eb,mi]<;>simp only at* <;>omega
theorem YT: ∀l:List (Bool×List Nat),(∀r∈l,(∀x∈r.2,x<1000)∧r.2.length≤6)→(je l).length≤26*l.length
 | [],_=>by simp[je]
 | r::l,h=>by
  have h1:=ax4 (h r (by simp)).1;have h2:=(h r (by simp)).2;have h3:=YT l fun x hx=>h x (by simp[hx]);simp only[je,List.length_cons,dd];omega
theorem J2 {a:Da} (h:a.Ok) {n:Nat} (hn:n≤a.n): ∀r∈tab n (nC a),(∀x∈r.2,x<1000)∧r.2.length≤6:=by
 intro r hr;obtain ⟨q,hq,rfl⟩:=uB.1 hr;refine ⟨fun x hx=> ?_,?_⟩
 ·obtain ⟨y,hy,rfl⟩:=uB.1 hx;have:=h.fL (q:=q) (by omega) hy;have:=h.cU;omega
 ·have:=h.l6;simp only[nC,db];omega
theorem PT (a b:List Nat):eS (a++b)=eS a++eS b:=by simp[eS]
theorem PU (a:List Nat):(eS a).length=a.length:=by simp[eS]
theorem ax5 {a:Da} (h:a.Ok) {q:Nat} (hq:q<a.n) {pre:List Nat} (hp:pre.length≤20000) {l1 l2 l3:LV} {k1 k2 k3 k4:Int}:
  Loop (J0 CC l1 k1 k2 (tab a.L fun x=>iV (a.nx q x)) (a.L:Int) k3 k4 l2 l3) (0,eS pre)=some ((a.L:Int),false,eS (pre++gO (tab a.L (a.nx q)))):=by
 have hm:=h.cU;have h6:=h.l6;have hl: ∀x,x≤a.L→(gO (tab x (a.nx q))).length≤24:=fun x hx=>by
  have:=PS (tab x (a.nx q)) fun y hy=>by
   obtain ⟨z,hz,rfl⟩:=uB.1 hy;have:=h.fL hq (show z<a.L by omega);omega
  rw[db] at this;omega
 have e0:eS pre=eS (pre++gO (tab 0 (a.nx q))):=by simp[Ha,gO]
 rw[e0];refine (eh a.L (fun x=>((x:Int),eS (pre++gO (tab x (a.nx q))))) _ (fun x hx=> ?_) ?_)
 ·have vw:=h.fL hq hx;have qb:=hl x (by omega);simp only[J0,JZ,un];refine bT (cN hx) ?_;refine bs (np hx) ?_;refine bT (cap (by simp only[PU,dd,List.length_cons,List.length_nil];omega) (by omega)) ?_;have e1:eS (pre++gO (tab x (a.nx q)))++([V.int .u8 32]:LV)=eS (pre++gO (tab x (a.nx q))++[32]):=by rw[PT (_++_)];rfl
  rw[e1];refine bs (axX (i:=a.nx q x) (by omega) (by simp only[PU,dd,List.length_cons,List.length_nil];omega)) ?_;rw[cG (by omega),V.ct,V.ki,←PT,gg,aiZ];simp[gO]
 ·simp only[J0,JZ,un];refine bF (bp (az _)) ?_;rw[bp (az _)]
noncomputable def kN (a:Da):List UInt8:=j8 (eS (yx a))
theorem ai0 {a:Da} (h:a.Ok):CC ME (dh a)=some [.str (kN a)]:=by
 have hm:=h.cU;have h6:=h.l6;have hs:=h.s;refine ax3 ?_;unfold aiY;refine bs (axW (i:=a.st) (by omega)) ?_;rw[V.ct,V.ki,Da.V8];have hd:=PR (i:=a.st) (by omega);have e0:eS (fX a.st)=eS (fX a.st++je (tab 0 (nC a))):=by simp[Ha,je]
 rw[e0];refine bs (eh a.n (fun q=>((q:Int),eS (fX a.st++je (tab q (nC a))))) ((a.n:Int),false,eS (yx a)) (fun q hq=> ?_) ?_) rfl
 ·have hl:=YT _ (J2 h (n:=q) (by omega));rw[db] at hl;simp only[YQ,J1,un];refine bT (cN hq) ?_;refine bs (Da.jU hq) ?_;refine bs (Da.nq hq) ?_;rw[kj,db,V.mC];have key: ∀{pre:List Nat},pre.length≤20000→∀{β:Type} (K:Int×LV→Option β),(Loop (J0 CC a.bz (a.n:Int) (q:Int) (tab a.L fun x=>iV (a.nx q x)) (a.L:Int) (a.L:Int) (a.st:Int) a.bI a.bz) (0,eS pre)).bind (un fun (kJ:Int)=>un fun (oe:Bool) (AK:LV)=>
    bif Nat.ble ((AK.length+([.int .u8 59]:LV).length)*1) aX then
    K (wrap .i64 ((q:Int)+1),AK++([.int .u8 59]:LV))
    else none)=K (((q+1:Nat):Int),eS (pre++gO (tab a.L (a.nx q))++[59])):=fun {pre} hp {β} K=>by
   refine bs (ax5 h hq hp) ?_;have qb:=PS (tab a.L (a.nx q)) fun y hy=>by
    obtain ⟨z,hz,rfl⟩:=uB.1 hy;have:=h.fL hq hz;omega
   rw[db] at qb;refine bT (cap (by simp only[PU,dd,List.length_cons,List.length_nil];omega) (by omega)) ?_;rw[cG (by omega),PT (_++_)];rfl
  cases hf:a.fin q with
  | true=>
   simp only[JY];refine bT rfl ?_;refine bT (cap (by simp only[PU,dd,List.length_cons,List.length_nil];omega) (by omega)) ?_;have e1:eS (fX a.st++je (tab q (nC a)))++([V.int .u8 33]:LV)=eS (fX a.st++je (tab q (nC a))++[33]):=by rw[PT (_++_)];rfl
   rw[e1];refine (key (pre:=fX a.st++je (tab q (nC a))++[33]) (by simp only[dd,List.length_cons,List.length_nil];omega) (fun y=>some (Sum.inl y))).trans ?_;rw[gg,YS];simp[je,qM,nC,hf]
  | false=>
   simp only[JY];refine bF rfl ?_;refine (key (pre:=fX a.st++je (tab q (nC a))) (by simp only[dd];omega) (fun y=>some (Sum.inl y))).trans ?_;rw[gg,YS];simp[je,qM,nC,hf]
 ·simp only[YQ,J1,un];refine bF (bp (az _)) ?_;rw[bp (az _)];rfl
def yz:List Nat→Prop
 | []=>True
 | x::_=> ¬(48≤x∧x<58)
theorem ai1: ∀{a b u v:List Nat},(∀x∈a,48≤x∧x<58)→(∀x∈b,48≤x∧x<58)→yz u→yz v→a++u=b++v→a=b∧u=v
 | [],[],_,_,_,_,_,_,e=>⟨rfl,e⟩
 | [],y::b,u,v,_,hb,hu,_,e=>by
  cases u with
  | nil=>cases e
  | cons z u=>
   have:z=y:=by simpa using (wL e).1
   have h1:=hb y (by simp);have h2: ¬(48≤z∧z<58):=hu;omega
 | x::a,[],u,v,ha,_,_,hv,e=>by
  cases v with
  | nil=>cases e
  | cons z v=>
   have:x=z:=(wL e).1;have h1:=ha x (by simp);have h2: ¬(48≤z∧z<58):=hv;omega
 | x::a,y::b,u,v,ha,hb,hu,hv,e=>by
  obtain ⟨e1,e2⟩:=wL e;obtain ⟨e3,e4⟩:=ai1 (fun x hx=>ha x (by simp[hx])) (fun x hx=>hb x (by simp[hx])) hu hv e2;exact ⟨by rw[e1,e3],e4⟩
theorem ai2 {i j:Nat} (hi:i<1000) (hj:j<1000) {u v:List Nat} (hu:yz u) (hv:yz v) (e:fX i++u=fX j++v):i=j∧u=v:=by
 obtain ⟨e1,e2⟩:=ai1 (fun x hx=>JX hi hx) (fun x hx=>JX hj hx) hu hv e;exact ⟨axU hi hj e1,e2⟩
theorem YU (l:List Nat) (u:List Nat):yz (gO l++59::u):=by
 cases l<;>simp[gO,yz]
theorem YV: ∀{r s u v:List Nat},(∀x∈r,x<1000)→(∀x∈s,x<1000)→gO r++59::u=gO s++59::v→r=s∧u=v
 | [],[],_,_,_,_,e=>⟨rfl,(wL e).2⟩
 | [],y::s,_,_,_,_,e=>by simp[gO] at e
 | x::r,[],_,_,_,_,e=>by simp[gO] at e
 | x::r,y::s,u,v,hr,hs,e=>by
  simp only[gO,List.cons_append,fN] at e;obtain ⟨e1,e2⟩:=ai2 (hr x (by simp)) (hs y (by simp)) (YU r u) (YU s v) (wL e).2;obtain ⟨e3,e4⟩:=YV (fun x hx=>hr x (by simp[hx])) (fun x hx=>hs x (by simp[hx])) e2;exact ⟨by rw[e1,e3],e4⟩
theorem ax6 {r s:Bool×List Nat} {u v:List Nat} (hr: ∀x∈r.2,x<1000) (hs: ∀x∈s.2,x<1000) (e:qM r++u=qM s++v):r=s∧u=v:=by
 obtain ⟨b,r⟩:=r;obtain ⟨c,s⟩:=s;have h33: ∀{l w z:List Nat},33::w≠gO l++59::z:=fun {l w z} h=>by
  cases l<;>simp[gO] at h
 cases b<;>cases c<;>simp only[qM,kR,Eb,mi,List.nil_append,fN,List.cons_append] at e
 ·obtain ⟨e1,e2⟩:=YV hr hs e;exact ⟨by rw[show r=s from e1],e2⟩
 ·exact absurd e.symm h33
 ·exact absurd e h33
 ·obtain ⟨e1,e2⟩:=YV hr hs (wL e).2;exact ⟨by rw[show r=s from e1],e2⟩
theorem ai3: ∀l,yz (je l)
 | []=>trivial
 | (b,r)::l=>by
  cases b
  ·simp only[je,qM,Eb,mi,List.nil_append,fN,List.cons_append];exact YU _ _
  ·simp[je,qM,yz]
theorem ai4 {r:Bool×List Nat} {u:List Nat}:qM r++u≠[]:=by
 obtain ⟨b,r⟩:=r;cases b<;>cases r<;>simp[qM,gO]
theorem ai5: ∀{l m:List (Bool×List Nat)},(∀r∈l,∀x∈r.2,x<1000)→(∀r∈m,∀x∈r.2,x<1000)→je l=je m→l=m
 | [],[],_,_,_=>rfl
 | [],r::m,_,_,e=>absurd e.symm ai4
 | r::l,[],_,_,e=>absurd e ai4
 | r::l,s::m,hl,hm,e=>by
  obtain ⟨e1,e2⟩:=ax6 (hl r (by simp)) (hm s (by simp)) e;rw[e1,ai5 (fun r hr=>hl r (by simp[hr])) (fun r hr=>hm r (by simp[hr])) e2]
theorem Da.Ok.ext {a b:Da} (ha:a.Ok) (hb:b.Ok) (hL:a.L=b.L) (hs:a.st=b.st) (hr:tab a.n (nC a)=tab b.n (nC b)):a=b:=by
 have hn:a.n=b.n:=by
  have:=congrArg List.length hr;rwa [db,db] at this
 have hq: ∀q,q<a.n→nC a q=nC b q:=fun q hq=>by
  have:=congrArg (fun l=>l[q]?) hr
  try simp only at this
  rw[wa hq,wa (by omega)] at this;exact ew this
 have hF:a.F=b.F:=by
  refine wS hn fun q h1 h2=> ?_;have:=congrArg Prod.fst (hq q h1);unfold nC Da.fin at this;simp only at this;rwa [fG h1,fG h2] at this
 have hN:a.N=b.N:=by
  refine wS (by rw[ha.nN,hb.nN,hn]) fun q h1 h2=> ?_;have B0:q<a.n:=by rw[←ha.nN];exact h1
  have sJ:q<b.n:=by omega
  have e1:=Da.GZ ha B0;have e2:=Da.GZ hb sJ;rw[fG h1] at e1;rw[fG h2] at e2;refine Da.aek (by rw[e1,e2,hL]) fun x hx=> ?_;have h3:=congrArg Prod.snd (hq q B0);unfold nC at h3
  try simp only at h3
  have h4:=congrArg (fun l=>l[x]?) h3
  try simp only at h4
  rw[wa (by omega),wa (by omega)] at h4;have h5:=ew h4;unfold Da.nx at h5;rwa [fG h1,fG h2] at h5
 obtain ⟨L,s,F,N⟩:=a;obtain ⟨L',s',F',N'⟩:=b;simp only at hL hs hF hN;rw[hL,hs,hF,hN]
theorem ax7 {a b:Da} (ha:a.Ok) (hb:b.Ok) (hL:a.L=b.L) (e:yx a=yx b):a=b:=by
 have h1:=ha.cU;have h2:=hb.cU;have h3:=ha.s;have h4:=hb.s;obtain ⟨e1,e2⟩:=ai2 (by omega) (by omega) (ai3 _) (ai3 _) e;exact ha.ext hb hL e1 (ai5 (fun r hr=>(J2 ha (az _) r hr).1) (fun r hr=>(J2 hb (az _) r hr).1) e2)
theorem ai6: ∀{l:List Nat},(∀x∈l,x<1000)→∀y∈gO l,y<256
 | [],_,y,hy=>by cases hy
 | x::l,h,y,hy=>by
  simp only[gO,iR,eW] at hy;rcases hy with rfl|hy|hy
  ·omega
  ·have:=JX (h x (by simp)) hy;omega
  ·exact ai6 (fun x hx=>h x (by simp[hx])) y hy
theorem ai7: ∀{l:List (Bool×List Nat)},(∀r∈l,∀x∈r.2,x<1000)→∀y∈je l,y<256
 | [],_,y,hy=>by cases hy
 | (b,r)::l,h,y,hy=>by
  simp only[je,qM,eW] at hy;rcases hy with (hy|hy|hy)|hy
  ·split at hy
   ·simp at hy;omega
   ·cases hy
  ·exact ai6 (h (b,r) (by simp)) y hy
  ·simp at hy;omega
  ·exact ai7 (fun x hx=>h x (by simp[hx])) y hy
theorem ai8 {a:Da} (ha:a.Ok): ∀y∈yx a,y<256:=by
 intro y hy;have h1:=ha.cU;have h3:=ha.s;rcases eW.1 hy with hy|hy
 ·have:=JX (i:=a.st) (by omega) hy;omega
 ·exact ai7 (fun r hr=>(J2 ha (az _) r hr).1) y hy
theorem ax8 {a b:Da} (ha:a.Ok) (hb:b.Ok) (hL:a.L=b.L) (e:kN a=kN b):a=b:=by
 refine ax7 ha hb hL ?_;unfold kN j8 eS at e;rw[List.map_map,List.map_map] at e;have hl:(yx a).length=(yx b).length:=by
  have:=congrArg List.length e;simpa using this
 refine wS hl fun i h1 h2=> ?_;have h3:=congrArg (fun l=>l[i]?) e;simp only[gD,cp h1,cp h2,Option.map_some,Function.comp,V.toInt_int,Int.toNat_natCast] at h3;have h4:=congrArg UInt8.toNat (ew h3)
 have h5:=ai8 ha _ (ff h1);have h6:=ai8 hb _ (ff h2);simp only[UInt8.toNat_ofNat'] at h4;omega
theorem ax9 {a:Da} (ha:a.Ok):(kN a).length≤20000:=by
 have h1:=ha.cU;have h3:=ha.s;have hl:=YT _ (J2 ha (n:=a.n) (by omega));rw[db] at hl;have hd:=PR (i:=a.st) (by omega);unfold kN j8 eS yx;simp only[cH,dd];omega
noncomputable def J3 (C:ae) (key:List UInt8) (x:Int) (t45:Bool) (dC:Int) (ca bC:LV) (bn aY bh aS aP aT:Int) (bJ cd bS:LV) {β:Type} (kr:(Int×LV×LV)→Option β):Option β:=
 bif t45 then
  bif Nat.ble key.length maxLen&&true then
  bif Nat.ble ((bJ.length+([.agg [V.int .i64 aP,V.int .i64 aT,.list ao cd,.list ar bS]]:LV).length)*64) aX then
   kr ((bJ.length:Int),eB (.str key) (V.int .i64 (bJ.length:Int)) ca,bJ++([.agg [V.int .i64 aP,V.int .i64 aT,.list ao cd,.list ar bS]]:LV))
  else none
  else none
 else
  kr (x,ca,bJ)
noncomputable def aya (C:ae):cE:=gG 735 TU [[0,4,0,6,7,8,9,10,0]] (@J3 C) bm
theorem ayb (C:ae):aW C (aya C) 23 (Cd 45 [1,1,1,1,1,1,0,1,0] [1,1,1,1,1,1,0,1,1] 23):=gF TU [[0,4,0,6,7,8,9,10,0]] (@J3 C) (aG an) (aG an)
noncomputable def J4 (C:ae) (cj cQ cv cW dC:Int) (aR ca bC:LV):Option LV:=
 bif (cw .i64 cj&&(cw .i64 cQ&&(cw .i64 cv&&(cw .i64 cW&&true))))&&true then
  bif ez (.agg [V.int .i64 cj,V.int .i64 cQ,V.int .i64 cv,V.int .i64 cW]) bC then
  some [V.int .i64 ((fO (.agg [V.int .i64 cj,V.int .i64 cQ,V.int .i64 cv,V.int .i64 cW]) bC (V.int .i64 0)).toInt),V.int .i64 0,V.int .i64 dC,.list dX ca,.list dY bC,.list dA aR]
  else
  (C MD [V.int .i64 cj,V.int .i64 cQ,V.int .i64 cv,V.int .i64 cW,V.int .i64 dC,.list dA aR,.list dX ca,.list dY bC]).bind fun r1=>
  bif (((V.nth (r1.drop 2) 0).toInt):Int) != 0 then
   some [V.int .i64 0,V.int .i64 ((V.nth (r1.drop 2) 0).toInt),V.int .i64 ((V.nth (r1.drop 3) 0).toInt),.list dX ((V.nth ((r1.drop 3).drop 1) 0).toList),.list dY ((V.nth (((r1.drop 3).drop 1).drop 1) 0).toList),.list dA ((V.nth ((((((r1.drop 3).drop 1).drop 1).drop 1).drop 1).drop 1) 0).toList)]
  else
   (C ME [V.int .i64 ((V.nth r1 0).toInt),V.int .i64 ((V.nth (r1.drop 1) 0).toInt),.list ao ((V.nth ((((r1.drop 3).drop 1).drop 1).drop 1) 0).toList),.list ar ((V.nth (((((r1.drop 3).drop 1).drop 1).drop 1).drop 1) 0).toList)]).bind fun r2=>
   bif Nat.ble (((V.nth r2 0).toStr).length) maxLen&&true then
   J3 C ((V.nth r2 0).toStr) ((fO (.str ((V.nth r2 0).toStr)) ((V.nth ((r1.drop 3).drop 1) 0).toList) (V.int .i64 0)).toInt) (!(ez (.str ((V.nth r2 0).toStr)) ((V.nth ((r1.drop 3).drop 1) 0).toList))) ((V.nth (r1.drop 3) 0).toInt) ((V.nth ((r1.drop 3).drop 1) 0).toList) ((V.nth (((r1.drop 3).drop 1).drop 1) 0).toList) cj cQ cv cW ((V.nth r1 0).toInt) ((V.nth (r1.drop 1) 0).toInt) ((V.nth ((((((r1.drop 3).drop 1).drop 1).drop 1).drop 1).drop 1) 0).toList) ((V.nth ((((r1.drop 3).drop 1).drop 1).drop 1) 0).toList) ((V.nth (((((r1.drop 3).drop 1).drop 1).drop 1).drop 1) 0).toList) (un fun ym=>un fun (Xd:LV) (Yx:LV)=>
    bif (cw .i64 cj&&(cw .i64 cQ&&(cw .i64 cv&&(cw .i64 cW&&true))))&&true then
     some [V.int .i64 ym,V.int .i64 0,V.int .i64 ((V.nth (r1.drop 3) 0).toInt),.list dX Xd,.list dY (eB (.agg [V.int .i64 cj,V.int .i64 cQ,V.int .i64 cv,V.int .i64 cW]) (V.int .i64 ym) ((V.nth (((r1.drop 3).drop 1).drop 1) 0).toList)),.list dA Yx]
    else none)
   else none
 else none
theorem PV {cj cQ cv cW dC:Int} {aR ca bC:LV} {r:Option LV} (h:J4 CC cj cQ cv cW dC aR ca bC=r):CC F4 [V.int .i64 cj,V.int .i64 cQ,V.int .i64 cv,V.int .i64 cW,V.int .i64 dC,.list dA aR,.list dX ca,.list dY bC]=r:=bj (aU (ayb CC) an) h
theorem PW (a b:List UInt8):il (.str a) (.str b)=decide (a=b):=by
 simp only[il,V.cells,nM,se,yG];rw[nJ];simp
theorem ayc {α:Type} [DecidableEq α] {ke:α→V} (hk: ∀a b,il (ke a) (ke b)=decide (a=b)) {x:α} {S:List α} (z:V) (h:x∈S): ∃(i:Nat) (hi:i<S.length),S[i]=x∧fO (ke x) (gK ke 0 S) z= .int .i64 (i:Int):=by
 refine ⟨S.idxOf x,List.idxOf_lt_length_iff.2 h,Kr _,?_⟩;have:=uF hk x z S 0 h;rwa [ed] at this
theorem ayd {α:Type} [DecidableEq α] {ke:α→V} (hk: ∀a b,il (ke a) (ke b)=decide (a=b)) {x:α} {S:List α} (h:x∈S):ez (ke x) (gK ke 0 S)=true:=(qB hk x S 0).trans (bU h)
theorem aye {α:Type} [DecidableEq α] {ke:α→V} (hk: ∀a b,il (ke a) (ke b)=decide (a=b)) {x:α} {S:List α} (h:x∉S):ez (ke x) (gK ke 0 S)=false:=(qB hk x S 0).trans (cJ h)
theorem Nd.key (a b:Nd):il a.v b.v=decide (a=b):=by
 obtain ⟨o,x,y,z⟩:=a;obtain ⟨o',x',y',z'⟩:=b;simp only[Nd.v,il,V.cells,nM,se,yG];rw[nJ];simp only[aK,Bj,fl,Nd.mk.injEq];omega
def kO (M:List (Nd×Nat)):LV:=M.map fun e=> .bK [e.1.v,.int .i64 (e.2:Int)]
theorem YW (d:Nd): ∀M,ez d.v (kO M)=decide (d∈M.map Prod.fst)
 | []=>by simp[kO,ez]
 | (e,i)::M=>by
  have c: ∀(p q:V),(V.bK [p,q]).comp 0=p:=fun p q=>rfl;have ih:=YW d M;unfold kO at ih⊢;rw[iS,ez,c,Nd.key,ih,nJ];simp
theorem ai9 (d:Nd) (z:V): ∀M,d∈M.map Prod.fst→∃i:Nat,(d,i)∈M∧fO d.v (kO M) z= .int .i64 (i:Int)
 | [],h=>by cases h
 | (e,i)::M,h=>by
  have c: ∀(p q:V),(V.bK [p,q]).comp 0=p:=fun p q=>rfl;have c1: ∀(p q:V),(V.bK [p,q]).comp 1=q:=fun p q=>rfl;by_cases hd:d=e
  ·refine ⟨i,by rw[hd];simp,?_⟩;unfold kO;rw[iS,fO,c,c1,Nd.key,bU hd];rfl
  ·obtain ⟨j,h1,h2⟩:=ai9 d z M (by simpa[hd] using h);refine ⟨j,by simp[h1],?_⟩;unfold kO at h2⊢;rw[iS,fO,c,c1,Nd.key,cJ hd];exact h2
theorem YX (d:Nd) (i:Nat): ∀M,d∉M.map Prod.fst→eB d.v (.int .i64 (i:Int)) (kO M)=kO (M++[(d,i)])
 | [],_=>rfl
 | (e,j)::M,h=>by
  have c: ∀(p q:V),(V.bK [p,q]).comp 0=p:=fun p q=>rfl;have hd:d≠e:=fun he=>h (by simp[he]);have ih:=YX d i M fun hm=>h (by simp at hm⊢;exact .inr hm);unfold kO at ih⊢;rw[iS,eB,c,Nd.key,cJ hd,List.cons_append,iS,←ih];rfl
structure tu (L k:Nat) (A:List Da) (M:List (Nd×Nat)):Prop where
 gd: ∀X∈A,Gd X L
 done: ∀e∈M,e.2<A.length∧(5≤e.1.op→e.1.a<A.length)∧(5≤e.1.op→e.1.op≠8→e.1.b<A.length)∧1≤e.1.op∧e.1.op≤8∧gA L e.1.op e.1.x (A.getD e.1.a zD) (A.getD e.1.b zD)=some (A.getD e.2 zD)
 la:A.length≤k
 lm:M.length≤k
noncomputable def mh (A:List Da):LV:=gK V.str 0 (A.map kN)
theorem DZ {A B:List Da} (h:A <+: B) {i:Nat} (hi:i<A.length):B.getD i zD=A.getD i zD:=by
 have h2:i<B.length:=gB hi h.length_le;rw[fG hi,fG h2,h.getElem hi]
theorem tu.grow {L k:Nat} {A B:List Da} {M:List (Nd×Nat)} (h:tu L k A M) (hp:A <+: B) (hl:B.length≤k+1) (hg: ∀X∈B,Gd X L) {d:Nd} {i:Nat} (hi:i<B.length) (o1:1≤d.op) (o8:d.op≤8) (ha:5≤d.op→d.a<A.length) (hb:5≤d.op→d.op≠8→d.b<A.length) (hv:gA L d.op d.x (A.getD d.a zD) (A.getD d.b zD)=some (B.getD i zD)):tu L (k+1) B (M++[(d,i)]) where
 gd:=hg
 la:=hl
 lm:=by have:=h.lm;simp;omega
 done:=fun e he=>by
  have hle:=hp.length_le;rcases eW.1 he with he|he
  ·obtain ⟨h1,h2,h3,h4,h5,h6⟩:=h.done e he;refine ⟨by omega,fun h=>by have:=h2 h;omega,fun h h'=>by have:=h3 h h';omega,h4,h5,?_⟩;rw[DZ hp h1,←h6];exact JV h4 h5 (fun h=>DZ hp (h2 h)) fun h h'=>DZ hp (h3 h h')
  ·obtain rfl:e=(d,i):=by simpa using he
   refine ⟨hi,fun h=>gB (ha h) hle,fun h h'=>gB (hb h h') hle,o1,o8,?_⟩;rw[←hv];exact JV o1 o8 (fun h=>DZ hp (ha h)) fun h h'=>DZ hp (hb h h')
theorem tu.up {L k:Nat} {A:List Da} {M:List (Nd×Nat)} (h:tu L k A M):tu L (k+1) A M:=⟨h.gd,h.done,Nat.le_succ_of_le h.la,Nat.le_succ_of_le h.lm⟩
noncomputable def aja (d:Nd) (L:Nat) (A:List Da) (M:List (Nd×Nat)):LV:=[.int .i64 (d.op:Int),.int .i64 (d.x:Int),.int .i64 (d.a:Int),.int .i64 (d.b:Int),.int .i64 (L:Int),.list dA (fe A),.list dX (mh A),.list dY (kO M)]
noncomputable def YY (i:Nat) (e:Int) (L:Nat) (A:List Da) (M:List (Nd×Nat)):LV:=[.int .i64 (i:Int),.int .i64 e,.int .i64 (L:Int),.list dX (mh A),.list dY (kO M),.list dA (fe A)]
theorem ayf {L k:Nat} {A:List Da} {M:List (Nd×Nat)} {d:Nd} (hL:L=1∨L=2) (hk:k≤1000) (h:tu L k A M) (o1:1≤d.op) (o8:d.op≤8) (hx:d.op=3→d.x<L) (m8:d.x≤1000) (ha:5≤d.op→d.a<A.length) (Lo:d.a≤1000) (hb:5≤d.op→d.op≠8→d.b<A.length) (fD:d.b≤1000):
  (gA L d.op d.x (A.getD d.a zD) (A.getD d.b zD)=none→CC F4 (aja d L A M)=some (YY 0 3 L A M))∧
  (∀Y,gA L d.op d.x (A.getD d.a zD) (A.getD d.b zD)=some Y→∃(i:Nat) (B:List Da) (N:List (Nd×Nat)),i<B.length∧B.getD i zD=Y∧A <+: B∧tu L (k+1) B N∧CC F4 (aja d L A M)=some (YY i 0 L B N)):=by
 have la:=h.la;have lm:=h.lm;have k1:((cw .i64 (d.op:Int)&&(cw .i64 (d.x:Int)&&(cw .i64 (d.a:Int)&&(cw .i64 (d.b:Int)&&true))))&&true)=true:=by
  rw[km (show d.op≤_ by omega),km (show d.x≤_ by omega),km (show d.a≤_ by omega),km (show d.b≤_ by omega)];rfl
 have iq:=axw (m2:=mh A) (m3:=kO M) hL o1 o8 hx h.gd ha hb;have zz:V.agg [V.int .i64 (d.op:Int),V.int .i64 (d.x:Int),V.int .i64 (d.a:Int),V.int .i64 (d.b:Int)]=d.v:=rfl;by_cases hd:d∈M.map Prod.fst
 ·obtain ⟨i,hi,eg⟩:=ai9 d (.int .i64 0) M hd;obtain ⟨h1,_,_,_,_,h6⟩:=h.done _ hi;simp only at h1 h6;refine ⟨fun hn=>(by rw[hn] at h6;cases h6),fun Y hY=>⟨i,A,M,h1,?_,lG _,h.up,?_⟩⟩
  ·rw[hY] at h6;exact (ew h6).symm
  ·refine PV ?_;unfold J4;rw[zz];refine bT k1 (bT ?_ ?_)
   ·rw[YW,bU hd]
   ·rw[eg];rfl
 ·have lO:ez d.v (kO M)=false:=by rw[YW,cJ hd]
  refine ⟨fun hn=> ?_,fun Y hY=> ?_⟩
  ·rw[hn] at iq;refine PV ?_;unfold J4;rw[zz];refine bT k1 (bF lO ?_);refine bs iq (bT rfl ?_);rfl
  ·have gY:=PN hL (fun h5=>h.gd _ (mQ (ha h5))) (fun h5 h8=>h.gd _ (mQ (hb h5 h8))) o1 o8 hY;rw[hY] at iq;have htl:=ax9 gY.ok;have hlen:(Nat.ble (kN Y).length maxLen&&true)=true:=by
    rw[yG,fo];unfold maxLen;omega
   by_cases ht:kN Y∈A.map kN
   ·obtain ⟨i,eT,h2,e2⟩:=ayc PW (.int .i64 0) ht;have hi:i<A.length:=by rwa [cH] at eT
    have hAi:A.getD i zD=Y:=by
     rw[List.getElem_map] at h2;have gX:=h.gd _ (mQ hi);refine ax8 gX.ok gY.ok (by rw[gX.hL,gY.hL]) ?_;rw[fG hi];exact h2
    refine ⟨i,A,M++[(d,i)],hi,hAi,lG _,?_,?_⟩
    ·exact h.grow (lG _) (by omega) h.gd hi o1 o8 ha hb (by rw[hAi,hY])
    ·refine PV ?_;unfold J4;rw[zz];refine bT k1 (bF lO ?_);refine bs iq (bF rfl ?_);refine bs (ai0 gY.ok) ?_;refine bT hlen ?_;unfold J3;refine bF ?_ ?_
     ·show (!(ez (.str (kN Y)) (mh A)))=false;rw[show ez (.str (kN Y)) (mh A)=true from ayd PW ht];rfl
     ·simp only[un];refine bT k1 ?_;have e3:=YX d i M hd;show some [V.int .i64 (fO (.str (kN Y)) (mh A) (.int .i64 0)).toInt,V.int .i64 0,V.int .i64 (L:Int),.list dX (mh A),.list dY (eB d.v (.int .i64 (fO (.str (kN Y)) (mh A) (.int .i64 0)).toInt) (kO M)),.list dA (fe A)]=_;rw[show fO (.str (kN Y)) (mh A) (.int .i64 0)= .int .i64 (i:Int) from e2,V.toInt_int];rw[show eB d.v (.int .i64 (i:Int)) (kO M)=_ from e3];rfl
   ·have e2:=uG PW (kN Y) (A.map kN) 0 ht;rw[ed,cH] at e2;have hB:(A++[Y]).getD A.length zD=Y:=by simp
    have jt:A <+: A++[Y]:=List.prefix_append _ _;refine ⟨A.length,A++[Y],M++[(d,A.length)],by simp,hB,jt,?_,?_⟩
    ·refine h.grow jt (by simp;omega) (fun X hX=> ?_) (by simp) o1 o8 ha hb (by rw[hB,hY]);rcases eW.1 hX with hX|hX
     ·exact h.gd X hX
     ·obtain rfl:X=Y:=by simpa using hX
      exact gY
    ·refine PV ?_;unfold J4;rw[zz];refine bT k1 (bF lO ?_);refine bs iq (bF rfl ?_);refine bs (ai0 gY.ok) ?_;refine bT hlen ?_;unfold J3;refine bT ?_ ?_
     ·show (!(ez (.str (kN Y)) (mh A)))=true;rw[show ez (.str (kN Y)) (mh A)=false from aye PW ht];rfl
     ·refine bT hlen (bT ?_ ?_)
      ·show Nat.ble (((fe A).length+1)*64) aX=true;exact cap (by simp[fe];omega) (by omega)
      ·simp only[un];refine bT k1 ?_;have e3:=YX d A.length M hd;show some [V.int .i64 ((fe A).length:Int),V.int .i64 0,V.int .i64 (L:Int),.list dX (eB (.str (kN Y)) (.int .i64 ((fe A).length:Int)) (mh A)),.list dY (eB d.v (.int .i64 ((fe A).length:Int)) (kO M)),.list dA (fe A++[.agg (dh Y)])]=_;rw[show (fe A).length=A.length by simp[fe],e3,show eB (.str (kN Y)) (.int .i64 (A.length:Int)) (mh A)=_ from e2];simp[YY,mh,fe]
noncomputable def J5 (C:ae) (ay e q:Int) (t24:LV) (t25 t26:Int) (outs:LV) (aP aT:Int) (ca:LV) (a:Int) (bC:LV) {β:Type} (kn:(Int×LV)→Option β) (kr:(Int×Bool×LV)→Option β):Option β:=
 bif decide (a<ay) then
  aq bC q fun x7=>
  (bC[q.toNat]?).bind fun x8=>
  bif Nat.ble ((x8.toList.length+([V.int .i64 1]:LV).length)*8) aX then
  zR bC q <|
  bif (Nat.beq (q.toNat) (q.toNat))&&true then
   kn (wrap .i64 (a+1),aI bC q (.list aF (x8.toList++([V.int .i64 1]:LV))))
  else none
  else none
 else
  kr (a,decide (a<ay),bC)
noncomputable def PX (C:ae) (ay e q:Int) (t24:LV) (t25 t26:Int) (outs:LV) (aP aT:Int) (ca:LV):=un fun a bC=>J5 C ay e q t24 t25 t26 outs aP aT ca a bC (fun y=>some (Sum.inl y)) (fun r=>some (Sum.inr r))
noncomputable def J6 (C:ae) (ay e:Int) (t24:LV) (t25 t26:Int) (outs:LV) (aP aT:Int) (ca:LV) (q:Int) (bC:LV) {β:Type} (kn:(Int×LV)→Option β) (kr:(Int×Bool×LV)→Option β):Option β:=
 bif decide (q<2) then
  bif Nat.ble ((bC.length+1)*24) aX then
  (Loop (PX C ay e q t24 t25 t26 outs aP aT ca) (0,bC++([.list aF []]:LV))).bind (un fun a_9=>un fun (xU:Bool) (Io:LV)=>
   kn (wrap .i64 (q+1),Io))
  else none
 else
  kr (q,decide (q<2),bC)
noncomputable def PY (C:ae) (ay e:Int) (t24:LV) (t25 t26:Int) (outs:LV) (aP aT:Int) (ca:LV):=un fun q bC=>J6 C ay e t24 t25 t26 outs aP aT ca q bC (fun y=>some (Sum.inl y)) (fun r=>some (Sum.inr r))
noncomputable def J7 (C:ae) (ay e q a to:Int) (t24:LV) (t25 t26:Int) (t96:Bool) (outs:LV) (og oh lS mF aP aT:Int) (bC bQ:LV) {β:Type} (kr:(Int)→Option β):Option β:=
 bif t96 then
  kr 1
 else
  kr to
noncomputable def J8 (C:ae) (ay e q:Int) (t24:LV) (t25 t26:Int) (outs:LV) (og oh lS mF aP aT:Int) (bC:LV) (a:Int) (bQ:LV) {β:Type} (kn:(Int×LV)→Option β) (kr:(Int×Bool×LV)→Option β):Option β:=
 bif decide (a<ay) then
  bif q==0 then
  J7 C ay e q a 2 t24 t25 t26 (a==oh) outs og oh lS mF aP aT bC bQ (fun ajb=>
   aq bQ q fun uI=>
   (bQ[q.toNat]?).bind fun pK=>
   bif Nat.ble ((pK.toList.length+([V.int .i64 ajb]:LV).length)*8) aX then
    zR bQ q <|
    bif (Nat.beq (q.toNat) (q.toNat))&&true then
    kn (wrap .i64 (a+1),aI bQ q (.list aF (pK.toList++([V.int .i64 ajb]:LV))))
    else none
   else none)
  else
  J7 C ay e q a 2 t24 t25 t26 false outs og oh lS mF aP aT bC bQ (fun ajc=>
   aq bQ q fun C6=>
   (bQ[q.toNat]?).bind fun ta=>
   bif Nat.ble ((ta.toList.length+([V.int .i64 ajc]:LV).length)*8) aX then
    zR bQ q <|
    bif (Nat.beq (q.toNat) (q.toNat))&&true then
    kn (wrap .i64 (a+1),aI bQ q (.list aF (ta.toList++([V.int .i64 ajc]:LV))))
    else none
   else none)
 else
  kr (a,decide (a<ay),bQ)
noncomputable def PZ (C:ae) (ay e q:Int) (t24:LV) (t25 t26:Int) (outs:LV) (og oh lS mF aP aT:Int) (bC:LV):=un fun a bQ=>J8 C ay e q t24 t25 t26 outs og oh lS mF aP aT bC a bQ (fun y=>some (Sum.inl y)) (fun r=>some (Sum.inr r))
noncomputable def J9 (C:ae) (ay e:Int) (t24:LV) (t25 t26:Int) (outs:LV) (og oh lS mF aP aT:Int) (bC:LV) (q:Int) (bQ:LV) {β:Type} (kn:(Int×LV)→Option β) (kr:(Int×Bool×LV)→Option β):Option β:=
 bif decide (q<3) then
  bif Nat.ble ((bQ.length+1)*24) aX then
  (Loop (PZ C ay e q t24 t25 t26 outs og oh lS mF aP aT bC) (0,bQ++([.list aF []]:LV))).bind (un fun azL=>un fun (Hh:Bool) (Al:LV)=>
   kn (wrap .i64 (q+1),Al))
  else none
 else
  kr (q,decide (q<3),bQ)
noncomputable def P0 (C:ae) (ay e:Int) (t24:LV) (t25 t26:Int) (outs:LV) (og oh lS mF aP aT:Int) (bC:LV):=un fun q bQ=>J9 C ay e t24 t25 t26 outs og oh lS mF aP aT bC q bQ (fun y=>some (Sum.inl y)) (fun r=>some (Sum.inr r))
noncomputable def tv (C:ae) (ay e:Int) (t24:LV) (t25 t26 t31:Int) (t109:Bool) (outs:LV) (og oh lS mF aP aT:Int) (bC bQ:LV) {β:Type} (kr:(Int×Int×Int×LV×LV)→Option β):Option β:=
 bif t109 then
  aq outs lS fun yi=>
  aq outs mF fun P1=>
  (C Cs [V.int .i64 ((yi.cell 0).toInt),V.int .i64 ((yi.cell 1).toInt),.list ao ((yi.cell 2).toList),.list ar ((yi.cell 3).toList),V.int .i64 ((P1.cell 0).toInt),V.int .i64 ((P1.cell 1).toInt),.list ao ((P1.cell 2).toList),.list ar ((P1.cell 3).toList),V.int .i64 14]).bind fun yk=>
  kr ((V.nth (yk.drop 2) 0).toInt,(V.nth yk 0).toInt,(V.nth (yk.drop 1) 0).toInt,(V.nth (yk.drop 3) 0).toList,(V.nth ((yk.drop 3).drop 1) 0).toList)
 else
  bif t31==6 then
  aq outs lS fun wI=>
  aq outs mF fun tj=>
  (C Cs [V.int .i64 ((wI.cell 0).toInt),V.int .i64 ((wI.cell 1).toInt),.list ao ((wI.cell 2).toList),.list ar ((wI.cell 3).toList),V.int .i64 ((tj.cell 0).toInt),V.int .i64 ((tj.cell 1).toInt),.list ao ((tj.cell 2).toList),.list ar ((tj.cell 3).toList),V.int .i64 8]).bind fun AT=>
  kr ((V.nth (AT.drop 2) 0).toInt,(V.nth AT 0).toInt,(V.nth (AT.drop 1) 0).toInt,(V.nth (AT.drop 3) 0).toList,(V.nth ((AT.drop 3).drop 1) 0).toList)
  else
  bif t31==7 then
   aq outs lS fun DC=>
   aq outs mF fun DD=>
   (C F3 [V.int .i64 ((DC.cell 0).toInt),V.int .i64 ((DC.cell 1).toInt),.list ao ((DC.cell 2).toList),.list ar ((DC.cell 3).toList),V.int .i64 ((DD.cell 0).toInt),V.int .i64 ((DD.cell 1).toInt),.list ao ((DD.cell 2).toList),.list ar ((DD.cell 3).toList)]).bind fun AU=>
   kr ((V.nth (AU.drop 2) 0).toInt,(V.nth AU 0).toInt,(V.nth (AU.drop 1) 0).toInt,(V.nth (AU.drop 3) 0).toList,(V.nth ((AU.drop 3).drop 1) 0).toList)
  else
   bif t31==8 then
   aq outs lS fun P2=>
   (C Mx [V.int .i64 ((P2.cell 0).toInt),V.int .i64 ((P2.cell 1).toInt),.list ao ((P2.cell 2).toList),.list ar ((P2.cell 3).toList)]).bind fun P4=>
   kr (e,(V.nth P4 0).toInt,(V.nth (P4.drop 1) 0).toInt,(V.nth (P4.drop 2) 0).toList,(V.nth ((P4.drop 2).drop 1) 0).toList)
   else
   kr (e,aP,aT,bC,bQ)
noncomputable def oz (C:ae) (ay:Int) (t24:LV) (t25 t26:Int) (outs:LV) {β:Type} (kn:(Int×LV)→Option β) (kr:((Int×LV) ⊕ (Int×Bool×LV))→Option β):Option β:=
 bif decide (t26<t25) then
  (idx t24 t26).bind fun x2=>
  bif (((x2.cell 0).toInt):Int)==1 then
  (C F0 [V.int .i64 ay,.bool false]).bind fun r3=>
  (C pB [V.int .i64 ((V.nth r3 0).toInt),V.int .i64 ((V.nth (r3.drop 1) 0).toInt),.list ao ((V.nth (r3.drop 2) 0).toList),.list ar ((V.nth ((r3.drop 2).drop 1) 0).toList)]).bind fun r4=>
  bif Nat.ble ((outs.length+([.agg [V.int .i64 ((V.nth r4 0).toInt),V.int .i64 ((V.nth (r4.drop 1) 0).toInt),.list ao ((V.nth (r4.drop 2) 0).toList),.list ar ((V.nth ((r4.drop 2).drop 1) 0).toList)]]:LV).length)*64) aX then
   kn (wrap .i64 (t26+1),outs++([.agg [V.int .i64 ((V.nth r4 0).toInt),V.int .i64 ((V.nth (r4.drop 1) 0).toInt),.list ao ((V.nth (r4.drop 2) 0).toList),.list ar ((V.nth ((r4.drop 2).drop 1) 0).toList)]]:LV))
  else none
  else
  bif (((x2.cell 0).toInt):Int)==4 then
   (C F0 [V.int .i64 ay,.bool true]).bind fun r5=>
   (C pB [V.int .i64 ((V.nth r5 0).toInt),V.int .i64 ((V.nth (r5.drop 1) 0).toInt),.list ao ((V.nth (r5.drop 2) 0).toList),.list ar ((V.nth ((r5.drop 2).drop 1) 0).toList)]).bind fun r6=>
   bif Nat.ble ((outs.length+([.agg [V.int .i64 ((V.nth r6 0).toInt),V.int .i64 ((V.nth (r6.drop 1) 0).toInt),.list ao ((V.nth (r6.drop 2) 0).toList),.list ar ((V.nth ((r6.drop 2).drop 1) 0).toList)]]:LV).length)*64) aX then
   kn (wrap .i64 (t26+1),outs++([.agg [V.int .i64 ((V.nth r6 0).toInt),V.int .i64 ((V.nth (r6.drop 1) 0).toInt),.list ao ((V.nth (r6.drop 2) 0).toList),.list ar ((V.nth ((r6.drop 2).drop 1) 0).toList)]]:LV))
   else none
  else
   bif (((x2.cell 0).toInt):Int)==2 then
   (Loop (PY C ay 0 t24 t25 t26 outs ay 0 ([.bool true,.bool false]:LV)) (0,([]:LV))).bind (un fun azM=>un fun (oU:Bool) (we:LV)=>
    (C pB [V.int .i64 ay,V.int .i64 0,.list ao ([.bool true,.bool false]:LV),.list ar we]).bind fun fx=>
    bif Nat.ble ((outs.length+([.agg [V.int .i64 ((V.nth fx 0).toInt),V.int .i64 ((V.nth (fx.drop 1) 0).toInt),.list ao ((V.nth (fx.drop 2) 0).toList),.list ar ((V.nth ((fx.drop 2).drop 1) 0).toList)]]:LV).length)*64) aX then
     kn (wrap .i64 (t26+1),outs++([.agg [V.int .i64 ((V.nth fx 0).toInt),V.int .i64 ((V.nth (fx.drop 1) 0).toInt),.list ao ((V.nth (fx.drop 2) 0).toList),.list ar ((V.nth ((fx.drop 2).drop 1) 0).toList)]]:LV))
    else none)
   else
   bif (((x2.cell 0).toInt):Int)==3 then
    (Loop (P0 C ay 0 t24 t25 t26 outs ((x2.cell 0).toInt) ((x2.cell 1).toInt) ((x2.cell 2).toInt) ((x2.cell 3).toInt) ay 0 ([.bool false,.bool true,.bool false]:LV)) (0,([]:LV))).bind (un fun azN=>un fun (NW:Bool) (Wt:LV)=>
     (C pB [V.int .i64 ay,V.int .i64 0,.list ao ([.bool false,.bool true,.bool false]:LV),.list ar Wt]).bind fun yA=>
     bif Nat.ble ((outs.length+([.agg [V.int .i64 ((V.nth yA 0).toInt),V.int .i64 ((V.nth (yA.drop 1) 0).toInt),.list ao ((V.nth (yA.drop 2) 0).toList),.list ar ((V.nth ((yA.drop 2).drop 1) 0).toList)]]:LV).length)*64) aX then
     kn (wrap .i64 (t26+1),outs++([.agg [V.int .i64 ((V.nth yA 0).toInt),V.int .i64 ((V.nth (yA.drop 1) 0).toInt),.list ao ((V.nth (yA.drop 2) 0).toList),.list ar ((V.nth ((yA.drop 2).drop 1) 0).toList)]]:LV))
     else none)
   else
    tv C ay 0 t24 t25 t26 ((x2.cell 0).toInt) ((((x2.cell 0).toInt):Int)==5) outs ((x2.cell 0).toInt) ((x2.cell 1).toInt) ((x2.cell 2).toInt) ((x2.cell 3).toInt) 0 0 ([]:LV) ([]:LV) (un fun ayg=>un fun ayh=>un fun ayi=>un fun (ayj:LV) (ayk:LV)=>
     bif ayg != 0 then
     kr (.inl (3,([]:LV)))
     else
     (C pB [V.int .i64 ayh,V.int .i64 ayi,.list ao ayj,.list ar ayk]).bind fun kM=>
     bif Nat.ble ((outs.length+([.agg [V.int .i64 ((V.nth kM 0).toInt),V.int .i64 ((V.nth (kM.drop 1) 0).toInt),.list ao ((V.nth (kM.drop 2) 0).toList),.list ar ((V.nth ((kM.drop 2).drop 1) 0).toList)]]:LV).length)*64) aX then
      kn (wrap .i64 (t26+1),outs++([.agg [V.int .i64 ((V.nth kM 0).toInt),V.int .i64 ((V.nth (kM.drop 1) 0).toInt),.list ao ((V.nth (kM.drop 2) 0).toList),.list ar ((V.nth ((kM.drop 2).drop 1) 0).toList)]]:LV))
     else none)
 else
  kr (.inr (t26,decide (t26<t25),outs))
noncomputable def nD (C:ae) (ay:Int) (t24:LV) (t25:Int):=un fun t26 outs=>oz C ay t24 t25 t26 outs (fun y=>some (Sum.inl y)) (fun r=>some (Sum.inr r))
noncomputable def A9 (C:ae):cE:=bG 353 Tv [EQ,EQ,EQ,H1,EQ,EQ,EQ,EQ,EQ,EQ,EQ,H1] [[1,2,3,0,5,6,7,0,8,9,10,11,0]] (@J5 C) (bG 289 Tw [EQ,EQ,H1,EQ,EQ,EQ,EQ,EQ,EQ,EQ,H1] [[1,2,0,4,5,6,0,7,8,9,10,0]] (@J6 C) (gG 1551 Tx [[1,2,3,4,0,6,7,8,10,11,12,13,14,15,16,17,18]] (@J7 C) (bG 513 Tz [EQ,EQ,EQ,H1,EQ,EQ,EQ,EQ,EQ,EQ,EQ,EQ,EQ,EQ,EQ,H1] [[1,2,3,0,5,6,7,0,8,9,10,11,12,13,14,15,0]] (@J8 C) (bG 449 TA [EQ,EQ,H1,EQ,EQ,EQ,EQ,EQ,EQ,EQ,EQ,EQ,EQ,EQ,H1] [[1,2,0,4,5,6,0,7,8,9,10,11,12,13,14,0]] (@J9 C) (gG 1759 TB [[1,0,3,4,5,8,0,0,0,0]] (@tv C) (bG 97 TC [EQ,EQ,EQ,H1,H1] [[0,0],[1,2,3,0,0,0]] (@oz C) bm))))))
theorem ayl (C:ae):aW C (A9 C) 7 (Lp [1,1,1,0,1,0,0,1,1,0,0,1,1,1,0,1,0,1,1,1,1,1,0,1,1,0,0,1,0,0,1,1,0,0] 7):=bE Tv [EQ,EQ,EQ,H1,EQ,EQ,EQ,EQ,EQ,EQ,EQ,H1] [[1,2,3,0,5,6,7,0,8,9,10,11,0]] (@J5 C) (aG an)
theorem aym (C:ae):aW C (A9 C) 7 (Lp [1,1,1,0,1,0,0,1,1,0,0,1,1,1,0,1,0,1,1,1,1,1,0,1,1,0,0] 7):=bE Tw [EQ,EQ,H1,EQ,EQ,EQ,EQ,EQ,EQ,EQ,H1] [[1,2,0,4,5,6,0,7,8,9,10,0]] (@J6 C) (aG (aU (ayl C) an))
theorem ayn (C:ae):aW C (A9 C) 7 (Cd 96 [1,1,1,0,1,0,0,1,1,0,0,1,1,1,0,1,0,1,1,1,1,1,1,1,0,1,1,0,0,1,0,0,1,1,0,0,1,0,0,1,0,1,0] [1,1,1,0,1,0,0,1,1,0,0,1,1,1,0,1,0,1,1,1,1,1,1,1,0,1,1,0,0,1,0,0,1,1,0,0,1,0,0,1,0,1,1] 7):=gF Tx [[1,2,3,4,0,6,7,8,10,11,12,13,14,15,16,17,18]] (@J7 C) (aG an) (aG an)
theorem ayo (C:ae):aW C (A9 C) 7 (Lp [1,1,1,0,1,0,0,1,1,0,0,1,1,1,0,1,0,1,1,1,1,1,1,1,0,1,1,0,0,1,0,0,1,1,0,0] 7):=bE Tz [EQ,EQ,EQ,H1,EQ,EQ,EQ,EQ,EQ,EQ,EQ,EQ,EQ,EQ,EQ,H1] [[1,2,3,0,5,6,7,0,8,9,10,11,12,13,14,15,0]] (@J8 C) (aG (aU (ayn C) an))
theorem ayp (C:ae):aW C (A9 C) 7 (Lp [1,1,1,0,1,0,0,1,1,0,0,1,1,1,0,1,0,1,1,1,1,1,1,1,0,1,1,0,0] 7):=bE TA [EQ,EQ,H1,EQ,EQ,EQ,EQ,EQ,EQ,EQ,EQ,EQ,EQ,EQ,H1] [[1,2,0,4,5,6,0,7,8,9,10,11,12,13,14,0]] (@J9 C) (aG (aU (ayo C) an))
theorem ayq (C:ae):aW C (A9 C) 7 (Cd 109 [1,1,1,0,1,0,0,1,1,0,0,1,1,1,0,1,0,1,1,1,1,1,1,1,1,1,0] [1,1,1,0,1,0,0,1,1,0,0,1,1,1,0,1,0,1,1,1,1,1,1,1,1,1,1] 7):=gF TB [[1,0,3,4,5,8,0,0,0,0]] (@tv C) (aG an) (aG an)
theorem ayr (C:ae):aW C (A9 C) 7 (Lp [1,1,1,0,1,0,0] 7):=bE TC [EQ,EQ,EQ,H1,H1] [[0,0],[1,2,3,0,0,0]] (@oz C) (aG (aU (aym C) (aU (ayp C) (aU (ayq C) an))))
noncomputable def YZ (C:ae) (eR:LV) (jT ay:Int):Option LV:=
 (C Mw [.list jy eR,V.int .i64 jT,V.int .i64 ay]).bind fun r1=>
 bif (((V.nth r1 0).toInt):Int) != 0 then
  some [V.int .i64 ((V.nth r1 0).toInt),.list dA ([]:LV)]
 else
  (Loop (nD C ay eR (eR.length:Int)) (0,([]:LV))).bind (bN (un fun (ays:Int) (ayt:LV)=>
   some [V.int .i64 ays,.list dA ayt]) (un fun azO=>un fun (auM:Bool) (ayu:LV)=>
   some [V.int .i64 0,.list dA ayu]))
theorem ajd {eR:LV} {jT ay:Int} {r:Option LV} (h:YZ CC eR jT ay=r):CC FW [.list jy eR,V.int .i64 jT,V.int .i64 ay]=r:=bj (aU (ayr CC) an) h
theorem aje {l:LV} {x y:V} {q:Nat} (h:l.length=q):(l++[x]).set q y=l++[y]:=by
 subst h;simp
theorem P5 {l:LV} {x:V} {q:Nat} (h:l.length=q):(l++[x])[q]? =some x:=by
 subst h;simp
section
variable {L:Nat} (hL:L=1∨L=2)
include hL
theorem ayv {q:Nat} {pre:LV} (hp:pre.length=q) (hq:q≤10) {l1 l2 l3:LV} {k1 k2 k3 k4 k5:Int}:
  Loop (PX CC (L:Int) k1 (q:Int) l1 k2 k3 l2 k4 k5 l3) (0,pre++[.list aF []])=some ((L:Int),false,pre++[.list aF (List.replicate L (.int .i64 1))]):=by
 refine (eh L (fun a=>((a:Int),pre++[.list aF (List.replicate a (.int .i64 1))])) _ (fun a ha=> ?_) ?_)
 ·simp only[PX,J5,un,aq,zR,aI];refine bT (cN ha) ?_;refine (eo (i:=q) (P5 hp)).trans ?_;rw[Int.toNat_natCast];refine bs (P5 hp) ?_;refine bT (cap (by simp;omega) (by omega)) ?_;refine bT (by simp;omega) ?_;refine bT (by simp) ?_;rw[aje hp,cG (by omega),V.ki,←Ko]
 ·simp only[PX,J5,un,aq,zR,aI];refine bF (bp (az _)) ?_;rw[bp (az _)]
theorem ayw {l1 l2 l3:LV} {k1 k2 k3 k4 k5:Int}:
  Loop (PY CC (L:Int) k1 l1 k2 k3 l2 k4 k5 l3) (0,([]:LV))=some (2,false,(mf L).bz):=by
 have e: ∀q:Nat,List.replicate q (V.list aF (List.replicate L (.int .i64 1)))++[V.list aF (List.replicate L (.int .i64 1))]=List.replicate (q+1) (V.list aF (List.replicate L (.int .i64 1))):=fun q=>Ko.symm;rw[aiE];refine (eh 2 (fun q=>((q:Int),List.replicate q (V.list aF (List.replicate L (.int .i64 1))))) _ (fun q hq=> ?_) ?_)
 ·simp only[PY,J6,un];refine bT (bU (by omega)) ?_;refine bT (cap (by simp;omega) (by omega)) ?_;refine bs (ayv hL (by simp) (by omega)) ?_;rw[cG (by omega),e];rfl
 ·simp only[PY,J6,un];refine bF (cJ (by omega)) ?_;rfl
theorem ayx {q x:Nat} {pre:LV} (hp:pre.length=q) (hq:q≤10) {l1 l2 l3:LV} {k1 k2 k3 k4 k5 k6 k7 k8:Int}:
  Loop (PZ CC (L:Int) k1 (q:Int) l1 k2 k3 l2 k4 (x:Int) k5 k6 k7 k8 l3) (0,pre++[.list aF []])=some ((L:Int),false,pre++[.list aF (tab L fun y=>iV ((if q=0∧y=x then 1 else 2:Nat):Int))]):=by
 refine (eh L (fun a=>((a:Int),pre++[.list aF (tab a fun y=>iV ((if q=0∧y=x then 1 else 2:Nat):Int))])) _ (fun a ha=> ?_) ?_)
 ·have key: ∀t:Nat,t=(if q=0∧a=x then 1 else 2)→(aq (pre++[.list aF (tab a fun y=>iV ((if q=0∧y=x then 1 else 2:Nat):Int))]) (q:Int) fun uI=>
   ((pre++[.list aF (tab a fun y=>iV ((if q=0∧y=x then 1 else 2:Nat):Int))])[(q:Int).toNat]?).bind fun pK=>
   bif Nat.ble ((pK.toList.length+([V.int .i64 (t:Int)]:LV).length)*8) aX then
    zR (pre++[.list aF (tab a fun y=>iV ((if q=0∧y=x then 1 else 2:Nat):Int))]) (q:Int) <|
    bif (Nat.beq ((q:Int).toNat) ((q:Int).toNat))&&true then
    some (Sum.inl (wrap .i64 ((a:Int)+1),aI (pre++[.list aF (tab a fun y=>iV ((if q=0∧y=x then 1 else 2:Nat):Int))]) (q:Int) (.list aF (pK.toList++([V.int .i64 (t:Int)]:LV)))):(Int×LV) ⊕ (Int×Bool×LV))
    else none
   else none)=some (Sum.inl (((a+1:Nat):Int),pre++[.list aF (tab (a+1) fun y=>iV ((if q=0∧y=x then 1 else 2:Nat):Int))])):=by
   intro t ht;simp only[aq,zR,aI];refine (eo (i:=q) (P5 hp)).trans ?_;rw[Int.toNat_natCast];refine bs (P5 hp) ?_;refine bT (cap (by simp;omega) (by omega)) ?_;refine bT (by simp;omega) ?_;refine bT (by simp) ?_;rw[aje hp,cG (by omega),V.ki,gg,ht]
  simp only[PZ,J8,un];refine bT (cN ha) ?_;unfold J7;by_cases h0:q=0
  ·refine bT (by simp[h0]) ?_;by_cases hx:a=x
   ·refine bT (by simp[hx]) ?_;exact key 1 (by rw[ah ⟨h0,hx⟩])
   ·refine bF (by simp;omega) ?_;exact key 2 (by rw[ag fun h=>hx h.2])
  ·refine bF (by simp;omega) ?_;refine bF rfl ?_;exact key 2 (by rw[ag fun h=>h0 h.1])
 ·simp only[PZ,J8,un];refine bF (bp (az _)) ?_;rw[bp (az _)]
theorem ayy {x:Nat} {l1 l2 l3:LV} {k1 k2 k3 k4 k5 k6 k7 k8:Int}:
  Loop (P0 CC (L:Int) k1 l1 k2 k3 l2 k4 (x:Int) k5 k6 k7 k8 l3) (0,([]:LV))=some (3,false,(jY L x).bz):=by
 have e3:(jY L x).bz=tab 3 fun q=>V.list aF (tab L fun y=>iV ((if q=0∧y=x then 1 else 2:Nat):Int)):=by
  rw[aiF];show _=[V.list aF (tab L fun y=>iV ((if (0:Nat)=0∧y=x then 1 else 2:Nat):Int)),V.list aF (tab L fun y=>iV ((if (1:Nat)=0∧y=x then 1 else 2:Nat):Int)),V.list aF (tab L fun y=>iV ((if (2:Nat)=0∧y=x then 1 else 2:Nat):Int))]
  have e: ∀q:Nat,q≠0→(tab L fun y=>iV ((if q=0∧y=x then 1 else 2:Nat):Int))=List.replicate L (.int .i64 2):=fun q hq=>by
   rw[lu];exact dR fun y _=>by rw[ag fun h=>hq h.1];rfl
  rw[e 1 (by omega),e 2 (by omega)];congr 2;exact dR fun y _=>by simp
 rw[e3];refine (eh 3 (fun q=>((q:Int),tab q fun q=>V.list aF (tab L fun y=>iV ((if q=0∧y=x then 1 else 2:Nat):Int)))) _ (fun q hq=> ?_) ?_)
 ·simp only[P0,J9,un];refine bT (bU (by omega)) ?_;refine bT (cap (by simp;omega) (by omega)) ?_;refine bs (ayx hL (by simp) (by omega)) ?_;rw[cG (by omega),gg];rfl
 ·simp only[P0,J9,un];refine bF (cJ (by omega)) ?_;rfl
theorem ajf {b:Bool}:CC F0 [.int .i64 (L:Int),.bool b]=some (dh (me L b)):=by
 refine aw7 ?_;unfold aix;refine bT (mE (by omega) (by omega)) ?_;unfold dh dN;rw[aiD];rfl
end
structure yB (g:List Nd) (L:Nat) (O:List Da):Prop where
 len:O.length≤g.length
 gd: ∀X∈O,Gd X L
 val: ∀i,i<O.length→∀h:i<g.length,gA L g[i].op g[i].x (O.getD g[i].a zD) (O.getD g[i].b zD)=some (O.getD i zD)
theorem yB.snoc {g:List Nd} {L:Nat} {O:List Da} (hg:xT g L) (h:yB g L O) (hi:O.length<g.length) {Y:Da} (gY:Gd Y L) (hv:gA L g[O.length].op g[O.length].x (O.getD g[O.length].a zD) (O.getD g[O.length].b zD)=some Y):yB g L (O++[Y]) where
 len:=by simp;omega
 gd:=fun X hX=>by
  rcases eW.1 hX with hX|hX
  ·exact h.gd X hX
  ·obtain rfl:X=Y:=by simpa using hX
   exact gY
 val:=fun i lh h3=>by
  have hN:=hg.nd i h3;have jt: ∀j,j<O.length→(O++[Y]).getD j zD=O.getD j zD:=fun j hj=>by
   rw[fG hj,fG (by simp;omega),Ks hj]
  rcases fH i O.length with c|c
  ·rw[jt i c,←h.val i c h3];exact JV hN.o1 hN.o8 (fun h5=>jt _ (by have:=hN.a1 h5;omega)) fun h5 h8=>jt _ (by have:=hN.b1 h5 h8;omega)
  ·have:i=O.length:=by simp at lh;omega
   subst this;rw[show (O++[Y]).getD O.length zD=Y by simp,←hv];exact JV hN.o1 hN.o8 (fun h5=>jt _ (by have:=hN.a1 h5;omega)) fun h5 h8=>jt _ (by have:=hN.b1 h5 h8;omega)
theorem Y0 {A:List Da}:(fe A).length=A.length:=by simp[fe]
theorem ayz {A:List Da} {X:Da}:fe A++[V.agg (dh X)]=fe (A++[X]):=by simp[fe]
section
variable {g:List Nd} {L r:Nat} (hL:L=1∨L=2) (hg:xT g L)
include hL hg
theorem ayA {O:List Da} (h:yB g L O) (hi:O.length<g.length):
  (∃Y,Gd Y L∧gA L g[O.length].op g[O.length].x (O.getD g[O.length].a zD) (O.getD g[O.length].b zD)=some Y∧nD CC (L:Int) (g.map Nd.v) (g.length:Int) ((O.length:Int),fe O)=some (.inl (((O.length+1:Nat):Int),fe (O++[Y]))))∨
  nD CC (L:Int) (g.map Nd.v) (g.length:Int) ((O.length:Int),fe O)=some (.inr (.inl (3,[]))):=by
 have hN:=hg.nd _ hi;have n2:=hg.n2;have hO:=h.gd;have jq:=hg.get hi;generalize g[O.length]=d at hN jq⊢;obtain ⟨op,x,a,b⟩:=d;obtain ⟨o1,o8,x1,x0,a1,a0,b1,b0⟩:=hN;simp only at o1 o8 x1 x0 a1 a0 b1 b0⊢;have cf: ∀Y:Da,Nat.ble (((fe O).length+([V.agg (dh Y)]:LV).length)*64) aX=true:=fun Y=>cap (by simp[Y0];omega) (by omega);have fin: ∀Y:Da,(bif Nat.ble (((fe O).length+([V.agg (dh Y)]:LV).length)*64) aX then (some (Sum.inl (wrap .i64 ((O.length:Int)+1),fe O++([V.agg (dh Y)]:LV))):Option ((Int×LV) ⊕ ((Int×LV) ⊕ (Int×Bool×LV)))) else none)=some (.inl (((O.length+1:Nat):Int),fe (O++[Y]))):=fun Y=>by
  refine bT (cf Y) ?_;rw[cG (by omega),ayz]
 rcases (by omega:op=1∨op=2∨op=3∨op=4∨op=5∨op=6∨op=7∨op=8) with rfl|rfl|rfl|rfl|rfl|rfl|rfl|rfl
 ·refine .inl ⟨me L false,⟨A8 (by omega) (by omega),rfl,DV hL⟩,YE,?_⟩;simp only[nD,oz,un];refine bT (cN hi) (bs jq (bT rfl ?_));refine bs (ajf hL) ?_;refine bs (mJ (A8 (by omega) (by omega))) ?_;rw[DV hL];exact fin _
 ·refine .inl ⟨mf L,⟨PM (by omega) (by omega),rfl,YA hL⟩,YF,?_⟩;simp only[nD,oz,un];refine bT (cN hi) (bs jq (bF rfl (bF rfl (bT rfl ?_))));refine bs (ayw hL) ?_;refine bs (mJ (a:=mf L) (PM (by omega) (by omega))) ?_;rw[YA hL];exact fin _
 ·have aw:=Yz (L:=L) (x:=x) (by omega) (by omega);refine .inl ⟨minD (jY L x),⟨fc aw,oo aw,O3 aw⟩,YG,?_⟩;simp only[nD,oz,un];refine bT (cN hi) (bs jq (bF rfl (bF rfl (bF rfl (bT rfl ?_)))));refine bs (ayy hL (x:=x)) ?_;refine bs (mJ (a:=jY L x) aw) ?_;exact fin _
 ·refine .inl ⟨me L true,⟨A8 (by omega) (by omega),rfl,DV hL⟩,YH,?_⟩;simp only[nD,oz,un];refine bT (cN hi) (bs jq (bF rfl (bT rfl ?_)));refine bs (ajf hL) ?_;refine bs (mJ (A8 (by omega) (by omega))) ?_;rw[DV hL];exact fin _
 ·have ha:=a1 (by omega);have hb:=b1 (by omega) (by omega);have gp:=hO _ (mQ ha);have gq:=hO _ (mQ hb);have iI:(O.getD a zD).L=(O.getD b zD).L:=by rw[gp.hL,gq.hL]
  by_cases hn:iF (minD (O.getD a zD)) (minD (O.getD b zD))
  ·refine .inr ?_;obtain ⟨X,hX⟩:=aiz gp.ok gq.ok iI (op:=14) (by omega) hn;simp only[nD,oz,un];refine bT (cN hi) (bs jq (bF rfl (bF rfl (bF rfl (bF rfl ?_)))));unfold tv aq;refine bT rfl ?_;refine (eo (jd ha)).trans ((eo (jd hb)).trans ?_)
   refine bs hX ?_;simp only[un];exact bT rfl rfl
  ·have gY:=PN hL (fun _=>gp) (fun _ _=>gq) (by omega) (by omega) (YI (L:=L) (x:=x) hn);refine .inl ⟨_,gY,YI hn,?_⟩;simp only[nD,oz,un];refine bT (cN hi) (bs jq (bF rfl (bF rfl (bF rfl (bF rfl ?_)))));unfold tv aq;refine bT rfl ?_;refine (eo (jd ha)).trans ((eo (jd hb)).trans ?_)
   refine bs (agh gp.ok gq.ok iI (op:=14) (by omega) hn) ?_;simp only[un];refine bF rfl ?_;refine bs (mJ gY.ok) ?_;rw[gY.min];exact fin _
 ·have ha:=a1 (by omega);have hb:=b1 (by omega) (by omega);have gp:=hO _ (mQ ha);have gq:=hO _ (mQ hb);have iI:(O.getD a zD).L=(O.getD b zD).L:=by rw[gp.hL,gq.hL]
  by_cases hn:iF (minD (O.getD a zD)) (minD (O.getD b zD))
  ·refine .inr ?_;obtain ⟨X,hX⟩:=aiz gp.ok gq.ok iI (op:=8) (by omega) hn;simp only[nD,oz,un];refine bT (cN hi) (bs jq (bF rfl (bF rfl (bF rfl (bF rfl ?_)))));unfold tv aq;refine bF rfl (bT rfl ?_);refine (eo (jd ha)).trans ((eo (jd hb)).trans ?_)
   refine bs hX ?_;simp only[un];exact bT rfl rfl
  ·have gY:=PN hL (fun _=>gp) (fun _ _=>gq) (by omega) (by omega) (YJ (L:=L) (x:=x) hn);refine .inl ⟨_,gY,YJ hn,?_⟩;simp only[nD,oz,un];refine bT (cN hi) (bs jq (bF rfl (bF rfl (bF rfl (bF rfl ?_)))));unfold tv aq;refine bF rfl (bT rfl ?_);refine (eo (jd ha)).trans ((eo (jd hb)).trans ?_)
   refine bs (agh gp.ok gq.ok iI (op:=8) (by omega) hn) ?_;simp only[un];refine bF rfl ?_;refine bs (mJ gY.ok) ?_;rw[gY.min];exact fin _
 ·have ha:=a1 (by omega);have hb:=b1 (by omega) (by omega);have gp:=hO _ (mQ ha);have gq:=hO _ (mQ hb);have iI:(O.getD a zD).L=(O.getD b zD).L:=by rw[gp.hL,gq.hL]
  by_cases hs:64<(minD (O.getD a zD)).n+(minD (O.getD b zD)).n
  ·refine .inr ?_;simp only[nD,oz,un];refine bT (cN hi) (bs jq (bF rfl (bF rfl (bF rfl (bF rfl ?_)))));unfold tv aq;refine bF rfl (bF rfl (bT rfl ?_));refine (eo (jd ha)).trans ((eo (jd hb)).trans ?_)
   refine bs (axb gp.ok gq.ok hs) ?_;simp only[un];exact bT rfl rfl
  ·have hk:=awX gp.ok gq.ok iI (Bm hs);rcases YD gp.ok gq.ok iI (Bm hs) with ⟨h1,_⟩|⟨h1,h2⟩
   ·have gY:=PN hL (fun _=>gp) (fun _ _=>gq) (by omega) (by omega) (YK (L:=L) (x:=x) hs h1);refine .inl ⟨_,gY,YK hs h1,?_⟩;rw[h1] at hk;simp only[nD,oz,un];refine bT (cN hi) (bs jq (bF rfl (bF rfl (bF rfl (bF rfl ?_)))));unfold tv aq;refine bF rfl (bF rfl (bT rfl ?_));refine (eo (jd ha)).trans ((eo (jd hb)).trans ?_)
    refine bs hk ?_;simp only[un];refine bF rfl ?_;refine bs (mJ gY.ok) ?_;rw[gY.min];exact fin _
   ·refine .inr ?_;rw[h1,h2] at hk;simp only[nD,oz,un];refine bT (cN hi) (bs jq (bF rfl (bF rfl (bF rfl (bF rfl ?_)))));unfold tv aq;refine bF rfl (bF rfl (bT rfl ?_));refine (eo (jd ha)).trans ((eo (jd hb)).trans ?_)
    refine bs hk ?_;simp only[un];exact bT rfl rfl
 ·have ha:=a1 (by omega);have gp:=hO _ (mQ ha);refine .inl ⟨nB (O.getD a zD),⟨JR gp.ok,gp.hL,YB gp.ok gp.min⟩,YL,?_⟩;simp only[nD,oz,un];refine bT (cN hi) (bs jq (bF rfl (bF rfl (bF rfl (bF rfl ?_)))));unfold tv aq;refine bF rfl (bF rfl (bF rfl (bT rfl ?_)));refine (eo (jd ha)).trans ?_;refine bs (axc gp.ok) ?_;simp only[un];refine bF rfl ?_;refine bs (mJ (a:=nB (O.getD a zD)) (JR gp.ok)) ?_;rw[YB gp.ok gp.min];exact fin _
theorem ayB (hr:r<g.length):(∃O,O.length=g.length∧yB g L O∧CC FW [.list jy (g.map Nd.v),.int .i64 (r:Int),.int .i64 (L:Int)]=some [.int .i64 0,.list dA (fe O)])∨
  CC FW [.list jy (g.map Nd.v),.int .i64 (r:Int),.int .i64 (L:Int)]=some [.int .i64 3,.list dA []]:=by
 have hv:=apa hg hr;have key:=So (step:=nD CC (L:Int) (g.map Nd.v) (g.length:Int)) (fun x=> ∃O,x=((O.length:Int),fe O)∧yB g L O) (fun x=>g.length-x.2.length)
  (fun o=>o= .inl (3,[])∨∃O,O.length=g.length∧yB g L O∧o= .inr ((g.length:Int),false,fe O)) (fun x hx=> ?_) (0,[]) ⟨[],rfl,nH _,fun X hX=>(by cases hX),fun i hi=>(by cases hi)⟩
 ·obtain ⟨o,h1,h2⟩:=key;rcases h2 with rfl|⟨O,h3,h4,rfl⟩
  ·refine .inr (ajd ?_);unfold YZ;rw[cH];refine bs hv (bF rfl (bs h1 rfl))
  ·refine .inl ⟨O,h3,h4,ajd ?_⟩;unfold YZ;rw[cH];refine bs hv (bF rfl (bs h1 rfl))
 ·obtain ⟨O,rfl,h⟩:=hx;rcases fH O.length g.length with c|c
  ·rcases ayA hL hg h c with ⟨Y,gY,hY,h2⟩|h2
   ·refine .inl ⟨_,h2,⟨O++[Y],by simp,h.snoc hg c gY hY⟩,?_⟩;simp only[Y0,dd,List.length_cons,List.length_nil];omega
   ·exact .inr ⟨_,h2,.inl rfl⟩
  ·have hl:=h.len;have:O.length=g.length:=by omega
   refine .inr ⟨_,?_,.inr ⟨O,this,h,rfl⟩⟩;simp only[nD,oz,un];rw[this];refine bF (bp (az _)) ?_;rw[bp (az _)]
end
noncomputable def Ka (C:ae) (i:Int) (t34:LV) (t35 t36:Int) (t44:Bool) (dC:Int) (tw lists:LV) (bn aY bh aS:Int) (bQ cx bJ:LV) {β:Type} (kr:(Int)→Option β):Option β:=
 bif t44 then
  aq tw bh fun x4=>
  kr x4.toInt
 else
  kr bh
noncomputable def Kb (C:ae) (i:Int) (t34:LV) (t35 t36:Int) (t54:Bool) (dC:Int) (tw lists:LV) (bn aY bh aS:Int) (bQ cx bJ:LV) {β:Type} (kr:(Int)→Option β):Option β:=
 bif t54 then
  aq tw aS fun x7=>
  kr x7.toInt
 else
  kr aS
noncomputable def Kd (C:ae) (t34:LV) (t35 t36 dC:Int) (tw lists bC bQ cx:LV) {β:Type} (kn:(Int×Int×LV×LV×LV×LV×LV)→Option β) (kr:((Int×LV) ⊕ (Int×Bool×Int×LV×LV×LV×LV×LV))→Option β):Option β:=
 bif decide (t36<t35) then
  (idx t34 t36).bind fun x2=>
  (C zS [V.int .i64 ((x2.cell 0).toInt)]).bind fun r3=>
  Ka C t36 t34 t35 t36 (decide ((((V.nth r3 0).toInt):Int)≥1)) dC tw lists ((x2.cell 0).toInt) ((x2.cell 1).toInt) ((x2.cell 2).toInt) ((x2.cell 3).toInt) bC bQ cx (fun PD=>
   (C zS [V.int .i64 ((x2.cell 0).toInt)]).bind fun r6=>
   Kb C t36 t34 t35 t36 ((((V.nth r6 0).toInt):Int)==2) dC tw lists ((x2.cell 0).toInt) ((x2.cell 1).toInt) PD ((x2.cell 3).toInt) bC bQ cx (fun A1=>
    (C F4 [V.int .i64 ((x2.cell 0).toInt),V.int .i64 ((x2.cell 1).toInt),V.int .i64 PD,V.int .i64 A1,V.int .i64 dC,.list dA bC,.list dX bQ,.list dY cx]).bind fun r9=>
    bif (((V.nth (r9.drop 1) 0).toInt):Int) != 0 then
    kr (.inl ((V.nth (r9.drop 1) 0).toInt,([]:LV)))
    else
    aq tw t36 fun lA=>
    aq ((V.nth ((((r9.drop 2).drop 1).drop 1).drop 1) 0).toList) ((V.nth r9 0).toInt) fun gj=>
    aq lists t36 fun lz=>
    kn (wrap .i64 (t36+1),(V.nth (r9.drop 2) 0).toInt,aI tw t36 (V.int .i64 ((V.nth r9 0).toInt)),aI lists t36 (.agg [V.int .i64 ((gj.cell 0).toInt),V.int .i64 ((gj.cell 1).toInt),.list ao ((gj.cell 2).toList),.list ar ((gj.cell 3).toList)]),(V.nth ((((r9.drop 2).drop 1).drop 1).drop 1) 0).toList,(V.nth ((r9.drop 2).drop 1) 0).toList,(V.nth (((r9.drop 2).drop 1).drop 1) 0).toList)))
 else
  kr (.inr (t36,decide (t36<t35),dC,tw,lists,bC,bQ,cx))
noncomputable def Ke (C:ae) (t34:LV) (t35:Int):=un fun t36=>un fun dC=>un fun tw=>un fun lists=>un fun bC=>un fun bQ cx=>Kd C t34 t35 t36 dC tw lists bC bQ cx (fun y=>some (Sum.inl y)) (fun r=>some (Sum.inr r))
noncomputable def Y1 (C:ae):cE:=gG 719 TD [[1,2,3,4,6,7,8,9,10,0,12,13,14,15]] (@Ka C) (gG 879 TE [[1,2,3,4,6,7,8,9,10,11,0,13,14,15]] (@Kb C) (bG 129 TF [EQ,EQ,H1,H1,H1,H1,H1,H1,H1] [[0,0],[1,2,0,0,0,0,0,0,0,0]] (@Kd C) bm))
theorem ayC (C:ae):aW C (Y1 C) 9 (Cd 44 [1,1,1,1,1,0,1,0,0,1,1,0,0,1,0,1,0] [1,1,1,1,1,0,1,0,0,1,1,0,0,1,0,1,1] 9):=gF TD [[1,2,3,4,6,7,8,9,10,0,12,13,14,15]] (@Ka C) (aG an) (aG an)
theorem ayD (C:ae):aW C (Y1 C) 9 (Cd 54 [1,1,1,1,1,0,1,0,0,1,1,0,0,1,1,0,1,0] [1,1,1,1,1,0,1,0,0,1,1,0,0,1,1,0,1,1] 9):=gF TE [[1,2,3,4,6,7,8,9,10,11,0,13,14,15]] (@Kb C) (aG an) (aG an)
theorem ayE (C:ae):aW C (Y1 C) 9 (Lp [1,1,1,1,1,0,1,0,0] 9):=bE TF [EQ,EQ,H1,H1,H1,H1,H1,H1,H1] [[0,0],[1,2,0,0,0,0,0,0,0,0]] (@Kd C) (aG (aU (ayC C) (aU (ayD C) an)))
noncomputable def ajg (C:ae) (eR:LV) (jT ay:Int):Option LV:=
 (C My [.list jy eR,V.int .i64 jT,V.int .i64 ay]).bind fun r1=>
 bif (((V.nth r1 0).toInt):Int) != 0 then
  some [V.int .i64 ((V.nth r1 0).toInt),.list dA ([]:LV)]
 else
  bif (decide (0≤(eR.length:Int)))&&((decide ((eR.length:Int)≤(eR.length:Int)))&&(Nat.ble (((eR.length:Int).toNat)*8) aX)) then
  bif (decide (0≤(eR.length:Int)))&&((decide ((eR.length:Int)≤(eR.length:Int)))&&(Nat.ble (((eR.length:Int).toNat)*64) aX)) then
   (Loop (Ke C eR (eR.length:Int)) (0,ay,List.replicate ((eR.length:Int).toNat) (V.int .i64 0),List.replicate ((eR.length:Int).toNat) (V.agg [V.int .i64 0,V.int .i64 0,.list ao ([]:LV),.list ar ([]:LV)]),([]:LV),([]:LV),([]:LV))).bind (bN (un fun (oU:Int) (ayF:LV)=>
    some [V.int .i64 oU,.list dA ayF]) (un fun An=>un fun (wc:Bool)=>un fun azP=>un fun (azQ:LV)=>un fun (ayG:LV)=>un fun (ae5:LV)=>un fun (OD:LV) (C8:LV)=>
    some [V.int .i64 0,.list dA ayG]))
  else none
  else none
theorem ayH {eR:LV} {jT ay:Int} {r:Option LV} (h:ajg CC eR jT ay=r):CC Mv [.list jy eR,V.int .i64 jT,V.int .i64 ay]=r:=bj (aU (ayE CC) an) h
theorem ajh {F:List Nat} {i:Nat} {v:Nat} (h:F.length=i) (j:Nat):(F++[v]).getD j 0=if j=i then v else F.getD j 0:=by
 subst h;by_cases hj:j=F.length
 ·rw[ah hj,hj];simp
 ·rw[ag hj];rcases fH j F.length with c|c
  ·rw[fG c,fG (by simp;omega),Ks c]
  ·simp only[List.getD];rw[Bn (by simp;omega),Bn c]
def qO (n:Nat) (F:List Nat):LV:=tab n fun j=>V.int .i64 ((F.getD j 0:Nat):Int)
def p9 (n i:Nat) (O:List Da):LV:=tab n fun j=>V.agg (dh (if j<i then O.getD j zD else zD))
theorem ayI {op:Nat}:decide ((s6 op:Int)≥1)=decide (5≤op):=by
 unfold s6;by_cases h5:5≤op
 ·rw[ah h5,bU h5];by_cases h8:op=8<;>simp[h8]
 ·rw[ag h5,cJ h5];simp
theorem ayJ {op:Nat}:((s6 op:Int)==2)=decide (5≤op∧op≠8):=by
 unfold s6;by_cases h5:5≤op
 ·rw[ah h5];by_cases h8:op=8<;>simp[h5,h8]
 ·rw[ag h5,cJ (fun h=>h5 h.1)];rfl
section
variable {g:List Nd} {L r:Nat} (hL:L=1∨L=2) (hg:xT g L) {O:List Da} (hO:yB g L O) (hl:O.length=g.length)
include hL hg hO hl
theorem ayK {i:Nat} (hi:i<g.length) {F:List Nat} {A:List Da} {M:List (Nd×Nat)} (hF:F.length=i) (hB:tu L i A M) (hp: ∀j,j<i→F.getD j 0<A.length∧A.getD (F.getD j 0) zD=O.getD j zD):
  ∃(v:Nat) (B:List Da) (N:List (Nd×Nat)),tu L (i+1) B N∧(∀j,j<i+1→(F++[v]).getD j 0<B.length∧B.getD ((F++[v]).getD j 0) zD=O.getD j zD)∧
   Ke CC (g.map Nd.v) (g.length:Int) ((i:Int),(L:Int),qO g.length F,p9 g.length i O,fe A,mh A,kO M)=some (.inl (((i+1:Nat):Int),(L:Int),qO g.length (F++[v]),p9 g.length (i+1) O,fe B,mh B,kO N)):=by
 have hN:=hg.nd _ hi;have n2:=hg.n2;have jq:=hg.get hi;have ig:=hO.val i (by omega) hi;generalize g[i]=d at hN jq ig;obtain ⟨op,x,a,b⟩:=d;obtain ⟨o1,o8,x1,x0,a1,a0,b1,b0⟩:=hN;simp only at o1 o8 x1 x0 a1 a0 b1 b0 ig;have la:=hB.la;obtain ⟨fa,Y2,aji⟩: ∃fa:Nat,(5≤op→fa=F.getD a 0)∧(¬5≤op→fa=a):=by
  by_cases h:5≤op
  ·exact ⟨_,fun _=>rfl,fun h'=>absurd h h'⟩
  ·exact ⟨_,fun h'=>absurd h' h,fun _=>rfl⟩
 obtain ⟨fb,Y3,ajj⟩: ∃fb:Nat,(5≤op∧op≠8→fb=F.getD b 0)∧(¬(5≤op∧op≠8)→fb=b):=by
  by_cases h:5≤op∧op≠8
  ·exact ⟨_,fun _=>rfl,fun h'=>absurd h h'⟩
  ·exact ⟨_,fun h'=>absurd h' h,fun _=>rfl⟩
 have ha:5≤op→fa<A.length:=fun h=>by rw[Y2 h];exact (hp a (a1 h)).1
 have hb:5≤op→op≠8→fb<A.length:=fun h h8=>by rw[Y3 ⟨h,h8⟩];exact (hp b (b1 h h8)).1
 have Fe:x≤1000:=by
  by_cases h3:op=3
  ·have:=x1 h3;omega
  ·have:=x0 h3;omega
 have Lo:fa≤1000:=by
  by_cases h:5≤op
  ·have:=ha h;omega
  ·rw[aji h,a0 (by omega)];omega
 have fD:fb≤1000:=by
  by_cases h:5≤op∧op≠8
  ·have:=hb h.1 h.2;omega
  ·rw[ajj h,b0 (by omega)];omega
 have hv:gA L op x (A.getD fa zD) (A.getD fb zD)=some (O.getD i zD):=by
  rw[←ig];exact JV o1 o8 (fun h=>by rw[Y2 h];exact (hp a (a1 h)).2) fun h h8=>by rw[Y3 ⟨h,h8⟩];exact (hp b (b1 h h8)).2
 obtain ⟨v,B,N,h1,h2,h3,h4,h5⟩:=(ayf (d:=⟨op,x,fa,fb⟩) hL (by omega) hB o1 o8 x1 Fe ha Lo hb fD).2 _ hv;refine ⟨v,B,N,h4,fun j hj=> ?_,?_⟩
 ·rw[ajh hF];by_cases Y4:j=i
  ·rw[ah Y4,Y4];exact ⟨h1,h2⟩
  ·rw[ag Y4];obtain ⟨q1,q2⟩:=hp j (by omega);exact ⟨gB q1 h3.length_le,by rw[DZ h3 q1,q2]⟩
 ·have ayL: ∀{β:Type} (K:Int→Option β) {k1 k2 k3 k4:Int} {l1 l2 l3 l4 l5:LV},Ka CC (i:Int) l1 k1 k2 (decide ((s6 op:Int)≥1)) k3 (qO g.length F) l2 k4 (x:Int) (a:Int) (b:Int) l3 l4 l5 K=K (fa:Int):=by
   intro β K k1 k2 k3 k4 l1 l2 l3 l4 l5;unfold Ka aq;rw[ayI];by_cases h:5≤op
   ·refine bT (bU h) ?_;refine (fu (i:=a) (by have:=a1 h;omega)).trans ?_;rw[Y2 h];rfl
   ·refine bF (cJ h) ?_;rw[aji h]
  have ayM: ∀{β:Type} (K:Int→Option β) {k1 k2 k3 k4 k5:Int} {l1 l2 l3 l4 l5:LV},Kb CC (i:Int) l1 k1 k2 ((s6 op:Int)==2) k3 (qO g.length F) l2 k4 (x:Int) k5 (b:Int) l3 l4 l5 K=K (fb:Int):=by
   intro β K k1 k2 k3 k4 k5 l1 l2 l3 l4 l5;unfold Kb aq;rw[ayJ];by_cases h:5≤op∧op≠8
   ·refine bT (bU h) ?_;refine (fu (i:=b) (by have:=b1 h.1 h.2;omega)).trans ?_;rw[Y3 h];rfl
   ·refine bF (cJ h) ?_;rw[ajj h]
  have c0:(V.cell (Nd.v ⟨op,x,a,b⟩) 0).toInt=(op:Int):=rfl;have c1:(V.cell (Nd.v ⟨op,x,a,b⟩) 1).toInt=(x:Int):=rfl;have c2:(V.cell (Nd.v ⟨op,x,a,b⟩) 2).toInt=(a:Int):=rfl;have c3:(V.cell (Nd.v ⟨op,x,a,b⟩) 3).toInt=(b:Int):=rfl;simp only[Ke,Kd,un];refine bT (cN hi) (bs jq ?_);simp only[c0,c1,c2,c3];refine bs (NX o8) ?_;simp only[V.ct,V.toInt_int];rw[ayL];refine bs (NX o8) ?_;simp only[V.ct,V.toInt_int];rw[ayM];refine bs h5 (bF rfl ?_);unfold aq;refine (fu hi).trans ?_;refine (eo (i:=v) (jd h1)).trans ?_;refine (fu hi).trans ?_;rw[cG (by omega),h2];have e1:aI (qO g.length F) (i:Int) (V.int .i64 (v:Int))=qO g.length (F++[v]):=by
   unfold aI qO;rw[Int.toNat_natCast,nn];refine dR fun j _=> ?_;rw[ajh hF];by_cases hj:j=i
   ·rw[ah hj,ah hj]
   ·rw[ag hj,ag hj]
  have e2:aI (p9 g.length i O) (i:Int) (.agg (dh (O.getD i zD)))=p9 g.length (i+1) O:=by
   unfold aI p9;rw[Int.toNat_natCast,nn];refine dR fun j _=> ?_;by_cases hj:j=i
   ·rw[ah hj,ah (by omega),hj]
   ·rw[ag hj];by_cases h':j<i
    ·rw[ah h',ah (by omega)]
    ·rw[ag h',ag (by omega)]
  show some (Sum.inl (((i+1:Nat):Int),(L:Int),aI (qO g.length F) (i:Int) (V.int .i64 (v:Int)),aI (p9 g.length i O) (i:Int) (.agg (dh (O.getD i zD))),fe B,mh B,kO N))=_;rw[e1,e2]
theorem ayN (hr:r<g.length):CC Mv [.list jy (g.map Nd.v),.int .i64 (r:Int),.int .i64 (L:Int)]=some [.int .i64 0,.list dA (fe O)]:=by
 have n2:=hg.n2;refine ayH ?_;unfold ajg;rw[cH];refine bs (ao7 hg hr) (bF rfl ?_);refine bT (mE (by omega) (by omega)) ?_;refine bT (mE (by omega) (by omega)) ?_;have e1:List.replicate (((g.length:Nat):Int).toNat) (V.int .i64 0)=qO g.length []:=by
  unfold qO;rw[Int.toNat_natCast,lu];exact dR fun j _=>rfl
 have e2:List.replicate (((g.length:Nat):Int).toNat) (V.agg [V.int .i64 0,V.int .i64 0,.list ao ([]:LV),.list ar ([]:LV)])=p9 g.length 0 O:=by
  unfold p9;rw[Int.toNat_natCast,lu];exact dR fun j _=>by rw[ag (by omega)];rfl
 rw[e1,e2];have key:=uC (step:=Ke CC (g.map Nd.v) (g.length:Int)) (fun i x=> ∃(F:List Nat) (A:List Da) (M:List (Nd×Nat)),F.length=i∧tu L i A M∧(∀j,j<i→F.getD j 0<A.length∧A.getD (F.getD j 0) zD=O.getD j zD)∧x=((i:Int),(L:Int),qO g.length F,p9 g.length i O,fe A,mh A,kO M))
  (fun o=> ∃(a b c d e:LV),o= .inr ((g.length:Int),false,(L:Int),a,p9 g.length g.length O,b,c,d)) g.length 0 ((0:Int),(L:Int),qO g.length [],p9 g.length 0 O,([]:LV),([]:LV),([]:LV)) (fun i _ hi x hx=> ?_) (fun x hx=> ?_)
  ⟨[],[],[],rfl,⟨fun X hX=>(by cases hX),fun e he=>(by cases he),az _,az _⟩,fun j hj=>(by omega),rfl⟩
 ·obtain ⟨o,h1,a,b,c,d,e,rfl⟩:=key;refine bs h1 ?_;have e3:p9 g.length g.length O=fe O:=by
   unfold p9 fe;rw[CK O zD,hl];exact dR fun j hj=>by rw[ah hj]
  simp only[bN,un];rw[e3]
 ·obtain ⟨F,A,M,h1,h2,h3,rfl⟩:=hx;obtain ⟨v,B,N,h4,h5,h6⟩:=ayK hL hg hO hl (show i<g.length by omega) h1 h2 h3;exact ⟨_,h6,F++[v],B,N,by simp[h1],h4,h5,rfl⟩
 ·obtain ⟨F,A,M,h1,h2,h3,rfl⟩:=hx;rw[ed] at*
  refine ⟨.inr ((g.length:Int),false,(L:Int),qO g.length F,p9 g.length g.length O,fe A,mh A,kO M),?_,_,_,_,_,[],rfl⟩;simp only[Ke,Kd,un];refine bF (bp (az _)) ?_;rw[bp (az _)]
end
noncomputable def ajk:Bool:=
 match Ci PG lE 40 12 FX [] with
 | some [.bool b]=>b
 | _=>false
theorem ayO:ajk=true:=by kernel_rfl
theorem ajl:CC FX []=some [.bool true]:=by
 have h:=ayO;unfold ajk at h;split at h
 ·rename_i b h2;rw[h] at h2;exact acd h2
 ·cases h
end Go.AM
set_option maxRecDepth 100000
namespace Go.AM
open Go.IntKind (wrap)
theorem WT.ayP {P:Program} {t:TypeId} {x:V} (hu:P.underlying t=some (.int .i64)) (h:WT P t x): ∃n:Int,x= .int .i64 n∧ -9223372036854775808≤n∧n≤9223372036854775807:=by
 obtain ⟨n,rfl,h1,h2⟩:=h.gE hu;have e1:IntKind.min .i64= -9223372036854775808:=by decide
 have e2:IntKind.max .i64=9223372036854775807:=by decide
 rw[e1] at h1;rw[e2] at h2;exact ⟨n,rfl,h1,h2⟩
theorem WT.Rz {P:Program} {t:TypeId} {x:V} (hu:P.underlying t=some (.int .u8)) (h:WT P t x): ∃n:Int,x= .int .u8 n∧0≤n∧n≤255:=by
 obtain ⟨n,rfl,h1,h2⟩:=h.gE hu;have e1:IntKind.min .u8=0:=by decide
 have e2:IntKind.max .u8=255:=by decide
 rw[e1] at h1;rw[e2] at h2;exact ⟨n,rfl,h1,h2⟩
end Go.AM
set_option maxRecDepth 100000
namespace Go.AM
open Go.IntKind (wrap)
open Go.Proofs
def P6 (r:List Int):V:= .list aF (r.map fun n=> .int .i64 n)
theorem ajq {t:TypeId} {x:V} (hu:Tryz.prog.underlying t=some (.slice aF)) (hi:Tryz.prog.underlying aF=some (.int .i64)) (h:ni Tryz.prog t x): ∃r:List Int,x=P6 r∧(r.length≤maxLen∧∀q∈r,-9223372036854775808≤q∧q≤9223372036854775807):=by
 obtain ⟨es,rfl,e1,e2⟩:=WT.amy hu (ni.one (by simp[cA,hu]) h);obtain ⟨r,rfl,hr⟩:=ab8 (f:=fun n=>V.int .i64 n) (p:=fun q=> -9223372036854775808≤q∧q≤9223372036854775807) fun y hy=>WT.ayP hi (ni.one (by simp[cA,hi]) (e2 y hy));exact ⟨r,rfl,by simpa using e1,hr⟩
noncomputable def Kf (C:ae) (t44:Int) (dC iA:LV) (t45:Int) {β:Type} (kn:Int→Option β) (kr:((Bool) ⊕ (Int×Bool))→Option β):Option β:=
 bif decide (t45<t44) then
  aq iA t45 fun x7=>
  aq dC t45 fun x8=>
  (C FY [V.int .i64 ((x7.cell 0).toInt),V.int .i64 ((x7.cell 1).toInt),.list ao ((x7.cell 2).toList),.list ar ((x7.cell 3).toList),V.int .i64 ((x8.cell 0).toInt),V.int .i64 ((x8.cell 1).toInt),.list ao ((x8.cell 2).toList),.list ar ((x8.cell 3).toList)]).bind fun r9=>
  bif !((V.nth r9 0).toBool) then
  kr (.inl false)
  else
  kn (wrap .i64 (t45+1))
 else
  kr (.inr (t45,decide (t45<t44)))
noncomputable def Y5 (C:ae) (t44:Int) (dC iA:LV):=fun t45=>Kf C t44 dC iA t45 (fun y=>some (Sum.inl y)) (fun r=>some (Sum.inr r))
noncomputable def ayQ (C:ae):cE:=bG 177 Tn [EQ,H1,EQ,EQ] [[0],[1,0,0,3,4]] (@Kf C) bm
theorem ayR (C:ae):aW C (ayQ C) 3 (Lp [1,1,1,1,1,1,1,1,0,1,0,0] 3):=bE Tn [EQ,H1,EQ,EQ] [[0],[1,0,0,3,4]] (@Kf C) (aG an)
noncomputable def ajm (C:ae) (l:LV):Option LV:=
 (C Mt [.list aF l]).bind fun r1=>
 (C vS [V.int .i64 2,.list aF ((V.nth r1 0).toList),V.int .i64 ((V.nth (r1.drop 1) 0).toInt)]).bind fun r2=>
 (C Mu [V.int .i64 (wrap .i64 (1+((V.nth r2 0).toInt))),V.int .i64 7,.list aF ((V.nth (r2.drop 1) 0).toList),V.int .i64 ((V.nth ((r2.drop 1).drop 1) 0).toInt)]).bind fun r3=>
 (C FW [.list jy ((V.nth ((r3.drop 1).drop 2) 0).toList),V.int .i64 ((V.nth r3 0).toInt),V.int .i64 (wrap .i64 (1+((V.nth r2 0).toInt)))]).bind fun r4=>
 bif (((V.nth r4 0).toInt):Int) != 0 then
  (C FX []).bind fun r5=>
  some [.bool ((V.nth r5 0).toBool)]
 else
  (C Mv [.list jy ((V.nth ((r3.drop 1).drop 2) 0).toList),V.int .i64 ((V.nth r3 0).toInt),V.int .i64 (wrap .i64 (1+((V.nth r2 0).toInt)))]).bind fun r6=>
  bif (((V.nth r6 0).toInt):Int) != 0 then
  some [.bool false]
  else
  bif ((((V.nth (r6.drop 1) 0).toList).length:Int):Int) != (((V.nth (r4.drop 1) 0).toList).length:Int) then
   some [.bool false]
  else
   (Loop (Y5 C (((V.nth (r6.drop 1) 0).toList).length:Int) ((V.nth (r4.drop 1) 0).toList) ((V.nth (r6.drop 1) 0).toList)) 0).bind (bN (fun (xU:Bool)=>
    some [.bool xU]) (un fun (xV:Int) (xW:Bool)=>
    (C FX []).bind fun qA=>
    some [.bool ((V.nth qA 0).toBool)]))
theorem ayS {l:LV} {r:Option LV} (h:ajm CC l=r):CC SC [.list aF l]=r:=bj (aU (ayR CC) an) h
theorem ajr (l:List Int):CC SC [P6 l]=some [.bool true]:=by
 refine ayS ?_;unfold ajm;obtain ⟨t,e1⟩:=aoO l;refine bs e1 ?_;obtain ⟨v,t1,hv,e2⟩:=CP t (n:=2) (by omega) (by omega);refine bs e2 ?_;have hw:wrap .i64 (1+(v:Int))=((v+1:Nat):Int):=by rw[dM];omega
 have hL:v+1=1∨v+1=2:=by omega
 obtain ⟨g,t2,hg,hl,e3⟩:=aoP t1 (L:=v+1) (m:=7) (by omega) (by omega) (by omega) (by omega);have n1:=hg.n1;have n2:=hg.n2;simp only[V.ct,V.toInt_int,mn,jZ,Tp.L,Tp.K,V.ki,hw];refine bs e3 ?_;simp only[V.ct,V.toInt_int,mn,jZ,Tp.L,Tp.K,V.ki];have er:(g.length:Int)-1=((g.length-1:Nat):Int):=by omega
 rw[er];rcases ayB hL hg (r:=g.length-1) (by omega) with ⟨O,h1,h2,h3⟩|h3
 ·refine bs h3 (bF rfl ?_);refine bs (ayN hL hg h2 h1 (by omega)) (bF rfl ?_);simp only[V.ct,mn,jZ,V.ki];refine bF (by simp) ?_;rw[Y0];refine bs (eh O.length (fun i=>(i:Int)) (.inr ((O.length:Int),false)) (fun i hi=> ?_) ?_) ?_
  ·simp only[Y5,Kf,aq];refine bT (cN hi) ?_;refine (eo (jd hi)).trans ((eo (jd hi)).trans ?_)
   refine bs (h2.gd _ (mQ hi)).ok.same ?_;refine bF rfl ?_;rw[cG (by omega)]
  ·simp only[Y5,Kf];refine bF (bp (az _)) ?_;rw[bp (az _)]
  ·simp only[bN,un];refine bs ajl ?_;rfl
 ·refine bs h3 (bT rfl ?_);refine bs ajl ?_;rfl
end Go.AM
