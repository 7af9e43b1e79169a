/-
  Functions of the program, lifted to plain data.
-/
import Derived.Test.YtaijibbmmbhniaaGreatDoorP7
noncomputable section
set_option linter.unusedVariables false
set_option linter.unusedSectionVars false
set_option linter.unusedSimpArgs false
set_option maxRecDepth 100000
namespace Go.AM
open Go.IntKind (wrap)
open Go.Proofs
theorem awJ {p x q L S:Nat} (hp:p<S) (hx:x<L) (hq:q<S):(gI p x q).In (L:Int) (S:Int):=by unfold Ed.In gI;simp only;omega
theorem ail {a:Da} (h:a.Ok) {off S:Nat} (hs:a.n+off≤S) {e:Ed} (he:e∈eH a off):e.In (a.L:Int) (S:Int):=by
 obtain ⟨p,x,hp,hx,rfl⟩:=yu.1 he;have:=h.fN hp hx;exact awJ (by omega) hx (by omega)
section
variable {a:Da} (h:a.Ok)
include h
end
def yv (m k:Da):List Ed:=(eH m 0++eH k m.n)++o5 m.n m.fin (m.n+k.st) (eH m 0++eH k m.n)
def wJ (m k:Da):Nat:=if m.fin m.st=true then 2^m.st|||2^(m.n+k.st) else 2^m.st
def DU (m k:Da):Nat:=ig 0 k.fin m.n k.n
def me (m k:Da):Nf:=dZ m.L (m.n+k.n) (wJ m k) (DU m k) (yv m k)
theorem awK {L S:Nat} {e:Ed} (h:e.In (L:Int) (S:Int)):0≤e.f∧0≤e.l∧0≤e.t:=by unfold Ed.In at h;omega
section
variable {m k:Da} (hm:m.Ok) (hk:k.Ok) (hL:m.L=k.L)
include hm hk hL
theorem Ym {e:Ed} (he:e∈eH m 0++eH k m.n):e.In (m.L:Int) ((m.n+k.n:Nat):Int):=by
 rcases eW.1 he with he|he
 ·exact ail hm (by omega) he
 ·rw[hL];exact ail hk (by omega) he
theorem aim {e:Ed} (he:e∈yv m k):e.In (m.L:Int) ((m.n+k.n:Nat):Int):=by
 rcases eW.1 he with he|he
 ·exact Ym hm hk hL he
 ·obtain ⟨e',h1,h2,h3,rfl⟩:=aij.1 he;have:=Ym hm hk hL h1;have:=hk.s;unfold Ed.In at*
  simp only;omega
theorem PH (hs:m.n+k.n≤64):A4 m.L (m.n+k.n) (wJ m k) (DU m k) (yv m k) where
 l1:=hm.l1
 l6:=hm.l6
 uR:=hs
 st:=by
  have h1:=hm.s;have h2:=hk.s;unfold wJ;split
  ·exact yM (mW (by omega) (by omega)) (mW (by omega) (by omega))
  ·exact mW (by omega) (by omega)
 fin:=JM (Nat.two_pow_pos _) (by omega)
 E:=fun e he=>aim hm hk hL he
 len:=by
  have h1:=uX hm (off:=0) (n:=m.n);have h2:=uX hk (off:=m.n) (n:=k.n);have h3:=Yk (l:=eH m 0++eH k m.n) (n:=m.n) (to:=m.n+k.st) (f:=m.fin);unfold yv;rw[dd];rw[dd] at*
  unfold eH at*
  omega
end
theorem ain {f:Nat→Bool} {off n j:Nat}:(ig 0 f off n).testBit j=true↔off≤j∧j<n+off∧f (j-off)=true:=by
 rw[Yj,Nat.zero_testBit,Bool.false_or,aK,fo,and_assoc]
section
variable {m k:Da} (hm:m.Ok) (hk:k.Ok) (hL:m.L=k.L)
include hm hk hL
end
def PJ (C:ae) (offset:Int) (t66:Bool) (tq tt azM awL bn aY bh aS:Int) (bC bQ cx bJ cd:LV) {β:Type} (kr:(Int×Int×Int×Int×LV)→Option β):Option β:=
 bif t66 then
  (C Gm [V.int .i64 (wrap .i64 (offset+awL)),V.int .i64 bn,V.int .i64 aY,.int .u64 bh,.int .u64 aS,.list bu cd]).bind fun r8=>
  kr ((V.nth r8 0).toInt,(V.nth (r8.drop 1) 0).toInt,(V.nth ((r8.drop 1).drop 1) 0).toInt,(V.nth (((r8.drop 1).drop 1).drop 1) 0).toInt,(V.nth (r8.drop 4) 0).toList)
 else
  kr (bn,aY,bh,aS,cd)
def awM (C:ae):cE:=gH 1071 Uu [[1,3,4,5,6,0,0,0,0,11,12,13,14,0]] (@PJ C) bm
theorem awN (C:ae):aW C (awM C) 56 (Cd 66 [1,1,1,1,1,1,1,1,1,1,0,1,0] [1,1,1,1,1,1,1,1,1,1,0,1,1] 56):=gG Uu [[1,3,4,5,6,0,0,0,0,11,12,13,14,0]] (@PJ C) (aG an) (aG an)
def Yn (C:ae) (aO bR:Int) (dc dB:LV) (dv dt:Int) (dG dV:LV):Option LV:=
 (C Gi [V.int .i64 aO,V.int .i64 bR,.list ao dc,.list ar dB,V.int .i64 dv,V.int .i64 dt,.list ao dG,.list ar dV]).bind fun r1=>
 bif (((V.nth ((r1.drop 2).drop 2) 0).toInt):Int) != 0 then
  some [V.int .i64 0,V.int .i64 0,V.int .i64 ((V.nth ((r1.drop 2).drop 2) 0).toInt),.list ao ([]:LV),.list ar ([]:LV)]
 else
  (C Gk [V.int .i64 aO,V.int .i64 (wrap .i64 ((((V.nth (r1.drop 5) 0).toList).length:Int)+(((V.nth (((r1.drop 5).drop 1).drop 1) 0).toList).length:Int)))]).bind fun r2=>
  bif (V.nth r2 0).toBool then
  some [V.int .i64 0,V.int .i64 0,V.int .i64 3,.list ao ([]:LV),.list ar ([]:LV)]
  else
  (C Gl [V.int .i64 ((V.nth r1 0).toInt),V.int .i64 ((V.nth (r1.drop 1) 0).toInt),.list ao ((V.nth (r1.drop 5) 0).toList),.list ar ((V.nth ((r1.drop 5).drop 1) 0).toList),V.int .i64 0,V.int .i64 ((V.nth (r2.drop 1) 0).toInt),V.int .i64 ((V.nth ((r2.drop 1).drop 1) 0).toInt),.int .u64 ((V.nth (((r2.drop 1).drop 1).drop 1) 0).toInt),.int .u64 ((V.nth ((((r2.drop 1).drop 1).drop 1).drop 1) 0).toInt),.list bu ((V.nth ((r2.drop 1).drop 4) 0).toList)]).bind fun r3=>
  (C Gl [V.int .i64 ((V.nth (r1.drop 2) 0).toInt),V.int .i64 ((V.nth ((r1.drop 2).drop 1) 0).toInt),.list ao ((V.nth (((r1.drop 5).drop 1).drop 1) 0).toList),.list ar ((V.nth ((((r1.drop 5).drop 1).drop 1).drop 1) 0).toList),V.int .i64 (((V.nth (r1.drop 5) 0).toList).length:Int),V.int .i64 ((V.nth r3 0).toInt),V.int .i64 ((V.nth (r3.drop 1) 0).toInt),.int .u64 ((V.nth ((r3.drop 1).drop 1) 0).toInt),.int .u64 ((V.nth (((r3.drop 1).drop 1).drop 1) 0).toInt),.list bu ((V.nth (r3.drop 4) 0).toList)]).bind fun r4=>
  (C MP [.list ao ((V.nth (r1.drop 5) 0).toList),V.int .i64 (wrap .i64 ((((V.nth (r1.drop 5) 0).toList).length:Int)+((V.nth ((r1.drop 2).drop 1) 0).toInt))),V.int .i64 ((V.nth r4 0).toInt),V.int .i64 ((V.nth (r4.drop 1) 0).toInt),.int .u64 ((V.nth ((r4.drop 1).drop 1) 0).toInt),.int .u64 ((V.nth (((r4.drop 1).drop 1).drop 1) 0).toInt),.list bu ((V.nth (r4.drop 4) 0).toList)]).bind fun r5=>
  (C Gm [V.int .i64 ((V.nth (r1.drop 1) 0).toInt),V.int .i64 ((V.nth r5 0).toInt),V.int .i64 ((V.nth (r5.drop 1) 0).toInt),.int .u64 ((V.nth ((r5.drop 1).drop 1) 0).toInt),.int .u64 ((V.nth (((r5.drop 1).drop 1).drop 1) 0).toInt),.list bu ((V.nth (r5.drop 4) 0).toList)]).bind fun r6=>
  aq ((V.nth (r1.drop 5) 0).toList) ((V.nth (r1.drop 1) 0).toInt) fun x7=>
  PJ C (((V.nth (r1.drop 5) 0).toList).length:Int) x7.toBool 0 0 ((V.nth (r1.drop 2) 0).toInt) ((V.nth ((r1.drop 2).drop 1) 0).toInt) ((V.nth r6 0).toInt) ((V.nth (r6.drop 1) 0).toInt) ((V.nth ((r6.drop 1).drop 1) 0).toInt) ((V.nth (((r6.drop 1).drop 1).drop 1) 0).toInt) ([]:LV) ([]:LV) ((V.nth (((r1.drop 5).drop 1).drop 1) 0).toList) ((V.nth ((((r1.drop 5).drop 1).drop 1).drop 1) 0).toList) ((V.nth (r6.drop 4) 0).toList) (un fun JJ=>un fun awO=>un fun awP=>un fun (Yh:Int) (xZ:LV)=>
   (C Gn [.list ao ((V.nth (((r1.drop 5).drop 1).drop 1) 0).toList),V.int .i64 (((V.nth (r1.drop 5) 0).toList).length:Int),V.int .i64 JJ,V.int .i64 awO,.int .u64 awP,.int .u64 Yh,.list bu xZ]).bind fun tu=>
   (C Gp [V.int .i64 ((V.nth tu 0).toInt),V.int .i64 ((V.nth (tu.drop 1) 0).toInt),.int .u64 ((V.nth ((tu.drop 1).drop 1) 0).toInt),.int .u64 ((V.nth (((tu.drop 1).drop 1).drop 1) 0).toInt),.list bu ((V.nth (tu.drop 4) 0).toList)]).bind fun fy=>
   some [V.int .i64 ((V.nth fy 0).toInt),V.int .i64 ((V.nth (fy.drop 1) 0).toInt),V.int .i64 ((V.nth (fy.drop 2) 0).toInt),.list ao ((V.nth ((fy.drop 3).drop 5) 0).toList),.list ar ((V.nth (((fy.drop 3).drop 5).drop 1) 0).toList)])
theorem aio {aO bR:Int} {dc dB:LV} {dv dt:Int} {dG dV:LV} {r:Option LV} (h:Yn CC aO bR dc dB dv dt dG dV=r):CC Ge [V.int .i64 aO,V.int .i64 bR,.list ao dc,.list ar dB,V.int .i64 dv,V.int .i64 dt,.list ao dG,.list ar dV]=r:=bj (aU (awN CC) an) h
section
variable {a b:Da} (ha:a.Ok) (hb:b.Ok) (hL:a.L=b.L)
include ha hb hL
theorem awQ (hs:(minD a).n+(minD b).n≤64):CC Ge (dN a (dh b))=some (lX (iz (me (minD a) (minD b)) a.L ((minD a).n+(minD b).n)) (mQ (me (minD a) (minD b)) a.L ((minD a).n+(minD b).n))):=by
 have hm:=fc ha;have hk:=fc hb;have yw:=ot ha;have Yo:=ot hb;have iI:(minD a).L=(minD b).L:=by rw[yw,Yo,hL]
 have b9:=hm.s;have hsk:=hk.s;have hr:=awb (PH hm hk iI hs);have l1:=uX hm (off:=0) (n:=(minD a).n);have l2:=uX hk (off:=(minD a).n) (n:=(minD b).n);refine aio ?_;unfold Yn aq;refine bs (O5 ha hb hL) (bF rfl ?_);have e0:(V.nth ((AH (minD a) (minD b) 0).drop 5) 0).toList=(minD a).bI:=rfl;have e1:(V.nth ((((AH (minD a) (minD b) 0).drop 5).drop 1).drop 1) 0).toList=(minD b).bI:=rfl;have e2:(V.nth (((AH (minD a) (minD b) 0).drop 2).drop 1) 0).toInt=((minD b).st:Int):=rfl;have e3:(V.nth ((AH (minD a) (minD b) 0).drop 1) 0).toInt=((minD a).st:Int):=rfl;rw[e0,e1,e2,e3,Da.pN,Da.pN,qP (by omega),qP (by omega)];refine bs (awx hs) (bF rfl ?_);refine bs (aii (l:=[]) hm (off:=0) (by omega) (by simp)) ?_;rw[List.nil_append];refine bs (aii hk (off:=(minD a).n) (by omega) (by unfold eH;omega)) ?_;refine bs (awB (n:=(minD a).n) (f:=(minD a).fin) (fun e he=>awK (Ym hm hk iI he)) (by rw[dd];unfold eH;omega) (by omega)) ?_;refine bs (aih (q:=(minD a).st) (by omega) (by omega)) ?_;refine bT (VX b9) ?_;rw[Int.toNat_natCast];refine bs (wg b9) ?_;rw[yw] at hr;have fin: ∀(s:Nat),s=wJ (minD a) (minD b)→s<2^64→((CC Gn [.list ao (minD b).bI,.int .i64 ((minD a).n:Int),.int .i64 (a.L:Int),.int .i64 (((minD a).n+(minD b).n:Nat):Int),.int .u64 (s:Int),.int .u64 ((0:Nat):Int),.list bu ((yv (minD a) (minD b)).map Ed.enc)]).bind fun tu=>
    (CC Gp [.int .i64 ((V.nth tu 0).toInt),.int .i64 ((V.nth (tu.drop 1) 0).toInt),.int .u64 ((V.nth ((tu.drop 1).drop 1) 0).toInt),.int .u64 ((V.nth (((tu.drop 1).drop 1).drop 1) 0).toInt),.list bu ((V.nth (tu.drop 4) 0).toList)]).bind fun fy=>
    some [.int .i64 ((V.nth fy 0).toInt),.int .i64 ((V.nth (fy.drop 1) 0).toInt),.int .i64 ((V.nth (fy.drop 2) 0).toInt),.list ao ((V.nth ((fy.drop 3).drop 5) 0).toList),.list ar ((V.nth (((fy.drop 3).drop 5).drop 1) 0).toList)])=some (lX (iz (me (minD a) (minD b)) a.L ((minD a).n+(minD b).n)) (mQ (me (minD a) (minD b)) a.L ((minD a).n+(minD b).n))):=by
  rintro s rfl kH;refine bs (awz (n:=(minD b).n) (f:=(minD b).fin) (off:=(minD a).n) (by omega) (by omega)) ?_;refine bs hr ?_;show _=some (lX (iz (dZ (minD a).L _ _ _ _) a.L _) (mQ (dZ (minD a).L _ _ _ _) a.L _));rw[yw];rfl
 have p1:(2:Nat)^(minD a).st<2^64:=mW (by omega) (by omega);have p2:(2:Nat)^((minD a).n+(minD b).st)<2^64:=mW (by omega) (by omega);unfold PJ;rw[Nat.zero_or];cases hf:(minD a).fin (minD a).st with
 | true=>
  refine bT rfl ?_;rw[qP (by omega)];refine bs (aih (q:=(minD a).n+(minD b).st) (by omega) p1) ?_;exact fin _ (ah hf).symm (yM p1 p2)
 | false=>
  refine bF rfl ?_;exact fin _ (ag (by rw[hf];simp)).symm p1
theorem awR (hs:64<(minD a).n+(minD b).n):CC Ge (dN a (dh b))=some (lX zD 3):=by
 have h1:=(fc ha).cU;have h2:=(fc hb).cU;refine aio ?_;unfold Yn aq;refine bs (O5 ha hb hL) (bF rfl ?_);have e0:(V.nth ((AH (minD a) (minD b) 0).drop 5) 0).toList=(minD a).bI:=rfl;have e1:(V.nth ((((AH (minD a) (minD b) 0).drop 5).drop 1).drop 1) 0).toList=(minD b).bI:=rfl;rw[e0,e1,Da.pN,Da.pN,qP (by omega)];refine bs (awy hs) (bT rfl ?_);rfl
end
def JO (C:ae) (k' q t35 t36:Int) (t43:LV) (t44 e9 fB ia gA tq tt bn aY bh aS qI qJ uY uZ:Int) (cx bJ cd bS cN dO lW:LV) (t45:Int) (ey:LV) {β:Type} (kn:(Int×LV)→Option β) (kr:(Int×Bool×LV)→Option β):Option β:=
 bif decide (t45<t44) then
  (idx t43 t45).bind fun x6=>
  bif (decide (0≤x6.toInt))&&(decide (x6.toInt<(cx.length:Int))) then
  (cx[(x6.toInt:Int).toNat]?).bind fun x7=>
  bif x7.toBool then
   bif Nat.ble ((ey.length+([.agg [V.int .i64 q,V.int .i64 t45,V.int .i64 (wrap .i64 (k'+gA))]]:LV).length)*24) aX then
   kn (wrap .i64 (t45+1),ey++([.agg [V.int .i64 q,V.int .i64 t45,V.int .i64 (wrap .i64 (k'+gA))]]:LV))
   else none
  else
   kn (wrap .i64 (t45+1),ey)
  else none
 else
  kr (t45,decide (t45<t44),ey)
def Yp (C:ae) (k' q t35 t36:Int) (t43:LV) (t44 e9 fB ia gA tq tt bn aY bh aS qI qJ uY uZ:Int) (cx bJ cd bS cN dO lW:LV):=un fun t45 ey=>JO C k' q t35 t36 t43 t44 e9 fB ia gA tq tt bn aY bh aS qI qJ uY uZ cx bJ cd bS cN dO lW t45 ey (fun y=>some (Sum.inl y)) (fun r=>some (Sum.inr r))
def JP (C:ae) (k' t35 e9 fB ia gA tq tt bn aY bh aS qI qJ uY uZ:Int) (cx bJ cd bS cN dO lW:LV) (t36:Int) (ey:LV) {β:Type} (kn:(Int×LV)→Option β) (kr:(Int×Bool×LV)→Option β):Option β:=
 bif decide (t36<t35) then
  aq bJ t36 fun x5=>
  (Loop (Yp C k' t36 t35 t36 x5.toList (x5.toList.length:Int) e9 fB ia gA tq tt bn aY bh aS qI qJ uY uZ cx bJ cd bS cN dO lW) (0,ey)).bind (un fun oh=>un fun (rI:Bool) (uQ:LV)=>
   kn (wrap .i64 (t36+1),uQ))
 else
  kr (t36,decide (t36<t35),ey)
def Yq (C:ae) (k' t35 e9 fB ia gA tq tt bn aY bh aS qI qJ uY uZ:Int) (cx bJ cd bS cN dO lW:LV):=un fun t36 ey=>JP C k' t35 e9 fB ia gA tq tt bn aY bh aS qI qJ uY uZ cx bJ cd bS cN dO lW t36 ey (fun y=>some (Sum.inl y)) (fun r=>some (Sum.inr r))
def JQ (C:ae) (k' t71 e9 fB ia gA tq tt bn aY bh aS qI qJ uY uZ:Int) (Yr bJ cd bS cN dO ey:LV) (t72:Int) (lW:LV) {β:Type} (kn:(Int×LV)→Option β) (kr:(Int×Bool×LV)→Option β):Option β:=
 bif decide (t72<t71) then
  aq Yr t72 fun ko=>
  bif Nat.ble ((lW.length+([.agg [V.int .i64 (wrap .i64 (k'+((ko.cell 0).toInt))),V.int .i64 ((ko.cell 1).toInt),V.int .i64 (wrap .i64 (k'+((ko.cell 2).toInt)))]]:LV).length)*24) aX then
  kn (wrap .i64 (t72+1),lW++([.agg [V.int .i64 (wrap .i64 (k'+((ko.cell 0).toInt))),V.int .i64 ((ko.cell 1).toInt),V.int .i64 (wrap .i64 (k'+((ko.cell 2).toInt)))]]:LV))
  else none
 else
  kr (t72,decide (t72<t71),lW)
def Ys (C:ae) (k' t71 e9 fB ia gA tq tt bn aY bh aS qI qJ uY uZ:Int) (Yr bJ cd bS cN dO ey:LV):=un fun t72 lW=>JQ C k' t71 e9 fB ia gA tq tt bn aY bh aS qI qJ uY uZ Yr bJ cd bS cN dO ey t72 lW (fun y=>some (Sum.inl y)) (fun r=>some (Sum.inr r))
def PK (C:ae) (k':Int) (t98:Bool) (ia gA tq tt bn aY bh aS qI qJ uY uZ:Int) (bQ cx bJ cd bS cN:LV) {β:Type} (kr:(Int)→Option β):Option β:=
 bif t98 then
  (C xE [V.int .i64 (wrap .i64 (k'+gA))]).bind fun gM=>
  kr (wrap .u64 ((BitVec.ofInt (IntKind.bits .u64) bh|||BitVec.ofInt (IntKind.bits .u64) ((V.nth gM 0).toInt)).toNat))
 else
  kr bh
def PL (C:ae):cE:=bG 177 TN [EQ,EQ,EQ,EQ,EQ,EQ,H1,EQ,EQ,EQ,EQ,EQ,EQ,EQ,EQ,EQ,EQ,EQ,EQ,EQ,EQ,EQ,EQ,EQ,EQ,EQ,EQ,H1,EQ] [[1,2,3,4,5,6,0,0,8,9,10,11,12,13,14,15,16,17,18,19,20,21,22,23,24,25,26,27,0,29]] (@JO C) (bG 129 TO [EQ,EQ,H1,EQ,EQ,EQ,EQ,EQ,EQ,EQ,EQ,EQ,EQ,EQ,EQ,EQ,EQ,EQ,EQ,EQ,EQ,EQ,EQ,H1,EQ] [[1,2,0,0,4,5,6,7,8,9,10,11,12,13,14,15,16,17,18,19,20,21,22,23,0,25]] (@JP C) (bG 289 TP [EQ,EQ,H1,EQ,EQ,EQ,EQ,EQ,EQ,EQ,EQ,EQ,EQ,EQ,EQ,EQ,EQ,EQ,EQ,EQ,EQ,EQ,EQ,EQ,H1] [[1,2,0,0,4,5,6,7,8,9,10,11,12,13,14,15,16,17,18,19,20,21,22,23,24,0]] (@JQ C) (gH 1583 TQ [[1,5,6,7,8,0,10,11,12,13,14,17,18,19,20]] (@PK C) bm)))
theorem awS (C:ae):aW C (PL C) 15 (Lp [1,1,1,1,1,1,0,1,0,0,1,1,0,0,1,1,0,0] 15):=bE TN [EQ,EQ,EQ,EQ,EQ,EQ,H1,EQ,EQ,EQ,EQ,EQ,EQ,EQ,EQ,EQ,EQ,EQ,EQ,EQ,EQ,EQ,EQ,EQ,EQ,EQ,EQ,H1,EQ] [[1,2,3,4,5,6,0,0,8,9,10,11,12,13,14,15,16,17,18,19,20,21,22,23,24,25,26,27,0,29]] (@JO C) (aG an)
theorem awT (C:ae):aW C (PL C) 15 (Lp [1,1,1,1,1,1,0,1,0,0] 15):=bE TO [EQ,EQ,H1,EQ,EQ,EQ,EQ,EQ,EQ,EQ,EQ,EQ,EQ,EQ,EQ,EQ,EQ,EQ,EQ,EQ,EQ,EQ,EQ,H1,EQ] [[1,2,0,0,4,5,6,7,8,9,10,11,12,13,14,15,16,17,18,19,20,21,22,23,0,25]] (@JP C) (aG (aU (awS C) an))
theorem awU (C:ae):aW C (PL C) 15 (Lp [1,1,1,1,1,1,1,0,1,0,0] 15):=bE TP [EQ,EQ,H1,EQ,EQ,EQ,EQ,EQ,EQ,EQ,EQ,EQ,EQ,EQ,EQ,EQ,EQ,EQ,EQ,EQ,EQ,EQ,EQ,EQ,H1] [[1,2,0,0,4,5,6,7,8,9,10,11,12,13,14,15,16,17,18,19,20,21,22,23,24,0]] (@JQ C) (aG an)
theorem awV (C:ae):aW C (PL C) 15 (Cd 98 [1,1,1,1,1,1,1,1,0,1,0] [1,1,1,1,1,1,1,1,0,1,1] 15):=gG TQ [[1,5,6,7,8,0,10,11,12,13,14,17,18,19,20]] (@PK C) (aG an) (aG an)
def Yt (C:ae) (aO bR:Int) (dc dB:LV) (dv dt:Int) (dG dV:LV):Option LV:=
 (C pE [V.int .i64 aO,V.int .i64 bR,.list ao dc,.list ar dB]).bind fun r1=>
 (C pE [V.int .i64 dv,V.int .i64 dt,.list ao dG,.list ar dV]).bind fun r2=>
 (C Cv [V.int .i64 ((V.nth r1 0).toInt),V.int .i64 ((V.nth (r1.drop 1) 0).toInt),.list ao ((V.nth (r1.drop 2) 0).toList),.list ar ((V.nth ((r1.drop 2).drop 1) 0).toList)]).bind fun r3=>
 (C Cv [V.int .i64 ((V.nth r2 0).toInt),V.int .i64 ((V.nth (r2.drop 1) 0).toInt),.list ao ((V.nth (r2.drop 2) 0).toList),.list ar ((V.nth ((r2.drop 2).drop 1) 0).toList)]).bind fun r4=>
 bif decide (((wrap .i64 (((V.nth (r3.drop 1) 0).toInt)+((V.nth (r4.drop 1) 0).toInt))):Int)>64) then
  some [V.int .i64 0,V.int .i64 0,V.int .i64 3,.list ao ([]:LV),.list ar ([]:LV)]
 else
  (Loop (Yq C ((V.nth (r3.drop 1) 0).toInt) (((V.nth (r1.drop 2) 0).toList).length:Int) ((V.nth r1 0).toInt) ((V.nth (r1.drop 1) 0).toInt) ((V.nth r2 0).toInt) ((V.nth (r2.drop 1) 0).toInt) 0 0 ((V.nth r3 0).toInt) (wrap .i64 (((V.nth (r3.drop 1) 0).toInt)+((V.nth (r4.drop 1) 0).toInt))) ((V.nth ((r3.drop 1).drop 1) 0).toInt) ((V.nth (((r3.drop 1).drop 1).drop 1) 0).toInt) ((V.nth r4 0).toInt) ((V.nth (r4.drop 1) 0).toInt) ((V.nth ((r4.drop 1).drop 1) 0).toInt) ((V.nth (((r4.drop 1).drop 1).drop 1) 0).toInt) ((V.nth (r1.drop 2) 0).toList) ((V.nth ((r1.drop 2).drop 1) 0).toList) ((V.nth (r2.drop 2) 0).toList) ((V.nth ((r2.drop 2).drop 1) 0).toList) ([]:LV) ([]:LV) ((V.nth (r4.drop 4) 0).toList)) (0,(V.nth (r3.drop 4) 0).toList)).bind (un fun xW=>un fun (xX:Bool) (xZ:LV)=>
   (Loop (Ys C ((V.nth (r3.drop 1) 0).toInt) (((V.nth (r4.drop 4) 0).toList).length:Int) ((V.nth r1 0).toInt) ((V.nth (r1.drop 1) 0).toInt) ((V.nth r2 0).toInt) ((V.nth (r2.drop 1) 0).toInt) 0 0 ((V.nth r3 0).toInt) (wrap .i64 (((V.nth (r3.drop 1) 0).toInt)+((V.nth (r4.drop 1) 0).toInt))) ((V.nth ((r3.drop 1).drop 1) 0).toInt) ((V.nth (((r3.drop 1).drop 1).drop 1) 0).toInt) ((V.nth r4 0).toInt) ((V.nth (r4.drop 1) 0).toInt) ((V.nth ((r4.drop 1).drop 1) 0).toInt) ((V.nth (((r4.drop 1).drop 1).drop 1) 0).toInt) ((V.nth (r4.drop 4) 0).toList) ((V.nth (r1.drop 2) 0).toList) ((V.nth ((r1.drop 2).drop 1) 0).toList) ((V.nth (r2.drop 2) 0).toList) ((V.nth ((r2.drop 2).drop 1) 0).toList) ([]:LV) ([]:LV)) (0,xZ)).bind (un fun Aq=>un fun (wh:Bool) (qH:LV)=>
    aq ((V.nth (r1.drop 2) 0).toList) ((V.nth (r1.drop 1) 0).toInt) fun pO=>
    PK C ((V.nth (r3.drop 1) 0).toInt) pO.toBool ((V.nth r2 0).toInt) ((V.nth (r2.drop 1) 0).toInt) 0 0 ((V.nth r3 0).toInt) (wrap .i64 (((V.nth (r3.drop 1) 0).toInt)+((V.nth (r4.drop 1) 0).toInt))) ((V.nth ((r3.drop 1).drop 1) 0).toInt) ((V.nth (((r3.drop 1).drop 1).drop 1) 0).toInt) ((V.nth r4 0).toInt) ((V.nth (r4.drop 1) 0).toInt) ((V.nth ((r4.drop 1).drop 1) 0).toInt) ((V.nth (((r4.drop 1).drop 1).drop 1) 0).toInt) ((V.nth (r2.drop 2) 0).toList) ((V.nth ((r2.drop 2).drop 1) 0).toList) ([]:LV) ([]:LV) qH ((V.nth (r4.drop 4) 0).toList) (fun awW=>
     bif decide (0≤(wrap .u64 ((V.nth (r3.drop 1) 0).toInt))) then
     (C MA [V.int .i64 ((V.nth r3 0).toInt),V.int .i64 (wrap .i64 (((V.nth (r3.drop 1) 0).toInt)+((V.nth (r4.drop 1) 0).toInt))),.int .u64 awW,.int .u64 (wrap .u64 (((V.nth (((r4.drop 1).drop 1).drop 1) 0).toInt)*2^(min (wrap .u64 ((V.nth (r3.drop 1) 0).toInt)).toNat (IntKind.bits .u64)))),.list bu qH]).bind fun wH=>
     some [V.int .i64 ((V.nth wH 0).toInt),V.int .i64 ((V.nth (wH.drop 1) 0).toInt),V.int .i64 ((V.nth (wH.drop 2) 0).toInt),.list ao ((V.nth (wH.drop 3) 0).toList),.list ar ((V.nth ((wH.drop 3).drop 1) 0).toList)]
     else none)))
theorem aip {aO bR:Int} {dc dB:LV} {dv dt:Int} {dG dV:LV} {r:Option LV} (h:Yt CC aO bR dc dB dv dt dG dV=r):CC F6 [V.int .i64 aO,V.int .i64 bR,.list ao dc,.list ar dB,V.int .i64 dv,V.int .i64 dt,.list ao dG,.list ar dV]=r:=bj (aU (awT CC) (aU (awU CC) (aU (awV CC) an))) h
def mR (m k:Da) (p:Nat) (n:Nat):List Ed:=(List.range n).flatMap fun x=>if m.fin (m.nx p x)=true then [gI p x (m.n+k.st)] else []
theorem aiq {m k:Da} {p n:Nat}:mR m k p (n+1)=mR m k p n++(if m.fin (m.nx p n)=true then [gI p n (m.n+k.st)] else []):=by simp[mR,yP]
theorem PM {m k:Da} {p:Nat}: ∀{n:Nat},(mR m k p n).length≤n
 | 0=>by simp[mR]
 | n+1=>by
  rw[aiq,dd];have:=PM (m:=m) (k:=k) (p:=p) (n:=n);split
  ·rw[List.length_singleton];omega
  ·rw[List.length_nil];omega
def DV (d:Nat) (e:Ed):Ed:=⟨(d:Int)+e.f,e.l,(d:Int)+e.t⟩
def DW (m k:Da):List Ed:=(eH m 0++fm m.n fun p=>mR m k p m.L)++(eH k 0).map (DV m.n)
theorem Yu {d p x q:Nat}:DV d (gI p x q)=gI (p+d) x (q+d):=by
 show Ed.mk ((d:Int)+(p:Int)) (x:Int) ((d:Int)+(q:Int))=Ed.mk ((p+d:Nat):Int) (x:Int) ((q+d:Nat):Int);rw[Ed.mk.injEq];exact ⟨by omega,rfl,by omega⟩
section
variable {m k:Da} (hm:m.Ok) (hk:k.Ok) (hL:m.L=k.L)
include hm hk hL
omit hk hL in
theorem air {e:Ed}:e∈DW m k↔e∈yv m k:=by
 unfold DW yv;have h1:(∃i,i<m.n∧e∈mR m k i m.L)↔e∈o5 m.n m.fin (m.n+k.st) (eH m 0++eH k m.n):=by
  rw[aij];unfold mR;simp only[List.mem_flatMap,jG];constructor
  ·rintro ⟨p,hp,x,hx,h⟩;split at h
   ·next c=>
    rw[jF] at h;exact ⟨gI p x (m.nx p x),List.mem_append_left _ (yu.2 ⟨p,x,hp,hx,rfl⟩),hm.fN hp hx,c,h⟩
   ·cases h
  ·rintro ⟨e',h1,h2,h3,rfl⟩;rcases eW.1 h1 with h1|h1
   ·obtain ⟨p,x,hp,hx,rfl⟩:=yu.1 h1;have sx:m.fin (m.nx p x)=true:=h3;refine ⟨p,hp,x,hx,?_⟩;rw[ah sx];exact jF.2 rfl
   ·obtain ⟨p,x,hp,hx,rfl⟩:=yu.1 h1;have:(gI (p+m.n) x (k.nx p x+m.n)).t.toNat=k.nx p x+m.n:=rfl;omega
 have h2:e∈(eH k 0).map (DV m.n)↔e∈eH k m.n:=by
  rw[j5,yu];constructor
  ·rintro ⟨e',g1,g2⟩;obtain ⟨p,x,hp,hx,rfl⟩:=yu.1 g1;exact ⟨p,x,hp,hx,g2.symm.trans Yu⟩
  ·rintro ⟨p,x,hp,hx,rfl⟩;exact ⟨_,yu.2 ⟨p,x,hp,hx,rfl⟩,Yu⟩
 rw[eW,eW,eW,eW,aie,h1,h2,or_assoc,or_assoc,or_comm (a:=e∈o5 _ _ _ _)]
theorem awX (hs:m.n+k.n≤64):A4 m.L (m.n+k.n) (wJ m k) (DU m k) (DW m k) where
 l1:=hm.l1
 l6:=hm.l6
 uR:=hs
 st:=(PH hm hk hL hs).st
 fin:=(PH hm hk hL hs).fin
 E:=fun e he=>aim hm hk hL ((air hm).1 he)
 len:=by
  have h1:=uX hm (off:=0) (n:=m.n);have h2:=uX hk (off:=0) (n:=k.n);have h3:(fm m.n fun p=>mR m k p m.L).length≤m.n*6:=Yi fun p _=>kR PM hm.l6;unfold DW;rw[dd,dd,cH];unfold eH;omega
end
theorem awY {f:Nat→Bool} {d n:Nat}:ig 0 f 0 n*2^d=ig 0 f d n:=by
 refine Bs fun j=> ?_;rw[Nat.testBit_mul_two_pow,nL,aK,ain,ain,fo];rw[Nat.sub_zero];constructor
 ·rintro ⟨h1,h2,h3,h4⟩;exact ⟨h1,by omega,h4⟩
 ·rintro ⟨h1,h2,h3⟩;exact ⟨h1,by omega,by omega,h3⟩
section
variable {a b:Da} (ha:a.Ok) (hb:b.Ok) (hL:a.L=b.L)
include ha hb hL
theorem awZ (hs:(minD a).n+(minD b).n≤64):CC F6 (dN a (dh b))=some (lX (iz (me (minD a) (minD b)) a.L ((minD a).n+(minD b).n)) (mQ (me (minD a) (minD b)) a.L ((minD a).n+(minD b).n))):=by
 have hm:=fc ha;have hk:=fc hb;have yw:=ot ha;have Yo:=ot hb;have iI:(minD a).L=(minD b).L:=by rw[yw,Yo,hL]
 have b9:=hm.s;have hsk:=hk.s;have hm6:=hm.l6;have hr:=awc (awX hm hk iI hs);have en:dZ (minD a).L ((minD a).n+(minD b).n) (wJ (minD a) (minD b)) (DU (minD a) (minD b)) (DW (minD a) (minD b))=me (minD a) (minD b):=by
  unfold me dZ;rw[av9 fun e=>air hm (e:=e)]
 rw[en,yw] at hr;have l1:=uX hm (off:=0) (n:=(minD a).n);have l2:=uX hk (off:=0) (n:=(minD b).n);have l3: ∀i,(fm i fun p=>mR (minD a) (minD b) p (minD a).L).length≤i*6:=fun i=>Yi fun p _=>kR PM hm6;refine aip ?_;unfold Yt aq;refine bs (mL ha) ?_;refine bs (mL hb) ?_;refine bs (aik hm (by omega)) ?_;refine bs (aik hk (by omega)) ?_;simp only[aN,dh,dN,V.ct,mq,jZ,V.toInt_int,V.ki,Da.pN,cH];rw[qP (by omega)];refine bF (cJ (by omega)) ?_;refine bs (yr (minD a).n (fun i=>((i:Int),(eH (minD a) 0++fm i fun p=>mR (minD a) (minD b) p (minD a).L).map Ed.enc)) (((minD a).n:Int),false,(eH (minD a) 0++fm (minD a).n fun p=>mR (minD a) (minD b) p (minD a).L).map Ed.enc) (by rw[aid,j4];rfl) (fun p hp=> ?_) ?_) ?_
 ·have l4:=l3 p;simp only[Yq,JP,un,aq];refine bT (cO hp) ?_;refine (fv (i:=p) hp).trans ?_;rw[show (ew (minD a).L ((minD a).nx p)).toList=tab (minD a).L fun x=>nV ((minD a).nx p x) from rfl,db];refine bs (yr (minD a).L (fun i=>((i:Int),((eH (minD a) 0++fm p fun p=>mR (minD a) (minD b) p (minD a).L)++mR (minD a) (minD b) p i).map Ed.enc)) (((minD a).L:Int),false,((eH (minD a) 0++fm p fun p=>mR (minD a) (minD b) p (minD a).L)++mR (minD a) (minD b) p (minD a).L).map Ed.enc) (by rw[show mR (minD a) (minD b) p 0=[] from rfl,j4];rfl) (fun x hx=> ?_) ?_) ?_
  ·have l5:=PM (m:=minD a) (k:=minD b) (p:=p) (n:=x);simp only[Yp,JO,un];refine bT (cO hx) ?_;refine bs (nr hx) ?_;refine (fv (i:=(minD a).nx p x) (hm.fN hp hx)).trans ?_;rw[aiq,qP (by omega)];cases hf:(minD a).fin ((minD a).nx p x) with
   | true=>
    refine bT rfl ?_;refine bT (cap (by rw[cH,dd,dd];unfold eH;simp;omega) (by omega)) ?_;rw[JL,cG (by omega),ah rfl,←fJ]
   | false=>
    refine bF rfl ?_;rw[cG (by omega),ag (by simp),j4]
  ·simp only[Yp,JO,un];refine bF (bt (az _)) ?_;rw[bt (az _)]
  ·simp only[un];rw[cG (by omega),PF,←fJ]
 ·simp only[Yq,JP,un,aq];refine bF (bt (az _)) ?_;rw[bt (az _)]
 ·simp only[un];have l4:=l3 (minD a).n;refine bs (yr (eH (minD b) 0).length (fun i=>((i:Int),((eH (minD a) 0++fm (minD a).n fun p=>mR (minD a) (minD b) p (minD a).L)++((eH (minD b) 0).take i).map (DV (minD a).n)).map Ed.enc)) (((eH (minD b) 0).length:Int),false,(DW (minD a) (minD b)).map Ed.enc) (by rw[List.take_zero,List.map_nil,j4];rfl) (fun i hi=> ?_) ?_) ?_
  ·have hl:((eH (minD b) 0).take i).length≤i:=List.length_take_le _ _;have qe:(eH (minD b) 0).length≤(minD b).n*6:=l2;simp only[Ys,JQ,un,aq];refine bT (cO hi) ?_;refine (eu (i:=i) (v:=(eH (minD b) 0)[i].enc) (by simp[hi])).trans ?_;obtain ⟨p,x,hp,hx,he⟩:=yu.1 (ff hi);have hq:=hk.fN hp hx;rw[Ed.mM,Ed.mN,Ed.mO];have t1:(eH (minD b) 0)[i].f=((p+0:Nat):Int):=by rw[he];rfl
   have t2:(eH (minD b) 0)[i].l=(x:Int):=by rw[he];rfl
   have t3:(eH (minD b) 0)[i].t=(((minD b).nx p x+0:Nat):Int):=by rw[he];rfl
   rw[t1,t2,t3,qP (by omega),qP (by omega)];refine bT (cap (by rw[cH,dd,dd,cH];unfold eH at*;simp;omega) (by omega)) ?_;have e6:((eH (minD b) 0).take (i+1)).map (DV (minD a).n)=((eH (minD b) 0).take i).map (DV (minD a).n)++[gI (p+0+(minD a).n) x ((minD b).nx p x+0+(minD a).n)]:=by rw[Kv hi,qV,List.map_singleton,he,Yu]
   rw[JL,cG (by omega),e6,←fJ,Nat.add_comm (minD a).n (p+0),Nat.add_comm (minD a).n ((minD b).nx p x+0)]
  ·simp only[Ys,JQ,un,aq];refine bF (bt (az _)) ?_;rw[bt (az _),u6];rfl
  ·simp only[un];refine bT (VX b9) ?_;rw[Int.toNat_natCast];refine bs (wg b9) ?_;have p1:(2:Nat)^(minD a).st<2^64:=mW (by omega) (by omega);have p2:(2:Nat)^((minD a).n+(minD b).st)<2^64:=mW (by omega) (by omega);have p3:ig 0 (minD b).fin (minD a).n (minD b).n<2^64:=JM (Nat.two_pow_pos _) (by omega);have es:wrap .u64 ((ig 0 (minD b).fin 0 (minD b).n:Int)*2^(min (wrap .u64 ((minD a).n:Int)).toNat (IntKind.bits .u64)))=((DU (minD a) (minD b):Nat):Int):=by
    rw[s6 (by omega),Int.toNat_natCast,show min (minD a).n (IntKind.bits .u64)=(minD a).n from Bj (show (minD a).n≤64 by omega),show ((ig 0 (minD b).fin 0 (minD b).n:Int)*2^(minD a).n)=((ig 0 (minD b).fin 0 (minD b).n*2^(minD a).n:Nat):Int) by rw[Int.natCast_mul,Int.natCast_pow];rfl,awY,s6 p3];rfl
   have eb:decide (0≤wrap .u64 ((minD a).n:Int))=true:=by rw[s6 (by omega)];exact bU (by omega)
   unfold PK;cases hf:(minD a).fin (minD a).st with
   | true=>
    refine bT rfl ?_;rw[qP (by omega)];refine bs (Pc (by omega)) ?_;rw[show (V.nth [V.int .u64 ((2^((minD a).n+(minD b).st):Nat):Int)] 0).toInt=((2^((minD a).n+(minD b).st):Nat):Int) from rfl,u64_or p1 p2,show 2^(minD a).st|||2^((minD a).n+(minD b).st)=wJ (minD a) (minD b) from (ah hf).symm];refine bT eb ?_;rw[es,yw];refine bs hr ?_;rfl
   | false=>
    refine bF rfl ?_;rw[show ((2^(minD a).st:Nat):Int)=((wJ (minD a) (minD b):Nat):Int) from congrArg _ (ag (by rw[hf];simp)).symm];refine bT eb ?_;rw[es,yw];refine bs hr ?_;rfl
end
end Go.AM
set_option maxRecDepth 100000
namespace Go.AM
open Go.IntKind (wrap)
open Go.Proofs
namespace Da
def qQ (a:Da) (f:Nat→Bool):Da:=⟨a.L,a.st,tab a.n f,a.N⟩
def pre (a:Da) (k:Nat) (g:Nat→List Nat):Da:=⟨k,a.st,a.F,tab a.n fun q=>tab k fun x=>a.run q (g x)⟩
theorem Ba {a:Da} {f:Nat→Bool}:(a.qQ f).n=a.n:=by simp[qQ,n]
theorem ais {a:Da} {f:Nat→Bool} {q:Nat} (h:q<a.n):(a.qQ f).fin q=f q:=by
 show (tab a.n f).getD q false=f q;exact xT h
theorem Ok.qQ {a:Da} (h:a.Ok) {f:Nat→Bool}:(a.qQ f).Ok:=⟨h.l1,h.l6,by rw[Ba];exact h.nN,fun r hr=>by rw[Ba];exact h.row r hr,by rw[Ba];exact h.s,by rw[Ba];exact h.cU⟩
theorem aw0 {a:Da} {f:Nat→Bool} {q:Nat} {w:List Nat}:(a.qQ f).run q w=a.run q w:=rfl
theorem aw1 {a:Da} (h:a.Ok) {f:Nat→Bool} {q:Nat} (hq:q<a.n) {w:List Nat} (hw:WL a.L w):(a.qQ f).acc q w=f (a.run q w):=by
 unfold acc;rw[aw0,ais (h.VL w hq hw)]
theorem ait {a:Da} {f:Nat→Bool}:(a.qQ f).bI=bV a.n f:=by
 unfold bI bV;rw[Ba];exact dR fun q hq=>by rw[ais hq]
theorem aiu {a:Da} {f:Nat→Bool}:(a.qQ f).bz=a.bz:=by unfold bz;rw[Ba];rfl
theorem Ok.pre {a:Da} (h:a.Ok) {k:Nat} {g:Nat→List Nat} (h1:1≤k) (h6:k≤6) (hg: ∀x,x<k→WL a.L (g x)):(a.pre k g).Ok:=⟨h1,h6,by simp[Da.pre,n],fun r hr=>by
 obtain ⟨q,hq,rfl⟩:=uD.1 hr;refine ⟨by simp[Da.pre],fun s hs=> ?_⟩;obtain ⟨x,hx,rfl⟩:=uD.1 hs;exact h.VL _ hq (hg x hx),h.s,h.cU⟩
end Da
end Go.AM
set_option maxRecDepth 100000
namespace Go.AM
open Go.IntKind (wrap)
open Go.Proofs
def JR (C:ae) (t16:LV) (t17 aP aT:Int) (bL bH:LV) (cy cz aiv aiw:Int) (bC bQ:LV) (t18:Int) (cx bJ:LV) {β:Type} (kn:(Int×LV×LV)→Option β) (kr:(Int×Bool×LV×LV)→Option β):Option β:=
 bif decide (t18<t17) then
  (idx t16 t18).bind fun x2=>
  bif Nat.ble ((cx.length+([.bool (!x2.toBool)]:LV).length)*1) aX then
  (idx bH t18).bind fun x3=>
  bif Nat.ble (x3.toList.length*8) aX then
   bif Nat.ble ((bJ.length+([.list aF x3.toList]:LV).length)*24) aX then
   kn (wrap .i64 (t18+1),cx++([.bool (!x2.toBool)]:LV),bJ++([.list aF x3.toList]:LV))
   else none
  else none
  else none
 else
  kr (t18,decide (t18<t17),cx,bJ)
def Yv (C:ae) (t16:LV) (t17 aP aT:Int) (bL bH:LV) (cy cz aiv aiw:Int) (bC bQ:LV):=un fun t18=>un fun cx bJ=>JR C t16 t17 aP aT bL bH cy cz aiv aiw bC bQ t18 cx bJ (fun y=>some (Sum.inl y)) (fun r=>some (Sum.inr r))
def aw2 (C:ae):cE:=bG 81 Uv [EQ,EQ,H1,EQ,EQ,EQ,EQ,EQ,EQ,EQ,EQ,EQ,EQ,H1,H1] [[1,2,0,0,4,5,6,7,8,9,10,11,12,13,0,0]] (@JR C) bm
theorem aw3 (C:ae):aW C (aw2 C) 57 (Lp [1,1,1,0,1,0,0] 57):=bE Uv [EQ,EQ,H1,EQ,EQ,EQ,EQ,EQ,EQ,EQ,EQ,EQ,EQ,H1,H1] [[1,2,0,0,4,5,6,7,8,9,10,11,12,13,0,0]] (@JR C) (aG an)
def aix (C:ae) (bO bP:Int) (bw bY:LV):Option LV:=
 (C rA [V.int .i64 bO,V.int .i64 bP,.list ao bw,.list ar bY]).bind fun r1=>
 bif (((V.nth r1 0).toInt):Int) != 0 then
  some [V.int .i64 0,V.int .i64 0,.list ao ([]:LV),.list ar ([]:LV)]
 else
  (Loop (Yv C bw (bw.length:Int) bO bP bw bY 0 0 bO bP ([]:LV) ([]:LV)) (0,([]:LV),([]:LV))).bind (un fun kK=>un fun (og:Bool)=>un fun (Yw:LV) (X3:LV)=>
   some [V.int .i64 bO,V.int .i64 bP,.list ao Yw,.list ar X3])
theorem aw4 {bO bP:Int} {bw bY:LV} {r:Option LV} (h:aix CC bO bP bw bY=r):CC MN [V.int .i64 bO,V.int .i64 bP,.list ao bw,.list ar bY]=r:=bj (aU (aw3 CC) an) h
theorem aw5 {a:Da} (h:a.Ok):CC MN (dh a)=some (dh (a.qQ fun q=> !(a.fin q))):=by
 have hm:=h.cU;have h6:=h.l6;refine aw4 ?_;unfold aix;refine bs (uG h) (bF rfl ?_);rw[Da.pN];refine bs (eh a.n (fun i=>((i:Int),(tab i fun q=>V.bool (!(a.fin q))),(tab i fun q=>ew a.L (a.nx q)))) ((a.n:Int),false,(bV a.n fun q=> !(a.fin q)),a.bz) (fun q hq=> ?_) ?_) ?_
 ·simp only[Yv,JR,un];refine bT (cO hq) ?_;refine bs (Da.nt hq) ?_;refine bT (cap (by rw[db];simp;omega) (by omega)) ?_;refine bs (Da.jU hq) ?_;rw[kj,db];refine bT (by rw[fp,wc];omega) ?_;refine bT (cap (by rw[db];simp;omega) (by omega)) ?_;rw[cG (by omega),gi,gi];rfl
 ·simp only[Yv,JR,un];refine bF (bt (az _)) ?_;rw[bt (az _)];rfl
 ·unfold dh dN;rw[Da.ait,Da.aiu];rfl
def JS (C:ae) (t12 aP aT:Int) (bL bH:LV) (cy cz fW fX:Int) (bC bQ:LV) (t13:Int) (cx bJ:LV) {β:Type} (kn:(Int×LV×LV)→Option β) (kr:(Int×Bool×LV×LV)→Option β):Option β:=
 bif decide (t13<t12) then
  (idx bL t13).bind fun x1=>
  bif Nat.ble ((cx.length+([.bool (!x1.toBool)]:LV).length)*1) aX then
  (idx bH t13).bind fun x2=>
  bif Nat.ble ((([]:LV).length+x2.toList.length)*8) aX then
   bif Nat.ble ((bJ.length+([.list aF (([]:LV)++x2.toList)]:LV).length)*24) aX then
   kn (wrap .i64 (t13+1),cx++([.bool (!x1.toBool)]:LV),bJ++([.list aF (([]:LV)++x2.toList)]:LV))
   else none
  else none
  else none
 else
  kr (t13,decide (t13<t12),cx,bJ)
def Yx (C:ae) (t12 aP aT:Int) (bL bH:LV) (cy cz fW fX:Int) (bC bQ:LV):=un fun t13=>un fun cx bJ=>JS C t12 aP aT bL bH cy cz fW fX bC bQ t13 cx bJ (fun y=>some (Sum.inl y)) (fun r=>some (Sum.inr r))
def aw6 (C:ae):cE:=bG 49 TR [EQ,H1,EQ,EQ,EQ,EQ,EQ,EQ,EQ,EQ,EQ,EQ,H1,H1] [[1,0,0,3,4,5,6,7,8,9,10,11,12,0,0]] (@JS C) bm
theorem aw7 (C:ae):aW C (aw6 C) 16 (Lp [1,1,0,1,0,0] 16):=bE TR [EQ,H1,EQ,EQ,EQ,EQ,EQ,EQ,EQ,EQ,EQ,EQ,H1,H1] [[1,0,0,3,4,5,6,7,8,9,10,11,12,0,0]] (@JS C) (aG an)
def aiy (C:ae) (bO bP:Int) (bw bY:LV):Option LV:=
 (Loop (Yx C (bw.length:Int) bO bP bw bY 0 0 bO bP ([]:LV) ([]:LV)) (0,([]:LV),([]:LV))).bind (un fun lr=>un fun (kK:Bool)=>un fun (Yy:LV) (Yw:LV)=>
  some [V.int .i64 bO,V.int .i64 bP,.list ao Yy,.list ar Yw])
theorem aw8 {bO bP:Int} {bw bY:LV} {r:Option LV} (h:aiy CC bO bP bw bY=r):CC My [V.int .i64 bO,V.int .i64 bP,.list ao bw,.list ar bY]=r:=bj (aU (aw7 CC) an) h
def aiz (C:ae) (ay:Int) (all:Bool):Option LV:=
 bif (decide (0≤ay))&&((decide (ay≤ay))&&(Nat.ble ((ay.toNat)*8) aX)) then
  some [V.int .i64 ay,V.int .i64 0,.list ao ([.bool all]:LV),.list ar ([.list aF (List.replicate (ay.toNat) (V.int .i64 0))]:LV)]
 else none
theorem aw9 {ay:Int} {all:Bool} {r:Option LV} (h:aiz CC ay all=r):CC F5 [V.int .i64 ay,.bool all]=r:=bj (L:=bm) an h
section
variable {a b:Da} (ha:a.Ok) (hb:b.Ok) (hL:a.L=b.L) {op:Nat}
include ha hb hL
theorem axa {S U:List (NP)} {p:NP} (hp0:PI a b p) {x:Nat} (hx:x<a.L) (Di:aJ (pn a b) S p (x+1) <+: U) (hU:(aJ (pn a b) S p (x+1)).length≤512) {o i c1 c2 c3 c4 c5 c6 c7:Int} {l1 l2 l3 l4 l5 l6:List V}:
  ye CC o i (a.L:Int) c1 l1 a.bz c2 c3 l2 b.bz c4 c5 c6 c7 (p.p:Int) (p.q:Int) l3 l4 l5 l6 ((x:Int),pS (aJ (pn a b) S p x),pM (aJ (pn a b) S p x),(tab x fun j=>nV (U.idxOf (pn a b p j))))=
   some (.inl (((x+1:Nat):Int),pS (aJ (pn a b) S p (x+1)),pM (aJ (pn a b) S p (x+1)),(tab (x+1) fun j=>nV (U.idxOf (pn a b p j))))):=by
 have h6:=ha.l6;have yb:=ha.cU;have ui:=hb.cU;have hn:=Dc ha hb hL hp0 hx;unfold PI at hn;have fT:=hU;have k1:cw .i64 ((a.nx p.p x:Nat):Int)=true:=km (by have:(pn a b p x).p=a.nx p.p x:=rfl;omega);have k2:cw .i64 ((b.nx p.q x:Nat):Int)=true:=km (by have:(pn a b p x).q=b.nx p.q x:=rfl;omega);simp only[ye,AF,un];refine bT (cO hx) ?_;refine bs (Da.jU hp0.1) ?_;rw[kj];refine bs (mI hx) ?_;refine bs (Da.jU hp0.2) ?_;rw[kj];refine bs (mI (hL▸hx)) ?_;simp only[V.toInt_int];refine bT (by rw[k1,k2];rfl) ?_;rw[show (V.agg [V.int .i64 ((a.nx p.p x:Nat):Int),V.int .i64 ((b.nx p.q x:Nat):Int)])=pV (pn a b p x) from rfl];have e1:=qG uO (pn a b p x) (aJ (pn a b) S p x) 0;unfold Dh;rw[show eB (pV (pn a b p x)) (pM (aJ (pn a b) S p x))=_ from e1,show (V.agg [V.int .i64 ((a.nx p.p x:Nat):Int),V.int .i64 ((b.nx p.q x:Nat):Int)])=pV (pn a b p x) from rfl];have ei:U.idxOf (pn a b p x)=(dj (aJ (pn a b) S p x) (pn a b p x)).idxOf (pn a b p x):=uB Di uA;rw[CU] at ei;rw[aJ,qz] at fT;by_cases h:pn a b p x∈aJ (pn a b) S p x
 ·have e2:=uH uO (pn a b p x) (.int .i64 0) (aJ (pn a b) S p x) 0 h;rw[ed] at e2;rw[ah h] at ei;refine bF (by simpa using h) ?_;rw[show fP (pV (pn a b p x)) (pM (aJ (pn a b) S p x)) (.int .i64 0)=_ from e2,V.toInt_int,←ei];simp only[bN,un];refine bT (cap (by rw[db];simp;omega) (by omega)) ?_;rw[cG (by omega),gi,aJ];unfold dj;rw[ah h];rfl
 ·rw[ag h] at ei fT;refine bT (by simpa using h) ?_;refine bF (by rw[nw];simp;omega) ?_;refine bT (by rw[k1,k2];rfl) ?_;refine bT (cap (by rw[nw];simp;omega) (by omega)) ?_;simp only[bN,un];refine bT (cap (by rw[db];simp;omega) (by omega)) ?_;have e2:=uI uO (pn a b p x) (aJ (pn a b) S p x) 0 h;rw[ed] at e2;rw[nw,show eC (pV (pn a b p x)) _ (pM (aJ (pn a b) S p x))=_ from e2,←ei,cG (by omega),gi,aJ];unfold dj;rw[ag h];simp[pS,pM,nV]
theorem axb {T:List (NP)} {p:NP} (hp0:PI a b p) (hT:T.length≤512) (hU:512<(aJ (pn a b) T p a.L).length) {o i c1 c2 c3 c4 c5 c6 c7:Int} {l1 l2 l3 l4 l5 l6:List V}:
  Loop (ye CC o i (a.L:Int) c1 l1 a.bz c2 c3 l2 b.bz c4 c5 c6 c7 (p.p:Int) (p.q:Int) l3 l4 l5 l6) (0,pS T,pM T,([]:List V))=some (.inl (3,0,0,[],[])):=by
 obtain ⟨y,hy,L5,X6,X7⟩:=afu hT hU;have h6:=ha.l6;have yb:=ha.cU;have ui:=hb.cU;refine (ab8 (fun x=>((x:Int),pS (aJ (pn a b) T p x),pM (aJ (pn a b) T p x),(tab x fun j=>nV ((aJ (pn a b) T p y).idxOf (pn a b p j))))) y (fun x hx=> ?_) ?_)
 ·exact axa ha hb hL hp0 (by omega) (rH T p (by omega)) (X7 (x+1) (by omega))
 ·have hn:=Dc ha hb hL hp0 hy;unfold PI at hn;have k1:cw .i64 ((a.nx p.p y:Nat):Int)=true:=km (by have:(pn a b p y).p=a.nx p.p y:=rfl;omega);have k2:cw .i64 ((b.nx p.q y:Nat):Int)=true:=km (by have:(pn a b p y).q=b.nx p.q y:=rfl;omega);simp only[ye,AF,un];refine bT (cO hy) ?_;refine bs (Da.jU hp0.1) ?_;rw[kj];refine bs (mI hy) ?_;refine bs (Da.jU hp0.2) ?_;rw[kj];refine bs (mI (hL▸hy)) ?_;simp only[V.toInt_int];refine bT (by rw[k1,k2];rfl) ?_;rw[show (V.agg [V.int .i64 ((a.nx p.p y:Nat):Int),V.int .i64 ((b.nx p.q y:Nat):Int)])=pV (pn a b p y) from rfl];have e1:=qG uO (pn a b p y) (aJ (pn a b) T p y) 0;unfold Dh;rw[show eB (pV (pn a b p y)) (pM (aJ (pn a b) T p y))=_ from e1];refine bT (by simpa using X6) ?_;refine bT (by rw[nw];simp;omega) ?_;rfl
theorem aiA (ho:op≤15) {i:Nat} (eQ:i<(aj a.L (pn a b) ⟨a.st,b.st⟩ i).length) (hlen:(aj a.L (pn a b) ⟨a.st,b.st⟩ i).length≤512) {k1 k2 k3 k4:Int} {l1 l2 l3 l4:List V} (Dd:l3.length≤1000) (WC:l4.length≤1000):
  ((aj a.L (pn a b) ⟨a.st,b.st⟩ (i+1)).length≤512→∃x y,wv CC (op:Int) (a.L:Int) k1 a.bI a.bz k2 k3 b.bI b.bz 0 0 (a.L:Int) k4 l1 l2 ((i:Int),pS (aj a.L (pn a b) ⟨a.st,b.st⟩ i),pM (aj a.L (pn a b) ⟨a.st,b.st⟩ i),l3,l4)=
   some (.inl (((i+1:Nat):Int),pS (aj a.L (pn a b) ⟨a.st,b.st⟩ (i+1)),pM (aj a.L (pn a b) ⟨a.st,b.st⟩ (i+1)),l3++[x],l4++[y])))∧
  (512<(aj a.L (pn a b) ⟨a.st,b.st⟩ (i+1)).length→wv CC (op:Int) (a.L:Int) k1 a.bI a.bz k2 k3 b.bI b.bz 0 0 (a.L:Int) k4 l1 l2 ((i:Int),pS (aj a.L (pn a b) ⟨a.st,b.st⟩ i),pM (aj a.L (pn a b) ⟨a.st,b.st⟩ i),l3,l4)=
   some (.inr (.inl (3,0,0,[],[])))):=by
 have h6:=ha.l6;have yb:=ha.cU;have ui:=hb.cU;have hq:PI a b (aj a.L (pn a b) ⟨a.st,b.st⟩ i)[i]:=WA ha hb hL _ _ (ff eQ);have gT:aj a.L (pn a b) ⟨a.st,b.st⟩ (i+1)=aJ (pn a b) (aj a.L (pn a b) ⟨a.st,b.st⟩ i) (aj a.L (pn a b) ⟨a.st,b.st⟩ i)[i] a.L:=G4 (cp eQ);refine ⟨fun h=>⟨V.bool (pf a b op (aj a.L (pn a b) ⟨a.st,b.st⟩ i)[i]),.list aF (tab a.L fun x=>nV ((aj a.L (pn a b) ⟨a.st,b.st⟩ (i+1)).idxOf (pn a b (aj a.L (pn a b) ⟨a.st,b.st⟩ i)[i] x))),?_⟩,fun h=> ?_⟩
 ·simp only[wv,AG,un];refine bT (bU (by rw[nw];omega)) ?_;refine (eu (OH eQ)).trans ?_;rw[OF,OG];refine bs (af9 ha hb hL hq (U:=aj a.L (pn a b) ⟨a.st,b.st⟩ (i+1)) (by rw[←gT];exact lG _) h) ?_;rw[←gT];simp only[bN,un];refine bT (cap (by simp;omega) (by omega)) ?_;refine bs (Da.nt hq.1) ?_;refine bs (Da.nt hq.2) ?_;refine bs (af8 ho _ _) ?_;refine bT (cap (by simp;omega) (by omega)) ?_;rw[cG (by omega)];rfl
 ·simp only[wv,AG,un];refine bT (bU (by rw[nw];omega)) ?_;refine (eu (OH eQ)).trans ?_;rw[OF,OG];refine bs (axb ha hb hL hq hlen (by rw[←gT];exact h)) ?_;rfl
theorem axc (ho:op≤15) (hn:iF a b) (xB:CC zX (dN a (dh b))=some [.int .i64 0]):CC F8 (dN a (dN b [.int .i64 (op:Int)]))=some (lX zD 3):=by
 have h6:=ha.l6;have yb:=ha.cU;have ui:=hb.cU;have WD:=ha.s;have Fo:=hb.s;obtain ⟨m,WH,lf,OL⟩:=Ov (Ou (show 512<(aj a.L (pn a b) ⟨a.st,b.st⟩ (a.n*b.n)).length from hn)) (by omega);refine af7 ?_;unfold WW;refine bs xB (bF rfl ?_);refine bF (cJ (by omega)) ?_;refine bF (cJ (by omega)) ?_;refine bT (by rw[km (show a.st≤_ by omega),km (show b.st≤_ by omega)];rfl) ?_;have key: ∃r,Loop (wv CC (op:Int) (a.L:Int) (a.st:Int) a.bI a.bz (b.L:Int) (b.st:Int) b.bI b.bz 0 0 (a.L:Int) 0 ([]:List V) ([]:List V)) (0,pS [⟨a.st,b.st⟩],pM [⟨a.st,b.st⟩],([]:List V),([]:List V))=some r∧r=(.inl (3,0,0,[],[])):=by
  refine uE (fun i st=> ∃l3 l4:List V,l3.length=i∧l4.length=i∧st=((i:Int),pS (aj a.L (pn a b) ⟨a.st,b.st⟩ i),pM (aj a.L (pn a b) ⟨a.st,b.st⟩ i),l3,l4)) _ m 0 _ (fun i _ hi st b9=> ?_) (fun st b9=> ?_) ⟨[],[],rfl,rfl,rfl⟩
  ·obtain ⟨l3,l4,e3,e4,rfl⟩:=b9;obtain ⟨h1,h2⟩:=lf i (by omega);obtain ⟨x,y,h4⟩:=(aiA ha hb hL ho h1 h2 (k1:=(a.st:Int)) (k2:=(b.L:Int)) (k3:=(b.st:Int)) (k4:=0) (l1:=[]) (l2:=[]) (l3:=l3) (l4:=l4) (by omega) (by omega)).1 (lf (i+1) (by omega)).2;exact ⟨_,h4,_,_,by simp[e3],by simp[e4],rfl⟩
  ·obtain ⟨l3,l4,e3,e4,rfl⟩:=b9;rw[ed] at*
   obtain ⟨h1,h2⟩:=lf m (by omega);exact ⟨_,(aiA ha hb hL ho h1 h2 (k1:=(a.st:Int)) (k2:=(b.L:Int)) (k3:=(b.st:Int)) (k4:=0) (l1:=[]) (l2:=[]) (l3:=l3) (l4:=l4) (by omega) (by omega)).2 OL,rfl⟩
 obtain ⟨r,h1,rfl⟩:=key;refine bs h1 ?_;rfl
theorem aiB (ho:op≤15) (hn:iF (minD a) (minD b)): ∃X,CC Cu (dN a (dN b [.int .i64 (op:Int)]))=some (lX X 3):=by
 refine ⟨zD,agf ?_⟩;unfold WZ;refine bs (mL ha) ?_;refine bs (mL hb) ?_;refine bs (axc (fc ha) (fc hb) (tf ha hb hL) ho hn (aga (fc ha) (fc hb) (tf ha hb hL))) (bT rfl ?_);rfl
end
theorem aiC (m:Int) (h0:0≤m) (h:m<1000000): ∃v:Int,CC xE [.int .i64 m]=some [.int .u64 v]:=by
 refine ⟨wrap .u64 (1*2^(min m.toNat (IntKind.bits .u64))),agL ?_⟩;unfold Xd;have e:wrap .u64 m=m:=by rw[wrap_u64];omega
 rw[e];exact bT (bU h0) rfl
theorem aiD {a:Da} (h:a.Ok): ∃(s F:Int) (l:LV),CC Cv (dh a)=some [.int .i64 (a.L:Int),.int .i64 (a.n:Int),.int .u64 s,.int .u64 F,.list bu l]:=by
 have h6:=h.l6;have hm:=h.cU;have b9:=h.s;obtain ⟨s,es⟩:=aiC (a.st:Int) (by omega) (by omega);suffices key: ∃r:Int×Bool×Int×LV,Loop (A9 CC (a.n:Int) (a.L:Int) (a.st:Int) a.bI a.bz 0 0 0 0 (a.L:Int) (a.n:Int) s ([]:LV)) (0,0,([]:LV))=some r∧True by
  obtain ⟨⟨r1,r2,r3,r4⟩,e,_⟩:=key;refine ⟨s,r3,r4,aic ?_⟩;unfold Yg;refine bs es ?_;rw[show a.bI.length=a.n from db];refine bs e ?_;rfl
 refine uE (fun i x=> ∃(F:Int) (l:List Ed),l.length=i*a.L∧x=((i:Int),F,l.map Ed.enc)) _ a.n 0 _ (fun p _ hp x hx=> ?_) (fun x hx=> ?_) ⟨0,[],by simp,rfl⟩
 ·obtain ⟨F,l,hl,rfl⟩:=hx;rw[ed] at hp;have qe:l.length≤512*6:=by rw[hl];exact Nat.mul_le_mul (by omega) h6
  have key: ∀(F:Int),((idx a.bz (p:Int)).bind fun x5=>
   (Loop (A8 CC (p:Int) (a.n:Int) (p:Int) x5.toList (x5.toList.length:Int) (a.L:Int) (a.st:Int) a.bI a.bz 0 0 0 0 (a.L:Int) (a.n:Int) s F ([]:LV)) (0,l.map Ed.enc)).bind (un fun (kL:Int)=>un fun (oh:Bool) (A6:LV)=>
    some (Sum.inl (wrap .i64 ((p:Int)+1),F,A6):(Int×Int×LV) ⊕ (Int×Bool×Int×LV))))=some (Sum.inl (((p+1:Nat):Int),F,(l++tab a.L fun x=>gI p x (a.nx p x)).map Ed.enc)):=by
   intro F;refine bs (nr hp) ?_;rw[show (ew a.L (a.nx p)).toList=tab a.L fun x=>nV (a.nx p x) from rfl,db];refine bs (yr a.L (fun i=>((i:Int),(l++tab i fun x=>gI p x (a.nx p x)).map Ed.enc)) ((a.L:Int),false,(l++tab a.L fun x=>gI p x (a.nx p x)).map Ed.enc) (by rw[Hd,j4];rfl) (fun x hx=> ?_) ?_) ?_
   ·simp only[A8,A7,un];refine bT (cO hx) ?_;refine bs (nr hx) ?_;refine bT (cap (by rw[cH,dd,db];simp;omega) (by omega)) ?_;rw[show (nV (a.nx p x)).toInt=((a.nx p x:Nat):Int) from rfl,JL,cG (by omega),gi,←fJ]
   ·simp only[A8,A7,un];refine bF (bt (az _)) ?_;rw[bt (az _)]
   ·simp only[un];rw[cG (by omega)]
  have Dd:(l++tab a.L fun x=>gI p x (a.nx p x)).length=(p+1)*a.L:=by rw[dd,db,hl,yD]
  cases hf:a.fin p with
  | true=>
   obtain ⟨v,ev⟩:=aiC (p:Int) (by omega) (by omega);refine ⟨(((p+1:Nat):Int),wrap .u64 ((BitVec.ofInt (IntKind.bits .u64) F|||BitVec.ofInt (IntKind.bits .u64) v).toNat),(l++tab a.L fun x=>gI p x (a.nx p x)).map Ed.enc),?_,_,_,Dd,rfl⟩;simp only[A9,yq,un];refine bT (cO hp) ?_;refine bs (nr hp) ?_;unfold DT;refine bT (by rw[V.mE];exact hf) (bs ev ?_);exact key _
  | false=>
   refine ⟨(((p+1:Nat):Int),F,(l++tab a.L fun x=>gI p x (a.nx p x)).map Ed.enc),?_,_,_,Dd,rfl⟩;simp only[A9,yq,un];refine bT (cO hp) ?_;refine bs (nr hp) ?_;unfold DT;refine bF (by rw[V.mE];exact hf) ?_;exact key _
 ·obtain ⟨F,l,hl,rfl⟩:=hx;rw[ed] at*
  refine ⟨((a.n:Int),false,F,l.map Ed.enc),?_,trivial⟩;simp only[A9,yq,un];refine bF (bt (az _)) ?_;rw[bt (az _)]
theorem axd {a b:Da} (ha:a.Ok) (hb:b.Ok) (hs:64<(minD a).n+(minD b).n):CC F6 (dN a (dh b))=some (lX zD 3):=by
 have h1:=(fc ha).cU;have h2:=(fc hb).cU;obtain ⟨s,F,l,e1⟩:=aiD (fc ha);obtain ⟨s2,F2,l2,e2⟩:=aiD (fc hb);refine aip ?_;unfold Yt aq;refine bs (mL ha) ?_;refine bs (mL hb) ?_;refine bs e1 ?_;refine bs e2 ?_;simp only[V.ct,mq,jZ,V.toInt_int];rw[qP (by omega)];refine bT (bU (by omega)) ?_;rfl
theorem axe {a:Da} (h:a.Ok):CC My (dh a)=some (dh (a.qQ fun q=> !(a.fin q))):=by
 have hm:=h.cU;have h6:=h.l6;refine aw8 ?_;unfold aiy;rw[Da.pN];refine bs (eh a.n (fun i=>((i:Int),(tab i fun q=>V.bool (!(a.fin q))),(tab i fun q=>ew a.L (a.nx q)))) ((a.n:Int),false,(bV a.n fun q=> !(a.fin q)),a.bz) (fun q hq=> ?_) ?_) ?_
 ·simp only[Yx,JS,un];refine bT (cO hq) ?_;refine bs (Da.nt hq) ?_;refine bT (cap (by rw[db];simp;omega) (by omega)) ?_;refine bs (Da.jU hq) ?_;rw[kj,db];refine bT (by rw[fp,wc];simp;omega) ?_;refine bT (cap (by rw[db];simp;omega) (by omega)) ?_;rw[cG (by omega),gi,gi];rfl
 ·simp only[Yx,JS,un];refine bF (bt (az _)) ?_;rw[bt (az _)];rfl
 ·unfold dh dN;rw[Da.ait,Da.aiu];rfl
def JT (C:ae) (to t13 t14:Int) (rows:LV) {β:Type} (kn:(Int×LV)→Option β) (kr:(Int×Bool×LV)→Option β):Option β:=
 bif decide (t14<t13) then
  aq rows t14 fun x1=>
  kn (wrap .i64 (t14+1),aI rows t14 (V.int .i64 to))
 else
  kr (t14,decide (t14<t13),rows)
def Yz (C:ae) (to t13:Int):=un fun t14 rows=>JT C to t13 t14 rows (fun y=>some (Sum.inl y)) (fun r=>some (Sum.inr r))
def axf (C:ae):cE:=bG 49 UA [EQ,EQ,H1,H1] [[1,2,0,0,0]] (@JT C) bm
theorem axg (C:ae):aW C (axf C) 63 (Lp [1,1,0,1,0,0] 63):=bE UA [EQ,EQ,H1,H1] [[1,2,0,0,0]] (@JT C) (aG an)
def aiE (C:ae) (b' to:Int):Option LV:=
 bif (decide (0≤b'))&&((decide (b'≤b'))&&(Nat.ble ((b'.toNat)*8) aX)) then
  (Loop (Yz C to ((List.replicate (b'.toNat) (V.int .i64 0)).length:Int)) (0,List.replicate (b'.toNat) (V.int .i64 0))).bind (un fun Xb=>un fun (lr:Bool) (axh:LV)=>
   some [.list aF axh])
 else none
theorem axi {b' to:Int} {r:Option LV} (h:aiE CC b' to=r):CC vW [V.int .i64 b',V.int .i64 to]=r:=bj (aU (axg CC) an) h
def mf (L:Nat) (b:Bool):Da:=⟨L,0,[b],[List.replicate L 0]⟩
def mg (L:Nat):Da:=⟨L,0,[true,false],[List.replicate L 1,List.replicate L 1]⟩
def jY (L x:Nat):Da:=⟨L,0,[EQ,H1,EQ],[tab L fun y=>if y=x then 1 else 2,List.replicate L 2,List.replicate L 2]⟩
theorem Bb {L:Nat} {b:Bool} (h1:1≤L) (h2:L≤6):(mf L b).Ok where
 l1:=h1
 l6:=h2
 nN:=rfl
 row:=fun r hr=>by
  obtain rfl:r=List.replicate L 0:=by simpa[mf] using hr
  exact ⟨by simp[mf],fun q hq=>by have:=List.eq_of_mem_replicate hq;subst this;exact (show 0<1 by decide)⟩
 s:=by show 0<1;omega
 cU:=by show 1≤512;omega
theorem PN {L:Nat} (h1:1≤L) (h2:L≤6):(mg L).Ok where
 l1:=h1
 l6:=h2
 nN:=rfl
 row:=fun r hr=>by
  obtain rfl:r=List.replicate L 1:=by simpa[mg] using hr
  exact ⟨by simp[mg],fun q hq=>by have:=List.eq_of_mem_replicate hq;subst this;exact (show 1<2 by decide)⟩
 s:=by show 0<2;omega
 cU:=by show 2≤512;omega
theorem YA {L x:Nat} (h1:1≤L) (h2:L≤6):(jY L x).Ok where
 l1:=h1
 l6:=h2
 nN:=rfl
 row:=fun r hr=>by
  have hn:(jY L x).n=3:=rfl;have hl:(jY L x).L=L:=rfl;rw[hn,hl];have:r=(tab L fun y=>if y=x then 1 else 2)∨r=List.replicate L 2:=by simpa[jY] using hr
  rcases this with rfl|rfl
  ·refine ⟨db,fun q hq=> ?_⟩;obtain ⟨y,_,rfl⟩:=uD.1 hq;split<;>omega
  ·exact ⟨by simp,fun q hq=>by have:=List.eq_of_mem_replicate hq;omega⟩
 s:=by show 0<3;omega
 cU:=by show 3≤512;omega
theorem DX {L:Nat} {b:Bool} (h:L=1∨L=2):minD (mf L b)=mf L b:=by
 have aw:(mf L b).Ok:=Bb (by omega) (by omega);refine (AB aw ⟨aw,rfl,rfl,?_,fun p q hp hq _=> ?_,fun _ _=>rfl⟩).symm
 ·rcases h with rfl|rfl<;>cases b<;>exact ⟨by decide,by decide,by decide⟩
 ·have h1:p<1:=hp;have h2:q<1:=hq;omega
theorem YB {L:Nat} (h:L=1∨L=2):minD (mg L)=mg L:=by
 have aw:(mg L).Ok:=PN (by omega) (by omega);refine (AB aw ⟨aw,rfl,rfl,?_,fun p q hp hq he=> ?_,fun _ _=>rfl⟩).symm
 ·rcases h with rfl|rfl<;>exact ⟨by decide,by decide,by decide⟩
 ·have h1:p<2:=hp;have h2:q<2:=hq;have h3:=he [] WL.nil;rcases (by omega:p=0∨p=1) with rfl|rfl<;>rcases (by omega:q=0∨q=1) with rfl|rfl
  ·rfl
  ·cases h3
  ·cases h3
  ·rfl
def nD (a:Da):Da:=a.qQ fun q=> !(a.fin q)
theorem JU {a:Da} (h:a.Ok):(nD a).Ok:=h.qQ
theorem YC {a:Da} (h:a.Ok) (hm:minD a=a):minD (nD a)=nD a:=by
 have hc:=AA h;rw[hm] at hc;have b9:a.st=0:=hc.st;have hn:(nD a).n=a.n:=Da.Ba;have zJ: ∀q,q<a.n→∀w,WL a.L w→(nD a).acc q w= !(a.acc q w):=fun q hq w hw=>Da.aw1 h hq hw;have kF:(nD a).pos=a.pos:=rfl;have YD: ∀t,(nD a).mt t=a.mt t:=by
  intro t
  induction t with
  | zero=>rfl
  | succ t ih=>
   show (if (nD a).pos t=(nD a).mt t then (nD a).mt t+1 else (nD a).mt t)=(if a.pos t=a.mt t then a.mt t+1 else a.mt t)
   rw[ih,kF]
 have axj:(nD a).VM:=by
  refine ⟨fun t ht=> ?_,fun q hq=> ?_,?_⟩
  ·rw[YD,kF];exact hc.num.le t (by rw[hn] at ht;exact ht)
  ·rw[YD];exact hc.num.row q (by rw[hn] at hq;exact hq)
  ·rw[YD,hn];exact hc.num.all
 refine (AB (JU h) ⟨JU h,rfl,b9,axj,fun p q hp hq he=> ?_,fun w hw=> ?_⟩).symm
 ·rw[hn] at hp hq;refine hc.red p q hp hq fun w hw=> ?_;have:=he w hw;rw[zJ p hp w hw,zJ q hq w hw] at this;exact Bool.not_inj this
 ·rw[show (nD a).st=0 from b9]
theorem JV {L v:Nat} {f:Nat→Nat} (h: ∀x,x<L→f x=v):ew L f= .list aF (List.replicate L (.int .i64 (v:Int))):=by
 unfold ew;rw[lx];exact congrArg _ (dR fun x hx=>by rw[h x hx])
theorem JW {L v x:Nat} (h:x<L):(List.replicate L v).getD x 0=v:=by simp[List.getD,h]
theorem aiF {L:Nat} {b:Bool}:(mf L b).bz=[.list aF (List.replicate L (.int .i64 0))]:=by
 have:(mf L b).bz=[ew L ((mf L b).nx 0)]:=rfl;rw[this,JV (L:=L) (f:=(mf L b).nx 0) (v:=0) fun x hx=>JW hx];rfl
theorem aiG {L:Nat}:(mg L).bz=[.list aF (List.replicate L (.int .i64 1)),.list aF (List.replicate L (.int .i64 1))]:=by
 have:(mg L).bz=[ew L ((mg L).nx 0),ew L ((mg L).nx 1)]:=rfl;rw[this,JV (f:=(mg L).nx 0) (v:=1) fun x hx=>JW hx,JV (f:=(mg L).nx 1) (v:=1) fun x hx=>JW hx];rfl
theorem aiH {L x:Nat}:(jY L x).bz=[.list aF (tab L fun y=>iV ((if y=x then 1 else 2:Nat):Int)),.list aF (List.replicate L (.int .i64 2)),.list aF (List.replicate L (.int .i64 2))]:=by
 have:(jY L x).bz=[ew L ((jY L x).nx 0),ew L ((jY L x).nx 1),ew L ((jY L x).nx 2)]:=rfl;rw[this,JV (f:=(jY L x).nx 1) (v:=2) fun x hx=>JW hx,JV (f:=(jY L x).nx 2) (v:=2) fun x hx=>JW hx];congr 1;unfold ew;exact congrArg _ (dR fun y hy=>by rw[show (jY L x).nx 0 y=(tab L fun y=>if y=x then 1 else 2).getD y 0 from rfl,xT hy])
theorem DY {L t:Nat} (h:L≤1000):CC vW [.int .i64 (L:Int),.int .i64 (t:Int)]=some [.list aF (List.replicate L (.int .i64 (t:Int)))]:=by
 refine axi ?_;unfold aiE;refine bT (mG (by omega) (by omega)) ?_;rw[Int.toNat_natCast,Bi];have e0:(List.replicate L (V.int .i64 0))=tab L fun j=>if j<0 then V.int .i64 (t:Int) else V.int .i64 0:=by
  rw[lx];exact dR fun j _=>by rw[ag (by omega)]
 rw[e0];refine bs (eh L (fun i=>((i:Int),tab L fun j=>if j<i then V.int .i64 (t:Int) else V.int .i64 0)) ((L:Int),false,List.replicate L (.int .i64 (t:Int))) (fun i hi=> ?_) ?_) rfl
 ·simp only[Yz,JT,un,aq,aI];refine bT (cO hi) ?_;refine (fv hi).trans ?_;rw[cG (by omega),Int.toNat_natCast,nq];refine congrArg (fun z=>some (Sum.inl (((i+1:Nat):Int),z))) (dR fun j _=> ?_);by_cases h1:j=i
  ·rw[ah h1,ah (by omega)]
  ·rw[ag h1];by_cases h2:j<i
   ·rw[ah h2,ah (by omega)]
   ·rw[ag h2,ag (by omega)]
 ·simp only[Yz,JT,un,aq,aI];refine bF (bt (az _)) ?_;rw[bt (az _),lx];refine congrArg (fun z=>some (Sum.inr ((L:Int),false,z))) (dR fun j hj=> ?_);rw[ah hj]
inductive wK (K:List Nat→Prop):List Nat→Prop
 | nil:wK K []
 | app {u v:List Nat}:u≠[]→K u→wK K v→wK K (u++v)
section
variable {K:List Nat→Prop}
theorem wK.one {w:List Nat} (h:K w):wK K w:=by
 by_cases hw:w=[]
 ·rw[hw];exact .nil
 ·have:=wK.app hw h .nil;rwa [j4] at this
theorem wK.ext {K2:List Nat→Prop} {L:Nat} (h: ∀u,WL L u→(K u↔K2 u)) {w:List Nat} (hw:WL L w):wK K w↔wK K2 w:=by
 constructor
 ·intro hr
  induction hr with
  | nil=>exact .nil
  | app g1 g2 _ ih=>exact .app g1 ((h _ (WL.app.1 hw).1).1 g2) (ih (WL.app.1 hw).2)
 ·intro hr
  induction hr with
  | nil=>exact .nil
  | app g1 g2 _ ih=>exact .app g1 ((h _ (WL.app.1 hw).1).2 g2) (ih (WL.app.1 hw).2)
end
section
variable {m:Da} (hm:m.Ok)
include hm
end
section
variable {m:Da} (hm:m.Ok)
include hm
end
def Ed.rev (e:Ed):Ed:=⟨e.t,e.l,e.f⟩
@[simp] theorem Ed.rev_rev (e:Ed):e.rev.rev=e:=rfl
theorem WL.rev {L:Nat} {w:List Nat} (h:WL L w):WL L w.reverse:=fun x hx=>h x (List.mem_reverse.1 hx)
section
variable {m:Da} (hm:m.Ok)
include hm
end
section
variable {m:Da} (hm:m.Ok)
include hm
end
end Go.AM
set_option maxRecDepth 100000
namespace Go.AM
open Go.IntKind (wrap)
open Go.Proofs
namespace Da
end Da
structure tv (X:Da) (L:Nat) (K:List Nat→Prop):Prop where
 ok:X.Ok
 hL:X.L=L
 min:minD X=X
 rG: ∀w,WL L w→(X.acc X.st w=true↔K w)
theorem tv.eq {X Y:Da} {L:Nat} {K K':List Nat→Prop} (h:tv X L K) (h':tv Y L K') (e: ∀w,WL L w→(K w↔K' w)):X=Y:=by
 rw[←h.min,←h'.min];refine agc h.ok h'.ok (h.hL.trans h'.hL.symm) fun w hw=> ?_;have nh:WL L w:=h.hL▸hw;rw[nL,h.rG w nh,h'.rG w nh,e w nh]
theorem tv.ext {X:Da} {L:Nat} {K K':List Nat→Prop} (h:tv X L K) (e: ∀w,WL L w→(K w↔K' w)):tv X L K':=⟨h.ok,h.hL,h.min,fun w hw=>(h.rG w hw).trans (e w hw)⟩
theorem tv.acc {X:Da} {L:Nat} {K:List Nat→Prop} (h:tv X L K) {w:List Nat} (hw:WL L w) {b:Bool} (e:K w↔b=true):X.acc X.st w=b:=by
 rw[nL,h.rG w hw,e]
section
variable {L S st fin:Nat} {l:List Ed} (h:A4 L S st fin l)
include h
theorem axk (hn: ¬jV (dZ L S st fin l) L S):tv (iz (dZ L S st fin l) L S) L (JN st fin l) where
 ok:=awF h hn
 hL:=awG h hn
 min:=by
  unfold iz;rw[ag hn];exact O4 (AN (uW h) hn)
 rG:=fun _ hw=>awH h hn hw
theorem axl (hn: ¬jV (dZ L S st fin l) L S):(iz (dZ L S st fin l) L S).n≤2^S:=by
 have h1:=ar4 (AN (uW h) hn);have h2:=Dp (uW h) (2^S);have h3:(ib (dZ L S st fin l) L S).n=(fO (dZ L S st fin l) L S).length:=np;unfold iz;rw[ag hn];unfold fO at h3;omega
theorem aiI:(mQ (dZ L S st fin l) L S=0∧tv (iz (dZ L S st fin l) L S) L (JN st fin l)∧(iz (dZ L S st fin l) L S).n≤2^S)∨(mQ (dZ L S st fin l) L S=3∧iz (dZ L S st fin l) L S=zD∧9<S):=by
 by_cases hn:jV (dZ L S st fin l) L S
 ·refine .inr ⟨ah hn,ah hn,?_⟩;rcases fI 9 S with c|c
  ·exact c
  ·exact absurd hn (awI h c)
 ·exact .inl ⟨ag hn,axk h hn,axl h hn⟩
end
def aiJ (r:Option (List V)) (L S:Nat) (K:List Nat→Prop):Prop:=(∃X,r=some (lX X 0)∧tv X L K∧X.n≤2^S)∨(r=some (lX zD 3)∧9<S)
theorem aiJ.of {L S st fin:Nat} {l:List Ed} (h:A4 L S st fin l) {r:Option (List V)} (e:r=some (lX (iz (dZ L S st fin l) L S) (mQ (dZ L S st fin l) L S))) {K:List Nat→Prop} (hK: ∀w,WL L w→(JN st fin l w↔K w)):aiJ r L S K:=by
 rcases aiI h with ⟨h1,h2,h3⟩|⟨h1,h2,h3⟩
 ·exact .inl ⟨_,by rw[e,h1],h2.ext hK,h3⟩
 ·exact .inr ⟨by rw[e,h1,h2],h3⟩
end Go.AM
set_option maxRecDepth 100000
namespace Go.AM
open Go.IntKind (wrap)
open Go.Proofs
def aiK (C:ae) (all:Bool) (dC:Int) (aR ca bC:LV):Option LV:=
 (C vW [V.int .i64 dC,V.int .i64 0]).bind fun r1=>
 some [V.int .i64 dC,V.int .i64 0,V.int .i64 dC,.list dX ca,.list dY bC,.list ao ([.bool all]:LV),.list ar ([.list aF ((V.nth r1 0).toList)]:LV),.list dA aR]
theorem axm {all:Bool} {dC:Int} {aR ca bC:LV} {r:Option LV} (h:aiK CC all dC aR ca bC=r):CC Gc [.bool all,V.int .i64 dC,.list dA aR,.list dX ca,.list dY bC]=r:=bj (L:=bm) an h
def aiL (C:ae) (dC:Int) (aR ca bC:LV):Option LV:=
 (C vW [V.int .i64 dC,V.int .i64 1]).bind fun r1=>
 (C vW [V.int .i64 dC,V.int .i64 1]).bind fun r2=>
 some [V.int .i64 dC,V.int .i64 0,V.int .i64 dC,.list dX ca,.list dY bC,.list ao ([.bool true,.bool false]:LV),.list ar ([.list aF ((V.nth r1 0).toList),.list aF ((V.nth r2 0).toList)]:LV),.list dA aR]
theorem axn {dC:Int} {aR ca bC:LV} {r:Option LV} (h:aiL CC dC aR ca bC=r):CC ML [V.int .i64 dC,.list dA aR,.list dX ca,.list dY bC]=r:=bj (L:=bm) an h
def aiM (C:ae) (a dC:Int) (aR ca bC:LV):Option LV:=
 (C vW [V.int .i64 dC,V.int .i64 2]).bind fun r1=>
 aq ((V.nth r1 0).toList) a fun x2=>
 (C vW [V.int .i64 dC,V.int .i64 2]).bind fun r3=>
 (C vW [V.int .i64 dC,V.int .i64 2]).bind fun r4=>
 (C vX [V.int .i64 dC,V.int .i64 0,.list ao ([.bool false,.bool true,.bool false]:LV),.list ar ([.list aF (aI ((V.nth r1 0).toList) a (V.int .i64 1)),.list aF ((V.nth r3 0).toList),.list aF ((V.nth r4 0).toList)]:LV)]).bind fun r5=>
 some [V.int .i64 ((V.nth r5 0).toInt),V.int .i64 ((V.nth (r5.drop 1) 0).toInt),V.int .i64 dC,.list dX ca,.list dY bC,.list ao ((V.nth (r5.drop 2) 0).toList),.list ar ((V.nth ((r5.drop 2).drop 1) 0).toList),.list dA aR]
theorem axo {a dC:Int} {aR ca bC:LV} {r:Option LV} (h:aiM CC a dC aR ca bC=r):CC MM [V.int .i64 a,V.int .i64 dC,.list dA aR,.list dX ca,.list dY bC]=r:=bj (L:=bm) an h
def aiN (C:ae) (cl cQ cv cW dC:Int) (aR ca bC:LV):Option LV:=
 bif cl==1 then
  (C Gc [.bool false,V.int .i64 dC,.list dA aR,.list dX ca,.list dY bC]).bind fun r1=>
  some [V.int .i64 ((V.nth r1 0).toInt),V.int .i64 ((V.nth (r1.drop 1) 0).toInt),V.int .i64 0,V.int .i64 ((V.nth (r1.drop 2) 0).toInt),.list dX ((V.nth ((r1.drop 2).drop 1) 0).toList),.list dY ((V.nth (((r1.drop 2).drop 1).drop 1) 0).toList),.list ao ((V.nth ((((r1.drop 2).drop 1).drop 1).drop 1) 0).toList),.list ar ((V.nth (((((r1.drop 2).drop 1).drop 1).drop 1).drop 1) 0).toList),.list dA ((V.nth ((((((r1.drop 2).drop 1).drop 1).drop 1).drop 1).drop 1) 0).toList)]
 else
  bif cl==2 then
  (C ML [V.int .i64 dC,.list dA aR,.list dX ca,.list dY bC]).bind fun r2=>
  some [V.int .i64 ((V.nth r2 0).toInt),V.int .i64 ((V.nth (r2.drop 1) 0).toInt),V.int .i64 0,V.int .i64 ((V.nth (r2.drop 2) 0).toInt),.list dX ((V.nth ((r2.drop 2).drop 1) 0).toList),.list dY ((V.nth (((r2.drop 2).drop 1).drop 1) 0).toList),.list ao ((V.nth ((((r2.drop 2).drop 1).drop 1).drop 1) 0).toList),.list ar ((V.nth (((((r2.drop 2).drop 1).drop 1).drop 1).drop 1) 0).toList),.list dA ((V.nth ((((((r2.drop 2).drop 1).drop 1).drop 1).drop 1).drop 1) 0).toList)]
  else
  bif cl==3 then
   (C MM [V.int .i64 cQ,V.int .i64 dC,.list dA aR,.list dX ca,.list dY bC]).bind fun r3=>
   some [V.int .i64 ((V.nth r3 0).toInt),V.int .i64 ((V.nth (r3.drop 1) 0).toInt),V.int .i64 0,V.int .i64 ((V.nth (r3.drop 2) 0).toInt),.list dX ((V.nth ((r3.drop 2).drop 1) 0).toList),.list dY ((V.nth (((r3.drop 2).drop 1).drop 1) 0).toList),.list ao ((V.nth ((((r3.drop 2).drop 1).drop 1).drop 1) 0).toList),.list ar ((V.nth (((((r3.drop 2).drop 1).drop 1).drop 1).drop 1) 0).toList),.list dA ((V.nth ((((((r3.drop 2).drop 1).drop 1).drop 1).drop 1).drop 1) 0).toList)]
  else
   bif cl==4 then
   (C Gc [.bool true,V.int .i64 dC,.list dA aR,.list dX ca,.list dY bC]).bind fun r4=>
   some [V.int .i64 ((V.nth r4 0).toInt),V.int .i64 ((V.nth (r4.drop 1) 0).toInt),V.int .i64 0,V.int .i64 ((V.nth (r4.drop 2) 0).toInt),.list dX ((V.nth ((r4.drop 2).drop 1) 0).toList),.list dY ((V.nth (((r4.drop 2).drop 1).drop 1) 0).toList),.list ao ((V.nth ((((r4.drop 2).drop 1).drop 1).drop 1) 0).toList),.list ar ((V.nth (((((r4.drop 2).drop 1).drop 1).drop 1).drop 1) 0).toList),.list dA ((V.nth ((((((r4.drop 2).drop 1).drop 1).drop 1).drop 1).drop 1) 0).toList)]
   else
   bif cl==5 then
    aq aR cv fun x5=>
    aq aR cW fun x6=>
    (C Cw [V.int .i64 ((x5.cell 0).toInt),V.int .i64 ((x5.cell 1).toInt),.list ao ((x5.cell 2).toList),.list ar ((x5.cell 3).toList),V.int .i64 ((x6.cell 0).toInt),V.int .i64 ((x6.cell 1).toInt),.list ao ((x6.cell 2).toList),.list ar ((x6.cell 3).toList),V.int .i64 14]).bind fun r7=>
    some [V.int .i64 ((V.nth r7 0).toInt),V.int .i64 ((V.nth (r7.drop 1) 0).toInt),V.int .i64 ((V.nth (r7.drop 2) 0).toInt),V.int .i64 dC,.list dX ca,.list dY bC,.list ao ((V.nth (r7.drop 3) 0).toList),.list ar ((V.nth ((r7.drop 3).drop 1) 0).toList),.list dA aR]
   else
    bif cl==6 then
    aq aR cv fun x8=>
    aq aR cW fun x9=>
    (C Cw [V.int .i64 ((x8.cell 0).toInt),V.int .i64 ((x8.cell 1).toInt),.list ao ((x8.cell 2).toList),.list ar ((x8.cell 3).toList),V.int .i64 ((x9.cell 0).toInt),V.int .i64 ((x9.cell 1).toInt),.list ao ((x9.cell 2).toList),.list ar ((x9.cell 3).toList),V.int .i64 8]).bind fun JX=>
    some [V.int .i64 ((V.nth JX 0).toInt),V.int .i64 ((V.nth (JX.drop 1) 0).toInt),V.int .i64 ((V.nth (JX.drop 2) 0).toInt),V.int .i64 dC,.list dX ca,.list dY bC,.list ao ((V.nth (JX.drop 3) 0).toList),.list ar ((V.nth ((JX.drop 3).drop 1) 0).toList),.list dA aR]
    else
    bif cl==7 then
     aq aR cv fun gl=>
     aq aR cW fun lA=>
     (C Ge [V.int .i64 ((gl.cell 0).toInt),V.int .i64 ((gl.cell 1).toInt),.list ao ((gl.cell 2).toList),.list ar ((gl.cell 3).toList),V.int .i64 ((lA.cell 0).toInt),V.int .i64 ((lA.cell 1).toInt),.list ao ((lA.cell 2).toList),.list ar ((lA.cell 3).toList)]).bind fun qE=>
     some [V.int .i64 ((V.nth qE 0).toInt),V.int .i64 ((V.nth (qE.drop 1) 0).toInt),V.int .i64 ((V.nth (qE.drop 2) 0).toInt),V.int .i64 dC,.list dX ca,.list dY bC,.list ao ((V.nth (qE.drop 3) 0).toList),.list ar ((V.nth ((qE.drop 3).drop 1) 0).toList),.list dA aR]
    else
     aq aR cv fun ko=>
     (C MN [V.int .i64 ((ko.cell 0).toInt),V.int .i64 ((ko.cell 1).toInt),.list ao ((ko.cell 2).toList),.list ar ((ko.cell 3).toList)]).bind fun fy=>
     some [V.int .i64 ((V.nth fy 0).toInt),V.int .i64 ((V.nth (fy.drop 1) 0).toInt),V.int .i64 0,V.int .i64 dC,.list dX ca,.list dY bC,.list ao ((V.nth (fy.drop 2) 0).toList),.list ar ((V.nth ((fy.drop 2).drop 1) 0).toList),.list dA aR]
theorem axp {cl cQ cv cW dC:Int} {aR ca bC:LV} {r:Option LV} (h:aiN CC cl cQ cv cW dC aR ca bC=r):CC ME [V.int .i64 cl,V.int .i64 cQ,V.int .i64 cv,V.int .i64 cW,V.int .i64 dC,.list dA aR,.list dX ca,.list dY bC]=r:=bj (L:=bm) an h
open Classical in
def gB (L op x:Nat) (p q:Da):Option Da:=
 if op=1 then some (mf L false) else if op=2 then some (mg L) else if op=3 then some (minD (jY L x)) else if op=4 then some (mf L true)
 else if op=5 then (if iF (minD p) (minD q) then none else some (wx p q 14))
 else if op=6 then (if iF (minD p) (minD q) then none else some (wx p q 8))
 else if op=7 then (if 64<(minD p).n+(minD q).n then none else if mQ (me (minD p) (minD q)) p.L ((minD p).n+(minD q).n)=0 then some (iz (me (minD p) (minD q)) p.L ((minD p).n+(minD q).n)) else none)
 else some (nD p)
def fe (A:List Da):LV:=A.map fun X=> .agg (dh X)
def axq (L:Nat) (m2 m3 A:LV):Option Da→LV
 | some X=>[.int .i64 (X.L:Int),.int .i64 (X.st:Int),.int .i64 0,.int .i64 (L:Int),.list dX m2,.list dY m3,.list ao X.bI,.list ar X.bz,.list dA A]
 | none=>[.int .i64 0,.int .i64 0,.int .i64 3,.int .i64 (L:Int),.list dX m2,.list dY m3,.list ao [],.list ar [],.list dA A]
structure Gd (X:Da) (L:Nat):Prop where
 ok:X.Ok
 hL:X.L=L
 min:minD X=X
theorem YE {p q:Da} (hp:p.Ok) (hq:q.Ok) (hL:p.L=q.L) (hs:(minD p).n+(minD q).n≤64):
  (mQ (me (minD p) (minD q)) p.L ((minD p).n+(minD q).n)=0∧Gd (iz (me (minD p) (minD q)) p.L ((minD p).n+(minD q).n)) p.L)∨(mQ (me (minD p) (minD q)) p.L ((minD p).n+(minD q).n)=3∧iz (me (minD p) (minD q)) p.L ((minD p).n+(minD q).n)=zD):=by
 have hr:=PH (fc hp) (fc hq) (by rw[ot hp,ot hq,hL]) hs;have h1:=aiI hr;have e:dZ (minD p).L ((minD p).n+(minD q).n) (wJ (minD p) (minD q)) (DU (minD p) (minD q)) (yv (minD p) (minD q))=me (minD p) (minD q):=rfl;rw[e,ot hp] at h1;rcases h1 with ⟨h1,h2,_⟩|⟨h1,h2,_⟩
 ·exact .inl ⟨h1,h2.ok,h2.hL,h2.min⟩
 ·exact .inr ⟨h1,h2⟩
section
variable {L x:Nat} {p q:Da}
theorem YF:gB L 1 x p q=some (mf L false):=rfl
theorem YG:gB L 2 x p q=some (mg L):=rfl
theorem YH:gB L 3 x p q=some (minD (jY L x)):=rfl
theorem YI:gB L 4 x p q=some (mf L true):=rfl
theorem axr (h:iF (minD p) (minD q)):gB L 5 x p q=none:=by simp[gB,h]
theorem YJ (h: ¬iF (minD p) (minD q)):gB L 5 x p q=some (wx p q 14):=by simp[gB,h]
theorem axs (h:iF (minD p) (minD q)):gB L 6 x p q=none:=by simp[gB,h]
theorem YK (h: ¬iF (minD p) (minD q)):gB L 6 x p q=some (wx p q 8):=by simp[gB,h]
theorem axt (h:64<(minD p).n+(minD q).n):gB L 7 x p q=none:=by simp[gB,h]
theorem axu (h: ¬64<(minD p).n+(minD q).n) (h1:mQ (me (minD p) (minD q)) p.L ((minD p).n+(minD q).n)=3):gB L 7 x p q=none:=by
 have e: ¬mQ (me (minD p) (minD q)) p.L ((minD p).n+(minD q).n)=0:=by rw[h1];decide
 simp[gB,h,e]
theorem YL (h: ¬64<(minD p).n+(minD q).n) (h1:mQ (me (minD p) (minD q)) p.L ((minD p).n+(minD q).n)=0):gB L 7 x p q=some (iz (me (minD p) (minD q)) p.L ((minD p).n+(minD q).n)):=by
 unfold gB;rw[ag (by omega),ag (by omega),ag (by omega),ag (by omega),ag (by omega),ag (by omega),ah rfl,ag h,ah h1]
theorem YM:gB L 8 x p q=some (nD p):=rfl
end
theorem PO {L op x:Nat} {p q X:Da} (hL:L=1∨L=2) (hp:5≤op→Gd p L) (hq:5≤op→op≠8→Gd q L) (h1:1≤op) (h8:op≤8) (h:gB L op x p q=some X):Gd X L:=by
 have hc: ∀{o:Nat},5≤op→op≠8→(¬iF (minD p) (minD q))→Gd (wx p q o) L:=fun {o} h5 h8 hn=>by
  have hp:=hp h5;have hq:=hq h5 h8;have iI:p.L=q.L:=by rw[hp.hL,hq.hL]
  exact ⟨ar6 hp.ok hq.ok iI hn,(ar7 hp.ok hq.ok iI hn).trans hp.hL,O4 (HZ (fc hp.ok) (fc hq.ok) (tf hp.ok hq.ok iI) hn)⟩
 unfold gB at h;split at h
 ·cases h;exact ⟨Bb (by omega) (by omega),rfl,DX hL⟩
 split at h
 ·cases h;exact ⟨PN (by omega) (by omega),rfl,YB hL⟩
 split at h
 ·cases h;have:=YA (L:=L) (x:=x) (by omega) (by omega);exact ⟨fc this,ot this,O4 this⟩
 split at h
 ·cases h;exact ⟨Bb (by omega) (by omega),rfl,DX hL⟩
 split at h
 ·split at h
  ·cases h
  ·cases h;exact hc (by omega) (by omega) (by assumption)
 split at h
 ·split at h
  ·cases h
  ·cases h;exact hc (by omega) (by omega) (by assumption)
 split at h
 ·split at h
  ·cases h
  ·have hp:=hp (by omega);have hq:=hq (by omega) (by omega);split at h
   ·rename_i h1;cases h;rcases YE hp.ok hq.ok (by rw[hp.hL,hq.hL]) (by omega) with ⟨_,h2⟩|⟨h2,_⟩
    ·exact ⟨h2.ok,h2.hL.trans hp.hL,h2.min⟩
    ·rw[h2] at h1;cases h1
   ·cases h
 ·cases h;have hp:=hp (by omega);exact ⟨JU hp.ok,hp.hL,YC hp.ok hp.min⟩
section
variable {L:Nat} (hL:L=1∨L=2) {A m2 m3:LV}
include hL
theorem aiO {b:Bool}:CC Gc [.bool b,.int .i64 (L:Int),.list dA A,.list dX m2,.list dY m3]=
  some [.int .i64 (L:Int),.int .i64 0,.int .i64 (L:Int),.list dX m2,.list dY m3,.list ao (mf L b).bI,.list ar (mf L b).bz,.list dA A]:=by
 refine axm ?_;unfold aiK;refine bs (DY (t:=0) (by omega)) ?_;rw[aiF];rfl
theorem axv:CC ML [.int .i64 (L:Int),.list dA A,.list dX m2,.list dY m3]=
  some [.int .i64 (L:Int),.int .i64 0,.int .i64 (L:Int),.list dX m2,.list dY m3,.list ao (mg L).bI,.list ar (mg L).bz,.list dA A]:=by
 refine axn ?_;unfold aiL;refine bs (DY (t:=1) (by omega)) ?_;refine bs (DY (t:=1) (by omega)) ?_;rw[aiG];rfl
theorem axw {x:Nat}:dh (jY L x)=[.int .i64 (L:Int),.int .i64 0,.list ao [.bool false,.bool true,.bool false],.list ar [.list aF (aI (List.replicate L (.int .i64 2)) (x:Int) (.int .i64 1)),.list aF (List.replicate L (.int .i64 2)),.list aF (List.replicate L (.int .i64 2))]]:=by
 unfold dh dN;rw[aiH];have e:(tab L fun y=>iV ((if y=x then 1 else 2:Nat):Int))=aI (List.replicate L (.int .i64 2)) (x:Int) (.int .i64 1):=by
  unfold aI;rw[lx,Int.toNat_natCast,nq];refine dR fun y _=> ?_;by_cases h:y=x
  ·rw[ah h,ah h];rfl
  ·rw[ag h,ag h];rfl
 rw[e];rfl
theorem axx {x:Nat} (hx:x<L):CC MM [.int .i64 (x:Int),.int .i64 (L:Int),.list dA A,.list dX m2,.list dY m3]=
  some [.int .i64 ((minD (jY L x)).L:Int),.int .i64 ((minD (jY L x)).st:Int),.int .i64 (L:Int),.list dX m2,.list dY m3,.list ao (minD (jY L x)).bI,.list ar (minD (jY L x)).bz,.list dA A]:=by
 have hm:=HV (YA (L:=L) (x:=x) (by omega) (by omega));rw[axw hL] at hm;refine axo ?_;unfold aiM aq;refine bs (DY (t:=2) (by omega)) ?_;refine (eu (i:=x) (v:= .int .i64 2) (by rw[V.ct,V.ki];simp[hx])).trans ?_;refine bs (DY (t:=2) (by omega)) ?_;refine bs (DY (t:=2) (by omega)) ?_;refine bs hm ?_;rfl
end
theorem jd {A:List Da} {a:Nat} (h:a<A.length):(fe A)[a]? =some (.agg (dh (A.getD a zD))):=by
 simp[fe,h]
theorem mT {A:List Da} {a:Nat} (h:a<A.length):A.getD a zD∈A:=by
 rw[fH h];exact ff h
theorem axy {L op x a b:Nat} {A:List Da} {m2 m3:LV} (hL:L=1∨L=2) (o1:1≤op) (o8:op≤8) (hx:op=3→x<L) (hA: ∀X∈A,Gd X L) (ha:5≤op→a<A.length) (hb:5≤op→op≠8→b<A.length):
  CC ME [.int .i64 (op:Int),.int .i64 (x:Int),.int .i64 (a:Int),.int .i64 (b:Int),.int .i64 (L:Int),.list dA (fe A),.list dX m2,.list dY m3]=
   some (axq L m2 m3 (fe A) (gB L op x (A.getD a zD) (A.getD b zD))):=by
 refine axp ?_;unfold aiN aq;rcases (by omega:op=1∨op=2∨op=3∨op=4∨op=5∨op=6∨op=7∨op=8) with rfl|rfl|rfl|rfl|rfl|rfl|rfl|rfl
 ·refine bT rfl (bs (aiO hL) ?_);rfl
 ·refine bF rfl (bT rfl (bs (axv hL) ?_));rfl
 ·refine bF rfl (bF rfl (bT rfl (bs (axx hL (hx rfl)) ?_)));rfl
 ·refine bF rfl (bF rfl (bF rfl (bT rfl (bs (aiO hL) ?_))));rfl
 ·have ha:=ha (by omega);have hb:=hb (by omega) (by omega);have gp:=hA _ (mT ha);have gq:=hA _ (mT hb);have iI:(A.getD a zD).L=(A.getD b zD).L:=by rw[gp.hL,gq.hL]
  refine bF rfl (bF rfl (bF rfl (bF rfl (bT rfl ?_))));refine (eu (jd ha)).trans ((eu (jd hb)).trans ?_)
  by_cases hn:iF (minD (A.getD a zD)) (minD (A.getD b zD))
  ·rw[axr hn];refine bs (agi gp.ok gq.ok iI (op:=14) (by omega) hn) ?_;rfl
  ·rw[YJ hn];refine bs (agh gp.ok gq.ok iI (op:=14) (by omega) hn) ?_;rfl
 ·have ha:=ha (by omega);have hb:=hb (by omega) (by omega);have gp:=hA _ (mT ha);have gq:=hA _ (mT hb);have iI:(A.getD a zD).L=(A.getD b zD).L:=by rw[gp.hL,gq.hL]
  refine bF rfl (bF rfl (bF rfl (bF rfl (bF rfl (bT rfl ?_)))));refine (eu (jd ha)).trans ((eu (jd hb)).trans ?_)
  by_cases hn:iF (minD (A.getD a zD)) (minD (A.getD b zD))
  ·rw[axs hn];refine bs (agi gp.ok gq.ok iI (op:=8) (by omega) hn) ?_;rfl
  ·rw[YK hn];refine bs (agh gp.ok gq.ok iI (op:=8) (by omega) hn) ?_;rfl
 ·have ha:=ha (by omega);have hb:=hb (by omega) (by omega);have gp:=hA _ (mT ha);have gq:=hA _ (mT hb);have iI:(A.getD a zD).L=(A.getD b zD).L:=by rw[gp.hL,gq.hL]
  refine bF rfl (bF rfl (bF rfl (bF rfl (bF rfl (bF rfl (bT rfl ?_))))));refine (eu (jd ha)).trans ((eu (jd hb)).trans ?_)
  by_cases hs:64<(minD (A.getD a zD)).n+(minD (A.getD b zD)).n
  ·rw[axt hs];refine bs (awR gp.ok gq.ok iI hs) ?_;rfl
  ·have hk:=awQ gp.ok gq.ok iI (Bp hs);rcases YE gp.ok gq.ok iI (Bp hs) with ⟨h1,_⟩|⟨h1,h2⟩
   ·rw[YL hs h1];rw[h1] at hk;refine bs hk ?_;rfl
   ·rw[axu hs h1];rw[h1,h2] at hk;refine bs hk ?_;rfl
 ·have ha:=ha (by omega);have gp:=hA _ (mT ha);refine bF rfl (bF rfl (bF rfl (bF rfl (bF rfl (bF rfl (bF rfl ?_))))));refine (eu (jd ha)).trans ?_;refine bs (aw5 gp.ok) ?_;rfl
theorem JY {L op x:Nat} {p q p' q':Da} (h1:1≤op) (h8:op≤8) (hp:5≤op→p=p') (hq:5≤op→op≠8→q=q'):gB L op x p q=gB L op x p' q':=by
 rcases (by omega:op=1∨op=2∨op=3∨op=4∨op=5∨op=6∨op=7∨op=8) with rfl|rfl|rfl|rfl|rfl|rfl|rfl|rfl
 ·exact YF.trans YF.symm
 ·exact YG.trans YG.symm
 ·exact YH.trans YH.symm
 ·exact YI.trans YI.symm
 ·rw[hp (by omega),hq (by omega) (by omega)]
 ·rw[hp (by omega),hq (by omega) (by omega)]
 ·rw[hp (by omega),hq (by omega) (by omega)]
 ·rw[YM,YM,hp (by omega)]
def aiP (C:ae) (i base:Int) (mh:LV):Option LV:=
 bif base==10 then
  bif decide (i<100) then
  (C MW [V.int .i64 (wrap .i64 i)]).bind fun r1=>
  bif Nat.ble ((mh.length+(((V.nth r1 0).toStr).map vi).length)*1) aX then
   some [.list fG (mh++(((V.nth r1 0).toStr).map vi))]
  else none
  else
  (C MX [.int .u64 i]).bind fun r2=>
  bif (Nat.beq ([.int .u8 0,.int .u8 0,.int .u8 0,.int .u8 0,.int .u8 0,.int .u8 0,.int .u8 0,.int .u8 0,.int .u8 0,.int .u8 0,.int .u8 0,.int .u8 0,.int .u8 0,.int .u8 0,.int .u8 0,.int .u8 0,.int .u8 0,.int .u8 0,.int .u8 0,.int .u8 0,.int .u8 0,.int .u8 0,.int .u8 0,.int .u8 0]:LV).length 24)&&true then
   bif (decide (0≤((V.nth r2 0).toInt)))&&(decide (((V.nth r2 0).toInt)≤24)) then
   (C MY [fh 0,fh ((((V.nth r2 0).toInt:Int).toNat)-0),.int .u64 i,.list fG ([.int .u8 0,.int .u8 0,.int .u8 0,.int .u8 0,.int .u8 0,.int .u8 0,.int .u8 0,.int .u8 0,.int .u8 0,.int .u8 0,.int .u8 0,.int .u8 0,.int .u8 0,.int .u8 0,.int .u8 0,.int .u8 0,.int .u8 0,.int .u8 0,.int .u8 0,.int .u8 0,.int .u8 0,.int .u8 0,.int .u8 0,.int .u8 0]:LV)]).bind fun r3=>
   bif (Nat.beq ((V.nth r3 0).toList).length 24)&&true then
    bif (decide (0≤((V.nth r2 0).toInt)))&&(decide (((V.nth r2 0).toInt)≤24)) then
    bif Nat.ble ((mh.length+((((V.nth r3 0).toList).drop 0).take ((((V.nth r2 0).toInt:Int).toNat)-0)).length)*1) aX then
     some [.list fG (mh++((((V.nth r3 0).toList).drop 0).take ((((V.nth r2 0).toInt:Int).toNat)-0)))]
    else none
    else none
   else none
   else none
  else none
 else none
theorem axz {i base:Int} {mh:LV} {r:Option LV} (h:aiP CC i base mh=r):CC Gw [.int .u64 i,V.int .i64 base,.list fG mh]=r:=bj (L:=bm) an h
def PQ (C:ae) (aO bR:Nat) (u nd:Int) (iA:LV) {β:Type} (kn:(Int×Int×LV)→Option β) (kr:(Int×Int×Bool×LV)→Option β):Option β:=
 bif decide (nd≥8) then
  (bif decide (0≤(wrap .u32 ((wrap .u32 (2*(Int.tmod (Int.tmod (wrap .u32 (Int.tmod u 100000000)) 10000) 100)))+1))) then (pD[(wrap .u32 ((wrap .u32 (2*(Int.tmod (Int.tmod (wrap .u32 (Int.tmod u 100000000)) 10000) 100)))+1):Int).toNat]?).map fun b=>V.int .u8 b.toNat else none).bind fun x1=>
  (bif decide (0≤(wrap .u32 (2*(Int.tmod (Int.tmod (wrap .u32 (Int.tmod u 100000000)) 10000) 100)))) then (pD[(wrap .u32 (2*(Int.tmod (Int.tmod (wrap .u32 (Int.tmod u 100000000)) 10000) 100)):Int).toNat]?).map fun b=>V.int .u8 b.toNat else none).bind fun x2=>
  bif (decide (0≤(wrap .i64 (nd-1))))&&(decide ((wrap .i64 (nd-1))<(bR:Int))) then
  (iA[aO+((wrap .i64 (nd-1):Int).toNat)]?).bind fun x3=>
  bif (decide (0≤(wrap .i64 (nd-2))))&&(decide ((wrap .i64 (nd-2))<(bR:Int))) then
   ((iA.set (aO+((wrap .i64 (nd-1):Int).toNat)) (.int .u8 x1.toInt))[aO+((wrap .i64 (nd-2):Int).toNat)]?).bind fun x4=>
   (bif decide (0≤(wrap .u32 ((wrap .u32 (2*(wrap .u32 (Int.tdiv (Int.tmod (wrap .u32 (Int.tmod u 100000000)) 10000) 100))))+1))) then (pD[(wrap .u32 ((wrap .u32 (2*(wrap .u32 (Int.tdiv (Int.tmod (wrap .u32 (Int.tmod u 100000000)) 10000) 100))))+1):Int).toNat]?).map fun b=>V.int .u8 b.toNat else none).bind fun x5=>
   (bif decide (0≤(wrap .u32 (2*(wrap .u32 (Int.tdiv (Int.tmod (wrap .u32 (Int.tmod u 100000000)) 10000) 100))))) then (pD[(wrap .u32 (2*(wrap .u32 (Int.tdiv (Int.tmod (wrap .u32 (Int.tmod u 100000000)) 10000) 100))):Int).toNat]?).map fun b=>V.int .u8 b.toNat else none).bind fun x6=>
   bif (decide (0≤(wrap .i64 (nd-3))))&&(decide ((wrap .i64 (nd-3))<(bR:Int))) then
   (((iA.set (aO+((wrap .i64 (nd-1):Int).toNat)) (.int .u8 x1.toInt)).set (aO+((wrap .i64 (nd-2):Int).toNat)) (.int .u8 x2.toInt))[aO+((wrap .i64 (nd-3):Int).toNat)]?).bind fun x7=>
   bif (decide (0≤(wrap .i64 (nd-4))))&&(decide ((wrap .i64 (nd-4))<(bR:Int))) then
    ((((iA.set (aO+((wrap .i64 (nd-1):Int).toNat)) (.int .u8 x1.toInt)).set (aO+((wrap .i64 (nd-2):Int).toNat)) (.int .u8 x2.toInt)).set (aO+((wrap .i64 (nd-3):Int).toNat)) (.int .u8 x5.toInt))[aO+((wrap .i64 (nd-4):Int).toNat)]?).bind fun x8=>
    (bif decide (0≤(wrap .u32 ((wrap .u32 (2*(Int.tmod (wrap .u32 (Int.tdiv (wrap .u32 (Int.tmod u 100000000)) 10000)) 100)))+1))) then (pD[(wrap .u32 ((wrap .u32 (2*(Int.tmod (wrap .u32 (Int.tdiv (wrap .u32 (Int.tmod u 100000000)) 10000)) 100)))+1):Int).toNat]?).map fun b=>V.int .u8 b.toNat else none).bind fun x9=>
    (bif decide (0≤(wrap .u32 (2*(Int.tmod (wrap .u32 (Int.tdiv (wrap .u32 (Int.tmod u 100000000)) 10000)) 100)))) then (pD[(wrap .u32 (2*(Int.tmod (wrap .u32 (Int.tdiv (wrap .u32 (Int.tmod u 100000000)) 10000)) 100)):Int).toNat]?).map fun b=>V.int .u8 b.toNat else none).bind fun lB=>
    bif (decide (0≤(wrap .i64 (nd-5))))&&(decide ((wrap .i64 (nd-5))<(bR:Int))) then
    (((((iA.set (aO+((wrap .i64 (nd-1):Int).toNat)) (.int .u8 x1.toInt)).set (aO+((wrap .i64 (nd-2):Int).toNat)) (.int .u8 x2.toInt)).set (aO+((wrap .i64 (nd-3):Int).toNat)) (.int .u8 x5.toInt)).set (aO+((wrap .i64 (nd-4):Int).toNat)) (.int .u8 x6.toInt))[aO+((wrap .i64 (nd-5):Int).toNat)]?).bind fun gl=>
    bif (decide (0≤(wrap .i64 (nd-6))))&&(decide ((wrap .i64 (nd-6))<(bR:Int))) then
     ((((((iA.set (aO+((wrap .i64 (nd-1):Int).toNat)) (.int .u8 x1.toInt)).set (aO+((wrap .i64 (nd-2):Int).toNat)) (.int .u8 x2.toInt)).set (aO+((wrap .i64 (nd-3):Int).toNat)) (.int .u8 x5.toInt)).set (aO+((wrap .i64 (nd-4):Int).toNat)) (.int .u8 x6.toInt)).set (aO+((wrap .i64 (nd-5):Int).toNat)) (.int .u8 x9.toInt))[aO+((wrap .i64 (nd-6):Int).toNat)]?).bind fun lA=>
     (bif decide (0≤(wrap .u32 ((wrap .u32 (2*(wrap .u32 (Int.tdiv (wrap .u32 (Int.tdiv (wrap .u32 (Int.tmod u 100000000)) 10000)) 100))))+1))) then (pD[(wrap .u32 ((wrap .u32 (2*(wrap .u32 (Int.tdiv (wrap .u32 (Int.tdiv (wrap .u32 (Int.tmod u 100000000)) 10000)) 100))))+1):Int).toNat]?).map fun b=>V.int .u8 b.toNat else none).bind fun qK=>
     (bif decide (0≤(wrap .u32 (2*(wrap .u32 (Int.tdiv (wrap .u32 (Int.tdiv (wrap .u32 (Int.tmod u 100000000)) 10000)) 100))))) then (pD[(wrap .u32 (2*(wrap .u32 (Int.tdiv (wrap .u32 (Int.tdiv (wrap .u32 (Int.tmod u 100000000)) 10000)) 100))):Int).toNat]?).map fun b=>V.int .u8 b.toNat else none).bind fun ko=>
     bif (decide (0≤(wrap .i64 (nd-7))))&&(decide ((wrap .i64 (nd-7))<(bR:Int))) then
     (((((((iA.set (aO+((wrap .i64 (nd-1):Int).toNat)) (.int .u8 x1.toInt)).set (aO+((wrap .i64 (nd-2):Int).toNat)) (.int .u8 x2.toInt)).set (aO+((wrap .i64 (nd-3):Int).toNat)) (.int .u8 x5.toInt)).set (aO+((wrap .i64 (nd-4):Int).toNat)) (.int .u8 x6.toInt)).set (aO+((wrap .i64 (nd-5):Int).toNat)) (.int .u8 x9.toInt)).set (aO+((wrap .i64 (nd-6):Int).toNat)) (.int .u8 lB.toInt))[aO+((wrap .i64 (nd-7):Int).toNat)]?).bind fun wG=>
     bif (decide (0≤(wrap .i64 (nd-8))))&&(decide ((wrap .i64 (nd-8))<(bR:Int))) then
      ((((((((iA.set (aO+((wrap .i64 (nd-1):Int).toNat)) (.int .u8 x1.toInt)).set (aO+((wrap .i64 (nd-2):Int).toNat)) (.int .u8 x2.toInt)).set (aO+((wrap .i64 (nd-3):Int).toNat)) (.int .u8 x5.toInt)).set (aO+((wrap .i64 (nd-4):Int).toNat)) (.int .u8 x6.toInt)).set (aO+((wrap .i64 (nd-5):Int).toNat)) (.int .u8 x9.toInt)).set (aO+((wrap .i64 (nd-6):Int).toNat)) (.int .u8 lB.toInt)).set (aO+((wrap .i64 (nd-7):Int).toNat)) (.int .u8 qK.toInt))[aO+((wrap .i64 (nd-8):Int).toNat)]?).bind fun uT=>
      kn (wrap .u64 (Int.tdiv u 100000000),wrap .i64 (nd-8),(((((((iA.set (aO+((wrap .i64 (nd-1):Int).toNat)) (.int .u8 x1.toInt)).set (aO+((wrap .i64 (nd-2):Int).toNat)) (.int .u8 x2.toInt)).set (aO+((wrap .i64 (nd-3):Int).toNat)) (.int .u8 x5.toInt)).set (aO+((wrap .i64 (nd-4):Int).toNat)) (.int .u8 x6.toInt)).set (aO+((wrap .i64 (nd-5):Int).toNat)) (.int .u8 x9.toInt)).set (aO+((wrap .i64 (nd-6):Int).toNat)) (.int .u8 lB.toInt)).set (aO+((wrap .i64 (nd-7):Int).toNat)) (.int .u8 qK.toInt)).set (aO+((wrap .i64 (nd-8):Int).toNat)) (.int .u8 ko.toInt))
     else none
     else none
    else none
    else none
   else none
   else none
  else none
  else none
 else
  kr (u,nd,decide (nd≥8),iA)
def PR (C:ae) (aO bR:Nat):=un fun u=>un fun nd iA=>PQ C aO bR u nd iA (fun y=>some (Sum.inl y)) (fun r=>some (Sum.inr r))
def YN (C:ae) (aO bR:Nat) (nd x:Int) (t99:Bool) (iA:LV) {β:Type} (kr:(Int×Int×LV)→Option β):Option β:=
 bif t99 then
  (bif decide (0≤(wrap .u32 ((wrap .u32 (2*(Int.tmod (Int.tmod x 10000) 100)))+1))) then (pD[(wrap .u32 ((wrap .u32 (2*(Int.tmod (Int.tmod x 10000) 100)))+1):Int).toNat]?).map fun b=>V.int .u8 b.toNat else none).bind fun td=>
  (bif decide (0≤(wrap .u32 (2*(Int.tmod (Int.tmod x 10000) 100)))) then (pD[(wrap .u32 (2*(Int.tmod (Int.tmod x 10000) 100)):Int).toNat]?).map fun b=>V.int .u8 b.toNat else none).bind fun HO=>
  bif (decide (0≤(wrap .i64 (nd-1))))&&(decide ((wrap .i64 (nd-1))<(bR:Int))) then
  (iA[aO+((wrap .i64 (nd-1):Int).toNat)]?).bind fun CZ=>
  bif (decide (0≤(wrap .i64 (nd-2))))&&(decide ((wrap .i64 (nd-2))<(bR:Int))) then
   ((iA.set (aO+((wrap .i64 (nd-1):Int).toNat)) (.int .u8 td.toInt))[aO+((wrap .i64 (nd-2):Int).toNat)]?).bind fun AU=>
   (bif decide (0≤(wrap .u32 ((wrap .u32 (2*(wrap .u32 (Int.tdiv (Int.tmod x 10000) 100))))+1))) then (pD[(wrap .u32 ((wrap .u32 (2*(wrap .u32 (Int.tdiv (Int.tmod x 10000) 100))))+1):Int).toNat]?).map fun b=>V.int .u8 b.toNat else none).bind fun Is=>
   (bif decide (0≤(wrap .u32 (2*(wrap .u32 (Int.tdiv (Int.tmod x 10000) 100))))) then (pD[(wrap .u32 (2*(wrap .u32 (Int.tdiv (Int.tmod x 10000) 100))):Int).toNat]?).map fun b=>V.int .u8 b.toNat else none).bind fun O3=>
   bif (decide (0≤(wrap .i64 (nd-3))))&&(decide ((wrap .i64 (nd-3))<(bR:Int))) then
   (((iA.set (aO+((wrap .i64 (nd-1):Int).toNat)) (.int .u8 td.toInt)).set (aO+((wrap .i64 (nd-2):Int).toNat)) (.int .u8 HO.toInt))[aO+((wrap .i64 (nd-3):Int).toNat)]?).bind fun x27=>
   bif (decide (0≤(wrap .i64 (nd-4))))&&(decide ((wrap .i64 (nd-4))<(bR:Int))) then
    ((((iA.set (aO+((wrap .i64 (nd-1):Int).toNat)) (.int .u8 td.toInt)).set (aO+((wrap .i64 (nd-2):Int).toNat)) (.int .u8 HO.toInt)).set (aO+((wrap .i64 (nd-3):Int).toNat)) (.int .u8 Is.toInt))[aO+((wrap .i64 (nd-4):Int).toNat)]?).bind fun Pn=>
    kr (wrap .i64 (nd-4),wrap .u32 (Int.tdiv x 10000),(((iA.set (aO+((wrap .i64 (nd-1):Int).toNat)) (.int .u8 td.toInt)).set (aO+((wrap .i64 (nd-2):Int).toNat)) (.int .u8 HO.toInt)).set (aO+((wrap .i64 (nd-3):Int).toNat)) (.int .u8 Is.toInt)).set (aO+((wrap .i64 (nd-4):Int).toNat)) (.int .u8 O3.toInt))
   else none
   else none
  else none
  else none
 else
  kr (nd,x,iA)
def aiQ (C:ae):cE:=bG 17 U3 [EQ,EQ,H1,H1,H1] [[1,2,0,0,0,0]] (@PQ C) (gH 1599 U4 [[1,2,0,0,0]] (@YN C) bm)
theorem axA (C:ae):aW C (aiQ C) 101 (Lp [1,0,0,0] 101):=bE U3 [EQ,EQ,H1,H1,H1] [[1,2,0,0,0,0]] (@PQ C) (aG an)
theorem axB (C:ae):aW C (aiQ C) 101 (Cd 99 [1,1,1,0,1,0] [1,1,1,0,1,1] 101):=gG U4 [[1,2,0,0,0]] (@YN C) (aG an) (aG an)
def aiR (C:ae) (aO bR:Nat) (u:Int) (iA:LV):Option LV:=
 (Loop (PR C aO bR) (u,(bR:Int),iA)).bind (un fun axC=>un fun aiS=>un fun (V1:Bool) (axD:LV)=>
  YN C aO bR aiS (wrap .u32 axC) (decide (aiS≥4)) axD (un fun oA=>un fun (DZ:Int) (yx:LV)=>
   bif decide (oA≥2) then
    (bif decide (0≤(wrap .u32 ((wrap .u32 (2*(Int.tmod DZ 100)))+1))) then (pD[(wrap .u32 ((wrap .u32 (2*(Int.tmod DZ 100)))+1):Int).toNat]?).map fun b=>V.int .u8 b.toNat else none).bind fun wL=>
    (bif decide (0≤(wrap .u32 (2*(Int.tmod DZ 100)))) then (pD[(wrap .u32 (2*(Int.tmod DZ 100)):Int).toNat]?).map fun b=>V.int .u8 b.toNat else none).bind fun tm=>
    bif (decide (0≤(wrap .i64 (oA-1))))&&(decide ((wrap .i64 (oA-1))<(bR:Int))) then
    (yx[aO+((wrap .i64 (oA-1):Int).toNat)]?).bind fun x34=>
    bif (decide (0≤(wrap .i64 (oA-2))))&&(decide ((wrap .i64 (oA-2))<(bR:Int))) then
     ((yx.set (aO+((wrap .i64 (oA-1):Int).toNat)) (.int .u8 wL.toInt))[aO+((wrap .i64 (oA-2):Int).toNat)]?).bind fun DE=>
     bif decide (((wrap .i64 (oA-2)):Int)>0) then
     bif decide (0<(bR:Int)) then
      (((yx.set (aO+((wrap .i64 (oA-1):Int).toNat)) (.int .u8 wL.toInt)).set (aO+((wrap .i64 (oA-2):Int).toNat)) (.int .u8 tm.toInt))[aO]?).bind fun DF=>
      some [.list fG (((yx.set (aO+((wrap .i64 (oA-1):Int).toNat)) (.int .u8 wL.toInt)).set (aO+((wrap .i64 (oA-2):Int).toNat)) (.int .u8 tm.toInt)).set aO (.int .u8 (wrap .u8 (wrap .u32 (48+(wrap .u32 (Int.tdiv DZ 100)))))))]
     else none
     else
     some [.list fG ((yx.set (aO+((wrap .i64 (oA-1):Int).toNat)) (.int .u8 wL.toInt)).set (aO+((wrap .i64 (oA-2):Int).toNat)) (.int .u8 tm.toInt))]
    else none
    else none
   else
    bif decide (oA>0) then
    bif decide (0<(bR:Int)) then
     (yx[aO]?).bind fun x37=>
     some [.list fG (yx.set aO (.int .u8 (wrap .u8 (wrap .u32 (48+DZ)))))]
    else none
    else
    some [.list fG yx]))
theorem axE {aO bR:Nat} {u:Int} {iA:LV} {r:Option LV} (h:aiR CC aO bR u iA=r):CC MY [fh aO,fh bR,.int .u64 u,.list fG iA]=r:=bj (aU (axA CC) (aU (axB CC) an)) h
def aiT (C:ae) (d:Int):Option LV:=
 (C GB [.int .u64 d]).bind fun r1=>
 (C M3 [V.int .i64 ((V.nth r1 0).toInt)]).bind fun r2=>
 bif (decide (0≤((V.nth r2 0).toInt)))&&(decide (((V.nth r2 0).toInt)<20)) then
  (((Ng).drop (((V.nth r2 0).toInt:Int).toNat*1))[0]?).bind fun x3=>
  bif fq Tryz.prog 63 x3 then
  (C SP [.bool (decide (d≥x3.toInt))]).bind fun r4=>
  some [V.int .i64 (wrap .i64 (((V.nth r2 0).toInt)+((V.nth r4 0).toInt)))]
  else none
 else none
theorem axF {d:Int} {r:Option LV} (h:aiT CC d=r):CC MX [.int .u64 d]=r:=bj (L:=bm) an h
def axG (C:ae) (x:Int):Option LV:=
 some [V.int .i64 (Int.fdiv (wrap .i64 (78913*x)) (2^(min (18:Int).toNat (IntKind.bits .i64))))]
theorem axH {x:Int} {r:Option LV} (h:axG CC x=r):CC M3 [V.int .i64 x]=r:=bj (L:=bm) an h
def axI (C:ae) (b':Bool):Option LV:=
 bif b' then
  some [V.int .i64 1]
 else
  some [V.int .i64 0]
theorem aiU {b':Bool} {r:Option LV} (h:axI CC b'=r):CC SP [.bool b']=r:=bj (L:=bm) an h
def aiV (C:ae) (i base:Int):Option LV:=
 (C Gq [V.int .i64 i,V.int .i64 base,.list fG ([]:LV)]).bind fun r1=>
 some [.list fG ((V.nth r1 0).toList)]
theorem axJ {i base:Int} {r:Option LV} (h:aiV CC i base=r):CC Gf [V.int .i64 i,V.int .i64 base]=r:=bj (L:=bm) an h
def aiW (C:ae) (i base:Int) (mh:LV):Option LV:=
 bif decide (i<0) then
  bif Nat.ble ((mh.length+([.int .u8 45]:LV).length)*1) aX then
  (C Gw [.int .u64 (wrap .u64 (0-(wrap .u64 i))),V.int .i64 base,.list fG (mh++([.int .u8 45]:LV))]).bind fun r1=>
  some [.list fG ((V.nth r1 0).toList)]
  else none
 else
  (C Gw [.int .u64 (wrap .u64 i),V.int .i64 base,.list fG mh]).bind fun r2=>
  some [.list fG ((V.nth r2 0).toList)]
theorem axK {i base:Int} {mh:LV} {r:Option LV} (h:aiW CC i base mh=r):CC Gq [V.int .i64 i,V.int .i64 base,.list fG mh]=r:=bj (L:=bm) an h
def aiX (C:ae) (i base:Int) (mh:LV):Option LV:=
 (C Gq [V.int .i64 i,V.int .i64 base,.list fG mh]).bind fun r1=>
 some [.list fG ((V.nth r1 0).toList)]
theorem axL {i base:Int} {mh:LV} {r:Option LV} (h:aiX CC i base mh=r):CC SY [V.int .i64 i,V.int .i64 base,.list fG mh]=r:=bj (L:=bm) an h
def eT (l:List Nat):List V:=l.map fun x:Nat=>V.int .u8 (x:Int)
def D0:List V→List Nat→Bool
 | [],[]=>true
 | .int .u8 a::l,b::m=>(a==(b:Int))&&D0 l m
 | _,_=>false
theorem aiY: ∀{l:List V} {m:List Nat},D0 l m=true→l=eT m
 | [],[],_=>rfl
 | [],_::_,h=>by simp[D0] at h
 | x::l,[],h=>by cases x<;>simp[D0] at h
 | x::l,b::m,h=>by
  unfold D0 at h;split at h
  ·rename_i h1 h2;cases h1
  ·rename_i h1 h2;cases h1;cases h2;rw[aK,Bm] at h;rw[h.1,aiY h.2];rfl
  ·cases h
def YO (r:Option (List V)) (m:List Nat):Bool:=
 match r with
 | some [.list t l]=>Nat.beq t fG&&D0 l m
 | _=>false
theorem axM {r:Option (List V)} {m:List Nat} (h:YO r m=true):r=some [.list fG (eT m)]:=by
 unfold YO at h;split at h
 ·rw[aK,aZ] at h;rw[h.1,aiY h.2]
 ·cases h
def isS (r:Option (List V)) (m:List UInt8):Bool:=
 match r with
 | some [.str l]=>l==m
 | _=>false
theorem axN {r:Option (List V)} {m:List UInt8} (h:isS r m=true):r=some [.str m]:=by
 unfold isS at h;split at h
 ·rw[Bm] at h;rw[h]
 ·cases h
def fY (i:Nat):List Nat:=if i<10 then [48+i] else if i<100 then [48+i/10,48+i %10] else [48+i/100,48+i/10 %10,48+i %10]
def axO (i:Nat):Bool:=isS (Ck PG lF 4 4 MW [.int .i64 (i:Int)]) ((fY i).map UInt8.ofNat)
theorem axP:(List.range 100).all axO=true:=by kernel_rfl
def JZ:List V:=eT (List.replicate 24 0)
def K3:{K // ∀u z,aiR CC 0 3 u z=(Loop (PR CC 0 3) (u,((3:Nat):Int),z)).bind K}:=⟨_,fun u z=>rfl⟩
def runK (i:Nat):Bool:=YO (K3.1 ((i:Int),((3:Nat):Int),decide ((((3:Nat):Int):Int)≥8),JZ)) (fY i++List.replicate 21 0)
theorem axQ:(List.range 420).all (fun k=>runK (k+100))=true:=by kernel_rfl
def YP (r:Option (List V)):Bool:=
 match r with
 | some [.int .i64 n]=>decide (7≤n)&&decide (n≤10)
 | _=>false
theorem axR {r:Option (List V)} (h:YP r=true): ∃n:Int,r=some [.int .i64 n]∧7≤n∧n≤10:=by
 unfold YP at h;split at h
 ·simp only[aK,fo] at h;exact ⟨_,rfl,h⟩
 ·cases h
theorem axS:(List.range 420).all (fun k=>YP (ahM CC ((k+100:Nat):Int)))=true:=by kernel_rfl
theorem YQ {n i:Nat} {p:Nat→Bool} (h:(List.range n).all p=true) (hi:i<n):p i=true:=gD.1 h i (jG.2 hi)
theorem axT {i:Nat} (h:i<100):CC MW [.int .i64 (i:Int)]=some [.str ((fY i).map UInt8.ofNat)]:=acf (axN (YQ axP h))
theorem axU {i:Nat} (h:100≤i) (h2:i<520):CC MY [fh 0,fh 3,.int .u64 (i:Int),.list fG JZ]=some [.list fG (eT (fY i++List.replicate 21 0))]:=by
 refine axE ?_;refine (K3.2 (i:Int) JZ).trans ?_;have b9:PR CC 0 3 ((i:Int),((3:Nat):Int),JZ)=some (Sum.inr ((i:Int),((3:Nat):Int),decide ((((3:Nat):Int):Int)≥8),JZ)):=by
  unfold PR PQ;exact bF (x:=none) rfl rfl
 refine bs (di b9) ?_;have:=YQ axQ (i:=i-100) (by omega);rw[show i-100+100=i by omega] at this;exact axM this
theorem axV {i:Nat} (h:100≤i) (h2:i<520):CC MX [.int .u64 (i:Int)]=some [.int .i64 3]:=by
 have h3:=YQ axS (i:=i-100) (by omega);rw[show i-100+100=i by omega] at h3;obtain ⟨n,e,n1,n2⟩:=axR h3;refine axF ?_;unfold aiT;refine bs (XS e) ?_;rw[V.ct,V.toInt_int];have R5:CC M3 [.int .i64 n]=some [.int .i64 (if n=10 then 3 else 2)]:=by
  refine axH ?_;rcases (by omega:n=7∨n=8∨n=9∨n=10) with rfl|rfl|rfl|rfl<;>rfl
 refine bs R5 ?_;rw[V.ct,V.toInt_int];by_cases h10:n=10
 ·rw[ah h10];refine bT rfl ?_;refine bs (a:= .int .u64 1000) (by kernel_rfl) ?_;refine bT (by kernel_rfl) ?_;refine bs (aiU (bF (by rw[V.toInt_int];exact cJ (by omega)) rfl)) ?_;rfl
 ·rw[ag h10];refine bT rfl ?_;refine bs (a:= .int .u64 100) (by kernel_rfl) ?_;refine bT (by kernel_rfl) ?_;refine bs (aiU (bT (by rw[V.toInt_int];exact bU (by omega)) rfl)) ?_;rfl
theorem PS {i:Nat} (h:i<1000):1≤(fY i).length∧(fY i).length≤3:=by
 unfold fY;split
 ·simp
 ·split<;>simp
theorem J0 {i x:Nat} (h:i<1000) (hx:x∈fY i):48≤x∧x<58:=by
 unfold fY at hx;split at hx
 ·simp at hx;omega
 ·split at hx<;>simp at hx<;>omega
theorem axW {i j:Nat} (h:i<1000) (h':j<1000) (e:fY i=fY j):i=j:=by
 unfold fY at e;split at e<;>split at e<;>(try split at e)<;>(try split at e)<;>simp at e<;>omega
theorem axX {i:Nat} (h:i<520) {l:List V} (hl:l.length≤1000000):CC Gw [.int .u64 (i:Int),.int .i64 10,.list fG l]=some [.list fG (l++eT (fY i))]:=by
 have hd:=PS (i:=i) (by omega);refine axz ?_;unfold aiP;refine bT rfl ?_;by_cases h1:i<100
 ·refine bT (bU (by omega)) ?_;have hw:wrap .i64 (i:Int)=(i:Int):=dM;rw[hw];refine bs (axT h1) ?_;have he:((fY i).map UInt8.ofNat).map vi=eT (fY i):=by
   rw[eT,List.map_map];refine sa fun x hx=> ?_;have:=J0 (by omega) hx;simp only[Function.comp,vi,UInt8.toNat_ofNat'];congr 1;omega
  rw[V.ct,V.amx,he];refine bT ?_ rfl;exact cap (by simp[eT];omega) (by omega)
 ·refine bF (cJ (by omega)) ?_;refine bs (axV (by omega) h) ?_;refine bT rfl (bT rfl ?_);refine bs (axU (by omega) h) ?_;have h3:(fY i).length=3:=by unfold fY;rw[ag (by omega),ag h1];rfl
  have qe:(eT (fY i++List.replicate 21 0)).length=24:=by simp[eT,h3]
  rw[V.ct,V.ki,qe];refine bT rfl (bT rfl ?_);have he:((eT (fY i++List.replicate 21 0)).drop 0).take (((V.nth [V.int .i64 3] 0).toInt:Int).toNat-0)=eT (fY i):=by
   rw[V.ct,V.toInt_int,jZ,eT,qV,List.take_append_of_le_length (by simp[h3]),Kw (by simp[h3])];rfl
  rw[he];refine bT ?_ rfl;exact cap (by simp[eT];omega) (by omega)
theorem aiZ {i:Nat} (h:i<520) {l:List V} (hl:l.length≤1000000):CC Gq [.int .i64 (i:Int),.int .i64 10,.list fG l]=some [.list fG (l++eT (fY i))]:=by
 refine axK ?_;unfold aiW;refine bF (cJ (by omega)) ?_;have hw:wrap .u64 (i:Int)=(i:Int):=by rw[wrap_u64];omega
 rw[hw];exact bs (axX h hl) rfl
theorem axY {i:Nat} (h:i<520):CC Gf [.int .i64 (i:Int),.int .i64 10]=some [.list fG (eT (fY i))]:=by
 refine axJ ?_;unfold aiV;exact bs (aiZ h (by simp)) rfl
theorem axZ {i:Nat} (h:i<520) {l:List V} (hl:l.length≤1000000):CC SY [.int .i64 (i:Int),.int .i64 10,.list fG l]=some [.list fG (l++eT (fY i))]:=by
 refine axL ?_;unfold aiX;exact bs (aiZ h hl) rfl
def J1 (C:ae) (row t12:LV) (t13 t14:Int) (t23:Bool) (aP aT:Int) (bL bH outs:LV) {β:Type} (kr:LV→Option β):Option β:=
 bif t23 then
  bif Nat.ble ((outs.length+([.int .u8 33]:LV).length)*1) aX then
  kr (outs++([.int .u8 33]:LV))
  else none
 else
  kr outs
def J2 (C:ae) (t12:LV) (t13 t14:Int) (t27:LV) (t28 aP aT:Int) (bL bH:LV) (t29:Int) (outs:LV) {β:Type} (kn:(Int×LV)→Option β) (kr:(Int×Bool×LV)→Option β):Option β:=
 bif decide (t29<t28) then
  (idx t27 t29).bind fun x5=>
  bif Nat.ble ((outs.length+([.int .u8 32]:LV).length)*1) aX then
  (C SY [V.int .i64 x5.toInt,V.int .i64 10,.list fG (outs++([.int .u8 32]:LV))]).bind fun r6=>
  kn (wrap .i64 (t29+1),(V.nth r6 0).toList)
  else none
 else
  kr (t29,decide (t29<t28),outs)
def J3 (C:ae) (t12:LV) (t13 t14:Int) (t27:LV) (t28 aP aT:Int) (bL bH:LV):=un fun t29 outs=>J2 C t12 t13 t14 t27 t28 aP aT bL bH t29 outs (fun y=>some (Sum.inl y)) (fun r=>some (Sum.inr r))
def J4 (C:ae) (t12:LV) (t13 aP aT:Int) (bL bH:LV) (t14:Int) (outs:LV) {β:Type} (kn:(Int×LV)→Option β) (kr:(Int×Bool×LV)→Option β):Option β:=
 bif decide (t14<t13) then
  (idx t12 t14).bind fun x2=>
  (idx bL t14).bind fun x3=>
  J1 C x2.toList t12 t13 t14 x3.toBool aP aT bL bH outs (fun (ax0:LV)=>
   (Loop (J3 C t12 t13 t14 x2.toList (x2.toList.length:Int) aP aT bL bH) (0,ax0)).bind (un fun kL=>un fun (oh:Bool) (AO:LV)=>
    bif Nat.ble ((AO.length+([.int .u8 59]:LV).length)*1) aX then
    kn (wrap .i64 (t14+1),AO++([.int .u8 59]:LV))
    else none))
 else
  kr (t14,decide (t14<t13),outs)
def YR (C:ae) (t12:LV) (t13 aP aT:Int) (bL bH:LV):=un fun t14 outs=>J4 C t12 t13 aP aT bL bH t14 outs (fun y=>some (Sum.inl y)) (fun r=>some (Sum.inr r))
def YS (C:ae):cE:=gH 383 Ug [[1,2,3,4,6,7,8,9,0]] (@J1 C) (bG 129 Uh [EQ,EQ,EQ,EQ,EQ,H1,EQ,EQ,EQ,EQ,H1] [[1,2,3,4,5,0,0,7,8,9,10,0]] (@J2 C) (bG 49 Ui [EQ,EQ,H1,EQ,EQ,EQ,EQ,H1] [[1,2,0,0,4,5,6,7,0]] (@J4 C) bm))
theorem ax1 (C:ae):aW C (YS C) 37 (Cd 23 [1,1,0,1,0,0,1,1,0,0,1,0,1,0] [1,1,0,1,0,0,1,1,0,0,1,0,1,1] 37):=gG Ug [[1,2,3,4,6,7,8,9,0]] (@J1 C) (aG an) (aG an)
theorem ax2 (C:ae):aW C (YS C) 37 (Lp [1,1,0,1,0,0,1,1,0,0,1,1,0,1,0,0] 37):=bE Uh [EQ,EQ,EQ,EQ,EQ,H1,EQ,EQ,EQ,EQ,H1] [[1,2,3,4,5,0,0,7,8,9,10,0]] (@J2 C) (aG an)
theorem ax3 (C:ae):aW C (YS C) 37 (Lp [1,1,0,1,0,0] 37):=bE Ui [EQ,EQ,H1,EQ,EQ,EQ,EQ,H1] [[1,2,0,0,4,5,6,7,0]] (@J4 C) (aG (aU (ax1 C) (aU (ax2 C) an)))
def ai0 (C:ae) (bO bP:Int) (bw bY:LV):Option LV:=
 (C Gf [V.int .i64 bP,V.int .i64 10]).bind fun r1=>
 (Loop (YR C bY (bY.length:Int) bO bP bw bY) (0,(V.nth r1 0).toList)).bind (un fun xV=>un fun (xW:Bool) (ax4:LV)=>
  some [.str (j8 ax4)])
theorem ax5 {bO bP:Int} {bw bY:LV} {r:Option LV} (h:ai0 CC bO bP bw bY=r):CC MF [V.int .i64 bO,V.int .i64 bP,.list ao bw,.list ar bY]=r:=bj (aU (ax3 CC) an) h
def gP:List Nat→List Nat
 | []=>[]
 | v::l=>32::(fY v++gP l)
def qR:Bool×List Nat→List Nat
 | (b,r)=>(if b=true then [33] else [])++(gP r++[59])
def je:List (Bool×List Nat)→List Nat
 | []=>[]
 | r::l=>qR r++je l
theorem ai1: ∀l m,gP (l++m)=gP l++gP m
 | [],_=>rfl
 | v::l,m=>by simp[gP,ai1 l m]
theorem YT: ∀l m,je (l++m)=je l++je m
 | [],_=>rfl
 | v::l,m=>by simp[je,YT l m]
def nE (a:Da) (q:Nat):Bool×List Nat:=(a.fin q,tab a.L (a.nx q))
def yz (a:Da):List Nat:=fY a.st++je (tab a.n (nE a))
theorem PT: ∀l:List Nat,(∀x∈l,x<1000)→(gP l).length≤4*l.length
 | [],_=>by simp[gP]
 | v::l,h=>by
  have h1:=PS (h v (by simp));have h2:=PT l fun x hx=>h x (by simp[hx]);simp only[gP,List.length_cons,dd];omega
theorem ax6 {r:Bool×List Nat} (h: ∀x∈r.2,x<1000):(qR r).length≤2+4*r.2.length:=by
 obtain ⟨b,r⟩:=r;have:=PT r h;cases b<;>simp only[qR,dd,List.length_cons,List.length_nil,kS,Eg,mj]<;>simp only at* <;>omega
theorem YU: ∀l:List (Bool×List Nat),(∀r∈l,(∀x∈r.2,x<1000)∧r.2.length≤6)→(je l).length≤26*l.length
 | [],_=>by simp[je]
 | r::l,h=>by
  have h1:=ax6 (h r (by simp)).1;have h2:=(h r (by simp)).2;have h3:=YU l fun x hx=>h x (by simp[hx]);simp only[je,List.length_cons,dd];omega
theorem J5 {a:Da} (h:a.Ok) {n:Nat} (hn:n≤a.n): ∀r∈tab n (nE a),(∀x∈r.2,x<1000)∧r.2.length≤6:=by
 intro r hr;obtain ⟨q,hq,rfl⟩:=uD.1 hr;refine ⟨fun x hx=> ?_,?_⟩
 ·obtain ⟨y,hy,rfl⟩:=uD.1 hx;have:=h.fN (q:=q) (by omega) hy;have:=h.cU;omega
 ·have:=h.l6;simp only[nE,db];omega
theorem PU (a b:List Nat):eT (a++b)=eT a++eT b:=by simp[eT]
theorem PV (a:List Nat):(eT a).length=a.length:=by simp[eT]
theorem ax7 {a:Da} (h:a.Ok) {q:Nat} (hq:q<a.n) {pre:List Nat} (hp:pre.length≤20000) {l1 l2 l3:LV} {k1 k2 k3 k4:Int}:
  Loop (J3 CC l1 k1 k2 (tab a.L fun x=>iV (a.nx q x)) (a.L:Int) k3 k4 l2 l3) (0,eT pre)=some ((a.L:Int),false,eT (pre++gP (tab a.L (a.nx q)))):=by
 have hm:=h.cU;have h6:=h.l6;have hl: ∀x,x≤a.L→(gP (tab x (a.nx q))).length≤24:=fun x hx=>by
  have:=PT (tab x (a.nx q)) fun y hy=>by
   obtain ⟨z,hz,rfl⟩:=uD.1 hy;have:=h.fN hq (show z<a.L by omega);omega
  rw[db] at this;omega
 have e0:eT pre=eT (pre++gP (tab 0 (a.nx q))):=by simp[Hd,gP]
 rw[e0];refine (eh a.L (fun x=>((x:Int),eT (pre++gP (tab x (a.nx q))))) _ (fun x hx=> ?_) ?_)
 ·have vz:=h.fN hq hx;have qe:=hl x (by omega);simp only[J3,J2,un];refine bT (cO hx) ?_;refine bs (nr hx) ?_;refine bT (cap (by simp only[PV,dd,List.length_cons,List.length_nil];omega) (by omega)) ?_;have e1:eT (pre++gP (tab x (a.nx q)))++([V.int .u8 32]:LV)=eT (pre++gP (tab x (a.nx q))++[32]):=by rw[PU (_++_)];rfl
  rw[e1];refine bs (axZ (i:=a.nx q x) (by omega) (by simp only[PV,dd,List.length_cons,List.length_nil];omega)) ?_;rw[cG (by omega),V.ct,V.ki,←PU,gi,ai1];simp[gP]
 ·simp only[J3,J2,un];refine bF (bt (az _)) ?_;rw[bt (az _)]
def kP (a:Da):List UInt8:=j8 (eT (yz a))
theorem ai2 {a:Da} (h:a.Ok):CC MF (dh a)=some [.str (kP a)]:=by
 have hm:=h.cU;have h6:=h.l6;have hs:=h.s;refine ax5 ?_;unfold ai0;refine bs (axY (i:=a.st) (by omega)) ?_;rw[V.ct,V.ki,Da.V9];have hd:=PS (i:=a.st) (by omega);have e0:eT (fY a.st)=eT (fY a.st++je (tab 0 (nE a))):=by simp[Hd,je]
 rw[e0];refine bs (eh a.n (fun q=>((q:Int),eT (fY a.st++je (tab q (nE a))))) ((a.n:Int),false,eT (yz a)) (fun q hq=> ?_) ?_) rfl
 ·have hl:=YU _ (J5 h (n:=q) (by omega));rw[db] at hl;simp only[YR,J4,un];refine bT (cO hq) ?_;refine bs (Da.jU hq) ?_;refine bs (Da.nt hq) ?_;rw[kj,db,V.mE];have key: ∀{pre:List Nat},pre.length≤20000→∀{β:Type} (K:Int×LV→Option β),(Loop (J3 CC a.bz (a.n:Int) (q:Int) (tab a.L fun x=>iV (a.nx q x)) (a.L:Int) (a.L:Int) (a.st:Int) a.bI a.bz) (0,eT pre)).bind (un fun (kL:Int)=>un fun (oh:Bool) (AO:LV)=>
    bif Nat.ble ((AO.length+([.int .u8 59]:LV).length)*1) aX then
    K (wrap .i64 ((q:Int)+1),AO++([.int .u8 59]:LV))
    else none)=K (((q+1:Nat):Int),eT (pre++gP (tab a.L (a.nx q))++[59])):=fun {pre} hp {β} K=>by
   refine bs (ax7 h hq hp) ?_;have qe:=PT (tab a.L (a.nx q)) fun y hy=>by
    obtain ⟨z,hz,rfl⟩:=uD.1 hy;have:=h.fN hq hz;omega
   rw[db] at qe;refine bT (cap (by simp only[PV,dd,List.length_cons,List.length_nil];omega) (by omega)) ?_;rw[cG (by omega),PU (_++_)];rfl
  cases hf:a.fin q with
  | true=>
   simp only[J1];refine bT rfl ?_;refine bT (cap (by simp only[PV,dd,List.length_cons,List.length_nil];omega) (by omega)) ?_;have e1:eT (fY a.st++je (tab q (nE a)))++([V.int .u8 33]:LV)=eT (fY a.st++je (tab q (nE a))++[33]):=by rw[PU (_++_)];rfl
   rw[e1];refine (key (pre:=fY a.st++je (tab q (nE a))++[33]) (by simp only[dd,List.length_cons,List.length_nil];omega) (fun y=>some (Sum.inl y))).trans ?_;rw[gi,YT];simp[je,qR,nE,hf]
  | false=>
   simp only[J1];refine bF rfl ?_;refine (key (pre:=fY a.st++je (tab q (nE a))) (by simp only[dd];omega) (fun y=>some (Sum.inl y))).trans ?_;rw[gi,YT];simp[je,qR,nE,hf]
 ·simp only[YR,J4,un];refine bF (bt (az _)) ?_;rw[bt (az _)];rfl
def yA:List Nat→Prop
 | []=>True
 | x::_=> ¬(48≤x∧x<58)
theorem ai3: ∀{a b u v:List Nat},(∀x∈a,48≤x∧x<58)→(∀x∈b,48≤x∧x<58)→yA u→yA v→a++u=b++v→a=b∧u=v
 | [],[],_,_,_,_,_,_,e=>⟨rfl,e⟩
 | [],y::b,u,v,_,hb,hu,_,e=>by
  cases u with
  | nil=>cases e
  | cons z u=>
   have:z=y:=by simpa using (wP e).1
   have h1:=hb y (by simp);have h2: ¬(48≤z∧z<58):=hu;omega
 | x::a,[],u,v,ha,_,_,hv,e=>by
  cases v with
  | nil=>cases e
  | cons z v=>
   have:x=z:=(wP e).1;have h1:=ha x (by simp);have h2: ¬(48≤z∧z<58):=hv;omega
 | x::a,y::b,u,v,ha,hb,hu,hv,e=>by
  obtain ⟨e1,e2⟩:=wP e;obtain ⟨e3,e4⟩:=ai3 (fun x hx=>ha x (by simp[hx])) (fun x hx=>hb x (by simp[hx])) hu hv e2;exact ⟨by rw[e1,e3],e4⟩
theorem ai4 {i j:Nat} (hi:i<1000) (hj:j<1000) {u v:List Nat} (hu:yA u) (hv:yA v) (e:fY i++u=fY j++v):i=j∧u=v:=by
 obtain ⟨e1,e2⟩:=ai3 (fun x hx=>J0 hi hx) (fun x hx=>J0 hj hx) hu hv e;exact ⟨axW hi hj e1,e2⟩
theorem YV (l:List Nat) (u:List Nat):yA (gP l++59::u):=by
 cases l<;>simp[gP,yA]
theorem YW: ∀{r s u v:List Nat},(∀x∈r,x<1000)→(∀x∈s,x<1000)→gP r++59::u=gP s++59::v→r=s∧u=v
 | [],[],_,_,_,_,e=>⟨rfl,(wP e).2⟩
 | [],y::s,_,_,_,_,e=>by simp[gP] at e
 | x::r,[],_,_,_,_,e=>by simp[gP] at e
 | x::r,y::s,u,v,hr,hs,e=>by
  simp only[gP,List.cons_append,fJ] at e;obtain ⟨e1,e2⟩:=ai4 (hr x (by simp)) (hs y (by simp)) (YV r u) (YV s v) (wP e).2;obtain ⟨e3,e4⟩:=YW (fun x hx=>hr x (by simp[hx])) (fun x hx=>hs x (by simp[hx])) e2;exact ⟨by rw[e1,e3],e4⟩
theorem ax8 {r s:Bool×List Nat} {u v:List Nat} (hr: ∀x∈r.2,x<1000) (hs: ∀x∈s.2,x<1000) (e:qR r++u=qR s++v):r=s∧u=v:=by
 obtain ⟨b,r⟩:=r;obtain ⟨c,s⟩:=s;have h33: ∀{l w z:List Nat},33::w≠gP l++59::z:=fun {l w z} h=>by
  cases l<;>simp[gP] at h
 cases b<;>cases c<;>simp only[qR,kS,Eg,mj,List.nil_append,fJ,List.cons_append] at e
 ·obtain ⟨e1,e2⟩:=YW hr hs e;exact ⟨by rw[show r=s from e1],e2⟩
 ·exact absurd e.symm h33
 ·exact absurd e h33
 ·obtain ⟨e1,e2⟩:=YW hr hs (wP e).2;exact ⟨by rw[show r=s from e1],e2⟩
theorem ai5: ∀l,yA (je l)
 | []=>trivial
 | (b,r)::l=>by
  cases b
  ·simp only[je,qR,Eg,mj,List.nil_append,fJ,List.cons_append];exact YV _ _
  ·simp[je,qR,yA]
theorem ai6 {r:Bool×List Nat} {u:List Nat}:qR r++u≠[]:=by
 obtain ⟨b,r⟩:=r;cases b<;>cases r<;>simp[qR,gP]
theorem ai7: ∀{l m:List (Bool×List Nat)},(∀r∈l,∀x∈r.2,x<1000)→(∀r∈m,∀x∈r.2,x<1000)→je l=je m→l=m
 | [],[],_,_,_=>rfl
 | [],r::m,_,_,e=>absurd e.symm ai6
 | r::l,[],_,_,e=>absurd e ai6
 | r::l,s::m,hl,hm,e=>by
  obtain ⟨e1,e2⟩:=ax8 (hl r (by simp)) (hm s (by simp)) e;rw[e1,ai7 (fun r hr=>hl r (by simp[hr])) (fun r hr=>hm r (by simp[hr])) e2]
theorem Da.Ok.ext {a b:Da} (ha:a.Ok) (hb:b.Ok) (hL:a.L=b.L) (hs:a.st=b.st) (hr:tab a.n (nE a)=tab b.n (nE b)):a=b:=by
 have hn:a.n=b.n:=by
  have:=congrArg List.length hr;rwa [db,db] at this
 have hq: ∀q,q<a.n→nE a q=nE b q:=fun q hq=>by
  have:=congrArg (fun l=>l[q]?) hr
  try simp only at this
  rw[wg hq,wg (by omega)] at this;exact eo this
 have hF:a.F=b.F:=by
  refine wW hn fun q h1 h2=> ?_;have:=congrArg Prod.fst (hq q h1);unfold nE Da.fin at this;simp only at this;rwa [fH h1,fH h2] at this
 have hN:a.N=b.N:=by
  refine wW (by rw[ha.nN,hb.nN,hn]) fun q h1 h2=> ?_;have B4:q<a.n:=by rw[←ha.nN];exact h1
  have sK:q<b.n:=by omega
  have e1:=Da.G2 ha B4;have e2:=Da.G2 hb sK;rw[fH h1] at e1;rw[fH h2] at e2;refine Da.aem (by rw[e1,e2,hL]) fun x hx=> ?_;have h3:=congrArg Prod.snd (hq q B4);unfold nE at h3
  try simp only at h3
  have h4:=congrArg (fun l=>l[x]?) h3
  try simp only at h4
  rw[wg (by omega),wg (by omega)] at h4;have h5:=eo h4;unfold Da.nx at h5;rwa [fH h1,fH h2] at h5
 obtain ⟨L,s,F,N⟩:=a;obtain ⟨L',s',F',N'⟩:=b;simp only at hL hs hF hN;rw[hL,hs,hF,hN]
theorem ax9 {a b:Da} (ha:a.Ok) (hb:b.Ok) (hL:a.L=b.L) (e:yz a=yz b):a=b:=by
 have h1:=ha.cU;have h2:=hb.cU;have h3:=ha.s;have h4:=hb.s;obtain ⟨e1,e2⟩:=ai4 (by omega) (by omega) (ai5 _) (ai5 _) e;exact ha.ext hb hL e1 (ai7 (fun r hr=>(J5 ha (az _) r hr).1) (fun r hr=>(J5 hb (az _) r hr).1) e2)
theorem ai8: ∀{l:List Nat},(∀x∈l,x<1000)→∀y∈gP l,y<256
 | [],_,y,hy=>by cases hy
 | x::l,h,y,hy=>by
  simp only[gP,iR,eW] at hy;rcases hy with rfl|hy|hy
  ·omega
  ·have:=J0 (h x (by simp)) hy;omega
  ·exact ai8 (fun x hx=>h x (by simp[hx])) y hy
theorem ai9: ∀{l:List (Bool×List Nat)},(∀r∈l,∀x∈r.2,x<1000)→∀y∈je l,y<256
 | [],_,y,hy=>by cases hy
 | (b,r)::l,h,y,hy=>by
  simp only[je,qR,eW] at hy;rcases hy with (hy|hy|hy)|hy
  ·split at hy
   ·simp at hy;omega
   ·cases hy
  ·exact ai8 (h (b,r) (by simp)) y hy
  ·simp at hy;omega
  ·exact ai9 (fun x hx=>h x (by simp[hx])) y hy
theorem aja {a:Da} (ha:a.Ok): ∀y∈yz a,y<256:=by
 intro y hy;have h1:=ha.cU;have h3:=ha.s;rcases eW.1 hy with hy|hy
 ·have:=J0 (i:=a.st) (by omega) hy;omega
 ·exact ai9 (fun r hr=>(J5 ha (az _) r hr).1) y hy
theorem aya {a b:Da} (ha:a.Ok) (hb:b.Ok) (hL:a.L=b.L) (e:kP a=kP b):a=b:=by
 refine ax9 ha hb hL ?_;unfold kP j8 eT at e;rw[List.map_map,List.map_map] at e;have hl:(yz a).length=(yz b).length:=by
  have:=congrArg List.length e;simpa using this
 refine wW hl fun i h1 h2=> ?_;have h3:=congrArg (fun l=>l[i]?) e;simp only[gE,cp h1,cp h2,Option.map_some,Function.comp,V.toInt_int,Int.toNat_natCast] at h3;have h4:=congrArg UInt8.toNat (eo h3)
 have h5:=aja ha _ (ff h1);have h6:=aja hb _ (ff h2);simp only[UInt8.toNat_ofNat'] at h4;omega
theorem ayb {a:Da} (ha:a.Ok):(kP a).length≤20000:=by
 have h1:=ha.cU;have h3:=ha.s;have hl:=YU _ (J5 ha (n:=a.n) (by omega));rw[db] at hl;have hd:=PS (i:=a.st) (by omega);unfold kP j8 eT yz;simp only[cH,dd];omega
def J6 (C:ae) (key:List UInt8) (x:Int) (t45:Bool) (dC:Int) (ca bC:LV) (bn aY bh aS aP aT:Int) (bJ cd bS:LV) {β:Type} (kr:(Int×LV×LV)→Option β):Option β:=
 bif t45 then
  bif Nat.ble key.length maxLen&&true then
  bif Nat.ble ((bJ.length+([.agg [V.int .i64 aP,V.int .i64 aT,.list ao cd,.list ar bS]]:LV).length)*64) aX then
   kr ((bJ.length:Int),eC (.str key) (V.int .i64 (bJ.length:Int)) ca,bJ++([.agg [V.int .i64 aP,V.int .i64 aT,.list ao cd,.list ar bS]]:LV))
  else none
  else none
 else
  kr (x,ca,bJ)
def ayc (C:ae):cE:=gH 735 TV [[0,4,0,6,7,8,9,10,0]] (@J6 C) bm
theorem ayd (C:ae):aW C (ayc C) 23 (Cd 45 [1,1,1,1,1,1,0,1,0] [1,1,1,1,1,1,0,1,1] 23):=gG TV [[0,4,0,6,7,8,9,10,0]] (@J6 C) (aG an) (aG an)
def J7 (C:ae) (cl cQ cv cW dC:Int) (aR ca bC:LV):Option LV:=
 bif (cw .i64 cl&&(cw .i64 cQ&&(cw .i64 cv&&(cw .i64 cW&&true))))&&true then
  bif eB (.agg [V.int .i64 cl,V.int .i64 cQ,V.int .i64 cv,V.int .i64 cW]) bC then
  some [V.int .i64 ((fP (.agg [V.int .i64 cl,V.int .i64 cQ,V.int .i64 cv,V.int .i64 cW]) bC (V.int .i64 0)).toInt),V.int .i64 0,V.int .i64 dC,.list dX ca,.list dY bC,.list dA aR]
  else
  (C ME [V.int .i64 cl,V.int .i64 cQ,V.int .i64 cv,V.int .i64 cW,V.int .i64 dC,.list dA aR,.list dX ca,.list dY bC]).bind fun r1=>
  bif (((V.nth (r1.drop 2) 0).toInt):Int) != 0 then
   some [V.int .i64 0,V.int .i64 ((V.nth (r1.drop 2) 0).toInt),V.int .i64 ((V.nth (r1.drop 3) 0).toInt),.list dX ((V.nth ((r1.drop 3).drop 1) 0).toList),.list dY ((V.nth (((r1.drop 3).drop 1).drop 1) 0).toList),.list dA ((V.nth ((((((r1.drop 3).drop 1).drop 1).drop 1).drop 1).drop 1) 0).toList)]
  else
   (C MF [V.int .i64 ((V.nth r1 0).toInt),V.int .i64 ((V.nth (r1.drop 1) 0).toInt),.list ao ((V.nth ((((r1.drop 3).drop 1).drop 1).drop 1) 0).toList),.list ar ((V.nth (((((r1.drop 3).drop 1).drop 1).drop 1).drop 1) 0).toList)]).bind fun r2=>
   bif Nat.ble (((V.nth r2 0).toStr).length) maxLen&&true then
   J6 C ((V.nth r2 0).toStr) ((fP (.str ((V.nth r2 0).toStr)) ((V.nth ((r1.drop 3).drop 1) 0).toList) (V.int .i64 0)).toInt) (!(eB (.str ((V.nth r2 0).toStr)) ((V.nth ((r1.drop 3).drop 1) 0).toList))) ((V.nth (r1.drop 3) 0).toInt) ((V.nth ((r1.drop 3).drop 1) 0).toList) ((V.nth (((r1.drop 3).drop 1).drop 1) 0).toList) cl cQ cv cW ((V.nth r1 0).toInt) ((V.nth (r1.drop 1) 0).toInt) ((V.nth ((((((r1.drop 3).drop 1).drop 1).drop 1).drop 1).drop 1) 0).toList) ((V.nth ((((r1.drop 3).drop 1).drop 1).drop 1) 0).toList) ((V.nth (((((r1.drop 3).drop 1).drop 1).drop 1).drop 1) 0).toList) (un fun yn=>un fun (Xe:LV) (Yy:LV)=>
    bif (cw .i64 cl&&(cw .i64 cQ&&(cw .i64 cv&&(cw .i64 cW&&true))))&&true then
     some [V.int .i64 yn,V.int .i64 0,V.int .i64 ((V.nth (r1.drop 3) 0).toInt),.list dX Xe,.list dY (eC (.agg [V.int .i64 cl,V.int .i64 cQ,V.int .i64 cv,V.int .i64 cW]) (V.int .i64 yn) ((V.nth (((r1.drop 3).drop 1).drop 1) 0).toList)),.list dA Yy]
    else none)
   else none
 else none
theorem PW {cl cQ cv cW dC:Int} {aR ca bC:LV} {r:Option LV} (h:J7 CC cl cQ cv cW dC aR ca bC=r):CC F7 [V.int .i64 cl,V.int .i64 cQ,V.int .i64 cv,V.int .i64 cW,V.int .i64 dC,.list dA aR,.list dX ca,.list dY bC]=r:=bj (aU (ayd CC) an) h
theorem PX (a b:List UInt8):il (.str a) (.str b)=decide (a=b):=by
 simp only[il,V.cells,nP,sg,yH];rw[nL];simp
theorem aye {α:Type} [DecidableEq α] {ke:α→V} (hk: ∀a b,il (ke a) (ke b)=decide (a=b)) {x:α} {S:List α} (z:V) (h:x∈S): ∃(i:Nat) (hi:i<S.length),S[i]=x∧fP (ke x) (gL ke 0 S) z= .int .i64 (i:Int):=by
 refine ⟨S.idxOf x,List.idxOf_lt_length_iff.2 h,Kt _,?_⟩;have:=uH hk x z S 0 h;rwa [ed] at this
theorem ayf {α:Type} [DecidableEq α] {ke:α→V} (hk: ∀a b,il (ke a) (ke b)=decide (a=b)) {x:α} {S:List α} (h:x∈S):eB (ke x) (gL ke 0 S)=true:=(qG hk x S 0).trans (bU h)
theorem ayg {α:Type} [DecidableEq α] {ke:α→V} (hk: ∀a b,il (ke a) (ke b)=decide (a=b)) {x:α} {S:List α} (h:x∉S):eB (ke x) (gL ke 0 S)=false:=(qG hk x S 0).trans (cJ h)
theorem Nd.key (a b:Nd):il a.v b.v=decide (a=b):=by
 obtain ⟨o,x,y,z⟩:=a;obtain ⟨o',x',y',z'⟩:=b;simp only[Nd.v,il,V.cells,nP,sg,yH];rw[nL];simp only[aK,Bm,fo,Nd.mk.injEq];omega
def kQ (M:List (Nd×Nat)):LV:=M.map fun e=> .bK [e.1.v,.int .i64 (e.2:Int)]
theorem YX (d:Nd): ∀M,eB d.v (kQ M)=decide (d∈M.map Prod.fst)
 | []=>by simp[kQ,eB]
 | (e,i)::M=>by
  have c: ∀(p q:V),(V.bK [p,q]).comp 0=p:=fun p q=>rfl;have ih:=YX d M;unfold kQ at ih⊢;rw[iS,eB,c,Nd.key,ih,nL];simp
theorem ajb (d:Nd) (z:V): ∀M,d∈M.map Prod.fst→∃i:Nat,(d,i)∈M∧fP d.v (kQ M) z= .int .i64 (i:Int)
 | [],h=>by cases h
 | (e,i)::M,h=>by
  have c: ∀(p q:V),(V.bK [p,q]).comp 0=p:=fun p q=>rfl;have c1: ∀(p q:V),(V.bK [p,q]).comp 1=q:=fun p q=>rfl;by_cases hd:d=e
  ·refine ⟨i,by rw[hd];simp,?_⟩;unfold kQ;rw[iS,fP,c,c1,Nd.key,bU hd];rfl
  ·obtain ⟨j,h1,h2⟩:=ajb d z M (by simpa[hd] using h);refine ⟨j,by simp[h1],?_⟩;unfold kQ at h2⊢;rw[iS,fP,c,c1,Nd.key,cJ hd];exact h2
theorem YY (d:Nd) (i:Nat): ∀M,d∉M.map Prod.fst→eC d.v (.int .i64 (i:Int)) (kQ M)=kQ (M++[(d,i)])
 | [],_=>rfl
 | (e,j)::M,h=>by
  have c: ∀(p q:V),(V.bK [p,q]).comp 0=p:=fun p q=>rfl;have hd:d≠e:=fun he=>h (by simp[he]);have ih:=YY d i M fun hm=>h (by simp at hm⊢;exact .inr hm);unfold kQ at ih⊢;rw[iS,eC,c,Nd.key,cJ hd,List.cons_append,iS,←ih];rfl
structure tw (L k:Nat) (A:List Da) (M:List (Nd×Nat)):Prop where
 gd: ∀X∈A,Gd X L
 done: ∀e∈M,e.2<A.length∧(5≤e.1.op→e.1.a<A.length)∧(5≤e.1.op→e.1.op≠8→e.1.b<A.length)∧1≤e.1.op∧e.1.op≤8∧gB L e.1.op e.1.x (A.getD e.1.a zD) (A.getD e.1.b zD)=some (A.getD e.2 zD)
 la:A.length≤k
 lm:M.length≤k
def mi (A:List Da):LV:=gL V.str 0 (A.map kP)
theorem D1 {A B:List Da} (h:A <+: B) {i:Nat} (hi:i<A.length):B.getD i zD=A.getD i zD:=by
 have h2:i<B.length:=gC hi h.length_le;rw[fH hi,fH h2,h.getElem hi]
theorem tw.grow {L k:Nat} {A B:List Da} {M:List (Nd×Nat)} (h:tw L k A M) (hp:A <+: B) (hl:B.length≤k+1) (hg: ∀X∈B,Gd X L) {d:Nd} {i:Nat} (hi:i<B.length) (o1:1≤d.op) (o8:d.op≤8) (ha:5≤d.op→d.a<A.length) (hb:5≤d.op→d.op≠8→d.b<A.length) (hv:gB L d.op d.x (A.getD d.a zD) (A.getD d.b zD)=some (B.getD i zD)):tw L (k+1) B (M++[(d,i)]) where
 gd:=hg
 la:=hl
 lm:=by have:=h.lm;simp;omega
 done:=fun e he=>by
  have hle:=hp.length_le;rcases eW.1 he with he|he
  ·obtain ⟨h1,h2,h3,h4,h5,h6⟩:=h.done e he;refine ⟨by omega,fun h=>by have:=h2 h;omega,fun h h'=>by have:=h3 h h';omega,h4,h5,?_⟩;rw[D1 hp h1,←h6];exact JY h4 h5 (fun h=>D1 hp (h2 h)) fun h h'=>D1 hp (h3 h h')
  ·obtain rfl:e=(d,i):=by simpa using he
   refine ⟨hi,fun h=>gC (ha h) hle,fun h h'=>gC (hb h h') hle,o1,o8,?_⟩;rw[←hv];exact JY o1 o8 (fun h=>D1 hp (ha h)) fun h h'=>D1 hp (hb h h')
theorem tw.up {L k:Nat} {A:List Da} {M:List (Nd×Nat)} (h:tw L k A M):tw L (k+1) A M:=⟨h.gd,h.done,Nat.le_succ_of_le h.la,Nat.le_succ_of_le h.lm⟩
def ajc (d:Nd) (L:Nat) (A:List Da) (M:List (Nd×Nat)):LV:=[.int .i64 (d.op:Int),.int .i64 (d.x:Int),.int .i64 (d.a:Int),.int .i64 (d.b:Int),.int .i64 (L:Int),.list dA (fe A),.list dX (mi A),.list dY (kQ M)]
def YZ (i:Nat) (e:Int) (L:Nat) (A:List Da) (M:List (Nd×Nat)):LV:=[.int .i64 (i:Int),.int .i64 e,.int .i64 (L:Int),.list dX (mi A),.list dY (kQ M),.list dA (fe A)]
theorem ayh {L k:Nat} {A:List Da} {M:List (Nd×Nat)} {d:Nd} (hL:L=1∨L=2) (hk:k≤1000) (h:tw L k A M) (o1:1≤d.op) (o8:d.op≤8) (hx:d.op=3→d.x<L) (na:d.x≤1000) (ha:5≤d.op→d.a<A.length) (Lq:d.a≤1000) (hb:5≤d.op→d.op≠8→d.b<A.length) (fE:d.b≤1000):
  (gB L d.op d.x (A.getD d.a zD) (A.getD d.b zD)=none→CC F7 (ajc d L A M)=some (YZ 0 3 L A M))∧
  (∀Y,gB L d.op d.x (A.getD d.a zD) (A.getD d.b zD)=some Y→∃(i:Nat) (B:List Da) (N:List (Nd×Nat)),i<B.length∧B.getD i zD=Y∧A <+: B∧tw L (k+1) B N∧CC F7 (ajc d L A M)=some (YZ i 0 L B N)):=by
 have la:=h.la;have lm:=h.lm;have k1:((cw .i64 (d.op:Int)&&(cw .i64 (d.x:Int)&&(cw .i64 (d.a:Int)&&(cw .i64 (d.b:Int)&&true))))&&true)=true:=by
  rw[km (show d.op≤_ by omega),km (show d.x≤_ by omega),km (show d.a≤_ by omega),km (show d.b≤_ by omega)];rfl
 have iq:=axy (m2:=mi A) (m3:=kQ M) hL o1 o8 hx h.gd ha hb;have zB:V.agg [V.int .i64 (d.op:Int),V.int .i64 (d.x:Int),V.int .i64 (d.a:Int),V.int .i64 (d.b:Int)]=d.v:=rfl;by_cases hd:d∈M.map Prod.fst
 ·obtain ⟨i,hi,eg⟩:=ajb d (.int .i64 0) M hd;obtain ⟨h1,_,_,_,_,h6⟩:=h.done _ hi;simp only at h1 h6;refine ⟨fun hn=>(by rw[hn] at h6;cases h6),fun Y hY=>⟨i,A,M,h1,?_,lG _,h.up,?_⟩⟩
  ·rw[hY] at h6;exact (eo h6).symm
  ·refine PW ?_;unfold J7;rw[zB];refine bT k1 (bT ?_ ?_)
   ·rw[YX,bU hd]
   ·rw[eg];rfl
 ·have lO:eB d.v (kQ M)=false:=by rw[YX,cJ hd]
  refine ⟨fun hn=> ?_,fun Y hY=> ?_⟩
  ·rw[hn] at iq;refine PW ?_;unfold J7;rw[zB];refine bT k1 (bF lO ?_);refine bs iq (bT rfl ?_);rfl
  ·have gY:=PO hL (fun h5=>h.gd _ (mT (ha h5))) (fun h5 h8=>h.gd _ (mT (hb h5 h8))) o1 o8 hY;rw[hY] at iq;have htl:=ayb gY.ok;have hlen:(Nat.ble (kP Y).length maxLen&&true)=true:=by
    rw[yH,fp];unfold maxLen;omega
   by_cases ht:kP Y∈A.map kP
   ·obtain ⟨i,eU,h2,e2⟩:=aye PX (.int .i64 0) ht;have hi:i<A.length:=by rwa [cH] at eU
    have hAi:A.getD i zD=Y:=by
     rw[List.getElem_map] at h2;have gX:=h.gd _ (mT hi);refine aya gX.ok gY.ok (by rw[gX.hL,gY.hL]) ?_;rw[fH hi];exact h2
    refine ⟨i,A,M++[(d,i)],hi,hAi,lG _,?_,?_⟩
    ·exact h.grow (lG _) (by omega) h.gd hi o1 o8 ha hb (by rw[hAi,hY])
    ·refine PW ?_;unfold J7;rw[zB];refine bT k1 (bF lO ?_);refine bs iq (bF rfl ?_);refine bs (ai2 gY.ok) ?_;refine bT hlen ?_;unfold J6;refine bF ?_ ?_
     ·show (!(eB (.str (kP Y)) (mi A)))=false;rw[show eB (.str (kP Y)) (mi A)=true from ayf PX ht];rfl
     ·simp only[un];refine bT k1 ?_;have e3:=YY d i M hd;show some [V.int .i64 (fP (.str (kP Y)) (mi A) (.int .i64 0)).toInt,V.int .i64 0,V.int .i64 (L:Int),.list dX (mi A),.list dY (eC d.v (.int .i64 (fP (.str (kP Y)) (mi A) (.int .i64 0)).toInt) (kQ M)),.list dA (fe A)]=_;rw[show fP (.str (kP Y)) (mi A) (.int .i64 0)= .int .i64 (i:Int) from e2,V.toInt_int];rw[show eC d.v (.int .i64 (i:Int)) (kQ M)=_ from e3];rfl
   ·have e2:=uI PX (kP Y) (A.map kP) 0 ht;rw[ed,cH] at e2;have hB:(A++[Y]).getD A.length zD=Y:=by simp
    have jt:A <+: A++[Y]:=List.prefix_append _ _;refine ⟨A.length,A++[Y],M++[(d,A.length)],by simp,hB,jt,?_,?_⟩
    ·refine h.grow jt (by simp;omega) (fun X hX=> ?_) (by simp) o1 o8 ha hb (by rw[hB,hY]);rcases eW.1 hX with hX|hX
     ·exact h.gd X hX
     ·obtain rfl:X=Y:=by simpa using hX
      exact gY
    ·refine PW ?_;unfold J7;rw[zB];refine bT k1 (bF lO ?_);refine bs iq (bF rfl ?_);refine bs (ai2 gY.ok) ?_;refine bT hlen ?_;unfold J6;refine bT ?_ ?_
     ·show (!(eB (.str (kP Y)) (mi A)))=true;rw[show eB (.str (kP Y)) (mi A)=false from ayg PX ht];rfl
     ·refine bT hlen (bT ?_ ?_)
      ·show Nat.ble (((fe A).length+1)*64) aX=true;exact cap (by simp[fe];omega) (by omega)
      ·simp only[un];refine bT k1 ?_;have e3:=YY d A.length M hd;show some [V.int .i64 ((fe A).length:Int),V.int .i64 0,V.int .i64 (L:Int),.list dX (eC (.str (kP Y)) (.int .i64 ((fe A).length:Int)) (mi A)),.list dY (eC d.v (.int .i64 ((fe A).length:Int)) (kQ M)),.list dA (fe A++[.agg (dh Y)])]=_;rw[show (fe A).length=A.length by simp[fe],e3,show eC (.str (kP Y)) (.int .i64 (A.length:Int)) (mi A)=_ from e2];simp[YZ,mi,fe]
def J8 (C:ae) (ay e q:Int) (t24:LV) (t25 t26:Int) (outs:LV) (aP aT:Int) (ca:LV) (a:Int) (bC:LV) {β:Type} (kn:(Int×LV)→Option β) (kr:(Int×Bool×LV)→Option β):Option β:=
 bif decide (a<ay) then
  aq bC q fun x7=>
  (bC[q.toNat]?).bind fun x8=>
  bif Nat.ble ((x8.toList.length+([V.int .i64 1]:LV).length)*8) aX then
  zU bC q <|
  bif (Nat.beq (q.toNat) (q.toNat))&&true then
   kn (wrap .i64 (a+1),aI bC q (.list aF (x8.toList++([V.int .i64 1]:LV))))
  else none
  else none
 else
  kr (a,decide (a<ay),bC)
def PY (C:ae) (ay e q:Int) (t24:LV) (t25 t26:Int) (outs:LV) (aP aT:Int) (ca:LV):=un fun a bC=>J8 C ay e q t24 t25 t26 outs aP aT ca a bC (fun y=>some (Sum.inl y)) (fun r=>some (Sum.inr r))
def J9 (C:ae) (ay e:Int) (t24:LV) (t25 t26:Int) (outs:LV) (aP aT:Int) (ca:LV) (q:Int) (bC:LV) {β:Type} (kn:(Int×LV)→Option β) (kr:(Int×Bool×LV)→Option β):Option β:=
 bif decide (q<2) then
  bif Nat.ble ((bC.length+1)*24) aX then
  (Loop (PY C ay e q t24 t25 t26 outs aP aT ca) (0,bC++([.list aF []]:LV))).bind (un fun a_9=>un fun (xV:Bool) (Ir:LV)=>
   kn (wrap .i64 (q+1),Ir))
  else none
 else
  kr (q,decide (q<2),bC)
def PZ (C:ae) (ay e:Int) (t24:LV) (t25 t26:Int) (outs:LV) (aP aT:Int) (ca:LV):=un fun q bC=>J9 C ay e t24 t25 t26 outs aP aT ca q bC (fun y=>some (Sum.inl y)) (fun r=>some (Sum.inr r))
def Ka (C:ae) (ay e q a to:Int) (t24:LV) (t25 t26:Int) (t96:Bool) (outs:LV) (oj om lT mH aP aT:Int) (bC bQ:LV) {β:Type} (kr:(Int)→Option β):Option β:=
 bif t96 then
  kr 1
 else
  kr to
def Kb (C:ae) (ay e q:Int) (t24:LV) (t25 t26:Int) (outs:LV) (oj om lT mH aP aT:Int) (bC:LV) (a:Int) (bQ:LV) {β:Type} (kn:(Int×LV)→Option β) (kr:(Int×Bool×LV)→Option β):Option β:=
 bif decide (a<ay) then
  bif q==0 then
  Ka C ay e q a 2 t24 t25 t26 (a==om) outs oj om lT mH aP aT bC bQ (fun ajd=>
   aq bQ q fun uK=>
   (bQ[q.toNat]?).bind fun pO=>
   bif Nat.ble ((pO.toList.length+([V.int .i64 ajd]:LV).length)*8) aX then
    zU bQ q <|
    bif (Nat.beq (q.toNat) (q.toNat))&&true then
    kn (wrap .i64 (a+1),aI bQ q (.list aF (pO.toList++([V.int .i64 ajd]:LV))))
    else none
   else none)
  else
  Ka C ay e q a 2 t24 t25 t26 false outs oj om lT mH aP aT bC bQ (fun aje=>
   aq bQ q fun C8=>
   (bQ[q.toNat]?).bind fun td=>
   bif Nat.ble ((td.toList.length+([V.int .i64 aje]:LV).length)*8) aX then
    zU bQ q <|
    bif (Nat.beq (q.toNat) (q.toNat))&&true then
    kn (wrap .i64 (a+1),aI bQ q (.list aF (td.toList++([V.int .i64 aje]:LV))))
    else none
   else none)
 else
  kr (a,decide (a<ay),bQ)
def P0 (C:ae) (ay e q:Int) (t24:LV) (t25 t26:Int) (outs:LV) (oj om lT mH aP aT:Int) (bC:LV):=un fun a bQ=>Kb C ay e q t24 t25 t26 outs oj om lT mH aP aT bC a bQ (fun y=>some (Sum.inl y)) (fun r=>some (Sum.inr r))
def Kd (C:ae) (ay e:Int) (t24:LV) (t25 t26:Int) (outs:LV) (oj om lT mH aP aT:Int) (bC:LV) (q:Int) (bQ:LV) {β:Type} (kn:(Int×LV)→Option β) (kr:(Int×Bool×LV)→Option β):Option β:=
 bif decide (q<3) then
  bif Nat.ble ((bQ.length+1)*24) aX then
  (Loop (P0 C ay e q t24 t25 t26 outs oj om lT mH aP aT bC) (0,bQ++([.list aF []]:LV))).bind (un fun azN=>un fun (Hk:Bool) (Ao:LV)=>
   kn (wrap .i64 (q+1),Ao))
  else none
 else
  kr (q,decide (q<3),bQ)
def P1 (C:ae) (ay e:Int) (t24:LV) (t25 t26:Int) (outs:LV) (oj om lT mH aP aT:Int) (bC:LV):=un fun q bQ=>Kd C ay e t24 t25 t26 outs oj om lT mH aP aT bC q bQ (fun y=>some (Sum.inl y)) (fun r=>some (Sum.inr r))
def tx (C:ae) (ay e:Int) (t24:LV) (t25 t26 t31:Int) (t109:Bool) (outs:LV) (oj om lT mH aP aT:Int) (bC bQ:LV) {β:Type} (kr:(Int×Int×Int×LV×LV)→Option β):Option β:=
 bif t109 then
  aq outs lT fun yj=>
  aq outs mH fun P2=>
  (C Cu [V.int .i64 ((yj.cell 0).toInt),V.int .i64 ((yj.cell 1).toInt),.list ao ((yj.cell 2).toList),.list ar ((yj.cell 3).toList),V.int .i64 ((P2.cell 0).toInt),V.int .i64 ((P2.cell 1).toInt),.list ao ((P2.cell 2).toList),.list ar ((P2.cell 3).toList),V.int .i64 14]).bind fun yl=>
  kr ((V.nth (yl.drop 2) 0).toInt,(V.nth yl 0).toInt,(V.nth (yl.drop 1) 0).toInt,(V.nth (yl.drop 3) 0).toList,(V.nth ((yl.drop 3).drop 1) 0).toList)
 else
  bif t31==6 then
  aq outs lT fun wL=>
  aq outs mH fun tm=>
  (C Cu [V.int .i64 ((wL.cell 0).toInt),V.int .i64 ((wL.cell 1).toInt),.list ao ((wL.cell 2).toList),.list ar ((wL.cell 3).toList),V.int .i64 ((tm.cell 0).toInt),V.int .i64 ((tm.cell 1).toInt),.list ao ((tm.cell 2).toList),.list ar ((tm.cell 3).toList),V.int .i64 8]).bind fun AW=>
  kr ((V.nth (AW.drop 2) 0).toInt,(V.nth AW 0).toInt,(V.nth (AW.drop 1) 0).toInt,(V.nth (AW.drop 3) 0).toList,(V.nth ((AW.drop 3).drop 1) 0).toList)
  else
  bif t31==7 then
   aq outs lT fun DE=>
   aq outs mH fun DF=>
   (C F6 [V.int .i64 ((DE.cell 0).toInt),V.int .i64 ((DE.cell 1).toInt),.list ao ((DE.cell 2).toList),.list ar ((DE.cell 3).toList),V.int .i64 ((DF.cell 0).toInt),V.int .i64 ((DF.cell 1).toInt),.list ao ((DF.cell 2).toList),.list ar ((DF.cell 3).toList)]).bind fun AX=>
   kr ((V.nth (AX.drop 2) 0).toInt,(V.nth AX 0).toInt,(V.nth (AX.drop 1) 0).toInt,(V.nth (AX.drop 3) 0).toList,(V.nth ((AX.drop 3).drop 1) 0).toList)
  else
   bif t31==8 then
   aq outs lT fun P4=>
   (C My [V.int .i64 ((P4.cell 0).toInt),V.int .i64 ((P4.cell 1).toInt),.list ao ((P4.cell 2).toList),.list ar ((P4.cell 3).toList)]).bind fun P5=>
   kr (e,(V.nth P5 0).toInt,(V.nth (P5.drop 1) 0).toInt,(V.nth (P5.drop 2) 0).toList,(V.nth ((P5.drop 2).drop 1) 0).toList)
   else
   kr (e,aP,aT,bC,bQ)
def oB (C:ae) (ay:Int) (t24:LV) (t25 t26:Int) (outs:LV) {β:Type} (kn:(Int×LV)→Option β) (kr:((Int×LV) ⊕ (Int×Bool×LV))→Option β):Option β:=
 bif decide (t26<t25) then
  (idx t24 t26).bind fun x2=>
  bif (((x2.cell 0).toInt):Int)==1 then
  (C F5 [V.int .i64 ay,.bool false]).bind fun r3=>
  (C pE [V.int .i64 ((V.nth r3 0).toInt),V.int .i64 ((V.nth (r3.drop 1) 0).toInt),.list ao ((V.nth (r3.drop 2) 0).toList),.list ar ((V.nth ((r3.drop 2).drop 1) 0).toList)]).bind fun r4=>
  bif Nat.ble ((outs.length+([.agg [V.int .i64 ((V.nth r4 0).toInt),V.int .i64 ((V.nth (r4.drop 1) 0).toInt),.list ao ((V.nth (r4.drop 2) 0).toList),.list ar ((V.nth ((r4.drop 2).drop 1) 0).toList)]]:LV).length)*64) aX then
   kn (wrap .i64 (t26+1),outs++([.agg [V.int .i64 ((V.nth r4 0).toInt),V.int .i64 ((V.nth (r4.drop 1) 0).toInt),.list ao ((V.nth (r4.drop 2) 0).toList),.list ar ((V.nth ((r4.drop 2).drop 1) 0).toList)]]:LV))
  else none
  else
  bif (((x2.cell 0).toInt):Int)==4 then
   (C F5 [V.int .i64 ay,.bool true]).bind fun r5=>
   (C pE [V.int .i64 ((V.nth r5 0).toInt),V.int .i64 ((V.nth (r5.drop 1) 0).toInt),.list ao ((V.nth (r5.drop 2) 0).toList),.list ar ((V.nth ((r5.drop 2).drop 1) 0).toList)]).bind fun r6=>
   bif Nat.ble ((outs.length+([.agg [V.int .i64 ((V.nth r6 0).toInt),V.int .i64 ((V.nth (r6.drop 1) 0).toInt),.list ao ((V.nth (r6.drop 2) 0).toList),.list ar ((V.nth ((r6.drop 2).drop 1) 0).toList)]]:LV).length)*64) aX then
   kn (wrap .i64 (t26+1),outs++([.agg [V.int .i64 ((V.nth r6 0).toInt),V.int .i64 ((V.nth (r6.drop 1) 0).toInt),.list ao ((V.nth (r6.drop 2) 0).toList),.list ar ((V.nth ((r6.drop 2).drop 1) 0).toList)]]:LV))
   else none
  else
   bif (((x2.cell 0).toInt):Int)==2 then
   (Loop (PZ C ay 0 t24 t25 t26 outs ay 0 ([.bool true,.bool false]:LV)) (0,([]:LV))).bind (un fun azO=>un fun (oY:Bool) (wi:LV)=>
    (C pE [V.int .i64 ay,V.int .i64 0,.list ao ([.bool true,.bool false]:LV),.list ar wi]).bind fun fy=>
    bif Nat.ble ((outs.length+([.agg [V.int .i64 ((V.nth fy 0).toInt),V.int .i64 ((V.nth (fy.drop 1) 0).toInt),.list ao ((V.nth (fy.drop 2) 0).toList),.list ar ((V.nth ((fy.drop 2).drop 1) 0).toList)]]:LV).length)*64) aX then
     kn (wrap .i64 (t26+1),outs++([.agg [V.int .i64 ((V.nth fy 0).toInt),V.int .i64 ((V.nth (fy.drop 1) 0).toInt),.list ao ((V.nth (fy.drop 2) 0).toList),.list ar ((V.nth ((fy.drop 2).drop 1) 0).toList)]]:LV))
    else none)
   else
   bif (((x2.cell 0).toInt):Int)==3 then
    (Loop (P1 C ay 0 t24 t25 t26 outs ((x2.cell 0).toInt) ((x2.cell 1).toInt) ((x2.cell 2).toInt) ((x2.cell 3).toInt) ay 0 ([.bool false,.bool true,.bool false]:LV)) (0,([]:LV))).bind (un fun azP=>un fun (NX:Bool) (Wu:LV)=>
     (C pE [V.int .i64 ay,V.int .i64 0,.list ao ([.bool false,.bool true,.bool false]:LV),.list ar Wu]).bind fun yB=>
     bif Nat.ble ((outs.length+([.agg [V.int .i64 ((V.nth yB 0).toInt),V.int .i64 ((V.nth (yB.drop 1) 0).toInt),.list ao ((V.nth (yB.drop 2) 0).toList),.list ar ((V.nth ((yB.drop 2).drop 1) 0).toList)]]:LV).length)*64) aX then
     kn (wrap .i64 (t26+1),outs++([.agg [V.int .i64 ((V.nth yB 0).toInt),V.int .i64 ((V.nth (yB.drop 1) 0).toInt),.list ao ((V.nth (yB.drop 2) 0).toList),.list ar ((V.nth ((yB.drop 2).drop 1) 0).toList)]]:LV))
     else none)
   else
    tx C ay 0 t24 t25 t26 ((x2.cell 0).toInt) ((((x2.cell 0).toInt):Int)==5) outs ((x2.cell 0).toInt) ((x2.cell 1).toInt) ((x2.cell 2).toInt) ((x2.cell 3).toInt) 0 0 ([]:LV) ([]:LV) (un fun ayi=>un fun ayj=>un fun ayk=>un fun (ayl:LV) (aym:LV)=>
     bif ayi != 0 then
     kr (.inl (3,([]:LV)))
     else
     (C pE [V.int .i64 ayj,V.int .i64 ayk,.list ao ayl,.list ar aym]).bind fun kO=>
     bif Nat.ble ((outs.length+([.agg [V.int .i64 ((V.nth kO 0).toInt),V.int .i64 ((V.nth (kO.drop 1) 0).toInt),.list ao ((V.nth (kO.drop 2) 0).toList),.list ar ((V.nth ((kO.drop 2).drop 1) 0).toList)]]:LV).length)*64) aX then
      kn (wrap .i64 (t26+1),outs++([.agg [V.int .i64 ((V.nth kO 0).toInt),V.int .i64 ((V.nth (kO.drop 1) 0).toInt),.list ao ((V.nth (kO.drop 2) 0).toList),.list ar ((V.nth ((kO.drop 2).drop 1) 0).toList)]]:LV))
     else none)
 else
  kr (.inr (t26,decide (t26<t25),outs))
def nF (C:ae) (ay:Int) (t24:LV) (t25:Int):=un fun t26 outs=>oB C ay t24 t25 t26 outs (fun y=>some (Sum.inl y)) (fun r=>some (Sum.inr r))
def Bc (C:ae):cE:=bG 353 Tw [EQ,EQ,EQ,H1,EQ,EQ,EQ,EQ,EQ,EQ,EQ,H1] [[1,2,3,0,5,6,7,0,8,9,10,11,0]] (@J8 C) (bG 289 Tx [EQ,EQ,H1,EQ,EQ,EQ,EQ,EQ,EQ,EQ,H1] [[1,2,0,4,5,6,0,7,8,9,10,0]] (@J9 C) (gH 1551 Tz [[1,2,3,4,0,6,7,8,10,11,12,13,14,15,16,17,18]] (@Ka C) (bG 513 TA [EQ,EQ,EQ,H1,EQ,EQ,EQ,EQ,EQ,EQ,EQ,EQ,EQ,EQ,EQ,H1] [[1,2,3,0,5,6,7,0,8,9,10,11,12,13,14,15,0]] (@Kb C) (bG 449 TB [EQ,EQ,H1,EQ,EQ,EQ,EQ,EQ,EQ,EQ,EQ,EQ,EQ,EQ,H1] [[1,2,0,4,5,6,0,7,8,9,10,11,12,13,14,0]] (@Kd C) (gH 1759 TC [[1,0,3,4,5,8,0,0,0,0]] (@tx C) (bG 97 TD [EQ,EQ,EQ,H1,H1] [[0,0],[1,2,3,0,0,0]] (@oB C) bm))))))
theorem ayn (C:ae):aW C (Bc C) 7 (Lp [1,1,1,0,1,0,0,1,1,0,0,1,1,1,0,1,0,1,1,1,1,1,0,1,1,0,0,1,0,0,1,1,0,0] 7):=bE Tw [EQ,EQ,EQ,H1,EQ,EQ,EQ,EQ,EQ,EQ,EQ,H1] [[1,2,3,0,5,6,7,0,8,9,10,11,0]] (@J8 C) (aG an)
theorem ayo (C:ae):aW C (Bc C) 7 (Lp [1,1,1,0,1,0,0,1,1,0,0,1,1,1,0,1,0,1,1,1,1,1,0,1,1,0,0] 7):=bE Tx [EQ,EQ,H1,EQ,EQ,EQ,EQ,EQ,EQ,EQ,H1] [[1,2,0,4,5,6,0,7,8,9,10,0]] (@J9 C) (aG (aU (ayn C) an))
theorem ayp (C:ae):aW C (Bc C) 7 (Cd 96 [1,1,1,0,1,0,0,1,1,0,0,1,1,1,0,1,0,1,1,1,1,1,1,1,0,1,1,0,0,1,0,0,1,1,0,0,1,0,0,1,0,1,0] [1,1,1,0,1,0,0,1,1,0,0,1,1,1,0,1,0,1,1,1,1,1,1,1,0,1,1,0,0,1,0,0,1,1,0,0,1,0,0,1,0,1,1] 7):=gG Tz [[1,2,3,4,0,6,7,8,10,11,12,13,14,15,16,17,18]] (@Ka C) (aG an) (aG an)
theorem ayq (C:ae):aW C (Bc C) 7 (Lp [1,1,1,0,1,0,0,1,1,0,0,1,1,1,0,1,0,1,1,1,1,1,1,1,0,1,1,0,0,1,0,0,1,1,0,0] 7):=bE TA [EQ,EQ,EQ,H1,EQ,EQ,EQ,EQ,EQ,EQ,EQ,EQ,EQ,EQ,EQ,H1] [[1,2,3,0,5,6,7,0,8,9,10,11,12,13,14,15,0]] (@Kb C) (aG (aU (ayp C) an))
theorem ayr (C:ae):aW C (Bc C) 7 (Lp [1,1,1,0,1,0,0,1,1,0,0,1,1,1,0,1,0,1,1,1,1,1,1,1,0,1,1,0,0] 7):=bE TB [EQ,EQ,H1,EQ,EQ,EQ,EQ,EQ,EQ,EQ,EQ,EQ,EQ,EQ,H1] [[1,2,0,4,5,6,0,7,8,9,10,11,12,13,14,0]] (@Kd C) (aG (aU (ayq C) an))
theorem ays (C:ae):aW C (Bc C) 7 (Cd 109 [1,1,1,0,1,0,0,1,1,0,0,1,1,1,0,1,0,1,1,1,1,1,1,1,1,1,0] [1,1,1,0,1,0,0,1,1,0,0,1,1,1,0,1,0,1,1,1,1,1,1,1,1,1,1] 7):=gG TC [[1,0,3,4,5,8,0,0,0,0]] (@tx C) (aG an) (aG an)
theorem ayt (C:ae):aW C (Bc C) 7 (Lp [1,1,1,0,1,0,0] 7):=bE TD [EQ,EQ,EQ,H1,H1] [[0,0],[1,2,3,0,0,0]] (@oB C) (aG (aU (ayo C) (aU (ayr C) (aU (ays C) an))))
def Y0 (C:ae) (eS:LV) (jT ay:Int):Option LV:=
 (C Mx [.list jy eS,V.int .i64 jT,V.int .i64 ay]).bind fun r1=>
 bif (((V.nth r1 0).toInt):Int) != 0 then
  some [V.int .i64 ((V.nth r1 0).toInt),.list dA ([]:LV)]
 else
  (Loop (nF C ay eS (eS.length:Int)) (0,([]:LV))).bind (bN (un fun (ayu:Int) (ayv:LV)=>
   some [V.int .i64 ayu,.list dA ayv]) (un fun azQ=>un fun (auO:Bool) (ayw:LV)=>
   some [V.int .i64 0,.list dA ayw]))
theorem ajf {eS:LV} {jT ay:Int} {r:Option LV} (h:Y0 CC eS jT ay=r):CC FZ [.list jy eS,V.int .i64 jT,V.int .i64 ay]=r:=bj (aU (ayt CC) an) h
theorem ajg {l:LV} {x y:V} {q:Nat} (h:l.length=q):(l++[x]).set q y=l++[y]:=by
 subst h;simp
theorem P6 {l:LV} {x:V} {q:Nat} (h:l.length=q):(l++[x])[q]? =some x:=by
 subst h;simp
section
variable {L:Nat} (hL:L=1∨L=2)
include hL
theorem ayx {q:Nat} {pre:LV} (hp:pre.length=q) (hq:q≤10) {l1 l2 l3:LV} {k1 k2 k3 k4 k5:Int}:
  Loop (PY CC (L:Int) k1 (q:Int) l1 k2 k3 l2 k4 k5 l3) (0,pre++[.list aF []])=some ((L:Int),false,pre++[.list aF (List.replicate L (.int .i64 1))]):=by
 refine (eh L (fun a=>((a:Int),pre++[.list aF (List.replicate a (.int .i64 1))])) _ (fun a ha=> ?_) ?_)
 ·simp only[PY,J8,un,aq,zU,aI];refine bT (cO ha) ?_;refine (eu (i:=q) (P6 hp)).trans ?_;rw[Int.toNat_natCast];refine bs (P6 hp) ?_;refine bT (cap (by simp;omega) (by omega)) ?_;refine bT (by simp;omega) ?_;refine bT (by simp) ?_;rw[ajg hp,cG (by omega),V.ki,←Kq]
 ·simp only[PY,J8,un,aq,zU,aI];refine bF (bt (az _)) ?_;rw[bt (az _)]
theorem ayy {l1 l2 l3:LV} {k1 k2 k3 k4 k5:Int}:
  Loop (PZ CC (L:Int) k1 l1 k2 k3 l2 k4 k5 l3) (0,([]:LV))=some (2,false,(mg L).bz):=by
 have e: ∀q:Nat,List.replicate q (V.list aF (List.replicate L (.int .i64 1)))++[V.list aF (List.replicate L (.int .i64 1))]=List.replicate (q+1) (V.list aF (List.replicate L (.int .i64 1))):=fun q=>Kq.symm;rw[aiG];refine (eh 2 (fun q=>((q:Int),List.replicate q (V.list aF (List.replicate L (.int .i64 1))))) _ (fun q hq=> ?_) ?_)
 ·simp only[PZ,J9,un];refine bT (bU (by omega)) ?_;refine bT (cap (by simp;omega) (by omega)) ?_;refine bs (ayx hL (by simp) (by omega)) ?_;rw[cG (by omega),e];rfl
 ·simp only[PZ,J9,un];refine bF (cJ (by omega)) ?_;rfl
theorem ayz {q x:Nat} {pre:LV} (hp:pre.length=q) (hq:q≤10) {l1 l2 l3:LV} {k1 k2 k3 k4 k5 k6 k7 k8:Int}:
  Loop (P0 CC (L:Int) k1 (q:Int) l1 k2 k3 l2 k4 (x:Int) k5 k6 k7 k8 l3) (0,pre++[.list aF []])=some ((L:Int),false,pre++[.list aF (tab L fun y=>iV ((if q=0∧y=x then 1 else 2:Nat):Int))]):=by
 refine (eh L (fun a=>((a:Int),pre++[.list aF (tab a fun y=>iV ((if q=0∧y=x then 1 else 2:Nat):Int))])) _ (fun a ha=> ?_) ?_)
 ·have key: ∀t:Nat,t=(if q=0∧a=x then 1 else 2)→(aq (pre++[.list aF (tab a fun y=>iV ((if q=0∧y=x then 1 else 2:Nat):Int))]) (q:Int) fun uK=>
   ((pre++[.list aF (tab a fun y=>iV ((if q=0∧y=x then 1 else 2:Nat):Int))])[(q:Int).toNat]?).bind fun pO=>
   bif Nat.ble ((pO.toList.length+([V.int .i64 (t:Int)]:LV).length)*8) aX then
    zU (pre++[.list aF (tab a fun y=>iV ((if q=0∧y=x then 1 else 2:Nat):Int))]) (q:Int) <|
    bif (Nat.beq ((q:Int).toNat) ((q:Int).toNat))&&true then
    some (Sum.inl (wrap .i64 ((a:Int)+1),aI (pre++[.list aF (tab a fun y=>iV ((if q=0∧y=x then 1 else 2:Nat):Int))]) (q:Int) (.list aF (pO.toList++([V.int .i64 (t:Int)]:LV)))):(Int×LV) ⊕ (Int×Bool×LV))
    else none
   else none)=some (Sum.inl (((a+1:Nat):Int),pre++[.list aF (tab (a+1) fun y=>iV ((if q=0∧y=x then 1 else 2:Nat):Int))])):=by
   intro t ht;simp only[aq,zU,aI];refine (eu (i:=q) (P6 hp)).trans ?_;rw[Int.toNat_natCast];refine bs (P6 hp) ?_;refine bT (cap (by simp;omega) (by omega)) ?_;refine bT (by simp;omega) ?_;refine bT (by simp) ?_;rw[ajg hp,cG (by omega),V.ki,gi,ht]
  simp only[P0,Kb,un];refine bT (cO ha) ?_;unfold Ka;by_cases h0:q=0
  ·refine bT (by simp[h0]) ?_;by_cases hx:a=x
   ·refine bT (by simp[hx]) ?_;exact key 1 (by rw[ah ⟨h0,hx⟩])
   ·refine bF (by simp;omega) ?_;exact key 2 (by rw[ag fun h=>hx h.2])
  ·refine bF (by simp;omega) ?_;refine bF rfl ?_;exact key 2 (by rw[ag fun h=>h0 h.1])
 ·simp only[P0,Kb,un];refine bF (bt (az _)) ?_;rw[bt (az _)]
theorem ayA {x:Nat} {l1 l2 l3:LV} {k1 k2 k3 k4 k5 k6 k7 k8:Int}:
  Loop (P1 CC (L:Int) k1 l1 k2 k3 l2 k4 (x:Int) k5 k6 k7 k8 l3) (0,([]:LV))=some (3,false,(jY L x).bz):=by
 have e3:(jY L x).bz=tab 3 fun q=>V.list aF (tab L fun y=>iV ((if q=0∧y=x then 1 else 2:Nat):Int)):=by
  rw[aiH];show _=[V.list aF (tab L fun y=>iV ((if (0:Nat)=0∧y=x then 1 else 2:Nat):Int)),V.list aF (tab L fun y=>iV ((if (1:Nat)=0∧y=x then 1 else 2:Nat):Int)),V.list aF (tab L fun y=>iV ((if (2:Nat)=0∧y=x then 1 else 2:Nat):Int))]
  have e: ∀q:Nat,q≠0→(tab L fun y=>iV ((if q=0∧y=x then 1 else 2:Nat):Int))=List.replicate L (.int .i64 2):=fun q hq=>by
   rw[lx];exact dR fun y _=>by rw[ag fun h=>hq h.1];rfl
  rw[e 1 (by omega),e 2 (by omega)];congr 2;exact dR fun y _=>by simp
 rw[e3];refine (eh 3 (fun q=>((q:Int),tab q fun q=>V.list aF (tab L fun y=>iV ((if q=0∧y=x then 1 else 2:Nat):Int)))) _ (fun q hq=> ?_) ?_)
 ·simp only[P1,Kd,un];refine bT (bU (by omega)) ?_;refine bT (cap (by simp;omega) (by omega)) ?_;refine bs (ayz hL (by simp) (by omega)) ?_;rw[cG (by omega),gi];rfl
 ·simp only[P1,Kd,un];refine bF (cJ (by omega)) ?_;rfl
theorem ajh {b:Bool}:CC F5 [.int .i64 (L:Int),.bool b]=some (dh (mf L b)):=by
 refine aw9 ?_;unfold aiz;refine bT (mG (by omega) (by omega)) ?_;unfold dh dN;rw[aiF];rfl
end
structure yC (g:List Nd) (L:Nat) (O:List Da):Prop where
 len:O.length≤g.length
 gd: ∀X∈O,Gd X L
 val: ∀i,i<O.length→∀h:i<g.length,gB L g[i].op g[i].x (O.getD g[i].a zD) (O.getD g[i].b zD)=some (O.getD i zD)
theorem yC.snoc {g:List Nd} {L:Nat} {O:List Da} (hg:xU g L) (h:yC g L O) (hi:O.length<g.length) {Y:Da} (gY:Gd Y L) (hv:gB L g[O.length].op g[O.length].x (O.getD g[O.length].a zD) (O.getD g[O.length].b zD)=some Y):yC g L (O++[Y]) where
 len:=by simp;omega
 gd:=fun X hX=>by
  rcases eW.1 hX with hX|hX
  ·exact h.gd X hX
  ·obtain rfl:X=Y:=by simpa using hX
   exact gY
 val:=fun i lj h3=>by
  have hN:=hg.nd i h3;have jt: ∀j,j<O.length→(O++[Y]).getD j zD=O.getD j zD:=fun j hj=>by
   rw[fH hj,fH (by simp;omega),Ku hj]
  rcases fI i O.length with c|c
  ·rw[jt i c,←h.val i c h3];exact JY hN.o1 hN.o8 (fun h5=>jt _ (by have:=hN.a1 h5;omega)) fun h5 h8=>jt _ (by have:=hN.b1 h5 h8;omega)
  ·have:i=O.length:=by simp at lj;omega
   subst this;rw[show (O++[Y]).getD O.length zD=Y by simp,←hv];exact JY hN.o1 hN.o8 (fun h5=>jt _ (by have:=hN.a1 h5;omega)) fun h5 h8=>jt _ (by have:=hN.b1 h5 h8;omega)
theorem Y1 {A:List Da}:(fe A).length=A.length:=by simp[fe]
theorem ayB {A:List Da} {X:Da}:fe A++[V.agg (dh X)]=fe (A++[X]):=by simp[fe]
section
variable {g:List Nd} {L r:Nat} (hL:L=1∨L=2) (hg:xU g L)
include hL hg
theorem ayC {O:List Da} (h:yC g L O) (hi:O.length<g.length):
  (∃Y,Gd Y L∧gB L g[O.length].op g[O.length].x (O.getD g[O.length].a zD) (O.getD g[O.length].b zD)=some Y∧nF CC (L:Int) (g.map Nd.v) (g.length:Int) ((O.length:Int),fe O)=some (.inl (((O.length+1:Nat):Int),fe (O++[Y]))))∨
  nF CC (L:Int) (g.map Nd.v) (g.length:Int) ((O.length:Int),fe O)=some (.inr (.inl (3,[]))):=by
 have hN:=hg.nd _ hi;have n2:=hg.n2;have hO:=h.gd;have jq:=hg.get hi;generalize g[O.length]=d at hN jq⊢;obtain ⟨op,x,a,b⟩:=d;obtain ⟨o1,o8,x1,x0,a1,a0,b1,b0⟩:=hN;simp only at o1 o8 x1 x0 a1 a0 b1 b0⊢;have cg: ∀Y:Da,Nat.ble (((fe O).length+([V.agg (dh Y)]:LV).length)*64) aX=true:=fun Y=>cap (by simp[Y1];omega) (by omega);have fin: ∀Y:Da,(bif Nat.ble (((fe O).length+([V.agg (dh Y)]:LV).length)*64) aX then (some (Sum.inl (wrap .i64 ((O.length:Int)+1),fe O++([V.agg (dh Y)]:LV))):Option ((Int×LV) ⊕ ((Int×LV) ⊕ (Int×Bool×LV)))) else none)=some (.inl (((O.length+1:Nat):Int),fe (O++[Y]))):=fun Y=>by
  refine bT (cg Y) ?_;rw[cG (by omega),ayB]
 rcases (by omega:op=1∨op=2∨op=3∨op=4∨op=5∨op=6∨op=7∨op=8) with rfl|rfl|rfl|rfl|rfl|rfl|rfl|rfl
 ·refine .inl ⟨mf L false,⟨Bb (by omega) (by omega),rfl,DX hL⟩,YF,?_⟩;simp only[nF,oB,un];refine bT (cO hi) (bs jq (bT rfl ?_));refine bs (ajh hL) ?_;refine bs (mL (Bb (by omega) (by omega))) ?_;rw[DX hL];exact fin _
 ·refine .inl ⟨mg L,⟨PN (by omega) (by omega),rfl,YB hL⟩,YG,?_⟩;simp only[nF,oB,un];refine bT (cO hi) (bs jq (bF rfl (bF rfl (bT rfl ?_))));refine bs (ayy hL) ?_;refine bs (mL (a:=mg L) (PN (by omega) (by omega))) ?_;rw[YB hL];exact fin _
 ·have aw:=YA (L:=L) (x:=x) (by omega) (by omega);refine .inl ⟨minD (jY L x),⟨fc aw,ot aw,O4 aw⟩,YH,?_⟩;simp only[nF,oB,un];refine bT (cO hi) (bs jq (bF rfl (bF rfl (bF rfl (bT rfl ?_)))));refine bs (ayA hL (x:=x)) ?_;refine bs (mL (a:=jY L x) aw) ?_;exact fin _
 ·refine .inl ⟨mf L true,⟨Bb (by omega) (by omega),rfl,DX hL⟩,YI,?_⟩;simp only[nF,oB,un];refine bT (cO hi) (bs jq (bF rfl (bT rfl ?_)));refine bs (ajh hL) ?_;refine bs (mL (Bb (by omega) (by omega))) ?_;rw[DX hL];exact fin _
 ·have ha:=a1 (by omega);have hb:=b1 (by omega) (by omega);have gp:=hO _ (mT ha);have gq:=hO _ (mT hb);have iI:(O.getD a zD).L=(O.getD b zD).L:=by rw[gp.hL,gq.hL]
  by_cases hn:iF (minD (O.getD a zD)) (minD (O.getD b zD))
  ·refine .inr ?_;obtain ⟨X,hX⟩:=aiB gp.ok gq.ok iI (op:=14) (by omega) hn;simp only[nF,oB,un];refine bT (cO hi) (bs jq (bF rfl (bF rfl (bF rfl (bF rfl ?_)))));unfold tx aq;refine bT rfl ?_;refine (eu (jd ha)).trans ((eu (jd hb)).trans ?_)
   refine bs hX ?_;simp only[un];exact bT rfl rfl
  ·have gY:=PO hL (fun _=>gp) (fun _ _=>gq) (by omega) (by omega) (YJ (L:=L) (x:=x) hn);refine .inl ⟨_,gY,YJ hn,?_⟩;simp only[nF,oB,un];refine bT (cO hi) (bs jq (bF rfl (bF rfl (bF rfl (bF rfl ?_)))));unfold tx aq;refine bT rfl ?_;refine (eu (jd ha)).trans ((eu (jd hb)).trans ?_)
   refine bs (agj gp.ok gq.ok iI (op:=14) (by omega) hn) ?_;simp only[un];refine bF rfl ?_;refine bs (mL gY.ok) ?_;rw[gY.min];exact fin _
 ·have ha:=a1 (by omega);have hb:=b1 (by omega) (by omega);have gp:=hO _ (mT ha);have gq:=hO _ (mT hb);have iI:(O.getD a zD).L=(O.getD b zD).L:=by rw[gp.hL,gq.hL]
  by_cases hn:iF (minD (O.getD a zD)) (minD (O.getD b zD))
  ·refine .inr ?_;obtain ⟨X,hX⟩:=aiB gp.ok gq.ok iI (op:=8) (by omega) hn;simp only[nF,oB,un];refine bT (cO hi) (bs jq (bF rfl (bF rfl (bF rfl (bF rfl ?_)))));unfold tx aq;refine bF rfl (bT rfl ?_);refine (eu (jd ha)).trans ((eu (jd hb)).trans ?_)
   refine bs hX ?_;simp only[un];exact bT rfl rfl
  ·have gY:=PO hL (fun _=>gp) (fun _ _=>gq) (by omega) (by omega) (YK (L:=L) (x:=x) hn);refine .inl ⟨_,gY,YK hn,?_⟩;simp only[nF,oB,un];refine bT (cO hi) (bs jq (bF rfl (bF rfl (bF rfl (bF rfl ?_)))));unfold tx aq;refine bF rfl (bT rfl ?_);refine (eu (jd ha)).trans ((eu (jd hb)).trans ?_)
   refine bs (agj gp.ok gq.ok iI (op:=8) (by omega) hn) ?_;simp only[un];refine bF rfl ?_;refine bs (mL gY.ok) ?_;rw[gY.min];exact fin _
 ·have ha:=a1 (by omega);have hb:=b1 (by omega) (by omega);have gp:=hO _ (mT ha);have gq:=hO _ (mT hb);have iI:(O.getD a zD).L=(O.getD b zD).L:=by rw[gp.hL,gq.hL]
  by_cases hs:64<(minD (O.getD a zD)).n+(minD (O.getD b zD)).n
  ·refine .inr ?_;simp only[nF,oB,un];refine bT (cO hi) (bs jq (bF rfl (bF rfl (bF rfl (bF rfl ?_)))));unfold tx aq;refine bF rfl (bF rfl (bT rfl ?_));refine (eu (jd ha)).trans ((eu (jd hb)).trans ?_)
   refine bs (axd gp.ok gq.ok hs) ?_;simp only[un];exact bT rfl rfl
  ·have hk:=awZ gp.ok gq.ok iI (Bp hs);rcases YE gp.ok gq.ok iI (Bp hs) with ⟨h1,_⟩|⟨h1,h2⟩
   ·have gY:=PO hL (fun _=>gp) (fun _ _=>gq) (by omega) (by omega) (YL (L:=L) (x:=x) hs h1);refine .inl ⟨_,gY,YL hs h1,?_⟩;rw[h1] at hk;simp only[nF,oB,un];refine bT (cO hi) (bs jq (bF rfl (bF rfl (bF rfl (bF rfl ?_)))));unfold tx aq;refine bF rfl (bF rfl (bT rfl ?_));refine (eu (jd ha)).trans ((eu (jd hb)).trans ?_)
    refine bs hk ?_;simp only[un];refine bF rfl ?_;refine bs (mL gY.ok) ?_;rw[gY.min];exact fin _
   ·refine .inr ?_;rw[h1,h2] at hk;simp only[nF,oB,un];refine bT (cO hi) (bs jq (bF rfl (bF rfl (bF rfl (bF rfl ?_)))));unfold tx aq;refine bF rfl (bF rfl (bT rfl ?_));refine (eu (jd ha)).trans ((eu (jd hb)).trans ?_)
    refine bs hk ?_;simp only[un];exact bT rfl rfl
 ·have ha:=a1 (by omega);have gp:=hO _ (mT ha);refine .inl ⟨nD (O.getD a zD),⟨JU gp.ok,gp.hL,YC gp.ok gp.min⟩,YM,?_⟩;simp only[nF,oB,un];refine bT (cO hi) (bs jq (bF rfl (bF rfl (bF rfl (bF rfl ?_)))));unfold tx aq;refine bF rfl (bF rfl (bF rfl (bT rfl ?_)));refine (eu (jd ha)).trans ?_;refine bs (axe gp.ok) ?_;simp only[un];refine bF rfl ?_;refine bs (mL (a:=nD (O.getD a zD)) (JU gp.ok)) ?_;rw[YC gp.ok gp.min];exact fin _
theorem ayD (hr:r<g.length):(∃O,O.length=g.length∧yC g L O∧CC FZ [.list jy (g.map Nd.v),.int .i64 (r:Int),.int .i64 (L:Int)]=some [.int .i64 0,.list dA (fe O)])∨
  CC FZ [.list jy (g.map Nd.v),.int .i64 (r:Int),.int .i64 (L:Int)]=some [.int .i64 3,.list dA []]:=by
 have hv:=apc hg hr;have key:=Sp (step:=nF CC (L:Int) (g.map Nd.v) (g.length:Int)) (fun x=> ∃O,x=((O.length:Int),fe O)∧yC g L O) (fun x=>g.length-x.2.length)
  (fun o=>o= .inl (3,[])∨∃O,O.length=g.length∧yC g L O∧o= .inr ((g.length:Int),false,fe O)) (fun x hx=> ?_) (0,[]) ⟨[],rfl,nK _,fun X hX=>(by cases hX),fun i hi=>(by cases hi)⟩
 ·obtain ⟨o,h1,h2⟩:=key;rcases h2 with rfl|⟨O,h3,h4,rfl⟩
  ·refine .inr (ajf ?_);unfold Y0;rw[cH];refine bs hv (bF rfl (bs h1 rfl))
  ·refine .inl ⟨O,h3,h4,ajf ?_⟩;unfold Y0;rw[cH];refine bs hv (bF rfl (bs h1 rfl))
 ·obtain ⟨O,rfl,h⟩:=hx;rcases fI O.length g.length with c|c
  ·rcases ayC hL hg h c with ⟨Y,gY,hY,h2⟩|h2
   ·refine .inl ⟨_,h2,⟨O++[Y],by simp,h.snoc hg c gY hY⟩,?_⟩;simp only[Y1,dd,List.length_cons,List.length_nil];omega
   ·exact .inr ⟨_,h2,.inl rfl⟩
  ·have hl:=h.len;have:O.length=g.length:=by omega
   refine .inr ⟨_,?_,.inr ⟨O,this,h,rfl⟩⟩;simp only[nF,oB,un];rw[this];refine bF (bt (az _)) ?_;rw[bt (az _)]
end
def Ke (C:ae) (i:Int) (t34:LV) (t35 t36:Int) (t44:Bool) (dC:Int) (tz lists:LV) (bn aY bh aS:Int) (bQ cx bJ:LV) {β:Type} (kr:(Int)→Option β):Option β:=
 bif t44 then
  aq tz bh fun x4=>
  kr x4.toInt
 else
  kr bh
def Kf (C:ae) (i:Int) (t34:LV) (t35 t36:Int) (t54:Bool) (dC:Int) (tz lists:LV) (bn aY bh aS:Int) (bQ cx bJ:LV) {β:Type} (kr:(Int)→Option β):Option β:=
 bif t54 then
  aq tz aS fun x7=>
  kr x7.toInt
 else
  kr aS
def Kg (C:ae) (t34:LV) (t35 t36 dC:Int) (tz lists bC bQ cx:LV) {β:Type} (kn:(Int×Int×LV×LV×LV×LV×LV)→Option β) (kr:((Int×LV) ⊕ (Int×Bool×Int×LV×LV×LV×LV×LV))→Option β):Option β:=
 bif decide (t36<t35) then
  (idx t34 t36).bind fun x2=>
  (C zV [V.int .i64 ((x2.cell 0).toInt)]).bind fun r3=>
  Ke C t36 t34 t35 t36 (decide ((((V.nth r3 0).toInt):Int)≥1)) dC tz lists ((x2.cell 0).toInt) ((x2.cell 1).toInt) ((x2.cell 2).toInt) ((x2.cell 3).toInt) bC bQ cx (fun PE=>
   (C zV [V.int .i64 ((x2.cell 0).toInt)]).bind fun r6=>
   Kf C t36 t34 t35 t36 ((((V.nth r6 0).toInt):Int)==2) dC tz lists ((x2.cell 0).toInt) ((x2.cell 1).toInt) PE ((x2.cell 3).toInt) bC bQ cx (fun A5=>
    (C F7 [V.int .i64 ((x2.cell 0).toInt),V.int .i64 ((x2.cell 1).toInt),V.int .i64 PE,V.int .i64 A5,V.int .i64 dC,.list dA bC,.list dX bQ,.list dY cx]).bind fun r9=>
    bif (((V.nth (r9.drop 1) 0).toInt):Int) != 0 then
    kr (.inl ((V.nth (r9.drop 1) 0).toInt,([]:LV)))
    else
    aq tz t36 fun lB=>
    aq ((V.nth ((((r9.drop 2).drop 1).drop 1).drop 1) 0).toList) ((V.nth r9 0).toInt) fun gl=>
    aq lists t36 fun lA=>
    kn (wrap .i64 (t36+1),(V.nth (r9.drop 2) 0).toInt,aI tz t36 (V.int .i64 ((V.nth r9 0).toInt)),aI lists t36 (.agg [V.int .i64 ((gl.cell 0).toInt),V.int .i64 ((gl.cell 1).toInt),.list ao ((gl.cell 2).toList),.list ar ((gl.cell 3).toList)]),(V.nth ((((r9.drop 2).drop 1).drop 1).drop 1) 0).toList,(V.nth ((r9.drop 2).drop 1) 0).toList,(V.nth (((r9.drop 2).drop 1).drop 1) 0).toList)))
 else
  kr (.inr (t36,decide (t36<t35),dC,tz,lists,bC,bQ,cx))
def Kh (C:ae) (t34:LV) (t35:Int):=un fun t36=>un fun dC=>un fun tz=>un fun lists=>un fun bC=>un fun bQ cx=>Kg C t34 t35 t36 dC tz lists bC bQ cx (fun y=>some (Sum.inl y)) (fun r=>some (Sum.inr r))
def Y2 (C:ae):cE:=gH 719 TE [[1,2,3,4,6,7,8,9,10,0,12,13,14,15]] (@Ke C) (gH 879 TF [[1,2,3,4,6,7,8,9,10,11,0,13,14,15]] (@Kf C) (bG 129 TG [EQ,EQ,H1,H1,H1,H1,H1,H1,H1] [[0,0],[1,2,0,0,0,0,0,0,0,0]] (@Kg C) bm))
theorem ayE (C:ae):aW C (Y2 C) 9 (Cd 44 [1,1,1,1,1,0,1,0,0,1,1,0,0,1,0,1,0] [1,1,1,1,1,0,1,0,0,1,1,0,0,1,0,1,1] 9):=gG TE [[1,2,3,4,6,7,8,9,10,0,12,13,14,15]] (@Ke C) (aG an) (aG an)
theorem ayF (C:ae):aW C (Y2 C) 9 (Cd 54 [1,1,1,1,1,0,1,0,0,1,1,0,0,1,1,0,1,0] [1,1,1,1,1,0,1,0,0,1,1,0,0,1,1,0,1,1] 9):=gG TF [[1,2,3,4,6,7,8,9,10,11,0,13,14,15]] (@Kf C) (aG an) (aG an)
theorem ayG (C:ae):aW C (Y2 C) 9 (Lp [1,1,1,1,1,0,1,0,0] 9):=bE TG [EQ,EQ,H1,H1,H1,H1,H1,H1,H1] [[0,0],[1,2,0,0,0,0,0,0,0,0]] (@Kg C) (aG (aU (ayE C) (aU (ayF C) an)))
def aji (C:ae) (eS:LV) (jT ay:Int):Option LV:=
 (C Mz [.list jy eS,V.int .i64 jT,V.int .i64 ay]).bind fun r1=>
 bif (((V.nth r1 0).toInt):Int) != 0 then
  some [V.int .i64 ((V.nth r1 0).toInt),.list dA ([]:LV)]
 else
  bif (decide (0≤(eS.length:Int)))&&((decide ((eS.length:Int)≤(eS.length:Int)))&&(Nat.ble (((eS.length:Int).toNat)*8) aX)) then
  bif (decide (0≤(eS.length:Int)))&&((decide ((eS.length:Int)≤(eS.length:Int)))&&(Nat.ble (((eS.length:Int).toNat)*64) aX)) then
   (Loop (Kh C eS (eS.length:Int)) (0,ay,List.replicate ((eS.length:Int).toNat) (V.int .i64 0),List.replicate ((eS.length:Int).toNat) (V.agg [V.int .i64 0,V.int .i64 0,.list ao ([]:LV),.list ar ([]:LV)]),([]:LV),([]:LV),([]:LV))).bind (bN (un fun (oY:Int) (ayH:LV)=>
    some [V.int .i64 oY,.list dA ayH]) (un fun Aq=>un fun (wh:Bool)=>un fun azR=>un fun (azS:LV)=>un fun (ayI:LV)=>un fun (ae7:LV)=>un fun (OE:LV) (Db:LV)=>
    some [V.int .i64 0,.list dA ayI]))
  else none
  else none
theorem ayJ {eS:LV} {jT ay:Int} {r:Option LV} (h:aji CC eS jT ay=r):CC Mw [.list jy eS,V.int .i64 jT,V.int .i64 ay]=r:=bj (aU (ayG CC) an) h
theorem ajj {F:List Nat} {i:Nat} {v:Nat} (h:F.length=i) (j:Nat):(F++[v]).getD j 0=if j=i then v else F.getD j 0:=by
 subst h;by_cases hj:j=F.length
 ·rw[ah hj,hj];simp
 ·rw[ag hj];rcases fI j F.length with c|c
  ·rw[fH c,fH (by simp;omega),Ku c]
  ·simp only[List.getD];rw[Bq (by simp;omega),Bq c]
def qS (n:Nat) (F:List Nat):LV:=tab n fun j=>V.int .i64 ((F.getD j 0:Nat):Int)
def qc (n i:Nat) (O:List Da):LV:=tab n fun j=>V.agg (dh (if j<i then O.getD j zD else zD))
theorem ayK {op:Nat}:decide ((s8 op:Int)≥1)=decide (5≤op):=by
 unfold s8;by_cases h5:5≤op
 ·rw[ah h5,bU h5];by_cases h8:op=8<;>simp[h8]
 ·rw[ag h5,cJ h5];simp
theorem ayL {op:Nat}:((s8 op:Int)==2)=decide (5≤op∧op≠8):=by
 unfold s8;by_cases h5:5≤op
 ·rw[ah h5];by_cases h8:op=8<;>simp[h5,h8]
 ·rw[ag h5,cJ (fun h=>h5 h.1)];rfl
section
variable {g:List Nd} {L r:Nat} (hL:L=1∨L=2) (hg:xU g L) {O:List Da} (hO:yC g L O) (hl:O.length=g.length)
include hL hg hO hl
theorem ayM {i:Nat} (hi:i<g.length) {F:List Nat} {A:List Da} {M:List (Nd×Nat)} (hF:F.length=i) (hB:tw L i A M) (hp: ∀j,j<i→F.getD j 0<A.length∧A.getD (F.getD j 0) zD=O.getD j zD):
  ∃(v:Nat) (B:List Da) (N:List (Nd×Nat)),tw L (i+1) B N∧(∀j,j<i+1→(F++[v]).getD j 0<B.length∧B.getD ((F++[v]).getD j 0) zD=O.getD j zD)∧
   Kh CC (g.map Nd.v) (g.length:Int) ((i:Int),(L:Int),qS g.length F,qc g.length i O,fe A,mi A,kQ M)=some (.inl (((i+1:Nat):Int),(L:Int),qS g.length (F++[v]),qc g.length (i+1) O,fe B,mi B,kQ N)):=by
 have hN:=hg.nd _ hi;have n2:=hg.n2;have jq:=hg.get hi;have ij:=hO.val i (by omega) hi;generalize g[i]=d at hN jq ij;obtain ⟨op,x,a,b⟩:=d;obtain ⟨o1,o8,x1,x0,a1,a0,b1,b0⟩:=hN;simp only at o1 o8 x1 x0 a1 a0 b1 b0 ij;have la:=hB.la;obtain ⟨fa,Y3,ajk⟩: ∃fa:Nat,(5≤op→fa=F.getD a 0)∧(¬5≤op→fa=a):=by
  by_cases h:5≤op
  ·exact ⟨_,fun _=>rfl,fun h'=>absurd h h'⟩
  ·exact ⟨_,fun h'=>absurd h' h,fun _=>rfl⟩
 obtain ⟨fb,Y4,ajl⟩: ∃fb:Nat,(5≤op∧op≠8→fb=F.getD b 0)∧(¬(5≤op∧op≠8)→fb=b):=by
  by_cases h:5≤op∧op≠8
  ·exact ⟨_,fun _=>rfl,fun h'=>absurd h h'⟩
  ·exact ⟨_,fun h'=>absurd h' h,fun _=>rfl⟩
 have ha:5≤op→fa<A.length:=fun h=>by rw[Y3 h];exact (hp a (a1 h)).1
 have hb:5≤op→op≠8→fb<A.length:=fun h h8=>by rw[Y4 ⟨h,h8⟩];exact (hp b (b1 h h8)).1
 have Fi:x≤1000:=by
  by_cases h3:op=3
  ·have:=x1 h3;omega
  ·have:=x0 h3;omega
 have Lq:fa≤1000:=by
  by_cases h:5≤op
  ·have:=ha h;omega
  ·rw[ajk h,a0 (by omega)];omega
 have fE:fb≤1000:=by
  by_cases h:5≤op∧op≠8
  ·have:=hb h.1 h.2;omega
  ·rw[ajl h,b0 (by omega)];omega
 have hv:gB L op x (A.getD fa zD) (A.getD fb zD)=some (O.getD i zD):=by
  rw[←ij];exact JY o1 o8 (fun h=>by rw[Y3 h];exact (hp a (a1 h)).2) fun h h8=>by rw[Y4 ⟨h,h8⟩];exact (hp b (b1 h h8)).2
 obtain ⟨v,B,N,h1,h2,h3,h4,h5⟩:=(ayh (d:=⟨op,x,fa,fb⟩) hL (by omega) hB o1 o8 x1 Fi ha Lq hb fE).2 _ hv;refine ⟨v,B,N,h4,fun j hj=> ?_,?_⟩
 ·rw[ajj hF];by_cases Y5:j=i
  ·rw[ah Y5,Y5];exact ⟨h1,h2⟩
  ·rw[ag Y5];obtain ⟨q1,q2⟩:=hp j (by omega);exact ⟨gC q1 h3.length_le,by rw[D1 h3 q1,q2]⟩
 ·have ayN: ∀{β:Type} (K:Int→Option β) {k1 k2 k3 k4:Int} {l1 l2 l3 l4 l5:LV},Ke CC (i:Int) l1 k1 k2 (decide ((s8 op:Int)≥1)) k3 (qS g.length F) l2 k4 (x:Int) (a:Int) (b:Int) l3 l4 l5 K=K (fa:Int):=by
   intro β K k1 k2 k3 k4 l1 l2 l3 l4 l5;unfold Ke aq;rw[ayK];by_cases h:5≤op
   ·refine bT (bU h) ?_;refine (fv (i:=a) (by have:=a1 h;omega)).trans ?_;rw[Y3 h];rfl
   ·refine bF (cJ h) ?_;rw[ajk h]
  have ayO: ∀{β:Type} (K:Int→Option β) {k1 k2 k3 k4 k5:Int} {l1 l2 l3 l4 l5:LV},Kf CC (i:Int) l1 k1 k2 ((s8 op:Int)==2) k3 (qS g.length F) l2 k4 (x:Int) k5 (b:Int) l3 l4 l5 K=K (fb:Int):=by
   intro β K k1 k2 k3 k4 k5 l1 l2 l3 l4 l5;unfold Kf aq;rw[ayL];by_cases h:5≤op∧op≠8
   ·refine bT (bU h) ?_;refine (fv (i:=b) (by have:=b1 h.1 h.2;omega)).trans ?_;rw[Y4 h];rfl
   ·refine bF (cJ h) ?_;rw[ajl h]
  have c0:(V.cell (Nd.v ⟨op,x,a,b⟩) 0).toInt=(op:Int):=rfl;have c1:(V.cell (Nd.v ⟨op,x,a,b⟩) 1).toInt=(x:Int):=rfl;have c2:(V.cell (Nd.v ⟨op,x,a,b⟩) 2).toInt=(a:Int):=rfl;have c3:(V.cell (Nd.v ⟨op,x,a,b⟩) 3).toInt=(b:Int):=rfl;simp only[Kh,Kg,un];refine bT (cO hi) (bs jq ?_);simp only[c0,c1,c2,c3];refine bs (NY o8) ?_;simp only[V.ct,V.toInt_int];rw[ayN];refine bs (NY o8) ?_;simp only[V.ct,V.toInt_int];rw[ayO];refine bs h5 (bF rfl ?_);unfold aq;refine (fv hi).trans ?_;refine (eu (i:=v) (jd h1)).trans ?_;refine (fv hi).trans ?_;rw[cG (by omega),h2];have e1:aI (qS g.length F) (i:Int) (V.int .i64 (v:Int))=qS g.length (F++[v]):=by
   unfold aI qS;rw[Int.toNat_natCast,nq];refine dR fun j _=> ?_;rw[ajj hF];by_cases hj:j=i
   ·rw[ah hj,ah hj]
   ·rw[ag hj,ag hj]
  have e2:aI (qc g.length i O) (i:Int) (.agg (dh (O.getD i zD)))=qc g.length (i+1) O:=by
   unfold aI qc;rw[Int.toNat_natCast,nq];refine dR fun j _=> ?_;by_cases hj:j=i
   ·rw[ah hj,ah (by omega),hj]
   ·rw[ag hj];by_cases h':j<i
    ·rw[ah h',ah (by omega)]
    ·rw[ag h',ag (by omega)]
  show some (Sum.inl (((i+1:Nat):Int),(L:Int),aI (qS g.length F) (i:Int) (V.int .i64 (v:Int)),aI (qc g.length i O) (i:Int) (.agg (dh (O.getD i zD))),fe B,mi B,kQ N))=_;rw[e1,e2]
theorem ayP (hr:r<g.length):CC Mw [.list jy (g.map Nd.v),.int .i64 (r:Int),.int .i64 (L:Int)]=some [.int .i64 0,.list dA (fe O)]:=by
 have n2:=hg.n2;refine ayJ ?_;unfold aji;rw[cH];refine bs (ao9 hg hr) (bF rfl ?_);refine bT (mG (by omega) (by omega)) ?_;refine bT (mG (by omega) (by omega)) ?_;have e1:List.replicate (((g.length:Nat):Int).toNat) (V.int .i64 0)=qS g.length []:=by
  unfold qS;rw[Int.toNat_natCast,lx];exact dR fun j _=>rfl
 have e2:List.replicate (((g.length:Nat):Int).toNat) (V.agg [V.int .i64 0,V.int .i64 0,.list ao ([]:LV),.list ar ([]:LV)])=qc g.length 0 O:=by
  unfold qc;rw[Int.toNat_natCast,lx];exact dR fun j _=>by rw[ag (by omega)];rfl
 rw[e1,e2];have key:=uE (step:=Kh CC (g.map Nd.v) (g.length:Int)) (fun i x=> ∃(F:List Nat) (A:List Da) (M:List (Nd×Nat)),F.length=i∧tw L i A M∧(∀j,j<i→F.getD j 0<A.length∧A.getD (F.getD j 0) zD=O.getD j zD)∧x=((i:Int),(L:Int),qS g.length F,qc g.length i O,fe A,mi A,kQ M))
  (fun o=> ∃(a b c d e:LV),o= .inr ((g.length:Int),false,(L:Int),a,qc g.length g.length O,b,c,d)) g.length 0 ((0:Int),(L:Int),qS g.length [],qc g.length 0 O,([]:LV),([]:LV),([]:LV)) (fun i _ hi x hx=> ?_) (fun x hx=> ?_)
  ⟨[],[],[],rfl,⟨fun X hX=>(by cases hX),fun e he=>(by cases he),az _,az _⟩,fun j hj=>(by omega),rfl⟩
 ·obtain ⟨o,h1,a,b,c,d,e,rfl⟩:=key;refine bs h1 ?_;have e3:qc g.length g.length O=fe O:=by
   unfold qc fe;rw[CM O zD,hl];exact dR fun j hj=>by rw[ah hj]
  simp only[bN,un];rw[e3]
 ·obtain ⟨F,A,M,h1,h2,h3,rfl⟩:=hx;obtain ⟨v,B,N,h4,h5,h6⟩:=ayM hL hg hO hl (show i<g.length by omega) h1 h2 h3;exact ⟨_,h6,F++[v],B,N,by simp[h1],h4,h5,rfl⟩
 ·obtain ⟨F,A,M,h1,h2,h3,rfl⟩:=hx;rw[ed] at*
  refine ⟨.inr ((g.length:Int),false,(L:Int),qS g.length F,qc g.length g.length O,fe A,mi A,kQ M),?_,_,_,_,_,[],rfl⟩;simp only[Kh,Kg,un];refine bF (bt (az _)) ?_;rw[bt (az _)]
end
def ajm:Bool:=
 match Ck PG lF 40 12 F0 [] with
 | some [.bool b]=>b
 | _=>false
theorem ayQ:ajm=true:=by kernel_rfl
theorem ajn:CC F0 []=some [.bool true]:=by
 have h:=ayQ;unfold ajm at h;split at h
 ·rename_i b h2;rw[h] at h2;exact acf h2
 ·cases h
end Go.AM
set_option maxRecDepth 100000
namespace Go.AM
open Go.IntKind (wrap)
theorem WT.ayR {P:Program} {t:TypeId} {x:V} (hu:P.underlying t=some (.int .i64)) (h:WT P t x): ∃n:Int,x= .int .i64 n∧ -9223372036854775808≤n∧n≤9223372036854775807:=by
 obtain ⟨n,rfl,h1,h2⟩:=h.gF hu;have e1:IntKind.min .i64= -9223372036854775808:=by decide
 have e2:IntKind.max .i64=9223372036854775807:=by decide
 rw[e1] at h1;rw[e2] at h2;exact ⟨n,rfl,h1,h2⟩
theorem WT.RA {P:Program} {t:TypeId} {x:V} (hu:P.underlying t=some (.int .u8)) (h:WT P t x): ∃n:Int,x= .int .u8 n∧0≤n∧n≤255:=by
 obtain ⟨n,rfl,h1,h2⟩:=h.gF hu;have e1:IntKind.min .u8=0:=by decide
 have e2:IntKind.max .u8=255:=by decide
 rw[e1] at h1;rw[e2] at h2;exact ⟨n,rfl,h1,h2⟩
end Go.AM
set_option maxRecDepth 100000
namespace Go.AM
open Go.IntKind (wrap)
open Go.Proofs
def P7 (r:List Int):V:= .list aF (r.map fun n=> .int .i64 n)
theorem ajs {t:TypeId} {x:V} (hu:Tryz.prog.underlying t=some (.slice aF)) (hi:Tryz.prog.underlying aF=some (.int .i64)) (h:nk Tryz.prog t x): ∃r:List Int,x=P7 r∧(r.length≤maxLen∧∀q∈r,-9223372036854775808≤q∧q≤9223372036854775807):=by
 obtain ⟨es,rfl,e1,e2⟩:=WT.amA hu (nk.one (by simp[cA,hu]) h);obtain ⟨r,rfl,hr⟩:=aca (f:=fun n=>V.int .i64 n) (p:=fun q=> -9223372036854775808≤q∧q≤9223372036854775807) fun y hy=>WT.ayR hi (nk.one (by simp[cA,hi]) (e2 y hy));exact ⟨r,rfl,by simpa using e1,hr⟩
def Ki (C:ae) (t44:Int) (dC iA:LV) (t45:Int) {β:Type} (kn:Int→Option β) (kr:((Bool) ⊕ (Int×Bool))→Option β):Option β:=
 bif decide (t45<t44) then
  aq iA t45 fun x7=>
  aq dC t45 fun x8=>
  (C F3 [V.int .i64 ((x7.cell 0).toInt),V.int .i64 ((x7.cell 1).toInt),.list ao ((x7.cell 2).toList),.list ar ((x7.cell 3).toList),V.int .i64 ((x8.cell 0).toInt),V.int .i64 ((x8.cell 1).toInt),.list ao ((x8.cell 2).toList),.list ar ((x8.cell 3).toList)]).bind fun r9=>
  bif !((V.nth r9 0).toBool) then
  kr (.inl false)
  else
  kn (wrap .i64 (t45+1))
 else
  kr (.inr (t45,decide (t45<t44)))
def Y6 (C:ae) (t44:Int) (dC iA:LV):=fun t45=>Ki C t44 dC iA t45 (fun y=>some (Sum.inl y)) (fun r=>some (Sum.inr r))
def ayS (C:ae):cE:=bG 177 To [EQ,H1,EQ,EQ] [[0],[1,0,0,3,4]] (@Ki C) bm
theorem ayT (C:ae):aW C (ayS C) 3 (Lp [1,1,1,1,1,1,1,1,0,1,0,0] 3):=bE To [EQ,H1,EQ,EQ] [[0],[1,0,0,3,4]] (@Ki C) (aG an)
def ajo (C:ae) (l:LV):Option LV:=
 (C Mu [.list aF l]).bind fun r1=>
 (C vV [V.int .i64 2,.list aF ((V.nth r1 0).toList),V.int .i64 ((V.nth (r1.drop 1) 0).toInt)]).bind fun r2=>
 (C Mv [V.int .i64 (wrap .i64 (1+((V.nth r2 0).toInt))),V.int .i64 7,.list aF ((V.nth (r2.drop 1) 0).toList),V.int .i64 ((V.nth ((r2.drop 1).drop 1) 0).toInt)]).bind fun r3=>
 (C FZ [.list jy ((V.nth ((r3.drop 1).drop 2) 0).toList),V.int .i64 ((V.nth r3 0).toInt),V.int .i64 (wrap .i64 (1+((V.nth r2 0).toInt)))]).bind fun r4=>
 bif (((V.nth r4 0).toInt):Int) != 0 then
  (C F0 []).bind fun r5=>
  some [.bool ((V.nth r5 0).toBool)]
 else
  (C Mw [.list jy ((V.nth ((r3.drop 1).drop 2) 0).toList),V.int .i64 ((V.nth r3 0).toInt),V.int .i64 (wrap .i64 (1+((V.nth r2 0).toInt)))]).bind fun r6=>
  bif (((V.nth r6 0).toInt):Int) != 0 then
  some [.bool false]
  else
  bif ((((V.nth (r6.drop 1) 0).toList).length:Int):Int) != (((V.nth (r4.drop 1) 0).toList).length:Int) then
   some [.bool false]
  else
   (Loop (Y6 C (((V.nth (r6.drop 1) 0).toList).length:Int) ((V.nth (r4.drop 1) 0).toList) ((V.nth (r6.drop 1) 0).toList)) 0).bind (bN (fun (xV:Bool)=>
    some [.bool xV]) (un fun (xW:Int) (xX:Bool)=>
    (C F0 []).bind fun qE=>
    some [.bool ((V.nth qE 0).toBool)]))
theorem ayU {l:LV} {r:Option LV} (h:ajo CC l=r):CC SD [.list aF l]=r:=bj (aU (ayT CC) an) h
theorem ajt (l:List Int):CC SD [P7 l]=some [.bool true]:=by
 refine ayU ?_;unfold ajo;obtain ⟨t,e1⟩:=aoQ l;refine bs e1 ?_;obtain ⟨v,t1,hv,e2⟩:=CR t (n:=2) (by omega) (by omega);refine bs e2 ?_;have hw:wrap .i64 (1+(v:Int))=((v+1:Nat):Int):=by rw[dM];omega
 have hL:v+1=1∨v+1=2:=by omega
 obtain ⟨g,t2,hg,hl,e3⟩:=aoR t1 (L:=v+1) (m:=7) (by omega) (by omega) (by omega) (by omega);have n1:=hg.n1;have n2:=hg.n2;simp only[V.ct,V.toInt_int,mq,jZ,Tp.L,Tp.K,V.ki,hw];refine bs e3 ?_;simp only[V.ct,V.toInt_int,mq,jZ,Tp.L,Tp.K,V.ki];have er:(g.length:Int)-1=((g.length-1:Nat):Int):=by omega
 rw[er];rcases ayD hL hg (r:=g.length-1) (by omega) with ⟨O,h1,h2,h3⟩|h3
 ·refine bs h3 (bF rfl ?_);refine bs (ayP hL hg h2 h1 (by omega)) (bF rfl ?_);simp only[V.ct,mq,jZ,V.ki];refine bF (by simp) ?_;rw[Y1];refine bs (eh O.length (fun i=>(i:Int)) (.inr ((O.length:Int),false)) (fun i hi=> ?_) ?_) ?_
  ·simp only[Y6,Ki,aq];refine bT (cO hi) ?_;refine (eu (jd hi)).trans ((eu (jd hi)).trans ?_)
   refine bs (h2.gd _ (mT hi)).ok.same ?_;refine bF rfl ?_;rw[cG (by omega)]
  ·simp only[Y6,Ki];refine bF (bt (az _)) ?_;rw[bt (az _)]
  ·simp only[bN,un];refine bs ajn ?_;rfl
 ·refine bs h3 (bT rfl ?_);refine bs ajn ?_;rfl
end Go.AM
