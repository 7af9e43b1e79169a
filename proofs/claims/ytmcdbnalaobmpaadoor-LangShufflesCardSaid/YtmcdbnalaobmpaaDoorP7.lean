/-
  Functions of vr program, lifted to plain data.
-/
import Derived.Test.YtmcdbnalaobmpaaDoorP6
set_option linter.unusedVariables false
set_option linter.unusedSimpArgs false
set_option maxRecDepth 100000
namespace Go.AM
open Go.Proofs
noncomputable abbrev pZ:Code:=cI Tryd.prog (ar.aW 27)
noncomputable def CM (C:ae) (m p q t41 t42 t47 t48:Int) (t62:Bool) (dI ed gi gj fL fM aO aK aT aP:Int) (cX bR br bc bm bM cf:List V) {β:Type} (kr:(Int)→Option β):Option β:=
 bif t62 then
  (C wO [.int .i64 (IntKind.wrap .i64 ((IntKind.wrap .i64 (m*p))+q))]).bind fun r6=>
  kr (IntKind.wrap .u64 ((BitVec.ofInt (IntKind.bits .u64) aP|||BitVec.ofInt (IntKind.bits .u64) ((V.nth r6 0).toInt)).toNat))
 else
  kr aP
noncomputable def CN (C:ae) (m p q t41 t42 t47 t48 dI ed gi gj fL fM aO aK aT aP:Int) (cX bR br bc bm bM:List V) (x:Int) (cf:List V) {β:Type} (kn:(Int × (List V))→Option β) (kr:(Int × Bool × (List V))→Option β):Option β:=
 bif decide ((x:Int)<dI) then
  bif (decide (0≤p))&&(decide (p<(bR.length:Int))) then
  (bR[(p:Int).toNat]?).bind fun x8=>
  (idx x8.toList x).bind fun x9=>
  bif (decide (0≤q))&&(decide (q<(bc.length:Int))) then
   (bc[(q:Int).toNat]?).bind fun gu=>
   (idx gu.toList x).bind fun eJ=>
   bif Nat.ble ((cf.length+([.agg [.int .i64 (IntKind.wrap .i64 ((IntKind.wrap .i64 (m*p))+q)),.int .i64 x,.int .i64 (IntKind.wrap .i64 ((IntKind.wrap .i64 (m*x9.toInt))+q))],.agg [.int .i64 (IntKind.wrap .i64 ((IntKind.wrap .i64 (m*p))+q)),.int .i64 x,.int .i64 (IntKind.wrap .i64 ((IntKind.wrap .i64 (m*p))+eJ.toInt))]]:List V).length)*24) bC then
   kn (IntKind.wrap .i64 (x+1),cf++([.agg [.int .i64 (IntKind.wrap .i64 ((IntKind.wrap .i64 (m*p))+q)),.int .i64 x,.int .i64 (IntKind.wrap .i64 ((IntKind.wrap .i64 (m*x9.toInt))+q))],.agg [.int .i64 (IntKind.wrap .i64 ((IntKind.wrap .i64 (m*p))+q)),.int .i64 x,.int .i64 (IntKind.wrap .i64 ((IntKind.wrap .i64 (m*p))+eJ.toInt))]]:List V))
   else none
  else none
  else none
 else
  kr (x,decide ((x:Int)<dI),cf)
noncomputable def CO (C:ae) (m p q t41 t42 t47 t48 dI ed gi gj fL fM aO aK aT aP:Int) (cX bR br bc bm bM:List V):(Int × (List V))→Option ((Int × (List V)) ⊕ (Int × Bool × (List V))):=un fun x cf=>CN C m p q t41 t42 t47 t48 dI ed gi gj fL fM aO aK aT aP cX bR br bc bm bM x cf (fun y=>some (.inl y)) (fun r=>some (.inr r))
noncomputable def CP (C:ae) (m p t41 t42 t47 dI ed gi gj fL fM aO aK aT:Int) (cX bR br bc bm bM:List V) (t48 aP:Int) (cf:List V) {β:Type} (kn:(Int × Int × (List V))→Option β) (kr:(Int × Bool × Int × (List V))→Option β):Option β:=
 bif decide ((t48:Int)<t47) then
  bif (decide (0≤p))&&(decide (p<(cX.length:Int))) then
  (cX[(p:Int).toNat]?).bind fun x4=>
  bif x4.toBool then
   bif (decide (0≤t48))&&(decide (t48<(br.length:Int))) then
   (br[(t48:Int).toNat]?).bind fun x5=>
   CM C m p t48 t41 t42 t47 t48 x5.toBool dI ed gi gj fL fM aO aK aT aP cX bR br bc bm bM cf (fun (s8:Int)=>
    (Loop (CO C m p t48 t41 t42 t47 t48 dI ed gi gj fL fM aO aK aT s8 cX bR br bc bm bM) (0,cf)).bind (un fun (alv:Int)=>un fun (nq:Bool) (rf:List V)=>
     kn (IntKind.wrap .i64 (t48+1),s8,rf)))
   else none
  else
   CM C m p t48 t41 t42 t47 t48 false dI ed gi gj fL fM aO aK aT aP cX bR br bc bm bM cf (fun (pT:Int)=>
    (Loop (CO C m p t48 t41 t42 t47 t48 dI ed gi gj fL fM aO aK aT pT cX bR br bc bm bM) (0,cf)).bind (un fun (alw:Int)=>un fun (ajt:Bool) (uT:List V)=>
     kn (IntKind.wrap .i64 (t48+1),pT,uT)))
  else none
 else
  kr (t48,decide ((t48:Int)<t47),aP,cf)
noncomputable def NO (C:ae) (m p t41 t42 t47 dI ed gi gj fL fM aO aK aT:Int) (cX bR br bc bm bM:List V):(Int × Int × (List V))→Option ((Int × Int × (List V)) ⊕ (Int × Bool × Int × (List V))):=un fun t48=>un fun aP cf=>CP C m p t41 t42 t47 dI ed gi gj fL fM aO aK aT cX bR br bc bm bM t48 aP cf (fun y=>some (.inl y)) (fun r=>some (.inr r))
noncomputable def CQ (C:ae) (m t41 dI ed gi gj fL fM aO aK aT:Int) (cX bR br bc bm bM:List V) (t42 aP:Int) (cf:List V) {β:Type} (kn:(Int × Int × (List V))→Option β) (kr:(Int × Bool × Int × (List V))→Option β):Option β:=
 bif decide ((t42:Int)<t41) then
  (Loop (NO C m t42 t41 t42 (br.length:Int) dI ed gi gj fL fM aO aK aT cX bR br bc bm bM) (0,aP,cf)).bind (un fun (agr:Int)=>un fun (MB:Bool)=>un fun (akn:Int) (Br:List V)=>
   kn (IntKind.wrap .i64 (t42+1),akn,Br))
 else
  kr (t42,decide ((t42:Int)<t41),aP,cf)
noncomputable def NQ (C:ae) (m t41 dI ed gi gj fL fM aO aK aT:Int) (cX bR br bc bm bM:List V):(Int × Int × (List V))→Option ((Int × Int × (List V)) ⊕ (Int × Bool × Int × (List V))):=un fun t42=>un fun aP cf=>CQ C m t41 dI ed gi gj fL fM aO aK aT cX bR br bc bm bM t42 aP cf (fun y=>some (.inl y)) (fun r=>some (.inr r))
noncomputable def Ya (C:ae):cy:=fun β n ds k=>
 bif Nat.beq n 1007 then mi Ke [[1,2,3,4,5,6,7,9,10,11,12,13,14,15,16,17,0,19,20,21,22,23,24,25]] (@CM C) ds k else
 bif Nat.beq n 257 then bu Kf [false,false,false,true,false,false,false,false,false,false,false,false,false,false,false,false,false,false,false,false,false,false,false,false,true] [[1,2,3,0,5,6,7,8,0,9,10,11,12,13,14,15,16,17,18,19,20,21,22,23,24,0]] (@CN C) ds k else
 bif Nat.beq n 177 then bu Kg [false,false,false,false,false,true,false,false,false,false,false,false,false,false,false,true,false,false,false,false,false,false,true] [[1,2,3,4,5,0,0,7,8,9,10,11,12,13,14,15,0,17,18,19,20,21,22,0]] (@CP C) ds k else
 bif Nat.beq n 129 then bu Kh [false,false,true,false,false,false,false,false,false,false,false,false,true,false,false,false,false,false,false,true] [[1,2,0,0,4,5,6,7,8,9,10,11,12,0,14,15,16,17,18,19,0]] (@CQ C) ds k else
 none
abbrev Hs (C:ae) (b:ct):Prop:=cu Tryd.prog ar C (Ya C) 27 (cP Tryd.prog (ar.aW 27)) (ar.sin 27).a8.length b
theorem ako (C:ae):Hs C (.cond 62 (ak [1,1,1,1,1,1,0,1,0,0,1,1,0,0,1,1,0,0,1,1,0,0,1,0,1,0] pZ) (ak [1,1,1,1,1,1,0,1,0,0,1,1,0,0,1,1,0,0,1,1,0,0,1,0,1,1] pZ)):=
 ng Ke [[1,2,3,4,5,6,7,9,10,11,12,13,14,15,16,17,0,19,20,21,22,23,24,25]] (@CM C) (by kernel_rfl) (aS (bs:=[]) (by kernel_rfl) ao) (aS (bs:=[]) (by kernel_rfl) ao) (fun ds=>by kernel_rfl) (fun i β k=>by kernel_rfl) (fun β ds k=>by kernel_rfl)
theorem akp (C:ae):Hs C (.loop (ak [1,1,1,1,1,1,0,1,0,0,1,1,0,0,1,1,0,0,1,1,0,0,1,1,1,0,0] pZ)):=
 bz Kf [false,false,false,true,false,false,false,false,false,false,false,false,false,false,false,false,false,false,false,false,false,false,false,false,true] [[1,2,3,0,5,6,7,8,0,9,10,11,12,13,14,15,16,17,18,19,20,21,22,23,24,0]] (@CN C) (by kernel_rfl) (aS (bs:=[]) (by kernel_rfl) ao) (fun ds=>by kernel_rfl) (fun i x=>by kernel_rfl) (fun i x β k=>by kernel_rfl) (fun β ds k=>by kernel_rfl)
theorem akq (C:ae):Hs C (.loop (ak [1,1,1,1,1,1,0,1,0,0,1,1,0,0,1,1,0,0] pZ)):=
 bz Kg [false,false,false,false,false,true,false,false,false,false,false,false,false,false,false,true,false,false,false,false,false,false,true] [[1,2,3,4,5,0,0,7,8,9,10,11,12,13,14,15,0,17,18,19,20,21,22,0]] (@CP C) (by kernel_rfl) (aS (bs:=[.cond 62 (ak [1,1,1,1,1,1,0,1,0,0,1,1,0,0,1,1,0,0,1,1,0,0,1,0,1,0] pZ) (ak [1,1,1,1,1,1,0,1,0,0,1,1,0,0,1,1,0,0,1,1,0,0,1,0,1,1] pZ),.loop (ak [1,1,1,1,1,1,0,1,0,0,1,1,0,0,1,1,0,0,1,1,0,0,1,1,1,0,0] pZ)]) (by kernel_rfl) (bd (ako C) (bd (akp C) ao))) (fun ds=>by kernel_rfl) (fun i x=>by kernel_rfl) (fun i x β k=>by kernel_rfl) (fun β ds k=>by kernel_rfl)
theorem akr (C:ae):Hs C (.loop (ak [1,1,1,1,1,1,0,1,0,0] pZ)):=
 bz Kh [false,false,true,false,false,false,false,false,false,false,false,false,true,false,false,false,false,false,false,true] [[1,2,0,0,4,5,6,7,8,9,10,11,12,0,14,15,16,17,18,19,0]] (@CQ C) (by kernel_rfl) (aS (bs:=[.loop (ak [1,1,1,1,1,1,0,1,0,0,1,1,0,0,1,1,0,0] pZ)]) (by kernel_rfl) (bd (akq C) ao)) (fun ds=>by kernel_rfl) (fun i x=>by kernel_rfl) (fun i x β k=>by kernel_rfl) (fun β ds k=>by kernel_rfl)
noncomputable def Yb (C:ae) (cD cO:Int) (cK dp:List V) (cL cR:Int) (cS dy:List V):Option (List V):=
 (C sy [.int .i64 cD,.int .i64 cO,.list aw cK,.list ay dp]).bind fun r1=>
 (C sy [.int .i64 cL,.int .i64 cR,.list aw cS,.list ay dy]).bind fun r2=>
 bif decide (((IntKind.wrap .i64 ((((V.nth (r2.drop 2) 0).toList).length:Int)*(((V.nth (r1.drop 2) 0).toList).length:Int))):Int)>64) then
  some [.int .i64 0,.int .i64 0,.int .i64 3,.list aw ([]:List V),.list ay ([]:List V)]
 else
  (C wO [.int .i64 (IntKind.wrap .i64 ((IntKind.wrap .i64 ((((V.nth (r2.drop 2) 0).toList).length:Int)*((V.nth (r1.drop 1) 0).toInt)))+((V.nth (r2.drop 1) 0).toInt)))]).bind fun r3=>
  (Loop (NQ C (((V.nth (r2.drop 2) 0).toList).length:Int) (((V.nth (r1.drop 2) 0).toList).length:Int) ((V.nth r1 0).toInt) ((V.nth (r1.drop 1) 0).toInt) ((V.nth r2 0).toInt) ((V.nth (r2.drop 1) 0).toInt) 0 0 ((V.nth r1 0).toInt) (IntKind.wrap .i64 ((((V.nth (r2.drop 2) 0).toList).length:Int)*(((V.nth (r1.drop 2) 0).toList).length:Int))) ((V.nth r3 0).toInt) ((V.nth (r1.drop 2) 0).toList) ((V.nth ((r1.drop 2).drop 1) 0).toList) ((V.nth (r2.drop 2) 0).toList) ((V.nth ((r2.drop 2).drop 1) 0).toList) ([]:List V) ([]:List V)) (0,0,([]:List V))).bind (un fun (Ms:Int)=>un fun (afd:Bool)=>un fun (NJ:Int) (NK:List V)=>
   (C ET [.int .i64 ((V.nth r1 0).toInt),.int .i64 (IntKind.wrap .i64 ((((V.nth (r2.drop 2) 0).toList).length:Int)*(((V.nth (r1.drop 2) 0).toList).length:Int))),.int .u64 ((V.nth r3 0).toInt),.int .u64 NJ,.list aq NK]).bind fun CR=>
   some [.int .i64 ((V.nth CR 0).toInt),.int .i64 ((V.nth (CR.drop 1) 0).toInt),.int .i64 ((V.nth (CR.drop 2) 0).toInt),.list aw ((V.nth (CR.drop 3) 0).toList),.list ay ((V.nth ((CR.drop 3).drop 1) 0).toList)])
theorem aks {cD cO:Int} {cK dp:List V} {cL cR:Int} {cS dy:List V} {r:Option (List V)} (h:Yb CC cD cO cK dp cL cR cS dy=r):CC zG [.int .i64 cD,.int .i64 cO,.list aw cK,.list ay dp,.int .i64 cL,.int .i64 cR,.list aw cS,.list ay dy]=r:=
 bn (key:=27) (L:=Ya CC) (bs:=[.loop (ak [1,1,1,1,1,1,0,1,0,0] pZ)]) (by kernel_rfl) (bd (akr CC) ao) (Eq.trans (by kernel_rfl) h)
theorem p5 {a b:Nat} (h:a*b≤1000000000):IntKind.wrap .i64 ((a:Int)*(b:Int))=((a*b:Nat):Int):=by
 rw[←Int.natCast_mul,wrap64 (by omega) (by omega)]
def CS (m k:Da) (p q x:Nat):List Ed:=[fK (k.n*p+q) x (k.n*m.nx p x+q),fK (k.n*p+q) x (k.n*p+k.nx q x)]
def lP (m k:Da) (p q n:Nat):List Ed:=fm n (CS m k p q)
def iT (m k:Da) (p n:Nat):List Ed:=fm n fun q=>lP m k p q m.L
def iC (m k:Da) (n:Nat):List Ed:=fm n fun p=>iT m k p k.n
def p6 (m k:Da):Nat→Nat
 | 0=>0
 | p+1=>jn (p6 m k p) (fun q=>m.fin p&&k.fin q) (k.n*p) k.n
def mI (m k:Da) (p i:Nat):Nat:=jn (p6 m k p) (fun q=>m.fin p&&k.fin q) (k.n*p) i
def tc (m k:Da):Nat:=2^(k.n*m.st+k.st)
def rE (m k:Da):Nf:=cE m.L (k.n*m.n) (tc m k) (p6 m k m.n) (iC m k m.n)
theorem rF {a b p q:Nat} (hp:p<b) (hq:q<a):a*p+q<a*b:=by
 have:a*(p+1)≤a*b:=Nat.mul_le_mul_left _ hp
 rw[Nat.mul_add] at this
 omega
section
variable {m k:Da} (hm:m.Ok)
include hm
omit hm in
theorem NR {p q n:Nat}:(lP m k p q n).length≤n*2:=xX fun _ _=>Nat.le_refl _
theorem NS {p n:Nat}:(iT m k p n).length≤n*12:=xX fun q _=>by
 have:=hm.l6
 have:=NR (m:=m) (k:=k) (p:=p) (q:=q) (n:=m.L)
 omega
variable (hk:k.Ok)
include hk
theorem NT {n:Nat}:(iC m k n).length≤n*6144:=xX fun p _=>by
 have:=hk.eD
 have:=NS hm (k:=k) (p:=p) (n:=k.n)
 omega
omit hm hk in
theorem NU {p i:Nat} (hs:k.n*m.n≤64) (hp:p<m.n) (hi:i≤k.n) (hF:p6 m k p<2^(k.n*m.n)):mI m k p i<2^(k.n*m.n):=by
 have:k.n*(p+1)≤k.n*m.n:=Nat.mul_le_mul_left _ hp
 rw[Nat.mul_add] at this
 exact Ho hF (by omega)
omit hm hk in
theorem Ht (hs:k.n*m.n≤64): ∀p,p≤m.n→p6 m k p<2^(k.n*m.n)
 | 0,_=>Nat.two_pow_pos _
 | p+1,hp=>NU hs (by omega) (Nat.le_refl _) (Ht hs p (by omega))
variable (hL:m.L=k.L)
include hL
theorem NV (hs:k.n*m.n≤64):vo m.L (k.n*m.n) (tc m k) (p6 m k m.n) (iC m k m.n) where
 l1:=hm.l1
 l6:=hm.l6
 pI:=hs
 st:=Nat.pow_lt_pow_right (by omega) (rF hm.s hk.s)
 fin:=Ht hs _ (Nat.le_refl _)
 E:=fun e he=>by
  obtain ⟨p,hp,he⟩:=CE.1 he
  obtain ⟨q,hq,he⟩:=CE.1 he
  obtain ⟨x,hx,he⟩:=CE.1 he
  have h1:=hm.eE hp hx
  have h2:=hk.eE hq (hL▸hx)
  rcases List.mem_cons.1 he with rfl|he
  ·exact Hr (rF hp hq) hx (rF h1 hq)
  ·rw[List.mem_singleton] at he
   subst he
   exact Hr (rF hp hq) hx (rF hp h2)
 len:=by
  have h1:=NT hm hk (n:=m.n)
  have h2:=hm.s
  have h3:=hk.s
  have h4:1*m.n≤k.n*m.n:=Nat.mul_le_mul_right _ (by omega)
  omega
end
section
variable {a b m k:Da} (hm:m.Ok) (hk:k.Ok) (rG:m.L=a.L) (CT:k.L=a.L)
include hm hk rG CT
theorem akt (hb:CC wM (gE a (dc b))=some (CF m k 0)) (hs:k.n*m.n≤64):CC ur (gE a (dc b))=some (kQ (eR (rE m k) a.L (k.n*m.n)) (kT (rE m k) a.L (k.n*m.n))):=by
 have h6:=hm.l6
 have bP:=hm.s
 have NW:=hk.s
 have vq:m.L=k.L:=rG.trans CT.symm
 have hr:=ajn (NV hm hk vq hs)
 have je:1*m.n≤k.n*m.n:=Nat.mul_le_mul_right _ (by omega)
 have aku:(2:Nat)^(k.n*m.n)≤2^64:=Nat.pow_le_pow_right (by omega) hs
 have sr:k.n*1≤k.n*m.n:=Nat.mul_le_mul_left _ (by omega)
 have b0:=rF bP NW
 refine X9 ?_
 unfold NN
 refine bs hb (bF rfl ?_)
 simp only[CF,V.bU,List.drop_succ_cons,List.drop_zero,V.toInt_int,V.nc,Da.nw]
 rw[p5 (a:=k.n) (b:=m.n) (by omega),p5 (a:=k.n) (b:=m.st) (by omega),nR (by omega),show m.cB.length=m.n from dY]
 refine bs (XU hs) (bF rfl ?_)
 refine bs (XS (q:=k.n*m.st+k.st) (l:=[]) (by omega) (by omega)) ?_
 rw[Nat.zero_or]
 refine bs (pU m.n (fun i=>((i:Int),(a.L:Int),((k.n*m.n:Nat):Int),(tc m k:Int),(p6 m k i:Int),(iC m k i).map Ed.enc)) ((m.n:Int),false,(a.L:Int),((k.n*m.n:Nat):Int),(tc m k:Int),(p6 m k m.n:Int),(iC m k m.n).map Ed.enc) rfl (fun p hp=> ?_) ?_) ?_
 ·have NX:=Ht hs p (by omega)
  have l1:=NT hm hk (n:=p)
  simp only[NL,CL,un]
  refine bT (dx hp) ?_
  refine (dM (i:=p) hp).trans ?_
  rw[show (fx m.L (m.nx p)).toList=tab m.L fun x=>nV (m.nx p x) from rfl,show k.cB.length=k.n from dY]
  refine bs (pU k.n (fun i=>((i:Int),(a.L:Int),((k.n*m.n:Nat):Int),(tc m k:Int),(mI m k p i:Int),(iC m k p++iT m k p i).map Ed.enc)) ((k.n:Int),false,(a.L:Int),((k.n*m.n:Nat):Int),(tc m k:Int),(mI m k p k.n:Int),(iC m k p++iT m k p k.n).map Ed.enc) (by rw[show iT m k p 0=[] from rfl,List.append_nil];rfl) (fun q hq=> ?_) ?_) ?_
  ·have hG:=NU hs hp (show q≤k.n by omega) NX
   have l2:=NS hm (k:=k) (p:=p) (n:=q)
   have b1:=rF hp hq
   have b2:k.n*p≤k.n*m.n:=Nat.mul_le_mul_left _ (by omega)
   simp only[NI,CK,un]
   refine bT (dx hq) ?_
   refine (dM (i:=q) hq).trans ?_
   rw[show (fx k.L (k.nx q)).toList=tab k.L fun x=>nV (k.nx q x) from rfl,p5 (a:=k.n) (b:=p) (by omega),nR (by omega)]
   refine bs (pU a.L (fun i=>((i:Int),(a.L:Int),((k.n*m.n:Nat):Int),(tc m k:Int),(mI m k p q:Int),((iC m k p++iT m k p q)++lP m k p q i).map Ed.enc)) ((a.L:Int),false,(a.L:Int),((k.n*m.n:Nat):Int),(tc m k:Int),(mI m k p q:Int),((iC m k p++iT m k p q)++lP m k p q m.L).map Ed.enc) (by rw[show lP m k p q 0=[] from rfl,List.append_nil];rfl) (fun x hx=> ?_) ?_) ?_
   ·have l3:=NR (m:=m) (k:=k) (p:=p) (q:=q) (n:=x)
    have c1:=hm.eE hp (rG▸hx)
    have c2:=hk.eE hq (CT▸hx)
    have b3:k.n*m.nx p x≤k.n*m.n:=Nat.mul_le_mul_left _ (by omega)
    simp only[NG,CJ,un]
    refine bT (dx hx) ?_
    refine bs (oK (rG▸hx)) ?_
    rw[show (nV (m.nx p x)).toInt=((m.nx p x:Nat):Int) from rfl,p5 (a:=k.n) (b:=m.nx p x) (by omega),nR (by omega)]
    refine bs (Hn (by rw[List.length_append,List.length_append];omega)) ?_
    refine bs (oK (CT▸hx)) ?_
    rw[show (nV (k.nx q x)).toInt=((k.nx q x:Nat):Int) from rfl,p5 (a:=k.n) (b:=p) (by omega),nR (by omega)]
    refine bs (Hn (by rw[List.length_append,List.length_append,List.length_append];simp;omega)) ?_
    rw[cA (by omega),show lP m k p q (x+1)=lP m k p q x++CS m k p q x from rB]
    simp[aN,CS]
   ·simp only[NG,CJ,un]
    refine bF (bt (Nat.le_refl _)) ?_
    rw[bt (Nat.le_refl _),rG]
   ·simp only[un]
    refine (dM (i:=p) hp).trans ?_
    rw[V.j5]
    have e1:iT m k p (q+1)=iT m k p q++lP m k p q m.L:=rB
    have e2:mI m k p (q+1)=if (m.fin p&&k.fin q)=true then mI m k p q|||2^(q+k.n*p) else mI m k p q:=rfl
    rw[e1,e2,←List.append_assoc]
    cases hf:m.fin p with
    | true=>
     refine bT rfl ?_
     refine (dM (i:=q) hq).trans ?_
     rw[V.j5]
     cases hg:k.fin q with
     | true=>
      refine bT rfl ?_
      refine bs (XT (q:=k.n*p+q) (by omega) (by omega)) ?_
      rw[cA (by omega),if_pos (by rfl),Nat.add_comm q (k.n*p)]
      rfl
     | false=>
      refine bF rfl ?_
      rw[cA (by omega),if_neg (by simp)]
    | false=>
     refine bF rfl ?_
     rw[cA (by omega),if_neg (by simp)]
  ·simp only[NI,CK,un]
   refine bF (bt (Nat.le_refl _)) ?_
   rw[bt (Nat.le_refl _)]
  ·simp only[un]
   rw[cA (by omega),show iC m k (p+1)=iC m k p++iT m k p k.n from rB]
   rfl
 ·simp only[NL,CL,un]
  refine bF (bt (Nat.le_refl _)) ?_
  rw[bt (Nat.le_refl _)]
 ·simp only[un]
  rw[rG] at hr
  refine bs hr ?_
  show _=some (kQ (eR (cE m.L _ _ _ _) a.L _) (kT (cE m.L _ _ _ _) a.L _))
  rw[rG]
  rfl
theorem akv (ha:CC sy (dc a)=some (dc m)) (hb:CC sy (dc b)=some (dc k)) (hs:k.n*m.n≤64):CC zG (gE a (dc b))=some (kQ (eR (rE m k) a.L (k.n*m.n)) (kT (rE m k) a.L (k.n*m.n))):=by
 have h6:=hm.l6
 have bP:=hm.s
 have NW:=hk.s
 have vq:m.L=k.L:=rG.trans CT.symm
 have hr:=ajo (NV hm hk vq hs)
 have je:1*m.n≤k.n*m.n:=Nat.mul_le_mul_right _ (by omega)
 have aku:(2:Nat)^(k.n*m.n)≤2^64:=Nat.pow_le_pow_right (by omega) hs
 have sr:k.n*1≤k.n*m.n:=Nat.mul_le_mul_left _ (by omega)
 have b0:=rF bP NW
 refine aks ?_
 unfold Yb
 refine bs ha ?_
 refine bs hb ?_
 simp only[dc,gE,V.bU,List.drop_succ_cons,List.drop_zero,V.toInt_int,V.nc,Da.nw]
 rw[p5 (a:=k.n) (b:=m.n) (by omega)]
 refine bF (decide_eq_false (by omega)) ?_
 rw[p5 (a:=k.n) (b:=m.st) (by omega),nR (by omega)]
 refine bs (LP (by omega)) ?_
 refine bs (pU m.n (fun i=>((i:Int),(p6 m k i:Int),(iC m k i).map Ed.enc)) ((m.n:Int),false,(p6 m k m.n:Int),(iC m k m.n).map Ed.enc) rfl (fun p hp=> ?_) ?_) ?_
 ·have NX:=Ht hs p (by omega)
  have l1:=NT hm hk (n:=p)
  simp only[NQ,CQ,un]
  refine bT (dx hp) ?_
  rw[Da.nw]
  refine bs (pU k.n (fun i=>((i:Int),(mI m k p i:Int),(iC m k p++iT m k p i).map Ed.enc)) ((k.n:Int),false,(mI m k p k.n:Int),(iC m k p++iT m k p k.n).map Ed.enc) (by rw[show iT m k p 0=[] from rfl,List.append_nil];rfl) (fun q hq=> ?_) ?_) ?_
  ·have hG:=NU hs hp (show q≤k.n by omega) NX
   have l2:=NS hm (k:=k) (p:=p) (n:=q)
   have b1:=rF hp hq
   have b2:k.n*p≤k.n*m.n:=Nat.mul_le_mul_left _ (by omega)
   have e1:iT m k p (q+1)=iT m k p q++lP m k p q m.L:=rB
   have e2:mI m k p (q+1)=if (m.fin p&&k.fin q)=true then mI m k p q|||2^(q+k.n*p) else mI m k p q:=rfl
   have key: ∀{F:Int} {c0 c1 c2 c3:Int} {l0 l1:List V},Loop (CO CC (k.n:Int) (p:Int) (q:Int) (m.n:Int) (p:Int) (k.n:Int) (q:Int) (m.L:Int) (m.st:Int) (k.L:Int) (k.st:Int) c0 c1 (m.L:Int) c2 c3 F m.cU m.cB k.cU k.cB l0 l1) (0,(iC m k p++iT m k p q).map Ed.enc)=some ((m.L:Int),false,((iC m k p++iT m k p q)++lP m k p q m.L).map Ed.enc):=by
    intro F c0 c1 c2 c3 l0 l1
    refine pU m.L (fun i=>((i:Int),((iC m k p++iT m k p q)++lP m k p q i).map Ed.enc)) _ (by rw[show lP m k p q 0=[] from rfl,List.append_nil];rfl) (fun x hx=> ?_) ?_
    ·have l3:=NR (m:=m) (k:=k) (p:=p) (q:=q) (n:=x)
     have c1:=hm.eE hp hx
     have c2:=hk.eE hq (vq▸hx)
     have b3:k.n*m.nx p x≤k.n*m.n:=Nat.mul_le_mul_left _ (by omega)
     simp only[CO,CN,un]
     refine bT (dx hx) ?_
     refine (dM (i:=p) hp).trans ?_
     refine bs (oK hx) ?_
     refine (dM (i:=q) hq).trans ?_
     refine bs (oK (vq▸hx)) ?_
     rw[show (iV (m.nx p x)).toInt=((m.nx p x:Nat):Int) from rfl,show (iV (k.nx q x)).toInt=((k.nx q x:Nat):Int) from rfl,p5 (a:=k.n) (b:=m.nx p x) (by omega),p5 (a:=k.n) (b:=p) (by omega),nR (by omega),nR (by omega),nR (by omega)]
     refine bT (cap (by simp;omega) (by omega)) ?_
     rw[cA (by omega),show lP m k p q (x+1)=lP m k p q x++CS m k p q x from rB]
     simp[CS,fK,Ed.enc]
    ·simp only[CO,CN,un]
     refine bF (bt (Nat.le_refl _)) ?_
     rw[bt (Nat.le_refl _)]
   simp only[NO,CP,un]
   refine bT (dx hq) ?_
   refine (dM (i:=p) hp).trans ?_
   rw[V.j5,e1,e2,←List.append_assoc]
   unfold CM
   cases hf:m.fin p with
   | true=>
    refine bT rfl ?_
    refine (dM (i:=q) hq).trans ?_
    rw[V.j5]
    cases hg:k.fin q with
    | true=>
     refine bT rfl ?_
     rw[p5 (a:=k.n) (b:=p) (by omega),nR (by omega)]
     refine bs (LP (by omega)) ?_
     rw[show (V.nth [V.int .u64 ((2^(k.n*p+q):Nat):Int)] 0).toInt=((2^(k.n*p+q):Nat):Int) from rfl,u64_or (by omega) (Nat.pow_lt_pow_right (by omega) (by omega)),if_pos (by rfl),Nat.add_comm q (k.n*p)]
     refine bs key ?_
     simp only[un]
     rw[cA (by omega)]
    | false=>
     refine bF rfl ?_
     rw[if_neg (by simp)]
     refine bs key ?_
     simp only[un]
     rw[cA (by omega)]
   | false=>
    refine bF rfl ?_
    rw[if_neg (by simp)]
    refine bF rfl ?_
    refine bs key ?_
    simp only[un]
    rw[cA (by omega)]
  ·simp only[NO,CP,un]
   refine bF (bt (Nat.le_refl _)) ?_
   rw[bt (Nat.le_refl _)]
  ·simp only[un]
   rw[cA (by omega),show iC m k (p+1)=iC m k p++iT m k p k.n from rB]
   rfl
 ·simp only[NQ,CQ,un]
  refine bF (bt (Nat.le_refl _)) ?_
  rw[bt (Nat.le_refl _)]
 ·simp only[un]
  refine bs hr ?_
  show _=some (kQ (eR (cE m.L _ _ _ _) a.L _) (kT (cE m.L _ _ _ _) a.L _))
  rw[rG]
  rfl
end
section
variable {a b:Da} (ha:a.Ok) (hb:b.Ok) (hL:a.L=b.L)
include ha hb hL
theorem akw (hs:(minD b).n*(minD a).n≤64):CC ur (gE a (dc b))=some (kQ (eR (rE (minD a) (minD b)) a.L ((minD b).n*(minD a).n)) (kT (rE (minD a) (minD b)) a.L ((minD b).n*(minD a).n))):=
 akt (rC ha) (rC hb) (nT ha) ((nT hb).trans hL.symm) (ajR ha hb hL) hs
theorem akx (hs:(minD b).n*(minD a).n≤64):CC zG (gE a (dc b))=some (kQ (eR (rE (minD a) (minD b)) a.L ((minD b).n*(minD a).n)) (kT (rE (minD a) (minD b)) a.L ((minD b).n*(minD a).n))):=
 akv (rC ha) (rC hb) (nT ha) ((nT hb).trans hL.symm) (MK ha) (MK hb) hs
end
theorem aky {d e:Df} (hd:d.Ok) (he:e.Ok) (hv:nQ d e≠0):CC ur (jo d (jo e []))=some (kQ zD (nQ d e)):=by
 refine X9 ?_
 unfold NN
 refine bs (ajS hd he hv) (bT (by simpa[CF] using hv) ?_)
 rfl
def eS:Da:=⟨2,0,[false,true],[[1,0],[0,1]]⟩
def mJ:Da:=⟨2,0,[false,true],[[1,0],[1,1]]⟩
theorem CU:eS.Ok:=⟨by decide,by decide,by decide,by decide,by decide,by decide⟩
theorem Hu:mJ.Ok:=⟨by decide,by decide,by decide,by decide,by decide,by decide⟩
theorem akz:eS.Canon eS.L (eS.acc eS.st) where
 ok:=CU
 hL:=rfl
 st:=rfl
 num:=⟨by decide,by decide,by decide⟩
 red:=fun p q hp hq h=>by
  have h0:=h [] WL.nil
  have hp':p<2:=hp
  have ca:q<2:=hq
  have: ∀p,p<2→∀q,q<2→eS.acc p []=eS.acc q []→p=q:=by decide
  exact this p hp' q ca h0
 ly:=fun _ _=>rfl
theorem akA:mJ.Canon mJ.L (mJ.acc mJ.st) where
 ok:=Hu
 hL:=rfl
 st:=rfl
 num:=⟨by decide,by decide,by decide⟩
 red:=fun p q hp hq h=>by
  have h0:=h [] WL.nil
  have hp':p<2:=hp
  have ca:q<2:=hq
  have: ∀p,p<2→∀q,q<2→mJ.acc p []=mJ.acc q []→p=q:=by decide
  exact this p hp' q ca h0
 ly:=fun _ _=>rfl
theorem Yc:minD eS=eS:=(xn CU akz).symm
theorem akB:eQ (xY eS) 2 2=mJ:=by kernel_rfl
theorem Yd: ¬fZ (xY eS) 2 2:=by
 have:=u5 (nP (X5 CU (by decide))) (2^2)
 exact fun h=>absurd (Nat.lt_of_lt_of_le h this) (by decide)
theorem akC:eR (xY eS) 2 2=mJ:=by
 unfold eR
 rw[if_neg Yd,akB]
 exact (xn Hu akA).symm
noncomputable def Ye (C:ae):Option (List V):=
 (C ER []).bind fun r1=>
 (C EM [.int .i64 ((V.nth r1 0).toInt),.int .i64 ((V.nth (r1.drop 1) 0).toInt),.list aw ((V.nth (r1.drop 2) 0).toList),.list ay ((V.nth ((r1.drop 2).drop 1) 0).toList)]).bind fun r2=>
 bif (((V.nth (r2.drop 2) 0).toInt):Int)==0 then
  bif ((((V.nth (r2.drop 3) 0).toList).length:Int):Int)==2 then
  (C zH [.int .i64 ((V.nth r2 0).toInt),.int .i64 ((V.nth (r2.drop 1) 0).toInt),.list aw ((V.nth (r2.drop 3) 0).toList),.list ay ((V.nth ((r2.drop 3).drop 1) 0).toList),.str [98,97,97]]).bind fun r3=>
  bif (V.nth r3 0).toBool then
   (C zH [.int .i64 ((V.nth r2 0).toInt),.int .i64 ((V.nth (r2.drop 1) 0).toInt),.list aw ((V.nth (r2.drop 3) 0).toList),.list ay ((V.nth ((r2.drop 3).drop 1) 0).toList),.str [98,98]]).bind fun r4=>
   some [.bool (!((V.nth r4 0).toBool))]
  else
   some [.bool false]
  else
  some [.bool false]
 else
  some [.bool false]
theorem akD {r:Option (List V)} (h:Ye CC=r):CC wL []=r:=
 bn (key:=19) (L:=db) (bs:=[]) (by kernel_rfl) ao (Eq.trans (by kernel_rfl) h)
noncomputable def akE (C:ae):Option (List V):=
 some [.int .i64 2,.int .i64 0,.list aw ([.bool false,.bool true]:List V),.list ay ([.list bf ([.int .i64 1,.int .i64 0]:List V),.list bf ([.int .i64 0,.int .i64 1]:List V)]:List V)]
theorem akF {r:Option (List V)} (h:akE CC=r):CC ER []=r:=
 bn (key:=59) (L:=db) (bs:=[]) (by kernel_rfl) ao (Eq.trans (by kernel_rfl) h)
def Yf:List Ed:=[⟨0,0,1⟩,⟨0,1,0⟩,⟨1,0,0⟩,⟨1,1,1⟩,⟨0,0,0⟩,⟨0,1,0⟩,⟨1,0,1⟩,⟨1,1,1⟩]
def NY:List Ed:=[⟨0,0,0⟩,⟨0,0,1⟩,⟨0,1,0⟩,⟨0,1,0⟩,⟨1,0,0⟩,⟨1,0,1⟩,⟨1,1,1⟩,⟨1,1,1⟩]
def Hv:List Ed:=[⟨0,0,0⟩,⟨0,0,1⟩,⟨0,1,0⟩,⟨1,0,0⟩,⟨1,0,1⟩,⟨1,1,1⟩]
theorem akG:jK eS 0++jL 2 2=Yf:=by decide
theorem akH:CC zN [.list aq (Yf.map Ed.enc)]=some [.list aq (NY.map Ed.enc)]:=abI (N:=40) (n:=40) (by kernel_rfl)
theorem akI:xY eS=⟨2,2,1,2,Hv⟩:=by kernel_rfl
theorem akJ:CC uv (aN 2 2 (2^eS.st) (jn 0 eS.fin 0 2) (jK eS 0++jL 2 2))=some (No mJ 0 ⟨2,2,1,2,Hv⟩):=by
 obtain ⟨b,e2⟩:=Wq (l:=NY) (by decide)
 have hc:iz NY=Hv:=by decide
 rw[hc] at e2
 have e3:=XB (nP (X5 CU (by decide)))
 rw[show cE eS.L eS.n (2^eS.st) (jn 0 eS.fin 0 eS.n) (jK eS 0++jL eS.L eS.n)=xY eS from rfl,show eS.L=2 from rfl,show eS.n=2 from rfl,akC,show kT (xY eS) 2 2=0 from if_neg Yd,akI] at e3
 rw[akG]
 refine Xz ?_
 unfold Nm
 refine bs akH ?_
 refine bs e2 ?_
 cases b
 ·refine bF rfl ?_
  refine bs e3 ?_
  rfl
 ·refine bT rfl ?_
  refine bs e3 ?_
  rfl
theorem NZ:CC wL []=some [.bool true]:=by
 have h1:CC ER []=some (dc eS):=akF rfl
 have h2:=aj9 CU (X:=mJ) (e:=0) (n:=⟨2,2,1,2,Hv⟩) (by rw[Yc];decide) (by rw[Yc];exact akJ)
 refine akD ?_
 unfold Ye
 refine bs h1 ?_
 refine bs h2 ?_
 refine bT rfl (bT (by decide) ?_)
 refine bs (UJ Hu (w:=[98,97,97]) (by decide)) ?_
 refine bT (by decide) ?_
 refine bs (UJ Hu (w:=[98,98]) (by decide)) ?_
 rw[show mJ.acc mJ.st (lets [98,98])=false by decide]
 rfl
noncomputable def Hw (C:ae) (cD cO:Int) (cK dp:List V) (cL cR:Int) (cS dy:List V):Option (List V):=
 (C zF [.int .i64 cD,.int .i64 cO,.list aw cK,.list ay dp,.int .i64 cL,.int .i64 cR,.list aw cS,.list ay dy]).bind fun r1=>
 bif (((V.nth r1 0).toInt):Int) != 0 then
  (C ur [.int .i64 cD,.int .i64 cO,.list aw cK,.list ay dp,.int .i64 cL,.int .i64 cR,.list aw cS,.list ay dy]).bind fun r2=>
  (C zE [.int .i64 ((V.nth r2 0).toInt),.int .i64 ((V.nth (r2.drop 1) 0).toInt),.list aw ((V.nth (r2.drop 3) 0).toList),.list ay ((V.nth ((r2.drop 3).drop 1) 0).toList),.int .i64 ((V.nth (r2.drop 2) 0).toInt),.int .i64 0,.int .i64 0,.list aw ([]:List V),.list ay ([]:List V),.int .i64 ((V.nth r1 0).toInt)]).bind fun r3=>
  bif (V.nth r3 0).toBool then
  (C wL []).bind fun r4=>
  some [.bool ((V.nth r4 0).toBool)]
  else
  some [.bool false]
 else
  (C EL [.int .i64 cD,.int .i64 cO,.list aw cK,.list ay dp,.int .i64 cL,.int .i64 cR,.list aw cS,.list ay dy,.int .i64 3]).bind fun r5=>
  bif !((V.nth r5 0).toBool) then
  (C wL []).bind fun r6=>
  some [.bool ((V.nth r6 0).toBool)]
  else
  (C ur [.int .i64 cD,.int .i64 cO,.list aw cK,.list ay dp,.int .i64 cL,.int .i64 cR,.list aw cS,.list ay dy]).bind fun r7=>
  (C zG [.int .i64 cD,.int .i64 cO,.list aw cK,.list ay dp,.int .i64 cL,.int .i64 cR,.list aw cS,.list ay dy]).bind fun r8=>
  (C zE [.int .i64 ((V.nth r7 0).toInt),.int .i64 ((V.nth (r7.drop 1) 0).toInt),.list aw ((V.nth (r7.drop 3) 0).toList),.list ay ((V.nth ((r7.drop 3).drop 1) 0).toList),.int .i64 ((V.nth (r7.drop 2) 0).toInt),.int .i64 ((V.nth r8 0).toInt),.int .i64 ((V.nth (r8.drop 1) 0).toInt),.list aw ((V.nth (r8.drop 3) 0).toList),.list ay ((V.nth ((r8.drop 3).drop 1) 0).toList),.int .i64 ((V.nth (r8.drop 2) 0).toInt)]).bind fun r9=>
  bif (V.nth r9 0).toBool then
   (C wL []).bind fun r10=>
   some [.bool ((V.nth r10 0).toBool)]
  else
   some [.bool false]
theorem N0 {cD cO:Int} {cK dp:List V} {cL cR:Int} {cS dy:List V} {r:Option (List V)} (h:Hw CC cD cO cK dp cL cR cS dy=r):CC JO [.int .i64 cD,.int .i64 cO,.list aw cK,.list ay dp,.int .i64 cL,.int .i64 cR,.list aw cS,.list ay dy]=r:=
 bn (key:=5) (L:=db) (bs:=[]) (by kernel_rfl) ao (Eq.trans (by kernel_rfl) h)
theorem Yi (d:Df) (hd:d.Ok) (e:Df) (he:e.Ok):CC JO (jo d (jo e []))=some [.bool true]:=by
 have hP:=XH hd he
 have hB:=ajU hd he 3
 by_cases hv:nQ d e=0
 case neg=>
  refine N0 ?_
  unfold Hw
  refine bs hP ?_
  refine bT (by simpa using hv) ?_
  refine bs (aky hd he hv) ?_
  refine bs (X1 XG _) (bT rfl ?_)
  exact bs NZ rfl
 by_cases h4:(d.F.length:Int)≤3∧(e.F.length:Int)≤3∧nQ d e=0
 case neg=>
  rw[decide_eq_false h4] at hB
  refine N0 ?_
  unfold Hw
  refine bs hP ?_
  refine bF (by simp[hv]) ?_
  refine bs hB (bT rfl ?_)
  exact bs NZ rfl
 rw[decide_eq_true h4] at hB
 rw[hv] at hP
 obtain ⟨a,b,ha,hb,hL,rfl,rfl⟩:=ajT hv
 have n1:(a.n:Int)≤3:=h4.1
 have n2:(b.n:Int)≤3:=h4.2.1
 have n3:=NB ha
 have n4:=NB hb
 have vq:(minD a).L=(minD b).L:=by rw[nT ha,nT hb,hL]
 have hs:(minD b).n*(minD a).n≤64:=by
  have:=Nat.mul_le_mul (show (minD b).n≤3 by omega) (show (minD a).n≤3 by omega)
  omega
 have hq:=akc (NV (rC ha) (rC hb) vq hs)
 rw[nT ha] at hq
 rw[ha.leaves,hb.leaves] at*
 have r1:=akw ha hb hL hs
 have r2:=akx ha hb hL hs
 unfold rE at r1 r2
 rw[nT ha] at r1 r2
 refine N0 ?_
 unfold Hw
 refine bs hP (bF rfl ?_)
 refine bs hB (bF rfl ?_)
 refine bs r1 ?_
 refine bs r2 ?_
 refine bs (X1 hq _) (bT rfl ?_)
 exact bs NZ rfl
theorem WT.N3 {P:Program} {t:TypeId} {x:V} (hu:P.underlying t=some (.int .i64)) (h:WT P t x): ∃n:Int,x= .int .i64 n∧ -9223372036854775808≤n∧n≤9223372036854775807:=by
 obtain ⟨n,rfl,h1,h2⟩:=h.eI hu
 have e1:IntKind.min .i64= -9223372036854775808:=by decide
 have e2:IntKind.max .i64=9223372036854775807:=by decide
 rw[e1] at h1
 rw[e2] at h2
 exact ⟨n,rfl,h1,h2⟩
theorem akK {α:Type} {l:List α} (h:l.length=4): ∃a b c d,l=[a,b,c,d]:=by
 match l,h with
 | [a,b,c,d],_=>exact ⟨a,b,c,d,rfl⟩
theorem akL {x:V} (h:im Tryd.prog ay x): ∃r:List Int,x=kL r∧(r.length≤maxLen∧∀q∈r,-9223372036854775808≤q∧q≤9223372036854775807):=by
 have hu:Tryd.prog.underlying ay=some (.slice bf):=by kernel_rfl
 have hi:Tryd.prog.underlying bf=some (.int .i64):=by kernel_rfl
 obtain ⟨es,rfl,e1,e2⟩:=WT.JC hu (im.one (by kernel_rfl) h)
 obtain ⟨r,rfl,hr⟩:=JD (f:=iV) (p:=fun q=> -9223372036854775808≤q∧q≤9223372036854775807) fun y hy=>WT.N3 hi (im.one (by kernel_rfl) (e2 y hy))
 exact ⟨r,rfl,by simpa using e1,hr⟩
def Df.enc (d:Df):V:= .agg (jo d [])
theorem N5 {t:TypeId} {x:V} (ha:bH Tryd.prog t=true) (he:aU Tryd.prog t=[bf,bf,JP,JQ]) (h:im Tryd.prog t x): ∃d:Df,x=d.enc∧d.Ok:=by
 obtain ⟨xs,rfl,hl,hx⟩:=im.kB ha h
 rw[he] at hl
 obtain ⟨a,b,c,d,rfl⟩:=akK hl
 have hu:Tryd.prog.underlying bf=some (.int .i64):=by kernel_rfl
 have hb:Tryd.prog.underlying aw=some .bool:=by kernel_rfl
 have hv:Tryd.prog.underlying JP=some (.slice aw):=by kernel_rfl
 have hw:Tryd.prog.underlying JQ=some (.slice ay):=by kernel_rfl
 obtain ⟨L,rfl,l1,l2⟩:=WT.N3 hu (hx 0 bf a (by rw[he];rfl) rfl)
 obtain ⟨S,rfl,s1,s2⟩:=WT.N3 hu (hx 1 bf b (by rw[he];rfl) rfl)
 obtain ⟨fs,rfl,f1,f2⟩:=WT.JC hv (hx 2 JP c (by rw[he];rfl) rfl)
 obtain ⟨ns,rfl,n1,n2⟩:=WT.JC hw (hx 3 JQ d (by rw[he];rfl) rfl)
 obtain ⟨F,rfl⟩:=Rp (f:=V.bool) fun y hy=>WT.jw hb (im.one (by kernel_rfl) (f2 y hy))
 obtain ⟨N,rfl,hN⟩:=JD (f:=kL) fun y hy=>akL (n2 y hy)
 exact ⟨⟨L,S,F,N⟩,rfl,l1,l2,s1,s2,by simpa using f1,by simpa using n1,hN⟩
end Go.AM
