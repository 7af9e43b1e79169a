/-
  Functions of wW program, lifted to plain data.
-/
import Derived.Sort.AssemblyPlain
import Derived.Test.YtmcdbnalaobmpaaDoorP4
set_option linter.unusedVariables false
set_option linter.unusedSimpArgs false
set_option maxRecDepth 100000
namespace Go.AM
open Go.Proofs
def cT (a:Da) (c:Nat→Nat) (q t j:Nat):Nat:=if j=0 then c q else if j≤t then c (a.nx q (j-1)) else 0
def cO (a:Da) (c:Nat→Nat) (q:Nat):List Nat:=tab 7 (cT a c q a.L)
def Ab (s:List Nat):V:= .agg (s.map nV)
theorem Sa: ∀s t:List Nat,nJ (s.map nV) (t.map nV)=decide (s=t)
 | [],[]=>rfl
 | [],b::t=>rfl
 | a::s,[]=>rfl
 | a::s,b::t=>by
  simp only[List.map_cons,nJ]
  rw[Sa s t,Bool.eq_iff_iff]
  simp only[nV,qE]
  simp only[Bool.and_eq_true,beq_iff_eq,decide_eq_true_eq,List.cons.injEq]
  exact and_congr (by omega) Iff.rfl
theorem J9 (s t:List Nat):ic (Ab s) (Ab t)=decide (s=t):=Sa s t
theorem Ka {a:Da} (h:a.Ok) {c:Nat→Nat} {q q':Nat}:cO a c q=cO a c q'↔a.sig c q=a.sig c q':=by
 rw[Da.tH]
 have h6:=h.l6
 constructor
 ·intro e
  have g:=fun j (hj:j<7)=>congrArg (fun l:List Nat=>l.getD j 0) e
  unfold cO at g
  refine ⟨?_,fun x hx=> ?_⟩
  ·have:=g 0 (by omega)
   rw[vP (by omega),vP (by omega)] at this
   exact this
  ·have:=g (x+1) (by omega)
   rw[vP (by omega),vP (by omega)] at this
   unfold cT at this
   rwa [if_neg (by omega),if_pos (by omega),if_neg (by omega),if_pos (by omega)] at this
 ·rintro ⟨h1,h2⟩
  refine eQ fun j _=> ?_
  unfold cT
  by_cases hj:j=0
  ·rw[if_pos hj,if_pos hj,h1]
  ·rw[if_neg hj,if_neg hj]
   by_cases bS:j≤a.L
   ·rw[if_pos bS,if_pos bS,h2 (j-1) (by omega)]
   ·rw[if_neg bS,if_neg bS]
theorem tK {a:Da} {c:Nat→Nat} {q t:Nat} (j:Nat):(bif Nat.beq (0+(t+1)*1) j then ((c (a.nx q t):Nat):Int) else ((cT a c q t j:Nat):Int))=((cT a c q (t+1) j:Nat):Int):=by
 by_cases hj:t+1=j
 ·rw[show Nat.beq (0+(t+1)*1) j=true from by rw[Nat.beq_eq];omega,cond_true,←hj]
  unfold cT
  rw[if_neg (by omega),if_pos (by omega)]
  rfl
 ·rw[show Nat.beq (0+(t+1)*1) j=false from by rw[←Bool.not_eq_true,Nat.beq_eq];omega,cond_false]
  unfold cT
  by_cases h0:j=0
  ·rw[if_pos h0,if_pos h0]
  ·rw[if_neg h0,if_neg h0]
   by_cases h1:j≤t
   ·rw[if_pos h1,if_pos (by omega)]
   ·rw[if_neg h1,if_neg (by omega)]
def cV (n:Nat) (c:Nat→Nat):List V:=tab n fun q=>nV (c q)
section
variable {a:Da} (h:a.Ok) {c:Nat→Nat}
include h
theorem acr {q:Nat} (hq:q<a.n) {k1 k2 k3 k4 k5 k6:Int} {l1 l2 l3 l4 l5:List V}:
  Loop (ER CC k1 k2 l1 k3 k4 (tab a.L fun x=>iV (a.nx q x)) ((tab a.L fun x=>iV (a.nx q x)).length:Int) k5 k6 l2 l3 (cV a.n c) l4 l5) (0,(c q:Int),0,0,0,0,0,0)=
   some ((a.L:Int),false,(cT a c q a.L 0:Int),(cT a c q a.L 1:Int),(cT a c q a.L 2:Int),(cT a c q a.L 3:Int),(cT a c q a.L 4:Int),(cT a c q a.L 5:Int),(cT a c q a.L 6:Int)):=by
 have h6:=h.l6
 rw[eP]
 refine (fK a.L (fun t=>((t:Int),(cT a c q t 0:Int),(cT a c q t 1:Int),(cT a c q t 2:Int),(cT a c q t 3:Int),(cT a c q t 4:Int),(cT a c q t 5:Int),(cT a c q t 6:Int))) _ (fun t ht=> ?_) ?_)
 ·simp only[ER,zW,un]
  refine bT (eD ht) ?_
  refine bs (tF ht) ?_
  refine (fJ (i:=a.nx q t) (h.dQ hq ht)).trans ?_
  have w:IntKind.wrap .i64 (1+(t:Int))=((t+1:Nat):Int):=by rw[wrap64 (by omega) (by omega)];omega
  rw[w,dm (by omega),Int.toNat_natCast]
  refine bT (Bool.and_eq_true_iff.2 ⟨decide_eq_true (by omega),decide_eq_true (by omega)⟩) ?_
  refine bT (show Nat.ble (0+(t+1)*1+1) 7=true by rw[Nat.ble_eq];omega) ?_
  show some (Sum.inl _)=some (Sum.inl _)
  refine congrArg (fun x=>some (Sum.inl x)) ?_
  exact Prod.ext rfl (Prod.ext (tK 0) (Prod.ext (tK 1) (Prod.ext (tK 2) (Prod.ext (tK 3) (Prod.ext (tK 4) (Prod.ext (tK 5) (tK 6)))))))
 ·simp only[ER,zW,un]
  refine bF (bN (Nat.le_refl _)) ?_
  rw[bN (Nat.le_refl _)]
theorem acs (hc: ∀q,q<a.n→c q≤1000) {q:Nat} (hq:q<a.n) (j:Nat):cT a c q a.L j≤1000:=by
 unfold cT
 split
 ·exact hc q hq
 ·split
  ·exact hc _ (h.dQ hq (by omega))
  ·omega
theorem acu (hc: ∀q,q<a.n→c q≤1000) {k1 k2 k3:Int} {l2:List V}:
  Loop (ES CC k1 a.cK (a.cK.length:Int) k2 k3 l2 a.cK (cV a.n c)) (0,([]:List V),List.replicate ((((cV a.n c).length:Int):Int).toNat) (V.int .i64 0))=
   some ((a.n:Int),false,fc Ab 0 (aJ (cO a c) a.n),cV a.n (b6 (cO a c) a.n)):=by
 have hm:=h.ei
 have hl:(cV a.n c).length=a.n:=by simp[cV]
 rw[hl,Int.toNat_natCast,oF,Da.Rz]
 refine (fK a.n (fun i=>((i:Int),fc Ab 0 (aJ (cO a c) i),(tab a.n fun q=>if q<i then nV (b6 (cO a c) a.n q) else nV 0))) _ (fun q hq=> ?_) ?_)
 ·have hle:=qa (cO a c) q
  simp only[ES,zX,un]
  refine bT (eD hq) ?_
  refine bs (Da.p7 hq) ?_
  refine (fJ (i:=q) hq).trans ?_
  simp only[ry]
  refine bs (acr h hq) ?_
  have k0:=acs h hc hq
  have kk: ∀j,cL .i64 ((cT a c q a.L j:Nat):Int)=true:=fun j=>Ev (by have:=k0 j;omega)
  have Sb:((cL .i64 ((cT a c q a.L 0:Nat):Int)&&(cL .i64 ((cT a c q a.L 1:Nat):Int)&&(cL .i64 ((cT a c q a.L 2:Nat):Int)&&(cL .i64 ((cT a c q a.L 3:Nat):Int)&&(cL .i64 ((cT a c q a.L 4:Nat):Int)&&(cL .i64 ((cT a c q a.L 5:Nat):Int)&&(cL .i64 ((cT a c q a.L 6:Nat):Int)&&true)))))))&&true)=true:=by
   simp only[kk,Bool.and_self]
  refine bT Sb ?_
  have ek:V.agg [V.int .i64 (cT a c q a.L 0:Int),V.int .i64 (cT a c q a.L 1:Int),V.int .i64 (cT a c q a.L 2:Int),V.int .i64 (cT a c q a.L 3:Int),V.int .i64 (cT a c q a.L 4:Int),V.int .i64 (cT a c q a.L 5:Int),V.int .i64 (cT a c q a.L 6:Int)]=Ab (cO a c q):=rfl
  simp only[un,ek]
  have e1:=zB J9 (cO a c q) (aJ (cO a c) q) 0
  have fin: ∀v,v=nV (b6 (cO a c) a.n q)→(tab a.n fun j=>if j<q then nV (b6 (cO a c) a.n j) else nV 0).set q v=tab a.n fun j=>if j<q+1 then nV (b6 (cO a c) a.n j) else nV 0:=by
   rintro v rfl
   rw[p5]
   refine eQ fun j _=> ?_
   by_cases hj:j=q
   ·rw[if_pos hj,if_pos (by omega),hj]
   ·rw[if_neg hj]
    by_cases bS:j<q
    ·rw[if_pos bS,if_pos (by omega)]
    ·rw[if_neg bS,if_neg (by omega)]
  rw[dm (by omega)]
  by_cases hx:cO a c q∈aJ (cO a c) q
  ·refine bF (by rw[e1];simpa using hx) ?_
   refine (fJ hq).trans ?_
   have e2:=zC J9 (cO a c q) (.int .i64 0) (aJ (cO a c) q) 0 hx
   rw[Nat.zero_add,←RW hq hx] at e2
   rw[e2,V.toInt_int,Int.toNat_natCast,show (V.int .i64 (b6 (cO a c) a.n q:Int))=nV (b6 (cO a c) a.n q) from rfl,fin _ rfl,J4 hx]
  ·refine bT (by rw[e1];simpa using hx) ?_
   refine bT Sb ?_
   refine (fJ hq).trans ?_
   have e2:=zE J9 (cO a c q) (aJ (cO a c) q) 0 hx
   rw[Nat.zero_add] at e2
   rw[vS,e2,Int.toNat_natCast,←RX hq hx,show (V.int .i64 (b6 (cO a c) a.n q:Int))=nV (b6 (cO a c) a.n q) from rfl,fin _ rfl,J5 hx]
 ·simp only[ES,zX,un]
  refine bF (bN (Nat.le_refl _)) ?_
  rw[bN (Nat.le_refl _)]
  have:(tab a.n fun q=>if q<a.n then nV (b6 (cO a c) a.n q) else nV 0)=cV a.n (b6 (cO a c) a.n):=eQ fun q hq=>if_pos hq
  rw[this]
def jX (a:Da):Nat→Nat
 | 0=>1
 | i+1=>if a.fin i=a.fin 0 then jX a i else 2
def eH (a:Da) (q:Nat):Nat:=if a.fin q=a.fin 0 then 0 else 1
theorem acv:(aJ (eH a) a.n).length=jX a a.n:=by
 have key: ∀m,(aJ (eH a) (m+1)=[0]∧jX a (m+1)=1)∨(aJ (eH a) (m+1)=[0,1]∧jX a (m+1)=2):=by
  intro m
  induction m with
  | zero=>left;simp[aJ,cG,eH,jX]
  | succ m ih=>
   rw[aJ,jX]
   unfold eH cG
   by_cases hf:a.fin (m+1)=a.fin 0
   ·rw[if_pos hf,if_pos hf]
    rcases ih with ⟨i1,i2⟩|⟨i1,i2⟩
    ·left;refine ⟨?_,i2⟩;unfold eH at i1;rw[i1];rfl
    ·right;refine ⟨?_,i2⟩;unfold eH at i1;rw[i1];rfl
   ·rw[if_neg hf,if_neg hf]
    rcases ih with ⟨i1,i2⟩|⟨i1,i2⟩
    ·right;refine ⟨?_,rfl⟩;unfold eH at i1;rw[i1];rfl
    ·right;refine ⟨?_,rfl⟩;unfold eH at i1;rw[i1];rfl
 have hs:=h.s
 obtain ⟨m,hm⟩: ∃m,a.n=m+1:=⟨a.n-1,by omega⟩
 rw[hm]
 rcases key m with ⟨e1,e2⟩|⟨e1,e2⟩<;>rw[e1,e2]<;>rfl
theorem acw {k2 k3:Int} {l2:List V}:Loop (EI CC a.cv (a.cv.length:Int) k2 k3 a.cv l2) (1,0,List.replicate ((((a.cv.length:Nat):Int)).toNat) (V.int .i64 0))=some ((jX a a.n:Int),(a.n:Int),false,cV a.n (eH a)):=by
 have hm:=h.ei
 have hs:=h.s
 rw[Da.kA,Int.toNat_natCast,oF]
 refine (fK a.n (fun i=>((jX a i:Int),(i:Int),(tab a.n fun q=>if q<i then nV (eH a q) else nV 0))) _ (fun q hq=> ?_) ?_)
 ·simp only[EI,zV,un]
  refine bT (eD hq) ?_
  refine bs (Da.tE hq) ?_
  refine bs (a:= .bool (a.fin 0)) (by unfold Da.cv;exact Er (by omega)) ?_
  rw[dm (by omega)]
  have fin:(tab a.n fun j=>if j<q then nV (eH a j) else nV 0).set q (nV (eH a q))=tab a.n fun j=>if j<q+1 then nV (eH a j) else nV 0:=by
   rw[p5]
   refine eQ fun j _=> ?_
   by_cases hj:j=q
   ·rw[if_pos hj,if_pos (by omega),hj]
   ·rw[if_neg hj]
    by_cases bS:j<q
    ·rw[if_pos bS,if_pos (by omega)]
    ·rw[if_neg bS,if_neg (by omega)]
  simp only[V.pE]
  by_cases hf:a.fin q=a.fin 0
  ·refine bF (by rw[hf];simp) ?_
   have e:jX a (q+1)=jX a q:=by rw[jX,if_pos hf]
   have e2:(tab a.n fun j=>if j<q then nV (eH a j) else nV 0)=tab a.n fun j=>if j<q+1 then nV (eH a j) else nV 0:=eQ fun j _=>by
    by_cases hj:j=q
    ·rw[if_neg (by omega),if_pos (by omega),hj];unfold eH;rw[if_pos hf]
    ·by_cases bS:j<q
     ·rw[if_pos bS,if_pos (by omega)]
     ·rw[if_neg bS,if_neg (by omega)]
   rw[e,e2]
  ·refine bT (by simpa using hf) ?_
   refine (fJ hq).trans ?_
   have e:jX a (q+1)=2:=by rw[jX,if_neg hf]
   have e3:eH a q=1:=by unfold eH;rw[if_neg hf]
   rw[e3] at fin
   rw[e,Int.toNat_natCast,show (V.int .i64 1)=nV 1 from rfl,fin];rfl
 ·simp only[EI,zV,un]
  refine bF (bN (Nat.le_refl _)) ?_
  rw[bN (Nat.le_refl _)]
  have:(tab a.n fun q=>if q<a.n then nV (eH a q) else nV 0)=cV a.n (eH a):=eQ fun q hq=>if_pos hq
  rw[this]
theorem acx {k2 k3:Int} {l2:List V}: ∃p,Loop (Aa CC k2 k3 l2 a.cK) ((jX a a.n:Int),cV a.n (eH a))=some (cV a.n p)∧a.tI p∧∀q,q<a.n→p q≤1000:=by
 have hm:=h.ei
 have:=OZ (step:=Aa CC k2 k3 l2 a.cK)
  (fun x=> ∃c,x=(((aJ c a.n).length:Int),cV a.n c)∧a.Part c∧∀q,q<a.n→c q≤1000)
  (fun x=>a.n-x.1.toNat)
  (fun r=> ∃p,r=cV a.n p∧a.tI p∧∀q,q<a.n→p q≤1000) (fun x hx=> ?_) ((jX a a.n:Int),cV a.n (eH a)) ⟨eH a,by rw[acv h],⟨?_,?_⟩,?_⟩
 ·obtain ⟨r,h1,p,rfl,h2,h3⟩:=this
  exact ⟨p,h1,h2,h3⟩
 ·obtain ⟨c,rfl,hp,hc⟩:=hx
  have hl:(cV a.n c).length=a.n:=by simp[cV]
  have jY:a.EF c (b6 (cO a c) a.n):=fun q q' hq bM=>(zR hq bM).trans (Ka h)
  have hle:=qa (cO a c) a.n
  have hb: ∀q,q<a.n→b6 (cO a c) a.n q≤1000:=fun q hq=>by have:=zQ (g:=cO a c) hq;omega
  have tL: ∀q q',q<a.n→q'<a.n→cO a c q=cO a c q'→c q=c q':=fun q q' hq bM e=>(Da.tH.1 ((Ka h).1 e)).1
  have acy:=RZ tL
  have cr:=acu h hc (k1:=((aJ c a.n).length:Int)) (k2:=k2) (k3:=k3) (l2:=l2)
  by_cases he:(aJ (cO a c) a.n).length=(aJ c a.n).length
  ·right
   refine ⟨_,?_,b6 (cO a c) a.n,rfl,⟨fun q q' hq bM=> ?_,J6 _ _⟩,hb⟩
   ·simp only[Aa,z9,un]
    refine bT (by rw[hl];exact nw (by omega) (by omega)) ?_
    refine bs cr ?_
    refine bT (by rw[vS];simp[he]) ?_
    rfl
   ·have bZ:=J7 tL (by omega)
    rw[zR hq bM,←hp.R0 h (fun s s' hs qY e=>(Ka h).1 (bZ s s' hs qY e)) q q' hq bM]
    exact ⟨tL q q' hq bM,bZ q q' hq bM⟩
  ·left
   have e2:(aJ (b6 (cO a c) a.n) a.n).length=(aJ (cO a c) a.n).length:=by rw[RY _ _ _ (Nat.le_refl _),List.length_range]
   refine ⟨(((aJ (cO a c) a.n).length:Int),cV a.n (b6 (cO a c) a.n)),?_,⟨b6 (cO a c) a.n,by rw[e2],jY.part h hp,hb⟩,?_⟩
   ·simp only[Aa,z9,un]
    refine bT (by rw[hl];exact nw (by omega) (by omega)) ?_
    refine bs cr ?_
    refine bF (by rw[vS];simpa using fun e=>he (by omega)) ?_
    rw[vS]
   ·simp only[Int.toNat_natCast]
    omega
 ·intro q q' hq bM he
  have:=he [] WL.nil
  rw[Da.mq,Da.mq] at this
  unfold eH;rw[this]
 ·intro q q' hq bM he
  unfold eH at he
  split at he<;>split at he
  ·rename_i h1 h2;rw[h1,h2]
  ·omega
  ·omega
  ·rename_i h1 h2
   revert h1 h2
   cases a.fin q<;>cases a.fin q'<;>cases a.fin 0<;>simp
 ·intro q _
  unfold eH;split<;>omega
theorem acz: ∃p,CC DA (dy a)=some [.list bf (cV a.n p)]∧a.tI p∧∀q,q<a.n→p q≤1000:=by
 have hm:=h.ei
 obtain ⟨p,h1,h2,h3⟩:=acx h (k2:=(a.L:Int)) (k3:=(a.st:Int)) (l2:=a.cv)
 refine ⟨p,acq ?_,h2,h3⟩
 unfold R9
 refine bs (tG h) ?_
 refine bF rfl ?_
 refine bT (by rw[Da.kA];exact nw (by omega) (by omega)) ?_
 refine bs (acw h) ?_
 refine bs h1 ?_
 rfl
end
noncomputable abbrev vX:Code:=cB Tryd.prog (av.aR 86)
noncomputable def Ac (C:ae) (q t29 t30:Int) (t47:List V) (t48 bh bw:Int) (bJ bH:List V) (dR dS vY vZ:Int) (places cE:List V) (v5 v7:Int) (cb cD dz fw lD Sd:List V) (t49:Int) (rows:List V) {β:Type} (kn:(Int × (List V))→Option β) (kr:(Int × Bool × (List V))→Option β):Option β:=
 bif decide ((t49:Int)<t48) then
  (idx t47 t49).bind fun x5=>
  bif (decide (0≤x5.toInt))&&(decide (x5.toInt<(cE.length:Int))) then
  (cE[(x5.toInt:Int).toNat]?).bind fun x6=>
  bif (decide (0≤t49))&&(decide (t49<(rows.length:Int))) then
   (rows[(t49:Int).toNat]?).bind fun x7=>
   kn (IntKind.wrap .i64 (t49+1),rows.set ((t49:Int).toNat) (.int .i64 x6.toInt))
  else none
  else none
 else
  kr (t49,decide ((t49:Int)<t48),rows)
noncomputable def EU (C:ae) (q t29 t30:Int) (t47:List V) (t48 bh bw:Int) (bJ bH:List V) (dR dS vY vZ:Int) (places cE:List V) (v5 v7:Int) (cb cD dz fw lD Sd:List V):(Int × (List V))→Option ((Int × (List V)) ⊕ (Int × Bool × (List V))):=un fun t49 rows=>Ac C q t29 t30 t47 t48 bh bw bJ bH dR dS vY vZ places cE v5 v7 cb cD dz fw lD Sd t49 rows (fun y=>some (.inl y)) (fun r=>some (.inr r))
noncomputable def Ad (C:ae) (t29 bh bw:Int) (bJ bH:List V) (dR dS vY vZ:Int) (places cE:List V) (v5 v7:Int) (cH cb cD dz:List V) (t30:Int) (fw lD:List V) {β:Type} (kn:(Int × (List V) × (List V))→Option β) (kr:(Int × Bool × (List V) × (List V))→Option β):Option β:=
 bif decide ((t30:Int)<t29) then
  bif (decide (0≤t30))&&(decide (t30<(cE.length:Int))) then
  (cE[(t30:Int).toNat]?).bind fun x3=>
  bif decide ((x3.toInt:Int)<(fw.length:Int)) then
   kn (IntKind.wrap .i64 (t30+1),fw,lD)
  else
   bif (decide (0≤bh))&&((decide (bh≤bh))&&(Nat.ble (((bh:Int).toNat)*8) b7)) then
   bif (decide (0≤t30))&&(decide (t30<(dz.length:Int))) then
    (dz[(t30:Int).toNat]?).bind fun x4=>
    (Loop (EU C t30 t29 t30 x4.toList (x4.toList.length:Int) bh bw bJ bH dR dS vY vZ places cE v5 v7 cH cb cD dz fw lD) (0,List.replicate ((bh:Int).toNat) (V.int .i64 0))).bind (un fun (vH:Int)=>un fun (tD:Bool) (Se:List V)=>
     bif (decide (0≤t30))&&(decide (t30<(cD.length:Int))) then
     (cD[(t30:Int).toNat]?).bind fun fv=>
     bif Nat.ble ((fw.length+([.bool fv.toBool]:List V).length)*1) b7 then
      bif Nat.ble ((lD.length+([.list bf Se]:List V).length)*24) b7 then
      kn (IntKind.wrap .i64 (t30+1),fw++([.bool fv.toBool]:List V),lD++([.list bf Se]:List V))
      else none
     else none
     else none)
   else none
   else none
  else none
 else
  kr (t30,decide ((t30:Int)<t29),fw,lD)
noncomputable def EV (C:ae) (t29 bh bw:Int) (bJ bH:List V) (dR dS vY vZ:Int) (places cE:List V) (v5 v7:Int) (cH cb cD dz:List V):(Int × (List V) × (List V))→Option ((Int × (List V) × (List V)) ⊕ (Int × Bool × (List V) × (List V))):=un fun t30=>un fun fw lD=>Ad C t29 bh bw bJ bH dR dS vY vZ places cE v5 v7 cH cb cD dz t30 fw lD (fun y=>some (.inl y)) (fun r=>some (.inr r))
noncomputable def Ae (C:ae) (t88 dR dS:Int) (cE:List V) (mu mw:Int) (numbers EW cH cb cD dz:List V) (t89:Int) (mr:List V) {β:Type} (kn:(Int × (List V))→Option β) (kr:(Int × Bool × (List V))→Option β):Option β:=
 bif decide ((t89:Int)<t88) then
  bif (decide (0≤t89))&&(decide (t89<(EW.length:Int))) then
  (EW[(t89:Int).toNat]?).bind fun oI=>
  bif (decide (0≤t89))&&(decide (t89<(mr.length:Int))) then
   (mr[(t89:Int).toNat]?).bind fun Af=>
   bif decide ((oI.toInt:Int)≥0) then
   bif (decide (0≤oI.toInt))&&(decide (oI.toInt<(cE.length:Int))) then
    (cE[(oI.toInt:Int).toNat]?).bind fun kG=>
    bif (decide (0≤kG.toInt))&&(decide (kG.toInt<(numbers.length:Int))) then
    (numbers[(kG.toInt:Int).toNat]?).bind fun qc=>
    bif (decide (0≤t89))&&(decide (t89<((mr.set ((t89:Int).toNat) (.int .i64 (-1))).length:Int))) then
     ((mr.set ((t89:Int).toNat) (.int .i64 (-1)))[(t89:Int).toNat]?).bind fun tM=>
     kn (IntKind.wrap .i64 (t89+1),(mr.set ((t89:Int).toNat) (.int .i64 (-1))).set ((t89:Int).toNat) (.int .i64 qc.toInt))
    else none
    else none
   else none
   else
   kn (IntKind.wrap .i64 (t89+1),mr.set ((t89:Int).toNat) (.int .i64 (-1)))
  else none
  else none
 else
  kr (t89,decide ((t89:Int)<t88),mr)
noncomputable def EX (C:ae) (t88 dR dS:Int) (cE:List V) (mu mw:Int) (numbers EW cH cb cD dz:List V):(Int × (List V))→Option ((Int × (List V)) ⊕ (Int × Bool × (List V))):=un fun t89 mr=>Ae C t88 dR dS cE mu mw numbers EW cH cb cD dz t89 mr (fun y=>some (.inl y)) (fun r=>some (.inr r))
noncomputable def Sf (C:ae):ct:=fun β n ds k=>
 bif Nat.beq n 161 then bB IK [false,false,false,false,false,true,false,false,false,false,false,false,false,false,false,false,false,false,true,false,false,false,false,false,false] [[1,2,3,4,5,0,0,7,8,9,10,11,12,13,14,15,16,17,18,0,20,21,22,23,24,25]] (@Ac C) ds k else
 bif Nat.beq n 81 then bB IL [false,true,false,false,false,false,false,false,false,false,false,false,false,false,false,false,false,false,true,true] [[1,0,0,3,4,5,6,7,8,9,10,11,12,13,14,15,16,17,18,0,0]] (@Ad C) ds k else
 bif Nat.beq n 321 then bB IM [false,true,false,false,false,false,false,false,true,false,false,false,false,false] [[1,0,0,3,4,5,6,7,8,0,10,11,12,13,14]] (@Ae C) ds k else
 none
abbrev Kb (C:ae) (b:cm):Prop:=cp Tryd.prog av C (Sf C) 86 (cI Tryd.prog (av.aR 86)) (av.sin 86).aP.length b
theorem acA (C:ae):Kb C (.loop (ao [1,1,1,1,0,1,0,0,1,1,0,0,1,1,1,0,1,0,0] vX)):=
 bE IK [false,false,false,false,false,true,false,false,false,false,false,false,false,false,false,false,false,false,true,false,false,false,false,false,false] [[1,2,3,4,5,0,0,7,8,9,10,11,12,13,14,15,16,17,18,0,20,21,22,23,24,25]] (@Ac C) (by kernel_rfl) (aY (bs:=[]) (by kernel_rfl) aw) (fun ds=>by kernel_rfl) (fun i x=>by kernel_rfl) (fun i x β k=>by kernel_rfl) (fun β ds k=>by kernel_rfl)
theorem acB (C:ae):Kb C (.loop (ao [1,1,1,1,0,1,0,0] vX)):=
 bE IL [false,true,false,false,false,false,false,false,false,false,false,false,false,false,false,false,false,false,true,true] [[1,0,0,3,4,5,6,7,8,9,10,11,12,13,14,15,16,17,18,0,0]] (@Ad C) (by kernel_rfl) (aY (bs:=[.loop (ao [1,1,1,1,0,1,0,0,1,1,0,0,1,1,1,0,1,0,0] vX)]) (by kernel_rfl) (bn (acA C) aw)) (fun ds=>by kernel_rfl) (fun i x=>by kernel_rfl) (fun i x β k=>by kernel_rfl) (fun β ds k=>by kernel_rfl)
theorem acC (C:ae):Kb C (.loop (ao [1,1,1,1,1,1,1,0,1,0,0] vX)):=
 bE IM [false,true,false,false,false,false,false,false,true,false,false,false,false,false] [[1,0,0,3,4,5,6,7,8,0,10,11,12,13,14]] (@Ae C) (by kernel_rfl) (aY (bs:=[]) (by kernel_rfl) aw) (fun ds=>by kernel_rfl) (fun i x=>by kernel_rfl) (fun i x β k=>by kernel_rfl) (fun β ds k=>by kernel_rfl)
noncomputable def Sg (C:ae) (aT aW:Int) (aL aU:List V):Option (List V):=
 (C vA [.int .i64 aT,.int .i64 aW,.list ax aL,.list aB aU]).bind fun r1=>
 (C DA [.int .i64 ((V.nth r1 0).toInt),.int .i64 ((V.nth (r1.drop 1) 0).toInt),.list ax ((V.nth (r1.drop 2) 0).toList),.list aB ((V.nth ((r1.drop 2).drop 1) 0).toList)]).bind fun r2=>
 (Loop (EV C (((V.nth r2 0).toList).length:Int) aT aW aL aU 0 0 ((V.nth r1 0).toInt) ((V.nth (r1.drop 1) 0).toInt) ((V.nth (((r1.drop 2).drop 1).drop 1) 0).toList) ((V.nth r2 0).toList) aT 0 ([]:List V) ([]:List V) ((V.nth (r1.drop 2) 0).toList) ((V.nth ((r1.drop 2).drop 1) 0).toList)) (0,([]:List V),([]:List V))).bind (un fun (EY:Int)=>un fun (rr:Bool)=>un fun (zJ:List V) (zj:List V)=>
  (C vA [.int .i64 aT,.int .i64 0,.list ax zJ,.list aB zj]).bind fun fU=>
  bif (decide (0≤(((V.nth (((r1.drop 2).drop 1).drop 1) 0).toList).length:Int)))&&((decide ((((V.nth (((r1.drop 2).drop 1).drop 1) 0).toList).length:Int)≤(((V.nth (((r1.drop 2).drop 1).drop 1) 0).toList).length:Int)))&&(Nat.ble ((((((V.nth (((r1.drop 2).drop 1).drop 1) 0).toList).length:Int):Int).toNat)*8) b7)) then
   (Loop (EX C (((V.nth (((r1.drop 2).drop 1).drop 1) 0).toList).length:Int) 0 0 ((V.nth r2 0).toList) ((V.nth fU 0).toInt) ((V.nth (fU.drop 1) 0).toInt) ((V.nth (((fU.drop 2).drop 1).drop 1) 0).toList) ((V.nth (((r1.drop 2).drop 1).drop 1) 0).toList) ([]:List V) ([]:List V) ((V.nth (fU.drop 2) 0).toList) ((V.nth ((fU.drop 2).drop 1) 0).toList)) (0,List.replicate (((((V.nth (((r1.drop 2).drop 1).drop 1) 0).toList).length:Int):Int).toNat) (V.int .i64 0))).bind (un fun (acD:Int)=>un fun (Sh:Bool) (acE:List V)=>
    some [.int .i64 ((V.nth fU 0).toInt),.int .i64 ((V.nth (fU.drop 1) 0).toInt),.list ax ((V.nth (fU.drop 2) 0).toList),.list aB ((V.nth ((fU.drop 2).drop 1) 0).toList),.list bf acE])
  else none)
theorem acF {aT aW:Int} {aL aU:List V} {r:Option (List V)} (h:Sg CC aT aW aL aU=r):CC Ds [.int .i64 aT,.int .i64 aW,.list ax aL,.list aB aU]=r:=
 bp (key:=86) (L:=Sf CC) (bs:=[.loop (ao [1,1,1,1,0,1,0,0] vX),.loop (ao [1,1,1,1,1,1,1,0,1,0,0] vX)]) (by kernel_rfl) (bn (acB CC) (bn (acC CC) aw)) (Eq.trans (by kernel_rfl) h)
noncomputable def Si (C:ae) (aT aW:Int) (aL aU:List V):Option (List V):=
 (C nn [.int .i64 aT,.int .i64 aW,.list ax aL,.list aB aU]).bind fun r1=>
 bif (((V.nth r1 0).toInt):Int) != 0 then
  some [.int .i64 0,.int .i64 0,.list ax ([]:List V),.list aB ([]:List V)]
 else
  (C Ds [.int .i64 aT,.int .i64 aW,.list ax aL,.list aB aU]).bind fun r2=>
  some [.int .i64 ((V.nth r2 0).toInt),.int .i64 ((V.nth (r2.drop 1) 0).toInt),.list ax ((V.nth (r2.drop 2) 0).toList),.list aB ((V.nth ((r2.drop 2).drop 1) 0).toList)]
theorem acG {aT aW:Int} {aL aU:List V} {r:Option (List V)} (h:Si CC aT aW aL aU=r):CC rj [.int .i64 aT,.int .i64 aW,.list ax aL,.list aB aU]=r:=
 bp (key:=54) (L:=cR) (bs:=[]) (by kernel_rfl) aw (Eq.trans (by kernel_rfl) h)
theorem acH {p:Nat→Nat} {n:Nat} (h:ny p n) (hn:0<n):p 0=0:=by
 simpa[aJ,cG] using h 1 (by omega)
theorem Sj {p:Nat→Nat} {n i:Nat} (h:ny p n) (hi:i<n):p i∈aJ p i↔p i<(Da.dU p i).length:=by
 rw[Da.zT]
 constructor
 ·intro hm
  rw[h i (by omega)] at hm
  simpa using hm
 ·intro hm
  rw[h i (by omega)]
  simpa using hm
theorem Sk (p:Nat→Nat) (n:Nat):(Da.dU p n).length≤n:=by rw[Da.zT];exact qa p n
def qF (a:Da) (p:Nat→Nat) (i:Nat):List V:=(Da.dU p i).map fun r=>V.bool (a.fin r)
def qN (a:Da) (p:Nat→Nat) (i:Nat):List V:=(Da.dU p i).map fun r=>jA a.L fun x=>p (a.nx r x)
theorem acI {a:Da} {p:Nat→Nat}:(a.quo p).cv=qF a p a.n∧(a.quo p).cK=qN a p a.n:=by
 constructor
 ·unfold Da.cv qF
  rw[zy _ 0,Da.qb]
  exact eQ fun i hi=>by rw[Da.R3 hi,eO hi]
 ·unfold Da.cK qN
  rw[zy _ 0,Da.qb]
  refine eQ fun i hi=> ?_
  unfold jA
  exact congrArg _ (eQ fun x hx=>by rw[Da.R4 hi hx,eO hi])
section
variable {a:Da} (h:a.Ok) {p:Nat→Nat}
include h
theorem acJ {q:Nat} (hq:q<a.n) {k1 k2 k3 k4 k5 k6 k7 k8 k9 k10 k11:Int} {l1 l2 l3 l4 l5 l6 l7 l8 l9:List V}:
  Loop (EU CC k1 k2 k3 (tab a.L fun x=>iV (a.nx q x)) ((tab a.L fun x=>iV (a.nx q x)).length:Int) k4 k5 l1 l2 k6 k7 k8 k9 l3 (cV a.n p) k10 k11 l4 l5 l6 l7 l8 l9) (0,List.replicate (((a.L:Nat):Int).toNat) (V.int .i64 0))=
   some ((a.L:Int),false,(tab a.L fun x=>nV (p (a.nx q x)))):=by
 have h6:=h.l6
 rw[eP,Int.toNat_natCast,oF]
 refine (fK a.L (fun t=>((t:Int),(tab a.L fun x=>if x<t then nV (p (a.nx q x)) else nV 0))) _ (fun t ht=> ?_) ?_)
 ·simp only[EU,Ac,un]
  refine bT (eD ht) ?_
  refine bs (tF ht) ?_
  refine (fJ (i:=a.nx q t) (h.dQ hq ht)).trans ?_
  refine (fJ ht).trans ?_
  rw[dm (by omega),Int.toNat_natCast,p5]
  refine congrArg (fun x=>some (Sum.inl (((t+1:Nat):Int),x))) (eQ fun j _=> ?_)
  by_cases hj:j=t
  ·rw[if_pos hj,if_pos (by omega),hj];rfl
  ·rw[if_neg hj]
   by_cases bS:j<t
   ·rw[if_pos bS,if_pos (by omega)]
   ·rw[if_neg bS,if_neg (by omega)]
 ·simp only[EU,Ac,un]
  refine bF (bN (Nat.le_refl _)) ?_
  rw[bN (Nat.le_refl _)]
  refine congrArg (fun x=>some (Sum.inr ((a.L:Int),false,x))) (eQ fun j hj=>if_pos hj)
theorem acK (ho:ny p a.n) {k3 k4 k5 k6 k7 k8 k9:Int} {l1 l2 l3 l4 l5:List V}:
  Loop (EV CC ((cV a.n p).length:Int) (a.L:Int) k3 l1 l2 k4 k5 k6 k7 l3 (cV a.n p) k8 k9 l4 l5 a.cv a.cK) (0,([]:List V),([]:List V))=
   some ((a.n:Int),false,qF a p a.n,qN a p a.n):=by
 have h6:=h.l6
 have hm:=h.ei
 rw[show (cV a.n p).length=a.n by simp[cV]]
 refine (fK a.n (fun i=>((i:Int),qF a p i,qN a p i)) _ (fun q hq=> ?_) ?_)
 ·have hle:=Sk p q
  have hF:(qF a p q).length=(Da.dU p q).length:=by simp[qF]
  have hN:(qN a p q).length=(Da.dU p q).length:=by simp[qN]
  simp only[EV,Ad,un]
  refine bT (eD hq) ?_
  refine (fJ (i:=q) hq).trans ?_
  rw[dm (by omega)]
  simp only[nV,V.toInt_int]
  by_cases hx:p q∈aJ p q
  ·refine bT (decide_eq_true (by rw[hF];have:=(Sj ho hq).1 hx;omega)) ?_
   unfold qF qN
   rw[Da.dU,if_pos hx]
  ·refine bF (decide_eq_false (by rw[hF];intro h2;exact hx ((Sj ho hq).2 (by omega)))) ?_
   refine bT (nw (by omega) (by omega)) ?_
   refine (fJ (i:=q) hq).trans ?_
   simp only[ry]
   refine bs (acJ h hq) ?_
   refine (fJ (i:=q) hq).trans ?_
   refine bT (cap (by rw[hF];simp;omega) (by omega)) ?_
   refine bT (cap (by rw[hN];simp;omega) (by omega)) ?_
   unfold qF qN
   rw[Da.dU,if_neg hx,List.map_append,List.map_append]
   rfl
 ·simp only[EV,Ad,un]
  refine bF (bN (Nat.le_refl _)) ?_
  rw[bN (Nat.le_refl _)]
end
def qd (U U':List Nat) (p:Nat→Nat) (q:Nat):V:=if q∈U then iV ((if p (U.idxOf q)∈U' then nV (U'.idxOf (p (U.idxOf q))) else V.int .i64 (-1)).toInt) else V.int .i64 (-1)
theorem acL {n m k:Nat} {U U':List Nat} {p:Nat→Nat} (hn:n≤512) (hU:U.length≤m) (hp: ∀q,q<m→p q<k) {k1 k2 k3 k4:Int} {l1 l2 l3 l4:List V}:
  ∃X,Loop (EX CC ((jW U n).length:Int) k1 k2 (cV m p) k3 k4 (jW U' k) (jW U n) l1 l2 l3 l4) (0,List.replicate ((((jW U n).length:Int):Int).toNat) (V.int .i64 0))=some ((n:Int),false,X):=by
 rw[show (jW U n).length=n by simp[jW],Int.toNat_natCast,oF]
 refine ⟨tab n fun q=>if q<n then qd U U' p q else V.int .i64 0,fK n (fun i=>((i:Int),(tab n fun q=>if q<i then qd U U' p q else V.int .i64 0))) _ (fun q hq=> ?_) ?_⟩
 ·simp only[EX,Ae,un]
  refine bT (eD hq) ?_
  refine (fJ (i:=q) hq).trans ?_
  refine (fJ (i:=q) hq).trans ?_
  rw[dm (by omega)]
  have fin: ∀v,v=qd U U' p q→((tab n fun j=>if j<q then qd U U' p j else V.int .i64 0).set q v)=tab n fun j=>if j<q+1 then qd U U' p j else V.int .i64 0:=by
   rintro v rfl
   rw[p5]
   refine eQ fun j _=> ?_
   by_cases hj:j=q
   ·rw[if_pos hj,if_pos (show j<q+1 by omega),hj]
   ·rw[if_neg hj]
    by_cases bS:j<q
    ·rw[if_pos bS,if_pos (show j<q+1 by omega)]
    ·rw[if_neg bS,if_neg (show¬j<q+1 by omega)]
  by_cases hx:q∈U
  ·have es:qd U U' p q=iV ((if p (U.idxOf q)∈U' then nV (U'.idxOf (p (U.idxOf q))) else V.int .i64 (-1)).toInt):=by unfold qd;rw[if_pos hx]
   have hi:=List.idxOf_lt_length_of_mem hx
   rw[if_pos hx]
   refine bT (decide_eq_true (by simp only[nV,V.toInt_int];omega)) ?_
   simp only[nV,V.toInt_int]
   refine (fJ (i:=U.idxOf q) (by omega)).trans ?_
   simp only[nV,V.toInt_int]
   refine (fJ (i:=p (U.idxOf q)) (hp _ (by omega))).trans ?_
   refine bT (by rw[List.length_set,eP];exact Rn hq) ?_
   refine bs (a:= .int .i64 (-1)) (by rw[Int.toNat_natCast,List.getElem?_set];simp[hq]) ?_
   rw[Int.toNat_natCast,List.set_set,←fin _ es.symm]
  ·rw[if_neg hx]
   refine bF (decide_eq_false (by simp)) ?_
   rw[Int.toNat_natCast,←fin _ (show V.int .i64 (-1)=qd U U' p q by unfold qd;rw[if_neg hx])]
 ·simp only[EX,Ae,un]
  refine bF (bN (Nat.le_refl _)) ?_
  rw[bN (Nat.le_refl _)]
theorem Canon.congr {m:Da} {L:Nat} {K K':List Nat→Bool} (h:m.Canon L K) (e: ∀w,WL L w→K w=K' w):m.Canon L K':=⟨h.ok,h.hL,h.st,h.num,h.red,fun w hw=>(h.gG w hw).trans (e w hw)⟩
theorem acM {a:Da} (h:a.Ok): ∃m X,CC Ds (dy a)=some (dy m++[.list bf X])∧m.Canon a.L (a.acc a.st):=by
 have ht:=h.Q9
 have hm:=h.ei
 have hle:=h.oE a.n
 have e3:a.trim.n=(ak a.L a.nx a.st a.n).length:=lx
 obtain ⟨p,c1,c2,c3⟩:=acz ht
 have hq:=Da.J8 ht c2
 obtain ⟨q1,q2⟩:=acI (a:=a.trim) (p:=p)
 have acN:=Da.R5 ht c2
 have bZ:(a.trim.quo p).st=0:=acH c2.2 ht.s
 have Cw:=RV hq
 obtain ⟨X,hX⟩:=acL (n:=a.n) (m:=a.trim.n) (k:=(a.trim.quo p).n) (U:=ak a.L a.nx a.st a.n) (U':=ak (a.trim.quo p).L (a.trim.quo p).nx (a.trim.quo p).st (a.trim.quo p).n) (p:=p) hm (by omega) (fun q hq=>by rw[Da.qb];exact Da.zU c2.2 hq) (k1:=0) (k2:=0) (k3:=((a.trim.quo p).trim.L:Int)) (k4:=((a.trim.quo p).trim.st:Int)) (l1:=[]) (l2:=[]) (l3:=(a.trim.quo p).trim.cv) (l4:=(a.trim.quo p).trim.cK)
 refine ⟨(a.trim.quo p).trim,X,acF ?_,Canon.congr acN fun w hw=>h.Ra hw⟩
 unfold Sg
 refine bs (RV h) ?_
 refine bs c1 ?_
 refine bs (acK ht c2.2) ?_
 simp only[un]
 rw[←q1,←q2]
 have acO:CC vA [.int .i64 (a.L:Int),.int .i64 0,.list ax (a.trim.quo p).cv,.list aB (a.trim.quo p).cK]=some (dy (a.trim.quo p).trim++[.list bf (jW (ak (a.trim.quo p).L (a.trim.quo p).nx (a.trim.quo p).st (a.trim.quo p).n) (a.trim.quo p).n)]):=by
  rw[←Cw]
  unfold dy lz
  rw[bZ];rfl
 refine bs acO ?_
 have e0:(jW (ak a.L a.nx a.st a.n) a.n).length=a.n:=by simp[jW]
 refine bT (show ((decide (0≤((jW (ak a.L a.nx a.st a.n) a.n).length:Int)))&&((decide (((jW (ak a.L a.nx a.st a.n) a.n).length:Int)≤((jW (ak a.L a.nx a.st a.n) a.n).length:Int)))&&(Nat.ble (((((jW (ak a.L a.nx a.st a.n) a.n).length:Nat):Int).toNat)*8) b7)))=true from nw (by rw[e0];omega) (by omega)) ?_
 refine bs hX ?_
 rfl
theorem Sl {a:Da} (h:a.Ok): ∃m,CC rj (dy a)=some (dy m)∧m.Canon a.L (a.acc a.st):=by
 obtain ⟨m,X,h1,h2⟩:=acM h
 refine ⟨m,acG ?_,h2⟩
 unfold Si
 refine bs (tG h) ?_
 refine bF rfl ?_
 refine bs h1 ?_
 rfl
open Classical in
noncomputable def minD (a:Da):Da:=if h: ∃m:Da,m.Canon a.L (a.acc a.st) then Classical.choose h else a
theorem v8 {a:Da} (h:a.Ok):(minD a).Canon a.L (a.acc a.st):=by
 obtain ⟨m,_,h2⟩:=Sl h
 have: ∃m:Da,m.Canon a.L (a.acc a.st):=⟨m,h2⟩
 unfold minD
 rw[dif_pos this]
 exact Classical.choose_spec this
theorem Ag {a m:Da} (h:a.Ok) (hm:m.Canon a.L (a.acc a.st)):m=minD a:=hm.eq (v8 h)
theorem EZ {a:Da} (h:a.Ok):CC rj (dy a)=some (dy (minD a)):=by
 obtain ⟨m,h1,h2⟩:=Sl h
 rw[h1,Ag h h2]
end Go.AM
set_option maxRecDepth 100000
namespace Go.AM
section
variable {α:Type} [DecidableEq α] {L:Nat} {next:α→Nat→α} {a0:α}
theorem Sm (S:List α) (a:α): ∀x,(cJ next S a x).length≤S.length+x
 | 0=>Nat.le_refl _
 | x+1=>by
  have:=Sm S a x
  rw[cJ,ru]
  split<;>omega
theorem acP {m:Nat} (h:(ak L next a0 m).length≤m) (i:Nat):(ak L next a0 i).length≤m:=by
 rcases Nat.lt_or_ge m i with c|c
 ·rw[zm h (by omega)];exact h
 ·exact Nat.le_trans (lu c).length_le h
theorem acQ {k:Nat} (hd:(ak L next a0 k).length≤k) (i:Nat):(ak L next a0 i).length≤(ak L next a0 k).length:=by
 rcases Nat.lt_or_ge k i with c|c
 ·rw[zm hd (by omega)];exact Nat.le_refl _
 ·exact (lu c).length_le
theorem acR {k m:Nat} (h:m<(ak L next a0 k).length):m<(ak L next a0 m).length:=by
 rcases Nat.lt_or_ge m (ak L next a0 m).length with c|c
 ·exact c
 ·have:=acP c k
  omega
theorem acS {m:Nat} (h:m<(ak L next a0 m).length) (hm:1≤m): ∃i,i<m∧(∀j,j≤i→j<(ak L next a0 j).length∧(ak L next a0 j).length≤m)∧m<(ak L next a0 (i+1)).length:=by
 have key: ∀d k,k+d=m→(∀j,j≤k→(ak L next a0 j).length≤m)→∃i,i<m∧(∀j,j≤i→j<(ak L next a0 j).length∧(ak L next a0 j).length≤m)∧m<(ak L next a0 (i+1)).length:=by
  intro d
  induction d with
  | zero=>
   intro k hk hj
   have:=hj k (Nat.le_refl _)
   rw[show k=m by omega] at this
   omega
  | succ d ih=>
   intro k hk hj
   rcases Nat.lt_or_ge m (ak L next a0 (k+1)).length with c|c
   ·refine ⟨k,by omega,fun j Sn=>⟨?_,hj j Sn⟩,c⟩
    rcases Nat.lt_or_ge j (ak L next a0 j).length with c1|c1
    ·exact c1
    ·have h1:=hj j Sn
     rw[←zm c1 (show j≤m by omega)] at h1
     omega
   ·refine ih (k+1) (by omega) fun j bS=> ?_
    rcases Nat.lt_or_ge j (k+1) with c1|c1
    ·exact hj j (by omega)
    ·rw[show j=k+1 by omega];exact c
 exact key m 0 (by omega) fun j hj=>by rw[Nat.le_zero.1 hj];simp[ak];omega
theorem acT {P:α→Prop} (h0:P a0) (hP: ∀a,P a→∀x,x<L→P (next a x)) (i:Nat): ∀a∈ak L next a0 i,P a:=by
 intro a ha
 obtain ⟨w,hw,rfl⟩:=zo i a ha
 have: ∀(w:List Nat) (b:α),P b→WL L w→P (w.foldl next b):=by
  intro w
  induction w with
  | nil=>intro b hb _;exact hb
  | cons x w ih=>intro b hb hw;exact ih _ (hP b hb x hw.head) hw.tail
 exact this w a0 h0 hw
end
end Go.AM
set_option maxRecDepth 100000
namespace Go.AM
open Go.Proofs
structure NP where
 p:Nat
 q:Nat
deriving DecidableEq
section
variable {a b:Da} (ha:a.Ok) (hb:b.Ok) (hL:a.L=b.L) {op:Nat}
include ha hb hL
end
def zD:Da:=⟨0,0,[],[]⟩
def gI (m:Da) (e:Int):List V:=[.int .i64 (m.L:Int),.int .i64 (m.st:Int),.int .i64 e,.list ax m.cv,.list aB m.cK]
section
variable {a b:Da} (ha:a.Ok) (hb:b.Ok) (hL:a.L=b.L) {op:Nat}
include ha hb hL
end
section
variable {a b:Da} (ha:a.Ok) (hb:b.Ok) (hL:a.L=b.L) {op:Nat}
include ha hb hL
end
noncomputable def So (C:ae) (ez letter:Int) (Ah:List V):Option (List V):=
 (idx Ah letter).bind fun x1=>
 (C DF [.list bW x1.toList,.int .u64 ez]).bind fun r2=>
 some [.int .u64 ((V.nth r2 0).toInt),.list dG Ah]
theorem acU {ez letter:Int} {Ah:List V} {r:Option (List V)} (h:So CC ez letter Ah=r):CC ot [.int .u64 ez,.int .i64 letter,.list dG Ah]=r:=
 bp (key:=138) (L:=cR) (bs:=[]) (by kernel_rfl) aw (Eq.trans (by kernel_rfl) h)
noncomputable def Sp (C:ae) (ez p8 p9 oG oH:Int) (E0:List V):Option (List V):=
 some [.bool (((IntKind.wrap .u64 ((BitVec.ofInt (IntKind.bits .u64) ez&&&BitVec.ofInt (IntKind.bits .u64) oH).toNat)):Int) != 0),.int .i64 p8,.int .i64 p9,.int .u64 oG,.int .u64 oH,.list an E0]
theorem acV {ez p8 p9 oG oH:Int} {E0:List V} {r:Option (List V)} (h:Sp CC ez p8 p9 oG oH E0=r):CC pM [.int .u64 ez,.int .i64 p8,.int .i64 p9,.int .u64 oG,.int .u64 oH,.list an E0]=r:=
 bp (key:=119) (L:=cR) (bs:=[]) (by kernel_rfl) aw (Eq.trans (by kernel_rfl) h)
noncomputable def Sq (C:ae) (x:Int) (bd:List V):Option (List V):=
 bif cL .u64 x&&true then
  bif cL .u64 x&&true then
  bif Nat.ble ((bd.length+([.int .u64 x]:List V).length)*8) b7 then
   some [.int .i64 (bd.length:Int),.list bW (bd++([.int .u64 x]:List V)),.list g9 (eX (.int .u64 x) (.int .i64 (bd.length:Int)) ([]:List V))]
  else none
  else none
 else none
theorem acW {x:Int} {bd:List V} {r:Option (List V)} (h:Sq CC x bd=r):CC yN [.int .u64 x,.list bW bd]=r:=
 bp (key:=137) (L:=cR) (bs:=[]) (by kernel_rfl) aw (Eq.trans (by kernel_rfl) h)
noncomputable def Sr (C:ae) (x:Int) (bd cS:List V):Option (List V):=
 bif cL .u64 x&&true then
  bif !(fM (.int .u64 x) cS) then
  bif cL .u64 x&&true then
   bif Nat.ble ((bd.length+([.int .u64 x]:List V).length)*8) b7 then
   some [.int .i64 (bd.length:Int),.list g9 (eX (.int .u64 x) (.int .i64 (bd.length:Int)) cS),.list bW (bd++([.int .u64 x]:List V))]
   else none
  else none
  else
  some [.int .i64 ((ig (.int .u64 x) cS (.int .i64 0)).toInt),.list g9 cS,.list bW bd]
 else none
theorem acX {x:Int} {bd cS:List V} {r:Option (List V)} (h:Sr CC x bd cS=r):CC Ic [.int .u64 x,.list bW bd,.list g9 cS]=r:=
 bp (key:=183) (L:=cR) (bs:=[]) (by kernel_rfl) aw (Eq.trans (by kernel_rfl) h)
noncomputable abbrev E1:Code:=cB Tryd.prog (av.aR 117)
noncomputable def Ai (C:ae) (bI i state t36 kH kI kJ kK:Int) (kL:List V) (lA lB bh bw:Int) (cH cb fw lD:List V) (t37:Int) (kM rows cD dz:List V) {β:Type} (kn:(Int × (List V) × (List V) × (List V) × (List V))→Option β) (kr:(Int × Bool × (List V) × (List V) × (List V) × (List V))→Option β):Option β:=
 bif decide ((t37:Int)<t36) then
  (C ot [.int .u64 state,.int .i64 t37,.list dG kM]).bind fun r3=>
  (C Ic [.int .u64 ((V.nth r3 0).toInt),.list bW cD,.list g9 dz]).bind fun r4=>
  bif (decide (0≤t37))&&(decide (t37<(rows.length:Int))) then
  (rows[(t37:Int).toNat]?).bind fun x5=>
  kn (IntKind.wrap .i64 (t37+1),(V.nth (r3.drop 1) 0).toList,rows.set ((t37:Int).toNat) (.int .i64 ((V.nth r4 0).toInt)),(V.nth ((r4.drop 1).drop 1) 0).toList,(V.nth (r4.drop 1) 0).toList)
  else none
 else
  kr (t37,decide ((t37:Int)<t36),kM,rows,cD,dz)
noncomputable def E2 (C:ae) (bI i state t36 kH kI kJ kK:Int) (kL:List V) (lA lB bh bw:Int) (cH cb fw lD:List V):(Int × (List V) × (List V) × (List V) × (List V))→Option ((Int × (List V) × (List V) × (List V) × (List V)) ⊕ (Int × Bool × (List V) × (List V) × (List V) × (List V))):=un fun t37=>un fun kM=>un fun rows=>un fun cD dz=>Ai C bI i state t36 kH kI kJ kK kL lA lB bh bw cH cb fw lD t37 kM rows cD dz (fun y=>some (.inl y)) (fun r=>some (.inr r))
noncomputable def Aj (C:ae) (bI lA lB bh bw:Int) (eG cH:List V) (i:Int) (kM:List V) (kH kI kJ kK:Int) (kL cb cD dz fw:List V) {β:Type} (kn:(Int × (List V) × Int × Int × Int × Int × (List V) × (List V) × (List V) × (List V) × (List V))→Option β) (kr:((Int × (List V) × Int × Int × Int × Int × (List V) × Int × Int × (List V) × (List V) × (List V)) ⊕ (Int × Bool × (List V) × Int × Int × Int × Int × (List V) × (List V) × (List V) × (List V) × (List V)))→Option β):Option β:=
 bif decide ((i:Int)<(cb.length:Int)) then
  bif (decide (0≤i))&&(decide (i<(cb.length:Int))) then
  (cb[(i:Int).toNat]?).bind fun x2=>
  bif (decide (0≤bI))&&((decide (bI≤bI))&&(Nat.ble (((bI:Int).toNat)*8) b7)) then
   (Loop (E2 C bI i x2.toInt ((List.replicate ((bI:Int).toNat) (V.int .i64 0)).length:Int) kH kI kJ kK kL lA lB bh bw eG cH dz fw) (0,kM,List.replicate ((bI:Int).toNat) (V.int .i64 0),cb,cD)).bind (un fun (rp:Int)=>un fun (oA:Bool)=>un fun (zI:List V)=>un fun (Ss:List V)=>un fun (v9:List V) (Kc:List V)=>
    bif decide (((v9.length:Int):Int)>512) then
    kr (.inl (3,zI,kH,kI,kJ,kK,kL,0,0,([]:List V),([]:List V),([]:List V)))
    else
    bif Nat.ble ((fw.length+([.list bf Ss]:List V).length)*24) b7 then
     (C pM [.int .u64 x2.toInt,.int .i64 kH,.int .i64 kI,.int .u64 kJ,.int .u64 kK,.list an kL]).bind fun iW=>
     bif Nat.ble ((dz.length+([.bool ((V.nth iW 0).toBool)]:List V).length)*1) b7 then
     kn (IntKind.wrap .i64 (i+1),zI,(V.nth (iW.drop 1) 0).toInt,(V.nth ((iW.drop 1).drop 1) 0).toInt,(V.nth (((iW.drop 1).drop 1).drop 1) 0).toInt,(V.nth ((((iW.drop 1).drop 1).drop 1).drop 1) 0).toInt,(V.nth (((((iW.drop 1).drop 1).drop 1).drop 1).drop 1) 0).toList,v9,Kc,dz++([.bool ((V.nth iW 0).toBool)]:List V),fw++([.list bf Ss]:List V))
     else none
    else none)
  else none
  else none
 else
  kr (.inr (i,decide ((i:Int)<(cb.length:Int)),kM,kH,kI,kJ,kK,kL,cb,cD,dz,fw))
noncomputable def wa (C:ae) (bI lA lB bh bw:Int) (eG cH:List V):(Int × (List V) × Int × Int × Int × Int × (List V) × (List V) × (List V) × (List V) × (List V))→Option ((Int × (List V) × Int × Int × Int × Int × (List V) × (List V) × (List V) × (List V) × (List V)) ⊕ ((Int × (List V) × Int × Int × Int × Int × (List V) × Int × Int × (List V) × (List V) × (List V)) ⊕ (Int × Bool × (List V) × Int × Int × Int × Int × (List V) × (List V) × (List V) × (List V) × (List V)))):=un fun i=>un fun kM=>un fun kH=>un fun kI=>un fun kJ=>un fun kK=>un fun kL=>un fun cb=>un fun cD=>un fun dz fw=>Aj C bI lA lB bh bw eG cH i kM kH kI kJ kK kL cb cD dz fw (fun y=>some (.inl y)) (fun r=>some (.inr r))
noncomputable def Su (C:ae):ct:=fun β n ds k=>
 bif Nat.beq n 161 then bB I5 [false,false,false,false,true,true,false,false,false,false,false,false,false,false,false,true,false,false,true,true,false,false] [[1,2,3,4,0,0,0,7,8,9,10,11,12,13,14,15,0,17,18,0,0,21,22]] (@Ai C) ds k else
 bif Nat.beq n 81 then bB I6 [false,true,true,true,true,true,true,true,false,false,false,false,false,false,true,true,true,true] [[0,0,0,0,0,0,0,0,0,0,0,0],[1,0,0,0,0,0,0,0,0,9,10,11,12,13,14,0,0,0,0]] (@Aj C) ds k else
 none
abbrev Sv (C:ae) (b:cm):Prop:=cp Tryd.prog av C (Su C) 117 (cI Tryd.prog (av.aR 117)) (av.sin 117).aP.length b
theorem acY (C:ae):Sv C (.loop (ao [1,1,1,1,0,1,0,0,1,0,0,1,1,0,1,0,0] E1)):=
 bE I5 [false,false,false,false,true,true,false,false,false,false,false,false,false,false,false,true,false,false,true,true,false,false] [[1,2,3,4,0,0,0,7,8,9,10,11,12,13,14,15,0,17,18,0,0,21,22]] (@Ai C) (by kernel_rfl) (aY (bs:=[]) (by kernel_rfl) aw) (fun ds=>by kernel_rfl) (fun i x=>by kernel_rfl) (fun i x β k=>by kernel_rfl) (fun β ds k=>by kernel_rfl)
theorem acZ (C:ae):Sv C (.loop (ao [1,1,1,1,0,1,0,0] E1)):=
 bE I6 [false,true,true,true,true,true,true,true,false,false,false,false,false,false,true,true,true,true] [[0,0,0,0,0,0,0,0,0,0,0,0],[1,0,0,0,0,0,0,0,0,9,10,11,12,13,14,0,0,0,0]] (@Aj C) (by kernel_rfl) (aY (bs:=[.loop (ao [1,1,1,1,0,1,0,0,1,0,0,1,1,0,1,0,0] E1)]) (by kernel_rfl) (bn (acY C) aw)) (fun ds=>by kernel_rfl) (fun i x=>by kernel_rfl) (fun i x β k=>by kernel_rfl) (fun β ds k=>by kernel_rfl)
noncomputable def Kd (C:ae) (bI start:Int) (kM:List V) (kH kI kJ kK:Int) (kL:List V):Option (List V):=
 (C yN [.int .u64 start,.list bW ([]:List V)]).bind fun r1=>
 (Loop (wa C bI 0 0 bI 0 ([]:List V) ([]:List V)) (0,kM,kH,kI,kJ,kK,kL,(V.nth (r1.drop 1) 0).toList,(V.nth ((r1.drop 1).drop 1) 0).toList,([]:List V),([]:List V))).bind (c8 (un fun (rr:Int)=>un fun (zJ:List V)=>un fun (zj:Int)=>un fun (ac0:Int)=>un fun (zK:Int)=>un fun (zL:Int)=>un fun (JY:List V)=>un fun (ac1:Int)=>un fun (JZ:Int)=>un fun (ac2:List V)=>un fun (J0:List V) (ac3:List V)=>
  some [.int .i64 ac1,.int .i64 JZ,.int .i64 rr,.list dG zJ,.int .i64 zj,.int .i64 ac0,.int .u64 zK,.int .u64 zL,.list an JY,.list ax ac2,.list aB J0,.list bW ac3]) (un fun (ag1:Int)=>un fun (ac4:Bool)=>un fun (ac5:List V)=>un fun (ac6:Int)=>un fun (ac7:Int)=>un fun (ac8:Int)=>un fun (ac9:Int)=>un fun (ada:List V)=>un fun (RP:List V)=>un fun (RQ:List V)=>un fun (J1:List V) (adb:List V)=>
  some [.int .i64 bI,.int .i64 0,.int .i64 0,.list dG ac5,.int .i64 ac6,.int .i64 ac7,.int .u64 ac8,.int .u64 ac9,.list an ada,.list ax J1,.list aB adb,.list bW RP]))
theorem Sw {bI start:Int} {kM:List V} {kH kI kJ kK:Int} {kL:List V} {r:Option (List V)} (h:Kd CC bI start kM kH kI kJ kK kL=r):CC tq [.int .i64 bI,.int .u64 start,.list dG kM,.int .i64 kH,.int .i64 kI,.int .u64 kJ,.int .u64 kK,.list an kL]=r:=
 bp (key:=117) (L:=Su CC) (bs:=[.loop (ao [1,1,1,1,0,1,0,0] E1)]) (by kernel_rfl) (bn (acZ CC) aw) (Eq.trans (by kernel_rfl) h)
noncomputable def Ke (C:ae) (dP fu eh fS:Int) (ey:List V):Option (List V):=
 (C Du [.int .i64 dP,.int .i64 fu,.int .u64 eh,.int .u64 fS,.list an ey]).bind fun r1=>
 bif (((V.nth r1 0).toInt):Int) != 0 then
  some [.int .i64 0,.int .i64 0,.int .i64 ((V.nth r1 0).toInt),.list ax ([]:List V),.list aB ([]:List V),.list bW ([]:List V)]
 else
  (C DB [.int .i64 dP,.int .i64 fu,.int .u64 eh,.int .u64 fS,.list an ey]).bind fun r2=>
  (C tq [.int .i64 dP,.int .u64 eh,.list dG ((V.nth r2 0).toList),.int .i64 dP,.int .i64 fu,.int .u64 eh,.int .u64 fS,.list an ey]).bind fun r3=>
  some [.int .i64 ((V.nth r3 0).toInt),.int .i64 ((V.nth (r3.drop 1) 0).toInt),.int .i64 ((V.nth (r3.drop 2) 0).toInt),.list ax ((V.nth (((r3.drop 3).drop 1).drop 5) 0).toList),.list aB ((V.nth ((((r3.drop 3).drop 1).drop 5).drop 1) 0).toList),.list bW ((V.nth (((((r3.drop 3).drop 1).drop 5).drop 1).drop 1) 0).toList)]
theorem Sy {dP fu eh fS:Int} {ey:List V} {r:Option (List V)} (h:Ke CC dP fu eh fS ey=r):CC yI [.int .i64 dP,.int .i64 fu,.int .u64 eh,.int .u64 fS,.list an ey]=r:=
 bp (key:=99) (L:=cR) (bs:=[]) (by kernel_rfl) aw (Eq.trans (by kernel_rfl) h)
def uV (q:Nat):V:= .int .u64 (q:Int)
def uM (S:List Nat):List V:=fc uV 0 S
theorem Kf (a b:Nat):ic (uV a) (uV b)=decide (a=b):=abI a b
theorem ade {S:List Nat} {i:Nat} (h:i<S.length):(U1 S)[i]? =some (uV S[i]):=JL (List.getElem?_eq_getElem h)
theorem Sz {x:Nat} (hx:x<2^64):CC yN [uV x,.list bW []]=some [nV 0,.list bW (U1 [x]),.list g9 (uM [x])]:=by
 refine acW ?_
 unfold Sq
 rw[RC hx]
 exact bT rfl (bT rfl (bT (cap (by simp) (by omega)) rfl))
theorem adf {S:List Nat} {x:Nat} (hx:x<2^64) (hl:S.length≤1000000):CC Ic [uV x,.list bW (U1 S),.list g9 (uM S)]=some [nV ((cG S x).idxOf x),.list g9 (uM (cG S x)),.list bW (U1 (cG S x))]:=by
 refine acX ?_
 unfold Sr
 have e1:=zB Kf x S 0
 rw[RC hx]
 refine bT rfl ?_
 rw[show (V.int .u64 (x:Int))=uV x from rfl,RD]
 by_cases h:x∈S
 ·refine bF (by rw[show fM (uV x) (uM S)=_ from e1];simpa using h) ?_
  have e2:=zC Kf x (.int .i64 0) S 0 h
  rw[show ig (uV x) (uM S) (.int .i64 0)=_ from e2,if_pos h,Nat.zero_add,show cG S x=S by unfold cG;rw[if_pos h]]
  rfl
 ·refine bT (by rw[show fM (uV x) (uM S)=_ from e1];simpa using h) ?_
  refine bT rfl ?_
  refine bT (cap (by rw[oB];simp;omega) (by omega)) ?_
  have e2:=zE Kf x S 0 h
  rw[Nat.zero_add] at e2
  rw[oB,show eX (uV x) (.int .i64 (S.length:Int)) (uM S)=_ from e2,if_neg h,show cG S x=S++[x] by unfold cG;rw[if_neg h]]
  simp[U1,nV,uM,uV]
def sn (E:List Ed) (s x:Nat):Nat:=gF E s (x:Int)
def sf (fin s:Nat):Bool:= !((s&&&fin)==0)
structure Nat6 (n:Nf) (L S:Nat):Prop where
 code:n.code=0
 ok:n.Ok
 hL:n.L=(L:Int)
 hS:n.S=(S:Int)
namespace Nat6
variable {n:Nf} {L S:Nat} (h:Nat6 n L S)
include h
theorem good:n.Good:=Nf.ZZ h.code
theorem l1:1≤L:=by have:=h.good.L1;have:=h.hL;omega
theorem l6:L≤6:=by have:=h.good.L6;have:=h.hL;omega
theorem oD:S≤64:=by have:=h.good.S64;have:=h.hS;omega
theorem sS:n.S.toNat=S:=by have:=h.hS;omega
theorem lL:n.L.toNat=L:=by have:=h.hL;omega
theorem edF: ∀e∈n.E,e.f.toNat<S:=fun e he=>by have:=h.good.E e he;have:=h.hS;unfold Ed.In at*;omega
theorem SA: ∀e∈n.E,e.t.toNat<S:=fun e he=>by have:=h.good.E e he;have:=h.hS;unfold Ed.In at*;omega
theorem st:n.st<2^S:=by have:=h.good.st;rwa [h.sS] at this
theorem fin:n.fin<2^S:=by have:=h.good.fin;rwa [h.sS] at this
theorem pow:2^S≤2^64:=Nat.pow_le_pow_right (by omega) h.oD
theorem next (s x:Nat):sn n.E s x<2^S:=JI h.SA
end Nat6
def gJ (n:Nf) (L S:Nat):List Nat:=ak L (sn n.E) n.st (2^S)
def hO (n:Nf) (L S:Nat):Da:=eB L (sn n.E) (sf n.fin) (gJ n L S)
def gK (n:Nf) (L S:Nat):Prop:=512<(gJ n L S).length
def tV (n:Nf) (L S:Nat):List V:=U2 (iU L S n.E)
def SB (m:Da) (e:Int) (X:V):List V:=[.int .i64 (m.L:Int),.int .i64 (m.st:Int),.int .i64 e,.list ax m.cv,.list aB m.cK,X]
section
variable {n:Nf} {L S:Nat} (h:Nat6 n L S)
include h
theorem adg {s x:Nat} (hs:s<2^S) (hx:x<L):CC ot [uV s,nV x,.list dG (tV n L S)]=some [uV (sn n.E s x),.list dG (tV n L S)]:=by
 have hp:=h.pow
 refine acU ?_
 unfold So
 have e1:idx (tV n L S) (x:Int)=some (.list bW (U1 (kz S n.E (x:Int)))):=by
  rw[HP rfl]
  unfold tV U2
  rw[List.getElem?_map,JM hx];rfl
 refine bs e1 ?_
 have hr:vK (kz S n.E (x:Int)):=aaZ h.oD h.SA
 have e2:=aaY hr (s:=s) (by omega)
 have hl:(kz S n.E (x:Int)).length=S:=by simp[kz]
 rw[hl,aa0 (by omega) h.oD h.edF] at e2
 refine bs e2 ?_
 rfl
theorem adh {s:Nat} (hs:s<2^S):CC pM (uV s::lr n [])=some (.bool (sf n.fin s)::lr n []):=by
 have hp:=h.pow
 have hf:=h.fin
 refine acV ?_
 unfold Sp
 have e:IntKind.wrap .u64 ((BitVec.ofInt (IntKind.bits .u64) (s:Int)&&&BitVec.ofInt (IntKind.bits .u64) (n.fin:Int)).toNat)=((s&&&n.fin:Nat):Int):=u64_and (by omega) (by omega)
 rw[e]
 have e2:(((s&&&n.fin:Nat):Int) != 0)=sf n.fin s:=by
  unfold sf
  rw[Bool.eq_iff_iff]
  simp
 rw[e2];rfl
theorem sub_lt (i:Nat): ∀s∈ak L (sn n.E) n.st i,s<2^S:=acT (P:=fun s=>s<2^S) h.st (fun s _ x _=>h.next s x) i
theorem wc (i:Nat):(ak L (sn n.E) n.st i).length≤2^S:=by
 have:=Q8 (L:=L) (next:=sn n.E) (a0:=n.st) (U:=List.range (2^S)) (List.mem_range.2 h.st) (fun s _ x _=>List.mem_range.2 (h.next s x)) i
 simpa using this
theorem adi {T U:List Nat} {s:Nat} (hs:s<2^S) (hT:T.length≤1000) (hp:cJ (sn n.E) T s L <+: U) {i c1 c2:Int} {l1 l2 l3 l4:List V}:
  Loop (E2 CC (L:Int) i (s:Int) ((List.replicate (((L:Nat):Int).toNat) (V.int .i64 0)).length:Int) n.L n.S (n.st:Int) (n.fin:Int) (n.E.map Ed.enc) c1 c2 (L:Int) 0 l1 l2 l3 l4) (0,tV n L S,List.replicate (((L:Nat):Int).toNat) (V.int .i64 0),U1 T,uM T)=
   some ((L:Int),false,tV n L S,(tab L fun x=>nV (U.idxOf (sn n.E s x))),U1 (cJ (sn n.E) T s L),uM (cJ (sn n.E) T s L)):=by
 have h6:=h.l6
 have SC:=h.pow
 rw[Int.toNat_natCast,oF,eP]
 refine (fK L (fun x=>((x:Int),tV n L S,(tab L fun j=>if j<x then nV (U.idxOf (sn n.E s j)) else nV 0),U1 (cJ (sn n.E) T s x),uM (cJ (sn n.E) T s x))) _ (fun x hx=> ?_) ?_)
 ·simp only[E2,Ai,un]
  refine bT (eD hx) ?_
  refine bs (adg h hs hx) ?_
  have hl:=Sm (next:=sn n.E) T s x
  have hn:=h.next s x
  refine bs (adf (S:=cJ (sn n.E) T s x) (x:=sn n.E s x) (by omega) (by omega)) ?_
  refine (fJ hx).trans ?_
  rw[dm (by omega),Int.toNat_natCast,p5]
  have e:(cG (cJ (sn n.E) T s x) (sn n.E s x)).idxOf (sn n.E s x)=U.idxOf (sn n.E s x):=(vO ((vM T s (show x+1≤L by omega)).trans hp) vL).symm
  show some (Sum.inl _)=some (Sum.inl _)
  refine congrArg (fun x=>some (Sum.inl x)) ?_
  refine Prod.ext rfl (Prod.ext rfl (Prod.ext ?_ (Prod.ext rfl rfl)))
  refine eQ fun j _=> ?_
  by_cases hj:j=x
  ·rw[if_pos hj,if_pos (by omega),hj,←e];rfl
  ·rw[if_neg hj]
   by_cases bS:j<x
   ·rw[if_pos bS,if_pos (by omega)]
   ·rw[if_neg bS,if_neg (by omega)]
 ·simp only[E2,Ai,un]
  refine bF (bN (Nat.le_refl _)) ?_
  rw[bN (Nat.le_refl _)]
  have:(tab L fun j=>if j<L then nV (U.idxOf (sn n.E s j)) else nV 0)=tab L fun j=>nV (U.idxOf (sn n.E s j)):=eQ fun j hj=>if_pos hj
  rw[this]
theorem Kg {i:Nat} (lf:i<(ak L (sn n.E) n.st i).length) (hlen:(ak L (sn n.E) n.st i).length≤512) {U:List Nat} (hp:ak L (sn n.E) n.st (i+1) <+: U) {l1 l2 l3 l4:List V} (hl3:l3.length≤1000) (hl4:l4.length≤1000):
  wa CC (L:Int) 0 0 (L:Int) 0 l1 l2 ((i:Int),tV n L S,n.L,n.S,(n.st:Int),(n.fin:Int),n.E.map Ed.enc,U1 (ak L (sn n.E) n.st i),uM (ak L (sn n.E) n.st i),l3,l4)=
   if 512<(ak L (sn n.E) n.st (i+1)).length then some (.inr (.inl (3,tV n L S,n.L,n.S,(n.st:Int),(n.fin:Int),n.E.map Ed.enc,0,0,[],[],[])))
   else some (.inl (((i+1:Nat):Int),tV n L S,n.L,n.S,(n.st:Int),(n.fin:Int),n.E.map Ed.enc,U1 (ak L (sn n.E) n.st (i+1)),uM (ak L (sn n.E) n.st (i+1)),l3++[V.bool (sf n.fin (ak L (sn n.E) n.st i)[i])],l4++[V.list bf (tab L fun x=>nV (U.idxOf (sn n.E (ak L (sn n.E) n.st i)[i] x)))])):=by
 have h6:=h.l6
 have hq:=sub_lt h i _ (List.getElem_mem lf)
 have kW:ak L (sn n.E) n.st (i+1)=cJ (sn n.E) (ak L (sn n.E) n.st i) (ak L (sn n.E) n.st i)[i] L:=Q1 (List.getElem?_eq_getElem lf)
 simp only[wa,Aj,un]
 refine bT (decide_eq_true (by rw[oB];omega)) ?_
 refine (Es (ade lf)).trans ?_
 refine bT (nw (by omega) (by omega)) ?_
 refine bs (adi h hq (by omega) (U:=U) (by rw[←kW];exact hp)) ?_
 rw[←kW]
 by_cases sP:512<(ak L (sn n.E) n.st (i+1)).length
 ·rw[if_pos sP]
  refine bT (decide_eq_true (by rw[oB];omega)) ?_
  rfl
 ·rw[if_neg sP]
  refine bF (decide_eq_false (by rw[oB];omega)) ?_
  refine bT (cap (by simp;omega) (by omega)) ?_
  refine bs (adh h hq) ?_
  refine bT (cap (by simp;omega) (by omega)) ?_
  rw[dm (by omega)]
  rfl
theorem adj (hn: ¬gK n L S): ∃X,CC tq (nV L::uV n.st:: .list dG (tV n L S)::lr n [])=some ([nV L,nV 0,.int .i64 0,.list dG (tV n L S)]++(lr n []++[.list ax (hO n L S).cv,.list aB (hO n L S).cK,X])):=by
 have h6:=h.l6
 have bZ:=h.st
 have SC:=h.pow
 have hd:(ak L (sn n.E) n.st (2^S)).length≤2^S:=wc h _
 have hle: ∀i,(ak L (sn n.E) n.st i).length≤(gJ n L S).length:=acQ hd
 have ag2:(gJ n L S).length≤512:=by unfold gK at hn;omega
 refine ⟨.list bW (U1 (gJ n L S)),Sw ?_⟩
 unfold Kd
 refine bs (Sz (x:=n.st) (by omega)) ?_
 have key:Loop (wa CC (L:Int) 0 0 (L:Int) 0 ([]:List V) ([]:List V)) (0,tV n L S,n.L,n.S,(n.st:Int),(n.fin:Int),n.E.map Ed.enc,U1 [n.st],uM [n.st],([]:List V),([]:List V))=
   some (.inr (((gJ n L S).length:Int),false,tV n L S,n.L,n.S,(n.st:Int),(n.fin:Int),n.E.map Ed.enc,U1 (gJ n L S),uM (gJ n L S),(hO n L S).cv,(hO n L S).cK)):=by
  refine (fK (gJ n L S).length (fun i=>((i:Int),tV n L S,n.L,n.S,(n.st:Int),(n.fin:Int),n.E.map Ed.enc,U1 (ak L (sn n.E) n.st i),uM (ak L (sn n.E) n.st i),(tab i fun j=>V.bool ((hO n L S).fin j)),(tab i fun j=>jA L ((hO n L S).nx j)))) _ (fun i hi=> ?_) ?_)
  ·have lf:=Ei hd hi
   have hiK:i<2^S:=Nat.lt_of_lt_of_le hi hd
   have J2:(ak L (sn n.E) n.st i)[i]=(gJ n L S)[i]:=(lu (show i≤2^S by omega)).getElem lf
   have ag3:=hle (i+1)
   have ag4:=hle i
   have:=Kg h lf (by omega) (U:=gJ n L S) (lu (by omega)) (l1:=[]) (l2:=[]) (l3:=(tab i fun j=>V.bool ((hO n L S).fin j))) (l4:=(tab i fun j=>jA L ((hO n L S).nx j))) (by rw[eP];omega) (by rw[eP];omega)
   rw[if_neg (by omega),J2] at this
   rw[this,rv,rv]
   have e1:(hO n L S).fin i=sf n.fin (gJ n L S)[i]:=JS hi
   have e2:jA L ((hO n L S).nx i)= .list bf (tab L fun x=>nV ((gJ n L S).idxOf (sn n.E (gJ n L S)[i] x))):=by
    unfold jA
    refine congrArg _ (eQ fun x hx=> ?_)
    rw[show (hO n L S).nx i x=_ from zq hi hx];rfl
   rw[e1,e2]
  ·simp only[wa,Aj,un]
   rw[show ak L (sn n.E) n.st (gJ n L S).length=gJ n L S from JU hd,oB]
   refine bF (bN (Nat.le_refl _)) ?_
   rw[bN (Nat.le_refl _)]
   have e3:(hO n L S).n=(gJ n L S).length:=lx
   unfold Da.cv Da.cK
   rw[e3];rfl
 refine bs key ?_
 rfl
theorem adk (hn:gK n L S): ∃X,CC tq (nV L::uV n.st:: .list dG (tV n L S)::lr n [])=some ([nV 0,nV 0,.int .i64 3,.list dG (tV n L S)]++(lr n []++[.list ax [],.list aB [],X])):=by
 have h6:=h.l6
 have bZ:=h.st
 have SC:=h.pow
 obtain ⟨m,hm1,sq,hm3⟩:=acS (acR (show 512<(ak L (sn n.E) n.st (2^S)).length from hn)) (by omega)
 refine ⟨.list bW [],Sw ?_⟩
 unfold Kd
 refine bs (Sz (x:=n.st) (by omega)) ?_
 have key: ∃r,Loop (wa CC (L:Int) 0 0 (L:Int) 0 ([]:List V) ([]:List V)) (0,tV n L S,n.L,n.S,(n.st:Int),(n.fin:Int),n.E.map Ed.enc,U1 [n.st],uM [n.st],([]:List V),([]:List V))=some r∧r=(.inl (3,tV n L S,n.L,n.S,(n.st:Int),(n.fin:Int),n.E.map Ed.enc,0,0,[],[],[])):=by
  refine Ro (fun i st=> ∃l3 l4:List V,l3.length=i∧l4.length=i∧st=((i:Int),tV n L S,n.L,n.S,(n.st:Int),(n.fin:Int),n.E.map Ed.enc,U1 (ak L (sn n.E) n.st i),uM (ak L (sn n.E) n.st i),l3,l4)) _ m 0 _ (fun i _ hi st bZ=> ?_) (fun st bZ=> ?_) ⟨[],[],rfl,rfl,rfl⟩
  ·obtain ⟨l3,l4,e3,e4,rfl⟩:=bZ
   obtain ⟨h1,h2⟩:=sq i (by omega)
   have h3:=(sq (i+1) (by omega)).2
   have:=Kg h h1 h2 (List.prefix_refl _) (l1:=[]) (l2:=[]) (l3:=l3) (l4:=l4) (by omega) (by omega)
   rw[if_neg (by omega)] at this
   exact ⟨_,this,_,_,by simp[e3],by simp[e4],rfl⟩
  ·obtain ⟨l3,l4,e3,e4,rfl⟩:=bZ
   rw[Nat.zero_add] at*
   obtain ⟨h1,h2⟩:=sq m (by omega)
   have:=Kg h h1 h2 (List.prefix_refl _) (l1:=[]) (l2:=[]) (l3:=l3) (l4:=l4) (by omega) (by omega)
   rw[if_pos (by omega)] at this
   exact ⟨_,this,rfl⟩
 obtain ⟨r,h1,rfl⟩:=key
 refine bs h1 ?_
 rfl
theorem adl (hn: ¬gK n L S): ∃X,CC yI (lr n [])=some (SB (hO n L S) 0 (.list bW X)):=by
 obtain ⟨X,hX⟩:=adj h hn
 refine ⟨X.toList,Sy ?_⟩
 unfold Ke
 have hv:=Qw n h.ok
 rw[h.code] at hv
 refine bs hv (bF rfl ?_)
 have hs:=QS n h.ok h.good
 rw[h.lL,h.sS] at hs
 refine bs hs ?_
 refine bs ((congrArg (fun z=>CC tq (.int .i64 z::uV n.st:: .list dG (tV n L S)::lr n [])) h.hL).trans hX) ?_
 rfl
theorem adm (hn:gK n L S): ∃X,CC yI (lr n [])=some (SB zD 3 (.list bW X)):=by
 obtain ⟨X,hX⟩:=adk h hn
 refine ⟨X.toList,Sy ?_⟩
 unfold Ke
 have hv:=Qw n h.ok
 rw[h.code] at hv
 refine bs hv (bF rfl ?_)
 have hs:=QS n h.ok h.good
 rw[h.lL,h.sS] at hs
 refine bs hs ?_
 refine bs ((congrArg (fun z=>CC tq (.int .i64 z::uV n.st:: .list dG (tV n L S)::lr n [])) h.hL).trans hX) ?_
 rfl
theorem we (hn: ¬gK n L S):(hO n L S).Ok:=by
 unfold gK at hn
 exact Q6 (wc h _) h.l1 h.l6 (show (gJ n L S).length≤512 by omega)
theorem adn {w:List Nat} (hw:WL L w):(hO n L S).acc 0 w=sf n.fin (w.foldl (sn n.E) n.st):=by
 have h1:=Q5 (fin:=sf n.fin) (wc h _) (zn _) hw
 have h2:=Q2 (L:=L) (next:=sn n.E) (a0:=n.st) (2^S)
 rw[List.getElem?_eq_getElem (zn _)] at h2
 rw[Option.some.inj h2] at h1
 exact h1
end
noncomputable abbrev SD:Code:=cB Tryd.prog (av.aR 106)
noncomputable def Ak (C:ae) (a b':List V) (t12 t13:Int) {β:Type} (kn:Int→Option β) (kr:((Bool) ⊕ (Int × Bool))→Option β):Option β:=
 bif decide ((t13:Int)<t12) then
  (idx a t13).bind fun x1=>
  (idx b' t13).bind fun x2=>
  bif (x1.toInt:Int) != x2.toInt then
  kr (.inl false)
  else
  kn (IntKind.wrap .i64 (t13+1))
 else
  kr (.inr (t13,decide ((t13:Int)<t12)))
noncomputable def Kh (C:ae) (a b':List V) (t12:Int):(Int)→Option ((Int) ⊕ ((Bool) ⊕ (Int × Bool))):=fun t13=>Ak C a b' t12 t13 (fun y=>some (.inl y)) (fun r=>some (.inr r))
noncomputable def SE (C:ae):ct:=fun β n ds k=>
 bif Nat.beq n 65 then bB IW [false,false,false,true] [[0],[1,2,3,0,0]] (@Ak C) ds k else
 none
abbrev ado (C:ae) (b:cm):Prop:=cp Tryd.prog av C (SE C) 106 (cI Tryd.prog (av.aR 106)) (av.sin 106).aP.length b
theorem adp (C:ae):ado C (.loop (ao [1,1,0,1,0,0] SD)):=
 bE IW [false,false,false,true] [[0],[1,2,3,0,0]] (@Ak C) (by kernel_rfl) (aY (bs:=[]) (by kernel_rfl) aw) (fun ds=>by kernel_rfl) (fun i x=>by kernel_rfl) (fun i x β k=>by kernel_rfl) (fun β ds k=>by kernel_rfl)
noncomputable def SF (C:ae) (a b':List V):Option (List V):=
 bif ((a.length:Int):Int) != (b'.length:Int) then
  some [.bool false]
 else
  (Loop (Kh C a b' (a.length:Int)) 0).bind (c8 (fun (jS:Bool)=>
   some [.bool jS]) (un fun (ku:Int) (mn:Bool)=>
   some [.bool true]))
theorem adq {a b':List V} {r:Option (List V)} (h:SF CC a b'=r):CC Dz [.list bf a,.list bf b']=r:=
 bp (key:=106) (L:=SE CC) (bs:=[.loop (ao [1,1,0,1,0,0] SD)]) (by kernel_rfl) (bn (adp CC) aw) (Eq.trans (by kernel_rfl) h)
noncomputable abbrev SG:Code:=cB Tryd.prog (av.aR 104)
noncomputable def Al (C:ae) (t13:List V) (t14 t15:Int) (qe outs:List V) {β:Type} (kn:(Int × (List V) × (List V))→Option β) (kr:(Int × Bool × (List V) × (List V))→Option β):Option β:=
 bif decide ((t15:Int)<t14) then
  (idx t13 t15).bind fun x1=>
  bif cL .i64 x1.toInt&&true then
  bif !(fM (.int .i64 x1.toInt) qe) then
   bif cL .i64 x1.toInt&&true then
   bif (decide (0≤t15))&&(decide (t15<(outs.length:Int))) then
    (outs[(t15:Int).toNat]?).bind fun x2=>
    kn (IntKind.wrap .i64 (t15+1),eX (.int .i64 x1.toInt) (.int .i64 (qe.length:Int)) qe,outs.set ((t15:Int).toNat) (.int .i64 (qe.length:Int)))
   else none
   else none
  else
   bif (decide (0≤t15))&&(decide (t15<(outs.length:Int))) then
   (outs[(t15:Int).toNat]?).bind fun x3=>
   kn (IntKind.wrap .i64 (t15+1),qe,outs.set ((t15:Int).toNat) (.int .i64 ((ig (.int .i64 x1.toInt) qe (.int .i64 0)).toInt)))
   else none
  else none
 else
  kr (t15,decide ((t15:Int)<t14),qe,outs)
noncomputable def Ki (C:ae) (t13:List V) (t14:Int):(Int × (List V) × (List V))→Option ((Int × (List V) × (List V)) ⊕ (Int × Bool × (List V) × (List V))):=un fun t15=>un fun qe outs=>Al C t13 t14 t15 qe outs (fun y=>some (.inl y)) (fun r=>some (.inr r))
noncomputable def SH (C:ae):ct:=fun β n ds k=>
 bif Nat.beq n 65 then bB IU [false,false,true,true,true] [[1,2,0,0,0,0]] (@Al C) ds k else
 none
abbrev adr (C:ae) (b:cm):Prop:=cp Tryd.prog av C (SH C) 104 (cI Tryd.prog (av.aR 104)) (av.sin 104).aP.length b
theorem ads (C:ae):adr C (.loop (ao [1,1,1,0,1,0,0] SG)):=
 bE IU [false,false,true,true,true] [[1,2,0,0,0,0]] (@Al C) (by kernel_rfl) (aY (bs:=[]) (by kernel_rfl) aw) (fun ds=>by kernel_rfl) (fun i x=>by kernel_rfl) (fun i x β k=>by kernel_rfl) (fun β ds k=>by kernel_rfl)
noncomputable def SI (C:ae) (l:List V):Option (List V):=
 bif (decide (0≤(l.length:Int)))&&((decide ((l.length:Int)≤(l.length:Int)))&&(Nat.ble ((((l.length:Int):Int).toNat)*8) b7)) then
  (Loop (Ki C l (l.length:Int)) (0,([]:List V),List.replicate (((l.length:Int):Int).toNat) (V.int .i64 0))).bind (un fun (ku:Int)=>un fun (mn:Bool)=>un fun (ag5:List V) (adt:List V)=>
   some [.list bf adt])
 else none
theorem adu {l:List V} {r:Option (List V)} (h:SI CC l=r):CC yJ [.list bf l]=r:=
 bp (key:=104) (L:=SH CC) (bs:=[.loop (ao [1,1,1,0,1,0,0] SG)]) (by kernel_rfl) (bn (ads CC) aw) (Eq.trans (by kernel_rfl) h)
noncomputable abbrev SJ:Code:=cB Tryd.prog (av.aR 105)
noncomputable def Am (C:ae) (p q:List V) (t11 t12:Int) (outs:List V) {β:Type} (kn:(Int × (List V))→Option β) (kr:(Int × Bool × (List V))→Option β):Option β:=
 bif decide ((t12:Int)<t11) then
  (idx p t12).bind fun x1=>
  (idx q t12).bind fun x2=>
  bif (decide (0≤t12))&&(decide (t12<(outs.length:Int))) then
  (outs[(t12:Int).toNat]?).bind fun x3=>
  kn (IntKind.wrap .i64 (t12+1),outs.set ((t12:Int).toNat) (.int .i64 (IntKind.wrap .i64 ((IntKind.wrap .i64 ((IntKind.wrap .i64 ((p.length:Int)+1))*x1.toInt))+x2.toInt))))
  else none
 else
  kr (t12,decide ((t12:Int)<t11),outs)
noncomputable def Kj (C:ae) (p q:List V) (t11:Int):(Int × (List V))→Option ((Int × (List V)) ⊕ (Int × Bool × (List V))):=un fun t12 outs=>Am C p q t11 t12 outs (fun y=>some (.inl y)) (fun r=>some (.inr r))
noncomputable def SK (C:ae):ct:=fun β n ds k=>
 bif Nat.beq n 49 then bB IV [false,false,false,true,true] [[1,2,3,0,0,0]] (@Am C) ds k else
 none
abbrev adv (C:ae) (b:cm):Prop:=cp Tryd.prog av C (SK C) 105 (cI Tryd.prog (av.aR 105)) (av.sin 105).aP.length b
theorem adw (C:ae):adv C (.loop (ao [1,1,0,1,0,0] SJ)):=
 bE IV [false,false,false,true,true] [[1,2,3,0,0,0]] (@Am C) (by kernel_rfl) (aY (bs:=[]) (by kernel_rfl) aw) (fun ds=>by kernel_rfl) (fun i x=>by kernel_rfl) (fun i x β k=>by kernel_rfl) (fun β ds k=>by kernel_rfl)
noncomputable def SM (C:ae) (p q:List V):Option (List V):=
 bif (decide (0≤(p.length:Int)))&&((decide ((p.length:Int)≤(p.length:Int)))&&(Nat.ble ((((p.length:Int):Int).toNat)*8) b7)) then
  (Loop (Kj C p q (p.length:Int)) (0,List.replicate (((p.length:Int):Int).toNat) (V.int .i64 0))).bind (un fun (ku:Int)=>un fun (mn:Bool) (adx:List V)=>
   (C yJ [.list bf adx]).bind fun r7=>
   some [.list bf ((V.nth r7 0).toList)])
 else none
theorem ady {p q:List V} {r:Option (List V)} (h:SM CC p q=r):CC Dy [.list bf p,.list bf q]=r:=
 bp (key:=105) (L:=SK CC) (bs:=[.loop (ao [1,1,0,1,0,0] SJ)]) (by kernel_rfl) (bn (adw CC) aw) (Eq.trans (by kernel_rfl) h)
noncomputable abbrev rA:Code:=cB Tryd.prog (av.aR 84)
noncomputable def An (C:ae) (t14 bh bw:Int) (bJ bH:List V) (t15:Int) (ps:List V) {β:Type} (kn:(Int × (List V))→Option β) (kr:(Int × Bool × (List V))→Option β):Option β:=
 bif decide ((t15:Int)<t14) then
  (idx bJ t15).bind fun x1=>
  bif x1.toBool then
  bif (decide (0≤t15))&&(decide (t15<(ps.length:Int))) then
   (ps[(t15:Int).toNat]?).bind fun x2=>
   kn (IntKind.wrap .i64 (t15+1),ps.set ((t15:Int).toNat) (.int .i64 1))
  else none
  else
  kn (IntKind.wrap .i64 (t15+1),ps)
 else
  kr (t15,decide ((t15:Int)<t14),ps)
noncomputable def Kk (C:ae) (t14 bh bw:Int) (bJ bH:List V):(Int × (List V))→Option ((Int × (List V)) ⊕ (Int × Bool × (List V))):=un fun t15 ps=>An C t14 bh bw bJ bH t15 ps (fun y=>some (.inl y)) (fun r=>some (.inr r))
noncomputable def Ao (C:ae) (p next':List V) (x t37 bh bw:Int) (bJ bH:List V) (t38:Int) (Ap:List V) {β:Type} (kn:(Int × (List V))→Option β) (kr:(Int × Bool × (List V))→Option β):Option β:=
 bif decide ((t38:Int)<t37) then
  (idx bH t38).bind fun x7=>
  (idx x7.toList x).bind fun x8=>
  (idx p x8.toInt).bind fun x9=>
  bif Nat.ble ((Ap.length+([.int .i64 x9.toInt]:List V).length)*8) b7 then
  kn (IntKind.wrap .i64 (t38+1),Ap++([.int .i64 x9.toInt]:List V))
  else none
 else
  kr (t38,decide ((t38:Int)<t37),Ap)
noncomputable def E3 (C:ae) (p next':List V) (x t37 bh bw:Int) (bJ bH:List V):(Int × (List V))→Option ((Int × (List V)) ⊕ (Int × Bool × (List V))):=un fun t38 Ap=>Ao C p next' x t37 bh bw bJ bH t38 Ap (fun y=>some (.inl y)) (fun r=>some (.inr r))
noncomputable def Aq (C:ae) (p:List V) (bh bw:Int) (bJ bH next':List V) (x:Int) {β:Type} (kn:((List V) × Int)→Option β) (kr:((List V) × Int × Bool)→Option β):Option β:=
 bif decide ((x:Int)<bh) then
  (Loop (E3 C p next' x (p.length:Int) bh bw bJ bH) (0,([]:List V))).bind (un fun (ab3:Int)=>un fun (SN:Bool) (adz:List V)=>
   (C Dy [.list bf next',.list bf adz]).bind fun rB=>
   kn ((V.nth rB 0).toList,IntKind.wrap .i64 (x+1)))
 else
  kr (next',x,decide ((x:Int)<bh))
noncomputable def E4 (C:ae) (p:List V) (bh bw:Int) (bJ bH:List V):((List V) × Int)→Option (((List V) × Int) ⊕ ((List V) × Int × Bool)):=un fun next' x=>Aq C p bh bw bJ bH next' x (fun y=>some (.inl y)) (fun r=>some (.inr r))
noncomputable def Ar (C:ae) (bh bw:Int) (bJ bH p:List V) {β:Type} (kn:List V→Option β) (kr:(List V)→Option β):Option β:=
 (Loop (E4 C p bh bw bJ bH) (p,0)).bind (un fun (SO:List V)=>un fun (ag6:Int) (EA:Bool)=>
  (C Dz [.list bf SO,.list bf p]).bind fun c6=>
  bif (V.nth c6 0).toBool then
   kr p
  else
   kn SO)
noncomputable def As (C:ae) (bh bw:Int) (bJ bH:List V):(List V)→Option ((List V) ⊕ (List V)):=fun p=>Ar C bh bw bJ bH p (fun y=>some (.inl y)) (fun r=>some (.inr r))
noncomputable def SP (C:ae):ct:=fun β n ds k=>
 bif Nat.beq n 49 then bB IG [false,true,false,false,false,false,true] [[1,0,0,3,4,5,6,0]] (@An C) ds k else
 bif Nat.beq n 241 then bB IH [false,false,false,false,true,false,false,false,false,true] [[1,2,3,4,0,0,6,7,8,9,0]] (@Ao C) ds k else
 bif Nat.beq n 177 then bB II [false,true,true,false,false,false,false] [[1,0,0,0,4,5,6,7]] (@Aq C) ds k else
 bif Nat.beq n 145 then bB IJ [true,false,false,false,false] [[0]] (@Ar C) ds k else
 none
abbrev E5 (C:ae) (b:cm):Prop:=cp Tryd.prog av C (SP C) 84 (cI Tryd.prog (av.aR 84)) (av.sin 84).aP.length b
theorem adA (C:ae):E5 C (.loop (ao [1,1,0,1,0,0] rA)):=
 bE IG [false,true,false,false,false,false,true] [[1,0,0,3,4,5,6,0]] (@An C) (by kernel_rfl) (aY (bs:=[]) (by kernel_rfl) aw) (fun ds=>by kernel_rfl) (fun i x=>by kernel_rfl) (fun i x β k=>by kernel_rfl) (fun β ds k=>by kernel_rfl)
theorem adB (C:ae):E5 C (.loop (ao [1,1,1,1,0,0,0,1,0,1,0,0,1,0,0,1,0,1,0,0] rA)):=
 bE IH [false,false,false,false,true,false,false,false,false,true] [[1,2,3,4,0,0,6,7,8,9,0]] (@Ao C) (by kernel_rfl) (aY (bs:=[]) (by kernel_rfl) aw) (fun ds=>by kernel_rfl) (fun i x=>by kernel_rfl) (fun i x β k=>by kernel_rfl) (fun β ds k=>by kernel_rfl)
theorem adC (C:ae):E5 C (.loop (ao [1,1,1,1,0,0,0,1,0,1,0,0] rA)):=
 bE II [false,true,true,false,false,false,false] [[1,0,0,0,4,5,6,7]] (@Aq C) (by kernel_rfl) (aY (bs:=[.loop (ao [1,1,1,1,0,0,0,1,0,1,0,0,1,0,0,1,0,1,0,0] rA)]) (by kernel_rfl) (bn (adB C) aw)) (fun ds=>by kernel_rfl) (fun i x=>by kernel_rfl) (fun i x β k=>by kernel_rfl) (fun β ds k=>by kernel_rfl)
theorem adD (C:ae):E5 C (.loop (ao [1,1,1,1,0,0] rA)):=
 bE IJ [true,false,false,false,false] [[0]] (@Ar C) (by kernel_rfl) (aY (bs:=[.loop (ao [1,1,1,1,0,0,0,1,0,1,0,0] rA)]) (by kernel_rfl) (bn (adC C) aw)) (fun ds=>by kernel_rfl) (fun i x=>by kernel_rfl) (fun i x β k=>by kernel_rfl) (fun β ds k=>by kernel_rfl)
noncomputable def SQ (C:ae) (aT aW:Int) (aL aU:List V):Option (List V):=
 bif (decide (0≤(aL.length:Int)))&&((decide ((aL.length:Int)≤(aL.length:Int)))&&(Nat.ble ((((aL.length:Int):Int).toNat)*8) b7)) then
  (Loop (Kk C ((List.replicate (((aL.length:Int):Int).toNat) (V.int .i64 0)).length:Int) aT aW aL aU) (0,List.replicate (((aL.length:Int):Int).toNat) (V.int .i64 0))).bind (un fun (jS:Int)=>un fun (ku:Bool) (adE:List V)=>
   (C yJ [.list bf adE]).bind fun r6=>
   (Loop (As C aT aW aL aU) ((V.nth r6 0).toList)).bind (fun (SR:List V)=>
    some [.list bf SR]))
 else none
theorem adF {aT aW:Int} {aL aU:List V} {r:Option (List V)} (h:SQ CC aT aW aL aU=r):CC H5 [.int .i64 aT,.int .i64 aW,.list ax aL,.list aB aU]=r:=
 bp (key:=84) (L:=SP CC) (bs:=[.loop (ao [1,1,0,1,0,0] rA),.loop (ao [1,1,1,1,0,0] rA)]) (by kernel_rfl) (bn (adA CC) (bn (adD CC) aw)) (Eq.trans (by kernel_rfl) h)
theorem wg {n:Nat} {c:Nat→Nat}:(cV n c).length=n:=by simp[cV]
theorem wh {n q:Nat} {c:Nat→Nat} (h:q<n):idx (cV n c) (q:Int)=some (nV (c q)):=p6 h
theorem E6 {n q:Nat} {f:Nat→V} {z v:V} (hv:v=f q):(tab n fun j=>if j<q then f j else z).set q v=tab n fun j=>if j<q+1 then f j else z:=by
 rw[hv,p5]
 refine eQ fun j _=> ?_
 by_cases hj:j=q
 ·rw[if_pos hj,if_pos (by omega),hj]
 ·rw[if_neg hj]
  by_cases bS:j<q
  ·rw[if_pos bS,if_pos (by omega)]
  ·rw[if_neg bS,if_neg (by omega)]
theorem Kl {n:Nat} {f:Nat→V} {z:V}:(tab n fun j=>if j<n then f j else z)=tab n f:=eQ fun j hj=>if_pos hj
theorem SS {n:Nat} {g:Nat→Nat} (hn:n≤1000) (hg: ∀q,q<n→g q≤1000000000):CC yJ [.list bf (cV n g)]=some [.list bf (cV n (b6 g n))]:=by
 refine adu ?_
 unfold SI
 rw[wg]
 refine bT (nw (by omega) (by omega)) ?_
 rw[Int.toNat_natCast,oF]
 refine bs (fK n (fun i=>((i:Int),fc nV 0 (aJ g i),(tab n fun q=>if q<i then nV (b6 g n q) else nV 0))) ((n:Int),false,fc nV 0 (aJ g n),cV n (b6 g n)) (fun q hq=> ?_) ?_) ?_
 ·have hle:=qa g q
  simp only[Ki,Al,un]
  refine bT (eD hq) ?_
  refine bs (wh hq) ?_
  have hk:cL .i64 (g q:Int)=true:=Ev (by have:=hg q hq;omega)
  refine bT (by simp only[nV,V.toInt_int,hk,Bool.and_self]) ?_
  have e1:=zB vU (g q) (aJ g q) 0
  rw[dm (by omega)]
  simp only[nV,V.toInt_int]
  rw[show (V.int .i64 (g q:Int))=nV (g q) from rfl]
  by_cases hx:g q∈aJ g q
  ·refine bF (by rw[show fM (nV (g q)) _=_ from e1];simpa using hx) ?_
   refine (fJ hq).trans ?_
   have e2:=zC vU (g q) (.int .i64 0) (aJ g q) 0 hx
   rw[Nat.zero_add,←RW hq hx] at e2
   rw[show ig (nV (g q)) _ (.int .i64 0)=_ from e2,V.toInt_int,Int.toNat_natCast,J4 hx]
   exact congrArg (fun x=>some (Sum.inl (((q+1:Nat):Int),fc nV 0 (aJ g q),x))) (E6 (f:=fun j=>nV (b6 g n j)) rfl)
  ·refine bT (by rw[show fM (nV (g q)) _=_ from e1];simpa using hx) ?_
   refine bT (by simp only[hk,Bool.and_self]) ?_
   refine (fJ hq).trans ?_
   have e2:=zE vU (g q) (aJ g q) 0 hx
   rw[Nat.zero_add] at e2
   rw[show List.length (fc nV 0 (aJ g q))=(aJ g q).length from vS _ _,show eX (nV (g q)) _ _=_ from e2,Int.toNat_natCast,←RX hq hx,J5 hx]
   exact congrArg (fun x=>some (Sum.inl (((q+1:Nat):Int),fc nV 0 (aJ g q++[g q]),x))) (E6 (f:=fun j=>nV (b6 g n j)) rfl)
 ·simp only[Ki,Al,un]
  refine bF (bN (Nat.le_refl _)) ?_
  rw[bN (Nat.le_refl _)]
  exact congrArg (fun x=>some (Sum.inr ((n:Int),false,fc nV 0 (aJ g n),x))) (Kl (f:=fun j=>nV (b6 g n j)))
 ·rfl
def jZ (n:Nat) (p q:Nat→Nat) (i:Nat):Nat:=p i*(n+1)+q i
theorem adG {n:Nat} {p q:Nat→Nat} (hn:n≤512) (hp: ∀i,i<n→p i≤1000) (hq: ∀i,i<n→q i≤1000):CC Dy [.list bf (cV n p),.list bf (cV n q)]=some [.list bf (cV n (b6 (jZ n p q) n))]:=by
 have hb: ∀i,i<n→jZ n p q i≤1000000000:=fun i hi=>by
  have h1:=hp i hi
  have h2:=hq i hi
  have:=Nat.mul_le_mul h1 (show n+1≤513 by omega)
  unfold jZ
  omega
 refine ady ?_
 unfold SM
 rw[wg]
 refine bT (nw (by omega) (by omega)) ?_
 rw[Int.toNat_natCast,oF]
 refine bs (fK n (fun i=>((i:Int),(tab n fun j=>if j<i then nV (jZ n p q j) else nV 0))) ((n:Int),false,cV n (jZ n p q)) (fun i hi=> ?_) ?_) ?_
 ·simp only[Kj,Am,un]
  refine bT (eD hi) ?_
  refine bs (wh hi) ?_
  refine bs (wh hi) ?_
  refine (fJ hi).trans ?_
  have h1:=hp i hi
  have h2:=hq i hi
  have h3:=hb i hi
  have h4:IntKind.wrap .i64 ((IntKind.wrap .i64 ((IntKind.wrap .i64 (((cV n p).length:Int)+1))*(p i:Int)))+(q i:Int))=(jZ n p q i:Int):=by
   rw[wg,dm (by omega)]
   have e:((n+1:Nat):Int)*(p i:Int)=((p i*(n+1):Nat):Int):=by rw[Nat.mul_comm];push_cast;rfl
   unfold jZ at*
   rw[e]
   have h5:p i*(n+1)≤1000000000:=by omega
   generalize p i*(n+1)=z at*
   rw[wrap64 (x:=(z:Int)) (by omega) (by omega),wrap64 (by omega) (by omega)]
   push_cast;rfl
  simp only[nV,V.toInt_int]
  rw[h4,dm (by omega),Int.toNat_natCast]
  exact congrArg (fun x=>some (Sum.inl (((i+1:Nat):Int),x))) (E6 (f:=fun j=>nV (jZ n p q j)) rfl)
 ·simp only[Kj,Am,un]
  refine bF (bN (Nat.le_refl _)) ?_
  rw[bN (Nat.le_refl _)]
  exact congrArg (fun x=>some (Sum.inr ((n:Int),false,x))) (Kl (f:=fun j=>nV (jZ n p q j)))
 ·simp only[un]
  refine bs (SS (by omega) hb) ?_
  rfl
theorem SU {n:Nat} {p q:Nat→Nat} (hn:n≤1000):CC Dz [.list bf (cV n p),.list bf (cV n q)]=some [.bool (decide (∀i,i<n→p i=q i))]:=by
 refine adq ?_
 unfold SF
 rw[wg,wg]
 refine bF (by simp) ?_
 refine bs (tz (fun i=>p i=q i) n (fun i=>(i:Int)) (.inl false:Bool ⊕ (Int × Bool)) (.inr ((n:Int),false)) (fun i hi=> ?_) ?_) ?_
 ·simp only[Kh,Ak]
  refine bT (eD hi) ?_
  refine bs (wh hi) ?_
  refine bs (wh hi) ?_
  simp only[nV,V.toInt_int]
  by_cases h:p i=q i
  ·refine bF (by simp[h]) ?_
   rw[if_pos h,dm (by omega)]
  ·refine bT (by simp;omega) ?_
   rw[if_neg h]
 ·simp only[Kh,Ak]
  refine bF (bN (Nat.le_refl _)) ?_
  rw[bN (Nat.le_refl _)]
 ·by_cases h: ∀i,i<n→p i=q i
  ·rw[if_pos h,decide_eq_true h];rfl
  ·rw[if_neg h,decide_eq_false h];rfl
theorem adH {n:Nat} {p q:Nat→Nat} {i j:Nat} (hi:q i≤n) (hj:q j≤n):jZ n p q i=jZ n p q j↔p i=p j∧q i=q j:=by
 unfold jZ
 constructor
 ·intro h
  have h1:(p i*(n+1)+q i)/(n+1)=p i:=by rw[Nat.mul_comm,Nat.mul_add_div (by omega),Nat.div_eq_of_lt (by omega)];rfl
  have h2:(p j*(n+1)+q j)/(n+1)=p j:=by rw[Nat.mul_comm,Nat.mul_add_div (by omega),Nat.div_eq_of_lt (by omega)];rfl
  have h3:p i=p j:=by rw[←h1,←h2,h]
  rw[h3] at h
  exact ⟨h3,by omega⟩
 ·rintro ⟨h1,h2⟩
  rw[h1,h2]
section
variable {a:Da} (h:a.Ok)
def iB (a:Da) (c:Nat→Nat):Nat→Nat→Nat
 | 0=>c
 | x+1=>b6 (jZ a.n (iB a c x) fun q=>c (a.nx q x)) a.n
theorem SV {c:Nat→Nat} (hc: ∀q,q<a.n→c q<a.n): ∀x q,q<a.n→iB a c x q<a.n
 | 0,q,hq=>hc q hq
 | x+1,q,hq=>by
  have h1:=zQ (g:=jZ a.n (iB a c x) fun q=>c (a.nx q x)) hq
  have h2:=qa (jZ a.n (iB a c x) fun q=>c (a.nx q x)) a.n
  show b6 _ _ _<_
  omega
include h
theorem adI {c:Nat→Nat} (hc: ∀q,q<a.n→c q<a.n): ∀x,x≤a.L→∀q q',q<a.n→q'<a.n→(iB a c x q=iB a c x q'↔c q=c q'∧∀y,y<x→c (a.nx q y)=c (a.nx q' y)):=by
 intro x
 induction x with
 | zero=>intro _ q q' _ _;exact ⟨fun e=>⟨e,fun y hy=>by omega⟩,fun e=>e.1⟩
 | succ x ih=>
  intro hx q q' hq bM
  show b6 _ _ _=b6 _ _ _↔_
  rw[zR hq bM,adH (by have:=hc _ (h.dQ hq (show x<a.L by omega));omega) (by have:=hc _ (h.dQ bM (show x<a.L by omega));omega),ih (by omega) q q' hq bM]
  constructor
  ·rintro ⟨⟨e1,e2⟩,e3⟩
   refine ⟨e1,fun y hy=> ?_⟩
   rcases Nat.lt_or_ge y x with c1|c1
   ·exact e2 y c1
   ·rw[show y=x by omega];exact e3
  ·rintro ⟨e1,e2⟩
   exact ⟨⟨e1,fun y hy=>e2 y (by omega)⟩,e2 x (by omega)⟩
theorem adJ {c:Nat→Nat} {x:Nat} (hx:x<a.L) {k1 k2:Int} {l1 l2:List V}:
  Loop (E3 CC (cV a.n c) l1 (x:Int) ((cV a.n c).length:Int) k1 k2 l2 a.cK) (0,([]:List V))=some ((a.n:Int),false,cV a.n fun q=>c (a.nx q x)):=by
 have hm:=h.ei
 rw[wg]
 refine (fK a.n (fun t=>((t:Int),(tab t fun q=>nV (c (a.nx q x))))) _ (fun q hq=> ?_) ?_)
 ·simp only[E3,Ao,un]
  refine bT (eD hq) ?_
  refine bs (Da.p7 hq) ?_
  simp only[ry]
  refine bs (tF hx) ?_
  refine bs (wh (h.dQ hq hx)) ?_
  refine bT (cap (by rw[eP];simp;omega) (by omega)) ?_
  rw[dm (by omega),rv]
  rfl
 ·simp only[E3,Ao,un]
  refine bF (bN (Nat.le_refl _)) ?_
  rw[bN (Nat.le_refl _)]
  rfl
theorem SW {c:Nat→Nat} (hc: ∀q,q<a.n→c q<a.n) {k2:Int} {l2:List V}:
  Loop (E4 CC (cV a.n c) (a.L:Int) k2 l2 a.cK) (cV a.n c,0)=some (cV a.n (iB a c a.L),(a.L:Int),false):=by
 have hm:=h.ei
 have h6:=h.l6
 refine (fK a.L (fun x=>(cV a.n (iB a c x),(x:Int))) _ (fun x hx=> ?_) ?_)
 ·simp only[E4,Aq,un]
  refine bT (eD hx) ?_
  refine bs (adJ h hx) ?_
  refine bs (adG hm (fun q hq=>by have:=SV hc x q hq;omega) fun q hq=>by have:=hc _ (h.dQ hq hx);omega) ?_
  rw[dm (by omega)]
  rfl
 ·simp only[E4,Aq,un]
  refine bF (bN (Nat.le_refl _)) ?_
  rw[bN (Nat.le_refl _)]
theorem adK {c0:Nat→Nat} (hp0:a.Part c0) (ho0:ny c0 a.n) (Co: ∀q,q<a.n→c0 q<a.n) {k2:Int} {l2:List V}: ∃p,Loop (As CC (a.L:Int) k2 l2 a.cK) (cV a.n c0)=some (cV a.n p)∧a.tI p∧∀q,q<a.n→p q<a.n:=by
 have hm:=h.ei
 have:=OZ (step:=As CC (a.L:Int) k2 l2 a.cK)
  (fun x=> ∃c,x=cV a.n c∧a.Part c∧ny c a.n∧∀q,q<a.n→c q<a.n)
  (fun x=>a.n-(aJ (fun q=>(x.getD q (nV 0)).toInt) a.n).length)
  (fun r=> ∃p,r=cV a.n p∧a.tI p∧∀q,q<a.n→p q<a.n) (fun x hx=> ?_) (cV a.n c0) ⟨c0,rfl,hp0,ho0,Co⟩
 ·obtain ⟨r,h1,p,rfl,h2,h3⟩:=this
  exact ⟨p,h1,h2,h3⟩
 ·obtain ⟨c,rfl,hp,ho,hc⟩:=hx
  have jY:a.EF c (iB a c a.L):=fun q q' hq bM=>(adI h hc a.L (Nat.le_refl _) q q' hq bM).trans Da.tH.symm
  have hb:=SV hc a.L
  have tL: ∀q q',q<a.n→q'<a.n→iB a c a.L q=iB a c a.L q'→c q=c q':=fun q q' hq bM e=>(Da.tH.1 ((jY q q' hq bM).1 e)).1
  have iq:ny (iB a c a.L) a.n:=by
   have h1:=h.l1
   obtain ⟨m,hm⟩: ∃m,a.L=m+1:=⟨a.L-1,by omega⟩
   rw[hm]
   exact J6 _ _
  by_cases he: ∀q,q<a.n→iB a c a.L q=c q
  ·right
   refine ⟨_,?_,c,rfl,⟨hp.R0 h fun q q' hq bM e=>(jY q q' hq bM).1 (by rw[he q hq,he q' bM,e]),ho⟩,hc⟩
   simp only[As,Ar,un]
   refine bs (SW h hc) ?_
   refine bs (SU (by omega)) ?_
   refine bT (by simpa using he) ?_
   rfl
  ·left
   refine ⟨cV a.n (iB a c a.L),?_,⟨iB a c a.L,rfl,jY.part h hp,iq,hb⟩,?_⟩
   ·simp only[As,Ar,un]
    refine bs (SW h hc) ?_
    refine bs (SU (by omega)) ?_
    refine bF (by rw[V.ca,V.pE];exact decide_eq_false he) ?_
    rfl
   ·have ec: ∀d:Nat→Nat,(aJ (fun q=>((cV a.n d).getD q (nV 0)).toInt) a.n).length=(aJ d a.n).length:=fun d=>by
     have key: ∀m,m≤a.n→aJ (fun q=>((cV a.n d).getD q (nV 0)).toInt) m=(aJ d m).map fun n:Nat=>(n:Int):=by
      intro m
      induction m with
      | zero=>intro _;rfl
      | succ m ih=>
       intro hm
       have e:((cV a.n d).getD m (nV 0)).toInt=(d m:Int):=by unfold cV;rw[vP (by omega)];rfl
       rw[aJ,aJ,ih (by omega),e]
       unfold cG
       by_cases hx:d m∈aJ d m
       ·rw[if_pos hx,if_pos (List.mem_map.2 ⟨d m,hx,rfl⟩)]
       ·rw[if_neg hx,if_neg]
        ·simp
        ·intro h2
         obtain ⟨y,h3,h4⟩:=List.mem_map.1 h2
         exact hx ((show y=d m by omega)▸h3)
     rw[key a.n (Nat.le_refl _),List.length_map]
    simp only[ec]
    have acy:=RZ tL
    have hle:=qa (iB a c a.L) a.n
    have bA:(aJ c a.n).length≠(aJ (iB a c a.L) a.n).length:=by
     intro e
     have bZ:=J7 tL (by omega)
     refine he fun q hq=> ?_
     have h1:=acf (f:=iB a c a.L) (c:=c) (fun s s' hs qY=>⟨tL s s' hs qY,bZ s s' hs qY⟩) q hq
     have own: ∀(d:Nat→Nat),ny d a.n→b6 d a.n q=d q:=fun d hd=>by
      have h2:d q∈aJ d a.n:=hG.2 ⟨q,hq,rfl⟩
      unfold b6
      rw[hd a.n (Nat.le_refl _)] at h2⊢
      have h3:=List.mem_range.1 h2
      have h4:=(List.nodup_range (n:=(aJ d a.n).length)).idxOf_getElem (d q) (by rw[List.length_range];exact h3)
      rwa [List.getElem_range] at h4
     rw[own _ iq,own _ ho] at h1
     exact h1
    omega
theorem adL: ∃p,CC H5 (dy a)=some [.list bf (cV a.n p)]∧a.tI p∧∀q,q<a.n→p q<a.n:=by
 have hm:=h.ei
 have hf0: ∀q,q<a.n→(if a.fin q=true then 1 else 0)≤1000000000:=fun q _=>by split<;>omega
 have hb: ∀q,q<a.n→b6 (fun q=>if a.fin q=true then 1 else 0) a.n q<a.n:=fun q hq=>by
  have h1:=zQ (g:=fun q=>if a.fin q=true then 1 else 0) hq
  have h2:=qa (fun q=>if a.fin q=true then 1 else 0) a.n
  omega
 obtain ⟨p,h1,h2,h3⟩:=adK h (c0:=b6 (fun q=>if a.fin q=true then 1 else 0) a.n)
  ⟨fun q q' hq bM he=>(zR hq bM).2 (by have:=he [] WL.nil;rw[Da.mq,Da.mq] at this;rw[this]),
   fun q q' hq bM he=>by
   have h1:=(zR hq bM).1 he
   revert h1
   cases a.fin q<;>cases a.fin q'<;>simp⟩ (J6 _ _) hb (k2:=(a.st:Int)) (l2:=a.cv)
 refine ⟨p,adF ?_,h2,h3⟩
 unfold SQ
 rw[Da.kA]
 refine bT (nw (by omega) (by omega)) ?_
 rw[Int.toNat_natCast,oF,eP]
 refine bs (fK a.n (fun i=>((i:Int),(tab a.n fun j=>if j<i then nV (if a.fin j=true then 1 else 0) else nV 0))) ((a.n:Int),false,cV a.n fun q=>if a.fin q=true then 1 else 0) (fun q hq=> ?_) ?_) ?_
 ·simp only[Kk,An,un]
  refine bT (eD hq) ?_
  refine bs (Da.tE hq) ?_
  rw[dm (by omega),V.pE]
  cases hf:a.fin q with
  | true=>
   refine bT rfl ?_
   refine (fJ hq).trans ?_
   rw[Int.toNat_natCast]
   exact congrArg (fun x=>some (Sum.inl (((q+1:Nat):Int),x))) (E6 (f:=fun j=>nV (if a.fin j=true then 1 else 0)) (by rw[hf];rfl))
  | false=>
   refine bF rfl ?_
   refine congrArg (fun x=>some (Sum.inl (((q+1:Nat):Int),x))) (eQ fun j _=> ?_)
   by_cases hj:j=q
   ·rw[if_neg (show¬j<q by omega),if_pos (show j<q+1 by omega),hj,hf];rfl
   ·by_cases bS:j<q
    ·rw[if_pos bS,if_pos (show j<q+1 by omega)]
    ·rw[if_neg bS,if_neg (show¬j<q+1 by omega)]
 ·simp only[Kk,An,un]
  refine bF (bN (Nat.le_refl _)) ?_
  rw[bN (Nat.le_refl _)]
  exact congrArg (fun x=>some (Sum.inr ((a.n:Int),false,x))) (Kl (f:=fun j=>nV (if a.fin j=true then 1 else 0)))
 ·simp only[un]
  refine bs (SS (by omega) hf0) ?_
  refine bs h1 ?_
  rfl
end
end Go.AM
set_option maxRecDepth 100000
namespace Go.AM
open Go.Proofs Go.Sort
section
variable {α:Type} {enc:α→V}
def oJ (enc:α→V) (d:Array α):List V:=d.toList.map enc
theorem fx (d:Array α):(oJ enc d).length=d.size:=by simp[oJ]
theorem fy (d:Array α) (i:Nat) (x:α):(oJ enc d).set i (enc x)=oJ enc (d.setIfInBounds i x):=by
 unfold oJ;rw[Array.toList_setIfInBounds,List.map_set]
variable [Inhabited α]
theorem fA {d:Array α} {i:Nat} (h:i<d.size):(oJ enc d)[i]? =some (enc d[i]!):=by
 unfold oJ;rw[List.getElem?_map,Array.getElem?_toList,Array.getElem?_eq_getElem h,getElem!_pos d i h];rfl
theorem gL {d:Array α} {i j:Nat} {x:α} (h:i<d.size):(oJ enc (d.setIfInBounds j x))[i]? =some (enc (d.setIfInBounds j x)[i]!):=fA (by rw[Array.size_setIfInBounds];exact h)
theorem fB (a b:Nat):(a:Int)+(b:Int)=((a+b:Nat):Int):=(Int.natCast_add a b).symm
theorem dp (a:Nat):(a:Int)+1=((a+1:Nat):Int):=rfl
theorem tN (a:Nat):((a+1:Nat):Int)-1=(a:Int):=by omega
theorem Au (a:Nat):(a:Int)*2=((a*2:Nat):Int):=by omega
theorem lE {a b:Nat} (h:b≤a):(a:Int)-(b:Int)=((a-b:Nat):Int):=by omega
theorem jB {a:Nat} (h:1≤a):(a:Int)-1=((a-1:Nat):Int):=by omega
theorem divC (a b:Nat):Int.tdiv (a:Int) (b:Int)=((a/b:Nat):Int):=by rw[Int.tdiv_eq_ediv_of_nonneg (by omega)];rfl
theorem my {p:Prop} [Decidable p] (h:p):decide p=true:=decide_eq_true h
theorem rC {p:Prop} [Decidable p] (h: ¬p):decide p=false:=decide_eq_false h
variable {lt:α→α→Bool}
theorem SX (a j:Nat) (d:Array α):insInner lt a (j+1) d=if j+1>a&&lt d[j+1]! d[j]! then insInner lt a j (swp d (j+1) j) else d:=rfl
theorem Km {a:Nat}: ∀(j:Nat) (d:Array α),(insInner lt a j d).size=d.size
 | 0,d=>rfl
 | j+1,d=>by
  rw[SX]
  split
  ·rw[Km j,size_swp]
  ·rfl
theorem Av (hi first:Nat): ∀(n root:Nat) (d:Array α),hi-root≤n→(siftDown lt hi first root d).size=d.size:=by
 intro n
 induction n with
 | zero=>intro root d h;rw[siftDown,dif_pos (by omega)]
 | succ n ih=>
  intro root d h
  rw[siftDown]
  split
  ·rfl
  ·split
   ·split
    ·rfl
    ·split
     ·rw[ih _ _ (by omega),size_swp]
     ·rfl
   ·split
    ·rfl
    ·rw[ih _ _ (by omega),size_swp]
theorem Kn (hi first:Nat): ∀(k:Nat) (d:Array α),(heapBuild lt hi first k d).size=d.size
 | 0,d=>rfl
 | k+1,d=>by rw[heapBuild,Kn,Av _ _ _ _ _ (Nat.le_refl _)]
end
end Go.AM
set_option maxRecDepth 100000
set_option maxHeartbeats 1000000
namespace Go.AM
open Go.Proofs
theorem Ed.lt_irrefl (a:Ed): ¬a.lt a:=by unfold Ed.lt;omega
theorem Ed.lt_trans {a b c:Ed}:a.lt b→b.lt c→a.lt c:=by unfold Ed.lt;omega
theorem Ed.lt_asymm {a b:Ed}:a.lt b→¬b.lt a:=by unfold Ed.lt;omega
theorem Ed.SY {a b:Ed} (h1: ¬a.lt b) (h2: ¬b.lt a):a=b:=by
 cases a;cases b
 simp only[Ed.lt,Ed.mk.injEq] at*
 omega
abbrev mz (E:List Ed):Prop:=E.Pairwise Ed.lt
def Ed.key (e:Ed):Nat:=(e.f.toNat*6+e.l.toNat)*64+e.t.toNat
theorem Ed.adM {a b:Ed} {L S:Int} (hL:L≤6) (hS:S≤64) (ha:a.In L S) (hb:b.In L S) (h:a.lt b):a.key<b.key:=by
 unfold Ed.In at ha hb
 unfold Ed.lt at h
 unfold Ed.key
 omega
theorem adN {L S:Int} (hL:L≤6) (hS:S≤64): ∀(E:List Ed),mz E→(∀e∈E,e.In L S)→∀i (hi:i<E.length),i≤E[i].key:=by
 intro E h hE i
 induction i with
 | zero=>intro hi;omega
 | succ i ih=>
  intro hi
  have h1:=ih (by omega)
  have h2:=(List.pairwise_iff_getElem.1 h) i (i+1) (by omega) hi (by omega)
  have:=Ed.adM hL hS (hE _ (List.getElem_mem _)) (hE _ (List.getElem_mem _)) h2
  omega
theorem adO {L S:Int} (hL:L≤6) (hS:S≤64) {E:List Ed} (h:mz E) (hE: ∀e∈E,e.In L S):E.length≤24576:=by
 by_cases h0:E.length=0
 ·omega
 ·have h1:=adN hL hS E h hE (E.length-1) (by omega)
  have h2:=hE E[E.length-1] (List.getElem_mem _)
  unfold Ed.In at h2
  unfold Ed.key at h1
  omega
theorem SZ: ∀{A B:List Ed},mz A→mz B→(∀x,x∈A↔x∈B)→A=B
 | [],[],_,_,_=>rfl
 | [],b::B,_,_,h=>by have:=(h b).2 (by simp);cases this
 | a::A,[],_,_,h=>by have:=(h a).1 (by simp);cases this
 | a::A,b::B,hA,hB,h=>by
  have a1:=List.pairwise_cons.1 hA
  have b1:=List.pairwise_cons.1 hB
  have fo:a=b:=by
   have ha:=(h a).1 (by simp)
   have hb:=(h b).2 (by simp)
   rcases List.mem_cons.1 ha with e|e
   ·exact e
   ·rcases List.mem_cons.1 hb with e'|e'
    ·exact e'.symm
    ·exact absurd (a1.1 b e') (Ed.lt_asymm (b1.1 a e))
  subst fo
  rw[SZ a1.2 b1.2 fun x=> ?_]
  constructor
  ·intro hx
   rcases List.mem_cons.1 ((h x).1 (by simp[hx])) with e|e
   ·subst e;exact absurd (a1.1 x hx) (Ed.lt_irrefl x)
   ·exact e
  ·intro hx
   rcases List.mem_cons.1 ((h x).2 (by simp[hx])) with e|e
   ·subst e;exact absurd (b1.1 x hx) (Ed.lt_irrefl x)
   ·exact e
def iX (out:List Ed) (e:Ed):Nat→Nat
 | 0=>0
 | k+1=>if e.lt (out.getD k default) then iX out e k else k+1
def rD (out:List Ed) (e:Ed):List Ed:=
 if iX out e out.length=0∨¬out.getD (iX out e out.length-1) default=e then out.take (iX out e out.length)++[e]++out.drop (iX out e out.length) else out
def qf (l:List Ed):List Ed:=l.foldl rD []
theorem Ko (out:List Ed) (e:Ed): ∀k,iX out e k≤k
 | 0=>Nat.le_refl _
 | k+1=>by unfold iX;split;exact Nat.le_succ_of_le (Ko out e k);exact Nat.le_refl _
theorem S3 (out:List Ed) (e:Ed): ∀k i,iX out e k≤i→i<k→e.lt (out.getD i default)
 | 0,i,_,h=>by omega
 | k+1,i,h1,h2=>by
  unfold iX at h1
  split at h1
  ·rename_i h3
   by_cases hi:i=k
   ·subst hi;exact h3
   ·exact S3 out e k i h1 (by omega)
  ·omega
theorem S4 (out:List Ed) (e:Ed): ∀k,iX out e k≠0→¬e.lt (out.getD (iX out e k-1) default)
 | 0,h=>by simp[iX] at h
 | k+1,h=>by
  unfold iX at h⊢
  split
  ·rename_i h3
   rw[if_pos h3] at h
   exact S4 out e k h
  ·rename_i h3
   simpa using h3
theorem adP {out:List Ed} {e x:Ed} (hk:iX out e out.length≤out.length):x∈rD out e↔x=e∨x∈out:=by
 unfold rD
 split
 ·rename_i h
  have:=List.take_append_drop (iX out e out.length) out
  constructor
  ·intro hx
   simp only[List.append_assoc,List.mem_append,List.mem_singleton] at hx
   rcases hx with hx|hx|hx
   ·exact .inr (List.mem_of_mem_take hx)
   ·exact .inl hx
   ·exact .inr (List.mem_of_mem_drop hx)
  ·rintro (rfl|hx)
   ·simp
   ·rw[←this] at hx
    simp only[List.mem_append] at hx
    simp only[List.append_assoc,List.mem_append,List.mem_singleton]
    rcases hx with hx|hx
    ·exact .inl hx
    ·exact .inr (.inr hx)
 ·rename_i h
  simp only[not_or,Classical.not_not] at h
  constructor
  ·exact .inr
  ·rintro (rfl|hx)
   ·have h1:=h.2
    have h2:iX out x out.length-1<out.length:=by omega
    rw[←h1]
    simp[h2]
   ·exact hx
theorem adQ {out:List Ed} {e:Ed} (h:mz out):mz (rD out e):=by
 have hk:=Ko out e out.length
 have up:=S3 out e out.length
 have dn:=S4 out e out.length
 unfold rD
 generalize hq:iX out e out.length=k at*
 split
 ·rename_i hc
  have g:=List.pairwise_iff_getElem.1 h
  have gW: ∀x∈out.take k,x.lt e:=by
   intro x hx
   obtain ⟨i,hi,rfl⟩:=List.getElem_of_mem hx
   have dv:i<k:=by rw[List.length_take] at hi;omega
   have pn:i<out.length:=by omega
   rw[List.getElem_take]
   have S5:k≠0:=by omega
   have h1:=dn S5
   have h2: ¬out.getD (k-1) default=e:=by
    rcases hc with hc|hc
    ·exact absurd hc S5
    ·exact hc
   have ki:k-1<out.length:=by omega
   have e1:out.getD (k-1) default=out[k-1]:=by simp[ki]
   rw[e1] at h1 h2
   have h3:out[k-1].lt e:=by
    by_cases h4:out[k-1].lt e
    ·exact h4
    ·exact absurd (Ed.SY h4 h1) h2
   by_cases hik:i=k-1
   ·subst hik;exact h3
   ·exact Ed.lt_trans (g i (k-1) pn ki (by omega)) h3
  have gh: ∀y∈out.drop k,e.lt y:=by
   intro y hy
   obtain ⟨i,hi,rfl⟩:=List.getElem_of_mem hy
   rw[List.length_drop] at hi
   rw[List.getElem_drop]
   have:=up (k+i) (by omega) (by omega)
   have e1:out.getD (k+i) default=out[k+i]:=by simp[show k+i<out.length by omega]
   rwa [e1] at this
  rw[mz,List.append_assoc,List.pairwise_append]
  refine ⟨h.sublist (List.take_sublist _ _),?_,?_⟩
  ·rw[List.singleton_append,List.pairwise_cons]
   exact ⟨gh,h.sublist (List.drop_sublist _ _)⟩
  ·intro x hx y hy
   rw[List.singleton_append,List.mem_cons] at hy
   rcases hy with rfl|hy
   ·exact gW x hx
   ·exact Ed.lt_trans (gW x hx) (gh y hy)
 ·exact h
theorem Kp: ∀(l out:List Ed),mz out→mz (l.foldl rD out)∧∀x,x∈l.foldl rD out↔x∈l∨x∈out
 | [],out,h=>⟨h,by simp⟩
 | e::l,out,h=>by
  obtain ⟨h1,h2⟩:=Kp l (rD out e) (adQ h)
  refine ⟨h1,fun x=> ?_⟩
  rw[List.foldl_cons,h2,adP (Ko _ _ _)]
  simp only[List.mem_cons]
  constructor
  ·rintro (h|h|h)
   ·exact .inl (.inr h)
   ·exact .inl (.inl h)
   ·exact .inr h
  ·rintro ((h|h)|h)
   ·exact .inr (.inl h)
   ·exact .inl h
   ·exact .inr (.inr h)
theorem Kq (l:List Ed):mz (qf l):=(Kp l [] List.Pairwise.nil).1
theorem wi {l:List Ed} {x:Ed}:x∈qf l↔x∈l:=by
 have:=(Kp l [] List.Pairwise.nil).2 x
 simpa[qf] using this
theorem E7 (a b:Ed):((a.f==b.f)&&((a.l==b.l)&&((a.t==b.t)&&true)))=decide (a=b):=by
 cases a;cases b
 rw[Bool.eq_iff_iff]
 simp
end Go.AM
set_option maxRecDepth 100000
namespace Go.AM
open Go.Proofs
noncomputable abbrev E8:Code:=cB Tryd.prog (av.aR 91)
noncomputable def wj (C:ae) (Aw tO:Nat) (k' jC:Int) (ss:List V) {β:Type} (kn:(Int × Int × (List V))→Option β) (kr:(Int × Int × Bool × (List V))→Option β):Option β:=
 bif decide ((jC:Int)<(tO:Int)) then
  bif (decide (0≤jC))&&(decide (jC<(tO:Int))) then
  (ss[Aw+((jC:Int).toNat)]?).bind fun x3=>
  bif (decide (0≤(IntKind.wrap .i64 (jC-1))))&&(decide ((IntKind.wrap .i64 (jC-1))<(tO:Int))) then
   (ss[Aw+((IntKind.wrap .i64 (jC-1):Int).toNat)]?).bind fun x4=>
   bif !(((((x3.cell 0).toInt):Int)==((x4.cell 0).toInt))&&(((((x3.cell 1).toInt):Int)==((x4.cell 1).toInt))&&(((((x3.cell 2).toInt):Int)==((x4.cell 2).toInt))&&true))) then
   bif (decide (0≤jC))&&(decide (jC<(tO:Int))) then
    (ss[Aw+((jC:Int).toNat)]?).bind fun x5=>
    bif (decide (0≤k'))&&(decide (k'<(ss.length:Int))) then
    (ss[(k':Int).toNat]?).bind fun x6=>
    kn (IntKind.wrap .i64 (k'+1),IntKind.wrap .i64 (jC+1),ss.set ((k':Int).toNat) (.agg [.int .i64 ((x5.cell 0).toInt),.int .i64 ((x5.cell 1).toInt),.int .i64 ((x5.cell 2).toInt)]))
    else none
   else none
   else
   kn (k',IntKind.wrap .i64 (jC+1),ss)
  else none
  else none
 else
  kr (k',jC,decide ((jC:Int)<(tO:Int)),ss)
noncomputable def tP (C:ae) (Aw tO:Nat):(Int × Int × (List V))→Option ((Int × Int × (List V)) ⊕ (Int × Int × Bool × (List V))):=un fun k'=>un fun jC ss=>wj C Aw tO k' jC ss (fun y=>some (.inl y)) (fun r=>some (.inr r))
noncomputable def wk (C:ae) (ss:List V) (k':Int) {β:Type} (kn:Int→Option β) (kr:((List V) ⊕ (Int × Bool))→Option β):Option β:=
 bif decide ((k':Int)<(ss.length:Int)) then
  bif (decide (0≤k'))&&(decide (k'<(ss.length:Int))) then
  (ss[(k':Int).toNat]?).bind fun x1=>
  bif (decide (0≤(IntKind.wrap .i64 (k'-1))))&&(decide ((IntKind.wrap .i64 (k'-1))<(ss.length:Int))) then
   (ss[(IntKind.wrap .i64 (k'-1):Int).toNat]?).bind fun x2=>
   bif ((((x1.cell 0).toInt):Int)==((x2.cell 0).toInt))&&(((((x1.cell 1).toInt):Int)==((x2.cell 1).toInt))&&(((((x1.cell 2).toInt):Int)==((x2.cell 2).toInt))&&true)) then
   bif (decide (0≤k'))&&(decide (k'≤(ss.length:Int))) then
    (Loop (tP C ((k':Int).toNat) (ss.length-((k':Int).toNat))) (k',1,ss)).bind (un fun (lF:Int)=>un fun (k_8:Int)=>un fun (tD:Bool) (qg:List V)=>
     bif (decide (0≤lF))&&(decide (lF≤(qg.length:Int))) then
     bif (decide (0≤lF))&&(decide (lF≤((qg.take ((lF:Int).toNat)++(List.replicate (qg.length-((lF:Int).toNat)) (V.agg [.int .i64 0,.int .i64 0,.int .i64 0])++qg.drop (((lF:Int).toNat)+(qg.length-((lF:Int).toNat))))).length:Int))) then
      kr (.inl ((qg.take ((lF:Int).toNat)++(List.replicate (qg.length-((lF:Int).toNat)) (V.agg [.int .i64 0,.int .i64 0,.int .i64 0])++qg.drop (((lF:Int).toNat)+(qg.length-((lF:Int).toNat))))).take ((lF:Int).toNat)))
     else none
     else none)
   else none
   else
   kn (IntKind.wrap .i64 (k'+1))
  else none
  else none
 else
  kr (.inr (k',decide ((k':Int)<(ss.length:Int))))
noncomputable def tQ (C:ae) (ss:List V):(Int)→Option ((Int) ⊕ ((List V) ⊕ (Int × Bool))):=fun k'=>wk C ss k' (fun y=>some (.inl y)) (fun r=>some (.inr r))
noncomputable def S6 (C:ae):ct:=fun β n ds k=>
 bif Nat.beq n 145 then bB IP [true,false,false,true,true] [[0,2,3,0,0,0]] (@wj C) ds k else
 bif Nat.beq n 65 then bB IQ [true,false] [[0],[0,0,2]] (@wk C) ds k else
 none
abbrev S7 (C:ae) (b:cm):Prop:=cp Tryd.prog av C (S6 C) 91 (cI Tryd.prog (av.aR 91)) (av.sin 91).aP.length b
theorem adR (C:ae):S7 C (.loop (ao [1,1,0,1,0,0,1,0,0,1,0,1,0,1,0,0] E8)):=
 bE IP [true,false,false,true,true] [[0,2,3,0,0,0]] (@wj C) (by kernel_rfl) (aY (bs:=[]) (by kernel_rfl) aw) (fun ds=>by kernel_rfl) (fun i x=>by kernel_rfl) (fun i x β k=>by kernel_rfl) (fun β ds k=>by kernel_rfl)
theorem adS (C:ae):S7 C (.loop (ao [1,1,0,1,0,0] E8)):=
 bE IQ [true,false] [[0],[0,0,2]] (@wk C) (by kernel_rfl) (aY (bs:=[.loop (ao [1,1,0,1,0,0,1,0,0,1,0,1,0,1,0,0] E8)]) (by kernel_rfl) (bn (adR C) aw)) (fun ds=>by kernel_rfl) (fun i x=>by kernel_rfl) (fun i x β k=>by kernel_rfl) (fun β ds k=>by kernel_rfl)
noncomputable def E9 (C:ae) (ss:List V):Option (List V):=
 bif decide (((ss.length:Int):Int)<2) then
  some [V.bool true,.list an ss]
 else
  (Loop (tQ C ss) 1).bind (c8 (fun (adT:List V)=>
   some [V.bool false,.list an adT]) (un fun (ag7:Int) (rr:Bool)=>
   some [V.bool true,.list an ss]))
theorem Kr {ss:List V} {r:Option (List V)} (h:E9 CC ss=r):CC Dt [.list an ss]=r:=
 bp (key:=91) (L:=S6 CC) (bs:=[.loop (ao [1,1,0,1,0,0] E8)]) (by kernel_rfl) (bn (adS CC) aw) (Eq.trans (by kernel_rfl) h)
def mA (prev:Ed):List Ed→List Ed
 | []=>[]
 | x::l=>if x=prev then mA x l else x::mA x l
def gM:List Ed→List Ed
 | []=>[]
 | x::l=>x::mA x l
theorem Ks {l:List Ed} {j:Nat} (h:j<l.length):l.take (j+1)=l.take j++[l.getD j default]:=by
 rw[List.take_succ_eq_append_getElem h];simp[h]
theorem S8 {l ss:List Ed} {j:Nat} (hl:ss.length=l.length) (h:ss.drop j=l.drop j) (hj:j<l.length):ss.getD j default=l.getD j default:=by
 have h1:=congrArg (fun x:List Ed=>x.getD 0 default) h
 simpa[hj,hl] using h1
theorem Ax {l:List Ed} {i:Nat} (h:i<l.length):(l.map Ed.enc)[i]? =some (l.getD i default).enc:=by simp[h]
theorem adU (ss:List Ed) (m:Nat) (z:V) (hm:m≤ss.length):((((ss.map Ed.enc).take m++(List.replicate ((ss.map Ed.enc).length-m) z++(ss.map Ed.enc).drop (m+((ss.map Ed.enc).length-m)))).take m)=(ss.take m).map Ed.enc):=by
 rw[List.take_append_of_le_length (by simp;omega),List.take_of_length_le (by simp;omega),List.map_take]
theorem S9: ∀(m:List Ed) (prev x:Ed),mA prev (m++[x])=mA prev m++(if x=(prev::m).getD m.length default then [] else [x])
 | [],prev,x=>by simp only[List.nil_append,mA,List.length_nil,List.getD_cons_zero]
 | y::m,prev,x=>by
  have ih:=S9 m y x
  simp only[List.cons_append,mA,List.length_cons,List.getD_cons_succ]
  split
  ·exact ih
  ·rw[ih];rfl
theorem Ta {l:List Ed} {p:Nat} (h1:1≤p) (h2:p<l.length):gM (l.take (p+1))=gM (l.take p)++(if l.getD p default=l.getD (p-1) default then [] else [l.getD p default]):=by
 match l,p,h1,h2 with
 | y::l,p+1,_,h2=>
  simp only[List.length_cons] at h2
  rw[List.take_succ_cons,List.take_succ_cons,gM,gM,Ks (by omega),S9]
  simp only[List.getD_cons_succ,List.length_take,Nat.add_sub_cancel]
  rw[show min p l.length=p by omega]
  have:(y::l.take p).getD p default=(y::l).getD p default:=by
   match p with
   | 0=>rfl
   | q+1=>simp only[List.getD_cons_succ];rw[List.getD_eq_getElem?_getD,List.getD_eq_getElem?_getD,List.getElem?_take_of_lt (by omega)]
  rw[this];rfl
theorem Tb: ∀(m:List Ed) (prev:Ed),(prev::m).Pairwise (fun x y=> ¬y.lt x)→mz (prev::mA prev m)∧∀x,x∈prev::mA prev m↔x∈prev::m
 | [],prev,_=>⟨by simp[mA],by simp[mA]⟩
 | y::m,prev,h=>by
  have h1:=List.pairwise_cons.1 h
  obtain ⟨i1,i2⟩:=Tb m y h1.2
  rw[mA]
  by_cases hc:y=prev
  ·rw[if_pos hc]
   subst hc
   refine ⟨i1,fun x=> ?_⟩
   rw[i2 x];simp
  ·rw[if_neg hc]
   have aK:prev.lt y:=by
    by_cases h2:prev.lt y
    ·exact h2
    ·exact absurd (Ed.SY h2 (h1.1 y (by simp))) fun e=>hc e.symm
   refine ⟨List.pairwise_cons.2 ⟨fun x hx=> ?_,i1⟩,fun x=> ?_⟩
   ·rcases List.mem_cons.1 hx with rfl|hx
    ·exact aK
    ·exact Ed.lt_trans aK ((List.pairwise_cons.1 i1).1 x hx)
   ·rw[List.mem_cons,i2 x,←List.mem_cons]
theorem adV {l:List Ed} (h:l.Pairwise (fun x y=> ¬y.lt x)):mz (gM l)∧∀x,x∈gM l↔x∈l:=by
 match l,h with
 | [],_=>exact ⟨List.Pairwise.nil,fun _=>Iff.rfl⟩
 | y::l,h=>exact Tb l y h
section
variable {l:List Ed} (hn:l.length≤1000000)
include hn
theorem adW {k:Nat}: ∀(d k2 i:Nat) (ss:List Ed),k+k2+d=l.length→1≤k2→i+1≤k+k2→ss.length=l.length→ss.take i=gM (l.take (k+k2))→ss.drop (k+k2-1)=l.drop (k+k2-1)→
  ∃t u wm,Loop (tP CC k (l.length-k)) ((i:Int),(k2:Int),ss.map Ed.enc)=some (((gM l).length:Int),u,t,List.map Ed.enc wm)∧wm.take (gM l).length=gM l∧wm.length=l.length:=by
 intro d
 induction d with
 | zero=>
  intro k2 i ss hj rf hi hl ht hd
  have e0:l.take (k+k2)=l:=List.take_of_length_le (by omega)
  rw[e0] at ht
  have ma:i=(gM l).length:=by rw[←ht,List.length_take];omega
  refine ⟨false,(k2:Int),ss,bO ?_,by rw[←ma];exact ht,hl⟩
  simp only[tP,wj,un,List.length_map,aE]
  rw[if_neg (by omega),decide_eq_false (by omega),ma]
 | succ d ih=>
  intro k2 i ss hj rf hi hl ht hd
  have hp:k+k2<l.length:=by omega
  have lV:ss.drop (k+k2)=l.drop (k+k2):=by
   have h:=congrArg (List.drop 1) hd
   rw[List.drop_drop,List.drop_drop] at h
   rwa [show k+k2-1+1=k+k2 by omega] at h
  have g1:=S8 hl lV hp
  have g0:=S8 hl hd (show k+k2-1<l.length by omega)
  have x1:(ss.map Ed.enc)[k+k2]? =some (l.getD (k+k2) default).enc:=by rw[Ax (by omega),g1]
  have x0:(ss.map Ed.enc)[k+(k2-1)]? =some (l.getD (k+k2-1) default).enc:=by rw[show k+(k2-1)=k+k2-1 by omega,Ax (by omega),g0]
  have w1:IntKind.wrap .i64 ((k2:Int)-1)=((k2-1:Nat):Int):=by rw[wrap64 (by omega) (by omega)];omega
  have t1:((k2:Nat):Int)<((l.length-k:Nat):Int):=by omega
  have t2:(0:Int)≤((k2:Nat):Int):=by omega
  have t3:(0:Int)≤((k2-1:Nat):Int):=by omega
  have t4:((k2-1:Nat):Int)<((l.length-k:Nat):Int):=by omega
  have t5:((i:Nat):Int)<(ss.length:Int):=by omega
  have t6:(0:Int)≤((i:Nat):Int):=by omega
  have xV: ∃y,(ss.map Ed.enc)[i]? =some y:=⟨_,Ax (by omega)⟩
  obtain ⟨y,hy⟩:=xV
  have cs:=Ta (l:=l) (p:=k+k2) (by omega) hp
  by_cases he:l.getD (k+k2) default=l.getD (k+k2-1) default
  ·have bZ:tP CC k (l.length-k) ((i:Int),(k2:Int),ss.map Ed.enc)=some (.inl ((i:Int),((k2+1:Nat):Int),ss.map Ed.enc)):=by
    simp only[tP,wj,un]
    refine bT (decide_eq_true t1) ?_
    refine bT (Bool.and_eq_true_iff.2 ⟨decide_eq_true t2,decide_eq_true t1⟩) ?_
    rw[Int.toNat_natCast]
    refine bs x1 ?_
    rw[w1]
    refine bT (Bool.and_eq_true_iff.2 ⟨decide_eq_true t3,decide_eq_true t4⟩) ?_
    rw[Int.toNat_natCast]
    refine bs x0 ?_
    simp only[Ed.cX,Ed.cY,Ed.cZ,E7]
    rw[decide_eq_true he]
    refine bF rfl ?_
    rw[wrap64 (by omega) (by omega)]
    rfl
   rw[dA bZ]
   refine ih (k2+1) i ss (by omega) (by omega) (by omega) hl ?_ (by rw[show k+(k2+1)-1=k+k2 by omega];exact lV)
   rw[show k+(k2+1)=k+k2+1 by omega,cs,if_pos he,List.append_nil,ht]
  ·have bZ:tP CC k (l.length-k) ((i:Int),(k2:Int),ss.map Ed.enc)=some (.inl (((i+1:Nat):Int),((k2+1:Nat):Int),(ss.set i (l.getD (k+k2) default)).map Ed.enc)):=by
    simp only[tP,wj,un]
    refine bT (decide_eq_true t1) ?_
    refine bT (Bool.and_eq_true_iff.2 ⟨decide_eq_true t2,decide_eq_true t1⟩) ?_
    rw[Int.toNat_natCast]
    refine bs x1 ?_
    rw[w1]
    refine bT (Bool.and_eq_true_iff.2 ⟨decide_eq_true t3,decide_eq_true t4⟩) ?_
    rw[Int.toNat_natCast]
    refine bs x0 ?_
    simp only[Ed.cX,Ed.cY,Ed.cZ,E7]
    rw[decide_eq_false he]
    refine bT rfl ?_
    refine bT (Bool.and_eq_true_iff.2 ⟨decide_eq_true t2,decide_eq_true t1⟩) ?_
    refine bs x1 ?_
    refine bT (by rw[List.length_map];exact Bool.and_eq_true_iff.2 ⟨decide_eq_true t6,decide_eq_true t5⟩) ?_
    rw[Int.toNat_natCast]
    refine bs hy ?_
    simp only[Ed.cX,Ed.cY,Ed.cZ,Ed.re]
    rw[wrap64 (by omega) (by omega),wrap64 (by omega) (by omega),List.map_set]
    rfl
   rw[dA bZ]
   refine ih (k2+1) (i+1) (ss.set i (l.getD (k+k2) default)) (by omega) (by omega) (by omega) (by simpa using hl) ?_ ?_
   ·rw[Ks (by rw[List.length_set];omega),List.take_set_of_le (Nat.le_refl i),ht,show k+(k2+1)=k+k2+1 by omega,cs,if_neg he]
    simp[show i<ss.length by omega]
   ·rw[show k+(k2+1)-1=k+k2 by omega,List.drop_set_of_lt (by omega),lV]
theorem adX: ∀(d p:Nat),p+d=l.length→1≤p→gM (l.take p)=l.take p→
  (gM l=l∧∃t,Loop (tQ CC (l.map Ed.enc)) (p:Int)=some (.inr t))∨Loop (tQ CC (l.map Ed.enc)) (p:Int)=some (.inl ((gM l).map Ed.enc)):=by
 intro d
 induction d with
 | zero=>
  intro p hp h1 hc
  obtain rfl:p=l.length:=by omega
  rw[List.take_length] at hc
  refine .inl ⟨hc,((l.length:Int),false),bO ?_⟩
  simp only[tQ,wk,List.length_map,aE]
  rw[if_neg (by omega),decide_eq_false (by omega)]
 | succ d ih=>
  intro p hp h1 hc
  have e8:p<l.length:=by omega
  have cs:=Ta (l:=l) h1 e8
  have x1:(l.map Ed.enc)[p]? =some (l.getD p default).enc:=Ax e8
  have x0:(l.map Ed.enc)[p-1]? =some (l.getD (p-1) default).enc:=Ax (by omega)
  have w1:IntKind.wrap .i64 ((p:Int)-1)=((p-1:Nat):Int):=by rw[wrap64 (by omega) (by omega)];omega
  have t1:((p:Nat):Int)<(l.length:Int):=by omega
  have t2:(0:Int)≤((p:Nat):Int):=by omega
  have t3:(0:Int)≤((p-1:Nat):Int):=by omega
  have t4:((p-1:Nat):Int)<(l.length:Int):=by omega
  have t5:((p:Nat):Int)≤(l.length:Int):=by omega
  by_cases he:l.getD p default=l.getD (p-1) default
  ·refine .inr (bO ?_)
   obtain ⟨t,u,wm,e1,e2,e3⟩:=adW hn (k:=p) (l.length-(p+1)) 1 p l (by omega) (by omega) (by omega) rfl (by rw[cs,if_pos he,List.append_nil,hc]) rfl
   have hm:(gM l).length≤wm.length:=by
    have:=congrArg List.length e2
    rw[List.length_take] at this
    omega
   have m1:(0:Int)≤(((gM l).length:Nat):Int):=by omega
   have m2:(((gM l).length:Nat):Int)≤((wm.map Ed.enc).length:Int):=by rw[List.length_map];omega
   simp only[tQ,wk,List.length_map]
   refine bT (decide_eq_true t1) ?_
   refine bT (Bool.and_eq_true_iff.2 ⟨decide_eq_true t2,decide_eq_true t1⟩) ?_
   rw[Int.toNat_natCast]
   refine bs x1 ?_
   rw[w1]
   refine bT (Bool.and_eq_true_iff.2 ⟨decide_eq_true t3,decide_eq_true t4⟩) ?_
   rw[Int.toNat_natCast]
   refine bs x0 ?_
   simp only[Ed.cX,Ed.cY,Ed.cZ,E7]
   rw[decide_eq_true he]
   refine bT rfl ?_
   refine bT (Bool.and_eq_true_iff.2 ⟨decide_eq_true t2,decide_eq_true t5⟩) ?_
   refine (congrArg (fun o=>Option.bind o _) e1).trans ?_
   simp only[Option.bind_some,un,dx,aE,Int.toNat_natCast]
   rw[if_pos m1,if_pos m2,if_pos m1,if_pos (by simp only[List.length_append,List.length_take,List.length_replicate,List.length_drop,List.length_map];omega),adU _ _ _ hm,e2]
  ·have bZ:tQ CC (l.map Ed.enc) (p:Int)=some (.inl ((p+1:Nat):Int)):=by
    simp only[tQ,wk,List.length_map]
    refine bT (decide_eq_true t1) ?_
    refine bT (Bool.and_eq_true_iff.2 ⟨decide_eq_true t2,decide_eq_true t1⟩) ?_
    rw[Int.toNat_natCast]
    refine bs x1 ?_
    rw[w1]
    refine bT (Bool.and_eq_true_iff.2 ⟨decide_eq_true t3,decide_eq_true t4⟩) ?_
    rw[Int.toNat_natCast]
    refine bs x0 ?_
    simp only[Ed.cX,Ed.cY,Ed.cZ,E7]
    rw[decide_eq_false he]
    refine bF rfl ?_
    rw[wrap64 (by omega) (by omega)]
    rfl
   rw[dA bZ]
   exact ih (p+1) (by omega) (by omega) (by rw[cs,if_neg he,hc,←Ks e8])
theorem Tc: ∃b,CC Dt [.list an (l.map Ed.enc)]=some [.bool b,.list an ((gM l).map Ed.enc)]:=by
 by_cases h2:l.length<2
 ·refine ⟨true,Kr ?_⟩
  unfold E9
  rw[List.length_map,aE,if_pos (by omega)]
  match l,h2 with
  | [],_=>rfl
  | [k],_=>rfl
 ·rcases adX hn (l.length-1) 1 (by omega) (by omega) (by
   match l,h2 with
   | k::l,_=>rfl) with ⟨h3,t,h4⟩|h4
  ·refine ⟨true,Kr ?_⟩
   unfold E9
   rw[List.length_map,aE,if_neg (by omega)]
   refine (congrArg (fun o=>Option.bind o _) h4).trans ?_
   rw[h3];rfl
  ·refine ⟨false,Kr ?_⟩
   unfold E9
   rw[List.length_map,aE,if_neg (by omega)]
   refine (congrArg (fun o=>Option.bind o _) h4).trans ?_
   rfl
end
noncomputable def Td (C:ae) (pT pU pV pW pX pY:Int):Option (List V):=
 (C pL [.int .i64 pT,.int .i64 pW]).bind fun r1=>
 (C pL [.int .i64 pU,.int .i64 pX]).bind fun r2=>
 (C pL [.int .i64 pV,.int .i64 pY]).bind fun r3=>
 (C yH [.list bf ([.int .i64 ((V.nth r1 0).toInt),.int .i64 ((V.nth r2 0).toInt),.int .i64 ((V.nth r3 0).toInt)]:List V)]).bind fun r4=>
 some [.int .i64 ((V.nth r4 0).toInt)]
theorem adY {pT pU pV pW pX pY:Int} {r:Option (List V)} (h:Td CC pT pU pV pW pX pY=r):CC aZ [.int .i64 pT,.int .i64 pU,.int .i64 pV,.int .i64 pW,.int .i64 pX,.int .i64 pY]=r:=
 bp (key:=88) (L:=cR) (bs:=[]) (by kernel_rfl) aw (Eq.trans (by kernel_rfl) h)
theorem fV (a b:Ed):CC aZ [.int .i64 a.f,.int .i64 a.l,.int .i64 a.t,.int .i64 b.f,.int .i64 b.l,.int .i64 b.t]=some [.int .i64 (bD a b)]:=by
 refine adY ?_
 unfold Td
 refine bs (vI _ _) ?_
 refine bs (vI _ _) ?_
 refine bs (vI _ _) ?_
 refine bs (Qt _ _ _) ?_
 rfl
noncomputable abbrev Fa:Code:=cB Tryd.prog (av.aR 170)
noncomputable def wo (C:ae) (a b' i j:Int) (af:List V) {β:Type} (kn:(Int × (List V))→Option β) (kr:(Int × Bool × (List V))→Option β):Option β:=
 bif decide ((j:Int)>a) then
  bif (decide (0≤j))&&(decide (j<(af.length:Int))) then
  (af[(j:Int).toNat]?).bind fun x1=>
  bif (decide (0≤(IntKind.wrap .i64 (j-1))))&&(decide ((IntKind.wrap .i64 (j-1))<(af.length:Int))) then
   (af[(IntKind.wrap .i64 (j-1):Int).toNat]?).bind fun x2=>
   (C aZ [.int .i64 ((x1.cell 0).toInt),.int .i64 ((x1.cell 1).toInt),.int .i64 ((x1.cell 2).toInt),.int .i64 ((x2.cell 0).toInt),.int .i64 ((x2.cell 1).toInt),.int .i64 ((x2.cell 2).toInt)]).bind fun r3=>
   bif decide ((((V.nth r3 0).toInt):Int)<0) then
   bif (decide (0≤(IntKind.wrap .i64 (j-1))))&&(decide ((IntKind.wrap .i64 (j-1))<(af.length:Int))) then
    (af[(IntKind.wrap .i64 (j-1):Int).toNat]?).bind fun x4=>
    bif (decide (0≤j))&&(decide (j<(af.length:Int))) then
    (af[(j:Int).toNat]?).bind fun x5=>
    bif (decide (0≤j))&&(decide (j<(af.length:Int))) then
     (af[(j:Int).toNat]?).bind fun x6=>
     bif (decide (0≤(IntKind.wrap .i64 (j-1))))&&(decide ((IntKind.wrap .i64 (j-1))<((af.set ((j:Int).toNat) (.agg [.int .i64 ((x4.cell 0).toInt),.int .i64 ((x4.cell 1).toInt),.int .i64 ((x4.cell 2).toInt)])).length:Int))) then
     ((af.set ((j:Int).toNat) (.agg [.int .i64 ((x4.cell 0).toInt),.int .i64 ((x4.cell 1).toInt),.int .i64 ((x4.cell 2).toInt)]))[(IntKind.wrap .i64 (j-1):Int).toNat]?).bind fun x7=>
     kn (IntKind.wrap .i64 (j-1),(af.set ((j:Int).toNat) (.agg [.int .i64 ((x4.cell 0).toInt),.int .i64 ((x4.cell 1).toInt),.int .i64 ((x4.cell 2).toInt)])).set ((IntKind.wrap .i64 (j-1):Int).toNat) (.agg [.int .i64 ((x5.cell 0).toInt),.int .i64 ((x5.cell 1).toInt),.int .i64 ((x5.cell 2).toInt)]))
     else none
    else none
    else none
   else none
   else
   kr (j,decide ((((V.nth r3 0).toInt):Int)<0),af)
  else none
  else none
 else
  kr (j,false,af)
noncomputable def wq (C:ae) (a b' i:Int):(Int × (List V))→Option ((Int × (List V)) ⊕ (Int × Bool × (List V))):=un fun j af=>wo C a b' i j af (fun y=>some (.inl y)) (fun r=>some (.inr r))
noncomputable def Ay (C:ae) (a b' i:Int) (af:List V) {β:Type} (kn:(Int × (List V))→Option β) (kr:(Int × Bool × (List V))→Option β):Option β:=
 bif decide ((i:Int)<b') then
  (Loop (wq C a b' i) (i,af)).bind (un fun (j_8:Int)=>un fun (tD:Bool) (nz:List V)=>
   kn (IntKind.wrap .i64 (i+1),nz))
 else
  kr (i,decide ((i:Int)<b'),af)
noncomputable def Fb (C:ae) (a b':Int):(Int × (List V))→Option ((Int × (List V)) ⊕ (Int × Bool × (List V))):=un fun i af=>Ay C a b' i af (fun y=>some (.inl y)) (fun r=>some (.inr r))
noncomputable def Te (C:ae):ct:=fun β n ds k=>
 bif Nat.beq n 65 then bB Ji [false,false,false,true,true] [[1,2,3,0,0,0]] (@wo C) ds k else
 bif Nat.beq n 17 then bB Jj [false,false,true,true] [[1,2,0,0,0]] (@Ay C) ds k else
 none
abbrev Tf (C:ae) (b:cm):Prop:=cp Tryd.prog av C (Te C) 170 (cI Tryd.prog (av.aR 170)) (av.sin 170).aP.length b
theorem adZ (C:ae):Tf C (.loop (ao [1,0,0,1,0,0,1,0,0] Fa)):=
 bE Ji [false,false,false,true,true] [[1,2,3,0,0,0]] (@wo C) (by kernel_rfl) (aY (bs:=[]) (by kernel_rfl) aw) (fun ds=>by kernel_rfl) (fun i x=>by kernel_rfl) (fun i x β k=>by kernel_rfl) (fun β ds k=>by kernel_rfl)
theorem ad0 (C:ae):Tf C (.loop (ao [1,0,0] Fa)):=
 bE Jj [false,false,true,true] [[1,2,0,0,0]] (@Ay C) (by kernel_rfl) (aY (bs:=[.loop (ao [1,0,0,1,0,0,1,0,0] Fa)]) (by kernel_rfl) (bn (adZ C) aw)) (fun ds=>by kernel_rfl) (fun i x=>by kernel_rfl) (fun i x β k=>by kernel_rfl) (fun β ds k=>by kernel_rfl)
noncomputable def Tg (C:ae) (a b':Int) (af:List V):Option (List V):=
 (Loop (Fb C a b') (IntKind.wrap .i64 (a+1),af)).bind (un fun (ag8:Int)=>un fun (EY:Bool) (Kt:List V)=>
  some [.list an Kt])
theorem ad1 {a b':Int} {af:List V} {r:Option (List V)} (h:Tg CC a b' af=r):CC DI [.int .i64 a,.int .i64 b',.list an af]=r:=
 bp (key:=170) (L:=Te CC) (bs:=[.loop (ao [1,0,0] Fa)]) (by kernel_rfl) (bn (ad0 CC) aw) (Eq.trans (by kernel_rfl) h)
noncomputable abbrev wu:Code:=cB Tryd.prog (av.aR 177)
noncomputable def tR (C:ae) (hi first root child:Int) (t40:Bool) (af:List V) {β:Type} (kr:(Int)→Option β):Option β:=
 bif t40 then
  kr (IntKind.wrap .i64 (child+1))
 else
  kr child
noncomputable def rE (C:ae) (hi first root:Int) (af:List V) {β:Type} (kn:(Int × (List V))→Option β) (kr:((Int × Int × Bool × (List V)) ⊕ (Int × Int × Bool × (List V)))→Option β):Option β:=
 bif decide (((IntKind.wrap .i64 ((IntKind.wrap .i64 (root*2))+1)):Int)≥hi) then
  kr (.inl (root,IntKind.wrap .i64 ((IntKind.wrap .i64 (root*2))+1),decide (((IntKind.wrap .i64 ((IntKind.wrap .i64 (root*2))+1)):Int)≥hi),af))
 else
  bif decide (((IntKind.wrap .i64 ((IntKind.wrap .i64 ((IntKind.wrap .i64 (root*2))+1))+1)):Int)<hi) then
  bif (decide (0≤(IntKind.wrap .i64 (first+(IntKind.wrap .i64 ((IntKind.wrap .i64 (root*2))+1))))))&&(decide ((IntKind.wrap .i64 (first+(IntKind.wrap .i64 ((IntKind.wrap .i64 (root*2))+1))))<(af.length:Int))) then
   (af[(IntKind.wrap .i64 (first+(IntKind.wrap .i64 ((IntKind.wrap .i64 (root*2))+1))):Int).toNat]?).bind fun x1=>
   bif (decide (0≤(IntKind.wrap .i64 ((IntKind.wrap .i64 (first+(IntKind.wrap .i64 ((IntKind.wrap .i64 (root*2))+1))))+1))))&&(decide ((IntKind.wrap .i64 ((IntKind.wrap .i64 (first+(IntKind.wrap .i64 ((IntKind.wrap .i64 (root*2))+1))))+1))<(af.length:Int))) then
   (af[(IntKind.wrap .i64 ((IntKind.wrap .i64 (first+(IntKind.wrap .i64 ((IntKind.wrap .i64 (root*2))+1))))+1):Int).toNat]?).bind fun x2=>
   (C aZ [.int .i64 ((x1.cell 0).toInt),.int .i64 ((x1.cell 1).toInt),.int .i64 ((x1.cell 2).toInt),.int .i64 ((x2.cell 0).toInt),.int .i64 ((x2.cell 1).toInt),.int .i64 ((x2.cell 2).toInt)]).bind fun r3=>
   tR C hi first root (IntKind.wrap .i64 ((IntKind.wrap .i64 (root*2))+1)) (decide ((((V.nth r3 0).toInt):Int)<0)) af (fun (mB:Int)=>
    bif (decide (0≤(IntKind.wrap .i64 (first+root))))&&(decide ((IntKind.wrap .i64 (first+root))<(af.length:Int))) then
     (af[(IntKind.wrap .i64 (first+root):Int).toNat]?).bind fun x5=>
     bif (decide (0≤(IntKind.wrap .i64 (first+mB))))&&(decide ((IntKind.wrap .i64 (first+mB))<(af.length:Int))) then
     (af[(IntKind.wrap .i64 (first+mB):Int).toNat]?).bind fun x6=>
     (C aZ [.int .i64 ((x5.cell 0).toInt),.int .i64 ((x5.cell 1).toInt),.int .i64 ((x5.cell 2).toInt),.int .i64 ((x6.cell 0).toInt),.int .i64 ((x6.cell 1).toInt),.int .i64 ((x6.cell 2).toInt)]).bind fun r7=>
     bif !(decide ((((V.nth r7 0).toInt):Int)<0)) then
      kr (.inr (root,mB,!(decide ((((V.nth r7 0).toInt):Int)<0)),af))
     else
      bif (decide (0≤(IntKind.wrap .i64 (first+mB))))&&(decide ((IntKind.wrap .i64 (first+mB))<(af.length:Int))) then
      (af[(IntKind.wrap .i64 (first+mB):Int).toNat]?).bind fun x8=>
      bif (decide (0≤(IntKind.wrap .i64 (first+root))))&&(decide ((IntKind.wrap .i64 (first+root))<(af.length:Int))) then
       (af[(IntKind.wrap .i64 (first+root):Int).toNat]?).bind fun x9=>
       bif (decide (0≤(IntKind.wrap .i64 (first+root))))&&(decide ((IntKind.wrap .i64 (first+root))<(af.length:Int))) then
       (af[(IntKind.wrap .i64 (first+root):Int).toNat]?).bind fun iA=>
       bif (decide (0≤(IntKind.wrap .i64 (first+mB))))&&(decide ((IntKind.wrap .i64 (first+mB))<((af.set ((IntKind.wrap .i64 (first+root):Int).toNat) (.agg [.int .i64 ((x8.cell 0).toInt),.int .i64 ((x8.cell 1).toInt),.int .i64 ((x8.cell 2).toInt)])).length:Int))) then
        ((af.set ((IntKind.wrap .i64 (first+root):Int).toNat) (.agg [.int .i64 ((x8.cell 0).toInt),.int .i64 ((x8.cell 1).toInt),.int .i64 ((x8.cell 2).toInt)]))[(IntKind.wrap .i64 (first+mB):Int).toNat]?).bind fun fv=>
        kn (mB,(af.set ((IntKind.wrap .i64 (first+root):Int).toNat) (.agg [.int .i64 ((x8.cell 0).toInt),.int .i64 ((x8.cell 1).toInt),.int .i64 ((x8.cell 2).toInt)])).set ((IntKind.wrap .i64 (first+mB):Int).toNat) (.agg [.int .i64 ((x9.cell 0).toInt),.int .i64 ((x9.cell 1).toInt),.int .i64 ((x9.cell 2).toInt)]))
       else none
       else none
      else none
      else none
     else none
    else none)
   else none
  else none
  else
  tR C hi first root (IntKind.wrap .i64 ((IntKind.wrap .i64 (root*2))+1)) false af (fun (mC:Int)=>
   bif (decide (0≤(IntKind.wrap .i64 (first+root))))&&(decide ((IntKind.wrap .i64 (first+root))<(af.length:Int))) then
    (af[(IntKind.wrap .i64 (first+root):Int).toNat]?).bind fun iY=>
    bif (decide (0≤(IntKind.wrap .i64 (first+mC))))&&(decide ((IntKind.wrap .i64 (first+mC))<(af.length:Int))) then
    (af[(IntKind.wrap .i64 (first+mC):Int).toNat]?).bind fun nA=>
    (C aZ [.int .i64 ((iY.cell 0).toInt),.int .i64 ((iY.cell 1).toInt),.int .i64 ((iY.cell 2).toInt),.int .i64 ((nA.cell 0).toInt),.int .i64 ((nA.cell 1).toInt),.int .i64 ((nA.cell 2).toInt)]).bind fun ej=>
    bif !(decide ((((V.nth ej 0).toInt):Int)<0)) then
     kr (.inr (root,mC,!(decide ((((V.nth ej 0).toInt):Int)<0)),af))
    else
     bif (decide (0≤(IntKind.wrap .i64 (first+mC))))&&(decide ((IntKind.wrap .i64 (first+mC))<(af.length:Int))) then
     (af[(IntKind.wrap .i64 (first+mC):Int).toNat]?).bind fun fW=>
     bif (decide (0≤(IntKind.wrap .i64 (first+root))))&&(decide ((IntKind.wrap .i64 (first+root))<(af.length:Int))) then
      (af[(IntKind.wrap .i64 (first+root):Int).toNat]?).bind fun oI=>
      bif (decide (0≤(IntKind.wrap .i64 (first+root))))&&(decide ((IntKind.wrap .i64 (first+root))<(af.length:Int))) then
      (af[(IntKind.wrap .i64 (first+root):Int).toNat]?).bind fun Af=>
      bif (decide (0≤(IntKind.wrap .i64 (first+mC))))&&(decide ((IntKind.wrap .i64 (first+mC))<((af.set ((IntKind.wrap .i64 (first+root):Int).toNat) (.agg [.int .i64 ((fW.cell 0).toInt),.int .i64 ((fW.cell 1).toInt),.int .i64 ((fW.cell 2).toInt)])).length:Int))) then
       ((af.set ((IntKind.wrap .i64 (first+root):Int).toNat) (.agg [.int .i64 ((fW.cell 0).toInt),.int .i64 ((fW.cell 1).toInt),.int .i64 ((fW.cell 2).toInt)]))[(IntKind.wrap .i64 (first+mC):Int).toNat]?).bind fun kG=>
       kn (mC,(af.set ((IntKind.wrap .i64 (first+root):Int).toNat) (.agg [.int .i64 ((fW.cell 0).toInt),.int .i64 ((fW.cell 1).toInt),.int .i64 ((fW.cell 2).toInt)])).set ((IntKind.wrap .i64 (first+mC):Int).toNat) (.agg [.int .i64 ((oI.cell 0).toInt),.int .i64 ((oI.cell 1).toInt),.int .i64 ((oI.cell 2).toInt)]))
      else none
      else none
     else none
     else none
    else none
   else none)
noncomputable def nB (C:ae) (hi first:Int):(Int × (List V))→Option ((Int × (List V)) ⊕ ((Int × Int × Bool × (List V)) ⊕ (Int × Int × Bool × (List V)))):=un fun root af=>rE C hi first root af (fun y=>some (.inl y)) (fun r=>some (.inr r))
noncomputable def Th (C:ae):ct:=fun β n ds k=>
 bif Nat.beq n 655 then mi Jq [[1,2,3,0,6]] (@tR C) ds k else
 bif Nat.beq n 17 then bB Jr [false,false,true,true] [[1,2,0,0,0,0],[1,2,0,0,0,0]] (@rE C) ds k else
 none
abbrev Ti (C:ae) (b:cm):Prop:=cp Tryd.prog av C (Th C) 177 (cI Tryd.prog (av.aR 177)) (av.sin 177).aP.length b
theorem ad2 (C:ae):Ti C (.cond 40 (ao [1,0,0,0,1,1,0,1,0] wu) (ao [1,0,0,0,1,1,0,1,1] wu)):=
 nk Jq [[1,2,3,0,6]] (@tR C) (by kernel_rfl) (aY (bs:=[]) (by kernel_rfl) aw) (aY (bs:=[]) (by kernel_rfl) aw) (fun ds=>by kernel_rfl) (fun i β k=>by kernel_rfl) (fun β ds k=>by kernel_rfl)
theorem ad3 (C:ae):Ti C (.loop (ao [1,0,0] wu)):=
 bE Jr [false,false,true,true] [[1,2,0,0,0,0],[1,2,0,0,0,0]] (@rE C) (by kernel_rfl) (aY (bs:=[.cond 40 (ao [1,0,0,0,1,1,0,1,0] wu) (ao [1,0,0,0,1,1,0,1,1] wu)]) (by kernel_rfl) (bn (ad2 C) aw)) (fun ds=>by kernel_rfl) (fun i x=>by kernel_rfl) (fun i x β k=>by kernel_rfl) (fun β ds k=>by kernel_rfl)
noncomputable def Tj (C:ae) (lo hi first:Int) (af:List V):Option (List V):=
 (Loop (nB C hi first) (lo,af)).bind (c8 (un fun (ag9:Int)=>un fun (aha:Int)=>un fun (acD:Bool) (ad4:List V)=>
  some [.list an ad4]) (un fun (ahb:Int)=>un fun (ahc:Int)=>un fun (ac4:Bool) (qh:List V)=>
  some [.list an qh]))
theorem ad5 {lo hi first:Int} {af:List V} {r:Option (List V)} (h:Tj CC lo hi first af=r):CC DM [.int .i64 lo,.int .i64 hi,.int .i64 first,.list an af]=r:=
 bp (key:=177) (L:=Th CC) (bs:=[.loop (ao [1,0,0] wu)]) (by kernel_rfl) (bn (ad3 CC) aw) (Eq.trans (by kernel_rfl) h)
noncomputable abbrev Fc:Code:=cB Tryd.prog (av.aR 171)
noncomputable def Az (C:ae) (first lo hi i:Int) (af:List V) {β:Type} (kn:(Int × (List V))→Option β) (kr:(Int × Bool × (List V))→Option β):Option β:=
 bif decide ((i:Int)≥0) then
  (C DM [.int .i64 i,.int .i64 hi,.int .i64 first,.list an af]).bind fun r1=>
  kn (IntKind.wrap .i64 (i-1),(V.nth r1 0).toList)
 else
  kr (i,decide ((i:Int)≥0),af)
noncomputable def Fe (C:ae) (first lo hi:Int):(Int × (List V))→Option ((Int × (List V)) ⊕ (Int × Bool × (List V))):=un fun i af=>Az C first lo hi i af (fun y=>some (.inl y)) (fun r=>some (.inr r))
noncomputable def AA (C:ae) (first lo i:Int) (af:List V) {β:Type} (kn:(Int × (List V))→Option β) (kr:(Int × Bool × (List V))→Option β):Option β:=
 bif decide ((i:Int)≥0) then
  bif (decide (0≤(IntKind.wrap .i64 (first+i))))&&(decide ((IntKind.wrap .i64 (first+i))<(af.length:Int))) then
  (af[(IntKind.wrap .i64 (first+i):Int).toNat]?).bind fun x5=>
  bif (decide (0≤first))&&(decide (first<(af.length:Int))) then
   (af[(first:Int).toNat]?).bind fun x6=>
   bif (decide (0≤first))&&(decide (first<(af.length:Int))) then
   (af[(first:Int).toNat]?).bind fun x7=>
   bif (decide (0≤(IntKind.wrap .i64 (first+i))))&&(decide ((IntKind.wrap .i64 (first+i))<((af.set ((first:Int).toNat) (.agg [.int .i64 ((x5.cell 0).toInt),.int .i64 ((x5.cell 1).toInt),.int .i64 ((x5.cell 2).toInt)])).length:Int))) then
    ((af.set ((first:Int).toNat) (.agg [.int .i64 ((x5.cell 0).toInt),.int .i64 ((x5.cell 1).toInt),.int .i64 ((x5.cell 2).toInt)]))[(IntKind.wrap .i64 (first+i):Int).toNat]?).bind fun x8=>
    (C DM [.int .i64 lo,.int .i64 i,.int .i64 first,.list an ((af.set ((first:Int).toNat) (.agg [.int .i64 ((x5.cell 0).toInt),.int .i64 ((x5.cell 1).toInt),.int .i64 ((x5.cell 2).toInt)])).set ((IntKind.wrap .i64 (first+i):Int).toNat) (.agg [.int .i64 ((x6.cell 0).toInt),.int .i64 ((x6.cell 1).toInt),.int .i64 ((x6.cell 2).toInt)]))]).bind fun r9=>
    kn (IntKind.wrap .i64 (i-1),(V.nth r9 0).toList)
   else none
   else none
  else none
  else none
 else
  kr (i,decide ((i:Int)≥0),af)
noncomputable def Ff (C:ae) (first lo:Int):(Int × (List V))→Option ((Int × (List V)) ⊕ (Int × Bool × (List V))):=un fun i af=>AA C first lo i af (fun y=>some (.inl y)) (fun r=>some (.inr r))
noncomputable def Tk (C:ae):ct:=fun β n ds k=>
 bif Nat.beq n 65 then bB Jk [false,false,false,true,true] [[1,2,3,0,0,0]] (@Az C) ds k else
 bif Nat.beq n 129 then bB Jl [false,false,true,true] [[1,2,0,0,0]] (@AA C) ds k else
 none
abbrev Tl (C:ae) (b:cm):Prop:=cp Tryd.prog av C (Tk C) 171 (cI Tryd.prog (av.aR 171)) (av.sin 171).aP.length b
theorem ad6 (C:ae):Tl C (.loop (ao [1,1,1,0,1,0,0] Fc)):=
 bE Jk [false,false,false,true,true] [[1,2,3,0,0,0]] (@Az C) (by kernel_rfl) (aY (bs:=[]) (by kernel_rfl) aw) (fun ds=>by kernel_rfl) (fun i x=>by kernel_rfl) (fun i x β k=>by kernel_rfl) (fun β ds k=>by kernel_rfl)
theorem ad7 (C:ae):Tl C (.loop (ao [1,1,1,1,1,0,0] Fc)):=
 bE Jl [false,false,true,true] [[1,2,0,0,0]] (@AA C) (by kernel_rfl) (aY (bs:=[]) (by kernel_rfl) aw) (fun ds=>by kernel_rfl) (fun i x=>by kernel_rfl) (fun i x β k=>by kernel_rfl) (fun β ds k=>by kernel_rfl)
noncomputable def Tm (C:ae) (a b':Int) (af:List V):Option (List V):=
 (Loop (Fe C a 0 (IntKind.wrap .i64 (b'-a))) (IntKind.wrap .i64 (Int.tdiv (IntKind.wrap .i64 ((IntKind.wrap .i64 (b'-a))-1)) 2),af)).bind (un fun (i_2:Int)=>un fun (jS:Bool) (ad8:List V)=>
  (Loop (Ff C a 0) (IntKind.wrap .i64 ((IntKind.wrap .i64 (b'-a))-1),ad8)).bind (un fun (ahd:Int)=>un fun (SN:Bool) (lG:List V)=>
   some [.list an lG]))
theorem ad9 {a b':Int} {af:List V} {r:Option (List V)} (h:Tm CC a b' af=r):CC DJ [.int .i64 a,.int .i64 b',.list an af]=r:=
 bp (key:=171) (L:=Tk CC) (bs:=[.loop (ao [1,1,1,0,1,0,0] Fc),.loop (ao [1,1,1,1,1,0,0] Fc)]) (by kernel_rfl) (bn (ad6 CC) (bn (ad7 CC) aw)) (Eq.trans (by kernel_rfl) h)
noncomputable abbrev Tn:Code:=cB Tryd.prog (av.aR 179)
noncomputable def wv (C:ae) (i j:Int) (af:List V) {β:Type} (kn:(Int × Int × (List V))→Option β) (kr:(Int × Int × Bool × (List V))→Option β):Option β:=
 bif decide ((i:Int)<j) then
  bif (decide (0≤j))&&(decide (j<(af.length:Int))) then
  (af[(j:Int).toNat]?).bind fun x1=>
  bif (decide (0≤i))&&(decide (i<(af.length:Int))) then
   (af[(i:Int).toNat]?).bind fun x2=>
   bif (decide (0≤i))&&(decide (i<(af.length:Int))) then
   (af[(i:Int).toNat]?).bind fun x3=>
   bif (decide (0≤j))&&(decide (j<((af.set ((i:Int).toNat) (.agg [.int .i64 ((x1.cell 0).toInt),.int .i64 ((x1.cell 1).toInt),.int .i64 ((x1.cell 2).toInt)])).length:Int))) then
    ((af.set ((i:Int).toNat) (.agg [.int .i64 ((x1.cell 0).toInt),.int .i64 ((x1.cell 1).toInt),.int .i64 ((x1.cell 2).toInt)]))[(j:Int).toNat]?).bind fun x4=>
    kn (IntKind.wrap .i64 (i+1),IntKind.wrap .i64 (j-1),(af.set ((i:Int).toNat) (.agg [.int .i64 ((x1.cell 0).toInt),.int .i64 ((x1.cell 1).toInt),.int .i64 ((x1.cell 2).toInt)])).set ((j:Int).toNat) (.agg [.int .i64 ((x2.cell 0).toInt),.int .i64 ((x2.cell 1).toInt),.int .i64 ((x2.cell 2).toInt)]))
   else none
   else none
  else none
  else none
 else
  kr (i,j,decide ((i:Int)<j),af)
noncomputable def AB (C:ae):(Int × Int × (List V))→Option ((Int × Int × (List V)) ⊕ (Int × Int × Bool × (List V))):=un fun i=>un fun j af=>wv C i j af (fun y=>some (.inl y)) (fun r=>some (.inr r))
noncomputable def To (C:ae):ct:=fun β n ds k=>
 bif Nat.beq n 33 then bB Js [true,true,true] [[0,0,0,0]] (@wv C) ds k else
 none
abbrev aea (C:ae) (b:cm):Prop:=cp Tryd.prog av C (To C) 179 (cI Tryd.prog (av.aR 179)) (av.sin 179).aP.length b
theorem aeb (C:ae):aea C (.loop (ao [1,1,0,0] Tn)):=
 bE Js [true,true,true] [[0,0,0,0]] (@wv C) (by kernel_rfl) (aY (bs:=[]) (by kernel_rfl) aw) (fun ds=>by kernel_rfl) (fun i x=>by kernel_rfl) (fun i x β k=>by kernel_rfl) (fun β ds k=>by kernel_rfl)
noncomputable def Tp (C:ae) (a b':Int) (af:List V):Option (List V):=
 (Loop (AB C) (a,IntKind.wrap .i64 (b'-1),af)).bind (un fun (i_5:Int)=>un fun (j_6:Int)=>un fun (oA:Bool) (aec:List V)=>
  some [.list an aec])
theorem aed {a b':Int} {af:List V} {r:Option (List V)} (h:Tp CC a b' af=r):CC Ia [.int .i64 a,.int .i64 b',.list an af]=r:=
 bp (key:=179) (L:=To CC) (bs:=[.loop (ao [1,1,0,0] Tn)]) (by kernel_rfl) (bn (aeb CC) aw) (Eq.trans (by kernel_rfl) h)
end Go.AM
set_option maxRecDepth 100000
set_option maxHeartbeats 4000000
namespace Go.AM.SL
open Go.AM Go.Proofs Go.Sort
def ar (a b:Ed):Bool:=decide (bD a b<0)
theorem rF (a b:Ed):(ar a b=true)=(bD a b<0):=by unfold ar;rw[decide_eq_true_eq]
theorem qi (a b:Ed):((!ar a b)=true)= ¬(bD a b<0):=by unfold ar;simp
abbrev eA (d:Array Ed):List V:=oJ Ed.enc d
theorem aee (a j:Nat) (d:Array Ed):insInner ar a (j+1) d=if j+1>a then (if bD d[j+1]! d[j]! <0 then insInner ar a j (swp d (j+1) j) else d) else d:=by
 rw[SX]
 by_cases h1:j+1>a
 ·rw[if_pos h1];simp only[h1,decide_true,Bool.true_and,rF]
 ·rw[if_neg h1,if_neg (by simp[h1])]
theorem Ku (hi first root:Nat) (d:Array Ed):siftDown ar hi first root d=
  if 2*root+1≥hi then d else
   if 2*root+2<hi then
    (if bD d[first+(2*root+1)]! d[first+(2*root+2)]! <0 then
     (if bD d[first+root]! d[first+(2*root+2)]! <0 then siftDown ar hi first (2*root+2) (swp d (first+root) (first+(2*root+2))) else d)
    else (if bD d[first+root]! d[first+(2*root+1)]! <0 then siftDown ar hi first (2*root+1) (swp d (first+root) (first+(2*root+1))) else d))
   else (if bD d[first+root]! d[first+(2*root+1)]! <0 then siftDown ar hi first (2*root+1) (swp d (first+root) (first+(2*root+1))) else d):=by
 rw[siftDown]
 by_cases h1:2*root+1≥hi
 ·rw[dif_pos h1,if_pos h1]
 rw[dif_neg h1,if_neg h1]
 by_cases h2:2*root+2<hi
 ·rw[if_pos h2]
  by_cases h3:bD d[first+(2*root+1)]! d[first+(2*root+2)]! <0
  ·rw[if_pos h3,if_pos (by simp only[Bool.and_eq_true,decide_eq_true_eq,rF];exact ⟨h2,h3⟩)]
   simp only[qi]
   by_cases h4:bD d[first+root]! d[first+(2*root+2)]! <0
   ·rw[if_neg (not_not_intro h4),dif_pos h2,if_pos h4]
   ·rw[if_pos h4,if_neg h4]
  ·rw[if_neg h3,if_neg (by simp only[Bool.and_eq_true,decide_eq_true_eq,rF];exact fun h=>h3 h.2)]
   simp only[qi]
   by_cases h4:bD d[first+root]! d[first+(2*root+1)]! <0
   ·rw[if_neg (not_not_intro h4),if_pos h4]
   ·rw[if_pos h4,if_neg h4]
 ·rw[if_neg h2,if_neg (by simp only[Bool.and_eq_true,decide_eq_true_eq,rF];exact fun h=>h2 h.1)]
  simp only[qi]
  by_cases h4:bD d[first+root]! d[first+(2*root+1)]! <0
  ·rw[if_neg (not_not_intro h4),if_pos h4]
  ·rw[if_pos h4,if_neg h4]
theorem Tq {a b i:Nat}: ∀(j:Nat) (d:Array Ed),j<d.size→d.size<1152921504606846976→
  ∃j' t,Loop (wq CC a b i) ((j:Int),eA d)=some (j',t,eA (insInner ar a j d))
 | 0,d,hj,hs=>⟨(0:Nat),false,bO (by
   simp (disch:=omega) only[wq,wo,un,aE,if_neg]
   rfl)⟩
 | j+1,d,hj,hs=>by
  obtain ⟨j',t,ih⟩:=Tq (a:=a) (b:=b) (i:=i) j (swp d (j+1) j) (by rw[size_swp];omega) (by rw[size_swp];omega)
  rw[aee]
  by_cases h1:j+1>a
  ·rw[if_pos h1]
   have e:wq CC a b i (((j+1:Nat):Int),eA d)=if bD d[j+1]! d[j]! <0 then some (.inl ((j:Int),eA (swp d (j+1) j))) else some (.inr (((j+1:Nat):Int),decide (bD d[j+1]! d[j]! <0),eA d)):=by
    simp (disch:=omega) only[wq,wo,un,aE,dx,gj,if_pos,if_neg,wrap64,dp,fB,Int.toNat_natCast,Option.bind_some,fx,fA,Ed.cX,Ed.cY,Ed.cZ,Ed.re,fy,gL,Array.size_setIfInBounds,fV,V.ca,V.toInt_int,cond_true,cond_false,tN]
    rfl
   by_cases h2:bD d[j+1]! d[j]! <0
   ·rw[if_pos h2] at e⊢
    exact ⟨j',t,(dA e).trans ih⟩
   ·rw[if_neg h2] at e⊢
    exact ⟨_,_,bO e⟩
  ·rw[if_neg h1]
   exact ⟨((j+1:Nat):Int),false,bO (by
    simp (disch:=omega) only[wq,wo,un,aE,if_neg])⟩
theorem aef {a b:Nat}: ∀(n i:Nat) (d:Array Ed),b-i=n→b≤d.size→d.size<1152921504606846976→
  ∃j' t,Loop (Fb CC a b) ((i:Int),eA d)=some (j',t,eA (insOuter ar a b i d)):=by
 intro n
 induction n with
 | zero=>
  intro i d hn hb hs
  rw[insOuter,if_neg (by omega)]
  exact ⟨(i:Int),false,bO (by
   simp (disch:=omega) only[Fb,Ay,un,rC,cond_false])⟩
 | succ n ih=>
  intro i d hn hb hs
  obtain ⟨j1,t1,h1⟩:=Tq (a:=a) (b:=b) (i:=i) i d (by omega) hs
  obtain ⟨j',t,h2⟩:=ih (i+1) (insInner ar a i d) (by omega) (by rw[Km];omega) (by rw[Km];omega)
  rw[insOuter,if_pos (by omega)]
  refine ⟨j',t,(dA ?_).trans h2⟩
  simp (disch:=omega) only[Fb,Ay,un,aE,if_pos,h1,Option.bind_some,dp,wrap64]
theorem Tr {a b:Nat} {d:Array Ed} (hb:b≤d.size) (hs:d.size<1152921504606846976) (ha:a<1152921504606846976):
  CC DI [.int .i64 (a:Int),.int .i64 (b:Int),.list an (eA d)]=some [.list an (eA (insertionSort ar d a b))]:=by
 refine ad1 ?_
 unfold Tg
 obtain ⟨j',t,h⟩:=aef (a:=a) (b:=b) _ (a+1) d rfl hb hs
 simp (disch:=omega) only[dp,wrap64]
 rw[h]
 rfl
theorem aeg (hi first:Nat): ∀(n root:Nat) (d:Array Ed),hi-root≤n→root<1152921504606846976→first+hi≤d.size→d.size<1152921504606846976→
  (∃x y z,Loop (nB CC hi first) ((root:Int),eA d)=some (.inl (x,y,z,eA (siftDown ar hi first root d))))∨
  (∃x y z,Loop (nB CC hi first) ((root:Int),eA d)=some (.inr (x,y,z,eA (siftDown ar hi first root d)))):=by
 intro n
 induction n with
 | zero=>
  intro root d hn hr hb hs
  rw[Ku,if_pos (by omega)]
  exact .inl ⟨(root:Int),((root*2+1:Nat):Int),true,bO (by
   simp (disch:=omega) only[nB,rE,un,Au,dp,wrap64];rw[my (by omega)];rfl)⟩
 | succ n ih=>
  intro root d hn hr hb hs
  by_cases h1:2*root+1≥hi
  ·rw[Ku,if_pos h1]
   exact .inl ⟨(root:Int),((root*2+1:Nat):Int),true,bO (by
    simp (disch:=omega) only[nB,rE,un,Au,dp,wrap64];rw[my (by omega)];rfl)⟩
  ·have go: ∀c:Nat,c<hi→root<c→(nB CC hi first ((root:Int),eA d)=
      if bD d[first+root]! d[first+c]! <0 then some (.inl ((c:Int),eA (swp d (first+root) (first+c)))) else some (.inr (.inr ((root:Int),(c:Int),true,eA d))))→
     siftDown ar hi first root d=(if bD d[first+root]! d[first+c]! <0 then siftDown ar hi first c (swp d (first+root) (first+c)) else d)→
     ((∃x y z,Loop (nB CC hi first) ((root:Int),eA d)=some (.inl (x,y,z,eA (siftDown ar hi first root d))))∨
     (∃x y z,Loop (nB CC hi first) ((root:Int),eA d)=some (.inr (x,y,z,eA (siftDown ar hi first root d))))):=by
    intro c hc hrc e1 e2
    rw[e2]
    by_cases h3:bD d[first+root]! d[first+c]! <0
    ·rw[if_pos h3] at e1
     rw[if_pos h3,dA e1]
     exact ih c _ (by omega) (by omega) (by rw[size_swp];omega) (by rw[size_swp];omega)
    ·rw[if_neg h3] at e1
     rw[if_neg h3,bO e1]
     exact .inr ⟨_,_,_,rfl⟩
   have e0:=Ku hi first root d
   rw[if_neg h1] at e0
   by_cases h2:2*root+2<hi
   ·rw[if_pos h2] at e0
    by_cases h3:bD d[first+(2*root+1)]! d[first+(2*root+2)]! <0
    ·rw[if_pos h3] at e0
     refine go (2*root+2) (by omega) (by omega) ?_ e0
     rw[Nat.mul_comm 2 root] at h3
     simp (disch:=omega) only[nB,rE,un,Au,dp,fB,wrap64]
     rw[aE,if_neg (by omega),aE,if_pos (by omega)]
     simp (disch:=omega) only[tR,aE,dx,gj,if_pos,if_neg,wrap64,dp,fB,Int.toNat_natCast,Option.bind_some,fx,fA,Ed.cX,Ed.cY,Ed.cZ,Ed.re,fy,gL,Array.size_setIfInBounds,fV,V.ca,V.toInt_int,cond_true,cond_false,Nat.mul_comm 2 root,my]
     by_cases h4:bD d[first+root]! d[first+(root*2+2)]! <0
     ·simp only[h4,if_true];rfl
     ·simp only[h4,if_false];rfl
    ·rw[if_neg h3] at e0
     refine go (2*root+1) (by omega) (by omega) ?_ e0
     rw[Nat.mul_comm 2 root] at h3
     simp (disch:=omega) only[nB,rE,un,Au,dp,fB,wrap64]
     rw[aE,if_neg (by omega),aE,if_pos (by omega)]
     simp (disch:=omega) only[tR,aE,dx,gj,if_pos,if_neg,wrap64,dp,fB,Int.toNat_natCast,Option.bind_some,fx,fA,Ed.cX,Ed.cY,Ed.cZ,Ed.re,fy,gL,Array.size_setIfInBounds,fV,V.ca,V.toInt_int,cond_true,cond_false,Nat.mul_comm 2 root,rC]
     by_cases h4:bD d[first+root]! d[first+(root*2+1)]! <0
     ·simp only[h4,if_true];rfl
     ·simp only[h4,if_false];rfl
   ·rw[if_neg h2] at e0
    refine go (2*root+1) (by omega) (by omega) ?_ e0
    simp (disch:=omega) only[nB,rE,un,Au,dp,fB,wrap64]
    rw[aE,if_neg (by omega),aE,if_neg (by omega)]
    simp (disch:=omega) only[tR,aE,dx,gj,if_pos,if_neg,wrap64,dp,fB,Int.toNat_natCast,Option.bind_some,fx,fA,Ed.cX,Ed.cY,Ed.cZ,Ed.re,fy,gL,Array.size_setIfInBounds,fV,V.ca,V.toInt_int,cond_true,cond_false,Nat.mul_comm 2 root]
    by_cases h4:bD d[first+root]! d[first+(root*2+1)]! <0
    ·simp only[h4,if_true];rfl
    ·simp only[h4,if_false];rfl
theorem Ts {lo hi first:Nat} {d:Array Ed} (hl:lo<1152921504606846976) (hb:first+hi≤d.size) (hs:d.size<1152921504606846976):
  CC DM [.int .i64 (lo:Int),.int .i64 (hi:Int),.int .i64 (first:Int),.list an (eA d)]=some [.list an (eA (siftDown ar hi first lo d))]:=by
 refine ad5 ?_
 unfold Tj
 rcases aeg hi first _ lo d (Nat.le_refl _) hl hb hs with ⟨x,y,z,h⟩|⟨x,y,z,h⟩
 ·rw[h];rfl
 ·rw[h];rfl
theorem Tt {hi first:Nat}: ∀(k:Nat) (d:Array Ed),k<1152921504606846976→first+hi≤d.size→d.size<1152921504606846976→
  ∃x y,Loop (Fe CC first 0 hi) ((k:Int)-1,eA d)=some (x,y,eA (heapBuild ar hi first k d))
 | 0,d,hk,hb,hs=>⟨-1,false,bO (by
   simp (disch:=omega) only[Fe,Az,un,aE,if_neg]
   rfl)⟩
 | k+1,d,hk,hb,hs=>by
  obtain ⟨x,y,ih⟩:=Tt (hi:=hi) (first:=first) k (siftDown ar hi first k d) (by omega) (by rw[Av _ _ _ _ _ (Nat.le_refl _)];omega) (by rw[Av _ _ _ _ _ (Nat.le_refl _)];omega)
  refine ⟨x,y,(dA ?_).trans ih⟩
  simp (disch:=omega) only[Fe,Az,un,aE,if_pos,tN,Ts,Option.bind_some,V.ca,V.oh,wrap64]
theorem Tu {first:Nat}: ∀(k:Nat) (d:Array Ed),k<1152921504606846976→first+k≤d.size→d.size<1152921504606846976→
  ∃x y,Loop (Ff CC first 0) ((k:Int)-1,eA d)=some (x,y,eA (heapPop ar first k d))
 | 0,d,hk,hb,hs=>⟨-1,false,bO (by
   simp (disch:=omega) only[Ff,AA,un,aE,if_neg]
   rfl)⟩
 | k+1,d,hk,hb,hs=>by
  obtain ⟨x,y,ih⟩:=Tu (first:=first) k (siftDown ar k first 0 (swp d first (first+k))) (by omega) (by rw[Av _ _ _ _ _ (Nat.le_refl _),size_swp];omega) (by rw[Av _ _ _ _ _ (Nat.le_refl _),size_swp];omega)
  refine ⟨x,y,(dA ?_).trans ih⟩
  have jN:=Ts (lo:=0) (hi:=k) (first:=first) (d:=swp d first (first+k)) (by omega) (by rw[size_swp];omega) (by rw[size_swp];omega)
  unfold swp at jN⊢
  rw[show ((0:Nat):Int)=0 from rfl] at jN
  simp (disch:=omega) only[Ff,AA,un,tN,aE,dx,gj,if_pos,if_neg,wrap64,dp,fB,Int.toNat_natCast,Option.bind_some,fx,fA,Ed.cX,Ed.cY,Ed.cZ,Ed.re,fy,gL,Array.size_setIfInBounds,fV,V.ca,V.toInt_int,cond_true,cond_false]
  rw[jN]
  simp (disch:=omega) only[Option.bind_some,V.ca,V.oh,wrap64]
theorem aeh {a b:Nat} {d:Array Ed} (fo:a<b) (hb:b≤d.size) (hs:d.size<1152921504606846976):
  CC DJ [.int .i64 (a:Int),.int .i64 (b:Int),.list an (eA d)]=some [.list an (eA (heapSort ar d a b))]:=by
 refine ad9 ?_
 unfold Tm
 obtain ⟨x,y,h1⟩:=Tt (hi:=b-a) (first:=a) ((b-a-1)/2+1) d (by omega) (by omega) hs
 obtain ⟨x2,y2,h2⟩:=Tu (first:=a) (b-a) (heapBuild ar (b-a) a ((b-a-1)/2+1) d) (by omega) (by rw[Kn];omega) (by rw[Kn];omega)
 have e1:((((b-a-1)/2+1:Nat):Int)-1)=Int.tdiv (((b-a:Nat):Int)-1) 2:=by
  rw[Int.tdiv_eq_ediv_of_nonneg (by omega)]
  omega
 rw[e1] at h1
 simp (disch:=omega) only[lE,wrap64]
 rw[h1]
 simp only[Option.bind_some,un]
 rw[h2]
 rfl
theorem aei: ∀(n i j:Nat) (d:Array Ed),j-i≤n→j<d.size→d.size<1152921504606846976→
  ∃x y z,Loop (AB CC) ((i:Int),(j:Int),eA d)=some (x,y,z,eA (reverseLoop i j d)):=by
 intro n
 induction n with
 | zero=>
  intro i j d hn hj hs
  rw[reverseLoop,if_neg (by omega)]
  exact ⟨(i:Int),(j:Int),false,bO (by
   simp (disch:=omega) only[AB,wv,un,rC,cond_false])⟩
 | succ n ih=>
  intro i j d hn hj hs
  rw[reverseLoop]
  by_cases h:i<j
  ·rw[if_pos h]
   obtain ⟨x,y,z,h2⟩:=ih (i+1) (j-1) (swp d i j) (by omega) (by rw[size_swp];omega) (by rw[size_swp];omega)
   refine ⟨x,y,z,(dA ?_).trans h2⟩
   simp (disch:=omega) only[AB,wv,un,aE,dx,gj,if_pos,if_neg,wrap64,dp,fB,Int.toNat_natCast,Option.bind_some,fx,fA,Ed.cX,Ed.cY,Ed.cZ,Ed.re,fy,gL,Array.size_setIfInBounds,fV,V.ca,V.toInt_int,cond_true,cond_false,jB]
   rfl
  ·rw[if_neg h]
   exact ⟨(i:Int),(j:Int),false,bO (by
    simp (disch:=omega) only[AB,wv,un,rC,cond_false])⟩
theorem aej {a b:Nat} {d:Array Ed} (fo:a<b) (hb:b≤d.size) (hs:d.size<1152921504606846976):
  CC Ia [.int .i64 (a:Int),.int .i64 (b:Int),.list an (eA d)]=some [.list an (eA (reverseRange d a b))]:=by
 refine aed ?_
 unfold Tp
 obtain ⟨x,y,z,h⟩:=aei _ a (b-1) d (Nat.le_refl _) (by omega) hs
 simp (disch:=omega) only[jB,wrap64]
 rw[h]
 rfl
end Go.AM.SL
set_option maxRecDepth 100000
namespace Go.AM
open Go.Proofs
noncomputable abbrev oK:Code:=cB Tryd.prog (av.aR 181)
noncomputable def AD (C:ae) (a j:Int) (af:List V) (i:Int) {β:Type} (kn:Int→Option β) (kr:(Int × Bool)→Option β):Option β:=
 bif decide ((i:Int)≤j) then
  bif (decide (0≤i))&&(decide (i<(af.length:Int))) then
  (af[(i:Int).toNat]?).bind fun x5=>
  bif (decide (0≤a))&&(decide (a<(af.length:Int))) then
   (af[(a:Int).toNat]?).bind fun x6=>
   (C aZ [.int .i64 ((x5.cell 0).toInt),.int .i64 ((x5.cell 1).toInt),.int .i64 ((x5.cell 2).toInt),.int .i64 ((x6.cell 0).toInt),.int .i64 ((x6.cell 1).toInt),.int .i64 ((x6.cell 2).toInt)]).bind fun r7=>
   bif decide ((((V.nth r7 0).toInt):Int)<0) then
   kn (IntKind.wrap .i64 (i+1))
   else
   kr (i,decide ((((V.nth r7 0).toInt):Int)<0))
  else none
  else none
 else
  kr (i,false)
noncomputable def AE (C:ae) (a j:Int) (af:List V):(Int)→Option ((Int) ⊕ (Int × Bool)):=fun i=>AD C a j af i (fun y=>some (.inl y)) (fun r=>some (.inr r))
noncomputable def wx (C:ae) (a i:Int) (af:List V) (j:Int) {β:Type} (kn:Int→Option β) (kr:(Int × Bool)→Option β):Option β:=
 bif decide ((i:Int)≤j) then
  bif (decide (0≤j))&&(decide (j<(af.length:Int))) then
  (af[(j:Int).toNat]?).bind fun iA=>
  bif (decide (0≤a))&&(decide (a<(af.length:Int))) then
   (af[(a:Int).toNat]?).bind fun fv=>
   (C aZ [.int .i64 ((iA.cell 0).toInt),.int .i64 ((iA.cell 1).toInt),.int .i64 ((iA.cell 2).toInt),.int .i64 ((fv.cell 0).toInt),.int .i64 ((fv.cell 1).toInt),.int .i64 ((fv.cell 2).toInt)]).bind fun iW=>
   bif !(decide ((((V.nth iW 0).toInt):Int)<0)) then
   kn (IntKind.wrap .i64 (j-1))
   else
   kr (j,!(decide ((((V.nth iW 0).toInt):Int)<0)))
  else none
  else none
 else
  kr (j,false)
noncomputable def wy (C:ae) (a i:Int) (af:List V):(Int)→Option ((Int) ⊕ (Int × Bool)):=fun j=>wx C a i af j (fun y=>some (.inl y)) (fun r=>some (.inr r))
noncomputable def AF (C:ae) (a j:Int) (af:List V) (i:Int) {β:Type} (kn:Int→Option β) (kr:(Int × Bool)→Option β):Option β:=
 bif decide ((i:Int)≤j) then
  bif (decide (0≤i))&&(decide (i<(af.length:Int))) then
  (af[(i:Int).toNat]?).bind fun kF=>
  bif (decide (0≤a))&&(decide (a<(af.length:Int))) then
   (af[(a:Int).toNat]?).bind fun qj=>
   (C aZ [.int .i64 ((kF.cell 0).toInt),.int .i64 ((kF.cell 1).toInt),.int .i64 ((kF.cell 2).toInt),.int .i64 ((qj.cell 0).toInt),.int .i64 ((qj.cell 1).toInt),.int .i64 ((qj.cell 2).toInt)]).bind fun Fg=>
   bif decide ((((V.nth Fg 0).toInt):Int)<0) then
   kn (IntKind.wrap .i64 (i+1))
   else
   kr (i,decide ((((V.nth Fg 0).toInt):Int)<0))
  else none
  else none
 else
  kr (i,false)
noncomputable def AG (C:ae) (a j:Int) (af:List V):(Int)→Option ((Int) ⊕ (Int × Bool)):=fun i=>AF C a j af i (fun y=>some (.inl y)) (fun r=>some (.inr r))
noncomputable def wz (C:ae) (a i:Int) (af:List V) (j:Int) {β:Type} (kn:Int→Option β) (kr:(Int × Bool)→Option β):Option β:=
 bif decide ((i:Int)≤j) then
  bif (decide (0≤j))&&(decide (j<(af.length:Int))) then
  (af[(j:Int).toNat]?).bind fun tS=>
  bif (decide (0≤a))&&(decide (a<(af.length:Int))) then
   (af[(a:Int).toNat]?).bind fun tT=>
   (C aZ [.int .i64 ((tS.cell 0).toInt),.int .i64 ((tS.cell 1).toInt),.int .i64 ((tS.cell 2).toInt),.int .i64 ((tT.cell 0).toInt),.int .i64 ((tT.cell 1).toInt),.int .i64 ((tT.cell 2).toInt)]).bind fun Fh=>
   bif !(decide ((((V.nth Fh 0).toInt):Int)<0)) then
   kn (IntKind.wrap .i64 (j-1))
   else
   kr (j,!(decide ((((V.nth Fh 0).toInt):Int)<0)))
  else none
  else none
 else
  kr (j,false)
noncomputable def wA (C:ae) (a i:Int) (af:List V):(Int)→Option ((Int) ⊕ (Int × Bool)):=fun j=>wz C a i af j (fun y=>some (.inl y)) (fun r=>some (.inr r))
noncomputable def AH (C:ae) (a i j:Int) (af:List V) {β:Type} (kn:(Int × Int × (List V))→Option β) (kr:(Int × Int × Bool × (List V))→Option β):Option β:=
 (Loop (AG C a j af) i).bind (un fun (jV:Int) (abT:Bool)=>
  (Loop (wA C a jV af) j).bind (un fun (nC:Int) (ahe:Bool)=>
   bif decide ((jV:Int)>nC) then
    kr (jV,nC,decide ((jV:Int)>nC),af)
   else
    bif (decide (0≤nC))&&(decide (nC<(af.length:Int))) then
    (af[(nC:Int).toNat]?).bind fun qk=>
    bif (decide (0≤jV))&&(decide (jV<(af.length:Int))) then
     (af[(jV:Int).toNat]?).bind fun Kv=>
     bif (decide (0≤jV))&&(decide (jV<(af.length:Int))) then
     (af[(jV:Int).toNat]?).bind fun x35=>
     bif (decide (0≤nC))&&(decide (nC<((af.set ((jV:Int).toNat) (.agg [.int .i64 ((qk.cell 0).toInt),.int .i64 ((qk.cell 1).toInt),.int .i64 ((qk.cell 2).toInt)])).length:Int))) then
      ((af.set ((jV:Int).toNat) (.agg [.int .i64 ((qk.cell 0).toInt),.int .i64 ((qk.cell 1).toInt),.int .i64 ((qk.cell 2).toInt)]))[(nC:Int).toNat]?).bind fun x36=>
      kn (IntKind.wrap .i64 (jV+1),IntKind.wrap .i64 (nC-1),(af.set ((jV:Int).toNat) (.agg [.int .i64 ((qk.cell 0).toInt),.int .i64 ((qk.cell 1).toInt),.int .i64 ((qk.cell 2).toInt)])).set ((nC:Int).toNat) (.agg [.int .i64 ((Kv.cell 0).toInt),.int .i64 ((Kv.cell 1).toInt),.int .i64 ((Kv.cell 2).toInt)]))
     else none
     else none
    else none
    else none))
noncomputable def wB (C:ae) (a:Int):(Int × Int × (List V))→Option ((Int × Int × (List V)) ⊕ (Int × Int × Bool × (List V))):=un fun i=>un fun j af=>AH C a i j af (fun y=>some (.inl y)) (fun r=>some (.inr r))
noncomputable def Tv (C:ae):ct:=fun β n ds k=>
 bif Nat.beq n 49 then bB Jy [false,true,false,false] [[1,0,3,0,4]] (@AD C) ds k else
 bif Nat.beq n 81 then bB Jz [false,false,true,false] [[1,2,0,0,4]] (@wx C) ds k else
 bif Nat.beq n 209 then bB JA [false,true,false,false] [[1,0,3,0,4]] (@AF C) ds k else
 bif Nat.beq n 241 then bB JB [false,false,true,false] [[1,2,0,0,4]] (@wz C) ds k else
 bif Nat.beq n 210 then bB JC [false,true,true,true] [[1,0,0,0,0]] (@AH C) ds k else
 none
abbrev AI (C:ae) (b:cm):Prop:=cp Tryd.prog av C (Tv C) 181 (cI Tryd.prog (av.aR 181)) (av.sin 181).aP.length b
theorem aek (C:ae):AI C (.loop (ao [1,1,1,0,0,0] oK)):=
 bE Jy [false,true,false,false] [[1,0,3,0,4]] (@AD C) (by kernel_rfl) (aY (bs:=[]) (by kernel_rfl) aw) (fun ds=>by kernel_rfl) (fun i x=>by kernel_rfl) (fun i x β k=>by kernel_rfl) (fun β ds k=>by kernel_rfl)
theorem ael (C:ae):AI C (.loop (ao [1,1,1,1,0,0,0] oK)):=
 bE Jz [false,false,true,false] [[1,2,0,0,4]] (@wx C) (by kernel_rfl) (aY (bs:=[]) (by kernel_rfl) aw) (fun ds=>by kernel_rfl) (fun i x=>by kernel_rfl) (fun i x β k=>by kernel_rfl) (fun β ds k=>by kernel_rfl)
theorem aem (C:ae):AI C (.loop (ao [1,1,1,1,1,1,1,1,1,0,0,0,0,0,0,0] oK)):=
 bE JA [false,true,false,false] [[1,0,3,0,4]] (@AF C) (by kernel_rfl) (aY (bs:=[]) (by kernel_rfl) aw) (fun ds=>by kernel_rfl) (fun i x=>by kernel_rfl) (fun i x β k=>by kernel_rfl) (fun β ds k=>by kernel_rfl)
theorem aen (C:ae):AI C (.loop (ao [1,1,1,1,1,1,1,1,1,0,0,0,0,1,0,0,0] oK)):=
 bE JB [false,false,true,false] [[1,2,0,0,4]] (@wz C) (by kernel_rfl) (aY (bs:=[]) (by kernel_rfl) aw) (fun ds=>by kernel_rfl) (fun i x=>by kernel_rfl) (fun i x β k=>by kernel_rfl) (fun β ds k=>by kernel_rfl)
theorem aeo (C:ae):AI C (.loop (ao [1,1,1,1,1,1,1,1,1,0,0,0] oK)):=
 bE JC [false,true,true,true] [[1,0,0,0,0]] (@AH C) (by kernel_rfl) (aY (bs:=[.loop (ao [1,1,1,1,1,1,1,1,1,0,0,0,0,0,0,0] oK),.loop (ao [1,1,1,1,1,1,1,1,1,0,0,0,0,1,0,0,0] oK)]) (by kernel_rfl) (bn (aem C) (bn (aen C) aw))) (fun ds=>by kernel_rfl) (fun i x=>by kernel_rfl) (fun i x β k=>by kernel_rfl) (fun β ds k=>by kernel_rfl)
noncomputable def Tw (C:ae) (a b' pivot:Int) (af:List V):Option (List V):=
 bif (decide (0≤pivot))&&(decide (pivot<(af.length:Int))) then
  (af[(pivot:Int).toNat]?).bind fun x1=>
  bif (decide (0≤a))&&(decide (a<(af.length:Int))) then
  (af[(a:Int).toNat]?).bind fun x2=>
  bif (decide (0≤a))&&(decide (a<(af.length:Int))) then
   (af[(a:Int).toNat]?).bind fun x3=>
   bif (decide (0≤pivot))&&(decide (pivot<((af.set ((a:Int).toNat) (.agg [.int .i64 ((x1.cell 0).toInt),.int .i64 ((x1.cell 1).toInt),.int .i64 ((x1.cell 2).toInt)])).length:Int))) then
   ((af.set ((a:Int).toNat) (.agg [.int .i64 ((x1.cell 0).toInt),.int .i64 ((x1.cell 1).toInt),.int .i64 ((x1.cell 2).toInt)]))[(pivot:Int).toNat]?).bind fun x4=>
   (Loop (AE C a (IntKind.wrap .i64 (b'-1)) ((af.set ((a:Int).toNat) (.agg [.int .i64 ((x1.cell 0).toInt),.int .i64 ((x1.cell 1).toInt),.int .i64 ((x1.cell 2).toInt)])).set ((pivot:Int).toNat) (.agg [.int .i64 ((x2.cell 0).toInt),.int .i64 ((x2.cell 1).toInt),.int .i64 ((x2.cell 2).toInt)]))) (IntKind.wrap .i64 (a+1))).bind (un fun (eI:Int) (tD:Bool)=>
    (Loop (wy C a eI ((af.set ((a:Int).toNat) (.agg [.int .i64 ((x1.cell 0).toInt),.int .i64 ((x1.cell 1).toInt),.int .i64 ((x1.cell 2).toInt)])).set ((pivot:Int).toNat) (.agg [.int .i64 ((x2.cell 0).toInt),.int .i64 ((x2.cell 1).toInt),.int .i64 ((x2.cell 2).toInt)]))) (IntKind.wrap .i64 (b'-1))).bind (un fun (dL:Int) (Ec:Bool)=>
     bif decide ((eI:Int)>dL) then
      bif (decide (0≤a))&&(decide (a<(((af.set ((a:Int).toNat) (.agg [.int .i64 ((x1.cell 0).toInt),.int .i64 ((x1.cell 1).toInt),.int .i64 ((x1.cell 2).toInt)])).set ((pivot:Int).toNat) (.agg [.int .i64 ((x2.cell 0).toInt),.int .i64 ((x2.cell 1).toInt),.int .i64 ((x2.cell 2).toInt)])).length:Int))) then
      (((af.set ((a:Int).toNat) (.agg [.int .i64 ((x1.cell 0).toInt),.int .i64 ((x1.cell 1).toInt),.int .i64 ((x1.cell 2).toInt)])).set ((pivot:Int).toNat) (.agg [.int .i64 ((x2.cell 0).toInt),.int .i64 ((x2.cell 1).toInt),.int .i64 ((x2.cell 2).toInt)]))[(a:Int).toNat]?).bind fun eE=>
      bif (decide (0≤dL))&&(decide (dL<(((af.set ((a:Int).toNat) (.agg [.int .i64 ((x1.cell 0).toInt),.int .i64 ((x1.cell 1).toInt),.int .i64 ((x1.cell 2).toInt)])).set ((pivot:Int).toNat) (.agg [.int .i64 ((x2.cell 0).toInt),.int .i64 ((x2.cell 1).toInt),.int .i64 ((x2.cell 2).toInt)])).length:Int))) then
       (((af.set ((a:Int).toNat) (.agg [.int .i64 ((x1.cell 0).toInt),.int .i64 ((x1.cell 1).toInt),.int .i64 ((x1.cell 2).toInt)])).set ((pivot:Int).toNat) (.agg [.int .i64 ((x2.cell 0).toInt),.int .i64 ((x2.cell 1).toInt),.int .i64 ((x2.cell 2).toInt)]))[(dL:Int).toNat]?).bind fun fW=>
       bif (decide (0≤dL))&&(decide (dL<(((af.set ((a:Int).toNat) (.agg [.int .i64 ((x1.cell 0).toInt),.int .i64 ((x1.cell 1).toInt),.int .i64 ((x1.cell 2).toInt)])).set ((pivot:Int).toNat) (.agg [.int .i64 ((x2.cell 0).toInt),.int .i64 ((x2.cell 1).toInt),.int .i64 ((x2.cell 2).toInt)])).length:Int))) then
       (((af.set ((a:Int).toNat) (.agg [.int .i64 ((x1.cell 0).toInt),.int .i64 ((x1.cell 1).toInt),.int .i64 ((x1.cell 2).toInt)])).set ((pivot:Int).toNat) (.agg [.int .i64 ((x2.cell 0).toInt),.int .i64 ((x2.cell 1).toInt),.int .i64 ((x2.cell 2).toInt)]))[(dL:Int).toNat]?).bind fun oI=>
       bif (decide (0≤a))&&(decide (a<((((af.set ((a:Int).toNat) (.agg [.int .i64 ((x1.cell 0).toInt),.int .i64 ((x1.cell 1).toInt),.int .i64 ((x1.cell 2).toInt)])).set ((pivot:Int).toNat) (.agg [.int .i64 ((x2.cell 0).toInt),.int .i64 ((x2.cell 1).toInt),.int .i64 ((x2.cell 2).toInt)])).set ((dL:Int).toNat) (.agg [.int .i64 ((eE.cell 0).toInt),.int .i64 ((eE.cell 1).toInt),.int .i64 ((eE.cell 2).toInt)])).length:Int))) then
        ((((af.set ((a:Int).toNat) (.agg [.int .i64 ((x1.cell 0).toInt),.int .i64 ((x1.cell 1).toInt),.int .i64 ((x1.cell 2).toInt)])).set ((pivot:Int).toNat) (.agg [.int .i64 ((x2.cell 0).toInt),.int .i64 ((x2.cell 1).toInt),.int .i64 ((x2.cell 2).toInt)])).set ((dL:Int).toNat) (.agg [.int .i64 ((eE.cell 0).toInt),.int .i64 ((eE.cell 1).toInt),.int .i64 ((eE.cell 2).toInt)]))[(a:Int).toNat]?).bind fun Af=>
        some [.int .i64 dL,.bool true,.list an ((((af.set ((a:Int).toNat) (.agg [.int .i64 ((x1.cell 0).toInt),.int .i64 ((x1.cell 1).toInt),.int .i64 ((x1.cell 2).toInt)])).set ((pivot:Int).toNat) (.agg [.int .i64 ((x2.cell 0).toInt),.int .i64 ((x2.cell 1).toInt),.int .i64 ((x2.cell 2).toInt)])).set ((dL:Int).toNat) (.agg [.int .i64 ((eE.cell 0).toInt),.int .i64 ((eE.cell 1).toInt),.int .i64 ((eE.cell 2).toInt)])).set ((a:Int).toNat) (.agg [.int .i64 ((fW.cell 0).toInt),.int .i64 ((fW.cell 1).toInt),.int .i64 ((fW.cell 2).toInt)]))]
       else none
       else none
      else none
      else none
     else
      bif (decide (0≤dL))&&(decide (dL<(((af.set ((a:Int).toNat) (.agg [.int .i64 ((x1.cell 0).toInt),.int .i64 ((x1.cell 1).toInt),.int .i64 ((x1.cell 2).toInt)])).set ((pivot:Int).toNat) (.agg [.int .i64 ((x2.cell 0).toInt),.int .i64 ((x2.cell 1).toInt),.int .i64 ((x2.cell 2).toInt)])).length:Int))) then
      (((af.set ((a:Int).toNat) (.agg [.int .i64 ((x1.cell 0).toInt),.int .i64 ((x1.cell 1).toInt),.int .i64 ((x1.cell 2).toInt)])).set ((pivot:Int).toNat) (.agg [.int .i64 ((x2.cell 0).toInt),.int .i64 ((x2.cell 1).toInt),.int .i64 ((x2.cell 2).toInt)]))[(dL:Int).toNat]?).bind fun kG=>
      bif (decide (0≤eI))&&(decide (eI<(((af.set ((a:Int).toNat) (.agg [.int .i64 ((x1.cell 0).toInt),.int .i64 ((x1.cell 1).toInt),.int .i64 ((x1.cell 2).toInt)])).set ((pivot:Int).toNat) (.agg [.int .i64 ((x2.cell 0).toInt),.int .i64 ((x2.cell 1).toInt),.int .i64 ((x2.cell 2).toInt)])).length:Int))) then
       (((af.set ((a:Int).toNat) (.agg [.int .i64 ((x1.cell 0).toInt),.int .i64 ((x1.cell 1).toInt),.int .i64 ((x1.cell 2).toInt)])).set ((pivot:Int).toNat) (.agg [.int .i64 ((x2.cell 0).toInt),.int .i64 ((x2.cell 1).toInt),.int .i64 ((x2.cell 2).toInt)]))[(eI:Int).toNat]?).bind fun qc=>
       bif (decide (0≤eI))&&(decide (eI<(((af.set ((a:Int).toNat) (.agg [.int .i64 ((x1.cell 0).toInt),.int .i64 ((x1.cell 1).toInt),.int .i64 ((x1.cell 2).toInt)])).set ((pivot:Int).toNat) (.agg [.int .i64 ((x2.cell 0).toInt),.int .i64 ((x2.cell 1).toInt),.int .i64 ((x2.cell 2).toInt)])).length:Int))) then
       (((af.set ((a:Int).toNat) (.agg [.int .i64 ((x1.cell 0).toInt),.int .i64 ((x1.cell 1).toInt),.int .i64 ((x1.cell 2).toInt)])).set ((pivot:Int).toNat) (.agg [.int .i64 ((x2.cell 0).toInt),.int .i64 ((x2.cell 1).toInt),.int .i64 ((x2.cell 2).toInt)]))[(eI:Int).toNat]?).bind fun tM=>
       bif (decide (0≤dL))&&(decide (dL<((((af.set ((a:Int).toNat) (.agg [.int .i64 ((x1.cell 0).toInt),.int .i64 ((x1.cell 1).toInt),.int .i64 ((x1.cell 2).toInt)])).set ((pivot:Int).toNat) (.agg [.int .i64 ((x2.cell 0).toInt),.int .i64 ((x2.cell 1).toInt),.int .i64 ((x2.cell 2).toInt)])).set ((eI:Int).toNat) (.agg [.int .i64 ((kG.cell 0).toInt),.int .i64 ((kG.cell 1).toInt),.int .i64 ((kG.cell 2).toInt)])).length:Int))) then
        ((((af.set ((a:Int).toNat) (.agg [.int .i64 ((x1.cell 0).toInt),.int .i64 ((x1.cell 1).toInt),.int .i64 ((x1.cell 2).toInt)])).set ((pivot:Int).toNat) (.agg [.int .i64 ((x2.cell 0).toInt),.int .i64 ((x2.cell 1).toInt),.int .i64 ((x2.cell 2).toInt)])).set ((eI:Int).toNat) (.agg [.int .i64 ((kG.cell 0).toInt),.int .i64 ((kG.cell 1).toInt),.int .i64 ((kG.cell 2).toInt)]))[(dL:Int).toNat]?).bind fun x22=>
        (Loop (wB C a) (IntKind.wrap .i64 (eI+1),IntKind.wrap .i64 (dL-1),(((af.set ((a:Int).toNat) (.agg [.int .i64 ((x1.cell 0).toInt),.int .i64 ((x1.cell 1).toInt),.int .i64 ((x1.cell 2).toInt)])).set ((pivot:Int).toNat) (.agg [.int .i64 ((x2.cell 0).toInt),.int .i64 ((x2.cell 1).toInt),.int .i64 ((x2.cell 2).toInt)])).set ((eI:Int).toNat) (.agg [.int .i64 ((kG.cell 0).toInt),.int .i64 ((kG.cell 1).toInt),.int .i64 ((kG.cell 2).toInt)])).set ((dL:Int).toNat) (.agg [.int .i64 ((qc.cell 0).toInt),.int .i64 ((qc.cell 1).toInt),.int .i64 ((qc.cell 2).toInt)]))).bind (un fun (ahf:Int)=>un fun (oL:Int)=>un fun (ahg:Bool) (iZ:List V)=>
         bif (decide (0≤a))&&(decide (a<(iZ.length:Int))) then
         (iZ[(a:Int).toNat]?).bind fun lH=>
         bif (decide (0≤oL))&&(decide (oL<(iZ.length:Int))) then
          (iZ[(oL:Int).toNat]?).bind fun tU=>
          bif (decide (0≤oL))&&(decide (oL<(iZ.length:Int))) then
          (iZ[(oL:Int).toNat]?).bind fun x43=>
          bif (decide (0≤a))&&(decide (a<((iZ.set ((oL:Int).toNat) (.agg [.int .i64 ((lH.cell 0).toInt),.int .i64 ((lH.cell 1).toInt),.int .i64 ((lH.cell 2).toInt)])).length:Int))) then
           ((iZ.set ((oL:Int).toNat) (.agg [.int .i64 ((lH.cell 0).toInt),.int .i64 ((lH.cell 1).toInt),.int .i64 ((lH.cell 2).toInt)]))[(a:Int).toNat]?).bind fun x44=>
           some [.int .i64 oL,.bool false,.list an ((iZ.set ((oL:Int).toNat) (.agg [.int .i64 ((lH.cell 0).toInt),.int .i64 ((lH.cell 1).toInt),.int .i64 ((lH.cell 2).toInt)])).set ((a:Int).toNat) (.agg [.int .i64 ((tU.cell 0).toInt),.int .i64 ((tU.cell 1).toInt),.int .i64 ((tU.cell 2).toInt)]))]
          else none
          else none
         else none
         else none)
       else none
       else none
      else none
      else none))
   else none
  else none
  else none
 else none
theorem aep {a b' pivot:Int} {af:List V} {r:Option (List V)} (h:Tw CC a b' pivot af=r):CC np [.int .i64 a,.int .i64 b',.int .i64 pivot,.list an af]=r:=
 bp (key:=181) (L:=Tv CC) (bs:=[.loop (ao [1,1,1,0,0,0] oK),.loop (ao [1,1,1,1,0,0,0] oK),.loop (ao [1,1,1,1,1,1,1,1,1,0,0,0] oK)]) (by kernel_rfl) (bn (aek CC) (bn (ael CC) (bn (aeo CC) aw))) (Eq.trans (by kernel_rfl) h)
noncomputable abbrev wC:Code:=cB Tryd.prog (av.aR 182)
noncomputable def AJ (C:ae) (a j:Int) (af:List V) (i:Int) {β:Type} (kn:Int→Option β) (kr:(Int × Bool)→Option β):Option β:=
 bif decide ((i:Int)≤j) then
  bif (decide (0≤a))&&(decide (a<(af.length:Int))) then
  (af[(a:Int).toNat]?).bind fun x5=>
  bif (decide (0≤i))&&(decide (i<(af.length:Int))) then
   (af[(i:Int).toNat]?).bind fun x6=>
   (C aZ [.int .i64 ((x5.cell 0).toInt),.int .i64 ((x5.cell 1).toInt),.int .i64 ((x5.cell 2).toInt),.int .i64 ((x6.cell 0).toInt),.int .i64 ((x6.cell 1).toInt),.int .i64 ((x6.cell 2).toInt)]).bind fun r7=>
   bif !(decide ((((V.nth r7 0).toInt):Int)<0)) then
   kn (IntKind.wrap .i64 (i+1))
   else
   kr (i,!(decide ((((V.nth r7 0).toInt):Int)<0)))
  else none
  else none
 else
  kr (i,false)
noncomputable def AK (C:ae) (a j:Int) (af:List V):(Int)→Option ((Int) ⊕ (Int × Bool)):=fun i=>AJ C a j af i (fun y=>some (.inl y)) (fun r=>some (.inr r))
noncomputable def wD (C:ae) (a i:Int) (af:List V) (j:Int) {β:Type} (kn:Int→Option β) (kr:(Int × Bool)→Option β):Option β:=
 bif decide ((i:Int)≤j) then
  bif (decide (0≤a))&&(decide (a<(af.length:Int))) then
  (af[(a:Int).toNat]?).bind fun iA=>
  bif (decide (0≤j))&&(decide (j<(af.length:Int))) then
   (af[(j:Int).toNat]?).bind fun fv=>
   (C aZ [.int .i64 ((iA.cell 0).toInt),.int .i64 ((iA.cell 1).toInt),.int .i64 ((iA.cell 2).toInt),.int .i64 ((fv.cell 0).toInt),.int .i64 ((fv.cell 1).toInt),.int .i64 ((fv.cell 2).toInt)]).bind fun iW=>
   bif decide ((((V.nth iW 0).toInt):Int)<0) then
   kn (IntKind.wrap .i64 (j-1))
   else
   kr (j,decide ((((V.nth iW 0).toInt):Int)<0))
  else none
  else none
 else
  kr (j,false)
noncomputable def wE (C:ae) (a i:Int) (af:List V):(Int)→Option ((Int) ⊕ (Int × Bool)):=fun j=>wD C a i af j (fun y=>some (.inl y)) (fun r=>some (.inr r))
noncomputable def AL (C:ae) (a i j:Int) (af:List V) {β:Type} (kn:(Int × Int × (List V))→Option β) (kr:(Int × Int × Bool × (List V))→Option β):Option β:=
 (Loop (AK C a j af) i).bind (un fun (eI:Int) (tD:Bool)=>
  (Loop (wE C a eI af) j).bind (un fun (dL:Int) (Ec:Bool)=>
   bif decide ((eI:Int)>dL) then
    kr (eI,dL,decide ((eI:Int)>dL),af)
   else
    bif (decide (0≤dL))&&(decide (dL<(af.length:Int))) then
    (af[(dL:Int).toNat]?).bind fun eE=>
    bif (decide (0≤eI))&&(decide (eI<(af.length:Int))) then
     (af[(eI:Int).toNat]?).bind fun fW=>
     bif (decide (0≤eI))&&(decide (eI<(af.length:Int))) then
     (af[(eI:Int).toNat]?).bind fun oI=>
     bif (decide (0≤dL))&&(decide (dL<((af.set ((eI:Int).toNat) (.agg [.int .i64 ((eE.cell 0).toInt),.int .i64 ((eE.cell 1).toInt),.int .i64 ((eE.cell 2).toInt)])).length:Int))) then
      ((af.set ((eI:Int).toNat) (.agg [.int .i64 ((eE.cell 0).toInt),.int .i64 ((eE.cell 1).toInt),.int .i64 ((eE.cell 2).toInt)]))[(dL:Int).toNat]?).bind fun Af=>
      kn (IntKind.wrap .i64 (eI+1),IntKind.wrap .i64 (dL-1),(af.set ((eI:Int).toNat) (.agg [.int .i64 ((eE.cell 0).toInt),.int .i64 ((eE.cell 1).toInt),.int .i64 ((eE.cell 2).toInt)])).set ((dL:Int).toNat) (.agg [.int .i64 ((fW.cell 0).toInt),.int .i64 ((fW.cell 1).toInt),.int .i64 ((fW.cell 2).toInt)]))
     else none
     else none
    else none
    else none))
noncomputable def wF (C:ae) (a:Int):(Int × Int × (List V))→Option ((Int × Int × (List V)) ⊕ (Int × Int × Bool × (List V))):=un fun i=>un fun j af=>AL C a i j af (fun y=>some (.inl y)) (fun r=>some (.inr r))
noncomputable def Tx (C:ae):ct:=fun β n ds k=>
 bif Nat.beq n 49 then bB JD [false,true,false,false] [[1,0,3,0,4]] (@AJ C) ds k else
 bif Nat.beq n 81 then bB JE [false,false,true,false] [[1,2,0,0,4]] (@wD C) ds k else
 bif Nat.beq n 50 then bB JF [false,true,true,true] [[1,0,0,0,0]] (@AL C) ds k else
 none
abbrev Kw (C:ae) (b:cm):Prop:=cp Tryd.prog av C (Tx C) 182 (cI Tryd.prog (av.aR 182)) (av.sin 182).aP.length b
theorem aeq (C:ae):Kw C (.loop (ao [1,1,1,0,0,0,0,0,0,0] wC)):=
 bE JD [false,true,false,false] [[1,0,3,0,4]] (@AJ C) (by kernel_rfl) (aY (bs:=[]) (by kernel_rfl) aw) (fun ds=>by kernel_rfl) (fun i x=>by kernel_rfl) (fun i x β k=>by kernel_rfl) (fun β ds k=>by kernel_rfl)
theorem aer (C:ae):Kw C (.loop (ao [1,1,1,0,0,0,0,1,0,0,0] wC)):=
 bE JE [false,false,true,false] [[1,2,0,0,4]] (@wD C) (by kernel_rfl) (aY (bs:=[]) (by kernel_rfl) aw) (fun ds=>by kernel_rfl) (fun i x=>by kernel_rfl) (fun i x β k=>by kernel_rfl) (fun β ds k=>by kernel_rfl)
theorem aes (C:ae):Kw C (.loop (ao [1,1,1,0,0,0] wC)):=
 bE JF [false,true,true,true] [[1,0,0,0,0]] (@AL C) (by kernel_rfl) (aY (bs:=[.loop (ao [1,1,1,0,0,0,0,0,0,0] wC),.loop (ao [1,1,1,0,0,0,0,1,0,0,0] wC)]) (by kernel_rfl) (bn (aeq C) (bn (aer C) aw))) (fun ds=>by kernel_rfl) (fun i x=>by kernel_rfl) (fun i x β k=>by kernel_rfl) (fun β ds k=>by kernel_rfl)
noncomputable def Tz (C:ae) (a b' pivot:Int) (af:List V):Option (List V):=
 bif (decide (0≤pivot))&&(decide (pivot<(af.length:Int))) then
  (af[(pivot:Int).toNat]?).bind fun x1=>
  bif (decide (0≤a))&&(decide (a<(af.length:Int))) then
  (af[(a:Int).toNat]?).bind fun x2=>
  bif (decide (0≤a))&&(decide (a<(af.length:Int))) then
   (af[(a:Int).toNat]?).bind fun x3=>
   bif (decide (0≤pivot))&&(decide (pivot<((af.set ((a:Int).toNat) (.agg [.int .i64 ((x1.cell 0).toInt),.int .i64 ((x1.cell 1).toInt),.int .i64 ((x1.cell 2).toInt)])).length:Int))) then
   ((af.set ((a:Int).toNat) (.agg [.int .i64 ((x1.cell 0).toInt),.int .i64 ((x1.cell 1).toInt),.int .i64 ((x1.cell 2).toInt)]))[(pivot:Int).toNat]?).bind fun x4=>
   (Loop (wF C a) (IntKind.wrap .i64 (a+1),IntKind.wrap .i64 (b'-1),(af.set ((a:Int).toNat) (.agg [.int .i64 ((x1.cell 0).toInt),.int .i64 ((x1.cell 1).toInt),.int .i64 ((x1.cell 2).toInt)])).set ((pivot:Int).toNat) (.agg [.int .i64 ((x2.cell 0).toInt),.int .i64 ((x2.cell 1).toInt),.int .i64 ((x2.cell 2).toInt)]))).bind (un fun (aet:Int)=>un fun (ahh:Int)=>un fun (ahi:Bool) (aeu:List V)=>
    some [.int .i64 aet,.list an aeu])
   else none
  else none
  else none
 else none
theorem aev {a b' pivot:Int} {af:List V} {r:Option (List V)} (h:Tz CC a b' pivot af=r):CC vB [.int .i64 a,.int .i64 b',.int .i64 pivot,.list an af]=r:=
 bp (key:=182) (L:=Tx CC) (bs:=[.loop (ao [1,1,1,0,0,0] wC)]) (by kernel_rfl) (bn (aes CC) aw) (Eq.trans (by kernel_rfl) h)
noncomputable abbrev mD:Code:=cB Tryd.prog (av.aR 180)
noncomputable def AN (C:ae) (a b' j:Int) (af:List V) (i:Int) {β:Type} (kn:Int→Option β) (kr:(Int × Bool)→Option β):Option β:=
 bif decide ((i:Int)<b') then
  bif (decide (0≤i))&&(decide (i<(af.length:Int))) then
  (af[(i:Int).toNat]?).bind fun x1=>
  bif (decide (0≤(IntKind.wrap .i64 (i-1))))&&(decide ((IntKind.wrap .i64 (i-1))<(af.length:Int))) then
   (af[(IntKind.wrap .i64 (i-1):Int).toNat]?).bind fun x2=>
   (C aZ [.int .i64 ((x1.cell 0).toInt),.int .i64 ((x1.cell 1).toInt),.int .i64 ((x1.cell 2).toInt),.int .i64 ((x2.cell 0).toInt),.int .i64 ((x2.cell 1).toInt),.int .i64 ((x2.cell 2).toInt)]).bind fun r3=>
   bif !(decide ((((V.nth r3 0).toInt):Int)<0)) then
   kn (IntKind.wrap .i64 (i+1))
   else
   kr (i,!(decide ((((V.nth r3 0).toInt):Int)<0)))
  else none
  else none
 else
  kr (i,false)
noncomputable def AO (C:ae) (a b' j:Int) (af:List V):(Int)→Option ((Int) ⊕ (Int × Bool)):=fun i=>AN C a b' j af i (fun y=>some (.inl y)) (fun r=>some (.inr r))
noncomputable def AP (C:ae) (a b' i j j':Int) (af:List V) {β:Type} (kn:(Int × (List V))→Option β) (kr:(Int × (List V))→Option β):Option β:=
 bif decide ((j':Int)≥1) then
  bif (decide (0≤j'))&&(decide (j'<(af.length:Int))) then
  (af[(j':Int).toNat]?).bind fun iA=>
  bif (decide (0≤(IntKind.wrap .i64 (j'-1))))&&(decide ((IntKind.wrap .i64 (j'-1))<(af.length:Int))) then
   (af[(IntKind.wrap .i64 (j'-1):Int).toNat]?).bind fun fv=>
   (C aZ [.int .i64 ((iA.cell 0).toInt),.int .i64 ((iA.cell 1).toInt),.int .i64 ((iA.cell 2).toInt),.int .i64 ((fv.cell 0).toInt),.int .i64 ((fv.cell 1).toInt),.int .i64 ((fv.cell 2).toInt)]).bind fun iW=>
   bif !(decide ((((V.nth iW 0).toInt):Int)<0)) then
   kr (j',af)
   else
   bif (decide (0≤(IntKind.wrap .i64 (j'-1))))&&(decide ((IntKind.wrap .i64 (j'-1))<(af.length:Int))) then
    (af[(IntKind.wrap .i64 (j'-1):Int).toNat]?).bind fun iY=>
    bif (decide (0≤j'))&&(decide (j'<(af.length:Int))) then
    (af[(j':Int).toNat]?).bind fun nA=>
    bif (decide (0≤j'))&&(decide (j'<(af.length:Int))) then
     (af[(j':Int).toNat]?).bind fun eE=>
     bif (decide (0≤(IntKind.wrap .i64 (j'-1))))&&(decide ((IntKind.wrap .i64 (j'-1))<((af.set ((j':Int).toNat) (.agg [.int .i64 ((iY.cell 0).toInt),.int .i64 ((iY.cell 1).toInt),.int .i64 ((iY.cell 2).toInt)])).length:Int))) then
     ((af.set ((j':Int).toNat) (.agg [.int .i64 ((iY.cell 0).toInt),.int .i64 ((iY.cell 1).toInt),.int .i64 ((iY.cell 2).toInt)]))[(IntKind.wrap .i64 (j'-1):Int).toNat]?).bind fun fW=>
     kn (IntKind.wrap .i64 (j'-1),(af.set ((j':Int).toNat) (.agg [.int .i64 ((iY.cell 0).toInt),.int .i64 ((iY.cell 1).toInt),.int .i64 ((iY.cell 2).toInt)])).set ((IntKind.wrap .i64 (j'-1):Int).toNat) (.agg [.int .i64 ((nA.cell 0).toInt),.int .i64 ((nA.cell 1).toInt),.int .i64 ((nA.cell 2).toInt)]))
     else none
    else none
    else none
   else none
  else none
  else none
 else
  kr (j',af)
noncomputable def AQ (C:ae) (a b' i j:Int):(Int × (List V))→Option ((Int × (List V)) ⊕ (Int × (List V))):=un fun j' af=>AP C a b' i j j' af (fun y=>some (.inl y)) (fun r=>some (.inr r))
noncomputable def Fi (C:ae) (a b' i j:Int) (t65:Bool) (af:List V) {β:Type} (kr:(List V)→Option β):Option β:=
 bif t65 then
  (Loop (AQ C a b' i j) (IntKind.wrap .i64 (i-1),af)).bind (un fun (ahj:Int) (aew:List V)=>
   kr aew)
 else
  kr af
noncomputable def AR (C:ae) (a b' i j j':Int) (af:List V) {β:Type} (kn:(Int × (List V))→Option β) (kr:(Int × (List V))→Option β):Option β:=
 bif decide ((j':Int)<b') then
  bif (decide (0≤j'))&&(decide (j'<(af.length:Int))) then
  (af[(j':Int).toNat]?).bind fun qc=>
  bif (decide (0≤(IntKind.wrap .i64 (j'-1))))&&(decide ((IntKind.wrap .i64 (j'-1))<(af.length:Int))) then
   (af[(IntKind.wrap .i64 (j'-1):Int).toNat]?).bind fun tM=>
   (C aZ [.int .i64 ((qc.cell 0).toInt),.int .i64 ((qc.cell 1).toInt),.int .i64 ((qc.cell 2).toInt),.int .i64 ((tM.cell 0).toInt),.int .i64 ((tM.cell 1).toInt),.int .i64 ((tM.cell 2).toInt)]).bind fun iC=>
   bif !(decide ((((V.nth iC 0).toInt):Int)<0)) then
   kr (j',af)
   else
   bif (decide (0≤(IntKind.wrap .i64 (j'-1))))&&(decide ((IntKind.wrap .i64 (j'-1))<(af.length:Int))) then
    (af[(IntKind.wrap .i64 (j'-1):Int).toNat]?).bind fun kF=>
    bif (decide (0≤j'))&&(decide (j'<(af.length:Int))) then
    (af[(j':Int).toNat]?).bind fun qj=>
    bif (decide (0≤j'))&&(decide (j'<(af.length:Int))) then
     (af[(j':Int).toNat]?).bind fun x25=>
     bif (decide (0≤(IntKind.wrap .i64 (j'-1))))&&(decide ((IntKind.wrap .i64 (j'-1))<((af.set ((j':Int).toNat) (.agg [.int .i64 ((kF.cell 0).toInt),.int .i64 ((kF.cell 1).toInt),.int .i64 ((kF.cell 2).toInt)])).length:Int))) then
     ((af.set ((j':Int).toNat) (.agg [.int .i64 ((kF.cell 0).toInt),.int .i64 ((kF.cell 1).toInt),.int .i64 ((kF.cell 2).toInt)]))[(IntKind.wrap .i64 (j'-1):Int).toNat]?).bind fun x26=>
     kn (IntKind.wrap .i64 (j'+1),(af.set ((j':Int).toNat) (.agg [.int .i64 ((kF.cell 0).toInt),.int .i64 ((kF.cell 1).toInt),.int .i64 ((kF.cell 2).toInt)])).set ((IntKind.wrap .i64 (j'-1):Int).toNat) (.agg [.int .i64 ((qj.cell 0).toInt),.int .i64 ((qj.cell 1).toInt),.int .i64 ((qj.cell 2).toInt)]))
     else none
    else none
    else none
   else none
  else none
  else none
 else
  kr (j',af)
noncomputable def AS (C:ae) (a b' i j:Int):(Int × (List V))→Option ((Int × (List V)) ⊕ (Int × (List V))):=un fun j' af=>AR C a b' i j j' af (fun y=>some (.inl y)) (fun r=>some (.inr r))
noncomputable def AT (C:ae) (a b' i j:Int) (af:List V) {β:Type} (kn:(Int × Int × (List V))→Option β) (kr:((Bool × (List V)) ⊕ (Int × Int × Bool × (List V)))→Option β):Option β:=
 bif decide ((j:Int)<5) then
  (Loop (AO C a b' j af) i).bind (un fun (eS:Int) (mn:Bool)=>
   bif (eS:Int)==b' then
   kr (.inl (true,af))
   else
   bif decide (((IntKind.wrap .i64 (b'-a)):Int)<50) then
    kr (.inl (false,af))
   else
    bif (decide (0≤(IntKind.wrap .i64 (eS-1))))&&(decide ((IntKind.wrap .i64 (eS-1))<(af.length:Int))) then
    (af[(IntKind.wrap .i64 (eS-1):Int).toNat]?).bind fun x6=>
    bif (decide (0≤eS))&&(decide (eS<(af.length:Int))) then
     (af[(eS:Int).toNat]?).bind fun x7=>
     bif (decide (0≤eS))&&(decide (eS<(af.length:Int))) then
     (af[(eS:Int).toNat]?).bind fun x8=>
     bif (decide (0≤(IntKind.wrap .i64 (eS-1))))&&(decide ((IntKind.wrap .i64 (eS-1))<((af.set ((eS:Int).toNat) (.agg [.int .i64 ((x6.cell 0).toInt),.int .i64 ((x6.cell 1).toInt),.int .i64 ((x6.cell 2).toInt)])).length:Int))) then
      ((af.set ((eS:Int).toNat) (.agg [.int .i64 ((x6.cell 0).toInt),.int .i64 ((x6.cell 1).toInt),.int .i64 ((x6.cell 2).toInt)]))[(IntKind.wrap .i64 (eS-1):Int).toNat]?).bind fun x9=>
      Fi C a b' eS j (decide (((IntKind.wrap .i64 (eS-a)):Int)≥2)) ((af.set ((eS:Int).toNat) (.agg [.int .i64 ((x6.cell 0).toInt),.int .i64 ((x6.cell 1).toInt),.int .i64 ((x6.cell 2).toInt)])).set ((IntKind.wrap .i64 (eS-1):Int).toNat) (.agg [.int .i64 ((x7.cell 0).toInt),.int .i64 ((x7.cell 1).toInt),.int .i64 ((x7.cell 2).toInt)])) (fun (TA:List V)=>
       bif decide (((IntKind.wrap .i64 (b'-eS)):Int)≥2) then
       (Loop (AS C a b' eS j) (IntKind.wrap .i64 (eS+1),TA)).bind (un fun (ahk:Int) (aex:List V)=>
        kn (eS,IntKind.wrap .i64 (j+1),aex))
       else
       kn (eS,IntKind.wrap .i64 (j+1),TA))
     else none
     else none
    else none
    else none)
 else
  kr (.inr (i,j,decide ((j:Int)<5),af))
noncomputable def rG (C:ae) (a b':Int):(Int × Int × (List V))→Option ((Int × Int × (List V)) ⊕ ((Bool × (List V)) ⊕ (Int × Int × Bool × (List V)))):=un fun i=>un fun j af=>AT C a b' i j af (fun y=>some (.inl y)) (fun r=>some (.inr r))
noncomputable def TB (C:ae):ct:=fun β n ds k=>
 bif Nat.beq n 81 then bB Jt [false,false,true,false,false] [[1,2,0,4,0,5]] (@AN C) ds k else
 bif Nat.beq n 225 then bB Ju [false,false,false,false,true,true] [[1,2,3,4,0,0]] (@AP C) ds k else
 bif Nat.beq n 1055 then mi Jv [[1,2,3,4,0]] (@Fi C) ds k else
 bif Nat.beq n 321 then bB Jw [false,false,false,false,true,true] [[1,2,3,4,0,0]] (@AR C) ds k else
 bif Nat.beq n 49 then bB Jx [false,false,true,true,true] [[0,0],[1,2,0,0,0,0]] (@AT C) ds k else
 none
abbrev AU (C:ae) (b:cm):Prop:=cp Tryd.prog av C (TB C) 180 (cI Tryd.prog (av.aR 180)) (av.sin 180).aP.length b
theorem aey (C:ae):AU C (.loop (ao [1,1,0,1,0,0,1,0,0,0,0,0] mD)):=
 bE Jt [false,false,true,false,false] [[1,2,0,4,0,5]] (@AN C) (by kernel_rfl) (aY (bs:=[]) (by kernel_rfl) aw) (fun ds=>by kernel_rfl) (fun i x=>by kernel_rfl) (fun i x β k=>by kernel_rfl) (fun β ds k=>by kernel_rfl)
theorem aez (C:ae):AU C (.loop (ao [1,1,0,1,0,0,1,0,0,1,1,1,1,0,1,0,1,0,0] mD)):=
 bE Ju [false,false,false,false,true,true] [[1,2,3,4,0,0]] (@AP C) (by kernel_rfl) (aY (bs:=[]) (by kernel_rfl) aw) (fun ds=>by kernel_rfl) (fun i x=>by kernel_rfl) (fun i x β k=>by kernel_rfl) (fun β ds k=>by kernel_rfl)
theorem aeA (C:ae):AU C (.cond 65 (ao [1,1,0,1,0,0,1,0,0,1,1,1,1,0,1,0] mD) (ao [1,1,0,1,0,0,1,0,0,1,1,1,1,0,1,1] mD)):=
 nk Jv [[1,2,3,4,0]] (@Fi C) (by kernel_rfl) (aY (bs:=[.loop (ao [1,1,0,1,0,0,1,0,0,1,1,1,1,0,1,0,1,0,0] mD)]) (by kernel_rfl) (bn (aez C) aw)) (aY (bs:=[]) (by kernel_rfl) aw) (fun ds=>by kernel_rfl) (fun i β k=>by kernel_rfl) (fun β ds k=>by kernel_rfl)
theorem aeB (C:ae):AU C (.loop (ao [1,1,0,1,0,0,1,0,0,1,1,1,1,1,1,0,1,0,0] mD)):=
 bE Jw [false,false,false,false,true,true] [[1,2,3,4,0,0]] (@AR C) (by kernel_rfl) (aY (bs:=[]) (by kernel_rfl) aw) (fun ds=>by kernel_rfl) (fun i x=>by kernel_rfl) (fun i x β k=>by kernel_rfl) (fun β ds k=>by kernel_rfl)
theorem aeC (C:ae):AU C (.loop (ao [1,1,0,1,0,0] mD)):=
 bE Jx [false,false,true,true,true] [[0,0],[1,2,0,0,0,0]] (@AT C) (by kernel_rfl) (aY (bs:=[.loop (ao [1,1,0,1,0,0,1,0,0,0,0,0] mD),.cond 65 (ao [1,1,0,1,0,0,1,0,0,1,1,1,1,0,1,0] mD) (ao [1,1,0,1,0,0,1,0,0,1,1,1,1,0,1,1] mD),.loop (ao [1,1,0,1,0,0,1,0,0,1,1,1,1,1,1,0,1,0,0] mD)]) (by kernel_rfl) (bn (aey C) (bn (aeA C) (bn (aeB C) aw)))) (fun ds=>by kernel_rfl) (fun i x=>by kernel_rfl) (fun i x β k=>by kernel_rfl) (fun β ds k=>by kernel_rfl)
noncomputable def TC (C:ae) (a b':Int) (af:List V):Option (List V):=
 (Loop (rG C a b') (IntKind.wrap .i64 (a+1),0,af)).bind (c8 (un fun (aeD:Bool) (aeE:List V)=>
  some [.bool aeD,.list an aeE]) (un fun (ahl:Int)=>un fun (ahm:Int)=>un fun (ahn:Bool) (aeF:List V)=>
  some [.bool false,.list an aeF]))
theorem aeG {a b':Int} {af:List V} {r:Option (List V)} (h:TC CC a b' af=r):CC Ib [.int .i64 a,.int .i64 b',.list an af]=r:=
 bp (key:=180) (L:=TB CC) (bs:=[.loop (ao [1,1,0,1,0,0] mD)]) (by kernel_rfl) (bn (aeC CC) aw) (Eq.trans (by kernel_rfl) h)
end Go.AM
set_option maxRecDepth 100000
set_option maxHeartbeats 4000000
namespace Go.AM.SL
open Go.AM Go.Proofs Go.Sort
theorem wG (p:Ed→Bool) (d:Array Ed) (j i:Nat):scanUp p d j i=if i≤j then (if p d[i]! =true then scanUp p d j (i+1) else i) else i:=by
 conv=>lhs;rw[scanUp]
 by_cases h:i≤j
 ·rw[if_pos h];simp only[h,decide_true,Bool.true_and]
 ·rw[if_neg h,if_neg (by simp[h])]
theorem Kx (p:Ed→Bool) (d:Array Ed) (i j:Nat):scanDown p d i (j+1)=if i≤j+1 then (if p d[j+1]! =true then scanDown p d i j else j+1) else j+1:=by
 conv=>lhs;rw[scanDown]
 by_cases h:i≤j+1
 ·rw[if_pos h];simp only[h,decide_true,Bool.true_and]
 ·rw[if_neg h,if_neg (by simp[h])]
theorem Fj (d:Array Ed) (b i:Nat):scanSorted ar d b i=if i<b then (if bD d[i]! d[i-1]! <0 then i else scanSorted ar d b (i+1)) else i:=by
 conv=>lhs;rw[scanSorted]
 by_cases h:i<b
 ·rw[if_pos h];simp only[h,decide_true,Bool.true_and,qi]
  by_cases h2:bD d[i]! d[i-1]! <0
  ·rw[if_neg (not_not_intro h2),if_pos h2]
  ·rw[if_pos h2,if_neg h2]
 ·rw[if_neg h,if_neg (by simp[h])]
theorem TD (j:Nat) (d:Array Ed):shiftDown ar (j+1) d=if bD d[j+1]! d[j]! <0 then shiftDown ar j (swp d (j+1) j) else d:=by
 conv=>lhs;rw[shiftDown]
 simp only[qi]
 by_cases h2:bD d[j+1]! d[j]! <0
 ·rw[if_neg (not_not_intro h2),if_pos h2]
 ·rw[if_pos h2,if_neg h2]
theorem Fk (b j:Nat) (d:Array Ed):shiftUp ar b j d=if j<b then (if bD d[j]! d[j-1]! <0 then shiftUp ar b (j+1) (swp d j (j-1)) else d) else d:=by
 conv=>lhs;rw[shiftUp]
 simp only[qi]
 by_cases h:j<b
 ·rw[if_pos h,if_pos h]
  by_cases h2:bD d[j]! d[j-1]! <0
  ·rw[if_neg (not_not_intro h2),if_pos h2]
  ·rw[if_pos h2,if_neg h2]
 ·rw[if_neg h,if_neg h]
theorem aeH {a:Nat}: ∀(n i j:Nat) (d:Array Ed),j+1-i≤n→(partLoop ar a i j d).2.size=d.size∧(partLoop ar a i j d).1≤j:=by
 intro n
 induction n with
 | zero=>
  intro i j d hn
  have h1:=scanUp_ge (fun x=>ar x d[a]!) d j i
  have h2:=scanDown_le (fun x=> !ar x d[a]!) d (scanUp (fun x=>ar x d[a]!) d j i) j
  rw[partLoop_eq,if_pos (by omega)]
  exact ⟨rfl,h2⟩
 | succ n ih=>
  intro i j d hn
  rw[partLoop_eq]
  have h1:=scanUp_ge (fun x=>ar x d[a]!) d j i
  have h2:=scanDown_le (fun x=> !ar x d[a]!) d (scanUp (fun x=>ar x d[a]!) d j i) j
  split
  ·exact ⟨rfl,h2⟩
  ·obtain ⟨h3,h4⟩:=ih (scanUp (fun x=>ar x d[a]!) d j i+1) (scanDown (fun x=> !ar x d[a]!) d (scanUp (fun x=>ar x d[a]!) d j i) j-1) (swp d (scanUp (fun x=>ar x d[a]!) d j i) (scanDown (fun x=> !ar x d[a]!) d (scanUp (fun x=>ar x d[a]!) d j i) j)) (by omega)
   exact ⟨by rw[h3,size_swp],by omega⟩
theorem jD {β:Type} {d:Array Ed} {i:Nat} {x y:Option β} (h:i<d.size):(bif (decide (0≤(i:Int)))&&(decide ((i:Int)<((eA d).length:Int))) then x else y)=x:=by
 rw[fx,dx,aE,if_pos (by omega),aE,if_pos (by omega)]
theorem Fl {β:Type} {d:Array Ed} {i k:Nat} {v:V} {x y:Option β} (h:i<d.size):(bif (decide (0≤(i:Int)))&&(decide ((i:Int)<(((eA d).set k v).length:Int))) then x else y)=x:=by
 rw[List.length_set,fx,dx,aE,if_pos (by omega),aE,if_pos (by omega)]
theorem jE {β:Type} {d:Array Ed} {i:Nat} {f:V→Option β} (h:i<d.size):((eA d)[(i:Int).toNat]?).bind f=f (d[i]!).enc:=by
 rw[Int.toNat_natCast,fA h];rfl
theorem Fm {β:Type} {d:Array Ed} {i k:Nat} {v:V} {x:Option β} (h:i<d.size):(((eA d).set k v)[(i:Int).toNat]?).bind (fun _=>x)=x:=by
 rw[Int.toNat_natCast,List.getElem?_eq_getElem (by rw[List.length_set,fx];exact h)];rfl
theorem ql {β:Type} {d:Array Ed} {i:Nat} {f:V→Option β} (h:i<d.size):((eA d)[i]?).bind f=f (d[i]!).enc:=by
 rw[fA h];rfl
theorem Ky {β:Type} {d:Array Ed} {i k:Nat} {v:V} {x:Option β} (h:i<d.size):(((eA d).set k v)[i]?).bind (fun _=>x)=x:=by
 rw[List.getElem?_eq_getElem (by rw[List.length_set,fx];exact h)];rfl
theorem aeI {a j:Nat} {d:Array Ed} (ha:a<d.size) (hj:j<d.size) (hs:d.size<1152921504606846976): ∀(n i:Nat),j+1-i=n→i≤d.size→
  ∃t,Loop (AE CC a j (eA d)) (i:Int)=some (((scanUp (fun x=>ar x d[a]!) d j i:Nat):Int),t):=by
 intro n
 induction n with
 | zero=>
  intro i hn hi
  rw[wG,if_neg (by omega)]
  exact ⟨false,bO (by simp (disch:=omega) only[AE,AD,aE,if_neg])⟩
 | succ n ih=>
  intro i hn hi
  obtain ⟨t,h⟩:=ih (i+1) (by omega) (by omega)
  rw[wG,if_pos (by omega)]
  have e:AE CC a j (eA d) (i:Int)=if bD d[i]! d[a]! <0 then some (.inl ((i+1:Nat):Int)) else some (.inr ((i:Int),decide (bD d[i]! d[a]! <0))):=by
   simp (disch:=omega) only[AE,AD,aE,dx,gj,if_pos,if_neg,wrap64,dp,fB,Int.toNat_natCast,Option.bind_some,fx,fA,Ed.cX,Ed.cY,Ed.cZ,Ed.re,fy,gL,Array.size_setIfInBounds,fV,V.ca,V.toInt_int,cond_true,cond_false]
  simp only[rF]
  by_cases h2:bD d[i]! d[a]! <0
  ·rw[if_pos h2] at e
   rw[if_pos h2]
   exact ⟨t,(dA e).trans h⟩
  ·rw[if_neg h2] at e
   rw[if_neg h2]
   exact ⟨_,bO e⟩
theorem TE {a j:Nat} {d:Array Ed} (ha:a<d.size) (hj:j<d.size) (hs:d.size<1152921504606846976): ∀(n i:Nat),j+1-i=n→i≤d.size→
  ∃t,Loop (AG CC a j (eA d)) (i:Int)=some (((scanUp (fun x=>ar x d[a]!) d j i:Nat):Int),t):=by
 intro n
 induction n with
 | zero=>
  intro i hn hi
  rw[wG,if_neg (by omega)]
  exact ⟨false,bO (by simp (disch:=omega) only[AG,AF,aE,if_neg])⟩
 | succ n ih=>
  intro i hn hi
  obtain ⟨t,h⟩:=ih (i+1) (by omega) (by omega)
  rw[wG,if_pos (by omega)]
  have e:AG CC a j (eA d) (i:Int)=if bD d[i]! d[a]! <0 then some (.inl ((i+1:Nat):Int)) else some (.inr ((i:Int),decide (bD d[i]! d[a]! <0))):=by
   simp (disch:=omega) only[AG,AF,aE,dx,gj,if_pos,if_neg,wrap64,dp,fB,Int.toNat_natCast,Option.bind_some,fx,fA,Ed.cX,Ed.cY,Ed.cZ,Ed.re,fy,gL,Array.size_setIfInBounds,fV,V.ca,V.toInt_int,cond_true,cond_false]
  simp only[rF]
  by_cases h2:bD d[i]! d[a]! <0
  ·rw[if_pos h2] at e
   rw[if_pos h2]
   exact ⟨t,(dA e).trans h⟩
  ·rw[if_neg h2] at e
   rw[if_neg h2]
   exact ⟨_,bO e⟩
theorem TF {a i:Nat} {d:Array Ed} (ha:a<d.size) (hi:1≤i) (hs:d.size<1152921504606846976): ∀(j:Nat),j<d.size→
  ∃t,Loop (wy CC a i (eA d)) (j:Int)=some (((scanDown (fun x=> !ar x d[a]!) d i j:Nat):Int),t)
 | 0,hj=>⟨false,bO (by simp (disch:=omega) only[wy,wx,aE,if_neg];rfl)⟩
 | j+1,hj=>by
  obtain ⟨t,h⟩:=TF ha hi hs j (by omega)
  rw[Kx]
  by_cases h1:i≤j+1
  ·rw[if_pos h1]
   have e:wy CC a i (eA d) ((j+1:Nat):Int)=if bD d[j+1]! d[a]! <0 then some (.inr (((j+1:Nat):Int),!decide (bD d[j+1]! d[a]! <0))) else some (.inl (j:Int)):=by
    simp (disch:=omega) only[wy,wx,aE,dx,gj,if_pos,if_neg,wrap64,dp,fB,Int.toNat_natCast,Option.bind_some,fx,fA,Ed.cX,Ed.cY,Ed.cZ,Ed.re,fy,gL,Array.size_setIfInBounds,fV,V.ca,V.toInt_int,cond_true,cond_false,tN]
   simp only[qi]
   by_cases h2:bD d[j+1]! d[a]! <0
   ·rw[if_pos h2] at e
    rw[if_neg (not_not_intro h2)]
    exact ⟨_,bO e⟩
   ·rw[if_neg h2] at e
    rw[if_pos h2]
    exact ⟨t,(dA e).trans h⟩
  ·rw[if_neg h1]
   exact ⟨false,bO (by simp (disch:=omega) only[wy,wx,aE,if_neg])⟩
theorem Kz {a i:Nat} {d:Array Ed} (ha:a<d.size) (hi:1≤i) (hs:d.size<1152921504606846976): ∀(j:Nat),j<d.size→
  ∃t,Loop (wA CC a i (eA d)) (j:Int)=some (((scanDown (fun x=> !ar x d[a]!) d i j:Nat):Int),t)
 | 0,hj=>⟨false,bO (by simp (disch:=omega) only[wA,wz,aE,if_neg];rfl)⟩
 | j+1,hj=>by
  obtain ⟨t,h⟩:=Kz ha hi hs j (by omega)
  rw[Kx]
  by_cases h1:i≤j+1
  ·rw[if_pos h1]
   have e:wA CC a i (eA d) ((j+1:Nat):Int)=if bD d[j+1]! d[a]! <0 then some (.inr (((j+1:Nat):Int),!decide (bD d[j+1]! d[a]! <0))) else some (.inl (j:Int)):=by
    simp (disch:=omega) only[wA,wz,aE,dx,gj,if_pos,if_neg,wrap64,dp,fB,Int.toNat_natCast,Option.bind_some,fx,fA,Ed.cX,Ed.cY,Ed.cZ,Ed.re,fy,gL,Array.size_setIfInBounds,fV,V.ca,V.toInt_int,cond_true,cond_false,tN]
   simp only[qi]
   by_cases h2:bD d[j+1]! d[a]! <0
   ·rw[if_pos h2] at e
    rw[if_neg (not_not_intro h2)]
    exact ⟨_,bO e⟩
   ·rw[if_neg h2] at e
    rw[if_pos h2]
    exact ⟨t,(dA e).trans h⟩
  ·rw[if_neg h1]
   exact ⟨false,bO (by simp (disch:=omega) only[wA,wz,aE,if_neg])⟩
theorem TG {a j:Nat} {d:Array Ed} (ha:a<d.size) (hj:j<d.size) (hs:d.size<1152921504606846976): ∀(n i:Nat),j+1-i=n→i≤d.size→
  ∃t,Loop (AK CC a j (eA d)) (i:Int)=some (((scanUp (fun x=> !ar d[a]! x) d j i:Nat):Int),t):=by
 intro n
 induction n with
 | zero=>
  intro i hn hi
  rw[wG,if_neg (by omega)]
  exact ⟨false,bO (by simp (disch:=omega) only[AK,AJ,aE,if_neg])⟩
 | succ n ih=>
  intro i hn hi
  obtain ⟨t,h⟩:=ih (i+1) (by omega) (by omega)
  rw[wG,if_pos (by omega)]
  have e:AK CC a j (eA d) (i:Int)=if bD d[a]! d[i]! <0 then some (.inr ((i:Int),!decide (bD d[a]! d[i]! <0))) else some (.inl ((i+1:Nat):Int)):=by
   simp (disch:=omega) only[AK,AJ,aE,dx,gj,if_pos,if_neg,wrap64,dp,fB,Int.toNat_natCast,Option.bind_some,fx,fA,Ed.cX,Ed.cY,Ed.cZ,Ed.re,fy,gL,Array.size_setIfInBounds,fV,V.ca,V.toInt_int,cond_true,cond_false]
  simp only[qi]
  by_cases h2:bD d[a]! d[i]! <0
  ·rw[if_pos h2] at e
   rw[if_neg (not_not_intro h2)]
   exact ⟨_,bO e⟩
  ·rw[if_neg h2] at e
   rw[if_pos h2]
   exact ⟨t,(dA e).trans h⟩
theorem KA {a i:Nat} {d:Array Ed} (ha:a<d.size) (hi:1≤i) (hs:d.size<1152921504606846976): ∀(j:Nat),j<d.size→
  ∃t,Loop (wE CC a i (eA d)) (j:Int)=some (((scanDown (fun x=>ar d[a]! x) d i j:Nat):Int),t)
 | 0,hj=>⟨false,bO (by simp (disch:=omega) only[wE,wD,aE,if_neg];rfl)⟩
 | j+1,hj=>by
  obtain ⟨t,h⟩:=KA ha hi hs j (by omega)
  rw[Kx]
  by_cases h1:i≤j+1
  ·rw[if_pos h1]
   have e:wE CC a i (eA d) ((j+1:Nat):Int)=if bD d[a]! d[j+1]! <0 then some (.inl (j:Int)) else some (.inr (((j+1:Nat):Int),decide (bD d[a]! d[j+1]! <0))):=by
    simp (disch:=omega) only[wE,wD,aE,dx,gj,if_pos,if_neg,wrap64,dp,fB,Int.toNat_natCast,Option.bind_some,fx,fA,Ed.cX,Ed.cY,Ed.cZ,Ed.re,fy,gL,Array.size_setIfInBounds,fV,V.ca,V.toInt_int,cond_true,cond_false,tN]
   simp only[rF]
   by_cases h2:bD d[a]! d[j+1]! <0
   ·rw[if_pos h2] at e
    rw[if_pos h2]
    exact ⟨t,(dA e).trans h⟩
   ·rw[if_neg h2] at e
    rw[if_neg h2]
    exact ⟨_,bO e⟩
  ·rw[if_neg h1]
   exact ⟨false,bO (by simp (disch:=omega) only[wE,wD,aE,if_neg])⟩
theorem aeJ {a:Nat}: ∀(n i j:Nat) (d:Array Ed),j+1-i≤n→1≤i→i≤d.size→a<d.size→j<d.size→d.size<1152921504606846976→
  ∃x z,Loop (wB CC a) ((i:Int),(j:Int),eA d)=some (x,(((partLoop ar a i j d).1:Nat):Int),z,eA (partLoop ar a i j d).2):=by
 intro n
 induction n with
 | zero=>
  intro i j d hn h1 h2 ha hj hs
  obtain ⟨t3,e3⟩:=TE (a:=a) ha hj hs _ i rfl h2
  have g1:=scanUp_ge (fun x=>ar x d[a]!) d j i
  have g2:=scanDown_le (fun x=> !ar x d[a]!) d (scanUp (fun x=>ar x d[a]!) d j i) j
  obtain ⟨t4,e4⟩:=Kz (a:=a) (i:=scanUp (fun x=>ar x d[a]!) d j i) ha (by omega) hs j hj
  rw[partLoop_eq,if_pos (by omega)]
  refine ⟨((scanUp (fun x=>ar x d[a]!) d j i:Nat):Int),true,bO ?_⟩
  simp only[wB,AH,un]
  rw[e3]
  simp only[Option.bind_some,un]
  rw[e4]
  simp (disch:=omega) only[Option.bind_some,un,my,cond_true]
 | succ n ih=>
  intro i j d hn h1 h2 ha hj hs
  obtain ⟨t3,e3⟩:=TE (a:=a) ha hj hs _ i rfl h2
  have g1:=scanUp_ge (fun x=>ar x d[a]!) d j i
  have g2:=scanDown_le (fun x=> !ar x d[a]!) d (scanUp (fun x=>ar x d[a]!) d j i) j
  obtain ⟨t4,e4⟩:=Kz (a:=a) (i:=scanUp (fun x=>ar x d[a]!) d j i) ha (by omega) hs j hj
  rw[partLoop_eq]
  have f:wB CC a ((i:Int),(j:Int),eA d)=wB CC a ((i:Int),(j:Int),eA d):=rfl
  conv at f=>rhs;simp only[wB,AH,un];rw[e3];simp only[Option.bind_some,un];rw[e4];simp only[Option.bind_some,un]
  generalize ma:scanUp (fun x=>ar x d[a]!) d j i=i2 at*
  generalize bS:scanDown (fun x=> !ar x d[a]!) d i2 j=j2 at*
  by_cases h:i2>j2
  ·rw[if_pos h]
   refine ⟨(i2:Int),true,bO (f.trans ?_)⟩
   simp (disch:=omega) only[Option.bind_some,my,cond_true]
  ·rw[if_neg h]
   obtain ⟨x,z,e⟩:=ih (i2+1) (j2-1) (swp d i2 j2) (by omega) (by omega) (by rw[size_swp];omega) (by rw[size_swp];omega) (by rw[size_swp];omega) (by rw[size_swp];omega)
   refine ⟨x,z,(dA (f.trans ?_)).trans e⟩
   simp (disch:=omega) only[aE,dx,gj,if_pos,if_neg,wrap64,dp,fB,Int.toNat_natCast,Option.bind_some,fx,fA,Ed.cX,Ed.cY,Ed.cZ,Ed.re,fy,gL,Array.size_setIfInBounds,fV,V.ca,V.toInt_int,cond_true,cond_false,jB]
   rfl
theorem aeK (d:Array Ed) (a b pivot:Nat):partition ar d a b pivot=
  if scanUp (fun x=>ar x (swp d a pivot)[a]!) (swp d a pivot) (b-1) (a+1)>scanDown (fun x=> !ar x (swp d a pivot)[a]!) (swp d a pivot) (scanUp (fun x=>ar x (swp d a pivot)[a]!) (swp d a pivot) (b-1) (a+1)) (b-1) then
   (scanDown (fun x=> !ar x (swp d a pivot)[a]!) (swp d a pivot) (scanUp (fun x=>ar x (swp d a pivot)[a]!) (swp d a pivot) (b-1) (a+1)) (b-1),true,swp (swp d a pivot) (scanDown (fun x=> !ar x (swp d a pivot)[a]!) (swp d a pivot) (scanUp (fun x=>ar x (swp d a pivot)[a]!) (swp d a pivot) (b-1) (a+1)) (b-1)) a)
  else
   ((partLoop ar a (scanUp (fun x=>ar x (swp d a pivot)[a]!) (swp d a pivot) (b-1) (a+1)+1) (scanDown (fun x=> !ar x (swp d a pivot)[a]!) (swp d a pivot) (scanUp (fun x=>ar x (swp d a pivot)[a]!) (swp d a pivot) (b-1) (a+1)) (b-1)-1) (swp (swp d a pivot) (scanUp (fun x=>ar x (swp d a pivot)[a]!) (swp d a pivot) (b-1) (a+1)) (scanDown (fun x=> !ar x (swp d a pivot)[a]!) (swp d a pivot) (scanUp (fun x=>ar x (swp d a pivot)[a]!) (swp d a pivot) (b-1) (a+1)) (b-1)))).1,false,
    swp (partLoop ar a (scanUp (fun x=>ar x (swp d a pivot)[a]!) (swp d a pivot) (b-1) (a+1)+1) (scanDown (fun x=> !ar x (swp d a pivot)[a]!) (swp d a pivot) (scanUp (fun x=>ar x (swp d a pivot)[a]!) (swp d a pivot) (b-1) (a+1)) (b-1)-1) (swp (swp d a pivot) (scanUp (fun x=>ar x (swp d a pivot)[a]!) (swp d a pivot) (b-1) (a+1)) (scanDown (fun x=> !ar x (swp d a pivot)[a]!) (swp d a pivot) (scanUp (fun x=>ar x (swp d a pivot)[a]!) (swp d a pivot) (b-1) (a+1)) (b-1)))).2
    (partLoop ar a (scanUp (fun x=>ar x (swp d a pivot)[a]!) (swp d a pivot) (b-1) (a+1)+1) (scanDown (fun x=> !ar x (swp d a pivot)[a]!) (swp d a pivot) (scanUp (fun x=>ar x (swp d a pivot)[a]!) (swp d a pivot) (b-1) (a+1)) (b-1)-1) (swp (swp d a pivot) (scanUp (fun x=>ar x (swp d a pivot)[a]!) (swp d a pivot) (b-1) (a+1)) (scanDown (fun x=> !ar x (swp d a pivot)[a]!) (swp d a pivot) (scanUp (fun x=>ar x (swp d a pivot)[a]!) (swp d a pivot) (b-1) (a+1)) (b-1)))).1 a):=rfl
theorem wH (d:Array Ed) (i j:Nat):eA ((d.setIfInBounds i d[j]!).setIfInBounds j d[i]!)=eA (swp d i j):=rfl
theorem aeL {a b pivot:Nat} {d:Array Ed} (hp:pivot<b) (fo:a<b) (hb:b≤d.size) (hs:d.size<1152921504606846976):
  CC np [.int .i64 (a:Int),.int .i64 (b:Int),.int .i64 (pivot:Int),.list an (eA d)]=
   some [.int .i64 ((partition ar d a b pivot).1:Int),.bool (partition ar d a b pivot).2.1,.list an (eA (partition ar d a b pivot).2.2)]:=by
 refine aep ?_
 unfold Tw
 have z1:(swp d a pivot).size=d.size:=size_swp ..
 obtain ⟨t1,e1⟩:=aeI (a:=a) (j:=b-1) (d:=swp d a pivot) (by omega) (by omega) (by omega) _ (a+1) rfl (by omega)
 have g1:=scanUp_ge (fun x=>ar x (swp d a pivot)[a]!) (swp d a pivot) (b-1) (a+1)
 have g2:=scanDown_le (fun x=> !ar x (swp d a pivot)[a]!) (swp d a pivot) (scanUp (fun x=>ar x (swp d a pivot)[a]!) (swp d a pivot) (b-1) (a+1)) (b-1)
 obtain ⟨t2,e2⟩:=TF (a:=a) (i:=scanUp (fun x=>ar x (swp d a pivot)[a]!) (swp d a pivot) (b-1) (a+1)) (d:=swp d a pivot) (by omega) (by omega) (by omega) (b-1) (by omega)
 have e0:=aeK d a b pivot
 rw[jD (i:=pivot) (by omega),jE (by omega),jD (i:=a) (by omega),jE (by omega),jD (i:=a) (by omega),jE (by omega),Fl (i:=pivot) (by omega),Fm (by omega)]
 simp only[Ed.cX,Ed.cY,Ed.cZ,Ed.re,Int.toNat_natCast,fy,wH]
 simp (disch:=omega) only[jB,dp,wrap64]
 rw[e1]
 simp only[Option.bind_some,un]
 rw[e2]
 simp only[Option.bind_some,un]
 generalize ma:scanUp (fun x=>ar x (swp d a pivot)[a]!) (swp d a pivot) (b-1) (a+1)=i2 at*
 generalize bS:scanDown (fun x=> !ar x (swp d a pivot)[a]!) (swp d a pivot) i2 (b-1)=j2 at*
 generalize swp d a pivot=d1 at*
 by_cases h:i2>j2
 ·rw[if_pos h] at e0
  rw[e0,aE,if_pos (by omega)]
  rw[jD (i:=a) (by omega)];(first|rw[jE (by omega)]|rw[ql (by omega)]);rw[jD (i:=j2) (by omega)];(first|rw[jE (by omega)]|rw[ql (by omega)]);rw[jD (i:=j2) (by omega)];(first|rw[jE (by omega)]|rw[ql (by omega)]);rw[Fl (i:=a) (by omega)];(first|rw[Fm (by omega)]|rw[Ky (by omega)])
  simp only[Ed.cX,Ed.cY,Ed.cZ,Ed.re,Int.toNat_natCast,fy,wH]
 ·rw[if_neg h] at e0
  rw[e0,aE,if_neg (by omega)]
  have z2:(swp d1 i2 j2).size=d1.size:=size_swp ..
  obtain ⟨x,z,e5⟩:=aeJ (a:=a) _ (i2+1) (j2-1) (swp d1 i2 j2) (Nat.le_refl _) (by omega) (by omega) (by omega) (by omega) (by omega)
  obtain ⟨q1,q2⟩:=aeH (a:=a) _ (i2+1) (j2-1) (swp d1 i2 j2) (Nat.le_refl _)
  rw[jD (i:=j2) (by omega)];(first|rw[jE (by omega)]|rw[ql (by omega)]);rw[jD (i:=i2) (by omega)];(first|rw[jE (by omega)]|rw[ql (by omega)]);rw[jD (i:=i2) (by omega)];(first|rw[jE (by omega)]|rw[ql (by omega)]);rw[Fl (i:=j2) (by omega)];(first|rw[Fm (by omega)]|rw[Ky (by omega)])
  simp only[Ed.cX,Ed.cY,Ed.cZ,Ed.re,Int.toNat_natCast,fy,wH]
  simp (disch:=omega) only[jB,dp,wrap64]
  rw[e5]
  generalize partLoop ar a (i2+1) (j2-1) (swp d1 i2 j2)=r at*
  simp only[Option.bind_some,un]
  rw[jD (i:=a) (by omega)];(first|rw[jE (by omega)]|rw[ql (by omega)]);rw[jD (i:=r.1) (by omega)];(first|rw[jE (by omega)]|rw[ql (by omega)]);rw[jD (i:=r.1) (by omega)];(first|rw[jE (by omega)]|rw[ql (by omega)]);rw[Fl (i:=a) (by omega)];(first|rw[Fm (by omega)]|rw[Ky (by omega)])
  simp only[Ed.cX,Ed.cY,Ed.cZ,Ed.re,Int.toNat_natCast,fy,wH]
theorem aeM {a:Nat}: ∀(n i j:Nat) (d:Array Ed),j+1-i≤n→1≤i→i≤d.size→a<d.size→j<d.size→d.size<1152921504606846976→
  ∃x z,Loop (wF CC a) ((i:Int),(j:Int),eA d)=some ((((partEqLoop ar a i j d).1:Nat):Int),x,z,eA (partEqLoop ar a i j d).2):=by
 intro n
 induction n with
 | zero=>
  intro i j d hn h1 h2 ha hj hs
  obtain ⟨t3,e3⟩:=TG (a:=a) ha hj hs _ i rfl h2
  have g1:=scanUp_ge (fun x=> !ar d[a]! x) d j i
  have g2:=scanDown_le (fun x=>ar d[a]! x) d (scanUp (fun x=> !ar d[a]! x) d j i) j
  obtain ⟨t4,e4⟩:=KA (a:=a) (i:=scanUp (fun x=> !ar d[a]! x) d j i) ha (by omega) hs j hj
  rw[partEqLoop_eq,if_pos (by omega)]
  refine ⟨((scanDown (fun x=>ar d[a]! x) d (scanUp (fun x=> !ar d[a]! x) d j i) j:Nat):Int),true,bO ?_⟩
  simp only[wF,AL,un]
  rw[e3]
  simp only[Option.bind_some,un]
  rw[e4]
  simp (disch:=omega) only[Option.bind_some,un,my,cond_true]
 | succ n ih=>
  intro i j d hn h1 h2 ha hj hs
  obtain ⟨t3,e3⟩:=TG (a:=a) ha hj hs _ i rfl h2
  have g1:=scanUp_ge (fun x=> !ar d[a]! x) d j i
  have g2:=scanDown_le (fun x=>ar d[a]! x) d (scanUp (fun x=> !ar d[a]! x) d j i) j
  obtain ⟨t4,e4⟩:=KA (a:=a) (i:=scanUp (fun x=> !ar d[a]! x) d j i) ha (by omega) hs j hj
  rw[partEqLoop_eq]
  have f:wF CC a ((i:Int),(j:Int),eA d)=wF CC a ((i:Int),(j:Int),eA d):=rfl
  conv at f=>rhs;simp only[wF,AL,un];rw[e3];simp only[Option.bind_some,un];rw[e4];simp only[Option.bind_some,un]
  generalize ma:scanUp (fun x=> !ar d[a]! x) d j i=i2 at*
  generalize bS:scanDown (fun x=>ar d[a]! x) d i2 j=j2 at*
  by_cases h:i2>j2
  ·rw[if_pos h]
   refine ⟨(j2:Int),true,bO (f.trans ?_)⟩
   simp (disch:=omega) only[Option.bind_some,my,cond_true]
  ·rw[if_neg h]
   obtain ⟨x,z,e⟩:=ih (i2+1) (j2-1) (swp d i2 j2) (by omega) (by omega) (by rw[size_swp];omega) (by rw[size_swp];omega) (by rw[size_swp];omega) (by rw[size_swp];omega)
   refine ⟨x,z,(dA (f.trans ?_)).trans e⟩
   simp (disch:=omega) only[aE,dx,gj,if_pos,if_neg,wrap64,dp,fB,Int.toNat_natCast,Option.bind_some,fx,fA,Ed.cX,Ed.cY,Ed.cZ,Ed.re,fy,gL,Array.size_setIfInBounds,fV,V.ca,V.toInt_int,cond_true,cond_false,jB]
   rfl
theorem aeN {a b pivot:Nat} {d:Array Ed} (hp:pivot<b) (fo:a<b) (hb:b≤d.size) (hs:d.size<1152921504606846976):
  CC vB [.int .i64 (a:Int),.int .i64 (b:Int),.int .i64 (pivot:Int),.list an (eA d)]=
   some [.int .i64 ((partitionEqual ar d a b pivot).1:Int),.list an (eA (partitionEqual ar d a b pivot).2)]:=by
 refine aev ?_
 unfold Tz
 have z1:(swp d a pivot).size=d.size:=size_swp ..
 obtain ⟨x,z,e⟩:=aeM (a:=a) _ (a+1) (b-1) (swp d a pivot) (Nat.le_refl _) (by omega) (by omega) (by omega) (by omega) (by omega)
 simp (disch:=omega) only[aE,dx,if_pos,fx,fA,Int.toNat_natCast,Option.bind_some,Ed.cX,Ed.cY,Ed.cZ,Ed.re,fy,gL,Array.size_setIfInBounds,jB,dp,wrap64,wH]
 rw[e]
 rfl
theorem aeO {a b j:Nat} {d:Array Ed} (hb:b≤d.size) (hs:d.size<1152921504606846976): ∀(n i:Nat),b-i=n→1≤i→i≤b→
  ∃t,Loop (AO CC a b j (eA d)) (i:Int)=some (((scanSorted ar d b i:Nat):Int),t):=by
 intro n
 induction n with
 | zero=>
  intro i hn h1 hi
  rw[Fj,if_neg (by omega)]
  exact ⟨false,bO (by simp (disch:=omega) only[AO,AN,aE,if_neg])⟩
 | succ n ih=>
  intro i hn h1 hi
  obtain ⟨t,h⟩:=ih (i+1) (by omega) (by omega) (by omega)
  rw[Fj,if_pos (by omega)]
  have e:AO CC a b j (eA d) (i:Int)=if bD d[i]! d[i-1]! <0 then some (.inr ((i:Int),!decide (bD d[i]! d[i-1]! <0))) else some (.inl ((i+1:Nat):Int)):=by
   simp (disch:=omega) only[AO,AN,jB,aE,dx,gj,if_pos,if_neg,wrap64,dp,fB,Int.toNat_natCast,Option.bind_some,fx,fA,Ed.cX,Ed.cY,Ed.cZ,Ed.re,fy,gL,Array.size_setIfInBounds,fV,V.ca,V.toInt_int,cond_true,cond_false]
  by_cases h2:bD d[i]! d[i-1]! <0
  ·rw[if_pos h2] at e⊢
   exact ⟨_,bO e⟩
  ·rw[if_neg h2] at e⊢
   exact ⟨t,(dA e).trans h⟩
theorem TH: ∀(j:Nat) (d:Array Ed),(shiftDown ar j d).size=d.size
 | 0,_=>rfl
 | j+1,d=>by
  rw[TD]
  split
  ·rw[TH j,size_swp]
  ·rfl
theorem aeP {b:Nat}: ∀(n j:Nat) (d:Array Ed),b-j=n→(shiftUp ar b j d).size=d.size:=by
 intro n
 induction n with
 | zero=>intro j d h;rw[Fk,if_neg (by omega)]
 | succ n ih=>
  intro j d h
  rw[Fk,if_pos (by omega)]
  split
  ·rw[ih _ _ (by omega),size_swp]
  ·rfl
theorem TI {a b i k:Nat}: ∀(j:Nat) (d:Array Ed),j<d.size→d.size<1152921504606846976→
  ∃t,Loop (AQ CC a b i k) ((j:Int),eA d)=some (t,eA (shiftDown ar j d))
 | 0,d,hj,hs=>⟨(0:Nat),bO (by
   simp (disch:=omega) only[AQ,AP,un,aE,if_neg]
   rfl)⟩
 | j+1,d,hj,hs=>by
  obtain ⟨t,ih⟩:=TI (a:=a) (b:=b) (i:=i) (k:=k) j (swp d (j+1) j) (by rw[size_swp];omega) (by rw[size_swp];omega)
  rw[TD]
  have e:AQ CC a b i k (((j+1:Nat):Int),eA d)=if bD d[j+1]! d[j]! <0 then some (.inl ((j:Int),eA (swp d (j+1) j))) else some (.inr (((j+1:Nat):Int),eA d)):=by
   simp (disch:=omega) only[AQ,AP,un,aE,dx,gj,if_pos,if_neg,wrap64,dp,fB,Int.toNat_natCast,Option.bind_some,fx,fA,Ed.cX,Ed.cY,Ed.cZ,Ed.re,fy,gL,Array.size_setIfInBounds,fV,V.ca,V.toInt_int,cond_true,cond_false,tN]
   rfl
  by_cases h2:bD d[j+1]! d[j]! <0
  ·rw[if_pos h2] at e⊢
   exact ⟨t,(dA e).trans ih⟩
  ·rw[if_neg h2] at e⊢
   exact ⟨_,bO e⟩
theorem aeQ {a b i k:Nat}: ∀(n j:Nat) (d:Array Ed),b-j=n→1≤j→j≤b→b≤d.size→d.size<1152921504606846976→
  ∃t,Loop (AS CC a b i k) ((j:Int),eA d)=some (t,eA (shiftUp ar b j d)):=by
 intro n
 induction n with
 | zero=>
  intro j d hn h1 hj hb hs
  rw[Fk,if_neg (by omega)]
  exact ⟨(j:Int),bO (by
   simp (disch:=omega) only[AS,AR,un,aE,if_neg])⟩
 | succ n ih=>
  intro j d hn h1 hj hb hs
  obtain ⟨t,h⟩:=ih (j+1) (swp d j (j-1)) (by omega) (by omega) (by omega) (by rw[size_swp];omega) (by rw[size_swp];omega)
  rw[Fk,if_pos (by omega)]
  have e:AS CC a b i k ((j:Int),eA d)=if bD d[j]! d[j-1]! <0 then some (.inl (((j+1:Nat):Int),eA (swp d j (j-1)))) else some (.inr ((j:Int),eA d)):=by
   simp (disch:=omega) only[AS,AR,un,jB,aE,dx,gj,if_pos,if_neg,wrap64,dp,fB,Int.toNat_natCast,Option.bind_some,fx,fA,Ed.cX,Ed.cY,Ed.cZ,Ed.re,fy,gL,Array.size_setIfInBounds,fV,V.ca,V.toInt_int,cond_true,cond_false]
   rfl
  by_cases h2:bD d[j]! d[j-1]! <0
  ·rw[if_pos h2] at e⊢
   exact ⟨t,(dA e).trans h⟩
  ·rw[if_neg h2] at e⊢
   exact ⟨_,bO e⟩
theorem aeR {d:Array Ed} {b:Nat}: ∀(n i:Nat),b-i=n→i≤b→i≤scanSorted ar d b i∧scanSorted ar d b i≤b:=by
 intro n
 induction n with
 | zero=>intro i hn hi;rw[Fj,if_neg (by omega)];omega
 | succ n ih=>
  intro i hn hi
  rw[Fj,if_pos (by omega)]
  obtain ⟨h1,h2⟩:=ih (i+1) (by omega) (by omega)
  split<;>omega
theorem aeS {a b:Nat}: ∀(s i:Nat) (d:Array Ed),s≤5→a<i→i≤b→b≤d.size→d.size<1152921504606846976→
  (Loop (rG CC a b) ((i:Int),((5-s:Nat):Int),eA d)=some (.inl ((partialIns ar a b s i d).2,eA (partialIns ar a b s i d).1)))∨
  (∃x y z,(partialIns ar a b s i d).2=false∧Loop (rG CC a b) ((i:Int),((5-s:Nat):Int),eA d)=some (.inr (x,y,z,eA (partialIns ar a b s i d).1))):=by
 intro s
 induction s with
 | zero=>
  intro i d hs5 hi KB hb hs
  refine .inr ⟨(i:Int),((5:Nat):Int),false,rfl,bO ?_⟩
  simp (disch:=omega) only[rG,AT,un,rC,cond_false]
  rfl
 | succ s ih=>
  intro i d hs5 hi KB hb hs
  obtain ⟨t1,e1⟩:=aeO (a:=a) (j:=5-(s+1)) hb hs _ i rfl (by omega) KB
  obtain ⟨q1,q2⟩:=aeR (d:=d) _ i rfl KB
  rw[partialIns_succ]
  have f:rG CC a b ((i:Int),((5-(s+1):Nat):Int),eA d)=rG CC a b ((i:Int),((5-(s+1):Nat):Int),eA d):=rfl
  conv at f=>rhs;simp only[rG,AT,un];rw[aE,if_pos (by omega),e1];simp only[Option.bind_some,un]
  generalize scanSorted ar d b i=k at*
  by_cases h1:k=b
  ·rw[if_pos h1]
   left
   refine bO (f.trans ?_)
   rw[pG,if_pos (by omega)]
  ·rw[if_neg h1]
   by_cases h2:b-a<50
   ·rw[if_pos h2]
    left
    refine bO (f.trans ?_)
    rw[pG,if_neg (by omega),wrap64 (by omega) (by omega),aE,if_pos (by omega)]
   ·rw[if_neg h2]
    have z1:(swp d k (k-1)).size=d.size:=size_swp ..
    have z2:(fixDown ar a k (swp d k (k-1))).size=d.size:=by
     unfold fixDown
     split
     ·rw[TH,z1]
     ·exact z1
    have z3:(fixUp ar b k (fixDown ar a k (swp d k (k-1)))).size=d.size:=by
     unfold fixUp
     split
     ·rw[aeP _ _ _ rfl,z2]
     ·exact z2
    obtain ⟨t2,e2⟩:=TI (a:=a) (b:=b) (i:=k) (k:=5-(s+1)) (k-1) (swp d k (k-1)) (by omega) (by omega)
    obtain ⟨t4,e4⟩:=aeQ (a:=a) (b:=b) (i:=k) (k:=5-(s+1)) _ (k+1) (fixDown ar a k (swp d k (k-1))) rfl (by omega) (by omega) (by omega) (by omega)
    have e5:rG CC a b ((i:Int),((5-(s+1):Nat):Int),eA d)=some (.inl ((k:Int),((5-s:Nat):Int),eA (fixUp ar b k (fixDown ar a k (swp d k (k-1)))))):=by
     refine f.trans ?_
     rw[pG,if_neg (by omega),wrap64 (by omega) (by omega),aE,if_neg (by omega)]
     simp (disch:=omega) only[aE,dx,if_pos,fx,fA,Int.toNat_natCast,Option.bind_some,Ed.cX,Ed.cY,Ed.cZ,Ed.re,fy,gL,Array.size_setIfInBounds,jB,dp,lE,wrap64,wH,Fi]
     rw[show 5-(s+1)+1=5-s by omega]
     unfold fixDown at e4⊢
     unfold fixUp
     have c1:(((k-a:Nat):Int)≥2)=(k-a≥2):=propext (by omega)
     have c2:(((b-k:Nat):Int)≥2)=(b-k≥2):=propext (by omega)
     simp only[c1,c2]
     by_cases g1:k-a≥2
     ·by_cases g2:b-k≥2
      ·simp only[g1,g2,if_true,e2,Option.bind_some,un] at e4⊢
       rw[e4]
       rfl
      ·simp only[g1,g2,if_true,if_false,e2,Option.bind_some,un]
     ·by_cases g2:b-k≥2
      ·simp only[g1,g2,if_true,if_false] at e4⊢
       rw[e4]
       rfl
      ·exact absurd (show b-k≥2 by omega) g2
    rw[dA e5]
    exact ih k _ (by omega) (by omega) (by omega) (by omega) (by omega)
theorem TJ {a b:Nat} {d:Array Ed} (fo:a<b) (hb:b≤d.size) (hs:d.size<1152921504606846976):
  CC Ib [.int .i64 (a:Int),.int .i64 (b:Int),.list an (eA d)]=
   some [.bool (partialInsertionSort ar d a b).2,.list an (eA (partialInsertionSort ar d a b).1)]:=by
 refine aeG ?_
 unfold TC
 simp (disch:=omega) only[dp,wrap64]
 rcases aeS (a:=a) (b:=b) 5 (a+1) d (Nat.le_refl _) (by omega) (by omega) hb hs with h|⟨x,y,z,h0,h⟩
 ·rw[show ((5-5:Nat):Int)=0 from rfl] at h
  rw[h]
  rfl
 ·rw[show ((5-5:Nat):Int)=0 from rfl] at h
  rw[h]
  unfold partialInsertionSort
  rw[h0]
  rfl
end Go.AM.SL
set_option maxRecDepth 100000
namespace Go.AM
open Go.Proofs
noncomputable abbrev rH:Code:=cB Tryd.prog (av.aR 173)
noncomputable def AV (C:ae) (data:List V) (i j k':Int) (t36:Bool) (gn:Int) {β:Type} (kr:(Int × Int × Int × Int)→Option β):Option β:=
 bif t36 then
  (C yQ [.list an data,.int .i64 i,.int .i64 gn]).bind fun r1=>
  (C yQ [.list an data,.int .i64 j,.int .i64 ((V.nth (r1.drop 1) 0).toInt)]).bind fun r2=>
  (C yQ [.list an data,.int .i64 k',.int .i64 ((V.nth (r2.drop 1) 0).toInt)]).bind fun r3=>
  kr ((V.nth r1 0).toInt,(V.nth r2 0).toInt,(V.nth r3 0).toInt,(V.nth (r3.drop 1) 0).toInt)
 else
  kr (i,j,k',gn)
noncomputable def AW (C:ae) (data:List V) (l i j k':Int) (t34:Bool) (gn:Int) {β:Type} (kr:(Int × Int)→Option β):Option β:=
 bif t34 then
  AV C data i j k' (decide ((l:Int)≥50)) gn (un fun (eS:Int)=>un fun (j_5:Int)=>un fun (k_6:Int) (aeT:Int)=>
   (C DL [.list an data,.int .i64 eS,.int .i64 j_5,.int .i64 k_6,.int .i64 aeT]).bind fun r8=>
   kr ((V.nth r8 0).toInt,(V.nth (r8.drop 1) 0).toInt))
 else
  kr (j,gn)
noncomputable def TK (C:ae):ct:=fun β n ds k=>
 bif Nat.beq n 591 then mi Jo [[1,0,0,0,0]] (@AV C) ds k else
 bif Nat.beq n 559 then mi Jp [[0,0]] (@AW C) ds k else
 none
abbrev TL (C:ae) (b:cm):Prop:=cp Tryd.prog av C (TK C) 173 (cI Tryd.prog (av.aR 173)) (av.sin 173).aP.length b
theorem aeU (C:ae):TL C (.cond 36 (ao [1,1,1,1,1,1,0,1,0,0,1,0] rH) (ao [1,1,1,1,1,1,0,1,0,0,1,1] rH)):=
 nk Jo [[1,0,0,0,0]] (@AV C) (by kernel_rfl) (aY (bs:=[]) (by kernel_rfl) aw) (aY (bs:=[]) (by kernel_rfl) aw) (fun ds=>by kernel_rfl) (fun i β k=>by kernel_rfl) (fun β ds k=>by kernel_rfl)
theorem aeV (C:ae):TL C (.cond 34 (ao [1,1,1,1,1,1,0,1,0] rH) (ao [1,1,1,1,1,1,0,1,1] rH)):=
 nk Jp [[0,0]] (@AW C) (by kernel_rfl) (aY (bs:=[.cond 36 (ao [1,1,1,1,1,1,0,1,0,0,1,0] rH) (ao [1,1,1,1,1,1,0,1,0,0,1,1] rH)]) (by kernel_rfl) (bn (aeU C) aw)) (aY (bs:=[]) (by kernel_rfl) aw) (fun ds=>by kernel_rfl) (fun i β k=>by kernel_rfl) (fun β ds k=>by kernel_rfl)
noncomputable def KC (C:ae) (data:List V) (a b':Int):Option (List V):=
 AW C data (IntKind.wrap .i64 (b'-a)) (IntKind.wrap .i64 (a+(IntKind.wrap .i64 (1*(IntKind.wrap .i64 (Int.tdiv (IntKind.wrap .i64 (b'-a)) 4)))))) (IntKind.wrap .i64 (a+(IntKind.wrap .i64 (2*(IntKind.wrap .i64 (Int.tdiv (IntKind.wrap .i64 (b'-a)) 4)))))) (IntKind.wrap .i64 (a+(IntKind.wrap .i64 (3*(IntKind.wrap .i64 (Int.tdiv (IntKind.wrap .i64 (b'-a)) 4)))))) (decide (((IntKind.wrap .i64 (b'-a)):Int)≥8)) 0 (un fun (KD:Int) (TM:Int)=>
  bif (TM:Int)==0 then
   some [.int .i64 KD,.int .i64 1]
  else
   bif (TM:Int)==12 then
   some [.int .i64 KD,.int .i64 2]
   else
   some [.int .i64 KD,.int .i64 0])
theorem TN {data:List V} {a b':Int} {r:Option (List V)} (h:KC CC data a b'=r):CC DK [.list an data,.int .i64 a,.int .i64 b']=r:=
 bp (key:=173) (L:=TK CC) (bs:=[.cond 34 (ao [1,1,1,1,1,1,0,1,0] rH) (ao [1,1,1,1,1,1,0,1,1] rH)]) (by kernel_rfl) (bn (aeV CC) aw) (Eq.trans (by kernel_rfl) h)
noncomputable def TO (C:ae) (data:List V) (a b' c gn:Int):Option (List V):=
 (C yR [.list an data,.int .i64 a,.int .i64 b',.int .i64 gn]).bind fun r1=>
 (C yR [.list an data,.int .i64 ((V.nth (r1.drop 1) 0).toInt),.int .i64 c,.int .i64 ((V.nth (r1.drop 2) 0).toInt)]).bind fun r2=>
 (C yR [.list an data,.int .i64 ((V.nth r1 0).toInt),.int .i64 ((V.nth r2 0).toInt),.int .i64 ((V.nth (r2.drop 2) 0).toInt)]).bind fun r3=>
 some [.int .i64 ((V.nth (r3.drop 1) 0).toInt),.int .i64 ((V.nth (r3.drop 2) 0).toInt)]
theorem aeW {data:List V} {a b' c gn:Int} {r:Option (List V)} (h:TO CC data a b' c gn=r):CC DL [.list an data,.int .i64 a,.int .i64 b',.int .i64 c,.int .i64 gn]=r:=
 bp (key:=175) (L:=cR) (bs:=[]) (by kernel_rfl) aw (Eq.trans (by kernel_rfl) h)
noncomputable def KE (C:ae) (data:List V) (a b' gn:Int):Option (List V):=
 (idx data b').bind fun x1=>
 (idx data a).bind fun x2=>
 (C aZ [.int .i64 ((x1.cell 0).toInt),.int .i64 ((x1.cell 1).toInt),.int .i64 ((x1.cell 2).toInt),.int .i64 ((x2.cell 0).toInt),.int .i64 ((x2.cell 1).toInt),.int .i64 ((x2.cell 2).toInt)]).bind fun r3=>
 bif decide ((((V.nth r3 0).toInt):Int)<0) then
  some [.int .i64 b',.int .i64 a,.int .i64 (IntKind.wrap .i64 (gn+1))]
 else
  some [.int .i64 a,.int .i64 b',.int .i64 gn]
theorem TP {data:List V} {a b' gn:Int} {r:Option (List V)} (h:KE CC data a b' gn=r):CC yR [.list an data,.int .i64 a,.int .i64 b',.int .i64 gn]=r:=
 bp (key:=176) (L:=cR) (bs:=[]) (by kernel_rfl) aw (Eq.trans (by kernel_rfl) h)
noncomputable def TQ (C:ae) (data:List V) (a gn:Int):Option (List V):=
 (C DL [.list an data,.int .i64 (IntKind.wrap .i64 (a-1)),.int .i64 a,.int .i64 (IntKind.wrap .i64 (a+1)),.int .i64 gn]).bind fun r1=>
 some [.int .i64 ((V.nth r1 0).toInt),.int .i64 ((V.nth (r1.drop 1) 0).toInt)]
theorem aeX {data:List V} {a gn:Int} {r:Option (List V)} (h:TQ CC data a gn=r):CC yQ [.list an data,.int .i64 a,.int .i64 gn]=r:=
 bp (key:=174) (L:=cR) (bs:=[]) (by kernel_rfl) aw (Eq.trans (by kernel_rfl) h)
noncomputable abbrev wI:Code:=cB Tryd.prog (av.aR 172)
noncomputable def Fo (C:ae) (a length wJ ja other:Int) (t45:Bool) (af:List V) (AX:Int) {β:Type} (kr:(Int)→Option β):Option β:=
 bif t45 then
  kr (IntKind.wrap .i64 (other-length))
 else
  kr other
noncomputable def AY (C:ae) (a length wJ ja:Int) (af:List V) (AX:Int) {β:Type} (kn:(Int × (List V) × Int)→Option β) (kr:(Int × Bool × (List V) × Int)→Option β):Option β:=
 bif decide ((ja:Int)≤(IntKind.wrap .i64 ((IntKind.wrap .i64 (a+(IntKind.wrap .i64 (2*(IntKind.wrap .i64 (Int.tdiv length 4))))))+1))) then
  (C DH [.int .u64 AX]).bind fun r2=>
  Fo C a length wJ ja (IntKind.wrap .i64 (IntKind.wrap .u64 ((BitVec.ofInt (IntKind.bits .u64) ((V.nth r2 0).toInt)&&&BitVec.ofInt (IntKind.bits .u64) (IntKind.wrap .u64 (wJ-1))).toNat))) (decide (((IntKind.wrap .i64 (IntKind.wrap .u64 ((BitVec.ofInt (IntKind.bits .u64) ((V.nth r2 0).toInt)&&&BitVec.ofInt (IntKind.bits .u64) (IntKind.wrap .u64 (wJ-1))).toNat))):Int)≥length)) af ((V.nth (r2.drop 1) 0).toInt) (fun (tW:Int)=>
   bif (decide (0≤(IntKind.wrap .i64 (a+tW))))&&(decide ((IntKind.wrap .i64 (a+tW))<(af.length:Int))) then
   (af[(IntKind.wrap .i64 (a+tW):Int).toNat]?).bind fun x4=>
   bif (decide (0≤ja))&&(decide (ja<(af.length:Int))) then
    (af[(ja:Int).toNat]?).bind fun x5=>
    bif (decide (0≤ja))&&(decide (ja<(af.length:Int))) then
    (af[(ja:Int).toNat]?).bind fun x6=>
    bif (decide (0≤(IntKind.wrap .i64 (a+tW))))&&(decide ((IntKind.wrap .i64 (a+tW))<((af.set ((ja:Int).toNat) (.agg [.int .i64 ((x4.cell 0).toInt),.int .i64 ((x4.cell 1).toInt),.int .i64 ((x4.cell 2).toInt)])).length:Int))) then
     ((af.set ((ja:Int).toNat) (.agg [.int .i64 ((x4.cell 0).toInt),.int .i64 ((x4.cell 1).toInt),.int .i64 ((x4.cell 2).toInt)]))[(IntKind.wrap .i64 (a+tW):Int).toNat]?).bind fun x7=>
     kn (IntKind.wrap .i64 (ja+1),(af.set ((ja:Int).toNat) (.agg [.int .i64 ((x4.cell 0).toInt),.int .i64 ((x4.cell 1).toInt),.int .i64 ((x4.cell 2).toInt)])).set ((IntKind.wrap .i64 (a+tW):Int).toNat) (.agg [.int .i64 ((x5.cell 0).toInt),.int .i64 ((x5.cell 1).toInt),.int .i64 ((x5.cell 2).toInt)]),(V.nth (r2.drop 1) 0).toInt)
    else none
    else none
   else none
   else none)
 else
  kr (ja,decide ((ja:Int)≤(IntKind.wrap .i64 ((IntKind.wrap .i64 (a+(IntKind.wrap .i64 (2*(IntKind.wrap .i64 (Int.tdiv length 4))))))+1))),af,AX)
noncomputable def Fp (C:ae) (a length wJ:Int):(Int × (List V) × Int)→Option ((Int × (List V) × Int) ⊕ (Int × Bool × (List V) × Int)):=un fun ja=>un fun af AX=>AY C a length wJ ja af AX (fun y=>some (.inl y)) (fun r=>some (.inr r))
noncomputable def TR (C:ae):ct:=fun β n ds k=>
 bif Nat.beq n 735 then mi Jm [[1,2,3,4,0,7,8]] (@Fo C) ds k else
 bif Nat.beq n 81 then bB Jn [false,false,false,true,true,true] [[1,2,3,0,0,0,0]] (@AY C) ds k else
 none
abbrev TS (C:ae) (b:cm):Prop:=cp Tryd.prog av C (TR C) 172 (cI Tryd.prog (av.aR 172)) (av.sin 172).aP.length b
theorem aeY (C:ae):TS C (.cond 45 (ao [1,1,0,1,1,1,0,0,1,0,0,1,0,1,0] wI) (ao [1,1,0,1,1,1,0,0,1,0,0,1,0,1,1] wI)):=
 nk Jm [[1,2,3,4,0,7,8]] (@Fo C) (by kernel_rfl) (aY (bs:=[]) (by kernel_rfl) aw) (aY (bs:=[]) (by kernel_rfl) aw) (fun ds=>by kernel_rfl) (fun i β k=>by kernel_rfl) (fun β ds k=>by kernel_rfl)
theorem aeZ (C:ae):TS C (.loop (ao [1,1,0,1,1,1,0,0] wI)):=
 bE Jn [false,false,false,true,true,true] [[1,2,3,0,0,0,0]] (@AY C) (by kernel_rfl) (aY (bs:=[.cond 45 (ao [1,1,0,1,1,1,0,0,1,0,0,1,0,1,0] wI) (ao [1,1,0,1,1,1,0,0,1,0,0,1,0,1,1] wI)]) (by kernel_rfl) (bn (aeY C) aw)) (fun ds=>by kernel_rfl) (fun i x=>by kernel_rfl) (fun i x β k=>by kernel_rfl) (fun β ds k=>by kernel_rfl)
noncomputable def TT (C:ae) (a b':Int) (af:List V):Option (List V):=
 bif decide (((IntKind.wrap .i64 (b'-a)):Int)≥8) then
  (C DG [.int .i64 (IntKind.wrap .i64 (b'-a))]).bind fun r1=>
  (Loop (Fp C a (IntKind.wrap .i64 (b'-a)) ((V.nth r1 0).toInt)) (IntKind.wrap .i64 ((IntKind.wrap .i64 (a+(IntKind.wrap .i64 (2*(IntKind.wrap .i64 (Int.tdiv (IntKind.wrap .i64 (b'-a)) 4))))))-1),af,IntKind.wrap .u64 (IntKind.wrap .i64 (b'-a)))).bind (un fun (aho:Int)=>un fun (tD:Bool)=>un fun (nz:List V) (ahp:Int)=>
   some [.list an nz])
 else
  some [.list an af]
theorem ae0 {a b':Int} {af:List V} {r:Option (List V)} (h:TT CC a b' af=r):CC H9 [.int .i64 a,.int .i64 b',.list an af]=r:=
 bp (key:=172) (L:=TR CC) (bs:=[.loop (ao [1,1,0,1,1,1,0,0] wI)]) (by kernel_rfl) (bn (aeZ CC) aw) (Eq.trans (by kernel_rfl) h)
noncomputable def TU (C:ae) (hZ:Int):Option (List V):=
 some [.int .u64 (IntKind.wrap .u64 ((BitVec.ofInt (IntKind.bits .u64) (IntKind.wrap .u64 ((BitVec.ofInt (IntKind.bits .u64) (IntKind.wrap .u64 ((BitVec.ofInt (IntKind.bits .u64) hZ ^^^ BitVec.ofInt (IntKind.bits .u64) (IntKind.wrap .u64 (hZ*2^(min (13:Int).toNat (IntKind.bits .u64))))).toNat)) ^^^ BitVec.ofInt (IntKind.bits .u64) (Int.fdiv (IntKind.wrap .u64 ((BitVec.ofInt (IntKind.bits .u64) hZ ^^^ BitVec.ofInt (IntKind.bits .u64) (IntKind.wrap .u64 (hZ*2^(min (13:Int).toNat (IntKind.bits .u64))))).toNat)) (2^(min (7:Int).toNat (IntKind.bits .u64))))).toNat)) ^^^ BitVec.ofInt (IntKind.bits .u64) (IntKind.wrap .u64 ((IntKind.wrap .u64 ((BitVec.ofInt (IntKind.bits .u64) (IntKind.wrap .u64 ((BitVec.ofInt (IntKind.bits .u64) hZ ^^^ BitVec.ofInt (IntKind.bits .u64) (IntKind.wrap .u64 (hZ*2^(min (13:Int).toNat (IntKind.bits .u64))))).toNat)) ^^^ BitVec.ofInt (IntKind.bits .u64) (Int.fdiv (IntKind.wrap .u64 ((BitVec.ofInt (IntKind.bits .u64) hZ ^^^ BitVec.ofInt (IntKind.bits .u64) (IntKind.wrap .u64 (hZ*2^(min (13:Int).toNat (IntKind.bits .u64))))).toNat)) (2^(min (7:Int).toNat (IntKind.bits .u64))))).toNat))*2^(min (17:Int).toNat (IntKind.bits .u64))))).toNat)),.int .u64 (IntKind.wrap .u64 ((BitVec.ofInt (IntKind.bits .u64) (IntKind.wrap .u64 ((BitVec.ofInt (IntKind.bits .u64) (IntKind.wrap .u64 ((BitVec.ofInt (IntKind.bits .u64) hZ ^^^ BitVec.ofInt (IntKind.bits .u64) (IntKind.wrap .u64 (hZ*2^(min (13:Int).toNat (IntKind.bits .u64))))).toNat)) ^^^ BitVec.ofInt (IntKind.bits .u64) (Int.fdiv (IntKind.wrap .u64 ((BitVec.ofInt (IntKind.bits .u64) hZ ^^^ BitVec.ofInt (IntKind.bits .u64) (IntKind.wrap .u64 (hZ*2^(min (13:Int).toNat (IntKind.bits .u64))))).toNat)) (2^(min (7:Int).toNat (IntKind.bits .u64))))).toNat)) ^^^ BitVec.ofInt (IntKind.bits .u64) (IntKind.wrap .u64 ((IntKind.wrap .u64 ((BitVec.ofInt (IntKind.bits .u64) (IntKind.wrap .u64 ((BitVec.ofInt (IntKind.bits .u64) hZ ^^^ BitVec.ofInt (IntKind.bits .u64) (IntKind.wrap .u64 (hZ*2^(min (13:Int).toNat (IntKind.bits .u64))))).toNat)) ^^^ BitVec.ofInt (IntKind.bits .u64) (Int.fdiv (IntKind.wrap .u64 ((BitVec.ofInt (IntKind.bits .u64) hZ ^^^ BitVec.ofInt (IntKind.bits .u64) (IntKind.wrap .u64 (hZ*2^(min (13:Int).toNat (IntKind.bits .u64))))).toNat)) (2^(min (7:Int).toNat (IntKind.bits .u64))))).toNat))*2^(min (17:Int).toNat (IntKind.bits .u64))))).toNat))]
theorem ae1 {hZ:Int} {r:Option (List V)} (h:TU CC hZ=r):CC DH [.int .u64 hZ]=r:=
 bp (key:=143) (L:=cR) (bs:=[]) (by kernel_rfl) aw (Eq.trans (by kernel_rfl) h)
noncomputable def TV (C:ae) (length:Int):Option (List V):=
 (C yK [.int .u64 (IntKind.wrap .u64 length)]).bind fun r1=>
 bif decide (0≤((V.nth r1 0).toInt)) then
  some [.int .u64 (IntKind.wrap .u64 (1*2^(min ((V.nth r1 0).toInt).toNat (IntKind.bits .u64))))]
 else none
theorem ae2 {length:Int} {r:Option (List V)} (h:TV CC length=r):CC DG [.int .i64 length]=r:=
 bp (key:=142) (L:=cR) (bs:=[]) (by kernel_rfl) aw (Eq.trans (by kernel_rfl) h)
noncomputable def TW (C:ae) (x:Int):Option (List V):=
 (C DE [.int .u64 x]).bind fun r1=>
 some [.int .i64 ((V.nth r1 0).toInt)]
theorem ae3 {x:Int} {r:Option (List V)} (h:TW CC x=r):CC yK [.int .u64 x]=r:=
 bp (key:=111) (L:=cR) (bs:=[]) (by kernel_rfl) aw (Eq.trans (by kernel_rfl) h)
end Go.AM
