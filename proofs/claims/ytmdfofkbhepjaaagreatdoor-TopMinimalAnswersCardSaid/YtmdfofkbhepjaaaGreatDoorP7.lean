/-
  Functions of the program, lifted to plain data.
-/
import Derived.Test.YtmdfofkbhepjaaaGreatDoorP6
set_option linter.unusedVariables false
set_option linter.unusedSimpArgs false
set_option linter.unusedSectionVars false
set_option maxRecDepth 100000
namespace Go.AM
open Go.IntKind (wrap)
open Go.Proofs
def IM (m t:Nat) (s:Nat×Nat):Option Nat:=
 if s.1=0 then (if t<60 then some (t+1) else none)
 else if s.1=1 then (if t<60∧s.2<m then some (t+1) else none)
 else if s.1=2 then (if 2≤t then some (t-1) else none)
 else if s.1=3 then (if 1≤t then some t else none) else none
def wJ (m:Nat):List (Nat×Nat)→Nat→Option Nat
 | [],t=>some t
 | s::p,t=>(IM m t s).bind (wJ m p)
theorem avv {m t n:Nat}:IM m t (0,n)=if t<60 then some (t+1) else none:=rfl
theorem avw {m t n:Nat}:IM m t (1,n)=if t<60∧n<m then some (t+1) else none:=rfl
theorem avx {m t n:Nat}:IM m t (2,n)=if 2≤t then some (t-1) else none:=rfl
theorem avy {m t n:Nat}:IM m t (3,n)=if 1≤t then some t else none:=rfl
def SI (K t:Nat) (l:LV):Prop:=l.length=61∧t≤60∧∀i,i<t→∃v,v<K∧l[i]? =some (nV v)
theorem SI.put {K t:Nat} {l:LV} (h:SI K t l) {i v t':Nat} (hi:i≤t) (hv:v<K) (ht:t'≤t∨(t'=t+1∧i=t)) (h60:t'≤60):SI K t' (l.set i (nV v)):=by
 obtain ⟨h1,h2,h3⟩:=h;refine ⟨by rw[oG,h1],h60,fun j hj=> ?_⟩;by_cases c:i=j
 ·subst c;exact ⟨v,hv,o7 (by omega)⟩
 ·rw[uW c];exact h3 j (by omega)
theorem OK {t:Nat} (h:1≤t) (h6:t≤1000):wrap .i64 ((t:Int)-1)=((t-1:Nat):Int):=by
 rw[show ((t:Int)-1)=((t-1:Nat):Int) by omega];exact wrap64 (by omega) (by omega)
def VL (K m:Nat) (l:LV):Prop:=l.length=m∧∀i,i<m→∃v,v<K∧l[i]? =some (nV v)
section
variable {K:Nat} {mul:Nat→Nat→Nat} (h:Tb K mul) {p:List (Nat×Nat)} (hp: ∀s∈p,fC s) (hl:p.length≤1000) {A B:LV} (hP:qY K p p.length A B) {one:Int} (h1:(∃s∈p,s.1=0)→∃o:Nat,o<K∧one=(o:Int))
  {m:Nat} {vs:LV} (hv:VL K m vs) (hw:wJ m p 0=some 1)
include h hp hl hP h1 hv hw
theorem afQ: ∃y,y<K∧CC GA (.list bG (p.map cb)::(OG (tG K mul) one A B++[.list ab vs]))=some (.int .i64 (y:Int)::(OG (tG K mul) one A B++[.list ab vs])):=by
 have h4:=h.k4;have key:=jB (step:=OJ CC (p.map cb) (p.length:Int) (tG K mul) one [] A B [] [] [] [] [] [] [] [] vs)
  (fun i x=> ∃t l,wJ m (p.drop i) t=some 1∧SI K t l∧x=((t:Int),(i:Int),l)) (fun r=> ∃l,SI K 1 l∧r=(1,(p.length:Int),false,l)) p.length 0 (0,0,List.replicate 61 (V.int .i64 0)) (fun i _ hi x hx=> ?_) (fun x hx=> ?_) ⟨0,_,hw,⟨by simp,by omega,fun i hi=>(by omega)⟩,rfl⟩
 ·obtain ⟨r,e,l,hs,rfl⟩:=key;obtain ⟨y,hy,hg⟩:=hs.2.2 0 (by omega);refine ⟨y,hy,avu ?_⟩;unfold afP;rw[cY];refine bs e ?_;simp only[un];exact bs hg rfl
 ·obtain ⟨t,l,hr,hs,rfl⟩:=hx;have bu:i<p.length:=by omega
  have jT:=afL bu;have dN:=hp _ (dr bu);have hg:p.getD i (0,0)=p[i]:=by rw[qi,bU bu,Option.getD_some]
  have Wd:=hP i bu bu;rw[hg] at Wd;have qz:p[i].1=0→∃o:Nat,o<K∧one=(o:Int):=fun e=>h1 ⟨_,dr bu,e⟩;rw[List.drop_eq_getElem_cons bu] at hr;generalize p[i]=s at*
  obtain ⟨k,n⟩:=s;simp only[wJ] at hr;have hll:=hs.1;have ht:=hs.2.1;simp only[OJ,IL,un];rcases (by have:=dN.1;simp only at this;omega:k=0∨k=1∨k=2∨k=3) with rfl|rfl|rfl|rfl
  ·obtain ⟨o,ho,rfl⟩:=qz rfl;rw[avv] at hr;by_cases c:t<60
   ·rw[aB c,Option.bind_some] at hr;refine ⟨_,bT (bp bu) (bs jT ?_),t+1,l.set t (nV o),hr,hs.put (aw _) ho (.inr ⟨rfl,rfl⟩) (by omega),rfl⟩;simp only[yr];refine bT rfl (bT (ki.2 ⟨cq (by omega),cq (by omega)⟩) (bs (bU (by rw[Int.toNat_natCast,hll];omega)) ?_));rw[bz (by omega),bz (by omega)];rfl
   ·rw[aC c] at hr;cases hr
  ·rw[avw] at hr;by_cases c:t<60∧n<m
   ·rw[aB c,Option.bind_some] at hr;obtain ⟨v,OL,We⟩:=hv.2 n c.2;refine ⟨_,bT (bp bu) (bs jT ?_),t+1,l.set t (nV v),hr,hs.put (aw _) OL (.inr ⟨rfl,rfl⟩) (by omega),rfl⟩;simp only[yr];refine bF rfl (bT rfl ((bY (i:=n) We).trans (bT (ki.2 ⟨cq (by omega),cq (by omega)⟩) (bs (bU (by rw[Int.toNat_natCast,hll];omega)) ?_))));rw[bz (by omega),bz (by omega)];rfl
   ·rw[aC c] at hr;cases hr
  ·rw[avx] at hr;by_cases c:2≤t
   ·rw[aB c,Option.bind_some] at hr;obtain ⟨u,hu,AH⟩:=hs.2.2 (t-2) (by omega);obtain ⟨v,OL,We⟩:=hs.2.2 (t-1) (by omega);refine ⟨_,bT (bp bu) (bs jT ?_),t-1,l.set (t-2) (nV (mul u v)),hr,hs.put (by omega) (h.lt _ _ hu OL) (.inl (by omega)) (by omega),rfl⟩;simp only[yr];refine bF rfl (bF rfl (bT rfl ?_));rw[OK (t:=t) (by omega) (by omega),OK (t:=t-1) (by omega) (by omega),show t-1-1=t-2 by omega,Int.toNat_natCast,Int.toNat_natCast];refine bT (ki.2 ⟨cq (by omega),cq (by omega)⟩) (bs AH (bs (mV hu) (bT (ki.2 ⟨cq (by omega),cq (by omega)⟩) (bs We (bs (o0 OL) (bT (ki.2 ⟨cq (by omega),cq (by omega)⟩) (bs AH ?_)))))));rw[bz (by omega)];rfl
   ·rw[aC c] at hr;cases hr
  ·rw[avy] at hr;by_cases c:1≤t
   ·rw[aB c,Option.bind_some] at hr;obtain ⟨u,hu,AH⟩:=hs.2.2 (t-1) (by omega);have zr:(decide (0≤((t-1:Nat):Int))&&decide (((t-1:Nat):Int)<61))=true:=ki.2 ⟨cq (by omega),cq (by omega)⟩;rcases dN.2 rfl with hn|hn
    ·have hn:n=0:=hn;subst hn;obtain ⟨f,Wf,hf⟩:=(Wd rfl).1 rfl;have hA:idx A (u:Int)=some (nV (f u)):=by rw[Wf];exact qT hu
     refine ⟨_,bT (bp bu) (bs jT ?_),t,l.set (t-1) (nV (f u)),hr,hs.put (by omega) (hf u hu) (.inl (aw _)) ht,rfl⟩;simp only[yr];refine bF rfl (bF rfl (bF rfl (bT rfl (bT rfl (bT rfl ?_)))));rw[OK (t:=t) c (by omega),Int.toNat_natCast];refine bT zr (bs AH (bs (a:=nV (f u)) hA (bT zr (bs AH ?_))));rw[bz (by omega)];rfl
    ·have hn:n=1:=hn;subst hn;obtain ⟨f,Wf,hf⟩:=(Wd rfl).2 rfl;have hA:idx B (u:Int)=some (nV (f u)):=by rw[Wf];exact qT hu
     refine ⟨_,bT (bp bu) (bs jT ?_),t,l.set (t-1) (nV (f u)),hr,hs.put (by omega) (hf u hu) (.inl (aw _)) ht,rfl⟩;simp only[yr];refine bF rfl (bF rfl (bF rfl (bT rfl (bT rfl (bT rfl ?_)))));rw[OK (t:=t) c (by omega),Int.toNat_natCast];refine bT zr (bs AH (bs (a:=nV (f u)) hA (bT zr (bs AH ?_))));rw[bz (by omega)];rfl
   ·rw[aC c] at hr;cases hr
 ·obtain ⟨t,l,hr,hs,rfl⟩:=hx;rw[dq,List.drop_length] at hr;obtain rfl:t=1:=by simpa[wJ] using hr
  rw[dq];simp only[OJ,IL,un];exact ⟨_,bF (aV (aw _)) rfl,l,hs,cx rfl (cx rfl (cx (aV (aw _)) rfl))⟩
end
noncomputable def IN (C:af) (t16:Int) (eS eT ew fh:LV) (fi:Int) (fj fk fl fm fo fp fq ft fu fv fw Wg:LV) (t17:Int) (iD:LV) {β:Type} (kn:(Int×LV)→Option β) (kr:(Int×Bool×LV)→Option β):Option β:=
 bif decide (t17<t16) then
  aM Wg t17 fun x1=>
  (idx ew t17).bind fun x2=>
  (idx x2.toList x1.toInt).bind fun x3=>
  aM iD t17 fun x4=>
  kn (wrap .i64 (t17+1),bn iD t17 (V.int .i64 x3.toInt))
 else
  kr (t17,decide (t17<t16),iD)
noncomputable def Wh (C:af) (t16:Int) (eS eT ew fh:LV) (fi:Int) (fj fk fl fm fo fp fq ft fu fv fw Wg:LV):=un fun t17 iD=>IN C t16 eS eT ew fh fi fj fk fl fm fo fp fq ft fu fv fw Wg t17 iD (fun y=>some (Sum.inl y)) (fun r=>some (Sum.inr r))
noncomputable def avz (C:af):cD:=bI 49 TW [EQ,H1,EQ,EQ,EQ,EQ,EQ,EQ,EQ,EQ,EQ,EQ,EQ,EQ,EQ,EQ,EQ,EQ,H1,EQ] [[1,0,0,3,4,5,6,7,8,9,10,11,12,13,14,15,16,17,18,0,20]] (@IN C) bB
theorem avA (C:af):bD C (avz C) 85 (Lp [1,1,0,1,0,0] 85):=bJ TW [EQ,H1,EQ,EQ,EQ,EQ,EQ,EQ,EQ,EQ,EQ,EQ,EQ,EQ,EQ,EQ,EQ,EQ,H1,EQ] [[1,0,0,3,4,5,6,7,8,9,10,11,12,13,14,15,16,17,18,0,20]] (@IN C) (bq au)
noncomputable def afR (C:af) (eS eT ew fh:LV) (fi:Int) (fj fk fl fm fo fp fq ft fu fv fw aI:LV):Option LV:=
 bif (decide (0≤(aI.length:Int)))&&((decide ((aI.length:Int)≤(aI.length:Int)))&&(Nat.ble (((aI.length:Int).toNat)*8) aX)) then
  (Loop (Wh C (aI.length:Int) eS eT ew fh fi fj fk fl fm fo fp fq ft fu fv fw aI) (0,List.replicate ((aI.length:Int).toNat) (V.int .i64 0))).bind (un fun kC=>un fun (jz:Bool) (avB:LV)=>
   some [.list bG eS,.list bG eT,.list ag ew,.list ag fh,V.int .i64 fi,.list ab fj,.list ab fk,.list ab fl,.list ab fm,.list ab fo,.list ab fp,.list ab fq,.list ab ft,.list ab fu,.list ab fv,.list ab fw,.list ab avB,.list ab aI])
 else none
theorem avC {eS eT ew fh:LV} {fi:Int} {fj fk fl fm fo fp fq ft fu fv fw aI:LV} {r:Option LV} (h:afR CC eS eT ew fh fi fj fk fl fm fo fp fq ft fu fv fw aI=r):CC Gs [.list bG eS,.list bG eT,.list ag ew,.list ag fh,V.int .i64 fi,.list ab fj,.list ab fk,.list ab fl,.list ab fm,.list ab fo,.list ab fp,.list ab fq,.list ab ft,.list ab fu,.list ab fv,.list ab fw,.list ab aI]=r:=bC (bE (avA CC) au) h
noncomputable def DV (C:af) (eS eT ew fh:LV) (fi:Int) (fj fk fl fm fo fp fq ft fu fv fw:LV) (i:Int) (aQ:LV) {β:Type} (kn:(Int×LV)→Option β) (kr:((Bool×LV) ⊕ (Int×Bool×LV))→Option β):Option β:=
 bif decide (i≥0) then
  aM aQ i fun x1=>
  aM aQ i fun x2=>
  aM (bn aQ i (V.int .i64 (wrap .i64 (x1.toInt+1)))) i fun x3=>
  (idx ew i).bind fun x4=>
  bif decide ((x3.toInt:Int)<(x4.toList.length:Int)) then
  kr (.inl (true,bn aQ i (V.int .i64 (wrap .i64 (x1.toInt+1)))))
  else
  aM (bn aQ i (V.int .i64 (wrap .i64 (x1.toInt+1)))) i fun x5=>
  kn (wrap .i64 (i-1),bn (bn aQ i (V.int .i64 (wrap .i64 (x1.toInt+1)))) i (V.int .i64 0))
 else
  kr (.inr (i,decide (i≥0),aQ))
noncomputable def IP (C:af) (eS eT ew fh:LV) (fi:Int) (fj fk fl fm fo fp fq ft fu fv fw:LV):=un fun i aQ=>DV C eS eT ew fh fi fj fk fl fm fo fp fq ft fu fv fw i aQ (fun y=>some (Sum.inl y)) (fun r=>some (Sum.inr r))
noncomputable def avD (C:af):cD:=bI 33 Up [H1,EQ,EQ,EQ,EQ,EQ,EQ,EQ,EQ,EQ,EQ,EQ,EQ,EQ,EQ,EQ,EQ,H1] [[0,2,3,4,5,6,7,8,9,10,11,12,13,14,15,16,17,0],[0,0,2,3,4,5,6,7,8,9,10,11,12,13,14,15,16,17,0]] (@DV C) bB
theorem avE (C:af):bD C (avD C) 126 (Lp [1,0,1,0,0] 126):=bJ Up [H1,EQ,EQ,EQ,EQ,EQ,EQ,EQ,EQ,EQ,EQ,EQ,EQ,EQ,EQ,EQ,EQ,H1] [[0,2,3,4,5,6,7,8,9,10,11,12,13,14,15,16,17,0],[0,0,2,3,4,5,6,7,8,9,10,11,12,13,14,15,16,17,0]] (@DV C) (bq au)
noncomputable def OM (C:af) (eS eT ew fh:LV) (fi:Int) (fj fk fl fm fo fp fq ft fu fv fw aI:LV):Option LV:=
 (Loop (IP C eS eT ew fh fi fj fk fl fm fo fp fq ft fu fv fw) (wrap .i64 ((aI.length:Int)-1),aI)).bind (fg (un fun (jz:Bool) (Is:LV)=>
  some [.bool jz,.list bG eS,.list bG eT,.list ag ew,.list ag fh,V.int .i64 fi,.list ab fj,.list ab fk,.list ab fl,.list ab fm,.list ab fo,.list ab fp,.list ab fq,.list ab ft,.list ab fu,.list ab fv,.list ab fw,.list ab Is]) (un fun i_8=>un fun (uJ:Bool) (qR:LV)=>
  some [.bool false,.list bG eS,.list bG eT,.list ag ew,.list ag fh,V.int .i64 fi,.list ab fj,.list ab fk,.list ab fl,.list ab fm,.list ab fo,.list ab fp,.list ab fq,.list ab ft,.list ab fu,.list ab fv,.list ab fw,.list ab qR]))
theorem avF {eS eT ew fh:LV} {fi:Int} {fj fk fl fm fo fp fq ft fu fv fw aI:LV} {r:Option LV} (h:OM CC eS eT ew fh fi fj fk fl fm fo fp fq ft fu fv fw aI=r):CC GB [.list bG eS,.list bG eT,.list ag ew,.list ag fh,V.int .i64 fi,.list ab fj,.list ab fk,.list ab fl,.list ab fm,.list ab fo,.list ab fp,.list ab fq,.list ab ft,.list ab fu,.list ab fv,.list ab fw,.list ab aI]=r:=bC (bE (avE CC) au) h
noncomputable def IQ (C:af) (qZ steps t21:Int) (eS eT ew fh:LV) (fi:Int) (fj fk fl fm fo fp fq ft fu fv fw Wi:LV) (t22:Int) (iD:LV) {β:Type} (kn:(Int×LV)→Option β) (kr:(Int×Bool×LV)→Option β):Option β:=
 bif decide (t22<t21) then
  aM Wi t22 fun x2=>
  (idx ew t22).bind fun x3=>
  (idx x3.toList x2.toInt).bind fun x4=>
  aM iD t22 fun x5=>
  kn (wrap .i64 (t22+1),bn iD t22 (V.int .i64 x4.toInt))
 else
  kr (t22,decide (t22<t21),iD)
noncomputable def ON (C:af) (qZ steps t21:Int) (eS eT ew fh:LV) (fi:Int) (fj fk fl fm fo fp fq ft fu fv fw Wi:LV):=un fun t22 iD=>IQ C qZ steps t21 eS eT ew fh fi fj fk fl fm fo fp fq ft fu fv fw Wi t22 iD (fun y=>some (Sum.inl y)) (fun r=>some (Sum.inr r))
noncomputable def AI (C:af) (qZ steps:Int) (eS eT ew fh:LV) (fi:Int) (fj fk fl fm fo fp fq ft fu fv fw iD aW:LV) {β:Type} (kn:(Int×LV×LV×LV×LV×Int×LV×LV×LV×LV×LV×LV×LV×LV×LV×LV×LV×LV×LV)→Option β) (kr:((Int×Bool×Bool×LV×LV×LV×LV×Int×LV×LV×LV×LV×LV×LV×LV×LV×LV×LV×LV×LV) ⊕ (Int×Bool×LV×LV×LV×LV×Int×LV×LV×LV×LV×LV×LV×LV×LV×LV×LV×LV×LV×LV))→Option β):Option β:=
 bif decide (steps<qZ) then
  (Loop (ON C qZ (wrap .i64 (steps+1)) (aW.length:Int) eS eT ew fh fi fj fk fl fm fo fp fq ft fu fv fw aW) (0,iD)).bind (un fun jz=>un fun (mL:Bool) (avG:LV)=>
   (C GA [.list bG eS,.list ag fh,V.int .i64 fi,.list ab fj,.list ab fk,.list ab fl,.list ab fm,.list ab fo,.list ab fp,.list ab fq,.list ab ft,.list ab fu,.list ab fv,.list ab fw,.list ab avG]).bind fun r9=>
   (C GA [.list bG eT,.list ag ((V.nth (r9.drop 1) 0).toList),V.int .i64 ((V.nth ((r9.drop 1).drop 1) 0).toInt),.list ab ((V.nth (((r9.drop 1).drop 1).drop 1) 0).toList),.list ab ((V.nth ((((r9.drop 1).drop 1).drop 1).drop 1) 0).toList),.list ab ((V.nth (((((r9.drop 1).drop 1).drop 1).drop 1).drop 1) 0).toList),.list ab ((V.nth ((((((r9.drop 1).drop 1).drop 1).drop 1).drop 1).drop 1) 0).toList),.list ab ((V.nth (((((((r9.drop 1).drop 1).drop 1).drop 1).drop 1).drop 1).drop 1) 0).toList),.list ab ((V.nth ((((((((r9.drop 1).drop 1).drop 1).drop 1).drop 1).drop 1).drop 1).drop 1) 0).toList),.list ab ((V.nth (((((((((r9.drop 1).drop 1).drop 1).drop 1).drop 1).drop 1).drop 1).drop 1).drop 1) 0).toList),.list ab ((V.nth ((((((((((r9.drop 1).drop 1).drop 1).drop 1).drop 1).drop 1).drop 1).drop 1).drop 1).drop 1) 0).toList),.list ab ((V.nth (((((((((((r9.drop 1).drop 1).drop 1).drop 1).drop 1).drop 1).drop 1).drop 1).drop 1).drop 1).drop 1) 0).toList),.list ab ((V.nth ((((((((((((r9.drop 1).drop 1).drop 1).drop 1).drop 1).drop 1).drop 1).drop 1).drop 1).drop 1).drop 1).drop 1) 0).toList),.list ab ((V.nth (((((((((((((r9.drop 1).drop 1).drop 1).drop 1).drop 1).drop 1).drop 1).drop 1).drop 1).drop 1).drop 1).drop 1).drop 1) 0).toList),.list ab ((V.nth ((r9.drop 1).drop 13) 0).toList)]).bind fun eZ=>
   bif (((V.nth r9 0).toInt):Int) != ((V.nth eZ 0).toInt) then
   kr (.inl (wrap .i64 (steps+1),true,true,eS,eT,ew,(V.nth (eZ.drop 1) 0).toList,(V.nth ((eZ.drop 1).drop 1) 0).toInt,(V.nth (((eZ.drop 1).drop 1).drop 1) 0).toList,(V.nth ((((eZ.drop 1).drop 1).drop 1).drop 1) 0).toList,(V.nth (((((eZ.drop 1).drop 1).drop 1).drop 1).drop 1) 0).toList,(V.nth ((((((eZ.drop 1).drop 1).drop 1).drop 1).drop 1).drop 1) 0).toList,(V.nth (((((((eZ.drop 1).drop 1).drop 1).drop 1).drop 1).drop 1).drop 1) 0).toList,(V.nth ((((((((eZ.drop 1).drop 1).drop 1).drop 1).drop 1).drop 1).drop 1).drop 1) 0).toList,(V.nth (((((((((eZ.drop 1).drop 1).drop 1).drop 1).drop 1).drop 1).drop 1).drop 1).drop 1) 0).toList,(V.nth ((((((((((eZ.drop 1).drop 1).drop 1).drop 1).drop 1).drop 1).drop 1).drop 1).drop 1).drop 1) 0).toList,(V.nth (((((((((((eZ.drop 1).drop 1).drop 1).drop 1).drop 1).drop 1).drop 1).drop 1).drop 1).drop 1).drop 1) 0).toList,(V.nth ((((((((((((eZ.drop 1).drop 1).drop 1).drop 1).drop 1).drop 1).drop 1).drop 1).drop 1).drop 1).drop 1).drop 1) 0).toList,(V.nth (((((((((((((eZ.drop 1).drop 1).drop 1).drop 1).drop 1).drop 1).drop 1).drop 1).drop 1).drop 1).drop 1).drop 1).drop 1) 0).toList,aW))
   else
   (C GB [.list bG eS,.list bG eT,.list ag ew,.list ag ((V.nth (eZ.drop 1) 0).toList),V.int .i64 ((V.nth ((eZ.drop 1).drop 1) 0).toInt),.list ab ((V.nth (((eZ.drop 1).drop 1).drop 1) 0).toList),.list ab ((V.nth ((((eZ.drop 1).drop 1).drop 1).drop 1) 0).toList),.list ab ((V.nth (((((eZ.drop 1).drop 1).drop 1).drop 1).drop 1) 0).toList),.list ab ((V.nth ((((((eZ.drop 1).drop 1).drop 1).drop 1).drop 1).drop 1) 0).toList),.list ab ((V.nth (((((((eZ.drop 1).drop 1).drop 1).drop 1).drop 1).drop 1).drop 1) 0).toList),.list ab ((V.nth ((((((((eZ.drop 1).drop 1).drop 1).drop 1).drop 1).drop 1).drop 1).drop 1) 0).toList),.list ab ((V.nth (((((((((eZ.drop 1).drop 1).drop 1).drop 1).drop 1).drop 1).drop 1).drop 1).drop 1) 0).toList),.list ab ((V.nth ((((((((((eZ.drop 1).drop 1).drop 1).drop 1).drop 1).drop 1).drop 1).drop 1).drop 1).drop 1) 0).toList),.list ab ((V.nth (((((((((((eZ.drop 1).drop 1).drop 1).drop 1).drop 1).drop 1).drop 1).drop 1).drop 1).drop 1).drop 1) 0).toList),.list ab ((V.nth ((((((((((((eZ.drop 1).drop 1).drop 1).drop 1).drop 1).drop 1).drop 1).drop 1).drop 1).drop 1).drop 1).drop 1) 0).toList),.list ab ((V.nth (((((((((((((eZ.drop 1).drop 1).drop 1).drop 1).drop 1).drop 1).drop 1).drop 1).drop 1).drop 1).drop 1).drop 1).drop 1) 0).toList),.list ab aW]).bind fun cd=>
   bif !((V.nth cd 0).toBool) then
    kr (.inl (wrap .i64 (steps+1),false,true,(V.nth (cd.drop 1) 0).toList,(V.nth ((cd.drop 1).drop 1) 0).toList,(V.nth (((cd.drop 1).drop 1).drop 1) 0).toList,(V.nth ((cd.drop 1).drop 3) 0).toList,(V.nth (((cd.drop 1).drop 3).drop 1) 0).toInt,(V.nth ((((cd.drop 1).drop 3).drop 1).drop 1) 0).toList,(V.nth (((((cd.drop 1).drop 3).drop 1).drop 1).drop 1) 0).toList,(V.nth ((((((cd.drop 1).drop 3).drop 1).drop 1).drop 1).drop 1) 0).toList,(V.nth (((((((cd.drop 1).drop 3).drop 1).drop 1).drop 1).drop 1).drop 1) 0).toList,(V.nth ((((((((cd.drop 1).drop 3).drop 1).drop 1).drop 1).drop 1).drop 1).drop 1) 0).toList,(V.nth (((((((((cd.drop 1).drop 3).drop 1).drop 1).drop 1).drop 1).drop 1).drop 1).drop 1) 0).toList,(V.nth ((((((((((cd.drop 1).drop 3).drop 1).drop 1).drop 1).drop 1).drop 1).drop 1).drop 1).drop 1) 0).toList,(V.nth (((((((((((cd.drop 1).drop 3).drop 1).drop 1).drop 1).drop 1).drop 1).drop 1).drop 1).drop 1).drop 1) 0).toList,(V.nth ((((((((((((cd.drop 1).drop 3).drop 1).drop 1).drop 1).drop 1).drop 1).drop 1).drop 1).drop 1).drop 1).drop 1) 0).toList,(V.nth (((((((((((((cd.drop 1).drop 3).drop 1).drop 1).drop 1).drop 1).drop 1).drop 1).drop 1).drop 1).drop 1).drop 1).drop 1) 0).toList,(V.nth ((((((((((((((cd.drop 1).drop 3).drop 1).drop 1).drop 1).drop 1).drop 1).drop 1).drop 1).drop 1).drop 1).drop 1).drop 1).drop 1) 0).toList,(V.nth (((cd.drop 1).drop 3).drop 13) 0).toList))
   else
    kn (wrap .i64 (steps+1),(V.nth (cd.drop 1) 0).toList,(V.nth ((cd.drop 1).drop 1) 0).toList,(V.nth (((cd.drop 1).drop 1).drop 1) 0).toList,(V.nth ((cd.drop 1).drop 3) 0).toList,(V.nth (((cd.drop 1).drop 3).drop 1) 0).toInt,(V.nth ((((cd.drop 1).drop 3).drop 1).drop 1) 0).toList,(V.nth (((((cd.drop 1).drop 3).drop 1).drop 1).drop 1) 0).toList,(V.nth ((((((cd.drop 1).drop 3).drop 1).drop 1).drop 1).drop 1) 0).toList,(V.nth (((((((cd.drop 1).drop 3).drop 1).drop 1).drop 1).drop 1).drop 1) 0).toList,(V.nth ((((((((cd.drop 1).drop 3).drop 1).drop 1).drop 1).drop 1).drop 1).drop 1) 0).toList,(V.nth (((((((((cd.drop 1).drop 3).drop 1).drop 1).drop 1).drop 1).drop 1).drop 1).drop 1) 0).toList,(V.nth ((((((((((cd.drop 1).drop 3).drop 1).drop 1).drop 1).drop 1).drop 1).drop 1).drop 1).drop 1) 0).toList,(V.nth (((((((((((cd.drop 1).drop 3).drop 1).drop 1).drop 1).drop 1).drop 1).drop 1).drop 1).drop 1).drop 1) 0).toList,(V.nth ((((((((((((cd.drop 1).drop 3).drop 1).drop 1).drop 1).drop 1).drop 1).drop 1).drop 1).drop 1).drop 1).drop 1) 0).toList,(V.nth (((((((((((((cd.drop 1).drop 3).drop 1).drop 1).drop 1).drop 1).drop 1).drop 1).drop 1).drop 1).drop 1).drop 1).drop 1) 0).toList,(V.nth ((((((((((((((cd.drop 1).drop 3).drop 1).drop 1).drop 1).drop 1).drop 1).drop 1).drop 1).drop 1).drop 1).drop 1).drop 1).drop 1) 0).toList,(V.nth ((eZ.drop 1).drop 13) 0).toList,(V.nth (((cd.drop 1).drop 3).drop 13) 0).toList))
 else
  kr (.inr (steps,decide (steps<qZ),eS,eT,ew,fh,fi,fj,fk,fl,fm,fo,fp,fq,ft,fu,fv,fw,iD,aW))
noncomputable def DW (C:af) (qZ:Int):=un fun steps=>un fun eS=>un fun eT=>un fun ew=>un fun fh=>un fun fi=>un fun fj=>un fun fk=>un fun fl=>un fun fm=>un fun fo=>un fun fp=>un fun fq=>un fun ft=>un fun fu=>un fun fv=>un fun fw=>un fun iD aW=>AI C qZ steps eS eT ew fh fi fj fk fl fm fo fp fq ft fu fv fw iD aW (fun y=>some (Sum.inl y)) (fun r=>some (Sum.inr r))
noncomputable def afS (C:af):cD:=bI 81 TU [EQ,EQ,EQ,H1,EQ,EQ,EQ,EQ,EQ,EQ,EQ,EQ,EQ,EQ,EQ,EQ,EQ,EQ,EQ,EQ,H1,EQ] [[1,2,3,0,0,5,6,7,8,9,10,11,12,13,14,15,16,17,18,19,20,0,22]] (@IQ C) (bI 33 TV [EQ,H1,H1,H1,H1,H1,H1,H1,H1,H1,H1,H1,H1,H1,H1,H1,H1,H1,H1,H1] [[0,0,0,0,0,0,0,0,0,0,0,0,0,0,0,0,0,0,0,0],[1,0,0,0,0,0,0,0,0,0,0,0,0,0,0,0,0,0,0,0,0]] (@AI C) bB)
theorem avH (C:af):bD C (afS C) 84 (Lp [1,1,0,0,0,1,0,1,0,1,0,0] 84):=bJ TU [EQ,EQ,EQ,H1,EQ,EQ,EQ,EQ,EQ,EQ,EQ,EQ,EQ,EQ,EQ,EQ,EQ,EQ,EQ,EQ,H1,EQ] [[1,2,3,0,0,5,6,7,8,9,10,11,12,13,14,15,16,17,18,19,20,0,22]] (@IQ C) (bq au)
theorem avI (C:af):bD C (afS C) 84 (Lp [1,1,0,0,0] 84):=bJ TV [EQ,H1,H1,H1,H1,H1,H1,H1,H1,H1,H1,H1,H1,H1,H1,H1,H1,H1,H1,H1] [[0,0,0,0,0,0,0,0,0,0,0,0,0,0,0,0,0,0,0,0],[1,0,0,0,0,0,0,0,0,0,0,0,0,0,0,0,0,0,0,0,0]] (@AI C) (bq (bE (avH C) au))
noncomputable def OO (C:af) (qZ:Int) (eS eT ew fh:LV) (fi:Int) (fj fk fl fm fo fp fq ft fu fv fw aI:LV):Option LV:=
 (C Gs [.list bG eS,.list bG eT,.list ag ew,.list ag fh,V.int .i64 fi,.list ab fj,.list ab fk,.list ab fl,.list ab fm,.list ab fo,.list ab fp,.list ab fq,.list ab ft,.list ab fu,.list ab fv,.list ab fw,.list ab aI]).bind fun r1=>
 (Loop (DW C qZ) (0,(V.nth r1 0).toList,(V.nth (r1.drop 1) 0).toList,(V.nth ((r1.drop 1).drop 1) 0).toList,(V.nth (r1.drop 3) 0).toList,(V.nth ((r1.drop 3).drop 1) 0).toInt,(V.nth (((r1.drop 3).drop 1).drop 1) 0).toList,(V.nth ((((r1.drop 3).drop 1).drop 1).drop 1) 0).toList,(V.nth (((((r1.drop 3).drop 1).drop 1).drop 1).drop 1) 0).toList,(V.nth ((((((r1.drop 3).drop 1).drop 1).drop 1).drop 1).drop 1) 0).toList,(V.nth (((((((r1.drop 3).drop 1).drop 1).drop 1).drop 1).drop 1).drop 1) 0).toList,(V.nth ((((((((r1.drop 3).drop 1).drop 1).drop 1).drop 1).drop 1).drop 1).drop 1) 0).toList,(V.nth (((((((((r1.drop 3).drop 1).drop 1).drop 1).drop 1).drop 1).drop 1).drop 1).drop 1) 0).toList,(V.nth ((((((((((r1.drop 3).drop 1).drop 1).drop 1).drop 1).drop 1).drop 1).drop 1).drop 1).drop 1) 0).toList,(V.nth (((((((((((r1.drop 3).drop 1).drop 1).drop 1).drop 1).drop 1).drop 1).drop 1).drop 1).drop 1).drop 1) 0).toList,(V.nth ((((((((((((r1.drop 3).drop 1).drop 1).drop 1).drop 1).drop 1).drop 1).drop 1).drop 1).drop 1).drop 1).drop 1) 0).toList,(V.nth (((((((((((((r1.drop 3).drop 1).drop 1).drop 1).drop 1).drop 1).drop 1).drop 1).drop 1).drop 1).drop 1).drop 1).drop 1) 0).toList,(V.nth ((r1.drop 3).drop 13) 0).toList,(V.nth (((r1.drop 3).drop 13).drop 1) 0).toList)).bind (fg (un fun avJ=>un fun (avK:Bool)=>un fun (avL:Bool)=>un fun (vz:LV)=>un fun (y9:LV)=>un fun (pY:LV)=>un fun (tq:LV)=>un fun qw=>un fun (pG:LV)=>un fun (wD:LV)=>un fun (wE:LV)=>un fun (rY:LV)=>un fun (sL:LV)=>un fun (DJ:LV)=>un fun (DK:LV)=>un fun (N9:LV)=>un fun (Vh:LV)=>un fun (Fp:LV)=>un fun (avM:LV) (avN:LV)=>
  some [V.int .i64 avJ,.bool avK,.bool avL,.list bG vz,.list bG y9,.list ag pY,.list ag tq,V.int .i64 qw,.list ab pG,.list ab wD,.list ab wE,.list ab rY,.list ab sL,.list ab DJ,.list ab DK,.list ab N9,.list ab Vh,.list ab Fp,.list ab avM,.list ab avN]) (un fun avO=>un fun (avP:Bool)=>un fun (avQ:LV)=>un fun (avR:LV)=>un fun (avS:LV)=>un fun (Ig:LV)=>un fun Ih=>un fun (Ii:LV)=>un fun (Ij:LV)=>un fun (DN:LV)=>un fun (avT:LV)=>un fun (avU:LV)=>un fun (Ik:LV)=>un fun (VF:LV)=>un fun (H3:LV)=>un fun (Ay:LV)=>un fun (uN:LV)=>un fun (Az:LV)=>un fun (az0:LV) (Il:LV)=>
  some [V.int .i64 avO,.bool false,.bool false,.list bG avQ,.list bG avR,.list ag avS,.list ag Ig,V.int .i64 Ih,.list ab Ii,.list ab Ij,.list ab DN,.list ab avT,.list ab avU,.list ab Ik,.list ab VF,.list ab H3,.list ab Ay,.list ab uN,.list ab Az,.list ab Il]))
theorem avV {qZ:Int} {eS eT ew fh:LV} {fi:Int} {fj fk fl fm fo fp fq ft fu fv fw aI:LV} {r:Option LV} (h:OO CC qZ eS eT ew fh fi fj fk fl fm fo fp fq ft fu fv fw aI=r):CC Gr [V.int .i64 qZ,.list bG eS,.list bG eT,.list ag ew,.list ag fh,V.int .i64 fi,.list ab fj,.list ab fk,.list ab fl,.list ab fm,.list ab fo,.list ab fp,.list ab fq,.list ab ft,.list ab fu,.list ab fv,.list ab fw,.list ab aI]=r:=bC (bE (avI CC) au) h
def RV (R:List (List Nat)):LV:=R.map fun r=> .list ab (nS r)
structure RG (K:Nat) (R:List (List Nat)):Prop where
 lt: ∀i,i<R.length→∀x∈R.getD i [],x<K
 len: ∀i,i<R.length→(R.getD i []).length≤1000
 rl:R.length≤10
def NX (R:List (List Nat)) (l:LV):Prop:=l.length=R.length∧∀i,i<R.length→∃k,k<(R.getD i []).length∧l[i]? =some (nV k)
theorem DX {R:List (List Nat)} {i:Nat} (hi:i<R.length):idx (RV R) (i:Int)=some (.list ab (nS (R.getD i []))):=by
 rw[RV,yZ rfl];simp[hi]
def qg (p q:List (Nat×Nat)) (R:List (List Nat)) (t:LV) (one:Int) (A B:LV) (l:List V):List V:=
 .list bG (p.map cb):: .list bG (q.map cb):: .list ag (RV R)::(OG t one A B++l)
section
variable {K:Nat} {R:List (List Nat)} (hR:RG K R) {nx:LV} (hN:NX R nx)
include hR hN
theorem afT: ∃f:Nat→Nat,∀i,i<R.length→f i<K∧∃k,nx[i]? =some (nV k)∧idx (nS (R.getD i [])) (k:Int)=some (nV (f i)):=by
 have hex: ∀i,∃y,i<R.length→y<K∧∃k,nx[i]? =some (nV k)∧idx (nS (R.getD i [])) (k:Int)=some (nV y):=fun i=>by
  by_cases c:i<R.length
  ·obtain ⟨k,hk,hg⟩:=hN.2 i c;exact ⟨(R.getD i [])[k],fun _=>⟨hR.lt i c _ (dr hk),k,hg,iy hk⟩⟩
  ·exact ⟨0,fun c2=>absurd c2 c⟩
 exact Classical.axiomOfChoice hex
theorem afU {p q:List (Nat×Nat)} {t A B:LV} {one:Int}: ∃vs,VL K R.length vs∧CC Gs (qg p q R t one A B [.list ab nx])=some (qg p q R t one A B [.list ab vs,.list ab nx]):=by
 have h10:=hR.rl;have hl:=hN.1;obtain ⟨f,hf⟩:=afT hR hN;refine ⟨tab R.length fun i=>nV (f i),⟨fT,fun i hi=>⟨f i,(hf i hi).1,nG hi⟩⟩,avC ?_⟩;unfold afR;rw[hl];refine bT (gB (by omega) (by omega)) ?_;rw[Int.toNat_natCast];refine bs (uO (fun i a=>((i:Int),a)) R.length (fun i=>nV (f i)) (List.replicate R.length (V.int .i64 0)) (by simp) (fun a=>((R.length:Int),false,a)) (fun i hi a ha=> ?_) ?_) rfl
 ·obtain ⟨k,hk,uc⟩:=(hf i hi).2;simp only[Wh,IN,un,aM,bn];refine bT (bp hi) ((bY hk).trans (bs (DX hi) ?_));rw[V.ez];refine bs uc ((rZ (by omega)).trans ?_);rw[bz (by omega),Int.toNat_natCast];rfl
 ·simp only[Wh,IN,un];refine bF (aV (aw _)) ?_;rw[aV (aw _)]
theorem avW {p q:List (Nat×Nat)} {t A B:LV} {one:Int}: ∃b lM,NX R lM∧CC GB (qg p q R t one A B [.list ab nx])=some (.bool b::qg p q R t one A B [.list ab lM]):=by
 have h10:=hR.rl;have hl:=hN.1;have put: ∀{l:LV} {i k:Nat},NX R l→i<R.length→k<(R.getD i []).length→NX R (l.set i (nV k)):=fun {l i k} hn hi hk=>⟨by rw[oG,hn.1],fun j hj=>by
  by_cases c:i=j
  ·subst c;exact ⟨k,hk,o7 (by rw[hn.1];exact hi)⟩
  ·rw[uW c];exact hn.2 j hj⟩
 have key: ∀(d:Nat) (l:LV),d≤R.length→NX R l→∃r,Loop (IP CC (p.map cb) (q.map cb) (RV R) t one [] A B [] [] [] [] [] [] [] []) ((d:Int)-1,l)=some r∧((∃b l',NX R l'∧r= .inl (b,l'))∨∃j b l',NX R l'∧r= .inr (j,b,l')):=by
  intro d
  induction d with
  | zero=>
   intro l _ hn;refine ⟨_,jY (r:= .inr (((0:Nat):Int)-1,false,l)) ?_,.inr ⟨_,_,l,hn,rfl⟩⟩;simp only[IP,DV,un];exact bF rfl rfl
  | succ i ih=>
   intro l hd hn;have hi:i<R.length:=by omega
   have e1:(((i+1:Nat):Int)-1)=(i:Int):=by omega
   rw[e1];obtain ⟨k,hk,hg⟩:=hn.2 i hi;have Ci:=hR.len i hi;have jf:(l.set i (.int .i64 ((k+1:Nat):Int)))[i]? =some (nV (k+1)):=o7 (by rw[hn.1];exact hi);have w1:wrap .i64 ((nV k).toInt+1)=((k+1:Nat):Int):=bz (by omega);by_cases c:k+1<(R.getD i []).length
   ·refine ⟨.inl (true,l.set i (nV (k+1))),jY ?_,.inl ⟨_,_,put hn hi c,rfl⟩⟩;simp only[IP,DV,un,aM,bn,Int.toNat_natCast];refine bT (cq (by omega)) ((bY hg).trans ((bY hg).trans ?_));simp only[w1];refine (bY jf).trans (bs (DX hi) ?_)
    rw[V.ez,dC];exact bT (cq (by show ((k+1:Nat):Int)<_;omega)) rfl
   ·have gh:0<(R.getD i []).length:=by omega
    obtain ⟨r,e,hr⟩:=ih (l.set i (nV 0)) (by omega) (put hn hi gh);refine ⟨r,(iS ?_).trans e,hr⟩;simp only[IP,DV,un,aM,bn,Int.toNat_natCast];refine bT (cq (by omega)) ((bY hg).trans ((bY hg).trans ?_));simp only[w1];refine (bY jf).trans (bs (DX hi) ?_)
    rw[V.ez,dC];refine bF (c8 (by show¬((k+1:Nat):Int)<_;omega)) ((bY jf).trans ?_);rw[Bk];have w2:wrap .i64 ((i:Int)-1)=(i:Int)-1:=wrap64 (by omega) (by omega);rw[w2];rfl
 obtain ⟨r,e,hr⟩:=key R.length nx (aw _) hN;have w3:wrap .i64 ((R.length:Int)-1)=(R.length:Int)-1:=wrap64 (by omega) (by omega);have fin: ∀z,OM CC (p.map cb) (q.map cb) (RV R) t one [] A B [] [] [] [] [] [] [] [] nx=z→CC GB (qg p q R t one A B [.list ab nx])=z:=fun z h=>avF h;rcases hr with ⟨b,l',pJ,rfl⟩|⟨j,b,l',pJ,rfl⟩
 ·refine ⟨b,l',pJ,fin _ ?_⟩;unfold OM;rw[hl,w3];exact bs e rfl
 ·refine ⟨false,l',pJ,fin _ ?_⟩;unfold OM;rw[hl,w3];exact bs e rfl
end
section
variable {K:Nat} {mul:Nat→Nat→Nat} (h:Tb K mul) {R:List (List Nat)} (hR:RG K R) {p q:List (Nat×Nat)} (hp: ∀s∈p,fC s) (hq: ∀s∈q,fC s) (OH:p.length≤1000) (OI:q.length≤1000) {A B:LV} (hP:qY K p p.length A B) (hQ:qY K q q.length A B)
  {one:Int} (h1:(∃s∈p,s.1=0)→∃o:Nat,o<K∧one=(o:Int)) (h2:(∃s∈q,s.1=0)→∃o:Nat,o<K∧one=(o:Int)) (hw:wJ R.length p 0=some 1) (He:wJ R.length q 0=some 1)
include h hR hp hq OH OI hP hQ h1 h2 hw He
theorem avX {nx:LV} (hN:NX R nx) {lim:Nat} (az1:lim≤2000000): ∃(s:Int) (b1 b2:Bool) (lM:LV),NX R lM∧CC Gr (.int .i64 (lim:Int)::qg p q R (tG K mul) one A B [.list ab nx])=some (.int .i64 s:: .bool b1:: .bool b2::qg p q R (tG K mul) one A B [.list ab lM]):=by
 have h10:=hR.rl;obtain ⟨vs0,Rv,e0⟩:=afU hR hN (p:=p) (q:=q) (t:=tG K mul) (A:=A) (B:=B) (one:=one);have fill: ∀{vs nx:LV} {s:Int},VL K R.length vs→NX R nx→∃sx,VL K R.length sx∧Loop (ON CC (lim:Int) s (R.length:Int) (p.map cb) (q.map cb) (RV R) (tG K mul) one [] A B [] [] [] [] [] [] [] [] nx) (0,vs)=some ((R.length:Int),false,sx):=by
  intro vs nx s hv hn;obtain ⟨f,hf⟩:=afT hR hn;refine ⟨tab R.length fun i=>nV (f i),⟨fT,fun i hi=>⟨f i,(hf i hi).1,nG hi⟩⟩,?_⟩;refine uO (fun i a=>((i:Int),a)) R.length (fun i=>nV (f i)) vs hv.1 (fun a=>((R.length:Int),false,a)) (fun i hi a ha=> ?_) ?_
  ·obtain ⟨k,hk,uc⟩:=(hf i hi).2;simp only[ON,IQ,un,aM,bn];refine bT (bp hi) ((bY hk).trans (bs (DX hi) ?_));rw[V.ez];refine bs uc ((rZ (by omega)).trans ?_);rw[bz (by omega),Int.toNat_natCast];rfl
  ·simp only[ON,IQ,un];refine bF (aV (aw _)) ?_;rw[aV (aw _)]
 have key:=L5 (step:=DW CC (lim:Int)) (fun x=> ∃(s:Nat) (vs nx:LV),x=((s:Int),p.map cb,q.map cb,RV R,tG K mul,one,[],A,B,[],[],[],[],[],[],[],[],vs,nx)∧VL K R.length vs∧NX R nx∧s≤lim) (fun x=>lim-x.1.toNat)
  (fun r=>(∃(s:Int) (b1 b2:Bool) (lM:LV),NX R lM∧r= .inl (s,b1,b2,p.map cb,q.map cb,RV R,tG K mul,one,[],A,B,[],[],[],[],[],[],[],[],lM))∨∃(s:Int) (b:Bool) (vs lM:LV),NX R lM∧r= .inr (s,b,p.map cb,q.map cb,RV R,tG K mul,one,[],A,B,[],[],[],[],[],[],[],[],vs,lM))
  (fun x hx=> ?_) ((0:Int),p.map cb,q.map cb,RV R,tG K mul,one,[],A,B,[],[],[],[],[],[],[],[],vs0,nx) ⟨0,vs0,nx,rfl,Rv,hN,nf _⟩
 ·obtain ⟨r,e,hr⟩:=key;have fin: ∀z,OO CC (lim:Int) (p.map cb) (q.map cb) (RV R) (tG K mul) one [] A B [] [] [] [] [] [] [] [] nx=z→CC Gr (.int .i64 (lim:Int)::qg p q R (tG K mul) one A B [.list ab nx])=z:=fun z h=>avV h;rcases hr with ⟨s,b1,b2,lM,pJ,rfl⟩|⟨s,b,vs,lM,pJ,rfl⟩
  ·refine ⟨s,b1,b2,lM,pJ,fin _ ?_⟩;unfold OO;exact bs e0 (bs e rfl)
  ·refine ⟨s,false,false,lM,pJ,fin _ ?_⟩;unfold OO;exact bs e0 (bs e rfl)
 ·obtain ⟨s,vs,nx,rfl,hv,hn,hs⟩:=hx;by_cases c:s<lim
  ·obtain ⟨sx,vJ,ef⟩:=fill (s:=wrap .i64 ((s:Int)+1)) hv hn;obtain ⟨y1,_,Wj⟩:=afQ h hp OH hP h1 vJ hw;obtain ⟨y2,_,Wk⟩:=afQ h hq OI hQ h2 vJ He;obtain ⟨b,lM,pJ,ea⟩:=avW hR hn (p:=p) (q:=q) (t:=tG K mul) (A:=A) (B:=B) (one:=one);by_cases cy:((y1:Int) != (y2:Int))=true
   ·refine .inr ⟨.inl (wrap .i64 ((s:Int)+1),true,true,p.map cb,q.map cb,RV R,tG K mul,one,[],A,B,[],[],[],[],[],[],[],[],nx),?_,.inl ⟨_,_,_,_,hn,rfl⟩⟩;simp only[DW,AI,un];refine bT (bp c) ?_;rw[hn.1];exact bs ef (bs Wj (bs Wk (bT cy rfl)))
   ·have cy:((y1:Int) != (y2:Int))=false:=by simpa using cy
    cases b with
    | false=>
     refine .inr ⟨.inl (wrap .i64 ((s:Int)+1),false,true,p.map cb,q.map cb,RV R,tG K mul,one,[],A,B,[],[],[],[],[],[],[],[],lM),?_,.inl ⟨_,_,_,_,pJ,rfl⟩⟩;simp only[DW,AI,un];refine bT (bp c) ?_;rw[hn.1];exact bs ef (bs Wj (bs Wk (bF cy (bs ea (bT rfl rfl)))))
    | true=>
     refine .inl ⟨(((s+1:Nat):Int),p.map cb,q.map cb,RV R,tG K mul,one,[],A,B,[],[],[],[],[],[],[],[],sx,lM),?_,⟨s+1,sx,lM,rfl,vJ,pJ,c⟩,?_⟩
     ·simp only[DW,AI,un];refine bT (bp c) ?_;rw[hn.1];refine bs ef (bs Wj (bs Wk (bF cy (bs ea (bF rfl ?_)))));rw[bz (by omega)];rfl
     ·show lim-((s+1:Nat):Int).toNat<lim-(s:Int).toNat
      omega
  ·refine .inr ⟨.inr ((s:Int),false,p.map cb,q.map cb,RV R,tG K mul,one,[],A,B,[],[],[],[],[],[],[],[],vs,nx),?_,.inr ⟨_,_,_,_,hn,rfl⟩⟩;simp only[DW,AI,un];refine bF (aV (by omega)) ?_;rw[aV (by omega)]
end
noncomputable def IS (C:af) (table dK t15:LV) (t16 t17:Int) (mW:LV) {β:Type} (kn:(Int×LV)→Option β) (kr:((Bool) ⊕ (Int×Bool×LV))→Option β):Option β:=
 bif decide (t17<t16) then
  (idx t15 t17).bind fun x1=>
  bif decide ((x1.toInt:Int)<0) then
  kr (.inl false)
  else
  bif decide ((x1.toInt:Int)≥(table.length:Int)) then
   kr (.inl false)
  else
   bif decide (t17>0) then
   (idx dK (wrap .i64 (t17-1))).bind fun x2=>
   bif decide ((x2.toInt:Int)≥x1.toInt) then
    kr (.inl false)
   else
    bif (decide (0≤x1.toInt))&&(decide (x1.toInt<(mW.length:Int))) then
    (mW[(x1.toInt:Int).toNat]?).bind fun x3=>
    kn (wrap .i64 (t17+1),bn mW (x1.toInt) (.bool true))
    else none
   else
   bif (decide (0≤x1.toInt))&&(decide (x1.toInt<(mW.length:Int))) then
    (mW[(x1.toInt:Int).toNat]?).bind fun x4=>
    kn (wrap .i64 (t17+1),bn mW (x1.toInt) (.bool true))
   else none
 else
  kr (.inr (t17,decide (t17<t16),mW))
noncomputable def OP (C:af) (table dK t15:LV) (t16:Int):=un fun t17 mW=>IS C table dK t15 t16 t17 mW (fun y=>some (Sum.inl y)) (fun r=>some (Sum.inr r))
noncomputable def IT (C:af) (table dK:LV) (x:Int) (t47:LV) (t48 t49:Int) (t53:LV) (t54:Int) (mW:LV) (t55:Int) {β:Type} (kn:Int→Option β) (kr:((Bool) ⊕ (Int×Bool))→Option β):Option β:=
 bif decide (t55<t54) then
  (idx t53 t55).bind fun om=>
  (idx table x).bind fun p6=>
  (idx p6.toList om.toInt).bind fun kU=>
  bif (decide (0≤kU.toInt))&&(decide (kU.toInt<(mW.length:Int))) then
  (mW[(kU.toInt:Int).toNat]?).bind fun OQ=>
  bif !OQ.toBool then
   kr (.inl false)
  else
   kn (wrap .i64 (t55+1))
  else none
 else
  kr (.inr (t55,decide (t55<t54)))
noncomputable def OR (C:af) (table dK:LV) (x:Int) (t47:LV) (t48 t49:Int) (t53:LV) (t54:Int) (mW:LV):=fun t55=>IT C table dK x t47 t48 t49 t53 t54 mW t55 (fun y=>some (Sum.inl y)) (fun r=>some (Sum.inr r))
noncomputable def IU (C:af) (table dK t47:LV) (t48:Int) (mW:LV) (t49:Int) {β:Type} (kn:Int→Option β) (kr:((Bool) ⊕ (Int×Bool))→Option β):Option β:=
 bif decide (t49<t48) then
  (idx t47 t49).bind fun x9=>
  (Loop (OR C table dK x9.toInt t47 t48 t49 dK (dK.length:Int) mW) 0).bind (fg (fun (vB:Bool)=>
   kr (.inl vB)) (un fun (Kx:Int) (zf:Bool)=>
   kn (wrap .i64 (t49+1))))
 else
  kr (.inr (t49,decide (t49<t48)))
noncomputable def OS (C:af) (table dK t47:LV) (t48:Int) (mW:LV):=fun t49=>IU C table dK t47 t48 mW t49 (fun y=>some (Sum.inl y)) (fun r=>some (Sum.inr r))
noncomputable def Wl (C:af):cD:=bI 49 Uf [EQ,EQ,EQ,EQ,H1,H1] [[0],[1,2,3,4,0,0,0]] (@IS C) (bI 209 Ug [EQ,EQ,EQ,EQ,EQ,EQ,EQ,EQ,H1,EQ] [[0],[1,2,3,4,5,6,7,8,0,0,10]] (@IT C) (bI 161 Uh [EQ,EQ,EQ,EQ,H1,EQ] [[0],[1,2,3,4,0,0,6]] (@IU C) bB))
theorem avY (C:af):bD C (Wl C) 117 (Lp [1,1,0,1,0,0] 117):=bJ Uf [EQ,EQ,EQ,EQ,H1,H1] [[0],[1,2,3,4,0,0,0]] (@IS C) (bq au)
theorem avZ (C:af):bD C (Wl C) 117 (Lp [1,1,1,0,1,0,0,1,1,0,0,1,1,0,0] 117):=bJ Ug [EQ,EQ,EQ,EQ,EQ,EQ,EQ,EQ,H1,EQ] [[0],[1,2,3,4,5,6,7,8,0,0,10]] (@IT C) (bq au)
theorem av0 (C:af):bD C (Wl C) 117 (Lp [1,1,1,0,1,0,0] 117):=bJ Uh [EQ,EQ,EQ,EQ,H1,EQ] [[0],[1,2,3,4,0,0,6]] (@IU C) (bq (bE (avZ C) au))
noncomputable def OT (C:af) (table dK:LV):Option LV:=
 bif (decide (0≤(table.length:Int)))&&((decide ((table.length:Int)≤(table.length:Int)))&&(Nat.ble (((table.length:Int).toNat)*1) aX)) then
  (Loop (OP C table dK dK (dK.length:Int)) (0,List.replicate ((table.length:Int).toNat) (V.bool false))).bind (fg (fun (kC:Bool)=>
   some [.bool kC]) (un fun jz=>un fun (mL:Bool) (av1:LV)=>
   (Loop (OS C table dK dK (dK.length:Int) av1) 0).bind (fg (fun (OA:Bool)=>
    some [.bool OA]) (un fun (V0:Int) (V1:Bool)=>
    some [.bool true]))))
 else none
theorem av2 {table dK:LV} {r:Option LV} (h:OT CC table dK=r):CC Gy [.list ag table,.list ab dK]=r:=bC (bE (avY CC) (bE (av0 CC) au)) h
section
variable {K:Nat} {mul:Nat→Nat→Nat} (h:Tb K mul) {Z:List Nat} (hZ: ∀z∈Z,z<K) (hl:Z.length≤400)
include h hZ hl
theorem av3: ∃b,CC Gy [.list ag (tG K mul),.list ab (nS Z)]=some [.bool b]:=by
 have h4:=h.k4;have l1: ∃r,Loop (OP CC (tG K mul) (nS Z) (nS Z) (Z.length:Int)) (0,List.replicate K (V.bool false))=some r∧((∃b,r= .inl b)∨∃a:LV,a.length=K∧r= .inr ((Z.length:Int),false,a)):=by
  refine ym (fun i x=> ∃a:LV,a.length=K∧x=((i:Int),a)) (fun (r:Bool ⊕ (Int×Bool×LV))=>(∃b,r= .inl b)∨∃a:LV,a.length=K∧r= .inr ((Z.length:Int),false,a)) Z.length (fun i hi x hx=> ?_) (fun x hx=> ?_) Z.length 0 _ (dq _) ⟨_,by simp,rfl⟩
  ·obtain ⟨a,o3,rfl⟩:=hx;have hz:=hZ _ (dr hi);simp only[OP,IS,un];rw[sa];have fin:(bif (decide (0≤(nV Z[i]).toInt))&&(decide ((nV Z[i]).toInt<(a.length:Int))) then
     (a[((nV Z[i]).toInt:Int).toNat]?).bind fun _=>some (Sum.inl (β:=Bool ⊕ (Int×Bool×LV)) (wrap .i64 ((i:Int)+1),bn a ((nV Z[i]).toInt) (V.bool true)))
     else none)=some (Sum.inl (((i+1:Nat):Int),bn a ((nV Z[i]).toInt) (V.bool true))):=by
    refine bT (oO (by rw[o3];exact hz)) (bs (bU (by rw[o3];exact hz)) ?_);rw[bz (by omega)]
   have jf:(bn a ((nV Z[i]).toInt) (V.bool true)).length=K:=by simp only[bn];rw[oG,o3]
   rcases Ea i with c|c
   ·exact .inl ⟨_,bT (bp hi) (bs (iy hi) (bF yl (bF (DM hz) (bF (by simp[c]) fin)))),_,jf,rfl⟩
   ·have hp:idx (nS Z) (wrap .i64 ((i:Int)-1))=some (nV (Z[i-1]'(by omega))):=by
     rw[show wrap .i64 ((i:Int)-1)=((i-1:Nat):Int) by rw[show ((i:Int)-1)=((i-1:Nat):Int) by omega];exact wrap64 (by omega) (by omega)];exact iy (by omega)
    by_cases c2:((Z[i-1]'(by omega):Nat):Int)≥(Z[i]:Nat)
    ·exact .inr ⟨_,bT (bp hi) (bs (iy hi) (bF yl (bF (DM hz) (bT (cq (by omega)) (bs hp (bT (cq c2) rfl)))))),.inl ⟨_,rfl⟩⟩
    ·exact .inl ⟨_,bT (bp hi) (bs (iy hi) (bF yl (bF (DM hz) (bT (cq (by omega)) (bs hp (bF (c8 c2) fin)))))),_,jf,rfl⟩
  ·obtain ⟨a,o3,rfl⟩:=hx;simp only[OP,IS,un];exact ⟨_,bF (aV (aw _)) rfl,.inr ⟨a,o3,by rw[aV (aw _)]⟩⟩
 have l2: ∀{a:LV} {x:Nat} {s:LV} {p q:Int} {u:LV},a.length=K→x<K→s=nS Z→∃r,Loop (OR CC (tG K mul) (nS Z) (x:Int) u p q s (Z.length:Int) a) 0=some r∧((∃b,r= .inl b)∨r= .inr ((Z.length:Int),false)):=by
  rintro a x _ p q u o3 hx rfl;refine ym (fun i x=>x=(i:Int)) (fun (r:Bool ⊕ (Int×Bool))=>(∃b,r= .inl b)∨r= .inr ((Z.length:Int),false)) Z.length (fun i hi y hy=> ?_) (fun y hy=> ?_) Z.length 0 _ (dq _) rfl
  ·subst hy;have hz:=hZ _ (dr hi);have hm:=h.lt _ _ hx hz;simp only[OR,IT];have ky:a[mul x Z[i]]? =some (a[mul x Z[i]]'(by rw[o3];exact hm)):=bU (by rw[o3];exact hm);cases hb:(a[mul x Z[i]]'(by rw[o3];exact hm)).toBool with
   | true=>
    refine .inl ⟨_,bT (bp hi) (bs (iy hi) (bs (mV hx) (bs (o0 hz) (bT (oO (by rw[o3];exact hm)) (bs ky (bF (by rw[hb];rfl) rfl)))))),?_⟩;rw[bz (by omega)]
   | false=>
    exact .inr ⟨_,bT (bp hi) (bs (iy hi) (bs (mV hx) (bs (o0 hz) (bT (oO (by rw[o3];exact hm)) (bs ky (bT (by rw[hb];rfl) rfl)))))),.inl ⟨_,rfl⟩⟩
  ·subst hy;simp only[OR,IT];exact ⟨_,bF (aV (aw _)) rfl,.inr (by rw[aV (aw _)])⟩
 have l3: ∀{a:LV},a.length=K→∃r,Loop (OS CC (tG K mul) (nS Z) (nS Z) (Z.length:Int) a) 0=some r∧((∃b,r= .inl b)∨r= .inr ((Z.length:Int),false)):=by
  intro a o3;refine ym (fun i x=>x=(i:Int)) (fun (r:Bool ⊕ (Int×Bool))=>(∃b,r= .inl b)∨r= .inr ((Z.length:Int),false)) Z.length (fun i hi y hy=> ?_) (fun y hy=> ?_) Z.length 0 _ (dq _) rfl
  ·subst hy;have hz:=hZ _ (dr hi);obtain ⟨r,e,hr⟩:=l2 (a:=a) (x:=Z[i]) (s:=nS Z) (p:=(Z.length:Int)) (q:=(i:Int)) (u:=nS Z) o3 hz rfl;simp only[OS,IU];rcases hr with ⟨b,rfl⟩|rfl
   ·exact .inr ⟨_,bT (bp hi) (bs (iy hi) (bs (by rw[dC];exact e) rfl)),.inl ⟨_,rfl⟩⟩
   ·refine .inl ⟨_,bT (bp hi) (bs (iy hi) (bs (by rw[dC];exact e) rfl)),?_⟩;rw[bz (by omega)]
  ·subst hy;simp only[OS,IU];exact ⟨_,bF (aV (aw _)) rfl,.inr (by rw[aV (aw _)])⟩
 have fin: ∀z,OT CC (tG K mul) (nS Z)=z→CC Gy [.list ag (tG K mul),.list ab (nS Z)]=z:=fun z h=>av2 h;have body: ∃b,OT CC (tG K mul) (nS Z)=some [.bool b]:=by
  unfold OT;rw[sa,dC];obtain ⟨r,e,hr⟩:=l1;rcases hr with ⟨b,rfl⟩|⟨a,o3,rfl⟩
  ·exact ⟨b,bT (gB (by omega) (by omega)) (bs e rfl)⟩
  ·obtain ⟨r,e2,hr⟩:=l3 o3;rcases hr with ⟨b,rfl⟩|rfl
   ·exact ⟨b,bT (gB (by omega) (by omega)) (bs e (bs e2 rfl))⟩
   ·exact ⟨true,bT (gB (by omega) (by omega)) (bs e (bs e2 rfl))⟩
 obtain ⟨b,hb⟩:=body;exact ⟨b,fin _ hb⟩
end
noncomputable def IV (C:af) (table dK:LV) (i t33 t34:Int) (t37:LV) (t38:Int) (AJ AK AL AN AO AP AQ AR AS AT AU AV:Bool) (t39:Int) (kX:LV) {β:Type} (kn:(Int×LV)→Option β) (kr:(Int×Bool×LV)→Option β):Option β:=
 bif decide (t39<t38) then
  (idx t37 t39).bind fun x4=>
  bif (decide (0≤i))&&(decide (i<6)) then
  (([.bool AJ,.bool AK,.bool AL,.bool AN,.bool AO,.bool AP]:LV)[0+((i.toNat)*1)]?).bind fun x5=>
  bif !x5.toBool then
   aM kX i fun x6=>
   (kX[i.toNat]?).bind fun x7=>
   bif Nat.ble ((x7.toList.length+([V.int .i64 x4.toInt]:LV).length)*8) aX then
   CQ kX i <|
   bif (Nat.beq (i.toNat) (i.toNat))&&true then
    kn (wrap .i64 (t39+1),bn kX i (.list ab (x7.toList++([V.int .i64 x4.toInt]:LV))))
   else none
   else none
  else
   bif (decide (0≤i))&&(decide (i<6)) then
   (([.bool AQ,.bool AR,.bool AS,.bool AT,.bool AU,.bool AV]:LV)[0+((i.toNat)*1)]?).bind fun x8=>
   bif x8.toBool then
    aM kX i fun x9=>
    (kX[i.toNat]?).bind fun om=>
    bif Nat.ble ((om.toList.length+([V.int .i64 x4.toInt]:LV).length)*8) aX then
    CQ kX i <|
    bif (Nat.beq (i.toNat) (i.toNat))&&true then
     kn (wrap .i64 (t39+1),bn kX i (.list ab (om.toList++([V.int .i64 x4.toInt]:LV))))
    else none
    else none
   else
    (idx table x4.toInt).bind fun p6=>
    (idx p6.toList x4.toInt).bind fun kU=>
    bif (kU.toInt:Int)==x4.toInt then
    aM kX i fun OQ=>
    (kX[i.toNat]?).bind fun KD=>
    bif Nat.ble ((KD.toList.length+([V.int .i64 x4.toInt]:LV).length)*8) aX then
     CQ kX i <|
     bif (Nat.beq (i.toNat) (i.toNat))&&true then
     kn (wrap .i64 (t39+1),bn kX i (.list ab (KD.toList++([V.int .i64 x4.toInt]:LV))))
     else none
    else none
    else
    kn (wrap .i64 (t39+1),kX)
   else none
  else none
 else
  kr (t39,decide (t39<t38),kX)
noncomputable def IW (C:af) (table dK:LV) (i t33 t34:Int) (t37:LV) (t38:Int) (AJ AK AL AN AO AP AQ AR AS AT AU AV:Bool):=un fun t39 kX=>IV C table dK i t33 t34 t37 t38 AJ AK AL AN AO AP AQ AR AS AT AU AV t39 kX (fun y=>some (Sum.inl y)) (fun r=>some (Sum.inr r))
noncomputable def IX (C:af) (table dK:LV) (t33:Int) (AJ AK AL AN AO AP AQ AR AS AT AU AV:Bool) (t34:Int) (kX:LV) {β:Type} (kn:(Int×LV)→Option β) (kr:(Int×Bool×LV)→Option β):Option β:=
 bif decide (t34<t33) then
  (Loop (IW C table dK t34 t33 t34 dK (dK.length:Int) AJ AK AL AN AO AP AQ AR AS AT AU AV) (0,kX)).bind (un fun Kx=>un fun (zf:Bool) (av4:LV)=>
   kn (wrap .i64 (t34+1),av4))
 else
  kr (t34,decide (t34<t33),kX)
noncomputable def IY (C:af) (table dK:LV) (t33:Int) (AJ AK AL AN AO AP AQ AR AS AT AU AV:Bool):=un fun t34 kX=>IX C table dK t33 AJ AK AL AN AO AP AQ AR AS AT AU AV t34 kX (fun y=>some (Sum.inl y)) (fun r=>some (Sum.inr r))
noncomputable def afV (C:af):cD:=bI 161 Ui [EQ,EQ,EQ,EQ,EQ,EQ,EQ,H1,EQ,EQ,EQ,EQ,EQ,EQ,EQ,EQ,EQ,EQ,EQ,EQ,H1] [[1,2,3,4,5,6,7,0,0,9,10,11,12,13,14,15,16,17,18,19,20,0]] (@IV C) (bI 113 Uj [EQ,EQ,EQ,H1,EQ,EQ,EQ,EQ,EQ,EQ,EQ,EQ,EQ,EQ,EQ,EQ,H1] [[1,2,3,0,0,5,6,7,8,9,10,11,12,13,14,15,16,0]] (@IX C) bB)
theorem av5 (C:af):bD C (afV C) 121 (Lp [1,1,1,1,1,1,0,1,0,0,1,1,0,0,1,1,0,0] 121):=bJ Ui [EQ,EQ,EQ,EQ,EQ,EQ,EQ,H1,EQ,EQ,EQ,EQ,EQ,EQ,EQ,EQ,EQ,EQ,EQ,EQ,H1] [[1,2,3,4,5,6,7,0,0,9,10,11,12,13,14,15,16,17,18,19,20,0]] (@IV C) (bq au)
theorem av6 (C:af):bD C (afV C) 121 (Lp [1,1,1,1,1,1,0,1,0,0] 121):=bJ Uj [EQ,EQ,EQ,H1,EQ,EQ,EQ,EQ,EQ,EQ,EQ,EQ,EQ,EQ,EQ,EQ,H1] [[1,2,3,0,0,5,6,7,8,9,10,11,12,13,14,15,16,0]] (@IX C) (bq (bE (av5 C) au))
noncomputable def Wm (C:af) (table dK:LV) (lN lO:Int) (lQ:LV) (lR lS:Int) (lT:LV):Option LV:=
 (C gy [V.int .i64 lN,V.int .i64 lO,.list ai lQ,V.int .i64 0,V.int .i64 0,.list ai ([]:LV),.bool false,.bool false,.bool false,.bool false,.bool false,.bool false,.bool false,.bool false,.bool false,.bool false,.bool false,.bool false]).bind fun r1=>
 (C gy [V.int .i64 lR,V.int .i64 lS,.list ai lT,V.int .i64 0,V.int .i64 0,.list ai ([]:LV),.bool ((V.nth r1 0).toBool),.bool ((V.nth (r1.drop 1) 0).toBool),.bool ((V.nth ((r1.drop 1).drop 1) 0).toBool),.bool ((V.nth (((r1.drop 1).drop 1).drop 1) 0).toBool),.bool ((V.nth ((((r1.drop 1).drop 1).drop 1).drop 1) 0).toBool),.bool ((V.nth (((((r1.drop 1).drop 1).drop 1).drop 1).drop 1) 0).toBool),.bool ((V.nth (r1.drop 6) 0).toBool),.bool ((V.nth ((r1.drop 6).drop 1) 0).toBool),.bool ((V.nth (((r1.drop 6).drop 1).drop 1) 0).toBool),.bool ((V.nth ((((r1.drop 6).drop 1).drop 1).drop 1) 0).toBool),.bool ((V.nth (((((r1.drop 6).drop 1).drop 1).drop 1).drop 1) 0).toBool),.bool ((V.nth ((((((r1.drop 6).drop 1).drop 1).drop 1).drop 1).drop 1) 0).toBool)]).bind fun r2=>
 (C nr [.list ai ([.agg [V.int .i64 lN,V.int .i64 lO,.list ai lQ],.agg [V.int .i64 lR,V.int .i64 lS,.list ai lT]]:LV)]).bind fun r3=>
 bif (decide (0≤((V.nth r3 0).toInt)))&&((decide (((V.nth r3 0).toInt)≤((V.nth r3 0).toInt)))&&(Nat.ble ((((V.nth r3 0).toInt:Int).toNat)*24) aX)) then
  (Loop (IY C table dK ((List.replicate (((V.nth r3 0).toInt:Int).toNat) (V.list ab ([]:LV))).length:Int) ((V.nth r2 0).toBool) ((V.nth (r2.drop 1) 0).toBool) ((V.nth ((r2.drop 1).drop 1) 0).toBool) ((V.nth (((r2.drop 1).drop 1).drop 1) 0).toBool) ((V.nth ((((r2.drop 1).drop 1).drop 1).drop 1) 0).toBool) ((V.nth (((((r2.drop 1).drop 1).drop 1).drop 1).drop 1) 0).toBool) ((V.nth (r2.drop 6) 0).toBool) ((V.nth ((r2.drop 6).drop 1) 0).toBool) ((V.nth (((r2.drop 6).drop 1).drop 1) 0).toBool) ((V.nth ((((r2.drop 6).drop 1).drop 1).drop 1) 0).toBool) ((V.nth (((((r2.drop 6).drop 1).drop 1).drop 1).drop 1) 0).toBool) ((V.nth ((((((r2.drop 6).drop 1).drop 1).drop 1).drop 1).drop 1) 0).toBool)) (0,List.replicate (((V.nth r3 0).toInt:Int).toNat) (V.list ab ([]:LV)))).bind (un fun V0=>un fun (V1:Bool) (av7:LV)=>
   some [.list ag av7])
 else none
theorem av8 {table dK:LV} {lN lO:Int} {lQ:LV} {lR lS:Int} {lT:LV} {r:Option LV} (h:Wm CC table dK lN lO lQ lR lS lT=r):CC C9 [.list ag table,.list ab dK,V.int .i64 lN,V.int .i64 lO,.list ai lQ,V.int .i64 lR,V.int .i64 lS,.list ai lT]=r:=bC (bE (av6 CC) au) h
noncomputable def afW (C:af) (list:LV):Option LV:=
 some [.bool ((list.length:Int)==0)]
theorem av9 {list:LV} {r:Option LV} (h:afW CC list=r):CC xV [.list ab list]=r:=bC (L:=bB) au h
noncomputable def IZ (C:af) (s:LV) (t7 t8:Int) {β:Type} (kn:Int→Option β) (kr:((Int) ⊕ (Int×Bool))→Option β):Option β:=
 bif decide (t8<t7) then
  (idx s t8).bind fun x1=>
  (C xV [.list ab x1.toList]).bind fun r2=>
  bif (V.nth r2 0).toBool then
  kr (.inl t8)
  else
  kn (wrap .i64 (t8+1))
 else
  kr (.inr (t8,decide (t8<t7)))
noncomputable def OU (C:af) (s:LV) (t7:Int):=fun t8=>IZ C s t7 t8 (fun y=>some (Sum.inl y)) (fun r=>some (Sum.inr r))
noncomputable def awa (C:af):cD:=bI 33 UJ [EQ,EQ,H1] [[0],[1,2,0,0]] (@IZ C) bB
theorem awb (C:af):bD C (awa C) 163 (Lp [1,0,1,0,0] 163):=bJ UJ [EQ,EQ,H1] [[0],[1,2,0,0]] (@IZ C) (bq au)
noncomputable def Wn (C:af) (s:LV):Option LV:=
 (Loop (OU C s (s.length:Int)) 0).bind (fg (fun jJ=>
  some [V.int .i64 jJ]) (un fun (lx:Int) (kC:Bool)=>
  some [V.int .i64 (-1)]))
theorem afX {s:LV} {r:Option LV} (h:Wn CC s=r):CC Su [.list ag s]=r:=bC (bE (awb CC) au) h
noncomputable def Wo (C:af) (s:LV):Option LV:=
 (C Su [.list ag s]).bind fun r1=>
 some [.bool (decide ((((V.nth r1 0).toInt):Int)≥0))]
theorem afY {s:LV} {r:Option LV} (h:Wo CC s=r):CC My [.list ag s]=r:=bC (L:=bB) au h
noncomputable def Wp (C:af) (eS eT ew fh:LV) (fi:Int) (fj fk fl fm fo fp fq ft fu fv fw aI:LV):Option LV:=
 (C My [.list ag ew]).bind fun r1=>
 some [.bool ((V.nth r1 0).toBool),.list bG eS,.list bG eT,.list ag ew,.list ag fh,V.int .i64 fi,.list ab fj,.list ab fk,.list ab fl,.list ab fm,.list ab fo,.list ab fp,.list ab fq,.list ab ft,.list ab fu,.list ab fv,.list ab fw,.list ab aI]
theorem awc {eS eT ew fh:LV} {fi:Int} {fj fk fl fm fo fp fq ft fu fv fw aI:LV} {r:Option LV} (h:Wp CC eS eT ew fh fi fj fk fl fm fo fp fq ft fu fv fw aI=r):CC CX [.list bG eS,.list bG eT,.list ag ew,.list ag fh,V.int .i64 fi,.list ab fj,.list ab fk,.list ab fl,.list ab fm,.list ab fo,.list ab fp,.list ab fq,.list ab ft,.list ab fu,.list ab fv,.list ab fw,.list ab aI]=r:=bC (L:=bB) au h
noncomputable def I4 (C:af) (t9 t10:Int) (lists:LV) {β:Type} (kn:(Int×LV)→Option β) (kr:(Int×Bool×LV)→Option β):Option β:=
 bif decide (t10<t9) then
  aM lists t10 fun x1=>
  kn (wrap .i64 (t10+1),bn lists t10 (V.int .i64 t10))
 else
  kr (t10,decide (t10<t9),lists)
noncomputable def Wq (C:af) (t9:Int):=un fun t10 lists=>I4 C t9 t10 lists (fun y=>some (Sum.inl y)) (fun r=>some (Sum.inr r))
noncomputable def awd (C:af):cD:=bI 49 UE [EQ,H1,H1] [[1,0,0,0]] (@I4 C) bB
theorem awe (C:af):bD C (awd C) 156 (Lp [1,1,0,1,0,0] 156):=bJ UE [EQ,H1,H1] [[1,0,0,0]] (@I4 C) (bq au)
noncomputable def afZ (C:af) (t:LV):Option LV:=
 bif (decide (0≤(t.length:Int)))&&((decide ((t.length:Int)≤(t.length:Int)))&&(Nat.ble (((t.length:Int).toNat)*8) aX)) then
  (Loop (Wq C ((List.replicate ((t.length:Int).toNat) (V.int .i64 0)).length:Int)) (0,List.replicate ((t.length:Int).toNat) (V.int .i64 0))).bind (un fun AA=>un fun (jJ:Bool) (awf:LV)=>
   some [.list ab awf])
 else none
theorem awg {t:LV} {r:Option LV} (h:afZ CC t=r):CC MF [.list ag t]=r:=bC (bE (awe CC) au) h
noncomputable def I5 (C:af) (e t6:Int) (sc:LV) (t7:Int) {β:Type} (kn:Int→Option β) (kr:((Bool) ⊕ (Int×Bool))→Option β):Option β:=
 bif decide (t7<t6) then
  (idx sc e).bind fun x1=>
  (idx x1.toList t7).bind fun x2=>
  bif (x2.toInt:Int) != t7 then
  kr (.inl false)
  else
  (idx sc t7).bind fun x3=>
  (idx x3.toList e).bind fun x4=>
  bif (x4.toInt:Int) != t7 then
   kr (.inl false)
  else
   kn (wrap .i64 (t7+1))
 else
  kr (.inr (t7,decide (t7<t6)))
noncomputable def Wr (C:af) (e t6:Int) (sc:LV):=fun t7=>I5 C e t6 sc t7 (fun y=>some (Sum.inl y)) (fun r=>some (Sum.inr r))
noncomputable def awh (C:af):cD:=bI 33 UF [EQ,EQ,H1,EQ] [[0,4],[1,2,0,0,4]] (@I5 C) bB
theorem awi (C:af):bD C (awh C) 157 (Lp [1,0,1,0,0] 157):=bJ UF [EQ,EQ,H1,EQ] [[0,4],[1,2,0,0,4]] (@I5 C) (bq au)
noncomputable def af0 (C:af) (e:Int) (sc:LV):Option LV:=
 (Loop (Wr C e (sc.length:Int) sc) 0).bind (fg (fun (kC:Bool)=>
  some [.bool kC,.list ag sc]) (un fun (jz:Int) (mL:Bool)=>
  some [.bool true,.list ag sc]))
theorem awj {e:Int} {sc:LV} {r:Option LV} (h:af0 CC e sc=r):CC zQ [V.int .i64 e,.list ag sc]=r:=bC (bE (awi CC) au) h
noncomputable def OV (C:af) (s:LV) (t7 t8:Int) (fs:LV) {β:Type} (kn:(Int×LV)→Option β) (kr:((Int×LV) ⊕ (Int×Bool×LV))→Option β):Option β:=
 bif decide (t8<t7) then
  (idx s t8).bind fun x1=>
  (C zQ [V.int .i64 x1.toInt,.list ag fs]).bind fun r2=>
  bif (V.nth r2 0).toBool then
  kr (.inl (t8,(V.nth (r2.drop 1) 0).toList))
  else
  kn (wrap .i64 (t8+1),(V.nth (r2.drop 1) 0).toList)
 else
  kr (.inr (t8,decide (t8<t7),fs))
noncomputable def af1 (C:af) (s:LV) (t7:Int):=un fun t8 fs=>OV C s t7 t8 fs (fun y=>some (Sum.inl y)) (fun r=>some (Sum.inr r))
noncomputable def awk (C:af):cD:=bI 33 UD [EQ,EQ,H1,H1] [[0,0],[1,2,0,0,0]] (@OV C) bB
theorem awl (C:af):bD C (awk C) 155 (Lp [1,0,1,0,0] 155):=bJ UD [EQ,EQ,H1,H1] [[0,0],[1,2,0,0,0]] (@OV C) (bq au)
noncomputable def af2 (C:af) (s fs:LV):Option LV:=
 (Loop (af1 C s (s.length:Int)) (0,fs)).bind (fg (un fun (jJ:Int) (b_4:LV)=>
  some [V.int .i64 jJ,.list ag b_4]) (un fun kC=>un fun (jz:Bool) (awm:LV)=>
  some [V.int .i64 (-1),.list ag awm]))
theorem awn {s fs:LV} {r:Option LV} (h:af2 CC s fs=r):CC Ss [.list ab s,.list ag fs]=r:=bC (bE (awl CC) au) h
noncomputable def af3 (C:af) (t:LV):Option LV:=
 (C ME [.list ag t]).bind fun r1=>
 bif !((V.nth r1 0).toBool) then
  some [V.int .i64 (-1)]
 else
  (C MF [.list ag t]).bind fun r2=>
  (C Ss [.list ab ((V.nth r2 0).toList),.list ag t]).bind fun r3=>
  some [V.int .i64 ((V.nth r3 0).toInt)]
theorem awo {t:LV} {r:Option LV} (h:af3 CC t=r):CC Mx [.list ag t]=r:=bC (L:=bB) au h
theorem OW {R:List (List Nat)}:(RV R).length=R.length:=by simp[RV]
theorem awp {R:List (List Nat)} (hl:R.length≤10) (hlen: ∀i,i<R.length→(R.getD i []).length≤1000) {p q:List (Nat×Nat)} {t A B:LV} {one:Int} {l:LV}: ∃b,CC CX (qg p q R t one A B [.list ab l])=some (.bool b::qg p q R t one A B [.list ab l])∧(b=false→∀i,i<R.length→0<(R.getD i []).length):=by
 have key: ∃r,Loop (OU CC (RV R) (R.length:Int)) 0=some r∧((∃i:Nat,r= .inl (i:Int))∨(r= .inr ((R.length:Int),false)∧∀j,j<R.length→0<(R.getD j []).length)):=by
  refine ym (fun i x=>x=(i:Int)∧∀j,j<i→0<(R.getD j []).length) (fun (r:Int ⊕ (Int×Bool))=>(∃i:Nat,r= .inl (i:Int))∨(r= .inr ((R.length:Int),false)∧∀j,j<R.length→0<(R.getD j []).length)) R.length (fun i hi x hx=> ?_) (fun x hx=> ?_) R.length 0 0 (dq _) ⟨rfl,fun j hj=>(by omega)⟩
  ·obtain ⟨rfl,hx⟩:=hx;have e1:CC xV [.list ab (nS (R.getD i []))]=some [.bool ((((R.getD i []).length:Nat):Int)==0)]:=by
    refine av9 ?_;unfold afW;rw[dC]
   simp only[OU,IZ];by_cases c:0<(R.getD i []).length
   ·refine .inl ⟨_,bT (bp hi) (bs (DX hi) (bs (by rw[V.ez];exact e1) (bF ?_ rfl))),by rw[bz (by omega)],fun j hj=> ?_⟩
    ·show ((((R.getD i []).length:Nat):Int)==0)=false;rw[uV];omega
    ·by_cases cj:j=i
     ·rw[cj];exact c
     ·exact hx j (by omega)
   ·refine .inr ⟨_,bT (bp hi) (bs (DX hi) (bs (by rw[V.ez];exact e1) (bT ?_ rfl))),.inl ⟨i,rfl⟩⟩;show ((((R.getD i []).length:Nat):Int)==0)=true;rw[show (R.getD i []).length=0 by omega];rfl
  ·obtain ⟨rfl,hx⟩:=hx;simp only[OU,IZ];exact ⟨_,bF (aV (aw _)) rfl,.inr ⟨by rw[aV (aw _)],hx⟩⟩
 have fin: ∀b,CC My [.list ag (RV R)]=some [.bool b]→CC CX (qg p q R t one A B [.list ab l])=some (.bool b::qg p q R t one A B [.list ab l]):=fun b hb=>by
  have awq: ∀z,Wp CC (p.map cb) (q.map cb) (RV R) t one [] A B [] [] [] [] [] [] [] [] l=z→CC CX (qg p q R t one A B [.list ab l])=z:=fun z h=>awc h;refine awq _ ?_;unfold Wp;exact bs hb rfl
 obtain ⟨r,e,hr⟩:=key;rcases hr with ⟨i,rfl⟩|⟨rfl,hr⟩
 ·refine ⟨true,fin _ (afY ?_),fun e=>(by cases e)⟩;unfold Wo;refine bs (a:=[.int .i64 (i:Int)]) (afX ?_) ?_
  ·unfold Wn;rw[OW];exact bs e rfl
  ·show some [V.bool (decide ((i:Int)≥0))]=_;rw[cq (by omega)]
 ·refine ⟨false,fin _ (afY ?_),fun _=>hr⟩;unfold Wo;refine bs (a:=[.int .i64 (-1)]) (afX ?_) rfl;unfold Wn;rw[OW];exact bs e rfl
section
variable {K:Nat} {mul:Nat→Nat→Nat} (h:Tb K mul) (ha: ∀i j k,i<K→j<K→k<K→mul (mul i j) k=mul i (mul j k)) (ae: ∀j,j<K→mul 0 j=j∧mul j 0=j)
include h ha ae
theorem awr:CC Mx [.list ag (tG K mul)]=some [.int .i64 0]:=by
 have h1:=h.k1;have h4:=h.k4;have el:CC MF [.list ag (tG K mul)]=some [.list ab (nS (List.range K))]:=by
  refine awg ?_;unfold afZ;rw[sa];refine bT (gB (by omega) (by omega)) ?_;rw[Int.toNat_natCast,wW];refine bs (uO (fun i a=>((i:Int),a)) K nV (List.replicate K (V.int .i64 0)) (by simp) (fun a=>((K:Int),false,a)) (fun i hi a ha=> ?_) ?_) ?_
  ·simp only[Wq,I4,un,aM,bn];refine bT (bp hi) ((rZ (by omega)).trans ?_);rw[bz (by omega),Int.toNat_natCast];rfl
  ·simp only[Wq,I4,un];refine bF (aV (aw _)) ?_;rw[aV (aw _)]
  ·rw[Vp];refine congrArg (fun t=>some [V.list ab t]) ?_;rw[jX];exact dy fun j hj=>by rw[cP (by simpa using hj)];simp
 have i0:CC zQ [.int .i64 0,.list ag (tG K mul)]=some [.bool true,.list ag (tG K mul)]:=by
  refine awj ?_;unfold af0;rw[sa];refine bs (gz K (fun i=>(i:Int)) (.inr ((K:Int),false)) (fun i hi=> ?_) ?_) rfl
  ·simp only[Wr,I5];refine bT (bp hi) (bs (mV (i:=0) (by omega)) (bs (o0 hi) (bF ?_ (bs (mV hi) (bs (o0 (i:=0) (by omega)) (bF ?_ ?_))))))
   ·show (((mul 0 i:Nat):Int) != (i:Int))=false;rw[(ae i hi).1];simp
   ·show (((mul i 0:Nat):Int) != (i:Int))=false;rw[(ae i hi).2];simp
   ·rw[bz (by omega)]
  ·simp only[Wr,I5];rw[aV (aw _)];rfl
 refine awo ?_;unfold af3;refine bs (auQ h ha) (bF rfl (bs el (bs (a:=[.int .i64 0,.list ag (tG K mul)]) (awn ?_) rfl)));unfold af2;rw[show (V.nth [V.list ab (nS (List.range K))] 0).toList=nS (List.range K) from rfl,dC,jX];refine bs (jY (r:= .inl (0,tG K mul)) ?_) rfl;simp only[af1,OV,un];refine bT (bp (i:=0) h1) (bs (a:=nV 0) ?_ (bs i0 (bT rfl rfl)));have:=iy (S:=List.range K) (i:=0) (by rw[jX];omega);simpa using this
end
section
variable {K:Nat} {mul:Nat→Nat→Nat}
theorem aws {Z:List Nat} (hZ: ∀z∈Z,z<K) (AW:Z.length≤400) (cR cU:Nat→Bool) {nv:Nat} (hnv:nv≤6): ∃R,RG K R∧R.length=nv∧
  Loop (IY CC (tG K mul) (nS Z) (nv:Int) (cR 0) (cR 1) (cR 2) (cR 3) (cR 4) (cR 5) (cU 0) (cU 1) (cU 2) (cU 3) (cU 4) (cU 5)) (0,List.replicate nv (V.list ab ([]:LV)))=some ((nv:Int),false,RV R):=by
 have hO: ∀(f:Nat→Bool) (i:Nat),i<6→([.bool (f 0),.bool (f 1),.bool (f 2),.bool (f 3),.bool (f 4),.bool (f 5)]:LV)[0+(((i:Int).toNat)*1)]? =some (.bool (f i)):=by
  intro f i hi;rcases (by omega:i=0∨i=1∨i=2∨i=3∨i=4∨i=5) with rfl|rfl|rfl|rfl|rfl|rfl<;>rfl
 have inner: ∀{i:Nat} (hi:i<nv) {R:List (List Nat)} {a b:Int},R.length=nv→R.getD i []=[]→∃r:List Nat,(∀x∈r,x<K)∧r.length≤Z.length∧
   Loop (IW CC (tG K mul) (nS Z) (i:Int) a b (nS Z) (Z.length:Int) (cR 0) (cR 1) (cR 2) (cR 3) (cR 4) (cR 5) (cU 0) (cU 1) (cU 2) (cU 3) (cU 4) (cU 5)) (0,RV R)=some ((Z.length:Int),false,RV (R.set i r)):=by
  intro i hi R a b DY hRi;have key:=jB (step:=IW CC (tG K mul) (nS Z) (i:Int) a b (nS Z) (Z.length:Int) (cR 0) (cR 1) (cR 2) (cR 3) (cR 4) (cR 5) (cU 0) (cU 1) (cU 2) (cU 3) (cU 4) (cU 5))
   (fun j x=> ∃r:List Nat,(∀x∈r,x<K)∧r.length≤j∧x=((j:Int),RV (R.set i r))) (fun o=> ∃r:List Nat,(∀x∈r,x<K)∧r.length≤Z.length∧o=((Z.length:Int),false,RV (R.set i r))) Z.length 0 (0,RV R) (fun j _ hj x hx=> ?_) (fun x hx=> ?_) ⟨[],fun _ h=>(by cases h),aw _,?_⟩
  ·obtain ⟨o,e,r,h1,h2,rfl⟩:=key;exact ⟨r,h1,h2,e⟩
  ·obtain ⟨r,h1,h2,rfl⟩:=hx;have dX:j<Z.length:=by omega
   have hz:=hZ _ (dr dX);have ky:(RV (R.set i r))[i]? =some (.list ab (nS r)):=by simp[RV,DY,hi]
   have hlen:(RV (R.set i r)).length=nv:=by rw[OW,oG,DY]
   have jf:(RV (R.set i r)).set i (.list ab (nS r++[V.int .i64 (nV Z[j]).toInt]))=RV (R.set i (r++[Z[j]])):=by
    simp only[RV,List.map_set];rw[Bk];simp[nS,nV]
   have AX:(decide (0≤(i:Int))&&decide ((i:Int)<6))=true:=ki.2 ⟨cq (by omega),cq (by omega)⟩;have app:(bif Nat.ble (((V.list ab (nS r)).toList.length+([V.int .i64 (nV Z[j]).toInt]:LV).length)*8) aX then
     CQ (RV (R.set i r)) (i:Int) <| bif (Nat.beq ((i:Int).toNat) ((i:Int).toNat))&&true then
      some (Sum.inl (β:=Int×Bool×LV) (wrap .i64 ((j:Int)+1),bn (RV (R.set i r)) (i:Int) (.list ab ((V.list ab (nS r)).toList++([V.int .i64 (nV Z[j]).toInt]:LV)))))
     else none else none)=some (Sum.inl (((j+1:Nat):Int),RV (R.set i (r++[Z[j]])))):=by
    rw[V.ez];refine bT (cap (by rw[dC];simp;omega) (by omega)) ?_;refine bT (oO (by rw[hlen];exact hi)) (bT (by simp) ?_);simp only[bn,Int.toNat_natCast];rw[jf,bz (by omega)]
   have lJ:(∀x∈r++[Z[j]],x<K)∧(r++[Z[j]]).length≤j+1:=⟨fun x hx=>by
    rcases eD.1 hx with hx|hx
    ·exact h1 x hx
    ·rw[fx.1 hx];exact hz,by simp;omega⟩
   have Ws:(RV (R.set i r))[((i:Int).toNat)]? =some (.list ab (nS r)):=ky;simp only[IW,IV,un];cases ho:cR i with
   | false=>
    refine ⟨_,bT (bp dX) (bs (iy dX) (bT AX (bs (hO cR i (by omega)) (bT (by rw[ho];rfl) ((bY ky).trans (bs Ws app)))))),r++[Z[j]],lJ.1,lJ.2,rfl⟩
   | true=>
    cases he:cU i with
    | true=>
     refine ⟨_,bT (bp dX) (bs (iy dX) (bT AX (bs (hO cR i (by omega)) (bF (by rw[ho];rfl) (bT AX (bs (hO cU i (by omega)) (bT (by rw[he];rfl) ((bY ky).trans (bs Ws app))))))))),r++[Z[j]],lJ.1,lJ.2,rfl⟩
    | false=>
     by_cases cm:mul Z[j] Z[j]=Z[j]
     ·refine ⟨_,bT (bp dX) (bs (iy dX) (bT AX (bs (hO cR i (by omega)) (bF (by rw[ho];rfl) (bT AX (bs (hO cU i (by omega)) (bF (by rw[he];rfl) (bs (mV hz) (bs (o0 hz) (bT ?_ ((bY ky).trans (bs Ws app)))))))))))),r++[Z[j]],lJ.1,lJ.2,rfl⟩;show (((mul Z[j] Z[j]:Nat):Int)==((Z[j]:Nat):Int))=true;rw[cm];simp
     ·refine ⟨_,bT (bp dX) (bs (iy dX) (bT AX (bs (hO cR i (by omega)) (bF (by rw[ho];rfl) (bT AX (bs (hO cU i (by omega)) (bF (by rw[he];rfl) (bs (mV hz) (bs (o0 hz) (bF ?_ rfl)))))))))),r,h1,by omega,?_⟩
      ·show (((mul Z[j] Z[j]:Nat):Int)==((Z[j]:Nat):Int))=false;rw[uV];exact fun e=>cm (by exact_mod_cast e)
      ·rw[bz (by omega)]
  ·obtain ⟨r,h1,h2,rfl⟩:=hx;rw[dq] at*
   simp only[IW,IV,un];exact ⟨_,bF (aV (aw _)) rfl,r,h1,h2,cx rfl (cx (aV (aw _)) rfl)⟩
  ·have:R.set i []=R:=by
    refine uZ (by simp) fun k h1 h2=> ?_;by_cases c:i=k
    ·subst c;rw[List.getElem_set_self];rw[qi,bU h2,Option.getD_some] at hRi;exact hRi.symm
    ·rw[List.getElem_set_ne c]
   rw[this];rfl
 have key:=jB (step:=IY CC (tG K mul) (nS Z) (nv:Int) (cR 0) (cR 1) (cR 2) (cR 3) (cR 4) (cR 5) (cU 0) (cU 1) (cU 2) (cU 3) (cU 4) (cU 5))
  (fun i x=> ∃R:List (List Nat),R.length=nv∧(∀k,k<nv→(∀x∈R.getD k [],x<K)∧(R.getD k []).length≤Z.length∧(i≤k→R.getD k []=[]))∧x=((i:Int),RV R)) (fun o=> ∃R:List (List Nat),R.length=nv∧(∀k,k<nv→(∀x∈R.getD k [],x<K)∧(R.getD k []).length≤Z.length)∧o=((nv:Int),false,RV R)) nv 0 (0,List.replicate nv (V.list ab ([]:LV))) (fun i _ hi x hx=> ?_) (fun x hx=> ?_) ⟨List.replicate nv [],by simp,fun k hk=> ?_,?_⟩
 ·obtain ⟨o,e,R,h1,h2,rfl⟩:=key;exact ⟨R,⟨fun i hi x hx=>(h2 i (by omega)).1 x hx,fun i hi=>mX (h2 i (by omega)).2 (by omega),by omega⟩,h1,e⟩
 ·obtain ⟨R,h1,h2,rfl⟩:=hx;have bu:i<nv:=by omega
  obtain ⟨r,r1,r2,e⟩:=inner bu (R:=R) (a:=(nv:Int)) (b:=(i:Int)) h1 ((h2 i bu).2.2 (aw _));simp only[IY,IX,un];refine ⟨_,bT (bp bu) (bs (by rw[dC];exact e) rfl),R.set i r,by rw[oG,h1],fun k hk=> ?_,?_⟩
  ·by_cases c:i=k
   ·subst c;have:(R.set i r).getD i []=r:=by rw[qi,o7 (by omega),Option.getD_some]
    rw[this];exact ⟨r1,r2,fun h=>by omega⟩
   ·have:(R.set i r).getD k []=R.getD k []:=by rw[qi,uW c,←qi]
    rw[this];exact ⟨(h2 k hk).1,(h2 k hk).2.1,fun h=>(h2 k hk).2.2 (by omega)⟩
  ·rw[bz (by omega)]
 ·obtain ⟨R,h1,h2,rfl⟩:=hx;rw[dq] at*
  simp only[IY,IX,un];exact ⟨_,bF (aV (aw _)) rfl,R,h1,fun k hk=>⟨(h2 k hk).1,(h2 k hk).2.1⟩,cx rfl (cx (aV (aw _)) rfl)⟩
 ·have:(List.replicate nv ([]:List Nat)).getD k []=[]:=by rw[qi,Ec,aB hk];rfl
  rw[this];exact ⟨fun _ h=>(by cases h),nf _,fun _=>rfl⟩
 ·simp[RV,nS]
end
noncomputable def OX (C:af) (table dK:LV) (lN lO:Int) (lQ:LV) (lR lS:Int) (lT:LV):Option LV:=
 (C Gx [.list ag table]).bind fun r1=>
 bif (((V.nth r1 0).toInt):Int) != 0 then
  some [V.bool true,V.int .i64 ((V.nth r1 0).toInt)]
 else
  (C Gy [.list ag table,.list ab dK]).bind fun r2=>
  bif !((V.nth r2 0).toBool) then
  some [V.bool true,V.int .i64 1]
  else
  (C lY [V.int .i64 lN,V.int .i64 lO,.list ai lQ,V.int .i64 lR,V.int .i64 lS,.list ai lT]).bind fun r3=>
  bif (((V.nth r3 0).toInt):Int) != 0 then
   some [V.bool true,V.int .i64 21]
  else
   (C Mx [.list ag table]).bind fun r4=>
   bif decide ((((V.nth r4 0).toInt):Int)<0) then
   (C abo [.list ai ([.agg [V.int .i64 lN,V.int .i64 lO,.list ai lQ],.agg [V.int .i64 lR,V.int .i64 lS,.list ai lT]]:LV)]).bind fun r5=>
   bif (V.nth r5 0).toBool then
    some [V.bool true,V.int .i64 9]
   else
    (C fI [V.int .i64 lN,V.int .i64 lO,.list ai lQ]).bind fun r6=>
    (C fI [V.int .i64 lR,V.int .i64 lS,.list ai lT]).bind fun r7=>
    (C C9 [.list ag table,.list ab dK,V.int .i64 lN,V.int .i64 lO,.list ai lQ,V.int .i64 lR,V.int .i64 lS,.list ai lT]).bind fun r8=>
    (C Gz [.list ag table,V.int .i64 ((V.nth r4 0).toInt),.list GK ([.list bG ((V.nth r6 0).toList),.list bG ((V.nth r7 0).toList)]:LV)]).bind fun r9=>
    bif (decide (0≤(((V.nth r8 0).toList).length:Int)))&&((decide ((((V.nth r8 0).toList).length:Int)≤(((V.nth r8 0).toList).length:Int)))&&(Nat.ble ((((((V.nth r8 0).toList).length:Int):Int).toNat)*8) aX)) then
    some [V.bool false,.list bG ((V.nth r6 0).toList),.list bG ((V.nth r7 0).toList),.list ag ((V.nth r8 0).toList),.list ag ((V.nth r9 0).toList),V.int .i64 ((V.nth (r9.drop 1) 0).toInt),.list ab ((V.nth ((r9.drop 1).drop 1) 0).toList),.list ab ((V.nth (((r9.drop 1).drop 1).drop 1) 0).toList),.list ab ((V.nth ((((r9.drop 1).drop 1).drop 1).drop 1) 0).toList),.list ab ((V.nth (((((r9.drop 1).drop 1).drop 1).drop 1).drop 1) 0).toList),.list ab ((V.nth ((((((r9.drop 1).drop 1).drop 1).drop 1).drop 1).drop 1) 0).toList),.list ab ((V.nth (((((((r9.drop 1).drop 1).drop 1).drop 1).drop 1).drop 1).drop 1) 0).toList),.list ab ((V.nth ((((((((r9.drop 1).drop 1).drop 1).drop 1).drop 1).drop 1).drop 1).drop 1) 0).toList),.list ab ((V.nth (((((((((r9.drop 1).drop 1).drop 1).drop 1).drop 1).drop 1).drop 1).drop 1).drop 1) 0).toList),.list ab ((V.nth ((((((((((r9.drop 1).drop 1).drop 1).drop 1).drop 1).drop 1).drop 1).drop 1).drop 1).drop 1) 0).toList),.list ab ((V.nth (((((((((((r9.drop 1).drop 1).drop 1).drop 1).drop 1).drop 1).drop 1).drop 1).drop 1).drop 1).drop 1) 0).toList),.list ab ((V.nth ((((((((((((r9.drop 1).drop 1).drop 1).drop 1).drop 1).drop 1).drop 1).drop 1).drop 1).drop 1).drop 1).drop 1) 0).toList),.list ab (List.replicate (((((V.nth r8 0).toList).length:Int):Int).toNat) (V.int .i64 0))]
    else none
   else
   (C fI [V.int .i64 lN,V.int .i64 lO,.list ai lQ]).bind fun eZ=>
   (C fI [V.int .i64 lR,V.int .i64 lS,.list ai lT]).bind fun cd=>
   (C C9 [.list ag table,.list ab dK,V.int .i64 lN,V.int .i64 lO,.list ai lQ,V.int .i64 lR,V.int .i64 lS,.list ai lT]).bind fun tU=>
   (C Gz [.list ag table,V.int .i64 ((V.nth r4 0).toInt),.list GK ([.list bG ((V.nth eZ 0).toList),.list bG ((V.nth cd 0).toList)]:LV)]).bind fun gA=>
   bif (decide (0≤(((V.nth tU 0).toList).length:Int)))&&((decide ((((V.nth tU 0).toList).length:Int)≤(((V.nth tU 0).toList).length:Int)))&&(Nat.ble ((((((V.nth tU 0).toList).length:Int):Int).toNat)*8) aX)) then
    some [V.bool false,.list bG ((V.nth eZ 0).toList),.list bG ((V.nth cd 0).toList),.list ag ((V.nth tU 0).toList),.list ag ((V.nth gA 0).toList),V.int .i64 ((V.nth (gA.drop 1) 0).toInt),.list ab ((V.nth ((gA.drop 1).drop 1) 0).toList),.list ab ((V.nth (((gA.drop 1).drop 1).drop 1) 0).toList),.list ab ((V.nth ((((gA.drop 1).drop 1).drop 1).drop 1) 0).toList),.list ab ((V.nth (((((gA.drop 1).drop 1).drop 1).drop 1).drop 1) 0).toList),.list ab ((V.nth ((((((gA.drop 1).drop 1).drop 1).drop 1).drop 1).drop 1) 0).toList),.list ab ((V.nth (((((((gA.drop 1).drop 1).drop 1).drop 1).drop 1).drop 1).drop 1) 0).toList),.list ab ((V.nth ((((((((gA.drop 1).drop 1).drop 1).drop 1).drop 1).drop 1).drop 1).drop 1) 0).toList),.list ab ((V.nth (((((((((gA.drop 1).drop 1).drop 1).drop 1).drop 1).drop 1).drop 1).drop 1).drop 1) 0).toList),.list ab ((V.nth ((((((((((gA.drop 1).drop 1).drop 1).drop 1).drop 1).drop 1).drop 1).drop 1).drop 1).drop 1) 0).toList),.list ab ((V.nth (((((((((((gA.drop 1).drop 1).drop 1).drop 1).drop 1).drop 1).drop 1).drop 1).drop 1).drop 1).drop 1) 0).toList),.list ab ((V.nth ((((((((((((gA.drop 1).drop 1).drop 1).drop 1).drop 1).drop 1).drop 1).drop 1).drop 1).drop 1).drop 1).drop 1) 0).toList),.list ab (List.replicate (((((V.nth tU 0).toList).length:Int):Int).toNat) (V.int .i64 0))]
   else none
theorem awt {table dK:LV} {lN lO:Int} {lQ:LV} {lR lS:Int} {lT:LV} {r:Option LV} (h:OX CC table dK lN lO lQ lR lS lT=r):CC CW [.list ag table,.list ab dK,V.int .i64 lN,V.int .i64 lO,.list ai lQ,V.int .i64 lR,V.int .i64 lS,.list ai lT]=r:=bC (L:=bB) au h
noncomputable def wK (C:af) (table dK:LV) (lN lO:Int) (lQ:LV) (lR lS:Int) (lT:LV) (ec:Int):Option LV:=
 (C CW [.list ag table,.list ab dK,V.int .i64 lN,V.int .i64 lO,.list ai lQ,V.int .i64 lR,V.int .i64 lS,.list ai lT]).bind fun r1=>
 bif (V.nth r1 0).toBool then
  bif (((V.nth (r1.drop 1) 0).toInt):Int) != 0 then
  some [V.int .i64 0,V.int .i64 ((V.nth (r1.drop 1) 0).toInt),.list ab ([]:LV)]
  else
  bif decide (ec<1) then
   some [V.int .i64 0,V.int .i64 1,.list ab ([]:LV)]
  else
   bif decide (ec>1048576) then
   some [V.int .i64 0,V.int .i64 1,.list ab ([]:LV)]
   else none
 else
  bif decide (ec<1) then
  some [V.int .i64 0,V.int .i64 1,.list ab ([]:LV)]
  else
  bif decide (ec>1048576) then
   some [V.int .i64 0,V.int .i64 1,.list ab ([]:LV)]
  else
   (C CX [.list bG ((V.nth (r1.drop 1) 0).toList),.list bG ((V.nth ((r1.drop 1).drop 1) 0).toList),.list ag ((V.nth (((r1.drop 1).drop 1).drop 1) 0).toList),.list ag ((V.nth ((r1.drop 1).drop 3) 0).toList),V.int .i64 ((V.nth (((r1.drop 1).drop 3).drop 1) 0).toInt),.list ab ((V.nth ((((r1.drop 1).drop 3).drop 1).drop 1) 0).toList),.list ab ((V.nth (((((r1.drop 1).drop 3).drop 1).drop 1).drop 1) 0).toList),.list ab ((V.nth ((((((r1.drop 1).drop 3).drop 1).drop 1).drop 1).drop 1) 0).toList),.list ab ((V.nth (((((((r1.drop 1).drop 3).drop 1).drop 1).drop 1).drop 1).drop 1) 0).toList),.list ab ((V.nth ((((((((r1.drop 1).drop 3).drop 1).drop 1).drop 1).drop 1).drop 1).drop 1) 0).toList),.list ab ((V.nth (((((((((r1.drop 1).drop 3).drop 1).drop 1).drop 1).drop 1).drop 1).drop 1).drop 1) 0).toList),.list ab ((V.nth ((((((((((r1.drop 1).drop 3).drop 1).drop 1).drop 1).drop 1).drop 1).drop 1).drop 1).drop 1) 0).toList),.list ab ((V.nth (((((((((((r1.drop 1).drop 3).drop 1).drop 1).drop 1).drop 1).drop 1).drop 1).drop 1).drop 1).drop 1) 0).toList),.list ab ((V.nth ((((((((((((r1.drop 1).drop 3).drop 1).drop 1).drop 1).drop 1).drop 1).drop 1).drop 1).drop 1).drop 1).drop 1) 0).toList),.list ab ((V.nth (((((((((((((r1.drop 1).drop 3).drop 1).drop 1).drop 1).drop 1).drop 1).drop 1).drop 1).drop 1).drop 1).drop 1).drop 1) 0).toList),.list ab ((V.nth ((((((((((((((r1.drop 1).drop 3).drop 1).drop 1).drop 1).drop 1).drop 1).drop 1).drop 1).drop 1).drop 1).drop 1).drop 1).drop 1) 0).toList),.list ab ((V.nth (((r1.drop 1).drop 3).drop 13) 0).toList)]).bind fun r2=>
   bif (V.nth r2 0).toBool then
   some [V.int .i64 0,V.int .i64 9,.list ab ([]:LV)]
   else
   (C Gr [V.int .i64 ec,.list bG ((V.nth (r2.drop 1) 0).toList),.list bG ((V.nth ((r2.drop 1).drop 1) 0).toList),.list ag ((V.nth (((r2.drop 1).drop 1).drop 1) 0).toList),.list ag ((V.nth ((r2.drop 1).drop 3) 0).toList),V.int .i64 ((V.nth (((r2.drop 1).drop 3).drop 1) 0).toInt),.list ab ((V.nth ((((r2.drop 1).drop 3).drop 1).drop 1) 0).toList),.list ab ((V.nth (((((r2.drop 1).drop 3).drop 1).drop 1).drop 1) 0).toList),.list ab ((V.nth ((((((r2.drop 1).drop 3).drop 1).drop 1).drop 1).drop 1) 0).toList),.list ab ((V.nth (((((((r2.drop 1).drop 3).drop 1).drop 1).drop 1).drop 1).drop 1) 0).toList),.list ab ((V.nth ((((((((r2.drop 1).drop 3).drop 1).drop 1).drop 1).drop 1).drop 1).drop 1) 0).toList),.list ab ((V.nth (((((((((r2.drop 1).drop 3).drop 1).drop 1).drop 1).drop 1).drop 1).drop 1).drop 1) 0).toList),.list ab ((V.nth ((((((((((r2.drop 1).drop 3).drop 1).drop 1).drop 1).drop 1).drop 1).drop 1).drop 1).drop 1) 0).toList),.list ab ((V.nth (((((((((((r2.drop 1).drop 3).drop 1).drop 1).drop 1).drop 1).drop 1).drop 1).drop 1).drop 1).drop 1) 0).toList),.list ab ((V.nth ((((((((((((r2.drop 1).drop 3).drop 1).drop 1).drop 1).drop 1).drop 1).drop 1).drop 1).drop 1).drop 1).drop 1) 0).toList),.list ab ((V.nth (((((((((((((r2.drop 1).drop 3).drop 1).drop 1).drop 1).drop 1).drop 1).drop 1).drop 1).drop 1).drop 1).drop 1).drop 1) 0).toList),.list ab ((V.nth ((((((((((((((r2.drop 1).drop 3).drop 1).drop 1).drop 1).drop 1).drop 1).drop 1).drop 1).drop 1).drop 1).drop 1).drop 1).drop 1) 0).toList),.list ab ((V.nth (((r2.drop 1).drop 3).drop 13) 0).toList)]).bind fun r3=>
   bif (V.nth (r3.drop 1) 0).toBool then
    (C Gs [.list bG ((V.nth (r3.drop 3) 0).toList),.list bG ((V.nth ((r3.drop 3).drop 1) 0).toList),.list ag ((V.nth (((r3.drop 3).drop 1).drop 1) 0).toList),.list ag ((V.nth ((r3.drop 3).drop 3) 0).toList),V.int .i64 ((V.nth (((r3.drop 3).drop 3).drop 1) 0).toInt),.list ab ((V.nth ((((r3.drop 3).drop 3).drop 1).drop 1) 0).toList),.list ab ((V.nth (((((r3.drop 3).drop 3).drop 1).drop 1).drop 1) 0).toList),.list ab ((V.nth ((((((r3.drop 3).drop 3).drop 1).drop 1).drop 1).drop 1) 0).toList),.list ab ((V.nth (((((((r3.drop 3).drop 3).drop 1).drop 1).drop 1).drop 1).drop 1) 0).toList),.list ab ((V.nth ((((((((r3.drop 3).drop 3).drop 1).drop 1).drop 1).drop 1).drop 1).drop 1) 0).toList),.list ab ((V.nth (((((((((r3.drop 3).drop 3).drop 1).drop 1).drop 1).drop 1).drop 1).drop 1).drop 1) 0).toList),.list ab ((V.nth ((((((((((r3.drop 3).drop 3).drop 1).drop 1).drop 1).drop 1).drop 1).drop 1).drop 1).drop 1) 0).toList),.list ab ((V.nth (((((((((((r3.drop 3).drop 3).drop 1).drop 1).drop 1).drop 1).drop 1).drop 1).drop 1).drop 1).drop 1) 0).toList),.list ab ((V.nth ((((((((((((r3.drop 3).drop 3).drop 1).drop 1).drop 1).drop 1).drop 1).drop 1).drop 1).drop 1).drop 1).drop 1) 0).toList),.list ab ((V.nth (((((((((((((r3.drop 3).drop 3).drop 1).drop 1).drop 1).drop 1).drop 1).drop 1).drop 1).drop 1).drop 1).drop 1).drop 1) 0).toList),.list ab ((V.nth ((((((((((((((r3.drop 3).drop 3).drop 1).drop 1).drop 1).drop 1).drop 1).drop 1).drop 1).drop 1).drop 1).drop 1).drop 1).drop 1) 0).toList),.list ab ((V.nth (((r3.drop 3).drop 3).drop 13) 0).toList)]).bind fun r4=>
    some [V.int .i64 ((V.nth r3 0).toInt),V.int .i64 0,.list ab ((V.nth ((r4.drop 3).drop 13) 0).toList)]
   else
    bif (V.nth ((r3.drop 1).drop 1) 0).toBool then
    some [V.int .i64 ((V.nth r3 0).toInt),V.int .i64 9,.list ab ([]:LV)]
    else
    some [V.int .i64 0,V.int .i64 7,.list ab ([]:LV)]
theorem awu {table dK:LV} {lN lO:Int} {lQ:LV} {lR lS:Int} {lT:LV} {ec:Int} {r:Option LV} (h:wK CC table dK lN lO lQ lR lS lT ec=r):CC Gp [.list ag table,.list ab dK,V.int .i64 lN,V.int .i64 lO,.list ai lQ,V.int .i64 lR,V.int .i64 lS,.list ai lT,V.int .i64 ec]=r:=bC (L:=bB) au h
structure jA where
 l0:Int
 l1:Int
 l2:LV
 r0:Int
 r1:Int
 r2:LV
 p:List (Nat×Nat)
 q:List (Nat×Nat)
 o1:Nat→Bool
 e1:Nat→Bool
 cR:Nat→Bool
 cU:Nat→Bool
 nv:Nat
def cL (d:jA):List V:=[.int .i64 d.l0,.int .i64 d.l1,.list ai d.l2,.int .i64 d.r0,.int .i64 d.r1,.list ai d.r2]
def cQ (o e:Nat→Bool):List V:=[.bool (o 0),.bool (o 1),.bool (o 2),.bool (o 3),.bool (o 4),.bool (o 5),.bool (e 0),.bool (e 1),.bool (e 2),.bool (e 3),.bool (e 4),.bool (e 5)]
structure oj (d:jA):Prop where
 val:CC lY (cL d)=some [.int .i64 0]
 cl:CC fI [.int .i64 d.l0,.int .i64 d.l1,.list ai d.l2]=some [.list bG (d.p.map cb)]
 cr:CC fI [.int .i64 d.r0,.int .i64 d.r1,.list ai d.r2]=some [.list bG (d.q.map cb)]
 v1:CC gy ([.int .i64 d.l0,.int .i64 d.l1,.list ai d.l2,.int .i64 0,.int .i64 0,.list ai []]++cQ (fun _=>false) (fun _=>false))=some (cQ d.o1 d.e1)
 v2:CC gy ([.int .i64 d.r0,.int .i64 d.r1,.list ai d.r2,.int .i64 0,.int .i64 0,.list ai []]++cQ d.o1 d.e1)=some (cQ d.cR d.cU)
 vars:CC nr [.list ai [.agg [.int .i64 d.l0,.int .i64 d.l1,.list ai d.l2],.agg [.int .i64 d.r0,.int .i64 d.r1,.list ai d.r2]]]=some [.int .i64 (d.nv:Int)]
 nv:d.nv≤6
 okp: ∀s∈d.p,fC s
 okq: ∀s∈d.q,fC s
 lp:d.p.length≤1000
 lq:d.q.length≤1000
 wp:wJ d.nv d.p 0=some 1
 wq:wJ d.nv d.q 0=some 1
section
variable {K:Nat} {mul:Nat→Nat→Nat} (h:Tb K mul) (ha: ∀i j k,i<K→j<K→k<K→mul (mul i j) k=mul i (mul j k)) (ae: ∀j,j<K→mul 0 j=j∧mul j 0=j) {Z:List Nat} (hZ: ∀z∈Z,z<K) (AW:Z.length≤400) {d:jA} (hd:oj d)
include hZ AW hd
theorem awv: ∃R,RG K R∧R.length=d.nv∧CC C9 (.list ag (tG K mul):: .list ab (nS Z)::cL d)=some [.list ag (RV R)]:=by
 have hn:=hd.nv;obtain ⟨R,h1,h2,e⟩:=aws (mul:=mul) hZ AW d.cR d.cU hd.nv;have fin: ∀z,Wm CC (tG K mul) (nS Z) d.l0 d.l1 d.l2 d.r0 d.r1 d.r2=z→CC C9 (.list ag (tG K mul):: .list ab (nS Z)::cL d)=z:=fun z h=>av8 h;refine ⟨R,h1,h2,fin _ ?_⟩;unfold Wm;refine bs hd.v1 (bs hd.v2 (bs hd.vars (bT (gB (by omega) (by omega)) ?_)));rw[show (V.nth [V.int IntKind.i64 (d.nv:Int)] 0).toInt=(d.nv:Int) from rfl,Int.toNat_natCast,wW];exact bs e rfl
include h ha ae
theorem aww:(∃e:Int,e≠0∧CC CW (.list ag (tG K mul):: .list ab (nS Z)::cL d)=some [.bool true,.int .i64 e])∨∃R A B nx,RG K R∧R.length=d.nv∧qY K d.p d.p.length A B∧qY K d.q d.q.length A B∧nx=List.replicate R.length (V.int .i64 0)∧
  CC CW (.list ag (tG K mul):: .list ab (nS Z)::cL d)=some (.bool false::qg d.p d.q R (tG K mul) 0 A B [.list ab nx]):=by
 have hn:=hd.nv;have fin: ∀z,OX CC (tG K mul) (nS Z) d.l0 d.l1 d.l2 d.r0 d.r1 d.r2=z→CC CW (.list ag (tG K mul):: .list ab (nS Z)::cL d)=z:=fun z h=>awt h;obtain ⟨b,hc⟩:=av3 h hZ AW;cases b with
 | false=>
  refine .inl ⟨1,by omega,fin _ ?_⟩;unfold OX;exact bs (V7 h ha) (bF rfl (bs hc (bT rfl rfl)))
 | true=>
  obtain ⟨R,h1,h2,er⟩:=awv (mul:=mul) hZ AW hd;obtain ⟨A,B,_,_,hP,hQ,em⟩:=avo h ha hd.okp hd.okq hd.lp hd.lq (one:=0);refine .inr ⟨R,A,B,_,h1,h2,hP,hQ,rfl,fin _ ?_⟩;unfold OX;refine bs (V7 h ha) (bF rfl (bs hc (bF rfl (bs hd.val (bF rfl (bs (awr h ha ae) (bF rfl (bs hd.cl (bs hd.cr (bs er (bs em ?_)))))))))));have hl:((V.nth [V.list ag (RV R)] 0).toList.length:Int)=(R.length:Int):=by show ((RV R).length:Int)=_;rw[OW]
  simp only[hl];refine bT (gB (by omega) (by omega)) ?_;rw[Int.toNat_natCast];rfl
theorem awx (ec:Int): ∃(s e:Int) (l:LV),CC Gp (.list ag (tG K mul):: .list ab (nS Z)::(cL d++[.int .i64 ec]))=some [.int .i64 s,.int .i64 e,.list ab l]:=by
 have hk:=h.k1;have hn:=hd.nv;have fin: ∀z,wK CC (tG K mul) (nS Z) d.l0 d.l1 d.l2 d.r0 d.r1 d.r2 ec=z→CC Gp (.list ag (tG K mul):: .list ab (nS Z)::(cL d++[.int .i64 ec]))=z:=fun z h=>awu h;rcases aww h ha ae hZ AW hd with ⟨e,he,e0⟩|⟨R,A,B,nx,hR,DY,hP,hQ,xD,e0⟩
 ·refine ⟨0,e,[],fin _ ?_⟩;unfold wK;exact bs e0 (bT rfl (bT (by show (e != 0)=true;rw[bne_iff_ne];exact he) rfl))
 ·by_cases c1:ec<1
  ·refine ⟨0,1,[],fin _ ?_⟩;unfold wK;exact bs e0 (bF rfl (bT (cq c1) rfl))
  by_cases c2:ec>1048576
  ·refine ⟨0,1,[],fin _ ?_⟩;unfold wK;exact bs e0 (bF rfl (bF (c8 c1) (bT (cq c2) rfl)))
  obtain ⟨b,e1,hb⟩:=awp (R:=R) (by omega) hR.len (p:=d.p) (q:=d.q) (t:=tG K mul) (A:=A) (B:=B) (one:=0) (l:=nx);cases b with
  | true=>
   refine ⟨0,9,[],fin _ ?_⟩;unfold wK;exact bs e0 (bF rfl (bF (c8 c1) (bF (c8 c2) (bs e1 (bT rfl rfl)))))
  | false=>
   have bN:=hb rfl;have hN:NX R nx:=⟨by rw[xD,wW],fun i hi=>⟨0,bN i hi,by rw[xD,Ec,aB hi];rfl⟩⟩
   obtain ⟨lim,rfl⟩:=Jw (show 0≤ec by omega);have ho: ∀{p:List (Nat×Nat)},(∃s∈p,s.1=0)→∃o:Nat,o<K∧(0:Int)=(o:Int):=fun _=>⟨0,hk,rfl⟩
   obtain ⟨s,b1,b2,lM,hN',e2⟩:=avX h hR hd.okp hd.okq hd.lp hd.lq hP hQ ho ho (by rw[DY];exact hd.wp) (by rw[DY];exact hd.wq) hN (lim:=lim) (by omega);cases b1 with
   | true=>
    obtain ⟨vs,_,e3⟩:=afU hR hN' (p:=d.p) (q:=d.q) (t:=tG K mul) (A:=A) (B:=B) (one:=0);refine ⟨s,0,vs,fin _ ?_⟩;unfold wK;exact bs e0 (bF rfl (bF (c8 c1) (bF (c8 c2) (bs e1 (bF rfl (bs e2 (bT rfl (bs e3 rfl))))))))
   | false=>
    cases b2 with
    | true=>
     refine ⟨s,9,[],fin _ ?_⟩;unfold wK;exact bs e0 (bF rfl (bF (c8 c1) (bF (c8 c2) (bs e1 (bF rfl (bs e2 (bF rfl (bT rfl rfl))))))))
    | false=>
     refine ⟨0,7,[],fin _ ?_⟩;unfold wK;exact bs e0 (bF rfl (bF (c8 c1) (bF (c8 c2) (bs e1 (bF rfl (bs e2 (bF rfl (bF rfl rfl))))))))
end
noncomputable def I6 (C:af) (s:LV) (v t7 t8:Int) {β:Type} (kn:Int→Option β) (kr:((Int) ⊕ (Int×Bool))→Option β):Option β:=
 bif decide (t8<t7) then
  (idx s t8).bind fun x1=>
  bif v==x1.toInt then
  kr (.inl t8)
  else
  kn (wrap .i64 (t8+1))
 else
  kr (.inr (t8,decide (t8<t7)))
noncomputable def OY (C:af) (s:LV) (v t7:Int):=fun t8=>I6 C s v t7 t8 (fun y=>some (Sum.inl y)) (fun r=>some (Sum.inr r))
noncomputable def awy (C:af):cD:=bI 33 T8 [EQ,EQ,EQ,H1] [[0],[1,2,3,0,0]] (@I6 C) bB
theorem awz (C:af):bD C (awy C) 107 (Lp [1,0,1,0,0] 107):=bJ T8 [EQ,EQ,EQ,H1] [[0],[1,2,3,0,0]] (@I6 C) (bq au)
noncomputable def Wt (C:af) (s:LV) (v:Int):Option LV:=
 (Loop (OY C s v (s.length:Int)) 0).bind (fg (fun AA=>
  some [V.int .i64 AA]) (un fun (jJ:Int) (lx:Bool)=>
  some [V.int .i64 (-1)]))
theorem af4 {s:LV} {v:Int} {r:Option LV} (h:Wt CC s v=r):CC Mt [.list ab s,V.int .i64 v]=r:=bC (bE (awz CC) au) h
noncomputable def af5 (C:af) (s:LV) (v:Int):Option LV:=
 (C Mt [.list ab s,V.int .i64 v]).bind fun r1=>
 some [.bool (decide ((((V.nth r1 0).toInt):Int)≥0))]
theorem awA {s:LV} {v:Int} {r:Option LV} (h:af5 CC s v=r):CC Mp [.list ab s,V.int .i64 v]=r:=bC (L:=bB) au h
noncomputable def I7 (C:af) (n ss:Int) (ba:LV) (nR nT:Int) (nU:Bool) (nW ms:Int) (aF aP bm bR bL dY iR gm fU fV gn gC dR gN kV:LV) (i:Int) (fW ig:LV) {β:Type} (kn:(Int×LV×LV)→Option β) (kr:(Int×Bool×LV×LV)→Option β):Option β:=
 bif decide (i<n) then
  aM fU i fun x3=>
  bif (decide (0≤x3.toInt))&&(decide (x3.toInt<(fW.length:Int))) then
  (fW[(x3.toInt:Int).toNat]?).bind fun x4=>
  aM fV i fun x5=>
  bif Nat.ble (x4.toStr.length+(lg ([.int .u8 (wrap .u8 (wrap .i64 (97+x5.toInt)))]:LV)).length) pg then
   aM fW i fun x6=>
   aM ig i fun x7=>
   kn (wrap .i64 (i+1),bn fW i (.str (x4.toStr++(lg ([.int .u8 (wrap .u8 (wrap .i64 (97+x5.toInt)))]:LV)))),bn ig i (.bool true))
  else none
  else none
 else
  kr (i,decide (i<n),fW,ig)
noncomputable def I8 (C:af) (n ss:Int) (ba:LV) (nR nT:Int) (nU:Bool) (nW ms:Int) (aF aP bm bR bL dY iR gm fU fV gn gC dR gN kV:LV):=un fun i=>un fun fW ig=>I7 C n ss ba nR nT nU nW ms aF aP bm bR bL dY iR gm fU fV gn gC dR gN kV i fW ig (fun y=>some (Sum.inl y)) (fun r=>some (Sum.inr r))
noncomputable def I9 (C:af) (n i t87 t88 ss:Int) (ba:LV) (nR nT:Int) (nU:Bool) (nW ms:Int) (uS aP bm bR bL dY iR gm fU fV gn gC fW gN kV ig:LV) (j:Int) (dR:LV) {β:Type} (kn:(Int×LV)→Option β) (kr:(Int×Bool×LV)→Option β):Option β:=
 bif decide (j<n) then
  aM dR i fun x20=>
  aM dR i fun x21=>
  aM fV j fun NR=>
  (fc Tryz.prog ag dR [(i.toNat,0)]).bind fun x23=>
  bif (decide (0≤NR.toInt))&&(decide (NR.toInt<(x23.toList.length:Int))) then
  (fc Tryz.prog ag dR [(i.toNat,0)]).bind fun Ol=>
  (Ol.toList[(NR.toInt:Int).toNat]?).bind fun Wu=>
  bif (decide (0≤Wu.toInt))&&(decide (Wu.toInt<(uS.length:Int))) then
   (uS[(Wu.toInt:Int).toNat]?).bind fun Oj=>
   aM gn j fun x27=>
   (idx Oj.toList x27.toInt).bind fun x28=>
   (fc Tryz.prog ag dR [(i.toNat,0)]).bind fun x29=>
   bif (decide (0≤j))&&(decide (j<(x29.toList.length:Int))) then
   (fc Tryz.prog ag dR [(i.toNat,0)]).bind fun x30=>
   (x30.toList[j.toNat]?).bind fun x31=>
   kn (wrap .i64 (j+1),setRow Tryz.prog (bn x30.toList j (V.int .i64 x28.toInt)) ag dR [(i.toNat,0)])
   else none
  else none
  else none
 else
  kr (j,decide (j<n),dR)
noncomputable def DZ (C:af) (n i t87 t88 ss:Int) (ba:LV) (nR nT:Int) (nU:Bool) (nW ms:Int) (uS aP bm bR bL dY iR gm fU fV gn gC fW gN kV ig:LV):=un fun j dR=>I9 C n i t87 t88 ss ba nR nT nU nW ms uS aP bm bR bL dY iR gm fU fV gn gC fW gN kV ig j dR (fun y=>some (Sum.inl y)) (fun r=>some (Sum.inr r))
noncomputable def Ja (C:af) (n t87 ss:Int) (ba:LV) (nR nT:Int) (nU:Bool) (nW ms:Int) (uS aP bm bR bL dY iR gm fU fV gn gC fW gN kV:LV) (t88:Int) (dR ig:LV) {β:Type} (kn:(Int×LV×LV)→Option β) (kr:(Int×Bool×LV×LV)→Option β):Option β:=
 bif decide (t88<t87) then
  aM uS t88 fun kU=>
  bif decide (0<(ig.length:Int)) then
  (ig[0]?).bind fun OQ=>
  bif OQ.toBool then
   bif decide (0<(ig.length:Int)) then
   (ig[0]?).bind fun KD=>
   bif (decide (0≤n))&&((decide (n≤n))&&(Nat.ble ((n.toNat)*8) aX)) then
    aM dR t88 fun KE=>
    aM (bn dR t88 (.list ab (List.replicate (n.toNat) (V.int .i64 0)))) t88 fun KF=>
    (fc Tryz.prog ag (bn dR t88 (.list ab (List.replicate (n.toNat) (V.int .i64 0)))) [(t88.toNat,0)]).bind fun vC=>
    bif decide (0<(vC.toList.length:Int)) then
    (fc Tryz.prog ag (bn dR t88 (.list ab (List.replicate (n.toNat) (V.int .i64 0)))) [(t88.toNat,0)]).bind fun KG=>
    (KG.toList[0]?).bind fun DI=>
    (Loop (DZ C n t88 t87 t88 ss ba nR nT nU nW ms uS aP bm bR bL dY iR gm fU fV gn gC fW gN kV (ig.set 0 (.bool true))) (1,setRow Tryz.prog (KG.toList.set 0 (V.int .i64 t88)) ag (bn dR t88 (.list ab (List.replicate (n.toNat) (V.int .i64 0)))) [(t88.toNat,0)])).bind (un fun az2=>un fun (avP:Bool) (Ar:LV)=>
     kn (wrap .i64 (t88+1),Ar,ig.set 0 (.bool true)))
    else none
   else none
   else none
  else
   (C Mp [.list ab kU.toList,V.int .i64 0]).bind fun r35=>
   bif decide (0<(ig.length:Int)) then
   (ig[0]?).bind fun x36=>
   bif (decide (0≤n))&&((decide (n≤n))&&(Nat.ble ((n.toNat)*8) aX)) then
    aM dR t88 fun x37=>
    aM (bn dR t88 (.list ab (List.replicate (n.toNat) (V.int .i64 0)))) t88 fun x38=>
    (fc Tryz.prog ag (bn dR t88 (.list ab (List.replicate (n.toNat) (V.int .i64 0)))) [(t88.toNat,0)]).bind fun x39=>
    bif decide (0<(x39.toList.length:Int)) then
    (fc Tryz.prog ag (bn dR t88 (.list ab (List.replicate (n.toNat) (V.int .i64 0)))) [(t88.toNat,0)]).bind fun x40=>
    (x40.toList[0]?).bind fun x41=>
    (Loop (DZ C n t88 t87 t88 ss ba nR nT nU nW ms uS aP bm bR bL dY iR gm fU fV gn gC fW gN kV (ig.set 0 (.bool ((V.nth r35 0).toBool)))) (1,setRow Tryz.prog (x40.toList.set 0 (V.int .i64 t88)) ag (bn dR t88 (.list ab (List.replicate (n.toNat) (V.int .i64 0)))) [(t88.toNat,0)])).bind (un fun az3=>un fun (VE:Bool) (Ik:LV)=>
     kn (wrap .i64 (t88+1),Ik,ig.set 0 (.bool ((V.nth r35 0).toBool))))
    else none
   else none
   else none
  else none
 else
  kr (t88,decide (t88<t87),dR,ig)
noncomputable def OZ (C:af) (n t87 ss:Int) (ba:LV) (nR nT:Int) (nU:Bool) (nW ms:Int) (uS aP bm bR bL dY iR gm fU fV gn gC fW gN kV:LV):=un fun t88=>un fun dR ig=>Ja C n t87 ss ba nR nT nU nW ms uS aP bm bR bL dY iR gm fU fV gn gC fW gN kV t88 dR ig (fun y=>some (Sum.inl y)) (fun r=>some (Sum.inr r))
noncomputable def Jb (C:af) (n k' t163 t164 t176 D0:Int) (ba:LV) (nR nT:Int) (nU:Bool) (nW ms Wv:Int) (Ww:LV) (Wx:Int) (AY Wy bL dY iR gm fU fV gn gC dR fW gN kV ig D1 af6:LV) (t177:Int) (ra:LV) {β:Type} (kn:(Int×LV)→Option β) (kr:(Int×Bool×LV)→Option β):Option β:=
 bif decide (t177<t176) then
  aM Wy t177 fun x51=>
  aM ra k' fun x52=>
  (C Mq [V.int .i64 Wv,.list ak Ww,V.int .i64 Wx,.list ab x51.toList]).bind fun r53=>
  (fc Tryz.prog ov ra [(k'.toNat,0)]).bind fun x54=>
  bif (decide (0≤t177))&&(decide (t177<(x54.toList.length:Int))) then
  (fc Tryz.prog ov ra [(k'.toNat,0)]).bind fun x55=>
  (x55.toList[t177.toNat]?).bind fun x56=>
  kn (wrap .i64 (t177+1),setRow Tryz.prog (bn x55.toList t177 (.bool ((V.nth r53 0).toBool))) ov ra [(k'.toNat,0)])
  else none
 else
  kr (t177,decide (t177<t176),ra)
noncomputable def O0 (C:af) (n k' t163 t164 t176 D0:Int) (ba:LV) (nR nT:Int) (nU:Bool) (nW ms Wv:Int) (Ww:LV) (Wx:Int) (AY Wy bL dY iR gm fU fV gn gC dR fW gN kV ig D1 af6:LV):=un fun t177 ra=>Jb C n k' t163 t164 t176 D0 ba nR nT nU nW ms Wv Ww Wx AY Wy bL dY iR gm fU fV gn gC dR fW gN kV ig D1 af6 t177 ra (fun y=>some (Sum.inl y)) (fun r=>some (Sum.inr r))
noncomputable def Jc (C:af) (n t163 D0:Int) (ba:LV) (nR nT:Int) (nU:Bool) (nW ms:Int) (AY bm bR bL dY iR gm fU fV gn gC dR fW gN kV ig D1:LV) (t164:Int) (ra:LV) {β:Type} (kn:(Int×LV)→Option β) (kr:(Int×Bool×LV)→Option β):Option β:=
 bif decide (t164<t163) then
  aM AY t164 fun Wz=>
  bif (decide (0≤n))&&((decide (n≤n))&&(Nat.ble ((n.toNat)*1) aX)) then
  aM ra t164 fun x50=>
  (Loop (O0 C n t164 t163 t164 (fU.length:Int) D0 ba nR nT nU nW ms ((Wz.cell 0).toInt) ((Wz.cell 1).toList) ((Wz.cell 2).toInt) AY fU bm bR bL dY iR gm fV gn gC dR fW gN kV ig D1) (0,bn ra t164 (.list ak (List.replicate (n.toNat) (V.bool false))))).bind (un fun atC=>un fun (atD:Bool) (awB:LV)=>
   kn (wrap .i64 (t164+1),awB))
  else none
 else
  kr (t164,decide (t164<t163),ra)
noncomputable def O1 (C:af) (n t163 D0:Int) (ba:LV) (nR nT:Int) (nU:Bool) (nW ms:Int) (AY bm bR bL dY iR gm fU fV gn gC dR fW gN kV ig D1:LV):=un fun t164 ra=>Jc C n t163 D0 ba nR nT nU nW ms AY bm bR bL dY iR gm fU fV gn gC dR fW gN kV ig D1 t164 ra (fun y=>some (Sum.inl y)) (fun r=>some (Sum.inr r))
noncomputable def Jd (C:af):cD:=bI 145 TJ [EQ,H1,EQ,EQ,EQ,EQ,EQ,EQ,EQ,EQ,EQ,EQ,EQ,EQ,EQ,EQ,EQ,EQ,EQ,EQ,EQ,EQ,H1,EQ,EQ,H1] [[1,0,0,3,4,5,6,7,8,9,10,11,12,13,14,15,16,17,18,19,20,21,22,0,24,25,0]] (@I7 C) (bI 321 TK [EQ,EQ,H1,EQ,EQ,EQ,EQ,EQ,EQ,EQ,EQ,EQ,EQ,EQ,EQ,EQ,EQ,EQ,EQ,EQ,EQ,EQ,EQ,EQ,H1,EQ,EQ,EQ,EQ] [[1,2,0,4,5,0,6,7,8,9,10,11,12,13,14,15,16,17,18,19,20,21,22,23,24,0,26,27,28,29]] (@I9 C) (bI 225 TL [EQ,EQ,H1,EQ,EQ,EQ,EQ,EQ,EQ,EQ,EQ,EQ,EQ,EQ,EQ,EQ,EQ,EQ,EQ,EQ,EQ,EQ,H1,EQ,EQ,EQ,H1] [[1,2,0,0,4,5,6,7,8,9,10,11,12,13,14,15,16,17,18,19,20,21,22,0,24,25,26,0]] (@Ja C) (bI 481 TM [EQ,EQ,EQ,EQ,EQ,H1,EQ,EQ,EQ,EQ,EQ,EQ,EQ,H1,EQ,EQ,EQ,EQ,EQ,EQ,EQ,EQ,EQ,EQ,EQ,EQ,EQ,EQ,EQ,EQ,EQ,EQ,EQ,EQ] [[1,2,3,4,5,0,0,7,8,9,10,11,12,13,0,15,16,17,18,19,20,21,22,23,24,25,26,27,28,29,30,31,32,33,34]] (@Jb C) (bI 417 TN [EQ,EQ,H1,EQ,EQ,EQ,EQ,EQ,EQ,EQ,H1,EQ,EQ,EQ,EQ,EQ,EQ,EQ,EQ,EQ,EQ,EQ,EQ,EQ,EQ,EQ,EQ,EQ] [[1,2,0,0,4,5,6,7,8,9,10,0,12,13,14,15,16,17,18,19,20,21,22,23,24,25,26,27,28]] (@Jc C) bB))))
theorem awC (C:af):bD C (Jd C) 55 (Lp [1,1,1,1,1,1,0,1,0,0] 55):=bJ TJ [EQ,H1,EQ,EQ,EQ,EQ,EQ,EQ,EQ,EQ,EQ,EQ,EQ,EQ,EQ,EQ,EQ,EQ,EQ,EQ,EQ,EQ,H1,EQ,EQ,H1] [[1,0,0,3,4,5,6,7,8,9,10,11,12,13,14,15,16,17,18,19,20,21,22,0,24,25,0]] (@I7 C) (bq au)
theorem awD (C:af):bD C (Jd C) 55 (Lp [1,1,1,1,1,1,1,0,1,0,0,1,1,0,0,1,1,1,1,1,0,0] 55):=bJ TK [EQ,EQ,H1,EQ,EQ,EQ,EQ,EQ,EQ,EQ,EQ,EQ,EQ,EQ,EQ,EQ,EQ,EQ,EQ,EQ,EQ,EQ,EQ,EQ,H1,EQ,EQ,EQ,EQ] [[1,2,0,4,5,0,6,7,8,9,10,11,12,13,14,15,16,17,18,19,20,21,22,23,24,0,26,27,28,29]] (@I9 C) (bq au)
theorem awE (C:af):bD C (Jd C) 55 (Lp [1,1,1,1,1,1,1,0,1,0,0] 55):=bJ TL [EQ,EQ,H1,EQ,EQ,EQ,EQ,EQ,EQ,EQ,EQ,EQ,EQ,EQ,EQ,EQ,EQ,EQ,EQ,EQ,EQ,EQ,H1,EQ,EQ,EQ,H1] [[1,2,0,0,4,5,6,7,8,9,10,11,12,13,14,15,16,17,18,19,20,21,22,0,24,25,26,0]] (@Ja C) (bq (bE (awD C) au))
theorem awF (C:af):bD C (Jd C) 55 (Lp [1,1,1,1,1,1,1,1,1,0,1,0,0,1,1,0,0,1,1,1,0,0] 55):=bJ TM [EQ,EQ,EQ,EQ,EQ,H1,EQ,EQ,EQ,EQ,EQ,EQ,EQ,H1,EQ,EQ,EQ,EQ,EQ,EQ,EQ,EQ,EQ,EQ,EQ,EQ,EQ,EQ,EQ,EQ,EQ,EQ,EQ,EQ] [[1,2,3,4,5,0,0,7,8,9,10,11,12,13,0,15,16,17,18,19,20,21,22,23,24,25,26,27,28,29,30,31,32,33,34]] (@Jb C) (bq au)
theorem awG (C:af):bD C (Jd C) 55 (Lp [1,1,1,1,1,1,1,1,1,0,1,0,0] 55):=bJ TN [EQ,EQ,H1,EQ,EQ,EQ,EQ,EQ,EQ,EQ,H1,EQ,EQ,EQ,EQ,EQ,EQ,EQ,EQ,EQ,EQ,EQ,EQ,EQ,EQ,EQ,EQ,EQ] [[1,2,0,0,4,5,6,7,8,9,10,0,12,13,14,15,16,17,18,19,20,21,22,23,24,25,26,27,28]] (@Jc C) (bq (bE (awF C) au))
noncomputable def Je (C:af) (ss:Int) (ba aI:LV):Option LV:=
 (C Mo [.list ag ba,.bool true]).bind fun r1=>
 bif (((V.nth (r1.drop 3) 0).toInt):Int) != 0 then
  some [V.int .i64 0,.list ag ([]:LV),.list cu ([]:LV),.list ab ([]:LV),.list ak ([]:LV),.list ak ([]:LV),.list ov ([]:LV),V.int .i64 ((V.nth (r1.drop 3) 0).toInt),V.int .i64 ss,.list ag ba,.list kQ aI]
 else
  bif decide (((((V.nth ((r1.drop 4).drop 1) 0).toList).length:Int):Int)>400) then
  some [V.int .i64 0,.list ag ([]:LV),.list cu ([]:LV),.list ab ([]:LV),.list ak ([]:LV),.list ak ([]:LV),.list ov ([]:LV),V.int .i64 3,V.int .i64 ss,.list ag ba,.list kQ aI]
  else
  bif (decide (0≤(((V.nth ((r1.drop 4).drop 1) 0).toList).length:Int)))&&((decide ((((V.nth ((r1.drop 4).drop 1) 0).toList).length:Int)≤(((V.nth ((r1.drop 4).drop 1) 0).toList).length:Int)))&&(Nat.ble ((((((V.nth ((r1.drop 4).drop 1) 0).toList).length:Int):Int).toNat)*24) aX)) then
   bif (decide (0≤(((V.nth ((r1.drop 4).drop 1) 0).toList).length:Int)))&&((decide ((((V.nth ((r1.drop 4).drop 1) 0).toList).length:Int)≤(((V.nth ((r1.drop 4).drop 1) 0).toList).length:Int)))&&(Nat.ble ((((((V.nth ((r1.drop 4).drop 1) 0).toList).length:Int):Int).toNat)*16) aX)) then
   bif decide (0<(((V.nth (((((r1.drop 4).drop 1).drop 1).drop 1).drop 1) 0).toList).length:Int)) then
    (((V.nth (((((r1.drop 4).drop 1).drop 1).drop 1).drop 1) 0).toList)[0]?).bind fun x2=>
    bif Nat.ble (x2.toList.length*8) aX then
    bif (decide (0≤(((V.nth ((r1.drop 4).drop 1) 0).toList).length:Int)))&&((decide ((((V.nth ((r1.drop 4).drop 1) 0).toList).length:Int)≤(((V.nth ((r1.drop 4).drop 1) 0).toList).length:Int)))&&(Nat.ble ((((((V.nth ((r1.drop 4).drop 1) 0).toList).length:Int):Int).toNat)*1) aX)) then
     (Loop (I8 C (((V.nth ((r1.drop 4).drop 1) 0).toList).length:Int) ss ba 0 ((V.nth r1 0).toInt) ((V.nth (r1.drop 1) 0).toBool) ((V.nth ((r1.drop 1).drop 1) 0).toInt) (ba.length:Int) aI ([]:LV) ([]:LV) ([]:LV) ([]:LV) ([]:LV) ((V.nth (r1.drop 4) 0).toList) ((V.nth ((r1.drop 4).drop 1) 0).toList) ((V.nth (((r1.drop 4).drop 1).drop 1) 0).toList) ((V.nth ((((r1.drop 4).drop 1).drop 1).drop 1) 0).toList) ((V.nth (((((r1.drop 4).drop 1).drop 1).drop 1).drop 1) 0).toList) ((V.nth ((((((r1.drop 4).drop 1).drop 1).drop 1).drop 1).drop 1) 0).toList) (List.replicate (((((V.nth ((r1.drop 4).drop 1) 0).toList).length:Int):Int).toNat) (V.list ab ([]:LV))) x2.toList ([]:LV)) (1,List.replicate (((((V.nth ((r1.drop 4).drop 1) 0).toList).length:Int):Int).toNat) (V.str []),List.replicate (((((V.nth ((r1.drop 4).drop 1) 0).toList).length:Int):Int).toNat) (V.bool false))).bind (un fun i_8=>un fun (uJ:Bool)=>un fun (qR:LV) (Ai:LV)=>
      (Loop (OZ C (((V.nth ((r1.drop 4).drop 1) 0).toList).length:Int) (((V.nth (((((r1.drop 4).drop 1).drop 1).drop 1).drop 1) 0).toList).length:Int) ss ba 0 ((V.nth r1 0).toInt) ((V.nth (r1.drop 1) 0).toBool) ((V.nth ((r1.drop 1).drop 1) 0).toInt) (ba.length:Int) ((V.nth (((((r1.drop 4).drop 1).drop 1).drop 1).drop 1) 0).toList) aI ([]:LV) ([]:LV) ([]:LV) ([]:LV) ([]:LV) ((V.nth (r1.drop 4) 0).toList) ((V.nth ((r1.drop 4).drop 1) 0).toList) ((V.nth (((r1.drop 4).drop 1).drop 1) 0).toList) ((V.nth ((((r1.drop 4).drop 1).drop 1).drop 1) 0).toList) ((V.nth ((((((r1.drop 4).drop 1).drop 1).drop 1).drop 1).drop 1) 0).toList) qR x2.toList ([]:LV)) (0,List.replicate (((((V.nth ((r1.drop 4).drop 1) 0).toList).length:Int):Int).toNat) (V.list ab ([]:LV)),Ai)).bind (un fun az4=>un fun (az5:Bool)=>un fun (Ay:LV) (uN:LV)=>
       bif (decide (0≤(aI.length:Int)))&&((decide ((aI.length:Int)≤(aI.length:Int)))&&(Nat.ble (((aI.length:Int).toNat)*24) aX)) then
       (Loop (O1 C (((V.nth ((r1.drop 4).drop 1) 0).toList).length:Int) (aI.length:Int) ss ba 0 ((V.nth r1 0).toInt) ((V.nth (r1.drop 1) 0).toBool) ((V.nth ((r1.drop 1).drop 1) 0).toInt) (ba.length:Int) aI ([]:LV) ([]:LV) ([]:LV) ([]:LV) ([]:LV) ((V.nth (r1.drop 4) 0).toList) ((V.nth ((r1.drop 4).drop 1) 0).toList) ((V.nth (((r1.drop 4).drop 1).drop 1) 0).toList) ((V.nth ((((r1.drop 4).drop 1).drop 1).drop 1) 0).toList) ((V.nth (((((r1.drop 4).drop 1).drop 1).drop 1).drop 1) 0).toList) ((V.nth ((((((r1.drop 4).drop 1).drop 1).drop 1).drop 1).drop 1) 0).toList) Ay qR x2.toList ([]:LV) uN) (0,List.replicate ((aI.length:Int).toNat) (V.list ak ([]:LV)))).bind (un fun az6=>un fun (az7:Bool) (awH:LV)=>
        some [V.int .i64 (ba.length:Int),.list ag Ay,.list cu qR,.list ab x2.toList,.list ak ([]:LV),.list ak uN,.list ov awH,V.int .i64 0,V.int .i64 ss,.list ag ba,.list kQ aI])
       else none))
    else none
    else none
   else none
   else none
  else none
theorem awI {ss:Int} {ba aI:LV} {r:Option LV} (h:Je CC ss ba aI=r):CC Gm [V.int .i64 ss,.list ag ba,.list kQ aI]=r:=bC (bE (awC CC) (bE (awE CC) (bE (awG CC) au))) h
theorem awJ {l:List Nat} (hl:l.length≤1000000):CC Mp [.list ab (nS l),.int .i64 0]=some [.bool (decide (0∈l))]:=by
 have key: ∃k:Int,CC Mt [.list ab (nS l),.int .i64 0]=some [.int .i64 k]∧decide (k≥0)=decide (0∈l):=by
  have hL:=aq9 (step:=OY CC (nS l) 0 ((nS l).length:Int)) (fun i=>l.getD i 0==0) l.length (fun i=>(i:Int)) (fun i=> .inl (i:Int)) (.inr ((l.length:Int),false)) (fun i hi=> ?_) ?_
  ·rcases hL with ⟨i,hi,hb,_,e⟩|⟨hb,e⟩
   ·refine ⟨(i:Int),af4 ?_,?_⟩
    ·unfold Wt;exact bs e rfl
    ·rw[cq (by omega),cq ?_];rw[cP hi,beq_iff_eq] at hb;exact hb▸dr hi
   ·refine ⟨-1,af4 ?_,?_⟩
    ·unfold Wt;exact bs e rfl
    ·rw[c8 (by omega),c8 fun hm=> ?_];obtain ⟨i,hi,e⟩:=List.getElem_of_mem hm;have:=hb i hi;rw[cP hi,e] at this;cases this
  ·simp only[OY,I6];rw[dC];refine bT (bp hi) (bs (iy hi) ?_);by_cases c:l[i]=0
   ·rw[aB (by rw[cP hi,c];rfl)];exact bT (by show ((0:Int)==((l[i]:Nat):Int))=true;rw[c];rfl) rfl
   ·rw[aC (by rw[cP hi];simpa using c)];refine bF (by show ((0:Int)==((l[i]:Nat):Int))=false;rw[uV];omega) ?_;rw[bz (by omega)]
  ·simp only[OY,I6];rw[dC];refine bF (aV (aw _)) ?_;rw[aV (aw _)]
 obtain ⟨k,e,h⟩:=key;refine awA ?_;unfold af5;rw[←h];exact bs e rfl
theorem getD_map {l:List Nat} {k:Nat→Nat} {i:Nat} (h:i<l.length):(l.map k).getD i 0=k (l.getD i 0):=by
 rw[cP (by simpa using h),cP h,Eg]
theorem WA {n:Nat} {f g k:List Nat} (hf:Tr n f) (hg:Tr n g):comp (comp f g) k=comp f (comp g k):=by
 unfold comp;rw[Bj];exact qh fun i hi=>(getD_map (k:=fun i=>k.getD i 0) (by rw[hg.1];exact hf.2 i hi)).symm
theorem comp_id {n:Nat} {f:List Nat} (hf:Tr n f):comp f (List.range n)=f:=by
 refine uZ (by simp[comp]) fun i h1 h2=> ?_;have:=hf.at h2;simp[comp,this]
def fR (S:List (List Nat)) (i j:Nat):Nat:=ic S (comp (S.getD i []) (S.getD j []))
def tA (S:List (List Nat)) (i j:Nat):LV:=tab S.length fun b=>if b<j then nV (fR S i b) else V.int .i64 0
def rb (S:List (List Nat)) (i j:Nat):LV:=tab S.length fun a=>if a<i then .list ab (tA S a S.length) else if a=i then .list ab (tA S i j) else .list ab []
def sd (S:List (List Nat)) (i:Nat):LV:=tab S.length fun a=>if a<i then .list ab (tA S a S.length) else .list ab []
def AZ (L:Nat) (g:Nat→List Nat) (S:List (List Nat)) (i:Nat):Bool:=decide (∃a,a<i∧0∈fX L g S (S.getD a []))
def jD (L:Nat) (g:Nat→List Nat) (S:List (List Nat)) (i:Nat):LV:=tab S.length fun j=> .bool (if j=0 then AZ L g S i else true)
def Big (n:Nat):Prop:= ∃T:List (List Nat),T.Nodup∧(∀f∈T,Tr n f)∧400<T.length
section
variable {L n:Nat} {g:Nat→List Nat} {S:List (List Nat)} {P K:List Int} {R:List (List Nat)} {W:List (List UInt8)} {B:List Int} {s:List Nat}
theorem mw.row (h:mw L n S.length g S P K R W B s):R=S.map (fX L g S):=by rw[h.rr,wR]
theorem mw.O2 (h:mw L n S.length g S P K R W B s) {i:Nat} (hi:i<S.length):(sV R)[i]? =some (tV (fX L g S (S.getD i []))):=by
 rw[h.row];simp[sV,hi]
theorem mw.cl' (h:mw L n S.length g S P K R W B s) {f:List Nat} (hf:f∈S) {x:Nat} (hx:x<L):br g f x∈S:=h.cl f (by rw[wR];exact hf) x hx
theorem mw.word (h:mw L n S.length g S P K R W B s): ∀{i:Nat},i<S.length→∃w,WL L w∧S.getD i []=w.foldl (br g) (List.range n):=by
 intro i
 induction i using Nat.strongRecOn with
 | ind i ih=>
  intro hi;rcases Ea i with rfl|h0
  ·refine ⟨[],WL.nil,?_⟩;have:=h.I.id;cases S with
   | nil=>cases this
   | cons a S=>exact dL this
  ·obtain ⟨p,x,_,_,hp,hx,e⟩:=h.I.p i h0 hi;obtain ⟨w,hw,e2⟩:=ih p hp (by omega);refine ⟨w++[x],WL.app.2 ⟨hw,WL.nil.cons hx⟩,?_⟩;rw[Ef,←e2,e];rfl
theorem mw.af7 (h:mw L n S.length g S P K R W B s) (hg: ∀x,x<L→Tr n (g x)) {f:List Nat} (hf:f∈S): ∀{j:Nat},j<S.length→comp f (S.getD j [])∈S:=by
 intro j hj
 induction j using Nat.strongRecOn with
 | ind j ih=>
  rcases Ea j with rfl|h0
  ·have:S.getD 0 []=List.range n:=by
    have:=h.I.id;cases S with
    | nil=>cases this
    | cons a S=>exact dL this
   rw[this,comp_id (h.I.tr f hf)];exact hf
  ·obtain ⟨p,x,_,_,hp,hx,e⟩:=h.I.p j h0 hj;have eB:p<S.length:=by omega
   have WB:Tr n (S.getD p []):=by rw[cP eB];exact h.I.tr _ (dr eB)
   rw[e,←WA (h.I.tr f hf) WB];exact h.cl' (ih p hp eB) hx
theorem mw.awK (h:mw L n S.length g S P K R W B s) (hg: ∀x,x<L→Tr n (g x)) {i j:Nat} (hi:i<S.length) (hj:j<S.length):fR S i j<S.length:=
 tv (h.af7 hg (by rw[cP hi];exact dr hi) hj)
section
variable (h:mw L n S.length g S P K R W B s) (hg: ∀x,x<L→Tr n (g x))
include h hg
theorem af8 {i:Nat} (hi:i<S.length) {k1 k2 k3 k4 k5 k6 k7:Int} {k8:Bool} {l1 l2 l3 l4 l5 l6 l7 l8 l9 l10 l11 l12 l13 l14:LV}:
  Loop (DZ CC (S.length:Int) (i:Int) k1 k2 k3 l1 k4 k5 k8 k6 k7 (sV R) l2 l3 l4 l5 l6 l7 l8 l9 (iL P) (iL K) l10 l11 l12 l13 l14) (1,rb S i 1)=some ((S.length:Int),false,rb S i S.length):=by
 have hlen:=h.I.len;have ky: ∀{j:Nat},(rb S i j)[i]? =some (.list ab (tA S i j)):=fun {j}=>by unfold rb;rw[nG hi,dh,da]
 have hl: ∀{j:Nat},(tA S i j).length=S.length:=fun {j}=>fT;have jf: ∀{j:Nat},j<S.length→(rb S i j).set i (.list ab ((tA S i j).set j (nV (fR S i j))))=rb S i (j+1):=fun {j} hj=>by
  unfold rb tA;rw[mn,mn];refine dy fun a _=> ?_;by_cases c:a=i
  ·subst c;rw[da,dh,da];refine congrArg _ (dy fun b _=> ?_);by_cases c2:b=j
   ·rw[aB c2,da,c2]
   ·rw[aC c2];by_cases c3:b<j
    ·rw[aB c3,da]
    ·rw[aC c3,dh]
  ·rw[aC c];by_cases c2:a<i
   ·rw[aB c2,aB c2]
   ·rw[aC c2,aC c,aC c2,aC c]
 have hfi:Tr n (S.getD i []):=by rw[cP hi];exact h.I.tr _ (dr hi)
 have key:=jB (step:=DZ CC (S.length:Int) (i:Int) k1 k2 k3 l1 k4 k5 k8 k6 k7 (sV R) l2 l3 l4 l5 l6 l7 l8 l9 (iL P) (iL K) l10 l11 l12 l13 l14) (fun j x=>x=((j:Int),rb S i j)) (fun r=>r=((S.length:Int),false,rb S i S.length)) (S.length-1) 1 (1,rb S i 1) (fun j h1 hj x hx=> ?_) (fun x hx=> ?_) rfl
 ·obtain ⟨r,e,rfl⟩:=key;exact e
 ·subst hx;have hj:j<S.length:=by omega
  obtain ⟨p,x,eP,eK,hp,hx,e⟩:=h.I.p j (by omega) hj;have eB:p<S.length:=by omega
  have WB:Tr n (S.getD p []):=by rw[cP eB];exact h.I.tr _ (dr eB)
  have hm:=h.awK hg hi eB;have hmm:S.getD (fR S i p) []=comp (S.getD i []) (S.getD p []):=by
   rw[cP hm];exact Vt (h.af7 hg (by rw[cP hi];exact dr hi) eB)
  have hv:(fX L g S (S.getD (fR S i p) [])).getD x 0=fR S i j:=by
   unfold fX;rw[getD_map (by rw[jX];exact hx),cP (l:=List.range L) (by rw[jX];exact hx),JA,hmm];unfold fR br;rw[WA hfi WB,←e]
  have hrl:(fX L g S (S.getD (fR S i p) [])).length=L:=by simp[fX]
  refine ⟨_,?_,rfl⟩;simp only[DZ,I9,un,aM,bn,Int.toNat_natCast];have g1:(tA S i j)[p]? =some (nV (fR S i p)):=by unfold tA;rw[nG eB,aB hp]
  have g2:(tA S i j)[j]? =some (.int .i64 0):=by unfold tA;rw[nG hj,dh]
  refine bT (bp hj) ((bY ky).trans ((bY ky).trans ((bY (uP (by rw[h.I.lP];exact hj))).trans (bs (qv ky) ?_))));rw[eP,V.ez];refine bT (oO (by rw[hl];exact eB)) (bs (qv ky) ?_);rw[V.ez,show (V.int IntKind.i64 (p:Int)).toInt.toNat=p from rfl];refine bs g1 (bT (oO (by rw[yo,h.row,cY];exact hm)) (bs (by rw[show (nV (fR S i p)).toInt.toNat=fR S i p from rfl];exact h.O2 hm) ((bY (uP (by rw[h.I.lK];exact hj))).trans ?_)));rw[eK,qX];refine bs (iy (i:=x) (by rw[hrl];exact hx)) (bs (qv ky) ?_);rw[V.ez];refine bT (oO (by rw[hl];exact hj)) (bs (qv ky) ?_);rw[V.ez];refine bs g2 ?_;have nj:(fX L g S (S.getD (fR S i p) []))[x]'(by rw[hrl];exact hx)=fR S i j:=(cP (d:=0) _).symm.trans hv;rw[Fh ky,bz (by omega),←jf hj,nj];rfl
 ·subst hx;have e1:1+(S.length-1)=S.length:=by have:=h.I.pos;omega
  rw[e1];refine ⟨_,?_,rfl⟩;simp only[DZ,I9,un];refine bF (aV (aw _)) ?_;rw[aV (aw _)]
end
end
section
variable {L n:Nat} {g:Nat→List Nat} {S:List (List Nat)} {P K:List Int} {R:List (List Nat)} {W:List (List UInt8)} {B:List Int} {s:List Nat}
section
variable (h:mw L n S.length g S P K R W B s) (hg: ∀x,x<L→Tr n (g x))
include h
theorem mw.D2:S.getD 0 []=List.range n:=by
 have:=h.I.id;cases S with
 | nil=>cases this
 | cons a S=>exact dL this
theorem mul_zero {i:Nat} (hi:i<S.length):fR S i 0=i:=by
 unfold fR;have:=h.I.tr _ (dr hi);rw[h.D2,cP hi,comp_id this];exact Vu h.I.nd hi
theorem awL {k1 k2 k3 k4 k5:Int} {k8:Bool} {l1 l2 l3 l4 l5 l6 l7 l8 l9 l10 l11 l12 l13 l14:LV}: ∃f:Nat→List UInt8,
  Loop (I8 CC (S.length:Int) k1 l1 k2 k3 k8 k4 k5 l2 l3 l4 l5 l6 l7 l8 l9 (iL P) (iL K) l10 l11 l12 l13 l14) (1,List.replicate S.length (V.str []),List.replicate S.length (V.bool false))=some ((S.length:Int),false,tab S.length fun j=> .str (f j),jD L g S 0):=by
 have hlen:=h.I.len;have key:=jB (step:=I8 CC (S.length:Int) k1 l1 k2 k3 k8 k4 k5 l2 l3 l4 l5 l6 l7 l8 l9 (iL P) (iL K) l10 l11 l12 l13 l14)
  (fun i x=> ∃f:Nat→List UInt8,x=((i:Int),(tab S.length fun j=>V.str (f j)),tab S.length fun j=>V.bool (decide (0<j∧j<i)))∧∀j,(f j).length≤j)
  (fun r=> ∃f:Nat→List UInt8,r=((S.length:Int),false,(tab S.length fun j=>V.str (f j)),jD L g S 0)) (S.length-1) 1
  (1,List.replicate S.length (V.str []),List.replicate S.length (V.bool false)) (fun i h1 hi x hx=> ?_) (fun x hx=> ?_) ⟨fun _=>[],?_,fun j=>by simp⟩
 ·obtain ⟨r,e,f,rfl⟩:=key;exact ⟨f,e⟩
 ·obtain ⟨f,rfl,hf⟩:=hx;have bu:i<S.length:=by omega
  obtain ⟨p,x,eP,eK,hp,hx,_⟩:=h.I.p i (by omega) bu;have eB:p<S.length:=by omega
  have hfp:=hf p;simp only[I8,I7,un,aM,bn];refine ⟨_,bT (bp bu) ((bY (uP (by rw[h.I.lP];exact bu))).trans ?_),fun j=>if j=i then f p++lg [V.int .u8 (wrap .u8 (wrap .i64 (97+(x:Int))))] else f j,rfl,fun j=> ?_⟩
  ·rw[eP];refine bT (oO (by simpa using eB)) (bs (by rw[show (V.int IntKind.i64 (p:Int)).toInt.toNat=p from rfl];exact nG eB) ((bY (uP (by rw[h.I.lK];exact bu))).trans ?_));rw[eK];refine bT (yw ?_) ((rZ (by simpa using bu)).trans ((rZ (by simpa using bu)).trans ?_))
   ·show (f p).length+1≤pg;unfold pg;omega
   ·rw[bz (by omega),Int.toNat_natCast,mn,mn];refine congrArg (fun t=>some (Sum.inl t)) (cx rfl (cx (dy fun j _=> ?_) (dy fun j _=> ?_)))
    ·dsimp only;by_cases c:j=i
     ·rw[aB c,aB c];rfl
     ·rw[aC c,aC c]
    ·by_cases c:j=i
     ·rw[aB c,cq (by omega)]
     ·rw[aC c];by_cases c2:0<j∧j<i
      ·rw[cq c2,cq (by omega)]
      ·rw[c8 c2,c8 (by omega)]
  ·dsimp only;by_cases c:j=i
   ·rw[aB c,gS];show _+1≤j;omega
   ·rw[aC c];exact hf j
 ·obtain ⟨f,rfl,hf⟩:=hx;have e1:1+(S.length-1)=S.length:=by have:=h.I.pos;omega
  rw[e1];simp only[I8,I7,un];refine ⟨_,bF (aV (aw _)) rfl,f,?_⟩;rw[aV (aw _)];refine cx rfl (cx rfl (cx rfl (dy fun j hj=> ?_)));by_cases c:j=0
  ·rw[aB c,c8 (by omega)];exact congrArg V.bool (c8 (by rintro ⟨a,ha,_⟩;omega)).symm
  ·rw[aC c,cq (by omega)]
 ·rw[p5,p5];refine cx rfl (cx rfl (dy fun j _=> ?_));rw[c8 (by omega)]
include hg
theorem awM (hL:L≤6) {k1 k2 k3 k4 k5:Int} {k8:Bool} {l1 l2 l3 l4 l5 l6 l7 l8 l9 l10 l11 l12 l13:LV}:
  Loop (OZ CC (S.length:Int) (S.length:Int) k1 l1 k2 k3 k8 k4 k5 (sV R) l2 l3 l4 l5 l6 l7 l8 l9 (iL P) (iL K) l10 l11 l12 l13) (0,List.replicate S.length (V.list ab ([]:LV)),jD L g S 0)=some ((S.length:Int),false,sd S S.length,jD L g S S.length):=by
 have hlen:=h.I.len;have gh:=h.I.pos;rw[show List.replicate S.length (V.list ab ([]:LV))=sd S 0 from by rw[p5];exact dy fun j _=>by rw[dh]];refine gz S.length (fun i=>((i:Int),sd S i,jD L g S i)) _ (fun i hi=> ?_) ?_
 ·have hl:(jD L g S i).length=S.length:=fT;have hy:(sd S i).length=S.length:=fT;have e0:(jD L g S i)[0]? =some (.bool (AZ L g S i)):=nG gh;have hz:((sd S i).set i (V.list ab (List.replicate S.length (V.int .i64 0))))[i]? =some (V.list ab (List.replicate S.length (V.int .i64 0))):=by
   rw[o7 (by rw[hy];exact hi)]
  have kK:setRow Tryz.prog ((List.replicate S.length (V.int .i64 0)).set 0 (V.int .i64 (i:Int))) ag ((sd S i).set i (V.list ab (List.replicate S.length (V.int .i64 0)))) [(i,0)]=rb S i 1:=by
   rw[Fh hz,Bk];unfold sd rb;rw[mn];refine dy fun a _=> ?_;by_cases c:a=i
   ·subst c;rw[da,dh,da,p5,mn];refine congrArg _ (dy fun b _=> ?_);by_cases c2:b=0
    ·rw[aB c2,da,c2,mul_zero h hi];rfl
    ·rw[aC c2,dh]
   ·rw[aC c];by_cases c2:a<i
    ·rw[aB c2,aB c2]
    ·rw[aC c2,aC c2,aC c]
  have kI:rb S i S.length=sd S (i+1):=dy fun a _=>by
   by_cases c:a=i
   ·subst c;rw[dh,da,da]
   ·by_cases c2:a<i
    ·rw[da,da]
    ·rw[dh,aC c,dh]
  have eB: ∀c:Bool,c=AZ L g S (i+1)→(jD L g S i).set 0 (.bool c)=jD L g S (i+1):=fun c hc=>by
   unfold jD;rw[mn];refine dy fun j _=> ?_;by_cases c2:j=0
   ·rw[aB c2,aB c2,hc]
   ·rw[aC c2,aC c2,aC c2]
  have O3:AZ L g S (i+1)=(AZ L g S i||decide (0∈fX L g S (S.getD i []))):=by
   unfold AZ;rw[wZ,D8,Eh,Eh,Eh];constructor
   ·rintro ⟨a,ha,hm⟩;rcases jq a i with c|c
    ·exact .inl ⟨a,c,hm⟩
    ·exact .inr (by rw[show i=a by omega];exact hm)
   ·rintro (⟨a,ha,hm⟩|hm)
    ·exact ⟨a,by omega,hm⟩
    ·exact ⟨i,by omega,hm⟩
  simp only[OZ,Ja,un,aM,bn,Int.toNat_natCast];have D3: ∀{l:LV},l.length=S.length→decide (0<(l.length:Int))=true:=fun {l} hl=>cq (by omega);have D4:(decide (0≤(S.length:Int))&&(decide ((S.length:Int)≤(S.length:Int))&&(S.length*8).ble aX))=true:=by
   have:=gB (n:=S.length) (m:=8) (by omega) (by omega);rwa [Int.toNat_natCast] at this
  have LJ:(sd S i)[i]? =some (.list ab []):=by unfold sd;rw[nG hi,dh]
  have hzi:(((sd S i).set i (V.list ab (List.replicate S.length (V.int .i64 0)))).length)=S.length:=by rw[oG,hy]
  have hz0:(List.replicate S.length (V.int .i64 0))[0]? =some (.int .i64 0):=by rw[Ec,aB gh]
  cases hb:AZ L g S i with
  | true=>
   rw[hb] at e0 O3;refine bT (bp hi) ((bY (h.O2 hi)).trans (bT (D3 hl) (bs e0 (bT rfl (bT (D3 hl) (bs e0 (bT D4 ((bY LJ).trans ((bY hz).trans (bs (qv hz) ?_))))))))));rw[V.ez];refine bT (D3 (by simp)) (bs (qv hz) ?_);rw[V.ez];refine bs hz0 ?_;rw[kK];refine bs (af8 h hg hi) ?_;rw[eB true (by rw[O3];rfl),kI,bz (by omega)];rfl
  | false=>
   rw[hb] at e0 O3;have hC:=awJ (l:=fX L g S (S.getD i [])) (by rw[fX,cY,jX];omega);refine bT (bp hi) ((bY (h.O2 hi)).trans (bT (D3 hl) (bs e0 (bF rfl (bs (by rw[qX];exact hC) (bT (D3 hl) (bs e0 (bT D4 ((bY LJ).trans ((bY hz).trans (bs (qv hz) ?_)))))))))));rw[V.ez];refine bT (D3 (by simp)) (bs (qv hz) ?_);rw[V.ez];refine bs hz0 ?_;rw[kK];refine bs (af8 h hg hi) ?_;rw[kI,bz (by omega)];show some (Sum.inl (_,_,(jD L g S i).set 0 (V.bool (decide (0∈fX L g S (S.getD i []))))))=_;rw[eB _ (by rw[O3];rfl)]
 ·simp only[OZ,Ja,un];refine bF (aV (aw _)) ?_;rw[aV (aw _)]
end
end
noncomputable def A0 (C:af) (c6 db:Int) (cE c7:LV):Option LV:=
 (C qs [V.int .i64 c6,V.int .i64 db,.list ak cE,.list ag c7]).bind fun r1=>
 bif (((V.nth r1 0).toInt):Int) != 0 then
  some [V.int .i64 0,.list ag ([]:LV),.list cu ([]:LV),.list ab ([]:LV),.list ak ([]:LV),.list ak ([]:LV),V.int .i64 ((V.nth r1 0).toInt)]
 else
  (C uB [V.int .i64 c6,V.int .i64 db,.list ak cE,.list ag c7]).bind fun r2=>
  (C Ml [V.int .i64 ((V.nth r2 0).toInt),V.int .i64 ((V.nth (r2.drop 1) 0).toInt),.list ak ((V.nth (r2.drop 2) 0).toList),.list ag ((V.nth ((r2.drop 2).drop 1) 0).toList),V.int .i64 0]).bind fun r3=>
  bif (((V.nth r3 0).toInt):Int) != 0 then
  some [V.int .i64 0,.list ag ([]:LV),.list cu ([]:LV),.list ab ([]:LV),.list ak ([]:LV),.list ak ([]:LV),V.int .i64 ((V.nth r3 0).toInt)]
  else
  (C Gm [V.int .i64 ((V.nth (r3.drop 1) 0).toInt),.list ag ((V.nth ((r3.drop 1).drop 1) 0).toList),.list kQ ((V.nth (((r3.drop 1).drop 1).drop 1) 0).toList)]).bind fun r4=>
  bif (((V.nth ((r4.drop 6).drop 1) 0).toInt):Int) != 0 then
   some [V.int .i64 0,.list ag ([]:LV),.list cu ([]:LV),.list ab ([]:LV),.list ak ([]:LV),.list ak ([]:LV),V.int .i64 ((V.nth ((r4.drop 6).drop 1) 0).toInt)]
  else
   (((V.nth (r4.drop 6) 0).toList)[0]?).bind fun x5=>
   some [V.int .i64 ((V.nth r4 0).toInt),.list ag ((V.nth (r4.drop 1) 0).toList),.list cu ((V.nth ((r4.drop 1).drop 1) 0).toList),.list ab ((V.nth (((r4.drop 1).drop 1).drop 1) 0).toList),.list ak x5.toList,.list ak ((V.nth (((((r4.drop 1).drop 1).drop 1).drop 1).drop 1) 0).toList),V.int .i64 0]
theorem WC {c6 db:Int} {cE c7:LV} {r:Option LV} (h:A0 CC c6 db cE c7=r):CC qt [V.int .i64 c6,V.int .i64 db,.list ak cE,.list ag c7]=r:=bC (L:=bB) au h
structure tT (m:Da) (S:List (List Nat)):Prop where
 tr: ∀f∈S,Tr m.n f
 nd:S.Nodup
 D2:S.getD 0 []=List.range m.n
 pos:0<S.length
 cl: ∀f∈S,∀x,x<m.L→br m.gT f x∈S
 re: ∀i,i<S.length→∃w,WL m.L w∧S.getD i []=w.foldl (br m.gT) (List.range m.n)
 le:S.length≤400
def pD (S:List (List Nat)):LV:=tab S.length fun i=> .list ab (tab S.length fun j=>nV (fR S i j))
def me (m:Da) (S:List (List Nat)):LV:=nS (fX m.L m.gT S (List.range m.n))
def nu (m:Da) (S:List (List Nat)):LV:=tab S.length fun i=> .bool (m.fin ((S.getD i []).getD m.st 0))
def rf (m:Da) (S:List (List Nat)) (f:Nat→List UInt8):List V:=
 [.int .i64 (m.L:Int),.list ag (pD S),.list cu (tab S.length fun j=> .str (f j)),.list ab (me m S),.list ak (nu m S),.list ak (jD m.L m.gT S S.length)]
def syZ (e:Int):List V:=[.int .i64 0,.list ag [],.list cu [],.list ab [],.list ak [],.list ak [],.int .i64 e]
theorem awN {S:List (List Nat)}:sd S S.length=pD S:=dy fun i hi=>by
 rw[aB hi];exact congrArg _ (dy fun j hj=>aB hj)
section
variable {m:Da} (h:m.Ok) (mc:m.n≤32)
include h mc
theorem awO {S:List (List Nat)} (hS: ∀f∈S,Tr m.n f) (hl:S.length≤400) {k1 k2 k3 k4 k5 k6 k7 k8:Int} {k9:Bool} {l1 l2 l3 l4 l5 l6 l7 l8 l9 l10 l11 l12 l13 l14 O4 O5 l17:LV}:
  Loop (O0 CC k1 0 k2 k3 (S.length:Int) k4 l1 k5 k6 k9 k7 k8 (m.st:Int) m.cM 0 l2 (sV S) l3 l4 l5 l6 l7 l8 l9 l10 l11 l12 l13 l14 O4 O5 l17) (0,[V.list ak (List.replicate S.length (V.bool false))])=some ((S.length:Int),false,[V.list ak (nu m S)]):=by
 refine uO (fun i a=>((i:Int),[V.list ak a])) S.length (fun i=> .bool (m.fin ((S.getD i []).getD m.st 0))) _ (by simp) (fun a=>((S.length:Int),false,[V.list ak a])) (fun i hi a ha=> ?_) ?_
 ·simp only[O0,Jb,un,aM,bn];have e0:([V.list ak a]:LV)[0]? =some (.list ak a):=rfl;refine bT (bp hi) ((bY (Ic hi)).trans ((bY (i:=0) e0).trans (bs (by rw[qX];exact aut h mc (hS _ (dr hi))) (bs (afz e0) ?_))));rw[V.ez];refine bT (oO (by rw[ha];exact hi)) (bs (afz e0) ?_);rw[V.ez,Int.toNat_natCast];refine bs (bU (by rw[ha];exact hi)) ?_;rw[bz (by omega),cP hi];exact congrArg (fun t=>some (Sum.inl (((i+1:Nat):Int),t))) (auq e0)
 ·simp only[O0,Jb,un];refine bF (aV (aw _)) ?_;rw[aV (aw _)]
theorem awP: ∃r,CC Gm [.int .i64 (m.n:Int),.list ag (gV m.L m.gT),.list kQ (tx m)]=some r∧
  ((r=[.int .i64 0,.list ag [],.list cu [],.list ab [],.list ak [],.list ak [],.list ov [],.int .i64 3,.int .i64 (m.n:Int),.list ag (gV m.L m.gT),.list kQ (tx m)]∧Big m.n)∨
   ∃S,∃f:Nat→List UInt8,r=[.int .i64 (m.L:Int),.list ag (pD S),.list cu (tab S.length fun j=> .str (f j)),.list ab (me m S),.list ak [],.list ak (jD m.L m.gT S S.length),.list ov [.list ak (nu m S)],.int .i64 0,.int .i64 (m.n:Int),.list ag (gV m.L m.gT),.list kQ (tx m)]∧tT m S):=by
 have hs:=h.s;have hL:=h.l6;have hg: ∀x,x<m.L→Tr m.n (m.gT x):=fun x hx=>h.gT hx;obtain ⟨r,e1,h1⟩:=auj (n:=m.n) (by omega) mc hg h.l1 h.l6;have fin: ∀z,Je CC (m.n:Int) (gV m.L m.gT) (tx m)=z→CC Gm [.int .i64 (m.n:Int),.list ag (gV m.L m.gT),.list kQ (tx m)]=z:=fun z h=>awI h;rcases h1 with ⟨rfl,T,t1,t2,t3⟩|⟨S,P,K,R,W,B,s,U,rfl,hE⟩
 ·refine ⟨_,fin _ ?_,.inl ⟨rfl,T,t1,t2,by omega⟩⟩;unfold Je;exact bs e1 (bT rfl rfl)
 ·rcases jq 400 S.length with c|c
  ·refine ⟨_,fin _ ?_,.inl ⟨rfl,S,hE.I.nd,hE.I.tr,c⟩⟩;unfold Je;exact bs e1 (bF rfl (bT (by show decide ((((sV S).length:Nat):Int)>400)=true;rw[yo];exact cq (by omega)) rfl))
  ·have gh:=hE.I.pos;obtain ⟨f,e2⟩:=awL (L:=m.L) (g:=m.gT) hE (k1:=(m.n:Int)) (k2:=0) (k3:=(m.n:Int)) (k4:=(S.length:Int)) (k5:=((gV m.L m.gT).length:Int)) (k8:=true) (l1:=gV m.L m.gT) (l2:=tx m) (l3:=[]) (l4:=[]) (l5:=[]) (l6:=[]) (l7:=[]) (l8:=gV m.L m.gT) (l9:=sV S) (l10:=sV R) (l11:=U) (l12:=List.replicate S.length (V.list ab [])) (l13:=me m S) (l14:=[]);refine ⟨_,fin _ ?_,.inr ⟨S,f,rfl,hE.I.tr,hE.I.nd,hE.D2,gh,fun f hf x hx=>hE.cl' hf hx,fun i hi=>hE.word hi,c⟩⟩;unfold Je;refine bs e1 (bF rfl (bF (by show decide ((((sV S).length:Nat):Int)>400)=false;rw[yo];exact c8 (by omega)) ?_));have kI:(sV R)[0]? =some (tV (fX m.L m.gT S (List.range m.n))):=by rw[hE.O2 gh,hE.D2]
   have DY:(sV R).length=S.length:=by rw[yo,hE.row,cY]
   have e3:=awM hE hg hL (k1:=(m.n:Int)) (k2:=0) (k3:=(m.n:Int)) (k4:=(S.length:Int)) (k5:=((gV m.L m.gT).length:Int)) (k8:=true) (l1:=gV m.L m.gT) (l2:=tx m) (l3:=[]) (l4:=[]) (l5:=[]) (l6:=[]) (l7:=[]) (l8:=gV m.L m.gT) (l9:=sV S) (l10:=U) (l11:=tab S.length fun j=> .str (f j)) (l12:=me m S) (l13:=[]);have e4: ∀{k1 k2 k3 k4 k5:Int} {k8:Bool} {l1 l2 l3 l4 l5 l6 l7 l8 l9 l10 l11 l12 l13 l14 O4 O5:LV},Loop (O1 CC (S.length:Int) 1 k1 l1 k2 k3 k8 k4 k5 (tx m) l2 l3 l4 l5 l6 l7 (sV S) l8 l9 l10 l11 l12 l13 l14 O4 O5) (0,[V.list ak []])=some (1,false,[V.list ak (nu m S)]):=by
    intro k1 k2 k3 k4 k5 k8 l1 l2 l3 l4 l5 l6 l7 l8 l9 l10 l11 l12 l13 l14 O4 O5;refine gz 1 (fun i=>((i:Int),if i=0 then [V.list ak []] else [V.list ak (nu m S)])) _ (fun i hi=> ?_) ?_
    ·obtain rfl:i=0:=by omega
     simp only[O1,Jc,un,aM,bn];refine bT rfl ((bY (es:=tx m) (i:=0) rfl).trans (bT (gB (by omega) (by omega)) ((bY (i:=0) (v:= .list ak []) rfl).trans ?_)));rw[yo];exact bs (awO h mc hE.I.tr c) rfl
    ·simp only[O1,Jc,un];rfl
   have D4: ∀k,k≤1000→(decide (0≤(S.length:Int))&&(decide ((S.length:Int)≤(S.length:Int))&&(S.length*k).ble aX))=true:=fun k hk=>by
    have:=gB (n:=S.length) (m:=k) (by omega) hk;rwa [Int.toNat_natCast] at this
   have rL:(nS (fX m.L m.gT S (List.range m.n))).length≤6:=by rw[dC,fX,cY,jX];exact hL
   simp only[List.drop_succ_cons,wQ,V.L4,V.ez,V.toInt_int,V.CH,yo,Int.toNat_natCast];refine bT (D4 24 (by omega)) (bT (D4 16 (by omega)) (bT (cq (by rw[hE.row,cY];omega)) (bs kI (bT (by rw[qX];exact cap (b:=0) (by omega) (by omega)) (bT (D4 1 (by omega)) ?_)))));rw[qX];refine bs e2 ?_;rw[show R.length=S.length by rw[hE.row,cY]];refine bs e3 ?_;simp only[un];rw[show (tx m).length=1 from rfl];refine bT (gB (n:=1) (by omega) (by omega)) (bs e4 ?_);rw[awN,show (gV m.L m.gT).length=m.L from fT];rfl
end
theorem aik {a:Da} (h:a.Ok) (mc:(minD a).n≤32):(CC qt (eY a)=some (syZ 3)∧Big (minD a).n)∨∃S,∃f:Nat→List UInt8,CC qt (eY a)=some (rf (minD a) S f++[.int .i64 0])∧tT (minD a) S:=by
 have hm:=kH h;obtain ⟨r,e,h1⟩:=awP hm mc;have fin: ∀z,A0 CC (a.L:Int) (a.st:Int) a.cM a.cW=z→CC qt (eY a)=z:=fun z h=>WC h;rcases h1 with ⟨rfl,hb⟩|⟨S,f,rfl,hS⟩
 ·refine .inl ⟨fin _ ?_,hb⟩;unfold A0;exact bs (oM h) (bF rfl (bs (Ax h) (bs (afA hm mc) (bF rfl (bs e (bT rfl rfl))))))
 ·refine .inr ⟨S,f,fin _ ?_,hS⟩;unfold A0;refine bs (oM h) (bF rfl (bs (Ax h) (bs (afA hm mc) (bF rfl (bs e (bF rfl (bs (a:=V.list ak (nu (minD a) S)) rfl ?_)))))));rw[V.ez];rfl
def oD (m:Da) (w:List Nat):List Nat:=w.foldl (br m.gT) (List.range m.n)
def vl (m:Da) (S:List (List Nat)) (w:List Nat):Nat:=ic S (oD m w)
section
variable {m:Da} (hm:m.Ok)
include hm
theorem af9: ∀(w:List Nat) {f:List Nat},Tr m.n f→WL m.L w→Tr m.n (w.foldl (br m.gT) f)
 | [],_,hf,_=>hf
 | x::w,f,hf,hw=>af9 w (f:=br m.gT f x) (hf.comp (hm.gT hw.head)) hw.tail
theorem awQ {w:List Nat} (hw:WL m.L w):Tr m.n (oD m w):=af9 hm w Ia hw
theorem awR: ∀(w:List Nat) {f:List Nat},Tr m.n f→WL m.L w→w.foldl (br m.gT) f=comp f (oD m w):=by
 intro w
 induction w with
 | nil=>exact fun {f} hf _=>(comp_id hf).symm
 | cons x w ih=>
  intro f hf hw;have h1:=hm.gT hw.head;have e1:oD m (x::w)=comp (m.gT x) (oD m w):=by
   show w.foldl (br m.gT) (br m.gT (List.range m.n) x)=_;rw[ih (f:=br m.gT (List.range m.n) x) (Ia.comp h1) hw.tail,afq (L:=m.L) (fun x hx=>hm.gT hx) hw.head]
  rw[e1,←WA hf h1];exact ih (hf.comp h1) hw.tail
theorem awS {u v:List Nat} (hu:WL m.L u) (hv:WL m.L v):oD m (u++v)=comp (oD m u) (oD m v):=by
 unfold oD;rw[Ef];exact awR hm v (awQ hm hu) hv
theorem aga: ∀(w:List Nat) {f:List Nat} {q:Nat},Tr m.n f→q<m.n→WL m.L w→(w.foldl (br m.gT) f).getD q 0=m.run (f.getD q 0) w
 | [],_,_,_,_,_=>rfl
 | x::w,f,q,hf,hq,hw=>by
  have h1:=hm.gT hw.head;rw[List.foldl_cons,aga w (f:=br m.gT f x) (hf.comp h1) hq hw.tail,Da.adX];refine congrArg (fun p=>m.run p w) ?_;have dB:q<f.length:=by rw[hf.1];exact hq
  have h2:=hf.at dB;unfold br comp;rw[getD_map (k:=fun i=>(m.gT x).getD i 0) dB,cP dB,Da.gT,getD_map (by simpa using h2),cP (l:=List.range m.n) (by simpa using h2),JA]
theorem awT {w:List Nat} {q:Nat} (hq:q<m.n) (hw:WL m.L w):(oD m w).getD q 0=m.run q w:=by
 unfold oD;rw[aga hm w Ia hq hw,cP (by simpa using hq),JA]
section
variable {S:List (List Nat)} (hS:tT m S)
include hS
omit hm in
theorem agb: ∀(w:List Nat) {f:List Nat},f∈S→WL m.L w→w.foldl (br m.gT) f∈S
 | [],_,hf,_=>hf
 | x::w,f,hf,hw=>agb w (hS.cl f hf x hw.head) hw.tail
omit hm in
theorem WD:List.range m.n∈S:=by
 rw[←hS.D2,cP hS.pos];exact dr _
omit hm in
theorem agc {w:List Nat} (hw:WL m.L w):oD m w∈S:=agb hS w (WD hS) hw
omit hm in
theorem O6 {w:List Nat} (hw:WL m.L w):vl m S w<S.length:=tv (agc hS hw)
omit hm in
theorem O7 {w:List Nat} (hw:WL m.L w):S.getD (vl m S w) []=oD m w:=by
 rw[cP (O6 hS hw)];exact Vt (agc hS hw)
omit hm in
theorem A3 {i:Nat} (hi:i<S.length): ∃w,WL m.L w∧vl m S w=i:=by
 obtain ⟨w,hw,e⟩:=hS.re i hi;refine ⟨w,hw,?_⟩;unfold vl oD;rw[←e,cP hi];exact Vu hS.nd hi
omit hm in
theorem agd:vl m S []=0:=by
 unfold vl;show ic S (List.range m.n)=0;rw[←hS.D2,cP hS.pos];exact Vu hS.nd hS.pos
theorem yu {u v:List Nat} (hu:WL m.L u) (hv:WL m.L v):fR S (vl m S u) (vl m S v)=vl m S (u++v):=by
 unfold fR;rw[O7 hS hu,O7 hS hv,←awS hm hu hv];rfl
theorem age {i j:Nat} (hi:i<S.length) (hj:j<S.length):fR S i j<S.length:=by
 obtain ⟨u,hu,rfl⟩:=A3 hS hi;obtain ⟨v,hv,rfl⟩:=A3 hS hj;rw[yu hm hS hu hv];exact O6 hS (WL.app.2 ⟨hu,hv⟩)
theorem awU {i j k:Nat} (hi:i<S.length) (hj:j<S.length) (hk:k<S.length):fR S (fR S i j) k=fR S i (fR S j k):=by
 obtain ⟨u,hu,rfl⟩:=A3 hS hi;obtain ⟨v,hv,rfl⟩:=A3 hS hj;obtain ⟨w,hw,rfl⟩:=A3 hS hk;rw[yu hm hS hu hv,yu hm hS hv hw,yu hm hS (WL.app.2 ⟨hu,hv⟩) hw,yu hm hS hu (WL.app.2 ⟨hv,hw⟩),lf]
end
end
def kY (m:Da) (S:List (List Nat)):Da:=⟨m.L,0,tab S.length fun i=>m.fin ((S.getD i []).getD m.st 0),tab S.length fun i=>fX m.L m.gT S (S.getD i [])⟩
section
variable {m:Da} (hm:m.Ok) {S:List (List Nat)} (hS:tT m S)
theorem D5:(kY m S).n=S.length:=fT
theorem agf {i:Nat} (hi:i<S.length):(kY m S).fin i=m.fin ((S.getD i []).getD m.st 0):=Ao hi
theorem agh {i x:Nat} (hi:i<S.length) (hx:x<m.L):(kY m S).nx i x=ic S (br m.gT (S.getD i []) x):=by
 unfold Da.nx kY;simp only;rw[Ao hi];unfold fX;rw[getD_map (by rw[jX];exact hx),cP (l:=List.range m.L) (by rw[jX];exact hx),JA]
include hm hS
theorem agi:(kY m S).Ok:=by
 refine ⟨hm.l1,hm.l6,by rw[D5];exact fT,fun r hr=> ?_,by rw[D5];exact hS.pos,by rw[D5];have:=hS.le;omega⟩;obtain ⟨i,hi,rfl⟩:=KS.1 hr;refine ⟨by simp[fX,kY],fun q hq=> ?_⟩;obtain ⟨x,hx,rfl⟩:=iE.1 hq;rw[D5];exact tv (hS.cl _ (by rw[cP hi];exact dr _) x (ik.1 hx))
omit hm in
theorem agj: ∀(w:List Nat) {f:List Nat},f∈S→WL m.L w→(kY m S).run (ic S f) w=ic S (w.foldl (br m.gT) f)
 | [],_,_,_=>rfl
 | x::w,f,hf,hw=>by
  rw[Da.adX,agh (tv hf) hw.head,cP (tv hf),Vt hf];exact agj w (hS.cl f hf x hw.head) hw.tail
omit hm in
theorem awV {w:List Nat} (hw:WL m.L w):(kY m S).run 0 w=vl m S w:=by
 have:=agj hS w (WD hS) hw;rwa [show ic S (List.range m.n)=0 from agd hS] at this
theorem awW {w:List Nat} (hw:WL m.L w):(kY m S).acc (kY m S).st w=m.acc m.st w:=by
 show (kY m S).fin ((kY m S).run 0 w)=m.fin (m.run m.st w);rw[awV hS hw,agf (O6 hS hw),O7 hS hw,awT hm hm.s hw]
end
theorem awX {a:Da} (ha:a.Ok) {S:List (List Nat)} (hS:tT (minD a) S):minD (kY (minD a) S)=minD a:=by
 have hm:=kH ha;refine (QB (agi hm hS) hm rfl fun w hw=>awW hm hS hw).trans (asp ha)
theorem XY {a b:Da} (ha:a.Ok) (hb:b.Ok) (e:minD a=minD b):CC qt (eY a)=CC qt (eY b):=by
 have A: ∀z,A0 CC (a.L:Int) (a.st:Int) a.cM a.cW=z→CC qt (eY a)=z:=fun z h=>WC h;have B: ∀z,A0 CC (b.L:Int) (b.st:Int) b.cM b.cW=z→CC qt (eY b)=z:=fun z h=>WC h;refine A _ (Eq.trans ?_ (B _ rfl).symm);unfold A0;refine bs (oM ha) (bF rfl (bs (Ax ha) ?_));rw[e];exact (bs (oM hb) (bF rfl (bs (Ax hb) rfl))).symm
noncomputable def Jf (C:af) (s1 s2:LV) (t12 t13:Int) {β:Type} (kn:Int→Option β) (kr:((Bool) ⊕ (Int×Bool))→Option β):Option β:=
 bif decide (t13<t12) then
  (idx s1 t13).bind fun x1=>
  (idx s2 t13).bind fun x2=>
  bif (x1.toInt:Int) != x2.toInt then
  kr (.inl false)
  else
  kn (wrap .i64 (t13+1))
 else
  kr (.inr (t13,decide (t13<t12)))
noncomputable def WE (C:af) (s1 s2:LV) (t12:Int):=fun t13=>Jf C s1 s2 t12 t13 (fun y=>some (Sum.inl y)) (fun r=>some (Sum.inr r))
noncomputable def awY (C:af):cD:=bI 65 Uc [EQ,EQ,EQ,H1] [[0],[1,2,3,0,0]] (@Jf C) bB
theorem awZ (C:af):bD C (awY C) 113 (Lp [1,1,0,1,0,0] 113):=bJ Uc [EQ,EQ,EQ,H1] [[0],[1,2,3,0,0]] (@Jf C) (bq au)
noncomputable def agk (C:af) (s1 s2:LV):Option LV:=
 bif (s1.length:Int) != (s2.length:Int) then
  some [.bool false]
 else
  (Loop (WE C s1 s2 (s1.length:Int)) 0).bind (fg (fun (jJ:Bool)=>
   some [.bool jJ]) (un fun (lx:Int) (kC:Bool)=>
   some [.bool true]))
theorem aw0 {s1 s2:LV} {r:Option LV} (h:agk CC s1 s2=r):CC Gv [.list ab s1,.list ab s2]=r:=bC (bE (awZ CC) au) h
noncomputable def Jg (C:af) (s1 s2:LV) (t12 t13:Int) {β:Type} (kn:Int→Option β) (kr:((Bool) ⊕ (Int×Bool))→Option β):Option β:=
 bif decide (t13<t12) then
  (idx s1 t13).bind fun x1=>
  (idx s2 t13).bind fun x2=>
  bif !(x1.toBool==x2.toBool) then
  kr (.inl false)
  else
  kn (wrap .i64 (t13+1))
 else
  kr (.inr (t13,decide (t13<t12)))
noncomputable def WG (C:af) (s1 s2:LV) (t12:Int):=fun t13=>Jg C s1 s2 t12 t13 (fun y=>some (Sum.inl y)) (fun r=>some (Sum.inr r))
noncomputable def aw1 (C:af):cD:=bI 65 Ue [EQ,EQ,EQ,H1] [[0],[1,2,3,0,0]] (@Jg C) bB
theorem aw2 (C:af):bD C (aw1 C) 115 (Lp [1,1,0,1,0,0] 115):=bJ Ue [EQ,EQ,EQ,H1] [[0],[1,2,3,0,0]] (@Jg C) (bq au)
noncomputable def agl (C:af) (s1 s2:LV):Option LV:=
 bif (s1.length:Int) != (s2.length:Int) then
  some [.bool false]
 else
  (Loop (WG C s1 s2 (s1.length:Int)) 0).bind (fg (fun (jJ:Bool)=>
   some [.bool jJ]) (un fun (lx:Int) (kC:Bool)=>
   some [.bool true]))
theorem aw3 {s1 s2:LV} {r:Option LV} (h:agl CC s1 s2=r):CC Gw [.list ak s1,.list ak s2]=r:=bC (bE (aw2 CC) au) h
noncomputable def Jh (C:af) (s1 s2:LV) (t12 t13:Int) {β:Type} (kn:Int→Option β) (kr:((Bool) ⊕ (Int×Bool))→Option β):Option β:=
 bif decide (t13<t12) then
  (idx s1 t13).bind fun x1=>
  (idx s2 t13).bind fun x2=>
  bif !(x1.toStr==x2.toStr) then
  kr (.inl false)
  else
  kn (wrap .i64 (t13+1))
 else
  kr (.inr (t13,decide (t13<t12)))
noncomputable def WH (C:af) (s1 s2:LV) (t12:Int):=fun t13=>Jh C s1 s2 t12 t13 (fun y=>some (Sum.inl y)) (fun r=>some (Sum.inr r))
noncomputable def aw4 (C:af):cD:=bI 65 Ud [EQ,EQ,EQ,H1] [[0],[1,2,3,0,0]] (@Jh C) bB
theorem aw5 (C:af):bD C (aw4 C) 114 (Lp [1,1,0,1,0,0] 114):=bJ Ud [EQ,EQ,EQ,H1] [[0],[1,2,3,0,0]] (@Jh C) (bq au)
noncomputable def agm (C:af) (s1 s2:LV):Option LV:=
 bif (s1.length:Int) != (s2.length:Int) then
  some [.bool false]
 else
  (Loop (WH C s1 s2 (s1.length:Int)) 0).bind (fg (fun (jJ:Bool)=>
   some [.bool jJ]) (un fun (lx:Int) (kC:Bool)=>
   some [.bool true]))
theorem aw6 {s1 s2:LV} {r:Option LV} (h:agm CC s1 s2=r):CC Mw [.list cu s1,.list cu s2]=r:=bC (bE (aw5 CC) au) h
noncomputable def Ji (C:af) (n:Int) (t7:LV) (t8 t9:Int) {β:Type} (kn:Int→Option β) (kr:((Bool) ⊕ (Int×Bool))→Option β):Option β:=
 bif decide (t9<t8) then
  (idx t7 t9).bind fun x1=>
  bif decide ((x1.toInt:Int)<0) then
  kr (.inl false)
  else
  bif decide ((x1.toInt:Int)≥n) then
   kr (.inl false)
  else
   kn (wrap .i64 (t9+1))
 else
  kr (.inr (t9,decide (t9<t8)))
noncomputable def WI (C:af) (n:Int) (t7:LV) (t8:Int):=fun t9=>Ji C n t7 t8 t9 (fun y=>some (Sum.inl y)) (fun r=>some (Sum.inr r))
noncomputable def aw7 (C:af):cD:=bI 33 Uu [EQ,EQ,EQ,H1] [[0],[1,2,3,0,0]] (@Ji C) bB
theorem aw8 (C:af):bD C (aw7 C) 149 (Lp [1,0,1,0,0] 149):=bJ Uu [EQ,EQ,EQ,H1] [[0],[1,2,3,0,0]] (@Ji C) (bq au)
noncomputable def agn (C:af) (list:LV) (n:Int):Option LV:=
 (Loop (WI C n list (list.length:Int)) 0).bind (fg (fun (AA:Bool)=>
  some [.bool AA]) (un fun (jJ:Int) (lx:Bool)=>
  some [.bool true]))
theorem aw9 {list:LV} {n:Int} {r:Option LV} (h:agn CC list n=r):CC GG [.list ab list,V.int .i64 n]=r:=bC (bE (aw8 CC) au) h
noncomputable def Jj (C:af) (n:Int) (t53:LV) (t54 iu:Int) (dA lZ kD ma mb:LV) (t55:Int) {β:Type} (kn:Int→Option β) (kr:((Bool) ⊕ (Int×Bool))→Option β):Option β:=
 bif decide (t55<t54) then
  (idx t53 t55).bind fun x1=>
  bif (x1.toList.length:Int) != n then
  kr (.inl false)
  else
  (C GG [.list ab x1.toList,V.int .i64 n]).bind fun r2=>
  bif !((V.nth r2 0).toBool) then
   kr (.inl false)
  else
   kn (wrap .i64 (t55+1))
 else
  kr (.inr (t55,decide (t55<t54)))
noncomputable def WJ (C:af) (n:Int) (t53:LV) (t54 iu:Int) (dA lZ kD ma mb:LV):=fun t55=>Jj C n t53 t54 iu dA lZ kD ma mb t55 (fun y=>some (Sum.inl y)) (fun r=>some (Sum.inr r))
noncomputable def axa (C:af):cD:=bI 113 T9 [EQ,EQ,EQ,H1,EQ,EQ,EQ,EQ,EQ,EQ] [[0],[1,2,3,0,0,5,6,7,8,9,10]] (@Jj C) bB
theorem axb (C:af):bD C (axa C) 111 (Lp [1,1,1,1,0,1,0,0] 111):=bJ T9 [EQ,EQ,EQ,H1,EQ,EQ,EQ,EQ,EQ,EQ] [[0],[1,2,3,0,0,5,6,7,8,9,10]] (@Jj C) (bq au)
noncomputable def ago (C:af) (gD:Int) (dZ ij gR gE gJ:LV):Option LV:=
 bif decide (gD<1) then
  some [.bool false]
 else
  bif decide (gD>6) then
  some [.bool false]
  else
  bif decide ((dZ.length:Int)<1) then
   some [.bool false]
  else
   bif decide ((dZ.length:Int)>400) then
   some [.bool false]
   else
   bif (ij.length:Int) != (dZ.length:Int) then
    some [.bool false]
   else
    bif (gE.length:Int) != (dZ.length:Int) then
    some [.bool false]
    else
    bif (gJ.length:Int) != (dZ.length:Int) then
     some [.bool false]
    else
     bif (gR.length:Int) != gD then
     some [.bool false]
     else
     (Loop (WJ C (dZ.length:Int) dZ (dZ.length:Int) gD dZ ij gR gE gJ) 0).bind (fg (fun (jJ:Bool)=>
      some [.bool jJ]) (un fun (lx:Int) (kC:Bool)=>
      (C GG [.list ab gR,V.int .i64 (dZ.length:Int)]).bind fun r6=>
      some [.bool ((V.nth r6 0).toBool)]))
theorem axc {gD:Int} {dZ ij gR gE gJ:LV} {r:Option LV} (h:ago CC gD dZ ij gR gE gJ=r):CC Mu [V.int .i64 gD,.list ag dZ,.list cu ij,.list ab gR,.list ak gE,.list ak gJ]=r:=bC (bE (axb CC) au) h
noncomputable def Jk (C:af) (x:Int) (row t19:LV) (t20 t21:Int) (t34:LV) (t35 iu:Int) (dA lZ kD ma mb:LV) (ed ee bj bt:Int) (aQ aW aU:LV) (t36:Int) (aF:LV) {β:Type} (kn:(Int×LV)→Option β) (kr:(Int×Bool×LV)→Option β):Option β:=
 bif decide (t36<t35) then
  (idx t34 t36).bind fun x3=>
  aM aF x fun x4=>
  (idx row x3.toInt).bind fun x5=>
  (fc Tryz.prog ag aF [(x.toNat,0)]).bind fun x6=>
  bif (decide (0≤t36))&&(decide (t36<(x6.toList.length:Int))) then
  (fc Tryz.prog ag aF [(x.toNat,0)]).bind fun x7=>
  (x7.toList[t36.toNat]?).bind fun x8=>
  kn (wrap .i64 (t36+1),setRow Tryz.prog (bn x7.toList t36 (V.int .i64 x5.toInt)) ag aF [(x.toNat,0)])
  else none
 else
  kr (t36,decide (t36<t35),aF)
noncomputable def O8 (C:af) (x:Int) (row t19:LV) (t20 t21:Int) (t34:LV) (t35 iu:Int) (dA lZ kD ma mb:LV) (ed ee bj bt:Int) (aQ aW aU:LV):=un fun t36 aF=>Jk C x row t19 t20 t21 t34 t35 iu dA lZ kD ma mb ed ee bj bt aQ aW aU t36 aF (fun y=>some (Sum.inl y)) (fun r=>some (Sum.inr r))
noncomputable def Jl (C:af) (t19:LV) (t20 iu:Int) (dA lZ kD ma mb:LV) (ed ee bj bt:Int) (aQ aW aU:LV) (t21:Int) (aF:LV) {β:Type} (kn:(Int×LV)→Option β) (kr:(Int×Bool×LV)→Option β):Option β:=
 bif decide (t21<t20) then
  (idx t19 t21).bind fun x1=>
  bif (decide (0≤iu))&&((decide (iu≤iu))&&(Nat.ble ((iu.toNat)*8) aX)) then
  aM aF t21 fun x2=>
  (Loop (O8 C t21 x1.toList t19 t20 t21 kD (kD.length:Int) iu dA lZ kD ma mb ed ee bj bt aQ aW aU) (0,bn aF t21 (.list ab (List.replicate (iu.toNat) (V.int .i64 0))))).bind (un fun uJ=>un fun (U0:Bool) (Ai:LV)=>
   kn (wrap .i64 (t21+1),Ai))
  else none
 else
  kr (t21,decide (t21<t20),aF)
noncomputable def WK (C:af) (t19:LV) (t20 iu:Int) (dA lZ kD ma mb:LV) (ed ee bj bt:Int) (aQ aW aU:LV):=un fun t21 aF=>Jl C t19 t20 iu dA lZ kD ma mb ed ee bj bt aQ aW aU t21 aF (fun y=>some (Sum.inl y)) (fun r=>some (Sum.inr r))
noncomputable def agp (C:af):cD:=bI 113 Ua [EQ,EQ,EQ,EQ,EQ,EQ,EQ,H1,EQ,EQ,EQ,EQ,EQ,EQ,EQ,EQ,EQ,EQ,EQ,EQ,EQ,H1] [[1,2,3,4,5,6,7,0,0,9,10,11,12,13,14,15,16,17,18,19,20,21,0]] (@Jk C) (bI 49 Ub [EQ,EQ,H1,EQ,EQ,EQ,EQ,EQ,EQ,EQ,EQ,EQ,EQ,EQ,EQ,EQ,H1] [[1,2,0,0,4,5,6,7,8,9,10,11,12,13,14,15,16,0]] (@Jl C) bB)
theorem axd (C:af):bD C (agp C) 112 (Lp [1,1,0,1,0,0,1,1,0,0,1,1,1,0,0] 112):=bJ Ua [EQ,EQ,EQ,EQ,EQ,EQ,EQ,H1,EQ,EQ,EQ,EQ,EQ,EQ,EQ,EQ,EQ,EQ,EQ,EQ,EQ,H1] [[1,2,3,4,5,6,7,0,0,9,10,11,12,13,14,15,16,17,18,19,20,21,0]] (@Jk C) (bq au)
theorem axe (C:af):bD C (agp C) 112 (Lp [1,1,0,1,0,0] 112):=bJ Ub [EQ,EQ,H1,EQ,EQ,EQ,EQ,EQ,EQ,EQ,EQ,EQ,EQ,EQ,EQ,EQ,H1] [[1,2,0,0,4,5,6,7,8,9,10,11,12,13,14,15,16,0]] (@Jl C) (bq (bE (axd C) au))
noncomputable def agq (C:af) (gD:Int) (dZ ij gR gE gJ:LV):Option LV:=
 bif Nat.ble (gE.length*1) aX then
  bif (decide (0≤(dZ.length:Int)))&&((decide ((dZ.length:Int)≤(dZ.length:Int)))&&(Nat.ble (((dZ.length:Int).toNat)*24) aX)) then
  (Loop (WK C dZ (dZ.length:Int) gD dZ ij gR gE gJ 0 0 gD 0 ([]:LV) ([]:LV) gE) (0,List.replicate ((dZ.length:Int).toNat) (V.list ab ([]:LV)))).bind (un fun Kv=>un fun (B6:Bool) (pE:LV)=>
   some [V.int .i64 gD,V.int .i64 0,.list ak gE,.list ag pE])
  else none
 else none
theorem axf {gD:Int} {dZ ij gR gE gJ:LV} {r:Option LV} (h:agq CC gD dZ ij gR gE gJ=r):CC Mv [V.int .i64 gD,.list ag dZ,.list cu ij,.list ab gR,.list ak gE,.list ak gJ]=r:=bC (bE (axe CC) au) h
noncomputable def Jm (C:af) (t28:LV) (t29 iu:Int) (dA lZ kD ma mb:LV) (fL:Int) (fM e9 eR gH gI:LV) (t30:Int) {β:Type} (kn:Int→Option β) (kr:((Int) ⊕ (Int×Bool))→Option β):Option β:=
 bif decide (t30<t29) then
  (idx t28 t30).bind fun x4=>
  (idx dA t30).bind fun x5=>
  (C Gv [.list ab x4.toList,.list ab x5.toList]).bind fun r6=>
  bif !((V.nth r6 0).toBool) then
  kr (.inl 8)
  else
  kn (wrap .i64 (t30+1))
 else
  kr (.inr (t30,decide (t30<t29)))
noncomputable def O9 (C:af) (t28:LV) (t29 iu:Int) (dA lZ kD ma mb:LV) (fL:Int) (fM e9 eR gH gI:LV):=fun t30=>Jm C t28 t29 iu dA lZ kD ma mb fL fM e9 eR gH gI t30 (fun y=>some (Sum.inl y)) (fun r=>some (Sum.inr r))
noncomputable def axg (C:af):cD:=bI 113 TT [EQ,EQ,H1,EQ,EQ,EQ,EQ,EQ,EQ,EQ,EQ,EQ,EQ,EQ,EQ] [[0],[1,2,0,0,4,5,6,7,8,9,10,11,12,13,14,15]] (@Jm C) bB
theorem axh (C:af):bD C (axg C) 81 (Lp [1,1,1,1,0,1,0,0] 81):=bJ TT [EQ,EQ,H1,EQ,EQ,EQ,EQ,EQ,EQ,EQ,EQ,EQ,EQ,EQ,EQ] [[0],[1,2,0,0,4,5,6,7,8,9,10,11,12,13,14,15]] (@Jm C) (bq au)
noncomputable def WM (C:af) (gD:Int) (dZ ij gR gE gJ:LV):Option LV:=
 (C Mu [V.int .i64 gD,.list ag dZ,.list cu ij,.list ab gR,.list ak gE,.list ak gJ]).bind fun r1=>
 bif !((V.nth r1 0).toBool) then
  some [V.int .i64 8]
 else
  (C Mv [V.int .i64 gD,.list ag dZ,.list cu ij,.list ab gR,.list ak gE,.list ak gJ]).bind fun r2=>
  (C qt [V.int .i64 ((V.nth r2 0).toInt),V.int .i64 ((V.nth (r2.drop 1) 0).toInt),.list ak ((V.nth (r2.drop 2) 0).toList),.list ag ((V.nth ((r2.drop 2).drop 1) 0).toList)]).bind fun r3=>
  bif (((V.nth (r3.drop 6) 0).toInt):Int) != 0 then
  some [V.int .i64 8]
  else
  bif ((((V.nth (r3.drop 1) 0).toList).length:Int):Int) != (dZ.length:Int) then
   some [V.int .i64 8]
  else
   (Loop (O9 C ((V.nth (r3.drop 1) 0).toList) (((V.nth (r3.drop 1) 0).toList).length:Int) gD dZ ij gR gE gJ ((V.nth r3 0).toInt) ((V.nth (r3.drop 1) 0).toList) ((V.nth ((r3.drop 1).drop 1) 0).toList) ((V.nth (((r3.drop 1).drop 1).drop 1) 0).toList) ((V.nth ((((r3.drop 1).drop 1).drop 1).drop 1) 0).toList) ((V.nth (((((r3.drop 1).drop 1).drop 1).drop 1).drop 1) 0).toList)) 0).bind (fg (fun mL=>
    some [V.int .i64 mL]) (un fun (vD:Int) (uJ:Bool)=>
    (C Mw [.list cu ((V.nth ((r3.drop 1).drop 1) 0).toList),.list cu ij]).bind fun eZ=>
    bif !((V.nth eZ 0).toBool) then
    some [V.int .i64 8]
    else
    (C Gv [.list ab ((V.nth (((r3.drop 1).drop 1).drop 1) 0).toList),.list ab gR]).bind fun cd=>
    bif !((V.nth cd 0).toBool) then
     some [V.int .i64 8]
    else
     (C Gw [.list ak ((V.nth ((((r3.drop 1).drop 1).drop 1).drop 1) 0).toList),.list ak gE]).bind fun tU=>
     bif !((V.nth tU 0).toBool) then
     some [V.int .i64 8]
     else
     (C Gw [.list ak ((V.nth (((((r3.drop 1).drop 1).drop 1).drop 1).drop 1) 0).toList),.list ak gJ]).bind fun gA=>
     bif !((V.nth gA 0).toBool) then
      some [V.int .i64 8]
     else
      some [V.int .i64 0]))
theorem axi {gD:Int} {dZ ij gR gE gJ:LV} {r:Option LV} (h:WM CC gD dZ ij gR gE gJ=r):CC CV [V.int .i64 gD,.list ag dZ,.list cu ij,.list ab gR,.list ak gE,.list ak gJ]=r:=bC (bE (axh CC) au) h
section
variable {l:LV} (hl:l.length≤1000000)
include hl
theorem agr:CC Gv [.list ab l,.list ab l]=some [.bool true]:=by
 refine aw0 ?_;unfold agk;refine bF (by simp) (bs (gz l.length (fun i=>(i:Int)) (.inr ((l.length:Int),false)) (fun i hi=> ?_) ?_) rfl)
 ·simp only[WE,Jf];have e:=R8 l i;rw[bU hi] at e;refine bT (bp hi) (bs e (bs e (bF (by simp) ?_)));rw[bz (by omega)]
 ·simp only[WE,Jf];rw[aV (aw _)];rfl
theorem ags:CC Gw [.list ak l,.list ak l]=some [.bool true]:=by
 refine aw3 ?_;unfold agl;refine bF (by simp) (bs (gz l.length (fun i=>(i:Int)) (.inr ((l.length:Int),false)) (fun i hi=> ?_) ?_) rfl)
 ·simp only[WG,Jg];have e:=R8 l i;rw[bU hi] at e;refine bT (bp hi) (bs e (bs e (bF (by simp) ?_)));rw[bz (by omega)]
 ·simp only[WG,Jg];rw[aV (aw _)];rfl
theorem axj:CC Mw [.list cu l,.list cu l]=some [.bool true]:=by
 refine aw6 ?_;unfold agm;refine bF (by simp) (bs (gz l.length (fun i=>(i:Int)) (.inr ((l.length:Int),false)) (fun i hi=> ?_) ?_) rfl)
 ·simp only[WH,Jh];have e:=R8 l i;rw[bU hi] at e;refine bT (bp hi) (bs e (bs e (bF (by simp) ?_)));rw[bz (by omega)]
 ·simp only[WH,Jh];rw[aV (aw _)];rfl
end
theorem agt {l:List Nat} {n:Nat} (hl:l.length≤1000000) (h: ∀y∈l,y<n):CC GG [.list ab (nS l),.int .i64 (n:Int)]=some [.bool true]:=by
 refine aw9 ?_;unfold agn;rw[dC];refine bs (gz l.length (fun i=>(i:Int)) (.inr ((l.length:Int),false)) (fun i hi=> ?_) ?_) rfl
 ·simp only[WI,Ji];refine bT (bp hi) (bs (iy hi) (bF yl (bF (DM (h _ (dr hi))) ?_)));rw[bz (by omega)]
 ·simp only[WI,Ji];rw[aV (aw _)];rfl
section
variable {m:Da} (hm:m.Ok) {S:List (List Nat)} (hS:tT m S) (f:Nat→List UInt8)
def rh (S:List (List Nat)) (i:Nat):List Nat:=(List.range S.length).map fun j=>fR S i j
theorem axk {i:Nat}:(tab S.length fun j=>nV (fR S i j))=nS (rh S i):=by unfold rh nS;rw[Bj];rfl
theorem Pb {i:Nat} (hi:i<S.length):idx (pD S) (i:Int)=some (.list ab (nS (rh S i))):=by rw[←axk];exact qT hi
include hm hS
theorem axl {i:Nat} (hi:i<S.length): ∀y∈rh S i,y<S.length:=fun y hy=>by
 obtain ⟨j,hj,rfl⟩:=iE.1 hy;exact age hm hS hi (ik.1 hj)
theorem axm:CC Mu (rf m S f)=some [.bool true]:=by
 have h1:=hm.l1;have h6:=hm.l6;have hp:=hS.pos;have hle:=hS.le;have e1:(pD S).length=S.length:=fT;have e2:(me m S).length=m.L:=by unfold me;rw[dC,fX,cY,jX]
 have e3:(nu m S).length=S.length:=fT;have e4:(jD m.L m.gT S S.length).length=S.length:=fT;refine axc ?_;unfold ago;rw[e1,e2,e3,e4,fT];refine bF (c8 (by omega)) (bF (c8 (by omega)) (bF (c8 (by omega)) (bF (c8 (by omega)) (bF (by simp) (bF (by simp) (bF (by simp) (bF (by simp) ?_)))))));refine bs (gz S.length (fun i=>(i:Int)) (.inr ((S.length:Int),false)) (fun i hi=> ?_) ?_) ?_
 ·simp only[WJ,Jj];refine bT (bp hi) (bs (Pb hi) ?_);rw[V.ez];have e5:(nS (rh S i)).length=S.length:=by rw[dC,rh,cY,jX]
  refine bF (by rw[e5];simp) (bs (agt (by rw[dC] at e5;omega) (axl hm hS hi)) (bF rfl ?_));rw[bz (by omega)]
 ·simp only[WJ,Jj];rw[aV (aw _)];rfl
 ·refine bs (agt (l:=fX m.L m.gT S (List.range m.n)) (by rw[fX,cY,jX];omega) fun y hy=> ?_) rfl;obtain ⟨x,hx,rfl⟩:=iE.1 hy;exact tv (hS.cl _ (WD hS) x (ik.1 hx))
omit hm hS in
theorem axn {x:Nat} (hx:x<m.L):idx (me m S) (x:Int)=some (nV (vl m S [x])):=by
 unfold me;rw[iy (by rw[fX,cY,jX];exact hx)];simp[fX,vl,oD]
theorem axo {i x:Nat} (hi:i<S.length) (hx:x<m.L):idx (nS (rh S i)) (vl m S [x]:Int)=some (nV (ic S (br m.gT (S.getD i []) x))):=by
 have kK:WL m.L [x]:=WL.nil.cons hx;have h1:=O6 hS kK;rw[iy (by rw[rh,cY,jX];exact h1)];obtain ⟨w,hw,rfl⟩:=A3 hS hi;have:(rh S (vl m S w))[vl m S [x]]'(by rw[rh,cY,jX];exact h1)=fR S (vl m S w) (vl m S [x]):=by simp[rh]
 rw[this,yu hm hS hw kK,O7 hS hw];unfold vl oD;rw[Ef];rfl
theorem axp:CC Mv (rf m S f)=some (eY (kY m S)):=by
 have h6:=hm.l6;have hle:=hS.le;have e1:(pD S).length=S.length:=fT;have e2:(me m S).length=m.L:=by unfold me;rw[dC,fX,cY,jX]
 have e3:(nu m S).length=S.length:=fT;refine axf ?_;unfold agq;rw[e1,e3];refine bT (cap (b:=0) (by omega) (by omega)) (bT (gB (by omega) (by omega)) ?_);rw[Int.toNat_natCast];have mJ: ∀{i:Nat},i<S.length→∀{k1 k2 k3 k4 k5 k6 k7:Int} {l1 l2 l3 l4 l5 l6 l7 l8 l9:LV} {a:LV},a.length=S.length→Loop (O8 CC (i:Int) (nS (rh S i)) l1 k1 k2 (me m S) (m.L:Int) k3 l2 l3 l4 l5 l6 k4 k5 k6 k7 l7 l8 l9) (0,a.set i (.list ab (List.replicate m.L (V.int .i64 0))))=some ((m.L:Int),false,a.set i (nH m.L ((kY m S).nx i))):=by
  intro i hi k1 k2 k3 k4 k5 k6 k7 l1 l2 l3 l4 l5 l6 l7 l8 l9 a ha;refine uO (fun x b=>((x:Int),a.set i (.list ab b))) m.L (fun x=>nV ((kY m S).nx i x)) _ (by simp) (fun b=>((m.L:Int),false,a.set i (.list ab b))) (fun x hx b hb=> ?_) ?_
  ·simp only[O8,Jk,un,aM,bn,Int.toNat_natCast];have e0:(a.set i (V.list ab b))[i]? =some (.list ab b):=o7 (by rw[ha];exact hi);refine bT (bp hx) (bs (axn hx) ((bY e0).trans (bs (axo hm hS hi hx) (bs (qv e0) ?_))));rw[V.ez];refine bT (oO (by rw[hb];exact hx)) (bs (qv e0) ?_);rw[V.ez];refine bs (bU (by rw[hb];exact hx)) ?_;rw[Fh e0,Bk,bz (by omega),agh hi hx];rfl
  ·simp only[O8,Jk,un];refine bF (aV (aw _)) ?_;rw[aV (aw _)]
 refine bs (uO (fun i a=>((i:Int),a)) S.length (fun i=>nH m.L ((kY m S).nx i)) _ (by simp) (fun a=>((S.length:Int),false,a)) (fun i hi a ha=> ?_) ?_) ?_
 ·simp only[WK,Jl,un,aM,bn];refine bT (bp hi) (bs (Pb hi) (bT (gB (by omega) (by omega)) ((rZ (by rw[ha];exact hi)).trans ?_)));rw[V.ez,e2,Int.toNat_natCast,Int.toNat_natCast];refine bs (mJ hi ha) ?_;rw[bz (by omega)];rfl
 ·simp only[WK,Jl,un];refine bF (aV (aw _)) ?_;rw[aV (aw _)]
 ·have e5:nu m S=(kY m S).cM:=by
   unfold nu Da.cM;rw[D5];exact dy fun i hi=>by rw[agf hi]
  have e6:(tab S.length fun i=>nH m.L ((kY m S).nx i))=(kY m S).cW:=by unfold Da.cW;rw[D5];rfl
  rw[e6,e5];rfl
end
section
variable {a:Da} (ha:a.Ok) {S:List (List Nat)} {f:Nat→List UInt8} (hS:tT (minD a) S) (E6:CC qt (eY a)=some (rf (minD a) S f++[.int .i64 0]))
include ha hS E6
theorem ail:CC CV (rf (minD a) S f)=some [.int .i64 0]:=by
 have hm:=kH ha;have hle:=hS.le;have hL6:=hm.l6;have hO:CC qt (eY (kY (minD a) S))=some (rf (minD a) S f++[.int .i64 0]):=(XY (agi hm hS) ha (awX ha hS)).trans E6;have fin: ∀z,WM CC ((minD a).L:Int) (pD S) (tab S.length fun j=> .str (f j)) (me (minD a) S) (nu (minD a) S) (jD (minD a).L (minD a).gT S S.length)=z→CC CV (rf (minD a) S f)=z:=fun z h=>axi h;refine fin _ ?_;unfold WM;refine bs (axm hm hS f) (bF rfl (bs (axp hm hS f) (bs hO (bF rfl (bF (by simp[rf]) ?_)))));have e1:(pD S).length=S.length:=fT;refine bs (a:= .inr ((S.length:Int),false)) ?_ ?_
 ·show Loop (O9 CC (pD S) ((pD S).length:Int) _ _ _ _ _ _ _ _ _ _ _ _) 0=_;rw[e1];refine gz S.length (fun i=>(i:Int)) _ (fun i hi=> ?_) ?_
  ·simp only[O9,Jm];refine bT (bp hi) (bs (Pb hi) (bs (Pb hi) (bs (agr (by rw[V.ez,dC,rh,cY,jX];omega)) (bF rfl ?_))));rw[bz (by omega)]
  ·simp only[O9,Jm];rw[aV (aw _)];rfl
 ·have e2:(me (minD a) S).length=(minD a).L:=by unfold me;rw[dC,fX,cY,jX]
  refine bs (axj (l:=tab S.length fun j=> .str (f j)) (by simp;omega)) (bF rfl (bs (agr (l:=me (minD a) S) (by omega)) (bF rfl (bs (ags (l:=nu (minD a) S) (by simp[nu];omega)) (bF rfl (bs (ags (l:=jD (minD a).L (minD a).gT S S.length) (by simp[jD];omega)) (bF rfl rfl)))))))
end
noncomputable def Jn (C:af) (oE:Int) (t26:LV) (t27:Int) (lists:LV) (t28:Int) (se:LV) {β:Type} (kn:(Int×LV)→Option β) (kr:(Int×Bool×LV)→Option β):Option β:=
 bif decide (t28<t27) then
  (idx t26 t28).bind fun x3=>
  bif x3.toBool then
  bif Nat.ble ((se.length+([V.int .i64 t28]:LV).length)*8) aX then
   kn (wrap .i64 (t28+1),se++([V.int .i64 t28]:LV))
  else none
  else
  aM lists oE fun x4=>
  bif (x4.cell 1).toBool then
   bif Nat.ble ((se.length+([V.int .i64 t28]:LV).length)*8) aX then
   kn (wrap .i64 (t28+1),se++([V.int .i64 t28]:LV))
   else none
  else
   kn (wrap .i64 (t28+1),se)
 else
  kr (t28,decide (t28<t27),se)
noncomputable def Pc (C:af) (oE:Int) (t26:LV) (t27:Int) (lists:LV):=un fun t28 se=>Jn C oE t26 t27 lists t28 se (fun y=>some (Sum.inl y)) (fun r=>some (Sum.inr r))
noncomputable def axq (C:af):cD:=bI 145 TP [EQ,EQ,EQ,H1,EQ,H1] [[1,2,3,0,0,5,0]] (@Jn C) bB
theorem axr (C:af):bD C (axq C) 58 (Lp [1,1,1,1,1,0,1,0,0] 58):=bJ TP [EQ,EQ,EQ,H1,EQ,H1] [[1,2,3,0,0,5,0]] (@Jn C) (bq au)
noncomputable def WN (C:af) (gD:Int) (dZ ij gR gE gJ:LV) (oE:Int):Option LV:=
 (C CV [V.int .i64 gD,.list ag dZ,.list cu ij,.list ab gR,.list ak gE,.list ak gJ]).bind fun r1=>
 bif (((V.nth r1 0).toInt):Int) != 0 then
  some [V.int .i64 ((V.nth r1 0).toInt),.list ab ([]:LV)]
 else
  (C BZ []).bind fun r2=>
  bif decide (oE<0) then
  some [V.int .i64 1,.list ab ([]:LV)]
  else
  bif decide (oE≥(((V.nth r2 0).toList).length:Int)) then
   some [V.int .i64 1,.list ab ([]:LV)]
  else
   (Loop (Pc C oE gJ (gJ.length:Int) ((V.nth r2 0).toList)) (0,([]:LV))).bind (un fun kC=>un fun (jz:Bool) (axs:LV)=>
    some [V.int .i64 0,.list ab axs])
theorem axt {gD:Int} {dZ ij gR gE gJ:LV} {oE:Int} {r:Option LV} (h:WN CC gD dZ ij gR gE gJ oE=r):CC Gn [V.int .i64 gD,.list ag dZ,.list cu ij,.list ab gR,.list ak gE,.list ak gJ,V.int .i64 oE]=r:=bC (bE (axr CC) au) h
noncomputable def Jo (C:af) (ec t40 iu:Int) (dA lZ kD ma mb se As:LV) (A4 t41:Int) {β:Type} (kn:(Int×Int)→Option β) (kr:((Bool×Int×Int×Int×LV) ⊕ (Int×Int×Bool))→Option β):Option β:=
 bif decide (t41<t40) then
  aM As t41 fun x5=>
  bif A4==ec then
  kr (.inl (false,0,0,7,([]:LV)))
  else
  (C Gp [.list ag dA,.list ab se,V.int .i64 ((x5.cell 0).toInt),V.int .i64 ((x5.cell 1).toInt),.list ai ((x5.cell 2).toList),V.int .i64 ((x5.cell 3).toInt),V.int .i64 ((x5.cell 4).toInt),.list ai ((x5.cell 5).toList),V.int .i64 (wrap .i64 (ec-A4))]).bind fun r6=>
  bif (((V.nth (r6.drop 1) 0).toInt):Int)==0 then
   kr (.inl (false,t41,wrap .i64 (A4+((V.nth r6 0).toInt)),0,(V.nth (r6.drop 2) 0).toList))
  else
   bif (((V.nth (r6.drop 1) 0).toInt):Int)==9 then
   kn (wrap .i64 (A4+((V.nth r6 0).toInt)),wrap .i64 (t41+1))
   else
   kr (.inl (false,0,0,(V.nth (r6.drop 1) 0).toInt,([]:LV)))
 else
  kr (.inr (A4,t41,decide (t41<t40)))
noncomputable def Pd (C:af) (ec t40 iu:Int) (dA lZ kD ma mb se As:LV):=un fun A4 t41=>Jo C ec t40 iu dA lZ kD ma mb se As A4 t41 (fun y=>some (Sum.inl y)) (fun r=>some (Sum.inr r))
noncomputable def axu (C:af):cD:=bI 129 Tz [EQ,H1,EQ,H1,EQ,EQ,EQ,EQ,EQ,EQ,EQ,EQ] [[0,0,0,0,0],[1,0,3,0,0,5,6,7,8,9,10,11,12]] (@Jo C) bB
theorem axv (C:af):bD C (axu C) 36 (Lp [1,1,1,1,1,0,1,0,0] 36):=bJ Tz [EQ,H1,EQ,H1,EQ,EQ,EQ,EQ,EQ,EQ,EQ,EQ] [[0,0,0,0,0],[1,0,3,0,0,5,6,7,8,9,10,11,12]] (@Jo C) (bq au)
noncomputable def Pe (C:af) (gD:Int) (dZ ij gR gE gJ:LV) (oE ec:Int):Option LV:=
 (C Gn [V.int .i64 gD,.list ag dZ,.list cu ij,.list ab gR,.list ak gE,.list ak gJ,V.int .i64 oE]).bind fun r1=>
 bif (((V.nth r1 0).toInt):Int) != 0 then
  some [.bool false,V.int .i64 0,V.int .i64 0,V.int .i64 ((V.nth r1 0).toInt),.list ab ([]:LV)]
 else
  bif decide (ec<1) then
  some [.bool false,V.int .i64 0,V.int .i64 0,V.int .i64 1,.list ab ([]:LV)]
  else
  bif decide (ec>1048576) then
   some [.bool false,V.int .i64 0,V.int .i64 0,V.int .i64 1,.list ab ([]:LV)]
  else
   (C BZ []).bind fun r2=>
   aM ((V.nth r2 0).toList) oE fun x3=>
   (C jy [.str ((x3.cell 0).toStr),.bool ((x3.cell 1).toBool),V.int .i64 ((x3.cell 2).toInt),V.int .i64 ((x3.cell 3).toInt),.str ((x3.cell 4).toStr),.str ((x3.cell 5).toStr)]).bind fun r4=>
   (Loop (Pd C ec (((V.nth (r4.drop 4) 0).toList).length:Int) gD dZ ij gR gE gJ ((V.nth (r1.drop 1) 0).toList) ((V.nth (r4.drop 4) 0).toList)) (0,0)).bind (fg (un fun (mL:Bool)=>un fun vD=>un fun uJ=>un fun (U0:Int) (axw:LV)=>
    some [.bool mL,V.int .i64 vD,V.int .i64 uJ,V.int .i64 U0,.list ab axw]) (un fun axx=>un fun (B6:Int) (vB:Bool)=>
    some [.bool true,V.int .i64 (-1),V.int .i64 axx,V.int .i64 0,.list ab ([]:LV)]))
theorem axy {gD:Int} {dZ ij gR gE gJ:LV} {oE ec:Int} {r:Option LV} (h:Pe CC gD dZ ij gR gE gJ oE ec=r):CC E4 [V.int .i64 gD,.list ag dZ,.list cu ij,.list ab gR,.list ak gE,.list ak gJ,V.int .i64 oE,V.int .i64 ec]=r:=bC (bE (axv CC) au) h
structure P9 (rows:LV) (xw:Nat→List jA):Prop where
 xr:CC BZ []=some [.list E0 rows]
 len:rows.length=17
 cls: ∀c,c<17→∃x,rows[c]? =some x∧∃(a:List UInt8) (b:Bool) (e f:Int),CC jy [.str (x.cell 0).toStr,.bool (x.cell 1).toBool,.int .i64 (x.cell 2).toInt,.int .i64 (x.cell 3).toInt,.str (x.cell 4).toStr,.str (x.cell 5).toStr]=some [.str a,.bool b,.int .i64 e,.int .i64 f,.list iq ((xw c).map fun d=> .agg (cL d))]
 ok: ∀c,c<17→∀d∈xw c,oj d
 il: ∀c,c<17→(xw c).length≤2
section
variable {rows:LV} {xw:Nat→List jA} (hC:P9 rows xw) {m:Da} {S:List (List Nat)} {f:Nat→List UInt8} (hm:m.Ok) (hS:tT m S) (hV:CC CV (rf m S f)=some [.int .i64 0]) {c:Nat} (hc:c<17)
include hC hS hV hc
omit hS in
theorem axz (hle:S.length≤400): ∃Z:List Nat,(∀z∈Z,z<S.length)∧Z.length≤S.length∧CC Gn (rf m S f++[.int .i64 (c:Int)])=some [.int .i64 0,.list ab (nS Z)]:=by
 obtain ⟨x,hx,_⟩:=hC.cls c hc;have hl:=hC.len;have pl:(jD m.L m.gT S S.length).length=S.length:=fT;have key:=jB (step:=Pc CC (c:Int) (jD m.L m.gT S S.length) (S.length:Int) rows) (fun i y=> ∃Z:List Nat,(∀z∈Z,z<S.length)∧Z.length≤i∧y=((i:Int),nS Z)) (fun r=> ∃Z:List Nat,(∀z∈Z,z<S.length)∧Z.length≤S.length∧r=((S.length:Int),false,nS Z)) S.length 0 (0,nS []) (fun i _ hi y hy=> ?_) (fun y hy=> ?_) ⟨[],fun _ h=>(by cases h),aw _,rfl⟩
 ·obtain ⟨r,e,Z,h1,h2,rfl⟩:=key;have fin: ∀z,WN CC (m.L:Int) (pD S) (tab S.length fun j=> .str (f j)) (me m S) (nu m S) (jD m.L m.gT S S.length) (c:Int)=z→CC Gn (rf m S f++[.int .i64 (c:Int)])=z:=fun z h=>axt h;refine ⟨Z,h1,h2,fin _ ?_⟩;unfold WN;rw[pl];refine bs hV (bF rfl (bs hC.xr (bF yl (bF ?_ (bs e rfl)))));show decide ((c:Int)≥(rows.length:Int))=false;rw[hl];exact c8 (by omega)
 ·obtain ⟨Z,h1,h2,rfl⟩:=hy;have bu:i<S.length:=by omega
  have hb: ∃b,idx (jD m.L m.gT S S.length) (i:Int)=some b:=⟨_,by rw[yZ rfl];exact bU (by rw[pl];exact bu)⟩
  obtain ⟨b,hb⟩:=hb;have lJ:(∀z∈Z++[i],z<S.length)∧(Z++[i]).length≤i+1:=⟨fun z hz=>by
   rcases eD.1 hz with hz|hz
   ·exact h1 z hz
   ·rw[fx.1 hz];exact bu,by simp;omega⟩
  have app: ∀{r:Int×LV},r=(((i+1:Nat):Int),nS (Z++[i]))→(bif Nat.ble (((nS Z).length+([V.int .i64 (i:Int)]:LV).length)*8) aX then some (Sum.inl (β:=Int×Bool×LV) (wrap .i64 ((i:Int)+1),nS Z++([V.int .i64 (i:Int)]:LV))) else none)=some (.inl r):=by
   rintro _ rfl;refine bT (cap (by rw[dC];simp;omega) (by omega)) ?_;rw[bz (by omega)];simp[nS,nV]
  simp only[Pc,Jn,un];cases WO:b.toBool with
  | true=>exact ⟨_,bT (bp bu) (bs hb (bT WO (app rfl))),Z++[i],lJ.1,lJ.2,rfl⟩
  | false=>
   cases kK:(x.cell 1).toBool with
   | true=>exact ⟨_,bT (bp bu) (bs hb (bF WO ((bY hx).trans (bT kK (app rfl))))),Z++[i],lJ.1,lJ.2,rfl⟩
   | false=>
    refine ⟨_,bT (bp bu) (bs hb (bF WO ((bY hx).trans (bF kK rfl)))),Z,h1,by omega,?_⟩;rw[bz (by omega)]
 ·obtain ⟨Z,h1,h2,rfl⟩:=hy;rw[dq] at*
  simp only[Pc,Jn,un];exact ⟨_,bF (aV (aw _)) rfl,Z,h1,h2,cx rfl (cx (aV (aw _)) rfl)⟩
include hm
theorem aim {bud:Int} (hb:1≤bud∧bud≤1048576): ∃(b:Bool) (i j e:Int) (l:LV),CC E4 (rf m S f++[.int .i64 (c:Int),.int .i64 bud])=some [.bool b,.int .i64 i,.int .i64 j,.int .i64 e,.list ab l]:=by
 have hle:=hS.le;obtain ⟨Z,hZ,AW,eE⟩:=axz hC hV hc hle;obtain ⟨x,hx,a,b,e,f',kG⟩:=hC.cls c hc;have rL:=hC.il c hc;have aq:=hC.ok c hc;generalize xw c=ids at kG rL aq;have hT:Tb S.length (fR S):=⟨hS.pos,hS.le,fun _ _ hi hj=>age hm hS hi hj⟩
 have hA: ∀i j k,i<S.length→j<S.length→k<S.length→fR S (fR S i j) k=fR S i (fR S j k):=fun _ _ _ hi hj hk=>awU hm hS hi hj hk;have ae: ∀j,j<S.length→fR S 0 j=j∧fR S j 0=j:=fun j hj=>by
  obtain ⟨w,hw,rfl⟩:=A3 hS hj;have e0:vl m S []=0:=agd hS;refine ⟨?_,?_⟩
  ·rw[←e0,yu hm hS WL.nil hw];rfl
  ·rw[←e0,yu hm hS hw WL.nil,uX]
 have key:=ym (step:=Pd CC bud (ids.length:Int) (m.L:Int) (pD S) (tab S.length fun j=> .str (f j)) (me m S) (nu m S) (jD m.L m.gT S S.length) (nS Z) (ids.map fun d=> .agg (cL d)))
  (fun i y=> ∃t:Int,y=(t,(i:Int))) (fun (r:(Bool×Int×Int×Int×LV) ⊕ (Int×Int×Bool))=>(∃b i j e l,r= .inl (b,i,j,e,l))∨∃t i b,r= .inr (t,i,b)) ids.length (fun i hi y hy=> ?_) (fun y hy=> ?_) ids.length 0 (0,0) (dq _) ⟨0,rfl⟩
 ·obtain ⟨r,el,hr⟩:=key;have fin: ∀z,Pe CC (m.L:Int) (pD S) (tab S.length fun j=> .str (f j)) (me m S) (nu m S) (jD m.L m.gT S S.length) (c:Int) bud=z→CC E4 (rf m S f++[.int .i64 (c:Int),.int .i64 bud])=z:=fun z h=>axy h;rcases hr with ⟨b,i,j,e,l,rfl⟩|⟨t,i,b,rfl⟩
  ·refine ⟨b,i,j,e,l,fin _ ?_⟩;unfold Pe;refine bs eE (bF rfl (bF (c8 (by omega)) (bF (c8 (by omega)) (bs hC.xr ((bY hx).trans (bs kG ?_))))));have hl:(((V.nth (List.drop 4 [V.str a,V.bool b,V.int IntKind.i64 e,V.int IntKind.i64 f',V.list iq (ids.map fun d=>V.agg (cL d))]) 0).toList).length:Int)=(ids.length:Int):=by show ((ids.map fun d=>V.agg (cL d)).length:Int)=_;rw[cY]
   first|exact bs (by rw[←hl] at el;exact el) rfl|exact bs el rfl
  ·refine ⟨true,-1,t,0,[],fin _ ?_⟩;unfold Pe;refine bs eE (bF rfl (bF (c8 (by omega)) (bF (c8 (by omega)) (bs hC.xr ((bY hx).trans (bs kG ?_))))));have hl:((ids.map fun d=>V.agg (cL d)).length:Int)=(ids.length:Int):=by rw[cY]
   rw[←hl] at el;exact bs el rfl
 ·obtain ⟨t,rfl⟩:=hy;have jT:(ids.map fun d=>V.agg (cL d))[i]? =some (.agg (cL ids[i])):=by simp[hi]
  obtain ⟨s,e2,l,hv⟩:=awx hT hA ae hZ (by omega) (aq _ (dr hi)) (wrap .i64 (bud-t));simp only[Pd,Jo,un];by_cases ct:(t==bud)=true
  ·exact .inr ⟨.inl (false,0,0,7,[]),bT (bp hi) ((bY jT).trans (bT ct rfl)),.inl ⟨false,0,0,7,[],rfl⟩⟩
  have ct:(t==bud)=false:=by simpa using ct
  by_cases c0:(e2==0)=true
  ·exact .inr ⟨_,bT (bp hi) ((bY jT).trans (bF ct (bs hv (bT c0 rfl)))),.inl ⟨false,(i:Int),wrap .i64 (t+s),0,l,rfl⟩⟩
  have c0:(e2==0)=false:=by simpa using c0
  by_cases c9:(e2==9)=true
  ·refine .inl ⟨(wrap .i64 (t+s),((i+1:Nat):Int)),bT (bp hi) ((bY jT).trans (bF ct (bs hv (bF c0 (bT c9 ?_))))),_,rfl⟩;rw[bz (by omega)];rfl
  ·have c9:(e2==9)=false:=by simpa using c9
   exact .inr ⟨_,bT (bp hi) ((bY jT).trans (bF ct (bs hv (bF c0 (bF c9 rfl))))),.inl ⟨false,0,0,e2,[],rfl⟩⟩
 ·obtain ⟨t,rfl⟩:=hy;simp only[Pd,Jo,un];exact ⟨.inr (t,(ids.length:Int),decide ((ids.length:Int)<(ids.length:Int))),bF (aV (aw _)) rfl,.inr ⟨t,(ids.length:Int),decide ((ids.length:Int)<(ids.length:Int)),rfl⟩⟩
end
noncomputable def agu (C:af) (s:List UInt8):Option LV:=
 bif decide ((s.length:Int)>1000) then
  some [V.int .i64 0,V.int .i64 0,.list ai ([]:LV),V.int .i64 0,V.int .i64 0,.list ai ([]:LV),V.int .i64 0,V.int .i64 21]
 else
  (C gg [.str s,V.int .i64 0]).bind fun r1=>
  bif !((V.nth (r1.drop 3) 0).toBool) then
  some [V.int .i64 0,V.int .i64 0,.list ai ([]:LV),V.int .i64 0,V.int .i64 0,.list ai ([]:LV),V.int .i64 ((V.nth ((r1.drop 4).drop 1) 0).toInt),V.int .i64 2]
  else
  (C nt [.int .u8 61,.str ((V.nth (r1.drop 4) 0).toStr),V.int .i64 ((V.nth ((r1.drop 4).drop 1) 0).toInt)]).bind fun r2=>
  bif !((V.nth r2 0).toBool) then
   some [V.int .i64 0,V.int .i64 0,.list ai ([]:LV),V.int .i64 0,V.int .i64 0,.list ai ([]:LV),V.int .i64 ((V.nth ((r2.drop 1).drop 1) 0).toInt),V.int .i64 2]
  else
   (C gg [.str ((V.nth (r2.drop 1) 0).toStr),V.int .i64 ((V.nth ((r2.drop 1).drop 1) 0).toInt)]).bind fun r3=>
   bif !((V.nth (r3.drop 3) 0).toBool) then
   some [V.int .i64 0,V.int .i64 0,.list ai ([]:LV),V.int .i64 0,V.int .i64 0,.list ai ([]:LV),V.int .i64 ((V.nth ((r3.drop 4).drop 1) 0).toInt),V.int .i64 2]
   else
   bif decide ((((V.nth ((r3.drop 4).drop 1) 0).toInt):Int)<(s.length:Int)) then
    some [V.int .i64 0,V.int .i64 0,.list ai ([]:LV),V.int .i64 0,V.int .i64 0,.list ai ([]:LV),V.int .i64 ((V.nth ((r3.drop 4).drop 1) 0).toInt),V.int .i64 2]
   else
    (C lY [V.int .i64 ((V.nth r1 0).toInt),V.int .i64 ((V.nth (r1.drop 1) 0).toInt),.list ai ((V.nth ((r1.drop 1).drop 1) 0).toList),V.int .i64 ((V.nth r3 0).toInt),V.int .i64 ((V.nth (r3.drop 1) 0).toInt),.list ai ((V.nth ((r3.drop 1).drop 1) 0).toList)]).bind fun r4=>
    bif (((V.nth r4 0).toInt):Int) != 0 then
    some [V.int .i64 0,V.int .i64 0,.list ai ([]:LV),V.int .i64 0,V.int .i64 0,.list ai ([]:LV),V.int .i64 0,V.int .i64 ((V.nth r4 0).toInt)]
    else
    some [V.int .i64 ((V.nth r1 0).toInt),V.int .i64 ((V.nth (r1.drop 1) 0).toInt),.list ai ((V.nth ((r1.drop 1).drop 1) 0).toList),V.int .i64 ((V.nth r3 0).toInt),V.int .i64 ((V.nth (r3.drop 1) 0).toInt),.list ai ((V.nth ((r3.drop 1).drop 1) 0).toList),V.int .i64 (-1),V.int .i64 0]
theorem axA {s:List UInt8} {r:Option LV} (h:agu CC s=r):CC BY [.str s]=r:=bC (L:=bB) au h
noncomputable def wM (C:af) (WQ WR ed:List UInt8) (ee:Bool) (kS kg:Int) (agv:List UInt8) (agw:Bool) (agx agy:Int) (aI:LV) (t23:Int) (aQ:LV) {β:Type} (kn:(Int×LV)→Option β) (kr:(Int×Bool×LV)→Option β):Option β:=
 bif decide (t23<2) then
  (idx ([.str WQ,.str WR]:LV) t23).bind fun x1=>
  (C BY [.str x1.toStr]).bind fun r2=>
  bif (((V.nth ((r2.drop 6).drop 1) 0).toInt):Int)==0 then
  bif Nat.ble ((aQ.length+([.agg [V.int .i64 ((V.nth r2 0).toInt),V.int .i64 ((V.nth (r2.drop 1) 0).toInt),.list ai ((V.nth ((r2.drop 1).drop 1) 0).toList),V.int .i64 ((V.nth (((r2.drop 1).drop 1).drop 1) 0).toInt),V.int .i64 ((V.nth ((((r2.drop 1).drop 1).drop 1).drop 1) 0).toInt),.list ai ((V.nth (((((r2.drop 1).drop 1).drop 1).drop 1).drop 1) 0).toList)]]:LV).length)*80) aX then
   kn (wrap .i64 (t23+1),aQ++([.agg [V.int .i64 ((V.nth r2 0).toInt),V.int .i64 ((V.nth (r2.drop 1) 0).toInt),.list ai ((V.nth ((r2.drop 1).drop 1) 0).toList),V.int .i64 ((V.nth (((r2.drop 1).drop 1).drop 1) 0).toInt),V.int .i64 ((V.nth ((((r2.drop 1).drop 1).drop 1).drop 1) 0).toInt),.list ai ((V.nth (((((r2.drop 1).drop 1).drop 1).drop 1).drop 1) 0).toList)]]:LV))
  else none
  else
  kn (wrap .i64 (t23+1),aQ)
 else
  kr (t23,decide (t23<2),aQ)
noncomputable def ri (C:af) (WQ WR ed:List UInt8) (ee:Bool) (kS kg:Int) (agv:List UInt8) (agw:Bool) (agx agy:Int) (aI:LV):=un fun t23 aQ=>wM C WQ WR ed ee kS kg agv agw agx agy aI t23 aQ (fun y=>some (Sum.inl y)) (fun r=>some (Sum.inr r))
noncomputable def axB (C:af):cD:=bI 49 TO [EQ,EQ,H1,EQ,EQ,EQ,EQ,EQ,EQ,EQ,EQ,EQ,H1] [[1,2,0,0,4,5,6,7,8,9,10,11,12,0]] (@wM C) bB
theorem axC (C:af):bD C (axB C) 57 (Lp [1,1,0,1,0,0] 57):=bJ TO [EQ,EQ,H1,EQ,EQ,EQ,EQ,EQ,EQ,EQ,EQ,EQ,H1] [[1,2,0,0,4,5,6,7,8,9,10,11,12,0]] (@wM C) (bq au)
noncomputable def WS (C:af) (th:List UInt8) (ti:Bool) (tj Jp:Int) (Pf wI:List UInt8):Option LV:=
 (Loop (ri C Pf wI [] false 0 0 th ti tj Jp ([]:LV)) (0,([]:LV))).bind (un fun jJ=>un fun (lx:Bool) (b_5:LV)=>
  some [.str th,.bool ti,V.int .i64 tj,V.int .i64 Jp,.list iq b_5])
theorem agz {th:List UInt8} {ti:Bool} {tj Jp:Int} {Pf wI:List UInt8} {r:Option LV} (h:WS CC th ti tj Jp Pf wI=r):CC jy [.str th,.bool ti,V.int .i64 tj,V.int .i64 Jp,.str Pf,.str wI]=r:=bC (bE (axC CC) au) h
def mK (s:List UInt8) (d:jA):Prop:=CC BY [.str s]=some (cL d++[.int .i64 (-1),.int .i64 0])
theorem pC {s:List UInt8} {d:jA} {p p2 q:Int} (hs:s.length≤1000) (h1:CC gg [.str s,.int .i64 0]=some [.int .i64 d.l0,.int .i64 d.l1,.list ai d.l2,.bool true,.str s,.int .i64 p])
  (h2:CC nt [.int .u8 61,.str s,.int .i64 p]=some [.bool true,.str s,.int .i64 p2])
  (h3:CC gg [.str s,.int .i64 p2]=some [.int .i64 d.r0,.int .i64 d.r1,.list ai d.r2,.bool true,.str s,.int .i64 q]) (hq:(s.length:Int)≤q) (hv:CC lY (cL d)=some [.int .i64 0]):mK s d:=by
 refine axA ?_;unfold agu;exact bF (c8 (by omega)) (bs h1 (bF rfl (bs h2 (bF rfl (bs h3 (bF rfl (bF (c8 (show¬q<(s.length:Int) by omega)) (bs hv (bF rfl rfl)))))))))
section
variable {n a b:List UInt8} {m:Bool} {f k:Int} {d e:jA}
theorem B0 (h1:mK a d) (h2:mK b e):CC jy [.str n,.bool m,.int .i64 f,.int .i64 k,.str a,.str b]=some [.str n,.bool m,.int .i64 f,.int .i64 k,.list iq ([d,e].map fun d=> .agg (cL d))]:=by
 refine agz ?_;unfold WS;have s1:ri CC a b [] false 0 0 n m f k ([]:LV) (0,[])=some (.inl (1,[.agg (cL d)])):=by
  simp only[ri,wM,un];exact bT rfl (bs rfl (bs h1 (bT rfl rfl)))
 have s2:ri CC a b [] false 0 0 n m f k ([]:LV) (1,[.agg (cL d)])=some (.inl (2,[.agg (cL d),.agg (cL e)])):=by
  simp only[ri,wM,un];exact bT rfl (bs rfl (bs h2 (bT rfl rfl)))
 have s3:ri CC a b [] false 0 0 n m f k ([]:LV) (2,[.agg (cL d),.agg (cL e)])=some (.inr (2,false,[.agg (cL d),.agg (cL e)])):=by
  simp only[ri,wM,un];exact bF rfl rfl
 exact bs ((iS s1).trans ((iS s2).trans (jY s3))) rfl
theorem sJ (h1:mK a d) (h2:CC BY [.str []]=some [.int .i64 0,.int .i64 0,.list ai [],.int .i64 0,.int .i64 0,.list ai [],.int .i64 0,.int .i64 2]):CC jy [.str n,.bool m,.int .i64 f,.int .i64 k,.str a,.str []]=some [.str n,.bool m,.int .i64 f,.int .i64 k,.list iq ([d].map fun d=> .agg (cL d))]:=by
 refine agz ?_;unfold WS;have s1:ri CC a [] [] false 0 0 n m f k ([]:LV) (0,[])=some (.inl (1,[.agg (cL d)])):=by
  simp only[ri,wM,un];exact bT rfl (bs rfl (bs h1 (bT rfl rfl)))
 have s2:ri CC a [] [] false 0 0 n m f k ([]:LV) (1,[.agg (cL d)])=some (.inl (2,[.agg (cL d)])):=by
  simp only[ri,wM,un];exact bT rfl (bs rfl (bs h2 (bF rfl rfl)))
 have s3:ri CC a [] [] false 0 0 n m f k ([]:LV) (2,[.agg (cL d)])=some (.inr (2,false,[.agg (cL d)])):=by
  simp only[ri,wM,un];exact bF rfl rfl
 exact bs ((iS s1).trans ((iS s2).trans (jY s3))) rfl
end
def eH:jA:={l0:=2,l1:=0,l2:=[],r0:=1,r1:=0,r2:=[],p:=[(1,0)],q:=[(0,0)],o1:=fun i=>[H1,EQ,EQ,EQ,EQ,EQ].getD i false,e1:=fun i=>[H1,EQ,EQ,EQ,EQ,EQ].getD i false,cR:=fun i=>[H1,EQ,EQ,EQ,EQ,EQ].getD i false,cU:=fun i=>[H1,EQ,EQ,EQ,EQ,EQ].getD i false,nv:=1}
def A5:List UInt8:=[120,32,61,32,49]
def dx:jA:={l0:=3,l1:=0,l2:=[.agg [.int .i64 2,.int .i64 0,.list ai []],.agg [.int .i64 2,.int .i64 1,.list ai []]],r0:=3,r1:=0,r2:=[.agg [.int .i64 2,.int .i64 1,.list ai []],.agg [.int .i64 2,.int .i64 0,.list ai []]],p:=[(1,0),(1,1),(2,0)],q:=[(1,1),(1,0),(2,0)],o1:=fun i=>[H1,H1,EQ,EQ,EQ,EQ].getD i false,e1:=fun i=>[H1,H1,EQ,EQ,EQ,EQ].getD i false,cR:=fun i=>[H1,H1,EQ,EQ,EQ,EQ].getD i false,cU:=fun i=>[H1,H1,EQ,EQ,EQ,EQ].getD i false,nv:=2}
def A6:List UInt8:=[120,121,32,61,32,121,120]
def aH:jA:={l0:=4,l1:=1,l2:=[.agg [.int .i64 2,.int .i64 0,.list ai []]],r0:=4,r1:=0,r2:=[.agg [.int .i64 2,.int .i64 0,.list ai []]],p:=[(1,0),(3,1)],q:=[(1,0),(3,0)],o1:=fun i=>[H1,EQ,EQ,EQ,EQ,EQ].getD i false,e1:=fun i=>[H1,EQ,EQ,EQ,EQ,EQ].getD i false,cR:=fun i=>[H1,EQ,EQ,EQ,EQ,EQ].getD i false,cU:=fun i=>[H1,EQ,EQ,EQ,EQ,EQ].getD i false,nv:=1}
def A7:List UInt8:=[120,94,40,119,43,49,41,32,61,32,120,94,119]
def dO:jA:={l0:=4,l1:=0,l2:=[.agg [.int .i64 2,.int .i64 0,.list ai []]],r0:=1,r1:=0,r2:=[],p:=[(1,0),(3,0)],q:=[(0,0)],o1:=fun i=>[H1,EQ,EQ,EQ,EQ,EQ].getD i false,e1:=fun i=>[EQ,EQ,EQ,EQ,EQ,EQ].getD i false,cR:=fun i=>[H1,EQ,EQ,EQ,EQ,EQ].getD i false,cU:=fun i=>[EQ,EQ,EQ,EQ,EQ,EQ].getD i false,nv:=1}
def A8:List UInt8:=[120,94,119,32,61,32,49]
def eI:jA:={l0:=3,l1:=0,l2:=[.agg [.int .i64 2,.int .i64 0,.list ai []],.agg [.int .i64 2,.int .i64 0,.list ai []]],r0:=2,r1:=0,r2:=[],p:=[(1,0),(1,0),(2,0)],q:=[(1,0)],o1:=fun i=>[H1,EQ,EQ,EQ,EQ,EQ].getD i false,e1:=fun i=>[H1,EQ,EQ,EQ,EQ,EQ].getD i false,cR:=fun i=>[H1,EQ,EQ,EQ,EQ,EQ].getD i false,cU:=fun i=>[H1,EQ,EQ,EQ,EQ,EQ].getD i false,nv:=1}
def A9:List UInt8:=[120,120,32,61,32,120]
def eh:jA:={l0:=3,l1:=0,l2:=[.agg [.int .i64 4,.int .i64 0,.list ai [.agg [.int .i64 3,.int .i64 0,.list ai [.agg [.int .i64 2,.int .i64 0,.list ai []],.agg [.int .i64 2,.int .i64 1,.list ai []]]]]],.agg [.int .i64 2,.int .i64 0,.list ai []]],r0:=4,r1:=0,r2:=[.agg [.int .i64 3,.int .i64 0,.list ai [.agg [.int .i64 2,.int .i64 0,.list ai []],.agg [.int .i64 2,.int .i64 1,.list ai []]]]],p:=[(1,0),(1,1),(2,0),(3,0),(1,0),(2,0)],q:=[(1,0),(1,1),(2,0),(3,0)],o1:=fun i=>[H1,H1,EQ,EQ,EQ,EQ].getD i false,e1:=fun i=>[H1,H1,EQ,EQ,EQ,EQ].getD i false,cR:=fun i=>[H1,H1,EQ,EQ,EQ,EQ].getD i false,cU:=fun i=>[H1,H1,EQ,EQ,EQ,EQ].getD i false,nv:=2}
def Ba:List UInt8:=[40,120,121,41,94,119,120,32,61,32,40,120,121,41,94,119]
def ei:jA:={l0:=3,l1:=0,l2:=[.agg [.int .i64 2,.int .i64 1,.list ai []],.agg [.int .i64 4,.int .i64 0,.list ai [.agg [.int .i64 3,.int .i64 0,.list ai [.agg [.int .i64 2,.int .i64 0,.list ai []],.agg [.int .i64 2,.int .i64 1,.list ai []]]]]]],r0:=4,r1:=0,r2:=[.agg [.int .i64 3,.int .i64 0,.list ai [.agg [.int .i64 2,.int .i64 0,.list ai []],.agg [.int .i64 2,.int .i64 1,.list ai []]]]],p:=[(1,1),(1,0),(1,1),(2,0),(3,0),(2,0)],q:=[(1,0),(1,1),(2,0),(3,0)],o1:=fun i=>[H1,H1,EQ,EQ,EQ,EQ].getD i false,e1:=fun i=>[H1,H1,EQ,EQ,EQ,EQ].getD i false,cR:=fun i=>[H1,H1,EQ,EQ,EQ,EQ].getD i false,cU:=fun i=>[H1,H1,EQ,EQ,EQ,EQ].getD i false,nv:=2}
def Bb:List UInt8:=[121,40,120,121,41,94,119,32,61,32,40,120,121,41,94,119]
def eJ:jA:={l0:=3,l1:=0,l2:=[.agg [.int .i64 4,.int .i64 0,.list ai [.agg [.int .i64 3,.int .i64 0,.list ai [.agg [.int .i64 2,.int .i64 0,.list ai []],.agg [.int .i64 2,.int .i64 1,.list ai []]]]]],.agg [.int .i64 2,.int .i64 0,.list ai []],.agg [.int .i64 4,.int .i64 0,.list ai [.agg [.int .i64 3,.int .i64 0,.list ai [.agg [.int .i64 2,.int .i64 0,.list ai []],.agg [.int .i64 2,.int .i64 1,.list ai []]]]]]],r0:=4,r1:=0,r2:=[.agg [.int .i64 3,.int .i64 0,.list ai [.agg [.int .i64 2,.int .i64 0,.list ai []],.agg [.int .i64 2,.int .i64 1,.list ai []]]]],p:=[(1,0),(1,1),(2,0),(3,0),(1,0),(2,0),(1,0),(1,1),(2,0),(3,0),(2,0)],q:=[(1,0),(1,1),(2,0),(3,0)],o1:=fun i=>[H1,H1,EQ,EQ,EQ,EQ].getD i false,e1:=fun i=>[H1,H1,EQ,EQ,EQ,EQ].getD i false,cR:=fun i=>[H1,H1,EQ,EQ,EQ,EQ].getD i false,cU:=fun i=>[H1,H1,EQ,EQ,EQ,EQ].getD i false,nv:=2}
def Bc:List UInt8:=[40,120,121,41,94,119,120,40,120,121,41,94,119,32,61,32,40,120,121,41,94,119]
def ej:jA:={l0:=3,l1:=0,l2:=[.agg [.int .i64 4,.int .i64 0,.list ai [.agg [.int .i64 2,.int .i64 0,.list ai []]]],.agg [.int .i64 2,.int .i64 1,.list ai []]],r0:=4,r1:=0,r2:=[.agg [.int .i64 2,.int .i64 0,.list ai []]],p:=[(1,0),(3,0),(1,1),(2,0)],q:=[(1,0),(3,0)],o1:=fun i=>[H1,H1,EQ,EQ,EQ,EQ].getD i false,e1:=fun i=>[EQ,H1,EQ,EQ,EQ,EQ].getD i false,cR:=fun i=>[H1,H1,EQ,EQ,EQ,EQ].getD i false,cU:=fun i=>[EQ,H1,EQ,EQ,EQ,EQ].getD i false,nv:=2}
def Bd:List UInt8:=[120,94,119,121,32,61,32,120,94,119]
def en:jA:={l0:=3,l1:=0,l2:=[.agg [.int .i64 2,.int .i64 1,.list ai []],.agg [.int .i64 4,.int .i64 0,.list ai [.agg [.int .i64 2,.int .i64 0,.list ai []]]]],r0:=4,r1:=0,r2:=[.agg [.int .i64 2,.int .i64 0,.list ai []]],p:=[(1,1),(1,0),(3,0),(2,0)],q:=[(1,0),(3,0)],o1:=fun i=>[H1,H1,EQ,EQ,EQ,EQ].getD i false,e1:=fun i=>[EQ,H1,EQ,EQ,EQ,EQ].getD i false,cR:=fun i=>[H1,H1,EQ,EQ,EQ,EQ].getD i false,cU:=fun i=>[EQ,H1,EQ,EQ,EQ,EQ].getD i false,nv:=2}
def Be:List UInt8:=[121,120,94,119,32,61,32,120,94,119]
def eL:jA:={l0:=3,l1:=0,l2:=[.agg [.int .i64 4,.int .i64 0,.list ai [.agg [.int .i64 2,.int .i64 0,.list ai []]]],.agg [.int .i64 2,.int .i64 1,.list ai []],.agg [.int .i64 4,.int .i64 0,.list ai [.agg [.int .i64 2,.int .i64 0,.list ai []]]]],r0:=4,r1:=0,r2:=[.agg [.int .i64 2,.int .i64 0,.list ai []]],p:=[(1,0),(3,0),(1,1),(2,0),(1,0),(3,0),(2,0)],q:=[(1,0),(3,0)],o1:=fun i=>[H1,H1,EQ,EQ,EQ,EQ].getD i false,e1:=fun i=>[EQ,H1,EQ,EQ,EQ,EQ].getD i false,cR:=fun i=>[H1,H1,EQ,EQ,EQ,EQ].getD i false,cU:=fun i=>[EQ,H1,EQ,EQ,EQ,EQ].getD i false,nv:=2}
def Bf:List UInt8:=[120,94,119,121,120,94,119,32,61,32,120,94,119]
def eM:jA:={l0:=3,l1:=0,l2:=[.agg [.int .i64 4,.int .i64 0,.list ai [.agg [.int .i64 2,.int .i64 0,.list ai []]]],.agg [.int .i64 2,.int .i64 1,.list ai []],.agg [.int .i64 4,.int .i64 0,.list ai [.agg [.int .i64 2,.int .i64 0,.list ai []]]],.agg [.int .i64 2,.int .i64 1,.list ai []],.agg [.int .i64 4,.int .i64 0,.list ai [.agg [.int .i64 2,.int .i64 0,.list ai []]]]],r0:=3,r1:=0,r2:=[.agg [.int .i64 4,.int .i64 0,.list ai [.agg [.int .i64 2,.int .i64 0,.list ai []]]],.agg [.int .i64 2,.int .i64 1,.list ai []],.agg [.int .i64 4,.int .i64 0,.list ai [.agg [.int .i64 2,.int .i64 0,.list ai []]]]],p:=[(1,0),(3,0),(1,1),(2,0),(1,0),(3,0),(2,0),(1,1),(2,0),(1,0),(3,0),(2,0)],q:=[(1,0),(3,0),(1,1),(2,0),(1,0),(3,0),(2,0)],o1:=fun i=>[H1,H1,EQ,EQ,EQ,EQ].getD i false,e1:=fun i=>[EQ,H1,EQ,EQ,EQ,EQ].getD i false,cR:=fun i=>[H1,H1,EQ,EQ,EQ,EQ].getD i false,cU:=fun i=>[EQ,H1,EQ,EQ,EQ,EQ].getD i false,nv:=2}
def Bg:List UInt8:=[120,94,119,121,120,94,119,121,120,94,119,32,61,32,120,94,119,121,120,94,119]
def eN:jA:={l0:=3,l1:=0,l2:=[.agg [.int .i64 4,.int .i64 0,.list ai [.agg [.int .i64 2,.int .i64 0,.list ai []]]],.agg [.int .i64 2,.int .i64 1,.list ai []],.agg [.int .i64 4,.int .i64 0,.list ai [.agg [.int .i64 2,.int .i64 0,.list ai []]]],.agg [.int .i64 2,.int .i64 2,.list ai []],.agg [.int .i64 4,.int .i64 0,.list ai [.agg [.int .i64 2,.int .i64 0,.list ai []]]]],r0:=3,r1:=0,r2:=[.agg [.int .i64 4,.int .i64 0,.list ai [.agg [.int .i64 2,.int .i64 0,.list ai []]]],.agg [.int .i64 2,.int .i64 2,.list ai []],.agg [.int .i64 4,.int .i64 0,.list ai [.agg [.int .i64 2,.int .i64 0,.list ai []]]],.agg [.int .i64 2,.int .i64 1,.list ai []],.agg [.int .i64 4,.int .i64 0,.list ai [.agg [.int .i64 2,.int .i64 0,.list ai []]]]],p:=[(1,0),(3,0),(1,1),(2,0),(1,0),(3,0),(2,0),(1,2),(2,0),(1,0),(3,0),(2,0)],q:=[(1,0),(3,0),(1,2),(2,0),(1,0),(3,0),(2,0),(1,1),(2,0),(1,0),(3,0),(2,0)],o1:=fun i=>[H1,H1,H1,EQ,EQ,EQ].getD i false,e1:=fun i=>[EQ,H1,H1,EQ,EQ,EQ].getD i false,cR:=fun i=>[H1,H1,H1,EQ,EQ,EQ].getD i false,cU:=fun i=>[EQ,H1,H1,EQ,EQ,EQ].getD i false,nv:=3}
def Bh:List UInt8:=[120,94,119,121,120,94,119,122,120,94,119,32,61,32,120,94,119,122,120,94,119,121,120,94,119]
def eG:jA:={l0:=3,l1:=0,l2:=[.agg [.int .i64 4,.int .i64 0,.list ai [.agg [.int .i64 3,.int .i64 0,.list ai [.agg [.int .i64 4,.int .i64 0,.list ai [.agg [.int .i64 2,.int .i64 0,.list ai []]]],.agg [.int .i64 2,.int .i64 2,.list ai []],.agg [.int .i64 4,.int .i64 0,.list ai [.agg [.int .i64 2,.int .i64 1,.list ai []]]],.agg [.int .i64 2,.int .i64 3,.list ai []],.agg [.int .i64 4,.int .i64 0,.list ai [.agg [.int .i64 2,.int .i64 0,.list ai []]]]]]]],.agg [.int .i64 4,.int .i64 0,.list ai [.agg [.int .i64 2,.int .i64 0,.list ai []]]],.agg [.int .i64 2,.int .i64 2,.list ai []],.agg [.int .i64 4,.int .i64 0,.list ai [.agg [.int .i64 2,.int .i64 1,.list ai []]]],.agg [.int .i64 2,.int .i64 5,.list ai []],.agg [.int .i64 4,.int .i64 0,.list ai [.agg [.int .i64 2,.int .i64 0,.list ai []]]],.agg [.int .i64 4,.int .i64 0,.list ai [.agg [.int .i64 3,.int .i64 0,.list ai [.agg [.int .i64 4,.int .i64 0,.list ai [.agg [.int .i64 2,.int .i64 0,.list ai []]]],.agg [.int .i64 2,.int .i64 4,.list ai []],.agg [.int .i64 4,.int .i64 0,.list ai [.agg [.int .i64 2,.int .i64 1,.list ai []]]],.agg [.int .i64 2,.int .i64 5,.list ai []],.agg [.int .i64 4,.int .i64 0,.list ai [.agg [.int .i64 2,.int .i64 0,.list ai []]]]]]]]],r0:=3,r1:=0,r2:=[.agg [.int .i64 4,.int .i64 0,.list ai [.agg [.int .i64 3,.int .i64 0,.list ai [.agg [.int .i64 4,.int .i64 0,.list ai [.agg [.int .i64 2,.int .i64 0,.list ai []]]],.agg [.int .i64 2,.int .i64 2,.list ai []],.agg [.int .i64 4,.int .i64 0,.list ai [.agg [.int .i64 2,.int .i64 1,.list ai []]]],.agg [.int .i64 2,.int .i64 3,.list ai []],.agg [.int .i64 4,.int .i64 0,.list ai [.agg [.int .i64 2,.int .i64 0,.list ai []]]]]]]],.agg [.int .i64 4,.int .i64 0,.list ai [.agg [.int .i64 3,.int .i64 0,.list ai [.agg [.int .i64 4,.int .i64 0,.list ai [.agg [.int .i64 2,.int .i64 0,.list ai []]]],.agg [.int .i64 2,.int .i64 4,.list ai []],.agg [.int .i64 4,.int .i64 0,.list ai [.agg [.int .i64 2,.int .i64 1,.list ai []]]],.agg [.int .i64 2,.int .i64 5,.list ai []],.agg [.int .i64 4,.int .i64 0,.list ai [.agg [.int .i64 2,.int .i64 0,.list ai []]]]]]]]],p:=[(1,0),(3,0),(1,2),(2,0),(1,1),(3,0),(2,0),(1,3),(2,0),(1,0),(3,0),(2,0),(3,0),(1,0),(3,0),(2,0),(1,2),(2,0),(1,1),(3,0),(2,0),(1,5),(2,0),(1,0),(3,0),(2,0),(1,0),(3,0),(1,4),(2,0),(1,1),(3,0),(2,0),(1,5),(2,0),(1,0),(3,0),(2,0),(3,0),(2,0)],q:=[(1,0),(3,0),(1,2),(2,0),(1,1),(3,0),(2,0),(1,3),(2,0),(1,0),(3,0),(2,0),(3,0),(1,0),(3,0),(1,4),(2,0),(1,1),(3,0),(2,0),(1,5),(2,0),(1,0),(3,0),(2,0),(3,0),(2,0)],o1:=fun i=>[H1,H1,H1,H1,H1,H1].getD i false,e1:=fun i=>[EQ,EQ,H1,H1,H1,H1].getD i false,cR:=fun i=>[H1,H1,H1,H1,H1,H1].getD i false,cU:=fun i=>[EQ,EQ,H1,H1,H1,H1].getD i false,nv:=6}
def yX:List UInt8:=[40,120,94,119,122,121,94,119,117,120,94,119,41,94,119,120,94,119,122,121,94,119,116,120,94,119,40,120,94,119,118,121,94,119,116,120,94,119,41,94,119,32,61,32,40,120,94,119,122,121,94,119,117,120,94,119,41,94,119,40,120,94,119,118,121,94,119,116,120,94,119,41,94,119]
def XH:LV:=[.agg [.str [116,114,105,118,105,97,108],.bool true,.int .i64 1,.int .i64 0,.str [120,32,61,32,49],.str []],
 .agg [.str [99,111,109,109,117,116,97,116,105,118,101],.bool true,.int .i64 4,.int .i64 0,.str [120,121,32,61,32,121,120],.str []],
 .agg [.str [99,111,109,109,117,116,97,116,105,118,101,45,97,112,101,114,105,111,100,105,99],.bool true,.int .i64 4,.int .i64 0,.str [120,121,32,61,32,121,120],.str [120,94,40,119,43,49,41,32,61,32,120,94,119]],
 .agg [.str [97,98,101,108,105,97,110],.bool true,.int .i64 4,.int .i64 0,.str [120,121,32,61,32,121,120],.str [120,94,119,32,61,32,49]],
 .agg [.str [115,101,109,105,108,97,116,116,105,99,101],.bool true,.int .i64 2,.int .i64 6,.str [120,121,32,61,32,121,120],.str [120,120,32,61,32,120]],
 .agg [.str [97,112,101,114,105,111,100,105,99],.bool true,.int .i64 1,.int .i64 0,.str [120,94,40,119,43,49,41,32,61,32,120,94,119],.str []],
 .agg [.str [103,114,111,117,112],.bool true,.int .i64 5,.int .i64 0,.str [120,94,119,32,61,32,49],.str []],
 .agg [.str [106,45,116,114,105,118,105,97,108],.bool true,.int .i64 2,.int .i64 6,.str [40,120,121,41,94,119,120,32,61,32,40,120,121,41,94,119],.str [121,40,120,121,41,94,119,32,61,32,40,120,121,41,94,119]],
 .agg [.str [114,45,116,114,105,118,105,97,108],.bool true,.int .i64 3,.int .i64 1,.str [40,120,121,41,94,119,120,32,61,32,40,120,121,41,94,119],.str []],
 .agg [.str [108,45,116,114,105,118,105,97,108],.bool true,.int .i64 3,.int .i64 2,.str [121,40,120,121,41,94,119,32,61,32,40,120,121,41,94,119],.str []],
 .agg [.str [100,97],.bool true,.int .i64 3,.int .i64 3,.str [40,120,121,41,94,119,120,40,120,121,41,94,119,32,61,32,40,120,121,41,94,119],.str []],
 .agg [.str [102,105,110,105,116,101,45,111,114,45,99,111,102,105,110,105,116,101],.bool false,.int .i64 2,.int .i64 1,.str [120,94,119,121,32,61,32,120,94,119],.str [121,120,94,119,32,61,32,120,94,119]],
 .agg [.str [100,101,102,105,110,105,116,101],.bool false,.int .i64 2,.int .i64 3,.str [121,120,94,119,32,61,32,120,94,119],.str []],
 .agg [.str [114,101,118,101,114,115,101,45,100,101,102,105,110,105,116,101],.bool false,.int .i64 2,.int .i64 2,.str [120,94,119,121,32,61,32,120,94,119],.str []],
 .agg [.str [103,101,110,101,114,97,108,105,115,101,100,45,100,101,102,105,110,105,116,101],.bool false,.int .i64 2,.int .i64 4,.str [120,94,119,121,120,94,119,32,61,32,120,94,119],.str []],
 .agg [.str [108,111,99,97,108,108,121,45,116,101,115,116,97,98,108,101],.bool false,.int .i64 2,.int .i64 5,.str [120,94,119,121,120,94,119,121,120,94,119,32,61,32,120,94,119,121,120,94,119],.str [120,94,119,121,120,94,119,122,120,94,119,32,61,32,120,94,119,122,120,94,119,121,120,94,119]],
 .agg [.str [100,111,116,45,100,101,112,116,104,45,111,110,101],.bool false,.int .i64 2,.int .i64 7,.str [40,120,94,119,122,121,94,119,117,120,94,119,41,94,119,120,94,119,122,121,94,119,116,120,94,119,40,120,94,119,118,121,94,119,116,120,94,119,41,94,119,32,61,32,40,120,94,119,122,121,94,119,117,120,94,119,41,94,119,40,120,94,119,118,121,94,119,116,120,94,119,41,94,119],.str []]]
def ahX (c:Nat):List jA:=[[eH],[dx],[dx,aH],[dx,dO],[dx,eI],[aH],[dO],[eh,ei],[eh],[ei],[eJ],[ej,en],[en],[ej],[eL],[eM,eN],[eG]].getD c []
end Go.AM
