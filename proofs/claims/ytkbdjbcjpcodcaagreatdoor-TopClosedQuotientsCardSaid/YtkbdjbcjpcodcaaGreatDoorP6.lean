/-
  Functions of the program, lifted to plain data.
-/
import Derived.Test.YtkbdjbcjpcodcaaGreatDoorP5
set_option linter.unusedVariables false
set_option linter.unusedSimpArgs false
set_option linter.unusedSectionVars false
set_option maxRecDepth 100000
namespace Go.AM
open Go.IntKind (wrap)
open Go.Proofs
section
variable {X R γ:Type} {step:X→Option (X ⊕ R)}
theorem tF (s:Nat→LV→X) (n:Nat) (g:Nat→V) (a0:LV) (h0:a0.length=n) (r:LV→R)
  (h: ∀i,i<n→∀a:LV,a.length=n→step (s i a)=some (.inl (s (i+1) (a.set i (g i))))) (he:step (s n (tab n g))=some (.inr (r (tab n g)))):Loop step (s 0 a0)=some (r (tab n g)):=by
 have key: ∀i,i≤n→step (s i (tab n fun j=>if j<i then g j else a0.getD j (.bool false)))=if i<n then some (.inl (s (i+1) (tab n fun j=>if j<i+1 then g j else a0.getD j (.bool false)))) else some (.inr (r (tab n g))):=by
  intro i hi;by_cases c:i<n
  ·rw[aA c,h i c _ (by simp),lH];refine congrArg (fun t=>some (Sum.inl (s (i+1) t))) (dg fun j _=> ?_);by_cases c2:j=i
   ·rw[aA c2,da,c2]
   ·rw[aw c2];by_cases c3:j<i
    ·rw[aA c3,da]
    ·rw[aw c3,dm]
  ·rw[aw c];obtain rfl:i=n:=by omega
   rw[show (tab i fun j=>if j<i then g j else a0.getD j (.bool false))=tab i g from dg fun j hj=>aA hj];exact he
 have e0:a0=tab n fun j=>if j<0 then g j else a0.getD j (.bool false):=by
  conv=>lhs;rw[aeI a0 (.bool false),h0]
  exact dg fun j _=>by rw[dm]
 rw[e0];refine fH n (fun i=>s i (tab n fun j=>if j<i then g j else a0.getD j (.bool false))) _ (fun i hi=> ?_) ?_
 ·rw[key i (by omega),aA hi]
 ·rw[key n (az _),aw (na _)]
theorem rz {es:LV} {i:Nat} (hi:i<es.length) {K:Option γ}:(bif (decide (0≤(i:Int)))&&(decide ((i:Int)<(es.length:Int))) then (es[((i:Int)).toNat]?).bind (fun _=>K) else none)=K:=
 (ca (b7 hi)).trans rfl
end
theorem iE {S:List Nat} {i:Nat} (h:i<S.length):idx (nS S) (i:Int)=some (nV S[i]):=by rw[Ch rfl,xo h]
theorem Vl (S:List Nat):nS S=tab S.length fun i=>nV (S.getD i 0):=Af S 0
theorem DH {i n:Nat} (h:i<n):decide ((i:Int)≥(n:Int))=false:=cX (by omega)
theorem xf {i:Nat}:decide ((i:Int)<0)=false:=cX (by omega)
def Tr (n:Nat) (f:List Nat):Prop:=f.length=n∧∀y∈f,y<n
def comp (f g:List Nat):List Nat:=f.map fun i=>g.getD i 0
theorem Tr.at {n:Nat} {f:List Nat} (h:Tr n f) {i:Nat} (hi:i<f.length):f[i]<n:=h.2 _ (dd hi)
theorem Tr.comp {n:Nat} {f g:List Nat} (hf:Tr n f) (hg:Tr n g):Tr n (comp f g):=by
 refine ⟨by simp[Go.AM.comp,hf.1],fun y hy=> ?_⟩;obtain ⟨i,hi,rfl⟩:=iB.1 hy;have:=hf.2 i hi;rw[cE (by rw[hg.1];exact this)];exact hg.at _
theorem HV {n:Nat}:Tr n (List.range n):=⟨by simp,fun y hy=>fQ.1 hy⟩
section
variable {n:Nat} {f g:List Nat} (h1:1≤n) (mn:n≤32)
include h1 mn
theorem Vm (hf:Tr n f):CC C8 [.list ab (nS f)]=some [.bool true]:=by
 have hl:=hf.1;refine asJ ?_;unfold ae4;rw[dE,hl];refine bF (cX (by omega)) (bF (cX (by omega)) ?_);refine bs (fH n (fun i=>(i:Int)) (.inr ((n:Int),false)) (fun i hi=> ?_) ?_) rfl
 ·simp only[Vh,HQ];have bS:i<f.length:=by omega
  refine bT (bm hi) (bs (iE bS) (bF xf (bF ?_ ?_)))
  ·rw[dE,hl];exact DH (hf.at bS)
  ·rw[br (by omega)]
 ·simp only[Vh,HQ];rw[aZ (az _)];rfl
theorem asW:CC MQ [.int .i64 (n:Int)]=some [.list ab (nS (List.range n))]:=by
 refine asN ?_;unfold ae5;refine bF (cX (by omega)) (bF (cX (by omega)) (bT (gD (by omega) (by omega)) ?_));rw[Int.toNat_natCast,yd];refine bs (tF (fun i a=>((i:Int),a)) n nV _ (by simp) (fun a=>((n:Int),false,a)) (fun i hi a ha=> ?_) ?_) ?_
 ·simp only[Vi,HR,un,aP,bj];refine bT (bm hi) ((rz (by omega)).trans ?_);rw[br (by omega),Int.toNat_natCast];rfl
 ·simp only[Vi,HR,un];rw[aZ (az _)];rfl
 ·rw[Vl];refine congrArg (fun t=>some [V.list ab t]) ?_;rw[jw];exact dg fun j hj=>by rw[cE (by simpa using hj)];simp
theorem asX (hf:Tr n f) (hg:Tr n g):CC G4 [.list ab (nS f),.list ab (nS g)]=some [.list ab (nS (comp f g))]:=by
 have hl:=hf.1;have hlg:=hg.1;refine asR ?_;unfold ae6;rw[dE,dE,hl,hlg];refine bF (by simp) (bs (Vm h1 mn hf) (bF rfl (bs (Vm h1 mn hg) (bF rfl (bT (gD (by omega) (by omega)) ?_)))));rw[Int.toNat_natCast];refine bs (tF (fun i a=>((i:Int),a)) n (fun i=>nV (g.getD (f.getD i 0) 0)) _ (by simp) (fun a=>((n:Int),false,a)) (fun i hi a ha=> ?_) ?_) ?_
 ·simp only[Vj,HS,un,aP,bj];have bS:i<f.length:=by omega
  have h2:=hf.at bS;refine bT (bm hi) (bs (iE bS) (bs (iE (i:=f[i]) (by omega)) ((rz (by omega)).trans ?_)));rw[br (by omega),Int.toNat_natCast,cE bS,cE (by omega)];rfl
 ·simp only[Vj,HS,un];rw[aZ (az _)];rfl
 ·rw[Vl];refine congrArg (fun t=>some [V.list ab t]) ?_;rw[show (comp f g).length=n by simp[comp,hl]];refine dg fun j hj=> ?_;have fV:j<f.length:=by omega
  rw[cE (l:=comp f g) (by simpa[comp] using fV),cE fV];simp[comp]
end
def nO (f:List Nat):List UInt8:=f.map fun y=>UInt8.ofNat y
theorem asY {n:Nat} (hn:n≤256) {f g:List Nat} (hf:Tr n f) (hg:Tr n g) (e:nO f=nO g):f=g:=by
 refine rX (hf.1.trans hg.1.symm) fun i h1 h2=> ?_;have:=List.getElem_of_eq e (i:=i) (by simpa[nO] using h1);simp only[nO,A3] at this;have a:=hf.at h1;have b:=hg.at h2;have:=congrArg UInt8.toNat this;simp only[UInt8.toNat_ofNat'] at this;omega
theorem Vn {n:Nat} {f:List Nat} (hn:n≤32) (hf:Tr n f):CC xL [.list ab (nS f)]=some [.str (nO f)]:=by
 have hl:=hf.1;refine asV ?_;unfold ae7;rw[dE,hl];refine bT (gD (by omega) (by omega)) ?_;rw[Int.toNat_natCast];refine bs (tF (fun i a=>((i:Int),a)) n (fun i=> .int .u8 ((f.getD i 0:Nat):Int)) _ (by simp) (fun a=>((n:Int),false,a)) (fun i hi a ha=> ?_) ?_) ?_
 ·simp only[Vk,HU,un,aP,bj];have bS:i<f.length:=by omega
  have h2:=hf.at bS;refine bT (bm hi) (bs (iE bS) ((rz (by omega)).trans ?_));rw[br (by omega),Int.toNat_natCast,cE bS,show (nV f[i]).toInt=(f[i]:Int) from rfl,abD (by omega) (by omega)]
 ·simp only[Vk,HU,un];rw[aZ (az _)];rfl
 ·refine congrArg (fun t=>some [V.str t]) ?_;rw[←hl];have:(tab f.length fun i=>V.int .u8 ((f.getD i 0:Nat):Int))=f.map fun y=> .int .u8 (y:Int):=(Af (f:=fun y:Nat=>V.int .u8 (y:Int)) f 0).symm;rw[this];simp[jU,nO]
end Go.AM
set_option maxRecDepth 100000
namespace Go.AM
open Go.IntKind (wrap)
section
variable {α:Type} [DecidableEq α] {L:Nat} {next:α→Nat→α} {a0:α}
theorem ae8 (S:List α) (a:α): ∀x,(cL next S a x).length≤S.length+x
 | 0=>az _
 | x+1=>by
  have:=ae8 S a x;rw[cL,Dy];split<;>omega
end
end Go.AM
set_option maxRecDepth 100000
namespace Go.AM
open Go.IntKind (wrap)
open Go.Proofs
noncomputable def ae9 (C:af) (f:LV) (HW last:Int) (word:List UInt8) (behind bZ:Int) (cq:Bool) (dj:Int) (bp aO aQ aV aS aF aU bC cb cv:LV):Option LV:=
 (C xL [.list ab f]).bind fun r1=>
 bif Nat.ble (((V.nth r1 0).toStr).length) maxLen&&true then
  bif Nat.ble ((aO.length+([.list ab f]:LV).length)*24) ba then
  bif Nat.ble ((aQ.length+([V.int .i64 HW]:LV).length)*8) ba then
   bif Nat.ble ((aV.length+([V.int .i64 last]:LV).length)*8) ba then
   bif Nat.ble ((bC.length+([.str word]:LV).length)*16) ba then
    bif Nat.ble ((cb.length+([V.int .i64 behind]:LV).length)*8) ba then
    some [V.int .i64 (aO.length:Int),V.int .i64 bZ,.bool cq,V.int .i64 dj,.list ag bp,.list cP (jz (.str ((V.nth r1 0).toStr)) (V.int .i64 (aO.length:Int)) aU),.list ag (aO++([.list ab f]:LV)),.list ab (aQ++([V.int .i64 HW]:LV)),.list ab (aV++([V.int .i64 last]:LV)),.list ag aS,.list ew aF,.list cz (bC++([.str word]:LV)),.list ab (cb++([V.int .i64 behind]:LV)),.list ab cv]
    else none
   else none
   else none
  else none
  else none
 else none
theorem asZ {f:LV} {HW last:Int} {word:List UInt8} {behind bZ:Int} {cq:Bool} {dj:Int} {bp aO aQ aV aS aF aU bC cb cv:LV} {r:Option LV} (h:ae9 CC f HW last word behind bZ cq dj bp aO aQ aV aS aF aU bC cb cv=r):CC C9 [.list ab f,V.int .i64 HW,V.int .i64 last,.str word,V.int .i64 behind,V.int .i64 bZ,.bool cq,V.int .i64 dj,.list ag bp,.list ag aO,.list ab aQ,.list ab aV,.list ag aS,.list ew aF,.list cP aU,.list cz bC,.list ab cb,.list ab cv]=r:=bO (L:=bM) av h
noncomputable def afa (C:af) (i x bZ:Int) (cq:Bool) (dj:Int) (bp aO aQ aV aS aF aU bC cb cv:LV):Option LV:=
 bif i==(-1) then
  aP cv x fun x1=>
  some [V.int .i64 x1.toInt,V.int .i64 bZ,.bool cq,V.int .i64 dj,.list ag bp,.list cP aU,.list ag aO,.list ab aQ,.list ab aV,.list ag aS,.list ew aF,.list cz bC,.list ab cb,.list ab cv]
 else
  aP aS i fun x2=>
  (idx x2.toList x).bind fun x3=>
  some [V.int .i64 x3.toInt,V.int .i64 bZ,.bool cq,V.int .i64 dj,.list ag bp,.list cP aU,.list ag aO,.list ab aQ,.list ab aV,.list ag aS,.list ew aF,.list cz bC,.list ab cb,.list ab cv]
theorem as0 {i x bZ:Int} {cq:Bool} {dj:Int} {bp aO aQ aV aS aF aU bC cb cv:LV} {r:Option LV} (h:afa CC i x bZ cq dj bp aO aQ aV aS aF aU bC cb cv=r):CC G5 [V.int .i64 i,V.int .i64 x,V.int .i64 bZ,.bool cq,V.int .i64 dj,.list ag bp,.list ag aO,.list ab aQ,.list ab aV,.list ag aS,.list ew aF,.list cP aU,.list cz bC,.list ab cb,.list ab cv]=r:=bO (L:=bM) av h
noncomputable def afb (C:af) (bZ:Int) (cq:Bool) (dj:Int) (bp aO aQ aV aS aF aU bC cb cv:LV):Option LV:=
 some [.bool (dj==(aO.length:Int)),V.int .i64 bZ,.bool cq,V.int .i64 dj,.list cP aU,.list ag bp,.list ag aO,.list ab aQ,.list ab aV,.list ag aS,.list ew aF,.list cz bC,.list ab cb,.list ab cv]
theorem as1 {bZ:Int} {cq:Bool} {dj:Int} {bp aO aQ aV aS aF aU bC cb cv:LV} {r:Option LV} (h:afb CC bZ cq dj bp aO aQ aV aS aF aU bC cb cv=r):CC MJ [V.int .i64 bZ,.bool cq,V.int .i64 dj,.list ag bp,.list ag aO,.list ab aQ,.list ab aV,.list ag aS,.list ew aF,.list cP aU,.list cz bC,.list ab cb,.list ab cv]=r:=bO (L:=bM) av h
noncomputable def NS (C:af) (i x bZ:Int) (cq:Bool) (dj:Int) (bp aO aQ aV aS aF aU bC cb cv:LV):Option LV:=
 (C G5 [V.int .i64 i,V.int .i64 x,V.int .i64 bZ,.bool cq,V.int .i64 dj,.list ag bp,.list ag aO,.list ab aQ,.list ab aV,.list ag aS,.list ew aF,.list cP aU,.list cz bC,.list ab cb,.list ab cv]).bind fun r1=>
 aP ((V.nth (((((r1.drop 1).drop 3).drop 1).drop 1).drop 1) 0).toList) ((V.nth r1 0).toInt) fun x2=>
 bif (x2.toInt:Int)==i then
  aP ((V.nth ((((((r1.drop 1).drop 3).drop 1).drop 1).drop 1).drop 1) 0).toList) ((V.nth r1 0).toInt) fun x3=>
  some [.bool ((x3.toInt:Int)==x),V.int .i64 ((V.nth (r1.drop 1) 0).toInt),.bool ((V.nth ((r1.drop 1).drop 1) 0).toBool),V.int .i64 ((V.nth (((r1.drop 1).drop 1).drop 1) 0).toInt),.list ag ((V.nth ((r1.drop 1).drop 3) 0).toList),.list cP ((V.nth (((r1.drop 1).drop 3).drop 1) 0).toList),.list ag ((V.nth ((((r1.drop 1).drop 3).drop 1).drop 1) 0).toList),.list ab ((V.nth (((((r1.drop 1).drop 3).drop 1).drop 1).drop 1) 0).toList),.list ab ((V.nth ((((((r1.drop 1).drop 3).drop 1).drop 1).drop 1).drop 1) 0).toList),.list ag ((V.nth (((((((r1.drop 1).drop 3).drop 1).drop 1).drop 1).drop 1).drop 1) 0).toList),.list ew ((V.nth ((((((((r1.drop 1).drop 3).drop 1).drop 1).drop 1).drop 1).drop 1).drop 1) 0).toList),.list cz ((V.nth (((((((((r1.drop 1).drop 3).drop 1).drop 1).drop 1).drop 1).drop 1).drop 1).drop 1) 0).toList),.list ab ((V.nth ((((((((((r1.drop 1).drop 3).drop 1).drop 1).drop 1).drop 1).drop 1).drop 1).drop 1).drop 1) 0).toList),.list ab ((V.nth (((((((((((r1.drop 1).drop 3).drop 1).drop 1).drop 1).drop 1).drop 1).drop 1).drop 1).drop 1).drop 1) 0).toList)]
 else
  some [.bool false,V.int .i64 ((V.nth (r1.drop 1) 0).toInt),.bool ((V.nth ((r1.drop 1).drop 1) 0).toBool),V.int .i64 ((V.nth (((r1.drop 1).drop 1).drop 1) 0).toInt),.list ag ((V.nth ((r1.drop 1).drop 3) 0).toList),.list cP ((V.nth (((r1.drop 1).drop 3).drop 1) 0).toList),.list ag ((V.nth ((((r1.drop 1).drop 3).drop 1).drop 1) 0).toList),.list ab ((V.nth (((((r1.drop 1).drop 3).drop 1).drop 1).drop 1) 0).toList),.list ab ((V.nth ((((((r1.drop 1).drop 3).drop 1).drop 1).drop 1).drop 1) 0).toList),.list ag ((V.nth (((((((r1.drop 1).drop 3).drop 1).drop 1).drop 1).drop 1).drop 1) 0).toList),.list ew ((V.nth ((((((((r1.drop 1).drop 3).drop 1).drop 1).drop 1).drop 1).drop 1).drop 1) 0).toList),.list cz ((V.nth (((((((((r1.drop 1).drop 3).drop 1).drop 1).drop 1).drop 1).drop 1).drop 1).drop 1) 0).toList),.list ab ((V.nth ((((((((((r1.drop 1).drop 3).drop 1).drop 1).drop 1).drop 1).drop 1).drop 1).drop 1).drop 1) 0).toList),.list ab ((V.nth (((((((((((r1.drop 1).drop 3).drop 1).drop 1).drop 1).drop 1).drop 1).drop 1).drop 1).drop 1).drop 1) 0).toList)]
theorem as2 {i x bZ:Int} {cq:Bool} {dj:Int} {bp aO aQ aV aS aF aU bC cb cv:LV} {r:Option LV} (h:NS CC i x bZ cq dj bp aO aQ aV aS aF aU bC cb cv=r):CC G6 [V.int .i64 i,V.int .i64 x,V.int .i64 bZ,.bool cq,V.int .i64 dj,.list ag bp,.list ag aO,.list ab aQ,.list ab aV,.list ag aS,.list ew aF,.list cP aU,.list cz bC,.list ab cb,.list ab cv]=r:=bO (L:=bM) av h
section
variable {X R:Type} {step:X→Option (X ⊕ R)}
theorem xi (P:Nat→X→Prop) (Q:R→Prop) (n:Nat) (h: ∀i,i<n→∀x,P i x→(∃y,step x=some (.inl y)∧P (i+1) y)∨∃r,step x=some (.inr r)∧Q r)
  (he: ∀x,P n x→∃r,step x=some (.inr r)∧Q r): ∀(d i:Nat) (x:X),i+d=n→P i x→∃r,Loop step x=some r∧Q r
 | 0,i,x,hi,hx=>by
  obtain rfl:i=n:=hi;obtain ⟨r,h1,h2⟩:=he x hx;exact ⟨r,kg h1,h2⟩
 | d+1,i,x,hi,hx=>by
  rcases h i (by omega) x hx with ⟨y,h1,h2⟩|⟨r,h1,h2⟩
  ·obtain ⟨r,h3,h4⟩:=xi P Q n h he d (i+1) y (by omega) h2;exact ⟨r,(iM h1).trans h3,h4⟩
  ·exact ⟨r,kg h1,h2⟩
end
section
variable {α:Type} [DecidableEq α] {ke:α→V} {x:α}
theorem Vo: ∀{S:List α} (i:Nat),(∀a∈S,jy (ke x) (ke a)=decide (x=a))→gQ (ke x) (fX ke i S)=decide (x∈S)
 | [],_,_=>by simp[fX,gQ]
 | a::S,i,h=>by
  have c: ∀(p q:V),(V.bf [p,q]).comp 0=p:=fun p q=>rfl;rw[fX,gQ,c,h a (by simp),Vo (i+1) fun b hb=>h b (ju _ hb)];rw[yh];simp
theorem afc {z:V}: ∀{S:List α} (i:Nat),(∀a∈S,jy (ke x) (ke a)=decide (x=a))→x∈S→kK (ke x) (fX ke i S) z= .int .i64 ((i+S.idxOf x:Nat):Int)
 | [],_,_,h=>by cases h
 | a::S,i,hk,h=>by
  have c: ∀(p q:V),(V.bf [p,q]).comp 0=p:=fun p q=>rfl;have c1: ∀(p q:V),(V.bf [p,q]).comp 1=q:=fun p q=>rfl;rw[fX,kK,c,c1,hk a (by simp)];by_cases e:x=a
  ·subst e;rw[cg rfl];simp[fX.iV]
  ·rw[cX e,cond_false,afc (i+1) (fun b hb=>hk b (ju _ hb)) ((fj.1 h).resolve_left e),show (a::S).idxOf x=S.idxOf x+1 from by rw[List.idxOf_cons,show (a==x)=false from qW.2 fun h=>e h.symm];rfl];congr 2;omega
theorem afd: ∀{S:List α} (i:Nat),(∀a∈S,jy (ke x) (ke a)=decide (x=a))→x∉S→jz (ke x) (.int .i64 ((i+S.length:Nat):Int)) (fX ke i S)=fX ke i (S++[x])
 | [],i,_,_=>by simp[fX,jz,fX.iV]
 | a::S,i,hk,h=>by
  have c: ∀(p q:V),(V.bf [p,q]).comp 0=p:=fun p q=>rfl;have e:x≠a:=fun e=>h (by simp[e]);rw[fX,jz,c,hk a (by simp),cX e,cond_false,List.cons_append,fX];congr 1;have:=afd (i+1) (fun b hb=>hk b (ju _ hb)) fun hx=>h (ju _ hx);rw[←this];simp only[List.length_cons];congr 3;omega
end
section
variable {α:Type} [DecidableEq α] {ke:α→V} {x:α} {S T:List α}
def iw (S:List α) (a:α):Nat:=S.idxOf a
theorem te (h:x∈S):iw S x<S.length:=wG h
theorem afe (hp:T <+: S) (h:x∈T):iw S x=iw T x:=DB hp h
theorem Vp (h:x∈S):S[iw S x]'(te h)=x:=Js (te h)
theorem Vq (h:S.Nodup) {i:Nat} (hi:i<S.length):iw S S[i]=i:=h.idxOf_getElem i hi
theorem as3 (h:x∉S):iw (S++[x]) x=S.length:=by rw[iw,A9,aw h];simp
theorem aff (h: ∀a∈S,jy (ke x) (ke a)=decide (x=a)) (hx:x∈S):gQ (ke x) (fX ke 0 S)=true:=(Vo 0 h).trans (cg hx)
theorem afg (h: ∀a∈S,jy (ke x) (ke a)=decide (x=a)) (hx:x∉S):gQ (ke x) (fX ke 0 S)=false:=(Vo 0 h).trans (cX hx)
theorem afh {z:V} (h: ∀a∈S,jy (ke x) (ke a)=decide (x=a)) (hx:x∈S):(kK (ke x) (fX ke 0 S) z).toInt=((iw S x:Nat):Int):=by rw[afc 0 h hx,dL];rfl
end
theorem as4 (a b:List UInt8):jy (.str a) (.str b)=decide (a=b):=by
 simp only[jy,V.cells,qf,wO,Bool.and_true];rw[yh];simp
def tV (f:List Nat):V:= .list ab (nS f)
def sV (S:List (List Nat)):LV:=S.map tV
def kT (f:List Nat):V:= .str (nO f)
def mT (S:List (List Nat)):LV:=fX kT 0 S
def iL (l:List Int):LV:=l.map fun x=> .int .i64 x
def wL (l:List (List UInt8)):LV:=l.map V.str
theorem qQ {f:List Nat}:(tV f).toList=nS f:=by simp[tV]
theorem Vr {n:Nat} (hn:n≤32) {S:List (List Nat)} (hS: ∀f∈S,Tr n f) {f:List Nat} (hf:Tr n f): ∀a∈S,jy (kT f) (kT a)=decide (f=a):=fun a ha=>by
 rw[kT,kT,as4,yh,Ec,Ec];exact ⟨fun e=>asY (by omega) hf (hS a ha) e,fun e=>by rw[e]⟩
theorem HX {S:List (List Nat)} {i:Nat} (h:i<S.length):(sV S)[i]? =some (tV S[i]):=by simp[sV,h]
theorem uC {l:List Int} {i:Nat} (h:i<l.length):(iL l)[i]? =some (.int .i64 (l.getD i 0)):=by simp[iL,h]
theorem xV {l:List (List UInt8)} {i:Nat} (h:i<l.length):(wL l)[i]? =some (.str (l.getD i [])):=by simp[wL,h]
@[simp] theorem xW {S:List (List Nat)}:(sV S).length=S.length:=by simp[sV]
@[simp] theorem azu {l:List Int}:(iL l).length=l.length:=by simp[iL]
@[simp] theorem azv {l:List (List UInt8)}:(wL l).length=l.length:=by simp[wL]
def xX (n D:Nat) (G:LV) (S:List (List Nat)) (P K:List Int) (R:List (List Nat)) (U:LV) (W:List (List UInt8)) (B:List Int) (s:List Nat):List V:=
 [.int .i64 (n:Int),.bool true,.int .i64 (D:Int),.list ag G,.list ag (sV S),.list ab (iL P),.list ab (iL K),.list ag (sV R),.list ew U,.list cP (mT S),.list cz (wL W),.list ab (iL B),.list ab (nS s)]
def NT (n D:Nat) (G:LV) (S:List (List Nat)) (P K:List Int) (R:List (List Nat)) (U:LV) (W:List (List UInt8)) (B:List Int) (s:List Nat):List V:=
 [.int .i64 (n:Int),.bool true,.int .i64 (D:Int),.list ag G,.list cP (mT S),.list ag (sV S),.list ab (iL P),.list ab (iL K),.list ag (sV R),.list ew U,.list cz (wL W),.list ab (iL B),.list ab (nS s)]
def wh (R:List (List Nat)) (s:List Nat) (b:Int) (x:Nat):Nat:=if b= -1 then s.getD x 0 else (R.getD b.toNat []).getD x 0
structure kI (L n:Nat) (g:Nat→List Nat) (S:List (List Nat)) (P K:List Int) (R:List (List Nat)) (W:List (List UInt8)) (B:List Int) (s:List Nat):Prop where
 tr: ∀f∈S,Tr n f
 nd:S.Nodup
 len:S.length≤2000
 lP:P.length=S.length
 lK:K.length=S.length
 lW:W.length=S.length
 lB:B.length=S.length
 row: ∀r∈R,r.length=L∧∀y∈r,y<S.length
 s:s.length≤L∧∀y∈s,y<S.length
 b: ∀i,i<S.length→B.getD i 0= -1∨(0≤B.getD i 0∧B.getD i 0<i)
 w: ∀i,i<S.length→(W.getD i []).length≤i
 p: ∀i,0<i→i<S.length→∃p x:Nat,P.getD i 0=p∧K.getD i 0=x∧p<i∧x<L∧S.getD i []=comp (S.getD p []) (g x)
 id:S.head? =some (List.range n)
section
variable {L n D:Nat} {g:Nat→List Nat} {S:List (List Nat)} {P K:List Int} {R:List (List Nat)} {W:List (List UInt8)} {B:List Int} {s:List Nat} {G U:LV}
theorem kI.grow (h:kI L n g S P K R W B s) {f:List Nat} (hf:Tr n f) (hn:f∉S) (hl:S.length<2000) {p x:Nat} {w:List UInt8} {b:Int} (hp:p<S.length) (hx:x<L) (hw:w.length≤S.length) (hb:b= -1∨(0≤b∧b<S.length)) (e:f=comp (S.getD p []) (g x)):
  kI L n g (S++[f]) (P++[(p:Int)]) (K++[(x:Int)]) R (W++[w]) (B++[b]) s:=by
 have a1: ∀{α:Type} {l:List α} {z d:α} {i:Nat},i<l.length→(l++[z]).getD i d=l.getD i d:=fun {α l z d i} hi=>by
  rw[qY,qY,ng hi]
 have a2: ∀{α:Type} {l:List α} {z d:α} {i:Nat},i=l.length→(l++[z]).getD i d=z:=fun {α l z d i} hi=>by subst hi;simp
 have c: ∀i,i<(S++[f]).length→i<S.length∨i=S.length:=fun i hi=>by simp at hi;omega
 refine ⟨fun a ha=> ?_,?_,by simp;omega,by simp[h.lP],by simp[h.lK],by simp[h.lW],by simp[h.lB],fun r hr=>⟨(h.row r hr).1,fun y hy=>by have:=(h.row r hr).2 y hy;simp;omega⟩,⟨h.s.1,fun y hy=>by have:=h.s.2 y hy;simp;omega⟩,fun i hi=> ?_,fun i hi=> ?_,fun i h0 hi=> ?_,?_⟩
 ·rcases fb.1 ha with ha|ha
  ·exact h.tr a ha
  ·rw[fL.1 ha];exact hf
 ·refine Eb.2 ⟨h.nd,by simp,fun a ha b hb e=> ?_⟩;rw[fL.1 hb] at e;exact hn (e▸ha)
 ·rcases c i hi with c|c
  ·rw[a1 (by rw[h.lB];exact c)];exact h.b i c
  ·rw[a2 (by rw[h.lB];exact c),c];exact hb
 ·rcases c i hi with c|c
  ·rw[a1 (by rw[h.lW];exact c)];exact h.w i c
  ·rw[a2 (by rw[h.lW];exact c),c];exact hw
 ·rcases c i hi with c|c
  ·obtain ⟨p,x,q1,q2,q3,q4,q5⟩:=h.p i h0 c;exact ⟨p,x,by rw[a1 (by rw[h.lP];exact c)];exact q1,by rw[a1 (by rw[h.lK];exact c)];exact q2,q3,q4,by rw[a1 c,a1 (by omega)];exact q5⟩
  ·exact ⟨p,x,a2 (by rw[h.lP];exact c),a2 (by rw[h.lK];exact c),by omega,hx,by rw[a2 c,a1 hp];exact e⟩
 ·have:=h.id;cases S with
  | nil=>cases this
  | cons a S=>exact this
theorem kI.pos (h:kI L n g S P K R W B s):0<S.length:=by
 have:=h.id;cases S with
 | nil=>cases this
 | cons a S=>simp
theorem afi (h:kI L n g S P K R W B s) {b:Int} {x:Nat} (hx:x<L) (hs:b= -1→x<s.length) (hb:b= -1∨(0≤b∧b<R.length)):wh R s b x<S.length:=by
 unfold wh;split
 ·rename_i e;rw[cE (hs e)];exact h.s.2 _ (dd _)
 ·rename_i e;obtain ⟨h1,h2⟩:=hb.resolve_left e;have h3:b.toNat<R.length:=by omega
  have:=h.row R[b.toNat] (dd h3);rw[cE h3,cE (by omega)];exact this.2 _ (dd _)
theorem Vs (hn:n≤32) (hS: ∀f∈S,Tr n f) {f:List Nat} (hf:Tr n f) (vH:f∉S) (h1:S.length≤2000) (h2:P.length≤2000) (h3:K.length≤2000) (h4:W.length≤2000) (h5:B.length≤2000) {p k b:Int} {w:List UInt8}:
  CC C9 ([tV f,.int .i64 p,.int .i64 k,.str w,.int .i64 b]++xX n D G S P K R U W B s)=some (nV S.length::NT n D G (S++[f]) (P++[p]) (K++[k]) R U (W++[w]) (B++[b]) s):=by
 have hl:=hf.1;refine asZ ?_;unfold ae9;refine bs (Vn hn hf) ?_;have e1:(nO f).length=n:=by simp[nO,hl]
 refine bT (kb.2 ⟨yf (by rw[show (V.nth [V.str (nO f)] 0).toStr=nO f from rfl,e1];unfold maxLen;omega),rfl⟩) ?_;refine bT (cap (by simp;omega) (by omega)) (bT (cap (by simp;omega) (by omega)) (bT (cap (by simp;omega) (by omega)) (bT (cap (by simp;omega) (by omega)) (bT (cap (by simp;omega) (by omega)) ?_))));have e2:=afd (ke:=kT) 0 (Vr hn hS hf) vH;rw[dL] at e2;rw[xW];unfold NT mT;rw[←e2];simp[sV,iL,wL,nV,tV];rfl
theorem Vt {b:Int} {x:Nat} (h:kI L n g S P K R W B s) (hx:x<L) (hs:b= -1→x<s.length) (hb:b= -1∨(0≤b∧b<R.length)):
  CC G5 ([.int .i64 b,nV x]++xX n D G S P K R U W B s)=some (nV (wh R s b x)::NT n D G S P K R U W B s):=by
 refine as0 ?_;unfold afa wh;by_cases e:b= -1
 ·rw[aA e];refine bT (by simp[e]) ((ca (xo (hs e))).trans ?_);rw[cE (hs e)];rfl
 ·rw[aw e];obtain ⟨h1,h2⟩:=hb.resolve_left e;obtain ⟨k,rfl⟩:=Jk h1;have h3:k<R.length:=by omega
  have h4:=(h.row R[k] (dd h3)).1;refine bF (by simp only[qW];exact e) ((ca (HX h3)).trans ?_);rw[qQ];refine bs (iE (by omega)) ?_;rw[show ((k:Int)).toNat=k from Int.toNat_natCast k,cE h3,cE (by omega)];rfl
theorem as5 {b:Int} {x:Nat} (h:kI L n g S P K R W B s) (hx:x<L) (hs:b= -1→x<s.length) (hb:b= -1∨(0≤b∧b<R.length)):
  ∃c,CC G6 ([.int .i64 b,nV x]++xX n D G S P K R U W B s)=some (.bool c::NT n D G S P K R U W B s):=by
 have h1:=afi h hx hs hb;have e: ∀r,NS CC b (x:Int) (n:Int) true (D:Int) G (sV S) (iL P) (iL K) (sV R) U (mT S) (wL W) (iL B) (nS s)=r→CC G6 ([.int .i64 b,nV x]++xX n D G S P K R U W B s)=r:=fun r h=>as2 h;by_cases c1:P.getD (wh R s b x) 0=b
 ·refine ⟨K.getD (wh R s b x) 0==(x:Int),e _ ?_⟩;unfold NS;refine bs (Vt h hx hs hb) ((ca (uC (by rw[h.lP];exact h1))).trans (bT ?_ ((ca (uC (by rw[h.lK];exact h1))).trans rfl)));simpa using c1
 ·refine ⟨false,e _ ?_⟩;unfold NS;refine bs (Vt h hx hs hb) ((ca (uC (by rw[h.lP];exact h1))).trans (bF ?_ rfl));simpa using c1
theorem Vu:CC MJ (xX n D G S P K R U W B s)=some [.bool ((D:Int)==(S.length:Int)),.int .i64 (n:Int),.bool true,.int .i64 (D:Int),.list cP (mT S),.list ag G,.list ag (sV S),.list ab (iL P),.list ab (iL K),.list ag (sV R),.list ew U,.list cz (wL W),.list ab (iL B),.list ab (nS s)]:=by
 refine as1 ?_;unfold afb;rw[xW]
end
noncomputable def uD (C:af) (u x i:Int) (Vv:List UInt8) (t28 t29:Int) (t78:Bool) (bZ:Int) (cq:Bool) (dj:Int) (aU rows fs tf fY fZ gq gE dW ga gZ lj:LV) {β:Type} (kr:(Int×Int×Bool×Int×LV×LV×LV×LV×LV×LV×LV×LV×LV×LV)→Option β):Option β:=
 bif t78 then
  aP gZ u fun x6=>
  (C G5 [V.int .i64 x6.toInt,V.int .i64 x,V.int .i64 bZ,.bool cq,V.int .i64 dj,.list ag tf,.list ag fY,.list ab fZ,.list ab gq,.list ag gE,.list ew dW,.list cP aU,.list cz ga,.list ab gZ,.list ab lj]).bind fun r7=>
  (C C9 [.list ab fs,V.int .i64 u,V.int .i64 x,.str Vv,V.int .i64 ((V.nth r7 0).toInt),V.int .i64 ((V.nth (r7.drop 1) 0).toInt),.bool ((V.nth ((r7.drop 1).drop 1) 0).toBool),V.int .i64 ((V.nth (((r7.drop 1).drop 1).drop 1) 0).toInt),.list ag ((V.nth ((r7.drop 1).drop 3) 0).toList),.list ag ((V.nth ((((r7.drop 1).drop 3).drop 1).drop 1) 0).toList),.list ab ((V.nth (((((r7.drop 1).drop 3).drop 1).drop 1).drop 1) 0).toList),.list ab ((V.nth ((((((r7.drop 1).drop 3).drop 1).drop 1).drop 1).drop 1) 0).toList),.list ag ((V.nth (((((((r7.drop 1).drop 3).drop 1).drop 1).drop 1).drop 1).drop 1) 0).toList),.list ew ((V.nth ((((((((r7.drop 1).drop 3).drop 1).drop 1).drop 1).drop 1).drop 1).drop 1) 0).toList),.list cP ((V.nth (((r7.drop 1).drop 3).drop 1) 0).toList),.list cz ((V.nth (((((((((r7.drop 1).drop 3).drop 1).drop 1).drop 1).drop 1).drop 1).drop 1).drop 1) 0).toList),.list ab ((V.nth ((((((((((r7.drop 1).drop 3).drop 1).drop 1).drop 1).drop 1).drop 1).drop 1).drop 1).drop 1) 0).toList),.list ab ((V.nth (((((((((((r7.drop 1).drop 3).drop 1).drop 1).drop 1).drop 1).drop 1).drop 1).drop 1).drop 1).drop 1) 0).toList)]).bind fun r8=>
  kr ((V.nth r8 0).toInt,(V.nth (r8.drop 1) 0).toInt,(V.nth ((r8.drop 1).drop 1) 0).toBool,(V.nth (((r8.drop 1).drop 1).drop 1) 0).toInt,(V.nth (((r8.drop 1).drop 3).drop 1) 0).toList,(V.nth ((r8.drop 1).drop 3) 0).toList,(V.nth ((((r8.drop 1).drop 3).drop 1).drop 1) 0).toList,(V.nth (((((r8.drop 1).drop 3).drop 1).drop 1).drop 1) 0).toList,(V.nth ((((((r8.drop 1).drop 3).drop 1).drop 1).drop 1).drop 1) 0).toList,(V.nth (((((((r8.drop 1).drop 3).drop 1).drop 1).drop 1).drop 1).drop 1) 0).toList,(V.nth ((((((((r8.drop 1).drop 3).drop 1).drop 1).drop 1).drop 1).drop 1).drop 1) 0).toList,(V.nth (((((((((r8.drop 1).drop 3).drop 1).drop 1).drop 1).drop 1).drop 1).drop 1).drop 1) 0).toList,(V.nth ((((((((((r8.drop 1).drop 3).drop 1).drop 1).drop 1).drop 1).drop 1).drop 1).drop 1).drop 1) 0).toList,(V.nth (((((((((((r8.drop 1).drop 3).drop 1).drop 1).drop 1).drop 1).drop 1).drop 1).drop 1).drop 1).drop 1) 0).toList)
 else
  aP ga u fun x9=>
  bif !(x9.toStr==[]) then
  aP gZ u fun oj=>
  (C G6 [V.int .i64 oj.toInt,V.int .i64 x,V.int .i64 bZ,.bool cq,V.int .i64 dj,.list ag tf,.list ag fY,.list ab fZ,.list ab gq,.list ag gE,.list ew dW,.list cP aU,.list cz ga,.list ab gZ,.list ab lj]).bind fun cH=>
  bif (V.nth cH 0).toBool then
   aP ((V.nth (((((((((cH.drop 1).drop 3).drop 1).drop 1).drop 1).drop 1).drop 1).drop 1).drop 1) 0).toList) i fun j9=>
   bif Nat.ble ((((V.nth ((((((((cH.drop 1).drop 3).drop 1).drop 1).drop 1).drop 1).drop 1).drop 1) 0).toList).length+([.agg [.str Vv,.str j9.toStr]]:LV).length)*32) ba then
   kr (i,(V.nth (cH.drop 1) 0).toInt,(V.nth ((cH.drop 1).drop 1) 0).toBool,(V.nth (((cH.drop 1).drop 1).drop 1) 0).toInt,(V.nth (((cH.drop 1).drop 3).drop 1) 0).toList,(V.nth ((cH.drop 1).drop 3) 0).toList,(V.nth ((((cH.drop 1).drop 3).drop 1).drop 1) 0).toList,(V.nth (((((cH.drop 1).drop 3).drop 1).drop 1).drop 1) 0).toList,(V.nth ((((((cH.drop 1).drop 3).drop 1).drop 1).drop 1).drop 1) 0).toList,(V.nth (((((((cH.drop 1).drop 3).drop 1).drop 1).drop 1).drop 1).drop 1) 0).toList,((V.nth ((((((((cH.drop 1).drop 3).drop 1).drop 1).drop 1).drop 1).drop 1).drop 1) 0).toList)++([.agg [.str Vv,.str j9.toStr]]:LV),(V.nth (((((((((cH.drop 1).drop 3).drop 1).drop 1).drop 1).drop 1).drop 1).drop 1).drop 1) 0).toList,(V.nth ((((((((((cH.drop 1).drop 3).drop 1).drop 1).drop 1).drop 1).drop 1).drop 1).drop 1).drop 1) 0).toList,(V.nth (((((((((((cH.drop 1).drop 3).drop 1).drop 1).drop 1).drop 1).drop 1).drop 1).drop 1).drop 1).drop 1) 0).toList)
   else none
  else
   kr (i,(V.nth (cH.drop 1) 0).toInt,(V.nth ((cH.drop 1).drop 1) 0).toBool,(V.nth (((cH.drop 1).drop 1).drop 1) 0).toInt,(V.nth (((cH.drop 1).drop 3).drop 1) 0).toList,(V.nth ((cH.drop 1).drop 3) 0).toList,(V.nth ((((cH.drop 1).drop 3).drop 1).drop 1) 0).toList,(V.nth (((((cH.drop 1).drop 3).drop 1).drop 1).drop 1) 0).toList,(V.nth ((((((cH.drop 1).drop 3).drop 1).drop 1).drop 1).drop 1) 0).toList,(V.nth (((((((cH.drop 1).drop 3).drop 1).drop 1).drop 1).drop 1).drop 1) 0).toList,(V.nth ((((((((cH.drop 1).drop 3).drop 1).drop 1).drop 1).drop 1).drop 1).drop 1) 0).toList,(V.nth (((((((((cH.drop 1).drop 3).drop 1).drop 1).drop 1).drop 1).drop 1).drop 1).drop 1) 0).toList,(V.nth ((((((((((cH.drop 1).drop 3).drop 1).drop 1).drop 1).drop 1).drop 1).drop 1).drop 1).drop 1) 0).toList,(V.nth (((((((((((cH.drop 1).drop 3).drop 1).drop 1).drop 1).drop 1).drop 1).drop 1).drop 1).drop 1).drop 1) 0).toList)
  else
  kr (i,bZ,cq,dj,aU,tf,fY,fZ,gq,gE,dW,ga,gZ,lj)
noncomputable def HY (C:af) (u t28 t29 bZ:Int) (cq:Bool) (dj:Int) (aU rows tf g0 fY fZ gq gE dW ga gZ:LV) {β:Type} (kn:(Int×Int×Bool×Int×LV×LV×LV×LV×LV×LV×LV×LV×LV×LV×LV)→Option β) (kr:((Int×Int×Bool×Int×LV×LV×LV×LV×LV×LV×LV×LV×LV×LV) ⊕ (Int×Bool×Int×Bool×Int×LV×LV×LV×LV×LV×LV×LV×LV×LV×LV×LV))→Option β):Option β:=
 bif decide (t29<t28) then
  aP tf t29 fun x1=>
  aP g0 u fun x2=>
  (C G4 [.list ab x2.toList,.list ab x1.toList]).bind fun r3=>
  (C xL [.list ab ((V.nth r3 0).toList)]).bind fun r4=>
  bif Nat.ble (((V.nth r4 0).toStr).length) maxLen&&true then
  aP dW u fun x5=>
  bif (decide (0≤(wrap .i32 (wrap .i64 (97+t29)))))&&(decide ((wrap .i32 (wrap .i64 (97+t29)))<128)) then
   bif Nat.ble (x5.toStr.length+[UInt8.ofNat ((wrap .i32 (wrap .i64 (97+t29)):Int).toNat)].length) pc then
   bif !(gQ (.str ((V.nth r4 0).toStr)) aU) then
    bif (g0.length:Int)==2000 then
    kr (.inl (3,bZ,cq,dj,aU,tf,g0,fY,fZ,gq,gE,dW,ga,gZ))
    else
    uD C u t29 ((kK (.str ((V.nth r4 0).toStr)) aU (V.int .i64 0)).toInt) (x5.toStr++[UInt8.ofNat ((wrap .i32 (wrap .i64 (97+t29)):Int).toNat)]) t28 t29 (!(gQ (.str ((V.nth r4 0).toStr)) aU)) bZ cq dj aU rows ((V.nth r3 0).toList) tf g0 fY fZ gq gE dW ga gZ (un fun as6=>un fun as7=>un fun (Hz:Bool)=>un fun HA=>un fun (td:LV)=>un fun (as8:LV)=>un fun (qv:LV)=>un fun (pI:LV)=>un fun (Ak:LV)=>un fun (Al:LV)=>un fun (uA:LV)=>un fun (vq:LV)=>un fun (NU:LV) (NV:LV)=>
     aP rows t29 fun x27=>
     kn (wrap .i64 (t29+1),as7,Hz,HA,td,bj rows t29 (V.int .i64 as6),as8,qv,pI,Ak,Al,uA,vq,NU,NV))
   else
    uD C u t29 ((kK (.str ((V.nth r4 0).toStr)) aU (V.int .i64 0)).toInt) (x5.toStr++[UInt8.ofNat ((wrap .i32 (wrap .i64 (97+t29)):Int).toNat)]) t28 t29 (!(gQ (.str ((V.nth r4 0).toStr)) aU)) bZ cq dj aU rows ((V.nth r3 0).toList) tf g0 fY fZ gq gE dW ga gZ (un fun NW=>un fun Vw=>un fun (Vx:Bool)=>un fun Vy=>un fun (Ve:LV)=>un fun (as9:LV)=>un fun (Ah:LV)=>un fun (HN:LV)=>un fun (Vz:LV)=>un fun (HZ:LV)=>un fun (H0:LV)=>un fun (H2:LV)=>un fun (H3:LV) (DI:LV)=>
     aP rows t29 fun x42=>
     kn (wrap .i64 (t29+1),Vw,Vx,Vy,Ve,bj rows t29 (V.int .i64 NW),as9,Ah,HN,Vz,HZ,H0,H2,H3,DI))
   else none
  else none
  else none
 else
  kr (.inr (t29,decide (t29<t28),bZ,cq,dj,aU,rows,tf,g0,fY,fZ,gq,gE,dW,ga,gZ))
noncomputable def DJ (C:af) (u t28:Int):=un fun t29=>un fun bZ=>un fun cq=>un fun dj=>un fun aU=>un fun rows=>un fun tf=>un fun g0=>un fun fY=>un fun fZ=>un fun gq=>un fun gE=>un fun dW=>un fun ga gZ=>HY C u t28 t29 bZ cq dj aU rows tf g0 fY fZ gq gE dW ga gZ (fun y=>some (Sum.inl y)) (fun r=>some (Sum.inr r))
noncomputable def afj (C:af):cN:=Mx 1263 Ud [[1,2,0,5,6,0,0,0,0,12,0,0,0,0,0,0,0,0,0]] (@uD C) (bL 65 Ue [EQ,EQ,H1,H1,H1,H1,H1,H1,H1,H1,H1,H1,H1,H1,H1,H1,H1] [[0,0,0,0,0,0,0,0,0,0,0,0,0,0],[1,2,0,0,0,0,0,0,0,0,0,0,0,0,0,0,0,0]] (@HY C) bM)
theorem ata (C:af):bD C (afj C) 100 (Cd 78 [1,1,1,0,1,0,0,1,1,0,0,1,1,1,1,0,0,1,1,1,0] [1,1,1,0,1,0,0,1,1,0,0,1,1,1,1,0,0,1,1,1,1] 100):=Mw Ud [[1,2,0,5,6,0,0,0,0,12,0,0,0,0,0,0,0,0,0]] (@uD C) (bA av) (bA av)
theorem atb (C:af):bD C (afj C) 100 (Lp [1,1,1,0,1,0,0] 100):=bN Ue [EQ,EQ,H1,H1,H1,H1,H1,H1,H1,H1,H1,H1,H1,H1,H1,H1,H1] [[0,0,0,0,0,0,0,0,0,0,0,0,0,0],[1,2,0,0,0,0,0,0,0,0,0,0,0,0,0,0,0,0]] (@HY C) (bA (bE (ata C) av))
noncomputable def NY (C:af) (bZ:Int) (cq:Bool) (dj:Int) (bp aO aQ aV aS aF aU bC cb cv:LV):Option LV:=
 bif (decide (0≤(bp.length:Int)))&&((decide ((bp.length:Int)≤(bp.length:Int)))&&(Nat.ble (((bp.length:Int).toNat)*8) ba)) then
  (Loop (DJ C dj (bp.length:Int)) (0,bZ,cq,dj,aU,List.replicate ((bp.length:Int).toNat) (V.int .i64 0),bp,aO,aQ,aV,aS,aF,bC,cb,cv)).bind (fJ (un fun VA=>un fun H4=>un fun (VB:Bool)=>un fun VC=>un fun (DK:LV)=>un fun (xY:LV)=>un fun (H5:LV)=>un fun (VD:LV)=>un fun (H6:LV)=>un fun (VE:LV)=>un fun (VF:LV)=>un fun (VG:LV)=>un fun (VH:LV) (VI:LV)=>
   some [V.int .i64 VA,V.int .i64 H4,.bool VB,V.int .i64 VC,.list cP DK,.list ag xY,.list ag H5,.list ab VD,.list ab H6,.list ag VE,.list ew VF,.list cz VG,.list ab VH,.list ab VI]) (un fun atc=>un fun (atd:Bool)=>un fun ate=>un fun (atf:Bool)=>un fun atg=>un fun (ath:LV)=>un fun (afk:LV)=>un fun (ati:LV)=>un fun (atj:LV)=>un fun (atk:LV)=>un fun (atl:LV)=>un fun (afl:LV)=>un fun (atm:LV)=>un fun (atn:LV)=>un fun (ato:LV) (atp:LV)=>
   bif Nat.ble ((afl.length+([.list ab afk]:LV).length)*24) ba then
   some [V.int .i64 0,V.int .i64 ate,.bool atf,V.int .i64 (wrap .i64 (atg+1)),.list cP ath,.list ag ati,.list ag atj,.list ab atk,.list ab atl,.list ag (afl++([.list ab afk]:LV)),.list ew atm,.list cz atn,.list ab ato,.list ab atp]
   else none))
 else none
theorem atq {bZ:Int} {cq:Bool} {dj:Int} {bp aO aQ aV aS aF aU bC cb cv:LV} {r:Option LV} (h:NY CC bZ cq dj bp aO aQ aV aS aF aU bC cb cv=r):CC GZ [V.int .i64 bZ,.bool cq,V.int .i64 dj,.list ag bp,.list ag aO,.list ab aQ,.list ab aV,.list ag aS,.list ew aF,.list cP aU,.list cz bC,.list ab cb,.list ab cv]=r:=bO (bE (atb CC) av) h
theorem cg2 {α β γ:Sort _} {f:α→β→γ} {a a':α} {b b':β} (h:a=a') (k:b=b'):f a b=f a' b':=by rw[h,k]
theorem wrap32 {x:Int} (h1: -2147483648≤x) (h2:x<2147483648):wrap .i32 x=x:=by
 unfold IntKind.wrap;simp only[IntKind.bits,IntKind.signed];simp;omega
theorem H7 {x:Nat} (h:x<31):((decide (0≤(wrap .i32 (wrap .i64 (97+(x:Int))))))&&(decide ((wrap .i32 (wrap .i64 (97+(x:Int))))<128)))=true:=by
 rw[rD,wrap32 (by omega) (by omega)];exact kb.2 ⟨cg (by omega),cg (by omega)⟩
section
variable {L n D:Nat} {g:Nat→List Nat} {S:List (List Nat)} {P K:List Int} {R:List (List Nat)} {W:List (List UInt8)} {B:List Int} {s:List Nat} {G U:LV}
section
variable (h:kI L n g S P K R W B s) (hs:s.length=L) (hD:D<S.length) (hR:R.length=D)
include h hD hR in
theorem VJ:B.getD D 0= -1∨(0≤B.getD D 0∧B.getD D 0<R.length):=by rw[hR];exact h.b D hD
include h hs hD hR
theorem atr {x i:Nat} (hx:x<L) (hi:i<S.length) (hU:U.length≤100000) {w:List UInt8} {t28 t29:Int} {rows fs:LV}:
  ∃U':LV,U'.length≤U.length+1∧∀{β:Type} (kr:(Int×Int×Bool×Int×LV×LV×LV×LV×LV×LV×LV×LV×LV×LV)→Option β),uD CC (D:Int) (x:Int) (i:Int) w t28 t29 false (n:Int) true (D:Int) (mT S) rows fs G (sV S) (iL P) (iL K) (sV R) U (wL W) (iL B) (nS s) kr=
   kr ((i:Int),(n:Int),true,(D:Int),mT S,G,sV S,iL P,iL K,sV R,U',wL W,iL B,nS s):=by
 simp only[uD];obtain ⟨c,hc⟩:=as5 (D:=D) (G:=G) (U:=U) h hx (fun _=>by rw[hs];exact hx) (VJ h hD hR);have e1:D<W.length:=by rw[h.lW];exact hD
 have e2:D<B.length:=by rw[h.lB];exact hD
 by_cases e0:W.getD D []=[]
 ·refine ⟨U,by omega,fun kr=>bF rfl ((ca (xV e1)).trans (bF ?_ rfl))⟩;rw[show (V.str (W.getD D [])).toStr=W.getD D [] from rfl,e0];rfl
 ·have e3:(!((V.str (W.getD D [])).toStr==[]))=true:=by
   rw[show (V.str (W.getD D [])).toStr=W.getD D [] from rfl];simpa using e0
  cases c with
  | false=>exact ⟨U,by omega,fun kr=>bF rfl ((ca (xV e1)).trans (bT e3 ((ca (uC e2)).trans (bs hc rfl))))⟩
  | true=>
   refine ⟨_,?_,fun kr=>bF rfl ((ca (xV e1)).trans (bT e3 ((ca (uC e2)).trans (bs hc (bT rfl ((ca (xV (by rw[h.lW];exact hi))).trans (bT (cap (m:=32) ?_ (by omega)) rfl)))))))⟩
   ·show (U++[_]).length≤_;simp
   ·show U.length+1≤_;omega
theorem ats {x:Nat} {i:Int} (hx:x<L) (hn:n≤32) {f:List Nat} (hf:Tr n f) (vH:f∉S) {w:List UInt8} {t28 t29:Int} {rows:LV} {β:Type} (kr:(Int×Int×Bool×Int×LV×LV×LV×LV×LV×LV×LV×LV×LV×LV)→Option β):
  uD CC (D:Int) (x:Int) i w t28 t29 true (n:Int) true (D:Int) (mT S) rows (nS f) G (sV S) (iL P) (iL K) (sV R) U (wL W) (iL B) (nS s) kr=
   kr ((S.length:Int),(n:Int),true,(D:Int),mT (S++[f]),G,sV (S++[f]),iL (P++[(D:Int)]),iL (K++[(x:Int)]),sV R,U,wL (W++[w]),iL (B++[(wh R s (B.getD D 0) x:Int)]),nS s):=by
 unfold uD;have e2:D<B.length:=by rw[h.lB];exact hD
 have hl:=h.len;refine bT rfl ((ca (uC e2)).trans (bs (Vt h hx (fun _=>by rw[hs];exact hx) (VJ h hD hR)) (bs (Vs hn h.tr hf vH hl ?_ ?_ ?_ ?_) rfl)))
 ·rw[h.lP];exact hl
 ·rw[h.lK];exact hl
 ·rw[h.lW];exact hl
 ·rw[h.lB];exact hl
end
def bt (g:Nat→List Nat) (f:List Nat) (x:Nat):List Nat:=comp f (g x)
def gV (L:Nat) (g:Nat→List Nat):LV:=tab L fun x=>tV (g x)
def wi (n D L:Nat) (g:Nat→List Nat) (T:List (List Nat)) (f:List Nat) (x:Nat) (S:List (List Nat)) (P K:List Int) (R:List (List Nat)) (U:LV) (W:List (List UInt8)) (B:List Int) (s:List Nat):Int×Int×Bool×Int×LV×LV×LV×LV×LV×LV×LV×LV×LV×LV×LV:=
 ((x:Int),(n:Int),true,(D:Int),mT S,(tab L fun j=>if j<x then nV (iw T (bt g f j)) else V.int .i64 0),gV L g,sV S,iL P,iL K,sV R,U,wL W,iL B,nS s)
def Am (n:Nat):Prop:= ∃T:List (List Nat),T.Nodup∧(∀f∈T,Tr n f)∧T.length=2000
theorem att (h:kI L n g S P K R W B s) (hs:s.length=L) (hR:R.length=D) (hn:1≤n) (oy:n≤32) (hg: ∀x,x<L→Tr n (g x)) (hL:L≤6) {f:List Nat} (hD:S[D]? =some f) {U2:List (List Nat)} {x:Nat} (hx:x<L) (rH:di S (bt g f x) <+: U2) (hU:U.length≤100000):
  (∃P' K' U' W' B',DJ CC (D:Int) (L:Int) (wi n D L g U2 f x S P K R U W B s)=some (.inl (wi n D L g U2 f (x+1) (di S (bt g f x)) P' K' R U' W' B' s))∧kI L n g (di S (bt g f x)) P' K' R W' B' s∧U'.length≤U.length+1)∨
  ∃t,DJ CC (D:Int) (L:Int) (wi n D L g U2 f x S P K R U W B s)=some (.inr (.inl (3,t)))∧Am n:=by
 obtain ⟨p6,rfl⟩:=cC.1 hD;have hlen:=h.len;have p7:Tr n (bt g S[D] x):=(h.tr _ (dd p6)).comp (hg x hx);have jZ:iw U2 (bt g S[D] x)=iw (di S (bt g S[D] x)) (bt g S[D] x):=afe rH Dx;have jm:(tab L fun j=>if j<x then nV (iw U2 (bt g S[D] j)) else V.int .i64 0).set x (nV (iw U2 (bt g S[D] x)))=tab L fun j=>if j<x+1 then nV (iw U2 (bt g S[D] j)) else V.int .i64 0:=by
  rw[lH];refine dg fun j _=> ?_;by_cases hj:j=x
  ·rw[aA hj,da,hj]
  ·rw[aw hj];by_cases dB:j<x
   ·rw[aA dB,da]
   ·rw[aw dB,dm]
 have hW:=h.w D p6;have VK:D<W.length:=by rw[h.lW];exact p6
 have VM:(gV L g)[x]? =some (tV (g x)):=mj hx;have hC:CC G4 [.list ab (tV S[D]).toList,.list ab (tV (g x)).toList]=some [tV (bt g S[D] x)]:=by
  rw[qQ,qQ];exact asX hn oy (h.tr _ (dd p6)) (hg x hx)
 have hX:CC xL [.list ab ((V.nth [tV (bt g S[D] x)] 0).toList)]=some [kT (bt g S[D] x)]:=by
  rw[show (V.nth [tV (bt g S[D] x)] 0).toList=nS (bt g S[D] x) from qQ];exact Vn oy p7
 have uf:(Nat.ble (((V.nth [kT (bt g S[D] x)] 0).toStr).length) maxLen&&true)=true:=by
  refine kb.2 ⟨yf ?_,rfl⟩;rw[show (V.nth [kT (bt g S[D] x)] 0).toStr=nO (bt g S[D] x) from rfl,show (nO (bt g S[D] x)).length=n by simp[nO,p7.1]];unfold maxLen;omega
 have VN: ∀b:UInt8,Nat.ble ((V.str (W.getD D [])).toStr.length+[b].length) pc=true:=fun b=>by
  refine yf ?_;show (W.getD D []).length+1≤pc;unfold pc;omega
 have xA:=Vr oy h.tr p7;simp only[DJ,HY,un,wi,aP,bj];by_cases hk:bt g S[D] x∈S
 ·obtain ⟨U2',hU2,he⟩:=atr (G:=gV L g) (U:=U) (D:=D) h hs p6 hR hx (te hk) hU
   (w:=W.getD D []++[UInt8.ofNat ((wrap .i32 (wrap .i64 (97+(x:Int))):Int).toNat)]) (t28:=(L:Int)) (t29:=(x:Int)) (rows:=tab L fun j=>if j<x then nV (iw U2 (bt g S[D] j)) else V.int .i64 0) (fs:=nS (bt g S[D] x))
  have An:di S (bt g S[D] x)=S:=by rw[di,aA hk]
  rw[An] at jZ⊢;have hm:gQ (kT (bt g S[D] x)) (mT S)=true:=aff xA hk;refine .inl ⟨P,K,U2',W,B,bT (bm hx) ((ca VM).trans ((ca (HX p6)).trans (bs hC (bs hX (bT uf ((ca (xV VK)).trans (bT (H7 (by omega)) (bT (VN _) (bF ?_ ?_))))))))),h,hU2⟩
  ·exact congrArg (!·) hm
  ·refine (cg2 (f:=fun i b=>uD CC (D:Int) (x:Int) i _ (L:Int) (x:Int) b (n:Int) true (D:Int) (mT S) _ _ (gV L g) (sV S) (iL P) (iL K) (sV R) U (wL W) (iL B) (nS s) _) (afh xA hk) (congrArg (!·) hm)).trans ((he _).trans ((rz (by simpa using hx)).trans ?_))
   rw[br (by omega),Int.toNat_natCast,←jm,jZ];rfl
 ·have hm:gQ (kT (bt g S[D] x)) (mT S)=false:=afg xA hk;have An:di S (bt g S[D] x)=S++[bt g S[D] x]:=by rw[di,aw hk]
  by_cases afm:S.length=2000
  ·refine .inr ⟨_,bT (bm hx) ((ca VM).trans ((ca (HX p6)).trans (bs hC (bs hX (bT uf ((ca (xV VK)).trans (bT (H7 (by omega)) (bT (VN _) (bT ?_ (bT ?_ rfl)))))))))),S,h.nd,h.tr,afm⟩
   ·exact congrArg (!·) hm
   ·simp[afm]
  ·rw[An] at jZ⊢;have w8:=VJ h p6 hR;have dv:=afi h hx (fun _=>by rw[hs];exact hx) w8;refine .inl ⟨P++[(D:Int)],K++[(x:Int)],U,W++[W.getD D []++[UInt8.ofNat ((wrap .i32 (wrap .i64 (97+(x:Int))):Int).toNat)]],B++[(wh R s (B.getD D 0) x:Int)],bT (bm hx) ((ca VM).trans ((ca (HX p6)).trans (bs hC (bs hX (bT uf ((ca (xV VK)).trans (bT (H7 (by omega)) (bT (VN _) (bT ?_ (bF ?_ ?_)))))))))),h.grow p7 hk (by omega) (p:=D) (x:=x) (b:=(wh R s (B.getD D 0) x:Int)) p6 hx ?_ (.inr ⟨by omega,by exact_mod_cast dv⟩) ?_,Nat.le_succ _⟩
   ·exact congrArg (!·) hm
   ·simp;omega
   ·refine (congrArg (fun b=>uD CC (D:Int) (x:Int) _ _ (L:Int) (x:Int) b (n:Int) true (D:Int) (mT S) _ _ (gV L g) (sV S) (iL P) (iL K) (sV R) U (wL W) (iL B) (nS s) _) (congrArg (!·) hm)).trans ?_;refine (ats h hs p6 hR hx oy p7 hk _).trans ((rz (by simpa using hx)).trans ?_)
    rw[br (by omega),Int.toNat_natCast,←jm,jZ];rw[as3 hk];rfl
   ·rw[iA];show _+1≤_;omega
   ·rw[cE p6];rfl
end
noncomputable def H8 (C:af) (oU:Bool) (t39:LV) (t40 bZ:Int) (cq:Bool) (dj:Int) (aO aQ aV aS aF aU bC cb cv:LV) (t41:Int) (bp:LV) {β:Type} (kn:(Int×LV)→Option β) (kr:((Int) ⊕ (Int×Bool×LV))→Option β):Option β:=
 bif decide (t41<t40) then
  (idx t39 t41).bind fun x2=>
  bif (x2.toList.length:Int) != bZ then
  kr (.inl 4)
  else
  (C C8 [.list ab x2.toList]).bind fun r3=>
  bif !((V.nth r3 0).toBool) then
   kr (.inl 4)
  else
   bif Nat.ble (x2.toList.length*8) ba then
   bif Nat.ble ((bp.length+([.list ab x2.toList]:LV).length)*24) ba then
    kn (wrap .i64 (t41+1),bp++([.list ab x2.toList]:LV))
   else none
   else none
 else
  kr (.inr (t41,decide (t41<t40),bp))
noncomputable def NZ (C:af) (oU:Bool) (t39:LV) (t40 bZ:Int) (cq:Bool) (dj:Int) (aO aQ aV aS aF aU bC cb cv:LV):=un fun t41 bp=>H8 C oU t39 t40 bZ cq dj aO aQ aV aS aF aU bC cb cv t41 bp (fun y=>some (Sum.inl y)) (fun r=>some (Sum.inr r))
noncomputable def H9 (C:af) (empty:Int) (t72:Bool) (bZ:Int) (cq:Bool) (dj:Int) (bp aO aQ aV aS aF aU bC cb cv:LV) {β:Type} (kr:(Int×Int×Bool×Int×LV×LV×LV×LV×LV×LV×LV×LV×LV×LV)→Option β):Option β:=
 bif t72 then
  (C MQ [V.int .i64 bZ]).bind fun r8=>
  (C C9 [.list ab ((V.nth r8 0).toList),V.int .i64 (-1),V.int .i64 (-1),.str [],V.int .i64 (-1),V.int .i64 bZ,.bool cq,V.int .i64 dj,.list ag bp,.list ag aO,.list ab aQ,.list ab aV,.list ag aS,.list ew aF,.list cP aU,.list cz bC,.list ab cb,.list ab cv]).bind fun r9=>
  kr ((V.nth r9 0).toInt,(V.nth (r9.drop 1) 0).toInt,(V.nth ((r9.drop 1).drop 1) 0).toBool,(V.nth (((r9.drop 1).drop 1).drop 1) 0).toInt,(V.nth ((r9.drop 1).drop 3) 0).toList,(V.nth ((((r9.drop 1).drop 3).drop 1).drop 1) 0).toList,(V.nth (((((r9.drop 1).drop 3).drop 1).drop 1).drop 1) 0).toList,(V.nth ((((((r9.drop 1).drop 3).drop 1).drop 1).drop 1).drop 1) 0).toList,(V.nth (((((((r9.drop 1).drop 3).drop 1).drop 1).drop 1).drop 1).drop 1) 0).toList,(V.nth ((((((((r9.drop 1).drop 3).drop 1).drop 1).drop 1).drop 1).drop 1).drop 1) 0).toList,(V.nth (((r9.drop 1).drop 3).drop 1) 0).toList,(V.nth (((((((((r9.drop 1).drop 3).drop 1).drop 1).drop 1).drop 1).drop 1).drop 1).drop 1) 0).toList,(V.nth ((((((((((r9.drop 1).drop 3).drop 1).drop 1).drop 1).drop 1).drop 1).drop 1).drop 1).drop 1) 0).toList,(V.nth (((((((((((r9.drop 1).drop 3).drop 1).drop 1).drop 1).drop 1).drop 1).drop 1).drop 1).drop 1).drop 1) 0).toList)
 else
  kr (empty,bZ,cq,dj,bp,aO,aQ,aV,aS,aF,aU,bC,cb,cv)
noncomputable def Ao (C:af) (empty x:Int) (g:LV) (letter:List UInt8) (i t86 t87:Int) (t106:Bool) (bZ:Int) (cq:Bool) (dj:Int) (xZ aO aQ aV aS aF aU bC cb cv:LV) {β:Type} (kr:(Int×Int×Bool×Int×LV×LV×LV×LV×LV×LV×LV×LV×LV×LV)→Option β):Option β:=
 bif t106 then
  aP bC i fun N3=>
  bif Nat.ble ((aF.length+([.agg [.str letter,.str N3.toStr]]:LV).length)*32) ba then
  kr (i,bZ,cq,dj,xZ,aO,aQ,aV,aS,aF++([.agg [.str letter,.str N3.toStr]]:LV),aU,bC,cb,cv)
  else none
 else
  bif Nat.ble (g.length*8) ba then
  (C C9 [.list ab g,V.int .i64 empty,V.int .i64 x,.str letter,V.int .i64 empty,V.int .i64 bZ,.bool cq,V.int .i64 dj,.list ag xZ,.list ag aO,.list ab aQ,.list ab aV,.list ag aS,.list ew aF,.list cP aU,.list cz bC,.list ab cb,.list ab cv]).bind fun p8=>
  kr ((V.nth p8 0).toInt,(V.nth (p8.drop 1) 0).toInt,(V.nth ((p8.drop 1).drop 1) 0).toBool,(V.nth (((p8.drop 1).drop 1).drop 1) 0).toInt,(V.nth ((p8.drop 1).drop 3) 0).toList,(V.nth ((((p8.drop 1).drop 3).drop 1).drop 1) 0).toList,(V.nth (((((p8.drop 1).drop 3).drop 1).drop 1).drop 1) 0).toList,(V.nth ((((((p8.drop 1).drop 3).drop 1).drop 1).drop 1).drop 1) 0).toList,(V.nth (((((((p8.drop 1).drop 3).drop 1).drop 1).drop 1).drop 1).drop 1) 0).toList,(V.nth ((((((((p8.drop 1).drop 3).drop 1).drop 1).drop 1).drop 1).drop 1).drop 1) 0).toList,(V.nth (((p8.drop 1).drop 3).drop 1) 0).toList,(V.nth (((((((((p8.drop 1).drop 3).drop 1).drop 1).drop 1).drop 1).drop 1).drop 1).drop 1) 0).toList,(V.nth ((((((((((p8.drop 1).drop 3).drop 1).drop 1).drop 1).drop 1).drop 1).drop 1).drop 1).drop 1) 0).toList,(V.nth (((((((((((p8.drop 1).drop 3).drop 1).drop 1).drop 1).drop 1).drop 1).drop 1).drop 1).drop 1).drop 1) 0).toList)
  else none
noncomputable def Ia (C:af) (empty t86 t87 bZ:Int) (cq:Bool) (dj:Int) (xZ aO aQ aV aS aF aU bC cb cv:LV) {β:Type} (kn:(Int×Int×Bool×Int×LV×LV×LV×LV×LV×LV×LV×LV×LV×LV)→Option β) (kr:(Int×Bool×Int×Bool×Int×LV×LV×LV×LV×LV×LV×LV×LV×LV×LV)→Option β):Option β:=
 bif decide (t87<t86) then
  aP xZ t87 fun N4=>
  bif (decide (0≤(wrap .i32 (wrap .i64 (97+t87)))))&&(decide ((wrap .i32 (wrap .i64 (97+t87)))<128)) then
  (C xL [.list ab N4.toList]).bind fun VO=>
  bif Nat.ble (((V.nth VO 0).toStr).length) maxLen&&true then
   Ao C empty t87 N4.toList [UInt8.ofNat ((wrap .i32 (wrap .i64 (97+t87)):Int).toNat)] ((kK (.str ((V.nth VO 0).toStr)) aU (V.int .i64 0)).toInt) t86 t87 (gQ (.str ((V.nth VO 0).toStr)) aU) bZ cq dj xZ aO aQ aV aS aF aU bC cb cv (un fun NW=>un fun Vw=>un fun (Vx:Bool)=>un fun Vy=>un fun (atu:LV)=>un fun (ae0:LV)=>un fun (Ah:LV)=>un fun (HN:LV)=>un fun (Vz:LV)=>un fun (HZ:LV)=>un fun (H0:LV)=>un fun (H2:LV)=>un fun (H3:LV) (DI:LV)=>
    bif Nat.ble ((DI.length+([V.int .i64 NW]:LV).length)*8) ba then
    kn (wrap .i64 (t87+1),Vw,Vx,Vy,atu,ae0,Ah,HN,Vz,HZ,H0,H2,H3,DI++([V.int .i64 NW]:LV))
    else none)
  else none
  else none
 else
  kr (t87,decide (t87<t86),bZ,cq,dj,xZ,aO,aQ,aV,aS,aF,aU,bC,cb,cv)
noncomputable def Ib (C:af) (empty t86:Int):=un fun t87=>un fun bZ=>un fun cq=>un fun dj=>un fun xZ=>un fun aO=>un fun aQ=>un fun aV=>un fun aS=>un fun aF=>un fun aU=>un fun bC=>un fun cb cv=>Ia C empty t86 t87 bZ cq dj xZ aO aQ aV aS aF aU bC cb cv (fun y=>some (Sum.inl y)) (fun r=>some (Sum.inr r))
noncomputable def N5 (C:af):cN:=bL 97 T9 [EQ,EQ,EQ,H1,EQ,EQ,EQ,H1,EQ,EQ,EQ,EQ,EQ,EQ,EQ,EQ,EQ] [[0],[1,2,3,0,0,5,6,7,0,9,10,11,12,13,14,15,16,17]] (@H8 C) (Mx 1167 Ua [[0,0,0,0,0,0,0,0,0,0,0,0,0,0]] (@H9 C) (Mx 1711 Ub [[1,0,6,7,0,0,0,0,0,0,0,0,0,0,0,0,0]] (@Ao C) (bL 257 Uc [EQ,EQ,H1,H1,H1,H1,H1,H1,H1,H1,H1,H1,H1,H1,H1,H1] [[1,2,0,0,0,0,0,0,0,0,0,0,0,0,0,0,0]] (@Ia C) bM)))
theorem atv (C:af):bD C (N5 C) 98 (Lp [1,1,1,1,0,1,0,0] 98):=bN T9 [EQ,EQ,EQ,H1,EQ,EQ,EQ,H1,EQ,EQ,EQ,EQ,EQ,EQ,EQ,EQ,EQ] [[0],[1,2,3,0,0,5,6,7,0,9,10,11,12,13,14,15,16,17]] (@H8 C) (bA av)
theorem atw (C:af):bD C (N5 C) 98 (Cd 72 [1,1,1,1,1,1,0,1,0] [1,1,1,1,1,1,0,1,1] 98):=Mw Ua [[0,0,0,0,0,0,0,0,0,0,0,0,0,0]] (@H9 C) (bA av) (bA av)
theorem atx (C:af):bD C (N5 C) 98 (Cd 106 [1,1,1,1,1,1,1,0,1,0,0,1,1,0,0,1,1,1,0,1,0] [1,1,1,1,1,1,1,0,1,0,0,1,1,0,0,1,1,1,0,1,1] 98):=Mw Ub [[1,0,6,7,0,0,0,0,0,0,0,0,0,0,0,0,0]] (@Ao C) (bA av) (bA av)
theorem aty (C:af):bD C (N5 C) 98 (Lp [1,1,1,1,1,1,1,0,1,0,0] 98):=bN Uc [EQ,EQ,H1,H1,H1,H1,H1,H1,H1,H1,H1,H1,H1,H1,H1,H1] [[1,2,0,0,0,0,0,0,0,0,0,0,0,0,0,0,0]] (@Ia C) (bA (bE (atx C) av))
noncomputable def afn (C:af) (mz:LV) (oU:Bool):Option LV:=
 bif (mz.length:Int)==0 then
  some [V.bool true,V.int .i64 1]
 else
  bif decide ((mz.length:Int)>6) then
  some [V.bool true,V.int .i64 1]
  else
  (mz[0]?).bind fun x1=>
  (Loop (NZ C oU mz (mz.length:Int) (x1.toList.length:Int) oU 0 ([]:LV) ([]:LV) ([]:LV) ([]:LV) ([]:LV) ([]:LV) ([]:LV) ([]:LV) ([]:LV)) (0,([]:LV))).bind (fJ (fun mf=>
   some [V.bool true,V.int .i64 mf]) (un fun lF=>un fun (jY:Bool) (Ic:LV)=>
   H9 C (-1) oU (x1.toList.length:Int) oU 0 Ic ([]:LV) ([]:LV) ([]:LV) ([]:LV) ([]:LV) ([]:LV) ([]:LV) ([]:LV) ([]:LV) (un fun atz=>un fun atA=>un fun (UU:Bool)=>un fun UW=>un fun (pH:LV)=>un fun (vm:LV)=>un fun (yW:LV)=>un fun (td:LV)=>un fun (we:LV)=>un fun (qv:LV)=>un fun (pI:LV)=>un fun (Ak:LV)=>un fun (Al:LV) (uA:LV)=>
    (Loop (Ib C atz (pH.length:Int)) (0,atA,UU,UW,pH,vm,yW,td,we,qv,pI,Ak,Al,uA)).bind (un fun azw=>un fun (VA:Bool)=>un fun atB=>un fun (atC:Bool)=>un fun atD=>un fun (atE:LV)=>un fun (xY:LV)=>un fun (H5:LV)=>un fun (VD:LV)=>un fun (H6:LV)=>un fun (VE:LV)=>un fun (VF:LV)=>un fun (VG:LV)=>un fun (VH:LV) (VI:LV)=>
     some [V.bool false,V.int .i64 atB,.bool atC,V.int .i64 atD,.list ag atE,.list ag xY,.list ab H5,.list ab VD,.list ag H6,.list ew VE,.list cP VF,.list cz VG,.list ab VH,.list ab VI]))))
theorem atF {mz:LV} {oU:Bool} {r:Option LV} (h:afn CC mz oU=r):CC MI [.list ag mz,.bool oU]=r:=bO (bE (atv CC) (bE (atw CC) (bE (aty CC) av))) h
noncomputable def N6 (C:af) (j7:Int) (j8:Bool) (afo:Int) (aO aQ aV aS aF aU:LV) (bZ:Int) (cq:Bool) (dj:Int) (bC cb cv gF jO g0 fY fZ gq gE:LV) {β:Type} (kn:(Int×Bool×Int×LV×LV×LV×LV×LV×LV×LV×LV×LV×LV)→Option β) (kr:((Int×Int×Bool×Int×LV×LV×LV×LV×LV×LV) ⊕ (Bool×Int×Bool×Int×LV×LV×LV×LV×LV×LV×LV×LV×LV×LV))→Option β):Option β:=
 (C MJ [V.int .i64 bZ,.bool cq,V.int .i64 dj,.list ag bC,.list ag cb,.list ab cv,.list ab gF,.list ag jO,.list ew g0,.list cP fY,.list cz fZ,.list ab gq,.list ab gE]).bind fun r2=>
 bif !((V.nth r2 0).toBool) then
  (C GZ [V.int .i64 ((V.nth (r2.drop 1) 0).toInt),.bool ((V.nth ((r2.drop 1).drop 1) 0).toBool),V.int .i64 ((V.nth (((r2.drop 1).drop 1).drop 1) 0).toInt),.list ag ((V.nth (((r2.drop 1).drop 3).drop 1) 0).toList),.list ag ((V.nth ((((r2.drop 1).drop 3).drop 1).drop 1) 0).toList),.list ab ((V.nth (((((r2.drop 1).drop 3).drop 1).drop 1).drop 1) 0).toList),.list ab ((V.nth ((((((r2.drop 1).drop 3).drop 1).drop 1).drop 1).drop 1) 0).toList),.list ag ((V.nth (((((((r2.drop 1).drop 3).drop 1).drop 1).drop 1).drop 1).drop 1) 0).toList),.list ew ((V.nth ((((((((r2.drop 1).drop 3).drop 1).drop 1).drop 1).drop 1).drop 1).drop 1) 0).toList),.list cP ((V.nth ((r2.drop 1).drop 3) 0).toList),.list cz ((V.nth (((((((((r2.drop 1).drop 3).drop 1).drop 1).drop 1).drop 1).drop 1).drop 1).drop 1) 0).toList),.list ab ((V.nth ((((((((((r2.drop 1).drop 3).drop 1).drop 1).drop 1).drop 1).drop 1).drop 1).drop 1).drop 1) 0).toList),.list ab ((V.nth (((((((((((r2.drop 1).drop 3).drop 1).drop 1).drop 1).drop 1).drop 1).drop 1).drop 1).drop 1).drop 1) 0).toList)]).bind fun r3=>
  bif (((V.nth r3 0).toInt):Int) != 0 then
  kr (.inl ((V.nth r3 0).toInt,0,false,0,([]:LV),([]:LV),([]:LV),([]:LV),([]:LV),([]:LV)))
  else
  kn ((V.nth (r3.drop 1) 0).toInt,(V.nth ((r3.drop 1).drop 1) 0).toBool,(V.nth (((r3.drop 1).drop 1).drop 1) 0).toInt,(V.nth (((r3.drop 1).drop 3).drop 1) 0).toList,(V.nth ((((r3.drop 1).drop 3).drop 1).drop 1) 0).toList,(V.nth (((((r3.drop 1).drop 3).drop 1).drop 1).drop 1) 0).toList,(V.nth ((((((r3.drop 1).drop 3).drop 1).drop 1).drop 1).drop 1) 0).toList,(V.nth (((((((r3.drop 1).drop 3).drop 1).drop 1).drop 1).drop 1).drop 1) 0).toList,(V.nth ((((((((r3.drop 1).drop 3).drop 1).drop 1).drop 1).drop 1).drop 1).drop 1) 0).toList,(V.nth ((r3.drop 1).drop 3) 0).toList,(V.nth (((((((((r3.drop 1).drop 3).drop 1).drop 1).drop 1).drop 1).drop 1).drop 1).drop 1) 0).toList,(V.nth ((((((((((r3.drop 1).drop 3).drop 1).drop 1).drop 1).drop 1).drop 1).drop 1).drop 1).drop 1) 0).toList,(V.nth (((((((((((r3.drop 1).drop 3).drop 1).drop 1).drop 1).drop 1).drop 1).drop 1).drop 1).drop 1).drop 1) 0).toList)
 else
  kr (.inr (!((V.nth r2 0).toBool),(V.nth (r2.drop 1) 0).toInt,(V.nth ((r2.drop 1).drop 1) 0).toBool,(V.nth (((r2.drop 1).drop 1).drop 1) 0).toInt,(V.nth (((r2.drop 1).drop 3).drop 1) 0).toList,(V.nth ((((r2.drop 1).drop 3).drop 1).drop 1) 0).toList,(V.nth (((((r2.drop 1).drop 3).drop 1).drop 1).drop 1) 0).toList,(V.nth ((((((r2.drop 1).drop 3).drop 1).drop 1).drop 1).drop 1) 0).toList,(V.nth (((((((r2.drop 1).drop 3).drop 1).drop 1).drop 1).drop 1).drop 1) 0).toList,(V.nth ((((((((r2.drop 1).drop 3).drop 1).drop 1).drop 1).drop 1).drop 1).drop 1) 0).toList,(V.nth ((r2.drop 1).drop 3) 0).toList,(V.nth (((((((((r2.drop 1).drop 3).drop 1).drop 1).drop 1).drop 1).drop 1).drop 1).drop 1) 0).toList,(V.nth ((((((((((r2.drop 1).drop 3).drop 1).drop 1).drop 1).drop 1).drop 1).drop 1).drop 1).drop 1) 0).toList,(V.nth (((((((((((r2.drop 1).drop 3).drop 1).drop 1).drop 1).drop 1).drop 1).drop 1).drop 1).drop 1).drop 1) 0).toList))
noncomputable def VP (C:af) (j7:Int) (j8:Bool) (afo:Int) (aO aQ aV aS aF aU:LV):=un fun bZ=>un fun cq=>un fun dj=>un fun bC=>un fun cb=>un fun cv=>un fun gF=>un fun jO=>un fun g0=>un fun fY=>un fun fZ=>un fun gq gE=>N6 C j7 j8 afo aO aQ aV aS aF aU bZ cq dj bC cb cv gF jO g0 fY fZ gq gE (fun y=>some (Sum.inl y)) (fun r=>some (Sum.inr r))
noncomputable def atG (C:af):cN:=bL 65 TZ [EQ,EQ,EQ,H1,H1,H1,EQ,EQ,EQ,EQ,EQ,EQ,H1,H1,H1,H1,H1,H1,H1,H1,H1,H1] [[0,0,0,0,0,0,0,0,0,0],[0,1,2,3,0,0,0,7,8,9,10,11,12,0,0,0,0,0,0,0,0,0,0]] (@N6 C) bM
theorem atH (C:af):bD C (atG C) 70 (Lp [1,1,1,0,0,0] 70):=bN TZ [EQ,EQ,EQ,H1,H1,H1,EQ,EQ,EQ,EQ,EQ,EQ,H1,H1,H1,H1,H1,H1,H1,H1,H1,H1] [[0,0,0,0,0,0,0,0,0,0],[0,1,2,3,0,0,0,7,8,9,10,11,12,0,0,0,0,0,0,0,0,0,0]] (@N6 C) (bA av)
noncomputable def VQ (C:af) (mz:LV) (oU:Bool):Option LV:=
 (C MI [.list ag mz,.bool oU]).bind fun r1=>
 bif (V.nth r1 0).toBool then
  bif (((V.nth (r1.drop 1) 0).toInt):Int) != 0 then
  some [V.int .i64 0,.bool false,V.int .i64 0,V.int .i64 ((V.nth (r1.drop 1) 0).toInt),.list ag ([]:LV),.list ag ([]:LV),.list ab ([]:LV),.list ab ([]:LV),.list ag ([]:LV),.list ew ([]:LV)]
  else none
 else
  (Loop (VP C 0 false 0 ([]:LV) ([]:LV) ([]:LV) ([]:LV) ([]:LV) ([]:LV)) ((V.nth (r1.drop 1) 0).toInt,(V.nth ((r1.drop 1).drop 1) 0).toBool,(V.nth (((r1.drop 1).drop 1).drop 1) 0).toInt,(V.nth ((r1.drop 1).drop 3) 0).toList,(V.nth (((r1.drop 1).drop 3).drop 1) 0).toList,(V.nth ((((r1.drop 1).drop 3).drop 1).drop 1) 0).toList,(V.nth (((((r1.drop 1).drop 3).drop 1).drop 1).drop 1) 0).toList,(V.nth ((((((r1.drop 1).drop 3).drop 1).drop 1).drop 1).drop 1) 0).toList,(V.nth (((((((r1.drop 1).drop 3).drop 1).drop 1).drop 1).drop 1).drop 1) 0).toList,(V.nth ((((((((r1.drop 1).drop 3).drop 1).drop 1).drop 1).drop 1).drop 1).drop 1) 0).toList,(V.nth (((((((((r1.drop 1).drop 3).drop 1).drop 1).drop 1).drop 1).drop 1).drop 1).drop 1) 0).toList,(V.nth ((((((((((r1.drop 1).drop 3).drop 1).drop 1).drop 1).drop 1).drop 1).drop 1).drop 1).drop 1) 0).toList,(V.nth (((((((((((r1.drop 1).drop 3).drop 1).drop 1).drop 1).drop 1).drop 1).drop 1).drop 1).drop 1).drop 1) 0).toList)).bind (fJ (un fun mf=>un fun atI=>un fun (atJ:Bool)=>un fun UT=>un fun (B8:LV)=>un fun (yY:LV)=>un fun (qM:LV)=>un fun (Ac:LV)=>un fun (UX:LV) (DF:LV)=>
   some [V.int .i64 atI,.bool atJ,V.int .i64 UT,V.int .i64 mf,.list ag B8,.list ag yY,.list ab qM,.list ab Ac,.list ag UX,.list ew DF]) (un fun (vo:Bool)=>un fun Hz=>un fun (HA:Bool)=>un fun atK=>un fun (we:LV)=>un fun (qv:LV)=>un fun (pI:LV)=>un fun (Ak:LV)=>un fun (Al:LV)=>un fun (uA:LV)=>un fun (vq:LV)=>un fun (NU:LV)=>un fun (NV:LV) (afp:LV)=>
   some [V.int .i64 Hz,.bool HA,V.int .i64 atK,V.int .i64 0,.list ag we,.list ag qv,.list ab pI,.list ab Ak,.list ag Al,.list ew uA]))
theorem afq {mz:LV} {oU:Bool} {r:Option LV} (h:VQ CC mz oU=r):CC MF [.list ag mz,.bool oU]=r:=bO (bE (atH CC) av) h
section
variable {L n D:Nat} {g:Nat→List Nat} {S:List (List Nat)} {P K:List Int} {R:List (List Nat)} {W:List (List UInt8)} {B:List Int} {s:List Nat} {U:LV}
def eX (L:Nat) (g:Nat→List Nat) (T:List (List Nat)) (f:List Nat):List Nat:=(List.range L).map fun x=>iw T (bt g f x)
theorem atL {T:List (List Nat)} {f:List Nat}:tV (eX L g T f)= .list ab (tab L fun j=>if j<L then nV (iw T (bt g f j)) else V.int .i64 0):=by
 unfold tV eX nS;rw[wB];exact congrArg _ (dg (n:=L) (g:=nV ∘ fun x=>iw T (bt g f x)) fun j hj=>by rw[aA hj];rfl)
abbrev PrR:=(Int×Int×Bool×Int×LV×LV×LV×LV×LV×LV×LV×LV×LV×LV) ⊕ (Int×Bool×Int×Bool×Int×LV×LV×LV×LV×LV×LV×LV×LV×LV×LV×LV)
theorem atM (h:kI L n g S P K R W B s) (hs:s.length=L) (hR:R.length=D) (hn:1≤n) (oy:n≤32) (hg: ∀x,x<L→Tr n (g x)) (hL:L≤6) {f:List Nat} (hD:S[D]? =some f) (hU:U.length≤6+D*6):
  ∃r,CC GZ (xX n D (gV L g) S P K R U W B s)=some r∧((∃l,r= .int .i64 3::l∧Am n)∨
   ∃P' K' U' W' B',r= .int .i64 0::[.int .i64 (n:Int),.bool true,.int .i64 ((D+1:Nat):Int),.list cP (mT (cL (bt g) S f L)),.list ag (gV L g),.list ag (sV (cL (bt g) S f L)),.list ab (iL P'),.list ab (iL K'),
    .list ag (sV (R++[eX L g (cL (bt g) S f L) f])),.list ew U',.list cz (wL W'),.list ab (iL B'),.list ab (nS s)]∧
    kI L n g (cL (bt g) S f L) P' K' R W' B' s∧U'.length≤6+(D+1)*6):=by
 have DL:=(cC.1 hD).1;have hlen:=h.len;have key: ∃r,Loop (DJ CC (D:Int) (L:Int)) (wi n D L g (cL (bt g) S f L) f 0 S P K R U W B s)=some r∧((∃t,r= .inl (3,t)∧Am n)∨
   ∃P' K' U' W' B',r= .inr ((L:Int),false,(wi n D L g (cL (bt g) S f L) f L (cL (bt g) S f L) P' K' R U' W' B' s).2)∧kI L n g (cL (bt g) S f L) P' K' R W' B' s∧U'.length≤6+(D+1)*6):=by
  refine xi (fun x y=> ∃P' K' U' W' B',y=wi n D L g (cL (bt g) S f L) f x (cL (bt g) S f x) P' K' R U' W' B' s∧kI L n g (cL (bt g) S f x) P' K' R W' B' s∧U'.length≤6+D*6+x)
   (fun r:PrR=>(∃t,r= .inl (3,t)∧Am n)∨∃P' K' U' W' B',r= .inr ((L:Int),false,(wi n D L g (cL (bt g) S f L) f L (cL (bt g) S f L) P' K' R U' W' B' s).2)∧kI L n g (cL (bt g) S f L) P' K' R W' B' s∧U'.length≤6+(D+1)*6)
   L (fun x hx y hy=> ?_) (fun y hy=> ?_) L 0 _ (dL _) ⟨P,K,U,W,B,rfl,h,hU⟩
  ·obtain ⟨P1,K1,U1,W1,B1,rfl,hI,VR⟩:=hy;have rH:=NB (next:=bt g) S f x;have p6:(cL (bt g) S f x)[D]? =some f:=by
    obtain ⟨Z,e⟩:=rH;rw[←e,ng DL,hD]
   rcases att (U2:=cL (bt g) S f L) hI hs hR hn oy hg hL p6 hx (Dz (next:=bt g) S f (show x+1≤L by omega)) (by omega) (U:=U1) with ⟨P2,K2,U2,W2,B2,e,h2,h3⟩|⟨t,e,hm⟩
   ·exact .inl ⟨_,e,P2,K2,U2,W2,B2,rfl,h2,by omega⟩
   ·exact .inr ⟨_,e,.inl ⟨t,rfl,hm⟩⟩
  ·obtain ⟨P1,K1,U1,W1,B1,rfl,hI,VR⟩:=hy;refine ⟨_,?_,.inr ⟨P1,K1,U1,W1,B1,rfl,hI,by omega⟩⟩;unfold wi;simp only[DJ,HY,un];refine bF (aZ (az _)) ?_;rw[aZ (az _)]
 obtain ⟨r,e1,e2⟩:=key;have e0:List.replicate (((L:Nat):Int).toNat) (V.int .i64 0)=tab L fun j=>if j<0 then nV (iw (cL (bt g) S f L) (bt g f j)) else V.int .i64 0:=by
  rw[Int.toNat_natCast,oK];exact dg fun j _=>by rw[dm]
 have fin: ∀z,NY CC (n:Int) true (D:Int) (gV L g) (sV S) (iL P) (iL K) (sV R) U (mT S) (wL W) (iL B) (nS s)=z→CC GZ (xX n D (gV L g) S P K R U W B s)=z:=fun z h=>atq h;rcases e2 with ⟨t,rfl,hm⟩|⟨P1,K1,U1,W1,B1,rfl,hI,VR⟩
 ·refine ⟨_,fin _ ?_,.inl ⟨[.int .i64 t.1,.bool t.2.1,.int .i64 t.2.2.1,.list cP t.2.2.2.1,.list ag t.2.2.2.2.1,.list ag t.2.2.2.2.2.1,.list ab t.2.2.2.2.2.2.1,.list ab t.2.2.2.2.2.2.2.1,.list ag t.2.2.2.2.2.2.2.2.1,.list ew t.2.2.2.2.2.2.2.2.2.1,.list cz t.2.2.2.2.2.2.2.2.2.2.1,.list ab t.2.2.2.2.2.2.2.2.2.2.2.1,.list ab t.2.2.2.2.2.2.2.2.2.2.2.2],rfl,hm⟩⟩;unfold NY;rw[show (gV L g).length=L from eW,e0];exact bT (gD (by omega) (by omega)) (bs e1 rfl)
 ·refine ⟨_,fin _ ?_,.inr ⟨P1,K1,U1,W1,B1,rfl,hI,VR⟩⟩;unfold NY;rw[show (gV L g).length=L from eW,e0];refine bT (gD (by omega) (by omega)) (bs e1 (bT (show Nat.ble (((sV R).length+1)*24) ba=true from cap (by simp;omega) (by omega)) ?_));have hw:((D+1:Nat):Int)=wrap .i64 ((D:Int)+1):=(br (by omega)).symm;have:sV (R++[eX L g (cL (bt g) S f L) f])=sV R++[tV (eX L g (cL (bt g) S f L) f)]:=by simp[sV]
  rw[hw,this,atL];rfl
end
section
variable {L n:Nat} {g:Nat→List Nat} (hn:1≤n) (oy:n≤32) (hg: ∀x,x<L→Tr n (g x)) (h1:1≤L) (hL:L≤6)
include hg in
theorem afr {x:Nat} (hx:x<L):bt g (List.range n) x=g x:=by
 have h:=hg x hx;refine rX (by simp[bt,comp,h.1]) fun i h1 h2=> ?_;simp[bt,comp,h2]
include hn oy hg h1 hL
theorem atN: ∃P K,∃U:LV,∃W B s,CC MI [.list ag (gV L g),.bool true]=some (.bool false::xX n 0 (gV L g) (cL (bt g) [List.range n] (List.range n) L) P K [] U W B s)∧kI L n g (cL (bt g) [List.range n] (List.range n) L) P K [] W B s∧s.length=L∧U.length≤6:=by
 have hG:(gV L g).length=L:=eW;have l1: ∀{a b c d:LV} {e f g1 h1 i1:LV},Loop (NZ CC true (gV L g) (L:Int) (n:Int) true 0 a b c d e f g1 h1 i1) (0,([]:LV))=some (.inr ((L:Int),false,gV L g)):=by
  intro a b c d e f g1 h1 i1;refine fH L (fun i=>((i:Int),tab i fun x=>tV (g x))) _ (fun i hi=> ?_) ?_
  ·simp only[NZ,H8,un];have ht:=hg i hi;refine bT (bm hi) (bs (qo hi) ?_);rw[qQ];have e1:(nS (g i)).length=n:=by rw[dE,ht.1]
   refine bF (by rw[e1];simp) (bs (Vm hn oy ht) (bF rfl (bT (cap (a:=(nS (g i)).length) (b:=0) (by omega) (by omega)) (bT (cap (by simp;omega) (by omega)) ?_))));rw[br (by omega),NH];rfl
  ·simp only[NZ,H8,un];refine bF (aZ (az _)) ?_;rw[aZ (az _)];rfl
 have hI0:kI L n g [List.range n] [-1] [-1] [] [[]] [-1] []:=by
  refine ⟨fun f hf=> ?_,by simp,by simp,rfl,rfl,rfl,rfl,fun r hr=>(by cases hr),⟨by simp,fun y hy=>(by cases hy)⟩,fun i hi=> ?_,fun i hi=> ?_,fun i h0 hi=>(by simp at hi;omega),rfl⟩
  ·rw[fL.1 hf];exact HV
  ·obtain rfl:i=0:=by simpa using hi
   exact .inl rfl
  ·obtain rfl:i=0:=by simpa using hi
   exact az _
 have key: ∃r,Loop (Ib CC 0 (L:Int)) (0,(n:Int),true,0,gV L g,sV [List.range n],iL [-1],iL [-1],sV [],[],mT [List.range n],wL [[]],iL [-1],nS [])=some r∧
   ∃P K,∃U:LV,∃W B s,r=((L:Int),false,(n:Int),true,0,gV L g,sV (cL (bt g) [List.range n] (List.range n) L),iL P,iL K,sV [],U,mT (cL (bt g) [List.range n] (List.range n) L),wL W,iL B,nS s)∧kI L n g (cL (bt g) [List.range n] (List.range n) L) P K [] W B s∧s.length=L∧U.length≤6:=by
  refine xi (fun x y=> ∃P K,∃U:LV,∃W B s,y=((x:Int),(n:Int),true,0,gV L g,sV (cL (bt g) [List.range n] (List.range n) x),iL P,iL K,sV [],U,mT (cL (bt g) [List.range n] (List.range n) x),wL W,iL B,nS s)∧kI L n g (cL (bt g) [List.range n] (List.range n) x) P K [] W B s∧s.length=x∧U.length≤x)
   (fun r=> ∃P K,∃U:LV,∃W B s,r=((L:Int),false,(n:Int),true,0,gV L g,sV (cL (bt g) [List.range n] (List.range n) L),iL P,iL K,sV [],U,mT (cL (bt g) [List.range n] (List.range n) L),wL W,iL B,nS s)∧kI L n g (cL (bt g) [List.range n] (List.range n) L) P K [] W B s∧s.length=L∧U.length≤6)
   L (fun x hx y hy=> ?_) (fun y hy=> ?_) L 0 _ (dL _) ⟨_,_,_,_,_,_,rfl,hI0,rfl,az _⟩
  ·obtain ⟨P,K,U,W,B,s,rfl,hI,hs,hU⟩:=hy;have p7:=hg x hx;have hf0:bt g (List.range n) x=g x:=afr hg hx;have atO:cL (bt g) [List.range n] (List.range n) (x+1)=di (cL (bt g) [List.range n] (List.range n) x) (g x):=by rw[←hf0];rfl
   rw[atO];generalize hTx:cL (bt g) [List.range n] (List.range n) x=T at*
   have hlen:=hI.len;have gK:=hI.pos;have xA:=Vr oy hI.tr p7;have hX:CC xL [.list ab (tV (g x)).toList]=some [kT (g x)]:=by
    rw[qQ];exact Vn oy p7
   have uf:(Nat.ble (((V.nth [kT (g x)] 0).toStr).length) maxLen&&true)=true:=by
    refine kb.2 ⟨yf ?_,rfl⟩;rw[show (V.nth [kT (g x)] 0).toStr=nO (g x) from rfl,show (nO (g x)).length=n by simp[nO,p7.1]];unfold maxLen;omega
   have hsn: ∀y,nS s++[nV y]=nS (s++[y]):=fun y=>by simp[nS]
   simp only[Ib,Ia,un,aP];by_cases hk:g x∈T
   ·have An:di T (g x)=T:=by rw[di,aA hk]
    have hm:gQ (kT (g x)) (mT T)=true:=aff xA hk;rw[An];have vE:=te hk;refine .inl ⟨_,bT (bm hx) ((ca (mj hx)).trans (bT (H7 (by omega)) (bs hX (bT uf ?_)))),P,K,U++[.agg [.str [UInt8.ofNat ((wrap .i32 (wrap .i64 (97+(x:Int))):Int).toNat)],.str (W.getD (iw T (g x)) [])]],W,B,s++[iw T (g x)],rfl,⟨hI.tr,hI.nd,hI.len,hI.lP,hI.lK,hI.lW,hI.lB,hI.row,⟨by simp;omega,fun y hy=> ?_⟩,hI.b,hI.w,hI.p,hI.id⟩,by simp[hs],by simp;omega⟩
    ·refine (cg2 (f:=fun i b=>Ao CC 0 (x:Int) _ _ i (L:Int) (x:Int) b (n:Int) true 0 (gV L g) (sV T) (iL P) (iL K) (sV []) U (mT T) (wL W) (iL B) (nS s) _) (afh xA hk) hm).trans ?_;unfold Ao;refine bT rfl ((ca (xV (by rw[hI.lW];exact vE))).trans (bT (cap (by simp;omega) (by omega)) (bT (show Nat.ble (((nS s).length+1)*8) ba=true from cap (by rw[dE];omega) (by omega)) ?_)));rw[br (by omega),←hsn];rfl
    ·rcases fb.1 hy with hy|hy
     ·exact hI.s.2 y hy
     ·rw[fL.1 hy];exact vE
   ·have An:di T (g x)=T++[g x]:=by rw[di,aw hk]
    have hm:gQ (kT (g x)) (mT T)=false:=afg xA hk;rw[An];have hT:T.length<2000:=by
     have:=ae8 (next:=bt g) [List.range n] (List.range n) x;rw[hTx] at this;simp at this;omega
    have ae:T.getD 0 []=List.range n:=by
     have:=hI.id;cases T with
     | nil=>cases this
     | cons a T=>exact dU this
    refine .inl ⟨_,bT (bm hx) ((ca (mj hx)).trans (bT (H7 (by omega)) (bs hX (bT uf ?_)))),P++[((0:Nat):Int)],K++[(x:Int)],U,W++[[UInt8.ofNat ((wrap .i32 (wrap .i64 (97+(x:Int))):Int).toNat)]],B++[0],s++[T.length],rfl,?_,by simp[hs],by omega⟩
    ·refine (congrArg (fun b=>Ao CC 0 (x:Int) _ _ _ (L:Int) (x:Int) b (n:Int) true 0 (gV L g) (sV T) (iL P) (iL K) (sV []) U (mT T) (wL W) (iL B) (nS s) _) hm).trans ?_;unfold Ao;rw[qQ];refine bF rfl (bT (cap (a:=(nS (g x)).length) (b:=0) (by rw[dE,p7.1];omega) (by omega)) (bs (Vs (p:=0) (b:=0) (k:=(x:Int)) oy hI.tr p7 hk hlen (by rw[hI.lP];exact hlen) (by rw[hI.lK];exact hlen) (by rw[hI.lW];exact hlen) (by rw[hI.lB];exact hlen)) (bT (show Nat.ble (((nS s).length+1)*8) ba=true from cap (by rw[dE];omega) (by omega)) ?_)));rw[br (by omega),←hsn];rfl
    ·have h2:=hI.grow p7 hk hT (p:=0) (x:=x) (w:=[UInt8.ofNat ((wrap .i32 (wrap .i64 (97+(x:Int))):Int).toNat)]) (b:=0) gK hx (show 1≤_ from gK) (.inr ⟨Int.le_refl _,by exact_mod_cast gK⟩) (by rw[ae];exact hf0.symm);refine ⟨h2.tr,h2.nd,h2.len,h2.lP,h2.lK,h2.lW,h2.lB,h2.row,⟨by simp;omega,fun y hy=> ?_⟩,h2.b,h2.w,h2.p,h2.id⟩;rcases fb.1 hy with hy|hy
     ·exact h2.s.2 y hy
     ·rw[fL.1 hy];simp
  ·obtain ⟨P,K,U,W,B,s,rfl,hI,hs,hU⟩:=hy;refine ⟨_,?_,P,K,U,W,B,s,rfl,hI,hs,by omega⟩;simp only[Ib,Ia,un];refine bF (aZ (az _)) ?_;rw[aZ (az _)]
 obtain ⟨r,e1,P,K,U,W,B,s,rfl,hI,hs,hU⟩:=key;refine ⟨P,K,U,W,B,s,atF ?_,hI,hs,hU⟩;unfold afn;rw[hG];refine bF (by simp;omega) (bF (cX (by omega)) (bs (mj (by omega)) ?_));rw[qQ,dE,(hg 0 (by omega)).1];refine bs l1 ?_;show H9 CC (-1) true (n:Int) true 0 (gV L g) [] [] [] [] [] [] [] [] [] _=_;unfold H9;refine bT rfl (bs (asW hn oy) (bs (Vs (S:=[]) (P:=[]) (K:=[]) (R:=[]) (U:=[]) (W:=[]) (B:=[]) (s:=[]) (D:=0) (G:=gV L g) oy (fun f hf=>by cases hf) HV (by simp) (by simp) (by simp) (by simp) (by simp) (by simp)) ?_));show (Loop (Ib CC 0 ((gV L g).length:Int)) _).bind _=_;rw[hG];exact bs e1 rfl
structure mA (L n D:Nat) (g:Nat→List Nat) (S:List (List Nat)) (P K:List Int) (R:List (List Nat)) (W:List (List UInt8)) (B:List Int) (s:List Nat):Prop where
 I:kI L n g S P K R W B s
 sl:s.length=L
 dl:D≤S.length
 cl: ∀f∈S.take D,∀x,x<L→bt g f x∈S
 rr:R=(S.take D).map (eX L g S)
abbrev BdX:=Int×Bool×Int×LV×LV×LV×LV×LV×LV×LV×LV×LV×LV
abbrev BdR:=(Int×Int×Bool×Int×LV×LV×LV×LV×LV×LV) ⊕ (Bool×Int×Bool×Int×LV×LV×LV×LV×LV×LV×LV×LV×LV×LV)
def N7 (n D L:Nat) (g:Nat→List Nat) (S:List (List Nat)) (P K:List Int) (R:List (List Nat)) (U:LV) (W:List (List UInt8)) (B:List Int) (s:List Nat):BdX:=
 ((n:Int),true,(D:Int),gV L g,sV S,iL P,iL K,sV R,U,mT S,wL W,iL B,nS s)
theorem atP: ∃r,CC MF [.list ag (gV L g),.bool true]=some r∧((r=[.int .i64 0,.bool false,.int .i64 0,.int .i64 3,.list ag [],.list ag [],.list ab [],.list ab [],.list ag [],.list ew []]∧Am n)∨
  ∃S P K R W B s,∃U:LV,r=[.int .i64 (n:Int),.bool true,.int .i64 (S.length:Int),.int .i64 0,.list ag (gV L g),.list ag (sV S),.list ab (iL P),.list ab (iL K),.list ag (sV R),.list ew U]∧mA L n S.length g S P K R W B s):=by
 obtain ⟨P,K,U,W,B,s,e1,hI,hs,hU⟩:=atN hn oy hg h1 hL;have key: ∃r,Loop (VP CC 0 false 0 [] [] [] [] [] []) (N7 n 0 L g (cL (bt g) [List.range n] (List.range n) L) P K [] U W B s)=some r∧((r= .inl (3,0,false,0,[],[],[],[],[],[])∧Am n)∨
   ∃S P K R W B s,∃U:LV,r= .inr (false,(n:Int),true,(S.length:Int),gV L g,sV S,iL P,iL K,sV R,U,mT S,wL W,iL B,nS s)∧mA L n S.length g S P K R W B s):=by
  refine Kz (fun x:BdX=> ∃D S P K R W B s,∃U:LV,x=N7 n D L g S P K R U W B s∧mA L n D g S P K R W B s∧U.length≤6+D*6) (fun x=>3000-x.2.2.1.toNat)
   (fun r:BdR=>(r= .inl (3,0,false,0,[],[],[],[],[],[])∧Am n)∨∃S P K R W B s,∃U:LV,r= .inr (false,(n:Int),true,(S.length:Int),gV L g,sV S,iL P,iL K,sV R,U,mT S,wL W,iL B,nS s)∧mA L n S.length g S P K R W B s)
   (fun x hx=> ?_) _ ⟨0,_,P,K,[],W,B,s,U,rfl,⟨hI,hs,ma _,fun f hf=>(by cases hf),rfl⟩,hU⟩
  obtain ⟨D,S,P,K,R,W,B,s,U,rfl,hE,hU⟩:=hx;have hlen:=hE.I.len;have hD:=hE.dl;have hR:R.length=D:=by rw[hE.rr];simp[hD]
  unfold N7;simp only[VP,N6,un];by_cases hf:D=S.length
  ·subst hf;refine .inr ⟨_,bs Vu (bF (by simp) rfl),.inr ⟨S,P,K,R,W,B,s,U,?_,hE⟩⟩;simp
  ·have DL:D<S.length:=by omega
   obtain ⟨r,e2,h2⟩:=atM hE.I hE.sl hR hn oy hg hL (b7 DL) hU;rcases h2 with ⟨l,rfl,hm⟩|⟨P',K',U',W',B',rfl,gL,hU'⟩
   ·exact .inr ⟨_,bs Vu (bT (by simp[hf];omega) (bs e2 (bT rfl rfl))),.inl ⟨rfl,hm⟩⟩
   ·have rH:=NB (next:=bt g) S S[D] L;have BQ:(cL (bt g) S S[D] L).take (D+1)=S.take D++[S[D]]:=by
     obtain ⟨Z,e⟩:=rH;rw[←e,List.take_append_of_le_length DL,D5 DL]
    have zd: ∀x,x<L→bt g S[D] x∈cL (bt g) S S[D] L:=fun x hx=>aew hx;refine .inl ⟨N7 n (D+1) L g (cL (bt g) S S[D] L) P' K' (R++[eX L g (cL (bt g) S S[D] L) S[D]]) U' W' B' s,bs Vu (bT (by simp;omega) (bs e2 (bF rfl rfl))),⟨D+1,_,P',K',_,W',B',s,U',rfl,⟨⟨gL.tr,gL.nd,gL.len,gL.lP,gL.lK,gL.lW,gL.lB,fun r hr=> ?_,gL.s,gL.b,gL.w,gL.p,gL.id⟩,hE.sl,lZ DL rH.length_le,fun f hf x hx=> ?_,?_⟩,hU'⟩,?_⟩
    ·rcases fb.1 hr with hr|hr
     ·exact gL.row r hr
     ·rw[fL.1 hr];refine ⟨by simp[eX],fun y hy=> ?_⟩;obtain ⟨x,hx,rfl⟩:=iB.1 hy;exact te (zd x (fQ.1 hx))
    ·rw[BQ] at hf;rcases fb.1 hf with hf|hf
     ·exact rH.subset (hE.cl f hf x hx)
     ·rw[fL.1 hf];exact zd x hx
    ·rw[BQ,tk,hE.rr];refine congrArg (· ++[_]) (oB fun f hf=>oB fun x hx=> ?_);exact (afe rH (hE.cl f hf x (fQ.1 hx))).symm
    ·show 3000-(((D+1:Nat):Int)).toNat<3000-((D:Int)).toNat
     omega
 obtain ⟨r,e2,h2⟩:=key;rcases h2 with ⟨rfl,hm⟩|⟨S,P,K,R,W,B,s,U,rfl,hE⟩
 ·refine ⟨_,afq ?_,.inl ⟨rfl,hm⟩⟩;unfold VQ;exact bs e1 (bF rfl (bs e2 rfl))
 ·refine ⟨_,afq ?_,.inr ⟨S,P,K,R,W,B,s,U,rfl,hE⟩⟩;unfold VQ;exact bs e1 (bF rfl (bs e2 rfl))
end
end Go.AM
set_option maxRecDepth 100000
namespace Go.AM
open Go.IntKind (wrap)
section
variable {β:Type} [DecidableEq β]
def cd (g:Nat→β):Nat→List β
 | 0=>[]
 | n+1=>di (cd g n) (g n)
theorem VT (g:Nat→β): ∀n,(cd g n).Nodup
 | 0=>List.nodup_nil
 | n+1=>U3 (VT g n)
theorem oV {g:Nat→β} {v:β}: ∀{n},v∈cd g n↔∃q,q<n∧g q=v
 | 0=>⟨fun h=>(by cases h),fun ⟨q,h,_⟩=>(by omega)⟩
 | n+1=>by
  have ih:=oV (g:=g) (v:=v) (n:=n);rw[cd];unfold di;constructor
  ·intro h;split at h
   ·obtain ⟨q,h1,h2⟩:=ih.1 h;exact ⟨q,by omega,h2⟩
   ·rcases fb.1 h with h|h
    ·obtain ⟨q,h1,h2⟩:=ih.1 h;exact ⟨q,by omega,h2⟩
    ·exact ⟨n,by omega,(fL.1 h).symm⟩
  ·rintro ⟨q,h1,h2⟩;rcases jR q n with c|c
   ·exact (Ad (cd g n) (g n)).subset (ih.2 ⟨q,c,h2⟩)
   ·obtain rfl:q=n:=by omega
    rw[←h2];exact Dx
theorem atQ {g:Nat→β} {m n:Nat} (h:m≤n):cd g m <+: cd g n:=by
 induction n with
 | zero=>rw[wD.1 h];exact sa _
 | succ n ih=>
  rcases jR m (n+1) with c|c
  ·exact (ih (by omega)).trans (Ad _ _)
  ·rw[show m=n+1 by omega];exact sa _
theorem Ie (g:Nat→β): ∀n,(cd g n).length≤n
 | 0=>az _
 | n+1=>by
  have:=Ie g n;rw[cd,Dy];split<;>omega
def gr (g:Nat→β) (n q:Nat):Nat:=(cd g n).idxOf (g q)
theorem VU {g:Nat→β} {n q:Nat} (h:q<n):gr g n q<(cd g n).length:=wG (oV.2 ⟨q,h,rfl⟩)
theorem afs {g:Nat→β} {n p q:Nat} (hp:p<n) (hq:q<n):gr g n p=gr g n q↔g p=g q:=by
 constructor
 ·intro h;have h1:=Js (VU (g:=g) hp);have h2:=Js (VU (g:=g) hq);rw[←h1,←h2];exact getElem_congr_idx h
 ·intro h;unfold gr;rw[h]
theorem VV {g:Nat→β} {m n q:Nat} (h:q<m) (hm:m≤n):gr g n q=gr g m q:=DB (atQ hm) (oV.2 ⟨q,h,rfl⟩)
theorem afu {g:Nat→β} {q:Nat} (h:g q∈cd g q):cd g (q+1)=cd g q:=by rw[cd];unfold di;rw[aA h]
theorem afv {g:Nat→β} {q:Nat} (h:g q∉cd g q):cd g (q+1)=cd g q++[g q]:=by rw[cd];unfold di;rw[aw h]
theorem atS {g:Nat→β} {n q:Nat} (hq:q<n) (h:g q∈cd g q):gr g n q=(cd g q).idxOf (g q):=by
 rw[VV (show q<q+1 by omega) (by omega)];unfold gr;rw[afu h]
theorem atT {g:Nat→β} {n q:Nat} (hq:q<n) (h:g q∉cd g q):gr g n q=(cd g q).length:=by
 rw[VV (show q<q+1 by omega) (by omega)];unfold gr;rw[afv h,A9,aw h];simp
def Ap (p:Nat→Nat) (n:Nat):Prop:= ∀m,m≤n→cd p m=List.range (cd p m).length
theorem afw (g:Nat→β) (n:Nat): ∀m,m≤n→cd (gr g n) m=List.range (cd g m).length:=by
 intro m
 induction m with
 | zero=>intro _;rfl
 | succ m ih=>
  intro hm;have ih:=ih (by omega);have e1:gr g n m=gr g (m+1) m:=VV (by omega) hm;have e2:gr g (m+1) m=if g m∈cd g m then (cd g m).idxOf (g m) else (cd g m).length:=by
   unfold gr;rw[cd];unfold di;split
   ·rfl
   ·rename_i h;rw[A9,aw h];simp
  rw[cd,ih,cd,Dy];unfold di;by_cases h:g m∈cd g m
  ·have:=wG h;rw[aA h] at e2;rw[aA h,aA (by rw[e1,e2];exact fQ.2 this)]
  ·rw[aw h] at e2;rw[aw h,aw (by rw[e1,e2];simp),e1,e2,D6]
theorem atU (g:Nat→β) (n:Nat):Ap (gr g n) n:=fun m hm=>by
 rw[afw g n m hm,jw]
theorem afx {γ:Type} [DecidableEq γ] {f:Nat→β} {c:Nat→γ} {n:Nat} (hr: ∀q q',q<n→q'<n→f q=f q'→c q=c q') (hl:(cd f n).length≤(cd c n).length):
  ∀q q',q<n→q'<n→c q=c q'→f q=f q':=by
 intro q q' hq dD hc;refine Decidable.byContradiction fun hf=> ?_;have rep: ∀v∈cd f n,∃q,q<n∧f q=v:=fun v hv=>oV.1 hv;have: ∃R:β→Nat,∀v∈cd f n,R v<n∧f (R v)=v:=by
  classical
  refine ⟨fun v=>if h:v∈cd f n then Classical.choose (rep v h) else 0,fun v hv=> ?_⟩;simp only[hv,wv];exact D3 (rep v hv)
 obtain ⟨R,hR⟩:=this;have lL:cd c n ⊆ ((cd f n).filter fun v=>decide (v≠f q')).map fun v=>c (R v):=by
  intro u hu;obtain ⟨s,hs,rfl⟩:=oV.1 hu;by_cases h:f s=f q'
  ·refine iB.2 ⟨f q,uK.2 ⟨oV.2 ⟨q,hq,rfl⟩,cg hf⟩,?_⟩;have h1:=hR (f q) (oV.2 ⟨q,hq,rfl⟩);rw[hr _ _ h1.1 hq h1.2,hc,hr _ _ hs dD h]
  ·refine iB.2 ⟨f s,uK.2 ⟨oV.2 ⟨s,hs,rfl⟩,cg h⟩,?_⟩;have h1:=hR (f s) (oV.2 ⟨s,hs,rfl⟩);exact hr _ _ h1.1 hs h1.2
 have h1:=yc (VT c n) lL;rw[dH] at h1;have h2:((cd f n).filter fun v=>decide (v≠f q')).length<(cd f n).length:=by
  have hm:f q'∈cd f n:=oV.2 ⟨q',dD,rfl⟩;have aR:=List.length_filter_lt_length_iff_exists (p:=fun v=>decide (v≠f q')) (l:=cd f n);exact aR.2 ⟨f q',hm,by simp⟩
 omega
theorem atV {γ:Type} [DecidableEq γ] {f:Nat→β} {c:Nat→γ} {n:Nat} (hr: ∀q q',q<n→q'<n→f q=f q'→c q=c q'):(cd c n).length≤(cd f n).length:=by
 rcases jR (cd f n).length (cd c n).length with h|h
 ·have:=afx hr (by omega);have rep: ∀v∈cd f n,∃q,q<n∧f q=v:=fun v hv=>oV.1 hv;have: ∃R:β→Nat,∀v∈cd f n,R v<n∧f (R v)=v:=by
   classical
   refine ⟨fun v=>if h:v∈cd f n then Classical.choose (rep v h) else 0,fun v hv=> ?_⟩;simp only[hv,wv];exact D3 (rep v hv)
  obtain ⟨R,hR⟩:=this;have lL:cd c n ⊆ (cd f n).map fun v=>c (R v):=by
   intro u hu;obtain ⟨s,hs,rfl⟩:=oV.1 hu;have h1:=hR (f s) (oV.2 ⟨s,hs,rfl⟩);exact iB.2 ⟨f s,oV.2 ⟨s,hs,rfl⟩,hr _ _ h1.1 hs h1.2⟩
  have h1:=yc (VT c n) lL;rw[dH] at h1;omega
 ·exact h
end
namespace Da
structure Part (a:Da) (c:Nat→Nat):Prop where
 coarse: ∀q q',q<a.n→q'<a.n→a.rQ q a q'→c q=c q'
 fin: ∀q q',q<a.n→q'<a.n→c q=c q'→a.fin q=a.fin q'
def sig (a:Da) (c:Nat→Nat) (q:Nat):List Nat:=c q::(List.range a.L).map fun x=>c (a.nx q x)
theorem Ig {a:Da} {c:Nat→Nat} {q q':Nat}:a.sig c q=a.sig c q'↔c q=c q'∧∀x,x<a.L→c (a.nx q x)=c (a.nx q' x):=by
 unfold sig;rw[yg];refine and_congr Iff.rfl ⟨fun h x hx=> ?_,fun h=>oB fun x hx=>h x (fQ.1 hx)⟩;have:=congrArg (fun l=>l.getD x 0) h;simpa[hx] using this
def VW (a:Da) (c f:Nat→Nat):Prop:= ∀q q',q<a.n→q'<a.n→(f q=f q'↔a.sig c q=a.sig c q')
theorem VW.part {a:Da} {c f:Nat→Nat} (h:a.VW c f) (ha:a.Ok) (hc:a.Part c):a.Part f where
 coarse q q' hq dD he:=(h q q' hq dD).2 (Ig.2 ⟨hc.coarse q q' hq dD he,fun x hx=>hc.coarse _ _ (ha.my hq hx) (ha.my dD hx) (he.nx hx)⟩)
 fin q q' hq dD he:=hc.fin q q' hq dD (Ig.1 ((h q q' hq dD).1 he)).1
def N8 (a:Da) (p:Nat→Nat):Prop:=(∀q q',q<a.n→q'<a.n→(p q=p q'↔a.rQ q a q'))∧Ap p a.n
theorem Part.atW {a:Da} {c:Nat→Nat} (hc:a.Part c) (ha:a.Ok) (hs: ∀q q',q<a.n→q'<a.n→c q=c q'→a.sig c q=a.sig c q'): ∀q q',q<a.n→q'<a.n→(c q=c q'↔a.rQ q a q'):=by
 intro q q' hq dD;refine ⟨fun h w=> ?_,hc.coarse q q' hq dD⟩
 induction w generalizing q q' with
 | nil=>intro _;rw[uy,uy];exact hc.fin q q' hq dD h
 | cons x w ih=>
  intro hw;rw[NA,NA];exact ih _ _ (ha.my hq hw.head) (ha.my dD hw.head) ((Ig.1 (hs q q' hq dD h)).2 x hw.head) hw.tail
def g9 (p:Nat→Nat):Nat→List Nat
 | 0=>[]
 | n+1=>if p n∈cd p n then g9 p n else g9 p n++[n]
theorem N9 {p:Nat→Nat}: ∀n,(g9 p n).map p=cd p n
 | 0=>rfl
 | n+1=>by
  rw[g9,cd];unfold di;split
  ·exact N9 n
  ·rw[tk,N9 n];rfl
theorem Ih {p:Nat→Nat} {n:Nat}:(g9 p n).length=(cd p n).length:=by rw[←N9,dH]
theorem Aq {p:Nat→Nat}: ∀{n q},q∈g9 p n→q<n
 | 0,q,h=>by cases h
 | n+1,q,h=>by
  rw[g9] at h;split at h
  ·have:=Aq h;omega
  ·rcases fb.1 h with h|h
   ·have:=Aq h;omega
   ·rw[fL.1 h];omega
theorem DM {p:Nat→Nat} {n:Nat} (ho:Ap p n) {c:Nat} (hc:c<(g9 p n).length):p (g9 p n)[c]=c:=by
 have h1:=ho n (az _);have h2:((g9 p n).map p)[c]? =some c:=by rw[N9,h1,A0 (by rw[Ih] at hc;exact hc)]
 rw[kf,b7 hc] at h2;exact dU h2
theorem Ii {p:Nat→Nat} {n q:Nat} (ho:Ap p n) (hq:q<n):p q<(g9 p n).length:=by
 have h1:p q∈cd p n:=oV.2 ⟨q,hq,rfl⟩;rw[ho n (az _),fQ] at h1;rw[Ih];exact h1
def quo (a:Da) (p:Nat→Nat):Da where
 L:=a.L
 st:=p a.st
 F:=(g9 p a.n).map a.fin
 N:=(g9 p a.n).map fun q=>tab a.L fun x=>p (a.nx q x)
theorem ya {a:Da} {p:Nat→Nat}:(a.quo p).n=(g9 p a.n).length:=by simp[quo,n]
theorem afy {a:Da} {p:Nat→Nat} {c:Nat} (hc:c<(g9 p a.n).length):(a.quo p).fin c=a.fin (g9 p a.n)[c]:=by
 show ((g9 p a.n).map a.fin).getD c false=_;rw[cE (by simpa using hc),A3]
theorem afz {a:Da} {p:Nat→Nat} {c x:Nat} (hc:c<(g9 p a.n).length) (hx:x<a.L):(a.quo p).nx c x=p (a.nx (g9 p a.n)[c] x):=by
 show (((g9 p a.n).map fun q=>tab a.L fun x=>p (a.nx q x)).getD c []).getD x 0=_;rw[cE (l:=(g9 p a.n).map fun q=>tab a.L fun x=>p (a.nx q x)) (by simpa using hc),A3,xn hx]
section
variable {a:Da} {p:Nat→Nat} (ha:a.Ok) (hp:a.N8 p)
include ha hp
theorem afA:(a.quo p).Ok where
 l1:=ha.l1
 l6:=ha.l6
 nN:=by rw[ya];simp[quo]
 row r hr:=by
  rw[ya];obtain ⟨q,hq,rfl⟩:=iB.1 (show r∈(g9 p a.n).map _ from hr);refine ⟨by simp[quo],fun s hs=> ?_⟩;obtain ⟨x,hx,rfl⟩:=KR.1 hs;exact Ii hp.2 (ha.my (Aq hq) hx)
 s:=by rw[ya];exact Ii hp.2 ha.s
 dy:=by
  rw[ya,Ih];have:=Ie p a.n;have:=ha.dy;omega
theorem Oa: ∀(w:List Nat) {q:Nat},q<a.n→WL a.L w→(a.quo p).acc (p q) w=a.acc q w
 | [],q,hq,_=>by
  have hc:=Ii hp.2 hq;rw[uy,uy,afy hc];have h1:=(hp.1 _ _ (Aq (dd hc)) hq).1 (DM hp.2 hc);have:=h1 [] WL.nil;rwa [uy,uy] at this
 | x::w,q,hq,hw=>by
  have hc:=Ii hp.2 hq;have hr:=Aq (dd hc);have h1:=(hp.1 _ _ hr hq).1 (DM hp.2 hc);have h2:=(hp.1 _ _ (ha.my hr hw.head) (ha.my hq hw.head)).2 (h1.nx hw.head);rw[NA,NA,afz hc hw.head,h2];exact Oa w (ha.my hq hw.head) hw.tail
theorem atX: ∀c d,c<(a.quo p).n→d<(a.quo p).n→(a.quo p).rQ c (a.quo p) d→c=d:=by
 intro c d hc hd he;rw[ya] at hc hd;have r1:=Aq (dd hc);have r2:=Aq (dd hd);rw[←DM hp.2 hc,←DM hp.2 hd];refine (hp.1 _ _ r1 r2).2 fun w hw=> ?_;rw[←Oa ha hp w r1 hw,←Oa ha hp w r2 hw,DM hp.2 hc,DM hp.2 hd];exact he w hw
theorem atY:(a.quo p).trim.Canon a.L (a.acc a.st):=by
 have h:=(afA ha hp).arM (atX ha hp);exact ⟨h.ok,h.hL,h.st,h.num,h.red,fun w hw=>(h.Dw w hw).trans (Oa ha hp w ha.s hw)⟩
end
end Da
end Go.AM
set_option maxRecDepth 100000
namespace Go.AM
open Go.IntKind (wrap)
open Go.Proofs
noncomputable def Ij (C:af) (t24:LV) (t25 bG bU:Int) (gM gp:LV) (count t26:Int) (dV:LV) {β:Type} (kn:(Int×Int×LV)→Option β) (kr:(Int×Int×Bool×LV)→Option β):Option β:=
 bif decide (t26<t25) then
  (idx t24 t26).bind fun x2=>
  (gM[0]?).bind fun x3=>
  bif !(x2.toBool==x3.toBool) then
  aP dV t26 fun x4=>
  kn (2,wrap .i64 (t26+1),bj dV t26 (V.int .i64 1))
  else
  kn (count,wrap .i64 (t26+1),dV)
 else
  kr (count,t26,decide (t26<t25),dV)
noncomputable def Ob (C:af) (t24:LV) (t25 bG bU:Int) (gM gp:LV):=un fun count=>un fun t26 dV=>Ij C t24 t25 bG bU gM gp count t26 dV (fun y=>some (Sum.inl y)) (fun r=>some (Sum.inr r))
noncomputable def Ik (C:af) (count q:Int) (t46:LV) (t47 t48:Int) (t58:LV) (t59 bG bU:Int) (gM gp dV numbers th:LV) (t60 Oc Od Oe Of Og Oh Oi:Int) {β:Type} (kn:(Int×Int×Int×Int×Int×Int×Int×Int)→Option β) (kr:(Int×Bool×Int×Int×Int×Int×Int×Int×Int)→Option β):Option β:=
 bif decide (t60<t59) then
  (idx t58 t60).bind fun p9=>
  bif (decide (0≤p9.toInt))&&(decide (p9.toInt<(dV.length:Int))) then
  (dV[(p9.toInt:Int).toNat]?).bind fun j9=>
  bif (decide (0≤(wrap .i64 (1+t60))))&&(decide ((wrap .i64 (1+t60))<7)) then
   bif Nat.blt (0+(((wrap .i64 (1+t60):Int).toNat)*1)) 7 then
   kn (wrap .i64 (t60+1),bif Nat.beq (0+(((wrap .i64 (1+t60):Int).toNat)*1)) 0 then j9.toInt else Oc,bif Nat.beq (0+(((wrap .i64 (1+t60):Int).toNat)*1)) 1 then j9.toInt else Od,bif Nat.beq (0+(((wrap .i64 (1+t60):Int).toNat)*1)) 2 then j9.toInt else Oe,bif Nat.beq (0+(((wrap .i64 (1+t60):Int).toNat)*1)) 3 then j9.toInt else Of,bif Nat.beq (0+(((wrap .i64 (1+t60):Int).toNat)*1)) 4 then j9.toInt else Og,bif Nat.beq (0+(((wrap .i64 (1+t60):Int).toNat)*1)) 5 then j9.toInt else Oh,bif Nat.beq (0+(((wrap .i64 (1+t60):Int).toNat)*1)) 6 then j9.toInt else Oi)
   else none
  else none
  else none
 else
  kr (t60,decide (t60<t59),Oc,Od,Oe,Of,Og,Oh,Oi)
noncomputable def Oj (C:af) (count q:Int) (t46:LV) (t47 t48:Int) (t58:LV) (t59 bG bU:Int) (gM gp dV numbers th:LV):=un fun t60=>un fun Oc=>un fun Od=>un fun Oe=>un fun Of=>un fun Og=>un fun Oh Oi=>Ik C count q t46 t47 t48 t58 t59 bG bU gM gp dV numbers th t60 Oc Od Oe Of Og Oh Oi (fun y=>some (Sum.inl y)) (fun r=>some (Sum.inr r))
noncomputable def Il (C:af) (count:Int) (t46:LV) (t47 bG bU:Int) (gM gp dV:LV) (t48:Int) (numbers th:LV) {β:Type} (kn:(Int×LV×LV)→Option β) (kr:(Int×Bool×LV×LV)→Option β):Option β:=
 bif decide (t48<t47) then
  (idx t46 t48).bind fun x9=>
  aP dV t48 fun oj=>
  (Loop (Oj C count t48 t46 t47 t48 x9.toList (x9.toList.length:Int) bG bU gM gp dV numbers th) (0,oj.toInt,0,0,0,0,0,0)).bind (un fun B9=>un fun (vo:Bool)=>un fun Im=>un fun Io=>un fun Ip=>un fun Iq=>un fun Ir=>un fun (Is:Int) (It:Int)=>
   bif (gI .i64 Im&&(gI .i64 Io&&(gI .i64 Ip&&(gI .i64 Iq&&(gI .i64 Ir&&(gI .i64 Is&&(gI .i64 It&&true)))))))&&true then
   bif !(gQ (.agg [V.int .i64 Im,V.int .i64 Io,V.int .i64 Ip,V.int .i64 Iq,V.int .i64 Ir,V.int .i64 Is,V.int .i64 It]) numbers) then
    bif (gI .i64 Im&&(gI .i64 Io&&(gI .i64 Ip&&(gI .i64 Iq&&(gI .i64 Ir&&(gI .i64 Is&&(gI .i64 It&&true)))))))&&true then
    aP th t48 fun Ol=>
    kn (wrap .i64 (t48+1),jz (.agg [V.int .i64 Im,V.int .i64 Io,V.int .i64 Ip,V.int .i64 Iq,V.int .i64 Ir,V.int .i64 Is,V.int .i64 It]) (V.int .i64 (numbers.length:Int)) numbers,bj th t48 (V.int .i64 (numbers.length:Int)))
    else none
   else
    aP th t48 fun x23=>
    kn (wrap .i64 (t48+1),numbers,bj th t48 (V.int .i64 ((kK (.agg [V.int .i64 Im,V.int .i64 Io,V.int .i64 Ip,V.int .i64 Iq,V.int .i64 Ir,V.int .i64 Is,V.int .i64 It]) numbers (V.int .i64 0)).toInt)))
   else none)
 else
  kr (t48,decide (t48<t47),numbers,th)
noncomputable def Om (C:af) (count:Int) (t46:LV) (t47 bG bU:Int) (gM gp dV:LV):=un fun t48=>un fun numbers th=>Il C count t46 t47 bG bU gM gp dV t48 numbers th (fun y=>some (Sum.inl y)) (fun r=>some (Sum.inr r))
noncomputable def Iu (C:af) (bG bU:Int) (gM gp:LV) (count:Int) (dV:LV) {β:Type} (kn:(Int×LV)→Option β) (kr:LV→Option β):Option β:=
 bif (decide (0≤(dV.length:Int)))&&((decide ((dV.length:Int)≤(dV.length:Int)))&&(Nat.ble (((dV.length:Int).toNat)*8) ba)) then
  (Loop (Om C count gp (gp.length:Int) bG bU gM gp dV) (0,([]:LV),List.replicate ((dV.length:Int).toNat) (V.int .i64 0))).bind (un fun azx=>un fun (azy:Bool)=>un fun (afB:LV) (afC:LV)=>
   bif (afB.length:Int)==count then
   kr afC
   else
   kn ((afB.length:Int),afC))
 else none
noncomputable def Iv (C:af) (bG bU:Int) (gM gp:LV):=un fun count dV=>Iu C bG bU gM gp count dV (fun y=>some (Sum.inl y)) (fun r=>some (Sum.inr r))
noncomputable def On (C:af):cN:=bL 81 TK [H1,EQ,EQ,H1,EQ,EQ,EQ,EQ,H1] [[0,2,3,0,0,5,6,7,8,0]] (@Ij C) (bL 273 TL [EQ,EQ,EQ,EQ,EQ,EQ,EQ,H1,EQ,EQ,EQ,EQ,EQ,EQ,EQ,H1,H1,H1,H1,H1,H1,H1] [[1,2,3,4,5,6,7,0,0,9,10,11,12,13,14,15,0,0,0,0,0,0,0]] (@Ik C) (bL 209 TM [EQ,EQ,EQ,H1,EQ,EQ,EQ,EQ,EQ,H1,H1] [[1,2,3,0,0,5,6,7,8,9,0,0]] (@Il C) (bL 161 TN [H1,EQ,EQ,EQ,EQ,H1] [[0]] (@Iu C) bM)))
theorem atZ (C:af):bD C (On C) 47 (Lp [1,1,1,0,1,0,0] 47):=bN TK [H1,EQ,EQ,H1,EQ,EQ,EQ,EQ,H1] [[0,2,3,0,0,5,6,7,8,0]] (@Ij C) (bA av)
theorem at1 (C:af):bD C (On C) 47 (Lp [1,1,1,1,0,0,0,1,1,0,1,0,0,1,1,0,0,1,1,0,1,0,0] 47):=bN TL [EQ,EQ,EQ,EQ,EQ,EQ,EQ,H1,EQ,EQ,EQ,EQ,EQ,EQ,EQ,H1,H1,H1,H1,H1,H1,H1] [[1,2,3,4,5,6,7,0,0,9,10,11,12,13,14,15,0,0,0,0,0,0,0]] (@Ik C) (bA av)
theorem at2 (C:af):bD C (On C) 47 (Lp [1,1,1,1,0,0,0,1,1,0,1,0,0] 47):=bN TM [EQ,EQ,EQ,H1,EQ,EQ,EQ,EQ,EQ,H1,H1] [[1,2,3,0,0,5,6,7,8,9,0,0]] (@Il C) (bA (bE (at1 C) av))
theorem at3 (C:af):bD C (On C) 47 (Lp [1,1,1,1,0,0] 47):=bN TN [H1,EQ,EQ,EQ,EQ,H1] [[0]] (@Iu C) (bA (bE (at2 C) av))
noncomputable def afD (C:af) (cw cJ:Int) (b9 cK:LV):Option LV:=
 (C sC [V.int .i64 cw,V.int .i64 cJ,.list ar b9,.list ag cK]).bind fun r1=>
 bif (((V.nth r1 0).toInt):Int) != 0 then
  some [.list ab ([]:LV)]
 else
  bif (decide (0≤(b9.length:Int)))&&((decide ((b9.length:Int)≤(b9.length:Int)))&&(Nat.ble (((b9.length:Int).toNat)*8) ba)) then
  (Loop (Ob C b9 (b9.length:Int) cw cJ b9 cK) (1,0,List.replicate ((b9.length:Int).toNat) (V.int .i64 0))).bind (un fun at4=>un fun jY=>un fun (nu:Bool) (at5:LV)=>
   (Loop (Iv C cw cJ b9 cK) (at4,at5)).bind (fun (at6:LV)=>
    some [.list ab at6]))
  else none
theorem at7 {cw cJ:Int} {b9 cK:LV} {r:Option LV} (h:afD CC cw cJ b9 cK=r):CC MB [V.int .i64 cw,V.int .i64 cJ,.list ar b9,.list ag cK]=r:=bO (bE (atZ CC) (bE (at3 CC) av)) h
def fg (a:Da) (c:Nat→Nat) (q t j:Nat):Nat:=if j=0 then c q else if j≤t then c (a.nx q (j-1)) else 0
def e7 (a:Da) (c:Nat→Nat) (q:Nat):List Nat:=tab 7 (fg a c q a.L)
def Iw (s:List Nat):V:= .agg (s.map nV)
theorem afE: ∀s t:List Nat,qf (s.map nV) (t.map nV)=decide (s=t)
 | [],[]=>rfl
 | [],b::t=>rfl
 | a::s,[]=>rfl
 | a::s,b::t=>by
  simp only[lu,qf];rw[afE s t,yh];simp only[nV,wO];simp only[aK,beq_iff_eq,jQ,yg];exact and_congr (by omega) Iff.rfl
theorem VX (s t:List Nat):jy (Iw s) (Iw t)=decide (s=t):=afE s t
theorem VY {a:Da} (h:a.Ok) {c:Nat→Nat} {q q':Nat}:e7 a c q=e7 a c q'↔a.sig c q=a.sig c q':=by
 rw[Da.Ig];have h6:=h.l6;constructor
 ·intro e;have g:=fun j (hj:j<7)=>congrArg (fun l:List Nat=>l.getD j 0) e;unfold e7 at g;refine ⟨?_,fun x hx=> ?_⟩
  ·have:=g 0 (by omega);rw[xn (by omega),xn (by omega)] at this;exact this
  ·have:=g (x+1) (by omega);rw[xn (by omega),xn (by omega)] at this;unfold fg at this;rwa [aw (by omega),aA (by omega),aw (by omega),aA (by omega)] at this
 ·rintro ⟨h1,h2⟩;refine dg fun j _=> ?_;unfold fg;by_cases hj:j=0
  ·rw[aA hj,aA hj,h1]
  ·rw[aw hj,aw hj];by_cases dB:j≤a.L
   ·rw[aA dB,aA dB,h2 (j-1) (by omega)]
   ·rw[aw dB,aw dB]
theorem Ar {a:Da} {c:Nat→Nat} {q t:Nat} (j:Nat):(bif Nat.beq (0+(t+1)*1) j then ((c (a.nx q t):Nat):Int) else ((fg a c q t j:Nat):Int))=((fg a c q (t+1) j:Nat):Int):=by
 by_cases hj:t+1=j
 ·rw[show Nat.beq (0+(t+1)*1) j=true from by rw[aM];omega,cond_true,←hj];unfold fg;rw[dm,da];rfl
 ·rw[show Nat.beq (0+(t+1)*1) j=false from by rw[←Bool.not_eq_true,aM];omega,cond_false];unfold fg;by_cases h0:j=0
  ·rw[aA h0,aA h0]
  ·rw[aw h0,aw h0];by_cases h1:j≤t
   ·rw[aA h1,da]
   ·rw[aw h1,dm]
def cV (n:Nat) (c:Nat→Nat):List V:=tab n fun q=>nV (c q)
section
variable {a:Da} (h:a.Ok) {c:Nat→Nat}
include h
theorem aua {q:Nat} (hq:q<a.n) {k1 k2 k3 k4 k5 k6:Int} {l1 l2 l3 l4 l5:List V}:
  Loop (Oj CC k1 k2 l1 k3 k4 (tab a.L fun x=>iV (a.nx q x)) ((tab a.L fun x=>iV (a.nx q x)).length:Int) k5 k6 l2 l3 (cV a.n c) l4 l5) (0,(c q:Int),0,0,0,0,0,0)=
   some ((a.L:Int),false,(fg a c q a.L 0:Int),(fg a c q a.L 1:Int),(fg a c q a.L 2:Int),(fg a c q a.L 3:Int),(fg a c q a.L 4:Int),(fg a c q a.L 5:Int),(fg a c q a.L 6:Int)):=by
 have h6:=h.l6;rw[eW];refine (fH a.L (fun t=>((t:Int),(fg a c q t 0:Int),(fg a c q t 1:Int),(fg a c q t 2:Int),(fg a c q t 3:Int),(fg a c q t 4:Int),(fg a c q t 5:Int),(fg a c q t 6:Int))) _ (fun t ht=> ?_) ?_)
 ·simp only[Oj,Ik,un];refine bT (bm ht) ?_;refine bs (HI ht) ?_;refine (mq (i:=a.nx q t) (h.my hq ht)).trans ?_;have w:wrap .i64 (1+(t:Int))=((t+1:Nat):Int):=by rw[rD];omega
  rw[w,br (by omega),Int.toNat_natCast];refine bT (kb.2 ⟨cg (by omega),cg (by omega)⟩) ?_;refine bT (show Nat.ble (0+(t+1)*1+1) 7=true by rw[gb];omega) ?_;show some (Sum.inl _)=some (Sum.inl _);refine congrArg (fun x=>some (Sum.inl x)) ?_;exact dc rfl (dc (Ar 0) (dc (Ar 1) (dc (Ar 2) (dc (Ar 3) (dc (Ar 4) (dc (Ar 5) (Ar 6)))))))
 ·simp only[Oj,Ik,un];refine bF (aZ (az _)) ?_;rw[aZ (az _)]
theorem aub (hc: ∀q,q<a.n→c q≤1000) {q:Nat} (hq:q<a.n) (j:Nat):fg a c q a.L j≤1000:=by
 unfold fg;split
 ·exact hc q hq
 ·split
  ·exact hc _ (h.my hq (by omega))
  ·omega
theorem auc (hc: ∀q,q<a.n→c q≤1000) {k1 k2 k3:Int} {l2:List V}:
  Loop (Om CC k1 a.eD (a.eD.length:Int) k2 k3 l2 a.eD (cV a.n c)) (0,([]:List V),List.replicate ((((cV a.n c).length:Int):Int).toNat) (V.int .i64 0))=
   some ((a.n:Int),false,fX Iw 0 (cd (e7 a c) a.n),cV a.n (gr (e7 a c) a.n)):=by
 have hm:=h.dy;have hl:(cV a.n c).length=a.n:=by simp[cV]
 rw[hl,Int.toNat_natCast,oK,Da.ar8];refine (fH a.n (fun i=>((i:Int),fX Iw 0 (cd (e7 a c) i),(tab a.n fun q=>if q<i then nV (gr (e7 a c) a.n q) else nV 0))) _ (fun q hq=> ?_) ?_)
 ·have hle:=Ie (e7 a c) q;simp only[Om,Il,un,aP,bj];refine bT (bm hq) ?_;refine bs (Da.NK hq) ?_;refine (mq (i:=q) hq).trans ?_;simp only[HH];refine bs (aua h hq) ?_;have k0:=aub h hc hq;have kk: ∀j,gI .i64 ((fg a c q a.L j:Nat):Int)=true:=fun j=>Vd (by have:=k0 j;omega);have afF:((gI .i64 ((fg a c q a.L 0:Nat):Int)&&(gI .i64 ((fg a c q a.L 1:Nat):Int)&&(gI .i64 ((fg a c q a.L 2:Nat):Int)&&(gI .i64 ((fg a c q a.L 3:Nat):Int)&&(gI .i64 ((fg a c q a.L 4:Nat):Int)&&(gI .i64 ((fg a c q a.L 5:Nat):Int)&&(gI .i64 ((fg a c q a.L 6:Nat):Int)&&true)))))))&&true)=true:=by
   simp only[kk,Bool.and_self]
  refine bT afF ?_;have ek:V.agg [V.int .i64 (fg a c q a.L 0:Int),V.int .i64 (fg a c q a.L 1:Int),V.int .i64 (fg a c q a.L 2:Int),V.int .i64 (fg a c q a.L 3:Int),V.int .i64 (fg a c q a.L 4:Int),V.int .i64 (fg a c q a.L 5:Int),V.int .i64 (fg a c q a.L 6:Int)]=Iw (e7 a c q):=rfl;simp only[un,ek];have e1:=Va VX (e7 a c q) (cd (e7 a c) q) 0;have fin: ∀v,v=nV (gr (e7 a c) a.n q)→(tab a.n fun j=>if j<q then nV (gr (e7 a c) a.n j) else nV 0).set q v=tab a.n fun j=>if j<q+1 then nV (gr (e7 a c) a.n j) else nV 0:=by
   rintro v rfl;rw[lH];refine dg fun j _=> ?_;by_cases hj:j=q
   ·rw[aA hj,da,hj]
   ·rw[aw hj];by_cases dB:j<q
    ·rw[aA dB,da]
    ·rw[aw dB,dm]
  rw[br (by omega)];by_cases hx:e7 a c q∈cd (e7 a c) q
  ·refine bF (by rw[e1];simpa using hx) ?_;refine (mq hq).trans ?_;have e2:=Vb VX (e7 a c q) (.int .i64 0) (cd (e7 a c) q) 0 hx;rw[dL,←atS hq hx] at e2;rw[e2,V.toInt_int,Int.toNat_natCast,show (V.int .i64 (gr (e7 a c) a.n q:Int))=nV (gr (e7 a c) a.n q) from rfl,fin _ rfl,afu hx]
  ·refine bT (by rw[e1];simpa using hx) ?_;refine bT afF ?_;refine (mq hq).trans ?_;have e2:=Vc VX (e7 a c q) (cd (e7 a c) q) 0 hx;rw[dL] at e2;rw[HJ,e2,Int.toNat_natCast,←atT hq hx,show (V.int .i64 (gr (e7 a c) a.n q:Int))=nV (gr (e7 a c) a.n q) from rfl,fin _ rfl,afv hx]
 ·simp only[Om,Il,un,aP,bj];refine bF (aZ (az _)) ?_;rw[aZ (az _)];have:(tab a.n fun q=>if q<a.n then nV (gr (e7 a c) a.n q) else nV 0)=cV a.n (gr (e7 a c) a.n):=dg fun q hq=>aA hq;rw[this]
def oW (a:Da):Nat→Nat
 | 0=>1
 | i+1=>if a.fin i=a.fin 0 then oW a i else 2
def iX (a:Da) (q:Nat):Nat:=if a.fin q=a.fin 0 then 0 else 1
theorem aud:(cd (iX a) a.n).length=oW a a.n:=by
 have key: ∀m,(cd (iX a) (m+1)=[0]∧oW a (m+1)=1)∨(cd (iX a) (m+1)=[0,1]∧oW a (m+1)=2):=by
  intro m
  induction m with
  | zero=>left;simp[cd,di,iX,oW]
  | succ m ih=>
   rw[cd,oW];unfold iX di;by_cases hf:a.fin (m+1)=a.fin 0
   ·rw[aA hf,aA hf];rcases ih with ⟨i1,i2⟩|⟨i1,i2⟩
    ·left;refine ⟨?_,i2⟩;unfold iX at i1;rw[i1];rfl
    ·right;refine ⟨?_,i2⟩;unfold iX at i1;rw[i1];rfl
   ·rw[aw hf,aw hf];rcases ih with ⟨i1,i2⟩|⟨i1,i2⟩
    ·right;refine ⟨?_,rfl⟩;unfold iX at i1;rw[i1];rfl
    ·right;refine ⟨?_,rfl⟩;unfold iX at i1;rw[i1];rfl
 have hs:=h.s;obtain ⟨m,hm⟩: ∃m,a.n=m+1:=⟨a.n-1,by omega⟩
 rw[hm];rcases key m with ⟨e1,e2⟩|⟨e1,e2⟩<;>rw[e1,e2]<;>rfl
theorem aue {k2 k3:Int} {l2:List V}:Loop (Ob CC a.ec (a.ec.length:Int) k2 k3 a.ec l2) (1,0,List.replicate ((((a.ec.length:Nat):Int)).toNat) (V.int .i64 0))=some ((oW a a.n:Int),(a.n:Int),false,cV a.n (iX a)):=by
 have hm:=h.dy;have hs:=h.s;rw[Da.B3,Int.toNat_natCast,oK];refine (fH a.n (fun i=>((oW a i:Int),(i:Int),(tab a.n fun q=>if q<i then nV (iX a q) else nV 0))) _ (fun q hq=> ?_) ?_)
 ·simp only[Ob,Ij,un,aP,bj];refine bT (bm hq) ?_;refine bs (Da.U9 hq) ?_;refine bs (a:= .bool (a.fin 0)) (by unfold Da.ec;exact mj (by omega)) ?_;rw[br (by omega)];have fin:(tab a.n fun j=>if j<q then nV (iX a j) else nV 0).set q (nV (iX a q))=tab a.n fun j=>if j<q+1 then nV (iX a j) else nV 0:=by
   rw[lH];refine dg fun j _=> ?_;by_cases hj:j=q
   ·rw[aA hj,da,hj]
   ·rw[aw hj];by_cases dB:j<q
    ·rw[aA dB,da]
    ·rw[aw dB,dm]
  simp only[V.abC];by_cases hf:a.fin q=a.fin 0
  ·refine bF (by rw[hf];simp) ?_;have e:oW a (q+1)=oW a q:=by rw[oW,aA hf]
   have e2:(tab a.n fun j=>if j<q then nV (iX a j) else nV 0)=tab a.n fun j=>if j<q+1 then nV (iX a j) else nV 0:=dg fun j _=>by
    by_cases hj:j=q
    ·rw[dm,da,hj];unfold iX;rw[aA hf]
    ·by_cases dB:j<q
     ·rw[aA dB,da]
     ·rw[aw dB,dm]
   rw[e,e2]
  ·refine bT (by simpa using hf) ?_;refine (mq hq).trans ?_;have e:oW a (q+1)=2:=by rw[oW,aw hf]
   have e3:iX a q=1:=by unfold iX;rw[aw hf]
   rw[e3] at fin;rw[e,Int.toNat_natCast,show (V.int .i64 1)=nV 1 from rfl,fin];rfl
 ·simp only[Ob,Ij,un,aP,bj];refine bF (aZ (az _)) ?_;rw[aZ (az _)];have:(tab a.n fun q=>if q<a.n then nV (iX a q) else nV 0)=cV a.n (iX a):=dg fun q hq=>aA hq;rw[this]
theorem auf {k2 k3:Int} {l2:List V}: ∃p,Loop (Iv CC k2 k3 l2 a.eD) ((oW a a.n:Int),cV a.n (iX a))=some (cV a.n p)∧a.N8 p∧∀q,q<a.n→p q≤1000:=by
 have hm:=h.dy;have:=Kz (step:=Iv CC k2 k3 l2 a.eD)
  (fun x=> ∃c,x=(((cd c a.n).length:Int),cV a.n c)∧a.Part c∧∀q,q<a.n→c q≤1000)
  (fun x=>a.n-x.1.toNat)
  (fun r=> ∃p,r=cV a.n p∧a.N8 p∧∀q,q<a.n→p q≤1000) (fun x hx=> ?_) ((oW a a.n:Int),cV a.n (iX a)) ⟨iX a,by rw[aud h],⟨?_,?_⟩,?_⟩
 ·obtain ⟨r,h1,p,rfl,h2,h3⟩:=this;exact ⟨p,h1,h2,h3⟩
 ·obtain ⟨c,rfl,hp,hc⟩:=hx;have hl:(cV a.n c).length=a.n:=by simp[cV]
  have aug:a.VW c (gr (e7 a c) a.n):=fun q q' hq dD=>(afs hq dD).trans (VY h)
  have hle:=Ie (e7 a c) a.n;have hb: ∀q,q<a.n→gr (e7 a c) a.n q≤1000:=fun q hq=>by have:=VU (g:=e7 a c) hq;omega
  have VZ: ∀q q',q<a.n→q'<a.n→e7 a c q=e7 a c q'→c q=c q':=fun q q' hq dD e=>(Da.Ig.1 ((VY h).1 e)).1;have azz:=atV VZ;have cr:=auc h hc (k1:=((cd c a.n).length:Int)) (k2:=k2) (k3:=k3) (l2:=l2);by_cases he:(cd (e7 a c) a.n).length=(cd c a.n).length
  ·right;refine ⟨_,?_,gr (e7 a c) a.n,rfl,⟨fun q q' hq dD=> ?_,atU _ _⟩,hb⟩
   ·simp only[Iv,Iu,un];refine bT (by rw[hl];exact gD (by omega) (by omega)) ?_;refine bs cr ?_;refine bT (by rw[HJ];simp[he]) ?_;rfl
   ·have cS:=afx VZ (by omega);rw[afs hq dD,←hp.atW h (fun s s' hs vG e=>(VY h).1 (cS s s' hs vG e)) q q' hq dD];exact ⟨VZ q q' hq dD,cS q q' hq dD⟩
  ·left;have e2:(cd (gr (e7 a c) a.n) a.n).length=(cd (e7 a c) a.n).length:=by rw[afw _ _ _ (az _),jw]
   refine ⟨(((cd (e7 a c) a.n).length:Int),cV a.n (gr (e7 a c) a.n)),?_,⟨gr (e7 a c) a.n,by rw[e2],aug.part h hp,hb⟩,?_⟩
   ·simp only[Iv,Iu,un];refine bT (by rw[hl];exact gD (by omega) (by omega)) ?_;refine bs cr ?_;refine bF (by rw[HJ];simpa using fun e=>he (by omega)) ?_;rw[HJ]
   ·simp only[Int.toNat_natCast];omega
 ·intro q q' hq dD he;have:=he [] WL.nil;rw[Da.uy,Da.uy] at this;unfold iX;rw[this]
 ·intro q q' hq dD he;unfold iX at he;split at he<;>split at he
  ·rename_i h1 h2;rw[h1,h2]
  ·omega
  ·omega
  ·rename_i h1 h2;revert h1 h2;cases a.fin q<;>cases a.fin q'<;>cases a.fin 0<;>simp
 ·intro q _;unfold iX;split<;>omega
theorem auh: ∃p,CC MB (fI a)=some [.list ab (cV a.n p)]∧a.N8 p∧∀q,q<a.n→p q≤1000:=by
 have hm:=h.dy;obtain ⟨p,h1,h2,h3⟩:=auf h (k2:=(a.L:Int)) (k3:=(a.st:Int)) (l2:=a.ec);refine ⟨p,at7 ?_,h2,h3⟩;unfold afD;refine bs (sF h) ?_;refine bF rfl ?_;refine bT (by rw[Da.B3];exact gD (by omega) (by omega)) ?_;refine bs (aue h) ?_;refine bs h1 ?_;rfl
end
noncomputable def Ix (C:af) (q t29 t30:Int) (t47:LV) (t48 bG bU:Int) (gM gp:LV) (gX gY DN DO:Int) (places dV:LV) (DP DQ:Int) (aU bC cb cv gF jO:LV) (t49:Int) (rows:LV) {β:Type} (kn:(Int×LV)→Option β) (kr:(Int×Bool×LV)→Option β):Option β:=
 bif decide (t49<t48) then
  (idx t47 t49).bind fun x5=>
  bif (decide (0≤x5.toInt))&&(decide (x5.toInt<(dV.length:Int))) then
  (dV[(x5.toInt:Int).toNat]?).bind fun x6=>
  aP rows t49 fun x7=>
  kn (wrap .i64 (t49+1),bj rows t49 (V.int .i64 x6.toInt))
  else none
 else
  kr (t49,decide (t49<t48),rows)
noncomputable def Oo (C:af) (q t29 t30:Int) (t47:LV) (t48 bG bU:Int) (gM gp:LV) (gX gY DN DO:Int) (places dV:LV) (DP DQ:Int) (aU bC cb cv gF jO:LV):=un fun t49 rows=>Ix C q t29 t30 t47 t48 bG bU gM gp gX gY DN DO places dV DP DQ aU bC cb cv gF jO t49 rows (fun y=>some (Sum.inl y)) (fun r=>some (Sum.inr r))
noncomputable def Iy (C:af) (t29 bG bU:Int) (gM gp:LV) (gX gY DN DO:Int) (places dV:LV) (DP DQ:Int) (aF aU bC cb:LV) (t30:Int) (cv gF:LV) {β:Type} (kn:(Int×LV×LV)→Option β) (kr:(Int×Bool×LV×LV)→Option β):Option β:=
 bif decide (t30<t29) then
  aP dV t30 fun x3=>
  bif decide ((x3.toInt:Int)<(cv.length:Int)) then
  kn (wrap .i64 (t30+1),cv,gF)
  else
  bif (decide (0≤bG))&&((decide (bG≤bG))&&(Nat.ble ((bG.toNat)*8) ba)) then
   aP cb t30 fun x4=>
   (Loop (Oo C t30 t29 t30 x4.toList (x4.toList.length:Int) bG bU gM gp gX gY DN DO places dV DP DQ aF aU bC cb cv gF) (0,List.replicate (bG.toNat) (V.int .i64 0))).bind (un fun vr=>un fun (wg:Bool) (afG:LV)=>
    aP bC t30 fun p9=>
    bif Nat.ble ((cv.length+([.bool p9.toBool]:LV).length)*1) ba then
    bif Nat.ble ((gF.length+([.list ab afG]:LV).length)*24) ba then
     kn (wrap .i64 (t30+1),cv++([.bool p9.toBool]:LV),gF++([.list ab afG]:LV))
    else none
    else none)
  else none
 else
  kr (t30,decide (t30<t29),cv,gF)
noncomputable def Oq (C:af) (t29 bG bU:Int) (gM gp:LV) (gX gY DN DO:Int) (places dV:LV) (DP DQ:Int) (aF aU bC cb:LV):=un fun t30=>un fun cv gF=>Iy C t29 bG bU gM gp gX gY DN DO places dV DP DQ aF aU bC cb t30 cv gF (fun y=>some (Sum.inl y)) (fun r=>some (Sum.inr r))
noncomputable def Iz (C:af) (t88 gX gY:Int) (dV:LV) (eY eZ:Int) (numbers V0 aF aU bC cb:LV) (t89:Int) (uB:LV) {β:Type} (kn:(Int×LV)→Option β) (kr:(Int×Bool×LV)→Option β):Option β:=
 bif decide (t89<t88) then
  aP V0 t89 fun vp=>
  aP uB t89 fun K9=>
  bif decide ((vp.toInt:Int)≥0) then
  bif (decide (0≤vp.toInt))&&(decide (vp.toInt<(dV.length:Int))) then
   (dV[(vp.toInt:Int).toNat]?).bind fun DR=>
   bif (decide (0≤DR.toInt))&&(decide (DR.toInt<(numbers.length:Int))) then
   (numbers[(DR.toInt:Int).toNat]?).bind fun x20=>
   aP (bj uB t89 (V.int .i64 (-1))) t89 fun x21=>
   kn (wrap .i64 (t89+1),bj (bj uB t89 (V.int .i64 (-1))) t89 (V.int .i64 x20.toInt))
   else none
  else none
  else
  kn (wrap .i64 (t89+1),bj uB t89 (V.int .i64 (-1)))
 else
  kr (t89,decide (t89<t88),uB)
noncomputable def Ot (C:af) (t88 gX gY:Int) (dV:LV) (eY eZ:Int) (numbers V0 aF aU bC cb:LV):=un fun t89 uB=>Iz C t88 gX gY dV eY eZ numbers V0 aF aU bC cb t89 uB (fun y=>some (Sum.inl y)) (fun r=>some (Sum.inr r))
noncomputable def V1 (C:af):cN:=bL 161 TD [EQ,EQ,EQ,EQ,EQ,H1,EQ,EQ,EQ,EQ,EQ,EQ,EQ,EQ,EQ,EQ,EQ,EQ,H1,EQ,EQ,EQ,EQ,EQ,EQ] [[1,2,3,4,5,0,0,7,8,9,10,11,12,13,14,15,16,17,18,0,20,21,22,23,24,25]] (@Ix C) (bL 81 TE [EQ,H1,EQ,EQ,EQ,EQ,EQ,EQ,EQ,EQ,EQ,EQ,EQ,EQ,EQ,EQ,EQ,EQ,H1,H1] [[1,0,0,3,4,5,6,7,8,9,10,11,12,13,14,15,16,17,18,0,0]] (@Iy C) (bL 321 TF [EQ,H1,EQ,EQ,EQ,EQ,EQ,EQ,H1,EQ,EQ,EQ,EQ,EQ] [[1,0,0,3,4,5,6,7,8,0,10,11,12,13,14]] (@Iz C) bM))
theorem aui (C:af):bD C (V1 C) 29 (Lp [1,1,1,1,0,1,0,0,1,1,0,0,1,1,1,0,1,0,0] 29):=bN TD [EQ,EQ,EQ,EQ,EQ,H1,EQ,EQ,EQ,EQ,EQ,EQ,EQ,EQ,EQ,EQ,EQ,EQ,H1,EQ,EQ,EQ,EQ,EQ,EQ] [[1,2,3,4,5,0,0,7,8,9,10,11,12,13,14,15,16,17,18,0,20,21,22,23,24,25]] (@Ix C) (bA av)
theorem auj (C:af):bD C (V1 C) 29 (Lp [1,1,1,1,0,1,0,0] 29):=bN TE [EQ,H1,EQ,EQ,EQ,EQ,EQ,EQ,EQ,EQ,EQ,EQ,EQ,EQ,EQ,EQ,EQ,EQ,H1,H1] [[1,0,0,3,4,5,6,7,8,9,10,11,12,13,14,15,16,17,18,0,0]] (@Iy C) (bA (bE (aui C) av))
theorem auk (C:af):bD C (V1 C) 29 (Lp [1,1,1,1,1,1,1,0,1,0,0] 29):=bN TF [EQ,H1,EQ,EQ,EQ,EQ,EQ,EQ,H1,EQ,EQ,EQ,EQ,EQ] [[1,0,0,3,4,5,6,7,8,0,10,11,12,13,14]] (@Iz C) (bA av)
noncomputable def afH (C:af) (cw cJ:Int) (b9 cK:LV):Option LV:=
 (C CV [V.int .i64 cw,V.int .i64 cJ,.list ar b9,.list ag cK]).bind fun r1=>
 (C MB [V.int .i64 ((V.nth r1 0).toInt),V.int .i64 ((V.nth (r1.drop 1) 0).toInt),.list ar ((V.nth (r1.drop 2) 0).toList),.list ag ((V.nth ((r1.drop 2).drop 1) 0).toList)]).bind fun r2=>
 (Loop (Oq C (((V.nth r2 0).toList).length:Int) cw cJ b9 cK 0 0 ((V.nth r1 0).toInt) ((V.nth (r1.drop 1) 0).toInt) ((V.nth (((r1.drop 2).drop 1).drop 1) 0).toList) ((V.nth r2 0).toList) cw 0 ([]:LV) ([]:LV) ((V.nth (r1.drop 2) 0).toList) ((V.nth ((r1.drop 2).drop 1) 0).toList)) (0,([]:LV),([]:LV))).bind (un fun KZ=>un fun (B9:Bool)=>un fun (pH:LV) (vm:LV)=>
  (C CV [V.int .i64 cw,V.int .i64 0,.list ar pH,.list ag vm]).bind fun wj=>
  bif (decide (0≤(((V.nth (((r1.drop 2).drop 1).drop 1) 0).toList).length:Int)))&&((decide ((((V.nth (((r1.drop 2).drop 1).drop 1) 0).toList).length:Int)≤(((V.nth (((r1.drop 2).drop 1).drop 1) 0).toList).length:Int)))&&(Nat.ble ((((((V.nth (((r1.drop 2).drop 1).drop 1) 0).toList).length:Int):Int).toNat)*8) ba)) then
   (Loop (Ot C (((V.nth (((r1.drop 2).drop 1).drop 1) 0).toList).length:Int) 0 0 ((V.nth r2 0).toList) ((V.nth wj 0).toInt) ((V.nth (wj.drop 1) 0).toInt) ((V.nth (((wj.drop 2).drop 1).drop 1) 0).toList) ((V.nth (((r1.drop 2).drop 1).drop 1) 0).toList) ([]:LV) ([]:LV) ((V.nth (wj.drop 2) 0).toList) ((V.nth ((wj.drop 2).drop 1) 0).toList)) (0,List.replicate (((((V.nth (((r1.drop 2).drop 1).drop 1) 0).toList).length:Int):Int).toNat) (V.int .i64 0))).bind (un fun aul=>un fun (azA:Bool) (aum:LV)=>
    some [V.int .i64 ((V.nth wj 0).toInt),V.int .i64 ((V.nth (wj.drop 1) 0).toInt),.list ar ((V.nth (wj.drop 2) 0).toList),.list ag ((V.nth ((wj.drop 2).drop 1) 0).toList),.list ab aum])
  else none)
theorem aun {cw cJ:Int} {b9 cK:LV} {r:Option LV} (h:afH CC cw cJ b9 cK=r):CC MA [V.int .i64 cw,V.int .i64 cJ,.list ar b9,.list ag cK]=r:=bO (bE (auj CC) (bE (auk CC) av)) h
noncomputable def afI (C:af) (cw cJ:Int) (b9 cK:LV):Option LV:=
 (C sC [V.int .i64 cw,V.int .i64 cJ,.list ar b9,.list ag cK]).bind fun r1=>
 bif (((V.nth r1 0).toInt):Int) != 0 then
  some [V.int .i64 0,V.int .i64 0,.list ar ([]:LV),.list ag ([]:LV)]
 else
  (C MA [V.int .i64 cw,V.int .i64 cJ,.list ar b9,.list ag cK]).bind fun r2=>
  some [V.int .i64 ((V.nth r2 0).toInt),V.int .i64 ((V.nth (r2.drop 1) 0).toInt),.list ar ((V.nth (r2.drop 2) 0).toList),.list ag ((V.nth ((r2.drop 2).drop 1) 0).toList)]
theorem auo {cw cJ:Int} {b9 cK:LV} {r:Option LV} (h:afI CC cw cJ b9 cK=r):CC tJ [V.int .i64 cw,V.int .i64 cJ,.list ar b9,.list ag cK]=r:=bO (L:=bM) av h
theorem aup {p:Nat→Nat} {n:Nat} (h:Ap p n) (hn:0<n):p 0=0:=by
 simpa[cd,di] using h 1 (by omega)
theorem afJ {p:Nat→Nat} {n i:Nat} (h:Ap p n) (hi:i<n):p i∈cd p i↔p i<(Da.g9 p i).length:=by
 rw[Da.Ih];constructor
 ·intro hm;rw[h i (by omega)] at hm;simpa using hm
 ·intro hm;rw[h i (by omega)];simpa using hm
theorem auq (p:Nat→Nat) (n:Nat):(Da.g9 p n).length≤n:=by rw[Da.Ih];exact Ie p n
def qF (a:Da) (p:Nat→Nat) (i:Nat):List V:=(Da.g9 p i).map fun r=>V.bool (a.fin r)
def qN (a:Da) (p:Nat→Nat) (i:Nat):List V:=(Da.g9 p i).map fun r=>qP a.L fun x=>p (a.nx r x)
theorem aur {a:Da} {p:Nat→Nat}:(a.quo p).ec=qF a p a.n∧(a.quo p).eD=qN a p a.n:=by
 constructor
 ·unfold Da.ec qF;rw[Af _ 0,Da.ya];exact dg fun i hi=>by rw[Da.afy hi,cE hi]
 ·unfold Da.eD qN;rw[Af _ 0,Da.ya];refine dg fun i hi=> ?_;unfold qP;exact congrArg _ (dg fun x hx=>by rw[Da.afz hi hx,cE hi])
section
variable {a:Da} (h:a.Ok) {p:Nat→Nat}
include h
theorem aus {q:Nat} (hq:q<a.n) {k1 k2 k3 k4 k5 k6 k7 k8 k9 k10 k11:Int} {l1 l2 l3 l4 l5 l6 l7 l8 l9:List V}:
  Loop (Oo CC k1 k2 k3 (tab a.L fun x=>iV (a.nx q x)) ((tab a.L fun x=>iV (a.nx q x)).length:Int) k4 k5 l1 l2 k6 k7 k8 k9 l3 (cV a.n p) k10 k11 l4 l5 l6 l7 l8 l9) (0,List.replicate (((a.L:Nat):Int).toNat) (V.int .i64 0))=
   some ((a.L:Int),false,(tab a.L fun x=>nV (p (a.nx q x)))):=by
 have h6:=h.l6;rw[eW,Int.toNat_natCast,oK];refine (fH a.L (fun t=>((t:Int),(tab a.L fun x=>if x<t then nV (p (a.nx q x)) else nV 0))) _ (fun t ht=> ?_) ?_)
 ·simp only[Oo,Ix,un,aP,bj];refine bT (bm ht) ?_;refine bs (HI ht) ?_;refine (mq (i:=a.nx q t) (h.my hq ht)).trans ?_;refine (mq ht).trans ?_;rw[br (by omega),Int.toNat_natCast,lH];refine congrArg (fun x=>some (Sum.inl (((t+1:Nat):Int),x))) (dg fun j _=> ?_);by_cases hj:j=t
  ·rw[aA hj,da,hj];rfl
  ·rw[aw hj];by_cases dB:j<t
   ·rw[aA dB,da]
   ·rw[aw dB,dm]
 ·simp only[Oo,Ix,un,aP,bj];refine bF (aZ (az _)) ?_;rw[aZ (az _)];refine congrArg (fun x=>some (Sum.inr ((a.L:Int),false,x))) (dg fun j hj=>aA hj)
theorem aut (ho:Ap p a.n) {k3 k4 k5 k6 k7 k8 k9:Int} {l1 l2 l3 l4 l5:List V}:
  Loop (Oq CC ((cV a.n p).length:Int) (a.L:Int) k3 l1 l2 k4 k5 k6 k7 l3 (cV a.n p) k8 k9 l4 l5 a.ec a.eD) (0,([]:List V),([]:List V))=
   some ((a.n:Int),false,qF a p a.n,qN a p a.n):=by
 have h6:=h.l6;have hm:=h.dy;rw[show (cV a.n p).length=a.n by simp[cV]];refine (fH a.n (fun i=>((i:Int),qF a p i,qN a p i)) _ (fun q hq=> ?_) ?_)
 ·have hle:=auq p q;have hF:(qF a p q).length=(Da.g9 p q).length:=by simp[qF]
  have hN:(qN a p q).length=(Da.g9 p q).length:=by simp[qN]
  simp only[Oq,Iy,un,aP];refine bT (bm hq) ?_;refine (mq (i:=q) hq).trans ?_;rw[br (by omega)];simp only[nV,V.toInt_int];by_cases hx:p q∈cd p q
  ·refine bT (cg (by rw[hF];have:=(afJ ho hq).1 hx;omega)) ?_;unfold qF qN;rw[Da.g9,aA hx]
  ·refine bF (cX (by rw[hF];intro h2;exact hx ((afJ ho hq).2 (by omega)))) ?_;refine bT (gD (by omega) (by omega)) ?_;refine (mq (i:=q) hq).trans ?_;simp only[HH];refine bs (aus h hq) ?_;refine (mq (i:=q) hq).trans ?_;refine bT (cap (by rw[hF];simp;omega) (by omega)) ?_;refine bT (cap (by rw[hN];simp;omega) (by omega)) ?_;unfold qF qN;rw[Da.g9,aw hx,tk,tk];rfl
 ·simp only[Oq,Iy,un,aP];refine bF (aZ (az _)) ?_;rw[aZ (az _)]
end
def wk (U U':List Nat) (p:Nat→Nat) (q:Nat):V:=if q∈U then iV ((if p (U.idxOf q)∈U' then nV (U'.idxOf (p (U.idxOf q))) else V.int .i64 (-1)).toInt) else V.int .i64 (-1)
theorem auu {n m k:Nat} {U U':List Nat} {p:Nat→Nat} (hn:n≤512) (hU:U.length≤m) (hp: ∀q,q<m→p q<k) {k1 k2 k3 k4:Int} {l1 l2 l3 l4:List V}:
  ∃X,Loop (Ot CC ((oT U n).length:Int) k1 k2 (cV m p) k3 k4 (oT U' k) (oT U n) l1 l2 l3 l4) (0,List.replicate ((((oT U n).length:Int):Int).toNat) (V.int .i64 0))=some ((n:Int),false,X):=by
 rw[show (oT U n).length=n by simp[oT],Int.toNat_natCast,oK];refine ⟨tab n fun q=>if q<n then wk U U' p q else V.int .i64 0,fH n (fun i=>((i:Int),(tab n fun q=>if q<i then wk U U' p q else V.int .i64 0))) _ (fun q hq=> ?_) ?_⟩
 ·simp only[Ot,Iz,un,aP,bj];refine bT (bm hq) ?_;refine (mq (i:=q) hq).trans ?_;refine (mq (i:=q) hq).trans ?_;rw[br (by omega)];have fin: ∀v,v=wk U U' p q→((tab n fun j=>if j<q then wk U U' p j else V.int .i64 0).set q v)=tab n fun j=>if j<q+1 then wk U U' p j else V.int .i64 0:=by
   rintro v rfl;rw[lH];refine dg fun j _=> ?_;by_cases hj:j=q
   ·rw[aA hj,aA (show j<q+1 by omega),hj]
   ·rw[aw hj];by_cases dB:j<q
    ·rw[aA dB,aA (show j<q+1 by omega)]
    ·rw[aw dB,aw (show¬j<q+1 by omega)]
  by_cases hx:q∈U
  ·have es:wk U U' p q=iV ((if p (U.idxOf q)∈U' then nV (U'.idxOf (p (U.idxOf q))) else V.int .i64 (-1)).toInt):=by unfold wk;rw[aA hx]
   have hi:=wG hx;rw[aA hx];refine bT (cg (by simp only[nV,V.toInt_int];omega)) ?_;simp only[nV,V.toInt_int];refine (mq (i:=U.idxOf q) (by omega)).trans ?_;simp only[nV,V.toInt_int];refine (mq (i:=p (U.idxOf q)) (hp _ (by omega))).trans ?_;refine bT (by rw[o4,eW];exact oJ hq) ?_;refine bs (a:= .int .i64 (-1)) (by rw[Int.toNat_natCast,D9];simp[hq]) ?_;rw[Int.toNat_natCast,AZ,←fin _ es.symm]
  ·rw[aw hx];refine bF (cX (by simp)) ?_;rw[Int.toNat_natCast,←fin _ (show V.int .i64 (-1)=wk U U' p q by unfold wk;rw[aw hx])]
 ·simp only[Ot,Iz,un,aP,bj];refine bF (aZ (az _)) ?_;rw[aZ (az _)]
theorem Canon.congr {m:Da} {L:Nat} {K K':List Nat→Bool} (h:m.Canon L K) (e: ∀w,WL L w→K w=K' w):m.Canon L K':=⟨h.ok,h.hL,h.st,h.num,h.red,fun w hw=>(h.Dw w hw).trans (e w hw)⟩
theorem auv {a:Da} (h:a.Ok): ∃m X,CC MA (fI a)=some (fI m++[.list ab X])∧m.Canon a.L (a.acc a.st):=by
 have ht:=h.aeD;have hm:=h.dy;have hle:=h.wb a.n;have e3:a.trim.n=(aI a.L a.nx a.st a.n).length:=uz;obtain ⟨p,c1,c2,c3⟩:=auh ht;have hq:=Da.afA ht c2;obtain ⟨q1,q2⟩:=aur (a:=a.trim) (p:=p);have auw:=Da.atY ht c2;have cS:(a.trim.quo p).st=0:=aup c2.2 ht.s;have p7:=ae3 hq;obtain ⟨X,hX⟩:=auu (n:=a.n) (m:=a.trim.n) (k:=(a.trim.quo p).n) (U:=aI a.L a.nx a.st a.n) (U':=aI (a.trim.quo p).L (a.trim.quo p).nx (a.trim.quo p).st (a.trim.quo p).n) (p:=p) hm (by omega) (fun q hq=>by rw[Da.ya];exact Da.Ii c2.2 hq) (k1:=0) (k2:=0) (k3:=((a.trim.quo p).trim.L:Int)) (k4:=((a.trim.quo p).trim.st:Int)) (l1:=[]) (l2:=[]) (l3:=(a.trim.quo p).trim.ec) (l4:=(a.trim.quo p).trim.eD);refine ⟨(a.trim.quo p).trim,X,aun ?_,Canon.congr auw fun w hw=>h.aeE hw⟩;unfold afH;refine bs (ae3 h) ?_;refine bs c1 ?_;refine bs (aut ht c2.2) ?_;simp only[un];rw[←q1,←q2];have auy:CC CV [.int .i64 (a.L:Int),.int .i64 0,.list ar (a.trim.quo p).ec,.list ag (a.trim.quo p).eD]=some (fI (a.trim.quo p).trim++[.list ab (oT (aI (a.trim.quo p).L (a.trim.quo p).nx (a.trim.quo p).st (a.trim.quo p).n) (a.trim.quo p).n)]):=by
  rw[←p7];unfold fI rC;rw[cS];rfl
 refine bs auy ?_;have e0:(oT (aI a.L a.nx a.st a.n) a.n).length=a.n:=by simp[oT]
 refine bT (show ((decide (0≤((oT (aI a.L a.nx a.st a.n) a.n).length:Int)))&&((decide (((oT (aI a.L a.nx a.st a.n) a.n).length:Int)≤((oT (aI a.L a.nx a.st a.n) a.n).length:Int)))&&(Nat.ble (((((oT (aI a.L a.nx a.st a.n) a.n).length:Nat):Int).toNat)*8) ba)))=true from gD (by rw[e0];omega) (by omega)) ?_;refine bs hX ?_;rfl
theorem afK {a:Da} (h:a.Ok): ∃m,CC tJ (fI a)=some (fI m)∧m.Canon a.L (a.acc a.st):=by
 obtain ⟨m,X,h1,h2⟩:=auv h;refine ⟨m,auo ?_,h2⟩;unfold afI;refine bs (sF h) ?_;refine bF rfl ?_;refine bs h1 ?_;rfl
open Classical in
noncomputable def minD (a:Da):Da:=if h: ∃m:Da,m.Canon a.L (a.acc a.st) then Classical.choose h else a
theorem vi {a:Da} (h:a.Ok):(minD a).Canon a.L (a.acc a.st):=by
 obtain ⟨m,_,h2⟩:=afK h;have: ∃m:Da,m.Canon a.L (a.acc a.st):=⟨m,h2⟩
 unfold minD;rw[wv this];exact D3 this
theorem afL {a m:Da} (h:a.Ok) (hm:m.Canon a.L (a.acc a.st)):m=minD a:=hm.eq (vi h)
theorem yU {a:Da} (h:a.Ok):CC tJ (fI a)=some (fI (minD a)):=by
 obtain ⟨m,h1,h2⟩:=afK h;rw[h1,afL h h2]
noncomputable def IA (C:af) (n a t33 t34 t37 ss eY eZ:Int) (fh e8:LV) (t38:Int) (aO:LV) {β:Type} (kn:(Int×LV)→Option β) (kr:(Int×Bool×LV)→Option β):Option β:=
 bif decide (t38<t37) then
  aP aO a fun x1=>
  (idx e8 t38).bind fun x2=>
  (idx x2.toList a).bind fun x3=>
  (aO[a.toNat]?).bind fun x4=>
  bif Nat.ble ((x4.toList.length+([V.int .i64 (wrap .i64 (ss+x3.toInt))]:LV).length)*8) ba then
  BR aO a <|
  bif (Nat.beq (a.toNat) (a.toNat))&&true then
   kn (wrap .i64 (t38+1),bj aO a (.list ab (x4.toList++([V.int .i64 (wrap .i64 (ss+x3.toInt))]:LV))))
  else none
  else none
 else
  kr (t38,decide (t38<t37),aO)
noncomputable def Ou (C:af) (n a t33 t34 t37 ss eY eZ:Int) (fh e8:LV):=un fun t38 aO=>IA C n a t33 t34 t37 ss eY eZ fh e8 t38 aO (fun y=>some (Sum.inl y)) (fun r=>some (Sum.inr r))
noncomputable def IB (C:af) (n t33 ss eY eZ:Int) (fh e8:LV) (t34:Int) (aO:LV) {β:Type} (kn:(Int×LV)→Option β) (kr:(Int×Bool×LV)→Option β):Option β:=
 bif decide (t34<t33) then
  (Loop (Ou C n t34 t33 t34 n ss eY eZ fh e8) (0,aO)).bind (un fun lF=>un fun (jY:Bool) (Ic:LV)=>
   kn (wrap .i64 (t34+1),Ic))
 else
  kr (t34,decide (t34<t33),aO)
noncomputable def Ov (C:af) (n t33 ss eY eZ:Int) (fh e8:LV):=un fun t34 aO=>IB C n t33 ss eY eZ fh e8 t34 aO (fun y=>some (Sum.inl y)) (fun r=>some (Sum.inr r))
noncomputable def afM (C:af):cN:=bL 161 TO [EQ,EQ,EQ,EQ,EQ,H1,EQ,EQ,EQ,EQ,EQ,H1] [[1,2,3,4,5,0,0,7,8,9,10,11,0]] (@IA C) (bL 113 TP [EQ,EQ,H1,EQ,EQ,EQ,EQ,EQ,H1] [[1,2,0,0,4,5,6,7,8,0]] (@IB C) bM)
theorem auz (C:af):bD C (afM C) 48 (Lp [1,1,1,1,0,1,0,0,1,1,0,0,1,1,0,0] 48):=bN TO [EQ,EQ,EQ,EQ,EQ,H1,EQ,EQ,EQ,EQ,EQ,H1] [[1,2,3,4,5,0,0,7,8,9,10,11,0]] (@IA C) (bA av)
theorem auA (C:af):bD C (afM C) 48 (Lp [1,1,1,1,0,1,0,0] 48):=bN TP [EQ,EQ,H1,EQ,EQ,EQ,EQ,EQ,H1] [[1,2,0,0,4,5,6,7,8,0]] (@IB C) (bA (bE (auz C) av))
noncomputable def afN (C:af) (uE DS:Int) (wm Ow:LV) (ss:Int):Option LV:=
 bif decide (((wrap .i64 (ss+(wm.length:Int))):Int)>32) then
  some [V.int .i64 3,V.int .i64 ss,.list ag ([]:LV),.list lg ([]:LV)]
 else
  bif (decide (0≤uE))&&((decide (uE≤uE))&&(Nat.ble ((uE.toNat)*24) ba)) then
  (Loop (Ov C (wm.length:Int) ((List.replicate (uE.toNat) (V.list ab ([]:LV))).length:Int) ss uE DS wm Ow) (0,List.replicate (uE.toNat) (V.list ab ([]:LV)))).bind (un fun vr=>un fun (wg:Bool) (qM:LV)=>
   bif Nat.ble (([.agg [V.int .i64 (wrap .i64 (ss+DS)),.list ar wm,V.int .i64 ss]]:LV).length*40) ba then
    some [V.int .i64 0,V.int .i64 (wrap .i64 (ss+(wm.length:Int))),.list ag qM,.list lg ([.agg [V.int .i64 (wrap .i64 (ss+DS)),.list ar wm,V.int .i64 ss]]:LV)]
   else none)
  else none
theorem auB {uE DS:Int} {wm Ow:LV} {ss:Int} {r:Option LV} (h:afN CC uE DS wm Ow ss=r):CC MC [V.int .i64 uE,V.int .i64 DS,.list ar wm,.list ag Ow,V.int .i64 ss]=r:=bO (bE (auA CC) av) h
noncomputable def afO (C:af) (Ox:Int) (Oy:LV) (Oz:Int) (f:LV):Option LV:=
 (idx f Ox).bind fun x1=>
 (idx Oy (wrap .i64 (x1.toInt-Oz))).bind fun x2=>
 some [.bool x2.toBool]
theorem auC {Ox:Int} {Oy:LV} {Oz:Int} {f:LV} {r:Option LV} (h:afO CC Ox Oy Oz f=r):CC MH [V.int .i64 Ox,.list ar Oy,V.int .i64 Oz,.list ab f]=r:=bO (L:=bM) av h
section
variable {a:LV} {i:Nat} {l l':LV}
theorem auD:Tryz.prog.underlying ag=some (.slice ab):=by kernel_rfl
theorem afP:b8 Tryz.prog ag=false:=by kernel_rfl
theorem afQ:parts Tryz.prog ag (.list ab l)=[.list ab l]:=by
 unfold parts;rw[afP];simp only[cond_false,ik,auD,V.eB]
theorem qu (h:a[i]? =some (.list ab l)):fl Tryz.prog ag a [(i,0)]=some (.list ab l):=by
 simp only[fl,h,Option.bind_some,afQ];rfl
theorem FO (h:a[i]? =some (.list ab l)):setRow Tryz.prog l' ag a [(i,0)]=a.set i (.list ab l'):=by
 simp only[setRow,h,afQ];simp only[List.getElem?_cons_zero,List.set_cons_zero,dA,afP,cond_false,V.Sk]
theorem auE:Tryz.prog.underlying ou=some (.slice ar):=by kernel_rfl
theorem afR:b8 Tryz.prog ou=false:=by kernel_rfl
theorem afS:parts Tryz.prog ou (.list ar l)=[.list ar l]:=by
 unfold parts;rw[afR];simp only[cond_false,ik,auE,V.eB]
theorem afT (h:a[i]? =some (.list ar l)):fl Tryz.prog ou a [(i,0)]=some (.list ar l):=by
 simp only[fl,h,Option.bind_some,afS];rfl
theorem auF (h:a[i]? =some (.list ar l)):setRow Tryz.prog l' ou a [(i,0)]=a.set i (.list ar l'):=by
 simp only[setRow,h,afS];simp only[List.getElem?_cons_zero,List.set_cons_zero,dA,afR,cond_false,V.Sk]
end
def Da.gT (m:Da) (x:Nat):List Nat:=(List.range m.n).map fun q=>m.nx q x
theorem Da.Ok.gT {m:Da} (h:m.Ok) {x:Nat} (hx:x<m.L):Tr m.n (m.gT x):=by
 refine ⟨by simp[Da.gT],fun y hy=> ?_⟩;obtain ⟨q,hq,rfl⟩:=iB.1 hy;exact h.my (fQ.1 hq) hx
theorem auG {m:Da} {x:Nat}:nS (m.gT x)=tab m.n fun q=>nV (m.nx q x):=by
 unfold Da.gT nS;rw[wB];rfl
def ti (m:Da):LV:=[.agg [.int .i64 (m.st:Int),.list ar m.ec,.int .i64 0]]
section
variable {m:Da} (h:m.Ok) (mn:m.n≤32)
include h mn
theorem auH {a:Nat} (ha:a<m.L) {k1 k2:Int}:Loop (Ou CC (m.n:Int) (a:Int) k1 k2 (m.n:Int) 0 (m.L:Int) (m.st:Int) m.ec m.eD) (0,tab m.L fun j=>if j<a then tV (m.gT j) else .list ab [])=some ((m.n:Int),false,tab m.L fun j=>if j<a+1 then tV (m.gT j) else .list ab []):=by
 have hl6:=h.l6;have cS: ∀{q:Nat} {l:LV},(tab m.L fun j=>if j<a then tV (m.gT j) else if j=a then .list ab l else .list ab [])[a]? =some (.list ab l):=fun {q l}=>by rw[mj ha,dm,da]
 refine (fH m.n (fun q=>((q:Int),(tab m.L fun j=>if j<a then tV (m.gT j) else if j=a then .list ab (tab q fun p=>nV (m.nx p a)) else .list ab []))) _ (fun q hq=> ?_) ?_) |> fun e=>by
  rw[show (tab m.L fun j=>if j<a then tV (m.gT j) else .list ab [])=tab m.L fun j=>if j<a then tV (m.gT j) else if j=a then .list ab (tab 0 fun p=>nV (m.nx p a)) else .list ab [] from dg fun j _=>by
   by_cases c:j<a
   ·rw[aA c,aA c]
   ·rw[aw c,aw c];split<;>rfl]
  exact e
 ·simp only[Ou,IA,un,aP,BR,bj];have e1:=cS (q:=q) (l:=tab q fun p=>nV (m.nx p a));have e2:a<(tab m.L fun j=>if j<a then tV (m.gT j) else if j=a then .list ab (tab q fun p=>nV (m.nx p a)) else V.list ab []).length:=by simpa using ha
  have Gc:=h.my hq ha;refine bT (bm hq) ((ca e1).trans (bs (Da.NK hq) ?_));rw[HH];refine bs (HI ha) (bs (by rw[Int.toNat_natCast];exact e1) (bT (cap (by simp;omega) (by omega)) (bT (oJ e2) (bT (by simp) ?_))));rw[br (by omega),show wrap .i64 (0+(iV (m.nx q a)).toInt)=((m.nx q a:Nat):Int) from by show wrap .i64 (0+((m.nx q a:Nat):Int))=_;rw[rD]<;>omega,Int.toNat_natCast,lH];refine congrArg (fun t=>some (Sum.inl (((q+1:Nat):Int),t))) (dg fun j _=> ?_);by_cases c:j=a
  ·subst c;rw[da,dm,da,V.eB,NH];rfl
  ·rw[aw c];by_cases c2:j<a
   ·rw[da,da]
   ·rw[dm,aw c,dm,aw c]
 ·simp only[Ou,IA,un];refine bF (aZ (az _)) ?_;rw[aZ (az _)];refine congrArg (fun t=>some (Sum.inr ((m.n:Int),false,t))) (dg fun j _=> ?_);by_cases c:j=a
  ·subst c;rw[dm,da,da];unfold tV;rw[auG]
  ·by_cases c2:j<a
   ·rw[da,da]
   ·rw[dm,aw c,dm]
theorem afU:CC MC (rC m [.int .i64 0])=some [.int .i64 0,.int .i64 (m.n:Int),.list ag (gV m.L m.gT),.list lg (ti m)]:=by
 have hl6:=h.l6;have hs:=h.s;refine auB ?_;unfold afN;rw[Da.B3,show wrap .i64 (0+(m.n:Int))=(m.n:Int) from by rw[rD]<;>omega];refine bF (cX (by omega)) (bT (gD (by omega) (by omega)) ?_);rw[Int.toNat_natCast,yd];have l2:Loop (Ov CC (m.n:Int) (m.L:Int) 0 (m.L:Int) (m.st:Int) m.ec m.eD) (0,List.replicate m.L (V.list ab ([]:LV)))=some ((m.L:Int),false,gV m.L m.gT):=by
  rw[oK];refine (fH m.L (fun a=>((a:Int),(tab m.L fun j=>if j<a then tV (m.gT j) else .list ab []))) _ (fun a ha=> ?_) ?_)
  ·simp only[Ov,IB,un];refine bT (bm ha) (bs (auH h mn ha) ?_);rw[br (by omega)];rfl
  ·simp only[Ov,IB,un];refine bF (aZ (az _)) ?_;rw[aZ (az _)];exact congrArg (fun t=>some (Sum.inr ((m.L:Int),false,t))) (dg fun j hj=>aA hj)
 rw[show wrap .i64 (0+(m.st:Int))=(m.st:Int) from by rw[rD]<;>omega];exact bs l2 rfl
theorem auI {f:List Nat} (hf:Tr m.n f):CC MH [.int .i64 (m.st:Int),.list ar m.ec,.int .i64 0,.list ab (nS f)]=some [.bool (m.fin (f.getD m.st 0))]:=by
 have hs:=h.s;have vG:m.st<f.length:=by rw[hf.1];exact hs
 have h2:=hf.at vG;refine auC ?_;unfold afO;refine bs (iE vG) ?_;rw[show wrap .i64 ((nV f[m.st]).toInt-0)=((f[m.st]:Nat):Int) from by show wrap .i64 (((f[m.st]:Nat):Int)-0)=_;rw[rD]<;>omega,cE vG];exact bs (Da.U9 h2) rfl
end
noncomputable def IC (C:af) (t t13:LV) (t14 t15:Int) (t24:LV) (t25 t26:Int) {β:Type} (kn:Int→Option β) (kr:((Int) ⊕ (Int×Bool))→Option β):Option β:=
 bif decide (t26<t25) then
  (idx t24 t26).bind fun x2=>
  bif decide ((x2.toInt:Int)<0) then
  kr (.inl 4)
  else
  bif decide ((x2.toInt:Int)≥(t.length:Int)) then
   kr (.inl 4)
  else
   kn (wrap .i64 (t26+1))
 else
  kr (.inr (t26,decide (t26<t25)))
noncomputable def V2 (C:af) (t t13:LV) (t14 t15:Int) (t24:LV) (t25:Int):=fun t26=>IC C t t13 t14 t15 t24 t25 t26 (fun y=>some (Sum.inl y)) (fun r=>some (Sum.inr r))
noncomputable def ID (C:af) (t t13:LV) (t14 t15:Int) {β:Type} (kn:Int→Option β) (kr:((Int) ⊕ (Int×Bool))→Option β):Option β:=
 bif decide (t15<t14) then
  (idx t13 t15).bind fun x1=>
  bif (x1.toList.length:Int) != (t.length:Int) then
  kr (.inl 4)
  else
  (Loop (V2 C t t13 t14 t15 x1.toList (x1.toList.length:Int)) 0).bind (fJ (fun jN=>
   kr (.inl jN)) (un fun (mf:Int) (lF:Bool)=>
   kn (wrap .i64 (t15+1))))
 else
  kr (.inr (t15,decide (t15<t14)))
noncomputable def V3 (C:af) (t t13:LV) (t14:Int):=fun t15=>ID C t t13 t14 t15 (fun y=>some (Sum.inl y)) (fun r=>some (Sum.inr r))
noncomputable def afV (C:af):cN:=bL 177 UC [EQ,EQ,EQ,EQ,EQ,EQ,H1] [[0],[1,2,3,4,5,6,0,0]] (@IC C) (bL 97 UD [EQ,EQ,EQ,H1] [[0],[1,2,3,0,0]] (@ID C) bM)
theorem auJ (C:af):bD C (afV C) 145 (Lp [1,1,1,0,1,0,0,1,1,0,0,1,1,1,0,0] 145):=bN UC [EQ,EQ,EQ,EQ,EQ,EQ,H1] [[0],[1,2,3,4,5,6,0,0]] (@IC C) (bA av)
theorem auK (C:af):bD C (afV C) 145 (Lp [1,1,1,0,1,0,0] 145):=bN UD [EQ,EQ,EQ,H1] [[0],[1,2,3,0,0]] (@ID C) (bA (bE (auJ C) av))
noncomputable def afW (C:af) (t:LV):Option LV:=
 bif decide ((t.length:Int)>400) then
  some [V.int .i64 3]
 else
  bif (t.length:Int)==0 then
  some [V.int .i64 4]
  else
  (Loop (V3 C t t (t.length:Int)) 0).bind (fJ (fun jY=>
   some [V.int .i64 jY]) (un fun (nu:Int) (vr:Bool)=>
   some [V.int .i64 0]))
theorem auL {t:LV} {r:Option LV} (h:afW CC t=r):CC MR [.list ag t]=r:=bO (bE (auK CC) av) h
noncomputable def IE (C:af) (t:LV) (g:Int) (row left t16:LV) (t17 t18:Int) (t29:LV) (t30 t31:Int) (t45:LV) (t46:Int) (nP:LV) (t47:Int) {β:Type} (kn:Int→Option β) (kr:((Bool) ⊕ (Int×Bool))→Option β):Option β:=
 bif decide (t47<t46) then
  (idx t45 t47).bind fun x8=>
  (idx left t47).bind fun x9=>
  (idx row x8.toInt).bind fun oj=>
  bif (x9.toInt:Int) != oj.toInt then
  kr (.inl false)
  else
  kn (wrap .i64 (t47+1))
 else
  kr (.inr (t47,decide (t47<t46)))
noncomputable def V4 (C:af) (t:LV) (g:Int) (row left t16:LV) (t17 t18:Int) (t29:LV) (t30 t31:Int) (t45:LV) (t46:Int) (nP:LV):=fun t47=>IE C t g row left t16 t17 t18 t29 t30 t31 t45 t46 nP t47 (fun y=>some (Sum.inl y)) (fun r=>some (Sum.inr r))
noncomputable def IF (C:af) (t:LV) (g:Int) (t16:LV) (t17 t18:Int) (t29:LV) (t30:Int) (nP:LV) (t31:Int) {β:Type} (kn:Int→Option β) (kr:((Bool) ⊕ (Int×Bool))→Option β):Option β:=
 bif decide (t31<t30) then
  (idx t29 t31).bind fun x4=>
  (idx x4.toList g).bind fun x5=>
  (idx t x5.toInt).bind fun x6=>
  (idx t g).bind fun x7=>
  (Loop (V4 C t g x4.toList x6.toList t16 t17 t18 t29 t30 t31 x7.toList (x7.toList.length:Int) nP) 0).bind (fJ (fun (yV:Bool)=>
   kr (.inl yV)) (un fun (KZ:Int) (B9:Bool)=>
   kn (wrap .i64 (t31+1))))
 else
  kr (.inr (t31,decide (t31<t30)))
noncomputable def OA (C:af) (t:LV) (g:Int) (t16:LV) (t17 t18:Int) (t29:LV) (t30:Int) (nP:LV):=fun t31=>IF C t g t16 t17 t18 t29 t30 nP t31 (fun y=>some (Sum.inl y)) (fun r=>some (Sum.inr r))
noncomputable def IG (C:af) (t t16:LV) (t17 t18:Int) (nP:LV) {β:Type} (kn:(Int×LV)→Option β) (kr:((Bool) ⊕ (Int×Bool×LV))→Option β):Option β:=
 bif decide (t18<t17) then
  (idx t16 t18).bind fun x1=>
  bif (decide (0≤x1.toInt))&&(decide (x1.toInt<(nP.length:Int))) then
  (nP[(x1.toInt:Int).toNat]?).bind fun x2=>
  bif x2.toBool then
   kn (wrap .i64 (t18+1),nP)
  else
   bif (decide (0≤x1.toInt))&&(decide (x1.toInt<(nP.length:Int))) then
   (nP[(x1.toInt:Int).toNat]?).bind fun x3=>
   (Loop (OA C t x1.toInt t16 t17 t18 t (t.length:Int) (bj nP (x1.toInt) (.bool true))) 0).bind (fJ (fun (vo:Bool)=>
    kr (.inl vo)) (un fun (B6:Int) (xp:Bool)=>
    kn (wrap .i64 (t18+1),bj nP (x1.toInt) (.bool true))))
   else none
  else none
 else
  kr (.inr (t18,decide (t18<t17),nP))
noncomputable def OB (C:af) (t t16:LV) (t17:Int):=un fun t18 nP=>IG C t t16 t17 t18 nP (fun y=>some (Sum.inl y)) (fun r=>some (Sum.inr r))
noncomputable def V5 (C:af):cN:=bL 193 UE [EQ,EQ,EQ,EQ,EQ,EQ,EQ,EQ,EQ,EQ,EQ,EQ,H1,EQ] [[0],[1,2,3,4,5,6,7,8,9,10,11,12,0,0,14]] (@IE C) (bL 129 UF [EQ,EQ,EQ,EQ,EQ,EQ,EQ,H1,EQ] [[0],[1,2,3,4,5,6,7,0,0,9]] (@IF C) (bL 49 UG [EQ,EQ,EQ,H1,H1] [[0],[1,2,3,0,0,0]] (@IG C) bM))
theorem auM (C:af):bD C (V5 C) 146 (Lp [1,1,0,1,0,0,1,1,0,0,1,1,1,1,0,0,1,1,0,0,1,1,1,0,0] 146):=bN UE [EQ,EQ,EQ,EQ,EQ,EQ,EQ,EQ,EQ,EQ,EQ,EQ,H1,EQ] [[0],[1,2,3,4,5,6,7,8,9,10,11,12,0,0,14]] (@IE C) (bA av)
theorem auN (C:af):bD C (V5 C) 146 (Lp [1,1,0,1,0,0,1,1,0,0,1,1,1,1,0,0] 146):=bN UF [EQ,EQ,EQ,EQ,EQ,EQ,EQ,H1,EQ] [[0],[1,2,3,4,5,6,7,0,0,9]] (@IF C) (bA (bE (auM C) av))
theorem auO (C:af):bD C (V5 C) 146 (Lp [1,1,0,1,0,0] 146):=bN UG [EQ,EQ,EQ,H1,H1] [[0],[1,2,3,0,0,0]] (@IG C) (bA (bE (auN C) av))
noncomputable def afX (C:af) (t mz:LV):Option LV:=
 bif (decide (0≤(t.length:Int)))&&((decide ((t.length:Int)≤(t.length:Int)))&&(Nat.ble (((t.length:Int).toNat)*1) ba)) then
  (Loop (OB C t mz (mz.length:Int)) (0,List.replicate ((t.length:Int).toNat) (V.bool false))).bind (fJ (fun (F9:Bool)=>
   some [.bool F9]) (un fun V6=>un fun (V7:Bool) (azB:LV)=>
   some [.bool true]))
 else none
theorem auP {t mz:LV} {r:Option LV} (h:afX CC t mz=r):CC MS [.list ag t,.list ab mz]=r:=bO (bE (auO CC) av) h
noncomputable def afY (C:af) (x:Int) (aO aQ:LV):Option LV:=
 aP aO x fun x1=>
 bif !x1.toBool then
  aP aO x fun x2=>
  bif Nat.ble ((aQ.length+([V.int .i64 x]:LV).length)*8) ba then
  some [.list ar (bj aO x (.bool true)),.list ab (aQ++([V.int .i64 x]:LV))]
  else none
 else
  some [.list ar aO,.list ab aQ]
theorem auQ {x:Int} {aO aQ:LV} {r:Option LV} (h:afY CC x aO aQ=r):CC rL [V.int .i64 x,.list ar aO,.list ab aQ]=r:=bO (L:=bM) av h
noncomputable def IH (C:af) (t:LV) (lk x t17 t18:Int) (t45:LV) (t46:Int) (qa:LV) (t47:Int) (aQ aV:LV) {β:Type} (kn:(Int×LV×LV)→Option β) (kr:(Int×Bool×LV×LV)→Option β):Option β:=
 bif decide (t47<t46) then
  (idx t45 t47).bind fun x4=>
  (idx t x).bind fun x5=>
  (idx x5.toList x4.toInt).bind fun x6=>
  (C rL [V.int .i64 x6.toInt,.list ar aQ,.list ab aV]).bind fun r7=>
  (idx t x4.toInt).bind fun x8=>
  (idx x8.toList x).bind fun x9=>
  (C rL [V.int .i64 x9.toInt,.list ar ((V.nth r7 0).toList),.list ab ((V.nth (r7.drop 1) 0).toList)]).bind fun ff=>
  kn (wrap .i64 (t47+1),(V.nth ff 0).toList,(V.nth (ff.drop 1) 0).toList)
 else
  kr (t47,decide (t47<t46),aQ,aV)
noncomputable def II (C:af) (t:LV) (lk x t17 t18:Int) (t45:LV) (t46:Int) (qa:LV):=un fun t47=>un fun aQ aV=>IH C t lk x t17 t18 t45 t46 qa t47 aQ aV (fun y=>some (Sum.inl y)) (fun r=>some (Sum.inr r))
noncomputable def OC (C:af) (t:LV) (t17 t18:Int) (qa:LV) (lk:Int) (aQ aV:LV) {β:Type} (kn:(Int×LV×LV)→Option β) (kr:(Int×Bool×LV×LV)→Option β):Option β:=
 bif decide (lk<(aV.length:Int)) then
  aP aV lk fun x3=>
  bif (decide (0≤(wrap .i64 (lk+1))))&&(decide ((wrap .i64 (lk+1))≤(aV.length:Int))) then
  (Loop (II C t lk x3.toInt t17 t18 ((aV.drop 0).take (((wrap .i64 (lk+1):Int).toNat)-0)) (((wrap .i64 (lk+1):Int).toNat)-0:Int) qa) (0,aQ,aV)).bind (un fun yV=>un fun (KZ:Bool)=>un fun (DF:LV) (pH:LV)=>
   kn (wrap .i64 (lk+1),DF,pH))
  else none
 else
  kr (lk,decide (lk<(aV.length:Int)),aQ,aV)
noncomputable def OD (C:af) (t:LV) (t17 t18:Int) (qa:LV):=un fun lk=>un fun aQ aV=>OC C t t17 t18 qa lk aQ aV (fun y=>some (Sum.inl y)) (fun r=>some (Sum.inr r))
noncomputable def IJ (C:af) (t:LV) (t17 lk t18:Int) (qa aQ aV:LV) {β:Type} (kn:(Int×Int×LV×LV×LV)→Option β) (kr:(Int×Int×Bool×LV×LV×LV)→Option β):Option β:=
 bif decide (t18<t17) then
  aP aQ t18 fun x1=>
  bif x1.toBool then
  kn (lk,wrap .i64 (t18+1),qa,aQ,aV)
  else
  bif Nat.ble ((qa.length+([V.int .i64 t18]:LV).length)*8) ba then
   (C rL [V.int .i64 t18,.list ar aQ,.list ab aV]).bind fun r2=>
   (Loop (OD C t t17 t18 (qa++([V.int .i64 t18]:LV))) (lk,(V.nth r2 0).toList,(V.nth (r2.drop 1) 0).toList)).bind (un fun auR=>un fun (xp:Bool)=>un fun (td:LV) (we:LV)=>
    kn (auR,wrap .i64 (t18+1),qa++([V.int .i64 t18]:LV),td,we))
  else none
 else
  kr (lk,t18,decide (t18<t17),qa,aQ,aV)
noncomputable def OE (C:af) (t:LV) (t17:Int):=un fun lk=>un fun t18=>un fun qa=>un fun aQ aV=>IJ C t t17 lk t18 qa aQ aV (fun y=>some (Sum.inl y)) (fun r=>some (Sum.inr r))
noncomputable def V8 (C:af):cN:=bL 241 UH [EQ,EQ,EQ,EQ,EQ,EQ,EQ,H1,EQ,H1,H1] [[1,2,3,4,5,6,7,0,0,9,0,0]] (@IH C) (bL 177 UI [EQ,H1,EQ,EQ,EQ,H1,H1] [[1,0,3,4,0,5,0,0]] (@OC C) (bL 97 UJ [EQ,H1,EQ,H1,H1,H1,H1] [[1,0,3,0,0,0,0,0]] (@IJ C) bM))
theorem auS (C:af):bD C (V8 C) 147 (Lp [1,1,1,1,1,0,1,0,0,1,1,0,0,1,1,1,1,0,0,1,0,0,1,1,0,0] 147):=bN UH [EQ,EQ,EQ,EQ,EQ,EQ,EQ,H1,EQ,H1,H1] [[1,2,3,4,5,6,7,0,0,9,0,0]] (@IH C) (bA av)
theorem auT (C:af):bD C (V8 C) 147 (Lp [1,1,1,1,1,0,1,0,0,1,1,0,0,1,1,1,1,0,0] 147):=bN UI [EQ,H1,EQ,EQ,EQ,H1,H1] [[1,0,3,4,0,5,0,0]] (@OC C) (bA (bE (auS C) av))
theorem auU (C:af):bD C (V8 C) 147 (Lp [1,1,1,1,1,0,1,0,0] 147):=bN UJ [EQ,H1,EQ,H1,H1,H1,H1] [[1,0,3,0,0,0,0,0]] (@IJ C) (bA (bE (auT C) av))
noncomputable def afZ (C:af) (t:LV):Option LV:=
 bif (decide (0≤(t.length:Int)))&&((decide ((t.length:Int)≤(t.length:Int)))&&(Nat.ble (((t.length:Int).toNat)*1) ba)) then
  (Loop (OE C t (t.length:Int)) (0,0,([]:LV),List.replicate ((t.length:Int).toNat) (V.bool false),([]:LV))).bind (un fun azC=>un fun ajw=>un fun (auV:Bool)=>un fun (auW:LV)=>un fun (uA:LV) (vq:LV)=>
   some [.list ab auW])
 else none
theorem auX {t:LV} {r:Option LV} (h:afZ CC t=r):CC MT [.list ag t]=r:=bO (bE (auU CC) av) h
noncomputable def af0 (C:af) (t:LV):Option LV:=
 (C MR [.list ag t]).bind fun r1=>
 bif (((V.nth r1 0).toInt):Int) != 0 then
  some [V.int .i64 ((V.nth r1 0).toInt)]
 else
  (C MT [.list ag t]).bind fun r2=>
  (C MS [.list ag t,.list ab ((V.nth r2 0).toList)]).bind fun r3=>
  bif !((V.nth r3 0).toBool) then
  some [V.int .i64 5]
  else
  some [V.int .i64 0]
theorem auY {t:LV} {r:Option LV} (h:af0 CC t=r):CC G2 [.list ag t]=r:=bO (L:=bM) av h
noncomputable def af1 (C:af) (t:LV):Option LV:=
 (C G2 [.list ag t]).bind fun r1=>
 some [.bool ((((V.nth r1 0).toInt):Int)==0)]
theorem auZ {t:LV} {r:Option LV} (h:af1 CC t=r):CC MU [.list ag t]=r:=bO (L:=bM) av h
theorem pz {n i:Nat} {g:Nat→V} (hi:i<n):idx (V.list ab (tab n g)).toList (i:Int)=some (g i):=by rw[V.eB];exact qo hi
def tG (K:Nat) (mul:Nat→Nat→Nat):LV:=tab K fun i=> .list ab (tab K fun j=>nV (mul i j))
structure Tb (K:Nat) (mul:Nat→Nat→Nat):Prop where
 k1:1≤K
 k4:K≤400
 lt: ∀i j,i<K→j<K→mul i j<K
def jP (K:Nat) (M:List Nat):LV:=tab K fun i=> .bool (decide (i∈M))
structure nC (K:Nat) (M:List Nat):Prop where
 nd:M.Nodup
 lt: ∀x∈M,x<K
theorem nC.le {K:Nat} {M:List Nat} (h:nC K M):M.length≤K:=by
 have:=yc (l₂:=List.range K) h.nd fun x hx=>fQ.2 (h.lt x hx);simpa using this
theorem nC.add {K:Nat} {M:List Nat} (h:nC K M) {x:Nat} (hx:x<K):nC K (di M x):=⟨U3 h.nd,fun y hy=>by
 unfold di at hy;split at hy
 ·exact h.lt y hy
 ·rcases fb.1 hy with hy|hy
  ·exact h.lt y hy
  ·rw[fL.1 hy];exact hx⟩
theorem V9 {M:List Nat} {x y:Nat}:y∈di M x↔y∈M∨y=x:=by
 unfold di;split
 ·exact ⟨.inl,fun h=>h.elim id fun e=>by rw[e];assumption⟩
 ·rw[fb,fL]
theorem au0 {K:Nat} {M:List Nat} {x:Nat} (h:x∉M):(jP K M).set x (.bool true)=jP K (di M x):=by
 unfold jP;rw[lH];refine dg fun j _=> ?_;by_cases c:j=x
 ·rw[aA c,cg (V9.2 (.inr c))]
 ·rw[aw c];by_cases c2:j∈M
  ·rw[cg c2,cg (V9.2 (.inl c2))]
  ·rw[cX c2,cX fun h=>(V9.1 h).elim c2 c]
section
variable {K:Nat} {mul:Nat→Nat→Nat} (h:Tb K mul)
theorem rA:(tG K mul).length=K:=eW
theorem nw {i:Nat} (hi:i<K):idx (tG K mul) (i:Int)=some (.list ab (tab K fun j=>nV (mul i j))):=qo hi
include h
theorem au1:CC MR [.list ag (tG K mul)]=some [.int .i64 0]:=by
 have h1:=h.k1;have h4:=h.k4;refine auL ?_;unfold afW;rw[rA];refine bF (cX (by omega)) (bF (by simp;omega) (bs (fH K (fun i=>(i:Int)) (.inr ((K:Int),false)) (fun i hi=> ?_) ?_) rfl))
 ·simp only[V3,ID];refine bT (bm hi) (bs (nw hi) ?_);rw[V.eB,eW,rA];refine bF (by simp) (bs (fH K (fun j=>(j:Int)) (.inr ((K:Int),false)) (fun j hj=> ?_) ?_) ?_)
  ·simp only[V2,IC];rw[rA];refine bT (bm hj) (bs (qo hj) (bF xf (bF (DH (h.lt i j hi hj)) ?_)));rw[br (by omega)]
  ·simp only[V2,IC];rw[aZ (az _)];rfl
  ·rw[br (by omega)];rfl
 ·simp only[V3,ID];rw[aZ (az _)];rfl
omit h in
theorem IK {M:List Nat} {x:Nat} (hx:x<K):(jP K M)[x]? =some (.bool (decide (x∈M))):=mj hx
omit h in
theorem Wa {M:List Nat} (hM:nC K M) (h4:K≤400) {x:Nat} (hx:x<K):CC rL [.int .i64 (x:Int),.list ar (jP K M),.list ab (nS M)]=some [.list ar (jP K (di M x)),.list ab (nS (di M x))]:=by
 have hl:=hM.le;refine auQ ?_;unfold afY;by_cases c:x∈M
 ·refine (ca (IK hx)).trans (bF (by simp[c]) ?_)
  rw[show di M x=M by rw[di,aA c]]
 ·refine (ca (IK hx)).trans (bT (by simp[c]) ((ca (IK hx)).trans (bT (cap (by rw[dE];simp;omega) (by omega)) ?_)))
  rw[show bj (jP K M) (x:Int) (.bool true)=jP K (di M x) from au0 c,show di M x=M++[x] by rw[di,aw c]];simp[nS,nV]
theorem au2: ∃G:List Nat,CC MT [.list ag (tG K mul)]=some [.list ab (nS G)]∧(∀g∈G,g<K)∧G.length≤K:=by
 have h1:=h.k1;have h4:=h.k4;have l1: ∀{M0:List Nat} {k x:Nat} {a b c:Int} {d:LV},nC K M0→k<M0.length→x<K→∃M,nC K M∧M0 <+: M∧Loop (II CC (tG K mul) a (x:Int) b c (((nS M0).drop 0).take ((((k+1:Nat):Int)).toNat-0)) ((((((k+1:Nat):Int)).toNat)-0:Int)) d) (0,jP K M0,nS M0)=some (((k+1:Nat):Int),false,jP K M,nS M):=by
  intro M0 k x a b c d IL hk hx;have hle:=IL.le;rw[Int.toNat_natCast,Nat.sub_zero,wx,Int.sub_zero,show (nS M0).take (k+1)=nS (M0.take (k+1)) by simp[nS,List.map_take]];have key:=lG (step:=II CC (tG K mul) a (x:Int) b c (nS (M0.take (k+1))) ((k+1:Nat):Int) d) (fun i y=> ∃M,y=((i:Int),jP K M,nS M)∧nC K M∧M0 <+: M) (fun r=> ∃M,r=(((k+1:Nat):Int),false,jP K M,nS M)∧nC K M∧M0 <+: M) (k+1) 0 (0,jP K M0,nS M0) (fun i _ hi y hy=> ?_) (fun y hy=> ?_) ⟨M0,rfl,IL,sa _⟩
  ·obtain ⟨r,e,M,rfl,hM,hp⟩:=key;exact ⟨M,hM,hp,e⟩
  ·obtain ⟨M,rfl,hM,hp⟩:=hy;have bS:i<(M0.take (k+1)).length:=by rw[mD];omega
   have zr:(M0.take (k+1))[i]<K:=IL.lt _ (Jm (dd bS));have a1:=h.lt _ _ hx zr;have a2:=h.lt _ _ zr hx;simp only[II,IH,un];refine ⟨_,bT (bm (by omega)) (bs (iE bS) (bs (nw hx) (bs (pz zr) (bs (Wa hM h4 a1) (bs (nw zr) (bs (pz hx) (bs (Wa (hM.add a1) h4 a2) rfl))))))),_,?_,(hM.add a1).add a2,hp.trans ((Ad _ _).trans (Ad _ _))⟩;rw[br (by omega)];rfl
  ·obtain ⟨M,rfl,hM,hp⟩:=hy;simp only[II,IH,un];refine ⟨_,bF (aZ (by omega)) rfl,M,?_,hM,hp⟩;rw[aZ (by omega),dL]
 have l2: ∀{M0:List Nat} {k:Nat} {a b:Int} {d:LV},nC K M0→k≤M0.length→∃k' M,nC K M∧k'≤M.length∧M0 <+: M∧Loop (OD CC (tG K mul) a b d) ((k:Int),jP K M0,nS M0)=some ((k':Int),false,jP K M,nS M):=by
  intro M0 k a b d IL hk;have key:=Kz (step:=OD CC (tG K mul) a b d) (fun y=> ∃(k:Nat) (M:List Nat),y=((k:Int),jP K M,nS M)∧nC K M∧k≤M.length∧M0 <+: M) (fun y=>1000-y.1.toNat) (fun r=> ∃(k:Nat) (M:List Nat),r=((k:Int),false,jP K M,nS M)∧nC K M∧k≤M.length∧M0 <+: M) (fun y hy=> ?_) ((k:Int),jP K M0,nS M0) ⟨k,M0,rfl,IL,hk,sa _⟩
  ·obtain ⟨r,e,k',M,rfl,hM,dM,hp⟩:=key;exact ⟨k',M,hM,dM,hp,e⟩
  ·obtain ⟨k,M,rfl,hM,hk,hp⟩:=hy;have hle:=hM.le;simp only[OD,OC,un,aP];rw[dE];by_cases c:k<M.length
   ·obtain ⟨M',Wb,hp',e⟩:=l1 (a:=(k:Int)) (b:=a) (c:=b) (d:=d) hM c (hM.lt _ (dd c));refine .inl ⟨((k+1:Nat),jP K M',nS M'),bT (bm c) ?_,⟨k+1,M',rfl,Wb,by have:=hp'.length_le;omega,hp.trans hp'⟩,by simp only;omega⟩;refine ((congrArg (fun n:Nat=>bif decide (0≤(k:Int))&&decide ((k:Int)<(n:Int)) then _ else none) dE.symm)).trans ((ca (xo c)).trans ?_)
    rw[br (by omega)];exact bT (kb.2 ⟨cg (by omega),cg (by omega)⟩) (bs e rfl)
   ·refine .inr ⟨_,bF (aZ (by omega)) rfl,k,M,?_,hM,hk,hp⟩;rw[aZ (by omega)]
 have key:=lG (step:=OE CC (tG K mul) (K:Int)) (fun i y=> ∃(k:Nat) (G M:List Nat),y=((k:Int),(i:Int),nS G,jP K M,nS M)∧nC K M∧k≤M.length∧(∀g∈G,g<K)∧G.length≤i) (fun r=> ∃(k:Nat) (G M:List Nat),r=((k:Int),(K:Int),false,nS G,jP K M,nS M)∧(∀g∈G,g<K)∧G.length≤K) K 0 (0,0,[],jP K [],[]) (fun i _ hi y hy=> ?_) (fun y hy=> ?_) ⟨0,[],[],rfl,⟨by simp,fun x hx=>(by cases hx)⟩,az _,fun g hg=>(by cases hg),az _⟩
 ·obtain ⟨r,e,k,G,M,rfl,hG,OF⟩:=key;refine ⟨G,auX ?_,hG,OF⟩;unfold afZ;rw[rA];refine bT (gD (by omega) (by omega)) ?_;rw[Int.toNat_natCast,oK,show (tab K fun _=>V.bool false)=jP K [] from dg fun j _=>by simp];exact bs e rfl
 ·obtain ⟨k,G,M,rfl,hM,hk,hG,OF⟩:=hy;have As:i<K:=by omega
  simp only[OE,IJ,un,aP];by_cases c:i∈M
  ·refine ⟨_,bT (bm As) ((ca (IK As)).trans (bT (by simp[c]) rfl)),k,G,M,?_,hM,hk,hG,by omega⟩;rw[br (by omega)]
  ·obtain ⟨k',M',Wb,dM,_,e⟩:=l2 (k:=k) (a:=(K:Int)) (b:=(i:Int)) (d:=nS (G++[i])) (hM.add As) (by have:=(Ad M i).length_le;omega);have Kr:nS G++[V.int .i64 (i:Int)]=nS (G++[i]):=by simp[nS,nV]
   refine ⟨((k':Int),((i+1:Nat):Int),nS (G++[i]),jP K M',nS M'),bT (bm As) ((ca (IK As)).trans (bF (by simp[c]) (bT (cap (by rw[dE];simp;omega) (by omega)) (bs (Wa hM h4 As) ?_)))),k',G++[i],M',rfl,Wb,dM,fun g hg=> ?_,by simp;omega⟩
   ·rw[Kr];refine bs e ?_;rw[br (by omega)];rfl
   ·rcases fb.1 hg with hg|hg
    ·exact hG g hg
    ·rw[fL.1 hg];exact As
 ·obtain ⟨k,G,M,rfl,hM,hk,hG,OF⟩:=hy;rw[dL] at*
  simp only[OE,IJ,un,aP];refine ⟨_,bF (aZ (az _)) rfl,k,G,M,?_,hG,OF⟩;rw[aZ (az _)]
section
variable (ha: ∀i j k,i<K→j<K→k<K→mul (mul i j) k=mul i (mul j k))
include ha
theorem au3 {G:List Nat} (hG: ∀g∈G,g<K) (hl:G.length≤K):CC MS [.list ag (tG K mul),.list ab (nS G)]=some [.bool true]:=by
 have h4:=h.k4;have l2: ∀{g:Nat} {a b:Int} {c d:LV},g<K→Loop (OA CC (tG K mul) (g:Int) c a b (tG K mul) (K:Int) d) 0=some (.inr ((K:Int),false)):=by
  intro g a b c d hg;refine fH K (fun x=>(x:Int)) _ (fun x hx=> ?_) ?_
  ·have h1:=h.lt _ _ hx hg;simp only[OA,IF];refine bT (bm hx) (bs (nw hx) (bs (pz hg) (bs (nw h1) (bs (nw hg) ?_))));rw[V.eB,V.eB,V.eB,eW];refine bs (fH K (fun y=>(y:Int)) (.inr ((K:Int),false)) (fun y hy=> ?_) ?_) ?_
   ·simp only[V4,IE];refine bT (bm hy) (bs (qo hy) (bs (qo hy) (bs (qo (h.lt _ _ hg hy)) (bF ?_ ?_))))
    ·show (((mul (mul x g) y:Nat):Int) != ((mul x (mul g y):Nat):Int))=false;rw[ha _ _ _ hx hg hy];simp
    ·rw[br (by omega)]
   ·simp only[V4,IE];rw[aZ (az _)];rfl
   ·rw[br (by omega)];rfl
  ·simp only[OA,IF];rw[aZ (az _)];rfl
 refine auP ?_;unfold afX;rw[rA,dE];refine bT (gD (by omega) (by omega)) ?_;rw[Int.toNat_natCast];have key:=lG (step:=OB CC (tG K mul) (nS G) (G.length:Int)) (fun i y=> ∃b:LV,y=((i:Int),b)∧b.length=K∧∀v∈b,∃c,v= .bool c) (fun r=> ∃b:LV,r= .inr ((G.length:Int),false,b)) G.length 0 (0,List.replicate K (V.bool false)) (fun i _ hi y hy=> ?_) (fun y hy=> ?_) ⟨_,rfl,by simp,fun v hv=>⟨false,(List.mem_replicate.1 hv).2⟩⟩
 ·obtain ⟨r,e,b,rfl⟩:=key;exact bs e rfl
 ·obtain ⟨b,rfl,hb,hv⟩:=hy;have bS:i<G.length:=by omega
  have hg:=hG _ (dd bS);have Wc:G[i]<b.length:=by omega
  obtain ⟨c,hc⟩:=hv _ (dd Wc);simp only[OB,IG,un];have e0:b[((nV G[i]).toInt).toNat]? =some (.bool c):=by
   show b[G[i]]? =_;rw[b7 Wc,hc]
  have e1:((decide (0≤(nV G[i]).toInt))&&(decide ((nV G[i]).toInt<(b.length:Int))))=true:=oJ Wc;cases c with
  | true=>
   refine ⟨_,bT (bm bS) (bs (iE bS) (bT e1 (bs e0 (bT rfl rfl)))),b,?_,hb,hv⟩;rw[br (by omega)]
  | false=>
   refine ⟨(((i+1:Nat):Int),b.set G[i] (.bool true)),bT (bm bS) (bs (iE bS) (bT e1 (bs e0 (bF rfl (bT e1 (bs e0 ?_)))))),_,rfl,by simp[hb],fun v ko=> ?_⟩
   ·rw[rA];refine bs (l2 hg) ?_;rw[br (by omega)];rfl
   ·rcases D7 ko with ko|ko
    ·exact hv v ko
    ·exact ⟨true,ko⟩
 ·obtain ⟨b,rfl,hb,hv⟩:=hy;simp only[OB,IG,un];refine ⟨_,bF (aZ (by omega)) rfl,b,?_⟩;rw[aZ (by omega),dL]
theorem Qb:CC G2 [.list ag (tG K mul)]=some [.int .i64 0]:=by
 obtain ⟨G,e,hG,hl⟩:=au2 h;refine auY ?_;unfold af0;exact bs (au1 h) (bF rfl (bs e (bs (au3 h ha hG hl) (bF rfl rfl))))
theorem au4:CC MU [.list ag (tG K mul)]=some [.bool true]:=by
 refine auZ ?_;unfold af1;exact bs (Qb h ha) rfl
end
end
noncomputable def E4 (C:af) (table:LV) (x n e:Int) {β:Type} (kn:Int→Option β) (kr:(Int×Bool)→Option β):Option β:=
 (idx table e).bind fun x1=>
 (idx x1.toList e).bind fun x2=>
 bif (x2.toInt:Int) != e then
  (idx table e).bind fun x3=>
  (idx x3.toList x).bind fun x4=>
  kn x4.toInt
 else
  kr (e,(x2.toInt:Int) != e)
noncomputable def BI (C:af) (table:LV) (x n:Int):=fun e=>E4 C table x n e (fun y=>some (Sum.inl y)) (fun r=>some (Sum.inr r))
noncomputable def Wd (C:af) (table:LV) (e g y:Int) {β:Type} (kn:Int→Option β) (kr:(Int×Bool)→Option β):Option β:=
 (idx table y).bind fun x9=>
 (idx x9.toList g).bind fun oj=>
 bif (oj.toInt:Int) != e then
  (idx table y).bind fun p9=>
  (idx p9.toList g).bind fun j9=>
  kn j9.toInt
 else
  kr (y,(oj.toInt:Int) != e)
noncomputable def au5 (C:af) (table:LV) (e g:Int):=fun y=>Wd C table e g y (fun y=>some (Sum.inl y)) (fun r=>some (Sum.inr r))
noncomputable def E5 (C:af) (table:LV) (x t54 y t55:Int) {β:Type} (kn:(Int×Int)→Option β) (kr:(Int×Int×Bool)→Option β):Option β:=
 bif decide (t55<t54) then
  (idx table y).bind fun K7=>
  (idx K7.toList x).bind fun K8=>
  kn (K8.toInt,wrap .i64 (t55+1))
 else
  kr (y,t55,decide (t55<t54))
noncomputable def Kp (C:af) (table:LV) (x t54:Int):=un fun y t55=>E5 C table x t54 y t55 (fun y=>some (Sum.inl y)) (fun r=>some (Sum.inr r))
noncomputable def We (C:af):cN:=bL 33 UN [EQ,EQ,EQ,H1] [[1,2,3,0,0]] (@E4 C) (bL 113 UO [EQ,EQ,H1,EQ] [[1,2,0,4,0]] (@Wd C) (bL 177 UP [EQ,EQ,H1,EQ,H1] [[1,2,0,4,0,0]] (@E5 C) bM))
theorem au6 (C:af):bD C (We C) 156 (Lp [1,1,0,0,0] 156):=bN UN [EQ,EQ,EQ,H1] [[1,2,3,0,0]] (@E4 C) (bA av)
theorem au7 (C:af):bD C (We C) 156 (Lp [1,1,1,1,0,1,0,1,0,0,0] 156):=bN UO [EQ,EQ,H1,EQ] [[1,2,0,4,0]] (@Wd C) (bA av)
theorem au8 (C:af):bD C (We C) 156 (Lp [1,1,1,1,1,0,1,0,0] 156):=bN UP [EQ,EQ,H1,EQ,H1] [[1,2,0,4,0,0]] (@E5 C) (bA av)
noncomputable def XR (C:af) (table:LV) (x n:Int):Option LV:=
 (Loop (BI C table x n) x).bind (un fun (wo:Int) (jY:Bool)=>
  bif decide (n<0) then
   (idx table wo).bind fun x7=>
   (idx x7.toList x).bind fun x8=>
   (Loop (au5 C table wo x8.toInt) wo).bind (un fun (au9:Int) (vo:Bool)=>
    some [V.int .i64 au9])
  else
   (Loop (Kp C table x n) (wo,0)).bind (un fun ava=>un fun (V6:Int) (V7:Bool)=>
    some [V.int .i64 ava]))
theorem aio {table:LV} {x n:Int} {r:Option LV} (h:XR CC table x n=r):CC Ko [.list ag table,V.int .i64 x,V.int .i64 n]=r:=bO (bE (au6 CC) (bE (au7 CC) (bE (au8 CC) av))) h
def pw (mul:Nat→Nat→Nat) (x:Nat):Nat→Nat
 | 0=>x
 | k+1=>mul (pw mul x k) x
theorem avb {K:Nat} {f:Nat→Nat} (h: ∀i,f i<K): ∃i j,i<j∧f i=f j:=by
 refine Classical.byContradiction fun hn=> ?_;have bq: ∀i j,i<j→f i≠f j:=fun i j yI e=>hn ⟨i,j,yI,e⟩;have hd:((List.range (K+1)).map f).Nodup:=by
  refine List.pairwise_map.2 (List.nodup_range.imp_of_mem fun {a b} _ _ w8 e=> ?_);rcases Nat.lt_or_gt_of_ne w8 with c|c
  ·exact bq a b c e
  ·exact bq b a c e.symm
 have:=yc (l₂:=List.range K) hd fun x hx=>by
  obtain ⟨i,_,rfl⟩:=iB.1 hx;exact fQ.2 (h i)
 simp at this;omega
section
variable {K:Nat} {mul:Nat→Nat→Nat} (h:Tb K mul) (ha: ∀i j k,i<K→j<K→k<K→mul (mul i j) k=mul i (mul j k)) {x:Nat} (hx:x<K)
include h hx
theorem vf: ∀k,pw mul x k<K
 | 0=>hx
 | k+1=>h.lt _ _ (vf k) hx
include ha
theorem Km (m:Nat): ∀n,mul (pw mul x m) (pw mul x n)=pw mul x (m+n+1)
 | 0=>rfl
 | n+1=>by
  show mul (pw mul x m) (mul (pw mul x n) x)=mul (pw mul x (m+n+1)) x;rw[←ha _ _ _ (vf h hx m) (vf h hx n) hx,Km m n]
theorem ain: ∃k,mul (pw mul x k) (pw mul x k)=pw mul x k:=by
 obtain ⟨i,j,yI,e⟩:=avb (vf h hx);have step: ∀n,pw mul x (i+n)=pw mul x (j+n):=fun n=>by
  induction n with
  | zero=>exact e
  | succ n ih=>exact congrArg (fun y=>mul y x) ih
 have PT: ∀c m,i≤m→pw mul x (m+(j-i)*c)=pw mul x m:=fun c=>by
  induction c with
  | zero=>intro m _;rw[Nat.mul_zero,Nat.add_zero]
  | succ c ih=>
   intro m hm;have h1:=step (m-i);rw[show i+(m-i)=m by omega,show j+(m-i)=m+(j-i) by omega] at h1;rw[h1,←ih (m+(j-i)) (by omega),Nat.mul_succ,wy,Nat.add_comm (j-i)]
 have hp:0<(j-i)*(i+1):=Nat.mul_pos (by omega) (by omega);have qy:i+1≤(j-i)*(i+1):=Nat.le_mul_of_pos_left _ (by omega);refine ⟨(j-i)*(i+1)-1,?_⟩;rw[Km h ha hx,show (j-i)*(i+1)-1+((j-i)*(i+1)-1)+1=((j-i)*(i+1)-1)+(j-i)*(i+1) by omega];exact PT (i+1) _ (by omega)
end
noncomputable def E6 (C:af) (table t18:LV) (t19 t20:Int) (t24:LV) (t25 t26 t48:Int) (eY:LV) (eZ:Int) (fh e8 gN gO iG iH iI iJ hY ia ib:LV) (iD dC t49:Int) (lists:LV) {β:Type} (kn:(Int×LV)→Option β) (kr:(Int×Bool×LV)→Option β):Option β:=
 bif decide (t49<t48) then
  (C Ko [.list ag table,V.int .i64 t49,V.int .i64 dC]).bind fun r3=>
  aP lists t49 fun x4=>
  kn (wrap .i64 (t49+1),bj lists t49 (V.int .i64 ((V.nth r3 0).toInt)))
 else
  kr (t49,decide (t49<t48),lists)
noncomputable def Kq (C:af) (table t18:LV) (t19 t20:Int) (t24:LV) (t25 t26 t48:Int) (eY:LV) (eZ:Int) (fh e8 gN gO iG iH iI iJ hY ia ib:LV) (iD dC:Int):=un fun t49 lists=>E6 C table t18 t19 t20 t24 t25 t26 t48 eY eZ fh e8 gN gO iG iH iI iJ hY ia ib iD dC t49 lists (fun y=>some (Sum.inl y)) (fun r=>some (Sum.inr r))
noncomputable def E8 (C:af) (table t18:LV) (t19 t20:Int) (t24:LV) (t25:Int) (eY:LV) (eZ t26:Int) (fh e8 gN gO iG iH iI iJ hY ia ib:LV) {β:Type} (kn:(Int×LV×LV×LV×LV×LV×LV×LV×LV×LV×LV×LV)→Option β) (kr:(Int×Bool×LV×LV×LV×LV×LV×LV×LV×LV×LV×LV×LV)→Option β):Option β:=
 bif decide (t26<t25) then
  (idx t24 t26).bind fun x2=>
  bif (((x2.cell 0).toInt):Int) != 3 then
  kn (wrap .i64 (t26+1),fh,e8,gN,gO,iG,iH,iI,iJ,hY,ia,ib)
  else
  bif (decide (0≤(wrap .i64 (((x2.cell 1).toInt)+1))))&&(decide ((wrap .i64 (((x2.cell 1).toInt)+1))<11)) then
   bif (Nat.beq (2+(((wrap .i64 (((x2.cell 1).toInt)+1):Int).toNat)*1)) 2||(Nat.beq (2+(((wrap .i64 (((x2.cell 1).toInt)+1):Int).toNat)*1)) 3||(Nat.beq (2+(((wrap .i64 (((x2.cell 1).toInt)+1):Int).toNat)*1)) 4||(Nat.beq (2+(((wrap .i64 (((x2.cell 1).toInt)+1):Int).toNat)*1)) 5||(Nat.beq (2+(((wrap .i64 (((x2.cell 1).toInt)+1):Int).toNat)*1)) 6||(Nat.beq (2+(((wrap .i64 (((x2.cell 1).toInt)+1):Int).toNat)*1)) 7||(Nat.beq (2+(((wrap .i64 (((x2.cell 1).toInt)+1):Int).toNat)*1)) 8||(Nat.beq (2+(((wrap .i64 (((x2.cell 1).toInt)+1):Int).toNat)*1)) 9||(Nat.beq (2+(((wrap .i64 (((x2.cell 1).toInt)+1):Int).toNat)*1)) 10||(Nat.beq (2+(((wrap .i64 (((x2.cell 1).toInt)+1):Int).toNat)*1)) 11||(Nat.beq (2+(((wrap .i64 (((x2.cell 1).toInt)+1):Int).toNat)*1)) 12||false))))))))))) then
   bif !(Nat.beq (bif Nat.beq (2+(((wrap .i64 (((x2.cell 1).toInt)+1):Int).toNat)*1)) 2 then fh else (bif Nat.beq (2+(((wrap .i64 (((x2.cell 1).toInt)+1):Int).toNat)*1)) 3 then e8 else (bif Nat.beq (2+(((wrap .i64 (((x2.cell 1).toInt)+1):Int).toNat)*1)) 4 then gN else (bif Nat.beq (2+(((wrap .i64 (((x2.cell 1).toInt)+1):Int).toNat)*1)) 5 then gO else (bif Nat.beq (2+(((wrap .i64 (((x2.cell 1).toInt)+1):Int).toNat)*1)) 6 then iG else (bif Nat.beq (2+(((wrap .i64 (((x2.cell 1).toInt)+1):Int).toNat)*1)) 7 then iH else (bif Nat.beq (2+(((wrap .i64 (((x2.cell 1).toInt)+1):Int).toNat)*1)) 8 then iI else (bif Nat.beq (2+(((wrap .i64 (((x2.cell 1).toInt)+1):Int).toNat)*1)) 9 then iJ else (bif Nat.beq (2+(((wrap .i64 (((x2.cell 1).toInt)+1):Int).toNat)*1)) 10 then hY else (bif Nat.beq (2+(((wrap .i64 (((x2.cell 1).toInt)+1):Int).toNat)*1)) 11 then ia else (bif Nat.beq (2+(((wrap .i64 (((x2.cell 1).toInt)+1):Int).toNat)*1)) 12 then ib else ([]:LV)))))))))))).length 0) then
    kn (wrap .i64 (t26+1),fh,e8,gN,gO,iG,iH,iI,iJ,hY,ia,ib)
   else
    bif (decide (0≤(table.length:Int)))&&((decide ((table.length:Int)≤(table.length:Int)))&&(Nat.ble (((table.length:Int).toNat)*8) ba)) then
    (Loop (Kq C table t18 t19 t20 t24 t25 t26 ((List.replicate ((table.length:Int).toNat) (V.int .i64 0)).length:Int) eY eZ fh e8 gN gO iG iH iI iJ hY ia ib ((x2.cell 0).toInt) ((x2.cell 1).toInt)) (0,List.replicate ((table.length:Int).toNat) (V.int .i64 0))).bind (un fun lF=>un fun (jY:Bool) (rS:LV)=>
     bif (decide (0≤(wrap .i64 (((x2.cell 1).toInt)+1))))&&(decide ((wrap .i64 (((x2.cell 1).toInt)+1))<11)) then
      bif (Nat.beq (2+(((wrap .i64 (((x2.cell 1).toInt)+1):Int).toNat)*1)) 2||(Nat.beq (2+(((wrap .i64 (((x2.cell 1).toInt)+1):Int).toNat)*1)) 3||(Nat.beq (2+(((wrap .i64 (((x2.cell 1).toInt)+1):Int).toNat)*1)) 4||(Nat.beq (2+(((wrap .i64 (((x2.cell 1).toInt)+1):Int).toNat)*1)) 5||(Nat.beq (2+(((wrap .i64 (((x2.cell 1).toInt)+1):Int).toNat)*1)) 6||(Nat.beq (2+(((wrap .i64 (((x2.cell 1).toInt)+1):Int).toNat)*1)) 7||(Nat.beq (2+(((wrap .i64 (((x2.cell 1).toInt)+1):Int).toNat)*1)) 8||(Nat.beq (2+(((wrap .i64 (((x2.cell 1).toInt)+1):Int).toNat)*1)) 9||(Nat.beq (2+(((wrap .i64 (((x2.cell 1).toInt)+1):Int).toNat)*1)) 10||(Nat.beq (2+(((wrap .i64 (((x2.cell 1).toInt)+1):Int).toNat)*1)) 11||(Nat.beq (2+(((wrap .i64 (((x2.cell 1).toInt)+1):Int).toNat)*1)) 12||false))))))))))) then
      bif Nat.blt 0 rS.length&&true then
       kn (wrap .i64 (t26+1),(bif Nat.beq (2+(((wrap .i64 (((x2.cell 1).toInt)+1):Int).toNat)*1)) 2 then rS else fh),(bif Nat.beq (2+(((wrap .i64 (((x2.cell 1).toInt)+1):Int).toNat)*1)) 3 then rS else e8),(bif Nat.beq (2+(((wrap .i64 (((x2.cell 1).toInt)+1):Int).toNat)*1)) 4 then rS else gN),(bif Nat.beq (2+(((wrap .i64 (((x2.cell 1).toInt)+1):Int).toNat)*1)) 5 then rS else gO),(bif Nat.beq (2+(((wrap .i64 (((x2.cell 1).toInt)+1):Int).toNat)*1)) 6 then rS else iG),(bif Nat.beq (2+(((wrap .i64 (((x2.cell 1).toInt)+1):Int).toNat)*1)) 7 then rS else iH),(bif Nat.beq (2+(((wrap .i64 (((x2.cell 1).toInt)+1):Int).toNat)*1)) 8 then rS else iI),(bif Nat.beq (2+(((wrap .i64 (((x2.cell 1).toInt)+1):Int).toNat)*1)) 9 then rS else iJ),(bif Nat.beq (2+(((wrap .i64 (((x2.cell 1).toInt)+1):Int).toNat)*1)) 10 then rS else hY),(bif Nat.beq (2+(((wrap .i64 (((x2.cell 1).toInt)+1):Int).toNat)*1)) 11 then rS else ia),(bif Nat.beq (2+(((wrap .i64 (((x2.cell 1).toInt)+1):Int).toNat)*1)) 12 then rS else ib))
      else none
      else none
     else none)
    else none
   else none
  else none
 else
  kr (t26,decide (t26<t25),fh,e8,gN,gO,iG,iH,iI,iJ,hY,ia,ib)
noncomputable def E7 (C:af) (table t18:LV) (t19 t20:Int) (t24:LV) (t25:Int) (eY:LV) (eZ:Int):=un fun t26=>un fun fh=>un fun e8=>un fun gN=>un fun gO=>un fun iG=>un fun iH=>un fun iI=>un fun iJ=>un fun hY=>un fun ia ib=>E8 C table t18 t19 t20 t24 t25 eY eZ t26 fh e8 gN gO iG iH iI iJ hY ia ib (fun y=>some (Sum.inl y)) (fun r=>some (Sum.inr r))
noncomputable def BJ (C:af) (table t18:LV) (t19:Int) (eY:LV) (eZ t20:Int) (fh e8 gN gO iG iH iI iJ hY ia ib:LV) {β:Type} (kn:(Int×LV×LV×LV×LV×LV×LV×LV×LV×LV×LV×LV)→Option β) (kr:(Int×Bool×LV×LV×LV×LV×LV×LV×LV×LV×LV×LV×LV)→Option β):Option β:=
 bif decide (t20<t19) then
  (idx t18 t20).bind fun x1=>
  (Loop (E7 C table t18 t19 t20 x1.toList (x1.toList.length:Int) eY eZ) (0,fh,e8,gN,gO,iG,iH,iI,iJ,hY,ia,ib)).bind (un fun vr=>un fun (wg:Bool)=>un fun (hY:LV)=>un fun (ia:LV)=>un fun (ib:LV)=>un fun (avc:LV)=>un fun (avd:LV)=>un fun (ave:LV)=>un fun (avf:LV)=>un fun (avg:LV)=>un fun (avh:LV)=>un fun (avi:LV) (avj:LV)=>
   kn (wrap .i64 (t20+1),hY,ia,ib,avc,avd,ave,avf,avg,avh,avi,avj))
 else
  kr (t20,decide (t20<t19),fh,e8,gN,gO,iG,iH,iI,iJ,hY,ia,ib)
noncomputable def yK (C:af) (table t18:LV) (t19:Int) (eY:LV) (eZ:Int):=un fun t20=>un fun fh=>un fun e8=>un fun gN=>un fun gO=>un fun iG=>un fun iH=>un fun iI=>un fun iJ=>un fun hY=>un fun ia ib=>BJ C table t18 t19 eY eZ t20 fh e8 gN gO iG iH iI iJ hY ia ib (fun y=>some (Sum.inl y)) (fun r=>some (Sum.inr r))
noncomputable def Wf (C:af):cN:=bL 177 Ur [EQ,EQ,EQ,EQ,EQ,EQ,EQ,EQ,H1,EQ,EQ,EQ,EQ,EQ,EQ,EQ,EQ,EQ,EQ,EQ,EQ,EQ,EQ,EQ,H1] [[1,2,3,4,5,6,7,8,0,0,10,11,12,13,14,15,16,17,18,19,20,21,22,23,24,0]] (@E6 C) (bL 97 Us [EQ,EQ,EQ,EQ,EQ,EQ,H1,EQ,EQ,H1,H1,H1,H1,H1,H1,H1,H1,H1,H1,H1] [[1,2,3,4,5,6,0,0,8,9,0,0,0,0,0,0,0,0,0,0,0]] (@E8 C) (bL 49 Ut [EQ,EQ,EQ,H1,EQ,EQ,H1,H1,H1,H1,H1,H1,H1,H1,H1,H1,H1] [[1,2,3,0,0,5,6,0,0,0,0,0,0,0,0,0,0,0]] (@BJ C) bM))
theorem avk (C:af):bD C (Wf C) 116 (Lp [1,1,0,1,0,0,1,1,0,0,1,1,0,0,1,1,0,0,1,1,1,0,1,0,0] 116):=bN Ur [EQ,EQ,EQ,EQ,EQ,EQ,EQ,EQ,H1,EQ,EQ,EQ,EQ,EQ,EQ,EQ,EQ,EQ,EQ,EQ,EQ,EQ,EQ,EQ,H1] [[1,2,3,4,5,6,7,8,0,0,10,11,12,13,14,15,16,17,18,19,20,21,22,23,24,0]] (@E6 C) (bA av)
theorem avl (C:af):bD C (Wf C) 116 (Lp [1,1,0,1,0,0,1,1,0,0,1,1,0,0] 116):=bN Us [EQ,EQ,EQ,EQ,EQ,EQ,H1,EQ,EQ,H1,H1,H1,H1,H1,H1,H1,H1,H1,H1,H1] [[1,2,3,4,5,6,0,0,8,9,0,0,0,0,0,0,0,0,0,0,0]] (@E8 C) (bA (bE (avk C) av))
theorem avm (C:af):bD C (Wf C) 116 (Lp [1,1,0,1,0,0] 116):=bN Ut [EQ,EQ,EQ,H1,EQ,EQ,H1,H1,H1,H1,H1,H1,H1,H1,H1,H1,H1] [[1,2,3,0,0,5,6,0,0,0,0,0,0,0,0,0,0,0]] (@BJ C) (bA (bE (avl C) av))
noncomputable def XV (C:af) (table:LV) (one:Int) (IM:LV):Option LV:=
 (Loop (yK C table IM (IM.length:Int) table one) (0,([]:LV),([]:LV),([]:LV),([]:LV),([]:LV),([]:LV),([]:LV),([]:LV),([]:LV),([]:LV),([]:LV))).bind (un fun auV=>un fun (aul:Bool)=>un fun (avn:LV)=>un fun (avo:LV)=>un fun (avp:LV)=>un fun (avq:LV)=>un fun (avr:LV)=>un fun (avs:LV)=>un fun (avt:LV)=>un fun (avu:LV)=>un fun (avv:LV)=>un fun (avw:LV) (avx:LV)=>
  some [.list ag table,V.int .i64 one,.list ab avn,.list ab avo,.list ab avp,.list ab avq,.list ab avr,.list ab avs,.list ab avt,.list ab avu,.list ab avv,.list ab avw,.list ab avx])
theorem aiq {table:LV} {one:Int} {IM:LV} {r:Option LV} (h:XV CC table one IM=r):CC E9 [.list ag table,V.int .i64 one,.list Fa IM]=r:=bO (bE (avm CC) av) h
def cp (s:Nat×Nat):V:= .agg [.int .i64 (s.1:Int),.int .i64 (s.2:Int)]
def PL (K:Nat) (l:LV):Prop:= ∃f:Nat→Nat,l=tab K (fun i=>nV (f i))∧∀i,i<K→f i<K
theorem PL.len {K:Nat} {l:LV} (h:PL K l):l.length=K:=by
 obtain ⟨f,rfl,_⟩:=h;exact eW
def ny (i:Int) (A B:LV):Int×LV×LV×LV×LV×LV×LV×LV×LV×LV×LV×LV:=(i,[],A,B,[],[],[],[],[],[],[],[])
def fo (s:Nat×Nat):Prop:=s.1≤3∧(s.1=3→s.2=0∨s.2=1)
theorem XU {p:List (Nat×Nat)} {i:Nat} (hi:i<p.length):idx (p.map cp) (i:Int)=some (cp p[i]):=by
 rw[Ch rfl];simp[hi]
def OG (K:Nat) (p:List (Nat×Nat)) (k:Nat) (A B:LV):Prop:= ∀j,j<k→j<p.length→(p.getD j (0,0)).1=3→((p.getD j (0,0)).2=0→PL K A)∧((p.getD j (0,0)).2=1→PL K B)
section
variable {K:Nat} {mul:Nat→Nat→Nat} (h:Tb K mul) (ha: ∀i j k,i<K→j<K→k<K→mul (mul i j) k=mul i (mul j k))
include h ha
omit h ha in
theorem OG.mono {p:List (Nat×Nat)} {k:Nat} {A B A' B':LV} (hh:OG K p k A B) (h1:PL K A→PL K A') (h2:PL K B→PL K B'):OG K p k A' B':=fun j hj hl e=>⟨fun e2=>h1 ((hh j hj hl e).1 e2),fun e2=>h2 ((hh j hj hl e).2 e2)⟩
def Ku (t:LV) (one:Int) (A B:LV):List V:=[.list ag t,.int .i64 one,.list ab [],.list ab A,.list ab B,.list ab [],.list ab [],.list ab [],.list ab [],.list ab [],.list ab [],.list ab [],.list ab []]
end
noncomputable def xg (C:af) (top:Int) (t11:LV) (t12 t13 t18:Int) (t19:Bool) (eY:LV) (eZ:Int) (fh e8 gN gO iG iH iI iJ hY ia ib iK nQ:LV) (iD dC:Int) {β:Type} (kr:(Int×LV)→Option β):Option β:=
 bif t19 then
  bif (decide (0≤top))&&(decide (top<61)) then
  (nQ[top.toNat]?).bind fun x2=>
  kr (wrap .i64 (top+1),bj nQ top (V.int .i64 eZ))
  else none
 else
  bif t18==1 then
  aP iK dC fun x3=>
  bif (decide (0≤top))&&(decide (top<61)) then
   (nQ[top.toNat]?).bind fun x4=>
   kr (wrap .i64 (top+1),bj nQ top (V.int .i64 x3.toInt))
  else none
  else
  bif t18==2 then
   bif (decide (0≤(wrap .i64 ((wrap .i64 (top-1))-1))))&&(decide ((wrap .i64 ((wrap .i64 (top-1))-1))<61)) then
   (nQ[(wrap .i64 ((wrap .i64 (top-1))-1):Int).toNat]?).bind fun x5=>
   (idx eY x5.toInt).bind fun x6=>
   bif (decide (0≤(wrap .i64 (top-1))))&&(decide ((wrap .i64 (top-1))<61)) then
    (nQ[(wrap .i64 (top-1):Int).toNat]?).bind fun x7=>
    (idx x6.toList x7.toInt).bind fun x8=>
    bif (decide (0≤(wrap .i64 ((wrap .i64 (top-1))-1))))&&(decide ((wrap .i64 ((wrap .i64 (top-1))-1))<61)) then
    (nQ[(wrap .i64 ((wrap .i64 (top-1))-1):Int).toNat]?).bind fun x9=>
    kr (wrap .i64 (top-1),bj nQ (wrap .i64 ((wrap .i64 (top-1))-1)) (V.int .i64 x8.toInt))
    else none
   else none
   else none
  else
   bif t18==3 then
   bif (decide (0≤(wrap .i64 (dC+1))))&&(decide ((wrap .i64 (dC+1))<11)) then
    bif (Nat.beq (2+(((wrap .i64 (dC+1):Int).toNat)*1)) 2||(Nat.beq (2+(((wrap .i64 (dC+1):Int).toNat)*1)) 3||(Nat.beq (2+(((wrap .i64 (dC+1):Int).toNat)*1)) 4||(Nat.beq (2+(((wrap .i64 (dC+1):Int).toNat)*1)) 5||(Nat.beq (2+(((wrap .i64 (dC+1):Int).toNat)*1)) 6||(Nat.beq (2+(((wrap .i64 (dC+1):Int).toNat)*1)) 7||(Nat.beq (2+(((wrap .i64 (dC+1):Int).toNat)*1)) 8||(Nat.beq (2+(((wrap .i64 (dC+1):Int).toNat)*1)) 9||(Nat.beq (2+(((wrap .i64 (dC+1):Int).toNat)*1)) 10||(Nat.beq (2+(((wrap .i64 (dC+1):Int).toNat)*1)) 11||(Nat.beq (2+(((wrap .i64 (dC+1):Int).toNat)*1)) 12||false))))))))))) then
    bif (decide (0≤(wrap .i64 (top-1))))&&(decide ((wrap .i64 (top-1))<61)) then
     (nQ[(wrap .i64 (top-1):Int).toNat]?).bind fun oj=>
     (idx (bif Nat.beq (2+(((wrap .i64 (dC+1):Int).toNat)*1)) 2 then fh else (bif Nat.beq (2+(((wrap .i64 (dC+1):Int).toNat)*1)) 3 then e8 else (bif Nat.beq (2+(((wrap .i64 (dC+1):Int).toNat)*1)) 4 then gN else (bif Nat.beq (2+(((wrap .i64 (dC+1):Int).toNat)*1)) 5 then gO else (bif Nat.beq (2+(((wrap .i64 (dC+1):Int).toNat)*1)) 6 then iG else (bif Nat.beq (2+(((wrap .i64 (dC+1):Int).toNat)*1)) 7 then iH else (bif Nat.beq (2+(((wrap .i64 (dC+1):Int).toNat)*1)) 8 then iI else (bif Nat.beq (2+(((wrap .i64 (dC+1):Int).toNat)*1)) 9 then iJ else (bif Nat.beq (2+(((wrap .i64 (dC+1):Int).toNat)*1)) 10 then hY else (bif Nat.beq (2+(((wrap .i64 (dC+1):Int).toNat)*1)) 11 then ia else (bif Nat.beq (2+(((wrap .i64 (dC+1):Int).toNat)*1)) 12 then ib else ([]:LV)))))))))))) oj.toInt).bind fun p9=>
     bif (decide (0≤(wrap .i64 (top-1))))&&(decide ((wrap .i64 (top-1))<61)) then
     (nQ[(wrap .i64 (top-1):Int).toNat]?).bind fun j9=>
     kr (top,bj nQ (wrap .i64 (top-1)) (V.int .i64 p9.toInt))
     else none
    else none
    else none
   else none
   else
   kr (top,nQ)
noncomputable def Fc (C:af) (t11:LV) (t12:Int) (eY:LV) (eZ:Int) (fh e8 gN gO iG iH iI iJ hY ia ib iK:LV) (top t13:Int) (nQ:LV) {β:Type} (kn:(Int×Int×LV)→Option β) (kr:(Int×Int×Bool×LV)→Option β):Option β:=
 bif decide (t13<t12) then
  (idx t11 t13).bind fun x1=>
  xg C top t11 t12 t13 ((x1.cell 0).toInt) ((((x1.cell 0).toInt):Int)==0) eY eZ fh e8 gN gO iG iH iI iJ hY ia ib iK nQ ((x1.cell 0).toInt) ((x1.cell 1).toInt) (un fun (avy:Int) (avz:LV)=>
   kn (avy,wrap .i64 (t13+1),avz))
 else
  kr (top,t13,decide (t13<t12),nQ)
noncomputable def Kv (C:af) (t11:LV) (t12:Int) (eY:LV) (eZ:Int) (fh e8 gN gO iG iH iI iJ hY ia ib iK:LV):=un fun top=>un fun t13 nQ=>Fc C t11 t12 eY eZ fh e8 gN gO iG iH iI iJ hY ia ib iK top t13 nQ (fun y=>some (Sum.inl y)) (fun r=>some (Sum.inr r))
noncomputable def af2 (C:af):cN:=Mx 319 Uu [[0,2,3,4,7,8,9,10,11,12,13,14,15,16,17,18,19,20,0]] (@xg C) (bL 65 Uv [H1,EQ,EQ,H1,EQ,EQ,EQ,EQ,EQ,EQ,EQ,EQ,EQ,EQ,EQ,EQ,EQ,EQ,H1] [[0,2,3,0,0,5,6,7,8,9,10,11,12,13,14,15,16,17,18,0]] (@Fc C) bM)
theorem avA (C:af):bD C (af2 C) 119 (Cd 19 [1,1,1,0,1,0,0,1,1,0,0,1,1,0,1,0] [1,1,1,0,1,0,0,1,1,0,0,1,1,0,1,1] 119):=Mw Uu [[0,2,3,4,7,8,9,10,11,12,13,14,15,16,17,18,19,20,0]] (@xg C) (bA av) (bA av)
theorem avB (C:af):bD C (af2 C) 119 (Lp [1,1,1,0,1,0,0] 119):=bN Uv [H1,EQ,EQ,H1,EQ,EQ,EQ,EQ,EQ,EQ,EQ,EQ,EQ,EQ,EQ,EQ,EQ,EQ,H1] [[0,2,3,0,0,5,6,7,8,9,10,11,12,13,14,15,16,17,18,0]] (@Fc C) (bA (bE (avA C) av))
noncomputable def XX (C:af) (p eY:LV) (eZ:Int) (fh e8 gN gO iG iH iI iJ hY ia ib iK:LV):Option LV:=
 (Loop (Kv C p (p.length:Int) eY eZ fh e8 gN gO iG iH iI iJ hY ia ib iK) (0,0,(List.replicate 61 (V.int .i64 0):LV))).bind (un fun azD=>un fun xp=>un fun (F9:Bool) (avC:LV)=>
  (avC[0]?).bind fun DR=>
  some [V.int .i64 DR.toInt,.list ag eY,V.int .i64 eZ,.list ab fh,.list ab e8,.list ab gN,.list ab gO,.list ab iG,.list ab iH,.list ab iI,.list ab iJ,.list ab hY,.list ab ia,.list ab ib,.list ab iK])
theorem air {p eY:LV} {eZ:Int} {fh e8 gN gO iG iH iI iJ hY ia ib iK:LV} {r:Option LV} (h:XX CC p eY eZ fh e8 gN gO iG iH iI iJ hY ia ib iK=r):CC Fb [.list bJ p,.list ag eY,V.int .i64 eZ,.list ab fh,.list ab e8,.list ab gN,.list ab gO,.list ab iG,.list ab iH,.list ab iI,.list ab iJ,.list ab hY,.list ab ia,.list ab ib,.list ab iK]=r:=bO (bE (avB CC) av) h
def xh (m t:Nat) (s:Nat×Nat):Option Nat:=
 if s.1=0 then (if t<60 then some (t+1) else none)
 else if s.1=1 then (if t<60∧s.2<m then some (t+1) else none)
 else if s.1=2 then (if 2≤t then some (t-1) else none)
 else if s.1=3 then (if 1≤t then some t else none) else none
def mP (m:Nat):List (Nat×Nat)→Nat→Option Nat
 | [],t=>some t
 | s::p,t=>(xh m t s).bind (mP m p)
theorem XZ {m t n:Nat}:xh m t (0,n)=if t<60 then some (t+1) else none:=rfl
theorem PZ {m t n:Nat}:xh m t (1,n)=if t<60∧n<m then some (t+1) else none:=rfl
theorem X0 {m t n:Nat}:xh m t (2,n)=if 2≤t then some (t-1) else none:=rfl
theorem X2 {m t n:Nat}:xh m t (3,n)=if 1≤t then some t else none:=rfl
def SI (K t:Nat) (l:LV):Prop:=l.length=61∧t≤60∧∀i,i<t→∃v,v<K∧l[i]? =some (nV v)
theorem SI.put {K t:Nat} {l:LV} (h:SI K t l) {i v t':Nat} (hi:i≤t) (hv:v<K) (ht:t'≤t∨(t'=t+1∧i=t)) (h60:t'≤60):SI K t' (l.set i (nV v)):=by
 obtain ⟨h1,h2,h3⟩:=h;refine ⟨by rw[o4,h1],h60,fun j hj=> ?_⟩;by_cases c:i=j
 ·subst c;exact ⟨v,hv,qc (by omega)⟩
 ·rw[wA c];exact h3 j (by omega)
theorem Kw {t:Nat} (h:1≤t) (h6:t≤1000):wrap .i64 ((t:Int)-1)=((t-1:Nat):Int):=by
 rw[show ((t:Int)-1)=((t-1:Nat):Int) by omega];exact wrap64 (by omega) (by omega)
def VL (K m:Nat) (l:LV):Prop:=l.length=m∧∀i,i<m→∃v,v<K∧l[i]? =some (nV v)
section
variable {K:Nat} {mul:Nat→Nat→Nat} (h:Tb K mul) {p:List (Nat×Nat)} (hp: ∀s∈p,fo s) (hl:p.length≤1000) {A B:LV} (hP:OG K p p.length A B) {one:Int} (h1:(∃s∈p,s.1=0)→∃o:Nat,o<K∧one=(o:Int))
  {m:Nat} {vs:LV} (hv:VL K m vs) (hw:mP m p 0=some 1)
include h hp hl hP h1 hv hw
end
noncomputable def Fg (C:af) (t16:Int) (e9 fa ey fp:LV) (fq:Int) (ft fu fv fw fx fy fA fB fC fD fE Wg:LV) (t17:Int) (iK:LV) {β:Type} (kn:(Int×LV)→Option β) (kr:(Int×Bool×LV)→Option β):Option β:=
 bif decide (t17<t16) then
  aP Wg t17 fun x1=>
  (idx ey t17).bind fun x2=>
  (idx x2.toList x1.toInt).bind fun x3=>
  aP iK t17 fun x4=>
  kn (wrap .i64 (t17+1),bj iK t17 (V.int .i64 x3.toInt))
 else
  kr (t17,decide (t17<t16),iK)
noncomputable def P0 (C:af) (t16:Int) (e9 fa ey fp:LV) (fq:Int) (ft fu fv fw fx fy fA fB fC fD fE Wg:LV):=un fun t17 iK=>Fg C t16 e9 fa ey fp fq ft fu fv fw fx fy fA fB fC fD fE Wg t17 iK (fun y=>some (Sum.inl y)) (fun r=>some (Sum.inr r))
noncomputable def avD (C:af):cN:=bL 49 T8 [EQ,H1,EQ,EQ,EQ,EQ,EQ,EQ,EQ,EQ,EQ,EQ,EQ,EQ,EQ,EQ,EQ,EQ,H1,EQ] [[1,0,0,3,4,5,6,7,8,9,10,11,12,13,14,15,16,17,18,0,20]] (@Fg C) bM
theorem avE (C:af):bD C (avD C) 79 (Lp [1,1,0,1,0,0] 79):=bN T8 [EQ,H1,EQ,EQ,EQ,EQ,EQ,EQ,EQ,EQ,EQ,EQ,EQ,EQ,EQ,EQ,EQ,EQ,H1,EQ] [[1,0,0,3,4,5,6,7,8,9,10,11,12,13,14,15,16,17,18,0,20]] (@Fg C) (bA av)
noncomputable def Yb (C:af) (e9 fa ey fp:LV) (fq:Int) (ft fu fv fw fx fy fA fB fC fD fE aO:LV):Option LV:=
 bif (decide (0≤(aO.length:Int)))&&((decide ((aO.length:Int)≤(aO.length:Int)))&&(Nat.ble (((aO.length:Int).toNat)*8) ba)) then
  (Loop (P0 C (aO.length:Int) e9 fa ey fp fq ft fu fv fw fx fy fA fB fC fD fE aO) (0,List.replicate ((aO.length:Int).toNat) (V.int .i64 0))).bind (un fun lF=>un fun (jY:Bool) (avF:LV)=>
   some [.list bJ e9,.list bJ fa,.list ag ey,.list ag fp,V.int .i64 fq,.list ab ft,.list ab fu,.list ab fv,.list ab fw,.list ab fx,.list ab fy,.list ab fA,.list ab fB,.list ab fC,.list ab fD,.list ab fE,.list ab avF,.list ab aO])
 else none
theorem ait {e9 fa ey fp:LV} {fq:Int} {ft fu fv fw fx fy fA fB fC fD fE aO:LV} {r:Option LV} (h:Yb CC e9 fa ey fp fq ft fu fv fw fx fy fA fB fC fD fE aO=r):CC Ff [.list bJ e9,.list bJ fa,.list ag ey,.list ag fp,V.int .i64 fq,.list ab ft,.list ab fu,.list ab fv,.list ab fw,.list ab fx,.list ab fy,.list ab fA,.list ab fB,.list ab fC,.list ab fD,.list ab fE,.list ab aO]=r:=bO (bE (avE CC) av) h
noncomputable def BL (C:af) (e9 fa ey fp:LV) (fq:Int) (ft fu fv fw fx fy fA fB fC fD fE:LV) (i:Int) (aQ:LV) {β:Type} (kn:(Int×LV)→Option β) (kr:((Bool×LV) ⊕ (Int×Bool×LV))→Option β):Option β:=
 bif decide (i≥0) then
  aP aQ i fun x1=>
  aP aQ i fun x2=>
  aP (bj aQ i (V.int .i64 (wrap .i64 (x1.toInt+1)))) i fun x3=>
  (idx ey i).bind fun x4=>
  bif decide ((x3.toInt:Int)<(x4.toList.length:Int)) then
  kr (.inl (true,bj aQ i (V.int .i64 (wrap .i64 (x1.toInt+1)))))
  else
  aP (bj aQ i (V.int .i64 (wrap .i64 (x1.toInt+1)))) i fun x5=>
  kn (wrap .i64 (i-1),bj (bj aQ i (V.int .i64 (wrap .i64 (x1.toInt+1)))) i (V.int .i64 0))
 else
  kr (.inr (i,decide (i≥0),aQ))
noncomputable def Fi (C:af) (e9 fa ey fp:LV) (fq:Int) (ft fu fv fw fx fy fA fB fC fD fE:LV):=un fun i aQ=>BL C e9 fa ey fp fq ft fu fv fw fx fy fA fB fC fD fE i aQ (fun y=>some (Sum.inl y)) (fun r=>some (Sum.inr r))
noncomputable def avG (C:af):cN:=bL 33 Uw [H1,EQ,EQ,EQ,EQ,EQ,EQ,EQ,EQ,EQ,EQ,EQ,EQ,EQ,EQ,EQ,EQ,H1] [[0,2,3,4,5,6,7,8,9,10,11,12,13,14,15,16,17,0],[0,0,2,3,4,5,6,7,8,9,10,11,12,13,14,15,16,17,0]] (@BL C) bM
theorem avH (C:af):bD C (avG C) 120 (Lp [1,0,1,0,0] 120):=bN Uw [H1,EQ,EQ,EQ,EQ,EQ,EQ,EQ,EQ,EQ,EQ,EQ,EQ,EQ,EQ,EQ,EQ,H1] [[0,2,3,4,5,6,7,8,9,10,11,12,13,14,15,16,17,0],[0,0,2,3,4,5,6,7,8,9,10,11,12,13,14,15,16,17,0]] (@BL C) (bA av)
noncomputable def Kx (C:af) (e9 fa ey fp:LV) (fq:Int) (ft fu fv fw fx fy fA fB fC fD fE aO:LV):Option LV:=
 (Loop (Fi C e9 fa ey fp fq ft fu fv fw fx fy fA fB fC fD fE) (wrap .i64 ((aO.length:Int)-1),aO)).bind (fJ (un fun (jY:Bool) (Ic:LV)=>
  some [.bool jY,.list bJ e9,.list bJ fa,.list ag ey,.list ag fp,V.int .i64 fq,.list ab ft,.list ab fu,.list ab fv,.list ab fw,.list ab fx,.list ab fy,.list ab fA,.list ab fB,.list ab fC,.list ab fD,.list ab fE,.list ab Ic]) (un fun i_8=>un fun (wg:Bool) (qM:LV)=>
  some [.bool false,.list bJ e9,.list bJ fa,.list ag ey,.list ag fp,V.int .i64 fq,.list ab ft,.list ab fu,.list ab fv,.list ab fw,.list ab fx,.list ab fy,.list ab fA,.list ab fB,.list ab fC,.list ab fD,.list ab fE,.list ab qM]))
theorem aiv {e9 fa ey fp:LV} {fq:Int} {ft fu fv fw fx fy fA fB fC fD fE aO:LV} {r:Option LV} (h:Kx CC e9 fa ey fp fq ft fu fv fw fx fy fA fB fC fD fE aO=r):CC Fh [.list bJ e9,.list bJ fa,.list ag ey,.list ag fp,V.int .i64 fq,.list ab ft,.list ab fu,.list ab fv,.list ab fw,.list ab fx,.list ab fy,.list ab fA,.list ab fB,.list ab fC,.list ab fD,.list ab fE,.list ab aO]=r:=bO (bE (avH CC) av) h
noncomputable def Fk (C:af) (qR steps t21:Int) (e9 fa ey fp:LV) (fq:Int) (ft fu fv fw fx fy fA fB fC fD fE Wh:LV) (t22:Int) (iK:LV) {β:Type} (kn:(Int×LV)→Option β) (kr:(Int×Bool×LV)→Option β):Option β:=
 bif decide (t22<t21) then
  aP Wh t22 fun x2=>
  (idx ey t22).bind fun x3=>
  (idx x3.toList x2.toInt).bind fun x4=>
  aP iK t22 fun x5=>
  kn (wrap .i64 (t22+1),bj iK t22 (V.int .i64 x4.toInt))
 else
  kr (t22,decide (t22<t21),iK)
noncomputable def Ky (C:af) (qR steps t21:Int) (e9 fa ey fp:LV) (fq:Int) (ft fu fv fw fx fy fA fB fC fD fE Wh:LV):=un fun t22 iK=>Fk C qR steps t21 e9 fa ey fp fq ft fu fv fw fx fy fA fB fC fD fE Wh t22 iK (fun y=>some (Sum.inl y)) (fun r=>some (Sum.inr r))
noncomputable def yN (C:af) (qR steps:Int) (e9 fa ey fp:LV) (fq:Int) (ft fu fv fw fx fy fA fB fC fD fE iK aV:LV) {β:Type} (kn:(Int×LV×LV×LV×LV×Int×LV×LV×LV×LV×LV×LV×LV×LV×LV×LV×LV×LV×LV)→Option β) (kr:((Int×Bool×Bool×LV×LV×LV×LV×Int×LV×LV×LV×LV×LV×LV×LV×LV×LV×LV×LV×LV) ⊕ (Int×Bool×LV×LV×LV×LV×Int×LV×LV×LV×LV×LV×LV×LV×LV×LV×LV×LV×LV×LV))→Option β):Option β:=
 bif decide (steps<qR) then
  (Loop (Ky C qR (wrap .i64 (steps+1)) (aV.length:Int) e9 fa ey fp fq ft fu fv fw fx fy fA fB fC fD fE aV) (0,iK)).bind (un fun jY=>un fun (nu:Bool) (avI:LV)=>
   (C Fb [.list bJ e9,.list ag fp,V.int .i64 fq,.list ab ft,.list ab fu,.list ab fv,.list ab fw,.list ab fx,.list ab fy,.list ab fA,.list ab fB,.list ab fC,.list ab fD,.list ab fE,.list ab avI]).bind fun r9=>
   (C Fb [.list bJ fa,.list ag ((V.nth (r9.drop 1) 0).toList),V.int .i64 ((V.nth ((r9.drop 1).drop 1) 0).toInt),.list ab ((V.nth (((r9.drop 1).drop 1).drop 1) 0).toList),.list ab ((V.nth ((((r9.drop 1).drop 1).drop 1).drop 1) 0).toList),.list ab ((V.nth (((((r9.drop 1).drop 1).drop 1).drop 1).drop 1) 0).toList),.list ab ((V.nth ((((((r9.drop 1).drop 1).drop 1).drop 1).drop 1).drop 1) 0).toList),.list ab ((V.nth (((((((r9.drop 1).drop 1).drop 1).drop 1).drop 1).drop 1).drop 1) 0).toList),.list ab ((V.nth ((((((((r9.drop 1).drop 1).drop 1).drop 1).drop 1).drop 1).drop 1).drop 1) 0).toList),.list ab ((V.nth (((((((((r9.drop 1).drop 1).drop 1).drop 1).drop 1).drop 1).drop 1).drop 1).drop 1) 0).toList),.list ab ((V.nth ((((((((((r9.drop 1).drop 1).drop 1).drop 1).drop 1).drop 1).drop 1).drop 1).drop 1).drop 1) 0).toList),.list ab ((V.nth (((((((((((r9.drop 1).drop 1).drop 1).drop 1).drop 1).drop 1).drop 1).drop 1).drop 1).drop 1).drop 1) 0).toList),.list ab ((V.nth ((((((((((((r9.drop 1).drop 1).drop 1).drop 1).drop 1).drop 1).drop 1).drop 1).drop 1).drop 1).drop 1).drop 1) 0).toList),.list ab ((V.nth (((((((((((((r9.drop 1).drop 1).drop 1).drop 1).drop 1).drop 1).drop 1).drop 1).drop 1).drop 1).drop 1).drop 1).drop 1) 0).toList),.list ab ((V.nth ((r9.drop 1).drop 13) 0).toList)]).bind fun ff=>
   bif (((V.nth r9 0).toInt):Int) != ((V.nth ff 0).toInt) then
   kr (.inl (wrap .i64 (steps+1),true,true,e9,fa,ey,(V.nth (ff.drop 1) 0).toList,(V.nth ((ff.drop 1).drop 1) 0).toInt,(V.nth (((ff.drop 1).drop 1).drop 1) 0).toList,(V.nth ((((ff.drop 1).drop 1).drop 1).drop 1) 0).toList,(V.nth (((((ff.drop 1).drop 1).drop 1).drop 1).drop 1) 0).toList,(V.nth ((((((ff.drop 1).drop 1).drop 1).drop 1).drop 1).drop 1) 0).toList,(V.nth (((((((ff.drop 1).drop 1).drop 1).drop 1).drop 1).drop 1).drop 1) 0).toList,(V.nth ((((((((ff.drop 1).drop 1).drop 1).drop 1).drop 1).drop 1).drop 1).drop 1) 0).toList,(V.nth (((((((((ff.drop 1).drop 1).drop 1).drop 1).drop 1).drop 1).drop 1).drop 1).drop 1) 0).toList,(V.nth ((((((((((ff.drop 1).drop 1).drop 1).drop 1).drop 1).drop 1).drop 1).drop 1).drop 1).drop 1) 0).toList,(V.nth (((((((((((ff.drop 1).drop 1).drop 1).drop 1).drop 1).drop 1).drop 1).drop 1).drop 1).drop 1).drop 1) 0).toList,(V.nth ((((((((((((ff.drop 1).drop 1).drop 1).drop 1).drop 1).drop 1).drop 1).drop 1).drop 1).drop 1).drop 1).drop 1) 0).toList,(V.nth (((((((((((((ff.drop 1).drop 1).drop 1).drop 1).drop 1).drop 1).drop 1).drop 1).drop 1).drop 1).drop 1).drop 1).drop 1) 0).toList,aV))
   else
   (C Fh [.list bJ e9,.list bJ fa,.list ag ey,.list ag ((V.nth (ff.drop 1) 0).toList),V.int .i64 ((V.nth ((ff.drop 1).drop 1) 0).toInt),.list ab ((V.nth (((ff.drop 1).drop 1).drop 1) 0).toList),.list ab ((V.nth ((((ff.drop 1).drop 1).drop 1).drop 1) 0).toList),.list ab ((V.nth (((((ff.drop 1).drop 1).drop 1).drop 1).drop 1) 0).toList),.list ab ((V.nth ((((((ff.drop 1).drop 1).drop 1).drop 1).drop 1).drop 1) 0).toList),.list ab ((V.nth (((((((ff.drop 1).drop 1).drop 1).drop 1).drop 1).drop 1).drop 1) 0).toList),.list ab ((V.nth ((((((((ff.drop 1).drop 1).drop 1).drop 1).drop 1).drop 1).drop 1).drop 1) 0).toList),.list ab ((V.nth (((((((((ff.drop 1).drop 1).drop 1).drop 1).drop 1).drop 1).drop 1).drop 1).drop 1) 0).toList),.list ab ((V.nth ((((((((((ff.drop 1).drop 1).drop 1).drop 1).drop 1).drop 1).drop 1).drop 1).drop 1).drop 1) 0).toList),.list ab ((V.nth (((((((((((ff.drop 1).drop 1).drop 1).drop 1).drop 1).drop 1).drop 1).drop 1).drop 1).drop 1).drop 1) 0).toList),.list ab ((V.nth ((((((((((((ff.drop 1).drop 1).drop 1).drop 1).drop 1).drop 1).drop 1).drop 1).drop 1).drop 1).drop 1).drop 1) 0).toList),.list ab ((V.nth (((((((((((((ff.drop 1).drop 1).drop 1).drop 1).drop 1).drop 1).drop 1).drop 1).drop 1).drop 1).drop 1).drop 1).drop 1) 0).toList),.list ab aV]).bind fun cH=>
   bif !((V.nth cH 0).toBool) then
    kr (.inl (wrap .i64 (steps+1),false,true,(V.nth (cH.drop 1) 0).toList,(V.nth ((cH.drop 1).drop 1) 0).toList,(V.nth (((cH.drop 1).drop 1).drop 1) 0).toList,(V.nth ((cH.drop 1).drop 3) 0).toList,(V.nth (((cH.drop 1).drop 3).drop 1) 0).toInt,(V.nth ((((cH.drop 1).drop 3).drop 1).drop 1) 0).toList,(V.nth (((((cH.drop 1).drop 3).drop 1).drop 1).drop 1) 0).toList,(V.nth ((((((cH.drop 1).drop 3).drop 1).drop 1).drop 1).drop 1) 0).toList,(V.nth (((((((cH.drop 1).drop 3).drop 1).drop 1).drop 1).drop 1).drop 1) 0).toList,(V.nth ((((((((cH.drop 1).drop 3).drop 1).drop 1).drop 1).drop 1).drop 1).drop 1) 0).toList,(V.nth (((((((((cH.drop 1).drop 3).drop 1).drop 1).drop 1).drop 1).drop 1).drop 1).drop 1) 0).toList,(V.nth ((((((((((cH.drop 1).drop 3).drop 1).drop 1).drop 1).drop 1).drop 1).drop 1).drop 1).drop 1) 0).toList,(V.nth (((((((((((cH.drop 1).drop 3).drop 1).drop 1).drop 1).drop 1).drop 1).drop 1).drop 1).drop 1).drop 1) 0).toList,(V.nth ((((((((((((cH.drop 1).drop 3).drop 1).drop 1).drop 1).drop 1).drop 1).drop 1).drop 1).drop 1).drop 1).drop 1) 0).toList,(V.nth (((((((((((((cH.drop 1).drop 3).drop 1).drop 1).drop 1).drop 1).drop 1).drop 1).drop 1).drop 1).drop 1).drop 1).drop 1) 0).toList,(V.nth ((((((((((((((cH.drop 1).drop 3).drop 1).drop 1).drop 1).drop 1).drop 1).drop 1).drop 1).drop 1).drop 1).drop 1).drop 1).drop 1) 0).toList,(V.nth (((cH.drop 1).drop 3).drop 13) 0).toList))
   else
    kn (wrap .i64 (steps+1),(V.nth (cH.drop 1) 0).toList,(V.nth ((cH.drop 1).drop 1) 0).toList,(V.nth (((cH.drop 1).drop 1).drop 1) 0).toList,(V.nth ((cH.drop 1).drop 3) 0).toList,(V.nth (((cH.drop 1).drop 3).drop 1) 0).toInt,(V.nth ((((cH.drop 1).drop 3).drop 1).drop 1) 0).toList,(V.nth (((((cH.drop 1).drop 3).drop 1).drop 1).drop 1) 0).toList,(V.nth ((((((cH.drop 1).drop 3).drop 1).drop 1).drop 1).drop 1) 0).toList,(V.nth (((((((cH.drop 1).drop 3).drop 1).drop 1).drop 1).drop 1).drop 1) 0).toList,(V.nth ((((((((cH.drop 1).drop 3).drop 1).drop 1).drop 1).drop 1).drop 1).drop 1) 0).toList,(V.nth (((((((((cH.drop 1).drop 3).drop 1).drop 1).drop 1).drop 1).drop 1).drop 1).drop 1) 0).toList,(V.nth ((((((((((cH.drop 1).drop 3).drop 1).drop 1).drop 1).drop 1).drop 1).drop 1).drop 1).drop 1) 0).toList,(V.nth (((((((((((cH.drop 1).drop 3).drop 1).drop 1).drop 1).drop 1).drop 1).drop 1).drop 1).drop 1).drop 1) 0).toList,(V.nth ((((((((((((cH.drop 1).drop 3).drop 1).drop 1).drop 1).drop 1).drop 1).drop 1).drop 1).drop 1).drop 1).drop 1) 0).toList,(V.nth (((((((((((((cH.drop 1).drop 3).drop 1).drop 1).drop 1).drop 1).drop 1).drop 1).drop 1).drop 1).drop 1).drop 1).drop 1) 0).toList,(V.nth ((((((((((((((cH.drop 1).drop 3).drop 1).drop 1).drop 1).drop 1).drop 1).drop 1).drop 1).drop 1).drop 1).drop 1).drop 1).drop 1) 0).toList,(V.nth ((ff.drop 1).drop 13) 0).toList,(V.nth (((cH.drop 1).drop 3).drop 13) 0).toList))
 else
  kr (.inr (steps,decide (steps<qR),e9,fa,ey,fp,fq,ft,fu,fv,fw,fx,fy,fA,fB,fC,fD,fE,iK,aV))
noncomputable def BO (C:af) (qR:Int):=un fun steps=>un fun e9=>un fun fa=>un fun ey=>un fun fp=>un fun fq=>un fun ft=>un fun fu=>un fun fv=>un fun fw=>un fun fx=>un fun fy=>un fun fA=>un fun fB=>un fun fC=>un fun fD=>un fun fE=>un fun iK aV=>yN C qR steps e9 fa ey fp fq ft fu fv fw fx fy fA fB fC fD fE iK aV (fun y=>some (Sum.inl y)) (fun r=>some (Sum.inr r))
noncomputable def af3 (C:af):cN:=bL 81 T6 [EQ,EQ,EQ,H1,EQ,EQ,EQ,EQ,EQ,EQ,EQ,EQ,EQ,EQ,EQ,EQ,EQ,EQ,EQ,EQ,H1,EQ] [[1,2,3,0,0,5,6,7,8,9,10,11,12,13,14,15,16,17,18,19,20,0,22]] (@Fk C) (bL 33 T7 [EQ,H1,H1,H1,H1,H1,H1,H1,H1,H1,H1,H1,H1,H1,H1,H1,H1,H1,H1,H1] [[0,0,0,0,0,0,0,0,0,0,0,0,0,0,0,0,0,0,0,0],[1,0,0,0,0,0,0,0,0,0,0,0,0,0,0,0,0,0,0,0,0]] (@yN C) bM)
theorem avJ (C:af):bD C (af3 C) 78 (Lp [1,1,0,0,0,1,0,1,0,1,0,0] 78):=bN T6 [EQ,EQ,EQ,H1,EQ,EQ,EQ,EQ,EQ,EQ,EQ,EQ,EQ,EQ,EQ,EQ,EQ,EQ,EQ,EQ,H1,EQ] [[1,2,3,0,0,5,6,7,8,9,10,11,12,13,14,15,16,17,18,19,20,0,22]] (@Fk C) (bA av)
theorem avK (C:af):bD C (af3 C) 78 (Lp [1,1,0,0,0] 78):=bN T7 [EQ,H1,H1,H1,H1,H1,H1,H1,H1,H1,H1,H1,H1,H1,H1,H1,H1,H1,H1,H1] [[0,0,0,0,0,0,0,0,0,0,0,0,0,0,0,0,0,0,0,0],[1,0,0,0,0,0,0,0,0,0,0,0,0,0,0,0,0,0,0,0,0]] (@yN C) (bA (bE (avJ C) av))
noncomputable def KA (C:af) (qR:Int) (e9 fa ey fp:LV) (fq:Int) (ft fu fv fw fx fy fA fB fC fD fE aO:LV):Option LV:=
 (C Ff [.list bJ e9,.list bJ fa,.list ag ey,.list ag fp,V.int .i64 fq,.list ab ft,.list ab fu,.list ab fv,.list ab fw,.list ab fx,.list ab fy,.list ab fA,.list ab fB,.list ab fC,.list ab fD,.list ab fE,.list ab aO]).bind fun r1=>
 (Loop (BO C qR) (0,(V.nth r1 0).toList,(V.nth (r1.drop 1) 0).toList,(V.nth ((r1.drop 1).drop 1) 0).toList,(V.nth (r1.drop 3) 0).toList,(V.nth ((r1.drop 3).drop 1) 0).toInt,(V.nth (((r1.drop 3).drop 1).drop 1) 0).toList,(V.nth ((((r1.drop 3).drop 1).drop 1).drop 1) 0).toList,(V.nth (((((r1.drop 3).drop 1).drop 1).drop 1).drop 1) 0).toList,(V.nth ((((((r1.drop 3).drop 1).drop 1).drop 1).drop 1).drop 1) 0).toList,(V.nth (((((((r1.drop 3).drop 1).drop 1).drop 1).drop 1).drop 1).drop 1) 0).toList,(V.nth ((((((((r1.drop 3).drop 1).drop 1).drop 1).drop 1).drop 1).drop 1).drop 1) 0).toList,(V.nth (((((((((r1.drop 3).drop 1).drop 1).drop 1).drop 1).drop 1).drop 1).drop 1).drop 1) 0).toList,(V.nth ((((((((((r1.drop 3).drop 1).drop 1).drop 1).drop 1).drop 1).drop 1).drop 1).drop 1).drop 1) 0).toList,(V.nth (((((((((((r1.drop 3).drop 1).drop 1).drop 1).drop 1).drop 1).drop 1).drop 1).drop 1).drop 1).drop 1) 0).toList,(V.nth ((((((((((((r1.drop 3).drop 1).drop 1).drop 1).drop 1).drop 1).drop 1).drop 1).drop 1).drop 1).drop 1).drop 1) 0).toList,(V.nth (((((((((((((r1.drop 3).drop 1).drop 1).drop 1).drop 1).drop 1).drop 1).drop 1).drop 1).drop 1).drop 1).drop 1).drop 1) 0).toList,(V.nth ((r1.drop 3).drop 13) 0).toList,(V.nth (((r1.drop 3).drop 13).drop 1) 0).toList)).bind (fJ (un fun avL=>un fun (avM:Bool)=>un fun (avN:Bool)=>un fun (vm:LV)=>un fun (yW:LV)=>un fun (td:LV)=>un fun (we:LV)=>un fun qv=>un fun (pI:LV)=>un fun (Ak:LV)=>un fun (Al:LV)=>un fun (uA:LV)=>un fun (vq:LV)=>un fun (NU:LV)=>un fun (NV:LV)=>un fun (afp:LV)=>un fun (avO:LV)=>un fun (QE:LV)=>un fun (avP:LV) (avQ:LV)=>
  some [V.int .i64 avL,.bool avM,.bool avN,.list bJ vm,.list bJ yW,.list ag td,.list ag we,V.int .i64 qv,.list ab pI,.list ab Ak,.list ab Al,.list ab uA,.list ab vq,.list ab NU,.list ab NV,.list ab afp,.list ab avO,.list ab QE,.list ab avP,.list ab avQ]) (un fun avR=>un fun (avS:Bool)=>un fun (avT:LV)=>un fun (avU:LV)=>un fun (avV:LV)=>un fun (HZ:LV)=>un fun H0=>un fun (H2:LV)=>un fun (H3:LV)=>un fun (DI:LV)=>un fun (avW:LV)=>un fun (avX:LV)=>un fun (H4:LV)=>un fun (VB:LV)=>un fun (VC:LV)=>un fun (DK:LV)=>un fun (xY:LV)=>un fun (H5:LV)=>un fun (azE:LV) (H6:LV)=>
  some [V.int .i64 avR,.bool false,.bool false,.list bJ avT,.list bJ avU,.list ag avV,.list ag HZ,V.int .i64 H0,.list ab H2,.list ab H3,.list ab DI,.list ab avW,.list ab avX,.list ab H4,.list ab VB,.list ab VC,.list ab DK,.list ab xY,.list ab H5,.list ab H6]))
theorem aix {qR:Int} {e9 fa ey fp:LV} {fq:Int} {ft fu fv fw fx fy fA fB fC fD fE aO:LV} {r:Option LV} (h:KA CC qR e9 fa ey fp fq ft fu fv fw fx fy fA fB fC fD fE aO=r):CC Fj [V.int .i64 qR,.list bJ e9,.list bJ fa,.list ag ey,.list ag fp,V.int .i64 fq,.list ab ft,.list ab fu,.list ab fv,.list ab fw,.list ab fx,.list ab fy,.list ab fA,.list ab fB,.list ab fC,.list ab fD,.list ab fE,.list ab aO]=r:=bO (bE (avK CC) av) h
def RV (R:List (List Nat)):LV:=R.map fun r=> .list ab (nS r)
structure RG (K:Nat) (R:List (List Nat)):Prop where
 lt: ∀i,i<R.length→∀x∈R.getD i [],x<K
 len: ∀i,i<R.length→(R.getD i []).length≤1000
 rl:R.length≤10
def NX (R:List (List Nat)) (l:LV):Prop:=l.length=R.length∧∀i,i<R.length→∃k,k<(R.getD i []).length∧l[i]? =some (nV k)
theorem BK {R:List (List Nat)} {i:Nat} (hi:i<R.length):idx (RV R) (i:Int)=some (.list ab (nS (R.getD i []))):=by
 rw[RV,Ch rfl];simp[hi]
def pA (p q:List (Nat×Nat)) (R:List (List Nat)) (t:LV) (one:Int) (A B:LV) (l:List V):List V:=
 .list bJ (p.map cp):: .list bJ (q.map cp):: .list ag (RV R)::(Ku t one A B++l)
section
variable {K:Nat} {R:List (List Nat)} (hR:RG K R) {nx:LV} (hN:NX R nx)
include hR hN
end
noncomputable def IN (C:af) (table dO t15:LV) (t16 t17:Int) (mY:LV) {β:Type} (kn:(Int×LV)→Option β) (kr:((Bool) ⊕ (Int×Bool×LV))→Option β):Option β:=
 bif decide (t17<t16) then
  (idx t15 t17).bind fun x1=>
  bif decide ((x1.toInt:Int)<0) then
  kr (.inl false)
  else
  bif decide ((x1.toInt:Int)≥(table.length:Int)) then
   kr (.inl false)
  else
   bif decide (t17>0) then
   (idx dO (wrap .i64 (t17-1))).bind fun x2=>
   bif decide ((x2.toInt:Int)≥x1.toInt) then
    kr (.inl false)
   else
    bif (decide (0≤x1.toInt))&&(decide (x1.toInt<(mY.length:Int))) then
    (mY[(x1.toInt:Int).toNat]?).bind fun x3=>
    kn (wrap .i64 (t17+1),bj mY (x1.toInt) (.bool true))
    else none
   else
   bif (decide (0≤x1.toInt))&&(decide (x1.toInt<(mY.length:Int))) then
    (mY[(x1.toInt:Int).toNat]?).bind fun x4=>
    kn (wrap .i64 (t17+1),bj mY (x1.toInt) (.bool true))
   else none
 else
  kr (.inr (t17,decide (t17<t16),mY))
noncomputable def OH (C:af) (table dO t15:LV) (t16:Int):=un fun t17 mY=>IN C table dO t15 t16 t17 mY (fun y=>some (Sum.inl y)) (fun r=>some (Sum.inr r))
noncomputable def IP (C:af) (table dO:LV) (x:Int) (t47:LV) (t48 t49:Int) (t53:LV) (t54:Int) (mY:LV) (t55:Int) {β:Type} (kn:Int→Option β) (kr:((Bool) ⊕ (Int×Bool))→Option β):Option β:=
 bif decide (t55<t54) then
  (idx t53 t55).bind fun oj=>
  (idx table x).bind fun p9=>
  (idx p9.toList oj.toInt).bind fun j9=>
  bif (decide (0≤j9.toInt))&&(decide (j9.toInt<(mY.length:Int))) then
  (mY[(j9.toInt:Int).toNat]?).bind fun Cg=>
  bif !Cg.toBool then
   kr (.inl false)
  else
   kn (wrap .i64 (t55+1))
  else none
 else
  kr (.inr (t55,decide (t55<t54)))
noncomputable def OI (C:af) (table dO:LV) (x:Int) (t47:LV) (t48 t49:Int) (t53:LV) (t54:Int) (mY:LV):=fun t55=>IP C table dO x t47 t48 t49 t53 t54 mY t55 (fun y=>some (Sum.inl y)) (fun r=>some (Sum.inr r))
noncomputable def IQ (C:af) (table dO t47:LV) (t48:Int) (mY:LV) (t49:Int) {β:Type} (kn:Int→Option β) (kr:((Bool) ⊕ (Int×Bool))→Option β):Option β:=
 bif decide (t49<t48) then
  (idx t47 t49).bind fun x9=>
  (Loop (OI C table dO x9.toInt t47 t48 t49 dO (dO.length:Int) mY) 0).bind (fJ (fun (vo:Bool)=>
   kr (.inl vo)) (un fun (B6:Int) (xp:Bool)=>
   kn (wrap .i64 (t49+1))))
 else
  kr (.inr (t49,decide (t49<t48)))
noncomputable def OJ (C:af) (table dO t47:LV) (t48:Int) (mY:LV):=fun t49=>IQ C table dO t47 t48 mY t49 (fun y=>some (Sum.inl y)) (fun r=>some (Sum.inr r))
noncomputable def Wi (C:af):cN:=bL 49 Um [EQ,EQ,EQ,EQ,H1,H1] [[0],[1,2,3,4,0,0,0]] (@IN C) (bL 209 Un [EQ,EQ,EQ,EQ,EQ,EQ,EQ,EQ,H1,EQ] [[0],[1,2,3,4,5,6,7,8,0,0,10]] (@IP C) (bL 161 Uo [EQ,EQ,EQ,EQ,H1,EQ] [[0],[1,2,3,4,0,0,6]] (@IQ C) bM))
theorem avY (C:af):bD C (Wi C) 111 (Lp [1,1,0,1,0,0] 111):=bN Um [EQ,EQ,EQ,EQ,H1,H1] [[0],[1,2,3,4,0,0,0]] (@IN C) (bA av)
theorem avZ (C:af):bD C (Wi C) 111 (Lp [1,1,1,0,1,0,0,1,1,0,0,1,1,0,0] 111):=bN Un [EQ,EQ,EQ,EQ,EQ,EQ,EQ,EQ,H1,EQ] [[0],[1,2,3,4,5,6,7,8,0,0,10]] (@IP C) (bA av)
theorem av0 (C:af):bD C (Wi C) 111 (Lp [1,1,1,0,1,0,0] 111):=bN Uo [EQ,EQ,EQ,EQ,H1,EQ] [[0],[1,2,3,4,0,0,6]] (@IQ C) (bA (bE (avZ C) av))
noncomputable def OK (C:af) (table dO:LV):Option LV:=
 bif (decide (0≤(table.length:Int)))&&((decide ((table.length:Int)≤(table.length:Int)))&&(Nat.ble (((table.length:Int).toNat)*1) ba)) then
  (Loop (OH C table dO dO (dO.length:Int)) (0,List.replicate ((table.length:Int).toNat) (V.bool false))).bind (fJ (fun (lF:Bool)=>
   some [.bool lF]) (un fun jY=>un fun (nu:Bool) (av1:LV)=>
   (Loop (OJ C table dO dO (dO.length:Int) av1) 0).bind (fJ (fun (F9:Bool)=>
    some [.bool F9]) (un fun (V6:Int) (V7:Bool)=>
    some [.bool true]))))
 else none
theorem av2 {table dO:LV} {r:Option LV} (h:OK CC table dO=r):CC G3 [.list ag table,.list ab dO]=r:=bO (bE (avY CC) (bE (av0 CC) av)) h
section
variable {K:Nat} {mul:Nat→Nat→Nat} (h:Tb K mul) {Z:List Nat} (hZ: ∀z∈Z,z<K) (hl:Z.length≤400)
include h hZ hl
theorem aiI: ∃b,CC G3 [.list ag (tG K mul),.list ab (nS Z)]=some [.bool b]:=by
 have h4:=h.k4;have l1: ∃r,Loop (OH CC (tG K mul) (nS Z) (nS Z) (Z.length:Int)) (0,List.replicate K (V.bool false))=some r∧((∃b,r= .inl b)∨∃a:LV,a.length=K∧r= .inr ((Z.length:Int),false,a)):=by
  refine xi (fun i x=> ∃a:LV,a.length=K∧x=((i:Int),a)) (fun (r:Bool ⊕ (Int×Bool×LV))=>(∃b,r= .inl b)∨∃a:LV,a.length=K∧r= .inr ((Z.length:Int),false,a)) Z.length (fun i hi x hx=> ?_) (fun x hx=> ?_) Z.length 0 _ (dL _) ⟨_,by simp,rfl⟩
  ·obtain ⟨a,oX,rfl⟩:=hx;have hz:=hZ _ (dd hi);simp only[OH,IN,un];rw[rA];have fin:(bif (decide (0≤(nV Z[i]).toInt))&&(decide ((nV Z[i]).toInt<(a.length:Int))) then
     (a[((nV Z[i]).toInt:Int).toNat]?).bind fun _=>some (Sum.inl (β:=Bool ⊕ (Int×Bool×LV)) (wrap .i64 ((i:Int)+1),bj a ((nV Z[i]).toInt) (V.bool true)))
     else none)=some (Sum.inl (((i+1:Nat):Int),bj a ((nV Z[i]).toInt) (V.bool true))):=by
    refine bT (oJ (by rw[oX];exact hz)) (bs (b7 (by rw[oX];exact hz)) ?_);rw[br (by omega)]
   have jm:(bj a ((nV Z[i]).toInt) (V.bool true)).length=K:=by simp only[bj];rw[o4,oX]
   rcases D8 i with c|c
   ·exact .inl ⟨_,bT (bm hi) (bs (iE hi) (bF xf (bF (DH hz) (bF (by simp[c]) fin)))),_,jm,rfl⟩
   ·have hp:idx (nS Z) (wrap .i64 ((i:Int)-1))=some (nV (Z[i-1]'(by omega))):=by
     rw[show wrap .i64 ((i:Int)-1)=((i-1:Nat):Int) by rw[show ((i:Int)-1)=((i-1:Nat):Int) by omega];exact wrap64 (by omega) (by omega)];exact iE (by omega)
    by_cases c2:((Z[i-1]'(by omega):Nat):Int)≥(Z[i]:Nat)
    ·exact .inr ⟨_,bT (bm hi) (bs (iE hi) (bF xf (bF (DH hz) (bT (cg (by omega)) (bs hp (bT (cg c2) rfl)))))),.inl ⟨_,rfl⟩⟩
    ·exact .inl ⟨_,bT (bm hi) (bs (iE hi) (bF xf (bF (DH hz) (bT (cg (by omega)) (bs hp (bF (cX c2) fin)))))),_,jm,rfl⟩
  ·obtain ⟨a,oX,rfl⟩:=hx;simp only[OH,IN,un];exact ⟨_,bF (aZ (az _)) rfl,.inr ⟨a,oX,by rw[aZ (az _)]⟩⟩
 have l2: ∀{a:LV} {x:Nat} {s:LV} {p q:Int} {u:LV},a.length=K→x<K→s=nS Z→∃r,Loop (OI CC (tG K mul) (nS Z) (x:Int) u p q s (Z.length:Int) a) 0=some r∧((∃b,r= .inl b)∨r= .inr ((Z.length:Int),false)):=by
  rintro a x _ p q u oX hx rfl;refine xi (fun i x=>x=(i:Int)) (fun (r:Bool ⊕ (Int×Bool))=>(∃b,r= .inl b)∨r= .inr ((Z.length:Int),false)) Z.length (fun i hi y hy=> ?_) (fun y hy=> ?_) Z.length 0 _ (dL _) rfl
  ·subst hy;have hz:=hZ _ (dd hi);have hm:=h.lt _ _ hx hz;simp only[OI,IP];have kS:a[mul x Z[i]]? =some (a[mul x Z[i]]'(by rw[oX];exact hm)):=b7 (by rw[oX];exact hm);cases hb:(a[mul x Z[i]]'(by rw[oX];exact hm)).toBool with
   | true=>
    refine .inl ⟨_,bT (bm hi) (bs (iE hi) (bs (nw hx) (bs (pz hz) (bT (oJ (by rw[oX];exact hm)) (bs kS (bF (by rw[hb];rfl) rfl)))))),?_⟩;rw[br (by omega)]
   | false=>
    exact .inr ⟨_,bT (bm hi) (bs (iE hi) (bs (nw hx) (bs (pz hz) (bT (oJ (by rw[oX];exact hm)) (bs kS (bT (by rw[hb];rfl) rfl)))))),.inl ⟨_,rfl⟩⟩
  ·subst hy;simp only[OI,IP];exact ⟨_,bF (aZ (az _)) rfl,.inr (by rw[aZ (az _)])⟩
 have l3: ∀{a:LV},a.length=K→∃r,Loop (OJ CC (tG K mul) (nS Z) (nS Z) (Z.length:Int) a) 0=some r∧((∃b,r= .inl b)∨r= .inr ((Z.length:Int),false)):=by
  intro a oX;refine xi (fun i x=>x=(i:Int)) (fun (r:Bool ⊕ (Int×Bool))=>(∃b,r= .inl b)∨r= .inr ((Z.length:Int),false)) Z.length (fun i hi y hy=> ?_) (fun y hy=> ?_) Z.length 0 _ (dL _) rfl
  ·subst hy;have hz:=hZ _ (dd hi);obtain ⟨r,e,hr⟩:=l2 (a:=a) (x:=Z[i]) (s:=nS Z) (p:=(Z.length:Int)) (q:=(i:Int)) (u:=nS Z) oX hz rfl;simp only[OJ,IQ];rcases hr with ⟨b,rfl⟩|rfl
   ·exact .inr ⟨_,bT (bm hi) (bs (iE hi) (bs (by rw[dE];exact e) rfl)),.inl ⟨_,rfl⟩⟩
   ·refine .inl ⟨_,bT (bm hi) (bs (iE hi) (bs (by rw[dE];exact e) rfl)),?_⟩;rw[br (by omega)]
  ·subst hy;simp only[OJ,IQ];exact ⟨_,bF (aZ (az _)) rfl,.inr (by rw[aZ (az _)])⟩
 have fin: ∀z,OK CC (tG K mul) (nS Z)=z→CC G3 [.list ag (tG K mul),.list ab (nS Z)]=z:=fun z h=>av2 h;have body: ∃b,OK CC (tG K mul) (nS Z)=some [.bool b]:=by
  unfold OK;rw[rA,dE];obtain ⟨r,e,hr⟩:=l1;rcases hr with ⟨b,rfl⟩|⟨a,oX,rfl⟩
  ·exact ⟨b,bT (gD (by omega) (by omega)) (bs e rfl)⟩
  ·obtain ⟨r,e2,hr⟩:=l3 oX;rcases hr with ⟨b,rfl⟩|rfl
   ·exact ⟨b,bT (gD (by omega) (by omega)) (bs e (bs e2 rfl))⟩
   ·exact ⟨true,bT (gD (by omega) (by omega)) (bs e (bs e2 rfl))⟩
 obtain ⟨b,hb⟩:=body;exact ⟨b,fin _ hb⟩
end
noncomputable def Fp (C:af) (table dO:LV) (i t33 t34:Int) (t37:LV) (t38:Int) (Au Av Aw Ax Ay Az AA AB AD AE AF AG:Bool) (t39:Int) (ll:LV) {β:Type} (kn:(Int×LV)→Option β) (kr:(Int×Bool×LV)→Option β):Option β:=
 bif decide (t39<t38) then
  (idx t37 t39).bind fun x4=>
  bif (decide (0≤i))&&(decide (i<6)) then
  (([.bool Au,.bool Av,.bool Aw,.bool Ax,.bool Ay,.bool Az]:LV)[0+((i.toNat)*1)]?).bind fun x5=>
  bif !x5.toBool then
   aP ll i fun x6=>
   (ll[i.toNat]?).bind fun x7=>
   bif Nat.ble ((x7.toList.length+([V.int .i64 x4.toInt]:LV).length)*8) ba then
   BR ll i <|
   bif (Nat.beq (i.toNat) (i.toNat))&&true then
    kn (wrap .i64 (t39+1),bj ll i (.list ab (x7.toList++([V.int .i64 x4.toInt]:LV))))
   else none
   else none
  else
   bif (decide (0≤i))&&(decide (i<6)) then
   (([.bool AA,.bool AB,.bool AD,.bool AE,.bool AF,.bool AG]:LV)[0+((i.toNat)*1)]?).bind fun x8=>
   bif x8.toBool then
    aP ll i fun x9=>
    (ll[i.toNat]?).bind fun oj=>
    bif Nat.ble ((oj.toList.length+([V.int .i64 x4.toInt]:LV).length)*8) ba then
    BR ll i <|
    bif (Nat.beq (i.toNat) (i.toNat))&&true then
     kn (wrap .i64 (t39+1),bj ll i (.list ab (oj.toList++([V.int .i64 x4.toInt]:LV))))
    else none
    else none
   else
    (idx table x4.toInt).bind fun p9=>
    (idx p9.toList x4.toInt).bind fun j9=>
    bif (j9.toInt:Int)==x4.toInt then
    aP ll i fun Cg=>
    (ll[i.toNat]?).bind fun B7=>
    bif Nat.ble ((B7.toList.length+([V.int .i64 x4.toInt]:LV).length)*8) ba then
     BR ll i <|
     bif (Nat.beq (i.toNat) (i.toNat))&&true then
     kn (wrap .i64 (t39+1),bj ll i (.list ab (B7.toList++([V.int .i64 x4.toInt]:LV))))
     else none
    else none
    else
    kn (wrap .i64 (t39+1),ll)
   else none
  else none
 else
  kr (t39,decide (t39<t38),ll)
noncomputable def KD (C:af) (table dO:LV) (i t33 t34:Int) (t37:LV) (t38:Int) (Au Av Aw Ax Ay Az AA AB AD AE AF AG:Bool):=un fun t39 ll=>Fp C table dO i t33 t34 t37 t38 Au Av Aw Ax Ay Az AA AB AD AE AF AG t39 ll (fun y=>some (Sum.inl y)) (fun r=>some (Sum.inr r))
noncomputable def Fq (C:af) (table dO:LV) (t33:Int) (Au Av Aw Ax Ay Az AA AB AD AE AF AG:Bool) (t34:Int) (ll:LV) {β:Type} (kn:(Int×LV)→Option β) (kr:(Int×Bool×LV)→Option β):Option β:=
 bif decide (t34<t33) then
  (Loop (KD C table dO t34 t33 t34 dO (dO.length:Int) Au Av Aw Ax Ay Az AA AB AD AE AF AG) (0,ll)).bind (un fun B6=>un fun (xp:Bool) (av3:LV)=>
   kn (wrap .i64 (t34+1),av3))
 else
  kr (t34,decide (t34<t33),ll)
noncomputable def KC (C:af) (table dO:LV) (t33:Int) (Au Av Aw Ax Ay Az AA AB AD AE AF AG:Bool):=un fun t34 ll=>Fq C table dO t33 Au Av Aw Ax Ay Az AA AB AD AE AF AG t34 ll (fun y=>some (Sum.inl y)) (fun r=>some (Sum.inr r))
noncomputable def af4 (C:af):cN:=bL 161 Up [EQ,EQ,EQ,EQ,EQ,EQ,EQ,H1,EQ,EQ,EQ,EQ,EQ,EQ,EQ,EQ,EQ,EQ,EQ,EQ,H1] [[1,2,3,4,5,6,7,0,0,9,10,11,12,13,14,15,16,17,18,19,20,0]] (@Fp C) (bL 113 Uq [EQ,EQ,EQ,H1,EQ,EQ,EQ,EQ,EQ,EQ,EQ,EQ,EQ,EQ,EQ,EQ,H1] [[1,2,3,0,0,5,6,7,8,9,10,11,12,13,14,15,16,0]] (@Fq C) bM)
theorem av4 (C:af):bD C (af4 C) 115 (Lp [1,1,1,1,1,1,0,1,0,0,1,1,0,0,1,1,0,0] 115):=bN Up [EQ,EQ,EQ,EQ,EQ,EQ,EQ,H1,EQ,EQ,EQ,EQ,EQ,EQ,EQ,EQ,EQ,EQ,EQ,EQ,H1] [[1,2,3,4,5,6,7,0,0,9,10,11,12,13,14,15,16,17,18,19,20,0]] (@Fp C) (bA av)
theorem av5 (C:af):bD C (af4 C) 115 (Lp [1,1,1,1,1,1,0,1,0,0] 115):=bN Uq [EQ,EQ,EQ,H1,EQ,EQ,EQ,EQ,EQ,EQ,EQ,EQ,EQ,EQ,EQ,EQ,H1] [[1,2,3,0,0,5,6,7,8,9,10,11,12,13,14,15,16,0]] (@Fq C) (bA (bE (av4 C) av))
noncomputable def Qa (C:af) (table dO:LV) (lR lS:Int) (lT:LV) (lU lV:Int) (lX:LV):Option LV:=
 (C gB [V.int .i64 lR,V.int .i64 lS,.list ai lT,V.int .i64 0,V.int .i64 0,.list ai ([]:LV),.bool false,.bool false,.bool false,.bool false,.bool false,.bool false,.bool false,.bool false,.bool false,.bool false,.bool false,.bool false]).bind fun r1=>
 (C gB [V.int .i64 lU,V.int .i64 lV,.list ai lX,V.int .i64 0,V.int .i64 0,.list ai ([]:LV),.bool ((V.nth r1 0).toBool),.bool ((V.nth (r1.drop 1) 0).toBool),.bool ((V.nth ((r1.drop 1).drop 1) 0).toBool),.bool ((V.nth (((r1.drop 1).drop 1).drop 1) 0).toBool),.bool ((V.nth ((((r1.drop 1).drop 1).drop 1).drop 1) 0).toBool),.bool ((V.nth (((((r1.drop 1).drop 1).drop 1).drop 1).drop 1) 0).toBool),.bool ((V.nth (r1.drop 6) 0).toBool),.bool ((V.nth ((r1.drop 6).drop 1) 0).toBool),.bool ((V.nth (((r1.drop 6).drop 1).drop 1) 0).toBool),.bool ((V.nth ((((r1.drop 6).drop 1).drop 1).drop 1) 0).toBool),.bool ((V.nth (((((r1.drop 6).drop 1).drop 1).drop 1).drop 1) 0).toBool),.bool ((V.nth ((((((r1.drop 6).drop 1).drop 1).drop 1).drop 1).drop 1) 0).toBool)]).bind fun r2=>
 (C nr [.list ai ([.agg [V.int .i64 lR,V.int .i64 lS,.list ai lT],.agg [V.int .i64 lU,V.int .i64 lV,.list ai lX]]:LV)]).bind fun r3=>
 bif (decide (0≤((V.nth r3 0).toInt)))&&((decide (((V.nth r3 0).toInt)≤((V.nth r3 0).toInt)))&&(Nat.ble ((((V.nth r3 0).toInt:Int).toNat)*24) ba)) then
  (Loop (KC C table dO ((List.replicate (((V.nth r3 0).toInt:Int).toNat) (V.list ab ([]:LV))).length:Int) ((V.nth r2 0).toBool) ((V.nth (r2.drop 1) 0).toBool) ((V.nth ((r2.drop 1).drop 1) 0).toBool) ((V.nth (((r2.drop 1).drop 1).drop 1) 0).toBool) ((V.nth ((((r2.drop 1).drop 1).drop 1).drop 1) 0).toBool) ((V.nth (((((r2.drop 1).drop 1).drop 1).drop 1).drop 1) 0).toBool) ((V.nth (r2.drop 6) 0).toBool) ((V.nth ((r2.drop 6).drop 1) 0).toBool) ((V.nth (((r2.drop 6).drop 1).drop 1) 0).toBool) ((V.nth ((((r2.drop 6).drop 1).drop 1).drop 1) 0).toBool) ((V.nth (((((r2.drop 6).drop 1).drop 1).drop 1).drop 1) 0).toBool) ((V.nth ((((((r2.drop 6).drop 1).drop 1).drop 1).drop 1).drop 1) 0).toBool)) (0,List.replicate (((V.nth r3 0).toInt:Int).toNat) (V.list ab ([]:LV)))).bind (un fun V6=>un fun (V7:Bool) (av6:LV)=>
   some [.list ag av6])
 else none
theorem aiF {table dO:LV} {lR lS:Int} {lT:LV} {lU lV:Int} {lX:LV} {r:Option LV} (h:Qa CC table dO lR lS lT lU lV lX=r):CC BV [.list ag table,.list ab dO,V.int .i64 lR,V.int .i64 lS,.list ai lT,V.int .i64 lU,V.int .i64 lV,.list ai lX]=r:=bO (bE (av5 CC) av) h
noncomputable def Yf (C:af) (list:LV):Option LV:=
 some [.bool ((list.length:Int)==0)]
theorem aiA {list:LV} {r:Option LV} (h:Yf CC list=r):CC xj [.list ab list]=r:=bO (L:=bM) av h
noncomputable def Fs (C:af) (s:LV) (t7 t8:Int) {β:Type} (kn:Int→Option β) (kr:((Int) ⊕ (Int×Bool))→Option β):Option β:=
 bif decide (t8<t7) then
  (idx s t8).bind fun x1=>
  (C xj [.list ab x1.toList]).bind fun r2=>
  bif (V.nth r2 0).toBool then
  kr (.inl t8)
  else
  kn (wrap .i64 (t8+1))
 else
  kr (.inr (t8,decide (t8<t7)))
noncomputable def KF (C:af) (s:LV) (t7:Int):=fun t8=>Fs C s t7 t8 (fun y=>some (Sum.inl y)) (fun r=>some (Sum.inr r))
noncomputable def av7 (C:af):cN:=bL 33 UQ [EQ,EQ,H1] [[0],[1,2,0,0]] (@Fs C) bM
theorem av8 (C:af):bD C (av7 C) 157 (Lp [1,0,1,0,0] 157):=bN UQ [EQ,EQ,H1] [[0],[1,2,0,0]] (@Fs C) (bA av)
noncomputable def P9 (C:af) (s:LV):Option LV:=
 (Loop (KF C s (s.length:Int)) 0).bind (fJ (fun jN=>
  some [V.int .i64 jN]) (un fun (mf:Int) (lF:Bool)=>
  some [V.int .i64 (-1)]))
theorem Yh {s:LV} {r:Option LV} (h:P9 CC s=r):CC SJ [.list ag s]=r:=bO (bE (av8 CC) av) h
noncomputable def P8 (C:af) (s:LV):Option LV:=
 (C SJ [.list ag s]).bind fun r1=>
 some [.bool (decide ((((V.nth r1 0).toInt):Int)≥0))]
theorem Yg {s:LV} {r:Option LV} (h:P8 CC s=r):CC KG [.list ag s]=r:=bO (L:=bM) av h
noncomputable def P7 (C:af) (e9 fa ey fp:LV) (fq:Int) (ft fu fv fw fx fy fA fB fC fD fE aO:LV):Option LV:=
 (C KG [.list ag ey]).bind fun r1=>
 some [.bool ((V.nth r1 0).toBool),.list bJ e9,.list bJ fa,.list ag ey,.list ag fp,V.int .i64 fq,.list ab ft,.list ab fu,.list ab fv,.list ab fw,.list ab fx,.list ab fy,.list ab fA,.list ab fB,.list ab fC,.list ab fD,.list ab fE,.list ab aO]
theorem aiC {e9 fa ey fp:LV} {fq:Int} {ft fu fv fw fx fy fA fB fC fD fE aO:LV} {r:Option LV} (h:P7 CC e9 fa ey fp fq ft fu fv fw fx fy fA fB fC fD fE aO=r):CC BT [.list bJ e9,.list bJ fa,.list ag ey,.list ag fp,V.int .i64 fq,.list ab ft,.list ab fu,.list ab fv,.list ab fw,.list ab fx,.list ab fy,.list ab fA,.list ab fB,.list ab fC,.list ab fD,.list ab fE,.list ab aO]=r:=bO (L:=bM) av h
noncomputable def IS (C:af) (t9 t10:Int) (lists:LV) {β:Type} (kn:(Int×LV)→Option β) (kr:(Int×Bool×LV)→Option β):Option β:=
 bif decide (t10<t9) then
  aP lists t10 fun x1=>
  kn (wrap .i64 (t10+1),bj lists t10 (V.int .i64 t10))
 else
  kr (t10,decide (t10<t9),lists)
noncomputable def Wj (C:af) (t9:Int):=un fun t10 lists=>IS C t9 t10 lists (fun y=>some (Sum.inl y)) (fun r=>some (Sum.inr r))
noncomputable def av9 (C:af):cN:=bL 49 UL [EQ,H1,H1] [[1,0,0,0]] (@IS C) bM
theorem awa (C:af):bD C (av9 C) 150 (Lp [1,1,0,1,0,0] 150):=bN UL [EQ,H1,H1] [[1,0,0,0]] (@IS C) (bA av)
noncomputable def af5 (C:af) (t:LV):Option LV:=
 bif (decide (0≤(t.length:Int)))&&((decide ((t.length:Int)≤(t.length:Int)))&&(Nat.ble (((t.length:Int).toNat)*8) ba)) then
  (Loop (Wj C ((List.replicate ((t.length:Int).toNat) (V.int .i64 0)).length:Int)) (0,List.replicate ((t.length:Int).toNat) (V.int .i64 0))).bind (un fun Aj=>un fun (jN:Bool) (awb:LV)=>
   some [.list ab awb])
 else none
theorem awc {t:LV} {r:Option LV} (h:af5 CC t=r):CC MV [.list ag t]=r:=bO (bE (awa CC) av) h
noncomputable def IT (C:af) (e t6:Int) (rT:LV) (t7:Int) {β:Type} (kn:Int→Option β) (kr:((Bool) ⊕ (Int×Bool))→Option β):Option β:=
 bif decide (t7<t6) then
  (idx rT e).bind fun x1=>
  (idx x1.toList t7).bind fun x2=>
  bif (x2.toInt:Int) != t7 then
  kr (.inl false)
  else
  (idx rT t7).bind fun x3=>
  (idx x3.toList e).bind fun x4=>
  bif (x4.toInt:Int) != t7 then
   kr (.inl false)
  else
   kn (wrap .i64 (t7+1))
 else
  kr (.inr (t7,decide (t7<t6)))
noncomputable def Wk (C:af) (e t6:Int) (rT:LV):=fun t7=>IT C e t6 rT t7 (fun y=>some (Sum.inl y)) (fun r=>some (Sum.inr r))
noncomputable def awd (C:af):cN:=bL 33 UM [EQ,EQ,H1,EQ] [[0,4],[1,2,0,0,4]] (@IT C) bM
theorem awe (C:af):bD C (awd C) 151 (Lp [1,0,1,0,0] 151):=bN UM [EQ,EQ,H1,EQ] [[0,4],[1,2,0,0,4]] (@IT C) (bA av)
noncomputable def af6 (C:af) (e:Int) (rT:LV):Option LV:=
 (Loop (Wk C e (rT.length:Int) rT) 0).bind (fJ (fun (lF:Bool)=>
  some [.bool lF,.list ag rT]) (un fun (jY:Int) (nu:Bool)=>
  some [.bool true,.list ag rT]))
theorem awf {e:Int} {rT:LV} {r:Option LV} (h:af6 CC e rT=r):CC zF [V.int .i64 e,.list ag rT]=r:=bO (bE (awe CC) av) h
noncomputable def OL (C:af) (s:LV) (t7 t8:Int) (fs:LV) {β:Type} (kn:(Int×LV)→Option β) (kr:((Int×LV) ⊕ (Int×Bool×LV))→Option β):Option β:=
 bif decide (t8<t7) then
  (idx s t8).bind fun x1=>
  (C zF [V.int .i64 x1.toInt,.list ag fs]).bind fun r2=>
  bif (V.nth r2 0).toBool then
  kr (.inl (t8,(V.nth (r2.drop 1) 0).toList))
  else
  kn (wrap .i64 (t8+1),(V.nth (r2.drop 1) 0).toList)
 else
  kr (.inr (t8,decide (t8<t7),fs))
noncomputable def af7 (C:af) (s:LV) (t7:Int):=un fun t8 fs=>OL C s t7 t8 fs (fun y=>some (Sum.inl y)) (fun r=>some (Sum.inr r))
noncomputable def awg (C:af):cN:=bL 33 UK [EQ,EQ,H1,H1] [[0,0],[1,2,0,0,0]] (@OL C) bM
theorem awh (C:af):bD C (awg C) 149 (Lp [1,0,1,0,0] 149):=bN UK [EQ,EQ,H1,H1] [[0,0],[1,2,0,0,0]] (@OL C) (bA av)
noncomputable def af8 (C:af) (s fs:LV):Option LV:=
 (Loop (af7 C s (s.length:Int)) (0,fs)).bind (fJ (un fun (jN:Int) (b_4:LV)=>
  some [V.int .i64 jN,.list ag b_4]) (un fun lF=>un fun (jY:Bool) (awi:LV)=>
  some [V.int .i64 (-1),.list ag awi]))
theorem awj {s fs:LV} {r:Option LV} (h:af8 CC s fs=r):CC SH [.list ab s,.list ag fs]=r:=bO (bE (awh CC) av) h
noncomputable def af9 (C:af) (t:LV):Option LV:=
 (C MU [.list ag t]).bind fun r1=>
 bif !((V.nth r1 0).toBool) then
  some [V.int .i64 (-1)]
 else
  (C MV [.list ag t]).bind fun r2=>
  (C SH [.list ab ((V.nth r2 0).toList),.list ag t]).bind fun r3=>
  some [V.int .i64 ((V.nth r3 0).toInt)]
theorem awk {t:LV} {r:Option LV} (h:af9 CC t=r):CC MO [.list ag t]=r:=bO (L:=bM) av h
theorem KE {R:List (List Nat)}:(RV R).length=R.length:=by simp[RV]
section
variable {K:Nat} {mul:Nat→Nat→Nat} (h:Tb K mul) (ha: ∀i j k,i<K→j<K→k<K→mul (mul i j) k=mul i (mul j k)) (ae: ∀j,j<K→mul 0 j=j∧mul j 0=j)
include h ha ae
theorem aiJ:CC MO [.list ag (tG K mul)]=some [.int .i64 0]:=by
 have h1:=h.k1;have h4:=h.k4;have el:CC MV [.list ag (tG K mul)]=some [.list ab (nS (List.range K))]:=by
  refine awc ?_;unfold af5;rw[rA];refine bT (gD (by omega) (by omega)) ?_;rw[Int.toNat_natCast,yd];refine bs (tF (fun i a=>((i:Int),a)) K nV (List.replicate K (V.int .i64 0)) (by simp) (fun a=>((K:Int),false,a)) (fun i hi a ha=> ?_) ?_) ?_
  ·simp only[Wj,IS,un,aP,bj];refine bT (bm hi) ((rz (by omega)).trans ?_);rw[br (by omega),Int.toNat_natCast];rfl
  ·simp only[Wj,IS,un];refine bF (aZ (az _)) ?_;rw[aZ (az _)]
  ·rw[Vl];refine congrArg (fun t=>some [V.list ab t]) ?_;rw[jw];exact dg fun j hj=>by rw[cE (by simpa using hj)];simp
 have i0:CC zF [.int .i64 0,.list ag (tG K mul)]=some [.bool true,.list ag (tG K mul)]:=by
  refine awf ?_;unfold af6;rw[rA];refine bs (fH K (fun i=>(i:Int)) (.inr ((K:Int),false)) (fun i hi=> ?_) ?_) rfl
  ·simp only[Wk,IT];refine bT (bm hi) (bs (nw (i:=0) (by omega)) (bs (pz hi) (bF ?_ (bs (nw hi) (bs (pz (i:=0) (by omega)) (bF ?_ ?_))))))
   ·show (((mul 0 i:Nat):Int) != (i:Int))=false;rw[(ae i hi).1];simp
   ·show (((mul i 0:Nat):Int) != (i:Int))=false;rw[(ae i hi).2];simp
   ·rw[br (by omega)]
  ·simp only[Wk,IT];rw[aZ (az _)];rfl
 refine awk ?_;unfold af9;refine bs (au4 h ha) (bF rfl (bs el (bs (a:=[.int .i64 0,.list ag (tG K mul)]) (awj ?_) rfl)));unfold af8;rw[show (V.nth [V.list ab (nS (List.range K))] 0).toList=nS (List.range K) from rfl,dE,jw];refine bs (kg (r:= .inl (0,tG K mul)) ?_) rfl;simp only[af7,OL,un];refine bT (bm (i:=0) h1) (bs (a:=nV 0) ?_ (bs i0 (bT rfl rfl)));have:=iE (S:=List.range K) (i:=0) (by rw[jw];omega);simpa using this
end
noncomputable def KH (C:af) (table dO:LV) (lR lS:Int) (lT:LV) (lU lV:Int) (lX:LV):Option LV:=
 (C G2 [.list ag table]).bind fun r1=>
 bif (((V.nth r1 0).toInt):Int) != 0 then
  some [V.bool true,V.int .i64 ((V.nth r1 0).toInt)]
 else
  (C G3 [.list ag table,.list ab dO]).bind fun r2=>
  bif !((V.nth r2 0).toBool) then
  some [V.bool true,V.int .i64 1]
  else
  (C me [V.int .i64 lR,V.int .i64 lS,.list ai lT,V.int .i64 lU,V.int .i64 lV,.list ai lX]).bind fun r3=>
  bif (((V.nth r3 0).toInt):Int) != 0 then
   some [V.bool true,V.int .i64 21]
  else
   (C MO [.list ag table]).bind fun r4=>
   bif decide ((((V.nth r4 0).toInt):Int)<0) then
   (C abY [.list ai ([.agg [V.int .i64 lR,V.int .i64 lS,.list ai lT],.agg [V.int .i64 lU,V.int .i64 lV,.list ai lX]]:LV)]).bind fun r5=>
   bif (V.nth r5 0).toBool then
    some [V.bool true,V.int .i64 9]
   else
    (C fP [V.int .i64 lR,V.int .i64 lS,.list ai lT]).bind fun r6=>
    (C fP [V.int .i64 lU,V.int .i64 lV,.list ai lX]).bind fun r7=>
    (C BV [.list ag table,.list ab dO,V.int .i64 lR,V.int .i64 lS,.list ai lT,V.int .i64 lU,V.int .i64 lV,.list ai lX]).bind fun r8=>
    (C E9 [.list ag table,V.int .i64 ((V.nth r4 0).toInt),.list Fa ([.list bJ ((V.nth r6 0).toList),.list bJ ((V.nth r7 0).toList)]:LV)]).bind fun r9=>
    bif (decide (0≤(((V.nth r8 0).toList).length:Int)))&&((decide ((((V.nth r8 0).toList).length:Int)≤(((V.nth r8 0).toList).length:Int)))&&(Nat.ble ((((((V.nth r8 0).toList).length:Int):Int).toNat)*8) ba)) then
    some [V.bool false,.list bJ ((V.nth r6 0).toList),.list bJ ((V.nth r7 0).toList),.list ag ((V.nth r8 0).toList),.list ag ((V.nth r9 0).toList),V.int .i64 ((V.nth (r9.drop 1) 0).toInt),.list ab ((V.nth ((r9.drop 1).drop 1) 0).toList),.list ab ((V.nth (((r9.drop 1).drop 1).drop 1) 0).toList),.list ab ((V.nth ((((r9.drop 1).drop 1).drop 1).drop 1) 0).toList),.list ab ((V.nth (((((r9.drop 1).drop 1).drop 1).drop 1).drop 1) 0).toList),.list ab ((V.nth ((((((r9.drop 1).drop 1).drop 1).drop 1).drop 1).drop 1) 0).toList),.list ab ((V.nth (((((((r9.drop 1).drop 1).drop 1).drop 1).drop 1).drop 1).drop 1) 0).toList),.list ab ((V.nth ((((((((r9.drop 1).drop 1).drop 1).drop 1).drop 1).drop 1).drop 1).drop 1) 0).toList),.list ab ((V.nth (((((((((r9.drop 1).drop 1).drop 1).drop 1).drop 1).drop 1).drop 1).drop 1).drop 1) 0).toList),.list ab ((V.nth ((((((((((r9.drop 1).drop 1).drop 1).drop 1).drop 1).drop 1).drop 1).drop 1).drop 1).drop 1) 0).toList),.list ab ((V.nth (((((((((((r9.drop 1).drop 1).drop 1).drop 1).drop 1).drop 1).drop 1).drop 1).drop 1).drop 1).drop 1) 0).toList),.list ab ((V.nth ((((((((((((r9.drop 1).drop 1).drop 1).drop 1).drop 1).drop 1).drop 1).drop 1).drop 1).drop 1).drop 1).drop 1) 0).toList),.list ab (List.replicate (((((V.nth r8 0).toList).length:Int):Int).toNat) (V.int .i64 0))]
    else none
   else
   (C fP [V.int .i64 lR,V.int .i64 lS,.list ai lT]).bind fun ff=>
   (C fP [V.int .i64 lU,V.int .i64 lV,.list ai lX]).bind fun cH=>
   (C BV [.list ag table,.list ab dO,V.int .i64 lR,V.int .i64 lS,.list ai lT,V.int .i64 lU,V.int .i64 lV,.list ai lX]).bind fun yb=>
   (C E9 [.list ag table,V.int .i64 ((V.nth r4 0).toInt),.list Fa ([.list bJ ((V.nth ff 0).toList),.list bJ ((V.nth cH 0).toList)]:LV)]).bind fun gS=>
   bif (decide (0≤(((V.nth yb 0).toList).length:Int)))&&((decide ((((V.nth yb 0).toList).length:Int)≤(((V.nth yb 0).toList).length:Int)))&&(Nat.ble ((((((V.nth yb 0).toList).length:Int):Int).toNat)*8) ba)) then
    some [V.bool false,.list bJ ((V.nth ff 0).toList),.list bJ ((V.nth cH 0).toList),.list ag ((V.nth yb 0).toList),.list ag ((V.nth gS 0).toList),V.int .i64 ((V.nth (gS.drop 1) 0).toInt),.list ab ((V.nth ((gS.drop 1).drop 1) 0).toList),.list ab ((V.nth (((gS.drop 1).drop 1).drop 1) 0).toList),.list ab ((V.nth ((((gS.drop 1).drop 1).drop 1).drop 1) 0).toList),.list ab ((V.nth (((((gS.drop 1).drop 1).drop 1).drop 1).drop 1) 0).toList),.list ab ((V.nth ((((((gS.drop 1).drop 1).drop 1).drop 1).drop 1).drop 1) 0).toList),.list ab ((V.nth (((((((gS.drop 1).drop 1).drop 1).drop 1).drop 1).drop 1).drop 1) 0).toList),.list ab ((V.nth ((((((((gS.drop 1).drop 1).drop 1).drop 1).drop 1).drop 1).drop 1).drop 1) 0).toList),.list ab ((V.nth (((((((((gS.drop 1).drop 1).drop 1).drop 1).drop 1).drop 1).drop 1).drop 1).drop 1) 0).toList),.list ab ((V.nth ((((((((((gS.drop 1).drop 1).drop 1).drop 1).drop 1).drop 1).drop 1).drop 1).drop 1).drop 1) 0).toList),.list ab ((V.nth (((((((((((gS.drop 1).drop 1).drop 1).drop 1).drop 1).drop 1).drop 1).drop 1).drop 1).drop 1).drop 1) 0).toList),.list ab ((V.nth ((((((((((((gS.drop 1).drop 1).drop 1).drop 1).drop 1).drop 1).drop 1).drop 1).drop 1).drop 1).drop 1).drop 1) 0).toList),.list ab (List.replicate (((((V.nth yb 0).toList).length:Int):Int).toNat) (V.int .i64 0))]
   else none
theorem aiH {table dO:LV} {lR lS:Int} {lT:LV} {lU lV:Int} {lX:LV} {r:Option LV} (h:KH CC table dO lR lS lT lU lV lX=r):CC BW [.list ag table,.list ab dO,V.int .i64 lR,V.int .i64 lS,.list ai lT,V.int .i64 lU,V.int .i64 lV,.list ai lX]=r:=bO (L:=bM) av h
end Go.AM
