/-
  Functions of the program, lifted to plain data.
-/
import Derived.Test.YtjmolnomobmkdaaGreatDoorP5
set_option linter.unusedVariables false
set_option linter.unusedSimpArgs false
set_option linter.unusedSectionVars false
set_option maxRecDepth 100000
namespace Go.AM
open Go.IntKind (wrap)
open Go.Proofs
section
variable {X R γ:Type} {step:X→Option (X ⊕ R)}
theorem ux (s:Nat→LV→X) (n:Nat) (g:Nat→V) (a0:LV) (h0:a0.length=n) (r:LV→R)
  (h: ∀i,i<n→∀a:LV,a.length=n→step (s i a)=some (.inl (s (i+1) (a.set i (g i))))) (he:step (s n (tab n g))=some (.inr (r (tab n g)))):Loop step (s 0 a0)=some (r (tab n g)):=by
 have key: ∀i,i≤n→step (s i (tab n fun j=>if j<i then g j else a0.getD j (.bool false)))=if i<n then some (.inl (s (i+1) (tab n fun j=>if j<i+1 then g j else a0.getD j (.bool false)))) else some (.inr (r (tab n g))):=by
  intro i hi;by_cases c:i<n
  ·rw[aB c,h i c _ (by simp),lO];refine congrArg (fun t=>some (Sum.inl (s (i+1) t))) (c8 fun j _=> ?_);by_cases c2:j=i
   ·rw[aB c2,dp,c2]
   ·rw[ax c2];by_cases c3:j<i
    ·rw[aB c3,dp]
    ·rw[ax c3,dq]
  ·rw[ax c];obtain rfl:i=n:=by omega
   rw[show (tab i fun j=>if j<i then g j else a0.getD j (.bool false))=tab i g from c8 fun j hj=>aB hj];exact he
 have e0:a0=tab n fun j=>if j<0 then g j else a0.getD j (.bool false):=by
  conv=>lhs;rw[afJ a0 (.bool false),h0]
  exact c8 fun j _=>by rw[dq]
 rw[e0];refine fI n (fun i=>s i (tab n fun j=>if j<i then g j else a0.getD j (.bool false))) _ (fun i hi=> ?_) ?_
 ·rw[key i (by omega),aB hi]
 ·rw[key n (aw _),ax (nu _)]
theorem sb {es:LV} {i:Nat} (hi:i<es.length) {K:Option γ}:(bif (decide (0≤(i:Int)))&&(decide ((i:Int)<(es.length:Int))) then (es[((i:Int)).toNat]?).bind (fun _=>K) else none)=K:=
 (b7 (bY hi)).trans rfl
end
theorem iE {S:List Nat} {i:Nat} (h:i<S.length):idx (nS S) (i:Int)=some (nV S[i]):=by rw[Db rfl,yf h]
theorem Wh (S:List Nat):nS S=tab S.length fun i=>nV (S.getD i 0):=A4 S 0
theorem Em {i n:Nat} (h:i<n):decide ((i:Int)≥(n:Int))=false:=cZ (by omega)
theorem xV {i:Nat}:decide ((i:Int)<0)=false:=cZ (by omega)
def Tr (n:Nat) (f:List Nat):Prop:=f.length=n∧∀y∈f,y<n
def comp (f g:List Nat):List Nat:=f.map fun i=>g.getD i 0
theorem Tr.at {n:Nat} {f:List Nat} (h:Tr n f) {i:Nat} (hi:i<f.length):f[i]<n:=h.2 _ (dc hi)
theorem Tr.comp {n:Nat} {f g:List Nat} (hf:Tr n f) (hg:Tr n g):Tr n (comp f g):=by
 refine ⟨by simp[Go.AM.comp,hf.1],fun y hy=> ?_⟩;obtain ⟨i,hi,rfl⟩:=ia.1 hy;have:=hf.2 i hi;rw[cE (by rw[hg.1];exact this)];exact hg.at _
theorem IU {n:Nat}:Tr n (List.range n):=⟨by simp,fun y hy=>fK.1 hy⟩
section
variable {n:Nat} {f g:List Nat} (h1:1≤n) (mB:n≤32)
include h1 mB
theorem Wi (hf:Tr n f):CC DY [.list ab (nS f)]=some [.bool true]:=by
 have hl:=hf.1;refine atH ?_;unfold afV;rw[dC,hl];refine bF (cZ (by omega)) (bF (cZ (by omega)) ?_);refine bs (fI n (fun i=>(i:Int)) (.inr ((n:Int),false)) (fun i hi=> ?_) ?_) rfl
 ·simp only[Wd,IM];have bU:i<f.length:=by omega
  refine bT (bn hi) (bs (iE bU) (bF xV (bF ?_ ?_)))
  ·rw[dC,hl];exact Em (hf.at bU)
  ·rw[bq (by omega)]
 ·simp only[Wd,IM];rw[aX (aw _)];rfl
theorem atV:CC NZ [.int .i64 (n:Int)]=some [.list ab (nS (List.range n))]:=by
 refine atL ?_;unfold afW;refine bF (cZ (by omega)) (bF (cZ (by omega)) (bT (gG (by omega) (by omega)) ?_));rw[Int.toNat_natCast,yW];refine bs (ux (fun i a=>((i:Int),a)) n nV _ (by simp) (fun a=>((n:Int),false,a)) (fun i hi a ha=> ?_) ?_) ?_
 ·simp only[We,IN,un,aM,bm];refine bT (bn hi) ((sb (by omega)).trans ?_);rw[bq (by omega),Int.toNat_natCast];rfl
 ·simp only[We,IN,un];rw[aX (aw _)];rfl
 ·rw[Wh];refine congrArg (fun t=>some [V.list ab t]) ?_;rw[jC];exact c8 fun j hj=>by rw[cE (by simpa using hj)];simp
theorem atW (hf:Tr n f) (hg:Tr n g):CC HW [.list ab (nS f),.list ab (nS g)]=some [.list ab (nS (comp f g))]:=by
 have hl:=hf.1;have hlg:=hg.1;refine atP ?_;unfold afX;rw[dC,dC,hl,hlg];refine bF (by simp) (bs (Wi h1 mB hf) (bF rfl (bs (Wi h1 mB hg) (bF rfl (bT (gG (by omega) (by omega)) ?_)))));rw[Int.toNat_natCast];refine bs (ux (fun i a=>((i:Int),a)) n (fun i=>nV (g.getD (f.getD i 0) 0)) _ (by simp) (fun a=>((n:Int),false,a)) (fun i hi a ha=> ?_) ?_) ?_
 ·simp only[Wf,IP,un,aM,bm];have bU:i<f.length:=by omega
  have h2:=hf.at bU;refine bT (bn hi) (bs (iE bU) (bs (iE (i:=f[i]) (by omega)) ((sb (by omega)).trans ?_)));rw[bq (by omega),Int.toNat_natCast,cE bU,cE (by omega)];rfl
 ·simp only[Wf,IP,un];rw[aX (aw _)];rfl
 ·rw[Wh];refine congrArg (fun t=>some [V.list ab t]) ?_;rw[show (comp f g).length=n by simp[comp,hl]];refine c8 fun j hj=> ?_;have fY:j<f.length:=by omega
  rw[cE (l:=comp f g) (by simpa[comp] using fY),cE fY];simp[comp]
end
def od (f:List Nat):List UInt8:=f.map fun y=>UInt8.ofNat y
theorem atX {n:Nat} (hn:n≤256) {f g:List Nat} (hf:Tr n f) (hg:Tr n g) (e:od f=od g):f=g:=by
 refine sK (hf.1.trans hg.1.symm) fun i h1 h2=> ?_;have:=List.getElem_of_eq e (i:=i) (by simpa[od] using h1);simp only[od,BI] at this;have a:=hf.at h1;have b:=hg.at h2;have:=congrArg UInt8.toNat this;simp only[UInt8.toNat_ofNat'] at this;omega
theorem Wj {n:Nat} {f:List Nat} (hn:n≤32) (hf:Tr n f):CC yF [.list ab (nS f)]=some [.str (od f)]:=by
 have hl:=hf.1;refine atU ?_;unfold afY;rw[dC,hl];refine bT (gG (by omega) (by omega)) ?_;rw[Int.toNat_natCast];refine bs (ux (fun i a=>((i:Int),a)) n (fun i=> .int .u8 ((f.getD i 0:Nat):Int)) _ (by simp) (fun a=>((n:Int),false,a)) (fun i hi a ha=> ?_) ?_) ?_
 ·simp only[Wg,IS,un,aM,bm];have bU:i<f.length:=by omega
  have h2:=hf.at bU;refine bT (bn hi) (bs (iE bU) ((sb (by omega)).trans ?_));rw[bq (by omega),Int.toNat_natCast,cE bU,show (nV f[i]).toInt=(f[i]:Int) from rfl,aod (by omega) (by omega)]
 ·simp only[Wg,IS,un];rw[aX (aw _)];rfl
 ·refine congrArg (fun t=>some [V.str t]) ?_;rw[←hl];have:(tab f.length fun i=>V.int .u8 ((f.getD i 0:Nat):Int))=f.map fun y=> .int .u8 (y:Int):=(A4 (f:=fun y:Nat=>V.int .u8 (y:Int)) f 0).symm;rw[this];simp[lE,od]
end Go.AM
set_option maxRecDepth 100000
namespace Go.AM
open Go.IntKind (wrap)
section
variable {α:Type} [DecidableEq α] {L:Nat} {next:α→Nat→α} {a0:α}
theorem Rr (S:List α) (a:α): ∀x,(cd next S a x).length≤S.length+x
 | 0=>aw _
 | x+1=>by
  have:=Rr S a x;rw[cd,Ei];split<;>omega
theorem akr {k:Nat} (hd:(aC L next a0 k).length≤k) (i:Nat):(aC L next a0 i).length≤(aC L next a0 k).length:=by
 rcases jD k i with c|c
 ·rw[V7 hd (by omega)];exact aw _
 ·exact (sh c).length_le
theorem ako {P:α→Prop} (h0:P a0) (hP: ∀a,P a→∀x,x<L→P (next a x)) (i:Nat): ∀a∈aC L next a0 i,P a:=by
 intro a ha;obtain ⟨w,hw,rfl⟩:=Iz i a ha;have: ∀(w:List Nat) (b:α),P b→WL L w→P (w.foldl next b):=by
  intro w
  induction w with
  | nil=>intro b hb _;exact hb
  | cons x w ih=>intro b hb hw;exact ih _ (hP b hb x hw.head) hw.tail
 exact this w a0 h0 hw
end
end Go.AM
set_option maxRecDepth 100000
namespace Go.AM
open Go.IntKind (wrap)
open Go.Proofs
noncomputable def afZ (C:af) (f:LV) (IV last:Int) (word:List UInt8) (behind bZ:Int) (ch:Bool) (db:Int) (ba aI aQ aW aV aF aO bj bN bK:LV):Option LV:=
 (C yF [.list ab f]).bind fun r1=>
 bif Nat.ble (((V.nth r1 0).toStr).length) maxLen&&true then
  bif Nat.ble ((aI.length+([.list ab f]:LV).length)*24) aY then
  bif Nat.ble ((aQ.length+([V.int .i64 IV]:LV).length)*8) aY then
   bif Nat.ble ((aW.length+([V.int .i64 last]:LV).length)*8) aY then
   bif Nat.ble ((bj.length+([.str word]:LV).length)*16) aY then
    bif Nat.ble ((bN.length+([V.int .i64 behind]:LV).length)*8) aY then
    some [V.int .i64 (aI.length:Int),V.int .i64 bZ,.bool ch,V.int .i64 db,.list ag ba,.list cJ (iQ (.str ((V.nth r1 0).toStr)) (V.int .i64 (aI.length:Int)) aO),.list ag (aI++([.list ab f]:LV)),.list ab (aQ++([V.int .i64 IV]:LV)),.list ab (aW++([V.int .i64 last]:LV)),.list ag aV,.list eB aF,.list cv (bj++([.str word]:LV)),.list ab (bN++([V.int .i64 behind]:LV)),.list ab bK]
    else none
   else none
   else none
  else none
  else none
 else none
theorem atY {f:LV} {IV last:Int} {word:List UInt8} {behind bZ:Int} {ch:Bool} {db:Int} {ba aI aQ aW aV aF aO bj bN bK:LV} {r:Option LV} (h:afZ CC f IV last word behind bZ ch db ba aI aQ aW aV aF aO bj bN bK=r):CC DZ [.list ab f,V.int .i64 IV,V.int .i64 last,.str word,V.int .i64 behind,V.int .i64 bZ,.bool ch,V.int .i64 db,.list ag ba,.list ag aI,.list ab aQ,.list ab aW,.list ag aV,.list eB aF,.list cJ aO,.list cv bj,.list ab bN,.list ab bK]=r:=bI (L:=bH) av h
noncomputable def af0 (C:af) (i x bZ:Int) (ch:Bool) (db:Int) (ba aI aQ aW aV aF aO bj bN bK:LV):Option LV:=
 bif i==(-1) then
  aM bK x fun x1=>
  some [V.int .i64 x1.toInt,V.int .i64 bZ,.bool ch,V.int .i64 db,.list ag ba,.list cJ aO,.list ag aI,.list ab aQ,.list ab aW,.list ag aV,.list eB aF,.list cv bj,.list ab bN,.list ab bK]
 else
  aM aV i fun x2=>
  (idx x2.toList x).bind fun x3=>
  some [V.int .i64 x3.toInt,V.int .i64 bZ,.bool ch,V.int .i64 db,.list ag ba,.list cJ aO,.list ag aI,.list ab aQ,.list ab aW,.list ag aV,.list eB aF,.list cv bj,.list ab bN,.list ab bK]
theorem atZ {i x bZ:Int} {ch:Bool} {db:Int} {ba aI aQ aW aV aF aO bj bN bK:LV} {r:Option LV} (h:af0 CC i x bZ ch db ba aI aQ aW aV aF aO bj bN bK=r):CC HX [V.int .i64 i,V.int .i64 x,V.int .i64 bZ,.bool ch,V.int .i64 db,.list ag ba,.list ag aI,.list ab aQ,.list ab aW,.list ag aV,.list eB aF,.list cJ aO,.list cv bj,.list ab bN,.list ab bK]=r:=bI (L:=bH) av h
noncomputable def af1 (C:af) (bZ:Int) (ch:Bool) (db:Int) (ba aI aQ aW aV aF aO bj bN bK:LV):Option LV:=
 some [.bool (db==(aI.length:Int)),V.int .i64 bZ,.bool ch,V.int .i64 db,.list cJ aO,.list ag ba,.list ag aI,.list ab aQ,.list ab aW,.list ag aV,.list eB aF,.list cv bj,.list ab bN,.list ab bK]
theorem at1 {bZ:Int} {ch:Bool} {db:Int} {ba aI aQ aW aV aF aO bj bN bK:LV} {r:Option LV} (h:af1 CC bZ ch db ba aI aQ aW aV aF aO bj bN bK=r):CC NR [V.int .i64 bZ,.bool ch,V.int .i64 db,.list ag ba,.list ag aI,.list ab aQ,.list ab aW,.list ag aV,.list eB aF,.list cJ aO,.list cv bj,.list ab bN,.list ab bK]=r:=bI (L:=bH) av h
noncomputable def OU (C:af) (i x bZ:Int) (ch:Bool) (db:Int) (ba aI aQ aW aV aF aO bj bN bK:LV):Option LV:=
 (C HX [V.int .i64 i,V.int .i64 x,V.int .i64 bZ,.bool ch,V.int .i64 db,.list ag ba,.list ag aI,.list ab aQ,.list ab aW,.list ag aV,.list eB aF,.list cJ aO,.list cv bj,.list ab bN,.list ab bK]).bind fun r1=>
 aM ((V.nth (((((r1.drop 1).drop 3).drop 1).drop 1).drop 1) 0).toList) ((V.nth r1 0).toInt) fun x2=>
 bif (x2.toInt:Int)==i then
  aM ((V.nth ((((((r1.drop 1).drop 3).drop 1).drop 1).drop 1).drop 1) 0).toList) ((V.nth r1 0).toInt) fun x3=>
  some [.bool ((x3.toInt:Int)==x),V.int .i64 ((V.nth (r1.drop 1) 0).toInt),.bool ((V.nth ((r1.drop 1).drop 1) 0).toBool),V.int .i64 ((V.nth (((r1.drop 1).drop 1).drop 1) 0).toInt),.list ag ((V.nth ((r1.drop 1).drop 3) 0).toList),.list cJ ((V.nth (((r1.drop 1).drop 3).drop 1) 0).toList),.list ag ((V.nth ((((r1.drop 1).drop 3).drop 1).drop 1) 0).toList),.list ab ((V.nth (((((r1.drop 1).drop 3).drop 1).drop 1).drop 1) 0).toList),.list ab ((V.nth ((((((r1.drop 1).drop 3).drop 1).drop 1).drop 1).drop 1) 0).toList),.list ag ((V.nth (((((((r1.drop 1).drop 3).drop 1).drop 1).drop 1).drop 1).drop 1) 0).toList),.list eB ((V.nth ((((((((r1.drop 1).drop 3).drop 1).drop 1).drop 1).drop 1).drop 1).drop 1) 0).toList),.list cv ((V.nth (((((((((r1.drop 1).drop 3).drop 1).drop 1).drop 1).drop 1).drop 1).drop 1).drop 1) 0).toList),.list ab ((V.nth ((((((((((r1.drop 1).drop 3).drop 1).drop 1).drop 1).drop 1).drop 1).drop 1).drop 1).drop 1) 0).toList),.list ab ((V.nth (((((((((((r1.drop 1).drop 3).drop 1).drop 1).drop 1).drop 1).drop 1).drop 1).drop 1).drop 1).drop 1) 0).toList)]
 else
  some [.bool false,V.int .i64 ((V.nth (r1.drop 1) 0).toInt),.bool ((V.nth ((r1.drop 1).drop 1) 0).toBool),V.int .i64 ((V.nth (((r1.drop 1).drop 1).drop 1) 0).toInt),.list ag ((V.nth ((r1.drop 1).drop 3) 0).toList),.list cJ ((V.nth (((r1.drop 1).drop 3).drop 1) 0).toList),.list ag ((V.nth ((((r1.drop 1).drop 3).drop 1).drop 1) 0).toList),.list ab ((V.nth (((((r1.drop 1).drop 3).drop 1).drop 1).drop 1) 0).toList),.list ab ((V.nth ((((((r1.drop 1).drop 3).drop 1).drop 1).drop 1).drop 1) 0).toList),.list ag ((V.nth (((((((r1.drop 1).drop 3).drop 1).drop 1).drop 1).drop 1).drop 1) 0).toList),.list eB ((V.nth ((((((((r1.drop 1).drop 3).drop 1).drop 1).drop 1).drop 1).drop 1).drop 1) 0).toList),.list cv ((V.nth (((((((((r1.drop 1).drop 3).drop 1).drop 1).drop 1).drop 1).drop 1).drop 1).drop 1) 0).toList),.list ab ((V.nth ((((((((((r1.drop 1).drop 3).drop 1).drop 1).drop 1).drop 1).drop 1).drop 1).drop 1).drop 1) 0).toList),.list ab ((V.nth (((((((((((r1.drop 1).drop 3).drop 1).drop 1).drop 1).drop 1).drop 1).drop 1).drop 1).drop 1).drop 1) 0).toList)]
theorem at2 {i x bZ:Int} {ch:Bool} {db:Int} {ba aI aQ aW aV aF aO bj bN bK:LV} {r:Option LV} (h:OU CC i x bZ ch db ba aI aQ aW aV aF aO bj bN bK=r):CC HY [V.int .i64 i,V.int .i64 x,V.int .i64 bZ,.bool ch,V.int .i64 db,.list ag ba,.list ag aI,.list ab aQ,.list ab aW,.list ag aV,.list eB aF,.list cJ aO,.list cv bj,.list ab bN,.list ab bK]=r:=bI (L:=bH) av h
section
variable {X R:Type} {step:X→Option (X ⊕ R)}
theorem xY (P:Nat→X→Prop) (Q:R→Prop) (n:Nat) (h: ∀i,i<n→∀x,P i x→(∃y,step x=some (.inl y)∧P (i+1) y)∨∃r,step x=some (.inr r)∧Q r)
  (he: ∀x,P n x→∃r,step x=some (.inr r)∧Q r): ∀(d i:Nat) (x:X),i+d=n→P i x→∃r,Loop step x=some r∧Q r
 | 0,i,x,hi,hx=>by
  obtain rfl:i=n:=hi;obtain ⟨r,h1,h2⟩:=he x hx;exact ⟨r,kR h1,h2⟩
 | d+1,i,x,hi,hx=>by
  rcases h i (by omega) x hx with ⟨y,h1,h2⟩|⟨r,h1,h2⟩
  ·obtain ⟨r,h3,h4⟩:=xY P Q n h he d (i+1) y (by omega) h2;exact ⟨r,(jd h1).trans h3,h4⟩
  ·exact ⟨r,kR h1,h2⟩
end
section
variable {α:Type} [DecidableEq α] {ke:α→V} {x:α}
theorem Wk: ∀{S:List α} (i:Nat),(∀a∈S,iP (ke x) (ke a)=decide (x=a))→gg (ke x) (fP ke i S)=decide (x∈S)
 | [],_,_=>by simp[fP,gg]
 | a::S,i,h=>by
  have c: ∀(p q:V),(V.bd [p,q]).comp 0=p:=fun p q=>rfl;rw[fP,gg,c,h a (by simp),Wk (i+1) fun b hb=>h b (jA _ hb)];rw[xx];simp
theorem af2 {z:V}: ∀{S:List α} (i:Nat),(∀a∈S,iP (ke x) (ke a)=decide (x=a))→x∈S→jX (ke x) (fP ke i S) z= .int .i64 ((i+S.idxOf x:Nat):Int)
 | [],_,_,h=>by cases h
 | a::S,i,hk,h=>by
  have c: ∀(p q:V),(V.bd [p,q]).comp 0=p:=fun p q=>rfl;have c1: ∀(p q:V),(V.bd [p,q]).comp 1=q:=fun p q=>rfl;rw[fP,jX,c,c1,hk a (by simp)];by_cases e:x=a
  ·subst e;rw[ca rfl];simp[fP.iV]
  ·rw[cZ e,cond_false,af2 (i+1) (fun b hb=>hk b (jA _ hb)) ((fl.1 h).resolve_left e),show (a::S).idxOf x=S.idxOf x+1 from by rw[List.idxOf_cons,show (a==x)=false from qH.2 fun h=>e h.symm];rfl];congr 2;omega
theorem af3: ∀{S:List α} (i:Nat),(∀a∈S,iP (ke x) (ke a)=decide (x=a))→x∉S→iQ (ke x) (.int .i64 ((i+S.length:Nat):Int)) (fP ke i S)=fP ke i (S++[x])
 | [],i,_,_=>by simp[fP,iQ,fP.iV]
 | a::S,i,hk,h=>by
  have c: ∀(p q:V),(V.bd [p,q]).comp 0=p:=fun p q=>rfl;have e:x≠a:=fun e=>h (by simp[e]);rw[fP,iQ,c,hk a (by simp),cZ e,cond_false,List.cons_append,fP];congr 1;have:=af3 (i+1) (fun b hb=>hk b (jA _ hb)) fun hx=>h (jA _ hx);rw[←this];simp only[List.length_cons];congr 3;omega
end
section
variable {α:Type} [DecidableEq α] {ke:α→V} {x:α} {S T:List α}
def iz (S:List α) (a:α):Nat:=S.idxOf a
theorem tW (h:x∈S):iz S x<S.length:=xw h
theorem af4 (hp:T <+: S) (h:x∈T):iz S x=iz T x:=zL hp h
theorem Wl (h:x∈S):S[iz S x]'(tW h)=x:=Kl (tW h)
theorem Wm (h:S.Nodup) {i:Nat} (hi:i<S.length):iz S S[i]=i:=h.idxOf_getElem i hi
theorem at3 (h:x∉S):iz (S++[x]) x=S.length:=by rw[iz,BP,ax h];simp
theorem af5 (h: ∀a∈S,iP (ke x) (ke a)=decide (x=a)) (hx:x∈S):gg (ke x) (fP ke 0 S)=true:=(Wk 0 h).trans (ca hx)
theorem af6 (h: ∀a∈S,iP (ke x) (ke a)=decide (x=a)) (hx:x∉S):gg (ke x) (fP ke 0 S)=false:=(Wk 0 h).trans (cZ hx)
theorem af7 {z:V} (h: ∀a∈S,iP (ke x) (ke a)=decide (x=a)) (hx:x∈S):(jX (ke x) (fP ke 0 S) z).toInt=((iz S x:Nat):Int):=by rw[af2 0 h hx,dB];rfl
end
theorem at4 (a b:List UInt8):iP (.str a) (.str b)=decide (a=b):=by
 simp only[iP,V.cells,pO,vC,Bool.and_true];rw[xx];simp
def tV (f:List Nat):V:= .list ab (nS f)
def sV (S:List (List Nat)):LV:=S.map tV
def kT (f:List Nat):V:= .str (od f)
def mT (S:List (List Nat)):LV:=fP kT 0 S
def iL (l:List Int):LV:=l.map fun x=> .int .i64 x
def wL (l:List (List UInt8)):LV:=l.map V.str
theorem rG {f:List Nat}:(tV f).toList=nS f:=by simp[tV]
theorem Wn {n:Nat} (hn:n≤32) {S:List (List Nat)} (hS: ∀f∈S,Tr n f) {f:List Nat} (hf:Tr n f): ∀a∈S,iP (kT f) (kT a)=decide (f=a):=fun a ha=>by
 rw[kT,kT,at4,xx,ER,ER];exact ⟨fun e=>atX (by omega) hf (hS a ha) e,fun e=>by rw[e]⟩
theorem IW {S:List (List Nat)} {i:Nat} (h:i<S.length):(sV S)[i]? =some (tV S[i]):=by simp[sV,h]
theorem vk {l:List Int} {i:Nat} (h:i<l.length):(iL l)[i]? =some (.int .i64 (l.getD i 0)):=by simp[iL,h]
theorem yQ {l:List (List UInt8)} {i:Nat} (h:i<l.length):(wL l)[i]? =some (.str (l.getD i [])):=by simp[wL,h]
@[simp] theorem yR {S:List (List Nat)}:(sV S).length=S.length:=by simp[sV]
@[simp] theorem aAz {l:List Int}:(iL l).length=l.length:=by simp[iL]
@[simp] theorem aAA {l:List (List UInt8)}:(wL l).length=l.length:=by simp[wL]
def yS (n D:Nat) (G:LV) (S:List (List Nat)) (P K:List Int) (R:List (List Nat)) (U:LV) (W:List (List UInt8)) (B:List Int) (s:List Nat):List V:=
 [.int .i64 (n:Int),.bool true,.int .i64 (D:Int),.list ag G,.list ag (sV S),.list ab (iL P),.list ab (iL K),.list ag (sV R),.list eB U,.list cJ (mT S),.list cv (wL W),.list ab (iL B),.list ab (nS s)]
def OV (n D:Nat) (G:LV) (S:List (List Nat)) (P K:List Int) (R:List (List Nat)) (U:LV) (W:List (List UInt8)) (B:List Int) (s:List Nat):List V:=
 [.int .i64 (n:Int),.bool true,.int .i64 (D:Int),.list ag G,.list cJ (mT S),.list ag (sV S),.list ab (iL P),.list ab (iL K),.list ag (sV R),.list eB U,.list cv (wL W),.list ab (iL B),.list ab (nS s)]
def xe (R:List (List Nat)) (s:List Nat) (b:Int) (x:Nat):Nat:=if b= -1 then s.getD x 0 else (R.getD b.toNat []).getD x 0
structure kP (L n:Nat) (g:Nat→List Nat) (S:List (List Nat)) (P K:List Int) (R:List (List Nat)) (W:List (List UInt8)) (B:List Int) (s:List Nat):Prop where
 tr: ∀f∈S,Tr n f
 nd:S.Nodup
 len:S.length≤2000
 lP:P.length=S.length
 lK:K.length=S.length
 lW:W.length=S.length
 lB:B.length=S.length
 row: ∀r∈R,r.length=L∧∀y∈r,y<S.length
 s:s.length≤L∧∀y∈s,y<S.length
 b: ∀i,i<S.length→B.getD i 0= -1∨(0≤B.getD i 0∧B.getD i 0<i)
 w: ∀i,i<S.length→(W.getD i []).length≤i
 p: ∀i,0<i→i<S.length→∃p x:Nat,P.getD i 0=p∧K.getD i 0=x∧p<i∧x<L∧S.getD i []=comp (S.getD p []) (g x)
 id:S.head? =some (List.range n)
section
variable {L n D:Nat} {g:Nat→List Nat} {S:List (List Nat)} {P K:List Int} {R:List (List Nat)} {W:List (List UInt8)} {B:List Int} {s:List Nat} {G U:LV}
theorem kP.grow (h:kP L n g S P K R W B s) {f:List Nat} (hf:Tr n f) (hn:f∉S) (hl:S.length<2000) {p x:Nat} {w:List UInt8} {b:Int} (hp:p<S.length) (hx:x<L) (hw:w.length≤S.length) (hb:b= -1∨(0≤b∧b<S.length)) (e:f=comp (S.getD p []) (g x)):
  kP L n g (S++[f]) (P++[(p:Int)]) (K++[(x:Int)]) R (W++[w]) (B++[b]) s:=by
 have a1: ∀{α:Type} {l:List α} {z d:α} {i:Nat},i<l.length→(l++[z]).getD i d=l.getD i d:=fun {α l z d i} hi=>by
  rw[rN,rN,nz hi]
 have a2: ∀{α:Type} {l:List α} {z d:α} {i:Nat},i=l.length→(l++[z]).getD i d=z:=fun {α l z d i} hi=>by subst hi;simp
 have c: ∀i,i<(S++[f]).length→i<S.length∨i=S.length:=fun i hi=>by simp at hi;omega
 refine ⟨fun a ha=> ?_,?_,by simp;omega,by simp[h.lP],by simp[h.lK],by simp[h.lW],by simp[h.lB],fun r hr=>⟨(h.row r hr).1,fun y hy=>by have:=(h.row r hr).2 y hy;simp;omega⟩,⟨h.s.1,fun y hy=>by have:=h.s.2 y hy;simp;omega⟩,fun i hi=> ?_,fun i hi=> ?_,fun i h0 hi=> ?_,?_⟩
 ·rcases fj.1 ha with ha|ha
  ·exact h.tr a ha
  ·rw[fS.1 ha];exact hf
 ·refine EP.2 ⟨h.nd,by simp,fun a ha b hb e=> ?_⟩;rw[fS.1 hb] at e;exact hn (e▸ha)
 ·rcases c i hi with c|c
  ·rw[a1 (by rw[h.lB];exact c)];exact h.b i c
  ·rw[a2 (by rw[h.lB];exact c),c];exact hb
 ·rcases c i hi with c|c
  ·rw[a1 (by rw[h.lW];exact c)];exact h.w i c
  ·rw[a2 (by rw[h.lW];exact c),c];exact hw
 ·rcases c i hi with c|c
  ·obtain ⟨p,x,q1,q2,q3,q4,q5⟩:=h.p i h0 c;exact ⟨p,x,by rw[a1 (by rw[h.lP];exact c)];exact q1,by rw[a1 (by rw[h.lK];exact c)];exact q2,q3,q4,by rw[a1 c,a1 (by omega)];exact q5⟩
  ·exact ⟨p,x,a2 (by rw[h.lP];exact c),a2 (by rw[h.lK];exact c),by omega,hx,by rw[a2 c,a1 hp];exact e⟩
 ·have:=h.id;cases S with
  | nil=>cases this
  | cons a S=>exact this
theorem kP.pos (h:kP L n g S P K R W B s):0<S.length:=by
 have:=h.id;cases S with
 | nil=>cases this
 | cons a S=>simp
theorem af8 (h:kP L n g S P K R W B s) {b:Int} {x:Nat} (hx:x<L) (hs:b= -1→x<s.length) (hb:b= -1∨(0≤b∧b<R.length)):xe R s b x<S.length:=by
 unfold xe;split
 ·rename_i e;rw[cE (hs e)];exact h.s.2 _ (dc _)
 ·rename_i e;obtain ⟨h1,h2⟩:=hb.resolve_left e;have h3:b.toNat<R.length:=by omega
  have:=h.row R[b.toNat] (dc h3);rw[cE h3,cE (by omega)];exact this.2 _ (dc _)
theorem Wo (hn:n≤32) (hS: ∀f∈S,Tr n f) {f:List Nat} (hf:Tr n f) (wC:f∉S) (h1:S.length≤2000) (h2:P.length≤2000) (h3:K.length≤2000) (h4:W.length≤2000) (h5:B.length≤2000) {p k b:Int} {w:List UInt8}:
  CC DZ ([tV f,.int .i64 p,.int .i64 k,.str w,.int .i64 b]++yS n D G S P K R U W B s)=some (nV S.length::OV n D G (S++[f]) (P++[p]) (K++[k]) R U (W++[w]) (B++[b]) s):=by
 have hl:=hf.1;refine atY ?_;unfold afZ;refine bs (Wj hn hf) ?_;have e1:(od f).length=n:=by simp[od,hl]
 refine bT (kh.2 ⟨yZ (by rw[show (V.nth [V.str (od f)] 0).toStr=od f from rfl,e1];unfold maxLen;omega),rfl⟩) ?_;refine bT (cap (by simp;omega) (by omega)) (bT (cap (by simp;omega) (by omega)) (bT (cap (by simp;omega) (by omega)) (bT (cap (by simp;omega) (by omega)) (bT (cap (by simp;omega) (by omega)) ?_))));have e2:=af3 (ke:=kT) 0 (Wn hn hS hf) wC;rw[dB] at e2;rw[yR];unfold OV mT;rw[←e2];simp[sV,iL,wL,nV,tV];rfl
theorem Wp {b:Int} {x:Nat} (h:kP L n g S P K R W B s) (hx:x<L) (hs:b= -1→x<s.length) (hb:b= -1∨(0≤b∧b<R.length)):
  CC HX ([.int .i64 b,nV x]++yS n D G S P K R U W B s)=some (nV (xe R s b x)::OV n D G S P K R U W B s):=by
 refine atZ ?_;unfold af0 xe;by_cases e:b= -1
 ·rw[aB e];refine bT (by simp[e]) ((b7 (yf (hs e))).trans ?_);rw[cE (hs e)];rfl
 ·rw[ax e];obtain ⟨h1,h2⟩:=hb.resolve_left e;obtain ⟨k,rfl⟩:=Ke h1;have h3:k<R.length:=by omega
  have h4:=(h.row R[k] (dc h3)).1;refine bF (by simp only[qH];exact e) ((b7 (IW h3)).trans ?_);rw[rG];refine bs (iE (by omega)) ?_;rw[show ((k:Int)).toNat=k from Int.toNat_natCast k,cE h3,cE (by omega)];rfl
theorem at5 {b:Int} {x:Nat} (h:kP L n g S P K R W B s) (hx:x<L) (hs:b= -1→x<s.length) (hb:b= -1∨(0≤b∧b<R.length)):
  ∃c,CC HY ([.int .i64 b,nV x]++yS n D G S P K R U W B s)=some (.bool c::OV n D G S P K R U W B s):=by
 have h1:=af8 h hx hs hb;have e: ∀r,OU CC b (x:Int) (n:Int) true (D:Int) G (sV S) (iL P) (iL K) (sV R) U (mT S) (wL W) (iL B) (nS s)=r→CC HY ([.int .i64 b,nV x]++yS n D G S P K R U W B s)=r:=fun r h=>at2 h;by_cases c1:P.getD (xe R s b x) 0=b
 ·refine ⟨K.getD (xe R s b x) 0==(x:Int),e _ ?_⟩;unfold OU;refine bs (Wp h hx hs hb) ((b7 (vk (by rw[h.lP];exact h1))).trans (bT ?_ ((b7 (vk (by rw[h.lK];exact h1))).trans rfl)));simpa using c1
 ·refine ⟨false,e _ ?_⟩;unfold OU;refine bs (Wp h hx hs hb) ((b7 (vk (by rw[h.lP];exact h1))).trans (bF ?_ rfl));simpa using c1
theorem Wq:CC NR (yS n D G S P K R U W B s)=some [.bool ((D:Int)==(S.length:Int)),.int .i64 (n:Int),.bool true,.int .i64 (D:Int),.list cJ (mT S),.list ag G,.list ag (sV S),.list ab (iL P),.list ab (iL K),.list ag (sV R),.list eB U,.list cv (wL W),.list ab (iL B),.list ab (nS s)]:=by
 refine at1 ?_;unfold af1;rw[yR]
end
noncomputable def vm (C:af) (u x i:Int) (Wr:List UInt8) (t28 t29:Int) (t78:Bool) (bZ:Int) (ch:Bool) (db:Int) (aO rows fs tX ga gb gu gI dU gf gW lu:LV) {β:Type} (kr:(Int×Int×Bool×Int×LV×LV×LV×LV×LV×LV×LV×LV×LV×LV)→Option β):Option β:=
 bif t78 then
  aM gW u fun x6=>
  (C HX [V.int .i64 x6.toInt,V.int .i64 x,V.int .i64 bZ,.bool ch,V.int .i64 db,.list ag tX,.list ag ga,.list ab gb,.list ab gu,.list ag gI,.list eB dU,.list cJ aO,.list cv gf,.list ab gW,.list ab lu]).bind fun r7=>
  (C DZ [.list ab fs,V.int .i64 u,V.int .i64 x,.str Wr,V.int .i64 ((V.nth r7 0).toInt),V.int .i64 ((V.nth (r7.drop 1) 0).toInt),.bool ((V.nth ((r7.drop 1).drop 1) 0).toBool),V.int .i64 ((V.nth (((r7.drop 1).drop 1).drop 1) 0).toInt),.list ag ((V.nth ((r7.drop 1).drop 3) 0).toList),.list ag ((V.nth ((((r7.drop 1).drop 3).drop 1).drop 1) 0).toList),.list ab ((V.nth (((((r7.drop 1).drop 3).drop 1).drop 1).drop 1) 0).toList),.list ab ((V.nth ((((((r7.drop 1).drop 3).drop 1).drop 1).drop 1).drop 1) 0).toList),.list ag ((V.nth (((((((r7.drop 1).drop 3).drop 1).drop 1).drop 1).drop 1).drop 1) 0).toList),.list eB ((V.nth ((((((((r7.drop 1).drop 3).drop 1).drop 1).drop 1).drop 1).drop 1).drop 1) 0).toList),.list cJ ((V.nth (((r7.drop 1).drop 3).drop 1) 0).toList),.list cv ((V.nth (((((((((r7.drop 1).drop 3).drop 1).drop 1).drop 1).drop 1).drop 1).drop 1).drop 1) 0).toList),.list ab ((V.nth ((((((((((r7.drop 1).drop 3).drop 1).drop 1).drop 1).drop 1).drop 1).drop 1).drop 1).drop 1) 0).toList),.list ab ((V.nth (((((((((((r7.drop 1).drop 3).drop 1).drop 1).drop 1).drop 1).drop 1).drop 1).drop 1).drop 1).drop 1) 0).toList)]).bind fun r8=>
  kr ((V.nth r8 0).toInt,(V.nth (r8.drop 1) 0).toInt,(V.nth ((r8.drop 1).drop 1) 0).toBool,(V.nth (((r8.drop 1).drop 1).drop 1) 0).toInt,(V.nth (((r8.drop 1).drop 3).drop 1) 0).toList,(V.nth ((r8.drop 1).drop 3) 0).toList,(V.nth ((((r8.drop 1).drop 3).drop 1).drop 1) 0).toList,(V.nth (((((r8.drop 1).drop 3).drop 1).drop 1).drop 1) 0).toList,(V.nth ((((((r8.drop 1).drop 3).drop 1).drop 1).drop 1).drop 1) 0).toList,(V.nth (((((((r8.drop 1).drop 3).drop 1).drop 1).drop 1).drop 1).drop 1) 0).toList,(V.nth ((((((((r8.drop 1).drop 3).drop 1).drop 1).drop 1).drop 1).drop 1).drop 1) 0).toList,(V.nth (((((((((r8.drop 1).drop 3).drop 1).drop 1).drop 1).drop 1).drop 1).drop 1).drop 1) 0).toList,(V.nth ((((((((((r8.drop 1).drop 3).drop 1).drop 1).drop 1).drop 1).drop 1).drop 1).drop 1).drop 1) 0).toList,(V.nth (((((((((((r8.drop 1).drop 3).drop 1).drop 1).drop 1).drop 1).drop 1).drop 1).drop 1).drop 1).drop 1) 0).toList)
 else
  aM gf u fun x9=>
  bif !(x9.toStr==[]) then
  aM gW u fun oK=>
  (C HY [V.int .i64 oK.toInt,V.int .i64 x,V.int .i64 bZ,.bool ch,V.int .i64 db,.list ag tX,.list ag ga,.list ab gb,.list ab gu,.list ag gI,.list eB dU,.list cJ aO,.list cv gf,.list ab gW,.list ab lu]).bind fun cC=>
  bif (V.nth cC 0).toBool then
   aM ((V.nth (((((((((cC.drop 1).drop 3).drop 1).drop 1).drop 1).drop 1).drop 1).drop 1).drop 1) 0).toList) i fun lx=>
   bif Nat.ble ((((V.nth ((((((((cC.drop 1).drop 3).drop 1).drop 1).drop 1).drop 1).drop 1).drop 1) 0).toList).length+([.agg [.str Wr,.str lx.toStr]]:LV).length)*32) aY then
   kr (i,(V.nth (cC.drop 1) 0).toInt,(V.nth ((cC.drop 1).drop 1) 0).toBool,(V.nth (((cC.drop 1).drop 1).drop 1) 0).toInt,(V.nth (((cC.drop 1).drop 3).drop 1) 0).toList,(V.nth ((cC.drop 1).drop 3) 0).toList,(V.nth ((((cC.drop 1).drop 3).drop 1).drop 1) 0).toList,(V.nth (((((cC.drop 1).drop 3).drop 1).drop 1).drop 1) 0).toList,(V.nth ((((((cC.drop 1).drop 3).drop 1).drop 1).drop 1).drop 1) 0).toList,(V.nth (((((((cC.drop 1).drop 3).drop 1).drop 1).drop 1).drop 1).drop 1) 0).toList,((V.nth ((((((((cC.drop 1).drop 3).drop 1).drop 1).drop 1).drop 1).drop 1).drop 1) 0).toList)++([.agg [.str Wr,.str lx.toStr]]:LV),(V.nth (((((((((cC.drop 1).drop 3).drop 1).drop 1).drop 1).drop 1).drop 1).drop 1).drop 1) 0).toList,(V.nth ((((((((((cC.drop 1).drop 3).drop 1).drop 1).drop 1).drop 1).drop 1).drop 1).drop 1).drop 1) 0).toList,(V.nth (((((((((((cC.drop 1).drop 3).drop 1).drop 1).drop 1).drop 1).drop 1).drop 1).drop 1).drop 1).drop 1) 0).toList)
   else none
  else
   kr (i,(V.nth (cC.drop 1) 0).toInt,(V.nth ((cC.drop 1).drop 1) 0).toBool,(V.nth (((cC.drop 1).drop 1).drop 1) 0).toInt,(V.nth (((cC.drop 1).drop 3).drop 1) 0).toList,(V.nth ((cC.drop 1).drop 3) 0).toList,(V.nth ((((cC.drop 1).drop 3).drop 1).drop 1) 0).toList,(V.nth (((((cC.drop 1).drop 3).drop 1).drop 1).drop 1) 0).toList,(V.nth ((((((cC.drop 1).drop 3).drop 1).drop 1).drop 1).drop 1) 0).toList,(V.nth (((((((cC.drop 1).drop 3).drop 1).drop 1).drop 1).drop 1).drop 1) 0).toList,(V.nth ((((((((cC.drop 1).drop 3).drop 1).drop 1).drop 1).drop 1).drop 1).drop 1) 0).toList,(V.nth (((((((((cC.drop 1).drop 3).drop 1).drop 1).drop 1).drop 1).drop 1).drop 1).drop 1) 0).toList,(V.nth ((((((((((cC.drop 1).drop 3).drop 1).drop 1).drop 1).drop 1).drop 1).drop 1).drop 1).drop 1) 0).toList,(V.nth (((((((((((cC.drop 1).drop 3).drop 1).drop 1).drop 1).drop 1).drop 1).drop 1).drop 1).drop 1).drop 1) 0).toList)
  else
  kr (i,bZ,ch,db,aO,tX,ga,gb,gu,gI,dU,gf,gW,lu)
noncomputable def IX (C:af) (u t28 t29 bZ:Int) (ch:Bool) (db:Int) (aO rows tX gp ga gb gu gI dU gf gW:LV) {β:Type} (kn:(Int×Int×Bool×Int×LV×LV×LV×LV×LV×LV×LV×LV×LV×LV×LV)→Option β) (kr:((Int×Int×Bool×Int×LV×LV×LV×LV×LV×LV×LV×LV×LV×LV) ⊕ (Int×Bool×Int×Bool×Int×LV×LV×LV×LV×LV×LV×LV×LV×LV×LV×LV))→Option β):Option β:=
 bif decide (t29<t28) then
  aM tX t29 fun x1=>
  aM gp u fun x2=>
  (C HW [.list ab x2.toList,.list ab x1.toList]).bind fun r3=>
  (C yF [.list ab ((V.nth r3 0).toList)]).bind fun r4=>
  bif Nat.ble (((V.nth r4 0).toStr).length) maxLen&&true then
  aM dU u fun x5=>
  bif (decide (0≤(wrap .i32 (wrap .i64 (97+t29)))))&&(decide ((wrap .i32 (wrap .i64 (97+t29)))<128)) then
   bif Nat.ble (x5.toStr.length+[UInt8.ofNat ((wrap .i32 (wrap .i64 (97+t29)):Int).toNat)].length) pN then
   bif !(gg (.str ((V.nth r4 0).toStr)) aO) then
    bif (gp.length:Int)==2000 then
    kr (.inl (3,bZ,ch,db,aO,tX,gp,ga,gb,gu,gI,dU,gf,gW))
    else
    vm C u t29 ((jX (.str ((V.nth r4 0).toStr)) aO (V.int .i64 0)).toInt) (x5.toStr++[UInt8.ofNat ((wrap .i32 (wrap .i64 (97+t29)):Int).toNat)]) t28 t29 (!(gg (.str ((V.nth r4 0).toStr)) aO)) bZ ch db aO rows ((V.nth r3 0).toList) tX gp ga gb gu gI dU gf gW (un fun at6=>un fun at7=>un fun (Ix:Bool)=>un fun Iy=>un fun (qj:LV)=>un fun (aua:LV)=>un fun (rf:LV)=>un fun (ql:LV)=>un fun (wc:LV)=>un fun (we:LV)=>un fun (sg:LV)=>un fun (tt:LV)=>un fun (CQ:LV) (CR:LV)=>
     aM rows t29 fun x27=>
     kn (wrap .i64 (t29+1),at7,Ix,Iy,qj,bm rows t29 (V.int .i64 at6),aua,rf,ql,wc,we,sg,tt,CQ,CR))
   else
    vm C u t29 ((jX (.str ((V.nth r4 0).toStr)) aO (V.int .i64 0)).toInt) (x5.toStr++[UInt8.ofNat ((wrap .i32 (wrap .i64 (97+t29)):Int).toNat)]) t28 t29 (!(gg (.str ((V.nth r4 0).toStr)) aO)) bZ ch db aO rows ((V.nth r3 0).toList) tX gp ga gb gu gI dU gf gW (un fun OW=>un fun Ws=>un fun (Wt:Bool)=>un fun Wu=>un fun (Gw:LV)=>un fun (aub:LV)=>un fun (A5:LV)=>un fun (IJ:LV)=>un fun (Wv:LV)=>un fun (IY:LV)=>un fun (IZ:LV)=>un fun (I4:LV)=>un fun (I5:LV) (En:LV)=>
     aM rows t29 fun x42=>
     kn (wrap .i64 (t29+1),Ws,Wt,Wu,Gw,bm rows t29 (V.int .i64 OW),aub,A5,IJ,Wv,IY,IZ,I4,I5,En))
   else none
  else none
  else none
 else
  kr (.inr (t29,decide (t29<t28),bZ,ch,db,aO,rows,tX,gp,ga,gb,gu,gI,dU,gf,gW))
noncomputable def Eo (C:af) (u t28:Int):=un fun t29=>un fun bZ=>un fun ch=>un fun db=>un fun aO=>un fun rows=>un fun tX=>un fun gp=>un fun ga=>un fun gb=>un fun gu=>un fun gI=>un fun dU=>un fun gf gW=>IX C u t28 t29 bZ ch db aO rows tX gp ga gb gu gI dU gf gW (fun y=>some (Sum.inl y)) (fun r=>some (Sum.inr r))
noncomputable def af9 (C:af):cL:=Gk 1263 Vi [[1,2,0,5,6,0,0,0,0,12,0,0,0,0,0,0,0,0,0]] (@vm C) (bR 65 Vj [EQ,EQ,H1,H1,H1,H1,H1,H1,H1,H1,H1,H1,H1,H1,H1,H1,H1] [[0,0,0,0,0,0,0,0,0,0,0,0,0,0],[1,2,0,0,0,0,0,0,0,0,0,0,0,0,0,0,0,0]] (@IX C) bH)
theorem auc (C:af):bA C (af9 C) 101 (Cd 78 [1,1,1,0,1,0,0,1,1,0,0,1,1,1,1,0,0,1,1,1,0] [1,1,1,0,1,0,0,1,1,0,0,1,1,1,1,0,0,1,1,1,1] 101):=Gl Vi [[1,2,0,5,6,0,0,0,0,12,0,0,0,0,0,0,0,0,0]] (@vm C) (bu av) (bu av)
theorem aud (C:af):bA C (af9 C) 101 (Lp [1,1,1,0,1,0,0] 101):=bS Vj [EQ,EQ,H1,H1,H1,H1,H1,H1,H1,H1,H1,H1,H1,H1,H1,H1,H1] [[0,0,0,0,0,0,0,0,0,0,0,0,0,0],[1,2,0,0,0,0,0,0,0,0,0,0,0,0,0,0,0,0]] (@IX C) (bu (bB (auc C) av))
noncomputable def OX (C:af) (bZ:Int) (ch:Bool) (db:Int) (ba aI aQ aW aV aF aO bj bN bK:LV):Option LV:=
 bif (decide (0≤(ba.length:Int)))&&((decide ((ba.length:Int)≤(ba.length:Int)))&&(Nat.ble (((ba.length:Int).toNat)*8) aY)) then
  (Loop (Eo C db (ba.length:Int)) (0,bZ,ch,db,aO,List.replicate ((ba.length:Int).toNat) (V.int .i64 0),ba,aI,aQ,aW,aV,aF,bj,bN,bK)).bind (fX (un fun Ww=>un fun I6=>un fun (Wx:Bool)=>un fun Gx=>un fun (zI:LV)=>un fun (uC:LV)=>un fun (zJ:LV)=>un fun (Wy:LV)=>un fun (I7:LV)=>un fun (Wz:LV)=>un fun (WA:LV)=>un fun (WB:LV)=>un fun (WC:LV) (WD:LV)=>
   some [V.int .i64 Ww,V.int .i64 I6,.bool Wx,V.int .i64 Gx,.list cJ zI,.list ag uC,.list ag zJ,.list ab Wy,.list ab I7,.list ag Wz,.list eB WA,.list cv WB,.list ab WC,.list ab WD]) (un fun aue=>un fun (auf:Bool)=>un fun aug=>un fun (auh:Bool)=>un fun aui=>un fun (auj:LV)=>un fun (aga:LV)=>un fun (auk:LV)=>un fun (aul:LV)=>un fun (aum:LV)=>un fun (aun:LV)=>un fun (agb:LV)=>un fun (auo:LV)=>un fun (aup:LV)=>un fun (auq:LV) (aur:LV)=>
   bif Nat.ble ((agb.length+([.list ab aga]:LV).length)*24) aY then
   some [V.int .i64 0,V.int .i64 aug,.bool auh,V.int .i64 (wrap .i64 (aui+1)),.list cJ auj,.list ag auk,.list ag aul,.list ab aum,.list ab aun,.list ag (agb++([.list ab aga]:LV)),.list eB auo,.list cv aup,.list ab auq,.list ab aur]
   else none))
 else none
theorem aus {bZ:Int} {ch:Bool} {db:Int} {ba aI aQ aW aV aF aO bj bN bK:LV} {r:Option LV} (h:OX CC bZ ch db ba aI aQ aW aV aF aO bj bN bK=r):CC HR [V.int .i64 bZ,.bool ch,V.int .i64 db,.list ag ba,.list ag aI,.list ab aQ,.list ab aW,.list ag aV,.list eB aF,.list cJ aO,.list cv bj,.list ab bN,.list ab bK]=r:=bI (bB (aud CC) av) h
theorem cg2 {α β γ:Sort _} {f:α→β→γ} {a a':α} {b b':β} (h:a=a') (k:b=b'):f a b=f a' b':=by rw[h,k]
theorem wrap32 {x:Int} (h1: -2147483648≤x) (h2:x<2147483648):wrap .i32 x=x:=by
 unfold IntKind.wrap;simp only[IntKind.bits,IntKind.signed];simp;omega
theorem I8 {x:Nat} (h:x<31):((decide (0≤(wrap .i32 (wrap .i64 (97+(x:Int))))))&&(decide ((wrap .i32 (wrap .i64 (97+(x:Int))))<128)))=true:=by
 rw[sf,wrap32 (by omega) (by omega)];exact kh.2 ⟨ca (by omega),ca (by omega)⟩
section
variable {L n D:Nat} {g:Nat→List Nat} {S:List (List Nat)} {P K:List Int} {R:List (List Nat)} {W:List (List UInt8)} {B:List Int} {s:List Nat} {G U:LV}
section
variable (h:kP L n g S P K R W B s) (hs:s.length=L) (hD:D<S.length) (hR:R.length=D)
include h hD hR in
theorem WE:B.getD D 0= -1∨(0≤B.getD D 0∧B.getD D 0<R.length):=by rw[hR];exact h.b D hD
include h hs hD hR
theorem aut {x i:Nat} (hx:x<L) (hi:i<S.length) (hU:U.length≤100000) {w:List UInt8} {t28 t29:Int} {rows fs:LV}:
  ∃U':LV,U'.length≤U.length+1∧∀{β:Type} (kr:(Int×Int×Bool×Int×LV×LV×LV×LV×LV×LV×LV×LV×LV×LV)→Option β),vm CC (D:Int) (x:Int) (i:Int) w t28 t29 false (n:Int) true (D:Int) (mT S) rows fs G (sV S) (iL P) (iL K) (sV R) U (wL W) (iL B) (nS s) kr=
   kr ((i:Int),(n:Int),true,(D:Int),mT S,G,sV S,iL P,iL K,sV R,U',wL W,iL B,nS s):=by
 simp only[vm];obtain ⟨c,hc⟩:=at5 (D:=D) (G:=G) (U:=U) h hx (fun _=>by rw[hs];exact hx) (WE h hD hR);have e1:D<W.length:=by rw[h.lW];exact hD
 have e2:D<B.length:=by rw[h.lB];exact hD
 by_cases e0:W.getD D []=[]
 ·refine ⟨U,by omega,fun kr=>bF rfl ((b7 (yQ e1)).trans (bF ?_ rfl))⟩;rw[show (V.str (W.getD D [])).toStr=W.getD D [] from rfl,e0];rfl
 ·have e3:(!((V.str (W.getD D [])).toStr==[]))=true:=by
   rw[show (V.str (W.getD D [])).toStr=W.getD D [] from rfl];simpa using e0
  cases c with
  | false=>exact ⟨U,by omega,fun kr=>bF rfl ((b7 (yQ e1)).trans (bT e3 ((b7 (vk e2)).trans (bs hc rfl))))⟩
  | true=>
   refine ⟨_,?_,fun kr=>bF rfl ((b7 (yQ e1)).trans (bT e3 ((b7 (vk e2)).trans (bs hc (bT rfl ((b7 (yQ (by rw[h.lW];exact hi))).trans (bT (cap (m:=32) ?_ (by omega)) rfl)))))))⟩
   ·show (U++[_]).length≤_;simp
   ·show U.length+1≤_;omega
theorem auu {x:Nat} {i:Int} (hx:x<L) (hn:n≤32) {f:List Nat} (hf:Tr n f) (wC:f∉S) {w:List UInt8} {t28 t29:Int} {rows:LV} {β:Type} (kr:(Int×Int×Bool×Int×LV×LV×LV×LV×LV×LV×LV×LV×LV×LV)→Option β):
  vm CC (D:Int) (x:Int) i w t28 t29 true (n:Int) true (D:Int) (mT S) rows (nS f) G (sV S) (iL P) (iL K) (sV R) U (wL W) (iL B) (nS s) kr=
   kr ((S.length:Int),(n:Int),true,(D:Int),mT (S++[f]),G,sV (S++[f]),iL (P++[(D:Int)]),iL (K++[(x:Int)]),sV R,U,wL (W++[w]),iL (B++[(xe R s (B.getD D 0) x:Int)]),nS s):=by
 unfold vm;have e2:D<B.length:=by rw[h.lB];exact hD
 have hl:=h.len;refine bT rfl ((b7 (vk e2)).trans (bs (Wp h hx (fun _=>by rw[hs];exact hx) (WE h hD hR)) (bs (Wo hn h.tr hf wC hl ?_ ?_ ?_ ?_) rfl)))
 ·rw[h.lP];exact hl
 ·rw[h.lK];exact hl
 ·rw[h.lW];exact hl
 ·rw[h.lB];exact hl
end
def br (g:Nat→List Nat) (f:List Nat) (x:Nat):List Nat:=comp f (g x)
def gV (L:Nat) (g:Nat→List Nat):LV:=tab L fun x=>tV (g x)
def xf (n D L:Nat) (g:Nat→List Nat) (T:List (List Nat)) (f:List Nat) (x:Nat) (S:List (List Nat)) (P K:List Int) (R:List (List Nat)) (U:LV) (W:List (List UInt8)) (B:List Int) (s:List Nat):Int×Int×Bool×Int×LV×LV×LV×LV×LV×LV×LV×LV×LV×LV×LV:=
 ((x:Int),(n:Int),true,(D:Int),mT S,(tab L fun j=>if j<x then nV (iz T (br g f j)) else V.int .i64 0),gV L g,sV S,iL P,iL K,sV R,U,wL W,iL B,nS s)
def A8 (n:Nat):Prop:= ∃T:List (List Nat),T.Nodup∧(∀f∈T,Tr n f)∧T.length=2000
theorem auv (h:kP L n g S P K R W B s) (hs:s.length=L) (hR:R.length=D) (hn:1≤n) (oT:n≤32) (hg: ∀x,x<L→Tr n (g x)) (hL:L≤6) {f:List Nat} (hD:S[D]? =some f) {U2:List (List Nat)} {x:Nat} (hx:x<L) (sn:cO S (br g f x) <+: U2) (hU:U.length≤100000):
  (∃P' K' U' W' B',Eo CC (D:Int) (L:Int) (xf n D L g U2 f x S P K R U W B s)=some (.inl (xf n D L g U2 f (x+1) (cO S (br g f x)) P' K' R U' W' B' s))∧kP L n g (cO S (br g f x)) P' K' R W' B' s∧U'.length≤U.length+1)∨
  ∃t,Eo CC (D:Int) (L:Int) (xf n D L g U2 f x S P K R U W B s)=some (.inr (.inl (3,t)))∧A8 n:=by
 obtain ⟨qA,rfl⟩:=cz.1 hD;have hlen:=h.len;have qB:Tr n (br g S[D] x):=(h.tr _ (dc qA)).comp (hg x hx);have j6:iz U2 (br g S[D] x)=iz (cO S (br g S[D] x)) (br g S[D] x):=af4 sn zN;have js:(tab L fun j=>if j<x then nV (iz U2 (br g S[D] j)) else V.int .i64 0).set x (nV (iz U2 (br g S[D] x)))=tab L fun j=>if j<x+1 then nV (iz U2 (br g S[D] j)) else V.int .i64 0:=by
  rw[lO];refine c8 fun j _=> ?_;by_cases hj:j=x
  ·rw[aB hj,dp,hj]
  ·rw[ax hj];by_cases dw:j<x
   ·rw[aB dw,dp]
   ·rw[ax dw,dq]
 have hW:=h.w D qA;have WG:D<W.length:=by rw[h.lW];exact qA
 have WH:(gV L g)[x]? =some (tV (g x)):=mz hx;have hC:CC HW [.list ab (tV S[D]).toList,.list ab (tV (g x)).toList]=some [tV (br g S[D] x)]:=by
  rw[rG,rG];exact atW hn oT (h.tr _ (dc qA)) (hg x hx)
 have hX:CC yF [.list ab ((V.nth [tV (br g S[D] x)] 0).toList)]=some [kT (br g S[D] x)]:=by
  rw[show (V.nth [tV (br g S[D] x)] 0).toList=nS (br g S[D] x) from rG];exact Wj oT qB
 have u5:(Nat.ble (((V.nth [kT (br g S[D] x)] 0).toStr).length) maxLen&&true)=true:=by
  refine kh.2 ⟨yZ ?_,rfl⟩;rw[show (V.nth [kT (br g S[D] x)] 0).toStr=od (br g S[D] x) from rfl,show (od (br g S[D] x)).length=n by simp[od,qB.1]];unfold maxLen;omega
 have WI: ∀b:UInt8,Nat.ble ((V.str (W.getD D [])).toStr.length+[b].length) pN=true:=fun b=>by
  refine yZ ?_;show (W.getD D []).length+1≤pN;unfold pN;omega
 have yr:=Wn oT h.tr qB;simp only[Eo,IX,un,xf,aM,bm];by_cases hk:br g S[D] x∈S
 ·obtain ⟨U2',hU2,he⟩:=aut (G:=gV L g) (U:=U) (D:=D) h hs qA hR hx (tW hk) hU
   (w:=W.getD D []++[UInt8.ofNat ((wrap .i32 (wrap .i64 (97+(x:Int))):Int).toNat)]) (t28:=(L:Int)) (t29:=(x:Int)) (rows:=tab L fun j=>if j<x then nV (iz U2 (br g S[D] j)) else V.int .i64 0) (fs:=nS (br g S[D] x))
  have A9:cO S (br g S[D] x)=S:=by rw[cO,aB hk]
  rw[A9] at j6⊢;have hm:gg (kT (br g S[D] x)) (mT S)=true:=af5 yr hk;refine .inl ⟨P,K,U2',W,B,bT (bn hx) ((b7 WH).trans ((b7 (IW qA)).trans (bs hC (bs hX (bT u5 ((b7 (yQ WG)).trans (bT (I8 (by omega)) (bT (WI _) (bF ?_ ?_))))))))),h,hU2⟩
  ·exact congrArg (!·) hm
  ·refine (cg2 (f:=fun i b=>vm CC (D:Int) (x:Int) i _ (L:Int) (x:Int) b (n:Int) true (D:Int) (mT S) _ _ (gV L g) (sV S) (iL P) (iL K) (sV R) U (wL W) (iL B) (nS s) _) (af7 yr hk) (congrArg (!·) hm)).trans ((he _).trans ((sb (by simpa using hx)).trans ?_))
   rw[bq (by omega),Int.toNat_natCast,←js,j6];rfl
 ·have hm:gg (kT (br g S[D] x)) (mT S)=false:=af6 yr hk;have A9:cO S (br g S[D] x)=S++[br g S[D] x]:=by rw[cO,ax hk]
  by_cases agc:S.length=2000
  ·refine .inr ⟨_,bT (bn hx) ((b7 WH).trans ((b7 (IW qA)).trans (bs hC (bs hX (bT u5 ((b7 (yQ WG)).trans (bT (I8 (by omega)) (bT (WI _) (bT ?_ (bT ?_ rfl)))))))))),S,h.nd,h.tr,agc⟩
   ·exact congrArg (!·) hm
   ·simp[agc]
  ·rw[A9] at j6⊢;have xQ:=WE h qA hR;have dn:=af8 h hx (fun _=>by rw[hs];exact hx) xQ;refine .inl ⟨P++[(D:Int)],K++[(x:Int)],U,W++[W.getD D []++[UInt8.ofNat ((wrap .i32 (wrap .i64 (97+(x:Int))):Int).toNat)]],B++[(xe R s (B.getD D 0) x:Int)],bT (bn hx) ((b7 WH).trans ((b7 (IW qA)).trans (bs hC (bs hX (bT u5 ((b7 (yQ WG)).trans (bT (I8 (by omega)) (bT (WI _) (bT ?_ (bF ?_ ?_)))))))))),h.grow qB hk (by omega) (p:=D) (x:=x) (b:=(xe R s (B.getD D 0) x:Int)) qA hx ?_ (.inr ⟨by omega,by exact_mod_cast dn⟩) ?_,Nat.le_succ _⟩
   ·exact congrArg (!·) hm
   ·simp;omega
   ·refine (congrArg (fun b=>vm CC (D:Int) (x:Int) _ _ (L:Int) (x:Int) b (n:Int) true (D:Int) (mT S) _ _ (gV L g) (sV S) (iL P) (iL K) (sV R) U (wL W) (iL B) (nS s) _) (congrArg (!·) hm)).trans ?_;refine (auu h hs qA hR hx oT qB hk _).trans ((sb (by simpa using hx)).trans ?_)
    rw[bq (by omega),Int.toNat_natCast,←js,j6];rw[at3 hk];rfl
   ·rw[hY];show _+1≤_;omega
   ·rw[cE qA];rfl
end
noncomputable def I9 (C:af) (pq:Bool) (t39:LV) (t40 bZ:Int) (ch:Bool) (db:Int) (aI aQ aW aV aF aO bj bN bK:LV) (t41:Int) (ba:LV) {β:Type} (kn:(Int×LV)→Option β) (kr:((Int) ⊕ (Int×Bool×LV))→Option β):Option β:=
 bif decide (t41<t40) then
  (idx t39 t41).bind fun x2=>
  bif (x2.toList.length:Int) != bZ then
  kr (.inl 4)
  else
  (C DY [.list ab x2.toList]).bind fun r3=>
  bif !((V.nth r3 0).toBool) then
   kr (.inl 4)
  else
   bif Nat.ble (x2.toList.length*8) aY then
   bif Nat.ble ((ba.length+([.list ab x2.toList]:LV).length)*24) aY then
    kn (wrap .i64 (t41+1),ba++([.list ab x2.toList]:LV))
   else none
   else none
 else
  kr (.inr (t41,decide (t41<t40),ba))
noncomputable def OY (C:af) (pq:Bool) (t39:LV) (t40 bZ:Int) (ch:Bool) (db:Int) (aI aQ aW aV aF aO bj bN bK:LV):=un fun t41 ba=>I9 C pq t39 t40 bZ ch db aI aQ aW aV aF aO bj bN bK t41 ba (fun y=>some (Sum.inl y)) (fun r=>some (Sum.inr r))
noncomputable def Ja (C:af) (empty:Int) (t72:Bool) (bZ:Int) (ch:Bool) (db:Int) (ba aI aQ aW aV aF aO bj bN bK:LV) {β:Type} (kr:(Int×Int×Bool×Int×LV×LV×LV×LV×LV×LV×LV×LV×LV×LV)→Option β):Option β:=
 bif t72 then
  (C NZ [V.int .i64 bZ]).bind fun r8=>
  (C DZ [.list ab ((V.nth r8 0).toList),V.int .i64 (-1),V.int .i64 (-1),.str [],V.int .i64 (-1),V.int .i64 bZ,.bool ch,V.int .i64 db,.list ag ba,.list ag aI,.list ab aQ,.list ab aW,.list ag aV,.list eB aF,.list cJ aO,.list cv bj,.list ab bN,.list ab bK]).bind fun r9=>
  kr ((V.nth r9 0).toInt,(V.nth (r9.drop 1) 0).toInt,(V.nth ((r9.drop 1).drop 1) 0).toBool,(V.nth (((r9.drop 1).drop 1).drop 1) 0).toInt,(V.nth ((r9.drop 1).drop 3) 0).toList,(V.nth ((((r9.drop 1).drop 3).drop 1).drop 1) 0).toList,(V.nth (((((r9.drop 1).drop 3).drop 1).drop 1).drop 1) 0).toList,(V.nth ((((((r9.drop 1).drop 3).drop 1).drop 1).drop 1).drop 1) 0).toList,(V.nth (((((((r9.drop 1).drop 3).drop 1).drop 1).drop 1).drop 1).drop 1) 0).toList,(V.nth ((((((((r9.drop 1).drop 3).drop 1).drop 1).drop 1).drop 1).drop 1).drop 1) 0).toList,(V.nth (((r9.drop 1).drop 3).drop 1) 0).toList,(V.nth (((((((((r9.drop 1).drop 3).drop 1).drop 1).drop 1).drop 1).drop 1).drop 1).drop 1) 0).toList,(V.nth ((((((((((r9.drop 1).drop 3).drop 1).drop 1).drop 1).drop 1).drop 1).drop 1).drop 1).drop 1) 0).toList,(V.nth (((((((((((r9.drop 1).drop 3).drop 1).drop 1).drop 1).drop 1).drop 1).drop 1).drop 1).drop 1).drop 1) 0).toList)
 else
  kr (empty,bZ,ch,db,ba,aI,aQ,aW,aV,aF,aO,bj,bN,bK)
noncomputable def Ba (C:af) (empty x:Int) (g:LV) (letter:List UInt8) (i t86 t87:Int) (t106:Bool) (bZ:Int) (ch:Bool) (db:Int) (yT aI aQ aW aV aF aO bj bN bK:LV) {β:Type} (kr:(Int×Int×Bool×Int×LV×LV×LV×LV×LV×LV×LV×LV×LV×LV)→Option β):Option β:=
 bif t106 then
  aM bj i fun OZ=>
  bif Nat.ble ((aF.length+([.agg [.str letter,.str OZ.toStr]]:LV).length)*32) aY then
  kr (i,bZ,ch,db,yT,aI,aQ,aW,aV,aF++([.agg [.str letter,.str OZ.toStr]]:LV),aO,bj,bN,bK)
  else none
 else
  bif Nat.ble (g.length*8) aY then
  (C DZ [.list ab g,V.int .i64 empty,V.int .i64 x,.str letter,V.int .i64 empty,V.int .i64 bZ,.bool ch,V.int .i64 db,.list ag yT,.list ag aI,.list ab aQ,.list ab aW,.list ag aV,.list eB aF,.list cJ aO,.list cv bj,.list ab bN,.list ab bK]).bind fun qC=>
  kr ((V.nth qC 0).toInt,(V.nth (qC.drop 1) 0).toInt,(V.nth ((qC.drop 1).drop 1) 0).toBool,(V.nth (((qC.drop 1).drop 1).drop 1) 0).toInt,(V.nth ((qC.drop 1).drop 3) 0).toList,(V.nth ((((qC.drop 1).drop 3).drop 1).drop 1) 0).toList,(V.nth (((((qC.drop 1).drop 3).drop 1).drop 1).drop 1) 0).toList,(V.nth ((((((qC.drop 1).drop 3).drop 1).drop 1).drop 1).drop 1) 0).toList,(V.nth (((((((qC.drop 1).drop 3).drop 1).drop 1).drop 1).drop 1).drop 1) 0).toList,(V.nth ((((((((qC.drop 1).drop 3).drop 1).drop 1).drop 1).drop 1).drop 1).drop 1) 0).toList,(V.nth (((qC.drop 1).drop 3).drop 1) 0).toList,(V.nth (((((((((qC.drop 1).drop 3).drop 1).drop 1).drop 1).drop 1).drop 1).drop 1).drop 1) 0).toList,(V.nth ((((((((((qC.drop 1).drop 3).drop 1).drop 1).drop 1).drop 1).drop 1).drop 1).drop 1).drop 1) 0).toList,(V.nth (((((((((((qC.drop 1).drop 3).drop 1).drop 1).drop 1).drop 1).drop 1).drop 1).drop 1).drop 1).drop 1) 0).toList)
  else none
noncomputable def Jb (C:af) (empty t86 t87 bZ:Int) (ch:Bool) (db:Int) (yT aI aQ aW aV aF aO bj bN bK:LV) {β:Type} (kn:(Int×Int×Bool×Int×LV×LV×LV×LV×LV×LV×LV×LV×LV×LV)→Option β) (kr:(Int×Bool×Int×Bool×Int×LV×LV×LV×LV×LV×LV×LV×LV×LV×LV)→Option β):Option β:=
 bif decide (t87<t86) then
  aM yT t87 fun O0=>
  bif (decide (0≤(wrap .i32 (wrap .i64 (97+t87)))))&&(decide ((wrap .i32 (wrap .i64 (97+t87)))<128)) then
  (C yF [.list ab O0.toList]).bind fun WJ=>
  bif Nat.ble (((V.nth WJ 0).toStr).length) maxLen&&true then
   Ba C empty t87 O0.toList [UInt8.ofNat ((wrap .i32 (wrap .i64 (97+t87)):Int).toNat)] ((jX (.str ((V.nth WJ 0).toStr)) aO (V.int .i64 0)).toInt) t86 t87 (gg (.str ((V.nth WJ 0).toStr)) aO) bZ ch db yT aI aQ aW aV aF aO bj bN bK (un fun OW=>un fun Ws=>un fun (Wt:Bool)=>un fun Wu=>un fun (auw:LV)=>un fun (L6:LV)=>un fun (A5:LV)=>un fun (IJ:LV)=>un fun (Wv:LV)=>un fun (IY:LV)=>un fun (IZ:LV)=>un fun (I4:LV)=>un fun (I5:LV) (En:LV)=>
    bif Nat.ble ((En.length+([V.int .i64 OW]:LV).length)*8) aY then
    kn (wrap .i64 (t87+1),Ws,Wt,Wu,auw,L6,A5,IJ,Wv,IY,IZ,I4,I5,En++([V.int .i64 OW]:LV))
    else none)
  else none
  else none
 else
  kr (t87,decide (t87<t86),bZ,ch,db,yT,aI,aQ,aW,aV,aF,aO,bj,bN,bK)
noncomputable def Jc (C:af) (empty t86:Int):=un fun t87=>un fun bZ=>un fun ch=>un fun db=>un fun yT=>un fun aI=>un fun aQ=>un fun aW=>un fun aV=>un fun aF=>un fun aO=>un fun bj=>un fun bN bK=>Jb C empty t86 t87 bZ ch db yT aI aQ aW aV aF aO bj bN bK (fun y=>some (Sum.inl y)) (fun r=>some (Sum.inr r))
noncomputable def O1 (C:af):cL:=bR 97 Ve [EQ,EQ,EQ,H1,EQ,EQ,EQ,H1,EQ,EQ,EQ,EQ,EQ,EQ,EQ,EQ,EQ] [[0],[1,2,3,0,0,5,6,7,0,9,10,11,12,13,14,15,16,17]] (@I9 C) (Gk 1167 Vf [[0,0,0,0,0,0,0,0,0,0,0,0,0,0]] (@Ja C) (Gk 1711 Vg [[1,0,6,7,0,0,0,0,0,0,0,0,0,0,0,0,0]] (@Ba C) (bR 257 Vh [EQ,EQ,H1,H1,H1,H1,H1,H1,H1,H1,H1,H1,H1,H1,H1,H1] [[1,2,0,0,0,0,0,0,0,0,0,0,0,0,0,0,0]] (@Jb C) bH)))
theorem auy (C:af):bA C (O1 C) 99 (Lp [1,1,1,1,0,1,0,0] 99):=bS Ve [EQ,EQ,EQ,H1,EQ,EQ,EQ,H1,EQ,EQ,EQ,EQ,EQ,EQ,EQ,EQ,EQ] [[0],[1,2,3,0,0,5,6,7,0,9,10,11,12,13,14,15,16,17]] (@I9 C) (bu av)
theorem auz (C:af):bA C (O1 C) 99 (Cd 72 [1,1,1,1,1,1,0,1,0] [1,1,1,1,1,1,0,1,1] 99):=Gl Vf [[0,0,0,0,0,0,0,0,0,0,0,0,0,0]] (@Ja C) (bu av) (bu av)
theorem auA (C:af):bA C (O1 C) 99 (Cd 106 [1,1,1,1,1,1,1,0,1,0,0,1,1,0,0,1,1,1,0,1,0] [1,1,1,1,1,1,1,0,1,0,0,1,1,0,0,1,1,1,0,1,1] 99):=Gl Vg [[1,0,6,7,0,0,0,0,0,0,0,0,0,0,0,0,0]] (@Ba C) (bu av) (bu av)
theorem auB (C:af):bA C (O1 C) 99 (Lp [1,1,1,1,1,1,1,0,1,0,0] 99):=bS Vh [EQ,EQ,H1,H1,H1,H1,H1,H1,H1,H1,H1,H1,H1,H1,H1,H1] [[1,2,0,0,0,0,0,0,0,0,0,0,0,0,0,0,0]] (@Jb C) (bu (bB (auA C) av))
noncomputable def agd (C:af) (mK:LV) (pq:Bool):Option LV:=
 bif (mK.length:Int)==0 then
  some [V.bool true,V.int .i64 1]
 else
  bif decide ((mK.length:Int)>6) then
  some [V.bool true,V.int .i64 1]
  else
  (mK[0]?).bind fun x1=>
  (Loop (OY C pq mK (mK.length:Int) (x1.toList.length:Int) pq 0 ([]:LV) ([]:LV) ([]:LV) ([]:LV) ([]:LV) ([]:LV) ([]:LV) ([]:LV) ([]:LV)) (0,([]:LV))).bind (fX (fun nK=>
   some [V.bool true,V.int .i64 nK]) (un fun mr=>un fun (j5:Bool) (Jd:LV)=>
   Ja C (-1) pq (x1.toList.length:Int) pq 0 Jd ([]:LV) ([]:LV) ([]:LV) ([]:LV) ([]:LV) ([]:LV) ([]:LV) ([]:LV) ([]:LV) (un fun auC=>un fun auD=>un fun (V0:Bool)=>un fun V1=>un fun (qk:LV)=>un fun (wg:LV)=>un fun (zR:LV)=>un fun (qj:LV)=>un fun (tp:LV)=>un fun (rf:LV)=>un fun (ql:LV)=>un fun (wc:LV)=>un fun (we:LV) (sg:LV)=>
    (Loop (Jc C auC (qk.length:Int)) (0,auD,V0,V1,qk,wg,zR,qj,tp,rf,ql,wc,we,sg)).bind (un fun aAB=>un fun (Ww:Bool)=>un fun auE=>un fun (auF:Bool)=>un fun auG=>un fun (auH:LV)=>un fun (uC:LV)=>un fun (zJ:LV)=>un fun (Wy:LV)=>un fun (I7:LV)=>un fun (Wz:LV)=>un fun (WA:LV)=>un fun (WB:LV)=>un fun (WC:LV) (WD:LV)=>
     some [V.bool false,V.int .i64 auE,.bool auF,V.int .i64 auG,.list ag auH,.list ag uC,.list ab zJ,.list ab Wy,.list ag I7,.list eB Wz,.list cJ WA,.list cv WB,.list ab WC,.list ab WD]))))
theorem auI {mK:LV} {pq:Bool} {r:Option LV} (h:agd CC mK pq=r):CC NQ [.list ag mK,.bool pq]=r:=bI (bB (auy CC) (bB (auz CC) (bB (auB CC) av))) h
noncomputable def O2 (C:af) (lS:Int) (lT:Bool) (age:Int) (aI aQ aW aV aF aO:LV) (bZ:Int) (ch:Bool) (db:Int) (bj bN bK ec iX gp ga gb gu gI:LV) {β:Type} (kn:(Int×Bool×Int×LV×LV×LV×LV×LV×LV×LV×LV×LV×LV)→Option β) (kr:((Int×Int×Bool×Int×LV×LV×LV×LV×LV×LV) ⊕ (Bool×Int×Bool×Int×LV×LV×LV×LV×LV×LV×LV×LV×LV×LV))→Option β):Option β:=
 (C NR [V.int .i64 bZ,.bool ch,V.int .i64 db,.list ag bj,.list ag bN,.list ab bK,.list ab ec,.list ag iX,.list eB gp,.list cJ ga,.list cv gb,.list ab gu,.list ab gI]).bind fun r2=>
 bif !((V.nth r2 0).toBool) then
  (C HR [V.int .i64 ((V.nth (r2.drop 1) 0).toInt),.bool ((V.nth ((r2.drop 1).drop 1) 0).toBool),V.int .i64 ((V.nth (((r2.drop 1).drop 1).drop 1) 0).toInt),.list ag ((V.nth (((r2.drop 1).drop 3).drop 1) 0).toList),.list ag ((V.nth ((((r2.drop 1).drop 3).drop 1).drop 1) 0).toList),.list ab ((V.nth (((((r2.drop 1).drop 3).drop 1).drop 1).drop 1) 0).toList),.list ab ((V.nth ((((((r2.drop 1).drop 3).drop 1).drop 1).drop 1).drop 1) 0).toList),.list ag ((V.nth (((((((r2.drop 1).drop 3).drop 1).drop 1).drop 1).drop 1).drop 1) 0).toList),.list eB ((V.nth ((((((((r2.drop 1).drop 3).drop 1).drop 1).drop 1).drop 1).drop 1).drop 1) 0).toList),.list cJ ((V.nth ((r2.drop 1).drop 3) 0).toList),.list cv ((V.nth (((((((((r2.drop 1).drop 3).drop 1).drop 1).drop 1).drop 1).drop 1).drop 1).drop 1) 0).toList),.list ab ((V.nth ((((((((((r2.drop 1).drop 3).drop 1).drop 1).drop 1).drop 1).drop 1).drop 1).drop 1).drop 1) 0).toList),.list ab ((V.nth (((((((((((r2.drop 1).drop 3).drop 1).drop 1).drop 1).drop 1).drop 1).drop 1).drop 1).drop 1).drop 1) 0).toList)]).bind fun r3=>
  bif (((V.nth r3 0).toInt):Int) != 0 then
  kr (.inl ((V.nth r3 0).toInt,0,false,0,([]:LV),([]:LV),([]:LV),([]:LV),([]:LV),([]:LV)))
  else
  kn ((V.nth (r3.drop 1) 0).toInt,(V.nth ((r3.drop 1).drop 1) 0).toBool,(V.nth (((r3.drop 1).drop 1).drop 1) 0).toInt,(V.nth (((r3.drop 1).drop 3).drop 1) 0).toList,(V.nth ((((r3.drop 1).drop 3).drop 1).drop 1) 0).toList,(V.nth (((((r3.drop 1).drop 3).drop 1).drop 1).drop 1) 0).toList,(V.nth ((((((r3.drop 1).drop 3).drop 1).drop 1).drop 1).drop 1) 0).toList,(V.nth (((((((r3.drop 1).drop 3).drop 1).drop 1).drop 1).drop 1).drop 1) 0).toList,(V.nth ((((((((r3.drop 1).drop 3).drop 1).drop 1).drop 1).drop 1).drop 1).drop 1) 0).toList,(V.nth ((r3.drop 1).drop 3) 0).toList,(V.nth (((((((((r3.drop 1).drop 3).drop 1).drop 1).drop 1).drop 1).drop 1).drop 1).drop 1) 0).toList,(V.nth ((((((((((r3.drop 1).drop 3).drop 1).drop 1).drop 1).drop 1).drop 1).drop 1).drop 1).drop 1) 0).toList,(V.nth (((((((((((r3.drop 1).drop 3).drop 1).drop 1).drop 1).drop 1).drop 1).drop 1).drop 1).drop 1).drop 1) 0).toList)
 else
  kr (.inr (!((V.nth r2 0).toBool),(V.nth (r2.drop 1) 0).toInt,(V.nth ((r2.drop 1).drop 1) 0).toBool,(V.nth (((r2.drop 1).drop 1).drop 1) 0).toInt,(V.nth (((r2.drop 1).drop 3).drop 1) 0).toList,(V.nth ((((r2.drop 1).drop 3).drop 1).drop 1) 0).toList,(V.nth (((((r2.drop 1).drop 3).drop 1).drop 1).drop 1) 0).toList,(V.nth ((((((r2.drop 1).drop 3).drop 1).drop 1).drop 1).drop 1) 0).toList,(V.nth (((((((r2.drop 1).drop 3).drop 1).drop 1).drop 1).drop 1).drop 1) 0).toList,(V.nth ((((((((r2.drop 1).drop 3).drop 1).drop 1).drop 1).drop 1).drop 1).drop 1) 0).toList,(V.nth ((r2.drop 1).drop 3) 0).toList,(V.nth (((((((((r2.drop 1).drop 3).drop 1).drop 1).drop 1).drop 1).drop 1).drop 1).drop 1) 0).toList,(V.nth ((((((((((r2.drop 1).drop 3).drop 1).drop 1).drop 1).drop 1).drop 1).drop 1).drop 1).drop 1) 0).toList,(V.nth (((((((((((r2.drop 1).drop 3).drop 1).drop 1).drop 1).drop 1).drop 1).drop 1).drop 1).drop 1).drop 1) 0).toList))
noncomputable def WK (C:af) (lS:Int) (lT:Bool) (age:Int) (aI aQ aW aV aF aO:LV):=un fun bZ=>un fun ch=>un fun db=>un fun bj=>un fun bN=>un fun bK=>un fun ec=>un fun iX=>un fun gp=>un fun ga=>un fun gb=>un fun gu gI=>O2 C lS lT age aI aQ aW aV aF aO bZ ch db bj bN bK ec iX gp ga gb gu gI (fun y=>some (Sum.inl y)) (fun r=>some (Sum.inr r))
noncomputable def auJ (C:af):cL:=bR 65 U9 [EQ,EQ,EQ,H1,H1,H1,EQ,EQ,EQ,EQ,EQ,EQ,H1,H1,H1,H1,H1,H1,H1,H1,H1,H1] [[0,0,0,0,0,0,0,0,0,0],[0,1,2,3,0,0,0,7,8,9,10,11,12,0,0,0,0,0,0,0,0,0,0]] (@O2 C) bH
theorem auK (C:af):bA C (auJ C) 71 (Lp [1,1,1,0,0,0] 71):=bS U9 [EQ,EQ,EQ,H1,H1,H1,EQ,EQ,EQ,EQ,EQ,EQ,H1,H1,H1,H1,H1,H1,H1,H1,H1,H1] [[0,0,0,0,0,0,0,0,0,0],[0,1,2,3,0,0,0,7,8,9,10,11,12,0,0,0,0,0,0,0,0,0,0]] (@O2 C) (bu av)
noncomputable def WM (C:af) (mK:LV) (pq:Bool):Option LV:=
 (C NQ [.list ag mK,.bool pq]).bind fun r1=>
 bif (V.nth r1 0).toBool then
  bif (((V.nth (r1.drop 1) 0).toInt):Int) != 0 then
  some [V.int .i64 0,.bool false,V.int .i64 0,V.int .i64 ((V.nth (r1.drop 1) 0).toInt),.list ag ([]:LV),.list ag ([]:LV),.list ab ([]:LV),.list ab ([]:LV),.list ag ([]:LV),.list eB ([]:LV)]
  else none
 else
  (Loop (WK C 0 false 0 ([]:LV) ([]:LV) ([]:LV) ([]:LV) ([]:LV) ([]:LV)) ((V.nth (r1.drop 1) 0).toInt,(V.nth ((r1.drop 1).drop 1) 0).toBool,(V.nth (((r1.drop 1).drop 1).drop 1) 0).toInt,(V.nth ((r1.drop 1).drop 3) 0).toList,(V.nth (((r1.drop 1).drop 3).drop 1) 0).toList,(V.nth ((((r1.drop 1).drop 3).drop 1).drop 1) 0).toList,(V.nth (((((r1.drop 1).drop 3).drop 1).drop 1).drop 1) 0).toList,(V.nth ((((((r1.drop 1).drop 3).drop 1).drop 1).drop 1).drop 1) 0).toList,(V.nth (((((((r1.drop 1).drop 3).drop 1).drop 1).drop 1).drop 1).drop 1) 0).toList,(V.nth ((((((((r1.drop 1).drop 3).drop 1).drop 1).drop 1).drop 1).drop 1).drop 1) 0).toList,(V.nth (((((((((r1.drop 1).drop 3).drop 1).drop 1).drop 1).drop 1).drop 1).drop 1).drop 1) 0).toList,(V.nth ((((((((((r1.drop 1).drop 3).drop 1).drop 1).drop 1).drop 1).drop 1).drop 1).drop 1).drop 1) 0).toList,(V.nth (((((((((((r1.drop 1).drop 3).drop 1).drop 1).drop 1).drop 1).drop 1).drop 1).drop 1).drop 1).drop 1) 0).toList)).bind (fX (un fun nK=>un fun auL=>un fun (auM:Bool)=>un fun VZ=>un fun (C4:LV)=>un fun (zT:LV)=>un fun (rE:LV)=>un fun (AY:LV)=>un fun (V2:LV) (Ek:LV)=>
   some [V.int .i64 auL,.bool auM,V.int .i64 VZ,V.int .i64 nK,.list ag C4,.list ag zT,.list ab rE,.list ab AY,.list ag V2,.list eB Ek]) (un fun (wi:Bool)=>un fun Ix=>un fun (Iy:Bool)=>un fun auN=>un fun (tp:LV)=>un fun (rf:LV)=>un fun (ql:LV)=>un fun (wc:LV)=>un fun (we:LV)=>un fun (sg:LV)=>un fun (tt:LV)=>un fun (CQ:LV)=>un fun (CR:LV) (L5:LV)=>
   some [V.int .i64 Ix,.bool Iy,V.int .i64 auN,V.int .i64 0,.list ag tp,.list ag rf,.list ab ql,.list ab wc,.list ag we,.list eB sg]))
theorem agf {mK:LV} {pq:Bool} {r:Option LV} (h:WM CC mK pq=r):CC NM [.list ag mK,.bool pq]=r:=bI (bB (auK CC) av) h
section
variable {L n D:Nat} {g:Nat→List Nat} {S:List (List Nat)} {P K:List Int} {R:List (List Nat)} {W:List (List UInt8)} {B:List Int} {s:List Nat} {U:LV}
def eZ (L:Nat) (g:Nat→List Nat) (T:List (List Nat)) (f:List Nat):List Nat:=(List.range L).map fun x=>iz T (br g f x)
theorem auO {T:List (List Nat)} {f:List Nat}:tV (eZ L g T f)= .list ab (tab L fun j=>if j<L then nV (iz T (br g f j)) else V.int .i64 0):=by
 unfold tV eZ nS;rw[yX];exact congrArg _ (c8 (n:=L) (g:=nV ∘ fun x=>iz T (br g f x)) fun j hj=>by rw[aB hj];rfl)
abbrev PrR:=(Int×Int×Bool×Int×LV×LV×LV×LV×LV×LV×LV×LV×LV×LV) ⊕ (Int×Bool×Int×Bool×Int×LV×LV×LV×LV×LV×LV×LV×LV×LV×LV×LV)
theorem auP (h:kP L n g S P K R W B s) (hs:s.length=L) (hR:R.length=D) (hn:1≤n) (oT:n≤32) (hg: ∀x,x<L→Tr n (g x)) (hL:L≤6) {f:List Nat} (hD:S[D]? =some f) (hU:U.length≤6+D*6):
  ∃r,CC HR (yS n D (gV L g) S P K R U W B s)=some r∧((∃l,r= .int .i64 3::l∧A8 n)∨
   ∃P' K' U' W' B',r= .int .i64 0::[.int .i64 (n:Int),.bool true,.int .i64 ((D+1:Nat):Int),.list cJ (mT (cd (br g) S f L)),.list ag (gV L g),.list ag (sV (cd (br g) S f L)),.list ab (iL P'),.list ab (iL K'),
    .list ag (sV (R++[eZ L g (cd (br g) S f L) f])),.list eB U',.list cv (wL W'),.list ab (iL B'),.list ab (nS s)]∧
    kP L n g (cd (br g) S f L) P' K' R W' B' s∧U'.length≤6+(D+1)*6):=by
 have Ep:=(cz.1 hD).1;have hlen:=h.len;have key: ∃r,Loop (Eo CC (D:Int) (L:Int)) (xf n D L g (cd (br g) S f L) f 0 S P K R U W B s)=some r∧((∃t,r= .inl (3,t)∧A8 n)∨
   ∃P' K' U' W' B',r= .inr ((L:Int),false,(xf n D L g (cd (br g) S f L) f L (cd (br g) S f L) P' K' R U' W' B' s).2)∧kP L n g (cd (br g) S f L) P' K' R W' B' s∧U'.length≤6+(D+1)*6):=by
  refine xY (fun x y=> ∃P' K' U' W' B',y=xf n D L g (cd (br g) S f L) f x (cd (br g) S f x) P' K' R U' W' B' s∧kP L n g (cd (br g) S f x) P' K' R W' B' s∧U'.length≤6+D*6+x)
   (fun r:PrR=>(∃t,r= .inl (3,t)∧A8 n)∨∃P' K' U' W' B',r= .inr ((L:Int),false,(xf n D L g (cd (br g) S f L) f L (cd (br g) S f L) P' K' R U' W' B' s).2)∧kP L n g (cd (br g) S f L) P' K' R W' B' s∧U'.length≤6+(D+1)*6)
   L (fun x hx y hy=> ?_) (fun y hy=> ?_) L 0 _ (dB _) ⟨P,K,U,W,B,rfl,h,hU⟩
  ·obtain ⟨P1,K1,U1,W1,B1,rfl,hI,WN⟩:=hy;have sn:=ON (next:=br g) S f x;have qA:(cd (br g) S f x)[D]? =some f:=by
    obtain ⟨Z,e⟩:=sn;rw[←e,nz Ep,hD]
   rcases auv (U2:=cd (br g) S f L) hI hs hR hn oT hg hL qA hx (zM (next:=br g) S f (show x+1≤L by omega)) (by omega) (U:=U1) with ⟨P2,K2,U2,W2,B2,e,h2,h3⟩|⟨t,e,hm⟩
   ·exact .inl ⟨_,e,P2,K2,U2,W2,B2,rfl,h2,by omega⟩
   ·exact .inr ⟨_,e,.inl ⟨t,rfl,hm⟩⟩
  ·obtain ⟨P1,K1,U1,W1,B1,rfl,hI,WN⟩:=hy;refine ⟨_,?_,.inr ⟨P1,K1,U1,W1,B1,rfl,hI,by omega⟩⟩;unfold xf;simp only[Eo,IX,un];refine bF (aX (aw _)) ?_;rw[aX (aw _)]
 obtain ⟨r,e1,e2⟩:=key;have e0:List.replicate (((L:Nat):Int).toNat) (V.int .i64 0)=tab L fun j=>if j<0 then nV (iz (cd (br g) S f L) (br g f j)) else V.int .i64 0:=by
  rw[Int.toNat_natCast,o6];exact c8 fun j _=>by rw[dq]
 have fin: ∀z,OX CC (n:Int) true (D:Int) (gV L g) (sV S) (iL P) (iL K) (sV R) U (mT S) (wL W) (iL B) (nS s)=z→CC HR (yS n D (gV L g) S P K R U W B s)=z:=fun z h=>aus h;rcases e2 with ⟨t,rfl,hm⟩|⟨P1,K1,U1,W1,B1,rfl,hI,WN⟩
 ·refine ⟨_,fin _ ?_,.inl ⟨[.int .i64 t.1,.bool t.2.1,.int .i64 t.2.2.1,.list cJ t.2.2.2.1,.list ag t.2.2.2.2.1,.list ag t.2.2.2.2.2.1,.list ab t.2.2.2.2.2.2.1,.list ab t.2.2.2.2.2.2.2.1,.list ag t.2.2.2.2.2.2.2.2.1,.list eB t.2.2.2.2.2.2.2.2.2.1,.list cv t.2.2.2.2.2.2.2.2.2.2.1,.list ab t.2.2.2.2.2.2.2.2.2.2.2.1,.list ab t.2.2.2.2.2.2.2.2.2.2.2.2],rfl,hm⟩⟩;unfold OX;rw[show (gV L g).length=L from eG,e0];exact bT (gG (by omega) (by omega)) (bs e1 rfl)
 ·refine ⟨_,fin _ ?_,.inr ⟨P1,K1,U1,W1,B1,rfl,hI,WN⟩⟩;unfold OX;rw[show (gV L g).length=L from eG,e0];refine bT (gG (by omega) (by omega)) (bs e1 (bT (show Nat.ble (((sV R).length+1)*24) aY=true from cap (by simp;omega) (by omega)) ?_));have hw:((D+1:Nat):Int)=wrap .i64 ((D:Int)+1):=(bq (by omega)).symm;have:sV (R++[eZ L g (cd (br g) S f L) f])=sV R++[tV (eZ L g (cd (br g) S f L) f)]:=by simp[sV]
  rw[hw,this,auO];rfl
end
section
variable {L n:Nat} {g:Nat→List Nat} (hn:1≤n) (oT:n≤32) (hg: ∀x,x<L→Tr n (g x)) (h1:1≤L) (hL:L≤6)
include hg in
theorem agh {x:Nat} (hx:x<L):br g (List.range n) x=g x:=by
 have h:=hg x hx;refine sK (by simp[br,comp,h.1]) fun i h1 h2=> ?_;simp[br,comp,h2]
include hn oT hg h1 hL
theorem auQ: ∃P K,∃U:LV,∃W B s,CC NQ [.list ag (gV L g),.bool true]=some (.bool false::yS n 0 (gV L g) (cd (br g) [List.range n] (List.range n) L) P K [] U W B s)∧kP L n g (cd (br g) [List.range n] (List.range n) L) P K [] W B s∧s.length=L∧U.length≤6:=by
 have hG:(gV L g).length=L:=eG;have l1: ∀{a b c d:LV} {e f g1 h1 i1:LV},Loop (OY CC true (gV L g) (L:Int) (n:Int) true 0 a b c d e f g1 h1 i1) (0,([]:LV))=some (.inr ((L:Int),false,gV L g)):=by
  intro a b c d e f g1 h1 i1;refine fI L (fun i=>((i:Int),tab i fun x=>tV (g x))) _ (fun i hi=> ?_) ?_
  ·simp only[OY,I9,un];have ht:=hg i hi;refine bT (bn hi) (bs (qV hi) ?_);rw[rG];have e1:(nS (g i)).length=n:=by rw[dC,ht.1]
   refine bF (by rw[e1];simp) (bs (Wi hn oT ht) (bF rfl (bT (cap (a:=(nS (g i)).length) (b:=0) (by omega) (by omega)) (bT (cap (by simp;omega) (by omega)) ?_))));rw[bq (by omega),CX];rfl
  ·simp only[OY,I9,un];refine bF (aX (aw _)) ?_;rw[aX (aw _)];rfl
 have hI0:kP L n g [List.range n] [-1] [-1] [] [[]] [-1] []:=by
  refine ⟨fun f hf=> ?_,by simp,by simp,rfl,rfl,rfl,rfl,fun r hr=>(by cases hr),⟨by simp,fun y hy=>(by cases hy)⟩,fun i hi=> ?_,fun i hi=> ?_,fun i h0 hi=>(by simp at hi;omega),rfl⟩
  ·rw[fS.1 hf];exact IU
  ·obtain rfl:i=0:=by simpa using hi
   exact .inl rfl
  ·obtain rfl:i=0:=by simpa using hi
   exact aw _
 have key: ∃r,Loop (Jc CC 0 (L:Int)) (0,(n:Int),true,0,gV L g,sV [List.range n],iL [-1],iL [-1],sV [],[],mT [List.range n],wL [[]],iL [-1],nS [])=some r∧
   ∃P K,∃U:LV,∃W B s,r=((L:Int),false,(n:Int),true,0,gV L g,sV (cd (br g) [List.range n] (List.range n) L),iL P,iL K,sV [],U,mT (cd (br g) [List.range n] (List.range n) L),wL W,iL B,nS s)∧kP L n g (cd (br g) [List.range n] (List.range n) L) P K [] W B s∧s.length=L∧U.length≤6:=by
  refine xY (fun x y=> ∃P K,∃U:LV,∃W B s,y=((x:Int),(n:Int),true,0,gV L g,sV (cd (br g) [List.range n] (List.range n) x),iL P,iL K,sV [],U,mT (cd (br g) [List.range n] (List.range n) x),wL W,iL B,nS s)∧kP L n g (cd (br g) [List.range n] (List.range n) x) P K [] W B s∧s.length=x∧U.length≤x)
   (fun r=> ∃P K,∃U:LV,∃W B s,r=((L:Int),false,(n:Int),true,0,gV L g,sV (cd (br g) [List.range n] (List.range n) L),iL P,iL K,sV [],U,mT (cd (br g) [List.range n] (List.range n) L),wL W,iL B,nS s)∧kP L n g (cd (br g) [List.range n] (List.range n) L) P K [] W B s∧s.length=L∧U.length≤6)
   L (fun x hx y hy=> ?_) (fun y hy=> ?_) L 0 _ (dB _) ⟨_,_,_,_,_,_,rfl,hI0,rfl,aw _⟩
  ·obtain ⟨P,K,U,W,B,s,rfl,hI,hs,hU⟩:=hy;have qB:=hg x hx;have hf0:br g (List.range n) x=g x:=agh hg hx;have auR:cd (br g) [List.range n] (List.range n) (x+1)=cO (cd (br g) [List.range n] (List.range n) x) (g x):=by rw[←hf0];rfl
   rw[auR];generalize hTx:cd (br g) [List.range n] (List.range n) x=T at*
   have hlen:=hI.len;have gM:=hI.pos;have yr:=Wn oT hI.tr qB;have hX:CC yF [.list ab (tV (g x)).toList]=some [kT (g x)]:=by
    rw[rG];exact Wj oT qB
   have u5:(Nat.ble (((V.nth [kT (g x)] 0).toStr).length) maxLen&&true)=true:=by
    refine kh.2 ⟨yZ ?_,rfl⟩;rw[show (V.nth [kT (g x)] 0).toStr=od (g x) from rfl,show (od (g x)).length=n by simp[od,qB.1]];unfold maxLen;omega
   have hsn: ∀y,nS s++[nV y]=nS (s++[y]):=fun y=>by simp[nS]
   simp only[Jc,Jb,un,aM];by_cases hk:g x∈T
   ·have A9:cO T (g x)=T:=by rw[cO,aB hk]
    have hm:gg (kT (g x)) (mT T)=true:=af5 yr hk;rw[A9];have wz:=tW hk;refine .inl ⟨_,bT (bn hx) ((b7 (mz hx)).trans (bT (I8 (by omega)) (bs hX (bT u5 ?_)))),P,K,U++[.agg [.str [UInt8.ofNat ((wrap .i32 (wrap .i64 (97+(x:Int))):Int).toNat)],.str (W.getD (iz T (g x)) [])]],W,B,s++[iz T (g x)],rfl,⟨hI.tr,hI.nd,hI.len,hI.lP,hI.lK,hI.lW,hI.lB,hI.row,⟨by simp;omega,fun y hy=> ?_⟩,hI.b,hI.w,hI.p,hI.id⟩,by simp[hs],by simp;omega⟩
    ·refine (cg2 (f:=fun i b=>Ba CC 0 (x:Int) _ _ i (L:Int) (x:Int) b (n:Int) true 0 (gV L g) (sV T) (iL P) (iL K) (sV []) U (mT T) (wL W) (iL B) (nS s) _) (af7 yr hk) hm).trans ?_;unfold Ba;refine bT rfl ((b7 (yQ (by rw[hI.lW];exact wz))).trans (bT (cap (by simp;omega) (by omega)) (bT (show Nat.ble (((nS s).length+1)*8) aY=true from cap (by rw[dC];omega) (by omega)) ?_)));rw[bq (by omega),←hsn];rfl
    ·rcases fj.1 hy with hy|hy
     ·exact hI.s.2 y hy
     ·rw[fS.1 hy];exact wz
   ·have A9:cO T (g x)=T++[g x]:=by rw[cO,ax hk]
    have hm:gg (kT (g x)) (mT T)=false:=af6 yr hk;rw[A9];have hT:T.length<2000:=by
     have:=Rr (next:=br g) [List.range n] (List.range n) x;rw[hTx] at this;simp at this;omega
    have ae:T.getD 0 []=List.range n:=by
     have:=hI.id;cases T with
     | nil=>cases this
     | cons a T=>exact dN this
    refine .inl ⟨_,bT (bn hx) ((b7 (mz hx)).trans (bT (I8 (by omega)) (bs hX (bT u5 ?_)))),P++[((0:Nat):Int)],K++[(x:Int)],U,W++[[UInt8.ofNat ((wrap .i32 (wrap .i64 (97+(x:Int))):Int).toNat)]],B++[0],s++[T.length],rfl,?_,by simp[hs],by omega⟩
    ·refine (congrArg (fun b=>Ba CC 0 (x:Int) _ _ _ (L:Int) (x:Int) b (n:Int) true 0 (gV L g) (sV T) (iL P) (iL K) (sV []) U (mT T) (wL W) (iL B) (nS s) _) hm).trans ?_;unfold Ba;rw[rG];refine bF rfl (bT (cap (a:=(nS (g x)).length) (b:=0) (by rw[dC,qB.1];omega) (by omega)) (bs (Wo (p:=0) (b:=0) (k:=(x:Int)) oT hI.tr qB hk hlen (by rw[hI.lP];exact hlen) (by rw[hI.lK];exact hlen) (by rw[hI.lW];exact hlen) (by rw[hI.lB];exact hlen)) (bT (show Nat.ble (((nS s).length+1)*8) aY=true from cap (by rw[dC];omega) (by omega)) ?_)));rw[bq (by omega),←hsn];rfl
    ·have h2:=hI.grow qB hk hT (p:=0) (x:=x) (w:=[UInt8.ofNat ((wrap .i32 (wrap .i64 (97+(x:Int))):Int).toNat)]) (b:=0) gM hx (show 1≤_ from gM) (.inr ⟨Int.le_refl _,by exact_mod_cast gM⟩) (by rw[ae];exact hf0.symm);refine ⟨h2.tr,h2.nd,h2.len,h2.lP,h2.lK,h2.lW,h2.lB,h2.row,⟨by simp;omega,fun y hy=> ?_⟩,h2.b,h2.w,h2.p,h2.id⟩;rcases fj.1 hy with hy|hy
     ·exact h2.s.2 y hy
     ·rw[fS.1 hy];simp
  ·obtain ⟨P,K,U,W,B,s,rfl,hI,hs,hU⟩:=hy;refine ⟨_,?_,P,K,U,W,B,s,rfl,hI,hs,by omega⟩;simp only[Jc,Jb,un];refine bF (aX (aw _)) ?_;rw[aX (aw _)]
 obtain ⟨r,e1,P,K,U,W,B,s,rfl,hI,hs,hU⟩:=key;refine ⟨P,K,U,W,B,s,auI ?_,hI,hs,hU⟩;unfold agd;rw[hG];refine bF (by simp;omega) (bF (cZ (by omega)) (bs (mz (by omega)) ?_));rw[rG,dC,(hg 0 (by omega)).1];refine bs l1 ?_;show Ja CC (-1) true (n:Int) true 0 (gV L g) [] [] [] [] [] [] [] [] [] _=_;unfold Ja;refine bT rfl (bs (atV hn oT) (bs (Wo (S:=[]) (P:=[]) (K:=[]) (R:=[]) (U:=[]) (W:=[]) (B:=[]) (s:=[]) (D:=0) (G:=gV L g) oT (fun f hf=>by cases hf) IU (by simp) (by simp) (by simp) (by simp) (by simp) (by simp)) ?_));show (Loop (Jc CC 0 ((gV L g).length:Int)) _).bind _=_;rw[hG];exact bs e1 rfl
structure mL (L n D:Nat) (g:Nat→List Nat) (S:List (List Nat)) (P K:List Int) (R:List (List Nat)) (W:List (List UInt8)) (B:List Int) (s:List Nat):Prop where
 I:kP L n g S P K R W B s
 sl:s.length=L
 dl:D≤S.length
 cl: ∀f∈S.take D,∀x,x<L→br g f x∈S
 rr:R=(S.take D).map (eZ L g S)
abbrev BdX:=Int×Bool×Int×LV×LV×LV×LV×LV×LV×LV×LV×LV×LV
abbrev BdR:=(Int×Int×Bool×Int×LV×LV×LV×LV×LV×LV) ⊕ (Bool×Int×Bool×Int×LV×LV×LV×LV×LV×LV×LV×LV×LV×LV)
def O3 (n D L:Nat) (g:Nat→List Nat) (S:List (List Nat)) (P K:List Int) (R:List (List Nat)) (U:LV) (W:List (List UInt8)) (B:List Int) (s:List Nat):BdX:=
 ((n:Int),true,(D:Int),gV L g,sV S,iL P,iL K,sV R,U,mT S,wL W,iL B,nS s)
theorem auS: ∃r,CC NM [.list ag (gV L g),.bool true]=some r∧((r=[.int .i64 0,.bool false,.int .i64 0,.int .i64 3,.list ag [],.list ag [],.list ab [],.list ab [],.list ag [],.list eB []]∧A8 n)∨
  ∃S P K R W B s,∃U:LV,r=[.int .i64 (n:Int),.bool true,.int .i64 (S.length:Int),.int .i64 0,.list ag (gV L g),.list ag (sV S),.list ab (iL P),.list ab (iL K),.list ag (sV R),.list eB U]∧mL L n S.length g S P K R W B s):=by
 obtain ⟨P,K,U,W,B,s,e1,hI,hs,hU⟩:=auQ hn oT hg h1 hL;have key: ∃r,Loop (WK CC 0 false 0 [] [] [] [] [] []) (O3 n 0 L g (cd (br g) [List.range n] (List.range n) L) P K [] U W B s)=some r∧((r= .inl (3,0,false,0,[],[],[],[],[],[])∧A8 n)∨
   ∃S P K R W B s,∃U:LV,r= .inr (false,(n:Int),true,(S.length:Int),gV L g,sV S,iL P,iL K,sV R,U,mT S,wL W,iL B,nS s)∧mL L n S.length g S P K R W B s):=by
  refine Lt (fun x:BdX=> ∃D S P K R W B s,∃U:LV,x=O3 n D L g S P K R U W B s∧mL L n D g S P K R W B s∧U.length≤6+D*6) (fun x=>3000-x.2.2.1.toNat)
   (fun r:BdR=>(r= .inl (3,0,false,0,[],[],[],[],[],[])∧A8 n)∨∃S P K R W B s,∃U:LV,r= .inr (false,(n:Int),true,(S.length:Int),gV L g,sV S,iL P,iL K,sV R,U,mT S,wL W,iL B,nS s)∧mL L n S.length g S P K R W B s)
   (fun x hx=> ?_) _ ⟨0,_,P,K,[],W,B,s,U,rfl,⟨hI,hs,mi _,fun f hf=>(by cases hf),rfl⟩,hU⟩
  obtain ⟨D,S,P,K,R,W,B,s,U,rfl,hE,hU⟩:=hx;have hlen:=hE.I.len;have hD:=hE.dl;have hR:R.length=D:=by rw[hE.rr];simp[hD]
  unfold O3;simp only[WK,O2,un];by_cases hf:D=S.length
  ·subst hf;refine .inr ⟨_,bs Wq (bF (by simp) rfl),.inr ⟨S,P,K,R,W,B,s,U,?_,hE⟩⟩;simp
  ·have Ep:D<S.length:=by omega
   obtain ⟨r,e2,h2⟩:=auP hE.I hE.sl hR hn oT hg hL (bY Ep) hU;rcases h2 with ⟨l,rfl,hm⟩|⟨P',K',U',W',B',rfl,gN,hU'⟩
   ·exact .inr ⟨_,bs Wq (bT (by simp[hf];omega) (bs e2 (bT rfl rfl))),.inl ⟨rfl,hm⟩⟩
   ·have sn:=ON (next:=br g) S S[D] L;have CF:(cd (br g) S S[D] L).take (D+1)=S.take D++[S[D]]:=by
     obtain ⟨Z,e⟩:=sn;rw[←e,List.take_append_of_le_length Ep,Kb Ep]
    have z7: ∀x,x<L→br g S[D] x∈cd (br g) S S[D] L:=fun x hx=>afA hx;refine .inl ⟨O3 n (D+1) L g (cd (br g) S S[D] L) P' K' (R++[eZ L g (cd (br g) S S[D] L) S[D]]) U' W' B' s,bs Wq (bT (by simp;omega) (bs e2 (bF rfl rfl))),⟨D+1,_,P',K',_,W',B',s,U',rfl,⟨⟨gN.tr,gN.nd,gN.len,gN.lP,gN.lK,gN.lW,gN.lB,fun r hr=> ?_,gN.s,gN.b,gN.w,gN.p,gN.id⟩,hE.sl,mM Ep sn.length_le,fun f hf x hx=> ?_,?_⟩,hU'⟩,?_⟩
    ·rcases fj.1 hr with hr|hr
     ·exact gN.row r hr
     ·rw[fS.1 hr];refine ⟨by simp[eZ],fun y hy=> ?_⟩;obtain ⟨x,hx,rfl⟩:=ia.1 hy;exact tW (z7 x (fK.1 hx))
    ·rw[CF] at hf;rcases fj.1 hf with hf|hf
     ·exact sn.subset (hE.cl f hf x hx)
     ·rw[fS.1 hf];exact z7 x hx
    ·rw[CF,vy,hE.rr];refine congrArg (· ++[_]) (pH fun f hf=>pH fun x hx=> ?_);exact (af4 sn (hE.cl f hf x (fK.1 hx))).symm
    ·show 3000-(((D+1:Nat):Int)).toNat<3000-((D:Int)).toNat
     omega
 obtain ⟨r,e2,h2⟩:=key;rcases h2 with ⟨rfl,hm⟩|⟨S,P,K,R,W,B,s,U,rfl,hE⟩
 ·refine ⟨_,agf ?_,.inl ⟨rfl,hm⟩⟩;unfold WM;exact bs e1 (bF rfl (bs e2 rfl))
 ·refine ⟨_,agf ?_,.inr ⟨S,P,K,R,W,B,s,U,rfl,hE⟩⟩;unfold WM;exact bs e1 (bF rfl (bs e2 rfl))
end
end Go.AM
set_option maxRecDepth 100000
namespace Go.AM
open Go.IntKind (wrap)
section
variable {β:Type} [DecidableEq β]
def b9 (g:Nat→β):Nat→List β
 | 0=>[]
 | n+1=>cO (b9 g n) (g n)
theorem WO (g:Nat→β): ∀n,(b9 g n).Nodup
 | 0=>List.nodup_nil
 | n+1=>V6 (WO g n)
theorem py {g:Nat→β} {v:β}: ∀{n},v∈b9 g n↔∃q,q<n∧g q=v
 | 0=>⟨fun h=>(by cases h),fun ⟨q,h,_⟩=>(by omega)⟩
 | n+1=>by
  have ih:=py (g:=g) (v:=v) (n:=n);rw[b9];unfold cO;constructor
  ·intro h;split at h
   ·obtain ⟨q,h1,h2⟩:=ih.1 h;exact ⟨q,by omega,h2⟩
   ·rcases fj.1 h with h|h
    ·obtain ⟨q,h1,h2⟩:=ih.1 h;exact ⟨q,by omega,h2⟩
    ·exact ⟨n,by omega,(fS.1 h).symm⟩
  ·rintro ⟨q,h1,h2⟩;rcases jD q n with c|c
   ·exact (AZ (b9 g n) (g n)).subset (ih.2 ⟨q,c,h2⟩)
   ·obtain rfl:q=n:=by omega
    rw[←h2];exact zN
theorem auT {g:Nat→β} {m n:Nat} (h:m≤n):b9 g m <+: b9 g n:=by
 induction n with
 | zero=>rw[xr.1 h];exact sM _
 | succ n ih=>
  rcases jD m (n+1) with c|c
  ·exact (ih (by omega)).trans (AZ _ _)
  ·rw[show m=n+1 by omega];exact sM _
theorem Je (g:Nat→β): ∀n,(b9 g n).length≤n
 | 0=>aw _
 | n+1=>by
  have:=Je g n;rw[b9,Ei];split<;>omega
def gv (g:Nat→β) (n q:Nat):Nat:=(b9 g n).idxOf (g q)
theorem WQ {g:Nat→β} {n q:Nat} (h:q<n):gv g n q<(b9 g n).length:=xw (py.2 ⟨q,h,rfl⟩)
theorem agi {g:Nat→β} {n p q:Nat} (hp:p<n) (hq:q<n):gv g n p=gv g n q↔g p=g q:=by
 constructor
 ·intro h;have h1:=Kl (WQ (g:=g) hp);have h2:=Kl (WQ (g:=g) hq);rw[←h1,←h2];exact getElem_congr_idx h
 ·intro h;unfold gv;rw[h]
theorem WR {g:Nat→β} {m n q:Nat} (h:q<m) (hm:m≤n):gv g n q=gv g m q:=zL (auT hm) (py.2 ⟨q,h,rfl⟩)
theorem agj {g:Nat→β} {q:Nat} (h:g q∈b9 g q):b9 g (q+1)=b9 g q:=by rw[b9];unfold cO;rw[aB h]
theorem agk {g:Nat→β} {q:Nat} (h:g q∉b9 g q):b9 g (q+1)=b9 g q++[g q]:=by rw[b9];unfold cO;rw[ax h]
theorem auU {g:Nat→β} {n q:Nat} (hq:q<n) (h:g q∈b9 g q):gv g n q=(b9 g q).idxOf (g q):=by
 rw[WR (show q<q+1 by omega) (by omega)];unfold gv;rw[agj h]
theorem auV {g:Nat→β} {n q:Nat} (hq:q<n) (h:g q∉b9 g q):gv g n q=(b9 g q).length:=by
 rw[WR (show q<q+1 by omega) (by omega)];unfold gv;rw[agk h,BP,ax h];simp
def Bb (p:Nat→Nat) (n:Nat):Prop:= ∀m,m≤n→b9 p m=List.range (b9 p m).length
theorem agl (g:Nat→β) (n:Nat): ∀m,m≤n→b9 (gv g n) m=List.range (b9 g m).length:=by
 intro m
 induction m with
 | zero=>intro _;rfl
 | succ m ih=>
  intro hm;have ih:=ih (by omega);have e1:gv g n m=gv g (m+1) m:=WR (by omega) hm;have e2:gv g (m+1) m=if g m∈b9 g m then (b9 g m).idxOf (g m) else (b9 g m).length:=by
   unfold gv;rw[b9];unfold cO;split
   ·rfl
   ·rename_i h;rw[BP,ax h];simp
  rw[b9,ih,b9,Ei];unfold cO;by_cases h:g m∈b9 g m
  ·have:=xw h;rw[aB h] at e2;rw[aB h,aB (by rw[e1,e2];exact fK.2 this)]
  ·rw[ax h] at e2;rw[ax h,ax (by rw[e1,e2];simp),e1,e2,BK]
theorem auW (g:Nat→β) (n:Nat):Bb (gv g n) n:=fun m hm=>by
 rw[agl g n m hm,jC]
theorem agm {γ:Type} [DecidableEq γ] {f:Nat→β} {c:Nat→γ} {n:Nat} (hr: ∀q q',q<n→q'<n→f q=f q'→c q=c q') (hl:(b9 f n).length≤(b9 c n).length):
  ∀q q',q<n→q'<n→c q=c q'→f q=f q':=by
 intro q q' hq dz hc;refine Decidable.byContradiction fun hf=> ?_;have rep: ∀v∈b9 f n,∃q,q<n∧f q=v:=fun v hv=>py.1 hv;have: ∃R:β→Nat,∀v∈b9 f n,R v<n∧f (R v)=v:=by
  classical
  refine ⟨fun v=>if h:v∈b9 f n then Classical.choose (rep v h) else 0,fun v hv=> ?_⟩;simp only[hv,xl];exact EJ (rep v hv)
 obtain ⟨R,hR⟩:=this;have lV:b9 c n ⊆ ((b9 f n).filter fun v=>decide (v≠f q')).map fun v=>c (R v):=by
  intro u hu;obtain ⟨s,hs,rfl⟩:=py.1 hu;by_cases h:f s=f q'
  ·refine ia.2 ⟨f q,vw.2 ⟨py.2 ⟨q,hq,rfl⟩,ca hf⟩,?_⟩;have h1:=hR (f q) (py.2 ⟨q,hq,rfl⟩);rw[hr _ _ h1.1 hq h1.2,hc,hr _ _ hs dz h]
  ·refine ia.2 ⟨f s,vw.2 ⟨py.2 ⟨s,hs,rfl⟩,ca h⟩,?_⟩;have h1:=hR (f s) (py.2 ⟨s,hs,rfl⟩);exact hr _ _ h1.1 hs h1.2
 have h1:=yV (WO c n) lV;rw[dE] at h1;have h2:((b9 f n).filter fun v=>decide (v≠f q')).length<(b9 f n).length:=by
  have hm:f q'∈b9 f n:=py.2 ⟨q',dz,rfl⟩;have aP:=List.length_filter_lt_length_iff_exists (p:=fun v=>decide (v≠f q')) (l:=b9 f n);exact aP.2 ⟨f q',hm,by simp⟩
 omega
theorem auX {γ:Type} [DecidableEq γ] {f:Nat→β} {c:Nat→γ} {n:Nat} (hr: ∀q q',q<n→q'<n→f q=f q'→c q=c q'):(b9 c n).length≤(b9 f n).length:=by
 rcases jD (b9 f n).length (b9 c n).length with h|h
 ·have:=agm hr (by omega);have rep: ∀v∈b9 f n,∃q,q<n∧f q=v:=fun v hv=>py.1 hv;have: ∃R:β→Nat,∀v∈b9 f n,R v<n∧f (R v)=v:=by
   classical
   refine ⟨fun v=>if h:v∈b9 f n then Classical.choose (rep v h) else 0,fun v hv=> ?_⟩;simp only[hv,xl];exact EJ (rep v hv)
  obtain ⟨R,hR⟩:=this;have lV:b9 c n ⊆ (b9 f n).map fun v=>c (R v):=by
   intro u hu;obtain ⟨s,hs,rfl⟩:=py.1 hu;have h1:=hR (f s) (py.2 ⟨s,hs,rfl⟩);exact ia.2 ⟨f s,py.2 ⟨s,hs,rfl⟩,hr _ _ h1.1 hs h1.2⟩
  have h1:=yV (WO c n) lV;rw[dE] at h1;omega
 ·exact h
end
namespace Da
structure Part (a:Da) (c:Nat→Nat):Prop where
 coarse: ∀q q',q<a.n→q'<a.n→a.sD q a q'→c q=c q'
 fin: ∀q q',q<a.n→q'<a.n→c q=c q'→a.fin q=a.fin q'
def sig (a:Da) (c:Nat→Nat) (q:Nat):List Nat:=c q::(List.range a.L).map fun x=>c (a.nx q x)
theorem Jf {a:Da} {c:Nat→Nat} {q q':Nat}:a.sig c q=a.sig c q'↔c q=c q'∧∀x,x<a.L→c (a.nx q x)=c (a.nx q' x):=by
 unfold sig;rw[y6];refine and_congr Iff.rfl ⟨fun h x hx=> ?_,fun h=>pH fun x hx=>h x (fK.1 hx)⟩;have:=congrArg (fun l=>l.getD x 0) h;simpa[hx] using this
def WS (a:Da) (c f:Nat→Nat):Prop:= ∀q q',q<a.n→q'<a.n→(f q=f q'↔a.sig c q=a.sig c q')
theorem WS.part {a:Da} {c f:Nat→Nat} (h:a.WS c f) (ha:a.Ok) (hc:a.Part c):a.Part f where
 coarse q q' hq dz he:=(h q q' hq dz).2 (Jf.2 ⟨hc.coarse q q' hq dz he,fun x hx=>hc.coarse _ _ (ha.lh hq hx) (ha.lh dz hx) (he.nx hx)⟩)
 fin q q' hq dz he:=hc.fin q q' hq dz (Jf.1 ((h q q' hq dz).1 he)).1
def O4 (a:Da) (p:Nat→Nat):Prop:=(∀q q',q<a.n→q'<a.n→(p q=p q'↔a.sD q a q'))∧Bb p a.n
theorem Part.auY {a:Da} {c:Nat→Nat} (hc:a.Part c) (ha:a.Ok) (hs: ∀q q',q<a.n→q'<a.n→c q=c q'→a.sig c q=a.sig c q'): ∀q q',q<a.n→q'<a.n→(c q=c q'↔a.sD q a q'):=by
 intro q q' hq dz;refine ⟨fun h w=> ?_,hc.coarse q q' hq dz⟩
 induction w generalizing q q' with
 | nil=>intro _;rw[vi,vi];exact hc.fin q q' hq dz h
 | cons x w ih=>
  intro hw;rw[OM,OM];exact ih _ _ (ha.lh hq hw.head) (ha.lh dz hw.head) ((Jf.1 (hs q q' hq dz h)).2 x hw.head) hw.tail
def gX (p:Nat→Nat):Nat→List Nat
 | 0=>[]
 | n+1=>if p n∈b9 p n then gX p n else gX p n++[n]
theorem O5 {p:Nat→Nat}: ∀n,(gX p n).map p=b9 p n
 | 0=>rfl
 | n+1=>by
  rw[gX,b9];unfold cO;split
  ·exact O5 n
  ·rw[vy,O5 n];rfl
theorem Jg {p:Nat→Nat} {n:Nat}:(gX p n).length=(b9 p n).length:=by rw[←O5,dE]
theorem Bc {p:Nat→Nat}: ∀{n q},q∈gX p n→q<n
 | 0,q,h=>by cases h
 | n+1,q,h=>by
  rw[gX] at h;split at h
  ·have:=Bc h;omega
  ·rcases fj.1 h with h|h
   ·have:=Bc h;omega
   ·rw[fS.1 h];omega
theorem Er {p:Nat→Nat} {n:Nat} (ho:Bb p n) {c:Nat} (hc:c<(gX p n).length):p (gX p n)[c]=c:=by
 have h1:=ho n (aw _);have h2:((gX p n).map p)[c]? =some c:=by rw[O5,h1,BH (by rw[Jg] at hc;exact hc)]
 rw[ki,bY hc] at h2;exact dN h2
theorem Jh {p:Nat→Nat} {n q:Nat} (ho:Bb p n) (hq:q<n):p q<(gX p n).length:=by
 have h1:p q∈b9 p n:=py.2 ⟨q,hq,rfl⟩;rw[ho n (aw _),fK] at h1;rw[Jg];exact h1
def quo (a:Da) (p:Nat→Nat):Da where
 L:=a.L
 st:=p a.st
 F:=(gX p a.n).map a.fin
 N:=(gX p a.n).map fun q=>tab a.L fun x=>p (a.nx q x)
theorem yU {a:Da} {p:Nat→Nat}:(a.quo p).n=(gX p a.n).length:=by simp[quo,n]
theorem agn {a:Da} {p:Nat→Nat} {c:Nat} (hc:c<(gX p a.n).length):(a.quo p).fin c=a.fin (gX p a.n)[c]:=by
 show ((gX p a.n).map a.fin).getD c false=_;rw[cE (by simpa using hc),BI]
theorem ago {a:Da} {p:Nat→Nat} {c x:Nat} (hc:c<(gX p a.n).length) (hx:x<a.L):(a.quo p).nx c x=p (a.nx (gX p a.n)[c] x):=by
 show (((gX p a.n).map fun q=>tab a.L fun x=>p (a.nx q x)).getD c []).getD x 0=_;rw[cE (l:=(gX p a.n).map fun q=>tab a.L fun x=>p (a.nx q x)) (by simpa using hc),BI,A3 hx]
section
variable {a:Da} {p:Nat→Nat} (ha:a.Ok) (hp:a.O4 p)
include ha hp
theorem agp:(a.quo p).Ok where
 l1:=ha.l1
 l6:=ha.l6
 nN:=by rw[yU];simp[quo]
 row r hr:=by
  rw[yU];obtain ⟨q,hq,rfl⟩:=ia.1 (show r∈(gX p a.n).map _ from hr);refine ⟨by simp[quo],fun s hs=> ?_⟩;obtain ⟨x,hx,rfl⟩:=LO.1 hs;exact Jh hp.2 (ha.lh (Bc hq) hx)
 s:=by rw[yU];exact Jh hp.2 ha.s
 eb:=by
  rw[yU,Jg];have:=Je p a.n;have:=ha.eb;omega
theorem O6: ∀(w:List Nat) {q:Nat},q<a.n→WL a.L w→(a.quo p).acc (p q) w=a.acc q w
 | [],q,hq,_=>by
  have hc:=Jh hp.2 hq;rw[vi,vi,agn hc];have h1:=(hp.1 _ _ (Bc (dc hc)) hq).1 (Er hp.2 hc);have:=h1 [] WL.nil;rwa [vi,vi] at this
 | x::w,q,hq,hw=>by
  have hc:=Jh hp.2 hq;have hr:=Bc (dc hc);have h1:=(hp.1 _ _ hr hq).1 (Er hp.2 hc);have h2:=(hp.1 _ _ (ha.lh hr hw.head) (ha.lh hq hw.head)).2 (h1.nx hw.head);rw[OM,OM,ago hc hw.head,h2];exact O6 w (ha.lh hq hw.head) hw.tail
theorem auZ: ∀c d,c<(a.quo p).n→d<(a.quo p).n→(a.quo p).sD c (a.quo p) d→c=d:=by
 intro c d hc hd he;rw[yU] at hc hd;have r1:=Bc (dc hc);have r2:=Bc (dc hd);rw[←Er hp.2 hc,←Er hp.2 hd];refine (hp.1 _ _ r1 r2).2 fun w hw=> ?_;rw[←O6 ha hp w r1 hw,←O6 ha hp w r2 hw,Er hp.2 hc,Er hp.2 hd];exact he w hw
theorem au0:(a.quo p).trim.Canon a.L (a.acc a.st):=by
 have h:=(agp ha hp).asZ (auZ ha hp);exact ⟨h.ok,h.hL,h.st,h.num,h.red,fun w hw=>(h.Eh w hw).trans (O6 ha hp w ha.s hw)⟩
end
end Da
end Go.AM
set_option maxRecDepth 100000
namespace Go.AM
open Go.IntKind (wrap)
open Go.Proofs
noncomputable def Ji (C:af) (t24:LV) (t25 bw bE:Int) (iH iy:LV) (count t26:Int) (dS:LV) {β:Type} (kn:(Int×Int×LV)→Option β) (kr:(Int×Int×Bool×LV)→Option β):Option β:=
 bif decide (t26<t25) then
  (idx t24 t26).bind fun x2=>
  (iH[0]?).bind fun x3=>
  bif !(x2.toBool==x3.toBool) then
  aM dS t26 fun x4=>
  kn (2,wrap .i64 (t26+1),bm dS t26 (V.int .i64 1))
  else
  kn (count,wrap .i64 (t26+1),dS)
 else
  kr (count,t26,decide (t26<t25),dS)
noncomputable def O7 (C:af) (t24:LV) (t25 bw bE:Int) (iH iy:LV):=un fun count=>un fun t26 dS=>Ji C t24 t25 bw bE iH iy count t26 dS (fun y=>some (Sum.inl y)) (fun r=>some (Sum.inr r))
noncomputable def Jj (C:af) (count q:Int) (t46:LV) (t47 t48:Int) (t58:LV) (t59 bw bE:Int) (iH iy dS numbers tY:LV) (t60 O8 O9 Pb Pc Pd Pe Pf:Int) {β:Type} (kn:(Int×Int×Int×Int×Int×Int×Int×Int)→Option β) (kr:(Int×Bool×Int×Int×Int×Int×Int×Int×Int)→Option β):Option β:=
 bif decide (t60<t59) then
  (idx t58 t60).bind fun qD=>
  bif (decide (0≤qD.toInt))&&(decide (qD.toInt<(dS.length:Int))) then
  (dS[(qD.toInt:Int).toNat]?).bind fun lx=>
  bif (decide (0≤(wrap .i64 (1+t60))))&&(decide ((wrap .i64 (1+t60))<7)) then
   bif Nat.blt (0+(((wrap .i64 (1+t60):Int).toNat)*1)) 7 then
   kn (wrap .i64 (t60+1),bif Nat.beq (0+(((wrap .i64 (1+t60):Int).toNat)*1)) 0 then lx.toInt else O8,bif Nat.beq (0+(((wrap .i64 (1+t60):Int).toNat)*1)) 1 then lx.toInt else O9,bif Nat.beq (0+(((wrap .i64 (1+t60):Int).toNat)*1)) 2 then lx.toInt else Pb,bif Nat.beq (0+(((wrap .i64 (1+t60):Int).toNat)*1)) 3 then lx.toInt else Pc,bif Nat.beq (0+(((wrap .i64 (1+t60):Int).toNat)*1)) 4 then lx.toInt else Pd,bif Nat.beq (0+(((wrap .i64 (1+t60):Int).toNat)*1)) 5 then lx.toInt else Pe,bif Nat.beq (0+(((wrap .i64 (1+t60):Int).toNat)*1)) 6 then lx.toInt else Pf)
   else none
  else none
  else none
 else
  kr (t60,decide (t60<t59),O8,O9,Pb,Pc,Pd,Pe,Pf)
noncomputable def Pg (C:af) (count q:Int) (t46:LV) (t47 t48:Int) (t58:LV) (t59 bw bE:Int) (iH iy dS numbers tY:LV):=un fun t60=>un fun O8=>un fun O9=>un fun Pb=>un fun Pc=>un fun Pd=>un fun Pe Pf=>Jj C count q t46 t47 t48 t58 t59 bw bE iH iy dS numbers tY t60 O8 O9 Pb Pc Pd Pe Pf (fun y=>some (Sum.inl y)) (fun r=>some (Sum.inr r))
noncomputable def Jk (C:af) (count:Int) (t46:LV) (t47 bw bE:Int) (iH iy dS:LV) (t48:Int) (numbers tY:LV) {β:Type} (kn:(Int×LV×LV)→Option β) (kr:(Int×Bool×LV×LV)→Option β):Option β:=
 bif decide (t48<t47) then
  (idx t46 t48).bind fun x9=>
  aM dS t48 fun oK=>
  (Loop (Pg C count t48 t46 t47 t48 x9.toList (x9.toList.length:Int) bw bE iH iy dS numbers tY) (0,oK.toInt,0,0,0,0,0,0)).bind (un fun C6=>un fun (wi:Bool)=>un fun Jl=>un fun Jm=>un fun Jn=>un fun Jo=>un fun Jp=>un fun (Jq:Int) (Jr:Int)=>
   bif (eQ .i64 Jl&&(eQ .i64 Jm&&(eQ .i64 Jn&&(eQ .i64 Jo&&(eQ .i64 Jp&&(eQ .i64 Jq&&(eQ .i64 Jr&&true)))))))&&true then
   bif !(gg (.agg [V.int .i64 Jl,V.int .i64 Jm,V.int .i64 Jn,V.int .i64 Jo,V.int .i64 Jp,V.int .i64 Jq,V.int .i64 Jr]) numbers) then
    bif (eQ .i64 Jl&&(eQ .i64 Jm&&(eQ .i64 Jn&&(eQ .i64 Jo&&(eQ .i64 Jp&&(eQ .i64 Jq&&(eQ .i64 Jr&&true)))))))&&true then
    aM tY t48 fun Ph=>
    kn (wrap .i64 (t48+1),iQ (.agg [V.int .i64 Jl,V.int .i64 Jm,V.int .i64 Jn,V.int .i64 Jo,V.int .i64 Jp,V.int .i64 Jq,V.int .i64 Jr]) (V.int .i64 (numbers.length:Int)) numbers,bm tY t48 (V.int .i64 (numbers.length:Int)))
    else none
   else
    aM tY t48 fun x23=>
    kn (wrap .i64 (t48+1),numbers,bm tY t48 (V.int .i64 ((jX (.agg [V.int .i64 Jl,V.int .i64 Jm,V.int .i64 Jn,V.int .i64 Jo,V.int .i64 Jp,V.int .i64 Jq,V.int .i64 Jr]) numbers (V.int .i64 0)).toInt)))
   else none)
 else
  kr (t48,decide (t48<t47),numbers,tY)
noncomputable def Pj (C:af) (count:Int) (t46:LV) (t47 bw bE:Int) (iH iy dS:LV):=un fun t48=>un fun numbers tY=>Jk C count t46 t47 bw bE iH iy dS t48 numbers tY (fun y=>some (Sum.inl y)) (fun r=>some (Sum.inr r))
noncomputable def Js (C:af) (bw bE:Int) (iH iy:LV) (count:Int) (dS:LV) {β:Type} (kn:(Int×LV)→Option β) (kr:LV→Option β):Option β:=
 bif (decide (0≤(dS.length:Int)))&&((decide ((dS.length:Int)≤(dS.length:Int)))&&(Nat.ble (((dS.length:Int).toNat)*8) aY)) then
  (Loop (Pj C count iy (iy.length:Int) bw bE iH iy dS) (0,([]:LV),List.replicate ((dS.length:Int).toNat) (V.int .i64 0))).bind (un fun aAC=>un fun (aAD:Bool)=>un fun (agq:LV) (agr:LV)=>
   bif (agq.length:Int)==count then
   kr agr
   else
   kn ((agq.length:Int),agr))
 else none
noncomputable def Jt (C:af) (bw bE:Int) (iH iy:LV):=un fun count dS=>Js C bw bE iH iy count dS (fun y=>some (Sum.inl y)) (fun r=>some (Sum.inr r))
noncomputable def Pk (C:af):cL:=bR 81 UR [H1,EQ,EQ,H1,EQ,EQ,EQ,EQ,H1] [[0,2,3,0,0,5,6,7,8,0]] (@Ji C) (bR 273 US [EQ,EQ,EQ,EQ,EQ,EQ,EQ,H1,EQ,EQ,EQ,EQ,EQ,EQ,EQ,H1,H1,H1,H1,H1,H1,H1] [[1,2,3,4,5,6,7,0,0,9,10,11,12,13,14,15,0,0,0,0,0,0,0]] (@Jj C) (bR 209 UT [EQ,EQ,EQ,H1,EQ,EQ,EQ,EQ,EQ,H1,H1] [[1,2,3,0,0,5,6,7,8,9,0,0]] (@Jk C) (bR 161 UU [H1,EQ,EQ,EQ,EQ,H1] [[0]] (@Js C) bH)))
theorem au1 (C:af):bA C (Pk C) 48 (Lp [1,1,1,0,1,0,0] 48):=bS UR [H1,EQ,EQ,H1,EQ,EQ,EQ,EQ,H1] [[0,2,3,0,0,5,6,7,8,0]] (@Ji C) (bu av)
theorem au2 (C:af):bA C (Pk C) 48 (Lp [1,1,1,1,0,0,0,1,1,0,1,0,0,1,1,0,0,1,1,0,1,0,0] 48):=bS US [EQ,EQ,EQ,EQ,EQ,EQ,EQ,H1,EQ,EQ,EQ,EQ,EQ,EQ,EQ,H1,H1,H1,H1,H1,H1,H1] [[1,2,3,4,5,6,7,0,0,9,10,11,12,13,14,15,0,0,0,0,0,0,0]] (@Jj C) (bu av)
theorem au3 (C:af):bA C (Pk C) 48 (Lp [1,1,1,1,0,0,0,1,1,0,1,0,0] 48):=bS UT [EQ,EQ,EQ,H1,EQ,EQ,EQ,EQ,EQ,H1,H1] [[1,2,3,0,0,5,6,7,8,9,0,0]] (@Jk C) (bu (bB (au2 C) av))
theorem au4 (C:af):bA C (Pk C) 48 (Lp [1,1,1,1,0,0] 48):=bS UU [H1,EQ,EQ,EQ,EQ,H1] [[0]] (@Js C) (bu (bB (au3 C) av))
noncomputable def ags (C:af) (dy dH:Int) (c6 dI:LV):Option LV:=
 (C qS [V.int .i64 dy,V.int .i64 dH,.list ak c6,.list ag dI]).bind fun r1=>
 bif (((V.nth r1 0).toInt):Int) != 0 then
  some [.list ab ([]:LV)]
 else
  bif (decide (0≤(c6.length:Int)))&&((decide ((c6.length:Int)≤(c6.length:Int)))&&(Nat.ble (((c6.length:Int).toNat)*8) aY)) then
  (Loop (O7 C c6 (c6.length:Int) dy dH c6 dI) (1,0,List.replicate ((c6.length:Int).toNat) (V.int .i64 0))).bind (un fun au5=>un fun j5=>un fun (oD:Bool) (au6:LV)=>
   (Loop (Jt C dy dH c6 dI) (au5,au6)).bind (fun (au7:LV)=>
    some [.list ab au7]))
  else none
theorem au8 {dy dH:Int} {c6 dI:LV} {r:Option LV} (h:ags CC dy dH c6 dI=r):CC NJ [V.int .i64 dy,V.int .i64 dH,.list ak c6,.list ag dI]=r:=bI (bB (au1 CC) (bB (au4 CC) av)) h
def fh (a:Da) (c:Nat→Nat) (q t j:Nat):Nat:=if j=0 then c q else if j≤t then c (a.nx q (j-1)) else 0
def e8 (a:Da) (c:Nat→Nat) (q:Nat):List Nat:=tab 7 (fh a c q a.L)
def Ju (s:List Nat):V:= .agg (s.map nV)
theorem agt: ∀s t:List Nat,pO (s.map nV) (t.map nV)=decide (s=t)
 | [],[]=>rfl
 | [],b::t=>rfl
 | a::s,[]=>rfl
 | a::s,b::t=>by
  simp only[lD,pO];rw[agt s t,xx];simp only[nV,vC];simp only[aJ,beq_iff_eq,jU,y6];exact and_congr (by omega) Iff.rfl
theorem WU (s t:List Nat):iP (Ju s) (Ju t)=decide (s=t):=agt s t
theorem WV {a:Da} (h:a.Ok) {c:Nat→Nat} {q q':Nat}:e8 a c q=e8 a c q'↔a.sig c q=a.sig c q':=by
 rw[Da.Jf];have h6:=h.l6;constructor
 ·intro e;have g:=fun j (hj:j<7)=>congrArg (fun l:List Nat=>l.getD j 0) e;unfold e8 at g;refine ⟨?_,fun x hx=> ?_⟩
  ·have:=g 0 (by omega);rw[A3 (by omega),A3 (by omega)] at this;exact this
  ·have:=g (x+1) (by omega);rw[A3 (by omega),A3 (by omega)] at this;unfold fh at this;rwa [ax (by omega),aB (by omega),ax (by omega),aB (by omega)] at this
 ·rintro ⟨h1,h2⟩;refine c8 fun j _=> ?_;unfold fh;by_cases hj:j=0
  ·rw[aB hj,aB hj,h1]
  ·rw[ax hj,ax hj];by_cases dw:j≤a.L
   ·rw[aB dw,aB dw,h2 (j-1) (by omega)]
   ·rw[ax dw,ax dw]
theorem Bd {a:Da} {c:Nat→Nat} {q t:Nat} (j:Nat):(bif Nat.beq (0+(t+1)*1) j then ((c (a.nx q t):Nat):Int) else ((fh a c q t j:Nat):Int))=((fh a c q (t+1) j:Nat):Int):=by
 by_cases hj:t+1=j
 ·rw[show Nat.beq (0+(t+1)*1) j=true from by rw[aL];omega,cond_true,←hj];unfold fh;rw[dq,dp];rfl
 ·rw[show Nat.beq (0+(t+1)*1) j=false from by rw[←Bool.not_eq_true,aL];omega,cond_false];unfold fh;by_cases h0:j=0
  ·rw[aB h0,aB h0]
  ·rw[ax h0,ax h0];by_cases h1:j≤t
   ·rw[aB h1,dp]
   ·rw[ax h1,dq]
def cV (n:Nat) (c:Nat→Nat):List V:=tab n fun q=>nV (c q)
section
variable {a:Da} (h:a.Ok) {c:Nat→Nat}
include h
theorem au9 {q:Nat} (hq:q<a.n) {k1 k2 k3 k4 k5 k6:Int} {l1 l2 l3 l4 l5:List V}:
  Loop (Pg CC k1 k2 l1 k3 k4 (tab a.L fun x=>iV (a.nx q x)) ((tab a.L fun x=>iV (a.nx q x)).length:Int) k5 k6 l2 l3 (cV a.n c) l4 l5) (0,(c q:Int),0,0,0,0,0,0)=
   some ((a.L:Int),false,(fh a c q a.L 0:Int),(fh a c q a.L 1:Int),(fh a c q a.L 2:Int),(fh a c q a.L 3:Int),(fh a c q a.L 4:Int),(fh a c q a.L 5:Int),(fh a c q a.L 6:Int)):=by
 have h6:=h.l6;rw[eG];refine (fI a.L (fun t=>((t:Int),(fh a c q t 0:Int),(fh a c q t 1:Int),(fh a c q t 2:Int),(fh a c q t 3:Int),(fh a c q t 4:Int),(fh a c q t 5:Int),(fh a c q t 6:Int))) _ (fun t ht=> ?_) ?_)
 ·simp only[Pg,Jj,un];refine bT (bn ht) ?_;refine bs (CV ht) ?_;refine (ni (i:=a.nx q t) (h.lh hq ht)).trans ?_;have w:wrap .i64 (1+(t:Int))=((t+1:Nat):Int):=by rw[sf];omega
  rw[w,bq (by omega),Int.toNat_natCast];refine bT (kh.2 ⟨ca (by omega),ca (by omega)⟩) ?_;refine bT (show Nat.ble (0+(t+1)*1+1) 7=true by rw[gx];omega) ?_;show some (Sum.inl _)=some (Sum.inl _);refine congrArg (fun x=>some (Sum.inl x)) ?_;exact cI rfl (cI (Bd 0) (cI (Bd 1) (cI (Bd 2) (cI (Bd 3) (cI (Bd 4) (cI (Bd 5) (Bd 6)))))))
 ·simp only[Pg,Jj,un];refine bF (aX (aw _)) ?_;rw[aX (aw _)]
theorem ava (hc: ∀q,q<a.n→c q≤1000) {q:Nat} (hq:q<a.n) (j:Nat):fh a c q a.L j≤1000:=by
 unfold fh;split
 ·exact hc q hq
 ·split
  ·exact hc _ (h.lh hq (by omega))
  ·omega
theorem avb (hc: ∀q,q<a.n→c q≤1000) {k1 k2 k3:Int} {l2:List V}:
  Loop (Pj CC k1 a.cN (a.cN.length:Int) k2 k3 l2 a.cN (cV a.n c)) (0,([]:List V),List.replicate ((((cV a.n c).length:Int):Int).toNat) (V.int .i64 0))=
   some ((a.n:Int),false,fP Ju 0 (b9 (e8 a c) a.n),cV a.n (gv (e8 a c) a.n)):=by
 have hm:=h.eb;have hl:(cV a.n c).length=a.n:=by simp[cV]
 rw[hl,Int.toNat_natCast,o6,Da.atc];refine (fI a.n (fun i=>((i:Int),fP Ju 0 (b9 (e8 a c) i),(tab a.n fun q=>if q<i then nV (gv (e8 a c) a.n q) else nV 0))) _ (fun q hq=> ?_) ?_)
 ·have hle:=Je (e8 a c) q;simp only[Pj,Jk,un,aM,bm];refine bT (bn hq) ?_;refine bs (Da.Gy hq) ?_;refine (ni (i:=q) hq).trans ?_;simp only[CU];refine bs (au9 h hq) ?_;have k0:=ava h hc hq;have kk: ∀j,eQ .i64 ((fh a c q a.L j:Nat):Int)=true:=fun j=>zK (by have:=k0 j;omega);have agu:((eQ .i64 ((fh a c q a.L 0:Nat):Int)&&(eQ .i64 ((fh a c q a.L 1:Nat):Int)&&(eQ .i64 ((fh a c q a.L 2:Nat):Int)&&(eQ .i64 ((fh a c q a.L 3:Nat):Int)&&(eQ .i64 ((fh a c q a.L 4:Nat):Int)&&(eQ .i64 ((fh a c q a.L 5:Nat):Int)&&(eQ .i64 ((fh a c q a.L 6:Nat):Int)&&true)))))))&&true)=true:=by
   simp only[kk,Bool.and_self]
  refine bT agu ?_;have ek:V.agg [V.int .i64 (fh a c q a.L 0:Int),V.int .i64 (fh a c q a.L 1:Int),V.int .i64 (fh a c q a.L 2:Int),V.int .i64 (fh a c q a.L 3:Int),V.int .i64 (fh a c q a.L 4:Int),V.int .i64 (fh a c q a.L 5:Int),V.int .i64 (fh a c q a.L 6:Int)]=Ju (e8 a c q):=rfl;simp only[un,ek];have e1:=L9 WU (e8 a c q) (b9 (e8 a c) q) 0;have fin: ∀v,v=nV (gv (e8 a c) a.n q)→(tab a.n fun j=>if j<q then nV (gv (e8 a c) a.n j) else nV 0).set q v=tab a.n fun j=>if j<q+1 then nV (gv (e8 a c) a.n j) else nV 0:=by
   rintro v rfl;rw[lO];refine c8 fun j _=> ?_;by_cases hj:j=q
   ·rw[aB hj,dp,hj]
   ·rw[ax hj];by_cases dw:j<q
    ·rw[aB dw,dp]
    ·rw[ax dw,dq]
  rw[bq (by omega)];by_cases hx:e8 a c q∈b9 (e8 a c) q
  ·refine bF (by rw[e1];simpa using hx) ?_;refine (ni hq).trans ?_;have e2:=Ma WU (e8 a c q) (.int .i64 0) (b9 (e8 a c) q) 0 hx;rw[dB,←auU hq hx] at e2;rw[e2,V.toInt_int,Int.toNat_natCast,show (V.int .i64 (gv (e8 a c) a.n q:Int))=nV (gv (e8 a c) a.n q) from rfl,fin _ rfl,agj hx]
  ·refine bT (by rw[e1];simpa using hx) ?_;refine bT agu ?_;refine (ni hq).trans ?_;have e2:=Mb WU (e8 a c q) (b9 (e8 a c) q) 0 hx;rw[dB] at e2;rw[IG,e2,Int.toNat_natCast,←auV hq hx,show (V.int .i64 (gv (e8 a c) a.n q:Int))=nV (gv (e8 a c) a.n q) from rfl,fin _ rfl,agk hx]
 ·simp only[Pj,Jk,un,aM,bm];refine bF (aX (aw _)) ?_;rw[aX (aw _)];have:(tab a.n fun q=>if q<a.n then nV (gv (e8 a c) a.n q) else nV 0)=cV a.n (gv (e8 a c) a.n):=c8 fun q hq=>aB hq;rw[this]
def pz (a:Da):Nat→Nat
 | 0=>1
 | i+1=>if a.fin i=a.fin 0 then pz a i else 2
def jc (a:Da) (q:Nat):Nat:=if a.fin q=a.fin 0 then 0 else 1
theorem avc:(b9 (jc a) a.n).length=pz a a.n:=by
 have key: ∀m,(b9 (jc a) (m+1)=[0]∧pz a (m+1)=1)∨(b9 (jc a) (m+1)=[0,1]∧pz a (m+1)=2):=by
  intro m
  induction m with
  | zero=>left;simp[b9,cO,jc,pz]
  | succ m ih=>
   rw[b9,pz];unfold jc cO;by_cases hf:a.fin (m+1)=a.fin 0
   ·rw[aB hf,aB hf];rcases ih with ⟨i1,i2⟩|⟨i1,i2⟩
    ·left;refine ⟨?_,i2⟩;unfold jc at i1;rw[i1];rfl
    ·right;refine ⟨?_,i2⟩;unfold jc at i1;rw[i1];rfl
   ·rw[ax hf,ax hf];rcases ih with ⟨i1,i2⟩|⟨i1,i2⟩
    ·right;refine ⟨?_,rfl⟩;unfold jc at i1;rw[i1];rfl
    ·right;refine ⟨?_,rfl⟩;unfold jc at i1;rw[i1];rfl
 have hs:=h.s;obtain ⟨m,hm⟩: ∃m,a.n=m+1:=⟨a.n-1,by omega⟩
 rw[hm];rcases key m with ⟨e1,e2⟩|⟨e1,e2⟩<;>rw[e1,e2]<;>rfl
theorem avd {k2 k3:Int} {l2:List V}:Loop (O7 CC a.cG (a.cG.length:Int) k2 k3 a.cG l2) (1,0,List.replicate ((((a.cG.length:Nat):Int)).toNat) (V.int .i64 0))=some ((pz a a.n:Int),(a.n:Int),false,cV a.n (jc a)):=by
 have hm:=h.eb;have hs:=h.s;rw[Da.Gi,Int.toNat_natCast,o6];refine (fI a.n (fun i=>((pz a i:Int),(i:Int),(tab a.n fun q=>if q<i then nV (jc a q) else nV 0))) _ (fun q hq=> ?_) ?_)
 ·simp only[O7,Ji,un,aM,bm];refine bT (bn hq) ?_;refine bs (Da.CW hq) ?_;refine bs (a:= .bool (a.fin 0)) (by unfold Da.cG;exact mz (by omega)) ?_;rw[bq (by omega)];have fin:(tab a.n fun j=>if j<q then nV (jc a j) else nV 0).set q (nV (jc a q))=tab a.n fun j=>if j<q+1 then nV (jc a j) else nV 0:=by
   rw[lO];refine c8 fun j _=> ?_;by_cases hj:j=q
   ·rw[aB hj,dp,hj]
   ·rw[ax hj];by_cases dw:j<q
    ·rw[aB dw,dp]
    ·rw[ax dw,dq]
  simp only[V.Gz];by_cases hf:a.fin q=a.fin 0
  ·refine bF (by rw[hf];simp) ?_;have e:pz a (q+1)=pz a q:=by rw[pz,aB hf]
   have e2:(tab a.n fun j=>if j<q then nV (jc a j) else nV 0)=tab a.n fun j=>if j<q+1 then nV (jc a j) else nV 0:=c8 fun j _=>by
    by_cases hj:j=q
    ·rw[dq,dp,hj];unfold jc;rw[aB hf]
    ·by_cases dw:j<q
     ·rw[aB dw,dp]
     ·rw[ax dw,dq]
   rw[e,e2]
  ·refine bT (by simpa using hf) ?_;refine (ni hq).trans ?_;have e:pz a (q+1)=2:=by rw[pz,ax hf]
   have e3:jc a q=1:=by unfold jc;rw[ax hf]
   rw[e3] at fin;rw[e,Int.toNat_natCast,show (V.int .i64 1)=nV 1 from rfl,fin];rfl
 ·simp only[O7,Ji,un,aM,bm];refine bF (aX (aw _)) ?_;rw[aX (aw _)];have:(tab a.n fun q=>if q<a.n then nV (jc a q) else nV 0)=cV a.n (jc a):=c8 fun q hq=>aB hq;rw[this]
theorem ave {k2 k3:Int} {l2:List V}: ∃p,Loop (Jt CC k2 k3 l2 a.cN) ((pz a a.n:Int),cV a.n (jc a))=some (cV a.n p)∧a.O4 p∧∀q,q<a.n→p q≤1000:=by
 have hm:=h.eb;have:=Lt (step:=Jt CC k2 k3 l2 a.cN)
  (fun x=> ∃c,x=(((b9 c a.n).length:Int),cV a.n c)∧a.Part c∧∀q,q<a.n→c q≤1000)
  (fun x=>a.n-x.1.toNat)
  (fun r=> ∃p,r=cV a.n p∧a.O4 p∧∀q,q<a.n→p q≤1000) (fun x hx=> ?_) ((pz a a.n:Int),cV a.n (jc a)) ⟨jc a,by rw[avc h],⟨?_,?_⟩,?_⟩
 ·obtain ⟨r,h1,p,rfl,h2,h3⟩:=this;exact ⟨p,h1,h2,h3⟩
 ·obtain ⟨c,rfl,hp,hc⟩:=hx;have hl:(cV a.n c).length=a.n:=by simp[cV]
  have avf:a.WS c (gv (e8 a c) a.n):=fun q q' hq dz=>(agi hq dz).trans (WV h)
  have hle:=Je (e8 a c) a.n;have hb: ∀q,q<a.n→gv (e8 a c) a.n q≤1000:=fun q hq=>by have:=WQ (g:=e8 a c) hq;omega
  have WW: ∀q q',q<a.n→q'<a.n→e8 a c q=e8 a c q'→c q=c q':=fun q q' hq dz e=>(Da.Jf.1 ((WV h).1 e)).1;have aAE:=auX WW;have cr:=avb h hc (k1:=((b9 c a.n).length:Int)) (k2:=k2) (k3:=k3) (l2:=l2);by_cases he:(b9 (e8 a c) a.n).length=(b9 c a.n).length
  ·right;refine ⟨_,?_,gv (e8 a c) a.n,rfl,⟨fun q q' hq dz=> ?_,auW _ _⟩,hb⟩
   ·simp only[Jt,Js,un];refine bT (by rw[hl];exact gG (by omega) (by omega)) ?_;refine bs cr ?_;refine bT (by rw[IG];simp[he]) ?_;rfl
   ·have cQ:=agm WW (by omega);rw[agi hq dz,←hp.auY h (fun s s' hs wB e=>(WV h).1 (cQ s s' hs wB e)) q q' hq dz];exact ⟨WW q q' hq dz,cQ q q' hq dz⟩
  ·left;have e2:(b9 (gv (e8 a c) a.n) a.n).length=(b9 (e8 a c) a.n).length:=by rw[agl _ _ _ (aw _),jC]
   refine ⟨(((b9 (e8 a c) a.n).length:Int),cV a.n (gv (e8 a c) a.n)),?_,⟨gv (e8 a c) a.n,by rw[e2],avf.part h hp,hb⟩,?_⟩
   ·simp only[Jt,Js,un];refine bT (by rw[hl];exact gG (by omega) (by omega)) ?_;refine bs cr ?_;refine bF (by rw[IG];simpa using fun e=>he (by omega)) ?_;rw[IG]
   ·simp only[Int.toNat_natCast];omega
 ·intro q q' hq dz he;have:=he [] WL.nil;rw[Da.vi,Da.vi] at this;unfold jc;rw[this]
 ·intro q q' hq dz he;unfold jc at he;split at he<;>split at he
  ·rename_i h1 h2;rw[h1,h2]
  ·omega
  ·omega
  ·rename_i h1 h2;revert h1 h2;cases a.fin q<;>cases a.fin q'<;>cases a.fin 0<;>simp
 ·intro q _;unfold jc;split<;>omega
theorem avg: ∃p,CC NJ (eh a)=some [.list ab (cV a.n p)]∧a.O4 p∧∀q,q<a.n→p q≤1000:=by
 have hm:=h.eb;obtain ⟨p,h1,h2,h3⟩:=ave h (k2:=(a.L:Int)) (k3:=(a.st:Int)) (l2:=a.cG);refine ⟨p,au8 ?_,h2,h3⟩;unfold ags;refine bs (o7 h) ?_;refine bF rfl ?_;refine bT (by rw[Da.Gi];exact gG (by omega) (by omega)) ?_;refine bs (avd h) ?_;refine bs h1 ?_;rfl
end
noncomputable def Jv (C:af) (q t29 t30:Int) (t47:LV) (t48 bw bE:Int) (iH iy:LV) (ei ej Es Et:Int) (places dS:LV) (Eu Ev:Int) (aO bj bN bK ec iX:LV) (t49:Int) (rows:LV) {β:Type} (kn:(Int×LV)→Option β) (kr:(Int×Bool×LV)→Option β):Option β:=
 bif decide (t49<t48) then
  (idx t47 t49).bind fun x5=>
  bif (decide (0≤x5.toInt))&&(decide (x5.toInt<(dS.length:Int))) then
  (dS[(x5.toInt:Int).toNat]?).bind fun x6=>
  aM rows t49 fun x7=>
  kn (wrap .i64 (t49+1),bm rows t49 (V.int .i64 x6.toInt))
  else none
 else
  kr (t49,decide (t49<t48),rows)
noncomputable def Pl (C:af) (q t29 t30:Int) (t47:LV) (t48 bw bE:Int) (iH iy:LV) (ei ej Es Et:Int) (places dS:LV) (Eu Ev:Int) (aO bj bN bK ec iX:LV):=un fun t49 rows=>Jv C q t29 t30 t47 t48 bw bE iH iy ei ej Es Et places dS Eu Ev aO bj bN bK ec iX t49 rows (fun y=>some (Sum.inl y)) (fun r=>some (Sum.inr r))
noncomputable def Jw (C:af) (t29 bw bE:Int) (iH iy:LV) (ei ej Es Et:Int) (places dS:LV) (Eu Ev:Int) (aF aO bj bN:LV) (t30:Int) (bK ec:LV) {β:Type} (kn:(Int×LV×LV)→Option β) (kr:(Int×Bool×LV×LV)→Option β):Option β:=
 bif decide (t30<t29) then
  aM dS t30 fun x3=>
  bif decide ((x3.toInt:Int)<(bK.length:Int)) then
  kn (wrap .i64 (t30+1),bK,ec)
  else
  bif (decide (0≤bw))&&((decide (bw≤bw))&&(Nat.ble ((bw.toNat)*8) aY)) then
   aM bN t30 fun x4=>
   (Loop (Pl C t30 t29 t30 x4.toList (x4.toList.length:Int) bw bE iH iy ei ej Es Et places dS Eu Ev aF aO bj bN bK ec) (0,List.replicate (bw.toNat) (V.int .i64 0))).bind (un fun yg=>un fun (xd:Bool) (agv:LV)=>
    aM bj t30 fun qD=>
    bif Nat.ble ((bK.length+([.bool qD.toBool]:LV).length)*1) aY then
    bif Nat.ble ((ec.length+([.list ab agv]:LV).length)*24) aY then
     kn (wrap .i64 (t30+1),bK++([.bool qD.toBool]:LV),ec++([.list ab agv]:LV))
    else none
    else none)
  else none
 else
  kr (t30,decide (t30<t29),bK,ec)
noncomputable def Pm (C:af) (t29 bw bE:Int) (iH iy:LV) (ei ej Es Et:Int) (places dS:LV) (Eu Ev:Int) (aF aO bj bN:LV):=un fun t30=>un fun bK ec=>Jw C t29 bw bE iH iy ei ej Es Et places dS Eu Ev aF aO bj bN t30 bK ec (fun y=>some (Sum.inl y)) (fun r=>some (Sum.inr r))
noncomputable def Jx (C:af) (t88 ei ej:Int) (dS:LV) (fQ fR:Int) (numbers WX aF aO bj bN:LV) (t89:Int) (vj:LV) {β:Type} (kn:(Int×LV)→Option β) (kr:(Int×Bool×LV)→Option β):Option β:=
 bif decide (t89<t88) then
  aM WX t89 fun tx=>
  aM vj t89 fun C3=>
  bif decide ((tx.toInt:Int)≥0) then
  bif (decide (0≤tx.toInt))&&(decide (tx.toInt<(dS.length:Int))) then
   (dS[(tx.toInt:Int).toNat]?).bind fun Ew=>
   bif (decide (0≤Ew.toInt))&&(decide (Ew.toInt<(numbers.length:Int))) then
   (numbers[(Ew.toInt:Int).toNat]?).bind fun x20=>
   aM (bm vj t89 (V.int .i64 (-1))) t89 fun x21=>
   kn (wrap .i64 (t89+1),bm (bm vj t89 (V.int .i64 (-1))) t89 (V.int .i64 x20.toInt))
   else none
  else none
  else
  kn (wrap .i64 (t89+1),bm vj t89 (V.int .i64 (-1)))
 else
  kr (t89,decide (t89<t88),vj)
noncomputable def Pn (C:af) (t88 ei ej:Int) (dS:LV) (fQ fR:Int) (numbers WX aF aO bj bN:LV):=un fun t89 vj=>Jx C t88 ei ej dS fQ fR numbers WX aF aO bj bN t89 vj (fun y=>some (Sum.inl y)) (fun r=>some (Sum.inr r))
noncomputable def WY (C:af):cL:=bR 161 UK [EQ,EQ,EQ,EQ,EQ,H1,EQ,EQ,EQ,EQ,EQ,EQ,EQ,EQ,EQ,EQ,EQ,EQ,H1,EQ,EQ,EQ,EQ,EQ,EQ] [[1,2,3,4,5,0,0,7,8,9,10,11,12,13,14,15,16,17,18,0,20,21,22,23,24,25]] (@Jv C) (bR 81 UL [EQ,H1,EQ,EQ,EQ,EQ,EQ,EQ,EQ,EQ,EQ,EQ,EQ,EQ,EQ,EQ,EQ,EQ,H1,H1] [[1,0,0,3,4,5,6,7,8,9,10,11,12,13,14,15,16,17,18,0,0]] (@Jw C) (bR 321 UM [EQ,H1,EQ,EQ,EQ,EQ,EQ,EQ,H1,EQ,EQ,EQ,EQ,EQ] [[1,0,0,3,4,5,6,7,8,0,10,11,12,13,14]] (@Jx C) bH))
theorem avh (C:af):bA C (WY C) 29 (Lp [1,1,1,1,0,1,0,0,1,1,0,0,1,1,1,0,1,0,0] 29):=bS UK [EQ,EQ,EQ,EQ,EQ,H1,EQ,EQ,EQ,EQ,EQ,EQ,EQ,EQ,EQ,EQ,EQ,EQ,H1,EQ,EQ,EQ,EQ,EQ,EQ] [[1,2,3,4,5,0,0,7,8,9,10,11,12,13,14,15,16,17,18,0,20,21,22,23,24,25]] (@Jv C) (bu av)
theorem avi (C:af):bA C (WY C) 29 (Lp [1,1,1,1,0,1,0,0] 29):=bS UL [EQ,H1,EQ,EQ,EQ,EQ,EQ,EQ,EQ,EQ,EQ,EQ,EQ,EQ,EQ,EQ,EQ,EQ,H1,H1] [[1,0,0,3,4,5,6,7,8,9,10,11,12,13,14,15,16,17,18,0,0]] (@Jw C) (bu (bB (avh C) av))
theorem avj (C:af):bA C (WY C) 29 (Lp [1,1,1,1,1,1,1,0,1,0,0] 29):=bS UM [EQ,H1,EQ,EQ,EQ,EQ,EQ,EQ,H1,EQ,EQ,EQ,EQ,EQ] [[1,0,0,3,4,5,6,7,8,0,10,11,12,13,14]] (@Jx C) (bu av)
noncomputable def agw (C:af) (dy dH:Int) (c6 dI:LV):Option LV:=
 (C DP [V.int .i64 dy,V.int .i64 dH,.list ak c6,.list ag dI]).bind fun r1=>
 (C NJ [V.int .i64 ((V.nth r1 0).toInt),V.int .i64 ((V.nth (r1.drop 1) 0).toInt),.list ak ((V.nth (r1.drop 2) 0).toList),.list ag ((V.nth ((r1.drop 2).drop 1) 0).toList)]).bind fun r2=>
 (Loop (Pm C (((V.nth r2 0).toList).length:Int) dy dH c6 dI 0 0 ((V.nth r1 0).toInt) ((V.nth (r1.drop 1) 0).toInt) ((V.nth (((r1.drop 2).drop 1).drop 1) 0).toList) ((V.nth r2 0).toList) dy 0 ([]:LV) ([]:LV) ((V.nth (r1.drop 2) 0).toList) ((V.nth ((r1.drop 2).drop 1) 0).toList)) (0,([]:LV),([]:LV))).bind (un fun Mm=>un fun (C6:Bool)=>un fun (qk:LV) (wg:LV)=>
  (C DP [V.int .i64 dy,V.int .i64 0,.list ak qk,.list ag wg]).bind fun xg=>
  bif (decide (0≤(((V.nth (((r1.drop 2).drop 1).drop 1) 0).toList).length:Int)))&&((decide ((((V.nth (((r1.drop 2).drop 1).drop 1) 0).toList).length:Int)≤(((V.nth (((r1.drop 2).drop 1).drop 1) 0).toList).length:Int)))&&(Nat.ble ((((((V.nth (((r1.drop 2).drop 1).drop 1) 0).toList).length:Int):Int).toNat)*8) aY)) then
   (Loop (Pn C (((V.nth (((r1.drop 2).drop 1).drop 1) 0).toList).length:Int) 0 0 ((V.nth r2 0).toList) ((V.nth xg 0).toInt) ((V.nth (xg.drop 1) 0).toInt) ((V.nth (((xg.drop 2).drop 1).drop 1) 0).toList) ((V.nth (((r1.drop 2).drop 1).drop 1) 0).toList) ([]:LV) ([]:LV) ((V.nth (xg.drop 2) 0).toList) ((V.nth ((xg.drop 2).drop 1) 0).toList)) (0,List.replicate (((((V.nth (((r1.drop 2).drop 1).drop 1) 0).toList).length:Int):Int).toNat) (V.int .i64 0))).bind (un fun avk=>un fun (aAF:Bool) (avl:LV)=>
    some [V.int .i64 ((V.nth xg 0).toInt),V.int .i64 ((V.nth (xg.drop 1) 0).toInt),.list ak ((V.nth (xg.drop 2) 0).toList),.list ag ((V.nth ((xg.drop 2).drop 1) 0).toList),.list ab avl])
  else none)
theorem avm {dy dH:Int} {c6 dI:LV} {r:Option LV} (h:agw CC dy dH c6 dI=r):CC NI [V.int .i64 dy,V.int .i64 dH,.list ak c6,.list ag dI]=r:=bI (bB (avi CC) (bB (avj CC) av)) h
noncomputable def agx (C:af) (dy dH:Int) (c6 dI:LV):Option LV:=
 (C qS [V.int .i64 dy,V.int .i64 dH,.list ak c6,.list ag dI]).bind fun r1=>
 bif (((V.nth r1 0).toInt):Int) != 0 then
  some [V.int .i64 0,V.int .i64 0,.list ak ([]:LV),.list ag ([]:LV)]
 else
  (C NI [V.int .i64 dy,V.int .i64 dH,.list ak c6,.list ag dI]).bind fun r2=>
  some [V.int .i64 ((V.nth r2 0).toInt),V.int .i64 ((V.nth (r2.drop 1) 0).toInt),.list ak ((V.nth (r2.drop 2) 0).toList),.list ag ((V.nth ((r2.drop 2).drop 1) 0).toList)]
theorem avn {dy dH:Int} {c6 dI:LV} {r:Option LV} (h:agx CC dy dH c6 dI=r):CC uD [V.int .i64 dy,V.int .i64 dH,.list ak c6,.list ag dI]=r:=bI (L:=bH) av h
theorem avo {p:Nat→Nat} {n:Nat} (h:Bb p n) (hn:0<n):p 0=0:=by
 simpa[b9,cO] using h 1 (by omega)
theorem agy {p:Nat→Nat} {n i:Nat} (h:Bb p n) (hi:i<n):p i∈b9 p i↔p i<(Da.gX p i).length:=by
 rw[Da.Jg];constructor
 ·intro hm;rw[h i (by omega)] at hm;simpa using hm
 ·intro hm;rw[h i (by omega)];simpa using hm
theorem avp (p:Nat→Nat) (n:Nat):(Da.gX p n).length≤n:=by rw[Da.Jg];exact Je p n
def qF (a:Da) (p:Nat→Nat) (i:Nat):List V:=(Da.gX p i).map fun r=>V.bool (a.fin r)
def qN (a:Da) (p:Nat→Nat) (i:Nat):List V:=(Da.gX p i).map fun r=>nX a.L fun x=>p (a.nx r x)
theorem avq {a:Da} {p:Nat→Nat}:(a.quo p).cG=qF a p a.n∧(a.quo p).cN=qN a p a.n:=by
 constructor
 ·unfold Da.cG qF;rw[A4 _ 0,Da.yU];exact c8 fun i hi=>by rw[Da.agn hi,cE hi]
 ·unfold Da.cN qN;rw[A4 _ 0,Da.yU];refine c8 fun i hi=> ?_;unfold nX;exact congrArg _ (c8 fun x hx=>by rw[Da.ago hi hx,cE hi])
section
variable {a:Da} (h:a.Ok) {p:Nat→Nat}
include h
theorem avr {q:Nat} (hq:q<a.n) {k1 k2 k3 k4 k5 k6 k7 k8 k9 k10 k11:Int} {l1 l2 l3 l4 l5 l6 l7 l8 l9:List V}:
  Loop (Pl CC k1 k2 k3 (tab a.L fun x=>iV (a.nx q x)) ((tab a.L fun x=>iV (a.nx q x)).length:Int) k4 k5 l1 l2 k6 k7 k8 k9 l3 (cV a.n p) k10 k11 l4 l5 l6 l7 l8 l9) (0,List.replicate (((a.L:Nat):Int).toNat) (V.int .i64 0))=
   some ((a.L:Int),false,(tab a.L fun x=>nV (p (a.nx q x)))):=by
 have h6:=h.l6;rw[eG,Int.toNat_natCast,o6];refine (fI a.L (fun t=>((t:Int),(tab a.L fun x=>if x<t then nV (p (a.nx q x)) else nV 0))) _ (fun t ht=> ?_) ?_)
 ·simp only[Pl,Jv,un,aM,bm];refine bT (bn ht) ?_;refine bs (CV ht) ?_;refine (ni (i:=a.nx q t) (h.lh hq ht)).trans ?_;refine (ni ht).trans ?_;rw[bq (by omega),Int.toNat_natCast,lO];refine congrArg (fun x=>some (Sum.inl (((t+1:Nat):Int),x))) (c8 fun j _=> ?_);by_cases hj:j=t
  ·rw[aB hj,dp,hj];rfl
  ·rw[ax hj];by_cases dw:j<t
   ·rw[aB dw,dp]
   ·rw[ax dw,dq]
 ·simp only[Pl,Jv,un,aM,bm];refine bF (aX (aw _)) ?_;rw[aX (aw _)];refine congrArg (fun x=>some (Sum.inr ((a.L:Int),false,x))) (c8 fun j hj=>aB hj)
theorem avs (ho:Bb p a.n) {k3 k4 k5 k6 k7 k8 k9:Int} {l1 l2 l3 l4 l5:List V}:
  Loop (Pm CC ((cV a.n p).length:Int) (a.L:Int) k3 l1 l2 k4 k5 k6 k7 l3 (cV a.n p) k8 k9 l4 l5 a.cG a.cN) (0,([]:List V),([]:List V))=
   some ((a.n:Int),false,qF a p a.n,qN a p a.n):=by
 have h6:=h.l6;have hm:=h.eb;rw[show (cV a.n p).length=a.n by simp[cV]];refine (fI a.n (fun i=>((i:Int),qF a p i,qN a p i)) _ (fun q hq=> ?_) ?_)
 ·have hle:=avp p q;have hF:(qF a p q).length=(Da.gX p q).length:=by simp[qF]
  have hN:(qN a p q).length=(Da.gX p q).length:=by simp[qN]
  simp only[Pm,Jw,un,aM];refine bT (bn hq) ?_;refine (ni (i:=q) hq).trans ?_;rw[bq (by omega)];simp only[nV,V.toInt_int];by_cases hx:p q∈b9 p q
  ·refine bT (ca (by rw[hF];have:=(agy ho hq).1 hx;omega)) ?_;unfold qF qN;rw[Da.gX,aB hx]
  ·refine bF (cZ (by rw[hF];intro h2;exact hx ((agy ho hq).2 (by omega)))) ?_;refine bT (gG (by omega) (by omega)) ?_;refine (ni (i:=q) hq).trans ?_;simp only[CU];refine bs (avr h hq) ?_;refine (ni (i:=q) hq).trans ?_;refine bT (cap (by rw[hF];simp;omega) (by omega)) ?_;refine bT (cap (by rw[hN];simp;omega) (by omega)) ?_;unfold qF qN;rw[Da.gX,ax hx,vy,vy];rfl
 ·simp only[Pm,Jw,un,aM];refine bF (aX (aw _)) ?_;rw[aX (aw _)]
end
def xh (U U':List Nat) (p:Nat→Nat) (q:Nat):V:=if q∈U then iV ((if p (U.idxOf q)∈U' then nV (U'.idxOf (p (U.idxOf q))) else V.int .i64 (-1)).toInt) else V.int .i64 (-1)
theorem avt {n m k:Nat} {U U':List Nat} {p:Nat→Nat} (hn:n≤512) (hU:U.length≤m) (hp: ∀q,q<m→p q<k) {k1 k2 k3 k4:Int} {l1 l2 l3 l4:List V}:
  ∃X,Loop (Pn CC ((pk U n).length:Int) k1 k2 (cV m p) k3 k4 (pk U' k) (pk U n) l1 l2 l3 l4) (0,List.replicate ((((pk U n).length:Int):Int).toNat) (V.int .i64 0))=some ((n:Int),false,X):=by
 rw[show (pk U n).length=n by simp[pk],Int.toNat_natCast,o6];refine ⟨tab n fun q=>if q<n then xh U U' p q else V.int .i64 0,fI n (fun i=>((i:Int),(tab n fun q=>if q<i then xh U U' p q else V.int .i64 0))) _ (fun q hq=> ?_) ?_⟩
 ·simp only[Pn,Jx,un,aM,bm];refine bT (bn hq) ?_;refine (ni (i:=q) hq).trans ?_;refine (ni (i:=q) hq).trans ?_;rw[bq (by omega)];have fin: ∀v,v=xh U U' p q→((tab n fun j=>if j<q then xh U U' p j else V.int .i64 0).set q v)=tab n fun j=>if j<q+1 then xh U U' p j else V.int .i64 0:=by
   rintro v rfl;rw[lO];refine c8 fun j _=> ?_;by_cases hj:j=q
   ·rw[aB hj,aB (show j<q+1 by omega),hj]
   ·rw[ax hj];by_cases dw:j<q
    ·rw[aB dw,aB (show j<q+1 by omega)]
    ·rw[ax dw,ax (show¬j<q+1 by omega)]
  by_cases hx:q∈U
  ·have es:xh U U' p q=iV ((if p (U.idxOf q)∈U' then nV (U'.idxOf (p (U.idxOf q))) else V.int .i64 (-1)).toInt):=by unfold xh;rw[aB hx]
   have hi:=xw hx;rw[aB hx];refine bT (ca (by simp only[nV,V.toInt_int];omega)) ?_;simp only[nV,V.toInt_int];refine (ni (i:=U.idxOf q) (by omega)).trans ?_;simp only[nV,V.toInt_int];refine (ni (i:=p (U.idxOf q)) (hp _ (by omega))).trans ?_;refine bT (by rw[pF,eG];exact o5 hq) ?_;refine bs (a:= .int .i64 (-1)) (by rw[Int.toNat_natCast,EN];simp[hq]) ?_;rw[Int.toNat_natCast,BG,←fin _ es.symm]
  ·rw[ax hx];refine bF (cZ (by simp)) ?_;rw[Int.toNat_natCast,←fin _ (show V.int .i64 (-1)=xh U U' p q by unfold xh;rw[ax hx])]
 ·simp only[Pn,Jx,un,aM,bm];refine bF (aX (aw _)) ?_;rw[aX (aw _)]
theorem Canon.congr {m:Da} {L:Nat} {K K':List Nat→Bool} (h:m.Canon L K) (e: ∀w,WL L w→K w=K' w):m.Canon L K':=⟨h.ok,h.hL,h.st,h.num,h.red,fun w hw=>(h.Eh w hw).trans (e w hw)⟩
theorem avu {a:Da} (h:a.Ok): ∃m X,CC NI (eh a)=some (eh m++[.list ab X])∧m.Canon a.L (a.acc a.st):=by
 have ht:=h.afE;have hm:=h.eb;have hle:=h.xb a.n;have e3:a.trim.n=(aC a.L a.nx a.st a.n).length:=tv;obtain ⟨p,c1,c2,c3⟩:=avg ht;have hq:=Da.agp ht c2;obtain ⟨q1,q2⟩:=avq (a:=a.trim) (p:=p);have avv:=Da.au0 ht c2;have cQ:(a.trim.quo p).st=0:=avo c2.2 ht.s;have qB:=afU hq;obtain ⟨X,hX⟩:=avt (n:=a.n) (m:=a.trim.n) (k:=(a.trim.quo p).n) (U:=aC a.L a.nx a.st a.n) (U':=aC (a.trim.quo p).L (a.trim.quo p).nx (a.trim.quo p).st (a.trim.quo p).n) (p:=p) hm (by omega) (fun q hq=>by rw[Da.yU];exact Da.Jh c2.2 hq) (k1:=0) (k2:=0) (k3:=((a.trim.quo p).trim.L:Int)) (k4:=((a.trim.quo p).trim.st:Int)) (l1:=[]) (l2:=[]) (l3:=(a.trim.quo p).trim.cG) (l4:=(a.trim.quo p).trim.cN);refine ⟨(a.trim.quo p).trim,X,avm ?_,Canon.congr avv fun w hw=>h.afF hw⟩;unfold agw;refine bs (afU h) ?_;refine bs c1 ?_;refine bs (avs ht c2.2) ?_;simp only[un];rw[←q1,←q2];have avw:CC DP [.int .i64 (a.L:Int),.int .i64 0,.list ak (a.trim.quo p).cG,.list ag (a.trim.quo p).cN]=some (eh (a.trim.quo p).trim++[.list ab (pk (aC (a.trim.quo p).L (a.trim.quo p).nx (a.trim.quo p).st (a.trim.quo p).n) (a.trim.quo p).n)]):=by
  rw[←qB];unfold eh iW;rw[cQ];rfl
 refine bs avw ?_;have e0:(pk (aC a.L a.nx a.st a.n) a.n).length=a.n:=by simp[pk]
 refine bT (show ((decide (0≤((pk (aC a.L a.nx a.st a.n) a.n).length:Int)))&&((decide (((pk (aC a.L a.nx a.st a.n) a.n).length:Int)≤((pk (aC a.L a.nx a.st a.n) a.n).length:Int)))&&(Nat.ble (((((pk (aC a.L a.nx a.st a.n) a.n).length:Nat):Int).toNat)*8) aY)))=true from gG (by rw[e0];omega) (by omega)) ?_;refine bs hX ?_;rfl
theorem agz {a:Da} (h:a.Ok): ∃m,CC uD (eh a)=some (eh m)∧m.Canon a.L (a.acc a.st):=by
 obtain ⟨m,X,h1,h2⟩:=avu h;refine ⟨m,avn ?_,h2⟩;unfold agx;refine bs (o7 h) ?_;refine bF rfl ?_;refine bs h1 ?_;rfl
open Classical in
noncomputable def minD (a:Da):Da:=if h: ∃m:Da,m.Canon a.L (a.acc a.st) then Classical.choose h else a
theorem v7 {a:Da} (h:a.Ok):(minD a).Canon a.L (a.acc a.st):=by
 obtain ⟨m,_,h2⟩:=agz h;have: ∃m:Da,m.Canon a.L (a.acc a.st):=⟨m,h2⟩
 unfold minD;rw[xl this];exact EJ this
theorem agA {a m:Da} (h:a.Ok) (hm:m.Canon a.L (a.acc a.st)):m=minD a:=hm.eq (v7 h)
theorem yd {a:Da} (h:a.Ok):CC uD (eh a)=some (eh (minD a)):=by
 obtain ⟨m,h1,h2⟩:=agz h;rw[h1,agA h h2]
noncomputable def Jy (C:af) (n a t33 t34 t37 ss fQ fR:Int) (fi e9:LV) (t38:Int) (aI:LV) {β:Type} (kn:(Int×LV)→Option β) (kr:(Int×Bool×LV)→Option β):Option β:=
 bif decide (t38<t37) then
  aM aI a fun x1=>
  (idx e9 t38).bind fun x2=>
  (idx x2.toList a).bind fun x3=>
  (aI[a.toNat]?).bind fun x4=>
  bif Nat.ble ((x4.toList.length+([V.int .i64 (wrap .i64 (ss+x3.toInt))]:LV).length)*8) aY then
  CG aI a <|
  bif (Nat.beq (a.toNat) (a.toNat))&&true then
   kn (wrap .i64 (t38+1),bm aI a (.list ab (x4.toList++([V.int .i64 (wrap .i64 (ss+x3.toInt))]:LV))))
  else none
  else none
 else
  kr (t38,decide (t38<t37),aI)
noncomputable def Po (C:af) (n a t33 t34 t37 ss fQ fR:Int) (fi e9:LV):=un fun t38 aI=>Jy C n a t33 t34 t37 ss fQ fR fi e9 t38 aI (fun y=>some (Sum.inl y)) (fun r=>some (Sum.inr r))
noncomputable def Jz (C:af) (n t33 ss fQ fR:Int) (fi e9:LV) (t34:Int) (aI:LV) {β:Type} (kn:(Int×LV)→Option β) (kr:(Int×Bool×LV)→Option β):Option β:=
 bif decide (t34<t33) then
  (Loop (Po C n t34 t33 t34 n ss fQ fR fi e9) (0,aI)).bind (un fun mr=>un fun (j5:Bool) (Jd:LV)=>
   kn (wrap .i64 (t34+1),Jd))
 else
  kr (t34,decide (t34<t33),aI)
noncomputable def Pp (C:af) (n t33 ss fQ fR:Int) (fi e9:LV):=un fun t34 aI=>Jz C n t33 ss fQ fR fi e9 t34 aI (fun y=>some (Sum.inl y)) (fun r=>some (Sum.inr r))
noncomputable def agB (C:af):cL:=bR 161 UW [EQ,EQ,EQ,EQ,EQ,H1,EQ,EQ,EQ,EQ,EQ,H1] [[1,2,3,4,5,0,0,7,8,9,10,11,0]] (@Jy C) (bR 113 UX [EQ,EQ,H1,EQ,EQ,EQ,EQ,EQ,H1] [[1,2,0,0,4,5,6,7,8,0]] (@Jz C) bH)
theorem avx (C:af):bA C (agB C) 49 (Lp [1,1,1,1,0,1,0,0,1,1,0,0,1,1,0,0] 49):=bS UW [EQ,EQ,EQ,EQ,EQ,H1,EQ,EQ,EQ,EQ,EQ,H1] [[1,2,3,4,5,0,0,7,8,9,10,11,0]] (@Jy C) (bu av)
theorem avy (C:af):bA C (agB C) 49 (Lp [1,1,1,1,0,1,0,0] 49):=bS UX [EQ,EQ,H1,EQ,EQ,EQ,EQ,EQ,H1] [[1,2,0,0,4,5,6,7,8,0]] (@Jz C) (bu (bB (avx C) av))
noncomputable def Rf (C:af) (vn Ex:Int) (xi Pq:LV) (ss:Int):Option LV:=
 bif decide (((wrap .i64 (ss+(xi.length:Int))):Int)>32) then
  some [V.int .i64 3,V.int .i64 ss,.list ag ([]:LV),.list kD ([]:LV)]
 else
  bif (decide (0≤vn))&&((decide (vn≤vn))&&(Nat.ble ((vn.toNat)*24) aY)) then
  (Loop (Pp C (xi.length:Int) ((List.replicate (vn.toNat) (V.list ab ([]:LV))).length:Int) ss vn Ex xi Pq) (0,List.replicate (vn.toNat) (V.list ab ([]:LV)))).bind (un fun yg=>un fun (xd:Bool) (rE:LV)=>
   bif Nat.ble (([.agg [V.int .i64 (wrap .i64 (ss+Ex)),.list ak xi,V.int .i64 ss]]:LV).length*40) aY then
    some [V.int .i64 0,V.int .i64 (wrap .i64 (ss+(xi.length:Int))),.list ag rE,.list kD ([.agg [V.int .i64 (wrap .i64 (ss+Ex)),.list ak xi,V.int .i64 ss]]:LV)]
   else none)
  else none
theorem Zr {vn Ex:Int} {xi Pq:LV} {ss:Int} {r:Option LV} (h:Rf CC vn Ex xi Pq ss=r):CC Gh [V.int .i64 vn,V.int .i64 Ex,.list ak xi,.list ag Pq,V.int .i64 ss]=r:=bI (bB (avy CC) av) h
noncomputable def agC (C:af) (Pr:Int) (Ps:LV) (Pt:Int) (f:LV):Option LV:=
 (idx f Pr).bind fun x1=>
 (idx Ps (wrap .i64 (x1.toInt-Pt))).bind fun x2=>
 some [.bool x2.toBool]
theorem avz {Pr:Int} {Ps:LV} {Pt:Int} {f:LV} {r:Option LV} (h:agC CC Pr Ps Pt f=r):CC NO [V.int .i64 Pr,.list ak Ps,V.int .i64 Pt,.list ab f]=r:=bI (L:=bH) av h
section
variable {a:LV} {i:Nat} {l l':LV}
theorem avA:Tryz.prog.underlying ag=some (.slice ab):=by kernel_rfl
theorem agD:b8 Tryz.prog ag=false:=by kernel_rfl
theorem agE:parts Tryz.prog ag (.list ab l)=[.list ab l]:=by
 unfold parts;rw[agD];simp only[cond_false,ig,avA,V.eH]
theorem rb (h:a[i]? =some (.list ab l)):fm Tryz.prog ag a [(i,0)]=some (.list ab l):=by
 simp only[fm,h,Option.bind_some,agE];rfl
theorem GL (h:a[i]? =some (.list ab l)):setRow Tryz.prog l' ag a [(i,0)]=a.set i (.list ab l'):=by
 simp only[setRow,h,agE];simp only[List.getElem?_cons_zero,List.set_cons_zero,dv,agD,cond_false,V.TA]
theorem avB:Tryz.prog.underlying oP=some (.slice ak):=by kernel_rfl
theorem agF:b8 Tryz.prog oP=false:=by kernel_rfl
theorem agG:parts Tryz.prog oP (.list ak l)=[.list ak l]:=by
 unfold parts;rw[agF];simp only[cond_false,ig,avB,V.eH]
theorem agH (h:a[i]? =some (.list ak l)):fm Tryz.prog oP a [(i,0)]=some (.list ak l):=by
 simp only[fm,h,Option.bind_some,agG];rfl
theorem avC (h:a[i]? =some (.list ak l)):setRow Tryz.prog l' oP a [(i,0)]=a.set i (.list ak l'):=by
 simp only[setRow,h,agG];simp only[List.getElem?_cons_zero,List.set_cons_zero,dv,agF,cond_false,V.TA]
end
def Da.gT (m:Da) (x:Nat):List Nat:=(List.range m.n).map fun q=>m.nx q x
theorem Da.Ok.gT {m:Da} (h:m.Ok) {x:Nat} (hx:x<m.L):Tr m.n (m.gT x):=by
 refine ⟨by simp[Da.gT],fun y hy=> ?_⟩;obtain ⟨q,hq,rfl⟩:=ia.1 hy;exact h.lh (fK.1 hq) hx
theorem avD {m:Da} {x:Nat}:nS (m.gT x)=tab m.n fun q=>nV (m.nx q x):=by
 unfold Da.gT nS;rw[yX];rfl
def tZ (m:Da):LV:=[.agg [.int .i64 (m.st:Int),.list ak m.cG,.int .i64 0]]
section
variable {m:Da} (h:m.Ok) (mB:m.n≤32)
include h mB
theorem avE {a:Nat} (ha:a<m.L) {k1 k2:Int}:Loop (Po CC (m.n:Int) (a:Int) k1 k2 (m.n:Int) 0 (m.L:Int) (m.st:Int) m.cG m.cN) (0,tab m.L fun j=>if j<a then tV (m.gT j) else .list ab [])=some ((m.n:Int),false,tab m.L fun j=>if j<a+1 then tV (m.gT j) else .list ab []):=by
 have hl6:=h.l6;have cQ: ∀{q:Nat} {l:LV},(tab m.L fun j=>if j<a then tV (m.gT j) else if j=a then .list ab l else .list ab [])[a]? =some (.list ab l):=fun {q l}=>by rw[mz ha,dq,dp]
 refine (fI m.n (fun q=>((q:Int),(tab m.L fun j=>if j<a then tV (m.gT j) else if j=a then .list ab (tab q fun p=>nV (m.nx p a)) else .list ab []))) _ (fun q hq=> ?_) ?_) |> fun e=>by
  rw[show (tab m.L fun j=>if j<a then tV (m.gT j) else .list ab [])=tab m.L fun j=>if j<a then tV (m.gT j) else if j=a then .list ab (tab 0 fun p=>nV (m.nx p a)) else .list ab [] from c8 fun j _=>by
   by_cases c:j<a
   ·rw[aB c,aB c]
   ·rw[ax c,ax c];split<;>rfl]
  exact e
 ·simp only[Po,Jy,un,aM,CG,bm];have e1:=cQ (q:=q) (l:=tab q fun p=>nV (m.nx p a));have e2:a<(tab m.L fun j=>if j<a then tV (m.gT j) else if j=a then .list ab (tab q fun p=>nV (m.nx p a)) else V.list ab []).length:=by simpa using ha
  have G5:=h.lh hq ha;refine bT (bn hq) ((b7 e1).trans (bs (Da.Gy hq) ?_));rw[CU];refine bs (CV ha) (bs (by rw[Int.toNat_natCast];exact e1) (bT (cap (by simp;omega) (by omega)) (bT (o5 e2) (bT (by simp) ?_))));rw[bq (by omega),show wrap .i64 (0+(iV (m.nx q a)).toInt)=((m.nx q a:Nat):Int) from by show wrap .i64 (0+((m.nx q a:Nat):Int))=_;rw[sf]<;>omega,Int.toNat_natCast,lO];refine congrArg (fun t=>some (Sum.inl (((q+1:Nat):Int),t))) (c8 fun j _=> ?_);by_cases c:j=a
  ·subst c;rw[dp,dq,dp,V.eH,CX];rfl
  ·rw[ax c];by_cases c2:j<a
   ·rw[dp,dp]
   ·rw[dq,ax c,dq,ax c]
 ·simp only[Po,Jy,un];refine bF (aX (aw _)) ?_;rw[aX (aw _)];refine congrArg (fun t=>some (Sum.inr ((m.n:Int),false,t))) (c8 fun j _=> ?_);by_cases c:j=a
  ·subst c;rw[dq,dp,dp];unfold tV;rw[avD]
  ·by_cases c2:j<a
   ·rw[dp,dp]
   ·rw[dq,ax c,dq]
theorem agI:CC Gh (iW m [.int .i64 0])=some [.int .i64 0,.int .i64 (m.n:Int),.list ag (gV m.L m.gT),.list kD (tZ m)]:=by
 have hl6:=h.l6;have hs:=h.s;refine Zr ?_;unfold Rf;rw[Da.Gi,show wrap .i64 (0+(m.n:Int))=(m.n:Int) from by rw[sf]<;>omega];refine bF (cZ (by omega)) (bT (gG (by omega) (by omega)) ?_);rw[Int.toNat_natCast,yW];have l2:Loop (Pp CC (m.n:Int) (m.L:Int) 0 (m.L:Int) (m.st:Int) m.cG m.cN) (0,List.replicate m.L (V.list ab ([]:LV)))=some ((m.L:Int),false,gV m.L m.gT):=by
  rw[o6];refine (fI m.L (fun a=>((a:Int),(tab m.L fun j=>if j<a then tV (m.gT j) else .list ab []))) _ (fun a ha=> ?_) ?_)
  ·simp only[Pp,Jz,un];refine bT (bn ha) (bs (avE h mB ha) ?_);rw[bq (by omega)];rfl
  ·simp only[Pp,Jz,un];refine bF (aX (aw _)) ?_;rw[aX (aw _)];exact congrArg (fun t=>some (Sum.inr ((m.L:Int),false,t))) (c8 fun j hj=>aB hj)
 rw[show wrap .i64 (0+(m.st:Int))=(m.st:Int) from by rw[sf]<;>omega];exact bs l2 rfl
theorem avF {f:List Nat} (hf:Tr m.n f):CC NO [.int .i64 (m.st:Int),.list ak m.cG,.int .i64 0,.list ab (nS f)]=some [.bool (m.fin (f.getD m.st 0))]:=by
 have hs:=h.s;have wB:m.st<f.length:=by rw[hf.1];exact hs
 have h2:=hf.at wB;refine avz ?_;unfold agC;refine bs (iE wB) ?_;rw[show wrap .i64 ((nV f[m.st]).toInt-0)=((f[m.st]:Nat):Int) from by show wrap .i64 (((f[m.st]:Nat):Int)-0)=_;rw[sf]<;>omega,cE wB];exact bs (Da.CW h2) rfl
end
noncomputable def JA (C:af) (t t13:LV) (t14 t15:Int) (t24:LV) (t25 t26:Int) {β:Type} (kn:Int→Option β) (kr:((Int) ⊕ (Int×Bool))→Option β):Option β:=
 bif decide (t26<t25) then
  (idx t24 t26).bind fun x2=>
  bif decide ((x2.toInt:Int)<0) then
  kr (.inl 4)
  else
  bif decide ((x2.toInt:Int)≥(t.length:Int)) then
   kr (.inl 4)
  else
   kn (wrap .i64 (t26+1))
 else
  kr (.inr (t26,decide (t26<t25)))
noncomputable def WZ (C:af) (t t13:LV) (t14 t15:Int) (t24:LV) (t25:Int):=fun t26=>JA C t t13 t14 t15 t24 t25 t26 (fun y=>some (Sum.inl y)) (fun r=>some (Sum.inr r))
noncomputable def JB (C:af) (t t13:LV) (t14 t15:Int) {β:Type} (kn:Int→Option β) (kr:((Int) ⊕ (Int×Bool))→Option β):Option β:=
 bif decide (t15<t14) then
  (idx t13 t15).bind fun x1=>
  bif (x1.toList.length:Int) != (t.length:Int) then
  kr (.inl 4)
  else
  (Loop (WZ C t t13 t14 t15 x1.toList (x1.toList.length:Int)) 0).bind (fX (fun kO=>
   kr (.inl kO)) (un fun (nK:Int) (mr:Bool)=>
   kn (wrap .i64 (t15+1))))
 else
  kr (.inr (t15,decide (t15<t14)))
noncomputable def W0 (C:af) (t t13:LV) (t14:Int):=fun t15=>JB C t t13 t14 t15 (fun y=>some (Sum.inl y)) (fun r=>some (Sum.inr r))
noncomputable def agJ (C:af):cL:=bR 177 VH [EQ,EQ,EQ,EQ,EQ,EQ,H1] [[0],[1,2,3,4,5,6,0,0]] (@JA C) (bR 97 VI [EQ,EQ,EQ,H1] [[0],[1,2,3,0,0]] (@JB C) bH)
theorem avG (C:af):bA C (agJ C) 146 (Lp [1,1,1,0,1,0,0,1,1,0,0,1,1,1,0,0] 146):=bS VH [EQ,EQ,EQ,EQ,EQ,EQ,H1] [[0],[1,2,3,4,5,6,0,0]] (@JA C) (bu av)
theorem avH (C:af):bA C (agJ C) 146 (Lp [1,1,1,0,1,0,0] 146):=bS VI [EQ,EQ,EQ,H1] [[0],[1,2,3,0,0]] (@JB C) (bu (bB (avG C) av))
noncomputable def agK (C:af) (t:LV):Option LV:=
 bif decide ((t.length:Int)>400) then
  some [V.int .i64 3]
 else
  bif (t.length:Int)==0 then
  some [V.int .i64 4]
  else
  (Loop (W0 C t t (t.length:Int)) 0).bind (fX (fun j5=>
   some [V.int .i64 j5]) (un fun (oD:Int) (yg:Bool)=>
   some [V.int .i64 0]))
theorem avI {t:LV} {r:Option LV} (h:agK CC t=r):CC N3 [.list ag t]=r:=bI (bB (avH CC) av) h
noncomputable def JC (C:af) (t:LV) (g:Int) (row left t16:LV) (t17 t18:Int) (t29:LV) (t30 t31:Int) (t45:LV) (t46:Int) (oe:LV) (t47:Int) {β:Type} (kn:Int→Option β) (kr:((Bool) ⊕ (Int×Bool))→Option β):Option β:=
 bif decide (t47<t46) then
  (idx t45 t47).bind fun x8=>
  (idx left t47).bind fun x9=>
  (idx row x8.toInt).bind fun oK=>
  bif (x9.toInt:Int) != oK.toInt then
  kr (.inl false)
  else
  kn (wrap .i64 (t47+1))
 else
  kr (.inr (t47,decide (t47<t46)))
noncomputable def W3 (C:af) (t:LV) (g:Int) (row left t16:LV) (t17 t18:Int) (t29:LV) (t30 t31:Int) (t45:LV) (t46:Int) (oe:LV):=fun t47=>JC C t g row left t16 t17 t18 t29 t30 t31 t45 t46 oe t47 (fun y=>some (Sum.inl y)) (fun r=>some (Sum.inr r))
noncomputable def JD (C:af) (t:LV) (g:Int) (t16:LV) (t17 t18:Int) (t29:LV) (t30:Int) (oe:LV) (t31:Int) {β:Type} (kn:Int→Option β) (kr:((Bool) ⊕ (Int×Bool))→Option β):Option β:=
 bif decide (t31<t30) then
  (idx t29 t31).bind fun x4=>
  (idx x4.toList g).bind fun x5=>
  (idx t x5.toInt).bind fun x6=>
  (idx t g).bind fun x7=>
  (Loop (W3 C t g x4.toList x6.toList t16 t17 t18 t29 t30 t31 x7.toList (x7.toList.length:Int) oe) 0).bind (fX (fun (zQ:Bool)=>
   kr (.inl zQ)) (un fun (Mm:Int) (C6:Bool)=>
   kn (wrap .i64 (t31+1))))
 else
  kr (.inr (t31,decide (t31<t30)))
noncomputable def Pu (C:af) (t:LV) (g:Int) (t16:LV) (t17 t18:Int) (t29:LV) (t30:Int) (oe:LV):=fun t31=>JD C t g t16 t17 t18 t29 t30 oe t31 (fun y=>some (Sum.inl y)) (fun r=>some (Sum.inr r))
noncomputable def JE (C:af) (t t16:LV) (t17 t18:Int) (oe:LV) {β:Type} (kn:(Int×LV)→Option β) (kr:((Bool) ⊕ (Int×Bool×LV))→Option β):Option β:=
 bif decide (t18<t17) then
  (idx t16 t18).bind fun x1=>
  bif (decide (0≤x1.toInt))&&(decide (x1.toInt<(oe.length:Int))) then
  (oe[(x1.toInt:Int).toNat]?).bind fun x2=>
  bif x2.toBool then
   kn (wrap .i64 (t18+1),oe)
  else
   bif (decide (0≤x1.toInt))&&(decide (x1.toInt<(oe.length:Int))) then
   (oe[(x1.toInt:Int).toNat]?).bind fun x3=>
   (Loop (Pu C t x1.toInt t16 t17 t18 t (t.length:Int) (bm oe (x1.toInt) (.bool true))) 0).bind (fX (fun (wi:Bool)=>
    kr (.inl wi)) (un fun (Mo:Int) (zX:Bool)=>
    kn (wrap .i64 (t18+1),bm oe (x1.toInt) (.bool true))))
   else none
  else none
 else
  kr (.inr (t18,decide (t18<t17),oe))
noncomputable def Pv (C:af) (t t16:LV) (t17:Int):=un fun t18 oe=>JE C t t16 t17 t18 oe (fun y=>some (Sum.inl y)) (fun r=>some (Sum.inr r))
noncomputable def W4 (C:af):cL:=bR 193 VJ [EQ,EQ,EQ,EQ,EQ,EQ,EQ,EQ,EQ,EQ,EQ,EQ,H1,EQ] [[0],[1,2,3,4,5,6,7,8,9,10,11,12,0,0,14]] (@JC C) (bR 129 VK [EQ,EQ,EQ,EQ,EQ,EQ,EQ,H1,EQ] [[0],[1,2,3,4,5,6,7,0,0,9]] (@JD C) (bR 49 VM [EQ,EQ,EQ,H1,H1] [[0],[1,2,3,0,0,0]] (@JE C) bH))
theorem avJ (C:af):bA C (W4 C) 147 (Lp [1,1,0,1,0,0,1,1,0,0,1,1,1,1,0,0,1,1,0,0,1,1,1,0,0] 147):=bS VJ [EQ,EQ,EQ,EQ,EQ,EQ,EQ,EQ,EQ,EQ,EQ,EQ,H1,EQ] [[0],[1,2,3,4,5,6,7,8,9,10,11,12,0,0,14]] (@JC C) (bu av)
theorem avK (C:af):bA C (W4 C) 147 (Lp [1,1,0,1,0,0,1,1,0,0,1,1,1,1,0,0] 147):=bS VK [EQ,EQ,EQ,EQ,EQ,EQ,EQ,H1,EQ] [[0],[1,2,3,4,5,6,7,0,0,9]] (@JD C) (bu (bB (avJ C) av))
theorem avL (C:af):bA C (W4 C) 147 (Lp [1,1,0,1,0,0] 147):=bS VM [EQ,EQ,EQ,H1,H1] [[0],[1,2,3,0,0,0]] (@JE C) (bu (bB (avK C) av))
noncomputable def agL (C:af) (t mK:LV):Option LV:=
 bif (decide (0≤(t.length:Int)))&&((decide ((t.length:Int)≤(t.length:Int)))&&(Nat.ble (((t.length:Int).toNat)*1) aY)) then
  (Loop (Pv C t mK (mK.length:Int)) (0,List.replicate ((t.length:Int).toNat) (V.bool false))).bind (fX (fun (Pw:Bool)=>
   some [.bool Pw]) (un fun W5=>un fun (G1:Bool) (aAG:LV)=>
   some [.bool true]))
 else none
theorem avM {t mK:LV} {r:Option LV} (h:agL CC t mK=r):CC N4 [.list ag t,.list ab mK]=r:=bI (bB (avL CC) av) h
noncomputable def agM (C:af) (x:Int) (aI aQ:LV):Option LV:=
 aM aI x fun x1=>
 bif !x1.toBool then
  aM aI x fun x2=>
  bif Nat.ble ((aQ.length+([V.int .i64 x]:LV).length)*8) aY then
  some [.list ak (bm aI x (.bool true)),.list ab (aQ++([V.int .i64 x]:LV))]
  else none
 else
  some [.list ak aI,.list ab aQ]
theorem avN {x:Int} {aI aQ:LV} {r:Option LV} (h:agM CC x aI aQ=r):CC sw [V.int .i64 x,.list ak aI,.list ab aQ]=r:=bI (L:=bH) av h
noncomputable def JF (C:af) (t:LV) (ly x t17 t18:Int) (t45:LV) (t46:Int) (qE:LV) (t47:Int) (aQ aW:LV) {β:Type} (kn:(Int×LV×LV)→Option β) (kr:(Int×Bool×LV×LV)→Option β):Option β:=
 bif decide (t47<t46) then
  (idx t45 t47).bind fun x4=>
  (idx t x).bind fun x5=>
  (idx x5.toList x4.toInt).bind fun x6=>
  (C sw [V.int .i64 x6.toInt,.list ak aQ,.list ab aW]).bind fun r7=>
  (idx t x4.toInt).bind fun x8=>
  (idx x8.toList x).bind fun x9=>
  (C sw [V.int .i64 x9.toInt,.list ak ((V.nth r7 0).toList),.list ab ((V.nth (r7.drop 1) 0).toList)]).bind fun e7=>
  kn (wrap .i64 (t47+1),(V.nth e7 0).toList,(V.nth (e7.drop 1) 0).toList)
 else
  kr (t47,decide (t47<t46),aQ,aW)
noncomputable def JG (C:af) (t:LV) (ly x t17 t18:Int) (t45:LV) (t46:Int) (qE:LV):=un fun t47=>un fun aQ aW=>JF C t ly x t17 t18 t45 t46 qE t47 aQ aW (fun y=>some (Sum.inl y)) (fun r=>some (Sum.inr r))
noncomputable def Px (C:af) (t:LV) (t17 t18:Int) (qE:LV) (ly:Int) (aQ aW:LV) {β:Type} (kn:(Int×LV×LV)→Option β) (kr:(Int×Bool×LV×LV)→Option β):Option β:=
 bif decide (ly<(aW.length:Int)) then
  aM aW ly fun x3=>
  bif (decide (0≤(wrap .i64 (ly+1))))&&(decide ((wrap .i64 (ly+1))≤(aW.length:Int))) then
  (Loop (JG C t ly x3.toInt t17 t18 ((aW.drop 0).take (((wrap .i64 (ly+1):Int).toNat)-0)) (((wrap .i64 (ly+1):Int).toNat)-0:Int) qE) (0,aQ,aW)).bind (un fun zQ=>un fun (Mm:Bool)=>un fun (Ek:LV) (qk:LV)=>
   kn (wrap .i64 (ly+1),Ek,qk))
  else none
 else
  kr (ly,decide (ly<(aW.length:Int)),aQ,aW)
noncomputable def Py (C:af) (t:LV) (t17 t18:Int) (qE:LV):=un fun ly=>un fun aQ aW=>Px C t t17 t18 qE ly aQ aW (fun y=>some (Sum.inl y)) (fun r=>some (Sum.inr r))
noncomputable def JH (C:af) (t:LV) (t17 ly t18:Int) (qE aQ aW:LV) {β:Type} (kn:(Int×Int×LV×LV×LV)→Option β) (kr:(Int×Int×Bool×LV×LV×LV)→Option β):Option β:=
 bif decide (t18<t17) then
  aM aQ t18 fun x1=>
  bif x1.toBool then
  kn (ly,wrap .i64 (t18+1),qE,aQ,aW)
  else
  bif Nat.ble ((qE.length+([V.int .i64 t18]:LV).length)*8) aY then
   (C sw [V.int .i64 t18,.list ak aQ,.list ab aW]).bind fun r2=>
   (Loop (Py C t t17 t18 (qE++([V.int .i64 t18]:LV))) (ly,(V.nth r2 0).toList,(V.nth (r2.drop 1) 0).toList)).bind (un fun avO=>un fun (zX:Bool)=>un fun (qj:LV) (tp:LV)=>
    kn (avO,wrap .i64 (t18+1),qE++([V.int .i64 t18]:LV),qj,tp))
  else none
 else
  kr (ly,t18,decide (t18<t17),qE,aQ,aW)
noncomputable def Pz (C:af) (t:LV) (t17:Int):=un fun ly=>un fun t18=>un fun qE=>un fun aQ aW=>JH C t t17 ly t18 qE aQ aW (fun y=>some (Sum.inl y)) (fun r=>some (Sum.inr r))
noncomputable def W6 (C:af):cL:=bR 241 VN [EQ,EQ,EQ,EQ,EQ,EQ,EQ,H1,EQ,H1,H1] [[1,2,3,4,5,6,7,0,0,9,0,0]] (@JF C) (bR 177 VO [EQ,H1,EQ,EQ,EQ,H1,H1] [[1,0,3,4,0,5,0,0]] (@Px C) (bR 97 VP [EQ,H1,EQ,H1,H1,H1,H1] [[1,0,3,0,0,0,0,0]] (@JH C) bH))
theorem avP (C:af):bA C (W6 C) 148 (Lp [1,1,1,1,1,0,1,0,0,1,1,0,0,1,1,1,1,0,0,1,0,0,1,1,0,0] 148):=bS VN [EQ,EQ,EQ,EQ,EQ,EQ,EQ,H1,EQ,H1,H1] [[1,2,3,4,5,6,7,0,0,9,0,0]] (@JF C) (bu av)
theorem avQ (C:af):bA C (W6 C) 148 (Lp [1,1,1,1,1,0,1,0,0,1,1,0,0,1,1,1,1,0,0] 148):=bS VO [EQ,H1,EQ,EQ,EQ,H1,H1] [[1,0,3,4,0,5,0,0]] (@Px C) (bu (bB (avP C) av))
theorem avR (C:af):bA C (W6 C) 148 (Lp [1,1,1,1,1,0,1,0,0] 148):=bS VP [EQ,H1,EQ,H1,H1,H1,H1] [[1,0,3,0,0,0,0,0]] (@JH C) (bu (bB (avQ C) av))
noncomputable def agN (C:af) (t:LV):Option LV:=
 bif (decide (0≤(t.length:Int)))&&((decide ((t.length:Int)≤(t.length:Int)))&&(Nat.ble (((t.length:Int).toNat)*1) aY)) then
  (Loop (Pz C t (t.length:Int)) (0,0,([]:LV),List.replicate ((t.length:Int).toNat) (V.bool false),([]:LV))).bind (un fun aAH=>un fun L4=>un fun (aaf:Bool)=>un fun (avS:LV)=>un fun (sg:LV) (tt:LV)=>
   some [.list ab avS])
 else none
theorem avT {t:LV} {r:Option LV} (h:agN CC t=r):CC N5 [.list ag t]=r:=bI (bB (avR CC) av) h
noncomputable def agO (C:af) (t:LV):Option LV:=
 (C N3 [.list ag t]).bind fun r1=>
 bif (((V.nth r1 0).toInt):Int) != 0 then
  some [V.int .i64 ((V.nth r1 0).toInt)]
 else
  (C N5 [.list ag t]).bind fun r2=>
  (C N4 [.list ag t,.list ab ((V.nth r2 0).toList)]).bind fun r3=>
  bif !((V.nth r3 0).toBool) then
  some [V.int .i64 5]
  else
  some [V.int .i64 0]
theorem avU {t:LV} {r:Option LV} (h:agO CC t=r):CC HU [.list ag t]=r:=bI (L:=bH) av h
noncomputable def agP (C:af) (t:LV):Option LV:=
 (C HU [.list ag t]).bind fun r1=>
 some [.bool ((((V.nth r1 0).toInt):Int)==0)]
theorem avV {t:LV} {r:Option LV} (h:agP CC t=r):CC N6 [.list ag t]=r:=bI (L:=bH) av h
theorem p7 {n i:Nat} {g:Nat→V} (hi:i<n):idx (V.list ab (tab n g)).toList (i:Int)=some (g i):=by rw[V.eH];exact qV hi
def tG (K:Nat) (mul:Nat→Nat→Nat):LV:=tab K fun i=> .list ab (tab K fun j=>nV (mul i j))
structure Tb (K:Nat) (mul:Nat→Nat→Nat):Prop where
 k1:1≤K
 k4:K≤400
 lt: ∀i j,i<K→j<K→mul i j<K
def jT (K:Nat) (M:List Nat):LV:=tab K fun i=> .bool (decide (i∈M))
structure nR (K:Nat) (M:List Nat):Prop where
 nd:M.Nodup
 lt: ∀x∈M,x<K
theorem nR.le {K:Nat} {M:List Nat} (h:nR K M):M.length≤K:=by
 have:=yV (l₂:=List.range K) h.nd fun x hx=>fK.2 (h.lt x hx);simpa using this
theorem nR.add {K:Nat} {M:List Nat} (h:nR K M) {x:Nat} (hx:x<K):nR K (cO M x):=⟨V6 h.nd,fun y hy=>by
 unfold cO at hy;split at hy
 ·exact h.lt y hy
 ·rcases fj.1 hy with hy|hy
  ·exact h.lt y hy
  ·rw[fS.1 hy];exact hx⟩
theorem W7 {M:List Nat} {x y:Nat}:y∈cO M x↔y∈M∨y=x:=by
 unfold cO;split
 ·exact ⟨.inl,fun h=>h.elim id fun e=>by rw[e];assumption⟩
 ·rw[fj,fS]
theorem avW {K:Nat} {M:List Nat} {x:Nat} (h:x∉M):(jT K M).set x (.bool true)=jT K (cO M x):=by
 unfold jT;rw[lO];refine c8 fun j _=> ?_;by_cases c:j=x
 ·rw[aB c,ca (W7.2 (.inr c))]
 ·rw[ax c];by_cases c2:j∈M
  ·rw[ca c2,ca (W7.2 (.inl c2))]
  ·rw[cZ c2,cZ fun h=>(W7.1 h).elim c2 c]
section
variable {K:Nat} {mul:Nat→Nat→Nat} (h:Tb K mul)
theorem sc:(tG K mul).length=K:=eG
theorem nL {i:Nat} (hi:i<K):idx (tG K mul) (i:Int)=some (.list ab (tab K fun j=>nV (mul i j))):=qV hi
include h
theorem avX:CC N3 [.list ag (tG K mul)]=some [.int .i64 0]:=by
 have h1:=h.k1;have h4:=h.k4;refine avI ?_;unfold agK;rw[sc];refine bF (cZ (by omega)) (bF (by simp;omega) (bs (fI K (fun i=>(i:Int)) (.inr ((K:Int),false)) (fun i hi=> ?_) ?_) rfl))
 ·simp only[W0,JB];refine bT (bn hi) (bs (nL hi) ?_);rw[V.eH,eG,sc];refine bF (by simp) (bs (fI K (fun j=>(j:Int)) (.inr ((K:Int),false)) (fun j hj=> ?_) ?_) ?_)
  ·simp only[WZ,JA];rw[sc];refine bT (bn hj) (bs (qV hj) (bF xV (bF (Em (h.lt i j hi hj)) ?_)));rw[bq (by omega)]
  ·simp only[WZ,JA];rw[aX (aw _)];rfl
  ·rw[bq (by omega)];rfl
 ·simp only[W0,JB];rw[aX (aw _)];rfl
omit h in
theorem JI {M:List Nat} {x:Nat} (hx:x<K):(jT K M)[x]? =some (.bool (decide (x∈M))):=mz hx
omit h in
theorem W8 {M:List Nat} (hM:nR K M) (h4:K≤400) {x:Nat} (hx:x<K):CC sw [.int .i64 (x:Int),.list ak (jT K M),.list ab (nS M)]=some [.list ak (jT K (cO M x)),.list ab (nS (cO M x))]:=by
 have hl:=hM.le;refine avN ?_;unfold agM;by_cases c:x∈M
 ·refine (b7 (JI hx)).trans (bF (by simp[c]) ?_)
  rw[show cO M x=M by rw[cO,aB c]]
 ·refine (b7 (JI hx)).trans (bT (by simp[c]) ((b7 (JI hx)).trans (bT (cap (by rw[dC];simp;omega) (by omega)) ?_)))
  rw[show bm (jT K M) (x:Int) (.bool true)=jT K (cO M x) from avW c,show cO M x=M++[x] by rw[cO,ax c]];simp[nS,nV]
theorem avY: ∃G:List Nat,CC N5 [.list ag (tG K mul)]=some [.list ab (nS G)]∧(∀g∈G,g<K)∧G.length≤K:=by
 have h1:=h.k1;have h4:=h.k4;have l1: ∀{M0:List Nat} {k x:Nat} {a b c:Int} {d:LV},nR K M0→k<M0.length→x<K→∃M,nR K M∧M0 <+: M∧Loop (JG CC (tG K mul) a (x:Int) b c (((nS M0).drop 0).take ((((k+1:Nat):Int)).toNat-0)) ((((((k+1:Nat):Int)).toNat)-0:Int)) d) (0,jT K M0,nS M0)=some (((k+1:Nat):Int),false,jT K M,nS M):=by
  intro M0 k x a b c d JJ hk hx;have hle:=JJ.le;rw[Int.toNat_natCast,Nat.sub_zero,xm,Int.sub_zero,show (nS M0).take (k+1)=nS (M0.take (k+1)) by simp[nS,List.map_take]];have key:=lN (step:=JG CC (tG K mul) a (x:Int) b c (nS (M0.take (k+1))) ((k+1:Nat):Int) d) (fun i y=> ∃M,y=((i:Int),jT K M,nS M)∧nR K M∧M0 <+: M) (fun r=> ∃M,r=(((k+1:Nat):Int),false,jT K M,nS M)∧nR K M∧M0 <+: M) (k+1) 0 (0,jT K M0,nS M0) (fun i _ hi y hy=> ?_) (fun y hy=> ?_) ⟨M0,rfl,JJ,sM _⟩
  ·obtain ⟨r,e,M,rfl,hM,hp⟩:=key;exact ⟨M,hM,hp,e⟩
  ·obtain ⟨M,rfl,hM,hp⟩:=hy;have bU:i<(M0.take (k+1)).length:=by rw[mP];omega
   have Al:(M0.take (k+1))[i]<K:=JJ.lt _ (List.mem_of_mem_take (dc bU));have a1:=h.lt _ _ hx Al;have a2:=h.lt _ _ Al hx;simp only[JG,JF,un];refine ⟨_,bT (bn (by omega)) (bs (iE bU) (bs (nL hx) (bs (p7 Al) (bs (W8 hM h4 a1) (bs (nL Al) (bs (p7 hx) (bs (W8 (hM.add a1) h4 a2) rfl))))))),_,?_,(hM.add a1).add a2,hp.trans ((AZ _ _).trans (AZ _ _))⟩;rw[bq (by omega)];rfl
  ·obtain ⟨M,rfl,hM,hp⟩:=hy;simp only[JG,JF,un];refine ⟨_,bF (aX (by omega)) rfl,M,?_,hM,hp⟩;rw[aX (by omega),dB]
 have l2: ∀{M0:List Nat} {k:Nat} {a b:Int} {d:LV},nR K M0→k≤M0.length→∃k' M,nR K M∧k'≤M.length∧M0 <+: M∧Loop (Py CC (tG K mul) a b d) ((k:Int),jT K M0,nS M0)=some ((k':Int),false,jT K M,nS M):=by
  intro M0 k a b d JJ hk;have key:=Lt (step:=Py CC (tG K mul) a b d) (fun y=> ∃(k:Nat) (M:List Nat),y=((k:Int),jT K M,nS M)∧nR K M∧k≤M.length∧M0 <+: M) (fun y=>1000-y.1.toNat) (fun r=> ∃(k:Nat) (M:List Nat),r=((k:Int),false,jT K M,nS M)∧nR K M∧k≤M.length∧M0 <+: M) (fun y hy=> ?_) ((k:Int),jT K M0,nS M0) ⟨k,M0,rfl,JJ,hk,sM _⟩
  ·obtain ⟨r,e,k',M,rfl,hM,dK,hp⟩:=key;exact ⟨k',M,hM,dK,hp,e⟩
  ·obtain ⟨k,M,rfl,hM,hk,hp⟩:=hy;have hle:=hM.le;simp only[Py,Px,un,aM];rw[dC];by_cases c:k<M.length
   ·obtain ⟨M',W9,hp',e⟩:=l1 (a:=(k:Int)) (b:=a) (c:=b) (d:=d) hM c (hM.lt _ (dc c));refine .inl ⟨((k+1:Nat),jT K M',nS M'),bT (bn c) ?_,⟨k+1,M',rfl,W9,by have:=hp'.length_le;omega,hp.trans hp'⟩,by simp only;omega⟩;refine ((congrArg (fun n:Nat=>bif decide (0≤(k:Int))&&decide ((k:Int)<(n:Int)) then _ else none) dC.symm)).trans ((b7 (yf c)).trans ?_)
    rw[bq (by omega)];exact bT (kh.2 ⟨ca (by omega),ca (by omega)⟩) (bs e rfl)
   ·refine .inr ⟨_,bF (aX (by omega)) rfl,k,M,?_,hM,hk,hp⟩;rw[aX (by omega)]
 have key:=lN (step:=Pz CC (tG K mul) (K:Int)) (fun i y=> ∃(k:Nat) (G M:List Nat),y=((k:Int),(i:Int),nS G,jT K M,nS M)∧nR K M∧k≤M.length∧(∀g∈G,g<K)∧G.length≤i) (fun r=> ∃(k:Nat) (G M:List Nat),r=((k:Int),(K:Int),false,nS G,jT K M,nS M)∧(∀g∈G,g<K)∧G.length≤K) K 0 (0,0,[],jT K [],[]) (fun i _ hi y hy=> ?_) (fun y hy=> ?_) ⟨0,[],[],rfl,⟨by simp,fun x hx=>(by cases hx)⟩,aw _,fun g hg=>(by cases hg),aw _⟩
 ·obtain ⟨r,e,k,G,M,rfl,hG,PA⟩:=key;refine ⟨G,avT ?_,hG,PA⟩;unfold agN;rw[sc];refine bT (gG (by omega) (by omega)) ?_;rw[Int.toNat_natCast,o6,show (tab K fun _=>V.bool false)=jT K [] from c8 fun j _=>by simp];exact bs e rfl
 ·obtain ⟨k,G,M,rfl,hM,hk,hG,PA⟩:=hy;have ye:i<K:=by omega
  simp only[Pz,JH,un,aM];by_cases c:i∈M
  ·refine ⟨_,bT (bn ye) ((b7 (JI ye)).trans (bT (by simp[c]) rfl)),k,G,M,?_,hM,hk,hG,by omega⟩;rw[bq (by omega)]
  ·obtain ⟨k',M',W9,dK,_,e⟩:=l2 (k:=k) (a:=(K:Int)) (b:=(i:Int)) (d:=nS (G++[i])) (hM.add ye) (by have:=(AZ M i).length_le;omega);have Lk:nS G++[V.int .i64 (i:Int)]=nS (G++[i]):=by simp[nS,nV]
   refine ⟨((k':Int),((i+1:Nat):Int),nS (G++[i]),jT K M',nS M'),bT (bn ye) ((b7 (JI ye)).trans (bF (by simp[c]) (bT (cap (by rw[dC];simp;omega) (by omega)) (bs (W8 hM h4 ye) ?_)))),k',G++[i],M',rfl,W9,dK,fun g hg=> ?_,by simp;omega⟩
   ·rw[Lk];refine bs e ?_;rw[bq (by omega)];rfl
   ·rcases fj.1 hg with hg|hg
    ·exact hG g hg
    ·rw[fS.1 hg];exact ye
 ·obtain ⟨k,G,M,rfl,hM,hk,hG,PA⟩:=hy;rw[dB] at*
  simp only[Pz,JH,un,aM];refine ⟨_,bF (aX (aw _)) rfl,k,G,M,?_,hG,PA⟩;rw[aX (aw _)]
section
variable (ha: ∀i j k,i<K→j<K→k<K→mul (mul i j) k=mul i (mul j k))
include ha
theorem avZ {G:List Nat} (hG: ∀g∈G,g<K) (hl:G.length≤K):CC N4 [.list ag (tG K mul),.list ab (nS G)]=some [.bool true]:=by
 have h4:=h.k4;have l2: ∀{g:Nat} {a b:Int} {c d:LV},g<K→Loop (Pu CC (tG K mul) (g:Int) c a b (tG K mul) (K:Int) d) 0=some (.inr ((K:Int),false)):=by
  intro g a b c d hg;refine fI K (fun x=>(x:Int)) _ (fun x hx=> ?_) ?_
  ·have h1:=h.lt _ _ hx hg;simp only[Pu,JD];refine bT (bn hx) (bs (nL hx) (bs (p7 hg) (bs (nL h1) (bs (nL hg) ?_))));rw[V.eH,V.eH,V.eH,eG];refine bs (fI K (fun y=>(y:Int)) (.inr ((K:Int),false)) (fun y hy=> ?_) ?_) ?_
   ·simp only[W3,JC];refine bT (bn hy) (bs (qV hy) (bs (qV hy) (bs (qV (h.lt _ _ hg hy)) (bF ?_ ?_))))
    ·show (((mul (mul x g) y:Nat):Int) != ((mul x (mul g y):Nat):Int))=false;rw[ha _ _ _ hx hg hy];simp
    ·rw[bq (by omega)]
   ·simp only[W3,JC];rw[aX (aw _)];rfl
   ·rw[bq (by omega)];rfl
  ·simp only[Pu,JD];rw[aX (aw _)];rfl
 refine avM ?_;unfold agL;rw[sc,dC];refine bT (gG (by omega) (by omega)) ?_;rw[Int.toNat_natCast];have key:=lN (step:=Pv CC (tG K mul) (nS G) (G.length:Int)) (fun i y=> ∃b:LV,y=((i:Int),b)∧b.length=K∧∀v∈b,∃c,v= .bool c) (fun r=> ∃b:LV,r= .inr ((G.length:Int),false,b)) G.length 0 (0,List.replicate K (V.bool false)) (fun i _ hi y hy=> ?_) (fun y hy=> ?_) ⟨_,rfl,by simp,fun v hv=>⟨false,(List.mem_replicate.1 hv).2⟩⟩
 ·obtain ⟨r,e,b,rfl⟩:=key;exact bs e rfl
 ·obtain ⟨b,rfl,hb,hv⟩:=hy;have bU:i<G.length:=by omega
  have hg:=hG _ (dc bU);have Xa:G[i]<b.length:=by omega
  obtain ⟨c,hc⟩:=hv _ (dc Xa);simp only[Pv,JE,un];have e0:b[((nV G[i]).toInt).toNat]? =some (.bool c):=by
   show b[G[i]]? =_;rw[bY Xa,hc]
  have e1:((decide (0≤(nV G[i]).toInt))&&(decide ((nV G[i]).toInt<(b.length:Int))))=true:=o5 Xa;cases c with
  | true=>
   refine ⟨_,bT (bn bU) (bs (iE bU) (bT e1 (bs e0 (bT rfl rfl)))),b,?_,hb,hv⟩;rw[bq (by omega)]
  | false=>
   refine ⟨(((i+1:Nat):Int),b.set G[i] (.bool true)),bT (bn bU) (bs (iE bU) (bT e1 (bs e0 (bF rfl (bT e1 (bs e0 ?_)))))),_,rfl,by simp[hb],fun v ml=> ?_⟩
   ·rw[sc];refine bs (l2 hg) ?_;rw[bq (by omega)];rfl
   ·rcases EL ml with ml|ml
    ·exact hv v ml
    ·exact ⟨true,ml⟩
 ·obtain ⟨b,rfl,hb,hv⟩:=hy;simp only[Pv,JE,un];refine ⟨_,bF (aX (by omega)) rfl,b,?_⟩;rw[aX (by omega),dB]
theorem Q5:CC HU [.list ag (tG K mul)]=some [.int .i64 0]:=by
 obtain ⟨G,e,hG,hl⟩:=avY h;refine avU ?_;unfold agO;exact bs (avX h) (bF rfl (bs e (bs (avZ h ha hG hl) (bF rfl rfl))))
theorem av0:CC N6 [.list ag (tG K mul)]=some [.bool true]:=by
 refine avV ?_;unfold agP;exact bs (Q5 h ha) rfl
end
end
noncomputable def FK (C:af) (table:LV) (x n e:Int) {β:Type} (kn:Int→Option β) (kr:(Int×Bool)→Option β):Option β:=
 (idx table e).bind fun x1=>
 (idx x1.toList e).bind fun x2=>
 bif (x2.toInt:Int) != e then
  (idx table e).bind fun x3=>
  (idx x3.toList x).bind fun x4=>
  kn x4.toInt
 else
  kr (e,(x2.toInt:Int) != e)
noncomputable def Cw (C:af) (table:LV) (x n:Int):=fun e=>FK C table x n e (fun y=>some (Sum.inl y)) (fun r=>some (Sum.inr r))
noncomputable def Xb (C:af) (table:LV) (e g y:Int) {β:Type} (kn:Int→Option β) (kr:(Int×Bool)→Option β):Option β:=
 (idx table y).bind fun x9=>
 (idx x9.toList g).bind fun oK=>
 bif (oK.toInt:Int) != e then
  (idx table y).bind fun qD=>
  (idx qD.toList g).bind fun lx=>
  kn lx.toInt
 else
  kr (y,(oK.toInt:Int) != e)
noncomputable def av1 (C:af) (table:LV) (e g:Int):=fun y=>Xb C table e g y (fun y=>some (Sum.inl y)) (fun r=>some (Sum.inr r))
noncomputable def FL (C:af) (table:LV) (x t54 y t55:Int) {β:Type} (kn:(Int×Int)→Option β) (kr:(Int×Int×Bool)→Option β):Option β:=
 bif decide (t55<t54) then
  (idx table y).bind fun CY=>
  (idx CY.toList x).bind fun CZ=>
  kn (CZ.toInt,wrap .i64 (t55+1))
 else
  kr (y,t55,decide (t55<t54))
noncomputable def Li (C:af) (table:LV) (x t54:Int):=un fun y t55=>FL C table x t54 y t55 (fun y=>some (Sum.inl y)) (fun r=>some (Sum.inr r))
noncomputable def Xc (C:af):cL:=bR 33 VU [EQ,EQ,EQ,H1] [[1,2,3,0,0]] (@FK C) (bR 113 VV [EQ,EQ,H1,EQ] [[1,2,0,4,0]] (@Xb C) (bR 177 VW [EQ,EQ,H1,EQ,H1] [[1,2,0,4,0,0]] (@FL C) bH))
theorem av2 (C:af):bA C (Xc C) 157 (Lp [1,1,0,0,0] 157):=bS VU [EQ,EQ,EQ,H1] [[1,2,3,0,0]] (@FK C) (bu av)
theorem av3 (C:af):bA C (Xc C) 157 (Lp [1,1,1,1,0,1,0,1,0,0,0] 157):=bS VV [EQ,EQ,H1,EQ] [[1,2,0,4,0]] (@Xb C) (bu av)
theorem av4 (C:af):bA C (Xc C) 157 (Lp [1,1,1,1,1,0,1,0,0] 157):=bS VW [EQ,EQ,H1,EQ,H1] [[1,2,0,4,0,0]] (@FL C) (bu av)
noncomputable def YK (C:af) (table:LV) (x n:Int):Option LV:=
 (Loop (Cw C table x n) x).bind (un fun (xj:Int) (j5:Bool)=>
  bif decide (n<0) then
   (idx table xj).bind fun x7=>
   (idx x7.toList x).bind fun x8=>
   (Loop (av1 C table xj x8.toInt) xj).bind (un fun (av5:Int) (wi:Bool)=>
    some [V.int .i64 av5])
  else
   (Loop (Li C table x n) (xj,0)).bind (un fun av6=>un fun (W5:Int) (G1:Bool)=>
    some [V.int .i64 av6]))
theorem ai9 {table:LV} {x n:Int} {r:Option LV} (h:YK CC table x n=r):CC Lh [.list ag table,V.int .i64 x,V.int .i64 n]=r:=bI (bB (av2 CC) (bB (av3 CC) (bB (av4 CC) av))) h
def pw (mul:Nat→Nat→Nat) (x:Nat):Nat→Nat
 | 0=>x
 | k+1=>mul (pw mul x k) x
theorem av7 {K:Nat} {f:Nat→Nat} (h: ∀i,f i<K): ∃i j,i<j∧f i=f j:=by
 refine Classical.byContradiction fun hn=> ?_;have bp: ∀i j,i<j→f i≠f j:=fun i j zw e=>hn ⟨i,j,zw,e⟩;have hd:((List.range (K+1)).map f).Nodup:=by
  refine List.pairwise_map.2 (List.nodup_range.imp_of_mem fun {a b} _ _ xQ e=> ?_);rcases Nat.lt_or_gt_of_ne xQ with c|c
  ·exact bp a b c e
  ·exact bp b a c e.symm
 have:=yV (l₂:=List.range K) hd fun x hx=>by
  obtain ⟨i,_,rfl⟩:=ia.1 hx;exact fK.2 (h i)
 simp at this;omega
section
variable {K:Nat} {mul:Nat→Nat→Nat} (h:Tb K mul) (ha: ∀i j k,i<K→j<K→k<K→mul (mul i j) k=mul i (mul j k)) {x:Nat} (hx:x<K)
include h hx
theorem vY: ∀k,pw mul x k<K
 | 0=>hx
 | k+1=>h.lt _ _ (vY k) hx
include ha
theorem Lf (m:Nat): ∀n,mul (pw mul x m) (pw mul x n)=pw mul x (m+n+1)
 | 0=>rfl
 | n+1=>by
  show mul (pw mul x m) (mul (pw mul x n) x)=mul (pw mul x (m+n+1)) x;rw[←ha _ _ _ (vY h hx m) (vY h hx n) hx,Lf m n]
theorem ai8: ∃k,mul (pw mul x k) (pw mul x k)=pw mul x k:=by
 obtain ⟨i,j,zw,e⟩:=av7 (vY h hx);have step: ∀n,pw mul x (i+n)=pw mul x (j+n):=fun n=>by
  induction n with
  | zero=>exact e
  | succ n ih=>exact congrArg (fun y=>mul y x) ih
 have QQ: ∀c m,i≤m→pw mul x (m+(j-i)*c)=pw mul x m:=fun c=>by
  induction c with
  | zero=>intro m _;rw[Nat.mul_zero,Nat.add_zero]
  | succ c ih=>
   intro m hm;have h1:=step (m-i);rw[show i+(m-i)=m by omega,show j+(m-i)=m+(j-i) by omega] at h1;rw[h1,←ih (m+(j-i)) (by omega),Nat.mul_succ,xn,Nat.add_comm (j-i)]
 have hp:0<(j-i)*(i+1):=Nat.mul_pos (by omega) (by omega);have rj:i+1≤(j-i)*(i+1):=Nat.le_mul_of_pos_left _ (by omega);refine ⟨(j-i)*(i+1)-1,?_⟩;rw[Lf h ha hx,show (j-i)*(i+1)-1+((j-i)*(i+1)-1)+1=((j-i)*(i+1)-1)+(j-i)*(i+1) by omega];exact QQ (i+1) _ (by omega)
end
noncomputable def FM (C:af) (table t18:LV) (t19 t20:Int) (t24:LV) (t25 t26 t48:Int) (fQ:LV) (fR:Int) (fi e9 gO gP iI iJ iK iM gY gZ g0:LV) (iD dx t49:Int) (lists:LV) {β:Type} (kn:(Int×LV)→Option β) (kr:(Int×Bool×LV)→Option β):Option β:=
 bif decide (t49<t48) then
  (C Lh [.list ag table,V.int .i64 t49,V.int .i64 dx]).bind fun r3=>
  aM lists t49 fun x4=>
  kn (wrap .i64 (t49+1),bm lists t49 (V.int .i64 ((V.nth r3 0).toInt)))
 else
  kr (t49,decide (t49<t48),lists)
noncomputable def Lj (C:af) (table t18:LV) (t19 t20:Int) (t24:LV) (t25 t26 t48:Int) (fQ:LV) (fR:Int) (fi e9 gO gP iI iJ iK iM gY gZ g0:LV) (iD dx:Int):=un fun t49 lists=>FM C table t18 t19 t20 t24 t25 t26 t48 fQ fR fi e9 gO gP iI iJ iK iM gY gZ g0 iD dx t49 lists (fun y=>some (Sum.inl y)) (fun r=>some (Sum.inr r))
noncomputable def FP (C:af) (table t18:LV) (t19 t20:Int) (t24:LV) (t25:Int) (fQ:LV) (fR t26:Int) (fi e9 gO gP iI iJ iK iM gY gZ g0:LV) {β:Type} (kn:(Int×LV×LV×LV×LV×LV×LV×LV×LV×LV×LV×LV)→Option β) (kr:(Int×Bool×LV×LV×LV×LV×LV×LV×LV×LV×LV×LV×LV)→Option β):Option β:=
 bif decide (t26<t25) then
  (idx t24 t26).bind fun x2=>
  bif (((x2.cell 0).toInt):Int) != 3 then
  kn (wrap .i64 (t26+1),fi,e9,gO,gP,iI,iJ,iK,iM,gY,gZ,g0)
  else
  bif (decide (0≤(wrap .i64 (((x2.cell 1).toInt)+1))))&&(decide ((wrap .i64 (((x2.cell 1).toInt)+1))<11)) then
   bif (Nat.beq (2+(((wrap .i64 (((x2.cell 1).toInt)+1):Int).toNat)*1)) 2||(Nat.beq (2+(((wrap .i64 (((x2.cell 1).toInt)+1):Int).toNat)*1)) 3||(Nat.beq (2+(((wrap .i64 (((x2.cell 1).toInt)+1):Int).toNat)*1)) 4||(Nat.beq (2+(((wrap .i64 (((x2.cell 1).toInt)+1):Int).toNat)*1)) 5||(Nat.beq (2+(((wrap .i64 (((x2.cell 1).toInt)+1):Int).toNat)*1)) 6||(Nat.beq (2+(((wrap .i64 (((x2.cell 1).toInt)+1):Int).toNat)*1)) 7||(Nat.beq (2+(((wrap .i64 (((x2.cell 1).toInt)+1):Int).toNat)*1)) 8||(Nat.beq (2+(((wrap .i64 (((x2.cell 1).toInt)+1):Int).toNat)*1)) 9||(Nat.beq (2+(((wrap .i64 (((x2.cell 1).toInt)+1):Int).toNat)*1)) 10||(Nat.beq (2+(((wrap .i64 (((x2.cell 1).toInt)+1):Int).toNat)*1)) 11||(Nat.beq (2+(((wrap .i64 (((x2.cell 1).toInt)+1):Int).toNat)*1)) 12||false))))))))))) then
   bif !(Nat.beq (bif Nat.beq (2+(((wrap .i64 (((x2.cell 1).toInt)+1):Int).toNat)*1)) 2 then fi else (bif Nat.beq (2+(((wrap .i64 (((x2.cell 1).toInt)+1):Int).toNat)*1)) 3 then e9 else (bif Nat.beq (2+(((wrap .i64 (((x2.cell 1).toInt)+1):Int).toNat)*1)) 4 then gO else (bif Nat.beq (2+(((wrap .i64 (((x2.cell 1).toInt)+1):Int).toNat)*1)) 5 then gP else (bif Nat.beq (2+(((wrap .i64 (((x2.cell 1).toInt)+1):Int).toNat)*1)) 6 then iI else (bif Nat.beq (2+(((wrap .i64 (((x2.cell 1).toInt)+1):Int).toNat)*1)) 7 then iJ else (bif Nat.beq (2+(((wrap .i64 (((x2.cell 1).toInt)+1):Int).toNat)*1)) 8 then iK else (bif Nat.beq (2+(((wrap .i64 (((x2.cell 1).toInt)+1):Int).toNat)*1)) 9 then iM else (bif Nat.beq (2+(((wrap .i64 (((x2.cell 1).toInt)+1):Int).toNat)*1)) 10 then gY else (bif Nat.beq (2+(((wrap .i64 (((x2.cell 1).toInt)+1):Int).toNat)*1)) 11 then gZ else (bif Nat.beq (2+(((wrap .i64 (((x2.cell 1).toInt)+1):Int).toNat)*1)) 12 then g0 else ([]:LV)))))))))))).length 0) then
    kn (wrap .i64 (t26+1),fi,e9,gO,gP,iI,iJ,iK,iM,gY,gZ,g0)
   else
    bif (decide (0≤(table.length:Int)))&&((decide ((table.length:Int)≤(table.length:Int)))&&(Nat.ble (((table.length:Int).toNat)*8) aY)) then
    (Loop (Lj C table t18 t19 t20 t24 t25 t26 ((List.replicate ((table.length:Int).toNat) (V.int .i64 0)).length:Int) fQ fR fi e9 gO gP iI iJ iK iM gY gZ g0 ((x2.cell 0).toInt) ((x2.cell 1).toInt)) (0,List.replicate ((table.length:Int).toNat) (V.int .i64 0))).bind (un fun mr=>un fun (j5:Bool) (sF:LV)=>
     bif (decide (0≤(wrap .i64 (((x2.cell 1).toInt)+1))))&&(decide ((wrap .i64 (((x2.cell 1).toInt)+1))<11)) then
      bif (Nat.beq (2+(((wrap .i64 (((x2.cell 1).toInt)+1):Int).toNat)*1)) 2||(Nat.beq (2+(((wrap .i64 (((x2.cell 1).toInt)+1):Int).toNat)*1)) 3||(Nat.beq (2+(((wrap .i64 (((x2.cell 1).toInt)+1):Int).toNat)*1)) 4||(Nat.beq (2+(((wrap .i64 (((x2.cell 1).toInt)+1):Int).toNat)*1)) 5||(Nat.beq (2+(((wrap .i64 (((x2.cell 1).toInt)+1):Int).toNat)*1)) 6||(Nat.beq (2+(((wrap .i64 (((x2.cell 1).toInt)+1):Int).toNat)*1)) 7||(Nat.beq (2+(((wrap .i64 (((x2.cell 1).toInt)+1):Int).toNat)*1)) 8||(Nat.beq (2+(((wrap .i64 (((x2.cell 1).toInt)+1):Int).toNat)*1)) 9||(Nat.beq (2+(((wrap .i64 (((x2.cell 1).toInt)+1):Int).toNat)*1)) 10||(Nat.beq (2+(((wrap .i64 (((x2.cell 1).toInt)+1):Int).toNat)*1)) 11||(Nat.beq (2+(((wrap .i64 (((x2.cell 1).toInt)+1):Int).toNat)*1)) 12||false))))))))))) then
      bif Nat.blt 0 sF.length&&true then
       kn (wrap .i64 (t26+1),(bif Nat.beq (2+(((wrap .i64 (((x2.cell 1).toInt)+1):Int).toNat)*1)) 2 then sF else fi),(bif Nat.beq (2+(((wrap .i64 (((x2.cell 1).toInt)+1):Int).toNat)*1)) 3 then sF else e9),(bif Nat.beq (2+(((wrap .i64 (((x2.cell 1).toInt)+1):Int).toNat)*1)) 4 then sF else gO),(bif Nat.beq (2+(((wrap .i64 (((x2.cell 1).toInt)+1):Int).toNat)*1)) 5 then sF else gP),(bif Nat.beq (2+(((wrap .i64 (((x2.cell 1).toInt)+1):Int).toNat)*1)) 6 then sF else iI),(bif Nat.beq (2+(((wrap .i64 (((x2.cell 1).toInt)+1):Int).toNat)*1)) 7 then sF else iJ),(bif Nat.beq (2+(((wrap .i64 (((x2.cell 1).toInt)+1):Int).toNat)*1)) 8 then sF else iK),(bif Nat.beq (2+(((wrap .i64 (((x2.cell 1).toInt)+1):Int).toNat)*1)) 9 then sF else iM),(bif Nat.beq (2+(((wrap .i64 (((x2.cell 1).toInt)+1):Int).toNat)*1)) 10 then sF else gY),(bif Nat.beq (2+(((wrap .i64 (((x2.cell 1).toInt)+1):Int).toNat)*1)) 11 then sF else gZ),(bif Nat.beq (2+(((wrap .i64 (((x2.cell 1).toInt)+1):Int).toNat)*1)) 12 then sF else g0))
      else none
      else none
     else none)
    else none
   else none
  else none
 else
  kr (t26,decide (t26<t25),fi,e9,gO,gP,iI,iJ,iK,iM,gY,gZ,g0)
noncomputable def FO (C:af) (table t18:LV) (t19 t20:Int) (t24:LV) (t25:Int) (fQ:LV) (fR:Int):=un fun t26=>un fun fi=>un fun e9=>un fun gO=>un fun gP=>un fun iI=>un fun iJ=>un fun iK=>un fun iM=>un fun gY=>un fun gZ g0=>FP C table t18 t19 t20 t24 t25 fQ fR t26 fi e9 gO gP iI iJ iK iM gY gZ g0 (fun y=>some (Sum.inl y)) (fun r=>some (Sum.inr r))
noncomputable def Cx (C:af) (table t18:LV) (t19:Int) (fQ:LV) (fR t20:Int) (fi e9 gO gP iI iJ iK iM gY gZ g0:LV) {β:Type} (kn:(Int×LV×LV×LV×LV×LV×LV×LV×LV×LV×LV×LV)→Option β) (kr:(Int×Bool×LV×LV×LV×LV×LV×LV×LV×LV×LV×LV×LV)→Option β):Option β:=
 bif decide (t20<t19) then
  (idx t18 t20).bind fun x1=>
  (Loop (FO C table t18 t19 t20 x1.toList (x1.toList.length:Int) fQ fR) (0,fi,e9,gO,gP,iI,iJ,iK,iM,gY,gZ,g0)).bind (un fun yg=>un fun (xd:Bool)=>un fun (gY:LV)=>un fun (gZ:LV)=>un fun (g0:LV)=>un fun (av8:LV)=>un fun (av9:LV)=>un fun (awa:LV)=>un fun (awb:LV)=>un fun (awc:LV)=>un fun (awd:LV)=>un fun (awe:LV) (awf:LV)=>
   kn (wrap .i64 (t20+1),gY,gZ,g0,av8,av9,awa,awb,awc,awd,awe,awf))
 else
  kr (t20,decide (t20<t19),fi,e9,gO,gP,iI,iJ,iK,iM,gY,gZ,g0)
noncomputable def zy (C:af) (table t18:LV) (t19:Int) (fQ:LV) (fR:Int):=un fun t20=>un fun fi=>un fun e9=>un fun gO=>un fun gP=>un fun iI=>un fun iJ=>un fun iK=>un fun iM=>un fun gY=>un fun gZ g0=>Cx C table t18 t19 fQ fR t20 fi e9 gO gP iI iJ iK iM gY gZ g0 (fun y=>some (Sum.inl y)) (fun r=>some (Sum.inr r))
noncomputable def Xd (C:af):cL:=bR 177 Vw [EQ,EQ,EQ,EQ,EQ,EQ,EQ,EQ,H1,EQ,EQ,EQ,EQ,EQ,EQ,EQ,EQ,EQ,EQ,EQ,EQ,EQ,EQ,EQ,H1] [[1,2,3,4,5,6,7,8,0,0,10,11,12,13,14,15,16,17,18,19,20,21,22,23,24,0]] (@FM C) (bR 97 Vx [EQ,EQ,EQ,EQ,EQ,EQ,H1,EQ,EQ,H1,H1,H1,H1,H1,H1,H1,H1,H1,H1,H1] [[1,2,3,4,5,6,0,0,8,9,0,0,0,0,0,0,0,0,0,0,0]] (@FP C) (bR 49 Vy [EQ,EQ,EQ,H1,EQ,EQ,H1,H1,H1,H1,H1,H1,H1,H1,H1,H1,H1] [[1,2,3,0,0,5,6,0,0,0,0,0,0,0,0,0,0,0]] (@Cx C) bH))
theorem awg (C:af):bA C (Xd C) 117 (Lp [1,1,0,1,0,0,1,1,0,0,1,1,0,0,1,1,0,0,1,1,1,0,1,0,0] 117):=bS Vw [EQ,EQ,EQ,EQ,EQ,EQ,EQ,EQ,H1,EQ,EQ,EQ,EQ,EQ,EQ,EQ,EQ,EQ,EQ,EQ,EQ,EQ,EQ,EQ,H1] [[1,2,3,4,5,6,7,8,0,0,10,11,12,13,14,15,16,17,18,19,20,21,22,23,24,0]] (@FM C) (bu av)
theorem awh (C:af):bA C (Xd C) 117 (Lp [1,1,0,1,0,0,1,1,0,0,1,1,0,0] 117):=bS Vx [EQ,EQ,EQ,EQ,EQ,EQ,H1,EQ,EQ,H1,H1,H1,H1,H1,H1,H1,H1,H1,H1,H1] [[1,2,3,4,5,6,0,0,8,9,0,0,0,0,0,0,0,0,0,0,0]] (@FP C) (bu (bB (awg C) av))
theorem awi (C:af):bA C (Xd C) 117 (Lp [1,1,0,1,0,0] 117):=bS Vy [EQ,EQ,EQ,H1,EQ,EQ,H1,H1,H1,H1,H1,H1,H1,H1,H1,H1,H1] [[1,2,3,0,0,5,6,0,0,0,0,0,0,0,0,0,0,0]] (@Cx C) (bu (bB (awh C) av))
noncomputable def YO (C:af) (table:LV) (one:Int) (JK:LV):Option LV:=
 (Loop (zy C table JK (JK.length:Int) table one) (0,([]:LV),([]:LV),([]:LV),([]:LV),([]:LV),([]:LV),([]:LV),([]:LV),([]:LV),([]:LV),([]:LV))).bind (un fun aaf=>un fun (avk:Bool)=>un fun (awj:LV)=>un fun (awk:LV)=>un fun (awl:LV)=>un fun (awm:LV)=>un fun (awn:LV)=>un fun (awo:LV)=>un fun (awp:LV)=>un fun (awq:LV)=>un fun (awr:LV)=>un fun (aws:LV) (awt:LV)=>
  some [.list ag table,V.int .i64 one,.list ab awj,.list ab awk,.list ab awl,.list ab awm,.list ab awn,.list ab awo,.list ab awp,.list ab awq,.list ab awr,.list ab aws,.list ab awt])
theorem ajb {table:LV} {one:Int} {JK:LV} {r:Option LV} (h:YO CC table one JK=r):CC FQ [.list ag table,V.int .i64 one,.list FR JK]=r:=bI (bB (awi CC) av) h
def cg (s:Nat×Nat):V:= .agg [.int .i64 (s.1:Int),.int .i64 (s.2:Int)]
def PL (K:Nat) (l:LV):Prop:= ∃f:Nat→Nat,l=tab K (fun i=>nV (f i))∧∀i,i<K→f i<K
theorem PL.len {K:Nat} {l:LV} (h:PL K l):l.length=K:=by
 obtain ⟨f,rfl,_⟩:=h;exact eG
def nM (i:Int) (A B:LV):Int×LV×LV×LV×LV×LV×LV×LV×LV×LV×LV×LV:=(i,[],A,B,[],[],[],[],[],[],[],[])
def fp (s:Nat×Nat):Prop:=s.1≤3∧(s.1=3→s.2=0∨s.2=1)
theorem YN {p:List (Nat×Nat)} {i:Nat} (hi:i<p.length):idx (p.map cg) (i:Int)=some (cg p[i]):=by
 rw[Db rfl];simp[hi]
def PB (K:Nat) (p:List (Nat×Nat)) (k:Nat) (A B:LV):Prop:= ∀j,j<k→j<p.length→(p.getD j (0,0)).1=3→((p.getD j (0,0)).2=0→PL K A)∧((p.getD j (0,0)).2=1→PL K B)
section
variable {K:Nat} {mul:Nat→Nat→Nat} (h:Tb K mul) (ha: ∀i j k,i<K→j<K→k<K→mul (mul i j) k=mul i (mul j k))
include h ha
omit h ha in
theorem PB.mono {p:List (Nat×Nat)} {k:Nat} {A B A' B':LV} (hh:PB K p k A B) (h1:PL K A→PL K A') (h2:PL K B→PL K B'):PB K p k A' B':=fun j hj hl e=>⟨fun e2=>h1 ((hh j hj hl e).1 e2),fun e2=>h2 ((hh j hj hl e).2 e2)⟩
def Ln (t:LV) (one:Int) (A B:LV):List V:=[.list ag t,.int .i64 one,.list ab [],.list ab A,.list ab B,.list ab [],.list ab [],.list ab [],.list ab [],.list ab [],.list ab [],.list ab [],.list ab []]
end
noncomputable def xW (C:af) (top:Int) (t11:LV) (t12 t13 t18:Int) (t19:Bool) (fQ:LV) (fR:Int) (fi e9 gO gP iI iJ iK iM gY gZ g0 iN og:LV) (iD dx:Int) {β:Type} (kr:(Int×LV)→Option β):Option β:=
 bif t19 then
  bif (decide (0≤top))&&(decide (top<61)) then
  (og[top.toNat]?).bind fun x2=>
  kr (wrap .i64 (top+1),bm og top (V.int .i64 fR))
  else none
 else
  bif t18==1 then
  aM iN dx fun x3=>
  bif (decide (0≤top))&&(decide (top<61)) then
   (og[top.toNat]?).bind fun x4=>
   kr (wrap .i64 (top+1),bm og top (V.int .i64 x3.toInt))
  else none
  else
  bif t18==2 then
   bif (decide (0≤(wrap .i64 ((wrap .i64 (top-1))-1))))&&(decide ((wrap .i64 ((wrap .i64 (top-1))-1))<61)) then
   (og[(wrap .i64 ((wrap .i64 (top-1))-1):Int).toNat]?).bind fun x5=>
   (idx fQ x5.toInt).bind fun x6=>
   bif (decide (0≤(wrap .i64 (top-1))))&&(decide ((wrap .i64 (top-1))<61)) then
    (og[(wrap .i64 (top-1):Int).toNat]?).bind fun x7=>
    (idx x6.toList x7.toInt).bind fun x8=>
    bif (decide (0≤(wrap .i64 ((wrap .i64 (top-1))-1))))&&(decide ((wrap .i64 ((wrap .i64 (top-1))-1))<61)) then
    (og[(wrap .i64 ((wrap .i64 (top-1))-1):Int).toNat]?).bind fun x9=>
    kr (wrap .i64 (top-1),bm og (wrap .i64 ((wrap .i64 (top-1))-1)) (V.int .i64 x8.toInt))
    else none
   else none
   else none
  else
   bif t18==3 then
   bif (decide (0≤(wrap .i64 (dx+1))))&&(decide ((wrap .i64 (dx+1))<11)) then
    bif (Nat.beq (2+(((wrap .i64 (dx+1):Int).toNat)*1)) 2||(Nat.beq (2+(((wrap .i64 (dx+1):Int).toNat)*1)) 3||(Nat.beq (2+(((wrap .i64 (dx+1):Int).toNat)*1)) 4||(Nat.beq (2+(((wrap .i64 (dx+1):Int).toNat)*1)) 5||(Nat.beq (2+(((wrap .i64 (dx+1):Int).toNat)*1)) 6||(Nat.beq (2+(((wrap .i64 (dx+1):Int).toNat)*1)) 7||(Nat.beq (2+(((wrap .i64 (dx+1):Int).toNat)*1)) 8||(Nat.beq (2+(((wrap .i64 (dx+1):Int).toNat)*1)) 9||(Nat.beq (2+(((wrap .i64 (dx+1):Int).toNat)*1)) 10||(Nat.beq (2+(((wrap .i64 (dx+1):Int).toNat)*1)) 11||(Nat.beq (2+(((wrap .i64 (dx+1):Int).toNat)*1)) 12||false))))))))))) then
    bif (decide (0≤(wrap .i64 (top-1))))&&(decide ((wrap .i64 (top-1))<61)) then
     (og[(wrap .i64 (top-1):Int).toNat]?).bind fun oK=>
     (idx (bif Nat.beq (2+(((wrap .i64 (dx+1):Int).toNat)*1)) 2 then fi else (bif Nat.beq (2+(((wrap .i64 (dx+1):Int).toNat)*1)) 3 then e9 else (bif Nat.beq (2+(((wrap .i64 (dx+1):Int).toNat)*1)) 4 then gO else (bif Nat.beq (2+(((wrap .i64 (dx+1):Int).toNat)*1)) 5 then gP else (bif Nat.beq (2+(((wrap .i64 (dx+1):Int).toNat)*1)) 6 then iI else (bif Nat.beq (2+(((wrap .i64 (dx+1):Int).toNat)*1)) 7 then iJ else (bif Nat.beq (2+(((wrap .i64 (dx+1):Int).toNat)*1)) 8 then iK else (bif Nat.beq (2+(((wrap .i64 (dx+1):Int).toNat)*1)) 9 then iM else (bif Nat.beq (2+(((wrap .i64 (dx+1):Int).toNat)*1)) 10 then gY else (bif Nat.beq (2+(((wrap .i64 (dx+1):Int).toNat)*1)) 11 then gZ else (bif Nat.beq (2+(((wrap .i64 (dx+1):Int).toNat)*1)) 12 then g0 else ([]:LV)))))))))))) oK.toInt).bind fun qD=>
     bif (decide (0≤(wrap .i64 (top-1))))&&(decide ((wrap .i64 (top-1))<61)) then
     (og[(wrap .i64 (top-1):Int).toNat]?).bind fun lx=>
     kr (top,bm og (wrap .i64 (top-1)) (V.int .i64 qD.toInt))
     else none
    else none
    else none
   else none
   else
   kr (top,og)
noncomputable def FU (C:af) (t11:LV) (t12:Int) (fQ:LV) (fR:Int) (fi e9 gO gP iI iJ iK iM gY gZ g0 iN:LV) (top t13:Int) (og:LV) {β:Type} (kn:(Int×Int×LV)→Option β) (kr:(Int×Int×Bool×LV)→Option β):Option β:=
 bif decide (t13<t12) then
  (idx t11 t13).bind fun x1=>
  xW C top t11 t12 t13 ((x1.cell 0).toInt) ((((x1.cell 0).toInt):Int)==0) fQ fR fi e9 gO gP iI iJ iK iM gY gZ g0 iN og ((x1.cell 0).toInt) ((x1.cell 1).toInt) (un fun (awu:Int) (awv:LV)=>
   kn (awu,wrap .i64 (t13+1),awv))
 else
  kr (top,t13,decide (t13<t12),og)
noncomputable def Lo (C:af) (t11:LV) (t12:Int) (fQ:LV) (fR:Int) (fi e9 gO gP iI iJ iK iM gY gZ g0 iN:LV):=un fun top=>un fun t13 og=>FU C t11 t12 fQ fR fi e9 gO gP iI iJ iK iM gY gZ g0 iN top t13 og (fun y=>some (Sum.inl y)) (fun r=>some (Sum.inr r))
noncomputable def agQ (C:af):cL:=Gk 319 Vz [[0,2,3,4,7,8,9,10,11,12,13,14,15,16,17,18,19,20,0]] (@xW C) (bR 65 VA [H1,EQ,EQ,H1,EQ,EQ,EQ,EQ,EQ,EQ,EQ,EQ,EQ,EQ,EQ,EQ,EQ,EQ,H1] [[0,2,3,0,0,5,6,7,8,9,10,11,12,13,14,15,16,17,18,0]] (@FU C) bH)
theorem aww (C:af):bA C (agQ C) 120 (Cd 19 [1,1,1,0,1,0,0,1,1,0,0,1,1,0,1,0] [1,1,1,0,1,0,0,1,1,0,0,1,1,0,1,1] 120):=Gl Vz [[0,2,3,4,7,8,9,10,11,12,13,14,15,16,17,18,19,20,0]] (@xW C) (bu av) (bu av)
theorem awx (C:af):bA C (agQ C) 120 (Lp [1,1,1,0,1,0,0] 120):=bS VA [H1,EQ,EQ,H1,EQ,EQ,EQ,EQ,EQ,EQ,EQ,EQ,EQ,EQ,EQ,EQ,EQ,EQ,H1] [[0,2,3,0,0,5,6,7,8,9,10,11,12,13,14,15,16,17,18,0]] (@FU C) (bu (bB (aww C) av))
noncomputable def YQ (C:af) (p fQ:LV) (fR:Int) (fi e9 gO gP iI iJ iK iM gY gZ g0 iN:LV):Option LV:=
 (Loop (Lo C p (p.length:Int) fQ fR fi e9 gO gP iI iJ iK iM gY gZ g0 iN) (0,0,(List.replicate 61 (V.int .i64 0):LV))).bind (un fun aAI=>un fun zX=>un fun (Pw:Bool) (awy:LV)=>
  (awy[0]?).bind fun Ew=>
  some [V.int .i64 Ew.toInt,.list ag fQ,V.int .i64 fR,.list ab fi,.list ab e9,.list ab gO,.list ab gP,.list ab iI,.list ab iJ,.list ab iK,.list ab iM,.list ab gY,.list ab gZ,.list ab g0,.list ab iN])
theorem ajc {p fQ:LV} {fR:Int} {fi e9 gO gP iI iJ iK iM gY gZ g0 iN:LV} {r:Option LV} (h:YQ CC p fQ fR fi e9 gO gP iI iJ iK iM gY gZ g0 iN=r):CC FT [.list bG p,.list ag fQ,V.int .i64 fR,.list ab fi,.list ab e9,.list ab gO,.list ab gP,.list ab iI,.list ab iJ,.list ab iK,.list ab iM,.list ab gY,.list ab gZ,.list ab g0,.list ab iN]=r:=bI (bB (awx CC) av) h
def xX (m t:Nat) (s:Nat×Nat):Option Nat:=
 if s.1=0 then (if t<60 then some (t+1) else none)
 else if s.1=1 then (if t<60∧s.2<m then some (t+1) else none)
 else if s.1=2 then (if 2≤t then some (t-1) else none)
 else if s.1=3 then (if 1≤t then some t else none) else none
def ng (m:Nat):List (Nat×Nat)→Nat→Option Nat
 | [],t=>some t
 | s::p,t=>(xX m t s).bind (ng m p)
theorem YS {m t n:Nat}:xX m t (0,n)=if t<60 then some (t+1) else none:=rfl
theorem QV {m t n:Nat}:xX m t (1,n)=if t<60∧n<m then some (t+1) else none:=rfl
theorem YT {m t n:Nat}:xX m t (2,n)=if 2≤t then some (t-1) else none:=rfl
theorem YV {m t n:Nat}:xX m t (3,n)=if 1≤t then some t else none:=rfl
def SI (K t:Nat) (l:LV):Prop:=l.length=61∧t≤60∧∀i,i<t→∃v,v<K∧l[i]? =some (nV v)
theorem SI.put {K t:Nat} {l:LV} (h:SI K t l) {i v t':Nat} (hi:i≤t) (hv:v<K) (ht:t'≤t∨(t'=t+1∧i=t)) (h60:t'≤60):SI K t' (l.set i (nV v)):=by
 obtain ⟨h1,h2,h3⟩:=h;refine ⟨by rw[pF,h1],h60,fun j hj=> ?_⟩;by_cases c:i=j
 ·subst c;exact ⟨v,hv,qI (by omega)⟩
 ·rw[xp c];exact h3 j (by omega)
theorem Lq {t:Nat} (h:1≤t) (h6:t≤1000):wrap .i64 ((t:Int)-1)=((t-1:Nat):Int):=by
 rw[show ((t:Int)-1)=((t-1:Nat):Int) by omega];exact wrap64 (by omega) (by omega)
def VL (K m:Nat) (l:LV):Prop:=l.length=m∧∀i,i<m→∃v,v<K∧l[i]? =some (nV v)
section
variable {K:Nat} {mul:Nat→Nat→Nat} (h:Tb K mul) {p:List (Nat×Nat)} (hp: ∀s∈p,fp s) (hl:p.length≤1000) {A B:LV} (hP:PB K p p.length A B) {one:Int} (h1:(∃s∈p,s.1=0)→∃o:Nat,o<K∧one=(o:Int))
  {m:Nat} {vs:LV} (hv:VL K m vs) (hw:ng m p 0=some 1)
include h hp hl hP h1 hv hw
end
noncomputable def FX (C:af) (t16:Int) (fa fb eD fq:LV) (ft:Int) (fu fv fw fx fy fA fB fC fD fE fF Xe:LV) (t17:Int) (iN:LV) {β:Type} (kn:(Int×LV)→Option β) (kr:(Int×Bool×LV)→Option β):Option β:=
 bif decide (t17<t16) then
  aM Xe t17 fun x1=>
  (idx eD t17).bind fun x2=>
  (idx x2.toList x1.toInt).bind fun x3=>
  aM iN t17 fun x4=>
  kn (wrap .i64 (t17+1),bm iN t17 (V.int .i64 x3.toInt))
 else
  kr (t17,decide (t17<t16),iN)
noncomputable def QW (C:af) (t16:Int) (fa fb eD fq:LV) (ft:Int) (fu fv fw fx fy fA fB fC fD fE fF Xe:LV):=un fun t17 iN=>FX C t16 fa fb eD fq ft fu fv fw fx fy fA fB fC fD fE fF Xe t17 iN (fun y=>some (Sum.inl y)) (fun r=>some (Sum.inr r))
noncomputable def awz (C:af):cL:=bR 49 Vd [EQ,H1,EQ,EQ,EQ,EQ,EQ,EQ,EQ,EQ,EQ,EQ,EQ,EQ,EQ,EQ,EQ,EQ,H1,EQ] [[1,0,0,3,4,5,6,7,8,9,10,11,12,13,14,15,16,17,18,0,20]] (@FX C) bH
theorem awA (C:af):bA C (awz C) 80 (Lp [1,1,0,1,0,0] 80):=bS Vd [EQ,H1,EQ,EQ,EQ,EQ,EQ,EQ,EQ,EQ,EQ,EQ,EQ,EQ,EQ,EQ,EQ,EQ,H1,EQ] [[1,0,0,3,4,5,6,7,8,9,10,11,12,13,14,15,16,17,18,0,20]] (@FX C) (bu av)
noncomputable def Y4 (C:af) (fa fb eD fq:LV) (ft:Int) (fu fv fw fx fy fA fB fC fD fE fF aI:LV):Option LV:=
 bif (decide (0≤(aI.length:Int)))&&((decide ((aI.length:Int)≤(aI.length:Int)))&&(Nat.ble (((aI.length:Int).toNat)*8) aY)) then
  (Loop (QW C (aI.length:Int) fa fb eD fq ft fu fv fw fx fy fA fB fC fD fE fF aI) (0,List.replicate ((aI.length:Int).toNat) (V.int .i64 0))).bind (un fun mr=>un fun (j5:Bool) (awB:LV)=>
   some [.list bG fa,.list bG fb,.list ag eD,.list ag fq,V.int .i64 ft,.list ab fu,.list ab fv,.list ab fw,.list ab fx,.list ab fy,.list ab fA,.list ab fB,.list ab fC,.list ab fD,.list ab fE,.list ab fF,.list ab awB,.list ab aI])
 else none
theorem aje {fa fb eD fq:LV} {ft:Int} {fu fv fw fx fy fA fB fC fD fE fF aI:LV} {r:Option LV} (h:Y4 CC fa fb eD fq ft fu fv fw fx fy fA fB fC fD fE fF aI=r):CC FW [.list bG fa,.list bG fb,.list ag eD,.list ag fq,V.int .i64 ft,.list ab fu,.list ab fv,.list ab fw,.list ab fx,.list ab fy,.list ab fA,.list ab fB,.list ab fC,.list ab fD,.list ab fE,.list ab fF,.list ab aI]=r:=bI (bB (awA CC) av) h
noncomputable def Cz (C:af) (fa fb eD fq:LV) (ft:Int) (fu fv fw fx fy fA fB fC fD fE fF:LV) (i:Int) (aQ:LV) {β:Type} (kn:(Int×LV)→Option β) (kr:((Bool×LV) ⊕ (Int×Bool×LV))→Option β):Option β:=
 bif decide (i≥0) then
  aM aQ i fun x1=>
  aM aQ i fun x2=>
  aM (bm aQ i (V.int .i64 (wrap .i64 (x1.toInt+1)))) i fun x3=>
  (idx eD i).bind fun x4=>
  bif decide ((x3.toInt:Int)<(x4.toList.length:Int)) then
  kr (.inl (true,bm aQ i (V.int .i64 (wrap .i64 (x1.toInt+1)))))
  else
  aM (bm aQ i (V.int .i64 (wrap .i64 (x1.toInt+1)))) i fun x5=>
  kn (wrap .i64 (i-1),bm (bm aQ i (V.int .i64 (wrap .i64 (x1.toInt+1)))) i (V.int .i64 0))
 else
  kr (.inr (i,decide (i≥0),aQ))
noncomputable def FZ (C:af) (fa fb eD fq:LV) (ft:Int) (fu fv fw fx fy fA fB fC fD fE fF:LV):=un fun i aQ=>Cz C fa fb eD fq ft fu fv fw fx fy fA fB fC fD fE fF i aQ (fun y=>some (Sum.inl y)) (fun r=>some (Sum.inr r))
noncomputable def awC (C:af):cL:=bR 33 VB [H1,EQ,EQ,EQ,EQ,EQ,EQ,EQ,EQ,EQ,EQ,EQ,EQ,EQ,EQ,EQ,EQ,H1] [[0,2,3,4,5,6,7,8,9,10,11,12,13,14,15,16,17,0],[0,0,2,3,4,5,6,7,8,9,10,11,12,13,14,15,16,17,0]] (@Cz C) bH
theorem awD (C:af):bA C (awC C) 121 (Lp [1,0,1,0,0] 121):=bS VB [H1,EQ,EQ,EQ,EQ,EQ,EQ,EQ,EQ,EQ,EQ,EQ,EQ,EQ,EQ,EQ,EQ,H1] [[0,2,3,4,5,6,7,8,9,10,11,12,13,14,15,16,17,0],[0,0,2,3,4,5,6,7,8,9,10,11,12,13,14,15,16,17,0]] (@Cz C) (bu av)
noncomputable def Lr (C:af) (fa fb eD fq:LV) (ft:Int) (fu fv fw fx fy fA fB fC fD fE fF aI:LV):Option LV:=
 (Loop (FZ C fa fb eD fq ft fu fv fw fx fy fA fB fC fD fE fF) (wrap .i64 ((aI.length:Int)-1),aI)).bind (fX (un fun (j5:Bool) (Jd:LV)=>
  some [.bool j5,.list bG fa,.list bG fb,.list ag eD,.list ag fq,V.int .i64 ft,.list ab fu,.list ab fv,.list ab fw,.list ab fx,.list ab fy,.list ab fA,.list ab fB,.list ab fC,.list ab fD,.list ab fE,.list ab fF,.list ab Jd]) (un fun i_8=>un fun (xd:Bool) (rE:LV)=>
  some [.bool false,.list bG fa,.list bG fb,.list ag eD,.list ag fq,V.int .i64 ft,.list ab fu,.list ab fv,.list ab fw,.list ab fx,.list ab fy,.list ab fA,.list ab fB,.list ab fC,.list ab fD,.list ab fE,.list ab fF,.list ab rE]))
theorem ajg {fa fb eD fq:LV} {ft:Int} {fu fv fw fx fy fA fB fC fD fE fF aI:LV} {r:Option LV} (h:Lr CC fa fb eD fq ft fu fv fw fx fy fA fB fC fD fE fF aI=r):CC FY [.list bG fa,.list bG fb,.list ag eD,.list ag fq,V.int .i64 ft,.list ab fu,.list ab fv,.list ab fw,.list ab fx,.list ab fy,.list ab fA,.list ab fB,.list ab fC,.list ab fD,.list ab fE,.list ab fF,.list ab aI]=r:=bI (bB (awD CC) av) h
noncomputable def F3 (C:af) (rH steps t21:Int) (fa fb eD fq:LV) (ft:Int) (fu fv fw fx fy fA fB fC fD fE fF Xf:LV) (t22:Int) (iN:LV) {β:Type} (kn:(Int×LV)→Option β) (kr:(Int×Bool×LV)→Option β):Option β:=
 bif decide (t22<t21) then
  aM Xf t22 fun x2=>
  (idx eD t22).bind fun x3=>
  (idx x3.toList x2.toInt).bind fun x4=>
  aM iN t22 fun x5=>
  kn (wrap .i64 (t22+1),bm iN t22 (V.int .i64 x4.toInt))
 else
  kr (t22,decide (t22<t21),iN)
noncomputable def Ls (C:af) (rH steps t21:Int) (fa fb eD fq:LV) (ft:Int) (fu fv fw fx fy fA fB fC fD fE fF Xf:LV):=un fun t22 iN=>F3 C rH steps t21 fa fb eD fq ft fu fv fw fx fy fA fB fC fD fE fF Xf t22 iN (fun y=>some (Sum.inl y)) (fun r=>some (Sum.inr r))
noncomputable def zB (C:af) (rH steps:Int) (fa fb eD fq:LV) (ft:Int) (fu fv fw fx fy fA fB fC fD fE fF iN aW:LV) {β:Type} (kn:(Int×LV×LV×LV×LV×Int×LV×LV×LV×LV×LV×LV×LV×LV×LV×LV×LV×LV×LV)→Option β) (kr:((Int×Bool×Bool×LV×LV×LV×LV×Int×LV×LV×LV×LV×LV×LV×LV×LV×LV×LV×LV×LV) ⊕ (Int×Bool×LV×LV×LV×LV×Int×LV×LV×LV×LV×LV×LV×LV×LV×LV×LV×LV×LV×LV))→Option β):Option β:=
 bif decide (steps<rH) then
  (Loop (Ls C rH (wrap .i64 (steps+1)) (aW.length:Int) fa fb eD fq ft fu fv fw fx fy fA fB fC fD fE fF aW) (0,iN)).bind (un fun j5=>un fun (oD:Bool) (awE:LV)=>
   (C FT [.list bG fa,.list ag fq,V.int .i64 ft,.list ab fu,.list ab fv,.list ab fw,.list ab fx,.list ab fy,.list ab fA,.list ab fB,.list ab fC,.list ab fD,.list ab fE,.list ab fF,.list ab awE]).bind fun r9=>
   (C FT [.list bG fb,.list ag ((V.nth (r9.drop 1) 0).toList),V.int .i64 ((V.nth ((r9.drop 1).drop 1) 0).toInt),.list ab ((V.nth (((r9.drop 1).drop 1).drop 1) 0).toList),.list ab ((V.nth ((((r9.drop 1).drop 1).drop 1).drop 1) 0).toList),.list ab ((V.nth (((((r9.drop 1).drop 1).drop 1).drop 1).drop 1) 0).toList),.list ab ((V.nth ((((((r9.drop 1).drop 1).drop 1).drop 1).drop 1).drop 1) 0).toList),.list ab ((V.nth (((((((r9.drop 1).drop 1).drop 1).drop 1).drop 1).drop 1).drop 1) 0).toList),.list ab ((V.nth ((((((((r9.drop 1).drop 1).drop 1).drop 1).drop 1).drop 1).drop 1).drop 1) 0).toList),.list ab ((V.nth (((((((((r9.drop 1).drop 1).drop 1).drop 1).drop 1).drop 1).drop 1).drop 1).drop 1) 0).toList),.list ab ((V.nth ((((((((((r9.drop 1).drop 1).drop 1).drop 1).drop 1).drop 1).drop 1).drop 1).drop 1).drop 1) 0).toList),.list ab ((V.nth (((((((((((r9.drop 1).drop 1).drop 1).drop 1).drop 1).drop 1).drop 1).drop 1).drop 1).drop 1).drop 1) 0).toList),.list ab ((V.nth ((((((((((((r9.drop 1).drop 1).drop 1).drop 1).drop 1).drop 1).drop 1).drop 1).drop 1).drop 1).drop 1).drop 1) 0).toList),.list ab ((V.nth (((((((((((((r9.drop 1).drop 1).drop 1).drop 1).drop 1).drop 1).drop 1).drop 1).drop 1).drop 1).drop 1).drop 1).drop 1) 0).toList),.list ab ((V.nth ((r9.drop 1).drop 13) 0).toList)]).bind fun e7=>
   bif (((V.nth r9 0).toInt):Int) != ((V.nth e7 0).toInt) then
   kr (.inl (wrap .i64 (steps+1),true,true,fa,fb,eD,(V.nth (e7.drop 1) 0).toList,(V.nth ((e7.drop 1).drop 1) 0).toInt,(V.nth (((e7.drop 1).drop 1).drop 1) 0).toList,(V.nth ((((e7.drop 1).drop 1).drop 1).drop 1) 0).toList,(V.nth (((((e7.drop 1).drop 1).drop 1).drop 1).drop 1) 0).toList,(V.nth ((((((e7.drop 1).drop 1).drop 1).drop 1).drop 1).drop 1) 0).toList,(V.nth (((((((e7.drop 1).drop 1).drop 1).drop 1).drop 1).drop 1).drop 1) 0).toList,(V.nth ((((((((e7.drop 1).drop 1).drop 1).drop 1).drop 1).drop 1).drop 1).drop 1) 0).toList,(V.nth (((((((((e7.drop 1).drop 1).drop 1).drop 1).drop 1).drop 1).drop 1).drop 1).drop 1) 0).toList,(V.nth ((((((((((e7.drop 1).drop 1).drop 1).drop 1).drop 1).drop 1).drop 1).drop 1).drop 1).drop 1) 0).toList,(V.nth (((((((((((e7.drop 1).drop 1).drop 1).drop 1).drop 1).drop 1).drop 1).drop 1).drop 1).drop 1).drop 1) 0).toList,(V.nth ((((((((((((e7.drop 1).drop 1).drop 1).drop 1).drop 1).drop 1).drop 1).drop 1).drop 1).drop 1).drop 1).drop 1) 0).toList,(V.nth (((((((((((((e7.drop 1).drop 1).drop 1).drop 1).drop 1).drop 1).drop 1).drop 1).drop 1).drop 1).drop 1).drop 1).drop 1) 0).toList,aW))
   else
   (C FY [.list bG fa,.list bG fb,.list ag eD,.list ag ((V.nth (e7.drop 1) 0).toList),V.int .i64 ((V.nth ((e7.drop 1).drop 1) 0).toInt),.list ab ((V.nth (((e7.drop 1).drop 1).drop 1) 0).toList),.list ab ((V.nth ((((e7.drop 1).drop 1).drop 1).drop 1) 0).toList),.list ab ((V.nth (((((e7.drop 1).drop 1).drop 1).drop 1).drop 1) 0).toList),.list ab ((V.nth ((((((e7.drop 1).drop 1).drop 1).drop 1).drop 1).drop 1) 0).toList),.list ab ((V.nth (((((((e7.drop 1).drop 1).drop 1).drop 1).drop 1).drop 1).drop 1) 0).toList),.list ab ((V.nth ((((((((e7.drop 1).drop 1).drop 1).drop 1).drop 1).drop 1).drop 1).drop 1) 0).toList),.list ab ((V.nth (((((((((e7.drop 1).drop 1).drop 1).drop 1).drop 1).drop 1).drop 1).drop 1).drop 1) 0).toList),.list ab ((V.nth ((((((((((e7.drop 1).drop 1).drop 1).drop 1).drop 1).drop 1).drop 1).drop 1).drop 1).drop 1) 0).toList),.list ab ((V.nth (((((((((((e7.drop 1).drop 1).drop 1).drop 1).drop 1).drop 1).drop 1).drop 1).drop 1).drop 1).drop 1) 0).toList),.list ab ((V.nth ((((((((((((e7.drop 1).drop 1).drop 1).drop 1).drop 1).drop 1).drop 1).drop 1).drop 1).drop 1).drop 1).drop 1) 0).toList),.list ab ((V.nth (((((((((((((e7.drop 1).drop 1).drop 1).drop 1).drop 1).drop 1).drop 1).drop 1).drop 1).drop 1).drop 1).drop 1).drop 1) 0).toList),.list ab aW]).bind fun cC=>
   bif !((V.nth cC 0).toBool) then
    kr (.inl (wrap .i64 (steps+1),false,true,(V.nth (cC.drop 1) 0).toList,(V.nth ((cC.drop 1).drop 1) 0).toList,(V.nth (((cC.drop 1).drop 1).drop 1) 0).toList,(V.nth ((cC.drop 1).drop 3) 0).toList,(V.nth (((cC.drop 1).drop 3).drop 1) 0).toInt,(V.nth ((((cC.drop 1).drop 3).drop 1).drop 1) 0).toList,(V.nth (((((cC.drop 1).drop 3).drop 1).drop 1).drop 1) 0).toList,(V.nth ((((((cC.drop 1).drop 3).drop 1).drop 1).drop 1).drop 1) 0).toList,(V.nth (((((((cC.drop 1).drop 3).drop 1).drop 1).drop 1).drop 1).drop 1) 0).toList,(V.nth ((((((((cC.drop 1).drop 3).drop 1).drop 1).drop 1).drop 1).drop 1).drop 1) 0).toList,(V.nth (((((((((cC.drop 1).drop 3).drop 1).drop 1).drop 1).drop 1).drop 1).drop 1).drop 1) 0).toList,(V.nth ((((((((((cC.drop 1).drop 3).drop 1).drop 1).drop 1).drop 1).drop 1).drop 1).drop 1).drop 1) 0).toList,(V.nth (((((((((((cC.drop 1).drop 3).drop 1).drop 1).drop 1).drop 1).drop 1).drop 1).drop 1).drop 1).drop 1) 0).toList,(V.nth ((((((((((((cC.drop 1).drop 3).drop 1).drop 1).drop 1).drop 1).drop 1).drop 1).drop 1).drop 1).drop 1).drop 1) 0).toList,(V.nth (((((((((((((cC.drop 1).drop 3).drop 1).drop 1).drop 1).drop 1).drop 1).drop 1).drop 1).drop 1).drop 1).drop 1).drop 1) 0).toList,(V.nth ((((((((((((((cC.drop 1).drop 3).drop 1).drop 1).drop 1).drop 1).drop 1).drop 1).drop 1).drop 1).drop 1).drop 1).drop 1).drop 1) 0).toList,(V.nth (((cC.drop 1).drop 3).drop 13) 0).toList))
   else
    kn (wrap .i64 (steps+1),(V.nth (cC.drop 1) 0).toList,(V.nth ((cC.drop 1).drop 1) 0).toList,(V.nth (((cC.drop 1).drop 1).drop 1) 0).toList,(V.nth ((cC.drop 1).drop 3) 0).toList,(V.nth (((cC.drop 1).drop 3).drop 1) 0).toInt,(V.nth ((((cC.drop 1).drop 3).drop 1).drop 1) 0).toList,(V.nth (((((cC.drop 1).drop 3).drop 1).drop 1).drop 1) 0).toList,(V.nth ((((((cC.drop 1).drop 3).drop 1).drop 1).drop 1).drop 1) 0).toList,(V.nth (((((((cC.drop 1).drop 3).drop 1).drop 1).drop 1).drop 1).drop 1) 0).toList,(V.nth ((((((((cC.drop 1).drop 3).drop 1).drop 1).drop 1).drop 1).drop 1).drop 1) 0).toList,(V.nth (((((((((cC.drop 1).drop 3).drop 1).drop 1).drop 1).drop 1).drop 1).drop 1).drop 1) 0).toList,(V.nth ((((((((((cC.drop 1).drop 3).drop 1).drop 1).drop 1).drop 1).drop 1).drop 1).drop 1).drop 1) 0).toList,(V.nth (((((((((((cC.drop 1).drop 3).drop 1).drop 1).drop 1).drop 1).drop 1).drop 1).drop 1).drop 1).drop 1) 0).toList,(V.nth ((((((((((((cC.drop 1).drop 3).drop 1).drop 1).drop 1).drop 1).drop 1).drop 1).drop 1).drop 1).drop 1).drop 1) 0).toList,(V.nth (((((((((((((cC.drop 1).drop 3).drop 1).drop 1).drop 1).drop 1).drop 1).drop 1).drop 1).drop 1).drop 1).drop 1).drop 1) 0).toList,(V.nth ((((((((((((((cC.drop 1).drop 3).drop 1).drop 1).drop 1).drop 1).drop 1).drop 1).drop 1).drop 1).drop 1).drop 1).drop 1).drop 1) 0).toList,(V.nth ((e7.drop 1).drop 13) 0).toList,(V.nth (((cC.drop 1).drop 3).drop 13) 0).toList))
 else
  kr (.inr (steps,decide (steps<rH),fa,fb,eD,fq,ft,fu,fv,fw,fx,fy,fA,fB,fC,fD,fE,fF,iN,aW))
noncomputable def CD (C:af) (rH:Int):=un fun steps=>un fun fa=>un fun fb=>un fun eD=>un fun fq=>un fun ft=>un fun fu=>un fun fv=>un fun fw=>un fun fx=>un fun fy=>un fun fA=>un fun fB=>un fun fC=>un fun fD=>un fun fE=>un fun fF=>un fun iN aW=>zB C rH steps fa fb eD fq ft fu fv fw fx fy fA fB fC fD fE fF iN aW (fun y=>some (Sum.inl y)) (fun r=>some (Sum.inr r))
noncomputable def agR (C:af):cL:=bR 81 Vb [EQ,EQ,EQ,H1,EQ,EQ,EQ,EQ,EQ,EQ,EQ,EQ,EQ,EQ,EQ,EQ,EQ,EQ,EQ,EQ,H1,EQ] [[1,2,3,0,0,5,6,7,8,9,10,11,12,13,14,15,16,17,18,19,20,0,22]] (@F3 C) (bR 33 Vc [EQ,H1,H1,H1,H1,H1,H1,H1,H1,H1,H1,H1,H1,H1,H1,H1,H1,H1,H1,H1] [[0,0,0,0,0,0,0,0,0,0,0,0,0,0,0,0,0,0,0,0],[1,0,0,0,0,0,0,0,0,0,0,0,0,0,0,0,0,0,0,0,0]] (@zB C) bH)
theorem awF (C:af):bA C (agR C) 79 (Lp [1,1,0,0,0,1,0,1,0,1,0,0] 79):=bS Vb [EQ,EQ,EQ,H1,EQ,EQ,EQ,EQ,EQ,EQ,EQ,EQ,EQ,EQ,EQ,EQ,EQ,EQ,EQ,EQ,H1,EQ] [[1,2,3,0,0,5,6,7,8,9,10,11,12,13,14,15,16,17,18,19,20,0,22]] (@F3 C) (bu av)
theorem awG (C:af):bA C (agR C) 79 (Lp [1,1,0,0,0] 79):=bS Vc [EQ,H1,H1,H1,H1,H1,H1,H1,H1,H1,H1,H1,H1,H1,H1,H1,H1,H1,H1,H1] [[0,0,0,0,0,0,0,0,0,0,0,0,0,0,0,0,0,0,0,0],[1,0,0,0,0,0,0,0,0,0,0,0,0,0,0,0,0,0,0,0,0]] (@zB C) (bu (bB (awF C) av))
noncomputable def Lu (C:af) (rH:Int) (fa fb eD fq:LV) (ft:Int) (fu fv fw fx fy fA fB fC fD fE fF aI:LV):Option LV:=
 (C FW [.list bG fa,.list bG fb,.list ag eD,.list ag fq,V.int .i64 ft,.list ab fu,.list ab fv,.list ab fw,.list ab fx,.list ab fy,.list ab fA,.list ab fB,.list ab fC,.list ab fD,.list ab fE,.list ab fF,.list ab aI]).bind fun r1=>
 (Loop (CD C rH) (0,(V.nth r1 0).toList,(V.nth (r1.drop 1) 0).toList,(V.nth ((r1.drop 1).drop 1) 0).toList,(V.nth (r1.drop 3) 0).toList,(V.nth ((r1.drop 3).drop 1) 0).toInt,(V.nth (((r1.drop 3).drop 1).drop 1) 0).toList,(V.nth ((((r1.drop 3).drop 1).drop 1).drop 1) 0).toList,(V.nth (((((r1.drop 3).drop 1).drop 1).drop 1).drop 1) 0).toList,(V.nth ((((((r1.drop 3).drop 1).drop 1).drop 1).drop 1).drop 1) 0).toList,(V.nth (((((((r1.drop 3).drop 1).drop 1).drop 1).drop 1).drop 1).drop 1) 0).toList,(V.nth ((((((((r1.drop 3).drop 1).drop 1).drop 1).drop 1).drop 1).drop 1).drop 1) 0).toList,(V.nth (((((((((r1.drop 3).drop 1).drop 1).drop 1).drop 1).drop 1).drop 1).drop 1).drop 1) 0).toList,(V.nth ((((((((((r1.drop 3).drop 1).drop 1).drop 1).drop 1).drop 1).drop 1).drop 1).drop 1).drop 1) 0).toList,(V.nth (((((((((((r1.drop 3).drop 1).drop 1).drop 1).drop 1).drop 1).drop 1).drop 1).drop 1).drop 1).drop 1) 0).toList,(V.nth ((((((((((((r1.drop 3).drop 1).drop 1).drop 1).drop 1).drop 1).drop 1).drop 1).drop 1).drop 1).drop 1).drop 1) 0).toList,(V.nth (((((((((((((r1.drop 3).drop 1).drop 1).drop 1).drop 1).drop 1).drop 1).drop 1).drop 1).drop 1).drop 1).drop 1).drop 1) 0).toList,(V.nth ((r1.drop 3).drop 13) 0).toList,(V.nth (((r1.drop 3).drop 13).drop 1) 0).toList)).bind (fX (un fun awH=>un fun (awI:Bool)=>un fun (awJ:Bool)=>un fun (wg:LV)=>un fun (zR:LV)=>un fun (qj:LV)=>un fun (tp:LV)=>un fun rf=>un fun (ql:LV)=>un fun (wc:LV)=>un fun (we:LV)=>un fun (sg:LV)=>un fun (tt:LV)=>un fun (CQ:LV)=>un fun (CR:LV)=>un fun (L5:LV)=>un fun (Rm:LV)=>un fun (Gv:LV)=>un fun (awK:LV) (awL:LV)=>
  some [V.int .i64 awH,.bool awI,.bool awJ,.list bG wg,.list bG zR,.list ag qj,.list ag tp,V.int .i64 rf,.list ab ql,.list ab wc,.list ab we,.list ab sg,.list ab tt,.list ab CQ,.list ab CR,.list ab L5,.list ab Rm,.list ab Gv,.list ab awK,.list ab awL]) (un fun awM=>un fun (awN:Bool)=>un fun (awO:LV)=>un fun (awP:LV)=>un fun (awQ:LV)=>un fun (IY:LV)=>un fun IZ=>un fun (I4:LV)=>un fun (I5:LV)=>un fun (En:LV)=>un fun (awR:LV)=>un fun (awS:LV)=>un fun (I6:LV)=>un fun (Wx:LV)=>un fun (Gx:LV)=>un fun (zI:LV)=>un fun (uC:LV)=>un fun (zJ:LV)=>un fun (aAJ:LV) (I7:LV)=>
  some [V.int .i64 awM,.bool false,.bool false,.list bG awO,.list bG awP,.list ag awQ,.list ag IY,V.int .i64 IZ,.list ab I4,.list ab I5,.list ab En,.list ab awR,.list ab awS,.list ab I6,.list ab Wx,.list ab Gx,.list ab zI,.list ab uC,.list ab zJ,.list ab I7]))
theorem aji {rH:Int} {fa fb eD fq:LV} {ft:Int} {fu fv fw fx fy fA fB fC fD fE fF aI:LV} {r:Option LV} (h:Lu CC rH fa fb eD fq ft fu fv fw fx fy fA fB fC fD fE fF aI=r):CC F0 [V.int .i64 rH,.list bG fa,.list bG fb,.list ag eD,.list ag fq,V.int .i64 ft,.list ab fu,.list ab fv,.list ab fw,.list ab fx,.list ab fy,.list ab fA,.list ab fB,.list ab fC,.list ab fD,.list ab fE,.list ab fF,.list ab aI]=r:=bI (bB (awG CC) av) h
def RV (R:List (List Nat)):LV:=R.map fun r=> .list ab (nS r)
structure RG (K:Nat) (R:List (List Nat)):Prop where
 lt: ∀i,i<R.length→∀x∈R.getD i [],x<K
 len: ∀i,i<R.length→(R.getD i []).length≤1000
 rl:R.length≤10
def NX (R:List (List Nat)) (l:LV):Prop:=l.length=R.length∧∀i,i<R.length→∃k,k<(R.getD i []).length∧l[i]? =some (nV k)
theorem Cy {R:List (List Nat)} {i:Nat} (hi:i<R.length):idx (RV R) (i:Int)=some (.list ab (nS (R.getD i []))):=by
 rw[RV,Db rfl];simp[hi]
def p8 (p q:List (Nat×Nat)) (R:List (List Nat)) (t:LV) (one:Int) (A B:LV) (l:List V):List V:=
 .list bG (p.map cg):: .list bG (q.map cg):: .list ag (RV R)::(Ln t one A B++l)
section
variable {K:Nat} {R:List (List Nat)} (hR:RG K R) {nx:LV} (hN:NX R nx)
include hR hN
end
noncomputable def JL (C:af) (table dM t15:LV) (t16 t17:Int) (nr:LV) {β:Type} (kn:(Int×LV)→Option β) (kr:((Bool) ⊕ (Int×Bool×LV))→Option β):Option β:=
 bif decide (t17<t16) then
  (idx t15 t17).bind fun x1=>
  bif decide ((x1.toInt:Int)<0) then
  kr (.inl false)
  else
  bif decide ((x1.toInt:Int)≥(table.length:Int)) then
   kr (.inl false)
  else
   bif decide (t17>0) then
   (idx dM (wrap .i64 (t17-1))).bind fun x2=>
   bif decide ((x2.toInt:Int)≥x1.toInt) then
    kr (.inl false)
   else
    bif (decide (0≤x1.toInt))&&(decide (x1.toInt<(nr.length:Int))) then
    (nr[(x1.toInt:Int).toNat]?).bind fun x3=>
    kn (wrap .i64 (t17+1),bm nr (x1.toInt) (.bool true))
    else none
   else
   bif (decide (0≤x1.toInt))&&(decide (x1.toInt<(nr.length:Int))) then
    (nr[(x1.toInt:Int).toNat]?).bind fun x4=>
    kn (wrap .i64 (t17+1),bm nr (x1.toInt) (.bool true))
   else none
 else
  kr (.inr (t17,decide (t17<t16),nr))
noncomputable def PC (C:af) (table dM t15:LV) (t16:Int):=un fun t17 nr=>JL C table dM t15 t16 t17 nr (fun y=>some (Sum.inl y)) (fun r=>some (Sum.inr r))
noncomputable def JM (C:af) (table dM:LV) (x:Int) (t47:LV) (t48 t49:Int) (t53:LV) (t54:Int) (nr:LV) (t55:Int) {β:Type} (kn:Int→Option β) (kr:((Bool) ⊕ (Int×Bool))→Option β):Option β:=
 bif decide (t55<t54) then
  (idx t53 t55).bind fun oK=>
  (idx table x).bind fun qD=>
  (idx qD.toList oK.toInt).bind fun lx=>
  bif (decide (0≤lx.toInt))&&(decide (lx.toInt<(nr.length:Int))) then
  (nr[(lx.toInt:Int).toNat]?).bind fun PD=>
  bif !PD.toBool then
   kr (.inl false)
  else
   kn (wrap .i64 (t55+1))
  else none
 else
  kr (.inr (t55,decide (t55<t54)))
noncomputable def PE (C:af) (table dM:LV) (x:Int) (t47:LV) (t48 t49:Int) (t53:LV) (t54:Int) (nr:LV):=fun t55=>JM C table dM x t47 t48 t49 t53 t54 nr t55 (fun y=>some (Sum.inl y)) (fun r=>some (Sum.inr r))
noncomputable def JN (C:af) (table dM t47:LV) (t48:Int) (nr:LV) (t49:Int) {β:Type} (kn:Int→Option β) (kr:((Bool) ⊕ (Int×Bool))→Option β):Option β:=
 bif decide (t49<t48) then
  (idx t47 t49).bind fun x9=>
  (Loop (PE C table dM x9.toInt t47 t48 t49 dM (dM.length:Int) nr) 0).bind (fX (fun (wi:Bool)=>
   kr (.inl wi)) (un fun (Mo:Int) (zX:Bool)=>
   kn (wrap .i64 (t49+1))))
 else
  kr (.inr (t49,decide (t49<t48)))
noncomputable def PF (C:af) (table dM t47:LV) (t48:Int) (nr:LV):=fun t49=>JN C table dM t47 t48 nr t49 (fun y=>some (Sum.inl y)) (fun r=>some (Sum.inr r))
noncomputable def Xg (C:af):cL:=bR 49 Vr [EQ,EQ,EQ,EQ,H1,H1] [[0],[1,2,3,4,0,0,0]] (@JL C) (bR 209 Vs [EQ,EQ,EQ,EQ,EQ,EQ,EQ,EQ,H1,EQ] [[0],[1,2,3,4,5,6,7,8,0,0,10]] (@JM C) (bR 161 Vt [EQ,EQ,EQ,EQ,H1,EQ] [[0],[1,2,3,4,0,0,6]] (@JN C) bH))
theorem awT (C:af):bA C (Xg C) 112 (Lp [1,1,0,1,0,0] 112):=bS Vr [EQ,EQ,EQ,EQ,H1,H1] [[0],[1,2,3,4,0,0,0]] (@JL C) (bu av)
theorem awU (C:af):bA C (Xg C) 112 (Lp [1,1,1,0,1,0,0,1,1,0,0,1,1,0,0] 112):=bS Vs [EQ,EQ,EQ,EQ,EQ,EQ,EQ,EQ,H1,EQ] [[0],[1,2,3,4,5,6,7,8,0,0,10]] (@JM C) (bu av)
theorem awV (C:af):bA C (Xg C) 112 (Lp [1,1,1,0,1,0,0] 112):=bS Vt [EQ,EQ,EQ,EQ,H1,EQ] [[0],[1,2,3,4,0,0,6]] (@JN C) (bu (bB (awU C) av))
noncomputable def PH (C:af) (table dM:LV):Option LV:=
 bif (decide (0≤(table.length:Int)))&&((decide ((table.length:Int)≤(table.length:Int)))&&(Nat.ble (((table.length:Int).toNat)*1) aY)) then
  (Loop (PC C table dM dM (dM.length:Int)) (0,List.replicate ((table.length:Int).toNat) (V.bool false))).bind (fX (fun (mr:Bool)=>
   some [.bool mr]) (un fun j5=>un fun (oD:Bool) (awW:LV)=>
   (Loop (PF C table dM dM (dM.length:Int) awW) 0).bind (fX (fun (Pw:Bool)=>
    some [.bool Pw]) (un fun (W5:Int) (G1:Bool)=>
    some [.bool true]))))
 else none
theorem awX {table dM:LV} {r:Option LV} (h:PH CC table dM=r):CC HV [.list ag table,.list ab dM]=r:=bI (bB (awT CC) (bB (awV CC) av)) h
section
variable {K:Nat} {mul:Nat→Nat→Nat} (h:Tb K mul) {Z:List Nat} (hZ: ∀z∈Z,z<K) (hl:Z.length≤400)
include h hZ hl
theorem ajt: ∃b,CC HV [.list ag (tG K mul),.list ab (nS Z)]=some [.bool b]:=by
 have h4:=h.k4;have l1: ∃r,Loop (PC CC (tG K mul) (nS Z) (nS Z) (Z.length:Int)) (0,List.replicate K (V.bool false))=some r∧((∃b,r= .inl b)∨∃a:LV,a.length=K∧r= .inr ((Z.length:Int),false,a)):=by
  refine xY (fun i x=> ∃a:LV,a.length=K∧x=((i:Int),a)) (fun (r:Bool ⊕ (Int×Bool×LV))=>(∃b,r= .inl b)∨∃a:LV,a.length=K∧r= .inr ((Z.length:Int),false,a)) Z.length (fun i hi x hx=> ?_) (fun x hx=> ?_) Z.length 0 _ (dB _) ⟨_,by simp,rfl⟩
  ·obtain ⟨a,pA,rfl⟩:=hx;have hz:=hZ _ (dc hi);simp only[PC,JL,un];rw[sc];have fin:(bif (decide (0≤(nV Z[i]).toInt))&&(decide ((nV Z[i]).toInt<(a.length:Int))) then
     (a[((nV Z[i]).toInt:Int).toNat]?).bind fun _=>some (Sum.inl (β:=Bool ⊕ (Int×Bool×LV)) (wrap .i64 ((i:Int)+1),bm a ((nV Z[i]).toInt) (V.bool true)))
     else none)=some (Sum.inl (((i+1:Nat):Int),bm a ((nV Z[i]).toInt) (V.bool true))):=by
    refine bT (o5 (by rw[pA];exact hz)) (bs (bY (by rw[pA];exact hz)) ?_);rw[bq (by omega)]
   have js:(bm a ((nV Z[i]).toInt) (V.bool true)).length=K:=by simp only[bm];rw[pF,pA]
   rcases EM i with c|c
   ·exact .inl ⟨_,bT (bn hi) (bs (iE hi) (bF xV (bF (Em hz) (bF (by simp[c]) fin)))),_,js,rfl⟩
   ·have hp:idx (nS Z) (wrap .i64 ((i:Int)-1))=some (nV (Z[i-1]'(by omega))):=by
     rw[show wrap .i64 ((i:Int)-1)=((i-1:Nat):Int) by rw[show ((i:Int)-1)=((i-1:Nat):Int) by omega];exact wrap64 (by omega) (by omega)];exact iE (by omega)
    by_cases c2:((Z[i-1]'(by omega):Nat):Int)≥(Z[i]:Nat)
    ·exact .inr ⟨_,bT (bn hi) (bs (iE hi) (bF xV (bF (Em hz) (bT (ca (by omega)) (bs hp (bT (ca c2) rfl)))))),.inl ⟨_,rfl⟩⟩
    ·exact .inl ⟨_,bT (bn hi) (bs (iE hi) (bF xV (bF (Em hz) (bT (ca (by omega)) (bs hp (bF (cZ c2) fin)))))),_,js,rfl⟩
  ·obtain ⟨a,pA,rfl⟩:=hx;simp only[PC,JL,un];exact ⟨_,bF (aX (aw _)) rfl,.inr ⟨a,pA,by rw[aX (aw _)]⟩⟩
 have l2: ∀{a:LV} {x:Nat} {s:LV} {p q:Int} {u:LV},a.length=K→x<K→s=nS Z→∃r,Loop (PE CC (tG K mul) (nS Z) (x:Int) u p q s (Z.length:Int) a) 0=some r∧((∃b,r= .inl b)∨r= .inr ((Z.length:Int),false)):=by
  rintro a x _ p q u pA hx rfl;refine xY (fun i x=>x=(i:Int)) (fun (r:Bool ⊕ (Int×Bool))=>(∃b,r= .inl b)∨r= .inr ((Z.length:Int),false)) Z.length (fun i hi y hy=> ?_) (fun y hy=> ?_) Z.length 0 _ (dB _) rfl
  ·subst hy;have hz:=hZ _ (dc hi);have hm:=h.lt _ _ hx hz;simp only[PE,JM];have kY:a[mul x Z[i]]? =some (a[mul x Z[i]]'(by rw[pA];exact hm)):=bY (by rw[pA];exact hm);cases hb:(a[mul x Z[i]]'(by rw[pA];exact hm)).toBool with
   | true=>
    refine .inl ⟨_,bT (bn hi) (bs (iE hi) (bs (nL hx) (bs (p7 hz) (bT (o5 (by rw[pA];exact hm)) (bs kY (bF (by rw[hb];rfl) rfl)))))),?_⟩;rw[bq (by omega)]
   | false=>
    exact .inr ⟨_,bT (bn hi) (bs (iE hi) (bs (nL hx) (bs (p7 hz) (bT (o5 (by rw[pA];exact hm)) (bs kY (bT (by rw[hb];rfl) rfl)))))),.inl ⟨_,rfl⟩⟩
  ·subst hy;simp only[PE,JM];exact ⟨_,bF (aX (aw _)) rfl,.inr (by rw[aX (aw _)])⟩
 have l3: ∀{a:LV},a.length=K→∃r,Loop (PF CC (tG K mul) (nS Z) (nS Z) (Z.length:Int) a) 0=some r∧((∃b,r= .inl b)∨r= .inr ((Z.length:Int),false)):=by
  intro a pA;refine xY (fun i x=>x=(i:Int)) (fun (r:Bool ⊕ (Int×Bool))=>(∃b,r= .inl b)∨r= .inr ((Z.length:Int),false)) Z.length (fun i hi y hy=> ?_) (fun y hy=> ?_) Z.length 0 _ (dB _) rfl
  ·subst hy;have hz:=hZ _ (dc hi);obtain ⟨r,e,hr⟩:=l2 (a:=a) (x:=Z[i]) (s:=nS Z) (p:=(Z.length:Int)) (q:=(i:Int)) (u:=nS Z) pA hz rfl;simp only[PF,JN];rcases hr with ⟨b,rfl⟩|rfl
   ·exact .inr ⟨_,bT (bn hi) (bs (iE hi) (bs (by rw[dC];exact e) rfl)),.inl ⟨_,rfl⟩⟩
   ·refine .inl ⟨_,bT (bn hi) (bs (iE hi) (bs (by rw[dC];exact e) rfl)),?_⟩;rw[bq (by omega)]
  ·subst hy;simp only[PF,JN];exact ⟨_,bF (aX (aw _)) rfl,.inr (by rw[aX (aw _)])⟩
 have fin: ∀z,PH CC (tG K mul) (nS Z)=z→CC HV [.list ag (tG K mul),.list ab (nS Z)]=z:=fun z h=>awX h;have body: ∃b,PH CC (tG K mul) (nS Z)=some [.bool b]:=by
  unfold PH;rw[sc,dC];obtain ⟨r,e,hr⟩:=l1;rcases hr with ⟨b,rfl⟩|⟨a,pA,rfl⟩
  ·exact ⟨b,bT (gG (by omega) (by omega)) (bs e rfl)⟩
  ·obtain ⟨r,e2,hr⟩:=l3 pA;rcases hr with ⟨b,rfl⟩|rfl
   ·exact ⟨b,bT (gG (by omega) (by omega)) (bs e (bs e2 rfl))⟩
   ·exact ⟨true,bT (gG (by omega) (by omega)) (bs e (bs e2 rfl))⟩
 obtain ⟨b,hb⟩:=body;exact ⟨b,fin _ hb⟩
end
noncomputable def F7 (C:af) (table dM:LV) (i t33 t34:Int) (t37:LV) (t38:Int) (Be Bf Bg Bh Bi Bj Bk Bl Bm Bn Bo Bp:Bool) (t39:Int) (lz:LV) {β:Type} (kn:(Int×LV)→Option β) (kr:(Int×Bool×LV)→Option β):Option β:=
 bif decide (t39<t38) then
  (idx t37 t39).bind fun x4=>
  bif (decide (0≤i))&&(decide (i<6)) then
  (([.bool Be,.bool Bf,.bool Bg,.bool Bh,.bool Bi,.bool Bj]:LV)[0+((i.toNat)*1)]?).bind fun x5=>
  bif !x5.toBool then
   aM lz i fun x6=>
   (lz[i.toNat]?).bind fun x7=>
   bif Nat.ble ((x7.toList.length+([V.int .i64 x4.toInt]:LV).length)*8) aY then
   CG lz i <|
   bif (Nat.beq (i.toNat) (i.toNat))&&true then
    kn (wrap .i64 (t39+1),bm lz i (.list ab (x7.toList++([V.int .i64 x4.toInt]:LV))))
   else none
   else none
  else
   bif (decide (0≤i))&&(decide (i<6)) then
   (([.bool Bk,.bool Bl,.bool Bm,.bool Bn,.bool Bo,.bool Bp]:LV)[0+((i.toNat)*1)]?).bind fun x8=>
   bif x8.toBool then
    aM lz i fun x9=>
    (lz[i.toNat]?).bind fun oK=>
    bif Nat.ble ((oK.toList.length+([V.int .i64 x4.toInt]:LV).length)*8) aY then
    CG lz i <|
    bif (Nat.beq (i.toNat) (i.toNat))&&true then
     kn (wrap .i64 (t39+1),bm lz i (.list ab (oK.toList++([V.int .i64 x4.toInt]:LV))))
    else none
    else none
   else
    (idx table x4.toInt).bind fun qD=>
    (idx qD.toList x4.toInt).bind fun lx=>
    bif (lx.toInt:Int)==x4.toInt then
    aM lz i fun PD=>
    (lz[i.toNat]?).bind fun Mt=>
    bif Nat.ble ((Mt.toList.length+([V.int .i64 x4.toInt]:LV).length)*8) aY then
     CG lz i <|
     bif (Nat.beq (i.toNat) (i.toNat))&&true then
     kn (wrap .i64 (t39+1),bm lz i (.list ab (Mt.toList++([V.int .i64 x4.toInt]:LV))))
     else none
    else none
    else
    kn (wrap .i64 (t39+1),lz)
   else none
  else none
 else
  kr (t39,decide (t39<t38),lz)
noncomputable def Lw (C:af) (table dM:LV) (i t33 t34:Int) (t37:LV) (t38:Int) (Be Bf Bg Bh Bi Bj Bk Bl Bm Bn Bo Bp:Bool):=un fun t39 lz=>F7 C table dM i t33 t34 t37 t38 Be Bf Bg Bh Bi Bj Bk Bl Bm Bn Bo Bp t39 lz (fun y=>some (Sum.inl y)) (fun r=>some (Sum.inr r))
noncomputable def F8 (C:af) (table dM:LV) (t33:Int) (Be Bf Bg Bh Bi Bj Bk Bl Bm Bn Bo Bp:Bool) (t34:Int) (lz:LV) {β:Type} (kn:(Int×LV)→Option β) (kr:(Int×Bool×LV)→Option β):Option β:=
 bif decide (t34<t33) then
  (Loop (Lw C table dM t34 t33 t34 dM (dM.length:Int) Be Bf Bg Bh Bi Bj Bk Bl Bm Bn Bo Bp) (0,lz)).bind (un fun Mo=>un fun (zX:Bool) (awY:LV)=>
   kn (wrap .i64 (t34+1),awY))
 else
  kr (t34,decide (t34<t33),lz)
noncomputable def Lv (C:af) (table dM:LV) (t33:Int) (Be Bf Bg Bh Bi Bj Bk Bl Bm Bn Bo Bp:Bool):=un fun t34 lz=>F8 C table dM t33 Be Bf Bg Bh Bi Bj Bk Bl Bm Bn Bo Bp t34 lz (fun y=>some (Sum.inl y)) (fun r=>some (Sum.inr r))
noncomputable def agS (C:af):cL:=bR 161 Vu [EQ,EQ,EQ,EQ,EQ,EQ,EQ,H1,EQ,EQ,EQ,EQ,EQ,EQ,EQ,EQ,EQ,EQ,EQ,EQ,H1] [[1,2,3,4,5,6,7,0,0,9,10,11,12,13,14,15,16,17,18,19,20,0]] (@F7 C) (bR 113 Vv [EQ,EQ,EQ,H1,EQ,EQ,EQ,EQ,EQ,EQ,EQ,EQ,EQ,EQ,EQ,EQ,H1] [[1,2,3,0,0,5,6,7,8,9,10,11,12,13,14,15,16,0]] (@F8 C) bH)
theorem awZ (C:af):bA C (agS C) 116 (Lp [1,1,1,1,1,1,0,1,0,0,1,1,0,0,1,1,0,0] 116):=bS Vu [EQ,EQ,EQ,EQ,EQ,EQ,EQ,H1,EQ,EQ,EQ,EQ,EQ,EQ,EQ,EQ,EQ,EQ,EQ,EQ,H1] [[1,2,3,4,5,6,7,0,0,9,10,11,12,13,14,15,16,17,18,19,20,0]] (@F7 C) (bu av)
theorem aw0 (C:af):bA C (agS C) 116 (Lp [1,1,1,1,1,1,0,1,0,0] 116):=bS Vv [EQ,EQ,EQ,H1,EQ,EQ,EQ,EQ,EQ,EQ,EQ,EQ,EQ,EQ,EQ,EQ,H1] [[1,2,3,0,0,5,6,7,8,9,10,11,12,13,14,15,16,0]] (@F8 C) (bu (bB (awZ C) av))
noncomputable def Q4 (C:af) (table dM:LV) (ma mb:Int) (mc:LV) (me mf:Int) (mg:LV):Option LV:=
 (C gE [V.int .i64 ma,V.int .i64 mb,.list ai mc,V.int .i64 0,V.int .i64 0,.list ai ([]:LV),.bool false,.bool false,.bool false,.bool false,.bool false,.bool false,.bool false,.bool false,.bool false,.bool false,.bool false,.bool false]).bind fun r1=>
 (C gE [V.int .i64 me,V.int .i64 mf,.list ai mg,V.int .i64 0,V.int .i64 0,.list ai ([]:LV),.bool ((V.nth r1 0).toBool),.bool ((V.nth (r1.drop 1) 0).toBool),.bool ((V.nth ((r1.drop 1).drop 1) 0).toBool),.bool ((V.nth (((r1.drop 1).drop 1).drop 1) 0).toBool),.bool ((V.nth ((((r1.drop 1).drop 1).drop 1).drop 1) 0).toBool),.bool ((V.nth (((((r1.drop 1).drop 1).drop 1).drop 1).drop 1) 0).toBool),.bool ((V.nth (r1.drop 6) 0).toBool),.bool ((V.nth ((r1.drop 6).drop 1) 0).toBool),.bool ((V.nth (((r1.drop 6).drop 1).drop 1) 0).toBool),.bool ((V.nth ((((r1.drop 6).drop 1).drop 1).drop 1) 0).toBool),.bool ((V.nth (((((r1.drop 6).drop 1).drop 1).drop 1).drop 1) 0).toBool),.bool ((V.nth ((((((r1.drop 6).drop 1).drop 1).drop 1).drop 1).drop 1) 0).toBool)]).bind fun r2=>
 (C nH [.list ai ([.agg [V.int .i64 ma,V.int .i64 mb,.list ai mc],.agg [V.int .i64 me,V.int .i64 mf,.list ai mg]]:LV)]).bind fun r3=>
 bif (decide (0≤((V.nth r3 0).toInt)))&&((decide (((V.nth r3 0).toInt)≤((V.nth r3 0).toInt)))&&(Nat.ble ((((V.nth r3 0).toInt:Int).toNat)*24) aY)) then
  (Loop (Lv C table dM ((List.replicate (((V.nth r3 0).toInt:Int).toNat) (V.list ab ([]:LV))).length:Int) ((V.nth r2 0).toBool) ((V.nth (r2.drop 1) 0).toBool) ((V.nth ((r2.drop 1).drop 1) 0).toBool) ((V.nth (((r2.drop 1).drop 1).drop 1) 0).toBool) ((V.nth ((((r2.drop 1).drop 1).drop 1).drop 1) 0).toBool) ((V.nth (((((r2.drop 1).drop 1).drop 1).drop 1).drop 1) 0).toBool) ((V.nth (r2.drop 6) 0).toBool) ((V.nth ((r2.drop 6).drop 1) 0).toBool) ((V.nth (((r2.drop 6).drop 1).drop 1) 0).toBool) ((V.nth ((((r2.drop 6).drop 1).drop 1).drop 1) 0).toBool) ((V.nth (((((r2.drop 6).drop 1).drop 1).drop 1).drop 1) 0).toBool) ((V.nth ((((((r2.drop 6).drop 1).drop 1).drop 1).drop 1).drop 1) 0).toBool)) (0,List.replicate (((V.nth r3 0).toInt:Int).toNat) (V.list ab ([]:LV)))).bind (un fun W5=>un fun (G1:Bool) (aw1:LV)=>
   some [.list ag aw1])
 else none
theorem ajq {table dM:LV} {ma mb:Int} {mc:LV} {me mf:Int} {mg:LV} {r:Option LV} (h:Q4 CC table dM ma mb mc me mf mg=r):CC CJ [.list ag table,.list ab dM,V.int .i64 ma,V.int .i64 mb,.list ai mc,V.int .i64 me,V.int .i64 mf,.list ai mg]=r:=bI (bB (aw0 CC) av) h
noncomputable def Y8 (C:af) (list:LV):Option LV:=
 some [.bool ((list.length:Int)==0)]
theorem ajl {list:LV} {r:Option LV} (h:Y8 CC list=r):CC xZ [.list ab list]=r:=bI (L:=bH) av h
noncomputable def F9 (C:af) (s:LV) (t7 t8:Int) {β:Type} (kn:Int→Option β) (kr:((Int) ⊕ (Int×Bool))→Option β):Option β:=
 bif decide (t8<t7) then
  (idx s t8).bind fun x1=>
  (C xZ [.list ab x1.toList]).bind fun r2=>
  bif (V.nth r2 0).toBool then
  kr (.inl t8)
  else
  kn (wrap .i64 (t8+1))
 else
  kr (.inr (t8,decide (t8<t7)))
noncomputable def Ly (C:af) (s:LV) (t7:Int):=fun t8=>F9 C s t7 t8 (fun y=>some (Sum.inl y)) (fun r=>some (Sum.inr r))
noncomputable def aw2 (C:af):cL:=bR 33 VX [EQ,EQ,H1] [[0],[1,2,0,0]] (@F9 C) bH
theorem aw3 (C:af):bA C (aw2 C) 158 (Lp [1,0,1,0,0] 158):=bS VX [EQ,EQ,H1] [[0],[1,2,0,0]] (@F9 C) (bu av)
noncomputable def Q3 (C:af) (s:LV):Option LV:=
 (Loop (Ly C s (s.length:Int)) 0).bind (fX (fun kO=>
  some [V.int .i64 kO]) (un fun (nK:Int) (mr:Bool)=>
  some [V.int .i64 (-1)]))
theorem Za {s:LV} {r:Option LV} (h:Q3 CC s=r):CC TV [.list ag s]=r:=bI (bB (aw3 CC) av) h
noncomputable def Q2 (C:af) (s:LV):Option LV:=
 (C TV [.list ag s]).bind fun r1=>
 some [.bool (decide ((((V.nth r1 0).toInt):Int)≥0))]
theorem Y9 {s:LV} {r:Option LV} (h:Q2 CC s=r):CC LA [.list ag s]=r:=bI (L:=bH) av h
noncomputable def Q1 (C:af) (fa fb eD fq:LV) (ft:Int) (fu fv fw fx fy fA fB fC fD fE fF aI:LV):Option LV:=
 (C LA [.list ag eD]).bind fun r1=>
 some [.bool ((V.nth r1 0).toBool),.list bG fa,.list bG fb,.list ag eD,.list ag fq,V.int .i64 ft,.list ab fu,.list ab fv,.list ab fw,.list ab fx,.list ab fy,.list ab fA,.list ab fB,.list ab fC,.list ab fD,.list ab fE,.list ab fF,.list ab aI]
theorem ajn {fa fb eD fq:LV} {ft:Int} {fu fv fw fx fy fA fB fC fD fE fF aI:LV} {r:Option LV} (h:Q1 CC fa fb eD fq ft fu fv fw fx fy fA fB fC fD fE fF aI=r):CC CH [.list bG fa,.list bG fb,.list ag eD,.list ag fq,V.int .i64 ft,.list ab fu,.list ab fv,.list ab fw,.list ab fx,.list ab fy,.list ab fA,.list ab fB,.list ab fC,.list ab fD,.list ab fE,.list ab fF,.list ab aI]=r:=bI (L:=bH) av h
noncomputable def JO (C:af) (t9 t10:Int) (lists:LV) {β:Type} (kn:(Int×LV)→Option β) (kr:(Int×Bool×LV)→Option β):Option β:=
 bif decide (t10<t9) then
  aM lists t10 fun x1=>
  kn (wrap .i64 (t10+1),bm lists t10 (V.int .i64 t10))
 else
  kr (t10,decide (t10<t9),lists)
noncomputable def Xh (C:af) (t9:Int):=un fun t10 lists=>JO C t9 t10 lists (fun y=>some (Sum.inl y)) (fun r=>some (Sum.inr r))
noncomputable def aw4 (C:af):cL:=bR 49 VR [EQ,H1,H1] [[1,0,0,0]] (@JO C) bH
theorem aw5 (C:af):bA C (aw4 C) 151 (Lp [1,1,0,1,0,0] 151):=bS VR [EQ,H1,H1] [[1,0,0,0]] (@JO C) (bu av)
noncomputable def agT (C:af) (t:LV):Option LV:=
 bif (decide (0≤(t.length:Int)))&&((decide ((t.length:Int)≤(t.length:Int)))&&(Nat.ble (((t.length:Int).toNat)*8) aY)) then
  (Loop (Xh C ((List.replicate ((t.length:Int).toNat) (V.int .i64 0)).length:Int)) (0,List.replicate ((t.length:Int).toNat) (V.int .i64 0))).bind (un fun A7=>un fun (kO:Bool) (aw6:LV)=>
   some [.list ab aw6])
 else none
theorem aw7 {t:LV} {r:Option LV} (h:agT CC t=r):CC N7 [.list ag t]=r:=bI (bB (aw5 CC) av) h
noncomputable def JP (C:af) (e t6:Int) (sG:LV) (t7:Int) {β:Type} (kn:Int→Option β) (kr:((Bool) ⊕ (Int×Bool))→Option β):Option β:=
 bif decide (t7<t6) then
  (idx sG e).bind fun x1=>
  (idx x1.toList t7).bind fun x2=>
  bif (x2.toInt:Int) != t7 then
  kr (.inl false)
  else
  (idx sG t7).bind fun x3=>
  (idx x3.toList e).bind fun x4=>
  bif (x4.toInt:Int) != t7 then
   kr (.inl false)
  else
   kn (wrap .i64 (t7+1))
 else
  kr (.inr (t7,decide (t7<t6)))
noncomputable def Xi (C:af) (e t6:Int) (sG:LV):=fun t7=>JP C e t6 sG t7 (fun y=>some (Sum.inl y)) (fun r=>some (Sum.inr r))
noncomputable def aw8 (C:af):cL:=bR 33 VT [EQ,EQ,H1,EQ] [[0,4],[1,2,0,0,4]] (@JP C) bH
theorem aw9 (C:af):bA C (aw8 C) 152 (Lp [1,0,1,0,0] 152):=bS VT [EQ,EQ,H1,EQ] [[0,4],[1,2,0,0,4]] (@JP C) (bu av)
noncomputable def agU (C:af) (e:Int) (sG:LV):Option LV:=
 (Loop (Xi C e (sG.length:Int) sG) 0).bind (fX (fun (mr:Bool)=>
  some [.bool mr,.list ag sG]) (un fun (j5:Int) (oD:Bool)=>
  some [.bool true,.list ag sG]))
theorem axa {e:Int} {sG:LV} {r:Option LV} (h:agU CC e sG=r):CC Az [V.int .i64 e,.list ag sG]=r:=bI (bB (aw9 CC) av) h
noncomputable def PJ (C:af) (s:LV) (t7 t8:Int) (fs:LV) {β:Type} (kn:(Int×LV)→Option β) (kr:((Int×LV) ⊕ (Int×Bool×LV))→Option β):Option β:=
 bif decide (t8<t7) then
  (idx s t8).bind fun x1=>
  (C Az [V.int .i64 x1.toInt,.list ag fs]).bind fun r2=>
  bif (V.nth r2 0).toBool then
  kr (.inl (t8,(V.nth (r2.drop 1) 0).toList))
  else
  kn (wrap .i64 (t8+1),(V.nth (r2.drop 1) 0).toList)
 else
  kr (.inr (t8,decide (t8<t7),fs))
noncomputable def agV (C:af) (s:LV) (t7:Int):=un fun t8 fs=>PJ C s t7 t8 fs (fun y=>some (Sum.inl y)) (fun r=>some (Sum.inr r))
noncomputable def axb (C:af):cL:=bR 33 VQ [EQ,EQ,H1,H1] [[0,0],[1,2,0,0,0]] (@PJ C) bH
theorem axc (C:af):bA C (axb C) 150 (Lp [1,0,1,0,0] 150):=bS VQ [EQ,EQ,H1,H1] [[0,0],[1,2,0,0,0]] (@PJ C) (bu av)
noncomputable def agW (C:af) (s fs:LV):Option LV:=
 (Loop (agV C s (s.length:Int)) (0,fs)).bind (fX (un fun (kO:Int) (b_4:LV)=>
  some [V.int .i64 kO,.list ag b_4]) (un fun mr=>un fun (j5:Bool) (axd:LV)=>
  some [V.int .i64 (-1),.list ag axd]))
theorem axe {s fs:LV} {r:Option LV} (h:agW CC s fs=r):CC TU [.list ab s,.list ag fs]=r:=bI (bB (axc CC) av) h
noncomputable def agX (C:af) (t:LV):Option LV:=
 (C N6 [.list ag t]).bind fun r1=>
 bif !((V.nth r1 0).toBool) then
  some [V.int .i64 (-1)]
 else
  (C N7 [.list ag t]).bind fun r2=>
  (C TU [.list ab ((V.nth r2 0).toList),.list ag t]).bind fun r3=>
  some [V.int .i64 ((V.nth r3 0).toInt)]
theorem axf {t:LV} {r:Option LV} (h:agX CC t=r):CC NW [.list ag t]=r:=bI (L:=bH) av h
theorem Lx {R:List (List Nat)}:(RV R).length=R.length:=by simp[RV]
section
variable {K:Nat} {mul:Nat→Nat→Nat} (h:Tb K mul) (ha: ∀i j k,i<K→j<K→k<K→mul (mul i j) k=mul i (mul j k)) (ae: ∀j,j<K→mul 0 j=j∧mul j 0=j)
include h ha ae
theorem aju:CC NW [.list ag (tG K mul)]=some [.int .i64 0]:=by
 have h1:=h.k1;have h4:=h.k4;have el:CC N7 [.list ag (tG K mul)]=some [.list ab (nS (List.range K))]:=by
  refine aw7 ?_;unfold agT;rw[sc];refine bT (gG (by omega) (by omega)) ?_;rw[Int.toNat_natCast,yW];refine bs (ux (fun i a=>((i:Int),a)) K nV (List.replicate K (V.int .i64 0)) (by simp) (fun a=>((K:Int),false,a)) (fun i hi a ha=> ?_) ?_) ?_
  ·simp only[Xh,JO,un,aM,bm];refine bT (bn hi) ((sb (by omega)).trans ?_);rw[bq (by omega),Int.toNat_natCast];rfl
  ·simp only[Xh,JO,un];refine bF (aX (aw _)) ?_;rw[aX (aw _)]
  ·rw[Wh];refine congrArg (fun t=>some [V.list ab t]) ?_;rw[jC];exact c8 fun j hj=>by rw[cE (by simpa using hj)];simp
 have i0:CC Az [.int .i64 0,.list ag (tG K mul)]=some [.bool true,.list ag (tG K mul)]:=by
  refine axa ?_;unfold agU;rw[sc];refine bs (fI K (fun i=>(i:Int)) (.inr ((K:Int),false)) (fun i hi=> ?_) ?_) rfl
  ·simp only[Xi,JP];refine bT (bn hi) (bs (nL (i:=0) (by omega)) (bs (p7 hi) (bF ?_ (bs (nL hi) (bs (p7 (i:=0) (by omega)) (bF ?_ ?_))))))
   ·show (((mul 0 i:Nat):Int) != (i:Int))=false;rw[(ae i hi).1];simp
   ·show (((mul i 0:Nat):Int) != (i:Int))=false;rw[(ae i hi).2];simp
   ·rw[bq (by omega)]
  ·simp only[Xi,JP];rw[aX (aw _)];rfl
 refine axf ?_;unfold agX;refine bs (av0 h ha) (bF rfl (bs el (bs (a:=[.int .i64 0,.list ag (tG K mul)]) (axe ?_) rfl)));unfold agW;rw[show (V.nth [V.list ab (nS (List.range K))] 0).toList=nS (List.range K) from rfl,dC,jC];refine bs (kR (r:= .inl (0,tG K mul)) ?_) rfl;simp only[agV,PJ,un];refine bT (bn (i:=0) h1) (bs (a:=nV 0) ?_ (bs i0 (bT rfl rfl)));have:=iE (S:=List.range K) (i:=0) (by rw[jC];omega);simpa using this
end
noncomputable def LB (C:af) (table dM:LV) (ma mb:Int) (mc:LV) (me mf:Int) (mg:LV):Option LV:=
 (C HU [.list ag table]).bind fun r1=>
 bif (((V.nth r1 0).toInt):Int) != 0 then
  some [V.bool true,V.int .i64 ((V.nth r1 0).toInt)]
 else
  (C HV [.list ag table,.list ab dM]).bind fun r2=>
  bif !((V.nth r2 0).toBool) then
  some [V.bool true,V.int .i64 1]
  else
  (C mq [V.int .i64 ma,V.int .i64 mb,.list ai mc,V.int .i64 me,V.int .i64 mf,.list ai mg]).bind fun r3=>
  bif (((V.nth r3 0).toInt):Int) != 0 then
   some [V.bool true,V.int .i64 21]
  else
   (C NW [.list ag table]).bind fun r4=>
   bif decide ((((V.nth r4 0).toInt):Int)<0) then
   (C ac2 [.list ai ([.agg [V.int .i64 ma,V.int .i64 mb,.list ai mc],.agg [V.int .i64 me,V.int .i64 mf,.list ai mg]]:LV)]).bind fun r5=>
   bif (V.nth r5 0).toBool then
    some [V.bool true,V.int .i64 9]
   else
    (C fO [V.int .i64 ma,V.int .i64 mb,.list ai mc]).bind fun r6=>
    (C fO [V.int .i64 me,V.int .i64 mf,.list ai mg]).bind fun r7=>
    (C CJ [.list ag table,.list ab dM,V.int .i64 ma,V.int .i64 mb,.list ai mc,V.int .i64 me,V.int .i64 mf,.list ai mg]).bind fun r8=>
    (C FQ [.list ag table,V.int .i64 ((V.nth r4 0).toInt),.list FR ([.list bG ((V.nth r6 0).toList),.list bG ((V.nth r7 0).toList)]:LV)]).bind fun r9=>
    bif (decide (0≤(((V.nth r8 0).toList).length:Int)))&&((decide ((((V.nth r8 0).toList).length:Int)≤(((V.nth r8 0).toList).length:Int)))&&(Nat.ble ((((((V.nth r8 0).toList).length:Int):Int).toNat)*8) aY)) then
    some [V.bool false,.list bG ((V.nth r6 0).toList),.list bG ((V.nth r7 0).toList),.list ag ((V.nth r8 0).toList),.list ag ((V.nth r9 0).toList),V.int .i64 ((V.nth (r9.drop 1) 0).toInt),.list ab ((V.nth ((r9.drop 1).drop 1) 0).toList),.list ab ((V.nth (((r9.drop 1).drop 1).drop 1) 0).toList),.list ab ((V.nth ((((r9.drop 1).drop 1).drop 1).drop 1) 0).toList),.list ab ((V.nth (((((r9.drop 1).drop 1).drop 1).drop 1).drop 1) 0).toList),.list ab ((V.nth ((((((r9.drop 1).drop 1).drop 1).drop 1).drop 1).drop 1) 0).toList),.list ab ((V.nth (((((((r9.drop 1).drop 1).drop 1).drop 1).drop 1).drop 1).drop 1) 0).toList),.list ab ((V.nth ((((((((r9.drop 1).drop 1).drop 1).drop 1).drop 1).drop 1).drop 1).drop 1) 0).toList),.list ab ((V.nth (((((((((r9.drop 1).drop 1).drop 1).drop 1).drop 1).drop 1).drop 1).drop 1).drop 1) 0).toList),.list ab ((V.nth ((((((((((r9.drop 1).drop 1).drop 1).drop 1).drop 1).drop 1).drop 1).drop 1).drop 1).drop 1) 0).toList),.list ab ((V.nth (((((((((((r9.drop 1).drop 1).drop 1).drop 1).drop 1).drop 1).drop 1).drop 1).drop 1).drop 1).drop 1) 0).toList),.list ab ((V.nth ((((((((((((r9.drop 1).drop 1).drop 1).drop 1).drop 1).drop 1).drop 1).drop 1).drop 1).drop 1).drop 1).drop 1) 0).toList),.list ab (List.replicate (((((V.nth r8 0).toList).length:Int):Int).toNat) (V.int .i64 0))]
    else none
   else
   (C fO [V.int .i64 ma,V.int .i64 mb,.list ai mc]).bind fun e7=>
   (C fO [V.int .i64 me,V.int .i64 mf,.list ai mg]).bind fun cC=>
   (C CJ [.list ag table,.list ab dM,V.int .i64 ma,V.int .i64 mb,.list ai mc,V.int .i64 me,V.int .i64 mf,.list ai mg]).bind fun uG=>
   (C FQ [.list ag table,V.int .i64 ((V.nth r4 0).toInt),.list FR ([.list bG ((V.nth e7 0).toList),.list bG ((V.nth cC 0).toList)]:LV)]).bind fun gH=>
   bif (decide (0≤(((V.nth uG 0).toList).length:Int)))&&((decide ((((V.nth uG 0).toList).length:Int)≤(((V.nth uG 0).toList).length:Int)))&&(Nat.ble ((((((V.nth uG 0).toList).length:Int):Int).toNat)*8) aY)) then
    some [V.bool false,.list bG ((V.nth e7 0).toList),.list bG ((V.nth cC 0).toList),.list ag ((V.nth uG 0).toList),.list ag ((V.nth gH 0).toList),V.int .i64 ((V.nth (gH.drop 1) 0).toInt),.list ab ((V.nth ((gH.drop 1).drop 1) 0).toList),.list ab ((V.nth (((gH.drop 1).drop 1).drop 1) 0).toList),.list ab ((V.nth ((((gH.drop 1).drop 1).drop 1).drop 1) 0).toList),.list ab ((V.nth (((((gH.drop 1).drop 1).drop 1).drop 1).drop 1) 0).toList),.list ab ((V.nth ((((((gH.drop 1).drop 1).drop 1).drop 1).drop 1).drop 1) 0).toList),.list ab ((V.nth (((((((gH.drop 1).drop 1).drop 1).drop 1).drop 1).drop 1).drop 1) 0).toList),.list ab ((V.nth ((((((((gH.drop 1).drop 1).drop 1).drop 1).drop 1).drop 1).drop 1).drop 1) 0).toList),.list ab ((V.nth (((((((((gH.drop 1).drop 1).drop 1).drop 1).drop 1).drop 1).drop 1).drop 1).drop 1) 0).toList),.list ab ((V.nth ((((((((((gH.drop 1).drop 1).drop 1).drop 1).drop 1).drop 1).drop 1).drop 1).drop 1).drop 1) 0).toList),.list ab ((V.nth (((((((((((gH.drop 1).drop 1).drop 1).drop 1).drop 1).drop 1).drop 1).drop 1).drop 1).drop 1).drop 1) 0).toList),.list ab ((V.nth ((((((((((((gH.drop 1).drop 1).drop 1).drop 1).drop 1).drop 1).drop 1).drop 1).drop 1).drop 1).drop 1).drop 1) 0).toList),.list ab (List.replicate (((((V.nth uG 0).toList).length:Int):Int).toNat) (V.int .i64 0))]
   else none
theorem ajs {table dM:LV} {ma mb:Int} {mc:LV} {me mf:Int} {mg:LV} {r:Option LV} (h:LB CC table dM ma mb mc me mf mg=r):CC CK [.list ag table,.list ab dM,V.int .i64 ma,V.int .i64 mb,.list ai mc,V.int .i64 me,V.int .i64 mf,.list ai mg]=r:=bI (L:=bH) av h
end Go.AM
