/-
  Functions of the program, lifted to plain data.
-/
import Derived.Great.BuildSlice
import Derived.Maps.Keyed
import Derived.WideKeyArr
import Derived.MapKept
import Derived.ChangeMaps4
import Derived.Carry
import Derived.Test.YtkbdjbcjpcodcaaGreatDoorP1
noncomputable section
set_option linter.unusedVariables false
set_option linter.unusedSimpArgs false
set_option linter.unusedSectionVars false
namespace Go.AM
section
variable {P:Program} {w w':World} {I I':Nat→Nat→Prop} {β β':Nat→Option Nat} {hp hp':Nat→Option ah} {C:af} {B:Nat} {M:Nat→Prop} {w0:Start}
theorem ph.xb {t:TypeId} {v:Value} {x:V} (h:ph P w I t v x):ik P t x=x:=by
 cases h with
 | gy _ p=>exact p.xb
 | emp hu=>exact rp hu
 | row hu _ _ _ _=>exact rp hu
theorem Ci {new:List V} {e ea:TypeId} {i c:Nat} {q:Path} {es dn:List V} {x:V} (hx:es[i]? =some x) (hp:(parts P e x)[c]? =some (.list ea dn)):
  setRow P new e es ((i,c)::q)=es.set i (dA P e ((parts P e x).set c (.list ea (setRow P new ea dn q)))):=by
 simp only[setRow,hx,hp]
theorem Gb {b:Nat} {e t:TypeId} {es:List V} {i c:Nat} {x y:V} (hR:iP P w I b e es) (hx:es[i]? =some x) (ht:(aX P e)[c]? =some t):
  ∀{i' c':Nat} {x':V} {t':TypeId},(es.set i (dA P e ((parts P e x).set c y)))[i']? =some x'→(aX P e)[c']? =some t'→
   ∃x0,es[i']? =some x0∧ch P e x' c'=if i'=i∧c'=c then y else ch P e x0 c':=by
 intro i' c' x' t' dk gA;have pq:i<es.length:=(cC.1 hx).1;have yA:c<(aX P e).length:=(cC.1 ht).1;have Ln:c'<(aX P e).length:=(cC.1 gA).1;by_cases hi:i'=i
 ·subst hi;rw[qc pq] at dk;cases dk;refine ⟨x,hx,?_⟩;by_cases hc:c'=c
  ·subst hc;rw[aA ⟨rfl,rfl⟩];exact vd (qc (by rw[BC];exact yA)) gA
  ·rw[aw (fun h=>hc h.2)];have h1:((parts P e x).set c y)[c']? =some (ik P t' (ch P e x c')):=by
    rw[wA (fun h=>hc h.symm)];exact rn gA
   rw[vd h1 gA];obtain ⟨Ca,_,_,_,_,vw⟩:=hR.cells;obtain ⟨v,_,ho⟩:=vw i' c' x t' hx gA (by rw[←fG hR.ok];exact Ln);exact ho.xb
 ·rw[wA (fun h=>hi h.symm)] at dk;exact ⟨x',dk,by rw[aw (fun h=>hi h.1)]⟩
theorem QP {b b1:Nat} {e e1:TypeId} {es l l':List V} {p:Path} (h:At P w b e es p b1 e1 l) (hl:l'.length=l.length):(setRow P l' e es p).length=es.length:=by
 cases h with
 | here=>exact hl
 | step h1 h2 h3 h4 h5 h6 h7 h8=>
  rw[Ci h2 (by rw[rn h3,h5,rp h4])];simp
theorem At.akl {b b1:Nat} {e e1:TypeId} {es l l':List V} {p:Path} (QQ:At P w b e es p b1 e1 l) (hw: ∀k,k≠b1→w'.heap[k]? =w.heap[k]?) (hl:l'.length=l.length):
  (∀q b' e' m,At P w b e es q b' e' m→iP P w I b' e' m)→(∀q e' m,At P w b e es q b1 e' m→q=p)→
  ∀q b' e' m,At P w' b e (setRow P l' e es p) q b' e' m→
   (∃r m0,p=q++r∧At P w b e es q b' e' m0∧m=setRow P l' e' m0 r)∨
   (∃r,r≠[]∧q=p++r∧At P w' b1 e1 l' r b' e' m)∨
   (At P w b e es q b' e' m∧b'≠b1∧¬q <+: p∧¬p <+: q):=by
 induction QQ with
 | here=>
  intro c6 nF q b' e' m h;cases q with
  | nil=>cases h with|here=>exact .inl ⟨[],_,rfl,.here,rfl⟩
  | cons a q=>exact .inr (.inl ⟨a::q,by simp,rfl,h⟩)
 | @step b i c b2 len cap b1 e t ea e1 es dn l p Ca T f x h1 h2 h3 h4 h5 h6 h7 h8 ih=>
  intro c6 nF q b' e' m h;have oH:(parts P e x)[c]? =some (.list ea dn):=by rw[rn h3,h5,rp h4]
  rw[Ci h2 oH] at h;have hR:=c6 _ _ _ _ .here;have hb:b≠b1:=by
   intro hb;subst hb;have:=nF [] _ _ .here;cases this
  have QR:=ih hw hl (fun q b' e' m h=>c6 _ _ _ _ (.step h1 h2 h3 h4 h5 h6 h7 h)) (fun q e' m h=>by
   have:=nF _ _ _ (.step h1 h2 h3 h4 h5 h6 h7 h);exact (List.cons.inj this).2)
  cases h with
  | here=>exact .inl ⟨_,es,rfl,.here,(Ci h2 oH).symm⟩
  | @step _ i' c' b3 akm QS _ _ t' e3 _ _ jn _ q yz T' f' x' k1 k2 k3 k4 k5 k6 k7 k8=>
   rw[hw b hb] at k1;obtain ⟨x0,y1,y2⟩:=Gb hR h2 h3 k2 k3;by_cases jI:i'=i∧c'=c
   ·rw[aA jI] at y2;obtain ⟨rfl,rfl⟩:=jI;rw[h1] at k1;cases k1;rw[h7] at k7;cases k7;rw[k5] at y2;cases y2;rcases QR _ _ _ _ k8 with ⟨r,m0,z1,z2,z3⟩|⟨r,z1,z2,z3⟩|⟨z1,z2,z3,z4⟩
    ·exact .inl ⟨r,m0,by rw[z1];rfl,.step h1 h2 h3 h4 h5 h6 h7 z2,z3⟩
    ·exact .inr (.inl ⟨r,z1,by rw[z2];rfl,z3⟩)
    ·refine .inr (.inr ⟨.step h1 h2 h3 h4 h5 h6 h7 z1,z2,fun hh=>z3 ?_,fun hh=>z4 ?_⟩)
     ·exact (wC.1 hh).2
     ·exact (wC.1 hh).2
   ·rw[aw jI,k5] at y2;have bq: ∀q2 b5 e5 kC,At P w b3 e3 jn q2 b5 e5 kC→b5≠b1:=by
     intro q2 b5 e5 kC hq za;subst za;have:=nF _ _ _ (.step k1 y1 k3 k4 y2.symm k6 k7 hq);injection this with h1 h2;injection h1 with h1 h3;exact jI ⟨h1,h3⟩
    have lL:=k8.wX (w:=w) fun q2 b5 e5 kC hq=>hw b5 (bq q2 b5 e5 kC hq);refine .inr (.inr ⟨.step k1 y1 k3 k4 y2.symm k6 k7 lL,bq _ _ _ _ lL,fun hh=> ?_,fun hh=> ?_⟩)
    ·have:=(wC.1 hh).1;injection this with h1 h3;exact jI ⟨h1,h3⟩
    ·have:=(wC.1 hh).1;injection this with h1 h3;exact jI ⟨h1.symm,h3.symm⟩
theorem At.xq {b b1:Nat} {e e1:TypeId} {es l l':List V} {p:Path} (QQ:At P w b e es p b1 e1 l) (hw: ∀k,k≠b1→w'.heap[k]? =w.heap[k]?) (hl:l'.length=l.length):
  (∀q b' e' m,At P w b e es q b' e' m→iP P w I b' e' m)→(∀q e' m,At P w b e es q b1 e' m→q=p)→
  ∀q b' e' m,At P w b e es q b' e' m→
   (∃r,p=q++r∧At P w' b e (setRow P l' e es p) q b' e' (setRow P l' e' m r)∧∃e1' m1,At P w b' e' m r b1 e1' m1∧m1=l)∨
   (∃r,r≠[]∧q=p++r∧At P w b1 e1 l r b' e' m∧(∀b2 e2 m2,At P w' b1 e1 l' r b2 e2 m2→At P w' b e (setRow P l' e es p) q b2 e2 m2))∨
   (At P w' b e (setRow P l' e es p) q b' e' m∧b'≠b1∧¬q <+: p∧¬p <+: q):=by
 induction QQ with
 | here=>
  intro c6 nF q b' e' m h;cases q with
  | nil=>cases h with|here=>exact .inl ⟨[],rfl,.here,_,_,.here,rfl⟩
  | cons a q=>exact .inr (.inl ⟨a::q,by simp,rfl,h,fun _ _ _ h=>h⟩)
 | @step b i c b2 len cap b1 e t ea e1 es dn l p Ca T f x h1 h2 h3 h4 h5 h6 h7 h8 ih=>
  intro c6 nF q b' e' m h;have oH:(parts P e x)[c]? =some (.list ea dn):=by rw[rn h3,h5,rp h4]
  have jm:=Ci (new:=l') (q:=p) h2 oH;have hR:=c6 _ _ _ _ .here;have pq:i<es.length:=(cC.1 h2).1;have hb:b≠b1:=by
   intro hb;subst hb;have:=nF [] _ _ .here;cases this
  have QR:=ih hw hl (fun q b' e' m h=>c6 _ _ _ _ (.step h1 h2 h3 h4 h5 h6 h7 h)) (fun q e' m h=>by
   have:=nF _ _ _ (.step h1 h2 h3 h4 h5 h6 h7 h);exact (List.cons.inj this).2)
  have pn:=(hw b hb).trans h1;have Gc:(es.set i (dA P e ((parts P e x).set c (.list ea (setRow P l' ea dn p)))))[i]? =some (dA P e ((parts P e x).set c (.list ea (setRow P l' ea dn p)))):=qc pq;have QT:ch P e (dA P e ((parts P e x).set c (.list ea (setRow P l' ea dn p)))) c= .list ea (setRow P l' ea dn p):=by
   obtain ⟨x0,y1,y2⟩:=Gb hR h2 h3 Gc h3;rw[aA ⟨rfl,rfl⟩] at y2;exact y2
  cases h with
  | here=>
   exact .inl ⟨(i,c)::p,rfl,.here,_,_,.step h1 h2 h3 h4 h5 h6 h7 h8,rfl⟩
  | @step _ i' c' b3 akm QS _ _ t' e3 _ _ jn _ q yz T' f' x' k1 k2 k3 k4 k5 k6 k7 k8=>
   rw[jm];by_cases jI:i'=i∧c'=c
   ·obtain ⟨rfl,rfl⟩:=jI;rw[h1] at k1;cases k1;rw[h7] at k7;cases k7;rw[h3] at k3;cases k3;rw[h4] at k4;cases k4;rw[h2] at k2;cases k2;rw[h5] at k5;cases k5;rcases QR _ _ _ _ k8 with ⟨r,z1,z2,z3⟩|⟨r,z1,z2,z3,z4⟩|⟨z1,z2,z3,z4⟩
    ·exact .inl ⟨r,by rw[z1];rfl,.step pn Gc h3 h4 QT h6 h7 z2,z3⟩
    ·exact .inr (.inl ⟨r,z1,by rw[z2];rfl,z3,fun b2 e2 m2 hh=> .step pn Gc h3 h4 QT h6 h7 (z4 b2 e2 m2 hh)⟩)
    ·refine .inr (.inr ⟨.step pn Gc h3 h4 QT h6 h7 z1,z2,fun hh=>z3 ?_,fun hh=>z4 ?_⟩)
     ·exact (wC.1 hh).2
     ·exact (wC.1 hh).2
   ·have bq: ∀q2 b5 e5 kC,At P w b3 e3 jn q2 b5 e5 kC→b5≠b1:=by
     intro q2 b5 e5 kC hq za;subst za;have:=nF _ _ _ (.step k1 k2 k3 k4 k5 k6 k7 hq);injection this with h1 h2;injection h1 with h1 h3;exact jI ⟨h1,h3⟩
    have lL:=k8.mono (w':=w') fun q2 b5 e5 kC hq=>hw b5 (bq q2 b5 e5 kC hq);have QU: ∃x2,(es.set i (dA P e ((parts P e x).set c (.list ea (setRow P l' ea dn p)))))[i']? =some x2:=by
     have:i'<es.length:=(cC.1 k2).1;exact ⟨_,b7 (by rw[o4];exact this)⟩
    obtain ⟨x2,kZ⟩:=QU;obtain ⟨x0,y1,y2⟩:=Gb hR h2 h3 kZ k3;rw[aw jI] at y2;rw[k2] at y1;cases y1;rw[k5] at y2;refine .inr (.inr ⟨.step ((hw b hb).trans k1) kZ k3 k4 y2 k6 k7 lL,bq _ _ _ _ k8,fun hh=> ?_,fun hh=> ?_⟩)
    ·have:=(wC.1 hh).1;injection this with h1 h3;exact jI ⟨h1,h3⟩
    ·have:=(wC.1 hh).1;injection this with h1 h3;exact jI ⟨h1.symm,h3.symm⟩
theorem At.fun {b b1:Nat} {e e1:TypeId} {es l:List V} {q:Path} (h:At P w b e es q b1 e1 l): ∀{b2 e2 l2},At P w b e es q b2 e2 l2→b2=b1∧e2=e1∧l2=l:=by
 induction h with
 | here=>intro b2 e2 l2 h2;cases h2;exact ⟨rfl,rfl,rfl⟩
 | step h1 h2 h3 h4 h5 h6 h7 h8 ih=>
  intro b2 e2 l2 k;cases k with
  | step k1 k2 k3 k4 k5 k6 k7 k8=>
   rw[h1] at k1;cases k1;rw[h7] at k7;cases k7;rw[h2] at k2;cases k2;rw[h5] at k5;cases k5;exact ih k8
theorem At.split: ∀{q r:Path} {b b1:Nat} {e e1:TypeId} {es l:List V},At P w b e es (q++r) b1 e1 l→∃b' e' m,At P w b e es q b' e' m∧At P w b' e' m r b1 e1 l
 | [],r,b,b1,e,e1,es,l,h=>⟨_,_,_,.here,h⟩
 | a::q,r,b,b1,e,e1,es,l,h=>by
  cases h with
  | step h1 h2 h3 h4 h5 h6 h7 h8=>
   obtain ⟨b',e',m,k1,k2⟩:=At.split h8;exact ⟨b',e',m,.step h1 h2 h3 h4 h5 h6 h7 k1,k2⟩
theorem iP.cQ {b:Nat} {e:TypeId} {es:List V} (h:iP P w I b e es) (hw:w'.heap[b]? =w.heap[b]?) (hI: ∀k j,I k j→w'.cell? ⟨k,j,none⟩=w.cell? ⟨k,j,none⟩) (kq: ∀k,bsize w' k=bsize w k):iP P w' I b e es:=by
 obtain ⟨ok,⟨Ca,T,c1,c0,c2,c3⟩,nI⟩:=h;refine ⟨ok,⟨Ca,T,hw.trans c1,c0,c2,fun i j x t' k1 k2 k3=> ?_⟩,nI⟩;obtain ⟨v,m1,m2⟩:=c3 i j x t' k1 k2 k3;exact ⟨v,m1,m2.mono (fun _ _ h=>h) hI fun b' _ _ _ _=>kq b'⟩
theorem iP.above {b b1 b2 i c len cap:Nat} {e e1 t ea:TypeId} {es dn l l':List V} {r:Path} {Ca:Array Value} {T:TypeId} {f:Nat×Nat} {x:V} (hR:iP P w I b e es)
  (h1:w.heap[b]? =some (.cells Ca T f)) (h2:es[i]? =some x) (h3:(aX P e)[c]? =some t) (h4:P.underlying t=some (.slice ea)) (h5:ch P e x c= .list ea dn) (h6:0<cap)
  (h7:Ca[i*P.cellsOf e+c]? =some (.slice (some ⟨b2,0,none⟩) len cap)) (h8:At P w b2 ea dn r b1 e1 l) (hl:l'.length=l.length)
  (hw:w'.heap[b]? =w.heap[b]?) (hI: ∀k j,I k j→w'.cell? ⟨k,j,none⟩=w.cell? ⟨k,j,none⟩) (kq: ∀k,bsize w' k=bsize w k):iP P w' I b e (setRow P l' e es ((i,c)::r)):=by
 have oH:(parts P e x)[c]? =some (.list ea dn):=by rw[rn h3,h5,rp h4]
 rw[Ci h2 oH];have hR0:=hR;obtain ⟨ok,⟨yz,_,c1,c0,c2,c3⟩,nI⟩:=hR;rw[h1] at c1;cases c1;refine ⟨ok,⟨Ca,_,hw.trans h1,c0,by simpa using c2,fun i' j x' t' k1 k2 k3=> ?_⟩,nI⟩;obtain ⟨x0,y1,y2⟩:=Gb hR0 h2 h3 k1 k2;obtain ⟨v,m1,m2⟩:=c3 i' j x0 t' y1 k2 k3;refine ⟨v,m1,?_⟩;have m3:ph P w' I t' v (ch P e x0 j):=m2.mono (fun _ _ h=>h) hI fun b' _ _ _ _=>kq b';rw[y2];by_cases jI:i'=i∧j=c
 ·rw[aA jI];obtain ⟨rfl,rfl⟩:=jI;rw[h2] at y1;cases y1;rw[h3] at k2;cases k2;rw[h5] at m3;have hlen:=QP (l':=l') h8 hl;rw[h7] at m1;cases m1;generalize hy:V.list ea dn=y at m3;cases m3 with
  | gy a p=>unfold dY at a;rw[h4] at a;cases a
  | emp a=>exact absurd h6 (na _)
  | row a b c d e=>
   cases hy;rw[←hlen];exact .row a b c (by omega) e
 ·rw[aw jI];exact m3
theorem akn (S:aC P w I β hp B M w0) {id b b1 i c:Nat} {e0 e1:TypeId} {es l l':List V} {vers vers':List Nat} {path:Path} (K:Path→Nat→TypeId→List V→Prop)
  (ae:hp id=some (.nest e0 es vers)) (hb:β id=some b) (ha:At P w b e0 es path b1 e1 l) (hl:l'.length=l.length)
  (hw: ∀k,k≠b1→w'.heap[k]? =w.heap[k]?) (kq: ∀k,bsize w' k=bsize w k) (bd:w'.heap.size=w.heap.size) (nk:w'.os=w.os∧w'.output=w.output)
  (ako:iP P w' I b1 e1 l')
  (Y3: ∀a r b' e' m,At P w' b1 e1 l' (a::r) b' e' m→b'≠b1∧(At P w b1 e1 l (a::r) b' e' m∨(a=(i,c)∧K r b' e' m)))
  (hK: ∀r b' e' m,K r b' e' m→iP P w I b' e' m∧(M b'∨B≤b')∧(∀aJ cI,hp aJ=some cI→¬bh P w (β aJ) cI b'))
  (tL: ∀r1 r2 b' e1 m1 e2 m2,K r1 b' e1 m1→K r2 b' e2 m2→r1=r2)
  (sj:vers'.length=vers.length) (EH: ∀k,bB vers k≤bB vers' k)
  (xr: ∀(r:Path) i' c' t' v ea l0,(path++r).length<vers.length→bB vers' (path++r).length=bB vers (path++r).length→P.underlying t'=some (.slice ea)→qh P w b1 e1 l r i' c' t' v (.list ea l0)→
   ∃Cj,Cj.length=l0.length∧qh P w' b1 e1 l' r i' c' t' v (.list ea Cj)):
  Le P w I β hp w' I β (an hp id (some (.nest e0 (setRow P l' e0 es path) vers')))∧aC P w' I β (an hp id (some (.nest e0 (setRow P l' e0 es path) vers'))) B M w0:=by
 have hr:=S.h.rel id _ ae;rw[hb] at hr;cases hr with
 | jc au=>cases au
 | nest au c6 mc=>
 cases au;have nF: ∀q e' m,At P w b e0 es q b1 e' m→q=path:=fun q e' m h=>mc _ _ _ _ _ _ _ h ha;have dp: ∀j,¬I b1 j:=(c6 _ _ _ _ ha).nI;have xt: ∀k j,I k j→w'.cell? ⟨k,j,none⟩=w.cell? ⟨k,j,none⟩:=fun k j hk=>World.cell?_of_block (hw k (fun e=>dp j (e▸hk)));have Y4:bh P w (β id) (.nest e0 es vers) b1:= .row hb ha;have same: ∀{aq cI b'},aq≠id→hp aq=some cI→bh P w (β aq) cI b'→w'.heap[b']? =w.heap[b']? :=
  fun hi h ho=>hw _ fun e=>hi (S.h.inj _ _ _ _ b1 h ae (e▸ho) Y4)
 have Ck:(setRow P l' e0 es path).length=es.length:=QP ha hl;have xq:=At.akl (I:=I) (w':=w') (l':=l') ha hw hl c6 nF;have QV: ∀q b' e' m,At P w' b e0 (setRow P l' e0 es path) q b' e' m→(∃e2 m2,At P w b e0 es q b' e2 m2)∨∃r,q=path++(i,c)::r∧K r b' e' m:=by
  intro q b' e' m h;rcases xq q b' e' m h with ⟨r,m0,z1,z2,z3⟩|⟨r,z1,z2,z3⟩|⟨z1,z2,z3,z4⟩
  ·exact .inl ⟨_,_,z2⟩
  ·cases r with
   | nil=>exact absurd rfl z1
   | cons a r=>
    obtain ⟨y1,y2⟩:=Y3 a r b' e' m z3;rcases y2 with y2|⟨rfl,y2⟩
    ·exact .inl ⟨_,_,by rw[z2];exact ha.app y2⟩
    ·exact .inr ⟨r,z2,y2⟩
  ·exact .inl ⟨_,_,z1⟩
 have sw: ∀b',bh P w' (β id) (.nest e0 (setRow P l' e0 es path) vers') b'→bh P w (β id) (.nest e0 es vers) b'∨((M b'∨B≤b')∧∀aJ cI,hp aJ=some cI→¬bh P w (β aJ) cI b'):=by
  intro b' ho;cases ho with
  | root _ h=>exact .inl (.root (by simp) h)
  | row h1 h2=>
   rw[hb] at h1;cases h1;rcases QV _ _ _ _ h2 with ⟨e2,m2,h⟩|⟨r,_,h⟩
   ·exact .inl (.row hb h)
   ·exact .inr (hK _ _ _ _ h).2
 have hle:Le P w I β hp w' I β (an hp id (some (.nest e0 (setRow P l' e0 es path) vers'))):=by
  refine ⟨fun _ _ h=>h,xt,fun aq cI h=> ?_,fun aq cI kR b' h h3 hd3 au=>kq b',fun aq e bW vs e' aL EA b2 q i' c' t v ea l0 h h' eA aR hv ht hc=> ?_⟩
  ·by_cases hi:aq=id
   ·subst hi;rw[ae] at h;cases h;exact ⟨_,bK _ _ _,⟨rfl,Ck.symm,sj.symm,EH⟩,fun _=>rfl⟩
   ·exact ⟨cI,by rw[cG _ _ hi];exact h,ah.le_refl _,fun _=>rfl⟩
  ·by_cases hi:aq=id
   ·subst hi;rw[ae] at h;cases h;rw[bK] at h';cases h';rw[hb] at eA;cases eA;obtain ⟨b',e',m,Ca,T,f,x,k1,k2,k3,k4,k5,k6⟩:=hc;rcases At.xq (I:=I) (w':=w') (l':=l') ha hw hl c6 nF q b' e' m k1 with ⟨r,z1,z2,e2,m2,z3,_⟩|⟨r,z1,z2,z3,z4⟩|⟨z1,z2,z3,z4⟩
    ·cases r with
     | nil=>
      cases z3;rw[rY] at z1;subst z1;obtain ⟨w1,w2,w3⟩:=ha.fun k1;subst w2;subst w3;obtain ⟨Cj,g1,g2⟩:=xr [] i' c' t v ea l0 (by simpa using aR) (by simpa using hv) ht ⟨_,_,_,Ca,T,f,x,.here,k2,k3,k4,k5,k6⟩;refine ⟨Cj,g1,?_⟩;obtain ⟨b5,e5,kC,C5,T5,f5,x5,q1,q2,q3,q4,q5,q6⟩:=g2;cases q1;exact ⟨_,_,_,C5,T5,f5,x5,z2,q2,q3,q4,q5,q6⟩
     | cons a r=>
      cases z3 with
      | @step _ i2 c2 b3 len cap _ _ t3 QW _ _ jn _ r Ca3 T3 f3 x3 g1 g2 g3 g4 g5 g6 g7 g8=>
       have au:b'≠b1:=by
        intro e;subst e;have:=nF _ _ _ k1;rw[this] at z1;have:=congrArg List.length z1;simp at this
       have oH:(parts P e' x3)[c2]? =some (.list QW jn):=by rw[rn g3,g5,rp g4]
       rw[Ci g2 oH] at z2;have QU: ∃x2,(m.set i2 (dA P e' ((parts P e' x3).set c2 (.list QW (setRow P l' QW jn r)))))[i']? =some x2:=by
        have:i'<m.length:=(cC.1 k3).1;exact ⟨_,b7 (by rw[o4];exact this)⟩
       obtain ⟨x2,kZ⟩:=QU;obtain ⟨x0,y1,y2⟩:=Gb (c6 _ _ _ _ k1) g2 g3 kZ k4;rw[k3] at y1;cases y1;have g8l:=(ha.fun ((k1.app (.step g1 g2 g3 g4 g5 g6 g7 g8)) |> fun h=>by rw[z1];exact h)).2.2;by_cases jI:i'=i2∧c'=c2
       ·rw[aA jI] at y2;obtain ⟨rfl,rfl⟩:=jI;rw[k3] at g2;cases g2;rw[k5] at g5;cases g5;exact ⟨_,QP g8 (by rw[hl,g8l]),b',e',_,Ca,T,f,x2,z2,(hw b' au).trans k2,kZ,k4,y2,k6⟩
       ·rw[aw jI,k5] at y2;exact ⟨l0,rfl,b',e',_,Ca,T,f,x2,z2,(hw b' au).trans k2,kZ,k4,y2,k6⟩
    ·subst z2;obtain ⟨Cj,g1,g2⟩:=xr r i' c' t v ea l0 aR hv ht ⟨_,_,_,Ca,T,f,x,z3,k2,k3,k4,k5,k6⟩;obtain ⟨b5,e5,kC,C5,T5,f5,x5,q1,q2,q3,q4,q5,q6⟩:=g2;exact ⟨Cj,g1,_,_,_,C5,T5,f5,x5,z4 _ _ _ q1,q2,q3,q4,q5,q6⟩
    ·exact ⟨l0,rfl,b',e',m,Ca,T,f,x,z1,(hw b' z2).trans k2,k3,k4,k5,k6⟩
   ·rw[cG _ _ hi,h] at h';cases h';exact ⟨l0,rfl,hc.mono fun _ _ _ _ hh=>same hi h (.row eA hh)⟩
 have hold: ∀{aq cI b'},an hp id (some (.nest e0 (setRow P l' e0 es path) vers')) aq=some cI→bh P w' (β aq) cI b'→
   (∃kR,hp aq=some kR∧bh P w (β aq) kR b')∨(aq=id∧(M b'∨B≤b')∧∀aJ cI,hp aJ=some cI→¬bh P w (β aJ) cI b'):=by
  intro aq cI b' h ho;by_cases hi:aq=id
  ·subst hi;rw[bK] at h;cases h;rcases sw b' ho with h|h
   ·exact .inl ⟨_,ae,h⟩
   ·exact .inr ⟨rfl,h⟩
  ·rw[cG _ _ hi] at h;exact .inl ⟨cI,h,ho.mono fun b2 sr=>same hi h sr⟩
 refine ⟨hle,⟨⟨fun aq cI h=> ?_,fun i1 i2 b1 b2 b' h1 h2 o1 o2=> ?_,fun aq cI b' h ho=> ?_,fun b' h=>by rw[bd];exact S.h.jV b' h⟩,fun b' h1 h2=> ?_,by rw[bd];exact S.size,S.new,⟨nk.1.trans S.io.1,nk.2.trans S.io.2⟩⟩⟩
 ·by_cases hi:aq=id
  ·subst hi;rw[bK] at h;cases h;rw[hb];refine .nest rfl (fun q b' e' m h=> ?_) (fun q1 q2 b' f1 m1 f2 m2 h1 h2=> ?_)
   ·rcases xq q b' e' m h with ⟨r,m0,z1,z2,z3⟩|⟨r,z1,z2,z3⟩|⟨z1,z2,z3,z4⟩
    ·subst z3;subst z1;obtain ⟨b5,e5,m5,g1,g2⟩:=At.split ha;obtain ⟨w1,w2,w3⟩:=g1.fun z2;subst w1;subst w2;subst w3;cases r with
     | nil=>cases g2;exact ako
     | cons a r=>
      cases g2 with
      | step g1' g2 g3 g4 g5 g6 g7 g8=>
       refine (c6 _ _ _ _ z2).above g1' g2 g3 g4 g5 g6 g7 g8 hl (hw _ fun e=> ?_) xt kq;subst e;have:=nF _ _ _ z2;have:=congrArg List.length this;simp at this
    ·cases r with
     | nil=>exact absurd rfl z1
     | cons a r=>
      obtain ⟨y1,y2⟩:=Y3 a r b' e' m z3;rcases y2 with y2|⟨rfl,y2⟩
      ·exact (c6 _ _ _ _ (ha.app y2)).cQ (hw _ y1) xt kq
      ·exact (hK _ _ _ _ y2).1.cQ (hw _ y1) xt kq
    ·exact (c6 _ _ _ _ z1).cQ (hw _ z2) xt kq
   ·rcases QV _ _ _ _ h1 with ⟨e2,m2',x1⟩|⟨r1,x1,x2⟩<;>rcases QV _ _ _ _ h2 with ⟨e3,m3',y1⟩|⟨r2,y1,y2⟩
    ·exact mc _ _ _ _ _ _ _ x1 y1
    ·exact absurd (bh.row hb x1) ((hK _ _ _ _ y2).2.2 _ _ ae)
    ·exact absurd (bh.row hb y1) ((hK _ _ _ _ x2).2.2 _ _ ae)
    ·rw[x1,y1,tL _ _ _ _ _ _ _ x2 y2]
  ·rw[cG _ _ hi] at h;exact (S.h.rel aq cI h).mono hle fun b' ho=>⟨same hi h ho,fun _ h=>h⟩
 ·rcases hold h1 o1 with ⟨c1,x1,y1⟩|⟨rfl,x1,y1⟩<;>rcases hold h2 o2 with ⟨c2,x2,y2⟩|⟨rfl,x2,y2⟩
  ·exact S.h.inj i1 i2 c1 c2 b' x1 x2 y1 y2
  ·exact absurd y1 (y2 _ _ x1)
  ·exact absurd y2 (y1 _ _ x2)
  ·rfl
 ·rcases hold h ho with ⟨c1,x1,y1⟩|⟨rfl,x1,y1⟩
  ·exact S.h.own aq c1 b' x1 y1
  ·exact x1
 ·rw[hw b' fun e=> ?_]
  ·exact S.cQ b' h1 h2
  ·subst e;rcases S.h.own id _ b' ae Y4 with h|h
   ·exact h2 h
   ·omega
theorem akp {i i' n c c' k:Nat} (hc':c'<n) (qw:c+k≤n) (h1:i*n+c≤i'*n+c') (h2:i'*n+c'<i*n+c+k):i'=i∧c≤c'∧c'<c+k:=by
 have:i'=i:=by
  rcases Nat.lt_trichotomy i' i with h|h|h
  ·have:=eF n (Nat.succ_le_of_lt h);rw[Nat.succ_mul] at this;omega
  ·exact h
  ·have:=eF n (Nat.succ_le_of_lt h);rw[Nat.succ_mul] at this;omega
 subst this;omega
theorem akq {b1 i c:Nat} {e1 T:TypeId} {l cs:List V} {x0:V} {Ca:Array Value} {vs:List Value} (hR:iP P w I b1 e1 l) (hh:w.heap[b1]? =some (.cells Ca T (0,0))) (hs:l.length*P.cellsOf e1≤Ca.size)
  (hx:l[i]? =some x0) (hk:cs.length=vs.length) (qw:c+cs.length≤P.cellsOf e1):
  ∀{i' c':Nat} {x':V} {t':TypeId},(l.set i (dA P e1 (jx (parts P e1 x0) c cs)))[i']? =some x'→(aX P e1)[c']? =some t'→
   ∃x1,l[i']? =some x1∧((∃j y u,i'=i∧c'=c+j∧cs[j]? =some y∧vs[j]? =some u∧ch P e1 x' c'=y∧(Ca.toList.take (i*P.cellsOf e1+c)++(vs++Ca.toList.drop (i*P.cellsOf e1+c+vs.length))).toArray[i'*P.cellsOf e1+c']? =some u)∨
    (ch P e1 x' c'=ch P e1 x1 c'∧(Ca.toList.take (i*P.cellsOf e1+c)++(vs++Ca.toList.drop (i*P.cellsOf e1+c+vs.length))).toArray[i'*P.cellsOf e1+c']? =Ca[i'*P.cellsOf e1+c']?)):=by
 intro i' c' x' t' dk gA;have pq:i<l.length:=(cC.1 hx).1;have Ln:c'<P.cellsOf e1:=by rw[←fG hR.ok];exact (cC.1 gA).1
 have eH:(parts P e1 x0).length=P.cellsOf e1:=by rw[BC];exact fG hR.ok
 have hbound:i*P.cellsOf e1+c+vs.length≤Ca.toList.length:=by
  have:(i+1)*P.cellsOf e1≤l.length*P.cellsOf e1:=eF _ pq;rw[jh] at this;simp only[Array.length_toList];omega
 simp only[o3];rw[rq _ _ _ _ hbound];by_cases mM:i'=i∧c≤c'∧c'<c+cs.length
 ·obtain ⟨rfl,h1,h2⟩:=mM;rw[qc pq] at dk;cases dk;refine ⟨x0,hx,.inl ?_⟩;rw[dm,da,show i'*P.cellsOf e1+c'-(i'*P.cellsOf e1+c)=c'-c by omega];have hy:cs[c'-c]? =some cs[c'-c]:=b7 (by omega);have hu:vs[c'-c]? =some vs[c'-c]:=b7 (by omega);refine ⟨c'-c,_,_,rfl,by omega,hy,hu,?_,hu⟩;refine vd ?_ gA;unfold jx;rw[rq _ _ _ _ (by omega),dm,da];exact hy
 ·have jZ: ¬(i*P.cellsOf e1+c≤i'*P.cellsOf e1+c'∧i'*P.cellsOf e1+c'<i*P.cellsOf e1+c+vs.length):=fun h=>mM (akp Ln qw h.1 (by omega));have hg:(if i'*P.cellsOf e1+c'<i*P.cellsOf e1+c then Ca.toList[i'*P.cellsOf e1+c']? else if i'*P.cellsOf e1+c'<i*P.cellsOf e1+c+vs.length then vs[i'*P.cellsOf e1+c'-(i*P.cellsOf e1+c)]? else Ca.toList[i'*P.cellsOf e1+c']?)=Ca[i'*P.cellsOf e1+c']? :=by
   by_cases h1:i'*P.cellsOf e1+c'<i*P.cellsOf e1+c
   ·rw[aA h1];simp
   ·rw[aw h1,dm];simp
  by_cases hi:i'=i
  ·subst hi;rw[qc pq] at dk;cases dk;refine ⟨x0,hx,.inr ⟨?_,hg⟩⟩;have h1:(jx (parts P e1 x0) c cs)[c']? =some (ik P t' (ch P e1 x0 c')):=by
    unfold jx;rw[rq _ _ _ _ (by omega)];by_cases h1:c'<c
    ·rw[aA h1];exact rn gA
    ·rw[aw h1,dm];exact rn gA
   rw[vd h1 gA];obtain ⟨yz,_,_,_,_,vw⟩:=hR.cells;obtain ⟨v,_,ho⟩:=vw i' c' x0 t' hx gA Ln;exact ho.xb
  ·rw[wA (fun h=>hi h.symm)] at dk;exact ⟨x',dk,.inr ⟨rfl,hg⟩⟩
theorem akr {w:World} {b1:Nat} {Ca Cb:Array Value} {T:TypeId} (hh:w.heap[b1]? =some (.cells Ca T (0,0))) (hs:Cb.size=Ca.size) (k:Nat):bsize (w.setRow b1 Cb) k=bsize w k:=by
 by_cases hk:k=b1
 ·subst hk;rw[lD (setRow_heap w k Ca Cb T (0,0) hh),lD hh,hs]
 ·simp only[bsize,setRow_other w b1 k Cb hk]
theorem Lo (S:aC P w I β hp B M w0) {t:TypeId} {v:Value} {id b b1 i c:Nat} {e0 e1:TypeId} {es l cs:List V} {vers vers':List Nat} {path:Path} {x0:V} (K:Path→Nat→TypeId→List V→Prop)
  (ae:hp id=some (.nest e0 es vers)) (hb:β id=some b) (ha:At P w b e0 es path b1 e1 l) (ht:pb P t=true) (hn:P.cellsOf t=v.cells.size)
  (hx:l[i]? =some x0) (hk:cs.length=v.cells.size) (qw:c+cs.length≤P.cellsOf e1) (h1: ∀u∈v.cells.toList,u.oneCell'=true)
  (dJ: ∀(j:Nat) y u t',cs[j]? =some y→v.cells.toList[j]? =some u→(aX P e1)[c+j]? =some t'→ph P w I t' u y)
  (aks: ∀(j:Nat) y u t' e3 jn b3 len cap,cs[j]? =some y→v.cells.toList[j]? =some u→(aX P e1)[c+j]? =some t'→P.underlying t'=some (.slice e3)→y= .list e3 jn→0<cap→
   u= .slice (some ⟨b3,0,none⟩) len cap→j=0∧∀r b' e' m,At P w b3 e3 jn r b' e' m→b'≠b1∧K r b' e' m)
  (hK: ∀r b' e' m,K r b' e' m→iP P w I b' e' m∧(M b'∨B≤b')∧(∀aJ cI,hp aJ=some cI→¬bh P w (β aJ) cI b'))
  (tL: ∀r1 r2 b' e1 m1 e2 m2,K r1 b' e1 m1→K r2 b' e2 m2→r1=r2)
  (sj:vers'.length=vers.length) (EH: ∀k,bB vers k≤bB vers' k)
  (jd:(∀(j:Nat) t',j<cs.length→(aX P e1)[c+j]? =some t'→dY P t'=true)∨∀k,path.length≤k→k<vers.length→bB vers' k≠bB vers k):
  ∃w',(Instr.storeAt t (.pointer (some ⟨b1,i*P.cellsOf e1+c,none⟩)) v).run P w= .ok () w'∧
   Le P w I β hp w' I β (an hp id (some (.nest e0 (setRow P (l.set i (dA P e1 (jx (parts P e1 x0) c cs))) e0 es path) vers')))∧
   aC P w' I β (an hp id (some (.nest e0 (setRow P (l.set i (dA P e1 (jx (parts P e1 x0) c cs))) e0 es path) vers'))) B M w0:=by
 have hR:=S.rows ae hb ha;obtain ⟨Ca,T,hh,hL,hs,vw⟩:=hR.cells;have pq:i<l.length:=(cC.1 hx).1;have dM:cs.length=v.cells.toList.length:=by simpa using hk
 have PJ:i*P.cellsOf e1+c+v.cells.size≤Ca.size:=by
  have:(i+1)*P.cellsOf e1≤l.length*P.cellsOf e1:=eF _ pq;rw[jh] at this;omega
 have cR:=J8 (t:=t) (o:=i*P.cellsOf e1+c) (v:=v) ht hn hh PJ h1;have hlen:(Ca.toList.take (i*P.cellsOf e1+c)++(v.cells.toList++Ca.toList.drop (i*P.cellsOf e1+c+v.cells.toList.length))).length=Ca.size:=by
  rw[EU _ _ _ (by simpa using PJ)];simp
 have cn:= @akq P w I b1 i c e1 T l cs x0 Ca v.cells.toList hR hh hs hx dM qw;have dp:=hR.nI;have hr:=S.h.rel id _ ae;rw[hb] at hr;cases hr with
 | jc au=>cases au
 | nest au c6 mc=>
 cases au;have nF: ∀q e' m,At P w b1 e1 l q b1 e' m→q=[]:=by
  intro q e' m h;have:=mc _ _ _ _ _ _ _ (ha.app h) ha;simpa using this
 have vy:=setRow_heap w b1 Ca (Ca.toList.take (i*P.cellsOf e1+c)++(v.cells.toList++Ca.toList.drop (i*P.cellsOf e1+c+v.cells.toList.length))).toArray T (0,0) hh;have kq:=akr hh (Cb:=(Ca.toList.take (i*P.cellsOf e1+c)++(v.cells.toList++Ca.toList.drop (i*P.cellsOf e1+c+v.cells.toList.length))).toArray) (by simpa using hlen);have tM:=fun k (hk:k≠b1)=>setRow_other w b1 k (Ca.toList.take (i*P.cellsOf e1+c)++(v.cells.toList++Ca.toList.drop (i*P.cellsOf e1+c+v.cells.toList.length))).toArray hk;generalize Lq:(Ca.toList.take (i*P.cellsOf e1+c)++(v.cells.toList++Ca.toList.drop (i*P.cellsOf e1+c+v.cells.toList.length))).toArray=Cb at*
 generalize hL':l.set i (dA P e1 (jx (parts P e1 x0) c cs))=l' at*
 have oc:l'.length=l.length:=by rw[←hL'];simp
 have xt: ∀k j,I k j→(w.setRow b1 Cb).cell? ⟨k,j,none⟩=w.cell? ⟨k,j,none⟩:=fun k j hk=>World.cell?_of_block (tM k (fun e=>dp j (e▸hk)));refine ⟨_,cR,akn S (i:=i) (c:=c) K ae hb ha oc tM kq (by simp) ⟨rfl,rfl⟩ ?_ ?_ hK tL sj EH ?_⟩
 ·refine ⟨hR.ok,⟨Cb,T,vy,(show Cb.size=Ca.size by rw[←Lq];simpa using hlen)▸hL,by rw[oc,←Lq];simp only[rW];omega,fun i' j x' t' k1 k2 k3=> ?_⟩,dp⟩;obtain ⟨x1,y1,y2⟩:=cn k1 k2;rcases y2 with ⟨jj,y,u,rfl,rfl,z1,z2,z3,z4⟩|⟨z3,z4⟩
  ·exact ⟨u,z4,by rw[z3];exact (dJ jj y u t' z1 z2 k2).mono (fun _ _ h=>h) xt fun _ _ _ _ _=>kq _⟩
  ·obtain ⟨v1,m1,m2⟩:=vw i' j x1 t' y1 k2 k3;exact ⟨v1,z4.trans m1,by rw[z3];exact m2.mono (fun _ _ h=>h) xt fun _ _ _ _ _=>kq _⟩
 ·intro a r b' e' m h;obtain ⟨i',c'⟩:=a;cases h with
  | step k1 k2 k3 k4 k5 k6 k7 k8=>
   rw[vy] at k1;cases k1;obtain ⟨x1,y1,y2⟩:=cn k2 k3;rcases y2 with ⟨jj,y,u,rfl,rfl,z1,z2,z3,z4⟩|⟨z3,z4⟩
   ·rw[k7] at z4;obtain ⟨g1,g2⟩:=aks jj y u _ _ _ _ _ _ z1 z2 k3 k4 (z3.symm.trans k5) k6 (dU z4).symm;subst g1;have lL:=k8.wX (w:=w) fun q2 b5 e5 kC hq=>tM b5 (g2 _ _ _ _ hq).1;exact ⟨(g2 _ _ _ _ lL).1,.inr ⟨rfl,(g2 _ _ _ _ lL).2⟩⟩
   ·rw[k5] at z3;rw[k7] at z4;have bq: ∀q2 b5 e5 kC,At P w _ _ _ q2 b5 e5 kC→b5≠b1:=fun q2 b5 e5 kC hq za=>by
     subst za;have:=nF _ _ _ (.step hh y1 k3 k4 z3.symm k6 z4.symm hq);cases this
    have lL:=k8.wX (w:=w) fun q2 b5 e5 kC hq=>tM b5 (bq q2 b5 e5 kC hq);exact ⟨bq _ _ _ _ lL,.inl (.step hh y1 k3 k4 z3.symm k6 z4.symm lL)⟩
 ·intro r i' c' t' v' ea l0 aR QX pJ hc;rcases jd with jd|jd
  ·
   have fm: ∀{i' c' x1 t' e3},l[i']? =some x1→(aX P e1)[c']? =some t'→P.underlying t'=some (.slice e3)→∃x',l'[i']? =some x'∧ch P e1 x' c'=ch P e1 x1 c'∧Cb[i'*P.cellsOf e1+c']? =Ca[i'*P.cellsOf e1+c']? :=by
    intro i' c' x1 t' e3 g1 g2 g3;have aR:i'<l'.length:=by rw[oc];exact (cC.1 g1).1
    have dk:=b7 aR;obtain ⟨x2,y1,y2⟩:=cn dk g2;rw[g1] at y1;cases y1;rcases y2 with ⟨jj,y,u,rfl,rfl,z1,z2,z3,z4⟩|⟨z3,z4⟩
    ·have:=jd jj t' (cC.1 z1).1 g2;unfold dY at this;rw[g3] at this;cases this
    ·exact ⟨_,dk,z3,z4⟩
   obtain ⟨b',e',m,C5,T,f,x,k1,k2,k3,k4,k5,k6⟩:=hc;refine ⟨l0,rfl,?_⟩;cases k1 with
   | here=>
    rw[hh] at k2;cases k2;obtain ⟨x',g1,g2,g3⟩:=fm k3 k4 pJ;exact ⟨_,_,l',Cb,_,_,x',.here,vy,g1,k4,g2.trans k5,g3.trans k6⟩
   | step q1 q2 q3 q4 q5 q6 q7 q8=>
    have q1':=q1;rw[hh] at q1;cases q1;obtain ⟨x',g1,g2,g3⟩:=fm q2 q3 q4;have bq: ∀q2 b5 e5 kC,At P w _ _ _ q2 b5 e5 kC→b5≠b1:=fun q9 b5 e5 kC hq za=>by
     subst za;have:=nF _ _ _ (.step hh q2 q3 q4 q5 q6 q7 hq);cases this
    have lL:=q8.mono (w':=w.setRow b1 Cb) fun q2 b5 e5 kC hq=>tM b5 (bq q2 b5 e5 kC hq);exact ⟨b',e',m,C5,T,f,x,.step vy g1 q3 q4 (g2.trans q5) q6 (g3.trans q7) lL,(tM _ (bq _ _ _ _ q8)).trans k2,k3,k4,k5,k6⟩
  ·exact absurd QX (jd _ (by simp) aR)
theorem Gd: ∀(vs:List Nat) (d k:Nat),d≤k→k<vs.length→bB (raise d vs) k=bB vs k+1
 | [],d,k,_,h=>by simp at h
 | v::vs,0,0,_,_=>by simp[raise,bB]
 | v::vs,0,k+1,_,h=>by
  have:=Gd vs 0 k (ma _) (by simpa using h);simpa[raise,bB] using this
 | v::vs,d+1,0,h,_=>by omega
 | v::vs,d+1,k+1,h,h2=>by
  have:=Gd vs d k (by omega) (by simpa using h2);simpa[raise,bB] using this
theorem Lr: ∀(vs:List Nat) (d:Nat),(raise d vs).length=vs.length
 | [],0=>rfl
 | [],d+1=>rfl
 | v::vs,0=>by simp[raise]
 | v::vs,d+1=>by simp[raise,Lr vs d]
theorem Ge: ∀(vs:List Nat) (d k:Nat),bB vs k≤bB (raise d vs) k
 | [],0,k=>by simp[raise,bB]
 | [],d+1,k=>by simp[raise,bB]
 | v::vs,0,0=>by simp[raise,bB]
 | v::vs,0,k+1=>by
  have:=Ge vs 0 k;simpa[raise,bB] using this
 | v::vs,d+1,0=>by simp[raise,bB]
 | v::vs,d+1,k+1=>by
  have:=Ge vs d k;simpa[raise,bB] using this
theorem akt {t:TypeId} {v:Value} {x:V} (hv:aj P w I β hp v x) (h:fR P t x=true) (hs:dY P t=true):Pure P w I t v x:=by
 unfold dY at hs;unfold fR at h;cases hu:P.underlying t with
 | none=>rw[hu] at hs;cases hs
 | some d=>
  rw[hu] at hs h;cases d<;>simp only at hs<;>first|(cases hs;done)|skip
  all_goals cases x<;>simp only at h<;>first|(cases h;done)|skip
  ·rw[hv.nn];exact .bool hu
  ·simp only[jQ] at h;subst h;rw[hv.fU];exact .int hu
  ·obtain ⟨s,rfl,hl⟩:=hv.oG;exact .str hu hl
def QY (P:Program) (w:World) (I:Nat→Nat→Prop) (o:Option Nat) (blk:ah) (b2:Nat) (e2:TypeId) (bW:List V):Prop:=
 (∀r b' e' m,At P w b2 e2 bW r b' e' m→iP P w I b' e' m∧bh P w o blk b')∧∀r1 r2 b' e1 m1 Ls m2,At P w b2 e2 bW r1 b' e1 m1→At P w b2 e2 bW r2 b' Ls m2→r1=r2
theorem QZ (S:aC P w I β hp B M w0) {aJ b2:Nat} {e2:TypeId} {bW:List V} (ae:hp aJ=some (.arr e2 bW false)) (hb:β aJ=some b2) (hs:(flat P e2).all (dY P)=true):
  QY P w I (β aJ) (.arr e2 bW false) b2 e2 bW:=by
 have only: ∀r b' e' m,At P w b2 e2 bW r b' e' m→r=[]:=by
  intro r b' e' m h;cases h with
  | here=>rfl
  | step h1 h2 h3 h4 h5 h6 h7 h8=>
   rw[sm] at h3;have:=ig.1 hs _ (mB h3);unfold dY at this;rw[h4] at this;cases this
 refine ⟨fun r b' e' m h=> ?_,fun r1 r2 b' e1 m1 Ls m2 h1 h2=>by rw[only _ _ _ _ h1,only _ _ _ _ h2]⟩;have:=only _ _ _ _ h;subst this;cases h;have hr:=S.h.rel aJ _ ae;cases hr with
 | ez au=>rw[hb] at au;cases au
 | arr hL ao au hh bd hf fO hx=>
  rw[hb] at au;cases au;refine ⟨⟨ao,⟨_,_,hh,hL,bd,fun i j x t' k1 k2 k3=> ?_⟩,fO rfl⟩,.root (by simp) hb⟩;obtain ⟨v,m1,m2⟩:=hx i j x t' k1 k2 k3;refine ⟨v,m1,.gy ?_ m2⟩;rw[sm] at k2;exact ig.1 hs _ (mB k2)
theorem aku (S:aC P w I β hp B M w0) {aJ b2:Nat} {e2:TypeId} {bW:List V} {si:List Nat} (ae:hp aJ=some (.nest e2 bW si)) (hb:β aJ=some b2):
  QY P w I (β aJ) (.nest e2 bW si) b2 e2 bW:=by
 have hr:=S.h.rel aJ _ ae;cases hr with
 | jc au=>rw[hb] at au;cases au
 | nest au c6 mc=>
  rw[hb] at au;cases au;exact ⟨fun r b' e' m h=>⟨c6 _ _ _ _ h,.row hb h⟩,fun r1 r2 b' e1 m1 Ls m2 h1 h2=>mc _ _ _ _ _ _ _ h1 h2⟩
theorem Y5 {c:Nat} {e1 e2 t':TypeId} (h:(((flat P e1).drop c).take 1).all (fun u=>match P.underlying u with|some (.slice e3)=>Nat.beq e2 e3|_=>false)=true) (ht:(aX P e1)[c]? =some t'):
  P.underlying t'=some (.slice e2):=by
 rw[sm] at ht;have hm:t'∈((flat P e1).drop c).take 1:=by
  refine mB (i:=0) ?_;rw[jv (by omega),qX];simpa using ht
 have:=ig.1 h _ hm;split at this
 ·rename_i e3 hu;rw[aM] at this;rw[hu,this]
 ·cases this
theorem Y6 (S:aC P w I β hp B M w0) {t:TypeId} {v:Value} {id aJ b b1 i c:Nat} {e0 e1 e2:TypeId} {es l bW:List V} {vers:List Nat} {path:Path} {x0:V} {cI:ah}
  (ae:hp id=some (.nest e0 es vers)) (hb:β id=some b) (ha:At P w b e0 es path b1 e1 l) (ht:pb P t=true) (hn:P.cellsOf t=1)
  (hx:l[i]? =some x0) (qw:c+1≤P.cellsOf e1) (Gf:(((flat P e1).drop c).take 1).all (fun u=>match P.underlying u with|some (.slice e3)=>Nat.beq e2 e3|_=>false)=true)
  (dt:hp aJ=some cI) (bq:id≠aJ)
  (hv:((∃a,v= .slice a 0 0)∧bW=[])∨∃b2 cap,v= .slice (some ⟨b2,0,none⟩) bW.length cap∧cap*P.cellsOf e2=bsize w b2∧bW.length≤cap∧cap≤maxLen∧QY P w I (β aJ) cI b2 e2 bW):
  rv P ((Instr.storeAt t (.pointer (some ⟨b1,i*P.cellsOf e1+c,none⟩)) v).run P w) w I β hp B M w0
   ⟨.undef,[(id,.nest e0 (setRow P (l.set i (dA P e1 (jx (parts P e1 x0) c [.list e2 bW]))) e0 es path) (raise path.length vers)),(aJ,.dead)]⟩:=by
 obtain ⟨rE,S1⟩:=w7 S dt;have qx:an hp aJ (some .dead) id=some (.nest e0 es vers):=by rw[cG _ _ bq];exact ae
 have vw:v.cells= #[v]:=by rcases hv with ⟨⟨_,rfl⟩,_⟩|⟨b2,cap,rfl,_⟩<;>rfl
 have sJ:v.oneCell'=true:=by rcases hv with ⟨⟨_,rfl⟩,_⟩|⟨b2,cap,rfl,_⟩<;>rfl
 have free: ∀b',bh P w (β aJ) cI b'→(M b'∨B≤b')∧∀dQ kR,an hp aJ (some .dead) dQ=some kR→¬bh P w (β dQ) kR b':=by
  intro b' ho;refine ⟨S.h.own aJ cI b' dt ho,fun dQ kR h3 Y7=> ?_⟩;by_cases hi:dQ=aJ
  ·subst hi;rw[bK] at h3;cases h3;exact Y7.alive rfl
  ·rw[cG _ _ hi] at h3;exact hi (S.h.inj _ _ _ _ b' h3 dt Y7 ho)
 have rF: ∀b',bh P w (β aJ) cI b'→b'≠b1:=by
  intro b' ho e;subst e;exact bq (S.h.inj _ _ _ _ b' ae dt (.row hb ha) ho)
 have dJ: ∀(j:Nat) y u t',[V.list e2 bW][j]? =some y→v.cells.toList[j]? =some u→(aX P e1)[c+j]? =some t'→j=0∧y= .list e2 bW∧u=v∧P.underlying t'=some (.slice e2):=by
  intro j y u t' k1 k2 k3;cases j with
  | succ j=>simp at k1
  | zero=>
   rw[vw] at k2;simp at k1 k2;exact ⟨rfl,k1.symm,k2.symm,Y5 Gf k3⟩
 rcases hv with ⟨⟨a0,rfl⟩,rfl⟩|⟨b2,cap,rfl,v1,v2,v3,v4⟩
 ·obtain ⟨w',r1,r2,r3⟩:=Lo S1 (vers':=raise path.length vers) (fun _ _ _ _=>False) qx hb ha ht (v:= .slice a0 0 0) hn hx (cs:=[.list e2 []]) rfl qw (by rw[vw];simp[sJ])
   (fun j y u t' k1 k2 k3=>by obtain ⟨rfl,rfl,rfl,k4⟩:=dJ j y u t' k1 k2 k3;exact .emp k4)
   (fun j y u t' e3 jn b3 len cap k1 k2 k3 k4 k5 k6=>by obtain ⟨rfl,rfl,rfl,k7⟩:=dJ j y u t' k1 k2 k3;intro k8;cases k8;exact absurd k6 (na _))
   (fun _ _ _ _ h=>h.elim) (fun _ _ _ _ _ _ _ h=>h.elim) (Lr _ _) (Ge _ _) (.inr fun k h1 h2=>by rw[Gd _ _ _ h1 h2];omega)
  exact ⟨w',I,β,r1,rE.trans r2,r3,rfl⟩
 ·obtain ⟨w',r1,r2,r3⟩:=Lo S1 (vers':=raise path.length vers) (fun r b' e' m=>At P w b2 e2 bW r b' e' m) qx hb ha ht (v:= .slice (some ⟨b2,0,none⟩) bW.length cap) hn hx (cs:=[.list e2 bW]) rfl qw (by rw[vw];simp[sJ])
   (fun j y u t' k1 k2 k3=>by
    obtain ⟨rfl,rfl,rfl,k4⟩:=dJ j y u t' k1 k2 k3;rcases D8 cap with h0|h0
    ·subst h0;obtain rfl:=uI.1 (wD.1 v2);exact .emp k4
    ·exact .row k4 h0 v1 v2 v3)
   (fun j y u t' e3 jn b3 len cap k1 k2 k3 k4 k5 k6 k8=>by
    obtain ⟨rfl,rfl,rfl,k7⟩:=dJ j y u t' k1 k2 k3;cases k5;cases k8;exact ⟨rfl,fun r b' e' m h=>⟨rF _ (v4.1 _ _ _ _ h).2,h⟩⟩)
   (fun r b' e' m h=>⟨(v4.1 _ _ _ _ h).1,free _ (v4.1 _ _ _ _ h).2⟩) (fun r1 r2 b' e1 m1 Ls m2 h1 h2=>v4.2 _ _ _ _ _ _ _ h1 h2) (Lr _ _) (Ge _ _) (.inr fun k h1 h2=>by rw[Gd _ _ _ h1 h2];omega)
  exact ⟨w',I,β,r1,rE.trans r2,r3,rfl⟩
theorem Y8 (S:aC P w I β hp B M w0) {t:TypeId} {v:Value} {x:V} {r:R} {rd:List Nat} {id b b1 i c:Nat} {e0 e1:TypeId} {es l:List V} {vers:List Nat} {path:Path}
  (ht:pb P t=true) (hn:x.cells.length=P.cellsOf t) (hv:aj P w I β hp v x) (ae:hp id=some (.nest e0 es vers)) (hb:β id=some b) (ha:At P w b e0 es path b1 e1 l)
  (h:(JA P t id e0 es vers path i c x).run C hp=some (r,rd)):rv P ((Instr.storeAt t (.pointer (some ⟨b1,i*P.cellsOf e1+c,none⟩)) v).run P w) w I β hp B M w0 r:=by
 unfold JA at h;obtain ⟨aR,h⟩:=aD h;rw[mZ] at aR;obtain ⟨e',vv,q1,q2,h⟩:=Bu h;obtain ⟨p1,p2⟩:=Pv ha;rw[p1] at q1;cases q1;rw[p2] at q2;cases q2;simp only[V.toList] at h;obtain ⟨ao,h⟩:=aD h;obtain ⟨x0,vz,h⟩:=n9 h;obtain ⟨qw,h⟩:=aD h;rw[gb] at qw;have slice: ∀e2,P.underlying t=some (.slice e2)→
   ((((Rd.aB ((((flat P e1).drop c).take x.cells.length).all fun u=>match P.underlying u with|some (.slice e3)=>Nat.beq e2 e3|_=>false) (
     match (generalizing:=false) x with
     | .nilS e3=> .aB (Nat.beq e2 e3) (.ret ⟨.undef,[(id,.nest e0 (setRow P (l.set i (dA P e1 (jx (parts P e1 x0) c [.list e2 []]))) e0 es path) (raise path.length vers))]⟩)
     | .whole e3 aJ=> .get aJ fun
      | some (.arr e4 bW false)=> .aB (Nat.beq e2 e3&&(Nat.beq e3 e4&&(!(Nat.beq id aJ)&&(flat P e2).all (dY P))))
        (.ret ⟨.undef,[(id,.nest e0 (setRow P (l.set i (dA P e1 (jx (parts P e1 x0) c [.list e2 bW]))) e0 es path) (raise path.length vers)),(aJ,.dead)]⟩)
      | some (.nest e4 bW _)=> .aB (Nat.beq e2 e3&&(Nat.beq e3 e4&& !(Nat.beq id aJ)))
        (.ret ⟨.undef,[(id,.nest e0 (setRow P (l.set i (dA P e1 (jx (parts P e1 x0) c [.list e2 bW]))) e0 es path) (raise path.length vers)),(aJ,.dead)]⟩)
      | _=> .fail
     | _=> .fail)):Rd R).run C hp))=some (r,rd)→
   rv P ((Instr.storeAt t (.pointer (some ⟨b1,i*P.cellsOf e1+c,none⟩)) v).run P w) w I β hp B M w0 r:=by
  intro e2 hu h;obtain ⟨Gf,h⟩:=aD h;cases x with
  | nilS e3=>
   obtain ⟨hc,h⟩:=aD h;obtain rfl:=aN h;rw[aM] at hc;subst hc;cases hv with
   | nilS=>
    obtain ⟨w',r1,r2,r3⟩:=Lo S (v:= .slice none 0 0) (vers':=raise path.length vers) (fun _ _ _ _=>False) ae hb ha ht hn.symm vz (cs:=[.list e2 []]) rfl qw (by simp[Value.cells,Value.oneCell'])
     (fun j y u t' k1 k2 k3=>by
      cases j with
      | succ j=>simp at k1
      | zero=>
       simp[Value.cells] at k1 k2;subst k1;subst k2;exact .emp (Y5 Gf k3))
     (fun j y u t' e3 jn b3 len cap k1 k2 k3 k4 k5 k6=>by
      cases j with
      | succ j=>simp at k1
      | zero=>simp[Value.cells] at k2;subst k2;intro k8;cases k8)
     (fun _ _ _ _ h=>h.elim) (fun _ _ _ _ _ _ _ h=>h.elim) (Lr _ _) (Ge _ _) (.inr fun k h1 h2=>by rw[Gd _ _ _ h1 h2];omega)
    exact ⟨w',I,β,r1,r2,r3,rfl⟩
  | whole e3 aJ=>
   obtain ⟨l1,h⟩:=run_get h;cases dt:hp aJ with
   | none=>rw[dt] at h;cases h
   | some cI=>
    rw[dt] at h;cases cI with
    | dead=>cases h
    | var _=>cases h
    | map _ _=>cases h
    | out _ _ _ _=>cases h
    | arr e4 bW fz=>
     cases fz with
     | true=>cases h
     | false=>
      obtain ⟨hc,h⟩:=aD h;obtain rfl:=aN h;simp only[aK,aM,nc] at hc;obtain ⟨rfl,rfl,bq,jd⟩:=hc;have Q0:id≠aJ:=fun e=>by rw[e,nX] at bq;cases bq
      refine Y6 S ae hb ha ht hn.symm vz qw Gf dt Q0 ?_;cases hv with
      | eb bX=>rw[dt] at bX;cases bX
      | dX bX eA=>rw[dt] at bX;cases bX;exact .inl ⟨⟨_,rfl⟩,rfl⟩
      | whole bX eA bR hle sq=>
       rw[dt] at bX;cases bX;exact .inr ⟨_,_,rfl,bR,hle,sq,QZ S dt eA jd⟩
      | eh bX=>rw[dt] at bX;cases bX
      | fF bX=>rw[dt] at bX;cases bX
      | dP bX=>rw[dt] at bX;cases bX
    | nest e4 bW si=>
     obtain ⟨hc,h⟩:=aD h;obtain rfl:=aN h;simp only[aK,aM,nc] at hc;obtain ⟨rfl,rfl,bq⟩:=hc;have Q0:id≠aJ:=fun e=>by rw[e,nX] at bq;cases bq
     refine Y6 S ae hb ha ht hn.symm vz qw Gf dt Q0 ?_;cases hv with
     | eb bX=>rw[dt] at bX;cases bX
     | dX bX eA=>rw[dt] at bX;cases bX
     | whole bX=>rw[dt] at bX;cases bX
     | eh bX eA=>rw[dt] at bX;cases bX;exact .inl ⟨⟨_,rfl⟩,rfl⟩
     | fF bX=>rw[dt] at bX;cases bX
     | dP bX eA bR hle sq=>
      rw[dt] at bX;cases bX;exact .inr ⟨_,_,rfl,bR,hle,sq,aku S dt eA⟩
  | _=>cases h
 have gy:(((Rd.aB ((((flat P e1).drop c).take x.cells.length).all (dY P)&&uM P (((flat P e1).drop c).take x.cells.length) x.cells)
   (.ret ⟨.undef,[(id,.nest e0 (setRow P (l.set i (dA P e1 (jx (parts P e1 x0) c x.cells))) e0 es path) vers)]⟩)):Rd R).run C hp)=some (r,rd)→
   rv P ((Instr.storeAt t (.pointer (some ⟨b1,i*P.cellsOf e1+c,none⟩)) v).run P w) w I β hp B M w0 r:=by
  intro h;obtain ⟨hc,h⟩:=aD h;obtain rfl:=aN h;simp only[aK] at hc;obtain ⟨hs,fe⟩:=hc;obtain ⟨tl,tg⟩:=yF fe;have Q1: ∀(j:Nat) t',j<x.cells.length→(aX P e1)[c+j]? =some t'→(((flat P e1).drop c).take x.cells.length)[j]? =some t':=by
   intro j t' hj gA;rw[jv hj,qX];rw[sm] at gA;exact gA
  have sat: ∀(j:Nat) t',j<x.cells.length→(aX P e1)[c+j]? =some t'→dY P t'=true:=fun j t' hj gA=>
   ig.1 hs _ (mB (Q1 j t' hj gA))
  have rG:v.cells.size=x.cells.length∧∀(j:Nat) u y,v.cells.toList[j]? =some u→x.cells[j]? =some y→aj P w I β hp u y:=by
   have base:(∀xs,x≠ .agg xs)→x.cells=[x]→v.cells.size=x.cells.length∧∀(j:Nat) u y,v.cells.toList[j]? =some u→x.cells[j]? =some y→aj P w I β hp u y:=by
    intro _ tE;rw[tE] at tl tg Q1⊢;have h0:0<(((flat P e1).drop c).take [x].length).length:=by rw[tl];exact Nat.one_pos
    have fe:=tg 0 _ x (b7 h0) rfl;obtain ⟨o1,o2⟩:=Xy hv fe;rw[o2];refine ⟨rfl,fun j u y hu hy=> ?_⟩;cases j with
    | zero=>simp at hu hy;subst hu;subst hy;exact hv
    | succ j=>simp at hy
   cases x with
   | agg xs=>
    obtain ⟨cs,rfl,h1,h2⟩:=hv.np;exact ⟨h1,fun j u y a b=>h2 j u y (by simpa[Value.cells] using a) b⟩
   | _=>exact base (by simp) rfl
  have pure: ∀(j:Nat) u y t',v.cells.toList[j]? =some u→x.cells[j]? =some y→(aX P e1)[c+j]? =some t'→Pure P w I t' u y:=by
   intro j u y t' hu hy gA;have hj:=(cC.1 hy).1;exact akt (rG.2 j u y hu hy) (tg j t' y (Q1 j t' hj gA) hy) (sat j t' hj gA)
  obtain ⟨w',r1,r2,r3⟩:=Lo S (v:=v) (vers':=vers) (fun _ _ _ _=>False) ae hb ha ht (by rw[rG.1];exact hn.symm) vz rG.1.symm qw (fun u hu=>by
    obtain ⟨j,hj⟩:=tm hu;have dr:j<x.cells.length:=by rw[←rG.1];simpa using (cC.1 hj).1
    have sK:c+j<(aX P e1).length:=by rw[fG ao];omega
    have one: ∀t' y,Pure P w I t' u y→u.oneCell'=true:=by intro t' y h;cases h<;>rfl
    exact one _ _ (pure j u _ _ hj (b7 dr) (b7 sK)))
   (fun j y u t' k1 k2 k3=> .gy (sat j t' (cC.1 k1).1 k3) (pure j u y t' k2 k1 k3))
   (fun j y u t' e3 jn b3 len cap k1 k2 k3 k4 k5 k6=>by
    have:=sat j t' (cC.1 k1).1 k3;unfold dY at this;rw[k4] at this;cases this)
   (fun _ _ _ _ h=>h.elim) (fun _ _ _ _ _ _ _ h=>h.elim) rfl (fun _=>az _) (.inl fun j t' hj gA=>sat j t' hj gA)
  exact ⟨w',I,β,r1,r2,r3,rfl⟩
 cases hu:P.underlying t with
 | none=>rw[hu] at h;exact gy h
 | some d=>
  cases d with
  | slice e2=>rw[hu] at h;exact slice e2 hu h
  | _=>rw[hu] at h;exact gy h
end
section
variable {P:Program} {w w':World} {I I':Nat→Nat→Prop} {β β':Nat→Option Nat} {hp hp':Nat→Option ah} {C:af} {B:Nat} {M:Nat→Prop} {w0:Start}
theorem xu {e e1:TypeId} (h:rowOf P e=some e1):P.underlying e=some (.slice e1)∧b8 P e=false∧c8 P e=true∧c8 P e1=true∧(flat P e1).all (dY P)=true:=by
 unfold rowOf at h;split at h
 ·rename_i e2 hu;cases hc:(!(b8 P e)&&(c8 P e&&(c8 P e2&&(flat P e2).all (dY P)))) with
  | false=>rw[hc] at h;cases h
  | true=>
   rw[hc] at h;cases h;simp only[aK,nc] at hc;exact ⟨hu,hc.1,hc.2.1,hc.2.2.1,hc.2.2.2⟩
 ·cases h
theorem akv {e1:TypeId} (gR:(flat P e1).all (dY P)=true) {w:World} {b1 b':Nat} {e':TypeId} {l m:List V} {r:Path} (h:At P w b1 e1 l r b' e' m):r=[]∧b'=b1∧e'=e1∧m=l:=by
 cases h with
 | here=>exact ⟨rfl,rfl,rfl,rfl⟩
 | step h1 h2 h3 h4 h5 h6 h7 h8=>
  rw[sm] at h3;have:=ig.1 gR _ (mB h3);unfold dY at this;rw[h4] at this;cases this
def zb (P:Program) (w:World) (e1:TypeId) (K:Nat→List V→Prop) (v:Value) (l:List V):Prop:=
 (l=[]∧∃a,v= .slice a 0 0)∨
 (∃b1 cap,0<cap∧v= .slice (some ⟨b1,0,none⟩) l.length cap∧cap*P.cellsOf e1=bsize w b1∧l.length≤cap∧cap≤maxLen∧K b1 l)
theorem Y9 {b:Nat} {e e1:TypeId} {ys:List V} {vers:List Nat} {C':Array Value} (hr:rowOf P e=some e1)
  {T:TypeId} (vy:w'.heap[b]? =some (.cells C' T (0,0))) (hlen:ys.length≤C'.size) (dp: ∀j,¬I b j) (K:Nat→Nat→List V→Prop)
  (gJ: ∀(i:Nat) x,ys[i]? =some x→∃l v,x= .list e1 l∧C'[i]? =some v∧zb P w e1 (K i) v l)
  (hK: ∀i b1 l,K i b1 l→b1≠b∧w'.heap[b1]? =w.heap[b1]? ∧iP P w I b1 e1 l)
  (tL: ∀i j b1 l m,K i b1 l→K j b1 m→i=j):
  (∀b',bh P w' (some b) (.nest e ys vers) b'→b'=b∨∃i l,K i b' l)∧
  ∀{cM gh},(∀b j,I b j→w'.cell? ⟨b,j,none⟩=w.cell? ⟨b,j,none⟩)→fc P w' I cM gh (some b) (.nest e ys vers):=by
 obtain ⟨hu,cD,ao,oL,gR⟩:=xu hr;have hLs:sh P T e C'.size:=fun ed=>by unfold isByte at ed;rw[hu] at ed;cases ed
 have la:aX P e=[e]:=by simp[aX,cD]
 have hk:P.cellsOf e=1:=by rw[←fG ao,la];rfl
 have zc: ∀x j,ch P e x j=x:=fun x j=>by simp[ch,cD]
 have Gg: ∀q b2 e2 m,At P w' b e ys q b2 e2 m→(q=[]∧b2=b∧e2=e∧m=ys)∨∃i,q=[(i,0)]∧e2=e1∧K i b2 m:=by
  intro q b2 e2 m h;cases h with
  | here=>exact .inl ⟨rfl,rfl,rfl,rfl⟩
  | step h1 h2 h3 h4 h5 h6 h7 h8=>
   right;rw[vy] at h1;cases h1;rw[la] at h3;obtain ⟨hc,ht⟩:=cC.1 h3;simp only[List.length_singleton,Nat.lt_one_iff] at hc;subst hc;simp only[List.getElem_singleton] at ht;subst ht;rw[hu] at h4;cases h4;rw[zc] at h5;subst h5;rw[hk,iC,Nat.add_zero] at h7;obtain ⟨l,v,hl,hv,hh⟩:=gJ _ _ h2;cases hl;rw[hv] at h7;cases h7;rcases hh with ⟨rfl,a',he⟩|⟨b1',QS,_,he,_,_,_,qp⟩
   ·cases he;exact absurd h6 (na _)
   ·cases he;obtain ⟨rfl,rfl,rfl,rfl⟩:=akv gR h8;exact ⟨_,rfl,rfl,qp⟩
 have kD: ∀i b1 l,K i b1 l→w'.heap[b1]? =w.heap[b1]? :=fun i b1 l h=>(hK i b1 l h).2.1;refine ⟨fun b' ho=> ?_,fun xr=> ?_⟩
 ·cases ho with
  | root _ h=>exact .inl (dU h).symm
  | row h ha=>
   cases h;rcases Gg _ _ _ _ ha with ⟨_,h,_,_⟩|⟨i,_,_,qp⟩
   ·exact .inl h
   ·exact .inr ⟨_,_,qp⟩
 ·refine .nest rfl (fun q b2 e2 m h=> ?_) (fun q1 q2 b2 e2 m2 e3 m3 h1 h2=> ?_)
  ·rcases Gg _ _ _ _ h with ⟨rfl,rfl,rfl,rfl⟩|⟨i,rfl,rfl,qp⟩
   ·refine ⟨ao,⟨C',_,vy,hLs,by rw[hk,iC];exact hlen,fun i j x t' hx ht hj=> ?_⟩,dp⟩;rw[hk] at hj;have Gh:j=0:=by omega
    subst Gh;rw[la] at ht;simp only[List.getElem?_cons_zero,fi] at ht;subst ht;obtain ⟨l,v,rfl,hv,hh⟩:=gJ _ _ hx;refine ⟨v,by rw[hk,iC,Nat.add_zero];exact hv,?_⟩;rw[zc];rcases hh with ⟨rfl,a,rfl⟩|⟨b1,cap,h0,rfl,hs,hl,hm,qp⟩
    ·exact .emp hu
    ·exact .row hu h0 (by rw[hs,EI (kD _ _ _ qp)]) hl hm
   ·obtain ⟨_,_,⟨ok,⟨Ca,T2,c1,c0,c2,c3⟩,nI⟩⟩:=hK _ _ _ qp;refine ⟨ok,⟨Ca,T2,(kD _ _ _ qp).trans c1,c0,c2,fun i' j x t' hx ht hj=> ?_⟩,nI⟩;obtain ⟨v,m1,m2⟩:=c3 i' j x t' hx ht hj;have jd:dY P t'=true:=by
     rw[sm] at ht;exact ig.1 gR _ (mB ht)
    refine ⟨v,m1,?_⟩;generalize ch P e2 x j=y at m2;cases m2 with
    | gy a p=>exact .gy a (p.mono (fun _ _ h=>h) xr)
    | emp a=>unfold dY at jd;rw[a] at jd;cases jd
    | row a _ _ _ _=>unfold dY at jd;rw[a] at jd;cases jd
  ·rcases Gg _ _ _ _ h1 with ⟨rfl,rfl,_,_⟩|⟨i,rfl,_,k1⟩
   ·rcases Gg _ _ _ _ h2 with ⟨rfl,_,_,_⟩|⟨j,rfl,_,k2⟩
    ·rfl
    ·exact absurd rfl (hK _ _ _ k2).1
   ·rcases Gg _ _ _ _ h2 with ⟨rfl,rfl,_,_⟩|⟨j,rfl,_,k2⟩
    ·exact absurd rfl (hK _ _ _ k1).1
    ·rw[tL _ _ _ _ _ k1 k2]
theorem Q2 (S:aC P w I β hp B M w0) {id b:Nat} {e e1:TypeId} {es:List V} {vers:List Nat} (hr:rowOf P e=some e1) (ae:hp id=some (.nest e es vers)) (hb:β id=some b):
  ∃Ca T,w.heap[b]? =some (.cells Ca T (0,0))∧es.length≤Ca.size∧(∀j,¬I b j)∧
   (∀(i:Nat) x,es[i]? =some x→∃l v,x= .list e1 l∧Ca[i]? =some v∧zb P w e1 (fun b1 l=>At P w b e es [(i,0)] b1 e1 l) v l)∧
   (∀i b1 l,At P w b e es [(i,0)] b1 e1 l→b1≠b∧b1<w.heap.size∧iP P w I b1 e1 l∧(M b1∨B≤b1)∧bh P w (β id) (.nest e es vers) b1)∧
   ∀i j b1 l m,At P w b e es [(i,0)] b1 e1 l→At P w b e es [(j,0)] b1 e1 m→i=j:=by
 obtain ⟨hu,cD,ao,oL,gR⟩:=xu hr;have la:aX P e=[e]:=by simp[aX,cD]
 have hk:P.cellsOf e=1:=by rw[←fG ao,la];rfl
 have zc: ∀x j,ch P e x j=x:=fun x j=>by simp[ch,cD]
 have cT:=S.h.rel id _ ae;rw[hb] at cT;cases cT with
 | jc h=>cases h
 | nest au c6 mc=>
  cases au;obtain ⟨_,⟨Ca,T,c1,_,c2,c3⟩,nI⟩:=c6 _ _ _ _ .here;rw[hk,iC] at c2;refine ⟨Ca,T,c1,c2,nI,fun i x hx=> ?_,fun i b1 l ha=> ?_,fun i j b1 l m h1 h2=> ?_⟩
  ·obtain ⟨v,hv,ho⟩:=c3 i 0 x e hx (by rw[la];rfl) (by rw[hk];exact Nat.one_pos);rw[hk,iC,Nat.add_zero] at hv;rw[zc] at ho;cases ho with
   | gy a _=>unfold dY at a;rw[hu] at a;cases a
   | emp a=>rw[hu] at a;cases a;exact ⟨[],_,rfl,hv,.inl ⟨rfl,_,rfl⟩⟩
   | @row _ l b1 cap a h0 hs hl hm=>
    rw[hu] at a;cases a;refine ⟨l,_,rfl,hv,.inr ⟨b1,cap,h0,rfl,hs,hl,hm,?_⟩⟩;exact .step c1 hx (by rw[la];rfl) hu (zc _ _) h0 (by rw[hk,iC,Nat.add_zero];exact hv) .here
  ·have ho:bh P w (β id) (.nest e es vers) b1:= .row hb ha;refine ⟨fun h=> ?_,S.h.lt ae ho,c6 _ _ _ _ ha,S.h.own id _ b1 ae ho,ho⟩;subst h;exact absurd (mc _ _ _ _ _ _ _ ha .here) (by simp)
  ·have:=mc _ _ _ _ _ _ _ h1 h2;simpa using this
theorem Za (l:List Nat) (k:Nat) (h:k<l.length):bB l k<bB (l.map (· +1)) k:=by
 induction l generalizing k with
 | nil=>simp at h
 | cons a l ih=>
  cases k with
  | zero=>simp[bB]
  | succ k=>simpa[bB] using ih k (by simpa using h)
theorem akw {l:List Nat} {k:Nat} (h:l.length≤k):bB l k=0:=by
 induction l generalizing k with
 | nil=>rfl
 | cons a l ih=>
  cases k with
  | zero=>simp at h
  | succ k=>simpa[bB] using ih (by simpa using h)
theorem akx (S:aC P w I β hp B M w0) {id nb b i:Nat} {e e1:TypeId} {es:List V} {y:V} {vers:List Nat} (hr:rowOf P e=some e1) (ae:hp id=some (.nest e es vers)) (hb:β id=some b) (hy:es[i]? =some y) (hn:hp nb=none):
  ∃tN,Le P w I β hp w I tN (an (an hp id (some (.out e es (vers.map (· +1)) i))) nb (some (.arr e1 y.toList false)))∧
   aC P w I tN (an (an hp id (some (.out e es (vers.map (· +1)) i))) nb (some (.arr e1 y.toList false))) B M w0∧
   ∀Ca v T f,w.heap[b]? =some (.cells Ca T f)→Ca[i]? =some v→aj P w I tN (an (an hp id (some (.out e es (vers.map (· +1)) i))) nb (some (.arr e1 y.toList false))) v (.whole e1 nb):=by
 obtain ⟨hu,cD,ao,oL,gR⟩:=xu hr;obtain ⟨Ca,T0,c1,c2,nI,rc,rk,ru⟩:=Q2 S hr ae hb;have BM:aX P e1=flat P e1:=sm e1;have la:aX P e=[e]:=by simp[aX,cD]
 have zc: ∀x j,ch P e x j=x:=fun x j=>by simp[ch,cD]
 have hk:P.cellsOf e=1:=by rw[←fG ao,la];rfl
 have rB:=(cC.1 hy).1;have Lt: ∀(j:Nat) l b1 cap,es[j]? =some (.list e1 l)→0<cap→Ca[j]? =some (.slice (some ⟨b1,0,none⟩) l.length cap)→At P w b e es [(j,0)] b1 e1 l:=
  fun j l b1 cap hx h0 hv=> .step c1 hx (by rw[la];rfl) hu (zc _ _) h0 (by rw[hk,iC,Nat.add_zero];exact hv) .here
 have bq:nb≠id:=fun h=>by rw[h,ae] at hn;cases hn
 have sw: ∀b',bh P w (some b) (.out e es (vers.map (· +1)) i) b'→bh P w (some b) (.nest e es vers) b'∧∀l,¬At P w b e es [(i,0)] b' e1 l:=by
  intro b' ho;cases ho with
  | root _ h=>cases h;exact ⟨.root (by simp) rfl,fun l ha=>(rk _ _ _ ha).1 rfl⟩
  | @qi _ e2 _ l _ _ j b2 _ cap C' T f h1 h2 hj hx h0 hv=>
   cases h1;rw[c1] at h2;cases h2;obtain ⟨l',v',m1,m2,m3⟩:=rc _ _ hx;cases m1;have ha:=Lt _ _ _ _ hx h0 hv;exact ⟨.row rfl ha,fun l2 ha2=>hj (ru _ _ _ _ _ ha ha2)⟩
 have Zb:es≠[]:=fun h=>by rw[h] at rB;simp at rB
 obtain ⟨l1,S1⟩:=Py (w':=w) S (blk':= .out e es (vers.map (· +1)) i) ae (by simp)
  ⟨⟨rfl,rfl,by simp,fun k=>by
    by_cases hk:k<vers.length
    ·exact Nat.le_of_lt (Za _ _ hk)
    ·rw[akw (by omega)];exact ma _⟩,fun k hk=>Za _ _ hk,Zb⟩ hb nI (.inr (by simp)) (fun _ _=>rfl) rfl (az _) ⟨rfl,rfl⟩
  (fun b' h=> .inl (sw b' h).1) (fun _=>by
   refine .out rfl hu (by rw[BM];exact gR) c1 c2 rB nI (fun j x hj hx=> ?_) (fun j b1 cap l hj hx h0 hv=> ?_) (fun j k b1 c1 c2 l m hj hk hx hz h1 h2 hv ko=> ?_)
   ·obtain ⟨l,v,m1,m2,m3⟩:=rc j x hx;refine ⟨l,v,m1,m2,?_⟩;subst m1;rcases m3 with ⟨rfl,a,rfl⟩|⟨b1,cap,h0,rfl,q1,q2,q3,_⟩
    ·exact .emp hu
    ·exact .row hu h0 q1 q2 q3
   ·have:=rk _ _ _ (Lt _ _ _ _ hx h0 hv);exact ⟨this.1,this.2.2.1⟩
   ·exact ru _ _ _ _ _ (Lt _ _ _ _ hx h1 hv) (Lt _ _ _ _ hz h2 ko))
 have jf:an hp id (some (.out e es (vers.map (· +1)) i)) nb=none:=by rw[cG _ _ bq];exact hn
 obtain ⟨l,v,xw,hv,gJ⟩:=rc i y hy;subst xw;rcases gJ with ⟨rfl,a,rfl⟩|⟨b1,cap,h0,rfl,q1,q2,q3,ha⟩
 ·obtain ⟨a1,a2⟩:=EM S1 (fz:=false) e1 jf;refine ⟨_,l1.trans a1,a2,fun yz v' T f h1 h2=> ?_⟩;rw[c1] at h1;cases h1;rw[hv] at h2;cases h2;exact .dX (bK _ _ _) (bK _ _ _)
 ·obtain ⟨d1,d2,⟨ok,⟨C1,_,e2,e0,e3,e4⟩,Zc⟩,d4,d5⟩:=rk _ _ _ ha;obtain ⟨a1,a2⟩:=Bz S1 (w':=w) (blk:= .arr e1 l false) (b:=b1) jf
   (fun aq blk' h ho=>by
    by_cases hi:aq=id
    ·subst hi;rw[bK] at h;cases h;rw[hb] at ho;exact (sw _ ho).2 _ ha
    ·rw[cG _ _ hi] at h;exact hi (S.h.inj _ _ _ _ _ h ae ho d5))
   (fun j h=>absurd h (Zc j)) (fun _ _ _=>rfl) (az _) ⟨rfl,rfl⟩ d4 (fun b' h=>(dU (h.flat (by simp))).symm)
   (fun hle=> .arr e0 oL rfl e2 e3 (fun h=>by cases h) (fun _=>Zc) fun i' j x t' k1 k2 k3=>by
    obtain ⟨u,m1,m2⟩:=e4 i' j x t' k1 k2 k3;have jd:dY P t'=true:=by
     rw[BM] at k2;exact ig.1 gR _ (mB k2)
    refine ⟨u,m1,?_⟩;generalize ch P e1 x j=z at m2⊢;cases m2 with
    | gy _ p=>exact p
    | emp a=>unfold dY at jd;rw[a] at jd;cases jd
    | row a _ _ _ _=>unfold dY at jd;rw[a] at jd;cases jd)
  refine ⟨_,l1.trans a1,a2,fun yz v' T f h1 h2=> ?_⟩;rw[c1] at h1;cases h1;rw[hv] at h2;cases h2;exact .whole (es:=l) (bK _ _ _) (bK _ _ _) q1 q2 q3
theorem aky (S:aC P w I β hp B M w0) {t e e1:TypeId} {v:Value} {id aJ b i:Nat} {es bW:List V} {vers:List Nat} (hr:rowOf P e=some e1) (ae:hp id=some (.out e es vers i)) (hb:β id=some b)
  (ht:pb P t=true) (hn:P.cellsOf t=1) (dt:hp aJ=some (.arr e1 bW false)) (bq:id≠aJ) (hv:aj P w I β hp v (.whole e1 aJ)):
  rv P ((Instr.storeAt t (.pointer (some ⟨b,i*P.cellsOf e+0,none⟩)) v).run P w) w I β hp B M w0 ⟨.undef,[(id,.nest e (es.set i (.list e1 bW)) vers),(aJ,.dead)]⟩:=by
 obtain ⟨hu,cD,ao,oL,gR⟩:=xu hr;have la:aX P e=[e]:=by simp[aX,cD]
 have hk:P.cellsOf e=1:=by rw[←fG ao,la];rfl
 obtain ⟨rE,S1⟩:=w7 S dt;have qx:an hp aJ (some .dead) id=some (.out e es vers i):=by rw[cG _ _ bq];exact ae
 have cT:=S.h.rel id _ ae;rw[hb] at cT;cases cT with
 | out au lM azc hh hs hi hI hc c6 mc=>
 cases au;rw[hu] at lM;cases lM;rename_i Ca;have gJ: ∃K:Nat→List V→Prop,zb P w e1 K v bW∧(∀b1 l,K b1 l→b1≠b∧iP P w I b1 e1 l∧(M b1∨B≤b1)∧(∀aq blk',an hp aJ (some .dead) aq=some blk'→¬bh P w (β aq) blk' b1))∧v.cells= #[v]∧v.oneCell'=true:=by
  cases hv with
  | eb hd=>rw[dt] at hd;cases hd
  | dP hd=>rw[dt] at hd;cases hd
  | eh hd=>rw[dt] at hd;cases hd
  | fF hd=>rw[dt] at hd;cases hd
  | @dX _ _ _ a0 hd hb=>rw[dt] at hd;cases hd;exact ⟨fun _ _=>False,.inl ⟨rfl,a0,rfl⟩,fun _ _ h=>h.elim,rfl,rfl⟩
  | @whole _ _ _ _ b2 cap hd eA bd bR hm=>
   rw[dt] at hd;cases hd;obtain ⟨m1,m2⟩:=QZ S dt eA gR;obtain ⟨m3,m4⟩:=m1 _ _ _ _ .here;rcases D8 cap with h0|h0
   ·subst h0;obtain rfl:=uI.1 (wD.1 bR);exact ⟨fun _ _=>False,.inl ⟨rfl,_,rfl⟩,fun _ _ h=>h.elim,rfl,rfl⟩
   ·refine ⟨fun b1 l=>b1=b2∧l=bW,.inr ⟨b2,cap,h0,rfl,bd,bR,hm,rfl,rfl⟩,fun b1 l h=> ?_,rfl,rfl⟩;obtain ⟨rfl,rfl⟩:=h;refine ⟨fun h=> ?_,m3,S.h.own aJ _ _ dt m4,fun aq blk' h' ho=> ?_⟩
    ·subst h;exact bq (S.h.inj _ _ _ _ _ ae dt (.root (by simp) hb) m4)
    ·by_cases q:aq=aJ
     ·subst q;rw[bK] at h';cases h';exact absurd rfl ho.alive
     ·rw[cG _ _ q] at h';exact q (S.h.inj aq aJ _ _ _ h' dt ho m4)
 obtain ⟨K,k1,k2,k3,k4⟩:=gJ;have rB:i<Ca.size:=by omega
 have cR:=J8 (t:=t) (o:=i*P.cellsOf e+0) (v:=v) ht (by rw[hn,k3];rfl) hh (by rw[k3,hk];simp;omega) (by rw[k3];simp[k4]);rw[k3,hk,iC,Nat.add_zero] at cR;have hC:(Ca.toList.take i++(#[v].toList++Ca.toList.drop (i+ #[v].toList.length))).toArray.size=Ca.size:=by simp;omega
 have kS: ∀j,(Ca.toList.take i++(#[v].toList++Ca.toList.drop (i+ #[v].toList.length))).toArray[j]? =if j=i then some v else Ca[j]? :=by
  intro j;rw[o3,rq _ _ _ _ (by simp;omega)];simp only[List.length_singleton,rZ];by_cases h1:j<i
  ·rw[aA h1,aw (by omega)]
  ·rw[aw h1];by_cases h2:j=i
   ·subst h2;simp
   ·rw[aw (by omega),aw h2]
 rw[hk,iC,Nat.add_zero];generalize hCb:(Ca.toList.take i++(#[v].toList++Ca.toList.drop (i+ #[v].toList.length))).toArray=Cb at cR hC kS;have dJ:=setRow_heap w b Ca Cb _ (0,0) hh;have tM:=fun k (hk:k≠b)=>setRow_other w b k Cb hk;obtain ⟨p1,p2⟩:=Y9 (w:=w) (w':=w.setRow b Cb) (I:=I) (vers:=vers) (ys:=es.set i (.list e1 bW)) hr dJ (by simp;omega) hI
  (fun j b1 l=>(j=i∧K b1 l)∨(j≠i∧∃cap,es[j]? =some (.list e1 l)∧0<cap∧Ca[j]? =some (.slice (some ⟨b1,0,none⟩) l.length cap)))
  (fun j x hx=>by
   rw[D9] at hx;rw[kS];by_cases hj:i=j
   ·subst hj;simp only[o0,aA hi,fi] at hx;subst hx;refine ⟨bW,v,rfl,aA rfl,?_⟩;rcases k1 with h|⟨b1,cap,h0,h1,h2,h3,h4,h5⟩
    ·exact .inl h
    ·exact .inr ⟨b1,cap,h0,h1,h2,h3,h4,.inl ⟨rfl,h5⟩⟩
   ·rw[aw hj] at hx;rw[aw (fun h=>hj h.symm)];obtain ⟨l,u,m1,m2,m3⟩:=hc j x (fun h=>hj h.symm) hx;subst m1;refine ⟨l,u,rfl,m2,?_⟩;cases m3 with
    | gy a _=>unfold dY at a;rw[hu] at a;cases a
    | emp a=>exact .inl ⟨rfl,_,rfl⟩
    | @row _ _ b1 cap a h0 c d f=>exact .inr ⟨b1,cap,h0,rfl,by rw[hu] at a;cases a;exact c,d,f,.inr ⟨fun h=>hj h.symm,cap,hx,h0,m2⟩⟩)
  (fun j b1 l h=>by
   rcases h with ⟨_,h⟩|⟨hj,cap,hx,h0,hv⟩
   ·exact ⟨(k2 _ _ h).1,tM _ (k2 _ _ h).1,(k2 _ _ h).2.1⟩
   ·obtain ⟨q1,q2⟩:=c6 _ _ _ _ hj hx h0 hv;exact ⟨q1,tM _ q1,q2⟩)
  (fun j j' b1 l m h1 h2=>by
   have no: ∀{j l m},K b1 l→(j≠i∧∃cap,es[j]? =some (.list e1 m)∧0<cap∧Ca[j]? =some (.slice (some ⟨b1,0,none⟩) m.length cap))→False:=fun h ⟨hj,cap,hx,h0,hv⟩=>
    (k2 _ _ h).2.2.2 _ _ qx (by rw[hb];exact .qi rfl hh hj hx h0 hv)
   rcases h1 with ⟨h,h1⟩|h1
   ·rcases h2 with ⟨h',h2⟩|h2
    ·omega
    ·exact (no h1 h2).elim
   ·rcases h2 with ⟨_,h2⟩|h2
    ·exact (no h2 h1).elim
    ·obtain ⟨hj,cap,hx,h0,hv⟩:=h1;obtain ⟨fV,QS,dk,Q3,Gi⟩:=h2;exact mc _ _ _ _ _ _ _ hj fV hx dk h0 Q3 hv Gi)
 obtain ⟨a1,a2⟩:=Py S1 (w':=w.setRow b Cb) (blk':= .nest e (es.set i (.list e1 bW)) vers) qx (by simp) ⟨rfl,by simp,rfl,fun _=>az _⟩ hb hI (.inl (by simp)) tM (by rw[lD dJ,lD hh,hC]) (by simp) ⟨rfl,rfl⟩
  (fun b' ho=>by
   rcases p1 b' ho with rfl|⟨j,l,⟨_,h⟩|⟨hj,cap,hx,h0,hv⟩⟩
   ·exact .inl (.root (by simp) rfl)
   ·exact .inr ⟨(k2 _ _ h).2.2.1,(k2 _ _ h).2.2.2⟩
   ·exact .inl (.qi rfl hh hj hx h0 hv))
  (fun hle=>p2 hle.cQ)
 exact ⟨_,I,β,cR,rE.trans a1,a2,rfl⟩
end
section
variable {P:Program} {w w':World} {I I':Nat→Nat→Prop} {β β':Nat→Option Nat} {hp hp':Nat→Option ah} {C:af} {B:Nat} {M:Nat→Prop} {w0:Start}
theorem akz (S:aC P w I β hp B M w0) {t:TypeId} {a v:Value} {xa x:V} {r:R} {rd:List Nat} (ha:aj P w I β hp a xa) (hv:aj P w I β hp v x)
  (h:(O0 P t xa x).run C hp=some (r,rd)):rv P ((Instr.storeAt t a v).run P w) w I β hp B M w0 r:=by
 unfold O0 at h;obtain ⟨h0,h⟩:=aD h;simp only[aK,aM] at h0;obtain ⟨ht,hn⟩:=h0;cases xa with
 | ptr id i c=>
  obtain ⟨l,h⟩:=run_get h;cases ae:hp id with
  | none=>rw[ae] at h;cases h
  | some blk=>
   rw[ae] at h;cases blk with
   | dead=>cases h
   | var T0 cs=>
    obtain ⟨Zd,h⟩:=aD h;have ry:tq P T0=true→0<c:=fun cS=>by
     rw[cS] at Zd;simpa using Zd
    obtain ⟨b,hb,rfl⟩:=ha.je ae (by simp);simp only[ah.sz,Nat.mul_zero,dL];cases ET:Jz P t cs with
    | true=>
     dsimp only at h;rw[ET] at h;replace h:=W8 h;obtain ⟨ku,h⟩:=aD h;obtain ⟨e,Lu,va,BE,Xv⟩:=Xk ku;rw[Nat.sub_zero] at BE;unfold WS at h;rw[va] at h;simp only at h;obtain ⟨⟨y1,u1⟩,l3,l4,hq,h⟩:=oa h;obtain ⟨q1,q2⟩:=EK S.h.rel hq hv;cases y1 with
     | list e' es=>
      simp only at h;obtain ⟨hc,h⟩:=aD h;obtain rfl:=aN h;simp only[aK,nc,aM,mZ] at hc;obtain ⟨rfl,rfl,gK,zd⟩:=hc;obtain ⟨rE,S1⟩:=Bw S q1;have qx:cf hp u1 id=some (.var T0 cs):=by
       rcases w5 (hp:=hp) (l:=u1) (id:=id) with h|⟨b',hm,_⟩
       ·exact h.trans ae
       ·exfalso;have tC:iN (u1.map (·.1)) id=true:=yG (iB.2 ⟨_,hm,rfl⟩);rw[tC] at zd;cases zd
      have eH:Plain P w (jX P w I β hp u1) v (.list e es):=q2 (jX P w I β hp u1) (fun _ _ h=> .inl h) (fun p hp b j h=> .inr ⟨p,hp,h⟩);have Ze:c<cs.length:=(cC.1 BE).1;have sj:aj P w (jX P w I β hp u1) β (cf hp u1) v (.nl e es):= .nl eH fun e0=>by rw[e0] at gK;simp at gK
      have qq:v.cells= #[v]:=by
       cases sj with
       | nl q=>cases q<;>rfl
      have j6:x.cells.length=1:=by
       cases x<;>simp only[Eg] at hq<;>first|rfl|(cases hq;done)
      have key:rv P ((Instr.storeAt t (.pointer (some ⟨b,c,none⟩)) v).run P w) w (jX P w I β hp u1) β (cf hp u1) B M w0 ⟨.undef,[(id,.var T0 (ra cs 0 c es))]⟩:=by
       refine PI (x:=V.nl e es) S1 qx hb ht (by rw[←hn,j6];rfl) (by rw[qq];rfl) ry (fun j u y hu hy=> ?_) (by rw[qq];simp;cases sj with|nl q=>cases q<;>rfl) (by show c+1≤_;omega) (Xl _ _ _ _) (fun j y hy hj u hu=> ?_) (fun j y hy hj u hu=> ?_)
       ·rw[qq] at hu;cases j with
        | zero=>simp at hu;subst hu;cases hy;exact sj
        | succ j=>cases hy
       ·refine hu y ?_;rw[←hy];exact (Xm (by have:j<c∨c+1≤j:=hj;omega)).symm
       ·have Gh:j=0:=by have:j<1:=hj;omega
        subst Gh;have:=Xn (xs:=es) (j0:=0) (c:=c) (by rw[Nat.sub_zero];exact BE) (ma _);rw[Nat.sub_zero] at this;rw[Nat.add_zero,this] at hy;cases hy;exact hu _ rfl
      obtain ⟨w',I2,cM,z1,z2,z3,z4⟩:=key;exact ⟨w',I2,cM,z1,rE.trans z2,z3,z4⟩
     | _=>cases h
    | false=>
    dsimp only at h;rw[ET] at h;replace h:=W9 h;cases vb:(Bg P t cs&&fR P t x) with
    | true=>
     rw[vb] at h;simp only[cond_true] at h;obtain ⟨hc,h⟩:=aD h;obtain rfl:=aN h;simp only[aK,mZ] at hc vb;obtain ⟨o1,o2⟩:=Xy hv vb.2;have tE:=ahq vb.2;refine PI S ae hb ht hn (by rw[o2,tE];rfl) ry (fun j u y hu hy=> ?_) (by rw[o2];simp[o1]) (by rw[tE];simp;omega) (Xx _ _ _ _) (fun j y hy hj u hu=> ?_) (fun j y hy hj u hu=> ?_)
     ·rw[o2] at hu;rw[tE] at hy;cases j with
      | zero=>simp at hu hy;subst hu;subst hy;exact hv
      | succ j=>simp at hy
     ·rw[PH] at hy;cases Cl:cs[j]? with
      | none=>rw[Cl] at hy;cases hy
      | some y0=>
       rw[Cl] at hy;simp only[Option.map_some,fi] at hy;rw[tE] at hj;simp only[List.length_singleton] at hj;have bq:Nat.beq c (0+j)=false:=by
        cases hq:Nat.beq c (0+j) with
        | false=>rfl
        | true=>rw[aM] at hq;omega
       rw[bq] at hy;have:=Xg (c:=false) hv (hu y0 Cl);rw[←hy];simpa using this
     ·rw[tE] at hj hu;have Gh:j=0:=by simpa using hj
      subst Gh;rw[PH] at hy;cases Cl:cs[c+0]? with
      | none=>rw[Cl] at hy;cases hy
      | some y0=>
       rw[Cl] at hy;simp only[Option.map_some,fi] at hy;have heq:Nat.beq c (0+(c+0))=true:=by rw[aM];omega
       rw[heq] at hy;have h2:aj P w I β hp u x:=hu x rfl;have:wK true x y0=x:=ahr x y0;rw[←hy,this];exact h2
    | false=>
     rw[vb] at h;simp only[cond_false] at h;obtain ⟨hc,h⟩:=aD h;simp only[aK,gb] at hc;obtain ⟨e1,e2⟩:=PF hv h;obtain ⟨h1,l2,h⟩:=J7 h (vs:=v.cells.toList) (by simpa using e1) (fun j u y a b=>e2 j u y (by simpa using a) b);obtain rfl:=aN h;refine PI S ae hb ht hn e1 ry e2 h1 hc.2 (EU _ _ _ hc.2) (fun j y hy hj u hu=> ?_) (fun j y hy hj u hu=> ?_)
     ·unfold jx at hy;rw[rq _ _ _ _ hc.2] at hy;rcases hj with hj|hj
      ·rw[aA hj] at hy;exact hu y hy
      ·rw[dm,dm] at hy;exact hu y hy
     ·unfold jx at hy;rw[rq _ _ _ _ hc.2,dm,da] at hy;rw[show c+j-c=j by omega] at hy;exact hu y hy
   | arr e es fz=>
    cases fz with
    | true=>cases h
    | false=>
    obtain ⟨b,hb,rfl⟩:=ha.je ae (by simp);obtain ⟨ao,h⟩:=aD h;obtain ⟨⟨ys,fr⟩,l1,l2,bP,h⟩:=oa h;obtain ⟨hc,h⟩:=aD h;obtain ⟨x0,vz,h⟩:=n9 h;obtain rfl:=aN h;simp only[aK,nc,gb] at hc;obtain ⟨gz,hc3,gg⟩:=hc;have rG:v.cells.size=x.cells.length∧∀(j:Nat) u y,v.cells.toList[j]? =some u→x.cells[j]? =some y→aj P w I β hp u y:=by
     cases x with
     | agg xs=>
      obtain ⟨cs,rfl,h1,h2⟩:=hv.np;exact ⟨h1,fun j u y a b=>h2 j u y (by simpa[Value.cells] using a) b⟩
     | _=>
      simp only[V.cells] at bP gg⊢;simp only[wJ] at bP;obtain ⟨⟨y1,u1⟩,l3,l4,hq,bP⟩:=oa bP;obtain ⟨q1,q2⟩:=EK S.h.rel hq hv;obtain ⟨⟨y2,u2⟩,l5,l6,vA,bP⟩:=oa bP;cases vA;have:=aN bP;cases this;obtain ⟨tl,tg⟩:=yF gg;have fe:=tg 0 _ y1 (b7 (by rw[tl];exact Nat.one_pos)) rfl;have eH:=q2 (jX P w I β hp u1) (fun _ _ h=> .inl h) (fun p hp b j h=> .inr ⟨p,hp,h⟩);have ho:=eH.pure fe;have Zf:v.cells= #[v]:=by cases ho<;>rfl
      rw[Zf];refine ⟨rfl,fun j u y hu hy=> ?_⟩;cases j with
      | zero=>simp at hu hy;subst hu;subst hy;exact hv
      | succ j=>simp at hy
    obtain ⟨k1,k2,k3⟩:=Pw S.h.rel bP (vs:=v.cells.toList) (by simpa using rG.1) rG.2;obtain ⟨rE,S1⟩:=Bw S k2;have qx:cf hp fr id=some (.arr e es false):=by
     rcases w5 (hp:=hp) (l:=fr) (id:=id) with h|⟨b',hm,_⟩
     ·exact h.trans ae
     ·exfalso;have zd:iN (fr.map (·.1)) id=true:=yG (iB.2 ⟨_,hm,rfl⟩);rw[zd] at gz;cases gz
    have Zg:=k3 (jX P w I β hp fr) (fun _ _ h=> .inl h) (fun p hp b j h=> .inr ⟨p,hp,h⟩);obtain ⟨tl,tg⟩:=yF gg;have gR:=(oF ao).1;have xw:ys.length=v.cells.size:=by rw[k1,rG.1]
    have hcn:c+v.cells.size≤P.cellsOf e:=by rw[rG.1];exact hc3
    have hr:=S1.h.rel id _ qx;cases hr with
    | ez au=>simp at vz
    | @arr _ _ _ _ b' Ca hL PD au hh hs hf fO hx=>
     rw[hb] at au;cases au;have pq:i<es.length:=(cC.1 vz).1;have hbound:i*P.cellsOf e+P.cellsOf e≤Ca.size:=by
      have:(i+1)*P.cellsOf e≤es.length*P.cellsOf e:=eF _ pq;rw[jh] at this;omega
     simp only[ah.sz];have xc:i*P.cellsOf e+c+v.cells.size≤Ca.size:=by omega
     have dp: ∀j,¬jX P w I β hp fr b j:=fO rfl;have h1: ∀u∈v.cells.toList,u.oneCell'=true:=by
      intro u hu;obtain ⟨j,hj⟩:=tm hu;have dr:j<ys.length:=by rw[xw];simpa using (cC.1 hj).1
      have sK:j<(((flat P e).drop c).take x.cells.length).length:=by rw[tl];exact dr
      exact (Zg j u ys[j] hj (b7 dr)).one (tg j _ ys[j] (b7 sK) (b7 dr))
     have cR:=J8 (t:=t) (o:=i*P.cellsOf e+c) (v:=v) ht (by rw[rG.1];exact hn.symm) hh xc h1;have hlen:(Ca.toList.take (i*P.cellsOf e+c)++(v.cells.toList++Ca.toList.drop (i*P.cellsOf e+c+v.cells.toList.length))).length=Ca.size:=by
      rw[EU _ _ _ (by simpa using xc)];simp
     have eH:(parts P e x0).length=P.cellsOf e:=by rw[BC];exact fG ao
     have EV:=J9 S1 (blk':= .arr e (es.set i (dA P e (jx (parts P e x0) c ys))) false)
      (Cb:=(Ca.toList.take (i*P.cellsOf e+c)++(v.cells.toList++Ca.toList.drop (i*P.cellsOf e+c+v.cells.toList.length))).toArray) qx (by simp) ⟨rfl,by simp⟩ hb dp (by simp) hh (by simpa using hlen)
      (fun hle dJ=> .arr (by rw[rW,hlen];exact hL) ao rfl dJ (by simp only[rW,o4];omega) (fun h=>by cases h) (fun _=>dp) fun i' j z t' hz sK hj=>by
       simp only[o3];rw[rq _ _ _ _ (by simpa using xc)];simp only[Array.length_toList];rw[D9] at hz;by_cases nG:i=i'
       ·subst nG;rw[aA rfl,aA pq] at hz;cases hz;have Lv:j<(parts P e x0).length:=by omega
        have ze:(jx (parts P e x0) c ys)[j]? =if j<c then (parts P e x0)[j]? else if j<c+ys.length then ys[j-c]? else (parts P e x0)[j]? :=by
         unfold jx;exact rq _ _ _ _ (by omega)
        by_cases vc:j<c
        ·rw[da];rw[aA vc] at ze;obtain ⟨u,t2,a1,a2,a3⟩:=J5 hx ao vz (b7 Lv);rw[sK] at a1;cases a1;refine ⟨u,by simpa using a2,?_⟩;rw[vd (ze.trans (b7 Lv)) sK];exact a3.mono hle.ej hle.cQ
        ·rw[aw vc] at ze;by_cases dB:j<c+ys.length
         ·rw[aA dB] at ze;rw[dm,da];have tO:j-c<ys.length:=by omega
          have Zh:j-c<v.cells.toList.length:=by simp;omega
          have azd:j-c<v.cells.size:=by omega
          refine ⟨v.cells.toList[j-c],?_,?_⟩
          ·rw[show i*P.cellsOf e+j-(i*P.cellsOf e+c)=j-c by omega];exact b7 Zh
          ·rw[vd (ze.trans (b7 tO)) sK];have hft:(((flat P e).drop c).take x.cells.length)[j-c]? =some t':=by
            rw[jv (by omega),qX,show c+(j-c)=j by omega,←sm];exact sK
           exact ((Zg (j-c) _ ys[j-c] (b7 Zh) (b7 tO)).pure (tg (j-c) t' ys[j-c] hft (b7 tO))).mono hle.ej hle.cQ
         ·rw[aw dB] at ze;rw[dm,dm];obtain ⟨u,t2,a1,a2,a3⟩:=J5 hx ao vz (b7 Lv);rw[sK] at a1;cases a1;refine ⟨u,by simpa using a2,?_⟩;rw[vd (ze.trans (b7 Lv)) sK];exact a3.mono hle.ej hle.cQ
       ·rw[aw nG] at hz;obtain ⟨u,a2,a3⟩:=hx i' j z t' hz sK hj;have bq:i'*P.cellsOf e+j<i*P.cellsOf e+c∨i*P.cellsOf e+c+v.cells.size≤i'*P.cellsOf e+j:=by
         rcases jR i' i with aR|qy
         ·left;have:(i'+1)*P.cellsOf e≤i*P.cellsOf e:=eF _ aR;rw[jh] at this;omega
         ·right;have:(i+1)*P.cellsOf e≤i'*P.cellsOf e:=eF _ (by omega);rw[jh] at this;omega
        refine ⟨u,?_,a3.mono hle.ej hle.cQ⟩;rcases bq with bq|bq
        ·rw[aA bq];simpa using a2
        ·rw[dm,dm];simpa using a2)
     exact ⟨_,_,_,cR,rE.trans EV.1,EV.2,rfl⟩
   | map _ _=>cases h
   | out e es vers j=>
    obtain ⟨b,hb,rfl⟩:=ha.je ae (by simp);unfold WW at h;obtain ⟨hc,h5⟩:=aD h;clear h;simp only[aK,aM] at hc;obtain ⟨rfl,rfl⟩:=hc;cases hr:rowOf P e with
    | none=>simp only[hr] at h5;cases h5
    | some e1=>
     simp only[hr] at h5;cases x with
     | whole e3 aJ=>
      obtain ⟨l1,h6⟩:=run_get h5;cases dt:hp aJ with
      | none=>rw[dt] at h6;cases h6
      | some cI=>
       rw[dt] at h6;cases cI with
       | arr e4 bW fz=>
        cases fz with
        | true=>cases h6
        | false=>
         obtain ⟨hc,h7⟩:=aD h6;obtain rfl:=aN h7;simp only[aK,aM,nc] at hc;obtain ⟨rfl,rfl,bq⟩:=hc;exact aky S hr ae hb ht hn.symm dt (fun e=>by rw[e,nX] at bq;cases bq) hv
       | _=>cases h6
     | _=>cases h5
   | nest e es vers=>
    obtain ⟨b,hb,rfl⟩:=ha.je ae (by simp);exact Y8 S ht hn hv ae hb .here h
 | dI id ver path i c=>
  obtain ⟨e0,es,vers,l,ae,h1,h2,h3,h⟩:=rm h;obtain ⟨b,b1,e1,l1,hb,fT,rfl⟩:=ha.Xa ae h1 h2 h3;exact Y8 S ht hn hv ae hb fT h
 | _=>cases h
end
section
variable {P:Program} {w w':World} {I I':Nat→Nat→Prop} {β β':Nat→Option Nat} {hp hp':Nat→Option ah} {C:af} {B:Nat} {M:Nat→Prop} {w0:Start}
theorem Lw: ∀{ts:List TypeId} {vs:List Value} {j:Nat} {y:V},(kh P ts vs)[j]? =some y→∃t v,ts[j]? =some t∧vs[j]? =some v∧y=qZ P t v
 | [],vs,j,y,h=>by simp[kh] at h
 | _::_,[],j,y,h=>by simp[kh] at h
 | t::ts,v::vs,0,y,h=>by simp[kh] at h;grind
 | t::ts,v::vs,j+1,y,h=>by
  simp only[kh,List.getElem?_cons_succ] at h;obtain ⟨t',v',a,b,c⟩:=Lw h;grind
theorem Zi: ∀{ts:List TypeId} {vs:List Value},ts.length=vs.length→(kh P ts vs).length=vs.length
 | [],[],_=>rfl
 | [],_::_,h=>by simp at h
 | _::_,[],h=>by simp at h
 | t::ts,v::vs,h=>by simp[kh,Zi (ts:=ts) (vs:=vs) (by grind)]
theorem lb {e:TypeId} (h:c8 P e=true): ∃i z,P.info? e=some i∧i.zero=some z∧i.size=P.cellsOf e∧z.cells.size=P.cellsOf e∧zeroCells P e=kh P (flat P e) z.cells.toList:=by
 unfold c8 at h;simp only[aK,aM,mZ] at h;obtain ⟨h1,h2,_,h3⟩:=h;cases hi:P.info? e with
 | none=>grind
 | some i=>
  rw[hi] at h3;simp only[Option.bind_some] at h3;cases hz:i.zero with
  | none=>grind
  | some z=>
   rw[hz] at h3;simp only[aM] at h3;exact ⟨i,z,rfl,hz,by simp[Program.cellsOf,hi],h3,by simp[zeroCells,hi,hz]⟩
theorem Zj {e:TypeId} (h:c8 P e=true): ∃i z,P.info? e=some i∧i.zero=some z∧z.cells.size=(zeroCells P e).length∧z.cells.size=P.cellsOf e∧
  ∀(j:Nat) v x,z.cells[j]? =some v→(zeroCells P e)[j]? =some x→aj P w I β hp v x:=by
 obtain ⟨i,z,h1,h2,h3,h4,h5⟩:=lb h;have hl:(flat P e).length=z.cells.toList.length:=by rw[(oF h).1];grind
 refine ⟨i,z,h1,h2,?_,h4,fun j v x hv hx=> ?_⟩
 ·rw[h5,Zi hl];simp
 ·rw[h5] at hx;obtain ⟨t,v',_,Gi,rfl⟩:=Lw hx;have:v'=v:=by
   grind
  subst this;exact aj.const t v'
theorem mR {nb:Nat} {b:ah} {v:V} {upd:List (Nat×ah)} {r:R} {rd:List Nat} (h:(jA nb b v upd).run C hp=some (r,rd)):hp nb=none∧r=⟨v,(nb,b)::upd⟩:=by
 obtain ⟨l,h⟩:=run_get h;cases hn:hp nb with
 | none=>rw[hn] at h;exact ⟨rfl,(aN h).symm⟩
 | some x=>rw[hn] at h;cases h
theorem Zk (S:aC P w I β hp B M w0) {nb:Nat} {xs:List V} {C0:Array Value} {T:TypeId} (hn:hp nb=none) (hs:C0.size=xs.length)
  (hx: ∀(j:Nat) v x,C0[j]? =some v→xs[j]? =some x→aj P w I β hp v x) (iQ:W3 P w.heap.size T C0):
  Le P w I β hp (w.alloc (.cells C0 T)) I (an β nb (some w.heap.size)) (an hp nb (some (.var T xs)))∧aC P (w.alloc (.cells C0 T)) I (an β nb (some w.heap.size)) (an hp nb (some (.var T xs))) B M w0∧
  aj P (w.alloc (.cells C0 T)) I (an β nb (some w.heap.size)) (an hp nb (some (.var T xs))) (.pointer (some ⟨w.heap.size,0,none⟩)) (.ptr nb 0 0):=by
 obtain ⟨h1,h2⟩:=Pz S (blk:= .var T xs) (c:=C0) (T:=T) hn (fun b' h=>(dU (h.flat (by simp))).symm) (fun hle dJ dp=> .var rfl dJ hs dp (fun j v x a b=>(hx j v x a b).mono hle) iQ);refine ⟨h1,h2,?_⟩;have:=aj.ptr (P:=P) (w:=w.alloc (.cells C0 T)) (I:=I) (β:=an β nb (some w.heap.size)) (hp:=an hp nb (some (.var T xs))) (i:=0) (c:=0) (blk:= .var T xs) (bK _ _ _) (by simp) (bK _ _ _);grind
theorem Zl (S:aC P w I β hp B M w0) {e:TypeId} {nb:Nat} {r:R} {rd:List Nat}
  (h:(Rd.aB (c8 P e&&(!(tq P e)||WV (zeroCells P e))) (jA nb (.var e (zeroCells P e)) (.ptr nb 0 0) [])).run C hp=some (r,rd)):dq P ((Instr.alloc e true (.tuple #[])).run P w) w I β hp B M w0 r:=by
 obtain ⟨ao,h⟩:=aD h;rw[aK] at ao;obtain ⟨ao,ry⟩:=ao;obtain ⟨hn,rfl⟩:=mR h;obtain ⟨i,z,h1,h2,h3,h4,h5⟩:=Zj (w:=w) (I:=I) (β:=β) (hp:=hp) ao;obtain ⟨a,b,c⟩:=Zk S (T:=e) hn h3 h5 fun cS=>by
  rw[cS,Bool.not_true,Bool.false_or] at ry;cases hz:zeroCells P e with
  | nil=>rw[hz] at ry;cases ry
  | cons y l=>
   rw[hz] at ry h3 h5;cases y<;>first|(cases ry;done)|skip
   have aR:0<z.cells.size:=by grind
   have:=h5 0 z.cells[0] .eG (lr aR) rfl;left;rw[lr aR];generalize z.cells[0]=u at this;cases this;rfl
 exact ⟨_,_,_,_,by simp[Instr.alloc,zeroValue,typeInfo,h1,h2,newVar,newRow],a,b,c⟩
theorem akA (S:aC P w I β hp B M w0) {e:TypeId} {nb:Nat} {x:V} {v:Value} {r:R} {rd:List Nat} (hv:aj P w I β hp v x)
  (h:(Rd.aB (!(tq P e)) <| o9 x.cells (jA nb (.var e x.cells) (.ptr nb 0 0) [])).run C hp=some (r,rd)):dq P ((Instr.box e v).run P w) w I β hp B M w0 r:=by
 obtain ⟨ry,h⟩:=aD h;obtain ⟨e1,e2⟩:=PF hv h;obtain ⟨_,l,h⟩:=J7 h (vs:=v.cells.toList) (by omega) (fun j u y a b=>e2 j u y (by grind) b);obtain ⟨hn,rfl⟩:=mR h;obtain ⟨a,b,c⟩:=Zk S (T:=e) hn e1 e2 fun cS=>by grind
 exact ⟨_,_,_,_,by simp[Instr.box,newVar,newRow],a,b,c⟩
theorem foldl_set (off:Nat): ∀(vs:List Value) (k:Nat) (cs:Array Value) (i:Nat),off+k+vs.length≤cs.size→
  ((vs.zipIdx k).foldl (fun cs p=>cs.setIfInBounds (off+p.2) p.1) cs)[i]? =if i<off+k then cs[i]? else if i<off+k+vs.length then vs[i-(off+k)]? else cs[i]?
 | [],k,cs,i,h=>by simp_all
 | v::vs,k,cs,i,h=>by
  simp only[List.zipIdx_cons,List.foldl_cons];simp only[List.length_cons] at h⊢;rw[foldl_set off vs (k+1) _ i (by simp;omega)];grind
theorem Zm (off:Nat): ∀(vs:List Value) (k:Nat) (cs:Array Value),((vs.zipIdx k).foldl (fun cs p=>cs.setIfInBounds (off+p.2) p.1) cs).size=cs.size
 | [],k,cs=>rfl
 | v::vs,k,cs=>by
  simp only[List.zipIdx_cons,List.foldl_cons];rw[Zm off vs (k+1)];simp
theorem Zn {cells:Array Value} {off:Nat} {v:Value} (h:off+v.cells.size≤cells.size) (i:Nat):
  (v.cells.zipIdx.foldl (fun cs (p:Value×Nat)=>cs.setIfInBounds (off+p.2) p.1) cells)[i]? =if i<off then cells[i]? else if i<off+v.cells.size then v.cells[i-off]? else cells[i]? :=by
 have:=foldl_set off v.cells.toList 0 cells i (by omega);rw[←Jn];grind
theorem Zo {cells:Array Value} {off:Nat} {v:Value}:(v.cells.zipIdx.foldl (fun cs (p:Value×Nat)=>cs.setIfInBounds (off+p.2) p.1) cells).size=cells.size:=by
 have:=Zm off v.cells.toList 0 cells;rw[←Jn];grind
inductive Cm (P:Program) (w:World) (I:Nat→Nat→Prop) (β:Nat→Option Nat) (hp:Nat→Option ah):List (Nat×Value)→List (Nat×V)→Prop
 | nil:Cm P w I β hp [] []
 | cons {i:Nat} {v:Value} {x:V} {vs:List (Nat×Value)} {xs:List (Nat×V)}:v.cells.size=x.cells.length→(∀(j:Nat) u y,v.cells[j]? =some u→x.cells[j]? =some y→aj P w I β hp u y)→
   Cm P w I β hp vs xs→Cm P w I β hp ((i,v)::vs) ((i,x)::xs)
theorem Zp (place:Nat→Option (Nat×Nat)): ∀{vs:List (Nat×Value)} {px:List (Nat×V)} {cells:Array Value} {xs ys:List V},Cm P w I β hp vs px→cells.size=xs.length→
  (∀(j:Nat) v x,cells[j]? =some v→xs[j]? =some x→aj P w I β hp v x)→yk place xs px=some ys→
  ∃tP:Array Value,Instr.fill place cells vs=some tP∧tP.size=ys.length∧∀(j:Nat) v x,tP[j]? =some v→ys[j]? =some x→aj P w I β hp v x
 | _,_,cells,xs,ys,.nil,hs,hx,h=>by
  simp only[yk,fi] at h;subst h;exact ⟨cells,by simp[Instr.fill],hs,hx⟩
 | _,_,cells,xs,ys,@Cm.cons _ _ _ _ _ i v x vs px h1 h2 h3,hs,hx,h=>by
  simp only[yk] at h;cases eH:place i with
  | none=>grind
  | some os=>
   obtain ⟨off,size⟩:=os;rw[eH] at h;simp only at h;cases hc:(Nat.beq x.cells.length size&&Nat.ble (off+size) xs.length) with
   | false=>grind
   | true=>
    rw[hc] at h;simp only[cond_true] at h;simp only[aK,aM,gb] at hc;have hv:off+v.cells.size≤cells.size:=by omega
    have hb:off+x.cells.length≤xs.length:=by omega
    have hl:(jx xs off x.cells).length=xs.length:=EU _ _ _ hb;obtain ⟨tP,f1,f2,f3⟩:=Zp place (cells:=v.cells.zipIdx.foldl (fun cs (p:Value×Nat)=>cs.setIfInBounds (off+p.2) p.1) cells) (xs:=jx xs off x.cells) h3 (by rw[Zo,hl,hs])
     (fun j u y hu hy=>by
      rw[Zn hv] at hu;unfold jx at hy;grind) h
    refine ⟨tP,?_,f2,f3⟩;simp only[Instr.fill,eH];grind
theorem akB {t:TypeId} {parts:Array (Nat×Value)} {cells:Array Value} {z:Value} {i:TypeInfo} (hi:P.info? t=some i) (hz:i.zero=some z) (h:Instr.fill (placeOf P t) z.cells parts.toList=some cells) (ha:b8 P t=true)
  (eH: ∀fs,P.underlying t=some (.struct fs)→(fs.toList.mapM fun f=>(P.info? f.type).map fun i=>(f.offset,i.size)).isSome=true) (vB: ∀n e,P.underlying t=some (.array n e)→(P.info? e).isSome=true):
  (Instr.build t parts).run P w= .ok (.agg cells) w:=by
 refine run_build w t parts cells ?_;unfold Program.built;unfold b8 at ha;rw[hi];split at ha
 ·rename_i fs hu;have:=eH fs hu;cases hm:fs.toList.mapM fun f=>(P.info? f.type).map fun i=>(f.offset,i.size) with
  | none=>grind
  | some places=>
   simp only[hu,hz,hm];have hq:placeOf P t=fun i=>places[i]? :=by simp[placeOf,hu,hm]
   simp_all
 ·rename_i n e hu;have:=vB n e hu;cases nH:P.info? e with
  | none=>grind
  | some ie=>
   simp only[hu,hz,nH];have hq:placeOf P t=fun i=>some (i*ie.size,ie.size):=by simp[placeOf,hu,nH]
   grind
 ·cases ha
theorem Zq {α:Type}: ∀(xs ys:List V) (k:Rd α),o9 (xs++ys) k=o9 xs (o9 ys k)
 | [],_,_=>rfl
 | x::xs,ys,k=>by simp only[List.cons_append,o9,Zq xs ys k]
theorem Zr {a:Act} {sl:Nat→V} (hs:n8 P w I β hp a sl) {G:Nat→V} (hg:jW P G w I) (t:TypeId) {α:Type}: ∀{l:List (Nat×Operand)} {k:Rd α} {r:α} {rd:List Nat},
  (o9 ((l.map fun p=>(aW P G t sl p.2).cells).flatten) k).run C hp=some (r,rd)→
  Cm P w I β hp (l.map fun p=>(p.1,a.eval p.2)) (l.map fun p=>(p.1,aW P G t sl p.2))∧∃gU,k.run C hp=some (r,gU)
 | [],k,r,rd,h=>⟨.nil,rd,h⟩
 | (i,x)::l,k,r,rd,h=>by
  simp only[lu,List.flatten_cons,Zq] at h;obtain ⟨e1,e2⟩:=PF (hs.ev hg t x) h;obtain ⟨_,l1,h⟩:=J7 h (vs:=(a.eval x).cells.toList) (by omega) (fun j u y a b=>e2 j u y (by grind) b);obtain ⟨h1,h2⟩:=Zr hs hg t h;exact ⟨.cons e1 e2 h1,h2⟩
theorem akC (S:aC P w I β hp B M w0) {a:Act} {sl:Nat→V} (hs:n8 P w I β hp a sl) {G:Nat→V} (hg:jW P G w I) {t ty:TypeId} {ps:Array (Nat×Operand)} {r:R} {rd:List Nat}
  (h:(Rd.aB (c8 P t&&(b8 P t&&JL P t)) (o9 ((ps.toList.map fun p=>(aW P G ty sl p.2).cells).flatten)
   (Bj (yk (placeOf P t) (zeroCells P t) (ps.toList.map fun p=>(p.1,aW P G ty sl p.2))) fun cs=> .ret ⟨.agg cs,[]⟩))).run C hp=some (r,rd)):
  dq P ((Instr.build t (ps.map fun (i,x)=>(i,a.eval x))).run P w) w I β hp B M w0 r:=by
 obtain ⟨ao,h⟩:=aD h;simp only[aK] at ao;obtain ⟨h1,l,h⟩:=Zr hs hg ty h;cases hf:yk (placeOf P t) (zeroCells P t) (ps.toList.map fun p=>(p.1,aW P G ty sl p.2)) with
 | none=>rw[hf] at h;cases h
 | some cs=>
  rw[hf] at h;obtain rfl:=aN h;obtain ⟨i,z,hi,hz,h3,h4,h5⟩:=Zj (w:=w) (I:=I) (β:=β) (hp:=hp) ao.1;obtain ⟨cells,f1,f2,f3⟩:=Zp (placeOf P t) h1 h3 h5 hf;have Fz:=ao.2.2;refine .same S (v:= .agg cells) (akB hi hz (by simp_all) ao.2.1 (fun fs hu=> ?_) (fun n e hu=> ?_)) (.agg f2 f3)
  ·simpa[JL,hu] using Fz
  ·simpa[JL,hu] using Fz
theorem akD (cT: ∀id blk,hp id=some blk→fc P w I β hp (β id) blk) {x:V} {v:Value} {ys:List V} {fr:List (Nat×ah)} {rd:List Nat} {ts:List TypeId} (hv:aj P w I β hp v x)
  (h:(wJ P x.cells).run C hp=some ((ys,fr),rd)) (ht:uM P ts ys=true):
  v.cells.size=x.cells.length∧∀(j:Nat) u y,v.cells.toList[j]? =some u→x.cells[j]? =some y→aj P w I β hp u y:=by
 cases x with
 | agg xs=>
  obtain ⟨cs,rfl,h1,h2⟩:=hv.np;exact ⟨h1,fun j u y a b=>h2 j u y (by simpa[Value.cells] using a) b⟩
 | _=>
  simp only[V.cells] at h⊢;simp only[wJ] at h;obtain ⟨⟨y1,u1⟩,l3,l4,hq,h⟩:=oa h;obtain ⟨q1,q2⟩:=EK cT hq hv;obtain ⟨⟨y2,u2⟩,l5,l6,vA,h⟩:=oa h;cases vA;have:=aN h;cases this;obtain ⟨tl,tg⟩:=yF ht;have fe:=tg 0 _ y1 (b7 (by grind)) rfl;have eH:=q2 (jX P w I β hp u1) (fun _ _ h=> .inl h) (fun p hp b j h=> .inr ⟨p,hp,h⟩);have ho:=eH.pure fe;have Zf:v.cells= #[v]:=by cases ho<;>rfl
  grind
def Cn (P:Program) (w:World) (I:Nat→Nat→Prop) (e:TypeId) (cells:Array Value) (es:List V):Prop:=
 cells.size=es.length*P.cellsOf e∧∀(i j:Nat) (x:V) (t':TypeId),es[i]? =some x→(aX P e)[j]? =some t'→j<P.cellsOf e→∃v,cells[i*P.cellsOf e+j]? =some v∧Pure P w I t' v (ch P e x j)
theorem Cn.set {e:TypeId} {cells:Array Value} {es ys:List V} {i:Nat} {v:Value} (h:Cn P w I e cells es) (hi:i<es.length) (hv:v.cells.size=P.cellsOf e) (hy:ys.length=P.cellsOf e)
  (hr: ∀(j:Nat) (t':TypeId) (u:Value) (y:V),(aX P e)[j]? =some t'→v.cells[j]? =some u→ys[j]? =some y→Pure P w I t' u y):
  Cn P w I e (v.cells.zipIdx.foldl (fun cs (p:Value×Nat)=>cs.setIfInBounds (i*P.cellsOf e+p.2) p.1) cells) (es.set i (dA P e ys)):=by
 obtain ⟨h1,h2⟩:=h;have hb:i*P.cellsOf e+v.cells.size≤cells.size:=by
  have:(i+1)*P.cellsOf e≤es.length*P.cellsOf e:=eF _ hi;grind
 refine ⟨by rw[Zo,o4,h1],fun i' j x t' hx ht hj=> ?_⟩;rw[Zn hb];rw[D9] at hx;by_cases nG:i=i'
 ·subst nG;rw[aA rfl,aA hi] at hx;cases hx;rw[dm,da,show i*P.cellsOf e+j-i*P.cellsOf e=j by omega];have h3:j<v.cells.size:=by omega
  have h4:j<ys.length:=by omega
  refine ⟨v.cells[j],lr h3,?_⟩;rw[vd (b7 h4) ht];exact hr j t' _ _ ht (lr h3) (b7 h4)
 ·rw[aw nG] at hx;have bq:i'*P.cellsOf e+j<i*P.cellsOf e∨i*P.cellsOf e+v.cells.size≤i'*P.cellsOf e+j:=by
   rcases jR i' i with aR|qy
   ·left;have:(i'+1)*P.cellsOf e≤i*P.cellsOf e:=eF _ aR;grind
   ·right;have:(i+1)*P.cellsOf e≤i'*P.cellsOf e:=eF _ (by omega);grind
  grind
theorem Zs {t':TypeId} {v:Value} (fe:fR P t' (qe (qZ P t' v))=true):Pure P w I t' v (qe (qZ P t' v)):=by
 have hc:=aj.const (P:=P) (w:=w) (I:=I) (β:=fun _=>none) (hp:=fun _=>none) t' v;cases zf:qZ P t' v<;>rw[zf] at fe hc<;>simp only[qe] at fe⊢
 case int k n=>rw[hc.fU];exact Plain.pure (v:= .int k n) (y:= .int k n) rfl fe
 case bool b=>rw[hc.nn];exact Plain.pure (v:= .bool b) (y:= .bool b) rfl fe
 case str l=>obtain ⟨s,e1,e2⟩:=hc.oG;rw[e1];exact Plain.pure (v:= .string s) (y:= .str l) ⟨s,rfl,e2⟩ fe
 case nilS e'=>
  cases hc;exact Plain.pure (y:= .list e' []) (kP.any fun _=>rfl) fe
 case list e' es=>
  cases hc with
  | list hp=>exact Plain.pure (y:= .list e' es) hp fe
 all_goals (unfold fR at fe;grind)
theorem Zt {t':TypeId} {v:Value} (fe:fR P t' (qe (qZ P t' v))=true): ∀a n c,v= .slice a n c→c=0:=by
 intro a n c hv;subst hv;unfold qZ at fe;split at fe<;>first|(rename_i h;cases h;rfl)|skip
 all_goals first|(simp_all;done)|(unfold fR qe at fe;split at fe<;>simp_all)
theorem Gj {e:TypeId} (h:o6 P e=true): ∃i z,P.info? e=some i∧i.zero=some z∧i.size=P.cellsOf e∧z.cells.size=P.cellsOf e∧
  ∀(j:Nat) (t':TypeId),(aX P e)[j]? =some t'→j<P.cellsOf e→∃v,z.cells[j]? =some v∧Pure P w I t' v (ch P e (dA P e (ji P e)) j)∧∀a n c,v= .slice a n c→c=0:=by
 unfold o6 at h;simp only[aK] at h;obtain ⟨i,z,h1,h2,h3,h4,h5⟩:=lb h.1;refine ⟨i,z,h1,h2,h3,h4,fun j t' ht hj=> ?_⟩;obtain ⟨tl,tg⟩:=yF h.2;have dr:j<(ji P e).length:=by rw[←tl,(oF h.1).1];exact hj
 have hz:=b7 dr;have fe:=tg j t' _ (by rw[←sm];exact ht) hz;refine ⟨z.cells[j],lr (by omega),?_⟩;rw[vd hz ht];have zg:(ji P e)[j]=qe (qZ P t' z.cells[j]):=by
  have:(ji P e)[j]? =((zeroCells P e)[j]?).map qe:=by simp[ji]
  rw[hz] at this;cases hc:(zeroCells P e)[j]? with
  | none=>grind
  | some y=>
   rw[hc] at this;simp only[Option.map_some,fi] at this;rw[h5] at hc;obtain ⟨t2,v2,a1,a2,rfl⟩:=Lw hc;have Lx:t2=t':=by
    rw[←sm,ht] at a1;grind
   grind
 rw[zg] at fe⊢;exact ⟨Zs fe,Zt fe⟩
end
section
variable {P:Program} {w w':World} {I I':Nat→Nat→Prop} {β β':Nat→Option Nat} {hp hp':Nat→Option ah} {C:af} {B:Nat} {M:Nat→Prop} {w0:Start}
theorem Zu (S:aC P w I β hp B M w0) {nb cap:Nat} {fz:Bool} {e T:TypeId} {es:List V} {C0:Array Value} (ao:c8 P e=true) (hn:hp nb=none) (hs:C0.size=cap*P.cellsOf e) (hl:es.length≤cap) (hm:cap≤maxLen) (hL:sh P T e C0.size)
  (hx: ∀(i j:Nat) (x:V) (t':TypeId),es[i]? =some x→(aX P e)[j]? =some t'→j<P.cellsOf e→∃v,C0[i*P.cellsOf e+j]? =some v∧Pure P w I t' v (ch P e x j)):
  Le P w I β hp (w.alloc (.cells C0 T)) I (an β nb (some w.heap.size)) (an hp nb (some (.arr e es fz)))∧aC P (w.alloc (.cells C0 T)) I (an β nb (some w.heap.size)) (an hp nb (some (.arr e es fz))) B M w0∧
  aj P (w.alloc (.cells C0 T)) I (an β nb (some w.heap.size)) (an hp nb (some (.arr e es fz))) (.slice (some ⟨w.heap.size,0,none⟩) es.length cap) (.whole e nb):=by
 obtain ⟨h1,h2⟩:=Pz S (blk:= .arr e es fz) (c:=C0) (T:=T) hn (fun b' h=>(dU (h.flat (by simp))).symm) (fun hle dJ dp=> .arr hL ao rfl dJ (by rw[hs];exact eF _ hl) (fun _ j h=>absurd h (dp j)) (fun _=>dp) fun i j x t' a b c=>by
  obtain ⟨v,hv,hp⟩:=hx i j x t' a b c;exact ⟨v,hv,hp.mono hle.ej hle.cQ⟩)
 refine ⟨h1,h2,.whole (bK _ _ _) (bK _ _ _) ?_ hl hm⟩;rw[lD (heap_alloc_new w (.cells C0 T)),hs]
theorem Co (S:aC P w I β hp B M w0) {nb cap:Nat} {fz:Bool} {e:TypeId} {es:List V} {C0:Array Value} (ao:c8 P e=true) (hn:hp nb=none) (hs:C0.size=cap*P.cellsOf e) (hl:es.length≤cap) (hm:cap≤maxLen)
  (hx: ∀(i j:Nat) (x:V) (t':TypeId),es[i]? =some x→(aX P e)[j]? =some t'→j<P.cellsOf e→∃v,C0[i*P.cellsOf e+j]? =some v∧Pure P w I t' v (ch P e x j)):
  Le P w I β hp (w.alloc (.cells C0 e)) I (an β nb (some w.heap.size)) (an hp nb (some (.arr e es fz)))∧aC P (w.alloc (.cells C0 e)) I (an β nb (some w.heap.size)) (an hp nb (some (.arr e es fz))) B M w0∧
  aj P (w.alloc (.cells C0 e)) I (an β nb (some w.heap.size)) (an hp nb (some (.arr e es fz))) (.slice (some ⟨w.heap.size,0,none⟩) es.length cap) (.whole e nb):=
 Zu S ao hn hs hl hm sh.self hx
theorem Zv {b n:Nat} {Ca C':Array Value} {T T':TypeId} {f f':Nat×Nat} (hh:w.heap[b]? =some (.cells Ca T f)) (yw:w'.heap[b]? =some (.cells C' T' f')) (hI: ∀j,I b j→j<n) (hp: ∀j,j<n→C'[j]? =Ca[j]?) (j:Nat) (h:I b j):
  w'.cell? ⟨b,j,none⟩=w.cell? ⟨b,j,none⟩:=by
 rw[cell?_cells hh,cell?_cells yw];grind
theorem Q4 {b n:Nat} {fz:Bool} (hf:fz=true→∀j,I b j→j<n) (fO:fz=false→∀j,¬I b j): ∀j,I b j→j<n:=by
 intro j h;cases fz with
 | true=>grind
 | false=>grind
theorem At.only {b b':Nat} {e e' T:TypeId} {es aL:List V} {q:Path} {Ca:Array Value} {f:Nat×Nat} (hh:w.heap[b]? =some (.cells Ca T f)) (hz: ∀(i j:Nat) x t' v,es[i]? =some x→(aX P e)[j]? =some t'→Ca[i*P.cellsOf e+j]? =some v→∀a n c,v= .slice a n c→c=0)
  (h:At P w b e es q b' e' aL):q=[]∧b'=b∧e'=e∧aL=es:=by
 cases h with
 | here=>grind
 | step h1 h2 h3 h4 h5 h6 h7=>grind
theorem ph.tA {t:TypeId} {v:Value} {x:V} (h:Pure P w I t v x) (hc: ∀a n c,v= .slice a n c→c=0):ph P w I t v x:=by
 cases h with
 | int h=>exact .gy (by unfold dY;rw[h]) (.int h)
 | bool h=>exact .gy (by unfold dY;rw[h]) (.bool h)
 | str h hl=>exact .gy (by unfold dY;rw[h]) (.str h hl)
 | nil h=>exact .emp h
 | emp h=>have:=hc _ _ _ rfl;subst this;exact .emp h
 | list g hu hl hle _ _ _=>
  have:=hc _ _ _ rfl;subst this;obtain rfl:=wD.1 hle;obtain rfl:=uI.1 hl;exact .emp hu
theorem Zw (S:aC P w I β hp B M w0) {nb cap:Nat} {e T:TypeId} {es:List V} {C0:Array Value} (ao:c8 P e=true) (hn:hp nb=none) (hs:C0.size=cap*P.cellsOf e) (hl:es.length≤cap) (hm:cap≤maxLen) (hL:sh P T e C0.size)
  (hx: ∀(i j:Nat) (x:V) (t':TypeId),es[i]? =some x→(aX P e)[j]? =some t'→j<P.cellsOf e→∃v,C0[i*P.cellsOf e+j]? =some v∧Pure P w I t' v (ch P e x j)∧∀a n c,v= .slice a n c→c=0):
  Le P w I β hp (w.alloc (.cells C0 T)) I (an β nb (some w.heap.size)) (an hp nb (some (.nest e es [0,0,0])))∧aC P (w.alloc (.cells C0 T)) I (an β nb (some w.heap.size)) (an hp nb (some (.nest e es [0,0,0]))) B M w0∧
  aj P (w.alloc (.cells C0 T)) I (an β nb (some w.heap.size)) (an hp nb (some (.nest e es [0,0,0]))) (.slice (some ⟨w.heap.size,0,none⟩) es.length cap) (.whole e nb):=by
 have hz: ∀(i j:Nat) x t' v,es[i]? =some x→(aX P e)[j]? =some t'→C0[i*P.cellsOf e+j]? =some v→∀a n c,v= .slice a n c→c=0:=fun i j x t' v a b h=>by
  obtain ⟨v',h1,_,h3⟩:=hx i j x t' a b (by rw[←fG ao];grind);grind
 obtain ⟨h1,h2⟩:=Pz S (blk:= .nest e es [0,0,0]) (c:=C0) (T:=T) hn (fun b' h=>by
   cases h with
   | root _ h=>grind
   | row h ha=>cases h;exact (At.only (heap_alloc_new w _) hz ha).2.1)
  (fun hle dJ dp=> .nest rfl (fun q b' e' aL ha=>by
   obtain ⟨rfl,rfl,rfl,rfl⟩:=At.only dJ hz ha;refine ⟨ao,⟨C0,_,dJ,hL,by rw[hs];exact eF _ hl,fun i j x t' a b c=> ?_⟩,dp⟩;obtain ⟨v,hv,hp⟩:=hx i j x t' a b c;exact ⟨v,hv,.tA (hp.1.mono hle.ej hle.cQ) hp.2⟩)
   fun q1 q2 b' e1 dn e2 bW a1 a2=>(At.only dJ hz a1).1.trans (At.only dJ hz a2).1.symm)
 refine ⟨h1,h2,.dP (bK _ _ _) (bK _ _ _) ?_ hl hm⟩;rw[lD (heap_alloc_new w (.cells C0 T)),hs]
theorem akE (S:aC P w I β hp B M w0) {nb cap:Nat} {e:TypeId} {es:List V} {C0:Array Value} (ao:c8 P e=true) (hn:hp nb=none) (hs:C0.size=cap*P.cellsOf e) (hl:es.length≤cap) (hm:cap≤maxLen)
  (hx: ∀(i j:Nat) (x:V) (t':TypeId),es[i]? =some x→(aX P e)[j]? =some t'→j<P.cellsOf e→∃v,C0[i*P.cellsOf e+j]? =some v∧Pure P w I t' v (ch P e x j)∧∀a n c,v= .slice a n c→c=0):
  Le P w I β hp (w.alloc (.cells C0 e)) I (an β nb (some w.heap.size)) (an hp nb (some (.nest e es [0,0,0])))∧aC P (w.alloc (.cells C0 e)) I (an β nb (some w.heap.size)) (an hp nb (some (.nest e es [0,0,0]))) B M w0∧
  aj P (w.alloc (.cells C0 e)) I (an β nb (some w.heap.size)) (an hp nb (some (.nest e es [0,0,0]))) (.slice (some ⟨w.heap.size,0,none⟩) es.length cap) (.whole e nb):=
 Zw S ao hn hs hl hm sh.self hx
theorem akF (S:aC P w I β hp B M w0) {e:TypeId} {nb:Nat} {r:R} {rd:List Nat} (h:(O6 P nb e).run C hp=some (r,rd)):dq P ((Instr.alloc e true (.tuple #[])).run P w) w I β hp B M w0 r:=by
 unfold O6 at h;split at h
 ·rename_i n e1 hu;obtain ⟨hc,h1⟩:=aD h;clear h;simp only[aK,aM,gb,nc,ig] at hc;obtain ⟨ao,oL,oM,hn,hm,gR,fe,Zx⟩:=hc;obtain ⟨Cp,rfl⟩:=mR h1;obtain ⟨i,z,hi,hz,h3,h4,h5⟩:=lb ao;have la:aX P e1=[e1]:=by simp[aX,oM]
  have hk:P.cellsOf e1=1:=by rw[←fG oL,la];rfl
  have hlen:((zeroCells P e).map qe).length≤n:=by
   rw[h5,dH,←hn,←h4];have go: ∀(ts:List TypeId) (vs:List Value),(kh P ts vs).length≤vs.length:=by
    intro ts
    induction ts with
    | nil=>intro vs;simp[kh]
    | cons t ts ih=>intro vs;cases vs with
     | nil=>simp[kh]
     | cons v vs=>simpa[kh] using ih vs
   grind
  have hx: ∀(i j:Nat) (x:V) (t':TypeId),((zeroCells P e).map qe)[i]? =some x→(aX P e1)[j]? =some t'→j<P.cellsOf e1→∃v,z.cells[i*P.cellsOf e1+j]? =some v∧Pure P w I t' v (ch P e1 x j)∧∀a n c,v= .slice a n c→c=0:=by
   intro i j x t' hx ht hj;rw[hk] at hj⊢;obtain rfl:j=0:=by omega
   rw[la] at ht;simp only[List.getElem?_cons_zero,fi] at ht;subst ht;have Ly:=ig.1 fe x (mB hx);rw[kf] at hx;cases hc:(zeroCells P e)[i]? with
   | none=>grind
   | some y=>
    rw[hc] at hx;cases hx;rw[h5] at hc;obtain ⟨t2,v2,a1,a2,rfl⟩:=Lw hc;have Lx:e1=t2:=by simpa using gR t2 (mB a1)
    subst Lx;simp only[ch,oM,cond_false];exact ⟨v2,by grind,Zs Ly,Zt Ly⟩
  have hL:sh P e e1 z.cells.size:=fun hb _ k qp=>by
   grind
  have cR:(Instr.alloc e true (.tuple #[])).run P w= .ok (.pointer (some ⟨w.heap.size,0,none⟩)) (w.alloc (.cells z.cells e)):=by
   simp[Instr.alloc,zeroValue,typeInfo,hi,hz,newVar,newRow]
  have hs:z.cells.size=n*P.cellsOf e1:=by grind
  cases dY P e1 with
  | true=>
   obtain ⟨a,b,_⟩:=Zu S (nb:=nb) (fz:=false) oL Cp hs hlen hm hL fun i j x t' p q r=>(hx i j x t' p q r).imp fun _ h=>⟨h.1,h.2.1⟩
   refine ⟨_,_,_,_,cR,a,b,?_⟩;have:=aj.ptr (P:=P) (w:=w.alloc (.cells z.cells e)) (I:=I) (β:=an β nb (some w.heap.size)) (hp:=an hp nb (some (.arr e1 ((zeroCells P e).map qe) false))) (i:=0) (c:=0) (bK _ _ _) (by simp) (bK _ _ _);rw[D4] at this;exact this
  | false=>
   obtain ⟨a,b,_⟩:=Zw S (nb:=nb) oL Cp hs hlen hm hL hx;refine ⟨_,_,_,_,cR,a,b,?_⟩;have:=aj.ptr (P:=P) (w:=w.alloc (.cells z.cells e)) (I:=I) (β:=an β nb (some w.heap.size)) (hp:=an hp nb (some (.nest e1 ((zeroCells P e).map qe) [0,0,0]))) (i:=0) (c:=0) (bK _ _ _) (by simp) (bK _ _ _);rw[D4] at this;exact this
 ·cases h
theorem Zy (cT: ∀id blk,hp id=some blk→fc P w I β hp (β id) blk) {a:Act} {sl:Nat→V} (hs:n8 P w I β hp a sl) {G:Nat→V} (hg:jW P G w I) {e:TypeId} {len:Nat}: ∀{l:List (Nat×Operand)} {ps:List (Nat×V)} {upd:List (Nat×ah)} {rd:List Nat},
  (Ej P e len (l.map fun p=>(p.1,aW P G e sl p.2))).run C hp=some ((ps,upd),rd)→c8 P e=true→(∀p∈upd,Bs hp p)∧∀I':Nat→Nat→Prop,(∀b j,I b j→I' b j)→(∀p∈upd,∀b j,wZ P w β hp p.1 b j→I' b j)→
   ∀(cells:Array Value) (es:List V),es.length=len→Cn P w I' e cells es→∃tP,Instr.fill (fun i=>some (i*P.cellsOf e,P.cellsOf e)) cells (l.map fun p=>(p.1,a.eval p.2))=some tP∧Cn P w I' e tP (Ei es ps)∧(Ei es ps).length=len
 | [],ps,upd,rd,h,_=>by
  cases h;exact ⟨by simp,fun I' _ _ cells es hl he=>⟨cells,by simp[Instr.fill],he,hl⟩⟩
 | (i,x)::l,ps,upd,rd,h,ao=>by
  simp only[lu,Ej] at h;obtain ⟨⟨ys,u1⟩,l1,l2,h1,h⟩:=oa h;obtain ⟨hc,h⟩:=aD h;obtain ⟨⟨ps',u2⟩,l3,l4,h2,h⟩:=oa h;have:=aN h;cases this;simp only[aK,mZ] at hc;obtain ⟨hi,fe⟩:=hc;obtain ⟨tl,tg⟩:=yF fe;have ql:=hs.ev hg e x;obtain ⟨v1,v2⟩:=akD cT ql h1 fe;obtain ⟨k1,k2,k3⟩:=Pw cT h1 (vs:=(a.eval x).cells.toList) (by omega) v2;obtain ⟨m1,m2⟩:=Zy cT hs hg h2 ao;refine ⟨fun p hp=> ?_,fun I' i1 i2 cells es hl he=> ?_⟩
  ·grind
  ·have eH:=k3 I' i1 (fun p hp=>i2 p (fb.2 (.inl hp)));have bd:=(oF ao).1;have xw:ys.length=P.cellsOf e:=by omega
   have Ka:(a.eval x).cells.size=P.cellsOf e:=by omega
   have Cq:=he.set (i:=i) (ys:=ys) (by omega) Ka xw (fun j t' u y ht hu hy=>by
    exact (eH j u y (by grind) hy).pure (tg j t' y (by rw[←sm];exact ht) hy))
   obtain ⟨tP,f1,f2,f3⟩:=m2 I' i1 (fun p hp=>i2 p (fb.2 (.inr hp))) _ (es.set i (dA P e ys)) (by grind) Cq;refine ⟨tP,?_,f2,f3⟩;have hb:i*P.cellsOf e+P.cellsOf e≤cells.size:=by
    rw[he.1,hl];have:(i+1)*P.cellsOf e≤len*P.cellsOf e:=eF _ hi;grind
   simp only[lu,Instr.fill];grind
theorem Zz {z:Array Value} {n k:Nat} (hk:k<n) (hz:0<z.size):((Array.range n).map (z[· %z.size]!))[k]? =z[k %z.size]? :=by
 have hm:k %z.size<z.size:=ye _ hz;grind
theorem ZA {e:TypeId} (h:o6 P e=true) {i:TypeInfo} {z:Value} (hi:P.info? e=some i) (hz:i.zero=some z) (n m:Nat) (qd:n≤m):
  ∀(k j:Nat) (x:V) (t':TypeId),(List.replicate n (dA P e (ji P e)))[k]? =some x→(aX P e)[j]? =some t'→j<P.cellsOf e→
   ∃v,((Array.range (m*P.cellsOf e)).map (z.cells[· %z.cells.size]!))[k*P.cellsOf e+j]? =some v∧Pure P w I t' v (ch P e x j)∧∀a n c,v= .slice a n c→c=0:=by
 intro k j x t' hx ht hj;obtain ⟨i2,z2,h1,h2,h3,h4,h5⟩:=Gj (w:=w) (I:=I) h;rw[hi] at h1;cases h1;rw[hz] at h2;cases h2;rw[List.getElem?_replicate] at hx;split at hx
 ·rename_i hk;cases hx;obtain ⟨v,hv,hp⟩:=h5 j t' ht hj;refine ⟨v,?_,hp⟩;have hb:k*P.cellsOf e+j<m*P.cellsOf e:=by
   have:(k+1)*P.cellsOf e≤m*P.cellsOf e:=eF _ (by omega);grind
  rw[Zz hb (by omega),h4,show (k*P.cellsOf e+j) %P.cellsOf e=j by rw[wz,Nat.mul_add_mod];exact Nat.mod_eq_of_lt hj];exact hv
 ·cases hx
theorem Q5 {e:TypeId} (h:o6 P e=true) {i:TypeInfo} {z:Value} (hi:P.info? e=some i) (hz:i.zero=some z) (n m:Nat) (qd:n≤m):
  ∀(k j:Nat) (x:V) (t':TypeId),(List.replicate n (dA P e (ji P e)))[k]? =some x→(aX P e)[j]? =some t'→j<P.cellsOf e→
   ∃v,((Array.range (m*P.cellsOf e)).map (z.cells[· %z.cells.size]!))[k*P.cellsOf e+j]? =some v∧Pure P w I t' v (ch P e x j):=fun k j x t' a b c=>(ZA h hi hz n m qd k j x t' a b c).imp fun _ h=>⟨h.1,h.2.1⟩
theorem Q6 {P:Program} (w:World) (t e:TypeId) (len:Nat) (parts:Array (Nat×Value)) (cells:Array Value) (ie:TypeInfo) (z:Value)
  (hu:P.underlying t=some (.slice e)) (nH:P.info? e=some ie) (hz:ie.zero=some z) (akG: ¬len*ie.size>2^24)
  (h:Instr.fill (fun i=>some (i*ie.size,ie.size)) ((Array.range (len*ie.size)).map (z.cells[· %z.cells.size]!)) parts.toList=some cells):
  (Instr.buildSlice t len parts).run P w= .ok (.slice (some ⟨w.heap.size,0,none⟩) len len) (w.alloc (.cells cells e)):=by
 by_cases qd:len*ie.size=0
 ·have h0: ∀g:Nat→Value,(Array.range (len*ie.size)).map g= #[]:=by grind
  have hp: ∀(u:Array Value),(Pure.pure u:Sem (Array Value)).run P w= .ok u w:=fun _=>rfl;rw[h0] at h;simp only[Instr.buildSlice,Sem.run_bind,run_underlying hu,Result.andThen_ok,sizeOf,typeInfo,nH];have h1:(Array.range (len*ie.size)).map (fun _:Nat=>(default:Value))= #[]:=h0 _;have hs: ¬16777216<len*ie.size:=by omega
  simp[nH,hs,qd];simp only[qd] at h1;simp[h1,h,newRow]
 ·exact run_buildSlice w t e len parts cells ie z hu nH hz akG qd h
theorem ZB (S:aC P w I β hp B M w0) {a:Act} {sl:Nat→V} (hs:n8 P w I β hp a sl) {G:Nat→V} (hg:jW P G w I) {t e:TypeId} {len nb:Nat} {ps:Array (Nat×Operand)} {r:R} {rd:List Nat} (hu:P.underlying t=some (.slice e))
  (h:(Rd.aB (o6 P e&&Nat.ble (len*P.cellsOf e) (2^24)) ((Ej P e len (ps.toList.map fun p=>(p.1,aW P G e sl p.2))).bind fun r=>
    jA nb (.arr e (Ei (List.replicate len (dA P e (ji P e))) r.1) false) (.whole e nb) r.2)).run C hp=some (r,rd)):
  dq P ((Instr.buildSlice t len (ps.map fun (i,x)=>(i,a.eval x))).run P w) w I β hp B M w0 r:=by
 obtain ⟨hc,h⟩:=aD h;simp only[aK,gb] at hc;obtain ⟨fK,EG⟩:=hc;have ao:c8 P e=true:=by
  unfold o6 at fK;grind
 obtain ⟨⟨pv,upd⟩,l1,l2,h1,h⟩:=oa h;obtain ⟨hn,rfl⟩:=mR h;obtain ⟨m1,m2⟩:=Zy S.h.rel hs hg h1 ao;obtain ⟨rE,S1⟩:=Bw S m1;obtain ⟨i,z,hi,hz,h3,h4,_⟩:=Gj (w:=w) (I:=I) fK;have gK:=(oF ao).2;have h0:Cn P w (jX P w I β hp upd) e ((Array.range (len*P.cellsOf e)).map (z.cells[· %z.cells.size]!)) (List.replicate len (dA P e (ji P e))):=
  ⟨by simp,Q5 fK hi hz len len (az _)⟩
 obtain ⟨cells,f1,f2,f3⟩:=m2 (jX P w I β hp upd) (fun _ _ h=> .inl h) (fun p hp b j h=> .inr ⟨p,hp,h⟩) _ _ (by simp) h0;have jf:cf hp upd nb=none:=by
  rcases w5 (hp:=hp) (l:=upd) (id:=nb) with h|⟨b',hm,_⟩
  ·grind
  ·obtain ⟨e1,dn,_,h5⟩:=m1 _ hm;grind
 have sq:len≤maxLen:=by
  have:len*1≤len*P.cellsOf e:=wE _ gK;simp only[maxLen];omega
 obtain ⟨n1,n2,n3⟩:=Co S1 (cap:=len) ao jf (by rw[f2.1,f3]) (by omega) sq f2.2;have cR:=Q6 w t e len (ps.map fun (i,x)=>(i,a.eval x)) cells i z hu hi hz (by grind) (by simp_all);refine ⟨_,_,_,_,cR,rE.trans n1,n2,?_⟩;rw[f3] at n3;exact n3
theorem ZC (S:aC P w I β hp B M w0) {t e:TypeId} {nb:Nat} {kl kc:IntKind} {n m:Int} {r:R} {rd:List Nat} (hu:P.underlying t=some (.slice e))
  (h:(Rd.aB (o6 P e&&(decide (0≤n)&&(decide (n≤m)&&Nat.ble (m.toNat*P.bytesOf e) ba)))
    (jA nb (.arr e (List.replicate n.toNat (dA P e (ji P e))) false) (.whole e nb) [])).run C hp=some (r,rd)):
  dq P ((Instr.makeSlice t (.int kl n) (.int kc m)).run P w) w I β hp B M w0 r:=by
 obtain ⟨hc,h⟩:=aD h;simp only[aK,gb,jQ] at hc;obtain ⟨fK,h0,qd,ed⟩:=hc;have ao:c8 P e=true:=by
  unfold o6 at fK;grind
 obtain ⟨hn,rfl⟩:=mR h;obtain ⟨i,z,hi,hz,h3,h4,_⟩:=Gj (w:=w) (I:=I) fK;have om:P.bytesOf e=i.bytes:=by simp[Program.bytesOf,hi]
 have Q7:m≤9223372036854775807:=by
  have h1:m.toNat*1≤m.toNat*P.bytesOf e:=wE _ (yv ao);simp only[ba] at ed;omega
 have cR:=run_make (P:=P) w t e i z hu hi hz kl kc n m h0 qd (by
  rw[om] at ed;simp only[ba] at ed;grind) Q7
 have hlen:(List.replicate n.toNat (dA P e (ji P e))).length=n.toNat:=by simp
 obtain ⟨n1,n2,n3⟩:=Co S (cap:=m.toNat) (es:=List.replicate n.toNat (dA P e (ji P e))) (C0:=madeCells z.cells (m.toNat*i.size)) ao hn (by rw[size_madeCells,h3]) (by omega) (by simp only[maxLen];omega)
  (by rw[h3];exact Q5 fK hi hz n.toNat m.toNat (by omega))
 refine ⟨_,_,_,_,cR,n1,n2,?_⟩;rw[hlen] at n3;exact n3
theorem akH (S:aC P w I β hp B M w0) {t e:TypeId} {nb:Nat} {kl kc:IntKind} {n m:Int} {r:R} {rd:List Nat} (hu:P.underlying t=some (.slice e))
  (h:(Rd.aB (o6 P e&&(decide (0≤n)&&(decide (n≤m)&&Nat.ble (m.toNat*P.bytesOf e) ba)))
    (jA nb (.nest e (List.replicate n.toNat (dA P e (ji P e))) [0,0,0]) (.whole e nb) [])).run C hp=some (r,rd)):
  dq P ((Instr.makeSlice t (.int kl n) (.int kc m)).run P w) w I β hp B M w0 r:=by
 obtain ⟨hc,h⟩:=aD h;simp only[aK,gb,jQ] at hc;obtain ⟨fK,h0,qd,ed⟩:=hc;have ao:c8 P e=true:=by
  unfold o6 at fK;grind
 obtain ⟨hn,rfl⟩:=mR h;obtain ⟨i,z,hi,hz,h3,h4,_⟩:=Gj (w:=w) (I:=I) fK;have om:P.bytesOf e=i.bytes:=by simp[Program.bytesOf,hi]
 have Q7:m≤9223372036854775807:=by
  have h1:m.toNat*1≤m.toNat*P.bytesOf e:=wE _ (yv ao);simp only[ba] at ed;omega
 have cR:=run_make (P:=P) w t e i z hu hi hz kl kc n m h0 qd (by
  rw[om] at ed;simp only[ba] at ed;grind) Q7
 have hlen:(List.replicate n.toNat (dA P e (ji P e))).length=n.toNat:=by simp
 obtain ⟨n1,n2,n3⟩:=akE S (cap:=m.toNat) (es:=List.replicate n.toNat (dA P e (ji P e))) (C0:=madeCells z.cells (m.toNat*i.size)) ao hn (by rw[size_madeCells,h3]) (by omega) (by simp only[maxLen];omega)
  (by rw[h3];exact ZA fK hi hz n.toNat m.toNat (by omega))
 refine ⟨_,_,_,_,cR,n1,n2,?_⟩;rw[hlen] at n3;exact n3
theorem Pure.one {t:TypeId} {v:Value} {x:V} (h:Pure P w I t v x):v.oneCell'=true:=by cases h<;>rfl
structure Row (P:Program) (w:World) (I:Nat→Nat→Prop) (e:TypeId) (v:Value) (xs:List V) (a:Addr) (c:Nat) (news:List Value):Prop where
 val:v= .slice (some a) xs.length c
 len:news.length=xs.length*P.cellsOf e
 cell: ∀(j:Nat) u,news[j]? =some u→w.cell? (a.add j)=some u
 el: ∀(i j:Nat) (x:V) (t':TypeId),xs[i]? =some x→(aX P e)[j]? =some t'→j<P.cellsOf e→∃u,news[i*P.cellsOf e+j]? =some u∧Pure P w I t' u (ch P e x j)
theorem Row.one {e:TypeId} {v:Value} {xs:List V} {a:Addr} {c:Nat} {news:List Value} (h:Row P w I e v xs a c news) (ao:c8 P e=true): ∀u∈news,u.oneCell'=true:=by
 intro u hu;obtain ⟨k,hk⟩:=tm hu;have tQ:=(cC.1 hk).1;have gK:=(oF ao).2;rw[h.len] at tQ;have hi:k/P.cellsOf e<xs.length:=Nat.div_lt_of_lt_mul (by grind);have hj:k %P.cellsOf e<P.cellsOf e:=ye _ gK;have fV:k %P.cellsOf e<(aX P e).length:=by rw[fG ao];exact hj
 obtain ⟨u',lM,hp⟩:=h.el (k/P.cellsOf e) (k %P.cellsOf e) _ _ (b7 hi) (b7 fV) hj;rw[Nat.div_add_mod'] at lM;rw[hk] at lM;cases lM;exact hp.one
theorem ZD {e T:TypeId} {es:List V} {b:Nat} {Ca:Array Value} {off len cap o:Nat} (hh:w.heap[b]? =some (.cells Ca T (0,0))) (hs:es.length*P.cellsOf e≤Ca.size)
  (hx: ∀(i j:Nat) (x:V) (t':TypeId),es[i]? =some x→(aX P e)[j]? =some t'→j<P.cellsOf e→∃v,Ca[i*P.cellsOf e+j]? =some v∧Pure P w I t' v (ch P e x j))
  (mK:off+len≤es.length) (ho:0<len→o=off*P.cellsOf e):
  Row P w I e (.slice (some ⟨b,o,none⟩) len cap) ((es.drop off).take len) ⟨b,o,none⟩ cap ((Ca.toList.drop (off*P.cellsOf e)).take (len*P.cellsOf e)):=by
 have hlen:((es.drop off).take len).length=len:=by simp;omega
 have hb:(off+len)*P.cellsOf e≤Ca.size:=lZ (eF _ mK) hs;rw[jh] at hb;refine ⟨by rw[hlen],by grind,fun j u hj=> ?_,fun i j x t' nq ht hj=> ?_⟩
 ·have dr:=(cC.1 hj).1;have akI:j<len*P.cellsOf e:=by
   grind
  have mL:0<len:=by
   grind
  rw[jv akI,qX] at hj;rw[od,cell?_cells hh,ho mL];grind
 ·have hi:i<len:=by grind
  rw[jv hi,qX] at nq;obtain ⟨u,hu,hp⟩:=hx (off+i) j x t' nq ht hj;refine ⟨u,?_,hp⟩;have:i*P.cellsOf e+j<len*P.cellsOf e:=by
   have:(i+1)*P.cellsOf e≤len*P.cellsOf e:=eF _ hi;grind
  grind
theorem Gk (cT: ∀id blk,hp id=some blk→fc P w I β hp (β id) blk) {e:TypeId} {v:Value} {x:V} {k:List V→Rd R} {r:R} {rd:List Nat} (ao:c8 P e=true) (hv:aj P w I β hp v x)
  (h:(uQ e x k).run C hp=some (r,rd)): ∃xs,(((∃a,v= .slice a 0 0)∧xs=[])∨∃a c news,Row P w I e v xs a c news)∧∃l,(k xs).run C hp=some (r,l):=by
 cases hv with
 | list hp'=>
  obtain ⟨hc,h2⟩:=aD h;clear h;rw[aM] at hc;subst hc;cases hp' with
  | nil=>grind
  | @emp a cap=>exact ⟨[],.inr ⟨a,cap,[],⟨rfl,by simp,fun j u hj=>by simp at hj,fun i j x t' hx _ _=>by simp at hx⟩⟩,rd,h2⟩
  | @list b o len cap es g hl bR hI gJ hx=>
   refine ⟨_,.inr ⟨⟨b,o,none⟩,cap,(List.range (len*P.cellsOf e)).map fun k=>g (k/P.cellsOf e) (k %P.cellsOf e),⟨by rw[hl],by grind,fun j u hj=> ?_,fun i j x t' nq ht hj=> ?_⟩⟩,rd,h2⟩
   ·obtain ⟨dr,yD⟩:=cC.1 hj;simp at dr yD;have gK:=(oF ao).2;have hi:j/P.cellsOf e<len:=Nat.div_lt_of_lt_mul (by grind);have dB:j %P.cellsOf e<P.cellsOf e:=ye _ gK;rw[od,←yD];have:=gJ (j/P.cellsOf e) (j %P.cellsOf e) hi dB;rwa [Nat.div_add_mod'] at this
   ·have hi:i<len:=by grind
    have hb:i*P.cellsOf e+j<len*P.cellsOf e:=by
     have:(i+1)*P.cellsOf e≤len*P.cellsOf e:=eF _ hi;grind
    refine ⟨g i j,?_,hx i j x t' nq ht⟩;have e1:(i*P.cellsOf e+j)/P.cellsOf e=i:=by
     rw[wz,Nat.mul_add_div (oF ao).2,Nat.div_eq_of_lt hj,Nat.add_zero]
    have e2:(i*P.cellsOf e+j) %P.cellsOf e=j:=by
     rw[wz,Nat.mul_add_mod];exact Nat.mod_eq_of_lt hj
    grind
 | nl=>cases h
 | nilS=>
  obtain ⟨hc,h⟩:=aD h;grind
 | dX ae hb=>
  obtain ⟨l,h⟩:=run_get h;simp only[ae] at h;obtain ⟨hc,h⟩:=aD h;grind
 | @whole e' id es fz b cap ae hb bd bR hm=>
  obtain ⟨l,h⟩:=run_get h;simp only[ae] at h;obtain ⟨hc,h2⟩:=aD h;clear h;simp only[aK,aM] at hc;obtain ⟨rfl,_⟩:=hc;have hr:=cT _ _ ae;cases hr with
  | ez au=>grind
  | arr hL PD au hh hs hf fO hx=>
   rw[hb] at au;cases au;have:=ZD (cap:=cap) (off:=0) (len:=es.length) (o:=0) hh hs hx (by omega) (fun _=>by simp);grind
 | jb ae hb=>
  obtain ⟨l,h⟩:=run_get h;simp only[ae] at h;obtain ⟨hc,h⟩:=aD h;grind
 | @sub e' id off len es fz b o cap ae hb mK bR ho=>
  obtain ⟨l,h⟩:=run_get h;simp only[ae] at h;obtain ⟨hc,h2⟩:=aD h;clear h;simp only[aK,aM] at hc;obtain ⟨rfl,_⟩:=hc;have hr:=cT _ _ ae;cases hr with
  | ez au=>grind
  | arr hL PD au hh hs hf fO hx=>
   rw[hb] at au;cases au;exact ⟨_,.inr ⟨_,_,_,ZD (cap:=cap) hh hs hx mK ho⟩,l,h2⟩
 | eb ae=>
  obtain ⟨l,h⟩:=run_get h;simp only[ae] at h;cases h
 | jF ae=>
  obtain ⟨l,h⟩:=run_get h;simp only[ae] at h;cases h
 | undef=>cases h
 | int=>cases h
 | bool=>cases h
 | str=>cases h
 | agg=>cases h
 | bf=>cases h
 | eG=>cases h
 | fn=>cases h
 | pref=>cases h
 | mH=>cases h
 | ptr=>cases h
 | mI=>cases h
 | mJ=>cases h
 | row=>cases h
 | dI=>cases h
 | fk=>cases h
 | lC=>cases h
 | cY=>cases h
 | eh ae=>
  obtain ⟨l,h⟩:=run_get h;simp only[ae] at h;cases h
 | fF ae=>
  obtain ⟨l,h⟩:=run_get h;simp only[ae] at h;cases h
 | dP ae=>
  obtain ⟨l,h⟩:=run_get h;simp only[ae] at h;cases h
theorem Cr {t ty e:TypeId} {i:TypeInfo} (ht:P.underlying t=some (.slice e)) (hi:P.info? e=some i) (a:Option Addr) (n cap:Nat) (x:Value) (hx: ∃a c,x= .slice a 0 c) (hn:n≤cap):
  (Builtin.append_ #[t,t] ty #[.slice a n cap,x]).run P w= .ok (.slice a n cap) w:=by
 obtain ⟨a',c,rfl⟩:=hx;cases a' with
 | none=>cases a<;>simp[Builtin.append_,run_underlying ht,sizeOf,typeInfo,hi,Builtin.lenOf,Builtin.firstCells,hn,storeCells]
 | some a'=>cases a<;>simp[Builtin.append_,run_underlying ht,sizeOf,typeInfo,hi,Builtin.lenOf,Builtin.firstCells,hn,storeCells,loadCells,loadCellsFrom]
theorem LA {e:TypeId} {es xs:List V} {n:Nat} {c:List Value} {news:List Value} (hn:es.length=n)
  (h1: ∀(i j:Nat) (x:V) (t':TypeId),es[i]? =some x→(aX P e)[j]? =some t'→j<P.cellsOf e→∃v,c[i*P.cellsOf e+j]? =some v∧Pure P w I t' v (ch P e x j))
  (h2: ∀(i j:Nat) (x:V) (t':TypeId),xs[i]? =some x→(aX P e)[j]? =some t'→j<P.cellsOf e→∃v,news[i*P.cellsOf e+j]? =some v∧Pure P w I t' v (ch P e x j))
  (hb:n*P.cellsOf e≤c.length) (rest:List Value):
  ∀(i j:Nat) (x:V) (t':TypeId),(es++xs)[i]? =some x→(aX P e)[j]? =some t'→j<P.cellsOf e→∃v,(c.take (n*P.cellsOf e)++news++rest)[i*P.cellsOf e+j]? =some v∧Pure P w I t' v (ch P e x j):=by
 intro i j x t' hx ht hj;have hl:(c.take (n*P.cellsOf e)).length=n*P.cellsOf e:=by simp;omega
 by_cases hi:i<n
 ·rw[ng (by omega)] at hx;obtain ⟨v,hv,hp⟩:=h1 i j x t' hx ht hj;have:i*P.cellsOf e+j<n*P.cellsOf e:=by
   have:(i+1)*P.cellsOf e≤n*P.cellsOf e:=eF _ hi;grind
  grind
 ·rw[oC (by omega),hn] at hx;obtain ⟨v,hv,hp⟩:=h2 (i-n) j x t' hx ht hj;have Cs:i-n<xs.length:=(cC.1 hx).1;have e1:i*P.cellsOf e+j-n*P.cellsOf e=(i-n)*P.cellsOf e+j:=by
   rw[Nat.sub_mul];have:n*P.cellsOf e≤i*P.cellsOf e:=eF _ (by omega);omega
  have h3:(i-n)*P.cellsOf e+j<news.length:=(cC.1 hv).1;refine ⟨v,?_,hp⟩;have h4:n*P.cellsOf e≤i*P.cellsOf e+j:=by
   have:n*P.cellsOf e≤i*P.cellsOf e:=eF _ (by omega);omega
  grind
theorem Pure.drew {t:TypeId} {v:Value} {x:V} (h:Pure P w I t v x):Pure P w.drew I t v x:=Pure.mono (w:=w) (w':=w.drew) (fun _ _ h=>h) (fun _ _ _=>rfl) h
theorem ZE (w:World) (t ty e:TypeId) (i:TypeInfo) (z:Value) (ht:P.underlying t=some (.slice e)) (hi:P.info? e=some i) (hz:i.zero=some z)
  (a0:Option Addr) (a:Addr) (n c:Nat) (news:List Value) (hl:news.length=n*i.size) (tR: ∀j v,news[j]? =some v→w.cell? (a.add j)=some v)
  (h0:0<n) (Gl:(n:Int)≤9223372036854775807) (LB:n*i.bytes≤281474976710656):
  (Builtin.append_ #[t,t] ty #[.slice a0 0 0,.slice (some a) n c]).run P w=
   .ok (.slice (some ⟨w.heap.size,0,none⟩) n (grownCap w n 0 e)) (w.drew.alloc (.cells (news.toArray++Builtin.zeroCells z.cells (grownCap w n 0 e-n)) e)):=by
 cases a0 with
 | none=>exact run_append_nil w t ty e i z ht hi hz a n c news hl tR h0 Gl LB
 | some b=>
  have:=run_append_grow (P:=P) w t ty e i z ht hi hz b 0 0 [] (by simp) (by simp) a n c news hl tR (by omega) (by omega) (by rw[dL,nextslicecap_zero h0];omega);grind
theorem Q8 (S:aC P w I β hp B M w0) {t ty e:TypeId} {nb:Nat} {fz:Bool} {x:Value} {xs:List V} (hu:P.underlying t=some (.slice e)) (ao:c8 P e=true) (hn:hp nb=none)
  (ed:xs.length*P.bytesOf e≤ba) {a0:Option Addr} (hx:((∃a,x= .slice a 0 0)∧xs=[])∨∃a c news,Row P w I e x xs a c news):
  ∃v w' β',(Builtin.append_ #[t,t] ty #[.slice a0 0 0,x]).run P w= .ok v w'∧Le P w I β hp w' I β' (an hp nb (some (.arr e xs fz)))∧aC P w' I β' (an hp nb (some (.arr e xs fz))) B M w0∧
   aj P w' I β' (an hp nb (some (.arr e xs fz))) v (.whole e nb):=by
 obtain ⟨i,z,hi,hz,h3,h4,_⟩:=lb ao;have vC:=yv ao;have om:P.bytesOf e=i.bytes:=by simp[Program.bytesOf,hi]
 have hlen:xs.length≤2^45:=by
  have:xs.length*1≤xs.length*P.bytesOf e:=wE _ vC;simp only[ba] at ed;omega
 have empty:xs=[]→(∃a c,x= .slice a 0 c)→∃v w' β',(Builtin.append_ #[t,t] ty #[.slice a0 0 0,x]).run P w= .ok v w'∧Le P w I β hp w' I β' (an hp nb (some (.arr e xs fz)))∧aC P w' I β' (an hp nb (some (.arr e xs fz))) B M w0∧
   aj P w' I β' (an hp nb (some (.arr e xs fz))) v (.whole e nb):=by
  intro jJ Q9;subst jJ;obtain ⟨a1,a2⟩:=EM S e hn;exact ⟨_,_,_,Cr hu hi a0 0 0 x Q9 (az _),a1,a2,.dX (bK _ _ _) (bK _ _ _)⟩
 rcases hx with ⟨⟨_,rfl⟩,rfl⟩|⟨a,c,news,hr⟩
 ·simp_all
 ·by_cases h0:xs.length=0
  ·have jJ:xs=[]:=oZ h0;refine empty jJ ⟨some a,c,?_⟩;rw[hr.val,h0]
  ·have cR:=ZE (P:=P) w t ty e i z hu hi hz a0 a xs.length c news (by rw[hr.len,h3]) hr.cell (by omega) (by omega) (by rw[←om];simp only[ba] at ed;omega);have qy:=grownCap_ge w xs.length 0 e;have sL:grownCap w xs.length 0 e≤maxLen:=grownCap_le_maxLen w xs.length 0 e (by simp only[maxLen];omega);obtain ⟨n1,n2,n3⟩:=Co S.drew (nb:=nb) (cap:=grownCap w xs.length 0 e) (es:=xs) (C0:=news.toArray++Builtin.zeroCells z.cells (grownCap w xs.length 0 e-xs.length)) ao hn
    (by simp only[Jo,rW,size_zeroCells,h4,hr.len,←jh];grind) qy sL
    (fun i' j y t' hy ht hj=>by
     obtain ⟨u,lM,hp⟩:=hr.el i' j y t' hy ht hj;have aR:=(cC.1 lM).1;refine ⟨u,?_,Pure.drew hp⟩;grind)
   rw[hr.val];exact ⟨_,_,_,cR,(Le.drew w I β hp).trans n1,n2,n3⟩
theorem ZF {P:Program} (w:World) (t ty e T:TypeId) (i:TypeInfo) (ht:P.underlying t=some (.slice e)) (hi:P.info? e=some i)
  (g mU vD:Nat) (cur:Array Value) (hg:w.heap[g]? =some (.cells cur T (0,0)))
  (a:Addr) (m c:Nat) (news:List Value) (hl:news.length=m*i.size) (tR: ∀j u,news[j]? =some u→w.cell? (a.add j)=some u) (h1: ∀u∈news,u.oneCell'=true)
  (tS:mU+m≤vD) (Ct:mU*i.size+news.length≤cur.size):
  (Builtin.append_ #[t,t] ty #[.slice (some ⟨g,0,none⟩) mU vD,.slice (some a) m c]).run P w=
   .ok (.slice (some ⟨g,0,none⟩) (mU+m) vD) (w.setRow g (cur.toList.take (mU*i.size)++news++cur.toList.drop (mU*i.size+news.length)).toArray):=by
 have hf:=run_firstCells_some (P:=P) w i.size m a m c news hl tR;have cS:=run_storeCells_at P g (mU*i.size) T news 0 cur w hg (by omega) h1;simp only[Nat.add_zero] at cS;simp[Builtin.append_,run_underlying ht,sizeOf,typeInfo,hi,Builtin.lenOf,tS,hf,Addr.add_lit,cS]
theorem ZG (S:aC P w I β hp B M w0) {t ty e:TypeId} {nb id:Nat} {s x:Value} {es xs:List V} {fz:Bool} (hu:P.underlying t=some (.slice e)) (ao:c8 P e=true) (hs:aj P w I β hp s (.whole e id)) (ae:hp id=some (.arr e es fz)) (hn:hp nb=none)
  (ed:Nat.ble ((es.length+xs.length)*P.bytesOf e) ba=true) (nJ:((∃a,x= .slice a 0 0)∧xs=[])∨∃a c news,Row P w I e x xs a c news):
  dq P ((Builtin.append_ #[t,t] ty #[s,x]).run P w) w I β hp B M w0 ⟨.whole e nb,[(nb,.arr e (es++xs) fz),(id,.dead)]⟩:=by
 rw[gb] at ed;have bq:nb≠id:=fun e=>by grind
 obtain ⟨k1,k2⟩:=w7 S ae;have jf:an hp id (some ah.dead) nb=none:=by rw[cG _ _ bq];exact hn
 cases hs with
 | eb hd=>grind
 | dP hd=>grind
 | eh hd=>grind
 | fF hd=>grind
 | dX hd hb=>
  rw[ae] at hd;cases hd;simp only[List.length_nil,dL] at ed;have akJ:((∃a,x= .slice a 0 0)∧xs=[])∨∃a c news,Row P w I e x xs a c news:=nJ;obtain ⟨v,w',β',a1,a2,a3,a4⟩:=Q8 (ty:=ty) k2 hu ao jf ed akJ;exact ⟨v,w',I,β',a1,k1.trans a2,a3,a4⟩
 | @whole _ _ aL pe b cap hd hb bd bR hm=>
  rw[ae] at hd;cases hd;have hr:=S.h.rel id _ ae;cases hr with
  | ez au=>grind
  | @arr _ T _ _ b' Ca hL _ au hh xx hf fO xy=>
   rw[hb] at au;cases au;obtain ⟨i,z,hi,hz,h3,h4,_⟩:=lb ao;have vC:=yv ao;have om:P.bytesOf e=i.bytes:=by simp[Program.bytesOf,hi]
   have hlen:es.length+xs.length≤2^45:=by
    have:(es.length+xs.length)*1≤(es.length+xs.length)*P.bytesOf e:=wE _ vC;simp only[ba] at ed;omega
   rw[lD hh] at bd;have qk: ∀aq blk',an hp id (some ah.dead) aq=some blk'→¬bh P w (β aq) blk' b:=by
    intro aq blk' h1 h2;by_cases nG:aq=id
    ·subst nG;rw[bK] at h1;cases h1;exact h2.alive rfl
    ·rw[cG _ _ nG] at h1;exact nG (S.h.inj aq id blk' _ b h1 ae h2 (.root (by simp) hb))
   have Gm:=S.h.wY id _ b ae (by simp) hb;have room: ∀(C':Array Value) (w':World) (ys:List V),w'.heap[b]? =some (.cells C' T (0,0))→C'.size=Ca.size→(∀b',b'≠b→w'.heap[b']? =w.heap[b']?)→w.heap.size≤w'.heap.size→(w'.os=w.os∧w'.output=w.output)→ys.length≤cap→es.length≤ys.length→(∀j,j<es.length*P.cellsOf e→C'[j]? =Ca[j]?)→
     (∀(i j:Nat) (y:V) (t':TypeId),ys[i]? =some y→(aX P e)[j]? =some t'→j<P.cellsOf e→∃v,C'[i*P.cellsOf e+j]? =some v∧Pure P w I t' v (ch P e y j))→
     Le P w I β hp w' I (an β nb (some b)) (an (an hp id (some .dead)) nb (some (.arr e ys fz)))∧aC P w' I (an β nb (some b)) (an (an hp id (some .dead)) nb (some (.arr e ys fz))) B M w0∧
     aj P w' I (an β nb (some b)) (an (an hp id (some .dead)) nb (some (.arr e ys fz))) (.slice (some ⟨b,0,none⟩) ys.length cap) (.whole e nb):=by
    intro C' w' ys hC pK yT hwz akK xw hey rH hy;have hIn:=Q4 hf fO;obtain ⟨a1,a2⟩:=Bz k2 (blk:= .arr e ys fz) (w':=w') jf qk (Zv hh hC hIn rH) (fun b' h _=>yT b' h) hwz akK Gm
     (fun b' h=>(dU (h.flat (by simp))).symm) (fun hle=> .arr (pK▸hL) ao rfl hC (by rw[pK,←bd];exact eF _ xw) (fun _ j h=>oA (hIn j h) (eF _ hey)) fO fun i j y t' a b c=>by
      obtain ⟨v,hv,hp⟩:=hy i j y t' a b c;exact ⟨v,hv,hp.mono hle.ej hle.cQ⟩)
    refine ⟨k1.trans a1,a2,.whole (bK _ _ _) (bK _ _ _) ?_ xw hm⟩;rw[lD hC,pK,bd]
   have same:xs=[]→(∃a c,x= .slice a 0 c)→dq P ((Builtin.append_ #[t,t] ty #[.slice (some ⟨b,0,none⟩) es.length cap,x]).run P w) w I β hp B M w0 ⟨.whole e nb,[(nb,.arr e (es++xs) fz),(id,.dead)]⟩:=by
    intro jJ Q9;subst jJ;rw[rY];obtain ⟨a1,a2,a3⟩:=room Ca w es hh rfl (fun _ _=>rfl) (az _) ⟨rfl,rfl⟩ bR (az _) (fun _ _=>rfl) xy;exact ⟨_,_,_,_,Cr hu hi _ _ _ x Q9 bR,a1,a2,a3⟩
   rcases nJ with ⟨⟨_,rfl⟩,rfl⟩|⟨a,c,news,c6⟩
   ·grind
   ·have h1:=c6.one ao;have rF:es.length*P.cellsOf e≤Ca.toList.length:=by omega
    by_cases tS:es.length+xs.length≤cap
    ·have Ct:es.length*P.cellsOf e+news.length≤Ca.size:=by rw[c6.len,←jh,←bd];exact eF _ tS
     have cR:=ZF (P:=P) w t ty e T i hu hi b es.length cap Ca hh a xs.length c news (by rw[c6.len,h3]) c6.cell h1 tS (by grind);rw[h3] at cR;have fK:=LA (P:=P) (w:=w) (I:=I) (n:=es.length) (c:=Ca.toList) rfl (fun i j y t' a b c=>by
      grind) c6.el rF (Ca.toList.drop (es.length*P.cellsOf e+news.length))
     obtain ⟨a1,a2,a3⟩:=room (Ca.toList.take (es.length*P.cellsOf e)++news++Ca.toList.drop (es.length*P.cellsOf e+news.length)).toArray (w.setRow b _) (es++xs)
      (setRow_heap w b Ca _ T _ hh) (by simp;omega) (fun b' au=>setRow_other w b b' _ au) (by simp) ⟨rfl,rfl⟩ (by grind) (by simp) (fun j hj=>by
        grind)
      (fun i j y t' a b c=>by
       grind)
     rw[c6.val];rw[iA] at a3;exact ⟨_,_,_,_,cR,a1,a2,a3⟩
    ·have hold: ∀(j:Nat) v,(Ca.toList.take (es.length*P.cellsOf e))[j]? =some v→w.cell? ((⟨b,0,none⟩:Addr).add j)=some v:=by
      intro j v hj;have dr:=(cC.1 hj).1;have dB:j<es.length*P.cellsOf e:=by grind
      rw[jv dB] at hj;rw[od,cell?_cells hh,dL];grind
     have cR:=run_append_grow (P:=P) w t ty e i z hu hi hz ⟨b,0,none⟩ es.length cap (Ca.toList.take (es.length*P.cellsOf e)) (by grind) hold a xs.length c news (by rw[c6.len,h3]) c6.cell (by omega) (by omega)
      (growslice_fits (by omega) (by rw[←om];simp only[ba] at ed;omega))
     have qy:=grownCap_ge w (es.length+xs.length) cap e;have sL:grownCap w (es.length+xs.length) cap e≤maxLen:=grownCap_le_maxLen w _ cap e (by simp only[maxLen];omega);have fK:=LA (P:=P) (w:=w) (I:=I) (n:=es.length) (c:=Ca.toList) rfl (fun i j y t' a b c=>by
      grind) c6.el rF (Builtin.zeroCells z.cells (grownCap w (es.length+xs.length) cap e-(es.length+xs.length))).toList
     obtain ⟨n1,n2,n3⟩:=Co k2.drew (nb:=nb) (cap:=grownCap w (es.length+xs.length) cap e) (es:=es++xs)
      (C0:=(Ca.toList.take (es.length*P.cellsOf e)).toArray++news.toArray++Builtin.zeroCells z.cells (grownCap w (es.length+xs.length) cap e-(es.length+xs.length))) ao jf
      (by
       have e1:(Ca.toList.take (es.length*P.cellsOf e)).length=es.length*P.cellsOf e:=by simp;omega
       simp only[Jo,rW,size_zeroCells,h4,c6.len,e1,←jh];grind) (by grind) sL
      (fun i j y t' a b c=>by
       obtain ⟨v,hv,hp⟩:=fK i j y t' a b c;refine ⟨v,?_,Pure.drew hp⟩;grind)
     rw[c6.val];rw[iA] at n3;exact ⟨_,_,_,_,cR,(k1.trans (Le.drew w I β _)).trans n1,n2,n3⟩
theorem akL (S:aC P w I β hp B M w0) {t ty e:TypeId} {nb:Nat} {s x:Value} {sv xv:V} {r:R} {rd:List Nat} (hu:P.underlying t=some (.slice e)) (hs:aj P w I β hp s sv) (hx:aj P w I β hp x xv)
  (h:(Bi P nb e sv xv).run C hp=some (r,rd)):dq P ((Builtin.append_ #[t,t] ty #[s,x]).run P w) w I β hp B M w0 r:=by
 unfold Bi at h;obtain ⟨ao,h⟩:=aD h;obtain ⟨xs,nJ,l0,h⟩:=Gk S.h.rel ao hx h;cases sv with
 | nilS e'=>
  obtain ⟨hc,h⟩:=aD h;simp only[aK,aM,gb] at hc;obtain ⟨hn,rfl⟩:=mR h;obtain ⟨a0,rfl⟩: ∃a0,s= .slice a0 0 0:=by cases hs;grind
  obtain ⟨v,w',β',a1,a2,a3,a4⟩:=Q8 (ty:=ty) S hu ao hn hc.2 nJ;exact ⟨v,w',I,β',a1,a2,a3,a4⟩
 | whole e' id=>
  obtain ⟨l,h⟩:=run_get h;cases ae:hp id with
  | none=>rw[ae] at h;cases h
  | some blk=>
   rw[ae] at h;cases blk with
   | dead=>cases h
   | var _=>cases h
   | nest _ _ _=>cases h
   | map _ _=>cases h
   | out _ _ _ _=>cases h
   | arr dZ es fz=>
    obtain ⟨hc,h⟩:=aD h;obtain ⟨hn,rfl⟩:=mR h;simp only[aK,aM,gb] at hc;obtain ⟨Ra,Rb,ed⟩:=hc;subst Ra;subst Rb;exact ZG S hu ao hs ae hn (by simp_all) nJ
 | _=>cases h
end
section
variable {P:Program} {w w':World} {I I':Nat→Nat→Prop} {β β':Nat→Option Nat} {hp hp':Nat→Option ah} {C:af} {B:Nat} {M:Nat→Prop} {w0:Start}
theorem run_copy_none (w:World) {dT sT ty elem:TypeId} {i:TypeInfo} (a0:Option Addr) (ZH akM:Nat) (a1:Option Addr) (mU vD:Nat) (hu:P.underlying dT=some (.slice elem)) (hi:P.info? elem=some i) (h0:Nat.min mU ZH=0):
  (Builtin.copy_ #[dT,sT] ty #[.slice a0 ZH akM,.slice a1 mU vD]).run P w= .ok (goInt 0) w:=by
 cases a0<;>cases a1<;>simp[Builtin.copy_,run_underlying hu,Builtin.lenOf,Builtin.firstCells,sizeOf,typeInfo,hi,h0,storeCells,loadCells,loadCellsFrom]
theorem akN (S:aC P w I β hp B M w0) {t u ty e:TypeId} {s x:Value} {sv xv:V} {r:R} {rd:List Nat} (hu:P.underlying t=some (.slice e)) (hs:aj P w I β hp s sv) (hx:aj P w I β hp x xv)
  (h:(Pb P e sv xv).run C hp=some (r,rd)):dq P ((Builtin.copy_ #[t,u] ty #[s,x]).run P w) w I β hp B M w0 r:=by
 unfold Pb at h;obtain ⟨ao,h'⟩:=aD h;clear h;simp only[aK,aM] at ao;obtain ⟨ao,h1⟩:=ao;obtain ⟨xs,nJ,l0,h⟩:=Gk S.h.rel ao hx h';obtain ⟨i,z,hi,hz,bd,_⟩:=lb ao;cases sv<;>simp only at h<;>first|(cases h;done)|skip
 rename_i e' id;obtain ⟨l,h2⟩:=run_get h;clear h;cases ae:hp id with
 | none=>rw[ae] at h2;cases h2
 | some blk=>
  rw[ae] at h2;cases blk<;>simp only at h2<;>first|(cases h2;done)|skip
  rename_i e2 es fz;cases fz with
  | true=>cases h2
  | false=>
  obtain ⟨hc,h3⟩:=aD h2;simp only[aK,aM] at hc;obtain ⟨rfl,rfl⟩:=hc;obtain rfl:=aN h3;have tT:min xs.length es.length=0→(Builtin.copy_ #[t,u] ty #[s,x]).run P w= .ok (goInt 0) w→dq P ((Builtin.copy_ #[t,u] ty #[s,x]).run P w) w I β hp B M w0 ⟨.int .i64 (min xs.length es.length:Nat),[(id,.arr e (xs.take es.length++es.drop xs.length) false)]⟩:=by
   intro h0 hr;have he:xs.take es.length++es.drop xs.length=es:=by
    rcases Nat.le_total xs.length es.length with hl|hl
    ·have:xs=[]:=oZ (by omega);simp[this]
    ·have:es=[]:=oZ (by omega);simp[this]
   have iQ:cf hp [(id,.arr e (xs.take es.length++es.drop xs.length) false)]=hp:=by
    rw[he];exact Pm hp id _ ae
   refine ⟨goInt 0,w,I,β,hr,?_⟩;simp only[iQ,h0];exact ⟨Le.refl w I β hp,S,.int⟩
  cases hs with
  | eb hd=>rw[ae] at hd;cases hd
  | dP hd=>rw[ae] at hd;cases hd
  | eh hd=>rw[ae] at hd;cases hd
  | fF hd=>rw[ae] at hd;cases hd
  | @dX _ _ fz a hd hb=>
   rw[ae] at hd;cases hd;refine tT (by simp) ?_;rcases nJ with ⟨⟨a',rfl⟩,rfl⟩|⟨a',c,news,c6⟩
   ·exact run_copy_none w _ _ _ _ _ _ hu hi (by simp)
   ·rw[c6.val];exact run_copy_none w _ _ _ _ _ _ hu hi (by simp)
  | @whole _ _ aL pe b cap hd hb Cu bR hm=>
   have fS:=hd;rw[ae] at hd;cases hd;rcases nJ with ⟨⟨a',rfl⟩,rfl⟩|⟨a',c,news,c6⟩
   ·exact tT (by simp) (run_copy_none w _ _ _ _ _ _ hu hi (by simp))
   have hr:=S.h.rel id _ ae;cases hr with
   | ez au=>rw[au] at hb;cases hb
   | @arr _ T0 _ _ b' Ca hL _ au hh xx hf fO xy=>
    rw[hb] at au;cases au;have ku:news.length=xs.length:=by rw[c6.len,h1,iC]
    rw[h1,iC] at xx;have kW:(news.take es.length).length=Nat.min xs.length es.length:=by
     rw[mD,ku,Nat.min_comm]
    have Li:Nat.min xs.length es.length=min xs.length es.length:=rfl;have cR:=run_copy_row (P:=P) w t u ty e b 0 es.length cap a' xs.length c Ca T0 (news.take es.length) hu (by rw[hi];simp[bd,h1]) hh kW
     (fun j v hj=>c6.cell j v (by
      have:=(cC.1 hj).1;rw[mD] at this;rwa [jv (by omega)] at hj)) (by rw[kW,Li];omega) (fun v hv=>c6.one ao v (Jm hv))
    rw[c6.val];have hq:(goInt (news.take es.length).length)= .int .i64 ((min xs.length es.length:Nat):Int):=by rw[kW];rfl
    have oc:(xs.take es.length++es.drop xs.length).length=es.length:=by simp;omega
    have pK:(Ca.toList.take 0++news.take es.length++Ca.toList.drop (0+(news.take es.length).length)).toArray.size=Ca.size:=by
     simp only[rW,iA,A5,mD,kW,Li];simp;omega
    obtain ⟨a1,a2⟩:=J9 S (blk':= .arr e (xs.take es.length++es.drop xs.length) false) (Cb:=(Ca.toList.take 0++news.take es.length++Ca.toList.drop (0+(news.take es.length).length)).toArray) ae (by simp) ⟨rfl,oc.symm⟩ hb (fO rfl) (by simp) hh pK
     (fun hle dJ=> .arr (by rw[pK];exact hL) ao rfl dJ (by rw[pK,oc,h1,iC];exact xx) (fun h=>by cases h) (fun _=>fO rfl) fun i j y t' hy ht hj=>by
      rw[h1] at hj⊢;obtain rfl:j=0:=by omega
      rw[iC,Nat.add_zero];have rB:=(cC.1 hy).1;rw[oc] at rB;by_cases vE:i<xs.length
      ·rw[ng (by rw[mD];omega),jv rB] at hy;obtain ⟨u',k1,k2⟩:=c6.el i 0 y t' hy ht (by omega);rw[h1,iC,Nat.add_zero] at k1;refine ⟨u',?_,k2.mono hle.ej hle.cQ⟩;simp only[List.take_zero,List.nil_append,o3];rw[ng (by rw[mD];omega),jv rB];exact k1
      ·have e1:(xs.take es.length).length=xs.length:=by rw[mD];omega
       rw[oC (by omega),e1,qX,show xs.length+(i-xs.length)=i by omega] at hy;obtain ⟨u',k1,k2⟩:=xy i 0 y t' hy ht (by omega);rw[h1,iC,Nat.add_zero] at k1;refine ⟨u',?_,k2.mono hle.ej hle.cQ⟩;simp only[List.take_zero,List.nil_append,o3,dL];have e2:(news.take es.length).length=xs.length:=by rw[mD];omega
       rw[oC (by omega),e2,qX,show xs.length+(i-xs.length)=i by omega];simpa using k1)
    exact ⟨_,_,_,_,cR,a1,a2,by rw[hq];exact .int⟩
theorem akO (S:aC P w I β hp B M w0) {t ty e:TypeId} {x:Value} {xv:V} {r:R} {rd:List Nat} (hu:P.underlying t=some (.slice e)) (hx:aj P w I β hp x xv)
  (h:(O9 P e xv).run C hp=some (r,rd)):dq P ((Builtin.clear_ #[t] ty #[x]).run P w) w I β hp B M w0 r:=by
 unfold O9 at h;obtain ⟨fK,h'⟩:=aD h;clear h;have ao:c8 P e=true:=by
  unfold o6 at fK;simp only[aK] at fK;exact fK.1
 obtain ⟨i,z,hi,hz,bd,Gn,hzp⟩:=Gj (w:=w) (I:=I) fK;have gK:=(oF ao).2;cases xv<;>simp only at h'<;>first|(cases h';done)|skip
 rename_i e' id off len;obtain ⟨l,h2⟩:=run_get h';clear h';cases ae:hp id with
 | none=>rw[ae] at h2;cases h2
 | some blk=>
  rw[ae] at h2;cases blk<;>simp only at h2<;>first|(cases h2;done)|skip
  rename_i e2 es fz;cases fz with
  | true=>cases h2
  | false=>
  obtain ⟨hc,h3⟩:=aD h2;simp only[aK,aM] at hc;obtain ⟨rfl,rfl⟩:=hc;obtain rfl:=aN h3;have tT:len=0→(Builtin.clear_ #[t] ty #[x]).run P w= .ok (.tuple #[]) w→dq P ((Builtin.clear_ #[t] ty #[x]).run P w) w I β hp B M w0 ⟨.bf [],[(id,.arr e (es.take off++(List.replicate len (dA P e (ji P e))++es.drop (off+len))) false)]⟩:=by
   intro h0 hr;subst h0;have iQ:cf hp [(id,.arr e (es.take off++(List.replicate 0 (dA P e (ji P e))++es.drop (off+0))) false)]=hp:=by
    simp only[List.replicate_zero,List.nil_append,Nat.add_zero,List.take_append_drop];exact Pm hp id _ ae
   refine ⟨.tuple #[],w,I,β,hr,?_⟩;simp only[iQ];exact ⟨Le.refl w I β hp,S,.bf rfl fun j v x hj hx=>by simp at hx⟩
  cases hx with
  | jF hd=>rw[ae] at hd;cases hd
  | @jb _ _ _ a0 hd hb=>exact tT rfl (by cases a0<;>simp[Builtin.clear_,run_underlying hu])
  | @sub _ _ _ _ aL pe b o cap hd hb mK bR ho=>
   by_cases hlen:len=0
   ·refine tT hlen ?_;subst hlen;simp[Builtin.clear_,run_underlying hu]
   have akP:0<len:=by omega
   have fS:=hd;rw[ae] at hd;cases hd;have hr:=S.h.rel id _ ae;cases hr with
   | ez au=>rw[au] at hb;cases hb
   | @arr _ T0 _ _ b' Ca hL _ au hh xx hf fO xy=>
    rw[hb] at au;cases au;have ho:=ho akP;subst ho;have zg:(Builtin.zeroCells z.cells len).toList.length=len*P.cellsOf e:=by rw[Array.length_toList,size_zeroCells,Gn]
    have hmul:off*P.cellsOf e+len*P.cellsOf e≤es.length*P.cellsOf e:=by rw[←jh];exact eF _ mK
    have sJ: ∀v∈(Builtin.zeroCells z.cells len).toList,v.oneCell'=true:=by
     intro v hv;obtain ⟨k,hk⟩:=tm hv;have tQ:=(cC.1 hk).1;rw[zg] at tQ;have hzg:(Builtin.zeroCells z.cells len)[k]? =z.cells[k %z.cells.size]? :=Zz (z:=z.cells) (n:=len*z.cells.size) (by rw[Gn];exact tQ) (by rw[Gn];exact gK);rw[rZ,hzg] at hk;have hm:k %z.cells.size<P.cellsOf e:=by rw[Gn];exact ye _ gK
     have htl:k %z.cells.size<(aX P e).length:=by rw[fG ao];exact hm
     obtain ⟨v',Gi,hp'⟩:=hzp (k %z.cells.size) _ (b7 htl) hm;rw[hk] at Gi;cases Gi;exact hp'.1.one
    have cS:=run_storeCells_at P b (off*P.cellsOf e) T0 (Builtin.zeroCells z.cells len).toList 0 Ca w hh (by rw[zg];omega) sJ;simp only[Nat.add_zero] at cS;have cR:(Builtin.clear_ #[t] ty #[.slice (some ⟨b,off*P.cellsOf e,none⟩) len cap]).run P w= .ok (.tuple #[]) (w.setRow b (Ca.toList.take (off*P.cellsOf e)++(Builtin.zeroCells z.cells len).toList++Ca.toList.drop (off*P.cellsOf e+(Builtin.zeroCells z.cells len).toList.length)).toArray):=by
     obtain ⟨n,rfl⟩: ∃n,len=n+1:=⟨len-1,by omega⟩
     simp[Builtin.clear_,run_underlying hu,zeroValue,typeInfo,hi,hz,cS]
    have oc:(es.take off++(List.replicate len (dA P e (ji P e))++es.drop (off+len))).length=es.length:=by simp;omega
    have pK:(Ca.toList.take (off*P.cellsOf e)++(Builtin.zeroCells z.cells len).toList++Ca.toList.drop (off*P.cellsOf e+(Builtin.zeroCells z.cells len).toList.length)).toArray.size=Ca.size:=by
     simp only[rW,iA,A5,mD,zg,Array.length_toList];omega
    obtain ⟨a1,a2⟩:=J9 S (blk':= .arr e (es.take off++(List.replicate len (dA P e (ji P e))++es.drop (off+len))) false) ae (by simp) ⟨rfl,oc.symm⟩ hb (fO rfl) (by simp) hh pK
     (fun hle dJ=> .arr (by rw[pK];exact hL) ao rfl dJ (by rw[pK,oc];exact xx) (fun h=>by cases h) (fun _=>fO rfl) fun i' j y t' hy ht hj=>by
      have sM:=rq es (List.replicate len (dA P e (ji P e))) off i' (by simp;omega);rw[yd] at sM;rw[sM] at hy;have hC:(Ca.toList.take (off*P.cellsOf e)++(Builtin.zeroCells z.cells len).toList++Ca.toList.drop (off*P.cellsOf e+(Builtin.zeroCells z.cells len).toList.length)).toArray[i'*P.cellsOf e+j]? =
        if i'*P.cellsOf e+j<off*P.cellsOf e then Ca.toList[i'*P.cellsOf e+j]? else if i'*P.cellsOf e+j<off*P.cellsOf e+len*P.cellsOf e then (Builtin.zeroCells z.cells len).toList[i'*P.cellsOf e+j-off*P.cellsOf e]? else Ca.toList[i'*P.cellsOf e+j]? :=by
       have:=rq Ca.toList (Builtin.zeroCells z.cells len).toList (off*P.cellsOf e) (i'*P.cellsOf e+j) (by rw[zg,Array.length_toList];omega);rw[o3,kJ,this,zg]
      by_cases Cv:i'<off
      ·rw[aA Cv] at hy;have:(i'+1)*P.cellsOf e≤off*P.cellsOf e:=eF _ Cv;rw[jh] at this;rw[da] at hC;obtain ⟨u,k1,k2⟩:=xy i' j y t' hy ht hj;exact ⟨u,hC.trans (by simpa using k1),k2.mono hle.ej hle.cQ⟩
      ·rw[aw Cv] at hy;have h1:off*P.cellsOf e≤i'*P.cellsOf e:=eF _ (by omega);rw[dm] at hC;by_cases Cs:i'<off+len
       ·rw[aA Cs] at hy;have:(i'+1)*P.cellsOf e≤(off+len)*P.cellsOf e:=eF _ Cs;rw[jh,jh] at this;rw[da] at hC;obtain ⟨v,k1,k2⟩:=Q5 (w:=w) (I:=I) fK hi hz len len (az _) (i'-off) j y t' hy ht hj;refine ⟨v,hC.trans ?_,k2.mono hle.ej hle.cQ⟩;rw[show i'*P.cellsOf e+j-off*P.cellsOf e=(i'-off)*P.cellsOf e+j by rw[Nat.sub_mul];omega,rZ];unfold Builtin.zeroCells;rw[Gn] at k1⊢;exact k1
       ·rw[aw Cs] at hy;have:(off+len)*P.cellsOf e≤i'*P.cellsOf e:=eF _ (by omega);rw[jh] at this;rw[dm] at hC;obtain ⟨u,k1,k2⟩:=xy i' j y t' hy ht hj;exact ⟨u,hC.trans (by simpa using k1),k2.mono hle.ej hle.cQ⟩)
    exact ⟨_,_,_,_,cR,a1,a2,.bf rfl fun j v x hj hx=>by simp at hx⟩
end
section
variable {P:Program} {w w':World} {I I':Nat→Nat→Prop} {β β':Nat→Option Nat} {hp hp':Nat→Option ah} {C:af} {B:Nat} {M:Nat→Prop} {w0:Start}
theorem Gp (S:aC P w I β hp B M w0) {nb b:Nat} {e e1:TypeId} {ys:List V} {C':Array Value} (hr:rowOf P e=some e1) (hn:hp nb=none)
  {T:TypeId} (vy:w'.heap[b]? =some (.cells C' T (0,0))) (hlen:ys.length≤C'.size)
  (hw: ∀b',b'≠b→b'<w.heap.size→w'.heap[b']? =w.heap[b']?) (bd:w.heap.size≤w'.heap.size) (nk:w'.os=w.os∧w'.output=w.output) (hb:M b∨B≤b)
  (qk: ∀aq blk',hp aq=some blk'→¬bh P w (β aq) blk' b) (dp: ∀j,¬I b j) (K:Nat→Nat→List V→Prop)
  (gJ: ∀(i:Nat) x,ys[i]? =some x→∃l v,x= .list e1 l∧C'[i]? =some v∧zb P w e1 (K i) v l)
  (hK: ∀i b1 l,K i b1 l→b1≠b∧b1<w.heap.size∧iP P w I b1 e1 l∧(M b1∨B≤b1)∧∀id blk,hp id=some blk→¬bh P w (β id) blk b1)
  (tL: ∀i j b1 l m,K i b1 l→K j b1 m→i=j):
  Le P w I β hp w' I (an β nb (some b)) (an hp nb (some (.nest e ys [0,0,0])))∧aC P w' I (an β nb (some b)) (an hp nb (some (.nest e ys [0,0,0]))) B M w0:=by
 obtain ⟨p1,p2⟩:=Y9 (w:=w) (I:=I) (vers:=[0,0,0]) hr vy hlen dp K gJ (fun i b1 l h=>⟨(hK i b1 l h).1,hw _ (hK i b1 l h).1 (hK i b1 l h).2.1,(hK i b1 l h).2.2.1⟩) tL;refine Xe S hn qk (fun j h=>absurd h (dp j)) hw bd nk hb (fun b' ho=> ?_) (fun hle=>p2 hle.cQ);rcases p1 b' ho with h|⟨i,l,h⟩
 ·exact .inl h
 ·exact .inr ⟨(hK _ _ _ h).2.2.2.1,(hK _ _ _ h).2.2.2.2⟩
theorem akQ (S:aC P w I β hp B M w0) {t ty e:TypeId} {nb:Nat} {s x:Value} {sv xv:V} {r:R} {rd:List Nat} (hu:P.underlying t=some (.slice e)) (hs:aj P w I β hp s sv) (hx:aj P w I β hp x xv)
  (h:(O8 P nb e sv xv).run C hp=some (r,rd)):dq P ((Builtin.append_ #[t,t] ty #[s,x]).run P w) w I β hp B M w0 r:=by
 unfold O8 at h;obtain ⟨hro,ha⟩:=aD h;clear h;obtain ⟨e1,hr⟩:=A6.1 hro;obtain ⟨va,cD,ao,oL,gR⟩:=xu hr;have la:aX P e=[e]:=by simp[aX,cD]
 have hk:P.cellsOf e=1:=by rw[←fG ao,la];rfl
 obtain ⟨i,z,hi,hz,h3,h4,_⟩:=lb ao;have vC:=yv ao;have om:P.bytesOf e=i.bytes:=by simp[Program.bytesOf,hi]
 rw[hk] at h3 h4;cases sv with
 | whole e' id=>
  obtain ⟨l0,hb⟩:=run_get ha;clear ha;cases ae:hp id with
  | none=>rw[ae] at hb;cases hb
  | some blk=>
   rw[ae] at hb;cases blk with
   | nest dZ es vers=>
    obtain ⟨hc,hd⟩:=aD hb;clear hb;simp only[aK,aM] at hc;obtain ⟨rfl,rfl⟩:=hc;cases xv with
    | nilS e3=>
     obtain ⟨_,he⟩:=aD hd;cases he;obtain ⟨a0,rfl⟩: ∃a0,x= .slice a0 0 0:=by cases hx;exact ⟨_,rfl⟩
     cases hs with
     | eb hd=>rw[ae] at hd;cases hd
     | dX hd=>rw[ae] at hd;cases hd
     | whole hd=>rw[ae] at hd;cases hd
     | fF hd=>rw[ae] at hd;cases hd
     | eh hd hb=>exact ⟨_,_,_,_,Cr hu hi _ 0 0 _ ⟨_,_,rfl⟩ (az _),Le.refl ..,S,.eh hd hb⟩
     | dP hd hb bd bR hm=>
      rw[ae] at hd;cases hd;exact ⟨_,_,_,_,Cr hu hi _ _ _ _ ⟨_,_,rfl⟩ bR,Le.refl ..,S,.dP ae hb bd bR hm⟩
    | list e3 l=>
     obtain ⟨gg,he⟩:=aD hd;simp only[aK,aM] at gg;obtain ⟨rfl,mL⟩:=gg;have mL:=uI.1 mL;subst mL;cases he;obtain ⟨a0,c0,rfl⟩: ∃a0 c0,x= .slice a0 0 c0:=by
      cases hx with
      | list hp'=>cases hp' with
       | nil=>exact ⟨_,_,rfl⟩
       | emp=>exact ⟨_,_,rfl⟩
       | list g b c d e=>exact ⟨_,_,by rw[←b];rfl⟩
     cases hs with
     | eb hd=>rw[ae] at hd;cases hd
     | dX hd=>rw[ae] at hd;cases hd
     | whole hd=>rw[ae] at hd;cases hd
     | fF hd=>rw[ae] at hd;cases hd
     | eh hd hb=>exact ⟨_,_,_,_,Cr hu hi _ 0 0 _ ⟨_,_,rfl⟩ (az _),Le.refl ..,S,.eh hd hb⟩
     | dP hd hb bd bR hm=>
      rw[ae] at hd;cases hd;exact ⟨_,_,_,_,Cr hu hi _ _ _ _ ⟨_,_,rfl⟩ bR,Le.refl ..,S,.dP ae hb bd bR hm⟩
    | whole e3 aJ=>
     obtain ⟨l1,he⟩:=run_get hd;clear hd;cases dt:hp aJ with
     | none=>rw[dt] at he;cases he
     | some cI=>
      rw[dt] at he;cases cI with
      | nest e4 xs pk=>
       obtain ⟨hc,hf⟩:=aD he;clear he;simp only[aK,aM,gb,nc,mZ] at hc;obtain ⟨rfl,rfl,ZI,gK,ed⟩:=hc;have bq:id≠aJ:=fun h=>by rw[h,nX] at ZI;cases ZI
       obtain ⟨hn,rfl⟩:=mR hf;have hlen:es.length+xs.length≤2^45:=by
        have:(es.length+xs.length)*1≤(es.length+xs.length)*P.bytesOf e:=wE _ vC;simp only[ba] at ed;omega
       obtain ⟨b2,Gq,eA,rfl⟩: ∃b2 Gq,β aJ=some b2∧x= .slice (some ⟨b2,0,none⟩) xs.length Gq:=by
        cases hx with
        | eb hd=>rw[dt] at hd;cases hd
        | dX hd=>rw[dt] at hd;cases hd
        | whole hd=>rw[dt] at hd;cases hd
        | fF hd=>rw[dt] at hd;cases hd
        | eh hd hb=>rw[dt] at hd;cases hd;simp at gK
        | dP hd hb bd bR hm=>rw[dt] at hd;cases hd;exact ⟨_,_,hb,rfl⟩
       obtain ⟨C2,_,g1,g2,g3,g4,g5,g6⟩:=Q2 S hr dt eA;have tR: ∀(j:Nat) v,(C2.toList.take xs.length)[j]? =some v→w.cell? ((⟨b2,0,none⟩:Addr).add j)=some v:=by
        intro j v hj;have dr:=(cC.1 hj).1;rw[mD] at dr;rw[jv (by omega)] at hj;rw[od,cell?_cells g1,dL];simpa using hj
       have ku:(C2.toList.take xs.length).length=xs.length:=by simp;omega
       have sJ: ∀u∈C2.toList.take xs.length,u.oneCell'=true:=by
        intro u hm;obtain ⟨j,hj⟩:=tm hm;have dr:=(cC.1 hj).1;rw[ku] at dr;rw[jv dr] at hj;obtain ⟨l,v,_,hv,hh⟩:=g4 j xs[j] (b7 dr);have:v=u:=by rw[rZ,hv] at hj;exact dU hj
        subst this;rcases hh with ⟨_,a,rfl⟩|⟨b1,cap,_,rfl,_⟩<;>rfl
       obtain ⟨k1,S1⟩:=w7 S ae;have akR:an hp id (some ah.dead) aJ=some (.nest e xs pk):=by rw[cG _ _ (Ne.symm bq)];exact dt
       obtain ⟨k2,S2⟩:=w7 S1 akR;have tU:nb≠id:=fun e=>by rw[e,ae] at hn;cases hn
       have akS:nb≠aJ:=fun e=>by rw[e,dt] at hn;cases hn
       have tW:an (an hp id (some ah.dead)) aJ (some ah.dead) nb=none:=by rw[cG _ _ akS,cG _ _ tU];exact hn
       have live: ∀{aq blk'},an (an hp id (some ah.dead)) aJ (some ah.dead) aq=some blk'→blk'≠ .dead→hp aq=some blk'∧aq≠id∧aq≠aJ:=by
        intro aq blk' h hd;by_cases q1:aq=aJ
        ·subst q1;rw[bK] at h;cases h;exact absurd rfl hd
        ·rw[cG _ _ q1] at h;by_cases q2:aq=id
         ·subst q2;rw[bK] at h;cases h;exact absurd rfl hd
         ·rw[cG _ _ q2] at h;exact ⟨h,q2,q1⟩
       have Rc: ∀{idx bx:Nat} {bl},(idx=id∨idx=aJ)→hp idx=some bl→bh P w (β idx) bl bx→∀aq blk',an (an hp id (some ah.dead)) aJ (some ah.dead) aq=some blk'→¬bh P w (β aq) blk' bx:=by
        intro idx bx bl hor j6 ho aq blk' h hO;obtain ⟨q1,q2,q3⟩:=live h hO.alive;have:=S.h.inj aq idx _ _ bx q1 j6 hO ho;rcases hor with rfl|rfl
        ·exact q2 this
        ·exact q3 this
       have vF:cf hp [(nb,.nest e (es++xs) [0,0,0]),(id,.dead),(aJ,.dead)]=an (an (an hp id (some ah.dead)) aJ (some ah.dead)) nb (some (.nest e (es++xs) [0,0,0])):=by
        funext k;simp only[cf];by_cases q0:k=nb
        ·subst q0;rw[bK,bK]
        ·by_cases q1:k=id
         ·subst q1;rw[cG _ _ q0,bK,cG _ _ q0,cG _ _ bq,bK]
         ·by_cases q2:k=aJ
          ·subst q2;rw[cG _ _ q0,cG _ _ q1,bK,cG _ _ q0,bK]
          ·rw[cG _ _ q0,cG _ _ q1,cG _ _ q2,cG _ _ q0,cG _ _ q2,cG _ _ q1]
       have kZ:bh P w (β aJ) (.nest e xs pk) b2:= .root (by simp) eA;have lit: ∀i b1 l,At P w b2 e xs [(i,0)] b1 e1 l→b1<w.heap.size∧iP P w I b1 e1 l∧(M b1∨B≤b1)∧∀aq blk',an (an hp id (some ah.dead)) aJ (some ah.dead) aq=some blk'→¬bh P w (β aq) blk' b1:=fun i b1 l ha=>by
        obtain ⟨_,q2,q3,q4,q5⟩:=g5 i b1 l ha;exact ⟨q2,q3,q4,Rc (.inr rfl) dt q5⟩
       cases hs with
       | eb hd=>rw[ae] at hd;cases hd
       | dX hd=>rw[ae] at hd;cases hd
       | whole hd=>rw[ae] at hd;cases hd
       | fF hd=>rw[ae] at hd;cases hd
       | @eh _ _ _ a0 hd hb=>
        rw[ae] at hd;cases hd;simp only[List.length_nil,dL] at ed hlen;have cR:=ZE (P:=P) w t ty e i z hu hi hz a0 ⟨b2,0,none⟩ xs.length Gq (C2.toList.take xs.length) (by rw[ku,h3,iC]) tR (by omega) (by omega) (by rw[←om];simp only[ba] at ed;omega);have qy:=grownCap_ge w xs.length 0 e;have sL:grownCap w xs.length 0 e≤maxLen:=grownCap_le_maxLen w xs.length 0 e (by simp only[maxLen];omega);have dJ:(w.drew.alloc (.cells ((C2.toList.take xs.length).toArray++Builtin.zeroCells z.cells (grownCap w xs.length 0 e-xs.length)) e)).heap[w.heap.size]? =some (.cells ((C2.toList.take xs.length).toArray++Builtin.zeroCells z.cells (grownCap w xs.length 0 e-xs.length)) e):=heap_alloc_new w.drew (.cells ((C2.toList.take xs.length).toArray++Builtin.zeroCells z.cells (grownCap w xs.length 0 e-xs.length)) e);have Cp:=S2.h.jV;obtain ⟨a1,a2⟩:=Gp (w':=w.drew.alloc (.cells ((C2.toList.take xs.length).toArray++Builtin.zeroCells z.cells (grownCap w xs.length 0 e-xs.length)) e)) S2 (nb:=nb) (b:=w.heap.size) (ys:=xs) hr tW dJ (by simp;omega)
         (fun b' _ aR=>heap_alloc_old w.drew _ b' aR) (by simp) ⟨rfl,rfl⟩ (.inr S.size) (fun aq blk' h ho=>na _ (S2.h.lt h ho)) (fun j hj=>na _ (Cp _ j hj))
         (fun i b1 l=>At P w b2 e xs [(i,0)] b1 e1 l) (fun j y hy=>by
          obtain ⟨l,v,q1,q2,q3⟩:=g4 j y hy;have dr:=(cC.1 hy).1;refine ⟨l,v,q1,?_,q3⟩;rw[Jp (by simpa using by omega)];simp[dr,q2])
         (fun j b1 l ha=>⟨Ea (lit j b1 l ha).1,lit j b1 l ha⟩) g6
        refine ⟨_,_,I,an β nb (some w.heap.size),cR,?_⟩;rw[vF,List.nil_append];refine ⟨(k1.trans k2).trans a1,a2,?_⟩;exact .dP (bK _ _ _) (bK _ _ _) (by rw[lD dJ,hk,iC];simp[size_zeroCells,h4];omega) qy sL
       | @dP _ _ _ _ b cap hd hb bd bR hm=>
        rw[ae] at hd;cases hd;obtain ⟨Ca,Tq,f1,f2,f3,f4,f5,f6⟩:=Q2 S hr ae hb;rw[lD f1,hk,iC] at bd;have j6:bh P w (β id) (.nest e es vers) b:= .root (by simp) hb;have Gm:=S.h.own id _ b ae j6;have fm: ∀i b1 l,At P w b e es [(i,0)] b1 e1 l→b1≠b∧b1<w.heap.size∧iP P w I b1 e1 l∧(M b1∨B≤b1)∧∀aq blk',an (an hp id (some ah.dead)) aJ (some ah.dead) aq=some blk'→¬bh P w (β aq) blk' b1:=fun i b1 l ha=>by
         obtain ⟨q1,q2,q3,q4,q5⟩:=f5 i b1 l ha;exact ⟨q1,q2,q3,q4,Rc (.inl rfl) ae q5⟩
        have akT: ∀i b1 l,At P w b2 e xs [(i,0)] b1 e1 l→b1≠b:=fun i b1 l ha h=>by
         subst h;exact bq (S.h.inj id aJ _ _ _ ae dt j6 (g5 i _ l ha).2.2.2.2)
        have Kc: ∀i j b1 l m,At P w b e es [(i,0)] b1 e1 l→At P w b2 e xs [(j,0)] b1 e1 m→False:=fun i j b1 l m h1 h2=>bq (S.h.inj id aJ _ _ b1 ae dt (f5 i b1 l h1).2.2.2.2 (g5 j b1 m h2).2.2.2.2)
        let K:Nat→Nat→List V→Prop:=fun i b1 l=>(i<es.length∧At P w b e es [(i,0)] b1 e1 l)∨(es.length≤i∧At P w b2 e xs [(i-es.length,0)] b1 e1 l)
        have tL: ∀i j b1 l m,K i b1 l→K j b1 m→i=j:=by
         intro i j b1 l m h1 h2;rcases h1 with ⟨_,h1⟩|⟨p1,h1⟩
         ·rcases h2 with ⟨_,h2⟩|⟨_,h2⟩
          ·exact f6 _ _ _ _ _ h1 h2
          ·exact (Kc _ _ _ _ _ h1 h2).elim
         ·rcases h2 with ⟨_,h2⟩|⟨p2,h2⟩
          ·exact (Kc _ _ _ _ _ h2 h1).elim
          ·have:=g6 _ _ _ _ _ h1 h2;omega
        have fill: ∀(C':Array Value),(∀j,j<es.length→C'[j]? =Ca[j]?)→(∀j,j<xs.length→C'[es.length+j]? =C2[j]?)→∀(j:Nat) y,(es++xs)[j]? =some y→∃l v,y= .list e1 l∧C'[j]? =some v∧zb P w e1 (K j) v l:=by
         intro C' p1 p2 j y hy;by_cases hj:j<es.length
         ·rw[ng hj] at hy;obtain ⟨l,v,q1,q2,q3⟩:=f4 j y hy;refine ⟨l,v,q1,(p1 j hj).trans q2,?_⟩;rcases q3 with q3|⟨z1,b1,Re,z2,z3,z4,z5,z6⟩
          ·exact .inl q3
          ·exact .inr ⟨z1,b1,Re,z2,z3,z4,z5,.inl ⟨hj,z6⟩⟩
         ·rw[oC (by omega)] at hy;obtain ⟨l,v,q1,q2,q3⟩:=g4 _ y hy;have dr:=(cC.1 hy).1;refine ⟨l,v,q1,?_,?_⟩
          ·have:=p2 (j-es.length) dr;rw[show es.length+(j-es.length)=j by omega] at this;exact this.trans q2
          ·rcases q3 with q3|⟨z1,b1,Re,z2,z3,z4,z5,z6⟩
           ·exact .inl q3
           ·exact .inr ⟨z1,b1,Re,z2,z3,z4,z5,.inr ⟨by omega,z6⟩⟩
        by_cases tS:es.length+xs.length≤cap
        ·have Ct:es.length+(C2.toList.take xs.length).length≤Ca.size:=by rw[ku];omega
         have cR:=ZF (P:=P) w t ty e Tq i hu hi b es.length cap Ca f1 ⟨b2,0,none⟩ xs.length Gq (C2.toList.take xs.length) (by rw[ku,h3,iC]) tR sJ tS (by rw[h3,iC];exact Ct);rw[h3,iC,ku] at cR;have dJ:=setRow_heap w b Ca (Ca.toList.take es.length++C2.toList.take xs.length++Ca.toList.drop (es.length+xs.length)).toArray Tq _ f1;obtain ⟨a1,a2⟩:=Gp (w':=w.setRow b (Ca.toList.take es.length++C2.toList.take xs.length++Ca.toList.drop (es.length+xs.length)).toArray) S2 (nb:=nb) (b:=b) (ys:=es++xs) hr tW dJ (by simp;omega)
          (fun b' au _=>setRow_other w b b' _ au) (by simp) ⟨rfl,rfl⟩ Gm (Rc (.inl rfl) ae j6) f3 K
          (fill _ (fun j hj=>by
           rw[o3,kJ,ng (by simp;omega),jv hj,rZ]) (fun j hj=>by
           rw[o3,kJ,oC (by simp;omega),ng (by simp;omega),mD,Array.length_toList (xs:=Ca),Nat.min_eq_left (by omega),Jq,jv hj,rZ]))
          (fun j b1 l hj=>by
           rcases hj with ⟨_,hj⟩|⟨_,hj⟩
           ·exact fm _ _ _ hj
           ·exact ⟨akT _ _ _ hj,lit _ _ _ hj⟩) tL
         refine ⟨_,_,I,an β nb (some b),cR,?_⟩;rw[vF];refine ⟨(k1.trans k2).trans a1,a2,?_⟩;have:=aj.dP (P:=P) (w:=w.setRow b (Ca.toList.take es.length++C2.toList.take xs.length++Ca.toList.drop (es.length+xs.length)).toArray) (I:=I) (β:=an β nb (some b)) (hp:=an (an (an hp id (some ah.dead)) aJ (some ah.dead)) nb (some (.nest e (es++xs) [0,0,0]))) (b:=b) (cap:=cap) (bK _ _ _) (bK _ _ _) (by rw[lD dJ,hk,iC];simp;omega) (by rw[iA];exact tS) hm;rw[iA] at this;exact this
        ·have hold: ∀(j:Nat) v,(Ca.toList.take es.length)[j]? =some v→w.cell? ((⟨b,0,none⟩:Addr).add j)=some v:=by
          intro j v hj;have dr:=(cC.1 hj).1;rw[mD] at dr;rw[jv (by omega)] at hj;rw[od,cell?_cells f1,dL];simpa using hj
         have cR:=run_append_grow (P:=P) w t ty e i z hu hi hz ⟨b,0,none⟩ es.length cap (Ca.toList.take es.length) (by rw[h3,iC];simp;omega) hold ⟨b2,0,none⟩ xs.length Gq (C2.toList.take xs.length) (by rw[ku,h3,iC]) tR (by omega) (by omega)
          (growslice_fits (by omega) (by rw[←om];simp only[ba] at ed;omega))
         have qy:=grownCap_ge w (es.length+xs.length) cap e;have sL:grownCap w (es.length+xs.length) cap e≤maxLen:=grownCap_le_maxLen w _ cap e (by simp only[maxLen];omega);have dJ:(w.drew.alloc (.cells ((Ca.toList.take es.length).toArray++(C2.toList.take xs.length).toArray++Builtin.zeroCells z.cells (grownCap w (es.length+xs.length) cap e-(es.length+xs.length))) e)).heap[w.heap.size]? =some (.cells ((Ca.toList.take es.length).toArray++(C2.toList.take xs.length).toArray++Builtin.zeroCells z.cells (grownCap w (es.length+xs.length) cap e-(es.length+xs.length))) e):=heap_alloc_new w.drew (.cells ((Ca.toList.take es.length).toArray++(C2.toList.take xs.length).toArray++Builtin.zeroCells z.cells (grownCap w (es.length+xs.length) cap e-(es.length+xs.length))) e);have Cp:=S2.h.jV;obtain ⟨a1,a2⟩:=Gp (w':=w.drew.alloc (.cells ((Ca.toList.take es.length).toArray++(C2.toList.take xs.length).toArray++Builtin.zeroCells z.cells (grownCap w (es.length+xs.length) cap e-(es.length+xs.length))) e)) S2 (nb:=nb) (b:=w.heap.size) (ys:=es++xs) hr tW dJ (by simp;omega)
          (fun b' _ aR=>heap_alloc_old w.drew _ b' aR) (by simp) ⟨rfl,rfl⟩ (.inr S.size) (fun aq blk' h ho=>na _ (S2.h.lt h ho)) (fun j hj=>na _ (Cp _ j hj)) K
          (fill _ (fun j hj=>by
           rw[Jp (by simp;omega),Jp (by simp;omega),o3,jv hj,rZ]) (fun j hj=>by
           rw[Jp (by simp;omega),Array.getElem?_append_right (by simp;omega)];simp only[rW,mD,Array.length_toList (xs:=Ca),Nat.min_eq_left f2,Jq];rw[o3,jv hj,rZ]))
          (fun j b1 l hj=>by
           rcases hj with ⟨_,hj⟩|⟨_,hj⟩
           ·obtain ⟨_,q⟩:=fm _ _ _ hj;exact ⟨Ea q.1,q⟩
           ·exact ⟨Ea (lit _ _ _ hj).1,lit _ _ _ hj⟩) tL
         refine ⟨_,_,I,an β nb (some w.heap.size),cR,?_⟩;rw[vF];refine ⟨(k1.trans k2).trans a1,a2,?_⟩;have:=aj.dP (P:=P) (w:=w.drew.alloc (.cells ((Ca.toList.take es.length).toArray++(C2.toList.take xs.length).toArray++Builtin.zeroCells z.cells (grownCap w (es.length+xs.length) cap e-(es.length+xs.length))) e)) (I:=I) (β:=an β nb (some w.heap.size)) (hp:=an (an (an hp id (some ah.dead)) aJ (some ah.dead)) nb (some (.nest e (es++xs) [0,0,0]))) (b:=w.heap.size) (cap:=grownCap w (es.length+xs.length) cap e) (bK _ _ _) (bK _ _ _) (by rw[lD dJ,hk,iC];simp[size_zeroCells,h4];omega) (by rw[iA];exact qy) sL;rw[iA] at this;exact this
      | _=>cases he
    | _=>cases hd
   | _=>cases hb
 | _=>cases ha
theorem ZJ (S:aC P w I β hp B M w0) {t ty e:TypeId} {nb:Nat} {s x:Value} {sv xv:V} {r:R} {rd:List Nat} (hu:P.underlying t=some (.slice e)) (hs:aj P w I β hp s sv) (hx:aj P w I β hp x xv)
  (h:(O7 P nb e sv xv).run C hp=some (r,rd)):dq P ((Builtin.append_ #[t,t] ty #[s,x]).run P w) w I β hp B M w0 r:=by
 unfold O7 at h;split at h
 ·rename_i e' id ver i;obtain ⟨ao,h1⟩:=aD h;clear h;obtain ⟨xs,nJ,l0,h2⟩:=Gk S.h.rel ao hx h1;obtain ⟨e0,es,vers,l1,ae,k1,k2,k3,h3⟩:=rm h2;cases hr:rowOf P e0 with
  | none=>simp only[hr] at h3;cases h3
  | some e1=>
  simp only[hr] at h3;obtain ⟨hc,h4⟩:=aD h3;simp only[aK,aM] at hc;obtain ⟨rfl,rfl⟩:=hc;obtain ⟨y,hy,h5⟩:=n9 h4;obtain ⟨ed,h6⟩:=aD h5;obtain ⟨l2,h7⟩:=run_get h6;cases hn:hp nb with
  | some _=>rw[hn] at h7;cases h7
  | none=>
  rw[hn] at h7;obtain ⟨jf,rfl⟩:=mR h7;obtain ⟨b,q,i0,c,t1,l,bP,hb,ht,hc⟩:=hs.Pu ae k1 k2 k3;have:q=[]∧i0=i∧c=0:=by
   have hq:([]:Path)++[(i,0)]=q++[(i0,c)]:=bP;obtain ⟨h1,h2⟩:=List.append_inj' hq rfl;simp only[yg,nh,and_true] at h2;exact ⟨h1.symm,h2.1.symm,h2.2.symm⟩
  obtain ⟨rfl,rfl,rfl⟩:=this;obtain ⟨va,cD,akU,oL,gR⟩:=xu hr;have la:aX P e0=[e0]:=by simp[aX,cD]
  have hk:P.cellsOf e0=1:=by rw[←fG akU,la];rfl
  obtain ⟨b',e',aL,Ca,T,f,x1,m1,m2,m3,m4,m5,m6⟩:=hc;cases m1;rw[hk,iC,Nat.add_zero] at m6;obtain ⟨tN,l1,S1,hv⟩:=akx S hr ae hb hy hn;have qq:=hv _ _ _ _ m2 m6;have bq:nb≠id:=fun h=>by rw[h,ae] at hn;cases hn
  have akV:nb+1≠id:=fun h=>by rw[h,ae] at jf;cases jf
  generalize hq:an (an hp id (some (ah.out e0 es (vers.map (· +1)) i0))) nb (some (.arr e y.toList false))=Rf at l1 S1 qq;have hq0:Rf nb=some (.arr e y.toList false):=by rw[←hq,bK]
  have hqn:Rf (nb+1)=none:=by rw[←hq,cG _ _ (Nat.succ_ne_self nb),cG _ _ akV];exact jf
  have c6:((∃a,x= .slice a 0 0)∧xs=[])∨∃a c news,Row P w I e x xs a c news:=nJ;have:=ZG (ty:=ty) S1 hu ao qq hq0 hqn ed (by
   rcases c6 with h|⟨a,c,news,h⟩
   ·exact .inl h
   ·exact .inr ⟨a,c,news,h.val,h.len,h.cell,fun i j x t' p1 p2 p3=>(h.el i j x t' p1 p2 p3).imp fun u hu=>⟨hu.1,hu.2.mono l1.ej l1.cQ⟩⟩)
  obtain ⟨v,w',I',β',a1,a2,a3,a4⟩:=this;refine ⟨v,w',I',β',a1,?_⟩;have vF:cf hp [(nb+1,.arr e (y.toList++xs) false),(nb,.dead),(id,.out e0 es (vers.map (· +1)) i0)]=cf Rf [(nb+1,.arr e (y.toList++xs) false),(nb,.dead)]:=by
   rw[←hq];funext k;simp only[cf];by_cases q0:k=nb+1
   ·subst q0;rw[bK,bK]
   ·rw[cG _ _ q0,cG _ _ q0];by_cases q1:k=nb
    ·subst q1;rw[bK,bK]
    ·rw[cG _ _ q1,cG _ _ q1,cG _ _ q1]
  rw[vF];exact ⟨l1.trans a2,a3,a4⟩
 ·exact akL S hu hs hx h
theorem ZK (S:aC P w I β hp B M w0) {t e e1:TypeId} {nb:Nat} {v:Value} {l:List V} (hu:P.underlying t=some (.slice e)) (hr:rowOf P e=some e1) (hn:hp nb=none) (K:Nat→List V→Prop)
  (hv:zb P w e1 K v l) (hK: ∀b1 l,K b1 l→b1<w.heap.size∧iP P w I b1 e1 l∧(M b1∨B≤b1)∧∀id blk,hp id=some blk→¬bh P w (β id) blk b1):
  (Instr.buildSlice t 1 #[(0,v)]).run P w= .ok (.slice (some ⟨w.heap.size,0,none⟩) 1 1) (w.alloc (.cells #[v] e))∧
  Le P w I β hp (w.alloc (.cells #[v] e)) I (an β nb (some w.heap.size)) (an hp nb (some (.nest e [.list e1 l] [0,0,0])))∧aC P (w.alloc (.cells #[v] e)) I (an β nb (some w.heap.size)) (an hp nb (some (.nest e [.list e1 l] [0,0,0]))) B M w0∧
  aj P (w.alloc (.cells #[v] e)) I (an β nb (some w.heap.size)) (an hp nb (some (.nest e [.list e1 l] [0,0,0]))) (.slice (some ⟨w.heap.size,0,none⟩) 1 1) (.whole e nb):=by
 obtain ⟨va,cD,ao,oL,gR⟩:=xu hr;have la:aX P e=[e]:=by simp[aX,cD]
 have hk:P.cellsOf e=1:=by rw[←fG ao,la];rfl
 obtain ⟨i,z,hi,hz,h3,h4,_⟩:=lb ao;rw[hk] at h3 h4;have rG:v.cells= #[v]:=by rcases hv with ⟨_,a,rfl⟩|⟨b1,cap,_,rfl,_⟩<;>rfl
 have cR:=Q6 w t e 1 #[(0,v)] #[v] i z hu hi hz (by rw[h3];omega) (by
  rw[h3];simp[Instr.fill,rG];rw[show Array.range 1= #[0] from rfl];simp)
 have dJ:(w.alloc (.cells #[v] e)).heap[w.heap.size]? =some (.cells #[v] e):=heap_alloc_new w _;obtain ⟨a1,a2⟩:=Gp (w':=w.alloc (.cells #[v] e)) S (nb:=nb) (b:=w.heap.size) (ys:=[.list e1 l]) hr hn dJ (by simp)
  (fun b' _ aR=>heap_alloc_old w _ b' aR) (by simp) ⟨rfl,rfl⟩ (.inr S.size) (fun aq blk' h ho=>na _ (S.h.lt h ho)) (fun j hj=>na _ (S.h.jV _ j hj))
  (fun i b1 l=>i=0∧K b1 l) (fun j y hy=>by
   cases j with
   | succ j=>simp at hy
   | zero=>
    simp at hy;subst hy;refine ⟨l,v,rfl,rfl,?_⟩;rcases hv with h|⟨b1,cap,z1,z2,z3,z4,z5,z6⟩
    ·exact .inl h
    ·exact .inr ⟨b1,cap,z1,z2,z3,z4,z5,rfl,z6⟩)
  (fun j b1 l h=>⟨Ea (hK b1 l h.2).1,hK b1 l h.2⟩) (fun i j b1 l m h1 h2=>h1.1.trans h2.1.symm)
 refine ⟨cR,a1,a2,?_⟩;exact .dP (es:=[.list e1 l]) (bK _ _ _) (bK _ _ _) (by rw[lD dJ,hk];rfl) (az _) (by simp[maxLen])
theorem akW (S:aC P w I β hp B M w0) {a:Act} {sl:Nat→V} (hs:n8 P w I β hp a sl) {G:Nat→V} (hg:jW P G w I) {t e:TypeId} {len nb:Nat} {ps:Array (Nat×Operand)} {r:R} {rd:List Nat} (hu:P.underlying t=some (.slice e))
  (h:(WX P nb e len (ps.toList.map fun p=>(p.1,aW P G e sl p.2))).run C hp=some (r,rd)):
  dq P ((Instr.buildSlice t len (ps.map fun (i,x)=>(i,a.eval x))).run P w) w I β hp B M w0 r:=by
 obtain ⟨hl,ha⟩:=aD h;clear h;rw[aM,dH] at hl;cases hr:rowOf P e with
 | none=>rw[hr] at ha;cases ha
 | some e1=>
 simp only[hr] at ha;obtain ⟨va,cD,ao,oL,gR⟩:=xu hr;obtain ⟨ps⟩:=ps;simp only at ha hl;cases ps with
 | nil=>
  obtain ⟨hn,rfl⟩:=mR ha;simp only[List.length_nil] at hl;subst hl;obtain ⟨i,z,hi,hz,h3,h4,_⟩:=lb ao;have cR:=Q6 w t e 0 #[] #[] i z hu hi hz (by omega) (by simp[Instr.fill]);have dJ:(w.alloc (.cells #[] e)).heap[w.heap.size]? =some (.cells #[] e):=heap_alloc_new w _;obtain ⟨a1,a2⟩:=Gp (w':=w.alloc (.cells #[] e)) S (nb:=nb) (b:=w.heap.size) (ys:=[]) hr hn dJ (by simp)
   (fun b' _ aR=>heap_alloc_old w _ b' aR) (by simp) ⟨rfl,rfl⟩ (.inr S.size) (fun aq blk' h ho=>na _ (S.h.lt h ho)) (fun j hj=>na _ (S.h.jV _ j hj))
   (fun _ _ _=>False) (fun j y hy=>by simp at hy) (fun _ _ _ h=>h.elim) (fun _ _ _ _ _ h=>h.elim)
  exact ⟨_,_,I,an β nb (some w.heap.size),by simpa using cR,a1,a2,.dP (es:=[]) (bK _ _ _) (bK _ _ _) (by rw[lD dJ];simp) (az _) (by simp)⟩
 | cons p ps=>
  cases ps with
  | cons q ps=>
   obtain ⟨p1,p2⟩:=p;simp only[lu] at ha;cases p1<;>cases hx:aW P G e sl p2<;>simp only[hx] at ha<;>cases ha
  | nil=>
  obtain ⟨p1,p2⟩:=p;simp only[List.length_cons,List.length_nil,dL] at hl;subst hl;have ql:=hs.ev hg e p2;simp only[lu,List.map_nil] at ha;cases p1 with
  | succ n=>cases hx:aW P G e sl p2<;>simp only[hx] at ha<;>cases ha
  | zero=>
  cases hx:aW P G e sl p2 with
  | nilS e2=>
   simp only[hx] at ha;obtain ⟨hc,hb⟩:=aD ha;obtain ⟨hn,rfl⟩:=mR hb;rw[hx] at ql;obtain ⟨a0,ha0⟩: ∃a0,a.eval p2= .slice a0 0 0:=by
    generalize a.eval p2=v at ql;cases ql;exact ⟨_,rfl⟩
   obtain ⟨k1,k2,k3,k4⟩:=ZK S (v:=a.eval p2) (l:=[]) hu hr hn (fun _ _=>False) (.inl ⟨rfl,a0,ha0⟩) (fun _ _ h=>h.elim);exact ⟨_,_,I,an β nb (some w.heap.size),by simpa using k1,k2,k3,k4⟩
  | whole e2 id=>
   simp only[hx] at ha;obtain ⟨l0,hb⟩:=run_get ha;clear ha;cases ae:hp id with
   | none=>rw[ae] at hb;cases hb
   | some blk=>
    rw[ae] at hb;cases blk with
    | arr e3 es fz=>
     cases fz with
     | true=>cases hb
     | false=>
      obtain ⟨hc,hd⟩:=aD hb;clear hb;simp only[aK,aM] at hc;obtain ⟨rfl,rfl⟩:=hc;obtain ⟨hn,rfl⟩:=mR hd;have bq:nb≠id:=fun e=>by rw[e,ae] at hn;cases hn
      obtain ⟨k1,S1⟩:=w7 S ae;have jf:an hp id (some ah.dead) nb=none:=by rw[cG _ _ bq];exact hn
      have vF:cf hp [(nb,.nest e [.list e1 es] [0,0,0]),(id,.dead)]=an (an hp id (some ah.dead)) nb (some (.nest e [.list e1 es] [0,0,0])):=rfl;rw[hx] at ql;have fin: ∀(K:Nat→List V→Prop),zb P w e1 K (a.eval p2) es→(∀b1 l,K b1 l→b1<w.heap.size∧iP P w I b1 e1 l∧(M b1∨B≤b1)∧∀aq blk',an hp id (some ah.dead) aq=some blk'→¬bh P w (β aq) blk' b1)→
        dq P ((Instr.buildSlice t 1 #[(0,a.eval p2)]).run P w) w I β hp B M w0 ⟨.whole e nb,[(nb,.nest e [.list e1 es] [0,0,0]),(id,.dead)]⟩:=fun K hv hK=>by
       obtain ⟨q1,q2,q3,q4⟩:=ZK S1 (v:=a.eval p2) (l:=es) hu hr jf K hv hK;refine ⟨_,_,I,an β nb (some w.heap.size),q1,?_⟩;rw[vF];exact ⟨k1.trans q2,q3,q4⟩
      have res:dq P ((Instr.buildSlice t 1 #[(0,a.eval p2)]).run P w) w I β hp B M w0 ⟨.whole e nb,[(nb,.nest e [.list e1 es] [0,0,0]),(id,.dead)]⟩:=by
       generalize a.eval p2=v at ql fin⊢;cases ql with
       | eb hd=>rw[ae] at hd;cases hd
       | dP hd=>rw[ae] at hd;cases hd
       | eh hd=>rw[ae] at hd;cases hd
       | fF hd=>rw[ae] at hd;cases hd
       | @dX _ _ _ a0 hd hb=>
        rw[ae] at hd;cases hd;exact fin (fun _ _=>False) (.inl ⟨rfl,a0,rfl⟩) (fun _ _ h=>h.elim)
       | @whole _ _ _ _ b cap hd hb bd bR hm=>
        rw[ae] at hd;cases hd;obtain ⟨m1,m2⟩:=QZ S ae hb gR;obtain ⟨m3,m4⟩:=m1 _ _ _ _ .here;by_cases h0:0<cap
        ·refine fin (fun b1 l=>b1=b∧l=es) (.inr ⟨b,cap,h0,rfl,bd,bR,hm,rfl,rfl⟩) (fun b1 l h=> ?_);obtain ⟨rfl,rfl⟩:=h;refine ⟨S.h.lt ae m4,m3,S.h.own id _ _ ae m4,fun aq blk' h' ho=> ?_⟩;by_cases q:aq=id
         ·subst q;rw[bK] at h';cases h';exact absurd rfl ho.alive
         ·rw[cG _ _ q] at h';exact q (S.h.inj aq id _ _ _ h' ae ho m4)
        ·have:es=[]:=uI.1 (by omega);subst this;exact fin (fun _ _=>False) (.inl ⟨rfl,some ⟨b,0,none⟩,by rw[show cap=0 by omega];rfl⟩) (fun _ _ h=>h.elim)
      simpa using res
    | _=>cases hb
  | _=>simp only[hx] at ha;cases ha
end
section
variable {P:Program} {w w':World} {I I':Nat→Nat→Prop} {β β':Nat→Option Nat} {hp hp':Nat→Option ah} {C:af} {B:Nat} {M:Nat→Prop} {w0:Start}
theorem akX (S:aC P w I β hp B M w0) {s:TypeId} {f:Nat} {v:Value} {x:V} {r:R} {rd:List Nat} (hv:aj P w I β hp v x)
  (h:(Pe P s f x).run C hp=some (r,rd)):dq P ((Instr.field s v f).run P w) w I β hp B M w0 r:=by
 unfold Pe JC at h;split at h
 ·rename_i fs hu;cases hf:fs[f]? with
  | none=>rw[hf] at h;cases h
  | some fd=>
   rw[hf] at h;simp only[Bj] at h;obtain ⟨ht,h⟩:=aD h;obtain ⟨d,tX⟩:=BD ht;obtain ⟨i,hi⟩:=w9 tX;have bd:i.size=P.cellsOf fd.type:=by simp[Program.cellsOf,hi]
   cases x with
   | agg xs=>
    obtain ⟨cs,rfl,h1,h2⟩:=hv.np;dsimp only at h;cases ha:b8 P fd.type with
    | true=>
     rw[ha] at h;simp only[cond_true] at h;obtain ⟨hc,h⟩:=aD h;obtain rfl:=aN h;rw[gb] at hc;refine .same S (v:= .agg (cs.extract fd.offset (fd.offset+P.cellsOf fd.type))) ?_ (.agg (by simp;omega) fun j u y lM hy=> ?_)
     ·simp[Instr.field,run_underlying hu,hf,part,J3 tX,ha,asAgg,sizeOf,typeInfo,hi,bd]
     grind
    | false=>
     rw[ha] at h;simp only[cond_false] at h;obtain ⟨y,hy,h⟩:=n9 h;obtain rfl:=aN h;have aR:fd.offset<cs.size:=by grind
     refine .same S (v:=cs[fd.offset]) ?_ (h2 _ _ _ (lr aR) hy);simp[Instr.field,run_underlying hu,hf,part,J3 tX,ha,asAgg,aR]
   | _=>cases h
 ·cases h
theorem akY (S:aC P w I β hp B M w0) {i:Nat} {v:Value} {xs:List V} {r:R} {rd:List Nat} (hv:aj P w I β hp v (.bf xs))
  (h:(Rd.opt xs[i]? fun v=> .ret ⟨v,[]⟩).run C hp=some (r,rd)):dq P ((Instr.extract v i).run P w) w I β hp B M w0 r:=by
 obtain ⟨cs,rfl,h1,h2⟩:=hv.yB;obtain ⟨y,hy,h⟩:=n9 h;obtain rfl:=aN h;have aR:i<cs.size:=by grind
 exact .same S (v:=cs[i]) (by simp[Instr.extract,aR]) (h2 _ _ _ (lr aR) hy)
theorem akZ (S:aC P w I β hp B M w0) {t:TypeId} {s:ByteArray} {l:List UInt8} {k:IntKind} {i:Int} {r:R} {rd:List Nat} (hu:P.underlying t=some .string) (hs:s.data.toList=l)
  (h:(Rd.opt (bif decide (0≤i) then (l[i.toNat]?).map fun b=>V.int .u8 b.toNat else none) fun v=> .ret ⟨.int .u8 v.toInt,[]⟩).run C hp=some (r,rd)):
  dq P ((Instr.index t (.string s) (.int k i)).run P w) w I β hp B M w0 r:=by
 obtain ⟨v,hv,h⟩:=n9 h;obtain rfl:=aN h;cases hc:decide (0≤i) with
 | false=>grind
 | true=>
  rw[hc] at hv;simp only[cond_true] at hv;have h0:0≤i:=by grind
  cases hb:l[i.toNat]? with
  | none=>grind
  | some b=>
   rw[hb] at hv;simp only[Option.map_some,fi] at hv;subst hv;have hsb:s[i.toNat]? =some b:=by
    subst hs;obtain ⟨aR,he⟩:=cC.1 hb;have Rg:i.toNat<s.size:=by simpa using aR
    rw[getElem?_pos s i.toNat Rg];congr 1
   refine .same S (v:= .int .u8 b.toNat) ?_ .int;simp[Instr.index,asIntOf,run_underlying hu,h0,hsb]
theorem ak0 (S:aC P w I β hp B M w0) {t e:TypeId} {n:Nat} {v:Value} {cs:List V} {k:IntKind} {i:Int} {r:R} {rd:List Nat} (hu:P.underlying t=some (.array n e)) (hv:aj P w I β hp v (.agg cs))
  (h:(Pg P n e cs i).run C hp=some (r,rd)):dq P ((Instr.index t v (.int k i)).run P w) w I β hp B M w0 r:=by
 obtain ⟨xs,rfl,h1,h2⟩:=hv.np;unfold Pg at h;obtain ⟨hc,h⟩:=aD h;obtain ⟨y,hy,h⟩:=n9 h;obtain rfl:=aN h;simp only[aK,nc,aM] at hc;obtain ⟨c1,c2,c3,c4,c5⟩:=hc;obtain ⟨d,tX⟩:=BD c1;obtain ⟨j,hi⟩:=w9 tX;have bd:j.size=1:=by rw[←c3];simp[Program.cellsOf,hi]
 unfold idx at hy;cases h0:decide (0≤i) with
 | false=>rw[h0] at hy;cases hy
 | true=>
  rw[h0] at hy;simp only[cond_true] at hy;have h0:0≤i:=D0 h0;have aR:i.toNat<cs.length:=(cC.1 hy).1;have ZL:i.toNat<xs.size:=by rw[h1];exact aR
  have cS:=ig.1 c5 y (mB hy);cases y<;>(try (cases cS;done))
  refine .same S (v:=xs[i.toNat]) ?_ (h2 _ _ _ (lr ZL) hy);have mM:i<(n:Int):=by omega
  simp[Instr.index,asIntOf,run_underlying hu,h0,mM,part,J3 tX,c4,sizeOf,typeInfo,hi,bd,ZL]
theorem Rh (S:aC P w I β hp B M w0) (mx:Bool): ∀{vs:List Value} {xs:List V} {v:Value} {x:V} {r:R} {rd:List Nat},aj P w I β hp v x→vs.length=xs.length→
  (∀(j:Nat) u y,vs[j]? =some u→xs[j]? =some y→aj P w I β hp u y)→(Bk mx x xs).run C hp=some (r,rd)→
  dq P ((vs.foldlM (if mx then Builtin.max2 else Builtin.min2) v).run P w) w I β hp B M w0 r
 | [],[],v,x,r,rd,hv,_,_,h=>by
  have:r=⟨x,[]⟩:=by
   cases x<;>(simp only[Bk] at h;exact (aN h).symm)
  subst this;exact .same S (by simp) hv
 | [],_::_,v,x,r,rd,hv,hl,_,h=>by simp at hl
 | _::_,[],v,x,r,rd,hv,hl,_,h=>by simp at hl
 | u::vs,y::xs,v,x,r,rd,hv,hl,hx,h=>by
  cases x<;>cases y<;>simp only[Bk] at h<;>first|(cases h;done)|skip
  rename_i k a k' b;obtain ⟨hc,h4⟩:=aD h;clear h;obtain rfl:k=k':=by grind
  have hu:=hx 0 u _ rfl rfl;rw[hv.fU,hu.fU];have ih:=Rh S mx (vs:=vs) (xs:=xs) (v:= .int k (bif mx then (if b>a then b else a) else (if b<a then b else a))) .int (by grind)
   (fun j u y h1 h2=>hx (j+1) u y (by grind) (by grind)) h4
  cases mx with
  | true=>simpa[List.foldlM_cons,Builtin.max2] using ih
  | false=>simpa[List.foldlM_cons,Builtin.min2] using ih
theorem tY {n cap:Nat} {isS:Bool} {lo hi:Option V} {lov hiv:Option Value} {k:Nat→Nat→Rd R} {r:R} {rd:List Nat} (hn:n≤cap)
  (nK: ∀x,lo=some x→∃v,lov=some v∧aj P w I β hp v x) (mr: ∀x,hi=some x→∃v,hiv=some v∧aj P w I β hp v x) (qz:lo=none→lov=none) (rI:hi=none→hiv=none)
  (h:(uR n lo hi k).run C hp=some (r,rd)): ∃l u,l≤u∧u≤n∧(Instr.sliceBounds isS n cap lov hiv none).run P w= .ok (l,u,cap) w∧(k l u).run C hp=some (r,rd):=by
 have ok: ∀(kk:IntKind) (i:Int) (y:Nat) (c:BoundsCode),0≤i→i≤y→(Instr.sliceBound (.int kk i) y c).run P w= .ok i.toNat w:=by
  intro kk i y c h1 h2;simp[Instr.sliceBound,asIntOf,h1,h2]
 unfold uR at h;cases lo with
 | none=>
  rw[qz rfl];cases hi with
  | none=>
   rw[rI rfl];exact ⟨0,n,ma _,az _,by simp[Instr.sliceBounds],h⟩
  | some x=>
   obtain ⟨v,rfl,hv⟩:=mr x rfl;cases x<;>simp only at h<;>first|(cases h;done)|skip
   rename_i kk u;obtain ⟨hc,h⟩:=aD h;simp only[aK,jQ] at hc;rw[hv.fU];have:=ok kk u cap (if isS then .sliceAcap else .sliceAlen) hc.1 (by omega);exact ⟨0,u.toNat,ma _,by omega,by simp[Instr.sliceBounds,this],h⟩
 | some x=>
  obtain ⟨v,rfl,hv⟩:=nK x rfl;cases hi with
  | none=>
   rw[rI rfl];cases x<;>simp only at h<;>first|(cases h;done)|skip
   rename_i kk l;obtain ⟨hc,h⟩:=aD h;simp only[aK,jQ] at hc;rw[hv.fU];have:=ok kk l n .sliceB hc.1 (by omega);exact ⟨l.toNat,n,by omega,az _,by simp[Instr.sliceBounds,this],h⟩
  | some y=>
   obtain ⟨v2,rfl,ko⟩:=mr y rfl;cases x<;>cases y<;>simp only at h<;>first|(cases h;done)|skip
   rename_i kk l kk2 u;obtain ⟨hc,h⟩:=aD h;simp only[aK,jQ] at hc;rw[hv.fU,ko.fU];have h1:=ok kk2 u cap (if isS then .sliceAcap else .sliceAlen) (by omega) (by omega);have h2:=ok kk l u.toNat .sliceB hc.1 (by omega);exact ⟨l.toNat,u.toNat,by omega,by omega,by simp[Instr.sliceBounds,h1,h2],h⟩
theorem LC {a:Option Addr} {t e:TypeId} {i:TypeInfo} (hu:P.underlying t=some (.slice e)) (hi:P.info? e=some i) {lov hiv:Option Value}
  (hb:(Instr.sliceBounds true 0 0 lov hiv none).run P w= .ok (0,0,0) w):(Instr.sliceAt t (.slice a 0 0) lov hiv none).run P w= .ok (.slice a 0 0) w:=by
 cases a<;>simp[Instr.sliceAt,Instr.slice,run_underlying hu,hb,sizeOf,typeInfo,hi]
theorem Ri {t e:TypeId} {i:TypeInfo} {b o len cap l u:Nat} (hu:P.underlying t=some (.slice e)) (hi:P.info? e=some i) {lov hiv:Option Value} (huc:u≤cap)
  (hb:(Instr.sliceBounds true len cap lov hiv none).run P w= .ok (l,u,cap) w): ∃o',(0<u-l→o'=o+l*i.size)∧(Instr.sliceAt t (.slice (some ⟨b,o,none⟩) len cap) lov hiv none).run P w= .ok (.slice (some ⟨b,o',none⟩) (u-l) (cap-l)) w:=by
 by_cases hc:cap=l
 ·subst hc;refine ⟨o,fun h=>by omega,?_⟩
  ·simp[Instr.sliceAt,Instr.slice,run_underlying hu,hb,sizeOf,typeInfo,hi]
 ·refine ⟨o+l*i.size,fun _=>rfl,?_⟩;simp[Instr.sliceAt,Instr.slice,run_underlying hu,hb,sizeOf,typeInfo,hi,hc,od]
theorem ak1 (s:ByteArray) (l:List UInt8) (h:s.data.toList=l) (a b:Nat):(s.extract a b).data.toList=(l.drop a).take (b-a):=by
 simp_all
theorem ak2 (S:aC P w I β hp B M w0) {t:TypeId} {v:Value} {x:V} {lo hi:Option V} {lov hiv:Option Value} {r:R} {rd:List Nat} (hv:aj P w I β hp v x)
  (nK: ∀x,lo=some x→∃v,lov=some v∧aj P w I β hp v x) (mr: ∀x,hi=some x→∃v,hiv=some v∧aj P w I β hp v x) (qz:lo=none→lov=none) (rI:hi=none→hiv=none)
  (h:(JJ P t x lo hi).run C hp=some (r,rd)):dq P ((Instr.sliceAt t v lov hiv none).run P w) w I β hp B M w0 r:=by
 unfold JJ at h;cases hu:P.underlying t with
 | none=>rw[hu] at h;cases h
 | some d=>
  rw[hu] at h;cases d<;>simp only at h<;>first|(cases h;done)|skip
  case string=>
   cases x<;>simp only at h<;>first|(cases h;done)|skip
   rename_i l;obtain ⟨s,rfl,hs⟩:=hv.oG;have bd:l.length=s.size:=by rw[←hs];simp
   obtain ⟨a,u,h1,h2,h3,h4⟩:=tY (isS:=false) (cap:=s.size) (by omega) nK mr qz rI h;obtain rfl:=aN h4;rw[bd] at h3;refine .same S (v:= .string (s.extract a u)) ?_ (.str (ak1 s l hs a u));simp[Instr.sliceAt,Instr.slice,run_underlying hu,h3]
  case slice e=>
   cases x<;>simp only at h<;>first|(cases h;done)|skip
   case list e' es=>
    obtain ⟨hc,h⟩:=aD h;simp only[aK,aM] at hc;obtain ⟨gz,ao⟩:=hc;obtain ⟨i,z,bS,_,bd,_⟩:=lb ao;cases hv with
    | list hp'=>
     cases hp' with
     | nil=>
      obtain ⟨a,u,h1,h2,h3,h4⟩:=tY (n:=0) (isS:=true) (cap:=0) (az _) nK mr qz rI h;obtain rfl:=aN h4;obtain rfl:u=0:=by omega
      obtain rfl:a=0:=by omega
      exact .same S (LC hu bS h3) (by simpa using aj.list kP.nil)
     | @emp ad cap=>
      obtain ⟨a,u,h1,h2,h3,h4⟩:=tY (n:=0) (isS:=true) (cap:=cap) (ma _) nK mr qz rI h;obtain rfl:=aN h4;obtain rfl:u=0:=by omega
      obtain rfl:a=0:=by omega
      refine .same S (v:= .slice (some ad) 0 cap) ?_ (by simpa using aj.list kP.emp);by_cases hc:cap=0
      ·subst hc;simp[Instr.sliceAt,Instr.slice,run_underlying hu,h3,sizeOf,typeInfo,bS]
      ·simp[Instr.sliceAt,Instr.slice,run_underlying hu,h3,sizeOf,typeInfo,bS,hc,Addr.add]
     | @list b o len cap _ g hl bR hI gJ hx=>
      obtain ⟨a,u,h1,h2,h3,h4⟩:=tY (isS:=true) (cap:=cap) (by omega) nK mr qz rI h;obtain rfl:=aN h4;rw[hl] at h2 h3;obtain ⟨o',sk,cR⟩:=Ri (b:=b) (o:=o) hu bS (by omega) h3;have jK:e=e':=gz;refine .same S cR (.list ?_);rw[←jK];rw[←jK] at gJ hx hI;have hlen:((es.drop a).take (u-a)).length=u-a:=by simp;omega
      refine .list (fun i j=>g (a+i) j) hlen (by omega) (fun j hj=> ?_) (fun i j hi hj=> ?_) (fun i j y t' hy ht=> ?_)
      ·have gK:0<u-a:=Nat.pos_of_ne_zero fun e=>by grind
       rw[sk (by omega),bd,wy];refine hI _ (oA (Nat.add_lt_add_left hj _) ?_);rw[←jh];exact eF _ (by omega)
      all_goals grind
   case whole e' id=>
    obtain ⟨l,h⟩:=run_get h;cases ae:hp id with
    | none=>rw[ae] at h;cases h
    | some blk=>
     rw[ae] at h;cases blk<;>simp only at h<;>first|(cases h;done)|skip
     rename_i dZ es fz;obtain ⟨hc,h9⟩:=aD h;clear h;simp only[aK,aM] at hc;obtain ⟨gz,gg,ao⟩:=hc;obtain ⟨i,z,bS,_,bd,_⟩:=lb ao;cases hv with
     | eb hd=>grind
     | dP hd=>grind
     | eh hd=>grind
     | fF hd=>grind
     | dX hd hb=>
      rw[ae] at hd;cases hd;obtain ⟨a,u,h1,h2,h3,h4⟩:=tY (n:=0) (isS:=true) (cap:=0) (az _) nK mr qz rI h9;obtain rfl:=aN h4;obtain rfl:u=0:=by omega
      obtain rfl:a=0:=by omega
      exact .same S (LC hu bS h3) (.jb ae hb)
     | @whole _ _ aL pe b cap hd hb Cu bR hm=>
      have fS:=hd;rw[ae] at hd;cases hd;obtain ⟨a,u,h1,h2,h3,h4⟩:=tY (isS:=true) (cap:=cap) bR nK mr qz rI h9;obtain rfl:=aN h4;obtain ⟨o',sk,cR⟩:=Ri (b:=b) (o:=0) hu bS (by omega) h3;have jK:e=e':=gz;exact .same S cR (.sub fS hb (by omega) (by omega) (fun h=>by grind))
   case sub e' id off len=>
    obtain ⟨l,h⟩:=run_get h;cases ae:hp id with
    | none=>rw[ae] at h;cases h
    | some blk=>
     rw[ae] at h;cases blk<;>simp only at h<;>first|(cases h;done)|skip
     rename_i dZ es fz;obtain ⟨hc,h⟩:=aD h;simp only[aK,aM] at hc;obtain ⟨gz,gg,ao⟩:=hc;obtain ⟨i,z,bS,_,bd,_⟩:=lb ao;cases hv with
     | jF hd=>grind
     | jb hd hb=>
      have fS:=hd;obtain ⟨a,u,h1,h2,h3,h4⟩:=tY (isS:=true) (cap:=0) (az _) nK mr qz rI h;obtain rfl:=aN h4;obtain rfl:u=0:=by omega
      obtain rfl:a=0:=by omega
      exact .same S (LC hu bS h3) (.jb fS hb)
     | @sub _ _ _ _ aL pe b o cap hd hb mK bR ho=>
      have fS:=hd;obtain ⟨a,u,h1,h2,h3,h4⟩:=tY (isS:=true) (cap:=cap) bR nK mr qz rI h;obtain rfl:=aN h4;obtain ⟨o',sk,cR⟩:=Ri (b:=b) (o:=o) hu bS (by omega) h3;have jK:e=e':=gz;exact .same S cR (.sub fS hb (by omega) (by omega) (fun h=>by grind))
  case array n e=>
   cases x<;>simp only at h<;>first|(cases h;done)|skip
   rename_i id j c;obtain ⟨l0,h⟩:=run_get h;cases ae:hp id with
   | none=>rw[ae] at h;cases h
   | some blk=>
    rw[ae] at h;cases blk<;>simp only at h<;>first|(cases h;done)|skip
    rename_i e' es fz;obtain ⟨hc,h9⟩:=aD h;clear h;simp only[aK,aM] at hc;obtain ⟨rfl,rfl,rfl,rfl,ao⟩:=hc;obtain ⟨i,z,bS,_,bd,_⟩:=lb ao;obtain ⟨a,u,h1,h2,h3,h4⟩:=tY (isS:=false) (cap:=es.length) (az _) nK mr qz rI h9;obtain rfl:=aN h4;obtain ⟨b,hb,rfl⟩:=hv.je ae (by simp);have cR:(Instr.sliceAt t (.pointer (some ⟨b,0*(ah.arr e es fz).sz P+0,none⟩)) lov hiv none).run P w= .ok (.slice (some ⟨b,if es.length=a then 0 else a*P.cellsOf e,none⟩) (u-a) (es.length-a)) w:=by
     rw[←bd];simp[Instr.sliceAt,run_underlying hu,h3,sizeOf,typeInfo,bS,Instr.sureAddr];split<;>simp[od]
    exact .same S cR (.sub ae hb (by omega) (by omega) (fun h=>by grind))
theorem ak3 (S:aC P w I β hp B M w0) {t:TypeId} {v:Value} {x:V} {lo hi mx:Option V} {lov hiv ZM:Option Value} {r:R} {rd:List Nat} (hv:aj P w I β hp v x)
  (nK:lo=none→lov=none) (mr: ∀y,hi=some y→∃u,hiv=some u∧aj P w I β hp u y) (sq: ∀y,mx=some y→∃u,ZM=some u∧aj P w I β hp u y)
  (h:(Pc P t x lo hi mx).run C hp=some (r,rd)):dq P ((Instr.sliceAt t v lov hiv ZM).run P w) w I β hp B M w0 r:=by
 unfold Pc at h;split at h
 ·rename_i e e' id _ hh _ m hu;obtain ⟨l,h⟩:=run_get h;cases ae:hp id with
  | none=>rw[ae] at h;cases h
  | some blk=>
   rw[ae] at h;cases blk<;>simp only at h<;>first|(cases h;done)|skip
   rename_i dZ es fz;obtain ⟨hc,h9⟩:=aD h;clear h;simp only[aK,aM,jQ] at hc;obtain ⟨rfl,rfl,ao,h0,h1,h2⟩:=hc;obtain rfl:=aN h9;obtain ⟨i,z,bS,_,_,_⟩:=lb ao;obtain ⟨u1,rfl,k1⟩:=mr _ rfl;obtain ⟨u2,rfl,k2⟩:=sq _ rfl;rw[k1.fU,k2.fU,nK rfl];have run: ∀{k k2:IntKind} (a:Option Addr) (len cap:Nat),m≤cap→(Instr.sliceAt t (.slice a len cap) none (some (.int k hh)) (some (.int k2 m))).run P w= .ok (.slice (if m.toNat=0 then a else a.map (·.add 0)) hh.toNat m.toNat) w:=by
    intro k k2 a len cap hm;obtain ⟨m,rfl⟩:=Jk (Int.le_trans h0 h1);obtain ⟨hh,rfl⟩:=Jk h0;have c1:m≤cap:=by omega
    have c2:hh≤m:=by omega
    cases a<;>simp[Instr.sliceAt,Instr.slice,Instr.sliceBounds,Instr.sliceBound,asIntOf,run_underlying hu,sizeOf,typeInfo,bS,c1,c2]
   cases hv with
   | eb hd=>grind
   | dP hd=>grind
   | eh hd=>grind
   | fF hd=>grind
   | dX hd hb=>
    rw[ae] at hd;cases hd;obtain rfl:m=0:=by simp at h2;omega
    obtain rfl:hh=0:=by omega
    exact .same S (run _ _ _ (by omega)) (.jb ae hb)
   | whole hd hb bd bR hm=>
    rw[ae] at hd;cases hd;refine .same S (run _ _ _ (by omega)) ?_;have e0: ∀b,(if m.toNat=0 then (some ⟨b,0,none⟩:Option Addr) else (some ⟨b,0,none⟩:Option Addr).map (·.add 0))=some ⟨b,0,none⟩:=by intro b;split<;>simp[od]
    rw[e0];exact .sub ae hb (by omega) (by omega) (fun _=>by simp)
 ·cases h
theorem ZN (S:aC P w I β hp B M w0) {t:TypeId} {v ix:Value} {x y:V} {r:R} {rd:List Nat} (hv:aj P w I β hp v x) (hy:aj P w I β hp ix y) (ku: ∀e es,x≠ .nl e es)
  (h:(yj P t x y).run C hp=some (r,rd)):dq P ((Instr.indexAt t v ix).run P w) w I β hp B M w0 r:=by
 unfold yj at h;cases hu:P.underlying t with
 | none=>rw[hu] at h;cases h
 | some d=>
  rw[hu] at h;cases y<;>(try (cases d<;>cases h;done))
  rename_i k i;rw[hy.fU];cases d<;>simp only at h<;>first|(cases h;done)|skip
  case slice e=>
   have run: ∀(b o len cap:Nat) (ie:TypeInfo),P.info? e=some ie→0≤i→i<(len:Int)→(Instr.indexAt t (.slice (some ⟨b,o,none⟩) len cap) (.int k i)).run P w= .ok (.pointer (some ⟨b,o+i.toNat*ie.size,none⟩)) w:=by
    intro b o len cap ie nH h0 h1;simp[Instr.indexAt,asIntOf,run_underlying hu,h0,h1,sizeOf,typeInfo,nH,od]
   cases x<;>simp only at h<;>first|(cases h;done)|skip
   case nl e' es=>exact absurd rfl (ku _ _)
   case list e' es=>
    obtain ⟨hc,h⟩:=aD h;simp only[aK,aM] at hc;obtain ⟨gz,ao⟩:=hc;have jK:e=e':=gz;obtain ⟨ie,z,bS,_,bd,_⟩:=lb ao;obtain ⟨el,fK,h⟩:=n9 h;obtain rfl:=aN h;unfold idx at fK;cases h0:decide (0≤i) with
    | false=>grind
    | true=>
     rw[h0] at fK;simp only[cond_true] at fK;have Q3:0≤i:=by grind
     have aR:i.toNat<es.length:=(cC.1 fK).1;cases hv with
     | list hp'=>
      cases hp' with
      | nil=>simp at aR
      | emp=>simp at aR
      | @list b o len cap _ g hl bR hI gJ hx=>
       rw[←jK] at gJ hx hI;refine .same S (run b o len cap ie bS Q3 (by omega)) ?_;have eH:=BC (P:=P) e el;have ZO:=fG ao;have ZP:(bif b8 P e then flat P e else [e])=aX P e:=rfl;rw[ZP];have ak4:ie.size=P.cellsOf e:=by omega
       refine .pref (by rw[eH]) (fun j hj=> ?_) (fun j t' y' ht PA=> ?_)
       ·rw[wy,ak4];exact hI _ (Pq (by omega) (by omega))
       ·obtain ⟨t2,a1,a2⟩:=PC PA;rw[ht] at a1;cases a1;have hj:j<P.cellsOf e:=by grind
        have gh:=hx i.toNat j el t' fK ht;refine ⟨g i.toNat j,?_,?_⟩
        ·grind
        ·rw[a2,gh.xb];exact gh
   case whole e' id=>
    obtain ⟨l,h⟩:=run_get h;cases ae:hp id with
    | none=>rw[ae] at h;cases h
    | some blk=>
     rw[ae] at h;cases blk<;>simp only at h<;>first|(cases h;done)|skip
     rename_i dZ es fz;obtain ⟨hc,h⟩:=aD h;simp only[aK,aM] at hc;obtain ⟨gz,gg⟩:=hc;obtain ⟨fW,h⟩:=aD h;simp only[aK,jQ] at fW;obtain rfl:=aN h;cases hv with
     | eb hd=>grind
     | dP hd=>grind
     | eh hd=>grind
     | fF hd=>grind
     | dX hd hb=>grind
     | @whole _ _ aL pe b cap hd hb Cu bR hm=>
      have fS:=hd;rw[ae] at hd;cases hd;have hr:=S.h.rel id _ ae;cases hr with
      | ez au=>grind
      | arr hL ao au hh hs hf fO hx=>
       have jK:e=e':=gz;obtain ⟨ie,z,bS,_,bd,_⟩:=lb ao;rw[←jK] at bS bd;refine .same S (run b 0 _ cap ie bS fW.1 fW.2) ?_;have:=aj.ptr (P:=P) (w:=w) (I:=I) (i:=i.toNat) (c:=0) fS (by simp) hb;simp only[ah.sz] at this;grind
     rename_i dZ es vers;obtain ⟨hc,h⟩:=aD h;simp only[aK,aM] at hc;obtain ⟨gz,gg⟩:=hc;obtain ⟨fW,h⟩:=aD h;simp only[aK,jQ] at fW;obtain rfl:=aN h;cases hv with
     | eb hd=>grind
     | dX hd hb=>grind
     | whole hd=>grind
     | eh hd hb=>grind
     | fF hd=>grind
     | @dP _ _ aL vers' b cap hd hb Cu bR hm=>
      have fS:=hd;rw[ae] at hd;cases hd;have ao:=(S.rows fS hb .here).ok;have jK:e=e':=gz;obtain ⟨ie,z,bS,_,bd,_⟩:=lb ao;rw[←jK] at bS bd;refine .same S (run b 0 _ cap ie bS fW.1 fW.2) ?_;have:=aj.ptr (P:=P) (w:=w) (I:=I) (i:=i.toNat) (c:=0) fS (by simp) hb;simp only[ah.sz] at this;grind
     rename_i dZ es vers j0;obtain ⟨hc,h⟩:=aD h;simp only[aK,aM] at hc;obtain ⟨gz,gg⟩:=hc;obtain ⟨fW,h⟩:=aD h;simp only[aK,jQ] at fW;obtain rfl:=aN h;cases hv with
     | eb hd=>grind
     | dX hd hb=>grind
     | whole hd=>grind
     | eh hd hb=>grind
     | dP hd=>grind
     | @fF _ _ j1 aL vers' b cap hd hb Cu bR hm=>
      have fS:=hd;rw[ae] at hd;cases hd;have jK:e=e':=gz;obtain ⟨ie,bS⟩: ∃ie,P.info? e=some ie:=by
       have hr:=S.h.rel id _ fS;cases hr with
       | out _ jo _ _ _ _ _ _ _ _=>rw[jK];exact w9 jo
      have bd:ie.size=P.cellsOf e:=by simp[Program.cellsOf,bS]
      refine .same S (run b 0 _ cap ie bS fW.1 fW.2) ?_;have:=aj.ptr (P:=P) (w:=w) (I:=I) (i:=i.toNat) (c:=0) fS (by simp) hb;simp only[ah.sz] at this;grind
   case row e' id ver path=>
    obtain ⟨e0,es,vers,l,ae,h1,h2,h3,h⟩:=rm h;obtain ⟨e2,v',k1,k2,h⟩:=Bu h;obtain ⟨hc,h⟩:=aD h;simp only[aK,aM] at hc;obtain ⟨gz,gg⟩:=hc;obtain ⟨fW,h⟩:=aD h;simp only[aK,jQ] at fW;obtain rfl:=aN h;cases hv with
    | mI hd hp'=>rw[ae] at hd;cases hd;exact absurd hp' (Bv h1 h2 h3)
    | @row v _ e0 t1 _ ver b i1 c1 q es l1 vers hd hb hq QX ht gJ=>
     have ak5:=gJ;obtain ⟨b',e3,aL,Ca,T,f,x,m1,m2,m3,m4,m5,m6⟩:=gJ;have By:=hd;rw[ae] at By;cases By;obtain ⟨n1,n2⟩:=J0 m1 m3 m4 ht m5;rw[n2] at k2;cases k2;simp only[V.toList] at fW;have hR:=S.rows hd hb m1;obtain ⟨C1,_,c2,_,c3,c4⟩:=hR.cells;rw[m2] at c2;cases c2;have hj:c1<P.cellsOf e3:=by
      rw[←fG hR.ok];grind
     obtain ⟨v2,d1,d2⟩:=c4 _ _ _ _ m3 m4 hj;rw[m6] at d1;cases d1;rw[m5] at d2;cases d2 with
     | gy a _=>unfold dY at a;grind
     | emp _=>grind
     | @row _ _ b1 cap _ hl _ _ _=>
      have ao:=(S.rows hd hb (m1.snoc m2 m3 m4 ht m5 hl m6)).ok;have jK:e=e':=gz;obtain ⟨ie,z,bS,_,bd,_⟩:=lb ao;rw[←jK] at bS bd;refine .same S (run b1 0 _ cap ie bS fW.1 fW.2) ?_;have:=aj.dI (P:=P) (I:=I) (i:=i.toNat) (c:=0) hd hb hq QX ht hl ak5;grind
   case sub e' id off len=>
    obtain ⟨l,h⟩:=run_get h;cases ae:hp id with
    | none=>rw[ae] at h;cases h
    | some blk=>
     rw[ae] at h;cases blk<;>simp only at h<;>first|(cases h;done)|skip
     rename_i dZ es fz;obtain ⟨hc,h⟩:=aD h;simp only[aK,aM] at hc;obtain ⟨gz,gg⟩:=hc;obtain ⟨fW,h⟩:=aD h;simp only[aK,jQ] at fW;obtain rfl:=aN h;cases hv with
     | jF hd=>grind
     | jb hd hb=>omega
     | @sub _ _ _ _ aL pe b o cap hd hb mK bR ho=>
      have fS:=hd;rw[ae] at hd;cases hd;have hr:=S.h.rel id _ ae;cases hr with
      | ez au=>grind
      | arr hL ao au hh hs hf fO hx=>
       have jK:e=e':=gz;obtain ⟨ie,z,bS,_,bd,_⟩:=lb ao;rw[←jK] at bS bd;refine .same S (run b o _ cap ie bS fW.1 fW.2) ?_;have:=aj.ptr (P:=P) (w:=w) (I:=I) (i:=off+i.toNat) (c:=0) fS (by simp) hb;simp only[ah.sz] at this;grind
  case array n e=>
   have run: ∀(b o:Nat) (ie:TypeInfo),P.info? e=some ie→0≤i→i<(n:Int)→(Instr.indexAt t (.pointer (some ⟨b,o,none⟩)) (.int k i)).run P w= .ok (.pointer (some ⟨b,o+i.toNat*ie.size,none⟩)) w:=by
    intro b o ie nH h0 h1;simp[Instr.indexAt,asIntOf,run_underlying hu,h0,h1,sizeOf,typeInfo,nH,od,Instr.sureAddr]
   cases x<;>simp only at h<;>first|(cases h;done)|skip
   case ptr id j c=>
    obtain ⟨fW,h⟩:=aD h;simp only[aK,jQ] at fW;obtain ⟨d,tX⟩:=BD fW.1;obtain ⟨ie,nH⟩:=w9 tX;have bd:ie.size=P.cellsOf e:=by simp[Program.cellsOf,nH]
    obtain ⟨l,h⟩:=run_get h;have fm: ∀blk,hp id=some blk→blk≠ .dead→dq P ((Instr.indexAt t v (.int k i)).run P w) w I β hp B M w0 ⟨.ptr id j (c+i.toNat*P.cellsOf e),[]⟩:=fun blk ae hd=>by
     obtain ⟨b,hb,rfl⟩:=hv.je ae hd;refine .same S (run b _ ie nH fW.2.1 fW.2.2) ?_;rw[bd,wy];exact .ptr ae hd hb
    have new: ∀blk,hp id=some blk→blk≠ .dead→blk.sz P=P.cellsOf e→j=0→c=0→dq P ((Instr.indexAt t v (.int k i)).run P w) w I β hp B M w0 ⟨.ptr id i.toNat 0,[]⟩:=fun blk ae hd hz hj hc=>by
     obtain ⟨b,hb,rfl⟩:=hv.je ae hd;refine .same S (run b _ ie nH fW.2.1 fW.2.2) ?_;have:=aj.ptr (P:=P) (w:=w) (I:=I) (i:=i.toNat) (c:=0) ae hd hb;grind
    cases ae:hp id with
    | none=>rw[ae] at h;cases h
    | some blk=>
     rw[ae] at h;cases blk with
     | var T cs=>obtain rfl:=aN h;grind
     | arr e' es fz=>
      cases he:Nat.beq e e' with
      | true=>
       simp only[he,cond_true] at h;rw[aM] at he;subst he;obtain ⟨hc,h⟩:=aD h;simp only[aK,aM] at hc;obtain rfl:=aN h;exact new _ ae (by simp) rfl hc.1 hc.2
      | false=>
       simp only[he,cond_false] at h;obtain rfl:=aN h;grind
     | nest e' es vs=>
      cases he:Nat.beq e e' with
      | true=>
       simp only[he,cond_true] at h;rw[aM] at he;subst he;obtain ⟨hc,h⟩:=aD h;simp only[aK,aM] at hc;obtain rfl:=aN h;exact new _ ae (by simp) rfl hc.1 hc.2
      | false=>
       simp only[he,cond_false] at h;obtain rfl:=aN h;grind
     | _=>cases h
   case pref ts cs=>
    obtain ⟨fW,h⟩:=aD h;simp only[aK,jQ] at fW;obtain rfl:=aN h;obtain ⟨b,o,rfl,h1,h2,h3⟩:=hv.EP;obtain ⟨d,tX⟩:=BD fW.1;obtain ⟨ie,nH⟩:=w9 tX;have bd:ie.size=P.cellsOf e:=by simp[Program.cellsOf,nH]
    refine .same S (run b _ ie nH fW.2.1 fW.2.2) ?_;rw[bd];exact aj.Xi h1 h2 h3
theorem ak6 (S:aC P w I β hp B M w0) {t:TypeId} {v ix:Value} {x y:V} {r:R} {rd:List Nat} (hv:aj P w I β hp v x) (hy:aj P w I β hp ix y)
  (h:(yj P t x y).run C hp=some (r,rd)):dq P ((Instr.indexAt t v ix).run P w) w I β hp B M w0 r:=by
 cases x with
 | nl e es=>
  cases hv with
  | nl q _=>
   have e1:yj P t (.nl e es) y=yj P t (.list e es) y:=by unfold yj;split<;>rfl
   rw[e1] at h;exact ZN S (x:= .list e es) (.list q) hy (fun _ _ h=>by cases h) h
 | _=>exact ZN S hv hy (fun _ _ h=>by cases h) h
end
end Go.AM
namespace Go.AM
open Go.Maps
section
variable {P:Program} {w w':World} {I I':Nat→Nat→Prop} {β β':Nat→Option Nat} {hp hp':Nat→Option ah} {C:af} {B:Nat} {M:Nat→Prop} {w0:Start}
theorem ak7 (S:aC P w I β hp B M w0) {nb:Nat} {t:TypeId} {v:Value} {x:V} {lo hi:Option V} {lov hiv:Option Value} {r:R} {rd:List Nat} (hv:aj P w I β hp v x)
  (mr: ∀x,hi=some x→∃v,hiv=some v∧aj P w I β hp v x) (qz:lo=none→lov=none)
  (h:(JK P nb t x lo hi).run C hp=some (r,rd)):dq P ((Instr.sliceAt t v lov hiv none).run P w) w I β hp B M w0 r:=by
 unfold JK at h;split at h
 case h_2=>cases h
 rename_i e e' id k hh hu;obtain ⟨l,h1⟩:=run_get h;cases ae:hp id with
 | none=>rw[ae] at h1;cases h1
 | some blk=>
  rw[ae] at h1;cases blk<;>simp only at h1<;>first|(cases h1;done)|skip
  rename_i e2 es fz;cases fz with
  | true=>cases h1
  | false=>
  obtain ⟨hc,h2⟩:=aD h1;simp only[aK,aM,jQ] at hc;obtain ⟨rfl,rfl,ao,hh0,hhn⟩:=hc;obtain ⟨hn,rfl⟩:=mR h2;have nK:=qz rfl;subst nK;obtain ⟨zh,rfl,hhv⟩:=mr _ rfl;obtain rfl:=hhv.fU;obtain ⟨i,z,bS,_,bd,_⟩:=lb ao;have bq:nb≠id:=fun e=>by grind
  obtain ⟨k1,k2⟩:=w7 S ae;have jf:an hp id (some ah.dead) nb=none:=by rw[cG _ _ bq];exact hn
  have yL: ∀cap,es.length≤cap→(Instr.sliceBounds true es.length cap none (some (.int k hh)) none).run P w= .ok (0,hh.toNat,cap) w:=by
   intro cap bR;have hb:(uR es.length none (some (.int k hh)) fun l u=> .aB (decide (l=0∧u=hh.toNat)) (.ret (⟨.undef,[]⟩:R))).run C hp=some (⟨.undef,[]⟩,[]):=by
    simp[uR,Rd.run,hh0,hhn]
   obtain ⟨l,u,b1,b2,b3,b4⟩:=tY (P:=P) (w:=w) (I:=I) (β:=β) (hp:=hp) (n:=es.length) (isS:=true) (cap:=cap) (lov:=none) (hiv:=some (.int k hh)) bR (by simp) (fun x hx=>by grind) (fun _=>rfl) (by simp) hb;obtain ⟨b5,_⟩:=aD b4;grind
  cases hv with
  | eb hd=>grind
  | dP hd=>grind
  | eh hd=>grind
  | fF hd=>grind
  | @dX _ _ _ a0 hd hb=>
   rw[ae] at hd;cases hd;have PK:hh=0:=by grind
   subst PK;have au:=yL 0 (az _);obtain ⟨a1,a2⟩:=EM k2 e jf;refine ⟨_,w,I,_,LC hu bS au,k1.trans a1,a2,.dX (bK _ _ _) (bK _ _ _)⟩
  | @whole _ _ aL pe b cap hd hb Cu bR hm=>
   have fS:=hd;rw[ae] at hd;cases hd;have hr:=S.h.rel id _ ae;cases hr with
   | ez au=>grind
   | @arr _ _ _ _ b' Ca hL _ au LD xx hf fO xy=>
    rw[hb] at au;cases au;have oc:(es.take hh.toNat).length=hh.toNat:=by grind
    have cR:(Instr.sliceAt t (.slice (some ⟨b,0,none⟩) es.length cap) none (some (.int k hh)) none).run P w= .ok (.slice (some ⟨b,0,none⟩) hh.toNat cap) w:=by
     have au:=yL cap bR;by_cases ZQ:cap=0
     ·subst ZQ;simp[Instr.sliceAt,Instr.slice,run_underlying hu,au,sizeOf,typeInfo,bS]
     ·simp[Instr.sliceAt,Instr.slice,run_underlying hu,au,sizeOf,typeInfo,bS,ZQ,od]
    have qk: ∀aq blk',an hp id (some ah.dead) aq=some blk'→¬bh P w (β aq) blk' b:=by
     intro aq blk' h1 h2;by_cases nG:aq=id
     ·subst nG;rw[bK] at h1;cases h1;exact h2.alive rfl
     ·rw[cG _ _ nG] at h1;exact nG (S.h.inj aq id blk' _ b h1 ae h2 (.root (by simp) hb))
    obtain ⟨a1,a2⟩:=Bz k2 (blk:= .arr e (es.take hh.toNat) false) (w':=w) jf qk (fun _ _=>rfl) (fun _ _ _=>rfl) (az _) ⟨rfl,rfl⟩ (S.h.wY id _ b ae (by simp) hb)
     (fun b' h=>(dU (h.flat (by simp))).symm) (fun hle=> .arr hL ao rfl LD (by rw[oc];exact lZ (eF _ (by omega)) xx) (fun h=>by cases h) (fun _=>fO rfl) fun i j y t' hy ht hj=>by
      grind)
    refine ⟨_,w,I,_,cR,k1.trans a1,a2,?_⟩;have:=aj.whole (P:=P) (w:=w) (I:=I) (β:=an β nb (some b)) (hp:=an (an hp id (some .dead)) nb (some (.arr e (es.take hh.toNat) false))) (cap:=cap) (bK _ _ _) (bK _ _ _) Cu (by omega) hm;rw[oc] at this;exact this
theorem sN {t:TypeId} {x:V} (h:rb P t x=true):
  (∃q n,P.underlying t=some (.int q)∧x= .int q n∧gI q n=true)∨(∃b,P.underlying t=some .bool∧x= .bool b)∨(∃s,P.underlying t=some .string∧x= .str s∧s.length≤maxLen):=by
 unfold rb at h;split at h
 all_goals simp_all
theorem size_data (s:ByteArray):s.data.toList.length=s.size:=by simp
theorem ak8 {q:IntKind} {n:Int} (h:gI q n=true):(Lit.int q n).wf=true:=h
theorem Rj {t:TypeId} {x:V} {v:Value} (h:rb P t x=true) (hv:kQ v x): ∃l,mapKey P t v=some l∧∀d,P.keyLits (d+1) t [v]=some [l]:=by
 rcases sN h with ⟨q,n,hu,rfl,hn⟩|⟨b,hu,rfl⟩|⟨s,hu,rfl,hs⟩
 ·obtain rfl:v= .int q n:=hv;have hw:=ak8 hn;exact ⟨.int q n,by simp[mapKey,hu,hw],fun d=>by simp[Program.keyLits,hu,hw]⟩
 ·obtain rfl:v= .bool b:=hv;exact ⟨.bool b,by simp[mapKey,hu],fun d=>by simp[Program.keyLits,hu]⟩
 ·obtain ⟨s',rfl,vG⟩:=hv;have:s'.size≤maxLen:=by rw[←size_data,vG];exact hs
  exact ⟨.string s'.data.toList,by simp[mapKey,hu,this],fun d=>by simp[Program.keyLits,hu,this]⟩
theorem Rk {t:TypeId}: ∀{xs:List V} {j:Nat} {x:V},uO P t xs=true→xs[j]? =some x→rb P t x=true
 | [],j,x,_,h=>by simp at h
 | y::ys,0,x,h,hx=>by
  simp only[uO,aK] at h;grind
 | y::ys,j+1,x,h,hx=>by
  simp only[uO,aK] at h;exact Rk (j:=j) h.2 (by grind)
theorem mapM_some {α β:Type} {f:α→Option β}: ∀{l:List α},(∀a∈l,∃b,f a=some b)→∃bs,l.mapM f=some bs
 | [],_=>⟨[],rfl⟩
 | a::l,h=>by
  obtain ⟨b,hb⟩:=h a (o5 ..);obtain ⟨bs,kq⟩:=mapM_some (l:=l) fun x hx=>h x (ju _ hx);simp_all
structure xz (P:Program) (t:TypeId) (fs:Array Field):Prop where
 hu:P.underlying t=some (.struct fs)
 size:P.cellsOf t=fs.size
 at_ : ∀ (i : Nat) f, fs[i]? = some f → f.offset = i ∧ P.cellsOf f.type = 1 ∧ (f.name != "_") = true ∧ P.plainKey f.type = true
 free:(!(P.cutTypes.any (·.2==t))&& !P.stoodInHeld t)=true
 runs:P.runs 0 fs.toList=some fs.size
theorem ZR: ∀{k:Nat} {l:List Field},JE P k l=true→(∀(i:Nat) f,l[i]? =some f→f.offset=k+i∧P.cellsOf f.type=1)∧P.runs k l=some (k+l.length)
 | k,[],_=>⟨fun i f h=>by simp at h,by simp[Program.runs]⟩
 | k,f::l,h=>by
  simp only[JE,aK,aM] at h;obtain ⟨a,b⟩:=ZR (l:=l) h.2;refine ⟨fun i g hg=> ?_,?_⟩
  ·grind
  ·simp only[Program.runs];grind
theorem ak9 {t:TypeId} {fs:Array Field} (hu:P.underlying t=some (.struct fs)) (h:O3 P t fs=true):xz P t fs:=by
 unfold O3 at h;rw[aK,aK,aK] at h;obtain ⟨⟨h1,h2⟩,h3,h4⟩:=h;rw[aM] at h1;obtain ⟨a,b⟩:=ZR h2;rw[dL,Array.length_toList] at b;refine ⟨hu,h1,fun i f hf=> ?_,h4,b⟩;obtain ⟨a1,a2⟩:=a i f (by grind);grind
theorem ala {t:TypeId} (hp:P.plainKey t=true) (m:Nat):P.keyTypeAt (m+1) t=true:=by
 unfold Program.plainKey at hp;unfold Program.keyTypeAt;grind
theorem alb {t:TypeId} (hp:P.plainKey t=true) (m:Nat):P.tiled (m+1) t=true:=by
 unfold Program.plainKey at hp;unfold Program.tiled;grind
theorem xz.at {t:TypeId} {fs:Array Field} (A:xz P t fs) (m:Nat):P.keyTypeAt (m+2) t=true:=by
 unfold Program.keyTypeAt;rw[A.hu];have hf:=A.free;rw[aK] at hf;simp only;rw[aK,aK];refine ⟨⟨Array.all_eq_true.2 fun i hi=> ?_,hf.1⟩,hf.2⟩;obtain ⟨_,_,h3,h4⟩:=A.at_ i fs[i] (lr hi);rw[aK];exact ⟨h3,ala h4 m⟩
theorem xz.tiled {t:TypeId} {fs:Array Field} (A:xz P t fs):P.tiled 2 t=true:=by
 unfold Program.tiled;rw[A.hu];simp only;rw[aK];refine ⟨by rw[A.runs,A.size];simp,Array.all_eq_true.2 fun i hi=> ?_⟩;exact alb (A.at_ i fs[i] (lr hi)).2.2.2 0
theorem xz.law {t:TypeId} {fs:Array Field} (A:xz P t fs):WideMaps.KeyLaw P t:=deep_law (m:=2) (by omega) (A.at 0) A.tiled (by rw[A.hu])
theorem LF: ∀{ts:List TypeId} {xs:List V},uP P ts xs=true→xs.length=ts.length∧∀(j:Nat) t x,ts[j]? =some t→xs[j]? =some x→rb P t x=true
 | [],[],_=>⟨rfl,fun j t x h=>by simp at h⟩
 | [],_::_,h=>by cases h
 | _::_,[],h=>by cases h
 | t::ts,x::xs,h=>by
  simp only[uP,aK] at h;obtain ⟨a,b⟩:=LF h.2;grind
inductive LG (P:Program) (t:TypeId) (x:V):Prop
 | one:rb P t x=true→x.cells=[x]→LG P t x
 | arr {n:Nat} {e:TypeId} {xs:List V}:x= .agg xs→WideMaps.ArrKey P t e n→xs.length=n→0<P.types.size→uO P e xs=true→LG P t x
 | str {fs:Array Field} {xs:List V}:x= .agg xs→xz P t fs→0<P.types.size→uP P (fs.toList.map (·.type)) xs=true→LG P t x
theorem zi {t:TypeId} {x:V} (h:rf P t x=true):LG P t x:=by
 unfold rf at h;split at h
 ·rename_i n e xs hu;simp only[aK,aM] at h;rw[mZ] at h;exact .arr rfl ⟨hu,h.2.2.2.1,h.2.1,h.2.2.1⟩ h.1 h.2.2.2.2.1 h.2.2.2.2.2
 ·rename_i fs xs hu;rw[aK,aK,mZ] at h;exact .str rfl (ak9 hu h.1) h.2.1 h.2.2
 ·refine .one h ?_;rcases sN h with ⟨q,n,hu,rfl,hn⟩|⟨b,hu,rfl⟩|⟨s,hu,rfl,hs⟩<;>rfl
theorem u5.one {x:V} {v:Value} (h:u5 v x) (hx:x.cells=[x]):kQ v x:=by
 cases x<;>first|exact h|skip
 simp only[V.cells] at hx;rename_i cs;have:=congrArg List.length hx;cases cs with
 | nil=>simp at hx
 | cons c cs=>
  simp only[yg] at hx;have:=congrArg SizeOf.sizeOf hx.1;grind
theorem alc {ts:List TypeId} {xs:List V} {cs:Array Value} (hf:uP P ts xs=true) (hs:cs.size=xs.length) (hc: ∀(j:Nat) (u:Value) (y:V),cs[j]? =some u→xs[j]? =some y→kQ u y) {i:Nat} {t:TypeId} (ht:ts[i]? =some t):
  ∃l,∀d,P.keyLits (d+1) t ((cs.toList.drop i).take 1)=some [l]:=by
 obtain ⟨a,b⟩:=LF hf;have hi:=(cC.1 ht).1;have jI:i<cs.size:=by omega
 have vE:i<xs.length:=by omega
 obtain ⟨l,_,h2⟩:=Rj (b i t xs[i] ht (b7 vE)) (hc i cs[i] xs[i] (lr jI) (b7 vE));refine ⟨l,fun d=> ?_⟩;have e1:(cs.toList.drop i).take 1=[cs[i]]:=by
  rw[List.drop_eq_getElem_cons (by omega)];simp
 grind
theorem LH {t:TypeId} {x:V} {v:Value} (h:rf P t x=true) (hv:u5 v x): ∃l,Go.keyOf P t v=some l:=by
 cases zi h with
 | one h1 hx=>
  obtain ⟨l,hl,_⟩:=Rj h1 (hv.one hx);refine ⟨l,?_⟩;rcases sN h1 with ⟨q,n,hu,_⟩|⟨b,hu,_⟩|⟨s,hu,_⟩<;>simp only[Go.keyOf,hu,hl]
 | @arr n e xs hx A hl hp0 hf=>
  subst hx;obtain ⟨cs,rfl,hs,hc⟩:=hv;obtain ⟨m,hm⟩: ∃m,P.types.size=m+1:=⟨P.types.size-1,by omega⟩
  have Rl:=A.keyType ⟨m,hm⟩;have hlen:cs.toList.length=P.cellsOf t:=by rw[A.size];grind
  have Gr:(Value.agg cs).formed P t=true:=by simp[Value.formed,A.hu,A.size,hs,hl]
  have hex: ∀i∈List.range n,∃y,P.keyLits (m+1) e (((Value.agg cs).cells.toList.drop (i*P.cellsOf e)).take (P.cellsOf e))=some y:=by
   intro i hi;have hi:=fQ.1 hi;rw[A.one];have jI:i<cs.size:=by omega
   have vE:i<xs.length:=by omega
   obtain ⟨l,_,h2⟩:=Rj (Rk hf (b7 vE)) (hc i cs[i] xs[i] (lr jI) (b7 vE));have e1:((Value.agg cs).cells.toList.drop (i*1)).take 1=[cs[i]]:=by
    show (cs.toList.drop (i*1)).take 1=_;rw[iC,List.drop_eq_getElem_cons (by omega)];simp
   simp_all
  obtain ⟨bs,kq⟩:=mapM_some hex;refine ⟨.string (keyBytes bs.flatten),?_⟩;have aze:(Value.agg cs).cells.toList.length=P.cellsOf t:=hlen;unfold Go.keyOf;rw[A.hu];simp only[Rl,Gr,Bool.and_self,o0];unfold Program.keyLits;rw[A.hu,hm];grind
 | @str fs xs hx A hp0 hf=>
  subst hx;obtain ⟨cs,rfl,hs,hc⟩:=hv;obtain ⟨m,hm⟩: ∃m,P.types.size=m+1:=⟨P.types.size-1,by omega⟩
  have Rl:P.keyType t=true:=by
   unfold Program.keyType;rw[hm];exact A.at m
  have qA:=(LF hf).1;rw[dH,Array.length_toList] at qA;have Gr:(Value.agg cs).formed P t=true:=by simp[Value.formed,A.hu,A.size,hs];exact qA
  have hlen:(Value.agg cs).cells.toList.length=P.cellsOf t:=by
   show cs.toList.length=_;rw[A.size];grind
  have qd : fs.all (·.name != "_") = true := Array.all_eq_true.2 fun i hi => (A.at_ i fs[i] (lr hi)).2.2.1;have hex: ∀f∈fs.toList,∃y,P.keyLits (m+1) f.type (((Value.agg cs).cells.toList.drop f.offset).take (P.cellsOf f.type))=some y:=by
   intro f Gr;obtain ⟨i,hi⟩:=tm Gr;obtain ⟨a1,a2,_,_⟩:=A.at_ i f (by grind);rw[a1,a2];obtain ⟨l,hl⟩:=alc hf hs hc (i:=i) (t:=f.type) (by grind);exact ⟨_,hl m⟩
  obtain ⟨bs,kq⟩:=mapM_some hex;refine ⟨.string (keyBytes bs.flatten),?_⟩;unfold Go.keyOf;rw[A.hu];simp only[Rl,Gr,Bool.and_self,o0];unfold Program.keyLits;rw[A.hu,hm];grind
theorem Rm {t:TypeId} {x:V} (h:rf P t x=true):Keyed P t:=by
 cases zi h with
 | one h1 hx=>
  rcases sN h1 with ⟨q,n,hu,_⟩|⟨b,hu,_⟩|⟨s,hu,_⟩
  ·exact int_keyed hu
  ·exact bool_keyed hu
  ·exact string_keyed hu
 | arr hx A hl _ hf=>exact Keyed.of_law A.law
 | str hx A _ hf=>exact Keyed.of_law A.law
theorem Rn {t:TypeId} {x y:V} {v u:Value} (h1:rb P t x=true) (h2:rb P t y=true) (hv:kQ v x) (hu:kQ u y):wO x y=true↔v=u:=by
 rcases sN h1 with ⟨q,n,jo,rfl,_⟩|⟨b,jo,rfl⟩|⟨s,jo,rfl,_⟩<;>
 rcases sN h2 with ⟨q',n',qB,rfl,_⟩|⟨b',qB,rfl⟩|⟨s',qB,rfl,_⟩<;>
  (rw[jo] at qB;cases qB)
 ·obtain rfl:v= .int q n:=hv;obtain rfl:u= .int q n':=hu;simp[wO]
 ·obtain rfl:v= .bool b:=hv;obtain rfl:u= .bool b':=hu;simp[wO]
 ·obtain ⟨s1,rfl,e1⟩:=hv;obtain ⟨s2,rfl,e2⟩:=hu;simp only[wO,beq_iff_eq,Value.string.injEq,←e1,←e2];constructor
  ·intro h;have:=Array.toList_inj.1 h;cases s1;simp_all
  grind
theorem ZS {t:TypeId}: ∀{xs ys:List V} {vs us:List Value},uO P t xs=true→uO P t ys=true→xs.length=ys.length→vs.length=xs.length→us.length=ys.length→
  (∀(j:Nat) v x,vs[j]? =some v→xs[j]? =some x→kQ v x)→(∀(j:Nat) v x,us[j]? =some v→ys[j]? =some x→kQ v x)→(qf xs ys=true↔vs=us)
 | [],[],vs,us,_,_,_,h1,h2,_,_=>by
  have e1:=oZ (l:=vs) (by omega);have e2:=oZ (l:=us) (by omega);simp[qf,e1,e2]
 | [],_::_,_,_,_,_,h,_,_,_,_=>by simp at h
 | _::_,[],_,_,_,_,h,_,_,_,_=>by simp at h
 | x::xs,y::ys,[],us,_,_,_,h,_,_,_=>by simp at h
 | x::xs,y::ys,v::vs,[],_,_,_,_,h,_,_=>by simp at h
 | x::xs,y::ys,v::vs,u::us,f1,f2,h,h1,h2,r1,r2=>by
  simp only[uO,aK] at f1 f2;have a:=Rn f1.1 f2.1 (r1 0 v x rfl rfl) (r2 0 u y rfl rfl);have b:=ZS (vs:=vs) (us:=us) f1.2 f2.2 (by grind) (by grind) (by grind) (fun j v x hj hx=>r1 (j+1) v x (by grind) (by grind)) (fun j v x hj hx=>r2 (j+1) v x (by grind) (by grind));simp only[qf,aK,a,b,yg]
theorem ZT: ∀{ts:List TypeId} {xs ys:List V} {vs us:List Value},uP P ts xs=true→uP P ts ys=true→vs.length=xs.length→us.length=ys.length→
  (∀(j:Nat) v x,vs[j]? =some v→xs[j]? =some x→kQ v x)→(∀(j:Nat) v x,us[j]? =some v→ys[j]? =some x→kQ v x)→(qf xs ys=true↔vs=us)
 | [],[],[],vs,us,_,_,h1,h2,_,_=>by
  have e1:=oZ (l:=vs) (by omega);have e2:=oZ (l:=us) (by omega);simp[qf,e1,e2]
 | [],_::_,_,_,_,h,_,_,_,_,_=>by cases h
 | [],[],_::_,_,_,_,h,_,_,_,_=>by cases h
 | _::_,[],_,_,_,h,_,_,_,_,_=>by cases h
 | _::_,_::_,[],_,_,_,h,_,_,_,_=>by cases h
 | t::ts,x::xs,y::ys,[],us,_,_,h,_,_,_=>by simp at h
 | t::ts,x::xs,y::ys,v::vs,[],_,_,_,h,_,_=>by simp at h
 | t::ts,x::xs,y::ys,v::vs,u::us,f1,f2,h1,h2,r1,r2=>by
  simp only[uP,aK] at f1 f2;have a:=Rn f1.1 f2.1 (r1 0 v x rfl rfl) (r2 0 u y rfl rfl);have b:=ZT (vs:=vs) (us:=us) f1.2 f2.2 (by grind) (by grind) (fun j v x hj hx=>r1 (j+1) v x (by grind) (by grind)) (fun j v x hj hx=>r2 (j+1) v x (by grind) (by grind));simp only[qf,aK,a,b,yg]
theorem Ro {t:TypeId} {x y:V} {v u:Value} (h1:rf P t x=true) (h2:rf P t y=true) (hv:u5 v x) (hu:u5 u y):jy x y=true↔v=u:=by
 unfold jy;cases zi h1 with
 | one f1 c1=>
  cases zi h2 with
  | one f2 c2=>
   rw[c1,c2];simp only[qf,Bool.and_true];exact Rn f1 f2 (hv.one c1) (hu.one c2)
  | arr hy A hl _ hf=>
   rcases sN f1 with ⟨q,n,jo,_⟩|⟨b,jo,_⟩|⟨s,jo,_⟩<;>(rw[A.hu] at jo;cases jo)
  | str hy A _ hf=>
   rcases sN f1 with ⟨q,n,jo,_⟩|⟨b,jo,_⟩|⟨s,jo,_⟩<;>(rw[A.hu] at jo;cases jo)
 | arr hx A hl _ hf=>
  cases zi h2 with
  | one f2 c2=>
   rcases sN f2 with ⟨q,n,jo,_⟩|⟨b,jo,_⟩|⟨s,jo,_⟩<;>(rw[A.hu] at jo;cases jo)
  | arr hy A2 Bc _ vH=>
   have jK:=A.hu.symm.trans A2.hu;cases jK;subst hx;subst hy;obtain ⟨cs,rfl,s1,r1⟩:=hv;obtain ⟨ds,rfl,s2,r2⟩:=hu;have:=ZS (vs:=cs.toList) (us:=ds.toList) hf vH (by omega) (by omega) (by omega) (fun j v x hj hx=>r1 j v x (by grind) hx) (fun j v x hj hx=>r2 j v x (by grind) hx);simp only[V.cells,this,Value.agg.injEq];simp_all
  | str hy A2 _ vH=>
   have jK:=A.hu.symm.trans A2.hu;cases jK
 | str hx A _ hf=>
  cases zi h2 with
  | one f2 c2=>
   rcases sN f2 with ⟨q,n,jo,_⟩|⟨b,jo,_⟩|⟨s,jo,_⟩<;>(rw[A.hu] at jo;cases jo)
  | arr hy A2 Bc _ vH=>
   have jK:=A.hu.symm.trans A2.hu;cases jK
  | str hy A2 _ vH=>
   have jK:=A.hu.symm.trans A2.hu;cases jK;subst hx;subst hy;obtain ⟨cs,rfl,s1,r1⟩:=hv;obtain ⟨ds,rfl,s2,r2⟩:=hu;have:=ZT (vs:=cs.toList) (us:=ds.toList) hf vH (by omega) (by omega) (fun j v x hj hx=>r1 j v x (by grind) hx) (fun j v x hj hx=>r2 j v x (by grind) hx);simp only[V.cells,this,Value.agg.injEq];simp_all
theorem ZU {k:V}: ∀{es:List V},(∀x∈es,jy k (x.comp 0)=false)→gQ k es=false∧(∀z,kK k es z=z)∧∀v,jz k v es=es++[.bf [k,v]]
 | [],_=>⟨rfl,fun _=>rfl,fun _=>rfl⟩
 | e::es,h=>by
  have h0:=h e (o5 ..);obtain ⟨a,b,c⟩:=ZU (k:=k) (es:=es) fun x hx=>h x (ju _ hx);exact ⟨by simp[gQ,h0,a],fun z=>by simp[kK,h0,b],fun v=>by simp[jz,h0,c]⟩
theorem ZV {k:V}: ∀{es:List V} {j:Nat} {k' y:V},es[j]? =some (.bf [k',y])→jy k k'=true→(∀i x,i<j→es[i]? =some x→jy k (x.comp 0)=false)→
  gQ k es=true∧(∀z,kK k es z=y)∧∀v,jz k v es=es.set j (.bf [k',v])
 | [],j,k',y,h,_,_=>by simp at h
 | e::es,0,k',y,h,he,_=>by
  simp at h;subst h;exact ⟨by simp[gQ,V.comp,V.nth,he],fun z=>by simp[kK,V.comp,V.nth,he],fun v=>by simp[jz,V.comp,V.nth,he]⟩
 | e::es,j+1,k',y,h,he,aR=>by
  have h0:=aR 0 e (by omega) rfl;obtain ⟨a,b,c⟩:=ZV (k:=k) (es:=es) (j:=j) (by simpa using h) he fun i x hi hx=>aR (i+1) x (by omega) (by grind);exact ⟨by simp[gQ,h0,a],fun z=>by simp[kK,h0,b],fun v=>by simp[jz,h0,c]⟩
theorem ZW {kt vt:TypeId} {E:Array MapEntry} {es:List V} {k:V} {kv:Value} (hs:E.size=es.length) (hx: ∀(j:Nat) (e:MapEntry) (x:V),E[j]? =some e→es[j]? =some x→JV P kt vt e x)
  (hn:E.toList.Pairwise (fun a b=>a.key≠b.key)) (hk:rf P kt k=true) (LI:u5 kv k) (w:World):
  ((Instr.findKey kt kv E.toList).run P w= .ok none w∧(∀e∈E.toList,e.key≠kv)∧gQ k es=false∧(∀z,kK k es z=z)∧∀v,jz k v es=es++[.bf [k,v]])∨
  ∃j e k' y,(Instr.findKey kt kv E.toList).run P w= .ok (some (j,e.val)) w∧E[j]? =some e∧e.key=kv∧es[j]? =some (.bf [k',y])∧rf P kt k'=true∧u5 kv k'∧fR P vt y=true∧kQ e.val y∧
   gQ k es=true∧(∀z,kK k es z=y)∧∀v,jz k v es=es.set j (.bf [k',v]):=by
 have K:=Rm hk;obtain ⟨l,hl⟩:=LH hk LI;have xd: ∀(j:Nat) x,es[j]? =some x→∃e,E[j]? =some e∧JV P kt vt e x:=by
  intro j x hj;have aR:j<E.size:=by grind
  exact ⟨E[j],lr aR,hx j _ x (lr aR) hj⟩
 have keys: ∀e∈E.toList,∃l,Go.keyOf P kt e.key=some l:=by
  intro e he;obtain ⟨j,hj⟩:=tm he;have fV:E[j]? =some e:=by grind
  have aR:j<es.length:=by grind
  obtain ⟨k',y,_,h1,h2,_⟩:=hx j e es[j] fV (b7 aR);exact LH h1 h2
 rcases K.find w hl E.toList keys with ⟨h1,h2⟩|⟨j,e,h1,h2,h3⟩
 ·left;refine ⟨h1,h2,ZU fun x Ly=> ?_⟩;obtain ⟨j,hj⟩:=tm Ly;obtain ⟨e,he,k',y,rfl,f1,f2,_⟩:=xd j x hj;cases hq:jy k (V.comp (.bf [k',y]) 0) with
  | false=>rfl
  | true=>
   have:=(Ro hk f1 LI f2).1 hq;grind
 ·right;have hE:E[j]? =some e:=by grind
  have aR:j<es.length:=by grind
  obtain ⟨k',y,hy,f1,f2,f3,f4⟩:=hx j e es[j] hE (b7 aR);have hj:=b7 aR;rw[hy] at hj;rw[h3] at f2;refine ⟨j,e,k',y,h1,hE,h3,hj,f1,f2,f3,f4,ZV hj ((Ro hk f1 LI f2).2 rfl) fun i x hi nq=> ?_⟩;obtain ⟨e',Cq,k2,y2,rfl,g1,g2,_⟩:=xd i x nq;cases hq:jy k (V.comp (.bf [k2,y2]) 0) with
  | false=>rfl
  | true=>
   have:=(Ro hk g1 LI g2).1 hq;have i1:i<E.toList.length:=by grind
   have i2:j<E.toList.length:=by simp;omega
   have:=List.pairwise_iff_getElem.1 hn i j i1 i2 hi;grind
theorem aj.Rp {v:Value} {x:V} (h:aj P w I β hp v x) {t:TypeId} (hx:rb P t x=true):kQ v x:=by
 rcases sN hx with ⟨q,n,_,rfl,_⟩|⟨b,_,rfl⟩|⟨s,_,rfl,_⟩
 ·exact h.fU
 ·exact h.nn
 ·exact h.oG
theorem aj.ZX {v:Value} {x:V} (h:aj P w I β hp v x) {t:TypeId} (hx:rf P t x=true):u5 v x:=by
 cases zi hx with
 | one f c=>
  have:=h.Rp f;cases x<;>first|exact this|cases this
 | arr hx A hl _ hf=>
  subst hx;obtain ⟨cs,rfl,h1,h2⟩:=h.np;exact ⟨cs,rfl,h1,fun j u y hu hy=>(h2 j u y hu hy).Rp (Rk hf hy)⟩
 | str hx A _ hf=>
  subst hx;obtain ⟨cs,rfl,h1,h2⟩:=h.np;obtain ⟨a,b⟩:=LF hf;refine ⟨cs,rfl,h1,fun j u y hu hy=> ?_⟩;have hj:=(cC.1 hy).1;exact (h2 j u y hu hy).Rp (b j _ y (b7 (by omega)) hy)
theorem ZY {vt:TypeId} {y:V} (h:mapVal P vt=true) (ht:fR P vt y=true):(∃q n,P.underlying vt=some (.int q)∧y= .int q n)∨∃b,P.underlying vt=some .bool∧y= .bool b:=by
 unfold mapVal at h;unfold fR at ht;grind
theorem kQ.Rq {vt:TypeId} {v:Value} {y:V} (h:mapVal P vt=true) (ht:fR P vt y=true) (hv:kQ v y):aj P w I β hp v y:=by
 rcases ZY h ht with ⟨q,n,_,rfl⟩|⟨b,_,rfl⟩
 ·obtain rfl:v= .int q n:=hv;exact .int
 ·obtain rfl:v= .bool b:=hv;exact .bool
theorem aj.ald {vt:TypeId} {v:Value} {y:V} (h:mapVal P vt=true) (ht:fR P vt y=true) (hv:aj P w I β hp v y):kQ v y:=by
 rcases ZY h ht with ⟨q,n,_,rfl⟩|⟨b,_,rfl⟩
 ·exact hv.fU
 ·exact hv.nn
theorem ale {vt:TypeId} {z:V} (h:JF P vt=some z) (w:World): ∃v,(zeroValue vt).run P w= .ok v w∧kQ v z:=by
 unfold JF at h;cases hi:P.info? vt with
 | none=>grind
 | some i=>
  rw[hi] at h;simp only[Option.bind_some] at h;cases hz:i.zero with
  | none=>grind
  | some v=>
   rw[hz] at h;refine ⟨v,by simp[zeroValue,typeInfo,hi,hz],?_⟩;cases v<;>simp only at h<;>first|(cases h;done)|skip
   ·cases h;rfl
   ·cases h;rfl
theorem Rr {t kt vt:TypeId} (h:pd P t=some (kt,vt)):P.underlying t=some (.map kt vt):=by
 unfold pd at h;grind
theorem Rs (S:aC P w I β hp B M w0) {ok:Bool} {v:Value} {x:V} {b:Bool} {r:R} {rd:List Nat} {res:Result Value} (hv:aj P w I β hp v x)
  (hr:res= .ok (if ok then .tuple #[v,.bool b] else v) w) (h:(JG ok x b).run C hp=some (r,rd)):dq P res w I β hp B M w0 r:=by
 unfold JG at h;obtain rfl:=aN h;cases ok with
 | false=>exact .same S hr hv
 | true=>
  refine .same S hr (.bf rfl fun j u y hu hy=> ?_)
  match j,hu,hy with
  | 0,hu,hy=>grind
  | 1,hu,hy=>simp at hu hy;subst hu;subst hy;exact .bool
  | j+2,hu,hy=>simp at hy
theorem alf (S:aC P w I β hp B M w0) {t kt vt:TypeId} (ht:pd P t=some (kt,vt)) {m k:Value} {mx kx:V} {ok:Bool} {r:R} {rd:List Nat} (hm:aj P w I β hp m mx) (hk:aj P w I β hp k kx)
  (h:(O4 P t mx kx ok).run C hp=some (r,rd)):dq P ((Instr.lookup t m k ok).run P w) w I β hp B M w0 r:=by
 unfold O4 at h;rw[ht] at h;simp only at h;cases hz:JF P vt with
 | none=>rw[hz] at h;cases h
 | some z=>
  rw[hz] at h;obtain ⟨hc,h'⟩:=aD h;clear h;have h:=h';clear h';simp only[aK] at hc;obtain ⟨tZ,Gs,LJ⟩:=hc;have hu:=Rr ht;have Cw:=hk.ZX tZ;have K:=Rm tZ;obtain ⟨l,hl⟩:=LH tZ Cw;obtain ⟨zv,ZZ,Z0⟩:=ale hz w;cases mx<;>simp only at h<;>first|(cases h;done)|skip
  ·rename_i t' id;obtain ⟨pJ,h'⟩:=aD h;clear h;have h:=h';clear h';rw[aM] at pJ;subst pJ;obtain ⟨l2,h'⟩:=run_get h;clear h;have h:=h';clear h';cases ae:hp id with
   | none=>rw[ae] at h;cases h
   | some blk=>
    rw[ae] at h;cases blk<;>simp only at h<;>first|(cases h;done)|skip
    rename_i t2 es;obtain ⟨pJ,h'⟩:=aD h;clear h;have h:=h';clear h';rw[aM] at pJ;subst pJ;cases hm with
    | lC hd=>grind
    | @cY _ _ b aL hd hb=>
     rw[ae] at hd;cases hd;have hr:=S.h.rel id _ ae;cases hr with
     | @map _ Z1 Z2 _ b' clock E lM au hh hs hI hx hn=>
      rw[hb] at au;cases au;rw[hu] at lM;cases lM;rcases ZW hs hx hn tZ Cw w with ⟨h1,_,h3,h4,_⟩|⟨j,e,k',y,h1,_,_,_,_,_,h6,h7,h3,h4,_⟩
      ·rw[h3,h4,ER LJ] at h;refine Rs S (kQ.Rq Gs LJ Z0) ?_ h;unfold Instr.lookup;simp only[Sem.run_bind,run_underlying hu,Result.andThen_ok,Go.MapKept.run_getObj_map hh,Sem.run_pure,K.check w E.isEmpty hl,h1,ZZ]
      ·rw[h3,h4,ER h6] at h;refine Rs S (kQ.Rq Gs h6 h7) ?_ h;unfold Instr.lookup;simp only[Sem.run_bind,run_underlying hu,Result.andThen_ok,Go.MapKept.run_getObj_map hh,Sem.run_pure,K.check w E.isEmpty hl,h1]
  ·rename_i t';obtain ⟨pJ,h⟩:=aD h;cases hm;rw[ER LJ] at h;refine Rs S (kQ.Rq Gs LJ Z0) ?_ h;have hf:(Instr.findKey kt k []).run P w= .ok none w:=by
    rcases K.find w hl [] (by simp) with ⟨h1,_⟩|⟨j,e,_,h2,_⟩
    all_goals grind
   unfold Instr.lookup;simp[run_underlying hu,K.check w true hl,hf,ZZ]
theorem alg (S:aC P w I β hp B M w0) {t:TypeId} {nb:Nat} {r:R} {rd:List Nat} (h:(Rd.aB (pd P t).isSome (jA nb (.map t []) (.cY t nb) [])).run C hp=some (r,rd)):
  dq P ((Instr.makeMap t none).run P w) w I β hp B M w0 r:=by
 obtain ⟨ht,h⟩:=aD h;obtain ⟨hn,rfl⟩:=mR h;obtain ⟨⟨kt,vt⟩,ht⟩:=A6.1 ht;have hu:=Rr ht;have dp: ∀j,¬I w.heap.size j:=fun j h=>na _ (S.h.jV _ j h);have dJ:(w.alloc (.map #[] 0)).heap[w.heap.size]? =some (.map #[] 0):=heap_alloc_new w _;obtain ⟨a1,a2⟩:=Bz S (w':=w.alloc (.map #[] 0)) (blk:= .map t []) (b:=w.heap.size) hn (fun aq blk' h ho=>na _ (S.h.lt h ho)) (fun j h=>absurd h (dp j))
  (fun b' _ aR=>heap_alloc_old w _ b' aR) (by simp) ⟨rfl,rfl⟩ (.inr S.size) (fun b' h=>(dU (h.flat (by simp))).symm)
  (fun _=> .map hu rfl dJ rfl dp (fun j e x he _=>by simp at he) (by simp))
 exact ⟨_,_,_,_,Go.RowKit.run_makeMap t w,a1,a2,.cY (bK _ _ _) (bK _ _ _)⟩
theorem Z3 (S:aC P w I β hp B M w0) {t kt vt:TypeId} (ht:pd P t=some (kt,vt)) {m k v:Value} {mx kx vx:V} {r:R} {rd:List Nat} (hm:aj P w I β hp m mx) (hk:aj P w I β hp k kx) (hv:aj P w I β hp v vx)
  (h:(JH P t mx kx vx).run C hp=some (r,rd)):rv P ((Instr.mapUpdate t m k v).run P w) w I β hp B M w0 r:=by
 unfold JH at h;rw[ht] at h;obtain ⟨hc,h'⟩:=aD h;clear h;have h:=h';clear h';simp only[aK] at hc;obtain ⟨tZ,Gs,zj⟩:=hc;have hu:=Rr ht;have Cw:=hk.ZX tZ;have ql:=aj.ald Gs zj hv;have K:=Rm tZ;obtain ⟨l,hl⟩:=LH tZ Cw;cases mx<;>simp only at h<;>first|(cases h;done)|skip
 rename_i t' id;obtain ⟨pJ,h'⟩:=aD h;clear h;have h:=h';clear h';rw[aM] at pJ;subst pJ;obtain ⟨l2,h'⟩:=run_get h;clear h;have h:=h';clear h';cases ae:hp id with
 | none=>rw[ae] at h;cases h
 | some blk=>
  rw[ae] at h;cases blk<;>simp only at h<;>first|(cases h;done)|skip
  rename_i t2 es;obtain ⟨pJ,h'⟩:=aD h;clear h;have h:=h';clear h';rw[aM] at pJ;subst pJ;obtain rfl:=aN h;cases hm with
  | lC hd=>grind
  | @cY _ _ b aL hd hb=>
   rw[ae] at hd;cases hd;have hr:=S.h.rel id _ ae;cases hr with
   | @map _ Z1 Z2 _ b' clock E lM au hh hs hI hx hn=>
    rw[hb] at au;cases au;rw[hu] at lM;cases lM;have aR:b<w.heap.size:=(wF.1 hh).1;have fin: ∀(E':Array MapEntry) (Gt:Nat),(Instr.mapUpdate t (.map (some b)) k v).run P w= .ok () {w with heap:=w.heap.setIfInBounds b (.map E' Gt)}→E'.size=(jz kx vx es).length→
      (∀(j:Nat) (e:MapEntry) (x:V),E'[j]? =some e→(jz kx vx es)[j]? =some x→JV P kt vt e x)→E'.toList.Pairwise (fun a b=>a.key≠b.key)→
      rv P ((Instr.mapUpdate t (.map (some b)) k v).run P w) w I β hp B M w0 ⟨.undef,[(id,.map t (jz kx vx es))]⟩:=by
     intro E' Gt cR vG dk Rt;have dJ:({w with heap:=w.heap.setIfInBounds b (.map E' Gt)}:World).heap[b]? =some (.map E' Gt):=by simp[aR]
     obtain ⟨a1,a2⟩:=BA S (w':={w with heap:=w.heap.setIfInBounds b (.map E' Gt)}) (blk':= .map t (jz kx vx es)) ae (by simp) rfl hb hI (by simp)
      (fun b' au=>by grind) (by simp only[bsize,dJ,hh]) (by simp) ⟨rfl,rfl⟩ (fun _=> .map hu rfl dJ vG hI dk Rt)
     exact ⟨_,I,β,cR,a1,a2,rfl⟩
    rcases ZW hs hx hn tZ Cw w with ⟨h1,h2,_,_,h5⟩|⟨j,e,k',y,h1,hE,hek,Zb,alh,ali,_,_,_,_,h5⟩
    ·have e5:=h5 vx;refine fin (E.push {key:=k,val:=v,born:=clock}) (clock+1) ?_ (by grind) (fun j e x he oI=> ?_) ?_
     ·unfold Instr.mapUpdate;simp only[Sem.run_bind,run_underlying hu,Result.andThen_ok,Go.MapKept.run_getObj_map hh,K.check w false hl,h1,Go.MapKept.run_setObj_map _ hh]
     ·rw[e5] at oI;rw[Array.getElem?_push] at he;split at he
      ·rename_i hj;rw[oC (by omega),hj,hs,Nat.sub_self] at oI;simp at he oI;subst he;subst oI;exact ⟨kx,vx,rfl,tZ,Cw,zj,ql⟩
      grind
     grind
    ·have e5:=h5 vx;have hj:j<E.size:=(wF.1 hE).1;refine fin (E.modify j fun e=>{e with key:=k,val:=v}) clock ?_ (by grind) (fun i e' x he nq=> ?_) ?_
     ·have cS:=K.stays w hl;unfold Instr.mapUpdate;simp only[Sem.run_bind,run_underlying hu,Result.andThen_ok,Go.MapKept.run_getObj_map hh,K.check w false hl,h1];simp only[hE,Option.map_some,Option.getD_some,hek,cS,Result.andThen_ok,Go.MapKept.run_setObj_map _ hh]
     ·rw[e5] at nq;rw[Jr] at he;rw[D9] at nq;split at he
      ·rename_i yI;subst yI;rw[aA rfl,da] at nq;rw[hE] at he;simp at he nq;subst he;subst nq;exact ⟨k',vx,rfl,alh,ali,zj,ql⟩
      grind
     ·have xA: ∀i (h1:i<(E.modify j fun e=>{e with key:=k,val:=v}).toList.length) (h2:i<E.toList.length),((E.modify j fun e=>{e with key:=k,val:=v}).toList[i]).key=(E.toList[i]).key:=by
       grind
      rw[List.pairwise_iff_getElem] at hn⊢;grind
theorem alj (S:aC P w I β hp B M w0) {t ty kt vt:TypeId} {v:Value} {x:V} {r:R} {rd:List Nat} (hu:P.underlying t=some (.map kt vt)) (hv:aj P w I β hp v x)
  (h:(JI x).run C hp=some (r,rd)):dq P ((Builtin.len_ #[t] ty #[v]).run P w) w I β hp B M w0 r:=by
 unfold JI at h;cases x<;>simp only at h<;>first|(cases h;done)|skip
 ·rename_i t' id;obtain ⟨l2,h'⟩:=run_get h;clear h;have h:=h';clear h';cases ae:hp id with
  | none=>rw[ae] at h;cases h
  | some blk=>
   rw[ae] at h;cases blk<;>simp only at h<;>first|(cases h;done)|skip
   rename_i t2 es;obtain rfl:=aN h;cases hv with
   | lC hd=>grind
   | @cY _ _ b aL hd hb=>
    rw[ae] at hd;cases hd;have hr:=S.h.rel id _ ae;cases hr with
    | @map _ Z1 Z2 _ b' clock E lM au hh hs hI hx hn=>
     rw[hb] at au;cases au;refine .same S (v:= .int .i64 E.size) (by simp[Builtin.len_,run_underlying hu,Go.MapKept.run_getObj_map hh,goInt]) ?_;rw[hs];exact .int
 ·obtain rfl:=aN h;cases hv;exact .same S (v:= .int .i64 0) (by simp[Builtin.len_,run_underlying hu,goInt]) .int
theorem aj.Ru {v:Value} {t:TypeId} (h:aj P w I β hp v (.fk t)):v= .map none:=by cases h;rfl
theorem aj.alk {v:Value} {t t':TypeId} {id:Nat} {es:List V} (h:aj P w I β hp v (.cY t id)) (ae:hp id=some (.map t' es)): ∃b,v= .map (some b):=by
 cases h with
 | lC h=>grind
 | cY h hb=>grind
theorem Z4 (S:aC P w I β hp B M w0) {op:BinOp} {t:TypeId} {a:Option Nat} {r:R} {rd:List Nat} (x y:Operand)
  (h:(JB P op t a.isNone).run C hp=some (r,rd)):dq P ((do eqGuard op t x y (.map a) (.map none);binOp op t (.map a) (.map none)).run P w) w I β hp B M w0 r:=by
 unfold JB at h;split at h
 case h_2=>cases h
 rename_i kt vt hu;have he:(Op.equal t (.map a) (.map none)).run P w= .ok a.isNone w:=by
  show (Op.equalIn (9999+1) t (.map a) (.map none)).run P w=_;rw[Op.equalIn];cases a<;>simp[Sem.run_bind,run_underlying hu,Result.andThen_ok,Sem.run_pure]
 cases op<;>simp only at h<;>first|(cases h;done)|skip
 ·obtain rfl:=aN h;exact .same S (by simp[eqGuard,binOp,he]) .bool
 ·obtain rfl:=aN h;exact .same S (by simp[eqGuard,binOp,he]) .bool
end
end Go.AM
