/-
  Functions of the program, lifted to plain data.
-/
import Derived.Great.BuildSlice
import Derived.Maps.Keyed
import Derived.WideKeyArr
import Derived.MapKept
import Derived.ChangeMaps4
import Derived.Carry
import Derived.Test.YtaijibbmmbhniaaGreatDoorP1
noncomputable section
set_option linter.unusedVariables false
set_option linter.unusedSimpArgs false
set_option linter.unusedSectionVars false
namespace Go.AM
section
variable {P:Program} {w w':World} {I I':Nat→Nat→Prop} {β β':Nat→Option Nat} {hp hp':Nat→Option af} {C:ae} {B:Nat} {M:Nat→Prop} {w0:Start}
theorem pe.xj {t:TypeId} {v:Value} {x:V} (h:pe P w I t v x):ik P t x=x:=by
 cases h with
 | gr _ p=>exact p.xj
 | emp hu=>exact rf hu
 | row hu _ _ _ _=>exact rf hu
theorem BN {new:List V} {e ea:TypeId} {i c:Nat} {q:Path} {es dD:List V} {x:V} (hx:es[i]? =some x) (hp:(parts P e x)[c]? =some (.list ea dD)):
  setRow P new e es ((i,c)::q)=es.set i (dP P e ((parts P e x).set c (.list ea (setRow P new ea dD q)))):=by
 simp only[setRow,hx,hp]
theorem E3 {b:Nat} {e t:TypeId} {es:List V} {i c:Nat} {x y:V} (hR:iB P w I b e es) (hx:es[i]? =some x) (ht:(bc P e)[c]? =some t):
  ∀{i' c':Nat} {x':V} {t':TypeId},(es.set i (dP P e ((parts P e x).set c y)))[i']? =some x'→(bc P e)[c']? =some t'→
   ∃x0,es[i']? =some x0∧cu P e x' c'=if i'=i∧c'=c then y else cu P e x0 c':=by
 intro i' c' x' t' dy fZ;have pj:i<es.length:=(cO.1 hx).1;have za:c<(bc P e).length:=(cO.1 ht).1;have Lh:c'<(bc P e).length:=(cO.1 fZ).1;by_cases hi:i'=i
 ·subst hi;rw[yD pj] at dy;cases dy;refine ⟨x,hx,?_⟩;by_cases hc:c'=c
  ·subst hc;rw[ah ⟨rfl,rfl⟩];exact vr (yD (by rw[BL];exact za)) fZ
  ·rw[ag (fun h=>hc h.2)];have h1:((parts P e x).set c y)[c']? =some (ik P t' (cu P e x c')):=by
    rw[D3 (fun h=>hc h.symm)];exact rb fZ
   rw[vr h1 fZ];obtain ⟨Ca,_,_,_,_,vu⟩:=hR.cells;obtain ⟨v,_,ho⟩:=vu i' c' x t' hx fZ (by rw[←fK hR.ok];exact Lh);exact ho.xj
 ·rw[D3 (fun h=>hi h.symm)] at dy;exact ⟨x',dy,by rw[ag (fun h=>hi h.1)]⟩
theorem QQ {b b1:Nat} {e e1:TypeId} {es l l':List V} {p:Path} (h:At P w b e es p b1 e1 l) (hl:l'.length=l.length):(setRow P l' e es p).length=es.length:=by
 cases h with
 | here=>exact hl
 | step h1 h2 h3 h4 h5 h6 h7 h8=>
  rw[BN h2 (by rw[rb h3,h5,rf h4])];simp
theorem At.ajX {b b1:Nat} {e e1:TypeId} {es l l':List V} {p:Path} (QR:At P w b e es p b1 e1 l) (hw: ∀k,k≠b1→w'.heap[k]? =w.heap[k]?) (hl:l'.length=l.length):
  (∀q b' e' m,At P w b e es q b' e' m→iB P w I b' e' m)→(∀q e' m,At P w b e es q b1 e' m→q=p)→
  ∀q b' e' m,At P w' b e (setRow P l' e es p) q b' e' m→
   (∃r m0,p=q++r∧At P w b e es q b' e' m0∧m=setRow P l' e' m0 r)∨
   (∃r,r≠[]∧q=p++r∧At P w' b1 e1 l' r b' e' m)∨
   (At P w b e es q b' e' m∧b'≠b1∧¬q <+: p∧¬p <+: q):=by
 induction QR with
 | here=>
  intro dm m7 q b' e' m h;cases q with
  | nil=>cases h with|here=>exact .inl ⟨[],_,rfl,.here,rfl⟩
  | cons a q=>exact .inr (.inl ⟨a::q,by simp,rfl,h⟩)
 | @step b i c b2 len cap b1 e t ea e1 es dD l p Ca T f x h1 h2 h3 h4 h5 h6 h7 h8 ih=>
  intro dm m7 q b' e' m h;have oH:(parts P e x)[c]? =some (.list ea dD):=by rw[rb h3,h5,rf h4]
  rw[BN h2 oH] at h;have hR:=dm _ _ _ _ .here;have hb:b≠b1:=by
   intro hb;subst hb;have:=m7 [] _ _ .here;cases this
  have QS:=ih hw hl (fun q b' e' m h=>dm _ _ _ _ (.step h1 h2 h3 h4 h5 h6 h7 h)) (fun q e' m h=>by
   have:=m7 _ _ _ (.step h1 h2 h3 h4 h5 h6 h7 h);exact (wL this).2)
  cases h with
  | here=>exact .inl ⟨_,es,rfl,.here,(BN h2 oH).symm⟩
  | @step _ i' c' b3 ajY QT _ _ t' e3 _ _ iX _ q y9 T' f' x' k1 k2 k3 k4 k5 k6 k7 k8=>
   rw[hw b hb] at k1;obtain ⟨x0,y1,y2⟩:=E3 hR h2 h3 k2 k3;by_cases js:i'=i∧c'=c
   ·rw[ah js] at y2;obtain ⟨rfl,rfl⟩:=js;rw[h1] at k1;cases k1;rw[h7] at k7;cases k7;rw[k5] at y2;cases y2;rcases QS _ _ _ _ k8 with ⟨r,m0,z1,z2,z3⟩|⟨r,z1,z2,z3⟩|⟨z1,z2,z3,z4⟩
    ·exact .inl ⟨r,m0,by rw[z1];rfl,.step h1 h2 h3 h4 h5 h6 h7 z2,z3⟩
    ·exact .inr (.inl ⟨r,z1,by rw[z2];rfl,z3⟩)
    ·refine .inr (.inr ⟨.step h1 h2 h3 h4 h5 h6 h7 z1,z2,fun hh=>z3 ?_,fun hh=>z4 ?_⟩)
     ·exact (wM.1 hh).2
     ·exact (wM.1 hh).2
   ·rw[ag js,k5] at y2;have cm: ∀q2 b5 e5 kb,At P w b3 e3 iX q2 b5 e5 kb→b5≠b1:=by
     intro q2 b5 e5 kb hq zg;subst zg;have:=m7 _ _ _ (.step k1 y1 k3 k4 y2.symm k6 k7 hq);injection this with h1 h2;injection h1 with h1 h3;exact js ⟨h1,h3⟩
    have lf:=k8.xd (w:=w) fun q2 b5 e5 kb hq=>hw b5 (cm q2 b5 e5 kb hq);refine .inr (.inr ⟨.step k1 y1 k3 k4 y2.symm k6 k7 lf,cm _ _ _ _ lf,fun hh=> ?_,fun hh=> ?_⟩)
    ·have:=(wM.1 hh).1;injection this with h1 h3;exact js ⟨h1,h3⟩
    ·have:=(wM.1 hh).1;injection this with h1 h3;exact js ⟨h1.symm,h3.symm⟩
theorem At.xl {b b1:Nat} {e e1:TypeId} {es l l':List V} {p:Path} (QR:At P w b e es p b1 e1 l) (hw: ∀k,k≠b1→w'.heap[k]? =w.heap[k]?) (hl:l'.length=l.length):
  (∀q b' e' m,At P w b e es q b' e' m→iB P w I b' e' m)→(∀q e' m,At P w b e es q b1 e' m→q=p)→
  ∀q b' e' m,At P w b e es q b' e' m→
   (∃r,p=q++r∧At P w' b e (setRow P l' e es p) q b' e' (setRow P l' e' m r)∧∃e1' m1,At P w b' e' m r b1 e1' m1∧m1=l)∨
   (∃r,r≠[]∧q=p++r∧At P w b1 e1 l r b' e' m∧(∀b2 e2 m2,At P w' b1 e1 l' r b2 e2 m2→At P w' b e (setRow P l' e es p) q b2 e2 m2))∨
   (At P w' b e (setRow P l' e es p) q b' e' m∧b'≠b1∧¬q <+: p∧¬p <+: q):=by
 induction QR with
 | here=>
  intro dm m7 q b' e' m h;cases q with
  | nil=>cases h with|here=>exact .inl ⟨[],rfl,.here,_,_,.here,rfl⟩
  | cons a q=>exact .inr (.inl ⟨a::q,by simp,rfl,h,fun _ _ _ h=>h⟩)
 | @step b i c b2 len cap b1 e t ea e1 es dD l p Ca T f x h1 h2 h3 h4 h5 h6 h7 h8 ih=>
  intro dm m7 q b' e' m h;have oH:(parts P e x)[c]? =some (.list ea dD):=by rw[rb h3,h5,rf h4]
  have sk:=BN (new:=l') (q:=p) h2 oH;have hR:=dm _ _ _ _ .here;have pj:i<es.length:=(cO.1 h2).1;have hb:b≠b1:=by
   intro hb;subst hb;have:=m7 [] _ _ .here;cases this
  have QS:=ih hw hl (fun q b' e' m h=>dm _ _ _ _ (.step h1 h2 h3 h4 h5 h6 h7 h)) (fun q e' m h=>by
   have:=m7 _ _ _ (.step h1 h2 h3 h4 h5 h6 h7 h);exact (wL this).2)
  have tJ:=(hw b hb).trans h1;have vw:(es.set i (dP P e ((parts P e x).set c (.list ea (setRow P l' ea dD p)))))[i]? =some (dP P e ((parts P e x).set c (.list ea (setRow P l' ea dD p)))):=yD pj;have QU:cu P e (dP P e ((parts P e x).set c (.list ea (setRow P l' ea dD p)))) c= .list ea (setRow P l' ea dD p):=by
   obtain ⟨x0,y1,y2⟩:=E3 hR h2 h3 vw h3;rw[ah ⟨rfl,rfl⟩] at y2;exact y2
  cases h with
  | here=>
   exact .inl ⟨(i,c)::p,rfl,.here,_,_,.step h1 h2 h3 h4 h5 h6 h7 h8,rfl⟩
  | @step _ i' c' b3 ajY QT _ _ t' e3 _ _ iX _ q y9 T' f' x' k1 k2 k3 k4 k5 k6 k7 k8=>
   rw[sk];by_cases js:i'=i∧c'=c
   ·obtain ⟨rfl,rfl⟩:=js;rw[h1] at k1;cases k1;rw[h7] at k7;cases k7;rw[h3] at k3;cases k3;rw[h4] at k4;cases k4;rw[h2] at k2;cases k2;rw[h5] at k5;cases k5;rcases QS _ _ _ _ k8 with ⟨r,z1,z2,z3⟩|⟨r,z1,z2,z3,z4⟩|⟨z1,z2,z3,z4⟩
    ·exact .inl ⟨r,by rw[z1];rfl,.step tJ vw h3 h4 QU h6 h7 z2,z3⟩
    ·exact .inr (.inl ⟨r,z1,by rw[z2];rfl,z3,fun b2 e2 m2 hh=> .step tJ vw h3 h4 QU h6 h7 (z4 b2 e2 m2 hh)⟩)
    ·refine .inr (.inr ⟨.step tJ vw h3 h4 QU h6 h7 z1,z2,fun hh=>z3 ?_,fun hh=>z4 ?_⟩)
     ·exact (wM.1 hh).2
     ·exact (wM.1 hh).2
   ·have cm: ∀q2 b5 e5 kb,At P w b3 e3 iX q2 b5 e5 kb→b5≠b1:=by
     intro q2 b5 e5 kb hq zg;subst zg;have:=m7 _ _ _ (.step k1 k2 k3 k4 k5 k6 k7 hq);injection this with h1 h2;injection h1 with h1 h3;exact js ⟨h1,h3⟩
    have lf:=k8.mono (w':=w') fun q2 b5 e5 kb hq=>hw b5 (cm q2 b5 e5 kb hq);have QV: ∃x2,(es.set i (dP P e ((parts P e x).set c (.list ea (setRow P l' ea dD p)))))[i']? =some x2:=by
     have:i'<es.length:=(cO.1 k2).1;exact ⟨_,cp (by rw[wO];exact this)⟩
    obtain ⟨x2,m8⟩:=QV;obtain ⟨x0,y1,y2⟩:=E3 hR h2 h3 m8 k3;rw[ag js] at y2;rw[k2] at y1;cases y1;rw[k5] at y2;refine .inr (.inr ⟨.step ((hw b hb).trans k1) m8 k3 k4 y2 k6 k7 lf,cm _ _ _ _ k8,fun hh=> ?_,fun hh=> ?_⟩)
    ·have:=(wM.1 hh).1;injection this with h1 h3;exact js ⟨h1,h3⟩
    ·have:=(wM.1 hh).1;injection this with h1 h3;exact js ⟨h1.symm,h3.symm⟩
theorem At.fun {b b1:Nat} {e e1:TypeId} {es l:List V} {q:Path} (h:At P w b e es q b1 e1 l): ∀{b2 e2 l2},At P w b e es q b2 e2 l2→b2=b1∧e2=e1∧l2=l:=by
 induction h with
 | here=>intro b2 e2 l2 h2;cases h2;exact ⟨rfl,rfl,rfl⟩
 | step h1 h2 h3 h4 h5 h6 h7 h8 ih=>
  intro b2 e2 l2 k;cases k with
  | step k1 k2 k3 k4 k5 k6 k7 k8=>
   rw[h1] at k1;cases k1;rw[h7] at k7;cases k7;rw[h2] at k2;cases k2;rw[h5] at k5;cases k5;exact ih k8
theorem At.split: ∀{q r:Path} {b b1:Nat} {e e1:TypeId} {es l:List V},At P w b e es (q++r) b1 e1 l→∃b' e' m,At P w b e es q b' e' m∧At P w b' e' m r b1 e1 l
 | [],r,b,b1,e,e1,es,l,h=>⟨_,_,_,.here,h⟩
 | a::q,r,b,b1,e,e1,es,l,h=>by
  cases h with
  | step h1 h2 h3 h4 h5 h6 h7 h8=>
   obtain ⟨b',e',m,k1,k2⟩:=At.split h8;exact ⟨b',e',m,.step h1 h2 h3 h4 h5 h6 h7 k1,k2⟩
theorem iB.cZ {b:Nat} {e:TypeId} {es:List V} (h:iB P w I b e es) (hw:w'.heap[b]? =w.heap[b]?) (hI: ∀k j,I k j→w'.cell? ⟨k,j,none⟩=w.cell? ⟨k,j,none⟩) (iq: ∀k,bsize w' k=bsize w k):iB P w' I b e es:=by
 obtain ⟨ok,⟨Ca,T,c1,c0,c2,c3⟩,nI⟩:=h;refine ⟨ok,⟨Ca,T,hw.trans c1,c0,c2,fun i j x t' k1 k2 k3=> ?_⟩,nI⟩;obtain ⟨v,m1,m2⟩:=c3 i j x t' k1 k2 k3;exact ⟨v,m1,m2.mono (fun _ _ h=>h) hI fun b' _ _ _ _=>iq b'⟩
theorem iB.above {b b1 b2 i c len cap:Nat} {e e1 t ea:TypeId} {es dD l l':List V} {r:Path} {Ca:Array Value} {T:TypeId} {f:Nat×Nat} {x:V} (hR:iB P w I b e es)
  (h1:w.heap[b]? =some (.cells Ca T f)) (h2:es[i]? =some x) (h3:(bc P e)[c]? =some t) (h4:P.underlying t=some (.slice ea)) (h5:cu P e x c= .list ea dD) (h6:0<cap)
  (h7:Ca[i*P.cellsOf e+c]? =some (.slice (some ⟨b2,0,none⟩) len cap)) (h8:At P w b2 ea dD r b1 e1 l) (hl:l'.length=l.length)
  (hw:w'.heap[b]? =w.heap[b]?) (hI: ∀k j,I k j→w'.cell? ⟨k,j,none⟩=w.cell? ⟨k,j,none⟩) (iq: ∀k,bsize w' k=bsize w k):iB P w' I b e (setRow P l' e es ((i,c)::r)):=by
 have oH:(parts P e x)[c]? =some (.list ea dD):=by rw[rb h3,h5,rf h4]
 rw[BN h2 oH];have hR0:=hR;obtain ⟨ok,⟨y9,_,c1,c0,c2,c3⟩,nI⟩:=hR;rw[h1] at c1;cases c1;refine ⟨ok,⟨Ca,_,hw.trans h1,c0,by simpa using c2,fun i' j x' t' k1 k2 k3=> ?_⟩,nI⟩;obtain ⟨x0,y1,y2⟩:=E3 hR0 h2 h3 k1 k2;obtain ⟨v,m1,m2⟩:=c3 i' j x0 t' y1 k2 k3;refine ⟨v,m1,?_⟩;have m3:pe P w' I t' v (cu P e x0 j):=m2.mono (fun _ _ h=>h) hI fun b' _ _ _ _=>iq b';rw[y2];by_cases js:i'=i∧j=c
 ·rw[ah js];obtain ⟨rfl,rfl⟩:=js;rw[h2] at y1;cases y1;rw[h3] at k2;cases k2;rw[h5] at m3;have hlen:=QQ (l':=l') h8 hl;rw[h7] at m1;cases m1;generalize hy:V.list ea dD=y at m3;cases m3 with
  | gr a p=>unfold ey at a;rw[h4] at a;cases a
  | emp a=>exact absurd h6 (nE _)
  | row a b c d e=>
   cases hy;rw[←hlen];exact .row a b c (by omega) e
 ·rw[ag js];exact m3
theorem ajZ (S:aB P w I β hp B M w0) {id b b1 i c:Nat} {e0 e1:TypeId} {es l l':List V} {vers vers':List Nat} {path:Path} (K:Path→Nat→TypeId→List V→Prop)
  (ab:hp id=some (.nest e0 es vers)) (hb:β id=some b) (ha:At P w b e0 es path b1 e1 l) (hl:l'.length=l.length)
  (hw: ∀k,k≠b1→w'.heap[k]? =w.heap[k]?) (iq: ∀k,bsize w' k=bsize w k) (bw:w'.heap.size=w.heap.size) (mX:w'.os=w.os∧w'.output=w.output)
  (aj0:iB P w' I b1 e1 l')
  (ZF: ∀a r b' e' m,At P w' b1 e1 l' (a::r) b' e' m→b'≠b1∧(At P w b1 e1 l (a::r) b' e' m∨(a=(i,c)∧K r b' e' m)))
  (hK: ∀r b' e' m,K r b' e' m→iB P w I b' e' m∧(M b'∨B≤b')∧(∀bD cL,hp bD=some cL→¬bB P w (β bD) cL b'))
  (tN: ∀r1 r2 b' e1 m1 e2 m2,K r1 b' e1 m1→K r2 b' e2 m2→r1=r2)
  (y4:vers'.length=vers.length) (EL: ∀k,bM vers k≤bM vers' k)
  (xm: ∀(r:Path) i' c' t' v ea l0,(path++r).length<vers.length→bM vers' (path++r).length=bM vers (path++r).length→P.underlying t'=some (.slice ea)→qf P w b1 e1 l r i' c' t' v (.list ea l0)→
   ∃BO,BO.length=l0.length∧qf P w' b1 e1 l' r i' c' t' v (.list ea BO)):
  Le P w I β hp w' I β (av hp id (some (.nest e0 (setRow P l' e0 es path) vers')))∧aB P w' I β (av hp id (some (.nest e0 (setRow P l' e0 es path) vers'))) B M w0:=by
 have hr:=S.h.rel id _ ab;rw[hb] at hr;cases hr with
 | iM aA=>cases aA
 | nest aA dm lM=>
 cases aA;have m7: ∀q e' m,At P w b e0 es q b1 e' m→q=path:=fun q e' m h=>lM _ _ _ _ _ _ _ h ha;have dI: ∀j,¬I b1 j:=(dm _ _ _ _ ha).nI;have xn: ∀k j,I k j→w'.cell? ⟨k,j,none⟩=w.cell? ⟨k,j,none⟩:=fun k j hk=>World.cell?_of_block (hw k (fun e=>dI j (e▸hk)));have ZG:bB P w (β id) (.nest e0 es vers) b1:= .row hb ha;have same: ∀{ax cL b'},ax≠id→hp ax=some cL→bB P w (β ax) cL b'→w'.heap[b']? =w.heap[b']? :=
  fun hi h ho=>hw _ fun e=>hi (S.h.inj _ _ _ _ b1 h ab (e▸ho) ZG)
 have BP:(setRow P l' e0 es path).length=es.length:=QQ ha hl;have xl:=At.ajX (I:=I) (w':=w') (l':=l') ha hw hl dm m7;have QW: ∀q b' e' m,At P w' b e0 (setRow P l' e0 es path) q b' e' m→(∃e2 m2,At P w b e0 es q b' e2 m2)∨∃r,q=path++(i,c)::r∧K r b' e' m:=by
  intro q b' e' m h;rcases xl q b' e' m h with ⟨r,m0,z1,z2,z3⟩|⟨r,z1,z2,z3⟩|⟨z1,z2,z3,z4⟩
  ·exact .inl ⟨_,_,z2⟩
  ·cases r with
   | nil=>exact absurd rfl z1
   | cons a r=>
    obtain ⟨y1,y2⟩:=ZF a r b' e' m z3;rcases y2 with y2|⟨rfl,y2⟩
    ·exact .inl ⟨_,_,by rw[z2];exact ha.app y2⟩
    ·exact .inr ⟨r,z2,y2⟩
  ·exact .inl ⟨_,_,z1⟩
 have sA: ∀b',bB P w' (β id) (.nest e0 (setRow P l' e0 es path) vers') b'→bB P w (β id) (.nest e0 es vers) b'∨((M b'∨B≤b')∧∀bD cL,hp bD=some cL→¬bB P w (β bD) cL b'):=by
  intro b' ho;cases ho with
  | root _ h=>exact .inl (.root (by simp) h)
  | row h1 h2=>
   rw[hb] at h1;cases h1;rcases QW _ _ _ _ h2 with ⟨e2,m2,h⟩|⟨r,_,h⟩
   ·exact .inl (.row hb h)
   ·exact .inr (hK _ _ _ _ h).2
 have hle:Le P w I β hp w' I β (av hp id (some (.nest e0 (setRow P l' e0 es path) vers'))):=by
  refine ⟨fun _ _ h=>h,xn,fun ax cL h=> ?_,fun ax cL kA b' h h3 hd3 aA=>iq b',fun ax e cb vs e' aQ EE b2 q i' c' t v ea l0 h h' fD bf hv ht hc=> ?_⟩
  ·by_cases hi:ax=id
   ·subst hi;rw[ab] at h;cases h;exact ⟨_,bW _ _ _,⟨rfl,BP.symm,y4.symm,EL⟩,fun _=>rfl⟩
   ·exact ⟨cL,by rw[cK _ _ hi];exact h,af.le_refl _,fun _=>rfl⟩
  ·by_cases hi:ax=id
   ·subst hi;rw[ab] at h;cases h;rw[bW] at h';cases h';rw[hb] at fD;cases fD;obtain ⟨b',e',m,Ca,T,f,x,k1,k2,k3,k4,k5,k6⟩:=hc;rcases At.xl (I:=I) (w':=w') (l':=l') ha hw hl dm m7 q b' e' m k1 with ⟨r,z1,z2,e2,m2,z3,_⟩|⟨r,z1,z2,z3,z4⟩|⟨z1,z2,z3,z4⟩
    ·cases r with
     | nil=>
      cases z3;rw[j4] at z1;subst z1;obtain ⟨w1,w2,w3⟩:=ha.fun k1;subst w2;subst w3;obtain ⟨BO,g1,g2⟩:=xm [] i' c' t v ea l0 (by simpa using bf) (by simpa using hv) ht ⟨_,_,_,Ca,T,f,x,.here,k2,k3,k4,k5,k6⟩;refine ⟨BO,g1,?_⟩;obtain ⟨b5,e5,kb,C5,T5,f5,x5,q1,q2,q3,q4,q5,q6⟩:=g2;cases q1;exact ⟨_,_,_,C5,T5,f5,x5,z2,q2,q3,q4,q5,q6⟩
     | cons a r=>
      cases z3 with
      | @step _ i2 c2 b3 len cap _ _ t3 QX _ _ iX _ r Ca3 T3 f3 x3 g1 g2 g3 g4 g5 g6 g7 g8=>
       have aA:b'≠b1:=by
        intro e;subst e;have:=m7 _ _ _ k1;rw[this] at z1;have:=congrArg List.length z1;simp at this
       have oH:(parts P e' x3)[c2]? =some (.list QX iX):=by rw[rb g3,g5,rf g4]
       rw[BN g2 oH] at z2;have QV: ∃x2,(m.set i2 (dP P e' ((parts P e' x3).set c2 (.list QX (setRow P l' QX iX r)))))[i']? =some x2:=by
        have:i'<m.length:=(cO.1 k3).1;exact ⟨_,cp (by rw[wO];exact this)⟩
       obtain ⟨x2,m8⟩:=QV;obtain ⟨x0,y1,y2⟩:=E3 (dm _ _ _ _ k1) g2 g3 m8 k4;rw[k3] at y1;cases y1;have g8l:=(ha.fun ((k1.app (.step g1 g2 g3 g4 g5 g6 g7 g8)) |> fun h=>by rw[z1];exact h)).2.2;by_cases js:i'=i2∧c'=c2
       ·rw[ah js] at y2;obtain ⟨rfl,rfl⟩:=js;rw[k3] at g2;cases g2;rw[k5] at g5;cases g5;exact ⟨_,QQ g8 (by rw[hl,g8l]),b',e',_,Ca,T,f,x2,z2,(hw b' aA).trans k2,m8,k4,y2,k6⟩
       ·rw[ag js,k5] at y2;exact ⟨l0,rfl,b',e',_,Ca,T,f,x2,z2,(hw b' aA).trans k2,m8,k4,y2,k6⟩
    ·subst z2;obtain ⟨BO,g1,g2⟩:=xm r i' c' t v ea l0 bf hv ht ⟨_,_,_,Ca,T,f,x,z3,k2,k3,k4,k5,k6⟩;obtain ⟨b5,e5,kb,C5,T5,f5,x5,q1,q2,q3,q4,q5,q6⟩:=g2;exact ⟨BO,g1,_,_,_,C5,T5,f5,x5,z4 _ _ _ q1,q2,q3,q4,q5,q6⟩
    ·exact ⟨l0,rfl,b',e',m,Ca,T,f,x,z1,(hw b' z2).trans k2,k3,k4,k5,k6⟩
   ·rw[cK _ _ hi,h] at h';cases h';exact ⟨l0,rfl,hc.mono fun _ _ _ _ hh=>same hi h (.row fD hh)⟩
 have hold: ∀{ax cL b'},av hp id (some (.nest e0 (setRow P l' e0 es path) vers')) ax=some cL→bB P w' (β ax) cL b'→
   (∃kA,hp ax=some kA∧bB P w (β ax) kA b')∨(ax=id∧(M b'∨B≤b')∧∀bD cL,hp bD=some cL→¬bB P w (β bD) cL b'):=by
  intro ax cL b' h ho;by_cases hi:ax=id
  ·subst hi;rw[bW] at h;cases h;rcases sA b' ho with h|h
   ·exact .inl ⟨_,ab,h⟩
   ·exact .inr ⟨rfl,h⟩
  ·rw[cK _ _ hi] at h;exact .inl ⟨cL,h,ho.mono fun b2 rh=>same hi h rh⟩
 refine ⟨hle,⟨⟨fun ax cL h=> ?_,fun i1 i2 b1 b2 b' h1 h2 o1 o2=> ?_,fun ax cL b' h ho=> ?_,fun b' h=>by rw[bw];exact S.h.jK b' h⟩,fun b' h1 h2=> ?_,by rw[bw];exact S.size,S.new,⟨mX.1.trans S.io.1,mX.2.trans S.io.2⟩⟩⟩
 ·by_cases hi:ax=id
  ·subst hi;rw[bW] at h;cases h;rw[hb];refine .nest rfl (fun q b' e' m h=> ?_) (fun q1 q2 b' f1 m1 f2 m2 h1 h2=> ?_)
   ·rcases xl q b' e' m h with ⟨r,m0,z1,z2,z3⟩|⟨r,z1,z2,z3⟩|⟨z1,z2,z3,z4⟩
    ·subst z3;subst z1;obtain ⟨b5,e5,m5,g1,g2⟩:=At.split ha;obtain ⟨w1,w2,w3⟩:=g1.fun z2;subst w1;subst w2;subst w3;cases r with
     | nil=>cases g2;exact aj0
     | cons a r=>
      cases g2 with
      | step g1' g2 g3 g4 g5 g6 g7 g8=>
       refine (dm _ _ _ _ z2).above g1' g2 g3 g4 g5 g6 g7 g8 hl (hw _ fun e=> ?_) xn iq;subst e;have:=m7 _ _ _ z2;have:=congrArg List.length this;simp at this
    ·cases r with
     | nil=>exact absurd rfl z1
     | cons a r=>
      obtain ⟨y1,y2⟩:=ZF a r b' e' m z3;rcases y2 with y2|⟨rfl,y2⟩
      ·exact (dm _ _ _ _ (ha.app y2)).cZ (hw _ y1) xn iq
      ·exact (hK _ _ _ _ y2).1.cZ (hw _ y1) xn iq
    ·exact (dm _ _ _ _ z1).cZ (hw _ z2) xn iq
   ·rcases QW _ _ _ _ h1 with ⟨e2,m2',x1⟩|⟨r1,x1,x2⟩<;>rcases QW _ _ _ _ h2 with ⟨e3,m3',y1⟩|⟨r2,y1,y2⟩
    ·exact lM _ _ _ _ _ _ _ x1 y1
    ·exact absurd (bB.row hb x1) ((hK _ _ _ _ y2).2.2 _ _ ab)
    ·exact absurd (bB.row hb y1) ((hK _ _ _ _ x2).2.2 _ _ ab)
    ·rw[x1,y1,tN _ _ _ _ _ _ _ x2 y2]
  ·rw[cK _ _ hi] at h;exact (S.h.rel ax cL h).mono hle fun b' ho=>⟨same hi h ho,fun _ h=>h⟩
 ·rcases hold h1 o1 with ⟨c1,x1,y1⟩|⟨rfl,x1,y1⟩<;>rcases hold h2 o2 with ⟨c2,x2,y2⟩|⟨rfl,x2,y2⟩
  ·exact S.h.inj i1 i2 c1 c2 b' x1 x2 y1 y2
  ·exact absurd y1 (y2 _ _ x1)
  ·exact absurd y2 (y1 _ _ x2)
  ·rfl
 ·rcases hold h ho with ⟨c1,x1,y1⟩|⟨rfl,x1,y1⟩
  ·exact S.h.own ax c1 b' x1 y1
  ·exact x1
 ·rw[hw b' fun e=> ?_]
  ·exact S.cZ b' h1 h2
  ·subst e;rcases S.h.own id _ b' ab ZG with h|h
   ·exact h2 h
   ·omega
theorem aj1 {i i' n c c' k:Nat} (hc':c'<n) (ql:c+k≤n) (h1:i*n+c≤i'*n+c') (h2:i'*n+c'<i*n+c+k):i'=i∧c≤c'∧c'<c+k:=by
 have:i'=i:=by
  rcases Nat.lt_trichotomy i' i with h|h|h
  ·have:=eV n (Nat.succ_le_of_lt h);rw[yC] at this;omega
  ·exact h
  ·have:=eV n (Nat.succ_le_of_lt h);rw[yC] at this;omega
 subst this;omega
theorem aj2 {b1 i c:Nat} {e1 T:TypeId} {l cs:List V} {x0:V} {Ca:Array Value} {vs:List Value} (hR:iB P w I b1 e1 l) (hh:w.heap[b1]? =some (.cells Ca T (0,0))) (hs:l.length*P.cellsOf e1≤Ca.size)
  (hx:l[i]? =some x0) (hk:cs.length=vs.length) (ql:c+cs.length≤P.cellsOf e1):
  ∀{i' c':Nat} {x':V} {t':TypeId},(l.set i (dP P e1 (jg (parts P e1 x0) c cs)))[i']? =some x'→(bc P e1)[c']? =some t'→
   ∃x1,l[i']? =some x1∧((∃j y u,i'=i∧c'=c+j∧cs[j]? =some y∧vs[j]? =some u∧cu P e1 x' c'=y∧(Ca.toList.take (i*P.cellsOf e1+c)++(vs++Ca.toList.drop (i*P.cellsOf e1+c+vs.length))).toArray[i'*P.cellsOf e1+c']? =some u)∨
    (cu P e1 x' c'=cu P e1 x1 c'∧(Ca.toList.take (i*P.cellsOf e1+c)++(vs++Ca.toList.drop (i*P.cellsOf e1+c+vs.length))).toArray[i'*P.cellsOf e1+c']? =Ca[i'*P.cellsOf e1+c']?)):=by
 intro i' c' x' t' dy fZ;have pj:i<l.length:=(cO.1 hx).1;have Lh:c'<P.cellsOf e1:=by rw[←fK hR.ok];exact (cO.1 fZ).1
 have fS:(parts P e1 x0).length=P.cellsOf e1:=by rw[BL];exact fK hR.ok
 have hbound:i*P.cellsOf e1+c+vs.length≤Ca.toList.length:=by
  have:(i+1)*P.cellsOf e1≤l.length*P.cellsOf e1:=eV _ pj;rw[kQ] at this;simp only[Array.length_toList];omega
 simp only[o4];rw[rj _ _ _ _ hbound];by_cases ft:i'=i∧c≤c'∧c'<c+cs.length
 ·obtain ⟨rfl,h1,h2⟩:=ft;rw[yD pj] at dy;cases dy;refine ⟨x0,hx,.inl ?_⟩;rw[cl,br,show i'*P.cellsOf e1+c'-(i'*P.cellsOf e1+c)=c'-c by omega];have hy:cs[c'-c]? =some cs[c'-c]:=cp (by omega);have hu:vs[c'-c]? =some vs[c'-c]:=cp (by omega);refine ⟨c'-c,_,_,rfl,by omega,hy,hu,?_,hu⟩;refine vr ?_ fZ;unfold jg;rw[rj _ _ _ _ (by omega),cl,br];exact hy
 ·have ayW: ¬(i*P.cellsOf e1+c≤i'*P.cellsOf e1+c'∧i'*P.cellsOf e1+c'<i*P.cellsOf e1+c+vs.length):=fun h=>ft (aj1 Lh ql h.1 (by omega));have hg:(if i'*P.cellsOf e1+c'<i*P.cellsOf e1+c then Ca.toList[i'*P.cellsOf e1+c']? else if i'*P.cellsOf e1+c'<i*P.cellsOf e1+c+vs.length then vs[i'*P.cellsOf e1+c'-(i*P.cellsOf e1+c)]? else Ca.toList[i'*P.cellsOf e1+c']?)=Ca[i'*P.cellsOf e1+c']? :=by
   by_cases h1:i'*P.cellsOf e1+c'<i*P.cellsOf e1+c
   ·rw[ah h1];simp
   ·rw[ag h1,cl];simp
  by_cases hi:i'=i
  ·subst hi;rw[yD pj] at dy;cases dy;refine ⟨x0,hx,.inr ⟨?_,hg⟩⟩;have h1:(jg (parts P e1 x0) c cs)[c']? =some (ik P t' (cu P e1 x0 c')):=by
    unfold jg;rw[rj _ _ _ _ (by omega)];by_cases h1:c'<c
    ·rw[ah h1];exact rb fZ
    ·rw[ag h1,cl];exact rb fZ
   rw[vr h1 fZ];obtain ⟨y9,_,_,_,_,vu⟩:=hR.cells;obtain ⟨v,_,ho⟩:=vu i' c' x0 t' hx fZ Lh;exact ho.xj
  ·rw[D3 (fun h=>hi h.symm)] at dy;exact ⟨x',dy,.inr ⟨rfl,hg⟩⟩
theorem aj3 {w:World} {b1:Nat} {Ca Cb:Array Value} {T:TypeId} (hh:w.heap[b1]? =some (.cells Ca T (0,0))) (hs:Cb.size=Ca.size) (k:Nat):bsize (w.setRow b1 Cb) k=bsize w k:=by
 by_cases hk:k=b1
 ·subst hk;rw[kY (setRow_heap w k Ca Cb T (0,0) hh),kY hh,hs]
 ·simp only[bsize,setRow_other w b1 k Cb hk]
theorem Li (S:aB P w I β hp B M w0) {t:TypeId} {v:Value} {id b b1 i c:Nat} {e0 e1:TypeId} {es l cs:List V} {vers vers':List Nat} {path:Path} {x0:V} (K:Path→Nat→TypeId→List V→Prop)
  (ab:hp id=some (.nest e0 es vers)) (hb:β id=some b) (ha:At P w b e0 es path b1 e1 l) (ht:qd P t=true) (hn:P.cellsOf t=v.cells.size)
  (hx:l[i]? =some x0) (hk:cs.length=v.cells.size) (ql:c+cs.length≤P.cellsOf e1) (h1: ∀u∈v.cells.toList,u.oneCell'=true)
  (dU: ∀(j:Nat) y u t',cs[j]? =some y→v.cells.toList[j]? =some u→(bc P e1)[c+j]? =some t'→pe P w I t' u y)
  (aj4: ∀(j:Nat) y u t' e3 iX b3 len cap,cs[j]? =some y→v.cells.toList[j]? =some u→(bc P e1)[c+j]? =some t'→P.underlying t'=some (.slice e3)→y= .list e3 iX→0<cap→
   u= .slice (some ⟨b3,0,none⟩) len cap→j=0∧∀r b' e' m,At P w b3 e3 iX r b' e' m→b'≠b1∧K r b' e' m)
  (hK: ∀r b' e' m,K r b' e' m→iB P w I b' e' m∧(M b'∨B≤b')∧(∀bD cL,hp bD=some cL→¬bB P w (β bD) cL b'))
  (tN: ∀r1 r2 b' e1 m1 e2 m2,K r1 b' e1 m1→K r2 b' e2 m2→r1=r2)
  (y4:vers'.length=vers.length) (EL: ∀k,bM vers k≤bM vers' k)
  (iN:(∀(j:Nat) t',j<cs.length→(bc P e1)[c+j]? =some t'→ey P t'=true)∨∀k,path.length≤k→k<vers.length→bM vers' k≠bM vers k):
  ∃w',(Instr.storeAt t (.pointer (some ⟨b1,i*P.cellsOf e1+c,none⟩)) v).run P w= .ok () w'∧
   Le P w I β hp w' I β (av hp id (some (.nest e0 (setRow P (l.set i (dP P e1 (jg (parts P e1 x0) c cs))) e0 es path) vers')))∧
   aB P w' I β (av hp id (some (.nest e0 (setRow P (l.set i (dP P e1 (jg (parts P e1 x0) c cs))) e0 es path) vers'))) B M w0:=by
 have hR:=S.rows ab hb ha;obtain ⟨Ca,T,hh,hL,hs,vu⟩:=hR.cells;have pj:i<l.length:=(cO.1 hx).1;have eO:cs.length=v.cells.toList.length:=by simpa using hk
 have QO:i*P.cellsOf e1+c+v.cells.size≤Ca.size:=by
  have:(i+1)*P.cellsOf e1≤l.length*P.cellsOf e1:=eV _ pj;rw[kQ] at this;omega
 have da:=Ld (t:=t) (o:=i*P.cellsOf e1+c) (v:=v) ht hn hh QO h1;have hlen:(Ca.toList.take (i*P.cellsOf e1+c)++(v.cells.toList++Ca.toList.drop (i*P.cellsOf e1+c+v.cells.toList.length))).length=Ca.size:=by
  rw[E0 _ _ _ (by simpa using QO)];simp
 have cn:= @aj2 P w I b1 i c e1 T l cs x0 Ca v.cells.toList hR hh hs hx eO ql;have dI:=hR.nI;have hr:=S.h.rel id _ ab;rw[hb] at hr;cases hr with
 | iM aA=>cases aA
 | nest aA dm lM=>
 cases aA;have m7: ∀q e' m,At P w b1 e1 l q b1 e' m→q=[]:=by
  intro q e' m h;have:=lM _ _ _ _ _ _ _ (ha.app h) ha;simpa using this
 have vy:=setRow_heap w b1 Ca (Ca.toList.take (i*P.cellsOf e1+c)++(v.cells.toList++Ca.toList.drop (i*P.cellsOf e1+c+v.cells.toList.length))).toArray T (0,0) hh;have iq:=aj3 hh (Cb:=(Ca.toList.take (i*P.cellsOf e1+c)++(v.cells.toList++Ca.toList.drop (i*P.cellsOf e1+c+v.cells.toList.length))).toArray) (by simpa using hlen);have tO:=fun k (hk:k≠b1)=>setRow_other w b1 k (Ca.toList.take (i*P.cellsOf e1+c)++(v.cells.toList++Ca.toList.drop (i*P.cellsOf e1+c+v.cells.toList.length))).toArray hk;generalize Lj:(Ca.toList.take (i*P.cellsOf e1+c)++(v.cells.toList++Ca.toList.drop (i*P.cellsOf e1+c+v.cells.toList.length))).toArray=Cb at*
 generalize hL':l.set i (dP P e1 (jg (parts P e1 x0) c cs))=l' at*
 have nU:l'.length=l.length:=by rw[←hL'];simp
 have xn: ∀k j,I k j→(w.setRow b1 Cb).cell? ⟨k,j,none⟩=w.cell? ⟨k,j,none⟩:=fun k j hk=>World.cell?_of_block (tO k (fun e=>dI j (e▸hk)));refine ⟨_,da,ajZ S (i:=i) (c:=c) K ab hb ha nU tO iq (by simp) ⟨rfl,rfl⟩ ?_ ?_ hK tN y4 EL ?_⟩
 ·refine ⟨hR.ok,⟨Cb,T,vy,(show Cb.size=Ca.size by rw[←Lj];simpa using hlen)▸hL,by rw[nU,←Lj];simp only[rY];omega,fun i' j x' t' k1 k2 k3=> ?_⟩,dI⟩;obtain ⟨x1,y1,y2⟩:=cn k1 k2;rcases y2 with ⟨jj,y,u,rfl,rfl,z1,z2,z3,z4⟩|⟨z3,z4⟩
  ·exact ⟨u,z4,by rw[z3];exact (dU jj y u t' z1 z2 k2).mono (fun _ _ h=>h) xn fun _ _ _ _ _=>iq _⟩
  ·obtain ⟨v1,m1,m2⟩:=vu i' j x1 t' y1 k2 k3;exact ⟨v1,z4.trans m1,by rw[z3];exact m2.mono (fun _ _ h=>h) xn fun _ _ _ _ _=>iq _⟩
 ·intro a r b' e' m h;obtain ⟨i',c'⟩:=a;cases h with
  | step k1 k2 k3 k4 k5 k6 k7 k8=>
   rw[vy] at k1;cases k1;obtain ⟨x1,y1,y2⟩:=cn k2 k3;rcases y2 with ⟨jj,y,u,rfl,rfl,z1,z2,z3,z4⟩|⟨z3,z4⟩
   ·rw[k7] at z4;obtain ⟨g1,g2⟩:=aj4 jj y u _ _ _ _ _ _ z1 z2 k3 k4 (z3.symm.trans k5) k6 (ew z4).symm;subst g1;have lf:=k8.xd (w:=w) fun q2 b5 e5 kb hq=>tO b5 (g2 _ _ _ _ hq).1;exact ⟨(g2 _ _ _ _ lf).1,.inr ⟨rfl,(g2 _ _ _ _ lf).2⟩⟩
   ·rw[k5] at z3;rw[k7] at z4;have cm: ∀q2 b5 e5 kb,At P w _ _ _ q2 b5 e5 kb→b5≠b1:=fun q2 b5 e5 kb hq zg=>by
     subst zg;have:=m7 _ _ _ (.step hh y1 k3 k4 z3.symm k6 z4.symm hq);cases this
    have lf:=k8.xd (w:=w) fun q2 b5 e5 kb hq=>tO b5 (cm q2 b5 e5 kb hq);exact ⟨cm _ _ _ _ lf,.inl (.step hh y1 k3 k4 z3.symm k6 z4.symm lf)⟩
 ·intro r i' c' t' v' ea l0 bf QY nW hc;rcases iN with iN|iN
  ·
   have fq: ∀{i' c' x1 t' e3},l[i']? =some x1→(bc P e1)[c']? =some t'→P.underlying t'=some (.slice e3)→∃x',l'[i']? =some x'∧cu P e1 x' c'=cu P e1 x1 c'∧Cb[i'*P.cellsOf e1+c']? =Ca[i'*P.cellsOf e1+c']? :=by
    intro i' c' x1 t' e3 g1 g2 g3;have bf:i'<l'.length:=by rw[nU];exact (cO.1 g1).1
    have dy:=cp bf;obtain ⟨x2,y1,y2⟩:=cn dy g2;rw[g1] at y1;cases y1;rcases y2 with ⟨jj,y,u,rfl,rfl,z1,z2,z3,z4⟩|⟨z3,z4⟩
    ·have:=iN jj t' (cO.1 z1).1 g2;unfold ey at this;rw[g3] at this;cases this
    ·exact ⟨_,dy,z3,z4⟩
   obtain ⟨b',e',m,C5,T,f,x,k1,k2,k3,k4,k5,k6⟩:=hc;refine ⟨l0,rfl,?_⟩;cases k1 with
   | here=>
    rw[hh] at k2;cases k2;obtain ⟨x',g1,g2,g3⟩:=fq k3 k4 nW;exact ⟨_,_,l',Cb,_,_,x',.here,vy,g1,k4,g2.trans k5,g3.trans k6⟩
   | step q1 q2 q3 q4 q5 q6 q7 q8=>
    have q1':=q1;rw[hh] at q1;cases q1;obtain ⟨x',g1,g2,g3⟩:=fq q2 q3 q4;have cm: ∀q2 b5 e5 kb,At P w _ _ _ q2 b5 e5 kb→b5≠b1:=fun q9 b5 e5 kb hq zg=>by
     subst zg;have:=m7 _ _ _ (.step hh q2 q3 q4 q5 q6 q7 hq);cases this
    have lf:=q8.mono (w':=w.setRow b1 Cb) fun q2 b5 e5 kb hq=>tO b5 (cm q2 b5 e5 kb hq);exact ⟨b',e',m,C5,T,f,x,.step vy g1 q3 q4 (g2.trans q5) q6 (g3.trans q7) lf,(tO _ (cm _ _ _ _ q8)).trans k2,k3,k4,k5,k6⟩
  ·exact absurd QY (iN _ (by simp) bf)
theorem E4: ∀(vs:List Nat) (d k:Nat),d≤k→k<vs.length→bM (raise d vs) k=bM vs k+1
 | [],d,k,_,h=>by simp at h
 | v::vs,0,0,_,_=>by simp[raise,bM]
 | v::vs,0,k+1,_,h=>by
  have:=E4 vs 0 k (nH _) (by simpa using h);simpa[raise,bM] using this
 | v::vs,d+1,0,h,_=>by omega
 | v::vs,d+1,k+1,h,h2=>by
  have:=E4 vs d k (by omega) (by simpa using h2);simpa[raise,bM] using this
theorem Lk: ∀(vs:List Nat) (d:Nat),(raise d vs).length=vs.length
 | [],0=>rfl
 | [],d+1=>rfl
 | v::vs,0=>by simp[raise]
 | v::vs,d+1=>by simp[raise,Lk vs d]
theorem E5: ∀(vs:List Nat) (d k:Nat),bM vs k≤bM (raise d vs) k
 | [],0,k=>by simp[raise,bM]
 | [],d+1,k=>by simp[raise,bM]
 | v::vs,0,0=>by simp[raise,bM]
 | v::vs,0,k+1=>by
  have:=E5 vs 0 k;simpa[raise,bM] using this
 | v::vs,d+1,0=>by simp[raise,bM]
 | v::vs,d+1,k+1=>by
  have:=E5 vs d k;simpa[raise,bM] using this
theorem aj5 {t:TypeId} {v:Value} {x:V} (hv:ai P w I β hp v x) (h:fp P t x=true) (hs:ey P t=true):Pure P w I t v x:=by
 unfold ey at hs;unfold fp at h;cases hu:P.underlying t with
 | none=>rw[hu] at hs;cases hs
 | some d=>
  rw[hu] at hs h;cases d<;>simp only at hs<;>first|(cases hs;done)|skip
  all_goals cases x<;>simp only at h<;>first|(cases h;done)|skip
  ·rw[hv.mY];exact .bool hu
  ·simp only[fl] at h;subst h;rw[hv.gE];exact .int hu
  ·obtain ⟨s,rfl,hl⟩:=hv.ph;exact .str hu hl
def QZ (P:Program) (w:World) (I:Nat→Nat→Prop) (o:Option Nat) (blk:af) (b2:Nat) (e2:TypeId) (cb:List V):Prop:=
 (∀r b' e' m,At P w b2 e2 cb r b' e' m→iB P w I b' e' m∧bB P w o blk b')∧∀r1 r2 b' e1 m1 Ll m2,At P w b2 e2 cb r1 b' e1 m1→At P w b2 e2 cb r2 b' Ll m2→r1=r2
theorem Q0 (S:aB P w I β hp B M w0) {bD b2:Nat} {e2:TypeId} {cb:List V} (ab:hp bD=some (.arr e2 cb false)) (hb:β bD=some b2) (hs:(flat P e2).all (ey P)=true):
  QZ P w I (β bD) (.arr e2 cb false) b2 e2 cb:=by
 have only: ∀r b' e' m,At P w b2 e2 cb r b' e' m→r=[]:=by
  intro r b' e' m h;cases h with
  | here=>rfl
  | step h1 h2 h3 h4 h5 h6 h7 h8=>
   rw[su] at h3;have:=gC.1 hs _ (mR h3);unfold ey at this;rw[h4] at this;cases this
 refine ⟨fun r b' e' m h=> ?_,fun r1 r2 b' e1 m1 Ll m2 h1 h2=>by rw[only _ _ _ _ h1,only _ _ _ _ h2]⟩;have:=only _ _ _ _ h;subst this;cases h;have hr:=S.h.rel bD _ ab;cases hr with
 | eZ aA=>rw[hb] at aA;cases aA
 | arr hL aw aA hh bw hf fQ hx=>
  rw[hb] at aA;cases aA;refine ⟨⟨aw,⟨_,_,hh,hL,bw,fun i j x t' k1 k2 k3=> ?_⟩,fQ rfl⟩,.root (by simp) hb⟩;obtain ⟨v,m1,m2⟩:=hx i j x t' k1 k2 k3;refine ⟨v,m1,.gr ?_ m2⟩;rw[su] at k2;exact gC.1 hs _ (mR k2)
theorem aj6 (S:aB P w I β hp B M w0) {bD b2:Nat} {e2:TypeId} {cb:List V} {sq:List Nat} (ab:hp bD=some (.nest e2 cb sq)) (hb:β bD=some b2):
  QZ P w I (β bD) (.nest e2 cb sq) b2 e2 cb:=by
 have hr:=S.h.rel bD _ ab;cases hr with
 | iM aA=>rw[hb] at aA;cases aA
 | nest aA dm lM=>
  rw[hb] at aA;cases aA;exact ⟨fun r b' e' m h=>⟨dm _ _ _ _ h,.row hb h⟩,fun r1 r2 b' e1 m1 Ll m2 h1 h2=>lM _ _ _ _ _ _ _ h1 h2⟩
theorem ZH {c:Nat} {e1 e2 t':TypeId} (h:(((flat P e1).drop c).take 1).all (fun u=>match P.underlying u with|some (.slice e3)=>Nat.beq e2 e3|_=>false)=true) (ht:(bc P e1)[c]? =some t'):
  P.underlying t'=some (.slice e2):=by
 rw[su] at ht;have hm:t'∈((flat P e1).drop c).take 1:=by
  refine mR (i:=0) ?_;rw[iQ (by omega),qQ];simpa using ht
 have:=gC.1 h _ hm;split at this
 ·rename_i e3 hu;rw[ba] at this;rw[hu,this]
 ·cases this
theorem ZI (S:aB P w I β hp B M w0) {t:TypeId} {v:Value} {id bD b b1 i c:Nat} {e0 e1 e2:TypeId} {es l cb:List V} {vers:List Nat} {path:Path} {x0:V} {cL:af}
  (ab:hp id=some (.nest e0 es vers)) (hb:β id=some b) (ha:At P w b e0 es path b1 e1 l) (ht:qd P t=true) (hn:P.cellsOf t=1)
  (hx:l[i]? =some x0) (ql:c+1≤P.cellsOf e1) (E6:(((flat P e1).drop c).take 1).all (fun u=>match P.underlying u with|some (.slice e3)=>Nat.beq e2 e3|_=>false)=true)
  (dE:hp bD=some cL) (cm:id≠bD)
  (hv:((∃a,v= .slice a 0 0)∧cb=[])∨∃b2 cap,v= .slice (some ⟨b2,0,none⟩) cb.length cap∧cap*P.cellsOf e2=bsize w b2∧cb.length≤cap∧cap≤maxLen∧QZ P w I (β bD) cL b2 e2 cb):
  sC P ((Instr.storeAt t (.pointer (some ⟨b1,i*P.cellsOf e1+c,none⟩)) v).run P w) w I β hp B M w0
   ⟨.undef,[(id,.nest e0 (setRow P (l.set i (dP P e1 (jg (parts P e1 x0) c [.list e2 cb]))) e0 es path) (raise path.length vers)),(bD,.dead)]⟩:=by
 obtain ⟨tP,S1⟩:=xi S dE;have sE:av hp bD (some .dead) id=some (.nest e0 es vers):=by rw[cK _ _ cm];exact ab
 have vu:v.cells= #[v]:=by rcases hv with ⟨⟨_,rfl⟩,_⟩|⟨b2,cap,rfl,_⟩<;>rfl
 have sF:v.oneCell'=true:=by rcases hv with ⟨⟨_,rfl⟩,_⟩|⟨b2,cap,rfl,_⟩<;>rfl
 have free: ∀b',bB P w (β bD) cL b'→(M b'∨B≤b')∧∀Lm kA,av hp bD (some .dead) Lm=some kA→¬bB P w (β Lm) kA b':=by
  intro b' ho;refine ⟨S.h.own bD cL b' dE ho,fun Lm kA h3 ZJ=> ?_⟩;by_cases hi:Lm=bD
  ·subst hi;rw[bW] at h3;cases h3;exact ZJ.alive rfl
  ·rw[cK _ _ hi] at h3;exact hi (S.h.inj _ _ _ _ b' h3 dE ZJ ho)
 have lO: ∀b',bB P w (β bD) cL b'→b'≠b1:=by
  intro b' ho e;subst e;exact cm (S.h.inj _ _ _ _ b' ab dE (.row hb ha) ho)
 have dU: ∀(j:Nat) y u t',[V.list e2 cb][j]? =some y→v.cells.toList[j]? =some u→(bc P e1)[c+j]? =some t'→j=0∧y= .list e2 cb∧u=v∧P.underlying t'=some (.slice e2):=by
  intro j y u t' k1 k2 k3;cases j with
  | succ j=>simp at k1
  | zero=>
   rw[vu] at k2;simp at k1 k2;exact ⟨rfl,k1.symm,k2.symm,ZH E6 k3⟩
 rcases hv with ⟨⟨a0,rfl⟩,rfl⟩|⟨b2,cap,rfl,v1,v2,v3,v4⟩
 ·obtain ⟨w',r1,r2,r3⟩:=Li S1 (vers':=raise path.length vers) (fun _ _ _ _=>False) sE hb ha ht (v:= .slice a0 0 0) hn hx (cs:=[.list e2 []]) rfl ql (by rw[vu];simp[sF])
   (fun j y u t' k1 k2 k3=>by obtain ⟨rfl,rfl,rfl,k4⟩:=dU j y u t' k1 k2 k3;exact .emp k4)
   (fun j y u t' e3 iX b3 len cap k1 k2 k3 k4 k5 k6=>by obtain ⟨rfl,rfl,rfl,k7⟩:=dU j y u t' k1 k2 k3;intro k8;cases k8;exact absurd k6 (nE _))
   (fun _ _ _ _ h=>h.elim) (fun _ _ _ _ _ _ _ h=>h.elim) (Lk _ _) (E5 _ _) (.inr fun k h1 h2=>by rw[E4 _ _ _ h1 h2];omega)
  exact ⟨w',I,β,r1,tP.trans r2,r3,rfl⟩
 ·obtain ⟨w',r1,r2,r3⟩:=Li S1 (vers':=raise path.length vers) (fun r b' e' m=>At P w b2 e2 cb r b' e' m) sE hb ha ht (v:= .slice (some ⟨b2,0,none⟩) cb.length cap) hn hx (cs:=[.list e2 cb]) rfl ql (by rw[vu];simp[sF])
   (fun j y u t' k1 k2 k3=>by
    obtain ⟨rfl,rfl,rfl,k4⟩:=dU j y u t' k1 k2 k3;rcases Nat.eq_zero_or_pos cap with h0|h0
    ·subst h0;obtain rfl:=wJ.1 (tx.1 v2);exact .emp k4
    ·exact .row k4 h0 v1 v2 v3)
   (fun j y u t' e3 iX b3 len cap k1 k2 k3 k4 k5 k6 k8=>by
    obtain ⟨rfl,rfl,rfl,k7⟩:=dU j y u t' k1 k2 k3;cases k5;cases k8;exact ⟨rfl,fun r b' e' m h=>⟨lO _ (v4.1 _ _ _ _ h).2,h⟩⟩)
   (fun r b' e' m h=>⟨(v4.1 _ _ _ _ h).1,free _ (v4.1 _ _ _ _ h).2⟩) (fun r1 r2 b' e1 m1 Ll m2 h1 h2=>v4.2 _ _ _ _ _ _ _ h1 h2) (Lk _ _) (E5 _ _) (.inr fun k h1 h2=>by rw[E4 _ _ _ h1 h2];omega)
  exact ⟨w',I,β,r1,tP.trans r2,r3,rfl⟩
theorem ZK (S:aB P w I β hp B M w0) {t:TypeId} {v:Value} {x:V} {r:R} {rd:List Nat} {id b b1 i c:Nat} {e0 e1:TypeId} {es l:List V} {vers:List Nat} {path:Path}
  (ht:qd P t=true) (hn:x.cells.length=P.cellsOf t) (hv:ai P w I β hp v x) (ab:hp id=some (.nest e0 es vers)) (hb:β id=some b) (ha:At P w b e0 es path b1 e1 l)
  (h:(KA P t id e0 es vers path i c x).run C hp=some (r,rd)):sC P ((Instr.storeAt t (.pointer (some ⟨b1,i*P.cellsOf e1+c,none⟩)) v).run P w) w I β hp B M w0 r:=by
 unfold KA at h;obtain ⟨bf,h⟩:=aH h;rw[oA] at bf;obtain ⟨e',vv,q1,q2,h⟩:=BH h;obtain ⟨p1,p2⟩:=QB ha;rw[p1] at q1;cases q1;rw[p2] at q2;cases q2;simp only[V.toList] at h;obtain ⟨aw,h⟩:=aH h;obtain ⟨x0,sG,h⟩:=oE h;obtain ⟨ql,h⟩:=aH h;rw[fo] at ql;have slice: ∀e2,P.underlying t=some (.slice e2)→
   ((((Rd.aD ((((flat P e1).drop c).take x.cells.length).all fun u=>match P.underlying u with|some (.slice e3)=>Nat.beq e2 e3|_=>false) (
     match (generalizing:=false) x with
     | .nilS e3=> .aD (Nat.beq e2 e3) (.ret ⟨.undef,[(id,.nest e0 (setRow P (l.set i (dP P e1 (jg (parts P e1 x0) c [.list e2 []]))) e0 es path) (raise path.length vers))]⟩)
     | .whole e3 bD=> .get bD fun
      | some (.arr e4 cb false)=> .aD (Nat.beq e2 e3&&(Nat.beq e3 e4&&(!(Nat.beq id bD)&&(flat P e2).all (ey P))))
        (.ret ⟨.undef,[(id,.nest e0 (setRow P (l.set i (dP P e1 (jg (parts P e1 x0) c [.list e2 cb]))) e0 es path) (raise path.length vers)),(bD,.dead)]⟩)
      | some (.nest e4 cb _)=> .aD (Nat.beq e2 e3&&(Nat.beq e3 e4&& !(Nat.beq id bD)))
        (.ret ⟨.undef,[(id,.nest e0 (setRow P (l.set i (dP P e1 (jg (parts P e1 x0) c [.list e2 cb]))) e0 es path) (raise path.length vers)),(bD,.dead)]⟩)
      | _=> .fail
     | _=> .fail)):Rd R).run C hp))=some (r,rd)→
   sC P ((Instr.storeAt t (.pointer (some ⟨b1,i*P.cellsOf e1+c,none⟩)) v).run P w) w I β hp B M w0 r:=by
  intro e2 hu h;obtain ⟨E6,h⟩:=aH h;cases x with
  | nilS e3=>
   obtain ⟨hc,h⟩:=aH h;obtain rfl:=aZ h;rw[ba] at hc;subst hc;cases hv with
   | @nilS _ a0=>
    obtain ⟨w',r1,r2,r3⟩:=Li S (v:= .slice a0 0 0) (vers':=raise path.length vers) (fun _ _ _ _=>False) ab hb ha ht hn.symm sG (cs:=[.list e2 []]) rfl ql (by simp[Value.cells,Value.oneCell'])
     (fun j y u t' k1 k2 k3=>by
      cases j with
      | succ j=>simp at k1
      | zero=>
       simp[Value.cells] at k1 k2;subst k1;subst k2;exact .emp (ZH E6 k3))
     (fun j y u t' e3 iX b3 len cap k1 k2 k3 k4 k5 k6=>by
      cases j with
      | succ j=>simp at k1
      | zero=>simp[Value.cells] at k2;subst k2;intro k8;cases k8;exact absurd k6 (nE _))
     (fun _ _ _ _ h=>h.elim) (fun _ _ _ _ _ _ _ h=>h.elim) (Lk _ _) (E5 _ _) (.inr fun k h1 h2=>by rw[E4 _ _ _ h1 h2];omega)
    exact ⟨w',I,β,r1,r2,r3,rfl⟩
  | whole e3 bD=>
   obtain ⟨l1,h⟩:=run_get h;cases dE:hp bD with
   | none=>rw[dE] at h;cases h
   | some cL=>
    rw[dE] at h;cases cL with
    | dead=>cases h
    | var _=>cases h
    | map _ _=>cases h
    | out _ _ _ _=>cases h
    | arr e4 cb fz=>
     cases fz with
     | true=>cases h
     | false=>
      obtain ⟨hc,h⟩:=aH h;obtain rfl:=aZ h;simp only[aK,ba,nF] at hc;obtain ⟨rfl,rfl,cm,iN⟩:=hc;have Q1:id≠bD:=fun e=>by rw[e,nG] at cm;cases cm
      refine ZI S ab hb ha ht hn.symm sG ql E6 dE Q1 ?_;cases hv with
      | eC cg=>rw[dE] at cg;cases cg
      | ej cg fD=>rw[dE] at cg;cases cg;exact .inl ⟨⟨_,rfl⟩,rfl⟩
      | whole cg fD cf hle sx=>
       rw[dE] at cg;cases cg;exact .inr ⟨_,_,rfl,cf,hle,sx,Q0 S dE fD iN⟩
      | eF cg=>rw[dE] at cg;cases cg
      | fC cg=>rw[dE] at cg;cases cg
      | ee cg=>rw[dE] at cg;cases cg
    | nest e4 cb sq=>
     obtain ⟨hc,h⟩:=aH h;obtain rfl:=aZ h;simp only[aK,ba,nF] at hc;obtain ⟨rfl,rfl,cm⟩:=hc;have Q1:id≠bD:=fun e=>by rw[e,nG] at cm;cases cm
     refine ZI S ab hb ha ht hn.symm sG ql E6 dE Q1 ?_;cases hv with
     | eC cg=>rw[dE] at cg;cases cg
     | ej cg fD=>rw[dE] at cg;cases cg
     | whole cg=>rw[dE] at cg;cases cg
     | eF cg fD=>rw[dE] at cg;cases cg;exact .inl ⟨⟨_,rfl⟩,rfl⟩
     | fC cg=>rw[dE] at cg;cases cg
     | ee cg fD cf hle sx=>
      rw[dE] at cg;cases cg;exact .inr ⟨_,_,rfl,cf,hle,sx,aj6 S dE fD⟩
  | _=>cases h
 have gr:(((Rd.aD ((((flat P e1).drop c).take x.cells.length).all (ey P)&&u6 P (((flat P e1).drop c).take x.cells.length) x.cells)
   (.ret ⟨.undef,[(id,.nest e0 (setRow P (l.set i (dP P e1 (jg (parts P e1 x0) c x.cells))) e0 es path) vers)]⟩)):Rd R).run C hp)=some (r,rd)→
   sC P ((Instr.storeAt t (.pointer (some ⟨b1,i*P.cellsOf e1+c,none⟩)) v).run P w) w I β hp B M w0 r:=by
  intro h;obtain ⟨hc,h⟩:=aH h;obtain rfl:=aZ h;simp only[aK] at hc;obtain ⟨hs,fj⟩:=hc;obtain ⟨tl,tg⟩:=zf fj;have Q2: ∀(j:Nat) t',j<x.cells.length→(bc P e1)[c+j]? =some t'→(((flat P e1).drop c).take x.cells.length)[j]? =some t':=by
   intro j t' hj fZ;rw[iQ hj,qQ];rw[su] at fZ;exact fZ
  have sat: ∀(j:Nat) t',j<x.cells.length→(bc P e1)[c+j]? =some t'→ey P t'=true:=fun j t' hj fZ=>
   gC.1 hs _ (mR (Q2 j t' hj fZ))
  have rl:v.cells.size=x.cells.length∧∀(j:Nat) u y,v.cells.toList[j]? =some u→x.cells[j]? =some y→ai P w I β hp u y:=by
   have base:(∀xs,x≠ .agg xs)→x.cells=[x]→v.cells.size=x.cells.length∧∀(j:Nat) u y,v.cells.toList[j]? =some u→x.cells[j]? =some y→ai P w I β hp u y:=by
    intro _ tM;rw[tM] at tl tg Q2⊢;have h0:0<(((flat P e1).drop c).take [x].length).length:=by rw[tl];exact Nat.one_pos
    have fj:=tg 0 _ x (cp h0) rfl;obtain ⟨o1,o2⟩:=ZE hv fj;rw[o2];refine ⟨rfl,fun j u y hu hy=> ?_⟩;cases j with
    | zero=>simp at hu hy;subst hu;subst hy;exact hv
    | succ j=>simp at hy
   cases x with
   | agg xs=>
    obtain ⟨cs,rfl,h1,h2⟩:=hv.nT;exact ⟨h1,fun j u y a b=>h2 j u y (by simpa[Value.cells] using a) b⟩
   | _=>exact base (by simp) rfl
  have pure: ∀(j:Nat) u y t',v.cells.toList[j]? =some u→x.cells[j]? =some y→(bc P e1)[c+j]? =some t'→Pure P w I t' u y:=by
   intro j u y t' hu hy fZ;have hj:=(cO.1 hy).1;exact aj5 (rl.2 j u y hu hy) (tg j t' y (Q2 j t' hj fZ) hy) (sat j t' hj fZ)
  obtain ⟨w',r1,r2,r3⟩:=Li S (v:=v) (vers':=vers) (fun _ _ _ _=>False) ab hb ha ht (by rw[rl.1];exact hn.symm) sG rl.1.symm ql (fun u hu=>by
    obtain ⟨j,hj⟩:=tz hu;have eD:j<x.cells.length:=by rw[←rl.1];simpa using (cO.1 hj).1
    have sH:c+j<(bc P e1).length:=by rw[fK aw];omega
    have one: ∀t' y,Pure P w I t' u y→u.oneCell'=true:=by intro t' y h;cases h<;>rfl
    exact one _ _ (pure j u _ _ hj (cp eD) (cp sH)))
   (fun j y u t' k1 k2 k3=> .gr (sat j t' (cO.1 k1).1 k3) (pure j u y t' k2 k1 k3))
   (fun j y u t' e3 iX b3 len cap k1 k2 k3 k4 k5 k6=>by
    have:=sat j t' (cO.1 k1).1 k3;unfold ey at this;rw[k4] at this;cases this)
   (fun _ _ _ _ h=>h.elim) (fun _ _ _ _ _ _ _ h=>h.elim) rfl (fun _=>az _) (.inl fun j t' hj fZ=>sat j t' hj fZ)
  exact ⟨w',I,β,r1,r2,r3,rfl⟩
 cases hu:P.underlying t with
 | none=>rw[hu] at h;exact gr h
 | some d=>
  cases d with
  | slice e2=>rw[hu] at h;exact slice e2 hu h
  | _=>rw[hu] at h;exact gr h
end
section
variable {P:Program} {w w':World} {I I':Nat→Nat→Prop} {β β':Nat→Option Nat} {hp hp':Nat→Option af} {C:ae} {B:Nat} {M:Nat→Prop} {w0:Start}
theorem xo {e e1:TypeId} (h:rowOf P e=some e1):P.underlying e=some (.slice e1)∧cA P e=false∧dw P e=true∧dw P e1=true∧(flat P e1).all (ey P)=true:=by
 unfold rowOf at h;split at h
 ·rename_i e2 hu;cases hc:(!(cA P e)&&(dw P e&&(dw P e2&&(flat P e2).all (ey P)))) with
  | false=>rw[hc] at h;cases h
  | true=>
   rw[hc] at h;cases h;simp only[aK,nF] at hc;exact ⟨hu,hc.1,hc.2.1,hc.2.2.1,hc.2.2.2⟩
 ·cases h
theorem aj7 {e1:TypeId} (gR:(flat P e1).all (ey P)=true) {w:World} {b1 b':Nat} {e':TypeId} {l m:List V} {r:Path} (h:At P w b1 e1 l r b' e' m):r=[]∧b'=b1∧e'=e1∧m=l:=by
 cases h with
 | here=>exact ⟨rfl,rfl,rfl,rfl⟩
 | step h1 h2 h3 h4 h5 h6 h7 h8=>
  rw[su] at h3;have:=gC.1 gR _ (mR h3);unfold ey at this;rw[h4] at this;cases this
def zh (P:Program) (w:World) (e1:TypeId) (K:Nat→List V→Prop) (v:Value) (l:List V):Prop:=
 (l=[]∧∃a,v= .slice a 0 0)∨
 (∃b1 cap,0<cap∧v= .slice (some ⟨b1,0,none⟩) l.length cap∧cap*P.cellsOf e1=bsize w b1∧l.length≤cap∧cap≤maxLen∧K b1 l)
theorem ZL {b:Nat} {e e1:TypeId} {ys:List V} {vers:List Nat} {C':Array Value} (hr:rowOf P e=some e1)
  {T:TypeId} (vy:w'.heap[b]? =some (.cells C' T (0,0))) (hlen:ys.length≤C'.size) (dI: ∀j,¬I b j) (K:Nat→Nat→List V→Prop)
  (gI: ∀(i:Nat) x,ys[i]? =some x→∃l v,x= .list e1 l∧C'[i]? =some v∧zh P w e1 (K i) v l)
  (hK: ∀i b1 l,K i b1 l→b1≠b∧w'.heap[b1]? =w.heap[b1]? ∧iB P w I b1 e1 l)
  (tN: ∀i j b1 l m,K i b1 l→K j b1 m→i=j):
  (∀b',bB P w' (some b) (.nest e ys vers) b'→b'=b∨∃i l,K i b' l)∧
  ∀{cT ga},(∀b j,I b j→w'.cell? ⟨b,j,none⟩=w.cell? ⟨b,j,none⟩)→fi P w' I cT ga (some b) (.nest e ys vers):=by
 obtain ⟨hu,cX,aw,oK,gR⟩:=xo hr;have hLs:sm P T e C'.size:=fun eI=>by unfold isByte at eI;rw[hu] at eI;cases eI
 have kB:bc P e=[e]:=by simp[bc,cX]
 have hk:P.cellsOf e=1:=by rw[←fK aw,kB];rfl
 have zi: ∀x j,cu P e x j=x:=fun x j=>by simp[cu,cX]
 have E7: ∀q b2 e2 m,At P w' b e ys q b2 e2 m→(q=[]∧b2=b∧e2=e∧m=ys)∨∃i,q=[(i,0)]∧e2=e1∧K i b2 m:=by
  intro q b2 e2 m h;cases h with
  | here=>exact .inl ⟨rfl,rfl,rfl,rfl⟩
  | step h1 h2 h3 h4 h5 h6 h7 h8=>
   right;rw[vy] at h1;cases h1;rw[kB] at h3;obtain ⟨hc,ht⟩:=cO.1 h3;simp only[List.length_singleton,Nat.lt_one_iff] at hc;subst hc;simp only[List.getElem_singleton] at ht;subst ht;rw[hu] at h4;cases h4;rw[zi] at h5;subst h5;rw[hk,ij,Nat.add_zero] at h7;obtain ⟨l,v,hl,hv,hh⟩:=gI _ _ h2;cases hl;rw[hv] at h7;cases h7;rcases hh with ⟨rfl,a',he⟩|⟨b1',QT,_,he,_,_,_,vz⟩
   ·cases he;exact absurd h6 (nE _)
   ·cases he;obtain ⟨rfl,rfl,rfl,rfl⟩:=aj7 gR h8;exact ⟨_,rfl,rfl,vz⟩
 have kf: ∀i b1 l,K i b1 l→w'.heap[b1]? =w.heap[b1]? :=fun i b1 l h=>(hK i b1 l h).2.1;refine ⟨fun b' ho=> ?_,fun xm=> ?_⟩
 ·cases ho with
  | root _ h=>exact .inl (ew h).symm
  | row h ha=>
   cases h;rcases E7 _ _ _ _ ha with ⟨_,h,_,_⟩|⟨i,_,_,vz⟩
   ·exact .inl h
   ·exact .inr ⟨_,_,vz⟩
 ·refine .nest rfl (fun q b2 e2 m h=> ?_) (fun q1 q2 b2 e2 m2 e3 m3 h1 h2=> ?_)
  ·rcases E7 _ _ _ _ h with ⟨rfl,rfl,rfl,rfl⟩|⟨i,rfl,rfl,vz⟩
   ·refine ⟨aw,⟨C',_,vy,hLs,by rw[hk,ij];exact hlen,fun i j x t' hx ht hj=> ?_⟩,dI⟩;rw[hk] at hj;have Q3:j=0:=by omega
    subst Q3;rw[kB] at ht;simp only[List.getElem?_cons_zero,eX] at ht;subst ht;obtain ⟨l,v,rfl,hv,hh⟩:=gI _ _ hx;refine ⟨v,by rw[hk,ij,Nat.add_zero];exact hv,?_⟩;rw[zi];rcases hh with ⟨rfl,a,rfl⟩|⟨b1,cap,h0,rfl,hs,hl,hm,vz⟩
    ·exact .emp hu
    ·exact .row hu h0 (by rw[hs,EM (kf _ _ _ vz)]) hl hm
   ·obtain ⟨_,_,⟨ok,⟨Ca,T2,c1,c0,c2,c3⟩,nI⟩⟩:=hK _ _ _ vz;refine ⟨ok,⟨Ca,T2,(kf _ _ _ vz).trans c1,c0,c2,fun i' j x t' hx ht hj=> ?_⟩,nI⟩;obtain ⟨v,m1,m2⟩:=c3 i' j x t' hx ht hj;have iN:ey P t'=true:=by
     rw[su] at ht;exact gC.1 gR _ (mR ht)
    refine ⟨v,m1,?_⟩;generalize cu P e2 x j=y at m2;cases m2 with
    | gr a p=>exact .gr a (p.mono (fun _ _ h=>h) xm)
    | emp a=>unfold ey at iN;rw[a] at iN;cases iN
    | row a _ _ _ _=>unfold ey at iN;rw[a] at iN;cases iN
  ·rcases E7 _ _ _ _ h1 with ⟨rfl,rfl,_,_⟩|⟨i,rfl,_,k1⟩
   ·rcases E7 _ _ _ _ h2 with ⟨rfl,_,_,_⟩|⟨j,rfl,_,k2⟩
    ·rfl
    ·exact absurd rfl (hK _ _ _ k2).1
   ·rcases E7 _ _ _ _ h2 with ⟨rfl,rfl,_,_⟩|⟨j,rfl,_,k2⟩
    ·exact absurd rfl (hK _ _ _ k1).1
    ·rw[tN _ _ _ _ _ k1 k2]
theorem Q4 (S:aB P w I β hp B M w0) {id b:Nat} {e e1:TypeId} {es:List V} {vers:List Nat} (hr:rowOf P e=some e1) (ab:hp id=some (.nest e es vers)) (hb:β id=some b):
  ∃Ca T,w.heap[b]? =some (.cells Ca T (0,0))∧es.length≤Ca.size∧(∀j,¬I b j)∧
   (∀(i:Nat) x,es[i]? =some x→∃l v,x= .list e1 l∧Ca[i]? =some v∧zh P w e1 (fun b1 l=>At P w b e es [(i,0)] b1 e1 l) v l)∧
   (∀i b1 l,At P w b e es [(i,0)] b1 e1 l→b1≠b∧b1<w.heap.size∧iB P w I b1 e1 l∧(M b1∨B≤b1)∧bB P w (β id) (.nest e es vers) b1)∧
   ∀i j b1 l m,At P w b e es [(i,0)] b1 e1 l→At P w b e es [(j,0)] b1 e1 m→i=j:=by
 obtain ⟨hu,cX,aw,oK,gR⟩:=xo hr;have kB:bc P e=[e]:=by simp[bc,cX]
 have hk:P.cellsOf e=1:=by rw[←fK aw,kB];rfl
 have zi: ∀x j,cu P e x j=x:=fun x j=>by simp[cu,cX]
 have dg:=S.h.rel id _ ab;rw[hb] at dg;cases dg with
 | iM h=>cases h
 | nest aA dm lM=>
  cases aA;obtain ⟨_,⟨Ca,T,c1,_,c2,c3⟩,nI⟩:=dm _ _ _ _ .here;rw[hk,ij] at c2;refine ⟨Ca,T,c1,c2,nI,fun i x hx=> ?_,fun i b1 l ha=> ?_,fun i j b1 l m h1 h2=> ?_⟩
  ·obtain ⟨v,hv,ho⟩:=c3 i 0 x e hx (by rw[kB];rfl) (by rw[hk];exact Nat.one_pos);rw[hk,ij,Nat.add_zero] at hv;rw[zi] at ho;cases ho with
   | gr a _=>unfold ey at a;rw[hu] at a;cases a
   | emp a=>rw[hu] at a;cases a;exact ⟨[],_,rfl,hv,.inl ⟨rfl,_,rfl⟩⟩
   | @row _ l b1 cap a h0 hs hl hm=>
    rw[hu] at a;cases a;refine ⟨l,_,rfl,hv,.inr ⟨b1,cap,h0,rfl,hs,hl,hm,?_⟩⟩;exact .step c1 hx (by rw[kB];rfl) hu (zi _ _) h0 (by rw[hk,ij,Nat.add_zero];exact hv) .here
  ·have ho:bB P w (β id) (.nest e es vers) b1:= .row hb ha;refine ⟨fun h=> ?_,S.h.lt ab ho,dm _ _ _ _ ha,S.h.own id _ b1 ab ho,ho⟩;subst h;exact absurd (lM _ _ _ _ _ _ _ ha .here) (by simp)
  ·have:=lM _ _ _ _ _ _ _ h1 h2;simpa using this
theorem ZM (l:List Nat) (k:Nat) (h:k<l.length):bM l k<bM (l.map (· +1)) k:=by
 induction l generalizing k with
 | nil=>simp at h
 | cons a l ih=>
  cases k with
  | zero=>simp[bM]
  | succ k=>simpa[bM] using ih k (by simpa using h)
theorem aj8 {l:List Nat} {k:Nat} (h:l.length≤k):bM l k=0:=by
 induction l generalizing k with
 | nil=>rfl
 | cons a l ih=>
  cases k with
  | zero=>simp at h
  | succ k=>simpa[bM] using ih (by simpa using h)
theorem aj9 (S:aB P w I β hp B M w0) {id nb b i:Nat} {e e1:TypeId} {es:List V} {y:V} {vers:List Nat} (hr:rowOf P e=some e1) (ab:hp id=some (.nest e es vers)) (hb:β id=some b) (hy:es[i]? =some y) (hn:hp nb=none):
  ∃tQ,Le P w I β hp w I tQ (av (av hp id (some (.out e es (vers.map (· +1)) i))) nb (some (.arr e1 y.toList false)))∧
   aB P w I tQ (av (av hp id (some (.out e es (vers.map (· +1)) i))) nb (some (.arr e1 y.toList false))) B M w0∧
   ∀Ca v T f,w.heap[b]? =some (.cells Ca T f)→Ca[i]? =some v→ai P w I tQ (av (av hp id (some (.out e es (vers.map (· +1)) i))) nb (some (.arr e1 y.toList false))) v (.whole e1 nb):=by
 obtain ⟨hu,cX,aw,oK,gR⟩:=xo hr;obtain ⟨Ca,T0,c1,c2,nI,rc,rk,ru⟩:=Q4 S hr ab hb;have E8:bc P e1=flat P e1:=su e1;have kB:bc P e=[e]:=by simp[bc,cX]
 have zi: ∀x j,cu P e x j=x:=fun x j=>by simp[cu,cX]
 have hk:P.cellsOf e=1:=by rw[←fK aw,kB];rfl
 have sI:=(cO.1 hy).1;have Ln: ∀(j:Nat) l b1 cap,es[j]? =some (.list e1 l)→0<cap→Ca[j]? =some (.slice (some ⟨b1,0,none⟩) l.length cap)→At P w b e es [(j,0)] b1 e1 l:=
  fun j l b1 cap hx h0 hv=> .step c1 hx (by rw[kB];rfl) hu (zi _ _) h0 (by rw[hk,ij,Nat.add_zero];exact hv) .here
 have cm:nb≠id:=fun h=>by rw[h,ab] at hn;cases hn
 have sA: ∀b',bB P w (some b) (.out e es (vers.map (· +1)) i) b'→bB P w (some b) (.nest e es vers) b'∧∀l,¬At P w b e es [(i,0)] b' e1 l:=by
  intro b' ho;cases ho with
  | root _ h=>cases h;exact ⟨.root (by simp) rfl,fun l ha=>(rk _ _ _ ha).1 rfl⟩
  | @qg _ e2 _ l _ _ j b2 _ cap C' T f h1 h2 hj hx h0 hv=>
   cases h1;rw[c1] at h2;cases h2;obtain ⟨l',v',m1,m2,m3⟩:=rc _ _ hx;cases m1;have ha:=Ln _ _ _ _ hx h0 hv;exact ⟨.row rfl ha,fun l2 Lo=>hj (ru _ _ _ _ _ ha Lo)⟩
 have ZN:es≠[]:=fun h=>by rw[h] at sI;simp at sI
 obtain ⟨l1,S1⟩:=QE (w':=w) S (blk':= .out e es (vers.map (· +1)) i) ab (by simp)
  ⟨⟨rfl,rfl,by simp,fun k=>by
    by_cases hk:k<vers.length
    ·exact Nat.le_of_lt (ZM _ _ hk)
    ·rw[aj8 (by omega)];exact nH _⟩,fun k hk=>ZM _ _ hk,ZN⟩ hb nI (.inr (by simp)) (fun _ _=>rfl) rfl (az _) ⟨rfl,rfl⟩
  (fun b' h=> .inl (sA b' h).1) (fun _=>by
   refine .out rfl hu (by rw[E8];exact gR) c1 c2 sI nI (fun j x hj hx=> ?_) (fun j b1 cap l hj hx h0 hv=> ?_) (fun j k b1 c1 c2 l m hj hk hx hz h1 h2 hv vn=> ?_)
   ·obtain ⟨l,v,m1,m2,m3⟩:=rc j x hx;refine ⟨l,v,m1,m2,?_⟩;subst m1;rcases m3 with ⟨rfl,a,rfl⟩|⟨b1,cap,h0,rfl,q1,q2,q3,_⟩
    ·exact .emp hu
    ·exact .row hu h0 q1 q2 q3
   ·have:=rk _ _ _ (Ln _ _ _ _ hx h0 hv);exact ⟨this.1,this.2.2.1⟩
   ·exact ru _ _ _ _ _ (Ln _ _ _ _ hx h1 hv) (Ln _ _ _ _ hz h2 vn))
 have ja:av hp id (some (.out e es (vers.map (· +1)) i)) nb=none:=by rw[cK _ _ cm];exact hn
 obtain ⟨l,v,xp,hv,gI⟩:=rc i y hy;subst xp;rcases gI with ⟨rfl,a,rfl⟩|⟨b1,cap,h0,rfl,q1,q2,q3,ha⟩
 ·obtain ⟨a1,a2⟩:=ER S1 (fz:=false) e1 ja;refine ⟨_,l1.trans a1,a2,fun y9 v' T f h1 h2=> ?_⟩;rw[c1] at h1;cases h1;rw[hv] at h2;cases h2;exact .ej (bW _ _ _) (bW _ _ _)
 ·obtain ⟨d1,d2,⟨ok,⟨C1,_,e2,e0,e3,e4⟩,ZO⟩,d4,d5⟩:=rk _ _ _ ha;obtain ⟨a1,a2⟩:=BK S1 (w':=w) (blk:= .arr e1 l false) (b:=b1) ja
   (fun ax blk' h ho=>by
    by_cases hi:ax=id
    ·subst hi;rw[bW] at h;cases h;rw[hb] at ho;exact (sA _ ho).2 _ ha
    ·rw[cK _ _ hi] at h;exact hi (S.h.inj _ _ _ _ _ h ab ho d5))
   (fun j h=>absurd h (ZO j)) (fun _ _ _=>rfl) (az _) ⟨rfl,rfl⟩ d4 (fun b' h=>(ew (h.flat (by simp))).symm)
   (fun hle=> .arr e0 oK rfl e2 e3 (fun h=>by cases h) (fun _=>ZO) fun i' j x t' k1 k2 k3=>by
    obtain ⟨u,m1,m2⟩:=e4 i' j x t' k1 k2 k3;have iN:ey P t'=true:=by
     rw[E8] at k2;exact gC.1 gR _ (mR k2)
    refine ⟨u,m1,?_⟩;generalize cu P e1 x j=z at m2⊢;cases m2 with
    | gr _ p=>exact p
    | emp a=>unfold ey at iN;rw[a] at iN;cases iN
    | row a _ _ _ _=>unfold ey at iN;rw[a] at iN;cases iN)
  refine ⟨_,l1.trans a1,a2,fun y9 v' T f h1 h2=> ?_⟩;rw[c1] at h1;cases h1;rw[hv] at h2;cases h2;exact .whole (es:=l) (bW _ _ _) (bW _ _ _) q1 q2 q3
theorem aka (S:aB P w I β hp B M w0) {t e e1:TypeId} {v:Value} {id bD b i:Nat} {es cb:List V} {vers:List Nat} (hr:rowOf P e=some e1) (ab:hp id=some (.out e es vers i)) (hb:β id=some b)
  (ht:qd P t=true) (hn:P.cellsOf t=1) (dE:hp bD=some (.arr e1 cb false)) (cm:id≠bD) (hv:ai P w I β hp v (.whole e1 bD)):
  sC P ((Instr.storeAt t (.pointer (some ⟨b,i*P.cellsOf e+0,none⟩)) v).run P w) w I β hp B M w0 ⟨.undef,[(id,.nest e (es.set i (.list e1 cb)) vers),(bD,.dead)]⟩:=by
 obtain ⟨hu,cX,aw,oK,gR⟩:=xo hr;have kB:bc P e=[e]:=by simp[bc,cX]
 have hk:P.cellsOf e=1:=by rw[←fK aw,kB];rfl
 obtain ⟨tP,S1⟩:=xi S dE;have sE:av hp bD (some .dead) id=some (.out e es vers i):=by rw[cK _ _ cm];exact ab
 have dg:=S.h.rel id _ ab;rw[hb] at dg;cases dg with
 | out aA lg ayX hh hs hi hI hc dm lM=>
 cases aA;rw[hu] at lg;cases lg;rename_i Ca;have gI: ∃K:Nat→List V→Prop,zh P w e1 K v cb∧(∀b1 l,K b1 l→b1≠b∧iB P w I b1 e1 l∧(M b1∨B≤b1)∧(∀ax blk',av hp bD (some .dead) ax=some blk'→¬bB P w (β ax) blk' b1))∧v.cells= #[v]∧v.oneCell'=true:=by
  cases hv with
  | eC hd=>rw[dE] at hd;cases hd
  | ee hd=>rw[dE] at hd;cases hd
  | eF hd=>rw[dE] at hd;cases hd
  | fC hd=>rw[dE] at hd;cases hd
  | @ej _ _ _ a0 hd hb=>rw[dE] at hd;cases hd;exact ⟨fun _ _=>False,.inl ⟨rfl,a0,rfl⟩,fun _ _ h=>h.elim,rfl,rfl⟩
  | @whole _ _ _ _ b2 cap hd fD bw cf hm=>
   rw[dE] at hd;cases hd;obtain ⟨m1,m2⟩:=Q0 S dE fD gR;obtain ⟨m3,m4⟩:=m1 _ _ _ _ .here;rcases Nat.eq_zero_or_pos cap with h0|h0
   ·subst h0;obtain rfl:=wJ.1 (tx.1 cf);exact ⟨fun _ _=>False,.inl ⟨rfl,_,rfl⟩,fun _ _ h=>h.elim,rfl,rfl⟩
   ·refine ⟨fun b1 l=>b1=b2∧l=cb,.inr ⟨b2,cap,h0,rfl,bw,cf,hm,rfl,rfl⟩,fun b1 l h=> ?_,rfl,rfl⟩;obtain ⟨rfl,rfl⟩:=h;refine ⟨fun h=> ?_,m3,S.h.own bD _ _ dE m4,fun ax blk' h' ho=> ?_⟩
    ·subst h;exact cm (S.h.inj _ _ _ _ _ ab dE (.root (by simp) hb) m4)
    ·by_cases q:ax=bD
     ·subst q;rw[bW] at h';cases h';exact absurd rfl ho.alive
     ·rw[cK _ _ q] at h';exact q (S.h.inj ax bD _ _ _ h' dE ho m4)
 obtain ⟨K,k1,k2,k3,k4⟩:=gI;have sI:i<Ca.size:=by omega
 have da:=Ld (t:=t) (o:=i*P.cellsOf e+0) (v:=v) ht (by rw[hn,k3];rfl) hh (by rw[k3,hk];simp;omega) (by rw[k3];simp[k4]);rw[k3,hk,ij,Nat.add_zero] at da;have hC:(Ca.toList.take i++(#[v].toList++Ca.toList.drop (i+ #[v].toList.length))).toArray.size=Ca.size:=by simp;omega
 have jq: ∀j,(Ca.toList.take i++(#[v].toList++Ca.toList.drop (i+ #[v].toList.length))).toArray[j]? =if j=i then some v else Ca[j]? :=by
  intro j;rw[o4,rj _ _ _ _ (by simp;omega)];simp only[List.length_singleton,qR];by_cases h1:j<i
  ·rw[ah h1,ag (by omega)]
  ·rw[ag h1];by_cases h2:j=i
   ·subst h2;simp
   ·rw[ag (by omega),ag h2]
 rw[hk,ij,Nat.add_zero];generalize hCb:(Ca.toList.take i++(#[v].toList++Ca.toList.drop (i+ #[v].toList.length))).toArray=Cb at da hC jq;have dU:=setRow_heap w b Ca Cb _ (0,0) hh;have tO:=fun k (hk:k≠b)=>setRow_other w b k Cb hk;obtain ⟨p1,p2⟩:=ZL (w:=w) (w':=w.setRow b Cb) (I:=I) (vers:=vers) (ys:=es.set i (.list e1 cb)) hr dU (by simp;omega) hI
  (fun j b1 l=>(j=i∧K b1 l)∨(j≠i∧∃cap,es[j]? =some (.list e1 l)∧0<cap∧Ca[j]? =some (.slice (some ⟨b1,0,none⟩) l.length cap)))
  (fun j x hx=>by
   rw[yE] at hx;rw[jq];by_cases hj:i=j
   ·subst hj;simp only[kR,ah hi,eX] at hx;subst hx;refine ⟨cb,v,rfl,ah rfl,?_⟩;rcases k1 with h|⟨b1,cap,h0,h1,h2,h3,h4,h5⟩
    ·exact .inl h
    ·exact .inr ⟨b1,cap,h0,h1,h2,h3,h4,.inl ⟨rfl,h5⟩⟩
   ·rw[ag hj] at hx;rw[ag (fun h=>hj h.symm)];obtain ⟨l,u,m1,m2,m3⟩:=hc j x (fun h=>hj h.symm) hx;subst m1;refine ⟨l,u,rfl,m2,?_⟩;cases m3 with
    | gr a _=>unfold ey at a;rw[hu] at a;cases a
    | emp a=>exact .inl ⟨rfl,_,rfl⟩
    | @row _ _ b1 cap a h0 c d f=>exact .inr ⟨b1,cap,h0,rfl,by rw[hu] at a;cases a;exact c,d,f,.inr ⟨fun h=>hj h.symm,cap,hx,h0,m2⟩⟩)
  (fun j b1 l h=>by
   rcases h with ⟨_,h⟩|⟨hj,cap,hx,h0,hv⟩
   ·exact ⟨(k2 _ _ h).1,tO _ (k2 _ _ h).1,(k2 _ _ h).2.1⟩
   ·obtain ⟨q1,q2⟩:=dm _ _ _ _ hj hx h0 hv;exact ⟨q1,tO _ q1,q2⟩)
  (fun j j' b1 l m h1 h2=>by
   have no: ∀{j l m},K b1 l→(j≠i∧∃cap,es[j]? =some (.list e1 m)∧0<cap∧Ca[j]? =some (.slice (some ⟨b1,0,none⟩) m.length cap))→False:=fun h ⟨hj,cap,hx,h0,hv⟩=>
    (k2 _ _ h).2.2.2 _ _ sE (by rw[hb];exact .qg rfl hh hj hx h0 hv)
   rcases h1 with ⟨h,h1⟩|h1
   ·rcases h2 with ⟨h',h2⟩|h2
    ·omega
    ·exact (no h1 h2).elim
   ·rcases h2 with ⟨_,h2⟩|h2
    ·exact (no h2 h1).elim
    ·obtain ⟨hj,cap,hx,h0,hv⟩:=h1;obtain ⟨jM,QT,dy,Q5,E9⟩:=h2;exact lM _ _ _ _ _ _ _ hj jM hx dy h0 Q5 hv E9)
 obtain ⟨a1,a2⟩:=QE S1 (w':=w.setRow b Cb) (blk':= .nest e (es.set i (.list e1 cb)) vers) sE (by simp) ⟨rfl,by simp,rfl,fun _=>az _⟩ hb hI (.inl (by simp)) tO (by rw[kY dU,kY hh,hC]) (by simp) ⟨rfl,rfl⟩
  (fun b' ho=>by
   rcases p1 b' ho with rfl|⟨j,l,⟨_,h⟩|⟨hj,cap,hx,h0,hv⟩⟩
   ·exact .inl (.root (by simp) rfl)
   ·exact .inr ⟨(k2 _ _ h).2.2.1,(k2 _ _ h).2.2.2⟩
   ·exact .inl (.qg rfl hh hj hx h0 hv))
  (fun hle=>p2 hle.cZ)
 exact ⟨_,I,β,da,tP.trans a1,a2,rfl⟩
end
section
variable {P:Program} {w w':World} {I I':Nat→Nat→Prop} {β β':Nat→Option Nat} {hp hp':Nat→Option af} {C:ae} {B:Nat} {M:Nat→Prop} {w0:Start}
theorem akb (S:aB P w I β hp B M w0) {t:TypeId} {a v:Value} {xa x:V} {r:R} {rd:List Nat} (ha:ai P w I β hp a xa) (hv:ai P w I β hp v x)
  (h:(P9 P t xa x).run C hp=some (r,rd)):sC P ((Instr.storeAt t a v).run P w) w I β hp B M w0 r:=by
 unfold P9 at h;obtain ⟨h0,h⟩:=aH h;simp only[aK,ba] at h0;obtain ⟨ht,hn⟩:=h0;cases xa with
 | ptr id i c=>
  obtain ⟨l,h⟩:=run_get h;cases ab:hp id with
  | none=>rw[ab] at h;cases h
  | some blk=>
   rw[ab] at h;cases blk with
   | dead=>cases h
   | var T0 cs=>
    obtain ⟨ZP,h⟩:=aH h;have sD:tB P T0=true→0<c:=fun b9=>by
     rw[b9] at ZP;simpa using ZP
    obtain ⟨b,hb,rfl⟩:=ha.iZ ab (by simp);simp only[af.sz,Nat.mul_zero,ed];cases vp:(Bv P t cs&&fp P t x) with
    | true=>
     dsimp only at h;rw[vp] at h;simp only[cond_true] at h;obtain ⟨hc,h⟩:=aH h;obtain rfl:=aZ h;simp only[aK,oA] at hc vp;obtain ⟨o1,o2⟩:=ZE hv vp.2;have tM:=ajV vp.2;refine ZD S ab hb ht hn (by rw[o2,tM];rfl) sD (fun j u y hu hy=> ?_) (by rw[o2];simp[o1]) (by rw[tM];simp;omega) (ZC _ _ _ _) (fun j y hy hj u hu=> ?_) (fun j y hy hj u hu=> ?_)
     ·rw[o2] at hu;rw[tM] at hy;cases j with
      | zero=>simp at hu hy;subst hu;subst hy;exact hv
      | succ j=>simp at hy
     ·rw[QN] at hy;cases BQ:cs[j]? with
      | none=>rw[BQ] at hy;cases hy
      | some y0=>
       rw[BQ] at hy;simp only[Option.map_some,eX] at hy;rw[tM] at hj;simp only[List.length_singleton] at hj;have cm:Nat.beq c (0+j)=false:=by
        cases hq:Nat.beq c (0+j) with
        | false=>rfl
        | true=>rw[ba] at hq;omega
       rw[cm] at hy;have:=Zr (c:=false) hv (hu y0 BQ);rw[←hy];simpa using this
     ·rw[tM] at hj hu;have Q3:j=0:=by simpa using hj
      subst Q3;rw[QN] at hy;cases BQ:cs[c+0]? with
      | none=>rw[BQ] at hy;cases hy
      | some y0=>
       rw[BQ] at hy;simp only[Option.map_some,eX] at hy;have heq:Nat.beq c (0+(c+0))=true:=by rw[ba];omega
       rw[heq] at hy;have h2:ai P w I β hp u x:=hu x rfl;have:wY true x y0=x:=ajW x y0;rw[←hy,this];exact h2
    | false=>
     dsimp only at h;rw[vp] at h;simp only[cond_false] at h;obtain ⟨hc,h⟩:=aH h;simp only[aK,fo] at hc;obtain ⟨e1,e2⟩:=QM hv h;obtain ⟨h1,l2,h⟩:=Lc h (vs:=v.cells.toList) (by simpa using e1) (fun j u y a b=>e2 j u y (by simpa using a) b);obtain rfl:=aZ h;refine ZD S ab hb ht hn e1 sD e2 h1 hc.2 (E0 _ _ _ hc.2) (fun j y hy hj u hu=> ?_) (fun j y hy hj u hu=> ?_)
     ·unfold jg at hy;rw[rj _ _ _ _ hc.2] at hy;rcases hj with hj|hj
      ·rw[ah hj] at hy;exact hu y hy
      ·rw[cl,cl] at hy;exact hu y hy
     ·unfold jg at hy;rw[rj _ _ _ _ hc.2,cl,br] at hy;rw[show c+j-c=j by omega] at hy;exact hu y hy
   | arr e es fz=>
    cases fz with
    | true=>cases h
    | false=>
    obtain ⟨b,hb,rfl⟩:=ha.iZ ab (by simp);obtain ⟨aw,h⟩:=aH h;obtain ⟨⟨ys,fr⟩,l1,l2,bX,h⟩:=oF h;obtain ⟨hc,h⟩:=aH h;obtain ⟨x0,sG,h⟩:=oE h;obtain rfl:=aZ h;simp only[aK,nF,fo] at hc;obtain ⟨gu,hc3,im⟩:=hc;have rl:v.cells.size=x.cells.length∧∀(j:Nat) u y,v.cells.toList[j]? =some u→x.cells[j]? =some y→ai P w I β hp u y:=by
     cases x with
     | agg xs=>
      obtain ⟨cs,rfl,h1,h2⟩:=hv.nT;exact ⟨h1,fun j u y a b=>h2 j u y (by simpa[Value.cells] using a) b⟩
     | _=>
      simp only[V.cells] at bX im⊢;simp only[wX] at bX;obtain ⟨⟨y1,u1⟩,l3,l4,hq,bX⟩:=oF bX;obtain ⟨q1,q2⟩:=K5 S.h.rel hq hv;obtain ⟨⟨y2,u2⟩,l5,l6,sJ,bX⟩:=oF bX;cases sJ;have:=aZ bX;cases this;obtain ⟨tl,tg⟩:=zf im;have fj:=tg 0 _ y1 (cp (by rw[tl];exact Nat.one_pos)) rfl;have fS:=q2 (lN P w I β hp u1) (fun _ _ h=> .inl h) (fun p hp b j h=> .inr ⟨p,hp,h⟩);have ho:=fS.pure fj;have ZQ:v.cells= #[v]:=by cases ho<;>rfl
      rw[ZQ];refine ⟨rfl,fun j u y hu hy=> ?_⟩;cases j with
      | zero=>simp at hu hy;subst hu;subst hy;exact hv
      | succ j=>simp at hy
    obtain ⟨k1,k2,k3⟩:=QC S.h.rel bX (vs:=v.cells.toList) (by simpa using rl.1) rl.2;obtain ⟨tP,S1⟩:=EP S k2;have sE:cB hp fr id=some (.arr e es false):=by
     rcases y6 (hp:=hp) (l:=fr) (id:=id) with h|⟨b',hm,_⟩
     ·exact h.trans ab
     ·exfalso;have oL:jf (fr.map (·.1)) id=true:=BM (j5.2 ⟨_,hm,rfl⟩);rw[oL] at gu;cases gu
    have ZR:=k3 (lN P w I β hp fr) (fun _ _ h=> .inl h) (fun p hp b j h=> .inr ⟨p,hp,h⟩);obtain ⟨tl,tg⟩:=zf im;have gR:=(oG aw).1;have xp:ys.length=v.cells.size:=by rw[k1,rl.1]
    have hcn:c+v.cells.size≤P.cellsOf e:=by rw[rl.1];exact hc3
    have hr:=S1.h.rel id _ sE;cases hr with
    | eZ aA=>simp at sG
    | @arr _ _ _ _ b' Ca hL QK aA hh hs hf fQ hx=>
     rw[hb] at aA;cases aA;have pj:i<es.length:=(cO.1 sG).1;have hbound:i*P.cellsOf e+P.cellsOf e≤Ca.size:=by
      have:(i+1)*P.cellsOf e≤es.length*P.cellsOf e:=eV _ pj;rw[kQ] at this;omega
     simp only[af.sz];have xk:i*P.cellsOf e+c+v.cells.size≤Ca.size:=by omega
     have dI: ∀j,¬lN P w I β hp fr b j:=fQ rfl;have h1: ∀u∈v.cells.toList,u.oneCell'=true:=by
      intro u hu;obtain ⟨j,hj⟩:=tz hu;have eD:j<ys.length:=by rw[xp];simpa using (cO.1 hj).1
      have sH:j<(((flat P e).drop c).take x.cells.length).length:=by rw[tl];exact eD
      exact (ZR j u ys[j] hj (cp eD)).one (tg j _ ys[j] (cp sH) (cp eD))
     have da:=Ld (t:=t) (o:=i*P.cellsOf e+c) (v:=v) ht (by rw[rl.1];exact hn.symm) hh xk h1;have hlen:(Ca.toList.take (i*P.cellsOf e+c)++(v.cells.toList++Ca.toList.drop (i*P.cellsOf e+c+v.cells.toList.length))).length=Ca.size:=by
      rw[E0 _ _ _ (by simpa using xk)];simp
     have fS:(parts P e x0).length=P.cellsOf e:=by rw[BL];exact fK aw
     have E1:=Lf S1 (blk':= .arr e (es.set i (dP P e (jg (parts P e x0) c ys))) false)
      (Cb:=(Ca.toList.take (i*P.cellsOf e+c)++(v.cells.toList++Ca.toList.drop (i*P.cellsOf e+c+v.cells.toList.length))).toArray) sE (by simp) ⟨rfl,by simp⟩ hb dI (by simp) hh (by simpa using hlen)
      (fun hle dU=> .arr (by rw[rY,hlen];exact hL) aw rfl dU (by simp only[rY,wO];omega) (fun h=>by cases h) (fun _=>dI) fun i' j z t' hz sH hj=>by
       simp only[o4];rw[rj _ _ _ _ (by simpa using xk)];simp only[Array.length_toList];rw[yE] at hz;by_cases m9:i=i'
       ·subst m9;rw[ah rfl,ah pj] at hz;cases hz;have Lq:j<(parts P e x0).length:=by omega
        have zj:(jg (parts P e x0) c ys)[j]? =if j<c then (parts P e x0)[j]? else if j<c+ys.length then ys[j-c]? else (parts P e x0)[j]? :=by
         unfold jg;exact rj _ _ _ _ (by omega)
        by_cases vq:j<c
        ·rw[br];rw[ah vq] at zj;obtain ⟨u,t2,a1,a2,a3⟩:=La hx aw sG (cp Lq);rw[sH] at a1;cases a1;refine ⟨u,by simpa using a2,?_⟩;rw[vr (zj.trans (cp Lq)) sH];exact a3.mono hle.eN hle.cZ
        ·rw[ag vq] at zj;by_cases cS:j<c+ys.length
         ·rw[ah cS] at zj;rw[cl,br];have tR:j-c<ys.length:=by omega
          have ZS:j-c<v.cells.toList.length:=by simp;omega
          have ayY:j-c<v.cells.size:=by omega
          refine ⟨v.cells.toList[j-c],?_,?_⟩
          ·rw[show i*P.cellsOf e+j-(i*P.cellsOf e+c)=j-c by omega];exact cp ZS
          ·rw[vr (zj.trans (cp tR)) sH];have hft:(((flat P e).drop c).take x.cells.length)[j-c]? =some t':=by
            rw[iQ (by omega),qQ,show c+(j-c)=j by omega,←su];exact sH
           exact ((ZR (j-c) _ ys[j-c] (cp ZS) (cp tR)).pure (tg (j-c) t' ys[j-c] hft (cp tR))).mono hle.eN hle.cZ
         ·rw[ag cS] at zj;rw[cl,cl];obtain ⟨u,t2,a1,a2,a3⟩:=La hx aw sG (cp Lq);rw[sH] at a1;cases a1;refine ⟨u,by simpa using a2,?_⟩;rw[vr (zj.trans (cp Lq)) sH];exact a3.mono hle.eN hle.cZ
       ·rw[ag m9] at hz;obtain ⟨u,a2,a3⟩:=hx i' j z t' hz sH hj;have cm:i'*P.cellsOf e+j<i*P.cellsOf e+c∨i*P.cellsOf e+c+v.cells.size≤i'*P.cellsOf e+j:=by
         rcases fH i' i with bf|rm
         ·left;have:(i'+1)*P.cellsOf e≤i*P.cellsOf e:=eV _ bf;rw[kQ] at this;omega
         ·right;have:(i+1)*P.cellsOf e≤i'*P.cellsOf e:=eV _ (by omega);rw[kQ] at this;omega
        refine ⟨u,?_,a3.mono hle.eN hle.cZ⟩;rcases cm with cm|cm
        ·rw[ah cm];simpa using a2
        ·rw[cl,cl];simpa using a2)
     exact ⟨_,_,_,da,tP.trans E1.1,E1.2,rfl⟩
   | map _ _=>cases h
   | out e es vers j=>
    obtain ⟨b,hb,rfl⟩:=ha.iZ ab (by simp);unfold Zc at h;obtain ⟨hc,h5⟩:=aH h;clear h;simp only[aK,ba] at hc;obtain ⟨rfl,rfl⟩:=hc;cases hr:rowOf P e with
    | none=>simp only[hr] at h5;cases h5
    | some e1=>
     simp only[hr] at h5;cases x with
     | whole e3 bD=>
      obtain ⟨l1,h6⟩:=run_get h5;cases dE:hp bD with
      | none=>rw[dE] at h6;cases h6
      | some cL=>
       rw[dE] at h6;cases cL with
       | arr e4 cb fz=>
        cases fz with
        | true=>cases h6
        | false=>
         obtain ⟨hc,h7⟩:=aH h6;obtain rfl:=aZ h7;simp only[aK,ba,nF] at hc;obtain ⟨rfl,rfl,cm⟩:=hc;exact aka S hr ab hb ht hn.symm dE (fun e=>by rw[e,nG] at cm;cases cm) hv
       | _=>cases h6
     | _=>cases h5
   | nest e es vers=>
    obtain ⟨b,hb,rfl⟩:=ha.iZ ab (by simp);exact ZK S ht hn hv ab hb .here h
 | dS id ver path i c=>
  obtain ⟨e0,es,vers,l,ab,h1,h2,h3,h⟩:=ra h;obtain ⟨b,b1,e1,l1,hb,fR,rfl⟩:=ha.Zm ab h1 h2 h3;exact ZK S ht hn hv ab hb fR h
 | _=>cases h
end
section
variable {P:Program} {w w':World} {I I':Nat→Nat→Prop} {β β':Nat→Option Nat} {hp hp':Nat→Option af} {C:ae} {B:Nat} {M:Nat→Prop} {w0:Start}
theorem Lr: ∀{ts:List TypeId} {vs:List Value} {j:Nat} {y:V},(j6 P ts vs)[j]? =some y→∃t v,ts[j]? =some t∧vs[j]? =some v∧y=qT P t v
 | [],vs,j,y,h=>by simp[j6] at h
 | _::_,[],j,y,h=>by simp[j6] at h
 | t::ts,v::vs,0,y,h=>by simp[j6] at h;grind
 | t::ts,v::vs,j+1,y,h=>by
  simp only[j6,List.getElem?_cons_succ] at h;obtain ⟨t',v',a,b,c⟩:=Lr h;grind
theorem ZT: ∀{ts:List TypeId} {vs:List Value},ts.length=vs.length→(j6 P ts vs).length=vs.length
 | [],[],_=>rfl
 | [],_::_,h=>by simp at h
 | _::_,[],h=>by simp at h
 | t::ts,v::vs,h=>by simp[j6,ZT (ts:=ts) (vs:=vs) (by grind)]
theorem kC {e:TypeId} (h:dw P e=true): ∃i z,P.info? e=some i∧i.zero=some z∧i.size=P.cellsOf e∧z.cells.size=P.cellsOf e∧zeroCells P e=j6 P (flat P e) z.cells.toList:=by
 unfold dw at h;simp only[aK,ba,oA] at h;obtain ⟨h1,h2,_,h3⟩:=h;cases hi:P.info? e with
 | none=>grind
 | some i=>
  rw[hi] at h3;simp only[Option.bind_some] at h3;cases hz:i.zero with
  | none=>grind
  | some z=>
   rw[hz] at h3;simp only[ba] at h3;exact ⟨i,z,rfl,hz,by simp[Program.cellsOf,hi],h3,by simp[zeroCells,hi,hz]⟩
theorem ZU {e:TypeId} (h:dw P e=true): ∃i z,P.info? e=some i∧i.zero=some z∧z.cells.size=(zeroCells P e).length∧z.cells.size=P.cellsOf e∧
  ∀(j:Nat) v x,z.cells[j]? =some v→(zeroCells P e)[j]? =some x→ai P w I β hp v x:=by
 obtain ⟨i,z,h1,h2,h3,h4,h5⟩:=kC h;have hl:(flat P e).length=z.cells.toList.length:=by rw[(oG h).1];grind
 refine ⟨i,z,h1,h2,?_,h4,fun j v x hv hx=> ?_⟩
 ·rw[h5,ZT hl];simp
 ·rw[h5] at hx;obtain ⟨t,v',_,E9,rfl⟩:=Lr hx;have:v'=v:=by
   grind
  subst this;exact ai.const t v'
theorem mz {nb:Nat} {b:af} {v:V} {upd:List (Nat×af)} {r:R} {rd:List Nat} (h:(jh nb b v upd).run C hp=some (r,rd)):hp nb=none∧r=⟨v,(nb,b)::upd⟩:=by
 obtain ⟨l,h⟩:=run_get h;cases hn:hp nb with
 | none=>rw[hn] at h;exact ⟨rfl,(aZ h).symm⟩
 | some x=>rw[hn] at h;cases h
theorem ZV (S:aB P w I β hp B M w0) {nb:Nat} {xs:List V} {C0:Array Value} {T:TypeId} (hn:hp nb=none) (hs:C0.size=xs.length)
  (hx: ∀(j:Nat) v x,C0[j]? =some v→xs[j]? =some x→ai P w I β hp v x) (iY:Zh P w.heap.size T C0):
  Le P w I β hp (w.alloc (.cells C0 T)) I (av β nb (some w.heap.size)) (av hp nb (some (.var T xs)))∧aB P (w.alloc (.cells C0 T)) I (av β nb (some w.heap.size)) (av hp nb (some (.var T xs))) B M w0∧
  ai P (w.alloc (.cells C0 T)) I (av β nb (some w.heap.size)) (av hp nb (some (.var T xs))) (.pointer (some ⟨w.heap.size,0,none⟩)) (.ptr nb 0 0):=by
 obtain ⟨h1,h2⟩:=QF S (blk:= .var T xs) (c:=C0) (T:=T) hn (fun b' h=>(ew (h.flat (by simp))).symm) (fun hle dU dI=> .var rfl dU hs dI (fun j v x a b=>(hx j v x a b).mono hle) iY);refine ⟨h1,h2,?_⟩;have:=ai.ptr (P:=P) (w:=w.alloc (.cells C0 T)) (I:=I) (β:=av β nb (some w.heap.size)) (hp:=av hp nb (some (.var T xs))) (i:=0) (c:=0) (blk:= .var T xs) (bW _ _ _) (by simp) (bW _ _ _);grind
theorem ZW (S:aB P w I β hp B M w0) {e:TypeId} {nb:Nat} {r:R} {rd:List Nat}
  (h:(Rd.aD (dw P e&&(!(tB P e)||Zb (zeroCells P e))) (jh nb (.var e (zeroCells P e)) (.ptr nb 0 0) [])).run C hp=some (r,rd)):dJ P ((Instr.alloc e true (.tuple #[])).run P w) w I β hp B M w0 r:=by
 obtain ⟨aw,h⟩:=aH h;rw[aK] at aw;obtain ⟨aw,sD⟩:=aw;obtain ⟨hn,rfl⟩:=mz h;obtain ⟨i,z,h1,h2,h3,h4,h5⟩:=ZU (w:=w) (I:=I) (β:=β) (hp:=hp) aw;obtain ⟨a,b,c⟩:=ZV S (T:=e) hn h3 h5 fun b9=>by
  rw[b9,D4,Bool.false_or] at sD;cases hz:zeroCells P e with
  | nil=>rw[hz] at sD;cases sD
  | cons y l=>
   rw[hz] at sD h3 h5;cases y<;>first|(cases sD;done)|skip
   have bf:0<z.cells.size:=by grind
   have:=h5 0 z.cells[0] .fg (mj bf) rfl;left;rw[mj bf];generalize z.cells[0]=u at this;cases this;rfl
 exact ⟨_,_,_,_,by simp[Instr.alloc,zeroValue,typeInfo,h1,h2,newVar,newRow],a,b,c⟩
theorem akc (S:aB P w I β hp B M w0) {e:TypeId} {nb:Nat} {x:V} {v:Value} {r:R} {rd:List Nat} (hv:ai P w I β hp v x)
  (h:(Rd.aD (!(tB P e)) <| o9 x.cells (jh nb (.var e x.cells) (.ptr nb 0 0) [])).run C hp=some (r,rd)):dJ P ((Instr.box e v).run P w) w I β hp B M w0 r:=by
 obtain ⟨sD,h⟩:=aH h;obtain ⟨e1,e2⟩:=QM hv h;obtain ⟨_,l,h⟩:=Lc h (vs:=v.cells.toList) (by omega) (fun j u y a b=>e2 j u y (by grind) b);obtain ⟨hn,rfl⟩:=mz h;obtain ⟨a,b,c⟩:=ZV S (T:=e) hn e1 e2 fun b9=>by grind
 exact ⟨_,_,_,_,by simp[Instr.box,newVar,newRow],a,b,c⟩
theorem foldl_set (off:Nat): ∀(vs:List Value) (k:Nat) (cs:Array Value) (i:Nat),off+k+vs.length≤cs.size→
  ((vs.zipIdx k).foldl (fun cs p=>cs.setIfInBounds (off+p.2) p.1) cs)[i]? =if i<off+k then cs[i]? else if i<off+k+vs.length then vs[i-(off+k)]? else cs[i]?
 | [],k,cs,i,h=>by simp_all
 | v::vs,k,cs,i,h=>by
  simp only[List.zipIdx_cons,List.foldl_cons];simp only[List.length_cons] at h⊢;rw[foldl_set off vs (k+1) _ i (by simp;omega)];grind
theorem ZX (off:Nat): ∀(vs:List Value) (k:Nat) (cs:Array Value),((vs.zipIdx k).foldl (fun cs p=>cs.setIfInBounds (off+p.2) p.1) cs).size=cs.size
 | [],k,cs=>rfl
 | v::vs,k,cs=>by
  simp only[List.zipIdx_cons,List.foldl_cons];rw[ZX off vs (k+1)];simp
theorem ZY {cells:Array Value} {off:Nat} {v:Value} (h:off+v.cells.size≤cells.size) (i:Nat):
  (v.cells.zipIdx.foldl (fun cs (p:Value×Nat)=>cs.setIfInBounds (off+p.2) p.1) cells)[i]? =if i<off then cells[i]? else if i<off+v.cells.size then v.cells[i-off]? else cells[i]? :=by
 have:=foldl_set off v.cells.toList 0 cells i (by omega);rw[←Kg];grind
theorem ZZ {cells:Array Value} {off:Nat} {v:Value}:(v.cells.zipIdx.foldl (fun cs (p:Value×Nat)=>cs.setIfInBounds (off+p.2) p.1) cells).size=cells.size:=by
 have:=ZX off v.cells.toList 0 cells;rw[←Kg];grind
inductive BR (P:Program) (w:World) (I:Nat→Nat→Prop) (β:Nat→Option Nat) (hp:Nat→Option af):List (Nat×Value)→List (Nat×V)→Prop
 | nil:BR P w I β hp [] []
 | cons {i:Nat} {v:Value} {x:V} {vs:List (Nat×Value)} {xs:List (Nat×V)}:v.cells.size=x.cells.length→(∀(j:Nat) u y,v.cells[j]? =some u→x.cells[j]? =some y→ai P w I β hp u y)→
   BR P w I β hp vs xs→BR P w I β hp ((i,v)::vs) ((i,x)::xs)
theorem Z0 (place:Nat→Option (Nat×Nat)): ∀{vs:List (Nat×Value)} {px:List (Nat×V)} {cells:Array Value} {xs ys:List V},BR P w I β hp vs px→cells.size=xs.length→
  (∀(j:Nat) v x,cells[j]? =some v→xs[j]? =some x→ai P w I β hp v x)→yS place xs px=some ys→
  ∃tS:Array Value,Instr.fill place cells vs=some tS∧tS.size=ys.length∧∀(j:Nat) v x,tS[j]? =some v→ys[j]? =some x→ai P w I β hp v x
 | _,_,cells,xs,ys,.nil,hs,hx,h=>by
  simp only[yS,eX] at h;subst h;exact ⟨cells,by simp[Instr.fill],hs,hx⟩
 | _,_,cells,xs,ys,@BR.cons _ _ _ _ _ i v x vs px h1 h2 h3,hs,hx,h=>by
  simp only[yS] at h;cases fS:place i with
  | none=>grind
  | some os=>
   obtain ⟨off,size⟩:=os;rw[fS] at h;simp only at h;cases hc:(Nat.beq x.cells.length size&&Nat.ble (off+size) xs.length) with
   | false=>grind
   | true=>
    rw[hc] at h;simp only[cond_true] at h;simp only[aK,ba,fo] at hc;have hv:off+v.cells.size≤cells.size:=by omega
    have hb:off+x.cells.length≤xs.length:=by omega
    have hl:(jg xs off x.cells).length=xs.length:=E0 _ _ _ hb;obtain ⟨tS,f1,f2,f3⟩:=Z0 place (cells:=v.cells.zipIdx.foldl (fun cs (p:Value×Nat)=>cs.setIfInBounds (off+p.2) p.1) cells) (xs:=jg xs off x.cells) h3 (by rw[ZZ,hl,hs])
     (fun j u y hu hy=>by
      rw[ZY hv] at hu;unfold jg at hy;grind) h
    refine ⟨tS,?_,f2,f3⟩;simp only[Instr.fill,fS];grind
theorem akd {t:TypeId} {parts:Array (Nat×Value)} {cells:Array Value} {z:Value} {i:TypeInfo} (hi:P.info? t=some i) (hz:i.zero=some z) (h:Instr.fill (placeOf P t) z.cells parts.toList=some cells) (ha:cA P t=true)
  (fS: ∀fs,P.underlying t=some (.struct fs)→(fs.toList.mapM fun f=>(P.info? f.type).map fun i=>(f.offset,i.size)).isSome=true) (vA: ∀n e,P.underlying t=some (.array n e)→(P.info? e).isSome=true):
  (Instr.build t parts).run P w= .ok (.agg cells) w:=by
 refine run_build w t parts cells ?_;unfold Program.built;unfold cA at ha;rw[hi];split at ha
 ·rename_i fs hu;have:=fS fs hu;cases hm:fs.toList.mapM fun f=>(P.info? f.type).map fun i=>(f.offset,i.size) with
  | none=>grind
  | some places=>
   simp only[hu,hz,hm];have hq:placeOf P t=fun i=>places[i]? :=by simp[placeOf,hu,hm]
   simp_all
 ·rename_i n e hu;have:=vA n e hu;cases na:P.info? e with
  | none=>grind
  | some ie=>
   simp only[hu,hz,na];have hq:placeOf P t=fun i=>some (i*ie.size,ie.size):=by simp[placeOf,hu,na]
   grind
 ·cases ha
theorem Z1 {α:Type}: ∀(xs ys:List V) (k:Rd α),o9 (xs++ys) k=o9 xs (o9 ys k)
 | [],_,_=>rfl
 | x::xs,ys,k=>by simp only[List.cons_append,o9,Z1 xs ys k]
theorem Z2 {a:Act} {sl:Nat→V} (hs:nR P w I β hp a sl) {G:Nat→V} (hg:jL P G w I) (t:TypeId) {α:Type}: ∀{l:List (Nat×Operand)} {k:Rd α} {r:α} {rd:List Nat},
  (o9 ((l.map fun p=>(bd P G t sl p.2).cells).flatten) k).run C hp=some (r,rd)→
  BR P w I β hp (l.map fun p=>(p.1,a.eval p.2)) (l.map fun p=>(p.1,bd P G t sl p.2))∧∃gJ,k.run C hp=some (r,gJ)
 | [],k,r,rd,h=>⟨.nil,rd,h⟩
 | (i,x)::l,k,r,rd,h=>by
  simp only[iS,List.flatten_cons,Z1] at h;obtain ⟨e1,e2⟩:=QM (hs.ev hg t x) h;obtain ⟨_,l1,h⟩:=Lc h (vs:=(a.eval x).cells.toList) (by omega) (fun j u y a b=>e2 j u y (by grind) b);obtain ⟨h1,h2⟩:=Z2 hs hg t h;exact ⟨.cons e1 e2 h1,h2⟩
theorem ake (S:aB P w I β hp B M w0) {a:Act} {sl:Nat→V} (hs:nR P w I β hp a sl) {G:Nat→V} (hg:jL P G w I) {t ty:TypeId} {ps:Array (Nat×Operand)} {r:R} {rd:List Nat}
  (h:(Rd.aD (dw P t&&(cA P t&&KM P t)) (o9 ((ps.toList.map fun p=>(bd P G ty sl p.2).cells).flatten)
   (Bx (yS (placeOf P t) (zeroCells P t) (ps.toList.map fun p=>(p.1,bd P G ty sl p.2))) fun cs=> .ret ⟨.agg cs,[]⟩))).run C hp=some (r,rd)):
  dJ P ((Instr.build t (ps.map fun (i,x)=>(i,a.eval x))).run P w) w I β hp B M w0 r:=by
 obtain ⟨aw,h⟩:=aH h;simp only[aK] at aw;obtain ⟨h1,l,h⟩:=Z2 hs hg ty h;cases hf:yS (placeOf P t) (zeroCells P t) (ps.toList.map fun p=>(p.1,bd P G ty sl p.2)) with
 | none=>rw[hf] at h;cases h
 | some cs=>
  rw[hf] at h;obtain rfl:=aZ h;obtain ⟨i,z,hi,hz,h3,h4,h5⟩:=ZU (w:=w) (I:=I) (β:=β) (hp:=hp) aw.1;obtain ⟨cells,f1,f2,f3⟩:=Z0 (placeOf P t) h1 h3 h5 hf;have Z3:=aw.2.2;refine .same S (v:= .agg cells) (akd hi hz (by simp_all) aw.2.1 (fun fs hu=> ?_) (fun n e hu=> ?_)) (.agg f2 f3)
  ·simpa[KM,hu] using Z3
  ·simpa[KM,hu] using Z3
theorem akf (dg: ∀id blk,hp id=some blk→fi P w I β hp (β id) blk) {x:V} {v:Value} {ys:List V} {fr:List (Nat×af)} {rd:List Nat} {ts:List TypeId} (hv:ai P w I β hp v x)
  (h:(wX P x.cells).run C hp=some ((ys,fr),rd)) (ht:u6 P ts ys=true):
  v.cells.size=x.cells.length∧∀(j:Nat) u y,v.cells.toList[j]? =some u→x.cells[j]? =some y→ai P w I β hp u y:=by
 cases x with
 | agg xs=>
  obtain ⟨cs,rfl,h1,h2⟩:=hv.nT;exact ⟨h1,fun j u y a b=>h2 j u y (by simpa[Value.cells] using a) b⟩
 | _=>
  simp only[V.cells] at h⊢;simp only[wX] at h;obtain ⟨⟨y1,u1⟩,l3,l4,hq,h⟩:=oF h;obtain ⟨q1,q2⟩:=K5 dg hq hv;obtain ⟨⟨y2,u2⟩,l5,l6,sJ,h⟩:=oF h;cases sJ;have:=aZ h;cases this;obtain ⟨tl,tg⟩:=zf ht;have fj:=tg 0 _ y1 (cp (by grind)) rfl;have fS:=q2 (lN P w I β hp u1) (fun _ _ h=> .inl h) (fun p hp b j h=> .inr ⟨p,hp,h⟩);have ho:=fS.pure fj;have ZQ:v.cells= #[v]:=by cases ho<;>rfl
  grind
def BT (P:Program) (w:World) (I:Nat→Nat→Prop) (e:TypeId) (cells:Array Value) (es:List V):Prop:=
 cells.size=es.length*P.cellsOf e∧∀(i j:Nat) (x:V) (t':TypeId),es[i]? =some x→(bc P e)[j]? =some t'→j<P.cellsOf e→∃v,cells[i*P.cellsOf e+j]? =some v∧Pure P w I t' v (cu P e x j)
theorem BT.set {e:TypeId} {cells:Array Value} {es ys:List V} {i:Nat} {v:Value} (h:BT P w I e cells es) (hi:i<es.length) (hv:v.cells.size=P.cellsOf e) (hy:ys.length=P.cellsOf e)
  (hr: ∀(j:Nat) (t':TypeId) (u:Value) (y:V),(bc P e)[j]? =some t'→v.cells[j]? =some u→ys[j]? =some y→Pure P w I t' u y):
  BT P w I e (v.cells.zipIdx.foldl (fun cs (p:Value×Nat)=>cs.setIfInBounds (i*P.cellsOf e+p.2) p.1) cells) (es.set i (dP P e ys)):=by
 obtain ⟨h1,h2⟩:=h;have hb:i*P.cellsOf e+v.cells.size≤cells.size:=by
  have:(i+1)*P.cellsOf e≤es.length*P.cellsOf e:=eV _ hi;grind
 refine ⟨by rw[ZZ,wO,h1],fun i' j x t' hx ht hj=> ?_⟩;rw[ZY hb];rw[yE] at hx;by_cases m9:i=i'
 ·subst m9;rw[ah rfl,ah hi] at hx;cases hx;rw[cl,br,show i*P.cellsOf e+j-i*P.cellsOf e=j by omega];have h3:j<v.cells.size:=by omega
  have h4:j<ys.length:=by omega
  refine ⟨v.cells[j],mj h3,?_⟩;rw[vr (cp h4) ht];exact hr j t' _ _ ht (mj h3) (cp h4)
 ·rw[ag m9] at hx;have cm:i'*P.cellsOf e+j<i*P.cellsOf e∨i*P.cellsOf e+v.cells.size≤i'*P.cellsOf e+j:=by
   rcases fH i' i with bf|rm
   ·left;have:(i'+1)*P.cellsOf e≤i*P.cellsOf e:=eV _ bf;grind
   ·right;have:(i+1)*P.cellsOf e≤i'*P.cellsOf e:=eV _ (by omega);grind
  grind
theorem Z4 {t':TypeId} {v:Value} (fj:fp P t' (qc (qT P t' v))=true):Pure P w I t' v (qc (qT P t' v)):=by
 have hc:=ai.const (P:=P) (w:=w) (I:=I) (β:=fun _=>none) (hp:=fun _=>none) t' v;cases zk:qT P t' v<;>rw[zk] at fj hc<;>simp only[qc] at fj⊢
 case int k n=>rw[hc.gE];exact Plain.pure (v:= .int k n) (y:= .int k n) rfl fj
 case bool b=>rw[hc.mY];exact Plain.pure (v:= .bool b) (y:= .bool b) rfl fj
 case str l=>obtain ⟨s,e1,e2⟩:=hc.ph;rw[e1];exact Plain.pure (v:= .string s) (y:= .str l) ⟨s,rfl,e2⟩ fj
 case nilS e'=>
  cases hc;exact Plain.pure (y:= .list e' []) (lJ.any fun _=>rfl) fj
 case list e' es=>
  cases hc with
  | list hp=>exact Plain.pure (y:= .list e' es) hp fj
 all_goals (unfold fp at fj;grind)
theorem Z5 {t':TypeId} {v:Value} (fj:fp P t' (qc (qT P t' v))=true): ∀a n c,v= .slice a n c→c=0:=by
 intro a n c hv;subst hv;unfold qT at fj;split at fj<;>first|(rename_i h;cases h;rfl)|skip
 all_goals first|(simp_all;done)|(unfold fp qc at fj;split at fj<;>simp_all)
theorem Fa {e:TypeId} (h:o6 P e=true): ∃i z,P.info? e=some i∧i.zero=some z∧i.size=P.cellsOf e∧z.cells.size=P.cellsOf e∧
  ∀(j:Nat) (t':TypeId),(bc P e)[j]? =some t'→j<P.cellsOf e→∃v,z.cells[j]? =some v∧Pure P w I t' v (cu P e (dP P e (iT P e)) j)∧∀a n c,v= .slice a n c→c=0:=by
 unfold o6 at h;simp only[aK] at h;obtain ⟨i,z,h1,h2,h3,h4,h5⟩:=kC h.1;refine ⟨i,z,h1,h2,h3,h4,fun j t' ht hj=> ?_⟩;obtain ⟨tl,tg⟩:=zf h.2;have eD:j<(iT P e).length:=by rw[←tl,(oG h.1).1];exact hj
 have hz:=cp eD;have fj:=tg j t' _ (by rw[←su];exact ht) hz;refine ⟨z.cells[j],mj (by omega),?_⟩;rw[vr hz ht];have zl:(iT P e)[j]=qc (qT P t' z.cells[j]):=by
  have:(iT P e)[j]? =((zeroCells P e)[j]?).map qc:=by simp[iT]
  rw[hz] at this;cases hc:(zeroCells P e)[j]? with
  | none=>grind
  | some y=>
   rw[hc] at this;simp only[Option.map_some,eX] at this;rw[h5] at hc;obtain ⟨t2,v2,a1,a2,rfl⟩:=Lr hc;have Ls:t2=t':=by
    rw[←su,ht] at a1;grind
   grind
 rw[zl] at fj⊢;exact ⟨Z4 fj,Z5 fj⟩
end
section
variable {P:Program} {w w':World} {I I':Nat→Nat→Prop} {β β':Nat→Option Nat} {hp hp':Nat→Option af} {C:ae} {B:Nat} {M:Nat→Prop} {w0:Start}
theorem Z6 (S:aB P w I β hp B M w0) {nb cap:Nat} {fz:Bool} {e T:TypeId} {es:List V} {C0:Array Value} (aw:dw P e=true) (hn:hp nb=none) (hs:C0.size=cap*P.cellsOf e) (hl:es.length≤cap) (hm:cap≤maxLen) (hL:sm P T e C0.size)
  (hx: ∀(i j:Nat) (x:V) (t':TypeId),es[i]? =some x→(bc P e)[j]? =some t'→j<P.cellsOf e→∃v,C0[i*P.cellsOf e+j]? =some v∧Pure P w I t' v (cu P e x j)):
  Le P w I β hp (w.alloc (.cells C0 T)) I (av β nb (some w.heap.size)) (av hp nb (some (.arr e es fz)))∧aB P (w.alloc (.cells C0 T)) I (av β nb (some w.heap.size)) (av hp nb (some (.arr e es fz))) B M w0∧
  ai P (w.alloc (.cells C0 T)) I (av β nb (some w.heap.size)) (av hp nb (some (.arr e es fz))) (.slice (some ⟨w.heap.size,0,none⟩) es.length cap) (.whole e nb):=by
 obtain ⟨h1,h2⟩:=QF S (blk:= .arr e es fz) (c:=C0) (T:=T) hn (fun b' h=>(ew (h.flat (by simp))).symm) (fun hle dU dI=> .arr hL aw rfl dU (by rw[hs];exact eV _ hl) (fun _ j h=>absurd h (dI j)) (fun _=>dI) fun i j x t' a b c=>by
  obtain ⟨v,hv,hp⟩:=hx i j x t' a b c;exact ⟨v,hv,hp.mono hle.eN hle.cZ⟩)
 refine ⟨h1,h2,.whole (bW _ _ _) (bW _ _ _) ?_ hl hm⟩;rw[kY (heap_alloc_new w (.cells C0 T)),hs]
theorem BU (S:aB P w I β hp B M w0) {nb cap:Nat} {fz:Bool} {e:TypeId} {es:List V} {C0:Array Value} (aw:dw P e=true) (hn:hp nb=none) (hs:C0.size=cap*P.cellsOf e) (hl:es.length≤cap) (hm:cap≤maxLen)
  (hx: ∀(i j:Nat) (x:V) (t':TypeId),es[i]? =some x→(bc P e)[j]? =some t'→j<P.cellsOf e→∃v,C0[i*P.cellsOf e+j]? =some v∧Pure P w I t' v (cu P e x j)):
  Le P w I β hp (w.alloc (.cells C0 e)) I (av β nb (some w.heap.size)) (av hp nb (some (.arr e es fz)))∧aB P (w.alloc (.cells C0 e)) I (av β nb (some w.heap.size)) (av hp nb (some (.arr e es fz))) B M w0∧
  ai P (w.alloc (.cells C0 e)) I (av β nb (some w.heap.size)) (av hp nb (some (.arr e es fz))) (.slice (some ⟨w.heap.size,0,none⟩) es.length cap) (.whole e nb):=
 Z6 S aw hn hs hl hm sm.self hx
theorem Z7 {b n:Nat} {Ca C':Array Value} {T T':TypeId} {f f':Nat×Nat} (hh:w.heap[b]? =some (.cells Ca T f)) (y7:w'.heap[b]? =some (.cells C' T' f')) (hI: ∀j,I b j→j<n) (hp: ∀j,j<n→C'[j]? =Ca[j]?) (j:Nat) (h:I b j):
  w'.cell? ⟨b,j,none⟩=w.cell? ⟨b,j,none⟩:=by
 rw[cell?_cells hh,cell?_cells y7];grind
theorem Q6 {b n:Nat} {fz:Bool} (hf:fz=true→∀j,I b j→j<n) (fQ:fz=false→∀j,¬I b j): ∀j,I b j→j<n:=by
 intro j h;cases fz with
 | true=>grind
 | false=>grind
theorem At.only {b b':Nat} {e e' T:TypeId} {es aQ:List V} {q:Path} {Ca:Array Value} {f:Nat×Nat} (hh:w.heap[b]? =some (.cells Ca T f)) (hz: ∀(i j:Nat) x t' v,es[i]? =some x→(bc P e)[j]? =some t'→Ca[i*P.cellsOf e+j]? =some v→∀a n c,v= .slice a n c→c=0)
  (h:At P w b e es q b' e' aQ):q=[]∧b'=b∧e'=e∧aQ=es:=by
 cases h with
 | here=>grind
 | step h1 h2 h3 h4 h5 h6 h7=>grind
theorem pe.tH {t:TypeId} {v:Value} {x:V} (h:Pure P w I t v x) (hc: ∀a n c,v= .slice a n c→c=0):pe P w I t v x:=by
 cases h with
 | int h=>exact .gr (by unfold ey;rw[h]) (.int h)
 | bool h=>exact .gr (by unfold ey;rw[h]) (.bool h)
 | str h hl=>exact .gr (by unfold ey;rw[h]) (.str h hl)
 | nil h=>exact .emp h
 | emp h=>have:=hc _ _ _ rfl;subst this;exact .emp h
 | list g hu hl hle _ _ _=>
  have:=hc _ _ _ rfl;subst this;obtain rfl:=tx.1 hle;obtain rfl:=wJ.1 hl;exact .emp hu
theorem Z8 (S:aB P w I β hp B M w0) {nb cap:Nat} {e T:TypeId} {es:List V} {C0:Array Value} (aw:dw P e=true) (hn:hp nb=none) (hs:C0.size=cap*P.cellsOf e) (hl:es.length≤cap) (hm:cap≤maxLen) (hL:sm P T e C0.size)
  (hx: ∀(i j:Nat) (x:V) (t':TypeId),es[i]? =some x→(bc P e)[j]? =some t'→j<P.cellsOf e→∃v,C0[i*P.cellsOf e+j]? =some v∧Pure P w I t' v (cu P e x j)∧∀a n c,v= .slice a n c→c=0):
  Le P w I β hp (w.alloc (.cells C0 T)) I (av β nb (some w.heap.size)) (av hp nb (some (.nest e es [0,0,0])))∧aB P (w.alloc (.cells C0 T)) I (av β nb (some w.heap.size)) (av hp nb (some (.nest e es [0,0,0]))) B M w0∧
  ai P (w.alloc (.cells C0 T)) I (av β nb (some w.heap.size)) (av hp nb (some (.nest e es [0,0,0]))) (.slice (some ⟨w.heap.size,0,none⟩) es.length cap) (.whole e nb):=by
 have hz: ∀(i j:Nat) x t' v,es[i]? =some x→(bc P e)[j]? =some t'→C0[i*P.cellsOf e+j]? =some v→∀a n c,v= .slice a n c→c=0:=fun i j x t' v a b h=>by
  obtain ⟨v',h1,_,h3⟩:=hx i j x t' a b (by rw[←fK aw];grind);grind
 obtain ⟨h1,h2⟩:=QF S (blk:= .nest e es [0,0,0]) (c:=C0) (T:=T) hn (fun b' h=>by
   cases h with
   | root _ h=>grind
   | row h ha=>cases h;exact (At.only (heap_alloc_new w _) hz ha).2.1)
  (fun hle dU dI=> .nest rfl (fun q b' e' aQ ha=>by
   obtain ⟨rfl,rfl,rfl,rfl⟩:=At.only dU hz ha;refine ⟨aw,⟨C0,_,dU,hL,by rw[hs];exact eV _ hl,fun i j x t' a b c=> ?_⟩,dI⟩;obtain ⟨v,hv,hp⟩:=hx i j x t' a b c;exact ⟨v,hv,.tH (hp.1.mono hle.eN hle.cZ) hp.2⟩)
   fun q1 q2 b' e1 dD e2 cb a1 a2=>(At.only dU hz a1).1.trans (At.only dU hz a2).1.symm)
 refine ⟨h1,h2,.ee (bW _ _ _) (bW _ _ _) ?_ hl hm⟩;rw[kY (heap_alloc_new w (.cells C0 T)),hs]
theorem akg (S:aB P w I β hp B M w0) {nb cap:Nat} {e:TypeId} {es:List V} {C0:Array Value} (aw:dw P e=true) (hn:hp nb=none) (hs:C0.size=cap*P.cellsOf e) (hl:es.length≤cap) (hm:cap≤maxLen)
  (hx: ∀(i j:Nat) (x:V) (t':TypeId),es[i]? =some x→(bc P e)[j]? =some t'→j<P.cellsOf e→∃v,C0[i*P.cellsOf e+j]? =some v∧Pure P w I t' v (cu P e x j)∧∀a n c,v= .slice a n c→c=0):
  Le P w I β hp (w.alloc (.cells C0 e)) I (av β nb (some w.heap.size)) (av hp nb (some (.nest e es [0,0,0])))∧aB P (w.alloc (.cells C0 e)) I (av β nb (some w.heap.size)) (av hp nb (some (.nest e es [0,0,0]))) B M w0∧
  ai P (w.alloc (.cells C0 e)) I (av β nb (some w.heap.size)) (av hp nb (some (.nest e es [0,0,0]))) (.slice (some ⟨w.heap.size,0,none⟩) es.length cap) (.whole e nb):=
 Z8 S aw hn hs hl hm sm.self hx
theorem akh (S:aB P w I β hp B M w0) {e:TypeId} {nb:Nat} {r:R} {rd:List Nat} (h:(Qf P nb e).run C hp=some (r,rd)):dJ P ((Instr.alloc e true (.tuple #[])).run P w) w I β hp B M w0 r:=by
 unfold Qf at h;split at h
 ·rename_i n e1 hu;obtain ⟨hc,h1⟩:=aH h;clear h;simp only[aK,ba,fo,nF,gC] at hc;obtain ⟨aw,oK,oM,hn,hm,gR,fj,Z9⟩:=hc;obtain ⟨BV,rfl⟩:=mz h1;obtain ⟨i,z,hi,hz,h3,h4,h5⟩:=kC aw;have kB:bc P e1=[e1]:=by simp[bc,oM]
  have hk:P.cellsOf e1=1:=by rw[←fK oK,kB];rfl
  have hlen:((zeroCells P e).map qc).length≤n:=by
   rw[h5,cH,←hn,←h4];have go: ∀(ts:List TypeId) (vs:List Value),(j6 P ts vs).length≤vs.length:=by
    intro ts
    induction ts with
    | nil=>intro vs;simp[j6]
    | cons t ts ih=>intro vs;cases vs with
     | nil=>simp[j6]
     | cons v vs=>simpa[j6] using ih vs
   grind
  have hx: ∀(i j:Nat) (x:V) (t':TypeId),((zeroCells P e).map qc)[i]? =some x→(bc P e1)[j]? =some t'→j<P.cellsOf e1→∃v,z.cells[i*P.cellsOf e1+j]? =some v∧Pure P w I t' v (cu P e1 x j)∧∀a n c,v= .slice a n c→c=0:=by
   intro i j x t' hx ht hj;rw[hk] at hj⊢;obtain rfl:j=0:=by omega
   rw[kB] at ht;simp only[List.getElem?_cons_zero,eX] at ht;subst ht;have Lt:=gC.1 fj x (mR hx);rw[gD] at hx;cases hc:(zeroCells P e)[i]? with
   | none=>grind
   | some y=>
    rw[hc] at hx;cases hx;rw[h5] at hc;obtain ⟨t2,v2,a1,a2,rfl⟩:=Lr hc;have Ls:e1=t2:=by simpa using gR t2 (mR a1)
    subst Ls;simp only[cu,oM,cond_false];exact ⟨v2,by grind,Z4 Lt,Z5 Lt⟩
  have hL:sm P e e1 z.cells.size:=fun hb _ k vz=>by
   grind
  have da:(Instr.alloc e true (.tuple #[])).run P w= .ok (.pointer (some ⟨w.heap.size,0,none⟩)) (w.alloc (.cells z.cells e)):=by
   simp[Instr.alloc,zeroValue,typeInfo,hi,hz,newVar,newRow]
  have hs:z.cells.size=n*P.cellsOf e1:=by grind
  cases ey P e1 with
  | true=>
   obtain ⟨a,b,_⟩:=Z6 S (nb:=nb) (fz:=false) oK BV hs hlen hm hL fun i j x t' p q r=>(hx i j x t' p q r).imp fun _ h=>⟨h.1,h.2.1⟩
   refine ⟨_,_,_,_,da,a,b,?_⟩;have:=ai.ptr (P:=P) (w:=w.alloc (.cells z.cells e)) (I:=I) (β:=av β nb (some w.heap.size)) (hp:=av hp nb (some (.arr e1 ((zeroCells P e).map qc) false))) (i:=0) (c:=0) (bW _ _ _) (by simp) (bW _ _ _);rw[Nat.zero_mul] at this;exact this
  | false=>
   obtain ⟨a,b,_⟩:=Z8 S (nb:=nb) oK BV hs hlen hm hL hx;refine ⟨_,_,_,_,da,a,b,?_⟩;have:=ai.ptr (P:=P) (w:=w.alloc (.cells z.cells e)) (I:=I) (β:=av β nb (some w.heap.size)) (hp:=av hp nb (some (.nest e1 ((zeroCells P e).map qc) [0,0,0]))) (i:=0) (c:=0) (bW _ _ _) (by simp) (bW _ _ _);rw[Nat.zero_mul] at this;exact this
 ·cases h
theorem aaa (dg: ∀id blk,hp id=some blk→fi P w I β hp (β id) blk) {a:Act} {sl:Nat→V} (hs:nR P w I β hp a sl) {G:Nat→V} (hg:jL P G w I) {e:TypeId} {len:Nat}: ∀{l:List (Nat×Operand)} {ps:List (Nat×V)} {upd:List (Nat×af)} {rd:List Nat},
  (En P e len (l.map fun p=>(p.1,bd P G e sl p.2))).run C hp=some ((ps,upd),rd)→dw P e=true→(∀p∈upd,BF hp p)∧∀I':Nat→Nat→Prop,(∀b j,I b j→I' b j)→(∀p∈upd,∀b j,xf P w β hp p.1 b j→I' b j)→
   ∀(cells:Array Value) (es:List V),es.length=len→BT P w I' e cells es→∃tS,Instr.fill (fun i=>some (i*P.cellsOf e,P.cellsOf e)) cells (l.map fun p=>(p.1,a.eval p.2))=some tS∧BT P w I' e tS (Em es ps)∧(Em es ps).length=len
 | [],ps,upd,rd,h,_=>by
  cases h;exact ⟨by simp,fun I' _ _ cells es hl he=>⟨cells,by simp[Instr.fill],he,hl⟩⟩
 | (i,x)::l,ps,upd,rd,h,aw=>by
  simp only[iS,En] at h;obtain ⟨⟨ys,u1⟩,l1,l2,h1,h⟩:=oF h;obtain ⟨hc,h⟩:=aH h;obtain ⟨⟨ps',u2⟩,l3,l4,h2,h⟩:=oF h;have:=aZ h;cases this;simp only[aK,oA] at hc;obtain ⟨hi,fj⟩:=hc;obtain ⟨tl,tg⟩:=zf fj;have qk:=hs.ev hg e x;obtain ⟨v1,v2⟩:=akf dg qk h1 fj;obtain ⟨k1,k2,k3⟩:=QC dg h1 (vs:=(a.eval x).cells.toList) (by omega) v2;obtain ⟨m1,m2⟩:=aaa dg hs hg h2 aw;refine ⟨fun p hp=> ?_,fun I' i1 i2 cells es hl he=> ?_⟩
  ·grind
  ·have fS:=k3 I' i1 (fun p hp=>i2 p (eW.2 (.inl hp)));have bw:=(oG aw).1;have xp:ys.length=P.cellsOf e:=by omega
   have Lg:(a.eval x).cells.size=P.cellsOf e:=by omega
   have BW:=he.set (i:=i) (ys:=ys) (by omega) Lg xp (fun j t' u y ht hu hy=>by
    exact (fS j u y (by grind) hy).pure (tg j t' y (by rw[←su];exact ht) hy))
   obtain ⟨tS,f1,f2,f3⟩:=m2 I' i1 (fun p hp=>i2 p (eW.2 (.inr hp))) _ (es.set i (dP P e ys)) (by grind) BW;refine ⟨tS,?_,f2,f3⟩;have hb:i*P.cellsOf e+P.cellsOf e≤cells.size:=by
    rw[he.1,hl];have:(i+1)*P.cellsOf e≤len*P.cellsOf e:=eV _ hi;grind
   simp only[iS,Instr.fill];grind
theorem aab {z:Array Value} {n k:Nat} (hk:k<n) (hz:0<z.size):((Array.range n).map (z[· %z.size]!))[k]? =z[k %z.size]? :=by
 have hm:k %z.size<z.size:=Bd _ hz;grind
theorem aac {e:TypeId} (h:o6 P e=true) {i:TypeInfo} {z:Value} (hi:P.info? e=some i) (hz:i.zero=some z) (n m:Nat) (qa:n≤m):
  ∀(k j:Nat) (x:V) (t':TypeId),(List.replicate n (dP P e (iT P e)))[k]? =some x→(bc P e)[j]? =some t'→j<P.cellsOf e→
   ∃v,((Array.range (m*P.cellsOf e)).map (z.cells[· %z.cells.size]!))[k*P.cellsOf e+j]? =some v∧Pure P w I t' v (cu P e x j)∧∀a n c,v= .slice a n c→c=0:=by
 intro k j x t' hx ht hj;obtain ⟨i2,z2,h1,h2,h3,h4,h5⟩:=Fa (w:=w) (I:=I) h;rw[hi] at h1;cases h1;rw[hz] at h2;cases h2;rw[D5] at hx;split at hx
 ·rename_i hk;cases hx;obtain ⟨v,hv,hp⟩:=h5 j t' ht hj;refine ⟨v,?_,hp⟩;have hb:k*P.cellsOf e+j<m*P.cellsOf e:=by
   have:(k+1)*P.cellsOf e≤m*P.cellsOf e:=eV _ (by omega);grind
  rw[aab hb (by omega),h4,show (k*P.cellsOf e+j) %P.cellsOf e=j by rw[ml,Nat.mul_add_mod];exact D6 hj];exact hv
 ·cases hx
theorem Q7 {e:TypeId} (h:o6 P e=true) {i:TypeInfo} {z:Value} (hi:P.info? e=some i) (hz:i.zero=some z) (n m:Nat) (qa:n≤m):
  ∀(k j:Nat) (x:V) (t':TypeId),(List.replicate n (dP P e (iT P e)))[k]? =some x→(bc P e)[j]? =some t'→j<P.cellsOf e→
   ∃v,((Array.range (m*P.cellsOf e)).map (z.cells[· %z.cells.size]!))[k*P.cellsOf e+j]? =some v∧Pure P w I t' v (cu P e x j):=fun k j x t' a b c=>(aac h hi hz n m qa k j x t' a b c).imp fun _ h=>⟨h.1,h.2.1⟩
theorem Q8 {P:Program} (w:World) (t e:TypeId) (len:Nat) (parts:Array (Nat×Value)) (cells:Array Value) (ie:TypeInfo) (z:Value)
  (hu:P.underlying t=some (.slice e)) (na:P.info? e=some ie) (hz:ie.zero=some z) (aki: ¬len*ie.size>2^24)
  (h:Instr.fill (fun i=>some (i*ie.size,ie.size)) ((Array.range (len*ie.size)).map (z.cells[· %z.cells.size]!)) parts.toList=some cells):
  (Instr.buildSlice t len parts).run P w= .ok (.slice (some ⟨w.heap.size,0,none⟩) len len) (w.alloc (.cells cells e)):=by
 by_cases qa:len*ie.size=0
 ·have h0: ∀g:Nat→Value,(Array.range (len*ie.size)).map g= #[]:=by grind
  have hp: ∀(u:Array Value),(Pure.pure u:Sem (Array Value)).run P w= .ok u w:=fun _=>rfl;rw[h0] at h;simp only[Instr.buildSlice,Sem.run_bind,run_underlying hu,Result.andThen_ok,sizeOf,typeInfo,na];have h1:(Array.range (len*ie.size)).map (fun _:Nat=>(default:Value))= #[]:=h0 _;have hs: ¬16777216<len*ie.size:=by omega
  simp[na,hs,qa];simp only[qa] at h1;simp[h1,h,newRow]
 ·exact run_buildSlice w t e len parts cells ie z hu na hz aki qa h
theorem aad (S:aB P w I β hp B M w0) {a:Act} {sl:Nat→V} (hs:nR P w I β hp a sl) {G:Nat→V} (hg:jL P G w I) {t e:TypeId} {len nb:Nat} {ps:Array (Nat×Operand)} {r:R} {rd:List Nat} (hu:P.underlying t=some (.slice e))
  (h:(Rd.aD (o6 P e&&Nat.ble (len*P.cellsOf e) (2^24)) ((En P e len (ps.toList.map fun p=>(p.1,bd P G e sl p.2))).bind fun r=>
    jh nb (.arr e (Em (List.replicate len (dP P e (iT P e))) r.1) false) (.whole e nb) r.2)).run C hp=some (r,rd)):
  dJ P ((Instr.buildSlice t len (ps.map fun (i,x)=>(i,a.eval x))).run P w) w I β hp B M w0 r:=by
 obtain ⟨hc,h⟩:=aH h;simp only[aK,fo] at hc;obtain ⟨fE,EK⟩:=hc;have aw:dw P e=true:=by
  unfold o6 at fE;grind
 obtain ⟨⟨pv,upd⟩,l1,l2,h1,h⟩:=oF h;obtain ⟨hn,rfl⟩:=mz h;obtain ⟨m1,m2⟩:=aaa S.h.rel hs hg h1 aw;obtain ⟨tP,S1⟩:=EP S m1;obtain ⟨i,z,hi,hz,h3,h4,_⟩:=Fa (w:=w) (I:=I) fE;have kD:=(oG aw).2;have h0:BT P w (lN P w I β hp upd) e ((Array.range (len*P.cellsOf e)).map (z.cells[· %z.cells.size]!)) (List.replicate len (dP P e (iT P e))):=
  ⟨by simp,Q7 fE hi hz len len (az _)⟩
 obtain ⟨cells,f1,f2,f3⟩:=m2 (lN P w I β hp upd) (fun _ _ h=> .inl h) (fun p hp b j h=> .inr ⟨p,hp,h⟩) _ _ (by simp) h0;have ja:cB hp upd nb=none:=by
  rcases y6 (hp:=hp) (l:=upd) (id:=nb) with h|⟨b',hm,_⟩
  ·grind
  ·obtain ⟨e1,dD,_,h5⟩:=m1 _ hm;grind
 have sx:len≤maxLen:=by
  have:len*1≤len*P.cellsOf e:=wP _ kD;simp only[maxLen];omega
 obtain ⟨n1,n2,n3⟩:=BU S1 (cap:=len) aw ja (by rw[f2.1,f3]) (by omega) sx f2.2;have da:=Q8 w t e len (ps.map fun (i,x)=>(i,a.eval x)) cells i z hu hi hz (by grind) (by simp_all);refine ⟨_,_,_,_,da,tP.trans n1,n2,?_⟩;rw[f3] at n3;exact n3
theorem aae (S:aB P w I β hp B M w0) {t e:TypeId} {nb:Nat} {kl kc:IntKind} {n m:Int} {r:R} {rd:List Nat} (hu:P.underlying t=some (.slice e))
  (h:(Rd.aD (o6 P e&&(decide (0≤n)&&(decide (n≤m)&&Nat.ble (m.toNat*P.bytesOf e) aX)))
    (jh nb (.arr e (List.replicate n.toNat (dP P e (iT P e))) false) (.whole e nb) [])).run C hp=some (r,rd)):
  dJ P ((Instr.makeSlice t (.int kl n) (.int kc m)).run P w) w I β hp B M w0 r:=by
 obtain ⟨hc,h⟩:=aH h;simp only[aK,fo,fl] at hc;obtain ⟨fE,h0,qa,eI⟩:=hc;have aw:dw P e=true:=by
  unfold o6 at fE;grind
 obtain ⟨hn,rfl⟩:=mz h;obtain ⟨i,z,hi,hz,h3,h4,_⟩:=Fa (w:=w) (I:=I) fE;have nX:P.bytesOf e=i.bytes:=by simp[Program.bytesOf,hi]
 have Q9:m≤9223372036854775807:=by
  have h1:m.toNat*1≤m.toNat*P.bytesOf e:=wP _ (y5 aw);simp only[aX] at eI;omega
 have da:=run_make (P:=P) w t e i z hu hi hz kl kc n m h0 qa (by
  rw[nX] at eI;simp only[aX] at eI;grind) Q9
 have hlen:(List.replicate n.toNat (dP P e (iT P e))).length=n.toNat:=by simp
 obtain ⟨n1,n2,n3⟩:=BU S (cap:=m.toNat) (es:=List.replicate n.toNat (dP P e (iT P e))) (C0:=madeCells z.cells (m.toNat*i.size)) aw hn (by rw[size_madeCells,h3]) (by omega) (by simp only[maxLen];omega)
  (by rw[h3];exact Q7 fE hi hz n.toNat m.toNat (by omega))
 refine ⟨_,_,_,_,da,n1,n2,?_⟩;rw[hlen] at n3;exact n3
theorem akj (S:aB P w I β hp B M w0) {t e:TypeId} {nb:Nat} {kl kc:IntKind} {n m:Int} {r:R} {rd:List Nat} (hu:P.underlying t=some (.slice e))
  (h:(Rd.aD (o6 P e&&(decide (0≤n)&&(decide (n≤m)&&Nat.ble (m.toNat*P.bytesOf e) aX)))
    (jh nb (.nest e (List.replicate n.toNat (dP P e (iT P e))) [0,0,0]) (.whole e nb) [])).run C hp=some (r,rd)):
  dJ P ((Instr.makeSlice t (.int kl n) (.int kc m)).run P w) w I β hp B M w0 r:=by
 obtain ⟨hc,h⟩:=aH h;simp only[aK,fo,fl] at hc;obtain ⟨fE,h0,qa,eI⟩:=hc;have aw:dw P e=true:=by
  unfold o6 at fE;grind
 obtain ⟨hn,rfl⟩:=mz h;obtain ⟨i,z,hi,hz,h3,h4,_⟩:=Fa (w:=w) (I:=I) fE;have nX:P.bytesOf e=i.bytes:=by simp[Program.bytesOf,hi]
 have Q9:m≤9223372036854775807:=by
  have h1:m.toNat*1≤m.toNat*P.bytesOf e:=wP _ (y5 aw);simp only[aX] at eI;omega
 have da:=run_make (P:=P) w t e i z hu hi hz kl kc n m h0 qa (by
  rw[nX] at eI;simp only[aX] at eI;grind) Q9
 have hlen:(List.replicate n.toNat (dP P e (iT P e))).length=n.toNat:=by simp
 obtain ⟨n1,n2,n3⟩:=akg S (cap:=m.toNat) (es:=List.replicate n.toNat (dP P e (iT P e))) (C0:=madeCells z.cells (m.toNat*i.size)) aw hn (by rw[size_madeCells,h3]) (by omega) (by simp only[maxLen];omega)
  (by rw[h3];exact aac fE hi hz n.toNat m.toNat (by omega))
 refine ⟨_,_,_,_,da,n1,n2,?_⟩;rw[hlen] at n3;exact n3
theorem Pure.one {t:TypeId} {v:Value} {x:V} (h:Pure P w I t v x):v.oneCell'=true:=by cases h<;>rfl
structure Row (P:Program) (w:World) (I:Nat→Nat→Prop) (e:TypeId) (v:Value) (xs:List V) (a:Addr) (c:Nat) (news:List Value):Prop where
 val:v= .slice (some a) xs.length c
 len:news.length=xs.length*P.cellsOf e
 cell: ∀(j:Nat) u,news[j]? =some u→w.cell? (a.add j)=some u
 el: ∀(i j:Nat) (x:V) (t':TypeId),xs[i]? =some x→(bc P e)[j]? =some t'→j<P.cellsOf e→∃u,news[i*P.cellsOf e+j]? =some u∧Pure P w I t' u (cu P e x j)
theorem Row.one {e:TypeId} {v:Value} {xs:List V} {a:Addr} {c:Nat} {news:List Value} (h:Row P w I e v xs a c news) (aw:dw P e=true): ∀u∈news,u.oneCell'=true:=by
 intro u hu;obtain ⟨k,hk⟩:=tz hu;have qm:=(cO.1 hk).1;have kD:=(oG aw).2;rw[h.len] at qm;have hi:k/P.cellsOf e<xs.length:=Nat.div_lt_of_lt_mul (by grind);have hj:k %P.cellsOf e<P.cellsOf e:=Bd _ kD;have jM:k %P.cellsOf e<(bc P e).length:=by rw[fK aw];exact hj
 obtain ⟨u',lg,hp⟩:=h.el (k/P.cellsOf e) (k %P.cellsOf e) _ _ (cp hi) (cp jM) hj;rw[Nat.div_add_mod'] at lg;rw[hk] at lg;cases lg;exact hp.one
theorem aaf {e T:TypeId} {es:List V} {b:Nat} {Ca:Array Value} {off len cap o:Nat} (hh:w.heap[b]? =some (.cells Ca T (0,0))) (hs:es.length*P.cellsOf e≤Ca.size)
  (hx: ∀(i j:Nat) (x:V) (t':TypeId),es[i]? =some x→(bc P e)[j]? =some t'→j<P.cellsOf e→∃v,Ca[i*P.cellsOf e+j]? =some v∧Pure P w I t' v (cu P e x j))
  (lK:off+len≤es.length) (ho:0<len→o=off*P.cellsOf e):
  Row P w I e (.slice (some ⟨b,o,none⟩) len cap) ((es.drop off).take len) ⟨b,o,none⟩ cap ((Ca.toList.drop (off*P.cellsOf e)).take (len*P.cellsOf e)):=by
 have hlen:((es.drop off).take len).length=len:=by simp;omega
 have hb:(off+len)*P.cellsOf e≤Ca.size:=kP (eV _ lK) hs;rw[kQ] at hb;refine ⟨by rw[hlen],by grind,fun j u hj=> ?_,fun i j x t' mZ ht hj=> ?_⟩
 ·have eD:=(cO.1 hj).1;have akk:j<len*P.cellsOf e:=by
   grind
  have my:0<len:=by
   grind
  rw[iQ akk,qQ] at hj;rw[oI,cell?_cells hh,ho my];grind
 ·have hi:i<len:=by grind
  rw[iQ hi,qQ] at mZ;obtain ⟨u,hu,hp⟩:=hx (off+i) j x t' mZ ht hj;refine ⟨u,?_,hp⟩;have:i*P.cellsOf e+j<len*P.cellsOf e:=by
   have:(i+1)*P.cellsOf e≤len*P.cellsOf e:=eV _ hi;grind
  grind
theorem Fb (dg: ∀id blk,hp id=some blk→fi P w I β hp (β id) blk) {e:TypeId} {v:Value} {x:V} {k:List V→Rd R} {r:R} {rd:List Nat} (aw:dw P e=true) (hv:ai P w I β hp v x)
  (h:(va e x k).run C hp=some (r,rd)): ∃xs,(((∃a,v= .slice a 0 0)∧xs=[])∨∃a c news,Row P w I e v xs a c news)∧∃l,(k xs).run C hp=some (r,l):=by
 cases hv with
 | list hp'=>
  obtain ⟨hc,h2⟩:=aH h;clear h;rw[ba] at hc;subst hc;cases hp' with
  | nil=>grind
  | @emp a cap=>exact ⟨[],.inr ⟨a,cap,[],⟨rfl,by simp,fun j u hj=>by simp at hj,fun i j x t' hx _ _=>by simp at hx⟩⟩,rd,h2⟩
  | @list b o len cap es g hl cf hI gI hx=>
   refine ⟨_,.inr ⟨⟨b,o,none⟩,cap,(List.range (len*P.cellsOf e)).map fun k=>g (k/P.cellsOf e) (k %P.cellsOf e),⟨by rw[hl],by grind,fun j u hj=> ?_,fun i j x t' mZ ht hj=> ?_⟩⟩,rd,h2⟩
   ·obtain ⟨eD,zd⟩:=cO.1 hj;simp at eD zd;have kD:=(oG aw).2;have hi:j/P.cellsOf e<len:=Nat.div_lt_of_lt_mul (by grind);have cS:j %P.cellsOf e<P.cellsOf e:=Bd _ kD;rw[oI,←zd];have:=gI (j/P.cellsOf e) (j %P.cellsOf e) hi cS;rwa [Nat.div_add_mod'] at this
   ·have hi:i<len:=by grind
    have hb:i*P.cellsOf e+j<len*P.cellsOf e:=by
     have:(i+1)*P.cellsOf e≤len*P.cellsOf e:=eV _ hi;grind
    refine ⟨g i j,?_,hx i j x t' mZ ht⟩;have e1:(i*P.cellsOf e+j)/P.cellsOf e=i:=by
     rw[ml,D7 (oG aw).2,D8 hj,Nat.add_zero]
    have e2:(i*P.cellsOf e+j) %P.cellsOf e=j:=by
     rw[ml,Nat.mul_add_mod];exact D6 hj
    grind
 | nilS=>
  obtain ⟨hc,h⟩:=aH h;grind
 | ej ab hb=>
  obtain ⟨l,h⟩:=run_get h;simp only[ab] at h;obtain ⟨hc,h⟩:=aH h;grind
 | @whole e' id es fz b cap ab hb bw cf hm=>
  obtain ⟨l,h⟩:=run_get h;simp only[ab] at h;obtain ⟨hc,h2⟩:=aH h;clear h;simp only[aK,ba] at hc;obtain ⟨rfl,_⟩:=hc;have hr:=dg _ _ ab;cases hr with
  | eZ aA=>grind
  | arr hL QK aA hh hs hf fQ hx=>
   rw[hb] at aA;cases aA;have:=aaf (cap:=cap) (off:=0) (len:=es.length) (o:=0) hh hs hx (by omega) (fun _=>by simp);grind
 | jo ab hb=>
  obtain ⟨l,h⟩:=run_get h;simp only[ab] at h;obtain ⟨hc,h⟩:=aH h;grind
 | @sub e' id off len es fz b o cap ab hb lK cf ho=>
  obtain ⟨l,h⟩:=run_get h;simp only[ab] at h;obtain ⟨hc,h2⟩:=aH h;clear h;simp only[aK,ba] at hc;obtain ⟨rfl,_⟩:=hc;have hr:=dg _ _ ab;cases hr with
  | eZ aA=>grind
  | arr hL QK aA hh hs hf fQ hx=>
   rw[hb] at aA;cases aA;exact ⟨_,.inr ⟨_,_,_,aaf (cap:=cap) hh hs hx lK ho⟩,l,h2⟩
 | eC ab=>
  obtain ⟨l,h⟩:=run_get h;simp only[ab] at h;cases h
 | jJ ab=>
  obtain ⟨l,h⟩:=run_get h;simp only[ab] at h;cases h
 | undef=>cases h
 | int=>cases h
 | bool=>cases h
 | str=>cases h
 | agg=>cases h
 | bK=>cases h
 | fg=>cases h
 | fn=>cases h
 | pref=>cases h
 | mr=>cases h
 | ptr=>cases h
 | mu=>cases h
 | mw=>cases h
 | row=>cases h
 | dS=>cases h
 | eY=>cases h
 | kX=>cases h
 | cD=>cases h
 | eF ab=>
  obtain ⟨l,h⟩:=run_get h;simp only[ab] at h;cases h
 | fC ab=>
  obtain ⟨l,h⟩:=run_get h;simp only[ab] at h;cases h
 | ee ab=>
  obtain ⟨l,h⟩:=run_get h;simp only[ab] at h;cases h
theorem BX {t ty e:TypeId} {i:TypeInfo} (ht:P.underlying t=some (.slice e)) (hi:P.info? e=some i) (a:Option Addr) (n cap:Nat) (x:Value) (hx: ∃a c,x= .slice a 0 c) (hn:n≤cap):
  (Builtin.append_ #[t,t] ty #[.slice a n cap,x]).run P w= .ok (.slice a n cap) w:=by
 obtain ⟨a',c,rfl⟩:=hx;cases a' with
 | none=>cases a<;>simp[Builtin.append_,run_underlying ht,sizeOf,typeInfo,hi,Builtin.lenOf,Builtin.firstCells,hn,storeCells]
 | some a'=>cases a<;>simp[Builtin.append_,run_underlying ht,sizeOf,typeInfo,hi,Builtin.lenOf,Builtin.firstCells,hn,storeCells,loadCells,loadCellsFrom]
theorem Lu {e:TypeId} {es xs:List V} {n:Nat} {c:List Value} {news:List Value} (hn:es.length=n)
  (h1: ∀(i j:Nat) (x:V) (t':TypeId),es[i]? =some x→(bc P e)[j]? =some t'→j<P.cellsOf e→∃v,c[i*P.cellsOf e+j]? =some v∧Pure P w I t' v (cu P e x j))
  (h2: ∀(i j:Nat) (x:V) (t':TypeId),xs[i]? =some x→(bc P e)[j]? =some t'→j<P.cellsOf e→∃v,news[i*P.cellsOf e+j]? =some v∧Pure P w I t' v (cu P e x j))
  (hb:n*P.cellsOf e≤c.length) (rest:List Value):
  ∀(i j:Nat) (x:V) (t':TypeId),(es++xs)[i]? =some x→(bc P e)[j]? =some t'→j<P.cellsOf e→∃v,(c.take (n*P.cellsOf e)++news++rest)[i*P.cellsOf e+j]? =some v∧Pure P w I t' v (cu P e x j):=by
 intro i j x t' hx ht hj;have hl:(c.take (n*P.cellsOf e)).length=n*P.cellsOf e:=by simp;omega
 by_cases hi:i<n
 ·rw[o5 (by omega)] at hx;obtain ⟨v,hv,hp⟩:=h1 i j x t' hx ht hj;have:i*P.cellsOf e+j<n*P.cellsOf e:=by
   have:(i+1)*P.cellsOf e≤n*P.cellsOf e:=eV _ hi;grind
  grind
 ·rw[oB (by omega),hn] at hx;obtain ⟨v,hv,hp⟩:=h2 (i-n) j x t' hx ht hj;have lh:i-n<xs.length:=(cO.1 hx).1;have e1:i*P.cellsOf e+j-n*P.cellsOf e=(i-n)*P.cellsOf e+j:=by
   rw[Nat.sub_mul];have:n*P.cellsOf e≤i*P.cellsOf e:=eV _ (by omega);omega
  have h3:(i-n)*P.cellsOf e+j<news.length:=(cO.1 hv).1;refine ⟨v,?_,hp⟩;have h4:n*P.cellsOf e≤i*P.cellsOf e+j:=by
   have:n*P.cellsOf e≤i*P.cellsOf e:=eV _ (by omega);omega
  grind
theorem Pure.drew {t:TypeId} {v:Value} {x:V} (h:Pure P w I t v x):Pure P w.drew I t v x:=Pure.mono (w:=w) (w':=w.drew) (fun _ _ h=>h) (fun _ _ _=>rfl) h
theorem aag (w:World) (t ty e:TypeId) (i:TypeInfo) (z:Value) (ht:P.underlying t=some (.slice e)) (hi:P.info? e=some i) (hz:i.zero=some z)
  (a0:Option Addr) (a:Addr) (n c:Nat) (news:List Value) (hl:news.length=n*i.size) (tT: ∀j v,news[j]? =some v→w.cell? (a.add j)=some v)
  (h0:0<n) (Fc:(n:Int)≤9223372036854775807) (Lv:n*i.bytes≤281474976710656):
  (Builtin.append_ #[t,t] ty #[.slice a0 0 0,.slice (some a) n c]).run P w=
   .ok (.slice (some ⟨w.heap.size,0,none⟩) n (grownCap w n 0 e)) (w.drew.alloc (.cells (news.toArray++Builtin.zeroCells z.cells (grownCap w n 0 e-n)) e)):=by
 cases a0 with
 | none=>exact run_append_nil w t ty e i z ht hi hz a n c news hl tT h0 Fc Lv
 | some b=>
  have:=run_append_grow (P:=P) w t ty e i z ht hi hz b 0 0 [] (by simp) (by simp) a n c news hl tT (by omega) (by omega) (by rw[ed,nextslicecap_zero h0];omega);grind
theorem Ra (S:aB P w I β hp B M w0) {t ty e:TypeId} {nb:Nat} {fz:Bool} {x:Value} {xs:List V} (hu:P.underlying t=some (.slice e)) (aw:dw P e=true) (hn:hp nb=none)
  (eI:xs.length*P.bytesOf e≤aX) {a0:Option Addr} (hx:((∃a,x= .slice a 0 0)∧xs=[])∨∃a c news,Row P w I e x xs a c news):
  ∃v w' β',(Builtin.append_ #[t,t] ty #[.slice a0 0 0,x]).run P w= .ok v w'∧Le P w I β hp w' I β' (av hp nb (some (.arr e xs fz)))∧aB P w' I β' (av hp nb (some (.arr e xs fz))) B M w0∧
   ai P w' I β' (av hp nb (some (.arr e xs fz))) v (.whole e nb):=by
 obtain ⟨i,z,hi,hz,h3,h4,_⟩:=kC aw;have vB:=y5 aw;have nX:P.bytesOf e=i.bytes:=by simp[Program.bytesOf,hi]
 have hlen:xs.length≤2^45:=by
  have:xs.length*1≤xs.length*P.bytesOf e:=wP _ vB;simp only[aX] at eI;omega
 have empty:xs=[]→(∃a c,x= .slice a 0 c)→∃v w' β',(Builtin.append_ #[t,t] ty #[.slice a0 0 0,x]).run P w= .ok v w'∧Le P w I β hp w' I β' (av hp nb (some (.arr e xs fz)))∧aB P w' I β' (av hp nb (some (.arr e xs fz))) B M w0∧
   ai P w' I β' (av hp nb (some (.arr e xs fz))) v (.whole e nb):=by
  intro kE Fe;subst kE;obtain ⟨a1,a2⟩:=ER S e hn;exact ⟨_,_,_,BX hu hi a0 0 0 x Fe (az _),a1,a2,.ej (bW _ _ _) (bW _ _ _)⟩
 rcases hx with ⟨⟨_,rfl⟩,rfl⟩|⟨a,c,news,hr⟩
 ·simp_all
 ·by_cases h0:xs.length=0
  ·have kE:xs=[]:=o0 h0;refine empty kE ⟨some a,c,?_⟩;rw[hr.val,h0]
  ·have da:=aag (P:=P) w t ty e i z hu hi hz a0 a xs.length c news (by rw[hr.len,h3]) hr.cell (by omega) (by omega) (by rw[←nX];simp only[aX] at eI;omega);have rm:=grownCap_ge w xs.length 0 e;have sK:grownCap w xs.length 0 e≤maxLen:=grownCap_le_maxLen w xs.length 0 e (by simp only[maxLen];omega);obtain ⟨n1,n2,n3⟩:=BU S.drew (nb:=nb) (cap:=grownCap w xs.length 0 e) (es:=xs) (C0:=news.toArray++Builtin.zeroCells z.cells (grownCap w xs.length 0 e-xs.length)) aw hn
    (by simp only[Kh,rY,size_zeroCells,h4,hr.len,←kQ];grind) rm sK
    (fun i' j y t' hy ht hj=>by
     obtain ⟨u,lg,hp⟩:=hr.el i' j y t' hy ht hj;have bf:=(cO.1 lg).1;refine ⟨u,?_,Pure.drew hp⟩;grind)
   rw[hr.val];exact ⟨_,_,_,da,(Le.drew w I β hp).trans n1,n2,n3⟩
theorem aah {P:Program} (w:World) (t ty e T:TypeId) (i:TypeInfo) (ht:P.underlying t=some (.slice e)) (hi:P.info? e=some i)
  (g mA vC:Nat) (cur:Array Value) (hg:w.heap[g]? =some (.cells cur T (0,0)))
  (a:Addr) (m c:Nat) (news:List Value) (hl:news.length=m*i.size) (tT: ∀j u,news[j]? =some u→w.cell? (a.add j)=some u) (h1: ∀u∈news,u.oneCell'=true)
  (tU:mA+m≤vC) (BY:mA*i.size+news.length≤cur.size):
  (Builtin.append_ #[t,t] ty #[.slice (some ⟨g,0,none⟩) mA vC,.slice (some a) m c]).run P w=
   .ok (.slice (some ⟨g,0,none⟩) (mA+m) vC) (w.setRow g (cur.toList.take (mA*i.size)++news++cur.toList.drop (mA*i.size+news.length)).toArray):=by
 have hf:=run_firstCells_some (P:=P) w i.size m a m c news hl tT;have b9:=run_storeCells_at P g (mA*i.size) T news 0 cur w hg (by omega) h1;simp only[Nat.add_zero] at b9;simp[Builtin.append_,run_underlying ht,sizeOf,typeInfo,hi,Builtin.lenOf,tU,hf,Addr.add_lit,b9]
theorem aai (S:aB P w I β hp B M w0) {t ty e:TypeId} {nb id:Nat} {s x:Value} {es xs:List V} {fz:Bool} (hu:P.underlying t=some (.slice e)) (aw:dw P e=true) (hs:ai P w I β hp s (.whole e id)) (ab:hp id=some (.arr e es fz)) (hn:hp nb=none)
  (eI:Nat.ble ((es.length+xs.length)*P.bytesOf e) aX=true) (nc:((∃a,x= .slice a 0 0)∧xs=[])∨∃a c news,Row P w I e x xs a c news):
  dJ P ((Builtin.append_ #[t,t] ty #[s,x]).run P w) w I β hp B M w0 ⟨.whole e nb,[(nb,.arr e (es++xs) fz),(id,.dead)]⟩:=by
 rw[fo] at eI;have cm:nb≠id:=fun e=>by grind
 obtain ⟨k1,k2⟩:=xi S ab;have ja:av hp id (some af.dead) nb=none:=by rw[cK _ _ cm];exact hn
 cases hs with
 | eC hd=>grind
 | ee hd=>grind
 | eF hd=>grind
 | fC hd=>grind
 | ej hd hb=>
  rw[ab] at hd;cases hd;simp only[List.length_nil,ed] at eI;have akl:((∃a,x= .slice a 0 0)∧xs=[])∨∃a c news,Row P w I e x xs a c news:=nc;obtain ⟨v,w',β',a1,a2,a3,a4⟩:=Ra (ty:=ty) k2 hu aw ja eI akl;exact ⟨v,w',I,β',a1,k1.trans a2,a3,a4⟩
 | @whole _ _ aQ qX b cap hd hb bw cf hm=>
  rw[ab] at hd;cases hd;have hr:=S.h.rel id _ ab;cases hr with
  | eZ aA=>grind
  | @arr _ T _ _ b' Ca hL _ aA hh xq hf fQ xr=>
   rw[hb] at aA;cases aA;obtain ⟨i,z,hi,hz,h3,h4,_⟩:=kC aw;have vB:=y5 aw;have nX:P.bytesOf e=i.bytes:=by simp[Program.bytesOf,hi]
   have hlen:es.length+xs.length≤2^45:=by
    have:(es.length+xs.length)*1≤(es.length+xs.length)*P.bytesOf e:=wP _ vB;simp only[aX] at eI;omega
   rw[kY hh] at bw;have qj: ∀ax blk',av hp id (some af.dead) ax=some blk'→¬bB P w (β ax) blk' b:=by
    intro ax blk' h1 h2;by_cases m9:ax=id
    ·subst m9;rw[bW] at h1;cases h1;exact h2.alive rfl
    ·rw[cK _ _ m9] at h1;exact m9 (S.h.inj ax id blk' _ b h1 ab h2 (.root (by simp) hb))
   have Ff:=S.h.xe id _ b ab (by simp) hb;have room: ∀(C':Array Value) (w':World) (ys:List V),w'.heap[b]? =some (.cells C' T (0,0))→C'.size=Ca.size→(∀b',b'≠b→w'.heap[b']? =w.heap[b']?)→w.heap.size≤w'.heap.size→(w'.os=w.os∧w'.output=w.output)→ys.length≤cap→es.length≤ys.length→(∀j,j<es.length*P.cellsOf e→C'[j]? =Ca[j]?)→
     (∀(i j:Nat) (y:V) (t':TypeId),ys[i]? =some y→(bc P e)[j]? =some t'→j<P.cellsOf e→∃v,C'[i*P.cellsOf e+j]? =some v∧Pure P w I t' v (cu P e y j))→
     Le P w I β hp w' I (av β nb (some b)) (av (av hp id (some .dead)) nb (some (.arr e ys fz)))∧aB P w' I (av β nb (some b)) (av (av hp id (some .dead)) nb (some (.arr e ys fz))) B M w0∧
     ai P w' I (av β nb (some b)) (av (av hp id (some .dead)) nb (some (.arr e ys fz))) (.slice (some ⟨b,0,none⟩) ys.length cap) (.whole e nb):=by
    intro C' w' ys hC pk nf hwz akm xp hey jt hy;have hIn:=Q6 hf fQ;obtain ⟨a1,a2⟩:=BK k2 (blk:= .arr e ys fz) (w':=w') ja qj (Z7 hh hC hIn jt) (fun b' h _=>nf b' h) hwz akm Ff
     (fun b' h=>(ew (h.flat (by simp))).symm) (fun hle=> .arr (pk▸hL) aw rfl hC (by rw[pk,←bw];exact eV _ xp) (fun _ j h=>gB (hIn j h) (eV _ hey)) fQ fun i j y t' a b c=>by
      obtain ⟨v,hv,hp⟩:=hy i j y t' a b c;exact ⟨v,hv,hp.mono hle.eN hle.cZ⟩)
    refine ⟨k1.trans a1,a2,.whole (bW _ _ _) (bW _ _ _) ?_ xp hm⟩;rw[kY hC,pk,bw]
   have same:xs=[]→(∃a c,x= .slice a 0 c)→dJ P ((Builtin.append_ #[t,t] ty #[.slice (some ⟨b,0,none⟩) es.length cap,x]).run P w) w I β hp B M w0 ⟨.whole e nb,[(nb,.arr e (es++xs) fz),(id,.dead)]⟩:=by
    intro kE Fe;subst kE;rw[j4];obtain ⟨a1,a2,a3⟩:=room Ca w es hh rfl (fun _ _=>rfl) (az _) ⟨rfl,rfl⟩ cf (az _) (fun _ _=>rfl) xr;exact ⟨_,_,_,_,BX hu hi _ _ _ x Fe cf,a1,a2,a3⟩
   rcases nc with ⟨⟨_,rfl⟩,rfl⟩|⟨a,c,news,dm⟩
   ·grind
   ·have h1:=dm.one aw;have lO:es.length*P.cellsOf e≤Ca.toList.length:=by omega
    by_cases tU:es.length+xs.length≤cap
    ·have BY:es.length*P.cellsOf e+news.length≤Ca.size:=by rw[dm.len,←kQ,←bw];exact eV _ tU
     have da:=aah (P:=P) w t ty e T i hu hi b es.length cap Ca hh a xs.length c news (by rw[dm.len,h3]) dm.cell h1 tU (by grind);rw[h3] at da;have fE:=Lu (P:=P) (w:=w) (I:=I) (n:=es.length) (c:=Ca.toList) rfl (fun i j y t' a b c=>by
      grind) dm.el lO (Ca.toList.drop (es.length*P.cellsOf e+news.length))
     obtain ⟨a1,a2,a3⟩:=room (Ca.toList.take (es.length*P.cellsOf e)++news++Ca.toList.drop (es.length*P.cellsOf e+news.length)).toArray (w.setRow b _) (es++xs)
      (setRow_heap w b Ca _ T _ hh) (by simp;omega) (fun b' aA=>setRow_other w b b' _ aA) (by simp) ⟨rfl,rfl⟩ (by grind) (by simp) (fun j hj=>by
        grind)
      (fun i j y t' a b c=>by
       grind)
     rw[dm.val];rw[dd] at a3;exact ⟨_,_,_,_,da,a1,a2,a3⟩
    ·have hold: ∀(j:Nat) v,(Ca.toList.take (es.length*P.cellsOf e))[j]? =some v→w.cell? ((⟨b,0,none⟩:Addr).add j)=some v:=by
      intro j v hj;have eD:=(cO.1 hj).1;have cS:j<es.length*P.cellsOf e:=by grind
      rw[iQ cS] at hj;rw[oI,cell?_cells hh,ed];grind
     have da:=run_append_grow (P:=P) w t ty e i z hu hi hz ⟨b,0,none⟩ es.length cap (Ca.toList.take (es.length*P.cellsOf e)) (by grind) hold a xs.length c news (by rw[dm.len,h3]) dm.cell (by omega) (by omega)
      (growslice_fits (by omega) (by rw[←nX];simp only[aX] at eI;omega))
     have rm:=grownCap_ge w (es.length+xs.length) cap e;have sK:grownCap w (es.length+xs.length) cap e≤maxLen:=grownCap_le_maxLen w _ cap e (by simp only[maxLen];omega);have fE:=Lu (P:=P) (w:=w) (I:=I) (n:=es.length) (c:=Ca.toList) rfl (fun i j y t' a b c=>by
      grind) dm.el lO (Builtin.zeroCells z.cells (grownCap w (es.length+xs.length) cap e-(es.length+xs.length))).toList
     obtain ⟨n1,n2,n3⟩:=BU k2.drew (nb:=nb) (cap:=grownCap w (es.length+xs.length) cap e) (es:=es++xs)
      (C0:=(Ca.toList.take (es.length*P.cellsOf e)).toArray++news.toArray++Builtin.zeroCells z.cells (grownCap w (es.length+xs.length) cap e-(es.length+xs.length))) aw ja
      (by
       have e1:(Ca.toList.take (es.length*P.cellsOf e)).length=es.length*P.cellsOf e:=by simp;omega
       simp only[Kh,rY,size_zeroCells,h4,dm.len,e1,←kQ];grind) (by grind) sK
      (fun i j y t' a b c=>by
       obtain ⟨v,hv,hp⟩:=fE i j y t' a b c;refine ⟨v,?_,Pure.drew hp⟩;grind)
     rw[dm.val];rw[dd] at n3;exact ⟨_,_,_,_,da,(k1.trans (Le.drew w I β _)).trans n1,n2,n3⟩
theorem akn (S:aB P w I β hp B M w0) {t ty e:TypeId} {nb:Nat} {s x:Value} {sv xv:V} {r:R} {rd:List Nat} (hu:P.underlying t=some (.slice e)) (hs:ai P w I β hp s sv) (hx:ai P w I β hp x xv)
  (h:(Bw P nb e sv xv).run C hp=some (r,rd)):dJ P ((Builtin.append_ #[t,t] ty #[s,x]).run P w) w I β hp B M w0 r:=by
 unfold Bw at h;obtain ⟨aw,h⟩:=aH h;obtain ⟨xs,nc,l0,h⟩:=Fb S.h.rel aw hx h;cases sv with
 | nilS e'=>
  obtain ⟨hc,h⟩:=aH h;simp only[aK,ba,fo] at hc;obtain ⟨hn,rfl⟩:=mz h;obtain ⟨a0,rfl⟩: ∃a0,s= .slice a0 0 0:=by cases hs;grind
  obtain ⟨v,w',β',a1,a2,a3,a4⟩:=Ra (ty:=ty) S hu aw hn hc.2 nc;exact ⟨v,w',I,β',a1,a2,a3,a4⟩
 | whole e' id=>
  obtain ⟨l,h⟩:=run_get h;cases ab:hp id with
  | none=>rw[ab] at h;cases h
  | some blk=>
   rw[ab] at h;cases blk with
   | dead=>cases h
   | var _=>cases h
   | nest _ _ _=>cases h
   | map _ _=>cases h
   | out _ _ _ _=>cases h
   | arr eM es fz=>
    obtain ⟨hc,h⟩:=aH h;obtain ⟨hn,rfl⟩:=mz h;simp only[aK,ba,fo] at hc;obtain ⟨Rb,Rc,eI⟩:=hc;subst Rb;subst Rc;exact aai S hu aw hs ab hn (by simp_all) nc
 | _=>cases h
end
section
variable {P:Program} {w w':World} {I I':Nat→Nat→Prop} {β β':Nat→Option Nat} {hp hp':Nat→Option af} {C:ae} {B:Nat} {M:Nat→Prop} {w0:Start}
theorem run_copy_none (w:World) {dT sT ty elem:TypeId} {i:TypeInfo} (a0:Option Addr) (aaj ako:Nat) (a1:Option Addr) (mA vC:Nat) (hu:P.underlying dT=some (.slice elem)) (hi:P.info? elem=some i) (h0:Nat.min mA aaj=0):
  (Builtin.copy_ #[dT,sT] ty #[.slice a0 aaj ako,.slice a1 mA vC]).run P w= .ok (goInt 0) w:=by
 cases a0<;>cases a1<;>simp[Builtin.copy_,run_underlying hu,Builtin.lenOf,Builtin.firstCells,sizeOf,typeInfo,hi,h0,storeCells,loadCells,loadCellsFrom]
theorem akp (S:aB P w I β hp B M w0) {t u ty e:TypeId} {s x:Value} {sv xv:V} {r:R} {rd:List Nat} (hu:P.underlying t=some (.slice e)) (hs:ai P w I β hp s sv) (hx:ai P w I β hp x xv)
  (h:(Qj P e sv xv).run C hp=some (r,rd)):dJ P ((Builtin.copy_ #[t,u] ty #[s,x]).run P w) w I β hp B M w0 r:=by
 unfold Qj at h;obtain ⟨aw,h'⟩:=aH h;clear h;simp only[aK,ba] at aw;obtain ⟨aw,h1⟩:=aw;obtain ⟨xs,nc,l0,h⟩:=Fb S.h.rel aw hx h';obtain ⟨i,z,hi,hz,bw,_⟩:=kC aw;cases sv<;>simp only at h<;>first|(cases h;done)|skip
 rename_i e' id;obtain ⟨l,h2⟩:=run_get h;clear h;cases ab:hp id with
 | none=>rw[ab] at h2;cases h2
 | some blk=>
  rw[ab] at h2;cases blk<;>simp only at h2<;>first|(cases h2;done)|skip
  rename_i e2 es fz;cases fz with
  | true=>cases h2
  | false=>
  obtain ⟨hc,h3⟩:=aH h2;simp only[aK,ba] at hc;obtain ⟨rfl,rfl⟩:=hc;obtain rfl:=aZ h3;have tW:min xs.length es.length=0→(Builtin.copy_ #[t,u] ty #[s,x]).run P w= .ok (goInt 0) w→dJ P ((Builtin.copy_ #[t,u] ty #[s,x]).run P w) w I β hp B M w0 ⟨.int .i64 (min xs.length es.length:Nat),[(id,.arr e (xs.take es.length++es.drop xs.length) false)]⟩:=by
   intro h0 hr;have he:xs.take es.length++es.drop xs.length=es:=by
    rcases Nat.le_total xs.length es.length with hl|hl
    ·have:xs=[]:=o0 (by omega);simp[this]
    ·have:es=[]:=o0 (by omega);simp[this]
   have iY:cB hp [(id,.arr e (xs.take es.length++es.drop xs.length) false)]=hp:=by
    rw[he];exact Qs hp id _ ab
   refine ⟨goInt 0,w,I,β,hr,?_⟩;simp only[iY,h0];exact ⟨Le.refl w I β hp,S,.int⟩
  cases hs with
  | eC hd=>rw[ab] at hd;cases hd
  | ee hd=>rw[ab] at hd;cases hd
  | eF hd=>rw[ab] at hd;cases hd
  | fC hd=>rw[ab] at hd;cases hd
  | @ej _ _ fz a hd hb=>
   rw[ab] at hd;cases hd;refine tW (by simp) ?_;rcases nc with ⟨⟨a',rfl⟩,rfl⟩|⟨a',c,news,dm⟩
   ·exact run_copy_none w _ _ _ _ _ _ hu hi (by simp)
   ·rw[dm.val];exact run_copy_none w _ _ _ _ _ _ hu hi (by simp)
  | @whole _ _ aQ qX b cap hd hb BZ cf hm=>
   have fP:=hd;rw[ab] at hd;cases hd;rcases nc with ⟨⟨a',rfl⟩,rfl⟩|⟨a',c,news,dm⟩
   ·exact tW (by simp) (run_copy_none w _ _ _ _ _ _ hu hi (by simp))
   have hr:=S.h.rel id _ ab;cases hr with
   | eZ aA=>rw[aA] at hb;cases hb
   | @arr _ T0 _ _ b' Ca hL _ aA hh xq hf fQ xr=>
    rw[hb] at aA;cases aA;have rn:news.length=xs.length:=by rw[dm.len,h1,ij]
    rw[h1,ij] at xq;have nY:(news.take es.length).length=Nat.min xs.length es.length:=by
     rw[lF,rn,Nat.min_comm]
    have aak:Nat.min xs.length es.length=min xs.length es.length:=rfl;have da:=run_copy_row (P:=P) w t u ty e b 0 es.length cap a' xs.length c Ca T0 (news.take es.length) hu (by rw[hi];simp[bw,h1]) hh nY
     (fun j v hj=>dm.cell j v (by
      have:=(cO.1 hj).1;rw[lF] at this;rwa [iQ (by omega)] at hj)) (by rw[nY,aak];omega) (fun v hv=>dm.one aw v (List.mem_of_mem_take hv))
    rw[dm.val];have hq:(goInt (news.take es.length).length)= .int .i64 ((min xs.length es.length:Nat):Int):=by rw[nY];rfl
    have nU:(xs.take es.length++es.drop xs.length).length=es.length:=by simp;omega
    have pk:(Ca.toList.take 0++news.take es.length++Ca.toList.drop (0+(news.take es.length).length)).toArray.size=Ca.size:=by
     simp only[rY,dd,Be,lF,nY,aak];simp;omega
    obtain ⟨a1,a2⟩:=Lf S (blk':= .arr e (xs.take es.length++es.drop xs.length) false) (Cb:=(Ca.toList.take 0++news.take es.length++Ca.toList.drop (0+(news.take es.length).length)).toArray) ab (by simp) ⟨rfl,nU.symm⟩ hb (fQ rfl) (by simp) hh pk
     (fun hle dU=> .arr (by rw[pk];exact hL) aw rfl dU (by rw[pk,nU,h1,ij];exact xq) (fun h=>by cases h) (fun _=>fQ rfl) fun i j y t' hy ht hj=>by
      rw[h1] at hj⊢;obtain rfl:j=0:=by omega
      rw[ij,Nat.add_zero];have sI:=(cO.1 hy).1;rw[nU] at sI;by_cases xt:i<xs.length
      ·rw[o5 (by rw[lF];omega),iQ sI] at hy;obtain ⟨u',k1,k2⟩:=dm.el i 0 y t' hy ht (by omega);rw[h1,ij,Nat.add_zero] at k1;refine ⟨u',?_,k2.mono hle.eN hle.cZ⟩;simp only[List.take_zero,List.nil_append,o4];rw[o5 (by rw[lF];omega),iQ sI];exact k1
      ·have e1:(xs.take es.length).length=xs.length:=by rw[lF];omega
       rw[oB (by omega),e1,qQ,show xs.length+(i-xs.length)=i by omega] at hy;obtain ⟨u',k1,k2⟩:=xr i 0 y t' hy ht (by omega);rw[h1,ij,Nat.add_zero] at k1;refine ⟨u',?_,k2.mono hle.eN hle.cZ⟩;simp only[List.take_zero,List.nil_append,o4,ed];have e2:(news.take es.length).length=xs.length:=by rw[lF];omega
       rw[oB (by omega),e2,qQ,show xs.length+(i-xs.length)=i by omega];simpa using k1)
    exact ⟨_,_,_,_,da,a1,a2,by rw[hq];exact .int⟩
theorem akq (S:aB P w I β hp B M w0) {t ty e:TypeId} {x:Value} {xv:V} {r:R} {rd:List Nat} (hu:P.underlying t=some (.slice e)) (hx:ai P w I β hp x xv)
  (h:(Qi P e xv).run C hp=some (r,rd)):dJ P ((Builtin.clear_ #[t] ty #[x]).run P w) w I β hp B M w0 r:=by
 unfold Qi at h;obtain ⟨fE,h'⟩:=aH h;clear h;have aw:dw P e=true:=by
  unfold o6 at fE;simp only[aK] at fE;exact fE.1
 obtain ⟨i,z,hi,hz,bw,Fg,hzp⟩:=Fa (w:=w) (I:=I) fE;have kD:=(oG aw).2;cases xv<;>simp only at h'<;>first|(cases h';done)|skip
 rename_i e' id off len;obtain ⟨l,h2⟩:=run_get h';clear h';cases ab:hp id with
 | none=>rw[ab] at h2;cases h2
 | some blk=>
  rw[ab] at h2;cases blk<;>simp only at h2<;>first|(cases h2;done)|skip
  rename_i e2 es fz;cases fz with
  | true=>cases h2
  | false=>
  obtain ⟨hc,h3⟩:=aH h2;simp only[aK,ba] at hc;obtain ⟨rfl,rfl⟩:=hc;obtain rfl:=aZ h3;have tW:len=0→(Builtin.clear_ #[t] ty #[x]).run P w= .ok (.tuple #[]) w→dJ P ((Builtin.clear_ #[t] ty #[x]).run P w) w I β hp B M w0 ⟨.bK [],[(id,.arr e (es.take off++(List.replicate len (dP P e (iT P e))++es.drop (off+len))) false)]⟩:=by
   intro h0 hr;subst h0;have iY:cB hp [(id,.arr e (es.take off++(List.replicate 0 (dP P e (iT P e))++es.drop (off+0))) false)]=hp:=by
    simp only[List.replicate_zero,List.nil_append,Nat.add_zero,List.take_append_drop];exact Qs hp id _ ab
   refine ⟨.tuple #[],w,I,β,hr,?_⟩;simp only[iY];exact ⟨Le.refl w I β hp,S,.bK rfl fun j v x hj hx=>by simp at hx⟩
  cases hx with
  | jJ hd=>rw[ab] at hd;cases hd
  | @jo _ _ _ a0 hd hb=>exact tW rfl (by cases a0<;>simp[Builtin.clear_,run_underlying hu])
  | @sub _ _ _ _ aQ qX b o cap hd hb lK cf ho=>
   by_cases hlen:len=0
   ·refine tW hlen ?_;subst hlen;simp[Builtin.clear_,run_underlying hu]
   have akr:0<len:=by omega
   have fP:=hd;rw[ab] at hd;cases hd;have hr:=S.h.rel id _ ab;cases hr with
   | eZ aA=>rw[aA] at hb;cases hb
   | @arr _ T0 _ _ b' Ca hL _ aA hh xq hf fQ xr=>
    rw[hb] at aA;cases aA;have ho:=ho akr;subst ho;have zl:(Builtin.zeroCells z.cells len).toList.length=len*P.cellsOf e:=by rw[Array.length_toList,size_zeroCells,Fg]
    have hmul:off*P.cellsOf e+len*P.cellsOf e≤es.length*P.cellsOf e:=by rw[←kQ];exact eV _ lK
    have sF: ∀v∈(Builtin.zeroCells z.cells len).toList,v.oneCell'=true:=by
     intro v hv;obtain ⟨k,hk⟩:=tz hv;have qm:=(cO.1 hk).1;rw[zl] at qm;have hzg:(Builtin.zeroCells z.cells len)[k]? =z.cells[k %z.cells.size]? :=aab (z:=z.cells) (n:=len*z.cells.size) (by rw[Fg];exact qm) (by rw[Fg];exact kD);rw[qR,hzg] at hk;have hm:k %z.cells.size<P.cellsOf e:=by rw[Fg];exact Bd _ kD
     have htl:k %z.cells.size<(bc P e).length:=by rw[fK aw];exact hm
     obtain ⟨v',E9,hp'⟩:=hzp (k %z.cells.size) _ (cp htl) hm;rw[hk] at E9;cases E9;exact hp'.1.one
    have b9:=run_storeCells_at P b (off*P.cellsOf e) T0 (Builtin.zeroCells z.cells len).toList 0 Ca w hh (by rw[zl];omega) sF;simp only[Nat.add_zero] at b9;have da:(Builtin.clear_ #[t] ty #[.slice (some ⟨b,off*P.cellsOf e,none⟩) len cap]).run P w= .ok (.tuple #[]) (w.setRow b (Ca.toList.take (off*P.cellsOf e)++(Builtin.zeroCells z.cells len).toList++Ca.toList.drop (off*P.cellsOf e+(Builtin.zeroCells z.cells len).toList.length)).toArray):=by
     obtain ⟨n,rfl⟩: ∃n,len=n+1:=⟨len-1,by omega⟩
     simp[Builtin.clear_,run_underlying hu,zeroValue,typeInfo,hi,hz,b9]
    have nU:(es.take off++(List.replicate len (dP P e (iT P e))++es.drop (off+len))).length=es.length:=by simp;omega
    have pk:(Ca.toList.take (off*P.cellsOf e)++(Builtin.zeroCells z.cells len).toList++Ca.toList.drop (off*P.cellsOf e+(Builtin.zeroCells z.cells len).toList.length)).toArray.size=Ca.size:=by
     simp only[rY,dd,Be,lF,zl,Array.length_toList];omega
    obtain ⟨a1,a2⟩:=Lf S (blk':= .arr e (es.take off++(List.replicate len (dP P e (iT P e))++es.drop (off+len))) false) ab (by simp) ⟨rfl,nU.symm⟩ hb (fQ rfl) (by simp) hh pk
     (fun hle dU=> .arr (by rw[pk];exact hL) aw rfl dU (by rw[pk,nU];exact xq) (fun h=>by cases h) (fun _=>fQ rfl) fun i' j y t' hy ht hj=>by
      have oN:=rj es (List.replicate len (dP P e (iT P e))) off i' (by simp;omega);rw[Bf] at oN;rw[oN] at hy;have hC:(Ca.toList.take (off*P.cellsOf e)++(Builtin.zeroCells z.cells len).toList++Ca.toList.drop (off*P.cellsOf e+(Builtin.zeroCells z.cells len).toList.length)).toArray[i'*P.cellsOf e+j]? =
        if i'*P.cellsOf e+j<off*P.cellsOf e then Ca.toList[i'*P.cellsOf e+j]? else if i'*P.cellsOf e+j<off*P.cellsOf e+len*P.cellsOf e then (Builtin.zeroCells z.cells len).toList[i'*P.cellsOf e+j-off*P.cellsOf e]? else Ca.toList[i'*P.cellsOf e+j]? :=by
       have:=rj Ca.toList (Builtin.zeroCells z.cells len).toList (off*P.cellsOf e) (i'*P.cellsOf e+j) (by rw[zl,Array.length_toList];omega);rw[o4,fN,this,zl]
      by_cases eP:i'<off
      ·rw[ah eP] at hy;have:(i'+1)*P.cellsOf e≤off*P.cellsOf e:=eV _ eP;rw[kQ] at this;rw[br] at hC;obtain ⟨u,k1,k2⟩:=xr i' j y t' hy ht hj;exact ⟨u,hC.trans (by simpa using k1),k2.mono hle.eN hle.cZ⟩
      ·rw[ag eP] at hy;have h1:off*P.cellsOf e≤i'*P.cellsOf e:=eV _ (by omega);rw[cl] at hC;by_cases lh:i'<off+len
       ·rw[ah lh] at hy;have:(i'+1)*P.cellsOf e≤(off+len)*P.cellsOf e:=eV _ lh;rw[kQ,kQ] at this;rw[br] at hC;obtain ⟨v,k1,k2⟩:=Q7 (w:=w) (I:=I) fE hi hz len len (az _) (i'-off) j y t' hy ht hj;refine ⟨v,hC.trans ?_,k2.mono hle.eN hle.cZ⟩;rw[show i'*P.cellsOf e+j-off*P.cellsOf e=(i'-off)*P.cellsOf e+j by rw[Nat.sub_mul];omega,qR];unfold Builtin.zeroCells;rw[Fg] at k1⊢;exact k1
       ·rw[ag lh] at hy;have:(off+len)*P.cellsOf e≤i'*P.cellsOf e:=eV _ (by omega);rw[kQ] at this;rw[cl] at hC;obtain ⟨u,k1,k2⟩:=xr i' j y t' hy ht hj;exact ⟨u,hC.trans (by simpa using k1),k2.mono hle.eN hle.cZ⟩)
    exact ⟨_,_,_,_,da,a1,a2,.bK rfl fun j v x hj hx=>by simp at hx⟩
end
section
variable {P:Program} {w w':World} {I I':Nat→Nat→Prop} {β β':Nat→Option Nat} {hp hp':Nat→Option af} {C:ae} {B:Nat} {M:Nat→Prop} {w0:Start}
theorem Fh (S:aB P w I β hp B M w0) {nb b:Nat} {e e1:TypeId} {ys:List V} {C':Array Value} (hr:rowOf P e=some e1) (hn:hp nb=none)
  {T:TypeId} (vy:w'.heap[b]? =some (.cells C' T (0,0))) (hlen:ys.length≤C'.size)
  (hw: ∀b',b'≠b→b'<w.heap.size→w'.heap[b']? =w.heap[b']?) (bw:w.heap.size≤w'.heap.size) (mX:w'.os=w.os∧w'.output=w.output) (hb:M b∨B≤b)
  (qj: ∀ax blk',hp ax=some blk'→¬bB P w (β ax) blk' b) (dI: ∀j,¬I b j) (K:Nat→Nat→List V→Prop)
  (gI: ∀(i:Nat) x,ys[i]? =some x→∃l v,x= .list e1 l∧C'[i]? =some v∧zh P w e1 (K i) v l)
  (hK: ∀i b1 l,K i b1 l→b1≠b∧b1<w.heap.size∧iB P w I b1 e1 l∧(M b1∨B≤b1)∧∀id blk,hp id=some blk→¬bB P w (β id) blk b1)
  (tN: ∀i j b1 l m,K i b1 l→K j b1 m→i=j):
  Le P w I β hp w' I (av β nb (some b)) (av hp nb (some (.nest e ys [0,0,0])))∧aB P w' I (av β nb (some b)) (av hp nb (some (.nest e ys [0,0,0]))) B M w0:=by
 obtain ⟨p1,p2⟩:=ZL (w:=w) (I:=I) (vers:=[0,0,0]) hr vy hlen dI K gI (fun i b1 l h=>⟨(hK i b1 l h).1,hw _ (hK i b1 l h).1 (hK i b1 l h).2.1,(hK i b1 l h).2.2.1⟩) tN;refine Zp S hn qj (fun j h=>absurd h (dI j)) hw bw mX hb (fun b' ho=> ?_) (fun hle=>p2 hle.cZ);rcases p1 b' ho with h|⟨i,l,h⟩
 ·exact .inl h
 ·exact .inr ⟨(hK _ _ _ h).2.2.2.1,(hK _ _ _ h).2.2.2.2⟩
theorem aks (S:aB P w I β hp B M w0) {t ty e:TypeId} {nb:Nat} {s x:Value} {sv xv:V} {r:R} {rd:List Nat} (hu:P.underlying t=some (.slice e)) (hs:ai P w I β hp s sv) (hx:ai P w I β hp x xv)
  (h:(Qh P nb e sv xv).run C hp=some (r,rd)):dJ P ((Builtin.append_ #[t,t] ty #[s,x]).run P w) w I β hp B M w0 r:=by
 unfold Qh at h;obtain ⟨hro,ha⟩:=aH h;clear h;obtain ⟨e1,hr⟩:=Ki.1 hro;obtain ⟨Re,cX,aw,oK,gR⟩:=xo hr;have kB:bc P e=[e]:=by simp[bc,cX]
 have hk:P.cellsOf e=1:=by rw[←fK aw,kB];rfl
 obtain ⟨i,z,hi,hz,h3,h4,_⟩:=kC aw;have vB:=y5 aw;have nX:P.bytesOf e=i.bytes:=by simp[Program.bytesOf,hi]
 rw[hk] at h3 h4;cases sv with
 | whole e' id=>
  obtain ⟨l0,hb⟩:=run_get ha;clear ha;cases ab:hp id with
  | none=>rw[ab] at hb;cases hb
  | some blk=>
   rw[ab] at hb;cases blk with
   | nest eM es vers=>
    obtain ⟨hc,hd⟩:=aH hb;clear hb;simp only[aK,ba] at hc;obtain ⟨rfl,rfl⟩:=hc;cases xv with
    | nilS e3=>
     obtain ⟨_,he⟩:=aH hd;cases he;obtain ⟨a0,rfl⟩: ∃a0,x= .slice a0 0 0:=by cases hx;exact ⟨_,rfl⟩
     cases hs with
     | eC hd=>rw[ab] at hd;cases hd
     | ej hd=>rw[ab] at hd;cases hd
     | whole hd=>rw[ab] at hd;cases hd
     | fC hd=>rw[ab] at hd;cases hd
     | eF hd hb=>exact ⟨_,_,_,_,BX hu hi _ 0 0 _ ⟨_,_,rfl⟩ (az _),Le.refl ..,S,.eF hd hb⟩
     | ee hd hb bw cf hm=>
      rw[ab] at hd;cases hd;exact ⟨_,_,_,_,BX hu hi _ _ _ _ ⟨_,_,rfl⟩ cf,Le.refl ..,S,.ee ab hb bw cf hm⟩
    | list e3 l=>
     obtain ⟨im,he⟩:=aH hd;simp only[aK,ba] at im;obtain ⟨rfl,my⟩:=im;have my:=wJ.1 my;subst my;cases he;obtain ⟨a0,c0,rfl⟩: ∃a0 c0,x= .slice a0 0 c0:=by
      cases hx with
      | list hp'=>cases hp' with
       | nil=>exact ⟨_,_,rfl⟩
       | emp=>exact ⟨_,_,rfl⟩
       | list g b c d e=>exact ⟨_,_,by rw[←b];rfl⟩
     cases hs with
     | eC hd=>rw[ab] at hd;cases hd
     | ej hd=>rw[ab] at hd;cases hd
     | whole hd=>rw[ab] at hd;cases hd
     | fC hd=>rw[ab] at hd;cases hd
     | eF hd hb=>exact ⟨_,_,_,_,BX hu hi _ 0 0 _ ⟨_,_,rfl⟩ (az _),Le.refl ..,S,.eF hd hb⟩
     | ee hd hb bw cf hm=>
      rw[ab] at hd;cases hd;exact ⟨_,_,_,_,BX hu hi _ _ _ _ ⟨_,_,rfl⟩ cf,Le.refl ..,S,.ee ab hb bw cf hm⟩
    | whole e3 bD=>
     obtain ⟨l1,he⟩:=run_get hd;clear hd;cases dE:hp bD with
     | none=>rw[dE] at he;cases he
     | some cL=>
      rw[dE] at he;cases cL with
      | nest e4 xs pg=>
       obtain ⟨hc,hf⟩:=aH he;clear he;simp only[aK,ba,fo,nF,oA] at hc;obtain ⟨rfl,rfl,aal,kD,eI⟩:=hc;have cm:id≠bD:=fun h=>by rw[h,nG] at aal;cases aal
       obtain ⟨hn,rfl⟩:=mz hf;have hlen:es.length+xs.length≤2^45:=by
        have:(es.length+xs.length)*1≤(es.length+xs.length)*P.bytesOf e:=wP _ vB;simp only[aX] at eI;omega
       obtain ⟨b2,Fi,fD,rfl⟩: ∃b2 Fi,β bD=some b2∧x= .slice (some ⟨b2,0,none⟩) xs.length Fi:=by
        cases hx with
        | eC hd=>rw[dE] at hd;cases hd
        | ej hd=>rw[dE] at hd;cases hd
        | whole hd=>rw[dE] at hd;cases hd
        | fC hd=>rw[dE] at hd;cases hd
        | eF hd hb=>rw[dE] at hd;cases hd;simp at kD
        | ee hd hb bw cf hm=>rw[dE] at hd;cases hd;exact ⟨_,_,hb,rfl⟩
       obtain ⟨C2,_,g1,g2,g3,g4,g5,g6⟩:=Q4 S hr dE fD;have tT: ∀(j:Nat) v,(C2.toList.take xs.length)[j]? =some v→w.cell? ((⟨b2,0,none⟩:Addr).add j)=some v:=by
        intro j v hj;have eD:=(cO.1 hj).1;rw[lF] at eD;rw[iQ (by omega)] at hj;rw[oI,cell?_cells g1,ed];simpa using hj
       have rn:(C2.toList.take xs.length).length=xs.length:=by simp;omega
       have sF: ∀u∈C2.toList.take xs.length,u.oneCell'=true:=by
        intro u hm;obtain ⟨j,hj⟩:=tz hm;have eD:=(cO.1 hj).1;rw[rn] at eD;rw[iQ eD] at hj;obtain ⟨l,v,_,hv,hh⟩:=g4 j xs[j] (cp eD);have:v=u:=by rw[qR,hv] at hj;exact ew hj
        subst this;rcases hh with ⟨_,a,rfl⟩|⟨b1,cap,_,rfl,_⟩<;>rfl
       obtain ⟨k1,S1⟩:=xi S ab;have akt:av hp id (some af.dead) bD=some (.nest e xs pg):=by rw[cK _ _ (Ne.symm cm)];exact dE
       obtain ⟨k2,S2⟩:=xi S1 akt;have tX:nb≠id:=fun e=>by rw[e,ab] at hn;cases hn
       have aku:nb≠bD:=fun e=>by rw[e,dE] at hn;cases hn
       have tY:av (av hp id (some af.dead)) bD (some af.dead) nb=none:=by rw[cK _ _ aku,cK _ _ tX];exact hn
       have live: ∀{ax blk'},av (av hp id (some af.dead)) bD (some af.dead) ax=some blk'→blk'≠ .dead→hp ax=some blk'∧ax≠id∧ax≠bD:=by
        intro ax blk' h hd;by_cases q1:ax=bD
        ·subst q1;rw[bW] at h;cases h;exact absurd rfl hd
        ·rw[cK _ _ q1] at h;by_cases q2:ax=id
         ·subst q2;rw[bW] at h;cases h;exact absurd rfl hd
         ·rw[cK _ _ q2] at h;exact ⟨h,q2,q1⟩
       have Rf: ∀{idx bx:Nat} {bl},(idx=id∨idx=bD)→hp idx=some bl→bB P w (β idx) bl bx→∀ax blk',av (av hp id (some af.dead)) bD (some af.dead) ax=some blk'→¬bB P w (β ax) blk' bx:=by
        intro idx bx bl Lw tZ ho ax blk' h hO;obtain ⟨q1,q2,q3⟩:=live h hO.alive;have:=S.h.inj ax idx _ _ bx q1 tZ hO ho;rcases Lw with rfl|rfl
        ·exact q2 this
        ·exact q3 this
       have vD:cB hp [(nb,.nest e (es++xs) [0,0,0]),(id,.dead),(bD,.dead)]=av (av (av hp id (some af.dead)) bD (some af.dead)) nb (some (.nest e (es++xs) [0,0,0])):=by
        funext k;simp only[cB];by_cases q0:k=nb
        ·subst q0;rw[bW,bW]
        ·by_cases q1:k=id
         ·subst q1;rw[cK _ _ q0,bW,cK _ _ q0,cK _ _ cm,bW]
         ·by_cases q2:k=bD
          ·subst q2;rw[cK _ _ q0,cK _ _ q1,bW,cK _ _ q0,bW]
          ·rw[cK _ _ q0,cK _ _ q1,cK _ _ q2,cK _ _ q0,cK _ _ q2,cK _ _ q1]
       have m8:bB P w (β bD) (.nest e xs pg) b2:= .root (by simp) fD;have lit: ∀i b1 l,At P w b2 e xs [(i,0)] b1 e1 l→b1<w.heap.size∧iB P w I b1 e1 l∧(M b1∨B≤b1)∧∀ax blk',av (av hp id (some af.dead)) bD (some af.dead) ax=some blk'→¬bB P w (β ax) blk' b1:=fun i b1 l ha=>by
        obtain ⟨_,q2,q3,q4,q5⟩:=g5 i b1 l ha;exact ⟨q2,q3,q4,Rf (.inr rfl) dE q5⟩
       cases hs with
       | eC hd=>rw[ab] at hd;cases hd
       | ej hd=>rw[ab] at hd;cases hd
       | whole hd=>rw[ab] at hd;cases hd
       | fC hd=>rw[ab] at hd;cases hd
       | @eF _ _ _ a0 hd hb=>
        rw[ab] at hd;cases hd;simp only[List.length_nil,ed] at eI hlen;have da:=aag (P:=P) w t ty e i z hu hi hz a0 ⟨b2,0,none⟩ xs.length Fi (C2.toList.take xs.length) (by rw[rn,h3,ij]) tT (by omega) (by omega) (by rw[←nX];simp only[aX] at eI;omega);have rm:=grownCap_ge w xs.length 0 e;have sK:grownCap w xs.length 0 e≤maxLen:=grownCap_le_maxLen w xs.length 0 e (by simp only[maxLen];omega);have dU:(w.drew.alloc (.cells ((C2.toList.take xs.length).toArray++Builtin.zeroCells z.cells (grownCap w xs.length 0 e-xs.length)) e)).heap[w.heap.size]? =some (.cells ((C2.toList.take xs.length).toArray++Builtin.zeroCells z.cells (grownCap w xs.length 0 e-xs.length)) e):=heap_alloc_new w.drew (.cells ((C2.toList.take xs.length).toArray++Builtin.zeroCells z.cells (grownCap w xs.length 0 e-xs.length)) e);have BV:=S2.h.jK;obtain ⟨a1,a2⟩:=Fh (w':=w.drew.alloc (.cells ((C2.toList.take xs.length).toArray++Builtin.zeroCells z.cells (grownCap w xs.length 0 e-xs.length)) e)) S2 (nb:=nb) (b:=w.heap.size) (ys:=xs) hr tY dU (by simp;omega)
         (fun b' _ bf=>heap_alloc_old w.drew _ b' bf) (by simp) ⟨rfl,rfl⟩ (.inr S.size) (fun ax blk' h ho=>nE _ (S2.h.lt h ho)) (fun j hj=>nE _ (BV _ j hj))
         (fun i b1 l=>At P w b2 e xs [(i,0)] b1 e1 l) (fun j y hy=>by
          obtain ⟨l,v,q1,q2,q3⟩:=g4 j y hy;have eD:=(cO.1 hy).1;refine ⟨l,v,q1,?_,q3⟩;rw[Kj (by simpa using by omega)];simp[eD,q2])
         (fun j b1 l ha=>⟨D9 (lit j b1 l ha).1,lit j b1 l ha⟩) g6
        refine ⟨_,_,I,av β nb (some w.heap.size),da,?_⟩;rw[vD,List.nil_append];refine ⟨(k1.trans k2).trans a1,a2,?_⟩;exact .ee (bW _ _ _) (bW _ _ _) (by rw[kY dU,hk,ij];simp[size_zeroCells,h4];omega) rm sK
       | @ee _ _ _ _ b cap hd hb bw cf hm=>
        rw[ab] at hd;cases hd;obtain ⟨Ca,Tq,f1,f2,f3,f4,f5,f6⟩:=Q4 S hr ab hb;rw[kY f1,hk,ij] at bw;have tZ:bB P w (β id) (.nest e es vers) b:= .root (by simp) hb;have Ff:=S.h.own id _ b ab tZ;have fq: ∀i b1 l,At P w b e es [(i,0)] b1 e1 l→b1≠b∧b1<w.heap.size∧iB P w I b1 e1 l∧(M b1∨B≤b1)∧∀ax blk',av (av hp id (some af.dead)) bD (some af.dead) ax=some blk'→¬bB P w (β ax) blk' b1:=fun i b1 l ha=>by
         obtain ⟨q1,q2,q3,q4,q5⟩:=f5 i b1 l ha;exact ⟨q1,q2,q3,q4,Rf (.inl rfl) ab q5⟩
        have akv: ∀i b1 l,At P w b2 e xs [(i,0)] b1 e1 l→b1≠b:=fun i b1 l ha h=>by
         subst h;exact cm (S.h.inj id bD _ _ _ ab dE tZ (g5 i _ l ha).2.2.2.2)
        have Kc: ∀i j b1 l m,At P w b e es [(i,0)] b1 e1 l→At P w b2 e xs [(j,0)] b1 e1 m→False:=fun i j b1 l m h1 h2=>cm (S.h.inj id bD _ _ b1 ab dE (f5 i b1 l h1).2.2.2.2 (g5 j b1 m h2).2.2.2.2)
        let K:Nat→Nat→List V→Prop:=fun i b1 l=>(i<es.length∧At P w b e es [(i,0)] b1 e1 l)∨(es.length≤i∧At P w b2 e xs [(i-es.length,0)] b1 e1 l)
        have tN: ∀i j b1 l m,K i b1 l→K j b1 m→i=j:=by
         intro i j b1 l m h1 h2;rcases h1 with ⟨_,h1⟩|⟨p1,h1⟩
         ·rcases h2 with ⟨_,h2⟩|⟨_,h2⟩
          ·exact f6 _ _ _ _ _ h1 h2
          ·exact (Kc _ _ _ _ _ h1 h2).elim
         ·rcases h2 with ⟨_,h2⟩|⟨p2,h2⟩
          ·exact (Kc _ _ _ _ _ h2 h1).elim
          ·have:=g6 _ _ _ _ _ h1 h2;omega
        have fill: ∀(C':Array Value),(∀j,j<es.length→C'[j]? =Ca[j]?)→(∀j,j<xs.length→C'[es.length+j]? =C2[j]?)→∀(j:Nat) y,(es++xs)[j]? =some y→∃l v,y= .list e1 l∧C'[j]? =some v∧zh P w e1 (K j) v l:=by
         intro C' p1 p2 j y hy;by_cases hj:j<es.length
         ·rw[o5 hj] at hy;obtain ⟨l,v,q1,q2,q3⟩:=f4 j y hy;refine ⟨l,v,q1,(p1 j hj).trans q2,?_⟩;rcases q3 with q3|⟨z1,b1,Rg,z2,z3,z4,z5,z6⟩
          ·exact .inl q3
          ·exact .inr ⟨z1,b1,Rg,z2,z3,z4,z5,.inl ⟨hj,z6⟩⟩
         ·rw[oB (by omega)] at hy;obtain ⟨l,v,q1,q2,q3⟩:=g4 _ y hy;have eD:=(cO.1 hy).1;refine ⟨l,v,q1,?_,?_⟩
          ·have:=p2 (j-es.length) eD;rw[show es.length+(j-es.length)=j by omega] at this;exact this.trans q2
          ·rcases q3 with q3|⟨z1,b1,Rg,z2,z3,z4,z5,z6⟩
           ·exact .inl q3
           ·exact .inr ⟨z1,b1,Rg,z2,z3,z4,z5,.inr ⟨by omega,z6⟩⟩
        by_cases tU:es.length+xs.length≤cap
        ·have BY:es.length+(C2.toList.take xs.length).length≤Ca.size:=by rw[rn];omega
         have da:=aah (P:=P) w t ty e Tq i hu hi b es.length cap Ca f1 ⟨b2,0,none⟩ xs.length Fi (C2.toList.take xs.length) (by rw[rn,h3,ij]) tT sF tU (by rw[h3,ij];exact BY);rw[h3,ij,rn] at da;have dU:=setRow_heap w b Ca (Ca.toList.take es.length++C2.toList.take xs.length++Ca.toList.drop (es.length+xs.length)).toArray Tq _ f1;obtain ⟨a1,a2⟩:=Fh (w':=w.setRow b (Ca.toList.take es.length++C2.toList.take xs.length++Ca.toList.drop (es.length+xs.length)).toArray) S2 (nb:=nb) (b:=b) (ys:=es++xs) hr tY dU (by simp;omega)
          (fun b' aA _=>setRow_other w b b' _ aA) (by simp) ⟨rfl,rfl⟩ Ff (Rf (.inl rfl) ab tZ) f3 K
          (fill _ (fun j hj=>by
           rw[o4,fN,o5 (by simp;omega),iQ hj,qR]) (fun j hj=>by
           rw[o4,fN,oB (by simp;omega),o5 (by simp;omega),lF,Array.length_toList (xs:=Ca),Bg (by omega),Kk,iQ hj,qR]))
          (fun j b1 l hj=>by
           rcases hj with ⟨_,hj⟩|⟨_,hj⟩
           ·exact fq _ _ _ hj
           ·exact ⟨akv _ _ _ hj,lit _ _ _ hj⟩) tN
         refine ⟨_,_,I,av β nb (some b),da,?_⟩;rw[vD];refine ⟨(k1.trans k2).trans a1,a2,?_⟩;have:=ai.ee (P:=P) (w:=w.setRow b (Ca.toList.take es.length++C2.toList.take xs.length++Ca.toList.drop (es.length+xs.length)).toArray) (I:=I) (β:=av β nb (some b)) (hp:=av (av (av hp id (some af.dead)) bD (some af.dead)) nb (some (.nest e (es++xs) [0,0,0]))) (b:=b) (cap:=cap) (bW _ _ _) (bW _ _ _) (by rw[kY dU,hk,ij];simp;omega) (by rw[dd];exact tU) hm;rw[dd] at this;exact this
        ·have hold: ∀(j:Nat) v,(Ca.toList.take es.length)[j]? =some v→w.cell? ((⟨b,0,none⟩:Addr).add j)=some v:=by
          intro j v hj;have eD:=(cO.1 hj).1;rw[lF] at eD;rw[iQ (by omega)] at hj;rw[oI,cell?_cells f1,ed];simpa using hj
         have da:=run_append_grow (P:=P) w t ty e i z hu hi hz ⟨b,0,none⟩ es.length cap (Ca.toList.take es.length) (by rw[h3,ij];simp;omega) hold ⟨b2,0,none⟩ xs.length Fi (C2.toList.take xs.length) (by rw[rn,h3,ij]) tT (by omega) (by omega)
          (growslice_fits (by omega) (by rw[←nX];simp only[aX] at eI;omega))
         have rm:=grownCap_ge w (es.length+xs.length) cap e;have sK:grownCap w (es.length+xs.length) cap e≤maxLen:=grownCap_le_maxLen w _ cap e (by simp only[maxLen];omega);have dU:(w.drew.alloc (.cells ((Ca.toList.take es.length).toArray++(C2.toList.take xs.length).toArray++Builtin.zeroCells z.cells (grownCap w (es.length+xs.length) cap e-(es.length+xs.length))) e)).heap[w.heap.size]? =some (.cells ((Ca.toList.take es.length).toArray++(C2.toList.take xs.length).toArray++Builtin.zeroCells z.cells (grownCap w (es.length+xs.length) cap e-(es.length+xs.length))) e):=heap_alloc_new w.drew (.cells ((Ca.toList.take es.length).toArray++(C2.toList.take xs.length).toArray++Builtin.zeroCells z.cells (grownCap w (es.length+xs.length) cap e-(es.length+xs.length))) e);have BV:=S2.h.jK;obtain ⟨a1,a2⟩:=Fh (w':=w.drew.alloc (.cells ((Ca.toList.take es.length).toArray++(C2.toList.take xs.length).toArray++Builtin.zeroCells z.cells (grownCap w (es.length+xs.length) cap e-(es.length+xs.length))) e)) S2 (nb:=nb) (b:=w.heap.size) (ys:=es++xs) hr tY dU (by simp;omega)
          (fun b' _ bf=>heap_alloc_old w.drew _ b' bf) (by simp) ⟨rfl,rfl⟩ (.inr S.size) (fun ax blk' h ho=>nE _ (S2.h.lt h ho)) (fun j hj=>nE _ (BV _ j hj)) K
          (fill _ (fun j hj=>by
           rw[Kj (by simp;omega),Kj (by simp;omega),o4,iQ hj,qR]) (fun j hj=>by
           rw[Kj (by simp;omega),Array.getElem?_append_right (by simp;omega)];simp only[rY,lF,Array.length_toList (xs:=Ca),Bg f2,Kk];rw[o4,iQ hj,qR]))
          (fun j b1 l hj=>by
           rcases hj with ⟨_,hj⟩|⟨_,hj⟩
           ·obtain ⟨_,q⟩:=fq _ _ _ hj;exact ⟨D9 q.1,q⟩
           ·exact ⟨D9 (lit _ _ _ hj).1,lit _ _ _ hj⟩) tN
         refine ⟨_,_,I,av β nb (some w.heap.size),da,?_⟩;rw[vD];refine ⟨(k1.trans k2).trans a1,a2,?_⟩;have:=ai.ee (P:=P) (w:=w.drew.alloc (.cells ((Ca.toList.take es.length).toArray++(C2.toList.take xs.length).toArray++Builtin.zeroCells z.cells (grownCap w (es.length+xs.length) cap e-(es.length+xs.length))) e)) (I:=I) (β:=av β nb (some w.heap.size)) (hp:=av (av (av hp id (some af.dead)) bD (some af.dead)) nb (some (.nest e (es++xs) [0,0,0]))) (b:=w.heap.size) (cap:=grownCap w (es.length+xs.length) cap e) (bW _ _ _) (bW _ _ _) (by rw[kY dU,hk,ij];simp[size_zeroCells,h4];omega) (by rw[dd];exact rm) sK;rw[dd] at this;exact this
      | _=>cases he
    | _=>cases hd
   | _=>cases hb
 | _=>cases ha
theorem aam (S:aB P w I β hp B M w0) {t ty e:TypeId} {nb:Nat} {s x:Value} {sv xv:V} {r:R} {rd:List Nat} (hu:P.underlying t=some (.slice e)) (hs:ai P w I β hp s sv) (hx:ai P w I β hp x xv)
  (h:(Qg P nb e sv xv).run C hp=some (r,rd)):dJ P ((Builtin.append_ #[t,t] ty #[s,x]).run P w) w I β hp B M w0 r:=by
 unfold Qg at h;split at h
 ·rename_i e' id ver i;obtain ⟨aw,h1⟩:=aH h;clear h;obtain ⟨xs,nc,l0,h2⟩:=Fb S.h.rel aw hx h1;obtain ⟨e0,es,vers,l1,ab,k1,k2,k3,h3⟩:=ra h2;cases hr:rowOf P e0 with
  | none=>simp only[hr] at h3;cases h3
  | some e1=>
  simp only[hr] at h3;obtain ⟨hc,h4⟩:=aH h3;simp only[aK,ba] at hc;obtain ⟨rfl,rfl⟩:=hc;obtain ⟨y,hy,h5⟩:=oE h4;obtain ⟨eI,h6⟩:=aH h5;obtain ⟨l2,h7⟩:=run_get h6;cases hn:hp nb with
  | some _=>rw[hn] at h7;cases h7
  | none=>
  rw[hn] at h7;obtain ⟨ja,rfl⟩:=mz h7;obtain ⟨b,q,i0,c,t1,l,bX,hb,ht,hc⟩:=hs.QA ab k1 k2 k3;have:q=[]∧i0=i∧c=0:=by
   have hq:([]:Path)++[(i,0)]=q++[(i0,c)]:=bX;obtain ⟨h1,h2⟩:=List.append_inj' hq rfl;simp only[yF,mT,and_true] at h2;exact ⟨h1.symm,h2.1.symm,h2.2.symm⟩
  obtain ⟨rfl,rfl,rfl⟩:=this;obtain ⟨Re,cX,akw,oK,gR⟩:=xo hr;have kB:bc P e0=[e0]:=by simp[bc,cX]
  have hk:P.cellsOf e0=1:=by rw[←fK akw,kB];rfl
  obtain ⟨b',e',aQ,Ca,T,f,x1,m1,m2,m3,m4,m5,m6⟩:=hc;cases m1;rw[hk,ij,Nat.add_zero] at m6;obtain ⟨tQ,l1,S1,hv⟩:=aj9 S hr ab hb hy hn;have zm:=hv _ _ _ _ m2 m6;have cm:nb≠id:=fun h=>by rw[h,ab] at hn;cases hn
  have akx:nb+1≠id:=fun h=>by rw[h,ab] at ja;cases ja
  generalize hq:av (av hp id (some (af.out e0 es (vers.map (· +1)) i0))) nb (some (.arr e y.toList false))=B0 at l1 S1 zm;have hq0:B0 nb=some (.arr e y.toList false):=by rw[←hq,bW]
  have hqn:B0 (nb+1)=none:=by rw[←hq,cK _ _ (Nat.succ_ne_self nb),cK _ _ akx];exact ja
  have dm:((∃a,x= .slice a 0 0)∧xs=[])∨∃a c news,Row P w I e x xs a c news:=nc;have:=aai (ty:=ty) S1 hu aw zm hq0 hqn eI (by
   rcases dm with h|⟨a,c,news,h⟩
   ·exact .inl h
   ·exact .inr ⟨a,c,news,h.val,h.len,h.cell,fun i j x t' p1 p2 p3=>(h.el i j x t' p1 p2 p3).imp fun u hu=>⟨hu.1,hu.2.mono l1.eN l1.cZ⟩⟩)
  obtain ⟨v,w',I',β',a1,a2,a3,a4⟩:=this;refine ⟨v,w',I',β',a1,?_⟩;have vD:cB hp [(nb+1,.arr e (y.toList++xs) false),(nb,.dead),(id,.out e0 es (vers.map (· +1)) i0)]=cB B0 [(nb+1,.arr e (y.toList++xs) false),(nb,.dead)]:=by
   rw[←hq];funext k;simp only[cB];by_cases q0:k=nb+1
   ·subst q0;rw[bW,bW]
   ·rw[cK _ _ q0,cK _ _ q0];by_cases q1:k=nb
    ·subst q1;rw[bW,bW]
    ·rw[cK _ _ q1,cK _ _ q1,cK _ _ q1]
  rw[vD];exact ⟨l1.trans a2,a3,a4⟩
 ·exact akn S hu hs hx h
theorem aan (S:aB P w I β hp B M w0) {t e e1:TypeId} {nb:Nat} {v:Value} {l:List V} (hu:P.underlying t=some (.slice e)) (hr:rowOf P e=some e1) (hn:hp nb=none) (K:Nat→List V→Prop)
  (hv:zh P w e1 K v l) (hK: ∀b1 l,K b1 l→b1<w.heap.size∧iB P w I b1 e1 l∧(M b1∨B≤b1)∧∀id blk,hp id=some blk→¬bB P w (β id) blk b1):
  (Instr.buildSlice t 1 #[(0,v)]).run P w= .ok (.slice (some ⟨w.heap.size,0,none⟩) 1 1) (w.alloc (.cells #[v] e))∧
  Le P w I β hp (w.alloc (.cells #[v] e)) I (av β nb (some w.heap.size)) (av hp nb (some (.nest e [.list e1 l] [0,0,0])))∧aB P (w.alloc (.cells #[v] e)) I (av β nb (some w.heap.size)) (av hp nb (some (.nest e [.list e1 l] [0,0,0]))) B M w0∧
  ai P (w.alloc (.cells #[v] e)) I (av β nb (some w.heap.size)) (av hp nb (some (.nest e [.list e1 l] [0,0,0]))) (.slice (some ⟨w.heap.size,0,none⟩) 1 1) (.whole e nb):=by
 obtain ⟨Re,cX,aw,oK,gR⟩:=xo hr;have kB:bc P e=[e]:=by simp[bc,cX]
 have hk:P.cellsOf e=1:=by rw[←fK aw,kB];rfl
 obtain ⟨i,z,hi,hz,h3,h4,_⟩:=kC aw;rw[hk] at h3 h4;have rl:v.cells= #[v]:=by rcases hv with ⟨_,a,rfl⟩|⟨b1,cap,_,rfl,_⟩<;>rfl
 have da:=Q8 w t e 1 #[(0,v)] #[v] i z hu hi hz (by rw[h3];omega) (by
  rw[h3];simp[Instr.fill,rl];rw[show Array.range 1= #[0] from rfl];simp)
 have dU:(w.alloc (.cells #[v] e)).heap[w.heap.size]? =some (.cells #[v] e):=heap_alloc_new w _;obtain ⟨a1,a2⟩:=Fh (w':=w.alloc (.cells #[v] e)) S (nb:=nb) (b:=w.heap.size) (ys:=[.list e1 l]) hr hn dU (by simp)
  (fun b' _ bf=>heap_alloc_old w _ b' bf) (by simp) ⟨rfl,rfl⟩ (.inr S.size) (fun ax blk' h ho=>nE _ (S.h.lt h ho)) (fun j hj=>nE _ (S.h.jK _ j hj))
  (fun i b1 l=>i=0∧K b1 l) (fun j y hy=>by
   cases j with
   | succ j=>simp at hy
   | zero=>
    simp at hy;subst hy;refine ⟨l,v,rfl,rfl,?_⟩;rcases hv with h|⟨b1,cap,z1,z2,z3,z4,z5,z6⟩
    ·exact .inl h
    ·exact .inr ⟨b1,cap,z1,z2,z3,z4,z5,rfl,z6⟩)
  (fun j b1 l h=>⟨D9 (hK b1 l h.2).1,hK b1 l h.2⟩) (fun i j b1 l m h1 h2=>h1.1.trans h2.1.symm)
 refine ⟨da,a1,a2,?_⟩;exact .ee (es:=[.list e1 l]) (bW _ _ _) (bW _ _ _) (by rw[kY dU,hk];rfl) (az _) (by simp[maxLen])
theorem aky (S:aB P w I β hp B M w0) {a:Act} {sl:Nat→V} (hs:nR P w I β hp a sl) {G:Nat→V} (hg:jL P G w I) {t e:TypeId} {len nb:Nat} {ps:Array (Nat×Operand)} {r:R} {rd:List Nat} (hu:P.underlying t=some (.slice e))
  (h:(Zd P nb e len (ps.toList.map fun p=>(p.1,bd P G e sl p.2))).run C hp=some (r,rd)):
  dJ P ((Instr.buildSlice t len (ps.map fun (i,x)=>(i,a.eval x))).run P w) w I β hp B M w0 r:=by
 obtain ⟨hl,ha⟩:=aH h;clear h;rw[ba,cH] at hl;cases hr:rowOf P e with
 | none=>rw[hr] at ha;cases ha
 | some e1=>
 simp only[hr] at ha;obtain ⟨Re,cX,aw,oK,gR⟩:=xo hr;obtain ⟨ps⟩:=ps;simp only at ha hl;cases ps with
 | nil=>
  obtain ⟨hn,rfl⟩:=mz ha;simp only[List.length_nil] at hl;subst hl;obtain ⟨i,z,hi,hz,h3,h4,_⟩:=kC aw;have da:=Q8 w t e 0 #[] #[] i z hu hi hz (by omega) (by simp[Instr.fill]);have dU:(w.alloc (.cells #[] e)).heap[w.heap.size]? =some (.cells #[] e):=heap_alloc_new w _;obtain ⟨a1,a2⟩:=Fh (w':=w.alloc (.cells #[] e)) S (nb:=nb) (b:=w.heap.size) (ys:=[]) hr hn dU (by simp)
   (fun b' _ bf=>heap_alloc_old w _ b' bf) (by simp) ⟨rfl,rfl⟩ (.inr S.size) (fun ax blk' h ho=>nE _ (S.h.lt h ho)) (fun j hj=>nE _ (S.h.jK _ j hj))
   (fun _ _ _=>False) (fun j y hy=>by simp at hy) (fun _ _ _ h=>h.elim) (fun _ _ _ _ _ h=>h.elim)
  exact ⟨_,_,I,av β nb (some w.heap.size),by simpa using da,a1,a2,.ee (es:=[]) (bW _ _ _) (bW _ _ _) (by rw[kY dU];simp) (az _) (by simp)⟩
 | cons p ps=>
  cases ps with
  | cons q ps=>
   obtain ⟨p1,p2⟩:=p;simp only[iS] at ha;cases p1<;>cases hx:bd P G e sl p2<;>simp only[hx] at ha<;>cases ha
  | nil=>
  obtain ⟨p1,p2⟩:=p;simp only[List.length_cons,List.length_nil,ed] at hl;subst hl;have qk:=hs.ev hg e p2;simp only[iS,List.map_nil] at ha;cases p1 with
  | succ n=>cases hx:bd P G e sl p2<;>simp only[hx] at ha<;>cases ha
  | zero=>
  cases hx:bd P G e sl p2 with
  | nilS e2=>
   simp only[hx] at ha;obtain ⟨hc,hb⟩:=aH ha;obtain ⟨hn,rfl⟩:=mz hb;rw[hx] at qk;obtain ⟨a0,zn⟩: ∃a0,a.eval p2= .slice a0 0 0:=by
    generalize a.eval p2=v at qk;cases qk;exact ⟨_,rfl⟩
   obtain ⟨k1,k2,k3,k4⟩:=aan S (v:=a.eval p2) (l:=[]) hu hr hn (fun _ _=>False) (.inl ⟨rfl,a0,zn⟩) (fun _ _ h=>h.elim);exact ⟨_,_,I,av β nb (some w.heap.size),by simpa using k1,k2,k3,k4⟩
  | whole e2 id=>
   simp only[hx] at ha;obtain ⟨l0,hb⟩:=run_get ha;clear ha;cases ab:hp id with
   | none=>rw[ab] at hb;cases hb
   | some blk=>
    rw[ab] at hb;cases blk with
    | arr e3 es fz=>
     cases fz with
     | true=>cases hb
     | false=>
      obtain ⟨hc,hd⟩:=aH hb;clear hb;simp only[aK,ba] at hc;obtain ⟨rfl,rfl⟩:=hc;obtain ⟨hn,rfl⟩:=mz hd;have cm:nb≠id:=fun e=>by rw[e,ab] at hn;cases hn
      obtain ⟨k1,S1⟩:=xi S ab;have ja:av hp id (some af.dead) nb=none:=by rw[cK _ _ cm];exact hn
      have vD:cB hp [(nb,.nest e [.list e1 es] [0,0,0]),(id,.dead)]=av (av hp id (some af.dead)) nb (some (.nest e [.list e1 es] [0,0,0])):=rfl;rw[hx] at qk;have fin: ∀(K:Nat→List V→Prop),zh P w e1 K (a.eval p2) es→(∀b1 l,K b1 l→b1<w.heap.size∧iB P w I b1 e1 l∧(M b1∨B≤b1)∧∀ax blk',av hp id (some af.dead) ax=some blk'→¬bB P w (β ax) blk' b1)→
        dJ P ((Instr.buildSlice t 1 #[(0,a.eval p2)]).run P w) w I β hp B M w0 ⟨.whole e nb,[(nb,.nest e [.list e1 es] [0,0,0]),(id,.dead)]⟩:=fun K hv hK=>by
       obtain ⟨q1,q2,q3,q4⟩:=aan S1 (v:=a.eval p2) (l:=es) hu hr ja K hv hK;refine ⟨_,_,I,av β nb (some w.heap.size),q1,?_⟩;rw[vD];exact ⟨k1.trans q2,q3,q4⟩
      have res:dJ P ((Instr.buildSlice t 1 #[(0,a.eval p2)]).run P w) w I β hp B M w0 ⟨.whole e nb,[(nb,.nest e [.list e1 es] [0,0,0]),(id,.dead)]⟩:=by
       generalize a.eval p2=v at qk fin⊢;cases qk with
       | eC hd=>rw[ab] at hd;cases hd
       | ee hd=>rw[ab] at hd;cases hd
       | eF hd=>rw[ab] at hd;cases hd
       | fC hd=>rw[ab] at hd;cases hd
       | @ej _ _ _ a0 hd hb=>
        rw[ab] at hd;cases hd;exact fin (fun _ _=>False) (.inl ⟨rfl,a0,rfl⟩) (fun _ _ h=>h.elim)
       | @whole _ _ _ _ b cap hd hb bw cf hm=>
        rw[ab] at hd;cases hd;obtain ⟨m1,m2⟩:=Q0 S ab hb gR;obtain ⟨m3,m4⟩:=m1 _ _ _ _ .here;by_cases h0:0<cap
        ·refine fin (fun b1 l=>b1=b∧l=es) (.inr ⟨b,cap,h0,rfl,bw,cf,hm,rfl,rfl⟩) (fun b1 l h=> ?_);obtain ⟨rfl,rfl⟩:=h;refine ⟨S.h.lt ab m4,m3,S.h.own id _ _ ab m4,fun ax blk' h' ho=> ?_⟩;by_cases q:ax=id
         ·subst q;rw[bW] at h';cases h';exact absurd rfl ho.alive
         ·rw[cK _ _ q] at h';exact q (S.h.inj ax id _ _ _ h' ab ho m4)
        ·have:es=[]:=wJ.1 (by omega);subst this;exact fin (fun _ _=>False) (.inl ⟨rfl,some ⟨b,0,none⟩,by rw[show cap=0 by omega];rfl⟩) (fun _ _ h=>h.elim)
      simpa using res
    | _=>cases hb
  | _=>simp only[hx] at ha;cases ha
end
section
variable {P:Program} {w w':World} {I I':Nat→Nat→Prop} {β β':Nat→Option Nat} {hp hp':Nat→Option af} {C:ae} {B:Nat} {M:Nat→Prop} {w0:Start}
theorem akz (S:aB P w I β hp B M w0) {s:TypeId} {f:Nat} {v:Value} {x:V} {r:R} {rd:List Nat} (hv:ai P w I β hp v x)
  (h:(Qm P s f x).run C hp=some (r,rd)):dJ P ((Instr.field s v f).run P w) w I β hp B M w0 r:=by
 unfold Qm KD at h;split at h
 ·rename_i fs hu;cases hf:fs[f]? with
  | none=>rw[hf] at h;cases h
  | some fd=>
   rw[hf] at h;simp only[Bx] at h;obtain ⟨ht,h⟩:=aH h;obtain ⟨d,zo⟩:=EY ht;obtain ⟨i,hi⟩:=zc zo;have bw:i.size=P.cellsOf fd.type:=by simp[Program.cellsOf,hi]
   cases x with
   | agg xs=>
    obtain ⟨cs,rfl,h1,h2⟩:=hv.nT;dsimp only at h;cases ha:cA P fd.type with
    | true=>
     rw[ha] at h;simp only[cond_true] at h;obtain ⟨hc,h⟩:=aH h;obtain rfl:=aZ h;rw[fo] at hc;refine .same S (v:= .agg (cs.extract fd.offset (fd.offset+P.cellsOf fd.type))) ?_ (.agg (by simp;omega) fun j u y lg hy=> ?_)
     ·simp[Instr.field,run_underlying hu,hf,part,QI zo,ha,asAgg,sizeOf,typeInfo,hi,bw]
     grind
    | false=>
     rw[ha] at h;simp only[cond_false] at h;obtain ⟨y,hy,h⟩:=oE h;obtain rfl:=aZ h;have bf:fd.offset<cs.size:=by grind
     refine .same S (v:=cs[fd.offset]) ?_ (h2 _ _ _ (mj bf) hy);simp[Instr.field,run_underlying hu,hf,part,QI zo,ha,asAgg,bf]
   | _=>cases h
 ·cases h
theorem akA (S:aB P w I β hp B M w0) {i:Nat} {v:Value} {xs:List V} {r:R} {rd:List Nat} (hv:ai P w I β hp v (.bK xs))
  (h:(Rd.opt xs[i]? fun v=> .ret ⟨v,[]⟩).run C hp=some (r,rd)):dJ P ((Instr.extract v i).run P w) w I β hp B M w0 r:=by
 obtain ⟨cs,rfl,h1,h2⟩:=hv.zb;obtain ⟨y,hy,h⟩:=oE h;obtain rfl:=aZ h;have bf:i<cs.size:=by grind
 exact .same S (v:=cs[i]) (by simp[Instr.extract,bf]) (h2 _ _ _ (mj bf) hy)
theorem akB (S:aB P w I β hp B M w0) {t:TypeId} {s:ByteArray} {l:List UInt8} {k:IntKind} {i:Int} {r:R} {rd:List Nat} (hu:P.underlying t=some .string) (hs:s.data.toList=l)
  (h:(Rd.opt (bif decide (0≤i) then (l[i.toNat]?).map fun b=>V.int .u8 b.toNat else none) fun v=> .ret ⟨.int .u8 v.toInt,[]⟩).run C hp=some (r,rd)):
  dJ P ((Instr.index t (.string s) (.int k i)).run P w) w I β hp B M w0 r:=by
 obtain ⟨v,hv,h⟩:=oE h;obtain rfl:=aZ h;cases hc:decide (0≤i) with
 | false=>grind
 | true=>
  rw[hc] at hv;simp only[cond_true] at hv;have h0:0≤i:=by grind
  cases hb:l[i.toNat]? with
  | none=>grind
  | some b=>
   rw[hb] at hv;simp only[Option.map_some,eX] at hv;subst hv;have Fj:s[i.toNat]? =some b:=by
    subst hs;obtain ⟨bf,he⟩:=cO.1 hb;have Rh:i.toNat<s.size:=by simpa using bf
    rw[getElem?_pos s i.toNat Rh];congr 1
   refine .same S (v:= .int .u8 b.toNat) ?_ .int;simp[Instr.index,asIntOf,run_underlying hu,h0,Fj]
theorem Ri (S:aB P w I β hp B M w0) (mx:Bool): ∀{vs:List Value} {xs:List V} {v:Value} {x:V} {r:R} {rd:List Nat},ai P w I β hp v x→vs.length=xs.length→
  (∀(j:Nat) u y,vs[j]? =some u→xs[j]? =some y→ai P w I β hp u y)→(By mx x xs).run C hp=some (r,rd)→
  dJ P ((vs.foldlM (if mx then Builtin.max2 else Builtin.min2) v).run P w) w I β hp B M w0 r
 | [],[],v,x,r,rd,hv,_,_,h=>by
  have:r=⟨x,[]⟩:=by
   cases x<;>(simp only[By] at h;exact (aZ h).symm)
  subst this;exact .same S (by simp) hv
 | [],_::_,v,x,r,rd,hv,hl,_,h=>by simp at hl
 | _::_,[],v,x,r,rd,hv,hl,_,h=>by simp at hl
 | u::vs,y::xs,v,x,r,rd,hv,hl,hx,h=>by
  cases x<;>cases y<;>simp only[By] at h<;>first|(cases h;done)|skip
  rename_i k a k' b;obtain ⟨hc,h4⟩:=aH h;clear h;obtain rfl:k=k':=by grind
  have hu:=hx 0 u _ rfl rfl;rw[hv.gE,hu.gE];have ih:=Ri S mx (vs:=vs) (xs:=xs) (v:= .int k (bif mx then (if b>a then b else a) else (if b<a then b else a))) .int (by grind)
   (fun j u y h1 h2=>hx (j+1) u y (by grind) (by grind)) h4
  cases mx with
  | true=>simpa[List.foldlM_cons,Builtin.max2] using ih
  | false=>simpa[List.foldlM_cons,Builtin.min2] using ih
theorem ua {n cap:Nat} {isS:Bool} {lo hi:Option V} {lov hiv:Option Value} {k:Nat→Nat→Rd R} {r:R} {rd:List Nat} (hn:n≤cap)
  (lj: ∀x,lo=some x→∃v,lov=some v∧ai P w I β hp v x) (kg: ∀x,hi=some x→∃v,hiv=some v∧ai P w I β hp v x) (qn:lo=none→lov=none) (rp:hi=none→hiv=none)
  (h:(vb n lo hi k).run C hp=some (r,rd)): ∃l u,l≤u∧u≤n∧(Instr.sliceBounds isS n cap lov hiv none).run P w= .ok (l,u,cap) w∧(k l u).run C hp=some (r,rd):=by
 have ok: ∀(kk:IntKind) (i:Int) (y:Nat) (c:BoundsCode),0≤i→i≤y→(Instr.sliceBound (.int kk i) y c).run P w= .ok i.toNat w:=by
  intro kk i y c h1 h2;simp[Instr.sliceBound,asIntOf,h1,h2]
 unfold vb at h;cases lo with
 | none=>
  rw[qn rfl];cases hi with
  | none=>
   rw[rp rfl];exact ⟨0,n,nH _,az _,by simp[Instr.sliceBounds],h⟩
  | some x=>
   obtain ⟨v,rfl,hv⟩:=kg x rfl;cases x<;>simp only at h<;>first|(cases h;done)|skip
   rename_i kk u;obtain ⟨hc,h⟩:=aH h;simp only[aK,fl] at hc;rw[hv.gE];have:=ok kk u cap (if isS then .sliceAcap else .sliceAlen) hc.1 (by omega);exact ⟨0,u.toNat,nH _,by omega,by simp[Instr.sliceBounds,this],h⟩
 | some x=>
  obtain ⟨v,rfl,hv⟩:=lj x rfl;cases hi with
  | none=>
   rw[rp rfl];cases x<;>simp only at h<;>first|(cases h;done)|skip
   rename_i kk l;obtain ⟨hc,h⟩:=aH h;simp only[aK,fl] at hc;rw[hv.gE];have:=ok kk l n .sliceB hc.1 (by omega);exact ⟨l.toNat,n,by omega,az _,by simp[Instr.sliceBounds,this],h⟩
  | some y=>
   obtain ⟨v2,rfl,vn⟩:=kg y rfl;cases x<;>cases y<;>simp only at h<;>first|(cases h;done)|skip
   rename_i kk l kk2 u;obtain ⟨hc,h⟩:=aH h;simp only[aK,fl] at hc;rw[hv.gE,vn.gE];have h1:=ok kk2 u cap (if isS then .sliceAcap else .sliceAlen) (by omega) (by omega);have h2:=ok kk l u.toNat .sliceB hc.1 (by omega);exact ⟨l.toNat,u.toNat,by omega,by omega,by simp[Instr.sliceBounds,h1,h2],h⟩
theorem Lx {a:Option Addr} {t e:TypeId} {i:TypeInfo} (hu:P.underlying t=some (.slice e)) (hi:P.info? e=some i) {lov hiv:Option Value}
  (hb:(Instr.sliceBounds true 0 0 lov hiv none).run P w= .ok (0,0,0) w):(Instr.sliceAt t (.slice a 0 0) lov hiv none).run P w= .ok (.slice a 0 0) w:=by
 cases a<;>simp[Instr.sliceAt,Instr.slice,run_underlying hu,hb,sizeOf,typeInfo,hi]
theorem Rj {t e:TypeId} {i:TypeInfo} {b o len cap l u:Nat} (hu:P.underlying t=some (.slice e)) (hi:P.info? e=some i) {lov hiv:Option Value} (huc:u≤cap)
  (hb:(Instr.sliceBounds true len cap lov hiv none).run P w= .ok (l,u,cap) w): ∃o',(0<u-l→o'=o+l*i.size)∧(Instr.sliceAt t (.slice (some ⟨b,o,none⟩) len cap) lov hiv none).run P w= .ok (.slice (some ⟨b,o',none⟩) (u-l) (cap-l)) w:=by
 by_cases hc:cap=l
 ·subst hc;refine ⟨o,fun h=>by omega,?_⟩
  ·simp[Instr.sliceAt,Instr.slice,run_underlying hu,hb,sizeOf,typeInfo,hi]
 ·refine ⟨o+l*i.size,fun _=>rfl,?_⟩;simp[Instr.sliceAt,Instr.slice,run_underlying hu,hb,sizeOf,typeInfo,hi,hc,oI]
theorem akC (s:ByteArray) (l:List UInt8) (h:s.data.toList=l) (a b:Nat):(s.extract a b).data.toList=(l.drop a).take (b-a):=by
 simp_all
theorem akD (S:aB P w I β hp B M w0) {t:TypeId} {v:Value} {x:V} {lo hi:Option V} {lov hiv:Option Value} {r:R} {rd:List Nat} (hv:ai P w I β hp v x)
  (lj: ∀x,lo=some x→∃v,lov=some v∧ai P w I β hp v x) (kg: ∀x,hi=some x→∃v,hiv=some v∧ai P w I β hp v x) (qn:lo=none→lov=none) (rp:hi=none→hiv=none)
  (h:(KK P t x lo hi).run C hp=some (r,rd)):dJ P ((Instr.sliceAt t v lov hiv none).run P w) w I β hp B M w0 r:=by
 unfold KK at h;cases hu:P.underlying t with
 | none=>rw[hu] at h;cases h
 | some d=>
  rw[hu] at h;cases d<;>simp only at h<;>first|(cases h;done)|skip
  case string=>
   cases x<;>simp only at h<;>first|(cases h;done)|skip
   rename_i l;obtain ⟨s,rfl,hs⟩:=hv.ph;have bw:l.length=s.size:=by rw[←hs];simp
   obtain ⟨a,u,h1,h2,h3,h4⟩:=ua (isS:=false) (cap:=s.size) (by omega) lj kg qn rp h;obtain rfl:=aZ h4;rw[bw] at h3;refine .same S (v:= .string (s.extract a u)) ?_ (.str (akC s l hs a u));simp[Instr.sliceAt,Instr.slice,run_underlying hu,h3]
  case slice e=>
   cases x<;>simp only at h<;>first|(cases h;done)|skip
   case list e' es=>
    obtain ⟨hc,h⟩:=aH h;simp only[aK,ba] at hc;obtain ⟨gu,aw⟩:=hc;obtain ⟨i,z,eT,_,bw,_⟩:=kC aw;cases hv with
    | list hp'=>
     cases hp' with
     | nil=>
      obtain ⟨a,u,h1,h2,h3,h4⟩:=ua (n:=0) (isS:=true) (cap:=0) (az _) lj kg qn rp h;obtain rfl:=aZ h4;obtain rfl:u=0:=by omega
      obtain rfl:a=0:=by omega
      exact .same S (Lx hu eT h3) (by simpa using ai.list lJ.nil)
     | @emp ad cap=>
      obtain ⟨a,u,h1,h2,h3,h4⟩:=ua (n:=0) (isS:=true) (cap:=cap) (nH _) lj kg qn rp h;obtain rfl:=aZ h4;obtain rfl:u=0:=by omega
      obtain rfl:a=0:=by omega
      refine .same S (v:= .slice (some ad) 0 cap) ?_ (by simpa using ai.list lJ.emp);by_cases hc:cap=0
      ·subst hc;simp[Instr.sliceAt,Instr.slice,run_underlying hu,h3,sizeOf,typeInfo,eT]
      ·simp[Instr.sliceAt,Instr.slice,run_underlying hu,h3,sizeOf,typeInfo,eT,hc,Addr.add]
     | @list b o len cap _ g hl cf hI gI hx=>
      obtain ⟨a,u,h1,h2,h3,h4⟩:=ua (isS:=true) (cap:=cap) (by omega) lj kg qn rp h;obtain rfl:=aZ h4;rw[hl] at h2 h3;obtain ⟨o',sr,da⟩:=Rj (b:=b) (o:=o) hu eT (by omega) h3;have ju:e=e':=gu;refine .same S da (.list ?_);rw[←ju];rw[←ju] at gI hx hI;have hlen:((es.drop a).take (u-a)).length=u-a:=by simp;omega
      refine .list (fun i j=>g (a+i) j) hlen (by omega) (fun j hj=> ?_) (fun i j hi hj=> ?_) (fun i j y t' hy ht=> ?_)
      ·have kD:0<u-a:=rX fun e=>by grind
       rw[sr (by omega),bw,Bc];refine hI _ (gB (Nat.add_lt_add_left hj _) ?_);rw[←kQ];exact eV _ (by omega)
      all_goals grind
   case whole e' id=>
    obtain ⟨l,h⟩:=run_get h;cases ab:hp id with
    | none=>rw[ab] at h;cases h
    | some blk=>
     rw[ab] at h;cases blk<;>simp only at h<;>first|(cases h;done)|skip
     rename_i eM es fz;obtain ⟨hc,h9⟩:=aH h;clear h;simp only[aK,ba] at hc;obtain ⟨gu,im,aw⟩:=hc;obtain ⟨i,z,eT,_,bw,_⟩:=kC aw;cases hv with
     | eC hd=>grind
     | ee hd=>grind
     | eF hd=>grind
     | fC hd=>grind
     | ej hd hb=>
      rw[ab] at hd;cases hd;obtain ⟨a,u,h1,h2,h3,h4⟩:=ua (n:=0) (isS:=true) (cap:=0) (az _) lj kg qn rp h9;obtain rfl:=aZ h4;obtain rfl:u=0:=by omega
      obtain rfl:a=0:=by omega
      exact .same S (Lx hu eT h3) (.jo ab hb)
     | @whole _ _ aQ qX b cap hd hb BZ cf hm=>
      have fP:=hd;rw[ab] at hd;cases hd;obtain ⟨a,u,h1,h2,h3,h4⟩:=ua (isS:=true) (cap:=cap) cf lj kg qn rp h9;obtain rfl:=aZ h4;obtain ⟨o',sr,da⟩:=Rj (b:=b) (o:=0) hu eT (by omega) h3;have ju:e=e':=gu;exact .same S da (.sub fP hb (by omega) (by omega) (fun h=>by grind))
   case sub e' id off len=>
    obtain ⟨l,h⟩:=run_get h;cases ab:hp id with
    | none=>rw[ab] at h;cases h
    | some blk=>
     rw[ab] at h;cases blk<;>simp only at h<;>first|(cases h;done)|skip
     rename_i eM es fz;obtain ⟨hc,h⟩:=aH h;simp only[aK,ba] at hc;obtain ⟨gu,im,aw⟩:=hc;obtain ⟨i,z,eT,_,bw,_⟩:=kC aw;cases hv with
     | jJ hd=>grind
     | jo hd hb=>
      have fP:=hd;obtain ⟨a,u,h1,h2,h3,h4⟩:=ua (isS:=true) (cap:=0) (az _) lj kg qn rp h;obtain rfl:=aZ h4;obtain rfl:u=0:=by omega
      obtain rfl:a=0:=by omega
      exact .same S (Lx hu eT h3) (.jo fP hb)
     | @sub _ _ _ _ aQ qX b o cap hd hb lK cf ho=>
      have fP:=hd;obtain ⟨a,u,h1,h2,h3,h4⟩:=ua (isS:=true) (cap:=cap) cf lj kg qn rp h;obtain rfl:=aZ h4;obtain ⟨o',sr,da⟩:=Rj (b:=b) (o:=o) hu eT (by omega) h3;have ju:e=e':=gu;exact .same S da (.sub fP hb (by omega) (by omega) (fun h=>by grind))
  case array n e=>
   cases x<;>simp only at h<;>first|(cases h;done)|skip
   rename_i id j c;obtain ⟨l0,h⟩:=run_get h;cases ab:hp id with
   | none=>rw[ab] at h;cases h
   | some blk=>
    rw[ab] at h;cases blk<;>simp only at h<;>first|(cases h;done)|skip
    rename_i e' es fz;obtain ⟨hc,h9⟩:=aH h;clear h;simp only[aK,ba] at hc;obtain ⟨rfl,rfl,rfl,rfl,aw⟩:=hc;obtain ⟨i,z,eT,_,bw,_⟩:=kC aw;obtain ⟨a,u,h1,h2,h3,h4⟩:=ua (isS:=false) (cap:=es.length) (az _) lj kg qn rp h9;obtain rfl:=aZ h4;obtain ⟨b,hb,rfl⟩:=hv.iZ ab (by simp);have da:(Instr.sliceAt t (.pointer (some ⟨b,0*(af.arr e es fz).sz P+0,none⟩)) lov hiv none).run P w= .ok (.slice (some ⟨b,if es.length=a then 0 else a*P.cellsOf e,none⟩) (u-a) (es.length-a)) w:=by
     rw[←bw];simp[Instr.sliceAt,run_underlying hu,h3,sizeOf,typeInfo,eT,Instr.sureAddr];split<;>simp[oI]
    exact .same S da (.sub ab hb (by omega) (by omega) (fun h=>by grind))
theorem akE (S:aB P w I β hp B M w0) {t:TypeId} {v:Value} {x:V} {lo hi mx:Option V} {lov hiv mxv:Option Value} {r:R} {rd:List Nat} (hv:ai P w I β hp v x)
  (lj:lo=none→lov=none) (kg: ∀y,hi=some y→∃u,hiv=some u∧ai P w I β hp u y) (sx: ∀y,mx=some y→∃u,mxv=some u∧ai P w I β hp u y)
  (h:(Qk P t x lo hi mx).run C hp=some (r,rd)):dJ P ((Instr.sliceAt t v lov hiv mxv).run P w) w I β hp B M w0 r:=by
 unfold Qk at h;cases hu:P.underlying t with
 | none=>rw[hu] at h;cases h
 | some d=>
  rw[hu] at h;cases d<;>(try (cases h;done))
  rename_i e;cases lo<;>(try (cases h;done))
  cases hi<;>(try (cases h;done))
  rename_i zm;cases zm<;>(try (cases h;done))
  cases mx<;>(try (cases h;done))
  rename_i mv1;cases mv1<;>(try (cases h;done))
  obtain ⟨hc,h9⟩:=aH h;clear h;have h:=h9;clear h9;simp only[aK,fl] at hc;obtain ⟨rfl,rfl,aw⟩:=hc;obtain ⟨i,z,eT,_,_,_⟩:=kC aw;obtain ⟨u1,rfl,k1⟩:=kg _ rfl;obtain ⟨u2,rfl,k2⟩:=sx _ rfl;rw[k1.gE,k2.gE,lj rfl];have run: ∀{k k2:IntKind} (a:Option Addr) (len cap:Nat),(Instr.sliceAt t (.slice a len cap) none (some (.int k 0)) (some (.int k2 0))).run P w= .ok (.slice a 0 0) w:=by
   intro k k2 a len cap;cases a<;>simp[Instr.sliceAt,Instr.slice,Instr.sliceBounds,Instr.sliceBound,asIntOf,run_underlying hu,sizeOf,typeInfo,eT]
  cases x<;>(try (cases h;done))
  ·simp only at h;obtain rfl:=aZ h;cases hv with
   | list hp'=>cases hp'<;>exact .same S (run _ _ _) .nilS
  ·simp only at h;obtain rfl:=aZ h;cases hv;exact .same S (run _ _ _) .nilS
  ·rename_i e' id;simp only at h;obtain ⟨l,h⟩:=run_get h;cases ab:hp id with
   | none=>rw[ab] at h;cases h
   | some blk=>
    rw[ab] at h;cases blk<;>simp only at h<;>first|(cases h;done)|skip
    all_goals
     obtain rfl:=aZ h;cases hv with
     | eC hd=>grind
     | ee hd=>exact .same S (run _ _ _) .nilS
     | eF hd=>exact .same S (run _ _ _) .nilS
     | fC hd=>grind
     | ej hd hb=>exact .same S (run _ _ _) .nilS
     | whole hd=>exact .same S (run _ _ _) .nilS
theorem akF (S:aB P w I β hp B M w0) {t:TypeId} {v ix:Value} {x y:V} {r:R} {rd:List Nat} (hv:ai P w I β hp v x) (hy:ai P w I β hp ix y)
  (h:(Qn P t x y).run C hp=some (r,rd)):dJ P ((Instr.indexAt t v ix).run P w) w I β hp B M w0 r:=by
 unfold Qn at h;cases hu:P.underlying t with
 | none=>rw[hu] at h;cases h
 | some d=>
  rw[hu] at h;cases y<;>(try (cases d<;>cases h;done))
  rename_i k i;rw[hy.gE];cases d<;>simp only at h<;>first|(cases h;done)|skip
  case slice e=>
   have run: ∀(b o len cap:Nat) (ie:TypeInfo),P.info? e=some ie→0≤i→i<(len:Int)→(Instr.indexAt t (.slice (some ⟨b,o,none⟩) len cap) (.int k i)).run P w= .ok (.pointer (some ⟨b,o+i.toNat*ie.size,none⟩)) w:=by
    intro b o len cap ie na h0 h1;simp[Instr.indexAt,asIntOf,run_underlying hu,h0,h1,sizeOf,typeInfo,na,oI]
   cases x<;>simp only at h<;>first|(cases h;done)|skip
   case list e' es=>
    obtain ⟨hc,h⟩:=aH h;simp only[aK,ba] at hc;obtain ⟨gu,aw⟩:=hc;have ju:e=e':=gu;obtain ⟨ie,z,eT,_,bw,_⟩:=kC aw;obtain ⟨el,fE,h⟩:=oE h;obtain rfl:=aZ h;unfold idx at fE;cases h0:decide (0≤i) with
    | false=>grind
    | true=>
     rw[h0] at fE;simp only[cond_true] at fE;have Q5:0≤i:=by grind
     have bf:i.toNat<es.length:=(cO.1 fE).1;cases hv with
     | list hp'=>
      cases hp' with
      | nil=>simp at bf
      | emp=>simp at bf
      | @list b o len cap _ g hl cf hI gI hx=>
       rw[←ju] at gI hx hI;refine .same S (run b o len cap ie eT Q5 (by omega)) ?_;have fS:=BL (P:=P) e el;have aao:=fK aw;have aap:(bif cA P e then flat P e else [e])=bc P e:=rfl;rw[aap];have akG:ie.size=P.cellsOf e:=by omega
       refine .pref (by rw[fS]) (fun j hj=> ?_) (fun j t' y' ht QG=> ?_)
       ·rw[Bc,akG];exact hI _ (Qw (by omega) (by omega))
       ·obtain ⟨t2,a1,a2⟩:=QJ QG;rw[ht] at a1;cases a1;have hj:j<P.cellsOf e:=by grind
        have ga:=hx i.toNat j el t' fE ht;refine ⟨g i.toNat j,?_,?_⟩
        ·grind
        ·rw[a2,ga.xj];exact ga
   case whole e' id=>
    obtain ⟨l,h⟩:=run_get h;cases ab:hp id with
    | none=>rw[ab] at h;cases h
    | some blk=>
     rw[ab] at h;cases blk<;>simp only at h<;>first|(cases h;done)|skip
     rename_i eM es fz;obtain ⟨hc,h⟩:=aH h;simp only[aK,ba] at hc;obtain ⟨gu,im⟩:=hc;obtain ⟨eG,h⟩:=aH h;simp only[aK,fl] at eG;obtain rfl:=aZ h;cases hv with
     | eC hd=>grind
     | ee hd=>grind
     | eF hd=>grind
     | fC hd=>grind
     | ej hd hb=>grind
     | @whole _ _ aQ qX b cap hd hb BZ cf hm=>
      have fP:=hd;rw[ab] at hd;cases hd;have hr:=S.h.rel id _ ab;cases hr with
      | eZ aA=>grind
      | arr hL aw aA hh hs hf fQ hx=>
       have ju:e=e':=gu;obtain ⟨ie,z,eT,_,bw,_⟩:=kC aw;rw[←ju] at eT bw;refine .same S (run b 0 _ cap ie eT eG.1 eG.2) ?_;have:=ai.ptr (P:=P) (w:=w) (I:=I) (i:=i.toNat) (c:=0) fP (by simp) hb;simp only[af.sz] at this;grind
     rename_i eM es vers;obtain ⟨hc,h⟩:=aH h;simp only[aK,ba] at hc;obtain ⟨gu,im⟩:=hc;obtain ⟨eG,h⟩:=aH h;simp only[aK,fl] at eG;obtain rfl:=aZ h;cases hv with
     | eC hd=>grind
     | ej hd hb=>grind
     | whole hd=>grind
     | eF hd hb=>grind
     | fC hd=>grind
     | @ee _ _ aQ vers' b cap hd hb BZ cf hm=>
      have fP:=hd;rw[ab] at hd;cases hd;have aw:=(S.rows fP hb .here).ok;have ju:e=e':=gu;obtain ⟨ie,z,eT,_,bw,_⟩:=kC aw;rw[←ju] at eT bw;refine .same S (run b 0 _ cap ie eT eG.1 eG.2) ?_;have:=ai.ptr (P:=P) (w:=w) (I:=I) (i:=i.toNat) (c:=0) fP (by simp) hb;simp only[af.sz] at this;grind
     rename_i eM es vers j0;obtain ⟨hc,h⟩:=aH h;simp only[aK,ba] at hc;obtain ⟨gu,im⟩:=hc;obtain ⟨eG,h⟩:=aH h;simp only[aK,fl] at eG;obtain rfl:=aZ h;cases hv with
     | eC hd=>grind
     | ej hd hb=>grind
     | whole hd=>grind
     | eF hd hb=>grind
     | ee hd=>grind
     | @fC _ _ j1 aQ vers' b cap hd hb BZ cf hm=>
      have fP:=hd;rw[ab] at hd;cases hd;have ju:e=e':=gu;obtain ⟨ie,eT⟩: ∃ie,P.info? e=some ie:=by
       have hr:=S.h.rel id _ fP;cases hr with
       | out _ jb _ _ _ _ _ _ _ _=>rw[ju];exact zc jb
      have bw:ie.size=P.cellsOf e:=by simp[Program.cellsOf,eT]
      refine .same S (run b 0 _ cap ie eT eG.1 eG.2) ?_;have:=ai.ptr (P:=P) (w:=w) (I:=I) (i:=i.toNat) (c:=0) fP (by simp) hb;simp only[af.sz] at this;grind
   case row e' id ver path=>
    obtain ⟨e0,es,vers,l,ab,h1,h2,h3,h⟩:=ra h;obtain ⟨e2,v',k1,k2,h⟩:=BH h;obtain ⟨hc,h⟩:=aH h;simp only[aK,ba] at hc;obtain ⟨gu,im⟩:=hc;obtain ⟨eG,h⟩:=aH h;simp only[aK,fl] at eG;obtain rfl:=aZ h;cases hv with
    | mu hd hp'=>rw[ab] at hd;cases hd;exact absurd hp' (BI h1 h2 h3)
    | @row v _ e0 t1 _ ver b i1 c1 q es l1 vers hd hb hq QY ht gI=>
     have akH:=gI;obtain ⟨b',e3,aQ,Ca,T,f,x,m1,m2,m3,m4,m5,m6⟩:=gI;have ri:=hd;rw[ab] at ri;cases ri;obtain ⟨n1,n2⟩:=K4 m1 m3 m4 ht m5;rw[n2] at k2;cases k2;simp only[V.toList] at eG;have hR:=S.rows hd hb m1;obtain ⟨C1,_,c2,_,c3,c4⟩:=hR.cells;rw[m2] at c2;cases c2;have hj:c1<P.cellsOf e3:=by
      rw[←fK hR.ok];grind
     obtain ⟨v2,d1,d2⟩:=c4 _ _ _ _ m3 m4 hj;rw[m6] at d1;cases d1;rw[m5] at d2;cases d2 with
     | gr a _=>unfold ey at a;grind
     | emp _=>grind
     | @row _ _ b1 cap _ hl _ _ _=>
      have aw:=(S.rows hd hb (m1.snoc m2 m3 m4 ht m5 hl m6)).ok;have ju:e=e':=gu;obtain ⟨ie,z,eT,_,bw,_⟩:=kC aw;rw[←ju] at eT bw;refine .same S (run b1 0 _ cap ie eT eG.1 eG.2) ?_;have:=ai.dS (P:=P) (I:=I) (i:=i.toNat) (c:=0) hd hb hq QY ht hl akH;grind
   case sub e' id off len=>
    obtain ⟨l,h⟩:=run_get h;cases ab:hp id with
    | none=>rw[ab] at h;cases h
    | some blk=>
     rw[ab] at h;cases blk<;>simp only at h<;>first|(cases h;done)|skip
     rename_i eM es fz;obtain ⟨hc,h⟩:=aH h;simp only[aK,ba] at hc;obtain ⟨gu,im⟩:=hc;obtain ⟨eG,h⟩:=aH h;simp only[aK,fl] at eG;obtain rfl:=aZ h;cases hv with
     | jJ hd=>grind
     | jo hd hb=>omega
     | @sub _ _ _ _ aQ qX b o cap hd hb lK cf ho=>
      have fP:=hd;rw[ab] at hd;cases hd;have hr:=S.h.rel id _ ab;cases hr with
      | eZ aA=>grind
      | arr hL aw aA hh hs hf fQ hx=>
       have ju:e=e':=gu;obtain ⟨ie,z,eT,_,bw,_⟩:=kC aw;rw[←ju] at eT bw;refine .same S (run b o _ cap ie eT eG.1 eG.2) ?_;have:=ai.ptr (P:=P) (w:=w) (I:=I) (i:=off+i.toNat) (c:=0) fP (by simp) hb;simp only[af.sz] at this;grind
  case array n e=>
   have run: ∀(b o:Nat) (ie:TypeInfo),P.info? e=some ie→0≤i→i<(n:Int)→(Instr.indexAt t (.pointer (some ⟨b,o,none⟩)) (.int k i)).run P w= .ok (.pointer (some ⟨b,o+i.toNat*ie.size,none⟩)) w:=by
    intro b o ie na h0 h1;simp[Instr.indexAt,asIntOf,run_underlying hu,h0,h1,sizeOf,typeInfo,na,oI,Instr.sureAddr]
   cases x<;>simp only at h<;>first|(cases h;done)|skip
   case ptr id j c=>
    obtain ⟨eG,h⟩:=aH h;simp only[aK,fl] at eG;obtain ⟨d,zo⟩:=EY eG.1;obtain ⟨ie,na⟩:=zc zo;have bw:ie.size=P.cellsOf e:=by simp[Program.cellsOf,na]
    obtain ⟨l,h⟩:=run_get h;have fq: ∀blk,hp id=some blk→blk≠ .dead→dJ P ((Instr.indexAt t v (.int k i)).run P w) w I β hp B M w0 ⟨.ptr id j (c+i.toNat*P.cellsOf e),[]⟩:=fun blk ab hd=>by
     obtain ⟨b,hb,rfl⟩:=hv.iZ ab hd;refine .same S (run b _ ie na eG.2.1 eG.2.2) ?_;rw[bw,Bc];exact .ptr ab hd hb
    have new: ∀blk,hp id=some blk→blk≠ .dead→blk.sz P=P.cellsOf e→j=0→c=0→dJ P ((Instr.indexAt t v (.int k i)).run P w) w I β hp B M w0 ⟨.ptr id i.toNat 0,[]⟩:=fun blk ab hd hz hj hc=>by
     obtain ⟨b,hb,rfl⟩:=hv.iZ ab hd;refine .same S (run b _ ie na eG.2.1 eG.2.2) ?_;have:=ai.ptr (P:=P) (w:=w) (I:=I) (i:=i.toNat) (c:=0) ab hd hb;grind
    cases ab:hp id with
    | none=>rw[ab] at h;cases h
    | some blk=>
     rw[ab] at h;cases blk with
     | var T cs=>obtain rfl:=aZ h;grind
     | arr e' es fz=>
      cases he:Nat.beq e e' with
      | true=>
       simp only[he,cond_true] at h;rw[ba] at he;subst he;obtain ⟨hc,h⟩:=aH h;simp only[aK,ba] at hc;obtain rfl:=aZ h;exact new _ ab (by simp) rfl hc.1 hc.2
      | false=>
       simp only[he,cond_false] at h;obtain rfl:=aZ h;grind
     | nest e' es vs=>
      cases he:Nat.beq e e' with
      | true=>
       simp only[he,cond_true] at h;rw[ba] at he;subst he;obtain ⟨hc,h⟩:=aH h;simp only[aK,ba] at hc;obtain rfl:=aZ h;exact new _ ab (by simp) rfl hc.1 hc.2
      | false=>
       simp only[he,cond_false] at h;obtain rfl:=aZ h;grind
     | _=>cases h
   case pref ts cs=>
    obtain ⟨eG,h⟩:=aH h;simp only[aK,fl] at eG;obtain rfl:=aZ h;obtain ⟨b,o,rfl,h1,h2,h3⟩:=hv.EV;obtain ⟨d,zo⟩:=EY eG.1;obtain ⟨ie,na⟩:=zc zo;have bw:ie.size=P.cellsOf e:=by simp[Program.cellsOf,na]
    refine .same S (run b _ ie na eG.2.1 eG.2.2) ?_;rw[bw];exact ai.Zt h1 h2 h3
end
end Go.AM
namespace Go.AM
open Go.Maps
section
variable {P:Program} {w w':World} {I I':Nat→Nat→Prop} {β β':Nat→Option Nat} {hp hp':Nat→Option af} {C:ae} {B:Nat} {M:Nat→Prop} {w0:Start}
theorem akI (S:aB P w I β hp B M w0) {nb:Nat} {t:TypeId} {v:Value} {x:V} {lo hi:Option V} {lov hiv:Option Value} {r:R} {rd:List Nat} (hv:ai P w I β hp v x)
  (kg: ∀x,hi=some x→∃v,hiv=some v∧ai P w I β hp v x) (qn:lo=none→lov=none)
  (h:(KL P nb t x lo hi).run C hp=some (r,rd)):dJ P ((Instr.sliceAt t v lov hiv none).run P w) w I β hp B M w0 r:=by
 unfold KL at h;split at h
 case h_2=>cases h
 rename_i e e' id k hh hu;obtain ⟨l,h1⟩:=run_get h;cases ab:hp id with
 | none=>rw[ab] at h1;cases h1
 | some blk=>
  rw[ab] at h1;cases blk<;>simp only at h1<;>first|(cases h1;done)|skip
  rename_i e2 es fz;cases fz with
  | true=>cases h1
  | false=>
  obtain ⟨hc,h2⟩:=aH h1;simp only[aK,ba,fl] at hc;obtain ⟨rfl,rfl,aw,hh0,hhn⟩:=hc;obtain ⟨hn,rfl⟩:=mz h2;have lj:=qn rfl;subst lj;obtain ⟨zp,rfl,hhv⟩:=kg _ rfl;obtain rfl:=hhv.gE;obtain ⟨i,z,eT,_,bw,_⟩:=kC aw;have cm:nb≠id:=fun e=>by grind
  obtain ⟨k1,k2⟩:=xi S ab;have ja:av hp id (some af.dead) nb=none:=by rw[cK _ _ cm];exact hn
  have bnd: ∀cap,es.length≤cap→(Instr.sliceBounds true es.length cap none (some (.int k hh)) none).run P w= .ok (0,hh.toNat,cap) w:=by
   intro cap cf;have hb:(vb es.length none (some (.int k hh)) fun l u=> .aD (decide (l=0∧u=hh.toNat)) (.ret (⟨.undef,[]⟩:R))).run C hp=some (⟨.undef,[]⟩,[]):=by
    simp[vb,Rd.run,hh0,hhn]
   obtain ⟨l,u,b1,b2,b3,b4⟩:=ua (P:=P) (w:=w) (I:=I) (β:=β) (hp:=hp) (n:=es.length) (isS:=true) (cap:=cap) (lov:=none) (hiv:=some (.int k hh)) cf (by simp) (fun x hx=>by grind) (fun _=>rfl) (by simp) hb;obtain ⟨b5,_⟩:=aH b4;grind
  cases hv with
  | eC hd=>grind
  | ee hd=>grind
  | eF hd=>grind
  | fC hd=>grind
  | @ej _ _ _ a0 hd hb=>
   rw[ab] at hd;cases hd;have QP:hh=0:=by grind
   subst QP;have aA:=bnd 0 (az _);obtain ⟨a1,a2⟩:=ER k2 e ja;refine ⟨_,w,I,_,Lx hu eT aA,k1.trans a1,a2,.ej (bW _ _ _) (bW _ _ _)⟩
  | @whole _ _ aQ qX b cap hd hb BZ cf hm=>
   have fP:=hd;rw[ab] at hd;cases hd;have hr:=S.h.rel id _ ab;cases hr with
   | eZ aA=>grind
   | @arr _ _ _ _ b' Ca hL _ aA Ly xq hf fQ xr=>
    rw[hb] at aA;cases aA;have nU:(es.take hh.toNat).length=hh.toNat:=by grind
    have da:(Instr.sliceAt t (.slice (some ⟨b,0,none⟩) es.length cap) none (some (.int k hh)) none).run P w= .ok (.slice (some ⟨b,0,none⟩) hh.toNat cap) w:=by
     have aA:=bnd cap cf;by_cases LA:cap=0
     ·subst LA;simp[Instr.sliceAt,Instr.slice,run_underlying hu,aA,sizeOf,typeInfo,eT]
     ·simp[Instr.sliceAt,Instr.slice,run_underlying hu,aA,sizeOf,typeInfo,eT,LA,oI]
    have qj: ∀ax blk',av hp id (some af.dead) ax=some blk'→¬bB P w (β ax) blk' b:=by
     intro ax blk' h1 h2;by_cases m9:ax=id
     ·subst m9;rw[bW] at h1;cases h1;exact h2.alive rfl
     ·rw[cK _ _ m9] at h1;exact m9 (S.h.inj ax id blk' _ b h1 ab h2 (.root (by simp) hb))
    obtain ⟨a1,a2⟩:=BK k2 (blk:= .arr e (es.take hh.toNat) false) (w':=w) ja qj (fun _ _=>rfl) (fun _ _ _=>rfl) (az _) ⟨rfl,rfl⟩ (S.h.xe id _ b ab (by simp) hb)
     (fun b' h=>(ew (h.flat (by simp))).symm) (fun hle=> .arr hL aw rfl Ly (by rw[nU];exact kP (eV _ (by omega)) xq) (fun h=>by cases h) (fun _=>fQ rfl) fun i j y t' hy ht hj=>by
      grind)
    refine ⟨_,w,I,_,da,k1.trans a1,a2,?_⟩;have:=ai.whole (P:=P) (w:=w) (I:=I) (β:=av β nb (some b)) (hp:=av (av hp id (some .dead)) nb (some (.arr e (es.take hh.toNat) false))) (cap:=cap) (bW _ _ _) (bW _ _ _) BZ (by omega) hm;rw[nU] at this;exact this
theorem sL {t:TypeId} {x:V} (h:qU P t x=true):
  (∃q n,P.underlying t=some (.int q)∧x= .int q n∧cw q n=true)∨(∃b,P.underlying t=some .bool∧x= .bool b)∨(∃s,P.underlying t=some .string∧x= .str s∧s.length≤maxLen):=by
 unfold qU at h;split at h
 all_goals simp_all
theorem size_data (s:ByteArray):s.data.toList.length=s.size:=by simp
theorem akJ {q:IntKind} {n:Int} (h:cw q n=true):(Lit.int q n).wf=true:=h
theorem Rk {t:TypeId} {x:V} {v:Value} (h:qU P t x=true) (hv:kz v x): ∃l,mapKey P t v=some l∧∀d,P.keyLits (d+1) t [v]=some [l]:=by
 rcases sL h with ⟨q,n,hu,rfl,hn⟩|⟨b,hu,rfl⟩|⟨s,hu,rfl,hs⟩
 ·obtain rfl:v= .int q n:=hv;have hw:=akJ hn;exact ⟨.int q n,by simp[mapKey,hu,hw],fun d=>by simp[Program.keyLits,hu,hw]⟩
 ·obtain rfl:v= .bool b:=hv;exact ⟨.bool b,by simp[mapKey,hu],fun d=>by simp[Program.keyLits,hu]⟩
 ·obtain ⟨s',rfl,xu⟩:=hv;have:s'.size≤maxLen:=by rw[←size_data,xu];exact hs
  exact ⟨.string s'.data.toList,by simp[mapKey,hu,this],fun d=>by simp[Program.keyLits,hu,this]⟩
theorem Rl {t:TypeId}: ∀{xs:List V} {j:Nat} {x:V},u7 P t xs=true→xs[j]? =some x→qU P t x=true
 | [],j,x,_,h=>by simp at h
 | y::ys,0,x,h,hx=>by
  simp only[u7,aK] at h;grind
 | y::ys,j+1,x,h,hx=>by
  simp only[u7,aK] at h;exact Rl (j:=j) h.2 (by grind)
theorem mapM_some {α β:Type} {f:α→Option β}: ∀{l:List α},(∀a∈l,∃b,f a=some b)→∃bs,l.mapM f=some bs
 | [],_=>⟨[],rfl⟩
 | a::l,h=>by
  obtain ⟨b,hb⟩:=h a (Bh ..);obtain ⟨bs,iq⟩:=mapM_some (l:=l) fun x hx=>h x (qP _ hx);simp_all
structure xw (P:Program) (t:TypeId) (fs:Array Field):Prop where
 hu:P.underlying t=some (.struct fs)
 size:P.cellsOf t=fs.size
 at_ : ∀ (i : Nat) f, fs[i]? = some f → f.offset = i ∧ P.cellsOf f.type = 1 ∧ (f.name != "_") = true ∧ P.plainKey f.type = true
 free:(!(P.cutTypes.any (·.2==t))&& !P.stoodInHeld t)=true
 runs:P.runs 0 fs.toList=some fs.size
theorem aaq: ∀{k:Nat} {l:List Field},KF P k l=true→(∀(i:Nat) f,l[i]? =some f→f.offset=k+i∧P.cellsOf f.type=1)∧P.runs k l=some (k+l.length)
 | k,[],_=>⟨fun i f h=>by simp at h,by simp[Program.runs]⟩
 | k,f::l,h=>by
  simp only[KF,aK,ba] at h;obtain ⟨a,b⟩:=aaq (l:=l) h.2;refine ⟨fun i g hg=> ?_,?_⟩
  ·grind
  ·simp only[Program.runs];grind
theorem akK {t:TypeId} {fs:Array Field} (hu:P.underlying t=some (.struct fs)) (h:Qc P t fs=true):xw P t fs:=by
 unfold Qc at h;rw[aK,aK,aK] at h;obtain ⟨⟨h1,h2⟩,h3,h4⟩:=h;rw[ba] at h1;obtain ⟨a,b⟩:=aaq h2;rw[ed,Array.length_toList] at b;refine ⟨hu,h1,fun i f hf=> ?_,h4,b⟩;obtain ⟨a1,a2⟩:=a i f (by grind);grind
theorem akL {t:TypeId} (hp:P.plainKey t=true) (m:Nat):P.keyTypeAt (m+1) t=true:=by
 unfold Program.plainKey at hp;unfold Program.keyTypeAt;grind
theorem akM {t:TypeId} (hp:P.plainKey t=true) (m:Nat):P.tiled (m+1) t=true:=by
 unfold Program.plainKey at hp;unfold Program.tiled;grind
theorem xw.at {t:TypeId} {fs:Array Field} (A:xw P t fs) (m:Nat):P.keyTypeAt (m+2) t=true:=by
 unfold Program.keyTypeAt;rw[A.hu];have hf:=A.free;rw[aK] at hf;simp only;rw[aK,aK];refine ⟨⟨Array.all_eq_true.2 fun i hi=> ?_,hf.1⟩,hf.2⟩;obtain ⟨_,_,h3,h4⟩:=A.at_ i fs[i] (mj hi);rw[aK];exact ⟨h3,akL h4 m⟩
theorem xw.tiled {t:TypeId} {fs:Array Field} (A:xw P t fs):P.tiled 2 t=true:=by
 unfold Program.tiled;rw[A.hu];simp only;rw[aK];refine ⟨by rw[A.runs,A.size];simp,Array.all_eq_true.2 fun i hi=> ?_⟩;exact akM (A.at_ i fs[i] (mj hi)).2.2.2 0
theorem xw.law {t:TypeId} {fs:Array Field} (A:xw P t fs):WideMaps.KeyLaw P t:=deep_law (m:=2) (by omega) (A.at 0) A.tiled (by rw[A.hu])
theorem LB: ∀{ts:List TypeId} {xs:List V},u9 P ts xs=true→xs.length=ts.length∧∀(j:Nat) t x,ts[j]? =some t→xs[j]? =some x→qU P t x=true
 | [],[],_=>⟨rfl,fun j t x h=>by simp at h⟩
 | [],_::_,h=>by cases h
 | _::_,[],h=>by cases h
 | t::ts,x::xs,h=>by
  simp only[u9,aK] at h;obtain ⟨a,b⟩:=LB h.2;grind
inductive LC (P:Program) (t:TypeId) (x:V):Prop
 | one:qU P t x=true→x.cells=[x]→LC P t x
 | arr {n:Nat} {e:TypeId} {xs:List V}:x= .agg xs→WideMaps.ArrKey P t e n→xs.length=n→0<P.types.size→u7 P e xs=true→LC P t x
 | str {fs:Array Field} {xs:List V}:x= .agg xs→xw P t fs→0<P.types.size→u9 P (fs.toList.map (·.type)) xs=true→LC P t x
theorem zq {t:TypeId} {x:V} (h:qV P t x=true):LC P t x:=by
 unfold qV at h;split at h
 ·rename_i n e xs hu;simp only[aK,ba] at h;rw[oA] at h;exact .arr rfl ⟨hu,h.2.2.2.1,h.2.1,h.2.2.1⟩ h.1 h.2.2.2.2.1 h.2.2.2.2.2
 ·rename_i fs xs hu;rw[aK,aK,oA] at h;exact .str rfl (akK hu h.1) h.2.1 h.2.2
 ·refine .one h ?_;rcases sL h with ⟨q,n,hu,rfl,hn⟩|⟨b,hu,rfl⟩|⟨s,hu,rfl,hs⟩<;>rfl
theorem vm.one {x:V} {v:Value} (h:vm v x) (hx:x.cells=[x]):kz v x:=by
 cases x<;>first|exact h|skip
 simp only[V.cells] at hx;rename_i cs;have:=congrArg List.length hx;cases cs with
 | nil=>simp at hx
 | cons c cs=>
  simp only[yF] at hx;have:=congrArg SizeOf.sizeOf hx.1;grind
theorem akN {ts:List TypeId} {xs:List V} {cs:Array Value} (hf:u9 P ts xs=true) (hs:cs.size=xs.length) (hc: ∀(j:Nat) (u:Value) (y:V),cs[j]? =some u→xs[j]? =some y→kz u y) {i:Nat} {t:TypeId} (ht:ts[i]? =some t):
  ∃l,∀d,P.keyLits (d+1) t ((cs.toList.drop i).take 1)=some [l]:=by
 obtain ⟨a,b⟩:=LB hf;have hi:=(cO.1 ht).1;have js:i<cs.size:=by omega
 have xt:i<xs.length:=by omega
 obtain ⟨l,_,h2⟩:=Rk (b i t xs[i] ht (cp xt)) (hc i cs[i] xs[i] (mj js) (cp xt));refine ⟨l,fun d=> ?_⟩;have e1:(cs.toList.drop i).take 1=[cs[i]]:=by
  rw[List.drop_eq_getElem_cons (by omega)];simp
 grind
theorem LD {t:TypeId} {x:V} {v:Value} (h:qV P t x=true) (hv:vm v x): ∃l,Go.keyOf P t v=some l:=by
 cases zq h with
 | one h1 hx=>
  obtain ⟨l,hl,_⟩:=Rk h1 (hv.one hx);refine ⟨l,?_⟩;rcases sL h1 with ⟨q,n,hu,_⟩|⟨b,hu,_⟩|⟨s,hu,_⟩<;>simp only[Go.keyOf,hu,hl]
 | @arr n e xs hx A hl hp0 hf=>
  subst hx;obtain ⟨cs,rfl,hs,hc⟩:=hv;obtain ⟨m,hm⟩: ∃m,P.types.size=m+1:=⟨P.types.size-1,by omega⟩
  have Rm:=A.keyType ⟨m,hm⟩;have hlen:cs.toList.length=P.cellsOf t:=by rw[A.size];grind
  have Fk:(Value.agg cs).formed P t=true:=by simp[Value.formed,A.hu,A.size,hs,hl]
  have hex: ∀i∈List.range n,∃y,P.keyLits (m+1) e (((Value.agg cs).cells.toList.drop (i*P.cellsOf e)).take (P.cellsOf e))=some y:=by
   intro i hi;have hi:=jG.1 hi;rw[A.one];have js:i<cs.size:=by omega
   have xt:i<xs.length:=by omega
   obtain ⟨l,_,h2⟩:=Rk (Rl hf (cp xt)) (hc i cs[i] xs[i] (mj js) (cp xt));have e1:((Value.agg cs).cells.toList.drop (i*1)).take 1=[cs[i]]:=by
    show (cs.toList.drop (i*1)).take 1=_;rw[ij,List.drop_eq_getElem_cons (by omega)];simp
   simp_all
  obtain ⟨bs,iq⟩:=mapM_some hex;refine ⟨.string (keyBytes bs.flatten),?_⟩;have akO:(Value.agg cs).cells.toList.length=P.cellsOf t:=hlen;unfold Go.keyOf;rw[A.hu];simp only[Rm,Fk,Bi,kR];unfold Program.keyLits;rw[A.hu,hm];grind
 | @str fs xs hx A hp0 hf=>
  subst hx;obtain ⟨cs,rfl,hs,hc⟩:=hv;obtain ⟨m,hm⟩: ∃m,P.types.size=m+1:=⟨P.types.size-1,by omega⟩
  have Rm:P.keyType t=true:=by
   unfold Program.keyType;rw[hm];exact A.at m
  have nZ:=(LB hf).1;rw[cH,Array.length_toList] at nZ;have Fk:(Value.agg cs).formed P t=true:=by simp[Value.formed,A.hu,A.size,hs];exact nZ
  have hlen:(Value.agg cs).cells.toList.length=P.cellsOf t:=by
   show cs.toList.length=_;rw[A.size];grind
  have qa : fs.all (·.name != "_") = true := Array.all_eq_true.2 fun i hi => (A.at_ i fs[i] (mj hi)).2.2.1;have hex: ∀f∈fs.toList,∃y,P.keyLits (m+1) f.type (((Value.agg cs).cells.toList.drop f.offset).take (P.cellsOf f.type))=some y:=by
   intro f Fk;obtain ⟨i,hi⟩:=tz Fk;obtain ⟨a1,a2,_,_⟩:=A.at_ i f (by grind);rw[a1,a2];obtain ⟨l,hl⟩:=akN hf hs hc (i:=i) (t:=f.type) (by grind);exact ⟨_,hl m⟩
  obtain ⟨bs,iq⟩:=mapM_some hex;refine ⟨.string (keyBytes bs.flatten),?_⟩;unfold Go.keyOf;rw[A.hu];simp only[Rm,Fk,Bi,kR];unfold Program.keyLits;rw[A.hu,hm];grind
theorem Rn {t:TypeId} {x:V} (h:qV P t x=true):Keyed P t:=by
 cases zq h with
 | one h1 hx=>
  rcases sL h1 with ⟨q,n,hu,_⟩|⟨b,hu,_⟩|⟨s,hu,_⟩
  ·exact int_keyed hu
  ·exact bool_keyed hu
  ·exact string_keyed hu
 | arr hx A hl _ hf=>exact Keyed.of_law A.law
 | str hx A _ hf=>exact Keyed.of_law A.law
theorem Ro {t:TypeId} {x y:V} {v u:Value} (h1:qU P t x=true) (h2:qU P t y=true) (hv:kz v x) (hu:kz u y):se x y=true↔v=u:=by
 rcases sL h1 with ⟨q,n,jb,rfl,_⟩|⟨b,jb,rfl⟩|⟨s,jb,rfl,_⟩<;>
 rcases sL h2 with ⟨q',n',ub,rfl,_⟩|⟨b',ub,rfl⟩|⟨s',ub,rfl,_⟩<;>
  (rw[jb] at ub;cases ub)
 ·obtain rfl:v= .int q n:=hv;obtain rfl:u= .int q n':=hu;simp[se]
 ·obtain rfl:v= .bool b:=hv;obtain rfl:u= .bool b':=hu;simp[se]
 ·obtain ⟨s1,rfl,e1⟩:=hv;obtain ⟨s2,rfl,e2⟩:=hu;simp only[se,Bj,Value.string.injEq,←e1,←e2];constructor
  ·intro h;have:=Array.toList_inj.1 h;cases s1;simp_all
  grind
theorem aar {t:TypeId}: ∀{xs ys:List V} {vs us:List Value},u7 P t xs=true→u7 P t ys=true→xs.length=ys.length→vs.length=xs.length→us.length=ys.length→
  (∀(j:Nat) v x,vs[j]? =some v→xs[j]? =some x→kz v x)→(∀(j:Nat) v x,us[j]? =some v→ys[j]? =some x→kz v x)→(nM xs ys=true↔vs=us)
 | [],[],vs,us,_,_,_,h1,h2,_,_=>by
  have e1:=o0 (l:=vs) (by omega);have e2:=o0 (l:=us) (by omega);simp[nM,e1,e2]
 | [],_::_,_,_,_,_,h,_,_,_,_=>by simp at h
 | _::_,[],_,_,_,_,h,_,_,_,_=>by simp at h
 | x::xs,y::ys,[],us,_,_,_,h,_,_,_=>by simp at h
 | x::xs,y::ys,v::vs,[],_,_,_,_,h,_,_=>by simp at h
 | x::xs,y::ys,v::vs,u::us,f1,f2,h,h1,h2,r1,r2=>by
  simp only[u7,aK] at f1 f2;have a:=Ro f1.1 f2.1 (r1 0 v x rfl rfl) (r2 0 u y rfl rfl);have b:=aar (vs:=vs) (us:=us) f1.2 f2.2 (by grind) (by grind) (by grind) (fun j v x hj hx=>r1 (j+1) v x (by grind) (by grind)) (fun j v x hj hx=>r2 (j+1) v x (by grind) (by grind));simp only[nM,aK,a,b,yF]
theorem aas: ∀{ts:List TypeId} {xs ys:List V} {vs us:List Value},u9 P ts xs=true→u9 P ts ys=true→vs.length=xs.length→us.length=ys.length→
  (∀(j:Nat) v x,vs[j]? =some v→xs[j]? =some x→kz v x)→(∀(j:Nat) v x,us[j]? =some v→ys[j]? =some x→kz v x)→(nM xs ys=true↔vs=us)
 | [],[],[],vs,us,_,_,h1,h2,_,_=>by
  have e1:=o0 (l:=vs) (by omega);have e2:=o0 (l:=us) (by omega);simp[nM,e1,e2]
 | [],_::_,_,_,_,h,_,_,_,_,_=>by cases h
 | [],[],_::_,_,_,_,h,_,_,_,_=>by cases h
 | _::_,[],_,_,_,h,_,_,_,_,_=>by cases h
 | _::_,_::_,[],_,_,_,h,_,_,_,_=>by cases h
 | t::ts,x::xs,y::ys,[],us,_,_,h,_,_,_=>by simp at h
 | t::ts,x::xs,y::ys,v::vs,[],_,_,_,h,_,_=>by simp at h
 | t::ts,x::xs,y::ys,v::vs,u::us,f1,f2,h1,h2,r1,r2=>by
  simp only[u9,aK] at f1 f2;have a:=Ro f1.1 f2.1 (r1 0 v x rfl rfl) (r2 0 u y rfl rfl);have b:=aas (vs:=vs) (us:=us) f1.2 f2.2 (by grind) (by grind) (fun j v x hj hx=>r1 (j+1) v x (by grind) (by grind)) (fun j v x hj hx=>r2 (j+1) v x (by grind) (by grind));simp only[nM,aK,a,b,yF]
theorem Rp {t:TypeId} {x y:V} {v u:Value} (h1:qV P t x=true) (h2:qV P t y=true) (hv:vm v x) (hu:vm u y):il x y=true↔v=u:=by
 unfold il;cases zq h1 with
 | one f1 c1=>
  cases zq h2 with
  | one f2 c2=>
   rw[c1,c2];simp only[nM,yG];exact Ro f1 f2 (hv.one c1) (hu.one c2)
  | arr hy A hl _ hf=>
   rcases sL f1 with ⟨q,n,jb,_⟩|⟨b,jb,_⟩|⟨s,jb,_⟩<;>(rw[A.hu] at jb;cases jb)
  | str hy A _ hf=>
   rcases sL f1 with ⟨q,n,jb,_⟩|⟨b,jb,_⟩|⟨s,jb,_⟩<;>(rw[A.hu] at jb;cases jb)
 | arr hx A hl _ hf=>
  cases zq h2 with
  | one f2 c2=>
   rcases sL f2 with ⟨q,n,jb,_⟩|⟨b,jb,_⟩|⟨s,jb,_⟩<;>(rw[A.hu] at jb;cases jb)
  | arr hy A2 qb _ Fl=>
   have ju:=A.hu.symm.trans A2.hu;cases ju;subst hx;subst hy;obtain ⟨cs,rfl,s1,r1⟩:=hv;obtain ⟨ds,rfl,s2,r2⟩:=hu;have:=aar (vs:=cs.toList) (us:=ds.toList) hf Fl (by omega) (by omega) (by omega) (fun j v x hj hx=>r1 j v x (by grind) hx) (fun j v x hj hx=>r2 j v x (by grind) hx);simp only[V.cells,this,Value.agg.injEq];simp_all
  | str hy A2 _ Fl=>
   have ju:=A.hu.symm.trans A2.hu;cases ju
 | str hx A _ hf=>
  cases zq h2 with
  | one f2 c2=>
   rcases sL f2 with ⟨q,n,jb,_⟩|⟨b,jb,_⟩|⟨s,jb,_⟩<;>(rw[A.hu] at jb;cases jb)
  | arr hy A2 qb _ Fl=>
   have ju:=A.hu.symm.trans A2.hu;cases ju
  | str hy A2 _ Fl=>
   have ju:=A.hu.symm.trans A2.hu;cases ju;subst hx;subst hy;obtain ⟨cs,rfl,s1,r1⟩:=hv;obtain ⟨ds,rfl,s2,r2⟩:=hu;have:=aas (vs:=cs.toList) (us:=ds.toList) hf Fl (by omega) (by omega) (fun j v x hj hx=>r1 j v x (by grind) hx) (fun j v x hj hx=>r2 j v x (by grind) hx);simp only[V.cells,this,Value.agg.injEq];simp_all
theorem aat {k:V}: ∀{es:List V},(∀x∈es,il k (x.comp 0)=false)→ez k es=false∧(∀z,fO k es z=z)∧∀v,eB k v es=es++[.bK [k,v]]
 | [],_=>⟨rfl,fun _=>rfl,fun _=>rfl⟩
 | e::es,h=>by
  have h0:=h e (Bh ..);obtain ⟨a,b,c⟩:=aat (k:=k) (es:=es) fun x hx=>h x (qP _ hx);exact ⟨by simp[ez,h0,a],fun z=>by simp[fO,h0,b],fun v=>by simp[eB,h0,c]⟩
theorem aau {k:V}: ∀{es:List V} {j:Nat} {k' y:V},es[j]? =some (.bK [k',y])→il k k'=true→(∀i x,i<j→es[i]? =some x→il k (x.comp 0)=false)→
  ez k es=true∧(∀z,fO k es z=y)∧∀v,eB k v es=es.set j (.bK [k',v])
 | [],j,k',y,h,_,_=>by simp at h
 | e::es,0,k',y,h,he,_=>by
  simp at h;subst h;exact ⟨by simp[ez,V.comp,V.nth,he],fun z=>by simp[fO,V.comp,V.nth,he],fun v=>by simp[eB,V.comp,V.nth,he]⟩
 | e::es,j+1,k',y,h,he,bf=>by
  have h0:=bf 0 e (by omega) rfl;obtain ⟨a,b,c⟩:=aau (k:=k) (es:=es) (j:=j) (by simpa using h) he fun i x hi hx=>bf (i+1) x (by omega) (by grind);exact ⟨by simp[ez,h0,a],fun z=>by simp[fO,h0,b],fun v=>by simp[eB,h0,c]⟩
theorem aav {kt vt:TypeId} {E:Array MapEntry} {es:List V} {k:V} {kv:Value} (hs:E.size=es.length) (hx: ∀(j:Nat) (e:MapEntry) (x:V),E[j]? =some e→es[j]? =some x→KX P kt vt e x)
  (hn:E.toList.Pairwise (fun a b=>a.key≠b.key)) (hk:qV P kt k=true) (LF:vm kv k) (w:World):
  ((Instr.findKey kt kv E.toList).run P w= .ok none w∧(∀e∈E.toList,e.key≠kv)∧ez k es=false∧(∀z,fO k es z=z)∧∀v,eB k v es=es++[.bK [k,v]])∨
  ∃j e k' y,(Instr.findKey kt kv E.toList).run P w= .ok (some (j,e.val)) w∧E[j]? =some e∧e.key=kv∧es[j]? =some (.bK [k',y])∧qV P kt k'=true∧vm kv k'∧fp P vt y=true∧kz e.val y∧
   ez k es=true∧(∀z,fO k es z=y)∧∀v,eB k v es=es.set j (.bK [k',v]):=by
 have K:=Rn hk;obtain ⟨l,hl⟩:=LD hk LF;have ent: ∀(j:Nat) x,es[j]? =some x→∃e,E[j]? =some e∧KX P kt vt e x:=by
  intro j x hj;have bf:j<E.size:=by grind
  exact ⟨E[j],mj bf,hx j _ x (mj bf) hj⟩
 have keys: ∀e∈E.toList,∃l,Go.keyOf P kt e.key=some l:=by
  intro e he;obtain ⟨j,hj⟩:=tz he;have jM:E[j]? =some e:=by grind
  have bf:j<es.length:=by grind
  obtain ⟨k',y,_,h1,h2,_⟩:=hx j e es[j] jM (cp bf);exact LD h1 h2
 rcases K.find w hl E.toList keys with ⟨h1,h2⟩|⟨j,e,h1,h2,h3⟩
 ·left;refine ⟨h1,h2,aat fun x Lt=> ?_⟩;obtain ⟨j,hj⟩:=tz Lt;obtain ⟨e,he,k',y,rfl,f1,f2,_⟩:=ent j x hj;cases hq:il k (V.comp (.bK [k',y]) 0) with
  | false=>rfl
  | true=>
   have:=(Rp hk f1 LF f2).1 hq;grind
 ·right;have hE:E[j]? =some e:=by grind
  have bf:j<es.length:=by grind
  obtain ⟨k',y,hy,f1,f2,f3,f4⟩:=hx j e es[j] hE (cp bf);have hj:=cp bf;rw[hy] at hj;rw[h3] at f2;refine ⟨j,e,k',y,h1,hE,h3,hj,f1,f2,f3,f4,aau hj ((Rp hk f1 LF f2).2 rfl) fun i x hi mZ=> ?_⟩;obtain ⟨e',BW,k2,y2,rfl,g1,g2,_⟩:=ent i x mZ;cases hq:il k (V.comp (.bK [k2,y2]) 0) with
  | false=>rfl
  | true=>
   have:=(Rp hk g1 LF g2).1 hq;have i1:i<E.toList.length:=by grind
   have i2:j<E.toList.length:=by simp;omega
   have:=Bk.1 hn i j i1 i2 hi;grind
theorem ai.Rq {v:Value} {x:V} (h:ai P w I β hp v x) {t:TypeId} (hx:qU P t x=true):kz v x:=by
 rcases sL hx with ⟨q,n,_,rfl,_⟩|⟨b,_,rfl⟩|⟨s,_,rfl,_⟩
 ·exact h.gE
 ·exact h.mY
 ·exact h.ph
theorem ai.aaw {v:Value} {x:V} (h:ai P w I β hp v x) {t:TypeId} (hx:qV P t x=true):vm v x:=by
 cases zq hx with
 | one f c=>
  have:=h.Rq f;cases x<;>first|exact this|cases this
 | arr hx A hl _ hf=>
  subst hx;obtain ⟨cs,rfl,h1,h2⟩:=h.nT;exact ⟨cs,rfl,h1,fun j u y hu hy=>(h2 j u y hu hy).Rq (Rl hf hy)⟩
 | str hx A _ hf=>
  subst hx;obtain ⟨cs,rfl,h1,h2⟩:=h.nT;obtain ⟨a,b⟩:=LB hf;refine ⟨cs,rfl,h1,fun j u y hu hy=> ?_⟩;have hj:=(cO.1 hy).1;exact (h2 j u y hu hy).Rq (b j _ y (cp (by omega)) hy)
theorem aax {vt:TypeId} {y:V} (h:mapVal P vt=true) (ht:fp P vt y=true):(∃q n,P.underlying vt=some (.int q)∧y= .int q n)∨∃b,P.underlying vt=some .bool∧y= .bool b:=by
 unfold mapVal at h;unfold fp at ht;grind
theorem kz.Rr {vt:TypeId} {v:Value} {y:V} (h:mapVal P vt=true) (ht:fp P vt y=true) (hv:kz v y):ai P w I β hp v y:=by
 rcases aax h ht with ⟨q,n,_,rfl⟩|⟨b,_,rfl⟩
 ·obtain rfl:v= .int q n:=hv;exact .int
 ·obtain rfl:v= .bool b:=hv;exact .bool
theorem ai.akP {vt:TypeId} {v:Value} {y:V} (h:mapVal P vt=true) (ht:fp P vt y=true) (hv:ai P w I β hp v y):kz v y:=by
 rcases aax h ht with ⟨q,n,_,rfl⟩|⟨b,_,rfl⟩
 ·exact hv.gE
 ·exact hv.mY
theorem akQ {vt:TypeId} {z:V} (h:KG P vt=some z) (w:World): ∃v,(zeroValue vt).run P w= .ok v w∧kz v z:=by
 unfold KG at h;cases hi:P.info? vt with
 | none=>grind
 | some i=>
  rw[hi] at h;simp only[Option.bind_some] at h;cases hz:i.zero with
  | none=>grind
  | some v=>
   rw[hz] at h;refine ⟨v,by simp[zeroValue,typeInfo,hi,hz],?_⟩;cases v<;>simp only at h<;>first|(cases h;done)|skip
   ·cases h;rfl
   ·cases h;rfl
theorem Rs {t kt vt:TypeId} (h:pb P t=some (kt,vt)):P.underlying t=some (.map kt vt):=by
 unfold pb at h;grind
theorem Rt (S:aB P w I β hp B M w0) {ok:Bool} {v:Value} {x:V} {b:Bool} {r:R} {rd:List Nat} {res:Result Value} (hv:ai P w I β hp v x)
  (hr:res= .ok (if ok then .tuple #[v,.bool b] else v) w) (h:(KH ok x b).run C hp=some (r,rd)):dJ P res w I β hp B M w0 r:=by
 unfold KH at h;obtain rfl:=aZ h;cases ok with
 | false=>exact .same S hr hv
 | true=>
  refine .same S hr (.bK rfl fun j u y hu hy=> ?_)
  match j,hu,hy with
  | 0,hu,hy=>grind
  | 1,hu,hy=>simp at hu hy;subst hu;subst hy;exact .bool
  | j+2,hu,hy=>simp at hy
theorem akR (S:aB P w I β hp B M w0) {t kt vt:TypeId} (ht:pb P t=some (kt,vt)) {m k:Value} {mx kx:V} {ok:Bool} {r:R} {rd:List Nat} (hm:ai P w I β hp m mx) (hk:ai P w I β hp k kx)
  (h:(Qd P t mx kx ok).run C hp=some (r,rd)):dJ P ((Instr.lookup t m k ok).run P w) w I β hp B M w0 r:=by
 unfold Qd at h;rw[ht] at h;simp only at h;cases hz:KG P vt with
 | none=>rw[hz] at h;cases h
 | some z=>
  rw[hz] at h;obtain ⟨hc,h'⟩:=aH h;clear h;have h:=h';clear h';simp only[aK] at hc;obtain ⟨uc,Fm,LG⟩:=hc;have hu:=Rs ht;have B1:=hk.aaw uc;have K:=Rn uc;obtain ⟨l,hl⟩:=LD uc B1;obtain ⟨zv,hzr,hzk⟩:=akQ hz w;cases mx<;>simp only at h<;>first|(cases h;done)|skip
  ·rename_i t' id;obtain ⟨nW,h'⟩:=aH h;clear h;have h:=h';clear h';rw[ba] at nW;subst nW;obtain ⟨l2,h'⟩:=run_get h;clear h;have h:=h';clear h';cases ab:hp id with
   | none=>rw[ab] at h;cases h
   | some blk=>
    rw[ab] at h;cases blk<;>simp only at h<;>first|(cases h;done)|skip
    rename_i t2 es;obtain ⟨nW,h'⟩:=aH h;clear h;have h:=h';clear h';rw[ba] at nW;subst nW;cases hm with
    | kX hd=>grind
    | @cD _ _ b aQ hd hb=>
     rw[ab] at hd;cases hd;have hr:=S.h.rel id _ ab;cases hr with
     | @map _ kt' vt' _ b' clock E lg aA hh hs hI hx hn=>
      rw[hb] at aA;cases aA;rw[hu] at lg;cases lg;rcases aav hs hx hn uc B1 w with ⟨h1,_,h3,h4,_⟩|⟨j,e,k',y,h1,_,_,_,_,_,h6,h7,h3,h4,_⟩
      ·rw[h3,h4,EX LG] at h;refine Rt S (kz.Rr Fm LG hzk) ?_ h;unfold Instr.lookup;simp only[Sem.run_bind,run_underlying hu,Result.andThen_ok,Go.MapKept.run_getObj_map hh,Sem.run_pure,K.check w E.isEmpty hl,h1,hzr]
      ·rw[h3,h4,EX h6] at h;refine Rt S (kz.Rr Fm h6 h7) ?_ h;unfold Instr.lookup;simp only[Sem.run_bind,run_underlying hu,Result.andThen_ok,Go.MapKept.run_getObj_map hh,Sem.run_pure,K.check w E.isEmpty hl,h1]
  ·rename_i t';obtain ⟨nW,h⟩:=aH h;cases hm;rw[EX LG] at h;refine Rt S (kz.Rr Fm LG hzk) ?_ h;have hf:(Instr.findKey kt k []).run P w= .ok none w:=by
    rcases K.find w hl [] (by simp) with ⟨h1,_⟩|⟨j,e,_,h2,_⟩
    all_goals grind
   unfold Instr.lookup;simp[run_underlying hu,K.check w true hl,hf,hzr]
theorem akS (S:aB P w I β hp B M w0) {t:TypeId} {nb:Nat} {r:R} {rd:List Nat} (h:(Rd.aD (pb P t).isSome (jh nb (.map t []) (.cD t nb) [])).run C hp=some (r,rd)):
  dJ P ((Instr.makeMap t none).run P w) w I β hp B M w0 r:=by
 obtain ⟨ht,h⟩:=aH h;obtain ⟨hn,rfl⟩:=mz h;obtain ⟨⟨kt,vt⟩,ht⟩:=Ki.1 ht;have hu:=Rs ht;have dI: ∀j,¬I w.heap.size j:=fun j h=>nE _ (S.h.jK _ j h);have dU:(w.alloc (.map #[] 0)).heap[w.heap.size]? =some (.map #[] 0):=heap_alloc_new w _;obtain ⟨a1,a2⟩:=BK S (w':=w.alloc (.map #[] 0)) (blk:= .map t []) (b:=w.heap.size) hn (fun ax blk' h ho=>nE _ (S.h.lt h ho)) (fun j h=>absurd h (dI j))
  (fun b' _ bf=>heap_alloc_old w _ b' bf) (by simp) ⟨rfl,rfl⟩ (.inr S.size) (fun b' h=>(ew (h.flat (by simp))).symm)
  (fun _=> .map hu rfl dU rfl dI (fun j e x he _=>by simp at he) (by simp))
 exact ⟨_,_,_,_,Go.RowKit.run_makeMap t w,a1,a2,.cD (bW _ _ _) (bW _ _ _)⟩
theorem aay (S:aB P w I β hp B M w0) {t kt vt:TypeId} (ht:pb P t=some (kt,vt)) {m k v:Value} {mx kx vx:V} {r:R} {rd:List Nat} (hm:ai P w I β hp m mx) (hk:ai P w I β hp k kx) (hv:ai P w I β hp v vx)
  (h:(KI P t mx kx vx).run C hp=some (r,rd)):sC P ((Instr.mapUpdate t m k v).run P w) w I β hp B M w0 r:=by
 unfold KI at h;rw[ht] at h;obtain ⟨hc,h'⟩:=aH h;clear h;have h:=h';clear h';simp only[aK] at hc;obtain ⟨uc,Fm,zr⟩:=hc;have hu:=Rs ht;have B1:=hk.aaw uc;have qk:=ai.akP Fm zr hv;have K:=Rn uc;obtain ⟨l,hl⟩:=LD uc B1;cases mx<;>simp only at h<;>first|(cases h;done)|skip
 rename_i t' id;obtain ⟨nW,h'⟩:=aH h;clear h;have h:=h';clear h';rw[ba] at nW;subst nW;obtain ⟨l2,h'⟩:=run_get h;clear h;have h:=h';clear h';cases ab:hp id with
 | none=>rw[ab] at h;cases h
 | some blk=>
  rw[ab] at h;cases blk<;>simp only at h<;>first|(cases h;done)|skip
  rename_i t2 es;obtain ⟨nW,h'⟩:=aH h;clear h;have h:=h';clear h';rw[ba] at nW;subst nW;obtain rfl:=aZ h;cases hm with
  | kX hd=>grind
  | @cD _ _ b aQ hd hb=>
   rw[ab] at hd;cases hd;have hr:=S.h.rel id _ ab;cases hr with
   | @map _ kt' vt' _ b' clock E lg aA hh hs hI hx hn=>
    rw[hb] at aA;cases aA;rw[hu] at lg;cases lg;have bf:b<w.heap.size:=(wQ.1 hh).1;have fin: ∀(E':Array MapEntry) (Fo:Nat),(Instr.mapUpdate t (.map (some b)) k v).run P w= .ok () {w with heap:=w.heap.setIfInBounds b (.map E' Fo)}→E'.size=(eB kx vx es).length→
      (∀(j:Nat) (e:MapEntry) (x:V),E'[j]? =some e→(eB kx vx es)[j]? =some x→KX P kt vt e x)→E'.toList.Pairwise (fun a b=>a.key≠b.key)→
      sC P ((Instr.mapUpdate t (.map (some b)) k v).run P w) w I β hp B M w0 ⟨.undef,[(id,.map t (eB kx vx es))]⟩:=by
     intro E' Fo da xu dy Ru;have dU:({w with heap:=w.heap.setIfInBounds b (.map E' Fo)}:World).heap[b]? =some (.map E' Fo):=by simp[bf]
     obtain ⟨a1,a2⟩:=ES S (w':={w with heap:=w.heap.setIfInBounds b (.map E' Fo)}) (blk':= .map t (eB kx vx es)) ab (by simp) rfl hb hI (by simp)
      (fun b' aA=>by grind) (by simp only[bsize,dU,hh]) (by simp) ⟨rfl,rfl⟩ (fun _=> .map hu rfl dU xu hI dy Ru)
     exact ⟨_,I,β,da,a1,a2,rfl⟩
    rcases aav hs hx hn uc B1 w with ⟨h1,h2,_,_,h5⟩|⟨j,e,k',y,h1,hE,hek,ZN,akT,akU,_,_,_,_,h5⟩
    ·have e5:=h5 vx;refine fin (E.push {key:=k,val:=v,born:=clock}) (clock+1) ?_ (by grind) (fun j e x he oJ=> ?_) ?_
     ·unfold Instr.mapUpdate;simp only[Sem.run_bind,run_underlying hu,Result.andThen_ok,Go.MapKept.run_getObj_map hh,K.check w false hl,h1,Go.MapKept.run_setObj_map _ hh]
     ·rw[e5] at oJ;rw[Array.getElem?_push] at he;split at he
      ·rename_i hj;rw[oB (by omega),hj,hs,Nat.sub_self] at oJ;simp at he oJ;subst he;subst oJ;exact ⟨kx,vx,rfl,uc,B1,zr,qk⟩
      grind
     grind
    ·have e5:=h5 vx;have hj:j<E.size:=(wQ.1 hE).1;refine fin (E.modify j fun e=>{e with key:=k,val:=v}) clock ?_ (by grind) (fun i e' x he mZ=> ?_) ?_
     ·have b9:=K.stays w hl;unfold Instr.mapUpdate;simp only[Sem.run_bind,run_underlying hu,Result.andThen_ok,Go.MapKept.run_getObj_map hh,K.check w false hl,h1];simp only[hE,Option.map_some,Option.getD_some,hek,b9,Result.andThen_ok,Go.MapKept.run_setObj_map _ hh]
     ·rw[e5] at mZ;rw[Kl] at he;rw[yE] at mZ;split at he
      ·rename_i Rv;subst Rv;rw[ah rfl,br] at mZ;rw[hE] at he;simp at he mZ;subst he;subst mZ;exact ⟨k',vx,rfl,akT,akU,zr,qk⟩
      grind
     ·have hke: ∀i (h1:i<(E.modify j fun e=>{e with key:=k,val:=v}).toList.length) (h2:i<E.toList.length),((E.modify j fun e=>{e with key:=k,val:=v}).toList[i]).key=(E.toList[i]).key:=by
       grind
      rw[Bk] at hn⊢;grind
theorem akV (S:aB P w I β hp B M w0) {t ty kt vt:TypeId} {v:Value} {x:V} {r:R} {rd:List Nat} (hu:P.underlying t=some (.map kt vt)) (hv:ai P w I β hp v x)
  (h:(KJ x).run C hp=some (r,rd)):dJ P ((Builtin.len_ #[t] ty #[v]).run P w) w I β hp B M w0 r:=by
 unfold KJ at h;cases x<;>simp only at h<;>first|(cases h;done)|skip
 ·rename_i t' id;obtain ⟨l2,h'⟩:=run_get h;clear h;have h:=h';clear h';cases ab:hp id with
  | none=>rw[ab] at h;cases h
  | some blk=>
   rw[ab] at h;cases blk<;>simp only at h<;>first|(cases h;done)|skip
   rename_i t2 es;obtain rfl:=aZ h;cases hv with
   | kX hd=>grind
   | @cD _ _ b aQ hd hb=>
    rw[ab] at hd;cases hd;have hr:=S.h.rel id _ ab;cases hr with
    | @map _ kt' vt' _ b' clock E lg aA hh hs hI hx hn=>
     rw[hb] at aA;cases aA;refine .same S (v:= .int .i64 E.size) (by simp[Builtin.len_,run_underlying hu,Go.MapKept.run_getObj_map hh,goInt]) ?_;rw[hs];exact .int
 ·obtain rfl:=aZ h;cases hv;exact .same S (v:= .int .i64 0) (by simp[Builtin.len_,run_underlying hu,goInt]) .int
theorem ai.Rw {v:Value} {t:TypeId} (h:ai P w I β hp v (.eY t)):v= .map none:=by cases h;rfl
theorem ai.akW {v:Value} {t t':TypeId} {id:Nat} {es:List V} (h:ai P w I β hp v (.cD t id)) (ab:hp id=some (.map t' es)): ∃b,v= .map (some b):=by
 cases h with
 | kX h=>grind
 | cD h hb=>grind
theorem aaz (S:aB P w I β hp B M w0) {op:BinOp} {t:TypeId} {a:Option Nat} {r:R} {rd:List Nat} (x y:Operand)
  (h:(KC P op t a.isNone).run C hp=some (r,rd)):dJ P ((do eqGuard op t x y (.map a) (.map none);binOp op t (.map a) (.map none)).run P w) w I β hp B M w0 r:=by
 unfold KC at h;split at h
 case h_2=>cases h
 rename_i kt vt hu;have he:(Op.equal t (.map a) (.map none)).run P w= .ok a.isNone w:=by
  show (Op.equalIn (9999+1) t (.map a) (.map none)).run P w=_;rw[Op.equalIn];cases a<;>simp[Sem.run_bind,run_underlying hu,Result.andThen_ok,Sem.run_pure]
 cases op<;>simp only at h<;>first|(cases h;done)|skip
 ·obtain rfl:=aZ h;exact .same S (by simp[eqGuard,binOp,he]) .bool
 ·obtain rfl:=aZ h;exact .same S (by simp[eqGuard,binOp,he]) .bool
end
end Go.AM
