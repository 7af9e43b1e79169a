/-
  Functions of the program, lifted to plain data.
-/
import Derived.Great.BuildSlice
import Derived.Maps.Keyed
import Derived.WideKeyArr
import Derived.MapKept
import Derived.ChangeMaps4
import Derived.Carry
import Derived.Test.YtaijibbmmbhniaaGreatDoorP1
noncomputable section
set_option linter.unusedVariables false
set_option linter.unusedSimpArgs false
namespace Go.AM
section
variable {P:Program} {w w':World} {I I':Nat→Nat→Prop} {β β':Nat→Option Nat} {hp hp':Nat→Option af} {C:ae} {B:Nat} {M:Nat→Prop} {w0:Start}
theorem pj.xm {t:TypeId} {v:Value} {x:V} (h:pj P w I t v x):ik P t x=x:=by
 cases h with
 | gv _ p=>exact p.xm
 | emp hu=>exact rj hu
 | row hu _ _ _ _=>exact rj hu
theorem BQ {new:List V} {e ea:TypeId} {i c:Nat} {q:Path} {es dD:List V} {x:V} (hx:es[i]? =some x) (hp:(parts P e x)[c]? =some (.list ea dD)):
  setRow P new e es ((i,c)::q)=es.set i (dP P e ((parts P e x).set c (.list ea (setRow P new ea dD q)))):=by
 simp only[setRow,hx,hp]
theorem E7 {b:Nat} {e t:TypeId} {es:List V} {i c:Nat} {x y:V} (hR:iB P w I b e es) (hx:es[i]? =some x) (ht:(bc P e)[c]? =some t):
  ∀{i' c':Nat} {x':V} {t':TypeId},(es.set i (dP P e ((parts P e x).set c y)))[i']? =some x'→(bc P e)[c']? =some t'→
   ∃x0,es[i']? =some x0∧cu P e x' c'=if i'=i∧c'=c then y else cu P e x0 c':=by
 intro i' c' x' t' dy gb;have pq:i<es.length:=(cL.1 hx).1;have zb:c<(bc P e).length:=(cL.1 ht).1;have Lj:c'<(bc P e).length:=(cL.1 gb).1;by_cases hi:i'=i
 ·subst hi;rw[yE pq] at dy;cases dy;refine ⟨x,hx,?_⟩;by_cases hc:c'=c
  ·subst hc;rw[ah ⟨rfl,rfl⟩];exact vw (yE (by rw[BO];exact zb)) gb
  ·rw[ag (fun h=>hc h.2)];have h1:((parts P e x).set c y)[c']? =some (ik P t' (cu P e x c')):=by
    rw[D5 (fun h=>hc h.symm)];exact ri gb
   rw[vw h1 gb];obtain ⟨Ca,_,_,_,_,vy⟩:=hR.cells;obtain ⟨v,_,ho⟩:=vy i' c' x t' hx gb (by rw[←fM hR.ok];exact Lj);exact ho.xm
 ·rw[D5 (fun h=>hi h.symm)] at dy;exact ⟨x',dy,by rw[ag (fun h=>hi h.1)]⟩
theorem QR {b b1:Nat} {e e1:TypeId} {es l l':List V} {p:Path} (h:At P w b e es p b1 e1 l) (hl:l'.length=l.length):(setRow P l' e es p).length=es.length:=by
 cases h with
 | here=>exact hl
 | step h1 h2 h3 h4 h5 h6 h7 h8=>
  rw[BQ h2 (by rw[ri h3,h5,rj h4])];simp
theorem At.ajZ {b b1:Nat} {e e1:TypeId} {es l l':List V} {p:Path} (QS:At P w b e es p b1 e1 l) (hw: ∀k,k≠b1→w'.heap[k]? =w.heap[k]?) (hl:l'.length=l.length):
  (∀q b' e' m,At P w b e es q b' e' m→iB P w I b' e' m)→(∀q e' m,At P w b e es q b1 e' m→q=p)→
  ∀q b' e' m,At P w' b e (setRow P l' e es p) q b' e' m→
   (∃r m0,p=q++r∧At P w b e es q b' e' m0∧m=setRow P l' e' m0 r)∨
   (∃r,r≠[]∧q=p++r∧At P w' b1 e1 l' r b' e' m)∨
   (At P w b e es q b' e' m∧b'≠b1∧¬q <+: p∧¬p <+: q):=by
 induction QS with
 | here=>
  intro dm m9 q b' e' m h;cases q with
  | nil=>cases h with|here=>exact .inl ⟨[],_,rfl,.here,rfl⟩
  | cons a q=>exact .inr (.inl ⟨a::q,by simp,rfl,h⟩)
 | @step b i c b2 len cap b1 e t ea e1 es dD l p Ca T f x h1 h2 h3 h4 h5 h6 h7 h8 ih=>
  intro dm m9 q b' e' m h;have oK:(parts P e x)[c]? =some (.list ea dD):=by rw[ri h3,h5,rj h4]
  rw[BQ h2 oK] at h;have hR:=dm _ _ _ _ .here;have hb:b≠b1:=by
   intro hb;subst hb;have:=m9 [] _ _ .here;cases this
  have QT:=ih hw hl (fun q b' e' m h=>dm _ _ _ _ (.step h1 h2 h3 h4 h5 h6 h7 h)) (fun q e' m h=>by
   have:=m9 _ _ _ (.step h1 h2 h3 h4 h5 h6 h7 h);exact (wP this).2)
  cases h with
  | here=>exact .inl ⟨_,es,rfl,.here,(BQ h2 oK).symm⟩
  | @step _ i' c' b3 aj0 QU _ _ t' e3 _ _ iX _ q za T' f' x' k1 k2 k3 k4 k5 k6 k7 k8=>
   rw[hw b hb] at k1;obtain ⟨x0,y1,y2⟩:=E7 hR h2 h3 k2 k3;by_cases js:i'=i∧c'=c
   ·rw[ah js] at y2;obtain ⟨rfl,rfl⟩:=js;rw[h1] at k1;cases k1;rw[h7] at k7;cases k7;rw[k5] at y2;cases y2;rcases QT _ _ _ _ k8 with ⟨r,m0,z1,z2,z3⟩|⟨r,z1,z2,z3⟩|⟨z1,z2,z3,z4⟩
    ·exact .inl ⟨r,m0,by rw[z1];rfl,.step h1 h2 h3 h4 h5 h6 h7 z2,z3⟩
    ·exact .inr (.inl ⟨r,z1,by rw[z2];rfl,z3⟩)
    ·refine .inr (.inr ⟨.step h1 h2 h3 h4 h5 h6 h7 z1,z2,fun hh=>z3 ?_,fun hh=>z4 ?_⟩)
     ·exact (wQ.1 hh).2
     ·exact (wQ.1 hh).2
   ·rw[ag js,k5] at y2;have cm: ∀q2 b5 e5 kb,At P w b3 e3 iX q2 b5 e5 kb→b5≠b1:=by
     intro q2 b5 e5 kb hq zh;subst zh;have:=m9 _ _ _ (.step k1 y1 k3 k4 y2.symm k6 k7 hq);injection this with h1 h2;injection h1 with h1 h3;exact js ⟨h1,h3⟩
    have lh:=k8.xg (w:=w) fun q2 b5 e5 kb hq=>hw b5 (cm q2 b5 e5 kb hq);refine .inr (.inr ⟨.step k1 y1 k3 k4 y2.symm k6 k7 lh,cm _ _ _ _ lh,fun hh=> ?_,fun hh=> ?_⟩)
    ·have:=(wQ.1 hh).1;injection this with h1 h3;exact js ⟨h1,h3⟩
    ·have:=(wQ.1 hh).1;injection this with h1 h3;exact js ⟨h1.symm,h3.symm⟩
theorem At.xo {b b1:Nat} {e e1:TypeId} {es l l':List V} {p:Path} (QS:At P w b e es p b1 e1 l) (hw: ∀k,k≠b1→w'.heap[k]? =w.heap[k]?) (hl:l'.length=l.length):
  (∀q b' e' m,At P w b e es q b' e' m→iB P w I b' e' m)→(∀q e' m,At P w b e es q b1 e' m→q=p)→
  ∀q b' e' m,At P w b e es q b' e' m→
   (∃r,p=q++r∧At P w' b e (setRow P l' e es p) q b' e' (setRow P l' e' m r)∧∃e1' m1,At P w b' e' m r b1 e1' m1∧m1=l)∨
   (∃r,r≠[]∧q=p++r∧At P w b1 e1 l r b' e' m∧(∀b2 e2 m2,At P w' b1 e1 l' r b2 e2 m2→At P w' b e (setRow P l' e es p) q b2 e2 m2))∨
   (At P w' b e (setRow P l' e es p) q b' e' m∧b'≠b1∧¬q <+: p∧¬p <+: q):=by
 induction QS with
 | here=>
  intro dm m9 q b' e' m h;cases q with
  | nil=>cases h with|here=>exact .inl ⟨[],rfl,.here,_,_,.here,rfl⟩
  | cons a q=>exact .inr (.inl ⟨a::q,by simp,rfl,h,fun _ _ _ h=>h⟩)
 | @step b i c b2 len cap b1 e t ea e1 es dD l p Ca T f x h1 h2 h3 h4 h5 h6 h7 h8 ih=>
  intro dm m9 q b' e' m h;have oK:(parts P e x)[c]? =some (.list ea dD):=by rw[ri h3,h5,rj h4]
  have sm:=BQ (new:=l') (q:=p) h2 oK;have hR:=dm _ _ _ _ .here;have pq:i<es.length:=(cL.1 h2).1;have hb:b≠b1:=by
   intro hb;subst hb;have:=m9 [] _ _ .here;cases this
  have QT:=ih hw hl (fun q b' e' m h=>dm _ _ _ _ (.step h1 h2 h3 h4 h5 h6 h7 h)) (fun q e' m h=>by
   have:=m9 _ _ _ (.step h1 h2 h3 h4 h5 h6 h7 h);exact (wP this).2)
  have tL:=(hw b hb).trans h1;have vz:(es.set i (dP P e ((parts P e x).set c (.list ea (setRow P l' ea dD p)))))[i]? =some (dP P e ((parts P e x).set c (.list ea (setRow P l' ea dD p)))):=yE pq;have QV:cu P e (dP P e ((parts P e x).set c (.list ea (setRow P l' ea dD p)))) c= .list ea (setRow P l' ea dD p):=by
   obtain ⟨x0,y1,y2⟩:=E7 hR h2 h3 vz h3;rw[ah ⟨rfl,rfl⟩] at y2;exact y2
  cases h with
  | here=>
   exact .inl ⟨(i,c)::p,rfl,.here,_,_,.step h1 h2 h3 h4 h5 h6 h7 h8,rfl⟩
  | @step _ i' c' b3 aj0 QU _ _ t' e3 _ _ iX _ q za T' f' x' k1 k2 k3 k4 k5 k6 k7 k8=>
   rw[sm];by_cases js:i'=i∧c'=c
   ·obtain ⟨rfl,rfl⟩:=js;rw[h1] at k1;cases k1;rw[h7] at k7;cases k7;rw[h3] at k3;cases k3;rw[h4] at k4;cases k4;rw[h2] at k2;cases k2;rw[h5] at k5;cases k5;rcases QT _ _ _ _ k8 with ⟨r,z1,z2,z3⟩|⟨r,z1,z2,z3,z4⟩|⟨z1,z2,z3,z4⟩
    ·exact .inl ⟨r,by rw[z1];rfl,.step tL vz h3 h4 QV h6 h7 z2,z3⟩
    ·exact .inr (.inl ⟨r,z1,by rw[z2];rfl,z3,fun b2 e2 m2 hh=> .step tL vz h3 h4 QV h6 h7 (z4 b2 e2 m2 hh)⟩)
    ·refine .inr (.inr ⟨.step tL vz h3 h4 QV h6 h7 z1,z2,fun hh=>z3 ?_,fun hh=>z4 ?_⟩)
     ·exact (wQ.1 hh).2
     ·exact (wQ.1 hh).2
   ·have cm: ∀q2 b5 e5 kb,At P w b3 e3 iX q2 b5 e5 kb→b5≠b1:=by
     intro q2 b5 e5 kb hq zh;subst zh;have:=m9 _ _ _ (.step k1 k2 k3 k4 k5 k6 k7 hq);injection this with h1 h2;injection h1 with h1 h3;exact js ⟨h1,h3⟩
    have lh:=k8.mono (w':=w') fun q2 b5 e5 kb hq=>hw b5 (cm q2 b5 e5 kb hq);have QW: ∃x2,(es.set i (dP P e ((parts P e x).set c (.list ea (setRow P l' ea dD p)))))[i']? =some x2:=by
     have:i'<es.length:=(cL.1 k2).1;exact ⟨_,cp (by rw[wR];exact this)⟩
    obtain ⟨x2,na⟩:=QW;obtain ⟨x0,y1,y2⟩:=E7 hR h2 h3 na k3;rw[ag js] at y2;rw[k2] at y1;cases y1;rw[k5] at y2;refine .inr (.inr ⟨.step ((hw b hb).trans k1) na k3 k4 y2 k6 k7 lh,cm _ _ _ _ k8,fun hh=> ?_,fun hh=> ?_⟩)
    ·have:=(wQ.1 hh).1;injection this with h1 h3;exact js ⟨h1,h3⟩
    ·have:=(wQ.1 hh).1;injection this with h1 h3;exact js ⟨h1.symm,h3.symm⟩
theorem At.fun {b b1:Nat} {e e1:TypeId} {es l:List V} {q:Path} (h:At P w b e es q b1 e1 l): ∀{b2 e2 l2},At P w b e es q b2 e2 l2→b2=b1∧e2=e1∧l2=l:=by
 induction h with
 | here=>intro b2 e2 l2 h2;cases h2;exact ⟨rfl,rfl,rfl⟩
 | step h1 h2 h3 h4 h5 h6 h7 h8 ih=>
  intro b2 e2 l2 k;cases k with
  | step k1 k2 k3 k4 k5 k6 k7 k8=>
   rw[h1] at k1;cases k1;rw[h7] at k7;cases k7;rw[h2] at k2;cases k2;rw[h5] at k5;cases k5;exact ih k8
theorem At.split: ∀{q r:Path} {b b1:Nat} {e e1:TypeId} {es l:List V},At P w b e es (q++r) b1 e1 l→∃b' e' m,At P w b e es q b' e' m∧At P w b' e' m r b1 e1 l
 | [],r,b,b1,e,e1,es,l,h=>⟨_,_,_,.here,h⟩
 | a::q,r,b,b1,e,e1,es,l,h=>by
  cases h with
  | step h1 h2 h3 h4 h5 h6 h7 h8=>
   obtain ⟨b',e',m,k1,k2⟩:=At.split h8;exact ⟨b',e',m,.step h1 h2 h3 h4 h5 h6 h7 k1,k2⟩
theorem iB.cZ {b:Nat} {e:TypeId} {es:List V} (h:iB P w I b e es) (hw:w'.heap[b]? =w.heap[b]?) (hI: ∀k j,I k j→w'.cell? ⟨k,j,none⟩=w.cell? ⟨k,j,none⟩) (iq: ∀k,bsize w' k=bsize w k):iB P w' I b e es:=by
 obtain ⟨ok,⟨Ca,T,c1,c0,c2,c3⟩,nI⟩:=h;refine ⟨ok,⟨Ca,T,hw.trans c1,c0,c2,fun i j x t' k1 k2 k3=> ?_⟩,nI⟩;obtain ⟨v,m1,m2⟩:=c3 i j x t' k1 k2 k3;exact ⟨v,m1,m2.mono (fun _ _ h=>h) hI fun b' _ _ _ _=>iq b'⟩
theorem iB.above {b b1 b2 i c len cap:Nat} {e e1 t ea:TypeId} {es dD l l':List V} {r:Path} {Ca:Array Value} {T:TypeId} {f:Nat×Nat} {x:V} (hR:iB P w I b e es)
  (h1:w.heap[b]? =some (.cells Ca T f)) (h2:es[i]? =some x) (h3:(bc P e)[c]? =some t) (h4:P.underlying t=some (.slice ea)) (h5:cu P e x c= .list ea dD) (h6:0<cap)
  (h7:Ca[i*P.cellsOf e+c]? =some (.slice (some ⟨b2,0,none⟩) len cap)) (h8:At P w b2 ea dD r b1 e1 l) (hl:l'.length=l.length)
  (hw:w'.heap[b]? =w.heap[b]?) (hI: ∀k j,I k j→w'.cell? ⟨k,j,none⟩=w.cell? ⟨k,j,none⟩) (iq: ∀k,bsize w' k=bsize w k):iB P w' I b e (setRow P l' e es ((i,c)::r)):=by
 have oK:(parts P e x)[c]? =some (.list ea dD):=by rw[ri h3,h5,rj h4]
 rw[BQ h2 oK];have hR0:=hR;obtain ⟨ok,⟨za,_,c1,c0,c2,c3⟩,nI⟩:=hR;rw[h1] at c1;cases c1;refine ⟨ok,⟨Ca,_,hw.trans h1,c0,by simpa using c2,fun i' j x' t' k1 k2 k3=> ?_⟩,nI⟩;obtain ⟨x0,y1,y2⟩:=E7 hR0 h2 h3 k1 k2;obtain ⟨v,m1,m2⟩:=c3 i' j x0 t' y1 k2 k3;refine ⟨v,m1,?_⟩;have m3:pj P w' I t' v (cu P e x0 j):=m2.mono (fun _ _ h=>h) hI fun b' _ _ _ _=>iq b';rw[y2];by_cases js:i'=i∧j=c
 ·rw[ah js];obtain ⟨rfl,rfl⟩:=js;rw[h2] at y1;cases y1;rw[h3] at k2;cases k2;rw[h5] at m3;have hlen:=QR (l':=l') h8 hl;rw[h7] at m1;cases m1;generalize hy:V.list ea dD=y at m3;cases m3 with
  | gv a p=>unfold ez at a;rw[h4] at a;cases a
  | emp a=>exact absurd h6 (nG _)
  | row a b c d e=>
   cases hy;rw[←hlen];exact .row a b c (by omega) e
 ·rw[ag js];exact m3
theorem aj1 (S:aB P w I β hp B M w0) {id b b1 i c:Nat} {e0 e1:TypeId} {es l l':List V} {vers vers':List Nat} {path:Path} (K:Path→Nat→TypeId→List V→Prop)
  (ab:hp id=some (.nest e0 es vers)) (hb:β id=some b) (ha:At P w b e0 es path b1 e1 l) (hl:l'.length=l.length)
  (hw: ∀k,k≠b1→w'.heap[k]? =w.heap[k]?) (iq: ∀k,bsize w' k=bsize w k) (br:w'.heap.size=w.heap.size) (mZ:w'.os=w.os∧w'.output=w.output)
  (aj2:iB P w' I b1 e1 l')
  (ZG: ∀a r b' e' m,At P w' b1 e1 l' (a::r) b' e' m→b'≠b1∧(At P w b1 e1 l (a::r) b' e' m∨(a=(i,c)∧K r b' e' m)))
  (hK: ∀r b' e' m,K r b' e' m→iB P w I b' e' m∧(M b'∨B≤b')∧(∀bD cM,hp bD=some cM→¬bB P w (β bD) cM b'))
  (tP: ∀r1 r2 b' e1 m1 e2 m2,K r1 b' e1 m1→K r2 b' e2 m2→r1=r2)
  (y5:vers'.length=vers.length) (EP: ∀k,bM vers k≤bM vers' k)
  (xp: ∀(r:Path) i' c' t' v ea l0,(path++r).length<vers.length→bM vers' (path++r).length=bM vers (path++r).length→P.underlying t'=some (.slice ea)→qi P w b1 e1 l r i' c' t' v (.list ea l0)→
   ∃BR,BR.length=l0.length∧qi P w' b1 e1 l' r i' c' t' v (.list ea BR)):
  Le P w I β hp w' I β (av hp id (some (.nest e0 (setRow P l' e0 es path) vers')))∧aB P w' I β (av hp id (some (.nest e0 (setRow P l' e0 es path) vers'))) B M w0:=by
 have hr:=S.h.rel id _ ab;rw[hb] at hr;cases hr with
 | iN aA=>cases aA
 | nest aA dm lM=>
 cases aA;have m9: ∀q e' m,At P w b e0 es q b1 e' m→q=path:=fun q e' m h=>lM _ _ _ _ _ _ _ h ha;have dI: ∀j,¬I b1 j:=(dm _ _ _ _ ha).nI;have xq: ∀k j,I k j→w'.cell? ⟨k,j,none⟩=w.cell? ⟨k,j,none⟩:=fun k j hk=>World.cell?_of_block (hw k (fun e=>dI j (e▸hk)));have ZH:bB P w (β id) (.nest e0 es vers) b1:= .row hb ha;have same: ∀{ax cM b'},ax≠id→hp ax=some cM→bB P w (β ax) cM b'→w'.heap[b']? =w.heap[b']? :=
  fun hi h ho=>hw _ fun e=>hi (S.h.inj _ _ _ _ b1 h ab (e▸ho) ZH)
 have BT:(setRow P l' e0 es path).length=es.length:=QR ha hl;have xo:=At.ajZ (I:=I) (w':=w') (l':=l') ha hw hl dm m9;have QX: ∀q b' e' m,At P w' b e0 (setRow P l' e0 es path) q b' e' m→(∃e2 m2,At P w b e0 es q b' e2 m2)∨∃r,q=path++(i,c)::r∧K r b' e' m:=by
  intro q b' e' m h;rcases xo q b' e' m h with ⟨r,m0,z1,z2,z3⟩|⟨r,z1,z2,z3⟩|⟨z1,z2,z3,z4⟩
  ·exact .inl ⟨_,_,z2⟩
  ·cases r with
   | nil=>exact absurd rfl z1
   | cons a r=>
    obtain ⟨y1,y2⟩:=ZG a r b' e' m z3;rcases y2 with y2|⟨rfl,y2⟩
    ·exact .inl ⟨_,_,by rw[z2];exact ha.app y2⟩
    ·exact .inr ⟨r,z2,y2⟩
  ·exact .inl ⟨_,_,z1⟩
 have sB: ∀b',bB P w' (β id) (.nest e0 (setRow P l' e0 es path) vers') b'→bB P w (β id) (.nest e0 es vers) b'∨((M b'∨B≤b')∧∀bD cM,hp bD=some cM→¬bB P w (β bD) cM b'):=by
  intro b' ho;cases ho with
  | root _ h=>exact .inl (.root (by simp) h)
  | row h1 h2=>
   rw[hb] at h1;cases h1;rcases QX _ _ _ _ h2 with ⟨e2,m2,h⟩|⟨r,_,h⟩
   ·exact .inl (.row hb h)
   ·exact .inr (hK _ _ _ _ h).2
 have hle:Le P w I β hp w' I β (av hp id (some (.nest e0 (setRow P l' e0 es path) vers'))):=by
  refine ⟨fun _ _ h=>h,xq,fun ax cM h=> ?_,fun ax cM kB b' h h3 hd3 aA=>iq b',fun ax e cb vs e' aQ EI b2 q i' c' t v ea l0 h h' fE bf hv ht hc=> ?_⟩
  ·by_cases hi:ax=id
   ·subst hi;rw[ab] at h;cases h;exact ⟨_,bW _ _ _,⟨rfl,BT.symm,y5.symm,EP⟩,fun _=>rfl⟩
   ·exact ⟨cM,by rw[cK _ _ hi];exact h,af.le_refl _,fun _=>rfl⟩
  ·by_cases hi:ax=id
   ·subst hi;rw[ab] at h;cases h;rw[bW] at h';cases h';rw[hb] at fE;cases fE;obtain ⟨b',e',m,Ca,T,f,x,k1,k2,k3,k4,k5,k6⟩:=hc;rcases At.xo (I:=I) (w':=w') (l':=l') ha hw hl dm m9 q b' e' m k1 with ⟨r,z1,z2,e2,m2,z3,_⟩|⟨r,z1,z2,z3,z4⟩|⟨z1,z2,z3,z4⟩
    ·cases r with
     | nil=>
      cases z3;rw[j4] at z1;subst z1;obtain ⟨w1,w2,w3⟩:=ha.fun k1;subst w2;subst w3;obtain ⟨BR,g1,g2⟩:=xp [] i' c' t v ea l0 (by simpa using bf) (by simpa using hv) ht ⟨_,_,_,Ca,T,f,x,.here,k2,k3,k4,k5,k6⟩;refine ⟨BR,g1,?_⟩;obtain ⟨b5,e5,kb,C5,T5,f5,x5,q1,q2,q3,q4,q5,q6⟩:=g2;cases q1;exact ⟨_,_,_,C5,T5,f5,x5,z2,q2,q3,q4,q5,q6⟩
     | cons a r=>
      cases z3 with
      | @step _ i2 c2 b3 len cap _ _ t3 QY _ _ iX _ r Ca3 T3 f3 x3 g1 g2 g3 g4 g5 g6 g7 g8=>
       have aA:b'≠b1:=by
        intro e;subst e;have:=m9 _ _ _ k1;rw[this] at z1;have:=congrArg List.length z1;simp at this
       have oK:(parts P e' x3)[c2]? =some (.list QY iX):=by rw[ri g3,g5,rj g4]
       rw[BQ g2 oK] at z2;have QW: ∃x2,(m.set i2 (dP P e' ((parts P e' x3).set c2 (.list QY (setRow P l' QY iX r)))))[i']? =some x2:=by
        have:i'<m.length:=(cL.1 k3).1;exact ⟨_,cp (by rw[wR];exact this)⟩
       obtain ⟨x2,na⟩:=QW;obtain ⟨x0,y1,y2⟩:=E7 (dm _ _ _ _ k1) g2 g3 na k4;rw[k3] at y1;cases y1;have g8l:=(ha.fun ((k1.app (.step g1 g2 g3 g4 g5 g6 g7 g8)) |> fun h=>by rw[z1];exact h)).2.2;by_cases js:i'=i2∧c'=c2
       ·rw[ah js] at y2;obtain ⟨rfl,rfl⟩:=js;rw[k3] at g2;cases g2;rw[k5] at g5;cases g5;exact ⟨_,QR g8 (by rw[hl,g8l]),b',e',_,Ca,T,f,x2,z2,(hw b' aA).trans k2,na,k4,y2,k6⟩
       ·rw[ag js,k5] at y2;exact ⟨l0,rfl,b',e',_,Ca,T,f,x2,z2,(hw b' aA).trans k2,na,k4,y2,k6⟩
    ·subst z2;obtain ⟨BR,g1,g2⟩:=xp r i' c' t v ea l0 bf hv ht ⟨_,_,_,Ca,T,f,x,z3,k2,k3,k4,k5,k6⟩;obtain ⟨b5,e5,kb,C5,T5,f5,x5,q1,q2,q3,q4,q5,q6⟩:=g2;exact ⟨BR,g1,_,_,_,C5,T5,f5,x5,z4 _ _ _ q1,q2,q3,q4,q5,q6⟩
    ·exact ⟨l0,rfl,b',e',m,Ca,T,f,x,z1,(hw b' z2).trans k2,k3,k4,k5,k6⟩
   ·rw[cK _ _ hi,h] at h';cases h';exact ⟨l0,rfl,hc.mono fun _ _ _ _ hh=>same hi h (.row fE hh)⟩
 have hold: ∀{ax cM b'},av hp id (some (.nest e0 (setRow P l' e0 es path) vers')) ax=some cM→bB P w' (β ax) cM b'→
   (∃kB,hp ax=some kB∧bB P w (β ax) kB b')∨(ax=id∧(M b'∨B≤b')∧∀bD cM,hp bD=some cM→¬bB P w (β bD) cM b'):=by
  intro ax cM b' h ho;by_cases hi:ax=id
  ·subst hi;rw[bW] at h;cases h;rcases sB b' ho with h|h
   ·exact .inl ⟨_,ab,h⟩
   ·exact .inr ⟨rfl,h⟩
  ·rw[cK _ _ hi] at h;exact .inl ⟨cM,h,ho.mono fun b2 rl=>same hi h rl⟩
 refine ⟨hle,⟨⟨fun ax cM h=> ?_,fun i1 i2 b1 b2 b' h1 h2 o1 o2=> ?_,fun ax cM b' h ho=> ?_,fun b' h=>by rw[br];exact S.h.jK b' h⟩,fun b' h1 h2=> ?_,by rw[br];exact S.size,S.new,⟨mZ.1.trans S.io.1,mZ.2.trans S.io.2⟩⟩⟩
 ·by_cases hi:ax=id
  ·subst hi;rw[bW] at h;cases h;rw[hb];refine .nest rfl (fun q b' e' m h=> ?_) (fun q1 q2 b' f1 m1 f2 m2 h1 h2=> ?_)
   ·rcases xo q b' e' m h with ⟨r,m0,z1,z2,z3⟩|⟨r,z1,z2,z3⟩|⟨z1,z2,z3,z4⟩
    ·subst z3;subst z1;obtain ⟨b5,e5,m5,g1,g2⟩:=At.split ha;obtain ⟨w1,w2,w3⟩:=g1.fun z2;subst w1;subst w2;subst w3;cases r with
     | nil=>cases g2;exact aj2
     | cons a r=>
      cases g2 with
      | step g1' g2 g3 g4 g5 g6 g7 g8=>
       refine (dm _ _ _ _ z2).above g1' g2 g3 g4 g5 g6 g7 g8 hl (hw _ fun e=> ?_) xq iq;subst e;have:=m9 _ _ _ z2;have:=congrArg List.length this;simp at this
    ·cases r with
     | nil=>exact absurd rfl z1
     | cons a r=>
      obtain ⟨y1,y2⟩:=ZG a r b' e' m z3;rcases y2 with y2|⟨rfl,y2⟩
      ·exact (dm _ _ _ _ (ha.app y2)).cZ (hw _ y1) xq iq
      ·exact (hK _ _ _ _ y2).1.cZ (hw _ y1) xq iq
    ·exact (dm _ _ _ _ z1).cZ (hw _ z2) xq iq
   ·rcases QX _ _ _ _ h1 with ⟨e2,m2',x1⟩|⟨r1,x1,x2⟩<;>rcases QX _ _ _ _ h2 with ⟨e3,m3',y1⟩|⟨r2,y1,y2⟩
    ·exact lM _ _ _ _ _ _ _ x1 y1
    ·exact absurd (bB.row hb x1) ((hK _ _ _ _ y2).2.2 _ _ ab)
    ·exact absurd (bB.row hb y1) ((hK _ _ _ _ x2).2.2 _ _ ab)
    ·rw[x1,y1,tP _ _ _ _ _ _ _ x2 y2]
  ·rw[cK _ _ hi] at h;exact (S.h.rel ax cM h).mono hle fun b' ho=>⟨same hi h ho,fun _ h=>h⟩
 ·rcases hold h1 o1 with ⟨c1,x1,y1⟩|⟨rfl,x1,y1⟩<;>rcases hold h2 o2 with ⟨c2,x2,y2⟩|⟨rfl,x2,y2⟩
  ·exact S.h.inj i1 i2 c1 c2 b' x1 x2 y1 y2
  ·exact absurd y1 (y2 _ _ x1)
  ·exact absurd y2 (y1 _ _ x2)
  ·rfl
 ·rcases hold h ho with ⟨c1,x1,y1⟩|⟨rfl,x1,y1⟩
  ·exact S.h.own ax c1 b' x1 y1
  ·exact x1
 ·rw[hw b' fun e=> ?_]
  ·exact S.cZ b' h1 h2
  ·subst e;rcases S.h.own id _ b' ab ZH with h|h
   ·exact h2 h
   ·omega
theorem aj3 {i i' n c c' k:Nat} (hc':c'<n) (qo:c+k≤n) (h1:i*n+c≤i'*n+c') (h2:i'*n+c'<i*n+c+k):i'=i∧c≤c'∧c'<c+k:=by
 have:i'=i:=by
  rcases Nat.lt_trichotomy i' i with h|h|h
  ·have:=eM n (Nat.succ_le_of_lt h);rw[yD] at this;omega
  ·exact h
  ·have:=eM n (Nat.succ_le_of_lt h);rw[yD] at this;omega
 subst this;omega
theorem aj4 {b1 i c:Nat} {e1 T:TypeId} {l cs:List V} {x0:V} {Ca:Array Value} {vs:List Value} (hR:iB P w I b1 e1 l) (hh:w.heap[b1]? =some (.cells Ca T (0,0))) (hs:l.length*P.cellsOf e1≤Ca.size)
  (hx:l[i]? =some x0) (hk:cs.length=vs.length) (qo:c+cs.length≤P.cellsOf e1):
  ∀{i' c':Nat} {x':V} {t':TypeId},(l.set i (dP P e1 (jg (parts P e1 x0) c cs)))[i']? =some x'→(bc P e1)[c']? =some t'→
   ∃x1,l[i']? =some x1∧((∃j y u,i'=i∧c'=c+j∧cs[j]? =some y∧vs[j]? =some u∧cu P e1 x' c'=y∧(Ca.toList.take (i*P.cellsOf e1+c)++(vs++Ca.toList.drop (i*P.cellsOf e1+c+vs.length))).toArray[i'*P.cellsOf e1+c']? =some u)∨
    (cu P e1 x' c'=cu P e1 x1 c'∧(Ca.toList.take (i*P.cellsOf e1+c)++(vs++Ca.toList.drop (i*P.cellsOf e1+c+vs.length))).toArray[i'*P.cellsOf e1+c']? =Ca[i'*P.cellsOf e1+c']?)):=by
 intro i' c' x' t' dy gb;have pq:i<l.length:=(cL.1 hx).1;have Lj:c'<P.cellsOf e1:=by rw[←fM hR.ok];exact (cL.1 gb).1
 have fT:(parts P e1 x0).length=P.cellsOf e1:=by rw[BO];exact fM hR.ok
 have hbound:i*P.cellsOf e1+c+vs.length≤Ca.toList.length:=by
  have:(i+1)*P.cellsOf e1≤l.length*P.cellsOf e1:=eM _ pq;rw[kq] at this;simp only[Array.length_toList];omega
 simp only[nJ];rw[rn _ _ _ _ hbound];by_cases fu:i'=i∧c≤c'∧c'<c+cs.length
 ·obtain ⟨rfl,h1,h2⟩:=fu;rw[yE pq] at dy;cases dy;refine ⟨x0,hx,.inl ?_⟩;rw[cf,bp,show i'*P.cellsOf e1+c'-(i'*P.cellsOf e1+c)=c'-c by omega];have hy:cs[c'-c]? =some cs[c'-c]:=cp (by omega);have hu:vs[c'-c]? =some vs[c'-c]:=cp (by omega);refine ⟨c'-c,_,_,rfl,by omega,hy,hu,?_,hu⟩;refine vw ?_ gb;unfold jg;rw[rn _ _ _ _ (by omega),cf,bp];exact hy
 ·have ayY: ¬(i*P.cellsOf e1+c≤i'*P.cellsOf e1+c'∧i'*P.cellsOf e1+c'<i*P.cellsOf e1+c+vs.length):=fun h=>fu (aj3 Lj qo h.1 (by omega));have hg:(if i'*P.cellsOf e1+c'<i*P.cellsOf e1+c then Ca.toList[i'*P.cellsOf e1+c']? else if i'*P.cellsOf e1+c'<i*P.cellsOf e1+c+vs.length then vs[i'*P.cellsOf e1+c'-(i*P.cellsOf e1+c)]? else Ca.toList[i'*P.cellsOf e1+c']?)=Ca[i'*P.cellsOf e1+c']? :=by
   by_cases h1:i'*P.cellsOf e1+c'<i*P.cellsOf e1+c
   ·rw[ah h1];simp
   ·rw[ag h1,cf];simp
  by_cases hi:i'=i
  ·subst hi;rw[yE pq] at dy;cases dy;refine ⟨x0,hx,.inr ⟨?_,hg⟩⟩;have h1:(jg (parts P e1 x0) c cs)[c']? =some (ik P t' (cu P e1 x0 c')):=by
    unfold jg;rw[rn _ _ _ _ (by omega)];by_cases h1:c'<c
    ·rw[ah h1];exact ri gb
    ·rw[ag h1,cf];exact ri gb
   rw[vw h1 gb];obtain ⟨za,_,_,_,_,vy⟩:=hR.cells;obtain ⟨v,_,ho⟩:=vy i' c' x0 t' hx gb Lj;exact ho.xm
  ·rw[D5 (fun h=>hi h.symm)] at dy;exact ⟨x',dy,.inr ⟨rfl,hg⟩⟩
theorem aj5 {w:World} {b1:Nat} {Ca Cb:Array Value} {T:TypeId} (hh:w.heap[b1]? =some (.cells Ca T (0,0))) (hs:Cb.size=Ca.size) (k:Nat):bsize (w.setRow b1 Cb) k=bsize w k:=by
 by_cases hk:k=b1
 ·subst hk;rw[lb (setRow_heap w k Ca Cb T (0,0) hh),lb hh,hs]
 ·simp only[bsize,setRow_other w b1 k Cb hk]
theorem Lk (S:aB P w I β hp B M w0) {t:TypeId} {v:Value} {id b b1 i c:Nat} {e0 e1:TypeId} {es l cs:List V} {vers vers':List Nat} {path:Path} {x0:V} (K:Path→Nat→TypeId→List V→Prop)
  (ab:hp id=some (.nest e0 es vers)) (hb:β id=some b) (ha:At P w b e0 es path b1 e1 l) (ht:qg P t=true) (hn:P.cellsOf t=v.cells.size)
  (hx:l[i]? =some x0) (hk:cs.length=v.cells.size) (qo:c+cs.length≤P.cellsOf e1) (h1: ∀u∈v.cells.toList,u.oneCell'=true)
  (dU: ∀(j:Nat) y u t',cs[j]? =some y→v.cells.toList[j]? =some u→(bc P e1)[c+j]? =some t'→pj P w I t' u y)
  (aj6: ∀(j:Nat) y u t' e3 iX b3 len cap,cs[j]? =some y→v.cells.toList[j]? =some u→(bc P e1)[c+j]? =some t'→P.underlying t'=some (.slice e3)→y= .list e3 iX→0<cap→
   u= .slice (some ⟨b3,0,none⟩) len cap→j=0∧∀r b' e' m,At P w b3 e3 iX r b' e' m→b'≠b1∧K r b' e' m)
  (hK: ∀r b' e' m,K r b' e' m→iB P w I b' e' m∧(M b'∨B≤b')∧(∀bD cM,hp bD=some cM→¬bB P w (β bD) cM b'))
  (tP: ∀r1 r2 b' e1 m1 e2 m2,K r1 b' e1 m1→K r2 b' e2 m2→r1=r2)
  (y5:vers'.length=vers.length) (EP: ∀k,bM vers k≤bM vers' k)
  (iO:(∀(j:Nat) t',j<cs.length→(bc P e1)[c+j]? =some t'→ez P t'=true)∨∀k,path.length≤k→k<vers.length→bM vers' k≠bM vers k):
  ∃w',(Instr.storeAt t (.pointer (some ⟨b1,i*P.cellsOf e1+c,none⟩)) v).run P w= .ok () w'∧
   Le P w I β hp w' I β (av hp id (some (.nest e0 (setRow P (l.set i (dP P e1 (jg (parts P e1 x0) c cs))) e0 es path) vers')))∧
   aB P w' I β (av hp id (some (.nest e0 (setRow P (l.set i (dP P e1 (jg (parts P e1 x0) c cs))) e0 es path) vers'))) B M w0:=by
 have hR:=S.rows ab hb ha;obtain ⟨Ca,T,hh,hL,hs,vy⟩:=hR.cells;have pq:i<l.length:=(cL.1 hx).1;have eP:cs.length=v.cells.toList.length:=by simpa using hk
 have QP:i*P.cellsOf e1+c+v.cells.size≤Ca.size:=by
  have:(i+1)*P.cellsOf e1≤l.length*P.cellsOf e1:=eM _ pq;rw[kq] at this;omega
 have da:=Lg (t:=t) (o:=i*P.cellsOf e1+c) (v:=v) ht hn hh QP h1;have hlen:(Ca.toList.take (i*P.cellsOf e1+c)++(v.cells.toList++Ca.toList.drop (i*P.cellsOf e1+c+v.cells.toList.length))).length=Ca.size:=by
  rw[E4 _ _ _ (by simpa using QP)];simp
 have cn:= @aj4 P w I b1 i c e1 T l cs x0 Ca v.cells.toList hR hh hs hx eP qo;have dI:=hR.nI;have hr:=S.h.rel id _ ab;rw[hb] at hr;cases hr with
 | iN aA=>cases aA
 | nest aA dm lM=>
 cases aA;have m9: ∀q e' m,At P w b1 e1 l q b1 e' m→q=[]:=by
  intro q e' m h;have:=lM _ _ _ _ _ _ _ (ha.app h) ha;simpa using this
 have vA:=setRow_heap w b1 Ca (Ca.toList.take (i*P.cellsOf e1+c)++(v.cells.toList++Ca.toList.drop (i*P.cellsOf e1+c+v.cells.toList.length))).toArray T (0,0) hh;have iq:=aj5 hh (Cb:=(Ca.toList.take (i*P.cellsOf e1+c)++(v.cells.toList++Ca.toList.drop (i*P.cellsOf e1+c+v.cells.toList.length))).toArray) (by simpa using hlen);have tQ:=fun k (hk:k≠b1)=>setRow_other w b1 k (Ca.toList.take (i*P.cellsOf e1+c)++(v.cells.toList++Ca.toList.drop (i*P.cellsOf e1+c+v.cells.toList.length))).toArray hk;generalize zi:(Ca.toList.take (i*P.cellsOf e1+c)++(v.cells.toList++Ca.toList.drop (i*P.cellsOf e1+c+v.cells.toList.length))).toArray=Cb at*
 generalize hL':l.set i (dP P e1 (jg (parts P e1 x0) c cs))=l' at*
 have nX:l'.length=l.length:=by rw[←hL'];simp
 have xq: ∀k j,I k j→(w.setRow b1 Cb).cell? ⟨k,j,none⟩=w.cell? ⟨k,j,none⟩:=fun k j hk=>World.cell?_of_block (tQ k (fun e=>dI j (e▸hk)));refine ⟨_,da,aj1 S (i:=i) (c:=c) K ab hb ha nX tQ iq (by simp) ⟨rfl,rfl⟩ ?_ ?_ hK tP y5 EP ?_⟩
 ·refine ⟨hR.ok,⟨Cb,T,vA,(show Cb.size=Ca.size by rw[←zi];simpa using hlen)▸hL,by rw[nX,←zi];simp only[rZ];omega,fun i' j x' t' k1 k2 k3=> ?_⟩,dI⟩;obtain ⟨x1,y1,y2⟩:=cn k1 k2;rcases y2 with ⟨jj,y,u,rfl,rfl,z1,z2,z3,z4⟩|⟨z3,z4⟩
  ·exact ⟨u,z4,by rw[z3];exact (dU jj y u t' z1 z2 k2).mono (fun _ _ h=>h) xq fun _ _ _ _ _=>iq _⟩
  ·obtain ⟨v1,m1,m2⟩:=vy i' j x1 t' y1 k2 k3;exact ⟨v1,z4.trans m1,by rw[z3];exact m2.mono (fun _ _ h=>h) xq fun _ _ _ _ _=>iq _⟩
 ·intro a r b' e' m h;obtain ⟨i',c'⟩:=a;cases h with
  | step k1 k2 k3 k4 k5 k6 k7 k8=>
   rw[vA] at k1;cases k1;obtain ⟨x1,y1,y2⟩:=cn k2 k3;rcases y2 with ⟨jj,y,u,rfl,rfl,z1,z2,z3,z4⟩|⟨z3,z4⟩
   ·rw[k7] at z4;obtain ⟨g1,g2⟩:=aj6 jj y u _ _ _ _ _ _ z1 z2 k3 k4 (z3.symm.trans k5) k6 (eo z4).symm;subst g1;have lh:=k8.xg (w:=w) fun q2 b5 e5 kb hq=>tQ b5 (g2 _ _ _ _ hq).1;exact ⟨(g2 _ _ _ _ lh).1,.inr ⟨rfl,(g2 _ _ _ _ lh).2⟩⟩
   ·rw[k5] at z3;rw[k7] at z4;have cm: ∀q2 b5 e5 kb,At P w _ _ _ q2 b5 e5 kb→b5≠b1:=fun q2 b5 e5 kb hq zh=>by
     subst zh;have:=m9 _ _ _ (.step hh y1 k3 k4 z3.symm k6 z4.symm hq);cases this
    have lh:=k8.xg (w:=w) fun q2 b5 e5 kb hq=>tQ b5 (cm q2 b5 e5 kb hq);exact ⟨cm _ _ _ _ lh,.inl (.step hh y1 k3 k4 z3.symm k6 z4.symm lh)⟩
 ·intro r i' c' t' v' ea l0 bf QZ nY hc;rcases iO with iO|iO
  ·
   have ft: ∀{i' c' x1 t' e3},l[i']? =some x1→(bc P e1)[c']? =some t'→P.underlying t'=some (.slice e3)→∃x',l'[i']? =some x'∧cu P e1 x' c'=cu P e1 x1 c'∧Cb[i'*P.cellsOf e1+c']? =Ca[i'*P.cellsOf e1+c']? :=by
    intro i' c' x1 t' e3 g1 g2 g3;have bf:i'<l'.length:=by rw[nX];exact (cL.1 g1).1
    have dy:=cp bf;obtain ⟨x2,y1,y2⟩:=cn dy g2;rw[g1] at y1;cases y1;rcases y2 with ⟨jj,y,u,rfl,rfl,z1,z2,z3,z4⟩|⟨z3,z4⟩
    ·have:=iO jj t' (cL.1 z1).1 g2;unfold ez at this;rw[g3] at this;cases this
    ·exact ⟨_,dy,z3,z4⟩
   obtain ⟨b',e',m,C5,T,f,x,k1,k2,k3,k4,k5,k6⟩:=hc;refine ⟨l0,rfl,?_⟩;cases k1 with
   | here=>
    rw[hh] at k2;cases k2;obtain ⟨x',g1,g2,g3⟩:=ft k3 k4 nY;exact ⟨_,_,l',Cb,_,_,x',.here,vA,g1,k4,g2.trans k5,g3.trans k6⟩
   | step q1 q2 q3 q4 q5 q6 q7 q8=>
    have q1':=q1;rw[hh] at q1;cases q1;obtain ⟨x',g1,g2,g3⟩:=ft q2 q3 q4;have cm: ∀q2 b5 e5 kb,At P w _ _ _ q2 b5 e5 kb→b5≠b1:=fun q9 b5 e5 kb hq zh=>by
     subst zh;have:=m9 _ _ _ (.step hh q2 q3 q4 q5 q6 q7 hq);cases this
    have lh:=q8.mono (w':=w.setRow b1 Cb) fun q2 b5 e5 kb hq=>tQ b5 (cm q2 b5 e5 kb hq);exact ⟨b',e',m,C5,T,f,x,.step vA g1 q3 q4 (g2.trans q5) q6 (g3.trans q7) lh,(tQ _ (cm _ _ _ _ q8)).trans k2,k3,k4,k5,k6⟩
  ·exact absurd QZ (iO _ (by simp) bf)
theorem E8: ∀(vs:List Nat) (d k:Nat),d≤k→k<vs.length→bM (raise d vs) k=bM vs k+1
 | [],d,k,_,h=>by simp at h
 | v::vs,0,0,_,_=>by simp[raise,bM]
 | v::vs,0,k+1,_,h=>by
  have:=E8 vs 0 k (nK _) (by simpa using h);simpa[raise,bM] using this
 | v::vs,d+1,0,h,_=>by omega
 | v::vs,d+1,k+1,h,h2=>by
  have:=E8 vs d k (by omega) (by simpa using h2);simpa[raise,bM] using this
theorem Ll: ∀(vs:List Nat) (d:Nat),(raise d vs).length=vs.length
 | [],0=>rfl
 | [],d+1=>rfl
 | v::vs,0=>by simp[raise]
 | v::vs,d+1=>by simp[raise,Ll vs d]
theorem E9: ∀(vs:List Nat) (d k:Nat),bM vs k≤bM (raise d vs) k
 | [],0,k=>by simp[raise,bM]
 | [],d+1,k=>by simp[raise,bM]
 | v::vs,0,0=>by simp[raise,bM]
 | v::vs,0,k+1=>by
  have:=E9 vs 0 k;simpa[raise,bM] using this
 | v::vs,d+1,0=>by simp[raise,bM]
 | v::vs,d+1,k+1=>by
  have:=E9 vs d k;simpa[raise,bM] using this
theorem aj7 {t:TypeId} {v:Value} {x:V} (hv:ai P w I β hp v x) (h:fq P t x=true) (hs:ez P t=true):Pure P w I t v x:=by
 unfold ez at hs;unfold fq at h;cases hu:P.underlying t with
 | none=>rw[hu] at hs;cases hs
 | some d=>
  rw[hu] at hs h;cases d<;>simp only at hs<;>first|(cases hs;done)|skip
  all_goals cases x<;>simp only at h<;>first|(cases h;done)|skip
  ·rw[hv.m7];exact .bool hu
  ·simp only[fo] at h;subst h;rw[hv.gF];exact .int hu
  ·obtain ⟨s,rfl,hl⟩:=hv.po;exact .str hu hl
def Q0 (P:Program) (w:World) (I:Nat→Nat→Prop) (o:Option Nat) (blk:af) (b2:Nat) (e2:TypeId) (cb:List V):Prop:=
 (∀r b' e' m,At P w b2 e2 cb r b' e' m→iB P w I b' e' m∧bB P w o blk b')∧∀r1 r2 b' e1 m1 Lm m2,At P w b2 e2 cb r1 b' e1 m1→At P w b2 e2 cb r2 b' Lm m2→r1=r2
theorem Q1 (S:aB P w I β hp B M w0) {bD b2:Nat} {e2:TypeId} {cb:List V} (ab:hp bD=some (.arr e2 cb false)) (hb:β bD=some b2) (hs:(flat P e2).all (ez P)=true):
  Q0 P w I (β bD) (.arr e2 cb false) b2 e2 cb:=by
 have only: ∀r b' e' m,At P w b2 e2 cb r b' e' m→r=[]:=by
  intro r b' e' m h;cases h with
  | here=>rfl
  | step h1 h2 h3 h4 h5 h6 h7 h8=>
   rw[sw] at h3;have:=gD.1 hs _ (mU h3);unfold ez at this;rw[h4] at this;cases this
 refine ⟨fun r b' e' m h=> ?_,fun r1 r2 b' e1 m1 Lm m2 h1 h2=>by rw[only _ _ _ _ h1,only _ _ _ _ h2]⟩;have:=only _ _ _ _ h;subst this;cases h;have hr:=S.h.rel bD _ ab;cases hr with
 | eZ aA=>rw[hb] at aA;cases aA
 | arr hL aw aA hh br hf fR hx=>
  rw[hb] at aA;cases aA;refine ⟨⟨aw,⟨_,_,hh,hL,br,fun i j x t' k1 k2 k3=> ?_⟩,fR rfl⟩,.root (by simp) hb⟩;obtain ⟨v,m1,m2⟩:=hx i j x t' k1 k2 k3;refine ⟨v,m1,.gv ?_ m2⟩;rw[sw] at k2;exact gD.1 hs _ (mU k2)
theorem aj8 (S:aB P w I β hp B M w0) {bD b2:Nat} {e2:TypeId} {cb:List V} {sr:List Nat} (ab:hp bD=some (.nest e2 cb sr)) (hb:β bD=some b2):
  Q0 P w I (β bD) (.nest e2 cb sr) b2 e2 cb:=by
 have hr:=S.h.rel bD _ ab;cases hr with
 | iN aA=>rw[hb] at aA;cases aA
 | nest aA dm lM=>
  rw[hb] at aA;cases aA;exact ⟨fun r b' e' m h=>⟨dm _ _ _ _ h,.row hb h⟩,fun r1 r2 b' e1 m1 Lm m2 h1 h2=>lM _ _ _ _ _ _ _ h1 h2⟩
theorem ZI {c:Nat} {e1 e2 t':TypeId} (h:(((flat P e1).drop c).take 1).all (fun u=>match P.underlying u with|some (.slice e3)=>Nat.beq e2 e3|_=>false)=true) (ht:(bc P e1)[c]? =some t'):
  P.underlying t'=some (.slice e2):=by
 rw[sw] at ht;have hm:t'∈((flat P e1).drop c).take 1:=by
  refine mU (i:=0) ?_;rw[iJ (by omega),qU];simpa using ht
 have:=gD.1 h _ hm;split at this
 ·rename_i e3 hu;rw[aZ] at this;rw[hu,this]
 ·cases this
theorem ZJ (S:aB P w I β hp B M w0) {t:TypeId} {v:Value} {id bD b b1 i c:Nat} {e0 e1 e2:TypeId} {es l cb:List V} {vers:List Nat} {path:Path} {x0:V} {cM:af}
  (ab:hp id=some (.nest e0 es vers)) (hb:β id=some b) (ha:At P w b e0 es path b1 e1 l) (ht:qg P t=true) (hn:P.cellsOf t=1)
  (hx:l[i]? =some x0) (qo:c+1≤P.cellsOf e1) (Fa:(((flat P e1).drop c).take 1).all (fun u=>match P.underlying u with|some (.slice e3)=>Nat.beq e2 e3|_=>false)=true)
  (dE:hp bD=some cM) (cm:id≠bD)
  (hv:((∃a,v= .slice a 0 0)∧cb=[])∨∃b2 cap,v= .slice (some ⟨b2,0,none⟩) cb.length cap∧cap*P.cellsOf e2=bsize w b2∧cb.length≤cap∧cap≤maxLen∧Q0 P w I (β bD) cM b2 e2 cb):
  sD P ((Instr.storeAt t (.pointer (some ⟨b1,i*P.cellsOf e1+c,none⟩)) v).run P w) w I β hp B M w0
   ⟨.undef,[(id,.nest e0 (setRow P (l.set i (dP P e1 (jg (parts P e1 x0) c [.list e2 cb]))) e0 es path) (raise path.length vers)),(bD,.dead)]⟩:=by
 obtain ⟨tR,S1⟩:=xl S dE;have sF:av hp bD (some .dead) id=some (.nest e0 es vers):=by rw[cK _ _ cm];exact ab
 have vy:v.cells= #[v]:=by rcases hv with ⟨⟨_,rfl⟩,_⟩|⟨b2,cap,rfl,_⟩<;>rfl
 have sG:v.oneCell'=true:=by rcases hv with ⟨⟨_,rfl⟩,_⟩|⟨b2,cap,rfl,_⟩<;>rfl
 have free: ∀b',bB P w (β bD) cM b'→(M b'∨B≤b')∧∀Ln kB,av hp bD (some .dead) Ln=some kB→¬bB P w (β Ln) kB b':=by
  intro b' ho;refine ⟨S.h.own bD cM b' dE ho,fun Ln kB h3 ZK=> ?_⟩;by_cases hi:Ln=bD
  ·subst hi;rw[bW] at h3;cases h3;exact ZK.alive rfl
  ·rw[cK _ _ hi] at h3;exact hi (S.h.inj _ _ _ _ b' h3 dE ZK ho)
 have lO: ∀b',bB P w (β bD) cM b'→b'≠b1:=by
  intro b' ho e;subst e;exact cm (S.h.inj _ _ _ _ b' ab dE (.row hb ha) ho)
 have dU: ∀(j:Nat) y u t',[V.list e2 cb][j]? =some y→v.cells.toList[j]? =some u→(bc P e1)[c+j]? =some t'→j=0∧y= .list e2 cb∧u=v∧P.underlying t'=some (.slice e2):=by
  intro j y u t' k1 k2 k3;cases j with
  | succ j=>simp at k1
  | zero=>
   rw[vy] at k2;simp at k1 k2;exact ⟨rfl,k1.symm,k2.symm,ZI Fa k3⟩
 rcases hv with ⟨⟨a0,rfl⟩,rfl⟩|⟨b2,cap,rfl,v1,v2,v3,v4⟩
 ·obtain ⟨w',r1,r2,r3⟩:=Lk S1 (vers':=raise path.length vers) (fun _ _ _ _=>False) sF hb ha ht (v:= .slice a0 0 0) hn hx (cs:=[.list e2 []]) rfl qo (by rw[vy];simp[sG])
   (fun j y u t' k1 k2 k3=>by obtain ⟨rfl,rfl,rfl,k4⟩:=dU j y u t' k1 k2 k3;exact .emp k4)
   (fun j y u t' e3 iX b3 len cap k1 k2 k3 k4 k5 k6=>by obtain ⟨rfl,rfl,rfl,k7⟩:=dU j y u t' k1 k2 k3;intro k8;cases k8;exact absurd k6 (nG _))
   (fun _ _ _ _ h=>h.elim) (fun _ _ _ _ _ _ _ h=>h.elim) (Ll _ _) (E9 _ _) (.inr fun k h1 h2=>by rw[E8 _ _ _ h1 h2];omega)
  exact ⟨w',I,β,r1,tR.trans r2,r3,rfl⟩
 ·obtain ⟨w',r1,r2,r3⟩:=Lk S1 (vers':=raise path.length vers) (fun r b' e' m=>At P w b2 e2 cb r b' e' m) sF hb ha ht (v:= .slice (some ⟨b2,0,none⟩) cb.length cap) hn hx (cs:=[.list e2 cb]) rfl qo (by rw[vy];simp[sG])
   (fun j y u t' k1 k2 k3=>by
    obtain ⟨rfl,rfl,rfl,k4⟩:=dU j y u t' k1 k2 k3;rcases Nat.eq_zero_or_pos cap with h0|h0
    ·subst h0;obtain rfl:=wM.1 (tA.1 v2);exact .emp k4
    ·exact .row k4 h0 v1 v2 v3)
   (fun j y u t' e3 iX b3 len cap k1 k2 k3 k4 k5 k6 k8=>by
    obtain ⟨rfl,rfl,rfl,k7⟩:=dU j y u t' k1 k2 k3;cases k5;cases k8;exact ⟨rfl,fun r b' e' m h=>⟨lO _ (v4.1 _ _ _ _ h).2,h⟩⟩)
   (fun r b' e' m h=>⟨(v4.1 _ _ _ _ h).1,free _ (v4.1 _ _ _ _ h).2⟩) (fun r1 r2 b' e1 m1 Lm m2 h1 h2=>v4.2 _ _ _ _ _ _ _ h1 h2) (Ll _ _) (E9 _ _) (.inr fun k h1 h2=>by rw[E8 _ _ _ h1 h2];omega)
  exact ⟨w',I,β,r1,tR.trans r2,r3,rfl⟩
theorem ZL (S:aB P w I β hp B M w0) {t:TypeId} {v:Value} {x:V} {r:R} {rd:List Nat} {id b b1 i c:Nat} {e0 e1:TypeId} {es l:List V} {vers:List Nat} {path:Path}
  (ht:qg P t=true) (hn:x.cells.length=P.cellsOf t) (hv:ai P w I β hp v x) (ab:hp id=some (.nest e0 es vers)) (hb:β id=some b) (ha:At P w b e0 es path b1 e1 l)
  (h:(KD P t id e0 es vers path i c x).run C hp=some (r,rd)):sD P ((Instr.storeAt t (.pointer (some ⟨b1,i*P.cellsOf e1+c,none⟩)) v).run P w) w I β hp B M w0 r:=by
 unfold KD at h;obtain ⟨bf,h⟩:=aH h;rw[oC] at bf;obtain ⟨e',vv,q1,q2,h⟩:=BK h;obtain ⟨p1,p2⟩:=QC ha;rw[p1] at q1;cases q1;rw[p2] at q2;cases q2;simp only[V.toList] at h;obtain ⟨aw,h⟩:=aH h;obtain ⟨x0,sH,h⟩:=oH h;obtain ⟨qo,h⟩:=aH h;rw[fp] at qo;have slice: ∀e2,P.underlying t=some (.slice e2)→
   ((((Rd.aD ((((flat P e1).drop c).take x.cells.length).all fun u=>match P.underlying u with|some (.slice e3)=>Nat.beq e2 e3|_=>false) (
     match (generalizing:=false) x with
     | .nilS e3=> .aD (Nat.beq e2 e3) (.ret ⟨.undef,[(id,.nest e0 (setRow P (l.set i (dP P e1 (jg (parts P e1 x0) c [.list e2 []]))) e0 es path) (raise path.length vers))]⟩)
     | .whole e3 bD=> .get bD fun
      | some (.arr e4 cb false)=> .aD (Nat.beq e2 e3&&(Nat.beq e3 e4&&(!(Nat.beq id bD)&&(flat P e2).all (ez P))))
        (.ret ⟨.undef,[(id,.nest e0 (setRow P (l.set i (dP P e1 (jg (parts P e1 x0) c [.list e2 cb]))) e0 es path) (raise path.length vers)),(bD,.dead)]⟩)
      | some (.nest e4 cb _)=> .aD (Nat.beq e2 e3&&(Nat.beq e3 e4&& !(Nat.beq id bD)))
        (.ret ⟨.undef,[(id,.nest e0 (setRow P (l.set i (dP P e1 (jg (parts P e1 x0) c [.list e2 cb]))) e0 es path) (raise path.length vers)),(bD,.dead)]⟩)
      | _=> .fail
     | _=> .fail)):Rd R).run C hp))=some (r,rd)→
   sD P ((Instr.storeAt t (.pointer (some ⟨b1,i*P.cellsOf e1+c,none⟩)) v).run P w) w I β hp B M w0 r:=by
  intro e2 hu h;obtain ⟨Fa,h⟩:=aH h;cases x with
  | nilS e3=>
   obtain ⟨hc,h⟩:=aH h;obtain rfl:=ba h;rw[aZ] at hc;subst hc;cases hv with
   | @nilS _ a0=>
    obtain ⟨w',r1,r2,r3⟩:=Lk S (v:= .slice a0 0 0) (vers':=raise path.length vers) (fun _ _ _ _=>False) ab hb ha ht hn.symm sH (cs:=[.list e2 []]) rfl qo (by simp[Value.cells,Value.oneCell'])
     (fun j y u t' k1 k2 k3=>by
      cases j with
      | succ j=>simp at k1
      | zero=>
       simp[Value.cells] at k1 k2;subst k1;subst k2;exact .emp (ZI Fa k3))
     (fun j y u t' e3 iX b3 len cap k1 k2 k3 k4 k5 k6=>by
      cases j with
      | succ j=>simp at k1
      | zero=>simp[Value.cells] at k2;subst k2;intro k8;cases k8;exact absurd k6 (nG _))
     (fun _ _ _ _ h=>h.elim) (fun _ _ _ _ _ _ _ h=>h.elim) (Ll _ _) (E9 _ _) (.inr fun k h1 h2=>by rw[E8 _ _ _ h1 h2];omega)
    exact ⟨w',I,β,r1,r2,r3,rfl⟩
  | whole e3 bD=>
   obtain ⟨l1,h⟩:=run_get h;cases dE:hp bD with
   | none=>rw[dE] at h;cases h
   | some cM=>
    rw[dE] at h;cases cM with
    | dead=>cases h
    | var _=>cases h
    | map _ _=>cases h
    | out _ _ _ _=>cases h
    | arr e4 cb fz=>
     cases fz with
     | true=>cases h
     | false=>
      obtain ⟨hc,h⟩:=aH h;obtain rfl:=ba h;simp only[aK,aZ,nH] at hc;obtain ⟨rfl,rfl,cm,iO⟩:=hc;have Q2:id≠bD:=fun e=>by rw[e,mn] at cm;cases cm
      refine ZJ S ab hb ha ht hn.symm sH qo Fa dE Q2 ?_;cases hv with
      | eD ch=>rw[dE] at ch;cases ch
      | ep ch fE=>rw[dE] at ch;cases ch;exact .inl ⟨⟨_,rfl⟩,rfl⟩
      | whole ch fE cg hle sy=>
       rw[dE] at ch;cases ch;exact .inr ⟨_,_,rfl,cg,hle,sy,Q1 S dE fE iO⟩
      | eF ch=>rw[dE] at ch;cases ch
      | fD ch=>rw[dE] at ch;cases ch
      | ee ch=>rw[dE] at ch;cases ch
    | nest e4 cb sr=>
     obtain ⟨hc,h⟩:=aH h;obtain rfl:=ba h;simp only[aK,aZ,nH] at hc;obtain ⟨rfl,rfl,cm⟩:=hc;have Q2:id≠bD:=fun e=>by rw[e,mn] at cm;cases cm
     refine ZJ S ab hb ha ht hn.symm sH qo Fa dE Q2 ?_;cases hv with
     | eD ch=>rw[dE] at ch;cases ch
     | ep ch fE=>rw[dE] at ch;cases ch
     | whole ch=>rw[dE] at ch;cases ch
     | eF ch fE=>rw[dE] at ch;cases ch;exact .inl ⟨⟨_,rfl⟩,rfl⟩
     | fD ch=>rw[dE] at ch;cases ch
     | ee ch fE cg hle sy=>
      rw[dE] at ch;cases ch;exact .inr ⟨_,_,rfl,cg,hle,sy,aj8 S dE fE⟩
  | _=>cases h
 have gv:(((Rd.aD ((((flat P e1).drop c).take x.cells.length).all (ez P)&&u9 P (((flat P e1).drop c).take x.cells.length) x.cells)
   (.ret ⟨.undef,[(id,.nest e0 (setRow P (l.set i (dP P e1 (jg (parts P e1 x0) c x.cells))) e0 es path) vers)]⟩)):Rd R).run C hp)=some (r,rd)→
   sD P ((Instr.storeAt t (.pointer (some ⟨b1,i*P.cellsOf e1+c,none⟩)) v).run P w) w I β hp B M w0 r:=by
  intro h;obtain ⟨hc,h⟩:=aH h;obtain rfl:=ba h;simp only[aK] at hc;obtain ⟨hs,fk⟩:=hc;obtain ⟨tl,tg⟩:=zg fk;have Q3: ∀(j:Nat) t',j<x.cells.length→(bc P e1)[c+j]? =some t'→(((flat P e1).drop c).take x.cells.length)[j]? =some t':=by
   intro j t' hj gb;rw[iJ hj,qU];rw[sw] at gb;exact gb
  have sat: ∀(j:Nat) t',j<x.cells.length→(bc P e1)[c+j]? =some t'→ez P t'=true:=fun j t' hj gb=>
   gD.1 hs _ (mU (Q3 j t' hj gb))
  have rp:v.cells.size=x.cells.length∧∀(j:Nat) u y,v.cells.toList[j]? =some u→x.cells[j]? =some y→ai P w I β hp u y:=by
   have base:(∀xs,x≠ .agg xs)→x.cells=[x]→v.cells.size=x.cells.length∧∀(j:Nat) u y,v.cells.toList[j]? =some u→x.cells[j]? =some y→ai P w I β hp u y:=by
    intro _ tO;rw[tO] at tl tg Q3⊢;have h0:0<(((flat P e1).drop c).take [x].length).length:=by rw[tl];exact Nat.one_pos
    have fk:=tg 0 _ x (cp h0) rfl;obtain ⟨o1,o2⟩:=ZF hv fk;rw[o2];refine ⟨rfl,fun j u y hu hy=> ?_⟩;cases j with
    | zero=>simp at hu hy;subst hu;subst hy;exact hv
    | succ j=>simp at hy
   cases x with
   | agg xs=>
    obtain ⟨cs,rfl,h1,h2⟩:=hv.nW;exact ⟨h1,fun j u y a b=>h2 j u y (by simpa[Value.cells] using a) b⟩
   | _=>exact base (by simp) rfl
  have pure: ∀(j:Nat) u y t',v.cells.toList[j]? =some u→x.cells[j]? =some y→(bc P e1)[c+j]? =some t'→Pure P w I t' u y:=by
   intro j u y t' hu hy gb;have hj:=(cL.1 hy).1;exact aj7 (rp.2 j u y hu hy) (tg j t' y (Q3 j t' hj gb) hy) (sat j t' hj gb)
  obtain ⟨w',r1,r2,r3⟩:=Lk S (v:=v) (vers':=vers) (fun _ _ _ _=>False) ab hb ha ht (by rw[rp.1];exact hn.symm) sH rp.1.symm qo (fun u hu=>by
    obtain ⟨j,hj⟩:=tB hu;have ej:j<x.cells.length:=by rw[←rp.1];simpa using (cL.1 hj).1
    have sI:c+j<(bc P e1).length:=by rw[fM aw];omega
    have one: ∀t' y,Pure P w I t' u y→u.oneCell'=true:=by intro t' y h;cases h<;>rfl
    exact one _ _ (pure j u _ _ hj (cp ej) (cp sI)))
   (fun j y u t' k1 k2 k3=> .gv (sat j t' (cL.1 k1).1 k3) (pure j u y t' k2 k1 k3))
   (fun j y u t' e3 iX b3 len cap k1 k2 k3 k4 k5 k6=>by
    have:=sat j t' (cL.1 k1).1 k3;unfold ez at this;rw[k4] at this;cases this)
   (fun _ _ _ _ h=>h.elim) (fun _ _ _ _ _ _ _ h=>h.elim) rfl (fun _=>az _) (.inl fun j t' hj gb=>sat j t' hj gb)
  exact ⟨w',I,β,r1,r2,r3,rfl⟩
 cases hu:P.underlying t with
 | none=>rw[hu] at h;exact gv h
 | some d=>
  cases d with
  | slice e2=>rw[hu] at h;exact slice e2 hu h
  | _=>rw[hu] at h;exact gv h
end
section
variable {P:Program} {w w':World} {I I':Nat→Nat→Prop} {β β':Nat→Option Nat} {hp hp':Nat→Option af} {C:ae} {B:Nat} {M:Nat→Prop} {w0:Start}
theorem xr {e e1:TypeId} (h:rowOf P e=some e1):P.underlying e=some (.slice e1)∧cA P e=false∧dw P e=true∧dw P e1=true∧(flat P e1).all (ez P)=true:=by
 unfold rowOf at h;split at h
 ·rename_i e2 hu;cases hc:(!(cA P e)&&(dw P e&&(dw P e2&&(flat P e2).all (ez P)))) with
  | false=>rw[hc] at h;cases h
  | true=>
   rw[hc] at h;cases h;simp only[aK,nH] at hc;exact ⟨hu,hc.1,hc.2.1,hc.2.2.1,hc.2.2.2⟩
 ·cases h
theorem aj9 {e1:TypeId} (gS:(flat P e1).all (ez P)=true) {w:World} {b1 b':Nat} {e':TypeId} {l m:List V} {r:Path} (h:At P w b1 e1 l r b' e' m):r=[]∧b'=b1∧e'=e1∧m=l:=by
 cases h with
 | here=>exact ⟨rfl,rfl,rfl,rfl⟩
 | step h1 h2 h3 h4 h5 h6 h7 h8=>
  rw[sw] at h3;have:=gD.1 gS _ (mU h3);unfold ez at this;rw[h4] at this;cases this
def zj (P:Program) (w:World) (e1:TypeId) (K:Nat→List V→Prop) (v:Value) (l:List V):Prop:=
 (l=[]∧∃a,v= .slice a 0 0)∨
 (∃b1 cap,0<cap∧v= .slice (some ⟨b1,0,none⟩) l.length cap∧cap*P.cellsOf e1=bsize w b1∧l.length≤cap∧cap≤maxLen∧K b1 l)
theorem ZM {b:Nat} {e e1:TypeId} {ys:List V} {vers:List Nat} {C':Array Value} (hr:rowOf P e=some e1)
  {T:TypeId} (vA:w'.heap[b]? =some (.cells C' T (0,0))) (hlen:ys.length≤C'.size) (dI: ∀j,¬I b j) (K:Nat→Nat→List V→Prop)
  (gJ: ∀(i:Nat) x,ys[i]? =some x→∃l v,x= .list e1 l∧C'[i]? =some v∧zj P w e1 (K i) v l)
  (hK: ∀i b1 l,K i b1 l→b1≠b∧w'.heap[b1]? =w.heap[b1]? ∧iB P w I b1 e1 l)
  (tP: ∀i j b1 l m,K i b1 l→K j b1 m→i=j):
  (∀b',bB P w' (some b) (.nest e ys vers) b'→b'=b∨∃i l,K i b' l)∧
  ∀{cT gf},(∀b j,I b j→w'.cell? ⟨b,j,none⟩=w.cell? ⟨b,j,none⟩)→fi P w' I cT gf (some b) (.nest e ys vers):=by
 obtain ⟨hu,cX,aw,oN,gS⟩:=xr hr;have hLs:sq P T e C'.size:=fun eI=>by unfold isByte at eI;rw[hu] at eI;cases eI
 have kC:bc P e=[e]:=by simp[bc,cX]
 have hk:P.cellsOf e=1:=by rw[←fM aw,kC];rfl
 have zk: ∀x j,cu P e x j=x:=fun x j=>by simp[cu,cX]
 have Fb: ∀q b2 e2 m,At P w' b e ys q b2 e2 m→(q=[]∧b2=b∧e2=e∧m=ys)∨∃i,q=[(i,0)]∧e2=e1∧K i b2 m:=by
  intro q b2 e2 m h;cases h with
  | here=>exact .inl ⟨rfl,rfl,rfl,rfl⟩
  | step h1 h2 h3 h4 h5 h6 h7 h8=>
   right;rw[vA] at h1;cases h1;rw[kC] at h3;obtain ⟨hc,ht⟩:=cL.1 h3;simp only[List.length_singleton,Nat.lt_one_iff] at hc;subst hc;simp only[List.getElem_singleton] at ht;subst ht;rw[hu] at h4;cases h4;rw[zk] at h5;subst h5;rw[hk,fZ,Nat.add_zero] at h7;obtain ⟨l,v,hl,hv,hh⟩:=gJ _ _ h2;cases hl;rw[hv] at h7;cases h7;rcases hh with ⟨rfl,a',he⟩|⟨b1',QU,_,he,_,_,_,vB⟩
   ·cases he;exact absurd h6 (nG _)
   ·cases he;obtain ⟨rfl,rfl,rfl,rfl⟩:=aj9 gS h8;exact ⟨_,rfl,rfl,vB⟩
 have kf: ∀i b1 l,K i b1 l→w'.heap[b1]? =w.heap[b1]? :=fun i b1 l h=>(hK i b1 l h).2.1;refine ⟨fun b' ho=> ?_,fun xp=> ?_⟩
 ·cases ho with
  | root _ h=>exact .inl (eo h).symm
  | row h ha=>
   cases h;rcases Fb _ _ _ _ ha with ⟨_,h,_,_⟩|⟨i,_,_,vB⟩
   ·exact .inl h
   ·exact .inr ⟨_,_,vB⟩
 ·refine .nest rfl (fun q b2 e2 m h=> ?_) (fun q1 q2 b2 e2 m2 e3 m3 h1 h2=> ?_)
  ·rcases Fb _ _ _ _ h with ⟨rfl,rfl,rfl,rfl⟩|⟨i,rfl,rfl,vB⟩
   ·refine ⟨aw,⟨C',_,vA,hLs,by rw[hk,fZ];exact hlen,fun i j x t' hx ht hj=> ?_⟩,dI⟩;rw[hk] at hj;have Q4:j=0:=by omega
    subst Q4;rw[kC] at ht;simp only[List.getElem?_cons_zero,eX] at ht;subst ht;obtain ⟨l,v,rfl,hv,hh⟩:=gJ _ _ hx;refine ⟨v,by rw[hk,fZ,Nat.add_zero];exact hv,?_⟩;rw[zk];rcases hh with ⟨rfl,a,rfl⟩|⟨b1,cap,h0,rfl,hs,hl,hm,vB⟩
    ·exact .emp hu
    ·exact .row hu h0 (by rw[hs,ER (kf _ _ _ vB)]) hl hm
   ·obtain ⟨_,_,⟨ok,⟨Ca,T2,c1,c0,c2,c3⟩,nI⟩⟩:=hK _ _ _ vB;refine ⟨ok,⟨Ca,T2,(kf _ _ _ vB).trans c1,c0,c2,fun i' j x t' hx ht hj=> ?_⟩,nI⟩;obtain ⟨v,m1,m2⟩:=c3 i' j x t' hx ht hj;have iO:ez P t'=true:=by
     rw[sw] at ht;exact gD.1 gS _ (mU ht)
    refine ⟨v,m1,?_⟩;generalize cu P e2 x j=y at m2;cases m2 with
    | gv a p=>exact .gv a (p.mono (fun _ _ h=>h) xp)
    | emp a=>unfold ez at iO;rw[a] at iO;cases iO
    | row a _ _ _ _=>unfold ez at iO;rw[a] at iO;cases iO
  ·rcases Fb _ _ _ _ h1 with ⟨rfl,rfl,_,_⟩|⟨i,rfl,_,k1⟩
   ·rcases Fb _ _ _ _ h2 with ⟨rfl,_,_,_⟩|⟨j,rfl,_,k2⟩
    ·rfl
    ·exact absurd rfl (hK _ _ _ k2).1
   ·rcases Fb _ _ _ _ h2 with ⟨rfl,rfl,_,_⟩|⟨j,rfl,_,k2⟩
    ·exact absurd rfl (hK _ _ _ k1).1
    ·rw[tP _ _ _ _ _ k1 k2]
theorem Q5 (S:aB P w I β hp B M w0) {id b:Nat} {e e1:TypeId} {es:List V} {vers:List Nat} (hr:rowOf P e=some e1) (ab:hp id=some (.nest e es vers)) (hb:β id=some b):
  ∃Ca T,w.heap[b]? =some (.cells Ca T (0,0))∧es.length≤Ca.size∧(∀j,¬I b j)∧
   (∀(i:Nat) x,es[i]? =some x→∃l v,x= .list e1 l∧Ca[i]? =some v∧zj P w e1 (fun b1 l=>At P w b e es [(i,0)] b1 e1 l) v l)∧
   (∀i b1 l,At P w b e es [(i,0)] b1 e1 l→b1≠b∧b1<w.heap.size∧iB P w I b1 e1 l∧(M b1∨B≤b1)∧bB P w (β id) (.nest e es vers) b1)∧
   ∀i j b1 l m,At P w b e es [(i,0)] b1 e1 l→At P w b e es [(j,0)] b1 e1 m→i=j:=by
 obtain ⟨hu,cX,aw,oN,gS⟩:=xr hr;have kC:bc P e=[e]:=by simp[bc,cX]
 have hk:P.cellsOf e=1:=by rw[←fM aw,kC];rfl
 have zk: ∀x j,cu P e x j=x:=fun x j=>by simp[cu,cX]
 have dg:=S.h.rel id _ ab;rw[hb] at dg;cases dg with
 | iN h=>cases h
 | nest aA dm lM=>
  cases aA;obtain ⟨_,⟨Ca,T,c1,_,c2,c3⟩,nI⟩:=dm _ _ _ _ .here;rw[hk,fZ] at c2;refine ⟨Ca,T,c1,c2,nI,fun i x hx=> ?_,fun i b1 l ha=> ?_,fun i j b1 l m h1 h2=> ?_⟩
  ·obtain ⟨v,hv,ho⟩:=c3 i 0 x e hx (by rw[kC];rfl) (by rw[hk];exact Nat.one_pos);rw[hk,fZ,Nat.add_zero] at hv;rw[zk] at ho;cases ho with
   | gv a _=>unfold ez at a;rw[hu] at a;cases a
   | emp a=>rw[hu] at a;cases a;exact ⟨[],_,rfl,hv,.inl ⟨rfl,_,rfl⟩⟩
   | @row _ l b1 cap a h0 hs hl hm=>
    rw[hu] at a;cases a;refine ⟨l,_,rfl,hv,.inr ⟨b1,cap,h0,rfl,hs,hl,hm,?_⟩⟩;exact .step c1 hx (by rw[kC];rfl) hu (zk _ _) h0 (by rw[hk,fZ,Nat.add_zero];exact hv) .here
  ·have ho:bB P w (β id) (.nest e es vers) b1:= .row hb ha;refine ⟨fun h=> ?_,S.h.lt ab ho,dm _ _ _ _ ha,S.h.own id _ b1 ab ho,ho⟩;subst h;exact absurd (lM _ _ _ _ _ _ _ ha .here) (by simp)
  ·have:=lM _ _ _ _ _ _ _ h1 h2;simpa using this
theorem ZN (l:List Nat) (k:Nat) (h:k<l.length):bM l k<bM (l.map (· +1)) k:=by
 induction l generalizing k with
 | nil=>simp at h
 | cons a l ih=>
  cases k with
  | zero=>simp[bM]
  | succ k=>simpa[bM] using ih k (by simpa using h)
theorem aka {l:List Nat} {k:Nat} (h:l.length≤k):bM l k=0:=by
 induction l generalizing k with
 | nil=>rfl
 | cons a l ih=>
  cases k with
  | zero=>simp at h
  | succ k=>simpa[bM] using ih (by simpa using h)
theorem akb (S:aB P w I β hp B M w0) {id nb b i:Nat} {e e1:TypeId} {es:List V} {y:V} {vers:List Nat} (hr:rowOf P e=some e1) (ab:hp id=some (.nest e es vers)) (hb:β id=some b) (hy:es[i]? =some y) (hn:hp nb=none):
  ∃tS,Le P w I β hp w I tS (av (av hp id (some (.out e es (vers.map (· +1)) i))) nb (some (.arr e1 y.toList false)))∧
   aB P w I tS (av (av hp id (some (.out e es (vers.map (· +1)) i))) nb (some (.arr e1 y.toList false))) B M w0∧
   ∀Ca v T f,w.heap[b]? =some (.cells Ca T f)→Ca[i]? =some v→ai P w I tS (av (av hp id (some (.out e es (vers.map (· +1)) i))) nb (some (.arr e1 y.toList false))) v (.whole e1 nb):=by
 obtain ⟨hu,cX,aw,oN,gS⟩:=xr hr;obtain ⟨Ca,T0,c1,c2,nI,rc,rk,ru⟩:=Q5 S hr ab hb;have Fc:bc P e1=flat P e1:=sw e1;have kC:bc P e=[e]:=by simp[bc,cX]
 have zk: ∀x j,cu P e x j=x:=fun x j=>by simp[cu,cX]
 have hk:P.cellsOf e=1:=by rw[←fM aw,kC];rfl
 have sJ:=(cL.1 hy).1;have Lo: ∀(j:Nat) l b1 cap,es[j]? =some (.list e1 l)→0<cap→Ca[j]? =some (.slice (some ⟨b1,0,none⟩) l.length cap)→At P w b e es [(j,0)] b1 e1 l:=
  fun j l b1 cap hx h0 hv=> .step c1 hx (by rw[kC];rfl) hu (zk _ _) h0 (by rw[hk,fZ,Nat.add_zero];exact hv) .here
 have cm:nb≠id:=fun h=>by rw[h,ab] at hn;cases hn
 have sB: ∀b',bB P w (some b) (.out e es (vers.map (· +1)) i) b'→bB P w (some b) (.nest e es vers) b'∧∀l,¬At P w b e es [(i,0)] b' e1 l:=by
  intro b' ho;cases ho with
  | root _ h=>cases h;exact ⟨.root (by simp) rfl,fun l ha=>(rk _ _ _ ha).1 rfl⟩
  | @qj _ e2 _ l _ _ j b2 _ cap C' T f h1 h2 hj hx h0 hv=>
   cases h1;rw[c1] at h2;cases h2;obtain ⟨l',v',m1,m2,m3⟩:=rc _ _ hx;cases m1;have ha:=Lo _ _ _ _ hx h0 hv;exact ⟨.row rfl ha,fun l2 Lq=>hj (ru _ _ _ _ _ ha Lq)⟩
 have ZO:es≠[]:=fun h=>by rw[h] at sJ;simp at sJ
 obtain ⟨l1,S1⟩:=QF (w':=w) S (blk':= .out e es (vers.map (· +1)) i) ab (by simp)
  ⟨⟨rfl,rfl,by simp,fun k=>by
    by_cases hk:k<vers.length
    ·exact Nat.le_of_lt (ZN _ _ hk)
    ·rw[aka (by omega)];exact nK _⟩,fun k hk=>ZN _ _ hk,ZO⟩ hb nI (.inr (by simp)) (fun _ _=>rfl) rfl (az _) ⟨rfl,rfl⟩
  (fun b' h=> .inl (sB b' h).1) (fun _=>by
   refine .out rfl hu (by rw[Fc];exact gS) c1 c2 sJ nI (fun j x hj hx=> ?_) (fun j b1 cap l hj hx h0 hv=> ?_) (fun j k b1 c1 c2 l m hj hk hx hz h1 h2 hv vp=> ?_)
   ·obtain ⟨l,v,m1,m2,m3⟩:=rc j x hx;refine ⟨l,v,m1,m2,?_⟩;subst m1;rcases m3 with ⟨rfl,a,rfl⟩|⟨b1,cap,h0,rfl,q1,q2,q3,_⟩
    ·exact .emp hu
    ·exact .row hu h0 q1 q2 q3
   ·have:=rk _ _ _ (Lo _ _ _ _ hx h0 hv);exact ⟨this.1,this.2.2.1⟩
   ·exact ru _ _ _ _ _ (Lo _ _ _ _ hx h1 hv) (Lo _ _ _ _ hz h2 vp))
 have ja:av hp id (some (.out e es (vers.map (· +1)) i)) nb=none:=by rw[cK _ _ cm];exact hn
 obtain ⟨l,v,xt,hv,gJ⟩:=rc i y hy;subst xt;rcases gJ with ⟨rfl,a,rfl⟩|⟨b1,cap,h0,rfl,q1,q2,q3,ha⟩
 ·obtain ⟨a1,a2⟩:=EV S1 (fz:=false) e1 ja;refine ⟨_,l1.trans a1,a2,fun za v' T f h1 h2=> ?_⟩;rw[c1] at h1;cases h1;rw[hv] at h2;cases h2;exact .ep (bW _ _ _) (bW _ _ _)
 ·obtain ⟨d1,d2,⟨ok,⟨C1,_,e2,e0,e3,e4⟩,ZP⟩,d4,d5⟩:=rk _ _ _ ha;obtain ⟨a1,a2⟩:=BN S1 (w':=w) (blk:= .arr e1 l false) (b:=b1) ja
   (fun ax blk' h ho=>by
    by_cases hi:ax=id
    ·subst hi;rw[bW] at h;cases h;rw[hb] at ho;exact (sB _ ho).2 _ ha
    ·rw[cK _ _ hi] at h;exact hi (S.h.inj _ _ _ _ _ h ab ho d5))
   (fun j h=>absurd h (ZP j)) (fun _ _ _=>rfl) (az _) ⟨rfl,rfl⟩ d4 (fun b' h=>(eo (h.flat (by simp))).symm)
   (fun hle=> .arr e0 oN rfl e2 e3 (fun h=>by cases h) (fun _=>ZP) fun i' j x t' k1 k2 k3=>by
    obtain ⟨u,m1,m2⟩:=e4 i' j x t' k1 k2 k3;have iO:ez P t'=true:=by
     rw[Fc] at k2;exact gD.1 gS _ (mU k2)
    refine ⟨u,m1,?_⟩;generalize cu P e1 x j=z at m2⊢;cases m2 with
    | gv _ p=>exact p
    | emp a=>unfold ez at iO;rw[a] at iO;cases iO
    | row a _ _ _ _=>unfold ez at iO;rw[a] at iO;cases iO)
  refine ⟨_,l1.trans a1,a2,fun za v' T f h1 h2=> ?_⟩;rw[c1] at h1;cases h1;rw[hv] at h2;cases h2;exact .whole (es:=l) (bW _ _ _) (bW _ _ _) q1 q2 q3
theorem akc (S:aB P w I β hp B M w0) {t e e1:TypeId} {v:Value} {id bD b i:Nat} {es cb:List V} {vers:List Nat} (hr:rowOf P e=some e1) (ab:hp id=some (.out e es vers i)) (hb:β id=some b)
  (ht:qg P t=true) (hn:P.cellsOf t=1) (dE:hp bD=some (.arr e1 cb false)) (cm:id≠bD) (hv:ai P w I β hp v (.whole e1 bD)):
  sD P ((Instr.storeAt t (.pointer (some ⟨b,i*P.cellsOf e+0,none⟩)) v).run P w) w I β hp B M w0 ⟨.undef,[(id,.nest e (es.set i (.list e1 cb)) vers),(bD,.dead)]⟩:=by
 obtain ⟨hu,cX,aw,oN,gS⟩:=xr hr;have kC:bc P e=[e]:=by simp[bc,cX]
 have hk:P.cellsOf e=1:=by rw[←fM aw,kC];rfl
 obtain ⟨tR,S1⟩:=xl S dE;have sF:av hp bD (some .dead) id=some (.out e es vers i):=by rw[cK _ _ cm];exact ab
 have dg:=S.h.rel id _ ab;rw[hb] at dg;cases dg with
 | out aA kD ayZ hh hs hi hI hc dm lM=>
 cases aA;rw[hu] at kD;cases kD;rename_i Ca;have gJ: ∃K:Nat→List V→Prop,zj P w e1 K v cb∧(∀b1 l,K b1 l→b1≠b∧iB P w I b1 e1 l∧(M b1∨B≤b1)∧(∀ax blk',av hp bD (some .dead) ax=some blk'→¬bB P w (β ax) blk' b1))∧v.cells= #[v]∧v.oneCell'=true:=by
  cases hv with
  | eD hd=>rw[dE] at hd;cases hd
  | ee hd=>rw[dE] at hd;cases hd
  | eF hd=>rw[dE] at hd;cases hd
  | fD hd=>rw[dE] at hd;cases hd
  | @ep _ _ _ a0 hd hb=>rw[dE] at hd;cases hd;exact ⟨fun _ _=>False,.inl ⟨rfl,a0,rfl⟩,fun _ _ h=>h.elim,rfl,rfl⟩
  | @whole _ _ _ _ b2 cap hd fE br cg hm=>
   rw[dE] at hd;cases hd;obtain ⟨m1,m2⟩:=Q1 S dE fE gS;obtain ⟨m3,m4⟩:=m1 _ _ _ _ .here;rcases Nat.eq_zero_or_pos cap with h0|h0
   ·subst h0;obtain rfl:=wM.1 (tA.1 cg);exact ⟨fun _ _=>False,.inl ⟨rfl,_,rfl⟩,fun _ _ h=>h.elim,rfl,rfl⟩
   ·refine ⟨fun b1 l=>b1=b2∧l=cb,.inr ⟨b2,cap,h0,rfl,br,cg,hm,rfl,rfl⟩,fun b1 l h=> ?_,rfl,rfl⟩;obtain ⟨rfl,rfl⟩:=h;refine ⟨fun h=> ?_,m3,S.h.own bD _ _ dE m4,fun ax blk' h' ho=> ?_⟩
    ·subst h;exact cm (S.h.inj _ _ _ _ _ ab dE (.root (by simp) hb) m4)
    ·by_cases q:ax=bD
     ·subst q;rw[bW] at h';cases h';exact absurd rfl ho.alive
     ·rw[cK _ _ q] at h';exact q (S.h.inj ax bD _ _ _ h' dE ho m4)
 obtain ⟨K,k1,k2,k3,k4⟩:=gJ;have sJ:i<Ca.size:=by omega
 have da:=Lg (t:=t) (o:=i*P.cellsOf e+0) (v:=v) ht (by rw[hn,k3];rfl) hh (by rw[k3,hk];simp;omega) (by rw[k3];simp[k4]);rw[k3,hk,fZ,Nat.add_zero] at da;have hC:(Ca.toList.take i++(#[v].toList++Ca.toList.drop (i+ #[v].toList.length))).toArray.size=Ca.size:=by simp;omega
 have jq: ∀j,(Ca.toList.take i++(#[v].toList++Ca.toList.drop (i+ #[v].toList.length))).toArray[j]? =if j=i then some v else Ca[j]? :=by
  intro j;rw[nJ,rn _ _ _ _ (by simp;omega)];simp only[List.length_singleton,o9];by_cases h1:j<i
  ·rw[ah h1,ag (by omega)]
  ·rw[ag h1];by_cases h2:j=i
   ·subst h2;simp
   ·rw[ag (by omega),ag h2]
 rw[hk,fZ,Nat.add_zero];generalize hCb:(Ca.toList.take i++(#[v].toList++Ca.toList.drop (i+ #[v].toList.length))).toArray=Cb at da hC jq;have dU:=setRow_heap w b Ca Cb _ (0,0) hh;have tQ:=fun k (hk:k≠b)=>setRow_other w b k Cb hk;obtain ⟨p1,p2⟩:=ZM (w:=w) (w':=w.setRow b Cb) (I:=I) (vers:=vers) (ys:=es.set i (.list e1 cb)) hr dU (by simp;omega) hI
  (fun j b1 l=>(j=i∧K b1 l)∨(j≠i∧∃cap,es[j]? =some (.list e1 l)∧0<cap∧Ca[j]? =some (.slice (some ⟨b1,0,none⟩) l.length cap)))
  (fun j x hx=>by
   rw[yF] at hx;rw[jq];by_cases hj:i=j
   ·subst hj;simp only[kS,ah hi,eX] at hx;subst hx;refine ⟨cb,v,rfl,ah rfl,?_⟩;rcases k1 with h|⟨b1,cap,h0,h1,h2,h3,h4,h5⟩
    ·exact .inl h
    ·exact .inr ⟨b1,cap,h0,h1,h2,h3,h4,.inl ⟨rfl,h5⟩⟩
   ·rw[ag hj] at hx;rw[ag (fun h=>hj h.symm)];obtain ⟨l,u,m1,m2,m3⟩:=hc j x (fun h=>hj h.symm) hx;subst m1;refine ⟨l,u,rfl,m2,?_⟩;cases m3 with
    | gv a _=>unfold ez at a;rw[hu] at a;cases a
    | emp a=>exact .inl ⟨rfl,_,rfl⟩
    | @row _ _ b1 cap a h0 c d f=>exact .inr ⟨b1,cap,h0,rfl,by rw[hu] at a;cases a;exact c,d,f,.inr ⟨fun h=>hj h.symm,cap,hx,h0,m2⟩⟩)
  (fun j b1 l h=>by
   rcases h with ⟨_,h⟩|⟨hj,cap,hx,h0,hv⟩
   ·exact ⟨(k2 _ _ h).1,tQ _ (k2 _ _ h).1,(k2 _ _ h).2.1⟩
   ·obtain ⟨q1,q2⟩:=dm _ _ _ _ hj hx h0 hv;exact ⟨q1,tQ _ q1,q2⟩)
  (fun j j' b1 l m h1 h2=>by
   have no: ∀{j l m},K b1 l→(j≠i∧∃cap,es[j]? =some (.list e1 m)∧0<cap∧Ca[j]? =some (.slice (some ⟨b1,0,none⟩) m.length cap))→False:=fun h ⟨hj,cap,hx,h0,hv⟩=>
    (k2 _ _ h).2.2.2 _ _ sF (by rw[hb];exact .qj rfl hh hj hx h0 hv)
   rcases h1 with ⟨h,h1⟩|h1
   ·rcases h2 with ⟨h',h2⟩|h2
    ·omega
    ·exact (no h1 h2).elim
   ·rcases h2 with ⟨_,h2⟩|h2
    ·exact (no h2 h1).elim
    ·obtain ⟨hj,cap,hx,h0,hv⟩:=h1;obtain ⟨jM,QU,dy,Q6,Fe⟩:=h2;exact lM _ _ _ _ _ _ _ hj jM hx dy h0 Q6 hv Fe)
 obtain ⟨a1,a2⟩:=QF S1 (w':=w.setRow b Cb) (blk':= .nest e (es.set i (.list e1 cb)) vers) sF (by simp) ⟨rfl,by simp,rfl,fun _=>az _⟩ hb hI (.inl (by simp)) tQ (by rw[lb dU,lb hh,hC]) (by simp) ⟨rfl,rfl⟩
  (fun b' ho=>by
   rcases p1 b' ho with rfl|⟨j,l,⟨_,h⟩|⟨hj,cap,hx,h0,hv⟩⟩
   ·exact .inl (.root (by simp) rfl)
   ·exact .inr ⟨(k2 _ _ h).2.2.1,(k2 _ _ h).2.2.2⟩
   ·exact .inl (.qj rfl hh hj hx h0 hv))
  (fun hle=>p2 hle.cZ)
 exact ⟨_,I,β,da,tR.trans a1,a2,rfl⟩
end
section
variable {P:Program} {w w':World} {I I':Nat→Nat→Prop} {β β':Nat→Option Nat} {hp hp':Nat→Option af} {C:ae} {B:Nat} {M:Nat→Prop} {w0:Start}
theorem akd (S:aB P w I β hp B M w0) {t:TypeId} {a v:Value} {xa x:V} {r:R} {rd:List Nat} (ha:ai P w I β hp a xa) (hv:ai P w I β hp v x)
  (h:(Qa P t xa x).run C hp=some (r,rd)):sD P ((Instr.storeAt t a v).run P w) w I β hp B M w0 r:=by
 unfold Qa at h;obtain ⟨h0,h⟩:=aH h;simp only[aK,aZ] at h0;obtain ⟨ht,hn⟩:=h0;cases xa with
 | ptr id i c=>
  obtain ⟨l,h⟩:=run_get h;cases ab:hp id with
  | none=>rw[ab] at h;cases h
  | some blk=>
   rw[ab] at h;cases blk with
   | dead=>cases h
   | var T0 cs=>
    obtain ⟨ZQ,h⟩:=aH h;have sE:tD P T0=true→0<c:=fun b9=>by
     rw[b9] at ZQ;simpa using ZQ
    obtain ⟨b,hb,rfl⟩:=ha.iZ ab (by simp);simp only[af.sz,Nat.mul_zero,ed];cases vr:(By P t cs&&fq P t x) with
    | true=>
     dsimp only at h;rw[vr] at h;simp only[cond_true] at h;obtain ⟨hc,h⟩:=aH h;obtain rfl:=ba h;simp only[aK,oC] at hc vr;obtain ⟨o1,o2⟩:=ZF hv vr.2;have tO:=ajX vr.2;refine ZE S ab hb ht hn (by rw[o2,tO];rfl) sE (fun j u y hu hy=> ?_) (by rw[o2];simp[o1]) (by rw[tO];simp;omega) (ZD _ _ _ _) (fun j y hy hj u hu=> ?_) (fun j y hy hj u hu=> ?_)
     ·rw[o2] at hu;rw[tO] at hy;cases j with
      | zero=>simp at hu hy;subst hu;subst hy;exact hv
      | succ j=>simp at hy
     ·rw[QO] at hy;cases BU:cs[j]? with
      | none=>rw[BU] at hy;cases hy
      | some y0=>
       rw[BU] at hy;simp only[Option.map_some,eX] at hy;rw[tO] at hj;simp only[List.length_singleton] at hj;have cm:Nat.beq c (0+j)=false:=by
        cases hq:Nat.beq c (0+j) with
        | false=>rfl
        | true=>rw[aZ] at hq;omega
       rw[cm] at hy;have:=Zs (c:=false) hv (hu y0 BU);rw[←hy];simpa using this
     ·rw[tO] at hj hu;have Q4:j=0:=by simpa using hj
      subst Q4;rw[QO] at hy;cases BU:cs[c+0]? with
      | none=>rw[BU] at hy;cases hy
      | some y0=>
       rw[BU] at hy;simp only[Option.map_some,eX] at hy;have heq:Nat.beq c (0+(c+0))=true:=by rw[aZ];omega
       rw[heq] at hy;have h2:ai P w I β hp u x:=hu x rfl;have:w5 true x y0=x:=ajY x y0;rw[←hy,this];exact h2
    | false=>
     dsimp only at h;rw[vr] at h;simp only[cond_false] at h;obtain ⟨hc,h⟩:=aH h;simp only[aK,fp] at hc;obtain ⟨e1,e2⟩:=QN hv h;obtain ⟨h1,l2,h⟩:=Lf h (vs:=v.cells.toList) (by simpa using e1) (fun j u y a b=>e2 j u y (by simpa using a) b);obtain rfl:=ba h;refine ZE S ab hb ht hn e1 sE e2 h1 hc.2 (E4 _ _ _ hc.2) (fun j y hy hj u hu=> ?_) (fun j y hy hj u hu=> ?_)
     ·unfold jg at hy;rw[rn _ _ _ _ hc.2] at hy;rcases hj with hj|hj
      ·rw[ah hj] at hy;exact hu y hy
      ·rw[cf,cf] at hy;exact hu y hy
     ·unfold jg at hy;rw[rn _ _ _ _ hc.2,cf,bp] at hy;rw[show c+j-c=j by omega] at hy;exact hu y hy
   | arr e es fz=>
    cases fz with
    | true=>cases h
    | false=>
    obtain ⟨b,hb,rfl⟩:=ha.iZ ab (by simp);obtain ⟨aw,h⟩:=aH h;obtain ⟨⟨ys,fr⟩,l1,l2,bX,h⟩:=oI h;obtain ⟨hc,h⟩:=aH h;obtain ⟨x0,sH,h⟩:=oH h;obtain rfl:=ba h;simp only[aK,nH,fp] at hc;obtain ⟨fj,hc3,im⟩:=hc;have rp:v.cells.size=x.cells.length∧∀(j:Nat) u y,v.cells.toList[j]? =some u→x.cells[j]? =some y→ai P w I β hp u y:=by
     cases x with
     | agg xs=>
      obtain ⟨cs,rfl,h1,h2⟩:=hv.nW;exact ⟨h1,fun j u y a b=>h2 j u y (by simpa[Value.cells] using a) b⟩
     | _=>
      simp only[V.cells] at bX im⊢;simp only[w4] at bX;obtain ⟨⟨y1,u1⟩,l3,l4,hq,bX⟩:=oI bX;obtain ⟨q1,q2⟩:=K7 S.h.rel hq hv;obtain ⟨⟨y2,u2⟩,l5,l6,sK,bX⟩:=oI bX;cases sK;have:=ba bX;cases this;obtain ⟨tl,tg⟩:=zg im;have fk:=tg 0 _ y1 (cp (by rw[tl];exact Nat.one_pos)) rfl;have fT:=q2 (lN P w I β hp u1) (fun _ _ h=> .inl h) (fun p hp b j h=> .inr ⟨p,hp,h⟩);have ho:=fT.pure fk;have ZR:v.cells= #[v]:=by cases ho<;>rfl
      rw[ZR];refine ⟨rfl,fun j u y hu hy=> ?_⟩;cases j with
      | zero=>simp at hu hy;subst hu;subst hy;exact hv
      | succ j=>simp at hy
    obtain ⟨k1,k2,k3⟩:=QD S.h.rel bX (vs:=v.cells.toList) (by simpa using rp.1) rp.2;obtain ⟨tR,S1⟩:=EU S k2;have sF:cB hp fr id=some (.arr e es false):=by
     rcases y7 (hp:=hp) (l:=fr) (id:=id) with h|⟨b',hm,_⟩
     ·exact h.trans ab
     ·exfalso;have oO:jf (fr.map (·.1)) id=true:=BP (j5.2 ⟨_,hm,rfl⟩);rw[oO] at fj;cases fj
    have ZS:=k3 (lN P w I β hp fr) (fun _ _ h=> .inl h) (fun p hp b j h=> .inr ⟨p,hp,h⟩);obtain ⟨tl,tg⟩:=zg im;have gS:=(oJ aw).1;have xt:ys.length=v.cells.size:=by rw[k1,rp.1]
    have hcn:c+v.cells.size≤P.cellsOf e:=by rw[rp.1];exact hc3
    have hr:=S1.h.rel id _ sF;cases hr with
    | eZ aA=>simp at sH
    | @arr _ _ _ _ b' Ca hL QL aA hh hs hf fR hx=>
     rw[hb] at aA;cases aA;have pq:i<es.length:=(cL.1 sH).1;have hbound:i*P.cellsOf e+P.cellsOf e≤Ca.size:=by
      have:(i+1)*P.cellsOf e≤es.length*P.cellsOf e:=eM _ pq;rw[kq] at this;omega
     simp only[af.sz];have xn:i*P.cellsOf e+c+v.cells.size≤Ca.size:=by omega
     have dI: ∀j,¬lN P w I β hp fr b j:=fR rfl;have h1: ∀u∈v.cells.toList,u.oneCell'=true:=by
      intro u hu;obtain ⟨j,hj⟩:=tB hu;have ej:j<ys.length:=by rw[xt];simpa using (cL.1 hj).1
      have sI:j<(((flat P e).drop c).take x.cells.length).length:=by rw[tl];exact ej
      exact (ZS j u ys[j] hj (cp ej)).one (tg j _ ys[j] (cp sI) (cp ej))
     have da:=Lg (t:=t) (o:=i*P.cellsOf e+c) (v:=v) ht (by rw[rp.1];exact hn.symm) hh xn h1;have hlen:(Ca.toList.take (i*P.cellsOf e+c)++(v.cells.toList++Ca.toList.drop (i*P.cellsOf e+c+v.cells.toList.length))).length=Ca.size:=by
      rw[E4 _ _ _ (by simpa using xn)];simp
     have fT:(parts P e x0).length=P.cellsOf e:=by rw[BO];exact fM aw
     have E5:=Lh S1 (blk':= .arr e (es.set i (dP P e (jg (parts P e x0) c ys))) false)
      (Cb:=(Ca.toList.take (i*P.cellsOf e+c)++(v.cells.toList++Ca.toList.drop (i*P.cellsOf e+c+v.cells.toList.length))).toArray) sF (by simp) ⟨rfl,by simp⟩ hb dI (by simp) hh (by simpa using hlen)
      (fun hle dU=> .arr (by rw[rZ,hlen];exact hL) aw rfl dU (by simp only[rZ,wR];omega) (fun h=>by cases h) (fun _=>dI) fun i' j z t' hz sI hj=>by
       simp only[nJ];rw[rn _ _ _ _ (by simpa using xn)];simp only[Array.length_toList];rw[yF] at hz;by_cases nc:i=i'
       ·subst nc;rw[ah rfl,ah pq] at hz;cases hz;have Lr:j<(parts P e x0).length:=by omega
        have zl:(jg (parts P e x0) c ys)[j]? =if j<c then (parts P e x0)[j]? else if j<c+ys.length then ys[j-c]? else (parts P e x0)[j]? :=by
         unfold jg;exact rn _ _ _ _ (by omega)
        by_cases vu:j<c
        ·rw[bp];rw[ah vu] at zl;obtain ⟨u,t2,a1,a2,a3⟩:=Lc hx aw sH (cp Lr);rw[sI] at a1;cases a1;refine ⟨u,by simpa using a2,?_⟩;rw[vw (zl.trans (cp Lr)) sI];exact a3.mono hle.eO hle.cZ
        ·rw[ag vu] at zl;by_cases cS:j<c+ys.length
         ·rw[ah cS] at zl;rw[cf,bp];have tT:j-c<ys.length:=by omega
          have ZT:j-c<v.cells.toList.length:=by simp;omega
          have ay0:j-c<v.cells.size:=by omega
          refine ⟨v.cells.toList[j-c],?_,?_⟩
          ·rw[show i*P.cellsOf e+j-(i*P.cellsOf e+c)=j-c by omega];exact cp ZT
          ·rw[vw (zl.trans (cp tT)) sI];have hft:(((flat P e).drop c).take x.cells.length)[j-c]? =some t':=by
            rw[iJ (by omega),qU,show c+(j-c)=j by omega,←sw];exact sI
           exact ((ZS (j-c) _ ys[j-c] (cp ZT) (cp tT)).pure (tg (j-c) t' ys[j-c] hft (cp tT))).mono hle.eO hle.cZ
         ·rw[ag cS] at zl;rw[cf,cf];obtain ⟨u,t2,a1,a2,a3⟩:=Lc hx aw sH (cp Lr);rw[sI] at a1;cases a1;refine ⟨u,by simpa using a2,?_⟩;rw[vw (zl.trans (cp Lr)) sI];exact a3.mono hle.eO hle.cZ
       ·rw[ag nc] at hz;obtain ⟨u,a2,a3⟩:=hx i' j z t' hz sI hj;have cm:i'*P.cellsOf e+j<i*P.cellsOf e+c∨i*P.cellsOf e+c+v.cells.size≤i'*P.cellsOf e+j:=by
         rcases fI i' i with bf|qp
         ·left;have:(i'+1)*P.cellsOf e≤i*P.cellsOf e:=eM _ bf;rw[kq] at this;omega
         ·right;have:(i+1)*P.cellsOf e≤i'*P.cellsOf e:=eM _ (by omega);rw[kq] at this;omega
        refine ⟨u,?_,a3.mono hle.eO hle.cZ⟩;rcases cm with cm|cm
        ·rw[ah cm];simpa using a2
        ·rw[cf,cf];simpa using a2)
     exact ⟨_,_,_,da,tR.trans E5.1,E5.2,rfl⟩
   | map _ _=>cases h
   | out e es vers j=>
    obtain ⟨b,hb,rfl⟩:=ha.iZ ab (by simp);unfold Zd at h;obtain ⟨hc,h5⟩:=aH h;clear h;simp only[aK,aZ] at hc;obtain ⟨rfl,rfl⟩:=hc;cases hr:rowOf P e with
    | none=>simp only[hr] at h5;cases h5
    | some e1=>
     simp only[hr] at h5;cases x with
     | whole e3 bD=>
      obtain ⟨l1,h6⟩:=run_get h5;cases dE:hp bD with
      | none=>rw[dE] at h6;cases h6
      | some cM=>
       rw[dE] at h6;cases cM with
       | arr e4 cb fz=>
        cases fz with
        | true=>cases h6
        | false=>
         obtain ⟨hc,h7⟩:=aH h6;obtain rfl:=ba h7;simp only[aK,aZ,nH] at hc;obtain ⟨rfl,rfl,cm⟩:=hc;exact akc S hr ab hb ht hn.symm dE (fun e=>by rw[e,mn] at cm;cases cm) hv
       | _=>cases h6
     | _=>cases h5
   | nest e es vers=>
    obtain ⟨b,hb,rfl⟩:=ha.iZ ab (by simp);exact ZL S ht hn hv ab hb .here h
 | dS id ver path i c=>
  obtain ⟨e0,es,vers,l,ab,h1,h2,h3,h⟩:=rh h;obtain ⟨b,b1,e1,l1,hb,fS,rfl⟩:=ha.Zn ab h1 h2 h3;exact ZL S ht hn hv ab hb fS h
 | _=>cases h
end
section
variable {P:Program} {w w':World} {I I':Nat→Nat→Prop} {β β':Nat→Option Nat} {hp hp':Nat→Option af} {C:ae} {B:Nat} {M:Nat→Prop} {w0:Start}
theorem Ls: ∀{ts:List TypeId} {vs:List Value} {j:Nat} {y:V},(j6 P ts vs)[j]? =some y→∃t v,ts[j]? =some t∧vs[j]? =some v∧y=qW P t v
 | [],vs,j,y,h=>by simp[j6] at h
 | _::_,[],j,y,h=>by simp[j6] at h
 | t::ts,v::vs,0,y,h=>by simp[j6] at h;grind
 | t::ts,v::vs,j+1,y,h=>by
  simp only[j6,List.getElem?_cons_succ] at h;obtain ⟨t',v',a,b,c⟩:=Ls h;grind
theorem ZU: ∀{ts:List TypeId} {vs:List Value},ts.length=vs.length→(j6 P ts vs).length=vs.length
 | [],[],_=>rfl
 | [],_::_,h=>by simp at h
 | _::_,[],h=>by simp at h
 | t::ts,v::vs,h=>by simp[j6,ZU (ts:=ts) (vs:=vs) (by grind)]
theorem kE {e:TypeId} (h:dw P e=true): ∃i z,P.info? e=some i∧i.zero=some z∧i.size=P.cellsOf e∧z.cells.size=P.cellsOf e∧zeroCells P e=j6 P (flat P e) z.cells.toList:=by
 unfold dw at h;simp only[aK,aZ,oC] at h;obtain ⟨h1,h2,_,h3⟩:=h;cases hi:P.info? e with
 | none=>grind
 | some i=>
  rw[hi] at h3;simp only[Option.bind_some] at h3;cases hz:i.zero with
  | none=>grind
  | some z=>
   rw[hz] at h3;simp only[aZ] at h3;exact ⟨i,z,rfl,hz,by simp[Program.cellsOf,hi],h3,by simp[zeroCells,hi,hz]⟩
theorem ZV {e:TypeId} (h:dw P e=true): ∃i z,P.info? e=some i∧i.zero=some z∧z.cells.size=(zeroCells P e).length∧z.cells.size=P.cellsOf e∧
  ∀(j:Nat) v x,z.cells[j]? =some v→(zeroCells P e)[j]? =some x→ai P w I β hp v x:=by
 obtain ⟨i,z,h1,h2,h3,h4,h5⟩:=kE h;have hl:(flat P e).length=z.cells.toList.length:=by rw[(oJ h).1];grind
 refine ⟨i,z,h1,h2,?_,h4,fun j v x hv hx=> ?_⟩
 ·rw[h5,ZU hl];simp
 ·rw[h5] at hx;obtain ⟨t,v',_,Fe,rfl⟩:=Ls hx;have:v'=v:=by
   grind
  subst this;exact ai.const t v'
theorem mB {nb:Nat} {b:af} {v:V} {upd:List (Nat×af)} {r:R} {rd:List Nat} (h:(jh nb b v upd).run C hp=some (r,rd)):hp nb=none∧r=⟨v,(nb,b)::upd⟩:=by
 obtain ⟨l,h⟩:=run_get h;cases hn:hp nb with
 | none=>rw[hn] at h;exact ⟨rfl,(ba h).symm⟩
 | some x=>rw[hn] at h;cases h
theorem ZW (S:aB P w I β hp B M w0) {nb:Nat} {xs:List V} {C0:Array Value} {T:TypeId} (hn:hp nb=none) (hs:C0.size=xs.length)
  (hx: ∀(j:Nat) v x,C0[j]? =some v→xs[j]? =some x→ai P w I β hp v x) (iY:Zi P w.heap.size T C0):
  Le P w I β hp (w.alloc (.cells C0 T)) I (av β nb (some w.heap.size)) (av hp nb (some (.var T xs)))∧aB P (w.alloc (.cells C0 T)) I (av β nb (some w.heap.size)) (av hp nb (some (.var T xs))) B M w0∧
  ai P (w.alloc (.cells C0 T)) I (av β nb (some w.heap.size)) (av hp nb (some (.var T xs))) (.pointer (some ⟨w.heap.size,0,none⟩)) (.ptr nb 0 0):=by
 obtain ⟨h1,h2⟩:=QG S (blk:= .var T xs) (c:=C0) (T:=T) hn (fun b' h=>(eo (h.flat (by simp))).symm) (fun hle dU dI=> .var rfl dU hs dI (fun j v x a b=>(hx j v x a b).mono hle) iY);refine ⟨h1,h2,?_⟩;have:=ai.ptr (P:=P) (w:=w.alloc (.cells C0 T)) (I:=I) (β:=av β nb (some w.heap.size)) (hp:=av hp nb (some (.var T xs))) (i:=0) (c:=0) (blk:= .var T xs) (bW _ _ _) (by simp) (bW _ _ _);grind
theorem ZX (S:aB P w I β hp B M w0) {e:TypeId} {nb:Nat} {r:R} {rd:List Nat}
  (h:(Rd.aD (dw P e&&(!(tD P e)||Zc (zeroCells P e))) (jh nb (.var e (zeroCells P e)) (.ptr nb 0 0) [])).run C hp=some (r,rd)):dJ P ((Instr.alloc e true (.tuple #[])).run P w) w I β hp B M w0 r:=by
 obtain ⟨aw,h⟩:=aH h;rw[aK] at aw;obtain ⟨aw,sE⟩:=aw;obtain ⟨hn,rfl⟩:=mB h;obtain ⟨i,z,h1,h2,h3,h4,h5⟩:=ZV (w:=w) (I:=I) (β:=β) (hp:=hp) aw;obtain ⟨a,b,c⟩:=ZW S (T:=e) hn h3 h5 fun b9=>by
  rw[b9,D6,Bool.false_or] at sE;cases hz:zeroCells P e with
  | nil=>rw[hz] at sE;cases sE
  | cons y l=>
   rw[hz] at sE h3 h5;cases y<;>first|(cases sE;done)|skip
   have bf:0<z.cells.size:=by grind
   have:=h5 0 z.cells[0] .fg (ml bf) rfl;left;rw[ml bf];generalize z.cells[0]=u at this;cases this;rfl
 exact ⟨_,_,_,_,by simp[Instr.alloc,zeroValue,typeInfo,h1,h2,newVar,newRow],a,b,c⟩
theorem ake (S:aB P w I β hp B M w0) {e:TypeId} {nb:Nat} {x:V} {v:Value} {r:R} {rd:List Nat} (hv:ai P w I β hp v x)
  (h:(Rd.aD (!(tD P e)) <| pd x.cells (jh nb (.var e x.cells) (.ptr nb 0 0) [])).run C hp=some (r,rd)):dJ P ((Instr.box e v).run P w) w I β hp B M w0 r:=by
 obtain ⟨sE,h⟩:=aH h;obtain ⟨e1,e2⟩:=QN hv h;obtain ⟨_,l,h⟩:=Lf h (vs:=v.cells.toList) (by omega) (fun j u y a b=>e2 j u y (by grind) b);obtain ⟨hn,rfl⟩:=mB h;obtain ⟨a,b,c⟩:=ZW S (T:=e) hn e1 e2 fun b9=>by grind
 exact ⟨_,_,_,_,by simp[Instr.box,newVar,newRow],a,b,c⟩
theorem foldl_set (off:Nat): ∀(vs:List Value) (k:Nat) (cs:Array Value) (i:Nat),off+k+vs.length≤cs.size→
  ((vs.zipIdx k).foldl (fun cs p=>cs.setIfInBounds (off+p.2) p.1) cs)[i]? =if i<off+k then cs[i]? else if i<off+k+vs.length then vs[i-(off+k)]? else cs[i]?
 | [],k,cs,i,h=>by simp_all
 | v::vs,k,cs,i,h=>by
  simp only[List.zipIdx_cons,List.foldl_cons];simp only[List.length_cons] at h⊢;rw[foldl_set off vs (k+1) _ i (by simp;omega)];grind
theorem ZY (off:Nat): ∀(vs:List Value) (k:Nat) (cs:Array Value),((vs.zipIdx k).foldl (fun cs p=>cs.setIfInBounds (off+p.2) p.1) cs).size=cs.size
 | [],k,cs=>rfl
 | v::vs,k,cs=>by
  simp only[List.zipIdx_cons,List.foldl_cons];rw[ZY off vs (k+1)];simp
theorem ZZ {cells:Array Value} {off:Nat} {v:Value} (h:off+v.cells.size≤cells.size) (i:Nat):
  (v.cells.zipIdx.foldl (fun cs (p:Value×Nat)=>cs.setIfInBounds (off+p.2) p.1) cells)[i]? =if i<off then cells[i]? else if i<off+v.cells.size then v.cells[i-off]? else cells[i]? :=by
 have:=foldl_set off v.cells.toList 0 cells i (by omega);rw[←Kj];grind
theorem Z0 {cells:Array Value} {off:Nat} {v:Value}:(v.cells.zipIdx.foldl (fun cs (p:Value×Nat)=>cs.setIfInBounds (off+p.2) p.1) cells).size=cells.size:=by
 have:=ZY off v.cells.toList 0 cells;rw[←Kj];grind
inductive BV (P:Program) (w:World) (I:Nat→Nat→Prop) (β:Nat→Option Nat) (hp:Nat→Option af):List (Nat×Value)→List (Nat×V)→Prop
 | nil:BV P w I β hp [] []
 | cons {i:Nat} {v:Value} {x:V} {vs:List (Nat×Value)} {xs:List (Nat×V)}:v.cells.size=x.cells.length→(∀(j:Nat) u y,v.cells[j]? =some u→x.cells[j]? =some y→ai P w I β hp u y)→
   BV P w I β hp vs xs→BV P w I β hp ((i,v)::vs) ((i,x)::xs)
theorem Z1 (place:Nat→Option (Nat×Nat)): ∀{vs:List (Nat×Value)} {px:List (Nat×V)} {cells:Array Value} {xs ys:List V},BV P w I β hp vs px→cells.size=xs.length→
  (∀(j:Nat) v x,cells[j]? =some v→xs[j]? =some x→ai P w I β hp v x)→yT place xs px=some ys→
  ∃tU:Array Value,Instr.fill place cells vs=some tU∧tU.size=ys.length∧∀(j:Nat) v x,tU[j]? =some v→ys[j]? =some x→ai P w I β hp v x
 | _,_,cells,xs,ys,.nil,hs,hx,h=>by
  simp only[yT,eX] at h;subst h;exact ⟨cells,by simp[Instr.fill],hs,hx⟩
 | _,_,cells,xs,ys,@BV.cons _ _ _ _ _ i v x vs px h1 h2 h3,hs,hx,h=>by
  simp only[yT] at h;cases fT:place i with
  | none=>grind
  | some os=>
   obtain ⟨off,size⟩:=os;rw[fT] at h;simp only at h;cases hc:(Nat.beq x.cells.length size&&Nat.ble (off+size) xs.length) with
   | false=>grind
   | true=>
    rw[hc] at h;simp only[cond_true] at h;simp only[aK,aZ,fp] at hc;have hv:off+v.cells.size≤cells.size:=by omega
    have hb:off+x.cells.length≤xs.length:=by omega
    have hl:(jg xs off x.cells).length=xs.length:=E4 _ _ _ hb;obtain ⟨tU,f1,f2,f3⟩:=Z1 place (cells:=v.cells.zipIdx.foldl (fun cs (p:Value×Nat)=>cs.setIfInBounds (off+p.2) p.1) cells) (xs:=jg xs off x.cells) h3 (by rw[Z0,hl,hs])
     (fun j u y hu hy=>by
      rw[ZZ hv] at hu;unfold jg at hy;grind) h
    refine ⟨tU,?_,f2,f3⟩;simp only[Instr.fill,fT];grind
theorem akf {t:TypeId} {parts:Array (Nat×Value)} {cells:Array Value} {z:Value} {i:TypeInfo} (hi:P.info? t=some i) (hz:i.zero=some z) (h:Instr.fill (placeOf P t) z.cells parts.toList=some cells) (ha:cA P t=true)
  (fT: ∀fs,P.underlying t=some (.struct fs)→(fs.toList.mapM fun f=>(P.info? f.type).map fun i=>(f.offset,i.size)).isSome=true) (vC: ∀n e,P.underlying t=some (.array n e)→(P.info? e).isSome=true):
  (Instr.build t parts).run P w= .ok (.agg cells) w:=by
 refine run_build w t parts cells ?_;unfold Program.built;unfold cA at ha;rw[hi];split at ha
 ·rename_i fs hu;have:=fT fs hu;cases hm:fs.toList.mapM fun f=>(P.info? f.type).map fun i=>(f.offset,i.size) with
  | none=>grind
  | some places=>
   simp only[hu,hz,hm];have hq:placeOf P t=fun i=>places[i]? :=by simp[placeOf,hu,hm]
   simp_all
 ·rename_i n e hu;have:=vC n e hu;cases nf:P.info? e with
  | none=>grind
  | some ie=>
   simp only[hu,hz,nf];have hq:placeOf P t=fun i=>some (i*ie.size,ie.size):=by simp[placeOf,hu,nf]
   grind
 ·cases ha
theorem Z2 {α:Type}: ∀(xs ys:List V) (k:Rd α),pd (xs++ys) k=pd xs (pd ys k)
 | [],_,_=>rfl
 | x::xs,ys,k=>by simp only[List.cons_append,pd,Z2 xs ys k]
theorem Z3 {a:Act} {sl:Nat→V} (hs:nU P w I β hp a sl) {G:Nat→V} (hg:jL P G w I) (t:TypeId) {α:Type}: ∀{l:List (Nat×Operand)} {k:Rd α} {r:α} {rd:List Nat},
  (pd ((l.map fun p=>(bd P G t sl p.2).cells).flatten) k).run C hp=some (r,rd)→
  BV P w I β hp (l.map fun p=>(p.1,a.eval p.2)) (l.map fun p=>(p.1,bd P G t sl p.2))∧∃gK,k.run C hp=some (r,gK)
 | [],k,r,rd,h=>⟨.nil,rd,h⟩
 | (i,x)::l,k,r,rd,h=>by
  simp only[iS,List.flatten_cons,Z2] at h;obtain ⟨e1,e2⟩:=QN (hs.ev hg t x) h;obtain ⟨_,l1,h⟩:=Lf h (vs:=(a.eval x).cells.toList) (by omega) (fun j u y a b=>e2 j u y (by grind) b);obtain ⟨h1,h2⟩:=Z3 hs hg t h;exact ⟨.cons e1 e2 h1,h2⟩
theorem akg (S:aB P w I β hp B M w0) {a:Act} {sl:Nat→V} (hs:nU P w I β hp a sl) {G:Nat→V} (hg:jL P G w I) {t ty:TypeId} {ps:Array (Nat×Operand)} {r:R} {rd:List Nat}
  (h:(Rd.aD (dw P t&&(cA P t&&KO P t)) (pd ((ps.toList.map fun p=>(bd P G ty sl p.2).cells).flatten)
   (BA (yT (placeOf P t) (zeroCells P t) (ps.toList.map fun p=>(p.1,bd P G ty sl p.2))) fun cs=> .ret ⟨.agg cs,[]⟩))).run C hp=some (r,rd)):
  dJ P ((Instr.build t (ps.map fun (i,x)=>(i,a.eval x))).run P w) w I β hp B M w0 r:=by
 obtain ⟨aw,h⟩:=aH h;simp only[aK] at aw;obtain ⟨h1,l,h⟩:=Z3 hs hg ty h;cases hf:yT (placeOf P t) (zeroCells P t) (ps.toList.map fun p=>(p.1,bd P G ty sl p.2)) with
 | none=>rw[hf] at h;cases h
 | some cs=>
  rw[hf] at h;obtain rfl:=ba h;obtain ⟨i,z,hi,hz,h3,h4,h5⟩:=ZV (w:=w) (I:=I) (β:=β) (hp:=hp) aw.1;obtain ⟨cells,f1,f2,f3⟩:=Z1 (placeOf P t) h1 h3 h5 hf;have Z4:=aw.2.2;refine .same S (v:= .agg cells) (akf hi hz (by simp_all) aw.2.1 (fun fs hu=> ?_) (fun n e hu=> ?_)) (.agg f2 f3)
  ·simpa[KO,hu] using Z4
  ·simpa[KO,hu] using Z4
theorem akh (dg: ∀id blk,hp id=some blk→fi P w I β hp (β id) blk) {x:V} {v:Value} {ys:List V} {fr:List (Nat×af)} {rd:List Nat} {ts:List TypeId} (hv:ai P w I β hp v x)
  (h:(w4 P x.cells).run C hp=some ((ys,fr),rd)) (ht:u9 P ts ys=true):
  v.cells.size=x.cells.length∧∀(j:Nat) u y,v.cells.toList[j]? =some u→x.cells[j]? =some y→ai P w I β hp u y:=by
 cases x with
 | agg xs=>
  obtain ⟨cs,rfl,h1,h2⟩:=hv.nW;exact ⟨h1,fun j u y a b=>h2 j u y (by simpa[Value.cells] using a) b⟩
 | _=>
  simp only[V.cells] at h⊢;simp only[w4] at h;obtain ⟨⟨y1,u1⟩,l3,l4,hq,h⟩:=oI h;obtain ⟨q1,q2⟩:=K7 dg hq hv;obtain ⟨⟨y2,u2⟩,l5,l6,sK,h⟩:=oI h;cases sK;have:=ba h;cases this;obtain ⟨tl,tg⟩:=zg ht;have fk:=tg 0 _ y1 (cp (by grind)) rfl;have fT:=q2 (lN P w I β hp u1) (fun _ _ h=> .inl h) (fun p hp b j h=> .inr ⟨p,hp,h⟩);have ho:=fT.pure fk;have ZR:v.cells= #[v]:=by cases ho<;>rfl
  grind
def BW (P:Program) (w:World) (I:Nat→Nat→Prop) (e:TypeId) (cells:Array Value) (es:List V):Prop:=
 cells.size=es.length*P.cellsOf e∧∀(i j:Nat) (x:V) (t':TypeId),es[i]? =some x→(bc P e)[j]? =some t'→j<P.cellsOf e→∃v,cells[i*P.cellsOf e+j]? =some v∧Pure P w I t' v (cu P e x j)
theorem BW.set {e:TypeId} {cells:Array Value} {es ys:List V} {i:Nat} {v:Value} (h:BW P w I e cells es) (hi:i<es.length) (hv:v.cells.size=P.cellsOf e) (hy:ys.length=P.cellsOf e)
  (hr: ∀(j:Nat) (t':TypeId) (u:Value) (y:V),(bc P e)[j]? =some t'→v.cells[j]? =some u→ys[j]? =some y→Pure P w I t' u y):
  BW P w I e (v.cells.zipIdx.foldl (fun cs (p:Value×Nat)=>cs.setIfInBounds (i*P.cellsOf e+p.2) p.1) cells) (es.set i (dP P e ys)):=by
 obtain ⟨h1,h2⟩:=h;have hb:i*P.cellsOf e+v.cells.size≤cells.size:=by
  have:(i+1)*P.cellsOf e≤es.length*P.cellsOf e:=eM _ hi;grind
 refine ⟨by rw[Z0,wR,h1],fun i' j x t' hx ht hj=> ?_⟩;rw[ZZ hb];rw[yF] at hx;by_cases nc:i=i'
 ·subst nc;rw[ah rfl,ah hi] at hx;cases hx;rw[cf,bp,show i*P.cellsOf e+j-i*P.cellsOf e=j by omega];have h3:j<v.cells.size:=by omega
  have h4:j<ys.length:=by omega
  refine ⟨v.cells[j],ml h3,?_⟩;rw[vw (cp h4) ht];exact hr j t' _ _ ht (ml h3) (cp h4)
 ·rw[ag nc] at hx;have cm:i'*P.cellsOf e+j<i*P.cellsOf e∨i*P.cellsOf e+v.cells.size≤i'*P.cellsOf e+j:=by
   rcases fI i' i with bf|qp
   ·left;have:(i'+1)*P.cellsOf e≤i*P.cellsOf e:=eM _ bf;grind
   ·right;have:(i+1)*P.cellsOf e≤i'*P.cellsOf e:=eM _ (by omega);grind
  grind
theorem Z5 {t':TypeId} {v:Value} (fk:fq P t' (qf (qW P t' v))=true):Pure P w I t' v (qf (qW P t' v)):=by
 have hc:=ai.const (P:=P) (w:=w) (I:=I) (β:=fun _=>none) (hp:=fun _=>none) t' v;cases zm:qW P t' v<;>rw[zm] at fk hc<;>simp only[qf] at fk⊢
 case int k n=>rw[hc.gF];exact Plain.pure (v:= .int k n) (y:= .int k n) rfl fk
 case bool b=>rw[hc.m7];exact Plain.pure (v:= .bool b) (y:= .bool b) rfl fk
 case str l=>obtain ⟨s,e1,e2⟩:=hc.po;rw[e1];exact Plain.pure (v:= .string s) (y:= .str l) ⟨s,rfl,e2⟩ fk
 case nilS e'=>
  cases hc;exact Plain.pure (y:= .list e' []) (lJ.any fun _=>rfl) fk
 case list e' es=>
  cases hc with
  | list hp=>exact Plain.pure (y:= .list e' es) hp fk
 all_goals (unfold fq at fk;grind)
theorem Z6 {t':TypeId} {v:Value} (fk:fq P t' (qf (qW P t' v))=true): ∀a n c,v= .slice a n c→c=0:=by
 intro a n c hv;subst hv;unfold qW at fk;split at fk<;>first|(rename_i h;cases h;rfl)|skip
 all_goals first|(simp_all;done)|(unfold fq qf at fk;split at fk<;>simp_all)
theorem Ff {e:TypeId} (h:pb P e=true): ∃i z,P.info? e=some i∧i.zero=some z∧i.size=P.cellsOf e∧z.cells.size=P.cellsOf e∧
  ∀(j:Nat) (t':TypeId),(bc P e)[j]? =some t'→j<P.cellsOf e→∃v,z.cells[j]? =some v∧Pure P w I t' v (cu P e (dP P e (iT P e)) j)∧∀a n c,v= .slice a n c→c=0:=by
 unfold pb at h;simp only[aK] at h;obtain ⟨i,z,h1,h2,h3,h4,h5⟩:=kE h.1;refine ⟨i,z,h1,h2,h3,h4,fun j t' ht hj=> ?_⟩;obtain ⟨tl,tg⟩:=zg h.2;have ej:j<(iT P e).length:=by rw[←tl,(oJ h.1).1];exact hj
 have hz:=cp ej;have fk:=tg j t' _ (by rw[←sw];exact ht) hz;refine ⟨z.cells[j],ml (by omega),?_⟩;rw[vw hz ht];have zn:(iT P e)[j]=qf (qW P t' z.cells[j]):=by
  have:(iT P e)[j]? =((zeroCells P e)[j]?).map qf:=by simp[iT]
  rw[hz] at this;cases hc:(zeroCells P e)[j]? with
  | none=>grind
  | some y=>
   rw[hc] at this;simp only[Option.map_some,eX] at this;rw[h5] at hc;obtain ⟨t2,v2,a1,a2,rfl⟩:=Ls hc;have Lt:t2=t':=by
    rw[←sw,ht] at a1;grind
   grind
 rw[zn] at fk⊢;exact ⟨Z5 fk,Z6 fk⟩
end
section
variable {P:Program} {w w':World} {I I':Nat→Nat→Prop} {β β':Nat→Option Nat} {hp hp':Nat→Option af} {C:ae} {B:Nat} {M:Nat→Prop} {w0:Start}
theorem Z7 (S:aB P w I β hp B M w0) {nb cap:Nat} {fz:Bool} {e T:TypeId} {es:List V} {C0:Array Value} (aw:dw P e=true) (hn:hp nb=none) (hs:C0.size=cap*P.cellsOf e) (hl:es.length≤cap) (hm:cap≤maxLen) (hL:sq P T e C0.size)
  (hx: ∀(i j:Nat) (x:V) (t':TypeId),es[i]? =some x→(bc P e)[j]? =some t'→j<P.cellsOf e→∃v,C0[i*P.cellsOf e+j]? =some v∧Pure P w I t' v (cu P e x j)):
  Le P w I β hp (w.alloc (.cells C0 T)) I (av β nb (some w.heap.size)) (av hp nb (some (.arr e es fz)))∧aB P (w.alloc (.cells C0 T)) I (av β nb (some w.heap.size)) (av hp nb (some (.arr e es fz))) B M w0∧
  ai P (w.alloc (.cells C0 T)) I (av β nb (some w.heap.size)) (av hp nb (some (.arr e es fz))) (.slice (some ⟨w.heap.size,0,none⟩) es.length cap) (.whole e nb):=by
 obtain ⟨h1,h2⟩:=QG S (blk:= .arr e es fz) (c:=C0) (T:=T) hn (fun b' h=>(eo (h.flat (by simp))).symm) (fun hle dU dI=> .arr hL aw rfl dU (by rw[hs];exact eM _ hl) (fun _ j h=>absurd h (dI j)) (fun _=>dI) fun i j x t' a b c=>by
  obtain ⟨v,hv,hp⟩:=hx i j x t' a b c;exact ⟨v,hv,hp.mono hle.eO hle.cZ⟩)
 refine ⟨h1,h2,.whole (bW _ _ _) (bW _ _ _) ?_ hl hm⟩;rw[lb (heap_alloc_new w (.cells C0 T)),hs]
theorem BX (S:aB P w I β hp B M w0) {nb cap:Nat} {fz:Bool} {e:TypeId} {es:List V} {C0:Array Value} (aw:dw P e=true) (hn:hp nb=none) (hs:C0.size=cap*P.cellsOf e) (hl:es.length≤cap) (hm:cap≤maxLen)
  (hx: ∀(i j:Nat) (x:V) (t':TypeId),es[i]? =some x→(bc P e)[j]? =some t'→j<P.cellsOf e→∃v,C0[i*P.cellsOf e+j]? =some v∧Pure P w I t' v (cu P e x j)):
  Le P w I β hp (w.alloc (.cells C0 e)) I (av β nb (some w.heap.size)) (av hp nb (some (.arr e es fz)))∧aB P (w.alloc (.cells C0 e)) I (av β nb (some w.heap.size)) (av hp nb (some (.arr e es fz))) B M w0∧
  ai P (w.alloc (.cells C0 e)) I (av β nb (some w.heap.size)) (av hp nb (some (.arr e es fz))) (.slice (some ⟨w.heap.size,0,none⟩) es.length cap) (.whole e nb):=
 Z7 S aw hn hs hl hm sq.self hx
theorem Z8 {b n:Nat} {Ca C':Array Value} {T T':TypeId} {f f':Nat×Nat} (hh:w.heap[b]? =some (.cells Ca T f)) (y8:w'.heap[b]? =some (.cells C' T' f')) (hI: ∀j,I b j→j<n) (hp: ∀j,j<n→C'[j]? =Ca[j]?) (j:Nat) (h:I b j):
  w'.cell? ⟨b,j,none⟩=w.cell? ⟨b,j,none⟩:=by
 rw[cell?_cells hh,cell?_cells y8];grind
theorem Q7 {b n:Nat} {fz:Bool} (hf:fz=true→∀j,I b j→j<n) (fR:fz=false→∀j,¬I b j): ∀j,I b j→j<n:=by
 intro j h;cases fz with
 | true=>grind
 | false=>grind
theorem At.only {b b':Nat} {e e' T:TypeId} {es aQ:List V} {q:Path} {Ca:Array Value} {f:Nat×Nat} (hh:w.heap[b]? =some (.cells Ca T f)) (hz: ∀(i j:Nat) x t' v,es[i]? =some x→(bc P e)[j]? =some t'→Ca[i*P.cellsOf e+j]? =some v→∀a n c,v= .slice a n c→c=0)
  (h:At P w b e es q b' e' aQ):q=[]∧b'=b∧e'=e∧aQ=es:=by
 cases h with
 | here=>grind
 | step h1 h2 h3 h4 h5 h6 h7=>grind
theorem pj.tJ {t:TypeId} {v:Value} {x:V} (h:Pure P w I t v x) (hc: ∀a n c,v= .slice a n c→c=0):pj P w I t v x:=by
 cases h with
 | int h=>exact .gv (by unfold ez;rw[h]) (.int h)
 | bool h=>exact .gv (by unfold ez;rw[h]) (.bool h)
 | str h hl=>exact .gv (by unfold ez;rw[h]) (.str h hl)
 | nil h=>exact .emp h
 | emp h=>have:=hc _ _ _ rfl;subst this;exact .emp h
 | list g hu hl hle _ _ _=>
  have:=hc _ _ _ rfl;subst this;obtain rfl:=tA.1 hle;obtain rfl:=wM.1 hl;exact .emp hu
theorem Z9 (S:aB P w I β hp B M w0) {nb cap:Nat} {e T:TypeId} {es:List V} {C0:Array Value} (aw:dw P e=true) (hn:hp nb=none) (hs:C0.size=cap*P.cellsOf e) (hl:es.length≤cap) (hm:cap≤maxLen) (hL:sq P T e C0.size)
  (hx: ∀(i j:Nat) (x:V) (t':TypeId),es[i]? =some x→(bc P e)[j]? =some t'→j<P.cellsOf e→∃v,C0[i*P.cellsOf e+j]? =some v∧Pure P w I t' v (cu P e x j)∧∀a n c,v= .slice a n c→c=0):
  Le P w I β hp (w.alloc (.cells C0 T)) I (av β nb (some w.heap.size)) (av hp nb (some (.nest e es [0,0,0])))∧aB P (w.alloc (.cells C0 T)) I (av β nb (some w.heap.size)) (av hp nb (some (.nest e es [0,0,0]))) B M w0∧
  ai P (w.alloc (.cells C0 T)) I (av β nb (some w.heap.size)) (av hp nb (some (.nest e es [0,0,0]))) (.slice (some ⟨w.heap.size,0,none⟩) es.length cap) (.whole e nb):=by
 have hz: ∀(i j:Nat) x t' v,es[i]? =some x→(bc P e)[j]? =some t'→C0[i*P.cellsOf e+j]? =some v→∀a n c,v= .slice a n c→c=0:=fun i j x t' v a b h=>by
  obtain ⟨v',h1,_,h3⟩:=hx i j x t' a b (by rw[←fM aw];grind);grind
 obtain ⟨h1,h2⟩:=QG S (blk:= .nest e es [0,0,0]) (c:=C0) (T:=T) hn (fun b' h=>by
   cases h with
   | root _ h=>grind
   | row h ha=>cases h;exact (At.only (heap_alloc_new w _) hz ha).2.1)
  (fun hle dU dI=> .nest rfl (fun q b' e' aQ ha=>by
   obtain ⟨rfl,rfl,rfl,rfl⟩:=At.only dU hz ha;refine ⟨aw,⟨C0,_,dU,hL,by rw[hs];exact eM _ hl,fun i j x t' a b c=> ?_⟩,dI⟩;obtain ⟨v,hv,hp⟩:=hx i j x t' a b c;exact ⟨v,hv,.tJ (hp.1.mono hle.eO hle.cZ) hp.2⟩)
   fun q1 q2 b' e1 dD e2 cb a1 a2=>(At.only dU hz a1).1.trans (At.only dU hz a2).1.symm)
 refine ⟨h1,h2,.ee (bW _ _ _) (bW _ _ _) ?_ hl hm⟩;rw[lb (heap_alloc_new w (.cells C0 T)),hs]
theorem aki (S:aB P w I β hp B M w0) {nb cap:Nat} {e:TypeId} {es:List V} {C0:Array Value} (aw:dw P e=true) (hn:hp nb=none) (hs:C0.size=cap*P.cellsOf e) (hl:es.length≤cap) (hm:cap≤maxLen)
  (hx: ∀(i j:Nat) (x:V) (t':TypeId),es[i]? =some x→(bc P e)[j]? =some t'→j<P.cellsOf e→∃v,C0[i*P.cellsOf e+j]? =some v∧Pure P w I t' v (cu P e x j)∧∀a n c,v= .slice a n c→c=0):
  Le P w I β hp (w.alloc (.cells C0 e)) I (av β nb (some w.heap.size)) (av hp nb (some (.nest e es [0,0,0])))∧aB P (w.alloc (.cells C0 e)) I (av β nb (some w.heap.size)) (av hp nb (some (.nest e es [0,0,0]))) B M w0∧
  ai P (w.alloc (.cells C0 e)) I (av β nb (some w.heap.size)) (av hp nb (some (.nest e es [0,0,0]))) (.slice (some ⟨w.heap.size,0,none⟩) es.length cap) (.whole e nb):=
 Z9 S aw hn hs hl hm sq.self hx
theorem akj (S:aB P w I β hp B M w0) {e:TypeId} {nb:Nat} {r:R} {rd:List Nat} (h:(Qg P nb e).run C hp=some (r,rd)):dJ P ((Instr.alloc e true (.tuple #[])).run P w) w I β hp B M w0 r:=by
 unfold Qg at h;split at h
 ·rename_i n e1 hu;obtain ⟨hc,h1⟩:=aH h;clear h;simp only[aK,aZ,fp,nH,gD] at hc;obtain ⟨aw,oN,oP,hn,hm,gS,fk,aaa⟩:=hc;obtain ⟨BY,rfl⟩:=mB h1;obtain ⟨i,z,hi,hz,h3,h4,h5⟩:=kE aw;have kC:bc P e1=[e1]:=by simp[bc,oP]
  have hk:P.cellsOf e1=1:=by rw[←fM oN,kC];rfl
  have hlen:((zeroCells P e).map qf).length≤n:=by
   rw[h5,cH,←hn,←h4];have go: ∀(ts:List TypeId) (vs:List Value),(j6 P ts vs).length≤vs.length:=by
    intro ts
    induction ts with
    | nil=>intro vs;simp[j6]
    | cons t ts ih=>intro vs;cases vs with
     | nil=>simp[j6]
     | cons v vs=>simpa[j6] using ih vs
   grind
  have hx: ∀(i j:Nat) (x:V) (t':TypeId),((zeroCells P e).map qf)[i]? =some x→(bc P e1)[j]? =some t'→j<P.cellsOf e1→∃v,z.cells[i*P.cellsOf e1+j]? =some v∧Pure P w I t' v (cu P e1 x j)∧∀a n c,v= .slice a n c→c=0:=by
   intro i j x t' hx ht hj;rw[hk] at hj⊢;obtain rfl:j=0:=by omega
   rw[kC] at ht;simp only[List.getElem?_cons_zero,eX] at ht;subst ht;have Lu:=gD.1 fk x (mU hx);rw[gE] at hx;cases hc:(zeroCells P e)[i]? with
   | none=>grind
   | some y=>
    rw[hc] at hx;cases hx;rw[h5] at hc;obtain ⟨t2,v2,a1,a2,rfl⟩:=Ls hc;have Lt:e1=t2:=by simpa using gS t2 (mU a1)
    subst Lt;simp only[cu,oP,cond_false];exact ⟨v2,by grind,Z5 Lu,Z6 Lu⟩
  have hL:sq P e e1 z.cells.size:=fun hb _ k vB=>by
   grind
  have da:(Instr.alloc e true (.tuple #[])).run P w= .ok (.pointer (some ⟨w.heap.size,0,none⟩)) (w.alloc (.cells z.cells e)):=by
   simp[Instr.alloc,zeroValue,typeInfo,hi,hz,newVar,newRow]
  have hs:z.cells.size=n*P.cellsOf e1:=by grind
  cases ez P e1 with
  | true=>
   obtain ⟨a,b,_⟩:=Z7 S (nb:=nb) (fz:=false) oN BY hs hlen hm hL fun i j x t' p q r=>(hx i j x t' p q r).imp fun _ h=>⟨h.1,h.2.1⟩
   refine ⟨_,_,_,_,da,a,b,?_⟩;have:=ai.ptr (P:=P) (w:=w.alloc (.cells z.cells e)) (I:=I) (β:=av β nb (some w.heap.size)) (hp:=av hp nb (some (.arr e1 ((zeroCells P e).map qf) false))) (i:=0) (c:=0) (bW _ _ _) (by simp) (bW _ _ _);rw[Nat.zero_mul] at this;exact this
  | false=>
   obtain ⟨a,b,_⟩:=Z9 S (nb:=nb) oN BY hs hlen hm hL hx;refine ⟨_,_,_,_,da,a,b,?_⟩;have:=ai.ptr (P:=P) (w:=w.alloc (.cells z.cells e)) (I:=I) (β:=av β nb (some w.heap.size)) (hp:=av hp nb (some (.nest e1 ((zeroCells P e).map qf) [0,0,0]))) (i:=0) (c:=0) (bW _ _ _) (by simp) (bW _ _ _);rw[Nat.zero_mul] at this;exact this
 ·cases h
theorem aab (dg: ∀id blk,hp id=some blk→fi P w I β hp (β id) blk) {a:Act} {sl:Nat→V} (hs:nU P w I β hp a sl) {G:Nat→V} (hg:jL P G w I) {e:TypeId} {len:Nat}: ∀{l:List (Nat×Operand)} {ps:List (Nat×V)} {upd:List (Nat×af)} {rd:List Nat},
  (Es P e len (l.map fun p=>(p.1,bd P G e sl p.2))).run C hp=some ((ps,upd),rd)→dw P e=true→(∀p∈upd,BI hp p)∧∀I':Nat→Nat→Prop,(∀b j,I b j→I' b j)→(∀p∈upd,∀b j,xi P w β hp p.1 b j→I' b j)→
   ∀(cells:Array Value) (es:List V),es.length=len→BW P w I' e cells es→∃tU,Instr.fill (fun i=>some (i*P.cellsOf e,P.cellsOf e)) cells (l.map fun p=>(p.1,a.eval p.2))=some tU∧BW P w I' e tU (Er es ps)∧(Er es ps).length=len
 | [],ps,upd,rd,h,_=>by
  cases h;exact ⟨by simp,fun I' _ _ cells es hl he=>⟨cells,by simp[Instr.fill],he,hl⟩⟩
 | (i,x)::l,ps,upd,rd,h,aw=>by
  simp only[iS,Es] at h;obtain ⟨⟨ys,u1⟩,l1,l2,h1,h⟩:=oI h;obtain ⟨hc,h⟩:=aH h;obtain ⟨⟨ps',u2⟩,l3,l4,h2,h⟩:=oI h;have:=ba h;cases this;simp only[aK,oC] at hc;obtain ⟨hi,fk⟩:=hc;obtain ⟨tl,tg⟩:=zg fk;have qn:=hs.ev hg e x;obtain ⟨v1,v2⟩:=akh dg qn h1 fk;obtain ⟨k1,k2,k3⟩:=QD dg h1 (vs:=(a.eval x).cells.toList) (by omega) v2;obtain ⟨m1,m2⟩:=aab dg hs hg h2 aw;refine ⟨fun p hp=> ?_,fun I' i1 i2 cells es hl he=> ?_⟩
  ·grind
  ·have fT:=k3 I' i1 (fun p hp=>i2 p (eW.2 (.inl hp)));have br:=(oJ aw).1;have xt:ys.length=P.cellsOf e:=by omega
   have Li:(a.eval x).cells.size=P.cellsOf e:=by omega
   have BZ:=he.set (i:=i) (ys:=ys) (by omega) Li xt (fun j t' u y ht hu hy=>by
    exact (fT j u y (by grind) hy).pure (tg j t' y (by rw[←sw];exact ht) hy))
   obtain ⟨tU,f1,f2,f3⟩:=m2 I' i1 (fun p hp=>i2 p (eW.2 (.inr hp))) _ (es.set i (dP P e ys)) (by grind) BZ;refine ⟨tU,?_,f2,f3⟩;have hb:i*P.cellsOf e+P.cellsOf e≤cells.size:=by
    rw[he.1,hl];have:(i+1)*P.cellsOf e≤len*P.cellsOf e:=eM _ hi;grind
   simp only[iS,Instr.fill];grind
theorem aac {z:Array Value} {n k:Nat} (hk:k<n) (hz:0<z.size):((Array.range n).map (z[· %z.size]!))[k]? =z[k %z.size]? :=by
 have hm:k %z.size<z.size:=Bg _ hz;grind
theorem aad {e:TypeId} (h:pb P e=true) {i:TypeInfo} {z:Value} (hi:P.info? e=some i) (hz:i.zero=some z) (n m:Nat) (qd:n≤m):
  ∀(k j:Nat) (x:V) (t':TypeId),(List.replicate n (dP P e (iT P e)))[k]? =some x→(bc P e)[j]? =some t'→j<P.cellsOf e→
   ∃v,((Array.range (m*P.cellsOf e)).map (z.cells[· %z.cells.size]!))[k*P.cellsOf e+j]? =some v∧Pure P w I t' v (cu P e x j)∧∀a n c,v= .slice a n c→c=0:=by
 intro k j x t' hx ht hj;obtain ⟨i2,z2,h1,h2,h3,h4,h5⟩:=Ff (w:=w) (I:=I) h;rw[hi] at h1;cases h1;rw[hz] at h2;cases h2;rw[D7] at hx;split at hx
 ·rename_i hk;cases hx;obtain ⟨v,hv,hp⟩:=h5 j t' ht hj;refine ⟨v,?_,hp⟩;have hb:k*P.cellsOf e+j<m*P.cellsOf e:=by
   have:(k+1)*P.cellsOf e≤m*P.cellsOf e:=eM _ (by omega);grind
  rw[aac hb (by omega),h4,show (k*P.cellsOf e+j) %P.cellsOf e=j by rw[mo,Nat.mul_add_mod];exact D8 hj];exact hv
 ·cases hx
theorem Q8 {e:TypeId} (h:pb P e=true) {i:TypeInfo} {z:Value} (hi:P.info? e=some i) (hz:i.zero=some z) (n m:Nat) (qd:n≤m):
  ∀(k j:Nat) (x:V) (t':TypeId),(List.replicate n (dP P e (iT P e)))[k]? =some x→(bc P e)[j]? =some t'→j<P.cellsOf e→
   ∃v,((Array.range (m*P.cellsOf e)).map (z.cells[· %z.cells.size]!))[k*P.cellsOf e+j]? =some v∧Pure P w I t' v (cu P e x j):=fun k j x t' a b c=>(aad h hi hz n m qd k j x t' a b c).imp fun _ h=>⟨h.1,h.2.1⟩
theorem Q9 {P:Program} (w:World) (t e:TypeId) (len:Nat) (parts:Array (Nat×Value)) (cells:Array Value) (ie:TypeInfo) (z:Value)
  (hu:P.underlying t=some (.slice e)) (nf:P.info? e=some ie) (hz:ie.zero=some z) (akk: ¬len*ie.size>2^24)
  (h:Instr.fill (fun i=>some (i*ie.size,ie.size)) ((Array.range (len*ie.size)).map (z.cells[· %z.cells.size]!)) parts.toList=some cells):
  (Instr.buildSlice t len parts).run P w= .ok (.slice (some ⟨w.heap.size,0,none⟩) len len) (w.alloc (.cells cells e)):=by
 by_cases qd:len*ie.size=0
 ·have h0: ∀g:Nat→Value,(Array.range (len*ie.size)).map g= #[]:=by grind
  have hp: ∀(u:Array Value),(Pure.pure u:Sem (Array Value)).run P w= .ok u w:=fun _=>rfl;rw[h0] at h;simp only[Instr.buildSlice,Sem.run_bind,run_underlying hu,Result.andThen_ok,sizeOf,typeInfo,nf];have h1:(Array.range (len*ie.size)).map (fun _:Nat=>(default:Value))= #[]:=h0 _;have hs: ¬16777216<len*ie.size:=by omega
  simp[nf,hs,qd];simp only[qd] at h1;simp[h1,h,newRow]
 ·exact run_buildSlice w t e len parts cells ie z hu nf hz akk qd h
theorem aae (S:aB P w I β hp B M w0) {a:Act} {sl:Nat→V} (hs:nU P w I β hp a sl) {G:Nat→V} (hg:jL P G w I) {t e:TypeId} {len nb:Nat} {ps:Array (Nat×Operand)} {r:R} {rd:List Nat} (hu:P.underlying t=some (.slice e))
  (h:(Rd.aD (pb P e&&Nat.ble (len*P.cellsOf e) (2^24)) ((Es P e len (ps.toList.map fun p=>(p.1,bd P G e sl p.2))).bind fun r=>
    jh nb (.arr e (Er (List.replicate len (dP P e (iT P e))) r.1) false) (.whole e nb) r.2)).run C hp=some (r,rd)):
  dJ P ((Instr.buildSlice t len (ps.map fun (i,x)=>(i,a.eval x))).run P w) w I β hp B M w0 r:=by
 obtain ⟨hc,h⟩:=aH h;simp only[aK,fp] at hc;obtain ⟨fF,EO⟩:=hc;have aw:dw P e=true:=by
  unfold pb at fF;grind
 obtain ⟨⟨pv,upd⟩,l1,l2,h1,h⟩:=oI h;obtain ⟨hn,rfl⟩:=mB h;obtain ⟨m1,m2⟩:=aab S.h.rel hs hg h1 aw;obtain ⟨tR,S1⟩:=EU S m1;obtain ⟨i,z,hi,hz,h3,h4,_⟩:=Ff (w:=w) (I:=I) fF;have kF:=(oJ aw).2;have h0:BW P w (lN P w I β hp upd) e ((Array.range (len*P.cellsOf e)).map (z.cells[· %z.cells.size]!)) (List.replicate len (dP P e (iT P e))):=
  ⟨by simp,Q8 fF hi hz len len (az _)⟩
 obtain ⟨cells,f1,f2,f3⟩:=m2 (lN P w I β hp upd) (fun _ _ h=> .inl h) (fun p hp b j h=> .inr ⟨p,hp,h⟩) _ _ (by simp) h0;have ja:cB hp upd nb=none:=by
  rcases y7 (hp:=hp) (l:=upd) (id:=nb) with h|⟨b',hm,_⟩
  ·grind
  ·obtain ⟨e1,dD,_,h5⟩:=m1 _ hm;grind
 have sy:len≤maxLen:=by
  have:len*1≤len*P.cellsOf e:=wS _ kF;simp only[maxLen];omega
 obtain ⟨n1,n2,n3⟩:=BX S1 (cap:=len) aw ja (by rw[f2.1,f3]) (by omega) sy f2.2;have da:=Q9 w t e len (ps.map fun (i,x)=>(i,a.eval x)) cells i z hu hi hz (by grind) (by simp_all);refine ⟨_,_,_,_,da,tR.trans n1,n2,?_⟩;rw[f3] at n3;exact n3
theorem aaf (S:aB P w I β hp B M w0) {t e:TypeId} {nb:Nat} {kl kc:IntKind} {n m:Int} {r:R} {rd:List Nat} (hu:P.underlying t=some (.slice e))
  (h:(Rd.aD (pb P e&&(decide (0≤n)&&(decide (n≤m)&&Nat.ble (m.toNat*P.bytesOf e) aX)))
    (jh nb (.arr e (List.replicate n.toNat (dP P e (iT P e))) false) (.whole e nb) [])).run C hp=some (r,rd)):
  dJ P ((Instr.makeSlice t (.int kl n) (.int kc m)).run P w) w I β hp B M w0 r:=by
 obtain ⟨hc,h⟩:=aH h;simp only[aK,fp,fo] at hc;obtain ⟨fF,h0,qd,eI⟩:=hc;have aw:dw P e=true:=by
  unfold pb at fF;grind
 obtain ⟨hn,rfl⟩:=mB h;obtain ⟨i,z,hi,hz,h3,h4,_⟩:=Ff (w:=w) (I:=I) fF;have nZ:P.bytesOf e=i.bytes:=by simp[Program.bytesOf,hi]
 have Ra:m≤9223372036854775807:=by
  have h1:m.toNat*1≤m.toNat*P.bytesOf e:=wS _ (y6 aw);simp only[aX] at eI;omega
 have da:=run_make (P:=P) w t e i z hu hi hz kl kc n m h0 qd (by
  rw[nZ] at eI;simp only[aX] at eI;grind) Ra
 have hlen:(List.replicate n.toNat (dP P e (iT P e))).length=n.toNat:=by simp
 obtain ⟨n1,n2,n3⟩:=BX S (cap:=m.toNat) (es:=List.replicate n.toNat (dP P e (iT P e))) (C0:=madeCells z.cells (m.toNat*i.size)) aw hn (by rw[size_madeCells,h3]) (by omega) (by simp only[maxLen];omega)
  (by rw[h3];exact Q8 fF hi hz n.toNat m.toNat (by omega))
 refine ⟨_,_,_,_,da,n1,n2,?_⟩;rw[hlen] at n3;exact n3
theorem akl (S:aB P w I β hp B M w0) {t e:TypeId} {nb:Nat} {kl kc:IntKind} {n m:Int} {r:R} {rd:List Nat} (hu:P.underlying t=some (.slice e))
  (h:(Rd.aD (pb P e&&(decide (0≤n)&&(decide (n≤m)&&Nat.ble (m.toNat*P.bytesOf e) aX)))
    (jh nb (.nest e (List.replicate n.toNat (dP P e (iT P e))) [0,0,0]) (.whole e nb) [])).run C hp=some (r,rd)):
  dJ P ((Instr.makeSlice t (.int kl n) (.int kc m)).run P w) w I β hp B M w0 r:=by
 obtain ⟨hc,h⟩:=aH h;simp only[aK,fp,fo] at hc;obtain ⟨fF,h0,qd,eI⟩:=hc;have aw:dw P e=true:=by
  unfold pb at fF;grind
 obtain ⟨hn,rfl⟩:=mB h;obtain ⟨i,z,hi,hz,h3,h4,_⟩:=Ff (w:=w) (I:=I) fF;have nZ:P.bytesOf e=i.bytes:=by simp[Program.bytesOf,hi]
 have Ra:m≤9223372036854775807:=by
  have h1:m.toNat*1≤m.toNat*P.bytesOf e:=wS _ (y6 aw);simp only[aX] at eI;omega
 have da:=run_make (P:=P) w t e i z hu hi hz kl kc n m h0 qd (by
  rw[nZ] at eI;simp only[aX] at eI;grind) Ra
 have hlen:(List.replicate n.toNat (dP P e (iT P e))).length=n.toNat:=by simp
 obtain ⟨n1,n2,n3⟩:=aki S (cap:=m.toNat) (es:=List.replicate n.toNat (dP P e (iT P e))) (C0:=madeCells z.cells (m.toNat*i.size)) aw hn (by rw[size_madeCells,h3]) (by omega) (by simp only[maxLen];omega)
  (by rw[h3];exact aad fF hi hz n.toNat m.toNat (by omega))
 refine ⟨_,_,_,_,da,n1,n2,?_⟩;rw[hlen] at n3;exact n3
theorem Pure.one {t:TypeId} {v:Value} {x:V} (h:Pure P w I t v x):v.oneCell'=true:=by cases h<;>rfl
structure Row (P:Program) (w:World) (I:Nat→Nat→Prop) (e:TypeId) (v:Value) (xs:List V) (a:Addr) (c:Nat) (news:List Value):Prop where
 val:v= .slice (some a) xs.length c
 len:news.length=xs.length*P.cellsOf e
 cell: ∀(j:Nat) u,news[j]? =some u→w.cell? (a.add j)=some u
 el: ∀(i j:Nat) (x:V) (t':TypeId),xs[i]? =some x→(bc P e)[j]? =some t'→j<P.cellsOf e→∃u,news[i*P.cellsOf e+j]? =some u∧Pure P w I t' u (cu P e x j)
theorem Row.one {e:TypeId} {v:Value} {xs:List V} {a:Addr} {c:Nat} {news:List Value} (h:Row P w I e v xs a c news) (aw:dw P e=true): ∀u∈news,u.oneCell'=true:=by
 intro u hu;obtain ⟨k,hk⟩:=tB hu;have qq:=(cL.1 hk).1;have kF:=(oJ aw).2;rw[h.len] at qq;have hi:k/P.cellsOf e<xs.length:=Nat.div_lt_of_lt_mul (by grind);have hj:k %P.cellsOf e<P.cellsOf e:=Bg _ kF;have jM:k %P.cellsOf e<(bc P e).length:=by rw[fM aw];exact hj
 obtain ⟨u',kD,hp⟩:=h.el (k/P.cellsOf e) (k %P.cellsOf e) _ _ (cp hi) (cp jM) hj;rw[Nat.div_add_mod'] at kD;rw[hk] at kD;cases kD;exact hp.one
theorem aag {e T:TypeId} {es:List V} {b:Nat} {Ca:Array Value} {off len cap o:Nat} (hh:w.heap[b]? =some (.cells Ca T (0,0))) (hs:es.length*P.cellsOf e≤Ca.size)
  (hx: ∀(i j:Nat) (x:V) (t':TypeId),es[i]? =some x→(bc P e)[j]? =some t'→j<P.cellsOf e→∃v,Ca[i*P.cellsOf e+j]? =some v∧Pure P w I t' v (cu P e x j))
  (lK:off+len≤es.length) (ho:0<len→o=off*P.cellsOf e):
  Row P w I e (.slice (some ⟨b,o,none⟩) len cap) ((es.drop off).take len) ⟨b,o,none⟩ cap ((Ca.toList.drop (off*P.cellsOf e)).take (len*P.cellsOf e)):=by
 have hlen:((es.drop off).take len).length=len:=by simp;omega
 have hb:(off+len)*P.cellsOf e≤Ca.size:=kR (eM _ lK) hs;rw[kq] at hb;refine ⟨by rw[hlen],by grind,fun j u hj=> ?_,fun i j x t' m8 ht hj=> ?_⟩
 ·have ej:=(cL.1 hj).1;have akm:j<len*P.cellsOf e:=by
   grind
  have mA:0<len:=by
   grind
  rw[iJ akm,qU] at hj;rw[oL,cell?_cells hh,ho mA];grind
 ·have hi:i<len:=by grind
  rw[iJ hi,qU] at m8;obtain ⟨u,hu,hp⟩:=hx (off+i) j x t' m8 ht hj;refine ⟨u,?_,hp⟩;have:i*P.cellsOf e+j<len*P.cellsOf e:=by
   have:(i+1)*P.cellsOf e≤len*P.cellsOf e:=eM _ hi;grind
  grind
theorem Fg (dg: ∀id blk,hp id=some blk→fi P w I β hp (β id) blk) {e:TypeId} {v:Value} {x:V} {k:List V→Rd R} {r:R} {rd:List Nat} (aw:dw P e=true) (hv:ai P w I β hp v x)
  (h:(vc e x k).run C hp=some (r,rd)): ∃xs,(((∃a,v= .slice a 0 0)∧xs=[])∨∃a c news,Row P w I e v xs a c news)∧∃l,(k xs).run C hp=some (r,l):=by
 cases hv with
 | list hp'=>
  obtain ⟨hc,h2⟩:=aH h;clear h;rw[aZ] at hc;subst hc;cases hp' with
  | nil=>grind
  | @emp a cap=>exact ⟨[],.inr ⟨a,cap,[],⟨rfl,by simp,fun j u hj=>by simp at hj,fun i j x t' hx _ _=>by simp at hx⟩⟩,rd,h2⟩
  | @list b o len cap es g hl cg hI gJ hx=>
   refine ⟨_,.inr ⟨⟨b,o,none⟩,cap,(List.range (len*P.cellsOf e)).map fun k=>g (k/P.cellsOf e) (k %P.cellsOf e),⟨by rw[hl],by grind,fun j u hj=> ?_,fun i j x t' m8 ht hj=> ?_⟩⟩,rd,h2⟩
   ·obtain ⟨ej,ze⟩:=cL.1 hj;simp at ej ze;have kF:=(oJ aw).2;have hi:j/P.cellsOf e<len:=Nat.div_lt_of_lt_mul (by grind);have cS:j %P.cellsOf e<P.cellsOf e:=Bg _ kF;rw[oL,←ze];have:=gJ (j/P.cellsOf e) (j %P.cellsOf e) hi cS;rwa [Nat.div_add_mod'] at this
   ·have hi:i<len:=by grind
    have hb:i*P.cellsOf e+j<len*P.cellsOf e:=by
     have:(i+1)*P.cellsOf e≤len*P.cellsOf e:=eM _ hi;grind
    refine ⟨g i j,?_,hx i j x t' m8 ht⟩;have e1:(i*P.cellsOf e+j)/P.cellsOf e=i:=by
     rw[mo,D9 (oJ aw).2,Ea hj,Nat.add_zero]
    have e2:(i*P.cellsOf e+j) %P.cellsOf e=j:=by
     rw[mo,Nat.mul_add_mod];exact D8 hj
    grind
 | nilS=>
  obtain ⟨hc,h⟩:=aH h;grind
 | ep ab hb=>
  obtain ⟨l,h⟩:=run_get h;simp only[ab] at h;obtain ⟨hc,h⟩:=aH h;grind
 | @whole e' id es fz b cap ab hb br cg hm=>
  obtain ⟨l,h⟩:=run_get h;simp only[ab] at h;obtain ⟨hc,h2⟩:=aH h;clear h;simp only[aK,aZ] at hc;obtain ⟨rfl,_⟩:=hc;have hr:=dg _ _ ab;cases hr with
  | eZ aA=>grind
  | arr hL QL aA hh hs hf fR hx=>
   rw[hb] at aA;cases aA;have:=aag (cap:=cap) (off:=0) (len:=es.length) (o:=0) hh hs hx (by omega) (fun _=>by simp);grind
 | jo ab hb=>
  obtain ⟨l,h⟩:=run_get h;simp only[ab] at h;obtain ⟨hc,h⟩:=aH h;grind
 | @sub e' id off len es fz b o cap ab hb lK cg ho=>
  obtain ⟨l,h⟩:=run_get h;simp only[ab] at h;obtain ⟨hc,h2⟩:=aH h;clear h;simp only[aK,aZ] at hc;obtain ⟨rfl,_⟩:=hc;have hr:=dg _ _ ab;cases hr with
  | eZ aA=>grind
  | arr hL QL aA hh hs hf fR hx=>
   rw[hb] at aA;cases aA;exact ⟨_,.inr ⟨_,_,_,aag (cap:=cap) hh hs hx lK ho⟩,l,h2⟩
 | eD ab=>
  obtain ⟨l,h⟩:=run_get h;simp only[ab] at h;cases h
 | jJ ab=>
  obtain ⟨l,h⟩:=run_get h;simp only[ab] at h;cases h
 | undef=>cases h
 | int=>cases h
 | bool=>cases h
 | str=>cases h
 | agg=>cases h
 | bK=>cases h
 | fg=>cases h
 | fn=>cases h
 | pref=>cases h
 | mw=>cases h
 | ptr=>cases h
 | my=>cases h
 | mz=>cases h
 | row=>cases h
 | dS=>cases h
 | eY=>cases h
 | kZ=>cases h
 | cD=>cases h
 | eF ab=>
  obtain ⟨l,h⟩:=run_get h;simp only[ab] at h;cases h
 | fD ab=>
  obtain ⟨l,h⟩:=run_get h;simp only[ab] at h;cases h
 | ee ab=>
  obtain ⟨l,h⟩:=run_get h;simp only[ab] at h;cases h
theorem B0 {t ty e:TypeId} {i:TypeInfo} (ht:P.underlying t=some (.slice e)) (hi:P.info? e=some i) (a:Option Addr) (n cap:Nat) (x:Value) (hx: ∃a c,x= .slice a 0 c) (hn:n≤cap):
  (Builtin.append_ #[t,t] ty #[.slice a n cap,x]).run P w= .ok (.slice a n cap) w:=by
 obtain ⟨a',c,rfl⟩:=hx;cases a' with
 | none=>cases a<;>simp[Builtin.append_,run_underlying ht,sizeOf,typeInfo,hi,Builtin.lenOf,Builtin.firstCells,hn,storeCells]
 | some a'=>cases a<;>simp[Builtin.append_,run_underlying ht,sizeOf,typeInfo,hi,Builtin.lenOf,Builtin.firstCells,hn,storeCells,loadCells,loadCellsFrom]
theorem Lv {e:TypeId} {es xs:List V} {n:Nat} {c:List Value} {news:List Value} (hn:es.length=n)
  (h1: ∀(i j:Nat) (x:V) (t':TypeId),es[i]? =some x→(bc P e)[j]? =some t'→j<P.cellsOf e→∃v,c[i*P.cellsOf e+j]? =some v∧Pure P w I t' v (cu P e x j))
  (h2: ∀(i j:Nat) (x:V) (t':TypeId),xs[i]? =some x→(bc P e)[j]? =some t'→j<P.cellsOf e→∃v,news[i*P.cellsOf e+j]? =some v∧Pure P w I t' v (cu P e x j))
  (hb:n*P.cellsOf e≤c.length) (rest:List Value):
  ∀(i j:Nat) (x:V) (t':TypeId),(es++xs)[i]? =some x→(bc P e)[j]? =some t'→j<P.cellsOf e→∃v,(c.take (n*P.cellsOf e)++news++rest)[i*P.cellsOf e+j]? =some v∧Pure P w I t' v (cu P e x j):=by
 intro i j x t' hx ht hj;have hl:(c.take (n*P.cellsOf e)).length=n*P.cellsOf e:=by simp;omega
 by_cases hi:i<n
 ·rw[oD (by omega)] at hx;obtain ⟨v,hv,hp⟩:=h1 i j x t' hx ht hj;have:i*P.cellsOf e+j<n*P.cellsOf e:=by
   have:(i+1)*P.cellsOf e≤n*P.cellsOf e:=eM _ hi;grind
  grind
 ·rw[oE (by omega),hn] at hx;obtain ⟨v,hv,hp⟩:=h2 (i-n) j x t' hx ht hj;have lj:i-n<xs.length:=(cL.1 hx).1;have e1:i*P.cellsOf e+j-n*P.cellsOf e=(i-n)*P.cellsOf e+j:=by
   rw[Nat.sub_mul];have:n*P.cellsOf e≤i*P.cellsOf e:=eM _ (by omega);omega
  have h3:(i-n)*P.cellsOf e+j<news.length:=(cL.1 hv).1;refine ⟨v,?_,hp⟩;have h4:n*P.cellsOf e≤i*P.cellsOf e+j:=by
   have:n*P.cellsOf e≤i*P.cellsOf e:=eM _ (by omega);omega
  grind
theorem Pure.drew {t:TypeId} {v:Value} {x:V} (h:Pure P w I t v x):Pure P w.drew I t v x:=Pure.mono (w:=w) (w':=w.drew) (fun _ _ h=>h) (fun _ _ _=>rfl) h
theorem aah (w:World) (t ty e:TypeId) (i:TypeInfo) (z:Value) (ht:P.underlying t=some (.slice e)) (hi:P.info? e=some i) (hz:i.zero=some z)
  (a0:Option Addr) (a:Addr) (n c:Nat) (news:List Value) (hl:news.length=n*i.size) (tW: ∀j v,news[j]? =some v→w.cell? (a.add j)=some v)
  (h0:0<n) (Fh:(n:Int)≤9223372036854775807) (Lw:n*i.bytes≤281474976710656):
  (Builtin.append_ #[t,t] ty #[.slice a0 0 0,.slice (some a) n c]).run P w=
   .ok (.slice (some ⟨w.heap.size,0,none⟩) n (grownCap w n 0 e)) (w.drew.alloc (.cells (news.toArray++Builtin.zeroCells z.cells (grownCap w n 0 e-n)) e)):=by
 cases a0 with
 | none=>exact run_append_nil w t ty e i z ht hi hz a n c news hl tW h0 Fh Lw
 | some b=>
  have:=run_append_grow (P:=P) w t ty e i z ht hi hz b 0 0 [] (by simp) (by simp) a n c news hl tW (by omega) (by omega) (by rw[ed,nextslicecap_zero h0];omega);grind
theorem Rb (S:aB P w I β hp B M w0) {t ty e:TypeId} {nb:Nat} {fz:Bool} {x:Value} {xs:List V} (hu:P.underlying t=some (.slice e)) (aw:dw P e=true) (hn:hp nb=none)
  (eI:xs.length*P.bytesOf e≤aX) {a0:Option Addr} (hx:((∃a,x= .slice a 0 0)∧xs=[])∨∃a c news,Row P w I e x xs a c news):
  ∃v w' β',(Builtin.append_ #[t,t] ty #[.slice a0 0 0,x]).run P w= .ok v w'∧Le P w I β hp w' I β' (av hp nb (some (.arr e xs fz)))∧aB P w' I β' (av hp nb (some (.arr e xs fz))) B M w0∧
   ai P w' I β' (av hp nb (some (.arr e xs fz))) v (.whole e nb):=by
 obtain ⟨i,z,hi,hz,h3,h4,_⟩:=kE aw;have vD:=y6 aw;have nZ:P.bytesOf e=i.bytes:=by simp[Program.bytesOf,hi]
 have hlen:xs.length≤2^45:=by
  have:xs.length*1≤xs.length*P.bytesOf e:=wS _ vD;simp only[aX] at eI;omega
 have empty:xs=[]→(∃a c,x= .slice a 0 c)→∃v w' β',(Builtin.append_ #[t,t] ty #[.slice a0 0 0,x]).run P w= .ok v w'∧Le P w I β hp w' I β' (av hp nb (some (.arr e xs fz)))∧aB P w' I β' (av hp nb (some (.arr e xs fz))) B M w0∧
   ai P w' I β' (av hp nb (some (.arr e xs fz))) v (.whole e nb):=by
  intro kG Fi;subst kG;obtain ⟨a1,a2⟩:=EV S e hn;exact ⟨_,_,_,B0 hu hi a0 0 0 x Fi (az _),a1,a2,.ep (bW _ _ _) (bW _ _ _)⟩
 rcases hx with ⟨⟨_,rfl⟩,rfl⟩|⟨a,c,news,hr⟩
 ·simp_all
 ·by_cases h0:xs.length=0
  ·have kG:xs=[]:=o7 h0;refine empty kG ⟨some a,c,?_⟩;rw[hr.val,h0]
  ·have da:=aah (P:=P) w t ty e i z hu hi hz a0 a xs.length c news (by rw[hr.len,h3]) hr.cell (by omega) (by omega) (by rw[←nZ];simp only[aX] at eI;omega);have qp:=grownCap_ge w xs.length 0 e;have sL:grownCap w xs.length 0 e≤maxLen:=grownCap_le_maxLen w xs.length 0 e (by simp only[maxLen];omega);obtain ⟨n1,n2,n3⟩:=BX S.drew (nb:=nb) (cap:=grownCap w xs.length 0 e) (es:=xs) (C0:=news.toArray++Builtin.zeroCells z.cells (grownCap w xs.length 0 e-xs.length)) aw hn
    (by simp only[Kk,rZ,size_zeroCells,h4,hr.len,←kq];grind) qp sL
    (fun i' j y t' hy ht hj=>by
     obtain ⟨u,kD,hp⟩:=hr.el i' j y t' hy ht hj;have bf:=(cL.1 kD).1;refine ⟨u,?_,Pure.drew hp⟩;grind)
   rw[hr.val];exact ⟨_,_,_,da,(Le.drew w I β hp).trans n1,n2,n3⟩
theorem aai {P:Program} (w:World) (t ty e T:TypeId) (i:TypeInfo) (ht:P.underlying t=some (.slice e)) (hi:P.info? e=some i)
  (g mC vE:Nat) (cur:Array Value) (hg:w.heap[g]? =some (.cells cur T (0,0)))
  (a:Addr) (m c:Nat) (news:List Value) (hl:news.length=m*i.size) (tW: ∀j u,news[j]? =some u→w.cell? (a.add j)=some u) (h1: ∀u∈news,u.oneCell'=true)
  (pr:mC+m≤vE) (vF:mC*i.size+news.length≤cur.size):
  (Builtin.append_ #[t,t] ty #[.slice (some ⟨g,0,none⟩) mC vE,.slice (some a) m c]).run P w=
   .ok (.slice (some ⟨g,0,none⟩) (mC+m) vE) (w.setRow g (cur.toList.take (mC*i.size)++news++cur.toList.drop (mC*i.size+news.length)).toArray):=by
 have hf:=run_firstCells_some (P:=P) w i.size m a m c news hl tW;have b9:=run_storeCells_at P g (mC*i.size) T news 0 cur w hg (by omega) h1;simp only[Nat.add_zero] at b9;simp[Builtin.append_,run_underlying ht,sizeOf,typeInfo,hi,Builtin.lenOf,pr,hf,Addr.add_lit,b9]
theorem aaj (S:aB P w I β hp B M w0) {t ty e:TypeId} {nb id:Nat} {s x:Value} {es xs:List V} {fz:Bool} (hu:P.underlying t=some (.slice e)) (aw:dw P e=true) (hs:ai P w I β hp s (.whole e id)) (ab:hp id=some (.arr e es fz)) (hn:hp nb=none)
  (eI:Nat.ble ((es.length+xs.length)*P.bytesOf e) aX=true) (ng:((∃a,x= .slice a 0 0)∧xs=[])∨∃a c news,Row P w I e x xs a c news):
  dJ P ((Builtin.append_ #[t,t] ty #[s,x]).run P w) w I β hp B M w0 ⟨.whole e nb,[(nb,.arr e (es++xs) fz),(id,.dead)]⟩:=by
 rw[fp] at eI;have cm:nb≠id:=fun e=>by grind
 obtain ⟨k1,k2⟩:=xl S ab;have ja:av hp id (some af.dead) nb=none:=by rw[cK _ _ cm];exact hn
 cases hs with
 | eD hd=>grind
 | ee hd=>grind
 | eF hd=>grind
 | fD hd=>grind
 | ep hd hb=>
  rw[ab] at hd;cases hd;simp only[List.length_nil,ed] at eI;have akn:((∃a,x= .slice a 0 0)∧xs=[])∨∃a c news,Row P w I e x xs a c news:=ng;obtain ⟨v,w',β',a1,a2,a3,a4⟩:=Rb (ty:=ty) k2 hu aw ja eI akn;exact ⟨v,w',I,β',a1,k1.trans a2,a3,a4⟩
 | @whole _ _ aQ ra b cap hd hb br cg hm=>
  rw[ab] at hd;cases hd;have hr:=S.h.rel id _ ab;cases hr with
  | eZ aA=>grind
  | @arr _ T _ _ b' Ca hL _ aA hh tX hf fR tY=>
   rw[hb] at aA;cases aA;obtain ⟨i,z,hi,hz,h3,h4,_⟩:=kE aw;have vD:=y6 aw;have nZ:P.bytesOf e=i.bytes:=by simp[Program.bytesOf,hi]
   have hlen:es.length+xs.length≤2^45:=by
    have:(es.length+xs.length)*1≤(es.length+xs.length)*P.bytesOf e:=wS _ vD;simp only[aX] at eI;omega
   rw[lb hh] at br;have qm: ∀ax blk',av hp id (some af.dead) ax=some blk'→¬bB P w (β ax) blk' b:=by
    intro ax blk' h1 h2;by_cases nc:ax=id
    ·subst nc;rw[bW] at h1;cases h1;exact h2.alive rfl
    ·rw[cK _ _ nc] at h1;exact nc (S.h.inj ax id blk' _ b h1 ab h2 (.root (by simp) hb))
   have Fj:=S.h.xh id _ b ab (by simp) hb;have room: ∀(C':Array Value) (w':World) (ys:List V),w'.heap[b]? =some (.cells C' T (0,0))→C'.size=Ca.size→(∀b',b'≠b→w'.heap[b']? =w.heap[b']?)→w.heap.size≤w'.heap.size→(w'.os=w.os∧w'.output=w.output)→ys.length≤cap→es.length≤ys.length→(∀j,j<es.length*P.cellsOf e→C'[j]? =Ca[j]?)→
     (∀(i j:Nat) (y:V) (t':TypeId),ys[i]? =some y→(bc P e)[j]? =some t'→j<P.cellsOf e→∃v,C'[i*P.cellsOf e+j]? =some v∧Pure P w I t' v (cu P e y j))→
     Le P w I β hp w' I (av β nb (some b)) (av (av hp id (some .dead)) nb (some (.arr e ys fz)))∧aB P w' I (av β nb (some b)) (av (av hp id (some .dead)) nb (some (.arr e ys fz))) B M w0∧
     ai P w' I (av β nb (some b)) (av (av hp id (some .dead)) nb (some (.arr e ys fz))) (.slice (some ⟨b,0,none⟩) ys.length cap) (.whole e nb):=by
    intro C' w' ys hC oQ nh hwz ako xt hey jt hy;have hIn:=Q7 hf fR;obtain ⟨a1,a2⟩:=BN k2 (blk:= .arr e ys fz) (w':=w') ja qm (Z8 hh hC hIn jt) (fun b' h _=>nh b' h) hwz ako Fj
     (fun b' h=>(eo (h.flat (by simp))).symm) (fun hle=> .arr (oQ▸hL) aw rfl hC (by rw[oQ,←br];exact eM _ xt) (fun _ j h=>gC (hIn j h) (eM _ hey)) fR fun i j y t' a b c=>by
      obtain ⟨v,hv,hp⟩:=hy i j y t' a b c;exact ⟨v,hv,hp.mono hle.eO hle.cZ⟩)
    refine ⟨k1.trans a1,a2,.whole (bW _ _ _) (bW _ _ _) ?_ xt hm⟩;rw[lb hC,oQ,br]
   have same:xs=[]→(∃a c,x= .slice a 0 c)→dJ P ((Builtin.append_ #[t,t] ty #[.slice (some ⟨b,0,none⟩) es.length cap,x]).run P w) w I β hp B M w0 ⟨.whole e nb,[(nb,.arr e (es++xs) fz),(id,.dead)]⟩:=by
    intro kG Fi;subst kG;rw[j4];obtain ⟨a1,a2,a3⟩:=room Ca w es hh rfl (fun _ _=>rfl) (az _) ⟨rfl,rfl⟩ cg (az _) (fun _ _=>rfl) tY;exact ⟨_,_,_,_,B0 hu hi _ _ _ x Fi cg,a1,a2,a3⟩
   rcases ng with ⟨⟨_,rfl⟩,rfl⟩|⟨a,c,news,dm⟩
   ·grind
   ·have h1:=dm.one aw;have lO:es.length*P.cellsOf e≤Ca.toList.length:=by omega
    by_cases pr:es.length+xs.length≤cap
    ·have vF:es.length*P.cellsOf e+news.length≤Ca.size:=by rw[dm.len,←kq,←br];exact eM _ pr
     have da:=aai (P:=P) w t ty e T i hu hi b es.length cap Ca hh a xs.length c news (by rw[dm.len,h3]) dm.cell h1 pr (by grind);rw[h3] at da;have fF:=Lv (P:=P) (w:=w) (I:=I) (n:=es.length) (c:=Ca.toList) rfl (fun i j y t' a b c=>by
      grind) dm.el lO (Ca.toList.drop (es.length*P.cellsOf e+news.length))
     obtain ⟨a1,a2,a3⟩:=room (Ca.toList.take (es.length*P.cellsOf e)++news++Ca.toList.drop (es.length*P.cellsOf e+news.length)).toArray (w.setRow b _) (es++xs)
      (setRow_heap w b Ca _ T _ hh) (by simp;omega) (fun b' aA=>setRow_other w b b' _ aA) (by simp) ⟨rfl,rfl⟩ (by grind) (by simp) (fun j hj=>by
        grind)
      (fun i j y t' a b c=>by
       grind)
     rw[dm.val];rw[dd] at a3;exact ⟨_,_,_,_,da,a1,a2,a3⟩
    ·have hold: ∀(j:Nat) v,(Ca.toList.take (es.length*P.cellsOf e))[j]? =some v→w.cell? ((⟨b,0,none⟩:Addr).add j)=some v:=by
      intro j v hj;have ej:=(cL.1 hj).1;have cS:j<es.length*P.cellsOf e:=by grind
      rw[iJ cS] at hj;rw[oL,cell?_cells hh,ed];grind
     have da:=run_append_grow (P:=P) w t ty e i z hu hi hz ⟨b,0,none⟩ es.length cap (Ca.toList.take (es.length*P.cellsOf e)) (by grind) hold a xs.length c news (by rw[dm.len,h3]) dm.cell (by omega) (by omega)
      (growslice_fits (by omega) (by rw[←nZ];simp only[aX] at eI;omega))
     have qp:=grownCap_ge w (es.length+xs.length) cap e;have sL:grownCap w (es.length+xs.length) cap e≤maxLen:=grownCap_le_maxLen w _ cap e (by simp only[maxLen];omega);have fF:=Lv (P:=P) (w:=w) (I:=I) (n:=es.length) (c:=Ca.toList) rfl (fun i j y t' a b c=>by
      grind) dm.el lO (Builtin.zeroCells z.cells (grownCap w (es.length+xs.length) cap e-(es.length+xs.length))).toList
     obtain ⟨n1,n2,n3⟩:=BX k2.drew (nb:=nb) (cap:=grownCap w (es.length+xs.length) cap e) (es:=es++xs)
      (C0:=(Ca.toList.take (es.length*P.cellsOf e)).toArray++news.toArray++Builtin.zeroCells z.cells (grownCap w (es.length+xs.length) cap e-(es.length+xs.length))) aw ja
      (by
       have e1:(Ca.toList.take (es.length*P.cellsOf e)).length=es.length*P.cellsOf e:=by simp;omega
       simp only[Kk,rZ,size_zeroCells,h4,dm.len,e1,←kq];grind) (by grind) sL
      (fun i j y t' a b c=>by
       obtain ⟨v,hv,hp⟩:=fF i j y t' a b c;refine ⟨v,?_,Pure.drew hp⟩;grind)
     rw[dm.val];rw[dd] at n3;exact ⟨_,_,_,_,da,(k1.trans (Le.drew w I β _)).trans n1,n2,n3⟩
theorem akp (S:aB P w I β hp B M w0) {t ty e:TypeId} {nb:Nat} {s x:Value} {sv xv:V} {r:R} {rd:List Nat} (hu:P.underlying t=some (.slice e)) (hs:ai P w I β hp s sv) (hx:ai P w I β hp x xv)
  (h:(Bz P nb e sv xv).run C hp=some (r,rd)):dJ P ((Builtin.append_ #[t,t] ty #[s,x]).run P w) w I β hp B M w0 r:=by
 unfold Bz at h;obtain ⟨aw,h⟩:=aH h;obtain ⟨xs,ng,l0,h⟩:=Fg S.h.rel aw hx h;cases sv with
 | nilS e'=>
  obtain ⟨hc,h⟩:=aH h;simp only[aK,aZ,fp] at hc;obtain ⟨hn,rfl⟩:=mB h;obtain ⟨a0,rfl⟩: ∃a0,s= .slice a0 0 0:=by cases hs;grind
  obtain ⟨v,w',β',a1,a2,a3,a4⟩:=Rb (ty:=ty) S hu aw hn hc.2 ng;exact ⟨v,w',I,β',a1,a2,a3,a4⟩
 | whole e' id=>
  obtain ⟨l,h⟩:=run_get h;cases ab:hp id with
  | none=>rw[ab] at h;cases h
  | some blk=>
   rw[ab] at h;cases blk with
   | dead=>cases h
   | var _=>cases h
   | nest _ _ _=>cases h
   | map _ _=>cases h
   | out _ _ _ _=>cases h
   | arr eN es fz=>
    obtain ⟨hc,h⟩:=aH h;obtain ⟨hn,rfl⟩:=mB h;simp only[aK,aZ,fp] at hc;obtain ⟨Rc,Re,eI⟩:=hc;subst Rc;subst Re;exact aaj S hu aw hs ab hn (by simp_all) ng
 | _=>cases h
end
section
variable {P:Program} {w w':World} {I I':Nat→Nat→Prop} {β β':Nat→Option Nat} {hp hp':Nat→Option af} {C:ae} {B:Nat} {M:Nat→Prop} {w0:Start}
theorem run_copy_none (w:World) {dT sT ty elem:TypeId} {i:TypeInfo} (a0:Option Addr) (aak akq:Nat) (a1:Option Addr) (mC vE:Nat) (hu:P.underlying dT=some (.slice elem)) (hi:P.info? elem=some i) (h0:Nat.min mC aak=0):
  (Builtin.copy_ #[dT,sT] ty #[.slice a0 aak akq,.slice a1 mC vE]).run P w= .ok (goInt 0) w:=by
 cases a0<;>cases a1<;>simp[Builtin.copy_,run_underlying hu,Builtin.lenOf,Builtin.firstCells,sizeOf,typeInfo,hi,h0,storeCells,loadCells,loadCellsFrom]
theorem akr (S:aB P w I β hp B M w0) {t u ty e:TypeId} {s x:Value} {sv xv:V} {r:R} {rd:List Nat} (hu:P.underlying t=some (.slice e)) (hs:ai P w I β hp s sv) (hx:ai P w I β hp x xv)
  (h:(Qk P e sv xv).run C hp=some (r,rd)):dJ P ((Builtin.copy_ #[t,u] ty #[s,x]).run P w) w I β hp B M w0 r:=by
 unfold Qk at h;obtain ⟨aw,h'⟩:=aH h;clear h;simp only[aK,aZ] at aw;obtain ⟨aw,h1⟩:=aw;obtain ⟨xs,ng,l0,h⟩:=Fg S.h.rel aw hx h';obtain ⟨i,z,hi,hz,br,_⟩:=kE aw;cases sv<;>simp only at h<;>first|(cases h;done)|skip
 rename_i e' id;obtain ⟨l,h2⟩:=run_get h;clear h;cases ab:hp id with
 | none=>rw[ab] at h2;cases h2
 | some blk=>
  rw[ab] at h2;cases blk<;>simp only at h2<;>first|(cases h2;done)|skip
  rename_i e2 es fz;cases fz with
  | true=>cases h2
  | false=>
  obtain ⟨hc,h3⟩:=aH h2;simp only[aK,aZ] at hc;obtain ⟨rfl,rfl⟩:=hc;obtain rfl:=ba h3;have tZ:min xs.length es.length=0→(Builtin.copy_ #[t,u] ty #[s,x]).run P w= .ok (goInt 0) w→dJ P ((Builtin.copy_ #[t,u] ty #[s,x]).run P w) w I β hp B M w0 ⟨.int .i64 (min xs.length es.length:Nat),[(id,.arr e (xs.take es.length++es.drop xs.length) false)]⟩:=by
   intro h0 hr;have he:xs.take es.length++es.drop xs.length=es:=by
    rcases Nat.le_total xs.length es.length with hl|hl
    ·have:xs=[]:=o7 (by omega);simp[this]
    ·have:es=[]:=o7 (by omega);simp[this]
   have iY:cB hp [(id,.arr e (xs.take es.length++es.drop xs.length) false)]=hp:=by
    rw[he];exact Qt hp id _ ab
   refine ⟨goInt 0,w,I,β,hr,?_⟩;simp only[iY,h0];exact ⟨Le.refl w I β hp,S,.int⟩
  cases hs with
  | eD hd=>rw[ab] at hd;cases hd
  | ee hd=>rw[ab] at hd;cases hd
  | eF hd=>rw[ab] at hd;cases hd
  | fD hd=>rw[ab] at hd;cases hd
  | @ep _ _ fz a hd hb=>
   rw[ab] at hd;cases hd;refine tZ (by simp) ?_;rcases ng with ⟨⟨a',rfl⟩,rfl⟩|⟨a',c,news,dm⟩
   ·exact run_copy_none w _ _ _ _ _ _ hu hi (by simp)
   ·rw[dm.val];exact run_copy_none w _ _ _ _ _ _ hu hi (by simp)
  | @whole _ _ aQ ra b cap hd hb B1 cg hm=>
   have fQ:=hd;rw[ab] at hd;cases hd;rcases ng with ⟨⟨a',rfl⟩,rfl⟩|⟨a',c,news,dm⟩
   ·exact tZ (by simp) (run_copy_none w _ _ _ _ _ _ hu hi (by simp))
   have hr:=S.h.rel id _ ab;cases hr with
   | eZ aA=>rw[aA] at hb;cases hb
   | @arr _ T0 _ _ b' Ca hL _ aA hh tX hf fR tY=>
    rw[hb] at aA;cases aA;have n0:news.length=xs.length:=by rw[dm.len,h1,fZ]
    rw[h1,fZ] at tX;have n7:(news.take es.length).length=Nat.min xs.length es.length:=by
     rw[kT,n0,Nat.min_comm]
    have aal:Nat.min xs.length es.length=min xs.length es.length:=rfl;have da:=run_copy_row (P:=P) w t u ty e b 0 es.length cap a' xs.length c Ca T0 (news.take es.length) hu (by rw[hi];simp[br,h1]) hh n7
     (fun j v hj=>dm.cell j v (by
      have:=(cL.1 hj).1;rw[kT] at this;rwa [iJ (by omega)] at hj)) (by rw[n7,aal];omega) (fun v hv=>dm.one aw v (List.mem_of_mem_take hv))
    rw[dm.val];have hq:(goInt (news.take es.length).length)= .int .i64 ((min xs.length es.length:Nat):Int):=by rw[n7];rfl
    have nX:(xs.take es.length++es.drop xs.length).length=es.length:=by simp;omega
    have oQ:(Ca.toList.take 0++news.take es.length++Ca.toList.drop (0+(news.take es.length).length)).toArray.size=Ca.size:=by
     simp only[rZ,dd,Bh,kT,n7,aal];simp;omega
    obtain ⟨a1,a2⟩:=Lh S (blk':= .arr e (xs.take es.length++es.drop xs.length) false) (Cb:=(Ca.toList.take 0++news.take es.length++Ca.toList.drop (0+(news.take es.length).length)).toArray) ab (by simp) ⟨rfl,nX.symm⟩ hb (fR rfl) (by simp) hh oQ
     (fun hle dU=> .arr (by rw[oQ];exact hL) aw rfl dU (by rw[oQ,nX,h1,fZ];exact tX) (fun h=>by cases h) (fun _=>fR rfl) fun i j y t' hy ht hj=>by
      rw[h1] at hj⊢;obtain rfl:j=0:=by omega
      rw[fZ,Nat.add_zero];have sJ:=(cL.1 hy).1;rw[nX] at sJ;by_cases xu:i<xs.length
      ·rw[oD (by rw[kT];omega),iJ sJ] at hy;obtain ⟨u',k1,k2⟩:=dm.el i 0 y t' hy ht (by omega);rw[h1,fZ,Nat.add_zero] at k1;refine ⟨u',?_,k2.mono hle.eO hle.cZ⟩;simp only[List.take_zero,List.nil_append,nJ];rw[oD (by rw[kT];omega),iJ sJ];exact k1
      ·have e1:(xs.take es.length).length=xs.length:=by rw[kT];omega
       rw[oE (by omega),e1,qU,show xs.length+(i-xs.length)=i by omega] at hy;obtain ⟨u',k1,k2⟩:=tY i 0 y t' hy ht (by omega);rw[h1,fZ,Nat.add_zero] at k1;refine ⟨u',?_,k2.mono hle.eO hle.cZ⟩;simp only[List.take_zero,List.nil_append,nJ,ed];have e2:(news.take es.length).length=xs.length:=by rw[kT];omega
       rw[oE (by omega),e2,qU,show xs.length+(i-xs.length)=i by omega];simpa using k1)
    exact ⟨_,_,_,_,da,a1,a2,by rw[hq];exact .int⟩
theorem aks (S:aB P w I β hp B M w0) {t ty e:TypeId} {x:Value} {xv:V} {r:R} {rd:List Nat} (hu:P.underlying t=some (.slice e)) (hx:ai P w I β hp x xv)
  (h:(Qj P e xv).run C hp=some (r,rd)):dJ P ((Builtin.clear_ #[t] ty #[x]).run P w) w I β hp B M w0 r:=by
 unfold Qj at h;obtain ⟨fF,h'⟩:=aH h;clear h;have aw:dw P e=true:=by
  unfold pb at fF;simp only[aK] at fF;exact fF.1
 obtain ⟨i,z,hi,hz,br,Fk,hzp⟩:=Ff (w:=w) (I:=I) fF;have kF:=(oJ aw).2;cases xv<;>simp only at h'<;>first|(cases h';done)|skip
 rename_i e' id off len;obtain ⟨l,h2⟩:=run_get h';clear h';cases ab:hp id with
 | none=>rw[ab] at h2;cases h2
 | some blk=>
  rw[ab] at h2;cases blk<;>simp only at h2<;>first|(cases h2;done)|skip
  rename_i e2 es fz;cases fz with
  | true=>cases h2
  | false=>
  obtain ⟨hc,h3⟩:=aH h2;simp only[aK,aZ] at hc;obtain ⟨rfl,rfl⟩:=hc;obtain rfl:=ba h3;have tZ:len=0→(Builtin.clear_ #[t] ty #[x]).run P w= .ok (.tuple #[]) w→dJ P ((Builtin.clear_ #[t] ty #[x]).run P w) w I β hp B M w0 ⟨.bK [],[(id,.arr e (es.take off++(List.replicate len (dP P e (iT P e))++es.drop (off+len))) false)]⟩:=by
   intro h0 hr;subst h0;have iY:cB hp [(id,.arr e (es.take off++(List.replicate 0 (dP P e (iT P e))++es.drop (off+0))) false)]=hp:=by
    simp only[List.replicate_zero,List.nil_append,Nat.add_zero,List.take_append_drop];exact Qt hp id _ ab
   refine ⟨.tuple #[],w,I,β,hr,?_⟩;simp only[iY];exact ⟨Le.refl w I β hp,S,.bK rfl fun j v x hj hx=>by simp at hx⟩
  cases hx with
  | jJ hd=>rw[ab] at hd;cases hd
  | @jo _ _ _ a0 hd hb=>exact tZ rfl (by cases a0<;>simp[Builtin.clear_,run_underlying hu])
  | @sub _ _ _ _ aQ ra b o cap hd hb lK cg ho=>
   by_cases hlen:len=0
   ·refine tZ hlen ?_;subst hlen;simp[Builtin.clear_,run_underlying hu]
   have akt:0<len:=by omega
   have fQ:=hd;rw[ab] at hd;cases hd;have hr:=S.h.rel id _ ab;cases hr with
   | eZ aA=>rw[aA] at hb;cases hb
   | @arr _ T0 _ _ b' Ca hL _ aA hh tX hf fR tY=>
    rw[hb] at aA;cases aA;have ho:=ho akt;subst ho;have zn:(Builtin.zeroCells z.cells len).toList.length=len*P.cellsOf e:=by rw[Array.length_toList,size_zeroCells,Fk]
    have hmul:off*P.cellsOf e+len*P.cellsOf e≤es.length*P.cellsOf e:=by rw[←kq];exact eM _ lK
    have sG: ∀v∈(Builtin.zeroCells z.cells len).toList,v.oneCell'=true:=by
     intro v hv;obtain ⟨k,hk⟩:=tB hv;have qq:=(cL.1 hk).1;rw[zn] at qq;have hzg:(Builtin.zeroCells z.cells len)[k]? =z.cells[k %z.cells.size]? :=aac (z:=z.cells) (n:=len*z.cells.size) (by rw[Fk];exact qq) (by rw[Fk];exact kF);rw[o9,hzg] at hk;have hm:k %z.cells.size<P.cellsOf e:=by rw[Fk];exact Bg _ kF
     have htl:k %z.cells.size<(bc P e).length:=by rw[fM aw];exact hm
     obtain ⟨v',Fe,hp'⟩:=hzp (k %z.cells.size) _ (cp htl) hm;rw[hk] at Fe;cases Fe;exact hp'.1.one
    have b9:=run_storeCells_at P b (off*P.cellsOf e) T0 (Builtin.zeroCells z.cells len).toList 0 Ca w hh (by rw[zn];omega) sG;simp only[Nat.add_zero] at b9;have da:(Builtin.clear_ #[t] ty #[.slice (some ⟨b,off*P.cellsOf e,none⟩) len cap]).run P w= .ok (.tuple #[]) (w.setRow b (Ca.toList.take (off*P.cellsOf e)++(Builtin.zeroCells z.cells len).toList++Ca.toList.drop (off*P.cellsOf e+(Builtin.zeroCells z.cells len).toList.length)).toArray):=by
     obtain ⟨n,rfl⟩: ∃n,len=n+1:=⟨len-1,by omega⟩
     simp[Builtin.clear_,run_underlying hu,zeroValue,typeInfo,hi,hz,b9]
    have nX:(es.take off++(List.replicate len (dP P e (iT P e))++es.drop (off+len))).length=es.length:=by simp;omega
    have oQ:(Ca.toList.take (off*P.cellsOf e)++(Builtin.zeroCells z.cells len).toList++Ca.toList.drop (off*P.cellsOf e+(Builtin.zeroCells z.cells len).toList.length)).toArray.size=Ca.size:=by
     simp only[rZ,dd,Bh,kT,zn,Array.length_toList];omega
    obtain ⟨a1,a2⟩:=Lh S (blk':= .arr e (es.take off++(List.replicate len (dP P e (iT P e))++es.drop (off+len))) false) ab (by simp) ⟨rfl,nX.symm⟩ hb (fR rfl) (by simp) hh oQ
     (fun hle dU=> .arr (by rw[oQ];exact hL) aw rfl dU (by rw[oQ,nX];exact tX) (fun h=>by cases h) (fun _=>fR rfl) fun i' j y t' hy ht hj=>by
      have oR:=rn es (List.replicate len (dP P e (iT P e))) off i' (by simp;omega);rw[Bi] at oR;rw[oR] at hy;have hC:(Ca.toList.take (off*P.cellsOf e)++(Builtin.zeroCells z.cells len).toList++Ca.toList.drop (off*P.cellsOf e+(Builtin.zeroCells z.cells len).toList.length)).toArray[i'*P.cellsOf e+j]? =
        if i'*P.cellsOf e+j<off*P.cellsOf e then Ca.toList[i'*P.cellsOf e+j]? else if i'*P.cellsOf e+j<off*P.cellsOf e+len*P.cellsOf e then (Builtin.zeroCells z.cells len).toList[i'*P.cellsOf e+j-off*P.cellsOf e]? else Ca.toList[i'*P.cellsOf e+j]? :=by
       have:=rn Ca.toList (Builtin.zeroCells z.cells len).toList (off*P.cellsOf e) (i'*P.cellsOf e+j) (by rw[zn,Array.length_toList];omega);rw[nJ,fJ,this,zn]
      by_cases eQ:i'<off
      ·rw[ah eQ] at hy;have:(i'+1)*P.cellsOf e≤off*P.cellsOf e:=eM _ eQ;rw[kq] at this;rw[bp] at hC;obtain ⟨u,k1,k2⟩:=tY i' j y t' hy ht hj;exact ⟨u,hC.trans (by simpa using k1),k2.mono hle.eO hle.cZ⟩
      ·rw[ag eQ] at hy;have h1:off*P.cellsOf e≤i'*P.cellsOf e:=eM _ (by omega);rw[cf] at hC;by_cases lj:i'<off+len
       ·rw[ah lj] at hy;have:(i'+1)*P.cellsOf e≤(off+len)*P.cellsOf e:=eM _ lj;rw[kq,kq] at this;rw[bp] at hC;obtain ⟨v,k1,k2⟩:=Q8 (w:=w) (I:=I) fF hi hz len len (az _) (i'-off) j y t' hy ht hj;refine ⟨v,hC.trans ?_,k2.mono hle.eO hle.cZ⟩;rw[show i'*P.cellsOf e+j-off*P.cellsOf e=(i'-off)*P.cellsOf e+j by rw[Nat.sub_mul];omega,o9];unfold Builtin.zeroCells;rw[Fk] at k1⊢;exact k1
       ·rw[ag lj] at hy;have:(off+len)*P.cellsOf e≤i'*P.cellsOf e:=eM _ (by omega);rw[kq] at this;rw[cf] at hC;obtain ⟨u,k1,k2⟩:=tY i' j y t' hy ht hj;exact ⟨u,hC.trans (by simpa using k1),k2.mono hle.eO hle.cZ⟩)
    exact ⟨_,_,_,_,da,a1,a2,.bK rfl fun j v x hj hx=>by simp at hx⟩
end
section
variable {P:Program} {w w':World} {I I':Nat→Nat→Prop} {β β':Nat→Option Nat} {hp hp':Nat→Option af} {C:ae} {B:Nat} {M:Nat→Prop} {w0:Start}
theorem Fl (S:aB P w I β hp B M w0) {nb b:Nat} {e e1:TypeId} {ys:List V} {C':Array Value} (hr:rowOf P e=some e1) (hn:hp nb=none)
  {T:TypeId} (vA:w'.heap[b]? =some (.cells C' T (0,0))) (hlen:ys.length≤C'.size)
  (hw: ∀b',b'≠b→b'<w.heap.size→w'.heap[b']? =w.heap[b']?) (br:w.heap.size≤w'.heap.size) (mZ:w'.os=w.os∧w'.output=w.output) (hb:M b∨B≤b)
  (qm: ∀ax blk',hp ax=some blk'→¬bB P w (β ax) blk' b) (dI: ∀j,¬I b j) (K:Nat→Nat→List V→Prop)
  (gJ: ∀(i:Nat) x,ys[i]? =some x→∃l v,x= .list e1 l∧C'[i]? =some v∧zj P w e1 (K i) v l)
  (hK: ∀i b1 l,K i b1 l→b1≠b∧b1<w.heap.size∧iB P w I b1 e1 l∧(M b1∨B≤b1)∧∀id blk,hp id=some blk→¬bB P w (β id) blk b1)
  (tP: ∀i j b1 l m,K i b1 l→K j b1 m→i=j):
  Le P w I β hp w' I (av β nb (some b)) (av hp nb (some (.nest e ys [0,0,0])))∧aB P w' I (av β nb (some b)) (av hp nb (some (.nest e ys [0,0,0]))) B M w0:=by
 obtain ⟨p1,p2⟩:=ZM (w:=w) (I:=I) (vers:=[0,0,0]) hr vA hlen dI K gJ (fun i b1 l h=>⟨(hK i b1 l h).1,hw _ (hK i b1 l h).1 (hK i b1 l h).2.1,(hK i b1 l h).2.2.1⟩) tP;refine Zq S hn qm (fun j h=>absurd h (dI j)) hw br mZ hb (fun b' ho=> ?_) (fun hle=>p2 hle.cZ);rcases p1 b' ho with h|⟨i,l,h⟩
 ·exact .inl h
 ·exact .inr ⟨(hK _ _ _ h).2.2.2.1,(hK _ _ _ h).2.2.2.2⟩
theorem aku (S:aB P w I β hp B M w0) {t ty e:TypeId} {nb:Nat} {s x:Value} {sv xv:V} {r:R} {rd:List Nat} (hu:P.underlying t=some (.slice e)) (hs:ai P w I β hp s sv) (hx:ai P w I β hp x xv)
  (h:(Qi P nb e sv xv).run C hp=some (r,rd)):dJ P ((Builtin.append_ #[t,t] ty #[s,x]).run P w) w I β hp B M w0 r:=by
 unfold Qi at h;obtain ⟨hro,ha⟩:=aH h;clear h;obtain ⟨e1,hr⟩:=Kl.1 hro;obtain ⟨Rf,cX,aw,oN,gS⟩:=xr hr;have kC:bc P e=[e]:=by simp[bc,cX]
 have hk:P.cellsOf e=1:=by rw[←fM aw,kC];rfl
 obtain ⟨i,z,hi,hz,h3,h4,_⟩:=kE aw;have vD:=y6 aw;have nZ:P.bytesOf e=i.bytes:=by simp[Program.bytesOf,hi]
 rw[hk] at h3 h4;cases sv with
 | whole e' id=>
  obtain ⟨l0,hb⟩:=run_get ha;clear ha;cases ab:hp id with
  | none=>rw[ab] at hb;cases hb
  | some blk=>
   rw[ab] at hb;cases blk with
   | nest eN es vers=>
    obtain ⟨hc,hd⟩:=aH hb;clear hb;simp only[aK,aZ] at hc;obtain ⟨rfl,rfl⟩:=hc;cases xv with
    | nilS e3=>
     obtain ⟨_,he⟩:=aH hd;cases he;obtain ⟨a0,rfl⟩: ∃a0,x= .slice a0 0 0:=by cases hx;exact ⟨_,rfl⟩
     cases hs with
     | eD hd=>rw[ab] at hd;cases hd
     | ep hd=>rw[ab] at hd;cases hd
     | whole hd=>rw[ab] at hd;cases hd
     | fD hd=>rw[ab] at hd;cases hd
     | eF hd hb=>exact ⟨_,_,_,_,B0 hu hi _ 0 0 _ ⟨_,_,rfl⟩ (az _),Le.refl ..,S,.eF hd hb⟩
     | ee hd hb br cg hm=>
      rw[ab] at hd;cases hd;exact ⟨_,_,_,_,B0 hu hi _ _ _ _ ⟨_,_,rfl⟩ cg,Le.refl ..,S,.ee ab hb br cg hm⟩
    | list e3 l=>
     obtain ⟨im,he⟩:=aH hd;simp only[aK,aZ] at im;obtain ⟨rfl,mA⟩:=im;have mA:=wM.1 mA;subst mA;cases he;obtain ⟨a0,c0,rfl⟩: ∃a0 c0,x= .slice a0 0 c0:=by
      cases hx with
      | list hp'=>cases hp' with
       | nil=>exact ⟨_,_,rfl⟩
       | emp=>exact ⟨_,_,rfl⟩
       | list g b c d e=>exact ⟨_,_,by rw[←b];rfl⟩
     cases hs with
     | eD hd=>rw[ab] at hd;cases hd
     | ep hd=>rw[ab] at hd;cases hd
     | whole hd=>rw[ab] at hd;cases hd
     | fD hd=>rw[ab] at hd;cases hd
     | eF hd hb=>exact ⟨_,_,_,_,B0 hu hi _ 0 0 _ ⟨_,_,rfl⟩ (az _),Le.refl ..,S,.eF hd hb⟩
     | ee hd hb br cg hm=>
      rw[ab] at hd;cases hd;exact ⟨_,_,_,_,B0 hu hi _ _ _ _ ⟨_,_,rfl⟩ cg,Le.refl ..,S,.ee ab hb br cg hm⟩
    | whole e3 bD=>
     obtain ⟨l1,he⟩:=run_get hd;clear hd;cases dE:hp bD with
     | none=>rw[dE] at he;cases he
     | some cM=>
      rw[dE] at he;cases cM with
      | nest e4 xs pk=>
       obtain ⟨hc,hf⟩:=aH he;clear he;simp only[aK,aZ,fp,nH,oC] at hc;obtain ⟨rfl,rfl,aam,kF,eI⟩:=hc;have cm:id≠bD:=fun h=>by rw[h,mn] at aam;cases aam
       obtain ⟨hn,rfl⟩:=mB hf;have hlen:es.length+xs.length≤2^45:=by
        have:(es.length+xs.length)*1≤(es.length+xs.length)*P.bytesOf e:=wS _ vD;simp only[aX] at eI;omega
       obtain ⟨b2,Fm,fE,rfl⟩: ∃b2 Fm,β bD=some b2∧x= .slice (some ⟨b2,0,none⟩) xs.length Fm:=by
        cases hx with
        | eD hd=>rw[dE] at hd;cases hd
        | ep hd=>rw[dE] at hd;cases hd
        | whole hd=>rw[dE] at hd;cases hd
        | fD hd=>rw[dE] at hd;cases hd
        | eF hd hb=>rw[dE] at hd;cases hd;simp at kF
        | ee hd hb br cg hm=>rw[dE] at hd;cases hd;exact ⟨_,_,hb,rfl⟩
       obtain ⟨C2,_,g1,g2,g3,g4,g5,g6⟩:=Q5 S hr dE fE;have tW: ∀(j:Nat) v,(C2.toList.take xs.length)[j]? =some v→w.cell? ((⟨b2,0,none⟩:Addr).add j)=some v:=by
        intro j v hj;have ej:=(cL.1 hj).1;rw[kT] at ej;rw[iJ (by omega)] at hj;rw[oL,cell?_cells g1,ed];simpa using hj
       have n0:(C2.toList.take xs.length).length=xs.length:=by simp;omega
       have sG: ∀u∈C2.toList.take xs.length,u.oneCell'=true:=by
        intro u hm;obtain ⟨j,hj⟩:=tB hm;have ej:=(cL.1 hj).1;rw[n0] at ej;rw[iJ ej] at hj;obtain ⟨l,v,_,hv,hh⟩:=g4 j xs[j] (cp ej);have:v=u:=by rw[o9,hv] at hj;exact eo hj
        subst this;rcases hh with ⟨_,a,rfl⟩|⟨b1,cap,_,rfl,_⟩<;>rfl
       obtain ⟨k1,S1⟩:=xl S ab;have akv:av hp id (some af.dead) bD=some (.nest e xs pk):=by rw[cK _ _ (Ne.symm cm)];exact dE
       obtain ⟨k2,S2⟩:=xl S1 akv;have ua:nb≠id:=fun e=>by rw[e,ab] at hn;cases hn
       have akw:nb≠bD:=fun e=>by rw[e,dE] at hn;cases hn
       have ub:av (av hp id (some af.dead)) bD (some af.dead) nb=none:=by rw[cK _ _ akw,cK _ _ ua];exact hn
       have live: ∀{ax blk'},av (av hp id (some af.dead)) bD (some af.dead) ax=some blk'→blk'≠ .dead→hp ax=some blk'∧ax≠id∧ax≠bD:=by
        intro ax blk' h hd;by_cases q1:ax=bD
        ·subst q1;rw[bW] at h;cases h;exact absurd rfl hd
        ·rw[cK _ _ q1] at h;by_cases q2:ax=id
         ·subst q2;rw[bW] at h;cases h;exact absurd rfl hd
         ·rw[cK _ _ q2] at h;exact ⟨h,q2,q1⟩
       have Rg: ∀{idx bx:Nat} {bl},(idx=id∨idx=bD)→hp idx=some bl→bB P w (β idx) bl bx→∀ax blk',av (av hp id (some af.dead)) bD (some af.dead) ax=some blk'→¬bB P w (β ax) blk' bx:=by
        intro idx bx bl Lx uc ho ax blk' h hO;obtain ⟨q1,q2,q3⟩:=live h hO.alive;have:=S.h.inj ax idx _ _ bx q1 uc hO ho;rcases Lx with rfl|rfl
        ·exact q2 this
        ·exact q3 this
       have vG:cB hp [(nb,.nest e (es++xs) [0,0,0]),(id,.dead),(bD,.dead)]=av (av (av hp id (some af.dead)) bD (some af.dead)) nb (some (.nest e (es++xs) [0,0,0])):=by
        funext k;simp only[cB];by_cases q0:k=nb
        ·subst q0;rw[bW,bW]
        ·by_cases q1:k=id
         ·subst q1;rw[cK _ _ q0,bW,cK _ _ q0,cK _ _ cm,bW]
         ·by_cases q2:k=bD
          ·subst q2;rw[cK _ _ q0,cK _ _ q1,bW,cK _ _ q0,bW]
          ·rw[cK _ _ q0,cK _ _ q1,cK _ _ q2,cK _ _ q0,cK _ _ q2,cK _ _ q1]
       have na:bB P w (β bD) (.nest e xs pk) b2:= .root (by simp) fE;have lit: ∀i b1 l,At P w b2 e xs [(i,0)] b1 e1 l→b1<w.heap.size∧iB P w I b1 e1 l∧(M b1∨B≤b1)∧∀ax blk',av (av hp id (some af.dead)) bD (some af.dead) ax=some blk'→¬bB P w (β ax) blk' b1:=fun i b1 l ha=>by
        obtain ⟨_,q2,q3,q4,q5⟩:=g5 i b1 l ha;exact ⟨q2,q3,q4,Rg (.inr rfl) dE q5⟩
       cases hs with
       | eD hd=>rw[ab] at hd;cases hd
       | ep hd=>rw[ab] at hd;cases hd
       | whole hd=>rw[ab] at hd;cases hd
       | fD hd=>rw[ab] at hd;cases hd
       | @eF _ _ _ a0 hd hb=>
        rw[ab] at hd;cases hd;simp only[List.length_nil,ed] at eI hlen;have da:=aah (P:=P) w t ty e i z hu hi hz a0 ⟨b2,0,none⟩ xs.length Fm (C2.toList.take xs.length) (by rw[n0,h3,fZ]) tW (by omega) (by omega) (by rw[←nZ];simp only[aX] at eI;omega);have qp:=grownCap_ge w xs.length 0 e;have sL:grownCap w xs.length 0 e≤maxLen:=grownCap_le_maxLen w xs.length 0 e (by simp only[maxLen];omega);have dU:(w.drew.alloc (.cells ((C2.toList.take xs.length).toArray++Builtin.zeroCells z.cells (grownCap w xs.length 0 e-xs.length)) e)).heap[w.heap.size]? =some (.cells ((C2.toList.take xs.length).toArray++Builtin.zeroCells z.cells (grownCap w xs.length 0 e-xs.length)) e):=heap_alloc_new w.drew (.cells ((C2.toList.take xs.length).toArray++Builtin.zeroCells z.cells (grownCap w xs.length 0 e-xs.length)) e);have BY:=S2.h.jK;obtain ⟨a1,a2⟩:=Fl (w':=w.drew.alloc (.cells ((C2.toList.take xs.length).toArray++Builtin.zeroCells z.cells (grownCap w xs.length 0 e-xs.length)) e)) S2 (nb:=nb) (b:=w.heap.size) (ys:=xs) hr ub dU (by simp;omega)
         (fun b' _ bf=>heap_alloc_old w.drew _ b' bf) (by simp) ⟨rfl,rfl⟩ (.inr S.size) (fun ax blk' h ho=>nG _ (S2.h.lt h ho)) (fun j hj=>nG _ (BY _ j hj))
         (fun i b1 l=>At P w b2 e xs [(i,0)] b1 e1 l) (fun j y hy=>by
          obtain ⟨l,v,q1,q2,q3⟩:=g4 j y hy;have ej:=(cL.1 hy).1;refine ⟨l,v,q1,?_,q3⟩;rw[Eb (by simpa using by omega)];simp[ej,q2])
         (fun j b1 l ha=>⟨Ec (lit j b1 l ha).1,lit j b1 l ha⟩) g6
        refine ⟨_,_,I,av β nb (some w.heap.size),da,?_⟩;rw[vG,List.nil_append];refine ⟨(k1.trans k2).trans a1,a2,?_⟩;exact .ee (bW _ _ _) (bW _ _ _) (by rw[lb dU,hk,fZ];simp[size_zeroCells,h4];omega) qp sL
       | @ee _ _ _ _ b cap hd hb br cg hm=>
        rw[ab] at hd;cases hd;obtain ⟨Ca,Tq,f1,f2,f3,f4,f5,f6⟩:=Q5 S hr ab hb;rw[lb f1,hk,fZ] at br;have uc:bB P w (β id) (.nest e es vers) b:= .root (by simp) hb;have Fj:=S.h.own id _ b ab uc;have ft: ∀i b1 l,At P w b e es [(i,0)] b1 e1 l→b1≠b∧b1<w.heap.size∧iB P w I b1 e1 l∧(M b1∨B≤b1)∧∀ax blk',av (av hp id (some af.dead)) bD (some af.dead) ax=some blk'→¬bB P w (β ax) blk' b1:=fun i b1 l ha=>by
         obtain ⟨q1,q2,q3,q4,q5⟩:=f5 i b1 l ha;exact ⟨q1,q2,q3,q4,Rg (.inl rfl) ab q5⟩
        have akx: ∀i b1 l,At P w b2 e xs [(i,0)] b1 e1 l→b1≠b:=fun i b1 l ha h=>by
         subst h;exact cm (S.h.inj id bD _ _ _ ab dE uc (g5 i _ l ha).2.2.2.2)
        have Kc: ∀i j b1 l m,At P w b e es [(i,0)] b1 e1 l→At P w b2 e xs [(j,0)] b1 e1 m→False:=fun i j b1 l m h1 h2=>cm (S.h.inj id bD _ _ b1 ab dE (f5 i b1 l h1).2.2.2.2 (g5 j b1 m h2).2.2.2.2)
        let K:Nat→Nat→List V→Prop:=fun i b1 l=>(i<es.length∧At P w b e es [(i,0)] b1 e1 l)∨(es.length≤i∧At P w b2 e xs [(i-es.length,0)] b1 e1 l)
        have tP: ∀i j b1 l m,K i b1 l→K j b1 m→i=j:=by
         intro i j b1 l m h1 h2;rcases h1 with ⟨_,h1⟩|⟨p1,h1⟩
         ·rcases h2 with ⟨_,h2⟩|⟨_,h2⟩
          ·exact f6 _ _ _ _ _ h1 h2
          ·exact (Kc _ _ _ _ _ h1 h2).elim
         ·rcases h2 with ⟨_,h2⟩|⟨p2,h2⟩
          ·exact (Kc _ _ _ _ _ h2 h1).elim
          ·have:=g6 _ _ _ _ _ h1 h2;omega
        have fill: ∀(C':Array Value),(∀j,j<es.length→C'[j]? =Ca[j]?)→(∀j,j<xs.length→C'[es.length+j]? =C2[j]?)→∀(j:Nat) y,(es++xs)[j]? =some y→∃l v,y= .list e1 l∧C'[j]? =some v∧zj P w e1 (K j) v l:=by
         intro C' p1 p2 j y hy;by_cases hj:j<es.length
         ·rw[oD hj] at hy;obtain ⟨l,v,q1,q2,q3⟩:=f4 j y hy;refine ⟨l,v,q1,(p1 j hj).trans q2,?_⟩;rcases q3 with q3|⟨z1,b1,Rh,z2,z3,z4,z5,z6⟩
          ·exact .inl q3
          ·exact .inr ⟨z1,b1,Rh,z2,z3,z4,z5,.inl ⟨hj,z6⟩⟩
         ·rw[oE (by omega)] at hy;obtain ⟨l,v,q1,q2,q3⟩:=g4 _ y hy;have ej:=(cL.1 hy).1;refine ⟨l,v,q1,?_,?_⟩
          ·have:=p2 (j-es.length) ej;rw[show es.length+(j-es.length)=j by omega] at this;exact this.trans q2
          ·rcases q3 with q3|⟨z1,b1,Rh,z2,z3,z4,z5,z6⟩
           ·exact .inl q3
           ·exact .inr ⟨z1,b1,Rh,z2,z3,z4,z5,.inr ⟨by omega,z6⟩⟩
        by_cases pr:es.length+xs.length≤cap
        ·have vF:es.length+(C2.toList.take xs.length).length≤Ca.size:=by rw[n0];omega
         have da:=aai (P:=P) w t ty e Tq i hu hi b es.length cap Ca f1 ⟨b2,0,none⟩ xs.length Fm (C2.toList.take xs.length) (by rw[n0,h3,fZ]) tW sG pr (by rw[h3,fZ];exact vF);rw[h3,fZ,n0] at da;have dU:=setRow_heap w b Ca (Ca.toList.take es.length++C2.toList.take xs.length++Ca.toList.drop (es.length+xs.length)).toArray Tq _ f1;obtain ⟨a1,a2⟩:=Fl (w':=w.setRow b (Ca.toList.take es.length++C2.toList.take xs.length++Ca.toList.drop (es.length+xs.length)).toArray) S2 (nb:=nb) (b:=b) (ys:=es++xs) hr ub dU (by simp;omega)
          (fun b' aA _=>setRow_other w b b' _ aA) (by simp) ⟨rfl,rfl⟩ Fj (Rg (.inl rfl) ab uc) f3 K
          (fill _ (fun j hj=>by
           rw[nJ,fJ,oD (by simp;omega),iJ hj,o9]) (fun j hj=>by
           rw[nJ,fJ,oE (by simp;omega),oD (by simp;omega),kT,Array.length_toList (xs:=Ca),Bj (by omega),Km,iJ hj,o9]))
          (fun j b1 l hj=>by
           rcases hj with ⟨_,hj⟩|⟨_,hj⟩
           ·exact ft _ _ _ hj
           ·exact ⟨akx _ _ _ hj,lit _ _ _ hj⟩) tP
         refine ⟨_,_,I,av β nb (some b),da,?_⟩;rw[vG];refine ⟨(k1.trans k2).trans a1,a2,?_⟩;have:=ai.ee (P:=P) (w:=w.setRow b (Ca.toList.take es.length++C2.toList.take xs.length++Ca.toList.drop (es.length+xs.length)).toArray) (I:=I) (β:=av β nb (some b)) (hp:=av (av (av hp id (some af.dead)) bD (some af.dead)) nb (some (.nest e (es++xs) [0,0,0]))) (b:=b) (cap:=cap) (bW _ _ _) (bW _ _ _) (by rw[lb dU,hk,fZ];simp;omega) (by rw[dd];exact pr) hm;rw[dd] at this;exact this
        ·have hold: ∀(j:Nat) v,(Ca.toList.take es.length)[j]? =some v→w.cell? ((⟨b,0,none⟩:Addr).add j)=some v:=by
          intro j v hj;have ej:=(cL.1 hj).1;rw[kT] at ej;rw[iJ (by omega)] at hj;rw[oL,cell?_cells f1,ed];simpa using hj
         have da:=run_append_grow (P:=P) w t ty e i z hu hi hz ⟨b,0,none⟩ es.length cap (Ca.toList.take es.length) (by rw[h3,fZ];simp;omega) hold ⟨b2,0,none⟩ xs.length Fm (C2.toList.take xs.length) (by rw[n0,h3,fZ]) tW (by omega) (by omega)
          (growslice_fits (by omega) (by rw[←nZ];simp only[aX] at eI;omega))
         have qp:=grownCap_ge w (es.length+xs.length) cap e;have sL:grownCap w (es.length+xs.length) cap e≤maxLen:=grownCap_le_maxLen w _ cap e (by simp only[maxLen];omega);have dU:(w.drew.alloc (.cells ((Ca.toList.take es.length).toArray++(C2.toList.take xs.length).toArray++Builtin.zeroCells z.cells (grownCap w (es.length+xs.length) cap e-(es.length+xs.length))) e)).heap[w.heap.size]? =some (.cells ((Ca.toList.take es.length).toArray++(C2.toList.take xs.length).toArray++Builtin.zeroCells z.cells (grownCap w (es.length+xs.length) cap e-(es.length+xs.length))) e):=heap_alloc_new w.drew (.cells ((Ca.toList.take es.length).toArray++(C2.toList.take xs.length).toArray++Builtin.zeroCells z.cells (grownCap w (es.length+xs.length) cap e-(es.length+xs.length))) e);have BY:=S2.h.jK;obtain ⟨a1,a2⟩:=Fl (w':=w.drew.alloc (.cells ((Ca.toList.take es.length).toArray++(C2.toList.take xs.length).toArray++Builtin.zeroCells z.cells (grownCap w (es.length+xs.length) cap e-(es.length+xs.length))) e)) S2 (nb:=nb) (b:=w.heap.size) (ys:=es++xs) hr ub dU (by simp;omega)
          (fun b' _ bf=>heap_alloc_old w.drew _ b' bf) (by simp) ⟨rfl,rfl⟩ (.inr S.size) (fun ax blk' h ho=>nG _ (S2.h.lt h ho)) (fun j hj=>nG _ (BY _ j hj)) K
          (fill _ (fun j hj=>by
           rw[Eb (by simp;omega),Eb (by simp;omega),nJ,iJ hj,o9]) (fun j hj=>by
           rw[Eb (by simp;omega),Array.getElem?_append_right (by simp;omega)];simp only[rZ,kT,Array.length_toList (xs:=Ca),Bj f2,Km];rw[nJ,iJ hj,o9]))
          (fun j b1 l hj=>by
           rcases hj with ⟨_,hj⟩|⟨_,hj⟩
           ·obtain ⟨_,q⟩:=ft _ _ _ hj;exact ⟨Ec q.1,q⟩
           ·exact ⟨Ec (lit _ _ _ hj).1,lit _ _ _ hj⟩) tP
         refine ⟨_,_,I,av β nb (some w.heap.size),da,?_⟩;rw[vG];refine ⟨(k1.trans k2).trans a1,a2,?_⟩;have:=ai.ee (P:=P) (w:=w.drew.alloc (.cells ((Ca.toList.take es.length).toArray++(C2.toList.take xs.length).toArray++Builtin.zeroCells z.cells (grownCap w (es.length+xs.length) cap e-(es.length+xs.length))) e)) (I:=I) (β:=av β nb (some w.heap.size)) (hp:=av (av (av hp id (some af.dead)) bD (some af.dead)) nb (some (.nest e (es++xs) [0,0,0]))) (b:=w.heap.size) (cap:=grownCap w (es.length+xs.length) cap e) (bW _ _ _) (bW _ _ _) (by rw[lb dU,hk,fZ];simp[size_zeroCells,h4];omega) (by rw[dd];exact qp) sL;rw[dd] at this;exact this
      | _=>cases he
    | _=>cases hd
   | _=>cases hb
 | _=>cases ha
theorem aan (S:aB P w I β hp B M w0) {t ty e:TypeId} {nb:Nat} {s x:Value} {sv xv:V} {r:R} {rd:List Nat} (hu:P.underlying t=some (.slice e)) (hs:ai P w I β hp s sv) (hx:ai P w I β hp x xv)
  (h:(Qh P nb e sv xv).run C hp=some (r,rd)):dJ P ((Builtin.append_ #[t,t] ty #[s,x]).run P w) w I β hp B M w0 r:=by
 unfold Qh at h;split at h
 ·rename_i e' id ver i;obtain ⟨aw,h1⟩:=aH h;clear h;obtain ⟨xs,ng,l0,h2⟩:=Fg S.h.rel aw hx h1;obtain ⟨e0,es,vers,l1,ab,k1,k2,k3,h3⟩:=rh h2;cases hr:rowOf P e0 with
  | none=>simp only[hr] at h3;cases h3
  | some e1=>
  simp only[hr] at h3;obtain ⟨hc,h4⟩:=aH h3;simp only[aK,aZ] at hc;obtain ⟨rfl,rfl⟩:=hc;obtain ⟨y,hy,h5⟩:=oH h4;obtain ⟨eI,h6⟩:=aH h5;obtain ⟨l2,h7⟩:=run_get h6;cases hn:hp nb with
  | some _=>rw[hn] at h7;cases h7
  | none=>
  rw[hn] at h7;obtain ⟨ja,rfl⟩:=mB h7;obtain ⟨b,q,i0,c,t1,l,bX,hb,ht,hc⟩:=hs.QB ab k1 k2 k3;have:q=[]∧i0=i∧c=0:=by
   have hq:([]:Path)++[(i,0)]=q++[(i0,c)]:=bX;obtain ⟨h1,h2⟩:=List.append_inj' hq rfl;simp only[yG,mV,and_true] at h2;exact ⟨h1.symm,h2.1.symm,h2.2.symm⟩
  obtain ⟨rfl,rfl,rfl⟩:=this;obtain ⟨Rf,cX,aky,oN,gS⟩:=xr hr;have kC:bc P e0=[e0]:=by simp[bc,cX]
  have hk:P.cellsOf e0=1:=by rw[←fM aky,kC];rfl
  obtain ⟨b',e',aQ,Ca,T,f,x1,m1,m2,m3,m4,m5,m6⟩:=hc;cases m1;rw[hk,fZ,Nat.add_zero] at m6;obtain ⟨tS,l1,S1,hv⟩:=akb S hr ab hb hy hn;have zo:=hv _ _ _ _ m2 m6;have cm:nb≠id:=fun h=>by rw[h,ab] at hn;cases hn
  have akz:nb+1≠id:=fun h=>by rw[h,ab] at ja;cases ja
  generalize hq:av (av hp id (some (af.out e0 es (vers.map (· +1)) i0))) nb (some (.arr e y.toList false))=B4 at l1 S1 zo;have hq0:B4 nb=some (.arr e y.toList false):=by rw[←hq,bW]
  have hqn:B4 (nb+1)=none:=by rw[←hq,cK _ _ (Nat.succ_ne_self nb),cK _ _ akz];exact ja
  have dm:((∃a,x= .slice a 0 0)∧xs=[])∨∃a c news,Row P w I e x xs a c news:=ng;have:=aaj (ty:=ty) S1 hu aw zo hq0 hqn eI (by
   rcases dm with h|⟨a,c,news,h⟩
   ·exact .inl h
   ·exact .inr ⟨a,c,news,h.val,h.len,h.cell,fun i j x t' p1 p2 p3=>(h.el i j x t' p1 p2 p3).imp fun u hu=>⟨hu.1,hu.2.mono l1.eO l1.cZ⟩⟩)
  obtain ⟨v,w',I',β',a1,a2,a3,a4⟩:=this;refine ⟨v,w',I',β',a1,?_⟩;have vG:cB hp [(nb+1,.arr e (y.toList++xs) false),(nb,.dead),(id,.out e0 es (vers.map (· +1)) i0)]=cB B4 [(nb+1,.arr e (y.toList++xs) false),(nb,.dead)]:=by
   rw[←hq];funext k;simp only[cB];by_cases q0:k=nb+1
   ·subst q0;rw[bW,bW]
   ·rw[cK _ _ q0,cK _ _ q0];by_cases q1:k=nb
    ·subst q1;rw[bW,bW]
    ·rw[cK _ _ q1,cK _ _ q1,cK _ _ q1]
  rw[vG];exact ⟨l1.trans a2,a3,a4⟩
 ·exact akp S hu hs hx h
theorem aao (S:aB P w I β hp B M w0) {t e e1:TypeId} {nb:Nat} {v:Value} {l:List V} (hu:P.underlying t=some (.slice e)) (hr:rowOf P e=some e1) (hn:hp nb=none) (K:Nat→List V→Prop)
  (hv:zj P w e1 K v l) (hK: ∀b1 l,K b1 l→b1<w.heap.size∧iB P w I b1 e1 l∧(M b1∨B≤b1)∧∀id blk,hp id=some blk→¬bB P w (β id) blk b1):
  (Instr.buildSlice t 1 #[(0,v)]).run P w= .ok (.slice (some ⟨w.heap.size,0,none⟩) 1 1) (w.alloc (.cells #[v] e))∧
  Le P w I β hp (w.alloc (.cells #[v] e)) I (av β nb (some w.heap.size)) (av hp nb (some (.nest e [.list e1 l] [0,0,0])))∧aB P (w.alloc (.cells #[v] e)) I (av β nb (some w.heap.size)) (av hp nb (some (.nest e [.list e1 l] [0,0,0]))) B M w0∧
  ai P (w.alloc (.cells #[v] e)) I (av β nb (some w.heap.size)) (av hp nb (some (.nest e [.list e1 l] [0,0,0]))) (.slice (some ⟨w.heap.size,0,none⟩) 1 1) (.whole e nb):=by
 obtain ⟨Rf,cX,aw,oN,gS⟩:=xr hr;have kC:bc P e=[e]:=by simp[bc,cX]
 have hk:P.cellsOf e=1:=by rw[←fM aw,kC];rfl
 obtain ⟨i,z,hi,hz,h3,h4,_⟩:=kE aw;rw[hk] at h3 h4;have rp:v.cells= #[v]:=by rcases hv with ⟨_,a,rfl⟩|⟨b1,cap,_,rfl,_⟩<;>rfl
 have da:=Q9 w t e 1 #[(0,v)] #[v] i z hu hi hz (by rw[h3];omega) (by
  rw[h3];simp[Instr.fill,rp];rw[show Array.range 1= #[0] from rfl];simp)
 have dU:(w.alloc (.cells #[v] e)).heap[w.heap.size]? =some (.cells #[v] e):=heap_alloc_new w _;obtain ⟨a1,a2⟩:=Fl (w':=w.alloc (.cells #[v] e)) S (nb:=nb) (b:=w.heap.size) (ys:=[.list e1 l]) hr hn dU (by simp)
  (fun b' _ bf=>heap_alloc_old w _ b' bf) (by simp) ⟨rfl,rfl⟩ (.inr S.size) (fun ax blk' h ho=>nG _ (S.h.lt h ho)) (fun j hj=>nG _ (S.h.jK _ j hj))
  (fun i b1 l=>i=0∧K b1 l) (fun j y hy=>by
   cases j with
   | succ j=>simp at hy
   | zero=>
    simp at hy;subst hy;refine ⟨l,v,rfl,rfl,?_⟩;rcases hv with h|⟨b1,cap,z1,z2,z3,z4,z5,z6⟩
    ·exact .inl h
    ·exact .inr ⟨b1,cap,z1,z2,z3,z4,z5,rfl,z6⟩)
  (fun j b1 l h=>⟨Ec (hK b1 l h.2).1,hK b1 l h.2⟩) (fun i j b1 l m h1 h2=>h1.1.trans h2.1.symm)
 refine ⟨da,a1,a2,?_⟩;exact .ee (es:=[.list e1 l]) (bW _ _ _) (bW _ _ _) (by rw[lb dU,hk];rfl) (az _) (by simp[maxLen])
theorem akA (S:aB P w I β hp B M w0) {a:Act} {sl:Nat→V} (hs:nU P w I β hp a sl) {G:Nat→V} (hg:jL P G w I) {t e:TypeId} {len nb:Nat} {ps:Array (Nat×Operand)} {r:R} {rd:List Nat} (hu:P.underlying t=some (.slice e))
  (h:(Ze P nb e len (ps.toList.map fun p=>(p.1,bd P G e sl p.2))).run C hp=some (r,rd)):
  dJ P ((Instr.buildSlice t len (ps.map fun (i,x)=>(i,a.eval x))).run P w) w I β hp B M w0 r:=by
 obtain ⟨hl,ha⟩:=aH h;clear h;rw[aZ,cH] at hl;cases hr:rowOf P e with
 | none=>rw[hr] at ha;cases ha
 | some e1=>
 simp only[hr] at ha;obtain ⟨Rf,cX,aw,oN,gS⟩:=xr hr;obtain ⟨ps⟩:=ps;simp only at ha hl;cases ps with
 | nil=>
  obtain ⟨hn,rfl⟩:=mB ha;simp only[List.length_nil] at hl;subst hl;obtain ⟨i,z,hi,hz,h3,h4,_⟩:=kE aw;have da:=Q9 w t e 0 #[] #[] i z hu hi hz (by omega) (by simp[Instr.fill]);have dU:(w.alloc (.cells #[] e)).heap[w.heap.size]? =some (.cells #[] e):=heap_alloc_new w _;obtain ⟨a1,a2⟩:=Fl (w':=w.alloc (.cells #[] e)) S (nb:=nb) (b:=w.heap.size) (ys:=[]) hr hn dU (by simp)
   (fun b' _ bf=>heap_alloc_old w _ b' bf) (by simp) ⟨rfl,rfl⟩ (.inr S.size) (fun ax blk' h ho=>nG _ (S.h.lt h ho)) (fun j hj=>nG _ (S.h.jK _ j hj))
   (fun _ _ _=>False) (fun j y hy=>by simp at hy) (fun _ _ _ h=>h.elim) (fun _ _ _ _ _ h=>h.elim)
  exact ⟨_,_,I,av β nb (some w.heap.size),by simpa using da,a1,a2,.ee (es:=[]) (bW _ _ _) (bW _ _ _) (by rw[lb dU];simp) (az _) (by simp)⟩
 | cons p ps=>
  cases ps with
  | cons q ps=>
   obtain ⟨p1,p2⟩:=p;simp only[iS] at ha;cases p1<;>cases hx:bd P G e sl p2<;>simp only[hx] at ha<;>cases ha
  | nil=>
  obtain ⟨p1,p2⟩:=p;simp only[List.length_cons,List.length_nil,ed] at hl;subst hl;have qn:=hs.ev hg e p2;simp only[iS,List.map_nil] at ha;cases p1 with
  | succ n=>cases hx:bd P G e sl p2<;>simp only[hx] at ha<;>cases ha
  | zero=>
  cases hx:bd P G e sl p2 with
  | nilS e2=>
   simp only[hx] at ha;obtain ⟨hc,hb⟩:=aH ha;obtain ⟨hn,rfl⟩:=mB hb;rw[hx] at qn;obtain ⟨a0,zp⟩: ∃a0,a.eval p2= .slice a0 0 0:=by
    generalize a.eval p2=v at qn;cases qn;exact ⟨_,rfl⟩
   obtain ⟨k1,k2,k3,k4⟩:=aao S (v:=a.eval p2) (l:=[]) hu hr hn (fun _ _=>False) (.inl ⟨rfl,a0,zp⟩) (fun _ _ h=>h.elim);exact ⟨_,_,I,av β nb (some w.heap.size),by simpa using k1,k2,k3,k4⟩
  | whole e2 id=>
   simp only[hx] at ha;obtain ⟨l0,hb⟩:=run_get ha;clear ha;cases ab:hp id with
   | none=>rw[ab] at hb;cases hb
   | some blk=>
    rw[ab] at hb;cases blk with
    | arr e3 es fz=>
     cases fz with
     | true=>cases hb
     | false=>
      obtain ⟨hc,hd⟩:=aH hb;clear hb;simp only[aK,aZ] at hc;obtain ⟨rfl,rfl⟩:=hc;obtain ⟨hn,rfl⟩:=mB hd;have cm:nb≠id:=fun e=>by rw[e,ab] at hn;cases hn
      obtain ⟨k1,S1⟩:=xl S ab;have ja:av hp id (some af.dead) nb=none:=by rw[cK _ _ cm];exact hn
      have vG:cB hp [(nb,.nest e [.list e1 es] [0,0,0]),(id,.dead)]=av (av hp id (some af.dead)) nb (some (.nest e [.list e1 es] [0,0,0])):=rfl;rw[hx] at qn;have fin: ∀(K:Nat→List V→Prop),zj P w e1 K (a.eval p2) es→(∀b1 l,K b1 l→b1<w.heap.size∧iB P w I b1 e1 l∧(M b1∨B≤b1)∧∀ax blk',av hp id (some af.dead) ax=some blk'→¬bB P w (β ax) blk' b1)→
        dJ P ((Instr.buildSlice t 1 #[(0,a.eval p2)]).run P w) w I β hp B M w0 ⟨.whole e nb,[(nb,.nest e [.list e1 es] [0,0,0]),(id,.dead)]⟩:=fun K hv hK=>by
       obtain ⟨q1,q2,q3,q4⟩:=aao S1 (v:=a.eval p2) (l:=es) hu hr ja K hv hK;refine ⟨_,_,I,av β nb (some w.heap.size),q1,?_⟩;rw[vG];exact ⟨k1.trans q2,q3,q4⟩
      have res:dJ P ((Instr.buildSlice t 1 #[(0,a.eval p2)]).run P w) w I β hp B M w0 ⟨.whole e nb,[(nb,.nest e [.list e1 es] [0,0,0]),(id,.dead)]⟩:=by
       generalize a.eval p2=v at qn fin⊢;cases qn with
       | eD hd=>rw[ab] at hd;cases hd
       | ee hd=>rw[ab] at hd;cases hd
       | eF hd=>rw[ab] at hd;cases hd
       | fD hd=>rw[ab] at hd;cases hd
       | @ep _ _ _ a0 hd hb=>
        rw[ab] at hd;cases hd;exact fin (fun _ _=>False) (.inl ⟨rfl,a0,rfl⟩) (fun _ _ h=>h.elim)
       | @whole _ _ _ _ b cap hd hb br cg hm=>
        rw[ab] at hd;cases hd;obtain ⟨m1,m2⟩:=Q1 S ab hb gS;obtain ⟨m3,m4⟩:=m1 _ _ _ _ .here;by_cases h0:0<cap
        ·refine fin (fun b1 l=>b1=b∧l=es) (.inr ⟨b,cap,h0,rfl,br,cg,hm,rfl,rfl⟩) (fun b1 l h=> ?_);obtain ⟨rfl,rfl⟩:=h;refine ⟨S.h.lt ab m4,m3,S.h.own id _ _ ab m4,fun ax blk' h' ho=> ?_⟩;by_cases q:ax=id
         ·subst q;rw[bW] at h';cases h';exact absurd rfl ho.alive
         ·rw[cK _ _ q] at h';exact q (S.h.inj ax id _ _ _ h' ab ho m4)
        ·have:es=[]:=wM.1 (by omega);subst this;exact fin (fun _ _=>False) (.inl ⟨rfl,some ⟨b,0,none⟩,by rw[show cap=0 by omega];rfl⟩) (fun _ _ h=>h.elim)
      simpa using res
    | _=>cases hb
  | _=>simp only[hx] at ha;cases ha
end
section
variable {P:Program} {w w':World} {I I':Nat→Nat→Prop} {β β':Nat→Option Nat} {hp hp':Nat→Option af} {C:ae} {B:Nat} {M:Nat→Prop} {w0:Start}
theorem akB (S:aB P w I β hp B M w0) {s:TypeId} {f:Nat} {v:Value} {x:V} {r:R} {rd:List Nat} (hv:ai P w I β hp v x)
  (h:(Qn P s f x).run C hp=some (r,rd)):dJ P ((Instr.field s v f).run P w) w I β hp B M w0 r:=by
 unfold Qn KF at h;split at h
 ·rename_i fs hu;cases hf:fs[f]? with
  | none=>rw[hf] at h;cases h
  | some fd=>
   rw[hf] at h;simp only[BA] at h;obtain ⟨ht,h⟩:=aH h;obtain ⟨d,zq⟩:=E2 ht;obtain ⟨i,hi⟩:=zd zq;have br:i.size=P.cellsOf fd.type:=by simp[Program.cellsOf,hi]
   cases x with
   | agg xs=>
    obtain ⟨cs,rfl,h1,h2⟩:=hv.nW;dsimp only at h;cases ha:cA P fd.type with
    | true=>
     rw[ha] at h;simp only[cond_true] at h;obtain ⟨hc,h⟩:=aH h;obtain rfl:=ba h;rw[fp] at hc;refine .same S (v:= .agg (cs.extract fd.offset (fd.offset+P.cellsOf fd.type))) ?_ (.agg (by simp;omega) fun j u y kD hy=> ?_)
     ·simp[Instr.field,run_underlying hu,hf,part,QJ zq,ha,asAgg,sizeOf,typeInfo,hi,br]
     grind
    | false=>
     rw[ha] at h;simp only[cond_false] at h;obtain ⟨y,hy,h⟩:=oH h;obtain rfl:=ba h;have bf:fd.offset<cs.size:=by grind
     refine .same S (v:=cs[fd.offset]) ?_ (h2 _ _ _ (ml bf) hy);simp[Instr.field,run_underlying hu,hf,part,QJ zq,ha,asAgg,bf]
   | _=>cases h
 ·cases h
theorem akC (S:aB P w I β hp B M w0) {i:Nat} {v:Value} {xs:List V} {r:R} {rd:List Nat} (hv:ai P w I β hp v (.bK xs))
  (h:(Rd.opt xs[i]? fun v=> .ret ⟨v,[]⟩).run C hp=some (r,rd)):dJ P ((Instr.extract v i).run P w) w I β hp B M w0 r:=by
 obtain ⟨cs,rfl,h1,h2⟩:=hv.zc;obtain ⟨y,hy,h⟩:=oH h;obtain rfl:=ba h;have bf:i<cs.size:=by grind
 exact .same S (v:=cs[i]) (by simp[Instr.extract,bf]) (h2 _ _ _ (ml bf) hy)
theorem akD (S:aB P w I β hp B M w0) {t:TypeId} {s:ByteArray} {l:List UInt8} {k:IntKind} {i:Int} {r:R} {rd:List Nat} (hu:P.underlying t=some .string) (hs:s.data.toList=l)
  (h:(Rd.opt (bif decide (0≤i) then (l[i.toNat]?).map fun b=>V.int .u8 b.toNat else none) fun v=> .ret ⟨.int .u8 v.toInt,[]⟩).run C hp=some (r,rd)):
  dJ P ((Instr.index t (.string s) (.int k i)).run P w) w I β hp B M w0 r:=by
 obtain ⟨v,hv,h⟩:=oH h;obtain rfl:=ba h;cases hc:decide (0≤i) with
 | false=>grind
 | true=>
  rw[hc] at hv;simp only[cond_true] at hv;have h0:0≤i:=by grind
  cases hb:l[i.toNat]? with
  | none=>grind
  | some b=>
   rw[hb] at hv;simp only[Option.map_some,eX] at hv;subst hv;have Fo:s[i.toNat]? =some b:=by
    subst hs;obtain ⟨bf,he⟩:=cL.1 hb;have Ri:i.toNat<s.size:=by simpa using bf
    rw[getElem?_pos s i.toNat Ri];congr 1
   refine .same S (v:= .int .u8 b.toNat) ?_ .int;simp[Instr.index,asIntOf,run_underlying hu,h0,Fo]
theorem Rj (S:aB P w I β hp B M w0) (mx:Bool): ∀{vs:List Value} {xs:List V} {v:Value} {x:V} {r:R} {rd:List Nat},ai P w I β hp v x→vs.length=xs.length→
  (∀(j:Nat) u y,vs[j]? =some u→xs[j]? =some y→ai P w I β hp u y)→(BB mx x xs).run C hp=some (r,rd)→
  dJ P ((vs.foldlM (if mx then Builtin.max2 else Builtin.min2) v).run P w) w I β hp B M w0 r
 | [],[],v,x,r,rd,hv,_,_,h=>by
  have:r=⟨x,[]⟩:=by
   cases x<;>(simp only[BB] at h;exact (ba h).symm)
  subst this;exact .same S (by simp) hv
 | [],_::_,v,x,r,rd,hv,hl,_,h=>by simp at hl
 | _::_,[],v,x,r,rd,hv,hl,_,h=>by simp at hl
 | u::vs,y::xs,v,x,r,rd,hv,hl,hx,h=>by
  cases x<;>cases y<;>simp only[BB] at h<;>first|(cases h;done)|skip
  rename_i k a k' b;obtain ⟨hc,h4⟩:=aH h;clear h;obtain rfl:k=k':=by grind
  have hu:=hx 0 u _ rfl rfl;rw[hv.gF,hu.gF];have ih:=Rj S mx (vs:=vs) (xs:=xs) (v:= .int k (bif mx then (if b>a then b else a) else (if b<a then b else a))) .int (by grind)
   (fun j u y h1 h2=>hx (j+1) u y (by grind) (by grind)) h4
  cases mx with
  | true=>simpa[List.foldlM_cons,Builtin.max2] using ih
  | false=>simpa[List.foldlM_cons,Builtin.min2] using ih
theorem ud {n cap:Nat} {isS:Bool} {lo hi:Option V} {lov hiv:Option Value} {k:Nat→Nat→Rd R} {r:R} {rd:List Nat} (hn:n≤cap)
  (lk: ∀x,lo=some x→∃v,lov=some v∧ai P w I β hp v x) (kg: ∀x,hi=some x→∃v,hiv=some v∧ai P w I β hp v x) (qs:lo=none→lov=none) (rq:hi=none→hiv=none)
  (h:(vd n lo hi k).run C hp=some (r,rd)): ∃l u,l≤u∧u≤n∧(Instr.sliceBounds isS n cap lov hiv none).run P w= .ok (l,u,cap) w∧(k l u).run C hp=some (r,rd):=by
 have ok: ∀(kk:IntKind) (i:Int) (y:Nat) (c:BoundsCode),0≤i→i≤y→(Instr.sliceBound (.int kk i) y c).run P w= .ok i.toNat w:=by
  intro kk i y c h1 h2;simp[Instr.sliceBound,asIntOf,h1,h2]
 unfold vd at h;cases lo with
 | none=>
  rw[qs rfl];cases hi with
  | none=>
   rw[rq rfl];exact ⟨0,n,nK _,az _,by simp[Instr.sliceBounds],h⟩
  | some x=>
   obtain ⟨v,rfl,hv⟩:=kg x rfl;cases x<;>simp only at h<;>first|(cases h;done)|skip
   rename_i kk u;obtain ⟨hc,h⟩:=aH h;simp only[aK,fo] at hc;rw[hv.gF];have:=ok kk u cap (if isS then .sliceAcap else .sliceAlen) hc.1 (by omega);exact ⟨0,u.toNat,nK _,by omega,by simp[Instr.sliceBounds,this],h⟩
 | some x=>
  obtain ⟨v,rfl,hv⟩:=lk x rfl;cases hi with
  | none=>
   rw[rq rfl];cases x<;>simp only at h<;>first|(cases h;done)|skip
   rename_i kk l;obtain ⟨hc,h⟩:=aH h;simp only[aK,fo] at hc;rw[hv.gF];have:=ok kk l n .sliceB hc.1 (by omega);exact ⟨l.toNat,n,by omega,az _,by simp[Instr.sliceBounds,this],h⟩
  | some y=>
   obtain ⟨v2,rfl,vp⟩:=kg y rfl;cases x<;>cases y<;>simp only at h<;>first|(cases h;done)|skip
   rename_i kk l kk2 u;obtain ⟨hc,h⟩:=aH h;simp only[aK,fo] at hc;rw[hv.gF,vp.gF];have h1:=ok kk2 u cap (if isS then .sliceAcap else .sliceAlen) (by omega) (by omega);have h2:=ok kk l u.toNat .sliceB hc.1 (by omega);exact ⟨l.toNat,u.toNat,by omega,by omega,by simp[Instr.sliceBounds,h1,h2],h⟩
theorem Ly {a:Option Addr} {t e:TypeId} {i:TypeInfo} (hu:P.underlying t=some (.slice e)) (hi:P.info? e=some i) {lov hiv:Option Value}
  (hb:(Instr.sliceBounds true 0 0 lov hiv none).run P w= .ok (0,0,0) w):(Instr.sliceAt t (.slice a 0 0) lov hiv none).run P w= .ok (.slice a 0 0) w:=by
 cases a<;>simp[Instr.sliceAt,Instr.slice,run_underlying hu,hb,sizeOf,typeInfo,hi]
theorem Rk {t e:TypeId} {i:TypeInfo} {b o len cap l u:Nat} (hu:P.underlying t=some (.slice e)) (hi:P.info? e=some i) {lov hiv:Option Value} (huc:u≤cap)
  (hb:(Instr.sliceBounds true len cap lov hiv none).run P w= .ok (l,u,cap) w): ∃o',(0<u-l→o'=o+l*i.size)∧(Instr.sliceAt t (.slice (some ⟨b,o,none⟩) len cap) lov hiv none).run P w= .ok (.slice (some ⟨b,o',none⟩) (u-l) (cap-l)) w:=by
 by_cases hc:cap=l
 ·subst hc;refine ⟨o,fun h=>by omega,?_⟩
  ·simp[Instr.sliceAt,Instr.slice,run_underlying hu,hb,sizeOf,typeInfo,hi]
 ·refine ⟨o+l*i.size,fun _=>rfl,?_⟩;simp[Instr.sliceAt,Instr.slice,run_underlying hu,hb,sizeOf,typeInfo,hi,hc,oL]
theorem akE (s:ByteArray) (l:List UInt8) (h:s.data.toList=l) (a b:Nat):(s.extract a b).data.toList=(l.drop a).take (b-a):=by
 simp_all
theorem akF (S:aB P w I β hp B M w0) {t:TypeId} {v:Value} {x:V} {lo hi:Option V} {lov hiv:Option Value} {r:R} {rd:List Nat} (hv:ai P w I β hp v x)
  (lk: ∀x,lo=some x→∃v,lov=some v∧ai P w I β hp v x) (kg: ∀x,hi=some x→∃v,hiv=some v∧ai P w I β hp v x) (qs:lo=none→lov=none) (rq:hi=none→hiv=none)
  (h:(KM P t x lo hi).run C hp=some (r,rd)):dJ P ((Instr.sliceAt t v lov hiv none).run P w) w I β hp B M w0 r:=by
 unfold KM at h;cases hu:P.underlying t with
 | none=>rw[hu] at h;cases h
 | some d=>
  rw[hu] at h;cases d<;>simp only at h<;>first|(cases h;done)|skip
  case string=>
   cases x<;>simp only at h<;>first|(cases h;done)|skip
   rename_i l;obtain ⟨s,rfl,hs⟩:=hv.po;have br:l.length=s.size:=by rw[←hs];simp
   obtain ⟨a,u,h1,h2,h3,h4⟩:=ud (isS:=false) (cap:=s.size) (by omega) lk kg qs rq h;obtain rfl:=ba h4;rw[br] at h3;refine .same S (v:= .string (s.extract a u)) ?_ (.str (akE s l hs a u));simp[Instr.sliceAt,Instr.slice,run_underlying hu,h3]
  case slice e=>
   cases x<;>simp only at h<;>first|(cases h;done)|skip
   case list e' es=>
    obtain ⟨hc,h⟩:=aH h;simp only[aK,aZ] at hc;obtain ⟨fj,aw⟩:=hc;obtain ⟨i,z,eU,_,br,_⟩:=kE aw;cases hv with
    | list hp'=>
     cases hp' with
     | nil=>
      obtain ⟨a,u,h1,h2,h3,h4⟩:=ud (n:=0) (isS:=true) (cap:=0) (az _) lk kg qs rq h;obtain rfl:=ba h4;obtain rfl:u=0:=by omega
      obtain rfl:a=0:=by omega
      exact .same S (Ly hu eU h3) (by simpa using ai.list lJ.nil)
     | @emp ad cap=>
      obtain ⟨a,u,h1,h2,h3,h4⟩:=ud (n:=0) (isS:=true) (cap:=cap) (nK _) lk kg qs rq h;obtain rfl:=ba h4;obtain rfl:u=0:=by omega
      obtain rfl:a=0:=by omega
      refine .same S (v:= .slice (some ad) 0 cap) ?_ (by simpa using ai.list lJ.emp);by_cases hc:cap=0
      ·subst hc;simp[Instr.sliceAt,Instr.slice,run_underlying hu,h3,sizeOf,typeInfo,eU]
      ·simp[Instr.sliceAt,Instr.slice,run_underlying hu,h3,sizeOf,typeInfo,eU,hc,Addr.add]
     | @list b o len cap _ g hl cg hI gJ hx=>
      obtain ⟨a,u,h1,h2,h3,h4⟩:=ud (isS:=true) (cap:=cap) (by omega) lk kg qs rq h;obtain rfl:=ba h4;rw[hl] at h2 h3;obtain ⟨o',su,da⟩:=Rk (b:=b) (o:=o) hu eU (by omega) h3;have ju:e=e':=fj;refine .same S da (.list ?_);rw[←ju];rw[←ju] at gJ hx hI;have hlen:((es.drop a).take (u-a)).length=u-a:=by simp;omega
      refine .list (fun i j=>g (a+i) j) hlen (by omega) (fun j hj=> ?_) (fun i j hi hj=> ?_) (fun i j y t' hy ht=> ?_)
      ·have kF:0<u-a:=rY fun e=>by grind
       rw[su (by omega),br,Bf];refine hI _ (gC (Nat.add_lt_add_left hj _) ?_);rw[←kq];exact eM _ (by omega)
      all_goals grind
   case whole e' id=>
    obtain ⟨l,h⟩:=run_get h;cases ab:hp id with
    | none=>rw[ab] at h;cases h
    | some blk=>
     rw[ab] at h;cases blk<;>simp only at h<;>first|(cases h;done)|skip
     rename_i eN es fz;obtain ⟨hc,h9⟩:=aH h;clear h;simp only[aK,aZ] at hc;obtain ⟨fj,im,aw⟩:=hc;obtain ⟨i,z,eU,_,br,_⟩:=kE aw;cases hv with
     | eD hd=>grind
     | ee hd=>grind
     | eF hd=>grind
     | fD hd=>grind
     | ep hd hb=>
      rw[ab] at hd;cases hd;obtain ⟨a,u,h1,h2,h3,h4⟩:=ud (n:=0) (isS:=true) (cap:=0) (az _) lk kg qs rq h9;obtain rfl:=ba h4;obtain rfl:u=0:=by omega
      obtain rfl:a=0:=by omega
      exact .same S (Ly hu eU h3) (.jo ab hb)
     | @whole _ _ aQ ra b cap hd hb B1 cg hm=>
      have fQ:=hd;rw[ab] at hd;cases hd;obtain ⟨a,u,h1,h2,h3,h4⟩:=ud (isS:=true) (cap:=cap) cg lk kg qs rq h9;obtain rfl:=ba h4;obtain ⟨o',su,da⟩:=Rk (b:=b) (o:=0) hu eU (by omega) h3;have ju:e=e':=fj;exact .same S da (.sub fQ hb (by omega) (by omega) (fun h=>by grind))
   case sub e' id off len=>
    obtain ⟨l,h⟩:=run_get h;cases ab:hp id with
    | none=>rw[ab] at h;cases h
    | some blk=>
     rw[ab] at h;cases blk<;>simp only at h<;>first|(cases h;done)|skip
     rename_i eN es fz;obtain ⟨hc,h⟩:=aH h;simp only[aK,aZ] at hc;obtain ⟨fj,im,aw⟩:=hc;obtain ⟨i,z,eU,_,br,_⟩:=kE aw;cases hv with
     | jJ hd=>grind
     | jo hd hb=>
      have fQ:=hd;obtain ⟨a,u,h1,h2,h3,h4⟩:=ud (isS:=true) (cap:=0) (az _) lk kg qs rq h;obtain rfl:=ba h4;obtain rfl:u=0:=by omega
      obtain rfl:a=0:=by omega
      exact .same S (Ly hu eU h3) (.jo fQ hb)
     | @sub _ _ _ _ aQ ra b o cap hd hb lK cg ho=>
      have fQ:=hd;obtain ⟨a,u,h1,h2,h3,h4⟩:=ud (isS:=true) (cap:=cap) cg lk kg qs rq h;obtain rfl:=ba h4;obtain ⟨o',su,da⟩:=Rk (b:=b) (o:=o) hu eU (by omega) h3;have ju:e=e':=fj;exact .same S da (.sub fQ hb (by omega) (by omega) (fun h=>by grind))
  case array n e=>
   cases x<;>simp only at h<;>first|(cases h;done)|skip
   rename_i id j c;obtain ⟨l0,h⟩:=run_get h;cases ab:hp id with
   | none=>rw[ab] at h;cases h
   | some blk=>
    rw[ab] at h;cases blk<;>simp only at h<;>first|(cases h;done)|skip
    rename_i e' es fz;obtain ⟨hc,h9⟩:=aH h;clear h;simp only[aK,aZ] at hc;obtain ⟨rfl,rfl,rfl,rfl,aw⟩:=hc;obtain ⟨i,z,eU,_,br,_⟩:=kE aw;obtain ⟨a,u,h1,h2,h3,h4⟩:=ud (isS:=false) (cap:=es.length) (az _) lk kg qs rq h9;obtain rfl:=ba h4;obtain ⟨b,hb,rfl⟩:=hv.iZ ab (by simp);have da:(Instr.sliceAt t (.pointer (some ⟨b,0*(af.arr e es fz).sz P+0,none⟩)) lov hiv none).run P w= .ok (.slice (some ⟨b,if es.length=a then 0 else a*P.cellsOf e,none⟩) (u-a) (es.length-a)) w:=by
     rw[←br];simp[Instr.sliceAt,run_underlying hu,h3,sizeOf,typeInfo,eU,Instr.sureAddr];split<;>simp[oL]
    exact .same S da (.sub ab hb (by omega) (by omega) (fun h=>by grind))
theorem akG (S:aB P w I β hp B M w0) {t:TypeId} {v:Value} {x:V} {lo hi mx:Option V} {lov hiv mxv:Option Value} {r:R} {rd:List Nat} (hv:ai P w I β hp v x)
  (lk:lo=none→lov=none) (kg: ∀y,hi=some y→∃u,hiv=some u∧ai P w I β hp u y) (sy: ∀y,mx=some y→∃u,mxv=some u∧ai P w I β hp u y)
  (h:(Ql P t x lo hi mx).run C hp=some (r,rd)):dJ P ((Instr.sliceAt t v lov hiv mxv).run P w) w I β hp B M w0 r:=by
 unfold Ql at h;cases hu:P.underlying t with
 | none=>rw[hu] at h;cases h
 | some d=>
  rw[hu] at h;cases d<;>(try (cases h;done))
  rename_i e;cases lo<;>(try (cases h;done))
  cases hi<;>(try (cases h;done))
  rename_i zo;cases zo<;>(try (cases h;done))
  cases mx<;>(try (cases h;done))
  rename_i mv1;cases mv1<;>(try (cases h;done))
  obtain ⟨hc,h9⟩:=aH h;clear h;have h:=h9;clear h9;simp only[aK,fo] at hc;obtain ⟨rfl,rfl,aw⟩:=hc;obtain ⟨i,z,eU,_,_,_⟩:=kE aw;obtain ⟨u1,rfl,k1⟩:=kg _ rfl;obtain ⟨u2,rfl,k2⟩:=sy _ rfl;rw[k1.gF,k2.gF,lk rfl];have run: ∀{k k2:IntKind} (a:Option Addr) (len cap:Nat),(Instr.sliceAt t (.slice a len cap) none (some (.int k 0)) (some (.int k2 0))).run P w= .ok (.slice a 0 0) w:=by
   intro k k2 a len cap;cases a<;>simp[Instr.sliceAt,Instr.slice,Instr.sliceBounds,Instr.sliceBound,asIntOf,run_underlying hu,sizeOf,typeInfo,eU]
  cases x<;>(try (cases h;done))
  ·simp only at h;obtain rfl:=ba h;cases hv with
   | list hp'=>cases hp'<;>exact .same S (run _ _ _) .nilS
  ·simp only at h;obtain rfl:=ba h;cases hv;exact .same S (run _ _ _) .nilS
  ·rename_i e' id;simp only at h;obtain ⟨l,h⟩:=run_get h;cases ab:hp id with
   | none=>rw[ab] at h;cases h
   | some blk=>
    rw[ab] at h;cases blk<;>simp only at h<;>first|(cases h;done)|skip
    all_goals
     obtain rfl:=ba h;cases hv with
     | eD hd=>grind
     | ee hd=>exact .same S (run _ _ _) .nilS
     | eF hd=>exact .same S (run _ _ _) .nilS
     | fD hd=>grind
     | ep hd hb=>exact .same S (run _ _ _) .nilS
     | whole hd=>exact .same S (run _ _ _) .nilS
theorem akH (S:aB P w I β hp B M w0) {t:TypeId} {v ix:Value} {x y:V} {r:R} {rd:List Nat} (hv:ai P w I β hp v x) (hy:ai P w I β hp ix y)
  (h:(Qo P t x y).run C hp=some (r,rd)):dJ P ((Instr.indexAt t v ix).run P w) w I β hp B M w0 r:=by
 unfold Qo at h;cases hu:P.underlying t with
 | none=>rw[hu] at h;cases h
 | some d=>
  rw[hu] at h;cases y<;>(try (cases d<;>cases h;done))
  rename_i k i;rw[hy.gF];cases d<;>simp only at h<;>first|(cases h;done)|skip
  case slice e=>
   have run: ∀(b o len cap:Nat) (ie:TypeInfo),P.info? e=some ie→0≤i→i<(len:Int)→(Instr.indexAt t (.slice (some ⟨b,o,none⟩) len cap) (.int k i)).run P w= .ok (.pointer (some ⟨b,o+i.toNat*ie.size,none⟩)) w:=by
    intro b o len cap ie nf h0 h1;simp[Instr.indexAt,asIntOf,run_underlying hu,h0,h1,sizeOf,typeInfo,nf,oL]
   cases x<;>simp only at h<;>first|(cases h;done)|skip
   case list e' es=>
    obtain ⟨hc,h⟩:=aH h;simp only[aK,aZ] at hc;obtain ⟨fj,aw⟩:=hc;have ju:e=e':=fj;obtain ⟨ie,z,eU,_,br,_⟩:=kE aw;obtain ⟨el,fF,h⟩:=oH h;obtain rfl:=ba h;unfold idx at fF;cases h0:decide (0≤i) with
    | false=>grind
    | true=>
     rw[h0] at fF;simp only[cond_true] at fF;have Q6:0≤i:=by grind
     have bf:i.toNat<es.length:=(cL.1 fF).1;cases hv with
     | list hp'=>
      cases hp' with
      | nil=>simp at bf
      | emp=>simp at bf
      | @list b o len cap _ g hl cg hI gJ hx=>
       rw[←ju] at gJ hx hI;refine .same S (run b o len cap ie eU Q6 (by omega)) ?_;have fT:=BO (P:=P) e el;have aap:=fM aw;have aaq:(bif cA P e then flat P e else [e])=bc P e:=rfl;rw[aaq];have akI:ie.size=P.cellsOf e:=by omega
       refine .pref (by rw[fT]) (fun j hj=> ?_) (fun j t' y' ht QH=> ?_)
       ·rw[Bf,akI];exact hI _ (Qx (by omega) (by omega))
       ·obtain ⟨t2,a1,a2⟩:=QK QH;rw[ht] at a1;cases a1;have hj:j<P.cellsOf e:=by grind
        have gf:=hx i.toNat j el t' fF ht;refine ⟨g i.toNat j,?_,?_⟩
        ·grind
        ·rw[a2,gf.xm];exact gf
   case whole e' id=>
    obtain ⟨l,h⟩:=run_get h;cases ab:hp id with
    | none=>rw[ab] at h;cases h
    | some blk=>
     rw[ab] at h;cases blk<;>simp only at h<;>first|(cases h;done)|skip
     rename_i eN es fz;obtain ⟨hc,h⟩:=aH h;simp only[aK,aZ] at hc;obtain ⟨fj,im⟩:=hc;obtain ⟨eG,h⟩:=aH h;simp only[aK,fo] at eG;obtain rfl:=ba h;cases hv with
     | eD hd=>grind
     | ee hd=>grind
     | eF hd=>grind
     | fD hd=>grind
     | ep hd hb=>grind
     | @whole _ _ aQ ra b cap hd hb B1 cg hm=>
      have fQ:=hd;rw[ab] at hd;cases hd;have hr:=S.h.rel id _ ab;cases hr with
      | eZ aA=>grind
      | arr hL aw aA hh hs hf fR hx=>
       have ju:e=e':=fj;obtain ⟨ie,z,eU,_,br,_⟩:=kE aw;rw[←ju] at eU br;refine .same S (run b 0 _ cap ie eU eG.1 eG.2) ?_;have:=ai.ptr (P:=P) (w:=w) (I:=I) (i:=i.toNat) (c:=0) fQ (by simp) hb;simp only[af.sz] at this;grind
     rename_i eN es vers;obtain ⟨hc,h⟩:=aH h;simp only[aK,aZ] at hc;obtain ⟨fj,im⟩:=hc;obtain ⟨eG,h⟩:=aH h;simp only[aK,fo] at eG;obtain rfl:=ba h;cases hv with
     | eD hd=>grind
     | ep hd hb=>grind
     | whole hd=>grind
     | eF hd hb=>grind
     | fD hd=>grind
     | @ee _ _ aQ vers' b cap hd hb B1 cg hm=>
      have fQ:=hd;rw[ab] at hd;cases hd;have aw:=(S.rows fQ hb .here).ok;have ju:e=e':=fj;obtain ⟨ie,z,eU,_,br,_⟩:=kE aw;rw[←ju] at eU br;refine .same S (run b 0 _ cap ie eU eG.1 eG.2) ?_;have:=ai.ptr (P:=P) (w:=w) (I:=I) (i:=i.toNat) (c:=0) fQ (by simp) hb;simp only[af.sz] at this;grind
     rename_i eN es vers j0;obtain ⟨hc,h⟩:=aH h;simp only[aK,aZ] at hc;obtain ⟨fj,im⟩:=hc;obtain ⟨eG,h⟩:=aH h;simp only[aK,fo] at eG;obtain rfl:=ba h;cases hv with
     | eD hd=>grind
     | ep hd hb=>grind
     | whole hd=>grind
     | eF hd hb=>grind
     | ee hd=>grind
     | @fD _ _ j1 aQ vers' b cap hd hb B1 cg hm=>
      have fQ:=hd;rw[ab] at hd;cases hd;have ju:e=e':=fj;obtain ⟨ie,eU⟩: ∃ie,P.info? e=some ie:=by
       have hr:=S.h.rel id _ fQ;cases hr with
       | out _ jb _ _ _ _ _ _ _ _=>rw[ju];exact zd jb
      have br:ie.size=P.cellsOf e:=by simp[Program.cellsOf,eU]
      refine .same S (run b 0 _ cap ie eU eG.1 eG.2) ?_;have:=ai.ptr (P:=P) (w:=w) (I:=I) (i:=i.toNat) (c:=0) fQ (by simp) hb;simp only[af.sz] at this;grind
   case row e' id ver path=>
    obtain ⟨e0,es,vers,l,ab,h1,h2,h3,h⟩:=rh h;obtain ⟨e2,v',k1,k2,h⟩:=BK h;obtain ⟨hc,h⟩:=aH h;simp only[aK,aZ] at hc;obtain ⟨fj,im⟩:=hc;obtain ⟨eG,h⟩:=aH h;simp only[aK,fo] at eG;obtain rfl:=ba h;cases hv with
    | my hd hp'=>rw[ab] at hd;cases hd;exact absurd hp' (BL h1 h2 h3)
    | @row v _ e0 t1 _ ver b i1 c1 q es l1 vers hd hb hq QZ ht gJ=>
     have akJ:=gJ;obtain ⟨b',e3,aQ,Ca,T,f,x,m1,m2,m3,m4,m5,m6⟩:=gJ;have rm:=hd;rw[ab] at rm;cases rm;obtain ⟨n1,n2⟩:=K6 m1 m3 m4 ht m5;rw[n2] at k2;cases k2;simp only[V.toList] at eG;have hR:=S.rows hd hb m1;obtain ⟨C1,_,c2,_,c3,c4⟩:=hR.cells;rw[m2] at c2;cases c2;have hj:c1<P.cellsOf e3:=by
      rw[←fM hR.ok];grind
     obtain ⟨v2,d1,d2⟩:=c4 _ _ _ _ m3 m4 hj;rw[m6] at d1;cases d1;rw[m5] at d2;cases d2 with
     | gv a _=>unfold ez at a;grind
     | emp _=>grind
     | @row _ _ b1 cap _ hl _ _ _=>
      have aw:=(S.rows hd hb (m1.snoc m2 m3 m4 ht m5 hl m6)).ok;have ju:e=e':=fj;obtain ⟨ie,z,eU,_,br,_⟩:=kE aw;rw[←ju] at eU br;refine .same S (run b1 0 _ cap ie eU eG.1 eG.2) ?_;have:=ai.dS (P:=P) (I:=I) (i:=i.toNat) (c:=0) hd hb hq QZ ht hl akJ;grind
   case sub e' id off len=>
    obtain ⟨l,h⟩:=run_get h;cases ab:hp id with
    | none=>rw[ab] at h;cases h
    | some blk=>
     rw[ab] at h;cases blk<;>simp only at h<;>first|(cases h;done)|skip
     rename_i eN es fz;obtain ⟨hc,h⟩:=aH h;simp only[aK,aZ] at hc;obtain ⟨fj,im⟩:=hc;obtain ⟨eG,h⟩:=aH h;simp only[aK,fo] at eG;obtain rfl:=ba h;cases hv with
     | jJ hd=>grind
     | jo hd hb=>omega
     | @sub _ _ _ _ aQ ra b o cap hd hb lK cg ho=>
      have fQ:=hd;rw[ab] at hd;cases hd;have hr:=S.h.rel id _ ab;cases hr with
      | eZ aA=>grind
      | arr hL aw aA hh hs hf fR hx=>
       have ju:e=e':=fj;obtain ⟨ie,z,eU,_,br,_⟩:=kE aw;rw[←ju] at eU br;refine .same S (run b o _ cap ie eU eG.1 eG.2) ?_;have:=ai.ptr (P:=P) (w:=w) (I:=I) (i:=off+i.toNat) (c:=0) fQ (by simp) hb;simp only[af.sz] at this;grind
  case array n e=>
   have run: ∀(b o:Nat) (ie:TypeInfo),P.info? e=some ie→0≤i→i<(n:Int)→(Instr.indexAt t (.pointer (some ⟨b,o,none⟩)) (.int k i)).run P w= .ok (.pointer (some ⟨b,o+i.toNat*ie.size,none⟩)) w:=by
    intro b o ie nf h0 h1;simp[Instr.indexAt,asIntOf,run_underlying hu,h0,h1,sizeOf,typeInfo,nf,oL,Instr.sureAddr]
   cases x<;>simp only at h<;>first|(cases h;done)|skip
   case ptr id j c=>
    obtain ⟨eG,h⟩:=aH h;simp only[aK,fo] at eG;obtain ⟨d,zq⟩:=E2 eG.1;obtain ⟨ie,nf⟩:=zd zq;have br:ie.size=P.cellsOf e:=by simp[Program.cellsOf,nf]
    obtain ⟨l,h⟩:=run_get h;have ft: ∀blk,hp id=some blk→blk≠ .dead→dJ P ((Instr.indexAt t v (.int k i)).run P w) w I β hp B M w0 ⟨.ptr id j (c+i.toNat*P.cellsOf e),[]⟩:=fun blk ab hd=>by
     obtain ⟨b,hb,rfl⟩:=hv.iZ ab hd;refine .same S (run b _ ie nf eG.2.1 eG.2.2) ?_;rw[br,Bf];exact .ptr ab hd hb
    have new: ∀blk,hp id=some blk→blk≠ .dead→blk.sz P=P.cellsOf e→j=0→c=0→dJ P ((Instr.indexAt t v (.int k i)).run P w) w I β hp B M w0 ⟨.ptr id i.toNat 0,[]⟩:=fun blk ab hd hz hj hc=>by
     obtain ⟨b,hb,rfl⟩:=hv.iZ ab hd;refine .same S (run b _ ie nf eG.2.1 eG.2.2) ?_;have:=ai.ptr (P:=P) (w:=w) (I:=I) (i:=i.toNat) (c:=0) ab hd hb;grind
    cases ab:hp id with
    | none=>rw[ab] at h;cases h
    | some blk=>
     rw[ab] at h;cases blk with
     | var T cs=>obtain rfl:=ba h;grind
     | arr e' es fz=>
      cases he:Nat.beq e e' with
      | true=>
       simp only[he,cond_true] at h;rw[aZ] at he;subst he;obtain ⟨hc,h⟩:=aH h;simp only[aK,aZ] at hc;obtain rfl:=ba h;exact new _ ab (by simp) rfl hc.1 hc.2
      | false=>
       simp only[he,cond_false] at h;obtain rfl:=ba h;grind
     | nest e' es vs=>
      cases he:Nat.beq e e' with
      | true=>
       simp only[he,cond_true] at h;rw[aZ] at he;subst he;obtain ⟨hc,h⟩:=aH h;simp only[aK,aZ] at hc;obtain rfl:=ba h;exact new _ ab (by simp) rfl hc.1 hc.2
      | false=>
       simp only[he,cond_false] at h;obtain rfl:=ba h;grind
     | _=>cases h
   case pref ts cs=>
    obtain ⟨eG,h⟩:=aH h;simp only[aK,fo] at eG;obtain rfl:=ba h;obtain ⟨b,o,rfl,h1,h2,h3⟩:=hv.EZ;obtain ⟨d,zq⟩:=E2 eG.1;obtain ⟨ie,nf⟩:=zd zq;have br:ie.size=P.cellsOf e:=by simp[Program.cellsOf,nf]
    refine .same S (run b _ ie nf eG.2.1 eG.2.2) ?_;rw[br];exact ai.Zu h1 h2 h3
end
end Go.AM
namespace Go.AM
open Go.Maps
section
variable {P:Program} {w w':World} {I I':Nat→Nat→Prop} {β β':Nat→Option Nat} {hp hp':Nat→Option af} {C:ae} {B:Nat} {M:Nat→Prop} {w0:Start}
theorem akK (S:aB P w I β hp B M w0) {nb:Nat} {t:TypeId} {v:Value} {x:V} {lo hi:Option V} {lov hiv:Option Value} {r:R} {rd:List Nat} (hv:ai P w I β hp v x)
  (kg: ∀x,hi=some x→∃v,hiv=some v∧ai P w I β hp v x) (qs:lo=none→lov=none)
  (h:(KN P nb t x lo hi).run C hp=some (r,rd)):dJ P ((Instr.sliceAt t v lov hiv none).run P w) w I β hp B M w0 r:=by
 unfold KN at h;split at h
 case h_2=>cases h
 rename_i e e' id k hh hu;obtain ⟨l,h1⟩:=run_get h;cases ab:hp id with
 | none=>rw[ab] at h1;cases h1
 | some blk=>
  rw[ab] at h1;cases blk<;>simp only at h1<;>first|(cases h1;done)|skip
  rename_i e2 es fz;cases fz with
  | true=>cases h1
  | false=>
  obtain ⟨hc,h2⟩:=aH h1;simp only[aK,aZ,fo] at hc;obtain ⟨rfl,rfl,aw,hh0,hhn⟩:=hc;obtain ⟨hn,rfl⟩:=mB h2;have lk:=qs rfl;subst lk;obtain ⟨zr,rfl,hhv⟩:=kg _ rfl;obtain rfl:=hhv.gF;obtain ⟨i,z,eU,_,br,_⟩:=kE aw;have cm:nb≠id:=fun e=>by grind
  obtain ⟨k1,k2⟩:=xl S ab;have ja:av hp id (some af.dead) nb=none:=by rw[cK _ _ cm];exact hn
  have bnd: ∀cap,es.length≤cap→(Instr.sliceBounds true es.length cap none (some (.int k hh)) none).run P w= .ok (0,hh.toNat,cap) w:=by
   intro cap cg;have hb:(vd es.length none (some (.int k hh)) fun l u=> .aD (decide (l=0∧u=hh.toNat)) (.ret (⟨.undef,[]⟩:R))).run C hp=some (⟨.undef,[]⟩,[]):=by
    simp[vd,Rd.run,hh0,hhn]
   obtain ⟨l,u,b1,b2,b3,b4⟩:=ud (P:=P) (w:=w) (I:=I) (β:=β) (hp:=hp) (n:=es.length) (isS:=true) (cap:=cap) (lov:=none) (hiv:=some (.int k hh)) cg (by simp) (fun x hx=>by grind) (fun _=>rfl) (by simp) hb;obtain ⟨b5,_⟩:=aH b4;grind
  cases hv with
  | eD hd=>grind
  | ee hd=>grind
  | eF hd=>grind
  | fD hd=>grind
  | @ep _ _ _ a0 hd hb=>
   rw[ab] at hd;cases hd;have QQ:hh=0:=by grind
   subst QQ;have aA:=bnd 0 (az _);obtain ⟨a1,a2⟩:=EV k2 e ja;refine ⟨_,w,I,_,Ly hu eU aA,k1.trans a1,a2,.ep (bW _ _ _) (bW _ _ _)⟩
  | @whole _ _ aQ ra b cap hd hb B1 cg hm=>
   have fQ:=hd;rw[ab] at hd;cases hd;have hr:=S.h.rel id _ ab;cases hr with
   | eZ aA=>grind
   | @arr _ _ _ _ b' Ca hL _ aA LA tX hf fR tY=>
    rw[hb] at aA;cases aA;have nX:(es.take hh.toNat).length=hh.toNat:=by grind
    have da:(Instr.sliceAt t (.slice (some ⟨b,0,none⟩) es.length cap) none (some (.int k hh)) none).run P w= .ok (.slice (some ⟨b,0,none⟩) hh.toNat cap) w:=by
     have aA:=bnd cap cg;by_cases LB:cap=0
     ·subst LB;simp[Instr.sliceAt,Instr.slice,run_underlying hu,aA,sizeOf,typeInfo,eU]
     ·simp[Instr.sliceAt,Instr.slice,run_underlying hu,aA,sizeOf,typeInfo,eU,LB,oL]
    have qm: ∀ax blk',av hp id (some af.dead) ax=some blk'→¬bB P w (β ax) blk' b:=by
     intro ax blk' h1 h2;by_cases nc:ax=id
     ·subst nc;rw[bW] at h1;cases h1;exact h2.alive rfl
     ·rw[cK _ _ nc] at h1;exact nc (S.h.inj ax id blk' _ b h1 ab h2 (.root (by simp) hb))
    obtain ⟨a1,a2⟩:=BN k2 (blk:= .arr e (es.take hh.toNat) false) (w':=w) ja qm (fun _ _=>rfl) (fun _ _ _=>rfl) (az _) ⟨rfl,rfl⟩ (S.h.xh id _ b ab (by simp) hb)
     (fun b' h=>(eo (h.flat (by simp))).symm) (fun hle=> .arr hL aw rfl LA (by rw[nX];exact kR (eM _ (by omega)) tX) (fun h=>by cases h) (fun _=>fR rfl) fun i j y t' hy ht hj=>by
      grind)
    refine ⟨_,w,I,_,da,k1.trans a1,a2,?_⟩;have:=ai.whole (P:=P) (w:=w) (I:=I) (β:=av β nb (some b)) (hp:=av (av hp id (some .dead)) nb (some (.arr e (es.take hh.toNat) false))) (cap:=cap) (bW _ _ _) (bW _ _ _) B1 (by omega) hm;rw[nX] at this;exact this
theorem sM {t:TypeId} {x:V} (h:qX P t x=true):
  (∃q n,P.underlying t=some (.int q)∧x= .int q n∧cw q n=true)∨(∃b,P.underlying t=some .bool∧x= .bool b)∨(∃s,P.underlying t=some .string∧x= .str s∧s.length≤maxLen):=by
 unfold qX at h;split at h
 all_goals simp_all
theorem size_data (s:ByteArray):s.data.toList.length=s.size:=by simp
theorem akL {q:IntKind} {n:Int} (h:cw q n=true):(Lit.int q n).wf=true:=h
theorem Rl {t:TypeId} {x:V} {v:Value} (h:qX P t x=true) (hv:kA v x): ∃l,mapKey P t v=some l∧∀d,P.keyLits (d+1) t [v]=some [l]:=by
 rcases sM h with ⟨q,n,hu,rfl,hn⟩|⟨b,hu,rfl⟩|⟨s,hu,rfl,hs⟩
 ·obtain rfl:v= .int q n:=hv;have hw:=akL hn;exact ⟨.int q n,by simp[mapKey,hu,hw],fun d=>by simp[Program.keyLits,hu,hw]⟩
 ·obtain rfl:v= .bool b:=hv;exact ⟨.bool b,by simp[mapKey,hu],fun d=>by simp[Program.keyLits,hu]⟩
 ·obtain ⟨s',rfl,xw⟩:=hv;have:s'.size≤maxLen:=by rw[←size_data,xw];exact hs
  exact ⟨.string s'.data.toList,by simp[mapKey,hu,this],fun d=>by simp[Program.keyLits,hu,this]⟩
theorem Rm {t:TypeId}: ∀{xs:List V} {j:Nat} {x:V},va P t xs=true→xs[j]? =some x→qX P t x=true
 | [],j,x,_,h=>by simp at h
 | y::ys,0,x,h,hx=>by
  simp only[va,aK] at h;grind
 | y::ys,j+1,x,h,hx=>by
  simp only[va,aK] at h;exact Rm (j:=j) h.2 (by grind)
theorem mapM_some {α β:Type} {f:α→Option β}: ∀{l:List α},(∀a∈l,∃b,f a=some b)→∃bs,l.mapM f=some bs
 | [],_=>⟨[],rfl⟩
 | a::l,h=>by
  obtain ⟨b,hb⟩:=h a (Bk ..);obtain ⟨bs,iq⟩:=mapM_some (l:=l) fun x hx=>h x (qT _ hx);simp_all
structure xx (P:Program) (t:TypeId) (fs:Array Field):Prop where
 hu:P.underlying t=some (.struct fs)
 size:P.cellsOf t=fs.size
 at_ : ∀ (i : Nat) f, fs[i]? = some f → f.offset = i ∧ P.cellsOf f.type = 1 ∧ (f.name != "_") = true ∧ P.plainKey f.type = true
 free:(!(P.cutTypes.any (·.2==t))&& !P.stoodInHeld t)=true
 runs:P.runs 0 fs.toList=some fs.size
theorem aar: ∀{k:Nat} {l:List Field},KH P k l=true→(∀(i:Nat) f,l[i]? =some f→f.offset=k+i∧P.cellsOf f.type=1)∧P.runs k l=some (k+l.length)
 | k,[],_=>⟨fun i f h=>by simp at h,by simp[Program.runs]⟩
 | k,f::l,h=>by
  simp only[KH,aK,aZ] at h;obtain ⟨a,b⟩:=aar (l:=l) h.2;refine ⟨fun i g hg=> ?_,?_⟩
  ·grind
  ·simp only[Program.runs];grind
theorem akM {t:TypeId} {fs:Array Field} (hu:P.underlying t=some (.struct fs)) (h:Qd P t fs=true):xx P t fs:=by
 unfold Qd at h;rw[aK,aK,aK] at h;obtain ⟨⟨h1,h2⟩,h3,h4⟩:=h;rw[aZ] at h1;obtain ⟨a,b⟩:=aar h2;rw[ed,Array.length_toList] at b;refine ⟨hu,h1,fun i f hf=> ?_,h4,b⟩;obtain ⟨a1,a2⟩:=a i f (by grind);grind
theorem akN {t:TypeId} (hp:P.plainKey t=true) (m:Nat):P.keyTypeAt (m+1) t=true:=by
 unfold Program.plainKey at hp;unfold Program.keyTypeAt;grind
theorem akO {t:TypeId} (hp:P.plainKey t=true) (m:Nat):P.tiled (m+1) t=true:=by
 unfold Program.plainKey at hp;unfold Program.tiled;grind
theorem xx.at {t:TypeId} {fs:Array Field} (A:xx P t fs) (m:Nat):P.keyTypeAt (m+2) t=true:=by
 unfold Program.keyTypeAt;rw[A.hu];have hf:=A.free;rw[aK] at hf;simp only;rw[aK,aK];refine ⟨⟨Array.all_eq_true.2 fun i hi=> ?_,hf.1⟩,hf.2⟩;obtain ⟨_,_,h3,h4⟩:=A.at_ i fs[i] (ml hi);rw[aK];exact ⟨h3,akN h4 m⟩
theorem xx.tiled {t:TypeId} {fs:Array Field} (A:xx P t fs):P.tiled 2 t=true:=by
 unfold Program.tiled;rw[A.hu];simp only;rw[aK];refine ⟨by rw[A.runs,A.size];simp,Array.all_eq_true.2 fun i hi=> ?_⟩;exact akO (A.at_ i fs[i] (ml hi)).2.2.2 0
theorem xx.law {t:TypeId} {fs:Array Field} (A:xx P t fs):WideMaps.KeyLaw P t:=deep_law (m:=2) (by omega) (A.at 0) A.tiled (by rw[A.hu])
theorem LC: ∀{ts:List TypeId} {xs:List V},vb P ts xs=true→xs.length=ts.length∧∀(j:Nat) t x,ts[j]? =some t→xs[j]? =some x→qX P t x=true
 | [],[],_=>⟨rfl,fun j t x h=>by simp at h⟩
 | [],_::_,h=>by cases h
 | _::_,[],h=>by cases h
 | t::ts,x::xs,h=>by
  simp only[vb,aK] at h;obtain ⟨a,b⟩:=LC h.2;grind
inductive LD (P:Program) (t:TypeId) (x:V):Prop
 | one:qX P t x=true→x.cells=[x]→LD P t x
 | arr {n:Nat} {e:TypeId} {xs:List V}:x= .agg xs→WideMaps.ArrKey P t e n→xs.length=n→0<P.types.size→va P e xs=true→LD P t x
 | str {fs:Array Field} {xs:List V}:x= .agg xs→xx P t fs→0<P.types.size→vb P (fs.toList.map (·.type)) xs=true→LD P t x
theorem zt {t:TypeId} {x:V} (h:qY P t x=true):LD P t x:=by
 unfold qY at h;split at h
 ·rename_i n e xs hu;simp only[aK,aZ] at h;rw[oC] at h;exact .arr rfl ⟨hu,h.2.2.2.1,h.2.1,h.2.2.1⟩ h.1 h.2.2.2.2.1 h.2.2.2.2.2
 ·rename_i fs xs hu;rw[aK,aK,oC] at h;exact .str rfl (akM hu h.1) h.2.1 h.2.2
 ·refine .one h ?_;rcases sM h with ⟨q,n,hu,rfl,hn⟩|⟨b,hu,rfl⟩|⟨s,hu,rfl,hs⟩<;>rfl
theorem vo.one {x:V} {v:Value} (h:vo v x) (hx:x.cells=[x]):kA v x:=by
 cases x<;>first|exact h|skip
 simp only[V.cells] at hx;rename_i cs;have:=congrArg List.length hx;cases cs with
 | nil=>simp at hx
 | cons c cs=>
  simp only[yG] at hx;have:=congrArg SizeOf.sizeOf hx.1;grind
theorem akP {ts:List TypeId} {xs:List V} {cs:Array Value} (hf:vb P ts xs=true) (hs:cs.size=xs.length) (hc: ∀(j:Nat) (u:Value) (y:V),cs[j]? =some u→xs[j]? =some y→kA u y) {i:Nat} {t:TypeId} (ht:ts[i]? =some t):
  ∃l,∀d,P.keyLits (d+1) t ((cs.toList.drop i).take 1)=some [l]:=by
 obtain ⟨a,b⟩:=LC hf;have hi:=(cL.1 ht).1;have js:i<cs.size:=by omega
 have xu:i<xs.length:=by omega
 obtain ⟨l,_,h2⟩:=Rl (b i t xs[i] ht (cp xu)) (hc i cs[i] xs[i] (ml js) (cp xu));refine ⟨l,fun d=> ?_⟩;have e1:(cs.toList.drop i).take 1=[cs[i]]:=by
  rw[List.drop_eq_getElem_cons (by omega)];simp
 grind
theorem LF {t:TypeId} {x:V} {v:Value} (h:qY P t x=true) (hv:vo v x): ∃l,Go.keyOf P t v=some l:=by
 cases zt h with
 | one h1 hx=>
  obtain ⟨l,hl,_⟩:=Rl h1 (hv.one hx);refine ⟨l,?_⟩;rcases sM h1 with ⟨q,n,hu,_⟩|⟨b,hu,_⟩|⟨s,hu,_⟩<;>simp only[Go.keyOf,hu,hl]
 | @arr n e xs hx A hl hp0 hf=>
  subst hx;obtain ⟨cs,rfl,hs,hc⟩:=hv;obtain ⟨m,hm⟩: ∃m,P.types.size=m+1:=⟨P.types.size-1,by omega⟩
  have Rn:=A.keyType ⟨m,hm⟩;have hlen:cs.toList.length=P.cellsOf t:=by rw[A.size];grind
  have Fp:(Value.agg cs).formed P t=true:=by simp[Value.formed,A.hu,A.size,hs,hl]
  have hex: ∀i∈List.range n,∃y,P.keyLits (m+1) e (((Value.agg cs).cells.toList.drop (i*P.cellsOf e)).take (P.cellsOf e))=some y:=by
   intro i hi;have hi:=jG.1 hi;rw[A.one];have js:i<cs.size:=by omega
   have xu:i<xs.length:=by omega
   obtain ⟨l,_,h2⟩:=Rl (Rm hf (cp xu)) (hc i cs[i] xs[i] (ml js) (cp xu));have e1:((Value.agg cs).cells.toList.drop (i*1)).take 1=[cs[i]]:=by
    show (cs.toList.drop (i*1)).take 1=_;rw[fZ,List.drop_eq_getElem_cons (by omega)];simp
   simp_all
  obtain ⟨bs,iq⟩:=mapM_some hex;refine ⟨.string (keyBytes bs.flatten),?_⟩;have akQ:(Value.agg cs).cells.toList.length=P.cellsOf t:=hlen;unfold Go.keyOf;rw[A.hu];simp only[Rn,Fp,Bl,kS];unfold Program.keyLits;rw[A.hu,hm];grind
 | @str fs xs hx A hp0 hf=>
  subst hx;obtain ⟨cs,rfl,hs,hc⟩:=hv;obtain ⟨m,hm⟩: ∃m,P.types.size=m+1:=⟨P.types.size-1,by omega⟩
  have Rn:P.keyType t=true:=by
   unfold Program.keyType;rw[hm];exact A.at m
  have lP:=(LC hf).1;rw[cH,Array.length_toList] at lP;have Fp:(Value.agg cs).formed P t=true:=by simp[Value.formed,A.hu,A.size,hs];exact lP
  have hlen:(Value.agg cs).cells.toList.length=P.cellsOf t:=by
   show cs.toList.length=_;rw[A.size];grind
  have qd : fs.all (·.name != "_") = true := Array.all_eq_true.2 fun i hi => (A.at_ i fs[i] (ml hi)).2.2.1;have hex: ∀f∈fs.toList,∃y,P.keyLits (m+1) f.type (((Value.agg cs).cells.toList.drop f.offset).take (P.cellsOf f.type))=some y:=by
   intro f Fp;obtain ⟨i,hi⟩:=tB Fp;obtain ⟨a1,a2,_,_⟩:=A.at_ i f (by grind);rw[a1,a2];obtain ⟨l,hl⟩:=akP hf hs hc (i:=i) (t:=f.type) (by grind);exact ⟨_,hl m⟩
  obtain ⟨bs,iq⟩:=mapM_some hex;refine ⟨.string (keyBytes bs.flatten),?_⟩;unfold Go.keyOf;rw[A.hu];simp only[Rn,Fp,Bl,kS];unfold Program.keyLits;rw[A.hu,hm];grind
theorem Ro {t:TypeId} {x:V} (h:qY P t x=true):Keyed P t:=by
 cases zt h with
 | one h1 hx=>
  rcases sM h1 with ⟨q,n,hu,_⟩|⟨b,hu,_⟩|⟨s,hu,_⟩
  ·exact int_keyed hu
  ·exact bool_keyed hu
  ·exact string_keyed hu
 | arr hx A hl _ hf=>exact Keyed.of_law A.law
 | str hx A _ hf=>exact Keyed.of_law A.law
theorem Rp {t:TypeId} {x y:V} {v u:Value} (h1:qX P t x=true) (h2:qX P t y=true) (hv:kA v x) (hu:kA u y):sg x y=true↔v=u:=by
 rcases sM h1 with ⟨q,n,jb,rfl,_⟩|⟨b,jb,rfl⟩|⟨s,jb,rfl,_⟩<;>
 rcases sM h2 with ⟨q',n',ue,rfl,_⟩|⟨b',ue,rfl⟩|⟨s',ue,rfl,_⟩<;>
  (rw[jb] at ue;cases ue)
 ·obtain rfl:v= .int q n:=hv;obtain rfl:u= .int q n':=hu;simp[sg]
 ·obtain rfl:v= .bool b:=hv;obtain rfl:u= .bool b':=hu;simp[sg]
 ·obtain ⟨s1,rfl,e1⟩:=hv;obtain ⟨s2,rfl,e2⟩:=hu;simp only[sg,Bm,Value.string.injEq,←e1,←e2];constructor
  ·intro h;have:=Array.toList_inj.1 h;cases s1;simp_all
  grind
theorem aas {t:TypeId}: ∀{xs ys:List V} {vs us:List Value},va P t xs=true→va P t ys=true→xs.length=ys.length→vs.length=xs.length→us.length=ys.length→
  (∀(j:Nat) v x,vs[j]? =some v→xs[j]? =some x→kA v x)→(∀(j:Nat) v x,us[j]? =some v→ys[j]? =some x→kA v x)→(nP xs ys=true↔vs=us)
 | [],[],vs,us,_,_,_,h1,h2,_,_=>by
  have e1:=o7 (l:=vs) (by omega);have e2:=o7 (l:=us) (by omega);simp[nP,e1,e2]
 | [],_::_,_,_,_,_,h,_,_,_,_=>by simp at h
 | _::_,[],_,_,_,_,h,_,_,_,_=>by simp at h
 | x::xs,y::ys,[],us,_,_,_,h,_,_,_=>by simp at h
 | x::xs,y::ys,v::vs,[],_,_,_,_,h,_,_=>by simp at h
 | x::xs,y::ys,v::vs,u::us,f1,f2,h,h1,h2,r1,r2=>by
  simp only[va,aK] at f1 f2;have a:=Rp f1.1 f2.1 (r1 0 v x rfl rfl) (r2 0 u y rfl rfl);have b:=aas (vs:=vs) (us:=us) f1.2 f2.2 (by grind) (by grind) (by grind) (fun j v x hj hx=>r1 (j+1) v x (by grind) (by grind)) (fun j v x hj hx=>r2 (j+1) v x (by grind) (by grind));simp only[nP,aK,a,b,yG]
theorem aat: ∀{ts:List TypeId} {xs ys:List V} {vs us:List Value},vb P ts xs=true→vb P ts ys=true→vs.length=xs.length→us.length=ys.length→
  (∀(j:Nat) v x,vs[j]? =some v→xs[j]? =some x→kA v x)→(∀(j:Nat) v x,us[j]? =some v→ys[j]? =some x→kA v x)→(nP xs ys=true↔vs=us)
 | [],[],[],vs,us,_,_,h1,h2,_,_=>by
  have e1:=o7 (l:=vs) (by omega);have e2:=o7 (l:=us) (by omega);simp[nP,e1,e2]
 | [],_::_,_,_,_,h,_,_,_,_,_=>by cases h
 | [],[],_::_,_,_,_,h,_,_,_,_=>by cases h
 | _::_,[],_,_,_,h,_,_,_,_,_=>by cases h
 | _::_,_::_,[],_,_,_,h,_,_,_,_=>by cases h
 | t::ts,x::xs,y::ys,[],us,_,_,h,_,_,_=>by simp at h
 | t::ts,x::xs,y::ys,v::vs,[],_,_,_,h,_,_=>by simp at h
 | t::ts,x::xs,y::ys,v::vs,u::us,f1,f2,h1,h2,r1,r2=>by
  simp only[vb,aK] at f1 f2;have a:=Rp f1.1 f2.1 (r1 0 v x rfl rfl) (r2 0 u y rfl rfl);have b:=aat (vs:=vs) (us:=us) f1.2 f2.2 (by grind) (by grind) (fun j v x hj hx=>r1 (j+1) v x (by grind) (by grind)) (fun j v x hj hx=>r2 (j+1) v x (by grind) (by grind));simp only[nP,aK,a,b,yG]
theorem Rq {t:TypeId} {x y:V} {v u:Value} (h1:qY P t x=true) (h2:qY P t y=true) (hv:vo v x) (hu:vo u y):il x y=true↔v=u:=by
 unfold il;cases zt h1 with
 | one f1 c1=>
  cases zt h2 with
  | one f2 c2=>
   rw[c1,c2];simp only[nP,yH];exact Rp f1 f2 (hv.one c1) (hu.one c2)
  | arr hy A hl _ hf=>
   rcases sM f1 with ⟨q,n,jb,_⟩|⟨b,jb,_⟩|⟨s,jb,_⟩<;>(rw[A.hu] at jb;cases jb)
  | str hy A _ hf=>
   rcases sM f1 with ⟨q,n,jb,_⟩|⟨b,jb,_⟩|⟨s,jb,_⟩<;>(rw[A.hu] at jb;cases jb)
 | arr hx A hl _ hf=>
  cases zt h2 with
  | one f2 c2=>
   rcases sM f2 with ⟨q,n,jb,_⟩|⟨b,jb,_⟩|⟨s,jb,_⟩<;>(rw[A.hu] at jb;cases jb)
  | arr hy A2 qe _ Fq=>
   have ju:=A.hu.symm.trans A2.hu;cases ju;subst hx;subst hy;obtain ⟨cs,rfl,s1,r1⟩:=hv;obtain ⟨ds,rfl,s2,r2⟩:=hu;have:=aas (vs:=cs.toList) (us:=ds.toList) hf Fq (by omega) (by omega) (by omega) (fun j v x hj hx=>r1 j v x (by grind) hx) (fun j v x hj hx=>r2 j v x (by grind) hx);simp only[V.cells,this,Value.agg.injEq];simp_all
  | str hy A2 _ Fq=>
   have ju:=A.hu.symm.trans A2.hu;cases ju
 | str hx A _ hf=>
  cases zt h2 with
  | one f2 c2=>
   rcases sM f2 with ⟨q,n,jb,_⟩|⟨b,jb,_⟩|⟨s,jb,_⟩<;>(rw[A.hu] at jb;cases jb)
  | arr hy A2 qe _ Fq=>
   have ju:=A.hu.symm.trans A2.hu;cases ju
  | str hy A2 _ Fq=>
   have ju:=A.hu.symm.trans A2.hu;cases ju;subst hx;subst hy;obtain ⟨cs,rfl,s1,r1⟩:=hv;obtain ⟨ds,rfl,s2,r2⟩:=hu;have:=aat (vs:=cs.toList) (us:=ds.toList) hf Fq (by omega) (by omega) (fun j v x hj hx=>r1 j v x (by grind) hx) (fun j v x hj hx=>r2 j v x (by grind) hx);simp only[V.cells,this,Value.agg.injEq];simp_all
theorem aau {k:V}: ∀{es:List V},(∀x∈es,il k (x.comp 0)=false)→eB k es=false∧(∀z,fP k es z=z)∧∀v,eC k v es=es++[.bK [k,v]]
 | [],_=>⟨rfl,fun _=>rfl,fun _=>rfl⟩
 | e::es,h=>by
  have h0:=h e (Bk ..);obtain ⟨a,b,c⟩:=aau (k:=k) (es:=es) fun x hx=>h x (qT _ hx);exact ⟨by simp[eB,h0,a],fun z=>by simp[fP,h0,b],fun v=>by simp[eC,h0,c]⟩
theorem aav {k:V}: ∀{es:List V} {j:Nat} {k' y:V},es[j]? =some (.bK [k',y])→il k k'=true→(∀i x,i<j→es[i]? =some x→il k (x.comp 0)=false)→
  eB k es=true∧(∀z,fP k es z=y)∧∀v,eC k v es=es.set j (.bK [k',v])
 | [],j,k',y,h,_,_=>by simp at h
 | e::es,0,k',y,h,he,_=>by
  simp at h;subst h;exact ⟨by simp[eB,V.comp,V.nth,he],fun z=>by simp[fP,V.comp,V.nth,he],fun v=>by simp[eC,V.comp,V.nth,he]⟩
 | e::es,j+1,k',y,h,he,bf=>by
  have h0:=bf 0 e (by omega) rfl;obtain ⟨a,b,c⟩:=aav (k:=k) (es:=es) (j:=j) (by simpa using h) he fun i x hi hx=>bf (i+1) x (by omega) (by grind);exact ⟨by simp[eB,h0,a],fun z=>by simp[fP,h0,b],fun v=>by simp[eC,h0,c]⟩
theorem aaw {kt vt:TypeId} {E:Array MapEntry} {es:List V} {k:V} {kv:Value} (hs:E.size=es.length) (hx: ∀(j:Nat) (e:MapEntry) (x:V),E[j]? =some e→es[j]? =some x→KZ P kt vt e x)
  (hn:E.toList.Pairwise (fun a b=>a.key≠b.key)) (hk:qY P kt k=true) (LG:vo kv k) (w:World):
  ((Instr.findKey kt kv E.toList).run P w= .ok none w∧(∀e∈E.toList,e.key≠kv)∧eB k es=false∧(∀z,fP k es z=z)∧∀v,eC k v es=es++[.bK [k,v]])∨
  ∃j e k' y,(Instr.findKey kt kv E.toList).run P w= .ok (some (j,e.val)) w∧E[j]? =some e∧e.key=kv∧es[j]? =some (.bK [k',y])∧qY P kt k'=true∧vo kv k'∧fq P vt y=true∧kA e.val y∧
   eB k es=true∧(∀z,fP k es z=y)∧∀v,eC k v es=es.set j (.bK [k',v]):=by
 have K:=Ro hk;obtain ⟨l,hl⟩:=LF hk LG;have ent: ∀(j:Nat) x,es[j]? =some x→∃e,E[j]? =some e∧KZ P kt vt e x:=by
  intro j x hj;have bf:j<E.size:=by grind
  exact ⟨E[j],ml bf,hx j _ x (ml bf) hj⟩
 have keys: ∀e∈E.toList,∃l,Go.keyOf P kt e.key=some l:=by
  intro e he;obtain ⟨j,hj⟩:=tB he;have jM:E[j]? =some e:=by grind
  have bf:j<es.length:=by grind
  obtain ⟨k',y,_,h1,h2,_⟩:=hx j e es[j] jM (cp bf);exact LF h1 h2
 rcases K.find w hl E.toList keys with ⟨h1,h2⟩|⟨j,e,h1,h2,h3⟩
 ·left;refine ⟨h1,h2,aau fun x Lu=> ?_⟩;obtain ⟨j,hj⟩:=tB Lu;obtain ⟨e,he,k',y,rfl,f1,f2,_⟩:=ent j x hj;cases hq:il k (V.comp (.bK [k',y]) 0) with
  | false=>rfl
  | true=>
   have:=(Rq hk f1 LG f2).1 hq;grind
 ·right;have hE:E[j]? =some e:=by grind
  have bf:j<es.length:=by grind
  obtain ⟨k',y,hy,f1,f2,f3,f4⟩:=hx j e es[j] hE (cp bf);have hj:=cp bf;rw[hy] at hj;rw[h3] at f2;refine ⟨j,e,k',y,h1,hE,h3,hj,f1,f2,f3,f4,aav hj ((Rq hk f1 LG f2).2 rfl) fun i x hi m8=> ?_⟩;obtain ⟨e',BZ,k2,y2,rfl,g1,g2,_⟩:=ent i x m8;cases hq:il k (V.comp (.bK [k2,y2]) 0) with
  | false=>rfl
  | true=>
   have:=(Rq hk g1 LG g2).1 hq;have i1:i<E.toList.length:=by grind
   have i2:j<E.toList.length:=by simp;omega
   have:=Bn.1 hn i j i1 i2 hi;grind
theorem ai.Rr {v:Value} {x:V} (h:ai P w I β hp v x) {t:TypeId} (hx:qX P t x=true):kA v x:=by
 rcases sM hx with ⟨q,n,_,rfl,_⟩|⟨b,_,rfl⟩|⟨s,_,rfl,_⟩
 ·exact h.gF
 ·exact h.m7
 ·exact h.po
theorem ai.aax {v:Value} {x:V} (h:ai P w I β hp v x) {t:TypeId} (hx:qY P t x=true):vo v x:=by
 cases zt hx with
 | one f c=>
  have:=h.Rr f;cases x<;>first|exact this|cases this
 | arr hx A hl _ hf=>
  subst hx;obtain ⟨cs,rfl,h1,h2⟩:=h.nW;exact ⟨cs,rfl,h1,fun j u y hu hy=>(h2 j u y hu hy).Rr (Rm hf hy)⟩
 | str hx A _ hf=>
  subst hx;obtain ⟨cs,rfl,h1,h2⟩:=h.nW;obtain ⟨a,b⟩:=LC hf;refine ⟨cs,rfl,h1,fun j u y hu hy=> ?_⟩;have hj:=(cL.1 hy).1;exact (h2 j u y hu hy).Rr (b j _ y (cp (by omega)) hy)
theorem aay {vt:TypeId} {y:V} (h:mapVal P vt=true) (ht:fq P vt y=true):(∃q n,P.underlying vt=some (.int q)∧y= .int q n)∨∃b,P.underlying vt=some .bool∧y= .bool b:=by
 unfold mapVal at h;unfold fq at ht;grind
theorem kA.Rs {vt:TypeId} {v:Value} {y:V} (h:mapVal P vt=true) (ht:fq P vt y=true) (hv:kA v y):ai P w I β hp v y:=by
 rcases aay h ht with ⟨q,n,_,rfl⟩|⟨b,_,rfl⟩
 ·obtain rfl:v= .int q n:=hv;exact .int
 ·obtain rfl:v= .bool b:=hv;exact .bool
theorem ai.akR {vt:TypeId} {v:Value} {y:V} (h:mapVal P vt=true) (ht:fq P vt y=true) (hv:ai P w I β hp v y):kA v y:=by
 rcases aay h ht with ⟨q,n,_,rfl⟩|⟨b,_,rfl⟩
 ·exact hv.gF
 ·exact hv.m7
theorem akS {vt:TypeId} {z:V} (h:KI P vt=some z) (w:World): ∃v,(zeroValue vt).run P w= .ok v w∧kA v z:=by
 unfold KI at h;cases hi:P.info? vt with
 | none=>grind
 | some i=>
  rw[hi] at h;simp only[Option.bind_some] at h;cases hz:i.zero with
  | none=>grind
  | some v=>
   rw[hz] at h;refine ⟨v,by simp[zeroValue,typeInfo,hi,hz],?_⟩;cases v<;>simp only at h<;>first|(cases h;done)|skip
   ·cases h;rfl
   ·cases h;rfl
theorem Rt {t kt vt:TypeId} (h:pe P t=some (kt,vt)):P.underlying t=some (.map kt vt):=by
 unfold pe at h;grind
theorem Ru (S:aB P w I β hp B M w0) {ok:Bool} {v:Value} {x:V} {b:Bool} {r:R} {rd:List Nat} {res:Result Value} (hv:ai P w I β hp v x)
  (hr:res= .ok (if ok then .tuple #[v,.bool b] else v) w) (h:(KJ ok x b).run C hp=some (r,rd)):dJ P res w I β hp B M w0 r:=by
 unfold KJ at h;obtain rfl:=ba h;cases ok with
 | false=>exact .same S hr hv
 | true=>
  refine .same S hr (.bK rfl fun j u y hu hy=> ?_)
  match j,hu,hy with
  | 0,hu,hy=>grind
  | 1,hu,hy=>simp at hu hy;subst hu;subst hy;exact .bool
  | j+2,hu,hy=>simp at hy
theorem akT (S:aB P w I β hp B M w0) {t kt vt:TypeId} (ht:pe P t=some (kt,vt)) {m k:Value} {mx kx:V} {ok:Bool} {r:R} {rd:List Nat} (hm:ai P w I β hp m mx) (hk:ai P w I β hp k kx)
  (h:(Qe P t mx kx ok).run C hp=some (r,rd)):dJ P ((Instr.lookup t m k ok).run P w) w I β hp B M w0 r:=by
 unfold Qe at h;rw[ht] at h;simp only at h;cases hz:KI P vt with
 | none=>rw[hz] at h;cases h
 | some z=>
  rw[hz] at h;obtain ⟨hc,h'⟩:=aH h;clear h;have h:=h';clear h';simp only[aK] at hc;obtain ⟨uf,Fs,LH⟩:=hc;have hu:=Rt ht;have B5:=hk.aax uf;have K:=Ro uf;obtain ⟨l,hl⟩:=LF uf B5;obtain ⟨zv,hzr,hzk⟩:=akS hz w;cases mx<;>simp only at h<;>first|(cases h;done)|skip
  ·rename_i t' id;obtain ⟨nY,h'⟩:=aH h;clear h;have h:=h';clear h';rw[aZ] at nY;subst nY;obtain ⟨l2,h'⟩:=run_get h;clear h;have h:=h';clear h';cases ab:hp id with
   | none=>rw[ab] at h;cases h
   | some blk=>
    rw[ab] at h;cases blk<;>simp only at h<;>first|(cases h;done)|skip
    rename_i t2 es;obtain ⟨nY,h'⟩:=aH h;clear h;have h:=h';clear h';rw[aZ] at nY;subst nY;cases hm with
    | kZ hd=>grind
    | @cD _ _ b aQ hd hb=>
     rw[ab] at hd;cases hd;have hr:=S.h.rel id _ ab;cases hr with
     | @map _ kt' vt' _ b' clock E kD aA hh hs hI hx hn=>
      rw[hb] at aA;cases aA;rw[hu] at kD;cases kD;rcases aaw hs hx hn uf B5 w with ⟨h1,_,h3,h4,_⟩|⟨j,e,k',y,h1,_,_,_,_,_,h6,h7,h3,h4,_⟩
      ·rw[h3,h4,E1 LH] at h;refine Ru S (kA.Rs Fs LH hzk) ?_ h;unfold Instr.lookup;simp only[Sem.run_bind,run_underlying hu,Result.andThen_ok,Go.MapKept.run_getObj_map hh,Sem.run_pure,K.check w E.isEmpty hl,h1,hzr]
      ·rw[h3,h4,E1 h6] at h;refine Ru S (kA.Rs Fs h6 h7) ?_ h;unfold Instr.lookup;simp only[Sem.run_bind,run_underlying hu,Result.andThen_ok,Go.MapKept.run_getObj_map hh,Sem.run_pure,K.check w E.isEmpty hl,h1]
  ·rename_i t';obtain ⟨nY,h⟩:=aH h;cases hm;rw[E1 LH] at h;refine Ru S (kA.Rs Fs LH hzk) ?_ h;have hf:(Instr.findKey kt k []).run P w= .ok none w:=by
    rcases K.find w hl [] (by simp) with ⟨h1,_⟩|⟨j,e,_,h2,_⟩
    all_goals grind
   unfold Instr.lookup;simp[run_underlying hu,K.check w true hl,hf,hzr]
theorem akU (S:aB P w I β hp B M w0) {t:TypeId} {nb:Nat} {r:R} {rd:List Nat} (h:(Rd.aD (pe P t).isSome (jh nb (.map t []) (.cD t nb) [])).run C hp=some (r,rd)):
  dJ P ((Instr.makeMap t none).run P w) w I β hp B M w0 r:=by
 obtain ⟨ht,h⟩:=aH h;obtain ⟨hn,rfl⟩:=mB h;obtain ⟨⟨kt,vt⟩,ht⟩:=Kl.1 ht;have hu:=Rt ht;have dI: ∀j,¬I w.heap.size j:=fun j h=>nG _ (S.h.jK _ j h);have dU:(w.alloc (.map #[] 0)).heap[w.heap.size]? =some (.map #[] 0):=heap_alloc_new w _;obtain ⟨a1,a2⟩:=BN S (w':=w.alloc (.map #[] 0)) (blk:= .map t []) (b:=w.heap.size) hn (fun ax blk' h ho=>nG _ (S.h.lt h ho)) (fun j h=>absurd h (dI j))
  (fun b' _ bf=>heap_alloc_old w _ b' bf) (by simp) ⟨rfl,rfl⟩ (.inr S.size) (fun b' h=>(eo (h.flat (by simp))).symm)
  (fun _=> .map hu rfl dU rfl dI (fun j e x he _=>by simp at he) (by simp))
 exact ⟨_,_,_,_,Go.RowKit.run_makeMap t w,a1,a2,.cD (bW _ _ _) (bW _ _ _)⟩
theorem aaz (S:aB P w I β hp B M w0) {t kt vt:TypeId} (ht:pe P t=some (kt,vt)) {m k v:Value} {mx kx vx:V} {r:R} {rd:List Nat} (hm:ai P w I β hp m mx) (hk:ai P w I β hp k kx) (hv:ai P w I β hp v vx)
  (h:(KK P t mx kx vx).run C hp=some (r,rd)):sD P ((Instr.mapUpdate t m k v).run P w) w I β hp B M w0 r:=by
 unfold KK at h;rw[ht] at h;obtain ⟨hc,h'⟩:=aH h;clear h;have h:=h';clear h';simp only[aK] at hc;obtain ⟨uf,Fs,zu⟩:=hc;have hu:=Rt ht;have B5:=hk.aax uf;have qn:=ai.akR Fs zu hv;have K:=Ro uf;obtain ⟨l,hl⟩:=LF uf B5;cases mx<;>simp only at h<;>first|(cases h;done)|skip
 rename_i t' id;obtain ⟨nY,h'⟩:=aH h;clear h;have h:=h';clear h';rw[aZ] at nY;subst nY;obtain ⟨l2,h'⟩:=run_get h;clear h;have h:=h';clear h';cases ab:hp id with
 | none=>rw[ab] at h;cases h
 | some blk=>
  rw[ab] at h;cases blk<;>simp only at h<;>first|(cases h;done)|skip
  rename_i t2 es;obtain ⟨nY,h'⟩:=aH h;clear h;have h:=h';clear h';rw[aZ] at nY;subst nY;obtain rfl:=ba h;cases hm with
  | kZ hd=>grind
  | @cD _ _ b aQ hd hb=>
   rw[ab] at hd;cases hd;have hr:=S.h.rel id _ ab;cases hr with
   | @map _ kt' vt' _ b' clock E kD aA hh hs hI hx hn=>
    rw[hb] at aA;cases aA;rw[hu] at kD;cases kD;have bf:b<w.heap.size:=(wU.1 hh).1;have fin: ∀(E':Array MapEntry) (Ft:Nat),(Instr.mapUpdate t (.map (some b)) k v).run P w= .ok () {w with heap:=w.heap.setIfInBounds b (.map E' Ft)}→E'.size=(eC kx vx es).length→
      (∀(j:Nat) (e:MapEntry) (x:V),E'[j]? =some e→(eC kx vx es)[j]? =some x→KZ P kt vt e x)→E'.toList.Pairwise (fun a b=>a.key≠b.key)→
      sD P ((Instr.mapUpdate t (.map (some b)) k v).run P w) w I β hp B M w0 ⟨.undef,[(id,.map t (eC kx vx es))]⟩:=by
     intro E' Ft da xw dy Rv;have dU:({w with heap:=w.heap.setIfInBounds b (.map E' Ft)}:World).heap[b]? =some (.map E' Ft):=by simp[bf]
     obtain ⟨a1,a2⟩:=EW S (w':={w with heap:=w.heap.setIfInBounds b (.map E' Ft)}) (blk':= .map t (eC kx vx es)) ab (by simp) rfl hb hI (by simp)
      (fun b' aA=>by grind) (by simp only[bsize,dU,hh]) (by simp) ⟨rfl,rfl⟩ (fun _=> .map hu rfl dU xw hI dy Rv)
     exact ⟨_,I,β,da,a1,a2,rfl⟩
    rcases aaw hs hx hn uf B5 w with ⟨h1,h2,_,_,h5⟩|⟨j,e,k',y,h1,hE,hek,ZO,akV,akW,_,_,_,_,h5⟩
    ·have e5:=h5 vx;refine fin (E.push {key:=k,val:=v,born:=clock}) (clock+1) ?_ (by grind) (fun j e x he oM=> ?_) ?_
     ·unfold Instr.mapUpdate;simp only[Sem.run_bind,run_underlying hu,Result.andThen_ok,Go.MapKept.run_getObj_map hh,K.check w false hl,h1,Go.MapKept.run_setObj_map _ hh]
     ·rw[e5] at oM;rw[Array.getElem?_push] at he;split at he
      ·rename_i hj;rw[oE (by omega),hj,hs,Nat.sub_self] at oM;simp at he oM;subst he;subst oM;exact ⟨kx,vx,rfl,uf,B5,zu,qn⟩
      grind
     grind
    ·have e5:=h5 vx;have hj:j<E.size:=(wU.1 hE).1;refine fin (E.modify j fun e=>{e with key:=k,val:=v}) clock ?_ (by grind) (fun i e' x he m8=> ?_) ?_
     ·have b9:=K.stays w hl;unfold Instr.mapUpdate;simp only[Sem.run_bind,run_underlying hu,Result.andThen_ok,Go.MapKept.run_getObj_map hh,K.check w false hl,h1];simp only[hE,Option.map_some,Option.getD_some,hek,b9,Result.andThen_ok,Go.MapKept.run_setObj_map _ hh]
     ·rw[e5] at m8;rw[Kn] at he;rw[yF] at m8;split at he
      ·rename_i Rw;subst Rw;rw[ah rfl,bp] at m8;rw[hE] at he;simp at he m8;subst he;subst m8;exact ⟨k',vx,rfl,akV,akW,zu,qn⟩
      grind
     ·have hke: ∀i (h1:i<(E.modify j fun e=>{e with key:=k,val:=v}).toList.length) (h2:i<E.toList.length),((E.modify j fun e=>{e with key:=k,val:=v}).toList[i]).key=(E.toList[i]).key:=by
       grind
      rw[Bn] at hn⊢;grind
theorem akX (S:aB P w I β hp B M w0) {t ty kt vt:TypeId} {v:Value} {x:V} {r:R} {rd:List Nat} (hu:P.underlying t=some (.map kt vt)) (hv:ai P w I β hp v x)
  (h:(KL x).run C hp=some (r,rd)):dJ P ((Builtin.len_ #[t] ty #[v]).run P w) w I β hp B M w0 r:=by
 unfold KL at h;cases x<;>simp only at h<;>first|(cases h;done)|skip
 ·rename_i t' id;obtain ⟨l2,h'⟩:=run_get h;clear h;have h:=h';clear h';cases ab:hp id with
  | none=>rw[ab] at h;cases h
  | some blk=>
   rw[ab] at h;cases blk<;>simp only at h<;>first|(cases h;done)|skip
   rename_i t2 es;obtain rfl:=ba h;cases hv with
   | kZ hd=>grind
   | @cD _ _ b aQ hd hb=>
    rw[ab] at hd;cases hd;have hr:=S.h.rel id _ ab;cases hr with
    | @map _ kt' vt' _ b' clock E kD aA hh hs hI hx hn=>
     rw[hb] at aA;cases aA;refine .same S (v:= .int .i64 E.size) (by simp[Builtin.len_,run_underlying hu,Go.MapKept.run_getObj_map hh,goInt]) ?_;rw[hs];exact .int
 ·obtain rfl:=ba h;cases hv;exact .same S (v:= .int .i64 0) (by simp[Builtin.len_,run_underlying hu,goInt]) .int
theorem ai.Rx {v:Value} {t:TypeId} (h:ai P w I β hp v (.eY t)):v= .map none:=by cases h;rfl
theorem ai.akY {v:Value} {t t':TypeId} {id:Nat} {es:List V} (h:ai P w I β hp v (.cD t id)) (ab:hp id=some (.map t' es)): ∃b,v= .map (some b):=by
 cases h with
 | kZ h=>grind
 | cD h hb=>grind
theorem aaA (S:aB P w I β hp B M w0) {op:BinOp} {t:TypeId} {a:Option Nat} {r:R} {rd:List Nat} (x y:Operand)
  (h:(KE P op t a.isNone).run C hp=some (r,rd)):dJ P ((do eqGuard op t x y (.map a) (.map none);binOp op t (.map a) (.map none)).run P w) w I β hp B M w0 r:=by
 unfold KE at h;split at h
 case h_2=>cases h
 rename_i kt vt hu;have he:(Op.equal t (.map a) (.map none)).run P w= .ok a.isNone w:=by
  show (Op.equalIn (9999+1) t (.map a) (.map none)).run P w=_;rw[Op.equalIn];cases a<;>simp[Sem.run_bind,run_underlying hu,Result.andThen_ok,Sem.run_pure]
 cases op<;>simp only at h<;>first|(cases h;done)|skip
 ·obtain rfl:=ba h;exact .same S (by simp[eqGuard,binOp,he]) .bool
 ·obtain rfl:=ba h;exact .same S (by simp[eqGuard,binOp,he]) .bool
end
end Go.AM
