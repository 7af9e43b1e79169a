/-
  Functions of the program, lifted to plain data.
-/
import Derived.Great.BuildSlice
import Derived.Maps.Keyed
import Derived.WideKeyArr
import Derived.MapKept
import Derived.ChangeMaps4
import Derived.Carry
import Derived.Lib.AppendStr
import Derived.Test.YtpfiomngchimkaaGreatDoorP1
noncomputable section
set_option linter.unusedVariables false
set_option linter.unusedSimpArgs false
set_option linter.unusedSectionVars false
set_option maxRecDepth 100000
namespace Go.AM
open Go.Proofs
section
variable {P:Program}{w w':World}{I I':Nat->Nat->Prop}{β β':Nat->Option Nat}{hp hp':Nat->Option ah}{C:ab}{B:Nat}{M:Nat->Prop}{w0:Start}
theorem ry.AG{t:TypeId}{v:Value}{x:V}(h:ry P w I t v x):iE P t x=x:=by
 cases h with
 |iI _ p=>exact p.AG
 |emp hu=>exact tV hu
 |row hu _ _ _ _=>exact tV hu
theorem Fh{new:LV}{e ea:TypeId}{i c:Nat}{q:Path}{es dX:LV}{x:V}(hx:es[i]?=some x)(hp:(parts P e x)[c]?=some (.list ea dX)):
  setRow P new e es ((i,c)::q)=es.set i (dW P e ((parts P e x).set c (.list ea (setRow P new ea dX q)))):=by
 simp only[setRow,hx,hp]
theorem IU{b:Nat}{e t:TypeId}{es:LV}{i c:Nat}{x y:V}(hR:jS P w I b e es)(hx:es[i]?=some x)(ht:(bA P e)[c]?=some t):
  ∀{i' c':Nat}{x':V}{t':TypeId},(es.set i (dW P e ((parts P e x).set c y)))[i']?=some x'->(bA P e)[c']?=some t'->
   ∃x0,es[i']?=some x0∧cT P e x' c'=if i'=i∧c'=c then y else cT P e x0 c':=by
 intro i' c' x' t' eo iK;have o9:i<es.length:=(dw.1 hx).1;have Cv:c<(bA P e).length:=(dw.1 ht).1;have Qd:c'<(bA P e).length:=(dw.1 iK).1;by_cases hi:i'=i
 .subst hi;rw[BU o9]at eo;cases eo;refine⟨x,hx,?_⟩;by_cases hc:c'=c
  .subst hc;rw[ai ⟨rfl,rfl⟩];exact yP (BU (by rw[AH];exact Cv)) iK
  .rw[af (fun h=>hc h.2)];have h1:((parts P e x).set c y)[c']?=some (iE P t' (cT P e x c')):=by
    rw[BV (fun h=>hc h.symm)];exact tU iK
   rw[yP h1 iK];obtain⟨Ca,_,_,_,_,yQ⟩:=hR.cells;obtain⟨v,_,ho⟩:=yQ i' c' x t' hx iK (by rw[<-gE hR.ok];exact Qd);exact ho.AG
 .rw[BV (fun h=>hi h.symm)]at eo;exact⟨x',eo,by rw[af (fun h=>hi h.1)]⟩
theorem Wy{b b1:Nat}{e e1:TypeId}{es l l':LV}{p:Path}(h:At P w b e es p b1 e1 l)(hl:l'.length=l.length):(setRow P l' e es p).length=es.length:=by
 cases h with
 |here=>exact hl
 |step h1 h2 h3 h4 h5 h6 h7 h8=>
  rw[Fh h2 (by rw[tU h3,h5,tV h4])];simp
theorem At.arA{b b1:Nat}{e e1:TypeId}{es l l':LV}{p:Path}(Wz:At P w b e es p b1 e1 l)(hw:∀k,k≠b1->w'.heap[k]?=w.heap[k]?)(hl:l'.length=l.length):
  (∀q b' e' m,At P w b e es q b' e' m->jS P w I b' e' m)->(∀q e' m,At P w b e es q b1 e' m->q=p)->
  ∀q b' e' m,At P w' b e (setRow P l' e es p) q b' e' m->
   (∃r m0,p=q++r∧At P w b e es q b' e' m0∧m=setRow P l' e' m0 r)∨
   (∃r,r≠[]∧q=p++r∧At P w' b1 e1 l' r b' e' m)∨
   (At P w b e es q b' e' m∧b'≠b1∧¬q<+:p∧¬p<+:q):=by
 induction Wz with
 |here=>
  intro eC pb q b' e' m h;cases q with
  |nil=>cases h with|here=>exact .inl ⟨[],_,rfl,.here,rfl⟩
  |cons a q=>exact .inr (.inl ⟨a::q,zS,rfl,h⟩)
 |@step b i c b2 len cap b1 e t ea e1 es dX l p Ca T f x h1 h2 h3 h4 h5 h6 h7 h8 ih=>
  intro eC pb q b' e' m h;have qz:(parts P e x)[c]?=some (.list ea dX):=by rw[tU h3,h5,tV h4]
  rw[Fh h2 qz]at h;have hR:=eC _ _ _ _ .here;have hb:b≠b1:=by
   intro hb;subst hb;have:=pb [] _ _ .here;cases this
  have IV:=ih hw hl (fun q b' e' m h=>eC _ _ _ _ (.step h1 h2 h3 h4 h5 h6 h7 h)) (fun q e' m h=>by
   have:=pb _ _ _ (.step h1 h2 h3 h4 h5 h6 h7 h);exact(yn this).2)
  cases h with
  |here=>exact .inl ⟨_,es,rfl,.here,(Fh h2 qz).symm⟩
  |@step _ i' c' b3 arB WA _ _ t' e3 _ _ kq _ q Cu T' f' x' k1 k2 k3 k4 k5 k6 k7 k8=>
   rw[hw b hb]at k1;obtain⟨x0,y1,y2⟩:=IU hR h2 h3 k2 k3;by_cases kT:i'=i∧c'=c
   .rw[ai kT]at y2;obtain⟨rfl,rfl⟩:=kT;rw[h1]at k1;cases k1;rw[h7]at k7;cases k7;rw[k5]at y2;cases y2;rcases IV _ _ _ _ k8 with⟨r,m0,z1,z2,z3⟩|⟨r,z1,z2,z3⟩|⟨z1,z2,z3,z4⟩
    .exact .inl ⟨r,m0,by rw[z1];rfl,.step h1 h2 h3 h4 h5 h6 h7 z2,z3⟩
    .exact .inr (.inl ⟨r,z1,by rw[z2];rfl,z3⟩)
    .refine .inr (.inr ⟨.step h1 h2 h3 h4 h5 h6 h7 z1,z2,fun hh=>z3 ?_,fun hh=>z4 ?_⟩)
     .exact(Ad.1 hh).2
     .exact(Ad.1 hh).2
   .rw[af kT,k5]at y2;have cw:∀q2 b5 e5 lQ,At P w b3 e3 kq q2 b5 e5 lQ->b5≠b1:=by
     intro q2 b5 e5 lQ hq CB;subst CB;have:=pb _ _ _ (.step k1 y1 k3 k4 y2.symm k6 k7 hq);injection this with h1 h2;injection h1 with h1 h3;exact kT ⟨h1,h3⟩
    have mN:=k8.Az (w:=w) fun q2 b5 e5 lQ hq=>hw b5 (cw q2 b5 e5 lQ hq);refine .inr (.inr ⟨.step k1 y1 k3 k4 y2.symm k6 k7 mN,cw _ _ _ _ mN,fun hh=>?_,fun hh=>?_⟩)
    .have:=(Ad.1 hh).1;injection this with h1 h3;exact kT ⟨h1,h3⟩
    .have:=(Ad.1 hh).1;injection this with h1 h3;exact kT ⟨h1.symm,h3.symm⟩
theorem At.AJ{b b1:Nat}{e e1:TypeId}{es l l':LV}{p:Path}(Wz:At P w b e es p b1 e1 l)(hw:∀k,k≠b1->w'.heap[k]?=w.heap[k]?)(hl:l'.length=l.length):
  (∀q b' e' m,At P w b e es q b' e' m->jS P w I b' e' m)->(∀q e' m,At P w b e es q b1 e' m->q=p)->
  ∀q b' e' m,At P w b e es q b' e' m->
   (∃r,p=q++r∧At P w' b e (setRow P l' e es p) q b' e' (setRow P l' e' m r)∧∃e1' m1,At P w b' e' m r b1 e1' m1∧m1=l)∨
   (∃r,r≠[]∧q=p++r∧At P w b1 e1 l r b' e' m∧(∀b2 e2 m2,At P w' b1 e1 l' r b2 e2 m2->At P w' b e (setRow P l' e es p) q b2 e2 m2))∨
   (At P w' b e (setRow P l' e es p) q b' e' m∧b'≠b1∧¬q<+:p∧¬p<+:q):=by
 induction Wz with
 |here=>
  intro eC pb q b' e' m h;cases q with
  |nil=>cases h with|here=>exact .inl ⟨[],rfl,.here,_,_,.here,rfl⟩
  |cons a q=>exact .inr (.inl ⟨a::q,zS,rfl,h,fun _ _ _ h=>h⟩)
 |@step b i c b2 len cap b1 e t ea e1 es dX l p Ca T f x h1 h2 h3 h4 h5 h6 h7 h8 ih=>
  intro eC pb q b' e' m h;have qz:(parts P e x)[c]?=some (.list ea dX):=by rw[tU h3,h5,tV h4]
  have vd:=Fh (new:=l') (q:=p) h2 qz;have hR:=eC _ _ _ _ .here;have o9:i<es.length:=(dw.1 h2).1;have hb:b≠b1:=by
   intro hb;subst hb;have:=pb [] _ _ .here;cases this
  have IV:=ih hw hl (fun q b' e' m h=>eC _ _ _ _ (.step h1 h2 h3 h4 h5 h6 h7 h)) (fun q e' m h=>by
   have:=pb _ _ _ (.step h1 h2 h3 h4 h5 h6 h7 h);exact(yn this).2)
  have rC:=(hw b hb).trans h1;have yR:(es.set i (dW P e ((parts P e x).set c (.list ea (setRow P l' ea dX p)))))[i]?=some (dW P e ((parts P e x).set c (.list ea (setRow P l' ea dX p)))):=BU o9;have WB:cT P e (dW P e ((parts P e x).set c (.list ea (setRow P l' ea dX p)))) c=.list ea (setRow P l' ea dX p):=by
   obtain⟨x0,y1,y2⟩:=IU hR h2 h3 yR h3;rw[ai ⟨rfl,rfl⟩]at y2;exact y2
  cases h with
  |here=>
   exact .inl ⟨(i,c)::p,rfl,.here,_,_,.step h1 h2 h3 h4 h5 h6 h7 h8,rfl⟩
  |@step _ i' c' b3 arB WA _ _ t' e3 _ _ kq _ q Cu T' f' x' k1 k2 k3 k4 k5 k6 k7 k8=>
   rw[vd];by_cases kT:i'=i∧c'=c
   .obtain⟨rfl,rfl⟩:=kT;rw[h1]at k1;cases k1;rw[h7]at k7;cases k7;rw[h3]at k3;cases k3;rw[h4]at k4;cases k4;rw[h2]at k2;cases k2;rw[h5]at k5;cases k5;rcases IV _ _ _ _ k8 with⟨r,z1,z2,z3⟩|⟨r,z1,z2,z3,z4⟩|⟨z1,z2,z3,z4⟩
    .exact .inl ⟨r,by rw[z1];rfl,.step rC yR h3 h4 WB h6 h7 z2,z3⟩
    .exact .inr (.inl ⟨r,z1,by rw[z2];rfl,z3,fun b2 e2 m2 hh=>.step rC yR h3 h4 WB h6 h7 (z4 b2 e2 m2 hh)⟩)
    .refine .inr (.inr ⟨.step rC yR h3 h4 WB h6 h7 z1,z2,fun hh=>z3 ?_,fun hh=>z4 ?_⟩)
     .exact(Ad.1 hh).2
     .exact(Ad.1 hh).2
   .have cw:∀q2 b5 e5 lQ,At P w b3 e3 kq q2 b5 e5 lQ->b5≠b1:=by
     intro q2 b5 e5 lQ hq CB;subst CB;have:=pb _ _ _ (.step k1 k2 k3 k4 k5 k6 k7 hq);injection this with h1 h2;injection h1 with h1 h3;exact kT ⟨h1,h3⟩
    have mN:=k8.mono (w':=w') fun q2 b5 e5 lQ hq=>hw b5 (cw q2 b5 e5 lQ hq);have WC:∃x2,(es.set i (dW P e ((parts P e x).set c (.list ea (setRow P l' ea dX p)))))[i']?=some x2:=by
     have:i'<es.length:=(dw.1 k2).1;exact⟨_,cA (by rw[yo];exact this)⟩
    obtain⟨x2,qB⟩:=WC;obtain⟨x0,y1,y2⟩:=IU hR h2 h3 qB k3;rw[af kT]at y2;rw[k2]at y1;cases y1;rw[k5]at y2;refine .inr (.inr ⟨.step ((hw b hb).trans k1) qB k3 k4 y2 k6 k7 mN,cw _ _ _ _ k8,fun hh=>?_,fun hh=>?_⟩)
    .have:=(Ad.1 hh).1;injection this with h1 h3;exact kT ⟨h1,h3⟩
    .have:=(Ad.1 hh).1;injection this with h1 h3;exact kT ⟨h1.symm,h3.symm⟩
theorem At.fun{b b1:Nat}{e e1:TypeId}{es l:LV}{q:Path}(h:At P w b e es q b1 e1 l):∀{b2 e2 l2},At P w b e es q b2 e2 l2->b2=b1∧e2=e1∧l2=l:=by
 induction h with
 |here=>intro b2 e2 l2 h2;cases h2;exact⟨rfl,rfl,rfl⟩
 |step h1 h2 h3 h4 h5 h6 h7 h8 ih=>
  intro b2 e2 l2 k;cases k with
  |step k1 k2 k3 k4 k5 k6 k7 k8=>
   rw[h1]at k1;cases k1;rw[h7]at k7;cases k7;rw[h2]at k2;cases k2;rw[h5]at k5;cases k5;exact ih k8
theorem At.split:∀{q r:Path}{b b1:Nat}{e e1:TypeId}{es l:LV},At P w b e es (q++r) b1 e1 l->∃b' e' m,At P w b e es q b' e' m∧At P w b' e' m r b1 e1 l
 |[],r,b,b1,e,e1,es,l,h=>⟨_,_,_,.here,h⟩
 |a::q,r,b,b1,e,e1,es,l,h=>by
  cases h with
  |step h1 h2 h3 h4 h5 h6 h7 h8=>
   obtain⟨b',e',m,k1,k2⟩:=At.split h8;exact⟨b',e',m,.step h1 h2 h3 h4 h5 h6 h7 k1,k2⟩
theorem jS.dH{b:Nat}{e:TypeId}{es:LV}(h:jS P w I b e es)(hw:w'.heap[b]?=w.heap[b]?)(hI:∀k j,I k j->w'.cell? ⟨k,j,none⟩=w.cell? ⟨k,j,none⟩)(jT:∀k,bsize w' k=bsize w k):jS P w' I b e es:=by
 obtain⟨ok,⟨Ca,T,c1,c0,c2,c3⟩,nI⟩:=h;refine⟨ok,⟨Ca,T,hw.trans c1,c0,c2,fun i j x t' k1 k2 k3=>?_⟩,nI⟩;obtain⟨v,m1,m2⟩:=c3 i j x t' k1 k2 k3;exact⟨v,m1,m2.mono (fun _ _ h=>h) hI fun b' _ _ _ _=>jT b'⟩
theorem jS.arC{b b1 b2 i c len cap:Nat}{e e1 t ea:TypeId}{es dX l l':LV}{r:Path}{Ca:Array Value}{T:TypeId}{f:Nat×Nat}{x:V}(hR:jS P w I b e es)
  (h1:w.heap[b]?=some (.cells Ca T f)) (h2:es[i]?=some x) (h3:(bA P e)[c]?=some t) (h4:P.underlying t=some (.slice ea)) (h5:cT P e x c=.list ea dX) (h6:0<cap)
  (h7:Ca[i*P.cellsOf e+c]?=some (.slice (some ⟨b2,0,none⟩) len cap)) (h8:At P w b2 ea dX r b1 e1 l) (hl:l'.length=l.length)
  (hw:w'.heap[b]?=w.heap[b]?) (hI:∀k j,I k j->w'.cell? ⟨k,j,none⟩=w.cell? ⟨k,j,none⟩) (jT:∀k,bsize w' k=bsize w k):jS P w' I b e (setRow P l' e es ((i,c)::r)):=by
 have qz:(parts P e x)[c]?=some (.list ea dX):=by rw[tU h3,h5,tV h4]
 rw[Fh h2 qz];have WD:=hR;obtain⟨ok,⟨Cu,_,c1,c0,c2,c3⟩,nI⟩:=hR;rw[h1]at c1;cases c1;refine⟨ok,⟨Ca,_,hw.trans h1,c0,by simpa using c2,fun i' j x' t' k1 k2 k3=>?_⟩,nI⟩;obtain⟨x0,y1,y2⟩:=IU WD h2 h3 k1 k2;obtain⟨v,m1,m2⟩:=c3 i' j x0 t' y1 k2 k3;refine⟨v,m1,?_⟩;have m3:ry P w' I t' v (cT P e x0 j):=m2.mono (fun _ _ h=>h) hI fun b' _ _ _ _=>jT b';rw[y2];by_cases kT:i'=i∧j=c
 .rw[ai kT];obtain⟨rfl,rfl⟩:=kT;rw[h2]at y1;cases y1;rw[h3]at k2;cases k2;rw[h5]at m3;have hlen:=Wy (l':=l') h8 hl;rw[h7]at m1;cases m1;generalize hy:V.list ea dX=y at m3;cases m3 with
  |iI a p=>unfold fh at a;rw[h4]at a;cases a
  |emp a=>exact absurd h6 (qs _)
  |row a b c d e=>
   cases hy;rw[<-hlen];exact .row a b c zO e
 .rw[af kT];exact m3
theorem arD(S:aK P w I β hp B M w0){id b b1 i c:Nat}{e0 e1:TypeId}{es l l':LV}{vers vers':LN}{path:Path}(K:Path->Nat->TypeId->LV->Prop)
  (ae:hp id=some (.nest e0 es vers)) (hb:β id=some b) (ha:At P w b e0 es path b1 e1 l) (hl:l'.length=l.length)
  (hw:∀k,k≠b1->w'.heap[k]?=w.heap[k]?) (jT:∀k,bsize w' k=bsize w k) (bR:w'.heap.size=w.heap.size) (o4:w'.os=w.os∧w'.output=w.output)
  (arE:jS P w' I b1 e1 l')
  (afP:∀a r b' e' m,At P w' b1 e1 l' (a::r) b' e' m->b'≠b1∧(At P w b1 e1 l (a::r) b' e' m∨(a=(i,c)∧K r b' e' m)))
  (hK:∀r b' e' m,K r b' e' m->jS P w I b' e' m∧(M b'∨B<=b')∧(∀ca dq,hp ca=some dq->¬bW P w (β ca) dq b'))
  (wH:∀r1 r2 b' e1 m1 e2 m2,K r1 b' e1 m1->K r2 b' e2 m2->r1=r2)
  (Co:vers'.length=vers.length) (IG:∀k,cq vers k<=cq vers' k)
  (AK:∀(r:Path) i' c' t' v ea l0,(path++r).length<vers.length->cq vers' (path++r).length=cq vers (path++r).length->P.underlying t'=some (.slice ea)->sI P w b1 e1 l r i' c' t' v (.list ea l0)->
   ∃Fi,Fi.length=l0.length∧sI P w' b1 e1 l' r i' c' t' v (.list ea Fi)):
  Le P w I β hp w' I β (aw hp id (some (.nest e0 (setRow P l' e0 es path) vers')))∧aK P w' I β (aw hp id (some (.nest e0 (setRow P l' e0 es path) vers'))) B M w0:=by
 have hr:=S.h.rel id _ ae;rw[hb]at hr;cases hr with
 |j8 aI=>cases aI
 |nest aI eC np=>
 cases aI;have pb:∀q e' m,At P w b e0 es q b1 e' m->q=path:=fun q e' m h=>np _ _ _ _ _ _ _ h ha;have ep:∀j,¬I b1 j:=(eC _ _ _ _ ha).nI;have AL:∀k j,I k j->w'.cell? ⟨k,j,none⟩=w.cell? ⟨k,j,none⟩:=fun k j hk=>World.cell?_of_block (hw k (fun e=>ep j (e▸hk)));have afQ:bW P w (β id) (.nest e0 es vers) b1:=.row hb ha;have same:∀{ax dq b'},ax≠id->hp ax=some dq->bW P w (β ax) dq b'->w'.heap[b']?=w.heap[b']?:=
  fun hi h ho=>hw _ fun e=>hi (S.h.inj _ _ _ _ b1 h ae (e▸ho) afQ)
 have Fj:(setRow P l' e0 es path).length=es.length:=Wy ha hl;have AJ:=At.arA (I:=I) (w':=w') (l':=l') ha hw hl eC pb;have WE:∀q b' e' m,At P w' b e0 (setRow P l' e0 es path) q b' e' m->(∃e2 m2,At P w b e0 es q b' e2 m2)∨∃r,q=path++(i,c)::r∧K r b' e' m:=by
  intro q b' e' m h;rcases AJ q b' e' m h with⟨r,m0,z1,z2,z3⟩|⟨r,z1,z2,z3⟩|⟨z1,z2,z3,z4⟩
  .exact .inl ⟨_,_,z2⟩
  .cases r with
   |nil=>exact absurd rfl z1
   |cons a r=>
    obtain⟨y1,y2⟩:=afP a r b' e' m z3;rcases y2 with y2|⟨rfl,y2⟩
    .exact .inl ⟨_,_,by rw[z2];exact ha.app y2⟩
    .exact .inr ⟨r,z2,y2⟩
  .exact .inl ⟨_,_,z1⟩
 have wF:∀b',bW P w' (β id) (.nest e0 (setRow P l' e0 es path) vers') b'->bW P w (β id) (.nest e0 es vers) b'∨((M b'∨B<=b')∧∀ca dq,hp ca=some dq->¬bW P w (β ca) dq b'):=by
  intro b' ho;cases ho with
  |root _ h=>exact .inl (.root zS h)
  |row h1 h2=>
   rw[hb]at h1;cases h1;rcases WE _ _ _ _ h2 with⟨e2,m2,h⟩|⟨r,_,h⟩
   .exact .inl (.row hb h)
   .exact .inr (hK _ _ _ _ h).2
 have hle:Le P w I β hp w' I β (aw hp id (some (.nest e0 (setRow P l' e0 es path) vers'))):=by
  refine⟨fun _ _ h=>h,AL,fun ax dq h=>?_,fun ax dq ml b' h h3 hd3 aI=>jT b',fun ax e cF vs e' bm Iz b2 q i' c' t v ea l0 h h' fN bt hv ht hc=>?_⟩
  .by_cases hi:ax=id
   .subst hi;rw[ae]at h;cases h;exact⟨_,cB _ _ _,⟨rfl,Fj.symm,Co.symm,IG⟩,fun _=>rfl⟩
   .exact⟨dq,by rw[dj _ _ hi];exact h,ah.le_refl _,fun _=>rfl⟩
  .by_cases hi:ax=id
   .subst hi;rw[ae]at h;cases h;rw[cB]at h';cases h';rw[hb]at fN;cases fN;obtain⟨b',e',m,Ca,T,f,x,k1,k2,k3,k4,k5,k6⟩:=hc;rcases At.AJ (I:=I) (w':=w') (l':=l') ha hw hl eC pb q b' e' m k1 with⟨r,z1,z2,e2,m2,z3,_⟩|⟨r,z1,z2,z3,z4⟩|⟨z1,z2,z3,z4⟩
    .cases r with
     |nil=>
      cases z3;rw[jO]at z1;subst z1;obtain⟨w1,w2,w3⟩:=ha.fun k1;subst w2;subst w3;obtain⟨Fi,g1,g2⟩:=AK [] i' c' t v ea l0 (by simpa using bt) (by simpa using hv) ht ⟨_,_,_,Ca,T,f,x,.here,k2,k3,k4,k5,k6⟩;refine⟨Fi,g1,?_⟩;obtain⟨b5,e5,lQ,C5,T5,f5,x5,q1,q2,q3,q4,q5,q6⟩:=g2;cases q1;exact⟨_,_,_,C5,T5,f5,x5,z2,q2,q3,q4,q5,q6⟩
     |cons a r=>
      cases z3 with
      |@step _ i2 c2 b3 len cap _ _ t3 WG _ _ kq _ r Ca3 T3 f3 x3 g1 g2 g3 g4 g5 g6 g7 g8=>
       have aI:b'≠b1:=by
        intro e;subst e;have:=pb _ _ _ k1;rw[this]at z1;have:=congrArg List.length z1;simp at this
       have qz:(parts P e' x3)[c2]?=some (.list WG kq):=by rw[tU g3,g5,tV g4]
       rw[Fh g2 qz]at z2;have WC:∃x2,(m.set i2 (dW P e' ((parts P e' x3).set c2 (.list WG (setRow P l' WG kq r)))))[i']?=some x2:=by
        have:i'<m.length:=(dw.1 k3).1;exact⟨_,cA (by rw[yo];exact this)⟩
       obtain⟨x2,qB⟩:=WC;obtain⟨x0,y1,y2⟩:=IU (eC _ _ _ _ k1) g2 g3 qB k4;rw[k3]at y1;cases y1;have g8l:=(ha.fun ((k1.app (.step g1 g2 g3 g4 g5 g6 g7 g8)) |> fun h=>by rw[z1];exact h)).2.2;by_cases kT:i'=i2∧c'=c2
       .rw[ai kT]at y2;obtain⟨rfl,rfl⟩:=kT;rw[k3]at g2;cases g2;rw[k5]at g5;cases g5;exact⟨_,Wy g8 (by rw[hl,g8l]),b',e',_,Ca,T,f,x2,z2,(hw b' aI).trans k2,qB,k4,y2,k6⟩
       .rw[af kT,k5]at y2;exact⟨l0,rfl,b',e',_,Ca,T,f,x2,z2,(hw b' aI).trans k2,qB,k4,y2,k6⟩
    .subst z2;obtain⟨Fi,g1,g2⟩:=AK r i' c' t v ea l0 bt hv ht ⟨_,_,_,Ca,T,f,x,z3,k2,k3,k4,k5,k6⟩;obtain⟨b5,e5,lQ,C5,T5,f5,x5,q1,q2,q3,q4,q5,q6⟩:=g2;exact⟨Fi,g1,_,_,_,C5,T5,f5,x5,z4 _ _ _ q1,q2,q3,q4,q5,q6⟩
    .exact⟨l0,rfl,b',e',m,Ca,T,f,x,z1,(hw b' z2).trans k2,k3,k4,k5,k6⟩
   .rw[dj _ _ hi,h]at h';cases h';exact⟨l0,rfl,hc.mono fun _ _ _ _ hh=>same hi h (.row fN hh)⟩
 have hold:∀{ax dq b'},aw hp id (some (.nest e0 (setRow P l' e0 es path) vers')) ax=some dq->bW P w' (β ax) dq b'->
   (∃ml,hp ax=some ml∧bW P w (β ax) ml b')∨(ax=id∧(M b'∨B<=b')∧∀ca dq,hp ca=some dq->¬bW P w (β ca) dq b'):=by
  intro ax dq b' h ho;by_cases hi:ax=id
  .subst hi;rw[cB]at h;cases h;rcases wF b' ho with h|h
   .exact .inl ⟨_,ae,h⟩
   .exact .inr ⟨rfl,h⟩
  .rw[dj _ _ hi]at h;exact .inl ⟨dq,h,ho.mono fun b2 sL=>same hi h sL⟩
 refine⟨hle,⟨⟨fun ax dq h=>?_,fun i1 i2 b1 b2 b' h1 h2 o1 o2=>?_,fun ax dq b' h ho=>?_,fun b' h=>by rw[bR];exact S.h.ln b' h⟩,fun b' h1 h2=>?_,by rw[bR];exact S.size,S.new,⟨o4.1.trans S.io.1,o4.2.trans S.io.2⟩⟩⟩
 .by_cases hi:ax=id
  .subst hi;rw[cB]at h;cases h;rw[hb];refine .nest rfl (fun q b' e' m h=>?_) (fun q1 q2 b' f1 m1 f2 m2 h1 h2=>?_)
   .rcases AJ q b' e' m h with⟨r,m0,z1,z2,z3⟩|⟨r,z1,z2,z3⟩|⟨z1,z2,z3,z4⟩
    .subst z3;subst z1;obtain⟨b5,e5,m5,g1,g2⟩:=At.split ha;obtain⟨w1,w2,w3⟩:=g1.fun z2;subst w1;subst w2;subst w3;cases r with
     |nil=>cases g2;exact arE
     |cons a r=>
      cases g2 with
      |step g1' g2 g3 g4 g5 g6 g7 g8=>
       refine(eC _ _ _ _ z2).arC g1' g2 g3 g4 g5 g6 g7 g8 hl (hw _ fun e=>?_) AL jT;subst e;have:=pb _ _ _ z2;have:=congrArg List.length this;simp at this
    .cases r with
     |nil=>exact absurd rfl z1
     |cons a r=>
      obtain⟨y1,y2⟩:=afP a r b' e' m z3;rcases y2 with y2|⟨rfl,y2⟩
      .exact(eC _ _ _ _ (ha.app y2)).dH (hw _ y1) AL jT
      .exact(hK _ _ _ _ y2).1.dH (hw _ y1) AL jT
    .exact(eC _ _ _ _ z1).dH (hw _ z2) AL jT
   .rcases WE _ _ _ _ h1 with⟨e2,m2',x1⟩|⟨r1,x1,x2⟩<;>rcases WE _ _ _ _ h2 with⟨e3,m3',y1⟩|⟨r2,y1,y2⟩
    .exact np _ _ _ _ _ _ _ x1 y1
    .exact absurd (bW.row hb x1) ((hK _ _ _ _ y2).2.2 _ _ ae)
    .exact absurd (bW.row hb y1) ((hK _ _ _ _ x2).2.2 _ _ ae)
    .rw[x1,y1,wH _ _ _ _ _ _ _ x2 y2]
  .rw[dj _ _ hi]at h;exact(S.h.rel ax dq h).mono hle fun b' ho=>⟨same hi h ho,fun _ h=>h⟩
 .rcases hold h1 o1 with⟨c1,x1,y1⟩|⟨rfl,x1,y1⟩<;>rcases hold h2 o2 with⟨c2,x2,y2⟩|⟨rfl,x2,y2⟩
  .exact S.h.inj i1 i2 c1 c2 b' x1 x2 y1 y2
  .exact absurd y1 (y2 _ _ x1)
  .exact absurd y2 (y1 _ _ x2)
  .rfl
 .rcases hold h ho with⟨c1,x1,y1⟩|⟨rfl,x1,y1⟩
  .exact S.h.own ax c1 b' x1 y1
  .exact x1
 .rw[hw b' fun e=>?_]
  .exact S.dH b' h1 h2
  .subst e;rcases S.h.own id _ b' ae afQ with h|h
   .exact h2 h
   .omega
theorem arF{i i' n c c' k:Nat}(hc':c'<n)(sQ:c+k<=n)(h1:i*n+c<=i'*n+c')(h2:i'*n+c'<i*n+c+k):i'=i∧c<=c'∧c'<c+k:=by
 have:i'=i:=by
  rcases Nat.lt_trichotomy i' i with h|h|h
  .have:=fE n (Nat.succ_le_of_lt h);rw[Ac]at this;omega
  .exact h
  .have:=fE n (Nat.succ_le_of_lt h);rw[Ac]at this;omega
 subst this;omega
theorem arG{b1 i c:Nat}{e1 T:TypeId}{l cs:LV}{x0:V}{Ca:Array Value}{vs:List Value}(hR:jS P w I b1 e1 l)(hh:w.heap[b1]?=some (.cells Ca T (0,0)))(hs:l.length*P.cellsOf e1<=Ca.size)
  (hx:l[i]?=some x0) (hk:cs.length=vs.length) (sQ:c+cs.length<=P.cellsOf e1):
  ∀{i' c':Nat}{x':V}{t':TypeId},(l.set i (dW P e1 (jP (parts P e1 x0) c cs)))[i']?=some x'->(bA P e1)[c']?=some t'->
   ∃x1,l[i']?=some x1∧((∃j y u,i'=i∧c'=c+j∧cs[j]?=some y∧vs[j]?=some u∧cT P e1 x' c'=y∧(Ca.toList.take (i*P.cellsOf e1+c)++(vs++Ca.toList.drop (i*P.cellsOf e1+c+vs.length))).toArray[i'*P.cellsOf e1+c']?=some u)∨
    (cT P e1 x' c'=cT P e1 x1 c'∧(Ca.toList.take (i*P.cellsOf e1+c)++(vs++Ca.toList.drop (i*P.cellsOf e1+c+vs.length))).toArray[i'*P.cellsOf e1+c']?=Ca[i'*P.cellsOf e1+c']?)):=by
 intro i' c' x' t' eo iK;have o9:i<l.length:=(dw.1 hx).1;have Qd:c'<P.cellsOf e1:=by rw[<-gE hR.ok];exact(dw.1 iK).1
 have gl:(parts P e1 x0).length=P.cellsOf e1:=by rw[AH];exact gE hR.ok
 have hbound:i*P.cellsOf e1+c+vs.length<=Ca.toList.length:=by
  have:(i+1)*P.cellsOf e1<=l.length*P.cellsOf e1:=fE _ o9;rw[nf]at this;simp only[Array.length_toList];omega
 simp only[tI];rw[sO _ _ _ _ hbound];by_cases gZ:i'=i∧c<=c'∧c'<c+cs.length
 .obtain⟨rfl,h1,h2⟩:=gZ;rw[BU o9]at eo;cases eo;refine⟨x0,hx,.inl ?_⟩;rw[cl,aU,show i'*P.cellsOf e1+c'-(i'*P.cellsOf e1+c)=c'-c by omega];have hy:cs[c'-c]?=some cs[c'-c]:=cA zO;have hu:vs[c'-c]?=some vs[c'-c]:=cA zO;refine⟨c'-c,_,_,rfl,zO,hy,hu,?_,hu⟩;refine yP ?_ iK;unfold jP;rw[sO _ _ _ _ zO,cl,aU];exact hy
 .have aJH:¬(i*P.cellsOf e1+c<=i'*P.cellsOf e1+c'∧i'*P.cellsOf e1+c'<i*P.cellsOf e1+c+vs.length):=fun h=>gZ (arF Qd sQ h.1 zO);have hg:(if i'*P.cellsOf e1+c'<i*P.cellsOf e1+c then Ca.toList[i'*P.cellsOf e1+c']?else if i'*P.cellsOf e1+c'<i*P.cellsOf e1+c+vs.length then vs[i'*P.cellsOf e1+c'-(i*P.cellsOf e1+c)]?else Ca.toList[i'*P.cellsOf e1+c']?)=Ca[i'*P.cellsOf e1+c']?:=by
   by_cases h1:i'*P.cellsOf e1+c'<i*P.cellsOf e1+c
   .rw[ai h1];simp
   .rw[af h1,cl];simp
  by_cases hi:i'=i
  .subst hi;rw[BU o9]at eo;cases eo;refine⟨x0,hx,.inr ⟨?_,hg⟩⟩;have h1:(jP (parts P e1 x0) c cs)[c']?=some (iE P t' (cT P e1 x0 c')):=by
    unfold jP;rw[sO _ _ _ _ zO];by_cases h1:c'<c
    .rw[ai h1];exact tU iK
    .rw[af h1,cl];exact tU iK
   rw[yP h1 iK];obtain⟨Cu,_,_,_,_,yQ⟩:=hR.cells;obtain⟨v,_,ho⟩:=yQ i' c' x0 t' hx iK Qd;exact ho.AG
  .rw[BV (fun h=>hi h.symm)]at eo;exact⟨x',eo,.inr ⟨rfl,hg⟩⟩
theorem arH{w:World}{b1:Nat}{Ca Cb:Array Value}{T:TypeId}(hh:w.heap[b1]?=some (.cells Ca T (0,0)))(hs:Cb.size=Ca.size)(k:Nat):bsize (w.setRow b1 Cb) k=bsize w k:=by
 by_cases hk:k=b1
 .subst hk;rw[ou (setRow_heap w k Ca Cb T (0,0) hh),ou hh,hs]
 .simp only[bsize,setRow_other w b1 k Cb hk]
theorem Qe(S:aK P w I β hp B M w0){t:TypeId}{v:Value}{id b b1 i c:Nat}{e0 e1:TypeId}{es l cs:LV}{vers vers':LN}{path:Path}{x0:V}(K:Path->Nat->TypeId->LV->Prop)
  (ae:hp id=some (.nest e0 es vers)) (hb:β id=some b) (ha:At P w b e0 es path b1 e1 l) (ht:rn P t=true) (hn:P.cellsOf t=v.cells.size)
  (hx:l[i]?=some x0) (hk:cs.length=v.cells.size) (sQ:c+cs.length<=P.cellsOf e1) (h1:∀u∈v.cells.toList,u.oneCell'=true)
  (eQ:∀(j:Nat) y u t',cs[j]?=some y->v.cells.toList[j]?=some u->(bA P e1)[c+j]?=some t'->ry P w I t' u y)
  (arI:∀(j:Nat) y u t' e3 kq b3 len cap,cs[j]?=some y->v.cells.toList[j]?=some u->(bA P e1)[c+j]?=some t'->P.underlying t'=some (.slice e3)->y=.list e3 kq->0<cap->
   u=.slice (some ⟨b3,0,none⟩) len cap->j=0∧∀r b' e' m,At P w b3 e3 kq r b' e' m->b'≠b1∧K r b' e' m)
  (hK:∀r b' e' m,K r b' e' m->jS P w I b' e' m∧(M b'∨B<=b')∧(∀ca dq,hp ca=some dq->¬bW P w (β ca) dq b'))
  (wH:∀r1 r2 b' e1 m1 e2 m2,K r1 b' e1 m1->K r2 b' e2 m2->r1=r2)
  (Co:vers'.length=vers.length) (IG:∀k,cq vers k<=cq vers' k)
  (j9:(∀(j:Nat) t',j<cs.length->(bA P e1)[c+j]?=some t'->fh P t'=true)∨∀k,path.length<=k->k<vers.length->cq vers' k≠cq vers k):
  ∃w',(Instr.storeAt t (.pointer (some ⟨b1,i*P.cellsOf e1+c,none⟩)) v).run P w=.ok () w'∧
   Le P w I β hp w' I β (aw hp id (some (.nest e0 (setRow P (l.set i (dW P e1 (jP (parts P e1 x0) c cs))) e0 es path) vers')))∧
   aK P w' I β (aw hp id (some (.nest e0 (setRow P (l.set i (dW P e1 (jP (parts P e1 x0) c cs))) e0 es path) vers'))) B M w0:=by
 have hR:=S.rows ae hb ha;obtain⟨Ca,T,hh,hL,hs,yQ⟩:=hR.cells;have o9:i<l.length:=(dw.1 hx).1;have fG:cs.length=v.cells.toList.length:=by simpa using hk
 have Ww:i*P.cellsOf e1+c+v.cells.size<=Ca.size:=by
  have:(i+1)*P.cellsOf e1<=l.length*P.cellsOf e1:=fE _ o9;rw[nf]at this;omega
 have dS:=Qa (t:=t) (o:=i*P.cellsOf e1+c) (v:=v) ht hn hh Ww h1;have hlen:(Ca.toList.take (i*P.cellsOf e1+c)++(v.cells.toList++Ca.toList.drop (i*P.cellsOf e1+c+v.cells.toList.length))).length=Ca.size:=by
  rw[IQ _ _ _ (by simpa using Ww)];simp
 have cn:=@arG P w I b1 i c e1 T l cs x0 Ca v.cells.toList hR hh hs hx fG sQ;have ep:=hR.nI;have hr:=S.h.rel id _ ae;rw[hb]at hr;cases hr with
 |j8 aI=>cases aI
 |nest aI eC np=>
 cases aI;have pb:∀q e' m,At P w b1 e1 l q b1 e' m->q=[]:=by
  intro q e' m h;have:=np _ _ _ _ _ _ _ (ha.app h) ha;simpa using this
 have yS:=setRow_heap w b1 Ca (Ca.toList.take (i*P.cellsOf e1+c)++(v.cells.toList++Ca.toList.drop (i*P.cellsOf e1+c+v.cells.toList.length))).toArray T (0,0) hh;have jT:=arH hh (Cb:=(Ca.toList.take (i*P.cellsOf e1+c)++(v.cells.toList++Ca.toList.drop (i*P.cellsOf e1+c+v.cells.toList.length))).toArray) (by simpa using hlen);have wJ:=fun k (hk:k≠b1)=>setRow_other w b1 k (Ca.toList.take (i*P.cellsOf e1+c)++(v.cells.toList++Ca.toList.drop (i*P.cellsOf e1+c+v.cells.toList.length))).toArray hk;generalize WH:(Ca.toList.take (i*P.cellsOf e1+c)++(v.cells.toList++Ca.toList.drop (i*P.cellsOf e1+c+v.cells.toList.length))).toArray=Cb at*
 generalize hL':l.set i (dW P e1 (jP (parts P e1 x0) c cs))=l' at*
 have tY:l'.length=l.length:=by rw[<-hL'];simp
 have AL:∀k j,I k j->(w.setRow b1 Cb).cell? ⟨k,j,none⟩=w.cell? ⟨k,j,none⟩:=fun k j hk=>World.cell?_of_block (wJ k (fun e=>ep j (e▸hk)));refine⟨_,dS,arD S (i:=i) (c:=c) K ae hb ha tY wJ jT zS ⟨rfl,rfl⟩ ?_ ?_ hK wH Co IG ?_⟩
 .refine⟨hR.ok,⟨Cb,T,yS,(show Cb.size=Ca.size by rw[<-WH];simpa using hlen)▸hL,by rw[tY,<-WH];simp only[wg];omega,fun i' j x' t' k1 k2 k3=>?_⟩,ep⟩;obtain⟨x1,y1,y2⟩:=cn k1 k2;rcases y2 with⟨jj,y,u,rfl,rfl,z1,z2,z3,z4⟩|⟨z3,z4⟩
  .exact⟨u,z4,by rw[z3];exact(eQ jj y u t' z1 z2 k2).mono (fun _ _ h=>h) AL fun _ _ _ _ _=>jT _⟩
  .obtain⟨v1,m1,m2⟩:=yQ i' j x1 t' y1 k2 k3;exact⟨v1,z4.trans m1,by rw[z3];exact m2.mono (fun _ _ h=>h) AL fun _ _ _ _ _=>jT _⟩
 .intro a r b' e' m h;obtain⟨i',c'⟩:=a;cases h with
  |step k1 k2 k3 k4 k5 k6 k7 k8=>
   rw[yS]at k1;cases k1;obtain⟨x1,y1,y2⟩:=cn k2 k3;rcases y2 with⟨jj,y,u,rfl,rfl,z1,z2,z3,z4⟩|⟨z3,z4⟩
   .rw[k7]at z4;obtain⟨g1,g2⟩:=arI jj y u _ _ _ _ _ _ z1 z2 k3 k4 (z3.symm.trans k5) k6 (ee z4).symm;subst g1;have mN:=k8.Az (w:=w) fun q2 b5 e5 lQ hq=>wJ b5 (g2 _ _ _ _ hq).1;exact⟨(g2 _ _ _ _ mN).1,.inr ⟨rfl,(g2 _ _ _ _ mN).2⟩⟩
   .rw[k5]at z3;rw[k7]at z4;have cw:∀q2 b5 e5 lQ,At P w _ _ _ q2 b5 e5 lQ->b5≠b1:=fun q2 b5 e5 lQ hq CB=>by
     subst CB;have:=pb _ _ _ (.step hh y1 k3 k4 z3.symm k6 z4.symm hq);cases this
    have mN:=k8.Az (w:=w) fun q2 b5 e5 lQ hq=>wJ b5 (cw q2 b5 e5 lQ hq);exact⟨cw _ _ _ _ mN,.inl (.step hh y1 k3 k4 z3.symm k6 z4.symm mN)⟩
 .intro r i' c' t' v' ea l0 bt WI qC hc;rcases j9 with j9|j9
  .
   have gW:∀{i' c' x1 t' e3},l[i']?=some x1->(bA P e1)[c']?=some t'->P.underlying t'=some (.slice e3)->∃x',l'[i']?=some x'∧cT P e1 x' c'=cT P e1 x1 c'∧Cb[i'*P.cellsOf e1+c']?=Ca[i'*P.cellsOf e1+c']?:=by
    intro i' c' x1 t' e3 g1 g2 g3;have bt:i'<l'.length:=by rw[tY];exact(dw.1 g1).1
    have eo:=cA bt;obtain⟨x2,y1,y2⟩:=cn eo g2;rw[g1]at y1;cases y1;rcases y2 with⟨jj,y,u,rfl,rfl,z1,z2,z3,z4⟩|⟨z3,z4⟩
    .have:=j9 jj t' (dw.1 z1).1 g2;unfold fh at this;rw[g3]at this;cases this
    .exact⟨_,eo,z3,z4⟩
   obtain⟨b',e',m,C5,T,f,x,k1,k2,k3,k4,k5,k6⟩:=hc;refine⟨l0,rfl,?_⟩;cases k1 with
   |here=>
    rw[hh]at k2;cases k2;obtain⟨x',g1,g2,g3⟩:=gW k3 k4 qC;exact⟨_,_,l',Cb,_,_,x',.here,yS,g1,k4,g2.trans k5,g3.trans k6⟩
   |step q1 q2 q3 q4 q5 q6 q7 q8=>
    have q1':=q1;rw[hh]at q1;cases q1;obtain⟨x',g1,g2,g3⟩:=gW q2 q3 q4;have cw:∀q2 b5 e5 lQ,At P w _ _ _ q2 b5 e5 lQ->b5≠b1:=fun q9 b5 e5 lQ hq CB=>by
     subst CB;have:=pb _ _ _ (.step hh q2 q3 q4 q5 q6 q7 hq);cases this
    have mN:=q8.mono (w':=w.setRow b1 Cb) fun q2 b5 e5 lQ hq=>wJ b5 (cw q2 b5 e5 lQ hq);exact⟨b',e',m,C5,T,f,x,.step yS g1 q3 q4 (g2.trans q5) q6 (g3.trans q7) mN,(wJ _ (cw _ _ _ _ q8)).trans k2,k3,k4,k5,k6⟩
  .exact absurd WI (j9 _ zS bt)
theorem IW:∀(vs:LN) (d k:Nat),d<=k->k<vs.length->cq (raise d vs) k=cq vs k+1
 |[],d,k,_,h=>by simp at h
 |v::vs,0,0,_,_=>by simp[raise,cq]
 |v::vs,0,k+1,_,h=>by
  have:=IW vs 0 k (od _) (by simpa using h);simpa[raise,cq]using this
 |v::vs,d+1,0,h,_=>zO
 |v::vs,d+1,k+1,h,h2=>by
  have:=IW vs d k zO (by simpa using h2);simpa[raise,cq]using this
theorem Qf:∀(vs:LN) (d:Nat),(raise d vs).length=vs.length
 |[],0=>rfl
 |[],d+1=>rfl
 |v::vs,0=>by simp[raise]
 |v::vs,d+1=>by simp[raise,Qf vs d]
theorem IX:∀(vs:LN) (d k:Nat),cq vs k<=cq (raise d vs) k
 |[],0,k=>by simp[raise,cq]
 |[],d+1,k=>by simp[raise,cq]
 |v::vs,0,0=>by simp[raise,cq]
 |v::vs,0,k+1=>by
  have:=IX vs 0 k;simpa[raise,cq]using this
 |v::vs,d+1,0=>by simp[raise,cq]
 |v::vs,d+1,k+1=>by
  have:=IX vs d k;simpa[raise,cq]using this
theorem arJ{t:TypeId}{v:Value}{x:V}(hv:ak P w I β hp v x)(h:fR P t x=true)(hs:fh P t=true):Pure P w I t v x:=by
 unfold fh at hs;unfold fR at h;cases hu:P.underlying t with
 |none=>rw[hu]at hs;cases hs
 |some d=>
  rw[hu]at hs h;cases d<;>simp only at hs<;>first|(cases hs;done)|skip
  all_goals cases x<;>simp only at h<;>first|(cases h;done)|skip
  .rw[hv.o5];exact .bool hu
  .simp only[fp]at h;subst h;rw[hv.jo];exact .int hu
  .obtain⟨s,rfl,hl⟩:=hv.rD;exact .str hu hl
def WJ(P:Program)(w:World)(I:Nat->Nat->Prop)(o:Option Nat)(blk:ah)(b2:Nat)(e2:TypeId)(cF:LV):Prop:=
 (∀r b' e' m,At P w b2 e2 cF r b' e' m->jS P w I b' e' m∧bW P w o blk b')∧∀r1 r2 b' e1 m1 Qg m2,At P w b2 e2 cF r1 b' e1 m1->At P w b2 e2 cF r2 b' Qg m2->r1=r2
theorem WK(S:aK P w I β hp B M w0){ca b2:Nat}{e2:TypeId}{cF:LV}(ae:hp ca=some (.arr e2 cF false))(hb:β ca=some b2)(hs:(flat P e2).all (fh P)=true):
  WJ P w I (β ca) (.arr e2 cF false) b2 e2 cF:=by
 have only:∀r b' e' m,At P w b2 e2 cF r b' e' m->r=[]:=by
  intro r b' e' m h;cases h with
  |here=>rfl
  |step h1 h2 h3 h4 h5 h6 h7 h8=>
   rw[vh]at h3;have:=il.1 hs _ (oa h3);unfold fh at this;rw[h4]at this;cases this
 refine⟨fun r b' e' m h=>?_,fun r1 r2 b' e1 m1 Qg m2 h1 h2=>by rw[only _ _ _ _ h1,only _ _ _ _ h2]⟩;have:=only _ _ _ _ h;subst this;cases h;have hr:=S.h.rel ca _ ae;cases hr with
 |gk aI=>rw[hb]at aI;cases aI
 |arr hL av aI hh bR hf iS hx=>
  rw[hb]at aI;cases aI;refine⟨⟨av,⟨_,_,hh,hL,bR,fun i j x t' k1 k2 k3=>?_⟩,iS rfl⟩,.root zS hb⟩;obtain⟨v,m1,m2⟩:=hx i j x t' k1 k2 k3;refine⟨v,m1,.iI ?_ m2⟩;rw[vh]at k2;exact il.1 hs _ (oa k2)
theorem arK(S:aK P w I β hp B M w0){ca b2:Nat}{e2:TypeId}{cF:LV}{vg:LN}(ae:hp ca=some (.nest e2 cF vg))(hb:β ca=some b2):
  WJ P w I (β ca) (.nest e2 cF vg) b2 e2 cF:=by
 have hr:=S.h.rel ca _ ae;cases hr with
 |j8 aI=>rw[hb]at aI;cases aI
 |nest aI eC np=>
  rw[hb]at aI;cases aI;exact⟨fun r b' e' m h=>⟨eC _ _ _ _ h,.row hb h⟩,fun r1 r2 b' e1 m1 Qg m2 h1 h2=>np _ _ _ _ _ _ _ h1 h2⟩
theorem afR{c:Nat}{e1 e2 t':TypeId}(h:(((flat P e1).drop c).take 1).all (fun u=>match P.underlying u with|some (.slice e3)=>Nat.beq e2 e3|_=>false)=true)(ht:(bA P e1)[c]?=some t'):
  P.underlying t'=some (.slice e2):=by
 rw[vh]at ht;have hm:t'∈((flat P e1).drop c).take 1:=by
  refine oa (i:=0) ?_;rw[mf zO,uW];simpa using ht
 have:=il.1 h _ hm;split at this
 .rename_i e3 hu;rw[bK]at this;rw[hu,this]
 .cases this
theorem afS(S:aK P w I β hp B M w0){t:TypeId}{v:Value}{id ca b b1 i c:Nat}{e0 e1 e2:TypeId}{es l cF:LV}{vers:LN}{path:Path}{x0:V}{dq:ah}
  (ae:hp id=some (.nest e0 es vers)) (hb:β id=some b) (ha:At P w b e0 es path b1 e1 l) (ht:rn P t=true) (hn:P.cellsOf t=1)
  (hx:l[i]?=some x0) (sQ:c+1<=P.cellsOf e1) (IY:(((flat P e1).drop c).take 1).all (fun u=>match P.underlying u with|some (.slice e3)=>Nat.beq e2 e3|_=>false)=true)
  (dY:hp ca=some dq) (cw:id≠ca)
  (hv:((∃a,v=.slice a 0 0)∧cF=[])∨∃b2 cap,v=.slice (some ⟨b2,0,none⟩) cF.length cap∧cap*P.cellsOf e2=bsize w b2∧cF.length<=cap∧cap<=maxLen∧WJ P w I (β ca) dq b2 e2 cF):
  vl P ((Instr.storeAt t (.pointer (some ⟨b1,i*P.cellsOf e1+c,none⟩)) v).run P w) w I β hp B M w0
   ⟨.undef,[(id,.nest e0 (setRow P (l.set i (dW P e1 (jP (parts P e1 x0) c [.list e2 cF]))) e0 es path) (raise path.length vers)),(ca,.dead)]⟩:=by
 obtain⟨wK,S1⟩:=AE S dY;have vn:aw hp ca (some .dead) id=some (.nest e0 es vers):=by rw[dj _ _ cw];exact ae
 have yQ:v.cells= #[v]:=by rcases hv with⟨⟨_,rfl⟩,_⟩|⟨b2,cap,rfl,_⟩<;>rfl
 have vo:v.oneCell'=true:=by rcases hv with⟨⟨_,rfl⟩,_⟩|⟨b2,cap,rfl,_⟩<;>rfl
 have free:∀b',bW P w (β ca) dq b'->(M b'∨B<=b')∧∀Qh ml,aw hp ca (some .dead) Qh=some ml->¬bW P w (β Qh) ml b':=by
  intro b' ho;refine⟨S.h.own ca dq b' dY ho,fun Qh ml h3 ho3=>?_⟩;by_cases hi:Qh=ca
  .subst hi;rw[cB]at h3;cases h3;exact ho3.alive rfl
  .rw[dj _ _ hi]at h3;exact hi (S.h.inj _ _ _ _ b' h3 dY ho3 ho)
 have mO:∀b',bW P w (β ca) dq b'->b'≠b1:=by
  intro b' ho e;subst e;exact cw (S.h.inj _ _ _ _ b' ae dY (.row hb ha) ho)
 have eQ:∀(j:Nat) y u t',[V.list e2 cF][j]?=some y->v.cells.toList[j]?=some u->(bA P e1)[c+j]?=some t'->j=0∧y=.list e2 cF∧u=v∧P.underlying t'=some (.slice e2):=by
  intro j y u t' k1 k2 k3;cases j with
  |succ j=>simp at k1
  |zero=>
   rw[yQ]at k2;simp at k1 k2;exact⟨rfl,k1.symm,k2.symm,afR IY k3⟩
 rcases hv with⟨⟨a0,rfl⟩,rfl⟩|⟨b2,cap,rfl,v1,v2,v3,v4⟩
 .obtain⟨w',r1,r2,r3⟩:=Qe S1 (vers':=raise path.length vers) (fun _ _ _ _=>False) vn hb ha ht (v:=.slice a0 0 0) hn hx (cs:=[.list e2 []]) rfl sQ (by rw[yQ];simp[vo])
   (fun j y u t' k1 k2 k3=>by obtain⟨rfl,rfl,rfl,k4⟩:=eQ j y u t' k1 k2 k3;exact .emp k4)
   (fun j y u t' e3 kq b3 len cap k1 k2 k3 k4 k5 k6=>by obtain⟨rfl,rfl,rfl,k7⟩:=eQ j y u t' k1 k2 k3;intro k8;cases k8;exact absurd k6 (qs _))
   (fun _ _ _ _ h=>h.elim) (fun _ _ _ _ _ _ _ h=>h.elim) (Qf _ _) (IX _ _) (.inr fun k h1 h2=>by rw[IW _ _ _ h1 h2];omega)
  exact⟨w',I,β,r1,wK.trans r2,r3,rfl⟩
 .obtain⟨w',r1,r2,r3⟩:=Qe S1 (vers':=raise path.length vers) (fun r b' e' m=>At P w b2 e2 cF r b' e' m) vn hb ha ht (v:=.slice (some ⟨b2,0,none⟩) cF.length cap) hn hx (cs:=[.list e2 cF]) rfl sQ (by rw[yQ];simp[vo])
   (fun j y u t' k1 k2 k3=>by
    obtain⟨rfl,rfl,rfl,k4⟩:=eQ j y u t' k1 k2 k3;rcases Nat.eq_zero_or_pos cap with h0|h0
    .subst h0;obtain rfl:=yl.1 (Nat.le_zero.1 v2);exact .emp k4
    .exact .row k4 h0 v1 v2 v3)
   (fun j y u t' e3 kq b3 len cap k1 k2 k3 k4 k5 k6 k8=>by
    obtain⟨rfl,rfl,rfl,k7⟩:=eQ j y u t' k1 k2 k3;cases k5;cases k8;exact⟨rfl,fun r b' e' m h=>⟨mO _ (v4.1 _ _ _ _ h).2,h⟩⟩)
   (fun r b' e' m h=>⟨(v4.1 _ _ _ _ h).1,free _ (v4.1 _ _ _ _ h).2⟩) (fun r1 r2 b' e1 m1 Qg m2 h1 h2=>v4.2 _ _ _ _ _ _ _ h1 h2) (Qf _ _) (IX _ _) (.inr fun k h1 h2=>by rw[IW _ _ _ h1 h2];omega)
  exact⟨w',I,β,r1,wK.trans r2,r3,rfl⟩
theorem afT(S:aK P w I β hp B M w0){t:TypeId}{v:Value}{x:V}{r:R}{rd:LN}{id b b1 i c:Nat}{e0 e1:TypeId}{es l:LV}{vers:LN}{path:Path}
  (ht:rn P t=true) (hn:x.cells.length=P.cellsOf t) (hv:ak P w I β hp v x) (ae:hp id=some (.nest e0 es vers)) (hb:β id=some b) (ha:At P w b e0 es path b1 e1 l)
  (h:(Ps P t id e0 es vers path i c x).run C hp=some (r,rd)):vl P ((Instr.storeAt t (.pointer (some ⟨b1,i*P.cellsOf e1+c,none⟩)) v).run P w) w I β hp B M w0 r:=by
 unfold Ps at h;obtain⟨bt,h⟩:=aX h;rw[rb]at bt;obtain⟨e',vv,q1,q2,h⟩:=Fa h;obtain⟨p1,p2⟩:=Wk ha;rw[p1]at q1;cases q1;rw[p2]at q2;cases q2;simp only[V.toList]at h;obtain⟨av,h⟩:=aX h;obtain⟨x0,ow,h⟩:=ot h;obtain⟨sQ,h⟩:=aX h;rw[gg]at sQ;have slice:∀e2,P.underlying t=some (.slice e2)->
   ((((Rd.aQ ((((flat P e1).drop c).take x.cells.length).all fun u=>match P.underlying u with|some (.slice e3)=>Nat.beq e2 e3|_=>false) (
     match(generalizing:=false) x with
     |.nilS e3=>.aQ (Nat.beq e2 e3) (.ret ⟨.undef,[(id,.nest e0 (setRow P (l.set i (dW P e1 (jP (parts P e1 x0) c [.list e2 []]))) e0 es path) (raise path.length vers))]⟩)
     |.whole e3 ca=>.get ca fun
      |some (.arr e4 cF false)=>.aQ (Nat.beq e2 e3&&(Nat.beq e3 e4&&(!(Nat.beq id ca)&&(flat P e2).all (fh P))))
        (.ret ⟨.undef,[(id,.nest e0 (setRow P (l.set i (dW P e1 (jP (parts P e1 x0) c [.list e2 cF]))) e0 es path) (raise path.length vers)),(ca,.dead)]⟩)
      |some (.nest e4 cF _)=>.aQ (Nat.beq e2 e3&&(Nat.beq e3 e4&&!(Nat.beq id ca)))
        (.ret ⟨.undef,[(id,.nest e0 (setRow P (l.set i (dW P e1 (jP (parts P e1 x0) c [.list e2 cF]))) e0 es path) (raise path.length vers)),(ca,.dead)]⟩)
      |_=>.fail
     |_=>.fail)):Rd R).run C hp))=some (r,rd)->
   vl P ((Instr.storeAt t (.pointer (some ⟨b1,i*P.cellsOf e1+c,none⟩)) v).run P w) w I β hp B M w0 r:=by
  intro e2 hu h;obtain⟨IY,h⟩:=aX h;cases x with
  |nilS e3=>
   obtain⟨hc,h⟩:=aX h;obtain rfl:=bG h;rw[bK]at hc;subst hc;cases hv with
   |nilS=>
    obtain⟨w',r1,r2,r3⟩:=Qe S (v:=.slice none 0 0) (vers':=raise path.length vers) (fun _ _ _ _=>False) ae hb ha ht hn.symm ow (cs:=[.list e2 []]) rfl sQ (by simp[Value.cells,Value.oneCell'])
     (fun j y u t' k1 k2 k3=>by
      cases j with
      |succ j=>simp at k1
      |zero=>
       simp[Value.cells]at k1 k2;subst k1;subst k2;exact .emp (afR IY k3))
     (fun j y u t' e3 kq b3 len cap k1 k2 k3 k4 k5 k6=>by
      cases j with
      |succ j=>simp at k1
      |zero=>simp[Value.cells]at k2;subst k2;intro k8;cases k8)
     (fun _ _ _ _ h=>h.elim) (fun _ _ _ _ _ _ _ h=>h.elim) (Qf _ _) (IX _ _) (.inr fun k h1 h2=>by rw[IW _ _ _ h1 h2];omega)
    exact⟨w',I,β,r1,r2,r3,rfl⟩
  |whole e3 ca=>
   obtain⟨l1,h⟩:=run_get h;cases dY:hp ca with
   |none=>rw[dY]at h;cases h
   |some dq=>
    rw[dY]at h;cases dq with
    |dead=>cases h
    |var _=>cases h
    |map _ _=>cases h
    |out _ _ _ _=>cases h
    |arr e4 cF fz=>
     cases fz with
     |true=>cases h
     |false=>
      obtain⟨hc,h⟩:=aX h;obtain rfl:=bG h;simp only[aZ,bK,ng]at hc;obtain⟨rfl,rfl,cw,j9⟩:=hc;have WM:id≠ca:=fun e=>by rw[e,oT]at cw;cases cw
      refine afS S ae hb ha ht hn.symm ow sQ IY dY WM ?_;cases hv with
      |fM cI=>rw[dY]at cI;cases cI
      |fF cI fN=>rw[dY]at cI;cases cI;exact .inl ⟨⟨_,rfl⟩,rfl⟩
      |whole cI fN cQ hle wD=>
       rw[dY]at cI;cases cI;exact .inr ⟨_,_,rfl,cQ,hle,wD,WK S dY fN j9⟩
      |fS cI=>rw[dY]at cI;cases cI
      |iJ cI=>rw[dY]at cI;cases cI
      |fq cI=>rw[dY]at cI;cases cI
    |nest e4 cF vg=>
     obtain⟨hc,h⟩:=aX h;obtain rfl:=bG h;simp only[aZ,bK,ng]at hc;obtain⟨rfl,rfl,cw⟩:=hc;have WM:id≠ca:=fun e=>by rw[e,oT]at cw;cases cw
     refine afS S ae hb ha ht hn.symm ow sQ IY dY WM ?_;cases hv with
     |fM cI=>rw[dY]at cI;cases cI
     |fF cI fN=>rw[dY]at cI;cases cI
     |whole cI=>rw[dY]at cI;cases cI
     |fS cI fN=>rw[dY]at cI;cases cI;exact .inl ⟨⟨_,rfl⟩,rfl⟩
     |iJ cI=>rw[dY]at cI;cases cI
     |fq cI fN cQ hle wD=>
      rw[dY]at cI;cases cI;exact .inr ⟨_,_,rfl,cQ,hle,wD,arK S dY fN⟩
  |_=>cases h
 have iI:(((Rd.aQ ((((flat P e1).drop c).take x.cells.length).all (fh P)&&uZ P (((flat P e1).drop c).take x.cells.length) x.cells)
   (.ret ⟨.undef,[(id,.nest e0 (setRow P (l.set i (dW P e1 (jP (parts P e1 x0) c x.cells))) e0 es path) vers)]⟩)):Rd R).run C hp)=some (r,rd)->
   vl P ((Instr.storeAt t (.pointer (some ⟨b1,i*P.cellsOf e1+c,none⟩)) v).run P w) w I β hp B M w0 r:=by
  intro h;obtain⟨hc,h⟩:=aX h;obtain rfl:=bG h;simp only[aZ]at hc;obtain⟨hs,fk⟩:=hc;obtain⟨tl,tg⟩:=CA fk;have WN:∀(j:Nat) t',j<x.cells.length->(bA P e1)[c+j]?=some t'->(((flat P e1).drop c).take x.cells.length)[j]?=some t':=by
   intro j t' hj iK;rw[mf hj,uW];rw[vh]at iK;exact iK
  have sat:∀(j:Nat) t',j<x.cells.length->(bA P e1)[c+j]?=some t'->fh P t'=true:=fun j t' hj iK=>
   il.1 hs _ (oa (WN j t' hj iK))
  have ua:v.cells.size=x.cells.length∧∀(j:Nat) u y,v.cells.toList[j]?=some u->x.cells[j]?=some y->ak P w I β hp u y:=by
   have base:(∀xs,x≠.agg xs)->x.cells=[x]->v.cells.size=x.cells.length∧∀(j:Nat) u y,v.cells.toList[j]?=some u->x.cells[j]?=some y->ak P w I β hp u y:=by
    intro _ tZ;rw[tZ]at tl tg WN⊢;have h0:0<(((flat P e1).drop c).take [x].length).length:=by rw[tl];exact Nat.one_pos
    have fk:=tg 0 _ x (cA h0) rfl;obtain⟨o1,o2⟩:=afO hv fk;rw[o2];refine⟨rfl,fun j u y hu hy=>?_⟩;cases j with
    |zero=>simp at hu hy;subst hu;subst hy;exact hv
    |succ j=>simp at hy
   cases x with
   |agg xs=>
    obtain⟨cs,rfl,h1,h2⟩:=hv.o6;exact⟨h1,fun j u y a b=>h2 j u y (by simpa[Value.cells]using a) b⟩
   |_=>exact base zS rfl
  have pure:∀(j:Nat) u y t',v.cells.toList[j]?=some u->x.cells[j]?=some y->(bA P e1)[c+j]?=some t'->Pure P w I t' u y:=by
   intro j u y t' hu hy iK;have hj:=(dw.1 hy).1;exact arJ (ua.2 j u y hu hy) (tg j t' y (WN j t' hj iK) hy) (sat j t' hj iK)
  obtain⟨w',r1,r2,r3⟩:=Qe S (v:=v) (vers':=vers) (fun _ _ _ _=>False) ae hb ha ht (by rw[ua.1];exact hn.symm) ow ua.1.symm sQ (fun u hu=>by
    obtain⟨j,hj⟩:=wh hu;have eX:j<x.cells.length:=by rw[<-ua.1];simpa using(dw.1 hj).1
    have sR:c+j<(bA P e1).length:=by rw[gE av];omega
    have one:∀t' y,Pure P w I t' u y->u.oneCell'=true:=by intro t' y h;cases h<;>rfl
    exact one _ _ (pure j u _ _ hj (cA eX) (cA sR)))
   (fun j y u t' k1 k2 k3=>.iI (sat j t' (dw.1 k1).1 k3) (pure j u y t' k2 k1 k3))
   (fun j y u t' e3 kq b3 len cap k1 k2 k3 k4 k5 k6=>by
    have:=sat j t' (dw.1 k1).1 k3;unfold fh at this;rw[k4]at this;cases this)
   (fun _ _ _ _ h=>h.elim) (fun _ _ _ _ _ _ _ h=>h.elim) rfl (fun _=>aC _) (.inl fun j t' hj iK=>sat j t' hj iK)
  exact⟨w',I,β,r1,r2,r3,rfl⟩
 cases hu:P.underlying t with
 |none=>rw[hu]at h;exact iI h
 |some d=>
  cases d with
  |slice e2=>rw[hu]at h;exact slice e2 hu h
  |_=>rw[hu]at h;exact iI h
end
section
variable {P:Program}{w w':World}{I I':Nat->Nat->Prop}{β β':Nat->Option Nat}{hp hp':Nat->Option ah}{C:ab}{B:Nat}{M:Nat->Prop}{w0:Start}
theorem AN{e e1:TypeId}(h:rowOf P e=some e1):P.underlying e=some (.slice e1)∧cP P e=false∧dU P e=true∧dU P e1=true∧(flat P e1).all (fh P)=true:=by
 unfold rowOf at h;split at h
 .rename_i e2 hu;cases hc:(!(cP P e)&&(dU P e&&(dU P e2&&(flat P e2).all (fh P))))with
  |false=>rw[hc]at h;cases h
  |true=>
   rw[hc]at h;cases h;simp only[aZ,ng]at hc;exact⟨hu,hc.1,hc.2.1,hc.2.2.1,hc.2.2.2⟩
 .cases h
theorem arL{e1:TypeId}(jG:(flat P e1).all (fh P)=true){w:World}{b1 b':Nat}{e':TypeId}{l m:LV}{r:Path}(h:At P w b1 e1 l r b' e' m):r=[]∧b'=b1∧e'=e1∧m=l:=by
 cases h with
 |here=>exact⟨rfl,rfl,rfl,rfl⟩
 |step h1 h2 h3 h4 h5 h6 h7 h8=>
  rw[vh]at h3;have:=il.1 jG _ (oa h3);unfold fh at this;rw[h4]at this;cases this
def CD(P:Program)(w:World)(e1:TypeId)(K:Nat->LV->Prop)(v:Value)(l:LV):Prop:=
 (l=[]∧∃a,v=.slice a 0 0)∨
 (∃b1 cap,0<cap∧v=.slice (some ⟨b1,0,none⟩) l.length cap∧cap*P.cellsOf e1=bsize w b1∧l.length<=cap∧cap<=maxLen∧K b1 l)
theorem afU{b:Nat}{e e1:TypeId}{ys:LV}{vers:LN}{C':Array Value}(hr:rowOf P e=some e1)
  {T:TypeId}(yS:w'.heap[b]?=some (.cells C' T (0,0))) (hlen:ys.length<=C'.size) (ep:∀j,¬I b j) (K:Nat->Nat->LV->Prop)
  (iZ:∀(i:Nat) x,ys[i]?=some x->∃l v,x=.list e1 l∧C'[i]?=some v∧CD P w e1 (K i) v l)
  (hK:∀i b1 l,K i b1 l->b1≠b∧w'.heap[b1]?=w.heap[b1]? ∧jS P w I b1 e1 l)
  (wH:∀i j b1 l m,K i b1 l->K j b1 m->i=j):
  (∀b',bW P w' (some b) (.nest e ys vers) b'->b'=b∨∃i l,K i b' l)∧
  ∀{dC gO},(∀b j,I b j->w'.cell? ⟨b,j,none⟩=w.cell? ⟨b,j,none⟩)->gj P w' I dC gO (some b) (.nest e ys vers):=by
 obtain⟨hu,dx,av,qD,jG⟩:=AN hr;have hLs:ve P T e C'.size:=fun fl=>by unfold isByte at fl;rw[hu]at fl;cases fl
 have mn:bA P e=[e]:=by simp[bA,dx]
 have hk:P.cellsOf e=1:=by rw[<-gE av,mn];rfl
 have CE:∀x j,cT P e x j=x:=fun x j=>by simp[cT,dx]
 have IZ:∀q b2 e2 m,At P w' b e ys q b2 e2 m->(q=[]∧b2=b∧e2=e∧m=ys)∨∃i,q=[(i,0)]∧e2=e1∧K i b2 m:=by
  intro q b2 e2 m h;cases h with
  |here=>exact .inl ⟨rfl,rfl,rfl,rfl⟩
  |step h1 h2 h3 h4 h5 h6 h7 h8=>
   right;rw[yS]at h1;cases h1;rw[mn]at h3;obtain⟨hc,ht⟩:=dw.1 h3;simp only[List.length_singleton,Nat.lt_one_iff]at hc;subst hc;simp only[List.getElem_singleton]at ht;subst ht;rw[hu]at h4;cases h4;rw[CE]at h5;subst h5;rw[hk,lI,Nat.add_zero]at h7;obtain⟨l,v,hl,hv,hh⟩:=iZ _ _ h2;cases hl;rw[hv]at h7;cases h7;rcases hh with⟨rfl,a',he⟩|⟨b1',WA,_,he,_,_,_,yT⟩
   .cases he;exact absurd h6 (qs _)
   .cases he;obtain⟨rfl,rfl,rfl,rfl⟩:=arL jG h8;exact⟨_,rfl,rfl,yT⟩
 have lR:∀i b1 l,K i b1 l->w'.heap[b1]?=w.heap[b1]?:=fun i b1 l h=>(hK i b1 l h).2.1;refine⟨fun b' ho=>?_,fun AK=>?_⟩
 .cases ho with
  |root _ h=>exact .inl (ee h).symm
  |row h ha=>
   cases h;rcases IZ _ _ _ _ ha with⟨_,h,_,_⟩|⟨i,_,_,yT⟩
   .exact .inl h
   .exact .inr ⟨_,_,yT⟩
 .refine .nest rfl (fun q b2 e2 m h=>?_) (fun q1 q2 b2 e2 m2 e3 m3 h1 h2=>?_)
  .rcases IZ _ _ _ _ h with⟨rfl,rfl,rfl,rfl⟩|⟨i,rfl,rfl,yT⟩
   .refine⟨av,⟨C',_,yS,hLs,by rw[hk,lI];exact hlen,fun i j x t' hx ht hj=>?_⟩,ep⟩;rw[hk]at hj;have WO:j=0:=zO;subst WO;rw[mn]at ht;simp only[List.getElem?_cons_zero,gi]at ht;subst ht;obtain⟨l,v,rfl,hv,hh⟩:=iZ _ _ hx;refine⟨v,by rw[hk,lI,Nat.add_zero];exact hv,?_⟩;rw[CE];rcases hh with⟨rfl,a,rfl⟩|⟨b1,cap,h0,rfl,hs,hl,hm,yT⟩
    .exact .emp hu
    .exact .row hu h0 (by rw[hs,IH (lR _ _ _ yT)]) hl hm
   .obtain⟨_,_,⟨ok,⟨Ca,T2,c1,c0,c2,c3⟩,nI⟩⟩:=hK _ _ _ yT;refine⟨ok,⟨Ca,T2,(lR _ _ _ yT).trans c1,c0,c2,fun i' j x t' hx ht hj=>?_⟩,nI⟩;obtain⟨v,m1,m2⟩:=c3 i' j x t' hx ht hj;have j9:fh P t'=true:=by
     rw[vh]at ht;exact il.1 jG _ (oa ht)
    refine⟨v,m1,?_⟩;generalize cT P e2 x j=y at m2;cases m2 with
    |iI a p=>exact .iI a (p.mono (fun _ _ h=>h) AK)
    |emp a=>unfold fh at j9;rw[a]at j9;cases j9
    |row a _ _ _ _=>unfold fh at j9;rw[a]at j9;cases j9
  .rcases IZ _ _ _ _ h1 with⟨rfl,rfl,_,_⟩|⟨i,rfl,_,k1⟩
   .rcases IZ _ _ _ _ h2 with⟨rfl,_,_,_⟩|⟨j,rfl,_,k2⟩
    .rfl
    .exact absurd rfl (hK _ _ _ k2).1
   .rcases IZ _ _ _ _ h2 with⟨rfl,rfl,_,_⟩|⟨j,rfl,_,k2⟩
    .exact absurd rfl (hK _ _ _ k1).1
    .rw[wH _ _ _ _ _ k1 k2]
theorem WQ(S:aK P w I β hp B M w0){id b:Nat}{e e1:TypeId}{es:LV}{vers:LN}(hr:rowOf P e=some e1)(ae:hp id=some (.nest e es vers))(hb:β id=some b):
  ∃Ca T,w.heap[b]?=some (.cells Ca T (0,0))∧es.length<=Ca.size∧(∀j,¬I b j)∧
   (∀(i:Nat) x,es[i]?=some x->∃l v,x=.list e1 l∧Ca[i]?=some v∧CD P w e1 (fun b1 l=>At P w b e es [(i,0)] b1 e1 l) v l)∧
   (∀i b1 l,At P w b e es [(i,0)] b1 e1 l->b1≠b∧b1<w.heap.size∧jS P w I b1 e1 l∧(M b1∨B<=b1)∧bW P w (β id) (.nest e es vers) b1)∧
   ∀i j b1 l m,At P w b e es [(i,0)] b1 e1 l->At P w b e es [(j,0)] b1 e1 m->i=j:=by
 obtain⟨hu,dx,av,qD,jG⟩:=AN hr;have mn:bA P e=[e]:=by simp[bA,dx]
 have hk:P.cellsOf e=1:=by rw[<-gE av,mn];rfl
 have CE:∀x j,cT P e x j=x:=fun x j=>by simp[cT,dx]
 have dF:=S.h.rel id _ ae;rw[hb]at dF;cases dF with
 |j8 h=>cases h
 |nest aI eC np=>
  cases aI;obtain⟨_,⟨Ca,T,c1,_,c2,c3⟩,nI⟩:=eC _ _ _ _ .here;rw[hk,lI]at c2;refine⟨Ca,T,c1,c2,nI,fun i x hx=>?_,fun i b1 l ha=>?_,fun i j b1 l m h1 h2=>?_⟩
  .obtain⟨v,hv,ho⟩:=c3 i 0 x e hx (by rw[mn];rfl) (by rw[hk];exact Nat.one_pos);rw[hk,lI,Nat.add_zero]at hv;rw[CE]at ho;cases ho with
   |iI a _=>unfold fh at a;rw[hu]at a;cases a
   |emp a=>rw[hu]at a;cases a;exact⟨[],_,rfl,hv,.inl ⟨rfl,_,rfl⟩⟩
   |@row _ l b1 cap a h0 hs hl hm=>
    rw[hu]at a;cases a;refine⟨l,_,rfl,hv,.inr ⟨b1,cap,h0,rfl,hs,hl,hm,?_⟩⟩;exact .step c1 hx (by rw[mn];rfl) hu (CE _ _) h0 (by rw[hk,lI,Nat.add_zero];exact hv) .here
  .have ho:bW P w (β id) (.nest e es vers) b1:=.row hb ha;refine⟨fun h=>?_,S.h.lt ae ho,eC _ _ _ _ ha,S.h.own id _ b1 ae ho,ho⟩;subst h;exact absurd (np _ _ _ _ _ _ _ ha .here) zS
  .have:=np _ _ _ _ _ _ _ h1 h2;simpa using this
theorem afV(l:LN)(k:Nat)(h:k<l.length):cq l k<cq (l.map (·+1)) k:=by
 induction l generalizing k with
 |nil=>simp at h
 |cons a l ih=>
  cases k with
  |zero=>simp[cq]
  |succ k=>simpa[cq]using ih k (by simpa using h)
theorem arM{l:LN}{k:Nat}(h:l.length<=k):cq l k=0:=by
 induction l generalizing k with
 |nil=>rfl
 |cons a l ih=>
  cases k with
  |zero=>simp at h
  |succ k=>simpa[cq]using ih (by simpa using h)
theorem arN(S:aK P w I β hp B M w0){id nb b i:Nat}{e e1:TypeId}{es:LV}{y:V}{vers:LN}(hr:rowOf P e=some e1)(ae:hp id=some (.nest e es vers))(hb:β id=some b)(hy:es[i]?=some y)(hn:hp nb=none):
  ∃wL,Le P w I β hp w I wL (aw (aw hp id (some (.out e es (vers.map (·+1)) i))) nb (some (.arr e1 y.toList false)))∧
   aK P w I wL (aw (aw hp id (some (.out e es (vers.map (·+1)) i))) nb (some (.arr e1 y.toList false))) B M w0∧
   ∀Ca v T f,w.heap[b]?=some (.cells Ca T f)->Ca[i]?=some v->ak P w I wL (aw (aw hp id (some (.out e es (vers.map (·+1)) i))) nb (some (.arr e1 y.toList false))) v (.whole e1 nb):=by
 obtain⟨hu,dx,av,qD,jG⟩:=AN hr;obtain⟨Ca,T0,c1,c2,nI,rc,rk,ru⟩:=WQ S hr ae hb;have yU:bA P e1=flat P e1:=vh e1;have mn:bA P e=[e]:=by simp[bA,dx]
 have CE:∀x j,cT P e x j=x:=fun x j=>by simp[cT,dx]
 have hk:P.cellsOf e=1:=by rw[<-gE av,mn];rfl
 have ku:=(dw.1 hy).1;have Qi:∀(j:Nat) l b1 cap,es[j]?=some (.list e1 l)->0<cap->Ca[j]?=some (.slice (some ⟨b1,0,none⟩) l.length cap)->At P w b e es [(j,0)] b1 e1 l:=
  fun j l b1 cap hx h0 hv=>.step c1 hx (by rw[mn];rfl) hu (CE _ _) h0 (by rw[hk,lI,Nat.add_zero];exact hv) .here
 have cw:nb≠id:=fun h=>by rw[h,ae]at hn;cases hn
 have wF:∀b',bW P w (some b) (.out e es (vers.map (·+1)) i) b'->bW P w (some b) (.nest e es vers) b'∧∀l,¬At P w b e es [(i,0)] b' e1 l:=by
  intro b' ho;cases ho with
  |root _ h=>cases h;exact⟨.root zS rfl,fun l ha=>(rk _ _ _ ha).1 rfl⟩
  |@sJ _ e2 _ l _ _ j b2 _ cap C' T f h1 h2 hj hx h0 hv=>
   cases h1;rw[c1]at h2;cases h2;obtain⟨l',v',m1,m2,m3⟩:=rc _ _ hx;cases m1;have ha:=Qi _ _ _ _ hx h0 hv;exact⟨.row rfl ha,fun l2 Qj=>hj (ru _ _ _ _ _ ha Qj)⟩
 have hes:es≠[]:=fun h=>by rw[h]at ku;simp at ku
 obtain⟨l1,S1⟩:=Wn (w':=w) S (blk':=.out e es (vers.map (·+1)) i) ae zS
  ⟨⟨rfl,rfl,zS,fun k=>by
    by_cases hk:k<vers.length
    .exact Nat.le_of_lt (afV _ _ hk)
    .rw[arM zO];exact od _⟩,fun k hk=>afV _ _ hk,hes⟩ hb nI (.inr zS) (fun _ _=>rfl) rfl (aC _) ⟨rfl,rfl⟩
  (fun b' h=>.inl (wF b' h).1) (fun _=>by
   refine .out rfl hu (by rw[yU];exact jG) c1 c2 ku nI (fun j x hj hx=>?_) (fun j b1 cap l hj hx h0 hv=>?_) (fun j k b1 c1 c2 l m hj hk hx hz h1 h2 hv yL=>?_)
   .obtain⟨l,v,m1,m2,m3⟩:=rc j x hx;refine⟨l,v,m1,m2,?_⟩;subst m1;rcases m3 with⟨rfl,a,rfl⟩|⟨b1,cap,h0,rfl,q1,q2,q3,_⟩
    .exact .emp hu
    .exact .row hu h0 q1 q2 q3
   .have:=rk _ _ _ (Qi _ _ _ _ hx h0 hv);exact⟨this.1,this.2.2.1⟩
   .exact ru _ _ _ _ _ (Qi _ _ _ _ hx h1 hv) (Qi _ _ _ _ hz h2 yL))
 have ky:aw hp id (some (.out e es (vers.map (·+1)) i)) nb=none:=by rw[dj _ _ cw];exact hn
 obtain⟨l,v,AO,hv,iZ⟩:=rc i y hy;subst AO;rcases iZ with⟨rfl,a,rfl⟩|⟨b1,cap,h0,rfl,q1,q2,q3,ha⟩
 .obtain⟨a1,a2⟩:=IK S1 (fz:=false) e1 ky;refine⟨_,l1.trans a1,a2,fun Cu v' T f h1 h2=>?_⟩;rw[c1]at h1;cases h1;rw[hv]at h2;cases h2;exact .fF (cB _ _ _) (cB _ _ _)
 .obtain⟨d1,d2,⟨ok,⟨C1,_,e2,e0,e3,e4⟩,nI1⟩,d4,d5⟩:=rk _ _ _ ha;obtain⟨a1,a2⟩:=Fe S1 (w':=w) (blk:=.arr e1 l false) (b:=b1) ky
   (fun ax blk' h ho=>by
    by_cases hi:ax=id
    .subst hi;rw[cB]at h;cases h;rw[hb]at ho;exact(wF _ ho).2 _ ha
    .rw[dj _ _ hi]at h;exact hi (S.h.inj _ _ _ _ _ h ae ho d5))
   (fun j h=>absurd h (nI1 j)) (fun _ _ _=>rfl) (aC _) ⟨rfl,rfl⟩ d4 (fun b' h=>(ee (h.flat zS)).symm)
   (fun hle=>.arr e0 qD rfl e2 e3 (fun h=>by cases h) (fun _=>nI1) fun i' j x t' k1 k2 k3=>by
    obtain⟨u,m1,m2⟩:=e4 i' j x t' k1 k2 k3;have j9:fh P t'=true:=by
     rw[yU]at k2;exact il.1 jG _ (oa k2)
    refine⟨u,m1,?_⟩;generalize cT P e1 x j=z at m2⊢;cases m2 with
    |iI _ p=>exact p
    |emp a=>unfold fh at j9;rw[a]at j9;cases j9
    |row a _ _ _ _=>unfold fh at j9;rw[a]at j9;cases j9)
  refine⟨_,l1.trans a1,a2,fun Cu v' T f h1 h2=>?_⟩;rw[c1]at h1;cases h1;rw[hv]at h2;cases h2;exact .whole (es:=l) (cB _ _ _) (cB _ _ _) q1 q2 q3
theorem arO(S:aK P w I β hp B M w0){t e e1:TypeId}{v:Value}{id ca b i:Nat}{es cF:LV}{vers:LN}(hr:rowOf P e=some e1)(ae:hp id=some (.out e es vers i))(hb:β id=some b)
  (ht:rn P t=true) (hn:P.cellsOf t=1) (dY:hp ca=some (.arr e1 cF false)) (cw:id≠ca) (hv:ak P w I β hp v (.whole e1 ca)):
  vl P ((Instr.storeAt t (.pointer (some ⟨b,i*P.cellsOf e+0,none⟩)) v).run P w) w I β hp B M w0 ⟨.undef,[(id,.nest e (es.set i (.list e1 cF)) vers),(ca,.dead)]⟩:=by
 obtain⟨hu,dx,av,qD,jG⟩:=AN hr;have mn:bA P e=[e]:=by simp[bA,dx]
 have hk:P.cellsOf e=1:=by rw[<-gE av,mn];rfl
 obtain⟨wK,S1⟩:=AE S dY;have vn:aw hp ca (some .dead) id=some (.out e es vers i):=by rw[dj _ _ cw];exact ae
 have dF:=S.h.rel id _ ae;rw[hb]at dF;cases dF with
 |out aI lS aJI hh hs hi hI hc eC np=>
 cases aI;rw[hu]at lS;cases lS;rename_i Ca;have iZ:∃K:Nat->LV->Prop,CD P w e1 K v cF∧(∀b1 l,K b1 l->b1≠b∧jS P w I b1 e1 l∧(M b1∨B<=b1)∧(∀ax blk',aw hp ca (some .dead) ax=some blk'->¬bW P w (β ax) blk' b1))∧v.cells= #[v]∧v.oneCell'=true:=by
  cases hv with
  |fM hd=>rw[dY]at hd;cases hd
  |fq hd=>rw[dY]at hd;cases hd
  |fS hd=>rw[dY]at hd;cases hd
  |iJ hd=>rw[dY]at hd;cases hd
  |@fF _ _ _ a0 hd hb=>rw[dY]at hd;cases hd;exact⟨fun _ _=>False,.inl ⟨rfl,a0,rfl⟩,fun _ _ h=>h.elim,rfl,rfl⟩
  |@whole _ _ _ _ b2 cap hd fN bR cQ hm=>
   rw[dY]at hd;cases hd;obtain⟨m1,m2⟩:=WK S dY fN jG;obtain⟨m3,m4⟩:=m1 _ _ _ _ .here;rcases Nat.eq_zero_or_pos cap with h0|h0
   .subst h0;obtain rfl:=yl.1 (Nat.le_zero.1 cQ);exact⟨fun _ _=>False,.inl ⟨rfl,_,rfl⟩,fun _ _ h=>h.elim,rfl,rfl⟩
   .refine⟨fun b1 l=>b1=b2∧l=cF,.inr ⟨b2,cap,h0,rfl,bR,cQ,hm,rfl,rfl⟩,fun b1 l h=>?_,rfl,rfl⟩;obtain⟨rfl,rfl⟩:=h;refine⟨fun h=>?_,m3,S.h.own ca _ _ dY m4,fun ax blk' h' ho=>?_⟩
    .subst h;exact cw (S.h.inj _ _ _ _ _ ae dY (.root zS hb) m4)
    .by_cases q:ax=ca
     .subst q;rw[cB]at h';cases h';exact absurd rfl ho.alive
     .rw[dj _ _ q]at h';exact q (S.h.inj ax ca _ _ _ h' dY ho m4)
 obtain⟨K,k1,k2,k3,k4⟩:=iZ;have ku:i<Ca.size:=zO;have dS:=Qa (t:=t) (o:=i*P.cellsOf e+0) (v:=v) ht (by rw[hn,k3];rfl) hh (by rw[k3,hk];simp;omega) (by rw[k3];simp[k4]);rw[k3,hk,lI,Nat.add_zero]at dS;have hC:(Ca.toList.take i++(#[v].toList++Ca.toList.drop (i+ #[v].toList.length))).toArray.size=Ca.size:=by simp;omega
 have iq:∀j,(Ca.toList.take i++(#[v].toList++Ca.toList.drop (i+ #[v].toList.length))).toArray[j]?=if j=i then some v else Ca[j]?:=by
  intro j;rw[tI,sO _ _ _ _ (by simp;omega)];simp only[List.length_singleton,tJ];by_cases h1:j<i
  .rw[ai h1,af zO]
  .rw[af h1];by_cases h2:j=i
   .subst h2;simp
   .rw[af zO,af h2]
 rw[hk,lI,Nat.add_zero];generalize hCb:(Ca.toList.take i++(#[v].toList++Ca.toList.drop (i+ #[v].toList.length))).toArray=Cb at dS hC iq;have eQ:=setRow_heap w b Ca Cb _ (0,0) hh;have wJ:=fun k (hk:k≠b)=>setRow_other w b k Cb hk;obtain⟨p1,p2⟩:=afU (w:=w) (w':=w.setRow b Cb) (I:=I) (vers:=vers) (ys:=es.set i (.list e1 cF)) hr eQ (by simp;omega) hI
  (fun j b1 l=>(j=i∧K b1 l)∨(j≠i∧∃cap,es[j]?=some (.list e1 l)∧0<cap∧Ca[j]?=some (.slice (some ⟨b1,0,none⟩) l.length cap)))
  (fun j x hx=>by
   rw[yp]at hx;rw[iq];by_cases hj:i=j
   .subst hj;simp only[jZ,ai hi,gi]at hx;subst hx;refine⟨cF,v,rfl,ai rfl,?_⟩;rcases k1 with h|⟨b1,cap,h0,h1,h2,h3,h4,h5⟩
    .exact .inl h
    .exact .inr ⟨b1,cap,h0,h1,h2,h3,h4,.inl ⟨rfl,h5⟩⟩
   .rw[af hj]at hx;rw[af (fun h=>hj h.symm)];obtain⟨l,u,m1,m2,m3⟩:=hc j x (fun h=>hj h.symm) hx;subst m1;refine⟨l,u,rfl,m2,?_⟩;cases m3 with
    |iI a _=>unfold fh at a;rw[hu]at a;cases a
    |emp a=>exact .inl ⟨rfl,_,rfl⟩
    |@row _ _ b1 cap a h0 c d f=>exact .inr ⟨b1,cap,h0,rfl,by rw[hu]at a;cases a;exact c,d,f,.inr ⟨fun h=>hj h.symm,cap,hx,h0,m2⟩⟩)
  (fun j b1 l h=>by
   rcases h with⟨_,h⟩|⟨hj,cap,hx,h0,hv⟩
   .exact⟨(k2 _ _ h).1,wJ _ (k2 _ _ h).1,(k2 _ _ h).2.1⟩
   .obtain⟨q1,q2⟩:=eC _ _ _ _ hj hx h0 hv;exact⟨q1,wJ _ q1,q2⟩)
  (fun j j' b1 l m h1 h2=>by
   have no:∀{j l m},K b1 l->(j≠i∧∃cap,es[j]?=some (.list e1 m)∧0<cap∧Ca[j]?=some (.slice (some ⟨b1,0,none⟩) m.length cap))->False:=fun h ⟨hj,cap,hx,h0,hv⟩=>
    (k2 _ _ h).2.2.2 _ _ vn (by rw[hb];exact .sJ rfl hh hj hx h0 hv)
   rcases h1 with⟨h,h1⟩|h1
   .rcases h2 with⟨h',h2⟩|h2
    .omega
    .exact(no h1 h2).elim
   .rcases h2 with⟨_,h2⟩|h2
    .exact(no h2 h1).elim
    .obtain⟨hj,cap,hx,h0,hv⟩:=h1;obtain⟨kz,WA,eo,WR,yV⟩:=h2;exact np _ _ _ _ _ _ _ hj kz hx eo h0 WR hv yV)
 obtain⟨a1,a2⟩:=Wn S1 (w':=w.setRow b Cb) (blk':=.nest e (es.set i (.list e1 cF)) vers) vn zS ⟨rfl,zS,rfl,fun _=>aC _⟩ hb hI (.inl zS) wJ (by rw[ou eQ,ou hh,hC]) zS ⟨rfl,rfl⟩
  (fun b' ho=>by
   rcases p1 b' ho with rfl|⟨j,l,⟨_,h⟩|⟨hj,cap,hx,h0,hv⟩⟩
   .exact .inl (.root zS rfl)
   .exact .inr ⟨(k2 _ _ h).2.2.1,(k2 _ _ h).2.2.2⟩
   .exact .inl (.sJ rfl hh hj hx h0 hv))
  (fun hle=>p2 hle.dH)
 exact⟨_,I,β,dS,wK.trans a1,a2,rfl⟩
end
section
variable {P:Program}{w w':World}{I I':Nat->Nat->Prop}{β β':Nat->Option Nat}{hp hp':Nat->Option ah}{C:ab}{B:Nat}{M:Nat->Prop}{w0:Start}
theorem arP{xs:LV}{c:Nat}{v:V}(h:c<xs.length):wq xs 0 c v=jP xs c [v]:=by
 refine wi fun j=>?_;rw[Qb,jP,sO _ _ _ _ (show c+[v].length<=xs.length from h),dT];cases hj:xs[j]?with
 |none=>grind
 |some x=>
  have hp:wo (Nat.beq c j) v x=bif Nat.beq c j then v else x:=by
   unfold wo;split<;>cases hb:Nat.beq c j<;>simp_all<;>grind
  rw[Option.map_some,hp];cases hb:Nat.beq c j with
  |true=>rw[bK]at hb;grind
  |false=>
   have:c≠j:=fun e=>by rw[e,oT]at hb;cases hb
   grind
theorem arQ(S:aK P w I β hp B M w0){t:TypeId}{a v:Value}{xa x:V}{r:R}{rd:LN}(ha:ak P w I β hp a xa)(hv:ak P w I β hp v x)
  (h:(VT P t xa x).run C hp=some (r,rd)):vl P ((Instr.storeAt t a v).run P w) w I β hp B M w0 r:=by
 unfold VT at h;obtain⟨h0,h⟩:=aX h;simp only[aZ,bK]at h0;obtain⟨ht,hn⟩:=h0;cases xa with
 |ptr id i c=>
  obtain⟨l,h⟩:=run_get h;cases ae:hp id with
  |none=>rw[ae]at h;cases h
  |some blk=>
   rw[ae]at h;cases blk with
   |dead=>cases h
   |var T0 cs=>
    obtain⟨afW,h⟩:=aX h;have vm:Ao P T0=true->0<c:=fun cv=>by
     rw[cv]at afW;simpa using afW
    obtain⟨b,hb,rfl⟩:=ha.ov ae zS;simp only[ah.sz,Nat.mul_zero,dT];dsimp only at h;cases sN:(yz P t cs&&fR P t x)with
    |true=>
     rw[sN]at h;simp only[cond_true]at h;obtain⟨hc,h⟩:=aX h;obtain rfl:=bG h;simp only[aZ,rb]at hc sN;obtain⟨o1,o2⟩:=afO hv sN.2;have tZ:=afM sN.2;refine afN S ae hb ht hn (by rw[o2,tZ];rfl) vm (fun j u y hu hy=>?_) (by rw[o2];simp[o1]) (by rw[tZ];simp;omega) (afL _ _ _ _) (fun j y hy hj u hu=>?_) (fun j y hy hj u hu=>?_)
     .rw[o2]at hu;rw[tZ]at hy;cases j with
      |zero=>simp at hu hy;subst hu;subst hy;exact hv
      |succ j=>simp at hy
     .rw[Qb]at hy;cases Fk:cs[j]?with
      |none=>rw[Fk]at hy;cases hy
      |some y0=>
       rw[Fk]at hy;simp only[Option.map_some,gi]at hy;rw[tZ]at hj;simp only[List.length_singleton]at hj;have cw:Nat.beq c (0+j)=false:=by
        cases hq:Nat.beq c (0+j)with
        |false=>rfl
        |true=>rw[bK]at hq;omega
       rw[cw]at hy;have:=afA (c:=false) hv (hu y0 Fk);rw[<-hy];simpa using this
     .rw[tZ]at hj hu;have WO:j=0:=by simpa using hj
      subst WO;rw[Qb]at hy;cases Fk:cs[c+0]?with
      |none=>rw[Fk]at hy;cases hy
      |some y0=>
       rw[Fk]at hy;simp only[Option.map_some,gi]at hy;have heq:Nat.beq c (0+(c+0))=true:=by rw[bK];omega
       rw[heq]at hy;have h2:ak P w I β hp u x:=hu x rfl;have:wo true x y0=x:=arz x y0;rw[<-hy,this];exact h2
    |false=>
     rw[sN]at h;simp only[cond_false]at h;obtain⟨hc,h⟩:=aX h;simp only[aZ,gg]at hc;obtain⟨e1,e2⟩:=Wu hv h;obtain⟨h1,l2,h⟩:=P9 h (vs:=v.cells.toList) (by simpa using e1) (fun j u y a b=>e2 j u y (by simpa using a) b);obtain rfl:=bG h;refine afN S ae hb ht hn e1 vm e2 h1 hc.2 (IQ _ _ _ hc.2) (fun j y hy hj u hu=>?_) (fun j y hy hj u hu=>?_)
     .unfold jP at hy;rw[sO _ _ _ _ hc.2]at hy;rcases hj with hj|hj
      .rw[ai hj]at hy;exact hu y hy
      .rw[cl,cl]at hy;exact hu y hy
     .unfold jP at hy;rw[sO _ _ _ _ hc.2,cl,aU]at hy;rw[show c+j-c=j by omega]at hy;exact hu y hy
   |arr e es fz=>
    cases fz with
    |true=>cases h
    |false=>
    obtain⟨b,hb,rfl⟩:=ha.ov ae zS;obtain⟨av,h⟩:=aX h;obtain⟨⟨ys,fr⟩,l1,l2,cC,h⟩:=qx h;obtain⟨ja,hc3,jn,x0,ow,rfl⟩:kL (fr.map (·.1)) id=false∧c+x.cells.length<=P.cellsOf e∧uZ P (((flat P e).drop c).take x.cells.length) ys=true∧∃x0,es[i]?=some x0∧r=⟨.undef,(id,.arr e (es.set i (dW P e (jP (parts P e x0) c ys))) false)::fr⟩:=by
     cases Qk:(cP P e&&((flat P e).all (Nat.beq t)&&fR P t x))with
     |false=>
      rw[Qk]at h;obtain⟨hc,h⟩:=aX h;obtain⟨x0,ow,h⟩:=ot h;simp only[aZ,ng,gg]at hc;exact⟨hc.1,hc.2.1,hc.2.2,x0,ow,(bG h).symm⟩
     |true=>
      rw[Qk]at h;obtain⟨hc,h⟩:=aX h;obtain⟨x0,ow,h⟩:=ot h;simp only[aZ,ng,rb]at hc Qk;obtain⟨dx,AP,fk⟩:=Qk;have tZ:=afM fk;rw[tZ]at cC⊢;obtain⟨rfl,rfl⟩:ys=[x]∧fr=[]:=by
       have gO:Pq P x=.ret (x,[]):=by
        cases x<;>first|rfl|(unfold fR at fk;grind)
       rw[yx,gO]at cC;have:=bG cC;simp at this;grind
      have rF:c<(flat P e).length:=by rw[(qy av).1];exact hc.2
      have Ql:(flat P e)[c]=t:=(HW (il.1 AP _ (gC rF))).symm;refine⟨hc.1,hc.2,?_,x0,ow,?_⟩
      .rw[BW rF,Ql];simp[uZ,fk]
      .rw[<-arP (by rw[AH,gE av];exact hc.2)];exact(bG h).symm
    have ua:v.cells.size=x.cells.length∧∀(j:Nat) u y,v.cells.toList[j]?=some u->x.cells[j]?=some y->ak P w I β hp u y:=by
     cases x with
     |agg xs=>
      obtain⟨cs,rfl,h1,h2⟩:=hv.o6;exact⟨h1,fun j u y a b=>h2 j u y (by simpa[Value.cells]using a) b⟩
     |_=>
      simp only[V.cells]at cC jn⊢;simp only[yx]at cC;obtain⟨⟨y1,u1⟩,l3,l4,hq,cC⟩:=qx cC;obtain⟨q1,q2⟩:=P0 S.h.rel hq hv;obtain⟨⟨y2,u2⟩,l5,l6,wM,cC⟩:=qx cC;cases wM;have:=bG cC;cases this;obtain⟨tl,tg⟩:=CA jn;have fk:=tg 0 _ y1 (cA (by rw[tl];exact Nat.one_pos)) rfl;have gl:=q2 (nr P w I β hp u1) (fun _ _ h=>.inl h) (fun p hp b j h=>.inr ⟨p,hp,h⟩);have ho:=gl.pure fk;have afX:v.cells= #[v]:=by cases ho<;>rfl
      rw[afX];refine⟨rfl,fun j u y hu hy=>?_⟩;cases j with
      |zero=>simp at hu hy;subst hu;subst hy;exact hv
      |succ j=>simp at hy
    obtain⟨k1,k2,k3⟩:=Wl S.h.rel cC (vs:=v.cells.toList) (by simpa using ua.1) ua.2;obtain⟨wK,S1⟩:=IJ S k2;have vn:cY hp fr id=some (.arr e es false):=by
     rcases Cr (hp:=hp) (l:=fr) (id:=id)with h|⟨b',hm,_⟩
     .exact h.trans ae
     .exfalso;have wO:kL (fr.map (·.1)) id=true:=Fg (lh.2 ⟨_,hm,rfl⟩);rw[wO]at ja;cases ja
    have afY:=k3 (nr P w I β hp fr) (fun _ _ h=>.inl h) (fun p hp b j h=>.inr ⟨p,hp,h⟩);obtain⟨tl,tg⟩:=CA jn;have jG:=(qy av).1;have AO:ys.length=v.cells.size:=by rw[k1,ua.1]
    have hcn:c+v.cells.size<=P.cellsOf e:=by rw[ua.1];exact hc3
    have hr:=S1.h.rel id _ vn;cases hr with
    |gk aI=>simp at ow
    |@arr _ _ _ _ b' Ca hL Wt aI hh hs hf iS hx=>
     rw[hb]at aI;cases aI;have o9:i<es.length:=(dw.1 ow).1;have hbound:i*P.cellsOf e+P.cellsOf e<=Ca.size:=by
      have:(i+1)*P.cellsOf e<=es.length*P.cellsOf e:=fE _ o9;rw[nf]at this;omega
     simp only[ah.sz];have AI:i*P.cellsOf e+c+v.cells.size<=Ca.size:=zO;have ep:∀j,¬nr P w I β hp fr b j:=iS rfl;have h1:∀u∈v.cells.toList,u.oneCell'=true:=by
      intro u hu;obtain⟨j,hj⟩:=wh hu;have eX:j<ys.length:=by rw[AO];simpa using(dw.1 hj).1
      have sR:j<(((flat P e).drop c).take x.cells.length).length:=by rw[tl];exact eX
      exact(afY j u ys[j] hj (cA eX)).one (tg j _ ys[j] (cA sR) (cA eX))
     have dS:=Qa (t:=t) (o:=i*P.cellsOf e+c) (v:=v) ht (by rw[ua.1];exact hn.symm) hh AI h1;have hlen:(Ca.toList.take (i*P.cellsOf e+c)++(v.cells.toList++Ca.toList.drop (i*P.cellsOf e+c+v.cells.toList.length))).length=Ca.size:=by
      rw[IQ _ _ _ (by simpa using AI)];simp
     have gl:(parts P e x0).length=P.cellsOf e:=by rw[AH];exact gE av
     have IS:=Wv S1 (blk':=.arr e (es.set i (dW P e (jP (parts P e x0) c ys))) false)
      (Cb:=(Ca.toList.take (i*P.cellsOf e+c)++(v.cells.toList++Ca.toList.drop (i*P.cellsOf e+c+v.cells.toList.length))).toArray) vn zS ⟨rfl,zS⟩ hb ep zS hh (by simpa using hlen)
      (fun hle eQ=>.arr (by rw[wg,hlen];exact hL) av rfl eQ (by simp only[wg,yo];omega) (fun h=>by cases h) (fun _=>ep) fun i' j z t' hz sR hj=>by
       simp only[tI];rw[sO _ _ _ _ (by simpa using AI)];simp only[Array.length_toList];rw[yp]at hz;by_cases pc:i=i'
       .subst pc;rw[ai rfl,ai o9]at hz;cases hz;have Qm:j<(parts P e x0).length:=zO;have CF:(jP (parts P e x0) c ys)[j]?=if j<c then(parts P e x0)[j]?else if j<c+ys.length then ys[j-c]?else(parts P e x0)[j]?:=by
         unfold jP;exact sO _ _ _ _ zO
        by_cases yO:j<c
        .rw[aU];rw[ai yO]at CF;obtain⟨u,t2,a1,a2,a3⟩:=IN hx av ow (cA Qm);rw[sR]at a1;cases a1;refine⟨u,by simpa using a2,?_⟩;rw[yP (CF.trans (cA Qm)) sR];exact a3.mono hle.fT hle.dH
        .rw[af yO]at CF;by_cases gm:j<c+ys.length
         .rw[ai gm]at CF;rw[cl,aU];have wP:j-c<ys.length:=zO;have hjv:j-c<v.cells.toList.length:=by simp;omega
          have aJJ:j-c<v.cells.size:=zO;refine⟨v.cells.toList[j-c],?_,?_⟩
          .rw[show i*P.cellsOf e+j-(i*P.cellsOf e+c)=j-c by omega];exact cA hjv
          .rw[yP (CF.trans (cA wP)) sR];have hft:(((flat P e).drop c).take x.cells.length)[j-c]?=some t':=by
            rw[mf zO,uW,show c+(j-c)=j by omega,<-vh];exact sR
           exact((afY (j-c) _ ys[j-c] (cA hjv) (cA wP)).pure (tg (j-c) t' ys[j-c] hft (cA wP))).mono hle.fT hle.dH
         .rw[af gm]at CF;rw[cl,cl];obtain⟨u,t2,a1,a2,a3⟩:=IN hx av ow (cA Qm);rw[sR]at a1;cases a1;refine⟨u,by simpa using a2,?_⟩;rw[yP (CF.trans (cA Qm)) sR];exact a3.mono hle.fT hle.dH
       .rw[af pc]at hz;obtain⟨u,a2,a3⟩:=hx i' j z t' hz sR hj;have cw:i'*P.cellsOf e+j<i*P.cellsOf e+c∨i*P.cellsOf e+c+v.cells.size<=i'*P.cellsOf e+j:=by
         rcases iQ i' i with bt|ub
         .left;have:(i'+1)*P.cellsOf e<=i*P.cellsOf e:=fE _ bt;rw[nf]at this;omega
         .right;have:(i+1)*P.cellsOf e<=i'*P.cellsOf e:=fE _ zO;rw[nf]at this;omega
        refine⟨u,?_,a3.mono hle.fT hle.dH⟩;rcases cw with cw|cw
        .rw[ai cw];simpa using a2
        .rw[cl,cl];simpa using a2)
     exact⟨_,_,_,dS,wK.trans IS.1,IS.2,rfl⟩
   |map _ _=>cases h
   |out e es vers j=>
    obtain⟨b,hb,rfl⟩:=ha.ov ae zS;unfold afl at h;obtain⟨hc,h5⟩:=aX h;clear h;simp only[aZ,bK]at hc;obtain⟨rfl,rfl⟩:=hc;cases hr:rowOf P e with
    |none=>simp only[hr]at h5;cases h5
    |some e1=>
     simp only[hr]at h5;cases x with
     |whole e3 ca=>
      obtain⟨l1,h6⟩:=run_get h5;cases dY:hp ca with
      |none=>rw[dY]at h6;cases h6
      |some dq=>
       rw[dY]at h6;cases dq with
       |arr e4 cF fz=>
        cases fz with
        |true=>cases h6
        |false=>
         obtain⟨hc,h7⟩:=aX h6;obtain rfl:=bG h7;simp only[aZ,bK,ng]at hc;obtain⟨rfl,rfl,cw⟩:=hc;exact arO S hr ae hb ht hn.symm dY (fun e=>by rw[e,oT]at cw;cases cw) hv
       |_=>cases h6
     |_=>cases h5
   |nest e es vers=>
    obtain⟨b,hb,rfl⟩:=ha.ov ae zS;exact afT S ht hn hv ae hb .here h
 |eJ id ver path i c=>
  obtain⟨e0,es,vers,l,ae,h1,h2,h3,h⟩:=tT h;obtain⟨b,b1,e1,l1,hb,kR,rfl⟩:=ha.afv ae h1 h2 h3;exact afT S ht hn hv ae hb kR h
 |_=>cases h
end
section
variable {P:Program}{w w':World}{I I':Nat->Nat->Prop}{β β':Nat->Option Nat}{hp hp':Nat->Option ah}{C:ab}{B:Nat}{M:Nat->Prop}{w0:Start}
theorem Qn:∀{ts:List TypeId}{vs:List Value}{j:Nat}{y:V},(lJ P ts vs)[j]?=some y->∃t v,ts[j]?=some t∧vs[j]?=some v∧y=tN P t v
 |[],vs,j,y,h=>by simp[lJ]at h
 |_::_,[],j,y,h=>by simp[lJ]at h
 |t::ts,v::vs,0,y,h=>by simp[lJ]at h;grind
 |t::ts,v::vs,j+1,y,h=>by
  simp only[lJ,List.getElem?_cons_succ]at h;obtain⟨t',v',a,b,c⟩:=Qn h;grind
theorem afZ:∀{ts:List TypeId}{vs:List Value},ts.length=vs.length->(lJ P ts vs).length=vs.length
 |[],[],_=>rfl
 |[],_::_,h=>by simp at h
 |_::_,[],h=>by simp at h
 |t::ts,v::vs,h=>by simp[lJ,afZ (ts:=ts) (vs:=vs) zG]
theorem ox{e:TypeId}(h:dU P e=true):∃i z,P.info? e=some i∧i.zero=some z∧i.size=P.cellsOf e∧z.cells.size=P.cellsOf e∧zeroCells P e=lJ P (flat P e) z.cells.toList:=by
 unfold dU at h;simp only[aZ,bK,rb]at h;obtain⟨h1,h2,_,h3⟩:=h;cases hi:P.info? e with
 |none=>grind
 |some i=>
  rw[hi]at h3;simp only[Option.bind_some]at h3;cases hz:i.zero with
  |none=>grind
  |some z=>
   rw[hz]at h3;simp only[bK]at h3;exact⟨i,z,rfl,hz,by simp[Program.cellsOf,hi],h3,by simp[zeroCells,hi,hz]⟩
theorem af0{e:TypeId}(h:dU P e=true):∃i z,P.info? e=some i∧i.zero=some z∧z.cells.size=(zeroCells P e).length∧z.cells.size=P.cellsOf e∧
  ∀(j:Nat) v x,z.cells[j]?=some v->(zeroCells P e)[j]?=some x->ak P w I β hp v x:=by
 obtain⟨i,z,h1,h2,h3,h4,h5⟩:=ox h;have hl:(flat P e).length=z.cells.toList.length:=by rw[(qy h).1];grind
 refine⟨i,z,h1,h2,?_,h4,fun j v x hv hx=>?_⟩
 .rw[h5,afZ hl];simp
 .rw[h5]at hx;obtain⟨t,v',_,yV,rfl⟩:=Qn hx;have:v'=v:=by
   grind
  subst this;exact ak.const t v'
theorem oy{nb:Nat}{b:ah}{v:V}{upd:List (Nat×ah)}{r:R}{rd:LN}(h:(kM nb b v upd).run C hp=some (r,rd)):hp nb=none∧r=⟨v,(nb,b)::upd⟩:=by
 obtain⟨l,h⟩:=run_get h;cases hn:hp nb with
 |none=>rw[hn]at h;exact⟨rfl,(bG h).symm⟩
 |some x=>rw[hn]at h;cases h
theorem af1(S:aK P w I β hp B M w0){nb:Nat}{xs:LV}{C0:Array Value}{T:TypeId}(hn:hp nb=none)(hs:C0.size=xs.length)
  (hx:∀(j:Nat) v x,C0[j]?=some v->xs[j]?=some x->ak P w I β hp v x) (nn:afq P w.heap.size T C0):
  Le P w I β hp (w.alloc (.cells C0 T)) I (aw β nb (some w.heap.size)) (aw hp nb (some (.var T xs)))∧aK P (w.alloc (.cells C0 T)) I (aw β nb (some w.heap.size)) (aw hp nb (some (.var T xs))) B M w0∧
  ak P (w.alloc (.cells C0 T)) I (aw β nb (some w.heap.size)) (aw hp nb (some (.var T xs))) (.pointer (some ⟨w.heap.size,0,none⟩)) (.ptr nb 0 0):=by
 obtain⟨h1,h2⟩:=Wp S (blk:=.var T xs) (c:=C0) (T:=T) hn (fun b' h=>(ee (h.flat zS)).symm) (fun hle eQ ep=>.var rfl eQ hs ep (fun j v x a b=>(hx j v x a b).mono hle) nn);refine⟨h1,h2,?_⟩;have:=ak.ptr (P:=P) (w:=w.alloc (.cells C0 T)) (I:=I) (β:=aw β nb (some w.heap.size)) (hp:=aw hp nb (some (.var T xs))) (i:=0) (c:=0) (blk:=.var T xs) (cB _ _ _) zS (cB _ _ _);grind
theorem af2(S:aK P w I β hp B M w0){e:TypeId}{nb:Nat}{r:R}{rd:LN}
  (h:(Rd.aQ (dU P e&&(!(Ao P e)||afk (zeroCells P e))) (kM nb (.var e (zeroCells P e)) (.ptr nb 0 0) [])).run C hp=some (r,rd)):eP P ((Instr.alloc e true (.tuple #[])).run P w) w I β hp B M w0 r:=by
 obtain⟨av,h⟩:=aX h;rw[aZ]at av;obtain⟨av,vm⟩:=av;obtain⟨hn,rfl⟩:=oy h;obtain⟨i,z,h1,h2,h3,h4,h5⟩:=af0 (w:=w) (I:=I) (β:=β) (hp:=hp) av;obtain⟨a,b,c⟩:=af1 S (T:=e) hn h3 h5 fun cv=>by
  rw[cv,BX,EM]at vm;cases hz:zeroCells P e with
  |nil=>rw[hz]at vm;cases vm
  |cons y l=>
   rw[hz]at vm h3 h5;cases y<;>first|(cases vm;done)|skip
   have bt:0<z.cells.size:=zG;have:=h5 0 z.cells[0] .im (nh bt) rfl;left;rw[nh bt];generalize z.cells[0]=u at this;cases this;rfl
 exact⟨_,_,_,_,by simp[Instr.alloc,zeroValue,typeInfo,h1,h2,newVar,newRow],a,b,c⟩
theorem arR(S:aK P w I β hp B M w0){e:TypeId}{nb:Nat}{x:V}{v:Value}{r:R}{rd:LN}(hv:ak P w I β hp v x)
  (h:(Rd.aQ (!(Ao P e))<| rm x.cells (kM nb (.var e x.cells) (.ptr nb 0 0) [])).run C hp=some (r,rd)):eP P ((Instr.box e v).run P w) w I β hp B M w0 r:=by
 obtain⟨vm,h⟩:=aX h;obtain⟨e1,e2⟩:=Wu hv h;obtain⟨_,l,h⟩:=P9 h (vs:=v.cells.toList) zO (fun j u y a b=>e2 j u y zG b);obtain⟨hn,rfl⟩:=oy h;obtain⟨a,b,c⟩:=af1 S (T:=e) hn e1 e2 fun cv=>zG;exact⟨_,_,_,_,by simp[Instr.box,newVar,newRow],a,b,c⟩
theorem foldl_set(off:Nat):∀(vs:List Value) (k:Nat) (cs:Array Value) (i:Nat),off+k+vs.length<=cs.size->
  ((vs.zipIdx k).foldl (fun cs p=>cs.setIfInBounds (off+p.2) p.1) cs)[i]?=if i<off+k then cs[i]?else if i<off+k+vs.length then vs[i-(off+k)]?else cs[i]?
 |[],k,cs,i,h=>by simp_all
 |v::vs,k,cs,i,h=>by
  simp only[List.zipIdx_cons,List.foldl_cons];simp only[List.length_cons]at h⊢;rw[foldl_set off vs (k+1) _ i (by simp;omega)];grind
theorem af3(off:Nat):∀(vs:List Value) (k:Nat) (cs:Array Value),((vs.zipIdx k).foldl (fun cs p=>cs.setIfInBounds (off+p.2) p.1) cs).size=cs.size
 |[],k,cs=>rfl
 |v::vs,k,cs=>by
  simp only[List.zipIdx_cons,List.foldl_cons];rw[af3 off vs (k+1)];simp
theorem af4{cells:Array Value}{off:Nat}{v:Value}(h:off+v.cells.size<=cells.size)(i:Nat):
  (v.cells.zipIdx.foldl (fun cs (p:Value×Nat)=>cs.setIfInBounds (off+p.2) p.1) cells)[i]?=if i<off then cells[i]?else if i<off+v.cells.size then v.cells[i-off]?else cells[i]?:=by
 have:=foldl_set off v.cells.toList 0 cells i zO;rw[<-O9];grind
theorem af5{cells:Array Value}{off:Nat}{v:Value}:(v.cells.zipIdx.foldl (fun cs (p:Value×Nat)=>cs.setIfInBounds (off+p.2) p.1) cells).size=cells.size:=by
 have:=af3 off v.cells.toList 0 cells;rw[<-O9];grind
inductive Fl(P:Program)(w:World)(I:Nat->Nat->Prop)(β:Nat->Option Nat)(hp:Nat->Option ah):List (Nat×Value)->List (Nat×V)->Prop
 |nil:Fl P w I β hp [] []
 |cons {i:Nat}{v:Value}{x:V}{vs:List (Nat×Value)}{xs:List (Nat×V)}:v.cells.size=x.cells.length->(∀(j:Nat) u y,v.cells[j]?=some u->x.cells[j]?=some y->ak P w I β hp u y)->
   Fl P w I β hp vs xs->Fl P w I β hp ((i,v)::vs) ((i,x)::xs)
theorem af6(place:Nat->Option (Nat×Nat)):∀{vs:List (Nat×Value)}{px:List (Nat×V)}{cells:Array Value}{xs ys:LV},Fl P w I β hp vs px->cells.size=xs.length->
  (∀(j:Nat) v x,cells[j]?=some v->xs[j]?=some x->ak P w I β hp v x)->Ce place xs px=some ys->
  ∃wQ:Array Value,Instr.fill place cells vs=some wQ∧wQ.size=ys.length∧∀(j:Nat) v x,wQ[j]?=some v->ys[j]?=some x->ak P w I β hp v x
 |_,_,cells,xs,ys,.nil,hs,hx,h=>by
  simp only[Ce,gi]at h;subst h;exact⟨cells,by simp[Instr.fill],hs,hx⟩
 |_,_,cells,xs,ys,@Fl.cons _ _ _ _ _ i v x vs px h1 h2 h3,hs,hx,h=>by
  simp only[Ce]at h;cases gl:place i with
  |none=>grind
  |some os=>
   obtain⟨off,size⟩:=os;rw[gl]at h;simp only at h;cases hc:(Nat.beq x.cells.length size&&Nat.ble (off+size) xs.length)with
   |false=>grind
   |true=>
    rw[hc]at h;simp only[cond_true]at h;simp only[aZ,bK,gg]at hc;have hv:off+v.cells.size<=cells.size:=zO;have hb:off+x.cells.length<=xs.length:=zO;have hl:(jP xs off x.cells).length=xs.length:=IQ _ _ _ hb;obtain⟨wQ,f1,f2,f3⟩:=af6 place (cells:=v.cells.zipIdx.foldl (fun cs (p:Value×Nat)=>cs.setIfInBounds (off+p.2) p.1) cells) (xs:=jP xs off x.cells) h3 (by rw[af5,hl,hs])
     (fun j u y hu hy=>by
      rw[af4 hv]at hu;unfold jP at hy;grind) h
    refine⟨wQ,?_,f2,f3⟩;simp only[Instr.fill,gl];grind
theorem arS{t:TypeId}{parts:Array (Nat×Value)}{cells:Array Value}{z:Value}{i:TypeInfo}(hi:P.info? t=some i)(hz:i.zero=some z)(h:Instr.fill (placeOf P t) z.cells parts.toList=some cells)(ha:cP P t=true)
  (gl:∀fs,P.underlying t=some (.struct fs)->(fs.toList.mapM fun f=>(P.info? f.type).map fun i=>(f.offset,i.size)).isSome=true) (yW:∀n e,P.underlying t=some (.array n e)->(P.info? e).isSome=true):
  (Instr.build t parts).run P w=.ok (.agg cells) w:=by
 refine run_build w t parts cells ?_;unfold Program.built;unfold cP at ha;rw[hi];split at ha
 .rename_i fs hu;have:=gl fs hu;cases hm:fs.toList.mapM fun f=>(P.info? f.type).map fun i=>(f.offset,i.size)with
  |none=>grind
  |some places=>
   simp only[hu,hz,hm];have hq:placeOf P t=fun i=>places[i]?:=by simp[placeOf,hu,hm]
   simp_all
 .rename_i n e hu;have:=yW n e hu;cases pd:P.info? e with
  |none=>grind
  |some ie=>
   simp only[hu,hz,pd];have hq:placeOf P t=fun i=>some (i*ie.size,ie.size):=by simp[placeOf,hu,pd]
   grind
 .cases ha
theorem af7{α:Type}:∀(xs ys:LV) (k:Rd α),rm (xs++ys) k=rm xs (rm ys k)
 |[],_,_=>rfl
 |x::xs,ys,k=>by simp only[List.cons_append,rm,af7 xs ys k]
theorem af8{a:Act}{sl:Nat->V}(hs:qw P w I β hp a sl){G:Nat->V}(hg:lP P G w I)(t:TypeId){α:Type}:∀{l:List (Nat×Operand)}{k:Rd α}{r:α}{rd:LN},
  (rm ((l.map fun p=>(bO P G t sl p.2).cells).flatten) k).run C hp=some (r,rd)->
  Fl P w I β hp (l.map fun p=>(p.1,a.eval p.2)) (l.map fun p=>(p.1,bO P G t sl p.2))∧∃jb,k.run C hp=some (r,jb)
 |[],k,r,rd,h=>⟨.nil,rd,h⟩
 |(i,x)::l,k,r,rd,h=>by
  simp only[iB,List.flatten_cons,af7]at h;obtain⟨e1,e2⟩:=Wu (hs.ev hg t x) h;obtain⟨_,l1,h⟩:=P9 h (vs:=(a.eval x).cells.toList) zO (fun j u y a b=>e2 j u y zG b);obtain⟨h1,h2⟩:=af8 hs hg t h;exact⟨.cons e1 e2 h1,h2⟩
theorem arT(S:aK P w I β hp B M w0){a:Act}{sl:Nat->V}(hs:qw P w I β hp a sl){G:Nat->V}(hg:lP P G w I){t ty:TypeId}{ps:Array (Nat×Operand)}{r:R}{rd:LN}
  (h:(Rd.aQ (dU P t&&(cP P t&&PF P t)) (rm ((ps.toList.map fun p=>(bO P G ty sl p.2).cells).flatten)
   (E1 (Ce (placeOf P t) (zeroCells P t) (ps.toList.map fun p=>(p.1,bO P G ty sl p.2))) fun cs=>.ret ⟨.agg cs,[]⟩))).run C hp=some (r,rd)):
  eP P ((Instr.build t (ps.map fun(i,x)=>(i,a.eval x))).run P w) w I β hp B M w0 r:=by
 obtain⟨av,h⟩:=aX h;simp only[aZ]at av;obtain⟨h1,l,h⟩:=af8 hs hg ty h;cases hf:Ce (placeOf P t) (zeroCells P t) (ps.toList.map fun p=>(p.1,bO P G ty sl p.2))with
 |none=>rw[hf]at h;cases h
 |some cs=>
  rw[hf]at h;obtain rfl:=bG h;obtain⟨i,z,hi,hz,h3,h4,h5⟩:=af0 (w:=w) (I:=I) (β:=β) (hp:=hp) av.1;obtain⟨cells,f1,f2,f3⟩:=af6 (placeOf P t) h1 h3 h5 hf;have hpo:=av.2.2;refine .same S (v:=.agg cells) (arS hi hz (by simp_all) av.2.1 (fun fs hu=>?_) (fun n e hu=>?_)) (.agg f2 f3)
  .simpa[PF,hu]using hpo
  .simpa[PF,hu]using hpo
theorem arU(dF:∀id blk,hp id=some blk->gj P w I β hp (β id) blk){x:V}{v:Value}{ys:LV}{fr:List (Nat×ah)}{rd:LN}{ts:List TypeId}(hv:ak P w I β hp v x)
  (h:(yx P x.cells).run C hp=some ((ys,fr),rd)) (ht:uZ P ts ys=true):
  v.cells.size=x.cells.length∧∀(j:Nat) u y,v.cells.toList[j]?=some u->x.cells[j]?=some y->ak P w I β hp u y:=by
 cases x with
 |agg xs=>
  obtain⟨cs,rfl,h1,h2⟩:=hv.o6;exact⟨h1,fun j u y a b=>h2 j u y (by simpa[Value.cells]using a) b⟩
 |_=>
  simp only[V.cells]at h⊢;simp only[yx]at h;obtain⟨⟨y1,u1⟩,l3,l4,hq,h⟩:=qx h;obtain⟨q1,q2⟩:=P0 dF hq hv;obtain⟨⟨y2,u2⟩,l5,l6,wM,h⟩:=qx h;cases wM;have:=bG h;cases this;obtain⟨tl,tg⟩:=CA ht;have fk:=tg 0 _ y1 (cA zG) rfl;have gl:=q2 (nr P w I β hp u1) (fun _ _ h=>.inl h) (fun p hp b j h=>.inr ⟨p,hp,h⟩);have ho:=gl.pure fk;have afX:v.cells= #[v]:=by cases ho<;>rfl
  grind
def Fm(P:Program)(w:World)(I:Nat->Nat->Prop)(e:TypeId)(cells:Array Value)(es:LV):Prop:=
 cells.size=es.length*P.cellsOf e∧∀(i j:Nat) (x:V) (t':TypeId),es[i]?=some x->(bA P e)[j]?=some t'->j<P.cellsOf e->∃v,cells[i*P.cellsOf e+j]?=some v∧Pure P w I t' v (cT P e x j)
theorem Fm.set{e:TypeId}{cells:Array Value}{es ys:LV}{i:Nat}{v:Value}(h:Fm P w I e cells es)(hi:i<es.length)(hv:v.cells.size=P.cellsOf e)(hy:ys.length=P.cellsOf e)
  (hr:∀(j:Nat) (t':TypeId) (u:Value) (y:V),(bA P e)[j]?=some t'->v.cells[j]?=some u->ys[j]?=some y->Pure P w I t' u y):
  Fm P w I e (v.cells.zipIdx.foldl (fun cs (p:Value×Nat)=>cs.setIfInBounds (i*P.cellsOf e+p.2) p.1) cells) (es.set i (dW P e ys)):=by
 obtain⟨h1,h2⟩:=h;have hb:i*P.cellsOf e+v.cells.size<=cells.size:=by
  have:(i+1)*P.cellsOf e<=es.length*P.cellsOf e:=fE _ hi;grind
 refine⟨by rw[af5,yo,h1],fun i' j x t' hx ht hj=>?_⟩;rw[af4 hb];rw[yp]at hx;by_cases pc:i=i'
 .subst pc;rw[ai rfl,ai hi]at hx;cases hx;rw[cl,aU,show i*P.cellsOf e+j-i*P.cellsOf e=j by omega];have h3:j<v.cells.size:=zO;have h4:j<ys.length:=zO;refine⟨v.cells[j],nh h3,?_⟩;rw[yP (cA h4) ht];exact hr j t' _ _ ht (nh h3) (cA h4)
 .rw[af pc]at hx;have cw:i'*P.cellsOf e+j<i*P.cellsOf e∨i*P.cellsOf e+v.cells.size<=i'*P.cellsOf e+j:=by
   rcases iQ i' i with bt|ub
   .left;have:(i'+1)*P.cellsOf e<=i*P.cellsOf e:=fE _ bt;grind
   .right;have:(i+1)*P.cellsOf e<=i'*P.cellsOf e:=fE _ zO;grind
  grind
theorem af9{t':TypeId}{v:Value}(fk:fR P t' (sF (tN P t' v))=true):Pure P w I t' v (sF (tN P t' v)):=by
 have hc:=ak.const (P:=P) (w:=w) (I:=I) (β:=fun _=>none) (hp:=fun _=>none) t' v;cases CG:tN P t' v<;>rw[CG]at fk hc<;>simp only[sF]at fk⊢
 case int k n=>rw[hc.jo];exact Plain.pure (v:=.int k n) (y:=.int k n) rfl fk
 case bool b=>rw[hc.o5];exact Plain.pure (v:=.bool b) (y:=.bool b) rfl fk
 case str l=>obtain⟨s,e1,e2⟩:=hc.rD;rw[e1];exact Plain.pure (v:=.string s) (y:=.str l) ⟨s,rfl,e2⟩ fk
 case nilS e'=>
  cases hc;exact Plain.pure (y:=.list e' []) (nk.any fun _=>rfl) fk
 case list e' es=>
  cases hc with
  |list hp=>exact Plain.pure (y:=.list e' es) hp fk
 all_goals (unfold fR at fk;grind)
theorem aga{t':TypeId}{v:Value}(fk:fR P t' (sF (tN P t' v))=true):∀a n c,v=.slice a n c->c=0:=by
 intro a n c hv;subst hv;unfold tN at fk;split at fk<;>first|(rename_i h;cases h;rfl)|skip
 all_goals first|(simp_all;done)|(unfold fR sF at fk;split at fk<;>simp_all)
theorem I4{e:TypeId}(h:rj P e=true):∃i z,P.info? e=some i∧i.zero=some z∧i.size=P.cellsOf e∧z.cells.size=P.cellsOf e∧
  ∀(j:Nat) (t':TypeId),(bA P e)[j]?=some t'->j<P.cellsOf e->∃v,z.cells[j]?=some v∧Pure P w I t' v (cT P e (dW P e (km P e)) j)∧∀a n c,v=.slice a n c->c=0:=by
 unfold rj at h;simp only[aZ]at h;obtain⟨i,z,h1,h2,h3,h4,h5⟩:=ox h.1;refine⟨i,z,h1,h2,h3,h4,fun j t' ht hj=>?_⟩;obtain⟨tl,tg⟩:=CA h.2;have eX:j<(km P e).length:=by rw[<-tl,(qy h.1).1];exact hj
 have hz:=cA eX;have fk:=tg j t' _ (by rw[<-vh];exact ht) hz;refine⟨z.cells[j],nh zO,?_⟩;rw[yP hz ht];have CH:(km P e)[j]=sF (tN P t' z.cells[j]):=by
  have:(km P e)[j]?=((zeroCells P e)[j]?).map sF:=by simp[km]
  rw[hz]at this;cases hc:(zeroCells P e)[j]? with
  |none=>grind
  |some y=>
   rw[hc]at this;simp only[Option.map_some,gi]at this;rw[h5]at hc;obtain⟨t2,v2,a1,a2,rfl⟩:=Qn hc;have Qo:t2=t':=by
    rw[<-vh,ht]at a1;grind
   grind
 rw[CH]at fk⊢;exact⟨af9 fk,aga fk⟩
end
section
variable {P:Program}{w w':World}{I I':Nat->Nat->Prop}{β β':Nat->Option Nat}{hp hp':Nat->Option ah}{C:ab}{B:Nat}{M:Nat->Prop}{w0:Start}
theorem agb(S:aK P w I β hp B M w0){nb cap:Nat}{fz:Bool}{e T:TypeId}{es:LV}{C0:Array Value}(av:dU P e=true)(hn:hp nb=none)(hs:C0.size=cap*P.cellsOf e)(hl:es.length<=cap)(hm:cap<=maxLen)(hL:ve P T e C0.size)
  (hx:∀(i j:Nat) (x:V) (t':TypeId),es[i]?=some x->(bA P e)[j]?=some t'->j<P.cellsOf e->∃v,C0[i*P.cellsOf e+j]?=some v∧Pure P w I t' v (cT P e x j)):
  Le P w I β hp (w.alloc (.cells C0 T)) I (aw β nb (some w.heap.size)) (aw hp nb (some (.arr e es fz)))∧aK P (w.alloc (.cells C0 T)) I (aw β nb (some w.heap.size)) (aw hp nb (some (.arr e es fz))) B M w0∧
  ak P (w.alloc (.cells C0 T)) I (aw β nb (some w.heap.size)) (aw hp nb (some (.arr e es fz))) (.slice (some ⟨w.heap.size,0,none⟩) es.length cap) (.whole e nb):=by
 obtain⟨h1,h2⟩:=Wp S (blk:=.arr e es fz) (c:=C0) (T:=T) hn (fun b' h=>(ee (h.flat zS)).symm) (fun hle eQ ep=>.arr hL av rfl eQ (by rw[hs];exact fE _ hl) (fun _ j h=>absurd h (ep j)) (fun _=>ep) fun i j x t' a b c=>by
  obtain⟨v,hv,hp⟩:=hx i j x t' a b c;exact⟨v,hv,hp.mono hle.fT hle.dH⟩)
 refine⟨h1,h2,.whole (cB _ _ _) (cB _ _ _) ?_ hl hm⟩;rw[ou (heap_alloc_new w (.cells C0 T)),hs]
theorem Fo(S:aK P w I β hp B M w0){nb cap:Nat}{fz:Bool}{e:TypeId}{es:LV}{C0:Array Value}(av:dU P e=true)(hn:hp nb=none)(hs:C0.size=cap*P.cellsOf e)(hl:es.length<=cap)(hm:cap<=maxLen)
  (hx:∀(i j:Nat) (x:V) (t':TypeId),es[i]?=some x->(bA P e)[j]?=some t'->j<P.cellsOf e->∃v,C0[i*P.cellsOf e+j]?=some v∧Pure P w I t' v (cT P e x j)):
  Le P w I β hp (w.alloc (.cells C0 e)) I (aw β nb (some w.heap.size)) (aw hp nb (some (.arr e es fz)))∧aK P (w.alloc (.cells C0 e)) I (aw β nb (some w.heap.size)) (aw hp nb (some (.arr e es fz))) B M w0∧
  ak P (w.alloc (.cells C0 e)) I (aw β nb (some w.heap.size)) (aw hp nb (some (.arr e es fz))) (.slice (some ⟨w.heap.size,0,none⟩) es.length cap) (.whole e nb):=
 agb S av hn hs hl hm ve.self hx
theorem agc{b n:Nat}{Ca C':Array Value}{T T':TypeId}{f f':Nat×Nat}(hh:w.heap[b]?=some (.cells Ca T f))(Cs:w'.heap[b]?=some (.cells C' T' f'))(hI:∀j,I b j->j<n)(hp:∀j,j<n->C'[j]?=Ca[j]?)(j:Nat)(h:I b j):
  w'.cell? ⟨b,j,none⟩=w.cell? ⟨b,j,none⟩:=by
 rw[cell?_cells hh,cell?_cells Cs];grind
theorem WS{b n:Nat}{fz:Bool}(hf:fz=true->∀j,I b j->j<n)(iS:fz=false->∀j,¬I b j):∀j,I b j->j<n:=by
 intro j h;cases fz with
 |true=>grind
 |false=>grind
theorem At.only{b b':Nat}{e e' T:TypeId}{es bm:LV}{q:Path}{Ca:Array Value}{f:Nat×Nat}(hh:w.heap[b]?=some (.cells Ca T f))(hz:∀(i j:Nat) x t' v,es[i]?=some x->(bA P e)[j]?=some t'->Ca[i*P.cellsOf e+j]?=some v->∀a n c,v=.slice a n c->c=0)
  (h:At P w b e es q b' e' bm):q=[]∧b'=b∧e'=e∧bm=es:=by
 cases h with
 |here=>grind
 |step h1 h2 h3 h4 h5 h6 h7=>grind
theorem ry.vf{t:TypeId}{v:Value}{x:V}(h:Pure P w I t v x)(hc:∀a n c,v=.slice a n c->c=0):ry P w I t v x:=by
 cases h with
 |int h=>exact .iI (by unfold fh;rw[h]) (.int h)
 |bool h=>exact .iI (by unfold fh;rw[h]) (.bool h)
 |str h hl=>exact .iI (by unfold fh;rw[h]) (.str h hl)
 |nil h=>exact .emp h
 |emp h=>have:=hc _ _ _ rfl;subst this;exact .emp h
 |list g hu hl hle _ _ _=>
  have:=hc _ _ _ rfl;subst this;obtain rfl:=Nat.le_zero.1 hle;obtain rfl:=yl.1 hl;exact .emp hu
theorem agd(S:aK P w I β hp B M w0){nb cap:Nat}{e T:TypeId}{es:LV}{C0:Array Value}(av:dU P e=true)(hn:hp nb=none)(hs:C0.size=cap*P.cellsOf e)(hl:es.length<=cap)(hm:cap<=maxLen)(hL:ve P T e C0.size)
  (hx:∀(i j:Nat) (x:V) (t':TypeId),es[i]?=some x->(bA P e)[j]?=some t'->j<P.cellsOf e->∃v,C0[i*P.cellsOf e+j]?=some v∧Pure P w I t' v (cT P e x j)∧∀a n c,v=.slice a n c->c=0):
  Le P w I β hp (w.alloc (.cells C0 T)) I (aw β nb (some w.heap.size)) (aw hp nb (some (.nest e es [0,0,0])))∧aK P (w.alloc (.cells C0 T)) I (aw β nb (some w.heap.size)) (aw hp nb (some (.nest e es [0,0,0]))) B M w0∧
  ak P (w.alloc (.cells C0 T)) I (aw β nb (some w.heap.size)) (aw hp nb (some (.nest e es [0,0,0]))) (.slice (some ⟨w.heap.size,0,none⟩) es.length cap) (.whole e nb):=by
 have hz:∀(i j:Nat) x t' v,es[i]?=some x->(bA P e)[j]?=some t'->C0[i*P.cellsOf e+j]?=some v->∀a n c,v=.slice a n c->c=0:=fun i j x t' v a b h=>by
  obtain⟨v',h1,_,h3⟩:=hx i j x t' a b (by rw[<-gE av];grind);grind
 obtain⟨h1,h2⟩:=Wp S (blk:=.nest e es [0,0,0]) (c:=C0) (T:=T) hn (fun b' h=>by
   cases h with
   |root _ h=>grind
   |row h ha=>cases h;exact(At.only (heap_alloc_new w _) hz ha).2.1)
  (fun hle eQ ep=>.nest rfl (fun q b' e' bm ha=>by
   obtain⟨rfl,rfl,rfl,rfl⟩:=At.only eQ hz ha;refine⟨av,⟨C0,_,eQ,hL,by rw[hs];exact fE _ hl,fun i j x t' a b c=>?_⟩,ep⟩;obtain⟨v,hv,hp⟩:=hx i j x t' a b c;exact⟨v,hv,.vf (hp.1.mono hle.fT hle.dH) hp.2⟩)
   fun q1 q2 b' e1 dX e2 cF a1 a2=>(At.only eQ hz a1).1.trans (At.only eQ hz a2).1.symm)
 refine⟨h1,h2,.fq (cB _ _ _) (cB _ _ _) ?_ hl hm⟩;rw[ou (heap_alloc_new w (.cells C0 T)),hs]
theorem arV(S:aK P w I β hp B M w0){nb cap:Nat}{e:TypeId}{es:LV}{C0:Array Value}(av:dU P e=true)(hn:hp nb=none)(hs:C0.size=cap*P.cellsOf e)(hl:es.length<=cap)(hm:cap<=maxLen)
  (hx:∀(i j:Nat) (x:V) (t':TypeId),es[i]?=some x->(bA P e)[j]?=some t'->j<P.cellsOf e->∃v,C0[i*P.cellsOf e+j]?=some v∧Pure P w I t' v (cT P e x j)∧∀a n c,v=.slice a n c->c=0):
  Le P w I β hp (w.alloc (.cells C0 e)) I (aw β nb (some w.heap.size)) (aw hp nb (some (.nest e es [0,0,0])))∧aK P (w.alloc (.cells C0 e)) I (aw β nb (some w.heap.size)) (aw hp nb (some (.nest e es [0,0,0]))) B M w0∧
  ak P (w.alloc (.cells C0 e)) I (aw β nb (some w.heap.size)) (aw hp nb (some (.nest e es [0,0,0]))) (.slice (some ⟨w.heap.size,0,none⟩) es.length cap) (.whole e nb):=
 agd S av hn hs hl hm ve.self hx
theorem arW(S:aK P w I β hp B M w0){e:TypeId}{nb:Nat}{r:R}{rd:LN}(h:(VZ P nb e).run C hp=some (r,rd)):eP P ((Instr.alloc e true (.tuple #[])).run P w) w I β hp B M w0 r:=by
 unfold VZ at h;split at h
 .rename_i n e1 hu;obtain⟨hc,h1⟩:=aX h;clear h;simp only[aZ,bK,gg,ng,il]at hc;obtain⟨av,qD,vp,hn,hm,jG,fk,aJK⟩:=hc;obtain⟨Fp,rfl⟩:=oy h1;obtain⟨i,z,hi,hz,h3,h4,h5⟩:=ox av;have mn:bA P e1=[e1]:=by simp[bA,vp]
  have hk:P.cellsOf e1=1:=by rw[<-gE qD,mn];rfl
  have hlen:((zeroCells P e).map sF).length<=n:=by
   rw[h5,cu,<-hn,<-h4];have go:∀(ts:List TypeId) (vs:List Value),(lJ P ts vs).length<=vs.length:=by
    intro ts
    induction ts with
    |nil=>intro vs;simp[lJ]
    |cons t ts ih=>intro vs;cases vs with
     |nil=>simp[lJ]
     |cons v vs=>simpa[lJ]using ih vs
   grind
  have hx:∀(i j:Nat) (x:V) (t':TypeId),((zeroCells P e).map sF)[i]?=some x->(bA P e1)[j]?=some t'->j<P.cellsOf e1->∃v,z.cells[i*P.cellsOf e1+j]?=some v∧Pure P w I t' v (cT P e1 x j)∧∀a n c,v=.slice a n c->c=0:=by
   intro i j x t' hx ht hj;rw[hk]at hj⊢;obtain rfl:j=0:=zO;rw[mn]at ht;simp only[List.getElem?_cons_zero,gi]at ht;subst ht;have Qp:=il.1 fk x (oa hx);rw[j5]at hx;cases hc:(zeroCells P e)[i]?with
   |none=>grind
   |some y=>
    rw[hc]at hx;cases hx;rw[h5]at hc;obtain⟨t2,v2,a1,a2,rfl⟩:=Qn hc;have Qo:e1=t2:=by simpa using jG t2 (oa a1)
    subst Qo;simp only[cT,vp,cond_false];exact⟨v2,zG,af9 Qp,aga Qp⟩
  have hL:ve P e e1 z.cells.size:=fun hb _ k yT=>by
   grind
  have dS:(Instr.alloc e true (.tuple #[])).run P w=.ok (.pointer (some ⟨w.heap.size,0,none⟩)) (w.alloc (.cells z.cells e)):=by
   simp[Instr.alloc,zeroValue,typeInfo,hi,hz,newVar,newRow]
  have hs:z.cells.size=n*P.cellsOf e1:=zG;cases fh P e1 with
  |true=>
   obtain⟨a,b,_⟩:=agb S (nb:=nb) (fz:=false) qD Fp hs hlen hm hL fun i j x t' p q r=>(hx i j x t' p q r).imp fun _ h=>⟨h.1,h.2.1⟩
   refine⟨_,_,_,_,dS,a,b,?_⟩;have:=ak.ptr (P:=P) (w:=w.alloc (.cells z.cells e)) (I:=I) (β:=aw β nb (some w.heap.size)) (hp:=aw hp nb (some (.arr e1 ((zeroCells P e).map sF) false))) (i:=0) (c:=0) (cB _ _ _) zS (cB _ _ _);rw[Nat.zero_mul]at this;exact this
  |false=>
   obtain⟨a,b,_⟩:=agd S (nb:=nb) qD Fp hs hlen hm hL hx;refine⟨_,_,_,_,dS,a,b,?_⟩;have:=ak.ptr (P:=P) (w:=w.alloc (.cells z.cells e)) (I:=I) (β:=aw β nb (some w.heap.size)) (hp:=aw hp nb (some (.nest e1 ((zeroCells P e).map sF) [0,0,0]))) (i:=0) (c:=0) (cB _ _ _) zS (cB _ _ _);rw[Nat.zero_mul]at this;exact this
 .cases h
theorem age(dF:∀id blk,hp id=some blk->gj P w I β hp (β id) blk){a:Act}{sl:Nat->V}(hs:qw P w I β hp a sl){G:Nat->V}(hg:lP P G w I){e:TypeId}{len:Nat}:∀{l:List (Nat×Operand)}{ps:List (Nat×V)}{upd:List (Nat×ah)}{rd:LN},
  (Ik P e len (l.map fun p=>(p.1,bO P G e sl p.2))).run C hp=some ((ps,upd),rd)->dU P e=true->(∀p∈upd,E8 hp p)∧∀I':Nat->Nat->Prop,(∀b j,I b j->I' b j)->(∀p∈upd,∀b j,AB P w β hp p.1 b j->I' b j)->
   ∀(cells:Array Value) (es:LV),es.length=len->Fm P w I' e cells es->∃wQ,Instr.fill (fun i=>some (i*P.cellsOf e,P.cellsOf e)) cells (l.map fun p=>(p.1,a.eval p.2))=some wQ∧Fm P w I' e wQ (Ij es ps)∧(Ij es ps).length=len
 |[],ps,upd,rd,h,_=>by
  cases h;exact⟨zS,fun I' _ _ cells es hl he=>⟨cells,by simp[Instr.fill],he,hl⟩⟩
 |(i,x)::l,ps,upd,rd,h,av=>by
  simp only[iB,Ik]at h;obtain⟨⟨ys,u1⟩,l1,l2,h1,h⟩:=qx h;obtain⟨hc,h⟩:=aX h;obtain⟨⟨ps',u2⟩,l3,l4,h2,h⟩:=qx h;have:=bG h;cases this;simp only[aZ,rb]at hc;obtain⟨hi,fk⟩:=hc;obtain⟨tl,tg⟩:=CA fk;have sP:=hs.ev hg e x;obtain⟨v1,v2⟩:=arU dF sP h1 fk;obtain⟨k1,k2,k3⟩:=Wl dF h1 (vs:=(a.eval x).cells.toList) zO v2;obtain⟨m1,m2⟩:=age dF hs hg h2 av;refine⟨fun p hp=>?_,fun I' i1 i2 cells es hl he=>?_⟩
  .grind
  .have gl:=k3 I' i1 (fun p hp=>i2 p (gh.2 (.inl hp)));have bR:=(qy av).1;have AO:ys.length=P.cellsOf e:=zO;have Qc:(a.eval x).cells.size=P.cellsOf e:=zO;have Qq:=he.set (i:=i) (ys:=ys) zO Qc AO (fun j t' u y ht hu hy=>by
    exact(gl j u y zG hy).pure (tg j t' y (by rw[<-vh];exact ht) hy))
   obtain⟨wQ,f1,f2,f3⟩:=m2 I' i1 (fun p hp=>i2 p (gh.2 (.inr hp))) _ (es.set i (dW P e ys)) zG Qq;refine⟨wQ,?_,f2,f3⟩;have hb:i*P.cellsOf e+P.cellsOf e<=cells.size:=by
    rw[he.1,hl];have:(i+1)*P.cellsOf e<=len*P.cellsOf e:=fE _ hi;grind
   simp only[iB,Instr.fill];grind
theorem agf{z:Array Value}{n k:Nat}(hk:k<n)(hz:0<z.size):((Array.range n).map (z[· %z.size]!))[k]?=z[k%z.size]?:=by
 have hm:k%z.size<z.size:=yq _ hz;grind
theorem agh{e:TypeId}(h:rj P e=true){i:TypeInfo}{z:Value}(hi:P.info? e=some i)(hz:i.zero=some z)(n m:Nat)(pN:n<=m):
  ∀(k j:Nat) (x:V) (t':TypeId),(List.replicate n (dW P e (km P e)))[k]?=some x->(bA P e)[j]?=some t'->j<P.cellsOf e->
   ∃v,((Array.range (m*P.cellsOf e)).map (z.cells[· %z.cells.size]!))[k*P.cellsOf e+j]?=some v∧Pure P w I t' v (cT P e x j)∧∀a n c,v=.slice a n c->c=0:=by
 intro k j x t' hx ht hj;obtain⟨i2,z2,h1,h2,h3,h4,h5⟩:=I4 (w:=w) (I:=I) h;rw[hi]at h1;cases h1;rw[hz]at h2;cases h2;rw[HY]at hx;split at hx
 .rename_i hk;cases hx;obtain⟨v,hv,hp⟩:=h5 j t' ht hj;refine⟨v,?_,hp⟩;have hb:k*P.cellsOf e+j<m*P.cellsOf e:=by
   have:(k+1)*P.cellsOf e<=m*P.cellsOf e:=fE _ zO;grind
  rw[agf hb zO,h4,show(k*P.cellsOf e+j) %P.cellsOf e=j by rw[oU,Nat.mul_add_mod];exact HZ hj];exact hv
 .cases hx
theorem WU{e:TypeId}(h:rj P e=true){i:TypeInfo}{z:Value}(hi:P.info? e=some i)(hz:i.zero=some z)(n m:Nat)(pN:n<=m):
  ∀(k j:Nat) (x:V) (t':TypeId),(List.replicate n (dW P e (km P e)))[k]?=some x->(bA P e)[j]?=some t'->j<P.cellsOf e->
   ∃v,((Array.range (m*P.cellsOf e)).map (z.cells[· %z.cells.size]!))[k*P.cellsOf e+j]?=some v∧Pure P w I t' v (cT P e x j):=fun k j x t' a b c=>(agh h hi hz n m pN k j x t' a b c).imp fun _ h=>⟨h.1,h.2.1⟩
theorem WV{P:Program}(w:World)(t e:TypeId)(len:Nat)(parts:Array (Nat×Value))(cells:Array Value)(ie:TypeInfo)(z:Value)
  (hu:P.underlying t=some (.slice e)) (pd:P.info? e=some ie) (hz:ie.zero=some z) (arX:¬len*ie.size>2^24)
  (h:Instr.fill (fun i=>some (i*ie.size,ie.size)) ((Array.range (len*ie.size)).map (z.cells[· %z.cells.size]!)) parts.toList=some cells):
  (Instr.buildSlice t len parts).run P w=.ok (.slice (some ⟨w.heap.size,0,none⟩) len len) (w.alloc (.cells cells e)):=by
 by_cases pN:len*ie.size=0
 .have h0:∀g:Nat->Value,(Array.range (len*ie.size)).map g= #[]:=zG;have hp:∀(u:Array Value),(Pure.pure u:Sem (Array Value)).run P w=.ok u w:=fun _=>rfl;rw[h0]at h;simp only[Instr.buildSlice,Sem.run_bind,run_underlying hu,Result.andThen_ok,sizeOf,typeInfo,pd];have h1:(Array.range (len*ie.size)).map (fun _:Nat=>(default:Value))= #[]:=h0 _;have hs:¬16777216<len*ie.size:=zO;simp[pd,hs,pN];simp only[pN]at h1;simp[h1,h,newRow]
 .exact run_buildSlice w t e len parts cells ie z hu pd hz arX pN h
theorem agi(S:aK P w I β hp B M w0){a:Act}{sl:Nat->V}(hs:qw P w I β hp a sl){G:Nat->V}(hg:lP P G w I){t e:TypeId}{len nb:Nat}{ps:Array (Nat×Operand)}{r:R}{rd:LN}(hu:P.underlying t=some (.slice e))
  (h:(Rd.aQ (rj P e&&Nat.ble (len*P.cellsOf e) (2^24)) ((Ik P e len (ps.toList.map fun p=>(p.1,bO P G e sl p.2))).bind fun r=>
    kM nb (.arr e (Ij (List.replicate len (dW P e (km P e))) r.1) false) (.whole e nb) r.2)).run C hp=some (r,rd)):
  eP P ((Instr.buildSlice t len (ps.map fun(i,x)=>(i,a.eval x))).run P w) w I β hp B M w0 r:=by
 obtain⟨hc,h⟩:=aX h;simp only[aZ,gg]at hc;obtain⟨g9,IF⟩:=hc;have av:dU P e=true:=by
  unfold rj at g9;grind
 obtain⟨⟨pv,upd⟩,l1,l2,h1,h⟩:=qx h;obtain⟨hn,rfl⟩:=oy h;obtain⟨m1,m2⟩:=age S.h.rel hs hg h1 av;obtain⟨wK,S1⟩:=IJ S m1;obtain⟨i,z,hi,hz,h3,h4,_⟩:=I4 (w:=w) (I:=I) g9;have lp:=(qy av).2;have h0:Fm P w (nr P w I β hp upd) e ((Array.range (len*P.cellsOf e)).map (z.cells[· %z.cells.size]!)) (List.replicate len (dW P e (km P e))):=
  ⟨zS,WU g9 hi hz len len (aC _)⟩
 obtain⟨cells,f1,f2,f3⟩:=m2 (nr P w I β hp upd) (fun _ _ h=>.inl h) (fun p hp b j h=>.inr ⟨p,hp,h⟩) _ _ zS h0;have ky:cY hp upd nb=none:=by
  rcases Cr (hp:=hp) (l:=upd) (id:=nb)with h|⟨b',hm,_⟩
  .grind
  .obtain⟨e1,dX,_,h5⟩:=m1 _ hm;grind
 have wD:len<=maxLen:=by
  have:len*1<=len*P.cellsOf e:=Ae _ lp;simp only[maxLen];omega
 obtain⟨n1,n2,n3⟩:=Fo S1 (cap:=len) av ky (by rw[f2.1,f3]) zO wD f2.2;have dS:=WV w t e len (ps.map fun(i,x)=>(i,a.eval x)) cells i z hu hi hz zG (by simp_all);refine⟨_,_,_,_,dS,wK.trans n1,n2,?_⟩;rw[f3]at n3;exact n3
theorem agj(S:aK P w I β hp B M w0){t e:TypeId}{nb:Nat}{kl kc:IntKind}{n m:Int}{r:R}{rd:LN}(hu:P.underlying t=some (.slice e))
  (h:(Rd.aQ (rj P e&&(decide (0<=n)&&(decide (n<=m)&&Nat.ble (m.toNat*P.bytesOf e) br)))
    (kM nb (.arr e (List.replicate n.toNat (dW P e (km P e))) false) (.whole e nb) [])).run C hp=some (r,rd)):
  eP P ((Instr.makeSlice t (.int kl n) (.int kc m)).run P w) w I β hp B M w0 r:=by
 obtain⟨hc,h⟩:=aX h;simp only[aZ,gg,fp]at hc;obtain⟨g9,h0,pN,fl⟩:=hc;have av:dU P e=true:=by
  unfold rj at g9;grind
 obtain⟨hn,rfl⟩:=oy h;obtain⟨i,z,hi,hz,h3,h4,_⟩:=I4 (w:=w) (I:=I) g9;have oz:P.bytesOf e=i.bytes:=by simp[Program.bytesOf,hi]
 have WW:m<=9223372036854775807:=by
  have h1:m.toNat*1<=m.toNat*P.bytesOf e:=Ae _ (Cq av);simp only[br]at fl;omega
 have dS:=run_make (P:=P) w t e i z hu hi hz kl kc n m h0 pN (by
  rw[oz]at fl;simp only[br]at fl;grind) WW
 have hlen:(List.replicate n.toNat (dW P e (km P e))).length=n.toNat:=zS;obtain⟨n1,n2,n3⟩:=Fo S (cap:=m.toNat) (es:=List.replicate n.toNat (dW P e (km P e))) (C0:=madeCells z.cells (m.toNat*i.size)) av hn (by rw[size_madeCells,h3]) zO (by simp only[maxLen];omega)
  (by rw[h3];exact WU g9 hi hz n.toNat m.toNat zO)
 refine⟨_,_,_,_,dS,n1,n2,?_⟩;rw[hlen]at n3;exact n3
theorem arY(S:aK P w I β hp B M w0){t e:TypeId}{nb:Nat}{kl kc:IntKind}{n m:Int}{r:R}{rd:LN}(hu:P.underlying t=some (.slice e))
  (h:(Rd.aQ (rj P e&&(decide (0<=n)&&(decide (n<=m)&&Nat.ble (m.toNat*P.bytesOf e) br)))
    (kM nb (.nest e (List.replicate n.toNat (dW P e (km P e))) [0,0,0]) (.whole e nb) [])).run C hp=some (r,rd)):
  eP P ((Instr.makeSlice t (.int kl n) (.int kc m)).run P w) w I β hp B M w0 r:=by
 obtain⟨hc,h⟩:=aX h;simp only[aZ,gg,fp]at hc;obtain⟨g9,h0,pN,fl⟩:=hc;have av:dU P e=true:=by
  unfold rj at g9;grind
 obtain⟨hn,rfl⟩:=oy h;obtain⟨i,z,hi,hz,h3,h4,_⟩:=I4 (w:=w) (I:=I) g9;have oz:P.bytesOf e=i.bytes:=by simp[Program.bytesOf,hi]
 have WW:m<=9223372036854775807:=by
  have h1:m.toNat*1<=m.toNat*P.bytesOf e:=Ae _ (Cq av);simp only[br]at fl;omega
 have dS:=run_make (P:=P) w t e i z hu hi hz kl kc n m h0 pN (by
  rw[oz]at fl;simp only[br]at fl;grind) WW
 have hlen:(List.replicate n.toNat (dW P e (km P e))).length=n.toNat:=zS;obtain⟨n1,n2,n3⟩:=arV S (cap:=m.toNat) (es:=List.replicate n.toNat (dW P e (km P e))) (C0:=madeCells z.cells (m.toNat*i.size)) av hn (by rw[size_madeCells,h3]) zO (by simp only[maxLen];omega)
  (by rw[h3];exact agh g9 hi hz n.toNat m.toNat zO)
 refine⟨_,_,_,_,dS,n1,n2,?_⟩;rw[hlen]at n3;exact n3
theorem Pure.one{t:TypeId}{v:Value}{x:V}(h:Pure P w I t v x):v.oneCell'=true:=by cases h<;>rfl
structure Row(P:Program)(w:World)(I:Nat->Nat->Prop)(e:TypeId)(v:Value)(xs:LV)(a:Addr)(c:Nat)(news:List Value):Prop where
 val:v=.slice (some a) xs.length c
 len:news.length=xs.length*P.cellsOf e
 cell:∀(j:Nat) u,news[j]?=some u->w.cell? (a.add j)=some u
 el:∀(i j:Nat) (x:V) (t':TypeId),xs[i]?=some x->(bA P e)[j]?=some t'->j<P.cellsOf e->∃u,news[i*P.cellsOf e+j]?=some u∧Pure P w I t' u (cT P e x j)
theorem Row.one{e:TypeId}{v:Value}{xs:LV}{a:Addr}{c:Nat}{news:List Value}(h:Row P w I e v xs a c news)(av:dU P e=true):∀u∈news,u.oneCell'=true:=by
 intro u hu;obtain⟨k,hk⟩:=wh hu;have sT:=(dw.1 hk).1;have lp:=(qy av).2;rw[h.len]at sT;have hi:k/P.cellsOf e<xs.length:=Nat.div_lt_of_lt_mul zG;have hj:k%P.cellsOf e<P.cellsOf e:=yq _ lp;have kz:k%P.cellsOf e<(bA P e).length:=by rw[gE av];exact hj
 obtain⟨u',lS,hp⟩:=h.el (k/P.cellsOf e) (k%P.cellsOf e) _ _ (cA hi) (cA kz) hj;rw[Nat.div_add_mod']at lS;rw[hk]at lS;cases lS;exact hp.one
theorem agk{e T:TypeId}{es:LV}{b:Nat}{Ca:Array Value}{off len cap o:Nat}(hh:w.heap[b]?=some (.cells Ca T (0,0)))(hs:es.length*P.cellsOf e<=Ca.size)
  (hx:∀(i j:Nat) (x:V) (t':TypeId),es[i]?=some x->(bA P e)[j]?=some t'->j<P.cellsOf e->∃v,Ca[i*P.cellsOf e+j]?=some v∧Pure P w I t' v (cT P e x j))
  (oo:off+len<=es.length) (ho:0<len->o=off*P.cellsOf e):
  Row P w I e (.slice (some ⟨b,o,none⟩) len cap) ((es.drop off).take len) ⟨b,o,none⟩ cap ((Ca.toList.drop (off*P.cellsOf e)).take (len*P.cellsOf e)):=by
 have hlen:((es.drop off).take len).length=len:=by simp;omega
 have hb:(off+len)*P.cellsOf e<=Ca.size:=mD (fE _ oo) hs;rw[nf]at hb;refine⟨by rw[hlen],zG,fun j u hj=>?_,fun i j x t' o7 ht hj=>?_⟩
 .have eX:=(dw.1 hj).1;have arZ:j<len*P.cellsOf e:=by
   grind
  have oq:0<len:=by
   grind
  rw[mf arZ,uW]at hj;rw[rE,cell?_cells hh,ho oq];grind
 .have hi:i<len:=zG;rw[mf hi,uW]at o7;obtain⟨u,hu,hp⟩:=hx (off+i) j x t' o7 ht hj;refine⟨u,?_,hp⟩;have:i*P.cellsOf e+j<len*P.cellsOf e:=by
   have:(i+1)*P.cellsOf e<=len*P.cellsOf e:=fE _ hi;grind
  grind
theorem Qr(dF:∀id blk,hp id=some blk->gj P w I β hp (β id) blk){e:TypeId}{v:Value}{x:V}{k:LV->Rd R}{r:R}{rd:LN}(av:dU P e=true)(hv:ak P w I β hp v x)
  (h:(Ap e x k).run C hp=some (r,rd)):∃xs,(((∃a,v=.slice a 0 0)∧xs=[])∨∃a c news,Row P w I e v xs a c news)∧∃l,(k xs).run C hp=some (r,l):=by
 cases hv with
 |list hp'=>
  obtain⟨hc,h2⟩:=aX h;clear h;rw[bK]at hc;subst hc;cases hp' with
  |nil=>grind
  |@emp a cap=>exact⟨[],.inr ⟨a,cap,[],⟨rfl,zS,fun j u hj=>by simp at hj,fun i j x t' hx _ _=>by simp at hx⟩⟩,rd,h2⟩
  |@list b o len cap es g hl cQ hI iZ hx=>
   refine⟨_,.inr ⟨⟨b,o,none⟩,cap,(List.range (len*P.cellsOf e)).map fun k=>g (k/P.cellsOf e) (k%P.cellsOf e),⟨by rw[hl],zG,fun j u hj=>?_,fun i j x t' o7 ht hj=>?_⟩⟩,rd,h2⟩
   .obtain⟨eX,P7⟩:=dw.1 hj;simp at eX P7;have lp:=(qy av).2;have hi:j/P.cellsOf e<len:=Nat.div_lt_of_lt_mul zG;have gm:j%P.cellsOf e<P.cellsOf e:=yq _ lp;rw[rE,<-P7];have:=iZ (j/P.cellsOf e) (j%P.cellsOf e) hi gm;rwa [Nat.div_add_mod']at this
   .have hi:i<len:=zG;have hb:i*P.cellsOf e+j<len*P.cellsOf e:=by
     have:(i+1)*P.cellsOf e<=len*P.cellsOf e:=fE _ hi;grind
    refine⟨g i j,?_,hx i j x t' o7 ht⟩;have e1:(i*P.cellsOf e+j)/P.cellsOf e=i:=by
     rw[oU,H0 (qy av).2,H2 hj,Nat.add_zero]
    have e2:(i*P.cellsOf e+j) %P.cellsOf e=j:=by
     rw[oU,Nat.mul_add_mod];exact HZ hj
    grind
 |nilS=>
  obtain⟨hc,h⟩:=aX h;grind
 |fF ae hb=>
  obtain⟨l,h⟩:=run_get h;simp only[ae]at h;obtain⟨hc,h⟩:=aX h;grind
 |@whole e' id es fz b cap ae hb bR cQ hm=>
  obtain⟨l,h⟩:=run_get h;simp only[ae]at h;obtain⟨hc,h2⟩:=aX h;clear h;simp only[aZ,bK]at hc;obtain⟨rfl,_⟩:=hc;have hr:=dF _ _ ae;cases hr with
  |gk aI=>grind
  |arr hL Wt aI hh hs hf iS hx=>
   rw[hb]at aI;cases aI;have:=agk (cap:=cap) (off:=0) (len:=es.length) (o:=0) hh hs hx zO (fun _=>zS);grind
 |lO ae hb=>
  obtain⟨l,h⟩:=run_get h;simp only[ae]at h;obtain⟨hc,h⟩:=aX h;grind
 |@sub e' id off len es fz b o cap ae hb oo cQ ho=>
  obtain⟨l,h⟩:=run_get h;simp only[ae]at h;obtain⟨hc,h2⟩:=aX h;clear h;simp only[aZ,bK]at hc;obtain⟨rfl,_⟩:=hc;have hr:=dF _ _ ae;cases hr with
  |gk aI=>grind
  |arr hL Wt aI hh hs hf iS hx=>
   rw[hb]at aI;cases aI;exact⟨_,.inr ⟨_,_,_,agk (cap:=cap) hh hs hx oo ho⟩,l,h2⟩
 |fM ae=>
  obtain⟨l,h⟩:=run_get h;simp only[ae]at h;cases h
 |lN ae=>
  obtain⟨l,h⟩:=run_get h;simp only[ae]at h;cases h
 |undef=>cases h
 |int=>cases h
 |bool=>cases h
 |str=>cases h
 |agg=>cases h
 |ct=>cases h
 |im=>cases h
 |fn=>cases h
 |pref=>cases h
 |oh=>cases h
 |ptr=>cases h
 |oj=>cases h
 |om=>cases h
 |row=>cases h
 |eJ=>cases h
 |fQ=>cases h
 |mK=>cases h
 |cX=>cases h
 |fS ae=>
  obtain⟨l,h⟩:=run_get h;simp only[ae]at h;cases h
 |iJ ae=>
  obtain⟨l,h⟩:=run_get h;simp only[ae]at h;cases h
 |fq ae=>
  obtain⟨l,h⟩:=run_get h;simp only[ae]at h;cases h
theorem Fq{t ty e:TypeId}{i:TypeInfo}(ht:P.underlying t=some (.slice e))(hi:P.info? e=some i)(a:Option Addr)(n cap:Nat)(x:Value)(hx:∃a c,x=.slice a 0 c)(hn:n<=cap):
  (Builtin.append_ #[t,t] ty #[.slice a n cap,x]).run P w=.ok (.slice a n cap) w:=by
 obtain⟨a',c,rfl⟩:=hx;cases a' with
 |none=>cases a<;>simp[Builtin.append_,run_underlying ht,sizeOf,typeInfo,hi,Builtin.lenOf,Builtin.firstCells,hn,storeCells]
 |some a'=>cases a<;>simp[Builtin.append_,run_underlying ht,sizeOf,typeInfo,hi,Builtin.lenOf,Builtin.firstCells,hn,storeCells,loadCells,loadCellsFrom]
theorem Qs{e:TypeId}{es xs:LV}{n:Nat}{c:List Value}{news:List Value}(hn:es.length=n)
  (h1:∀(i j:Nat) (x:V) (t':TypeId),es[i]?=some x->(bA P e)[j]?=some t'->j<P.cellsOf e->∃v,c[i*P.cellsOf e+j]?=some v∧Pure P w I t' v (cT P e x j))
  (h2:∀(i j:Nat) (x:V) (t':TypeId),xs[i]?=some x->(bA P e)[j]?=some t'->j<P.cellsOf e->∃v,news[i*P.cellsOf e+j]?=some v∧Pure P w I t' v (cT P e x j))
  (hb:n*P.cellsOf e<=c.length) (rest:List Value):
  ∀(i j:Nat) (x:V) (t':TypeId),(es++xs)[i]?=some x->(bA P e)[j]?=some t'->j<P.cellsOf e->∃v,(c.take (n*P.cellsOf e)++news++rest)[i*P.cellsOf e+j]?=some v∧Pure P w I t' v (cT P e x j):=by
 intro i j x t' hx ht hj;have hl:(c.take (n*P.cellsOf e)).length=n*P.cellsOf e:=by simp;omega
 by_cases hi:i<n
 .rw[tK zO]at hx;obtain⟨v,hv,hp⟩:=h1 i j x t' hx ht hj;have:i*P.cellsOf e+j<n*P.cellsOf e:=by
   have:(i+1)*P.cellsOf e<=n*P.cellsOf e:=fE _ hi;grind
  grind
 .rw[tL zO,hn]at hx;obtain⟨v,hv,hp⟩:=h2 (i-n) j x t' hx ht hj;have mP:i-n<xs.length:=(dw.1 hx).1;have e1:i*P.cellsOf e+j-n*P.cellsOf e=(i-n)*P.cellsOf e+j:=by
   rw[Nat.sub_mul];have:n*P.cellsOf e<=i*P.cellsOf e:=fE _ zO;omega
  have h3:(i-n)*P.cellsOf e+j<news.length:=(dw.1 hv).1;refine⟨v,?_,hp⟩;have h4:n*P.cellsOf e<=i*P.cellsOf e+j:=by
   have:n*P.cellsOf e<=i*P.cellsOf e:=fE _ zO;omega
  grind
theorem Pure.drew{t:TypeId}{v:Value}{x:V}(h:Pure P w I t v x):Pure P w.drew I t v x:=Pure.mono (w:=w) (w':=w.drew) (fun _ _ h=>h) (fun _ _ _=>rfl) h
theorem agl(w:World)(t ty e:TypeId)(i:TypeInfo)(z:Value)(ht:P.underlying t=some (.slice e))(hi:P.info? e=some i)(hz:i.zero=some z)
  (a0:Option Addr) (a:Addr) (n c:Nat) (news:List Value) (hl:news.length=n*i.size) (wR:∀j v,news[j]?=some v->w.cell? (a.add j)=some v)
  (h0:0<n) (Qt:(n:Int)<=9223372036854775807) (Qu:n*i.bytes<=281474976710656):
  (Builtin.append_ #[t,t] ty #[.slice a0 0 0,.slice (some a) n c]).run P w=
   .ok (.slice (some ⟨w.heap.size,0,none⟩) n (grownCap w n 0 e)) (w.drew.alloc (.cells (news.toArray++Builtin.zeroCells z.cells (grownCap w n 0 e-n)) e)):=by
 cases a0 with
 |none=>exact run_append_nil w t ty e i z ht hi hz a n c news hl wR h0 Qt Qu
 |some b=>
  have:=run_append_grow (P:=P) w t ty e i z ht hi hz b 0 0 [] zS zS a n c news hl wR zO zO (by rw[dT,nextslicecap_zero h0];omega);grind
theorem WX(S:aK P w I β hp B M w0){t ty e:TypeId}{nb:Nat}{fz:Bool}{x:Value}{xs:LV}(hu:P.underlying t=some (.slice e))(av:dU P e=true)(hn:hp nb=none)
  (fl:xs.length*P.bytesOf e<=br){a0:Option Addr}(hx:((∃a,x=.slice a 0 0)∧xs=[])∨∃a c news,Row P w I e x xs a c news):
  ∃v w' β',(Builtin.append_ #[t,t] ty #[.slice a0 0 0,x]).run P w=.ok v w'∧Le P w I β hp w' I β' (aw hp nb (some (.arr e xs fz)))∧aK P w' I β' (aw hp nb (some (.arr e xs fz))) B M w0∧
   ak P w' I β' (aw hp nb (some (.arr e xs fz))) v (.whole e nb):=by
 obtain⟨i,z,hi,hz,h3,h4,_⟩:=ox av;have yX:=Cq av;have oz:P.bytesOf e=i.bytes:=by simp[Program.bytesOf,hi]
 have hlen:xs.length<=2^45:=by
  have:xs.length*1<=xs.length*P.bytesOf e:=Ae _ yX;simp only[br]at fl;omega
 have empty:xs=[]->(∃a c,x=.slice a 0 c)->∃v w' β',(Builtin.append_ #[t,t] ty #[.slice a0 0 0,x]).run P w=.ok v w'∧Le P w I β hp w' I β' (aw hp nb (some (.arr e xs fz)))∧aK P w' I β' (aw hp nb (some (.arr e xs fz))) B M w0∧
   ak P w' I β' (aw hp nb (some (.arr e xs fz))) v (.whole e nb):=by
  intro mQ I5;subst mQ;obtain⟨a1,a2⟩:=IK S e hn;exact⟨_,_,_,Fq hu hi a0 0 0 x I5 (aC _),a1,a2,.fF (cB _ _ _) (cB _ _ _)⟩
 rcases hx with⟨⟨_,rfl⟩,rfl⟩|⟨a,c,news,hr⟩
 .simp_all
 .by_cases h0:xs.length=0
  .have mQ:xs=[]:=sA h0;refine empty mQ ⟨some a,c,?_⟩;rw[hr.val,h0]
  .have dS:=agl (P:=P) w t ty e i z hu hi hz a0 a xs.length c news (by rw[hr.len,h3]) hr.cell zO zO (by rw[<-oz];simp only[br]at fl;omega);have ub:=grownCap_ge w xs.length 0 e;have vq:grownCap w xs.length 0 e<=maxLen:=grownCap_le_maxLen w xs.length 0 e (by simp only[maxLen];omega);obtain⟨n1,n2,n3⟩:=Fo S.drew (nb:=nb) (cap:=grownCap w xs.length 0 e) (es:=xs) (C0:=news.toArray++Builtin.zeroCells z.cells (grownCap w xs.length 0 e-xs.length)) av hn
    (by simp only[Pb,wg,size_zeroCells,h4,hr.len,<-nf];grind) ub vq
    (fun i' j y t' hy ht hj=>by
     obtain⟨u,lS,hp⟩:=hr.el i' j y t' hy ht hj;have bt:=(dw.1 lS).1;refine⟨u,?_,Pure.drew hp⟩;grind)
   rw[hr.val];exact⟨_,_,_,dS,(Le.drew w I β hp).trans n1,n2,n3⟩
theorem agm{P:Program}(w:World)(t ty e T:TypeId)(i:TypeInfo)(ht:P.underlying t=some (.slice e))(hi:P.info? e=some i)
  (g qE CI:Nat) (cur:Array Value) (hg:w.heap[g]?=some (.cells cur T (0,0)))
  (a:Addr) (m c:Nat) (news:List Value) (hl:news.length=m*i.size) (wR:∀j u,news[j]?=some u->w.cell? (a.add j)=some u) (h1:∀u∈news,u.oneCell'=true)
  (wS:qE+m<=CI) (Fs:qE*i.size+news.length<=cur.size):
  (Builtin.append_ #[t,t] ty #[.slice (some ⟨g,0,none⟩) qE CI,.slice (some a) m c]).run P w=
   .ok (.slice (some ⟨g,0,none⟩) (qE+m) CI) (w.setRow g (cur.toList.take (qE*i.size)++news++cur.toList.drop (qE*i.size+news.length)).toArray):=by
 have hf:=run_firstCells_some (P:=P) w i.size m a m c news hl wR;have cv:=run_storeCells_at P g (qE*i.size) T news 0 cur w hg zO h1;simp only[Nat.add_zero]at cv;simp[Builtin.append_,run_underlying ht,sizeOf,typeInfo,hi,Builtin.lenOf,wS,hf,Addr.add_lit,cv]
theorem agn(S:aK P w I β hp B M w0){t ty e:TypeId}{nb id:Nat}{s x:Value}{es xs:LV}{fz:Bool}(hu:P.underlying t=some (.slice e))(av:dU P e=true)(hs:ak P w I β hp s (.whole e id))(ae:hp id=some (.arr e es fz))(hn:hp nb=none)
  (fl:Nat.ble ((es.length+xs.length)*P.bytesOf e) br=true) (rG:((∃a,x=.slice a 0 0)∧xs=[])∨∃a c news,Row P w I e x xs a c news):
  eP P ((Builtin.append_ #[t,t] ty #[s,x]).run P w) w I β hp B M w0 ⟨.whole e nb,[(nb,.arr e (es++xs) fz),(id,.dead)]⟩:=by
 rw[gg]at fl;have cw:nb≠id:=fun e=>zG;obtain⟨k1,k2⟩:=AE S ae;have ky:aw hp id (some ah.dead) nb=none:=by rw[dj _ _ cw];exact hn
 cases hs with
 |fM hd=>grind
 |fq hd=>grind
 |fS hd=>grind
 |iJ hd=>grind
 |fF hd hb=>
  rw[ae]at hd;cases hd;simp only[List.length_nil,dT]at fl;have ar0:((∃a,x=.slice a 0 0)∧xs=[])∨∃a c news,Row P w I e x xs a c news:=rG;obtain⟨v,w',β',a1,a2,a3,a4⟩:=WX (ty:=ty) k2 hu av ky fl ar0;exact⟨v,w',I,β',a1,k1.trans a2,a3,a4⟩
 |@whole _ _ bm u7 b cap hd hb bR cQ hm=>
  rw[ae]at hd;cases hd;have hr:=S.h.rel id _ ae;cases hr with
  |gk aI=>grind
  |@arr _ T _ _ b' Ca hL _ aI hh I6 hf iS Ft=>
   rw[hb]at aI;cases aI;obtain⟨i,z,hi,hz,h3,h4,_⟩:=ox av;have yX:=Cq av;have oz:P.bytesOf e=i.bytes:=by simp[Program.bytesOf,hi]
   have hlen:es.length+xs.length<=2^45:=by
    have:(es.length+xs.length)*1<=(es.length+xs.length)*P.bytesOf e:=Ae _ yX;simp only[br]at fl;omega
   rw[ou hh]at bR;have vj:∀ax blk',aw hp id (some ah.dead) ax=some blk'->¬bW P w (β ax) blk' b:=by
    intro ax blk' h1 h2;by_cases pc:ax=id
    .subst pc;rw[cB]at h1;cases h1;exact h2.alive rfl
    .rw[dj _ _ pc]at h1;exact pc (S.h.inj ax id blk' _ b h1 ae h2 (.root zS hb))
   have I7:=S.h.AA id _ b ae zS hb;have room:∀(C':Array Value) (w':World) (ys:LV),w'.heap[b]?=some (.cells C' T (0,0))->C'.size=Ca.size->(∀b',b'≠b->w'.heap[b']?=w.heap[b']?)->w.heap.size<=w'.heap.size->(w'.os=w.os∧w'.output=w.output)->ys.length<=cap->es.length<=ys.length->(∀j,j<es.length*P.cellsOf e->C'[j]?=Ca[j]?)->
     (∀(i j:Nat) (y:V) (t':TypeId),ys[i]?=some y->(bA P e)[j]?=some t'->j<P.cellsOf e->∃v,C'[i*P.cellsOf e+j]?=some v∧Pure P w I t' v (cT P e y j))->
     Le P w I β hp w' I (aw β nb (some b)) (aw (aw hp id (some .dead)) nb (some (.arr e ys fz)))∧aK P w' I (aw β nb (some b)) (aw (aw hp id (some .dead)) nb (some (.arr e ys fz))) B M w0∧
     ak P w' I (aw β nb (some b)) (aw (aw hp id (some .dead)) nb (some (.arr e ys fz))) (.slice (some ⟨b,0,none⟩) ys.length cap) (.whole e nb):=by
    intro C' w' ys hC wW pe hwz ar1 AO hey kV hy;have hIn:=WS hf iS;obtain⟨a1,a2⟩:=Fe k2 (blk:=.arr e ys fz) (w':=w') ky vj (agc hh hC hIn kV) (fun b' h _=>pe b' h) hwz ar1 I7
     (fun b' h=>(ee (h.flat zS)).symm) (fun hle=>.arr (wW▸hL) av rfl hC (by rw[wW,<-bR];exact fE _ AO) (fun _ j h=>gU (hIn j h) (fE _ hey)) iS fun i j y t' a b c=>by
      obtain⟨v,hv,hp⟩:=hy i j y t' a b c;exact⟨v,hv,hp.mono hle.fT hle.dH⟩)
    refine⟨k1.trans a1,a2,.whole (cB _ _ _) (cB _ _ _) ?_ AO hm⟩;rw[ou hC,wW,bR]
   have same:xs=[]->(∃a c,x=.slice a 0 c)->eP P ((Builtin.append_ #[t,t] ty #[.slice (some ⟨b,0,none⟩) es.length cap,x]).run P w) w I β hp B M w0 ⟨.whole e nb,[(nb,.arr e (es++xs) fz),(id,.dead)]⟩:=by
    intro mQ I5;subst mQ;rw[jO];obtain⟨a1,a2,a3⟩:=room Ca w es hh rfl (fun _ _=>rfl) (aC _) ⟨rfl,rfl⟩ cQ (aC _) (fun _ _=>rfl) Ft;exact⟨_,_,_,_,Fq hu hi _ _ _ x I5 cQ,a1,a2,a3⟩
   rcases rG with⟨⟨_,rfl⟩,rfl⟩|⟨a,c,news,eC⟩
   .grind
   .have h1:=eC.one av;have mO:es.length*P.cellsOf e<=Ca.toList.length:=zO;by_cases wS:es.length+xs.length<=cap
    .have Fs:es.length*P.cellsOf e+news.length<=Ca.size:=by rw[eC.len,<-nf,<-bR];exact fE _ wS
     have dS:=agm (P:=P) w t ty e T i hu hi b es.length cap Ca hh a xs.length c news (by rw[eC.len,h3]) eC.cell h1 wS zG;rw[h3]at dS;have g9:=Qs (P:=P) (w:=w) (I:=I) (n:=es.length) (c:=Ca.toList) rfl (fun i j y t' a b c=>by
      grind) eC.el mO (Ca.toList.drop (es.length*P.cellsOf e+news.length))
     obtain⟨a1,a2,a3⟩:=room (Ca.toList.take (es.length*P.cellsOf e)++news++Ca.toList.drop (es.length*P.cellsOf e+news.length)).toArray (w.setRow b _) (es++xs)
      (setRow_heap w b Ca _ T _ hh) (by simp;omega) (fun b' aI=>setRow_other w b b' _ aI) zS ⟨rfl,rfl⟩ zG zS (fun j hj=>by
        grind)
      (fun i j y t' a b c=>by
       grind)
     rw[eC.val];rw[dQ]at a3;exact⟨_,_,_,_,dS,a1,a2,a3⟩
    .have hold:∀(j:Nat) v,(Ca.toList.take (es.length*P.cellsOf e))[j]?=some v->w.cell? ((⟨b,0,none⟩:Addr).add j)=some v:=by
      intro j v hj;have eX:=(dw.1 hj).1;have gm:j<es.length*P.cellsOf e:=zG;rw[mf gm]at hj;rw[rE,cell?_cells hh,dT];grind
     have dS:=run_append_grow (P:=P) w t ty e i z hu hi hz ⟨b,0,none⟩ es.length cap (Ca.toList.take (es.length*P.cellsOf e)) zG hold a xs.length c news (by rw[eC.len,h3]) eC.cell zO zO
      (growslice_fits zO (by rw[<-oz];simp only[br]at fl;omega))
     have ub:=grownCap_ge w (es.length+xs.length) cap e;have vq:grownCap w (es.length+xs.length) cap e<=maxLen:=grownCap_le_maxLen w _ cap e (by simp only[maxLen];omega);have g9:=Qs (P:=P) (w:=w) (I:=I) (n:=es.length) (c:=Ca.toList) rfl (fun i j y t' a b c=>by
      grind) eC.el mO (Builtin.zeroCells z.cells (grownCap w (es.length+xs.length) cap e-(es.length+xs.length))).toList
     obtain⟨n1,n2,n3⟩:=Fo k2.drew (nb:=nb) (cap:=grownCap w (es.length+xs.length) cap e) (es:=es++xs)
      (C0:=(Ca.toList.take (es.length*P.cellsOf e)).toArray++news.toArray++Builtin.zeroCells z.cells (grownCap w (es.length+xs.length) cap e-(es.length+xs.length))) av ky
      (by
       have e1:(Ca.toList.take (es.length*P.cellsOf e)).length=es.length*P.cellsOf e:=by simp;omega
       simp only[Pb,wg,size_zeroCells,h4,eC.len,e1,<-nf];grind) zG vq
      (fun i j y t' a b c=>by
       obtain⟨v,hv,hp⟩:=g9 i j y t' a b c;refine⟨v,?_,Pure.drew hp⟩;grind)
     rw[eC.val];rw[dQ]at n3;exact⟨_,_,_,_,dS,(k1.trans (Le.drew w I β _)).trans n1,n2,n3⟩
theorem ar2(S:aK P w I β hp B M w0){t ty e:TypeId}{nb:Nat}{s x:Value}{sv xv:V}{r:R}{rd:LN}(hu:P.underlying t=some (.slice e))(hs:ak P w I β hp s sv)(hx:ak P w I β hp x xv)
  (h:(E0 P nb e sv xv).run C hp=some (r,rd)):eP P ((Builtin.append_ #[t,t] ty #[s,x]).run P w) w I β hp B M w0 r:=by
 unfold E0 at h;obtain⟨av,h⟩:=aX h;obtain⟨xs,rG,l0,h⟩:=Qr S.h.rel av hx h;cases sv with
 |nilS e'=>
  obtain⟨hc,h⟩:=aX h;simp only[aZ,bK,gg]at hc;obtain⟨hn,rfl⟩:=oy h;obtain⟨a0,rfl⟩:∃a0,s=.slice a0 0 0:=by cases hs;grind
  obtain⟨v,w',β',a1,a2,a3,a4⟩:=WX (ty:=ty) S hu av hn hc.2 rG;exact⟨v,w',I,β',a1,a2,a3,a4⟩
 |whole e' id=>
  obtain⟨l,h⟩:=run_get h;cases ae:hp id with
  |none=>rw[ae]at h;cases h
  |some blk=>
   rw[ae]at h;cases blk with
   |dead=>cases h
   |var _=>cases h
   |nest _ _ _=>cases h
   |map _ _=>cases h
   |out _ _ _ _=>cases h
   |arr gD es fz=>
    obtain⟨hc,h⟩:=aX h;obtain⟨hn,rfl⟩:=oy h;simp only[aZ,bK,gg]at hc;obtain⟨WY,WZ,fl⟩:=hc;subst WY;subst WZ;exact agn S hu av hs ae hn (by simp_all) rG
 |_=>cases h
end
section
variable {P:Program}{w w':World}{I I':Nat->Nat->Prop}{β β':Nat->Option Nat}{hp hp':Nat->Option ah}{C:ab}{B:Nat}{M:Nat->Prop}{w0:Start}
theorem ar3(S:aK P w I β hp B M w0){t ty e:TypeId}{x:Value}{xv:V}{r:R}{rd:LN}(hu:P.underlying t=some (.slice e))(hx:ak P w I β hp x xv)
  (h:(V2 P e xv).run C hp=some (r,rd)):eP P ((Builtin.clear_ #[t] ty #[x]).run P w) w I β hp B M w0 r:=by
 unfold V2 at h;obtain⟨g9,h'⟩:=aX h;clear h;have av:dU P e=true:=by
  unfold rj at g9;simp only[aZ]at g9;exact g9.1
 obtain⟨i,z,hi,hz,bR,I8,hzp⟩:=I4 (w:=w) (I:=I) g9;have lp:=(qy av).2;cases xv<;>simp only at h'<;>first|(cases h';done)|skip
 rename_i e' id off len;obtain⟨l,h2⟩:=run_get h';clear h';cases ae:hp id with
 |none=>rw[ae]at h2;cases h2
 |some blk=>
  rw[ae]at h2;cases blk<;>simp only at h2<;>first|(cases h2;done)|skip
  rename_i e2 es fz;cases fz with
  |true=>cases h2
  |false=>
  obtain⟨hc,h3⟩:=aX h2;simp only[aZ,bK]at hc;obtain⟨rfl,rfl⟩:=hc;obtain rfl:=bG h3;have CJ:len=0->(Builtin.clear_ #[t] ty #[x]).run P w=.ok (.tuple #[]) w->eP P ((Builtin.clear_ #[t] ty #[x]).run P w) w I β hp B M w0 ⟨.ct [],[(id,.arr e (es.take off++(List.replicate len (dW P e (km P e))++es.drop (off+len))) false)]⟩:=by
   intro h0 hr;subst h0;have nn:cY hp [(id,.arr e (es.take off++(List.replicate 0 (dW P e (km P e))++es.drop (off+0))) false)]=hp:=by
    simp only[List.replicate_zero,List.nil_append,Nat.add_zero,List.take_append_drop];exact afp hp id _ ae
   refine⟨.tuple #[],w,I,β,hr,?_⟩;simp only[nn];exact⟨Le.refl w I β hp,S,.ct rfl fun j v x hj hx=>by simp at hx⟩
  cases hx with
  |lN hd=>rw[ae]at hd;cases hd
  |@lO _ _ _ a0 hd hb=>exact CJ rfl (by cases a0<;>simp[Builtin.clear_,run_underlying hu])
  |@sub _ _ _ _ bm u7 b o cap hd hb oo cQ ho=>
   by_cases hlen:len=0
   .refine CJ hlen ?_;subst hlen;simp[Builtin.clear_,run_underlying hu]
   have ar4:0<len:=zO;have jm:=hd;rw[ae]at hd;cases hd;have hr:=S.h.rel id _ ae;cases hr with
   |gk aI=>rw[aI]at hb;cases hb
   |@arr _ T0 _ _ b' Ca hL _ aI hh I6 hf iS Ft=>
    rw[hb]at aI;cases aI;have ho:=ho ar4;subst ho;have CH:(Builtin.zeroCells z.cells len).toList.length=len*P.cellsOf e:=by rw[Array.length_toList,size_zeroCells,I8]
    have hmul:off*P.cellsOf e+len*P.cellsOf e<=es.length*P.cellsOf e:=by rw[<-nf];exact fE _ oo
    have vo:∀v∈(Builtin.zeroCells z.cells len).toList,v.oneCell'=true:=by
     intro v hv;obtain⟨k,hk⟩:=wh hv;have sT:=(dw.1 hk).1;rw[CH]at sT;have hzg:(Builtin.zeroCells z.cells len)[k]?=z.cells[k%z.cells.size]?:=agf (z:=z.cells) (n:=len*z.cells.size) (by rw[I8];exact sT) (by rw[I8];exact lp);rw[tJ,hzg]at hk;have hm:k%z.cells.size<P.cellsOf e:=by rw[I8];exact yq _ lp
     have htl:k%z.cells.size<(bA P e).length:=by rw[gE av];exact hm
     obtain⟨v',yV,hp'⟩:=hzp (k%z.cells.size) _ (cA htl) hm;rw[hk]at yV;cases yV;exact hp'.1.one
    have cv:=run_storeCells_at P b (off*P.cellsOf e) T0 (Builtin.zeroCells z.cells len).toList 0 Ca w hh (by rw[CH];omega) vo;simp only[Nat.add_zero]at cv;have dS:(Builtin.clear_ #[t] ty #[.slice (some ⟨b,off*P.cellsOf e,none⟩) len cap]).run P w=.ok (.tuple #[]) (w.setRow b (Ca.toList.take (off*P.cellsOf e)++(Builtin.zeroCells z.cells len).toList++Ca.toList.drop (off*P.cellsOf e+(Builtin.zeroCells z.cells len).toList.length)).toArray):=by
     obtain⟨n,rfl⟩:∃n,len=n+1:=⟨len-1,zO⟩
     simp[Builtin.clear_,run_underlying hu,zeroValue,typeInfo,hi,hz,cv]
    have tY:(es.take off++(List.replicate len (dW P e (km P e))++es.drop (off+len))).length=es.length:=by simp;omega
    have wW:(Ca.toList.take (off*P.cellsOf e)++(Builtin.zeroCells z.cells len).toList++Ca.toList.drop (off*P.cellsOf e+(Builtin.zeroCells z.cells len).toList.length)).toArray.size=Ca.size:=by
     simp only[wg,dQ,List.length_drop,wj,CH,Array.length_toList];omega
    obtain⟨a1,a2⟩:=Wv S (blk':=.arr e (es.take off++(List.replicate len (dW P e (km P e))++es.drop (off+len))) false) ae zS ⟨rfl,tY.symm⟩ hb (iS rfl) zS hh wW
     (fun hle eQ=>.arr (by rw[wW];exact hL) av rfl eQ (by rw[wW,tY];exact I6) (fun h=>by cases h) (fun _=>iS rfl) fun i' j y t' hy ht hj=>by
      have qG:=sO es (List.replicate len (dW P e (km P e))) off i' (by simp;omega);rw[BY]at qG;rw[qG]at hy;have hC:(Ca.toList.take (off*P.cellsOf e)++(Builtin.zeroCells z.cells len).toList++Ca.toList.drop (off*P.cellsOf e+(Builtin.zeroCells z.cells len).toList.length)).toArray[i'*P.cellsOf e+j]?=
        if i'*P.cellsOf e+j<off*P.cellsOf e then Ca.toList[i'*P.cellsOf e+j]?else if i'*P.cellsOf e+j<off*P.cellsOf e+len*P.cellsOf e then(Builtin.zeroCells z.cells len).toList[i'*P.cellsOf e+j-off*P.cellsOf e]?else Ca.toList[i'*P.cellsOf e+j]?:=by
       have:=sO Ca.toList (Builtin.zeroCells z.cells len).toList (off*P.cellsOf e) (i'*P.cellsOf e+j) (by rw[CH,Array.length_toList];omega);rw[tI,iC,this,CH]
      by_cases fH:i'<off
      .rw[ai fH]at hy;have:(i'+1)*P.cellsOf e<=off*P.cellsOf e:=fE _ fH;rw[nf]at this;rw[aU]at hC;obtain⟨u,k1,k2⟩:=Ft i' j y t' hy ht hj;exact⟨u,hC.trans (by simpa using k1),k2.mono hle.fT hle.dH⟩
      .rw[af fH]at hy;have h1:off*P.cellsOf e<=i'*P.cellsOf e:=fE _ zO;rw[cl]at hC;by_cases mP:i'<off+len
       .rw[ai mP]at hy;have:(i'+1)*P.cellsOf e<=(off+len)*P.cellsOf e:=fE _ mP;rw[nf,nf]at this;rw[aU]at hC;obtain⟨v,k1,k2⟩:=WU (w:=w) (I:=I) g9 hi hz len len (aC _) (i'-off) j y t' hy ht hj;refine⟨v,hC.trans ?_,k2.mono hle.fT hle.dH⟩;rw[show i'*P.cellsOf e+j-off*P.cellsOf e=(i'-off)*P.cellsOf e+j by rw[Nat.sub_mul];omega,tJ];unfold Builtin.zeroCells;rw[I8]at k1⊢;exact k1
       .rw[af mP]at hy;have:(off+len)*P.cellsOf e<=i'*P.cellsOf e:=fE _ zO;rw[nf]at this;rw[cl]at hC;obtain⟨u,k1,k2⟩:=Ft i' j y t' hy ht hj;exact⟨u,hC.trans (by simpa using k1),k2.mono hle.fT hle.dH⟩)
    exact⟨_,_,_,_,dS,a1,a2,.ct rfl fun j v x hj hx=>by simp at hx⟩
end
section
variable {P:Program}{w w':World}{I I':Nat->Nat->Prop}{β β':Nat->Option Nat}{hp hp':Nat->Option ah}{C:ab}{B:Nat}{M:Nat->Prop}{w0:Start}
theorem I9(S:aK P w I β hp B M w0){nb b:Nat}{e e1:TypeId}{ys:LV}{C':Array Value}(hr:rowOf P e=some e1)(hn:hp nb=none)
  {T:TypeId}(yS:w'.heap[b]?=some (.cells C' T (0,0))) (hlen:ys.length<=C'.size)
  (hw:∀b',b'≠b->b'<w.heap.size->w'.heap[b']?=w.heap[b']?) (bR:w.heap.size<=w'.heap.size) (o4:w'.os=w.os∧w'.output=w.output) (hb:M b∨B<=b)
  (vj:∀ax blk',hp ax=some blk'->¬bW P w (β ax) blk' b) (ep:∀j,¬I b j) (K:Nat->Nat->LV->Prop)
  (iZ:∀(i:Nat) x,ys[i]?=some x->∃l v,x=.list e1 l∧C'[i]?=some v∧CD P w e1 (K i) v l)
  (hK:∀i b1 l,K i b1 l->b1≠b∧b1<w.heap.size∧jS P w I b1 e1 l∧(M b1∨B<=b1)∧∀id blk,hp id=some blk->¬bW P w (β id) blk b1)
  (wH:∀i j b1 l m,K i b1 l->K j b1 m->i=j):
  Le P w I β hp w' I (aw β nb (some b)) (aw hp nb (some (.nest e ys [0,0,0])))∧aK P w' I (aw β nb (some b)) (aw hp nb (some (.nest e ys [0,0,0]))) B M w0:=by
 obtain⟨p1,p2⟩:=afU (w:=w) (I:=I) (vers:=[0,0,0]) hr yS hlen ep K iZ (fun i b1 l h=>⟨(hK i b1 l h).1,hw _ (hK i b1 l h).1 (hK i b1 l h).2.1,(hK i b1 l h).2.2.1⟩) wH;refine afy S hn vj (fun j h=>absurd h (ep j)) hw bR o4 hb (fun b' ho=>?_) (fun hle=>p2 hle.dH);rcases p1 b' ho with h|⟨i,l,h⟩
 .exact .inl h
 .exact .inr ⟨(hK _ _ _ h).2.2.2.1,(hK _ _ _ h).2.2.2.2⟩
theorem ar5(S:aK P w I β hp B M w0){t ty e:TypeId}{nb:Nat}{s x:Value}{sv xv:V}{r:R}{rd:LN}(hu:P.underlying t=some (.slice e))(hs:ak P w I β hp s sv)(hx:ak P w I β hp x xv)
  (h:(V1 P nb e sv xv).run C hp=some (r,rd)):eP P ((Builtin.append_ #[t,t] ty #[s,x]).run P w) w I β hp B M w0 r:=by
 unfold V1 at h;obtain⟨hro,ha⟩:=aX h;clear h;obtain⟨e1,hr⟩:=Option.isSome_iff_exists.1 hro;obtain⟨W0,dx,av,qD,jG⟩:=AN hr;have mn:bA P e=[e]:=by simp[bA,dx]
 have hk:P.cellsOf e=1:=by rw[<-gE av,mn];rfl
 obtain⟨i,z,hi,hz,h3,h4,_⟩:=ox av;have yX:=Cq av;have oz:P.bytesOf e=i.bytes:=by simp[Program.bytesOf,hi]
 rw[hk]at h3 h4;cases sv with
 |whole e' id=>
  obtain⟨l0,hb⟩:=run_get ha;clear ha;cases ae:hp id with
  |none=>rw[ae]at hb;cases hb
  |some blk=>
   rw[ae]at hb;cases blk with
   |nest gD es vers=>
    obtain⟨hc,hd⟩:=aX hb;clear hb;simp only[aZ,bK]at hc;obtain⟨rfl,rfl⟩:=hc;cases xv with
    |nilS e3=>
     obtain⟨_,he⟩:=aX hd;cases he;obtain⟨a0,rfl⟩:∃a0,x=.slice a0 0 0:=by cases hx;exact⟨_,rfl⟩
     cases hs with
     |fM hd=>rw[ae]at hd;cases hd
     |fF hd=>rw[ae]at hd;cases hd
     |whole hd=>rw[ae]at hd;cases hd
     |iJ hd=>rw[ae]at hd;cases hd
     |fS hd hb=>exact⟨_,_,_,_,Fq hu hi _ 0 0 _ ⟨_,_,rfl⟩ (aC _),Le.refl ..,S,.fS hd hb⟩
     |fq hd hb bR cQ hm=>
      rw[ae]at hd;cases hd;exact⟨_,_,_,_,Fq hu hi _ _ _ _ ⟨_,_,rfl⟩ cQ,Le.refl ..,S,.fq ae hb bR cQ hm⟩
    |list e3 l=>
     obtain⟨jn,he⟩:=aX hd;simp only[aZ,bK]at jn;obtain⟨rfl,oq⟩:=jn;have oq:=yl.1 oq;subst oq;cases he;obtain⟨a0,c0,rfl⟩:∃a0 c0,x=.slice a0 0 c0:=by
      cases hx with
      |list hp'=>cases hp' with
       |nil=>exact⟨_,_,rfl⟩
       |emp=>exact⟨_,_,rfl⟩
       |list g b c d e=>exact⟨_,_,by rw[<-b];rfl⟩
     cases hs with
     |fM hd=>rw[ae]at hd;cases hd
     |fF hd=>rw[ae]at hd;cases hd
     |whole hd=>rw[ae]at hd;cases hd
     |iJ hd=>rw[ae]at hd;cases hd
     |fS hd hb=>exact⟨_,_,_,_,Fq hu hi _ 0 0 _ ⟨_,_,rfl⟩ (aC _),Le.refl ..,S,.fS hd hb⟩
     |fq hd hb bR cQ hm=>
      rw[ae]at hd;cases hd;exact⟨_,_,_,_,Fq hu hi _ _ _ _ ⟨_,_,rfl⟩ cQ,Le.refl ..,S,.fq ae hb bR cQ hm⟩
    |whole e3 ca=>
     obtain⟨l1,he⟩:=run_get hd;clear hd;cases dY:hp ca with
     |none=>rw[dY]at he;cases he
     |some dq=>
      rw[dY]at he;cases dq with
      |nest e4 xs rA=>
       obtain⟨hc,hf⟩:=aX he;clear he;simp only[aZ,bK,gg,ng,rb]at hc;obtain⟨rfl,rfl,ago,lp,fl⟩:=hc;have cw:id≠ca:=fun h=>by rw[h,oT]at ago;cases ago
       obtain⟨hn,rfl⟩:=oy hf;have hlen:es.length+xs.length<=2^45:=by
        have:(es.length+xs.length)*1<=(es.length+xs.length)*P.bytesOf e:=Ae _ yX;simp only[br]at fl;omega
       obtain⟨b2,Ja,fN,rfl⟩:∃b2 Ja,β ca=some b2∧x=.slice (some ⟨b2,0,none⟩) xs.length Ja:=by
        cases hx with
        |fM hd=>rw[dY]at hd;cases hd
        |fF hd=>rw[dY]at hd;cases hd
        |whole hd=>rw[dY]at hd;cases hd
        |iJ hd=>rw[dY]at hd;cases hd
        |fS hd hb=>rw[dY]at hd;cases hd;simp at lp
        |fq hd hb bR cQ hm=>rw[dY]at hd;cases hd;exact⟨_,_,hb,rfl⟩
       obtain⟨C2,_,g1,g2,g3,g4,g5,g6⟩:=WQ S hr dY fN;have wR:∀(j:Nat) v,(C2.toList.take xs.length)[j]?=some v->w.cell? ((⟨b2,0,none⟩:Addr).add j)=some v:=by
        intro j v hj;have eX:=(dw.1 hj).1;rw[wj]at eX;rw[mf zO]at hj;rw[rE,cell?_cells g1,dT];simpa using hj
       have wX:(C2.toList.take xs.length).length=xs.length:=by simp;omega
       have vo:∀u∈C2.toList.take xs.length,u.oneCell'=true:=by
        intro u hm;obtain⟨j,hj⟩:=wh hm;have eX:=(dw.1 hj).1;rw[wX]at eX;rw[mf eX]at hj;obtain⟨l,v,_,hv,hh⟩:=g4 j xs[j] (cA eX);have:v=u:=by rw[tJ,hv]at hj;exact ee hj
        subst this;rcases hh with⟨_,a,rfl⟩|⟨b1,cap,_,rfl,_⟩<;>rfl
       obtain⟨k1,S1⟩:=AE S ae;have ar6:aw hp id (some ah.dead) ca=some (.nest e xs rA):=by rw[dj _ _ (Ne.symm cw)];exact dY
       obtain⟨k2,S2⟩:=AE S1 ar6;have wY:nb≠id:=fun e=>by rw[e,ae]at hn;cases hn
       have ar7:nb≠ca:=fun e=>by rw[e,dY]at hn;cases hn
       have wZ:aw (aw hp id (some ah.dead)) ca (some ah.dead) nb=none:=by rw[dj _ _ ar7,dj _ _ wY];exact hn
       have live:∀{ax blk'},aw (aw hp id (some ah.dead)) ca (some ah.dead) ax=some blk'->blk'≠.dead->hp ax=some blk'∧ax≠id∧ax≠ca:=by
        intro ax blk' h hd;by_cases q1:ax=ca
        .subst q1;rw[cB]at h;cases h;exact absurd rfl hd
        .rw[dj _ _ q1]at h;by_cases q2:ax=id
         .subst q2;rw[cB]at h;cases h;exact absurd rfl hd
         .rw[dj _ _ q2]at h;exact⟨h,q2,q1⟩
       have W3:∀{idx bx:Nat}{bl},(idx=id∨idx=ca)->hp idx=some bl->bW P w (β idx) bl bx->∀ax blk',aw (aw hp id (some ah.dead)) ca (some ah.dead) ax=some blk'->¬bW P w (β ax) blk' bx:=by
        intro idx bx bl Qv w4 ho ax blk' h hO;obtain⟨q1,q2,q3⟩:=live h hO.alive;have:=S.h.inj ax idx _ _ bx q1 w4 hO ho;rcases Qv with rfl|rfl
        .exact q2 this
        .exact q3 this
       have yY:cY hp [(nb,.nest e (es++xs) [0,0,0]),(id,.dead),(ca,.dead)]=aw (aw (aw hp id (some ah.dead)) ca (some ah.dead)) nb (some (.nest e (es++xs) [0,0,0])):=by
        funext k;simp only[cY];by_cases q0:k=nb
        .subst q0;rw[cB,cB]
        .by_cases q1:k=id
         .subst q1;rw[dj _ _ q0,cB,dj _ _ q0,dj _ _ cw,cB]
         .by_cases q2:k=ca
          .subst q2;rw[dj _ _ q0,dj _ _ q1,cB,dj _ _ q0,cB]
          .rw[dj _ _ q0,dj _ _ q1,dj _ _ q2,dj _ _ q0,dj _ _ q2,dj _ _ q1]
       have qB:bW P w (β ca) (.nest e xs rA) b2:=.root zS fN;have lit:∀i b1 l,At P w b2 e xs [(i,0)] b1 e1 l->b1<w.heap.size∧jS P w I b1 e1 l∧(M b1∨B<=b1)∧∀ax blk',aw (aw hp id (some ah.dead)) ca (some ah.dead) ax=some blk'->¬bW P w (β ax) blk' b1:=fun i b1 l ha=>by
        obtain⟨_,q2,q3,q4,q5⟩:=g5 i b1 l ha;exact⟨q2,q3,q4,W3 (.inr rfl) dY q5⟩
       cases hs with
       |fM hd=>rw[ae]at hd;cases hd
       |fF hd=>rw[ae]at hd;cases hd
       |whole hd=>rw[ae]at hd;cases hd
       |iJ hd=>rw[ae]at hd;cases hd
       |@fS _ _ _ a0 hd hb=>
        rw[ae]at hd;cases hd;simp only[List.length_nil,dT]at fl hlen;have dS:=agl (P:=P) w t ty e i z hu hi hz a0 ⟨b2,0,none⟩ xs.length Ja (C2.toList.take xs.length) (by rw[wX,h3,lI]) wR zO zO (by rw[<-oz];simp only[br]at fl;omega);have ub:=grownCap_ge w xs.length 0 e;have vq:grownCap w xs.length 0 e<=maxLen:=grownCap_le_maxLen w xs.length 0 e (by simp only[maxLen];omega);have eQ:(w.drew.alloc (.cells ((C2.toList.take xs.length).toArray++Builtin.zeroCells z.cells (grownCap w xs.length 0 e-xs.length)) e)).heap[w.heap.size]?=some (.cells ((C2.toList.take xs.length).toArray++Builtin.zeroCells z.cells (grownCap w xs.length 0 e-xs.length)) e):=heap_alloc_new w.drew (.cells ((C2.toList.take xs.length).toArray++Builtin.zeroCells z.cells (grownCap w xs.length 0 e-xs.length)) e);have Fp:=S2.h.ln;obtain⟨a1,a2⟩:=I9 (w':=w.drew.alloc (.cells ((C2.toList.take xs.length).toArray++Builtin.zeroCells z.cells (grownCap w xs.length 0 e-xs.length)) e)) S2 (nb:=nb) (b:=w.heap.size) (ys:=xs) hr wZ eQ (by simp;omega)
         (fun b' _ bt=>heap_alloc_old w.drew _ b' bt) zS ⟨rfl,rfl⟩ (.inr S.size) (fun ax blk' h ho=>qs _ (S2.h.lt h ho)) (fun j hj=>qs _ (Fp _ j hj))
         (fun i b1 l=>At P w b2 e xs [(i,0)] b1 e1 l) (fun j y hy=>by
          obtain⟨l,v,q1,q2,q3⟩:=g4 j y hy;have eX:=(dw.1 hy).1;refine⟨l,v,q1,?_,q3⟩;rw[Pc (by simpa using by omega)];simp[eX,q2])
         (fun j b1 l ha=>⟨H3 (lit j b1 l ha).1,lit j b1 l ha⟩) g6
        refine⟨_,_,I,aw β nb (some w.heap.size),dS,?_⟩;rw[yY,List.nil_append];refine⟨(k1.trans k2).trans a1,a2,?_⟩;exact .fq (cB _ _ _) (cB _ _ _) (by rw[ou eQ,hk,lI];simp[size_zeroCells,h4];omega) ub vq
       |@fq _ _ _ _ b cap hd hb bR cQ hm=>
        rw[ae]at hd;cases hd;obtain⟨Ca,Tq,f1,f2,f3,f4,f5,f6⟩:=WQ S hr ae hb;rw[ou f1,hk,lI]at bR;have w4:bW P w (β id) (.nest e es vers) b:=.root zS hb;have I7:=S.h.own id _ b ae w4;have gW:∀i b1 l,At P w b e es [(i,0)] b1 e1 l->b1≠b∧b1<w.heap.size∧jS P w I b1 e1 l∧(M b1∨B<=b1)∧∀ax blk',aw (aw hp id (some ah.dead)) ca (some ah.dead) ax=some blk'->¬bW P w (β ax) blk' b1:=fun i b1 l ha=>by
         obtain⟨q1,q2,q3,q4,q5⟩:=f5 i b1 l ha;exact⟨q1,q2,q3,q4,W3 (.inl rfl) ae q5⟩
        have ar8:∀i b1 l,At P w b2 e xs [(i,0)] b1 e1 l->b1≠b:=fun i b1 l ha h=>by
         subst h;exact cw (S.h.inj id ca _ _ _ ae dY w4 (g5 i _ l ha).2.2.2.2)
        have Kc:∀i j b1 l m,At P w b e es [(i,0)] b1 e1 l->At P w b2 e xs [(j,0)] b1 e1 m->False:=fun i j b1 l m h1 h2=>cw (S.h.inj id ca _ _ b1 ae dY (f5 i b1 l h1).2.2.2.2 (g5 j b1 m h2).2.2.2.2)
        let K:Nat->Nat->LV->Prop:=fun i b1 l=>(i<es.length∧At P w b e es [(i,0)] b1 e1 l)∨(es.length<=i∧At P w b2 e xs [(i-es.length,0)] b1 e1 l)
        have wH:∀i j b1 l m,K i b1 l->K j b1 m->i=j:=by
         intro i j b1 l m h1 h2;rcases h1 with⟨_,h1⟩|⟨p1,h1⟩
         .rcases h2 with⟨_,h2⟩|⟨_,h2⟩
          .exact f6 _ _ _ _ _ h1 h2
          .exact(Kc _ _ _ _ _ h1 h2).elim
         .rcases h2 with⟨_,h2⟩|⟨p2,h2⟩
          .exact(Kc _ _ _ _ _ h2 h1).elim
          .have:=g6 _ _ _ _ _ h1 h2;omega
        have fill:∀(C':Array Value),(∀j,j<es.length->C'[j]?=Ca[j]?)->(∀j,j<xs.length->C'[es.length+j]?=C2[j]?)->∀(j:Nat) y,(es++xs)[j]?=some y->∃l v,y=.list e1 l∧C'[j]?=some v∧CD P w e1 (K j) v l:=by
         intro C' p1 p2 j y hy;by_cases hj:j<es.length
         .rw[tK hj]at hy;obtain⟨l,v,q1,q2,q3⟩:=f4 j y hy;refine⟨l,v,q1,(p1 j hj).trans q2,?_⟩;rcases q3 with q3|⟨z1,b1,W4,z2,z3,z4,z5,z6⟩
          .exact .inl q3
          .exact .inr ⟨z1,b1,W4,z2,z3,z4,z5,.inl ⟨hj,z6⟩⟩
         .rw[tL zO]at hy;obtain⟨l,v,q1,q2,q3⟩:=g4 _ y hy;have eX:=(dw.1 hy).1;refine⟨l,v,q1,?_,?_⟩
          .have:=p2 (j-es.length) eX;rw[show es.length+(j-es.length)=j by omega]at this;exact this.trans q2
          .rcases q3 with q3|⟨z1,b1,W4,z2,z3,z4,z5,z6⟩
           .exact .inl q3
           .exact .inr ⟨z1,b1,W4,z2,z3,z4,z5,.inr ⟨zO,z6⟩⟩
        by_cases wS:es.length+xs.length<=cap
        .have Fs:es.length+(C2.toList.take xs.length).length<=Ca.size:=by rw[wX];omega
         have dS:=agm (P:=P) w t ty e Tq i hu hi b es.length cap Ca f1 ⟨b2,0,none⟩ xs.length Ja (C2.toList.take xs.length) (by rw[wX,h3,lI]) wR vo wS (by rw[h3,lI];exact Fs);rw[h3,lI,wX]at dS;have eQ:=setRow_heap w b Ca (Ca.toList.take es.length++C2.toList.take xs.length++Ca.toList.drop (es.length+xs.length)).toArray Tq _ f1;obtain⟨a1,a2⟩:=I9 (w':=w.setRow b (Ca.toList.take es.length++C2.toList.take xs.length++Ca.toList.drop (es.length+xs.length)).toArray) S2 (nb:=nb) (b:=b) (ys:=es++xs) hr wZ eQ (by simp;omega)
          (fun b' aI _=>setRow_other w b b' _ aI) zS ⟨rfl,rfl⟩ I7 (W3 (.inl rfl) ae w4) f3 K
          (fill _ (fun j hj=>by
           rw[tI,iC,tK (by simp;omega),mf hj,tJ]) (fun j hj=>by
           rw[tI,iC,tL (by simp;omega),tK (by simp;omega),wj,Array.length_toList (xs:=Ca),BZ zO,Pd,mf hj,tJ]))
          (fun j b1 l hj=>by
           rcases hj with⟨_,hj⟩|⟨_,hj⟩
           .exact gW _ _ _ hj
           .exact⟨ar8 _ _ _ hj,lit _ _ _ hj⟩) wH
         refine⟨_,_,I,aw β nb (some b),dS,?_⟩;rw[yY];refine⟨(k1.trans k2).trans a1,a2,?_⟩;have:=ak.fq (P:=P) (w:=w.setRow b (Ca.toList.take es.length++C2.toList.take xs.length++Ca.toList.drop (es.length+xs.length)).toArray) (I:=I) (β:=aw β nb (some b)) (hp:=aw (aw (aw hp id (some ah.dead)) ca (some ah.dead)) nb (some (.nest e (es++xs) [0,0,0]))) (b:=b) (cap:=cap) (cB _ _ _) (cB _ _ _) (by rw[ou eQ,hk,lI];simp;omega) (by rw[dQ];exact wS) hm;rw[dQ]at this;exact this
        .have hold:∀(j:Nat) v,(Ca.toList.take es.length)[j]?=some v->w.cell? ((⟨b,0,none⟩:Addr).add j)=some v:=by
          intro j v hj;have eX:=(dw.1 hj).1;rw[wj]at eX;rw[mf zO]at hj;rw[rE,cell?_cells f1,dT];simpa using hj
         have dS:=run_append_grow (P:=P) w t ty e i z hu hi hz ⟨b,0,none⟩ es.length cap (Ca.toList.take es.length) (by rw[h3,lI];simp;omega) hold ⟨b2,0,none⟩ xs.length Ja (C2.toList.take xs.length) (by rw[wX,h3,lI]) wR zO zO
          (growslice_fits zO (by rw[<-oz];simp only[br]at fl;omega))
         have ub:=grownCap_ge w (es.length+xs.length) cap e;have vq:grownCap w (es.length+xs.length) cap e<=maxLen:=grownCap_le_maxLen w _ cap e (by simp only[maxLen];omega);have eQ:(w.drew.alloc (.cells ((Ca.toList.take es.length).toArray++(C2.toList.take xs.length).toArray++Builtin.zeroCells z.cells (grownCap w (es.length+xs.length) cap e-(es.length+xs.length))) e)).heap[w.heap.size]?=some (.cells ((Ca.toList.take es.length).toArray++(C2.toList.take xs.length).toArray++Builtin.zeroCells z.cells (grownCap w (es.length+xs.length) cap e-(es.length+xs.length))) e):=heap_alloc_new w.drew (.cells ((Ca.toList.take es.length).toArray++(C2.toList.take xs.length).toArray++Builtin.zeroCells z.cells (grownCap w (es.length+xs.length) cap e-(es.length+xs.length))) e);have Fp:=S2.h.ln;obtain⟨a1,a2⟩:=I9 (w':=w.drew.alloc (.cells ((Ca.toList.take es.length).toArray++(C2.toList.take xs.length).toArray++Builtin.zeroCells z.cells (grownCap w (es.length+xs.length) cap e-(es.length+xs.length))) e)) S2 (nb:=nb) (b:=w.heap.size) (ys:=es++xs) hr wZ eQ (by simp;omega)
          (fun b' _ bt=>heap_alloc_old w.drew _ b' bt) zS ⟨rfl,rfl⟩ (.inr S.size) (fun ax blk' h ho=>qs _ (S2.h.lt h ho)) (fun j hj=>qs _ (Fp _ j hj)) K
          (fill _ (fun j hj=>by
           rw[Pc (by simp;omega),Pc (by simp;omega),tI,mf hj,tJ]) (fun j hj=>by
           rw[Pc (by simp;omega),Array.getElem?_append_right (by simp;omega)];simp only[wg,wj,Array.length_toList (xs:=Ca),BZ f2,Pd];rw[tI,mf hj,tJ]))
          (fun j b1 l hj=>by
           rcases hj with⟨_,hj⟩|⟨_,hj⟩
           .obtain⟨_,q⟩:=gW _ _ _ hj;exact⟨H3 q.1,q⟩
           .exact⟨H3 (lit _ _ _ hj).1,lit _ _ _ hj⟩) wH
         refine⟨_,_,I,aw β nb (some w.heap.size),dS,?_⟩;rw[yY];refine⟨(k1.trans k2).trans a1,a2,?_⟩;have:=ak.fq (P:=P) (w:=w.drew.alloc (.cells ((Ca.toList.take es.length).toArray++(C2.toList.take xs.length).toArray++Builtin.zeroCells z.cells (grownCap w (es.length+xs.length) cap e-(es.length+xs.length))) e)) (I:=I) (β:=aw β nb (some w.heap.size)) (hp:=aw (aw (aw hp id (some ah.dead)) ca (some ah.dead)) nb (some (.nest e (es++xs) [0,0,0]))) (b:=w.heap.size) (cap:=grownCap w (es.length+xs.length) cap e) (cB _ _ _) (cB _ _ _) (by rw[ou eQ,hk,lI];simp[size_zeroCells,h4];omega) (by rw[dQ];exact ub) vq;rw[dQ]at this;exact this
      |_=>cases he
    |_=>cases hd
   |_=>cases hb
 |_=>cases ha
theorem agp(S:aK P w I β hp B M w0){t ty e:TypeId}{nb:Nat}{s x:Value}{sv xv:V}{r:R}{rd:LN}(hu:P.underlying t=some (.slice e))(hs:ak P w I β hp s sv)(hx:ak P w I β hp x xv)
  (h:(V0 P nb e sv xv).run C hp=some (r,rd)):eP P ((Builtin.append_ #[t,t] ty #[s,x]).run P w) w I β hp B M w0 r:=by
 unfold V0 at h;split at h
 .rename_i e' id ver i;obtain⟨av,h1⟩:=aX h;clear h;obtain⟨xs,rG,l0,h2⟩:=Qr S.h.rel av hx h1;obtain⟨e0,es,vers,l1,ae,k1,k2,k3,h3⟩:=tT h2;cases hr:rowOf P e0 with
  |none=>simp only[hr]at h3;cases h3
  |some e1=>
  simp only[hr]at h3;obtain⟨hc,h4⟩:=aX h3;simp only[aZ,bK]at hc;obtain⟨rfl,rfl⟩:=hc;obtain⟨y,hy,h5⟩:=ot h4;obtain⟨fl,h6⟩:=aX h5;obtain⟨l2,h7⟩:=run_get h6;cases hn:hp nb with
  |some _=>rw[hn]at h7;cases h7
  |none=>
  rw[hn]at h7;obtain⟨ky,rfl⟩:=oy h7;obtain⟨b,q,i0,c,t1,l,cC,hb,ht,hc⟩:=hs.Wj ae k1 k2 k3;have:q=[]∧i0=i∧c=0:=by
   have hq:([]:Path)++[(i,0)]=q++[(i0,c)]:=cC;obtain⟨h1,h2⟩:=List.append_inj' hq rfl;simp only[EN,oW,and_true]at h2;exact⟨h1.symm,h2.1.symm,h2.2.symm⟩
  obtain⟨rfl,rfl,rfl⟩:=this;obtain⟨W0,dx,ar9,qD,jG⟩:=AN hr;have mn:bA P e0=[e0]:=by simp[bA,dx]
  have hk:P.cellsOf e0=1:=by rw[<-gE ar9,mn];rfl
  obtain⟨b',e',bm,Ca,T,f,x1,m1,m2,m3,m4,m5,m6⟩:=hc;cases m1;rw[hk,lI,Nat.add_zero]at m6;obtain⟨wL,l1,S1,hv⟩:=arN S hr ae hb hy hn;have Jb:=hv _ _ _ _ m2 m6;have cw:nb≠id:=fun h=>by rw[h,ae]at hn;cases hn
  have asa:nb+1≠id:=fun h=>by rw[h,ae]at ky;cases ky
  generalize hq:aw (aw hp id (some (ah.out e0 es (vers.map (·+1)) i0))) nb (some (.arr e y.toList false))=Fu at l1 S1 Jb;have hq0:Fu nb=some (.arr e y.toList false):=by rw[<-hq,cB]
  have hqn:Fu (nb+1)=none:=by rw[<-hq,dj _ _ (Nat.succ_ne_self nb),dj _ _ asa];exact ky
  have eC:((∃a,x=.slice a 0 0)∧xs=[])∨∃a c news,Row P w I e x xs a c news:=rG;have:=agn (ty:=ty) S1 hu av Jb hq0 hqn fl (by
   rcases eC with h|⟨a,c,news,h⟩
   .exact .inl h
   .exact .inr ⟨a,c,news,h.val,h.len,h.cell,fun i j x t' p1 p2 p3=>(h.el i j x t' p1 p2 p3).imp fun u hu=>⟨hu.1,hu.2.mono l1.fT l1.dH⟩⟩)
  obtain⟨v,w',I',β',a1,a2,a3,a4⟩:=this;refine⟨v,w',I',β',a1,?_⟩;have yY:cY hp [(nb+1,.arr e (y.toList++xs) false),(nb,.dead),(id,.out e0 es (vers.map (·+1)) i0)]=cY Fu [(nb+1,.arr e (y.toList++xs) false),(nb,.dead)]:=by
   rw[<-hq];funext k;simp only[cY];by_cases q0:k=nb+1
   .subst q0;rw[cB,cB]
   .rw[dj _ _ q0,dj _ _ q0];by_cases q1:k=nb
    .subst q1;rw[cB,cB]
    .rw[dj _ _ q1,dj _ _ q1,dj _ _ q1]
  rw[yY];exact⟨l1.trans a2,a3,a4⟩
 .exact ar2 S hu hs hx h
theorem agq(S:aK P w I β hp B M w0){t e e1:TypeId}{nb:Nat}{v:Value}{l:LV}(hu:P.underlying t=some (.slice e))(hr:rowOf P e=some e1)(hn:hp nb=none)(K:Nat->LV->Prop)
  (hv:CD P w e1 K v l) (hK:∀b1 l,K b1 l->b1<w.heap.size∧jS P w I b1 e1 l∧(M b1∨B<=b1)∧∀id blk,hp id=some blk->¬bW P w (β id) blk b1):
  (Instr.buildSlice t 1 #[(0,v)]).run P w=.ok (.slice (some ⟨w.heap.size,0,none⟩) 1 1) (w.alloc (.cells #[v] e))∧
  Le P w I β hp (w.alloc (.cells #[v] e)) I (aw β nb (some w.heap.size)) (aw hp nb (some (.nest e [.list e1 l] [0,0,0])))∧aK P (w.alloc (.cells #[v] e)) I (aw β nb (some w.heap.size)) (aw hp nb (some (.nest e [.list e1 l] [0,0,0]))) B M w0∧
  ak P (w.alloc (.cells #[v] e)) I (aw β nb (some w.heap.size)) (aw hp nb (some (.nest e [.list e1 l] [0,0,0]))) (.slice (some ⟨w.heap.size,0,none⟩) 1 1) (.whole e nb):=by
 obtain⟨W0,dx,av,qD,jG⟩:=AN hr;have mn:bA P e=[e]:=by simp[bA,dx]
 have hk:P.cellsOf e=1:=by rw[<-gE av,mn];rfl
 obtain⟨i,z,hi,hz,h3,h4,_⟩:=ox av;rw[hk]at h3 h4;have ua:v.cells= #[v]:=by rcases hv with⟨_,a,rfl⟩|⟨b1,cap,_,rfl,_⟩<;>rfl
 have dS:=WV w t e 1 #[(0,v)] #[v] i z hu hi hz (by rw[h3];omega) (by
  rw[h3];simp[Instr.fill,ua];rw[show Array.range 1= #[0]from rfl];simp)
 have eQ:(w.alloc (.cells #[v] e)).heap[w.heap.size]?=some (.cells #[v] e):=heap_alloc_new w _;obtain⟨a1,a2⟩:=I9 (w':=w.alloc (.cells #[v] e)) S (nb:=nb) (b:=w.heap.size) (ys:=[.list e1 l]) hr hn eQ zS
  (fun b' _ bt=>heap_alloc_old w _ b' bt) zS ⟨rfl,rfl⟩ (.inr S.size) (fun ax blk' h ho=>qs _ (S.h.lt h ho)) (fun j hj=>qs _ (S.h.ln _ j hj))
  (fun i b1 l=>i=0∧K b1 l) (fun j y hy=>by
   cases j with
   |succ j=>simp at hy
   |zero=>
    simp at hy;subst hy;refine⟨l,v,rfl,rfl,?_⟩;rcases hv with h|⟨b1,cap,z1,z2,z3,z4,z5,z6⟩
    .exact .inl h
    .exact .inr ⟨b1,cap,z1,z2,z3,z4,z5,rfl,z6⟩)
  (fun j b1 l h=>⟨H3 (hK b1 l h.2).1,hK b1 l h.2⟩) (fun i j b1 l m h1 h2=>h1.1.trans h2.1.symm)
 refine⟨dS,a1,a2,?_⟩;exact .fq (es:=[.list e1 l]) (cB _ _ _) (cB _ _ _) (by rw[ou eQ,hk];rfl) (aC _) (by simp[maxLen])
theorem asb(S:aK P w I β hp B M w0){a:Act}{sl:Nat->V}(hs:qw P w I β hp a sl){G:Nat->V}(hg:lP P G w I){t e:TypeId}{len nb:Nat}{ps:Array (Nat×Operand)}{r:R}{rd:LN}(hu:P.underlying t=some (.slice e))
  (h:(afm P nb e len (ps.toList.map fun p=>(p.1,bO P G e sl p.2))).run C hp=some (r,rd)):
  eP P ((Instr.buildSlice t len (ps.map fun(i,x)=>(i,a.eval x))).run P w) w I β hp B M w0 r:=by
 obtain⟨hl,ha⟩:=aX h;clear h;rw[bK,cu]at hl;cases hr:rowOf P e with
 |none=>rw[hr]at ha;cases ha
 |some e1=>
 simp only[hr]at ha;obtain⟨W0,dx,av,qD,jG⟩:=AN hr;obtain⟨ps⟩:=ps;simp only at ha hl;cases ps with
 |nil=>
  obtain⟨hn,rfl⟩:=oy ha;simp only[List.length_nil]at hl;subst hl;obtain⟨i,z,hi,hz,h3,h4,_⟩:=ox av;have dS:=WV w t e 0 #[] #[] i z hu hi hz zO (by simp[Instr.fill]);have eQ:(w.alloc (.cells #[] e)).heap[w.heap.size]?=some (.cells #[] e):=heap_alloc_new w _;obtain⟨a1,a2⟩:=I9 (w':=w.alloc (.cells #[] e)) S (nb:=nb) (b:=w.heap.size) (ys:=[]) hr hn eQ zS
   (fun b' _ bt=>heap_alloc_old w _ b' bt) zS ⟨rfl,rfl⟩ (.inr S.size) (fun ax blk' h ho=>qs _ (S.h.lt h ho)) (fun j hj=>qs _ (S.h.ln _ j hj))
   (fun _ _ _=>False) (fun j y hy=>by simp at hy) (fun _ _ _ h=>h.elim) (fun _ _ _ _ _ h=>h.elim)
  exact⟨_,_,I,aw β nb (some w.heap.size),by simpa using dS,a1,a2,.fq (es:=[]) (cB _ _ _) (cB _ _ _) (by rw[ou eQ];simp) (aC _) zS⟩
 |cons p ps=>
  cases ps with
  |cons q ps=>
   obtain⟨p1,p2⟩:=p;simp only[iB]at ha;cases p1<;>cases hx:bO P G e sl p2<;>simp only[hx]at ha<;>cases ha
  |nil=>
  obtain⟨p1,p2⟩:=p;simp only[List.length_cons,List.length_nil,dT]at hl;subst hl;have sP:=hs.ev hg e p2;simp only[iB,yr]at ha;cases p1 with
  |succ n=>cases hx:bO P G e sl p2<;>simp only[hx]at ha<;>cases ha
  |zero=>
  cases hx:bO P G e sl p2 with
  |nilS e2=>
   simp only[hx]at ha;obtain⟨hc,hb⟩:=aX ha;obtain⟨hn,rfl⟩:=oy hb;rw[hx]at sP;obtain⟨a0,CK⟩:∃a0,a.eval p2=.slice a0 0 0:=by
    generalize a.eval p2=v at sP;cases sP;exact⟨_,rfl⟩
   obtain⟨k1,k2,k3,k4⟩:=agq S (v:=a.eval p2) (l:=[]) hu hr hn (fun _ _=>False) (.inl ⟨rfl,a0,CK⟩) (fun _ _ h=>h.elim);exact⟨_,_,I,aw β nb (some w.heap.size),by simpa using k1,k2,k3,k4⟩
  |whole e2 id=>
   simp only[hx]at ha;obtain⟨l0,hb⟩:=run_get ha;clear ha;cases ae:hp id with
   |none=>rw[ae]at hb;cases hb
   |some blk=>
    rw[ae]at hb;cases blk with
    |arr e3 es fz=>
     cases fz with
     |true=>cases hb
     |false=>
      obtain⟨hc,hd⟩:=aX hb;clear hb;simp only[aZ,bK]at hc;obtain⟨rfl,rfl⟩:=hc;obtain⟨hn,rfl⟩:=oy hd;have cw:nb≠id:=fun e=>by rw[e,ae]at hn;cases hn
      obtain⟨k1,S1⟩:=AE S ae;have ky:aw hp id (some ah.dead) nb=none:=by rw[dj _ _ cw];exact hn
      have yY:cY hp [(nb,.nest e [.list e1 es] [0,0,0]),(id,.dead)]=aw (aw hp id (some ah.dead)) nb (some (.nest e [.list e1 es] [0,0,0])):=rfl;rw[hx]at sP;have fin:∀(K:Nat->LV->Prop),CD P w e1 K (a.eval p2) es->(∀b1 l,K b1 l->b1<w.heap.size∧jS P w I b1 e1 l∧(M b1∨B<=b1)∧∀ax blk',aw hp id (some ah.dead) ax=some blk'->¬bW P w (β ax) blk' b1)->
        eP P ((Instr.buildSlice t 1 #[(0,a.eval p2)]).run P w) w I β hp B M w0 ⟨.whole e nb,[(nb,.nest e [.list e1 es] [0,0,0]),(id,.dead)]⟩:=fun K hv hK=>by
       obtain⟨q1,q2,q3,q4⟩:=agq S1 (v:=a.eval p2) (l:=es) hu hr ky K hv hK;refine⟨_,_,I,aw β nb (some w.heap.size),q1,?_⟩;rw[yY];exact⟨k1.trans q2,q3,q4⟩
      have res:eP P ((Instr.buildSlice t 1 #[(0,a.eval p2)]).run P w) w I β hp B M w0 ⟨.whole e nb,[(nb,.nest e [.list e1 es] [0,0,0]),(id,.dead)]⟩:=by
       generalize a.eval p2=v at sP fin⊢;cases sP with
       |fM hd=>rw[ae]at hd;cases hd
       |fq hd=>rw[ae]at hd;cases hd
       |fS hd=>rw[ae]at hd;cases hd
       |iJ hd=>rw[ae]at hd;cases hd
       |@fF _ _ _ a0 hd hb=>
        rw[ae]at hd;cases hd;exact fin (fun _ _=>False) (.inl ⟨rfl,a0,rfl⟩) (fun _ _ h=>h.elim)
       |@whole _ _ _ _ b cap hd hb bR cQ hm=>
        rw[ae]at hd;cases hd;obtain⟨m1,m2⟩:=WK S ae hb jG;obtain⟨m3,m4⟩:=m1 _ _ _ _ .here;by_cases h0:0<cap
        .refine fin (fun b1 l=>b1=b∧l=es) (.inr ⟨b,cap,h0,rfl,bR,cQ,hm,rfl,rfl⟩) (fun b1 l h=>?_);obtain⟨rfl,rfl⟩:=h;refine⟨S.h.lt ae m4,m3,S.h.own id _ _ ae m4,fun ax blk' h' ho=>?_⟩;by_cases q:ax=id
         .subst q;rw[cB]at h';cases h';exact absurd rfl ho.alive
         .rw[dj _ _ q]at h';exact q (S.h.inj ax id _ _ _ h' ae ho m4)
        .have:es=[]:=yl.1 zO;subst this;exact fin (fun _ _=>False) (.inl ⟨rfl,some ⟨b,0,none⟩,by rw[show cap=0 by omega];rfl⟩) (fun _ _ h=>h.elim)
      simpa using res
    |_=>cases hb
  |_=>simp only[hx]at ha;cases ha
end
section
variable {P:Program}{w w':World}{I I':Nat->Nat->Prop}{β β':Nat->Option Nat}{hp hp':Nat->Option ah}{C:ab}{B:Nat}{M:Nat->Prop}{w0:Start}
theorem asc(S:aK P w I β hp B M w0){s:TypeId}{f:Nat}{v:Value}{x:V}{r:R}{rd:LN}(hv:ak P w I β hp v x)
  (h:(V4 P s f x).run C hp=some (r,rd)):eP P ((Instr.field s v f).run P w) w I β hp B M w0 r:=by
 unfold V4 Pw at h;split at h
 .rename_i fs hu;cases hf:fs[f]?with
  |none=>rw[hf]at h;cases h
  |some fd=>
   rw[hf]at h;simp only[E1]at h;obtain⟨ht,h⟩:=aX h;obtain⟨d,w5⟩:=Ff ht;obtain⟨i,hi⟩:=AF w5;have bR:i.size=P.cellsOf fd.type:=by simp[Program.cellsOf,hi]
   cases x with
   |agg xs=>
    obtain⟨cs,rfl,h1,h2⟩:=hv.o6;dsimp only at h;cases ha:cP P fd.type with
    |true=>
     rw[ha]at h;simp only[cond_true]at h;obtain⟨hc,h⟩:=aX h;obtain rfl:=bG h;rw[gg]at hc;refine .same S (v:=.agg (cs.extract fd.offset (fd.offset+P.cellsOf fd.type))) ?_ (.agg (by simp;omega) fun j u y lS hy=>?_)
     .simp[Instr.field,run_underlying hu,hf,part,P4 w5,ha,asAgg,sizeOf,typeInfo,hi,bR]
     grind
    |false=>
     rw[ha]at h;simp only[cond_false]at h;obtain⟨y,hy,h⟩:=ot h;obtain rfl:=bG h;have bt:fd.offset<cs.size:=zG;refine .same S (v:=cs[fd.offset]) ?_ (h2 _ _ _ (nh bt) hy);simp[Instr.field,run_underlying hu,hf,part,P4 w5,ha,asAgg,bt]
   |_=>cases h
 .cases h
theorem asd(S:aK P w I β hp B M w0){i:Nat}{v:Value}{xs:LV}{r:R}{rd:LN}(hv:ak P w I β hp v (.ct xs))
  (h:(Rd.opt xs[i]? fun v=>.ret ⟨v,[]⟩).run C hp=some (r,rd)):eP P ((Instr.extract v i).run P w) w I β hp B M w0 r:=by
 obtain⟨cs,rfl,h1,h2⟩:=hv.Cw;obtain⟨y,hy,h⟩:=ot h;obtain rfl:=bG h;have bt:i<cs.size:=zG;exact .same S (v:=cs[i]) (by simp[Instr.extract,bt]) (h2 _ _ _ (nh bt) hy)
theorem ase(S:aK P w I β hp B M w0){t:TypeId}{s:ByteArray}{l:List UInt8}{k:IntKind}{i:Int}{r:R}{rd:LN}(hu:P.underlying t=some .string)(hs:s.data.toList=l)
  (h:(Rd.opt (bif decide (0<=i)then(l[i.toNat]?).map fun b=>V.int .u8 b.toNat else none) fun v=>.ret ⟨.int .u8 v.toInt,[]⟩).run C hp=some (r,rd)):
  eP P ((Instr.index t (.string s) (.int k i)).run P w) w I β hp B M w0 r:=by
 obtain⟨v,hv,h⟩:=ot h;obtain rfl:=bG h;cases hc:decide (0<=i)with
 |false=>grind
 |true=>
  rw[hc]at hv;simp only[cond_true]at hv;have h0:0<=i:=zG;cases hb:l[i.toNat]?with
  |none=>grind
  |some b=>
   rw[hb]at hv;simp only[Option.map_some,gi]at hv;subst hv;have Jc:s[i.toNat]?=some b:=by
    subst hs;obtain⟨bt,he⟩:=dw.1 hb;have W5:i.toNat<s.size:=by simpa using bt
    rw[getElem?_pos s i.toNat W5];congr 1
   refine .same S (v:=.int .u8 b.toNat) ?_ .int;simp[Instr.index,asIntOf,run_underlying hu,h0,Jc]
theorem asf(S:aK P w I β hp B M w0){t e:TypeId}{n:Nat}{v:Value}{cs:LV}{k:IntKind}{i:Int}{r:R}{rd:LN}(hu:P.underlying t=some (.array n e))(hv:ak P w I β hp v (.agg cs))
  (h:(V5 P n e cs i).run C hp=some (r,rd)):eP P ((Instr.index t v (.int k i)).run P w) w I β hp B M w0 r:=by
 obtain⟨xs,rfl,h1,h2⟩:=hv.o6;unfold V5 at h;obtain⟨hc,h⟩:=aX h;obtain⟨y,hy,h⟩:=ot h;obtain rfl:=bG h;simp only[aZ,ng,bK]at hc;obtain⟨c1,c2,c3,c4,c5⟩:=hc;obtain⟨d,w5⟩:=Ff c1;obtain⟨j,hi⟩:=AF w5;have bR:j.size=1:=by rw[<-c3];simp[Program.cellsOf,hi]
 unfold idx at hy;cases h0:decide (0<=i)with
 |false=>rw[h0]at hy;cases hy
 |true=>
  rw[h0]at hy;simp only[cond_true]at hy;have h0:0<=i:=tH h0;have bt:i.toNat<cs.length:=(dw.1 hy).1;have agr:i.toNat<xs.size:=by rw[h1];exact bt
  have cv:=il.1 c5 y (oa hy);rw[Cy cv];refine .same S (v:=xs[i.toNat]) ?_ (h2 _ _ _ (nh agr) hy);have gZ:i<(n:Int):=zO;simp[Instr.index,asIntOf,run_underlying hu,h0,gZ,part,P4 w5,c4,sizeOf,typeInfo,hi,bR,agr]
theorem W6(S:aK P w I β hp B M w0)(mx:Bool):∀{vs:List Value}{xs:LV}{v:Value}{x:V}{r:R}{rd:LN},ak P w I β hp v x->vs.length=xs.length->
  (∀(j:Nat) u y,vs[j]?=some u->xs[j]?=some y->ak P w I β hp u y)->(E2 mx x xs).run C hp=some (r,rd)->
  eP P ((vs.foldlM (if mx then Builtin.max2 else Builtin.min2) v).run P w) w I β hp B M w0 r
 |[],[],v,x,r,rd,hv,_,_,h=>by
  have:r=⟨x,[]⟩:=by
   cases x<;>(simp only[E2]at h;exact(bG h).symm)
  subst this;exact .same S zS hv
 |[],_::_,v,x,r,rd,hv,hl,_,h=>by simp at hl
 |_::_,[],v,x,r,rd,hv,hl,_,h=>by simp at hl
 |u::vs,y::xs,v,x,r,rd,hv,hl,hx,h=>by
  cases x<;>cases y<;>simp only[E2]at h<;>first|(cases h;done)|skip
  rename_i k a k' b;obtain⟨hc,h4⟩:=aX h;clear h;obtain rfl:k=k':=zG;have hu:=hx 0 u _ rfl rfl;rw[hv.jo,hu.jo];have ih:=W6 S mx (vs:=vs) (xs:=xs) (v:=.int k (bif mx then(if b>a then b else a)else(if b<a then b else a))) .int zG
   (fun j u y h1 h2=>hx (j+1) u y zG zG) h4
  cases mx with
  |true=>simpa[List.foldlM_cons,Builtin.max2]using ih
  |false=>simpa[List.foldlM_cons,Builtin.min2]using ih
theorem AQ{n cap:Nat}{isS:Bool}{lo hi:Option V}{lov hiv:Option Value}{k:Nat->Nat->Rd R}{r:R}{rd:LN}(hn:n<=cap)
  (qH:∀x,lo=some x->∃v,lov=some v∧ak P w I β hp v x) (pg:∀x,hi=some x->∃v,hiv=some v∧ak P w I β hp v x) (vr:lo=none->lov=none) (w6:hi=none->hiv=none)
  (h:(Aq n lo hi k).run C hp=some (r,rd)):∃l u,l<=u∧u<=n∧(Instr.sliceBounds isS n cap lov hiv none).run P w=.ok (l,u,cap) w∧(k l u).run C hp=some (r,rd):=by
 have ok:∀(kk:IntKind) (i:Int) (y:Nat) (c:BoundsCode),0<=i->i<=y->(Instr.sliceBound (.int kk i) y c).run P w=.ok i.toNat w:=by
  intro kk i y c h1 h2;simp[Instr.sliceBound,asIntOf,h1,h2]
 unfold Aq at h;cases lo with
 |none=>
  rw[vr rfl];cases hi with
  |none=>
   rw[w6 rfl];exact⟨0,n,od _,aC _,by simp[Instr.sliceBounds],h⟩
  |some x=>
   obtain⟨v,rfl,hv⟩:=pg x rfl;cases x<;>simp only at h<;>first|(cases h;done)|skip
   rename_i kk u;obtain⟨hc,h⟩:=aX h;simp only[aZ,fp]at hc;rw[hv.jo];have:=ok kk u cap (if isS then .sliceAcap else .sliceAlen) hc.1 zO;exact⟨0,u.toNat,od _,zO,by simp[Instr.sliceBounds,this],h⟩
 |some x=>
  obtain⟨v,rfl,hv⟩:=qH x rfl;cases hi with
  |none=>
   rw[w6 rfl];cases x<;>simp only at h<;>first|(cases h;done)|skip
   rename_i kk l;obtain⟨hc,h⟩:=aX h;simp only[aZ,fp]at hc;rw[hv.jo];have:=ok kk l n .sliceB hc.1 zO;exact⟨l.toNat,n,zO,aC _,by simp[Instr.sliceBounds,this],h⟩
  |some y=>
   obtain⟨v2,rfl,yL⟩:=pg y rfl;cases x<;>cases y<;>simp only at h<;>first|(cases h;done)|skip
   rename_i kk l kk2 u;obtain⟨hc,h⟩:=aX h;simp only[aZ,fp]at hc;rw[hv.jo,yL.jo];have h1:=ok kk2 u cap (if isS then .sliceAcap else .sliceAlen) zO zO;have h2:=ok kk l u.toNat .sliceB hc.1 zO;exact⟨l.toNat,u.toNat,zO,zO,by simp[Instr.sliceBounds,h1,h2],h⟩
theorem W7{a:Option Addr}{t e:TypeId}{i:TypeInfo}(hu:P.underlying t=some (.slice e))(hi:P.info? e=some i){lov hiv:Option Value}
  (hb:(Instr.sliceBounds true 0 0 lov hiv none).run P w=.ok (0,0,0) w):(Instr.sliceAt t (.slice a 0 0) lov hiv none).run P w=.ok (.slice a 0 0) w:=by
 cases a<;>simp[Instr.sliceAt,Instr.slice,run_underlying hu,hb,sizeOf,typeInfo,hi]
theorem ags{t e:TypeId}{i:TypeInfo}{b o len cap l u:Nat}(hu:P.underlying t=some (.slice e))(hi:P.info? e=some i){lov hiv:Option Value}(huc:u<=cap)
  (hb:(Instr.sliceBounds true len cap lov hiv none).run P w=.ok (l,u,cap) w):∃o',(0<u-l->o'=o+l*i.size)∧(Instr.sliceAt t (.slice (some ⟨b,o,none⟩) len cap) lov hiv none).run P w=.ok (.slice (some ⟨b,o',none⟩) (u-l) (cap-l)) w:=by
 by_cases hc:cap=l
 .subst hc;refine⟨o,fun h=>zO,?_⟩
  .simp[Instr.sliceAt,Instr.slice,run_underlying hu,hb,sizeOf,typeInfo,hi]
 .refine⟨o+l*i.size,fun _=>rfl,?_⟩;simp[Instr.sliceAt,Instr.slice,run_underlying hu,hb,sizeOf,typeInfo,hi,hc,rE]
theorem asg(s:ByteArray)(l:List UInt8)(h:s.data.toList=l)(a b:Nat):(s.extract a b).data.toList=(l.drop a).take (b-a):=by
 simp_all
theorem ash(S:aK P w I β hp B M w0){t:TypeId}{v:Value}{x:V}{lo hi:Option V}{lov hiv:Option Value}{r:R}{rd:LN}(hv:ak P w I β hp v x)
  (qH:∀x,lo=some x->∃v,lov=some v∧ak P w I β hp v x) (pg:∀x,hi=some x->∃v,hiv=some v∧ak P w I β hp v x) (vr:lo=none->lov=none) (w6:hi=none->hiv=none)
  (h:(PD P t x lo hi).run C hp=some (r,rd)):eP P ((Instr.sliceAt t v lov hiv none).run P w) w I β hp B M w0 r:=by
 unfold PD at h;cases hu:P.underlying t with
 |none=>rw[hu]at h;cases h
 |some d=>
  rw[hu]at h;cases d<;>(try simp only at h)<;>first|(cases h;done)|skip
  case string=>
   cases x<;>simp only at h<;>first|(cases h;done)|skip
   rename_i l;obtain⟨s,rfl,hs⟩:=hv.rD;have bR:l.length=s.size:=by rw[<-hs];simp
   obtain⟨a,u,h1,h2,h3,h4⟩:=AQ (isS:=false) (cap:=s.size) zO qH pg vr w6 h;obtain rfl:=bG h4;rw[bR]at h3;refine .same S (v:=.string (s.extract a u)) ?_ (.str (asg s l hs a u));simp[Instr.sliceAt,Instr.slice,run_underlying hu,h3]
  case slice e=>
   cases x<;>simp only at h<;>first|(cases h;done)|skip
   case list e' es=>
    obtain⟨hc,h⟩:=aX h;simp only[aZ,bK]at hc;obtain⟨ja,av⟩:=hc;obtain⟨i,z,gP,_,bR,_⟩:=ox av;cases hv with
    |list hp'=>
     cases hp' with
     |nil=>
      obtain⟨a,u,h1,h2,h3,h4⟩:=AQ (n:=0) (isS:=true) (cap:=0) (aC _) qH pg vr w6 h;obtain rfl:=bG h4;obtain rfl:u=0:=zO;obtain rfl:a=0:=zO;exact .same S (W7 hu gP h3) (by simpa using ak.list nk.nil)
     |@emp ad cap=>
      obtain⟨a,u,h1,h2,h3,h4⟩:=AQ (n:=0) (isS:=true) (cap:=cap) (od _) qH pg vr w6 h;obtain rfl:=bG h4;obtain rfl:u=0:=zO;obtain rfl:a=0:=zO;refine .same S (v:=.slice (some ad) 0 cap) ?_ (by simpa using ak.list nk.emp);by_cases hc:cap=0
      .subst hc;simp[Instr.sliceAt,Instr.slice,run_underlying hu,h3,sizeOf,typeInfo,gP]
      .simp[Instr.sliceAt,Instr.slice,run_underlying hu,h3,sizeOf,typeInfo,gP,hc,Addr.add]
     |@list b o len cap _ g hl cQ hI iZ hx=>
      obtain⟨a,u,h1,h2,h3,h4⟩:=AQ (isS:=true) (cap:=cap) zO qH pg vr w6 h;obtain rfl:=bG h4;rw[hl]at h2 h3;obtain⟨o',wC,dS⟩:=ags (b:=b) (o:=o) hu gP zO h3;have lq:e=e':=ja;refine .same S dS (.list ?_);rw[<-lq];rw[<-lq]at iZ hx hI;have hlen:((es.drop a).take (u-a)).length=u-a:=by simp;omega
      refine .list (fun i j=>g (a+i) j) hlen zO (fun j hj=>?_) (fun i j hi hj=>?_) (fun i j y t' hy ht=>?_)
      .have lp:0<u-a:=uT fun e=>zG;rw[wC zO,bR,EL];refine hI _ (gU (Nat.add_lt_add_left hj _) ?_);rw[<-nf];exact fE _ zO
      all_goals grind
   case whole e' id=>
    obtain⟨l,h⟩:=run_get h;cases ae:hp id with
    |none=>rw[ae]at h;cases h
    |some blk=>
     rw[ae]at h;cases blk<;>simp only at h<;>first|(cases h;done)|skip
     rename_i gD es fz;obtain⟨hc,h9⟩:=aX h;clear h;simp only[aZ,bK]at hc;obtain⟨ja,jn,av⟩:=hc;obtain⟨i,z,gP,_,bR,_⟩:=ox av;cases hv with
     |fM hd=>grind
     |fq hd=>grind
     |fS hd=>grind
     |iJ hd=>grind
     |fF hd hb=>
      rw[ae]at hd;cases hd;obtain⟨a,u,h1,h2,h3,h4⟩:=AQ (n:=0) (isS:=true) (cap:=0) (aC _) qH pg vr w6 h9;obtain rfl:=bG h4;obtain rfl:u=0:=zO;obtain rfl:a=0:=zO;exact .same S (W7 hu gP h3) (.lO ae hb)
     |@whole _ _ bm u7 b cap hd hb Jd cQ hm=>
      have jm:=hd;rw[ae]at hd;cases hd;obtain⟨a,u,h1,h2,h3,h4⟩:=AQ (isS:=true) (cap:=cap) cQ qH pg vr w6 h9;obtain rfl:=bG h4;obtain⟨o',wC,dS⟩:=ags (b:=b) (o:=0) hu gP zO h3;have lq:e=e':=ja;exact .same S dS (.sub jm hb zO zO (fun h=>zG))
  case array n e=>
   cases x<;>simp only at h<;>first|(cases h;done)|skip
   rename_i id j c;obtain⟨l0,h⟩:=run_get h;cases ae:hp id with
   |none=>rw[ae]at h;cases h
   |some blk=>
    rw[ae]at h;cases blk<;>simp only at h<;>first|(cases h;done)|skip
    rename_i e' es fz;obtain⟨hc,h9⟩:=aX h;clear h;simp only[aZ,bK]at hc;obtain⟨rfl,rfl,rfl,rfl,av⟩:=hc;obtain⟨i,z,gP,_,bR,_⟩:=ox av;obtain⟨a,u,h1,h2,h3,h4⟩:=AQ (isS:=false) (cap:=es.length) (aC _) qH pg vr w6 h9;obtain rfl:=bG h4;obtain⟨b,hb,rfl⟩:=hv.ov ae zS;have dS:(Instr.sliceAt t (.pointer (some ⟨b,0*(ah.arr e es fz).sz P+0,none⟩)) lov hiv none).run P w=.ok (.slice (some ⟨b,if es.length=a then 0 else a*P.cellsOf e,none⟩) (u-a) (es.length-a)) w:=by
     rw[<-bR];simp[Instr.sliceAt,run_underlying hu,h3,sizeOf,typeInfo,gP,Instr.sureAddr];split<;>simp[rE]
    exact .same S dS (.sub ae hb zO zO (fun h=>zG))
theorem asi(S:aK P w I β hp B M w0){t:TypeId}{v ix:Value}{x y:V}{r:R}{rd:LN}(hv:ak P w I β hp v x)(hy:ak P w I β hp ix y)
  (h:(V6 P t x y).run C hp=some (r,rd)):eP P ((Instr.indexAt t v ix).run P w) w I β hp B M w0 r:=by
 unfold V6 at h;cases hu:P.underlying t with
 |none=>rw[hu]at h;cases h
 |some d=>
  rw[hu]at h;cases y<;>(try (cases d<;>cases h;done))
  rename_i k i;rw[hy.jo];cases d<;>simp only at h<;>first|(cases h;done)|skip
  case slice e=>
   have run:∀(b o len cap:Nat) (ie:TypeInfo),P.info? e=some ie->0<=i->i<(len:Int)->(Instr.indexAt t (.slice (some ⟨b,o,none⟩) len cap) (.int k i)).run P w=.ok (.pointer (some ⟨b,o+i.toNat*ie.size,none⟩)) w:=by
    intro b o len cap ie pd h0 h1;simp[Instr.indexAt,asIntOf,run_underlying hu,h0,h1,sizeOf,typeInfo,pd,rE]
   cases x<;>simp only at h<;>first|(cases h;done)|skip
   case list e' es=>
    obtain⟨hc,h⟩:=aX h;simp only[aZ,bK]at hc;obtain⟨ja,av⟩:=hc;have lq:e=e':=ja;obtain⟨ie,z,gP,_,bR,_⟩:=ox av;obtain⟨el,g9,h⟩:=ot h;obtain rfl:=bG h;unfold idx at g9;cases h0:decide (0<=i)with
    |false=>grind
    |true=>
     rw[h0]at g9;simp only[cond_true]at g9;have WR:0<=i:=zG;have bt:i.toNat<es.length:=(dw.1 g9).1;cases hv with
     |list hp'=>
      cases hp' with
      |nil=>simp at bt
      |emp=>simp at bt
      |@list b o len cap _ g hl cQ hI iZ hx=>
       rw[<-lq]at iZ hx hI;refine .same S (run b o len cap ie gP WR zO) ?_;have gl:=AH (P:=P) e el;have agt:=gE av;have agu:(bif cP P e then flat P e else[e])=bA P e:=rfl;rw[agu];have asj:ie.size=P.cellsOf e:=zO;refine .pref (by rw[gl]) (fun j hj=>?_) (fun j t' y' ht Wq=>?_)
       .rw[EL,asj];exact hI _ (Wf zO zO)
       .obtain⟨t2,a1,a2⟩:=Ws Wq;rw[ht]at a1;cases a1;have hj:j<P.cellsOf e:=zG;have gO:=hx i.toNat j el t' g9 ht;refine⟨g i.toNat j,?_,?_⟩
        .grind
        .rw[a2,gO.AG];exact gO
   case whole e' id=>
    obtain⟨l,h⟩:=run_get h;cases ae:hp id with
    |none=>rw[ae]at h;cases h
    |some blk=>
     rw[ae]at h;cases blk<;>simp only at h<;>first|(cases h;done)|skip
     rename_i gD es fz;obtain⟨hc,h⟩:=aX h;simp only[aZ,bK]at hc;obtain⟨ja,jn⟩:=hc;obtain⟨fI,h⟩:=aX h;simp only[aZ,fp]at fI;obtain rfl:=bG h;cases hv with
     |fM hd=>grind
     |fq hd=>grind
     |fS hd=>grind
     |iJ hd=>grind
     |fF hd hb=>grind
     |@whole _ _ bm u7 b cap hd hb Jd cQ hm=>
      have jm:=hd;rw[ae]at hd;cases hd;have hr:=S.h.rel id _ ae;cases hr with
      |gk aI=>grind
      |arr hL av aI hh hs hf iS hx=>
       have lq:e=e':=ja;obtain⟨ie,z,gP,_,bR,_⟩:=ox av;rw[<-lq]at gP bR;refine .same S (run b 0 _ cap ie gP fI.1 fI.2) ?_;have:=ak.ptr (P:=P) (w:=w) (I:=I) (i:=i.toNat) (c:=0) jm zS hb;simp only[ah.sz]at this;grind
     rename_i gD es vers;obtain⟨hc,h⟩:=aX h;simp only[aZ,bK]at hc;obtain⟨ja,jn⟩:=hc;obtain⟨fI,h⟩:=aX h;simp only[aZ,fp]at fI;obtain rfl:=bG h;cases hv with
     |fM hd=>grind
     |fF hd hb=>grind
     |whole hd=>grind
     |fS hd hb=>grind
     |iJ hd=>grind
     |@fq _ _ bm vers' b cap hd hb Jd cQ hm=>
      have jm:=hd;rw[ae]at hd;cases hd;have av:=(S.rows jm hb .here).ok;have lq:e=e':=ja;obtain⟨ie,z,gP,_,bR,_⟩:=ox av;rw[<-lq]at gP bR;refine .same S (run b 0 _ cap ie gP fI.1 fI.2) ?_;have:=ak.ptr (P:=P) (w:=w) (I:=I) (i:=i.toNat) (c:=0) jm zS hb;simp only[ah.sz]at this;grind
     rename_i gD es vers j0;obtain⟨hc,h⟩:=aX h;simp only[aZ,bK]at hc;obtain⟨ja,jn⟩:=hc;obtain⟨fI,h⟩:=aX h;simp only[aZ,fp]at fI;obtain rfl:=bG h;cases hv with
     |fM hd=>grind
     |fF hd hb=>grind
     |whole hd=>grind
     |fS hd hb=>grind
     |fq hd=>grind
     |@iJ _ _ j1 bm vers' b cap hd hb Jd cQ hm=>
      have jm:=hd;rw[ae]at hd;cases hd;have lq:e=e':=ja;obtain⟨ie,gP⟩:∃ie,P.info? e=some ie:=by
       have hr:=S.h.rel id _ jm;cases hr with
       |out _ kA _ _ _ _ _ _ _ _=>rw[lq];exact AF kA
      have bR:ie.size=P.cellsOf e:=by simp[Program.cellsOf,gP]
      refine .same S (run b 0 _ cap ie gP fI.1 fI.2) ?_;have:=ak.ptr (P:=P) (w:=w) (I:=I) (i:=i.toNat) (c:=0) jm zS hb;simp only[ah.sz]at this;grind
   case row e' id ver path=>
    obtain⟨e0,es,vers,l,ae,h1,h2,h3,h⟩:=tT h;obtain⟨e2,v',k1,k2,h⟩:=Fa h;obtain⟨hc,h⟩:=aX h;simp only[aZ,bK]at hc;obtain⟨ja,jn⟩:=hc;obtain⟨fI,h⟩:=aX h;simp only[aZ,fp]at fI;obtain rfl:=bG h;cases hv with
    |oj hd hp'=>rw[ae]at hd;cases hd;exact absurd hp' (Fb h1 h2 h3)
    |@row v _ e0 t1 _ ver b i1 c1 q es l1 vers hd hb hq WI ht iZ=>
     have asl:=iZ;obtain⟨b',e3,bm,Ca,T,f,x,m1,m2,m3,m4,m5,m6⟩:=iZ;have tX:=hd;rw[ae]at tX;cases tX;obtain⟨n1,n2⟩:=PZ m1 m3 m4 ht m5;rw[n2]at k2;cases k2;simp only[V.toList]at fI;have hR:=S.rows hd hb m1;obtain⟨C1,_,c2,_,c3,c4⟩:=hR.cells;rw[m2]at c2;cases c2;have hj:c1<P.cellsOf e3:=by
      rw[<-gE hR.ok];grind
     obtain⟨v2,d1,d2⟩:=c4 _ _ _ _ m3 m4 hj;rw[m6]at d1;cases d1;rw[m5]at d2;cases d2 with
     |iI a _=>unfold fh at a;grind
     |emp _=>grind
     |@row _ _ b1 cap _ hl _ _ _=>
      have av:=(S.rows hd hb (m1.snoc m2 m3 m4 ht m5 hl m6)).ok;have lq:e=e':=ja;obtain⟨ie,z,gP,_,bR,_⟩:=ox av;rw[<-lq]at gP bR;refine .same S (run b1 0 _ cap ie gP fI.1 fI.2) ?_;have:=ak.eJ (P:=P) (I:=I) (i:=i.toNat) (c:=0) hd hb hq WI ht hl asl;grind
   case sub e' id off len=>
    obtain⟨l,h⟩:=run_get h;cases ae:hp id with
    |none=>rw[ae]at h;cases h
    |some blk=>
     rw[ae]at h;cases blk<;>simp only at h<;>first|(cases h;done)|skip
     rename_i gD es fz;obtain⟨hc,h⟩:=aX h;simp only[aZ,bK]at hc;obtain⟨ja,jn⟩:=hc;obtain⟨fI,h⟩:=aX h;simp only[aZ,fp]at fI;obtain rfl:=bG h;cases hv with
     |lN hd=>grind
     |lO hd hb=>omega
     |@sub _ _ _ _ bm u7 b o cap hd hb oo cQ ho=>
      have jm:=hd;rw[ae]at hd;cases hd;have hr:=S.h.rel id _ ae;cases hr with
      |gk aI=>grind
      |arr hL av aI hh hs hf iS hx=>
       have lq:e=e':=ja;obtain⟨ie,z,gP,_,bR,_⟩:=ox av;rw[<-lq]at gP bR;refine .same S (run b o _ cap ie gP fI.1 fI.2) ?_;have:=ak.ptr (P:=P) (w:=w) (I:=I) (i:=off+i.toNat) (c:=0) jm zS hb;simp only[ah.sz]at this;grind
  case array n e=>
   have run:∀(b o:Nat) (ie:TypeInfo),P.info? e=some ie->0<=i->i<(n:Int)->(Instr.indexAt t (.pointer (some ⟨b,o,none⟩)) (.int k i)).run P w=.ok (.pointer (some ⟨b,o+i.toNat*ie.size,none⟩)) w:=by
    intro b o ie pd h0 h1;simp[Instr.indexAt,asIntOf,run_underlying hu,h0,h1,sizeOf,typeInfo,pd,rE,Instr.sureAddr]
   cases x<;>simp only at h<;>first|(cases h;done)|skip
   case ptr id j c=>
    obtain⟨fI,h⟩:=aX h;simp only[aZ,fp]at fI;obtain⟨d,w5⟩:=Ff fI.1;obtain⟨ie,pd⟩:=AF w5;have bR:ie.size=P.cellsOf e:=by simp[Program.cellsOf,pd]
    obtain⟨l,h⟩:=run_get h;have gW:∀blk,hp id=some blk->blk≠.dead->eP P ((Instr.indexAt t v (.int k i)).run P w) w I β hp B M w0 ⟨.ptr id j (c+i.toNat*P.cellsOf e),[]⟩:=fun blk ae hd=>by
     obtain⟨b,hb,rfl⟩:=hv.ov ae hd;refine .same S (run b _ ie pd fI.2.1 fI.2.2) ?_;rw[bR,EL];exact .ptr ae hd hb
    have new:∀blk,hp id=some blk->blk≠.dead->blk.sz P=P.cellsOf e->j=0->c=0->eP P ((Instr.indexAt t v (.int k i)).run P w) w I β hp B M w0 ⟨.ptr id i.toNat 0,[]⟩:=fun blk ae hd hz hj hc=>by
     obtain⟨b,hb,rfl⟩:=hv.ov ae hd;refine .same S (run b _ ie pd fI.2.1 fI.2.2) ?_;have:=ak.ptr (P:=P) (w:=w) (I:=I) (i:=i.toNat) (c:=0) ae hd hb;grind
    cases ae:hp id with
    |none=>rw[ae]at h;cases h
    |some blk=>
     rw[ae]at h;cases blk with
     |var T cs=>obtain rfl:=bG h;grind
     |arr e' es fz=>
      cases he:Nat.beq e e' with
      |true=>
       simp only[he,cond_true]at h;rw[bK]at he;subst he;obtain⟨hc,h⟩:=aX h;simp only[aZ,bK]at hc;obtain rfl:=bG h;exact new _ ae zS rfl hc.1 hc.2
      |false=>
       simp only[he,cond_false]at h;obtain rfl:=bG h;grind
     |nest e' es vs=>
      cases he:Nat.beq e e' with
      |true=>
       simp only[he,cond_true]at h;rw[bK]at he;subst he;obtain⟨hc,h⟩:=aX h;simp only[aZ,bK]at hc;obtain rfl:=bG h;exact new _ ae zS rfl hc.1 hc.2
      |false=>
       simp only[he,cond_false]at h;obtain rfl:=bG h;grind
     |_=>cases h
   case pref ts cs=>
    obtain⟨fI,h⟩:=aX h;simp only[aZ,fp]at fI;obtain rfl:=bG h;obtain⟨b,o,rfl,h1,h2,h3⟩:=hv.IL;obtain⟨d,w5⟩:=Ff fI.1;obtain⟨ie,pd⟩:=AF w5;have bR:ie.size=P.cellsOf e:=by simp[Program.cellsOf,pd]
    refine .same S (run b _ ie pd fI.2.1 fI.2.2) ?_;rw[bR];exact ak.afD h1 h2 h3
end
section
open Go.Maps
section
variable {P:Program}{w w':World}{I I':Nat->Nat->Prop}{β β':Nat->Option Nat}{hp hp':Nat->Option ah}{C:ab}{B:Nat}{M:Nat->Prop}{w0:Start}
theorem asm(S:aK P w I β hp B M w0){nb:Nat}{t:TypeId}{v:Value}{x:V}{lo hi:Option V}{lov hiv:Option Value}{r:R}{rd:LN}(hv:ak P w I β hp v x)
  (pg:∀x,hi=some x->∃v,hiv=some v∧ak P w I β hp v x) (vr:lo=none->lov=none)
  (h:(PE P nb t x lo hi).run C hp=some (r,rd)):eP P ((Instr.sliceAt t v lov hiv none).run P w) w I β hp B M w0 r:=by
 unfold PE at h;split at h
 case h_2=>cases h
 rename_i e e' id k hh hu;obtain⟨l,h1⟩:=run_get h;cases ae:hp id with
 |none=>rw[ae]at h1;cases h1
 |some blk=>
  rw[ae]at h1;cases blk<;>simp only at h1<;>first|(cases h1;done)|skip
  rename_i e2 es fz;cases fz with
  |true=>cases h1
  |false=>
  obtain⟨hc,h2⟩:=aX h1;simp only[aZ,bK,fp]at hc;obtain⟨rfl,rfl,av,hh0,hhn⟩:=hc;obtain⟨hn,rfl⟩:=oy h2;have qH:=vr rfl;subst qH;obtain⟨CL,rfl,hhv⟩:=pg _ rfl;obtain rfl:=hhv.jo;obtain⟨i,z,gP,_,bR,_⟩:=ox av;have cw:nb≠id:=fun e=>zG;obtain⟨k1,k2⟩:=AE S ae;have ky:aw hp id (some ah.dead) nb=none:=by rw[dj _ _ cw];exact hn
  have bnd:∀cap,es.length<=cap->(Instr.sliceBounds true es.length cap none (some (.int k hh)) none).run P w=.ok (0,hh.toNat,cap) w:=by
   intro cap cQ;have hb:(Aq es.length none (some (.int k hh)) fun l u=>.aQ (decide (l=0∧u=hh.toNat)) (.ret (⟨.undef,[]⟩:R))).run C hp=some (⟨.undef,[]⟩,[]):=by
    simp[Aq,Rd.run,hh0,hhn]
   obtain⟨l,u,b1,b2,b3,b4⟩:=AQ (P:=P) (w:=w) (I:=I) (β:=β) (hp:=hp) (n:=es.length) (isS:=true) (cap:=cap) (lov:=none) (hiv:=some (.int k hh)) cQ zS (fun x hx=>zG) (fun _=>rfl) zS hb;obtain⟨b5,_⟩:=aX b4;grind
  cases hv with
  |fM hd=>grind
  |fq hd=>grind
  |fS hd=>grind
  |iJ hd=>grind
  |@fF _ _ _ a0 hd hb=>
   rw[ae]at hd;cases hd;have Wx:hh=0:=zG;subst Wx;have aI:=bnd 0 (aC _);obtain⟨a1,a2⟩:=IK k2 e ky;refine⟨_,w,I,_,W7 hu gP aI,k1.trans a1,a2,.fF (cB _ _ _) (cB _ _ _)⟩
  |@whole _ _ bm u7 b cap hd hb Jd cQ hm=>
   have jm:=hd;rw[ae]at hd;cases hd;have hr:=S.h.rel id _ ae;cases hr with
   |gk aI=>grind
   |@arr _ _ _ _ b' Ca hL _ aI Qw I6 hf iS Ft=>
    rw[hb]at aI;cases aI;have tY:(es.take hh.toNat).length=hh.toNat:=zG;have dS:(Instr.sliceAt t (.slice (some ⟨b,0,none⟩) es.length cap) none (some (.int k hh)) none).run P w=.ok (.slice (some ⟨b,0,none⟩) hh.toNat cap) w:=by
     have aI:=bnd cap cQ;by_cases Fv:cap=0
     .subst Fv;simp[Instr.sliceAt,Instr.slice,run_underlying hu,aI,sizeOf,typeInfo,gP]
     .simp[Instr.sliceAt,Instr.slice,run_underlying hu,aI,sizeOf,typeInfo,gP,Fv,rE]
    have vj:∀ax blk',aw hp id (some ah.dead) ax=some blk'->¬bW P w (β ax) blk' b:=by
     intro ax blk' h1 h2;by_cases pc:ax=id
     .subst pc;rw[cB]at h1;cases h1;exact h2.alive rfl
     .rw[dj _ _ pc]at h1;exact pc (S.h.inj ax id blk' _ b h1 ae h2 (.root zS hb))
    obtain⟨a1,a2⟩:=Fe k2 (blk:=.arr e (es.take hh.toNat) false) (w':=w) ky vj (fun _ _=>rfl) (fun _ _ _=>rfl) (aC _) ⟨rfl,rfl⟩ (S.h.AA id _ b ae zS hb)
     (fun b' h=>(ee (h.flat zS)).symm) (fun hle=>.arr hL av rfl Qw (by rw[tY];exact mD (fE _ zO) I6) (fun h=>by cases h) (fun _=>iS rfl) fun i j y t' hy ht hj=>by
      grind)
    refine⟨_,w,I,_,dS,k1.trans a1,a2,?_⟩;have:=ak.whole (P:=P) (w:=w) (I:=I) (β:=aw β nb (some b)) (hp:=aw (aw hp id (some .dead)) nb (some (.arr e (es.take hh.toNat) false))) (cap:=cap) (cB _ _ _) (cB _ _ _) Jd zO hm;rw[tY]at this;exact this
theorem vu{t:TypeId}{x:V}(h:tO P t x=true):
  (∃q n,P.underlying t=some (.int q)∧x=.int q n∧cS q n=true)∨(∃b,P.underlying t=some .bool∧x=.bool b)∨(∃s,P.underlying t=some .string∧x=.str s∧s.length<=maxLen):=by
 unfold tO at h;split at h
 all_goals simp_all
theorem size_data(s:ByteArray):s.data.toList.length=s.size:=zS
theorem asn{q:IntKind}{n:Int}(h:cS q n=true):(Lit.int q n).wf=true:=h
theorem W8{t:TypeId}{x:V}{v:Value}(h:tO P t x=true)(hv:mj v x):∃l,mapKey P t v=some l∧∀d,P.keyLits (d+1) t [v]=some [l]:=by
 rcases vu h with⟨q,n,hu,rfl,hn⟩|⟨b,hu,rfl⟩|⟨s,hu,rfl,hs⟩
 .obtain rfl:v=.int q n:=hv;have hw:=asn hn;exact⟨.int q n,by simp[mapKey,hu,hw],fun d=>by simp[Program.keyLits,hu,hw]⟩
 .obtain rfl:v=.bool b:=hv;exact⟨.bool b,by simp[mapKey,hu],fun d=>by simp[Program.keyLits,hu]⟩
 .obtain⟨s',rfl,AR⟩:=hv;have:s'.size<=maxLen:=by rw[<-size_data,AR];exact hs
  exact⟨.string s'.data.toList,by simp[mapKey,hu,this],fun d=>by simp[Program.keyLits,hu,this]⟩
theorem W9{t:TypeId}:∀{xs:LV}{j:Nat}{x:V},yA P t xs=true->xs[j]?=some x->tO P t x=true
 |[],j,x,_,h=>by simp at h
 |y::ys,0,x,h,hx=>by
  simp only[yA,aZ]at h;grind
 |y::ys,j+1,x,h,hx=>by
  simp only[yA,aZ]at h;exact W9 (j:=j) h.2 zG
theorem mapM_some{α β:Type}{f:α->Option β}:∀{l:List α},(∀a∈l,∃b,f a=some b)->∃bs,l.mapM f=some bs
 |[],_=>⟨[],rfl⟩
 |a::l,h=>by
  obtain⟨b,hb⟩:=h a (B0 ..);obtain⟨bs,jT⟩:=mapM_some (l:=l) fun x hx=>h x (sB _ hx);simp_all
structure AS(P:Program)(t:TypeId)(fs:Array Field):Prop where
 hu:P.underlying t=some (.struct fs)
 size:P.cellsOf t=fs.size
 at_ : ∀ (i :Nat) f, fs[i]?=some f -> f.offset=i ∧ P.cellsOf f.type=1 ∧ (f.name != "_") =true ∧ P.plainKey f.type=true
 free:(!(P.cutTypes.any (·.2==t))&&!P.stoodInHeld t)=true
 runs:P.runs 0 fs.toList=some fs.size
theorem agv:∀{k:Nat}{l:List Field},Py P k l=true->(∀(i:Nat) f,l[i]?=some f->f.offset=k+i∧P.cellsOf f.type=1)∧P.runs k l=some (k+l.length)
 |k,[],_=>⟨fun i f h=>by simp at h,by simp[Program.runs]⟩
 |k,f::l,h=>by
  simp only[Py,aZ,bK]at h;obtain⟨a,b⟩:=agv (l:=l) h.2;refine⟨fun i g hg=>?_,?_⟩
  .grind
  .simp only[Program.runs];grind
theorem aso{t:TypeId}{fs:Array Field}(hu:P.underlying t=some (.struct fs))(h:VW P t fs=true):AS P t fs:=by
 unfold VW at h;rw[aZ,aZ,aZ]at h;obtain⟨⟨h1,h2⟩,h3,h4⟩:=h;rw[bK]at h1;obtain⟨a,b⟩:=agv h2;rw[dT,Array.length_toList]at b;refine⟨hu,h1,fun i f hf=>?_,h4,b⟩;obtain⟨a1,a2⟩:=a i f zG;grind
theorem asp{t:TypeId}(hp:P.plainKey t=true)(m:Nat):P.keyTypeAt (m+1) t=true:=by
 unfold Program.plainKey at hp;unfold Program.keyTypeAt;grind
theorem asq{t:TypeId}(hp:P.plainKey t=true)(m:Nat):P.tiled (m+1) t=true:=by
 unfold Program.plainKey at hp;unfold Program.tiled;grind
theorem AS.at{t:TypeId}{fs:Array Field}(A:AS P t fs)(m:Nat):P.keyTypeAt (m+2) t=true:=by
 unfold Program.keyTypeAt;rw[A.hu];have hf:=A.free;rw[aZ]at hf;simp only;rw[aZ,aZ];refine⟨⟨Array.all_eq_true.2 fun i hi=>?_,hf.1⟩,hf.2⟩;obtain⟨_,_,h3,h4⟩:=A.at_ i fs[i] (nh hi);rw[aZ];exact⟨h3,asp h4 m⟩
theorem AS.tiled{t:TypeId}{fs:Array Field}(A:AS P t fs):P.tiled 2 t=true:=by
 unfold Program.tiled;rw[A.hu];simp only;rw[aZ];refine⟨by rw[A.runs,A.size];simp,Array.all_eq_true.2 fun i hi=>?_⟩;exact asq (A.at_ i fs[i] (nh hi)).2.2.2 0
theorem AS.law{t:TypeId}{fs:Array Field}(A:AS P t fs):WideMaps.KeyLaw P t:=deep_law (m:=2) zO (A.at 0) A.tiled (by rw[A.hu])
theorem Qx:∀{ts:List TypeId}{xs:LV},yB P ts xs=true->xs.length=ts.length∧∀(j:Nat) t x,ts[j]?=some t->xs[j]?=some x->tO P t x=true
 |[],[],_=>⟨rfl,fun j t x h=>by simp at h⟩
 |[],_::_,h=>by cases h
 |_::_,[],h=>by cases h
 |t::ts,x::xs,h=>by
  simp only[yB,aZ]at h;obtain⟨a,b⟩:=Qx h.2;grind
inductive Qy(P:Program)(t:TypeId)(x:V):Prop
 |one:tO P t x=true->x.cells=[x]->Qy P t x
 |arr {n:Nat}{e:TypeId}{xs:LV}:x=.agg xs->WideMaps.ArrKey P t e n->xs.length=n->0<P.types.size->yA P e xs=true->Qy P t x
 |str {fs:Array Field}{xs:LV}:x=.agg xs->AS P t fs->0<P.types.size->yB P (fs.toList.map (·.type)) xs=true->Qy P t x
theorem CM{t:TypeId}{x:V}(h:tP P t x=true):Qy P t x:=by
 unfold tP at h;split at h
 .rename_i n e xs hu;simp only[aZ,bK]at h;rw[rb]at h;exact .arr rfl ⟨hu,h.2.2.2.1,h.2.1,h.2.2.1⟩ h.1 h.2.2.2.2.1 h.2.2.2.2.2
 .rename_i fs xs hu;rw[aZ,aZ,rb]at h;exact .str rfl (aso hu h.1) h.2.1 h.2.2
 .refine .one h ?_;rcases vu h with⟨q,n,hu,rfl,hn⟩|⟨b,hu,rfl⟩|⟨s,hu,rfl,hs⟩<;>rfl
theorem yK.one{x:V}{v:Value}(h:yK v x)(hx:x.cells=[x]):mj v x:=by
 cases x<;>first|exact h|skip
 simp only[V.cells]at hx;rename_i cs;have:=congrArg List.length hx;cases cs with
 |nil=>simp at hx
 |cons c cs=>
  simp only[EN]at hx;have:=congrArg SizeOf.sizeOf hx.1;grind
theorem asr{ts:List TypeId}{xs:LV}{cs:Array Value}(hf:yB P ts xs=true)(hs:cs.size=xs.length)(hc:∀(j:Nat) (u:Value) (y:V),cs[j]?=some u->xs[j]?=some y->mj u y){i:Nat}{t:TypeId}(ht:ts[i]?=some t):
  ∃l,∀d,P.keyLits (d+1) t ((cs.toList.drop i).take 1)=some [l]:=by
 obtain⟨a,b⟩:=Qx hf;have hi:=(dw.1 ht).1;have kT:i<cs.size:=zO;have sU:i<xs.length:=zO;obtain⟨l,_,h2⟩:=W8 (b i t xs[i] ht (cA sU)) (hc i cs[i] xs[i] (nh kT) (cA sU));refine⟨l,fun d=>?_⟩;have e1:(cs.toList.drop i).take 1=[cs[i]]:=by
  rw[BW zO];simp
 grind
theorem Qz{t:TypeId}{x:V}{v:Value}(h:tP P t x=true)(hv:yK v x):∃l,Go.keyOf P t v=some l:=by
 cases CM h with
 |one h1 hx=>
  obtain⟨l,hl,_⟩:=W8 h1 (hv.one hx);refine⟨l,?_⟩;rcases vu h1 with⟨q,n,hu,_⟩|⟨b,hu,_⟩|⟨s,hu,_⟩<;>simp only[Go.keyOf,hu,hl]
 |@arr n e xs hx A hl hp0 hf=>
  subst hx;obtain⟨cs,rfl,hs,hc⟩:=hv;obtain⟨m,hm⟩:∃m,P.types.size=m+1:=⟨P.types.size-1,zO⟩
  have Xa:=A.keyType ⟨m,hm⟩;have hlen:cs.toList.length=P.cellsOf t:=by rw[A.size];grind
  have Je:(Value.agg cs).formed P t=true:=by simp[Value.formed,A.hu,A.size,hs,hl]
  have hex:∀i∈List.range n,∃y,P.keyLits (m+1) e (((Value.agg cs).cells.toList.drop (i*P.cellsOf e)).take (P.cellsOf e))=some y:=by
   intro i hi;have hi:=lj.1 hi;rw[A.one];have kT:i<cs.size:=zO;have sU:i<xs.length:=zO;obtain⟨l,_,h2⟩:=W8 (W9 hf (cA sU)) (hc i cs[i] xs[i] (nh kT) (cA sU));have e1:((Value.agg cs).cells.toList.drop (i*1)).take 1=[cs[i]]:=by
    show(cs.toList.drop (i*1)).take 1=_;rw[lI,BW zO];simp
   simp_all
  obtain⟨bs,jT⟩:=mapM_some hex;refine⟨.string (keyBytes bs.flatten),?_⟩;have ass:(Value.agg cs).cells.toList.length=P.cellsOf t:=hlen;unfold Go.keyOf;rw[A.hu];simp only[Xa,Je,H4,jZ];unfold Program.keyLits;rw[A.hu,hm];grind
 |@str fs xs hx A hp0 hf=>
  subst hx;obtain⟨cs,rfl,hs,hc⟩:=hv;obtain⟨m,hm⟩:∃m,P.types.size=m+1:=⟨P.types.size-1,zO⟩
  have Xa:P.keyType t=true:=by
   unfold Program.keyType;rw[hm];exact A.at m
  have pT:=(Qx hf).1;rw[cu,Array.length_toList]at pT;have Je:(Value.agg cs).formed P t=true:=by simp[Value.formed,A.hu,A.size,hs];exact pT
  have hlen:(Value.agg cs).cells.toList.length=P.cellsOf t:=by
   show cs.toList.length=_;rw[A.size];grind
  have pN :fs.all (·.name != "_") =true :=Array.all_eq_true.2 fun i hi=> (A.at_ i fs[i] (nh hi)).2.2.1;have hex: ∀f∈fs.toList,∃y,P.keyLits (m+1) f.type (((Value.agg cs).cells.toList.drop f.offset).take (P.cellsOf f.type))=some y:=by
   intro f Je;obtain⟨i,hi⟩:=wh Je;obtain⟨a1,a2,_,_⟩:=A.at_ i f zG;rw[a1,a2];obtain⟨l,hl⟩:=asr hf hs hc (i:=i) (t:=f.type) zG;exact⟨_,hl m⟩
  obtain⟨bs,jT⟩:=mapM_some hex;refine⟨.string (keyBytes bs.flatten),?_⟩;unfold Go.keyOf;rw[A.hu];simp only[Xa,Je,H4,jZ];unfold Program.keyLits;rw[A.hu,hm];grind
theorem Xb{t:TypeId}{x:V}(h:tP P t x=true):Keyed P t:=by
 cases CM h with
 |one h1 hx=>
  rcases vu h1 with⟨q,n,hu,_⟩|⟨b,hu,_⟩|⟨s,hu,_⟩
  .exact int_keyed hu
  .exact bool_keyed hu
  .exact string_keyed hu
 |arr hx A hl _ hf=>exact Keyed.of_law A.law
 |str hx A _ hf=>exact Keyed.of_law A.law
theorem Xc{t:TypeId}{x y:V}{v u:Value}(h1:tO P t x=true)(h2:tO P t y=true)(hv:mj v x)(hu:mj u y):u6 x y=true↔v=u:=by
 rcases vu h1 with⟨q,n,kA,rfl,_⟩|⟨b,kA,rfl⟩|⟨s,kA,rfl,_⟩<;>
 rcases vu h2 with⟨q',n',w7,rfl,_⟩|⟨b',w7,rfl⟩|⟨s',w7,rfl,_⟩<;>
  (rw[kA]at w7;cases w7)
 .obtain rfl:v=.int q n:=hv;obtain rfl:u=.int q n':=hu;simp[u6]
 .obtain rfl:v=.bool b:=hv;obtain rfl:u=.bool b':=hu;simp[u6]
 .obtain⟨s1,rfl,e1⟩:=hv;obtain⟨s2,rfl,e2⟩:=hu;simp only[u6,EO,Value.string.injEq,<-e1,<-e2];constructor
  .intro h;have:=Array.toList_inj.1 h;cases s1;simp_all
  grind
theorem agw{t:TypeId}:∀{xs ys:LV}{vs us:List Value},yA P t xs=true->yA P t ys=true->xs.length=ys.length->vs.length=xs.length->us.length=ys.length->
  (∀(j:Nat) v x,vs[j]?=some v->xs[j]?=some x->mj v x)->(∀(j:Nat) v x,us[j]?=some v->ys[j]?=some x->mj v x)->(pP xs ys=true↔vs=us)
 |[],[],vs,us,_,_,_,h1,h2,_,_=>by
  have e1:=sA (l:=vs) zO;have e2:=sA (l:=us) zO;simp[pP,e1,e2]
 |[],_::_,_,_,_,_,h,_,_,_,_=>by simp at h
 |_::_,[],_,_,_,_,h,_,_,_,_=>by simp at h
 |x::xs,y::ys,[],us,_,_,_,h,_,_,_=>by simp at h
 |x::xs,y::ys,v::vs,[],_,_,_,_,h,_,_=>by simp at h
 |x::xs,y::ys,v::vs,u::us,f1,f2,h,h1,h2,r1,r2=>by
  simp only[yA,aZ]at f1 f2;have a:=Xc f1.1 f2.1 (r1 0 v x rfl rfl) (r2 0 u y rfl rfl);have b:=agw (vs:=vs) (us:=us) f1.2 f2.2 zG zG zG (fun j v x hj hx=>r1 (j+1) v x zG zG) (fun j v x hj hx=>r2 (j+1) v x zG zG);simp only[pP,aZ,a,b,EN]
theorem agx:∀{ts:List TypeId}{xs ys:LV}{vs us:List Value},yB P ts xs=true->yB P ts ys=true->vs.length=xs.length->us.length=ys.length->
  (∀(j:Nat) v x,vs[j]?=some v->xs[j]?=some x->mj v x)->(∀(j:Nat) v x,us[j]?=some v->ys[j]?=some x->mj v x)->(pP xs ys=true↔vs=us)
 |[],[],[],vs,us,_,_,h1,h2,_,_=>by
  have e1:=sA (l:=vs) zO;have e2:=sA (l:=us) zO;simp[pP,e1,e2]
 |[],_::_,_,_,_,h,_,_,_,_,_=>by cases h
 |[],[],_::_,_,_,_,h,_,_,_,_=>by cases h
 |_::_,[],_,_,_,h,_,_,_,_,_=>by cases h
 |_::_,_::_,[],_,_,_,h,_,_,_,_=>by cases h
 |t::ts,x::xs,y::ys,[],us,_,_,h,_,_,_=>by simp at h
 |t::ts,x::xs,y::ys,v::vs,[],_,_,_,h,_,_=>by simp at h
 |t::ts,x::xs,y::ys,v::vs,u::us,f1,f2,h1,h2,r1,r2=>by
  simp only[yB,aZ]at f1 f2;have a:=Xc f1.1 f2.1 (r1 0 v x rfl rfl) (r2 0 u y rfl rfl);have b:=agx (vs:=vs) (us:=us) f1.2 f2.2 zG zG (fun j v x hj hx=>r1 (j+1) v x zG zG) (fun j v x hj hx=>r2 (j+1) v x zG zG);simp only[pP,aZ,a,b,EN]
theorem Xd{t:TypeId}{x y:V}{v u:Value}(h1:tP P t x=true)(h2:tP P t y=true)(hv:yK v x)(hu:yK u y):jF x y=true↔v=u:=by
 unfold jF;cases CM h1 with
 |one f1 c1=>
  cases CM h2 with
  |one f2 c2=>
   rw[c1,c2];simp only[pP,B1];exact Xc f1 f2 (hv.one c1) (hu.one c2)
  |arr hy A hl _ hf=>
   rcases vu f1 with⟨q,n,kA,_⟩|⟨b,kA,_⟩|⟨s,kA,_⟩<;>(rw[A.hu]at kA;cases kA)
  |str hy A _ hf=>
   rcases vu f1 with⟨q,n,kA,_⟩|⟨b,kA,_⟩|⟨s,kA,_⟩<;>(rw[A.hu]at kA;cases kA)
 |arr hx A hl _ hf=>
  cases CM h2 with
  |one f2 c2=>
   rcases vu f2 with⟨q,n,kA,_⟩|⟨b,kA,_⟩|⟨s,kA,_⟩<;>(rw[A.hu]at kA;cases kA)
  |arr hy A2 sE _ Jf=>
   have lq:=A.hu.symm.trans A2.hu;cases lq;subst hx;subst hy;obtain⟨cs,rfl,s1,r1⟩:=hv;obtain⟨ds,rfl,s2,r2⟩:=hu;have:=agw (vs:=cs.toList) (us:=ds.toList) hf Jf zO zO zO (fun j v x hj hx=>r1 j v x zG hx) (fun j v x hj hx=>r2 j v x zG hx);simp only[V.cells,this,Value.agg.injEq];simp_all
  |str hy A2 _ Jf=>
   have lq:=A.hu.symm.trans A2.hu;cases lq
 |str hx A _ hf=>
  cases CM h2 with
  |one f2 c2=>
   rcases vu f2 with⟨q,n,kA,_⟩|⟨b,kA,_⟩|⟨s,kA,_⟩<;>(rw[A.hu]at kA;cases kA)
  |arr hy A2 sE _ Jf=>
   have lq:=A.hu.symm.trans A2.hu;cases lq
  |str hy A2 _ Jf=>
   have lq:=A.hu.symm.trans A2.hu;cases lq;subst hx;subst hy;obtain⟨cs,rfl,s1,r1⟩:=hv;obtain⟨ds,rfl,s2,r2⟩:=hu;have:=agx (vs:=cs.toList) (us:=ds.toList) hf Jf zO zO (fun j v x hj hx=>r1 j v x zG hx) (fun j v x hj hx=>r2 j v x zG hx);simp only[V.cells,this,Value.agg.injEq];simp_all
theorem agy{k:V}:∀{es:LV},(∀x∈es,jF k (x.comp 0)=false)->fi k es=false∧(∀z,gV k es z=z)∧∀v,fj k v es=es++[.ct [k,v]]
 |[],_=>⟨rfl,fun _=>rfl,fun _=>rfl⟩
 |e::es,h=>by
  have h0:=h e (B0 ..);obtain⟨a,b,c⟩:=agy (k:=k) (es:=es) fun x hx=>h x (sB _ hx);exact⟨by simp[fi,h0,a],fun z=>by simp[gV,h0,b],fun v=>by simp[fj,h0,c]⟩
theorem agz{k:V}:∀{es:LV}{j:Nat}{k' y:V},es[j]?=some (.ct [k',y])->jF k k'=true->(∀i x,i<j->es[i]?=some x->jF k (x.comp 0)=false)->
  fi k es=true∧(∀z,gV k es z=y)∧∀v,fj k v es=es.set j (.ct [k',v])
 |[],j,k',y,h,_,_=>by simp at h
 |e::es,0,k',y,h,he,_=>by
  simp at h;subst h;exact⟨by simp[fi,V.comp,V.nth,he],fun z=>by simp[gV,V.comp,V.nth,he],fun v=>by simp[fj,V.comp,V.nth,he]⟩
 |e::es,j+1,k',y,h,he,bt=>by
  have h0:=bt 0 e zO rfl;obtain⟨a,b,c⟩:=agz (k:=k) (es:=es) (j:=j) (by simpa using h) he fun i x hi hx=>bt (i+1) x zO zG;exact⟨by simp[fi,h0,a],fun z=>by simp[gV,h0,b],fun v=>by simp[fj,h0,c]⟩
theorem agA{kt vt:TypeId}{E:Array MapEntry}{es:LV}{k:V}{kv:Value}(hs:E.size=es.length)(hx:∀(j:Nat) (e:MapEntry) (x:V),E[j]?=some e->es[j]?=some x->PT P kt vt e x)
  (hn:E.toList.Pairwise (fun a b=>a.key≠b.key)) (hk:tP P kt k=true) (QA:yK kv k) (w:World):
  ((Instr.findKey kt kv E.toList).run P w=.ok none w∧(∀e∈E.toList,e.key≠kv)∧fi k es=false∧(∀z,gV k es z=z)∧∀v,fj k v es=es++[.ct [k,v]])∨
  ∃j e k' y,(Instr.findKey kt kv E.toList).run P w=.ok (some (j,e.val)) w∧E[j]?=some e∧e.key=kv∧es[j]?=some (.ct [k',y])∧tP P kt k'=true∧yK kv k'∧fR P vt y=true∧mj e.val y∧
   fi k es=true∧(∀z,gV k es z=y)∧∀v,fj k v es=es.set j (.ct [k',v]):=by
 have K:=Xb hk;obtain⟨l,hl⟩:=Qz hk QA;have ent:∀(j:Nat) x,es[j]?=some x->∃e,E[j]?=some e∧PT P kt vt e x:=by
  intro j x hj;have bt:j<E.size:=zG;exact⟨E[j],nh bt,hx j _ x (nh bt) hj⟩
 have keys:∀e∈E.toList,∃l,Go.keyOf P kt e.key=some l:=by
  intro e he;obtain⟨j,hj⟩:=wh he;have kz:E[j]?=some e:=zG;have bt:j<es.length:=zG;obtain⟨k',y,_,h1,h2,_⟩:=hx j e es[j] kz (cA bt);exact Qz h1 h2
 rcases K.find w hl E.toList keys with⟨h1,h2⟩|⟨j,e,h1,h2,h3⟩
 .left;refine⟨h1,h2,agy fun x Qp=>?_⟩;obtain⟨j,hj⟩:=wh Qp;obtain⟨e,he,k',y,rfl,f1,f2,_⟩:=ent j x hj;cases hq:jF k (V.comp (.ct [k',y]) 0)with
  |false=>rfl
  |true=>
   have:=(Xd hk f1 QA f2).1 hq;grind
 .right;have hE:E[j]?=some e:=zG;have bt:j<es.length:=zG;obtain⟨k',y,hy,f1,f2,f3,f4⟩:=hx j e es[j] hE (cA bt);have hj:=cA bt;rw[hy]at hj;rw[h3]at f2;refine⟨j,e,k',y,h1,hE,h3,hj,f1,f2,f3,f4,agz hj ((Xd hk f1 QA f2).2 rfl) fun i x hi o7=>?_⟩;obtain⟨e',Qq,k2,y2,rfl,g1,g2,_⟩:=ent i x o7;cases hq:jF k (V.comp (.ct [k2,y2]) 0)with
  |false=>rfl
  |true=>
   have:=(Xd hk g1 QA g2).1 hq;have i1:i<E.toList.length:=zG;have i2:j<E.toList.length:=by simp;omega
   have:=EP.1 hn i j i1 i2 hi;grind
theorem ak.Xe{v:Value}{x:V}(h:ak P w I β hp v x){t:TypeId}(hx:tO P t x=true):mj v x:=by
 rcases vu hx with⟨q,n,_,rfl,_⟩|⟨b,_,rfl⟩|⟨s,_,rfl,_⟩
 .exact h.jo
 .exact h.o5
 .exact h.rD
theorem ak.agB{v:Value}{x:V}(h:ak P w I β hp v x){t:TypeId}(hx:tP P t x=true):yK v x:=by
 cases CM hx with
 |one f c=>
  have:=h.Xe f;cases x<;>first|exact this|cases this
 |arr hx A hl _ hf=>
  subst hx;obtain⟨cs,rfl,h1,h2⟩:=h.o6;exact⟨cs,rfl,h1,fun j u y hu hy=>(h2 j u y hu hy).Xe (W9 hf hy)⟩
 |str hx A _ hf=>
  subst hx;obtain⟨cs,rfl,h1,h2⟩:=h.o6;obtain⟨a,b⟩:=Qx hf;refine⟨cs,rfl,h1,fun j u y hu hy=>?_⟩;have hj:=(dw.1 hy).1;exact(h2 j u y hu hy).Xe (b j _ y (cA zO) hy)
theorem agC{vt:TypeId}{y:V}(h:mapVal P vt=true)(ht:fR P vt y=true):(∃q n,P.underlying vt=some (.int q)∧y=.int q n)∨∃b,P.underlying vt=some .bool∧y=.bool b:=by
 unfold mapVal at h;unfold fR at ht;grind
theorem mj.Xf{vt:TypeId}{v:Value}{y:V}(h:mapVal P vt=true)(ht:fR P vt y=true)(hv:mj v y):ak P w I β hp v y:=by
 rcases agC h ht with⟨q,n,_,rfl⟩|⟨b,_,rfl⟩
 .obtain rfl:v=.int q n:=hv;exact .int
 .obtain rfl:v=.bool b:=hv;exact .bool
theorem ak.ast{vt:TypeId}{v:Value}{y:V}(h:mapVal P vt=true)(ht:fR P vt y=true)(hv:ak P w I β hp v y):mj v y:=by
 rcases agC h ht with⟨q,n,_,rfl⟩|⟨b,_,rfl⟩
 .exact hv.jo
 .exact hv.o5
theorem asu{vt:TypeId}{z:V}(h:Pz P vt=some z)(w:World):∃v,(zeroValue vt).run P w=.ok v w∧mj v z:=by
 unfold Pz at h;cases hi:P.info? vt with
 |none=>grind
 |some i=>
  rw[hi]at h;simp only[Option.bind_some]at h;cases hz:i.zero with
  |none=>grind
  |some v=>
   rw[hz]at h;refine⟨v,by simp[zeroValue,typeInfo,hi,hz],?_⟩;cases v<;>simp only at h<;>first|(cases h;done)|skip
   .cases h;rfl
   .cases h;rfl
theorem Xg{t kt vt:TypeId}(h:rp P t=some (kt,vt)):P.underlying t=some (.map kt vt):=by
 unfold rp at h;grind
theorem Xh(S:aK P w I β hp B M w0){ok:Bool}{v:Value}{x:V}{b:Bool}{r:R}{rd:LN}{res:Result Value}(hv:ak P w I β hp v x)
  (hr:res=.ok (if ok then .tuple #[v,.bool b]else v) w) (h:(PA ok x b).run C hp=some (r,rd)):eP P res w I β hp B M w0 r:=by
 unfold PA at h;obtain rfl:=bG h;cases ok with
 |false=>exact .same S hr hv
 |true=>
  refine .same S hr (.ct rfl fun j u y hu hy=>?_)
  match j,hu,hy with
  |0,hu,hy=>grind
  |1,hu,hy=>simp at hu hy;subst hu;subst hy;exact .bool
  |j+2,hu,hy=>simp at hy
theorem asv(S:aK P w I β hp B M w0){t kt vt:TypeId}(ht:rp P t=some (kt,vt)){m k:Value}{mx kx:V}{ok:Bool}{r:R}{rd:LN}(hm:ak P w I β hp m mx)(hk:ak P w I β hp k kx)
  (h:(VX P t mx kx ok).run C hp=some (r,rd)):eP P ((Instr.lookup t m k ok).run P w) w I β hp B M w0 r:=by
 unfold VX at h;rw[ht]at h;simp only at h;cases hz:Pz P vt with
 |none=>rw[hz]at h;cases h
 |some z=>
  rw[hz]at h;obtain⟨hc,h'⟩:=aX h;clear h;have h:=h';clear h';simp only[aZ]at hc;obtain⟨w8,Jg,QB⟩:=hc;have hu:=Xg ht;have w9:=hk.agB w8;have K:=Xb w8;obtain⟨l,hl⟩:=Qz w8 w9;obtain⟨zv,hzr,hzk⟩:=asu hz w;cases mx<;>simp only at h<;>first|(cases h;done)|skip
  .rename_i t' id;obtain⟨qC,h'⟩:=aX h;clear h;have h:=h';clear h';rw[bK]at qC;subst qC;obtain⟨l2,h'⟩:=run_get h;clear h;have h:=h';clear h';cases ae:hp id with
   |none=>rw[ae]at h;cases h
   |some blk=>
    rw[ae]at h;cases blk<;>simp only at h<;>first|(cases h;done)|skip
    rename_i t2 es;obtain⟨qC,h'⟩:=aX h;clear h;have h:=h';clear h';rw[bK]at qC;subst qC;cases hm with
    |mK hd=>grind
    |@cX _ _ b bm hd hb=>
     rw[ae]at hd;cases hd;have hr:=S.h.rel id _ ae;cases hr with
     |@map _ kt' vt' _ b' clock E lS aI hh hs hI hx hn=>
      rw[hb]at aI;cases aI;rw[hu]at lS;cases lS;rcases agA hs hx hn w8 w9 w with⟨h1,_,h3,h4,_⟩|⟨j,e,k',y,h1,_,_,_,_,_,h6,h7,h3,h4,_⟩
      .rw[h3,h4,Cy QB]at h;refine Xh S (mj.Xf Jg QB hzk) ?_ h;unfold Instr.lookup;simp only[Sem.run_bind,run_underlying hu,Result.andThen_ok,Go.MapKept.run_getObj_map hh,Sem.run_pure,K.check w E.isEmpty hl,h1,hzr]
      .rw[h3,h4,Cy h6]at h;refine Xh S (mj.Xf Jg h6 h7) ?_ h;unfold Instr.lookup;simp only[Sem.run_bind,run_underlying hu,Result.andThen_ok,Go.MapKept.run_getObj_map hh,Sem.run_pure,K.check w E.isEmpty hl,h1]
  .rename_i t';obtain⟨qC,h⟩:=aX h;cases hm;rw[Cy QB]at h;refine Xh S (mj.Xf Jg QB hzk) ?_ h;have hf:(Instr.findKey kt k []).run P w=.ok none w:=by
    rcases K.find w hl [] zS with⟨h1,_⟩|⟨j,e,_,h2,_⟩
    all_goals grind
   unfold Instr.lookup;simp[run_underlying hu,K.check w true hl,hf,hzr]
theorem asw(S:aK P w I β hp B M w0){t:TypeId}{nb:Nat}{r:R}{rd:LN}(h:(Rd.aQ (rp P t).isSome (kM nb (.map t []) (.cX t nb) [])).run C hp=some (r,rd)):
  eP P ((Instr.makeMap t none).run P w) w I β hp B M w0 r:=by
 obtain⟨ht,h⟩:=aX h;obtain⟨hn,rfl⟩:=oy h;obtain⟨⟨kt,vt⟩,ht⟩:=Option.isSome_iff_exists.1 ht;have hu:=Xg ht;have ep:∀j,¬I w.heap.size j:=fun j h=>qs _ (S.h.ln _ j h);have eQ:(w.alloc (.map #[] 0)).heap[w.heap.size]?=some (.map #[] 0):=heap_alloc_new w _;obtain⟨a1,a2⟩:=Fe S (w':=w.alloc (.map #[] 0)) (blk:=.map t []) (b:=w.heap.size) hn (fun ax blk' h ho=>qs _ (S.h.lt h ho)) (fun j h=>absurd h (ep j))
  (fun b' _ bt=>heap_alloc_old w _ b' bt) zS ⟨rfl,rfl⟩ (.inr S.size) (fun b' h=>(ee (h.flat zS)).symm)
  (fun _=>.map hu rfl eQ rfl ep (fun j e x he _=>by simp at he) zS)
 exact⟨_,_,_,_,Go.RowKit.run_makeMap t w,a1,a2,.cX (cB _ _ _) (cB _ _ _)⟩
theorem agD(S:aK P w I β hp B M w0){t kt vt:TypeId}(ht:rp P t=some (kt,vt)){m k v:Value}{mx kx vx:V}{r:R}{rd:LN}(hm:ak P w I β hp m mx)(hk:ak P w I β hp k kx)(hv:ak P w I β hp v vx)
  (h:(PB P t mx kx vx).run C hp=some (r,rd)):vl P ((Instr.mapUpdate t m k v).run P w) w I β hp B M w0 r:=by
 unfold PB at h;rw[ht]at h;obtain⟨hc,h'⟩:=aX h;clear h;have h:=h';clear h';simp only[aZ]at hc;obtain⟨w8,Jg,Jh⟩:=hc;have hu:=Xg ht;have w9:=hk.agB w8;have sP:=ak.ast Jg Jh hv;have K:=Xb w8;obtain⟨l,hl⟩:=Qz w8 w9;cases mx<;>simp only at h<;>first|(cases h;done)|skip
 rename_i t' id;obtain⟨qC,h'⟩:=aX h;clear h;have h:=h';clear h';rw[bK]at qC;subst qC;obtain⟨l2,h'⟩:=run_get h;clear h;have h:=h';clear h';cases ae:hp id with
 |none=>rw[ae]at h;cases h
 |some blk=>
  rw[ae]at h;cases blk<;>simp only at h<;>first|(cases h;done)|skip
  rename_i t2 es;obtain⟨qC,h'⟩:=aX h;clear h;have h:=h';clear h';rw[bK]at qC;subst qC;obtain rfl:=bG h;cases hm with
  |mK hd=>grind
  |@cX _ _ b bm hd hb=>
   rw[ae]at hd;cases hd;have hr:=S.h.rel id _ ae;cases hr with
   |@map _ kt' vt' _ b' clock E lS aI hh hs hI hx hn=>
    rw[hb]at aI;cases aI;rw[hu]at lS;cases lS;have bt:b<w.heap.size:=(B4.1 hh).1;have fin:∀(E':Array MapEntry) (Ji:Nat),(Instr.mapUpdate t (.map (some b)) k v).run P w=.ok () {w with heap:=w.heap.setIfInBounds b (.map E' Ji)}->E'.size=(fj kx vx es).length->
      (∀(j:Nat) (e:MapEntry) (x:V),E'[j]?=some e->(fj kx vx es)[j]?=some x->PT P kt vt e x)->E'.toList.Pairwise (fun a b=>a.key≠b.key)->
      vl P ((Instr.mapUpdate t (.map (some b)) k v).run P w) w I β hp B M w0 ⟨.undef,[(id,.map t (fj kx vx es))]⟩:=by
     intro E' Ji dS AR eo hn';have eQ:({w with heap:=w.heap.setIfInBounds b (.map E' Ji)}:World).heap[b]?=some (.map E' Ji):=by simp[bt]
     obtain⟨a1,a2⟩:=Wo S (w':={w with heap:=w.heap.setIfInBounds b (.map E' Ji)}) (blk':=.map t (fj kx vx es)) ae zS rfl hb hI zS
      (fun b' aI=>zG) (by simp only[bsize,eQ,hh]) zS ⟨rfl,rfl⟩ (fun _=>.map hu rfl eQ AR hI eo hn')
     exact⟨_,I,β,dS,a1,a2,rfl⟩
    rcases agA hs hx hn w8 w9 w with⟨h1,h2,_,_,h5⟩|⟨j,e,k',y,h1,hE,hek,hes,asx,asy,_,_,_,_,h5⟩
    .have e5:=h5 vx;refine fin (E.push {key:=k,val:=v,born:=clock}) (clock+1) ?_ zG (fun j e x he qA=>?_) ?_
     .unfold Instr.mapUpdate;simp only[Sem.run_bind,run_underlying hu,Result.andThen_ok,Go.MapKept.run_getObj_map hh,K.check w false hl,h1,Go.MapKept.run_setObj_map _ hh]
     .rw[e5]at qA;rw[Array.getElem?_push]at he;split at he
      .rename_i hj;rw[tL zO,hj,hs,Nat.sub_self]at qA;simp at he qA;subst he;subst qA;exact⟨kx,vx,rfl,w8,w9,Jh,sP⟩
      grind
     grind
    .have e5:=h5 vx;have hj:j<E.size:=(B4.1 hE).1;refine fin (E.modify j fun e=>{e with key:=k,val:=v}) clock ?_ zG (fun i e' x he o7=>?_) ?_
     .have cv:=K.stays w hl;unfold Instr.mapUpdate;simp only[Sem.run_bind,run_underlying hu,Result.andThen_ok,Go.MapKept.run_getObj_map hh,K.check w false hl,h1];simp only[hE,Option.map_some,Option.getD_some,hek,cv,Result.andThen_ok,Go.MapKept.run_setObj_map _ hh]
     .rw[e5]at o7;rw[Array.getElem?_modify]at he;rw[yp]at o7;split at he
      .rename_i Xi;subst Xi;rw[ai rfl,aU]at o7;rw[hE]at he;simp at he o7;subst he;subst o7;exact⟨k',vx,rfl,asx,asy,Jh,sP⟩
      grind
     .have hke:∀i (h1:i<(E.modify j fun e=>{e with key:=k,val:=v}).toList.length) (h2:i<E.toList.length),((E.modify j fun e=>{e with key:=k,val:=v}).toList[i]).key=(E.toList[i]).key:=by
       grind
      rw[EP]at hn⊢;grind
theorem asz(S:aK P w I β hp B M w0){t ty kt vt:TypeId}{v:Value}{x:V}{r:R}{rd:LN}(hu:P.underlying t=some (.map kt vt))(hv:ak P w I β hp v x)
  (h:(PC x).run C hp=some (r,rd)):eP P ((Builtin.len_ #[t] ty #[v]).run P w) w I β hp B M w0 r:=by
 unfold PC at h;cases x<;>simp only at h<;>first|(cases h;done)|skip
 .rename_i t' id;obtain⟨l2,h'⟩:=run_get h;clear h;have h:=h';clear h';cases ae:hp id with
  |none=>rw[ae]at h;cases h
  |some blk=>
   rw[ae]at h;cases blk<;>simp only at h<;>first|(cases h;done)|skip
   rename_i t2 es;obtain rfl:=bG h;cases hv with
   |mK hd=>grind
   |@cX _ _ b bm hd hb=>
    rw[ae]at hd;cases hd;have hr:=S.h.rel id _ ae;cases hr with
    |@map _ kt' vt' _ b' clock E lS aI hh hs hI hx hn=>
     rw[hb]at aI;cases aI;refine .same S (v:=.int .i64 E.size) (by simp[Builtin.len_,run_underlying hu,Go.MapKept.run_getObj_map hh,goInt]) ?_;rw[hs];exact .int
 .obtain rfl:=bG h;cases hv;exact .same S (v:=.int .i64 0) (by simp[Builtin.len_,run_underlying hu,goInt]) .int
theorem ak.Xj{v:Value}{t:TypeId}(h:ak P w I β hp v (.fQ t)):v=.map none:=by cases h;rfl
theorem ak.asA{v:Value}{t t':TypeId}{id:Nat}{es:LV}(h:ak P w I β hp v (.cX t id))(ae:hp id=some (.map t' es)):∃b,v=.map (some b):=by
 cases h with
 |mK h=>grind
 |cX h hb=>grind
theorem agE(S:aK P w I β hp B M w0){op:BinOp}{t:TypeId}{a:Option Nat}{r:R}{rd:LN}(x y:Operand)
  (h:(Pv P op t a.isNone).run C hp=some (r,rd)):eP P ((do eqGuard op t x y (.map a) (.map none);binOp op t (.map a) (.map none)).run P w) w I β hp B M w0 r:=by
 unfold Pv at h;split at h
 case h_2=>cases h
 rename_i kt vt hu;have he:(Op.equal t (.map a) (.map none)).run P w=.ok a.isNone w:=by
  show(Op.equalIn (9999+1) t (.map a) (.map none)).run P w=_;rw[Op.equalIn];cases a<;>simp[Sem.run_bind,run_underlying hu,Result.andThen_ok,Sem.run_pure]
 cases op<;>simp only at h<;>first|(cases h;done)|skip
 .obtain rfl:=bG h;exact .same S (by simp[eqGuard,binOp,he]) .bool
 .obtain rfl:=bG h;exact .same S (by simp[eqGuard,binOp,he]) .bool
end
end
section
variable {P:Program}{w w':World}{I I':Nat->Nat->Prop}{β β':Nat->Option Nat}{hp hp':Nat->Option ah}{C:ab}{B:Nat}{M:Nat->Prop}{w0:Start}
theorem asB{e:TypeId}(he:P.underlying e=some (.int .u8))(hc:P.cellsOf e=1)(s:ByteArray):∀(i j:Nat) (x:V) (t':TypeId),(s.data.toList.map yF)[i]?=some x->(bA P e)[j]?=some t'->j<P.cellsOf e->
  ∃u,(Lib.strCells s)[i*P.cellsOf e+j]?=some u∧Pure P w I t' u (cT P e x j):=by
 intro i j x t' hx ht hj;have vp:cP P e=false:=by simp[cP,he]
 obtain rfl:j=0:=zO;simp only[bA,vp,cond_false,List.getElem?_cons_zero,gi]at ht;subst ht;rw[j5]at hx;cases hb:s.data.toList[i]?with
 |none=>grind
 |some b=>
  rw[hb]at hx;cases hx;refine⟨.int .u8 b.toNat,?_,?_⟩
  .rw[hc,lI,Nat.add_zero];simp only[Lib.strCells,j5,hb,Option.map_some]
  .simp only[cT,vp,cond_false];exact .int he
theorem asC(w:World)(t u ty e T:TypeId)(i:TypeInfo)(ht:P.underlying t=some (.slice e))(hu:P.underlying u=some .string)(hi:P.info? e=some i)(nq:i.size=1)
  (g qE CI:Nat) (cur:Array Value) (hg:w.heap[g]?=some (.cells cur T (0,0))) (s:ByteArray)
  (wS:qE+s.size<=CI) (Fs:qE+s.size<=cur.size):
  (Builtin.append_ #[t,u] ty #[.slice (some ⟨g,0,none⟩) qE CI,.string s]).run P w=
   .ok (.slice (some ⟨g,0,none⟩) (qE+s.size) CI) (w.setRow g (cur.toList.take qE++Lib.strCells s++cur.toList.drop (qE+s.size)).toArray):=by
 have hf:=Lib.run_firstCells_string (P:=P) w 1 s;have cv:=run_storeCells_at P g qE T (Lib.strCells s) 0 cur w hg (by simpa[Lib.strCells_length]using Fs) (Lib.strCells_oneCell s);simp only[Nat.add_zero,Lib.strCells_length]at cv;simp[Builtin.append_,run_underlying ht,run_underlying hu,sizeOf,typeInfo,hi,nq,Builtin.lenOf,wS,hf,Addr.add_lit,cv]
theorem asD(w:World)(t u ty e:TypeId)(i:TypeInfo)(z:Value)(ht:P.underlying t=some (.slice e))(hu:P.underlying u=some .string)(hi:P.info? e=some i)(hz:i.zero=some z)
  (s:ByteArray) (h0:0<s.size) (Qt:(s.size:Int)<=9223372036854775807) (Qu:s.size*i.bytes<=281474976710656) (a0:Option Addr):
  (Builtin.append_ #[t,u] ty #[.slice a0 0 0,.string s]).run P w=
   .ok (.slice (some ⟨w.heap.size,0,none⟩) s.size (grownCap w s.size 0 e))
    (w.drew.alloc (.cells (s.data.map (fun b=>Value.int .u8 b.toNat)++Builtin.zeroCells z.cells (grownCap w s.size 0 e-s.size)) e)):=by
 cases a0 with
 |none=>exact run_append_nil_string w t u ty e i z ht hu hi hz s h0 Qt Qu
 |some b=>
  rw[<-run_append_nil_string w t u ty e i z ht hu hi hz s h0 Qt Qu];have hn:s.size≠0:=zO;have asE:¬(9223372036854775807<(s.size:Int)):=zO;have asF:¬(281474976710656<Builtin.nextslicecap s.size 0*i.bytes):=by rw[nextslicecap_zero h0];omega
  simp[Builtin.append_,run_underlying ht,run_underlying hu,sizeOf,typeInfo,zeroValue,hi,hz,Builtin.lenOf,Builtin.firstCells,hn,asE,asF,Question.forced,newRow,grownCap,loadCells,loadCellsFrom]
theorem agF(S:aK P w I β hp B M w0){t u ty e:TypeId}{nb:Nat}{fz:Bool}{x:ByteArray}{xs:LV}{i:TypeInfo}{z:Value}(hu:P.underlying t=some (.slice e))(vw:P.underlying u=some .string)(av:dU P e=true)(hn:hp nb=none)
 (hi:P.info? e=some i) (hz:i.zero=some z) (h3:i.size=P.cellsOf e) (h4:z.cells.size=P.cellsOf e) (Jj:i.size=1) (oz:P.bytesOf e=i.bytes) (fl:xs.length*P.bytesOf e<=br) (pT:xs.length=x.size) (wX:(Lib.strCells x).length=x.size)
 (g9:∀(i j:Nat) (y:V) (t':TypeId),xs[i]?=some y->(bA P e)[j]?=some t'->j<P.cellsOf e->∃u,(Lib.strCells x)[i*P.cellsOf e+j]?=some u∧Pure P w I t' u (cT P e y j)):
 ∀a0,∃v w' β',(Builtin.append_ #[t,u] ty #[.slice a0 0 0,.string x]).run P w=.ok v w'∧Le P w I β hp w' I β' (aw hp nb (some (.arr e xs fz)))∧aK P w' I β' (aw hp nb (some (.arr e xs fz))) B M w0∧
  ak P w' I β' (aw hp nb (some (.arr e xs fz))) v (.whole e nb):=by
 intro a0;have yX:=Cq av;have hlen:xs.length<=2^45:=by
  have:xs.length*1<=xs.length*P.bytesOf e:=Ae _ yX;simp only[br]at fl;omega
 by_cases h0:x.size=0
 .have mQ:xs=[]:=sA zO;subst mQ;obtain⟨a1,a2⟩:=IK S e hn;have hf:=Lib.run_firstCells_string (P:=P) w 1 x;rw[h0]at hf;have j9:Lib.strCells x=[]:=sA zO;exact⟨.slice a0 0 0,_,_,by cases a0<;>simp[storeCells,j9,Builtin.append_,run_underlying hu,run_underlying vw,sizeOf,typeInfo,hi,Jj,Builtin.lenOf,h0,hf],a1,a2,.fF (cB _ _ _) (cB _ _ _)⟩
 .have dS:=asD (P:=P) w t u ty e i z hu vw hi hz x zO zO (by rw[<-oz,<-pT];simp only[br]at fl;omega) a0;have e1:(x.data.map fun b=>Value.int .u8 b.toNat)=(Lib.strCells x).toArray:=by
   apply Array.ext';simp[Lib.strCells]
  rw[e1,<-pT]at dS;have ub:=grownCap_ge w xs.length 0 e;have vq:grownCap w xs.length 0 e<=maxLen:=grownCap_le_maxLen w xs.length 0 e (by simp only[maxLen];omega);obtain⟨n1,n2,n3⟩:=Fo S.drew (nb:=nb) (cap:=grownCap w xs.length 0 e) (es:=xs) (C0:=(Lib.strCells x).toArray++Builtin.zeroCells z.cells (grownCap w xs.length 0 e-xs.length)) av hn
   (by
    have:(Lib.strCells x).length=xs.length*P.cellsOf e:=zG;simp only[Pb,wg,size_zeroCells,h4,this,<-nf];grind) ub vq
   (fun i' j y t' hy ht hj=>by
    obtain⟨u,lS,hp⟩:=g9 i' j y t' hy ht hj;have bt:=(dw.1 lS).1;refine⟨u,?_,Pure.drew hp⟩;grind)
  exact⟨_,_,_,dS,(Le.drew w I β hp).trans n1,n2,n3⟩
theorem asG(S:aK P w I β hp B M w0){t u ty e:TypeId}{nb:Nat}{s:Value}{sv:V}{x:ByteArray}{r:R}{rd:LN}(hu:P.underlying t=some (.slice e))(vw:P.underlying u=some .string)(he:P.underlying e=some (.int .u8))(hs:ak P w I β hp s sv)
  (h:(E0 P nb e sv (.list e (x.data.toList.map yF))).run C hp=some (r,rd)):eP P ((Builtin.append_ #[t,u] ty #[s,.string x]).run P w) w I β hp B M w0 r:=by
 unfold E0 at h;obtain⟨av,h⟩:=aX h;simp only[Ap]at h;obtain⟨_,h⟩:=aX h;have vp:cP P e=false:=by simp[cP,he]
 have ja:P.cellsOf e=1:=by rw[<-(qy av).1,PW vp];rfl
 obtain⟨i,z,hi,hz,h3,h4,_⟩:=ox av;have Jj:i.size=1:=zO;have yX:=Cq av;have oz:P.bytesOf e=i.bytes:=by simp[Program.bytesOf,hi]
 have QC:=asB (P:=P) (w:=w) (I:=I) he ja x;have pT:(x.data.toList.map yF).length=x.size:=zS;have wX:(Lib.strCells x).length=x.size:=Lib.strCells_length x;have h1:=Lib.strCells_oneCell x;generalize mQ:x.data.toList.map yF=xs at*
 cases sv with
 |nilS e'=>
  obtain⟨hc,h⟩:=aX h;simp only[aZ,bK,gg]at hc;obtain⟨hn,rfl⟩:=oy h;obtain⟨a0,rfl⟩:∃a0,s=.slice a0 0 0:=by cases hs;grind
  obtain⟨v,w',β',a1,a2,a3,a4⟩:=agF S hu vw av hn hi hz h3 h4 Jj oz hc.2 pT wX QC _;exact⟨v,w',I,β',a1,a2,a3,a4⟩
 |whole e' id=>
  obtain⟨l,h⟩:=run_get h;cases ae:hp id with
  |none=>rw[ae]at h;cases h
  |some blk=>
   rw[ae]at h;cases blk with
   |dead=>cases h
   |var _=>cases h
   |nest _ _ _=>cases h
   |map _ _=>cases h
   |out _ _ _ _=>cases h
   |arr gD es fz=>
    obtain⟨hc,h⟩:=aX h;obtain⟨hn,rfl⟩:=oy h;simp only[aZ,bK,gg]at hc;obtain⟨WY,WZ,fl⟩:=hc;subst WY;subst WZ;have cw:nb≠id:=fun e=>zG;obtain⟨k1,k2⟩:=AE S ae;have ky:aw hp id (some ah.dead) nb=none:=by rw[dj _ _ cw];exact hn
    cases hs with
    |fM hd=>grind
    |fq hd=>grind
    |fS hd=>grind
    |iJ hd=>grind
    |fF hd hb=>
     rw[ae]at hd;cases hd;simp only[List.length_nil,dT]at fl;obtain⟨v,w',β',a1,a2,a3,a4⟩:=agF k2 hu vw av ky hi hz h3 h4 Jj oz fl pT wX QC _;exact⟨v,w',I,β',a1,k1.trans a2,a3,a4⟩
    |@whole _ _ bm u7 b cap hd hb bR cQ hm=>
     rw[ae]at hd;cases hd;have hr:=S.h.rel id _ ae;cases hr with
     |gk aI=>grind
     |@arr _ T0 _ _ b' Ca hL _ aI hh I6 hf iS Ft=>
      rw[hb]at aI;cases aI;have hlen:es.length+xs.length<=2^45:=by
       have:(es.length+xs.length)*1<=(es.length+xs.length)*P.bytesOf e:=Ae _ yX;simp only[br]at fl;omega
      rw[ou hh]at bR;have vj:∀ax blk',aw hp id (some ah.dead) ax=some blk'->¬bW P w (β ax) blk' b:=by
       intro ax blk' h1 h2;by_cases pc:ax=id
       .subst pc;rw[cB]at h1;cases h1;exact h2.alive rfl
       .rw[dj _ _ pc]at h1;exact pc (S.h.inj ax id blk' _ b h1 ae h2 (.root zS hb))
      have I7:=S.h.AA id _ b ae zS hb;have mO:es.length*P.cellsOf e<=Ca.toList.length:=zO;have asH:(Lib.strCells x).length=xs.length*P.cellsOf e:=zG;by_cases wS:es.length+xs.length<=cap
      .have Fs:es.length*P.cellsOf e+(Lib.strCells x).length<=Ca.size:=zG;have dS:=asC (P:=P) w t u ty e T0 i hu vw hi Jj b es.length cap Ca hh x zO zG;have g9:=Qs (P:=P) (w:=w) (I:=I) (n:=es.length) (c:=Ca.toList) rfl (fun i j y t' a b c=>by
        grind) QC mO (Ca.toList.drop (es.length*P.cellsOf e+(Lib.strCells x).length))
       generalize WH:(Ca.toList.take es.length++Lib.strCells x++Ca.toList.drop (es.length+x.size)).toArray=C' at dS;have wW:C'.size=Ca.size:=by
        grind
       have Xk:(w.setRow b C').heap[b]?=some (.cells C' T0 (0,0)):=setRow_heap w b Ca C' T0 _ hh;have kV:∀j,j<es.length*P.cellsOf e->C'[j]?=Ca[j]?:=fun j hj=>by
        grind
       obtain⟨a1,a2⟩:=Fe k2 (blk:=.arr e (es++xs) fz) (w':=w.setRow b C') ky vj (agc hh Xk (WS hf iS) kV) (fun b' h _=>setRow_other w b b' _ h) zS ⟨rfl,rfl⟩ I7
        (fun b' h=>(ee (h.flat zS)).symm) (fun hle=>.arr (wW▸hL) av rfl Xk zG (fun _ j h=>gU (WS hf iS j h) (fE _ zS)) iS fun i j y t' a b c=>by
         obtain⟨v,hv,hp⟩:=g9 i j y t' a b c;refine⟨v,?_,hp.mono hle.fT hle.dH⟩;grind)
       refine⟨_,_,_,_,dS,k1.trans a1,a2,?_⟩;have a3:=ak.whole (P:=P) (w:=w.setRow b C') (I:=I) (β:=aw β nb (some b)) (hp:=aw (aw hp id (some .dead)) nb (some (.arr e (es++xs) fz))) (cap:=cap) (b:=b) (es:=es++xs) (fz:=fz) (id:=nb) (e:=e) (cB _ _ _) (cB _ _ _) (by rw[ou Xk,wW,bR]) zG hm;rw[dQ,pT]at a3;exact a3
      .have hold:∀(j:Nat) v,(Ca.toList.take (es.length*P.cellsOf e))[j]?=some v->w.cell? ((⟨b,0,none⟩:Addr).add j)=some v:=by
        intro j v hj;have eX:=(dw.1 hj).1;have gm:j<es.length*P.cellsOf e:=zG;rw[mf gm]at hj;rw[rE,cell?_cells hh,dT];grind
       have dS:=Lib.run_append_grow_string (P:=P) w t u ty e i z hu vw hi hz ⟨b,0,none⟩ es.length cap (Ca.toList.take (es.length*P.cellsOf e)) zG hold x zO zO
        (growslice_fits zO (by rw[<-oz,<-pT];simp only[br]at fl;omega))
       rw[<-pT]at dS;have ub:=grownCap_ge w (es.length+xs.length) cap e;have vq:grownCap w (es.length+xs.length) cap e<=maxLen:=grownCap_le_maxLen w _ cap e (by simp only[maxLen];omega);have g9:=Qs (P:=P) (w:=w) (I:=I) (n:=es.length) (c:=Ca.toList) rfl (fun i j y t' a b c=>by
        grind) QC mO (Builtin.zeroCells z.cells (grownCap w (es.length+xs.length) cap e-(es.length+xs.length))).toList
       obtain⟨n1,n2,n3⟩:=Fo k2.drew (nb:=nb) (cap:=grownCap w (es.length+xs.length) cap e) (es:=es++xs)
        (C0:=(Ca.toList.take (es.length*P.cellsOf e)).toArray++(Lib.strCells x).toArray++Builtin.zeroCells z.cells (grownCap w (es.length+xs.length) cap e-(es.length+xs.length))) av ky
        (by
         have e1:(Ca.toList.take (es.length*P.cellsOf e)).length=es.length*P.cellsOf e:=by simp;omega
         simp only[Pb,wg,size_zeroCells,h4,asH,e1,<-nf];grind) zG vq
        (fun i j y t' a b c=>by
         obtain⟨v,hv,hp⟩:=g9 i j y t' a b c;refine⟨v,?_,Pure.drew hp⟩;grind)
       rw[dQ]at n3;exact⟨_,_,_,_,dS,(k1.trans (Le.drew w I β _)).trans n1,n2,n3⟩
 |_=>cases h
end
end Go.AM
