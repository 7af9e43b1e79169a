/-
  Functions of the program, lifted to plain data.
-/
import Derived.Great.BuildSlice
import Derived.Maps.Keyed
import Derived.WideKeyArr
import Derived.MapKept
import Derived.ChangeMaps4
import Derived.Carry
import Derived.Lib.AppendStr
import Derived.Test.YtmepeheomkieeaaGreatDoorP1
noncomputable section
set_option linter.unusedVariables false
set_option linter.unusedSimpArgs false
set_option linter.unusedSectionVars false
namespace Go.AM
section
variable {P:Program}{w w':World}{I I':Nat→Nat→Prop}{β β':Nat→Option Nat}{hp hp':Nat→Option ag}{C:af}{B:Nat}{M:Nat→Prop}{w0:Start}
theorem rD.A1{t:TypeId}{v:Value}{x:V}(h:rD P w I t v x):iJ P t x=x:=by
 cases h with
 |iO _ p=>exact p.A1
 |emp hu=>exact tS hu
 |row hu _ _ _ _=>exact tS hu
theorem F0{new:List V}{e ea:TypeId}{i c:Nat}{q:Path}{es dT:List V}{x:V}(hx:es[i]? =some x)(hp:(parts P e x)[c]? =some (.list ea dT)):
  setRow P new e es ((i,c)::q)=es.set i (dY P e ((parts P e x).set c (.list ea (setRow P new ea dT q)))):=by
 simp only[setRow,hx,hp]
theorem JR{b:Nat}{e t:TypeId}{es:List V}{i c:Nat}{x y:V}(hR:j9 P w I b e es)(hx:es[i]? =some x)(ht:(bp P e)[c]? =some t):
  ∀{i' c':Nat} {x':V} {t':TypeId},(es.set i (dY P e ((parts P e x).set c y)))[i']? =some x'→(bp P e)[c']? =some t'→
   ∃x0,es[i']? =some x0∧cW P e x' c'=if i'=i∧c'=c then y else cW P e x0 c':=by
 intro i' c' x' t' eo gi;have pg:i<es.length:=(cP.1 hx).1;have Db:c<(bp P e).length:=(cP.1 ht).1;have QP:c'<(bp P e).length:=(cP.1 gi).1;by_cases hi:i'=i
 ·subst hi;rw[yL pg]at eo;cases eo;refine⟨x,hx,?_⟩;by_cases hc:c'=c
  ·subst hc;rw[aP ⟨rfl,rfl⟩];exact zj (yL (by rw[A4];exact Db)) gi
  ·rw[aM (fun h=>hc h.2)];have h1:((parts P e x).set c y)[c']? =some (iJ P t' (cW P e x c')):=by
    rw[Cz (fun h=>hc h.symm)];exact tR gi
   rw[zj h1 gi];obtain⟨Ca,_,_,_,_,zk⟩:=hR.cells;obtain⟨v,_,ho⟩:=zk i' c' x t' hx gi (by rw[←gP hR.ok];exact QP);exact ho.A1
 ·rw[Cz (fun h=>hi h.symm)]at eo;exact⟨x',eo,by rw[aM (fun h=>hi h.1)]⟩
theorem WR{b b1:Nat}{e e1:TypeId}{es l l':List V}{p:Path}(h:At P w b e es p b1 e1 l)(hl:l'.length=l.length):(setRow P l' e es p).length=es.length:=by
 cases h with
 |here=>exact hl
 |step h1 h2 h3 h4 h5 h6 h7 h8=>
  rw[F0 h2 (by rw[tR h3,h5,tS h4])];simp
theorem At.apm{b b1:Nat}{e e1:TypeId}{es l l':List V}{p:Path}(WS:At P w b e es p b1 e1 l)(hw:∀k,k≠b1→w'.heap[k]? =w.heap[k]?)(hl:l'.length=l.length):
  (∀q b' e' m,At P w b e es q b' e' m→j9 P w I b' e' m)→(∀q e' m,At P w b e es q b1 e' m→q=p)→
  ∀q b' e' m,At P w' b e (setRow P l' e es p) q b' e' m→
   (∃r m0,p=q++r∧At P w b e es q b' e' m0∧m=setRow P l' e' m0 r)∨
   (∃r,r≠[]∧q=p++r∧At P w' b1 e1 l' r b' e' m)∨
   (At P w b e es q b' e' m∧b'≠b1∧¬q <+: p∧¬p <+: q):=by
 induction WS with
 |here=>
  intro ed pj q b' e' m h;cases q with
  |nil=>cases h with|here=>exact .inl ⟨[],_,rfl,.here,rfl⟩
  |cons a q=>exact .inr (.inl ⟨a::q,by simp,rfl,h⟩)
 |@step b i c b2 len cap b1 e t ea e1 es dT l p Ca T f x h1 h2 h3 h4 h5 h6 h7 h8 ih=>
  intro ed pj q b' e' m h;have A6:(parts P e x)[c]? =some (.list ea dT):=by rw[tR h3,h5,tS h4]
  rw[F0 h2 A6]at h;have hR:=ed _ _ _ _ .here;have hb:b≠b1:=by
   intro hb;subst hb;have:=pj [] _ _ .here;cases this
  have WU:=ih hw hl (fun q b' e' m h=>ed _ _ _ _ (.step h1 h2 h3 h4 h5 h6 h7 h)) (fun q e' m h=>by
   have:=pj _ _ _ (.step h1 h2 h3 h4 h5 h6 h7 h);exact(List.cons.inj this).2)
  cases h with
  |here=>exact .inl ⟨_,es,rfl,.here,(F0 h2 A6).symm⟩
  |@step _ i' c' b3 apn WV _ _ t' e3 _ _ lb _ q C9 T' f' x' k1 k2 k3 k4 k5 k6 k7 k8=>
   rw[hw b hb]at k1;obtain⟨x0,y1,y2⟩:=JR hR h2 h3 k2 k3;by_cases lY:i'=i∧c'=c
   ·rw[aP lY]at y2;obtain⟨rfl,rfl⟩:=lY;rw[h1]at k1;cases k1;rw[h7]at k7;cases k7;rw[k5]at y2;cases y2;rcases WU _ _ _ _ k8 with⟨r,m0,z1,z2,z3⟩|⟨r,z1,z2,z3⟩|⟨z1,z2,z3,z4⟩
    ·exact .inl ⟨r,m0,by rw[z1];rfl,.step h1 h2 h3 h4 h5 h6 h7 z2,z3⟩
    ·exact .inr (.inl ⟨r,z1,by rw[z2];rfl,z3⟩)
    ·refine .inr (.inr ⟨.step h1 h2 h3 h4 h5 h6 h7 z1,z2,fun hh=>z3 ?_,fun hh=>z4 ?_⟩)
     ·exact(AB.1 hh).2
     ·exact(AB.1 hh).2
   ·rw[aM lY,k5]at y2;have bz:∀q2 b5 e5 mO,At P w b3 e3 lb q2 b5 e5 mO→b5≠b1:=by
     intro q2 b5 e5 mO hq Di;subst Di;have:=pj _ _ _ (.step k1 y1 k3 k4 y2.symm k6 k7 hq);injection this with h1 h2;injection h1 with h1 h3;exact lY ⟨h1,h3⟩
    have mz:=k8.AU (w:=w) fun q2 b5 e5 mO hq=>hw b5 (bz q2 b5 e5 mO hq);refine .inr (.inr ⟨.step k1 y1 k3 k4 y2.symm k6 k7 mz,bz _ _ _ _ mz,fun hh=> ?_,fun hh=> ?_⟩)
    ·have:=(AB.1 hh).1;injection this with h1 h3;exact lY ⟨h1,h3⟩
    ·have:=(AB.1 hh).1;injection this with h1 h3;exact lY ⟨h1.symm,h3.symm⟩
theorem At.A7{b b1:Nat}{e e1:TypeId}{es l l':List V}{p:Path}(WS:At P w b e es p b1 e1 l)(hw:∀k,k≠b1→w'.heap[k]? =w.heap[k]?)(hl:l'.length=l.length):
  (∀q b' e' m,At P w b e es q b' e' m→j9 P w I b' e' m)→(∀q e' m,At P w b e es q b1 e' m→q=p)→
  ∀q b' e' m,At P w b e es q b' e' m→
   (∃r,p=q++r∧At P w' b e (setRow P l' e es p) q b' e' (setRow P l' e' m r)∧∃xe m1,At P w b' e' m r b1 xe m1∧m1=l)∨
   (∃r,r≠[]∧q=p++r∧At P w b1 e1 l r b' e' m∧(∀b2 e2 m2,At P w' b1 e1 l' r b2 e2 m2→At P w' b e (setRow P l' e es p) q b2 e2 m2))∨
   (At P w' b e (setRow P l' e es p) q b' e' m∧b'≠b1∧¬q <+: p∧¬p <+: q):=by
 induction WS with
 |here=>
  intro ed pj q b' e' m h;cases q with
  |nil=>cases h with|here=>exact .inl ⟨[],rfl,.here,_,_,.here,rfl⟩
  |cons a q=>exact .inr (.inl ⟨a::q,by simp,rfl,h,fun _ _ _ h=>h⟩)
 |@step b i c b2 len cap b1 e t ea e1 es dT l p Ca T f x h1 h2 h3 h4 h5 h6 h7 h8 ih=>
  intro ed pj q b' e' m h;have A6:(parts P e x)[c]? =some (.list ea dT):=by rw[tR h3,h5,tS h4]
  have pU:=F0 (new:=l') (q:=p) h2 A6;have hR:=ed _ _ _ _ .here;have pg:i<es.length:=(cP.1 h2).1;have hb:b≠b1:=by
   intro hb;subst hb;have:=pj [] _ _ .here;cases this
  have WU:=ih hw hl (fun q b' e' m h=>ed _ _ _ _ (.step h1 h2 h3 h4 h5 h6 h7 h)) (fun q e' m h=>by
   have:=pj _ _ _ (.step h1 h2 h3 h4 h5 h6 h7 h);exact(List.cons.inj this).2)
  have rH:=(hw b hb).trans h1;have JS:(es.set i (dY P e ((parts P e x).set c (.list ea (setRow P l' ea dT p)))))[i]? =some (dY P e ((parts P e x).set c (.list ea (setRow P l' ea dT p)))):=yL pg;have WW:cW P e (dY P e ((parts P e x).set c (.list ea (setRow P l' ea dT p)))) c= .list ea (setRow P l' ea dT p):=by
   obtain⟨x0,y1,y2⟩:=JR hR h2 h3 JS h3;rw[aP ⟨rfl,rfl⟩]at y2;exact y2
  cases h with
  |here=>
   exact .inl ⟨(i,c)::p,rfl,.here,_,_,.step h1 h2 h3 h4 h5 h6 h7 h8,rfl⟩
  |@step _ i' c' b3 apn WV _ _ t' e3 _ _ lb _ q C9 T' f' x' k1 k2 k3 k4 k5 k6 k7 k8=>
   rw[pU];by_cases lY:i'=i∧c'=c
   ·obtain⟨rfl,rfl⟩:=lY;rw[h1]at k1;cases k1;rw[h7]at k7;cases k7;rw[h3]at k3;cases k3;rw[h4]at k4;cases k4;rw[h2]at k2;cases k2;rw[h5]at k5;cases k5;rcases WU _ _ _ _ k8 with⟨r,z1,z2,z3⟩|⟨r,z1,z2,z3,z4⟩|⟨z1,z2,z3,z4⟩
    ·exact .inl ⟨r,by rw[z1];rfl,.step rH JS h3 h4 WW h6 h7 z2,z3⟩
    ·exact .inr (.inl ⟨r,z1,by rw[z2];rfl,z3,fun b2 e2 m2 hh=> .step rH JS h3 h4 WW h6 h7 (z4 b2 e2 m2 hh)⟩)
    ·refine .inr (.inr ⟨.step rH JS h3 h4 WW h6 h7 z1,z2,fun hh=>z3 ?_,fun hh=>z4 ?_⟩)
     ·exact(AB.1 hh).2
     ·exact(AB.1 hh).2
   ·have bz:∀q2 b5 e5 mO,At P w b3 e3 lb q2 b5 e5 mO→b5≠b1:=by
     intro q2 b5 e5 mO hq Di;subst Di;have:=pj _ _ _ (.step k1 k2 k3 k4 k5 k6 k7 hq);injection this with h1 h2;injection h1 with h1 h3;exact lY ⟨h1,h3⟩
    have mz:=k8.mono (w':=w') fun q2 b5 e5 mO hq=>hw b5 (bz q2 b5 e5 mO hq);have WX:∃x2,(es.set i (dY P e ((parts P e x).set c (.list ea (setRow P l' ea dT p)))))[i']? =some x2:=by
     have:i'<es.length:=(cP.1 k2).1;exact⟨_,cv (by rw[wH];exact this)⟩
    obtain⟨x2,nj⟩:=WX;obtain⟨x0,y1,y2⟩:=JR hR h2 h3 nj k3;rw[aM lY]at y2;rw[k2]at y1;cases y1;rw[k5]at y2;refine .inr (.inr ⟨.step ((hw b hb).trans k1) nj k3 k4 y2 k6 k7 mz,bz _ _ _ _ k8,fun hh=> ?_,fun hh=> ?_⟩)
    ·have:=(AB.1 hh).1;injection this with h1 h3;exact lY ⟨h1,h3⟩
    ·have:=(AB.1 hh).1;injection this with h1 h3;exact lY ⟨h1.symm,h3.symm⟩
theorem At.fun{b b1:Nat}{e e1:TypeId}{es l:List V}{q:Path}(h:At P w b e es q b1 e1 l):∀{b2 e2 l2},At P w b e es q b2 e2 l2→b2=b1∧e2=e1∧l2=l:=by
 induction h with
 |here=>intro b2 e2 l2 h2;cases h2;exact⟨rfl,rfl,rfl⟩
 |step h1 h2 h3 h4 h5 h6 h7 h8 ih=>
  intro b2 e2 l2 k;cases k with
  |step k1 k2 k3 k4 k5 k6 k7 k8=>
   rw[h1]at k1;cases k1;rw[h7]at k7;cases k7;rw[h2]at k2;cases k2;rw[h5]at k5;cases k5;exact ih k8
theorem At.split:∀{q r:Path} {b b1:Nat} {e e1:TypeId} {es l:List V},At P w b e es (q++r) b1 e1 l→∃b' e' m,At P w b e es q b' e' m∧At P w b' e' m r b1 e1 l
 | [],r,b,b1,e,e1,es,l,h=>⟨_,_,_,.here,h⟩
 |a::q,r,b,b1,e,e1,es,l,h=>by
  cases h with
  |step h1 h2 h3 h4 h5 h6 h7 h8=>
   obtain⟨b',e',m,k1,k2⟩:=At.split h8;exact⟨b',e',m,.step h1 h2 h3 h4 h5 h6 h7 k1,k2⟩
theorem j9.dF{b:Nat}{e:TypeId}{es:List V}(h:j9 P w I b e es)(hw:w'.heap[b]? =w.heap[b]?)(hI:∀k j,I k j→w'.cell? ⟨k,j,none⟩=w.cell? ⟨k,j,none⟩)(ni:∀k,bsize w' k=bsize w k):j9 P w' I b e es:=by
 obtain⟨ok,⟨Ca,T,c1,c0,c2,c3⟩,nI⟩:=h;refine⟨ok,⟨Ca,T,hw.trans c1,c0,c2,fun i j x t' k1 k2 k3=> ?_⟩,nI⟩;obtain⟨v,m1,m2⟩:=c3 i j x t' k1 k2 k3;exact⟨v,m1,m2.mono (fun _ _ h=>h) hI fun b' _ _ _ _=>ni b'⟩
theorem j9.above{b b1 b2 i c len cap:Nat}{e e1 t ea:TypeId}{es dT l l':List V}{r:Path}{Ca:Array Value}{T:TypeId}{f:Nat×Nat}{x:V}(hR:j9 P w I b e es)
  (h1:w.heap[b]? =some (.cells Ca T f)) (h2:es[i]? =some x) (h3:(bp P e)[c]? =some t) (h4:P.underlying t=some (.slice ea)) (h5:cW P e x c= .list ea dT) (h6:0<cap)
  (h7:Ca[i*P.cellsOf e+c]? =some (.slice (some ⟨b2,0,none⟩) len cap)) (h8:At P w b2 ea dT r b1 e1 l) (hl:l'.length=l.length)
  (hw:w'.heap[b]? =w.heap[b]?) (hI:∀k j,I k j→w'.cell? ⟨k,j,none⟩=w.cell? ⟨k,j,none⟩) (ni:∀k,bsize w' k=bsize w k):j9 P w' I b e (setRow P l' e es ((i,c)::r)):=by
 have A6:(parts P e x)[c]? =some (.list ea dT):=by rw[tR h3,h5,tS h4]
 rw[F0 h2 A6];have hR0:=hR;obtain⟨ok,⟨C9,_,c1,c0,c2,c3⟩,nI⟩:=hR;rw[h1]at c1;cases c1;refine⟨ok,⟨Ca,_,hw.trans h1,c0,by simpa using c2,fun i' j x' t' k1 k2 k3=> ?_⟩,nI⟩;obtain⟨x0,y1,y2⟩:=JR hR0 h2 h3 k1 k2;obtain⟨v,m1,m2⟩:=c3 i' j x0 t' y1 k2 k3;refine⟨v,m1,?_⟩;have m3:rD P w' I t' v (cW P e x0 j):=m2.mono (fun _ _ h=>h) hI fun b' _ _ _ _=>ni b';rw[y2];by_cases lY:i'=i∧j=c
 ·rw[aP lY];obtain⟨rfl,rfl⟩:=lY;rw[h2]at y1;cases y1;rw[h3]at k2;cases k2;rw[h5]at m3;have hlen:=WR (l':=l') h8 hl;rw[h7]at m1;cases m1;generalize hy:V.list ea dT=y at m3;cases m3 with
  |iO a p=>unfold fj at a;rw[h4]at a;cases a
  |emp a=>exact absurd h6 (qt _)
  |row a b c d e=>
   cases hy;rw[←hlen];exact .row a b c (by omega) e
 ·rw[aM lY];exact m3
theorem apo(S:aK P w I β hp B M w0){id b b1 i c:Nat}{e0 e1:TypeId}{es l l':List V}{vers vers':List Nat}{path:Path}(K:Path→Nat→TypeId→List V→Prop)
  (ae:hp id=some (.nest e0 es vers)) (hb:β id=some b) (ha:At P w b e0 es path b1 e1 l) (hl:l'.length=l.length)
  (hw:∀k,k≠b1→w'.heap[k]? =w.heap[k]?) (ni:∀k,bsize w' k=bsize w k) (b7:w'.heap.size=w.heap.size) (pe:w'.os=w.os∧w'.output=w.output)
  (apq:j9 P w' I b1 e1 l')
  (afD:∀a r b' e' m,At P w' b1 e1 l' (a::r) b' e' m→b'≠b1∧(At P w b1 e1 l (a::r) b' e' m∨(a=(i,c)∧K r b' e' m)))
  (hK:∀r b' e' m,K r b' e' m→j9 P w I b' e' m∧(M b'∨B≤b')∧(∀b9 dd,hp b9=some dd→¬bV P w (β b9) dd b'))
  (xf:∀r1 r2 b' e1 m1 e2 m2,K r1 b' e1 m1→K r2 b' e2 m2→r1=r2)
  (CZ:vers'.length=vers.length) (JD:∀k,cy vers k≤cy vers' k)
  (A8:∀(r:Path) i' c' t' v ea l0,(path++r).length<vers.length→cy vers' (path++r).length=cy vers (path++r).length→P.underlying t'=some (.slice ea)→sF P w b1 e1 l r i' c' t' v (.list ea l0)→
   ∃Dj,Dj.length=l0.length∧sF P w' b1 e1 l' r i' c' t' v (.list ea Dj)):
  Le P w I β hp w' I β (ar hp id (some (.nest e0 (setRow P l' e0 es path) vers')))∧aK P w' I β (ar hp id (some (.nest e0 (setRow P l' e0 es path) vers'))) B M w0:=by
 have hr:=S.h.rel id _ ae;rw[hb]at hr;cases hr with
 |kO aJ=>cases aJ
 |nest aJ ed oh=>
 cases aJ;have pj:∀q e' m,At P w b e0 es q b1 e' m→q=path:=fun q e' m h=>oh _ _ _ _ _ _ _ h ha;have dU:∀j,¬I b1 j:=(ed _ _ _ _ ha).nI;have A9:∀k j,I k j→w'.cell? ⟨k,j,none⟩=w.cell? ⟨k,j,none⟩:=fun k j hk=>World.cell?_of_block (hw k (fun e=>dU j (e▸hk)));have afE:bV P w (β id) (.nest e0 es vers) b1:= .row hb ha;have same:∀{aA dd b'},aA≠id→hp aA=some dd→bV P w (β aA) dd b'→w'.heap[b']? =w.heap[b']? :=
  fun hi h ho=>hw _ fun e=>hi (S.h.inj _ _ _ _ b1 h ae (e▸ho) afE)
 have F3:(setRow P l' e0 es path).length=es.length:=WR ha hl;have A7:=At.apm (I:=I) (w':=w') (l':=l') ha hw hl ed pj;have WY:∀q b' e' m,At P w' b e0 (setRow P l' e0 es path) q b' e' m→(∃e2 m2,At P w b e0 es q b' e2 m2)∨∃r,q=path++(i,c)::r∧K r b' e' m:=by
  intro q b' e' m h;rcases A7 q b' e' m h with⟨r,m0,z1,z2,z3⟩|⟨r,z1,z2,z3⟩|⟨z1,z2,z3,z4⟩
  ·exact .inl ⟨_,_,z2⟩
  ·cases r with
   |nil=>exact absurd rfl z1
   |cons a r=>
    obtain⟨y1,y2⟩:=afD a r b' e' m z3;rcases y2 with y2|⟨rfl,y2⟩
    ·exact .inl ⟨_,_,by rw[z2];exact ha.app y2⟩
    ·exact .inr ⟨r,z2,y2⟩
  ·exact .inl ⟨_,_,z1⟩
 have xc:∀b',bV P w' (β id) (.nest e0 (setRow P l' e0 es path) vers') b'→bV P w (β id) (.nest e0 es vers) b'∨((M b'∨B≤b')∧∀b9 dd,hp b9=some dd→¬bV P w (β b9) dd b'):=by
  intro b' ho;cases ho with
  |root _ h=>exact .inl (.root (by simp) h)
  |row h1 h2=>
   rw[hb]at h1;cases h1;rcases WY _ _ _ _ h2 with⟨e2,m2,h⟩|⟨r,_,h⟩
   ·exact .inl (.row hb h)
   ·exact .inr (hK _ _ _ _ h).2
 have hle:Le P w I β hp w' I β (ar hp id (some (.nest e0 (setRow P l' e0 es path) vers'))):=by
  refine⟨fun _ _ h=>h,A9,fun aA dd h=> ?_,fun aA dd ng b' h h3 hd3 aJ=>ni b',fun aA e cK vs e' ba Jx b2 q i' c' t v ea l0 h h' gY bO hv ht hc=> ?_⟩
  ·by_cases hi:aA=id
   ·subst hi;rw[ae]at h;cases h;exact⟨_,cN _ _ _,⟨rfl,F3.symm,CZ.symm,JD⟩,fun _=>rfl⟩
   ·exact⟨dd,by rw[db _ _ hi];exact h,ag.le_refl _,fun _=>rfl⟩
  ·by_cases hi:aA=id
   ·subst hi;rw[ae]at h;cases h;rw[cN]at h';cases h';rw[hb]at gY;cases gY;obtain⟨b',e',m,Ca,T,f,x,k1,k2,k3,k4,k5,k6⟩:=hc;rcases At.A7 (I:=I) (w':=w') (l':=l') ha hw hl ed pj q b' e' m k1 with⟨r,z1,z2,e2,m2,z3,_⟩|⟨r,z1,z2,z3,z4⟩|⟨z1,z2,z3,z4⟩
    ·cases r with
     |nil=>
      cases z3;rw[uZ]at z1;subst z1;obtain⟨w1,w2,w3⟩:=ha.fun k1;subst w2;subst w3;obtain⟨Dj,g1,g2⟩:=A8 [] i' c' t v ea l0 (by simpa using bO) (by simpa using hv) ht ⟨_,_,_,Ca,T,f,x,.here,k2,k3,k4,k5,k6⟩;refine⟨Dj,g1,?_⟩;obtain⟨b5,e5,mO,C5,T5,f5,x5,q1,q2,q3,q4,q5,q6⟩:=g2;cases q1;exact⟨_,_,_,C5,T5,f5,x5,z2,q2,q3,q4,q5,q6⟩
     |cons a r=>
      cases z3 with
      |@step _ i2 c2 b3 len cap _ _ t3 WZ _ _ lb _ r Ca3 T3 f3 x3 g1 g2 g3 g4 g5 g6 g7 g8=>
       have aJ:b'≠b1:=by
        intro e;subst e;have:=pj _ _ _ k1;rw[this]at z1;have:=congrArg List.length z1;simp at this
       have A6:(parts P e' x3)[c2]? =some (.list WZ lb):=by rw[tR g3,g5,tS g4]
       rw[F0 g2 A6]at z2;have WX:∃x2,(m.set i2 (dY P e' ((parts P e' x3).set c2 (.list WZ (setRow P l' WZ lb r)))))[i']? =some x2:=by
        have:i'<m.length:=(cP.1 k3).1;exact⟨_,cv (by rw[wH];exact this)⟩
       obtain⟨x2,nj⟩:=WX;obtain⟨x0,y1,y2⟩:=JR (ed _ _ _ _ k1) g2 g3 nj k4;rw[k3]at y1;cases y1;have g8l:=(ha.fun ((k1.app (.step g1 g2 g3 g4 g5 g6 g7 g8)) |> fun h=>by rw[z1];exact h)).2.2;by_cases lY:i'=i2∧c'=c2
       ·rw[aP lY]at y2;obtain⟨rfl,rfl⟩:=lY;rw[k3]at g2;cases g2;rw[k5]at g5;cases g5;exact⟨_,WR g8 (by rw[hl,g8l]),b',e',_,Ca,T,f,x2,z2,(hw b' aJ).trans k2,nj,k4,y2,k6⟩
       ·rw[aM lY,k5]at y2;exact⟨l0,rfl,b',e',_,Ca,T,f,x2,z2,(hw b' aJ).trans k2,nj,k4,y2,k6⟩
    ·subst z2;obtain⟨Dj,g1,g2⟩:=A8 r i' c' t v ea l0 bO hv ht ⟨_,_,_,Ca,T,f,x,z3,k2,k3,k4,k5,k6⟩;obtain⟨b5,e5,mO,C5,T5,f5,x5,q1,q2,q3,q4,q5,q6⟩:=g2;exact⟨Dj,g1,_,_,_,C5,T5,f5,x5,z4 _ _ _ q1,q2,q3,q4,q5,q6⟩
    ·exact⟨l0,rfl,b',e',m,Ca,T,f,x,z1,(hw b' z2).trans k2,k3,k4,k5,k6⟩
   ·rw[db _ _ hi,h]at h';cases h';exact⟨l0,rfl,hc.mono fun _ _ _ _ hh=>same hi h (.row gY hh)⟩
 have hold:∀{aA dd b'},ar hp id (some (.nest e0 (setRow P l' e0 es path) vers')) aA=some dd→bV P w' (β aA) dd b'→
   (∃ng,hp aA=some ng∧bV P w (β aA) ng b')∨(aA=id∧(M b'∨B≤b')∧∀b9 dd,hp b9=some dd→¬bV P w (β b9) dd b'):=by
  intro aA dd b' h ho;by_cases hi:aA=id
  ·subst hi;rw[cN]at h;cases h;rcases xc b' ho with h|h
   ·exact .inl ⟨_,ae,h⟩
   ·exact .inr ⟨rfl,h⟩
  ·rw[db _ _ hi]at h;exact .inl ⟨dd,h,ho.mono fun b2 rJ=>same hi h rJ⟩
 refine⟨hle,⟨⟨fun aA dd h=> ?_,fun i1 i2 b1 b2 b' h1 h2 o1 o2=> ?_,fun aA dd b' h ho=> ?_,fun b' h=>by rw[b7];exact S.h.mw b' h⟩,fun b' h1 h2=> ?_,by rw[b7];exact S.size,S.new,⟨pe.1.trans S.io.1,pe.2.trans S.io.2⟩⟩⟩
 ·by_cases hi:aA=id
  ·subst hi;rw[cN]at h;cases h;rw[hb];refine .nest rfl (fun q b' e' m h=> ?_) (fun q1 q2 b' f1 m1 f2 m2 h1 h2=> ?_)
   ·rcases A7 q b' e' m h with⟨r,m0,z1,z2,z3⟩|⟨r,z1,z2,z3⟩|⟨z1,z2,z3,z4⟩
    ·subst z3;subst z1;obtain⟨b5,e5,m5,g1,g2⟩:=At.split ha;obtain⟨w1,w2,w3⟩:=g1.fun z2;subst w1;subst w2;subst w3;cases r with
     |nil=>cases g2;exact apq
     |cons a r=>
      cases g2 with
      |step g1' g2 g3 g4 g5 g6 g7 g8=>
       refine(ed _ _ _ _ z2).above g1' g2 g3 g4 g5 g6 g7 g8 hl (hw _ fun e=> ?_) A9 ni;subst e;have:=pj _ _ _ z2;have:=congrArg List.length this;simp at this
    ·cases r with
     |nil=>exact absurd rfl z1
     |cons a r=>
      obtain⟨y1,y2⟩:=afD a r b' e' m z3;rcases y2 with y2|⟨rfl,y2⟩
      ·exact(ed _ _ _ _ (ha.app y2)).dF (hw _ y1) A9 ni
      ·exact(hK _ _ _ _ y2).1.dF (hw _ y1) A9 ni
    ·exact(ed _ _ _ _ z1).dF (hw _ z2) A9 ni
   ·rcases WY _ _ _ _ h1 with⟨e2,m2',x1⟩|⟨r1,x1,x2⟩<;>rcases WY _ _ _ _ h2 with⟨e3,m3',y1⟩|⟨r2,y1,y2⟩
    ·exact oh _ _ _ _ _ _ _ x1 y1
    ·exact absurd (bV.row hb x1) ((hK _ _ _ _ y2).2.2 _ _ ae)
    ·exact absurd (bV.row hb y1) ((hK _ _ _ _ x2).2.2 _ _ ae)
    ·rw[x1,y1,xf _ _ _ _ _ _ _ x2 y2]
  ·rw[db _ _ hi]at h;exact(S.h.rel aA dd h).mono hle fun b' ho=>⟨same hi h ho,fun _ h=>h⟩
 ·rcases hold h1 o1 with⟨c1,x1,y1⟩|⟨rfl,x1,y1⟩<;>rcases hold h2 o2 with⟨c2,x2,y2⟩|⟨rfl,x2,y2⟩
  ·exact S.h.inj i1 i2 c1 c2 b' x1 x2 y1 y2
  ·exact absurd y1 (y2 _ _ x1)
  ·exact absurd y2 (y1 _ _ x2)
  ·rfl
 ·rcases hold h ho with⟨c1,x1,y1⟩|⟨rfl,x1,y1⟩
  ·exact S.h.own aA c1 b' x1 y1
  ·exact x1
 ·rw[hw b' fun e=> ?_]
  ·exact S.dF b' h1 h2
  ·subst e;rcases S.h.own id _ b' ae afE with h|h
   ·exact h2 h
   ·omega
theorem apr{i i' n c c' k:Nat}(QQ:c'<n)(sL:c+k≤n)(h1:i*n+c≤i'*n+c')(h2:i'*n+c'<i*n+c+k):i'=i∧c≤c'∧c'<c+k:=by
 have:i'=i:=by
  rcases Nat.lt_trichotomy i' i with h|h|h
  ·have:=fg n (Nat.succ_le_of_lt h);rw[sy]at this;omega
  ·exact h
  ·have:=fg n (Nat.succ_le_of_lt h);rw[sy]at this;omega
 subst this;omega
theorem aps{b1 i c:Nat}{e1 T:TypeId}{l cs:List V}{x0:V}{Ca:Array Value}{vs:List Value}(hR:j9 P w I b1 e1 l)(hh:w.heap[b1]? =some (.cells Ca T (0,0)))(hs:l.length*P.cellsOf e1≤Ca.size)
  (hx:l[i]? =some x0) (hk:cs.length=vs.length) (sL:c+cs.length≤P.cellsOf e1):
  ∀{i' c':Nat} {x':V} {t':TypeId},(l.set i (dY P e1 (j6 (parts P e1 x0) c cs)))[i']? =some x'→(bp P e1)[c']? =some t'→
   ∃x1,l[i']? =some x1∧((∃j y u,i'=i∧c'=c+j∧cs[j]? =some y∧vs[j]? =some u∧cW P e1 x' c'=y∧(Ca.toList.take (i*P.cellsOf e1+c)++(vs++Ca.toList.drop (i*P.cellsOf e1+c+vs.length))).toArray[i'*P.cellsOf e1+c']? =some u)∨
    (cW P e1 x' c'=cW P e1 x1 c'∧(Ca.toList.take (i*P.cellsOf e1+c)++(vs++Ca.toList.drop (i*P.cellsOf e1+c+vs.length))).toArray[i'*P.cellsOf e1+c']? =Ca[i'*P.cellsOf e1+c']?)):=by
 intro i' c' x' t' eo gi;have pg:i<l.length:=(cP.1 hx).1;have QP:c'<P.cellsOf e1:=by rw[←gP hR.ok];exact(cP.1 gi).1
 have gj:(parts P e1 x0).length=P.cellsOf e1:=by rw[A4];exact gP hR.ok
 have hbound:i*P.cellsOf e1+c+vs.length≤Ca.toList.length:=by
  have:(i+1)*P.cellsOf e1≤l.length*P.cellsOf e1:=fg _ pg;rw[nW]at this;simp only[Array.length_toList];omega
 simp only[tI];rw[sJ _ _ _ _ hbound];by_cases oM:i'=i∧c≤c'∧c'<c+cs.length
 ·obtain⟨rfl,h1,h2⟩:=oM;rw[yL pg]at eo;cases eo;refine⟨x0,hx,.inl ?_⟩;rw[fH,gC,show i'*P.cellsOf e1+c'-(i'*P.cellsOf e1+c)=c'-c by omega];have hy:cs[c'-c]? =some cs[c'-c]:=cv (by omega);have hu:vs[c'-c]? =some vs[c'-c]:=cv (by omega);refine⟨c'-c,_,_,rfl,by omega,hy,hu,?_,hu⟩;refine zj ?_ gi;unfold j6;rw[sJ _ _ _ _ (by omega),fH,gC];exact hy
 ·have JT:¬(i*P.cellsOf e1+c≤i'*P.cellsOf e1+c'∧i'*P.cellsOf e1+c'<i*P.cellsOf e1+c+vs.length):=fun h=>oM (apr QP sL h.1 (by omega));have hg:(if i'*P.cellsOf e1+c'<i*P.cellsOf e1+c then Ca.toList[i'*P.cellsOf e1+c']? else if i'*P.cellsOf e1+c'<i*P.cellsOf e1+c+vs.length then vs[i'*P.cellsOf e1+c'-(i*P.cellsOf e1+c)]? else Ca.toList[i'*P.cellsOf e1+c']?)=Ca[i'*P.cellsOf e1+c']? :=by
   by_cases h1:i'*P.cellsOf e1+c'<i*P.cellsOf e1+c
   ·rw[aP h1];simp
   ·rw[aM h1,fH];simp
  by_cases hi:i'=i
  ·subst hi;rw[yL pg]at eo;cases eo;refine⟨x0,hx,.inr ⟨?_,hg⟩⟩;have h1:(j6 (parts P e1 x0) c cs)[c']? =some (iJ P t' (cW P e1 x0 c')):=by
    unfold j6;rw[sJ _ _ _ _ (by omega)];by_cases h1:c'<c
    ·rw[aP h1];exact tR gi
    ·rw[aM h1,fH];exact tR gi
   rw[zj h1 gi];obtain⟨C9,_,_,_,_,zk⟩:=hR.cells;obtain⟨v,_,ho⟩:=zk i' c' x0 t' hx gi QP;exact ho.A1
  ·rw[Cz (fun h=>hi h.symm)]at eo;exact⟨x',eo,.inr ⟨rfl,hg⟩⟩
theorem apt{w:World}{b1:Nat}{Ca Cb:Array Value}{T:TypeId}(hh:w.heap[b1]? =some (.cells Ca T (0,0)))(hs:Cb.size=Ca.size)(k:Nat):bsize (w.setRow b1 Cb) k=bsize w k:=by
 by_cases hk:k=b1
 ·subst hk;rw[nK (setRow_heap w k Ca Cb T (0,0) hh),nK hh,hs]
 ·simp only[bsize,setRow_other w b1 k Cb hk]
theorem QR(S:aK P w I β hp B M w0){t:TypeId}{v:Value}{id b b1 i c:Nat}{e0 e1:TypeId}{es l cs:List V}{vers vers':List Nat}{path:Path}{x0:V}(K:Path→Nat→TypeId→List V→Prop)
  (ae:hp id=some (.nest e0 es vers)) (hb:β id=some b) (ha:At P w b e0 es path b1 e1 l) (ht:rq P t=true) (hn:P.cellsOf t=v.cells.size)
  (hx:l[i]? =some x0) (hk:cs.length=v.cells.size) (sL:c+cs.length≤P.cellsOf e1) (h1:∀u∈v.cells.toList,u.oneCell'=true)
  (eM:∀(j:Nat) y u t',cs[j]? =some y→v.cells.toList[j]? =some u→(bp P e1)[c+j]? =some t'→rD P w I t' u y)
  (apu:∀(j:Nat) y u t' e3 lb b3 len cap,cs[j]? =some y→v.cells.toList[j]? =some u→(bp P e1)[c+j]? =some t'→P.underlying t'=some (.slice e3)→y= .list e3 lb→0<cap→
   u= .slice (some ⟨b3,0,none⟩) len cap→j=0∧∀r b' e' m,At P w b3 e3 lb r b' e' m→b'≠b1∧K r b' e' m)
  (hK:∀r b' e' m,K r b' e' m→j9 P w I b' e' m∧(M b'∨B≤b')∧(∀b9 dd,hp b9=some dd→¬bV P w (β b9) dd b'))
  (xf:∀r1 r2 b' e1 m1 e2 m2,K r1 b' e1 m1→K r2 b' e2 m2→r1=r2)
  (CZ:vers'.length=vers.length) (JD:∀k,cy vers k≤cy vers' k)
  (kP:(∀(j:Nat) t',j<cs.length→(bp P e1)[c+j]? =some t'→fj P t'=true)∨∀k,path.length≤k→k<vers.length→cy vers' k≠cy vers k):
  ∃w',(Instr.storeAt t (.pointer (some ⟨b1,i*P.cellsOf e1+c,none⟩)) v).run P w= .ok () w'∧
   Le P w I β hp w' I β (ar hp id (some (.nest e0 (setRow P (l.set i (dY P e1 (j6 (parts P e1 x0) c cs))) e0 es path) vers')))∧
   aK P w' I β (ar hp id (some (.nest e0 (setRow P (l.set i (dY P e1 (j6 (parts P e1 x0) c cs))) e0 es path) vers'))) B M w0:=by
 have hR:=S.rows ae hb ha;obtain⟨Ca,T,hh,hL,hs,zk⟩:=hR.cells;have pg:i<l.length:=(cP.1 hx).1;have eU:cs.length=v.cells.toList.length:=by simpa using hk
 have WQ:i*P.cellsOf e1+c+v.cells.size≤Ca.size:=by
  have:(i+1)*P.cellsOf e1≤l.length*P.cellsOf e1:=fg _ pg;rw[nW]at this;omega
 have dV:=QM (t:=t) (o:=i*P.cellsOf e1+c) (v:=v) ht hn hh WQ h1;have hlen:(Ca.toList.take (i*P.cellsOf e1+c)++(v.cells.toList++Ca.toList.drop (i*P.cellsOf e1+c+v.cells.toList.length))).length=Ca.size:=by
  rw[JO _ _ _ (by simpa using WQ)];simp
 have cn:= @aps P w I b1 i c e1 T l cs x0 Ca v.cells.toList hR hh hs hx eU sL;have dU:=hR.nI;have hr:=S.h.rel id _ ae;rw[hb]at hr;cases hr with
 |kO aJ=>cases aJ
 |nest aJ ed oh=>
 cases aJ;have pj:∀q e' m,At P w b1 e1 l q b1 e' m→q=[]:=by
  intro q e' m h;have:=oh _ _ _ _ _ _ _ (ha.app h) ha;simpa using this
 have zl:=setRow_heap w b1 Ca (Ca.toList.take (i*P.cellsOf e1+c)++(v.cells.toList++Ca.toList.drop (i*P.cellsOf e1+c+v.cells.toList.length))).toArray T (0,0) hh;have ni:=apt hh (Cb:=(Ca.toList.take (i*P.cellsOf e1+c)++(v.cells.toList++Ca.toList.drop (i*P.cellsOf e1+c+v.cells.toList.length))).toArray) (by simpa using hlen);have xg:=fun k (hk:k≠b1)=>setRow_other w b1 k (Ca.toList.take (i*P.cellsOf e1+c)++(v.cells.toList++Ca.toList.drop (i*P.cellsOf e1+c+v.cells.toList.length))).toArray hk;generalize QS:(Ca.toList.take (i*P.cellsOf e1+c)++(v.cells.toList++Ca.toList.drop (i*P.cellsOf e1+c+v.cells.toList.length))).toArray=Cb at*
 generalize hL':l.set i (dY P e1 (j6 (parts P e1 x0) c cs))=l' at*
 have pZ:l'.length=l.length:=by rw[←hL'];simp
 have A9:∀k j,I k j→(w.setRow b1 Cb).cell? ⟨k,j,none⟩=w.cell? ⟨k,j,none⟩:=fun k j hk=>World.cell?_of_block (xg k (fun e=>dU j (e▸hk)));refine⟨_,dV,apo S (i:=i) (c:=c) K ae hb ha pZ xg ni (by simp) ⟨rfl,rfl⟩ ?_ ?_ hK xf CZ JD ?_⟩
 ·refine⟨hR.ok,⟨Cb,T,zl,(show Cb.size=Ca.size by rw[←QS];simpa using hlen)▸hL,by rw[pZ,←QS];simp only[wG];omega,fun i' j x' t' k1 k2 k3=> ?_⟩,dU⟩;obtain⟨x1,y1,y2⟩:=cn k1 k2;rcases y2 with⟨jj,y,u,rfl,rfl,z1,z2,z3,z4⟩|⟨z3,z4⟩
  ·exact⟨u,z4,by rw[z3];exact(eM jj y u t' z1 z2 k2).mono (fun _ _ h=>h) A9 fun _ _ _ _ _=>ni _⟩
  ·obtain⟨v1,m1,m2⟩:=zk i' j x1 t' y1 k2 k3;exact⟨v1,z4.trans m1,by rw[z3];exact m2.mono (fun _ _ h=>h) A9 fun _ _ _ _ _=>ni _⟩
 ·intro a r b' e' m h;obtain⟨i',c'⟩:=a;cases h with
  |step k1 k2 k3 k4 k5 k6 k7 k8=>
   rw[zl]at k1;cases k1;obtain⟨x1,y1,y2⟩:=cn k2 k3;rcases y2 with⟨jj,y,u,rfl,rfl,z1,z2,z3,z4⟩|⟨z3,z4⟩
   ·rw[k7]at z4;obtain⟨g1,g2⟩:=apu jj y u _ _ _ _ _ _ z1 z2 k3 k4 (z3.symm.trans k5) k6 (fP z4).symm;subst g1;have mz:=k8.AU (w:=w) fun q2 b5 e5 mO hq=>xg b5 (g2 _ _ _ _ hq).1;exact⟨(g2 _ _ _ _ mz).1,.inr ⟨rfl,(g2 _ _ _ _ mz).2⟩⟩
   ·rw[k5]at z3;rw[k7]at z4;have bz:∀q2 b5 e5 mO,At P w _ _ _ q2 b5 e5 mO→b5≠b1:=fun q2 b5 e5 mO hq Di=>by
     subst Di;have:=pj _ _ _ (.step hh y1 k3 k4 z3.symm k6 z4.symm hq);cases this
    have mz:=k8.AU (w:=w) fun q2 b5 e5 mO hq=>xg b5 (bz q2 b5 e5 mO hq);exact⟨bz _ _ _ _ mz,.inl (.step hh y1 k3 k4 z3.symm k6 z4.symm mz)⟩
 ·intro r i' c' t' v' ea l0 bO W0 rL hc;rcases kP with kP|kP
  ·
   have iy:∀{i' c' x1 t' e3},l[i']? =some x1→(bp P e1)[c']? =some t'→P.underlying t'=some (.slice e3)→∃x',l'[i']? =some x'∧cW P e1 x' c'=cW P e1 x1 c'∧Cb[i'*P.cellsOf e1+c']? =Ca[i'*P.cellsOf e1+c']? :=by
    intro i' c' x1 t' e3 g1 g2 g3;have bO:i'<l'.length:=by rw[pZ];exact(cP.1 g1).1
    have eo:=cv bO;obtain⟨x2,y1,y2⟩:=cn eo g2;rw[g1]at y1;cases y1;rcases y2 with⟨jj,y,u,rfl,rfl,z1,z2,z3,z4⟩|⟨z3,z4⟩
    ·have:=kP jj t' (cP.1 z1).1 g2;unfold fj at this;rw[g3]at this;cases this
    ·exact⟨_,eo,z3,z4⟩
   obtain⟨b',e',m,C5,T,f,x,k1,k2,k3,k4,k5,k6⟩:=hc;refine⟨l0,rfl,?_⟩;cases k1 with
   |here=>
    rw[hh]at k2;cases k2;obtain⟨x',g1,g2,g3⟩:=iy k3 k4 rL;exact⟨_,_,l',Cb,_,_,x',.here,zl,g1,k4,g2.trans k5,g3.trans k6⟩
   |step q1 q2 q3 q4 q5 q6 q7 q8=>
    have q1':=q1;rw[hh]at q1;cases q1;obtain⟨x',g1,g2,g3⟩:=iy q2 q3 q4;have bz:∀q2 b5 e5 mO,At P w _ _ _ q2 b5 e5 mO→b5≠b1:=fun q9 b5 e5 mO hq Di=>by
     subst Di;have:=pj _ _ _ (.step hh q2 q3 q4 q5 q6 q7 hq);cases this
    have mz:=q8.mono (w':=w.setRow b1 Cb) fun q2 b5 e5 mO hq=>xg b5 (bz q2 b5 e5 mO hq);exact⟨b',e',m,C5,T,f,x,.step zl g1 q3 q4 (g2.trans q5) q6 (g3.trans q7) mz,(xg _ (bz _ _ _ _ q8)).trans k2,k3,k4,k5,k6⟩
  ·exact absurd W0 (kP _ (by simp) bO)
theorem JU:∀(vs:List Nat) (d k:Nat),d≤k→k<vs.length→cy (raise d vs) k=cy vs k+1
 | [],d,k,_,h=>by simp at h
 |v::vs,0,0,_,_=>by simp[raise,cy]
 |v::vs,0,k+1,_,h=>by
  have:=JU vs 0 k (mi _) (by simpa using h);simpa[raise,cy]using this
 |v::vs,d+1,0,h,_=>by omega
 |v::vs,d+1,k+1,h,h2=>by
  have:=JU vs d k (by omega) (by simpa using h2);simpa[raise,cy]using this
theorem QT:∀(vs:List Nat) (d:Nat),(raise d vs).length=vs.length
 | [],0=>rfl
 | [],d+1=>rfl
 |v::vs,0=>by simp[raise]
 |v::vs,d+1=>by simp[raise,QT vs d]
theorem JV:∀(vs:List Nat) (d k:Nat),cy vs k≤cy (raise d vs) k
 | [],0,k=>by simp[raise,cy]
 | [],d+1,k=>by simp[raise,cy]
 |v::vs,0,0=>by simp[raise,cy]
 |v::vs,0,k+1=>by
  have:=JV vs 0 k;simpa[raise,cy]using this
 |v::vs,d+1,0=>by simp[raise,cy]
 |v::vs,d+1,k+1=>by
  have:=JV vs d k;simpa[raise,cy]using this
theorem apv{t:TypeId}{v:Value}{x:V}(hv:ah P w I β hp v x)(h:gg P t x=true)(hs:fj P t=true):Pure P w I t v x:=by
 unfold fj at hs;unfold gg at h;cases hu:P.underlying t with
 |none=>rw[hu]at hs;cases hs
 |some d=>
  rw[hu]at hs h;cases d<;>simp only at hs<;>first|(cases hs;done)|skip
  all_goals cases x<;>simp only at h<;>first|(cases h;done)|skip
  ·rw[hv.qD];exact .bool hu
  ·simp only[il]at h;subst h;rw[hv.jP];exact .int hu
  ·obtain⟨s,rfl,hl⟩:=hv.tT;exact .str hu hl
def W3(P:Program)(w:World)(I:Nat→Nat→Prop)(o:Option Nat)(blk:ag)(b2:Nat)(e2:TypeId)(cK:List V):Prop:=
 (∀r b' e' m,At P w b2 e2 cK r b' e' m→j9 P w I b' e' m∧bV P w o blk b')∧∀r1 r2 b' e1 m1 xh m2,At P w b2 e2 cK r1 b' e1 m1→At P w b2 e2 cK r2 b' xh m2→r1=r2
theorem W4(S:aK P w I β hp B M w0){b9 b2:Nat}{e2:TypeId}{cK:List V}(ae:hp b9=some (.arr e2 cK false))(hb:β b9=some b2)(hs:(flat P e2).all (fj P)=true):
  W3 P w I (β b9) (.arr e2 cK false) b2 e2 cK:=by
 have only:∀r b' e' m,At P w b2 e2 cK r b' e' m→r=[]:=by
  intro r b' e' m h;cases h with
  |here=>rfl
  |step h1 h2 h3 h4 h5 h6 h7 h8=>
   rw[vn]at h3;have:=jk.1 hs _ (o4 h3);unfold fj at this;rw[h4]at this;cases this
 refine⟨fun r b' e' m h=> ?_,fun r1 r2 b' e1 m1 xh m2 h1 h2=>by rw[only _ _ _ _ h1,only _ _ _ _ h2]⟩;have:=only _ _ _ _ h;subst this;cases h;have hr:=S.h.rel b9 _ ae;cases hr with
 |fT aJ=>rw[hb]at aJ;cases aJ
 |arr hL aD aJ hh b7 hf jm hx=>
  rw[hb]at aJ;cases aJ;refine⟨⟨aD,⟨_,_,hh,hL,b7,fun i j x t' k1 k2 k3=> ?_⟩,jm rfl⟩,.root (by simp) hb⟩;obtain⟨v,m1,m2⟩:=hx i j x t' k1 k2 k3;refine⟨v,m1,.iO ?_ m2⟩;rw[vn]at k2;exact jk.1 hs _ (o4 k2)
theorem apw(S:aK P w I β hp B M w0){b9 b2:Nat}{e2:TypeId}{cK:List V}{vm:List Nat}(ae:hp b9=some (.nest e2 cK vm))(hb:β b9=some b2):
  W3 P w I (β b9) (.nest e2 cK vm) b2 e2 cK:=by
 have hr:=S.h.rel b9 _ ae;cases hr with
 |kO aJ=>rw[hb]at aJ;cases aJ
 |nest aJ ed oh=>
  rw[hb]at aJ;cases aJ;exact⟨fun r b' e' m h=>⟨ed _ _ _ _ h,.row hb h⟩,fun r1 r2 b' e1 m1 xh m2 h1 h2=>oh _ _ _ _ _ _ _ h1 h2⟩
theorem afF{c:Nat}{e1 e2 t':TypeId}(h:(((flat P e1).drop c).take 1).all (fun u=>match P.underlying u with|some (.slice e3)=>Nat.beq e2 e3|_=>false)=true)(ht:(bp P e1)[c]? =some t'):
  P.underlying t'=some (.slice e2):=by
 rw[vn]at ht;have hm:t'∈((flat P e1).drop c).take 1:=by
  refine o4 (i:=0) ?_;rw[mL (by omega),uY];simpa using ht
 have:=jk.1 h _ hm;split at this
 ·rename_i e3 hu;rw[bU]at this;rw[hu,this]
 ·cases this
theorem afG(S:aK P w I β hp B M w0){t:TypeId}{v:Value}{id b9 b b1 i c:Nat}{e0 e1 e2:TypeId}{es l cK:List V}{vers:List Nat}{path:Path}{x0:V}{dd:ag}
  (ae:hp id=some (.nest e0 es vers)) (hb:β id=some b) (ha:At P w b e0 es path b1 e1 l) (ht:rq P t=true) (hn:P.cellsOf t=1)
  (hx:l[i]? =some x0) (sL:c+1≤P.cellsOf e1) (JW:(((flat P e1).drop c).take 1).all (fun u=>match P.underlying u with|some (.slice e3)=>Nat.beq e2 e3|_=>false)=true)
  (dW:hp b9=some dd) (bz:id≠b9)
  (hv:((∃a,v= .slice a 0 0)∧cK=[])∨∃b2 cap,v= .slice (some ⟨b2,0,none⟩) cK.length cap∧cap*P.cellsOf e2=bsize w b2∧cK.length≤cap∧cap≤maxLen∧W3 P w I (β b9) dd b2 e2 cK):
  vp P ((Instr.storeAt t (.pointer (some ⟨b1,i*P.cellsOf e1+c,none⟩)) v).run P w) w I β hp B M w0
   ⟨.undef,[(id,.nest e0 (setRow P (l.set i (dY P e1 (j6 (parts P e1 x0) c [.list e2 cK]))) e0 es path) (raise path.length vers)),(b9,.dead)]⟩:=by
 obtain⟨xi,S1⟩:=AZ S dW;have vr:ar hp b9 (some .dead) id=some (.nest e0 es vers):=by rw[db _ _ bz];exact ae
 have zk:v.cells= #[v]:=by rcases hv with⟨⟨_,rfl⟩,_⟩|⟨b2,cap,rfl,_⟩<;>rfl
 have vu:v.oneCell'=true:=by rcases hv with⟨⟨_,rfl⟩,_⟩|⟨b2,cap,rfl,_⟩<;>rfl
 have free:∀b',bV P w (β b9) dd b'→(M b'∨B≤b')∧∀QU ng,ar hp b9 (some .dead) QU=some ng→¬bV P w (β QU) ng b':=by
  intro b' ho;refine⟨S.h.own b9 dd b' dW ho,fun QU ng h3 ho3=> ?_⟩;by_cases hi:QU=b9
  ·subst hi;rw[cN]at h3;cases h3;exact ho3.alive rfl
  ·rw[db _ _ hi]at h3;exact hi (S.h.inj _ _ _ _ b' h3 dW ho3 ho)
 have qH:∀b',bV P w (β b9) dd b'→b'≠b1:=by
  intro b' ho e;subst e;exact bz (S.h.inj _ _ _ _ b' ae dW (.row hb ha) ho)
 have eM:∀(j:Nat) y u t',[V.list e2 cK][j]? =some y→v.cells.toList[j]? =some u→(bp P e1)[c+j]? =some t'→j=0∧y= .list e2 cK∧u=v∧P.underlying t'=some (.slice e2):=by
  intro j y u t' k1 k2 k3;cases j with
  |succ j=>simp at k1
  |zero=>
   rw[zk]at k2;simp at k1 k2;exact⟨rfl,k1.symm,k2.symm,afF JW k3⟩
 rcases hv with⟨⟨a0,rfl⟩,rfl⟩|⟨b2,cap,rfl,v1,v2,v3,v4⟩
 ·obtain⟨w',r1,r2,r3⟩:=QR S1 (vers':=raise path.length vers) (fun _ _ _ _=>False) vr hb ha ht (v:= .slice a0 0 0) hn hx (cs:=[.list e2 []]) rfl sL (by rw[zk];simp[vu])
   (fun j y u t' k1 k2 k3=>by obtain⟨rfl,rfl,rfl,k4⟩:=eM j y u t' k1 k2 k3;exact .emp k4)
   (fun j y u t' e3 lb b3 len cap k1 k2 k3 k4 k5 k6=>by obtain⟨rfl,rfl,rfl,k7⟩:=eM j y u t' k1 k2 k3;intro k8;cases k8;exact absurd k6 (qt _))
   (fun _ _ _ _ h=>h.elim) (fun _ _ _ _ _ _ _ h=>h.elim) (QT _ _) (JV _ _) (.inr fun k h1 h2=>by rw[JU _ _ _ h1 h2];omega)
  exact⟨w',I,β,r1,xi.trans r2,r3,rfl⟩
 ·obtain⟨w',r1,r2,r3⟩:=QR S1 (vers':=raise path.length vers) (fun r b' e' m=>At P w b2 e2 cK r b' e' m) vr hb ha ht (v:= .slice (some ⟨b2,0,none⟩) cK.length cap) hn hx (cs:=[.list e2 cK]) rfl sL (by rw[zk];simp[vu])
   (fun j y u t' k1 k2 k3=>by
    obtain⟨rfl,rfl,rfl,k4⟩:=eM j y u t' k1 k2 k3;rcases PL cap with h0|h0
    ·subst h0;obtain rfl:=tF.1 (Nat.le_zero.1 v2);exact .emp k4
    ·exact .row k4 h0 v1 v2 v3)
   (fun j y u t' e3 lb b3 len cap k1 k2 k3 k4 k5 k6 k8=>by
    obtain⟨rfl,rfl,rfl,k7⟩:=eM j y u t' k1 k2 k3;cases k5;cases k8;exact⟨rfl,fun r b' e' m h=>⟨qH _ (v4.1 _ _ _ _ h).2,h⟩⟩)
   (fun r b' e' m h=>⟨(v4.1 _ _ _ _ h).1,free _ (v4.1 _ _ _ _ h).2⟩) (fun r1 r2 b' e1 m1 xh m2 h1 h2=>v4.2 _ _ _ _ _ _ _ h1 h2) (QT _ _) (JV _ _) (.inr fun k h1 h2=>by rw[JU _ _ _ h1 h2];omega)
  exact⟨w',I,β,r1,xi.trans r2,r3,rfl⟩
theorem afH(S:aK P w I β hp B M w0){t:TypeId}{v:Value}{x:V}{r:R}{rd:List Nat}{id b b1 i c:Nat}{e0 e1:TypeId}{es l:List V}{vers:List Nat}{path:Path}
  (ht:rq P t=true) (hn:x.cells.length=P.cellsOf t) (hv:ah P w I β hp v x) (ae:hp id=some (.nest e0 es vers)) (hb:β id=some b) (ha:At P w b e0 es path b1 e1 l)
  (h:(Qd P t id e0 es vers path i c x).run C hp=some (r,rd)):vp P ((Instr.storeAt t (.pointer (some ⟨b1,i*P.cellsOf e1+c,none⟩)) v).run P w) w I β hp B M w0 r:=by
 unfold Qd at h;obtain⟨bO,h⟩:=aW h;rw[rf]at bO;obtain⟨e',vv,q1,q2,h⟩:=FQ h;obtain⟨p1,p2⟩:=WC ha;rw[p1]at q1;cases q1;rw[p2]at q2;cases q2;simp only[V.toList]at h;obtain⟨aD,h⟩:=aW h;obtain⟨x0,p5,h⟩:=oK h;obtain⟨sL,h⟩:=aW h;rw[fG]at sL;have slice:∀e2,P.underlying t=some (.slice e2)→
   ((((Rd.aQ ((((flat P e1).drop c).take x.cells.length).all fun u=>match P.underlying u with|some (.slice e3)=>Nat.beq e2 e3|_=>false) (
     match(generalizing:=false) x with
     | .nilS e3=> .aQ (Nat.beq e2 e3) (.ret ⟨.undef,[(id,.nest e0 (setRow P (l.set i (dY P e1 (j6 (parts P e1 x0) c [.list e2 []]))) e0 es path) (raise path.length vers))]⟩)
     | .whole e3 b9=> .get b9 fun
      |some (.arr e4 cK false)=> .aQ (Nat.beq e2 e3&&(Nat.beq e3 e4&&(!(Nat.beq id b9)&&(flat P e2).all (fj P))))
        (.ret ⟨.undef,[(id,.nest e0 (setRow P (l.set i (dY P e1 (j6 (parts P e1 x0) c [.list e2 cK]))) e0 es path) (raise path.length vers)),(b9,.dead)]⟩)
      |some (.nest e4 cK _)=> .aQ (Nat.beq e2 e3&&(Nat.beq e3 e4&& !(Nat.beq id b9)))
        (.ret ⟨.undef,[(id,.nest e0 (setRow P (l.set i (dY P e1 (j6 (parts P e1 x0) c [.list e2 cK]))) e0 es path) (raise path.length vers)),(b9,.dead)]⟩)
      |_=> .fail
     |_=> .fail)):Rd R).run C hp))=some (r,rd)→
   vp P ((Instr.storeAt t (.pointer (some ⟨b1,i*P.cellsOf e1+c,none⟩)) v).run P w) w I β hp B M w0 r:=by
  intro e2 hu h;obtain⟨JW,h⟩:=aW h;cases x with
  |nilS e3=>
   obtain⟨hc,h⟩:=aW h;obtain rfl:=bG h;rw[bU]at hc;subst hc;cases hv with
   |nilS=>
    obtain⟨w',r1,r2,r3⟩:=QR S (v:= .slice none 0 0) (vers':=raise path.length vers) (fun _ _ _ _=>False) ae hb ha ht hn.symm p5 (cs:=[.list e2 []]) rfl sL (by simp[Value.cells,Value.oneCell'])
     (fun j y u t' k1 k2 k3=>by
      cases j with
      |succ j=>simp at k1
      |zero=>
       simp[Value.cells]at k1 k2;subst k1;subst k2;exact .emp (afF JW k3))
     (fun j y u t' e3 lb b3 len cap k1 k2 k3 k4 k5 k6=>by
      cases j with
      |succ j=>simp at k1
      |zero=>simp[Value.cells]at k2;subst k2;intro k8;cases k8)
     (fun _ _ _ _ h=>h.elim) (fun _ _ _ _ _ _ _ h=>h.elim) (QT _ _) (JV _ _) (.inr fun k h1 h2=>by rw[JU _ _ _ h1 h2];omega)
    exact⟨w',I,β,r1,r2,r3,rfl⟩
  |whole e3 b9=>
   obtain⟨l1,h⟩:=run_get h;cases dW:hp b9 with
   |none=>rw[dW]at h;cases h
   |some dd=>
    rw[dW]at h;cases dd with
    |dead=>cases h
    |var _=>cases h
    |map _ _=>cases h
    |out _ _ _ _=>cases h
    |arr e4 cK fz=>
     cases fz with
     |true=>cases h
     |false=>
      obtain⟨hc,h⟩:=aW h;obtain rfl:=bG h;simp only[bc,bU,qu]at hc;obtain⟨rfl,rfl,bz,kP⟩:=hc;have W5:id≠b9:=fun e=>by rw[e,nX]at bz;cases bz
      refine afG S ae hb ha ht hn.symm p5 sL JW dW W5 ?_;cases hv with
      |fq cM=>rw[dW]at cM;cases cM
      |fk cM gY=>rw[dW]at cM;cases cM;exact .inl ⟨⟨_,rfl⟩,rfl⟩
      |whole cM gY cS hle zg=>
       rw[dW]at cM;cases cM;exact .inr ⟨_,_,rfl,cS,hle,zg,W4 S dW gY kP⟩
      |fA cM=>rw[dW]at cM;cases cM
      |iv cM=>rw[dW]at cM;cases cM
      |fb cM=>rw[dW]at cM;cases cM
    |nest e4 cK vm=>
     obtain⟨hc,h⟩:=aW h;obtain rfl:=bG h;simp only[bc,bU,qu]at hc;obtain⟨rfl,rfl,bz⟩:=hc;have W5:id≠b9:=fun e=>by rw[e,nX]at bz;cases bz
     refine afG S ae hb ha ht hn.symm p5 sL JW dW W5 ?_;cases hv with
     |fq cM=>rw[dW]at cM;cases cM
     |fk cM gY=>rw[dW]at cM;cases cM
     |whole cM=>rw[dW]at cM;cases cM
     |fA cM gY=>rw[dW]at cM;cases cM;exact .inl ⟨⟨_,rfl⟩,rfl⟩
     |iv cM=>rw[dW]at cM;cases cM
     |fb cM gY cS hle zg=>
      rw[dW]at cM;cases cM;exact .inr ⟨_,_,rfl,cS,hle,zg,apw S dW gY⟩
  |_=>cases h
 have iO:(((Rd.aQ ((((flat P e1).drop c).take x.cells.length).all (fj P)&&va P (((flat P e1).drop c).take x.cells.length) x.cells)
   (.ret ⟨.undef,[(id,.nest e0 (setRow P (l.set i (dY P e1 (j6 (parts P e1 x0) c x.cells))) e0 es path) vers)]⟩)):Rd R).run C hp)=some (r,rd)→
   vp P ((Instr.storeAt t (.pointer (some ⟨b1,i*P.cellsOf e1+c,none⟩)) v).run P w) w I β hp B M w0 r:=by
  intro h;obtain⟨hc,h⟩:=aW h;obtain rfl:=bG h;simp only[bc]at hc;obtain⟨hs,fl⟩:=hc;obtain⟨tl,tg⟩:=Dh fl;have W6:∀(j:Nat) t',j<x.cells.length→(bp P e1)[c+j]? =some t'→(((flat P e1).drop c).take x.cells.length)[j]? =some t':=by
   intro j t' hj gi;rw[mL hj,uY];rw[vn]at gi;exact gi
  have sat:∀(j:Nat) t',j<x.cells.length→(bp P e1)[c+j]? =some t'→fj P t'=true:=fun j t' hj gi=>
   jk.1 hs _ (o4 (W6 j t' hj gi))
  have tW:v.cells.size=x.cells.length∧∀(j:Nat) u y,v.cells.toList[j]? =some u→x.cells[j]? =some y→ah P w I β hp u y:=by
   have base:(∀xs,x≠ .agg xs)→x.cells=[x]→v.cells.size=x.cells.length∧∀(j:Nat) u y,v.cells.toList[j]? =some u→x.cells[j]? =some y→ah P w I β hp u y:=by
    intro _ tU;rw[tU]at tl tg W6⊢;have h0:0<(((flat P e1).drop c).take [x].length).length:=by rw[tl];exact Nat.one_pos
    have fl:=tg 0 _ x (cv h0) rfl;obtain⟨o1,o2⟩:=afC hv fl;rw[o2];refine⟨rfl,fun j u y hu hy=> ?_⟩;cases j with
    |zero=>simp at hu hy;subst hu;subst hy;exact hv
    |succ j=>simp at hy
   cases x with
   |agg xs=>
    obtain⟨cs,rfl,h1,h2⟩:=hv.qE;exact⟨h1,fun j u y a b=>h2 j u y (by simpa[Value.cells]using a) b⟩
   |_=>exact base (by simp) rfl
  have pure:∀(j:Nat) u y t',v.cells.toList[j]? =some u→x.cells[j]? =some y→(bp P e1)[c+j]? =some t'→Pure P w I t' u y:=by
   intro j u y t' hu hy gi;have hj:=(cP.1 hy).1;exact apv (tW.2 j u y hu hy) (tg j t' y (W6 j t' hj gi) hy) (sat j t' hj gi)
  obtain⟨w',r1,r2,r3⟩:=QR S (v:=v) (vers':=vers) (fun _ _ _ _=>False) ae hb ha ht (by rw[tW.1];exact hn.symm) p5 tW.1.symm sL (fun u hu=>by
    obtain⟨j,hj⟩:=wI hu;have eQ:j<x.cells.length:=by rw[←tW.1];simpa using(cP.1 hj).1
    have vw:c+j<(bp P e1).length:=by rw[gP aD];omega
    have one:∀t' y,Pure P w I t' u y→u.oneCell'=true:=by intro t' y h;cases h<;>rfl
    exact one _ _ (pure j u _ _ hj (cv eQ) (cv vw)))
   (fun j y u t' k1 k2 k3=> .iO (sat j t' (cP.1 k1).1 k3) (pure j u y t' k2 k1 k3))
   (fun j y u t' e3 lb b3 len cap k1 k2 k3 k4 k5 k6=>by
    have:=sat j t' (cP.1 k1).1 k3;unfold fj at this;rw[k4]at this;cases this)
   (fun _ _ _ _ h=>h.elim) (fun _ _ _ _ _ _ _ h=>h.elim) rfl (fun _=>aR _) (.inl fun j t' hj gi=>sat j t' hj gi)
  exact⟨w',I,β,r1,r2,r3,rfl⟩
 cases hu:P.underlying t with
 |none=>rw[hu]at h;exact iO h
 |some d=>
  cases d with
  |slice e2=>rw[hu]at h;exact slice e2 hu h
  |_=>rw[hu]at h;exact iO h
end
section
variable {P:Program}{w w':World}{I I':Nat→Nat→Prop}{β β':Nat→Option Nat}{hp hp':Nat→Option ag}{C:af}{B:Nat}{M:Nat→Prop}{w0:Start}
theorem Ba{e e1:TypeId}(h:rowOf P e=some e1):P.underlying e=some (.slice e1)∧cR P e=false∧dZ P e=true∧dZ P e1=true∧(flat P e1).all (fj P)=true:=by
 unfold rowOf at h;split at h
 ·rename_i e2 hu;cases hc:(!(cR P e)&&(dZ P e&&(dZ P e2&&(flat P e2).all (fj P))))with
  |false=>rw[hc]at h;cases h
  |true=>
   rw[hc]at h;cases h;simp only[bc,qu]at hc;exact⟨hu,hc.1,hc.2.1,hc.2.2.1,hc.2.2.2⟩
 ·cases h
theorem apx{e1:TypeId}(ld:(flat P e1).all (fj P)=true){w:World}{b1 b':Nat}{e':TypeId}{l m:List V}{r:Path}(h:At P w b1 e1 l r b' e' m):r=[]∧b'=b1∧e'=e1∧m=l:=by
 cases h with
 |here=>exact⟨rfl,rfl,rfl,rfl⟩
 |step h1 h2 h3 h4 h5 h6 h7 h8=>
  rw[vn]at h3;have:=jk.1 ld _ (o4 h3);unfold fj at this;rw[h4]at this;cases this
def Dk(P:Program)(w:World)(e1:TypeId)(K:Nat→List V→Prop)(v:Value)(l:List V):Prop:=
 (l=[]∧∃a,v= .slice a 0 0)∨
 (∃b1 cap,0<cap∧v= .slice (some ⟨b1,0,none⟩) l.length cap∧cap*P.cellsOf e1=bsize w b1∧l.length≤cap∧cap≤maxLen∧K b1 l)
theorem afI{b:Nat}{e e1:TypeId}{ys:List V}{vers:List Nat}{C':Array Value}(hr:rowOf P e=some e1)
  {T:TypeId} (zl:w'.heap[b]? =some (.cells C' T (0,0))) (hlen:ys.length≤C'.size) (dU:∀j,¬I b j) (K:Nat→Nat→List V→Prop)
  (iP:∀(i:Nat) x,ys[i]? =some x→∃l v,x= .list e1 l∧C'[i]? =some v∧Dk P w e1 (K i) v l)
  (hK:∀i b1 l,K i b1 l→b1≠b∧w'.heap[b1]? =w.heap[b1]? ∧j9 P w I b1 e1 l)
  (xf:∀i j b1 l m,K i b1 l→K j b1 m→i=j):
  (∀b',bV P w' (some b) (.nest e ys vers) b'→b'=b∨∃i l,K i b' l)∧
  ∀{dn gQ},(∀b j,I b j→w'.cell? ⟨b,j,none⟩=w.cell? ⟨b,j,none⟩)→fS P w' I dn gQ (some b) (.nest e ys vers):=by
 obtain⟨hu,dh,aD,vy,ld⟩:=Ba hr;have hLs:wZ P T e C'.size:=fun fc=>by unfold isByte at fc;rw[hu]at fc;cases fc
 have oN:bp P e=[e]:=by simp[bp,dh]
 have hk:P.cellsOf e=1:=by rw[←gP aD,oN];rfl
 have Dl:∀x j,cW P e x j=x:=fun x j=>by simp[cW,dh]
 have JX:∀q b2 e2 m,At P w' b e ys q b2 e2 m→(q=[]∧b2=b∧e2=e∧m=ys)∨∃i,q=[(i,0)]∧e2=e1∧K i b2 m:=by
  intro q b2 e2 m h;cases h with
  |here=>exact .inl ⟨rfl,rfl,rfl,rfl⟩
  |step h1 h2 h3 h4 h5 h6 h7 h8=>
   right;rw[zl]at h1;cases h1;rw[oN]at h3;obtain⟨hc,ht⟩:=cP.1 h3;simp only[List.length_singleton,Nat.lt_one_iff]at hc;subst hc;simp only[List.getElem_singleton]at ht;subst ht;rw[hu]at h4;cases h4;rw[Dl]at h5;subst h5;rw[hk,kD,Nat.add_zero]at h7;obtain⟨l,v,hl,hv,hh⟩:=iP _ _ h2;cases hl;rw[hv]at h7;cases h7;rcases hh with⟨rfl,a',he⟩|⟨b1',WV,_,he,_,_,_,xj⟩
   ·cases he;exact absurd h6 (qt _)
   ·cases he;obtain⟨rfl,rfl,rfl,rfl⟩:=apx ld h8;exact⟨_,rfl,rfl,xj⟩
 have mP:∀i b1 l,K i b1 l→w'.heap[b1]? =w.heap[b1]? :=fun i b1 l h=>(hK i b1 l h).2.1;refine⟨fun b' ho=> ?_,fun A8=> ?_⟩
 ·cases ho with
  |root _ h=>exact .inl (fP h).symm
  |row h ha=>
   cases h;rcases JX _ _ _ _ ha with⟨_,h,_,_⟩|⟨i,_,_,xj⟩
   ·exact .inl h
   ·exact .inr ⟨_,_,xj⟩
 ·refine .nest rfl (fun q b2 e2 m h=> ?_) (fun q1 q2 b2 e2 m2 e3 m3 h1 h2=> ?_)
  ·rcases JX _ _ _ _ h with⟨rfl,rfl,rfl,rfl⟩|⟨i,rfl,rfl,xj⟩
   ·refine⟨aD,⟨C',_,zl,hLs,by rw[hk,kD];exact hlen,fun i j x t' hx ht hj=> ?_⟩,dU⟩;rw[hk]at hj;have W7:j=0:=by omega
    subst W7;rw[oN]at ht;simp only[List.getElem?_cons_zero,gW]at ht;subst ht;obtain⟨l,v,rfl,hv,hh⟩:=iP _ _ hx;refine⟨v,by rw[hk,kD,Nat.add_zero];exact hv,?_⟩;rw[Dl];rcases hh with⟨rfl,a,rfl⟩|⟨b1,cap,h0,rfl,hs,hl,hm,xj⟩
    ·exact .emp hu
    ·exact .row hu h0 (by rw[hs,JE (mP _ _ _ xj)]) hl hm
   ·obtain⟨_,_,⟨ok,⟨Ca,T2,c1,c0,c2,c3⟩,nI⟩⟩:=hK _ _ _ xj;refine⟨ok,⟨Ca,T2,(mP _ _ _ xj).trans c1,c0,c2,fun i' j x t' hx ht hj=> ?_⟩,nI⟩;obtain⟨v,m1,m2⟩:=c3 i' j x t' hx ht hj;have kP:fj P t'=true:=by
     rw[vn]at ht;exact jk.1 ld _ (o4 ht)
    refine⟨v,m1,?_⟩;generalize cW P e2 x j=y at m2;cases m2 with
    |iO a p=>exact .iO a (p.mono (fun _ _ h=>h) A8)
    |emp a=>unfold fj at kP;rw[a]at kP;cases kP
    |row a _ _ _ _=>unfold fj at kP;rw[a]at kP;cases kP
  ·rcases JX _ _ _ _ h1 with⟨rfl,rfl,_,_⟩|⟨i,rfl,_,k1⟩
   ·rcases JX _ _ _ _ h2 with⟨rfl,_,_,_⟩|⟨j,rfl,_,k2⟩
    ·rfl
    ·exact absurd rfl (hK _ _ _ k2).1
   ·rcases JX _ _ _ _ h2 with⟨rfl,rfl,_,_⟩|⟨j,rfl,_,k2⟩
    ·exact absurd rfl (hK _ _ _ k1).1
    ·rw[xf _ _ _ _ _ k1 k2]
theorem W8(S:aK P w I β hp B M w0){id b:Nat}{e e1:TypeId}{es:List V}{vers:List Nat}(hr:rowOf P e=some e1)(ae:hp id=some (.nest e es vers))(hb:β id=some b):
  ∃Ca T,w.heap[b]? =some (.cells Ca T (0,0))∧es.length≤Ca.size∧(∀j,¬I b j)∧
   (∀(i:Nat) x,es[i]? =some x→∃l v,x= .list e1 l∧Ca[i]? =some v∧Dk P w e1 (fun b1 l=>At P w b e es [(i,0)] b1 e1 l) v l)∧
   (∀i b1 l,At P w b e es [(i,0)] b1 e1 l→b1≠b∧b1<w.heap.size∧j9 P w I b1 e1 l∧(M b1∨B≤b1)∧bV P w (β id) (.nest e es vers) b1)∧
   ∀i j b1 l m,At P w b e es [(i,0)] b1 e1 l→At P w b e es [(j,0)] b1 e1 m→i=j:=by
 obtain⟨hu,dh,aD,vy,ld⟩:=Ba hr;have oN:bp P e=[e]:=by simp[bp,dh]
 have hk:P.cellsOf e=1:=by rw[←gP aD,oN];rfl
 have Dl:∀x j,cW P e x j=x:=fun x j=>by simp[cW,dh]
 have dz:=S.h.rel id _ ae;rw[hb]at dz;cases dz with
 |kO h=>cases h
 |nest aJ ed oh=>
  cases aJ;obtain⟨_,⟨Ca,T,c1,_,c2,c3⟩,nI⟩:=ed _ _ _ _ .here;rw[hk,kD]at c2;refine⟨Ca,T,c1,c2,nI,fun i x hx=> ?_,fun i b1 l ha=> ?_,fun i j b1 l m h1 h2=> ?_⟩
  ·obtain⟨v,hv,ho⟩:=c3 i 0 x e hx (by rw[oN];rfl) (by rw[hk];exact Nat.one_pos);rw[hk,kD,Nat.add_zero]at hv;rw[Dl]at ho;cases ho with
   |iO a _=>unfold fj at a;rw[hu]at a;cases a
   |emp a=>rw[hu]at a;cases a;exact⟨[],_,rfl,hv,.inl ⟨rfl,_,rfl⟩⟩
   |@row _ l b1 cap a h0 hs hl hm=>
    rw[hu]at a;cases a;refine⟨l,_,rfl,hv,.inr ⟨b1,cap,h0,rfl,hs,hl,hm,?_⟩⟩;exact .step c1 hx (by rw[oN];rfl) hu (Dl _ _) h0 (by rw[hk,kD,Nat.add_zero];exact hv) .here
  ·have ho:bV P w (β id) (.nest e es vers) b1:= .row hb ha;refine⟨fun h=> ?_,S.h.lt ae ho,ed _ _ _ _ ha,S.h.own id _ b1 ae ho,ho⟩;subst h;exact absurd (oh _ _ _ _ _ _ _ ha .here) (by simp)
  ·have:=oh _ _ _ _ _ _ _ h1 h2;simpa using this
theorem afJ(l:List Nat)(k:Nat)(h:k<l.length):cy l k<cy (l.map (· +1)) k:=by
 induction l generalizing k with
 |nil=>simp at h
 |cons a l ih=>
  cases k with
  |zero=>simp[cy]
  |succ k=>simpa[cy]using ih k (by simpa using h)
theorem apy{l:List Nat}{k:Nat}(h:l.length≤k):cy l k=0:=by
 induction l generalizing k with
 |nil=>rfl
 |cons a l ih=>
  cases k with
  |zero=>simp at h
  |succ k=>simpa[cy]using ih (by simpa using h)
theorem apz(S:aK P w I β hp B M w0){id nb b i:Nat}{e e1:TypeId}{es:List V}{y:V}{vers:List Nat}(hr:rowOf P e=some e1)(ae:hp id=some (.nest e es vers))(hb:β id=some b)(hy:es[i]? =some y)(hn:hp nb=none):
  ∃xk,Le P w I β hp w I xk (ar (ar hp id (some (.out e es (vers.map (· +1)) i))) nb (some (.arr e1 y.toList false)))∧
   aK P w I xk (ar (ar hp id (some (.out e es (vers.map (· +1)) i))) nb (some (.arr e1 y.toList false))) B M w0∧
   ∀Ca v T f,w.heap[b]? =some (.cells Ca T f)→Ca[i]? =some v→ah P w I xk (ar (ar hp id (some (.out e es (vers.map (· +1)) i))) nb (some (.arr e1 y.toList false))) v (.whole e1 nb):=by
 obtain⟨hu,dh,aD,vy,ld⟩:=Ba hr;obtain⟨Ca,T0,c1,c2,nI,rc,rk,ru⟩:=W8 S hr ae hb;have Bb:bp P e1=flat P e1:=vn e1;have oN:bp P e=[e]:=by simp[bp,dh]
 have Dl:∀x j,cW P e x j=x:=fun x j=>by simp[cW,dh]
 have hk:P.cellsOf e=1:=by rw[←gP aD,oN];rfl
 have gk:=(cP.1 hy).1;have QV:∀(j:Nat) l b1 cap,es[j]? =some (.list e1 l)→0<cap→Ca[j]? =some (.slice (some ⟨b1,0,none⟩) l.length cap)→At P w b e es [(j,0)] b1 e1 l:=
  fun j l b1 cap hx h0 hv=> .step c1 hx (by rw[oN];rfl) hu (Dl _ _) h0 (by rw[hk,kD,Nat.add_zero];exact hv) .here
 have bz:nb≠id:=fun h=>by rw[h,ae]at hn;cases hn
 have xc:∀b',bV P w (some b) (.out e es (vers.map (· +1)) i) b'→bV P w (some b) (.nest e es vers) b'∧∀l,¬At P w b e es [(i,0)] b' e1 l:=by
  intro b' ho;cases ho with
  |root _ h=>cases h;exact⟨.root (by simp) rfl,fun l ha=>(rk _ _ _ ha).1 rfl⟩
  |@sG _ e2 _ l _ _ j b2 _ cap C' T f h1 h2 hj hx h0 hv=>
   cases h1;rw[c1]at h2;cases h2;obtain⟨l',v',m1,m2,m3⟩:=rc _ _ hx;cases m1;have ha:=QV _ _ _ _ hx h0 hv;exact⟨.row rfl ha,fun l2 ha2=>hj (ru _ _ _ _ _ ha ha2)⟩
 have hes:es≠[]:=fun h=>by rw[h]at gk;simp at gk
 obtain⟨l1,S1⟩:=WG (w':=w) S (blk':= .out e es (vers.map (· +1)) i) ae (by simp)
  ⟨⟨rfl,rfl,by simp,fun k=>by
    by_cases hk:k<vers.length
    ·exact IT (afJ _ _ hk)
    ·rw[apy (by omega)];exact mi _⟩,fun k hk=>afJ _ _ hk,hes⟩ hb nI (.inr (by simp)) (fun _ _=>rfl) rfl (aR _) ⟨rfl,rfl⟩
  (fun b' h=> .inl (xc b' h).1) (fun _=>by
   refine .out rfl hu (by rw[Bb];exact ld) c1 c2 gk nI (fun j x hj hx=> ?_) (fun j b1 cap l hj hx h0 hv=> ?_) (fun j k b1 c1 c2 l m hj hk hx hz h1 h2 hv rG=> ?_)
   ·obtain⟨l,v,m1,m2,m3⟩:=rc j x hx;refine⟨l,v,m1,m2,?_⟩;subst m1;rcases m3 with⟨rfl,a,rfl⟩|⟨b1,cap,h0,rfl,q1,q2,q3,_⟩
    ·exact .emp hu
    ·exact .row hu h0 q1 q2 q3
   ·have:=rk _ _ _ (QV _ _ _ _ hx h0 hv);exact⟨this.1,this.2.2.1⟩
   ·exact ru _ _ _ _ _ (QV _ _ _ _ hx h1 hv) (QV _ _ _ _ hz h2 rG))
 have lh:ar hp id (some (.out e es (vers.map (· +1)) i)) nb=none:=by rw[db _ _ bz];exact hn
 obtain⟨l,v,Bc,hv,iP⟩:=rc i y hy;subst Bc;rcases iP with⟨rfl,a,rfl⟩|⟨b1,cap,h0,rfl,q1,q2,q3,ha⟩
 ·obtain⟨a1,a2⟩:=JI S1 (fz:=false) e1 lh;refine⟨_,l1.trans a1,a2,fun C9 v' T f h1 h2=> ?_⟩;rw[c1]at h1;cases h1;rw[hv]at h2;cases h2;exact .fk (cN _ _ _) (cN _ _ _)
 ·obtain⟨d1,d2,⟨ok,⟨C1,_,e2,e0,e3,e4⟩,nI1⟩,d4,d5⟩:=rk _ _ _ ha;obtain⟨a1,a2⟩:=FW S1 (w':=w) (blk:= .arr e1 l false) (b:=b1) lh
   (fun aA blk' h ho=>by
    by_cases hi:aA=id
    ·subst hi;rw[cN]at h;cases h;rw[hb]at ho;exact(xc _ ho).2 _ ha
    ·rw[db _ _ hi]at h;exact hi (S.h.inj _ _ _ _ _ h ae ho d5))
   (fun j h=>absurd h (nI1 j)) (fun _ _ _=>rfl) (aR _) ⟨rfl,rfl⟩ d4 (fun b' h=>(fP (h.flat (by simp))).symm)
   (fun hle=> .arr e0 vy rfl e2 e3 (fun h=>by cases h) (fun _=>nI1) fun i' j x t' k1 k2 k3=>by
    obtain⟨u,m1,m2⟩:=e4 i' j x t' k1 k2 k3;have kP:fj P t'=true:=by
     rw[Bb]at k2;exact jk.1 ld _ (o4 k2)
    refine⟨u,m1,?_⟩;generalize cW P e1 x j=z at m2⊢;cases m2 with
    |iO _ p=>exact p
    |emp a=>unfold fj at kP;rw[a]at kP;cases kP
    |row a _ _ _ _=>unfold fj at kP;rw[a]at kP;cases kP)
  refine⟨_,l1.trans a1,a2,fun C9 v' T f h1 h2=> ?_⟩;rw[c1]at h1;cases h1;rw[hv]at h2;cases h2;exact .whole (es:=l) (cN _ _ _) (cN _ _ _) q1 q2 q3
theorem apA(S:aK P w I β hp B M w0){t e e1:TypeId}{v:Value}{id b9 b i:Nat}{es cK:List V}{vers:List Nat}(hr:rowOf P e=some e1)(ae:hp id=some (.out e es vers i))(hb:β id=some b)
  (ht:rq P t=true) (hn:P.cellsOf t=1) (dW:hp b9=some (.arr e1 cK false)) (bz:id≠b9) (hv:ah P w I β hp v (.whole e1 b9)):
  vp P ((Instr.storeAt t (.pointer (some ⟨b,i*P.cellsOf e+0,none⟩)) v).run P w) w I β hp B M w0 ⟨.undef,[(id,.nest e (es.set i (.list e1 cK)) vers),(b9,.dead)]⟩:=by
 obtain⟨hu,dh,aD,vy,ld⟩:=Ba hr;have oN:bp P e=[e]:=by simp[bp,dh]
 have hk:P.cellsOf e=1:=by rw[←gP aD,oN];rfl
 obtain⟨xi,S1⟩:=AZ S dW;have vr:ar hp b9 (some .dead) id=some (.out e es vers i):=by rw[db _ _ bz];exact ae
 have dz:=S.h.rel id _ ae;rw[hb]at dz;cases dz with
 |out aJ nM aIB hh hs hi hI hc ed oh=>
 cases aJ;rw[hu]at nM;cases nM;rename_i Ca;have iP:∃K:Nat→List V→Prop,Dk P w e1 K v cK∧(∀b1 l,K b1 l→b1≠b∧j9 P w I b1 e1 l∧(M b1∨B≤b1)∧(∀aA blk',ar hp b9 (some .dead) aA=some blk'→¬bV P w (β aA) blk' b1))∧v.cells= #[v]∧v.oneCell'=true:=by
  cases hv with
  |fq hd=>rw[dW]at hd;cases hd
  |fb hd=>rw[dW]at hd;cases hd
  |fA hd=>rw[dW]at hd;cases hd
  |iv hd=>rw[dW]at hd;cases hd
  |@fk _ _ _ a0 hd hb=>rw[dW]at hd;cases hd;exact⟨fun _ _=>False,.inl ⟨rfl,a0,rfl⟩,fun _ _ h=>h.elim,rfl,rfl⟩
  |@whole _ _ _ _ b2 cap hd gY b7 cS hm=>
   rw[dW]at hd;cases hd;obtain⟨m1,m2⟩:=W4 S dW gY ld;obtain⟨m3,m4⟩:=m1 _ _ _ _ .here;rcases PL cap with h0|h0
   ·subst h0;obtain rfl:=tF.1 (Nat.le_zero.1 cS);exact⟨fun _ _=>False,.inl ⟨rfl,_,rfl⟩,fun _ _ h=>h.elim,rfl,rfl⟩
   ·refine⟨fun b1 l=>b1=b2∧l=cK,.inr ⟨b2,cap,h0,rfl,b7,cS,hm,rfl,rfl⟩,fun b1 l h=> ?_,rfl,rfl⟩;obtain⟨rfl,rfl⟩:=h;refine⟨fun h=> ?_,m3,S.h.own b9 _ _ dW m4,fun aA blk' h' ho=> ?_⟩
    ·subst h;exact bz (S.h.inj _ _ _ _ _ ae dW (.root (by simp) hb) m4)
    ·by_cases q:aA=b9
     ·subst q;rw[cN]at h';cases h';exact absurd rfl ho.alive
     ·rw[db _ _ q]at h';exact q (S.h.inj aA b9 _ _ _ h' dW ho m4)
 obtain⟨K,k1,k2,k3,k4⟩:=iP;have gk:i<Ca.size:=by omega
 have dV:=QM (t:=t) (o:=i*P.cellsOf e+0) (v:=v) ht (by rw[hn,k3];rfl) hh (by rw[k3,hk];simp;omega) (by rw[k3];simp[k4]);rw[k3,hk,kD,Nat.add_zero]at dV;have hC:(Ca.toList.take i++(#[v].toList++Ca.toList.drop (i+ #[v].toList.length))).toArray.size=Ca.size:=by simp;omega
 have pX:∀j,(Ca.toList.take i++(#[v].toList++Ca.toList.drop (i+ #[v].toList.length))).toArray[j]? =if j=i then some v else Ca[j]? :=by
  intro j;rw[tI,sJ _ _ _ _ (by simp;omega)];simp only[List.length_singleton,u5];by_cases h1:j<i
  ·rw[aP h1,aM (by omega)]
  ·rw[aM h1];by_cases h2:j=i
   ·subst h2;simp
   ·rw[aM (by omega),aM h2]
 rw[hk,kD,Nat.add_zero];generalize hCb:(Ca.toList.take i++(#[v].toList++Ca.toList.drop (i+ #[v].toList.length))).toArray=Cb at dV hC pX;have eM:=setRow_heap w b Ca Cb _ (0,0) hh;have xg:=fun k (hk:k≠b)=>setRow_other w b k Cb hk;obtain⟨p1,p2⟩:=afI (w:=w) (w':=w.setRow b Cb) (I:=I) (vers:=vers) (ys:=es.set i (.list e1 cK)) hr eM (by simp;omega) hI
  (fun j b1 l=>(j=i∧K b1 l)∨(j≠i∧∃cap,es[j]? =some (.list e1 l)∧0<cap∧Ca[j]? =some (.slice (some ⟨b1,0,none⟩) l.length cap)))
  (fun j x hx=>by
   rw[IU]at hx;rw[pX];by_cases hj:i=j
   ·subst hj;simp only[rj,aP hi,gW]at hx;subst hx;refine⟨cK,v,rfl,aP rfl,?_⟩;rcases k1 with h|⟨b1,cap,h0,h1,h2,h3,h4,h5⟩
    ·exact .inl h
    ·exact .inr ⟨b1,cap,h0,h1,h2,h3,h4,.inl ⟨rfl,h5⟩⟩
   ·rw[aM hj]at hx;rw[aM (fun h=>hj h.symm)];obtain⟨l,u,m1,m2,m3⟩:=hc j x (fun h=>hj h.symm) hx;subst m1;refine⟨l,u,rfl,m2,?_⟩;cases m3 with
    |iO a _=>unfold fj at a;rw[hu]at a;cases a
    |emp a=>exact .inl ⟨rfl,_,rfl⟩
    |@row _ _ b1 cap a h0 c d f=>exact .inr ⟨b1,cap,h0,rfl,by rw[hu]at a;cases a;exact c,d,f,.inr ⟨fun h=>hj h.symm,cap,hx,h0,m2⟩⟩)
  (fun j b1 l h=>by
   rcases h with⟨_,h⟩|⟨hj,cap,hx,h0,hv⟩
   ·exact⟨(k2 _ _ h).1,xg _ (k2 _ _ h).1,(k2 _ _ h).2.1⟩
   ·obtain⟨q1,q2⟩:=ed _ _ _ _ hj hx h0 hv;exact⟨q1,xg _ q1,q2⟩)
  (fun j j' b1 l m h1 h2=>by
   have no:∀{j l m},K b1 l→(j≠i∧∃cap,es[j]? =some (.list e1 m)∧0<cap∧Ca[j]? =some (.slice (some ⟨b1,0,none⟩) m.length cap))→False:=fun h ⟨hj,cap,hx,h0,hv⟩=>
    (k2 _ _ h).2.2.2 _ _ vr (by rw[hb];exact .sG rfl hh hj hx h0 hv)
   rcases h1 with⟨h,h1⟩|h1
   ·rcases h2 with⟨h',h2⟩|h2
    ·omega
    ·exact(no h1 h2).elim
   ·rcases h2 with⟨_,h2⟩|h2
    ·exact(no h2 h1).elim
    ·obtain⟨hj,cap,hx,h0,hv⟩:=h1;obtain⟨ja,WV,eo,JY,lZ⟩:=h2;exact oh _ _ _ _ _ _ _ hj ja hx eo h0 JY hv lZ)
 obtain⟨a1,a2⟩:=WG S1 (w':=w.setRow b Cb) (blk':= .nest e (es.set i (.list e1 cK)) vers) vr (by simp) ⟨rfl,by simp,rfl,fun _=>aR _⟩ hb hI (.inl (by simp)) xg (by rw[nK eM,nK hh,hC]) (by simp) ⟨rfl,rfl⟩
  (fun b' ho=>by
   rcases p1 b' ho with rfl|⟨j,l,⟨_,h⟩|⟨hj,cap,hx,h0,hv⟩⟩
   ·exact .inl (.root (by simp) rfl)
   ·exact .inr ⟨(k2 _ _ h).2.2.1,(k2 _ _ h).2.2.2⟩
   ·exact .inl (.sG rfl hh hj hx h0 hv))
  (fun hle=>p2 hle.dF)
 exact⟨_,I,β,dV,xi.trans a1,a2,rfl⟩
end
section
variable {P:Program}{w w':World}{I I':Nat→Nat→Prop}{β β':Nat→Option Nat}{hp hp':Nat→Option ag}{C:af}{B:Nat}{M:Nat→Prop}{w0:Start}
theorem apB{xs:List V}{c:Nat}{v:V}(h:c<xs.length):wP xs 0 c v=j6 xs c [v]:=by
 refine PM fun j=> ?_;rw[QN,j6,sJ _ _ _ _ (show c+[v].length≤xs.length from h),cL];cases hj:xs[j]? with
 |none=>grind
 |some x=>
  have hp:wO (Nat.beq c j) v x=bif Nat.beq c j then v else x:=by
   unfold wO;split<;>cases hb:Nat.beq c j<;>simp_all<;>grind
  rw[Option.map_some,hp];cases hb:Nat.beq c j with
  |true=>rw[bU]at hb;grind
  |false=>
   have:c≠j:=fun e=>by rw[e,nX]at hb;cases hb
   grind
theorem apC(S:aK P w I β hp B M w0){t:TypeId}{a v:Value}{xa x:V}{r:R}{rd:List Nat}(ha:ah P w I β hp a xa)(hv:ah P w I β hp v x)
  (h:(V8 P t xa x).run C hp=some (r,rd)):vp P ((Instr.storeAt t a v).run P w) w I β hp B M w0 r:=by
 unfold V8 at h;obtain⟨h0,h⟩:=aW h;simp only[bc,bU]at h0;obtain⟨ht,hn⟩:=h0;cases xa with
 |ptr id i c=>
  obtain⟨l,h⟩:=run_get h;cases ae:hp id with
  |none=>rw[ae]at h;cases h
  |some blk=>
   rw[ae]at h;cases blk with
   |dead=>cases h
   |var T0 cs=>
    obtain⟨afK,h⟩:=aW h;have vq:wQ P T0=true→0<c:=fun fB=>by
     rw[fB]at afK;simpa using afK
    obtain⟨b,hb,rfl⟩:=ha.oL ae (by simp);simp only[ag.sz,Nat.mul_zero,cL];dsimp only at h;cases sI:(AJ P t cs&&gg P t x)with
    |true=>
     rw[sI]at h;simp only[cond_true]at h;obtain⟨hc,h⟩:=aW h;obtain rfl:=bG h;simp only[bc,rf]at hc sI;obtain⟨o1,o2⟩:=afC hv sI.2;have tU:=afA sI.2;refine afB S ae hb ht hn (by rw[o2,tU];rfl) vq (fun j u y hu hy=> ?_) (by rw[o2];simp[o1]) (by rw[tU];simp;omega) (afz _ _ _ _) (fun j y hy hj u hu=> ?_) (fun j y hy hj u hu=> ?_)
     ·rw[o2]at hu;rw[tU]at hy;cases j with
      |zero=>simp at hu hy;subst hu;subst hy;exact hv
      |succ j=>simp at hy
     ·rw[QN]at hy;cases F4:cs[j]? with
      |none=>rw[F4]at hy;cases hy
      |some y0=>
       rw[F4]at hy;simp only[Option.map_some,gW]at hy;rw[tU]at hj;simp only[List.length_singleton]at hj;have bz:Nat.beq c (0+j)=false:=by
        cases hq:Nat.beq c (0+j)with
        |false=>rfl
        |true=>rw[bU]at hq;omega
       rw[bz]at hy;have:=afo (c:=false) hv (hu y0 F4);rw[←hy];simpa using this
     ·rw[tU]at hj hu;have W7:j=0:=by simpa using hj
      subst W7;rw[QN]at hy;cases F4:cs[c+0]? with
      |none=>rw[F4]at hy;cases hy
      |some y0=>
       rw[F4]at hy;simp only[Option.map_some,gW]at hy;have heq:Nat.beq c (0+(c+0))=true:=by rw[bU];omega
       rw[heq]at hy;have h2:ah P w I β hp u x:=hu x rfl;have:wO true x y0=x:=apl x y0;rw[←hy,this];exact h2
    |false=>
     rw[sI]at h;simp only[cond_false]at h;obtain⟨hc,h⟩:=aW h;simp only[bc,fG]at hc;obtain⟨e1,e2⟩:=WN hv h;obtain⟨h1,l2,h⟩:=QL h (vs:=v.cells.toList) (by simpa using e1) (fun j u y a b=>e2 j u y (by simpa using a) b);obtain rfl:=bG h;refine afB S ae hb ht hn e1 vq e2 h1 hc.2 (JO _ _ _ hc.2) (fun j y hy hj u hu=> ?_) (fun j y hy hj u hu=> ?_)
     ·unfold j6 at hy;rw[sJ _ _ _ _ hc.2]at hy;rcases hj with hj|hj
      ·rw[aP hj]at hy;exact hu y hy
      ·rw[fH,fH]at hy;exact hu y hy
     ·unfold j6 at hy;rw[sJ _ _ _ _ hc.2,fH,gC]at hy;rw[show c+j-c=j by omega]at hy;exact hu y hy
   |arr e es fz=>
    cases fz with
    |true=>cases h
    |false=>
    obtain⟨b,hb,rfl⟩:=ha.oL ae (by simp);obtain⟨aD,h⟩:=aW h;obtain⟨⟨ys,fr⟩,l1,l2,cE,h⟩:=qB h;obtain⟨iw,hc3,gh,x0,p5,rfl⟩:mo (fr.map (·.1)) id=false∧c+x.cells.length≤P.cellsOf e∧va P (((flat P e).drop c).take x.cells.length) ys=true∧∃x0,es[i]? =some x0∧r=⟨.undef,(id,.arr e (es.set i (dY P e (j6 (parts P e x0) c ys))) false)::fr⟩:=by
     cases QW:(cR P e&&((flat P e).all (Nat.beq t)&&gg P t x))with
     |false=>
      rw[QW]at h;obtain⟨hc,h⟩:=aW h;obtain⟨x0,p5,h⟩:=oK h;simp only[bc,qu,fG]at hc;exact⟨hc.1,hc.2.1,hc.2.2,x0,p5,(bG h).symm⟩
     |true=>
      rw[QW]at h;obtain⟨hc,h⟩:=aW h;obtain⟨x0,p5,h⟩:=oK h;simp only[bc,qu,rf]at hc QW;obtain⟨dh,zm,fl⟩:=QW;have tU:=afA fl;rw[tU]at cE⊢;obtain⟨rfl,rfl⟩:ys=[x]∧fr=[]:=by
       have gQ:Qb P x= .ret (x,[]):=by
        cases x<;>first|rfl|(unfold gg at fl;grind)
       rw[yX,gQ]at cE;have:=bG cE;simp at this;grind
      have tX:c<(flat P e).length:=by rw[(pY aD).1];exact hc.2
      have QX:(flat P e)[c]=t:=(IQ (jk.1 zm _ (fx tX))).symm;refine⟨hc.1,hc.2,?_,x0,p5,?_⟩
      ·rw[CA tX,QX];simp[va,fl]
      ·rw[←apB (by rw[A4,gP aD];exact hc.2)];exact(bG h).symm
    have tW:v.cells.size=x.cells.length∧∀(j:Nat) u y,v.cells.toList[j]? =some u→x.cells[j]? =some y→ah P w I β hp u y:=by
     cases x with
     |agg xs=>
      obtain⟨cs,rfl,h1,h2⟩:=hv.qE;exact⟨h1,fun j u y a b=>h2 j u y (by simpa[Value.cells]using a) b⟩
     |_=>
      simp only[V.cells]at cE gh⊢;simp only[yX]at cE;obtain⟨⟨y1,u1⟩,l3,l4,hq,cE⟩:=qB cE;obtain⟨q1,q2⟩:=QG S.h.rel hq hv;obtain⟨⟨y2,u2⟩,l5,l6,Bd,cE⟩:=qB cE;cases Bd;have:=bG cE;cases this;obtain⟨tl,tg⟩:=Dh gh;have fl:=tg 0 _ y1 (cv (by rw[tl];exact Nat.one_pos)) rfl;have gj:=q2 (oj P w I β hp u1) (fun _ _ h=> .inl h) (fun p hp b j h=> .inr ⟨p,hp,h⟩);have ho:=gj.pure fl;have afL:v.cells= #[v]:=by cases ho<;>rfl
      rw[afL];refine⟨rfl,fun j u y hu hy=> ?_⟩;cases j with
      |zero=>simp at hu hy;subst hu;subst hy;exact hv
      |succ j=>simp at hy
    obtain⟨k1,k2,k3⟩:=WD S.h.rel cE (vs:=v.cells.toList) (by simpa using tW.1) tW.2;obtain⟨xi,S1⟩:=JH S k2;have vr:cQ hp fr id=some (.arr e es false):=by
     rcases C6 (hp:=hp) (l:=fr) (id:=id)with h|⟨b',hm,_⟩
     ·exact h.trans ae
     ·exfalso;have W9:mo (fr.map (·.1)) id=true:=FZ (iZ.2 ⟨_,hm,rfl⟩);rw[W9]at iw;cases iw
    have afM:=k3 (oj P w I β hp fr) (fun _ _ h=> .inl h) (fun p hp b j h=> .inr ⟨p,hp,h⟩);obtain⟨tl,tg⟩:=Dh gh;have ld:=(pY aD).1;have Bc:ys.length=v.cells.size:=by rw[k1,tW.1]
    have hcn:c+v.cells.size≤P.cellsOf e:=by rw[tW.1];exact hc3
    have hr:=S1.h.rel id _ vr;cases hr with
    |fT aJ=>simp at p5
    |@arr _ _ _ _ b' Ca hL WM aJ hh hs hf jm hx=>
     rw[hb]at aJ;cases aJ;have pg:i<es.length:=(cP.1 p5).1;have hbound:i*P.cellsOf e+P.cellsOf e≤Ca.size:=by
      have:(i+1)*P.cellsOf e≤es.length*P.cellsOf e:=fg _ pg;rw[nW]at this;omega
     simp only[ag.sz];have A5:i*P.cellsOf e+c+v.cells.size≤Ca.size:=by omega
     have dU:∀j,¬oj P w I β hp fr b j:=jm rfl;have h1:∀u∈v.cells.toList,u.oneCell'=true:=by
      intro u hu;obtain⟨j,hj⟩:=wI hu;have eQ:j<ys.length:=by rw[Bc];simpa using(cP.1 hj).1
      have vw:j<(((flat P e).drop c).take x.cells.length).length:=by rw[tl];exact eQ
      exact(afM j u ys[j] hj (cv eQ)).one (tg j _ ys[j] (cv vw) (cv eQ))
     have dV:=QM (t:=t) (o:=i*P.cellsOf e+c) (v:=v) ht (by rw[tW.1];exact hn.symm) hh A5 h1;have hlen:(Ca.toList.take (i*P.cellsOf e+c)++(v.cells.toList++Ca.toList.drop (i*P.cellsOf e+c+v.cells.toList.length))).length=Ca.size:=by
      rw[JO _ _ _ (by simpa using A5)];simp
     have gj:(parts P e x0).length=P.cellsOf e:=by rw[A4];exact gP aD
     have JP:=WO S1 (blk':= .arr e (es.set i (dY P e (j6 (parts P e x0) c ys))) false)
      (Cb:=(Ca.toList.take (i*P.cellsOf e+c)++(v.cells.toList++Ca.toList.drop (i*P.cellsOf e+c+v.cells.toList.length))).toArray) vr (by simp) ⟨rfl,by simp⟩ hb dU (by simp) hh (by simpa using hlen)
      (fun hle eM=> .arr (by rw[wG,hlen];exact hL) aD rfl eM (by simp only[wG,wH];omega) (fun h=>by cases h) (fun _=>dU) fun i' j z t' hz vw hj=>by
       simp only[tI];rw[sJ _ _ _ _ (by simpa using A5)];simp only[Array.length_toList];rw[IU]at hz;by_cases pk:i=i'
       ·subst pk;rw[aP rfl,aP pg]at hz;cases hz;have QY:j<(parts P e x0).length:=by omega
        have Dm:(j6 (parts P e x0) c ys)[j]? =if j<c then(parts P e x0)[j]? else if j<c+ys.length then ys[j-c]? else(parts P e x0)[j]? :=by
         unfold j6;exact sJ _ _ _ _ (by omega)
        by_cases zi:j<c
        ·rw[gC];rw[aP zi]at Dm;obtain⟨u,t2,a1,a2,a3⟩:=JM hx aD p5 (cv QY);rw[vw]at a1;cases a1;refine⟨u,by simpa using a2,?_⟩;rw[zj (Dm.trans (cv QY)) vw];exact a3.mono hle.fI hle.dF
        ·rw[aM zi]at Dm;by_cases ph:j<c+ys.length
         ·rw[aP ph]at Dm;rw[fH,gC];have xl:j-c<ys.length:=by omega
          have hjv:j-c<v.cells.toList.length:=by simp;omega
          have aIC:j-c<v.cells.size:=by omega
          refine⟨v.cells.toList[j-c],?_,?_⟩
          ·rw[show i*P.cellsOf e+j-(i*P.cellsOf e+c)=j-c by omega];exact cv hjv
          ·rw[zj (Dm.trans (cv xl)) vw];have hft:(((flat P e).drop c).take x.cells.length)[j-c]? =some t':=by
            rw[mL (by omega),uY,show c+(j-c)=j by omega,←vn];exact vw
           exact((afM (j-c) _ ys[j-c] (cv hjv) (cv xl)).pure (tg (j-c) t' ys[j-c] hft (cv xl))).mono hle.fI hle.dF
         ·rw[aM ph]at Dm;rw[fH,fH];obtain⟨u,t2,a1,a2,a3⟩:=JM hx aD p5 (cv QY);rw[vw]at a1;cases a1;refine⟨u,by simpa using a2,?_⟩;rw[zj (Dm.trans (cv QY)) vw];exact a3.mono hle.fI hle.dF
       ·rw[aM pk]at hz;obtain⟨u,a2,a3⟩:=hx i' j z t' hz vw hj;have bz:i'*P.cellsOf e+j<i*P.cellsOf e+c∨i*P.cellsOf e+c+v.cells.size≤i'*P.cellsOf e+j:=by
         rcases fR i' i with bO|sM
         ·left;have:(i'+1)*P.cellsOf e≤i*P.cellsOf e:=fg _ bO;rw[nW]at this;omega
         ·right;have:(i+1)*P.cellsOf e≤i'*P.cellsOf e:=fg _ (by omega);rw[nW]at this;omega
        refine⟨u,?_,a3.mono hle.fI hle.dF⟩;rcases bz with bz|bz
        ·rw[aP bz];simpa using a2
        ·rw[fH,fH];simpa using a2)
     exact⟨_,_,_,dV,xi.trans JP.1,JP.2,rfl⟩
   |map _ _=>cases h
   |out e es vers j=>
    obtain⟨b,hb,rfl⟩:=ha.oL ae (by simp);unfold ae8 at h;obtain⟨hc,h5⟩:=aW h;clear h;simp only[bc,bU]at hc;obtain⟨rfl,rfl⟩:=hc;cases hr:rowOf P e with
    |none=>simp only[hr]at h5;cases h5
    |some e1=>
     simp only[hr]at h5;cases x with
     |whole e3 b9=>
      obtain⟨l1,h6⟩:=run_get h5;cases dW:hp b9 with
      |none=>rw[dW]at h6;cases h6
      |some dd=>
       rw[dW]at h6;cases dd with
       |arr e4 cK fz=>
        cases fz with
        |true=>cases h6
        |false=>
         obtain⟨hc,h7⟩:=aW h6;obtain rfl:=bG h7;simp only[bc,bU,qu]at hc;obtain⟨rfl,rfl,bz⟩:=hc;exact apA S hr ae hb ht hn.symm dW (fun e=>by rw[e,nX]at bz;cases bz) hv
       |_=>cases h6
     |_=>cases h5
   |nest e es vers=>
    obtain⟨b,hb,rfl⟩:=ha.oL ae (by simp);exact afH S ht hn hv ae hb .here h
 |ez id ver path i c=>
  obtain⟨e0,es,vers,l,ae,h1,h2,h3,h⟩:=tQ h;obtain⟨b,b1,e1,l1,hb,jD,rfl⟩:=ha.afk ae h1 h2 h3;exact afH S ht hn hv ae hb jD h
 |_=>cases h
end
section
variable {P:Program}{w w':World}{I I':Nat→Nat→Prop}{β β':Nat→Option Nat}{hp hp':Nat→Option ag}{C:af}{B:Nat}{M:Nat→Prop}{w0:Start}
theorem Xa:∀{ts:List TypeId} {vs:List Value} {j:Nat} {y:V},(oD P ts vs)[j]? =some y→∃t v,ts[j]? =some t∧vs[j]? =some v∧y=tK P t v
 | [],vs,j,y,h=>by simp[oD]at h
 |_::_,[],j,y,h=>by simp[oD]at h
 |t::ts,v::vs,0,y,h=>by simp[oD]at h;grind
 |t::ts,v::vs,j+1,y,h=>by
  simp only[oD,List.getElem?_cons_succ]at h;obtain⟨t',v',a,b,c⟩:=Xa h;grind
theorem afN:∀{ts:List TypeId} {vs:List Value},ts.length=vs.length→(oD P ts vs).length=vs.length
 | [],[],_=>rfl
 | [],_::_,h=>by simp at h
 |_::_,[],h=>by simp at h
 |t::ts,v::vs,h=>by simp[oD,afN (ts:=ts) (vs:=vs) (by grind)]
theorem qI{e:TypeId}(h:dZ P e=true):∃i z,P.info? e=some i∧i.zero=some z∧i.size=P.cellsOf e∧z.cells.size=P.cellsOf e∧zeroCells P e=oD P (flat P e) z.cells.toList:=by
 unfold dZ at h;simp only[bc,bU,rf]at h;obtain⟨h1,h2,_,h3⟩:=h;cases hi:P.info? e with
 |none=>grind
 |some i=>
  rw[hi]at h3;simp only[Option.bind_some]at h3;cases hz:i.zero with
  |none=>grind
  |some z=>
   rw[hz]at h3;simp only[bU]at h3;exact⟨i,z,rfl,hz,by simp[Program.cellsOf,hi],h3,by simp[zeroCells,hi,hz]⟩
theorem afO{e:TypeId}(h:dZ P e=true):∃i z,P.info? e=some i∧i.zero=some z∧z.cells.size=(zeroCells P e).length∧z.cells.size=P.cellsOf e∧
  ∀(j:Nat) v x,z.cells[j]? =some v→(zeroCells P e)[j]? =some x→ah P w I β hp v x:=by
 obtain⟨i,z,h1,h2,h3,h4,h5⟩:=qI h;have hl:(flat P e).length=z.cells.toList.length:=by rw[(pY h).1];grind
 refine⟨i,z,h1,h2,?_,h4,fun j v x hv hx=> ?_⟩
 ·rw[h5,afN hl];simp
 ·rw[h5]at hx;obtain⟨t,v',_,lZ,rfl⟩:=Xa hx;have:v'=v:=by
   grind
  subst this;exact ah.const t v'
theorem pn{nb:Nat}{b:ag}{v:V}{upd:List (Nat×ag)}{r:R}{rd:List Nat}(h:(mr nb b v upd).run C hp=some (r,rd)):hp nb=none∧r=⟨v,(nb,b)::upd⟩:=by
 obtain⟨l,h⟩:=run_get h;cases hn:hp nb with
 |none=>rw[hn]at h;exact⟨rfl,(bG h).symm⟩
 |some x=>rw[hn]at h;cases h
theorem afP(S:aK P w I β hp B M w0){nb:Nat}{xs:List V}{C0:Array Value}{T:TypeId}(hn:hp nb=none)(hs:C0.size=xs.length)
  (hx:∀(j:Nat) v x,C0[j]? =some v→xs[j]? =some x→ah P w I β hp v x) (my:aff P w.heap.size T C0):
  Le P w I β hp (w.alloc (.cells C0 T)) I (ar β nb (some w.heap.size)) (ar hp nb (some (.var T xs)))∧aK P (w.alloc (.cells C0 T)) I (ar β nb (some w.heap.size)) (ar hp nb (some (.var T xs))) B M w0∧
  ah P (w.alloc (.cells C0 T)) I (ar β nb (some w.heap.size)) (ar hp nb (some (.var T xs))) (.pointer (some ⟨w.heap.size,0,none⟩)) (.ptr nb 0 0):=by
 obtain⟨h1,h2⟩:=WH S (blk:= .var T xs) (c:=C0) (T:=T) hn (fun b' h=>(fP (h.flat (by simp))).symm) (fun hle eM dU=> .var rfl eM hs dU (fun j v x a b=>(hx j v x a b).mono hle) my);refine⟨h1,h2,?_⟩;have:=ah.ptr (P:=P) (w:=w.alloc (.cells C0 T)) (I:=I) (β:=ar β nb (some w.heap.size)) (hp:=ar hp nb (some (.var T xs))) (i:=0) (c:=0) (blk:= .var T xs) (cN _ _ _) (by simp) (cN _ _ _);grind
theorem apD(S:aK P w I β hp B M w0){e:TypeId}{nb:Nat}{r:R}{rd:List Nat}
  (h:(Rd.aQ (dZ P e&&(!(wQ P e)||ae7 (zeroCells P e))) (mr nb (.var e (zeroCells P e)) (.ptr nb 0 0) [])).run C hp=some (r,rd)):eZ P ((Instr.alloc e true (.tuple #[])).run P w) w I β hp B M w0 r:=by
 obtain⟨aD,h⟩:=aW h;rw[bc]at aD;obtain⟨aD,vq⟩:=aD;obtain⟨hn,rfl⟩:=pn h;obtain⟨i,z,h1,h2,h3,h4,h5⟩:=afO (w:=w) (I:=I) (β:=β) (hp:=hp) aD;obtain⟨a,b,c⟩:=afP S (T:=e) hn h3 h5 fun fB=>by
  rw[fB,Bool.not_true,IV]at vq;cases hz:zeroCells P e with
  |nil=>rw[hz]at vq;cases vq
  |cons y l=>
   rw[hz]at vq h3 h5;cases y<;>first|(cases vq;done)|skip
   have bO:0<z.cells.size:=by grind
   have:=h5 0 z.cells[0] .gX (oC bO) rfl;left;rw[oC bO];generalize z.cells[0]=u at this;cases this;rfl
 exact⟨_,_,_,_,by simp[Instr.alloc,zeroValue,typeInfo,h1,h2,newVar,newRow],a,b,c⟩
theorem apE(S:aK P w I β hp B M w0){e:TypeId}{nb:Nat}{x:V}{v:Value}{r:R}{rd:List Nat}(hv:ah P w I β hp v x)
  (h:(Rd.aQ (!(wQ P e)) <| rp x.cells (mr nb (.var e x.cells) (.ptr nb 0 0) [])).run C hp=some (r,rd)):eZ P ((Instr.box e v).run P w) w I β hp B M w0 r:=by
 obtain⟨vq,h⟩:=aW h;obtain⟨e1,e2⟩:=WN hv h;obtain⟨_,l,h⟩:=QL h (vs:=v.cells.toList) (by omega) (fun j u y a b=>e2 j u y (by grind) b);obtain⟨hn,rfl⟩:=pn h;obtain⟨a,b,c⟩:=afP S (T:=e) hn e1 e2 fun fB=>by grind
 exact⟨_,_,_,_,by simp[Instr.box,newVar,newRow],a,b,c⟩
theorem foldl_set(off:Nat):∀(vs:List Value) (k:Nat) (cs:Array Value) (i:Nat),off+k+vs.length≤cs.size→
  ((vs.zipIdx k).foldl (fun cs p=>cs.setIfInBounds (off+p.2) p.1) cs)[i]? =if i<off+k then cs[i]? else if i<off+k+vs.length then vs[i-(off+k)]? else cs[i]?
 | [],k,cs,i,h=>by simp_all
 |v::vs,k,cs,i,h=>by
  simp only[List.zipIdx_cons,List.foldl_cons];simp only[List.length_cons]at h⊢;rw[foldl_set off vs (k+1) _ i (by simp;omega)];grind
theorem afQ(off:Nat):∀(vs:List Value) (k:Nat) (cs:Array Value),((vs.zipIdx k).foldl (fun cs p=>cs.setIfInBounds (off+p.2) p.1) cs).size=cs.size
 | [],k,cs=>rfl
 |v::vs,k,cs=>by
  simp only[List.zipIdx_cons,List.foldl_cons];rw[afQ off vs (k+1)];simp
theorem afR{cells:Array Value}{off:Nat}{v:Value}(h:off+v.cells.size≤cells.size)(i:Nat):
  (v.cells.zipIdx.foldl (fun cs (p:Value×Nat)=>cs.setIfInBounds (off+p.2) p.1) cells)[i]? =if i<off then cells[i]? else if i<off+v.cells.size then v.cells[i-off]? else cells[i]? :=by
 have:=foldl_set off v.cells.toList 0 cells i (by omega);rw[←PN];grind
theorem afS{cells:Array Value}{off:Nat}{v:Value}:(v.cells.zipIdx.foldl (fun cs (p:Value×Nat)=>cs.setIfInBounds (off+p.2) p.1) cells).size=cells.size:=by
 have:=afQ off v.cells.toList 0 cells;rw[←PN];grind
inductive F5(P:Program)(w:World)(I:Nat→Nat→Prop)(β:Nat→Option Nat)(hp:Nat→Option ag):List (Nat×Value)→List (Nat×V)→Prop
 |nil:F5 P w I β hp [] []
 |cons {i:Nat} {v:Value} {x:V} {vs:List (Nat×Value)} {xs:List (Nat×V)}:v.cells.size=x.cells.length→(∀(j:Nat) u y,v.cells[j]? =some u→x.cells[j]? =some y→ah P w I β hp u y)→
   F5 P w I β hp vs xs→F5 P w I β hp ((i,v)::vs) ((i,x)::xs)
theorem afT(place:Nat→Option (Nat×Nat)):∀{vs:List (Nat×Value)} {px:List (Nat×V)} {cells:Array Value} {xs ys:List V},F5 P w I β hp vs px→cells.size=xs.length→
  (∀(j:Nat) v x,cells[j]? =some v→xs[j]? =some x→ah P w I β hp v x)→CO place xs px=some ys→
  ∃xm:Array Value,Instr.fill place cells vs=some xm∧xm.size=ys.length∧∀(j:Nat) v x,xm[j]? =some v→ys[j]? =some x→ah P w I β hp v x
 |_,_,cells,xs,ys,.nil,hs,hx,h=>by
  simp only[CO,gW]at h;subst h;exact⟨cells,by simp[Instr.fill],hs,hx⟩
 |_,_,cells,xs,ys,@F5.cons _ _ _ _ _ i v x vs px h1 h2 h3,hs,hx,h=>by
  simp only[CO]at h;cases gj:place i with
  |none=>grind
  |some os=>
   obtain⟨off,size⟩:=os;rw[gj]at h;simp only at h;cases hc:(Nat.beq x.cells.length size&&Nat.ble (off+size) xs.length)with
   |false=>grind
   |true=>
    rw[hc]at h;simp only[cond_true]at h;simp only[bc,bU,fG]at hc;have hv:off+v.cells.size≤cells.size:=by omega
    have hb:off+x.cells.length≤xs.length:=by omega
    have hl:(j6 xs off x.cells).length=xs.length:=JO _ _ _ hb;obtain⟨xm,f1,f2,f3⟩:=afT place (cells:=v.cells.zipIdx.foldl (fun cs (p:Value×Nat)=>cs.setIfInBounds (off+p.2) p.1) cells) (xs:=j6 xs off x.cells) h3 (by rw[afS,hl,hs])
     (fun j u y hu hy=>by
      rw[afR hv]at hu;unfold j6 at hy;grind) h
    refine⟨xm,?_,f2,f3⟩;simp only[Instr.fill,gj];grind
theorem apF{t:TypeId}{parts:Array (Nat×Value)}{cells:Array Value}{z:Value}{i:TypeInfo}(hi:P.info? t=some i)(hz:i.zero=some z)(h:Instr.fill (placeOf P t) z.cells parts.toList=some cells)(ha:cR P t=true)
  (gj:∀fs,P.underlying t=some (.struct fs)→(fs.toList.mapM fun f=>(P.info? f.type).map fun i=>(f.offset,i.size)).isSome=true) (zn:∀n e,P.underlying t=some (.array n e)→(P.info? e).isSome=true):
  (Instr.build t parts).run P w= .ok (.agg cells) w:=by
 refine run_build w t parts cells ?_;unfold Program.built;unfold cR at ha;rw[hi];split at ha
 ·rename_i fs hu;have:=gj fs hu;cases hm:fs.toList.mapM fun f=>(P.info? f.type).map fun i=>(f.offset,i.size)with
  |none=>grind
  |some places=>
   simp only[hu,hz,hm];have hq:placeOf P t=fun i=>places[i]? :=by simp[placeOf,hu,hm]
   simp_all
 ·rename_i n e hu;have:=zn n e hu;cases p6:P.info? e with
  |none=>grind
  |some ie=>
   simp only[hu,hz,p6];have hq:placeOf P t=fun i=>some (i*ie.size,ie.size):=by simp[placeOf,hu,p6]
   grind
 ·cases ha
theorem afU{α:Type}:∀(xs ys:List V) (k:Rd α),rp (xs++ys) k=rp xs (rp ys k)
 | [],_,_=>rfl
 |x::xs,ys,k=>by simp only[List.cons_append,rp,afU xs ys k]
theorem afV{a:Act}{sl:Nat→V}(hs:pW P w I β hp a sl){G:Nat→V}(hg:nh P G w I)(t:TypeId){α:Type}:∀{l:List (Nat×Operand)} {k:Rd α} {r:α} {rd:List Nat},
  (rp ((l.map fun p=>(bu P G t sl p.2).cells).flatten) k).run C hp=some (r,rd)→
  F5 P w I β hp (l.map fun p=>(p.1,a.eval p.2)) (l.map fun p=>(p.1,bu P G t sl p.2))∧∃jn,k.run C hp=some (r,jn)
 | [],k,r,rd,h=>⟨.nil,rd,h⟩
 |(i,x)::l,k,r,rd,h=>by
  simp only[nY,List.flatten_cons,afU]at h;obtain⟨e1,e2⟩:=WN (hs.ev hg t x) h;obtain⟨_,l1,h⟩:=QL h (vs:=(a.eval x).cells.toList) (by omega) (fun j u y a b=>e2 j u y (by grind) b);obtain⟨h1,h2⟩:=afV hs hg t h;exact⟨.cons e1 e2 h1,h2⟩
theorem apG(S:aK P w I β hp B M w0){a:Act}{sl:Nat→V}(hs:pW P w I β hp a sl){G:Nat→V}(hg:nh P G w I){t ty:TypeId}{ps:Array (Nat×Operand)}{r:R}{rd:List Nat}
  (h:(Rd.aQ (dZ P t&&(cR P t&&Qo P t)) (rp ((ps.toList.map fun p=>(bu P G ty sl p.2).cells).flatten)
   (FF (CO (placeOf P t) (zeroCells P t) (ps.toList.map fun p=>(p.1,bu P G ty sl p.2))) fun cs=> .ret ⟨.agg cs,[]⟩))).run C hp=some (r,rd)):
  eZ P ((Instr.build t (ps.map fun(i,x)=>(i,a.eval x))).run P w) w I β hp B M w0 r:=by
 obtain⟨aD,h⟩:=aW h;simp only[bc]at aD;obtain⟨h1,l,h⟩:=afV hs hg ty h;cases hf:CO (placeOf P t) (zeroCells P t) (ps.toList.map fun p=>(p.1,bu P G ty sl p.2))with
 |none=>rw[hf]at h;cases h
 |some cs=>
  rw[hf]at h;obtain rfl:=bG h;obtain⟨i,z,hi,hz,h3,h4,h5⟩:=afO (w:=w) (I:=I) (β:=β) (hp:=hp) aD.1;obtain⟨cells,f1,f2,f3⟩:=afT (placeOf P t) h1 h3 h5 hf;have hpo:=aD.2.2;refine .same S (v:= .agg cells) (apF hi hz (by simp_all) aD.2.1 (fun fs hu=> ?_) (fun n e hu=> ?_)) (.agg f2 f3)
  ·simpa[Qo,hu]using hpo
  ·simpa[Qo,hu]using hpo
theorem apH(dz:∀id blk,hp id=some blk→fS P w I β hp (β id) blk){x:V}{v:Value}{ys:List V}{fr:List (Nat×ag)}{rd:List Nat}{ts:List TypeId}(hv:ah P w I β hp v x)
  (h:(yX P x.cells).run C hp=some ((ys,fr),rd)) (ht:va P ts ys=true):
  v.cells.size=x.cells.length∧∀(j:Nat) u y,v.cells.toList[j]? =some u→x.cells[j]? =some y→ah P w I β hp u y:=by
 cases x with
 |agg xs=>
  obtain⟨cs,rfl,h1,h2⟩:=hv.qE;exact⟨h1,fun j u y a b=>h2 j u y (by simpa[Value.cells]using a) b⟩
 |_=>
  simp only[V.cells]at h⊢;simp only[yX]at h;obtain⟨⟨y1,u1⟩,l3,l4,hq,h⟩:=qB h;obtain⟨q1,q2⟩:=QG dz hq hv;obtain⟨⟨y2,u2⟩,l5,l6,Bd,h⟩:=qB h;cases Bd;have:=bG h;cases this;obtain⟨tl,tg⟩:=Dh ht;have fl:=tg 0 _ y1 (cv (by grind)) rfl;have gj:=q2 (oj P w I β hp u1) (fun _ _ h=> .inl h) (fun p hp b j h=> .inr ⟨p,hp,h⟩);have ho:=gj.pure fl;have afL:v.cells= #[v]:=by cases ho<;>rfl
  grind
def F6(P:Program)(w:World)(I:Nat→Nat→Prop)(e:TypeId)(cells:Array Value)(es:List V):Prop:=
 cells.size=es.length*P.cellsOf e∧∀(i j:Nat) (x:V) (t':TypeId),es[i]? =some x→(bp P e)[j]? =some t'→j<P.cellsOf e→∃v,cells[i*P.cellsOf e+j]? =some v∧Pure P w I t' v (cW P e x j)
theorem F6.set{e:TypeId}{cells:Array Value}{es ys:List V}{i:Nat}{v:Value}(h:F6 P w I e cells es)(hi:i<es.length)(hv:v.cells.size=P.cellsOf e)(hy:ys.length=P.cellsOf e)
  (hr:∀(j:Nat) (t':TypeId) (u:Value) (y:V),(bp P e)[j]? =some t'→v.cells[j]? =some u→ys[j]? =some y→Pure P w I t' u y):
  F6 P w I e (v.cells.zipIdx.foldl (fun cs (p:Value×Nat)=>cs.setIfInBounds (i*P.cellsOf e+p.2) p.1) cells) (es.set i (dY P e ys)):=by
 obtain⟨h1,h2⟩:=h;have hb:i*P.cellsOf e+v.cells.size≤cells.size:=by
  have:(i+1)*P.cellsOf e≤es.length*P.cellsOf e:=fg _ hi;grind
 refine⟨by rw[afS,wH,h1],fun i' j x t' hx ht hj=> ?_⟩;rw[afR hb];rw[IU]at hx;by_cases pk:i=i'
 ·subst pk;rw[aP rfl,aP hi]at hx;cases hx;rw[fH,gC,show i*P.cellsOf e+j-i*P.cellsOf e=j by omega];have h3:j<v.cells.size:=by omega
  have h4:j<ys.length:=by omega
  refine⟨v.cells[j],oC h3,?_⟩;rw[zj (cv h4) ht];exact hr j t' _ _ ht (oC h3) (cv h4)
 ·rw[aM pk]at hx;have bz:i'*P.cellsOf e+j<i*P.cellsOf e∨i*P.cellsOf e+v.cells.size≤i'*P.cellsOf e+j:=by
   rcases fR i' i with bO|sM
   ·left;have:(i'+1)*P.cellsOf e≤i*P.cellsOf e:=fg _ bO;grind
   ·right;have:(i+1)*P.cellsOf e≤i'*P.cellsOf e:=fg _ (by omega);grind
  grind
theorem apI{t':TypeId}{v:Value}(fl:gg P t' (AG (tK P t' v))=true):Pure P w I t' v (AG (tK P t' v)):=by
 have hc:=ah.const (P:=P) (w:=w) (I:=I) (β:=fun _=>none) (hp:=fun _=>none) t' v;cases Dn:tK P t' v<;>rw[Dn]at fl hc<;>simp only[AG]at fl⊢
 case int k n=>rw[hc.jP];exact Plain.pure (v:= .int k n) (y:= .int k n) rfl fl
 case bool b=>rw[hc.qD];exact Plain.pure (v:= .bool b) (y:= .bool b) rfl fl
 case str l=>obtain⟨s,e1,e2⟩:=hc.tT;rw[e1];exact Plain.pure (v:= .string s) (y:= .str l) ⟨s,rfl,e2⟩ fl
 case nilS e'=>
  cases hc;exact Plain.pure (y:= .list e' []) (oe.any fun _=>rfl) fl
 case list e' es=>
  cases hc with
  |list hp=>exact Plain.pure (y:= .list e' es) hp fl
 all_goals (unfold gg at fl;grind)
theorem apJ{t':TypeId}{v:Value}(fl:gg P t' (AG (tK P t' v))=true):∀a n c,v= .slice a n c→c=0:=by
 intro a n c hv;subst hv;unfold tK at fl;split at fl<;>first|(rename_i h;cases h;rfl)|skip
 all_goals first|(simp_all;done)|(unfold gg AG at fl;split at fl<;>simp_all)
theorem JZ{e:TypeId}(h:rm P e=true):∃i z,P.info? e=some i∧i.zero=some z∧i.size=P.cellsOf e∧z.cells.size=P.cellsOf e∧
  ∀(j:Nat) (t':TypeId),(bp P e)[j]? =some t'→j<P.cellsOf e→∃v,z.cells[j]? =some v∧Pure P w I t' v (cW P e (dY P e (kZ P e)) j)∧∀a n c,v= .slice a n c→c=0:=by
 unfold rm at h;simp only[bc]at h;obtain⟨i,z,h1,h2,h3,h4,h5⟩:=qI h.1;refine⟨i,z,h1,h2,h3,h4,fun j t' ht hj=> ?_⟩;obtain⟨tl,tg⟩:=Dh h.2;have eQ:j<(kZ P e).length:=by rw[←tl,(pY h.1).1];exact hj
 have hz:=cv eQ;have fl:=tg j t' _ (by rw[←vn];exact ht) hz;refine⟨z.cells[j],oC (by omega),?_⟩;rw[zj hz ht];have Dp:(kZ P e)[j]=AG (tK P t' z.cells[j]):=by
  have:(kZ P e)[j]? =((zeroCells P e)[j]?).map AG:=by simp[kZ]
  rw[hz]at this;cases hc:(zeroCells P e)[j]? with
  |none=>grind
  |some y=>
   rw[hc]at this;simp only[Option.map_some,gW]at this;rw[h5]at hc;obtain⟨t2,v2,a1,a2,rfl⟩:=Xa hc;have ht2:t2=t':=by
    rw[←vn,ht]at a1;grind
   grind
 rw[Dp]at fl⊢;exact⟨apI fl,apJ fl⟩
end
section
variable {P:Program}{w w':World}{I I':Nat→Nat→Prop}{β β':Nat→Option Nat}{hp hp':Nat→Option ag}{C:af}{B:Nat}{M:Nat→Prop}{w0:Start}
theorem apK(S:aK P w I β hp B M w0){nb cap:Nat}{fz:Bool}{e T:TypeId}{es:List V}{C0:Array Value}(aD:dZ P e=true)(hn:hp nb=none)(hs:C0.size=cap*P.cellsOf e)(hl:es.length≤cap)(hm:cap≤maxLen)(hL:wZ P T e C0.size)
  (hx:∀(i j:Nat) (x:V) (t':TypeId),es[i]? =some x→(bp P e)[j]? =some t'→j<P.cellsOf e→∃v,C0[i*P.cellsOf e+j]? =some v∧Pure P w I t' v (cW P e x j)):
  Le P w I β hp (w.alloc (.cells C0 T)) I (ar β nb (some w.heap.size)) (ar hp nb (some (.arr e es fz)))∧aK P (w.alloc (.cells C0 T)) I (ar β nb (some w.heap.size)) (ar hp nb (some (.arr e es fz))) B M w0∧
  ah P (w.alloc (.cells C0 T)) I (ar β nb (some w.heap.size)) (ar hp nb (some (.arr e es fz))) (.slice (some ⟨w.heap.size,0,none⟩) es.length cap) (.whole e nb):=by
 obtain⟨h1,h2⟩:=WH S (blk:= .arr e es fz) (c:=C0) (T:=T) hn (fun b' h=>(fP (h.flat (by simp))).symm) (fun hle eM dU=> .arr hL aD rfl eM (by rw[hs];exact fg _ hl) (fun _ j h=>absurd h (dU j)) (fun _=>dU) fun i j x t' a b c=>by
  obtain⟨v,hv,hp⟩:=hx i j x t' a b c;exact⟨v,hv,hp.mono hle.fI hle.dF⟩)
 refine⟨h1,h2,.whole (cN _ _ _) (cN _ _ _) ?_ hl hm⟩;rw[nK (heap_alloc_new w (.cells C0 T)),hs]
theorem F7(S:aK P w I β hp B M w0){nb cap:Nat}{fz:Bool}{e:TypeId}{es:List V}{C0:Array Value}(aD:dZ P e=true)(hn:hp nb=none)(hs:C0.size=cap*P.cellsOf e)(hl:es.length≤cap)(hm:cap≤maxLen)
  (hx:∀(i j:Nat) (x:V) (t':TypeId),es[i]? =some x→(bp P e)[j]? =some t'→j<P.cellsOf e→∃v,C0[i*P.cellsOf e+j]? =some v∧Pure P w I t' v (cW P e x j)):
  Le P w I β hp (w.alloc (.cells C0 e)) I (ar β nb (some w.heap.size)) (ar hp nb (some (.arr e es fz)))∧aK P (w.alloc (.cells C0 e)) I (ar β nb (some w.heap.size)) (ar hp nb (some (.arr e es fz))) B M w0∧
  ah P (w.alloc (.cells C0 e)) I (ar β nb (some w.heap.size)) (ar hp nb (some (.arr e es fz))) (.slice (some ⟨w.heap.size,0,none⟩) es.length cap) (.whole e nb):=
 apK S aD hn hs hl hm wZ.self hx
theorem afW{b n:Nat}{Ca C':Array Value}{T T':TypeId}{f f':Nat×Nat}(hh:w.heap[b]? =some (.cells Ca T f))(C7:w'.heap[b]? =some (.cells C' T' f'))(hI:∀j,I b j→j<n)(hp:∀j,j<n→C'[j]? =Ca[j]?)(j:Nat)(h:I b j):
  w'.cell? ⟨b,j,none⟩=w.cell? ⟨b,j,none⟩:=by
 rw[cell?_cells hh,cell?_cells C7];grind
theorem Xb{b n:Nat}{fz:Bool}(hf:fz=true→∀j,I b j→j<n)(jm:fz=false→∀j,¬I b j):∀j,I b j→j<n:=by
 intro j h;cases fz with
 |true=>grind
 |false=>grind
theorem At.only{b b':Nat}{e e' T:TypeId}{es ba:List V}{q:Path}{Ca:Array Value}{f:Nat×Nat}(hh:w.heap[b]? =some (.cells Ca T f))(hz:∀(i j:Nat) x t' v,es[i]? =some x→(bp P e)[j]? =some t'→Ca[i*P.cellsOf e+j]? =some v→∀a n c,v= .slice a n c→c=0)
  (h:At P w b e es q b' e' ba):q=[]∧b'=b∧e'=e∧ba=es:=by
 cases h with
 |here=>grind
 |step h1 h2 h3 h4 h5 h6 h7=>grind
theorem rD.vk{t:TypeId}{v:Value}{x:V}(h:Pure P w I t v x)(hc:∀a n c,v= .slice a n c→c=0):rD P w I t v x:=by
 cases h with
 |int h=>exact .iO (by unfold fj;rw[h]) (.int h)
 |bool h=>exact .iO (by unfold fj;rw[h]) (.bool h)
 |str h hl=>exact .iO (by unfold fj;rw[h]) (.str h hl)
 |nil h=>exact .emp h
 |emp h=>have:=hc _ _ _ rfl;subst this;exact .emp h
 |list g hu hl hle _ _ _=>
  have:=hc _ _ _ rfl;subst this;obtain rfl:=Nat.le_zero.1 hle;obtain rfl:=tF.1 hl;exact .emp hu
theorem apL(S:aK P w I β hp B M w0){nb cap:Nat}{e T:TypeId}{es:List V}{C0:Array Value}(aD:dZ P e=true)(hn:hp nb=none)(hs:C0.size=cap*P.cellsOf e)(hl:es.length≤cap)(hm:cap≤maxLen)(hL:wZ P T e C0.size)
  (hx:∀(i j:Nat) (x:V) (t':TypeId),es[i]? =some x→(bp P e)[j]? =some t'→j<P.cellsOf e→∃v,C0[i*P.cellsOf e+j]? =some v∧Pure P w I t' v (cW P e x j)∧∀a n c,v= .slice a n c→c=0):
  Le P w I β hp (w.alloc (.cells C0 T)) I (ar β nb (some w.heap.size)) (ar hp nb (some (.nest e es [0,0,0])))∧aK P (w.alloc (.cells C0 T)) I (ar β nb (some w.heap.size)) (ar hp nb (some (.nest e es [0,0,0]))) B M w0∧
  ah P (w.alloc (.cells C0 T)) I (ar β nb (some w.heap.size)) (ar hp nb (some (.nest e es [0,0,0]))) (.slice (some ⟨w.heap.size,0,none⟩) es.length cap) (.whole e nb):=by
 have hz:∀(i j:Nat) x t' v,es[i]? =some x→(bp P e)[j]? =some t'→C0[i*P.cellsOf e+j]? =some v→∀a n c,v= .slice a n c→c=0:=fun i j x t' v a b h=>by
  obtain⟨v',h1,_,h3⟩:=hx i j x t' a b (by rw[←gP aD];grind);grind
 obtain⟨h1,h2⟩:=WH S (blk:= .nest e es [0,0,0]) (c:=C0) (T:=T) hn (fun b' h=>by
   cases h with
   |root _ h=>grind
   |row h ha=>cases h;exact(At.only (heap_alloc_new w _) hz ha).2.1)
  (fun hle eM dU=> .nest rfl (fun q b' e' ba ha=>by
   obtain⟨rfl,rfl,rfl,rfl⟩:=At.only eM hz ha;refine⟨aD,⟨C0,_,eM,hL,by rw[hs];exact fg _ hl,fun i j x t' a b c=> ?_⟩,dU⟩;obtain⟨v,hv,hp⟩:=hx i j x t' a b c;exact⟨v,hv,.vk (hp.1.mono hle.fI hle.dF) hp.2⟩)
   fun q1 q2 b' e1 dT e2 cK a1 a2=>(At.only eM hz a1).1.trans (At.only eM hz a2).1.symm)
 refine⟨h1,h2,.fb (cN _ _ _) (cN _ _ _) ?_ hl hm⟩;rw[nK (heap_alloc_new w (.cells C0 T)),hs]
theorem apM(S:aK P w I β hp B M w0){nb cap:Nat}{e:TypeId}{es:List V}{C0:Array Value}(aD:dZ P e=true)(hn:hp nb=none)(hs:C0.size=cap*P.cellsOf e)(hl:es.length≤cap)(hm:cap≤maxLen)
  (hx:∀(i j:Nat) (x:V) (t':TypeId),es[i]? =some x→(bp P e)[j]? =some t'→j<P.cellsOf e→∃v,C0[i*P.cellsOf e+j]? =some v∧Pure P w I t' v (cW P e x j)∧∀a n c,v= .slice a n c→c=0):
  Le P w I β hp (w.alloc (.cells C0 e)) I (ar β nb (some w.heap.size)) (ar hp nb (some (.nest e es [0,0,0])))∧aK P (w.alloc (.cells C0 e)) I (ar β nb (some w.heap.size)) (ar hp nb (some (.nest e es [0,0,0]))) B M w0∧
  ah P (w.alloc (.cells C0 e)) I (ar β nb (some w.heap.size)) (ar hp nb (some (.nest e es [0,0,0]))) (.slice (some ⟨w.heap.size,0,none⟩) es.length cap) (.whole e nb):=
 apL S aD hn hs hl hm wZ.self hx
theorem afX(dz:∀id blk,hp id=some blk→fS P w I β hp (β id) blk){a:Act}{sl:Nat→V}(hs:pW P w I β hp a sl){G:Nat→V}(hg:nh P G w I){e:TypeId}{len:Nat}:∀{l:List (Nat×Operand)} {ps:List (Nat×V)} {upd:List (Nat×ag)} {rd:List Nat},
  (Jj P e len (l.map fun p=>(p.1,bu P G e sl p.2))).run C hp=some ((ps,upd),rd)→dZ P e=true→(∀p∈upd,FO hp p)∧∀I':Nat→Nat→Prop,(∀b j,I b j→I' b j)→(∀p∈upd,∀b j,AW P w β hp p.1 b j→I' b j)→
   ∀(cells:Array Value) (es:List V),es.length=len→F6 P w I' e cells es→∃xm,Instr.fill (fun i=>some (i*P.cellsOf e,P.cellsOf e)) cells (l.map fun p=>(p.1,a.eval p.2))=some xm∧F6 P w I' e xm (Ji es ps)∧(Ji es ps).length=len
 | [],ps,upd,rd,h,_=>by
  cases h;exact⟨by simp,fun I' _ _ cells es hl he=>⟨cells,by simp[Instr.fill],he,hl⟩⟩
 |(i,x)::l,ps,upd,rd,h,aD=>by
  simp only[nY,Jj]at h;obtain⟨⟨ys,u1⟩,l1,l2,h1,h⟩:=qB h;obtain⟨hc,h⟩:=aW h;obtain⟨⟨ps',u2⟩,l3,l4,h2,h⟩:=qB h;have:=bG h;cases this;simp only[bc,rf]at hc;obtain⟨hi,fl⟩:=hc;obtain⟨tl,tg⟩:=Dh fl;have sK:=hs.ev hg e x;obtain⟨v1,v2⟩:=apH dz sK h1 fl;obtain⟨k1,k2,k3⟩:=WD dz h1 (vs:=(a.eval x).cells.toList) (by omega) v2;obtain⟨m1,m2⟩:=afX dz hs hg h2 aD;refine⟨fun p hp=> ?_,fun I' i1 i2 cells es hl he=> ?_⟩
  ·grind
  ·have gj:=k3 I' i1 (fun p hp=>i2 p (fQ.2 (.inl hp)));have b7:=(pY aD).1;have Bc:ys.length=P.cellsOf e:=by omega
   have QO:(a.eval x).cells.size=P.cellsOf e:=by omega
   have F8:=he.set (i:=i) (ys:=ys) (by omega) QO Bc (fun j t' u y ht hu hy=>by
    exact(gj j u y (by grind) hy).pure (tg j t' y (by rw[←vn];exact ht) hy))
   obtain⟨xm,f1,f2,f3⟩:=m2 I' i1 (fun p hp=>i2 p (fQ.2 (.inr hp))) _ (es.set i (dY P e ys)) (by grind) F8;refine⟨xm,?_,f2,f3⟩;have hb:i*P.cellsOf e+P.cellsOf e≤cells.size:=by
    rw[he.1,hl];have:(i+1)*P.cellsOf e≤len*P.cellsOf e:=fg _ hi;grind
   simp only[nY,Instr.fill];grind
theorem afY{z:Array Value}{n k:Nat}(hk:k<n)(hz:0<z.size):((Array.range n).map (z[· %z.size]!))[k]? =z[k %z.size]? :=by
 have hm:k %z.size<z.size:=CB _ hz;grind
theorem afZ{e:TypeId}(h:rm P e=true){i:TypeInfo}{z:Value}(hi:P.info? e=some i)(hz:i.zero=some z)(n m:Nat)(sB:n≤m):
  ∀(k j:Nat) (x:V) (t':TypeId),(List.replicate n (dY P e (kZ P e)))[k]? =some x→(bp P e)[j]? =some t'→j<P.cellsOf e→
   ∃v,((Array.range (m*P.cellsOf e)).map (z.cells[· %z.cells.size]!))[k*P.cellsOf e+j]? =some v∧Pure P w I t' v (cW P e x j)∧∀a n c,v= .slice a n c→c=0:=by
 intro k j x t' hx ht hj;obtain⟨i2,z2,h1,h2,h3,h4,h5⟩:=JZ (w:=w) (I:=I) h;rw[hi]at h1;cases h1;rw[hz]at h2;cases h2;rw[List.getElem?_replicate]at hx;split at hx
 ·rename_i hk;cases hx;obtain⟨v,hv,hp⟩:=h5 j t' ht hj;refine⟨v,?_,hp⟩;have hb:k*P.cellsOf e+j<m*P.cellsOf e:=by
   have:(k+1)*P.cellsOf e≤m*P.cellsOf e:=fg _ (by omega);grind
  rw[afY hb (by omega),h4,show(k*P.cellsOf e+j) %P.cellsOf e=j by rw[wJ,Nat.mul_add_mod];exact IW hj];exact hv
 ·cases hx
theorem Xc{e:TypeId}(h:rm P e=true){i:TypeInfo}{z:Value}(hi:P.info? e=some i)(hz:i.zero=some z)(n m:Nat)(sB:n≤m):
  ∀(k j:Nat) (x:V) (t':TypeId),(List.replicate n (dY P e (kZ P e)))[k]? =some x→(bp P e)[j]? =some t'→j<P.cellsOf e→
   ∃v,((Array.range (m*P.cellsOf e)).map (z.cells[· %z.cells.size]!))[k*P.cellsOf e+j]? =some v∧Pure P w I t' v (cW P e x j):=fun k j x t' a b c=>(afZ h hi hz n m sB k j x t' a b c).imp fun _ h=>⟨h.1,h.2.1⟩
theorem Xd{P:Program}(w:World)(t e:TypeId)(len:Nat)(parts:Array (Nat×Value))(cells:Array Value)(ie:TypeInfo)(z:Value)
  (hu:P.underlying t=some (.slice e)) (p6:P.info? e=some ie) (hz:ie.zero=some z) (apO:¬len*ie.size>2^24)
  (h:Instr.fill (fun i=>some (i*ie.size,ie.size)) ((Array.range (len*ie.size)).map (z.cells[· %z.cells.size]!)) parts.toList=some cells):
  (Instr.buildSlice t len parts).run P w= .ok (.slice (some ⟨w.heap.size,0,none⟩) len len) (w.alloc (.cells cells e)):=by
 by_cases sB:len*ie.size=0
 ·have h0:∀g:Nat→Value,(Array.range (len*ie.size)).map g= #[]:=by grind
  have hp:∀(u:Array Value),(Pure.pure u:Sem (Array Value)).run P w= .ok u w:=fun _=>rfl;rw[h0]at h;simp only[Instr.buildSlice,Sem.run_bind,run_underlying hu,Result.andThen_ok,sizeOf,typeInfo,p6];have h1:(Array.range (len*ie.size)).map (fun _:Nat=>(default:Value))= #[]:=h0 _;have hs:¬16777216<len*ie.size:=by omega
  simp[p6,hs,sB];simp only[sB]at h1;simp[h1,h,newRow]
 ·exact run_buildSlice w t e len parts cells ie z hu p6 hz apO sB h
theorem af0(S:aK P w I β hp B M w0){a:Act}{sl:Nat→V}(hs:pW P w I β hp a sl){G:Nat→V}(hg:nh P G w I){t e:TypeId}{len nb:Nat}{ps:Array (Nat×Operand)}{r:R}{rd:List Nat}(hu:P.underlying t=some (.slice e))
  (h:(Rd.aQ (rm P e&&Nat.ble (len*P.cellsOf e) (2^24)) ((Jj P e len (ps.toList.map fun p=>(p.1,bu P G e sl p.2))).bind fun r=>
    mr nb (.arr e (Ji (List.replicate len (dY P e (kZ P e))) r.1) false) (.whole e nb) r.2)).run C hp=some (r,rd)):
  eZ P ((Instr.buildSlice t len (ps.map fun(i,x)=>(i,a.eval x))).run P w) w I β hp B M w0 r:=by
 obtain⟨hc,h⟩:=aW h;simp only[bc,fG]at hc;obtain⟨gF,Wy⟩:=hc;have aD:dZ P e=true:=by
  unfold rm at gF;grind
 obtain⟨⟨pv,upd⟩,l1,l2,h1,h⟩:=qB h;obtain⟨hn,rfl⟩:=pn h;obtain⟨m1,m2⟩:=afX S.h.rel hs hg h1 aD;obtain⟨xi,S1⟩:=JH S m1;obtain⟨i,z,hi,hz,h3,h4,_⟩:=JZ (w:=w) (I:=I) gF;have ka:=(pY aD).2;have h0:F6 P w (oj P w I β hp upd) e ((Array.range (len*P.cellsOf e)).map (z.cells[· %z.cells.size]!)) (List.replicate len (dY P e (kZ P e))):=
  ⟨by simp,Xc gF hi hz len len (aR _)⟩
 obtain⟨cells,f1,f2,f3⟩:=m2 (oj P w I β hp upd) (fun _ _ h=> .inl h) (fun p hp b j h=> .inr ⟨p,hp,h⟩) _ _ (by simp) h0;have lh:cQ hp upd nb=none:=by
  rcases C6 (hp:=hp) (l:=upd) (id:=nb)with h|⟨b',hm,_⟩
  ·grind
  ·obtain⟨e1,dT,_,h5⟩:=m1 _ hm;grind
 have zg:len≤maxLen:=by
  have:len*1≤len*P.cellsOf e:=yM _ ka;simp only[maxLen];omega
 obtain⟨n1,n2,n3⟩:=F7 S1 (cap:=len) aD lh (by rw[f2.1,f3]) (by omega) zg f2.2;have dV:=Xd w t e len (ps.map fun(i,x)=>(i,a.eval x)) cells i z hu hi hz (by grind) (by simp_all);refine⟨_,_,_,_,dV,xi.trans n1,n2,?_⟩;rw[f3]at n3;exact n3
theorem af1(S:aK P w I β hp B M w0){t e:TypeId}{nb:Nat}{kl kc:IntKind}{n m:Int}{r:R}{rd:List Nat}(hu:P.underlying t=some (.slice e))
  (h:(Rd.aQ (rm P e&&(decide (0≤n)&&(decide (n≤m)&&Nat.ble (m.toNat*P.bytesOf e) bf)))
    (mr nb (.arr e (List.replicate n.toNat (dY P e (kZ P e))) false) (.whole e nb) [])).run C hp=some (r,rd)):
  eZ P ((Instr.makeSlice t (.int kl n) (.int kc m)).run P w) w I β hp B M w0 r:=by
 obtain⟨hc,h⟩:=aW h;simp only[bc,fG,il]at hc;obtain⟨gF,h0,sB,fc⟩:=hc;have aD:dZ P e=true:=by
  unfold rm at gF;grind
 obtain⟨hn,rfl⟩:=pn h;obtain⟨i,z,hi,hz,h3,h4,_⟩:=JZ (w:=w) (I:=I) gF;have p7:P.bytesOf e=i.bytes:=by simp[Program.bytesOf,hi]
 have Xe:m≤9223372036854775807:=by
  have h1:m.toNat*1≤m.toNat*P.bytesOf e:=yM _ (C4 aD);simp only[bf]at fc;omega
 have dV:=run_make (P:=P) w t e i z hu hi hz kl kc n m h0 sB (by
  rw[p7]at fc;simp only[bf]at fc;grind) Xe
 have hlen:(List.replicate n.toNat (dY P e (kZ P e))).length=n.toNat:=by simp
 obtain⟨n1,n2,n3⟩:=F7 S (cap:=m.toNat) (es:=List.replicate n.toNat (dY P e (kZ P e))) (C0:=madeCells z.cells (m.toNat*i.size)) aD hn (by rw[size_madeCells,h3]) (by omega) (by simp only[maxLen];omega)
  (by rw[h3];exact Xc gF hi hz n.toNat m.toNat (by omega))
 refine⟨_,_,_,_,dV,n1,n2,?_⟩;rw[hlen]at n3;exact n3
theorem apP(S:aK P w I β hp B M w0){t e:TypeId}{nb:Nat}{kl kc:IntKind}{n m:Int}{r:R}{rd:List Nat}(hu:P.underlying t=some (.slice e))
  (h:(Rd.aQ (rm P e&&(decide (0≤n)&&(decide (n≤m)&&Nat.ble (m.toNat*P.bytesOf e) bf)))
    (mr nb (.nest e (List.replicate n.toNat (dY P e (kZ P e))) [0,0,0]) (.whole e nb) [])).run C hp=some (r,rd)):
  eZ P ((Instr.makeSlice t (.int kl n) (.int kc m)).run P w) w I β hp B M w0 r:=by
 obtain⟨hc,h⟩:=aW h;simp only[bc,fG,il]at hc;obtain⟨gF,h0,sB,fc⟩:=hc;have aD:dZ P e=true:=by
  unfold rm at gF;grind
 obtain⟨hn,rfl⟩:=pn h;obtain⟨i,z,hi,hz,h3,h4,_⟩:=JZ (w:=w) (I:=I) gF;have p7:P.bytesOf e=i.bytes:=by simp[Program.bytesOf,hi]
 have Xe:m≤9223372036854775807:=by
  have h1:m.toNat*1≤m.toNat*P.bytesOf e:=yM _ (C4 aD);simp only[bf]at fc;omega
 have dV:=run_make (P:=P) w t e i z hu hi hz kl kc n m h0 sB (by
  rw[p7]at fc;simp only[bf]at fc;grind) Xe
 have hlen:(List.replicate n.toNat (dY P e (kZ P e))).length=n.toNat:=by simp
 obtain⟨n1,n2,n3⟩:=apM S (cap:=m.toNat) (es:=List.replicate n.toNat (dY P e (kZ P e))) (C0:=madeCells z.cells (m.toNat*i.size)) aD hn (by rw[size_madeCells,h3]) (by omega) (by simp only[maxLen];omega)
  (by rw[h3];exact afZ gF hi hz n.toNat m.toNat (by omega))
 refine⟨_,_,_,_,dV,n1,n2,?_⟩;rw[hlen]at n3;exact n3
theorem Pure.one{t:TypeId}{v:Value}{x:V}(h:Pure P w I t v x):v.oneCell'=true:=by cases h<;>rfl
structure Row(P:Program)(w:World)(I:Nat→Nat→Prop)(e:TypeId)(v:Value)(xs:List V)(a:Addr)(c:Nat)(news:List Value):Prop where
 val:v= .slice (some a) xs.length c
 len:news.length=xs.length*P.cellsOf e
 cell:∀(j:Nat) u,news[j]? =some u→w.cell? (a.add j)=some u
 el:∀(i j:Nat) (x:V) (t':TypeId),xs[i]? =some x→(bp P e)[j]? =some t'→j<P.cellsOf e→∃u,news[i*P.cellsOf e+j]? =some u∧Pure P w I t' u (cW P e x j)
theorem Row.one{e:TypeId}{v:Value}{xs:List V}{a:Addr}{c:Nat}{news:List Value}(h:Row P w I e v xs a c news)(aD:dZ P e=true):∀u∈news,u.oneCell'=true:=by
 intro u hu;obtain⟨k,hk⟩:=wI hu;have xn:=(cP.1 hk).1;have ka:=(pY aD).2;rw[h.len]at xn;have hi:k/P.cellsOf e<xs.length:=Nat.div_lt_of_lt_mul (by grind);have hj:k %P.cellsOf e<P.cellsOf e:=CB _ ka;have ja:k %P.cellsOf e<(bp P e).length:=by rw[gP aD];exact hj
 obtain⟨u',nM,hp⟩:=h.el (k/P.cellsOf e) (k %P.cellsOf e) _ _ (cv hi) (cv ja) hj;rw[Nat.div_add_mod']at nM;rw[hk]at nM;cases nM;exact hp.one
theorem af2{e T:TypeId}{es:List V}{b:Nat}{Ca:Array Value}{off len cap o:Nat}(hh:w.heap[b]? =some (.cells Ca T (0,0)))(hs:es.length*P.cellsOf e≤Ca.size)
  (hx:∀(i j:Nat) (x:V) (t':TypeId),es[i]? =some x→(bp P e)[j]? =some t'→j<P.cellsOf e→∃v,Ca[i*P.cellsOf e+j]? =some v∧Pure P w I t' v (cW P e x j))
  (pV:off+len≤es.length) (ho:0<len→o=off*P.cellsOf e):
  Row P w I e (.slice (some ⟨b,o,none⟩) len cap) ((es.drop off).take len) ⟨b,o,none⟩ cap ((Ca.toList.drop (off*P.cellsOf e)).take (len*P.cellsOf e)):=by
 have hlen:((es.drop off).take len).length=len:=by simp;omega
 have hb:(off+len)*P.cellsOf e≤Ca.size:=lR (fg _ pV) hs;rw[nW]at hb;refine⟨by rw[hlen],by grind,fun j u hj=> ?_,fun i j x t' pf ht hj=> ?_⟩
 ·have eQ:=(cP.1 hj).1;have apQ:j<len*P.cellsOf e:=by
   grind
  have oJ:0<len:=by
   grind
  rw[mL apQ,uY]at hj;rw[rK,cell?_cells hh,ho oJ];grind
 ·have hi:i<len:=by grind
  rw[mL hi,uY]at pf;obtain⟨u,hu,hp⟩:=hx (off+i) j x t' pf ht hj;refine⟨u,?_,hp⟩;have:i*P.cellsOf e+j<len*P.cellsOf e:=by
   have:(i+1)*P.cellsOf e≤len*P.cellsOf e:=fg _ hi;grind
  grind
theorem QZ(dz:∀id blk,hp id=some blk→fS P w I β hp (β id) blk){e:TypeId}{v:Value}{x:V}{k:List V→Rd R}{r:R}{rd:List Nat}(aD:dZ P e=true)(hv:ah P w I β hp v x)
  (h:(AK e x k).run C hp=some (r,rd)):∃xs,(((∃a,v= .slice a 0 0)∧xs=[])∨∃a c news,Row P w I e v xs a c news)∧∃l,(k xs).run C hp=some (r,l):=by
 cases hv with
 |list hp'=>
  obtain⟨hc,h2⟩:=aW h;clear h;rw[bU]at hc;subst hc;cases hp' with
  |nil=>grind
  |@emp a cap=>exact⟨[],.inr ⟨a,cap,[],⟨rfl,by simp,fun j u hj=>by simp at hj,fun i j x t' hx _ _=>by simp at hx⟩⟩,rd,h2⟩
  |@list b o len cap es g hl cS hI iP hx=>
   refine⟨_,.inr ⟨⟨b,o,none⟩,cap,(List.range (len*P.cellsOf e)).map fun k=>g (k/P.cellsOf e) (k %P.cellsOf e),⟨by rw[hl],by grind,fun j u hj=> ?_,fun i j x t' pf ht hj=> ?_⟩⟩,rd,h2⟩
   ·obtain⟨eQ,De⟩:=cP.1 hj;simp at eQ De;have ka:=(pY aD).2;have hi:j/P.cellsOf e<len:=Nat.div_lt_of_lt_mul (by grind);have ph:j %P.cellsOf e<P.cellsOf e:=CB _ ka;rw[rK,←De];have:=iP (j/P.cellsOf e) (j %P.cellsOf e) hi ph;rwa [Nat.div_add_mod']at this
   ·have hi:i<len:=by grind
    have hb:i*P.cellsOf e+j<len*P.cellsOf e:=by
     have:(i+1)*P.cellsOf e≤len*P.cellsOf e:=fg _ hi;grind
    refine⟨g i j,?_,hx i j x t' pf ht⟩;have e1:(i*P.cellsOf e+j)/P.cellsOf e=i:=by
     rw[wJ,Nat.mul_add_div (pY aD).2,Nat.div_eq_of_lt hj,Nat.add_zero]
    have e2:(i*P.cellsOf e+j) %P.cellsOf e=j:=by
     rw[wJ,Nat.mul_add_mod];exact IW hj
    grind
 |nilS=>
  obtain⟨hc,h⟩:=aW h;grind
 |fk ae hb=>
  obtain⟨l,h⟩:=run_get h;simp only[ae]at h;obtain⟨hc,h⟩:=aW h;grind
 |@whole e' id es fz b cap ae hb b7 cS hm=>
  obtain⟨l,h⟩:=run_get h;simp only[ae]at h;obtain⟨hc,h2⟩:=aW h;clear h;simp only[bc,bU]at hc;obtain⟨rfl,_⟩:=hc;have hr:=dz _ _ ae;cases hr with
  |fT aJ=>grind
  |arr hL WM aJ hh hs hf jm hx=>
   rw[hb]at aJ;cases aJ;have:=af2 (cap:=cap) (off:=0) (len:=es.length) (o:=0) hh hs hx (by omega) (fun _=>by simp);grind
 |nf ae hb=>
  obtain⟨l,h⟩:=run_get h;simp only[ae]at h;obtain⟨hc,h⟩:=aW h;grind
 |@sub e' id off len es fz b o cap ae hb pV cS ho=>
  obtain⟨l,h⟩:=run_get h;simp only[ae]at h;obtain⟨hc,h2⟩:=aW h;clear h;simp only[bc,bU]at hc;obtain⟨rfl,_⟩:=hc;have hr:=dz _ _ ae;cases hr with
  |fT aJ=>grind
  |arr hL WM aJ hh hs hf jm hx=>
   rw[hb]at aJ;cases aJ;exact⟨_,.inr ⟨_,_,_,af2 (cap:=cap) hh hs hx pV ho⟩,l,h2⟩
 |fq ae=>
  obtain⟨l,h⟩:=run_get h;simp only[ae]at h;cases h
 |nc ae=>
  obtain⟨l,h⟩:=run_get h;simp only[ae]at h;cases h
 |undef=>cases h
 |int=>cases h
 |bool=>cases h
 |str=>cases h
 |agg=>cases h
 |bN=>cases h
 |gX=>cases h
 |fn=>cases h
 |pref=>cases h
 |oG=>cases h
 |ptr=>cases h
 |oH=>cases h
 |oI=>cases h
 |row=>cases h
 |ez=>cases h
 |fZ=>cases h
 |nJ=>cases h
 |dt=>cases h
 |fA ae=>
  obtain⟨l,h⟩:=run_get h;simp only[ae]at h;cases h
 |iv ae=>
  obtain⟨l,h⟩:=run_get h;simp only[ae]at h;cases h
 |fb ae=>
  obtain⟨l,h⟩:=run_get h;simp only[ae]at h;cases h
theorem F9{t ty e:TypeId}{i:TypeInfo}(ht:P.underlying t=some (.slice e))(hi:P.info? e=some i)(a:Option Addr)(n cap:Nat)(x:Value)(hx:∃a c,x= .slice a 0 c)(hn:n≤cap):
  (Builtin.append_ #[t,t] ty #[.slice a n cap,x]).run P w= .ok (.slice a n cap) w:=by
 obtain⟨a',c,rfl⟩:=hx;cases a' with
 |none=>cases a<;>simp[Builtin.append_,run_underlying ht,sizeOf,typeInfo,hi,Builtin.lenOf,Builtin.firstCells,hn,storeCells]
 |some a'=>cases a<;>simp[Builtin.append_,run_underlying ht,sizeOf,typeInfo,hi,Builtin.lenOf,Builtin.firstCells,hn,storeCells,loadCells,loadCellsFrom]
theorem Q0{e:TypeId}{es xs:List V}{n:Nat}{c:List Value}{news:List Value}(hn:es.length=n)
  (h1:∀(i j:Nat) (x:V) (t':TypeId),es[i]? =some x→(bp P e)[j]? =some t'→j<P.cellsOf e→∃v,c[i*P.cellsOf e+j]? =some v∧Pure P w I t' v (cW P e x j))
  (h2:∀(i j:Nat) (x:V) (t':TypeId),xs[i]? =some x→(bp P e)[j]? =some t'→j<P.cellsOf e→∃v,news[i*P.cellsOf e+j]? =some v∧Pure P w I t' v (cW P e x j))
  (hb:n*P.cellsOf e≤c.length) (rest:List Value):
  ∀(i j:Nat) (x:V) (t':TypeId),(es++xs)[i]? =some x→(bp P e)[j]? =some t'→j<P.cellsOf e→∃v,(c.take (n*P.cellsOf e)++news++rest)[i*P.cellsOf e+j]? =some v∧Pure P w I t' v (cW P e x j):=by
 intro i j x t' hx ht hj;have hl:(c.take (n*P.cellsOf e)).length=n*P.cellsOf e:=by simp;omega
 by_cases hi:i<n
 ·rw[o6 (by omega)]at hx;obtain⟨v,hv,hp⟩:=h1 i j x t' hx ht hj;have:i*P.cellsOf e+j<n*P.cellsOf e:=by
   have:(i+1)*P.cellsOf e≤n*P.cellsOf e:=fg _ hi;grind
  grind
 ·rw[qv (by omega),hn]at hx;obtain⟨v,hv,hp⟩:=h2 (i-n) j x t' hx ht hj;have Ga:i-n<xs.length:=(cP.1 hx).1;have e1:i*P.cellsOf e+j-n*P.cellsOf e=(i-n)*P.cellsOf e+j:=by
   rw[Nat.sub_mul];have:n*P.cellsOf e≤i*P.cellsOf e:=fg _ (by omega);omega
  have h3:(i-n)*P.cellsOf e+j<news.length:=(cP.1 hv).1;refine⟨v,?_,hp⟩;have h4:n*P.cellsOf e≤i*P.cellsOf e+j:=by
   have:n*P.cellsOf e≤i*P.cellsOf e:=fg _ (by omega);omega
  grind
theorem Pure.drew{t:TypeId}{v:Value}{x:V}(h:Pure P w I t v x):Pure P w.drew I t v x:=Pure.mono (w:=w) (w':=w.drew) (fun _ _ h=>h) (fun _ _ _=>rfl) h
theorem af3(w:World)(t ty e:TypeId)(i:TypeInfo)(z:Value)(ht:P.underlying t=some (.slice e))(hi:P.info? e=some i)(hz:i.zero=some z)
  (a0:Option Addr) (a:Addr) (n c:Nat) (news:List Value) (hl:news.length=n*i.size) (xo:∀j v,news[j]? =some v→w.cell? (a.add j)=some v)
  (h0:0<n) (J0:(n:Int)≤9223372036854775807) (Q1:n*i.bytes≤281474976710656):
  (Builtin.append_ #[t,t] ty #[.slice a0 0 0,.slice (some a) n c]).run P w=
   .ok (.slice (some ⟨w.heap.size,0,none⟩) n (grownCap w n 0 e)) (w.drew.alloc (.cells (news.toArray++Builtin.zeroCells z.cells (grownCap w n 0 e-n)) e)):=by
 cases a0 with
 |none=>exact run_append_nil w t ty e i z ht hi hz a n c news hl xo h0 J0 Q1
 |some b=>
  have:=run_append_grow (P:=P) w t ty e i z ht hi hz b 0 0 [] (by simp) (by simp) a n c news hl xo (by omega) (by omega) (by rw[cL,nextslicecap_zero h0];omega);grind
theorem Xf(S:aK P w I β hp B M w0){t ty e:TypeId}{nb:Nat}{fz:Bool}{x:Value}{xs:List V}(hu:P.underlying t=some (.slice e))(aD:dZ P e=true)(hn:hp nb=none)
  (fc:xs.length*P.bytesOf e≤bf) {a0:Option Addr} (hx:((∃a,x= .slice a 0 0)∧xs=[])∨∃a c news,Row P w I e x xs a c news):
  ∃v w' β',(Builtin.append_ #[t,t] ty #[.slice a0 0 0,x]).run P w= .ok v w'∧Le P w I β hp w' I β' (ar hp nb (some (.arr e xs fz)))∧aK P w' I β' (ar hp nb (some (.arr e xs fz))) B M w0∧
   ah P w' I β' (ar hp nb (some (.arr e xs fz))) v (.whole e nb):=by
 obtain⟨i,z,hi,hz,h3,h4,_⟩:=qI aD;have zo:=C4 aD;have p7:P.bytesOf e=i.bytes:=by simp[Program.bytesOf,hi]
 have hlen:xs.length≤2^45:=by
  have:xs.length*1≤xs.length*P.bytesOf e:=yM _ zo;simp only[bf]at fc;omega
 have empty:xs=[]→(∃a c,x= .slice a 0 c)→∃v w' β',(Builtin.append_ #[t,t] ty #[.slice a0 0 0,x]).run P w= .ok v w'∧Le P w I β hp w' I β' (ar hp nb (some (.arr e xs fz)))∧aK P w' I β' (ar hp nb (some (.arr e xs fz))) B M w0∧
   ah P w' I β' (ar hp nb (some (.arr e xs fz))) v (.whole e nb):=by
  intro nk Xg;subst nk;obtain⟨a1,a2⟩:=JI S e hn;exact⟨_,_,_,F9 hu hi a0 0 0 x Xg (aR _),a1,a2,.fk (cN _ _ _) (cN _ _ _)⟩
 rcases hx with⟨⟨_,rfl⟩,rfl⟩|⟨a,c,news,hr⟩
 ·simp_all
 ·by_cases h0:xs.length=0
  ·have nk:xs=[]:=tG h0;refine empty nk ⟨some a,c,?_⟩;rw[hr.val,h0]
  ·have dV:=af3 (P:=P) w t ty e i z hu hi hz a0 a xs.length c news (by rw[hr.len,h3]) hr.cell (by omega) (by omega) (by rw[←p7];simp only[bf]at fc;omega);have sM:=grownCap_ge w xs.length 0 e;have vz:grownCap w xs.length 0 e≤maxLen:=grownCap_le_maxLen w xs.length 0 e (by simp only[maxLen];omega);obtain⟨n1,n2,n3⟩:=F7 S.drew (nb:=nb) (cap:=grownCap w xs.length 0 e) (es:=xs) (C0:=news.toArray++Builtin.zeroCells z.cells (grownCap w xs.length 0 e-xs.length)) aD hn
    (by simp only[PO,wG,size_zeroCells,h4,hr.len,←nW];grind) sM vz
    (fun i' j y t' hy ht hj=>by
     obtain⟨u,nM,hp⟩:=hr.el i' j y t' hy ht hj;have bO:=(cP.1 nM).1;refine⟨u,?_,Pure.drew hp⟩;grind)
   rw[hr.val];exact⟨_,_,_,dV,(Le.drew w I β hp).trans n1,n2,n3⟩
theorem af4{P:Program}(w:World)(t ty e T:TypeId)(i:TypeInfo)(ht:P.underlying t=some (.slice e))(hi:P.info? e=some i)
  (g qJ Dq:Nat) (cur:Array Value) (hg:w.heap[g]? =some (.cells cur T (0,0)))
  (a:Addr) (m c:Nat) (news:List Value) (hl:news.length=m*i.size) (xo:∀j u,news[j]? =some u→w.cell? (a.add j)=some u) (h1:∀u∈news,u.oneCell'=true)
  (xp:qJ+m≤Dq) (Gb:qJ*i.size+news.length≤cur.size):
  (Builtin.append_ #[t,t] ty #[.slice (some ⟨g,0,none⟩) qJ Dq,.slice (some a) m c]).run P w=
   .ok (.slice (some ⟨g,0,none⟩) (qJ+m) Dq) (w.setRow g (cur.toList.take (qJ*i.size)++news++cur.toList.drop (qJ*i.size+news.length)).toArray):=by
 have hf:=run_firstCells_some (P:=P) w i.size m a m c news hl xo;have fB:=run_storeCells_at P g (qJ*i.size) T news 0 cur w hg (by omega) h1;simp only[Nat.add_zero]at fB;simp[Builtin.append_,run_underlying ht,sizeOf,typeInfo,hi,Builtin.lenOf,xp,hf,Addr.add_lit,fB]
theorem af5(S:aK P w I β hp B M w0){t ty e:TypeId}{nb id:Nat}{s x:Value}{es xs:List V}{fz:Bool}(hu:P.underlying t=some (.slice e))(aD:dZ P e=true)(hs:ah P w I β hp s (.whole e id))(ae:hp id=some (.arr e es fz))(hn:hp nb=none)
  (fc:Nat.ble ((es.length+xs.length)*P.bytesOf e) bf=true) (rM:((∃a,x= .slice a 0 0)∧xs=[])∨∃a c news,Row P w I e x xs a c news):
  eZ P ((Builtin.append_ #[t,t] ty #[s,x]).run P w) w I β hp B M w0 ⟨.whole e nb,[(nb,.arr e (es++xs) fz),(id,.dead)]⟩:=by
 rw[fG]at fc;have bz:nb≠id:=fun e=>by grind
 obtain⟨k1,k2⟩:=AZ S ae;have lh:ar hp id (some ag.dead) nb=none:=by rw[db _ _ bz];exact hn
 cases hs with
 |fq hd=>grind
 |fb hd=>grind
 |fA hd=>grind
 |iv hd=>grind
 |fk hd hb=>
  rw[ae]at hd;cases hd;simp only[List.length_nil,cL]at fc;have apR:((∃a,x= .slice a 0 0)∧xs=[])∨∃a c news,Row P w I e x xs a c news:=rM;obtain⟨v,w',β',a1,a2,a3,a4⟩:=Xf (ty:=ty) k2 hu aD lh fc apR;exact⟨v,w',I,β',a1,k1.trans a2,a3,a4⟩
 |@whole _ _ ba vd b cap hd hb b7 cS hm=>
  rw[ae]at hd;cases hd;have hr:=S.h.rel id _ ae;cases hr with
  |fT aJ=>grind
  |@arr _ T _ _ b' Ca hL _ aJ hh J1 hf jm Gc=>
   rw[hb]at aJ;cases aJ;obtain⟨i,z,hi,hz,h3,h4,_⟩:=qI aD;have zo:=C4 aD;have p7:P.bytesOf e=i.bytes:=by simp[Program.bytesOf,hi]
   have hlen:es.length+xs.length≤2^45:=by
    have:(es.length+xs.length)*1≤(es.length+xs.length)*P.bytesOf e:=yM _ zo;simp only[bf]at fc;omega
   rw[nK hh]at b7;have vo:∀aA blk',ar hp id (some ag.dead) aA=some blk'→¬bV P w (β aA) blk' b:=by
    intro aA blk' h1 h2;by_cases pk:aA=id
    ·subst pk;rw[cN]at h1;cases h1;exact h2.alive rfl
    ·rw[db _ _ pk]at h1;exact pk (S.h.inj aA id blk' _ b h1 ae h2 (.root (by simp) hb))
   have J2:=S.h.AV id _ b ae (by simp) hb;have room:∀(C':Array Value) (w':World) (ys:List V),w'.heap[b]? =some (.cells C' T (0,0))→C'.size=Ca.size→(∀b',b'≠b→w'.heap[b']? =w.heap[b']?)→w.heap.size≤w'.heap.size→(w'.os=w.os∧w'.output=w.output)→ys.length≤cap→es.length≤ys.length→(∀j,j<es.length*P.cellsOf e→C'[j]? =Ca[j]?)→
     (∀(i j:Nat) (y:V) (t':TypeId),ys[i]? =some y→(bp P e)[j]? =some t'→j<P.cellsOf e→∃v,C'[i*P.cellsOf e+j]? =some v∧Pure P w I t' v (cW P e y j))→
     Le P w I β hp w' I (ar β nb (some b)) (ar (ar hp id (some .dead)) nb (some (.arr e ys fz)))∧aK P w' I (ar β nb (some b)) (ar (ar hp id (some .dead)) nb (some (.arr e ys fz))) B M w0∧
     ah P w' I (ar β nb (some b)) (ar (ar hp id (some .dead)) nb (some (.arr e ys fz))) (.slice (some ⟨b,0,none⟩) ys.length cap) (.whole e nb):=by
    intro C' w' ys hC xq hw' hwz apS Bc hey tY hy;have hIn:=Xb hf jm;obtain⟨a1,a2⟩:=FW k2 (blk:= .arr e ys fz) (w':=w') lh vo (afW hh hC hIn tY) (fun b' h _=>hw' b' h) hwz apS J2
     (fun b' h=>(fP (h.flat (by simp))).symm) (fun hle=> .arr (xq▸hL) aD rfl hC (by rw[xq,←b7];exact fg _ Bc) (fun _ j h=>fY (hIn j h) (fg _ hey)) jm fun i j y t' a b c=>by
      obtain⟨v,hv,hp⟩:=hy i j y t' a b c;exact⟨v,hv,hp.mono hle.fI hle.dF⟩)
    refine⟨k1.trans a1,a2,.whole (cN _ _ _) (cN _ _ _) ?_ Bc hm⟩;rw[nK hC,xq,b7]
   have same:xs=[]→(∃a c,x= .slice a 0 c)→eZ P ((Builtin.append_ #[t,t] ty #[.slice (some ⟨b,0,none⟩) es.length cap,x]).run P w) w I β hp B M w0 ⟨.whole e nb,[(nb,.arr e (es++xs) fz),(id,.dead)]⟩:=by
    intro nk Xg;subst nk;rw[uZ];obtain⟨a1,a2,a3⟩:=room Ca w es hh rfl (fun _ _=>rfl) (aR _) ⟨rfl,rfl⟩ cS (aR _) (fun _ _=>rfl) Gc;exact⟨_,_,_,_,F9 hu hi _ _ _ x Xg cS,a1,a2,a3⟩
   rcases rM with⟨⟨_,rfl⟩,rfl⟩|⟨a,c,news,ed⟩
   ·grind
   ·have h1:=ed.one aD;have qH:es.length*P.cellsOf e≤Ca.toList.length:=by omega
    by_cases xp:es.length+xs.length≤cap
    ·have Gb:es.length*P.cellsOf e+news.length≤Ca.size:=by rw[ed.len,←nW,←b7];exact fg _ xp
     have dV:=af4 (P:=P) w t ty e T i hu hi b es.length cap Ca hh a xs.length c news (by rw[ed.len,h3]) ed.cell h1 xp (by grind);rw[h3]at dV;have gF:=Q0 (P:=P) (w:=w) (I:=I) (n:=es.length) (c:=Ca.toList) rfl (fun i j y t' a b c=>by
      grind) ed.el qH (Ca.toList.drop (es.length*P.cellsOf e+news.length))
     obtain⟨a1,a2,a3⟩:=room (Ca.toList.take (es.length*P.cellsOf e)++news++Ca.toList.drop (es.length*P.cellsOf e+news.length)).toArray (w.setRow b _) (es++xs)
      (setRow_heap w b Ca _ T _ hh) (by simp;omega) (fun b' aJ=>setRow_other w b b' _ aJ) (by simp) ⟨rfl,rfl⟩ (by grind) (by simp) (fun j hj=>by
        grind)
      (fun i j y t' a b c=>by
       grind)
     rw[ed.val];rw[kG]at a3;exact⟨_,_,_,_,dV,a1,a2,a3⟩
    ·have hold:∀(j:Nat) v,(Ca.toList.take (es.length*P.cellsOf e))[j]? =some v→w.cell? ((⟨b,0,none⟩:Addr).add j)=some v:=by
      intro j v hj;have eQ:=(cP.1 hj).1;have ph:j<es.length*P.cellsOf e:=by grind
      rw[mL ph]at hj;rw[rK,cell?_cells hh,cL];grind
     have dV:=run_append_grow (P:=P) w t ty e i z hu hi hz ⟨b,0,none⟩ es.length cap (Ca.toList.take (es.length*P.cellsOf e)) (by grind) hold a xs.length c news (by rw[ed.len,h3]) ed.cell (by omega) (by omega)
      (growslice_fits (by omega) (by rw[←p7];simp only[bf]at fc;omega))
     have sM:=grownCap_ge w (es.length+xs.length) cap e;have vz:grownCap w (es.length+xs.length) cap e≤maxLen:=grownCap_le_maxLen w _ cap e (by simp only[maxLen];omega);have gF:=Q0 (P:=P) (w:=w) (I:=I) (n:=es.length) (c:=Ca.toList) rfl (fun i j y t' a b c=>by
      grind) ed.el qH (Builtin.zeroCells z.cells (grownCap w (es.length+xs.length) cap e-(es.length+xs.length))).toList
     obtain⟨n1,n2,n3⟩:=F7 k2.drew (nb:=nb) (cap:=grownCap w (es.length+xs.length) cap e) (es:=es++xs)
      (C0:=(Ca.toList.take (es.length*P.cellsOf e)).toArray++news.toArray++Builtin.zeroCells z.cells (grownCap w (es.length+xs.length) cap e-(es.length+xs.length))) aD lh
      (by
       have e1:(Ca.toList.take (es.length*P.cellsOf e)).length=es.length*P.cellsOf e:=by simp;omega
       simp only[PO,wG,size_zeroCells,h4,ed.len,e1,←nW];grind) (by grind) vz
      (fun i j y t' a b c=>by
       obtain⟨v,hv,hp⟩:=gF i j y t' a b c;refine⟨v,?_,Pure.drew hp⟩;grind)
     rw[ed.val];rw[kG]at n3;exact⟨_,_,_,_,dV,(k1.trans (Le.drew w I β _)).trans n1,n2,n3⟩
theorem apU(S:aK P w I β hp B M w0){t ty e:TypeId}{nb:Nat}{s x:Value}{sv xv:V}{r:R}{rd:List Nat}(hu:P.underlying t=some (.slice e))(hs:ah P w I β hp s sv)(hx:ah P w I β hp x xv)
  (h:(FE P nb e sv xv).run C hp=some (r,rd)):eZ P ((Builtin.append_ #[t,t] ty #[s,x]).run P w) w I β hp B M w0 r:=by
 unfold FE at h;obtain⟨aD,h⟩:=aW h;obtain⟨xs,rM,l0,h⟩:=QZ S.h.rel aD hx h;cases sv with
 |nilS e'=>
  obtain⟨hc,h⟩:=aW h;simp only[bc,bU,fG]at hc;obtain⟨hn,rfl⟩:=pn h;obtain⟨a0,rfl⟩:∃a0,s= .slice a0 0 0:=by cases hs;grind
  obtain⟨v,w',β',a1,a2,a3,a4⟩:=Xf (ty:=ty) S hu aD hn hc.2 rM;exact⟨v,w',I,β',a1,a2,a3,a4⟩
 |whole e' id=>
  obtain⟨l,h⟩:=run_get h;cases ae:hp id with
  |none=>rw[ae]at h;cases h
  |some blk=>
   rw[ae]at h;cases blk with
   |dead=>cases h
   |var _=>cases h
   |nest _ _ _=>cases h
   |map _ _=>cases h
   |out _ _ _ _=>cases h
   |arr iq es fz=>
    obtain⟨hc,h⟩:=aW h;obtain⟨hn,rfl⟩:=pn h;simp only[bc,bU,fG]at hc;obtain⟨Xh,Xi,fc⟩:=hc;subst Xh;subst Xi;exact af5 S hu aD hs ae hn (by simp_all) rM
 |_=>cases h
end
section
variable {P:Program}{w w':World}{I I':Nat→Nat→Prop}{β β':Nat→Option Nat}{hp hp':Nat→Option ag}{C:af}{B:Nat}{M:Nat→Prop}{w0:Start}
theorem apV(S:aK P w I β hp B M w0){t ty e:TypeId}{x:Value}{xv:V}{r:R}{rd:List Nat}(hu:P.underlying t=some (.slice e))(hx:ah P w I β hp x xv)
  (h:(Wg P e xv).run C hp=some (r,rd)):eZ P ((Builtin.clear_ #[t] ty #[x]).run P w) w I β hp B M w0 r:=by
 unfold Wg at h;obtain⟨gF,h'⟩:=aW h;clear h;have aD:dZ P e=true:=by
  unfold rm at gF;simp only[bc]at gF;exact gF.1
 obtain⟨i,z,hi,hz,b7,J3,hzp⟩:=JZ (w:=w) (I:=I) gF;have ka:=(pY aD).2;cases xv<;>simp only at h'<;>first|(cases h';done)|skip
 rename_i e' id off len;obtain⟨l,h2⟩:=run_get h';clear h';cases ae:hp id with
 |none=>rw[ae]at h2;cases h2
 |some blk=>
  rw[ae]at h2;cases blk<;>simp only at h2<;>first|(cases h2;done)|skip
  rename_i e2 es fz;cases fz with
  |true=>cases h2
  |false=>
  obtain⟨hc,h3⟩:=aW h2;simp only[bc,bU]at hc;obtain⟨rfl,rfl⟩:=hc;obtain rfl:=bG h3;have Dr:len=0→(Builtin.clear_ #[t] ty #[x]).run P w= .ok (.tuple #[]) w→eZ P ((Builtin.clear_ #[t] ty #[x]).run P w) w I β hp B M w0 ⟨.bN [],[(id,.arr e (es.take off++(List.replicate len (dY P e (kZ P e))++es.drop (off+len))) false)]⟩:=by
   intro h0 hr;subst h0;have my:cQ hp [(id,.arr e (es.take off++(List.replicate 0 (dY P e (kZ P e))++es.drop (off+0))) false)]=hp:=by
    simp only[List.replicate_zero,List.nil_append,Nat.add_zero,List.take_append_drop];exact afc hp id _ ae
   refine⟨.tuple #[],w,I,β,hr,?_⟩;simp only[my];exact⟨Le.refl w I β hp,S,.bN rfl fun j v x hj hx=>by simp at hx⟩
  cases hx with
  |nc hd=>rw[ae]at hd;cases hd
  |@nf _ _ _ a0 hd hb=>exact Dr rfl (by cases a0<;>simp[Builtin.clear_,run_underlying hu])
  |@sub _ _ _ _ ba vd b o cap hd hb pV cS ho=>
   by_cases hlen:len=0
   ·refine Dr hlen ?_;subst hlen;simp[Builtin.clear_,run_underlying hu]
   have apW:0<len:=by omega
   have jl:=hd;rw[ae]at hd;cases hd;have hr:=S.h.rel id _ ae;cases hr with
   |fT aJ=>rw[aJ]at hb;cases hb
   |@arr _ T0 _ _ b' Ca hL _ aJ hh J1 hf jm Gc=>
    rw[hb]at aJ;cases aJ;have ho:=ho apW;subst ho;have Dp:(Builtin.zeroCells z.cells len).toList.length=len*P.cellsOf e:=by rw[Array.length_toList,size_zeroCells,J3]
    have hmul:off*P.cellsOf e+len*P.cellsOf e≤es.length*P.cellsOf e:=by rw[←nW];exact fg _ pV
    have vu:∀v∈(Builtin.zeroCells z.cells len).toList,v.oneCell'=true:=by
     intro v hv;obtain⟨k,hk⟩:=wI hv;have xn:=(cP.1 hk).1;rw[Dp]at xn;have hzg:(Builtin.zeroCells z.cells len)[k]? =z.cells[k %z.cells.size]? :=afY (z:=z.cells) (n:=len*z.cells.size) (by rw[J3];exact xn) (by rw[J3];exact ka);rw[u5,hzg]at hk;have hm:k %z.cells.size<P.cellsOf e:=by rw[J3];exact CB _ ka
     have htl:k %z.cells.size<(bp P e).length:=by rw[gP aD];exact hm
     obtain⟨v',lZ,hp'⟩:=hzp (k %z.cells.size) _ (cv htl) hm;rw[hk]at lZ;cases lZ;exact hp'.1.one
    have fB:=run_storeCells_at P b (off*P.cellsOf e) T0 (Builtin.zeroCells z.cells len).toList 0 Ca w hh (by rw[Dp];omega) vu;simp only[Nat.add_zero]at fB;have dV:(Builtin.clear_ #[t] ty #[.slice (some ⟨b,off*P.cellsOf e,none⟩) len cap]).run P w= .ok (.tuple #[]) (w.setRow b (Ca.toList.take (off*P.cellsOf e)++(Builtin.zeroCells z.cells len).toList++Ca.toList.drop (off*P.cellsOf e+(Builtin.zeroCells z.cells len).toList.length)).toArray):=by
     obtain⟨n,rfl⟩:∃n,len=n+1:=⟨len-1,by omega⟩
     simp[Builtin.clear_,run_underlying hu,zeroValue,typeInfo,hi,hz,fB]
    have pZ:(es.take off++(List.replicate len (dY P e (kZ P e))++es.drop (off+len))).length=es.length:=by simp;omega
    have xq:(Ca.toList.take (off*P.cellsOf e)++(Builtin.zeroCells z.cells len).toList++Ca.toList.drop (off*P.cellsOf e+(Builtin.zeroCells z.cells len).toList.length)).toArray.size=Ca.size:=by
     simp only[wG,kG,List.length_drop,u6,Dp,Array.length_toList];omega
    obtain⟨a1,a2⟩:=WO S (blk':= .arr e (es.take off++(List.replicate len (dY P e (kZ P e))++es.drop (off+len))) false) ae (by simp) ⟨rfl,pZ.symm⟩ hb (jm rfl) (by simp) hh xq
     (fun hle eM=> .arr (by rw[xq];exact hL) aD rfl eM (by rw[xq,pZ];exact J1) (fun h=>by cases h) (fun _=>jm rfl) fun i' j y t' hy ht hj=>by
      have vA:=sJ es (List.replicate len (dY P e (kZ P e))) off i' (by simp;omega);rw[CD]at vA;rw[vA]at hy;have hC:(Ca.toList.take (off*P.cellsOf e)++(Builtin.zeroCells z.cells len).toList++Ca.toList.drop (off*P.cellsOf e+(Builtin.zeroCells z.cells len).toList.length)).toArray[i'*P.cellsOf e+j]? =
        if i'*P.cellsOf e+j<off*P.cellsOf e then Ca.toList[i'*P.cellsOf e+j]? else if i'*P.cellsOf e+j<off*P.cellsOf e+len*P.cellsOf e then(Builtin.zeroCells z.cells len).toList[i'*P.cellsOf e+j-off*P.cellsOf e]? else Ca.toList[i'*P.cellsOf e+j]? :=by
       have:=sJ Ca.toList (Builtin.zeroCells z.cells len).toList (off*P.cellsOf e) (i'*P.cellsOf e+j) (by rw[Dp,Array.length_toList];omega);rw[tI,kH,this,Dp]
      by_cases Gd:i'<off
      ·rw[aP Gd]at hy;have:(i'+1)*P.cellsOf e≤off*P.cellsOf e:=fg _ Gd;rw[nW]at this;rw[gC]at hC;obtain⟨u,k1,k2⟩:=Gc i' j y t' hy ht hj;exact⟨u,hC.trans (by simpa using k1),k2.mono hle.fI hle.dF⟩
      ·rw[aM Gd]at hy;have h1:off*P.cellsOf e≤i'*P.cellsOf e:=fg _ (by omega);rw[fH]at hC;by_cases Ga:i'<off+len
       ·rw[aP Ga]at hy;have:(i'+1)*P.cellsOf e≤(off+len)*P.cellsOf e:=fg _ Ga;rw[nW,nW]at this;rw[gC]at hC;obtain⟨v,k1,k2⟩:=Xc (w:=w) (I:=I) gF hi hz len len (aR _) (i'-off) j y t' hy ht hj;refine⟨v,hC.trans ?_,k2.mono hle.fI hle.dF⟩;rw[show i'*P.cellsOf e+j-off*P.cellsOf e=(i'-off)*P.cellsOf e+j by rw[Nat.sub_mul];omega,u5];unfold Builtin.zeroCells;rw[J3]at k1⊢;exact k1
       ·rw[aM Ga]at hy;have:(off+len)*P.cellsOf e≤i'*P.cellsOf e:=fg _ (by omega);rw[nW]at this;rw[fH]at hC;obtain⟨u,k1,k2⟩:=Gc i' j y t' hy ht hj;exact⟨u,hC.trans (by simpa using k1),k2.mono hle.fI hle.dF⟩)
    exact⟨_,_,_,_,dV,a1,a2,.bN rfl fun j v x hj hx=>by simp at hx⟩
end
section
variable {P:Program}{w w':World}{I I':Nat→Nat→Prop}{β β':Nat→Option Nat}{hp hp':Nat→Option ag}{C:af}{B:Nat}{M:Nat→Prop}{w0:Start}
theorem J4(S:aK P w I β hp B M w0){nb b:Nat}{e e1:TypeId}{ys:List V}{C':Array Value}(hr:rowOf P e=some e1)(hn:hp nb=none)
  {T:TypeId} (zl:w'.heap[b]? =some (.cells C' T (0,0))) (hlen:ys.length≤C'.size)
  (hw:∀b',b'≠b→b'<w.heap.size→w'.heap[b']? =w.heap[b']?) (b7:w.heap.size≤w'.heap.size) (pe:w'.os=w.os∧w'.output=w.output) (hb:M b∨B≤b)
  (vo:∀aA blk',hp aA=some blk'→¬bV P w (β aA) blk' b) (dU:∀j,¬I b j) (K:Nat→Nat→List V→Prop)
  (iP:∀(i:Nat) x,ys[i]? =some x→∃l v,x= .list e1 l∧C'[i]? =some v∧Dk P w e1 (K i) v l)
  (hK:∀i b1 l,K i b1 l→b1≠b∧b1<w.heap.size∧j9 P w I b1 e1 l∧(M b1∨B≤b1)∧∀id blk,hp id=some blk→¬bV P w (β id) blk b1)
  (xf:∀i j b1 l m,K i b1 l→K j b1 m→i=j):
  Le P w I β hp w' I (ar β nb (some b)) (ar hp nb (some (.nest e ys [0,0,0])))∧aK P w' I (ar β nb (some b)) (ar hp nb (some (.nest e ys [0,0,0]))) B M w0:=by
 obtain⟨p1,p2⟩:=afI (w:=w) (I:=I) (vers:=[0,0,0]) hr zl hlen dU K iP (fun i b1 l h=>⟨(hK i b1 l h).1,hw _ (hK i b1 l h).1 (hK i b1 l h).2.1,(hK i b1 l h).2.2.1⟩) xf;refine afn S hn vo (fun j h=>absurd h (dU j)) hw b7 pe hb (fun b' ho=> ?_) (fun hle=>p2 hle.dF);rcases p1 b' ho with h|⟨i,l,h⟩
 ·exact .inl h
 ·exact .inr ⟨(hK _ _ _ h).2.2.2.1,(hK _ _ _ h).2.2.2.2⟩
theorem apX(S:aK P w I β hp B M w0){t ty e:TypeId}{nb:Nat}{s x:Value}{sv xv:V}{r:R}{rd:List Nat}(hu:P.underlying t=some (.slice e))(hs:ah P w I β hp s sv)(hx:ah P w I β hp x xv)
  (h:(Wf P nb e sv xv).run C hp=some (r,rd)):eZ P ((Builtin.append_ #[t,t] ty #[s,x]).run P w) w I β hp B M w0 r:=by
 unfold Wf at h;obtain⟨hro,ha⟩:=aW h;clear h;obtain⟨e1,hr⟩:=PQ.1 hro;obtain⟨Xj,dh,aD,vy,ld⟩:=Ba hr;have oN:bp P e=[e]:=by simp[bp,dh]
 have hk:P.cellsOf e=1:=by rw[←gP aD,oN];rfl
 obtain⟨i,z,hi,hz,h3,h4,_⟩:=qI aD;have zo:=C4 aD;have p7:P.bytesOf e=i.bytes:=by simp[Program.bytesOf,hi]
 rw[hk]at h3 h4;cases sv with
 |whole e' id=>
  obtain⟨l0,hb⟩:=run_get ha;clear ha;cases ae:hp id with
  |none=>rw[ae]at hb;cases hb
  |some blk=>
   rw[ae]at hb;cases blk with
   |nest iq es vers=>
    obtain⟨hc,hd⟩:=aW hb;clear hb;simp only[bc,bU]at hc;obtain⟨rfl,rfl⟩:=hc;cases xv with
    |nilS e3=>
     obtain⟨_,he⟩:=aW hd;cases he;obtain⟨a0,rfl⟩:∃a0,x= .slice a0 0 0:=by cases hx;exact⟨_,rfl⟩
     cases hs with
     |fq hd=>rw[ae]at hd;cases hd
     |fk hd=>rw[ae]at hd;cases hd
     |whole hd=>rw[ae]at hd;cases hd
     |iv hd=>rw[ae]at hd;cases hd
     |fA hd hb=>exact⟨_,_,_,_,F9 hu hi _ 0 0 _ ⟨_,_,rfl⟩ (aR _),Le.refl ..,S,.fA hd hb⟩
     |fb hd hb b7 cS hm=>
      rw[ae]at hd;cases hd;exact⟨_,_,_,_,F9 hu hi _ _ _ _ ⟨_,_,rfl⟩ cS,Le.refl ..,S,.fb ae hb b7 cS hm⟩
    |list e3 l=>
     obtain⟨gh,he⟩:=aW hd;simp only[bc,bU]at gh;obtain⟨rfl,oJ⟩:=gh;have oJ:=tF.1 oJ;subst oJ;cases he;obtain⟨a0,c0,rfl⟩:∃a0 c0,x= .slice a0 0 c0:=by
      cases hx with
      |list hp'=>cases hp' with
       |nil=>exact⟨_,_,rfl⟩
       |emp=>exact⟨_,_,rfl⟩
       |list g b c d e=>exact⟨_,_,by rw[←b];rfl⟩
     cases hs with
     |fq hd=>rw[ae]at hd;cases hd
     |fk hd=>rw[ae]at hd;cases hd
     |whole hd=>rw[ae]at hd;cases hd
     |iv hd=>rw[ae]at hd;cases hd
     |fA hd hb=>exact⟨_,_,_,_,F9 hu hi _ 0 0 _ ⟨_,_,rfl⟩ (aR _),Le.refl ..,S,.fA hd hb⟩
     |fb hd hb b7 cS hm=>
      rw[ae]at hd;cases hd;exact⟨_,_,_,_,F9 hu hi _ _ _ _ ⟨_,_,rfl⟩ cS,Le.refl ..,S,.fb ae hb b7 cS hm⟩
    |whole e3 b9=>
     obtain⟨l1,he⟩:=run_get hd;clear hd;cases dW:hp b9 with
     |none=>rw[dW]at he;cases he
     |some dd=>
      rw[dW]at he;cases dd with
      |nest e4 xs rF=>
       obtain⟨hc,hf⟩:=aW he;clear he;simp only[bc,bU,fG,qu,rf]at hc;obtain⟨rfl,rfl,af6,ka,fc⟩:=hc;have bz:id≠b9:=fun h=>by rw[h,nX]at af6;cases af6
       obtain⟨hn,rfl⟩:=pn hf;have hlen:es.length+xs.length≤2^45:=by
        have:(es.length+xs.length)*1≤(es.length+xs.length)*P.bytesOf e:=yM _ zo;simp only[bf]at fc;omega
       obtain⟨b2,J5,gY,rfl⟩:∃b2 J5,β b9=some b2∧x= .slice (some ⟨b2,0,none⟩) xs.length J5:=by
        cases hx with
        |fq hd=>rw[dW]at hd;cases hd
        |fk hd=>rw[dW]at hd;cases hd
        |whole hd=>rw[dW]at hd;cases hd
        |iv hd=>rw[dW]at hd;cases hd
        |fA hd hb=>rw[dW]at hd;cases hd;simp at ka
        |fb hd hb b7 cS hm=>rw[dW]at hd;cases hd;exact⟨_,_,hb,rfl⟩
       obtain⟨C2,_,g1,g2,g3,g4,g5,g6⟩:=W8 S hr dW gY;have xo:∀(j:Nat) v,(C2.toList.take xs.length)[j]? =some v→w.cell? ((⟨b2,0,none⟩:Addr).add j)=some v:=by
        intro j v hj;have eQ:=(cP.1 hj).1;rw[u6]at eQ;rw[mL (by omega)]at hj;rw[rK,cell?_cells g1,cL];simpa using hj
       have xr:(C2.toList.take xs.length).length=xs.length:=by simp;omega
       have vu:∀u∈C2.toList.take xs.length,u.oneCell'=true:=by
        intro u hm;obtain⟨j,hj⟩:=wI hm;have eQ:=(cP.1 hj).1;rw[xr]at eQ;rw[mL eQ]at hj;obtain⟨l,v,_,hv,hh⟩:=g4 j xs[j] (cv eQ);have:v=u:=by rw[u5,hv]at hj;exact fP hj
        subst this;rcases hh with⟨_,a,rfl⟩|⟨b1,cap,_,rfl,_⟩<;>rfl
       obtain⟨k1,S1⟩:=AZ S ae;have apY:ar hp id (some ag.dead) b9=some (.nest e xs rF):=by rw[db _ _ (yN bz)];exact dW
       obtain⟨k2,S2⟩:=AZ S1 apY;have Ds:nb≠id:=fun e=>by rw[e,ae]at hn;cases hn
       have apZ:nb≠b9:=fun e=>by rw[e,dW]at hn;cases hn
       have xt:ar (ar hp id (some ag.dead)) b9 (some ag.dead) nb=none:=by rw[db _ _ apZ,db _ _ Ds];exact hn
       have live:∀{aA blk'},ar (ar hp id (some ag.dead)) b9 (some ag.dead) aA=some blk'→blk'≠ .dead→hp aA=some blk'∧aA≠id∧aA≠b9:=by
        intro aA blk' h hd;by_cases q1:aA=b9
        ·subst q1;rw[cN]at h;cases h;exact absurd rfl hd
        ·rw[db _ _ q1]at h;by_cases q2:aA=id
         ·subst q2;rw[cN]at h;cases h;exact absurd rfl hd
         ·rw[db _ _ q2]at h;exact⟨h,q2,q1⟩
       have Xk:∀{idx bx:Nat} {bl},(idx=id∨idx=b9)→hp idx=some bl→bV P w (β idx) bl bx→∀aA blk',ar (ar hp id (some ag.dead)) b9 (some ag.dead) aA=some blk'→¬bV P w (β aA) blk' bx:=by
        intro idx bx bl hor oO ho aA blk' h hO;obtain⟨q1,q2,q3⟩:=live h hO.alive;have:=S.h.inj aA idx _ _ bx q1 oO hO ho;rcases hor with rfl|rfl
        ·exact q2 this
        ·exact q3 this
       have zp:cQ hp [(nb,.nest e (es++xs) [0,0,0]),(id,.dead),(b9,.dead)]=ar (ar (ar hp id (some ag.dead)) b9 (some ag.dead)) nb (some (.nest e (es++xs) [0,0,0])):=by
        funext k;simp only[cQ];by_cases q0:k=nb
        ·subst q0;rw[cN,cN]
        ·by_cases q1:k=id
         ·subst q1;rw[db _ _ q0,cN,db _ _ q0,db _ _ bz,cN]
         ·by_cases q2:k=b9
          ·subst q2;rw[db _ _ q0,db _ _ q1,cN,db _ _ q0,cN]
          ·rw[db _ _ q0,db _ _ q1,db _ _ q2,db _ _ q0,db _ _ q2,db _ _ q1]
       have nj:bV P w (β b9) (.nest e xs rF) b2:= .root (by simp) gY;have lit:∀i b1 l,At P w b2 e xs [(i,0)] b1 e1 l→b1<w.heap.size∧j9 P w I b1 e1 l∧(M b1∨B≤b1)∧∀aA blk',ar (ar hp id (some ag.dead)) b9 (some ag.dead) aA=some blk'→¬bV P w (β aA) blk' b1:=fun i b1 l ha=>by
        obtain⟨_,q2,q3,q4,q5⟩:=g5 i b1 l ha;exact⟨q2,q3,q4,Xk (.inr rfl) dW q5⟩
       cases hs with
       |fq hd=>rw[ae]at hd;cases hd
       |fk hd=>rw[ae]at hd;cases hd
       |whole hd=>rw[ae]at hd;cases hd
       |iv hd=>rw[ae]at hd;cases hd
       |@fA _ _ _ a0 hd hb=>
        rw[ae]at hd;cases hd;simp only[List.length_nil,cL]at fc hlen;have dV:=af3 (P:=P) w t ty e i z hu hi hz a0 ⟨b2,0,none⟩ xs.length J5 (C2.toList.take xs.length) (by rw[xr,h3,kD]) xo (by omega) (by omega) (by rw[←p7];simp only[bf]at fc;omega);have sM:=grownCap_ge w xs.length 0 e;have vz:grownCap w xs.length 0 e≤maxLen:=grownCap_le_maxLen w xs.length 0 e (by simp only[maxLen];omega);have eM:(w.drew.alloc (.cells ((C2.toList.take xs.length).toArray++Builtin.zeroCells z.cells (grownCap w xs.length 0 e-xs.length)) e)).heap[w.heap.size]? =some (.cells ((C2.toList.take xs.length).toArray++Builtin.zeroCells z.cells (grownCap w xs.length 0 e-xs.length)) e):=heap_alloc_new w.drew (.cells ((C2.toList.take xs.length).toArray++Builtin.zeroCells z.cells (grownCap w xs.length 0 e-xs.length)) e);have Xl:=S2.h.mw;obtain⟨a1,a2⟩:=J4 (w':=w.drew.alloc (.cells ((C2.toList.take xs.length).toArray++Builtin.zeroCells z.cells (grownCap w xs.length 0 e-xs.length)) e)) S2 (nb:=nb) (b:=w.heap.size) (ys:=xs) hr xt eM (by simp;omega)
         (fun b' _ bO=>heap_alloc_old w.drew _ b' bO) (by simp) ⟨rfl,rfl⟩ (.inr S.size) (fun aA blk' h ho=>qt _ (S2.h.lt h ho)) (fun j hj=>qt _ (Xl _ j hj))
         (fun i b1 l=>At P w b2 e xs [(i,0)] b1 e1 l) (fun j y hy=>by
          obtain⟨l,v,q1,q2,q3⟩:=g4 j y hy;have eQ:=(cP.1 hy).1;refine⟨l,v,q1,?_,q3⟩;rw[PR (by simpa using by omega)];simp[eQ,q2])
         (fun j b1 l ha=>⟨IX (lit j b1 l ha).1,lit j b1 l ha⟩) g6
        refine⟨_,_,I,ar β nb (some w.heap.size),dV,?_⟩;rw[zp,List.nil_append];refine⟨(k1.trans k2).trans a1,a2,?_⟩;exact .fb (cN _ _ _) (cN _ _ _) (by rw[nK eM,hk,kD];simp[size_zeroCells,h4];omega) sM vz
       |@fb _ _ _ _ b cap hd hb b7 cS hm=>
        rw[ae]at hd;cases hd;obtain⟨Ca,Tq,f1,f2,f3,f4,f5,f6⟩:=W8 S hr ae hb;rw[nK f1,hk,kD]at b7;have oO:bV P w (β id) (.nest e es vers) b:= .root (by simp) hb;have J2:=S.h.own id _ b ae oO;have iy:∀i b1 l,At P w b e es [(i,0)] b1 e1 l→b1≠b∧b1<w.heap.size∧j9 P w I b1 e1 l∧(M b1∨B≤b1)∧∀aA blk',ar (ar hp id (some ag.dead)) b9 (some ag.dead) aA=some blk'→¬bV P w (β aA) blk' b1:=fun i b1 l ha=>by
         obtain⟨q1,q2,q3,q4,q5⟩:=f5 i b1 l ha;exact⟨q1,q2,q3,q4,Xk (.inl rfl) ae q5⟩
        have ap0:∀i b1 l,At P w b2 e xs [(i,0)] b1 e1 l→b1≠b:=fun i b1 l ha h=>by
         subst h;exact bz (S.h.inj id b9 _ _ _ ae dW oO (g5 i _ l ha).2.2.2.2)
        have Kc:∀i j b1 l m,At P w b e es [(i,0)] b1 e1 l→At P w b2 e xs [(j,0)] b1 e1 m→False:=fun i j b1 l m h1 h2=>bz (S.h.inj id b9 _ _ b1 ae dW (f5 i b1 l h1).2.2.2.2 (g5 j b1 m h2).2.2.2.2)
        let K:Nat→Nat→List V→Prop:=fun i b1 l=>(i<es.length∧At P w b e es [(i,0)] b1 e1 l)∨(es.length≤i∧At P w b2 e xs [(i-es.length,0)] b1 e1 l)
        have xf:∀i j b1 l m,K i b1 l→K j b1 m→i=j:=by
         intro i j b1 l m h1 h2;rcases h1 with⟨_,h1⟩|⟨p1,h1⟩
         ·rcases h2 with⟨_,h2⟩|⟨_,h2⟩
          ·exact f6 _ _ _ _ _ h1 h2
          ·exact(Kc _ _ _ _ _ h1 h2).elim
         ·rcases h2 with⟨_,h2⟩|⟨p2,h2⟩
          ·exact(Kc _ _ _ _ _ h2 h1).elim
          ·have:=g6 _ _ _ _ _ h1 h2;omega
        have fill:∀(C':Array Value),(∀j,j<es.length→C'[j]? =Ca[j]?)→(∀j,j<xs.length→C'[es.length+j]? =C2[j]?)→∀(j:Nat) y,(es++xs)[j]? =some y→∃l v,y= .list e1 l∧C'[j]? =some v∧Dk P w e1 (K j) v l:=by
         intro C' p1 p2 j y hy;by_cases hj:j<es.length
         ·rw[o6 hj]at hy;obtain⟨l,v,q1,q2,q3⟩:=f4 j y hy;refine⟨l,v,q1,(p1 j hj).trans q2,?_⟩;rcases q3 with q3|⟨z1,b1,Xm,z2,z3,z4,z5,z6⟩
          ·exact .inl q3
          ·exact .inr ⟨z1,b1,Xm,z2,z3,z4,z5,.inl ⟨hj,z6⟩⟩
         ·rw[qv (by omega)]at hy;obtain⟨l,v,q1,q2,q3⟩:=g4 _ y hy;have eQ:=(cP.1 hy).1;refine⟨l,v,q1,?_,?_⟩
          ·have:=p2 (j-es.length) eQ;rw[show es.length+(j-es.length)=j by omega]at this;exact this.trans q2
          ·rcases q3 with q3|⟨z1,b1,Xm,z2,z3,z4,z5,z6⟩
           ·exact .inl q3
           ·exact .inr ⟨z1,b1,Xm,z2,z3,z4,z5,.inr ⟨by omega,z6⟩⟩
        by_cases xp:es.length+xs.length≤cap
        ·have Gb:es.length+(C2.toList.take xs.length).length≤Ca.size:=by rw[xr];omega
         have dV:=af4 (P:=P) w t ty e Tq i hu hi b es.length cap Ca f1 ⟨b2,0,none⟩ xs.length J5 (C2.toList.take xs.length) (by rw[xr,h3,kD]) xo vu xp (by rw[h3,kD];exact Gb);rw[h3,kD,xr]at dV;have eM:=setRow_heap w b Ca (Ca.toList.take es.length++C2.toList.take xs.length++Ca.toList.drop (es.length+xs.length)).toArray Tq _ f1;obtain⟨a1,a2⟩:=J4 (w':=w.setRow b (Ca.toList.take es.length++C2.toList.take xs.length++Ca.toList.drop (es.length+xs.length)).toArray) S2 (nb:=nb) (b:=b) (ys:=es++xs) hr xt eM (by simp;omega)
          (fun b' aJ _=>setRow_other w b b' _ aJ) (by simp) ⟨rfl,rfl⟩ J2 (Xk (.inl rfl) ae oO) f3 K
          (fill _ (fun j hj=>by
           rw[tI,kH,o6 (by simp;omega),mL hj,u5]) (fun j hj=>by
           rw[tI,kH,qv (by simp;omega),o6 (by simp;omega),u6,Array.length_toList (xs:=Ca),Nat.min_eq_left (by omega),PS,mL hj,u5]))
          (fun j b1 l hj=>by
           rcases hj with⟨_,hj⟩|⟨_,hj⟩
           ·exact iy _ _ _ hj
           ·exact⟨ap0 _ _ _ hj,lit _ _ _ hj⟩) xf
         refine⟨_,_,I,ar β nb (some b),dV,?_⟩;rw[zp];refine⟨(k1.trans k2).trans a1,a2,?_⟩;have:=ah.fb (P:=P) (w:=w.setRow b (Ca.toList.take es.length++C2.toList.take xs.length++Ca.toList.drop (es.length+xs.length)).toArray) (I:=I) (β:=ar β nb (some b)) (hp:=ar (ar (ar hp id (some ag.dead)) b9 (some ag.dead)) nb (some (.nest e (es++xs) [0,0,0]))) (b:=b) (cap:=cap) (cN _ _ _) (cN _ _ _) (by rw[nK eM,hk,kD];simp;omega) (by rw[kG];exact xp) hm;rw[kG]at this;exact this
        ·have hold:∀(j:Nat) v,(Ca.toList.take es.length)[j]? =some v→w.cell? ((⟨b,0,none⟩:Addr).add j)=some v:=by
          intro j v hj;have eQ:=(cP.1 hj).1;rw[u6]at eQ;rw[mL (by omega)]at hj;rw[rK,cell?_cells f1,cL];simpa using hj
         have dV:=run_append_grow (P:=P) w t ty e i z hu hi hz ⟨b,0,none⟩ es.length cap (Ca.toList.take es.length) (by rw[h3,kD];simp;omega) hold ⟨b2,0,none⟩ xs.length J5 (C2.toList.take xs.length) (by rw[xr,h3,kD]) xo (by omega) (by omega)
          (growslice_fits (by omega) (by rw[←p7];simp only[bf]at fc;omega))
         have sM:=grownCap_ge w (es.length+xs.length) cap e;have vz:grownCap w (es.length+xs.length) cap e≤maxLen:=grownCap_le_maxLen w _ cap e (by simp only[maxLen];omega);have eM:(w.drew.alloc (.cells ((Ca.toList.take es.length).toArray++(C2.toList.take xs.length).toArray++Builtin.zeroCells z.cells (grownCap w (es.length+xs.length) cap e-(es.length+xs.length))) e)).heap[w.heap.size]? =some (.cells ((Ca.toList.take es.length).toArray++(C2.toList.take xs.length).toArray++Builtin.zeroCells z.cells (grownCap w (es.length+xs.length) cap e-(es.length+xs.length))) e):=heap_alloc_new w.drew (.cells ((Ca.toList.take es.length).toArray++(C2.toList.take xs.length).toArray++Builtin.zeroCells z.cells (grownCap w (es.length+xs.length) cap e-(es.length+xs.length))) e);have Xl:=S2.h.mw;obtain⟨a1,a2⟩:=J4 (w':=w.drew.alloc (.cells ((Ca.toList.take es.length).toArray++(C2.toList.take xs.length).toArray++Builtin.zeroCells z.cells (grownCap w (es.length+xs.length) cap e-(es.length+xs.length))) e)) S2 (nb:=nb) (b:=w.heap.size) (ys:=es++xs) hr xt eM (by simp;omega)
          (fun b' _ bO=>heap_alloc_old w.drew _ b' bO) (by simp) ⟨rfl,rfl⟩ (.inr S.size) (fun aA blk' h ho=>qt _ (S2.h.lt h ho)) (fun j hj=>qt _ (Xl _ j hj)) K
          (fill _ (fun j hj=>by
           rw[PR (by simp;omega),PR (by simp;omega),tI,mL hj,u5]) (fun j hj=>by
           rw[PR (by simp;omega),Array.getElem?_append_right (by simp;omega)];simp only[wG,u6,Array.length_toList (xs:=Ca),Nat.min_eq_left f2,PS];rw[tI,mL hj,u5]))
          (fun j b1 l hj=>by
           rcases hj with⟨_,hj⟩|⟨_,hj⟩
           ·obtain⟨_,q⟩:=iy _ _ _ hj;exact⟨IX q.1,q⟩
           ·exact⟨IX (lit _ _ _ hj).1,lit _ _ _ hj⟩) xf
         refine⟨_,_,I,ar β nb (some w.heap.size),dV,?_⟩;rw[zp];refine⟨(k1.trans k2).trans a1,a2,?_⟩;have:=ah.fb (P:=P) (w:=w.drew.alloc (.cells ((Ca.toList.take es.length).toArray++(C2.toList.take xs.length).toArray++Builtin.zeroCells z.cells (grownCap w (es.length+xs.length) cap e-(es.length+xs.length))) e)) (I:=I) (β:=ar β nb (some w.heap.size)) (hp:=ar (ar (ar hp id (some ag.dead)) b9 (some ag.dead)) nb (some (.nest e (es++xs) [0,0,0]))) (b:=w.heap.size) (cap:=grownCap w (es.length+xs.length) cap e) (cN _ _ _) (cN _ _ _) (by rw[nK eM,hk,kD];simp[size_zeroCells,h4];omega) (by rw[kG];exact sM) vz;rw[kG]at this;exact this
      |_=>cases he
    |_=>cases hd
   |_=>cases hb
 |_=>cases ha
theorem af7(S:aK P w I β hp B M w0){t ty e:TypeId}{nb:Nat}{s x:Value}{sv xv:V}{r:R}{rd:List Nat}(hu:P.underlying t=some (.slice e))(hs:ah P w I β hp s sv)(hx:ah P w I β hp x xv)
  (h:(We P nb e sv xv).run C hp=some (r,rd)):eZ P ((Builtin.append_ #[t,t] ty #[s,x]).run P w) w I β hp B M w0 r:=by
 unfold We at h;split at h
 ·rename_i e' id ver i;obtain⟨aD,h1⟩:=aW h;clear h;obtain⟨xs,rM,l0,h2⟩:=QZ S.h.rel aD hx h1;obtain⟨e0,es,vers,l1,ae,k1,k2,k3,h3⟩:=tQ h2;cases hr:rowOf P e0 with
  |none=>simp only[hr]at h3;cases h3
  |some e1=>
  simp only[hr]at h3;obtain⟨hc,h4⟩:=aW h3;simp only[bc,bU]at hc;obtain⟨rfl,rfl⟩:=hc;obtain⟨y,hy,h5⟩:=oK h4;obtain⟨fc,h6⟩:=aW h5;obtain⟨l2,h7⟩:=run_get h6;cases hn:hp nb with
  |some _=>rw[hn]at h7;cases h7
  |none=>
  rw[hn]at h7;obtain⟨lh,rfl⟩:=pn h7;obtain⟨b,q,i0,c,t1,l,cE,hb,ht,hc⟩:=hs.WB ae k1 k2 k3;have:q=[]∧i0=i∧c=0:=by
   have hq:([]:Path)++[(i,0)]=q++[(i0,c)]:=cE;obtain⟨h1,h2⟩:=List.append_inj' hq rfl;simp only[IY,nZ,and_true]at h2;exact⟨h1.symm,h2.1.symm,h2.2.symm⟩
  obtain⟨rfl,rfl,rfl⟩:=this;obtain⟨Xj,dh,ap1,vy,ld⟩:=Ba hr;have oN:bp P e0=[e0]:=by simp[bp,dh]
  have hk:P.cellsOf e0=1:=by rw[←gP ap1,oN];rfl
  obtain⟨b',e',ba,Ca,T,f,x1,m1,m2,m3,m4,m5,m6⟩:=hc;cases m1;rw[hk,kD,Nat.add_zero]at m6;obtain⟨xk,l1,S1,hv⟩:=apz S hr ae hb hy hn;have Dt:=hv _ _ _ _ m2 m6;have bz:nb≠id:=fun h=>by rw[h,ae]at hn;cases hn
  have ap2:nb+1≠id:=fun h=>by rw[h,ae]at lh;cases lh
  generalize hq:ar (ar hp id (some (ag.out e0 es (vers.map (· +1)) i0))) nb (some (.arr e y.toList false))=Xn at l1 S1 Dt;have hq0:Xn nb=some (.arr e y.toList false):=by rw[←hq,cN]
  have J6:Xn (nb+1)=none:=by rw[←hq,db _ _ (Nat.succ_ne_self nb),db _ _ ap2];exact lh
  have ed:((∃a,x= .slice a 0 0)∧xs=[])∨∃a c news,Row P w I e x xs a c news:=rM;have:=af5 (ty:=ty) S1 hu aD Dt hq0 J6 fc (by
   rcases ed with h|⟨a,c,news,h⟩
   ·exact .inl h
   ·exact .inr ⟨a,c,news,h.val,h.len,h.cell,fun i j x t' p1 p2 p3=>(h.el i j x t' p1 p2 p3).imp fun u hu=>⟨hu.1,hu.2.mono l1.fI l1.dF⟩⟩)
  obtain⟨v,w',I',β',a1,a2,a3,a4⟩:=this;refine⟨v,w',I',β',a1,?_⟩;have zp:cQ hp [(nb+1,.arr e (y.toList++xs) false),(nb,.dead),(id,.out e0 es (vers.map (· +1)) i0)]=cQ Xn [(nb+1,.arr e (y.toList++xs) false),(nb,.dead)]:=by
   rw[←hq];funext k;simp only[cQ];by_cases q0:k=nb+1
   ·subst q0;rw[cN,cN]
   ·rw[db _ _ q0,db _ _ q0];by_cases q1:k=nb
    ·subst q1;rw[cN,cN]
    ·rw[db _ _ q1,db _ _ q1,db _ _ q1]
  rw[zp];exact⟨l1.trans a2,a3,a4⟩
 ·exact apU S hu hs hx h
theorem af8(S:aK P w I β hp B M w0){t e e1:TypeId}{nb:Nat}{v:Value}{l:List V}(hu:P.underlying t=some (.slice e))(hr:rowOf P e=some e1)(hn:hp nb=none)(K:Nat→List V→Prop)
  (hv:Dk P w e1 K v l) (hK:∀b1 l,K b1 l→b1<w.heap.size∧j9 P w I b1 e1 l∧(M b1∨B≤b1)∧∀id blk,hp id=some blk→¬bV P w (β id) blk b1):
  (Instr.buildSlice t 1 #[(0,v)]).run P w= .ok (.slice (some ⟨w.heap.size,0,none⟩) 1 1) (w.alloc (.cells #[v] e))∧
  Le P w I β hp (w.alloc (.cells #[v] e)) I (ar β nb (some w.heap.size)) (ar hp nb (some (.nest e [.list e1 l] [0,0,0])))∧aK P (w.alloc (.cells #[v] e)) I (ar β nb (some w.heap.size)) (ar hp nb (some (.nest e [.list e1 l] [0,0,0]))) B M w0∧
  ah P (w.alloc (.cells #[v] e)) I (ar β nb (some w.heap.size)) (ar hp nb (some (.nest e [.list e1 l] [0,0,0]))) (.slice (some ⟨w.heap.size,0,none⟩) 1 1) (.whole e nb):=by
 obtain⟨Xj,dh,aD,vy,ld⟩:=Ba hr;have oN:bp P e=[e]:=by simp[bp,dh]
 have hk:P.cellsOf e=1:=by rw[←gP aD,oN];rfl
 obtain⟨i,z,hi,hz,h3,h4,_⟩:=qI aD;rw[hk]at h3 h4;have tW:v.cells= #[v]:=by rcases hv with⟨_,a,rfl⟩|⟨b1,cap,_,rfl,_⟩<;>rfl
 have dV:=Xd w t e 1 #[(0,v)] #[v] i z hu hi hz (by rw[h3];omega) (by
  rw[h3];simp[Instr.fill,tW];rw[show Array.range 1= #[0]from rfl];simp)
 have eM:(w.alloc (.cells #[v] e)).heap[w.heap.size]? =some (.cells #[v] e):=heap_alloc_new w _;obtain⟨a1,a2⟩:=J4 (w':=w.alloc (.cells #[v] e)) S (nb:=nb) (b:=w.heap.size) (ys:=[.list e1 l]) hr hn eM (by simp)
  (fun b' _ bO=>heap_alloc_old w _ b' bO) (by simp) ⟨rfl,rfl⟩ (.inr S.size) (fun aA blk' h ho=>qt _ (S.h.lt h ho)) (fun j hj=>qt _ (S.h.mw _ j hj))
  (fun i b1 l=>i=0∧K b1 l) (fun j y hy=>by
   cases j with
   |succ j=>simp at hy
   |zero=>
    simp at hy;subst hy;refine⟨l,v,rfl,rfl,?_⟩;rcases hv with h|⟨b1,cap,z1,z2,z3,z4,z5,z6⟩
    ·exact .inl h
    ·exact .inr ⟨b1,cap,z1,z2,z3,z4,z5,rfl,z6⟩)
  (fun j b1 l h=>⟨IX (hK b1 l h.2).1,hK b1 l h.2⟩) (fun i j b1 l m h1 h2=>h1.1.trans h2.1.symm)
 refine⟨dV,a1,a2,?_⟩;exact .fb (es:=[.list e1 l]) (cN _ _ _) (cN _ _ _) (by rw[nK eM,hk];rfl) (aR _) (by simp[maxLen])
theorem ap3(S:aK P w I β hp B M w0){a:Act}{sl:Nat→V}(hs:pW P w I β hp a sl){G:Nat→V}(hg:nh P G w I){t e:TypeId}{len nb:Nat}{ps:Array (Nat×Operand)}{r:R}{rd:List Nat}(hu:P.underlying t=some (.slice e))
  (h:(ae9 P nb e len (ps.toList.map fun p=>(p.1,bu P G e sl p.2))).run C hp=some (r,rd)):
  eZ P ((Instr.buildSlice t len (ps.map fun(i,x)=>(i,a.eval x))).run P w) w I β hp B M w0 r:=by
 obtain⟨hl,ha⟩:=aW h;clear h;rw[bU,dD]at hl;cases hr:rowOf P e with
 |none=>rw[hr]at ha;cases ha
 |some e1=>
 simp only[hr]at ha;obtain⟨Xj,dh,aD,vy,ld⟩:=Ba hr;obtain⟨ps⟩:=ps;simp only at ha hl;cases ps with
 |nil=>
  obtain⟨hn,rfl⟩:=pn ha;simp only[List.length_nil]at hl;subst hl;obtain⟨i,z,hi,hz,h3,h4,_⟩:=qI aD;have dV:=Xd w t e 0 #[] #[] i z hu hi hz (by omega) (by simp[Instr.fill]);have eM:(w.alloc (.cells #[] e)).heap[w.heap.size]? =some (.cells #[] e):=heap_alloc_new w _;obtain⟨a1,a2⟩:=J4 (w':=w.alloc (.cells #[] e)) S (nb:=nb) (b:=w.heap.size) (ys:=[]) hr hn eM (by simp)
   (fun b' _ bO=>heap_alloc_old w _ b' bO) (by simp) ⟨rfl,rfl⟩ (.inr S.size) (fun aA blk' h ho=>qt _ (S.h.lt h ho)) (fun j hj=>qt _ (S.h.mw _ j hj))
   (fun _ _ _=>False) (fun j y hy=>by simp at hy) (fun _ _ _ h=>h.elim) (fun _ _ _ _ _ h=>h.elim)
  exact⟨_,_,I,ar β nb (some w.heap.size),by simpa using dV,a1,a2,.fb (es:=[]) (cN _ _ _) (cN _ _ _) (by rw[nK eM];simp) (aR _) (by simp)⟩
 |cons p ps=>
  cases ps with
  |cons q ps=>
   obtain⟨p1,p2⟩:=p;simp only[nY]at ha;cases p1<;>cases hx:bu P G e sl p2<;>simp only[hx]at ha<;>cases ha
  |nil=>
  obtain⟨p1,p2⟩:=p;simp only[List.length_cons,List.length_nil,cL]at hl;subst hl;have sK:=hs.ev hg e p2;simp only[nY,List.map_nil]at ha;cases p1 with
  |succ n=>cases hx:bu P G e sl p2<;>simp only[hx]at ha<;>cases ha
  |zero=>
  cases hx:bu P G e sl p2 with
  |nilS e2=>
   simp only[hx]at ha;obtain⟨hc,hb⟩:=aW ha;obtain⟨hn,rfl⟩:=pn hb;rw[hx]at sK;obtain⟨a0,ha0⟩:∃a0,a.eval p2= .slice a0 0 0:=by
    generalize a.eval p2=v at sK;cases sK;exact⟨_,rfl⟩
   obtain⟨k1,k2,k3,k4⟩:=af8 S (v:=a.eval p2) (l:=[]) hu hr hn (fun _ _=>False) (.inl ⟨rfl,a0,ha0⟩) (fun _ _ h=>h.elim);exact⟨_,_,I,ar β nb (some w.heap.size),by simpa using k1,k2,k3,k4⟩
  |whole e2 id=>
   simp only[hx]at ha;obtain⟨l0,hb⟩:=run_get ha;clear ha;cases ae:hp id with
   |none=>rw[ae]at hb;cases hb
   |some blk=>
    rw[ae]at hb;cases blk with
    |arr e3 es fz=>
     cases fz with
     |true=>cases hb
     |false=>
      obtain⟨hc,hd⟩:=aW hb;clear hb;simp only[bc,bU]at hc;obtain⟨rfl,rfl⟩:=hc;obtain⟨hn,rfl⟩:=pn hd;have bz:nb≠id:=fun e=>by rw[e,ae]at hn;cases hn
      obtain⟨k1,S1⟩:=AZ S ae;have lh:ar hp id (some ag.dead) nb=none:=by rw[db _ _ bz];exact hn
      have zp:cQ hp [(nb,.nest e [.list e1 es] [0,0,0]),(id,.dead)]=ar (ar hp id (some ag.dead)) nb (some (.nest e [.list e1 es] [0,0,0])):=rfl;rw[hx]at sK;have fin:∀(K:Nat→List V→Prop),Dk P w e1 K (a.eval p2) es→(∀b1 l,K b1 l→b1<w.heap.size∧j9 P w I b1 e1 l∧(M b1∨B≤b1)∧∀aA blk',ar hp id (some ag.dead) aA=some blk'→¬bV P w (β aA) blk' b1)→
        eZ P ((Instr.buildSlice t 1 #[(0,a.eval p2)]).run P w) w I β hp B M w0 ⟨.whole e nb,[(nb,.nest e [.list e1 es] [0,0,0]),(id,.dead)]⟩:=fun K hv hK=>by
       obtain⟨q1,q2,q3,q4⟩:=af8 S1 (v:=a.eval p2) (l:=es) hu hr lh K hv hK;refine⟨_,_,I,ar β nb (some w.heap.size),q1,?_⟩;rw[zp];exact⟨k1.trans q2,q3,q4⟩
      have res:eZ P ((Instr.buildSlice t 1 #[(0,a.eval p2)]).run P w) w I β hp B M w0 ⟨.whole e nb,[(nb,.nest e [.list e1 es] [0,0,0]),(id,.dead)]⟩:=by
       generalize a.eval p2=v at sK fin⊢;cases sK with
       |fq hd=>rw[ae]at hd;cases hd
       |fb hd=>rw[ae]at hd;cases hd
       |fA hd=>rw[ae]at hd;cases hd
       |iv hd=>rw[ae]at hd;cases hd
       |@fk _ _ _ a0 hd hb=>
        rw[ae]at hd;cases hd;exact fin (fun _ _=>False) (.inl ⟨rfl,a0,rfl⟩) (fun _ _ h=>h.elim)
       |@whole _ _ _ _ b cap hd hb b7 cS hm=>
        rw[ae]at hd;cases hd;obtain⟨m1,m2⟩:=W4 S ae hb ld;obtain⟨m3,m4⟩:=m1 _ _ _ _ .here;by_cases h0:0<cap
        ·refine fin (fun b1 l=>b1=b∧l=es) (.inr ⟨b,cap,h0,rfl,b7,cS,hm,rfl,rfl⟩) (fun b1 l h=> ?_);obtain⟨rfl,rfl⟩:=h;refine⟨S.h.lt ae m4,m3,S.h.own id _ _ ae m4,fun aA blk' h' ho=> ?_⟩;by_cases q:aA=id
         ·subst q;rw[cN]at h';cases h';exact absurd rfl ho.alive
         ·rw[db _ _ q]at h';exact q (S.h.inj aA id _ _ _ h' ae ho m4)
        ·have:es=[]:=tF.1 (by omega);subst this;exact fin (fun _ _=>False) (.inl ⟨rfl,some ⟨b,0,none⟩,by rw[show cap=0 by omega];rfl⟩) (fun _ _ h=>h.elim)
      simpa using res
    |_=>cases hb
  |_=>simp only[hx]at ha;cases ha
end
section
variable {P:Program}{w w':World}{I I':Nat→Nat→Prop}{β β':Nat→Option Nat}{hp hp':Nat→Option ag}{C:af}{B:Nat}{M:Nat→Prop}{w0:Start}
theorem ap4(S:aK P w I β hp B M w0){s:TypeId}{f:Nat}{v:Value}{x:V}{r:R}{rd:List Nat}(hv:ah P w I β hp v x)
  (h:(Wi P s f x).run C hp=some (r,rd)):eZ P ((Instr.field s v f).run P w) w I β hp B M w0 r:=by
 unfold Wi Qf at h;split at h
 ·rename_i fs hu;cases hf:fs[f]? with
  |none=>rw[hf]at h;cases h
  |some fd=>
   rw[hf]at h;simp only[FF]at h;obtain⟨ht,h⟩:=aW h;obtain⟨d,xu⟩:=FX ht;obtain⟨i,hi⟩:=A0 xu;have b7:i.size=P.cellsOf fd.type:=by simp[Program.cellsOf,hi]
   cases x with
   |agg xs=>
    obtain⟨cs,rfl,h1,h2⟩:=hv.qE;dsimp only at h;cases ha:cR P fd.type with
    |true=>
     rw[ha]at h;simp only[cond_true]at h;obtain⟨hc,h⟩:=aW h;obtain rfl:=bG h;rw[fG]at hc;refine .same S (v:= .agg (cs.extract fd.offset (fd.offset+P.cellsOf fd.type))) ?_ (.agg (by simp;omega) fun j u y nM hy=> ?_)
     ·simp[Instr.field,run_underlying hu,hf,part,QH xu,ha,asAgg,sizeOf,typeInfo,hi,b7]
     grind
    |false=>
     rw[ha]at h;simp only[cond_false]at h;obtain⟨y,hy,h⟩:=oK h;obtain rfl:=bG h;have bO:fd.offset<cs.size:=by grind
     refine .same S (v:=cs[fd.offset]) ?_ (h2 _ _ _ (oC bO) hy);simp[Instr.field,run_underlying hu,hf,part,QH xu,ha,asAgg,bO]
   |_=>cases h
 ·cases h
theorem ap5(S:aK P w I β hp B M w0){i:Nat}{v:Value}{xs:List V}{r:R}{rd:List Nat}(hv:ah P w I β hp v (.bN xs))
  (h:(Rd.opt xs[i]? fun v=> .ret ⟨v,[]⟩).run C hp=some (r,rd)):eZ P ((Instr.extract v i).run P w) w I β hp B M w0 r:=by
 obtain⟨cs,rfl,h1,h2⟩:=hv.Dc;obtain⟨y,hy,h⟩:=oK h;obtain rfl:=bG h;have bO:i<cs.size:=by grind
 exact .same S (v:=cs[i]) (by simp[Instr.extract,bO]) (h2 _ _ _ (oC bO) hy)
theorem ap6(S:aK P w I β hp B M w0){t:TypeId}{s:ByteArray}{l:List UInt8}{k:IntKind}{i:Int}{r:R}{rd:List Nat}(hu:P.underlying t=some .string)(hs:s.data.toList=l)
  (h:(Rd.opt (bif decide (0≤i)then(l[i.toNat]?).map fun b=>V.int .u8 b.toNat else none) fun v=> .ret ⟨.int .u8 v.toInt,[]⟩).run C hp=some (r,rd)):
  eZ P ((Instr.index t (.string s) (.int k i)).run P w) w I β hp B M w0 r:=by
 obtain⟨v,hv,h⟩:=oK h;obtain rfl:=bG h;cases hc:decide (0≤i)with
 |false=>grind
 |true=>
  rw[hc]at hv;simp only[cond_true]at hv;have h0:0≤i:=by grind
  cases hb:l[i.toNat]? with
  |none=>grind
  |some b=>
   rw[hb]at hv;simp only[Option.map_some,gW]at hv;subst hv;have hsb:s[i.toNat]? =some b:=by
    subst hs;obtain⟨bO,he⟩:=cP.1 hb;have Xo:i.toNat<s.size:=by simpa using bO
    rw[getElem?_pos s i.toNat Xo];congr 1
   refine .same S (v:= .int .u8 b.toNat) ?_ .int;simp[Instr.index,asIntOf,run_underlying hu,h0,hsb]
theorem ap7(S:aK P w I β hp B M w0){t e:TypeId}{n:Nat}{v:Value}{cs:List V}{k:IntKind}{i:Int}{r:R}{rd:List Nat}(hu:P.underlying t=some (.array n e))(hv:ah P w I β hp v (.agg cs))
  (h:(Wj P n e cs i).run C hp=some (r,rd)):eZ P ((Instr.index t v (.int k i)).run P w) w I β hp B M w0 r:=by
 obtain⟨xs,rfl,h1,h2⟩:=hv.qE;unfold Wj at h;obtain⟨hc,h⟩:=aW h;obtain⟨y,hy,h⟩:=oK h;obtain rfl:=bG h;simp only[bc,qu,bU]at hc;obtain⟨c1,c2,c3,c4,c5⟩:=hc;obtain⟨d,xu⟩:=FX c1;obtain⟨j,hi⟩:=A0 xu;have b7:j.size=1:=by rw[←c3];simp[Program.cellsOf,hi]
 unfold idx at hy;cases h0:decide (0≤i)with
 |false=>rw[h0]at hy;cases hy
 |true=>
  rw[h0]at hy;simp only[cond_true]at hy;have h0:0≤i:=AA h0;have bO:i.toNat<cs.length:=(cP.1 hy).1;have af9:i.toNat<xs.size:=by rw[h1];exact bO
  have fB:=jk.1 c5 y (o4 hy);rw[Dd fB];refine .same S (v:=xs[i.toNat]) ?_ (h2 _ _ _ (oC af9) hy);have oM:i<(n:Int):=by omega
  simp[Instr.index,asIntOf,run_underlying hu,h0,oM,part,QH xu,c4,sizeOf,typeInfo,hi,b7,af9]
theorem Xp(S:aK P w I β hp B M w0)(mx:Bool):∀{vs:List Value} {xs:List V} {v:Value} {x:V} {r:R} {rd:List Nat},ah P w I β hp v x→vs.length=xs.length→
  (∀(j:Nat) u y,vs[j]? =some u→xs[j]? =some y→ah P w I β hp u y)→(FG mx x xs).run C hp=some (r,rd)→
  eZ P ((vs.foldlM (if mx then Builtin.max2 else Builtin.min2) v).run P w) w I β hp B M w0 r
 | [],[],v,x,r,rd,hv,_,_,h=>by
  have:r=⟨x,[]⟩:=by
   cases x<;>(simp only[FG]at h;exact(bG h).symm)
  subst this;exact .same S (by simp) hv
 | [],_::_,v,x,r,rd,hv,hl,_,h=>by simp at hl
 |_::_,[],v,x,r,rd,hv,hl,_,h=>by simp at hl
 |u::vs,y::xs,v,x,r,rd,hv,hl,hx,h=>by
  cases x<;>cases y<;>simp only[FG]at h<;>first|(cases h;done)|skip
  rename_i k a k' b;obtain⟨hc,h4⟩:=aW h;clear h;obtain rfl:k=k':=by grind
  have hu:=hx 0 u _ rfl rfl;rw[hv.jP,hu.jP];have ih:=Xp S mx (vs:=vs) (xs:=xs) (v:= .int k (bif mx then(if b>a then b else a)else(if b<a then b else a))) .int (by grind)
   (fun j u y h1 h2=>hx (j+1) u y (by grind) (by grind)) h4
  cases mx with
  |true=>simpa[List.foldlM_cons,Builtin.max2]using ih
  |false=>simpa[List.foldlM_cons,Builtin.min2]using ih
theorem Du{n cap:Nat}{isS:Bool}{lo hi:Option V}{lov hiv:Option Value}{k:Nat→Nat→Rd R}{r:R}{rd:List Nat}(hn:n≤cap)
  (tZ:∀x,lo=some x→∃v,lov=some v∧ah P w I β hp v x) (rN:∀x,hi=some x→∃v,hiv=some v∧ah P w I β hp v x) (xw:lo=none→lov=none) (zq:hi=none→hiv=none)
  (h:(CN n lo hi k).run C hp=some (r,rd)):∃l u,l≤u∧u≤n∧(Instr.sliceBounds isS n cap lov hiv none).run P w= .ok (l,u,cap) w∧(k l u).run C hp=some (r,rd):=by
 have ok:∀(kk:IntKind) (i:Int) (y:Nat) (c:BoundsCode),0≤i→i≤y→(Instr.sliceBound (.int kk i) y c).run P w= .ok i.toNat w:=by
  intro kk i y c h1 h2;simp[Instr.sliceBound,asIntOf,h1,h2]
 unfold CN at h;cases lo with
 |none=>
  rw[xw rfl];cases hi with
  |none=>
   rw[zq rfl];exact⟨0,n,mi _,aR _,by simp[Instr.sliceBounds],h⟩
  |some x=>
   obtain⟨v,rfl,hv⟩:=rN x rfl;cases x<;>simp only at h<;>first|(cases h;done)|skip
   rename_i kk u;obtain⟨hc,h⟩:=aW h;simp only[bc,il]at hc;rw[hv.jP];have:=ok kk u cap (if isS then .sliceAcap else .sliceAlen) hc.1 (by omega);exact⟨0,u.toNat,mi _,by omega,by simp[Instr.sliceBounds,this],h⟩
 |some x=>
  obtain⟨v,rfl,hv⟩:=tZ x rfl;cases hi with
  |none=>
   rw[zq rfl];cases x<;>simp only at h<;>first|(cases h;done)|skip
   rename_i kk l;obtain⟨hc,h⟩:=aW h;simp only[bc,il]at hc;rw[hv.jP];have:=ok kk l n .sliceB hc.1 (by omega);exact⟨l.toNat,n,by omega,aR _,by simp[Instr.sliceBounds,this],h⟩
  |some y=>
   obtain⟨v2,rfl,rG⟩:=rN y rfl;cases x<;>cases y<;>simp only at h<;>first|(cases h;done)|skip
   rename_i kk l kk2 u;obtain⟨hc,h⟩:=aW h;simp only[bc,il]at hc;rw[hv.jP,rG.jP];have h1:=ok kk2 u cap (if isS then .sliceAcap else .sliceAlen) (by omega) (by omega);have h2:=ok kk l u.toNat .sliceB hc.1 (by omega);exact⟨l.toNat,u.toNat,by omega,by omega,by simp[Instr.sliceBounds,h1,h2],h⟩
theorem Xq{a:Option Addr}{t e:TypeId}{i:TypeInfo}(hu:P.underlying t=some (.slice e))(hi:P.info? e=some i){lov hiv:Option Value}
  (hb:(Instr.sliceBounds true 0 0 lov hiv none).run P w= .ok (0,0,0) w):(Instr.sliceAt t (.slice a 0 0) lov hiv none).run P w= .ok (.slice a 0 0) w:=by
 cases a<;>simp[Instr.sliceAt,Instr.slice,run_underlying hu,hb,sizeOf,typeInfo,hi]
theorem aga{t e:TypeId}{i:TypeInfo}{b o len cap l u:Nat}(hu:P.underlying t=some (.slice e))(hi:P.info? e=some i){lov hiv:Option Value}(huc:u≤cap)
  (hb:(Instr.sliceBounds true len cap lov hiv none).run P w= .ok (l,u,cap) w):∃o',(0<u-l→o'=o+l*i.size)∧(Instr.sliceAt t (.slice (some ⟨b,o,none⟩) len cap) lov hiv none).run P w= .ok (.slice (some ⟨b,o',none⟩) (u-l) (cap-l)) w:=by
 by_cases hc:cap=l
 ·subst hc;refine⟨o,fun h=>by omega,?_⟩
  ·simp[Instr.sliceAt,Instr.slice,run_underlying hu,hb,sizeOf,typeInfo,hi]
 ·refine⟨o+l*i.size,fun _=>rfl,?_⟩;simp[Instr.sliceAt,Instr.slice,run_underlying hu,hb,sizeOf,typeInfo,hi,hc,rK]
theorem ap8(s:ByteArray)(l:List UInt8)(h:s.data.toList=l)(a b:Nat):(s.extract a b).data.toList=(l.drop a).take (b-a):=by
 simp_all
theorem ap9(S:aK P w I β hp B M w0){t:TypeId}{v:Value}{x:V}{lo hi:Option V}{lov hiv:Option Value}{r:R}{rd:List Nat}(hv:ah P w I β hp v x)
  (tZ:∀x,lo=some x→∃v,lov=some v∧ah P w I β hp v x) (rN:∀x,hi=some x→∃v,hiv=some v∧ah P w I β hp v x) (xw:lo=none→lov=none) (zq:hi=none→hiv=none)
  (h:(Qm P t x lo hi).run C hp=some (r,rd)):eZ P ((Instr.sliceAt t v lov hiv none).run P w) w I β hp B M w0 r:=by
 unfold Qm at h;cases hu:P.underlying t with
 |none=>rw[hu]at h;cases h
 |some d=>
  rw[hu]at h;cases d<;>(try simp only at h)<;>first|(cases h;done)|skip
  case string=>
   cases x<;>simp only at h<;>first|(cases h;done)|skip
   rename_i l;obtain⟨s,rfl,hs⟩:=hv.tT;have b7:l.length=s.size:=by rw[←hs];simp
   obtain⟨a,u,h1,h2,h3,h4⟩:=Du (isS:=false) (cap:=s.size) (by omega) tZ rN xw zq h;obtain rfl:=bG h4;rw[b7]at h3;refine .same S (v:= .string (s.extract a u)) ?_ (.str (ap8 s l hs a u));simp[Instr.sliceAt,Instr.slice,run_underlying hu,h3]
  case slice e=>
   cases x<;>simp only at h<;>first|(cases h;done)|skip
   case list e' es=>
    obtain⟨hc,h⟩:=aW h;simp only[bc,bU]at hc;obtain⟨iw,aD⟩:=hc;obtain⟨i,z,dO,_,b7,_⟩:=qI aD;cases hv with
    |list hp'=>
     cases hp' with
     |nil=>
      obtain⟨a,u,h1,h2,h3,h4⟩:=Du (n:=0) (isS:=true) (cap:=0) (aR _) tZ rN xw zq h;obtain rfl:=bG h4;obtain rfl:u=0:=by omega
      obtain rfl:a=0:=by omega
      exact .same S (Xq hu dO h3) (by simpa using ah.list oe.nil)
     |@emp ad cap=>
      obtain⟨a,u,h1,h2,h3,h4⟩:=Du (n:=0) (isS:=true) (cap:=cap) (mi _) tZ rN xw zq h;obtain rfl:=bG h4;obtain rfl:u=0:=by omega
      obtain rfl:a=0:=by omega
      refine .same S (v:= .slice (some ad) 0 cap) ?_ (by simpa using ah.list oe.emp);by_cases hc:cap=0
      ·subst hc;simp[Instr.sliceAt,Instr.slice,run_underlying hu,h3,sizeOf,typeInfo,dO]
      ·simp[Instr.sliceAt,Instr.slice,run_underlying hu,h3,sizeOf,typeInfo,dO,hc,Addr.add]
     |@list b o len cap _ g hl cS hI iP hx=>
      obtain⟨a,u,h1,h2,h3,h4⟩:=Du (isS:=true) (cap:=cap) (by omega) tZ rN xw zq h;obtain rfl:=bG h4;rw[hl]at h2 h3;obtain⟨o',w9,dV⟩:=aga (b:=b) (o:=o) hu dO (by omega) h3;have nn:e=e':=iw;refine .same S dV (.list ?_);rw[←nn];rw[←nn]at iP hx hI;have hlen:((es.drop a).take (u-a)).length=u-a:=by simp;omega
      refine .list (fun i j=>g (a+i) j) hlen (by omega) (fun j hj=> ?_) (fun i j hi hj=> ?_) (fun i j y t' hy ht=> ?_)
      ·have ka:0<u-a:=Nat.pos_of_ne_zero fun e=>by grind
       rw[w9 (by omega),b7,Cy];refine hI _ (fY (Nat.add_lt_add_left hj _) ?_);rw[←nW];exact fg _ (by omega)
      all_goals grind
   case whole e' id=>
    obtain⟨l,h⟩:=run_get h;cases ae:hp id with
    |none=>rw[ae]at h;cases h
    |some blk=>
     rw[ae]at h;cases blk<;>simp only at h<;>first|(cases h;done)|skip
     rename_i iq es fz;obtain⟨hc,h9⟩:=aW h;clear h;simp only[bc,bU]at hc;obtain⟨iw,gh,aD⟩:=hc;obtain⟨i,z,dO,_,b7,_⟩:=qI aD;cases hv with
     |fq hd=>grind
     |fb hd=>grind
     |fA hd=>grind
     |iv hd=>grind
     |fk hd hb=>
      rw[ae]at hd;cases hd;obtain⟨a,u,h1,h2,h3,h4⟩:=Du (n:=0) (isS:=true) (cap:=0) (aR _) tZ rN xw zq h9;obtain rfl:=bG h4;obtain rfl:u=0:=by omega
      obtain rfl:a=0:=by omega
      exact .same S (Xq hu dO h3) (.nf ae hb)
     |@whole _ _ ba vd b cap hd hb J7 cS hm=>
      have jl:=hd;rw[ae]at hd;cases hd;obtain⟨a,u,h1,h2,h3,h4⟩:=Du (isS:=true) (cap:=cap) cS tZ rN xw zq h9;obtain rfl:=bG h4;obtain⟨o',w9,dV⟩:=aga (b:=b) (o:=0) hu dO (by omega) h3;have nn:e=e':=iw;exact .same S dV (.sub jl hb (by omega) (by omega) (fun h=>by grind))
theorem aqa(S:aK P w I β hp B M w0){t:TypeId}{v ix:Value}{x y:V}{r:R}{rd:List Nat}(hv:ah P w I β hp v x)(hy:ah P w I β hp ix y)
  (h:(Wk P t x y).run C hp=some (r,rd)):eZ P ((Instr.indexAt t v ix).run P w) w I β hp B M w0 r:=by
 unfold Wk at h;cases hu:P.underlying t with
 |none=>rw[hu]at h;cases h
 |some d=>
  rw[hu]at h;cases y<;>(try (cases d<;>cases h;done))
  rename_i k i;rw[hy.jP];cases d<;>simp only at h<;>first|(cases h;done)|skip
  case slice e=>
   have run:∀(b o len cap:Nat) (ie:TypeInfo),P.info? e=some ie→0≤i→i<(len:Int)→(Instr.indexAt t (.slice (some ⟨b,o,none⟩) len cap) (.int k i)).run P w= .ok (.pointer (some ⟨b,o+i.toNat*ie.size,none⟩)) w:=by
    intro b o len cap ie p6 h0 h1;simp[Instr.indexAt,asIntOf,run_underlying hu,h0,h1,sizeOf,typeInfo,p6,rK]
   cases x<;>simp only at h<;>first|(cases h;done)|skip
   case list e' es=>
    obtain⟨hc,h⟩:=aW h;simp only[bc,bU]at hc;obtain⟨iw,aD⟩:=hc;have nn:e=e':=iw;obtain⟨ie,z,dO,_,b7,_⟩:=qI aD;obtain⟨el,gF,h⟩:=oK h;obtain rfl:=bG h;unfold idx at gF;cases h0:decide (0≤i)with
    |false=>grind
    |true=>
     rw[h0]at gF;simp only[cond_true]at gF;have JY:0≤i:=by grind
     have bO:i.toNat<es.length:=(cP.1 gF).1;cases hv with
     |list hp'=>
      cases hp' with
      |nil=>simp at bO
      |emp=>simp at bO
      |@list b o len cap _ g hl cS hI iP hx=>
       rw[←nn]at iP hx hI;refine .same S (run b o len cap ie dO JY (by omega)) ?_;have gj:=A4 (P:=P) e el;have agb:=gP aD;have agc:(bif cR P e then flat P e else [e])=bp P e:=rfl;rw[agc];have aqb:ie.size=P.cellsOf e:=by omega
       refine .pref (by rw[gj]) (fun j hj=> ?_) (fun j t' y' ht hy'=> ?_)
       ·rw[Cy,aqb];exact hI _ (Ww (by omega) (by omega))
       ·obtain⟨t2,a1,a2⟩:=WK hy';rw[ht]at a1;cases a1;have hj:j<P.cellsOf e:=by grind
        have gQ:=hx i.toNat j el t' gF ht;refine⟨g i.toNat j,?_,?_⟩
        ·grind
        ·rw[a2,gQ.A1];exact gQ
   case whole e' id=>
    obtain⟨l,h⟩:=run_get h;cases ae:hp id with
    |none=>rw[ae]at h;cases h
    |some blk=>
     rw[ae]at h;cases blk<;>simp only at h<;>first|(cases h;done)|skip
     rename_i iq es fz;obtain⟨hc,h⟩:=aW h;simp only[bc,bU]at hc;obtain⟨iw,gh⟩:=hc;obtain⟨jQ,h⟩:=aW h;simp only[bc,il]at jQ;obtain rfl:=bG h;cases hv with
     |fq hd=>grind
     |fb hd=>grind
     |fA hd=>grind
     |iv hd=>grind
     |fk hd hb=>grind
     |@whole _ _ ba vd b cap hd hb J7 cS hm=>
      have jl:=hd;rw[ae]at hd;cases hd;have hr:=S.h.rel id _ ae;cases hr with
      |fT aJ=>grind
      |arr hL aD aJ hh hs hf jm hx=>
       have nn:e=e':=iw;obtain⟨ie,z,dO,_,b7,_⟩:=qI aD;rw[←nn]at dO b7;refine .same S (run b 0 _ cap ie dO jQ.1 jQ.2) ?_;have:=ah.ptr (P:=P) (w:=w) (I:=I) (i:=i.toNat) (c:=0) jl (by simp) hb;simp only[ag.sz]at this;grind
     rename_i iq es vers;obtain⟨hc,h⟩:=aW h;simp only[bc,bU]at hc;obtain⟨iw,gh⟩:=hc;obtain⟨jQ,h⟩:=aW h;simp only[bc,il]at jQ;obtain rfl:=bG h;cases hv with
     |fq hd=>grind
     |fk hd hb=>grind
     |whole hd=>grind
     |fA hd hb=>grind
     |iv hd=>grind
     |@fb _ _ ba vers' b cap hd hb J7 cS hm=>
      have jl:=hd;rw[ae]at hd;cases hd;have aD:=(S.rows jl hb .here).ok;have nn:e=e':=iw;obtain⟨ie,z,dO,_,b7,_⟩:=qI aD;rw[←nn]at dO b7;refine .same S (run b 0 _ cap ie dO jQ.1 jQ.2) ?_;have:=ah.ptr (P:=P) (w:=w) (I:=I) (i:=i.toNat) (c:=0) jl (by simp) hb;simp only[ag.sz]at this;grind
     rename_i iq es vers j0;obtain⟨hc,h⟩:=aW h;simp only[bc,bU]at hc;obtain⟨iw,gh⟩:=hc;obtain⟨jQ,h⟩:=aW h;simp only[bc,il]at jQ;obtain rfl:=bG h;cases hv with
     |fq hd=>grind
     |fk hd hb=>grind
     |whole hd=>grind
     |fA hd hb=>grind
     |fb hd=>grind
     |@iv _ _ j1 ba vers' b cap hd hb J7 cS hm=>
      have jl:=hd;rw[ae]at hd;cases hd;have nn:e=e':=iw;obtain⟨ie,dO⟩:∃ie,P.info? e=some ie:=by
       have hr:=S.h.rel id _ jl;cases hr with
       |out _ lj _ _ _ _ _ _ _ _=>rw[nn];exact A0 lj
      have b7:ie.size=P.cellsOf e:=by simp[Program.cellsOf,dO]
      refine .same S (run b 0 _ cap ie dO jQ.1 jQ.2) ?_;have:=ah.ptr (P:=P) (w:=w) (I:=I) (i:=i.toNat) (c:=0) jl (by simp) hb;simp only[ag.sz]at this;grind
   case row e' id ver path=>
    obtain⟨e0,es,vers,l,ae,h1,h2,h3,h⟩:=tQ h;obtain⟨e2,v',k1,k2,h⟩:=FQ h;obtain⟨hc,h⟩:=aW h;simp only[bc,bU]at hc;obtain⟨iw,gh⟩:=hc;obtain⟨jQ,h⟩:=aW h;simp only[bc,il]at jQ;obtain rfl:=bG h;cases hv with
    |oH hd hp'=>rw[ae]at hd;cases hd;exact absurd hp' (FT h1 h2 h3)
    |@row v _ e0 t1 _ ver b i1 c1 q es l1 vers hd hb hq W0 ht iP=>
     have aqc:=iP;obtain⟨b',e3,ba,Ca,T,f,x,m1,m2,m3,m4,m5,m6⟩:=iP;have FV:=hd;rw[ae]at FV;cases FV;obtain⟨n1,n2⟩:=QF m1 m3 m4 ht m5;rw[n2]at k2;cases k2;simp only[V.toList]at jQ;have hR:=S.rows hd hb m1;obtain⟨C1,_,c2,_,c3,c4⟩:=hR.cells;rw[m2]at c2;cases c2;have hj:c1<P.cellsOf e3:=by
      rw[←gP hR.ok];grind
     obtain⟨v2,d1,d2⟩:=c4 _ _ _ _ m3 m4 hj;rw[m6]at d1;cases d1;rw[m5]at d2;cases d2 with
     |iO a _=>unfold fj at a;grind
     |emp _=>grind
     |@row _ _ b1 cap _ hl _ _ _=>
      have aD:=(S.rows hd hb (m1.snoc m2 m3 m4 ht m5 hl m6)).ok;have nn:e=e':=iw;obtain⟨ie,z,dO,_,b7,_⟩:=qI aD;rw[←nn]at dO b7;refine .same S (run b1 0 _ cap ie dO jQ.1 jQ.2) ?_;have:=ah.ez (P:=P) (I:=I) (i:=i.toNat) (c:=0) hd hb hq W0 ht hl aqc;grind
  case array n e=>
   have run:∀(b o:Nat) (ie:TypeInfo),P.info? e=some ie→0≤i→i<(n:Int)→(Instr.indexAt t (.pointer (some ⟨b,o,none⟩)) (.int k i)).run P w= .ok (.pointer (some ⟨b,o+i.toNat*ie.size,none⟩)) w:=by
    intro b o ie p6 h0 h1;simp[Instr.indexAt,asIntOf,run_underlying hu,h0,h1,sizeOf,typeInfo,p6,rK,Instr.sureAddr]
   cases x<;>simp only at h<;>first|(cases h;done)|skip
   case ptr id j c=>
    obtain⟨jQ,h⟩:=aW h;simp only[bc,il]at jQ;obtain⟨d,xu⟩:=FX jQ.1;obtain⟨ie,p6⟩:=A0 xu;have b7:ie.size=P.cellsOf e:=by simp[Program.cellsOf,p6]
    obtain⟨⟨blk,ae,hd⟩,l,h⟩:=WI h;obtain rfl:=bG h;obtain⟨b,hb,rfl⟩:=hv.oL ae hd;refine .same S (run b _ ie p6 jQ.2.1 jQ.2.2) ?_;rw[b7,Cy];exact .ptr ae hd hb
   case pref ts cs=>
    obtain⟨jQ,h⟩:=aW h;simp only[bc,il]at jQ;obtain rfl:=bG h;obtain⟨b,o,rfl,h1,h2,h3⟩:=hv.JK;obtain⟨d,xu⟩:=FX jQ.1;obtain⟨ie,p6⟩:=A0 xu;have b7:ie.size=P.cellsOf e:=by simp[Program.cellsOf,p6]
    refine .same S (run b _ ie p6 jQ.2.1 jQ.2.2) ?_;rw[b7];exact ah.afq h1 h2 h3
end
end Go.AM
namespace Go.AM
open Go.Maps
section
variable {P:Program}{w w':World}{I I':Nat→Nat→Prop}{β β':Nat→Option Nat}{hp hp':Nat→Option ag}{C:af}{B:Nat}{M:Nat→Prop}{w0:Start}
theorem aqd(S:aK P w I β hp B M w0){nb:Nat}{t:TypeId}{v:Value}{x:V}{lo hi:Option V}{lov hiv:Option Value}{r:R}{rd:List Nat}(hv:ah P w I β hp v x)
  (rN:∀x,hi=some x→∃v,hiv=some v∧ah P w I β hp v x) (xw:lo=none→lov=none)
  (h:(Qn P nb t x lo hi).run C hp=some (r,rd)):eZ P ((Instr.sliceAt t v lov hiv none).run P w) w I β hp B M w0 r:=by
 unfold Qn at h;split at h
 case h_2=>cases h
 rename_i e e' id k hh hu;obtain⟨l,h1⟩:=run_get h;cases ae:hp id with
 |none=>rw[ae]at h1;cases h1
 |some blk=>
  rw[ae]at h1;cases blk<;>simp only at h1<;>first|(cases h1;done)|skip
  rename_i e2 es fz;cases fz with
  |true=>cases h1
  |false=>
  obtain⟨hc,h2⟩:=aW h1;simp only[bc,bU,il]at hc;obtain⟨rfl,rfl,aD,hh0,hhn⟩:=hc;obtain⟨hn,rfl⟩:=pn h2;have tZ:=xw rfl;subst tZ;obtain⟨Dv,rfl,hhv⟩:=rN _ rfl;obtain rfl:=hhv.jP;obtain⟨i,z,dO,_,b7,_⟩:=qI aD;have bz:nb≠id:=fun e=>by grind
  obtain⟨k1,k2⟩:=AZ S ae;have lh:ar hp id (some ag.dead) nb=none:=by rw[db _ _ bz];exact hn
  have bnd:∀cap,es.length≤cap→(Instr.sliceBounds true es.length cap none (some (.int k hh)) none).run P w= .ok (0,hh.toNat,cap) w:=by
   intro cap cS;have hb:(CN es.length none (some (.int k hh)) fun l u=> .aQ (decide (l=0∧u=hh.toNat)) (.ret (⟨.undef,[]⟩:R))).run C hp=some (⟨.undef,[]⟩,[]):=by
    simp[CN,Rd.run,hh0,hhn]
   obtain⟨l,u,b1,b2,b3,b4⟩:=Du (P:=P) (w:=w) (I:=I) (β:=β) (hp:=hp) (n:=es.length) (isS:=true) (cap:=cap) (lov:=none) (hiv:=some (.int k hh)) cS (by simp) (fun x hx=>by grind) (fun _=>rfl) (by simp) hb;obtain⟨b5,_⟩:=aW b4;grind
  cases hv with
  |fq hd=>grind
  |fb hd=>grind
  |fA hd=>grind
  |iv hd=>grind
  |@fk _ _ _ a0 hd hb=>
   rw[ae]at hd;cases hd;have FY:hh=0:=by grind
   subst FY;have aJ:=bnd 0 (aR _);obtain⟨a1,a2⟩:=JI k2 e lh;refine⟨_,w,I,_,Xq hu dO aJ,k1.trans a1,a2,.fk (cN _ _ _) (cN _ _ _)⟩
  |@whole _ _ ba vd b cap hd hb J7 cS hm=>
   have jl:=hd;rw[ae]at hd;cases hd;have hr:=S.h.rel id _ ae;cases hr with
   |fT aJ=>grind
   |@arr _ _ _ _ b' Ca hL _ aJ Q2 J1 hf jm Gc=>
    rw[hb]at aJ;cases aJ;have pZ:(es.take hh.toNat).length=hh.toNat:=by grind
    have dV:(Instr.sliceAt t (.slice (some ⟨b,0,none⟩) es.length cap) none (some (.int k hh)) none).run P w= .ok (.slice (some ⟨b,0,none⟩) hh.toNat cap) w:=by
     have aJ:=bnd cap cS;by_cases Dw:cap=0
     ·subst Dw;simp[Instr.sliceAt,Instr.slice,run_underlying hu,aJ,sizeOf,typeInfo,dO]
     ·simp[Instr.sliceAt,Instr.slice,run_underlying hu,aJ,sizeOf,typeInfo,dO,Dw,rK]
    have vo:∀aA blk',ar hp id (some ag.dead) aA=some blk'→¬bV P w (β aA) blk' b:=by
     intro aA blk' h1 h2;by_cases pk:aA=id
     ·subst pk;rw[cN]at h1;cases h1;exact h2.alive rfl
     ·rw[db _ _ pk]at h1;exact pk (S.h.inj aA id blk' _ b h1 ae h2 (.root (by simp) hb))
    obtain⟨a1,a2⟩:=FW k2 (blk:= .arr e (es.take hh.toNat) false) (w':=w) lh vo (fun _ _=>rfl) (fun _ _ _=>rfl) (aR _) ⟨rfl,rfl⟩ (S.h.AV id _ b ae (by simp) hb)
     (fun b' h=>(fP (h.flat (by simp))).symm) (fun hle=> .arr hL aD rfl Q2 (by rw[pZ];exact lR (fg _ (by omega)) J1) (fun h=>by cases h) (fun _=>jm rfl) fun i j y t' hy ht hj=>by
      grind)
    refine⟨_,w,I,_,dV,k1.trans a1,a2,?_⟩;have:=ah.whole (P:=P) (w:=w) (I:=I) (β:=ar β nb (some b)) (hp:=ar (ar hp id (some .dead)) nb (some (.arr e (es.take hh.toNat) false))) (cap:=cap) (cN _ _ _) (cN _ _ _) J7 (by omega) hm;rw[pZ]at this;exact this
theorem vB{t:TypeId}{x:V}(h:tL P t x=true):
  (∃q n,P.underlying t=some (.int q)∧x= .int q n∧dE q n=true)∨(∃b,P.underlying t=some .bool∧x= .bool b)∨(∃s,P.underlying t=some .string∧x= .str s∧s.length≤maxLen):=by
 unfold tL at h;split at h
 all_goals simp_all
theorem size_data(s:ByteArray):s.data.toList.length=s.size:=by simp
theorem aqe{q:IntKind}{n:Int}(h:dE q n=true):(Lit.int q n).wf=true:=h
theorem Xr{t:TypeId}{x:V}{v:Value}(h:tL P t x=true)(hv:na v x):∃l,mapKey P t v=some l∧∀d,P.keyLits (d+1) t [v]=some [l]:=by
 rcases vB h with⟨q,n,hu,rfl,hn⟩|⟨b,hu,rfl⟩|⟨s,hu,rfl,hs⟩
 ·obtain rfl:v= .int q n:=hv;have hw:=aqe hn;exact⟨.int q n,by simp[mapKey,hu,hw],fun d=>by simp[Program.keyLits,hu,hw]⟩
 ·obtain rfl:v= .bool b:=hv;exact⟨.bool b,by simp[mapKey,hu],fun d=>by simp[Program.keyLits,hu]⟩
 ·obtain⟨s',rfl,lk⟩:=hv;have:s'.size≤maxLen:=by rw[←size_data,lk];exact hs
  exact⟨.string s'.data.toList,by simp[mapKey,hu,this],fun d=>by simp[Program.keyLits,hu,this]⟩
theorem Xs{t:TypeId}:∀{xs:List V} {j:Nat} {x:V},yY P t xs=true→xs[j]? =some x→tL P t x=true
 | [],j,x,_,h=>by simp at h
 |y::ys,0,x,h,hx=>by
  simp only[yY,bc]at h;grind
 |y::ys,j+1,x,h,hx=>by
  simp only[yY,bc]at h;exact Xs (j:=j) h.2 (by grind)
theorem mapM_some{α β:Type}{f:α→Option β}:∀{l:List α},(∀a∈l,∃b,f a=some b)→∃bs,l.mapM f=some bs
 | [],_=>⟨[],rfl⟩
 |a::l,h=>by
  obtain⟨b,hb⟩:=h a (CE ..);obtain⟨bs,ni⟩:=mapM_some (l:=l) fun x hx=>h x (j5 _ hx);simp_all
structure Be(P:Program)(t:TypeId)(fs:Array Field):Prop where
 hu:P.underlying t=some (.struct fs)
 size:P.cellsOf t=fs.size
 at_ : ∀ (i : Nat) f, fs[i]? = some f → f.offset = i ∧ P.cellsOf f.type = 1 ∧ (f.name != "_") = true ∧ P.plainKey f.type = true
 free:(!(P.cutTypes.any (·.2==t))&& !P.stoodInHeld t)=true
 runs:P.runs 0 fs.toList=some fs.size
theorem agd:∀{k:Nat} {l:List Field},Qh P k l=true→(∀(i:Nat) f,l[i]? =some f→f.offset=k+i∧P.cellsOf f.type=1)∧P.runs k l=some (k+l.length)
 |k,[],_=>⟨fun i f h=>by simp at h,by simp[Program.runs]⟩
 |k,f::l,h=>by
  simp only[Qh,bc,bU]at h;obtain⟨a,b⟩:=agd (l:=l) h.2;refine⟨fun i g hg=> ?_,?_⟩
  ·grind
  ·simp only[Program.runs];grind
theorem aqf{t:TypeId}{fs:Array Field}(hu:P.underlying t=some (.struct fs))(h:Wa P t fs=true):Be P t fs:=by
 unfold Wa at h;rw[bc,bc,bc]at h;obtain⟨⟨h1,h2⟩,h3,h4⟩:=h;rw[bU]at h1;obtain⟨a,b⟩:=agd h2;rw[cL,Array.length_toList]at b;refine⟨hu,h1,fun i f hf=> ?_,h4,b⟩;obtain⟨a1,a2⟩:=a i f (by grind);grind
theorem aqg{t:TypeId}(hp:P.plainKey t=true)(m:Nat):P.keyTypeAt (m+1) t=true:=by
 unfold Program.plainKey at hp;unfold Program.keyTypeAt;grind
theorem aqh{t:TypeId}(hp:P.plainKey t=true)(m:Nat):P.tiled (m+1) t=true:=by
 unfold Program.plainKey at hp;unfold Program.tiled;grind
theorem Be.at{t:TypeId}{fs:Array Field}(A:Be P t fs)(m:Nat):P.keyTypeAt (m+2) t=true:=by
 unfold Program.keyTypeAt;rw[A.hu];have hf:=A.free;rw[bc]at hf;simp only;rw[bc,bc];refine⟨⟨Array.all_eq_true.2 fun i hi=> ?_,hf.1⟩,hf.2⟩;obtain⟨_,_,h3,h4⟩:=A.at_ i fs[i] (oC hi);rw[bc];exact⟨h3,aqg h4 m⟩
theorem Be.tiled{t:TypeId}{fs:Array Field}(A:Be P t fs):P.tiled 2 t=true:=by
 unfold Program.tiled;rw[A.hu];simp only;rw[bc];refine⟨by rw[A.runs,A.size];simp,Array.all_eq_true.2 fun i hi=> ?_⟩;exact aqh (A.at_ i fs[i] (oC hi)).2.2.2 0
theorem Be.law{t:TypeId}{fs:Array Field}(A:Be P t fs):WideMaps.KeyLaw P t:=deep_law (m:=2) (by omega) (A.at 0) A.tiled (by rw[A.hu])
theorem Q3:∀{ts:List TypeId} {xs:List V},yZ P ts xs=true→xs.length=ts.length∧∀(j:Nat) t x,ts[j]? =some t→xs[j]? =some x→tL P t x=true
 | [],[],_=>⟨rfl,fun j t x h=>by simp at h⟩
 | [],_::_,h=>by cases h
 |_::_,[],h=>by cases h
 |t::ts,x::xs,h=>by
  simp only[yZ,bc]at h;obtain⟨a,b⟩:=Q3 h.2;grind
inductive Q4(P:Program)(t:TypeId)(x:V):Prop
 |one:tL P t x=true→x.cells=[x]→Q4 P t x
 |arr {n:Nat} {e:TypeId} {xs:List V}:x= .agg xs→WideMaps.ArrKey P t e n→xs.length=n→0<P.types.size→yY P e xs=true→Q4 P t x
 |str {fs:Array Field} {xs:List V}:x= .agg xs→Be P t fs→0<P.types.size→yZ P (fs.toList.map (·.type)) xs=true→Q4 P t x
theorem Dx{t:TypeId}{x:V}(h:tM P t x=true):Q4 P t x:=by
 unfold tM at h;split at h
 ·rename_i n e xs hu;simp only[bc,bU]at h;rw[rf]at h;exact .arr rfl ⟨hu,h.2.2.2.1,h.2.1,h.2.2.1⟩ h.1 h.2.2.2.2.1 h.2.2.2.2.2
 ·rename_i fs xs hu;rw[bc,bc,rf]at h;exact .str rfl (aqf hu h.1) h.2.1 h.2.2
 ·refine .one h ?_;rcases vB h with⟨q,n,hu,rfl,hn⟩|⟨b,hu,rfl⟩|⟨s,hu,rfl,hs⟩<;>rfl
theorem zd.one{x:V}{v:Value}(h:zd v x)(hx:x.cells=[x]):na v x:=by
 cases x<;>first|exact h|skip
 simp only[V.cells]at hx;rename_i cs;have:=congrArg List.length hx;cases cs with
 |nil=>simp at hx
 |cons c cs=>
  simp only[IY]at hx;have:=congrArg SizeOf.sizeOf hx.1;grind
theorem aqi{ts:List TypeId}{xs:List V}{cs:Array Value}(hf:yZ P ts xs=true)(hs:cs.size=xs.length)(hc:∀(j:Nat) (u:Value) (y:V),cs[j]? =some u→xs[j]? =some y→na u y){i:Nat}{t:TypeId}(ht:ts[i]? =some t):
  ∃l,∀d,P.keyLits (d+1) t ((cs.toList.drop i).take 1)=some [l]:=by
 obtain⟨a,b⟩:=Q3 hf;have hi:=(cP.1 ht).1;have lY:i<cs.size:=by omega
 have Dy:i<xs.length:=by omega
 obtain⟨l,_,h2⟩:=Xr (b i t xs[i] ht (cv Dy)) (hc i cs[i] xs[i] (oC lY) (cv Dy));refine⟨l,fun d=> ?_⟩;have e1:(cs.toList.drop i).take 1=[cs[i]]:=by
  rw[CA (by omega)];simp
 grind
theorem Q5{t:TypeId}{x:V}{v:Value}(h:tM P t x=true)(hv:zd v x):∃l,Go.keyOf P t v=some l:=by
 cases Dx h with
 |one h1 hx=>
  obtain⟨l,hl,_⟩:=Xr h1 (hv.one hx);refine⟨l,?_⟩;rcases vB h1 with⟨q,n,hu,_⟩|⟨b,hu,_⟩|⟨s,hu,_⟩<;>simp only[Go.keyOf,hu,hl]
 |@arr n e xs hx A hl hp0 hf=>
  subst hx;obtain⟨cs,rfl,hs,hc⟩:=hv;obtain⟨m,hm⟩:∃m,P.types.size=m+1:=⟨P.types.size-1,by omega⟩
  have Xu:=A.keyType ⟨m,hm⟩;have hlen:cs.toList.length=P.cellsOf t:=by rw[A.size];grind
  have J8:(Value.agg cs).formed P t=true:=by simp[Value.formed,A.hu,A.size,hs,hl]
  have hex:∀i∈List.range n,∃y,P.keyLits (m+1) e (((Value.agg cs).cells.toList.drop (i*P.cellsOf e)).take (P.cellsOf e))=some y:=by
   intro i hi;have hi:=gM.1 hi;rw[A.one];have lY:i<cs.size:=by omega
   have Dy:i<xs.length:=by omega
   obtain⟨l,_,h2⟩:=Xr (Xs hf (cv Dy)) (hc i cs[i] xs[i] (oC lY) (cv Dy));have e1:((Value.agg cs).cells.toList.drop (i*1)).take 1=[cs[i]]:=by
    show(cs.toList.drop (i*1)).take 1=_;rw[kD,CA (by omega)];simp
   simp_all
  obtain⟨bs,ni⟩:=mapM_some hex;refine⟨.string (keyBytes bs.flatten),?_⟩;have aID:(Value.agg cs).cells.toList.length=P.cellsOf t:=hlen;unfold Go.keyOf;rw[A.hu];simp only[Xu,J8,Bool.and_self,rj];unfold Program.keyLits;rw[A.hu,hm];grind
 |@str fs xs hx A hp0 hf=>
  subst hx;obtain⟨cs,rfl,hs,hc⟩:=hv;obtain⟨m,hm⟩:∃m,P.types.size=m+1:=⟨P.types.size-1,by omega⟩
  have Xu:P.keyType t=true:=by
   unfold Program.keyType;rw[hm];exact A.at m
  have sN:=(Q3 hf).1;rw[dD,Array.length_toList]at sN;have J8:(Value.agg cs).formed P t=true:=by simp[Value.formed,A.hu,A.size,hs];exact sN
  have hlen:(Value.agg cs).cells.toList.length=P.cellsOf t:=by
   show cs.toList.length=_;rw[A.size];grind
  have sB : fs.all (·.name != "_") = true := Array.all_eq_true.2 fun i hi => (A.at_ i fs[i] (oC hi)).2.2.1;have hex: ∀f∈fs.toList,∃y,P.keyLits (m+1) f.type (((Value.agg cs).cells.toList.drop f.offset).take (P.cellsOf f.type))=some y:=by
   intro f J8;obtain⟨i,hi⟩:=wI J8;obtain⟨a1,a2,_,_⟩:=A.at_ i f (by grind);rw[a1,a2];obtain⟨l,hl⟩:=aqi hf hs hc (i:=i) (t:=f.type) (by grind);exact⟨_,hl m⟩
  obtain⟨bs,ni⟩:=mapM_some hex;refine⟨.string (keyBytes bs.flatten),?_⟩;unfold Go.keyOf;rw[A.hu];simp only[Xu,J8,Bool.and_self,rj];unfold Program.keyLits;rw[A.hu,hm];grind
theorem Xv{t:TypeId}{x:V}(h:tM P t x=true):Keyed P t:=by
 cases Dx h with
 |one h1 hx=>
  rcases vB h1 with⟨q,n,hu,_⟩|⟨b,hu,_⟩|⟨s,hu,_⟩
  ·exact int_keyed hu
  ·exact bool_keyed hu
  ·exact string_keyed hu
 |arr hx A hl _ hf=>exact Keyed.of_law A.law
 |str hx A _ hf=>exact Keyed.of_law A.law
theorem Xw{t:TypeId}{x y:V}{v u:Value}(h1:tL P t x=true)(h2:tL P t y=true)(hv:na v x)(hu:na u y):wR x y=true↔v=u:=by
 rcases vB h1 with⟨q,n,lj,rfl,_⟩|⟨b,lj,rfl⟩|⟨s,lj,rfl,_⟩<;>
 rcases vB h2 with⟨q',n',sO,rfl,_⟩|⟨b',sO,rfl⟩|⟨s',sO,rfl,_⟩<;>
  (rw[lj]at sO;cases sO)
 ·obtain rfl:v= .int q n:=hv;obtain rfl:u= .int q n':=hu;simp[wR]
 ·obtain rfl:v= .bool b:=hv;obtain rfl:u= .bool b':=hu;simp[wR]
 ·obtain⟨s1,rfl,e1⟩:=hv;obtain⟨s2,rfl,e2⟩:=hu;simp only[wR,beq_iff_eq,Value.string.injEq,←e1,←e2];constructor
  ·intro h;have:=Array.toList_inj.1 h;cases s1;simp_all
  grind
theorem age{t:TypeId}:∀{xs ys:List V} {vs us:List Value},yY P t xs=true→yY P t ys=true→xs.length=ys.length→vs.length=xs.length→us.length=ys.length→
  (∀(j:Nat) v x,vs[j]? =some v→xs[j]? =some x→na v x)→(∀(j:Nat) v x,us[j]? =some v→ys[j]? =some x→na v x)→(qy xs ys=true↔vs=us)
 | [],[],vs,us,_,_,_,h1,h2,_,_=>by
  have e1:=tG (l:=vs) (by omega);have e2:=tG (l:=us) (by omega);simp[qy,e1,e2]
 | [],_::_,_,_,_,_,h,_,_,_,_=>by simp at h
 |_::_,[],_,_,_,_,h,_,_,_,_=>by simp at h
 |x::xs,y::ys,[],us,_,_,_,h,_,_,_=>by simp at h
 |x::xs,y::ys,v::vs,[],_,_,_,_,h,_,_=>by simp at h
 |x::xs,y::ys,v::vs,u::us,f1,f2,h,h1,h2,r1,r2=>by
  simp only[yY,bc]at f1 f2;have a:=Xw f1.1 f2.1 (r1 0 v x rfl rfl) (r2 0 u y rfl rfl);have b:=age (vs:=vs) (us:=us) f1.2 f2.2 (by grind) (by grind) (by grind) (fun j v x hj hx=>r1 (j+1) v x (by grind) (by grind)) (fun j v x hj hx=>r2 (j+1) v x (by grind) (by grind));simp only[qy,bc,a,b,IY]
theorem agf:∀{ts:List TypeId} {xs ys:List V} {vs us:List Value},yZ P ts xs=true→yZ P ts ys=true→vs.length=xs.length→us.length=ys.length→
  (∀(j:Nat) v x,vs[j]? =some v→xs[j]? =some x→na v x)→(∀(j:Nat) v x,us[j]? =some v→ys[j]? =some x→na v x)→(qy xs ys=true↔vs=us)
 | [],[],[],vs,us,_,_,h1,h2,_,_=>by
  have e1:=tG (l:=vs) (by omega);have e2:=tG (l:=us) (by omega);simp[qy,e1,e2]
 | [],_::_,_,_,_,h,_,_,_,_,_=>by cases h
 | [],[],_::_,_,_,_,h,_,_,_,_=>by cases h
 |_::_,[],_,_,_,h,_,_,_,_,_=>by cases h
 |_::_,_::_,[],_,_,_,h,_,_,_,_=>by cases h
 |t::ts,x::xs,y::ys,[],us,_,_,h,_,_,_=>by simp at h
 |t::ts,x::xs,y::ys,v::vs,[],_,_,_,h,_,_=>by simp at h
 |t::ts,x::xs,y::ys,v::vs,u::us,f1,f2,h1,h2,r1,r2=>by
  simp only[yZ,bc]at f1 f2;have a:=Xw f1.1 f2.1 (r1 0 v x rfl rfl) (r2 0 u y rfl rfl);have b:=agf (vs:=vs) (us:=us) f1.2 f2.2 (by grind) (by grind) (fun j v x hj hx=>r1 (j+1) v x (by grind) (by grind)) (fun j v x hj hx=>r2 (j+1) v x (by grind) (by grind));simp only[qy,bc,a,b,IY]
theorem Xx{t:TypeId}{x y:V}{v u:Value}(h1:tM P t x=true)(h2:tM P t y=true)(hv:zd v x)(hu:zd u y):jO x y=true↔v=u:=by
 unfold jO;cases Dx h1 with
 |one f1 c1=>
  cases Dx h2 with
  |one f2 c2=>
   rw[c1,c2];simp only[qy,CF];exact Xw f1 f2 (hv.one c1) (hu.one c2)
  |arr hy A hl _ hf=>
   rcases vB f1 with⟨q,n,lj,_⟩|⟨b,lj,_⟩|⟨s,lj,_⟩<;>(rw[A.hu]at lj;cases lj)
  |str hy A _ hf=>
   rcases vB f1 with⟨q,n,lj,_⟩|⟨b,lj,_⟩|⟨s,lj,_⟩<;>(rw[A.hu]at lj;cases lj)
 |arr hx A hl _ hf=>
  cases Dx h2 with
  |one f2 c2=>
   rcases vB f2 with⟨q,n,lj,_⟩|⟨b,lj,_⟩|⟨s,lj,_⟩<;>(rw[A.hu]at lj;cases lj)
  |arr hy A2 wM _ zr=>
   have nn:=A.hu.symm.trans A2.hu;cases nn;subst hx;subst hy;obtain⟨cs,rfl,s1,r1⟩:=hv;obtain⟨ds,rfl,s2,r2⟩:=hu;have:=age (vs:=cs.toList) (us:=ds.toList) hf zr (by omega) (by omega) (by omega) (fun j v x hj hx=>r1 j v x (by grind) hx) (fun j v x hj hx=>r2 j v x (by grind) hx);simp only[V.cells,this,Value.agg.injEq];simp_all
  |str hy A2 _ zr=>
   have nn:=A.hu.symm.trans A2.hu;cases nn
 |str hx A _ hf=>
  cases Dx h2 with
  |one f2 c2=>
   rcases vB f2 with⟨q,n,lj,_⟩|⟨b,lj,_⟩|⟨s,lj,_⟩<;>(rw[A.hu]at lj;cases lj)
  |arr hy A2 wM _ zr=>
   have nn:=A.hu.symm.trans A2.hu;cases nn
  |str hy A2 _ zr=>
   have nn:=A.hu.symm.trans A2.hu;cases nn;subst hx;subst hy;obtain⟨cs,rfl,s1,r1⟩:=hv;obtain⟨ds,rfl,s2,r2⟩:=hu;have:=agf (vs:=cs.toList) (us:=ds.toList) hf zr (by omega) (by omega) (fun j v x hj hx=>r1 j v x (by grind) hx) (fun j v x hj hx=>r2 j v x (by grind) hx);simp only[V.cells,this,Value.agg.injEq];simp_all
theorem agh{k:V}:∀{es:List V},(∀x∈es,jO k (x.comp 0)=false)→gD k es=false∧(∀z,mq k es z=z)∧∀v,kJ k v es=es++[.bN [k,v]]
 | [],_=>⟨rfl,fun _=>rfl,fun _=>rfl⟩
 |e::es,h=>by
  have h0:=h e (CE ..);obtain⟨a,b,c⟩:=agh (k:=k) (es:=es) fun x hx=>h x (j5 _ hx);exact⟨by simp[gD,h0,a],fun z=>by simp[mq,h0,b],fun v=>by simp[kJ,h0,c]⟩
theorem agi{k:V}:∀{es:List V} {j:Nat} {k' y:V},es[j]? =some (.bN [k',y])→jO k k'=true→(∀i x,i<j→es[i]? =some x→jO k (x.comp 0)=false)→
  gD k es=true∧(∀z,mq k es z=y)∧∀v,kJ k v es=es.set j (.bN [k',v])
 | [],j,k',y,h,_,_=>by simp at h
 |e::es,0,k',y,h,he,_=>by
  simp at h;subst h;exact⟨by simp[gD,V.comp,V.nth,he],fun z=>by simp[mq,V.comp,V.nth,he],fun v=>by simp[kJ,V.comp,V.nth,he]⟩
 |e::es,j+1,k',y,h,he,bO=>by
  have h0:=bO 0 e (by omega) rfl;obtain⟨a,b,c⟩:=agi (k:=k) (es:=es) (j:=j) (by simpa using h) he fun i x hi hx=>bO (i+1) x (by omega) (by grind);exact⟨by simp[gD,h0,a],fun z=>by simp[mq,h0,b],fun v=>by simp[kJ,h0,c]⟩
theorem agj{kt vt:TypeId}{E:Array MapEntry}{es:List V}{k:V}{kv:Value}(hs:E.size=es.length)(hx:∀(j:Nat) (e:MapEntry) (x:V),E[j]? =some e→es[j]? =some x→QA P kt vt e x)
  (hn:E.toList.Pairwise (fun a b=>a.key≠b.key)) (hk:tM P kt k=true) (Q6:zd kv k) (w:World):
  ((Instr.findKey kt kv E.toList).run P w= .ok none w∧(∀e∈E.toList,e.key≠kv)∧gD k es=false∧(∀z,mq k es z=z)∧∀v,kJ k v es=es++[.bN [k,v]])∨
  ∃j e k' y,(Instr.findKey kt kv E.toList).run P w= .ok (some (j,e.val)) w∧E[j]? =some e∧e.key=kv∧es[j]? =some (.bN [k',y])∧tM P kt k'=true∧zd kv k'∧gg P vt y=true∧na e.val y∧
   gD k es=true∧(∀z,mq k es z=y)∧∀v,kJ k v es=es.set j (.bN [k',v]):=by
 have K:=Xv hk;obtain⟨l,hl⟩:=Q5 hk Q6;have ent:∀(j:Nat) x,es[j]? =some x→∃e,E[j]? =some e∧QA P kt vt e x:=by
  intro j x hj;have bO:j<E.size:=by grind
  exact⟨E[j],oC bO,hx j _ x (oC bO) hj⟩
 have keys:∀e∈E.toList,∃l,Go.keyOf P kt e.key=some l:=by
  intro e he;obtain⟨j,hj⟩:=wI he;have ja:E[j]? =some e:=by grind
  have bO:j<es.length:=by grind
  obtain⟨k',y,_,h1,h2,_⟩:=hx j e es[j] ja (cv bO);exact Q5 h1 h2
 rcases K.find w hl E.toList keys with⟨h1,h2⟩|⟨j,e,h1,h2,h3⟩
 ·left;refine⟨h1,h2,agh fun x Q7=> ?_⟩;obtain⟨j,hj⟩:=wI Q7;obtain⟨e,he,k',y,rfl,f1,f2,_⟩:=ent j x hj;cases hq:jO k (V.comp (.bN [k',y]) 0)with
  |false=>rfl
  |true=>
   have:=(Xx hk f1 Q6 f2).1 hq;grind
 ·right;have hE:E[j]? =some e:=by grind
  have bO:j<es.length:=by grind
  obtain⟨k',y,hy,f1,f2,f3,f4⟩:=hx j e es[j] hE (cv bO);have hj:=cv bO;rw[hy]at hj;rw[h3]at f2;refine⟨j,e,k',y,h1,hE,h3,hj,f1,f2,f3,f4,agi hj ((Xx hk f1 Q6 f2).2 rfl) fun i x hi pf=> ?_⟩;obtain⟨e',F8,k2,y2,rfl,g1,g2,_⟩:=ent i x pf;cases hq:jO k (V.comp (.bN [k2,y2]) 0)with
  |false=>rfl
  |true=>
   have:=(Xx hk g1 Q6 g2).1 hq;have i1:i<E.toList.length:=by grind
   have i2:j<E.toList.length:=by simp;omega
   have:=List.pairwise_iff_getElem.1 hn i j i1 i2 hi;grind
theorem ah.Xy{v:Value}{x:V}(h:ah P w I β hp v x){t:TypeId}(hx:tL P t x=true):na v x:=by
 rcases vB hx with⟨q,n,_,rfl,_⟩|⟨b,_,rfl⟩|⟨s,_,rfl,_⟩
 ·exact h.jP
 ·exact h.qD
 ·exact h.tT
theorem ah.agk{v:Value}{x:V}(h:ah P w I β hp v x){t:TypeId}(hx:tM P t x=true):zd v x:=by
 cases Dx hx with
 |one f c=>
  have:=h.Xy f;cases x<;>first|exact this|cases this
 |arr hx A hl _ hf=>
  subst hx;obtain⟨cs,rfl,h1,h2⟩:=h.qE;exact⟨cs,rfl,h1,fun j u y hu hy=>(h2 j u y hu hy).Xy (Xs hf hy)⟩
 |str hx A _ hf=>
  subst hx;obtain⟨cs,rfl,h1,h2⟩:=h.qE;obtain⟨a,b⟩:=Q3 hf;refine⟨cs,rfl,h1,fun j u y hu hy=> ?_⟩;have hj:=(cP.1 hy).1;exact(h2 j u y hu hy).Xy (b j _ y (cv (by omega)) hy)
theorem agl{vt:TypeId}{y:V}(h:mapVal P vt=true)(ht:gg P vt y=true):(∃q n,P.underlying vt=some (.int q)∧y= .int q n)∨∃b,P.underlying vt=some .bool∧y= .bool b:=by
 unfold mapVal at h;unfold gg at ht;grind
theorem na.Xz{vt:TypeId}{v:Value}{y:V}(h:mapVal P vt=true)(ht:gg P vt y=true)(hv:na v y):ah P w I β hp v y:=by
 rcases agl h ht with⟨q,n,_,rfl⟩|⟨b,_,rfl⟩
 ·obtain rfl:v= .int q n:=hv;exact .int
 ·obtain rfl:v= .bool b:=hv;exact .bool
theorem ah.aqj{vt:TypeId}{v:Value}{y:V}(h:mapVal P vt=true)(ht:gg P vt y=true)(hv:ah P w I β hp v y):na v y:=by
 rcases agl h ht with⟨q,n,_,rfl⟩|⟨b,_,rfl⟩
 ·exact hv.jP
 ·exact hv.qD
theorem aqk{vt:TypeId}{z:V}(h:Qi P vt=some z)(w:World):∃v,(zeroValue vt).run P w= .ok v w∧na v z:=by
 unfold Qi at h;cases hi:P.info? vt with
 |none=>grind
 |some i=>
  rw[hi]at h;simp only[Option.bind_some]at h;cases hz:i.zero with
  |none=>grind
  |some v=>
   rw[hz]at h;refine⟨v,by simp[zeroValue,typeInfo,hi,hz],?_⟩;cases v<;>simp only at h<;>first|(cases h;done)|skip
   ·cases h;rfl
   ·cases h;rfl
theorem XA{t kt vt:TypeId}(h:rz P t=some (kt,vt)):P.underlying t=some (.map kt vt):=by
 unfold rz at h;grind
theorem XB(S:aK P w I β hp B M w0){ok:Bool}{v:Value}{x:V}{b:Bool}{r:R}{rd:List Nat}{res:Result Value}(hv:ah P w I β hp v x)
  (hr:res= .ok (if ok then .tuple #[v,.bool b]else v) w) (h:(Qj ok x b).run C hp=some (r,rd)):eZ P res w I β hp B M w0 r:=by
 unfold Qj at h;obtain rfl:=bG h;cases ok with
 |false=>exact .same S hr hv
 |true=>
  refine .same S hr (.bN rfl fun j u y hu hy=> ?_)
  match j,hu,hy with
  |0,hu,hy=>grind
  |1,hu,hy=>simp at hu hy;subst hu;subst hy;exact .bool
  |j+2,hu,hy=>simp at hy
theorem aql(S:aK P w I β hp B M w0){t kt vt:TypeId}(ht:rz P t=some (kt,vt)){m k:Value}{mx kx:V}{ok:Bool}{r:R}{rd:List Nat}(hm:ah P w I β hp m mx)(hk:ah P w I β hp k kx)
  (h:(Wb P t mx kx ok).run C hp=some (r,rd)):eZ P ((Instr.lookup t m k ok).run P w) w I β hp B M w0 r:=by
 unfold Wb at h;rw[ht]at h;simp only at h;cases hz:Qi P vt with
 |none=>rw[hz]at h;cases h
 |some z=>
  rw[hz]at h;obtain⟨hc,h'⟩:=aW h;clear h;have h:=h';clear h';simp only[bc]at hc;obtain⟨xy,J9,Q8⟩:=hc;have hu:=XA ht;have Ge:=hk.agk xy;have K:=Xv xy;obtain⟨l,hl⟩:=Q5 xy Ge;obtain⟨zv,hzr,hzk⟩:=aqk hz w;cases mx<;>simp only at h<;>first|(cases h;done)|skip
  ·rename_i t' id;obtain⟨rL,h'⟩:=aW h;clear h;have h:=h';clear h';rw[bU]at rL;subst rL;obtain⟨l2,h'⟩:=run_get h;clear h;have h:=h';clear h';cases ae:hp id with
   |none=>rw[ae]at h;cases h
   |some blk=>
    rw[ae]at h;cases blk<;>simp only at h<;>first|(cases h;done)|skip
    rename_i t2 es;obtain⟨rL,h'⟩:=aW h;clear h;have h:=h';clear h';rw[bU]at rL;subst rL;cases hm with
    |nJ hd=>grind
    |@dt _ _ b ba hd hb=>
     rw[ae]at hd;cases hd;have hr:=S.h.rel id _ ae;cases hr with
     |@map _ kt' vt' _ b' clock E nM aJ hh hs hI hx hn=>
      rw[hb]at aJ;cases aJ;rw[hu]at nM;cases nM;rcases agj hs hx hn xy Ge w with⟨h1,_,h3,h4,_⟩|⟨j,e,k',y,h1,_,_,_,_,_,h6,h7,h3,h4,_⟩
      ·rw[h3,h4,Dd Q8]at h;refine XB S (na.Xz J9 Q8 hzk) ?_ h;unfold Instr.lookup;simp only[Sem.run_bind,run_underlying hu,Result.andThen_ok,Go.MapKept.run_getObj_map hh,Sem.run_pure,K.check w E.isEmpty hl,h1,hzr]
      ·rw[h3,h4,Dd h6]at h;refine XB S (na.Xz J9 h6 h7) ?_ h;unfold Instr.lookup;simp only[Sem.run_bind,run_underlying hu,Result.andThen_ok,Go.MapKept.run_getObj_map hh,Sem.run_pure,K.check w E.isEmpty hl,h1]
  ·rename_i t';obtain⟨rL,h⟩:=aW h;cases hm;rw[Dd Q8]at h;refine XB S (na.Xz J9 Q8 hzk) ?_ h;have hf:(Instr.findKey kt k []).run P w= .ok none w:=by
    rcases K.find w hl [] (by simp)with⟨h1,_⟩|⟨j,e,_,h2,_⟩
    all_goals grind
   unfold Instr.lookup;simp[run_underlying hu,K.check w true hl,hf,hzr]
theorem aqm(S:aK P w I β hp B M w0){t:TypeId}{nb:Nat}{r:R}{rd:List Nat}(h:(Rd.aQ (rz P t).isSome (mr nb (.map t []) (.dt t nb) [])).run C hp=some (r,rd)):
  eZ P ((Instr.makeMap t none).run P w) w I β hp B M w0 r:=by
 obtain⟨ht,h⟩:=aW h;obtain⟨hn,rfl⟩:=pn h;obtain⟨⟨kt,vt⟩,ht⟩:=PQ.1 ht;have hu:=XA ht;have dU:∀j,¬I w.heap.size j:=fun j h=>qt _ (S.h.mw _ j h);have eM:(w.alloc (.map #[] 0)).heap[w.heap.size]? =some (.map #[] 0):=heap_alloc_new w _;obtain⟨a1,a2⟩:=FW S (w':=w.alloc (.map #[] 0)) (blk:= .map t []) (b:=w.heap.size) hn (fun aA blk' h ho=>qt _ (S.h.lt h ho)) (fun j h=>absurd h (dU j))
  (fun b' _ bO=>heap_alloc_old w _ b' bO) (by simp) ⟨rfl,rfl⟩ (.inr S.size) (fun b' h=>(fP (h.flat (by simp))).symm)
  (fun _=> .map hu rfl eM rfl dU (fun j e x he _=>by simp at he) (by simp))
 exact⟨_,_,_,_,Go.RowKit.run_makeMap t w,a1,a2,.dt (cN _ _ _) (cN _ _ _)⟩
theorem agm(S:aK P w I β hp B M w0){t kt vt:TypeId}(ht:rz P t=some (kt,vt)){m k v:Value}{mx kx vx:V}{r:R}{rd:List Nat}(hm:ah P w I β hp m mx)(hk:ah P w I β hp k kx)(hv:ah P w I β hp v vx)
  (h:(Qk P t mx kx vx).run C hp=some (r,rd)):vp P ((Instr.mapUpdate t m k v).run P w) w I β hp B M w0 r:=by
 unfold Qk at h;rw[ht]at h;obtain⟨hc,h'⟩:=aW h;clear h;have h:=h';clear h';simp only[bc]at hc;obtain⟨xy,J9,Ka⟩:=hc;have hu:=XA ht;have Ge:=hk.agk xy;have sK:=ah.aqj J9 Ka hv;have K:=Xv xy;obtain⟨l,hl⟩:=Q5 xy Ge;cases mx<;>simp only at h<;>first|(cases h;done)|skip
 rename_i t' id;obtain⟨rL,h'⟩:=aW h;clear h;have h:=h';clear h';rw[bU]at rL;subst rL;obtain⟨l2,h'⟩:=run_get h;clear h;have h:=h';clear h';cases ae:hp id with
 |none=>rw[ae]at h;cases h
 |some blk=>
  rw[ae]at h;cases blk<;>simp only at h<;>first|(cases h;done)|skip
  rename_i t2 es;obtain⟨rL,h'⟩:=aW h;clear h;have h:=h';clear h';rw[bU]at rL;subst rL;obtain rfl:=bG h;cases hm with
  |nJ hd=>grind
  |@dt _ _ b ba hd hb=>
   rw[ae]at hd;cases hd;have hr:=S.h.rel id _ ae;cases hr with
   |@map _ kt' vt' _ b' clock E nM aJ hh hs hI hx hn=>
    rw[hb]at aJ;cases aJ;rw[hu]at nM;cases nM;have bO:b<w.heap.size:=(AD.1 hh).1;have fin:∀(E':Array MapEntry) (Kb:Nat),(Instr.mapUpdate t (.map (some b)) k v).run P w= .ok () {w with heap:=w.heap.setIfInBounds b (.map E' Kb)}→E'.size=(kJ kx vx es).length→
      (∀(j:Nat) (e:MapEntry) (x:V),E'[j]? =some e→(kJ kx vx es)[j]? =some x→QA P kt vt e x)→E'.toList.Pairwise (fun a b=>a.key≠b.key)→
      vp P ((Instr.mapUpdate t (.map (some b)) k v).run P w) w I β hp B M w0 ⟨.undef,[(id,.map t (kJ kx vx es))]⟩:=by
     intro E' Kb dV lk eo XC;have eM:({w with heap:=w.heap.setIfInBounds b (.map E' Kb)}:World).heap[b]? =some (.map E' Kb):=by simp[bO]
     obtain⟨a1,a2⟩:=JJ S (w':={w with heap:=w.heap.setIfInBounds b (.map E' Kb)}) (blk':= .map t (kJ kx vx es)) ae (by simp) rfl hb hI (by simp)
      (fun b' aJ=>by grind) (by simp only[bsize,eM,hh]) (by simp) ⟨rfl,rfl⟩ (fun _=> .map hu rfl eM lk hI eo XC)
     exact⟨_,I,β,dV,a1,a2,rfl⟩
    rcases agj hs hx hn xy Ge w with⟨h1,h2,_,_,h5⟩|⟨j,e,k',y,h1,hE,hek,hes,aqn,aqo,_,_,_,_,h5⟩
    ·have e5:=h5 vx;refine fin (E.push {key:=k,val:=v,born:=clock}) (clock+1) ?_ (by grind) (fun j e x he qG=> ?_) ?_
     ·unfold Instr.mapUpdate;simp only[Sem.run_bind,run_underlying hu,Result.andThen_ok,Go.MapKept.run_getObj_map hh,K.check w false hl,h1,Go.MapKept.run_setObj_map _ hh]
     ·rw[e5]at qG;rw[Array.getElem?_push]at he;split at he
      ·rename_i hj;rw[qv (by omega),hj,hs,Nat.sub_self]at qG;simp at he qG;subst he;subst qG;exact⟨kx,vx,rfl,xy,Ge,Ka,sK⟩
      grind
     grind
    ·have e5:=h5 vx;have hj:j<E.size:=(AD.1 hE).1;refine fin (E.modify j fun e=>{e with key:=k,val:=v}) clock ?_ (by grind) (fun i e' x he pf=> ?_) ?_
     ·have fB:=K.stays w hl;unfold Instr.mapUpdate;simp only[Sem.run_bind,run_underlying hu,Result.andThen_ok,Go.MapKept.run_getObj_map hh,K.check w false hl,h1];simp only[hE,Option.map_some,Option.getD_some,hek,fB,Result.andThen_ok,Go.MapKept.run_setObj_map _ hh]
     ·rw[e5]at pf;rw[PT]at he;rw[IU]at pf;split at he
      ·rename_i Dz;subst Dz;rw[aP rfl,gC]at pf;rw[hE]at he;simp at he pf;subst he;subst pf;exact⟨k',vx,rfl,aqn,aqo,Ka,sK⟩
      grind
     ·have Bf:∀i (h1:i<(E.modify j fun e=>{e with key:=k,val:=v}).toList.length) (h2:i<E.toList.length),((E.modify j fun e=>{e with key:=k,val:=v}).toList[i]).key=(E.toList[i]).key:=by
       grind
      rw[List.pairwise_iff_getElem]at hn⊢;grind
theorem aqp(S:aK P w I β hp B M w0){t ty kt vt:TypeId}{v:Value}{x:V}{r:R}{rd:List Nat}(hu:P.underlying t=some (.map kt vt))(hv:ah P w I β hp v x)
  (h:(Ql x).run C hp=some (r,rd)):eZ P ((Builtin.len_ #[t] ty #[v]).run P w) w I β hp B M w0 r:=by
 unfold Ql at h;cases x<;>simp only at h<;>first|(cases h;done)|skip
 ·rename_i t' id;obtain⟨l2,h'⟩:=run_get h;clear h;have h:=h';clear h';cases ae:hp id with
  |none=>rw[ae]at h;cases h
  |some blk=>
   rw[ae]at h;cases blk<;>simp only at h<;>first|(cases h;done)|skip
   rename_i t2 es;obtain rfl:=bG h;cases hv with
   |nJ hd=>grind
   |@dt _ _ b ba hd hb=>
    rw[ae]at hd;cases hd;have hr:=S.h.rel id _ ae;cases hr with
    |@map _ kt' vt' _ b' clock E nM aJ hh hs hI hx hn=>
     rw[hb]at aJ;cases aJ;refine .same S (v:= .int .i64 E.size) (by simp[Builtin.len_,run_underlying hu,Go.MapKept.run_getObj_map hh,goInt]) ?_;rw[hs];exact .int
 ·obtain rfl:=bG h;cases hv;exact .same S (v:= .int .i64 0) (by simp[Builtin.len_,run_underlying hu,goInt]) .int
theorem ah.XD{v:Value}{t:TypeId}(h:ah P w I β hp v (.fZ t)):v= .map none:=by cases h;rfl
theorem ah.aqq{v:Value}{t t':TypeId}{id:Nat}{es:List V}(h:ah P w I β hp v (.dt t id))(ae:hp id=some (.map t' es)):∃b,v= .map (some b):=by
 cases h with
 |nJ h=>grind
 |dt h hb=>grind
theorem agn(S:aK P w I β hp B M w0){op:BinOp}{t:TypeId}{a:Option Nat}{r:R}{rd:List Nat}(x y:Operand)
  (h:(Qe P op t a.isNone).run C hp=some (r,rd)):eZ P ((do eqGuard op t x y (.map a) (.map none);binOp op t (.map a) (.map none)).run P w) w I β hp B M w0 r:=by
 unfold Qe at h;split at h
 case h_2=>cases h
 rename_i kt vt hu;have he:(Op.equal t (.map a) (.map none)).run P w= .ok a.isNone w:=by
  show(Op.equalIn (9999+1) t (.map a) (.map none)).run P w=_;rw[Op.equalIn];cases a<;>simp[Sem.run_bind,run_underlying hu,Result.andThen_ok,Sem.run_pure]
 cases op<;>simp only at h<;>first|(cases h;done)|skip
 ·obtain rfl:=bG h;exact .same S (by simp[eqGuard,binOp,he]) .bool
 ·obtain rfl:=bG h;exact .same S (by simp[eqGuard,binOp,he]) .bool
end
end Go.AM
namespace Go.AM
section
variable {P:Program}{w w':World}{I I':Nat→Nat→Prop}{β β':Nat→Option Nat}{hp hp':Nat→Option ag}{C:af}{B:Nat}{M:Nat→Prop}{w0:Start}
theorem aqr{e:TypeId}(he:P.underlying e=some (.int .u8))(hc:P.cellsOf e=1)(s:ByteArray):∀(i j:Nat) (x:V) (t':TypeId),(s.data.toList.map Js)[i]? =some x→(bp P e)[j]? =some t'→j<P.cellsOf e→
  ∃u,(Lib.strCells s)[i*P.cellsOf e+j]? =some u∧Pure P w I t' u (cW P e x j):=by
 intro i j x t' hx ht hj;have uc:cR P e=false:=by simp[cR,he]
 obtain rfl:j=0:=by omega
 simp only[bp,uc,cond_false,List.getElem?_cons_zero,gW]at ht;subst ht;rw[mY]at hx;cases hb:s.data.toList[i]? with
 |none=>grind
 |some b=>
  rw[hb]at hx;cases hx;refine⟨.int .u8 b.toNat,?_,?_⟩
  ·rw[hc,kD,Nat.add_zero];simp only[Lib.strCells,mY,hb,Option.map_some]
  ·simp only[cW,uc,cond_false];exact .int he
theorem aqs(w:World)(t u ty e T:TypeId)(i:TypeInfo)(ht:P.underlying t=some (.slice e))(hu:P.underlying u=some .string)(hi:P.info? e=some i)(gE:i.size=1)
  (g qJ Dq:Nat) (cur:Array Value) (hg:w.heap[g]? =some (.cells cur T (0,0))) (s:ByteArray)
  (xp:qJ+s.size≤Dq) (Gb:qJ+s.size≤cur.size):
  (Builtin.append_ #[t,u] ty #[.slice (some ⟨g,0,none⟩) qJ Dq,.string s]).run P w=
   .ok (.slice (some ⟨g,0,none⟩) (qJ+s.size) Dq) (w.setRow g (cur.toList.take qJ++Lib.strCells s++cur.toList.drop (qJ+s.size)).toArray):=by
 have hf:=Lib.run_firstCells_string (P:=P) w 1 s;have fB:=run_storeCells_at P g qJ T (Lib.strCells s) 0 cur w hg (by simpa[Lib.strCells_length]using Gb) (Lib.strCells_oneCell s);simp only[Nat.add_zero,Lib.strCells_length]at fB;simp[Builtin.append_,run_underlying ht,run_underlying hu,sizeOf,typeInfo,hi,gE,Builtin.lenOf,xp,hf,Addr.add_lit,fB]
theorem aqt(w:World)(t u ty e:TypeId)(i:TypeInfo)(z:Value)(ht:P.underlying t=some (.slice e))(hu:P.underlying u=some .string)(hi:P.info? e=some i)(hz:i.zero=some z)
  (s:ByteArray) (h0:0<s.size) (J0:(s.size:Int)≤9223372036854775807) (Q1:s.size*i.bytes≤281474976710656) (a0:Option Addr):
  (Builtin.append_ #[t,u] ty #[.slice a0 0 0,.string s]).run P w=
   .ok (.slice (some ⟨w.heap.size,0,none⟩) s.size (grownCap w s.size 0 e))
    (w.drew.alloc (.cells (s.data.map (fun b=>Value.int .u8 b.toNat)++Builtin.zeroCells z.cells (grownCap w s.size 0 e-s.size)) e)):=by
 cases a0 with
 |none=>exact run_append_nil_string w t u ty e i z ht hu hi hz s h0 J0 Q1
 |some b=>
  rw[←run_append_nil_string w t u ty e i z ht hu hi hz s h0 J0 Q1];have hn:s.size≠0:=by omega
  have XE:¬(9223372036854775807<(s.size:Int)):=by omega
  have aqu:¬(281474976710656<Builtin.nextslicecap s.size 0*i.bytes):=by rw[nextslicecap_zero h0];omega
  simp[Builtin.append_,run_underlying ht,run_underlying hu,sizeOf,typeInfo,zeroValue,hi,hz,Builtin.lenOf,Builtin.firstCells,hn,XE,aqu,Question.forced,newRow,grownCap,loadCells,loadCellsFrom]
theorem ago(S:aK P w I β hp B M w0){t u ty e:TypeId}{nb:Nat}{fz:Bool}{x:ByteArray}{xs:List V}{i:TypeInfo}{z:Value}(hu:P.underlying t=some (.slice e))(vC:P.underlying u=some .string)(aD:dZ P e=true)(hn:hp nb=none)
 (hi:P.info? e=some i) (hz:i.zero=some z) (h3:i.size=P.cellsOf e) (h4:z.cells.size=P.cellsOf e) (Kd:i.size=1) (p7:P.bytesOf e=i.bytes) (fc:xs.length*P.bytesOf e≤bf) (sN:xs.length=x.size) (xr:(Lib.strCells x).length=x.size)
 (gF:∀(i j:Nat) (y:V) (t':TypeId),xs[i]? =some y→(bp P e)[j]? =some t'→j<P.cellsOf e→∃u,(Lib.strCells x)[i*P.cellsOf e+j]? =some u∧Pure P w I t' u (cW P e y j)):
 ∀a0,∃v w' β',(Builtin.append_ #[t,u] ty #[.slice a0 0 0,.string x]).run P w= .ok v w'∧Le P w I β hp w' I β' (ar hp nb (some (.arr e xs fz)))∧aK P w' I β' (ar hp nb (some (.arr e xs fz))) B M w0∧
  ah P w' I β' (ar hp nb (some (.arr e xs fz))) v (.whole e nb):=by
 intro a0;have zo:=C4 aD;have hlen:xs.length≤2^45:=by
  have:xs.length*1≤xs.length*P.bytesOf e:=yM _ zo;simp only[bf]at fc;omega
 by_cases h0:x.size=0
 ·have nk:xs=[]:=tG (by omega);subst nk;obtain⟨a1,a2⟩:=JI S e hn;have hf:=Lib.run_firstCells_string (P:=P) w 1 x;rw[h0]at hf;have kP:Lib.strCells x=[]:=tG (by omega);exact⟨.slice a0 0 0,_,_,by cases a0<;>simp[storeCells,kP,Builtin.append_,run_underlying hu,run_underlying vC,sizeOf,typeInfo,hi,Kd,Builtin.lenOf,h0,hf],a1,a2,.fk (cN _ _ _) (cN _ _ _)⟩
 ·have dV:=aqt (P:=P) w t u ty e i z hu vC hi hz x (by omega) (by omega) (by rw[←p7,←sN];simp only[bf]at fc;omega) a0;have e1:(x.data.map fun b=>Value.int .u8 b.toNat)=(Lib.strCells x).toArray:=by
   apply Array.ext';simp[Lib.strCells]
  rw[e1,←sN]at dV;have sM:=grownCap_ge w xs.length 0 e;have vz:grownCap w xs.length 0 e≤maxLen:=grownCap_le_maxLen w xs.length 0 e (by simp only[maxLen];omega);obtain⟨n1,n2,n3⟩:=F7 S.drew (nb:=nb) (cap:=grownCap w xs.length 0 e) (es:=xs) (C0:=(Lib.strCells x).toArray++Builtin.zeroCells z.cells (grownCap w xs.length 0 e-xs.length)) aD hn
   (by
    have:(Lib.strCells x).length=xs.length*P.cellsOf e:=by grind
    simp only[PO,wG,size_zeroCells,h4,this,←nW];grind) sM vz
   (fun i' j y t' hy ht hj=>by
    obtain⟨u,nM,hp⟩:=gF i' j y t' hy ht hj;have bO:=(cP.1 nM).1;refine⟨u,?_,Pure.drew hp⟩;grind)
  exact⟨_,_,_,dV,(Le.drew w I β hp).trans n1,n2,n3⟩
theorem aqv(S:aK P w I β hp B M w0){t u ty e:TypeId}{nb:Nat}{s:Value}{sv:V}{x:ByteArray}{r:R}{rd:List Nat}(hu:P.underlying t=some (.slice e))(vC:P.underlying u=some .string)(he:P.underlying e=some (.int .u8))(hs:ah P w I β hp s sv)
  (h:(FE P nb e sv (.list e (x.data.toList.map Js))).run C hp=some (r,rd)):eZ P ((Builtin.append_ #[t,u] ty #[s,.string x]).run P w) w I β hp B M w0 r:=by
 unfold FE at h;obtain⟨aD,h⟩:=aW h;simp only[AK]at h;obtain⟨_,h⟩:=aW h;have uc:cR P e=false:=by simp[cR,he]
 have iw:P.cellsOf e=1:=by rw[←(pY aD).1,JF uc];rfl
 obtain⟨i,z,hi,hz,h3,h4,_⟩:=qI aD;have Kd:i.size=1:=by omega
 have zo:=C4 aD;have p7:P.bytesOf e=i.bytes:=by simp[Program.bytesOf,hi]
 have Q9:=aqr (P:=P) (w:=w) (I:=I) he iw x;have sN:(x.data.toList.map Js).length=x.size:=by simp
 have xr:(Lib.strCells x).length=x.size:=Lib.strCells_length x;have h1:=Lib.strCells_oneCell x;generalize nk:x.data.toList.map Js=xs at*
 cases sv with
 |nilS e'=>
  obtain⟨hc,h⟩:=aW h;simp only[bc,bU,fG]at hc;obtain⟨hn,rfl⟩:=pn h;obtain⟨a0,rfl⟩:∃a0,s= .slice a0 0 0:=by cases hs;grind
  obtain⟨v,w',β',a1,a2,a3,a4⟩:=ago S hu vC aD hn hi hz h3 h4 Kd p7 hc.2 sN xr Q9 _;exact⟨v,w',I,β',a1,a2,a3,a4⟩
 |whole e' id=>
  obtain⟨l,h⟩:=run_get h;cases ae:hp id with
  |none=>rw[ae]at h;cases h
  |some blk=>
   rw[ae]at h;cases blk with
   |dead=>cases h
   |var _=>cases h
   |nest _ _ _=>cases h
   |map _ _=>cases h
   |out _ _ _ _=>cases h
   |arr iq es fz=>
    obtain⟨hc,h⟩:=aW h;obtain⟨hn,rfl⟩:=pn h;simp only[bc,bU,fG]at hc;obtain⟨Xh,Xi,fc⟩:=hc;subst Xh;subst Xi;have bz:nb≠id:=fun e=>by grind
    obtain⟨k1,k2⟩:=AZ S ae;have lh:ar hp id (some ag.dead) nb=none:=by rw[db _ _ bz];exact hn
    cases hs with
    |fq hd=>grind
    |fb hd=>grind
    |fA hd=>grind
    |iv hd=>grind
    |fk hd hb=>
     rw[ae]at hd;cases hd;simp only[List.length_nil,cL]at fc;obtain⟨v,w',β',a1,a2,a3,a4⟩:=ago k2 hu vC aD lh hi hz h3 h4 Kd p7 fc sN xr Q9 _;exact⟨v,w',I,β',a1,k1.trans a2,a3,a4⟩
    |@whole _ _ ba vd b cap hd hb b7 cS hm=>
     rw[ae]at hd;cases hd;have hr:=S.h.rel id _ ae;cases hr with
     |fT aJ=>grind
     |@arr _ T0 _ _ b' Ca hL _ aJ hh J1 hf jm Gc=>
      rw[hb]at aJ;cases aJ;have hlen:es.length+xs.length≤2^45:=by
       have:(es.length+xs.length)*1≤(es.length+xs.length)*P.bytesOf e:=yM _ zo;simp only[bf]at fc;omega
      rw[nK hh]at b7;have vo:∀aA blk',ar hp id (some ag.dead) aA=some blk'→¬bV P w (β aA) blk' b:=by
       intro aA blk' h1 h2;by_cases pk:aA=id
       ·subst pk;rw[cN]at h1;cases h1;exact h2.alive rfl
       ·rw[db _ _ pk]at h1;exact pk (S.h.inj aA id blk' _ b h1 ae h2 (.root (by simp) hb))
      have J2:=S.h.AV id _ b ae (by simp) hb;have qH:es.length*P.cellsOf e≤Ca.toList.length:=by omega
      have aqw:(Lib.strCells x).length=xs.length*P.cellsOf e:=by grind
      by_cases xp:es.length+xs.length≤cap
      ·have Gb:es.length*P.cellsOf e+(Lib.strCells x).length≤Ca.size:=by grind
       have dV:=aqs (P:=P) w t u ty e T0 i hu vC hi Kd b es.length cap Ca hh x (by omega) (by grind);have gF:=Q0 (P:=P) (w:=w) (I:=I) (n:=es.length) (c:=Ca.toList) rfl (fun i j y t' a b c=>by
        grind) Q9 qH (Ca.toList.drop (es.length*P.cellsOf e+(Lib.strCells x).length))
       generalize QS:(Ca.toList.take es.length++Lib.strCells x++Ca.toList.drop (es.length+x.size)).toArray=C' at dV;have xq:C'.size=Ca.size:=by
        grind
       have XG:(w.setRow b C').heap[b]? =some (.cells C' T0 (0,0)):=setRow_heap w b Ca C' T0 _ hh;have tY:∀j,j<es.length*P.cellsOf e→C'[j]? =Ca[j]? :=fun j hj=>by
        grind
       obtain⟨a1,a2⟩:=FW k2 (blk:= .arr e (es++xs) fz) (w':=w.setRow b C') lh vo (afW hh XG (Xb hf jm) tY) (fun b' h _=>setRow_other w b b' _ h) (by simp) ⟨rfl,rfl⟩ J2
        (fun b' h=>(fP (h.flat (by simp))).symm) (fun hle=> .arr (xq▸hL) aD rfl XG (by grind) (fun _ j h=>fY (Xb hf jm j h) (fg _ (by simp))) jm fun i j y t' a b c=>by
         obtain⟨v,hv,hp⟩:=gF i j y t' a b c;refine⟨v,?_,hp.mono hle.fI hle.dF⟩;grind)
       refine⟨_,_,_,_,dV,k1.trans a1,a2,?_⟩;have a3:=ah.whole (P:=P) (w:=w.setRow b C') (I:=I) (β:=ar β nb (some b)) (hp:=ar (ar hp id (some .dead)) nb (some (.arr e (es++xs) fz))) (cap:=cap) (b:=b) (es:=es++xs) (fz:=fz) (id:=nb) (e:=e) (cN _ _ _) (cN _ _ _) (by rw[nK XG,xq,b7]) (by grind) hm;rw[kG,sN]at a3;exact a3
      ·have hold:∀(j:Nat) v,(Ca.toList.take (es.length*P.cellsOf e))[j]? =some v→w.cell? ((⟨b,0,none⟩:Addr).add j)=some v:=by
        intro j v hj;have eQ:=(cP.1 hj).1;have ph:j<es.length*P.cellsOf e:=by grind
        rw[mL ph]at hj;rw[rK,cell?_cells hh,cL];grind
       have dV:=Lib.run_append_grow_string (P:=P) w t u ty e i z hu vC hi hz ⟨b,0,none⟩ es.length cap (Ca.toList.take (es.length*P.cellsOf e)) (by grind) hold x (by omega) (by omega)
        (growslice_fits (by omega) (by rw[←p7,←sN];simp only[bf]at fc;omega))
       rw[←sN]at dV;have sM:=grownCap_ge w (es.length+xs.length) cap e;have vz:grownCap w (es.length+xs.length) cap e≤maxLen:=grownCap_le_maxLen w _ cap e (by simp only[maxLen];omega);have gF:=Q0 (P:=P) (w:=w) (I:=I) (n:=es.length) (c:=Ca.toList) rfl (fun i j y t' a b c=>by
        grind) Q9 qH (Builtin.zeroCells z.cells (grownCap w (es.length+xs.length) cap e-(es.length+xs.length))).toList
       obtain⟨n1,n2,n3⟩:=F7 k2.drew (nb:=nb) (cap:=grownCap w (es.length+xs.length) cap e) (es:=es++xs)
        (C0:=(Ca.toList.take (es.length*P.cellsOf e)).toArray++(Lib.strCells x).toArray++Builtin.zeroCells z.cells (grownCap w (es.length+xs.length) cap e-(es.length+xs.length))) aD lh
        (by
         have e1:(Ca.toList.take (es.length*P.cellsOf e)).length=es.length*P.cellsOf e:=by simp;omega
         simp only[PO,wG,size_zeroCells,h4,aqw,e1,←nW];grind) (by grind) vz
        (fun i j y t' a b c=>by
         obtain⟨v,hv,hp⟩:=gF i j y t' a b c;refine⟨v,?_,Pure.drew hp⟩;grind)
       rw[kG]at n3;exact⟨_,_,_,_,dV,(k1.trans (Le.drew w I β _)).trans n1,n2,n3⟩
 |_=>cases h
end
end Go.AM
