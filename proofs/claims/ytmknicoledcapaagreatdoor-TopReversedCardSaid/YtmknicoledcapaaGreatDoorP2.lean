/-
  Functions of the program, lifted to plain data.
-/
import Derived.Great.BuildSlice
import Derived.Maps.Keyed
import Derived.WideKeyArr
import Derived.MapKept
import Derived.ChangeMaps4
import Derived.Carry
import Derived.Test.YtmknicoledcapaaGreatDoorP1
noncomputable section
set_option linter.unusedVariables false
set_option linter.unusedSimpArgs false
set_option linter.unusedSectionVars false
namespace Go.AM
section
variable {P:Program}{w w':World}{I I':Nat→Nat→Prop}{β β':Nat→Option Nat}{hp hp':Nat→Option ag}{C:af}{B:Nat}{M:Nat→Prop}{w0:Start}
theorem qQ.zE{t:TypeId}{v:Value}{x:V}(h:qQ P w I t v x):iq P t x=x:=by
 cases h with
 |gN _ p=>exact p.zE
 |emp hu=>exact tq hu
 |row hu _ _ _ _=>exact tq hu
theorem EY{new:List V}{e ea:TypeId}{i c:Nat}{q:Path}{es dp:List V}{x:V}(hx:es[i]? =some x)(hp:(parts P e x)[c]? =some (.list ea dp)):
  setRow P new e es ((i,c)::q)=es.set i (dy P e ((parts P e x).set c (.list ea (setRow P new ea dp q)))):=by
 simp only[setRow,hx,hp]
theorem JD{b:Nat}{e t:TypeId}{es:List V}{i c:Nat}{x y:V}(hR:jn P w I b e es)(hx:es[i]? =some x)(ht:(aV P e)[c]? =some t):
  ∀{i' c':Nat} {x':V} {t':TypeId},(es.set i (dy P e ((parts P e x).set c y)))[i']? =some x'→(aV P e)[c']? =some t'→
   ∃x0,es[i']? =some x0∧ca P e x' c'=if i'=i∧c'=c then y else ca P e x0 c':=by
 intro i' c' x' t' dk fS;have qV:i<es.length:=(cw.1 hx).1;have Bf:c<(aV P e).length:=(cw.1 ht).1;have PR:c'<(aV P e).length:=(cw.1 fS).1;by_cases hi:i'=i
 ·subst hi;rw[sa qV]at dk;cases dk;refine⟨x,hx,?_⟩;by_cases hc:c'=c
  ·subst hc;rw[aF ⟨rfl,rfl⟩];exact xP (sa (by rw[D3];exact Bf)) fS
  ·rw[aD (fun h=>hc h.2)];have h1:((parts P e x).set c y)[c']? =some (iq P t' (ca P e x c')):=by
    rw[zb (fun h=>hc h.symm)];exact tp fS
   rw[xP h1 fS];obtain⟨Ca,_,_,_,_,yn⟩:=hR.cells;obtain⟨v,_,ho⟩:=yn i' c' x t' hx fS (by rw[←fL hR.ok];exact PR);exact ho.zE
 ·rw[zb (fun h=>hi h.symm)]at dk;exact⟨x',dk,by rw[aD (fun h=>hi h.1)]⟩
theorem Wq{b b1:Nat}{e e1:TypeId}{es l l':List V}{p:Path}(h:At P w b e es p b1 e1 l)(hl:l'.length=l.length):(setRow P l' e es p).length=es.length:=by
 cases h with
 |here=>exact hl
 |step h1 h2 h3 h4 h5 h6 h7 h8=>
  rw[EY h2 (by rw[tp h3,h5,tq h4])];simp
theorem At.ase{b b1:Nat}{e e1:TypeId}{es l l':List V}{p:Path}(Wr:At P w b e es p b1 e1 l)(hw:∀k,k≠b1→w'.heap[k]? =w.heap[k]?)(hl:l'.length=l.length):
  (∀q b' e' m,At P w b e es q b' e' m→jn P w I b' e' m)→(∀q e' m,At P w b e es q b1 e' m→q=p)→
  ∀q b' e' m,At P w' b e (setRow P l' e es p) q b' e' m→
   (∃r m0,p=q++r∧At P w b e es q b' e' m0∧m=setRow P l' e' m0 r)∨
   (∃r,r≠[]∧q=p++r∧At P w' b1 e1 l' r b' e' m)∨
   (At P w b e es q b' e' m∧b'≠b1∧¬q <+: p∧¬p <+: q):=by
 induction Wr with
 |here=>
  intro cR oL q b' e' m h;cases q with
  |nil=>cases h with|here=>exact .inl ⟨[],_,rfl,.here,rfl⟩
  |cons a q=>exact .inr (.inl ⟨a::q,by simp,rfl,h⟩)
 |@step b i c b2 len cap b1 e t ea e1 es dp l p Ca T f x h1 h2 h3 h4 h5 h6 h7 h8 ih=>
  intro cR oL q b' e' m h;have pP:(parts P e x)[c]? =some (.list ea dp):=by rw[tp h3,h5,tq h4]
  rw[EY h2 pP]at h;have hR:=cR _ _ _ _ .here;have hb:b≠b1:=by
   intro hb;subst hb;have:=oL [] _ _ .here;cases this
  have Ws:=ih hw hl (fun q b' e' m h=>cR _ _ _ _ (.step h1 h2 h3 h4 h5 h6 h7 h)) (fun q e' m h=>by
   have:=oL _ _ _ (.step h1 h2 h3 h4 h5 h6 h7 h);exact(List.cons.inj this).2)
  cases h with
  |here=>exact .inl ⟨_,es,rfl,.here,(EY h2 pP).symm⟩
  |@step _ i' c' b3 asf Wt _ _ t' e3 _ _ jL _ q Be T' f' x' k1 k2 k3 k4 k5 k6 k7 k8=>
   rw[hw b hb]at k1;obtain⟨x0,y1,y2⟩:=JD hR h2 h3 k2 k3;by_cases kg:i'=i∧c'=c
   ·rw[aF kg]at y2;obtain⟨rfl,rfl⟩:=kg;rw[h1]at k1;cases k1;rw[h7]at k7;cases k7;rw[k5]at y2;cases y2;rcases Ws _ _ _ _ k8 with⟨r,m0,z1,z2,z3⟩|⟨r,z1,z2,z3⟩|⟨z1,z2,z3,z4⟩
    ·exact .inl ⟨r,m0,by rw[z1];rfl,.step h1 h2 h3 h4 h5 h6 h7 z2,z3⟩
    ·exact .inr (.inl ⟨r,z1,by rw[z2];rfl,z3⟩)
    ·refine .inr (.inr ⟨.step h1 h2 h3 h4 h5 h6 h7 z1,z2,fun hh=>z3 ?_,fun hh=>z4 ?_⟩)
     ·exact(zf.1 hh).2
     ·exact(zf.1 hh).2
   ·rw[aD kg,k5]at y2;have bE:∀q2 b5 e5 lb,At P w b3 e3 jL q2 b5 e5 lb→b5≠b1:=by
     intro q2 b5 e5 lb hq BX;subst BX;have:=oL _ _ _ (.step k1 y1 k3 k4 y2.symm k6 k7 hq);injection this with h1 h2;injection h1 with h1 h3;exact kg ⟨h1,h3⟩
    have mJ:=k8.zu (w:=w) fun q2 b5 e5 lb hq=>hw b5 (bE q2 b5 e5 lb hq);refine .inr (.inr ⟨.step k1 y1 k3 k4 y2.symm k6 k7 mJ,bE _ _ _ _ mJ,fun hh=> ?_,fun hh=> ?_⟩)
    ·have:=(zf.1 hh).1;injection this with h1 h3;exact kg ⟨h1,h3⟩
    ·have:=(zf.1 hh).1;injection this with h1 h3;exact kg ⟨h1.symm,h3.symm⟩
theorem At.wj{b b1:Nat}{e e1:TypeId}{es l l':List V}{p:Path}(Wr:At P w b e es p b1 e1 l)(hw:∀k,k≠b1→w'.heap[k]? =w.heap[k]?)(hl:l'.length=l.length):
  (∀q b' e' m,At P w b e es q b' e' m→jn P w I b' e' m)→(∀q e' m,At P w b e es q b1 e' m→q=p)→
  ∀q b' e' m,At P w b e es q b' e' m→
   (∃r,p=q++r∧At P w' b e (setRow P l' e es p) q b' e' (setRow P l' e' m r)∧∃e1' m1,At P w b' e' m r b1 e1' m1∧m1=l)∨
   (∃r,r≠[]∧q=p++r∧At P w b1 e1 l r b' e' m∧(∀b2 e2 m2,At P w' b1 e1 l' r b2 e2 m2→At P w' b e (setRow P l' e es p) q b2 e2 m2))∨
   (At P w' b e (setRow P l' e es p) q b' e' m∧b'≠b1∧¬q <+: p∧¬p <+: q):=by
 induction Wr with
 |here=>
  intro cR oL q b' e' m h;cases q with
  |nil=>cases h with|here=>exact .inl ⟨[],rfl,.here,_,_,.here,rfl⟩
  |cons a q=>exact .inr (.inl ⟨a::q,by simp,rfl,h,fun _ _ _ h=>h⟩)
 |@step b i c b2 len cap b1 e t ea e1 es dp l p Ca T f x h1 h2 h3 h4 h5 h6 h7 h8 ih=>
  intro cR oL q b' e' m h;have pP:(parts P e x)[c]? =some (.list ea dp):=by rw[tp h3,h5,tq h4]
  have jK:=EY (new:=l') (q:=p) h2 pP;have hR:=cR _ _ _ _ .here;have qV:i<es.length:=(cw.1 h2).1;have hb:b≠b1:=by
   intro hb;subst hb;have:=oL [] _ _ .here;cases this
  have Ws:=ih hw hl (fun q b' e' m h=>cR _ _ _ _ (.step h1 h2 h3 h4 h5 h6 h7 h)) (fun q e' m h=>by
   have:=oL _ _ _ (.step h1 h2 h3 h4 h5 h6 h7 h);exact(List.cons.inj this).2)
  have vP:=(hw b hb).trans h1;have JE:(es.set i (dy P e ((parts P e x).set c (.list ea (setRow P l' ea dp p)))))[i]? =some (dy P e ((parts P e x).set c (.list ea (setRow P l' ea dp p)))):=sa qV;have Wu:ca P e (dy P e ((parts P e x).set c (.list ea (setRow P l' ea dp p)))) c= .list ea (setRow P l' ea dp p):=by
   obtain⟨x0,y1,y2⟩:=JD hR h2 h3 JE h3;rw[aF ⟨rfl,rfl⟩]at y2;exact y2
  cases h with
  |here=>
   exact .inl ⟨(i,c)::p,rfl,.here,_,_,.step h1 h2 h3 h4 h5 h6 h7 h8,rfl⟩
  |@step _ i' c' b3 asf Wt _ _ t' e3 _ _ jL _ q Be T' f' x' k1 k2 k3 k4 k5 k6 k7 k8=>
   rw[jK];by_cases kg:i'=i∧c'=c
   ·obtain⟨rfl,rfl⟩:=kg;rw[h1]at k1;cases k1;rw[h7]at k7;cases k7;rw[h3]at k3;cases k3;rw[h4]at k4;cases k4;rw[h2]at k2;cases k2;rw[h5]at k5;cases k5;rcases Ws _ _ _ _ k8 with⟨r,z1,z2,z3⟩|⟨r,z1,z2,z3,z4⟩|⟨z1,z2,z3,z4⟩
    ·exact .inl ⟨r,by rw[z1];rfl,.step vP JE h3 h4 Wu h6 h7 z2,z3⟩
    ·exact .inr (.inl ⟨r,z1,by rw[z2];rfl,z3,fun b2 e2 m2 hh=> .step vP JE h3 h4 Wu h6 h7 (z4 b2 e2 m2 hh)⟩)
    ·refine .inr (.inr ⟨.step vP JE h3 h4 Wu h6 h7 z1,z2,fun hh=>z3 ?_,fun hh=>z4 ?_⟩)
     ·exact(zf.1 hh).2
     ·exact(zf.1 hh).2
   ·have bE:∀q2 b5 e5 lb,At P w b3 e3 jL q2 b5 e5 lb→b5≠b1:=by
     intro q2 b5 e5 lb hq BX;subst BX;have:=oL _ _ _ (.step k1 k2 k3 k4 k5 k6 k7 hq);injection this with h1 h2;injection h1 with h1 h3;exact kg ⟨h1,h3⟩
    have mJ:=k8.mono (w':=w') fun q2 b5 e5 lb hq=>hw b5 (bE q2 b5 e5 lb hq);have Wv:∃x2,(es.set i (dy P e ((parts P e x).set c (.list ea (setRow P l' ea dp p)))))[i']? =some x2:=by
     have:i'<es.length:=(cw.1 k2).1;exact⟨_,bX (by rw[td];exact this)⟩
    obtain⟨x2,lM⟩:=Wv;obtain⟨x0,y1,y2⟩:=JD hR h2 h3 lM k3;rw[aD kg]at y2;rw[k2]at y1;cases y1;rw[k5]at y2;refine .inr (.inr ⟨.step ((hw b hb).trans k1) lM k3 k4 y2 k6 k7 mJ,bE _ _ _ _ k8,fun hh=> ?_,fun hh=> ?_⟩)
    ·have:=(zf.1 hh).1;injection this with h1 h3;exact kg ⟨h1,h3⟩
    ·have:=(zf.1 hh).1;injection this with h1 h3;exact kg ⟨h1.symm,h3.symm⟩
theorem At.fun{b b1:Nat}{e e1:TypeId}{es l:List V}{q:Path}(h:At P w b e es q b1 e1 l):∀{b2 e2 l2},At P w b e es q b2 e2 l2→b2=b1∧e2=e1∧l2=l:=by
 induction h with
 |here=>intro b2 e2 l2 h2;cases h2;exact⟨rfl,rfl,rfl⟩
 |step h1 h2 h3 h4 h5 h6 h7 h8 ih=>
  intro b2 e2 l2 k;cases k with
  |step k1 k2 k3 k4 k5 k6 k7 k8=>
   rw[h1]at k1;cases k1;rw[h7]at k7;cases k7;rw[h2]at k2;cases k2;rw[h5]at k5;cases k5;exact ih k8
theorem At.split:∀{q r:Path} {b b1:Nat} {e e1:TypeId} {es l:List V},At P w b e es (q++r) b1 e1 l→∃b' e' m,At P w b e es q b' e' m∧At P w b' e' m r b1 e1 l
 | [],r,b,b1,e,e1,es,l,h=>⟨_,_,_,.here,h⟩
 |a::q,r,b,b1,e,e1,es,l,h=>by
  cases h with
  |step h1 h2 h3 h4 h5 h6 h7 h8=>
   obtain⟨b',e',m,k1,k2⟩:=At.split h8;exact⟨b',e',m,.step h1 h2 h3 h4 h5 h6 h7 k1,k2⟩
theorem jn.cM{b:Nat}{e:TypeId}{es:List V}(h:jn P w I b e es)(hw:w'.heap[b]? =w.heap[b]?)(hI:∀k j,I k j→w'.cell? ⟨k,j,none⟩=w.cell? ⟨k,j,none⟩)(lA:∀k,bsize w' k=bsize w k):jn P w' I b e es:=by
 obtain⟨ok,⟨Ca,T,c1,c0,c2,c3⟩,nI⟩:=h;refine⟨ok,⟨Ca,T,hw.trans c1,c0,c2,fun i j x t' k1 k2 k3=> ?_⟩,nI⟩;obtain⟨v,m1,m2⟩:=c3 i j x t' k1 k2 k3;exact⟨v,m1,m2.mono (fun _ _ h=>h) hI fun b' _ _ _ _=>lA b'⟩
theorem jn.above{b b1 b2 i c len cap:Nat}{e e1 t ea:TypeId}{es dp l l':List V}{r:Path}{Ca:Array Value}{T:TypeId}{f:Nat×Nat}{x:V}(hR:jn P w I b e es)
  (h1:w.heap[b]? =some (.cells Ca T f)) (h2:es[i]? =some x) (h3:(aV P e)[c]? =some t) (h4:P.underlying t=some (.slice ea)) (h5:ca P e x c= .list ea dp) (h6:0<cap)
  (h7:Ca[i*P.cellsOf e+c]? =some (.slice (some ⟨b2,0,none⟩) len cap)) (h8:At P w b2 ea dp r b1 e1 l) (hl:l'.length=l.length)
  (hw:w'.heap[b]? =w.heap[b]?) (hI:∀k j,I k j→w'.cell? ⟨k,j,none⟩=w.cell? ⟨k,j,none⟩) (lA:∀k,bsize w' k=bsize w k):jn P w' I b e (setRow P l' e es ((i,c)::r)):=by
 have pP:(parts P e x)[c]? =some (.list ea dp):=by rw[tp h3,h5,tq h4]
 rw[EY h2 pP];have hR0:=hR;obtain⟨ok,⟨Be,_,c1,c0,c2,c3⟩,nI⟩:=hR;rw[h1]at c1;cases c1;refine⟨ok,⟨Ca,_,hw.trans h1,c0,by simpa using c2,fun i' j x' t' k1 k2 k3=> ?_⟩,nI⟩;obtain⟨x0,y1,y2⟩:=JD hR0 h2 h3 k1 k2;obtain⟨v,m1,m2⟩:=c3 i' j x0 t' y1 k2 k3;refine⟨v,m1,?_⟩;have m3:qQ P w' I t' v (ca P e x0 j):=m2.mono (fun _ _ h=>h) hI fun b' _ _ _ _=>lA b';rw[y2];by_cases kg:i'=i∧j=c
 ·rw[aF kg];obtain⟨rfl,rfl⟩:=kg;rw[h2]at y1;cases y1;rw[h3]at k2;cases k2;rw[h5]at m3;have hlen:=Wq (l':=l') h8 hl;rw[h7]at m1;cases m1;generalize hy:V.list ea dp=y at m3;cases m3 with
  |gN a p=>unfold eg at a;rw[h4]at a;cases a
  |emp a=>exact absurd h6 (pK _)
  |row a b c d e=>
   cases hy;rw[←hlen];exact .row a b c (by omega) e
 ·rw[aD kg];exact m3
theorem asg(S:ax P w I β hp B M w0){id b b1 i c:Nat}{e0 e1:TypeId}{es l l':List V}{vers vers':List Nat}{path:Path}(K:Path→Nat→TypeId→List V→Prop)
  (ae:hp id=some (.nest e0 es vers)) (hb:β id=some b) (ha:At P w b e0 es path b1 e1 l) (hl:l'.length=l.length)
  (hw:∀k,k≠b1→w'.heap[k]? =w.heap[k]?) (lA:∀k,bsize w' k=bsize w k) (aZ:w'.heap.size=w.heap.size) (om:w'.os=w.os∧w'.output=w.output)
  (ash:jn P w' I b1 e1 l')
  (aeT:∀a r b' e' m,At P w' b1 e1 l' (a::r) b' e' m→b'≠b1∧(At P w b1 e1 l (a::r) b' e' m∨(a=(i,c)∧K r b' e' m)))
  (hK:∀r b' e' m,K r b' e' m→jn P w I b' e' m∧(M b'∨B≤b')∧(∀aY cC,hp aY=some cC→¬bm P w (β aY) cC b'))
  (wv:∀r1 r2 b' e1 m1 e2 m2,K r1 b' e1 m1→K r2 b' e2 m2→r1=r2)
  (uy:vers'.length=vers.length) (Hr:∀k,bG vers k≤bG vers' k)
  (z8:∀(r:Path) i' c' t' v ea l0,(path++r).length<vers.length→bG vers' (path++r).length=bG vers (path++r).length→P.underlying t'=some (.slice ea)→se P w b1 e1 l r i' c' t' v (.list ea l0)→
   ∃EZ,EZ.length=l0.length∧se P w' b1 e1 l' r i' c' t' v (.list ea EZ)):
  Le P w I β hp w' I β (ak hp id (some (.nest e0 (setRow P l' e0 es path) vers')))∧ax P w' I β (ak hp id (some (.nest e0 (setRow P l' e0 es path) vers'))) B M w0:=by
 have hr:=S.h.rel id _ ae;rw[hb]at hr;cases hr with
 |jA au=>cases au
 |nest au cR mY=>
 cases au;have oL:∀q e' m,At P w b e0 es q b1 e' m→q=path:=fun q e' m h=>mY _ _ _ _ _ _ _ h ha;have dq:∀j,¬I b1 j:=(cR _ _ _ _ ha).nI;have z9:∀k j,I k j→w'.cell? ⟨k,j,none⟩=w.cell? ⟨k,j,none⟩:=fun k j hk=>World.cell?_of_block (hw k (fun e=>dq j (e▸hk)));have aeU:bm P w (β id) (.nest e0 es vers) b1:= .row hb ha;have same:∀{aq cC b'},aq≠id→hp aq=some cC→bm P w (β aq) cC b'→w'.heap[b']? =w.heap[b']? :=
  fun hi h ho=>hw _ fun e=>hi (S.h.inj _ _ _ _ b1 h ae (e▸ho) aeU)
 have E0:(setRow P l' e0 es path).length=es.length:=Wq ha hl;have wj:=At.ase (I:=I) (w':=w') (l':=l') ha hw hl cR oL;have Ww:∀q b' e' m,At P w' b e0 (setRow P l' e0 es path) q b' e' m→(∃e2 m2,At P w b e0 es q b' e2 m2)∨∃r,q=path++(i,c)::r∧K r b' e' m:=by
  intro q b' e' m h;rcases wj q b' e' m h with⟨r,m0,z1,z2,z3⟩|⟨r,z1,z2,z3⟩|⟨z1,z2,z3,z4⟩
  ·exact .inl ⟨_,_,z2⟩
  ·cases r with
   |nil=>exact absurd rfl z1
   |cons a r=>
    obtain⟨y1,y2⟩:=aeT a r b' e' m z3;rcases y2 with y2|⟨rfl,y2⟩
    ·exact .inl ⟨_,_,by rw[z2];exact ha.app y2⟩
    ·exact .inr ⟨r,z2,y2⟩
  ·exact .inl ⟨_,_,z1⟩
 have vR:∀b',bm P w' (β id) (.nest e0 (setRow P l' e0 es path) vers') b'→bm P w (β id) (.nest e0 es vers) b'∨((M b'∨B≤b')∧∀aY cC,hp aY=some cC→¬bm P w (β aY) cC b'):=by
  intro b' ho;cases ho with
  |root _ h=>exact .inl (.root (by simp) h)
  |row h1 h2=>
   rw[hb]at h1;cases h1;rcases Ww _ _ _ _ h2 with⟨e2,m2,h⟩|⟨r,_,h⟩
   ·exact .inl (.row hb h)
   ·exact .inr (hK _ _ _ _ h).2
 have hle:Le P w I β hp w' I β (ak hp id (some (.nest e0 (setRow P l' e0 es path) vers'))):=by
  refine⟨fun _ _ h=>h,z9,fun aq cC h=> ?_,fun aq cC lx b' h h3 hd3 au=>lA b',fun aq e bR vs e' aI Hl b2 q i' c' t v ea l0 h h' fh aO hv ht hc=> ?_⟩
  ·by_cases hi:aq=id
   ·subst hi;rw[ae]at h;cases h;exact⟨_,bI _ _ _,⟨rfl,E0.symm,uy.symm,Hr⟩,fun _=>rfl⟩
   ·exact⟨cC,by rw[cA _ _ hi];exact h,ag.le_refl _,fun _=>rfl⟩
  ·by_cases hi:aq=id
   ·subst hi;rw[ae]at h;cases h;rw[bI]at h';cases h';rw[hb]at fh;cases fh;obtain⟨b',e',m,Ca,T,f,x,k1,k2,k3,k4,k5,k6⟩:=hc;rcases At.wj (I:=I) (w':=w') (l':=l') ha hw hl cR oL q b' e' m k1 with⟨r,z1,z2,e2,m2,z3,_⟩|⟨r,z1,z2,z3,z4⟩|⟨z1,z2,z3,z4⟩
    ·cases r with
     |nil=>
      cases z3;rw[nJ]at z1;subst z1;obtain⟨w1,w2,w3⟩:=ha.fun k1;subst w2;subst w3;obtain⟨EZ,g1,g2⟩:=z8 [] i' c' t v ea l0 (by simpa using aO) (by simpa using hv) ht ⟨_,_,_,Ca,T,f,x,.here,k2,k3,k4,k5,k6⟩;refine⟨EZ,g1,?_⟩;obtain⟨b5,e5,lb,C5,T5,f5,x5,q1,q2,q3,q4,q5,q6⟩:=g2;cases q1;exact⟨_,_,_,C5,T5,f5,x5,z2,q2,q3,q4,q5,q6⟩
     |cons a r=>
      cases z3 with
      |@step _ i2 c2 b3 len cap _ _ t3 Wx _ _ jL _ r Ca3 T3 f3 x3 g1 g2 g3 g4 g5 g6 g7 g8=>
       have au:b'≠b1:=by
        intro e;subst e;have:=oL _ _ _ k1;rw[this]at z1;have:=congrArg List.length z1;simp at this
       have pP:(parts P e' x3)[c2]? =some (.list Wx jL):=by rw[tp g3,g5,tq g4]
       rw[EY g2 pP]at z2;have Wv:∃x2,(m.set i2 (dy P e' ((parts P e' x3).set c2 (.list Wx (setRow P l' Wx jL r)))))[i']? =some x2:=by
        have:i'<m.length:=(cw.1 k3).1;exact⟨_,bX (by rw[td];exact this)⟩
       obtain⟨x2,lM⟩:=Wv;obtain⟨x0,y1,y2⟩:=JD (cR _ _ _ _ k1) g2 g3 lM k4;rw[k3]at y1;cases y1;have g8l:=(ha.fun ((k1.app (.step g1 g2 g3 g4 g5 g6 g7 g8)) |> fun h=>by rw[z1];exact h)).2.2;by_cases kg:i'=i2∧c'=c2
       ·rw[aF kg]at y2;obtain⟨rfl,rfl⟩:=kg;rw[k3]at g2;cases g2;rw[k5]at g5;cases g5;exact⟨_,Wq g8 (by rw[hl,g8l]),b',e',_,Ca,T,f,x2,z2,(hw b' au).trans k2,lM,k4,y2,k6⟩
       ·rw[aD kg,k5]at y2;exact⟨l0,rfl,b',e',_,Ca,T,f,x2,z2,(hw b' au).trans k2,lM,k4,y2,k6⟩
    ·subst z2;obtain⟨EZ,g1,g2⟩:=z8 r i' c' t v ea l0 aO hv ht ⟨_,_,_,Ca,T,f,x,z3,k2,k3,k4,k5,k6⟩;obtain⟨b5,e5,lb,C5,T5,f5,x5,q1,q2,q3,q4,q5,q6⟩:=g2;exact⟨EZ,g1,_,_,_,C5,T5,f5,x5,z4 _ _ _ q1,q2,q3,q4,q5,q6⟩
    ·exact⟨l0,rfl,b',e',m,Ca,T,f,x,z1,(hw b' z2).trans k2,k3,k4,k5,k6⟩
   ·rw[cA _ _ hi,h]at h';cases h';exact⟨l0,rfl,hc.mono fun _ _ _ _ hh=>same hi h (.row fh hh)⟩
 have hold:∀{aq cC b'},ak hp id (some (.nest e0 (setRow P l' e0 es path) vers')) aq=some cC→bm P w' (β aq) cC b'→
   (∃lx,hp aq=some lx∧bm P w (β aq) lx b')∨(aq=id∧(M b'∨B≤b')∧∀aY cC,hp aY=some cC→¬bm P w (β aY) cC b'):=by
  intro aq cC b' h ho;by_cases hi:aq=id
  ·subst hi;rw[bI]at h;cases h;rcases vR b' ho with h|h
   ·exact .inl ⟨_,ae,h⟩
   ·exact .inr ⟨rfl,h⟩
  ·rw[cA _ _ hi]at h;exact .inl ⟨cC,h,ho.mono fun b2 uC=>same hi h uC⟩
 refine⟨hle,⟨⟨fun aq cC h=> ?_,fun i1 i2 b1 b2 b' h1 h2 o1 o2=> ?_,fun aq cC b' h ho=> ?_,fun b' h=>by rw[aZ];exact S.h.kC b' h⟩,fun b' h1 h2=> ?_,by rw[aZ];exact S.size,S.new,⟨om.1.trans S.io.1,om.2.trans S.io.2⟩⟩⟩
 ·by_cases hi:aq=id
  ·subst hi;rw[bI]at h;cases h;rw[hb];refine .nest rfl (fun q b' e' m h=> ?_) (fun q1 q2 b' f1 m1 f2 m2 h1 h2=> ?_)
   ·rcases wj q b' e' m h with⟨r,m0,z1,z2,z3⟩|⟨r,z1,z2,z3⟩|⟨z1,z2,z3,z4⟩
    ·subst z3;subst z1;obtain⟨b5,e5,m5,g1,g2⟩:=At.split ha;obtain⟨w1,w2,w3⟩:=g1.fun z2;subst w1;subst w2;subst w3;cases r with
     |nil=>cases g2;exact ash
     |cons a r=>
      cases g2 with
      |step g1' g2 g3 g4 g5 g6 g7 g8=>
       refine(cR _ _ _ _ z2).above g1' g2 g3 g4 g5 g6 g7 g8 hl (hw _ fun e=> ?_) z9 lA;subst e;have:=oL _ _ _ z2;have:=congrArg List.length this;simp at this
    ·cases r with
     |nil=>exact absurd rfl z1
     |cons a r=>
      obtain⟨y1,y2⟩:=aeT a r b' e' m z3;rcases y2 with y2|⟨rfl,y2⟩
      ·exact(cR _ _ _ _ (ha.app y2)).cM (hw _ y1) z9 lA
      ·exact(hK _ _ _ _ y2).1.cM (hw _ y1) z9 lA
    ·exact(cR _ _ _ _ z1).cM (hw _ z2) z9 lA
   ·rcases Ww _ _ _ _ h1 with⟨e2,m2',x1⟩|⟨r1,x1,x2⟩<;>rcases Ww _ _ _ _ h2 with⟨e3,m3',y1⟩|⟨r2,y1,y2⟩
    ·exact mY _ _ _ _ _ _ _ x1 y1
    ·exact absurd (bm.row hb x1) ((hK _ _ _ _ y2).2.2 _ _ ae)
    ·exact absurd (bm.row hb y1) ((hK _ _ _ _ x2).2.2 _ _ ae)
    ·rw[x1,y1,wv _ _ _ _ _ _ _ x2 y2]
  ·rw[cA _ _ hi]at h;exact(S.h.rel aq cC h).mono hle fun b' ho=>⟨same hi h ho,fun _ h=>h⟩
 ·rcases hold h1 o1 with⟨c1,x1,y1⟩|⟨rfl,x1,y1⟩<;>rcases hold h2 o2 with⟨c2,x2,y2⟩|⟨rfl,x2,y2⟩
  ·exact S.h.inj i1 i2 c1 c2 b' x1 x2 y1 y2
  ·exact absurd y1 (y2 _ _ x1)
  ·exact absurd y2 (y1 _ _ x2)
  ·rfl
 ·rcases hold h ho with⟨c1,x1,y1⟩|⟨rfl,x1,y1⟩
  ·exact S.h.own aq c1 b' x1 y1
  ·exact x1
 ·rw[hw b' fun e=> ?_]
  ·exact S.cM b' h1 h2
  ·subst e;rcases S.h.own id _ b' ae aeU with h|h
   ·exact h2 h
   ·omega
theorem asi{i i' n c c' k:Nat}(hc':c'<n)(sI:c+k≤n)(h1:i*n+c≤i'*n+c')(h2:i'*n+c'<i*n+c+k):i'=i∧c≤c'∧c'<c+k:=by
 have:i'=i:=by
  rcases Nat.lt_trichotomy i' i with h|h|h
  ·have:=eT n (Nat.succ_le_of_lt h);rw[GA]at this;omega
  ·exact h
  ·have:=eT n (Nat.succ_le_of_lt h);rw[GA]at this;omega
 subst this;omega
theorem asj{b1 i c:Nat}{e1 T:TypeId}{l cs:List V}{x0:V}{Ca:Array Value}{vs:List Value}(hR:jn P w I b1 e1 l)(hh:w.heap[b1]? =some (.cells Ca T (0,0)))(hs:l.length*P.cellsOf e1≤Ca.size)
  (hx:l[i]? =some x0) (hk:cs.length=vs.length) (sI:c+cs.length≤P.cellsOf e1):
  ∀{i' c':Nat} {x':V} {t':TypeId},(l.set i (dy P e1 (jY (parts P e1 x0) c cs)))[i']? =some x'→(aV P e1)[c']? =some t'→
   ∃x1,l[i']? =some x1∧((∃j y u,i'=i∧c'=c+j∧cs[j]? =some y∧vs[j]? =some u∧ca P e1 x' c'=y∧(Ca.toList.take (i*P.cellsOf e1+c)++(vs++Ca.toList.drop (i*P.cellsOf e1+c+vs.length))).toArray[i'*P.cellsOf e1+c']? =some u)∨
    (ca P e1 x' c'=ca P e1 x1 c'∧(Ca.toList.take (i*P.cellsOf e1+c)++(vs++Ca.toList.drop (i*P.cellsOf e1+c+vs.length))).toArray[i'*P.cellsOf e1+c']? =Ca[i'*P.cellsOf e1+c']?)):=by
 intro i' c' x' t' dk fS;have qV:i<l.length:=(cw.1 hx).1;have PR:c'<P.cellsOf e1:=by rw[←fL hR.ok];exact(cw.1 fS).1
 have fi:(parts P e1 x0).length=P.cellsOf e1:=by rw[D3];exact fL hR.ok
 have hbound:i*P.cellsOf e1+c+vs.length≤Ca.toList.length:=by
  have:(i+1)*P.cellsOf e1≤l.length*P.cellsOf e1:=eT _ qV;rw[kO]at this;simp only[Array.length_toList];omega
 simp only[qy];rw[tt _ _ _ _ hbound];by_cases iu:i'=i∧c≤c'∧c'<c+cs.length
 ·obtain⟨rfl,h1,h2⟩:=iu;rw[sa qV]at dk;cases dk;refine⟨x0,hx,.inl ?_⟩;rw[fZ,dG,show i'*P.cellsOf e1+c'-(i'*P.cellsOf e1+c)=c'-c by omega];have hy:cs[c'-c]? =some cs[c'-c]:=bX (by omega);have hu:vs[c'-c]? =some vs[c'-c]:=bX (by omega);refine⟨c'-c,_,_,rfl,by omega,hy,hu,?_,hu⟩;refine xP ?_ fS;unfold jY;rw[tt _ _ _ _ (by omega),fZ,dG];exact hy
 ·have kH:¬(i*P.cellsOf e1+c≤i'*P.cellsOf e1+c'∧i'*P.cellsOf e1+c'<i*P.cellsOf e1+c+vs.length):=fun h=>iu (asi PR sI h.1 (by omega));have hg:(if i'*P.cellsOf e1+c'<i*P.cellsOf e1+c then Ca.toList[i'*P.cellsOf e1+c']? else if i'*P.cellsOf e1+c'<i*P.cellsOf e1+c+vs.length then vs[i'*P.cellsOf e1+c'-(i*P.cellsOf e1+c)]? else Ca.toList[i'*P.cellsOf e1+c']?)=Ca[i'*P.cellsOf e1+c']? :=by
   by_cases h1:i'*P.cellsOf e1+c'<i*P.cellsOf e1+c
   ·rw[aF h1];simp
   ·rw[aD h1,fZ];simp
  by_cases hi:i'=i
  ·subst hi;rw[sa qV]at dk;cases dk;refine⟨x0,hx,.inr ⟨?_,hg⟩⟩;have h1:(jY (parts P e1 x0) c cs)[c']? =some (iq P t' (ca P e1 x0 c')):=by
    unfold jY;rw[tt _ _ _ _ (by omega)];by_cases h1:c'<c
    ·rw[aF h1];exact tp fS
    ·rw[aD h1,fZ];exact tp fS
   rw[xP h1 fS];obtain⟨Be,_,_,_,_,yn⟩:=hR.cells;obtain⟨v,_,ho⟩:=yn i' c' x0 t' hx fS PR;exact ho.zE
  ·rw[zb (fun h=>hi h.symm)]at dk;exact⟨x',dk,.inr ⟨rfl,hg⟩⟩
theorem asl{w:World}{b1:Nat}{Ca Cb:Array Value}{T:TypeId}(hh:w.heap[b1]? =some (.cells Ca T (0,0)))(hs:Cb.size=Ca.size)(k:Nat):bsize (w.setRow b1 Cb) k=bsize w k:=by
 by_cases hk:k=b1
 ·subst hk;rw[ml (setRow_heap w k Ca Cb T (0,0) hh),ml hh,hs]
 ·simp only[bsize,setRow_other w b1 k Cb hk]
theorem PS(S:ax P w I β hp B M w0){t:TypeId}{v:Value}{id b b1 i c:Nat}{e0 e1:TypeId}{es l cs:List V}{vers vers':List Nat}{path:Path}{x0:V}(K:Path→Nat→TypeId→List V→Prop)
  (ae:hp id=some (.nest e0 es vers)) (hb:β id=some b) (ha:At P w b e0 es path b1 e1 l) (ht:qI P t=true) (hn:P.cellsOf t=v.cells.size)
  (hx:l[i]? =some x0) (hk:cs.length=v.cells.size) (sI:c+cs.length≤P.cellsOf e1) (h1:∀u∈v.cells.toList,u.oneCell'=true)
  (dI:∀(j:Nat) y u t',cs[j]? =some y→v.cells.toList[j]? =some u→(aV P e1)[c+j]? =some t'→qQ P w I t' u y)
  (asm:∀(j:Nat) y u t' e3 jL b3 len cap,cs[j]? =some y→v.cells.toList[j]? =some u→(aV P e1)[c+j]? =some t'→P.underlying t'=some (.slice e3)→y= .list e3 jL→0<cap→
   u= .slice (some ⟨b3,0,none⟩) len cap→j=0∧∀r b' e' m,At P w b3 e3 jL r b' e' m→b'≠b1∧K r b' e' m)
  (hK:∀r b' e' m,K r b' e' m→jn P w I b' e' m∧(M b'∨B≤b')∧(∀aY cC,hp aY=some cC→¬bm P w (β aY) cC b'))
  (wv:∀r1 r2 b' e1 m1 e2 m2,K r1 b' e1 m1→K r2 b' e2 m2→r1=r2)
  (uy:vers'.length=vers.length) (Hr:∀k,bG vers k≤bG vers' k)
  (jB:(∀(j:Nat) t',j<cs.length→(aV P e1)[c+j]? =some t'→eg P t'=true)∨∀k,path.length≤k→k<vers.length→bG vers' k≠bG vers k):
  ∃w',(Instr.storeAt t (.pointer (some ⟨b1,i*P.cellsOf e1+c,none⟩)) v).run P w= .ok () w'∧
   Le P w I β hp w' I β (ak hp id (some (.nest e0 (setRow P (l.set i (dy P e1 (jY (parts P e1 x0) c cs))) e0 es path) vers')))∧
   ax P w' I β (ak hp id (some (.nest e0 (setRow P (l.set i (dy P e1 (jY (parts P e1 x0) c cs))) e0 es path) vers'))) B M w0:=by
 have hR:=S.rows ae hb ha;obtain⟨Ca,T,hh,hL,hs,yn⟩:=hR.cells;have qV:i<l.length:=(cw.1 hx).1;have dK:cs.length=v.cells.toList.length:=by simpa using hk
 have Ui:i*P.cellsOf e1+c+v.cells.size≤Ca.size:=by
  have:(i+1)*P.cellsOf e1≤l.length*P.cellsOf e1:=eT _ qV;rw[kO]at this;omega
 have cO:=NM (t:=t) (o:=i*P.cellsOf e1+c) (v:=v) ht hn hh Ui h1;have hlen:(Ca.toList.take (i*P.cellsOf e1+c)++(v.cells.toList++Ca.toList.drop (i*P.cellsOf e1+c+v.cells.toList.length))).length=Ca.size:=by
  rw[HE _ _ _ (by simpa using Ui)];simp
 have cn:= @asj P w I b1 i c e1 T l cs x0 Ca v.cells.toList hR hh hs hx dK sI;have dq:=hR.nI;have hr:=S.h.rel id _ ae;rw[hb]at hr;cases hr with
 |jA au=>cases au
 |nest au cR mY=>
 cases au;have oL:∀q e' m,At P w b1 e1 l q b1 e' m→q=[]:=by
  intro q e' m h;have:=mY _ _ _ _ _ _ _ (ha.app h) ha;simpa using this
 have yo:=setRow_heap w b1 Ca (Ca.toList.take (i*P.cellsOf e1+c)++(v.cells.toList++Ca.toList.drop (i*P.cellsOf e1+c+v.cells.toList.length))).toArray T (0,0) hh;have lA:=asl hh (Cb:=(Ca.toList.take (i*P.cellsOf e1+c)++(v.cells.toList++Ca.toList.drop (i*P.cellsOf e1+c+v.cells.toList.length))).toArray) (by simpa using hlen);have wx:=fun k (hk:k≠b1)=>setRow_other w b1 k (Ca.toList.take (i*P.cellsOf e1+c)++(v.cells.toList++Ca.toList.drop (i*P.cellsOf e1+c+v.cells.toList.length))).toArray hk;generalize PT:(Ca.toList.take (i*P.cellsOf e1+c)++(v.cells.toList++Ca.toList.drop (i*P.cellsOf e1+c+v.cells.toList.length))).toArray=Cb at*
 generalize hL':l.set i (dy P e1 (jY (parts P e1 x0) c cs))=l' at*
 have o7:l'.length=l.length:=by rw[←hL'];simp
 have z9:∀k j,I k j→(w.setRow b1 Cb).cell? ⟨k,j,none⟩=w.cell? ⟨k,j,none⟩:=fun k j hk=>World.cell?_of_block (wx k (fun e=>dq j (e▸hk)));refine⟨_,cO,asg S (i:=i) (c:=c) K ae hb ha o7 wx lA (by simp) ⟨rfl,rfl⟩ ?_ ?_ hK wv uy Hr ?_⟩
 ·refine⟨hR.ok,⟨Cb,T,yo,(show Cb.size=Ca.size by rw[←PT];simpa using hlen)▸hL,by rw[o7,←PT];simp only[ui];omega,fun i' j x' t' k1 k2 k3=> ?_⟩,dq⟩;obtain⟨x1,y1,y2⟩:=cn k1 k2;rcases y2 with⟨jj,y,u,rfl,rfl,z1,z2,z3,z4⟩|⟨z3,z4⟩
  ·exact⟨u,z4,by rw[z3];exact(dI jj y u t' z1 z2 k2).mono (fun _ _ h=>h) z9 fun _ _ _ _ _=>lA _⟩
  ·obtain⟨v1,m1,m2⟩:=yn i' j x1 t' y1 k2 k3;exact⟨v1,z4.trans m1,by rw[z3];exact m2.mono (fun _ _ h=>h) z9 fun _ _ _ _ _=>lA _⟩
 ·intro a r b' e' m h;obtain⟨i',c'⟩:=a;cases h with
  |step k1 k2 k3 k4 k5 k6 k7 k8=>
   rw[yo]at k1;cases k1;obtain⟨x1,y1,y2⟩:=cn k2 k3;rcases y2 with⟨jj,y,u,rfl,rfl,z1,z2,z3,z4⟩|⟨z3,z4⟩
   ·rw[k7]at z4;obtain⟨g1,g2⟩:=asm jj y u _ _ _ _ _ _ z1 z2 k3 k4 (z3.symm.trans k5) k6 (eX z4).symm;subst g1;have mJ:=k8.zu (w:=w) fun q2 b5 e5 lb hq=>wx b5 (g2 _ _ _ _ hq).1;exact⟨(g2 _ _ _ _ mJ).1,.inr ⟨rfl,(g2 _ _ _ _ mJ).2⟩⟩
   ·rw[k5]at z3;rw[k7]at z4;have bE:∀q2 b5 e5 lb,At P w _ _ _ q2 b5 e5 lb→b5≠b1:=fun q2 b5 e5 lb hq BX=>by
     subst BX;have:=oL _ _ _ (.step hh y1 k3 k4 z3.symm k6 z4.symm hq);cases this
    have mJ:=k8.zu (w:=w) fun q2 b5 e5 lb hq=>wx b5 (bE q2 b5 e5 lb hq);exact⟨bE _ _ _ _ mJ,.inl (.step hh y1 k3 k4 z3.symm k6 z4.symm mJ)⟩
 ·intro r i' c' t' v' ea l0 aO Wy p8 hc;rcases jB with jB|jB
  ·
   have gf:∀{i' c' x1 t' e3},l[i']? =some x1→(aV P e1)[c']? =some t'→P.underlying t'=some (.slice e3)→∃x',l'[i']? =some x'∧ca P e1 x' c'=ca P e1 x1 c'∧Cb[i'*P.cellsOf e1+c']? =Ca[i'*P.cellsOf e1+c']? :=by
    intro i' c' x1 t' e3 g1 g2 g3;have aO:i'<l'.length:=by rw[o7];exact(cw.1 g1).1
    have dk:=bX aO;obtain⟨x2,y1,y2⟩:=cn dk g2;rw[g1]at y1;cases y1;rcases y2 with⟨jj,y,u,rfl,rfl,z1,z2,z3,z4⟩|⟨z3,z4⟩
    ·have:=jB jj t' (cw.1 z1).1 g2;unfold eg at this;rw[g3]at this;cases this
    ·exact⟨_,dk,z3,z4⟩
   obtain⟨b',e',m,C5,T,f,x,k1,k2,k3,k4,k5,k6⟩:=hc;refine⟨l0,rfl,?_⟩;cases k1 with
   |here=>
    rw[hh]at k2;cases k2;obtain⟨x',g1,g2,g3⟩:=gf k3 k4 p8;exact⟨_,_,l',Cb,_,_,x',.here,yo,g1,k4,g2.trans k5,g3.trans k6⟩
   |step q1 q2 q3 q4 q5 q6 q7 q8=>
    have q1':=q1;rw[hh]at q1;cases q1;obtain⟨x',g1,g2,g3⟩:=gf q2 q3 q4;have bE:∀q2 b5 e5 lb,At P w _ _ _ q2 b5 e5 lb→b5≠b1:=fun q9 b5 e5 lb hq BX=>by
     subst BX;have:=oL _ _ _ (.step hh q2 q3 q4 q5 q6 q7 hq);cases this
    have mJ:=q8.mono (w':=w.setRow b1 Cb) fun q2 b5 e5 lb hq=>wx b5 (bE q2 b5 e5 lb hq);exact⟨b',e',m,C5,T,f,x,.step yo g1 q3 q4 (g2.trans q5) q6 (g3.trans q7) mJ,(wx _ (bE _ _ _ _ q8)).trans k2,k3,k4,k5,k6⟩
  ·exact absurd Wy (jB _ (by simp) aO)
theorem JF:∀(vs:List Nat) (d k:Nat),d≤k→k<vs.length→bG (raise d vs) k=bG vs k+1
 | [],d,k,_,h=>by simp at h
 |v::vs,0,0,_,_=>by simp[raise,bG]
 |v::vs,0,k+1,_,h=>by
  have:=JF vs 0 k (nH _) (by simpa using h);simpa[raise,bG]using this
 |v::vs,d+1,0,h,_=>by omega
 |v::vs,d+1,k+1,h,h2=>by
  have:=JF vs d k (by omega) (by simpa using h2);simpa[raise,bG]using this
theorem PU:∀(vs:List Nat) (d:Nat),(raise d vs).length=vs.length
 | [],0=>rfl
 | [],d+1=>rfl
 |v::vs,0=>by simp[raise]
 |v::vs,d+1=>by simp[raise,PU vs d]
theorem JG:∀(vs:List Nat) (d k:Nat),bG vs k≤bG (raise d vs) k
 | [],0,k=>by simp[raise,bG]
 | [],d+1,k=>by simp[raise,bG]
 |v::vs,0,0=>by simp[raise,bG]
 |v::vs,0,k+1=>by
  have:=JG vs 0 k;simpa[raise,bG]using this
 |v::vs,d+1,0=>by simp[raise,bG]
 |v::vs,d+1,k+1=>by
  have:=JG vs d k;simpa[raise,bG]using this
theorem asn{t:TypeId}{v:Value}{x:V}(hv:ai P w I β hp v x)(h:fJ P t x=true)(hs:eg P t=true):Pure P w I t v x:=by
 unfold eg at hs;unfold fJ at h;cases hu:P.underlying t with
 |none=>rw[hu]at hs;cases hs
 |some d=>
  rw[hu]at hs h;cases d<;>simp only at hs<;>first|(cases hs;done)|skip
  all_goals cases x<;>simp only at h<;>first|(cases h;done)|skip
  ·rw[hv.oo];exact .bool hu
  ·simp only[jf]at h;subst h;rw[hv.gx];exact .int hu
  ·obtain⟨s,rfl,hl⟩:=hv.pO;exact .str hu hl
def Wz(P:Program)(w:World)(I:Nat→Nat→Prop)(o:Option Nat)(blk:ag)(b2:Nat)(e2:TypeId)(bR:List V):Prop:=
 (∀r b' e' m,At P w b2 e2 bR r b' e' m→jn P w I b' e' m∧bm P w o blk b')∧∀r1 r2 b' e1 m1 PW m2,At P w b2 e2 bR r1 b' e1 m1→At P w b2 e2 bR r2 b' PW m2→r1=r2
theorem WA(S:ax P w I β hp B M w0){aY b2:Nat}{e2:TypeId}{bR:List V}(ae:hp aY=some (.arr e2 bR false))(hb:β aY=some b2)(hs:(flat P e2).all (eg P)=true):
  Wz P w I (β aY) (.arr e2 bR false) b2 e2 bR:=by
 have only:∀r b' e' m,At P w b2 e2 bR r b' e' m→r=[]:=by
  intro r b' e' m h;cases h with
  |here=>rfl
  |step h1 h2 h3 h4 h5 h6 h7 h8=>
   rw[uA]at h3;have:=im.1 hs _ (nE h3);unfold eg at this;rw[h4]at this;cases this
 refine⟨fun r b' e' m h=> ?_,fun r1 r2 b' e1 m1 PW m2 h1 h2=>by rw[only _ _ _ _ h1,only _ _ _ _ h2]⟩;have:=only _ _ _ _ h;subst this;cases h;have hr:=S.h.rel aY _ ae;cases hr with
 |eM au=>rw[hb]at au;cases au
 |arr hL ao au hh aZ hf fR hx=>
  rw[hb]at au;cases au;refine⟨⟨ao,⟨_,_,hh,hL,aZ,fun i j x t' k1 k2 k3=> ?_⟩,fR rfl⟩,.root (by simp) hb⟩;obtain⟨v,m1,m2⟩:=hx i j x t' k1 k2 k3;refine⟨v,m1,.gN ?_ m2⟩;rw[uA]at k2;exact im.1 hs _ (nE k2)
theorem aso(S:ax P w I β hp B M w0){aY b2:Nat}{e2:TypeId}{bR:List V}{ux:List Nat}(ae:hp aY=some (.nest e2 bR ux))(hb:β aY=some b2):
  Wz P w I (β aY) (.nest e2 bR ux) b2 e2 bR:=by
 have hr:=S.h.rel aY _ ae;cases hr with
 |jA au=>rw[hb]at au;cases au
 |nest au cR mY=>
  rw[hb]at au;cases au;exact⟨fun r b' e' m h=>⟨cR _ _ _ _ h,.row hb h⟩,fun r1 r2 b' e1 m1 PW m2 h1 h2=>mY _ _ _ _ _ _ _ h1 h2⟩
theorem aeV{c:Nat}{e1 e2 t':TypeId}(h:(((flat P e1).drop c).take 1).all (fun u=>match P.underlying u with|some (.slice e3)=>Nat.beq e2 e3|_=>false)=true)(ht:(aV P e1)[c]? =some t'):
  P.underlying t'=some (.slice e2):=by
 rw[uA]at ht;have hm:t'∈((flat P e1).drop c).take 1:=by
  refine nE (i:=0) ?_;rw[jW (by omega),tc];simpa using ht
 have:=im.1 h _ hm;split at this
 ·rename_i e3 hu;rw[aN]at this;rw[hu,this]
 ·cases this
theorem aeW(S:ax P w I β hp B M w0){t:TypeId}{v:Value}{id aY b b1 i c:Nat}{e0 e1 e2:TypeId}{es l bR:List V}{vers:List Nat}{path:Path}{x0:V}{cC:ag}
  (ae:hp id=some (.nest e0 es vers)) (hb:β id=some b) (ha:At P w b e0 es path b1 e1 l) (ht:qI P t=true) (hn:P.cellsOf t=1)
  (hx:l[i]? =some x0) (sI:c+1≤P.cellsOf e1) (JH:(((flat P e1).drop c).take 1).all (fun u=>match P.underlying u with|some (.slice e3)=>Nat.beq e2 e3|_=>false)=true)
  (dv:hp aY=some cC) (bE:id≠aY)
  (hv:((∃a,v= .slice a 0 0)∧bR=[])∨∃b2 cap,v= .slice (some ⟨b2,0,none⟩) bR.length cap∧cap*P.cellsOf e2=bsize w b2∧bR.length≤cap∧cap≤maxLen∧Wz P w I (β aY) cC b2 e2 bR):
  tu P ((Instr.storeAt t (.pointer (some ⟨b1,i*P.cellsOf e1+c,none⟩)) v).run P w) w I β hp B M w0
   ⟨.undef,[(id,.nest e0 (setRow P (l.set i (dy P e1 (jY (parts P e1 x0) c [.list e2 bR]))) e0 es path) (raise path.length vers)),(aY,.dead)]⟩:=by
 obtain⟨tP,S1⟩:=zB S dv;have sJ:ak hp aY (some .dead) id=some (.nest e0 es vers):=by rw[cA _ _ bE];exact ae
 have yn:v.cells= #[v]:=by rcases hv with⟨⟨_,rfl⟩,_⟩|⟨b2,cap,rfl,_⟩<;>rfl
 have u5:v.oneCell'=true:=by rcases hv with⟨⟨_,rfl⟩,_⟩|⟨b2,cap,rfl,_⟩<;>rfl
 have free:∀b',bm P w (β aY) cC b'→(M b'∨B≤b')∧∀la lx,ak hp aY (some .dead) la=some lx→¬bm P w (β la) lx b':=by
  intro b' ho;refine⟨S.h.own aY cC b' dv ho,fun la lx h3 ho3=> ?_⟩;by_cases hi:la=aY
  ·subst hi;rw[bI]at h3;cases h3;exact ho3.alive rfl
  ·rw[cA _ _ hi]at h3;exact hi (S.h.inj _ _ _ _ b' h3 dv ho3 ho)
 have tQ:∀b',bm P w (β aY) cC b'→b'≠b1:=by
  intro b' ho e;subst e;exact bE (S.h.inj _ _ _ _ b' ae dv (.row hb ha) ho)
 have dI:∀(j:Nat) y u t',[V.list e2 bR][j]? =some y→v.cells.toList[j]? =some u→(aV P e1)[c+j]? =some t'→j=0∧y= .list e2 bR∧u=v∧P.underlying t'=some (.slice e2):=by
  intro j y u t' k1 k2 k3;cases j with
  |succ j=>simp at k1
  |zero=>
   rw[yn]at k2;simp at k1 k2;exact⟨rfl,k1.symm,k2.symm,aeV JH k3⟩
 rcases hv with⟨⟨a0,rfl⟩,rfl⟩|⟨b2,cap,rfl,v1,v2,v3,v4⟩
 ·obtain⟨w',r1,r2,r3⟩:=PS S1 (vers':=raise path.length vers) (fun _ _ _ _=>False) sJ hb ha ht (v:= .slice a0 0 0) hn hx (cs:=[.list e2 []]) rfl sI (by rw[yn];simp[u5])
   (fun j y u t' k1 k2 k3=>by obtain⟨rfl,rfl,rfl,k4⟩:=dI j y u t' k1 k2 k3;exact .emp k4)
   (fun j y u t' e3 jL b3 len cap k1 k2 k3 k4 k5 k6=>by obtain⟨rfl,rfl,rfl,k7⟩:=dI j y u t' k1 k2 k3;intro k8;cases k8;exact absurd k6 (pK _))
   (fun _ _ _ _ h=>h.elim) (fun _ _ _ _ _ _ _ h=>h.elim) (PU _ _) (JG _ _) (.inr fun k h1 h2=>by rw[JF _ _ _ h1 h2];omega)
  exact⟨w',I,β,r1,tP.trans r2,r3,rfl⟩
 ·obtain⟨w',r1,r2,r3⟩:=PS S1 (vers':=raise path.length vers) (fun r b' e' m=>At P w b2 e2 bR r b' e' m) sJ hb ha ht (v:= .slice (some ⟨b2,0,none⟩) bR.length cap) hn hx (cs:=[.list e2 bR]) rfl sI (by rw[yn];simp[u5])
   (fun j y u t' k1 k2 k3=>by
    obtain⟨rfl,rfl,rfl,k4⟩:=dI j y u t' k1 k2 k3;rcases GS cap with h0|h0
    ·subst h0;obtain rfl:=vB.1 (Nat.le_zero.1 v2);exact .emp k4
    ·exact .row k4 h0 v1 v2 v3)
   (fun j y u t' e3 jL b3 len cap k1 k2 k3 k4 k5 k6 k8=>by
    obtain⟨rfl,rfl,rfl,k7⟩:=dI j y u t' k1 k2 k3;cases k5;cases k8;exact⟨rfl,fun r b' e' m h=>⟨tQ _ (v4.1 _ _ _ _ h).2,h⟩⟩)
   (fun r b' e' m h=>⟨(v4.1 _ _ _ _ h).1,free _ (v4.1 _ _ _ _ h).2⟩) (fun r1 r2 b' e1 m1 PW m2 h1 h2=>v4.2 _ _ _ _ _ _ _ h1 h2) (PU _ _) (JG _ _) (.inr fun k h1 h2=>by rw[JF _ _ _ h1 h2];omega)
  exact⟨w',I,β,r1,tP.trans r2,r3,rfl⟩
theorem aeX(S:ax P w I β hp B M w0){t:TypeId}{v:Value}{x:V}{r:R}{rd:List Nat}{id b b1 i c:Nat}{e0 e1:TypeId}{es l:List V}{vers:List Nat}{path:Path}
  (ht:qI P t=true) (hn:x.cells.length=P.cellsOf t) (hv:ai P w I β hp v x) (ae:hp id=some (.nest e0 es vers)) (hb:β id=some b) (ha:At P w b e0 es path b1 e1 l)
  (h:(Na P t id e0 es vers path i c x).run C hp=some (r,rd)):tu P ((Instr.storeAt t (.pointer (some ⟨b1,i*P.cellsOf e1+c,none⟩)) v).run P w) w I β hp B M w0 r:=by
 unfold Na at h;obtain⟨aO,h⟩:=ay h;rw[nF]at aO;obtain⟨e',vv,q1,q2,h⟩:=DW h;obtain⟨p1,p2⟩:=T4 ha;rw[p1]at q1;cases q1;rw[p2]at q2;cases q2;simp only[V.toList]at h;obtain⟨ao,h⟩:=ay h;obtain⟨x0,yp,h⟩:=o5 h;obtain⟨sI,h⟩:=ay h;rw[gG]at sI;have slice:∀e2,P.underlying t=some (.slice e2)→
   ((((Rd.aw ((((flat P e1).drop c).take x.cells.length).all fun u=>match P.underlying u with|some (.slice e3)=>Nat.beq e2 e3|_=>false) (
     match(generalizing:=false) x with
     | .nilS e3=> .aw (Nat.beq e2 e3) (.ret ⟨.undef,[(id,.nest e0 (setRow P (l.set i (dy P e1 (jY (parts P e1 x0) c [.list e2 []]))) e0 es path) (raise path.length vers))]⟩)
     | .whole e3 aY=> .get aY fun
      |some (.arr e4 bR false)=> .aw (Nat.beq e2 e3&&(Nat.beq e3 e4&&(!(Nat.beq id aY)&&(flat P e2).all (eg P))))
        (.ret ⟨.undef,[(id,.nest e0 (setRow P (l.set i (dy P e1 (jY (parts P e1 x0) c [.list e2 bR]))) e0 es path) (raise path.length vers)),(aY,.dead)]⟩)
      |some (.nest e4 bR _)=> .aw (Nat.beq e2 e3&&(Nat.beq e3 e4&& !(Nat.beq id aY)))
        (.ret ⟨.undef,[(id,.nest e0 (setRow P (l.set i (dy P e1 (jY (parts P e1 x0) c [.list e2 bR]))) e0 es path) (raise path.length vers)),(aY,.dead)]⟩)
      |_=> .fail
     |_=> .fail)):Rd R).run C hp))=some (r,rd)→
   tu P ((Instr.storeAt t (.pointer (some ⟨b1,i*P.cellsOf e1+c,none⟩)) v).run P w) w I β hp B M w0 r:=by
  intro e2 hu h;obtain⟨JH,h⟩:=ay h;cases x with
  |nilS e3=>
   obtain⟨hc,h⟩:=ay h;obtain rfl:=aM h;rw[aN]at hc;subst hc;cases hv with
   |nilS=>
    obtain⟨w',r1,r2,r3⟩:=PS S (v:= .slice none 0 0) (vers':=raise path.length vers) (fun _ _ _ _=>False) ae hb ha ht hn.symm yp (cs:=[.list e2 []]) rfl sI (by simp[Value.cells,Value.oneCell'])
     (fun j y u t' k1 k2 k3=>by
      cases j with
      |succ j=>simp at k1
      |zero=>
       simp[Value.cells]at k1 k2;subst k1;subst k2;exact .emp (aeV JH k3))
     (fun j y u t' e3 jL b3 len cap k1 k2 k3 k4 k5 k6=>by
      cases j with
      |succ j=>simp at k1
      |zero=>simp[Value.cells]at k2;subst k2;intro k8;cases k8)
     (fun _ _ _ _ h=>h.elim) (fun _ _ _ _ _ _ _ h=>h.elim) (PU _ _) (JG _ _) (.inr fun k h1 h2=>by rw[JF _ _ _ h1 h2];omega)
    exact⟨w',I,β,r1,r2,r3,rfl⟩
  |whole e3 aY=>
   obtain⟨l1,h⟩:=run_get h;cases dv:hp aY with
   |none=>rw[dv]at h;cases h
   |some cC=>
    rw[dv]at h;cases cC with
    |dead=>cases h
    |var _=>cases h
    |map _ _=>cases h
    |out _ _ _ _=>cases h
    |arr e4 bR fz=>
     cases fz with
     |true=>cases h
     |false=>
      obtain⟨hc,h⟩:=ay h;obtain rfl:=aM h;simp only[aG,aN,nG]at hc;obtain⟨rfl,rfl,bE,jB⟩:=hc;have WB:id≠aY:=fun e=>by rw[e,oX]at bE;cases bE
      refine aeW S ae hb ha ht hn.symm yp sI JH dv WB ?_;cases hv with
      |ei bU=>rw[dv]at bU;cases bU
      |dZ bU fh=>rw[dv]at bU;cases bU;exact .inl ⟨⟨_,rfl⟩,rfl⟩
      |whole bU fh bO hle uB=>
       rw[dv]at bU;cases bU;exact .inr ⟨_,_,rfl,bO,hle,uB,WA S dv fh jB⟩
      |eA bU=>rw[dv]at bU;cases bU
      |fK bU=>rw[dv]at bU;cases bU
      |dQ bU=>rw[dv]at bU;cases bU
    |nest e4 bR ux=>
     obtain⟨hc,h⟩:=ay h;obtain rfl:=aM h;simp only[aG,aN,nG]at hc;obtain⟨rfl,rfl,bE⟩:=hc;have WB:id≠aY:=fun e=>by rw[e,oX]at bE;cases bE
     refine aeW S ae hb ha ht hn.symm yp sI JH dv WB ?_;cases hv with
     |ei bU=>rw[dv]at bU;cases bU
     |dZ bU fh=>rw[dv]at bU;cases bU
     |whole bU=>rw[dv]at bU;cases bU
     |eA bU fh=>rw[dv]at bU;cases bU;exact .inl ⟨⟨_,rfl⟩,rfl⟩
     |fK bU=>rw[dv]at bU;cases bU
     |dQ bU fh bO hle uB=>
      rw[dv]at bU;cases bU;exact .inr ⟨_,_,rfl,bO,hle,uB,aso S dv fh⟩
  |_=>cases h
 have gN:(((Rd.aw ((((flat P e1).drop c).take x.cells.length).all (eg P)&&xr P (((flat P e1).drop c).take x.cells.length) x.cells)
   (.ret ⟨.undef,[(id,.nest e0 (setRow P (l.set i (dy P e1 (jY (parts P e1 x0) c x.cells))) e0 es path) vers)]⟩)):Rd R).run C hp)=some (r,rd)→
   tu P ((Instr.storeAt t (.pointer (some ⟨b1,i*P.cellsOf e1+c,none⟩)) v).run P w) w I β hp B M w0 r:=by
  intro h;obtain⟨hc,h⟩:=ay h;obtain rfl:=aM h;simp only[aG]at hc;obtain⟨hs,fj⟩:=hc;obtain⟨tl,tg⟩:=Bl fj;have WC:∀(j:Nat) t',j<x.cells.length→(aV P e1)[c+j]? =some t'→(((flat P e1).drop c).take x.cells.length)[j]? =some t':=by
   intro j t' hj fS;rw[jW hj,tc];rw[uA]at fS;exact fS
  have sat:∀(j:Nat) t',j<x.cells.length→(aV P e1)[c+j]? =some t'→eg P t'=true:=fun j t' hj fS=>
   im.1 hs _ (nE (WC j t' hj fS))
  have tR:v.cells.size=x.cells.length∧∀(j:Nat) u y,v.cells.toList[j]? =some u→x.cells[j]? =some y→ai P w I β hp u y:=by
   have base:(∀xs,x≠ .agg xs)→x.cells=[x]→v.cells.size=x.cells.length∧∀(j:Nat) u y,v.cells.toList[j]? =some u→x.cells[j]? =some y→ai P w I β hp u y:=by
    intro _ vS;rw[vS]at tl tg WC⊢;have h0:0<(((flat P e1).drop c).take [x].length).length:=by rw[tl];exact Nat.one_pos
    have fj:=tg 0 _ x (bX h0) rfl;obtain⟨o1,o2⟩:=acg hv fj;rw[o2];refine⟨rfl,fun j u y hu hy=> ?_⟩;cases j with
    |zero=>simp at hu hy;subst hu;subst hy;exact hv
    |succ j=>simp at hy
   cases x with
   |agg xs=>
    obtain⟨cs,rfl,h1,h2⟩:=hv.oq;exact⟨h1,fun j u y a b=>h2 j u y (by simpa[Value.cells]using a) b⟩
   |_=>exact base (by simp) rfl
  have pure:∀(j:Nat) u y t',v.cells.toList[j]? =some u→x.cells[j]? =some y→(aV P e1)[c+j]? =some t'→Pure P w I t' u y:=by
   intro j u y t' hu hy fS;have hj:=(cw.1 hy).1;exact asn (tR.2 j u y hu hy) (tg j t' y (WC j t' hj fS) hy) (sat j t' hj fS)
  obtain⟨w',r1,r2,r3⟩:=PS S (v:=v) (vers':=vers) (fun _ _ _ _=>False) ae hb ha ht (by rw[tR.1];exact hn.symm) yp tR.1.symm sI (fun u hu=>by
    obtain⟨j,hj⟩:=vC hu;have dt:j<x.cells.length:=by rw[←tR.1];simpa using(cw.1 hj).1
    have u6:c+j<(aV P e1).length:=by rw[fL ao];omega
    have one:∀t' y,Pure P w I t' u y→u.oneCell'=true:=by intro t' y h;cases h<;>rfl
    exact one _ _ (pure j u _ _ hj (bX dt) (bX u6)))
   (fun j y u t' k1 k2 k3=> .gN (sat j t' (cw.1 k1).1 k3) (pure j u y t' k2 k1 k3))
   (fun j y u t' e3 jL b3 len cap k1 k2 k3 k4 k5 k6=>by
    have:=sat j t' (cw.1 k1).1 k3;unfold eg at this;rw[k4]at this;cases this)
   (fun _ _ _ _ h=>h.elim) (fun _ _ _ _ _ _ _ h=>h.elim) rfl (fun _=>aW _) (.inl fun j t' hj fS=>sat j t' hj fS)
  exact⟨w',I,β,r1,r2,r3,rfl⟩
 cases hu:P.underlying t with
 |none=>rw[hu]at h;exact gN h
 |some d=>
  cases d with
  |slice e2=>rw[hu]at h;exact slice e2 hu h
  |_=>rw[hu]at h;exact gN h
end
section
variable {P:Program}{w w':World}{I I':Nat→Nat→Prop}{β β':Nat→Option Nat}{hp hp':Nat→Option ag}{C:af}{B:Nat}{M:Nat→Prop}{w0:Start}
theorem Aa{e e1:TypeId}(h:rowOf P e=some e1):P.underlying e=some (.slice e1)∧bW P e=false∧di P e=true∧di P e1=true∧(flat P e1).all (eg P)=true:=by
 unfold rowOf at h;split at h
 ·rename_i e2 hu;cases hc:(!(bW P e)&&(di P e&&(di P e2&&(flat P e2).all (eg P))))with
  |false=>rw[hc]at h;cases h
  |true=>
   rw[hc]at h;cases h;simp only[aG,nG]at hc;exact⟨hu,hc.1,hc.2.1,hc.2.2.1,hc.2.2.2⟩
 ·cases h
theorem asp{e1:TypeId}(jq:(flat P e1).all (eg P)=true){w:World}{b1 b':Nat}{e':TypeId}{l m:List V}{r:Path}(h:At P w b1 e1 l r b' e' m):r=[]∧b'=b1∧e'=e1∧m=l:=by
 cases h with
 |here=>exact⟨rfl,rfl,rfl,rfl⟩
 |step h1 h2 h3 h4 h5 h6 h7 h8=>
  rw[uA]at h3;have:=im.1 jq _ (nE h3);unfold eg at this;rw[h4]at this;cases this
def BY(P:Program)(w:World)(e1:TypeId)(K:Nat→List V→Prop)(v:Value)(l:List V):Prop:=
 (l=[]∧∃a,v= .slice a 0 0)∨
 (∃b1 cap,0<cap∧v= .slice (some ⟨b1,0,none⟩) l.length cap∧cap*P.cellsOf e1=bsize w b1∧l.length≤cap∧cap≤maxLen∧K b1 l)
theorem aeY{b:Nat}{e e1:TypeId}{ys:List V}{vers:List Nat}{C':Array Value}(hr:rowOf P e=some e1)
  {T:TypeId} (yo:w'.heap[b]? =some (.cells C' T (0,0))) (hlen:ys.length≤C'.size) (dq:∀j,¬I b j) (K:Nat→Nat→List V→Prop)
  (gZ:∀(i:Nat) x,ys[i]? =some x→∃l v,x= .list e1 l∧C'[i]? =some v∧BY P w e1 (K i) v l)
  (hK:∀i b1 l,K i b1 l→b1≠b∧w'.heap[b1]? =w.heap[b1]? ∧jn P w I b1 e1 l)
  (wv:∀i j b1 l m,K i b1 l→K j b1 m→i=j):
  (∀b',bm P w' (some b) (.nest e ys vers) b'→b'=b∨∃i l,K i b' l)∧
  ∀{cG gv},(∀b j,I b j→w'.cell? ⟨b,j,none⟩=w.cell? ⟨b,j,none⟩)→fg P w' I cG gv (some b) (.nest e ys vers):=by
 obtain⟨hu,cu,ao,qh,jq⟩:=Aa hr;have hLs:uw P T e C'.size:=fun eH=>by unfold isByte at eH;rw[hu]at eH;cases eH
 have lN:aV P e=[e]:=by simp[aV,cu]
 have hk:P.cellsOf e=1:=by rw[←fL ao,lN];rfl
 have BZ:∀x j,ca P e x j=x:=fun x j=>by simp[ca,cu]
 have JI:∀q b2 e2 m,At P w' b e ys q b2 e2 m→(q=[]∧b2=b∧e2=e∧m=ys)∨∃i,q=[(i,0)]∧e2=e1∧K i b2 m:=by
  intro q b2 e2 m h;cases h with
  |here=>exact .inl ⟨rfl,rfl,rfl,rfl⟩
  |step h1 h2 h3 h4 h5 h6 h7 h8=>
   right;rw[yo]at h1;cases h1;rw[lN]at h3;obtain⟨hc,ht⟩:=cw.1 h3;simp only[List.length_singleton,Nat.lt_one_iff]at hc;subst hc;simp only[List.getElem_singleton]at ht;subst ht;rw[hu]at h4;cases h4;rw[BZ]at h5;subst h5;rw[hk,iR,Nat.add_zero]at h7;obtain⟨l,v,hl,hv,hh⟩:=gZ _ _ h2;cases hl;rw[hv]at h7;cases h7;rcases hh with⟨rfl,a',he⟩|⟨b1',Wt,_,he,_,_,_,tA⟩
   ·cases he;exact absurd h6 (pK _)
   ·cases he;obtain⟨rfl,rfl,rfl,rfl⟩:=asp jq h8;exact⟨_,rfl,rfl,tA⟩
 have ld:∀i b1 l,K i b1 l→w'.heap[b1]? =w.heap[b1]? :=fun i b1 l h=>(hK i b1 l h).2.1;refine⟨fun b' ho=> ?_,fun z8=> ?_⟩
 ·cases ho with
  |root _ h=>exact .inl (eX h).symm
  |row h ha=>
   cases h;rcases JI _ _ _ _ ha with⟨_,h,_,_⟩|⟨i,_,_,tA⟩
   ·exact .inl h
   ·exact .inr ⟨_,_,tA⟩
 ·refine .nest rfl (fun q b2 e2 m h=> ?_) (fun q1 q2 b2 e2 m2 e3 m3 h1 h2=> ?_)
  ·rcases JI _ _ _ _ h with⟨rfl,rfl,rfl,rfl⟩|⟨i,rfl,rfl,tA⟩
   ·refine⟨ao,⟨C',_,yo,hLs,by rw[hk,iR];exact hlen,fun i j x t' hx ht hj=> ?_⟩,dq⟩;rw[hk]at hj;have JJ:j=0:=by omega
    subst JJ;rw[lN]at ht;simp only[List.getElem?_cons_zero,eU]at ht;subst ht;obtain⟨l,v,rfl,hv,hh⟩:=gZ _ _ hx;refine⟨v,by rw[hk,iR,Nat.add_zero];exact hv,?_⟩;rw[BZ];rcases hh with⟨rfl,a,rfl⟩|⟨b1,cap,h0,rfl,hs,hl,hm,tA⟩
    ·exact .emp hu
    ·exact .row hu h0 (by rw[hs,Hs (ld _ _ _ tA)]) hl hm
   ·obtain⟨_,_,⟨ok,⟨Ca,T2,c1,c0,c2,c3⟩,nI⟩⟩:=hK _ _ _ tA;refine⟨ok,⟨Ca,T2,(ld _ _ _ tA).trans c1,c0,c2,fun i' j x t' hx ht hj=> ?_⟩,nI⟩;obtain⟨v,m1,m2⟩:=c3 i' j x t' hx ht hj;have jB:eg P t'=true:=by
     rw[uA]at ht;exact im.1 jq _ (nE ht)
    refine⟨v,m1,?_⟩;generalize ca P e2 x j=y at m2;cases m2 with
    |gN a p=>exact .gN a (p.mono (fun _ _ h=>h) z8)
    |emp a=>unfold eg at jB;rw[a]at jB;cases jB
    |row a _ _ _ _=>unfold eg at jB;rw[a]at jB;cases jB
  ·rcases JI _ _ _ _ h1 with⟨rfl,rfl,_,_⟩|⟨i,rfl,_,k1⟩
   ·rcases JI _ _ _ _ h2 with⟨rfl,_,_,_⟩|⟨j,rfl,_,k2⟩
    ·rfl
    ·exact absurd rfl (hK _ _ _ k2).1
   ·rcases JI _ _ _ _ h2 with⟨rfl,rfl,_,_⟩|⟨j,rfl,_,k2⟩
    ·exact absurd rfl (hK _ _ _ k1).1
    ·rw[wv _ _ _ _ _ k1 k2]
theorem WD(S:ax P w I β hp B M w0){id b:Nat}{e e1:TypeId}{es:List V}{vers:List Nat}(hr:rowOf P e=some e1)(ae:hp id=some (.nest e es vers))(hb:β id=some b):
  ∃Ca T,w.heap[b]? =some (.cells Ca T (0,0))∧es.length≤Ca.size∧(∀j,¬I b j)∧
   (∀(i:Nat) x,es[i]? =some x→∃l v,x= .list e1 l∧Ca[i]? =some v∧BY P w e1 (fun b1 l=>At P w b e es [(i,0)] b1 e1 l) v l)∧
   (∀i b1 l,At P w b e es [(i,0)] b1 e1 l→b1≠b∧b1<w.heap.size∧jn P w I b1 e1 l∧(M b1∨B≤b1)∧bm P w (β id) (.nest e es vers) b1)∧
   ∀i j b1 l m,At P w b e es [(i,0)] b1 e1 l→At P w b e es [(j,0)] b1 e1 m→i=j:=by
 obtain⟨hu,cu,ao,qh,jq⟩:=Aa hr;have lN:aV P e=[e]:=by simp[aV,cu]
 have hk:P.cellsOf e=1:=by rw[←fL ao,lN];rfl
 have BZ:∀x j,ca P e x j=x:=fun x j=>by simp[ca,cu]
 have cX:=S.h.rel id _ ae;rw[hb]at cX;cases cX with
 |jA h=>cases h
 |nest au cR mY=>
  cases au;obtain⟨_,⟨Ca,T,c1,_,c2,c3⟩,nI⟩:=cR _ _ _ _ .here;rw[hk,iR]at c2;refine⟨Ca,T,c1,c2,nI,fun i x hx=> ?_,fun i b1 l ha=> ?_,fun i j b1 l m h1 h2=> ?_⟩
  ·obtain⟨v,hv,ho⟩:=c3 i 0 x e hx (by rw[lN];rfl) (by rw[hk];exact Nat.one_pos);rw[hk,iR,Nat.add_zero]at hv;rw[BZ]at ho;cases ho with
   |gN a _=>unfold eg at a;rw[hu]at a;cases a
   |emp a=>rw[hu]at a;cases a;exact⟨[],_,rfl,hv,.inl ⟨rfl,_,rfl⟩⟩
   |@row _ l b1 cap a h0 hs hl hm=>
    rw[hu]at a;cases a;refine⟨l,_,rfl,hv,.inr ⟨b1,cap,h0,rfl,hs,hl,hm,?_⟩⟩;exact .step c1 hx (by rw[lN];rfl) hu (BZ _ _) h0 (by rw[hk,iR,Nat.add_zero];exact hv) .here
  ·have ho:bm P w (β id) (.nest e es vers) b1:= .row hb ha;refine⟨fun h=> ?_,S.h.lt ae ho,cR _ _ _ _ ha,S.h.own id _ b1 ae ho,ho⟩;subst h;exact absurd (mY _ _ _ _ _ _ _ ha .here) (by simp)
  ·have:=mY _ _ _ _ _ _ _ h1 h2;simpa using this
theorem aeZ(l:List Nat)(k:Nat)(h:k<l.length):bG l k<bG (l.map (· +1)) k:=by
 induction l generalizing k with
 |nil=>simp at h
 |cons a l ih=>
  cases k with
  |zero=>simp[bG]
  |succ k=>simpa[bG]using ih k (by simpa using h)
theorem asq{l:List Nat}{k:Nat}(h:l.length≤k):bG l k=0:=by
 induction l generalizing k with
 |nil=>rfl
 |cons a l ih=>
  cases k with
  |zero=>simp at h
  |succ k=>simpa[bG]using ih (by simpa using h)
theorem asr(S:ax P w I β hp B M w0){id nb b i:Nat}{e e1:TypeId}{es:List V}{y:V}{vers:List Nat}(hr:rowOf P e=some e1)(ae:hp id=some (.nest e es vers))(hb:β id=some b)(hy:es[i]? =some y)(hn:hp nb=none):
  ∃wy,Le P w I β hp w I wy (ak (ak hp id (some (.out e es (vers.map (· +1)) i))) nb (some (.arr e1 y.toList false)))∧
   ax P w I wy (ak (ak hp id (some (.out e es (vers.map (· +1)) i))) nb (some (.arr e1 y.toList false))) B M w0∧
   ∀Ca v T f,w.heap[b]? =some (.cells Ca T f)→Ca[i]? =some v→ai P w I wy (ak (ak hp id (some (.out e es (vers.map (· +1)) i))) nb (some (.arr e1 y.toList false))) v (.whole e1 nb):=by
 obtain⟨hu,cu,ao,qh,jq⟩:=Aa hr;obtain⟨Ca,T0,c1,c2,nI,rc,rk,ru⟩:=WD S hr ae hb;have Eg:aV P e1=flat P e1:=uA e1;have lN:aV P e=[e]:=by simp[aV,cu]
 have BZ:∀x j,ca P e x j=x:=fun x j=>by simp[ca,cu]
 have hk:P.cellsOf e=1:=by rw[←fL ao,lN];rfl
 have ri:=(cw.1 hy).1;have PX:∀(j:Nat) l b1 cap,es[j]? =some (.list e1 l)→0<cap→Ca[j]? =some (.slice (some ⟨b1,0,none⟩) l.length cap)→At P w b e es [(j,0)] b1 e1 l:=
  fun j l b1 cap hx h0 hv=> .step c1 hx (by rw[lN];rfl) hu (BZ _ _) h0 (by rw[hk,iR,Nat.add_zero];exact hv) .here
 have bE:nb≠id:=fun h=>by rw[h,ae]at hn;cases hn
 have vR:∀b',bm P w (some b) (.out e es (vers.map (· +1)) i) b'→bm P w (some b) (.nest e es vers) b'∧∀l,¬At P w b e es [(i,0)] b' e1 l:=by
  intro b' ho;cases ho with
  |root _ h=>cases h;exact⟨.root (by simp) rfl,fun l ha=>(rk _ _ _ ha).1 rfl⟩
  |@sg _ e2 _ l _ _ j b2 _ cap C' T f h1 h2 hj hx h0 hv=>
   cases h1;rw[c1]at h2;cases h2;obtain⟨l',v',m1,m2,m3⟩:=rc _ _ hx;cases m1;have ha:=PX _ _ _ _ hx h0 hv;exact⟨.row rfl ha,fun l2 ha2=>hj (ru _ _ _ _ _ ha ha2)⟩
 have hes:es≠[]:=fun h=>by rw[h]at ri;simp at ri
 obtain⟨l1,S1⟩:=T8 (w':=w) S (blk':= .out e es (vers.map (· +1)) i) ae (by simp)
  ⟨⟨rfl,rfl,by simp,fun k=>by
    by_cases hk:k<vers.length
    ·exact Nat.le_of_lt (aeZ _ _ hk)
    ·rw[asq (by omega)];exact nH _⟩,fun k hk=>aeZ _ _ hk,hes⟩ hb nI (.inr (by simp)) (fun _ _=>rfl) rfl (aW _) ⟨rfl,rfl⟩
  (fun b' h=> .inl (vR b' h).1) (fun _=>by
   refine .out rfl hu (by rw[Eg];exact jq) c1 c2 ri nI (fun j x hj hx=> ?_) (fun j b1 cap l hj hx h0 hv=> ?_) (fun j k b1 c1 c2 l m hj hk hx hz h1 h2 hv qT=> ?_)
   ·obtain⟨l,v,m1,m2,m3⟩:=rc j x hx;refine⟨l,v,m1,m2,?_⟩;subst m1;rcases m3 with⟨rfl,a,rfl⟩|⟨b1,cap,h0,rfl,q1,q2,q3,_⟩
    ·exact .emp hu
    ·exact .row hu h0 q1 q2 q3
   ·have:=rk _ _ _ (PX _ _ _ _ hx h0 hv);exact⟨this.1,this.2.2.1⟩
   ·exact ru _ _ _ _ _ (PX _ _ _ _ hx h1 hv) (PX _ _ _ _ hz h2 qT))
 have jO:ak hp id (some (.out e es (vers.map (· +1)) i)) nb=none:=by rw[cA _ _ bE];exact hn
 obtain⟨l,v,Ab,hv,gZ⟩:=rc i y hy;subst Ab;rcases gZ with⟨rfl,a,rfl⟩|⟨b1,cap,h0,rfl,q1,q2,q3,ha⟩
 ·obtain⟨a1,a2⟩:=Hw S1 (fz:=false) e1 jO;refine⟨_,l1.trans a1,a2,fun Be v' T f h1 h2=> ?_⟩;rw[c1]at h1;cases h1;rw[hv]at h2;cases h2;exact .dZ (bI _ _ _) (bI _ _ _)
 ·obtain⟨d1,d2,⟨ok,⟨C1,_,e2,e0,e3,e4⟩,nI1⟩,d4,d5⟩:=rk _ _ _ ha;obtain⟨a1,a2⟩:=D0 S1 (w':=w) (blk:= .arr e1 l false) (b:=b1) jO
   (fun aq blk' h ho=>by
    by_cases hi:aq=id
    ·subst hi;rw[bI]at h;cases h;rw[hb]at ho;exact(vR _ ho).2 _ ha
    ·rw[cA _ _ hi]at h;exact hi (S.h.inj _ _ _ _ _ h ae ho d5))
   (fun j h=>absurd h (nI1 j)) (fun _ _ _=>rfl) (aW _) ⟨rfl,rfl⟩ d4 (fun b' h=>(eX (h.flat (by simp))).symm)
   (fun hle=> .arr e0 qh rfl e2 e3 (fun h=>by cases h) (fun _=>nI1) fun i' j x t' k1 k2 k3=>by
    obtain⟨u,m1,m2⟩:=e4 i' j x t' k1 k2 k3;have jB:eg P t'=true:=by
     rw[Eg]at k2;exact im.1 jq _ (nE k2)
    refine⟨u,m1,?_⟩;generalize ca P e1 x j=z at m2⊢;cases m2 with
    |gN _ p=>exact p
    |emp a=>unfold eg at jB;rw[a]at jB;cases jB
    |row a _ _ _ _=>unfold eg at jB;rw[a]at jB;cases jB)
  refine⟨_,l1.trans a1,a2,fun Be v' T f h1 h2=> ?_⟩;rw[c1]at h1;cases h1;rw[hv]at h2;cases h2;exact .whole (es:=l) (bI _ _ _) (bI _ _ _) q1 q2 q3
theorem ass(S:ax P w I β hp B M w0){t e e1:TypeId}{v:Value}{id aY b i:Nat}{es bR:List V}{vers:List Nat}(hr:rowOf P e=some e1)(ae:hp id=some (.out e es vers i))(hb:β id=some b)
  (ht:qI P t=true) (hn:P.cellsOf t=1) (dv:hp aY=some (.arr e1 bR false)) (bE:id≠aY) (hv:ai P w I β hp v (.whole e1 aY)):
  tu P ((Instr.storeAt t (.pointer (some ⟨b,i*P.cellsOf e+0,none⟩)) v).run P w) w I β hp B M w0 ⟨.undef,[(id,.nest e (es.set i (.list e1 bR)) vers),(aY,.dead)]⟩:=by
 obtain⟨hu,cu,ao,qh,jq⟩:=Aa hr;have lN:aV P e=[e]:=by simp[aV,cu]
 have hk:P.cellsOf e=1:=by rw[←fL ao,lN];rfl
 obtain⟨tP,S1⟩:=zB S dv;have sJ:ak hp aY (some .dead) id=some (.out e es vers i):=by rw[cA _ _ bE];exact ae
 have cX:=S.h.rel id _ ae;rw[hb]at cX;cases cX with
 |out au mK aHd hh hs hi hI hc cR mY=>
 cases au;rw[hu]at mK;cases mK;rename_i Ca;have gZ:∃K:Nat→List V→Prop,BY P w e1 K v bR∧(∀b1 l,K b1 l→b1≠b∧jn P w I b1 e1 l∧(M b1∨B≤b1)∧(∀aq blk',ak hp aY (some .dead) aq=some blk'→¬bm P w (β aq) blk' b1))∧v.cells= #[v]∧v.oneCell'=true:=by
  cases hv with
  |ei hd=>rw[dv]at hd;cases hd
  |dQ hd=>rw[dv]at hd;cases hd
  |eA hd=>rw[dv]at hd;cases hd
  |fK hd=>rw[dv]at hd;cases hd
  |@dZ _ _ _ a0 hd hb=>rw[dv]at hd;cases hd;exact⟨fun _ _=>False,.inl ⟨rfl,a0,rfl⟩,fun _ _ h=>h.elim,rfl,rfl⟩
  |@whole _ _ _ _ b2 cap hd fh aZ bO hm=>
   rw[dv]at hd;cases hd;obtain⟨m1,m2⟩:=WA S dv fh jq;obtain⟨m3,m4⟩:=m1 _ _ _ _ .here;rcases GS cap with h0|h0
   ·subst h0;obtain rfl:=vB.1 (Nat.le_zero.1 bO);exact⟨fun _ _=>False,.inl ⟨rfl,_,rfl⟩,fun _ _ h=>h.elim,rfl,rfl⟩
   ·refine⟨fun b1 l=>b1=b2∧l=bR,.inr ⟨b2,cap,h0,rfl,aZ,bO,hm,rfl,rfl⟩,fun b1 l h=> ?_,rfl,rfl⟩;obtain⟨rfl,rfl⟩:=h;refine⟨fun h=> ?_,m3,S.h.own aY _ _ dv m4,fun aq blk' h' ho=> ?_⟩
    ·subst h;exact bE (S.h.inj _ _ _ _ _ ae dv (.root (by simp) hb) m4)
    ·by_cases q:aq=aY
     ·subst q;rw[bI]at h';cases h';exact absurd rfl ho.alive
     ·rw[cA _ _ q]at h';exact q (S.h.inj aq aY _ _ _ h' dv ho m4)
 obtain⟨K,k1,k2,k3,k4⟩:=gZ;have ri:i<Ca.size:=by omega
 have cO:=NM (t:=t) (o:=i*P.cellsOf e+0) (v:=v) ht (by rw[hn,k3];rfl) hh (by rw[k3,hk];simp;omega) (by rw[k3];simp[k4]);rw[k3,hk,iR,Nat.add_zero]at cO;have hC:(Ca.toList.take i++(#[v].toList++Ca.toList.drop (i+ #[v].toList.length))).toArray.size=Ca.size:=by simp;omega
 have kD:∀j,(Ca.toList.take i++(#[v].toList++Ca.toList.drop (i+ #[v].toList.length))).toArray[j]? =if j=i then some v else Ca[j]? :=by
  intro j;rw[qy,tt _ _ _ _ (by simp;omega)];simp only[List.length_singleton,uk];by_cases h1:j<i
  ·rw[aF h1,aD (by omega)]
  ·rw[aD h1];by_cases h2:j=i
   ·subst h2;simp
   ·rw[aD (by omega),aD h2]
 rw[hk,iR,Nat.add_zero];generalize hCb:(Ca.toList.take i++(#[v].toList++Ca.toList.drop (i+ #[v].toList.length))).toArray=Cb at cO hC kD;have dI:=setRow_heap w b Ca Cb _ (0,0) hh;have wx:=fun k (hk:k≠b)=>setRow_other w b k Cb hk;obtain⟨p1,p2⟩:=aeY (w:=w) (w':=w.setRow b Cb) (I:=I) (vers:=vers) (ys:=es.set i (.list e1 bR)) hr dI (by simp;omega) hI
  (fun j b1 l=>(j=i∧K b1 l)∨(j≠i∧∃cap,es[j]? =some (.list e1 l)∧0<cap∧Ca[j]? =some (.slice (some ⟨b1,0,none⟩) l.length cap)))
  (fun j x hx=>by
   rw[Dy]at hx;rw[kD];by_cases hj:i=j
   ·subst hj;simp only[qv,aF hi,eU]at hx;subst hx;refine⟨bR,v,rfl,aF rfl,?_⟩;rcases k1 with h|⟨b1,cap,h0,h1,h2,h3,h4,h5⟩
    ·exact .inl h
    ·exact .inr ⟨b1,cap,h0,h1,h2,h3,h4,.inl ⟨rfl,h5⟩⟩
   ·rw[aD hj]at hx;rw[aD (fun h=>hj h.symm)];obtain⟨l,u,m1,m2,m3⟩:=hc j x (fun h=>hj h.symm) hx;subst m1;refine⟨l,u,rfl,m2,?_⟩;cases m3 with
    |gN a _=>unfold eg at a;rw[hu]at a;cases a
    |emp a=>exact .inl ⟨rfl,_,rfl⟩
    |@row _ _ b1 cap a h0 c d f=>exact .inr ⟨b1,cap,h0,rfl,by rw[hu]at a;cases a;exact c,d,f,.inr ⟨fun h=>hj h.symm,cap,hx,h0,m2⟩⟩)
  (fun j b1 l h=>by
   rcases h with⟨_,h⟩|⟨hj,cap,hx,h0,hv⟩
   ·exact⟨(k2 _ _ h).1,wx _ (k2 _ _ h).1,(k2 _ _ h).2.1⟩
   ·obtain⟨q1,q2⟩:=cR _ _ _ _ hj hx h0 hv;exact⟨q1,wx _ q1,q2⟩)
  (fun j j' b1 l m h1 h2=>by
   have no:∀{j l m},K b1 l→(j≠i∧∃cap,es[j]? =some (.list e1 m)∧0<cap∧Ca[j]? =some (.slice (some ⟨b1,0,none⟩) m.length cap))→False:=fun h ⟨hj,cap,hx,h0,hv⟩=>
    (k2 _ _ h).2.2.2 _ _ sJ (by rw[hb];exact .sg rfl hh hj hx h0 hv)
   rcases h1 with⟨h,h1⟩|h1
   ·rcases h2 with⟨h',h2⟩|h2
    ·omega
    ·exact(no h1 h2).elim
   ·rcases h2 with⟨_,h2⟩|h2
    ·exact(no h2 h1).elim
    ·obtain⟨hj,cap,hx,h0,hv⟩:=h1;obtain⟨iY,Wt,dk,WE,JK⟩:=h2;exact mY _ _ _ _ _ _ _ hj iY hx dk h0 WE hv JK)
 obtain⟨a1,a2⟩:=T8 S1 (w':=w.setRow b Cb) (blk':= .nest e (es.set i (.list e1 bR)) vers) sJ (by simp) ⟨rfl,by simp,rfl,fun _=>aW _⟩ hb hI (.inl (by simp)) wx (by rw[ml dI,ml hh,hC]) (by simp) ⟨rfl,rfl⟩
  (fun b' ho=>by
   rcases p1 b' ho with rfl|⟨j,l,⟨_,h⟩|⟨hj,cap,hx,h0,hv⟩⟩
   ·exact .inl (.root (by simp) rfl)
   ·exact .inr ⟨(k2 _ _ h).2.2.1,(k2 _ _ h).2.2.2⟩
   ·exact .inl (.sg rfl hh hj hx h0 hv))
  (fun hle=>p2 hle.cM)
 exact⟨_,I,β,cO,tP.trans a1,a2,rfl⟩
end
section
variable {P:Program}{w w':World}{I I':Nat→Nat→Prop}{β β':Nat→Option Nat}{hp hp':Nat→Option ag}{C:af}{B:Nat}{M:Nat→Prop}{w0:Start}
theorem ast(S:ax P w I β hp B M w0){t:TypeId}{a v:Value}{xa x:V}{r:R}{rd:List Nat}(ha:ai P w I β hp a xa)(hv:ai P w I β hp v x)
  (h:(Tw P t xa x).run C hp=some (r,rd)):tu P ((Instr.storeAt t a v).run P w) w I β hp B M w0 r:=by
 unfold Tw at h;obtain⟨h0,h⟩:=ay h;simp only[aG,aN]at h0;obtain⟨ht,hn⟩:=h0;cases xa with
 |ptr id i c=>
  obtain⟨l,h⟩:=run_get h;cases ae:hp id with
  |none=>rw[ae]at h;cases h
  |some blk=>
   rw[ae]at h;cases blk with
   |dead=>cases h
   |var T0 cs=>
    obtain⟨ae0,h⟩:=ay h;have tv:vF P T0=true→0<c:=fun cv=>by
     rw[cv]at ae0;simpa using ae0
    obtain⟨b,hb,rfl⟩:=ha.jC ae (by simp);simp only[ag.sz,Nat.mul_zero,dP];cases HD:M9 P t cs with
    |true=>
     dsimp only at h;rw[HD]at h;replace h:=abS h;obtain⟨kU,h⟩:=ay h;obtain⟨e,PY,xM,D5,hse⟩:=ab3 kU;rw[Nat.sub_zero]at D5;unfold abF at h;rw[xM]at h;simp only at h;obtain⟨⟨y1,u1⟩,l3,l4,hq,h⟩:=o6 h;obtain⟨q1,q2⟩:=Hu S.h.rel hq hv;cases y1 with
     |list e' es=>
      simp only at h;obtain⟨hc,h⟩:=ay h;obtain rfl:=aM h;simp only[aG,nG,aN,nF]at hc;obtain⟨rfl,rfl,gg,xZ⟩:=hc;obtain⟨tP,S1⟩:=DY S q1;have sJ:b7 hp u1 id=some (.var T0 cs):=by
       rcases zy (hp:=hp) (l:=u1) (id:=id)with h|⟨b',hm,_⟩
       ·exact h.trans ae
       ·exfalso;have qU:jh (u1.map (·.1)) id=true:=Bm (gm.2 ⟨_,hm,rfl⟩);rw[qU]at xZ;cases xZ
      have fi:Plain P w (kG P w I β hp u1) v (.list e es):=q2 (kG P w I β hp u1) (fun _ _ h=> .inl h) (fun p hp b j h=> .inr ⟨p,hp,h⟩);have hlc:c<cs.length:=(cw.1 D5).1;have uy:ai P w (kG P w I β hp u1) β (b7 hp u1) v (.nl e es):= .nl fi fun e0=>by rw[e0]at gg;simp at gg
      have uN:v.cells= #[v]:=by
       cases uy with
       |nl q=>cases q<;>rfl
      have kJ:x.cells.length=1:=by
       cases x<;>simp only[G2]at hq<;>first|rfl|(cases hq;done)
      have key:tu P ((Instr.storeAt t (.pointer (some ⟨b,c,none⟩)) v).run P w) w (kG P w I β hp u1) β (b7 hp u1) B M w0 ⟨.undef,[(id,.var T0 (tf cs 0 c es))]⟩:=by
       refine Uh (x:=V.nl e es) S1 sJ hb ht (by rw[←hn,kJ];rfl) (by rw[uN];rfl) tv (fun j u y hu hy=> ?_) (by rw[uN];simp;cases uy with|nl q=>cases q<;>rfl) (by show c+1≤_;omega) (ab4 _ _ _ _) (fun j y hy hj u hu=> ?_) (fun j y hy hj u hu=> ?_)
       ·rw[uN]at hu;cases j with
        |zero=>simp at hu;subst hu;cases hy;exact uy
        |succ j=>cases hy
       ·refine hu y ?_;rw[←hy];exact(ab5 (by have:j<c∨c+1≤j:=hj;omega)).symm
       ·have JJ:j=0:=by have:j<1:=hj;omega
        subst JJ;have:=ab6 (xs:=es) (j0:=0) (c:=c) (by rw[Nat.sub_zero];exact D5) (nH _);rw[Nat.sub_zero]at this;rw[Nat.add_zero,this]at hy;cases hy;exact hu _ rfl
      obtain⟨w',I2,cG,z1,z2,z3,z4⟩:=key;exact⟨w',I2,cG,z1,tP.trans z2,z3,z4⟩
     |_=>cases h
    |false=>
    dsimp only at h;rw[HD]at h;replace h:=abT h;cases xN:(DI P t cs&&fJ P t x)with
    |true=>
     rw[xN]at h;simp only[cond_true]at h;obtain⟨hc,h⟩:=ay h;obtain rfl:=aM h;simp only[aG,nF]at hc xN;obtain⟨o1,o2⟩:=acg hv xN.2;have vS:=amU xN.2;refine Uh S ae hb ht hn (by rw[o2,vS];rfl) tv (fun j u y hu hy=> ?_) (by rw[o2];simp[o1]) (by rw[vS];simp;omega) (acf _ _ _ _) (fun j y hy hj u hu=> ?_) (fun j y hy hj u hu=> ?_)
     ·rw[o2]at hu;rw[vS]at hy;cases j with
      |zero=>simp at hu hy;subst hu;subst hy;exact hv
      |succ j=>simp at hy
     ·rw[Ug]at hy;cases E1:cs[j]? with
      |none=>rw[E1]at hy;cases hy
      |some y0=>
       rw[E1]at hy;simp only[Option.map_some,eU]at hy;rw[vS]at hj;simp only[List.length_singleton]at hj;have bE:Nat.beq c (0+j)=false:=by
        cases hq:Nat.beq c (0+j)with
        |false=>rfl
        |true=>rw[aN]at hq;omega
       rw[bE]at hy;have:=abZ (c:=false) hv (hu y0 E1);rw[←hy];simpa using this
     ·rw[vS]at hj hu;have JJ:j=0:=by simpa using hj
      subst JJ;rw[Ug]at hy;cases E1:cs[c+0]? with
      |none=>rw[E1]at hy;cases hy
      |some y0=>
       rw[E1]at hy;simp only[Option.map_some,eU]at hy;have heq:Nat.beq c (0+(c+0))=true:=by rw[aN];omega
       rw[heq]at hy;have h2:ai P w I β hp u x:=hu x rfl;have:zl true x y0=x:=amV x y0;rw[←hy,this];exact h2
    |false=>
     rw[xN]at h;simp only[cond_false]at h;obtain⟨hc,h⟩:=ay h;simp only[aG,gG]at hc;obtain⟨e1,e2⟩:=Uf hv h;obtain⟨h1,l2,h⟩:=NL h (vs:=v.cells.toList) (by simpa using e1) (fun j u y a b=>e2 j u y (by simpa using a) b);obtain rfl:=aM h;refine Uh S ae hb ht hn e1 tv e2 h1 hc.2 (HE _ _ _ hc.2) (fun j y hy hj u hu=> ?_) (fun j y hy hj u hu=> ?_)
     ·unfold jY at hy;rw[tt _ _ _ _ hc.2]at hy;rcases hj with hj|hj
      ·rw[aF hj]at hy;exact hu y hy
      ·rw[fZ,fZ]at hy;exact hu y hy
     ·unfold jY at hy;rw[tt _ _ _ _ hc.2,fZ,dG]at hy;rw[show c+j-c=j by omega]at hy;exact hu y hy
   |arr e es fz=>
    cases fz with
    |true=>cases h
    |false=>
    obtain⟨b,hb,rfl⟩:=ha.jC ae (by simp);obtain⟨ao,h⟩:=ay h;obtain⟨⟨ys,fr⟩,l1,l2,bK,h⟩:=o6 h;obtain⟨hc,h⟩:=ay h;obtain⟨x0,yp,h⟩:=o5 h;obtain rfl:=aM h;simp only[aG,nG,gG]at hc;obtain⟨gO,hc3,gu⟩:=hc;have tR:v.cells.size=x.cells.length∧∀(j:Nat) u y,v.cells.toList[j]? =some u→x.cells[j]? =some y→ai P w I β hp u y:=by
     cases x with
     |agg xs=>
      obtain⟨cs,rfl,h1,h2⟩:=hv.oq;exact⟨h1,fun j u y a b=>h2 j u y (by simpa[Value.cells]using a) b⟩
     |_=>
      simp only[V.cells]at bK gu⊢;simp only[zk]at bK;obtain⟨⟨y1,u1⟩,l3,l4,hq,bK⟩:=o6 bK;obtain⟨q1,q2⟩:=Hu S.h.rel hq hv;obtain⟨⟨y2,u2⟩,l5,l6,Ac,bK⟩:=o6 bK;cases Ac;have:=aM bK;cases this;obtain⟨tl,tg⟩:=Bl gu;have fj:=tg 0 _ y1 (bX (by rw[tl];exact Nat.one_pos)) rfl;have fi:=q2 (kG P w I β hp u1) (fun _ _ h=> .inl h) (fun p hp b j h=> .inr ⟨p,hp,h⟩);have ho:=fi.pure fj;have ae1:v.cells= #[v]:=by cases ho<;>rfl
      rw[ae1];refine⟨rfl,fun j u y hu hy=> ?_⟩;cases j with
      |zero=>simp at hu hy;subst hu;subst hy;exact hv
      |succ j=>simp at hy
    obtain⟨k1,k2,k3⟩:=T6 S.h.rel bK (vs:=v.cells.toList) (by simpa using tR.1) tR.2;obtain⟨tP,S1⟩:=DY S k2;have sJ:b7 hp fr id=some (.arr e es false):=by
     rcases zy (hp:=hp) (l:=fr) (id:=id)with h|⟨b',hm,_⟩
     ·exact h.trans ae
     ·exfalso;have xZ:jh (fr.map (·.1)) id=true:=Bm (gm.2 ⟨_,hm,rfl⟩);rw[xZ]at gO;cases gO
    have ae2:=k3 (kG P w I β hp fr) (fun _ _ h=> .inl h) (fun p hp b j h=> .inr ⟨p,hp,h⟩);obtain⟨tl,tg⟩:=Bl gu;have jq:=(pN ao).1;have Ab:ys.length=v.cells.size:=by rw[k1,tR.1]
    have hcn:c+v.cells.size≤P.cellsOf e:=by rw[tR.1];exact hc3
    have hr:=S1.h.rel id _ sJ;cases hr with
    |eM au=>simp at yp
    |@arr _ _ _ _ b' Ca hL Ud au hh hs hf fR hx=>
     rw[hb]at au;cases au;have qV:i<es.length:=(cw.1 yp).1;have hbound:i*P.cellsOf e+P.cellsOf e≤Ca.size:=by
      have:(i+1)*P.cellsOf e≤es.length*P.cellsOf e:=eT _ qV;rw[kO]at this;omega
     simp only[ag.sz];have zF:i*P.cellsOf e+c+v.cells.size≤Ca.size:=by omega
     have dq:∀j,¬kG P w I β hp fr b j:=fR rfl;have h1:∀u∈v.cells.toList,u.oneCell'=true:=by
      intro u hu;obtain⟨j,hj⟩:=vC hu;have dt:j<ys.length:=by rw[Ab];simpa using(cw.1 hj).1
      have u6:j<(((flat P e).drop c).take x.cells.length).length:=by rw[tl];exact dt
      exact(ae2 j u ys[j] hj (bX dt)).one (tg j _ ys[j] (bX u6) (bX dt))
     have cO:=NM (t:=t) (o:=i*P.cellsOf e+c) (v:=v) ht (by rw[tR.1];exact hn.symm) hh zF h1;have hlen:(Ca.toList.take (i*P.cellsOf e+c)++(v.cells.toList++Ca.toList.drop (i*P.cellsOf e+c+v.cells.toList.length))).length=Ca.size:=by
      rw[HE _ _ _ (by simpa using zF)];simp
     have fi:(parts P e x0).length=P.cellsOf e:=by rw[D3];exact fL ao
     have HF:=NN S1 (blk':= .arr e (es.set i (dy P e (jY (parts P e x0) c ys))) false)
      (Cb:=(Ca.toList.take (i*P.cellsOf e+c)++(v.cells.toList++Ca.toList.drop (i*P.cellsOf e+c+v.cells.toList.length))).toArray) sJ (by simp) ⟨rfl,by simp⟩ hb dq (by simp) hh (by simpa using hlen)
      (fun hle dI=> .arr (by rw[ui,hlen];exact hL) ao rfl dI (by simp only[ui,td];omega) (fun h=>by cases h) (fun _=>dq) fun i' j z t' hz u6 hj=>by
       simp only[qy];rw[tt _ _ _ _ (by simpa using zF)];simp only[Array.length_toList];rw[Dy]at hz;by_cases oM:i=i'
       ·subst oM;rw[aF rfl,aF qV]at hz;cases hz;have PZ:j<(parts P e x0).length:=by omega
        have B0:(jY (parts P e x0) c ys)[j]? =if j<c then(parts P e x0)[j]? else if j<c+ys.length then ys[j-c]? else(parts P e x0)[j]? :=by
         unfold jY;exact tt _ _ _ _ (by omega)
        by_cases xO:j<c
        ·rw[dG];rw[aF xO]at B0;obtain⟨u,t2,a1,a2,a3⟩:=NJ hx ao yp (bX PZ);rw[u6]at a1;cases a1;refine⟨u,by simpa using a2,?_⟩;rw[xP (B0.trans (bX PZ)) u6];exact a3.mono hle.eD hle.cM
        ·rw[aD xO]at B0;by_cases mn:j<c+ys.length
         ·rw[aF mn]at B0;rw[fZ,dG];have wz:j-c<ys.length:=by omega
          have hjv:j-c<v.cells.toList.length:=by simp;omega
          have aHe:j-c<v.cells.size:=by omega
          refine⟨v.cells.toList[j-c],?_,?_⟩
          ·rw[show i*P.cellsOf e+j-(i*P.cellsOf e+c)=j-c by omega];exact bX hjv
          ·rw[xP (B0.trans (bX wz)) u6];have hft:(((flat P e).drop c).take x.cells.length)[j-c]? =some t':=by
            rw[jW (by omega),tc,show c+(j-c)=j by omega,←uA];exact u6
           exact((ae2 (j-c) _ ys[j-c] (bX hjv) (bX wz)).pure (tg (j-c) t' ys[j-c] hft (bX wz))).mono hle.eD hle.cM
         ·rw[aD mn]at B0;rw[fZ,fZ];obtain⟨u,t2,a1,a2,a3⟩:=NJ hx ao yp (bX PZ);rw[u6]at a1;cases a1;refine⟨u,by simpa using a2,?_⟩;rw[xP (B0.trans (bX PZ)) u6];exact a3.mono hle.eD hle.cM
       ·rw[aD oM]at hz;obtain⟨u,a2,a3⟩:=hx i' j z t' hz u6 hj;have bE:i'*P.cellsOf e+j<i*P.cellsOf e+c∨i*P.cellsOf e+c+v.cells.size≤i'*P.cellsOf e+j:=by
         rcases jG i' i with aO|sK
         ·left;have:(i'+1)*P.cellsOf e≤i*P.cellsOf e:=eT _ aO;rw[kO]at this;omega
         ·right;have:(i+1)*P.cellsOf e≤i'*P.cellsOf e:=eT _ (by omega);rw[kO]at this;omega
        refine⟨u,?_,a3.mono hle.eD hle.cM⟩;rcases bE with bE|bE
        ·rw[aF bE];simpa using a2
        ·rw[fZ,fZ];simpa using a2)
     exact⟨_,_,_,cO,tP.trans HF.1,HF.2,rfl⟩
   |map _ _=>cases h
   |out e es vers j=>
    obtain⟨b,hb,rfl⟩:=ha.jC ae (by simp);unfold abI at h;obtain⟨hc,h5⟩:=ay h;clear h;simp only[aG,aN]at hc;obtain⟨rfl,rfl⟩:=hc;cases hr:rowOf P e with
    |none=>simp only[hr]at h5;cases h5
    |some e1=>
     simp only[hr]at h5;cases x with
     |whole e3 aY=>
      obtain⟨l1,h6⟩:=run_get h5;cases dv:hp aY with
      |none=>rw[dv]at h6;cases h6
      |some cC=>
       rw[dv]at h6;cases cC with
       |arr e4 bR fz=>
        cases fz with
        |true=>cases h6
        |false=>
         obtain⟨hc,h7⟩:=ay h6;obtain rfl:=aM h7;simp only[aG,aN,nG]at hc;obtain⟨rfl,rfl,bE⟩:=hc;exact ass S hr ae hb ht hn.symm dv (fun e=>by rw[e,oX]at bE;cases bE) hv
       |_=>cases h6
     |_=>cases h5
   |nest e es vers=>
    obtain⟨b,hb,rfl⟩:=ha.jC ae (by simp);exact aeX S ht hn hv ae hb .here h
 |dH id ver path i c=>
  obtain⟨e0,es,vers,l,ae,h1,h2,h3,h⟩:=tn h;obtain⟨b,b1,e1,l1,hb,gb,rfl⟩:=ha.abU ae h1 h2 h3;exact aeX S ht hn hv ae hb gb h
 |_=>cases h
end
section
variable {P:Program}{w w':World}{I I':Nat→Nat→Prop}{β β':Nat→Option Nat}{hp hp':Nat→Option ag}{C:af}{B:Nat}{M:Nat→Prop}{w0:Start}
theorem P0:∀{ts:List TypeId} {vs:List Value} {j:Nat} {y:V},(kP P ts vs)[j]? =some y→∃t v,ts[j]? =some t∧vs[j]? =some v∧y=te P t v
 | [],vs,j,y,h=>by simp[kP]at h
 |_::_,[],j,y,h=>by simp[kP]at h
 |t::ts,v::vs,0,y,h=>by simp[kP]at h;grind
 |t::ts,v::vs,j+1,y,h=>by
  simp only[kP,List.getElem?_cons_succ]at h;obtain⟨t',v',a,b,c⟩:=P0 h;grind
theorem ae3:∀{ts:List TypeId} {vs:List Value},ts.length=vs.length→(kP P ts vs).length=vs.length
 | [],[],_=>rfl
 | [],_::_,h=>by simp at h
 |_::_,[],h=>by simp at h
 |t::ts,v::vs,h=>by simp[kP,ae3 (ts:=ts) (vs:=vs) (by grind)]
theorem lO{e:TypeId}(h:di P e=true):∃i z,P.info? e=some i∧i.zero=some z∧i.size=P.cellsOf e∧z.cells.size=P.cellsOf e∧zeroCells P e=kP P (flat P e) z.cells.toList:=by
 unfold di at h;simp only[aG,aN,nF]at h;obtain⟨h1,h2,_,h3⟩:=h;cases hi:P.info? e with
 |none=>grind
 |some i=>
  rw[hi]at h3;simp only[Option.bind_some]at h3;cases hz:i.zero with
  |none=>grind
  |some z=>
   rw[hz]at h3;simp only[aN]at h3;exact⟨i,z,rfl,hz,by simp[Program.cellsOf,hi],h3,by simp[zeroCells,hi,hz]⟩
theorem ae4{e:TypeId}(h:di P e=true):∃i z,P.info? e=some i∧i.zero=some z∧z.cells.size=(zeroCells P e).length∧z.cells.size=P.cellsOf e∧
  ∀(j:Nat) v x,z.cells[j]? =some v→(zeroCells P e)[j]? =some x→ai P w I β hp v x:=by
 obtain⟨i,z,h1,h2,h3,h4,h5⟩:=lO h;have hl:(flat P e).length=z.cells.toList.length:=by rw[(pN h).1];grind
 refine⟨i,z,h1,h2,?_,h4,fun j v x hv hx=> ?_⟩
 ·rw[h5,ae3 hl];simp
 ·rw[h5]at hx;obtain⟨t,v',_,JK,rfl⟩:=P0 hx;have:v'=v:=by
   grind
  subst this;exact ai.const t v'
theorem n8{nb:Nat}{b:ag}{v:V}{upd:List (Nat×ag)}{r:R}{rd:List Nat}(h:(jZ nb b v upd).run C hp=some (r,rd)):hp nb=none∧r=⟨v,(nb,b)::upd⟩:=by
 obtain⟨l,h⟩:=run_get h;cases hn:hp nb with
 |none=>rw[hn]at h;exact⟨rfl,(aM h).symm⟩
 |some x=>rw[hn]at h;cases h
theorem ae5(S:ax P w I β hp B M w0){nb:Nat}{xs:List V}{C0:Array Value}{T:TypeId}(hn:hp nb=none)(hs:C0.size=xs.length)
  (hx:∀(j:Nat) v x,C0[j]? =some v→xs[j]? =some x→ai P w I β hp v x) (jo:abN P w.heap.size T C0):
  Le P w I β hp (w.alloc (.cells C0 T)) I (ak β nb (some w.heap.size)) (ak hp nb (some (.var T xs)))∧ax P (w.alloc (.cells C0 T)) I (ak β nb (some w.heap.size)) (ak hp nb (some (.var T xs))) B M w0∧
  ai P (w.alloc (.cells C0 T)) I (ak β nb (some w.heap.size)) (ak hp nb (some (.var T xs))) (.pointer (some ⟨w.heap.size,0,none⟩)) (.ptr nb 0 0):=by
 obtain⟨h1,h2⟩:=T9 S (blk:= .var T xs) (c:=C0) (T:=T) hn (fun b' h=>(eX (h.flat (by simp))).symm) (fun hle dI dq=> .var rfl dI hs dq (fun j v x a b=>(hx j v x a b).mono hle) jo);refine⟨h1,h2,?_⟩;have:=ai.ptr (P:=P) (w:=w.alloc (.cells C0 T)) (I:=I) (β:=ak β nb (some w.heap.size)) (hp:=ak hp nb (some (.var T xs))) (i:=0) (c:=0) (blk:= .var T xs) (bI _ _ _) (by simp) (bI _ _ _);grind
theorem ae6(S:ax P w I β hp B M w0){e:TypeId}{nb:Nat}{r:R}{rd:List Nat}
  (h:(Rd.aw (di P e&&(!(vF P e)||abH (zeroCells P e))) (jZ nb (.var e (zeroCells P e)) (.ptr nb 0 0) [])).run C hp=some (r,rd)):dr P ((Instr.alloc e true (.tuple #[])).run P w) w I β hp B M w0 r:=by
 obtain⟨ao,h⟩:=ay h;rw[aG]at ao;obtain⟨ao,tv⟩:=ao;obtain⟨hn,rfl⟩:=n8 h;obtain⟨i,z,h1,h2,h3,h4,h5⟩:=ae4 (w:=w) (I:=I) (β:=β) (hp:=hp) ao;obtain⟨a,b,c⟩:=ae5 S (T:=e) hn h3 h5 fun cv=>by
  rw[cv,Bool.not_true,Bool.false_or]at tv;cases hz:zeroCells P e with
  |nil=>rw[hz]at tv;cases tv
  |cons y l=>
   rw[hz]at tv h3 h5;cases y<;>first|(cases tv;done)|skip
   have aO:0<z.cells.size:=by grind
   have:=h5 0 z.cells[0] .eV (ma aO) rfl;left;rw[ma aO];generalize z.cells[0]=u at this;cases this;rfl
 exact⟨_,_,_,_,by simp[Instr.alloc,zeroValue,typeInfo,h1,h2,newVar,newRow],a,b,c⟩
theorem asu(S:ax P w I β hp B M w0){e:TypeId}{nb:Nat}{x:V}{v:Value}{r:R}{rd:List Nat}(hv:ai P w I β hp v x)
  (h:(Rd.aw (!(vF P e)) <| qH x.cells (jZ nb (.var e x.cells) (.ptr nb 0 0) [])).run C hp=some (r,rd)):dr P ((Instr.box e v).run P w) w I β hp B M w0 r:=by
 obtain⟨tv,h⟩:=ay h;obtain⟨e1,e2⟩:=Uf hv h;obtain⟨_,l,h⟩:=NL h (vs:=v.cells.toList) (by omega) (fun j u y a b=>e2 j u y (by grind) b);obtain⟨hn,rfl⟩:=n8 h;obtain⟨a,b,c⟩:=ae5 S (T:=e) hn e1 e2 fun cv=>by grind
 exact⟨_,_,_,_,by simp[Instr.box,newVar,newRow],a,b,c⟩
theorem foldl_set(off:Nat):∀(vs:List Value) (k:Nat) (cs:Array Value) (i:Nat),off+k+vs.length≤cs.size→
  ((vs.zipIdx k).foldl (fun cs p=>cs.setIfInBounds (off+p.2) p.1) cs)[i]? =if i<off+k then cs[i]? else if i<off+k+vs.length then vs[i-(off+k)]? else cs[i]?
 | [],k,cs,i,h=>by simp_all
 |v::vs,k,cs,i,h=>by
  simp only[List.zipIdx_cons,List.foldl_cons];simp only[List.length_cons]at h⊢;rw[foldl_set off vs (k+1) _ i (by simp;omega)];grind
theorem ae7(off:Nat):∀(vs:List Value) (k:Nat) (cs:Array Value),((vs.zipIdx k).foldl (fun cs p=>cs.setIfInBounds (off+p.2) p.1) cs).size=cs.size
 | [],k,cs=>rfl
 |v::vs,k,cs=>by
  simp only[List.zipIdx_cons,List.foldl_cons];rw[ae7 off vs (k+1)];simp
theorem ae8{cells:Array Value}{off:Nat}{v:Value}(h:off+v.cells.size≤cells.size)(i:Nat):
  (v.cells.zipIdx.foldl (fun cs (p:Value×Nat)=>cs.setIfInBounds (off+p.2) p.1) cells)[i]? =if i<off then cells[i]? else if i<off+v.cells.size then v.cells[i-off]? else cells[i]? :=by
 have:=foldl_set off v.cells.toList 0 cells i (by omega);rw[←MU];grind
theorem ae9{cells:Array Value}{off:Nat}{v:Value}:(v.cells.zipIdx.foldl (fun cs (p:Value×Nat)=>cs.setIfInBounds (off+p.2) p.1) cells).size=cells.size:=by
 have:=ae7 off v.cells.toList 0 cells;rw[←MU];grind
inductive E2(P:Program)(w:World)(I:Nat→Nat→Prop)(β:Nat→Option Nat)(hp:Nat→Option ag):List (Nat×Value)→List (Nat×V)→Prop
 |nil:E2 P w I β hp [] []
 |cons {i:Nat} {v:Value} {x:V} {vs:List (Nat×Value)} {xs:List (Nat×V)}:v.cells.size=x.cells.length→(∀(j:Nat) u y,v.cells[j]? =some u→x.cells[j]? =some y→ai P w I β hp u y)→
   E2 P w I β hp vs xs→E2 P w I β hp ((i,v)::vs) ((i,x)::xs)
theorem afa(place:Nat→Option (Nat×Nat)):∀{vs:List (Nat×Value)} {px:List (Nat×V)} {cells:Array Value} {xs ys:List V},E2 P w I β hp vs px→cells.size=xs.length→
  (∀(j:Nat) v x,cells[j]? =some v→xs[j]? =some x→ai P w I β hp v x)→AZ place xs px=some ys→
  ∃wA:Array Value,Instr.fill place cells vs=some wA∧wA.size=ys.length∧∀(j:Nat) v x,wA[j]? =some v→ys[j]? =some x→ai P w I β hp v x
 |_,_,cells,xs,ys,.nil,hs,hx,h=>by
  simp only[AZ,eU]at h;subst h;exact⟨cells,by simp[Instr.fill],hs,hx⟩
 |_,_,cells,xs,ys,@E2.cons _ _ _ _ _ i v x vs px h1 h2 h3,hs,hx,h=>by
  simp only[AZ]at h;cases fi:place i with
  |none=>grind
  |some os=>
   obtain⟨off,size⟩:=os;rw[fi]at h;simp only at h;cases hc:(Nat.beq x.cells.length size&&Nat.ble (off+size) xs.length)with
   |false=>grind
   |true=>
    rw[hc]at h;simp only[cond_true]at h;simp only[aG,aN,gG]at hc;have hv:off+v.cells.size≤cells.size:=by omega
    have hb:off+x.cells.length≤xs.length:=by omega
    have hl:(jY xs off x.cells).length=xs.length:=HE _ _ _ hb;obtain⟨wA,f1,f2,f3⟩:=afa place (cells:=v.cells.zipIdx.foldl (fun cs (p:Value×Nat)=>cs.setIfInBounds (off+p.2) p.1) cells) (xs:=jY xs off x.cells) h3 (by rw[ae9,hl,hs])
     (fun j u y hu hy=>by
      rw[ae8 hv]at hu;unfold jY at hy;grind) h
    refine⟨wA,?_,f2,f3⟩;simp only[Instr.fill,fi];grind
theorem asv{t:TypeId}{parts:Array (Nat×Value)}{cells:Array Value}{z:Value}{i:TypeInfo}(hi:P.info? t=some i)(hz:i.zero=some z)(h:Instr.fill (placeOf P t) z.cells parts.toList=some cells)(ha:bW P t=true)
  (fi:∀fs,P.underlying t=some (.struct fs)→(fs.toList.mapM fun f=>(P.info? f.type).map fun i=>(f.offset,i.size)).isSome=true) (yq:∀n e,P.underlying t=some (.array n e)→(P.info? e).isSome=true):
  (Instr.build t parts).run P w= .ok (.agg cells) w:=by
 refine run_build w t parts cells ?_;unfold Program.built;unfold bW at ha;rw[hi];split at ha
 ·rename_i fs hu;have:=fi fs hu;cases hm:fs.toList.mapM fun f=>(P.info? f.type).map fun i=>(f.offset,i.size)with
  |none=>grind
  |some places=>
   simp only[hu,hz,hm];have hq:placeOf P t=fun i=>places[i]? :=by simp[placeOf,hu,hm]
   simp_all
 ·rename_i n e hu;have:=yq n e hu;cases oN:P.info? e with
  |none=>grind
  |some ie=>
   simp only[hu,hz,oN];have hq:placeOf P t=fun i=>some (i*ie.size,ie.size):=by simp[placeOf,hu,oN]
   grind
 ·cases ha
theorem afb{α:Type}:∀(xs ys:List V) (k:Rd α),qH (xs++ys) k=qH xs (qH ys k)
 | [],_,_=>rfl
 |x::xs,ys,k=>by simp only[List.cons_append,qH,afb xs ys k]
theorem afc{a:Act}{sl:Nat→V}(hs:o4 P w I β hp a sl){G:Nat→V}(hg:ly P G w I)(t:TypeId){α:Type}:∀{l:List (Nat×Operand)} {k:Rd α} {r:α} {rd:List Nat},
  (qH ((l.map fun p=>(aU P G t sl p.2).cells).flatten) k).run C hp=some (r,rd)→
  E2 P w I β hp (l.map fun p=>(p.1,a.eval p.2)) (l.map fun p=>(p.1,aU P G t sl p.2))∧∃iB,k.run C hp=some (r,iB)
 | [],k,r,rd,h=>⟨.nil,rd,h⟩
 |(i,x)::l,k,r,rd,h=>by
  simp only[mc,List.flatten_cons,afb]at h;obtain⟨e1,e2⟩:=Uf (hs.ev hg t x) h;obtain⟨_,l1,h⟩:=NL h (vs:=(a.eval x).cells.toList) (by omega) (fun j u y a b=>e2 j u y (by grind) b);obtain⟨h1,h2⟩:=afc hs hg t h;exact⟨.cons e1 e2 h1,h2⟩
theorem asw(S:ax P w I β hp B M w0){a:Act}{sl:Nat→V}(hs:o4 P w I β hp a sl){G:Nat→V}(hg:ly P G w I){t ty:TypeId}{ps:Array (Nat×Operand)}{r:R}{rd:List Nat}
  (h:(Rd.aw (di P t&&(bW P t&&No P t)) (qH ((ps.toList.map fun p=>(aU P G ty sl p.2).cells).flatten)
   (DL (AZ (placeOf P t) (zeroCells P t) (ps.toList.map fun p=>(p.1,aU P G ty sl p.2))) fun cs=> .ret ⟨.agg cs,[]⟩))).run C hp=some (r,rd)):
  dr P ((Instr.build t (ps.map fun(i,x)=>(i,a.eval x))).run P w) w I β hp B M w0 r:=by
 obtain⟨ao,h⟩:=ay h;simp only[aG]at ao;obtain⟨h1,l,h⟩:=afc hs hg ty h;cases hf:AZ (placeOf P t) (zeroCells P t) (ps.toList.map fun p=>(p.1,aU P G ty sl p.2))with
 |none=>rw[hf]at h;cases h
 |some cs=>
  rw[hf]at h;obtain rfl:=aM h;obtain⟨i,z,hi,hz,h3,h4,h5⟩:=ae4 (w:=w) (I:=I) (β:=β) (hp:=hp) ao.1;obtain⟨cells,f1,f2,f3⟩:=afa (placeOf P t) h1 h3 h5 hf;have Ou:=ao.2.2;refine .same S (v:= .agg cells) (asv hi hz (by simp_all) ao.2.1 (fun fs hu=> ?_) (fun n e hu=> ?_)) (.agg f2 f3)
  ·simpa[No,hu]using Ou
  ·simpa[No,hu]using Ou
theorem asx(cX:∀id blk,hp id=some blk→fg P w I β hp (β id) blk){x:V}{v:Value}{ys:List V}{fr:List (Nat×ag)}{rd:List Nat}{ts:List TypeId}(hv:ai P w I β hp v x)
  (h:(zk P x.cells).run C hp=some ((ys,fr),rd)) (ht:xr P ts ys=true):
  v.cells.size=x.cells.length∧∀(j:Nat) u y,v.cells.toList[j]? =some u→x.cells[j]? =some y→ai P w I β hp u y:=by
 cases x with
 |agg xs=>
  obtain⟨cs,rfl,h1,h2⟩:=hv.oq;exact⟨h1,fun j u y a b=>h2 j u y (by simpa[Value.cells]using a) b⟩
 |_=>
  simp only[V.cells]at h⊢;simp only[zk]at h;obtain⟨⟨y1,u1⟩,l3,l4,hq,h⟩:=o6 h;obtain⟨q1,q2⟩:=Hu cX hq hv;obtain⟨⟨y2,u2⟩,l5,l6,Ac,h⟩:=o6 h;cases Ac;have:=aM h;cases this;obtain⟨tl,tg⟩:=Bl ht;have fj:=tg 0 _ y1 (bX (by grind)) rfl;have fi:=q2 (kG P w I β hp u1) (fun _ _ h=> .inl h) (fun p hp b j h=> .inr ⟨p,hp,h⟩);have ho:=fi.pure fj;have ae1:v.cells= #[v]:=by cases ho<;>rfl
  grind
def E3(P:Program)(w:World)(I:Nat→Nat→Prop)(e:TypeId)(cells:Array Value)(es:List V):Prop:=
 cells.size=es.length*P.cellsOf e∧∀(i j:Nat) (x:V) (t':TypeId),es[i]? =some x→(aV P e)[j]? =some t'→j<P.cellsOf e→∃v,cells[i*P.cellsOf e+j]? =some v∧Pure P w I t' v (ca P e x j)
theorem E3.set{e:TypeId}{cells:Array Value}{es ys:List V}{i:Nat}{v:Value}(h:E3 P w I e cells es)(hi:i<es.length)(hv:v.cells.size=P.cellsOf e)(hy:ys.length=P.cellsOf e)
  (hr:∀(j:Nat) (t':TypeId) (u:Value) (y:V),(aV P e)[j]? =some t'→v.cells[j]? =some u→ys[j]? =some y→Pure P w I t' u y):
  E3 P w I e (v.cells.zipIdx.foldl (fun cs (p:Value×Nat)=>cs.setIfInBounds (i*P.cellsOf e+p.2) p.1) cells) (es.set i (dy P e ys)):=by
 obtain⟨h1,h2⟩:=h;have hb:i*P.cellsOf e+v.cells.size≤cells.size:=by
  have:(i+1)*P.cellsOf e≤es.length*P.cellsOf e:=eT _ hi;grind
 refine⟨by rw[ae9,td,h1],fun i' j x t' hx ht hj=> ?_⟩;rw[ae8 hb];rw[Dy]at hx;by_cases oM:i=i'
 ·subst oM;rw[aF rfl,aF hi]at hx;cases hx;rw[fZ,dG,show i*P.cellsOf e+j-i*P.cellsOf e=j by omega];have h3:j<v.cells.size:=by omega
  have h4:j<ys.length:=by omega
  refine⟨v.cells[j],ma h3,?_⟩;rw[xP (bX h4) ht];exact hr j t' _ _ ht (ma h3) (bX h4)
 ·rw[aD oM]at hx;have bE:i'*P.cellsOf e+j<i*P.cellsOf e∨i*P.cellsOf e+v.cells.size≤i'*P.cellsOf e+j:=by
   rcases jG i' i with aO|sK
   ·left;have:(i'+1)*P.cellsOf e≤i*P.cellsOf e:=eT _ aO;grind
   ·right;have:(i+1)*P.cellsOf e≤i'*P.cellsOf e:=eT _ (by omega);grind
  grind
theorem afd{t':TypeId}{v:Value}(fj:fJ P t' (sc (te P t' v))=true):Pure P w I t' v (sc (te P t' v)):=by
 have hc:=ai.const (P:=P) (w:=w) (I:=I) (β:=fun _=>none) (hp:=fun _=>none) t' v;cases B3:te P t' v<;>rw[B3]at fj hc<;>simp only[sc]at fj⊢
 case int k n=>rw[hc.gx];exact Plain.pure (v:= .int k n) (y:= .int k n) rfl fj
 case bool b=>rw[hc.oo];exact Plain.pure (v:= .bool b) (y:= .bool b) rfl fj
 case str l=>obtain⟨s,e1,e2⟩:=hc.pO;rw[e1];exact Plain.pure (v:= .string s) (y:= .str l) ⟨s,rfl,e2⟩ fj
 case nilS e'=>
  cases hc;exact Plain.pure (y:= .list e' []) (lr.any fun _=>rfl) fj
 case list e' es=>
  cases hc with
  |list hp=>exact Plain.pure (y:= .list e' es) hp fj
 all_goals (unfold fJ at fj;grind)
theorem afe{t':TypeId}{v:Value}(fj:fJ P t' (sc (te P t' v))=true):∀a n c,v= .slice a n c→c=0:=by
 intro a n c hv;subst hv;unfold te at fj;split at fj<;>first|(rename_i h;cases h;rfl)|skip
 all_goals first|(simp_all;done)|(unfold fJ sc at fj;split at fj<;>simp_all)
theorem JL{e:TypeId}(h:qE P e=true):∃i z,P.info? e=some i∧i.zero=some z∧i.size=P.cellsOf e∧z.cells.size=P.cellsOf e∧
  ∀(j:Nat) (t':TypeId),(aV P e)[j]? =some t'→j<P.cellsOf e→∃v,z.cells[j]? =some v∧Pure P w I t' v (ca P e (dy P e (jH P e)) j)∧∀a n c,v= .slice a n c→c=0:=by
 unfold qE at h;simp only[aG]at h;obtain⟨i,z,h1,h2,h3,h4,h5⟩:=lO h.1;refine⟨i,z,h1,h2,h3,h4,fun j t' ht hj=> ?_⟩;obtain⟨tl,tg⟩:=Bl h.2;have dt:j<(jH P e).length:=by rw[←tl,(pN h.1).1];exact hj
 have hz:=bX dt;have fj:=tg j t' _ (by rw[←uA];exact ht) hz;refine⟨z.cells[j],ma (by omega),?_⟩;rw[xP hz ht];have B4:(jH P e)[j]=sc (te P t' z.cells[j]):=by
  have:(jH P e)[j]? =((zeroCells P e)[j]?).map sc:=by simp[jH]
  rw[hz]at this;cases hc:(zeroCells P e)[j]? with
  |none=>grind
  |some y=>
   rw[hc]at this;simp only[Option.map_some,eU]at this;rw[h5]at hc;obtain⟨t2,v2,a1,a2,rfl⟩:=P0 hc;have P3:t2=t':=by
    rw[←uA,ht]at a1;grind
   grind
 rw[B4]at fj⊢;exact⟨afd fj,afe fj⟩
end
section
variable {P:Program}{w w':World}{I I':Nat→Nat→Prop}{β β':Nat→Option Nat}{hp hp':Nat→Option ag}{C:af}{B:Nat}{M:Nat→Prop}{w0:Start}
theorem aff(S:ax P w I β hp B M w0){nb cap:Nat}{fz:Bool}{e T:TypeId}{es:List V}{C0:Array Value}(ao:di P e=true)(hn:hp nb=none)(hs:C0.size=cap*P.cellsOf e)(hl:es.length≤cap)(hm:cap≤maxLen)(hL:uw P T e C0.size)
  (hx:∀(i j:Nat) (x:V) (t':TypeId),es[i]? =some x→(aV P e)[j]? =some t'→j<P.cellsOf e→∃v,C0[i*P.cellsOf e+j]? =some v∧Pure P w I t' v (ca P e x j)):
  Le P w I β hp (w.alloc (.cells C0 T)) I (ak β nb (some w.heap.size)) (ak hp nb (some (.arr e es fz)))∧ax P (w.alloc (.cells C0 T)) I (ak β nb (some w.heap.size)) (ak hp nb (some (.arr e es fz))) B M w0∧
  ai P (w.alloc (.cells C0 T)) I (ak β nb (some w.heap.size)) (ak hp nb (some (.arr e es fz))) (.slice (some ⟨w.heap.size,0,none⟩) es.length cap) (.whole e nb):=by
 obtain⟨h1,h2⟩:=T9 S (blk:= .arr e es fz) (c:=C0) (T:=T) hn (fun b' h=>(eX (h.flat (by simp))).symm) (fun hle dI dq=> .arr hL ao rfl dI (by rw[hs];exact eT _ hl) (fun _ j h=>absurd h (dq j)) (fun _=>dq) fun i j x t' a b c=>by
  obtain⟨v,hv,hp⟩:=hx i j x t' a b c;exact⟨v,hv,hp.mono hle.eD hle.cM⟩)
 refine⟨h1,h2,.whole (bI _ _ _) (bI _ _ _) ?_ hl hm⟩;rw[ml (heap_alloc_new w (.cells C0 T)),hs]
theorem E4(S:ax P w I β hp B M w0){nb cap:Nat}{fz:Bool}{e:TypeId}{es:List V}{C0:Array Value}(ao:di P e=true)(hn:hp nb=none)(hs:C0.size=cap*P.cellsOf e)(hl:es.length≤cap)(hm:cap≤maxLen)
  (hx:∀(i j:Nat) (x:V) (t':TypeId),es[i]? =some x→(aV P e)[j]? =some t'→j<P.cellsOf e→∃v,C0[i*P.cellsOf e+j]? =some v∧Pure P w I t' v (ca P e x j)):
  Le P w I β hp (w.alloc (.cells C0 e)) I (ak β nb (some w.heap.size)) (ak hp nb (some (.arr e es fz)))∧ax P (w.alloc (.cells C0 e)) I (ak β nb (some w.heap.size)) (ak hp nb (some (.arr e es fz))) B M w0∧
  ai P (w.alloc (.cells C0 e)) I (ak β nb (some w.heap.size)) (ak hp nb (some (.arr e es fz))) (.slice (some ⟨w.heap.size,0,none⟩) es.length cap) (.whole e nb):=
 aff S ao hn hs hl hm uw.self hx
theorem afg{b n:Nat}{Ca C':Array Value}{T T':TypeId}{f f':Nat×Nat}(hh:w.heap[b]? =some (.cells Ca T f))(Bc:w'.heap[b]? =some (.cells C' T' f'))(hI:∀j,I b j→j<n)(hp:∀j,j<n→C'[j]? =Ca[j]?)(j:Nat)(h:I b j):
  w'.cell? ⟨b,j,none⟩=w.cell? ⟨b,j,none⟩:=by
 rw[cell?_cells hh,cell?_cells Bc];grind
theorem WG{b n:Nat}{fz:Bool}(hf:fz=true→∀j,I b j→j<n)(fR:fz=false→∀j,¬I b j):∀j,I b j→j<n:=by
 intro j h;cases fz with
 |true=>grind
 |false=>grind
theorem At.only{b b':Nat}{e e' T:TypeId}{es aI:List V}{q:Path}{Ca:Array Value}{f:Nat×Nat}(hh:w.heap[b]? =some (.cells Ca T f))(hz:∀(i j:Nat) x t' v,es[i]? =some x→(aV P e)[j]? =some t'→Ca[i*P.cellsOf e+j]? =some v→∀a n c,v= .slice a n c→c=0)
  (h:At P w b e es q b' e' aI):q=[]∧b'=b∧e'=e∧aI=es:=by
 cases h with
 |here=>grind
 |step h1 h2 h3 h4 h5 h6 h7=>grind
theorem qQ.vN{t:TypeId}{v:Value}{x:V}(h:Pure P w I t v x)(hc:∀a n c,v= .slice a n c→c=0):qQ P w I t v x:=by
 cases h with
 |int h=>exact .gN (by unfold eg;rw[h]) (.int h)
 |bool h=>exact .gN (by unfold eg;rw[h]) (.bool h)
 |str h hl=>exact .gN (by unfold eg;rw[h]) (.str h hl)
 |nil h=>exact .emp h
 |emp h=>have:=hc _ _ _ rfl;subst this;exact .emp h
 |list g hu hl hle _ _ _=>
  have:=hc _ _ _ rfl;subst this;obtain rfl:=Nat.le_zero.1 hle;obtain rfl:=vB.1 hl;exact .emp hu
theorem afh(S:ax P w I β hp B M w0){nb cap:Nat}{e T:TypeId}{es:List V}{C0:Array Value}(ao:di P e=true)(hn:hp nb=none)(hs:C0.size=cap*P.cellsOf e)(hl:es.length≤cap)(hm:cap≤maxLen)(hL:uw P T e C0.size)
  (hx:∀(i j:Nat) (x:V) (t':TypeId),es[i]? =some x→(aV P e)[j]? =some t'→j<P.cellsOf e→∃v,C0[i*P.cellsOf e+j]? =some v∧Pure P w I t' v (ca P e x j)∧∀a n c,v= .slice a n c→c=0):
  Le P w I β hp (w.alloc (.cells C0 T)) I (ak β nb (some w.heap.size)) (ak hp nb (some (.nest e es [0,0,0])))∧ax P (w.alloc (.cells C0 T)) I (ak β nb (some w.heap.size)) (ak hp nb (some (.nest e es [0,0,0]))) B M w0∧
  ai P (w.alloc (.cells C0 T)) I (ak β nb (some w.heap.size)) (ak hp nb (some (.nest e es [0,0,0]))) (.slice (some ⟨w.heap.size,0,none⟩) es.length cap) (.whole e nb):=by
 have hz:∀(i j:Nat) x t' v,es[i]? =some x→(aV P e)[j]? =some t'→C0[i*P.cellsOf e+j]? =some v→∀a n c,v= .slice a n c→c=0:=fun i j x t' v a b h=>by
  obtain⟨v',h1,_,h3⟩:=hx i j x t' a b (by rw[←fL ao];grind);grind
 obtain⟨h1,h2⟩:=T9 S (blk:= .nest e es [0,0,0]) (c:=C0) (T:=T) hn (fun b' h=>by
   cases h with
   |root _ h=>grind
   |row h ha=>cases h;exact(At.only (heap_alloc_new w _) hz ha).2.1)
  (fun hle dI dq=> .nest rfl (fun q b' e' aI ha=>by
   obtain⟨rfl,rfl,rfl,rfl⟩:=At.only dI hz ha;refine⟨ao,⟨C0,_,dI,hL,by rw[hs];exact eT _ hl,fun i j x t' a b c=> ?_⟩,dq⟩;obtain⟨v,hv,hp⟩:=hx i j x t' a b c;exact⟨v,hv,.vN (hp.1.mono hle.eD hle.cM) hp.2⟩)
   fun q1 q2 b' e1 dp e2 bR a1 a2=>(At.only dI hz a1).1.trans (At.only dI hz a2).1.symm)
 refine⟨h1,h2,.dQ (bI _ _ _) (bI _ _ _) ?_ hl hm⟩;rw[ml (heap_alloc_new w (.cells C0 T)),hs]
theorem asy(S:ax P w I β hp B M w0){nb cap:Nat}{e:TypeId}{es:List V}{C0:Array Value}(ao:di P e=true)(hn:hp nb=none)(hs:C0.size=cap*P.cellsOf e)(hl:es.length≤cap)(hm:cap≤maxLen)
  (hx:∀(i j:Nat) (x:V) (t':TypeId),es[i]? =some x→(aV P e)[j]? =some t'→j<P.cellsOf e→∃v,C0[i*P.cellsOf e+j]? =some v∧Pure P w I t' v (ca P e x j)∧∀a n c,v= .slice a n c→c=0):
  Le P w I β hp (w.alloc (.cells C0 e)) I (ak β nb (some w.heap.size)) (ak hp nb (some (.nest e es [0,0,0])))∧ax P (w.alloc (.cells C0 e)) I (ak β nb (some w.heap.size)) (ak hp nb (some (.nest e es [0,0,0]))) B M w0∧
  ai P (w.alloc (.cells C0 e)) I (ak β nb (some w.heap.size)) (ak hp nb (some (.nest e es [0,0,0]))) (.slice (some ⟨w.heap.size,0,none⟩) es.length cap) (.whole e nb):=
 afh S ao hn hs hl hm uw.self hx
theorem asz(S:ax P w I β hp B M w0){e:TypeId}{nb:Nat}{r:R}{rd:List Nat}(h:(TD P nb e).run C hp=some (r,rd)):dr P ((Instr.alloc e true (.tuple #[])).run P w) w I β hp B M w0 r:=by
 unfold TD at h;split at h
 ·rename_i n e1 hu;obtain⟨hc,h1⟩:=ay h;clear h;simp only[aG,aN,gG,nG,im]at hc;obtain⟨ao,qh,qi,hn,hm,jq,fj,afi⟩:=hc;obtain⟨E5,rfl⟩:=n8 h1;obtain⟨i,z,hi,hz,h3,h4,h5⟩:=lO ao;have lN:aV P e1=[e1]:=by simp[aV,qi]
  have hk:P.cellsOf e1=1:=by rw[←fL qh,lN];rfl
  have hlen:((zeroCells P e).map sc).length≤n:=by
   rw[h5,cT,←hn,←h4];have go:∀(ts:List TypeId) (vs:List Value),(kP P ts vs).length≤vs.length:=by
    intro ts
    induction ts with
    |nil=>intro vs;simp[kP]
    |cons t ts ih=>intro vs;cases vs with
     |nil=>simp[kP]
     |cons v vs=>simpa[kP]using ih vs
   grind
  have hx:∀(i j:Nat) (x:V) (t':TypeId),((zeroCells P e).map sc)[i]? =some x→(aV P e1)[j]? =some t'→j<P.cellsOf e1→∃v,z.cells[i*P.cellsOf e1+j]? =some v∧Pure P w I t' v (ca P e1 x j)∧∀a n c,v= .slice a n c→c=0:=by
   intro i j x t' hx ht hj;rw[hk]at hj⊢;obtain rfl:j=0:=by omega
   rw[lN]at ht;simp only[List.getElem?_cons_zero,eU]at ht;subst ht;have P4:=im.1 fj x (nE hx);rw[jX]at hx;cases hc:(zeroCells P e)[i]? with
   |none=>grind
   |some y=>
    rw[hc]at hx;cases hx;rw[h5]at hc;obtain⟨t2,v2,a1,a2,rfl⟩:=P0 hc;have P3:e1=t2:=by simpa using jq t2 (nE a1)
    subst P3;simp only[ca,qi,cond_false];exact⟨v2,by grind,afd P4,afe P4⟩
  have hL:uw P e e1 z.cells.size:=fun hb _ k tA=>by
   grind
  have cO:(Instr.alloc e true (.tuple #[])).run P w= .ok (.pointer (some ⟨w.heap.size,0,none⟩)) (w.alloc (.cells z.cells e)):=by
   simp[Instr.alloc,zeroValue,typeInfo,hi,hz,newVar,newRow]
  have hs:z.cells.size=n*P.cellsOf e1:=by grind
  cases eg P e1 with
  |true=>
   obtain⟨a,b,_⟩:=aff S (nb:=nb) (fz:=false) qh E5 hs hlen hm hL fun i j x t' p q r=>(hx i j x t' p q r).imp fun _ h=>⟨h.1,h.2.1⟩
   refine⟨_,_,_,_,cO,a,b,?_⟩;have:=ai.ptr (P:=P) (w:=w.alloc (.cells z.cells e)) (I:=I) (β:=ak β nb (some w.heap.size)) (hp:=ak hp nb (some (.arr e1 ((zeroCells P e).map sc) false))) (i:=0) (c:=0) (bI _ _ _) (by simp) (bI _ _ _);rw[Nat.zero_mul]at this;exact this
  |false=>
   obtain⟨a,b,_⟩:=afh S (nb:=nb) qh E5 hs hlen hm hL hx;refine⟨_,_,_,_,cO,a,b,?_⟩;have:=ai.ptr (P:=P) (w:=w.alloc (.cells z.cells e)) (I:=I) (β:=ak β nb (some w.heap.size)) (hp:=ak hp nb (some (.nest e1 ((zeroCells P e).map sc) [0,0,0]))) (i:=0) (c:=0) (bI _ _ _) (by simp) (bI _ _ _);rw[Nat.zero_mul]at this;exact this
 ·cases h
theorem afj(cX:∀id blk,hp id=some blk→fg P w I β hp (β id) blk){a:Act}{sl:Nat→V}(hs:o4 P w I β hp a sl){G:Nat→V}(hg:ly P G w I){e:TypeId}{len:Nat}:∀{l:List (Nat×Operand)} {ps:List (Nat×V)} {upd:List (Nat×ag)} {rd:List Nat},
  (G5 P e len (l.map fun p=>(p.1,aU P G e sl p.2))).run C hp=some ((ps,upd),rd)→di P e=true→(∀p∈upd,DU hp p)∧∀I':Nat→Nat→Prop,(∀b j,I b j→I' b j)→(∀p∈upd,∀b j,zx P w β hp p.1 b j→I' b j)→
   ∀(cells:Array Value) (es:List V),es.length=len→E3 P w I' e cells es→∃wA,Instr.fill (fun i=>some (i*P.cellsOf e,P.cellsOf e)) cells (l.map fun p=>(p.1,a.eval p.2))=some wA∧E3 P w I' e wA (G4 es ps)∧(G4 es ps).length=len
 | [],ps,upd,rd,h,_=>by
  cases h;exact⟨by simp,fun I' _ _ cells es hl he=>⟨cells,by simp[Instr.fill],he,hl⟩⟩
 |(i,x)::l,ps,upd,rd,h,ao=>by
  simp only[mc,G5]at h;obtain⟨⟨ys,u1⟩,l1,l2,h1,h⟩:=o6 h;obtain⟨hc,h⟩:=ay h;obtain⟨⟨ps',u2⟩,l3,l4,h2,h⟩:=o6 h;have:=aM h;cases this;simp only[aG,nF]at hc;obtain⟨hi,fj⟩:=hc;obtain⟨tl,tg⟩:=Bl fj;have sk:=hs.ev hg e x;obtain⟨v1,v2⟩:=asx cX sk h1 fj;obtain⟨k1,k2,k3⟩:=T6 cX h1 (vs:=(a.eval x).cells.toList) (by omega) v2;obtain⟨m1,m2⟩:=afj cX hs hg h2 ao;refine⟨fun p hp=> ?_,fun I' i1 i2 cells es hl he=> ?_⟩
  ·grind
  ·have fi:=k3 I' i1 (fun p hp=>i2 p (ik.2 (.inl hp)));have aZ:=(pN ao).1;have Ab:ys.length=P.cellsOf e:=by omega
   have NO:(a.eval x).cells.size=P.cellsOf e:=by omega
   have E6:=he.set (i:=i) (ys:=ys) (by omega) NO Ab (fun j t' u y ht hu hy=>by
    exact(fi j u y (by grind) hy).pure (tg j t' y (by rw[←uA];exact ht) hy))
   obtain⟨wA,f1,f2,f3⟩:=m2 I' i1 (fun p hp=>i2 p (ik.2 (.inr hp))) _ (es.set i (dy P e ys)) (by grind) E6;refine⟨wA,?_,f2,f3⟩;have hb:i*P.cellsOf e+P.cellsOf e≤cells.size:=by
    rw[he.1,hl];have:(i+1)*P.cellsOf e≤len*P.cellsOf e:=eT _ hi;grind
   simp only[mc,Instr.fill];grind
theorem afk{z:Array Value}{n k:Nat}(hk:k<n)(hz:0<z.size):((Array.range n).map (z[· %z.size]!))[k]? =z[k %z.size]? :=by
 have hm:k %z.size<z.size:=AS _ hz;grind
theorem afl{e:TypeId}(h:qE P e=true){i:TypeInfo}{z:Value}(hi:P.info? e=some i)(hz:i.zero=some z)(n m:Nat)(sb:n≤m):
  ∀(k j:Nat) (x:V) (t':TypeId),(List.replicate n (dy P e (jH P e)))[k]? =some x→(aV P e)[j]? =some t'→j<P.cellsOf e→
   ∃v,((Array.range (m*P.cellsOf e)).map (z.cells[· %z.cells.size]!))[k*P.cellsOf e+j]? =some v∧Pure P w I t' v (ca P e x j)∧∀a n c,v= .slice a n c→c=0:=by
 intro k j x t' hx ht hj;obtain⟨i2,z2,h1,h2,h3,h4,h5⟩:=JL (w:=w) (I:=I) h;rw[hi]at h1;cases h1;rw[hz]at h2;cases h2;rw[MQ]at hx;split at hx
 ·rename_i hk;cases hx;obtain⟨v,hv,hp⟩:=h5 j t' ht hj;refine⟨v,?_,hp⟩;have hb:k*P.cellsOf e+j<m*P.cellsOf e:=by
   have:(k+1)*P.cellsOf e≤m*P.cellsOf e:=eT _ (by omega);grind
  rw[afk hb (by omega),h4,show(k*P.cellsOf e+j) %P.cellsOf e=j by rw[ze,Nat.mul_add_mod];exact GU hj];exact hv
 ·cases hx
theorem WH{e:TypeId}(h:qE P e=true){i:TypeInfo}{z:Value}(hi:P.info? e=some i)(hz:i.zero=some z)(n m:Nat)(sb:n≤m):
  ∀(k j:Nat) (x:V) (t':TypeId),(List.replicate n (dy P e (jH P e)))[k]? =some x→(aV P e)[j]? =some t'→j<P.cellsOf e→
   ∃v,((Array.range (m*P.cellsOf e)).map (z.cells[· %z.cells.size]!))[k*P.cellsOf e+j]? =some v∧Pure P w I t' v (ca P e x j):=fun k j x t' a b c=>(afl h hi hz n m sb k j x t' a b c).imp fun _ h=>⟨h.1,h.2.1⟩
theorem WI{P:Program}(w:World)(t e:TypeId)(len:Nat)(parts:Array (Nat×Value))(cells:Array Value)(ie:TypeInfo)(z:Value)
  (hu:P.underlying t=some (.slice e)) (oN:P.info? e=some ie) (hz:ie.zero=some z) (asA:¬len*ie.size>2^24)
  (h:Instr.fill (fun i=>some (i*ie.size,ie.size)) ((Array.range (len*ie.size)).map (z.cells[· %z.cells.size]!)) parts.toList=some cells):
  (Instr.buildSlice t len parts).run P w= .ok (.slice (some ⟨w.heap.size,0,none⟩) len len) (w.alloc (.cells cells e)):=by
 by_cases sb:len*ie.size=0
 ·have h0:∀g:Nat→Value,(Array.range (len*ie.size)).map g= #[]:=by grind
  have hp:∀(u:Array Value),(Pure.pure u:Sem (Array Value)).run P w= .ok u w:=fun _=>rfl;rw[h0]at h;simp only[Instr.buildSlice,Sem.run_bind,run_underlying hu,Result.andThen_ok,sizeOf,typeInfo,oN];have h1:(Array.range (len*ie.size)).map (fun _:Nat=>(default:Value))= #[]:=h0 _;have hs:¬16777216<len*ie.size:=by omega
  simp[oN,hs,sb];simp only[sb]at h1;simp[h1,h,newRow]
 ·exact run_buildSlice w t e len parts cells ie z hu oN hz asA sb h
theorem afm(S:ax P w I β hp B M w0){a:Act}{sl:Nat→V}(hs:o4 P w I β hp a sl){G:Nat→V}(hg:ly P G w I){t e:TypeId}{len nb:Nat}{ps:Array (Nat×Operand)}{r:R}{rd:List Nat}(hu:P.underlying t=some (.slice e))
  (h:(Rd.aw (qE P e&&Nat.ble (len*P.cellsOf e) (2^24)) ((G5 P e len (ps.toList.map fun p=>(p.1,aU P G e sl p.2))).bind fun r=>
    jZ nb (.arr e (G4 (List.replicate len (dy P e (jH P e))) r.1) false) (.whole e nb) r.2)).run C hp=some (r,rd)):
  dr P ((Instr.buildSlice t len (ps.map fun(i,x)=>(i,a.eval x))).run P w) w I β hp B M w0 r:=by
 obtain⟨hc,h⟩:=ay h;simp only[aG,gG]at hc;obtain⟨fN,Ba⟩:=hc;have ao:di P e=true:=by
  unfold qE at fN;grind
 obtain⟨⟨pv,upd⟩,l1,l2,h1,h⟩:=o6 h;obtain⟨hn,rfl⟩:=n8 h;obtain⟨m1,m2⟩:=afj S.h.rel hs hg h1 ao;obtain⟨tP,S1⟩:=DY S m1;obtain⟨i,z,hi,hz,h3,h4,_⟩:=JL (w:=w) (I:=I) fN;have gg:=(pN ao).2;have h0:E3 P w (kG P w I β hp upd) e ((Array.range (len*P.cellsOf e)).map (z.cells[· %z.cells.size]!)) (List.replicate len (dy P e (jH P e))):=
  ⟨by simp,WH fN hi hz len len (aW _)⟩
 obtain⟨cells,f1,f2,f3⟩:=m2 (kG P w I β hp upd) (fun _ _ h=> .inl h) (fun p hp b j h=> .inr ⟨p,hp,h⟩) _ _ (by simp) h0;have jO:b7 hp upd nb=none:=by
  rcases zy (hp:=hp) (l:=upd) (id:=nb)with h|⟨b',hm,_⟩
  ·grind
  ·obtain⟨e1,dp,_,h5⟩:=m1 _ hm;grind
 have uB:len≤maxLen:=by
  have:len*1≤len*P.cellsOf e:=zg _ gg;simp only[maxLen];omega
 obtain⟨n1,n2,n3⟩:=E4 S1 (cap:=len) ao jO (by rw[f2.1,f3]) (by omega) uB f2.2;have cO:=WI w t e len (ps.map fun(i,x)=>(i,a.eval x)) cells i z hu hi hz (by grind) (by simp_all);refine⟨_,_,_,_,cO,tP.trans n1,n2,?_⟩;rw[f3]at n3;exact n3
theorem afn(S:ax P w I β hp B M w0){t e:TypeId}{nb:Nat}{kl kc:IntKind}{n m:Int}{r:R}{rd:List Nat}(hu:P.underlying t=some (.slice e))
  (h:(Rd.aw (qE P e&&(decide (0≤n)&&(decide (n≤m)&&Nat.ble (m.toNat*P.bytesOf e) aR)))
    (jZ nb (.arr e (List.replicate n.toNat (dy P e (jH P e))) false) (.whole e nb) [])).run C hp=some (r,rd)):
  dr P ((Instr.makeSlice t (.int kl n) (.int kc m)).run P w) w I β hp B M w0 r:=by
 obtain⟨hc,h⟩:=ay h;simp only[aG,gG,jf]at hc;obtain⟨fN,h0,sb,eH⟩:=hc;have ao:di P e=true:=by
  unfold qE at fN;grind
 obtain⟨hn,rfl⟩:=n8 h;obtain⟨i,z,hi,hz,h3,h4,_⟩:=JL (w:=w) (I:=I) fN;have pB:P.bytesOf e=i.bytes:=by simp[Program.bytesOf,hi]
 have WJ:m≤9223372036854775807:=by
  have h1:m.toNat*1≤m.toNat*P.bytesOf e:=zg _ (Bb ao);simp only[aR]at eH;omega
 have cO:=run_make (P:=P) w t e i z hu hi hz kl kc n m h0 sb (by
  rw[pB]at eH;simp only[aR]at eH;grind) WJ
 have hlen:(List.replicate n.toNat (dy P e (jH P e))).length=n.toNat:=by simp
 obtain⟨n1,n2,n3⟩:=E4 S (cap:=m.toNat) (es:=List.replicate n.toNat (dy P e (jH P e))) (C0:=madeCells z.cells (m.toNat*i.size)) ao hn (by rw[size_madeCells,h3]) (by omega) (by simp only[maxLen];omega)
  (by rw[h3];exact WH fN hi hz n.toNat m.toNat (by omega))
 refine⟨_,_,_,_,cO,n1,n2,?_⟩;rw[hlen]at n3;exact n3
theorem asB(S:ax P w I β hp B M w0){t e:TypeId}{nb:Nat}{kl kc:IntKind}{n m:Int}{r:R}{rd:List Nat}(hu:P.underlying t=some (.slice e))
  (h:(Rd.aw (qE P e&&(decide (0≤n)&&(decide (n≤m)&&Nat.ble (m.toNat*P.bytesOf e) aR)))
    (jZ nb (.nest e (List.replicate n.toNat (dy P e (jH P e))) [0,0,0]) (.whole e nb) [])).run C hp=some (r,rd)):
  dr P ((Instr.makeSlice t (.int kl n) (.int kc m)).run P w) w I β hp B M w0 r:=by
 obtain⟨hc,h⟩:=ay h;simp only[aG,gG,jf]at hc;obtain⟨fN,h0,sb,eH⟩:=hc;have ao:di P e=true:=by
  unfold qE at fN;grind
 obtain⟨hn,rfl⟩:=n8 h;obtain⟨i,z,hi,hz,h3,h4,_⟩:=JL (w:=w) (I:=I) fN;have pB:P.bytesOf e=i.bytes:=by simp[Program.bytesOf,hi]
 have WJ:m≤9223372036854775807:=by
  have h1:m.toNat*1≤m.toNat*P.bytesOf e:=zg _ (Bb ao);simp only[aR]at eH;omega
 have cO:=run_make (P:=P) w t e i z hu hi hz kl kc n m h0 sb (by
  rw[pB]at eH;simp only[aR]at eH;grind) WJ
 have hlen:(List.replicate n.toNat (dy P e (jH P e))).length=n.toNat:=by simp
 obtain⟨n1,n2,n3⟩:=asy S (cap:=m.toNat) (es:=List.replicate n.toNat (dy P e (jH P e))) (C0:=madeCells z.cells (m.toNat*i.size)) ao hn (by rw[size_madeCells,h3]) (by omega) (by simp only[maxLen];omega)
  (by rw[h3];exact afl fN hi hz n.toNat m.toNat (by omega))
 refine⟨_,_,_,_,cO,n1,n2,?_⟩;rw[hlen]at n3;exact n3
theorem Pure.one{t:TypeId}{v:Value}{x:V}(h:Pure P w I t v x):v.oneCell'=true:=by cases h<;>rfl
structure Row(P:Program)(w:World)(I:Nat→Nat→Prop)(e:TypeId)(v:Value)(xs:List V)(a:Addr)(c:Nat)(news:List Value):Prop where
 val:v= .slice (some a) xs.length c
 len:news.length=xs.length*P.cellsOf e
 cell:∀(j:Nat) u,news[j]? =some u→w.cell? (a.add j)=some u
 el:∀(i j:Nat) (x:V) (t':TypeId),xs[i]? =some x→(aV P e)[j]? =some t'→j<P.cellsOf e→∃u,news[i*P.cellsOf e+j]? =some u∧Pure P w I t' u (ca P e x j)
theorem Row.one{e:TypeId}{v:Value}{xs:List V}{a:Addr}{c:Nat}{news:List Value}(h:Row P w I e v xs a c news)(ao:di P e=true):∀u∈news,u.oneCell'=true:=by
 intro u hu;obtain⟨k,hk⟩:=vC hu;have sG:=(cw.1 hk).1;have gg:=(pN ao).2;rw[h.len]at sG;have hi:k/P.cellsOf e<xs.length:=Nat.div_lt_of_lt_mul (by grind);have hj:k %P.cellsOf e<P.cellsOf e:=AS _ gg;have iY:k %P.cellsOf e<(aV P e).length:=by rw[fL ao];exact hj
 obtain⟨u',mK,hp⟩:=h.el (k/P.cellsOf e) (k %P.cellsOf e) _ _ (bX hi) (bX iY) hj;rw[Nat.div_add_mod']at mK;rw[hk]at mK;cases mK;exact hp.one
theorem afo{e T:TypeId}{es:List V}{b:Nat}{Ca:Array Value}{off len cap o:Nat}(hh:w.heap[b]? =some (.cells Ca T (0,0)))(hs:es.length*P.cellsOf e≤Ca.size)
  (hx:∀(i j:Nat) (x:V) (t':TypeId),es[i]? =some x→(aV P e)[j]? =some t'→j<P.cellsOf e→∃v,Ca[i*P.cellsOf e+j]? =some v∧Pure P w I t' v (ca P e x j))
  (nT:off+len≤es.length) (ho:0<len→o=off*P.cellsOf e):
  Row P w I e (.slice (some ⟨b,o,none⟩) len cap) ((es.drop off).take len) ⟨b,o,none⟩ cap ((Ca.toList.drop (off*P.cellsOf e)).take (len*P.cellsOf e)):=by
 have hlen:((es.drop off).take len).length=len:=by simp;omega
 have hb:(off+len)*P.cellsOf e≤Ca.size:=pJ (eT _ nT) hs;rw[kO]at hb;refine⟨by rw[hlen],by grind,fun j u hj=> ?_,fun i j x t' ot ht hj=> ?_⟩
 ·have dt:=(cw.1 hj).1;have asC:j<len*P.cellsOf e:=by
   grind
  have nU:0<len:=by
   grind
  rw[jW asC,tc]at hj;rw[o9,cell?_cells hh,ho nU];grind
 ·have hi:i<len:=by grind
  rw[jW hi,tc]at ot;obtain⟨u,hu,hp⟩:=hx (off+i) j x t' ot ht hj;refine⟨u,?_,hp⟩;have:i*P.cellsOf e+j<len*P.cellsOf e:=by
   have:(i+1)*P.cellsOf e≤len*P.cellsOf e:=eT _ hi;grind
  grind
theorem JM(cX:∀id blk,hp id=some blk→fg P w I β hp (β id) blk){e:TypeId}{v:Value}{x:V}{k:List V→Rd R}{r:R}{rd:List Nat}(ao:di P e=true)(hv:ai P w I β hp v x)
  (h:(xy e x k).run C hp=some (r,rd)):∃xs,(((∃a,v= .slice a 0 0)∧xs=[])∨∃a c news,Row P w I e v xs a c news)∧∃l,(k xs).run C hp=some (r,l):=by
 cases hv with
 |list hp'=>
  obtain⟨hc,h2⟩:=ay h;clear h;rw[aN]at hc;subst hc;cases hp' with
  |nil=>grind
  |@emp a cap=>exact⟨[],.inr ⟨a,cap,[],⟨rfl,by simp,fun j u hj=>by simp at hj,fun i j x t' hx _ _=>by simp at hx⟩⟩,rd,h2⟩
  |@list b o len cap es g hl bO hI gZ hx=>
   refine⟨_,.inr ⟨⟨b,o,none⟩,cap,(List.range (len*P.cellsOf e)).map fun k=>g (k/P.cellsOf e) (k %P.cellsOf e),⟨by rw[hl],by grind,fun j u hj=> ?_,fun i j x t' ot ht hj=> ?_⟩⟩,rd,h2⟩
   ·obtain⟨dt,Bj⟩:=cw.1 hj;simp at dt Bj;have gg:=(pN ao).2;have hi:j/P.cellsOf e<len:=Nat.div_lt_of_lt_mul (by grind);have mn:j %P.cellsOf e<P.cellsOf e:=AS _ gg;rw[o9,←Bj];have:=gZ (j/P.cellsOf e) (j %P.cellsOf e) hi mn;rwa [Nat.div_add_mod']at this
   ·have hi:i<len:=by grind
    have hb:i*P.cellsOf e+j<len*P.cellsOf e:=by
     have:(i+1)*P.cellsOf e≤len*P.cellsOf e:=eT _ hi;grind
    refine⟨g i j,?_,hx i j x t' ot ht⟩;have e1:(i*P.cellsOf e+j)/P.cellsOf e=i:=by
     rw[ze,Nat.mul_add_div (pN ao).2,Nat.div_eq_of_lt hj,Nat.add_zero]
    have e2:(i*P.cellsOf e+j) %P.cellsOf e=j:=by
     rw[ze,Nat.mul_add_mod];exact GU hj
    grind
 |nl=>cases h
 |nilS=>
  obtain⟨hc,h⟩:=ay h;grind
 |dZ ae hb=>
  obtain⟨l,h⟩:=run_get h;simp only[ae]at h;obtain⟨hc,h⟩:=ay h;grind
 |@whole e' id es fz b cap ae hb aZ bO hm=>
  obtain⟨l,h⟩:=run_get h;simp only[ae]at h;obtain⟨hc,h2⟩:=ay h;clear h;simp only[aG,aN]at hc;obtain⟨rfl,_⟩:=hc;have hr:=cX _ _ ae;cases hr with
  |eM au=>grind
  |arr hL Ud au hh hs hf fR hx=>
   rw[hb]at au;cases au;have:=afo (cap:=cap) (off:=0) (len:=es.length) (o:=0) hh hs hx (by omega) (fun _=>by simp);grind
 |jz ae hb=>
  obtain⟨l,h⟩:=run_get h;simp only[ae]at h;obtain⟨hc,h⟩:=ay h;grind
 |@sub e' id off len es fz b o cap ae hb nT bO ho=>
  obtain⟨l,h⟩:=run_get h;simp only[ae]at h;obtain⟨hc,h2⟩:=ay h;clear h;simp only[aG,aN]at hc;obtain⟨rfl,_⟩:=hc;have hr:=cX _ _ ae;cases hr with
  |eM au=>grind
  |arr hL Ud au hh hs hf fR hx=>
   rw[hb]at au;cases au;exact⟨_,.inr ⟨_,_,_,afo (cap:=cap) hh hs hx nT ho⟩,l,h2⟩
 |ei ae=>
  obtain⟨l,h⟩:=run_get h;simp only[ae]at h;cases h
 |j8 ae=>
  obtain⟨l,h⟩:=run_get h;simp only[ae]at h;cases h
 |undef=>cases h
 |int=>cases h
 |bool=>cases h
 |str=>cases h
 |agg=>cases h
 |bf=>cases h
 |eV=>cases h
 |fn=>cases h
 |pref=>cases h
 |nP=>cases h
 |ptr=>cases h
 |nQ=>cases h
 |nR=>cases h
 |row=>cases h
 |dH=>cases h
 |ff=>cases h
 |mj=>cases h
 |cK=>cases h
 |eA ae=>
  obtain⟨l,h⟩:=run_get h;simp only[ae]at h;cases h
 |fK ae=>
  obtain⟨l,h⟩:=run_get h;simp only[ae]at h;cases h
 |dQ ae=>
  obtain⟨l,h⟩:=run_get h;simp only[ae]at h;cases h
theorem E7{t ty e:TypeId}{i:TypeInfo}(ht:P.underlying t=some (.slice e))(hi:P.info? e=some i)(a:Option Addr)(n cap:Nat)(x:Value)(hx:∃a c,x= .slice a 0 c)(hn:n≤cap):
  (Builtin.append_ #[t,t] ty #[.slice a n cap,x]).run P w= .ok (.slice a n cap) w:=by
 obtain⟨a',c,rfl⟩:=hx;cases a' with
 |none=>cases a<;>simp[Builtin.append_,run_underlying ht,sizeOf,typeInfo,hi,Builtin.lenOf,Builtin.firstCells,hn,storeCells]
 |some a'=>cases a<;>simp[Builtin.append_,run_underlying ht,sizeOf,typeInfo,hi,Builtin.lenOf,Builtin.firstCells,hn,storeCells,loadCells,loadCellsFrom]
theorem P5{e:TypeId}{es xs:List V}{n:Nat}{c:List Value}{news:List Value}(hn:es.length=n)
  (h1:∀(i j:Nat) (x:V) (t':TypeId),es[i]? =some x→(aV P e)[j]? =some t'→j<P.cellsOf e→∃v,c[i*P.cellsOf e+j]? =some v∧Pure P w I t' v (ca P e x j))
  (h2:∀(i j:Nat) (x:V) (t':TypeId),xs[i]? =some x→(aV P e)[j]? =some t'→j<P.cellsOf e→∃v,news[i*P.cellsOf e+j]? =some v∧Pure P w I t' v (ca P e x j))
  (hb:n*P.cellsOf e≤c.length) (rest:List Value):
  ∀(i j:Nat) (x:V) (t':TypeId),(es++xs)[i]? =some x→(aV P e)[j]? =some t'→j<P.cellsOf e→∃v,(c.take (n*P.cellsOf e)++news++rest)[i*P.cellsOf e+j]? =some v∧Pure P w I t' v (ca P e x j):=by
 intro i j x t' hx ht hj;have hl:(c.take (n*P.cellsOf e)).length=n*P.cellsOf e:=by simp;omega
 by_cases hi:i<n
 ·rw[qC (by omega)]at hx;obtain⟨v,hv,hp⟩:=h1 i j x t' hx ht hj;have:i*P.cellsOf e+j<n*P.cellsOf e:=by
   have:(i+1)*P.cellsOf e≤n*P.cellsOf e:=eT _ hi;grind
  grind
 ·rw[qD (by omega),hn]at hx;obtain⟨v,hv,hp⟩:=h2 (i-n) j x t' hx ht hj;have E8:i-n<xs.length:=(cw.1 hx).1;have e1:i*P.cellsOf e+j-n*P.cellsOf e=(i-n)*P.cellsOf e+j:=by
   rw[Nat.sub_mul];have:n*P.cellsOf e≤i*P.cellsOf e:=eT _ (by omega);omega
  have h3:(i-n)*P.cellsOf e+j<news.length:=(cw.1 hv).1;refine⟨v,?_,hp⟩;have h4:n*P.cellsOf e≤i*P.cellsOf e+j:=by
   have:n*P.cellsOf e≤i*P.cellsOf e:=eT _ (by omega);omega
  grind
theorem Pure.drew{t:TypeId}{v:Value}{x:V}(h:Pure P w I t v x):Pure P w.drew I t v x:=Pure.mono (w:=w) (w':=w.drew) (fun _ _ h=>h) (fun _ _ _=>rfl) h
theorem afp(w:World)(t ty e:TypeId)(i:TypeInfo)(z:Value)(ht:P.underlying t=some (.slice e))(hi:P.info? e=some i)(hz:i.zero=some z)
  (a0:Option Addr) (a:Addr) (n c:Nat) (news:List Value) (hl:news.length=n*i.size) (wB:∀j v,news[j]? =some v→w.cell? (a.add j)=some v)
  (h0:0<n) (JN:(n:Int)≤9223372036854775807) (P6:n*i.bytes≤281474976710656):
  (Builtin.append_ #[t,t] ty #[.slice a0 0 0,.slice (some a) n c]).run P w=
   .ok (.slice (some ⟨w.heap.size,0,none⟩) n (grownCap w n 0 e)) (w.drew.alloc (.cells (news.toArray++Builtin.zeroCells z.cells (grownCap w n 0 e-n)) e)):=by
 cases a0 with
 |none=>exact run_append_nil w t ty e i z ht hi hz a n c news hl wB h0 JN P6
 |some b=>
  have:=run_append_grow (P:=P) w t ty e i z ht hi hz b 0 0 [] (by simp) (by simp) a n c news hl wB (by omega) (by omega) (by rw[dP,nextslicecap_zero h0];omega);grind
theorem WK(S:ax P w I β hp B M w0){t ty e:TypeId}{nb:Nat}{fz:Bool}{x:Value}{xs:List V}(hu:P.underlying t=some (.slice e))(ao:di P e=true)(hn:hp nb=none)
  (eH:xs.length*P.bytesOf e≤aR) {a0:Option Addr} (hx:((∃a,x= .slice a 0 0)∧xs=[])∨∃a c news,Row P w I e x xs a c news):
  ∃v w' β',(Builtin.append_ #[t,t] ty #[.slice a0 0 0,x]).run P w= .ok v w'∧Le P w I β hp w' I β' (ak hp nb (some (.arr e xs fz)))∧ax P w' I β' (ak hp nb (some (.arr e xs fz))) B M w0∧
   ai P w' I β' (ak hp nb (some (.arr e xs fz))) v (.whole e nb):=by
 obtain⟨i,z,hi,hz,h3,h4,_⟩:=lO ao;have yr:=Bb ao;have pB:P.bytesOf e=i.bytes:=by simp[Program.bytesOf,hi]
 have hlen:xs.length≤2^45:=by
  have:xs.length*1≤xs.length*P.bytesOf e:=zg _ yr;simp only[aR]at eH;omega
 have empty:xs=[]→(∃a c,x= .slice a 0 c)→∃v w' β',(Builtin.append_ #[t,t] ty #[.slice a0 0 0,x]).run P w= .ok v w'∧Le P w I β hp w' I β' (ak hp nb (some (.arr e xs fz)))∧ax P w' I β' (ak hp nb (some (.arr e xs fz))) B M w0∧
   ai P w' I β' (ak hp nb (some (.arr e xs fz))) v (.whole e nb):=by
  intro kh WM;subst kh;obtain⟨a1,a2⟩:=Hw S e hn;exact⟨_,_,_,E7 hu hi a0 0 0 x WM (aW _),a1,a2,.dZ (bI _ _ _) (bI _ _ _)⟩
 rcases hx with⟨⟨_,rfl⟩,rfl⟩|⟨a,c,news,hr⟩
 ·simp_all
 ·by_cases h0:xs.length=0
  ·have kh:xs=[]:=qu h0;refine empty kh ⟨some a,c,?_⟩;rw[hr.val,h0]
  ·have cO:=afp (P:=P) w t ty e i z hu hi hz a0 a xs.length c news (by rw[hr.len,h3]) hr.cell (by omega) (by omega) (by rw[←pB];simp only[aR]at eH;omega);have sK:=grownCap_ge w xs.length 0 e;have u7:grownCap w xs.length 0 e≤maxLen:=grownCap_le_maxLen w xs.length 0 e (by simp only[maxLen];omega);obtain⟨n1,n2,n3⟩:=E4 S.drew (nb:=nb) (cap:=grownCap w xs.length 0 e) (es:=xs) (C0:=news.toArray++Builtin.zeroCells z.cells (grownCap w xs.length 0 e-xs.length)) ao hn
    (by simp only[MV,ui,size_zeroCells,h4,hr.len,←kO];grind) sK u7
    (fun i' j y t' hy ht hj=>by
     obtain⟨u,mK,hp⟩:=hr.el i' j y t' hy ht hj;have aO:=(cw.1 mK).1;refine⟨u,?_,Pure.drew hp⟩;grind)
   rw[hr.val];exact⟨_,_,_,cO,(Le.drew w I β hp).trans n1,n2,n3⟩
theorem afq{P:Program}(w:World)(t ty e T:TypeId)(i:TypeInfo)(ht:P.underlying t=some (.slice e))(hi:P.info? e=some i)
  (g n9 yu:Nat) (cur:Array Value) (hg:w.heap[g]? =some (.cells cur T (0,0)))
  (a:Addr) (m c:Nat) (news:List Value) (hl:news.length=m*i.size) (wB:∀j u,news[j]? =some u→w.cell? (a.add j)=some u) (h1:∀u∈news,u.oneCell'=true)
  (wC:n9+m≤yu) (E9:n9*i.size+news.length≤cur.size):
  (Builtin.append_ #[t,t] ty #[.slice (some ⟨g,0,none⟩) n9 yu,.slice (some a) m c]).run P w=
   .ok (.slice (some ⟨g,0,none⟩) (n9+m) yu) (w.setRow g (cur.toList.take (n9*i.size)++news++cur.toList.drop (n9*i.size+news.length)).toArray):=by
 have hf:=run_firstCells_some (P:=P) w i.size m a m c news hl wB;have cv:=run_storeCells_at P g (n9*i.size) T news 0 cur w hg (by omega) h1;simp only[Nat.add_zero]at cv;simp[Builtin.append_,run_underlying ht,sizeOf,typeInfo,hi,Builtin.lenOf,wC,hf,Addr.add_lit,cv]
theorem afr(S:ax P w I β hp B M w0){t ty e:TypeId}{nb id:Nat}{s x:Value}{es xs:List V}{fz:Bool}(hu:P.underlying t=some (.slice e))(ao:di P e=true)(hs:ai P w I β hp s (.whole e id))(ae:hp id=some (.arr e es fz))(hn:hp nb=none)
  (eH:Nat.ble ((es.length+xs.length)*P.bytesOf e) aR=true) (oO:((∃a,x= .slice a 0 0)∧xs=[])∨∃a c news,Row P w I e x xs a c news):
  dr P ((Builtin.append_ #[t,t] ty #[s,x]).run P w) w I β hp B M w0 ⟨.whole e nb,[(nb,.arr e (es++xs) fz),(id,.dead)]⟩:=by
 rw[gG]at eH;have bE:nb≠id:=fun e=>by grind
 obtain⟨k1,k2⟩:=zB S ae;have jO:ak hp id (some ag.dead) nb=none:=by rw[cA _ _ bE];exact hn
 cases hs with
 |ei hd=>grind
 |dQ hd=>grind
 |eA hd=>grind
 |fK hd=>grind
 |dZ hd hb=>
  rw[ae]at hd;cases hd;simp only[List.length_nil,dP]at eH;have asD:((∃a,x= .slice a 0 0)∧xs=[])∨∃a c news,Row P w I e x xs a c news:=oO;obtain⟨v,w',β',a1,a2,a3,a4⟩:=WK (ty:=ty) k2 hu ao jO eH asD;exact⟨v,w',I,β',a1,k1.trans a2,a3,a4⟩
 |@whole _ _ aI qM b cap hd hb aZ bO hm=>
  rw[ae]at hd;cases hd;have hr:=S.h.rel id _ ae;cases hr with
  |eM au=>grind
  |@arr _ T _ _ b' Ca hL _ au hh Ad hf fR Ae=>
   rw[hb]at au;cases au;obtain⟨i,z,hi,hz,h3,h4,_⟩:=lO ao;have yr:=Bb ao;have pB:P.bytesOf e=i.bytes:=by simp[Program.bytesOf,hi]
   have hlen:es.length+xs.length≤2^45:=by
    have:(es.length+xs.length)*1≤(es.length+xs.length)*P.bytesOf e:=zg _ yr;simp only[aR]at eH;omega
   rw[ml hh]at aZ;have uD:∀aq blk',ak hp id (some ag.dead) aq=some blk'→¬bm P w (β aq) blk' b:=by
    intro aq blk' h1 h2;by_cases oM:aq=id
    ·subst oM;rw[bI]at h1;cases h1;exact h2.alive rfl
    ·rw[cA _ _ oM]at h1;exact oM (S.h.inj aq id blk' _ b h1 ae h2 (.root (by simp) hb))
   have JO:=S.h.zw id _ b ae (by simp) hb;have room:∀(C':Array Value) (w':World) (ys:List V),w'.heap[b]? =some (.cells C' T (0,0))→C'.size=Ca.size→(∀b',b'≠b→w'.heap[b']? =w.heap[b']?)→w.heap.size≤w'.heap.size→(w'.os=w.os∧w'.output=w.output)→ys.length≤cap→es.length≤ys.length→(∀j,j<es.length*P.cellsOf e→C'[j]? =Ca[j]?)→
     (∀(i j:Nat) (y:V) (t':TypeId),ys[i]? =some y→(aV P e)[j]? =some t'→j<P.cellsOf e→∃v,C'[i*P.cellsOf e+j]? =some v∧Pure P w I t' v (ca P e y j))→
     Le P w I β hp w' I (ak β nb (some b)) (ak (ak hp id (some .dead)) nb (some (.arr e ys fz)))∧ax P w' I (ak β nb (some b)) (ak (ak hp id (some .dead)) nb (some (.arr e ys fz))) B M w0∧
     ai P w' I (ak β nb (some b)) (ak (ak hp id (some .dead)) nb (some (.arr e ys fz))) (.slice (some ⟨b,0,none⟩) ys.length cap) (.whole e nb):=by
    intro C' w' ys hC rG I7 hwz asE Ab hey tS hy;have hIn:=WG hf fR;obtain⟨a1,a2⟩:=D0 k2 (blk:= .arr e ys fz) (w':=w') jO uD (afg hh hC hIn tS) (fun b' h _=>I7 b' h) hwz asE JO
     (fun b' h=>(eX (h.flat (by simp))).symm) (fun hle=> .arr (rG▸hL) ao rfl hC (by rw[rG,←aZ];exact eT _ Ab) (fun _ j h=>lZ (hIn j h) (eT _ hey)) fR fun i j y t' a b c=>by
      obtain⟨v,hv,hp⟩:=hy i j y t' a b c;exact⟨v,hv,hp.mono hle.eD hle.cM⟩)
    refine⟨k1.trans a1,a2,.whole (bI _ _ _) (bI _ _ _) ?_ Ab hm⟩;rw[ml hC,rG,aZ]
   have same:xs=[]→(∃a c,x= .slice a 0 c)→dr P ((Builtin.append_ #[t,t] ty #[.slice (some ⟨b,0,none⟩) es.length cap,x]).run P w) w I β hp B M w0 ⟨.whole e nb,[(nb,.arr e (es++xs) fz),(id,.dead)]⟩:=by
    intro kh WM;subst kh;rw[nJ];obtain⟨a1,a2,a3⟩:=room Ca w es hh rfl (fun _ _=>rfl) (aW _) ⟨rfl,rfl⟩ bO (aW _) (fun _ _=>rfl) Ae;exact⟨_,_,_,_,E7 hu hi _ _ _ x WM bO,a1,a2,a3⟩
   rcases oO with⟨⟨_,rfl⟩,rfl⟩|⟨a,c,news,cR⟩
   ·grind
   ·have h1:=cR.one ao;have tQ:es.length*P.cellsOf e≤Ca.toList.length:=by omega
    by_cases wC:es.length+xs.length≤cap
    ·have E9:es.length*P.cellsOf e+news.length≤Ca.size:=by rw[cR.len,←kO,←aZ];exact eT _ wC
     have cO:=afq (P:=P) w t ty e T i hu hi b es.length cap Ca hh a xs.length c news (by rw[cR.len,h3]) cR.cell h1 wC (by grind);rw[h3]at cO;have fN:=P5 (P:=P) (w:=w) (I:=I) (n:=es.length) (c:=Ca.toList) rfl (fun i j y t' a b c=>by
      grind) cR.el tQ (Ca.toList.drop (es.length*P.cellsOf e+news.length))
     obtain⟨a1,a2,a3⟩:=room (Ca.toList.take (es.length*P.cellsOf e)++news++Ca.toList.drop (es.length*P.cellsOf e+news.length)).toArray (w.setRow b _) (es++xs)
      (setRow_heap w b Ca _ T _ hh) (by simp;omega) (fun b' au=>setRow_other w b b' _ au) (by simp) ⟨rfl,rfl⟩ (by grind) (by simp) (fun j hj=>by
        grind)
      (fun i j y t' a b c=>by
       grind)
     rw[cR.val];rw[gY]at a3;exact⟨_,_,_,_,cO,a1,a2,a3⟩
    ·have hold:∀(j:Nat) v,(Ca.toList.take (es.length*P.cellsOf e))[j]? =some v→w.cell? ((⟨b,0,none⟩:Addr).add j)=some v:=by
      intro j v hj;have dt:=(cw.1 hj).1;have mn:j<es.length*P.cellsOf e:=by grind
      rw[jW mn]at hj;rw[o9,cell?_cells hh,dP];grind
     have cO:=run_append_grow (P:=P) w t ty e i z hu hi hz ⟨b,0,none⟩ es.length cap (Ca.toList.take (es.length*P.cellsOf e)) (by grind) hold a xs.length c news (by rw[cR.len,h3]) cR.cell (by omega) (by omega)
      (growslice_fits (by omega) (by rw[←pB];simp only[aR]at eH;omega))
     have sK:=grownCap_ge w (es.length+xs.length) cap e;have u7:grownCap w (es.length+xs.length) cap e≤maxLen:=grownCap_le_maxLen w _ cap e (by simp only[maxLen];omega);have fN:=P5 (P:=P) (w:=w) (I:=I) (n:=es.length) (c:=Ca.toList) rfl (fun i j y t' a b c=>by
      grind) cR.el tQ (Builtin.zeroCells z.cells (grownCap w (es.length+xs.length) cap e-(es.length+xs.length))).toList
     obtain⟨n1,n2,n3⟩:=E4 k2.drew (nb:=nb) (cap:=grownCap w (es.length+xs.length) cap e) (es:=es++xs)
      (C0:=(Ca.toList.take (es.length*P.cellsOf e)).toArray++news.toArray++Builtin.zeroCells z.cells (grownCap w (es.length+xs.length) cap e-(es.length+xs.length))) ao jO
      (by
       have e1:(Ca.toList.take (es.length*P.cellsOf e)).length=es.length*P.cellsOf e:=by simp;omega
       simp only[MV,ui,size_zeroCells,h4,cR.len,e1,←kO];grind) (by grind) u7
      (fun i j y t' a b c=>by
       obtain⟨v,hv,hp⟩:=fN i j y t' a b c;refine⟨v,?_,Pure.drew hp⟩;grind)
     rw[cR.val];rw[gY]at n3;exact⟨_,_,_,_,cO,(k1.trans (Le.drew w I β _)).trans n1,n2,n3⟩
theorem asF(S:ax P w I β hp B M w0){t ty e:TypeId}{nb:Nat}{s x:Value}{sv xv:V}{r:R}{rd:List Nat}(hu:P.underlying t=some (.slice e))(hs:ai P w I β hp s sv)(hx:ai P w I β hp x xv)
  (h:(DK P nb e sv xv).run C hp=some (r,rd)):dr P ((Builtin.append_ #[t,t] ty #[s,x]).run P w) w I β hp B M w0 r:=by
 unfold DK at h;obtain⟨ao,h⟩:=ay h;obtain⟨xs,oO,l0,h⟩:=JM S.h.rel ao hx h;cases sv with
 |nilS e'=>
  obtain⟨hc,h⟩:=ay h;simp only[aG,aN,gG]at hc;obtain⟨hn,rfl⟩:=n8 h;obtain⟨a0,rfl⟩:∃a0,s= .slice a0 0 0:=by cases hs;grind
  obtain⟨v,w',β',a1,a2,a3,a4⟩:=WK (ty:=ty) S hu ao hn hc.2 oO;exact⟨v,w',I,β',a1,a2,a3,a4⟩
 |whole e' id=>
  obtain⟨l,h⟩:=run_get h;cases ae:hp id with
  |none=>rw[ae]at h;cases h
  |some blk=>
   rw[ae]at h;cases blk with
   |dead=>cases h
   |var _=>cases h
   |nest _ _ _=>cases h
   |map _ _=>cases h
   |out _ _ _ _=>cases h
   |arr eh es fz=>
    obtain⟨hc,h⟩:=ay h;obtain⟨hn,rfl⟩:=n8 h;simp only[aG,aN,gG]at hc;obtain⟨WN,WO,eH⟩:=hc;subst WN;subst WO;exact afr S hu ao hs ae hn (by simp_all) oO
 |_=>cases h
end
section
variable {P:Program}{w w':World}{I I':Nat→Nat→Prop}{β β':Nat→Option Nat}{hp hp':Nat→Option ag}{C:af}{B:Nat}{M:Nat→Prop}{w0:Start}
theorem run_copy_none(w:World){dT sT ty elem:TypeId}{i:TypeInfo}(a0:Option Addr)(afs asG:Nat)(a1:Option Addr)(n9 yu:Nat)(hu:P.underlying dT=some (.slice elem))(hi:P.info? elem=some i)(h0:Nat.min n9 afs=0):
  (Builtin.copy_ #[dT,sT] ty #[.slice a0 afs asG,.slice a1 n9 yu]).run P w= .ok (goInt 0) w:=by
 cases a0<;>cases a1<;>simp[Builtin.copy_,run_underlying hu,Builtin.lenOf,Builtin.firstCells,sizeOf,typeInfo,hi,h0,storeCells,loadCells,loadCellsFrom]
theorem asH(S:ax P w I β hp B M w0){t u ty e:TypeId}{s x:Value}{sv xv:V}{r:R}{rd:List Nat}(hu:P.underlying t=some (.slice e))(hs:ai P w I β hp s sv)(hx:ai P w I β hp x xv)
  (h:(TH P e sv xv).run C hp=some (r,rd)):dr P ((Builtin.copy_ #[t,u] ty #[s,x]).run P w) w I β hp B M w0 r:=by
 unfold TH at h;obtain⟨ao,h'⟩:=ay h;clear h;simp only[aG,aN]at ao;obtain⟨ao,h1⟩:=ao;obtain⟨xs,oO,l0,h⟩:=JM S.h.rel ao hx h';obtain⟨i,z,hi,hz,aZ,_⟩:=lO ao;cases sv<;>simp only at h<;>first|(cases h;done)|skip
 rename_i e' id;obtain⟨l,h2⟩:=run_get h;clear h;cases ae:hp id with
 |none=>rw[ae]at h2;cases h2
 |some blk=>
  rw[ae]at h2;cases blk<;>simp only at h2<;>first|(cases h2;done)|skip
  rename_i e2 es fz;cases fz with
  |true=>cases h2
  |false=>
  obtain⟨hc,h3⟩:=ay h2;simp only[aG,aN]at hc;obtain⟨rfl,rfl⟩:=hc;obtain rfl:=aM h3;have wD:min xs.length es.length=0→(Builtin.copy_ #[t,u] ty #[s,x]).run P w= .ok (goInt 0) w→dr P ((Builtin.copy_ #[t,u] ty #[s,x]).run P w) w I β hp B M w0 ⟨.int .i64 (min xs.length es.length:Nat),[(id,.arr e (xs.take es.length++es.drop xs.length) false)]⟩:=by
   intro h0 hr;have he:xs.take es.length++es.drop xs.length=es:=by
    rcases Nat.le_total xs.length es.length with hl|hl
    ·have:xs=[]:=qu (by omega);simp[this]
    ·have:es=[]:=qu (by omega);simp[this]
   have jo:b7 hp [(id,.arr e (xs.take es.length++es.drop xs.length) false)]=hp:=by
    rw[he];exact TR hp id _ ae
   refine⟨goInt 0,w,I,β,hr,?_⟩;simp only[jo,h0];exact⟨Le.refl w I β hp,S,.int⟩
  cases hs with
  |ei hd=>rw[ae]at hd;cases hd
  |dQ hd=>rw[ae]at hd;cases hd
  |eA hd=>rw[ae]at hd;cases hd
  |fK hd=>rw[ae]at hd;cases hd
  |@dZ _ _ fz a hd hb=>
   rw[ae]at hd;cases hd;refine wD (by simp) ?_;rcases oO with⟨⟨a',rfl⟩,rfl⟩|⟨a',c,news,cR⟩
   ·exact run_copy_none w _ _ _ _ _ _ hu hi (by simp)
   ·rw[cR.val];exact run_copy_none w _ _ _ _ _ _ hu hi (by simp)
  |@whole _ _ aI qM b cap hd hb Fa bO hm=>
   have ga:=hd;rw[ae]at hd;cases hd;rcases oO with⟨⟨a',rfl⟩,rfl⟩|⟨a',c,news,cR⟩
   ·exact wD (by simp) (run_copy_none w _ _ _ _ _ _ hu hi (by simp))
   have hr:=S.h.rel id _ ae;cases hr with
   |eM au=>rw[au]at hb;cases hb
   |@arr _ T0 _ _ b' Ca hL _ au hh Ad hf fR Ae=>
    rw[hb]at au;cases au;have kU:news.length=xs.length:=by rw[cR.len,h1,iR]
    rw[h1,iR]at Ad;have lD:(news.take es.length).length=Nat.min xs.length es.length:=by
     rw[nK,kU,Nat.min_comm]
    have PD:Nat.min xs.length es.length=min xs.length es.length:=rfl;have cO:=run_copy_row (P:=P) w t u ty e b 0 es.length cap a' xs.length c Ca T0 (news.take es.length) hu (by rw[hi];simp[aZ,h1]) hh lD
     (fun j v hj=>cR.cell j v (by
      have:=(cw.1 hj).1;rw[nK]at this;rwa [jW (by omega)]at hj)) (by rw[lD,PD];omega) (fun v hv=>cR.one ao v (MR hv))
    rw[cR.val];have hq:(goInt (news.take es.length).length)= .int .i64 ((min xs.length es.length:Nat):Int):=by rw[lD];rfl
    have o7:(xs.take es.length++es.drop xs.length).length=es.length:=by simp;omega
    have rG:(Ca.toList.take 0++news.take es.length++Ca.toList.drop (0+(news.take es.length).length)).toArray.size=Ca.size:=by
     simp only[ui,gY,GR,nK,lD,PD];simp;omega
    obtain⟨a1,a2⟩:=NN S (blk':= .arr e (xs.take es.length++es.drop xs.length) false) (Cb:=(Ca.toList.take 0++news.take es.length++Ca.toList.drop (0+(news.take es.length).length)).toArray) ae (by simp) ⟨rfl,o7.symm⟩ hb (fR rfl) (by simp) hh rG
     (fun hle dI=> .arr (by rw[rG];exact hL) ao rfl dI (by rw[rG,o7,h1,iR];exact Ad) (fun h=>by cases h) (fun _=>fR rfl) fun i j y t' hy ht hj=>by
      rw[h1]at hj⊢;obtain rfl:j=0:=by omega
      rw[iR,Nat.add_zero];have ri:=(cw.1 hy).1;rw[o7]at ri;by_cases Af:i<xs.length
      ·rw[qC (by rw[nK];omega),jW ri]at hy;obtain⟨u',k1,k2⟩:=cR.el i 0 y t' hy ht (by omega);rw[h1,iR,Nat.add_zero]at k1;refine⟨u',?_,k2.mono hle.eD hle.cM⟩;simp only[List.take_zero,List.nil_append,qy];rw[qC (by rw[nK];omega),jW ri];exact k1
      ·have e1:(xs.take es.length).length=xs.length:=by rw[nK];omega
       rw[qD (by omega),e1,tc,show xs.length+(i-xs.length)=i by omega]at hy;obtain⟨u',k1,k2⟩:=Ae i 0 y t' hy ht (by omega);rw[h1,iR,Nat.add_zero]at k1;refine⟨u',?_,k2.mono hle.eD hle.cM⟩;simp only[List.take_zero,List.nil_append,qy,dP];have e2:(news.take es.length).length=xs.length:=by rw[nK];omega
       rw[qD (by omega),e2,tc,show xs.length+(i-xs.length)=i by omega];simpa using k1)
    exact⟨_,_,_,_,cO,a1,a2,by rw[hq];exact .int⟩
theorem asI(S:ax P w I β hp B M w0){t ty e:TypeId}{x:Value}{xv:V}{r:R}{rd:List Nat}(hu:P.underlying t=some (.slice e))(hx:ai P w I β hp x xv)
  (h:(TG P e xv).run C hp=some (r,rd)):dr P ((Builtin.clear_ #[t] ty #[x]).run P w) w I β hp B M w0 r:=by
 unfold TG at h;obtain⟨fN,h'⟩:=ay h;clear h;have ao:di P e=true:=by
  unfold qE at fN;simp only[aG]at fN;exact fN.1
 obtain⟨i,z,hi,hz,aZ,JP,hzp⟩:=JL (w:=w) (I:=I) fN;have gg:=(pN ao).2;cases xv<;>simp only at h'<;>first|(cases h';done)|skip
 rename_i e' id off len;obtain⟨l,h2⟩:=run_get h';clear h';cases ae:hp id with
 |none=>rw[ae]at h2;cases h2
 |some blk=>
  rw[ae]at h2;cases blk<;>simp only at h2<;>first|(cases h2;done)|skip
  rename_i e2 es fz;cases fz with
  |true=>cases h2
  |false=>
  obtain⟨hc,h3⟩:=ay h2;simp only[aG,aN]at hc;obtain⟨rfl,rfl⟩:=hc;obtain rfl:=aM h3;have wD:len=0→(Builtin.clear_ #[t] ty #[x]).run P w= .ok (.tuple #[]) w→dr P ((Builtin.clear_ #[t] ty #[x]).run P w) w I β hp B M w0 ⟨.bf [],[(id,.arr e (es.take off++(List.replicate len (dy P e (jH P e))++es.drop (off+len))) false)]⟩:=by
   intro h0 hr;subst h0;have jo:b7 hp [(id,.arr e (es.take off++(List.replicate 0 (dy P e (jH P e))++es.drop (off+0))) false)]=hp:=by
    simp only[List.replicate_zero,List.nil_append,Nat.add_zero,List.take_append_drop];exact TR hp id _ ae
   refine⟨.tuple #[],w,I,β,hr,?_⟩;simp only[jo];exact⟨Le.refl w I β hp,S,.bf rfl fun j v x hj hx=>by simp at hx⟩
  cases hx with
  |j8 hd=>rw[ae]at hd;cases hd
  |@jz _ _ _ a0 hd hb=>exact wD rfl (by cases a0<;>simp[Builtin.clear_,run_underlying hu])
  |@sub _ _ _ _ aI qM b o cap hd hb nT bO ho=>
   by_cases hlen:len=0
   ·refine wD hlen ?_;subst hlen;simp[Builtin.clear_,run_underlying hu]
   have asJ:0<len:=by omega
   have ga:=hd;rw[ae]at hd;cases hd;have hr:=S.h.rel id _ ae;cases hr with
   |eM au=>rw[au]at hb;cases hb
   |@arr _ T0 _ _ b' Ca hL _ au hh Ad hf fR Ae=>
    rw[hb]at au;cases au;have ho:=ho asJ;subst ho;have B4:(Builtin.zeroCells z.cells len).toList.length=len*P.cellsOf e:=by rw[Array.length_toList,size_zeroCells,JP]
    have hmul:off*P.cellsOf e+len*P.cellsOf e≤es.length*P.cellsOf e:=by rw[←kO];exact eT _ nT
    have u5:∀v∈(Builtin.zeroCells z.cells len).toList,v.oneCell'=true:=by
     intro v hv;obtain⟨k,hk⟩:=vC hv;have sG:=(cw.1 hk).1;rw[B4]at sG;have hzg:(Builtin.zeroCells z.cells len)[k]? =z.cells[k %z.cells.size]? :=afk (z:=z.cells) (n:=len*z.cells.size) (by rw[JP];exact sG) (by rw[JP];exact gg);rw[uk,hzg]at hk;have hm:k %z.cells.size<P.cellsOf e:=by rw[JP];exact AS _ gg
     have htl:k %z.cells.size<(aV P e).length:=by rw[fL ao];exact hm
     obtain⟨v',JK,hp'⟩:=hzp (k %z.cells.size) _ (bX htl) hm;rw[hk]at JK;cases JK;exact hp'.1.one
    have cv:=run_storeCells_at P b (off*P.cellsOf e) T0 (Builtin.zeroCells z.cells len).toList 0 Ca w hh (by rw[B4];omega) u5;simp only[Nat.add_zero]at cv;have cO:(Builtin.clear_ #[t] ty #[.slice (some ⟨b,off*P.cellsOf e,none⟩) len cap]).run P w= .ok (.tuple #[]) (w.setRow b (Ca.toList.take (off*P.cellsOf e)++(Builtin.zeroCells z.cells len).toList++Ca.toList.drop (off*P.cellsOf e+(Builtin.zeroCells z.cells len).toList.length)).toArray):=by
     obtain⟨n,rfl⟩:∃n,len=n+1:=⟨len-1,by omega⟩
     simp[Builtin.clear_,run_underlying hu,zeroValue,typeInfo,hi,hz,cv]
    have o7:(es.take off++(List.replicate len (dy P e (jH P e))++es.drop (off+len))).length=es.length:=by simp;omega
    have rG:(Ca.toList.take (off*P.cellsOf e)++(Builtin.zeroCells z.cells len).toList++Ca.toList.drop (off*P.cellsOf e+(Builtin.zeroCells z.cells len).toList.length)).toArray.size=Ca.size:=by
     simp only[ui,gY,GR,nK,B4,Array.length_toList];omega
    obtain⟨a1,a2⟩:=NN S (blk':= .arr e (es.take off++(List.replicate len (dy P e (jH P e))++es.drop (off+len))) false) ae (by simp) ⟨rfl,o7.symm⟩ hb (fR rfl) (by simp) hh rG
     (fun hle dI=> .arr (by rw[rG];exact hL) ao rfl dI (by rw[rG,o7];exact Ad) (fun h=>by cases h) (fun _=>fR rfl) fun i' j y t' hy ht hj=>by
      have u9:=tt es (List.replicate len (dy P e (jH P e))) off i' (by simp;omega);rw[xo]at u9;rw[u9]at hy;have hC:(Ca.toList.take (off*P.cellsOf e)++(Builtin.zeroCells z.cells len).toList++Ca.toList.drop (off*P.cellsOf e+(Builtin.zeroCells z.cells len).toList.length)).toArray[i'*P.cellsOf e+j]? =
        if i'*P.cellsOf e+j<off*P.cellsOf e then Ca.toList[i'*P.cellsOf e+j]? else if i'*P.cellsOf e+j<off*P.cellsOf e+len*P.cellsOf e then(Builtin.zeroCells z.cells len).toList[i'*P.cellsOf e+j-off*P.cellsOf e]? else Ca.toList[i'*P.cellsOf e+j]? :=by
       have:=tt Ca.toList (Builtin.zeroCells z.cells len).toList (off*P.cellsOf e) (i'*P.cellsOf e+j) (by rw[B4,Array.length_toList];omega);rw[qy,eY,this,B4]
      by_cases sE:i'<off
      ·rw[aF sE]at hy;have:(i'+1)*P.cellsOf e≤off*P.cellsOf e:=eT _ sE;rw[kO]at this;rw[dG]at hC;obtain⟨u,k1,k2⟩:=Ae i' j y t' hy ht hj;exact⟨u,hC.trans (by simpa using k1),k2.mono hle.eD hle.cM⟩
      ·rw[aD sE]at hy;have h1:off*P.cellsOf e≤i'*P.cellsOf e:=eT _ (by omega);rw[fZ]at hC;by_cases E8:i'<off+len
       ·rw[aF E8]at hy;have:(i'+1)*P.cellsOf e≤(off+len)*P.cellsOf e:=eT _ E8;rw[kO,kO]at this;rw[dG]at hC;obtain⟨v,k1,k2⟩:=WH (w:=w) (I:=I) fN hi hz len len (aW _) (i'-off) j y t' hy ht hj;refine⟨v,hC.trans ?_,k2.mono hle.eD hle.cM⟩;rw[show i'*P.cellsOf e+j-off*P.cellsOf e=(i'-off)*P.cellsOf e+j by rw[Nat.sub_mul];omega,uk];unfold Builtin.zeroCells;rw[JP]at k1⊢;exact k1
       ·rw[aD E8]at hy;have:(off+len)*P.cellsOf e≤i'*P.cellsOf e:=eT _ (by omega);rw[kO]at this;rw[fZ]at hC;obtain⟨u,k1,k2⟩:=Ae i' j y t' hy ht hj;exact⟨u,hC.trans (by simpa using k1),k2.mono hle.eD hle.cM⟩)
    exact⟨_,_,_,_,cO,a1,a2,.bf rfl fun j v x hj hx=>by simp at hx⟩
end
section
variable {P:Program}{w w':World}{I I':Nat→Nat→Prop}{β β':Nat→Option Nat}{hp hp':Nat→Option ag}{C:af}{B:Nat}{M:Nat→Prop}{w0:Start}
theorem JQ(S:ax P w I β hp B M w0){nb b:Nat}{e e1:TypeId}{ys:List V}{C':Array Value}(hr:rowOf P e=some e1)(hn:hp nb=none)
  {T:TypeId} (yo:w'.heap[b]? =some (.cells C' T (0,0))) (hlen:ys.length≤C'.size)
  (hw:∀b',b'≠b→b'<w.heap.size→w'.heap[b']? =w.heap[b']?) (aZ:w.heap.size≤w'.heap.size) (om:w'.os=w.os∧w'.output=w.output) (hb:M b∨B≤b)
  (uD:∀aq blk',hp aq=some blk'→¬bm P w (β aq) blk' b) (dq:∀j,¬I b j) (K:Nat→Nat→List V→Prop)
  (gZ:∀(i:Nat) x,ys[i]? =some x→∃l v,x= .list e1 l∧C'[i]? =some v∧BY P w e1 (K i) v l)
  (hK:∀i b1 l,K i b1 l→b1≠b∧b1<w.heap.size∧jn P w I b1 e1 l∧(M b1∨B≤b1)∧∀id blk,hp id=some blk→¬bm P w (β id) blk b1)
  (wv:∀i j b1 l m,K i b1 l→K j b1 m→i=j):
  Le P w I β hp w' I (ak β nb (some b)) (ak hp nb (some (.nest e ys [0,0,0])))∧ax P w' I (ak β nb (some b)) (ak hp nb (some (.nest e ys [0,0,0]))) B M w0:=by
 obtain⟨p1,p2⟩:=aeY (w:=w) (I:=I) (vers:=[0,0,0]) hr yo hlen dq K gZ (fun i b1 l h=>⟨(hK i b1 l h).1,hw _ (hK i b1 l h).1 (hK i b1 l h).2.1,(hK i b1 l h).2.2.1⟩) wv;refine abX S hn uD (fun j h=>absurd h (dq j)) hw aZ om hb (fun b' ho=> ?_) (fun hle=>p2 hle.cM);rcases p1 b' ho with h|⟨i,l,h⟩
 ·exact .inl h
 ·exact .inr ⟨(hK _ _ _ h).2.2.2.1,(hK _ _ _ h).2.2.2.2⟩
theorem asK(S:ax P w I β hp B M w0){t ty e:TypeId}{nb:Nat}{s x:Value}{sv xv:V}{r:R}{rd:List Nat}(hu:P.underlying t=some (.slice e))(hs:ai P w I β hp s sv)(hx:ai P w I β hp x xv)
  (h:(TF P nb e sv xv).run C hp=some (r,rd)):dr P ((Builtin.append_ #[t,t] ty #[s,x]).run P w) w I β hp B M w0 r:=by
 unfold TF at h;obtain⟨hro,ha⟩:=ay h;clear h;obtain⟨e1,hr⟩:=DB.1 hro;obtain⟨xM,cu,ao,qh,jq⟩:=Aa hr;have lN:aV P e=[e]:=by simp[aV,cu]
 have hk:P.cellsOf e=1:=by rw[←fL ao,lN];rfl
 obtain⟨i,z,hi,hz,h3,h4,_⟩:=lO ao;have yr:=Bb ao;have pB:P.bytesOf e=i.bytes:=by simp[Program.bytesOf,hi]
 rw[hk]at h3 h4;cases sv with
 |whole e' id=>
  obtain⟨l0,hb⟩:=run_get ha;clear ha;cases ae:hp id with
  |none=>rw[ae]at hb;cases hb
  |some blk=>
   rw[ae]at hb;cases blk with
   |nest eh es vers=>
    obtain⟨hc,hd⟩:=ay hb;clear hb;simp only[aG,aN]at hc;obtain⟨rfl,rfl⟩:=hc;cases xv with
    |nilS e3=>
     obtain⟨_,he⟩:=ay hd;cases he;obtain⟨a0,rfl⟩:∃a0,x= .slice a0 0 0:=by cases hx;exact⟨_,rfl⟩
     cases hs with
     |ei hd=>rw[ae]at hd;cases hd
     |dZ hd=>rw[ae]at hd;cases hd
     |whole hd=>rw[ae]at hd;cases hd
     |fK hd=>rw[ae]at hd;cases hd
     |eA hd hb=>exact⟨_,_,_,_,E7 hu hi _ 0 0 _ ⟨_,_,rfl⟩ (aW _),Le.refl ..,S,.eA hd hb⟩
     |dQ hd hb aZ bO hm=>
      rw[ae]at hd;cases hd;exact⟨_,_,_,_,E7 hu hi _ _ _ _ ⟨_,_,rfl⟩ bO,Le.refl ..,S,.dQ ae hb aZ bO hm⟩
    |list e3 l=>
     obtain⟨gu,he⟩:=ay hd;simp only[aG,aN]at gu;obtain⟨rfl,nU⟩:=gu;have nU:=vB.1 nU;subst nU;cases he;obtain⟨a0,c0,rfl⟩:∃a0 c0,x= .slice a0 0 c0:=by
      cases hx with
      |list hp'=>cases hp' with
       |nil=>exact⟨_,_,rfl⟩
       |emp=>exact⟨_,_,rfl⟩
       |list g b c d e=>exact⟨_,_,by rw[←b];rfl⟩
     cases hs with
     |ei hd=>rw[ae]at hd;cases hd
     |dZ hd=>rw[ae]at hd;cases hd
     |whole hd=>rw[ae]at hd;cases hd
     |fK hd=>rw[ae]at hd;cases hd
     |eA hd hb=>exact⟨_,_,_,_,E7 hu hi _ 0 0 _ ⟨_,_,rfl⟩ (aW _),Le.refl ..,S,.eA hd hb⟩
     |dQ hd hb aZ bO hm=>
      rw[ae]at hd;cases hd;exact⟨_,_,_,_,E7 hu hi _ _ _ _ ⟨_,_,rfl⟩ bO,Le.refl ..,S,.dQ ae hb aZ bO hm⟩
    |whole e3 aY=>
     obtain⟨l1,he⟩:=run_get hd;clear hd;cases dv:hp aY with
     |none=>rw[dv]at he;cases he
     |some cC=>
      rw[dv]at he;cases cC with
      |nest e4 xs qS=>
       obtain⟨hc,hf⟩:=ay he;clear he;simp only[aG,aN,gG,nG,nF]at hc;obtain⟨rfl,rfl,afu,gg,eH⟩:=hc;have bE:id≠aY:=fun h=>by rw[h,oX]at afu;cases afu
       obtain⟨hn,rfl⟩:=n8 hf;have hlen:es.length+xs.length≤2^45:=by
        have:(es.length+xs.length)*1≤(es.length+xs.length)*P.bytesOf e:=zg _ yr;simp only[aR]at eH;omega
       obtain⟨b2,JR,fh,rfl⟩:∃b2 JR,β aY=some b2∧x= .slice (some ⟨b2,0,none⟩) xs.length JR:=by
        cases hx with
        |ei hd=>rw[dv]at hd;cases hd
        |dZ hd=>rw[dv]at hd;cases hd
        |whole hd=>rw[dv]at hd;cases hd
        |fK hd=>rw[dv]at hd;cases hd
        |eA hd hb=>rw[dv]at hd;cases hd;simp at gg
        |dQ hd hb aZ bO hm=>rw[dv]at hd;cases hd;exact⟨_,_,hb,rfl⟩
       obtain⟨C2,_,g1,g2,g3,g4,g5,g6⟩:=WD S hr dv fh;have wB:∀(j:Nat) v,(C2.toList.take xs.length)[j]? =some v→w.cell? ((⟨b2,0,none⟩:Addr).add j)=some v:=by
        intro j v hj;have dt:=(cw.1 hj).1;rw[nK]at dt;rw[jW (by omega)]at hj;rw[o9,cell?_cells g1,dP];simpa using hj
       have kU:(C2.toList.take xs.length).length=xs.length:=by simp;omega
       have u5:∀u∈C2.toList.take xs.length,u.oneCell'=true:=by
        intro u hm;obtain⟨j,hj⟩:=vC hm;have dt:=(cw.1 hj).1;rw[kU]at dt;rw[jW dt]at hj;obtain⟨l,v,_,hv,hh⟩:=g4 j xs[j] (bX dt);have:v=u:=by rw[uk,hv]at hj;exact eX hj
        subst this;rcases hh with⟨_,a,rfl⟩|⟨b1,cap,_,rfl,_⟩<;>rfl
       obtain⟨k1,S1⟩:=zB S ae;have asL:ak hp id (some ag.dead) aY=some (.nest e xs qS):=by rw[cA _ _ (Ne.symm bE)];exact dv
       obtain⟨k2,S2⟩:=zB S1 asL;have wE:nb≠id:=fun e=>by rw[e,ae]at hn;cases hn
       have asM:nb≠aY:=fun e=>by rw[e,dv]at hn;cases hn
       have wF:ak (ak hp id (some ag.dead)) aY (some ag.dead) nb=none:=by rw[cA _ _ asM,cA _ _ wE];exact hn
       have live:∀{aq blk'},ak (ak hp id (some ag.dead)) aY (some ag.dead) aq=some blk'→blk'≠ .dead→hp aq=some blk'∧aq≠id∧aq≠aY:=by
        intro aq blk' h hd;by_cases q1:aq=aY
        ·subst q1;rw[bI]at h;cases h;exact absurd rfl hd
        ·rw[cA _ _ q1]at h;by_cases q2:aq=id
         ·subst q2;rw[bI]at h;cases h;exact absurd rfl hd
         ·rw[cA _ _ q2]at h;exact⟨h,q2,q1⟩
       have WQ:∀{idx bx:Nat} {bl},(idx=id∨idx=aY)→hp idx=some bl→bm P w (β idx) bl bx→∀aq blk',ak (ak hp id (some ag.dead)) aY (some ag.dead) aq=some blk'→¬bm P w (β aq) blk' bx:=by
        intro idx bx bl OO kJ ho aq blk' h hO;obtain⟨q1,q2,q3⟩:=live h hO.alive;have:=S.h.inj aq idx _ _ bx q1 kJ hO ho;rcases OO with rfl|rfl
        ·exact q2 this
        ·exact q3 this
       have yv:b7 hp [(nb,.nest e (es++xs) [0,0,0]),(id,.dead),(aY,.dead)]=ak (ak (ak hp id (some ag.dead)) aY (some ag.dead)) nb (some (.nest e (es++xs) [0,0,0])):=by
        funext k;simp only[b7];by_cases q0:k=nb
        ·subst q0;rw[bI,bI]
        ·by_cases q1:k=id
         ·subst q1;rw[cA _ _ q0,bI,cA _ _ q0,cA _ _ bE,bI]
         ·by_cases q2:k=aY
          ·subst q2;rw[cA _ _ q0,cA _ _ q1,bI,cA _ _ q0,bI]
          ·rw[cA _ _ q0,cA _ _ q1,cA _ _ q2,cA _ _ q0,cA _ _ q2,cA _ _ q1]
       have lM:bm P w (β aY) (.nest e xs qS) b2:= .root (by simp) fh;have lit:∀i b1 l,At P w b2 e xs [(i,0)] b1 e1 l→b1<w.heap.size∧jn P w I b1 e1 l∧(M b1∨B≤b1)∧∀aq blk',ak (ak hp id (some ag.dead)) aY (some ag.dead) aq=some blk'→¬bm P w (β aq) blk' b1:=fun i b1 l ha=>by
        obtain⟨_,q2,q3,q4,q5⟩:=g5 i b1 l ha;exact⟨q2,q3,q4,WQ (.inr rfl) dv q5⟩
       cases hs with
       |ei hd=>rw[ae]at hd;cases hd
       |dZ hd=>rw[ae]at hd;cases hd
       |whole hd=>rw[ae]at hd;cases hd
       |fK hd=>rw[ae]at hd;cases hd
       |@eA _ _ _ a0 hd hb=>
        rw[ae]at hd;cases hd;simp only[List.length_nil,dP]at eH hlen;have cO:=afp (P:=P) w t ty e i z hu hi hz a0 ⟨b2,0,none⟩ xs.length JR (C2.toList.take xs.length) (by rw[kU,h3,iR]) wB (by omega) (by omega) (by rw[←pB];simp only[aR]at eH;omega);have sK:=grownCap_ge w xs.length 0 e;have u7:grownCap w xs.length 0 e≤maxLen:=grownCap_le_maxLen w xs.length 0 e (by simp only[maxLen];omega);have dI:(w.drew.alloc (.cells ((C2.toList.take xs.length).toArray++Builtin.zeroCells z.cells (grownCap w xs.length 0 e-xs.length)) e)).heap[w.heap.size]? =some (.cells ((C2.toList.take xs.length).toArray++Builtin.zeroCells z.cells (grownCap w xs.length 0 e-xs.length)) e):=heap_alloc_new w.drew (.cells ((C2.toList.take xs.length).toArray++Builtin.zeroCells z.cells (grownCap w xs.length 0 e-xs.length)) e);have E5:=S2.h.kC;obtain⟨a1,a2⟩:=JQ (w':=w.drew.alloc (.cells ((C2.toList.take xs.length).toArray++Builtin.zeroCells z.cells (grownCap w xs.length 0 e-xs.length)) e)) S2 (nb:=nb) (b:=w.heap.size) (ys:=xs) hr wF dI (by simp;omega)
         (fun b' _ aO=>heap_alloc_old w.drew _ b' aO) (by simp) ⟨rfl,rfl⟩ (.inr S.size) (fun aq blk' h ho=>pK _ (S2.h.lt h ho)) (fun j hj=>pK _ (E5 _ j hj))
         (fun i b1 l=>At P w b2 e xs [(i,0)] b1 e1 l) (fun j y hy=>by
          obtain⟨l,v,q1,q2,q3⟩:=g4 j y hy;have dt:=(cw.1 hy).1;refine⟨l,v,q1,?_,q3⟩;rw[MW (by simpa using by omega)];simp[dt,q2])
         (fun j b1 l ha=>⟨GV (lit j b1 l ha).1,lit j b1 l ha⟩) g6
        refine⟨_,_,I,ak β nb (some w.heap.size),cO,?_⟩;rw[yv,List.nil_append];refine⟨(k1.trans k2).trans a1,a2,?_⟩;exact .dQ (bI _ _ _) (bI _ _ _) (by rw[ml dI,hk,iR];simp[size_zeroCells,h4];omega) sK u7
       |@dQ _ _ _ _ b cap hd hb aZ bO hm=>
        rw[ae]at hd;cases hd;obtain⟨Ca,Tq,f1,f2,f3,f4,f5,f6⟩:=WD S hr ae hb;rw[ml f1,hk,iR]at aZ;have kJ:bm P w (β id) (.nest e es vers) b:= .root (by simp) hb;have JO:=S.h.own id _ b ae kJ;have gf:∀i b1 l,At P w b e es [(i,0)] b1 e1 l→b1≠b∧b1<w.heap.size∧jn P w I b1 e1 l∧(M b1∨B≤b1)∧∀aq blk',ak (ak hp id (some ag.dead)) aY (some ag.dead) aq=some blk'→¬bm P w (β aq) blk' b1:=fun i b1 l ha=>by
         obtain⟨q1,q2,q3,q4,q5⟩:=f5 i b1 l ha;exact⟨q1,q2,q3,q4,WQ (.inl rfl) ae q5⟩
        have asN:∀i b1 l,At P w b2 e xs [(i,0)] b1 e1 l→b1≠b:=fun i b1 l ha h=>by
         subst h;exact bE (S.h.inj id aY _ _ _ ae dv kJ (g5 i _ l ha).2.2.2.2)
        have Kc:∀i j b1 l m,At P w b e es [(i,0)] b1 e1 l→At P w b2 e xs [(j,0)] b1 e1 m→False:=fun i j b1 l m h1 h2=>bE (S.h.inj id aY _ _ b1 ae dv (f5 i b1 l h1).2.2.2.2 (g5 j b1 m h2).2.2.2.2)
        let K:Nat→Nat→List V→Prop:=fun i b1 l=>(i<es.length∧At P w b e es [(i,0)] b1 e1 l)∨(es.length≤i∧At P w b2 e xs [(i-es.length,0)] b1 e1 l)
        have wv:∀i j b1 l m,K i b1 l→K j b1 m→i=j:=by
         intro i j b1 l m h1 h2;rcases h1 with⟨_,h1⟩|⟨p1,h1⟩
         ·rcases h2 with⟨_,h2⟩|⟨_,h2⟩
          ·exact f6 _ _ _ _ _ h1 h2
          ·exact(Kc _ _ _ _ _ h1 h2).elim
         ·rcases h2 with⟨_,h2⟩|⟨p2,h2⟩
          ·exact(Kc _ _ _ _ _ h2 h1).elim
          ·have:=g6 _ _ _ _ _ h1 h2;omega
        have fill:∀(C':Array Value),(∀j,j<es.length→C'[j]? =Ca[j]?)→(∀j,j<xs.length→C'[es.length+j]? =C2[j]?)→∀(j:Nat) y,(es++xs)[j]? =some y→∃l v,y= .list e1 l∧C'[j]? =some v∧BY P w e1 (K j) v l:=by
         intro C' p1 p2 j y hy;by_cases hj:j<es.length
         ·rw[qC hj]at hy;obtain⟨l,v,q1,q2,q3⟩:=f4 j y hy;refine⟨l,v,q1,(p1 j hj).trans q2,?_⟩;rcases q3 with q3|⟨z1,b1,WR,z2,z3,z4,z5,z6⟩
          ·exact .inl q3
          ·exact .inr ⟨z1,b1,WR,z2,z3,z4,z5,.inl ⟨hj,z6⟩⟩
         ·rw[qD (by omega)]at hy;obtain⟨l,v,q1,q2,q3⟩:=g4 _ y hy;have dt:=(cw.1 hy).1;refine⟨l,v,q1,?_,?_⟩
          ·have:=p2 (j-es.length) dt;rw[show es.length+(j-es.length)=j by omega]at this;exact this.trans q2
          ·rcases q3 with q3|⟨z1,b1,WR,z2,z3,z4,z5,z6⟩
           ·exact .inl q3
           ·exact .inr ⟨z1,b1,WR,z2,z3,z4,z5,.inr ⟨by omega,z6⟩⟩
        by_cases wC:es.length+xs.length≤cap
        ·have E9:es.length+(C2.toList.take xs.length).length≤Ca.size:=by rw[kU];omega
         have cO:=afq (P:=P) w t ty e Tq i hu hi b es.length cap Ca f1 ⟨b2,0,none⟩ xs.length JR (C2.toList.take xs.length) (by rw[kU,h3,iR]) wB u5 wC (by rw[h3,iR];exact E9);rw[h3,iR,kU]at cO;have dI:=setRow_heap w b Ca (Ca.toList.take es.length++C2.toList.take xs.length++Ca.toList.drop (es.length+xs.length)).toArray Tq _ f1;obtain⟨a1,a2⟩:=JQ (w':=w.setRow b (Ca.toList.take es.length++C2.toList.take xs.length++Ca.toList.drop (es.length+xs.length)).toArray) S2 (nb:=nb) (b:=b) (ys:=es++xs) hr wF dI (by simp;omega)
          (fun b' au _=>setRow_other w b b' _ au) (by simp) ⟨rfl,rfl⟩ JO (WQ (.inl rfl) ae kJ) f3 K
          (fill _ (fun j hj=>by
           rw[qy,eY,qC (by simp;omega),jW hj,uk]) (fun j hj=>by
           rw[qy,eY,qD (by simp;omega),qC (by simp;omega),nK,Array.length_toList (xs:=Ca),GL (by omega),MX,jW hj,uk]))
          (fun j b1 l hj=>by
           rcases hj with⟨_,hj⟩|⟨_,hj⟩
           ·exact gf _ _ _ hj
           ·exact⟨asN _ _ _ hj,lit _ _ _ hj⟩) wv
         refine⟨_,_,I,ak β nb (some b),cO,?_⟩;rw[yv];refine⟨(k1.trans k2).trans a1,a2,?_⟩;have:=ai.dQ (P:=P) (w:=w.setRow b (Ca.toList.take es.length++C2.toList.take xs.length++Ca.toList.drop (es.length+xs.length)).toArray) (I:=I) (β:=ak β nb (some b)) (hp:=ak (ak (ak hp id (some ag.dead)) aY (some ag.dead)) nb (some (.nest e (es++xs) [0,0,0]))) (b:=b) (cap:=cap) (bI _ _ _) (bI _ _ _) (by rw[ml dI,hk,iR];simp;omega) (by rw[gY];exact wC) hm;rw[gY]at this;exact this
        ·have hold:∀(j:Nat) v,(Ca.toList.take es.length)[j]? =some v→w.cell? ((⟨b,0,none⟩:Addr).add j)=some v:=by
          intro j v hj;have dt:=(cw.1 hj).1;rw[nK]at dt;rw[jW (by omega)]at hj;rw[o9,cell?_cells f1,dP];simpa using hj
         have cO:=run_append_grow (P:=P) w t ty e i z hu hi hz ⟨b,0,none⟩ es.length cap (Ca.toList.take es.length) (by rw[h3,iR];simp;omega) hold ⟨b2,0,none⟩ xs.length JR (C2.toList.take xs.length) (by rw[kU,h3,iR]) wB (by omega) (by omega)
          (growslice_fits (by omega) (by rw[←pB];simp only[aR]at eH;omega))
         have sK:=grownCap_ge w (es.length+xs.length) cap e;have u7:grownCap w (es.length+xs.length) cap e≤maxLen:=grownCap_le_maxLen w _ cap e (by simp only[maxLen];omega);have dI:(w.drew.alloc (.cells ((Ca.toList.take es.length).toArray++(C2.toList.take xs.length).toArray++Builtin.zeroCells z.cells (grownCap w (es.length+xs.length) cap e-(es.length+xs.length))) e)).heap[w.heap.size]? =some (.cells ((Ca.toList.take es.length).toArray++(C2.toList.take xs.length).toArray++Builtin.zeroCells z.cells (grownCap w (es.length+xs.length) cap e-(es.length+xs.length))) e):=heap_alloc_new w.drew (.cells ((Ca.toList.take es.length).toArray++(C2.toList.take xs.length).toArray++Builtin.zeroCells z.cells (grownCap w (es.length+xs.length) cap e-(es.length+xs.length))) e);have E5:=S2.h.kC;obtain⟨a1,a2⟩:=JQ (w':=w.drew.alloc (.cells ((Ca.toList.take es.length).toArray++(C2.toList.take xs.length).toArray++Builtin.zeroCells z.cells (grownCap w (es.length+xs.length) cap e-(es.length+xs.length))) e)) S2 (nb:=nb) (b:=w.heap.size) (ys:=es++xs) hr wF dI (by simp;omega)
          (fun b' _ aO=>heap_alloc_old w.drew _ b' aO) (by simp) ⟨rfl,rfl⟩ (.inr S.size) (fun aq blk' h ho=>pK _ (S2.h.lt h ho)) (fun j hj=>pK _ (E5 _ j hj)) K
          (fill _ (fun j hj=>by
           rw[MW (by simp;omega),MW (by simp;omega),qy,jW hj,uk]) (fun j hj=>by
           rw[MW (by simp;omega),Array.getElem?_append_right (by simp;omega)];simp only[ui,nK,Array.length_toList (xs:=Ca),GL f2,MX];rw[qy,jW hj,uk]))
          (fun j b1 l hj=>by
           rcases hj with⟨_,hj⟩|⟨_,hj⟩
           ·obtain⟨_,q⟩:=gf _ _ _ hj;exact⟨GV q.1,q⟩
           ·exact⟨GV (lit _ _ _ hj).1,lit _ _ _ hj⟩) wv
         refine⟨_,_,I,ak β nb (some w.heap.size),cO,?_⟩;rw[yv];refine⟨(k1.trans k2).trans a1,a2,?_⟩;have:=ai.dQ (P:=P) (w:=w.drew.alloc (.cells ((Ca.toList.take es.length).toArray++(C2.toList.take xs.length).toArray++Builtin.zeroCells z.cells (grownCap w (es.length+xs.length) cap e-(es.length+xs.length))) e)) (I:=I) (β:=ak β nb (some w.heap.size)) (hp:=ak (ak (ak hp id (some ag.dead)) aY (some ag.dead)) nb (some (.nest e (es++xs) [0,0,0]))) (b:=w.heap.size) (cap:=grownCap w (es.length+xs.length) cap e) (bI _ _ _) (bI _ _ _) (by rw[ml dI,hk,iR];simp[size_zeroCells,h4];omega) (by rw[gY];exact sK) u7;rw[gY]at this;exact this
      |_=>cases he
    |_=>cases hd
   |_=>cases hb
 |_=>cases ha
theorem afv(S:ax P w I β hp B M w0){t ty e:TypeId}{nb:Nat}{s x:Value}{sv xv:V}{r:R}{rd:List Nat}(hu:P.underlying t=some (.slice e))(hs:ai P w I β hp s sv)(hx:ai P w I β hp x xv)
  (h:(TE P nb e sv xv).run C hp=some (r,rd)):dr P ((Builtin.append_ #[t,t] ty #[s,x]).run P w) w I β hp B M w0 r:=by
 unfold TE at h;split at h
 ·rename_i e' id ver i;obtain⟨ao,h1⟩:=ay h;clear h;obtain⟨xs,oO,l0,h2⟩:=JM S.h.rel ao hx h1;obtain⟨e0,es,vers,l1,ae,k1,k2,k3,h3⟩:=tn h2;cases hr:rowOf P e0 with
  |none=>simp only[hr]at h3;cases h3
  |some e1=>
  simp only[hr]at h3;obtain⟨hc,h4⟩:=ay h3;simp only[aG,aN]at hc;obtain⟨rfl,rfl⟩:=hc;obtain⟨y,hy,h5⟩:=o5 h4;obtain⟨eH,h6⟩:=ay h5;obtain⟨l2,h7⟩:=run_get h6;cases hn:hp nb with
  |some _=>rw[hn]at h7;cases h7
  |none=>
  rw[hn]at h7;obtain⟨jO,rfl⟩:=n8 h7;obtain⟨b,q,i0,c,t1,l,bK,hb,ht,hc⟩:=hs.TZ ae k1 k2 k3;have:q=[]∧i0=i∧c=0:=by
   have hq:([]:Path)++[(i,0)]=q++[(i0,c)]:=bK;obtain⟨h1,h2⟩:=List.append_inj' hq rfl;simp only[GW,og,and_true]at h2;exact⟨h1.symm,h2.1.symm,h2.2.symm⟩
  obtain⟨rfl,rfl,rfl⟩:=this;obtain⟨xM,cu,asO,qh,jq⟩:=Aa hr;have lN:aV P e0=[e0]:=by simp[aV,cu]
  have hk:P.cellsOf e0=1:=by rw[←fL asO,lN];rfl
  obtain⟨b',e',aI,Ca,T,f,x1,m1,m2,m3,m4,m5,m6⟩:=hc;cases m1;rw[hk,iR,Nat.add_zero]at m6;obtain⟨wy,l1,S1,hv⟩:=asr S hr ae hb hy hn;have uN:=hv _ _ _ _ m2 m6;have bE:nb≠id:=fun h=>by rw[h,ae]at hn;cases hn
  have asP:nb+1≠id:=fun h=>by rw[h,ae]at jO;cases jO
  generalize hq:ak (ak hp id (some (ag.out e0 es (vers.map (· +1)) i0))) nb (some (.arr e y.toList false))=WS at l1 S1 uN;have hq0:WS nb=some (.arr e y.toList false):=by rw[←hq,bI]
  have hqn:WS (nb+1)=none:=by rw[←hq,cA _ _ (Nat.succ_ne_self nb),cA _ _ asP];exact jO
  have cR:((∃a,x= .slice a 0 0)∧xs=[])∨∃a c news,Row P w I e x xs a c news:=oO;have:=afr (ty:=ty) S1 hu ao uN hq0 hqn eH (by
   rcases cR with h|⟨a,c,news,h⟩
   ·exact .inl h
   ·exact .inr ⟨a,c,news,h.val,h.len,h.cell,fun i j x t' p1 p2 p3=>(h.el i j x t' p1 p2 p3).imp fun u hu=>⟨hu.1,hu.2.mono l1.eD l1.cM⟩⟩)
  obtain⟨v,w',I',β',a1,a2,a3,a4⟩:=this;refine⟨v,w',I',β',a1,?_⟩;have yv:b7 hp [(nb+1,.arr e (y.toList++xs) false),(nb,.dead),(id,.out e0 es (vers.map (· +1)) i0)]=b7 WS [(nb+1,.arr e (y.toList++xs) false),(nb,.dead)]:=by
   rw[←hq];funext k;simp only[b7];by_cases q0:k=nb+1
   ·subst q0;rw[bI,bI]
   ·rw[cA _ _ q0,cA _ _ q0];by_cases q1:k=nb
    ·subst q1;rw[bI,bI]
    ·rw[cA _ _ q1,cA _ _ q1,cA _ _ q1]
  rw[yv];exact⟨l1.trans a2,a3,a4⟩
 ·exact asF S hu hs hx h
theorem afw(S:ax P w I β hp B M w0){t e e1:TypeId}{nb:Nat}{v:Value}{l:List V}(hu:P.underlying t=some (.slice e))(hr:rowOf P e=some e1)(hn:hp nb=none)(K:Nat→List V→Prop)
  (hv:BY P w e1 K v l) (hK:∀b1 l,K b1 l→b1<w.heap.size∧jn P w I b1 e1 l∧(M b1∨B≤b1)∧∀id blk,hp id=some blk→¬bm P w (β id) blk b1):
  (Instr.buildSlice t 1 #[(0,v)]).run P w= .ok (.slice (some ⟨w.heap.size,0,none⟩) 1 1) (w.alloc (.cells #[v] e))∧
  Le P w I β hp (w.alloc (.cells #[v] e)) I (ak β nb (some w.heap.size)) (ak hp nb (some (.nest e [.list e1 l] [0,0,0])))∧ax P (w.alloc (.cells #[v] e)) I (ak β nb (some w.heap.size)) (ak hp nb (some (.nest e [.list e1 l] [0,0,0]))) B M w0∧
  ai P (w.alloc (.cells #[v] e)) I (ak β nb (some w.heap.size)) (ak hp nb (some (.nest e [.list e1 l] [0,0,0]))) (.slice (some ⟨w.heap.size,0,none⟩) 1 1) (.whole e nb):=by
 obtain⟨xM,cu,ao,qh,jq⟩:=Aa hr;have lN:aV P e=[e]:=by simp[aV,cu]
 have hk:P.cellsOf e=1:=by rw[←fL ao,lN];rfl
 obtain⟨i,z,hi,hz,h3,h4,_⟩:=lO ao;rw[hk]at h3 h4;have tR:v.cells= #[v]:=by rcases hv with⟨_,a,rfl⟩|⟨b1,cap,_,rfl,_⟩<;>rfl
 have cO:=WI w t e 1 #[(0,v)] #[v] i z hu hi hz (by rw[h3];omega) (by
  rw[h3];simp[Instr.fill,tR];rw[show Array.range 1= #[0]from rfl];simp)
 have dI:(w.alloc (.cells #[v] e)).heap[w.heap.size]? =some (.cells #[v] e):=heap_alloc_new w _;obtain⟨a1,a2⟩:=JQ (w':=w.alloc (.cells #[v] e)) S (nb:=nb) (b:=w.heap.size) (ys:=[.list e1 l]) hr hn dI (by simp)
  (fun b' _ aO=>heap_alloc_old w _ b' aO) (by simp) ⟨rfl,rfl⟩ (.inr S.size) (fun aq blk' h ho=>pK _ (S.h.lt h ho)) (fun j hj=>pK _ (S.h.kC _ j hj))
  (fun i b1 l=>i=0∧K b1 l) (fun j y hy=>by
   cases j with
   |succ j=>simp at hy
   |zero=>
    simp at hy;subst hy;refine⟨l,v,rfl,rfl,?_⟩;rcases hv with h|⟨b1,cap,z1,z2,z3,z4,z5,z6⟩
    ·exact .inl h
    ·exact .inr ⟨b1,cap,z1,z2,z3,z4,z5,rfl,z6⟩)
  (fun j b1 l h=>⟨GV (hK b1 l h.2).1,hK b1 l h.2⟩) (fun i j b1 l m h1 h2=>h1.1.trans h2.1.symm)
 refine⟨cO,a1,a2,?_⟩;exact .dQ (es:=[.list e1 l]) (bI _ _ _) (bI _ _ _) (by rw[ml dI,hk];rfl) (aW _) (by simp[maxLen])
theorem asQ(S:ax P w I β hp B M w0){a:Act}{sl:Nat→V}(hs:o4 P w I β hp a sl){G:Nat→V}(hg:ly P G w I){t e:TypeId}{len nb:Nat}{ps:Array (Nat×Operand)}{r:R}{rd:List Nat}(hu:P.underlying t=some (.slice e))
  (h:(abJ P nb e len (ps.toList.map fun p=>(p.1,aU P G e sl p.2))).run C hp=some (r,rd)):
  dr P ((Instr.buildSlice t len (ps.map fun(i,x)=>(i,a.eval x))).run P w) w I β hp B M w0 r:=by
 obtain⟨hl,ha⟩:=ay h;clear h;rw[aN,cT]at hl;cases hr:rowOf P e with
 |none=>rw[hr]at ha;cases ha
 |some e1=>
 simp only[hr]at ha;obtain⟨xM,cu,ao,qh,jq⟩:=Aa hr;obtain⟨ps⟩:=ps;simp only at ha hl;cases ps with
 |nil=>
  obtain⟨hn,rfl⟩:=n8 ha;simp only[List.length_nil]at hl;subst hl;obtain⟨i,z,hi,hz,h3,h4,_⟩:=lO ao;have cO:=WI w t e 0 #[] #[] i z hu hi hz (by omega) (by simp[Instr.fill]);have dI:(w.alloc (.cells #[] e)).heap[w.heap.size]? =some (.cells #[] e):=heap_alloc_new w _;obtain⟨a1,a2⟩:=JQ (w':=w.alloc (.cells #[] e)) S (nb:=nb) (b:=w.heap.size) (ys:=[]) hr hn dI (by simp)
   (fun b' _ aO=>heap_alloc_old w _ b' aO) (by simp) ⟨rfl,rfl⟩ (.inr S.size) (fun aq blk' h ho=>pK _ (S.h.lt h ho)) (fun j hj=>pK _ (S.h.kC _ j hj))
   (fun _ _ _=>False) (fun j y hy=>by simp at hy) (fun _ _ _ h=>h.elim) (fun _ _ _ _ _ h=>h.elim)
  exact⟨_,_,I,ak β nb (some w.heap.size),by simpa using cO,a1,a2,.dQ (es:=[]) (bI _ _ _) (bI _ _ _) (by rw[ml dI];simp) (aW _) (by simp)⟩
 |cons p ps=>
  cases ps with
  |cons q ps=>
   obtain⟨p1,p2⟩:=p;simp only[mc]at ha;cases p1<;>cases hx:aU P G e sl p2<;>simp only[hx]at ha<;>cases ha
  |nil=>
  obtain⟨p1,p2⟩:=p;simp only[List.length_cons,List.length_nil,dP]at hl;subst hl;have sk:=hs.ev hg e p2;simp only[mc,List.map_nil]at ha;cases p1 with
  |succ n=>cases hx:aU P G e sl p2<;>simp only[hx]at ha<;>cases ha
  |zero=>
  cases hx:aU P G e sl p2 with
  |nilS e2=>
   simp only[hx]at ha;obtain⟨hc,hb⟩:=ay ha;obtain⟨hn,rfl⟩:=n8 hb;rw[hx]at sk;obtain⟨a0,ha0⟩:∃a0,a.eval p2= .slice a0 0 0:=by
    generalize a.eval p2=v at sk;cases sk;exact⟨_,rfl⟩
   obtain⟨k1,k2,k3,k4⟩:=afw S (v:=a.eval p2) (l:=[]) hu hr hn (fun _ _=>False) (.inl ⟨rfl,a0,ha0⟩) (fun _ _ h=>h.elim);exact⟨_,_,I,ak β nb (some w.heap.size),by simpa using k1,k2,k3,k4⟩
  |whole e2 id=>
   simp only[hx]at ha;obtain⟨l0,hb⟩:=run_get ha;clear ha;cases ae:hp id with
   |none=>rw[ae]at hb;cases hb
   |some blk=>
    rw[ae]at hb;cases blk with
    |arr e3 es fz=>
     cases fz with
     |true=>cases hb
     |false=>
      obtain⟨hc,hd⟩:=ay hb;clear hb;simp only[aG,aN]at hc;obtain⟨rfl,rfl⟩:=hc;obtain⟨hn,rfl⟩:=n8 hd;have bE:nb≠id:=fun e=>by rw[e,ae]at hn;cases hn
      obtain⟨k1,S1⟩:=zB S ae;have jO:ak hp id (some ag.dead) nb=none:=by rw[cA _ _ bE];exact hn
      have yv:b7 hp [(nb,.nest e [.list e1 es] [0,0,0]),(id,.dead)]=ak (ak hp id (some ag.dead)) nb (some (.nest e [.list e1 es] [0,0,0])):=rfl;rw[hx]at sk;have fin:∀(K:Nat→List V→Prop),BY P w e1 K (a.eval p2) es→(∀b1 l,K b1 l→b1<w.heap.size∧jn P w I b1 e1 l∧(M b1∨B≤b1)∧∀aq blk',ak hp id (some ag.dead) aq=some blk'→¬bm P w (β aq) blk' b1)→
        dr P ((Instr.buildSlice t 1 #[(0,a.eval p2)]).run P w) w I β hp B M w0 ⟨.whole e nb,[(nb,.nest e [.list e1 es] [0,0,0]),(id,.dead)]⟩:=fun K hv hK=>by
       obtain⟨q1,q2,q3,q4⟩:=afw S1 (v:=a.eval p2) (l:=es) hu hr jO K hv hK;refine⟨_,_,I,ak β nb (some w.heap.size),q1,?_⟩;rw[yv];exact⟨k1.trans q2,q3,q4⟩
      have res:dr P ((Instr.buildSlice t 1 #[(0,a.eval p2)]).run P w) w I β hp B M w0 ⟨.whole e nb,[(nb,.nest e [.list e1 es] [0,0,0]),(id,.dead)]⟩:=by
       generalize a.eval p2=v at sk fin⊢;cases sk with
       |ei hd=>rw[ae]at hd;cases hd
       |dQ hd=>rw[ae]at hd;cases hd
       |eA hd=>rw[ae]at hd;cases hd
       |fK hd=>rw[ae]at hd;cases hd
       |@dZ _ _ _ a0 hd hb=>
        rw[ae]at hd;cases hd;exact fin (fun _ _=>False) (.inl ⟨rfl,a0,rfl⟩) (fun _ _ h=>h.elim)
       |@whole _ _ _ _ b cap hd hb aZ bO hm=>
        rw[ae]at hd;cases hd;obtain⟨m1,m2⟩:=WA S ae hb jq;obtain⟨m3,m4⟩:=m1 _ _ _ _ .here;by_cases h0:0<cap
        ·refine fin (fun b1 l=>b1=b∧l=es) (.inr ⟨b,cap,h0,rfl,aZ,bO,hm,rfl,rfl⟩) (fun b1 l h=> ?_);obtain⟨rfl,rfl⟩:=h;refine⟨S.h.lt ae m4,m3,S.h.own id _ _ ae m4,fun aq blk' h' ho=> ?_⟩;by_cases q:aq=id
         ·subst q;rw[bI]at h';cases h';exact absurd rfl ho.alive
         ·rw[cA _ _ q]at h';exact q (S.h.inj aq id _ _ _ h' ae ho m4)
        ·have:es=[]:=vB.1 (by omega);subst this;exact fin (fun _ _=>False) (.inl ⟨rfl,some ⟨b,0,none⟩,by rw[show cap=0 by omega];rfl⟩) (fun _ _ h=>h.elim)
      simpa using res
    |_=>cases hb
  |_=>simp only[hx]at ha;cases ha
end
section
variable {P:Program}{w w':World}{I I':Nat→Nat→Prop}{β β':Nat→Option Nat}{hp hp':Nat→Option ag}{C:af}{B:Nat}{M:Nat→Prop}{w0:Start}
theorem asR(S:ax P w I β hp B M w0){s:TypeId}{f:Nat}{v:Value}{x:V}{r:R}{rd:List Nat}(hv:ai P w I β hp v x)
  (h:(TK P s f x).run C hp=some (r,rd)):dr P ((Instr.field s v f).run P w) w I β hp B M w0 r:=by
 unfold TK Nc at h;split at h
 ·rename_i fs hu;cases hf:fs[f]? with
  |none=>rw[hf]at h;cases h
  |some fd=>
   rw[hf]at h;simp only[DL]at h;obtain⟨ht,h⟩:=ay h;obtain⟨d,wG⟩:=D4 ht;obtain⟨i,hi⟩:=zC wG;have aZ:i.size=P.cellsOf fd.type:=by simp[Program.cellsOf,hi]
   cases x with
   |agg xs=>
    obtain⟨cs,rfl,h1,h2⟩:=hv.oq;dsimp only at h;cases ha:bW P fd.type with
    |true=>
     rw[ha]at h;simp only[cond_true]at h;obtain⟨hc,h⟩:=ay h;obtain rfl:=aM h;rw[gG]at hc;refine .same S (v:= .agg (cs.extract fd.offset (fd.offset+P.cellsOf fd.type))) ?_ (.agg (by simp;omega) fun j u y mK hy=> ?_)
     ·simp[Instr.field,run_underlying hu,hf,part,NH wG,ha,asAgg,sizeOf,typeInfo,hi,aZ]
     grind
    |false=>
     rw[ha]at h;simp only[cond_false]at h;obtain⟨y,hy,h⟩:=o5 h;obtain rfl:=aM h;have aO:fd.offset<cs.size:=by grind
     refine .same S (v:=cs[fd.offset]) ?_ (h2 _ _ _ (ma aO) hy);simp[Instr.field,run_underlying hu,hf,part,NH wG,ha,asAgg,aO]
   |_=>cases h
 ·cases h
theorem asS(S:ax P w I β hp B M w0){i:Nat}{v:Value}{xs:List V}{r:R}{rd:List Nat}(hv:ai P w I β hp v (.bf xs))
  (h:(Rd.opt xs[i]? fun v=> .ret ⟨v,[]⟩).run C hp=some (r,rd)):dr P ((Instr.extract v i).run P w) w I β hp B M w0 r:=by
 obtain⟨cs,rfl,h1,h2⟩:=hv.Bh;obtain⟨y,hy,h⟩:=o5 h;obtain rfl:=aM h;have aO:i<cs.size:=by grind
 exact .same S (v:=cs[i]) (by simp[Instr.extract,aO]) (h2 _ _ _ (ma aO) hy)
theorem asT(S:ax P w I β hp B M w0){t:TypeId}{s:ByteArray}{l:List UInt8}{k:IntKind}{i:Int}{r:R}{rd:List Nat}(hu:P.underlying t=some .string)(hs:s.data.toList=l)
  (h:(Rd.opt (bif decide (0≤i)then(l[i.toNat]?).map fun b=>V.int .u8 b.toNat else none) fun v=> .ret ⟨.int .u8 v.toInt,[]⟩).run C hp=some (r,rd)):
  dr P ((Instr.index t (.string s) (.int k i)).run P w) w I β hp B M w0 r:=by
 obtain⟨v,hv,h⟩:=o5 h;obtain rfl:=aM h;cases hc:decide (0≤i)with
 |false=>grind
 |true=>
  rw[hc]at hv;simp only[cond_true]at hv;have h0:0≤i:=by grind
  cases hb:l[i.toNat]? with
  |none=>grind
  |some b=>
   rw[hb]at hv;simp only[Option.map_some,eU]at hv;subst hv;have hsb:s[i.toNat]? =some b:=by
    subst hs;obtain⟨aO,he⟩:=cw.1 hb;have WU:i.toNat<s.size:=by simpa using aO
    rw[getElem?_pos s i.toNat WU];congr 1
   refine .same S (v:= .int .u8 b.toNat) ?_ .int;simp[Instr.index,asIntOf,run_underlying hu,h0,hsb]
theorem asU(S:ax P w I β hp B M w0){t e:TypeId}{n:Nat}{v:Value}{cs:List V}{k:IntKind}{i:Int}{r:R}{rd:List Nat}(hu:P.underlying t=some (.array n e))(hv:ai P w I β hp v (.agg cs))
  (h:(TM P n e cs i).run C hp=some (r,rd)):dr P ((Instr.index t v (.int k i)).run P w) w I β hp B M w0 r:=by
 obtain⟨xs,rfl,h1,h2⟩:=hv.oq;unfold TM at h;obtain⟨hc,h⟩:=ay h;obtain⟨y,hy,h⟩:=o5 h;obtain rfl:=aM h;simp only[aG,nG,aN]at hc;obtain⟨c1,c2,c3,c4,c5⟩:=hc;obtain⟨d,wG⟩:=D4 c1;obtain⟨j,hi⟩:=zC wG;have aZ:j.size=1:=by rw[←c3];simp[Program.cellsOf,hi]
 unfold idx at hy;cases h0:decide (0≤i)with
 |false=>rw[h0]at hy;cases hy
 |true=>
  rw[h0]at hy;simp only[cond_true]at hy;have h0:0≤i:=Gz h0;have aO:i.toNat<cs.length:=(cw.1 hy).1;have afx:i.toNat<xs.size:=by rw[h1];exact aO
  have cv:=im.1 c5 y (nE hy);cases y<;>(try (cases cv;done))
  refine .same S (v:=xs[i.toNat]) ?_ (h2 _ _ _ (ma afx) hy);have iu:i<(n:Int):=by omega
  simp[Instr.index,asIntOf,run_underlying hu,h0,iu,part,NH wG,c4,sizeOf,typeInfo,hi,aZ,afx]
theorem WV(S:ax P w I β hp B M w0)(mx:Bool):∀{vs:List Value} {xs:List V} {v:Value} {x:V} {r:R} {rd:List Nat},ai P w I β hp v x→vs.length=xs.length→
  (∀(j:Nat) u y,vs[j]? =some u→xs[j]? =some y→ai P w I β hp u y)→(DM mx x xs).run C hp=some (r,rd)→
  dr P ((vs.foldlM (if mx then Builtin.max2 else Builtin.min2) v).run P w) w I β hp B M w0 r
 | [],[],v,x,r,rd,hv,_,_,h=>by
  have:r=⟨x,[]⟩:=by
   cases x<;>(simp only[DM]at h;exact(aM h).symm)
  subst this;exact .same S (by simp) hv
 | [],_::_,v,x,r,rd,hv,hl,_,h=>by simp at hl
 |_::_,[],v,x,r,rd,hv,hl,_,h=>by simp at hl
 |u::vs,y::xs,v,x,r,rd,hv,hl,hx,h=>by
  cases x<;>cases y<;>simp only[DM]at h<;>first|(cases h;done)|skip
  rename_i k a k' b;obtain⟨hc,h4⟩:=ay h;clear h;obtain rfl:k=k':=by grind
  have hu:=hx 0 u _ rfl rfl;rw[hv.gx,hu.gx];have ih:=WV S mx (vs:=vs) (xs:=xs) (v:= .int k (bif mx then(if b>a then b else a)else(if b<a then b else a))) .int (by grind)
   (fun j u y h1 h2=>hx (j+1) u y (by grind) (by grind)) h4
  cases mx with
  |true=>simpa[List.foldlM_cons,Builtin.max2]using ih
  |false=>simpa[List.foldlM_cons,Builtin.min2]using ih
theorem wH{n cap:Nat}{isS:Bool}{lo hi:Option V}{lov hiv:Option Value}{k:Nat→Nat→Rd R}{r:R}{rd:List Nat}(hn:n≤cap)
  (nt:∀x,lo=some x→∃v,lov=some v∧ai P w I β hp v x) (lG:∀x,hi=some x→∃v,hiv=some v∧ai P w I β hp v x) (sL:lo=none→lov=none) (tT:hi=none→hiv=none)
  (h:(xz n lo hi k).run C hp=some (r,rd)):∃l u,l≤u∧u≤n∧(Instr.sliceBounds isS n cap lov hiv none).run P w= .ok (l,u,cap) w∧(k l u).run C hp=some (r,rd):=by
 have ok:∀(kk:IntKind) (i:Int) (y:Nat) (c:BoundsCode),0≤i→i≤y→(Instr.sliceBound (.int kk i) y c).run P w= .ok i.toNat w:=by
  intro kk i y c h1 h2;simp[Instr.sliceBound,asIntOf,h1,h2]
 unfold xz at h;cases lo with
 |none=>
  rw[sL rfl];cases hi with
  |none=>
   rw[tT rfl];exact⟨0,n,nH _,aW _,by simp[Instr.sliceBounds],h⟩
  |some x=>
   obtain⟨v,rfl,hv⟩:=lG x rfl;cases x<;>simp only at h<;>first|(cases h;done)|skip
   rename_i kk u;obtain⟨hc,h⟩:=ay h;simp only[aG,jf]at hc;rw[hv.gx];have:=ok kk u cap (if isS then .sliceAcap else .sliceAlen) hc.1 (by omega);exact⟨0,u.toNat,nH _,by omega,by simp[Instr.sliceBounds,this],h⟩
 |some x=>
  obtain⟨v,rfl,hv⟩:=nt x rfl;cases hi with
  |none=>
   rw[tT rfl];cases x<;>simp only at h<;>first|(cases h;done)|skip
   rename_i kk l;obtain⟨hc,h⟩:=ay h;simp only[aG,jf]at hc;rw[hv.gx];have:=ok kk l n .sliceB hc.1 (by omega);exact⟨l.toNat,n,by omega,aW _,by simp[Instr.sliceBounds,this],h⟩
  |some y=>
   obtain⟨v2,rfl,qT⟩:=lG y rfl;cases x<;>cases y<;>simp only at h<;>first|(cases h;done)|skip
   rename_i kk l kk2 u;obtain⟨hc,h⟩:=ay h;simp only[aG,jf]at hc;rw[hv.gx,qT.gx];have h1:=ok kk2 u cap (if isS then .sliceAcap else .sliceAlen) (by omega) (by omega);have h2:=ok kk l u.toNat .sliceB hc.1 (by omega);exact⟨l.toNat,u.toNat,by omega,by omega,by simp[Instr.sliceBounds,h1,h2],h⟩
theorem P7{a:Option Addr}{t e:TypeId}{i:TypeInfo}(hu:P.underlying t=some (.slice e))(hi:P.info? e=some i){lov hiv:Option Value}
  (hb:(Instr.sliceBounds true 0 0 lov hiv none).run P w= .ok (0,0,0) w):(Instr.sliceAt t (.slice a 0 0) lov hiv none).run P w= .ok (.slice a 0 0) w:=by
 cases a<;>simp[Instr.sliceAt,Instr.slice,run_underlying hu,hb,sizeOf,typeInfo,hi]
theorem WW{t e:TypeId}{i:TypeInfo}{b o len cap l u:Nat}(hu:P.underlying t=some (.slice e))(hi:P.info? e=some i){lov hiv:Option Value}(huc:u≤cap)
  (hb:(Instr.sliceBounds true len cap lov hiv none).run P w= .ok (l,u,cap) w):∃o',(0<u-l→o'=o+l*i.size)∧(Instr.sliceAt t (.slice (some ⟨b,o,none⟩) len cap) lov hiv none).run P w= .ok (.slice (some ⟨b,o',none⟩) (u-l) (cap-l)) w:=by
 by_cases hc:cap=l
 ·subst hc;refine⟨o,fun h=>by omega,?_⟩
  ·simp[Instr.sliceAt,Instr.slice,run_underlying hu,hb,sizeOf,typeInfo,hi]
 ·refine⟨o+l*i.size,fun _=>rfl,?_⟩;simp[Instr.sliceAt,Instr.slice,run_underlying hu,hb,sizeOf,typeInfo,hi,hc,o9]
theorem asV(s:ByteArray)(l:List UInt8)(h:s.data.toList=l)(a b:Nat):(s.extract a b).data.toList=(l.drop a).take (b-a):=by
 simp_all
theorem asW(S:ax P w I β hp B M w0){t:TypeId}{v:Value}{x:V}{lo hi:Option V}{lov hiv:Option Value}{r:R}{rd:List Nat}(hv:ai P w I β hp v x)
  (nt:∀x,lo=some x→∃v,lov=some v∧ai P w I β hp v x) (lG:∀x,hi=some x→∃v,hiv=some v∧ai P w I β hp v x) (sL:lo=none→lov=none) (tT:hi=none→hiv=none)
  (h:(Nm P t x lo hi).run C hp=some (r,rd)):dr P ((Instr.sliceAt t v lov hiv none).run P w) w I β hp B M w0 r:=by
 unfold Nm at h;cases hu:P.underlying t with
 |none=>rw[hu]at h;cases h
 |some d=>
  rw[hu]at h;cases d<;>simp only at h<;>first|(cases h;done)|skip
  case string=>
   cases x<;>simp only at h<;>first|(cases h;done)|skip
   rename_i l;obtain⟨s,rfl,hs⟩:=hv.pO;have aZ:l.length=s.size:=by rw[←hs];simp
   obtain⟨a,u,h1,h2,h3,h4⟩:=wH (isS:=false) (cap:=s.size) (by omega) nt lG sL tT h;obtain rfl:=aM h4;rw[aZ]at h3;refine .same S (v:= .string (s.extract a u)) ?_ (.str (asV s l hs a u));simp[Instr.sliceAt,Instr.slice,run_underlying hu,h3]
  case slice e=>
   cases x<;>simp only at h<;>first|(cases h;done)|skip
   case list e' es=>
    obtain⟨hc,h⟩:=ay h;simp only[aG,aN]at hc;obtain⟨gO,ao⟩:=hc;obtain⟨i,z,bS,_,aZ,_⟩:=lO ao;cases hv with
    |list hp'=>
     cases hp' with
     |nil=>
      obtain⟨a,u,h1,h2,h3,h4⟩:=wH (n:=0) (isS:=true) (cap:=0) (aW _) nt lG sL tT h;obtain rfl:=aM h4;obtain rfl:u=0:=by omega
      obtain rfl:a=0:=by omega
      exact .same S (P7 hu bS h3) (by simpa using ai.list lr.nil)
     |@emp ad cap=>
      obtain⟨a,u,h1,h2,h3,h4⟩:=wH (n:=0) (isS:=true) (cap:=cap) (nH _) nt lG sL tT h;obtain rfl:=aM h4;obtain rfl:u=0:=by omega
      obtain rfl:a=0:=by omega
      refine .same S (v:= .slice (some ad) 0 cap) ?_ (by simpa using ai.list lr.emp);by_cases hc:cap=0
      ·subst hc;simp[Instr.sliceAt,Instr.slice,run_underlying hu,h3,sizeOf,typeInfo,bS]
      ·simp[Instr.sliceAt,Instr.slice,run_underlying hu,h3,sizeOf,typeInfo,bS,hc,Addr.add]
     |@list b o len cap _ g hl bO hI gZ hx=>
      obtain⟨a,u,h1,h2,h3,h4⟩:=wH (isS:=true) (cap:=cap) (by omega) nt lG sL tT h;obtain rfl:=aM h4;rw[hl]at h2 h3;obtain⟨o',uz,cO⟩:=WW (b:=b) (o:=o) hu bS (by omega) h3;have ki:e=e':=gO;refine .same S cO (.list ?_);rw[←ki];rw[←ki]at gZ hx hI;have hlen:((es.drop a).take (u-a)).length=u-a:=by simp;omega
      refine .list (fun i j=>g (a+i) j) hlen (by omega) (fun j hj=> ?_) (fun i j hi hj=> ?_) (fun i j y t' hy ht=> ?_)
      ·have gg:0<u-a:=GB fun e=>by grind
       rw[uz (by omega),aZ,AO];refine hI _ (lZ (Nat.add_lt_add_left hj _) ?_);rw[←kO];exact eT _ (by omega)
      all_goals grind
   case whole e' id=>
    obtain⟨l,h⟩:=run_get h;cases ae:hp id with
    |none=>rw[ae]at h;cases h
    |some blk=>
     rw[ae]at h;cases blk<;>simp only at h<;>first|(cases h;done)|skip
     rename_i eh es fz;obtain⟨hc,h9⟩:=ay h;clear h;simp only[aG,aN]at hc;obtain⟨gO,gu,ao⟩:=hc;obtain⟨i,z,bS,_,aZ,_⟩:=lO ao;cases hv with
     |ei hd=>grind
     |dQ hd=>grind
     |eA hd=>grind
     |fK hd=>grind
     |dZ hd hb=>
      rw[ae]at hd;cases hd;obtain⟨a,u,h1,h2,h3,h4⟩:=wH (n:=0) (isS:=true) (cap:=0) (aW _) nt lG sL tT h9;obtain rfl:=aM h4;obtain rfl:u=0:=by omega
      obtain rfl:a=0:=by omega
      exact .same S (P7 hu bS h3) (.jz ae hb)
     |@whole _ _ aI qM b cap hd hb Fa bO hm=>
      have ga:=hd;rw[ae]at hd;cases hd;obtain⟨a,u,h1,h2,h3,h4⟩:=wH (isS:=true) (cap:=cap) bO nt lG sL tT h9;obtain rfl:=aM h4;obtain⟨o',uz,cO⟩:=WW (b:=b) (o:=0) hu bS (by omega) h3;have ki:e=e':=gO;exact .same S cO (.sub ga hb (by omega) (by omega) (fun h=>by grind))
   case sub e' id off len=>
    obtain⟨l,h⟩:=run_get h;cases ae:hp id with
    |none=>rw[ae]at h;cases h
    |some blk=>
     rw[ae]at h;cases blk<;>simp only at h<;>first|(cases h;done)|skip
     rename_i eh es fz;obtain⟨hc,h⟩:=ay h;simp only[aG,aN]at hc;obtain⟨gO,gu,ao⟩:=hc;obtain⟨i,z,bS,_,aZ,_⟩:=lO ao;cases hv with
     |j8 hd=>grind
     |jz hd hb=>
      have ga:=hd;obtain⟨a,u,h1,h2,h3,h4⟩:=wH (isS:=true) (cap:=0) (aW _) nt lG sL tT h;obtain rfl:=aM h4;obtain rfl:u=0:=by omega
      obtain rfl:a=0:=by omega
      exact .same S (P7 hu bS h3) (.jz ga hb)
     |@sub _ _ _ _ aI qM b o cap hd hb nT bO ho=>
      have ga:=hd;obtain⟨a,u,h1,h2,h3,h4⟩:=wH (isS:=true) (cap:=cap) bO nt lG sL tT h;obtain rfl:=aM h4;obtain⟨o',uz,cO⟩:=WW (b:=b) (o:=o) hu bS (by omega) h3;have ki:e=e':=gO;exact .same S cO (.sub ga hb (by omega) (by omega) (fun h=>by grind))
  case array n e=>
   cases x<;>simp only at h<;>first|(cases h;done)|skip
   rename_i id j c;obtain⟨l0,h⟩:=run_get h;cases ae:hp id with
   |none=>rw[ae]at h;cases h
   |some blk=>
    rw[ae]at h;cases blk<;>simp only at h<;>first|(cases h;done)|skip
    rename_i e' es fz;obtain⟨hc,h9⟩:=ay h;clear h;simp only[aG,aN]at hc;obtain⟨rfl,rfl,rfl,rfl,ao⟩:=hc;obtain⟨i,z,bS,_,aZ,_⟩:=lO ao;obtain⟨a,u,h1,h2,h3,h4⟩:=wH (isS:=false) (cap:=es.length) (aW _) nt lG sL tT h9;obtain rfl:=aM h4;obtain⟨b,hb,rfl⟩:=hv.jC ae (by simp);have cO:(Instr.sliceAt t (.pointer (some ⟨b,0*(ag.arr e es fz).sz P+0,none⟩)) lov hiv none).run P w= .ok (.slice (some ⟨b,if es.length=a then 0 else a*P.cellsOf e,none⟩) (u-a) (es.length-a)) w:=by
     rw[←aZ];simp[Instr.sliceAt,run_underlying hu,h3,sizeOf,typeInfo,bS,Instr.sureAddr];split<;>simp[o9]
    exact .same S cO (.sub ae hb (by omega) (by omega) (fun h=>by grind))
theorem asX(S:ax P w I β hp B M w0){t:TypeId}{v:Value}{x:V}{lo hi mx:Option V}{lov hiv mxv:Option Value}{r:R}{rd:List Nat}(hv:ai P w I β hp v x)
  (nt:lo=none→lov=none) (lG:∀y,hi=some y→∃u,hiv=some u∧ai P w I β hp u y) (uB:∀y,mx=some y→∃u,mxv=some u∧ai P w I β hp u y)
  (h:(TI P t x lo hi mx).run C hp=some (r,rd)):dr P ((Instr.sliceAt t v lov hiv mxv).run P w) w I β hp B M w0 r:=by
 unfold TI at h;split at h
 ·rename_i e e' id _ hh _ m hu;obtain⟨l,h⟩:=run_get h;cases ae:hp id with
  |none=>rw[ae]at h;cases h
  |some blk=>
   rw[ae]at h;cases blk<;>simp only at h<;>first|(cases h;done)|skip
   rename_i eh es fz;obtain⟨hc,h9⟩:=ay h;clear h;simp only[aG,aN,jf]at hc;obtain⟨rfl,rfl,ao,h0,h1,h2⟩:=hc;obtain rfl:=aM h9;obtain⟨i,z,bS,_,_,_⟩:=lO ao;obtain⟨u1,rfl,k1⟩:=lG _ rfl;obtain⟨u2,rfl,k2⟩:=uB _ rfl;rw[k1.gx,k2.gx,nt rfl];have run:∀{k k2:IntKind} (a:Option Addr) (len cap:Nat),m≤cap→(Instr.sliceAt t (.slice a len cap) none (some (.int k hh)) (some (.int k2 m))).run P w= .ok (.slice (if m.toNat=0 then a else a.map (·.add 0)) hh.toNat m.toNat) w:=by
    intro k k2 a len cap hm;obtain⟨m,rfl⟩:=MM (Int.le_trans h0 h1);obtain⟨hh,rfl⟩:=MM h0;have c1:m≤cap:=by omega
    have c2:hh≤m:=by omega
    cases a<;>simp[Instr.sliceAt,Instr.slice,Instr.sliceBounds,Instr.sliceBound,asIntOf,run_underlying hu,sizeOf,typeInfo,bS,c1,c2]
   cases hv with
   |ei hd=>grind
   |dQ hd=>grind
   |eA hd=>grind
   |fK hd=>grind
   |dZ hd hb=>
    rw[ae]at hd;cases hd;obtain rfl:m=0:=by simp at h2;omega
    obtain rfl:hh=0:=by omega
    exact .same S (run _ _ _ (by omega)) (.jz ae hb)
   |whole hd hb aZ bO hm=>
    rw[ae]at hd;cases hd;refine .same S (run _ _ _ (by omega)) ?_;have e0:∀b,(if m.toNat=0 then(some ⟨b,0,none⟩:Option Addr)else(some ⟨b,0,none⟩:Option Addr).map (·.add 0))=some ⟨b,0,none⟩:=by intro b;split<;>simp[o9]
    rw[e0];exact .sub ae hb (by omega) (by omega) (fun _=>by simp)
 ·cases h
theorem afy(S:ax P w I β hp B M w0){t:TypeId}{v ix:Value}{x y:V}{r:R}{rd:List Nat}(hv:ai P w I β hp v x)(hy:ai P w I β hp ix y)(kU:∀e es,x≠ .nl e es)
  (h:(AY P t x y).run C hp=some (r,rd)):dr P ((Instr.indexAt t v ix).run P w) w I β hp B M w0 r:=by
 unfold AY at h;cases hu:P.underlying t with
 |none=>rw[hu]at h;cases h
 |some d=>
  rw[hu]at h;cases y<;>(try (cases d<;>cases h;done))
  rename_i k i;rw[hy.gx];cases d<;>simp only at h<;>first|(cases h;done)|skip
  case slice e=>
   have run:∀(b o len cap:Nat) (ie:TypeInfo),P.info? e=some ie→0≤i→i<(len:Int)→(Instr.indexAt t (.slice (some ⟨b,o,none⟩) len cap) (.int k i)).run P w= .ok (.pointer (some ⟨b,o+i.toNat*ie.size,none⟩)) w:=by
    intro b o len cap ie oN h0 h1;simp[Instr.indexAt,asIntOf,run_underlying hu,h0,h1,sizeOf,typeInfo,oN,o9]
   cases x<;>simp only at h<;>first|(cases h;done)|skip
   case nl e' es=>exact absurd rfl (kU _ _)
   case list e' es=>
    obtain⟨hc,h⟩:=ay h;simp only[aG,aN]at hc;obtain⟨gO,ao⟩:=hc;have ki:e=e':=gO;obtain⟨ie,z,bS,_,aZ,_⟩:=lO ao;obtain⟨el,fN,h⟩:=o5 h;obtain rfl:=aM h;unfold idx at fN;cases h0:decide (0≤i)with
    |false=>grind
    |true=>
     rw[h0]at fN;simp only[cond_true]at fN;have WE:0≤i:=by grind
     have aO:i.toNat<es.length:=(cw.1 fN).1;cases hv with
     |list hp'=>
      cases hp' with
      |nil=>simp at aO
      |emp=>simp at aO
      |@list b o len cap _ g hl bO hI gZ hx=>
       rw[←ki]at gZ hx hI;refine .same S (run b o len cap ie bS WE (by omega)) ?_;have fi:=D3 (P:=P) e el;have afz:=fL ao;have afA:(bif bW P e then flat P e else [e])=aV P e:=rfl;rw[afA];have asY:ie.size=P.cellsOf e:=by omega
       refine .pref (by rw[fi]) (fun j hj=> ?_) (fun j t' y' ht Ua=> ?_)
       ·rw[AO,asY];exact hI _ (TV (by omega) (by omega))
       ·obtain⟨t2,a1,a2⟩:=Uc Ua;rw[ht]at a1;cases a1;have hj:j<P.cellsOf e:=by grind
        have gv:=hx i.toNat j el t' fN ht;refine⟨g i.toNat j,?_,?_⟩
        ·grind
        ·rw[a2,gv.zE];exact gv
   case whole e' id=>
    obtain⟨l,h⟩:=run_get h;cases ae:hp id with
    |none=>rw[ae]at h;cases h
    |some blk=>
     rw[ae]at h;cases blk<;>simp only at h<;>first|(cases h;done)|skip
     rename_i eh es fz;obtain⟨hc,h⟩:=ay h;simp only[aG,aN]at hc;obtain⟨gO,gu⟩:=hc;obtain⟨gh,h⟩:=ay h;simp only[aG,jf]at gh;obtain rfl:=aM h;cases hv with
     |ei hd=>grind
     |dQ hd=>grind
     |eA hd=>grind
     |fK hd=>grind
     |dZ hd hb=>grind
     |@whole _ _ aI qM b cap hd hb Fa bO hm=>
      have ga:=hd;rw[ae]at hd;cases hd;have hr:=S.h.rel id _ ae;cases hr with
      |eM au=>grind
      |arr hL ao au hh hs hf fR hx=>
       have ki:e=e':=gO;obtain⟨ie,z,bS,_,aZ,_⟩:=lO ao;rw[←ki]at bS aZ;refine .same S (run b 0 _ cap ie bS gh.1 gh.2) ?_;have:=ai.ptr (P:=P) (w:=w) (I:=I) (i:=i.toNat) (c:=0) ga (by simp) hb;simp only[ag.sz]at this;grind
     rename_i eh es vers;obtain⟨hc,h⟩:=ay h;simp only[aG,aN]at hc;obtain⟨gO,gu⟩:=hc;obtain⟨gh,h⟩:=ay h;simp only[aG,jf]at gh;obtain rfl:=aM h;cases hv with
     |ei hd=>grind
     |dZ hd hb=>grind
     |whole hd=>grind
     |eA hd hb=>grind
     |fK hd=>grind
     |@dQ _ _ aI vers' b cap hd hb Fa bO hm=>
      have ga:=hd;rw[ae]at hd;cases hd;have ao:=(S.rows ga hb .here).ok;have ki:e=e':=gO;obtain⟨ie,z,bS,_,aZ,_⟩:=lO ao;rw[←ki]at bS aZ;refine .same S (run b 0 _ cap ie bS gh.1 gh.2) ?_;have:=ai.ptr (P:=P) (w:=w) (I:=I) (i:=i.toNat) (c:=0) ga (by simp) hb;simp only[ag.sz]at this;grind
     rename_i eh es vers j0;obtain⟨hc,h⟩:=ay h;simp only[aG,aN]at hc;obtain⟨gO,gu⟩:=hc;obtain⟨gh,h⟩:=ay h;simp only[aG,jf]at gh;obtain rfl:=aM h;cases hv with
     |ei hd=>grind
     |dZ hd hb=>grind
     |whole hd=>grind
     |eA hd hb=>grind
     |dQ hd=>grind
     |@fK _ _ j1 aI vers' b cap hd hb Fa bO hm=>
      have ga:=hd;rw[ae]at hd;cases hd;have ki:e=e':=gO;obtain⟨ie,bS⟩:∃ie,P.info? e=some ie:=by
       have hr:=S.h.rel id _ ga;cases hr with
       |out _ jP _ _ _ _ _ _ _ _=>rw[ki];exact zC jP
      have aZ:ie.size=P.cellsOf e:=by simp[Program.cellsOf,bS]
      refine .same S (run b 0 _ cap ie bS gh.1 gh.2) ?_;have:=ai.ptr (P:=P) (w:=w) (I:=I) (i:=i.toNat) (c:=0) ga (by simp) hb;simp only[ag.sz]at this;grind
   case row e' id ver path=>
    obtain⟨e0,es,vers,l,ae,h1,h2,h3,h⟩:=tn h;obtain⟨e2,v',k1,k2,h⟩:=DW h;obtain⟨hc,h⟩:=ay h;simp only[aG,aN]at hc;obtain⟨gO,gu⟩:=hc;obtain⟨gh,h⟩:=ay h;simp only[aG,jf]at gh;obtain rfl:=aM h;cases hv with
    |nQ hd hp'=>rw[ae]at hd;cases hd;exact absurd hp' (DX h1 h2 h3)
    |@row v _ e0 t1 _ ver b i1 c1 q es l1 vers hd hb hq Wy ht gZ=>
     have asZ:=gZ;obtain⟨b',e3,aI,Ca,T,f,x,m1,m2,m3,m4,m5,m6⟩:=gZ;have zz:=hd;rw[ae]at zz;cases zz;obtain⟨n1,n2⟩:=ND m1 m3 m4 ht m5;rw[n2]at k2;cases k2;simp only[V.toList]at gh;have hR:=S.rows hd hb m1;obtain⟨C1,_,c2,_,c3,c4⟩:=hR.cells;rw[m2]at c2;cases c2;have hj:c1<P.cellsOf e3:=by
      rw[←fL hR.ok];grind
     obtain⟨v2,d1,d2⟩:=c4 _ _ _ _ m3 m4 hj;rw[m6]at d1;cases d1;rw[m5]at d2;cases d2 with
     |gN a _=>unfold eg at a;grind
     |emp _=>grind
     |@row _ _ b1 cap _ hl _ _ _=>
      have ao:=(S.rows hd hb (m1.snoc m2 m3 m4 ht m5 hl m6)).ok;have ki:e=e':=gO;obtain⟨ie,z,bS,_,aZ,_⟩:=lO ao;rw[←ki]at bS aZ;refine .same S (run b1 0 _ cap ie bS gh.1 gh.2) ?_;have:=ai.dH (P:=P) (I:=I) (i:=i.toNat) (c:=0) hd hb hq Wy ht hl asZ;grind
   case sub e' id off len=>
    obtain⟨l,h⟩:=run_get h;cases ae:hp id with
    |none=>rw[ae]at h;cases h
    |some blk=>
     rw[ae]at h;cases blk<;>simp only at h<;>first|(cases h;done)|skip
     rename_i eh es fz;obtain⟨hc,h⟩:=ay h;simp only[aG,aN]at hc;obtain⟨gO,gu⟩:=hc;obtain⟨gh,h⟩:=ay h;simp only[aG,jf]at gh;obtain rfl:=aM h;cases hv with
     |j8 hd=>grind
     |jz hd hb=>omega
     |@sub _ _ _ _ aI qM b o cap hd hb nT bO ho=>
      have ga:=hd;rw[ae]at hd;cases hd;have hr:=S.h.rel id _ ae;cases hr with
      |eM au=>grind
      |arr hL ao au hh hs hf fR hx=>
       have ki:e=e':=gO;obtain⟨ie,z,bS,_,aZ,_⟩:=lO ao;rw[←ki]at bS aZ;refine .same S (run b o _ cap ie bS gh.1 gh.2) ?_;have:=ai.ptr (P:=P) (w:=w) (I:=I) (i:=off+i.toNat) (c:=0) ga (by simp) hb;simp only[ag.sz]at this;grind
  case array n e=>
   have run:∀(b o:Nat) (ie:TypeInfo),P.info? e=some ie→0≤i→i<(n:Int)→(Instr.indexAt t (.pointer (some ⟨b,o,none⟩)) (.int k i)).run P w= .ok (.pointer (some ⟨b,o+i.toNat*ie.size,none⟩)) w:=by
    intro b o ie oN h0 h1;simp[Instr.indexAt,asIntOf,run_underlying hu,h0,h1,sizeOf,typeInfo,oN,o9,Instr.sureAddr]
   cases x<;>simp only at h<;>first|(cases h;done)|skip
   case ptr id j c=>
    obtain⟨gh,h⟩:=ay h;simp only[aG,jf]at gh;obtain⟨d,wG⟩:=D4 gh.1;obtain⟨ie,oN⟩:=zC wG;have aZ:ie.size=P.cellsOf e:=by simp[Program.cellsOf,oN]
    obtain⟨l,h⟩:=run_get h;have gf:∀blk,hp id=some blk→blk≠ .dead→dr P ((Instr.indexAt t v (.int k i)).run P w) w I β hp B M w0 ⟨.ptr id j (c+i.toNat*P.cellsOf e),[]⟩:=fun blk ae hd=>by
     obtain⟨b,hb,rfl⟩:=hv.jC ae hd;refine .same S (run b _ ie oN gh.2.1 gh.2.2) ?_;rw[aZ,AO];exact .ptr ae hd hb
    have new:∀blk,hp id=some blk→blk≠ .dead→blk.sz P=P.cellsOf e→j=0→c=0→dr P ((Instr.indexAt t v (.int k i)).run P w) w I β hp B M w0 ⟨.ptr id i.toNat 0,[]⟩:=fun blk ae hd hz hj hc=>by
     obtain⟨b,hb,rfl⟩:=hv.jC ae hd;refine .same S (run b _ ie oN gh.2.1 gh.2.2) ?_;have:=ai.ptr (P:=P) (w:=w) (I:=I) (i:=i.toNat) (c:=0) ae hd hb;grind
    cases ae:hp id with
    |none=>rw[ae]at h;cases h
    |some blk=>
     rw[ae]at h;cases blk with
     |var T cs=>obtain rfl:=aM h;grind
     |arr e' es fz=>
      cases he:Nat.beq e e' with
      |true=>
       simp only[he,cond_true]at h;rw[aN]at he;subst he;obtain⟨hc,h⟩:=ay h;simp only[aG,aN]at hc;obtain rfl:=aM h;exact new _ ae (by simp) rfl hc.1 hc.2
      |false=>
       simp only[he,cond_false]at h;obtain rfl:=aM h;grind
     |nest e' es vs=>
      cases he:Nat.beq e e' with
      |true=>
       simp only[he,cond_true]at h;rw[aN]at he;subst he;obtain⟨hc,h⟩:=ay h;simp only[aG,aN]at hc;obtain rfl:=aM h;exact new _ ae (by simp) rfl hc.1 hc.2
      |false=>
       simp only[he,cond_false]at h;obtain rfl:=aM h;grind
     |_=>cases h
   case pref ts cs=>
    obtain⟨gh,h⟩:=ay h;simp only[aG,jf]at gh;obtain rfl:=aM h;obtain⟨b,o,rfl,h1,h2,h3⟩:=hv.HA;obtain⟨d,wG⟩:=D4 gh.1;obtain⟨ie,oN⟩:=zC wG;have aZ:ie.size=P.cellsOf e:=by simp[Program.cellsOf,oN]
    refine .same S (run b _ ie oN gh.2.1 gh.2.2) ?_;rw[aZ];exact ai.ab1 h1 h2 h3
theorem as0(S:ax P w I β hp B M w0){t:TypeId}{v ix:Value}{x y:V}{r:R}{rd:List Nat}(hv:ai P w I β hp v x)(hy:ai P w I β hp ix y)
  (h:(AY P t x y).run C hp=some (r,rd)):dr P ((Instr.indexAt t v ix).run P w) w I β hp B M w0 r:=by
 cases x with
 |nl e es=>
  cases hv with
  |nl q _=>
   have e1:AY P t (.nl e es) y=AY P t (.list e es) y:=by unfold AY;split<;>rfl
   rw[e1]at h;exact afy S (x:= .list e es) (.list q) hy (fun _ _ h=>by cases h) h
 |_=>exact afy S hv hy (fun _ _ h=>by cases h) h
end
end Go.AM
namespace Go.AM
open Go.Maps
section
variable {P:Program}{w w':World}{I I':Nat→Nat→Prop}{β β':Nat→Option Nat}{hp hp':Nat→Option ag}{C:af}{B:Nat}{M:Nat→Prop}{w0:Start}
theorem as1(S:ax P w I β hp B M w0){nb:Nat}{t:TypeId}{v:Value}{x:V}{lo hi:Option V}{lov hiv:Option Value}{r:R}{rd:List Nat}(hv:ai P w I β hp v x)
  (lG:∀x,hi=some x→∃v,hiv=some v∧ai P w I β hp v x) (sL:lo=none→lov=none)
  (h:(Nn P nb t x lo hi).run C hp=some (r,rd)):dr P ((Instr.sliceAt t v lov hiv none).run P w) w I β hp B M w0 r:=by
 unfold Nn at h;split at h
 case h_2=>cases h
 rename_i e e' id k hh hu;obtain⟨l,h1⟩:=run_get h;cases ae:hp id with
 |none=>rw[ae]at h1;cases h1
 |some blk=>
  rw[ae]at h1;cases blk<;>simp only at h1<;>first|(cases h1;done)|skip
  rename_i e2 es fz;cases fz with
  |true=>cases h1
  |false=>
  obtain⟨hc,h2⟩:=ay h1;simp only[aG,aN,jf]at hc;obtain⟨rfl,rfl,ao,hh0,hhn⟩:=hc;obtain⟨hn,rfl⟩:=n8 h2;have nt:=sL rfl;subst nt;obtain⟨B5,rfl,hhv⟩:=lG _ rfl;obtain rfl:=hhv.gx;obtain⟨i,z,bS,_,aZ,_⟩:=lO ao;have bE:nb≠id:=fun e=>by grind
  obtain⟨k1,k2⟩:=zB S ae;have jO:ak hp id (some ag.dead) nb=none:=by rw[cA _ _ bE];exact hn
  have Bs:∀cap,es.length≤cap→(Instr.sliceBounds true es.length cap none (some (.int k hh)) none).run P w= .ok (0,hh.toNat,cap) w:=by
   intro cap bO;have hb:(xz es.length none (some (.int k hh)) fun l u=> .aw (decide (l=0∧u=hh.toNat)) (.ret (⟨.undef,[]⟩:R))).run C hp=some (⟨.undef,[]⟩,[]):=by
    simp[xz,Rd.run,hh0,hhn]
   obtain⟨l,u,b1,b2,b3,b4⟩:=wH (P:=P) (w:=w) (I:=I) (β:=β) (hp:=hp) (n:=es.length) (isS:=true) (cap:=cap) (lov:=none) (hiv:=some (.int k hh)) bO (by simp) (fun x hx=>by grind) (fun _=>rfl) (by simp) hb;obtain⟨b5,_⟩:=ay b4;grind
  cases hv with
  |ei hd=>grind
  |dQ hd=>grind
  |eA hd=>grind
  |fK hd=>grind
  |@dZ _ _ _ a0 hd hb=>
   rw[ae]at hd;cases hd;have Uj:hh=0:=by grind
   subst Uj;have au:=Bs 0 (aW _);obtain⟨a1,a2⟩:=Hw k2 e jO;refine⟨_,w,I,_,P7 hu bS au,k1.trans a1,a2,.dZ (bI _ _ _) (bI _ _ _)⟩
  |@whole _ _ aI qM b cap hd hb Fa bO hm=>
   have ga:=hd;rw[ae]at hd;cases hd;have hr:=S.h.rel id _ ae;cases hr with
   |eM au=>grind
   |@arr _ _ _ _ b' Ca hL _ au P8 Ad hf fR Ae=>
    rw[hb]at au;cases au;have o7:(es.take hh.toNat).length=hh.toNat:=by grind
    have cO:(Instr.sliceAt t (.slice (some ⟨b,0,none⟩) es.length cap) none (some (.int k hh)) none).run P w= .ok (.slice (some ⟨b,0,none⟩) hh.toNat cap) w:=by
     have au:=Bs cap bO;by_cases hc0:cap=0
     ·subst hc0;simp[Instr.sliceAt,Instr.slice,run_underlying hu,au,sizeOf,typeInfo,bS]
     ·simp[Instr.sliceAt,Instr.slice,run_underlying hu,au,sizeOf,typeInfo,bS,hc0,o9]
    have uD:∀aq blk',ak hp id (some ag.dead) aq=some blk'→¬bm P w (β aq) blk' b:=by
     intro aq blk' h1 h2;by_cases oM:aq=id
     ·subst oM;rw[bI]at h1;cases h1;exact h2.alive rfl
     ·rw[cA _ _ oM]at h1;exact oM (S.h.inj aq id blk' _ b h1 ae h2 (.root (by simp) hb))
    obtain⟨a1,a2⟩:=D0 k2 (blk:= .arr e (es.take hh.toNat) false) (w':=w) jO uD (fun _ _=>rfl) (fun _ _ _=>rfl) (aW _) ⟨rfl,rfl⟩ (S.h.zw id _ b ae (by simp) hb)
     (fun b' h=>(eX (h.flat (by simp))).symm) (fun hle=> .arr hL ao rfl P8 (by rw[o7];exact pJ (eT _ (by omega)) Ad) (fun h=>by cases h) (fun _=>fR rfl) fun i j y t' hy ht hj=>by
      grind)
    refine⟨_,w,I,_,cO,k1.trans a1,a2,?_⟩;have:=ai.whole (P:=P) (w:=w) (I:=I) (β:=ak β nb (some b)) (hp:=ak (ak hp id (some .dead)) nb (some (.arr e (es.take hh.toNat) false))) (cap:=cap) (bI _ _ _) (bI _ _ _) Fa (by omega) hm;rw[o7]at this;exact this
theorem va{t:TypeId}{x:V}(h:th P t x=true):
  (∃q n,P.underlying t=some (.int q)∧x= .int q n∧ft q n=true)∨(∃b,P.underlying t=some .bool∧x= .bool b)∨(∃s,P.underlying t=some .string∧x= .str s∧s.length≤maxLen):=by
 unfold th at h;split at h
 all_goals simp_all
theorem size_data(s:ByteArray):s.data.toList.length=s.size:=by simp
theorem as2{q:IntKind}{n:Int}(h:ft q n=true):(Lit.int q n).wf=true:=h
theorem WX{t:TypeId}{x:V}{v:Value}(h:th P t x=true)(hv:lu v x):∃l,mapKey P t v=some l∧∀d,P.keyLits (d+1) t [v]=some [l]:=by
 rcases va h with⟨q,n,hu,rfl,hn⟩|⟨b,hu,rfl⟩|⟨s,hu,rfl,hs⟩
 ·obtain rfl:v= .int q n:=hv;have hw:=as2 hn;exact⟨.int q n,by simp[mapKey,hu,hw],fun d=>by simp[Program.keyLits,hu,hw]⟩
 ·obtain rfl:v= .bool b:=hv;exact⟨.bool b,by simp[mapKey,hu],fun d=>by simp[Program.keyLits,hu]⟩
 ·obtain⟨s',rfl,rF⟩:=hv;have:s'.size≤maxLen:=by rw[←size_data,rF];exact hs
  exact⟨.string s'.data.toList,by simp[mapKey,hu,this],fun d=>by simp[Program.keyLits,hu,this]⟩
theorem WY{t:TypeId}:∀{xs:List V} {j:Nat} {x:V},xw P t xs=true→xs[j]? =some x→th P t x=true
 | [],j,x,_,h=>by simp at h
 |y::ys,0,x,h,hx=>by
  simp only[xw,aG]at h;grind
 |y::ys,j+1,x,h,hx=>by
  simp only[xw,aG]at h;exact WY (j:=j) h.2 (by grind)
theorem mapM_some{α β:Type}{f:α→Option β}:∀{l:List α},(∀a∈l,∃b,f a=some b)→∃bs,l.mapM f=some bs
 | [],_=>⟨[],rfl⟩
 |a::l,h=>by
  obtain⟨b,hb⟩:=h a (qz ..);obtain⟨bs,lA⟩:=mapM_some (l:=l) fun x hx=>h x (jU _ hx);simp_all
structure Ag(P:Program)(t:TypeId)(fs:Array Field):Prop where
 hu:P.underlying t=some (.struct fs)
 size:P.cellsOf t=fs.size
 at_ : ∀ (i : Nat) f, fs[i]? = some f → f.offset = i ∧ P.cellsOf f.type = 1 ∧ (f.name != "_") = true ∧ P.plainKey f.type = true
 free:(!(P.cutTypes.any (·.2==t))&& !P.stoodInHeld t)=true
 runs:P.runs 0 fs.toList=some fs.size
theorem afB:∀{k:Nat} {l:List Field},Nh P k l=true→(∀(i:Nat) f,l[i]? =some f→f.offset=k+i∧P.cellsOf f.type=1)∧P.runs k l=some (k+l.length)
 |k,[],_=>⟨fun i f h=>by simp at h,by simp[Program.runs]⟩
 |k,f::l,h=>by
  simp only[Nh,aG,aN]at h;obtain⟨a,b⟩:=afB (l:=l) h.2;refine⟨fun i g hg=> ?_,?_⟩
  ·grind
  ·simp only[Program.runs];grind
theorem as3{t:TypeId}{fs:Array Field}(hu:P.underlying t=some (.struct fs))(h:TA P t fs=true):Ag P t fs:=by
 unfold TA at h;rw[aG,aG,aG]at h;obtain⟨⟨h1,h2⟩,h3,h4⟩:=h;rw[aN]at h1;obtain⟨a,b⟩:=afB h2;rw[dP,Array.length_toList]at b;refine⟨hu,h1,fun i f hf=> ?_,h4,b⟩;obtain⟨a1,a2⟩:=a i f (by grind);grind
theorem as4{t:TypeId}(hp:P.plainKey t=true)(m:Nat):P.keyTypeAt (m+1) t=true:=by
 unfold Program.plainKey at hp;unfold Program.keyTypeAt;grind
theorem as5{t:TypeId}(hp:P.plainKey t=true)(m:Nat):P.tiled (m+1) t=true:=by
 unfold Program.plainKey at hp;unfold Program.tiled;grind
theorem Ag.at{t:TypeId}{fs:Array Field}(A:Ag P t fs)(m:Nat):P.keyTypeAt (m+2) t=true:=by
 unfold Program.keyTypeAt;rw[A.hu];have hf:=A.free;rw[aG]at hf;simp only;rw[aG,aG];refine⟨⟨Array.all_eq_true.2 fun i hi=> ?_,hf.1⟩,hf.2⟩;obtain⟨_,_,h3,h4⟩:=A.at_ i fs[i] (ma hi);rw[aG];exact⟨h3,as4 h4 m⟩
theorem Ag.tiled{t:TypeId}{fs:Array Field}(A:Ag P t fs):P.tiled 2 t=true:=by
 unfold Program.tiled;rw[A.hu];simp only;rw[aG];refine⟨by rw[A.runs,A.size];simp,Array.all_eq_true.2 fun i hi=> ?_⟩;exact as5 (A.at_ i fs[i] (ma hi)).2.2.2 0
theorem Ag.law{t:TypeId}{fs:Array Field}(A:Ag P t fs):WideMaps.KeyLaw P t:=deep_law (m:=2) (by omega) (A.at 0) A.tiled (by rw[A.hu])
theorem P9:∀{ts:List TypeId} {xs:List V},xx P ts xs=true→xs.length=ts.length∧∀(j:Nat) t x,ts[j]? =some t→xs[j]? =some x→th P t x=true
 | [],[],_=>⟨rfl,fun j t x h=>by simp at h⟩
 | [],_::_,h=>by cases h
 |_::_,[],h=>by cases h
 |t::ts,x::xs,h=>by
  simp only[xx,aG]at h;obtain⟨a,b⟩:=P9 h.2;grind
inductive Qa(P:Program)(t:TypeId)(x:V):Prop
 |one:th P t x=true→x.cells=[x]→Qa P t x
 |arr {n:Nat} {e:TypeId} {xs:List V}:x= .agg xs→WideMaps.ArrKey P t e n→xs.length=n→0<P.types.size→xw P e xs=true→Qa P t x
 |str {fs:Array Field} {xs:List V}:x= .agg xs→Ag P t fs→0<P.types.size→xx P (fs.toList.map (·.type)) xs=true→Qa P t x
theorem B6{t:TypeId}{x:V}(h:ti P t x=true):Qa P t x:=by
 unfold ti at h;split at h
 ·rename_i n e xs hu;simp only[aG,aN]at h;rw[nF]at h;exact .arr rfl ⟨hu,h.2.2.2.1,h.2.1,h.2.2.1⟩ h.1 h.2.2.2.2.1 h.2.2.2.2.2
 ·rename_i fs xs hu;rw[aG,aG,nF]at h;exact .str rfl (as3 hu h.1) h.2.1 h.2.2
 ·refine .one h ?_;rcases va h with⟨q,n,hu,rfl,hn⟩|⟨b,hu,rfl⟩|⟨s,hu,rfl,hs⟩<;>rfl
theorem xI.one{x:V}{v:Value}(h:xI v x)(hx:x.cells=[x]):lu v x:=by
 cases x<;>first|exact h|skip
 simp only[V.cells]at hx;rename_i cs;have:=congrArg List.length hx;cases cs with
 |nil=>simp at hx
 |cons c cs=>
  simp only[GW]at hx;have:=congrArg SizeOf.sizeOf hx.1;grind
theorem as6{ts:List TypeId}{xs:List V}{cs:Array Value}(hf:xx P ts xs=true)(hs:cs.size=xs.length)(hc:∀(j:Nat) (u:Value) (y:V),cs[j]? =some u→xs[j]? =some y→lu u y){i:Nat}{t:TypeId}(ht:ts[i]? =some t):
  ∃l,∀d,P.keyLits (d+1) t ((cs.toList.drop i).take 1)=some [l]:=by
 obtain⟨a,b⟩:=P9 hf;have hi:=(cw.1 ht).1;have kg:i<cs.size:=by omega
 have Af:i<xs.length:=by omega
 obtain⟨l,_,h2⟩:=WX (b i t xs[i] ht (bX Af)) (hc i cs[i] xs[i] (ma kg) (bX Af));refine⟨l,fun d=> ?_⟩;have e1:(cs.toList.drop i).take 1=[cs[i]]:=by
  rw[ML (by omega)];simp
 grind
theorem Qb{t:TypeId}{x:V}{v:Value}(h:ti P t x=true)(hv:xI v x):∃l,Go.keyOf P t v=some l:=by
 cases B6 h with
 |one h1 hx=>
  obtain⟨l,hl,_⟩:=WX h1 (hv.one hx);refine⟨l,?_⟩;rcases va h1 with⟨q,n,hu,_⟩|⟨b,hu,_⟩|⟨s,hu,_⟩<;>simp only[Go.keyOf,hu,hl]
 |@arr n e xs hx A hl hp0 hf=>
  subst hx;obtain⟨cs,rfl,hs,hc⟩:=hv;obtain⟨m,hm⟩:∃m,P.types.size=m+1:=⟨P.types.size-1,by omega⟩
  have WZ:=A.keyType ⟨m,hm⟩;have hlen:cs.toList.length=P.cellsOf t:=by rw[A.size];grind
  have JS:(Value.agg cs).formed P t=true:=by simp[Value.formed,A.hu,A.size,hs,hl]
  have hex:∀i∈List.range n,∃y,P.keyLits (m+1) e (((Value.agg cs).cells.toList.drop (i*P.cellsOf e)).take (P.cellsOf e))=some y:=by
   intro i hi;have hi:=gn.1 hi;rw[A.one];have kg:i<cs.size:=by omega
   have Af:i<xs.length:=by omega
   obtain⟨l,_,h2⟩:=WX (WY hf (bX Af)) (hc i cs[i] xs[i] (ma kg) (bX Af));have e1:((Value.agg cs).cells.toList.drop (i*1)).take 1=[cs[i]]:=by
    show(cs.toList.drop (i*1)).take 1=_;rw[iR,ML (by omega)];simp
   simp_all
  obtain⟨bs,lA⟩:=mapM_some hex;refine⟨.string (keyBytes bs.flatten),?_⟩;have aHf:(Value.agg cs).cells.toList.length=P.cellsOf t:=hlen;unfold Go.keyOf;rw[A.hu];simp only[WZ,JS,Bool.and_self,qv];unfold Program.keyLits;rw[A.hu,hm];grind
 |@str fs xs hx A hp0 hf=>
  subst hx;obtain⟨cs,rfl,hs,hc⟩:=hv;obtain⟨m,hm⟩:∃m,P.types.size=m+1:=⟨P.types.size-1,by omega⟩
  have WZ:P.keyType t=true:=by
   unfold Program.keyType;rw[hm];exact A.at m
  have pf:=(P9 hf).1;rw[cT,Array.length_toList]at pf;have JS:(Value.agg cs).formed P t=true:=by simp[Value.formed,A.hu,A.size,hs];exact pf
  have hlen:(Value.agg cs).cells.toList.length=P.cellsOf t:=by
   show cs.toList.length=_;rw[A.size];grind
  have sb : fs.all (·.name != "_") = true := Array.all_eq_true.2 fun i hi => (A.at_ i fs[i] (ma hi)).2.2.1;have hex: ∀f∈fs.toList,∃y,P.keyLits (m+1) f.type (((Value.agg cs).cells.toList.drop f.offset).take (P.cellsOf f.type))=some y:=by
   intro f JS;obtain⟨i,hi⟩:=vC JS;obtain⟨a1,a2,_,_⟩:=A.at_ i f (by grind);rw[a1,a2];obtain⟨l,hl⟩:=as6 hf hs hc (i:=i) (t:=f.type) (by grind);exact⟨_,hl m⟩
  obtain⟨bs,lA⟩:=mapM_some hex;refine⟨.string (keyBytes bs.flatten),?_⟩;unfold Go.keyOf;rw[A.hu];simp only[WZ,JS,Bool.and_self,qv];unfold Program.keyLits;rw[A.hu,hm];grind
theorem W0{t:TypeId}{x:V}(h:ti P t x=true):Keyed P t:=by
 cases B6 h with
 |one h1 hx=>
  rcases va h1 with⟨q,n,hu,_⟩|⟨b,hu,_⟩|⟨s,hu,_⟩
  ·exact int_keyed hu
  ·exact bool_keyed hu
  ·exact string_keyed hu
 |arr hx A hl _ hf=>exact Keyed.of_law A.law
 |str hx A _ hf=>exact Keyed.of_law A.law
theorem W3{t:TypeId}{x y:V}{v u:Value}(h1:th P t x=true)(h2:th P t y=true)(hv:lu v x)(hu:lu u y):xu x y=true↔v=u:=by
 rcases va h1 with⟨q,n,jP,rfl,_⟩|⟨b,jP,rfl⟩|⟨s,jP,rfl,_⟩<;>
 rcases va h2 with⟨q',n',sM,rfl,_⟩|⟨b',sM,rfl⟩|⟨s',sM,rfl,_⟩<;>
  (rw[jP]at sM;cases sM)
 ·obtain rfl:v= .int q n:=hv;obtain rfl:u= .int q n':=hu;simp[xu]
 ·obtain rfl:v= .bool b:=hv;obtain rfl:u= .bool b':=hu;simp[xu]
 ·obtain⟨s1,rfl,e1⟩:=hv;obtain⟨s2,rfl,e2⟩:=hu;simp only[xu,beq_iff_eq,Value.string.injEq,←e1,←e2];constructor
  ·intro h;have:=Array.toList_inj.1 h;cases s1;simp_all
  grind
theorem afC{t:TypeId}:∀{xs ys:List V} {vs us:List Value},xw P t xs=true→xw P t ys=true→xs.length=ys.length→vs.length=xs.length→us.length=ys.length→
  (∀(j:Nat) v x,vs[j]? =some v→xs[j]? =some x→lu v x)→(∀(j:Nat) v x,us[j]? =some v→ys[j]? =some x→lu v x)→(qK xs ys=true↔vs=us)
 | [],[],vs,us,_,_,_,h1,h2,_,_=>by
  have e1:=qu (l:=vs) (by omega);have e2:=qu (l:=us) (by omega);simp[qK,e1,e2]
 | [],_::_,_,_,_,_,h,_,_,_,_=>by simp at h
 |_::_,[],_,_,_,_,h,_,_,_,_=>by simp at h
 |x::xs,y::ys,[],us,_,_,_,h,_,_,_=>by simp at h
 |x::xs,y::ys,v::vs,[],_,_,_,_,h,_,_=>by simp at h
 |x::xs,y::ys,v::vs,u::us,f1,f2,h,h1,h2,r1,r2=>by
  simp only[xw,aG]at f1 f2;have a:=W3 f1.1 f2.1 (r1 0 v x rfl rfl) (r2 0 u y rfl rfl);have b:=afC (vs:=vs) (us:=us) f1.2 f2.2 (by grind) (by grind) (by grind) (fun j v x hj hx=>r1 (j+1) v x (by grind) (by grind)) (fun j v x hj hx=>r2 (j+1) v x (by grind) (by grind));simp only[qK,aG,a,b,GW]
theorem afD:∀{ts:List TypeId} {xs ys:List V} {vs us:List Value},xx P ts xs=true→xx P ts ys=true→vs.length=xs.length→us.length=ys.length→
  (∀(j:Nat) v x,vs[j]? =some v→xs[j]? =some x→lu v x)→(∀(j:Nat) v x,us[j]? =some v→ys[j]? =some x→lu v x)→(qK xs ys=true↔vs=us)
 | [],[],[],vs,us,_,_,h1,h2,_,_=>by
  have e1:=qu (l:=vs) (by omega);have e2:=qu (l:=us) (by omega);simp[qK,e1,e2]
 | [],_::_,_,_,_,h,_,_,_,_,_=>by cases h
 | [],[],_::_,_,_,_,h,_,_,_,_=>by cases h
 |_::_,[],_,_,_,h,_,_,_,_,_=>by cases h
 |_::_,_::_,[],_,_,_,h,_,_,_,_=>by cases h
 |t::ts,x::xs,y::ys,[],us,_,_,h,_,_,_=>by simp at h
 |t::ts,x::xs,y::ys,v::vs,[],_,_,_,h,_,_=>by simp at h
 |t::ts,x::xs,y::ys,v::vs,u::us,f1,f2,h1,h2,r1,r2=>by
  simp only[xx,aG]at f1 f2;have a:=W3 f1.1 f2.1 (r1 0 v x rfl rfl) (r2 0 u y rfl rfl);have b:=afD (vs:=vs) (us:=us) f1.2 f2.2 (by grind) (by grind) (fun j v x hj hx=>r1 (j+1) v x (by grind) (by grind)) (fun j v x hj hx=>r2 (j+1) v x (by grind) (by grind));simp only[qK,aG,a,b,GW]
theorem W4{t:TypeId}{x y:V}{v u:Value}(h1:ti P t x=true)(h2:ti P t y=true)(hv:xI v x)(hu:xI u y):jk x y=true↔v=u:=by
 unfold jk;cases B6 h1 with
 |one f1 c1=>
  cases B6 h2 with
  |one f2 c2=>
   rw[c1,c2];simp only[qK,Bool.and_true];exact W3 f1 f2 (hv.one c1) (hu.one c2)
  |arr hy A hl _ hf=>
   rcases va f1 with⟨q,n,jP,_⟩|⟨b,jP,_⟩|⟨s,jP,_⟩<;>(rw[A.hu]at jP;cases jP)
  |str hy A _ hf=>
   rcases va f1 with⟨q,n,jP,_⟩|⟨b,jP,_⟩|⟨s,jP,_⟩<;>(rw[A.hu]at jP;cases jP)
 |arr hx A hl _ hf=>
  cases B6 h2 with
  |one f2 c2=>
   rcases va f2 with⟨q,n,jP,_⟩|⟨b,jP,_⟩|⟨s,jP,_⟩<;>(rw[A.hu]at jP;cases jP)
  |arr hy A2 AW _ yw=>
   have ki:=A.hu.symm.trans A2.hu;cases ki;subst hx;subst hy;obtain⟨cs,rfl,s1,r1⟩:=hv;obtain⟨ds,rfl,s2,r2⟩:=hu;have:=afC (vs:=cs.toList) (us:=ds.toList) hf yw (by omega) (by omega) (by omega) (fun j v x hj hx=>r1 j v x (by grind) hx) (fun j v x hj hx=>r2 j v x (by grind) hx);simp only[V.cells,this,Value.agg.injEq];simp_all
  |str hy A2 _ yw=>
   have ki:=A.hu.symm.trans A2.hu;cases ki
 |str hx A _ hf=>
  cases B6 h2 with
  |one f2 c2=>
   rcases va f2 with⟨q,n,jP,_⟩|⟨b,jP,_⟩|⟨s,jP,_⟩<;>(rw[A.hu]at jP;cases jP)
  |arr hy A2 AW _ yw=>
   have ki:=A.hu.symm.trans A2.hu;cases ki
  |str hy A2 _ yw=>
   have ki:=A.hu.symm.trans A2.hu;cases ki;subst hx;subst hy;obtain⟨cs,rfl,s1,r1⟩:=hv;obtain⟨ds,rfl,s2,r2⟩:=hu;have:=afD (vs:=cs.toList) (us:=ds.toList) hf yw (by omega) (by omega) (fun j v x hj hx=>r1 j v x (by grind) hx) (fun j v x hj hx=>r2 j v x (by grind) hx);simp only[V.cells,this,Value.agg.injEq];simp_all
theorem afE{k:V}:∀{es:List V},(∀x∈es,jk k (x.comp 0)=false)→gq k es=false∧(∀z,kz k es z=z)∧∀v,jl k v es=es++[.bf [k,v]]
 | [],_=>⟨rfl,fun _=>rfl,fun _=>rfl⟩
 |e::es,h=>by
  have h0:=h e (qz ..);obtain⟨a,b,c⟩:=afE (k:=k) (es:=es) fun x hx=>h x (jU _ hx);exact⟨by simp[gq,h0,a],fun z=>by simp[kz,h0,b],fun v=>by simp[jl,h0,c]⟩
theorem afF{k:V}:∀{es:List V} {j:Nat} {k' y:V},es[j]? =some (.bf [k',y])→jk k k'=true→(∀i x,i<j→es[i]? =some x→jk k (x.comp 0)=false)→
  gq k es=true∧(∀z,kz k es z=y)∧∀v,jl k v es=es.set j (.bf [k',v])
 | [],j,k',y,h,_,_=>by simp at h
 |e::es,0,k',y,h,he,_=>by
  simp at h;subst h;exact⟨by simp[gq,V.comp,V.nth,he],fun z=>by simp[kz,V.comp,V.nth,he],fun v=>by simp[jl,V.comp,V.nth,he]⟩
 |e::es,j+1,k',y,h,he,aO=>by
  have h0:=aO 0 e (by omega) rfl;obtain⟨a,b,c⟩:=afF (k:=k) (es:=es) (j:=j) (by simpa using h) he fun i x hi hx=>aO (i+1) x (by omega) (by grind);exact⟨by simp[gq,h0,a],fun z=>by simp[kz,h0,b],fun v=>by simp[jl,h0,c]⟩
theorem afG{kt vt:TypeId}{E:Array MapEntry}{es:List V}{k:V}{kv:Value}(hs:E.size=es.length)(hx:∀(j:Nat) (e:MapEntry) (x:V),E[j]? =some e→es[j]? =some x→Ny P kt vt e x)
  (hn:E.toList.Pairwise (fun a b=>a.key≠b.key)) (hk:ti P kt k=true) (Qc:xI kv k) (w:World):
  ((Instr.findKey kt kv E.toList).run P w= .ok none w∧(∀e∈E.toList,e.key≠kv)∧gq k es=false∧(∀z,kz k es z=z)∧∀v,jl k v es=es++[.bf [k,v]])∨
  ∃j e k' y,(Instr.findKey kt kv E.toList).run P w= .ok (some (j,e.val)) w∧E[j]? =some e∧e.key=kv∧es[j]? =some (.bf [k',y])∧ti P kt k'=true∧xI kv k'∧fJ P vt y=true∧lu e.val y∧
   gq k es=true∧(∀z,kz k es z=y)∧∀v,jl k v es=es.set j (.bf [k',v]):=by
 have K:=W0 hk;obtain⟨l,hl⟩:=Qb hk Qc;have zI:∀(j:Nat) x,es[j]? =some x→∃e,E[j]? =some e∧Ny P kt vt e x:=by
  intro j x hj;have aO:j<E.size:=by grind
  exact⟨E[j],ma aO,hx j _ x (ma aO) hj⟩
 have keys:∀e∈E.toList,∃l,Go.keyOf P kt e.key=some l:=by
  intro e he;obtain⟨j,hj⟩:=vC he;have iY:E[j]? =some e:=by grind
  have aO:j<es.length:=by grind
  obtain⟨k',y,_,h1,h2,_⟩:=hx j e es[j] iY (bX aO);exact Qb h1 h2
 rcases K.find w hl E.toList keys with⟨h1,h2⟩|⟨j,e,h1,h2,h3⟩
 ·left;refine⟨h1,h2,afE fun x P4=> ?_⟩;obtain⟨j,hj⟩:=vC P4;obtain⟨e,he,k',y,rfl,f1,f2,_⟩:=zI j x hj;cases hq:jk k (V.comp (.bf [k',y]) 0)with
  |false=>rfl
  |true=>
   have:=(W4 hk f1 Qc f2).1 hq;grind
 ·right;have hE:E[j]? =some e:=by grind
  have aO:j<es.length:=by grind
  obtain⟨k',y,hy,f1,f2,f3,f4⟩:=hx j e es[j] hE (bX aO);have hj:=bX aO;rw[hy]at hj;rw[h3]at f2;refine⟨j,e,k',y,h1,hE,h3,hj,f1,f2,f3,f4,afF hj ((W4 hk f1 Qc f2).2 rfl) fun i x hi ot=> ?_⟩;obtain⟨e',E6,k2,y2,rfl,g1,g2,_⟩:=zI i x ot;cases hq:jk k (V.comp (.bf [k2,y2]) 0)with
  |false=>rfl
  |true=>
   have:=(W4 hk g1 Qc g2).1 hq;have i1:i<E.toList.length:=by grind
   have i2:j<E.toList.length:=by simp;omega
   have:=GP.1 hn i j i1 i2 hi;grind
theorem ai.W5{v:Value}{x:V}(h:ai P w I β hp v x){t:TypeId}(hx:th P t x=true):lu v x:=by
 rcases va hx with⟨q,n,_,rfl,_⟩|⟨b,_,rfl⟩|⟨s,_,rfl,_⟩
 ·exact h.gx
 ·exact h.oo
 ·exact h.pO
theorem ai.afH{v:Value}{x:V}(h:ai P w I β hp v x){t:TypeId}(hx:ti P t x=true):xI v x:=by
 cases B6 hx with
 |one f c=>
  have:=h.W5 f;cases x<;>first|exact this|cases this
 |arr hx A hl _ hf=>
  subst hx;obtain⟨cs,rfl,h1,h2⟩:=h.oq;exact⟨cs,rfl,h1,fun j u y hu hy=>(h2 j u y hu hy).W5 (WY hf hy)⟩
 |str hx A _ hf=>
  subst hx;obtain⟨cs,rfl,h1,h2⟩:=h.oq;obtain⟨a,b⟩:=P9 hf;refine⟨cs,rfl,h1,fun j u y hu hy=> ?_⟩;have hj:=(cw.1 hy).1;exact(h2 j u y hu hy).W5 (b j _ y (bX (by omega)) hy)
theorem afI{vt:TypeId}{y:V}(h:mapVal P vt=true)(ht:fJ P vt y=true):(∃q n,P.underlying vt=some (.int q)∧y= .int q n)∨∃b,P.underlying vt=some .bool∧y= .bool b:=by
 unfold mapVal at h;unfold fJ at ht;grind
theorem lu.W6{vt:TypeId}{v:Value}{y:V}(h:mapVal P vt=true)(ht:fJ P vt y=true)(hv:lu v y):ai P w I β hp v y:=by
 rcases afI h ht with⟨q,n,_,rfl⟩|⟨b,_,rfl⟩
 ·obtain rfl:v= .int q n:=hv;exact .int
 ·obtain rfl:v= .bool b:=hv;exact .bool
theorem ai.as7{vt:TypeId}{v:Value}{y:V}(h:mapVal P vt=true)(ht:fJ P vt y=true)(hv:ai P w I β hp v y):lu v y:=by
 rcases afI h ht with⟨q,n,_,rfl⟩|⟨b,_,rfl⟩
 ·exact hv.gx
 ·exact hv.oo
theorem as8{vt:TypeId}{z:V}(h:Ni P vt=some z)(w:World):∃v,(zeroValue vt).run P w= .ok v w∧lu v z:=by
 unfold Ni at h;cases hi:P.info? vt with
 |none=>grind
 |some i=>
  rw[hi]at h;simp only[Option.bind_some]at h;cases hz:i.zero with
  |none=>grind
  |some v=>
   rw[hz]at h;refine⟨v,by simp[zeroValue,typeInfo,hi,hz],?_⟩;cases v<;>simp only at h<;>first|(cases h;done)|skip
   ·cases h;rfl
   ·cases h;rfl
theorem W7{t kt vt:TypeId}(h:qL P t=some (kt,vt)):P.underlying t=some (.map kt vt):=by
 unfold qL at h;grind
theorem W8(S:ax P w I β hp B M w0){ok:Bool}{v:Value}{x:V}{b:Bool}{r:R}{rd:List Nat}{res:Result Value}(hv:ai P w I β hp v x)
  (hr:res= .ok (if ok then .tuple #[v,.bool b]else v) w) (h:(Nj ok x b).run C hp=some (r,rd)):dr P res w I β hp B M w0 r:=by
 unfold Nj at h;obtain rfl:=aM h;cases ok with
 |false=>exact .same S hr hv
 |true=>
  refine .same S hr (.bf rfl fun j u y hu hy=> ?_)
  match j,hu,hy with
  |0,hu,hy=>grind
  |1,hu,hy=>simp at hu hy;subst hu;subst hy;exact .bool
  |j+2,hu,hy=>simp at hy
theorem as9(S:ax P w I β hp B M w0){t kt vt:TypeId}(ht:qL P t=some (kt,vt)){m k:Value}{mx kx:V}{ok:Bool}{r:R}{rd:List Nat}(hm:ai P w I β hp m mx)(hk:ai P w I β hp k kx)
  (h:(TB P t mx kx ok).run C hp=some (r,rd)):dr P ((Instr.lookup t m k ok).run P w) w I β hp B M w0 r:=by
 unfold TB at h;rw[ht]at h;simp only at h;cases hz:Ni P vt with
 |none=>rw[hz]at h;cases h
 |some z=>
  rw[hz]at h;obtain⟨hc,h'⟩:=ay h;clear h;have h:=h';clear h';simp only[aG]at hc;obtain⟨wI,JT,Qd⟩:=hc;have hu:=W7 ht;have Fb:=hk.afH wI;have K:=W0 wI;obtain⟨l,hl⟩:=Qb wI Fb;obtain⟨zv,hzr,hzk⟩:=as8 hz w;cases mx<;>simp only at h<;>first|(cases h;done)|skip
  ·rename_i t' id;obtain⟨p8,h'⟩:=ay h;clear h;have h:=h';clear h';rw[aN]at p8;subst p8;obtain⟨l2,h'⟩:=run_get h;clear h;have h:=h';clear h';cases ae:hp id with
   |none=>rw[ae]at h;cases h
   |some blk=>
    rw[ae]at h;cases blk<;>simp only at h<;>first|(cases h;done)|skip
    rename_i t2 es;obtain⟨p8,h'⟩:=ay h;clear h;have h:=h';clear h';rw[aN]at p8;subst p8;cases hm with
    |mj hd=>grind
    |@cK _ _ b aI hd hb=>
     rw[ae]at hd;cases hd;have hr:=S.h.rel id _ ae;cases hr with
     |@map _ kt' vt' _ b' clock E mK au hh hs hI hx hn=>
      rw[hb]at au;cases au;rw[hu]at mK;cases mK;rcases afG hs hx hn wI Fb w with⟨h1,_,h3,h4,_⟩|⟨j,e,k',y,h1,_,_,_,_,_,h6,h7,h3,h4,_⟩
      ·rw[h3,h4,HB Qd]at h;refine W8 S (lu.W6 JT Qd hzk) ?_ h;unfold Instr.lookup;simp only[Sem.run_bind,run_underlying hu,Result.andThen_ok,Go.MapKept.run_getObj_map hh,Sem.run_pure,K.check w E.isEmpty hl,h1,hzr]
      ·rw[h3,h4,HB h6]at h;refine W8 S (lu.W6 JT h6 h7) ?_ h;unfold Instr.lookup;simp only[Sem.run_bind,run_underlying hu,Result.andThen_ok,Go.MapKept.run_getObj_map hh,Sem.run_pure,K.check w E.isEmpty hl,h1]
  ·rename_i t';obtain⟨p8,h⟩:=ay h;cases hm;rw[HB Qd]at h;refine W8 S (lu.W6 JT Qd hzk) ?_ h;have hf:(Instr.findKey kt k []).run P w= .ok none w:=by
    rcases K.find w hl [] (by simp)with⟨h1,_⟩|⟨j,e,_,h2,_⟩
    all_goals grind
   unfold Instr.lookup;simp[run_underlying hu,K.check w true hl,hf,hzr]
theorem ata(S:ax P w I β hp B M w0){t:TypeId}{nb:Nat}{r:R}{rd:List Nat}(h:(Rd.aw (qL P t).isSome (jZ nb (.map t []) (.cK t nb) [])).run C hp=some (r,rd)):
  dr P ((Instr.makeMap t none).run P w) w I β hp B M w0 r:=by
 obtain⟨ht,h⟩:=ay h;obtain⟨hn,rfl⟩:=n8 h;obtain⟨⟨kt,vt⟩,ht⟩:=DB.1 ht;have hu:=W7 ht;have dq:∀j,¬I w.heap.size j:=fun j h=>pK _ (S.h.kC _ j h);have dI:(w.alloc (.map #[] 0)).heap[w.heap.size]? =some (.map #[] 0):=heap_alloc_new w _;obtain⟨a1,a2⟩:=D0 S (w':=w.alloc (.map #[] 0)) (blk:= .map t []) (b:=w.heap.size) hn (fun aq blk' h ho=>pK _ (S.h.lt h ho)) (fun j h=>absurd h (dq j))
  (fun b' _ aO=>heap_alloc_old w _ b' aO) (by simp) ⟨rfl,rfl⟩ (.inr S.size) (fun b' h=>(eX (h.flat (by simp))).symm)
  (fun _=> .map hu rfl dI rfl dq (fun j e x he _=>by simp at he) (by simp))
 exact⟨_,_,_,_,Go.RowKit.run_makeMap t w,a1,a2,.cK (bI _ _ _) (bI _ _ _)⟩
theorem afJ(S:ax P w I β hp B M w0){t kt vt:TypeId}(ht:qL P t=some (kt,vt)){m k v:Value}{mx kx vx:V}{r:R}{rd:List Nat}(hm:ai P w I β hp m mx)(hk:ai P w I β hp k kx)(hv:ai P w I β hp v vx)
  (h:(Nk P t mx kx vx).run C hp=some (r,rd)):tu P ((Instr.mapUpdate t m k v).run P w) w I β hp B M w0 r:=by
 unfold Nk at h;rw[ht]at h;obtain⟨hc,h'⟩:=ay h;clear h;have h:=h';clear h';simp only[aG]at hc;obtain⟨wI,JT,B7⟩:=hc;have hu:=W7 ht;have Fb:=hk.afH wI;have sk:=ai.as7 JT B7 hv;have K:=W0 wI;obtain⟨l,hl⟩:=Qb wI Fb;cases mx<;>simp only at h<;>first|(cases h;done)|skip
 rename_i t' id;obtain⟨p8,h'⟩:=ay h;clear h;have h:=h';clear h';rw[aN]at p8;subst p8;obtain⟨l2,h'⟩:=run_get h;clear h;have h:=h';clear h';cases ae:hp id with
 |none=>rw[ae]at h;cases h
 |some blk=>
  rw[ae]at h;cases blk<;>simp only at h<;>first|(cases h;done)|skip
  rename_i t2 es;obtain⟨p8,h'⟩:=ay h;clear h;have h:=h';clear h';rw[aN]at p8;subst p8;obtain rfl:=aM h;cases hm with
  |mj hd=>grind
  |@cK _ _ b aI hd hb=>
   rw[ae]at hd;cases hd;have hr:=S.h.rel id _ ae;cases hr with
   |@map _ kt' vt' _ b' clock E mK au hh hs hI hx hn=>
    rw[hb]at au;cases au;rw[hu]at mK;cases mK;have aO:b<w.heap.size:=(zh.1 hh).1;have fin:∀(E':Array MapEntry) (JU:Nat),(Instr.mapUpdate t (.map (some b)) k v).run P w= .ok () {w with heap:=w.heap.setIfInBounds b (.map E' JU)}→E'.size=(jl kx vx es).length→
      (∀(j:Nat) (e:MapEntry) (x:V),E'[j]? =some e→(jl kx vx es)[j]? =some x→Ny P kt vt e x)→E'.toList.Pairwise (fun a b=>a.key≠b.key)→
      tu P ((Instr.mapUpdate t (.map (some b)) k v).run P w) w I β hp B M w0 ⟨.undef,[(id,.map t (jl kx vx es))]⟩:=by
     intro E' JU cO rF dk IQ;have dI:({w with heap:=w.heap.setIfInBounds b (.map E' JU)}:World).heap[b]? =some (.map E' JU):=by simp[aO]
     obtain⟨a1,a2⟩:=D1 S (w':={w with heap:=w.heap.setIfInBounds b (.map E' JU)}) (blk':= .map t (jl kx vx es)) ae (by simp) rfl hb hI (by simp)
      (fun b' au=>by grind) (by simp only[bsize,dI,hh]) (by simp) ⟨rfl,rfl⟩ (fun _=> .map hu rfl dI rF hI dk IQ)
     exact⟨_,I,β,cO,a1,a2,rfl⟩
    rcases afG hs hx hn wI Fb w with⟨h1,h2,_,_,h5⟩|⟨j,e,k',y,h1,hE,hek,hes,atb,atc,_,_,_,_,h5⟩
    ·have e5:=h5 vx;refine fin (E.push {key:=k,val:=v,born:=clock}) (clock+1) ?_ (by grind) (fun j e x he pQ=> ?_) ?_
     ·unfold Instr.mapUpdate;simp only[Sem.run_bind,run_underlying hu,Result.andThen_ok,Go.MapKept.run_getObj_map hh,K.check w false hl,h1,Go.MapKept.run_setObj_map _ hh]
     ·rw[e5]at pQ;rw[Array.getElem?_push]at he;split at he
      ·rename_i hj;rw[qD (by omega),hj,hs,Nat.sub_self]at pQ;simp at he pQ;subst he;subst pQ;exact⟨kx,vx,rfl,wI,Fb,B7,sk⟩
      grind
     grind
    ·have e5:=h5 vx;have hj:j<E.size:=(zh.1 hE).1;refine fin (E.modify j fun e=>{e with key:=k,val:=v}) clock ?_ (by grind) (fun i e' x he ot=> ?_) ?_
     ·have cv:=K.stays w hl;unfold Instr.mapUpdate;simp only[Sem.run_bind,run_underlying hu,Result.andThen_ok,Go.MapKept.run_getObj_map hh,K.check w false hl,h1];simp only[hE,Option.map_some,Option.getD_some,hek,cv,Result.andThen_ok,Go.MapKept.run_setObj_map _ hh]
     ·rw[e5]at ot;rw[MY]at he;rw[Dy]at ot;split at he
      ·rename_i Bp;subst Bp;rw[aF rfl,dG]at ot;rw[hE]at he;simp at he ot;subst he;subst ot;exact⟨k',vx,rfl,atb,atc,B7,sk⟩
      grind
     ·have Ah:∀i (h1:i<(E.modify j fun e=>{e with key:=k,val:=v}).toList.length) (h2:i<E.toList.length),((E.modify j fun e=>{e with key:=k,val:=v}).toList[i]).key=(E.toList[i]).key:=by
       grind
      rw[GP]at hn⊢;grind
theorem atd(S:ax P w I β hp B M w0){t ty kt vt:TypeId}{v:Value}{x:V}{r:R}{rd:List Nat}(hu:P.underlying t=some (.map kt vt))(hv:ai P w I β hp v x)
  (h:(Nl x).run C hp=some (r,rd)):dr P ((Builtin.len_ #[t] ty #[v]).run P w) w I β hp B M w0 r:=by
 unfold Nl at h;cases x<;>simp only at h<;>first|(cases h;done)|skip
 ·rename_i t' id;obtain⟨l2,h'⟩:=run_get h;clear h;have h:=h';clear h';cases ae:hp id with
  |none=>rw[ae]at h;cases h
  |some blk=>
   rw[ae]at h;cases blk<;>simp only at h<;>first|(cases h;done)|skip
   rename_i t2 es;obtain rfl:=aM h;cases hv with
   |mj hd=>grind
   |@cK _ _ b aI hd hb=>
    rw[ae]at hd;cases hd;have hr:=S.h.rel id _ ae;cases hr with
    |@map _ kt' vt' _ b' clock E mK au hh hs hI hx hn=>
     rw[hb]at au;cases au;refine .same S (v:= .int .i64 E.size) (by simp[Builtin.len_,run_underlying hu,Go.MapKept.run_getObj_map hh,goInt]) ?_;rw[hs];exact .int
 ·obtain rfl:=aM h;cases hv;exact .same S (v:= .int .i64 0) (by simp[Builtin.len_,run_underlying hu,goInt]) .int
theorem ai.W9{v:Value}{t:TypeId}(h:ai P w I β hp v (.ff t)):v= .map none:=by cases h;rfl
theorem ai.ate{v:Value}{t t':TypeId}{id:Nat}{es:List V}(h:ai P w I β hp v (.cK t id))(ae:hp id=some (.map t' es)):∃b,v= .map (some b):=by
 cases h with
 |mj h=>grind
 |cK h hb=>grind
theorem afK(S:ax P w I β hp B M w0){op:BinOp}{t:TypeId}{a:Option Nat}{r:R}{rd:List Nat}(x y:Operand)
  (h:(Nb P op t a.isNone).run C hp=some (r,rd)):dr P ((do eqGuard op t x y (.map a) (.map none);binOp op t (.map a) (.map none)).run P w) w I β hp B M w0 r:=by
 unfold Nb at h;split at h
 case h_2=>cases h
 rename_i kt vt hu;have he:(Op.equal t (.map a) (.map none)).run P w= .ok a.isNone w:=by
  show(Op.equalIn (9999+1) t (.map a) (.map none)).run P w=_;rw[Op.equalIn];cases a<;>simp[Sem.run_bind,run_underlying hu,Result.andThen_ok,Sem.run_pure]
 cases op<;>simp only at h<;>first|(cases h;done)|skip
 ·obtain rfl:=aM h;exact .same S (by simp[eqGuard,binOp,he]) .bool
 ·obtain rfl:=aM h;exact .same S (by simp[eqGuard,binOp,he]) .bool
end
end Go.AM
