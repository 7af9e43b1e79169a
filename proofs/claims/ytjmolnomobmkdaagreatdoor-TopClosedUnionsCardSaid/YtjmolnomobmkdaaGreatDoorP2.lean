/-
  Functions of the program, lifted to plain data.
-/
import Derived.Great.BuildSlice
import Derived.Maps.Keyed
import Derived.WideKeyArr
import Derived.MapKept
import Derived.ChangeMaps4
import Derived.Carry
import Derived.Test.YtjmolnomobmkdaaGreatDoorP1
noncomputable section
set_option linter.unusedVariables false
set_option linter.unusedSimpArgs false
set_option linter.unusedSectionVars false
namespace Go.AM
section
variable {P:Program} {w w':World} {I I':Nat→Nat→Prop} {β β':Nat→Option Nat} {hp hp':Nat→Option ah} {C:af} {B:Nat} {M:Nat→Prop} {w0:Start}
theorem pW.xS {t:TypeId} {v:Value} {x:V} (h:pW P w I t v x):ig P t x=x:=by
 cases h with
 | gB _ p=>exact p.xS
 | emp hu=>exact rX hu
 | row hu _ _ _ _=>exact rX hu
theorem Dc {new:List V} {e ea:TypeId} {i c:Nat} {q:Path} {es dh:List V} {x:V} (hx:es[i]? =some x) (hp:(parts P e x)[c]? =some (.list ea dh)):
  setRow P new e es ((i,c)::q)=es.set i (dv P e ((parts P e x).set c (.list ea (setRow P new ea dh q)))):=by
 simp only[setRow,hx,hp]
theorem G4 {b:Nat} {e t:TypeId} {es:List V} {i c:Nat} {x y:V} (hR:iS P w I b e es) (hx:es[i]? =some x) (ht:(aU P e)[c]? =some t):
  ∀{i' c':Nat} {x':V} {t':TypeId},(es.set i (dv P e ((parts P e x).set c y)))[i']? =some x'→(aU P e)[c']? =some t'→
   ∃x0,es[i']? =some x0∧cf P e x' c'=if i'=i∧c'=c then y else cf P e x0 c':=by
 intro i' c' x' t' dd gD;have p5:i<es.length:=(cz.1 hx).1;have zm:c<(aU P e).length:=(cz.1 ht).1;have MC:c'<(aU P e).length:=(cz.1 gD).1;by_cases hi:i'=i
 ·subst hi;rw[qI p5] at dd;cases dd;refine ⟨x,hx,?_⟩;by_cases hc:c'=c
  ·subst hc;rw[aB ⟨rfl,rfl⟩];exact vW (qI (by rw[Co];exact zm)) gD
  ·rw[ax (fun h=>hc h.2)];have h1:((parts P e x).set c y)[c']? =some (ig P t' (cf P e x c')):=by
    rw[xp (fun h=>hc h.symm)];exact rW gD
   rw[vW h1 gD];obtain ⟨Ca,_,_,_,_,wk⟩:=hR.cells;obtain ⟨v,_,ho⟩:=wk i' c' x t' hx gD (by rw[←fH hR.ok];exact MC);exact ho.xS
 ·rw[xp (fun h=>hi h.symm)] at dd;exact ⟨x',dd,by rw[ax (fun h=>hi h.1)]⟩
theorem RT {b b1:Nat} {e e1:TypeId} {es l l':List V} {p:Path} (h:At P w b e es p b1 e1 l) (hl:l'.length=l.length):(setRow P l' e es p).length=es.length:=by
 cases h with
 | here=>exact hl
 | step h1 h2 h3 h4 h5 h6 h7 h8=>
  rw[Dc h2 (by rw[rW h3,h5,rX h4])];simp
theorem At.alA {b b1:Nat} {e e1:TypeId} {es l l':List V} {p:Path} (RU:At P w b e es p b1 e1 l) (hw: ∀k,k≠b1→w'.heap[k]? =w.heap[k]?) (hl:l'.length=l.length):
  (∀q b' e' m,At P w b e es q b' e' m→iS P w I b' e' m)→(∀q e' m,At P w b e es q b1 e' m→q=p)→
  ∀q b' e' m,At P w' b e (setRow P l' e es p) q b' e' m→
   (∃r m0,p=q++r∧At P w b e es q b' e' m0∧m=setRow P l' e' m0 r)∨
   (∃r,r≠[]∧q=p++r∧At P w' b1 e1 l' r b' e' m)∨
   (At P w b e es q b' e' m∧b'≠b1∧¬q <+: p∧¬p <+: q):=by
 induction RU with
 | here=>
  intro cW nZ q b' e' m h;cases q with
  | nil=>cases h with|here=>exact .inl ⟨[],_,rfl,.here,rfl⟩
  | cons a q=>exact .inr (.inl ⟨a::q,by simp,rfl,h⟩)
 | @step b i c b2 len cap b1 e t ea e1 es dh l p Ca T f x h1 h2 h3 h4 h5 h6 h7 h8 ih=>
  intro cW nZ q b' e' m h;have o0:(parts P e x)[c]? =some (.list ea dh):=by rw[rW h3,h5,rX h4]
  rw[Dc h2 o0] at h;have hR:=cW _ _ _ _ .here;have hb:b≠b1:=by
   intro hb;subst hb;have:=nZ [] _ _ .here;cases this
  have RW:=ih hw hl (fun q b' e' m h=>cW _ _ _ _ (.step h1 h2 h3 h4 h5 h6 h7 h)) (fun q e' m h=>by
   have:=nZ _ _ _ (.step h1 h2 h3 h4 h5 h6 h7 h);exact (List.cons.inj this).2)
  cases h with
  | here=>exact .inl ⟨_,es,rfl,.here,(Dc h2 o0).symm⟩
  | @step _ i' c' b3 alB RX _ _ t' e3 _ _ jt _ q zl T' f' x' k1 k2 k3 k4 k5 k6 k7 k8=>
   rw[hw b hb] at k1;obtain ⟨x0,y1,y2⟩:=G4 hR h2 h3 k2 k3;by_cases jO:i'=i∧c'=c
   ·rw[aB jO] at y2;obtain ⟨rfl,rfl⟩:=jO;rw[h1] at k1;cases k1;rw[h7] at k7;cases k7;rw[k5] at y2;cases y2;rcases RW _ _ _ _ k8 with ⟨r,m0,z1,z2,z3⟩|⟨r,z1,z2,z3⟩|⟨z1,z2,z3,z4⟩
    ·exact .inl ⟨r,m0,by rw[z1];rfl,.step h1 h2 h3 h4 h5 h6 h7 z2,z3⟩
    ·exact .inr (.inl ⟨r,z1,by rw[z2];rfl,z3⟩)
    ·refine .inr (.inr ⟨.step h1 h2 h3 h4 h5 h6 h7 z1,z2,fun hh=>z3 ?_,fun hh=>z4 ?_⟩)
     ·exact (xq.1 hh).2
     ·exact (xq.1 hh).2
   ·rw[ax jO,k5] at y2;have bp: ∀q2 b5 e5 kH,At P w b3 e3 jt q2 b5 e5 kH→b5≠b1:=by
     intro q2 b5 e5 kH hq zY;subst zY;have:=nZ _ _ _ (.step k1 y1 k3 k4 y2.symm k6 k7 hq);injection this with h1 h2;injection h1 with h1 h3;exact jO ⟨h1,h3⟩
    have lV:=k8.xK (w:=w) fun q2 b5 e5 kH hq=>hw b5 (bp q2 b5 e5 kH hq);refine .inr (.inr ⟨.step k1 y1 k3 k4 y2.symm k6 k7 lV,bp _ _ _ _ lV,fun hh=> ?_,fun hh=> ?_⟩)
    ·have:=(xq.1 hh).1;injection this with h1 h3;exact jO ⟨h1,h3⟩
    ·have:=(xq.1 hh).1;injection this with h1 h3;exact jO ⟨h1.symm,h3.symm⟩
theorem At.yj {b b1:Nat} {e e1:TypeId} {es l l':List V} {p:Path} (RU:At P w b e es p b1 e1 l) (hw: ∀k,k≠b1→w'.heap[k]? =w.heap[k]?) (hl:l'.length=l.length):
  (∀q b' e' m,At P w b e es q b' e' m→iS P w I b' e' m)→(∀q e' m,At P w b e es q b1 e' m→q=p)→
  ∀q b' e' m,At P w b e es q b' e' m→
   (∃r,p=q++r∧At P w' b e (setRow P l' e es p) q b' e' (setRow P l' e' m r)∧∃e1' m1,At P w b' e' m r b1 e1' m1∧m1=l)∨
   (∃r,r≠[]∧q=p++r∧At P w b1 e1 l r b' e' m∧(∀b2 e2 m2,At P w' b1 e1 l' r b2 e2 m2→At P w' b e (setRow P l' e es p) q b2 e2 m2))∨
   (At P w' b e (setRow P l' e es p) q b' e' m∧b'≠b1∧¬q <+: p∧¬p <+: q):=by
 induction RU with
 | here=>
  intro cW nZ q b' e' m h;cases q with
  | nil=>cases h with|here=>exact .inl ⟨[],rfl,.here,_,_,.here,rfl⟩
  | cons a q=>exact .inr (.inl ⟨a::q,by simp,rfl,h,fun _ _ _ h=>h⟩)
 | @step b i c b2 len cap b1 e t ea e1 es dh l p Ca T f x h1 h2 h3 h4 h5 h6 h7 h8 ih=>
  intro cW nZ q b' e' m h;have o0:(parts P e x)[c]? =some (.list ea dh):=by rw[rW h3,h5,rX h4]
  have js:=Dc (new:=l') (q:=p) h2 o0;have hR:=cW _ _ _ _ .here;have p5:i<es.length:=(cz.1 h2).1;have hb:b≠b1:=by
   intro hb;subst hb;have:=nZ [] _ _ .here;cases this
  have RW:=ih hw hl (fun q b' e' m h=>cW _ _ _ _ (.step h1 h2 h3 h4 h5 h6 h7 h)) (fun q e' m h=>by
   have:=nZ _ _ _ (.step h1 h2 h3 h4 h5 h6 h7 h);exact (List.cons.inj this).2)
  have ur:=(hw b hb).trans h1;have G5:(es.set i (dv P e ((parts P e x).set c (.list ea (setRow P l' ea dh p)))))[i]? =some (dv P e ((parts P e x).set c (.list ea (setRow P l' ea dh p)))):=qI p5;have RY:cf P e (dv P e ((parts P e x).set c (.list ea (setRow P l' ea dh p)))) c= .list ea (setRow P l' ea dh p):=by
   obtain ⟨x0,y1,y2⟩:=G4 hR h2 h3 G5 h3;rw[aB ⟨rfl,rfl⟩] at y2;exact y2
  cases h with
  | here=>
   exact .inl ⟨(i,c)::p,rfl,.here,_,_,.step h1 h2 h3 h4 h5 h6 h7 h8,rfl⟩
  | @step _ i' c' b3 alB RX _ _ t' e3 _ _ jt _ q zl T' f' x' k1 k2 k3 k4 k5 k6 k7 k8=>
   rw[js];by_cases jO:i'=i∧c'=c
   ·obtain ⟨rfl,rfl⟩:=jO;rw[h1] at k1;cases k1;rw[h7] at k7;cases k7;rw[h3] at k3;cases k3;rw[h4] at k4;cases k4;rw[h2] at k2;cases k2;rw[h5] at k5;cases k5;rcases RW _ _ _ _ k8 with ⟨r,z1,z2,z3⟩|⟨r,z1,z2,z3,z4⟩|⟨z1,z2,z3,z4⟩
    ·exact .inl ⟨r,by rw[z1];rfl,.step ur G5 h3 h4 RY h6 h7 z2,z3⟩
    ·exact .inr (.inl ⟨r,z1,by rw[z2];rfl,z3,fun b2 e2 m2 hh=> .step ur G5 h3 h4 RY h6 h7 (z4 b2 e2 m2 hh)⟩)
    ·refine .inr (.inr ⟨.step ur G5 h3 h4 RY h6 h7 z1,z2,fun hh=>z3 ?_,fun hh=>z4 ?_⟩)
     ·exact (xq.1 hh).2
     ·exact (xq.1 hh).2
   ·have bp: ∀q2 b5 e5 kH,At P w b3 e3 jt q2 b5 e5 kH→b5≠b1:=by
     intro q2 b5 e5 kH hq zY;subst zY;have:=nZ _ _ _ (.step k1 k2 k3 k4 k5 k6 k7 hq);injection this with h1 h2;injection h1 with h1 h3;exact jO ⟨h1,h3⟩
    have lV:=k8.mono (w':=w') fun q2 b5 e5 kH hq=>hw b5 (bp q2 b5 e5 kH hq);have G2: ∃x2,(es.set i (dv P e ((parts P e x).set c (.list ea (setRow P l' ea dh p)))))[i']? =some x2:=by
     have:i'<es.length:=(cz.1 k2).1;exact ⟨_,bY (by rw[pF];exact this)⟩
    obtain ⟨x2,lj⟩:=G2;obtain ⟨x0,y1,y2⟩:=G4 hR h2 h3 lj k3;rw[ax jO] at y2;rw[k2] at y1;cases y1;rw[k5] at y2;refine .inr (.inr ⟨.step ((hw b hb).trans k1) lj k3 k4 y2 k6 k7 lV,bp _ _ _ _ k8,fun hh=> ?_,fun hh=> ?_⟩)
    ·have:=(xq.1 hh).1;injection this with h1 h3;exact jO ⟨h1,h3⟩
    ·have:=(xq.1 hh).1;injection this with h1 h3;exact jO ⟨h1.symm,h3.symm⟩
theorem At.fun {b b1:Nat} {e e1:TypeId} {es l:List V} {q:Path} (h:At P w b e es q b1 e1 l): ∀{b2 e2 l2},At P w b e es q b2 e2 l2→b2=b1∧e2=e1∧l2=l:=by
 induction h with
 | here=>intro b2 e2 l2 h2;cases h2;exact ⟨rfl,rfl,rfl⟩
 | step h1 h2 h3 h4 h5 h6 h7 h8 ih=>
  intro b2 e2 l2 k;cases k with
  | step k1 k2 k3 k4 k5 k6 k7 k8=>
   rw[h1] at k1;cases k1;rw[h7] at k7;cases k7;rw[h2] at k2;cases k2;rw[h5] at k5;cases k5;exact ih k8
theorem At.split: ∀{q r:Path} {b b1:Nat} {e e1:TypeId} {es l:List V},At P w b e es (q++r) b1 e1 l→∃b' e' m,At P w b e es q b' e' m∧At P w b' e' m r b1 e1 l
 | [],r,b,b1,e,e1,es,l,h=>⟨_,_,_,.here,h⟩
 | a::q,r,b,b1,e,e1,es,l,h=>by
  cases h with
  | step h1 h2 h3 h4 h5 h6 h7 h8=>
   obtain ⟨b',e',m,k1,k2⟩:=At.split h8;exact ⟨b',e',m,.step h1 h2 h3 h4 h5 h6 h7 k1,k2⟩
theorem iS.cM {b:Nat} {e:TypeId} {es:List V} (h:iS P w I b e es) (hw:w'.heap[b]? =w.heap[b]?) (hI: ∀k j,I k j→w'.cell? ⟨k,j,none⟩=w.cell? ⟨k,j,none⟩) (ky: ∀k,bsize w' k=bsize w k):iS P w' I b e es:=by
 obtain ⟨ok,⟨Ca,T,c1,c0,c2,c3⟩,nI⟩:=h;refine ⟨ok,⟨Ca,T,hw.trans c1,c0,c2,fun i j x t' k1 k2 k3=> ?_⟩,nI⟩;obtain ⟨v,m1,m2⟩:=c3 i j x t' k1 k2 k3;exact ⟨v,m1,m2.mono (fun _ _ h=>h) hI fun b' _ _ _ _=>ky b'⟩
theorem iS.above {b b1 b2 i c len cap:Nat} {e e1 t ea:TypeId} {es dh l l':List V} {r:Path} {Ca:Array Value} {T:TypeId} {f:Nat×Nat} {x:V} (hR:iS P w I b e es)
  (h1:w.heap[b]? =some (.cells Ca T f)) (h2:es[i]? =some x) (h3:(aU P e)[c]? =some t) (h4:P.underlying t=some (.slice ea)) (h5:cf P e x c= .list ea dh) (h6:0<cap)
  (h7:Ca[i*P.cellsOf e+c]? =some (.slice (some ⟨b2,0,none⟩) len cap)) (h8:At P w b2 ea dh r b1 e1 l) (hl:l'.length=l.length)
  (hw:w'.heap[b]? =w.heap[b]?) (hI: ∀k j,I k j→w'.cell? ⟨k,j,none⟩=w.cell? ⟨k,j,none⟩) (ky: ∀k,bsize w' k=bsize w k):iS P w' I b e (setRow P l' e es ((i,c)::r)):=by
 have o0:(parts P e x)[c]? =some (.list ea dh):=by rw[rW h3,h5,rX h4]
 rw[Dc h2 o0];have hR0:=hR;obtain ⟨ok,⟨zl,_,c1,c0,c2,c3⟩,nI⟩:=hR;rw[h1] at c1;cases c1;refine ⟨ok,⟨Ca,_,hw.trans h1,c0,by simpa using c2,fun i' j x' t' k1 k2 k3=> ?_⟩,nI⟩;obtain ⟨x0,y1,y2⟩:=G4 hR0 h2 h3 k1 k2;obtain ⟨v,m1,m2⟩:=c3 i' j x0 t' y1 k2 k3;refine ⟨v,m1,?_⟩;have m3:pW P w' I t' v (cf P e x0 j):=m2.mono (fun _ _ h=>h) hI fun b' _ _ _ _=>ky b';rw[y2];by_cases jO:i'=i∧j=c
 ·rw[aB jO];obtain ⟨rfl,rfl⟩:=jO;rw[h2] at y1;cases y1;rw[h3] at k2;cases k2;rw[h5] at m3;have hlen:=RT (l':=l') h8 hl;rw[h7] at m1;cases m1;generalize hy:V.list ea dh=y at m3;cases m3 with
  | gB a p=>unfold dX at a;rw[h4] at a;cases a
  | emp a=>exact absurd h6 (nu _)
  | row a b c d e=>
   cases hy;rw[←hlen];exact .row a b c (by omega) e
 ·rw[ax jO];exact m3
theorem alC (S:aA P w I β hp B M w0) {id b b1 i c:Nat} {e0 e1:TypeId} {es l l':List V} {vers vers':List Nat} {path:Path} (K:Path→Nat→TypeId→List V→Prop)
  (ae:hp id=some (.nest e0 es vers)) (hb:β id=some b) (ha:At P w b e0 es path b1 e1 l) (hl:l'.length=l.length)
  (hw: ∀k,k≠b1→w'.heap[k]? =w.heap[k]?) (ky: ∀k,bsize w' k=bsize w k) (bc:w'.heap.size=w.heap.size) (nD:w'.os=w.os∧w'.output=w.output)
  (alD:iS P w' I b1 e1 l')
  (aai: ∀a r b' e' m,At P w' b1 e1 l' (a::r) b' e' m→b'≠b1∧(At P w b1 e1 l (a::r) b' e' m∨(a=(i,c)∧K r b' e' m)))
  (hK: ∀r b' e' m,K r b' e' m→iS P w I b' e' m∧(M b'∨B≤b')∧(∀aH cD,hp aH=some cD→¬bf P w (β aH) cD b'))
  (uH: ∀r1 r2 b' e1 m1 e2 m2,K r1 b' e1 m1→K r2 b' e2 m2→r1=r2)
  (sX:vers'.length=vers.length) (Fm: ∀k,bz vers k≤bz vers' k)
  (yk: ∀(r:Path) i' c' t' v ea l0,(path++r).length<vers.length→bz vers' (path++r).length=bz vers (path++r).length→P.underlying t'=some (.slice ea)→qM P w b1 e1 l r i' c' t' v (.list ea l0)→
   ∃Dd,Dd.length=l0.length∧qM P w' b1 e1 l' r i' c' t' v (.list ea Dd)):
  Le P w I β hp w' I β (ao hp id (some (.nest e0 (setRow P l' e0 es path) vers')))∧aA P w' I β (ao hp id (some (.nest e0 (setRow P l' e0 es path) vers'))) B M w0:=by
 have hr:=S.h.rel id _ ae;rw[hb] at hr;cases hr with
 | ji au=>cases au
 | nest au cW mn=>
 cases au;have nZ: ∀q e' m,At P w b e0 es q b1 e' m→q=path:=fun q e' m h=>mn _ _ _ _ _ _ _ h ha;have di: ∀j,¬I b1 j:=(cW _ _ _ _ ha).nI;have yl: ∀k j,I k j→w'.cell? ⟨k,j,none⟩=w.cell? ⟨k,j,none⟩:=fun k j hk=>World.cell?_of_block (hw k (fun e=>di j (e▸hk)));have aaj:bf P w (β id) (.nest e0 es vers) b1:= .row hb ha;have same: ∀{ar cD b'},ar≠id→hp ar=some cD→bf P w (β ar) cD b'→w'.heap[b']? =w.heap[b']? :=
  fun hi h ho=>hw _ fun e=>hi (S.h.inj _ _ _ _ b1 h ae (e▸ho) aaj)
 have De:(setRow P l' e0 es path).length=es.length:=RT ha hl;have yj:=At.alA (I:=I) (w':=w') (l':=l') ha hw hl cW nZ;have RZ: ∀q b' e' m,At P w' b e0 (setRow P l' e0 es path) q b' e' m→(∃e2 m2,At P w b e0 es q b' e2 m2)∨∃r,q=path++(i,c)::r∧K r b' e' m:=by
  intro q b' e' m h;rcases yj q b' e' m h with ⟨r,m0,z1,z2,z3⟩|⟨r,z1,z2,z3⟩|⟨z1,z2,z3,z4⟩
  ·exact .inl ⟨_,_,z2⟩
  ·cases r with
   | nil=>exact absurd rfl z1
   | cons a r=>
    obtain ⟨y1,y2⟩:=aai a r b' e' m z3;rcases y2 with y2|⟨rfl,y2⟩
    ·exact .inl ⟨_,_,by rw[z2];exact ha.app y2⟩
    ·exact .inr ⟨r,z2,y2⟩
  ·exact .inl ⟨_,_,z1⟩
 have s9: ∀b',bf P w' (β id) (.nest e0 (setRow P l' e0 es path) vers') b'→bf P w (β id) (.nest e0 es vers) b'∨((M b'∨B≤b')∧∀aH cD,hp aH=some cD→¬bf P w (β aH) cD b'):=by
  intro b' ho;cases ho with
  | root _ h=>exact .inl (.root (by simp) h)
  | row h1 h2=>
   rw[hb] at h1;cases h1;rcases RZ _ _ _ _ h2 with ⟨e2,m2,h⟩|⟨r,_,h⟩
   ·exact .inl (.row hb h)
   ·exact .inr (hK _ _ _ _ h).2
 have hle:Le P w I β hp w' I β (ao hp id (some (.nest e0 (setRow P l' e0 es path) vers'))):=by
  refine ⟨fun _ _ h=>h,yl,fun ar cD h=> ?_,fun ar cD kX b' h h3 hd3 au=>ky b',fun ar e bW vs e' aK Ff b2 q i' c' t v ea l0 h h' eR aP hv ht hc=> ?_⟩
  ·by_cases hi:ar=id
   ·subst hi;rw[ae] at h;cases h;exact ⟨_,bJ _ _ _,⟨rfl,De.symm,sX.symm,Fm⟩,fun _=>rfl⟩
   ·exact ⟨cD,by rw[cB _ _ hi];exact h,ah.le_refl _,fun _=>rfl⟩
  ·by_cases hi:ar=id
   ·subst hi;rw[ae] at h;cases h;rw[bJ] at h';cases h';rw[hb] at eR;cases eR;obtain ⟨b',e',m,Ca,T,f,x,k1,k2,k3,k4,k5,k6⟩:=hc;rcases At.yj (I:=I) (w':=w') (l':=l') ha hw hl cW nZ q b' e' m k1 with ⟨r,z1,z2,e2,m2,z3,_⟩|⟨r,z1,z2,z3,z4⟩|⟨z1,z2,z3,z4⟩
    ·cases r with
     | nil=>
      cases z3;rw[ub] at z1;subst z1;obtain ⟨w1,w2,w3⟩:=ha.fun k1;subst w2;subst w3;obtain ⟨Dd,g1,g2⟩:=yk [] i' c' t v ea l0 (by simpa using aP) (by simpa using hv) ht ⟨_,_,_,Ca,T,f,x,.here,k2,k3,k4,k5,k6⟩;refine ⟨Dd,g1,?_⟩;obtain ⟨b5,e5,kH,C5,T5,f5,x5,q1,q2,q3,q4,q5,q6⟩:=g2;cases q1;exact ⟨_,_,_,C5,T5,f5,x5,z2,q2,q3,q4,q5,q6⟩
     | cons a r=>
      cases z3 with
      | @step _ i2 c2 b3 len cap _ _ t3 R0 _ _ jt _ r Ca3 T3 f3 x3 g1 g2 g3 g4 g5 g6 g7 g8=>
       have au:b'≠b1:=by
        intro e;subst e;have:=nZ _ _ _ k1;rw[this] at z1;have:=congrArg List.length z1;simp at this
       have o0:(parts P e' x3)[c2]? =some (.list R0 jt):=by rw[rW g3,g5,rX g4]
       rw[Dc g2 o0] at z2;have G2: ∃x2,(m.set i2 (dv P e' ((parts P e' x3).set c2 (.list R0 (setRow P l' R0 jt r)))))[i']? =some x2:=by
        have:i'<m.length:=(cz.1 k3).1;exact ⟨_,bY (by rw[pF];exact this)⟩
       obtain ⟨x2,lj⟩:=G2;obtain ⟨x0,y1,y2⟩:=G4 (cW _ _ _ _ k1) g2 g3 lj k4;rw[k3] at y1;cases y1;have g8l:=(ha.fun ((k1.app (.step g1 g2 g3 g4 g5 g6 g7 g8)) |> fun h=>by rw[z1];exact h)).2.2;by_cases jO:i'=i2∧c'=c2
       ·rw[aB jO] at y2;obtain ⟨rfl,rfl⟩:=jO;rw[k3] at g2;cases g2;rw[k5] at g5;cases g5;exact ⟨_,RT g8 (by rw[hl,g8l]),b',e',_,Ca,T,f,x2,z2,(hw b' au).trans k2,lj,k4,y2,k6⟩
       ·rw[ax jO,k5] at y2;exact ⟨l0,rfl,b',e',_,Ca,T,f,x2,z2,(hw b' au).trans k2,lj,k4,y2,k6⟩
    ·subst z2;obtain ⟨Dd,g1,g2⟩:=yk r i' c' t v ea l0 aP hv ht ⟨_,_,_,Ca,T,f,x,z3,k2,k3,k4,k5,k6⟩;obtain ⟨b5,e5,kH,C5,T5,f5,x5,q1,q2,q3,q4,q5,q6⟩:=g2;exact ⟨Dd,g1,_,_,_,C5,T5,f5,x5,z4 _ _ _ q1,q2,q3,q4,q5,q6⟩
    ·exact ⟨l0,rfl,b',e',m,Ca,T,f,x,z1,(hw b' z2).trans k2,k3,k4,k5,k6⟩
   ·rw[cB _ _ hi,h] at h';cases h';exact ⟨l0,rfl,hc.mono fun _ _ _ _ hh=>same hi h (.row eR hh)⟩
 have hold: ∀{ar cD b'},ao hp id (some (.nest e0 (setRow P l' e0 es path) vers')) ar=some cD→bf P w' (β ar) cD b'→
   (∃kX,hp ar=some kX∧bf P w (β ar) kX b')∨(ar=id∧(M b'∨B≤b')∧∀aH cD,hp aH=some cD→¬bf P w (β aH) cD b'):=by
  intro ar cD b' h ho;by_cases hi:ar=id
  ·subst hi;rw[bJ] at h;cases h;rcases s9 b' ho with h|h
   ·exact .inl ⟨_,ae,h⟩
   ·exact .inr ⟨rfl,h⟩
  ·rw[cB _ _ hi] at h;exact .inl ⟨cD,h,ho.mono fun b2 s7=>same hi h s7⟩
 refine ⟨hle,⟨⟨fun ar cD h=> ?_,fun i1 i2 b1 b2 b' h1 h2 o1 o2=> ?_,fun ar cD b' h ho=> ?_,fun b' h=>by rw[bc];exact S.h.jY b' h⟩,fun b' h1 h2=> ?_,by rw[bc];exact S.size,S.new,⟨nD.1.trans S.io.1,nD.2.trans S.io.2⟩⟩⟩
 ·by_cases hi:ar=id
  ·subst hi;rw[bJ] at h;cases h;rw[hb];refine .nest rfl (fun q b' e' m h=> ?_) (fun q1 q2 b' f1 m1 f2 m2 h1 h2=> ?_)
   ·rcases yj q b' e' m h with ⟨r,m0,z1,z2,z3⟩|⟨r,z1,z2,z3⟩|⟨z1,z2,z3,z4⟩
    ·subst z3;subst z1;obtain ⟨b5,e5,m5,g1,g2⟩:=At.split ha;obtain ⟨w1,w2,w3⟩:=g1.fun z2;subst w1;subst w2;subst w3;cases r with
     | nil=>cases g2;exact alD
     | cons a r=>
      cases g2 with
      | step g1' g2 g3 g4 g5 g6 g7 g8=>
       refine (cW _ _ _ _ z2).above g1' g2 g3 g4 g5 g6 g7 g8 hl (hw _ fun e=> ?_) yl ky;subst e;have:=nZ _ _ _ z2;have:=congrArg List.length this;simp at this
    ·cases r with
     | nil=>exact absurd rfl z1
     | cons a r=>
      obtain ⟨y1,y2⟩:=aai a r b' e' m z3;rcases y2 with y2|⟨rfl,y2⟩
      ·exact (cW _ _ _ _ (ha.app y2)).cM (hw _ y1) yl ky
      ·exact (hK _ _ _ _ y2).1.cM (hw _ y1) yl ky
    ·exact (cW _ _ _ _ z1).cM (hw _ z2) yl ky
   ·rcases RZ _ _ _ _ h1 with ⟨e2,m2',x1⟩|⟨r1,x1,x2⟩<;>rcases RZ _ _ _ _ h2 with ⟨e3,m3',y1⟩|⟨r2,y1,y2⟩
    ·exact mn _ _ _ _ _ _ _ x1 y1
    ·exact absurd (bf.row hb x1) ((hK _ _ _ _ y2).2.2 _ _ ae)
    ·exact absurd (bf.row hb y1) ((hK _ _ _ _ x2).2.2 _ _ ae)
    ·rw[x1,y1,uH _ _ _ _ _ _ _ x2 y2]
  ·rw[cB _ _ hi] at h;exact (S.h.rel ar cD h).mono hle fun b' ho=>⟨same hi h ho,fun _ h=>h⟩
 ·rcases hold h1 o1 with ⟨c1,x1,y1⟩|⟨rfl,x1,y1⟩<;>rcases hold h2 o2 with ⟨c2,x2,y2⟩|⟨rfl,x2,y2⟩
  ·exact S.h.inj i1 i2 c1 c2 b' x1 x2 y1 y2
  ·exact absurd y1 (y2 _ _ x1)
  ·exact absurd y2 (y1 _ _ x2)
  ·rfl
 ·rcases hold h ho with ⟨c1,x1,y1⟩|⟨rfl,x1,y1⟩
  ·exact S.h.own ar c1 b' x1 y1
  ·exact x1
 ·rw[hw b' fun e=> ?_]
  ·exact S.cM b' h1 h2
  ·subst e;rcases S.h.own id _ b' ae aaj with h|h
   ·exact h2 h
   ·omega
theorem alE {i i' n c c' k:Nat} (hc':c'<n) (rh:c+k≤n) (h1:i*n+c≤i'*n+c') (h2:i'*n+c'<i*n+c+k):i'=i∧c≤c'∧c'<c+k:=by
 have:i'=i:=by
  rcases Nat.lt_trichotomy i' i with h|h|h
  ·have:=eI n (Nat.succ_le_of_lt h);rw[EG] at this;omega
  ·exact h
  ·have:=eI n (Nat.succ_le_of_lt h);rw[EG] at this;omega
 subst this;omega
theorem alF {b1 i c:Nat} {e1 T:TypeId} {l cs:List V} {x0:V} {Ca:Array Value} {vs:List Value} (hR:iS P w I b1 e1 l) (hh:w.heap[b1]? =some (.cells Ca T (0,0))) (hs:l.length*P.cellsOf e1≤Ca.size)
  (hx:l[i]? =some x0) (hk:cs.length=vs.length) (rh:c+cs.length≤P.cellsOf e1):
  ∀{i' c':Nat} {x':V} {t':TypeId},(l.set i (dv P e1 (jE (parts P e1 x0) c cs)))[i']? =some x'→(aU P e1)[c']? =some t'→
   ∃x1,l[i']? =some x1∧((∃j y u,i'=i∧c'=c+j∧cs[j]? =some y∧vs[j]? =some u∧cf P e1 x' c'=y∧(Ca.toList.take (i*P.cellsOf e1+c)++(vs++Ca.toList.drop (i*P.cellsOf e1+c+vs.length))).toArray[i'*P.cellsOf e1+c']? =some u)∨
    (cf P e1 x' c'=cf P e1 x1 c'∧(Ca.toList.take (i*P.cellsOf e1+c)++(vs++Ca.toList.drop (i*P.cellsOf e1+c+vs.length))).toArray[i'*P.cellsOf e1+c']? =Ca[i'*P.cellsOf e1+c']?)):=by
 intro i' c' x' t' dd gD;have p5:i<l.length:=(cz.1 hx).1;have MC:c'<P.cellsOf e1:=by rw[←fH hR.ok];exact (cz.1 gD).1
 have eL:(parts P e1 x0).length=P.cellsOf e1:=by rw[Co];exact fH hR.ok
 have hbound:i*P.cellsOf e1+c+vs.length≤Ca.toList.length:=by
  have:(i+1)*P.cellsOf e1≤l.length*P.cellsOf e1:=eI _ p5;rw[jn] at this;simp only[Array.length_toList];omega
 simp only[pE];rw[rY _ _ _ _ hbound];by_cases na:i'=i∧c≤c'∧c'<c+cs.length
 ·obtain ⟨rfl,h1,h2⟩:=na;rw[qI p5] at dd;cases dd;refine ⟨x0,hx,.inl ?_⟩;rw[dq,dp,show i'*P.cellsOf e1+c'-(i'*P.cellsOf e1+c)=c'-c by omega];have hy:cs[c'-c]? =some cs[c'-c]:=bY (by omega);have hu:vs[c'-c]? =some vs[c'-c]:=bY (by omega);refine ⟨c'-c,_,_,rfl,by omega,hy,hu,?_,hu⟩;refine vW ?_ gD;unfold jE;rw[rY _ _ _ _ (by omega),dq,dp];exact hy
 ·have j6: ¬(i*P.cellsOf e1+c≤i'*P.cellsOf e1+c'∧i'*P.cellsOf e1+c'<i*P.cellsOf e1+c+vs.length):=fun h=>na (alE MC rh h.1 (by omega));have hg:(if i'*P.cellsOf e1+c'<i*P.cellsOf e1+c then Ca.toList[i'*P.cellsOf e1+c']? else if i'*P.cellsOf e1+c'<i*P.cellsOf e1+c+vs.length then vs[i'*P.cellsOf e1+c'-(i*P.cellsOf e1+c)]? else Ca.toList[i'*P.cellsOf e1+c']?)=Ca[i'*P.cellsOf e1+c']? :=by
   by_cases h1:i'*P.cellsOf e1+c'<i*P.cellsOf e1+c
   ·rw[aB h1];simp
   ·rw[ax h1,dq];simp
  by_cases hi:i'=i
  ·subst hi;rw[qI p5] at dd;cases dd;refine ⟨x0,hx,.inr ⟨?_,hg⟩⟩;have h1:(jE (parts P e1 x0) c cs)[c']? =some (ig P t' (cf P e1 x0 c')):=by
    unfold jE;rw[rY _ _ _ _ (by omega)];by_cases h1:c'<c
    ·rw[aB h1];exact rW gD
    ·rw[ax h1,dq];exact rW gD
   rw[vW h1 gD];obtain ⟨zl,_,_,_,_,wk⟩:=hR.cells;obtain ⟨v,_,ho⟩:=wk i' c' x0 t' hx gD MC;exact ho.xS
  ·rw[xp (fun h=>hi h.symm)] at dd;exact ⟨x',dd,.inr ⟨rfl,hg⟩⟩
theorem alG {w:World} {b1:Nat} {Ca Cb:Array Value} {T:TypeId} (hh:w.heap[b1]? =some (.cells Ca T (0,0))) (hs:Cb.size=Ca.size) (k:Nat):bsize (w.setRow b1 Cb) k=bsize w k:=by
 by_cases hk:k=b1
 ·subst hk;rw[lL (setRow_heap w k Ca Cb T (0,0) hh),lL hh,hs]
 ·simp only[bsize,setRow_other w b1 k Cb hk]
theorem MD (S:aA P w I β hp B M w0) {t:TypeId} {v:Value} {id b b1 i c:Nat} {e0 e1:TypeId} {es l cs:List V} {vers vers':List Nat} {path:Path} {x0:V} (K:Path→Nat→TypeId→List V→Prop)
  (ae:hp id=some (.nest e0 es vers)) (hb:β id=some b) (ha:At P w b e0 es path b1 e1 l) (ht:pL P t=true) (hn:P.cellsOf t=v.cells.size)
  (hx:l[i]? =some x0) (hk:cs.length=v.cells.size) (rh:c+cs.length≤P.cellsOf e1) (h1: ∀u∈v.cells.toList,u.oneCell'=true)
  (dG: ∀(j:Nat) y u t',cs[j]? =some y→v.cells.toList[j]? =some u→(aU P e1)[c+j]? =some t'→pW P w I t' u y)
  (alH: ∀(j:Nat) y u t' e3 jt b3 len cap,cs[j]? =some y→v.cells.toList[j]? =some u→(aU P e1)[c+j]? =some t'→P.underlying t'=some (.slice e3)→y= .list e3 jt→0<cap→
   u= .slice (some ⟨b3,0,none⟩) len cap→j=0∧∀r b' e' m,At P w b3 e3 jt r b' e' m→b'≠b1∧K r b' e' m)
  (hK: ∀r b' e' m,K r b' e' m→iS P w I b' e' m∧(M b'∨B≤b')∧(∀aH cD,hp aH=some cD→¬bf P w (β aH) cD b'))
  (uH: ∀r1 r2 b' e1 m1 e2 m2,K r1 b' e1 m1→K r2 b' e2 m2→r1=r2)
  (sX:vers'.length=vers.length) (Fm: ∀k,bz vers k≤bz vers' k)
  (jk:(∀(j:Nat) t',j<cs.length→(aU P e1)[c+j]? =some t'→dX P t'=true)∨∀k,path.length≤k→k<vers.length→bz vers' k≠bz vers k):
  ∃w',(Instr.storeAt t (.pointer (some ⟨b1,i*P.cellsOf e1+c,none⟩)) v).run P w= .ok () w'∧
   Le P w I β hp w' I β (ao hp id (some (.nest e0 (setRow P (l.set i (dv P e1 (jE (parts P e1 x0) c cs))) e0 es path) vers')))∧
   aA P w' I β (ao hp id (some (.nest e0 (setRow P (l.set i (dv P e1 (jE (parts P e1 x0) c cs))) e0 es path) vers'))) B M w0:=by
 have hR:=S.rows ae hb ha;obtain ⟨Ca,T,hh,hL,hs,wk⟩:=hR.cells;have p5:i<l.length:=(cz.1 hx).1;have dK:cs.length=v.cells.toList.length:=by simpa using hk
 have QI:i*P.cellsOf e1+c+v.cells.size≤Ca.size:=by
  have:(i+1)*P.cellsOf e1≤l.length*P.cellsOf e1:=eI _ p5;rw[jn] at this;omega
 have cP:=K4 (t:=t) (o:=i*P.cellsOf e1+c) (v:=v) ht hn hh QI h1;have hlen:(Ca.toList.take (i*P.cellsOf e1+c)++(v.cells.toList++Ca.toList.drop (i*P.cellsOf e1+c+v.cells.toList.length))).length=Ca.size:=by
  rw[FA _ _ _ (by simpa using QI)];simp
 have cn:= @alF P w I b1 i c e1 T l cs x0 Ca v.cells.toList hR hh hs hx dK rh;have di:=hR.nI;have hr:=S.h.rel id _ ae;rw[hb] at hr;cases hr with
 | ji au=>cases au
 | nest au cW mn=>
 cases au;have nZ: ∀q e' m,At P w b1 e1 l q b1 e' m→q=[]:=by
  intro q e' m h;have:=mn _ _ _ _ _ _ _ (ha.app h) ha;simpa using this
 have wm:=setRow_heap w b1 Ca (Ca.toList.take (i*P.cellsOf e1+c)++(v.cells.toList++Ca.toList.drop (i*P.cellsOf e1+c+v.cells.toList.length))).toArray T (0,0) hh;have ky:=alG hh (Cb:=(Ca.toList.take (i*P.cellsOf e1+c)++(v.cells.toList++Ca.toList.drop (i*P.cellsOf e1+c+v.cells.toList.length))).toArray) (by simpa using hlen);have uI:=fun k (hk:k≠b1)=>setRow_other w b1 k (Ca.toList.take (i*P.cellsOf e1+c)++(v.cells.toList++Ca.toList.drop (i*P.cellsOf e1+c+v.cells.toList.length))).toArray hk;generalize ME:(Ca.toList.take (i*P.cellsOf e1+c)++(v.cells.toList++Ca.toList.drop (i*P.cellsOf e1+c+v.cells.toList.length))).toArray=Cb at*
 generalize hL':l.set i (dv P e1 (jE (parts P e1 x0) c cs))=l' at*
 have oB:l'.length=l.length:=by rw[←hL'];simp
 have yl: ∀k j,I k j→(w.setRow b1 Cb).cell? ⟨k,j,none⟩=w.cell? ⟨k,j,none⟩:=fun k j hk=>World.cell?_of_block (uI k (fun e=>di j (e▸hk)));refine ⟨_,cP,alC S (i:=i) (c:=c) K ae hb ha oB uI ky (by simp) ⟨rfl,rfl⟩ ?_ ?_ hK uH sX Fm ?_⟩
 ·refine ⟨hR.ok,⟨Cb,T,wm,(show Cb.size=Ca.size by rw[←ME];simpa using hlen)▸hL,by rw[oB,←ME];simp only[sJ];omega,fun i' j x' t' k1 k2 k3=> ?_⟩,di⟩;obtain ⟨x1,y1,y2⟩:=cn k1 k2;rcases y2 with ⟨jj,y,u,rfl,rfl,z1,z2,z3,z4⟩|⟨z3,z4⟩
  ·exact ⟨u,z4,by rw[z3];exact (dG jj y u t' z1 z2 k2).mono (fun _ _ h=>h) yl fun _ _ _ _ _=>ky _⟩
  ·obtain ⟨v1,m1,m2⟩:=wk i' j x1 t' y1 k2 k3;exact ⟨v1,z4.trans m1,by rw[z3];exact m2.mono (fun _ _ h=>h) yl fun _ _ _ _ _=>ky _⟩
 ·intro a r b' e' m h;obtain ⟨i',c'⟩:=a;cases h with
  | step k1 k2 k3 k4 k5 k6 k7 k8=>
   rw[wm] at k1;cases k1;obtain ⟨x1,y1,y2⟩:=cn k2 k3;rcases y2 with ⟨jj,y,u,rfl,rfl,z1,z2,z3,z4⟩|⟨z3,z4⟩
   ·rw[k7] at z4;obtain ⟨g1,g2⟩:=alH jj y u _ _ _ _ _ _ z1 z2 k3 k4 (z3.symm.trans k5) k6 (dN z4).symm;subst g1;have lV:=k8.xK (w:=w) fun q2 b5 e5 kH hq=>uI b5 (g2 _ _ _ _ hq).1;exact ⟨(g2 _ _ _ _ lV).1,.inr ⟨rfl,(g2 _ _ _ _ lV).2⟩⟩
   ·rw[k5] at z3;rw[k7] at z4;have bp: ∀q2 b5 e5 kH,At P w _ _ _ q2 b5 e5 kH→b5≠b1:=fun q2 b5 e5 kH hq zY=>by
     subst zY;have:=nZ _ _ _ (.step hh y1 k3 k4 z3.symm k6 z4.symm hq);cases this
    have lV:=k8.xK (w:=w) fun q2 b5 e5 kH hq=>uI b5 (bp q2 b5 e5 kH hq);exact ⟨bp _ _ _ _ lV,.inl (.step hh y1 k3 k4 z3.symm k6 z4.symm lV)⟩
 ·intro r i' c' t' v' ea l0 aP R3 qm hc;rcases jk with jk|jk
  ·
   have fo: ∀{i' c' x1 t' e3},l[i']? =some x1→(aU P e1)[c']? =some t'→P.underlying t'=some (.slice e3)→∃x',l'[i']? =some x'∧cf P e1 x' c'=cf P e1 x1 c'∧Cb[i'*P.cellsOf e1+c']? =Ca[i'*P.cellsOf e1+c']? :=by
    intro i' c' x1 t' e3 g1 g2 g3;have aP:i'<l'.length:=by rw[oB];exact (cz.1 g1).1
    have dd:=bY aP;obtain ⟨x2,y1,y2⟩:=cn dd g2;rw[g1] at y1;cases y1;rcases y2 with ⟨jj,y,u,rfl,rfl,z1,z2,z3,z4⟩|⟨z3,z4⟩
    ·have:=jk jj t' (cz.1 z1).1 g2;unfold dX at this;rw[g3] at this;cases this
    ·exact ⟨_,dd,z3,z4⟩
   obtain ⟨b',e',m,C5,T,f,x,k1,k2,k3,k4,k5,k6⟩:=hc;refine ⟨l0,rfl,?_⟩;cases k1 with
   | here=>
    rw[hh] at k2;cases k2;obtain ⟨x',g1,g2,g3⟩:=fo k3 k4 qm;exact ⟨_,_,l',Cb,_,_,x',.here,wm,g1,k4,g2.trans k5,g3.trans k6⟩
   | step q1 q2 q3 q4 q5 q6 q7 q8=>
    have q1':=q1;rw[hh] at q1;cases q1;obtain ⟨x',g1,g2,g3⟩:=fo q2 q3 q4;have bp: ∀q2 b5 e5 kH,At P w _ _ _ q2 b5 e5 kH→b5≠b1:=fun q9 b5 e5 kH hq zY=>by
     subst zY;have:=nZ _ _ _ (.step hh q2 q3 q4 q5 q6 q7 hq);cases this
    have lV:=q8.mono (w':=w.setRow b1 Cb) fun q2 b5 e5 kH hq=>uI b5 (bp q2 b5 e5 kH hq);exact ⟨b',e',m,C5,T,f,x,.step wm g1 q3 q4 (g2.trans q5) q6 (g3.trans q7) lV,(uI _ (bp _ _ _ _ q8)).trans k2,k3,k4,k5,k6⟩
  ·exact absurd R3 (jk _ (by simp) aP)
theorem G6: ∀(vs:List Nat) (d k:Nat),d≤k→k<vs.length→bz (raise d vs) k=bz vs k+1
 | [],d,k,_,h=>by simp at h
 | v::vs,0,0,_,_=>by simp[raise,bz]
 | v::vs,0,k+1,_,h=>by
  have:=G6 vs 0 k (mi _) (by simpa using h);simpa[raise,bz] using this
 | v::vs,d+1,0,h,_=>by omega
 | v::vs,d+1,k+1,h,h2=>by
  have:=G6 vs d k (by omega) (by simpa using h2);simpa[raise,bz] using this
theorem MF: ∀(vs:List Nat) (d:Nat),(raise d vs).length=vs.length
 | [],0=>rfl
 | [],d+1=>rfl
 | v::vs,0=>by simp[raise]
 | v::vs,d+1=>by simp[raise,MF vs d]
theorem G7: ∀(vs:List Nat) (d k:Nat),bz vs k≤bz (raise d vs) k
 | [],0,k=>by simp[raise,bz]
 | [],d+1,k=>by simp[raise,bz]
 | v::vs,0,0=>by simp[raise,bz]
 | v::vs,0,k+1=>by
  have:=G7 vs 0 k;simpa[raise,bz] using this
 | v::vs,d+1,0=>by simp[raise,bz]
 | v::vs,d+1,k+1=>by
  have:=G7 vs d k;simpa[raise,bz] using this
theorem alI {t:TypeId} {v:Value} {x:V} (hv:aj P w I β hp v x) (h:fT P t x=true) (hs:dX P t=true):Pure P w I t v x:=by
 unfold dX at hs;unfold fT at h;cases hu:P.underlying t with
 | none=>rw[hu] at hs;cases hs
 | some d=>
  rw[hu] at hs h;cases d<;>simp only at hs<;>first|(cases hs;done)|skip
  all_goals cases x<;>simp only at h<;>first|(cases h;done)|skip
  ·rw[hv.nE];exact .bool hu
  ·simp only[jU] at h;subst h;rw[hv.fW];exact .int hu
  ·obtain ⟨s,rfl,hl⟩:=hv.oZ;exact .str hu hl
def R4 (P:Program) (w:World) (I:Nat→Nat→Prop) (o:Option Nat) (blk:ah) (b2:Nat) (e2:TypeId) (bW:List V):Prop:=
 (∀r b' e' m,At P w b2 e2 bW r b' e' m→iS P w I b' e' m∧bf P w o blk b')∧∀r1 r2 b' e1 m1 MG m2,At P w b2 e2 bW r1 b' e1 m1→At P w b2 e2 bW r2 b' MG m2→r1=r2
theorem R5 (S:aA P w I β hp B M w0) {aH b2:Nat} {e2:TypeId} {bW:List V} (ae:hp aH=some (.arr e2 bW false)) (hb:β aH=some b2) (hs:(flat P e2).all (dX P)=true):
  R4 P w I (β aH) (.arr e2 bW false) b2 e2 bW:=by
 have only: ∀r b' e' m,At P w b2 e2 bW r b' e' m→r=[]:=by
  intro r b' e' m h;cases h with
  | here=>rfl
  | step h1 h2 h3 h4 h5 h6 h7 h8=>
   rw[sZ] at h3;have:=ib.1 hs _ (mN h3);unfold dX at this;rw[h4] at this;cases this
 refine ⟨fun r b' e' m h=> ?_,fun r1 r2 b' e1 m1 MG m2 h1 h2=>by rw[only _ _ _ _ h1,only _ _ _ _ h2]⟩;have:=only _ _ _ _ h;subst this;cases h;have hr:=S.h.rel aH _ ae;cases hr with
 | eF au=>rw[hb] at au;cases au
 | arr hL aq au hh bc hf fN hx=>
  rw[hb] at au;cases au;refine ⟨⟨aq,⟨_,_,hh,hL,bc,fun i j x t' k1 k2 k3=> ?_⟩,fN rfl⟩,.root (by simp) hb⟩;obtain ⟨v,m1,m2⟩:=hx i j x t' k1 k2 k3;refine ⟨v,m1,.gB ?_ m2⟩;rw[sZ] at k2;exact ib.1 hs _ (mN k2)
theorem alJ (S:aA P w I β hp B M w0) {aH b2:Nat} {e2:TypeId} {bW:List V} {sW:List Nat} (ae:hp aH=some (.nest e2 bW sW)) (hb:β aH=some b2):
  R4 P w I (β aH) (.nest e2 bW sW) b2 e2 bW:=by
 have hr:=S.h.rel aH _ ae;cases hr with
 | ji au=>rw[hb] at au;cases au
 | nest au cW mn=>
  rw[hb] at au;cases au;exact ⟨fun r b' e' m h=>⟨cW _ _ _ _ h,.row hb h⟩,fun r1 r2 b' e1 m1 MG m2 h1 h2=>mn _ _ _ _ _ _ _ h1 h2⟩
theorem aak {c:Nat} {e1 e2 t':TypeId} (h:(((flat P e1).drop c).take 1).all (fun u=>match P.underlying u with|some (.slice e3)=>Nat.beq e2 e3|_=>false)=true) (ht:(aU P e1)[c]? =some t'):
  P.underlying t'=some (.slice e2):=by
 rw[sZ] at ht;have hm:t'∈((flat P e1).drop c).take 1:=by
  refine mN (i:=0) ?_;rw[jB (by omega),rM];simpa using ht
 have:=ib.1 h _ hm;split at this
 ·rename_i e3 hu;rw[aL] at this;rw[hu,this]
 ·cases this
theorem aal (S:aA P w I β hp B M w0) {t:TypeId} {v:Value} {id aH b b1 i c:Nat} {e0 e1 e2:TypeId} {es l bW:List V} {vers:List Nat} {path:Path} {x0:V} {cD:ah}
  (ae:hp id=some (.nest e0 es vers)) (hb:β id=some b) (ha:At P w b e0 es path b1 e1 l) (ht:pL P t=true) (hn:P.cellsOf t=1)
  (hx:l[i]? =some x0) (rh:c+1≤P.cellsOf e1) (G8:(((flat P e1).drop c).take 1).all (fun u=>match P.underlying u with|some (.slice e3)=>Nat.beq e2 e3|_=>false)=true)
  (dm:hp aH=some cD) (bp:id≠aH)
  (hv:((∃a,v= .slice a 0 0)∧bW=[])∨∃b2 cap,v= .slice (some ⟨b2,0,none⟩) bW.length cap∧cap*P.cellsOf e2=bsize w b2∧bW.length≤cap∧cap≤maxLen∧R4 P w I (β aH) cD b2 e2 bW):
  rZ P ((Instr.storeAt t (.pointer (some ⟨b1,i*P.cellsOf e1+c,none⟩)) v).run P w) w I β hp B M w0
   ⟨.undef,[(id,.nest e0 (setRow P (l.set i (dv P e1 (jE (parts P e1 x0) c [.list e2 bW]))) e0 es path) (raise path.length vers)),(aH,.dead)]⟩:=by
 obtain ⟨sj,S1⟩:=xP S dm;have ri:ao hp aH (some .dead) id=some (.nest e0 es vers):=by rw[cB _ _ bp];exact ae
 have wk:v.cells= #[v]:=by rcases hv with ⟨⟨_,rfl⟩,_⟩|⟨b2,cap,rfl,_⟩<;>rfl
 have tz:v.oneCell'=true:=by rcases hv with ⟨⟨_,rfl⟩,_⟩|⟨b2,cap,rfl,_⟩<;>rfl
 have free: ∀b',bf P w (β aH) cD b'→(M b'∨B≤b')∧∀dP kX,ao hp aH (some .dead) dP=some kX→¬bf P w (β dP) kX b':=by
  intro b' ho;refine ⟨S.h.own aH cD b' dm ho,fun dP kX h3 ho3=> ?_⟩;by_cases hi:dP=aH
  ·subst hi;rw[bJ] at h3;cases h3;exact ho3.alive rfl
  ·rw[cB _ _ hi] at h3;exact hi (S.h.inj _ _ _ _ b' h3 dm ho3 ho)
 have sk: ∀b',bf P w (β aH) cD b'→b'≠b1:=by
  intro b' ho e;subst e;exact bp (S.h.inj _ _ _ _ b' ae dm (.row hb ha) ho)
 have dG: ∀(j:Nat) y u t',[V.list e2 bW][j]? =some y→v.cells.toList[j]? =some u→(aU P e1)[c+j]? =some t'→j=0∧y= .list e2 bW∧u=v∧P.underlying t'=some (.slice e2):=by
  intro j y u t' k1 k2 k3;cases j with
  | succ j=>simp at k1
  | zero=>
   rw[wk] at k2;simp at k1 k2;exact ⟨rfl,k1.symm,k2.symm,aak G8 k3⟩
 rcases hv with ⟨⟨a0,rfl⟩,rfl⟩|⟨b2,cap,rfl,v1,v2,v3,v4⟩
 ·obtain ⟨w',r1,r2,r3⟩:=MD S1 (vers':=raise path.length vers) (fun _ _ _ _=>False) ri hb ha ht (v:= .slice a0 0 0) hn hx (cs:=[.list e2 []]) rfl rh (by rw[wk];simp[tz])
   (fun j y u t' k1 k2 k3=>by obtain ⟨rfl,rfl,rfl,k4⟩:=dG j y u t' k1 k2 k3;exact .emp k4)
   (fun j y u t' e3 jt b3 len cap k1 k2 k3 k4 k5 k6=>by obtain ⟨rfl,rfl,rfl,k7⟩:=dG j y u t' k1 k2 k3;intro k8;cases k8;exact absurd k6 (nu _))
   (fun _ _ _ _ h=>h.elim) (fun _ _ _ _ _ _ _ h=>h.elim) (MF _ _) (G7 _ _) (.inr fun k h1 h2=>by rw[G6 _ _ _ h1 h2];omega)
  exact ⟨w',I,β,r1,sj.trans r2,r3,rfl⟩
 ·obtain ⟨w',r1,r2,r3⟩:=MD S1 (vers':=raise path.length vers) (fun r b' e' m=>At P w b2 e2 bW r b' e' m) ri hb ha ht (v:= .slice (some ⟨b2,0,none⟩) bW.length cap) hn hx (cs:=[.list e2 bW]) rfl rh (by rw[wk];simp[tz])
   (fun j y u t' k1 k2 k3=>by
    obtain ⟨rfl,rfl,rfl,k4⟩:=dG j y u t' k1 k2 k3;rcases EM cap with h0|h0
    ·subst h0;obtain rfl:=vr.1 (xr.1 v2);exact .emp k4
    ·exact .row k4 h0 v1 v2 v3)
   (fun j y u t' e3 jt b3 len cap k1 k2 k3 k4 k5 k6 k8=>by
    obtain ⟨rfl,rfl,rfl,k7⟩:=dG j y u t' k1 k2 k3;cases k5;cases k8;exact ⟨rfl,fun r b' e' m h=>⟨sk _ (v4.1 _ _ _ _ h).2,h⟩⟩)
   (fun r b' e' m h=>⟨(v4.1 _ _ _ _ h).1,free _ (v4.1 _ _ _ _ h).2⟩) (fun r1 r2 b' e1 m1 MG m2 h1 h2=>v4.2 _ _ _ _ _ _ _ h1 h2) (MF _ _) (G7 _ _) (.inr fun k h1 h2=>by rw[G6 _ _ _ h1 h2];omega)
  exact ⟨w',I,β,r1,sj.trans r2,r3,rfl⟩
theorem aam (S:aA P w I β hp B M w0) {t:TypeId} {v:Value} {x:V} {r:R} {rd:List Nat} {id b b1 i c:Nat} {e0 e1:TypeId} {es l:List V} {vers:List Nat} {path:Path}
  (ht:pL P t=true) (hn:x.cells.length=P.cellsOf t) (hv:aj P w I β hp v x) (ae:hp id=some (.nest e0 es vers)) (hb:β id=some b) (ha:At P w b e0 es path b1 e1 l)
  (h:(Kt P t id e0 es vers path i c x).run C hp=some (r,rd)):rZ P ((Instr.storeAt t (.pointer (some ⟨b1,i*P.cellsOf e1+c,none⟩)) v).run P w) w I β hp B M w0 r:=by
 unfold Kt at h;obtain ⟨aP,h⟩:=aD h;rw[nt] at aP;obtain ⟨e',vv,q1,q2,h⟩:=Cg h;obtain ⟨p1,p2⟩:=Qv ha;rw[p1] at q1;cases q1;rw[p2] at q2;cases q2;simp only[V.toList] at h;obtain ⟨aq,h⟩:=aD h;obtain ⟨x0,wo,h⟩:=oz h;obtain ⟨rh,h⟩:=aD h;rw[gx] at rh;have slice: ∀e2,P.underlying t=some (.slice e2)→
   ((((Rd.az ((((flat P e1).drop c).take x.cells.length).all fun u=>match P.underlying u with|some (.slice e3)=>Nat.beq e2 e3|_=>false) (
     match (generalizing:=false) x with
     | .nilS e3=> .az (Nat.beq e2 e3) (.ret ⟨.undef,[(id,.nest e0 (setRow P (l.set i (dv P e1 (jE (parts P e1 x0) c [.list e2 []]))) e0 es path) (raise path.length vers))]⟩)
     | .whole e3 aH=> .get aH fun
      | some (.arr e4 bW false)=> .az (Nat.beq e2 e3&&(Nat.beq e3 e4&&(!(Nat.beq id aH)&&(flat P e2).all (dX P))))
        (.ret ⟨.undef,[(id,.nest e0 (setRow P (l.set i (dv P e1 (jE (parts P e1 x0) c [.list e2 bW]))) e0 es path) (raise path.length vers)),(aH,.dead)]⟩)
      | some (.nest e4 bW _)=> .az (Nat.beq e2 e3&&(Nat.beq e3 e4&& !(Nat.beq id aH)))
        (.ret ⟨.undef,[(id,.nest e0 (setRow P (l.set i (dv P e1 (jE (parts P e1 x0) c [.list e2 bW]))) e0 es path) (raise path.length vers)),(aH,.dead)]⟩)
      | _=> .fail
     | _=> .fail)):Rd R).run C hp))=some (r,rd)→
   rZ P ((Instr.storeAt t (.pointer (some ⟨b1,i*P.cellsOf e1+c,none⟩)) v).run P w) w I β hp B M w0 r:=by
  intro e2 hu h;obtain ⟨G8,h⟩:=aD h;cases x with
  | nilS e3=>
   obtain ⟨hc,h⟩:=aD h;obtain rfl:=aN h;rw[aL] at hc;subst hc;cases hv with
   | nilS=>
    obtain ⟨w',r1,r2,r3⟩:=MD S (v:= .slice none 0 0) (vers':=raise path.length vers) (fun _ _ _ _=>False) ae hb ha ht hn.symm wo (cs:=[.list e2 []]) rfl rh (by simp[Value.cells,Value.oneCell'])
     (fun j y u t' k1 k2 k3=>by
      cases j with
      | succ j=>simp at k1
      | zero=>
       simp[Value.cells] at k1 k2;subst k1;subst k2;exact .emp (aak G8 k3))
     (fun j y u t' e3 jt b3 len cap k1 k2 k3 k4 k5 k6=>by
      cases j with
      | succ j=>simp at k1
      | zero=>simp[Value.cells] at k2;subst k2;intro k8;cases k8)
     (fun _ _ _ _ h=>h.elim) (fun _ _ _ _ _ _ _ h=>h.elim) (MF _ _) (G7 _ _) (.inr fun k h1 h2=>by rw[G6 _ _ _ h1 h2];omega)
    exact ⟨w',I,β,r1,r2,r3,rfl⟩
  | whole e3 aH=>
   obtain ⟨l1,h⟩:=run_get h;cases dm:hp aH with
   | none=>rw[dm] at h;cases h
   | some cD=>
    rw[dm] at h;cases cD with
    | dead=>cases h
    | var _=>cases h
    | map _ _=>cases h
    | out _ _ _ _=>cases h
    | arr e4 bW fz=>
     cases fz with
     | true=>cases h
     | false=>
      obtain ⟨hc,h⟩:=aD h;obtain rfl:=aN h;simp only[aJ,aL,nw] at hc;obtain ⟨rfl,rfl,bp,jk⟩:=hc;have R6:id≠aH:=fun e=>by rw[e,ot] at bp;cases bp
      refine aal S ae hb ha ht hn.symm wo rh G8 dm R6 ?_;cases hv with
      | dZ bX=>rw[dm] at bX;cases bX
      | dV bX eR=>rw[dm] at bX;cases bX;exact .inl ⟨⟨_,rfl⟩,rfl⟩
      | whole bX eR bQ hle s6=>
       rw[dm] at bX;cases bX;exact .inr ⟨_,_,rfl,bQ,hle,s6,R5 S dm eR jk⟩
      | ee bX=>rw[dm] at bX;cases bX
      | fG bX=>rw[dm] at bX;cases bX
      | dO bX=>rw[dm] at bX;cases bX
    | nest e4 bW sW=>
     obtain ⟨hc,h⟩:=aD h;obtain rfl:=aN h;simp only[aJ,aL,nw] at hc;obtain ⟨rfl,rfl,bp⟩:=hc;have R6:id≠aH:=fun e=>by rw[e,ot] at bp;cases bp
     refine aal S ae hb ha ht hn.symm wo rh G8 dm R6 ?_;cases hv with
     | dZ bX=>rw[dm] at bX;cases bX
     | dV bX eR=>rw[dm] at bX;cases bX
     | whole bX=>rw[dm] at bX;cases bX
     | ee bX eR=>rw[dm] at bX;cases bX;exact .inl ⟨⟨_,rfl⟩,rfl⟩
     | fG bX=>rw[dm] at bX;cases bX
     | dO bX eR bQ hle s6=>
      rw[dm] at bX;cases bX;exact .inr ⟨_,_,rfl,bQ,hle,s6,alJ S dm eR⟩
  | _=>cases h
 have gB:(((Rd.az ((((flat P e1).drop c).take x.cells.length).all (dX P)&&vA P (((flat P e1).drop c).take x.cells.length) x.cells)
   (.ret ⟨.undef,[(id,.nest e0 (setRow P (l.set i (dv P e1 (jE (parts P e1 x0) c x.cells))) e0 es path) vers)]⟩)):Rd R).run C hp)=some (r,rd)→
   rZ P ((Instr.storeAt t (.pointer (some ⟨b1,i*P.cellsOf e1+c,none⟩)) v).run P w) w I β hp B M w0 r:=by
  intro h;obtain ⟨hc,h⟩:=aD h;obtain rfl:=aN h;simp only[aJ] at hc;obtain ⟨hs,ff⟩:=hc;obtain ⟨tl,tg⟩:=zr ff;have R7: ∀(j:Nat) t',j<x.cells.length→(aU P e1)[c+j]? =some t'→(((flat P e1).drop c).take x.cells.length)[j]? =some t':=by
   intro j t' hj gD;rw[jB hj,rM];rw[sZ] at gD;exact gD
  have sat: ∀(j:Nat) t',j<x.cells.length→(aU P e1)[c+j]? =some t'→dX P t'=true:=fun j t' hj gD=>
   ib.1 hs _ (mN (R7 j t' hj gD))
  have sm:v.cells.size=x.cells.length∧∀(j:Nat) u y,v.cells.toList[j]? =some u→x.cells[j]? =some y→aj P w I β hp u y:=by
   have base:(∀xs,x≠ .agg xs)→x.cells=[x]→v.cells.size=x.cells.length∧∀(j:Nat) u y,v.cells.toList[j]? =some u→x.cells[j]? =some y→aj P w I β hp u y:=by
    intro _ uw;rw[uw] at tl tg R7⊢;have h0:0<(((flat P e1).drop c).take [x].length).length:=by rw[tl];exact Nat.one_pos
    have ff:=tg 0 _ x (bY h0) rfl;obtain ⟨o1,o2⟩:=Yo hv ff;rw[o2];refine ⟨rfl,fun j u y hu hy=> ?_⟩;cases j with
    | zero=>simp at hu hy;subst hu;subst hy;exact hv
    | succ j=>simp at hy
   cases x with
   | agg xs=>
    obtain ⟨cs,rfl,h1,h2⟩:=hv.nF;exact ⟨h1,fun j u y a b=>h2 j u y (by simpa[Value.cells] using a) b⟩
   | _=>exact base (by simp) rfl
  have pure: ∀(j:Nat) u y t',v.cells.toList[j]? =some u→x.cells[j]? =some y→(aU P e1)[c+j]? =some t'→Pure P w I t' u y:=by
   intro j u y t' hu hy gD;have hj:=(cz.1 hy).1;exact alI (sm.2 j u y hu hy) (tg j t' y (R7 j t' hj gD) hy) (sat j t' hj gD)
  obtain ⟨w',r1,r2,r3⟩:=MD S (v:=v) (vers':=vers) (fun _ _ _ _=>False) ae hb ha ht (by rw[sm.1];exact hn.symm) wo sm.1.symm rh (fun u hu=>by
    obtain ⟨j,hj⟩:=uc hu;have dk:j<x.cells.length:=by rw[←sm.1];simpa using (cz.1 hj).1
    have tA:c+j<(aU P e1).length:=by rw[fH aq];omega
    have one: ∀t' y,Pure P w I t' u y→u.oneCell'=true:=by intro t' y h;cases h<;>rfl
    exact one _ _ (pure j u _ _ hj (bY dk) (bY tA)))
   (fun j y u t' k1 k2 k3=> .gB (sat j t' (cz.1 k1).1 k3) (pure j u y t' k2 k1 k3))
   (fun j y u t' e3 jt b3 len cap k1 k2 k3 k4 k5 k6=>by
    have:=sat j t' (cz.1 k1).1 k3;unfold dX at this;rw[k4] at this;cases this)
   (fun _ _ _ _ h=>h.elim) (fun _ _ _ _ _ _ _ h=>h.elim) rfl (fun _=>aw _) (.inl fun j t' hj gD=>sat j t' hj gD)
  exact ⟨w',I,β,r1,r2,r3,rfl⟩
 cases hu:P.underlying t with
 | none=>rw[hu] at h;exact gB h
 | some d=>
  cases d with
  | slice e2=>rw[hu] at h;exact slice e2 hu h
  | _=>rw[hu] at h;exact gB h
end
section
variable {P:Program} {w w':World} {I I':Nat→Nat→Prop} {β β':Nat→Option Nat} {hp hp':Nat→Option ah} {C:af} {B:Nat} {M:Nat→Prop} {w0:Start}
theorem ym {e e1:TypeId} (h:rowOf P e=some e1):P.underlying e=some (.slice e1)∧b8 P e=false∧cY P e=true∧cY P e1=true∧(flat P e1).all (dX P)=true:=by
 unfold rowOf at h;split at h
 ·rename_i e2 hu;cases hc:(!(b8 P e)&&(cY P e&&(cY P e2&&(flat P e2).all (dX P)))) with
  | false=>rw[hc] at h;cases h
  | true=>
   rw[hc] at h;cases h;simp only[aJ,nw] at hc;exact ⟨hu,hc.1,hc.2.1,hc.2.2.1,hc.2.2.2⟩
 ·cases h
theorem alK {e1:TypeId} (gR:(flat P e1).all (dX P)=true) {w:World} {b1 b':Nat} {e':TypeId} {l m:List V} {r:Path} (h:At P w b1 e1 l r b' e' m):r=[]∧b'=b1∧e'=e1∧m=l:=by
 cases h with
 | here=>exact ⟨rfl,rfl,rfl,rfl⟩
 | step h1 h2 h3 h4 h5 h6 h7 h8=>
  rw[sZ] at h3;have:=ib.1 gR _ (mN h3);unfold dX at this;rw[h4] at this;cases this
def zZ (P:Program) (w:World) (e1:TypeId) (K:Nat→List V→Prop) (v:Value) (l:List V):Prop:=
 (l=[]∧∃a,v= .slice a 0 0)∨
 (∃b1 cap,0<cap∧v= .slice (some ⟨b1,0,none⟩) l.length cap∧cap*P.cellsOf e1=bsize w b1∧l.length≤cap∧cap≤maxLen∧K b1 l)
theorem aan {b:Nat} {e e1:TypeId} {ys:List V} {vers:List Nat} {C':Array Value} (hr:rowOf P e=some e1)
  {T:TypeId} (wm:w'.heap[b]? =some (.cells C' T (0,0))) (hlen:ys.length≤C'.size) (di: ∀j,¬I b j) (K:Nat→Nat→List V→Prop)
  (gL: ∀(i:Nat) x,ys[i]? =some x→∃l v,x= .list e1 l∧C'[i]? =some v∧zZ P w e1 (K i) v l)
  (hK: ∀i b1 l,K i b1 l→b1≠b∧w'.heap[b1]? =w.heap[b1]? ∧iS P w I b1 e1 l)
  (uH: ∀i j b1 l m,K i b1 l→K j b1 m→i=j):
  (∀b',bf P w' (some b) (.nest e ys vers) b'→b'=b∨∃i l,K i b' l)∧
  ∀{cF gj},(∀b j,I b j→w'.cell? ⟨b,j,none⟩=w.cell? ⟨b,j,none⟩)→fe P w' I cF gj (some b) (.nest e ys vers):=by
 obtain ⟨hu,cA,aq,pb,gR⟩:=ym hr;have hLs:sU P T e C'.size:=fun ey=>by unfold isByte at ey;rw[hu] at ey;cases ey
 have lk:aU P e=[e]:=by simp[aU,cA]
 have hk:P.cellsOf e=1:=by rw[←fH aq,lk];rfl
 have z0: ∀x j,cf P e x j=x:=fun x j=>by simp[cf,cA]
 have G9: ∀q b2 e2 m,At P w' b e ys q b2 e2 m→(q=[]∧b2=b∧e2=e∧m=ys)∨∃i,q=[(i,0)]∧e2=e1∧K i b2 m:=by
  intro q b2 e2 m h;cases h with
  | here=>exact .inl ⟨rfl,rfl,rfl,rfl⟩
  | step h1 h2 h3 h4 h5 h6 h7 h8=>
   right;rw[wm] at h1;cases h1;rw[lk] at h3;obtain ⟨hc,ht⟩:=cz.1 h3;simp only[List.length_singleton,Nat.lt_one_iff] at hc;subst hc;simp only[List.getElem_singleton] at ht;subst ht;rw[hu] at h4;cases h4;rw[z0] at h5;subst h5;rw[hk,iC,Nat.add_zero] at h7;obtain ⟨l,v,hl,hv,hh⟩:=gL _ _ h2;cases hl;rw[hv] at h7;cases h7;rcases hh with ⟨rfl,a',he⟩|⟨b1',RX,_,he,_,_,_,qW⟩
   ·cases he;exact absurd h6 (nu _)
   ·cases he;obtain ⟨rfl,rfl,rfl,rfl⟩:=alK gR h8;exact ⟨_,rfl,rfl,qW⟩
 have kI: ∀i b1 l,K i b1 l→w'.heap[b1]? =w.heap[b1]? :=fun i b1 l h=>(hK i b1 l h).2.1;refine ⟨fun b' ho=> ?_,fun yk=> ?_⟩
 ·cases ho with
  | root _ h=>exact .inl (dN h).symm
  | row h ha=>
   cases h;rcases G9 _ _ _ _ ha with ⟨_,h,_,_⟩|⟨i,_,_,qW⟩
   ·exact .inl h
   ·exact .inr ⟨_,_,qW⟩
 ·refine .nest rfl (fun q b2 e2 m h=> ?_) (fun q1 q2 b2 e2 m2 e3 m3 h1 h2=> ?_)
  ·rcases G9 _ _ _ _ h with ⟨rfl,rfl,rfl,rfl⟩|⟨i,rfl,rfl,qW⟩
   ·refine ⟨aq,⟨C',_,wm,hLs,by rw[hk,iC];exact hlen,fun i j x t' hx ht hj=> ?_⟩,di⟩;rw[hk] at hj;have Ha:j=0:=by omega
    subst Ha;rw[lk] at ht;simp only[List.getElem?_cons_zero,fk] at ht;subst ht;obtain ⟨l,v,rfl,hv,hh⟩:=gL _ _ hx;refine ⟨v,by rw[hk,iC,Nat.add_zero];exact hv,?_⟩;rw[z0];rcases hh with ⟨rfl,a,rfl⟩|⟨b1,cap,h0,rfl,hs,hl,hm,qW⟩
    ·exact .emp hu
    ·exact .row hu h0 (by rw[hs,Fo (kI _ _ _ qW)]) hl hm
   ·obtain ⟨_,_,⟨ok,⟨Ca,T2,c1,c0,c2,c3⟩,nI⟩⟩:=hK _ _ _ qW;refine ⟨ok,⟨Ca,T2,(kI _ _ _ qW).trans c1,c0,c2,fun i' j x t' hx ht hj=> ?_⟩,nI⟩;obtain ⟨v,m1,m2⟩:=c3 i' j x t' hx ht hj;have jk:dX P t'=true:=by
     rw[sZ] at ht;exact ib.1 gR _ (mN ht)
    refine ⟨v,m1,?_⟩;generalize cf P e2 x j=y at m2;cases m2 with
    | gB a p=>exact .gB a (p.mono (fun _ _ h=>h) yk)
    | emp a=>unfold dX at jk;rw[a] at jk;cases jk
    | row a _ _ _ _=>unfold dX at jk;rw[a] at jk;cases jk
  ·rcases G9 _ _ _ _ h1 with ⟨rfl,rfl,_,_⟩|⟨i,rfl,_,k1⟩
   ·rcases G9 _ _ _ _ h2 with ⟨rfl,_,_,_⟩|⟨j,rfl,_,k2⟩
    ·rfl
    ·exact absurd rfl (hK _ _ _ k2).1
   ·rcases G9 _ _ _ _ h2 with ⟨rfl,rfl,_,_⟩|⟨j,rfl,_,k2⟩
    ·exact absurd rfl (hK _ _ _ k1).1
    ·rw[uH _ _ _ _ _ k1 k2]
theorem R8 (S:aA P w I β hp B M w0) {id b:Nat} {e e1:TypeId} {es:List V} {vers:List Nat} (hr:rowOf P e=some e1) (ae:hp id=some (.nest e es vers)) (hb:β id=some b):
  ∃Ca T,w.heap[b]? =some (.cells Ca T (0,0))∧es.length≤Ca.size∧(∀j,¬I b j)∧
   (∀(i:Nat) x,es[i]? =some x→∃l v,x= .list e1 l∧Ca[i]? =some v∧zZ P w e1 (fun b1 l=>At P w b e es [(i,0)] b1 e1 l) v l)∧
   (∀i b1 l,At P w b e es [(i,0)] b1 e1 l→b1≠b∧b1<w.heap.size∧iS P w I b1 e1 l∧(M b1∨B≤b1)∧bf P w (β id) (.nest e es vers) b1)∧
   ∀i j b1 l m,At P w b e es [(i,0)] b1 e1 l→At P w b e es [(j,0)] b1 e1 m→i=j:=by
 obtain ⟨hu,cA,aq,pb,gR⟩:=ym hr;have lk:aU P e=[e]:=by simp[aU,cA]
 have hk:P.cellsOf e=1:=by rw[←fH aq,lk];rfl
 have z0: ∀x j,cf P e x j=x:=fun x j=>by simp[cf,cA]
 have cR:=S.h.rel id _ ae;rw[hb] at cR;cases cR with
 | ji h=>cases h
 | nest au cW mn=>
  cases au;obtain ⟨_,⟨Ca,T,c1,_,c2,c3⟩,nI⟩:=cW _ _ _ _ .here;rw[hk,iC] at c2;refine ⟨Ca,T,c1,c2,nI,fun i x hx=> ?_,fun i b1 l ha=> ?_,fun i j b1 l m h1 h2=> ?_⟩
  ·obtain ⟨v,hv,ho⟩:=c3 i 0 x e hx (by rw[lk];rfl) (by rw[hk];exact Nat.one_pos);rw[hk,iC,Nat.add_zero] at hv;rw[z0] at ho;cases ho with
   | gB a _=>unfold dX at a;rw[hu] at a;cases a
   | emp a=>rw[hu] at a;cases a;exact ⟨[],_,rfl,hv,.inl ⟨rfl,_,rfl⟩⟩
   | @row _ l b1 cap a h0 hs hl hm=>
    rw[hu] at a;cases a;refine ⟨l,_,rfl,hv,.inr ⟨b1,cap,h0,rfl,hs,hl,hm,?_⟩⟩;exact .step c1 hx (by rw[lk];rfl) hu (z0 _ _) h0 (by rw[hk,iC,Nat.add_zero];exact hv) .here
  ·have ho:bf P w (β id) (.nest e es vers) b1:= .row hb ha;refine ⟨fun h=> ?_,S.h.lt ae ho,cW _ _ _ _ ha,S.h.own id _ b1 ae ho,ho⟩;subst h;exact absurd (mn _ _ _ _ _ _ _ ha .here) (by simp)
  ·have:=mn _ _ _ _ _ _ _ h1 h2;simpa using this
theorem aao (l:List Nat) (k:Nat) (h:k<l.length):bz l k<bz (l.map (· +1)) k:=by
 induction l generalizing k with
 | nil=>simp at h
 | cons a l ih=>
  cases k with
  | zero=>simp[bz]
  | succ k=>simpa[bz] using ih k (by simpa using h)
theorem alL {l:List Nat} {k:Nat} (h:l.length≤k):bz l k=0:=by
 induction l generalizing k with
 | nil=>rfl
 | cons a l ih=>
  cases k with
  | zero=>simp at h
  | succ k=>simpa[bz] using ih (by simpa using h)
theorem alM (S:aA P w I β hp B M w0) {id nb b i:Nat} {e e1:TypeId} {es:List V} {y:V} {vers:List Nat} (hr:rowOf P e=some e1) (ae:hp id=some (.nest e es vers)) (hb:β id=some b) (hy:es[i]? =some y) (hn:hp nb=none):
  ∃uJ,Le P w I β hp w I uJ (ao (ao hp id (some (.out e es (vers.map (· +1)) i))) nb (some (.arr e1 y.toList false)))∧
   aA P w I uJ (ao (ao hp id (some (.out e es (vers.map (· +1)) i))) nb (some (.arr e1 y.toList false))) B M w0∧
   ∀Ca v T f,w.heap[b]? =some (.cells Ca T f)→Ca[i]? =some v→aj P w I uJ (ao (ao hp id (some (.out e es (vers.map (· +1)) i))) nb (some (.arr e1 y.toList false))) v (.whole e1 nb):=by
 obtain ⟨hu,cA,aq,pb,gR⟩:=ym hr;obtain ⟨Ca,T0,c1,c2,nI,rc,rk,ru⟩:=R8 S hr ae hb;have CA:aU P e1=flat P e1:=sZ e1;have lk:aU P e=[e]:=by simp[aU,cA]
 have z0: ∀x j,cf P e x j=x:=fun x j=>by simp[cf,cA]
 have hk:P.cellsOf e=1:=by rw[←fH aq,lk];rfl
 have se:=(cz.1 hy).1;have MH: ∀(j:Nat) l b1 cap,es[j]? =some (.list e1 l)→0<cap→Ca[j]? =some (.slice (some ⟨b1,0,none⟩) l.length cap)→At P w b e es [(j,0)] b1 e1 l:=
  fun j l b1 cap hx h0 hv=> .step c1 hx (by rw[lk];rfl) hu (z0 _ _) h0 (by rw[hk,iC,Nat.add_zero];exact hv) .here
 have bp:nb≠id:=fun h=>by rw[h,ae] at hn;cases hn
 have s9: ∀b',bf P w (some b) (.out e es (vers.map (· +1)) i) b'→bf P w (some b) (.nest e es vers) b'∧∀l,¬At P w b e es [(i,0)] b' e1 l:=by
  intro b' ho;cases ho with
  | root _ h=>cases h;exact ⟨.root (by simp) rfl,fun l ha=>(rk _ _ _ ha).1 rfl⟩
  | @qO _ e2 _ l _ _ j b2 _ cap C' T f h1 h2 hj hx h0 hv=>
   cases h1;rw[c1] at h2;cases h2;obtain ⟨l',v',m1,m2,m3⟩:=rc _ _ hx;cases m1;have ha:=MH _ _ _ _ hx h0 hv;exact ⟨.row rfl ha,fun l2 ha2=>hj (ru _ _ _ _ _ ha ha2)⟩
 have hes:es≠[]:=fun h=>by rw[h] at se;simp at se
 obtain ⟨l1,S1⟩:=Qy (w':=w) S (blk':= .out e es (vers.map (· +1)) i) ae (by simp)
  ⟨⟨rfl,rfl,by simp,fun k=>by
    by_cases hk:k<vers.length
    ·exact Nat.le_of_lt (aao _ _ hk)
    ·rw[alL (by omega)];exact mi _⟩,fun k hk=>aao _ _ hk,hes⟩ hb nI (.inr (by simp)) (fun _ _=>rfl) rfl (aw _) ⟨rfl,rfl⟩
  (fun b' h=> .inl (s9 b' h).1) (fun _=>by
   refine .out rfl hu (by rw[CA];exact gR) c1 c2 se nI (fun j x hj hx=> ?_) (fun j b1 cap l hj hx h0 hv=> ?_) (fun j k b1 c1 c2 l m hj hk hx hz h1 h2 hv ml=> ?_)
   ·obtain ⟨l,v,m1,m2,m3⟩:=rc j x hx;refine ⟨l,v,m1,m2,?_⟩;subst m1;rcases m3 with ⟨rfl,a,rfl⟩|⟨b1,cap,h0,rfl,q1,q2,q3,_⟩
    ·exact .emp hu
    ·exact .row hu h0 q1 q2 q3
   ·have:=rk _ _ _ (MH _ _ _ _ hx h0 hv);exact ⟨this.1,this.2.2.1⟩
   ·exact ru _ _ _ _ _ (MH _ _ _ _ hx h1 hv) (MH _ _ _ _ hz h2 ml))
 have ju:ao hp id (some (.out e es (vers.map (· +1)) i)) nb=none:=by rw[cB _ _ bp];exact hn
 obtain ⟨l,v,yn,hv,gL⟩:=rc i y hy;subst yn;rcases gL with ⟨rfl,a,rfl⟩|⟨b1,cap,h0,rfl,q1,q2,q3,ha⟩
 ·obtain ⟨a1,a2⟩:=Ft S1 (fz:=false) e1 ju;refine ⟨_,l1.trans a1,a2,fun zl v' T f h1 h2=> ?_⟩;rw[c1] at h1;cases h1;rw[hv] at h2;cases h2;exact .dV (bJ _ _ _) (bJ _ _ _)
 ·obtain ⟨d1,d2,⟨ok,⟨C1,_,e2,e0,e3,e4⟩,nI1⟩,d4,d5⟩:=rk _ _ _ ha;obtain ⟨a1,a2⟩:=Cl S1 (w':=w) (blk:= .arr e1 l false) (b:=b1) ju
   (fun ar blk' h ho=>by
    by_cases hi:ar=id
    ·subst hi;rw[bJ] at h;cases h;rw[hb] at ho;exact (s9 _ ho).2 _ ha
    ·rw[cB _ _ hi] at h;exact hi (S.h.inj _ _ _ _ _ h ae ho d5))
   (fun j h=>absurd h (nI1 j)) (fun _ _ _=>rfl) (aw _) ⟨rfl,rfl⟩ d4 (fun b' h=>(dN (h.flat (by simp))).symm)
   (fun hle=> .arr e0 pb rfl e2 e3 (fun h=>by cases h) (fun _=>nI1) fun i' j x t' k1 k2 k3=>by
    obtain ⟨u,m1,m2⟩:=e4 i' j x t' k1 k2 k3;have jk:dX P t'=true:=by
     rw[CA] at k2;exact ib.1 gR _ (mN k2)
    refine ⟨u,m1,?_⟩;generalize cf P e1 x j=z at m2⊢;cases m2 with
    | gB _ p=>exact p
    | emp a=>unfold dX at jk;rw[a] at jk;cases jk
    | row a _ _ _ _=>unfold dX at jk;rw[a] at jk;cases jk)
  refine ⟨_,l1.trans a1,a2,fun zl v' T f h1 h2=> ?_⟩;rw[c1] at h1;cases h1;rw[hv] at h2;cases h2;exact .whole (es:=l) (bJ _ _ _) (bJ _ _ _) q1 q2 q3
theorem alN (S:aA P w I β hp B M w0) {t e e1:TypeId} {v:Value} {id aH b i:Nat} {es bW:List V} {vers:List Nat} (hr:rowOf P e=some e1) (ae:hp id=some (.out e es vers i)) (hb:β id=some b)
  (ht:pL P t=true) (hn:P.cellsOf t=1) (dm:hp aH=some (.arr e1 bW false)) (bp:id≠aH) (hv:aj P w I β hp v (.whole e1 aH)):
  rZ P ((Instr.storeAt t (.pointer (some ⟨b,i*P.cellsOf e+0,none⟩)) v).run P w) w I β hp B M w0 ⟨.undef,[(id,.nest e (es.set i (.list e1 bW)) vers),(aH,.dead)]⟩:=by
 obtain ⟨hu,cA,aq,pb,gR⟩:=ym hr;have lk:aU P e=[e]:=by simp[aU,cA]
 have hk:P.cellsOf e=1:=by rw[←fH aq,lk];rfl
 obtain ⟨sj,S1⟩:=xP S dm;have ri:ao hp aH (some .dead) id=some (.out e es vers i):=by rw[cB _ _ bp];exact ae
 have cR:=S.h.rel id _ ae;rw[hb] at cR;cases cR with
 | out au lX aAh hh hs hi hI hc cW mn=>
 cases au;rw[hu] at lX;cases lX;rename_i Ca;have gL: ∃K:Nat→List V→Prop,zZ P w e1 K v bW∧(∀b1 l,K b1 l→b1≠b∧iS P w I b1 e1 l∧(M b1∨B≤b1)∧(∀ar blk',ao hp aH (some .dead) ar=some blk'→¬bf P w (β ar) blk' b1))∧v.cells= #[v]∧v.oneCell'=true:=by
  cases hv with
  | dZ hd=>rw[dm] at hd;cases hd
  | dO hd=>rw[dm] at hd;cases hd
  | ee hd=>rw[dm] at hd;cases hd
  | fG hd=>rw[dm] at hd;cases hd
  | @dV _ _ _ a0 hd hb=>rw[dm] at hd;cases hd;exact ⟨fun _ _=>False,.inl ⟨rfl,a0,rfl⟩,fun _ _ h=>h.elim,rfl,rfl⟩
  | @whole _ _ _ _ b2 cap hd eR bc bQ hm=>
   rw[dm] at hd;cases hd;obtain ⟨m1,m2⟩:=R5 S dm eR gR;obtain ⟨m3,m4⟩:=m1 _ _ _ _ .here;rcases EM cap with h0|h0
   ·subst h0;obtain rfl:=vr.1 (xr.1 bQ);exact ⟨fun _ _=>False,.inl ⟨rfl,_,rfl⟩,fun _ _ h=>h.elim,rfl,rfl⟩
   ·refine ⟨fun b1 l=>b1=b2∧l=bW,.inr ⟨b2,cap,h0,rfl,bc,bQ,hm,rfl,rfl⟩,fun b1 l h=> ?_,rfl,rfl⟩;obtain ⟨rfl,rfl⟩:=h;refine ⟨fun h=> ?_,m3,S.h.own aH _ _ dm m4,fun ar blk' h' ho=> ?_⟩
    ·subst h;exact bp (S.h.inj _ _ _ _ _ ae dm (.root (by simp) hb) m4)
    ·by_cases q:ar=aH
     ·subst q;rw[bJ] at h';cases h';exact absurd rfl ho.alive
     ·rw[cB _ _ q] at h';exact q (S.h.inj ar aH _ _ _ h' dm ho m4)
 obtain ⟨K,k1,k2,k3,k4⟩:=gL;have se:i<Ca.size:=by omega
 have cP:=K4 (t:=t) (o:=i*P.cellsOf e+0) (v:=v) ht (by rw[hn,k3];rfl) hh (by rw[k3,hk];simp;omega) (by rw[k3];simp[k4]);rw[k3,hk,iC,Nat.add_zero] at cP;have hC:(Ca.toList.take i++(#[v].toList++Ca.toList.drop (i+ #[v].toList.length))).toArray.size=Ca.size:=by simp;omega
 have kY: ∀j,(Ca.toList.take i++(#[v].toList++Ca.toList.drop (i+ #[v].toList.length))).toArray[j]? =if j=i then some v else Ca[j]? :=by
  intro j;rw[pE,rY _ _ _ _ (by simp;omega)];simp only[List.length_singleton,sL];by_cases h1:j<i
  ·rw[aB h1,ax (by omega)]
  ·rw[ax h1];by_cases h2:j=i
   ·subst h2;simp
   ·rw[ax (by omega),ax h2]
 rw[hk,iC,Nat.add_zero];generalize hCb:(Ca.toList.take i++(#[v].toList++Ca.toList.drop (i+ #[v].toList.length))).toArray=Cb at cP hC kY;have dG:=setRow_heap w b Ca Cb _ (0,0) hh;have uI:=fun k (hk:k≠b)=>setRow_other w b k Cb hk;obtain ⟨p1,p2⟩:=aan (w:=w) (w':=w.setRow b Cb) (I:=I) (vers:=vers) (ys:=es.set i (.list e1 bW)) hr dG (by simp;omega) hI
  (fun j b1 l=>(j=i∧K b1 l)∨(j≠i∧∃cap,es[j]? =some (.list e1 l)∧0<cap∧Ca[j]? =some (.slice (some ⟨b1,0,none⟩) l.length cap)))
  (fun j x hx=>by
   rw[EN] at hx;rw[kY];by_cases hj:i=j
   ·subst hj;simp only[pD,aB hi,fk] at hx;subst hx;refine ⟨bW,v,rfl,aB rfl,?_⟩;rcases k1 with h|⟨b1,cap,h0,h1,h2,h3,h4,h5⟩
    ·exact .inl h
    ·exact .inr ⟨b1,cap,h0,h1,h2,h3,h4,.inl ⟨rfl,h5⟩⟩
   ·rw[ax hj] at hx;rw[ax (fun h=>hj h.symm)];obtain ⟨l,u,m1,m2,m3⟩:=hc j x (fun h=>hj h.symm) hx;subst m1;refine ⟨l,u,rfl,m2,?_⟩;cases m3 with
    | gB a _=>unfold dX at a;rw[hu] at a;cases a
    | emp a=>exact .inl ⟨rfl,_,rfl⟩
    | @row _ _ b1 cap a h0 c d f=>exact .inr ⟨b1,cap,h0,rfl,by rw[hu] at a;cases a;exact c,d,f,.inr ⟨fun h=>hj h.symm,cap,hx,h0,m2⟩⟩)
  (fun j b1 l h=>by
   rcases h with ⟨_,h⟩|⟨hj,cap,hx,h0,hv⟩
   ·exact ⟨(k2 _ _ h).1,uI _ (k2 _ _ h).1,(k2 _ _ h).2.1⟩
   ·obtain ⟨q1,q2⟩:=cW _ _ _ _ hj hx h0 hv;exact ⟨q1,uI _ q1,q2⟩)
  (fun j j' b1 l m h1 h2=>by
   have no: ∀{j l m},K b1 l→(j≠i∧∃cap,es[j]? =some (.list e1 m)∧0<cap∧Ca[j]? =some (.slice (some ⟨b1,0,none⟩) m.length cap))→False:=fun h ⟨hj,cap,hx,h0,hv⟩=>
    (k2 _ _ h).2.2.2 _ _ ri (by rw[hb];exact .qO rfl hh hj hx h0 hv)
   rcases h1 with ⟨h,h1⟩|h1
   ·rcases h2 with ⟨h',h2⟩|h2
    ·omega
    ·exact (no h1 h2).elim
   ·rcases h2 with ⟨_,h2⟩|h2
    ·exact (no h2 h1).elim
    ·obtain ⟨hj,cap,hx,h0,hv⟩:=h1;obtain ⟨fY,RX,dd,R9,Hb⟩:=h2;exact mn _ _ _ _ _ _ _ hj fY hx dd h0 R9 hv Hb)
 obtain ⟨a1,a2⟩:=Qy S1 (w':=w.setRow b Cb) (blk':= .nest e (es.set i (.list e1 bW)) vers) ri (by simp) ⟨rfl,by simp,rfl,fun _=>aw _⟩ hb hI (.inl (by simp)) uI (by rw[lL dG,lL hh,hC]) (by simp) ⟨rfl,rfl⟩
  (fun b' ho=>by
   rcases p1 b' ho with rfl|⟨j,l,⟨_,h⟩|⟨hj,cap,hx,h0,hv⟩⟩
   ·exact .inl (.root (by simp) rfl)
   ·exact .inr ⟨(k2 _ _ h).2.2.1,(k2 _ _ h).2.2.2⟩
   ·exact .inl (.qO rfl hh hj hx h0 hv))
  (fun hle=>p2 hle.cM)
 exact ⟨_,I,β,cP,sj.trans a1,a2,rfl⟩
end
section
variable {P:Program} {w w':World} {I I':Nat→Nat→Prop} {β β':Nat→Option Nat} {hp hp':Nat→Option ah} {C:af} {B:Nat} {M:Nat→Prop} {w0:Start}
theorem alO (S:aA P w I β hp B M w0) {t:TypeId} {a v:Value} {xa x:V} {r:R} {rd:List Nat} (ha:aj P w I β hp a xa) (hv:aj P w I β hp v x)
  (h:(P0 P t xa x).run C hp=some (r,rd)):rZ P ((Instr.storeAt t a v).run P w) w I β hp B M w0 r:=by
 unfold P0 at h;obtain ⟨h0,h⟩:=aD h;simp only[aJ,aL] at h0;obtain ⟨ht,hn⟩:=h0;cases xa with
 | ptr id i c=>
  obtain ⟨l,h⟩:=run_get h;cases ae:hp id with
  | none=>rw[ae] at h;cases h
  | some blk=>
   rw[ae] at h;cases blk with
   | dead=>cases h
   | var T0 cs=>
    obtain ⟨aap,h⟩:=aD h;have sa:uf P T0=true→0<c:=fun cQ=>by
     rw[cQ] at aap;simpa using aap
    obtain ⟨b,hb,rfl⟩:=ha.jl ae (by simp);simp only[ah.sz,Nat.mul_zero,dB];cases Fz:Ks P t cs with
    | true=>
     dsimp only at h;rw[Fz] at h;replace h:=XY h;obtain ⟨kz,h⟩:=aD h;obtain ⟨e,MI,vT,Cq,Yl⟩:=Ya kz;rw[Nat.sub_zero] at Cq;unfold XL at h;rw[vT] at h;simp only at h;obtain ⟨⟨y1,u1⟩,l3,l4,hq,h⟩:=oA h;obtain ⟨q1,q2⟩:=Fq S.h.rel hq hv;cases y1 with
     | list e' es=>
      simp only at h;obtain ⟨hc,h⟩:=aD h;obtain rfl:=aN h;simp only[aJ,nw,aL,nt] at hc;obtain ⟨rfl,rfl,gM,z7⟩:=hc;obtain ⟨sj,S1⟩:=Ci S q1;have ri:cb hp u1 id=some (.var T0 cs):=by
       rcases xN (hp:=hp) (l:=u1) (id:=id) with h|⟨b',hm,_⟩
       ·exact h.trans ae
       ·exfalso;have uu:iO (u1.map (·.1)) id=true:=zs (ia.2 ⟨_,hm,rfl⟩);rw[uu] at z7;cases z7
      have eL:Plain P w (j4 P w I β hp u1) v (.list e es):=q2 (j4 P w I β hp u1) (fun _ _ h=> .inl h) (fun p hp b j h=> .inr ⟨p,hp,h⟩);have hlc:c<cs.length:=(cz.1 Cq).1;have sX:aj P w (j4 P w I β hp u1) β (cb hp u1) v (.nl e es):= .nl eL fun e0=>by rw[e0] at gM;simp at gM
      have ti:v.cells= #[v]:=by
       cases sX with
       | nl q=>cases q<;>rfl
      have j9:x.cells.length=1:=by
       cases x<;>simp only[EV] at hq<;>first|rfl|(cases hq;done)
      have key:rZ P ((Instr.storeAt t (.pointer (some ⟨b,c,none⟩)) v).run P w) w (j4 P w I β hp u1) β (cb hp u1) B M w0 ⟨.undef,[(id,.var T0 (rP cs 0 c es))]⟩:=by
       refine QH (x:=V.nl e es) S1 ri hb ht (by rw[←hn,j9];rfl) (by rw[ti];rfl) sa (fun j u y hu hy=> ?_) (by rw[ti];simp;cases sX with|nl q=>cases q<;>rfl) (by show c+1≤_;omega) (Yb _ _ _ _) (fun j y hy hj u hu=> ?_) (fun j y hy hj u hu=> ?_)
       ·rw[ti] at hu;cases j with
        | zero=>simp at hu;subst hu;cases hy;exact sX
        | succ j=>cases hy
       ·refine hu y ?_;rw[←hy];exact (Yc (by have:j<c∨c+1≤j:=hj;omega)).symm
       ·have Ha:j=0:=by have:j<1:=hj;omega
        subst Ha;have:=Yd (xs:=es) (j0:=0) (c:=c) (by rw[Nat.sub_zero];exact Cq) (mi _);rw[Nat.sub_zero] at this;rw[Nat.add_zero,this] at hy;cases hy;exact hu _ rfl
      obtain ⟨w',I2,cF,z1,z2,z3,z4⟩:=key;exact ⟨w',I2,cF,z1,sj.trans z2,z3,z4⟩
     | _=>cases h
    | false=>
    dsimp only at h;rw[Fz] at h;replace h:=XZ h;cases vU:(BX P t cs&&fT P t x) with
    | true=>
     rw[vU] at h;simp only[cond_true] at h;obtain ⟨hc,h⟩:=aD h;obtain rfl:=aN h;simp only[aJ,nt] at hc vU;obtain ⟨o1,o2⟩:=Yo hv vU.2;have uw:=aie vU.2;refine QH S ae hb ht hn (by rw[o2,uw];rfl) sa (fun j u y hu hy=> ?_) (by rw[o2];simp[o1]) (by rw[uw];simp;omega) (Yn _ _ _ _) (fun j y hy hj u hu=> ?_) (fun j y hy hj u hu=> ?_)
     ·rw[o2] at hu;rw[uw] at hy;cases j with
      | zero=>simp at hu hy;subst hu;subst hy;exact hv
      | succ j=>simp at hy
     ·rw[QG] at hy;cases Dg:cs[j]? with
      | none=>rw[Dg] at hy;cases hy
      | some y0=>
       rw[Dg] at hy;simp only[Option.map_some,fk] at hy;rw[uw] at hj;simp only[List.length_singleton] at hj;have bp:Nat.beq c (0+j)=false:=by
        cases hq:Nat.beq c (0+j) with
        | false=>rfl
        | true=>rw[aL] at hq;omega
       rw[bp] at hy;have:=X6 (c:=false) hv (hu y0 Dg);rw[←hy];simpa using this
     ·rw[uw] at hj hu;have Ha:j=0:=by simpa using hj
      subst Ha;rw[QG] at hy;cases Dg:cs[c+0]? with
      | none=>rw[Dg] at hy;cases hy
      | some y0=>
       rw[Dg] at hy;simp only[Option.map_some,fk] at hy;have heq:Nat.beq c (0+(c+0))=true:=by rw[aL];omega
       rw[heq] at hy;have h2:aj P w I β hp u x:=hu x rfl;have:xB true x y0=x:=aif x y0;rw[←hy,this];exact h2
    | false=>
     rw[vU] at h;simp only[cond_false] at h;obtain ⟨hc,h⟩:=aD h;simp only[aJ,gx] at hc;obtain ⟨e1,e2⟩:=QF hv h;obtain ⟨h1,l2,h⟩:=K3 h (vs:=v.cells.toList) (by simpa using e1) (fun j u y a b=>e2 j u y (by simpa using a) b);obtain rfl:=aN h;refine QH S ae hb ht hn e1 sa e2 h1 hc.2 (FA _ _ _ hc.2) (fun j y hy hj u hu=> ?_) (fun j y hy hj u hu=> ?_)
     ·unfold jE at hy;rw[rY _ _ _ _ hc.2] at hy;rcases hj with hj|hj
      ·rw[aB hj] at hy;exact hu y hy
      ·rw[dq,dq] at hy;exact hu y hy
     ·unfold jE at hy;rw[rY _ _ _ _ hc.2,dq,dp] at hy;rw[show c+j-c=j by omega] at hy;exact hu y hy
   | arr e es fz=>
    cases fz with
    | true=>cases h
    | false=>
    obtain ⟨b,hb,rfl⟩:=ha.jl ae (by simp);obtain ⟨aq,h⟩:=aD h;obtain ⟨⟨ys,fr⟩,l1,l2,bL,h⟩:=oA h;obtain ⟨hc,h⟩:=aD h;obtain ⟨x0,wo,h⟩:=oz h;obtain rfl:=aN h;simp only[aJ,nw,gx] at hc;obtain ⟨gC,hc3,gi⟩:=hc;have sm:v.cells.size=x.cells.length∧∀(j:Nat) u y,v.cells.toList[j]? =some u→x.cells[j]? =some y→aj P w I β hp u y:=by
     cases x with
     | agg xs=>
      obtain ⟨cs,rfl,h1,h2⟩:=hv.nF;exact ⟨h1,fun j u y a b=>h2 j u y (by simpa[Value.cells] using a) b⟩
     | _=>
      simp only[V.cells] at bL gi⊢;simp only[xA] at bL;obtain ⟨⟨y1,u1⟩,l3,l4,hq,bL⟩:=oA bL;obtain ⟨q1,q2⟩:=Fq S.h.rel hq hv;obtain ⟨⟨y2,u2⟩,l5,l6,wu,bL⟩:=oA bL;cases wu;have:=aN bL;cases this;obtain ⟨tl,tg⟩:=zr gi;have ff:=tg 0 _ y1 (bY (by rw[tl];exact Nat.one_pos)) rfl;have eL:=q2 (j4 P w I β hp u1) (fun _ _ h=> .inl h) (fun p hp b j h=> .inr ⟨p,hp,h⟩);have ho:=eL.pure ff;have aaq:v.cells= #[v]:=by cases ho<;>rfl
      rw[aaq];refine ⟨rfl,fun j u y hu hy=> ?_⟩;cases j with
      | zero=>simp at hu hy;subst hu;subst hy;exact hv
      | succ j=>simp at hy
    obtain ⟨k1,k2,k3⟩:=Qw S.h.rel bL (vs:=v.cells.toList) (by simpa using sm.1) sm.2;obtain ⟨sj,S1⟩:=Ci S k2;have ri:cb hp fr id=some (.arr e es false):=by
     rcases xN (hp:=hp) (l:=fr) (id:=id) with h|⟨b',hm,_⟩
     ·exact h.trans ae
     ·exfalso;have z7:iO (fr.map (·.1)) id=true:=zs (ia.2 ⟨_,hm,rfl⟩);rw[z7] at gC;cases gC
    have aar:=k3 (j4 P w I β hp fr) (fun _ _ h=> .inl h) (fun p hp b j h=> .inr ⟨p,hp,h⟩);obtain ⟨tl,tg⟩:=zr gi;have gR:=(oY aq).1;have yn:ys.length=v.cells.size:=by rw[k1,sm.1]
    have hcn:c+v.cells.size≤P.cellsOf e:=by rw[sm.1];exact hc3
    have hr:=S1.h.rel id _ ri;cases hr with
    | eF au=>simp at wo
    | @arr _ _ _ _ b' Ca hL QD au hh hs hf fN hx=>
     rw[hb] at au;cases au;have p5:i<es.length:=(cz.1 wo).1;have hbound:i*P.cellsOf e+P.cellsOf e≤Ca.size:=by
      have:(i+1)*P.cellsOf e≤es.length*P.cellsOf e:=eI _ p5;rw[jn] at this;omega
     simp only[ah.sz];have xT:i*P.cellsOf e+c+v.cells.size≤Ca.size:=by omega
     have di: ∀j,¬j4 P w I β hp fr b j:=fN rfl;have h1: ∀u∈v.cells.toList,u.oneCell'=true:=by
      intro u hu;obtain ⟨j,hj⟩:=uc hu;have dk:j<ys.length:=by rw[yn];simpa using (cz.1 hj).1
      have tA:j<(((flat P e).drop c).take x.cells.length).length:=by rw[tl];exact dk
      exact (aar j u ys[j] hj (bY dk)).one (tg j _ ys[j] (bY tA) (bY dk))
     have cP:=K4 (t:=t) (o:=i*P.cellsOf e+c) (v:=v) ht (by rw[sm.1];exact hn.symm) hh xT h1;have hlen:(Ca.toList.take (i*P.cellsOf e+c)++(v.cells.toList++Ca.toList.drop (i*P.cellsOf e+c+v.cells.toList.length))).length=Ca.size:=by
      rw[FA _ _ _ (by simpa using xT)];simp
     have eL:(parts P e x0).length=P.cellsOf e:=by rw[Co];exact fH aq
     have FB:=K5 S1 (blk':= .arr e (es.set i (dv P e (jE (parts P e x0) c ys))) false)
      (Cb:=(Ca.toList.take (i*P.cellsOf e+c)++(v.cells.toList++Ca.toList.drop (i*P.cellsOf e+c+v.cells.toList.length))).toArray) ri (by simp) ⟨rfl,by simp⟩ hb di (by simp) hh (by simpa using hlen)
      (fun hle dG=> .arr (by rw[sJ,hlen];exact hL) aq rfl dG (by simp only[sJ,pF];omega) (fun h=>by cases h) (fun _=>di) fun i' j z t' hz tA hj=>by
       simp only[pE];rw[rY _ _ _ _ (by simpa using xT)];simp only[Array.length_toList];rw[EN] at hz;by_cases n0:i=i'
       ·subst n0;rw[aB rfl,aB p5] at hz;cases hz;have MJ:j<(parts P e x0).length:=by omega
        have z8:(jE (parts P e x0) c ys)[j]? =if j<c then (parts P e x0)[j]? else if j<c+ys.length then ys[j-c]? else (parts P e x0)[j]? :=by
         unfold jE;exact rY _ _ _ _ (by omega)
        by_cases vV:j<c
        ·rw[dp];rw[aB vV] at z8;obtain ⟨u,t2,a1,a2,a3⟩:=KZ hx aq wo (bY MJ);rw[tA] at a1;cases a1;refine ⟨u,by simpa using a2,?_⟩;rw[vW (z8.trans (bY MJ)) tA];exact a3.mono hle.en hle.cM
        ·rw[ax vV] at z8;by_cases dw:j<c+ys.length
         ·rw[aB dw] at z8;rw[dq,dp];have uK:j-c<ys.length:=by omega
          have hjv:j-c<v.cells.toList.length:=by simp;omega
          have aAi:j-c<v.cells.size:=by omega
          refine ⟨v.cells.toList[j-c],?_,?_⟩
          ·rw[show i*P.cellsOf e+j-(i*P.cellsOf e+c)=j-c by omega];exact bY hjv
          ·rw[vW (z8.trans (bY uK)) tA];have hft:(((flat P e).drop c).take x.cells.length)[j-c]? =some t':=by
            rw[jB (by omega),rM,show c+(j-c)=j by omega,←sZ];exact tA
           exact ((aar (j-c) _ ys[j-c] (bY hjv) (bY uK)).pure (tg (j-c) t' ys[j-c] hft (bY uK))).mono hle.en hle.cM
         ·rw[ax dw] at z8;rw[dq,dq];obtain ⟨u,t2,a1,a2,a3⟩:=KZ hx aq wo (bY MJ);rw[tA] at a1;cases a1;refine ⟨u,by simpa using a2,?_⟩;rw[vW (z8.trans (bY MJ)) tA];exact a3.mono hle.en hle.cM
       ·rw[ax n0] at hz;obtain ⟨u,a2,a3⟩:=hx i' j z t' hz tA hj;have bp:i'*P.cellsOf e+j<i*P.cellsOf e+c∨i*P.cellsOf e+c+v.cells.size≤i'*P.cellsOf e+j:=by
         rcases jD i' i with aP|rj
         ·left;have:(i'+1)*P.cellsOf e≤i*P.cellsOf e:=eI _ aP;rw[jn] at this;omega
         ·right;have:(i+1)*P.cellsOf e≤i'*P.cellsOf e:=eI _ (by omega);rw[jn] at this;omega
        refine ⟨u,?_,a3.mono hle.en hle.cM⟩;rcases bp with bp|bp
        ·rw[aB bp];simpa using a2
        ·rw[dq,dq];simpa using a2)
     exact ⟨_,_,_,cP,sj.trans FB.1,FB.2,rfl⟩
   | map _ _=>cases h
   | out e es vers j=>
    obtain ⟨b,hb,rfl⟩:=ha.jl ae (by simp);unfold XO at h;obtain ⟨hc,h5⟩:=aD h;clear h;simp only[aJ,aL] at hc;obtain ⟨rfl,rfl⟩:=hc;cases hr:rowOf P e with
    | none=>simp only[hr] at h5;cases h5
    | some e1=>
     simp only[hr] at h5;cases x with
     | whole e3 aH=>
      obtain ⟨l1,h6⟩:=run_get h5;cases dm:hp aH with
      | none=>rw[dm] at h6;cases h6
      | some cD=>
       rw[dm] at h6;cases cD with
       | arr e4 bW fz=>
        cases fz with
        | true=>cases h6
        | false=>
         obtain ⟨hc,h7⟩:=aD h6;obtain rfl:=aN h7;simp only[aJ,aL,nw] at hc;obtain ⟨rfl,rfl,bp⟩:=hc;exact alN S hr ae hb ht hn.symm dm (fun e=>by rw[e,ot] at bp;cases bp) hv
       | _=>cases h6
     | _=>cases h5
   | nest e es vers=>
    obtain ⟨b,hb,rfl⟩:=ha.jl ae (by simp);exact aam S ht hn hv ae hb .here h
 | dF id ver path i c=>
  obtain ⟨e0,es,vers,l,ae,h1,h2,h3,h⟩:=rV h;obtain ⟨b,b1,e1,l1,hb,fV,rfl⟩:=ha.X0 ae h1 h2 h3;exact aam S ht hn hv ae hb fV h
 | _=>cases h
end
section
variable {P:Program} {w w':World} {I I':Nat→Nat→Prop} {β β':Nat→Option Nat} {hp hp':Nat→Option ah} {C:af} {B:Nat} {M:Nat→Prop} {w0:Start}
theorem MK: ∀{ts:List TypeId} {vs:List Value} {j:Nat} {y:V},(kj P ts vs)[j]? =some y→∃t v,ts[j]? =some t∧vs[j]? =some v∧y=rO P t v
 | [],vs,j,y,h=>by simp[kj] at h
 | _::_,[],j,y,h=>by simp[kj] at h
 | t::ts,v::vs,0,y,h=>by simp[kj] at h;grind
 | t::ts,v::vs,j+1,y,h=>by
  simp only[kj,List.getElem?_cons_succ] at h;obtain ⟨t',v',a,b,c⟩:=MK h;grind
theorem aas: ∀{ts:List TypeId} {vs:List Value},ts.length=vs.length→(kj P ts vs).length=vs.length
 | [],[],_=>rfl
 | [],_::_,h=>by simp at h
 | _::_,[],h=>by simp at h
 | t::ts,v::vs,h=>by simp[kj,aas (ts:=ts) (vs:=vs) (by grind)]
theorem ll {e:TypeId} (h:cY P e=true): ∃i z,P.info? e=some i∧i.zero=some z∧i.size=P.cellsOf e∧z.cells.size=P.cellsOf e∧zeroCells P e=kj P (flat P e) z.cells.toList:=by
 unfold cY at h;simp only[aJ,aL,nt] at h;obtain ⟨h1,h2,_,h3⟩:=h;cases hi:P.info? e with
 | none=>grind
 | some i=>
  rw[hi] at h3;simp only[Option.bind_some] at h3;cases hz:i.zero with
  | none=>grind
  | some z=>
   rw[hz] at h3;simp only[aL] at h3;exact ⟨i,z,rfl,hz,by simp[Program.cellsOf,hi],h3,by simp[zeroCells,hi,hz]⟩
theorem aat {e:TypeId} (h:cY P e=true): ∃i z,P.info? e=some i∧i.zero=some z∧z.cells.size=(zeroCells P e).length∧z.cells.size=P.cellsOf e∧
  ∀(j:Nat) v x,z.cells[j]? =some v→(zeroCells P e)[j]? =some x→aj P w I β hp v x:=by
 obtain ⟨i,z,h1,h2,h3,h4,h5⟩:=ll h;have hl:(flat P e).length=z.cells.toList.length:=by rw[(oY h).1];grind
 refine ⟨i,z,h1,h2,?_,h4,fun j v x hv hx=> ?_⟩
 ·rw[h5,aas hl];simp
 ·rw[h5] at hx;obtain ⟨t,v',_,Hb,rfl⟩:=MK hx;have:v'=v:=by
   grind
  subst this;exact aj.const t v'
theorem nj {nb:Nat} {b:ah} {v:V} {upd:List (Nat×ah)} {r:R} {rd:List Nat} (h:(jF nb b v upd).run C hp=some (r,rd)):hp nb=none∧r=⟨v,(nb,b)::upd⟩:=by
 obtain ⟨l,h⟩:=run_get h;cases hn:hp nb with
 | none=>rw[hn] at h;exact ⟨rfl,(aN h).symm⟩
 | some x=>rw[hn] at h;cases h
theorem aau (S:aA P w I β hp B M w0) {nb:Nat} {xs:List V} {C0:Array Value} {T:TypeId} (hn:hp nb=none) (hs:C0.size=xs.length)
  (hx: ∀(j:Nat) v x,C0[j]? =some v→xs[j]? =some x→aj P w I β hp v x) (iT:XT P w.heap.size T C0):
  Le P w I β hp (w.alloc (.cells C0 T)) I (ao β nb (some w.heap.size)) (ao hp nb (some (.var T xs)))∧aA P (w.alloc (.cells C0 T)) I (ao β nb (some w.heap.size)) (ao hp nb (some (.var T xs))) B M w0∧
  aj P (w.alloc (.cells C0 T)) I (ao β nb (some w.heap.size)) (ao hp nb (some (.var T xs))) (.pointer (some ⟨w.heap.size,0,none⟩)) (.ptr nb 0 0):=by
 obtain ⟨h1,h2⟩:=Qz S (blk:= .var T xs) (c:=C0) (T:=T) hn (fun b' h=>(dN (h.flat (by simp))).symm) (fun hle dG di=> .var rfl dG hs di (fun j v x a b=>(hx j v x a b).mono hle) iT);refine ⟨h1,h2,?_⟩;have:=aj.ptr (P:=P) (w:=w.alloc (.cells C0 T)) (I:=I) (β:=ao β nb (some w.heap.size)) (hp:=ao hp nb (some (.var T xs))) (i:=0) (c:=0) (blk:= .var T xs) (bJ _ _ _) (by simp) (bJ _ _ _);grind
theorem aav (S:aA P w I β hp B M w0) {e:TypeId} {nb:Nat} {r:R} {rd:List Nat}
  (h:(Rd.az (cY P e&&(!(uf P e)||XN (zeroCells P e))) (jF nb (.var e (zeroCells P e)) (.ptr nb 0 0) [])).run C hp=some (r,rd)):dj P ((Instr.alloc e true (.tuple #[])).run P w) w I β hp B M w0 r:=by
 obtain ⟨aq,h⟩:=aD h;rw[aJ] at aq;obtain ⟨aq,sa⟩:=aq;obtain ⟨hn,rfl⟩:=nj h;obtain ⟨i,z,h1,h2,h3,h4,h5⟩:=aat (w:=w) (I:=I) (β:=β) (hp:=hp) aq;obtain ⟨a,b,c⟩:=aau S (T:=e) hn h3 h5 fun cQ=>by
  rw[cQ,Bool.not_true,Bool.false_or] at sa;cases hz:zeroCells P e with
  | nil=>rw[hz] at sa;cases sa
  | cons y l=>
   rw[hz] at sa h3 h5;cases y<;>first|(cases sa;done)|skip
   have aP:0<z.cells.size:=by grind
   have:=h5 0 z.cells[0] .eJ (lC aP) rfl;left;rw[lC aP];generalize z.cells[0]=u at this;cases this;rfl
 exact ⟨_,_,_,_,by simp[Instr.alloc,zeroValue,typeInfo,h1,h2,newVar,newRow],a,b,c⟩
theorem alP (S:aA P w I β hp B M w0) {e:TypeId} {nb:Nat} {x:V} {v:Value} {r:R} {rd:List Nat} (hv:aj P w I β hp v x)
  (h:(Rd.az (!(uf P e)) <| pK x.cells (jF nb (.var e x.cells) (.ptr nb 0 0) [])).run C hp=some (r,rd)):dj P ((Instr.box e v).run P w) w I β hp B M w0 r:=by
 obtain ⟨sa,h⟩:=aD h;obtain ⟨e1,e2⟩:=QF hv h;obtain ⟨_,l,h⟩:=K3 h (vs:=v.cells.toList) (by omega) (fun j u y a b=>e2 j u y (by grind) b);obtain ⟨hn,rfl⟩:=nj h;obtain ⟨a,b,c⟩:=aau S (T:=e) hn e1 e2 fun cQ=>by grind
 exact ⟨_,_,_,_,by simp[Instr.box,newVar,newRow],a,b,c⟩
theorem foldl_set (off:Nat): ∀(vs:List Value) (k:Nat) (cs:Array Value) (i:Nat),off+k+vs.length≤cs.size→
  ((vs.zipIdx k).foldl (fun cs p=>cs.setIfInBounds (off+p.2) p.1) cs)[i]? =if i<off+k then cs[i]? else if i<off+k+vs.length then vs[i-(off+k)]? else cs[i]?
 | [],k,cs,i,h=>by simp_all
 | v::vs,k,cs,i,h=>by
  simp only[List.zipIdx_cons,List.foldl_cons];simp only[List.length_cons] at h⊢;rw[foldl_set off vs (k+1) _ i (by simp;omega)];grind
theorem aaw (off:Nat): ∀(vs:List Value) (k:Nat) (cs:Array Value),((vs.zipIdx k).foldl (fun cs p=>cs.setIfInBounds (off+p.2) p.1) cs).size=cs.size
 | [],k,cs=>rfl
 | v::vs,k,cs=>by
  simp only[List.zipIdx_cons,List.foldl_cons];rw[aaw off vs (k+1)];simp
theorem aax {cells:Array Value} {off:Nat} {v:Value} (h:off+v.cells.size≤cells.size) (i:Nat):
  (v.cells.zipIdx.foldl (fun cs (p:Value×Nat)=>cs.setIfInBounds (off+p.2) p.1) cells)[i]? =if i<off then cells[i]? else if i<off+v.cells.size then v.cells[i-off]? else cells[i]? :=by
 have:=foldl_set off v.cells.toList 0 cells i (by omega);rw[←Kg];grind
theorem aay {cells:Array Value} {off:Nat} {v:Value}:(v.cells.zipIdx.foldl (fun cs (p:Value×Nat)=>cs.setIfInBounds (off+p.2) p.1) cells).size=cells.size:=by
 have:=aaw off v.cells.toList 0 cells;rw[←Kg];grind
inductive Dh (P:Program) (w:World) (I:Nat→Nat→Prop) (β:Nat→Option Nat) (hp:Nat→Option ah):List (Nat×Value)→List (Nat×V)→Prop
 | nil:Dh P w I β hp [] []
 | cons {i:Nat} {v:Value} {x:V} {vs:List (Nat×Value)} {xs:List (Nat×V)}:v.cells.size=x.cells.length→(∀(j:Nat) u y,v.cells[j]? =some u→x.cells[j]? =some y→aj P w I β hp u y)→
   Dh P w I β hp vs xs→Dh P w I β hp ((i,v)::vs) ((i,x)::xs)
theorem aaz (place:Nat→Option (Nat×Nat)): ∀{vs:List (Nat×Value)} {px:List (Nat×V)} {cells:Array Value} {xs ys:List V},Dh P w I β hp vs px→cells.size=xs.length→
  (∀(j:Nat) v x,cells[j]? =some v→xs[j]? =some x→aj P w I β hp v x)→y9 place xs px=some ys→
  ∃uL:Array Value,Instr.fill place cells vs=some uL∧uL.size=ys.length∧∀(j:Nat) v x,uL[j]? =some v→ys[j]? =some x→aj P w I β hp v x
 | _,_,cells,xs,ys,.nil,hs,hx,h=>by
  simp only[y9,fk] at h;subst h;exact ⟨cells,by simp[Instr.fill],hs,hx⟩
 | _,_,cells,xs,ys,@Dh.cons _ _ _ _ _ i v x vs px h1 h2 h3,hs,hx,h=>by
  simp only[y9] at h;cases eL:place i with
  | none=>grind
  | some os=>
   obtain ⟨off,size⟩:=os;rw[eL] at h;simp only at h;cases hc:(Nat.beq x.cells.length size&&Nat.ble (off+size) xs.length) with
   | false=>grind
   | true=>
    rw[hc] at h;simp only[cond_true] at h;simp only[aJ,aL,gx] at hc;have hv:off+v.cells.size≤cells.size:=by omega
    have hb:off+x.cells.length≤xs.length:=by omega
    have hl:(jE xs off x.cells).length=xs.length:=FA _ _ _ hb;obtain ⟨uL,f1,f2,f3⟩:=aaz place (cells:=v.cells.zipIdx.foldl (fun cs (p:Value×Nat)=>cs.setIfInBounds (off+p.2) p.1) cells) (xs:=jE xs off x.cells) h3 (by rw[aay,hl,hs])
     (fun j u y hu hy=>by
      rw[aax hv] at hu;unfold jE at hy;grind) h
    refine ⟨uL,?_,f2,f3⟩;simp only[Instr.fill,eL];grind
theorem alQ {t:TypeId} {parts:Array (Nat×Value)} {cells:Array Value} {z:Value} {i:TypeInfo} (hi:P.info? t=some i) (hz:i.zero=some z) (h:Instr.fill (placeOf P t) z.cells parts.toList=some cells) (ha:b8 P t=true)
  (eL: ∀fs,P.underlying t=some (.struct fs)→(fs.toList.mapM fun f=>(P.info? f.type).map fun i=>(f.offset,i.size)).isSome=true) (wv: ∀n e,P.underlying t=some (.array n e)→(P.info? e).isSome=true):
  (Instr.build t parts).run P w= .ok (.agg cells) w:=by
 refine run_build w t parts cells ?_;unfold Program.built;unfold b8 at ha;rw[hi];split at ha
 ·rename_i fs hu;have:=eL fs hu;cases hm:fs.toList.mapM fun f=>(P.info? f.type).map fun i=>(f.offset,i.size) with
  | none=>grind
  | some places=>
   simp only[hu,hz,hm];have hq:placeOf P t=fun i=>places[i]? :=by simp[placeOf,hu,hm]
   simp_all
 ·rename_i n e hu;have:=wv n e hu;cases n7:P.info? e with
  | none=>grind
  | some ie=>
   simp only[hu,hz,n7];have hq:placeOf P t=fun i=>some (i*ie.size,ie.size):=by simp[placeOf,hu,n7]
   grind
 ·cases ha
theorem aaA {α:Type}: ∀(xs ys:List V) (k:Rd α),pK (xs++ys) k=pK xs (pK ys k)
 | [],_,_=>rfl
 | x::xs,ys,k=>by simp only[List.cons_append,pK,aaA xs ys k]
theorem aaB {a:Act} {sl:Nat→V} (hs:oy P w I β hp a sl) {G:Nat→V} (hg:jZ P G w I) (t:TypeId) {α:Type}: ∀{l:List (Nat×Operand)} {k:Rd α} {r:α} {rd:List Nat},
  (pK ((l.map fun p=>(aS P G t sl p.2).cells).flatten) k).run C hp=some (r,rd)→
  Dh P w I β hp (l.map fun p=>(p.1,a.eval p.2)) (l.map fun p=>(p.1,aS P G t sl p.2))∧∃gS,k.run C hp=some (r,gS)
 | [],k,r,rd,h=>⟨.nil,rd,h⟩
 | (i,x)::l,k,r,rd,h=>by
  simp only[lD,List.flatten_cons,aaA] at h;obtain ⟨e1,e2⟩:=QF (hs.ev hg t x) h;obtain ⟨_,l1,h⟩:=K3 h (vs:=(a.eval x).cells.toList) (by omega) (fun j u y a b=>e2 j u y (by grind) b);obtain ⟨h1,h2⟩:=aaB hs hg t h;exact ⟨.cons e1 e2 h1,h2⟩
theorem alR (S:aA P w I β hp B M w0) {a:Act} {sl:Nat→V} (hs:oy P w I β hp a sl) {G:Nat→V} (hg:jZ P G w I) {t ty:TypeId} {ps:Array (Nat×Operand)} {r:R} {rd:List Nat}
  (h:(Rd.az (cY P t&&(b8 P t&&KF P t)) (pK ((ps.toList.map fun p=>(aS P G ty sl p.2).cells).flatten)
   (B0 (y9 (placeOf P t) (zeroCells P t) (ps.toList.map fun p=>(p.1,aS P G ty sl p.2))) fun cs=> .ret ⟨.agg cs,[]⟩))).run C hp=some (r,rd)):
  dj P ((Instr.build t (ps.map fun (i,x)=>(i,a.eval x))).run P w) w I β hp B M w0 r:=by
 obtain ⟨aq,h⟩:=aD h;simp only[aJ] at aq;obtain ⟨h1,l,h⟩:=aaB hs hg ty h;cases hf:y9 (placeOf P t) (zeroCells P t) (ps.toList.map fun p=>(p.1,aS P G ty sl p.2)) with
 | none=>rw[hf] at h;cases h
 | some cs=>
  rw[hf] at h;obtain rfl:=aN h;obtain ⟨i,z,hi,hz,h3,h4,h5⟩:=aat (w:=w) (I:=I) (β:=β) (hp:=hp) aq.1;obtain ⟨cells,f1,f2,f3⟩:=aaz (placeOf P t) h1 h3 h5 hf;have Gg:=aq.2.2;refine .same S (v:= .agg cells) (alQ hi hz (by simp_all) aq.2.1 (fun fs hu=> ?_) (fun n e hu=> ?_)) (.agg f2 f3)
  ·simpa[KF,hu] using Gg
  ·simpa[KF,hu] using Gg
theorem alS (cR: ∀id blk,hp id=some blk→fe P w I β hp (β id) blk) {x:V} {v:Value} {ys:List V} {fr:List (Nat×ah)} {rd:List Nat} {ts:List TypeId} (hv:aj P w I β hp v x)
  (h:(xA P x.cells).run C hp=some ((ys,fr),rd)) (ht:vA P ts ys=true):
  v.cells.size=x.cells.length∧∀(j:Nat) u y,v.cells.toList[j]? =some u→x.cells[j]? =some y→aj P w I β hp u y:=by
 cases x with
 | agg xs=>
  obtain ⟨cs,rfl,h1,h2⟩:=hv.nF;exact ⟨h1,fun j u y a b=>h2 j u y (by simpa[Value.cells] using a) b⟩
 | _=>
  simp only[V.cells] at h⊢;simp only[xA] at h;obtain ⟨⟨y1,u1⟩,l3,l4,hq,h⟩:=oA h;obtain ⟨q1,q2⟩:=Fq cR hq hv;obtain ⟨⟨y2,u2⟩,l5,l6,wu,h⟩:=oA h;cases wu;have:=aN h;cases this;obtain ⟨tl,tg⟩:=zr ht;have ff:=tg 0 _ y1 (bY (by grind)) rfl;have eL:=q2 (j4 P w I β hp u1) (fun _ _ h=> .inl h) (fun p hp b j h=> .inr ⟨p,hp,h⟩);have ho:=eL.pure ff;have aaq:v.cells= #[v]:=by cases ho<;>rfl
  grind
def Di (P:Program) (w:World) (I:Nat→Nat→Prop) (e:TypeId) (cells:Array Value) (es:List V):Prop:=
 cells.size=es.length*P.cellsOf e∧∀(i j:Nat) (x:V) (t':TypeId),es[i]? =some x→(aU P e)[j]? =some t'→j<P.cellsOf e→∃v,cells[i*P.cellsOf e+j]? =some v∧Pure P w I t' v (cf P e x j)
theorem Di.set {e:TypeId} {cells:Array Value} {es ys:List V} {i:Nat} {v:Value} (h:Di P w I e cells es) (hi:i<es.length) (hv:v.cells.size=P.cellsOf e) (hy:ys.length=P.cellsOf e)
  (hr: ∀(j:Nat) (t':TypeId) (u:Value) (y:V),(aU P e)[j]? =some t'→v.cells[j]? =some u→ys[j]? =some y→Pure P w I t' u y):
  Di P w I e (v.cells.zipIdx.foldl (fun cs (p:Value×Nat)=>cs.setIfInBounds (i*P.cellsOf e+p.2) p.1) cells) (es.set i (dv P e ys)):=by
 obtain ⟨h1,h2⟩:=h;have hb:i*P.cellsOf e+v.cells.size≤cells.size:=by
  have:(i+1)*P.cellsOf e≤es.length*P.cellsOf e:=eI _ hi;grind
 refine ⟨by rw[aay,pF,h1],fun i' j x t' hx ht hj=> ?_⟩;rw[aax hb];rw[EN] at hx;by_cases n0:i=i'
 ·subst n0;rw[aB rfl,aB hi] at hx;cases hx;rw[dq,dp,show i*P.cellsOf e+j-i*P.cellsOf e=j by omega];have h3:j<v.cells.size:=by omega
  have h4:j<ys.length:=by omega
  refine ⟨v.cells[j],lC h3,?_⟩;rw[vW (bY h4) ht];exact hr j t' _ _ ht (lC h3) (bY h4)
 ·rw[ax n0] at hx;have bp:i'*P.cellsOf e+j<i*P.cellsOf e∨i*P.cellsOf e+v.cells.size≤i'*P.cellsOf e+j:=by
   rcases jD i' i with aP|rj
   ·left;have:(i'+1)*P.cellsOf e≤i*P.cellsOf e:=eI _ aP;grind
   ·right;have:(i+1)*P.cellsOf e≤i'*P.cellsOf e:=eI _ (by omega);grind
  grind
theorem aaC {t':TypeId} {v:Value} (ff:fT P t' (qK (rO P t' v))=true):Pure P w I t' v (qK (rO P t' v)):=by
 have hc:=aj.const (P:=P) (w:=w) (I:=I) (β:=fun _=>none) (hp:=fun _=>none) t' v;cases z9:rO P t' v<;>rw[z9] at ff hc<;>simp only[qK] at ff⊢
 case int k n=>rw[hc.fW];exact Plain.pure (v:= .int k n) (y:= .int k n) rfl ff
 case bool b=>rw[hc.nE];exact Plain.pure (v:= .bool b) (y:= .bool b) rfl ff
 case str l=>obtain ⟨s,e1,e2⟩:=hc.oZ;rw[e1];exact Plain.pure (v:= .string s) (y:= .str l) ⟨s,rfl,e2⟩ ff
 case nilS e'=>
  cases hc;exact Plain.pure (y:= .list e' []) (kV.any fun _=>rfl) ff
 case list e' es=>
  cases hc with
  | list hp=>exact Plain.pure (y:= .list e' es) hp ff
 all_goals (unfold fT at ff;grind)
theorem aaD {t':TypeId} {v:Value} (ff:fT P t' (qK (rO P t' v))=true): ∀a n c,v= .slice a n c→c=0:=by
 intro a n c hv;subst hv;unfold rO at ff;split at ff<;>first|(rename_i h;cases h;rfl)|skip
 all_goals first|(simp_all;done)|(unfold fT qK at ff;split at ff<;>simp_all)
theorem Hc {e:TypeId} (h:pI P e=true): ∃i z,P.info? e=some i∧i.zero=some z∧i.size=P.cellsOf e∧z.cells.size=P.cellsOf e∧
  ∀(j:Nat) (t':TypeId),(aU P e)[j]? =some t'→j<P.cellsOf e→∃v,z.cells[j]? =some v∧Pure P w I t' v (cf P e (dv P e (jo P e)) j)∧∀a n c,v= .slice a n c→c=0:=by
 unfold pI at h;simp only[aJ] at h;obtain ⟨i,z,h1,h2,h3,h4,h5⟩:=ll h.1;refine ⟨i,z,h1,h2,h3,h4,fun j t' ht hj=> ?_⟩;obtain ⟨tl,tg⟩:=zr h.2;have dk:j<(jo P e).length:=by rw[←tl,(oY h.1).1];exact hj
 have hz:=bY dk;have ff:=tg j t' _ (by rw[←sZ];exact ht) hz;refine ⟨z.cells[j],lC (by omega),?_⟩;rw[vW hz ht];have Aa:(jo P e)[j]=qK (rO P t' z.cells[j]):=by
  have:(jo P e)[j]? =((zeroCells P e)[j]?).map qK:=by simp[jo]
  rw[hz] at this;cases hc:(zeroCells P e)[j]? with
  | none=>grind
  | some y=>
   rw[hc] at this;simp only[Option.map_some,fk] at this;rw[h5] at hc;obtain ⟨t2,v2,a1,a2,rfl⟩:=MK hc;have ML:t2=t':=by
    rw[←sZ,ht] at a1;grind
   grind
 rw[Aa] at ff⊢;exact ⟨aaC ff,aaD ff⟩
end
section
variable {P:Program} {w w':World} {I I':Nat→Nat→Prop} {β β':Nat→Option Nat} {hp hp':Nat→Option ah} {C:af} {B:Nat} {M:Nat→Prop} {w0:Start}
theorem aaE (S:aA P w I β hp B M w0) {nb cap:Nat} {fz:Bool} {e T:TypeId} {es:List V} {C0:Array Value} (aq:cY P e=true) (hn:hp nb=none) (hs:C0.size=cap*P.cellsOf e) (hl:es.length≤cap) (hm:cap≤maxLen) (hL:sU P T e C0.size)
  (hx: ∀(i j:Nat) (x:V) (t':TypeId),es[i]? =some x→(aU P e)[j]? =some t'→j<P.cellsOf e→∃v,C0[i*P.cellsOf e+j]? =some v∧Pure P w I t' v (cf P e x j)):
  Le P w I β hp (w.alloc (.cells C0 T)) I (ao β nb (some w.heap.size)) (ao hp nb (some (.arr e es fz)))∧aA P (w.alloc (.cells C0 T)) I (ao β nb (some w.heap.size)) (ao hp nb (some (.arr e es fz))) B M w0∧
  aj P (w.alloc (.cells C0 T)) I (ao β nb (some w.heap.size)) (ao hp nb (some (.arr e es fz))) (.slice (some ⟨w.heap.size,0,none⟩) es.length cap) (.whole e nb):=by
 obtain ⟨h1,h2⟩:=Qz S (blk:= .arr e es fz) (c:=C0) (T:=T) hn (fun b' h=>(dN (h.flat (by simp))).symm) (fun hle dG di=> .arr hL aq rfl dG (by rw[hs];exact eI _ hl) (fun _ j h=>absurd h (di j)) (fun _=>di) fun i j x t' a b c=>by
  obtain ⟨v,hv,hp⟩:=hx i j x t' a b c;exact ⟨v,hv,hp.mono hle.en hle.cM⟩)
 refine ⟨h1,h2,.whole (bJ _ _ _) (bJ _ _ _) ?_ hl hm⟩;rw[lL (heap_alloc_new w (.cells C0 T)),hs]
theorem Dj (S:aA P w I β hp B M w0) {nb cap:Nat} {fz:Bool} {e:TypeId} {es:List V} {C0:Array Value} (aq:cY P e=true) (hn:hp nb=none) (hs:C0.size=cap*P.cellsOf e) (hl:es.length≤cap) (hm:cap≤maxLen)
  (hx: ∀(i j:Nat) (x:V) (t':TypeId),es[i]? =some x→(aU P e)[j]? =some t'→j<P.cellsOf e→∃v,C0[i*P.cellsOf e+j]? =some v∧Pure P w I t' v (cf P e x j)):
  Le P w I β hp (w.alloc (.cells C0 e)) I (ao β nb (some w.heap.size)) (ao hp nb (some (.arr e es fz)))∧aA P (w.alloc (.cells C0 e)) I (ao β nb (some w.heap.size)) (ao hp nb (some (.arr e es fz))) B M w0∧
  aj P (w.alloc (.cells C0 e)) I (ao β nb (some w.heap.size)) (ao hp nb (some (.arr e es fz))) (.slice (some ⟨w.heap.size,0,none⟩) es.length cap) (.whole e nb):=
 aaE S aq hn hs hl hm sU.self hx
theorem aaF {b n:Nat} {Ca C':Array Value} {T T':TypeId} {f f':Nat×Nat} (hh:w.heap[b]? =some (.cells Ca T f)) (zj:w'.heap[b]? =some (.cells C' T' f')) (hI: ∀j,I b j→j<n) (hp: ∀j,j<n→C'[j]? =Ca[j]?) (j:Nat) (h:I b j):
  w'.cell? ⟨b,j,none⟩=w.cell? ⟨b,j,none⟩:=by
 rw[cell?_cells hh,cell?_cells zj];grind
theorem Sa {b n:Nat} {fz:Bool} (hf:fz=true→∀j,I b j→j<n) (fN:fz=false→∀j,¬I b j): ∀j,I b j→j<n:=by
 intro j h;cases fz with
 | true=>grind
 | false=>grind
theorem At.only {b b':Nat} {e e' T:TypeId} {es aK:List V} {q:Path} {Ca:Array Value} {f:Nat×Nat} (hh:w.heap[b]? =some (.cells Ca T f)) (hz: ∀(i j:Nat) x t' v,es[i]? =some x→(aU P e)[j]? =some t'→Ca[i*P.cellsOf e+j]? =some v→∀a n c,v= .slice a n c→c=0)
  (h:At P w b e es q b' e' aK):q=[]∧b'=b∧e'=e∧aK=es:=by
 cases h with
 | here=>grind
 | step h1 h2 h3 h4 h5 h6 h7=>grind
theorem pW.uo {t:TypeId} {v:Value} {x:V} (h:Pure P w I t v x) (hc: ∀a n c,v= .slice a n c→c=0):pW P w I t v x:=by
 cases h with
 | int h=>exact .gB (by unfold dX;rw[h]) (.int h)
 | bool h=>exact .gB (by unfold dX;rw[h]) (.bool h)
 | str h hl=>exact .gB (by unfold dX;rw[h]) (.str h hl)
 | nil h=>exact .emp h
 | emp h=>have:=hc _ _ _ rfl;subst this;exact .emp h
 | list g hu hl hle _ _ _=>
  have:=hc _ _ _ rfl;subst this;obtain rfl:=xr.1 hle;obtain rfl:=vr.1 hl;exact .emp hu
theorem aaG (S:aA P w I β hp B M w0) {nb cap:Nat} {e T:TypeId} {es:List V} {C0:Array Value} (aq:cY P e=true) (hn:hp nb=none) (hs:C0.size=cap*P.cellsOf e) (hl:es.length≤cap) (hm:cap≤maxLen) (hL:sU P T e C0.size)
  (hx: ∀(i j:Nat) (x:V) (t':TypeId),es[i]? =some x→(aU P e)[j]? =some t'→j<P.cellsOf e→∃v,C0[i*P.cellsOf e+j]? =some v∧Pure P w I t' v (cf P e x j)∧∀a n c,v= .slice a n c→c=0):
  Le P w I β hp (w.alloc (.cells C0 T)) I (ao β nb (some w.heap.size)) (ao hp nb (some (.nest e es [0,0,0])))∧aA P (w.alloc (.cells C0 T)) I (ao β nb (some w.heap.size)) (ao hp nb (some (.nest e es [0,0,0]))) B M w0∧
  aj P (w.alloc (.cells C0 T)) I (ao β nb (some w.heap.size)) (ao hp nb (some (.nest e es [0,0,0]))) (.slice (some ⟨w.heap.size,0,none⟩) es.length cap) (.whole e nb):=by
 have hz: ∀(i j:Nat) x t' v,es[i]? =some x→(aU P e)[j]? =some t'→C0[i*P.cellsOf e+j]? =some v→∀a n c,v= .slice a n c→c=0:=fun i j x t' v a b h=>by
  obtain ⟨v',h1,_,h3⟩:=hx i j x t' a b (by rw[←fH aq];grind);grind
 obtain ⟨h1,h2⟩:=Qz S (blk:= .nest e es [0,0,0]) (c:=C0) (T:=T) hn (fun b' h=>by
   cases h with
   | root _ h=>grind
   | row h ha=>cases h;exact (At.only (heap_alloc_new w _) hz ha).2.1)
  (fun hle dG di=> .nest rfl (fun q b' e' aK ha=>by
   obtain ⟨rfl,rfl,rfl,rfl⟩:=At.only dG hz ha;refine ⟨aq,⟨C0,_,dG,hL,by rw[hs];exact eI _ hl,fun i j x t' a b c=> ?_⟩,di⟩;obtain ⟨v,hv,hp⟩:=hx i j x t' a b c;exact ⟨v,hv,.uo (hp.1.mono hle.en hle.cM) hp.2⟩)
   fun q1 q2 b' e1 dh e2 bW a1 a2=>(At.only dG hz a1).1.trans (At.only dG hz a2).1.symm)
 refine ⟨h1,h2,.dO (bJ _ _ _) (bJ _ _ _) ?_ hl hm⟩;rw[lL (heap_alloc_new w (.cells C0 T)),hs]
theorem alT (S:aA P w I β hp B M w0) {nb cap:Nat} {e:TypeId} {es:List V} {C0:Array Value} (aq:cY P e=true) (hn:hp nb=none) (hs:C0.size=cap*P.cellsOf e) (hl:es.length≤cap) (hm:cap≤maxLen)
  (hx: ∀(i j:Nat) (x:V) (t':TypeId),es[i]? =some x→(aU P e)[j]? =some t'→j<P.cellsOf e→∃v,C0[i*P.cellsOf e+j]? =some v∧Pure P w I t' v (cf P e x j)∧∀a n c,v= .slice a n c→c=0):
  Le P w I β hp (w.alloc (.cells C0 e)) I (ao β nb (some w.heap.size)) (ao hp nb (some (.nest e es [0,0,0])))∧aA P (w.alloc (.cells C0 e)) I (ao β nb (some w.heap.size)) (ao hp nb (some (.nest e es [0,0,0]))) B M w0∧
  aj P (w.alloc (.cells C0 e)) I (ao β nb (some w.heap.size)) (ao hp nb (some (.nest e es [0,0,0]))) (.slice (some ⟨w.heap.size,0,none⟩) es.length cap) (.whole e nb):=
 aaG S aq hn hs hl hm sU.self hx
theorem alU (S:aA P w I β hp B M w0) {e:TypeId} {nb:Nat} {r:R} {rd:List Nat} (h:(P8 P nb e).run C hp=some (r,rd)):dj P ((Instr.alloc e true (.tuple #[])).run P w) w I β hp B M w0 r:=by
 unfold P8 at h;split at h
 ·rename_i n e1 hu;obtain ⟨hc,h1⟩:=aD h;clear h;simp only[aJ,aL,gx,nw,ib] at hc;obtain ⟨aq,pb,pc,hn,hm,gR,ff,aaH⟩:=hc;obtain ⟨Dk,rfl⟩:=nj h1;obtain ⟨i,z,hi,hz,h3,h4,h5⟩:=ll aq;have lk:aU P e1=[e1]:=by simp[aU,pc]
  have hk:P.cellsOf e1=1:=by rw[←fH pb,lk];rfl
  have hlen:((zeroCells P e).map qK).length≤n:=by
   rw[h5,dE,←hn,←h4];have go: ∀(ts:List TypeId) (vs:List Value),(kj P ts vs).length≤vs.length:=by
    intro ts
    induction ts with
    | nil=>intro vs;simp[kj]
    | cons t ts ih=>intro vs;cases vs with
     | nil=>simp[kj]
     | cons v vs=>simpa[kj] using ih vs
   grind
  have hx: ∀(i j:Nat) (x:V) (t':TypeId),((zeroCells P e).map qK)[i]? =some x→(aU P e1)[j]? =some t'→j<P.cellsOf e1→∃v,z.cells[i*P.cellsOf e1+j]? =some v∧Pure P w I t' v (cf P e1 x j)∧∀a n c,v= .slice a n c→c=0:=by
   intro i j x t' hx ht hj;rw[hk] at hj⊢;obtain rfl:j=0:=by omega
   rw[lk] at ht;simp only[List.getElem?_cons_zero,fk] at ht;subst ht;have MM:=ib.1 ff x (mN hx);rw[ki] at hx;cases hc:(zeroCells P e)[i]? with
   | none=>grind
   | some y=>
    rw[hc] at hx;cases hx;rw[h5] at hc;obtain ⟨t2,v2,a1,a2,rfl⟩:=MK hc;have ML:e1=t2:=by simpa using gR t2 (mN a1)
    subst ML;simp only[cf,pc,cond_false];exact ⟨v2,by grind,aaC MM,aaD MM⟩
  have hL:sU P e e1 z.cells.size:=fun hb _ k qW=>by
   grind
  have cP:(Instr.alloc e true (.tuple #[])).run P w= .ok (.pointer (some ⟨w.heap.size,0,none⟩)) (w.alloc (.cells z.cells e)):=by
   simp[Instr.alloc,zeroValue,typeInfo,hi,hz,newVar,newRow]
  have hs:z.cells.size=n*P.cellsOf e1:=by grind
  cases dX P e1 with
  | true=>
   obtain ⟨a,b,_⟩:=aaE S (nb:=nb) (fz:=false) pb Dk hs hlen hm hL fun i j x t' p q r=>(hx i j x t' p q r).imp fun _ h=>⟨h.1,h.2.1⟩
   refine ⟨_,_,_,_,cP,a,b,?_⟩;have:=aj.ptr (P:=P) (w:=w.alloc (.cells z.cells e)) (I:=I) (β:=ao β nb (some w.heap.size)) (hp:=ao hp nb (some (.arr e1 ((zeroCells P e).map qK) false))) (i:=0) (c:=0) (bJ _ _ _) (by simp) (bJ _ _ _);rw[EK] at this;exact this
  | false=>
   obtain ⟨a,b,_⟩:=aaG S (nb:=nb) pb Dk hs hlen hm hL hx;refine ⟨_,_,_,_,cP,a,b,?_⟩;have:=aj.ptr (P:=P) (w:=w.alloc (.cells z.cells e)) (I:=I) (β:=ao β nb (some w.heap.size)) (hp:=ao hp nb (some (.nest e1 ((zeroCells P e).map qK) [0,0,0]))) (i:=0) (c:=0) (bJ _ _ _) (by simp) (bJ _ _ _);rw[EK] at this;exact this
 ·cases h
theorem aaI (cR: ∀id blk,hp id=some blk→fe P w I β hp (β id) blk) {a:Act} {sl:Nat→V} (hs:oy P w I β hp a sl) {G:Nat→V} (hg:jZ P G w I) {e:TypeId} {len:Nat}: ∀{l:List (Nat×Operand)} {ps:List (Nat×V)} {upd:List (Nat×ah)} {rd:List Nat},
  (EY P e len (l.map fun p=>(p.1,aS P G e sl p.2))).run C hp=some ((ps,upd),rd)→cY P e=true→(∀p∈upd,Ce hp p)∧∀I':Nat→Nat→Prop,(∀b j,I b j→I' b j)→(∀p∈upd,∀b j,xM P w β hp p.1 b j→I' b j)→
   ∀(cells:Array Value) (es:List V),es.length=len→Di P w I' e cells es→∃uL,Instr.fill (fun i=>some (i*P.cellsOf e,P.cellsOf e)) cells (l.map fun p=>(p.1,a.eval p.2))=some uL∧Di P w I' e uL (EX es ps)∧(EX es ps).length=len
 | [],ps,upd,rd,h,_=>by
  cases h;exact ⟨by simp,fun I' _ _ cells es hl he=>⟨cells,by simp[Instr.fill],he,hl⟩⟩
 | (i,x)::l,ps,upd,rd,h,aq=>by
  simp only[lD,EY] at h;obtain ⟨⟨ys,u1⟩,l1,l2,h1,h⟩:=oA h;obtain ⟨hc,h⟩:=aD h;obtain ⟨⟨ps',u2⟩,l3,l4,h2,h⟩:=oA h;have:=aN h;cases this;simp only[aJ,nt] at hc;obtain ⟨hi,ff⟩:=hc;obtain ⟨tl,tg⟩:=zr ff;have qR:=hs.ev hg e x;obtain ⟨v1,v2⟩:=alS cR qR h1 ff;obtain ⟨k1,k2,k3⟩:=Qw cR h1 (vs:=(a.eval x).cells.toList) (by omega) v2;obtain ⟨m1,m2⟩:=aaI cR hs hg h2 aq;refine ⟨fun p hp=> ?_,fun I' i1 i2 cells es hl he=> ?_⟩
  ·grind
  ·have eL:=k3 I' i1 (fun p hp=>i2 p (fj.2 (.inl hp)));have bc:=(oY aq).1;have yn:ys.length=P.cellsOf e:=by omega
   have K6:(a.eval x).cells.size=P.cellsOf e:=by omega
   have Dl:=he.set (i:=i) (ys:=ys) (by omega) K6 yn (fun j t' u y ht hu hy=>by
    exact (eL j u y (by grind) hy).pure (tg j t' y (by rw[←sZ];exact ht) hy))
   obtain ⟨uL,f1,f2,f3⟩:=m2 I' i1 (fun p hp=>i2 p (fj.2 (.inr hp))) _ (es.set i (dv P e ys)) (by grind) Dl;refine ⟨uL,?_,f2,f3⟩;have hb:i*P.cellsOf e+P.cellsOf e≤cells.size:=by
    rw[he.1,hl];have:(i+1)*P.cellsOf e≤len*P.cellsOf e:=eI _ hi;grind
   simp only[lD,Instr.fill];grind
theorem aaJ {z:Array Value} {n k:Nat} (hk:k<n) (hz:0<z.size):((Array.range n).map (z[· %z.size]!))[k]? =z[k %z.size]? :=by
 have hm:k %z.size<z.size:=yY _ hz;grind
theorem aaK {e:TypeId} (h:pI P e=true) {i:TypeInfo} {z:Value} (hi:P.info? e=some i) (hz:i.zero=some z) (n m:Nat) (qJ:n≤m):
  ∀(k j:Nat) (x:V) (t':TypeId),(List.replicate n (dv P e (jo P e)))[k]? =some x→(aU P e)[j]? =some t'→j<P.cellsOf e→
   ∃v,((Array.range (m*P.cellsOf e)).map (z.cells[· %z.cells.size]!))[k*P.cellsOf e+j]? =some v∧Pure P w I t' v (cf P e x j)∧∀a n c,v= .slice a n c→c=0:=by
 intro k j x t' hx ht hj;obtain ⟨i2,z2,h1,h2,h3,h4,h5⟩:=Hc (w:=w) (I:=I) h;rw[hi] at h1;cases h1;rw[hz] at h2;cases h2;rw[List.getElem?_replicate] at hx;split at hx
 ·rename_i hk;cases hx;obtain ⟨v,hv,hp⟩:=h5 j t' ht hj;refine ⟨v,?_,hp⟩;have hb:k*P.cellsOf e+j<m*P.cellsOf e:=by
   have:(k+1)*P.cellsOf e≤m*P.cellsOf e:=eI _ (by omega);grind
  rw[aaJ hb (by omega),h4,show (k*P.cellsOf e+j) %P.cellsOf e=j by rw[xo,Nat.mul_add_mod];exact Nat.mod_eq_of_lt hj];exact hv
 ·cases hx
theorem Sb {e:TypeId} (h:pI P e=true) {i:TypeInfo} {z:Value} (hi:P.info? e=some i) (hz:i.zero=some z) (n m:Nat) (qJ:n≤m):
  ∀(k j:Nat) (x:V) (t':TypeId),(List.replicate n (dv P e (jo P e)))[k]? =some x→(aU P e)[j]? =some t'→j<P.cellsOf e→
   ∃v,((Array.range (m*P.cellsOf e)).map (z.cells[· %z.cells.size]!))[k*P.cellsOf e+j]? =some v∧Pure P w I t' v (cf P e x j):=fun k j x t' a b c=>(aaK h hi hz n m qJ k j x t' a b c).imp fun _ h=>⟨h.1,h.2.1⟩
theorem Sd {P:Program} (w:World) (t e:TypeId) (len:Nat) (parts:Array (Nat×Value)) (cells:Array Value) (ie:TypeInfo) (z:Value)
  (hu:P.underlying t=some (.slice e)) (n7:P.info? e=some ie) (hz:ie.zero=some z) (alV: ¬len*ie.size>2^24)
  (h:Instr.fill (fun i=>some (i*ie.size,ie.size)) ((Array.range (len*ie.size)).map (z.cells[· %z.cells.size]!)) parts.toList=some cells):
  (Instr.buildSlice t len parts).run P w= .ok (.slice (some ⟨w.heap.size,0,none⟩) len len) (w.alloc (.cells cells e)):=by
 by_cases qJ:len*ie.size=0
 ·have h0: ∀g:Nat→Value,(Array.range (len*ie.size)).map g= #[]:=by grind
  have hp: ∀(u:Array Value),(Pure.pure u:Sem (Array Value)).run P w= .ok u w:=fun _=>rfl;rw[h0] at h;simp only[Instr.buildSlice,Sem.run_bind,run_underlying hu,Result.andThen_ok,sizeOf,typeInfo,n7];have h1:(Array.range (len*ie.size)).map (fun _:Nat=>(default:Value))= #[]:=h0 _;have hs: ¬16777216<len*ie.size:=by omega
  simp[n7,hs,qJ];simp only[qJ] at h1;simp[h1,h,newRow]
 ·exact run_buildSlice w t e len parts cells ie z hu n7 hz alV qJ h
theorem aaL (S:aA P w I β hp B M w0) {a:Act} {sl:Nat→V} (hs:oy P w I β hp a sl) {G:Nat→V} (hg:jZ P G w I) {t e:TypeId} {len nb:Nat} {ps:Array (Nat×Operand)} {r:R} {rd:List Nat} (hu:P.underlying t=some (.slice e))
  (h:(Rd.az (pI P e&&Nat.ble (len*P.cellsOf e) (2^24)) ((EY P e len (ps.toList.map fun p=>(p.1,aS P G e sl p.2))).bind fun r=>
    jF nb (.arr e (EX (List.replicate len (dv P e (jo P e))) r.1) false) (.whole e nb) r.2)).run C hp=some (r,rd)):
  dj P ((Instr.buildSlice t len (ps.map fun (i,x)=>(i,a.eval x))).run P w) w I β hp B M w0 r:=by
 obtain ⟨hc,h⟩:=aD h;simp only[aJ,gx] at hc;obtain ⟨fJ,Fl⟩:=hc;have aq:cY P e=true:=by
  unfold pI at fJ;grind
 obtain ⟨⟨pv,upd⟩,l1,l2,h1,h⟩:=oA h;obtain ⟨hn,rfl⟩:=nj h;obtain ⟨m1,m2⟩:=aaI S.h.rel hs hg h1 aq;obtain ⟨sj,S1⟩:=Ci S m1;obtain ⟨i,z,hi,hz,h3,h4,_⟩:=Hc (w:=w) (I:=I) fJ;have gM:=(oY aq).2;have h0:Di P w (j4 P w I β hp upd) e ((Array.range (len*P.cellsOf e)).map (z.cells[· %z.cells.size]!)) (List.replicate len (dv P e (jo P e))):=
  ⟨by simp,Sb fJ hi hz len len (aw _)⟩
 obtain ⟨cells,f1,f2,f3⟩:=m2 (j4 P w I β hp upd) (fun _ _ h=> .inl h) (fun p hp b j h=> .inr ⟨p,hp,h⟩) _ _ (by simp) h0;have ju:cb hp upd nb=none:=by
  rcases xN (hp:=hp) (l:=upd) (id:=nb) with h|⟨b',hm,_⟩
  ·grind
  ·obtain ⟨e1,dh,_,h5⟩:=m1 _ hm;grind
 have s6:len≤maxLen:=by
  have:len*1≤len*P.cellsOf e:=xt _ gM;simp only[maxLen];omega
 obtain ⟨n1,n2,n3⟩:=Dj S1 (cap:=len) aq ju (by rw[f2.1,f3]) (by omega) s6 f2.2;have cP:=Sd w t e len (ps.map fun (i,x)=>(i,a.eval x)) cells i z hu hi hz (by grind) (by simp_all);refine ⟨_,_,_,_,cP,sj.trans n1,n2,?_⟩;rw[f3] at n3;exact n3
theorem aaM (S:aA P w I β hp B M w0) {t e:TypeId} {nb:Nat} {kl kc:IntKind} {n m:Int} {r:R} {rd:List Nat} (hu:P.underlying t=some (.slice e))
  (h:(Rd.az (pI P e&&(decide (0≤n)&&(decide (n≤m)&&Nat.ble (m.toNat*P.bytesOf e) aY)))
    (jF nb (.arr e (List.replicate n.toNat (dv P e (jo P e))) false) (.whole e nb) [])).run C hp=some (r,rd)):
  dj P ((Instr.makeSlice t (.int kl n) (.int kc m)).run P w) w I β hp B M w0 r:=by
 obtain ⟨hc,h⟩:=aD h;simp only[aJ,gx,jU] at hc;obtain ⟨fJ,h0,qJ,ey⟩:=hc;have aq:cY P e=true:=by
  unfold pI at fJ;grind
 obtain ⟨hn,rfl⟩:=nj h;obtain ⟨i,z,hi,hz,h3,h4,_⟩:=Hc (w:=w) (I:=I) fJ;have oL:P.bytesOf e=i.bytes:=by simp[Program.bytesOf,hi]
 have Se:m≤9223372036854775807:=by
  have h1:m.toNat*1≤m.toNat*P.bytesOf e:=xt _ (zi aq);simp only[aY] at ey;omega
 have cP:=run_make (P:=P) w t e i z hu hi hz kl kc n m h0 qJ (by
  rw[oL] at ey;simp only[aY] at ey;grind) Se
 have hlen:(List.replicate n.toNat (dv P e (jo P e))).length=n.toNat:=by simp
 obtain ⟨n1,n2,n3⟩:=Dj S (cap:=m.toNat) (es:=List.replicate n.toNat (dv P e (jo P e))) (C0:=madeCells z.cells (m.toNat*i.size)) aq hn (by rw[size_madeCells,h3]) (by omega) (by simp only[maxLen];omega)
  (by rw[h3];exact Sb fJ hi hz n.toNat m.toNat (by omega))
 refine ⟨_,_,_,_,cP,n1,n2,?_⟩;rw[hlen] at n3;exact n3
theorem alW (S:aA P w I β hp B M w0) {t e:TypeId} {nb:Nat} {kl kc:IntKind} {n m:Int} {r:R} {rd:List Nat} (hu:P.underlying t=some (.slice e))
  (h:(Rd.az (pI P e&&(decide (0≤n)&&(decide (n≤m)&&Nat.ble (m.toNat*P.bytesOf e) aY)))
    (jF nb (.nest e (List.replicate n.toNat (dv P e (jo P e))) [0,0,0]) (.whole e nb) [])).run C hp=some (r,rd)):
  dj P ((Instr.makeSlice t (.int kl n) (.int kc m)).run P w) w I β hp B M w0 r:=by
 obtain ⟨hc,h⟩:=aD h;simp only[aJ,gx,jU] at hc;obtain ⟨fJ,h0,qJ,ey⟩:=hc;have aq:cY P e=true:=by
  unfold pI at fJ;grind
 obtain ⟨hn,rfl⟩:=nj h;obtain ⟨i,z,hi,hz,h3,h4,_⟩:=Hc (w:=w) (I:=I) fJ;have oL:P.bytesOf e=i.bytes:=by simp[Program.bytesOf,hi]
 have Se:m≤9223372036854775807:=by
  have h1:m.toNat*1≤m.toNat*P.bytesOf e:=xt _ (zi aq);simp only[aY] at ey;omega
 have cP:=run_make (P:=P) w t e i z hu hi hz kl kc n m h0 qJ (by
  rw[oL] at ey;simp only[aY] at ey;grind) Se
 have hlen:(List.replicate n.toNat (dv P e (jo P e))).length=n.toNat:=by simp
 obtain ⟨n1,n2,n3⟩:=alT S (cap:=m.toNat) (es:=List.replicate n.toNat (dv P e (jo P e))) (C0:=madeCells z.cells (m.toNat*i.size)) aq hn (by rw[size_madeCells,h3]) (by omega) (by simp only[maxLen];omega)
  (by rw[h3];exact aaK fJ hi hz n.toNat m.toNat (by omega))
 refine ⟨_,_,_,_,cP,n1,n2,?_⟩;rw[hlen] at n3;exact n3
theorem Pure.one {t:TypeId} {v:Value} {x:V} (h:Pure P w I t v x):v.oneCell'=true:=by cases h<;>rfl
structure Row (P:Program) (w:World) (I:Nat→Nat→Prop) (e:TypeId) (v:Value) (xs:List V) (a:Addr) (c:Nat) (news:List Value):Prop where
 val:v= .slice (some a) xs.length c
 len:news.length=xs.length*P.cellsOf e
 cell: ∀(j:Nat) u,news[j]? =some u→w.cell? (a.add j)=some u
 el: ∀(i j:Nat) (x:V) (t':TypeId),xs[i]? =some x→(aU P e)[j]? =some t'→j<P.cellsOf e→∃u,news[i*P.cellsOf e+j]? =some u∧Pure P w I t' u (cf P e x j)
theorem Row.one {e:TypeId} {v:Value} {xs:List V} {a:Addr} {c:Nat} {news:List Value} (h:Row P w I e v xs a c news) (aq:cY P e=true): ∀u∈news,u.oneCell'=true:=by
 intro u hu;obtain ⟨k,hk⟩:=uc hu;have uM:=(cz.1 hk).1;have gM:=(oY aq).2;rw[h.len] at uM;have hi:k/P.cellsOf e<xs.length:=Nat.div_lt_of_lt_mul (by grind);have hj:k %P.cellsOf e<P.cellsOf e:=yY _ gM;have fY:k %P.cellsOf e<(aU P e).length:=by rw[fH aq];exact hj
 obtain ⟨u',lX,hp⟩:=h.el (k/P.cellsOf e) (k %P.cellsOf e) _ _ (bY hi) (bY fY) hj;rw[Nat.div_add_mod'] at lX;rw[hk] at lX;cases lX;exact hp.one
theorem aaN {e T:TypeId} {es:List V} {b:Nat} {Ca:Array Value} {off len cap o:Nat} (hh:w.heap[b]? =some (.cells Ca T (0,0))) (hs:es.length*P.cellsOf e≤Ca.size)
  (hx: ∀(i j:Nat) (x:V) (t':TypeId),es[i]? =some x→(aU P e)[j]? =some t'→j<P.cellsOf e→∃v,Ca[i*P.cellsOf e+j]? =some v∧Pure P w I t' v (cf P e x j))
  (mY:off+len≤es.length) (ho:0<len→o=off*P.cellsOf e):
  Row P w I e (.slice (some ⟨b,o,none⟩) len cap) ((es.drop off).take len) ⟨b,o,none⟩ cap ((Ca.toList.drop (off*P.cellsOf e)).take (len*P.cellsOf e)):=by
 have hlen:((es.drop off).take len).length=len:=by simp;omega
 have hb:(off+len)*P.cellsOf e≤Ca.size:=mM (eI _ mY) hs;rw[jn] at hb;refine ⟨by rw[hlen],by grind,fun j u hj=> ?_,fun i j x t' nG ht hj=> ?_⟩
 ·have dk:=(cz.1 hj).1;have alX:j<len*P.cellsOf e:=by
   grind
  have mZ:0<len:=by
   grind
  rw[jB alX,rM] at hj;rw[oC,cell?_cells hh,ho mZ];grind
 ·have hi:i<len:=by grind
  rw[jB hi,rM] at nG;obtain ⟨u,hu,hp⟩:=hx (off+i) j x t' nG ht hj;refine ⟨u,?_,hp⟩;have:i*P.cellsOf e+j<len*P.cellsOf e:=by
   have:(i+1)*P.cellsOf e≤len*P.cellsOf e:=eI _ hi;grind
  grind
theorem Hd (cR: ∀id blk,hp id=some blk→fe P w I β hp (β id) blk) {e:TypeId} {v:Value} {x:V} {k:List V→Rd R} {r:R} {rd:List Nat} (aq:cY P e=true) (hv:aj P w I β hp v x)
  (h:(vF e x k).run C hp=some (r,rd)): ∃xs,(((∃a,v= .slice a 0 0)∧xs=[])∨∃a c news,Row P w I e v xs a c news)∧∃l,(k xs).run C hp=some (r,l):=by
 cases hv with
 | list hp'=>
  obtain ⟨hc,h2⟩:=aD h;clear h;rw[aL] at hc;subst hc;cases hp' with
  | nil=>grind
  | @emp a cap=>exact ⟨[],.inr ⟨a,cap,[],⟨rfl,by simp,fun j u hj=>by simp at hj,fun i j x t' hx _ _=>by simp at hx⟩⟩,rd,h2⟩
  | @list b o len cap es g hl bQ hI gL hx=>
   refine ⟨_,.inr ⟨⟨b,o,none⟩,cap,(List.range (len*P.cellsOf e)).map fun k=>g (k/P.cellsOf e) (k %P.cellsOf e),⟨by rw[hl],by grind,fun j u hj=> ?_,fun i j x t' nG ht hj=> ?_⟩⟩,rd,h2⟩
   ·obtain ⟨dk,zp⟩:=cz.1 hj;simp at dk zp;have gM:=(oY aq).2;have hi:j/P.cellsOf e<len:=Nat.div_lt_of_lt_mul (by grind);have dw:j %P.cellsOf e<P.cellsOf e:=yY _ gM;rw[oC,←zp];have:=gL (j/P.cellsOf e) (j %P.cellsOf e) hi dw;rwa [Nat.div_add_mod'] at this
   ·have hi:i<len:=by grind
    have hb:i*P.cellsOf e+j<len*P.cellsOf e:=by
     have:(i+1)*P.cellsOf e≤len*P.cellsOf e:=eI _ hi;grind
    refine ⟨g i j,?_,hx i j x t' nG ht⟩;have e1:(i*P.cellsOf e+j)/P.cellsOf e=i:=by
     rw[xo,Nat.mul_add_div (oY aq).2,Nat.div_eq_of_lt hj,Nat.add_zero]
    have e2:(i*P.cellsOf e+j) %P.cellsOf e=j:=by
     rw[xo,Nat.mul_add_mod];exact Nat.mod_eq_of_lt hj
    grind
 | nl=>cases h
 | nilS=>
  obtain ⟨hc,h⟩:=aD h;grind
 | dV ae hb=>
  obtain ⟨l,h⟩:=run_get h;simp only[ae] at h;obtain ⟨hc,h⟩:=aD h;grind
 | @whole e' id es fz b cap ae hb bc bQ hm=>
  obtain ⟨l,h⟩:=run_get h;simp only[ae] at h;obtain ⟨hc,h2⟩:=aD h;clear h;simp only[aJ,aL] at hc;obtain ⟨rfl,_⟩:=hc;have hr:=cR _ _ ae;cases hr with
  | eF au=>grind
  | arr hL QD au hh hs hf fN hx=>
   rw[hb] at au;cases au;have:=aaN (cap:=cap) (off:=0) (len:=es.length) (o:=0) hh hs hx (by omega) (fun _=>by simp);grind
 | jh ae hb=>
  obtain ⟨l,h⟩:=run_get h;simp only[ae] at h;obtain ⟨hc,h⟩:=aD h;grind
 | @sub e' id off len es fz b o cap ae hb mY bQ ho=>
  obtain ⟨l,h⟩:=run_get h;simp only[ae] at h;obtain ⟨hc,h2⟩:=aD h;clear h;simp only[aJ,aL] at hc;obtain ⟨rfl,_⟩:=hc;have hr:=cR _ _ ae;cases hr with
  | eF au=>grind
  | arr hL QD au hh hs hf fN hx=>
   rw[hb] at au;cases au;exact ⟨_,.inr ⟨_,_,_,aaN (cap:=cap) hh hs hx mY ho⟩,l,h2⟩
 | dZ ae=>
  obtain ⟨l,h⟩:=run_get h;simp only[ae] at h;cases h
 | jK ae=>
  obtain ⟨l,h⟩:=run_get h;simp only[ae] at h;cases h
 | undef=>cases h
 | int=>cases h
 | bool=>cases h
 | str=>cases h
 | agg=>cases h
 | bd=>cases h
 | eJ=>cases h
 | fn=>cases h
 | pref=>cases h
 | mV=>cases h
 | ptr=>cases h
 | mW=>cases h
 | mX=>cases h
 | row=>cases h
 | dF=>cases h
 | fc=>cases h
 | lJ=>cases h
 | cK=>cases h
 | ee ae=>
  obtain ⟨l,h⟩:=run_get h;simp only[ae] at h;cases h
 | fG ae=>
  obtain ⟨l,h⟩:=run_get h;simp only[ae] at h;cases h
 | dO ae=>
  obtain ⟨l,h⟩:=run_get h;simp only[ae] at h;cases h
theorem Dm {t ty e:TypeId} {i:TypeInfo} (ht:P.underlying t=some (.slice e)) (hi:P.info? e=some i) (a:Option Addr) (n cap:Nat) (x:Value) (hx: ∃a c,x= .slice a 0 c) (hn:n≤cap):
  (Builtin.append_ #[t,t] ty #[.slice a n cap,x]).run P w= .ok (.slice a n cap) w:=by
 obtain ⟨a',c,rfl⟩:=hx;cases a' with
 | none=>cases a<;>simp[Builtin.append_,run_underlying ht,sizeOf,typeInfo,hi,Builtin.lenOf,Builtin.firstCells,hn,storeCells]
 | some a'=>cases a<;>simp[Builtin.append_,run_underlying ht,sizeOf,typeInfo,hi,Builtin.lenOf,Builtin.firstCells,hn,storeCells,loadCells,loadCellsFrom]
theorem MN {e:TypeId} {es xs:List V} {n:Nat} {c:List Value} {news:List Value} (hn:es.length=n)
  (h1: ∀(i j:Nat) (x:V) (t':TypeId),es[i]? =some x→(aU P e)[j]? =some t'→j<P.cellsOf e→∃v,c[i*P.cellsOf e+j]? =some v∧Pure P w I t' v (cf P e x j))
  (h2: ∀(i j:Nat) (x:V) (t':TypeId),xs[i]? =some x→(aU P e)[j]? =some t'→j<P.cellsOf e→∃v,news[i*P.cellsOf e+j]? =some v∧Pure P w I t' v (cf P e x j))
  (hb:n*P.cellsOf e≤c.length) (rest:List Value):
  ∀(i j:Nat) (x:V) (t':TypeId),(es++xs)[i]? =some x→(aU P e)[j]? =some t'→j<P.cellsOf e→∃v,(c.take (n*P.cellsOf e)++news++rest)[i*P.cellsOf e+j]? =some v∧Pure P w I t' v (cf P e x j):=by
 intro i j x t' hx ht hj;have hl:(c.take (n*P.cellsOf e)).length=n*P.cellsOf e:=by simp;omega
 by_cases hi:i<n
 ·rw[nz (by omega)] at hx;obtain ⟨v,hv,hp⟩:=h1 i j x t' hx ht hj;have:i*P.cellsOf e+j<n*P.cellsOf e:=by
   have:(i+1)*P.cellsOf e≤n*P.cellsOf e:=eI _ hi;grind
  grind
 ·rw[oV (by omega),hn] at hx;obtain ⟨v,hv,hp⟩:=h2 (i-n) j x t' hx ht hj;have Dn:i-n<xs.length:=(cz.1 hx).1;have e1:i*P.cellsOf e+j-n*P.cellsOf e=(i-n)*P.cellsOf e+j:=by
   rw[Nat.sub_mul];have:n*P.cellsOf e≤i*P.cellsOf e:=eI _ (by omega);omega
  have h3:(i-n)*P.cellsOf e+j<news.length:=(cz.1 hv).1;refine ⟨v,?_,hp⟩;have h4:n*P.cellsOf e≤i*P.cellsOf e+j:=by
   have:n*P.cellsOf e≤i*P.cellsOf e:=eI _ (by omega);omega
  grind
theorem Pure.drew {t:TypeId} {v:Value} {x:V} (h:Pure P w I t v x):Pure P w.drew I t v x:=Pure.mono (w:=w) (w':=w.drew) (fun _ _ h=>h) (fun _ _ _=>rfl) h
theorem aaO (w:World) (t ty e:TypeId) (i:TypeInfo) (z:Value) (ht:P.underlying t=some (.slice e)) (hi:P.info? e=some i) (hz:i.zero=some z)
  (a0:Option Addr) (a:Addr) (n c:Nat) (news:List Value) (hl:news.length=n*i.size) (uN: ∀j v,news[j]? =some v→w.cell? (a.add j)=some v)
  (h0:0<n) (He:(n:Int)≤9223372036854775807) (MO:n*i.bytes≤281474976710656):
  (Builtin.append_ #[t,t] ty #[.slice a0 0 0,.slice (some a) n c]).run P w=
   .ok (.slice (some ⟨w.heap.size,0,none⟩) n (grownCap w n 0 e)) (w.drew.alloc (.cells (news.toArray++Builtin.zeroCells z.cells (grownCap w n 0 e-n)) e)):=by
 cases a0 with
 | none=>exact run_append_nil w t ty e i z ht hi hz a n c news hl uN h0 He MO
 | some b=>
  have:=run_append_grow (P:=P) w t ty e i z ht hi hz b 0 0 [] (by simp) (by simp) a n c news hl uN (by omega) (by omega) (by rw[dB,nextslicecap_zero h0];omega);grind
theorem Sf (S:aA P w I β hp B M w0) {t ty e:TypeId} {nb:Nat} {fz:Bool} {x:Value} {xs:List V} (hu:P.underlying t=some (.slice e)) (aq:cY P e=true) (hn:hp nb=none)
  (ey:xs.length*P.bytesOf e≤aY) {a0:Option Addr} (hx:((∃a,x= .slice a 0 0)∧xs=[])∨∃a c news,Row P w I e x xs a c news):
  ∃v w' β',(Builtin.append_ #[t,t] ty #[.slice a0 0 0,x]).run P w= .ok v w'∧Le P w I β hp w' I β' (ao hp nb (some (.arr e xs fz)))∧aA P w' I β' (ao hp nb (some (.arr e xs fz))) B M w0∧
   aj P w' I β' (ao hp nb (some (.arr e xs fz))) v (.whole e nb):=by
 obtain ⟨i,z,hi,hz,h3,h4,_⟩:=ll aq;have wx:=zi aq;have oL:P.bytesOf e=i.bytes:=by simp[Program.bytesOf,hi]
 have hlen:xs.length≤2^45:=by
  have:xs.length*1≤xs.length*P.bytesOf e:=xt _ wx;simp only[aY] at ey;omega
 have empty:xs=[]→(∃a c,x= .slice a 0 c)→∃v w' β',(Builtin.append_ #[t,t] ty #[.slice a0 0 0,x]).run P w= .ok v w'∧Le P w I β hp w' I β' (ao hp nb (some (.arr e xs fz)))∧aA P w' I β' (ao hp nb (some (.arr e xs fz))) B M w0∧
   aj P w' I β' (ao hp nb (some (.arr e xs fz))) v (.whole e nb):=by
  intro jP Sg;subst jP;obtain ⟨a1,a2⟩:=Ft S e hn;exact ⟨_,_,_,Dm hu hi a0 0 0 x Sg (aw _),a1,a2,.dV (bJ _ _ _) (bJ _ _ _)⟩
 rcases hx with ⟨⟨_,rfl⟩,rfl⟩|⟨a,c,news,hr⟩
 ·simp_all
 ·by_cases h0:xs.length=0
  ·have jP:xs=[]:=pC h0;refine empty jP ⟨some a,c,?_⟩;rw[hr.val,h0]
  ·have cP:=aaO (P:=P) w t ty e i z hu hi hz a0 a xs.length c news (by rw[hr.len,h3]) hr.cell (by omega) (by omega) (by rw[←oL];simp only[aY] at ey;omega);have rj:=grownCap_ge w xs.length 0 e;have tB:grownCap w xs.length 0 e≤maxLen:=grownCap_le_maxLen w xs.length 0 e (by simp only[maxLen];omega);obtain ⟨n1,n2,n3⟩:=Dj S.drew (nb:=nb) (cap:=grownCap w xs.length 0 e) (es:=xs) (C0:=news.toArray++Builtin.zeroCells z.cells (grownCap w xs.length 0 e-xs.length)) aq hn
    (by simp only[Kh,sJ,size_zeroCells,h4,hr.len,←jn];grind) rj tB
    (fun i' j y t' hy ht hj=>by
     obtain ⟨u,lX,hp⟩:=hr.el i' j y t' hy ht hj;have aP:=(cz.1 lX).1;refine ⟨u,?_,Pure.drew hp⟩;grind)
   rw[hr.val];exact ⟨_,_,_,cP,(Le.drew w I β hp).trans n1,n2,n3⟩
theorem aaP {P:Program} (w:World) (t ty e T:TypeId) (i:TypeInfo) (ht:P.underlying t=some (.slice e)) (hi:P.info? e=some i)
  (g nk wy:Nat) (cur:Array Value) (hg:w.heap[g]? =some (.cells cur T (0,0)))
  (a:Addr) (m c:Nat) (news:List Value) (hl:news.length=m*i.size) (uN: ∀j u,news[j]? =some u→w.cell? (a.add j)=some u) (h1: ∀u∈news,u.oneCell'=true)
  (uO:nk+m≤wy) (Dp:nk*i.size+news.length≤cur.size):
  (Builtin.append_ #[t,t] ty #[.slice (some ⟨g,0,none⟩) nk wy,.slice (some a) m c]).run P w=
   .ok (.slice (some ⟨g,0,none⟩) (nk+m) wy) (w.setRow g (cur.toList.take (nk*i.size)++news++cur.toList.drop (nk*i.size+news.length)).toArray):=by
 have hf:=run_firstCells_some (P:=P) w i.size m a m c news hl uN;have cQ:=run_storeCells_at P g (nk*i.size) T news 0 cur w hg (by omega) h1;simp only[Nat.add_zero] at cQ;simp[Builtin.append_,run_underlying ht,sizeOf,typeInfo,hi,Builtin.lenOf,uO,hf,Addr.add_lit,cQ]
theorem aaQ (S:aA P w I β hp B M w0) {t ty e:TypeId} {nb id:Nat} {s x:Value} {es xs:List V} {fz:Bool} (hu:P.underlying t=some (.slice e)) (aq:cY P e=true) (hs:aj P w I β hp s (.whole e id)) (ae:hp id=some (.arr e es fz)) (hn:hp nb=none)
  (ey:Nat.ble ((es.length+xs.length)*P.bytesOf e) aY=true) (n8:((∃a,x= .slice a 0 0)∧xs=[])∨∃a c news,Row P w I e x xs a c news):
  dj P ((Builtin.append_ #[t,t] ty #[s,x]).run P w) w I β hp B M w0 ⟨.whole e nb,[(nb,.arr e (es++xs) fz),(id,.dead)]⟩:=by
 rw[gx] at ey;have bp:nb≠id:=fun e=>by grind
 obtain ⟨k1,k2⟩:=xP S ae;have ju:ao hp id (some ah.dead) nb=none:=by rw[cB _ _ bp];exact hn
 cases hs with
 | dZ hd=>grind
 | dO hd=>grind
 | ee hd=>grind
 | fG hd=>grind
 | dV hd hb=>
  rw[ae] at hd;cases hd;simp only[List.length_nil,dB] at ey;have alY:((∃a,x= .slice a 0 0)∧xs=[])∨∃a c news,Row P w I e x xs a c news:=n8;obtain ⟨v,w',β',a1,a2,a3,a4⟩:=Sf (ty:=ty) k2 hu aq ju ey alY;exact ⟨v,w',I,β',a1,k1.trans a2,a3,a4⟩
 | @whole _ _ aK pQ b cap hd hb bc bQ hm=>
  rw[ae] at hd;cases hd;have hr:=S.h.rel id _ ae;cases hr with
  | eF au=>grind
  | @arr _ T _ _ b' Ca hL _ au hh yo hf fN yp=>
   rw[hb] at au;cases au;obtain ⟨i,z,hi,hz,h3,h4,_⟩:=ll aq;have wx:=zi aq;have oL:P.bytesOf e=i.bytes:=by simp[Program.bytesOf,hi]
   have hlen:es.length+xs.length≤2^45:=by
    have:(es.length+xs.length)*1≤(es.length+xs.length)*P.bytesOf e:=xt _ wx;simp only[aY] at ey;omega
   rw[lL hh] at bc;have qQ: ∀ar blk',ao hp id (some ah.dead) ar=some blk'→¬bf P w (β ar) blk' b:=by
    intro ar blk' h1 h2;by_cases n0:ar=id
    ·subst n0;rw[bJ] at h1;cases h1;exact h2.alive rfl
    ·rw[cB _ _ n0] at h1;exact n0 (S.h.inj ar id blk' _ b h1 ae h2 (.root (by simp) hb))
   have Hf:=S.h.xL id _ b ae (by simp) hb;have room: ∀(C':Array Value) (w':World) (ys:List V),w'.heap[b]? =some (.cells C' T (0,0))→C'.size=Ca.size→(∀b',b'≠b→w'.heap[b']? =w.heap[b']?)→w.heap.size≤w'.heap.size→(w'.os=w.os∧w'.output=w.output)→ys.length≤cap→es.length≤ys.length→(∀j,j<es.length*P.cellsOf e→C'[j]? =Ca[j]?)→
     (∀(i j:Nat) (y:V) (t':TypeId),ys[i]? =some y→(aU P e)[j]? =some t'→j<P.cellsOf e→∃v,C'[i*P.cellsOf e+j]? =some v∧Pure P w I t' v (cf P e y j))→
     Le P w I β hp w' I (ao β nb (some b)) (ao (ao hp id (some .dead)) nb (some (.arr e ys fz)))∧aA P w' I (ao β nb (some b)) (ao (ao hp id (some .dead)) nb (some (.arr e ys fz))) B M w0∧
     aj P w' I (ao β nb (some b)) (ao (ao hp id (some .dead)) nb (some (.arr e ys fz))) (.slice (some ⟨b,0,none⟩) ys.length cap) (.whole e nb):=by
    intro C' w' ys hC qn hw' hwz alZ yn hey sn hy;have hIn:=Sa hf fN;obtain ⟨a1,a2⟩:=Cl k2 (blk:= .arr e ys fz) (w':=w') ju qQ (aaF hh hC hIn sn) (fun b' h _=>hw' b' h) hwz alZ Hf
     (fun b' h=>(dN (h.flat (by simp))).symm) (fun hle=> .arr (qn▸hL) aq rfl hC (by rw[qn,←bc];exact eI _ yn) (fun _ j h=>oq (hIn j h) (eI _ hey)) fN fun i j y t' a b c=>by
      obtain ⟨v,hv,hp⟩:=hy i j y t' a b c;exact ⟨v,hv,hp.mono hle.en hle.cM⟩)
    refine ⟨k1.trans a1,a2,.whole (bJ _ _ _) (bJ _ _ _) ?_ yn hm⟩;rw[lL hC,qn,bc]
   have same:xs=[]→(∃a c,x= .slice a 0 c)→dj P ((Builtin.append_ #[t,t] ty #[.slice (some ⟨b,0,none⟩) es.length cap,x]).run P w) w I β hp B M w0 ⟨.whole e nb,[(nb,.arr e (es++xs) fz),(id,.dead)]⟩:=by
    intro jP Sg;subst jP;rw[ub];obtain ⟨a1,a2,a3⟩:=room Ca w es hh rfl (fun _ _=>rfl) (aw _) ⟨rfl,rfl⟩ bQ (aw _) (fun _ _=>rfl) yp;exact ⟨_,_,_,_,Dm hu hi _ _ _ x Sg bQ,a1,a2,a3⟩
   rcases n8 with ⟨⟨_,rfl⟩,rfl⟩|⟨a,c,news,cW⟩
   ·grind
   ·have h1:=cW.one aq;have sk:es.length*P.cellsOf e≤Ca.toList.length:=by omega
    by_cases uO:es.length+xs.length≤cap
    ·have Dp:es.length*P.cellsOf e+news.length≤Ca.size:=by rw[cW.len,←jn,←bc];exact eI _ uO
     have cP:=aaP (P:=P) w t ty e T i hu hi b es.length cap Ca hh a xs.length c news (by rw[cW.len,h3]) cW.cell h1 uO (by grind);rw[h3] at cP;have fJ:=MN (P:=P) (w:=w) (I:=I) (n:=es.length) (c:=Ca.toList) rfl (fun i j y t' a b c=>by
      grind) cW.el sk (Ca.toList.drop (es.length*P.cellsOf e+news.length))
     obtain ⟨a1,a2,a3⟩:=room (Ca.toList.take (es.length*P.cellsOf e)++news++Ca.toList.drop (es.length*P.cellsOf e+news.length)).toArray (w.setRow b _) (es++xs)
      (setRow_heap w b Ca _ T _ hh) (by simp;omega) (fun b' au=>setRow_other w b b' _ au) (by simp) ⟨rfl,rfl⟩ (by grind) (by simp) (fun j hj=>by
        grind)
      (fun i j y t' a b c=>by
       grind)
     rw[cW.val];rw[hY] at a3;exact ⟨_,_,_,_,cP,a1,a2,a3⟩
    ·have hold: ∀(j:Nat) v,(Ca.toList.take (es.length*P.cellsOf e))[j]? =some v→w.cell? ((⟨b,0,none⟩:Addr).add j)=some v:=by
      intro j v hj;have dk:=(cz.1 hj).1;have dw:j<es.length*P.cellsOf e:=by grind
      rw[jB dw] at hj;rw[oC,cell?_cells hh,dB];grind
     have cP:=run_append_grow (P:=P) w t ty e i z hu hi hz ⟨b,0,none⟩ es.length cap (Ca.toList.take (es.length*P.cellsOf e)) (by grind) hold a xs.length c news (by rw[cW.len,h3]) cW.cell (by omega) (by omega)
      (growslice_fits (by omega) (by rw[←oL];simp only[aY] at ey;omega))
     have rj:=grownCap_ge w (es.length+xs.length) cap e;have tB:grownCap w (es.length+xs.length) cap e≤maxLen:=grownCap_le_maxLen w _ cap e (by simp only[maxLen];omega);have fJ:=MN (P:=P) (w:=w) (I:=I) (n:=es.length) (c:=Ca.toList) rfl (fun i j y t' a b c=>by
      grind) cW.el sk (Builtin.zeroCells z.cells (grownCap w (es.length+xs.length) cap e-(es.length+xs.length))).toList
     obtain ⟨n1,n2,n3⟩:=Dj k2.drew (nb:=nb) (cap:=grownCap w (es.length+xs.length) cap e) (es:=es++xs)
      (C0:=(Ca.toList.take (es.length*P.cellsOf e)).toArray++news.toArray++Builtin.zeroCells z.cells (grownCap w (es.length+xs.length) cap e-(es.length+xs.length))) aq ju
      (by
       have e1:(Ca.toList.take (es.length*P.cellsOf e)).length=es.length*P.cellsOf e:=by simp;omega
       simp only[Kh,sJ,size_zeroCells,h4,cW.len,e1,←jn];grind) (by grind) tB
      (fun i j y t' a b c=>by
       obtain ⟨v,hv,hp⟩:=fJ i j y t' a b c;refine ⟨v,?_,Pure.drew hp⟩;grind)
     rw[cW.val];rw[hY] at n3;exact ⟨_,_,_,_,cP,(k1.trans (Le.drew w I β _)).trans n1,n2,n3⟩
theorem al0 (S:aA P w I β hp B M w0) {t ty e:TypeId} {nb:Nat} {s x:Value} {sv xv:V} {r:R} {rd:List Nat} (hu:P.underlying t=some (.slice e)) (hs:aj P w I β hp s sv) (hx:aj P w I β hp x xv)
  (h:(BZ P nb e sv xv).run C hp=some (r,rd)):dj P ((Builtin.append_ #[t,t] ty #[s,x]).run P w) w I β hp B M w0 r:=by
 unfold BZ at h;obtain ⟨aq,h⟩:=aD h;obtain ⟨xs,n8,l0,h⟩:=Hd S.h.rel aq hx h;cases sv with
 | nilS e'=>
  obtain ⟨hc,h⟩:=aD h;simp only[aJ,aL,gx] at hc;obtain ⟨hn,rfl⟩:=nj h;obtain ⟨a0,rfl⟩: ∃a0,s= .slice a0 0 0:=by cases hs;grind
  obtain ⟨v,w',β',a1,a2,a3,a4⟩:=Sf (ty:=ty) S hu aq hn hc.2 n8;exact ⟨v,w',I,β',a1,a2,a3,a4⟩
 | whole e' id=>
  obtain ⟨l,h⟩:=run_get h;cases ae:hp id with
  | none=>rw[ae] at h;cases h
  | some blk=>
   rw[ae] at h;cases blk with
   | dead=>cases h
   | var _=>cases h
   | nest _ _ _=>cases h
   | map _ _=>cases h
   | out _ _ _ _=>cases h
   | arr dY es fz=>
    obtain ⟨hc,h⟩:=aD h;obtain ⟨hn,rfl⟩:=nj h;simp only[aJ,aL,gx] at hc;obtain ⟨Sh,Si,ey⟩:=hc;subst Sh;subst Si;exact aaQ S hu aq hs ae hn (by simp_all) n8
 | _=>cases h
end
section
variable {P:Program} {w w':World} {I I':Nat→Nat→Prop} {β β':Nat→Option Nat} {hp hp':Nat→Option ah} {C:af} {B:Nat} {M:Nat→Prop} {w0:Start}
theorem run_copy_none (w:World) {dT sT ty elem:TypeId} {i:TypeInfo} (a0:Option Addr) (aaR al1:Nat) (a1:Option Addr) (nk wy:Nat) (hu:P.underlying dT=some (.slice elem)) (hi:P.info? elem=some i) (h0:Nat.min nk aaR=0):
  (Builtin.copy_ #[dT,sT] ty #[.slice a0 aaR al1,.slice a1 nk wy]).run P w= .ok (goInt 0) w:=by
 cases a0<;>cases a1<;>simp[Builtin.copy_,run_underlying hu,Builtin.lenOf,Builtin.firstCells,sizeOf,typeInfo,hi,h0,storeCells,loadCells,loadCellsFrom]
theorem al2 (S:aA P w I β hp B M w0) {t u ty e:TypeId} {s x:Value} {sv xv:V} {r:R} {rd:List Nat} (hu:P.underlying t=some (.slice e)) (hs:aj P w I β hp s sv) (hx:aj P w I β hp x xv)
  (h:(Qc P e sv xv).run C hp=some (r,rd)):dj P ((Builtin.copy_ #[t,u] ty #[s,x]).run P w) w I β hp B M w0 r:=by
 unfold Qc at h;obtain ⟨aq,h'⟩:=aD h;clear h;simp only[aJ,aL] at aq;obtain ⟨aq,h1⟩:=aq;obtain ⟨xs,n8,l0,h⟩:=Hd S.h.rel aq hx h';obtain ⟨i,z,hi,hz,bc,_⟩:=ll aq;cases sv<;>simp only at h<;>first|(cases h;done)|skip
 rename_i e' id;obtain ⟨l,h2⟩:=run_get h;clear h;cases ae:hp id with
 | none=>rw[ae] at h2;cases h2
 | some blk=>
  rw[ae] at h2;cases blk<;>simp only at h2<;>first|(cases h2;done)|skip
  rename_i e2 es fz;cases fz with
  | true=>cases h2
  | false=>
  obtain ⟨hc,h3⟩:=aD h2;simp only[aJ,aL] at hc;obtain ⟨rfl,rfl⟩:=hc;obtain rfl:=aN h3;have uP:min xs.length es.length=0→(Builtin.copy_ #[t,u] ty #[s,x]).run P w= .ok (goInt 0) w→dj P ((Builtin.copy_ #[t,u] ty #[s,x]).run P w) w I β hp B M w0 ⟨.int .i64 (min xs.length es.length:Nat),[(id,.arr e (xs.take es.length++es.drop xs.length) false)]⟩:=by
   intro h0 hr;have he:xs.take es.length++es.drop xs.length=es:=by
    rcases Nat.le_total xs.length es.length with hl|hl
    ·have:xs=[]:=pC (by omega);simp[this]
    ·have:es=[]:=pC (by omega);simp[this]
   have iT:cb hp [(id,.arr e (xs.take es.length++es.drop xs.length) false)]=hp:=by
    rw[he];exact Qm hp id _ ae
   refine ⟨goInt 0,w,I,β,hr,?_⟩;simp only[iT,h0];exact ⟨Le.refl w I β hp,S,.int⟩
  cases hs with
  | dZ hd=>rw[ae] at hd;cases hd
  | dO hd=>rw[ae] at hd;cases hd
  | ee hd=>rw[ae] at hd;cases hd
  | fG hd=>rw[ae] at hd;cases hd
  | @dV _ _ fz a hd hb=>
   rw[ae] at hd;cases hd;refine uP (by simp) ?_;rcases n8 with ⟨⟨a',rfl⟩,rfl⟩|⟨a',c,news,cW⟩
   ·exact run_copy_none w _ _ _ _ _ _ hu hi (by simp)
   ·rw[cW.val];exact run_copy_none w _ _ _ _ _ _ hu hi (by simp)
  | @whole _ _ aK pQ b cap hd hb Dq bQ hm=>
   have fU:=hd;rw[ae] at hd;cases hd;rcases n8 with ⟨⟨a',rfl⟩,rfl⟩|⟨a',c,news,cW⟩
   ·exact uP (by simp) (run_copy_none w _ _ _ _ _ _ hu hi (by simp))
   have hr:=S.h.rel id _ ae;cases hr with
   | eF au=>rw[au] at hb;cases hb
   | @arr _ T0 _ _ b' Ca hL _ au hh yo hf fN yp=>
    rw[hb] at au;cases au;have kz:news.length=xs.length:=by rw[cW.len,h1,iC]
    rw[h1,iC] at yo;have lb:(news.take es.length).length=Nat.min xs.length es.length:=by
     rw[mP,kz,Nat.min_comm]
    have MA:Nat.min xs.length es.length=min xs.length es.length:=rfl;have cP:=run_copy_row (P:=P) w t u ty e b 0 es.length cap a' xs.length c Ca T0 (news.take es.length) hu (by rw[hi];simp[bc,h1]) hh lb
     (fun j v hj=>cW.cell j v (by
      have:=(cz.1 hj).1;rw[mP] at this;rwa [jB (by omega)] at hj)) (by rw[lb,MA];omega) (fun v hv=>cW.one aq v (List.mem_of_mem_take hv))
    rw[cW.val];have hq:(goInt (news.take es.length).length)= .int .i64 ((min xs.length es.length:Nat):Int):=by rw[lb];rfl
    have oB:(xs.take es.length++es.drop xs.length).length=es.length:=by simp;omega
    have qn:(Ca.toList.take 0++news.take es.length++Ca.toList.drop (0+(news.take es.length).length)).toArray.size=Ca.size:=by
     simp only[sJ,hY,BL,mP,lb,MA];simp;omega
    obtain ⟨a1,a2⟩:=K5 S (blk':= .arr e (xs.take es.length++es.drop xs.length) false) (Cb:=(Ca.toList.take 0++news.take es.length++Ca.toList.drop (0+(news.take es.length).length)).toArray) ae (by simp) ⟨rfl,oB.symm⟩ hb (fN rfl) (by simp) hh qn
     (fun hle dG=> .arr (by rw[qn];exact hL) aq rfl dG (by rw[qn,oB,h1,iC];exact yo) (fun h=>by cases h) (fun _=>fN rfl) fun i j y t' hy ht hj=>by
      rw[h1] at hj⊢;obtain rfl:j=0:=by omega
      rw[iC,Nat.add_zero];have se:=(cz.1 hy).1;rw[oB] at se;by_cases wz:i<xs.length
      ·rw[nz (by rw[mP];omega),jB se] at hy;obtain ⟨u',k1,k2⟩:=cW.el i 0 y t' hy ht (by omega);rw[h1,iC,Nat.add_zero] at k1;refine ⟨u',?_,k2.mono hle.en hle.cM⟩;simp only[List.take_zero,List.nil_append,pE];rw[nz (by rw[mP];omega),jB se];exact k1
      ·have e1:(xs.take es.length).length=xs.length:=by rw[mP];omega
       rw[oV (by omega),e1,rM,show xs.length+(i-xs.length)=i by omega] at hy;obtain ⟨u',k1,k2⟩:=yp i 0 y t' hy ht (by omega);rw[h1,iC,Nat.add_zero] at k1;refine ⟨u',?_,k2.mono hle.en hle.cM⟩;simp only[List.take_zero,List.nil_append,pE,dB];have e2:(news.take es.length).length=xs.length:=by rw[mP];omega
       rw[oV (by omega),e2,rM,show xs.length+(i-xs.length)=i by omega];simpa using k1)
    exact ⟨_,_,_,_,cP,a1,a2,by rw[hq];exact .int⟩
theorem al3 (S:aA P w I β hp B M w0) {t ty e:TypeId} {x:Value} {xv:V} {r:R} {rd:List Nat} (hu:P.underlying t=some (.slice e)) (hx:aj P w I β hp x xv)
  (h:(Qb P e xv).run C hp=some (r,rd)):dj P ((Builtin.clear_ #[t] ty #[x]).run P w) w I β hp B M w0 r:=by
 unfold Qb at h;obtain ⟨fJ,h'⟩:=aD h;clear h;have aq:cY P e=true:=by
  unfold pI at fJ;simp only[aJ] at fJ;exact fJ.1
 obtain ⟨i,z,hi,hz,bc,Hg,hzp⟩:=Hc (w:=w) (I:=I) fJ;have gM:=(oY aq).2;cases xv<;>simp only at h'<;>first|(cases h';done)|skip
 rename_i e' id off len;obtain ⟨l,h2⟩:=run_get h';clear h';cases ae:hp id with
 | none=>rw[ae] at h2;cases h2
 | some blk=>
  rw[ae] at h2;cases blk<;>simp only at h2<;>first|(cases h2;done)|skip
  rename_i e2 es fz;cases fz with
  | true=>cases h2
  | false=>
  obtain ⟨hc,h3⟩:=aD h2;simp only[aJ,aL] at hc;obtain ⟨rfl,rfl⟩:=hc;obtain rfl:=aN h3;have uP:len=0→(Builtin.clear_ #[t] ty #[x]).run P w= .ok (.tuple #[]) w→dj P ((Builtin.clear_ #[t] ty #[x]).run P w) w I β hp B M w0 ⟨.bd [],[(id,.arr e (es.take off++(List.replicate len (dv P e (jo P e))++es.drop (off+len))) false)]⟩:=by
   intro h0 hr;subst h0;have iT:cb hp [(id,.arr e (es.take off++(List.replicate 0 (dv P e (jo P e))++es.drop (off+0))) false)]=hp:=by
    simp only[List.replicate_zero,List.nil_append,Nat.add_zero,List.take_append_drop];exact Qm hp id _ ae
   refine ⟨.tuple #[],w,I,β,hr,?_⟩;simp only[iT];exact ⟨Le.refl w I β hp,S,.bd rfl fun j v x hj hx=>by simp at hx⟩
  cases hx with
  | jK hd=>rw[ae] at hd;cases hd
  | @jh _ _ _ a0 hd hb=>exact uP rfl (by cases a0<;>simp[Builtin.clear_,run_underlying hu])
  | @sub _ _ _ _ aK pQ b o cap hd hb mY bQ ho=>
   by_cases hlen:len=0
   ·refine uP hlen ?_;subst hlen;simp[Builtin.clear_,run_underlying hu]
   have al4:0<len:=by omega
   have fU:=hd;rw[ae] at hd;cases hd;have hr:=S.h.rel id _ ae;cases hr with
   | eF au=>rw[au] at hb;cases hb
   | @arr _ T0 _ _ b' Ca hL _ au hh yo hf fN yp=>
    rw[hb] at au;cases au;have ho:=ho al4;subst ho;have Aa:(Builtin.zeroCells z.cells len).toList.length=len*P.cellsOf e:=by rw[Array.length_toList,size_zeroCells,Hg]
    have hmul:off*P.cellsOf e+len*P.cellsOf e≤es.length*P.cellsOf e:=by rw[←jn];exact eI _ mY
    have tz: ∀v∈(Builtin.zeroCells z.cells len).toList,v.oneCell'=true:=by
     intro v hv;obtain ⟨k,hk⟩:=uc hv;have uM:=(cz.1 hk).1;rw[Aa] at uM;have hzg:(Builtin.zeroCells z.cells len)[k]? =z.cells[k %z.cells.size]? :=aaJ (z:=z.cells) (n:=len*z.cells.size) (by rw[Hg];exact uM) (by rw[Hg];exact gM);rw[sL,hzg] at hk;have hm:k %z.cells.size<P.cellsOf e:=by rw[Hg];exact yY _ gM
     have htl:k %z.cells.size<(aU P e).length:=by rw[fH aq];exact hm
     obtain ⟨v',Hb,hp'⟩:=hzp (k %z.cells.size) _ (bY htl) hm;rw[hk] at Hb;cases Hb;exact hp'.1.one
    have cQ:=run_storeCells_at P b (off*P.cellsOf e) T0 (Builtin.zeroCells z.cells len).toList 0 Ca w hh (by rw[Aa];omega) tz;simp only[Nat.add_zero] at cQ;have cP:(Builtin.clear_ #[t] ty #[.slice (some ⟨b,off*P.cellsOf e,none⟩) len cap]).run P w= .ok (.tuple #[]) (w.setRow b (Ca.toList.take (off*P.cellsOf e)++(Builtin.zeroCells z.cells len).toList++Ca.toList.drop (off*P.cellsOf e+(Builtin.zeroCells z.cells len).toList.length)).toArray):=by
     obtain ⟨n,rfl⟩: ∃n,len=n+1:=⟨len-1,by omega⟩
     simp[Builtin.clear_,run_underlying hu,zeroValue,typeInfo,hi,hz,cQ]
    have oB:(es.take off++(List.replicate len (dv P e (jo P e))++es.drop (off+len))).length=es.length:=by simp;omega
    have qn:(Ca.toList.take (off*P.cellsOf e)++(Builtin.zeroCells z.cells len).toList++Ca.toList.drop (off*P.cellsOf e+(Builtin.zeroCells z.cells len).toList.length)).toArray.size=Ca.size:=by
     simp only[sJ,hY,BL,mP,Aa,Array.length_toList];omega
    obtain ⟨a1,a2⟩:=K5 S (blk':= .arr e (es.take off++(List.replicate len (dv P e (jo P e))++es.drop (off+len))) false) ae (by simp) ⟨rfl,oB.symm⟩ hb (fN rfl) (by simp) hh qn
     (fun hle dG=> .arr (by rw[qn];exact hL) aq rfl dG (by rw[qn,oB];exact yo) (fun h=>by cases h) (fun _=>fN rfl) fun i' j y t' hy ht hj=>by
      have tC:=rY es (List.replicate len (dv P e (jo P e))) off i' (by simp;omega);rw[yW] at tC;rw[tC] at hy;have hC:(Ca.toList.take (off*P.cellsOf e)++(Builtin.zeroCells z.cells len).toList++Ca.toList.drop (off*P.cellsOf e+(Builtin.zeroCells z.cells len).toList.length)).toArray[i'*P.cellsOf e+j]? =
        if i'*P.cellsOf e+j<off*P.cellsOf e then Ca.toList[i'*P.cellsOf e+j]? else if i'*P.cellsOf e+j<off*P.cellsOf e+len*P.cellsOf e then (Builtin.zeroCells z.cells len).toList[i'*P.cellsOf e+j-off*P.cellsOf e]? else Ca.toList[i'*P.cellsOf e+j]? :=by
       have:=rY Ca.toList (Builtin.zeroCells z.cells len).toList (off*P.cellsOf e) (i'*P.cellsOf e+j) (by rw[Aa,Array.length_toList];omega);rw[pE,kQ,this,Aa]
      by_cases ra:i'<off
      ·rw[aB ra] at hy;have:(i'+1)*P.cellsOf e≤off*P.cellsOf e:=eI _ ra;rw[jn] at this;rw[dp] at hC;obtain ⟨u,k1,k2⟩:=yp i' j y t' hy ht hj;exact ⟨u,hC.trans (by simpa using k1),k2.mono hle.en hle.cM⟩
      ·rw[ax ra] at hy;have h1:off*P.cellsOf e≤i'*P.cellsOf e:=eI _ (by omega);rw[dq] at hC;by_cases Dn:i'<off+len
       ·rw[aB Dn] at hy;have:(i'+1)*P.cellsOf e≤(off+len)*P.cellsOf e:=eI _ Dn;rw[jn,jn] at this;rw[dp] at hC;obtain ⟨v,k1,k2⟩:=Sb (w:=w) (I:=I) fJ hi hz len len (aw _) (i'-off) j y t' hy ht hj;refine ⟨v,hC.trans ?_,k2.mono hle.en hle.cM⟩;rw[show i'*P.cellsOf e+j-off*P.cellsOf e=(i'-off)*P.cellsOf e+j by rw[Nat.sub_mul];omega,sL];unfold Builtin.zeroCells;rw[Hg] at k1⊢;exact k1
       ·rw[ax Dn] at hy;have:(off+len)*P.cellsOf e≤i'*P.cellsOf e:=eI _ (by omega);rw[jn] at this;rw[dq] at hC;obtain ⟨u,k1,k2⟩:=yp i' j y t' hy ht hj;exact ⟨u,hC.trans (by simpa using k1),k2.mono hle.en hle.cM⟩)
    exact ⟨_,_,_,_,cP,a1,a2,.bd rfl fun j v x hj hx=>by simp at hx⟩
end
section
variable {P:Program} {w w':World} {I I':Nat→Nat→Prop} {β β':Nat→Option Nat} {hp hp':Nat→Option ah} {C:af} {B:Nat} {M:Nat→Prop} {w0:Start}
theorem Hh (S:aA P w I β hp B M w0) {nb b:Nat} {e e1:TypeId} {ys:List V} {C':Array Value} (hr:rowOf P e=some e1) (hn:hp nb=none)
  {T:TypeId} (wm:w'.heap[b]? =some (.cells C' T (0,0))) (hlen:ys.length≤C'.size)
  (hw: ∀b',b'≠b→b'<w.heap.size→w'.heap[b']? =w.heap[b']?) (bc:w.heap.size≤w'.heap.size) (nD:w'.os=w.os∧w'.output=w.output) (hb:M b∨B≤b)
  (qQ: ∀ar blk',hp ar=some blk'→¬bf P w (β ar) blk' b) (di: ∀j,¬I b j) (K:Nat→Nat→List V→Prop)
  (gL: ∀(i:Nat) x,ys[i]? =some x→∃l v,x= .list e1 l∧C'[i]? =some v∧zZ P w e1 (K i) v l)
  (hK: ∀i b1 l,K i b1 l→b1≠b∧b1<w.heap.size∧iS P w I b1 e1 l∧(M b1∨B≤b1)∧∀id blk,hp id=some blk→¬bf P w (β id) blk b1)
  (uH: ∀i j b1 l m,K i b1 l→K j b1 m→i=j):
  Le P w I β hp w' I (ao β nb (some b)) (ao hp nb (some (.nest e ys [0,0,0])))∧aA P w' I (ao β nb (some b)) (ao hp nb (some (.nest e ys [0,0,0]))) B M w0:=by
 obtain ⟨p1,p2⟩:=aan (w:=w) (I:=I) (vers:=[0,0,0]) hr wm hlen di K gL (fun i b1 l h=>⟨(hK i b1 l h).1,hw _ (hK i b1 l h).1 (hK i b1 l h).2.1,(hK i b1 l h).2.2.1⟩) uH;refine X4 S hn qQ (fun j h=>absurd h (di j)) hw bc nD hb (fun b' ho=> ?_) (fun hle=>p2 hle.cM);rcases p1 b' ho with h|⟨i,l,h⟩
 ·exact .inl h
 ·exact .inr ⟨(hK _ _ _ h).2.2.2.1,(hK _ _ _ h).2.2.2.2⟩
theorem al5 (S:aA P w I β hp B M w0) {t ty e:TypeId} {nb:Nat} {s x:Value} {sv xv:V} {r:R} {rd:List Nat} (hu:P.underlying t=some (.slice e)) (hs:aj P w I β hp s sv) (hx:aj P w I β hp x xv)
  (h:(Qa P nb e sv xv).run C hp=some (r,rd)):dj P ((Builtin.append_ #[t,t] ty #[s,x]).run P w) w I β hp B M w0 r:=by
 unfold Qa at h;obtain ⟨hro,ha⟩:=aD h;clear h;obtain ⟨e1,hr⟩:=BM.1 hro;obtain ⟨vT,cA,aq,pb,gR⟩:=ym hr;have lk:aU P e=[e]:=by simp[aU,cA]
 have hk:P.cellsOf e=1:=by rw[←fH aq,lk];rfl
 obtain ⟨i,z,hi,hz,h3,h4,_⟩:=ll aq;have wx:=zi aq;have oL:P.bytesOf e=i.bytes:=by simp[Program.bytesOf,hi]
 rw[hk] at h3 h4;cases sv with
 | whole e' id=>
  obtain ⟨l0,hb⟩:=run_get ha;clear ha;cases ae:hp id with
  | none=>rw[ae] at hb;cases hb
  | some blk=>
   rw[ae] at hb;cases blk with
   | nest dY es vers=>
    obtain ⟨hc,hd⟩:=aD hb;clear hb;simp only[aJ,aL] at hc;obtain ⟨rfl,rfl⟩:=hc;cases xv with
    | nilS e3=>
     obtain ⟨_,he⟩:=aD hd;cases he;obtain ⟨a0,rfl⟩: ∃a0,x= .slice a0 0 0:=by cases hx;exact ⟨_,rfl⟩
     cases hs with
     | dZ hd=>rw[ae] at hd;cases hd
     | dV hd=>rw[ae] at hd;cases hd
     | whole hd=>rw[ae] at hd;cases hd
     | fG hd=>rw[ae] at hd;cases hd
     | ee hd hb=>exact ⟨_,_,_,_,Dm hu hi _ 0 0 _ ⟨_,_,rfl⟩ (aw _),Le.refl ..,S,.ee hd hb⟩
     | dO hd hb bc bQ hm=>
      rw[ae] at hd;cases hd;exact ⟨_,_,_,_,Dm hu hi _ _ _ _ ⟨_,_,rfl⟩ bQ,Le.refl ..,S,.dO ae hb bc bQ hm⟩
    | list e3 l=>
     obtain ⟨gi,he⟩:=aD hd;simp only[aJ,aL] at gi;obtain ⟨rfl,mZ⟩:=gi;have mZ:=vr.1 mZ;subst mZ;cases he;obtain ⟨a0,c0,rfl⟩: ∃a0 c0,x= .slice a0 0 c0:=by
      cases hx with
      | list hp'=>cases hp' with
       | nil=>exact ⟨_,_,rfl⟩
       | emp=>exact ⟨_,_,rfl⟩
       | list g b c d e=>exact ⟨_,_,by rw[←b];rfl⟩
     cases hs with
     | dZ hd=>rw[ae] at hd;cases hd
     | dV hd=>rw[ae] at hd;cases hd
     | whole hd=>rw[ae] at hd;cases hd
     | fG hd=>rw[ae] at hd;cases hd
     | ee hd hb=>exact ⟨_,_,_,_,Dm hu hi _ 0 0 _ ⟨_,_,rfl⟩ (aw _),Le.refl ..,S,.ee hd hb⟩
     | dO hd hb bc bQ hm=>
      rw[ae] at hd;cases hd;exact ⟨_,_,_,_,Dm hu hi _ _ _ _ ⟨_,_,rfl⟩ bQ,Le.refl ..,S,.dO ae hb bc bQ hm⟩
    | whole e3 aH=>
     obtain ⟨l1,he⟩:=run_get hd;clear hd;cases dm:hp aH with
     | none=>rw[dm] at he;cases he
     | some cD=>
      rw[dm] at he;cases cD with
      | nest e4 xs pY=>
       obtain ⟨hc,hf⟩:=aD he;clear he;simp only[aJ,aL,gx,nw,nt] at hc;obtain ⟨rfl,rfl,aaS,gM,ey⟩:=hc;have bp:id≠aH:=fun h=>by rw[h,ot] at aaS;cases aaS
       obtain ⟨hn,rfl⟩:=nj hf;have hlen:es.length+xs.length≤2^45:=by
        have:(es.length+xs.length)*1≤(es.length+xs.length)*P.bytesOf e:=xt _ wx;simp only[aY] at ey;omega
       obtain ⟨b2,Hi,eR,rfl⟩: ∃b2 Hi,β aH=some b2∧x= .slice (some ⟨b2,0,none⟩) xs.length Hi:=by
        cases hx with
        | dZ hd=>rw[dm] at hd;cases hd
        | dV hd=>rw[dm] at hd;cases hd
        | whole hd=>rw[dm] at hd;cases hd
        | fG hd=>rw[dm] at hd;cases hd
        | ee hd hb=>rw[dm] at hd;cases hd;simp at gM
        | dO hd hb bc bQ hm=>rw[dm] at hd;cases hd;exact ⟨_,_,hb,rfl⟩
       obtain ⟨C2,_,g1,g2,g3,g4,g5,g6⟩:=R8 S hr dm eR;have uN: ∀(j:Nat) v,(C2.toList.take xs.length)[j]? =some v→w.cell? ((⟨b2,0,none⟩:Addr).add j)=some v:=by
        intro j v hj;have dk:=(cz.1 hj).1;rw[mP] at dk;rw[jB (by omega)] at hj;rw[oC,cell?_cells g1,dB];simpa using hj
       have kz:(C2.toList.take xs.length).length=xs.length:=by simp;omega
       have tz: ∀u∈C2.toList.take xs.length,u.oneCell'=true:=by
        intro u hm;obtain ⟨j,hj⟩:=uc hm;have dk:=(cz.1 hj).1;rw[kz] at dk;rw[jB dk] at hj;obtain ⟨l,v,_,hv,hh⟩:=g4 j xs[j] (bY dk);have:v=u:=by rw[sL,hv] at hj;exact dN hj
        subst this;rcases hh with ⟨_,a,rfl⟩|⟨b1,cap,_,rfl,_⟩<;>rfl
       obtain ⟨k1,S1⟩:=xP S ae;have al6:ao hp id (some ah.dead) aH=some (.nest e xs pY):=by rw[cB _ _ (Ne.symm bp)];exact dm
       obtain ⟨k2,S2⟩:=xP S1 al6;have uQ:nb≠id:=fun e=>by rw[e,ae] at hn;cases hn
       have al7:nb≠aH:=fun e=>by rw[e,dm] at hn;cases hn
       have uR:ao (ao hp id (some ah.dead)) aH (some ah.dead) nb=none:=by rw[cB _ _ al7,cB _ _ uQ];exact hn
       have live: ∀{ar blk'},ao (ao hp id (some ah.dead)) aH (some ah.dead) ar=some blk'→blk'≠ .dead→hp ar=some blk'∧ar≠id∧ar≠aH:=by
        intro ar blk' h hd;by_cases q1:ar=aH
        ·subst q1;rw[bJ] at h;cases h;exact absurd rfl hd
        ·rw[cB _ _ q1] at h;by_cases q2:ar=id
         ·subst q2;rw[bJ] at h;cases h;exact absurd rfl hd
         ·rw[cB _ _ q2] at h;exact ⟨h,q2,q1⟩
       have Sj: ∀{idx bx:Nat} {bl},(idx=id∨idx=aH)→hp idx=some bl→bf P w (β idx) bl bx→∀ar blk',ao (ao hp id (some ah.dead)) aH (some ah.dead) ar=some blk'→¬bf P w (β ar) blk' bx:=by
        intro idx bx bl hor j9 ho ar blk' h hO;obtain ⟨q1,q2,q3⟩:=live h hO.alive;have:=S.h.inj ar idx _ _ bx q1 j9 hO ho;rcases hor with rfl|rfl
        ·exact q2 this
        ·exact q3 this
       have wA:cb hp [(nb,.nest e (es++xs) [0,0,0]),(id,.dead),(aH,.dead)]=ao (ao (ao hp id (some ah.dead)) aH (some ah.dead)) nb (some (.nest e (es++xs) [0,0,0])):=by
        funext k;simp only[cb];by_cases q0:k=nb
        ·subst q0;rw[bJ,bJ]
        ·by_cases q1:k=id
         ·subst q1;rw[cB _ _ q0,bJ,cB _ _ q0,cB _ _ bp,bJ]
         ·by_cases q2:k=aH
          ·subst q2;rw[cB _ _ q0,cB _ _ q1,bJ,cB _ _ q0,bJ]
          ·rw[cB _ _ q0,cB _ _ q1,cB _ _ q2,cB _ _ q0,cB _ _ q2,cB _ _ q1]
       have lj:bf P w (β aH) (.nest e xs pY) b2:= .root (by simp) eR;have lit: ∀i b1 l,At P w b2 e xs [(i,0)] b1 e1 l→b1<w.heap.size∧iS P w I b1 e1 l∧(M b1∨B≤b1)∧∀ar blk',ao (ao hp id (some ah.dead)) aH (some ah.dead) ar=some blk'→¬bf P w (β ar) blk' b1:=fun i b1 l ha=>by
        obtain ⟨_,q2,q3,q4,q5⟩:=g5 i b1 l ha;exact ⟨q2,q3,q4,Sj (.inr rfl) dm q5⟩
       cases hs with
       | dZ hd=>rw[ae] at hd;cases hd
       | dV hd=>rw[ae] at hd;cases hd
       | whole hd=>rw[ae] at hd;cases hd
       | fG hd=>rw[ae] at hd;cases hd
       | @ee _ _ _ a0 hd hb=>
        rw[ae] at hd;cases hd;simp only[List.length_nil,dB] at ey hlen;have cP:=aaO (P:=P) w t ty e i z hu hi hz a0 ⟨b2,0,none⟩ xs.length Hi (C2.toList.take xs.length) (by rw[kz,h3,iC]) uN (by omega) (by omega) (by rw[←oL];simp only[aY] at ey;omega);have rj:=grownCap_ge w xs.length 0 e;have tB:grownCap w xs.length 0 e≤maxLen:=grownCap_le_maxLen w xs.length 0 e (by simp only[maxLen];omega);have dG:(w.drew.alloc (.cells ((C2.toList.take xs.length).toArray++Builtin.zeroCells z.cells (grownCap w xs.length 0 e-xs.length)) e)).heap[w.heap.size]? =some (.cells ((C2.toList.take xs.length).toArray++Builtin.zeroCells z.cells (grownCap w xs.length 0 e-xs.length)) e):=heap_alloc_new w.drew (.cells ((C2.toList.take xs.length).toArray++Builtin.zeroCells z.cells (grownCap w xs.length 0 e-xs.length)) e);have Dk:=S2.h.jY;obtain ⟨a1,a2⟩:=Hh (w':=w.drew.alloc (.cells ((C2.toList.take xs.length).toArray++Builtin.zeroCells z.cells (grownCap w xs.length 0 e-xs.length)) e)) S2 (nb:=nb) (b:=w.heap.size) (ys:=xs) hr uR dG (by simp;omega)
         (fun b' _ aP=>heap_alloc_old w.drew _ b' aP) (by simp) ⟨rfl,rfl⟩ (.inr S.size) (fun ar blk' h ho=>nu _ (S2.h.lt h ho)) (fun j hj=>nu _ (Dk _ j hj))
         (fun i b1 l=>At P w b2 e xs [(i,0)] b1 e1 l) (fun j y hy=>by
          obtain ⟨l,v,q1,q2,q3⟩:=g4 j y hy;have dk:=(cz.1 hy).1;refine ⟨l,v,q1,?_,q3⟩;rw[Ki (by simpa using by omega)];simp[dk,q2])
         (fun j b1 l ha=>⟨EO (lit j b1 l ha).1,lit j b1 l ha⟩) g6
        refine ⟨_,_,I,ao β nb (some w.heap.size),cP,?_⟩;rw[wA,List.nil_append];refine ⟨(k1.trans k2).trans a1,a2,?_⟩;exact .dO (bJ _ _ _) (bJ _ _ _) (by rw[lL dG,hk,iC];simp[size_zeroCells,h4];omega) rj tB
       | @dO _ _ _ _ b cap hd hb bc bQ hm=>
        rw[ae] at hd;cases hd;obtain ⟨Ca,Tq,f1,f2,f3,f4,f5,f6⟩:=R8 S hr ae hb;rw[lL f1,hk,iC] at bc;have j9:bf P w (β id) (.nest e es vers) b:= .root (by simp) hb;have Hf:=S.h.own id _ b ae j9;have fo: ∀i b1 l,At P w b e es [(i,0)] b1 e1 l→b1≠b∧b1<w.heap.size∧iS P w I b1 e1 l∧(M b1∨B≤b1)∧∀ar blk',ao (ao hp id (some ah.dead)) aH (some ah.dead) ar=some blk'→¬bf P w (β ar) blk' b1:=fun i b1 l ha=>by
         obtain ⟨q1,q2,q3,q4,q5⟩:=f5 i b1 l ha;exact ⟨q1,q2,q3,q4,Sj (.inl rfl) ae q5⟩
        have al8: ∀i b1 l,At P w b2 e xs [(i,0)] b1 e1 l→b1≠b:=fun i b1 l ha h=>by
         subst h;exact bp (S.h.inj id aH _ _ _ ae dm j9 (g5 i _ l ha).2.2.2.2)
        have Kc: ∀i j b1 l m,At P w b e es [(i,0)] b1 e1 l→At P w b2 e xs [(j,0)] b1 e1 m→False:=fun i j b1 l m h1 h2=>bp (S.h.inj id aH _ _ b1 ae dm (f5 i b1 l h1).2.2.2.2 (g5 j b1 m h2).2.2.2.2)
        let K:Nat→Nat→List V→Prop:=fun i b1 l=>(i<es.length∧At P w b e es [(i,0)] b1 e1 l)∨(es.length≤i∧At P w b2 e xs [(i-es.length,0)] b1 e1 l)
        have uH: ∀i j b1 l m,K i b1 l→K j b1 m→i=j:=by
         intro i j b1 l m h1 h2;rcases h1 with ⟨_,h1⟩|⟨p1,h1⟩
         ·rcases h2 with ⟨_,h2⟩|⟨_,h2⟩
          ·exact f6 _ _ _ _ _ h1 h2
          ·exact (Kc _ _ _ _ _ h1 h2).elim
         ·rcases h2 with ⟨_,h2⟩|⟨p2,h2⟩
          ·exact (Kc _ _ _ _ _ h2 h1).elim
          ·have:=g6 _ _ _ _ _ h1 h2;omega
        have fill: ∀(C':Array Value),(∀j,j<es.length→C'[j]? =Ca[j]?)→(∀j,j<xs.length→C'[es.length+j]? =C2[j]?)→∀(j:Nat) y,(es++xs)[j]? =some y→∃l v,y= .list e1 l∧C'[j]? =some v∧zZ P w e1 (K j) v l:=by
         intro C' p1 p2 j y hy;by_cases hj:j<es.length
         ·rw[nz hj] at hy;obtain ⟨l,v,q1,q2,q3⟩:=f4 j y hy;refine ⟨l,v,q1,(p1 j hj).trans q2,?_⟩;rcases q3 with q3|⟨z1,b1,Sk,z2,z3,z4,z5,z6⟩
          ·exact .inl q3
          ·exact .inr ⟨z1,b1,Sk,z2,z3,z4,z5,.inl ⟨hj,z6⟩⟩
         ·rw[oV (by omega)] at hy;obtain ⟨l,v,q1,q2,q3⟩:=g4 _ y hy;have dk:=(cz.1 hy).1;refine ⟨l,v,q1,?_,?_⟩
          ·have:=p2 (j-es.length) dk;rw[show es.length+(j-es.length)=j by omega] at this;exact this.trans q2
          ·rcases q3 with q3|⟨z1,b1,Sk,z2,z3,z4,z5,z6⟩
           ·exact .inl q3
           ·exact .inr ⟨z1,b1,Sk,z2,z3,z4,z5,.inr ⟨by omega,z6⟩⟩
        by_cases uO:es.length+xs.length≤cap
        ·have Dp:es.length+(C2.toList.take xs.length).length≤Ca.size:=by rw[kz];omega
         have cP:=aaP (P:=P) w t ty e Tq i hu hi b es.length cap Ca f1 ⟨b2,0,none⟩ xs.length Hi (C2.toList.take xs.length) (by rw[kz,h3,iC]) uN tz uO (by rw[h3,iC];exact Dp);rw[h3,iC,kz] at cP;have dG:=setRow_heap w b Ca (Ca.toList.take es.length++C2.toList.take xs.length++Ca.toList.drop (es.length+xs.length)).toArray Tq _ f1;obtain ⟨a1,a2⟩:=Hh (w':=w.setRow b (Ca.toList.take es.length++C2.toList.take xs.length++Ca.toList.drop (es.length+xs.length)).toArray) S2 (nb:=nb) (b:=b) (ys:=es++xs) hr uR dG (by simp;omega)
          (fun b' au _=>setRow_other w b b' _ au) (by simp) ⟨rfl,rfl⟩ Hf (Sj (.inl rfl) ae j9) f3 K
          (fill _ (fun j hj=>by
           rw[pE,kQ,nz (by simp;omega),jB hj,sL]) (fun j hj=>by
           rw[pE,kQ,oV (by simp;omega),nz (by simp;omega),mP,Array.length_toList (xs:=Ca),Nat.min_eq_left (by omega),Kj,jB hj,sL]))
          (fun j b1 l hj=>by
           rcases hj with ⟨_,hj⟩|⟨_,hj⟩
           ·exact fo _ _ _ hj
           ·exact ⟨al8 _ _ _ hj,lit _ _ _ hj⟩) uH
         refine ⟨_,_,I,ao β nb (some b),cP,?_⟩;rw[wA];refine ⟨(k1.trans k2).trans a1,a2,?_⟩;have:=aj.dO (P:=P) (w:=w.setRow b (Ca.toList.take es.length++C2.toList.take xs.length++Ca.toList.drop (es.length+xs.length)).toArray) (I:=I) (β:=ao β nb (some b)) (hp:=ao (ao (ao hp id (some ah.dead)) aH (some ah.dead)) nb (some (.nest e (es++xs) [0,0,0]))) (b:=b) (cap:=cap) (bJ _ _ _) (bJ _ _ _) (by rw[lL dG,hk,iC];simp;omega) (by rw[hY];exact uO) hm;rw[hY] at this;exact this
        ·have hold: ∀(j:Nat) v,(Ca.toList.take es.length)[j]? =some v→w.cell? ((⟨b,0,none⟩:Addr).add j)=some v:=by
          intro j v hj;have dk:=(cz.1 hj).1;rw[mP] at dk;rw[jB (by omega)] at hj;rw[oC,cell?_cells f1,dB];simpa using hj
         have cP:=run_append_grow (P:=P) w t ty e i z hu hi hz ⟨b,0,none⟩ es.length cap (Ca.toList.take es.length) (by rw[h3,iC];simp;omega) hold ⟨b2,0,none⟩ xs.length Hi (C2.toList.take xs.length) (by rw[kz,h3,iC]) uN (by omega) (by omega)
          (growslice_fits (by omega) (by rw[←oL];simp only[aY] at ey;omega))
         have rj:=grownCap_ge w (es.length+xs.length) cap e;have tB:grownCap w (es.length+xs.length) cap e≤maxLen:=grownCap_le_maxLen w _ cap e (by simp only[maxLen];omega);have dG:(w.drew.alloc (.cells ((Ca.toList.take es.length).toArray++(C2.toList.take xs.length).toArray++Builtin.zeroCells z.cells (grownCap w (es.length+xs.length) cap e-(es.length+xs.length))) e)).heap[w.heap.size]? =some (.cells ((Ca.toList.take es.length).toArray++(C2.toList.take xs.length).toArray++Builtin.zeroCells z.cells (grownCap w (es.length+xs.length) cap e-(es.length+xs.length))) e):=heap_alloc_new w.drew (.cells ((Ca.toList.take es.length).toArray++(C2.toList.take xs.length).toArray++Builtin.zeroCells z.cells (grownCap w (es.length+xs.length) cap e-(es.length+xs.length))) e);have Dk:=S2.h.jY;obtain ⟨a1,a2⟩:=Hh (w':=w.drew.alloc (.cells ((Ca.toList.take es.length).toArray++(C2.toList.take xs.length).toArray++Builtin.zeroCells z.cells (grownCap w (es.length+xs.length) cap e-(es.length+xs.length))) e)) S2 (nb:=nb) (b:=w.heap.size) (ys:=es++xs) hr uR dG (by simp;omega)
          (fun b' _ aP=>heap_alloc_old w.drew _ b' aP) (by simp) ⟨rfl,rfl⟩ (.inr S.size) (fun ar blk' h ho=>nu _ (S2.h.lt h ho)) (fun j hj=>nu _ (Dk _ j hj)) K
          (fill _ (fun j hj=>by
           rw[Ki (by simp;omega),Ki (by simp;omega),pE,jB hj,sL]) (fun j hj=>by
           rw[Ki (by simp;omega),Array.getElem?_append_right (by simp;omega)];simp only[sJ,mP,Array.length_toList (xs:=Ca),Nat.min_eq_left f2,Kj];rw[pE,jB hj,sL]))
          (fun j b1 l hj=>by
           rcases hj with ⟨_,hj⟩|⟨_,hj⟩
           ·obtain ⟨_,q⟩:=fo _ _ _ hj;exact ⟨EO q.1,q⟩
           ·exact ⟨EO (lit _ _ _ hj).1,lit _ _ _ hj⟩) uH
         refine ⟨_,_,I,ao β nb (some w.heap.size),cP,?_⟩;rw[wA];refine ⟨(k1.trans k2).trans a1,a2,?_⟩;have:=aj.dO (P:=P) (w:=w.drew.alloc (.cells ((Ca.toList.take es.length).toArray++(C2.toList.take xs.length).toArray++Builtin.zeroCells z.cells (grownCap w (es.length+xs.length) cap e-(es.length+xs.length))) e)) (I:=I) (β:=ao β nb (some w.heap.size)) (hp:=ao (ao (ao hp id (some ah.dead)) aH (some ah.dead)) nb (some (.nest e (es++xs) [0,0,0]))) (b:=w.heap.size) (cap:=grownCap w (es.length+xs.length) cap e) (bJ _ _ _) (bJ _ _ _) (by rw[lL dG,hk,iC];simp[size_zeroCells,h4];omega) (by rw[hY];exact rj) tB;rw[hY] at this;exact this
      | _=>cases he
    | _=>cases hd
   | _=>cases hb
 | _=>cases ha
theorem aaT (S:aA P w I β hp B M w0) {t ty e:TypeId} {nb:Nat} {s x:Value} {sv xv:V} {r:R} {rd:List Nat} (hu:P.underlying t=some (.slice e)) (hs:aj P w I β hp s sv) (hx:aj P w I β hp x xv)
  (h:(P9 P nb e sv xv).run C hp=some (r,rd)):dj P ((Builtin.append_ #[t,t] ty #[s,x]).run P w) w I β hp B M w0 r:=by
 unfold P9 at h;split at h
 ·rename_i e' id ver i;obtain ⟨aq,h1⟩:=aD h;clear h;obtain ⟨xs,n8,l0,h2⟩:=Hd S.h.rel aq hx h1;obtain ⟨e0,es,vers,l1,ae,k1,k2,k3,h3⟩:=rV h2;cases hr:rowOf P e0 with
  | none=>simp only[hr] at h3;cases h3
  | some e1=>
  simp only[hr] at h3;obtain ⟨hc,h4⟩:=aD h3;simp only[aJ,aL] at hc;obtain ⟨rfl,rfl⟩:=hc;obtain ⟨y,hy,h5⟩:=oz h4;obtain ⟨ey,h6⟩:=aD h5;obtain ⟨l2,h7⟩:=run_get h6;cases hn:hp nb with
  | some _=>rw[hn] at h7;cases h7
  | none=>
  rw[hn] at h7;obtain ⟨ju,rfl⟩:=nj h7;obtain ⟨b,q,i0,c,t1,l,bL,hb,ht,hc⟩:=hs.Qu ae k1 k2 k3;have:q=[]∧i0=i∧c=0:=by
   have hq:([]:Path)++[(i,0)]=q++[(i0,c)]:=bL;obtain ⟨h1,h2⟩:=List.append_inj' hq rfl;simp only[y6,nA,and_true] at h2;exact ⟨h1.symm,h2.1.symm,h2.2.symm⟩
  obtain ⟨rfl,rfl,rfl⟩:=this;obtain ⟨vT,cA,al9,pb,gR⟩:=ym hr;have lk:aU P e0=[e0]:=by simp[aU,cA]
  have hk:P.cellsOf e0=1:=by rw[←fH al9,lk];rfl
  obtain ⟨b',e',aK,Ca,T,f,x1,m1,m2,m3,m4,m5,m6⟩:=hc;cases m1;rw[hk,iC,Nat.add_zero] at m6;obtain ⟨uJ,l1,S1,hv⟩:=alM S hr ae hb hy hn;have ti:=hv _ _ _ _ m2 m6;have bp:nb≠id:=fun h=>by rw[h,ae] at hn;cases hn
  have ama:nb+1≠id:=fun h=>by rw[h,ae] at ju;cases ju
  generalize hq:ao (ao hp id (some (ah.out e0 es (vers.map (· +1)) i0))) nb (some (.arr e y.toList false))=Sl at l1 S1 ti;have hq0:Sl nb=some (.arr e y.toList false):=by rw[←hq,bJ]
  have hqn:Sl (nb+1)=none:=by rw[←hq,cB _ _ (Nat.succ_ne_self nb),cB _ _ ama];exact ju
  have cW:((∃a,x= .slice a 0 0)∧xs=[])∨∃a c news,Row P w I e x xs a c news:=n8;have:=aaQ (ty:=ty) S1 hu aq ti hq0 hqn ey (by
   rcases cW with h|⟨a,c,news,h⟩
   ·exact .inl h
   ·exact .inr ⟨a,c,news,h.val,h.len,h.cell,fun i j x t' p1 p2 p3=>(h.el i j x t' p1 p2 p3).imp fun u hu=>⟨hu.1,hu.2.mono l1.en l1.cM⟩⟩)
  obtain ⟨v,w',I',β',a1,a2,a3,a4⟩:=this;refine ⟨v,w',I',β',a1,?_⟩;have wA:cb hp [(nb+1,.arr e (y.toList++xs) false),(nb,.dead),(id,.out e0 es (vers.map (· +1)) i0)]=cb Sl [(nb+1,.arr e (y.toList++xs) false),(nb,.dead)]:=by
   rw[←hq];funext k;simp only[cb];by_cases q0:k=nb+1
   ·subst q0;rw[bJ,bJ]
   ·rw[cB _ _ q0,cB _ _ q0];by_cases q1:k=nb
    ·subst q1;rw[bJ,bJ]
    ·rw[cB _ _ q1,cB _ _ q1,cB _ _ q1]
  rw[wA];exact ⟨l1.trans a2,a3,a4⟩
 ·exact al0 S hu hs hx h
theorem aaU (S:aA P w I β hp B M w0) {t e e1:TypeId} {nb:Nat} {v:Value} {l:List V} (hu:P.underlying t=some (.slice e)) (hr:rowOf P e=some e1) (hn:hp nb=none) (K:Nat→List V→Prop)
  (hv:zZ P w e1 K v l) (hK: ∀b1 l,K b1 l→b1<w.heap.size∧iS P w I b1 e1 l∧(M b1∨B≤b1)∧∀id blk,hp id=some blk→¬bf P w (β id) blk b1):
  (Instr.buildSlice t 1 #[(0,v)]).run P w= .ok (.slice (some ⟨w.heap.size,0,none⟩) 1 1) (w.alloc (.cells #[v] e))∧
  Le P w I β hp (w.alloc (.cells #[v] e)) I (ao β nb (some w.heap.size)) (ao hp nb (some (.nest e [.list e1 l] [0,0,0])))∧aA P (w.alloc (.cells #[v] e)) I (ao β nb (some w.heap.size)) (ao hp nb (some (.nest e [.list e1 l] [0,0,0]))) B M w0∧
  aj P (w.alloc (.cells #[v] e)) I (ao β nb (some w.heap.size)) (ao hp nb (some (.nest e [.list e1 l] [0,0,0]))) (.slice (some ⟨w.heap.size,0,none⟩) 1 1) (.whole e nb):=by
 obtain ⟨vT,cA,aq,pb,gR⟩:=ym hr;have lk:aU P e=[e]:=by simp[aU,cA]
 have hk:P.cellsOf e=1:=by rw[←fH aq,lk];rfl
 obtain ⟨i,z,hi,hz,h3,h4,_⟩:=ll aq;rw[hk] at h3 h4;have sm:v.cells= #[v]:=by rcases hv with ⟨_,a,rfl⟩|⟨b1,cap,_,rfl,_⟩<;>rfl
 have cP:=Sd w t e 1 #[(0,v)] #[v] i z hu hi hz (by rw[h3];omega) (by
  rw[h3];simp[Instr.fill,sm];rw[show Array.range 1= #[0] from rfl];simp)
 have dG:(w.alloc (.cells #[v] e)).heap[w.heap.size]? =some (.cells #[v] e):=heap_alloc_new w _;obtain ⟨a1,a2⟩:=Hh (w':=w.alloc (.cells #[v] e)) S (nb:=nb) (b:=w.heap.size) (ys:=[.list e1 l]) hr hn dG (by simp)
  (fun b' _ aP=>heap_alloc_old w _ b' aP) (by simp) ⟨rfl,rfl⟩ (.inr S.size) (fun ar blk' h ho=>nu _ (S.h.lt h ho)) (fun j hj=>nu _ (S.h.jY _ j hj))
  (fun i b1 l=>i=0∧K b1 l) (fun j y hy=>by
   cases j with
   | succ j=>simp at hy
   | zero=>
    simp at hy;subst hy;refine ⟨l,v,rfl,rfl,?_⟩;rcases hv with h|⟨b1,cap,z1,z2,z3,z4,z5,z6⟩
    ·exact .inl h
    ·exact .inr ⟨b1,cap,z1,z2,z3,z4,z5,rfl,z6⟩)
  (fun j b1 l h=>⟨EO (hK b1 l h.2).1,hK b1 l h.2⟩) (fun i j b1 l m h1 h2=>h1.1.trans h2.1.symm)
 refine ⟨cP,a1,a2,?_⟩;exact .dO (es:=[.list e1 l]) (bJ _ _ _) (bJ _ _ _) (by rw[lL dG,hk];rfl) (aw _) (by simp[maxLen])
theorem amb (S:aA P w I β hp B M w0) {a:Act} {sl:Nat→V} (hs:oy P w I β hp a sl) {G:Nat→V} (hg:jZ P G w I) {t e:TypeId} {len nb:Nat} {ps:Array (Nat×Operand)} {r:R} {rd:List Nat} (hu:P.underlying t=some (.slice e))
  (h:(XP P nb e len (ps.toList.map fun p=>(p.1,aS P G e sl p.2))).run C hp=some (r,rd)):
  dj P ((Instr.buildSlice t len (ps.map fun (i,x)=>(i,a.eval x))).run P w) w I β hp B M w0 r:=by
 obtain ⟨hl,ha⟩:=aD h;clear h;rw[aL,dE] at hl;cases hr:rowOf P e with
 | none=>rw[hr] at ha;cases ha
 | some e1=>
 simp only[hr] at ha;obtain ⟨vT,cA,aq,pb,gR⟩:=ym hr;obtain ⟨ps⟩:=ps;simp only at ha hl;cases ps with
 | nil=>
  obtain ⟨hn,rfl⟩:=nj ha;simp only[List.length_nil] at hl;subst hl;obtain ⟨i,z,hi,hz,h3,h4,_⟩:=ll aq;have cP:=Sd w t e 0 #[] #[] i z hu hi hz (by omega) (by simp[Instr.fill]);have dG:(w.alloc (.cells #[] e)).heap[w.heap.size]? =some (.cells #[] e):=heap_alloc_new w _;obtain ⟨a1,a2⟩:=Hh (w':=w.alloc (.cells #[] e)) S (nb:=nb) (b:=w.heap.size) (ys:=[]) hr hn dG (by simp)
   (fun b' _ aP=>heap_alloc_old w _ b' aP) (by simp) ⟨rfl,rfl⟩ (.inr S.size) (fun ar blk' h ho=>nu _ (S.h.lt h ho)) (fun j hj=>nu _ (S.h.jY _ j hj))
   (fun _ _ _=>False) (fun j y hy=>by simp at hy) (fun _ _ _ h=>h.elim) (fun _ _ _ _ _ h=>h.elim)
  exact ⟨_,_,I,ao β nb (some w.heap.size),by simpa using cP,a1,a2,.dO (es:=[]) (bJ _ _ _) (bJ _ _ _) (by rw[lL dG];simp) (aw _) (by simp)⟩
 | cons p ps=>
  cases ps with
  | cons q ps=>
   obtain ⟨p1,p2⟩:=p;simp only[lD] at ha;cases p1<;>cases hx:aS P G e sl p2<;>simp only[hx] at ha<;>cases ha
  | nil=>
  obtain ⟨p1,p2⟩:=p;simp only[List.length_cons,List.length_nil,dB] at hl;subst hl;have qR:=hs.ev hg e p2;simp only[lD,List.map_nil] at ha;cases p1 with
  | succ n=>cases hx:aS P G e sl p2<;>simp only[hx] at ha<;>cases ha
  | zero=>
  cases hx:aS P G e sl p2 with
  | nilS e2=>
   simp only[hx] at ha;obtain ⟨hc,hb⟩:=aD ha;obtain ⟨hn,rfl⟩:=nj hb;rw[hx] at qR;obtain ⟨a0,ha0⟩: ∃a0,a.eval p2= .slice a0 0 0:=by
    generalize a.eval p2=v at qR;cases qR;exact ⟨_,rfl⟩
   obtain ⟨k1,k2,k3,k4⟩:=aaU S (v:=a.eval p2) (l:=[]) hu hr hn (fun _ _=>False) (.inl ⟨rfl,a0,ha0⟩) (fun _ _ h=>h.elim);exact ⟨_,_,I,ao β nb (some w.heap.size),by simpa using k1,k2,k3,k4⟩
  | whole e2 id=>
   simp only[hx] at ha;obtain ⟨l0,hb⟩:=run_get ha;clear ha;cases ae:hp id with
   | none=>rw[ae] at hb;cases hb
   | some blk=>
    rw[ae] at hb;cases blk with
    | arr e3 es fz=>
     cases fz with
     | true=>cases hb
     | false=>
      obtain ⟨hc,hd⟩:=aD hb;clear hb;simp only[aJ,aL] at hc;obtain ⟨rfl,rfl⟩:=hc;obtain ⟨hn,rfl⟩:=nj hd;have bp:nb≠id:=fun e=>by rw[e,ae] at hn;cases hn
      obtain ⟨k1,S1⟩:=xP S ae;have ju:ao hp id (some ah.dead) nb=none:=by rw[cB _ _ bp];exact hn
      have wA:cb hp [(nb,.nest e [.list e1 es] [0,0,0]),(id,.dead)]=ao (ao hp id (some ah.dead)) nb (some (.nest e [.list e1 es] [0,0,0])):=rfl;rw[hx] at qR;have fin: ∀(K:Nat→List V→Prop),zZ P w e1 K (a.eval p2) es→(∀b1 l,K b1 l→b1<w.heap.size∧iS P w I b1 e1 l∧(M b1∨B≤b1)∧∀ar blk',ao hp id (some ah.dead) ar=some blk'→¬bf P w (β ar) blk' b1)→
        dj P ((Instr.buildSlice t 1 #[(0,a.eval p2)]).run P w) w I β hp B M w0 ⟨.whole e nb,[(nb,.nest e [.list e1 es] [0,0,0]),(id,.dead)]⟩:=fun K hv hK=>by
       obtain ⟨q1,q2,q3,q4⟩:=aaU S1 (v:=a.eval p2) (l:=es) hu hr ju K hv hK;refine ⟨_,_,I,ao β nb (some w.heap.size),q1,?_⟩;rw[wA];exact ⟨k1.trans q2,q3,q4⟩
      have res:dj P ((Instr.buildSlice t 1 #[(0,a.eval p2)]).run P w) w I β hp B M w0 ⟨.whole e nb,[(nb,.nest e [.list e1 es] [0,0,0]),(id,.dead)]⟩:=by
       generalize a.eval p2=v at qR fin⊢;cases qR with
       | dZ hd=>rw[ae] at hd;cases hd
       | dO hd=>rw[ae] at hd;cases hd
       | ee hd=>rw[ae] at hd;cases hd
       | fG hd=>rw[ae] at hd;cases hd
       | @dV _ _ _ a0 hd hb=>
        rw[ae] at hd;cases hd;exact fin (fun _ _=>False) (.inl ⟨rfl,a0,rfl⟩) (fun _ _ h=>h.elim)
       | @whole _ _ _ _ b cap hd hb bc bQ hm=>
        rw[ae] at hd;cases hd;obtain ⟨m1,m2⟩:=R5 S ae hb gR;obtain ⟨m3,m4⟩:=m1 _ _ _ _ .here;by_cases h0:0<cap
        ·refine fin (fun b1 l=>b1=b∧l=es) (.inr ⟨b,cap,h0,rfl,bc,bQ,hm,rfl,rfl⟩) (fun b1 l h=> ?_);obtain ⟨rfl,rfl⟩:=h;refine ⟨S.h.lt ae m4,m3,S.h.own id _ _ ae m4,fun ar blk' h' ho=> ?_⟩;by_cases q:ar=id
         ·subst q;rw[bJ] at h';cases h';exact absurd rfl ho.alive
         ·rw[cB _ _ q] at h';exact q (S.h.inj ar id _ _ _ h' ae ho m4)
        ·have:es=[]:=vr.1 (by omega);subst this;exact fin (fun _ _=>False) (.inl ⟨rfl,some ⟨b,0,none⟩,by rw[show cap=0 by omega];rfl⟩) (fun _ _ h=>h.elim)
      simpa using res
    | _=>cases hb
  | _=>simp only[hx] at ha;cases ha
end
section
variable {P:Program} {w w':World} {I I':Nat→Nat→Prop} {β β':Nat→Option Nat} {hp hp':Nat→Option ah} {C:af} {B:Nat} {M:Nat→Prop} {w0:Start}
theorem amc (S:aA P w I β hp B M w0) {s:TypeId} {f:Nat} {v:Value} {x:V} {r:R} {rd:List Nat} (hv:aj P w I β hp v x)
  (h:(Qf P s f x).run C hp=some (r,rd)):dj P ((Instr.field s v f).run P w) w I β hp B M w0 r:=by
 unfold Qf Kv at h;split at h
 ·rename_i fs hu;cases hf:fs[f]? with
  | none=>rw[hf] at h;cases h
  | some fd=>
   rw[hf] at h;simp only[B0] at h;obtain ⟨ht,h⟩:=aD h;obtain ⟨d,uS⟩:=Cp ht;obtain ⟨i,hi⟩:=xR uS;have bc:i.size=P.cellsOf fd.type:=by simp[Program.cellsOf,hi]
   cases x with
   | agg xs=>
    obtain ⟨cs,rfl,h1,h2⟩:=hv.nF;dsimp only at h;cases ha:b8 P fd.type with
    | true=>
     rw[ha] at h;simp only[cond_true] at h;obtain ⟨hc,h⟩:=aD h;obtain rfl:=aN h;rw[gx] at hc;refine .same S (v:= .agg (cs.extract fd.offset (fd.offset+P.cellsOf fd.type))) ?_ (.agg (by simp;omega) fun j u y lX hy=> ?_)
     ·simp[Instr.field,run_underlying hu,hf,part,KX uS,ha,asAgg,sizeOf,typeInfo,hi,bc]
     grind
    | false=>
     rw[ha] at h;simp only[cond_false] at h;obtain ⟨y,hy,h⟩:=oz h;obtain rfl:=aN h;have aP:fd.offset<cs.size:=by grind
     refine .same S (v:=cs[fd.offset]) ?_ (h2 _ _ _ (lC aP) hy);simp[Instr.field,run_underlying hu,hf,part,KX uS,ha,asAgg,aP]
   | _=>cases h
 ·cases h
theorem amd (S:aA P w I β hp B M w0) {i:Nat} {v:Value} {xs:List V} {r:R} {rd:List Nat} (hv:aj P w I β hp v (.bd xs))
  (h:(Rd.opt xs[i]? fun v=> .ret ⟨v,[]⟩).run C hp=some (r,rd)):dj P ((Instr.extract v i).run P w) w I β hp B M w0 r:=by
 obtain ⟨cs,rfl,h1,h2⟩:=hv.zn;obtain ⟨y,hy,h⟩:=oz h;obtain rfl:=aN h;have aP:i<cs.size:=by grind
 exact .same S (v:=cs[i]) (by simp[Instr.extract,aP]) (h2 _ _ _ (lC aP) hy)
theorem ame (S:aA P w I β hp B M w0) {t:TypeId} {s:ByteArray} {l:List UInt8} {k:IntKind} {i:Int} {r:R} {rd:List Nat} (hu:P.underlying t=some .string) (hs:s.data.toList=l)
  (h:(Rd.opt (bif decide (0≤i) then (l[i.toNat]?).map fun b=>V.int .u8 b.toNat else none) fun v=> .ret ⟨.int .u8 v.toInt,[]⟩).run C hp=some (r,rd)):
  dj P ((Instr.index t (.string s) (.int k i)).run P w) w I β hp B M w0 r:=by
 obtain ⟨v,hv,h⟩:=oz h;obtain rfl:=aN h;cases hc:decide (0≤i) with
 | false=>grind
 | true=>
  rw[hc] at hv;simp only[cond_true] at hv;have h0:0≤i:=by grind
  cases hb:l[i.toNat]? with
  | none=>grind
  | some b=>
   rw[hb] at hv;simp only[Option.map_some,fk] at hv;subst hv;have ZI:s[i.toNat]? =some b:=by
    subst hs;obtain ⟨aP,he⟩:=cz.1 hb;have Sm:i.toNat<s.size:=by simpa using aP
    rw[getElem?_pos s i.toNat Sm];congr 1
   refine .same S (v:= .int .u8 b.toNat) ?_ .int;simp[Instr.index,asIntOf,run_underlying hu,h0,ZI]
theorem amf (S:aA P w I β hp B M w0) {t e:TypeId} {n:Nat} {v:Value} {cs:List V} {k:IntKind} {i:Int} {r:R} {rd:List Nat} (hu:P.underlying t=some (.array n e)) (hv:aj P w I β hp v (.agg cs))
  (h:(Qh P n e cs i).run C hp=some (r,rd)):dj P ((Instr.index t v (.int k i)).run P w) w I β hp B M w0 r:=by
 obtain ⟨xs,rfl,h1,h2⟩:=hv.nF;unfold Qh at h;obtain ⟨hc,h⟩:=aD h;obtain ⟨y,hy,h⟩:=oz h;obtain rfl:=aN h;simp only[aJ,nw,aL] at hc;obtain ⟨c1,c2,c3,c4,c5⟩:=hc;obtain ⟨d,uS⟩:=Cp c1;obtain ⟨j,hi⟩:=xR uS;have bc:j.size=1:=by rw[←c3];simp[Program.cellsOf,hi]
 unfold idx at hy;cases h0:decide (0≤i) with
 | false=>rw[h0] at hy;cases hy
 | true=>
  rw[h0] at hy;simp only[cond_true] at hy;have h0:0≤i:=EF h0;have aP:i.toNat<cs.length:=(cz.1 hy).1;have aaV:i.toNat<xs.size:=by rw[h1];exact aP
  have cQ:=ib.1 c5 y (mN hy);cases y<;>(try (cases cQ;done))
  refine .same S (v:=xs[i.toNat]) ?_ (h2 _ _ _ (lC aaV) hy);have na:i<(n:Int):=by omega
  simp[Instr.index,asIntOf,run_underlying hu,h0,na,part,KX uS,c4,sizeOf,typeInfo,hi,bc,aaV]
theorem Sn (S:aA P w I β hp B M w0) (mx:Bool): ∀{vs:List Value} {xs:List V} {v:Value} {x:V} {r:R} {rd:List Nat},aj P w I β hp v x→vs.length=xs.length→
  (∀(j:Nat) u y,vs[j]? =some u→xs[j]? =some y→aj P w I β hp u y)→(B3 mx x xs).run C hp=some (r,rd)→
  dj P ((vs.foldlM (if mx then Builtin.max2 else Builtin.min2) v).run P w) w I β hp B M w0 r
 | [],[],v,x,r,rd,hv,_,_,h=>by
  have:r=⟨x,[]⟩:=by
   cases x<;>(simp only[B3] at h;exact (aN h).symm)
  subst this;exact .same S (by simp) hv
 | [],_::_,v,x,r,rd,hv,hl,_,h=>by simp at hl
 | _::_,[],v,x,r,rd,hv,hl,_,h=>by simp at hl
 | u::vs,y::xs,v,x,r,rd,hv,hl,hx,h=>by
  cases x<;>cases y<;>simp only[B3] at h<;>first|(cases h;done)|skip
  rename_i k a k' b;obtain ⟨hc,h4⟩:=aD h;clear h;obtain rfl:k=k':=by grind
  have hu:=hx 0 u _ rfl rfl;rw[hv.fW,hu.fW];have ih:=Sn S mx (vs:=vs) (xs:=xs) (v:= .int k (bif mx then (if b>a then b else a) else (if b<a then b else a))) .int (by grind)
   (fun j u y h1 h2=>hx (j+1) u y (by grind) (by grind)) h4
  cases mx with
  | true=>simpa[List.foldlM_cons,Builtin.max2] using ih
  | false=>simpa[List.foldlM_cons,Builtin.min2] using ih
theorem uT {n cap:Nat} {isS:Bool} {lo hi:Option V} {lov hiv:Option Value} {k:Nat→Nat→Rd R} {r:R} {rd:List Nat} (hn:n≤cap)
  (n9: ∀x,lo=some x→∃v,lov=some v∧aj P w I β hp v x) (mG: ∀x,hi=some x→∃v,hiv=some v∧aj P w I β hp v x) (rm:lo=none→lov=none) (sq:hi=none→hiv=none)
  (h:(vG n lo hi k).run C hp=some (r,rd)): ∃l u,l≤u∧u≤n∧(Instr.sliceBounds isS n cap lov hiv none).run P w= .ok (l,u,cap) w∧(k l u).run C hp=some (r,rd):=by
 have ok: ∀(kk:IntKind) (i:Int) (y:Nat) (c:BoundsCode),0≤i→i≤y→(Instr.sliceBound (.int kk i) y c).run P w= .ok i.toNat w:=by
  intro kk i y c h1 h2;simp[Instr.sliceBound,asIntOf,h1,h2]
 unfold vG at h;cases lo with
 | none=>
  rw[rm rfl];cases hi with
  | none=>
   rw[sq rfl];exact ⟨0,n,mi _,aw _,by simp[Instr.sliceBounds],h⟩
  | some x=>
   obtain ⟨v,rfl,hv⟩:=mG x rfl;cases x<;>simp only at h<;>first|(cases h;done)|skip
   rename_i kk u;obtain ⟨hc,h⟩:=aD h;simp only[aJ,jU] at hc;rw[hv.fW];have:=ok kk u cap (if isS then .sliceAcap else .sliceAlen) hc.1 (by omega);exact ⟨0,u.toNat,mi _,by omega,by simp[Instr.sliceBounds,this],h⟩
 | some x=>
  obtain ⟨v,rfl,hv⟩:=n9 x rfl;cases hi with
  | none=>
   rw[sq rfl];cases x<;>simp only at h<;>first|(cases h;done)|skip
   rename_i kk l;obtain ⟨hc,h⟩:=aD h;simp only[aJ,jU] at hc;rw[hv.fW];have:=ok kk l n .sliceB hc.1 (by omega);exact ⟨l.toNat,n,by omega,aw _,by simp[Instr.sliceBounds,this],h⟩
  | some y=>
   obtain ⟨v2,rfl,ml⟩:=mG y rfl;cases x<;>cases y<;>simp only at h<;>first|(cases h;done)|skip
   rename_i kk l kk2 u;obtain ⟨hc,h⟩:=aD h;simp only[aJ,jU] at hc;rw[hv.fW,ml.fW];have h1:=ok kk2 u cap (if isS then .sliceAcap else .sliceAlen) (by omega) (by omega);have h2:=ok kk l u.toNat .sliceB hc.1 (by omega);exact ⟨l.toNat,u.toNat,by omega,by omega,by simp[Instr.sliceBounds,h1,h2],h⟩
theorem MP {a:Option Addr} {t e:TypeId} {i:TypeInfo} (hu:P.underlying t=some (.slice e)) (hi:P.info? e=some i) {lov hiv:Option Value}
  (hb:(Instr.sliceBounds true 0 0 lov hiv none).run P w= .ok (0,0,0) w):(Instr.sliceAt t (.slice a 0 0) lov hiv none).run P w= .ok (.slice a 0 0) w:=by
 cases a<;>simp[Instr.sliceAt,Instr.slice,run_underlying hu,hb,sizeOf,typeInfo,hi]
theorem So {t e:TypeId} {i:TypeInfo} {b o len cap l u:Nat} (hu:P.underlying t=some (.slice e)) (hi:P.info? e=some i) {lov hiv:Option Value} (huc:u≤cap)
  (hb:(Instr.sliceBounds true len cap lov hiv none).run P w= .ok (l,u,cap) w): ∃o',(0<u-l→o'=o+l*i.size)∧(Instr.sliceAt t (.slice (some ⟨b,o,none⟩) len cap) lov hiv none).run P w= .ok (.slice (some ⟨b,o',none⟩) (u-l) (cap-l)) w:=by
 by_cases hc:cap=l
 ·subst hc;refine ⟨o,fun h=>by omega,?_⟩
  ·simp[Instr.sliceAt,Instr.slice,run_underlying hu,hb,sizeOf,typeInfo,hi]
 ·refine ⟨o+l*i.size,fun _=>rfl,?_⟩;simp[Instr.sliceAt,Instr.slice,run_underlying hu,hb,sizeOf,typeInfo,hi,hc,oC]
theorem amg (s:ByteArray) (l:List UInt8) (h:s.data.toList=l) (a b:Nat):(s.extract a b).data.toList=(l.drop a).take (b-a):=by
 simp_all
theorem amh (S:aA P w I β hp B M w0) {t:TypeId} {v:Value} {x:V} {lo hi:Option V} {lov hiv:Option Value} {r:R} {rd:List Nat} (hv:aj P w I β hp v x)
  (n9: ∀x,lo=some x→∃v,lov=some v∧aj P w I β hp v x) (mG: ∀x,hi=some x→∃v,hiv=some v∧aj P w I β hp v x) (rm:lo=none→lov=none) (sq:hi=none→hiv=none)
  (h:(KD P t x lo hi).run C hp=some (r,rd)):dj P ((Instr.sliceAt t v lov hiv none).run P w) w I β hp B M w0 r:=by
 unfold KD at h;cases hu:P.underlying t with
 | none=>rw[hu] at h;cases h
 | some d=>
  rw[hu] at h;cases d<;>simp only at h<;>first|(cases h;done)|skip
  case string=>
   cases x<;>simp only at h<;>first|(cases h;done)|skip
   rename_i l;obtain ⟨s,rfl,hs⟩:=hv.oZ;have bc:l.length=s.size:=by rw[←hs];simp
   obtain ⟨a,u,h1,h2,h3,h4⟩:=uT (isS:=false) (cap:=s.size) (by omega) n9 mG rm sq h;obtain rfl:=aN h4;rw[bc] at h3;refine .same S (v:= .string (s.extract a u)) ?_ (.str (amg s l hs a u));simp[Instr.sliceAt,Instr.slice,run_underlying hu,h3]
  case slice e=>
   cases x<;>simp only at h<;>first|(cases h;done)|skip
   case list e' es=>
    obtain ⟨hc,h⟩:=aD h;simp only[aJ,aL] at hc;obtain ⟨gC,aq⟩:=hc;obtain ⟨i,z,bU,_,bc,_⟩:=ll aq;cases hv with
    | list hp'=>
     cases hp' with
     | nil=>
      obtain ⟨a,u,h1,h2,h3,h4⟩:=uT (n:=0) (isS:=true) (cap:=0) (aw _) n9 mG rm sq h;obtain rfl:=aN h4;obtain rfl:u=0:=by omega
      obtain rfl:a=0:=by omega
      exact .same S (MP hu bU h3) (by simpa using aj.list kV.nil)
     | @emp ad cap=>
      obtain ⟨a,u,h1,h2,h3,h4⟩:=uT (n:=0) (isS:=true) (cap:=cap) (mi _) n9 mG rm sq h;obtain rfl:=aN h4;obtain rfl:u=0:=by omega
      obtain rfl:a=0:=by omega
      refine .same S (v:= .slice (some ad) 0 cap) ?_ (by simpa using aj.list kV.emp);by_cases hc:cap=0
      ·subst hc;simp[Instr.sliceAt,Instr.slice,run_underlying hu,h3,sizeOf,typeInfo,bU]
      ·simp[Instr.sliceAt,Instr.slice,run_underlying hu,h3,sizeOf,typeInfo,bU,hc,Addr.add]
     | @list b o len cap _ g hl bQ hI gL hx=>
      obtain ⟨a,u,h1,h2,h3,h4⟩:=uT (isS:=true) (cap:=cap) (by omega) n9 mG rm sq h;obtain rfl:=aN h4;rw[hl] at h2 h3;obtain ⟨o',sY,cP⟩:=So (b:=b) (o:=o) hu bU (by omega) h3;have jQ:e=e':=gC;refine .same S cP (.list ?_);rw[←jQ];rw[←jQ] at gL hx hI;have hlen:((es.drop a).take (u-a)).length=u-a:=by simp;omega
      refine .list (fun i j=>g (a+i) j) hlen (by omega) (fun j hj=> ?_) (fun i j hi hj=> ?_) (fun i j y t' hy ht=> ?_)
      ·have gM:0<u-a:=Nat.pos_of_ne_zero fun e=>by grind
       rw[sY (by omega),bc,xn];refine hI _ (oq (Nat.add_lt_add_left hj _) ?_);rw[←jn];exact eI _ (by omega)
      all_goals grind
   case whole e' id=>
    obtain ⟨l,h⟩:=run_get h;cases ae:hp id with
    | none=>rw[ae] at h;cases h
    | some blk=>
     rw[ae] at h;cases blk<;>simp only at h<;>first|(cases h;done)|skip
     rename_i dY es fz;obtain ⟨hc,h9⟩:=aD h;clear h;simp only[aJ,aL] at hc;obtain ⟨gC,gi,aq⟩:=hc;obtain ⟨i,z,bU,_,bc,_⟩:=ll aq;cases hv with
     | dZ hd=>grind
     | dO hd=>grind
     | ee hd=>grind
     | fG hd=>grind
     | dV hd hb=>
      rw[ae] at hd;cases hd;obtain ⟨a,u,h1,h2,h3,h4⟩:=uT (n:=0) (isS:=true) (cap:=0) (aw _) n9 mG rm sq h9;obtain rfl:=aN h4;obtain rfl:u=0:=by omega
      obtain rfl:a=0:=by omega
      exact .same S (MP hu bU h3) (.jh ae hb)
     | @whole _ _ aK pQ b cap hd hb Dq bQ hm=>
      have fU:=hd;rw[ae] at hd;cases hd;obtain ⟨a,u,h1,h2,h3,h4⟩:=uT (isS:=true) (cap:=cap) bQ n9 mG rm sq h9;obtain rfl:=aN h4;obtain ⟨o',sY,cP⟩:=So (b:=b) (o:=0) hu bU (by omega) h3;have jQ:e=e':=gC;exact .same S cP (.sub fU hb (by omega) (by omega) (fun h=>by grind))
   case sub e' id off len=>
    obtain ⟨l,h⟩:=run_get h;cases ae:hp id with
    | none=>rw[ae] at h;cases h
    | some blk=>
     rw[ae] at h;cases blk<;>simp only at h<;>first|(cases h;done)|skip
     rename_i dY es fz;obtain ⟨hc,h⟩:=aD h;simp only[aJ,aL] at hc;obtain ⟨gC,gi,aq⟩:=hc;obtain ⟨i,z,bU,_,bc,_⟩:=ll aq;cases hv with
     | jK hd=>grind
     | jh hd hb=>
      have fU:=hd;obtain ⟨a,u,h1,h2,h3,h4⟩:=uT (isS:=true) (cap:=0) (aw _) n9 mG rm sq h;obtain rfl:=aN h4;obtain rfl:u=0:=by omega
      obtain rfl:a=0:=by omega
      exact .same S (MP hu bU h3) (.jh fU hb)
     | @sub _ _ _ _ aK pQ b o cap hd hb mY bQ ho=>
      have fU:=hd;obtain ⟨a,u,h1,h2,h3,h4⟩:=uT (isS:=true) (cap:=cap) bQ n9 mG rm sq h;obtain rfl:=aN h4;obtain ⟨o',sY,cP⟩:=So (b:=b) (o:=o) hu bU (by omega) h3;have jQ:e=e':=gC;exact .same S cP (.sub fU hb (by omega) (by omega) (fun h=>by grind))
  case array n e=>
   cases x<;>simp only at h<;>first|(cases h;done)|skip
   rename_i id j c;obtain ⟨l0,h⟩:=run_get h;cases ae:hp id with
   | none=>rw[ae] at h;cases h
   | some blk=>
    rw[ae] at h;cases blk<;>simp only at h<;>first|(cases h;done)|skip
    rename_i e' es fz;obtain ⟨hc,h9⟩:=aD h;clear h;simp only[aJ,aL] at hc;obtain ⟨rfl,rfl,rfl,rfl,aq⟩:=hc;obtain ⟨i,z,bU,_,bc,_⟩:=ll aq;obtain ⟨a,u,h1,h2,h3,h4⟩:=uT (isS:=false) (cap:=es.length) (aw _) n9 mG rm sq h9;obtain rfl:=aN h4;obtain ⟨b,hb,rfl⟩:=hv.jl ae (by simp);have cP:(Instr.sliceAt t (.pointer (some ⟨b,0*(ah.arr e es fz).sz P+0,none⟩)) lov hiv none).run P w= .ok (.slice (some ⟨b,if es.length=a then 0 else a*P.cellsOf e,none⟩) (u-a) (es.length-a)) w:=by
     rw[←bc];simp[Instr.sliceAt,run_underlying hu,h3,sizeOf,typeInfo,bU,Instr.sureAddr];split<;>simp[oC]
    exact .same S cP (.sub ae hb (by omega) (by omega) (fun h=>by grind))
theorem ami (S:aA P w I β hp B M w0) {t:TypeId} {v:Value} {x:V} {lo hi mx:Option V} {lov hiv mxv:Option Value} {r:R} {rd:List Nat} (hv:aj P w I β hp v x)
  (n9:lo=none→lov=none) (mG: ∀y,hi=some y→∃u,hiv=some u∧aj P w I β hp u y) (s6: ∀y,mx=some y→∃u,mxv=some u∧aj P w I β hp u y)
  (h:(Qd P t x lo hi mx).run C hp=some (r,rd)):dj P ((Instr.sliceAt t v lov hiv mxv).run P w) w I β hp B M w0 r:=by
 unfold Qd at h;split at h
 ·rename_i e e' id _ hh _ m hu;obtain ⟨l,h⟩:=run_get h;cases ae:hp id with
  | none=>rw[ae] at h;cases h
  | some blk=>
   rw[ae] at h;cases blk<;>simp only at h<;>first|(cases h;done)|skip
   rename_i dY es fz;obtain ⟨hc,h9⟩:=aD h;clear h;simp only[aJ,aL,jU] at hc;obtain ⟨rfl,rfl,aq,h0,h1,h2⟩:=hc;obtain rfl:=aN h9;obtain ⟨i,z,bU,_,_,_⟩:=ll aq;obtain ⟨u1,rfl,k1⟩:=mG _ rfl;obtain ⟨u2,rfl,k2⟩:=s6 _ rfl;rw[k1.fW,k2.fW,n9 rfl];have run: ∀{k k2:IntKind} (a:Option Addr) (len cap:Nat),m≤cap→(Instr.sliceAt t (.slice a len cap) none (some (.int k hh)) (some (.int k2 m))).run P w= .ok (.slice (if m.toNat=0 then a else a.map (·.add 0)) hh.toNat m.toNat) w:=by
    intro k k2 a len cap hm;obtain ⟨m,rfl⟩:=Ke (Int.le_trans h0 h1);obtain ⟨hh,rfl⟩:=Ke h0;have c1:m≤cap:=by omega
    have c2:hh≤m:=by omega
    cases a<;>simp[Instr.sliceAt,Instr.slice,Instr.sliceBounds,Instr.sliceBound,asIntOf,run_underlying hu,sizeOf,typeInfo,bU,c1,c2]
   cases hv with
   | dZ hd=>grind
   | dO hd=>grind
   | ee hd=>grind
   | fG hd=>grind
   | dV hd hb=>
    rw[ae] at hd;cases hd;obtain rfl:m=0:=by simp at h2;omega
    obtain rfl:hh=0:=by omega
    exact .same S (run _ _ _ (by omega)) (.jh ae hb)
   | whole hd hb bc bQ hm=>
    rw[ae] at hd;cases hd;refine .same S (run _ _ _ (by omega)) ?_;have e0: ∀b,(if m.toNat=0 then (some ⟨b,0,none⟩:Option Addr) else (some ⟨b,0,none⟩:Option Addr).map (·.add 0))=some ⟨b,0,none⟩:=by intro b;split<;>simp[oC]
    rw[e0];exact .sub ae hb (by omega) (by omega) (fun _=>by simp)
 ·cases h
theorem aaW (S:aA P w I β hp B M w0) {t:TypeId} {v ix:Value} {x y:V} {r:R} {rd:List Nat} (hv:aj P w I β hp v x) (hy:aj P w I β hp ix y) (kz: ∀e es,x≠ .nl e es)
  (h:(y8 P t x y).run C hp=some (r,rd)):dj P ((Instr.indexAt t v ix).run P w) w I β hp B M w0 r:=by
 unfold y8 at h;cases hu:P.underlying t with
 | none=>rw[hu] at h;cases h
 | some d=>
  rw[hu] at h;cases y<;>(try (cases d<;>cases h;done))
  rename_i k i;rw[hy.fW];cases d<;>simp only at h<;>first|(cases h;done)|skip
  case slice e=>
   have run: ∀(b o len cap:Nat) (ie:TypeInfo),P.info? e=some ie→0≤i→i<(len:Int)→(Instr.indexAt t (.slice (some ⟨b,o,none⟩) len cap) (.int k i)).run P w= .ok (.pointer (some ⟨b,o+i.toNat*ie.size,none⟩)) w:=by
    intro b o len cap ie n7 h0 h1;simp[Instr.indexAt,asIntOf,run_underlying hu,h0,h1,sizeOf,typeInfo,n7,oC]
   cases x<;>simp only at h<;>first|(cases h;done)|skip
   case nl e' es=>exact absurd rfl (kz _ _)
   case list e' es=>
    obtain ⟨hc,h⟩:=aD h;simp only[aJ,aL] at hc;obtain ⟨gC,aq⟩:=hc;have jQ:e=e':=gC;obtain ⟨ie,z,bU,_,bc,_⟩:=ll aq;obtain ⟨el,fJ,h⟩:=oz h;obtain rfl:=aN h;unfold idx at fJ;cases h0:decide (0≤i) with
    | false=>grind
    | true=>
     rw[h0] at fJ;simp only[cond_true] at fJ;have R9:0≤i:=by grind
     have aP:i.toNat<es.length:=(cz.1 fJ).1;cases hv with
     | list hp'=>
      cases hp' with
      | nil=>simp at aP
      | emp=>simp at aP
      | @list b o len cap _ g hl bQ hI gL hx=>
       rw[←jQ] at gL hx hI;refine .same S (run b o len cap ie bU R9 (by omega)) ?_;have eL:=Co (P:=P) e el;have aaX:=fH aq;have aaY:(bif b8 P e then flat P e else [e])=aU P e:=rfl;rw[aaY];have amj:ie.size=P.cellsOf e:=by omega
       refine .pref (by rw[eL]) (fun j hj=> ?_) (fun j t' y' ht QA=> ?_)
       ·rw[xn,amj];exact hI _ (Qq (by omega) (by omega))
       ·obtain ⟨t2,a1,a2⟩:=QC QA;rw[ht] at a1;cases a1;have hj:j<P.cellsOf e:=by grind
        have gj:=hx i.toNat j el t' fJ ht;refine ⟨g i.toNat j,?_,?_⟩
        ·grind
        ·rw[a2,gj.xS];exact gj
   case whole e' id=>
    obtain ⟨l,h⟩:=run_get h;cases ae:hp id with
    | none=>rw[ae] at h;cases h
    | some blk=>
     rw[ae] at h;cases blk<;>simp only at h<;>first|(cases h;done)|skip
     rename_i dY es fz;obtain ⟨hc,h⟩:=aD h;simp only[aJ,aL] at hc;obtain ⟨gC,gi⟩:=hc;obtain ⟨fZ,h⟩:=aD h;simp only[aJ,jU] at fZ;obtain rfl:=aN h;cases hv with
     | dZ hd=>grind
     | dO hd=>grind
     | ee hd=>grind
     | fG hd=>grind
     | dV hd hb=>grind
     | @whole _ _ aK pQ b cap hd hb Dq bQ hm=>
      have fU:=hd;rw[ae] at hd;cases hd;have hr:=S.h.rel id _ ae;cases hr with
      | eF au=>grind
      | arr hL aq au hh hs hf fN hx=>
       have jQ:e=e':=gC;obtain ⟨ie,z,bU,_,bc,_⟩:=ll aq;rw[←jQ] at bU bc;refine .same S (run b 0 _ cap ie bU fZ.1 fZ.2) ?_;have:=aj.ptr (P:=P) (w:=w) (I:=I) (i:=i.toNat) (c:=0) fU (by simp) hb;simp only[ah.sz] at this;grind
     rename_i dY es vers;obtain ⟨hc,h⟩:=aD h;simp only[aJ,aL] at hc;obtain ⟨gC,gi⟩:=hc;obtain ⟨fZ,h⟩:=aD h;simp only[aJ,jU] at fZ;obtain rfl:=aN h;cases hv with
     | dZ hd=>grind
     | dV hd hb=>grind
     | whole hd=>grind
     | ee hd hb=>grind
     | fG hd=>grind
     | @dO _ _ aK vers' b cap hd hb Dq bQ hm=>
      have fU:=hd;rw[ae] at hd;cases hd;have aq:=(S.rows fU hb .here).ok;have jQ:e=e':=gC;obtain ⟨ie,z,bU,_,bc,_⟩:=ll aq;rw[←jQ] at bU bc;refine .same S (run b 0 _ cap ie bU fZ.1 fZ.2) ?_;have:=aj.ptr (P:=P) (w:=w) (I:=I) (i:=i.toNat) (c:=0) fU (by simp) hb;simp only[ah.sz] at this;grind
     rename_i dY es vers j0;obtain ⟨hc,h⟩:=aD h;simp only[aJ,aL] at hc;obtain ⟨gC,gi⟩:=hc;obtain ⟨fZ,h⟩:=aD h;simp only[aJ,jU] at fZ;obtain rfl:=aN h;cases hv with
     | dZ hd=>grind
     | dV hd hb=>grind
     | whole hd=>grind
     | ee hd hb=>grind
     | dO hd=>grind
     | @fG _ _ j1 aK vers' b cap hd hb Dq bQ hm=>
      have fU:=hd;rw[ae] at hd;cases hd;have jQ:e=e':=gC;obtain ⟨ie,bU⟩: ∃ie,P.info? e=some ie:=by
       have hr:=S.h.rel id _ fU;cases hr with
       | out _ jv _ _ _ _ _ _ _ _=>rw[jQ];exact xR jv
      have bc:ie.size=P.cellsOf e:=by simp[Program.cellsOf,bU]
      refine .same S (run b 0 _ cap ie bU fZ.1 fZ.2) ?_;have:=aj.ptr (P:=P) (w:=w) (I:=I) (i:=i.toNat) (c:=0) fU (by simp) hb;simp only[ah.sz] at this;grind
   case row e' id ver path=>
    obtain ⟨e0,es,vers,l,ae,h1,h2,h3,h⟩:=rV h;obtain ⟨e2,v',k1,k2,h⟩:=Cg h;obtain ⟨hc,h⟩:=aD h;simp only[aJ,aL] at hc;obtain ⟨gC,gi⟩:=hc;obtain ⟨fZ,h⟩:=aD h;simp only[aJ,jU] at fZ;obtain rfl:=aN h;cases hv with
    | mW hd hp'=>rw[ae] at hd;cases hd;exact absurd hp' (Ch h1 h2 h3)
    | @row v _ e0 t1 _ ver b i1 c1 q es l1 vers hd hb hq R3 ht gL=>
     have amk:=gL;obtain ⟨b',e3,aK,Ca,T,f,x,m1,m2,m3,m4,m5,m6⟩:=gL;have Ck:=hd;rw[ae] at Ck;cases Ck;obtain ⟨n1,n2⟩:=KU m1 m3 m4 ht m5;rw[n2] at k2;cases k2;simp only[V.toList] at fZ;have hR:=S.rows hd hb m1;obtain ⟨C1,_,c2,_,c3,c4⟩:=hR.cells;rw[m2] at c2;cases c2;have hj:c1<P.cellsOf e3:=by
      rw[←fH hR.ok];grind
     obtain ⟨v2,d1,d2⟩:=c4 _ _ _ _ m3 m4 hj;rw[m6] at d1;cases d1;rw[m5] at d2;cases d2 with
     | gB a _=>unfold dX at a;grind
     | emp _=>grind
     | @row _ _ b1 cap _ hl _ _ _=>
      have aq:=(S.rows hd hb (m1.snoc m2 m3 m4 ht m5 hl m6)).ok;have jQ:e=e':=gC;obtain ⟨ie,z,bU,_,bc,_⟩:=ll aq;rw[←jQ] at bU bc;refine .same S (run b1 0 _ cap ie bU fZ.1 fZ.2) ?_;have:=aj.dF (P:=P) (I:=I) (i:=i.toNat) (c:=0) hd hb hq R3 ht hl amk;grind
   case sub e' id off len=>
    obtain ⟨l,h⟩:=run_get h;cases ae:hp id with
    | none=>rw[ae] at h;cases h
    | some blk=>
     rw[ae] at h;cases blk<;>simp only at h<;>first|(cases h;done)|skip
     rename_i dY es fz;obtain ⟨hc,h⟩:=aD h;simp only[aJ,aL] at hc;obtain ⟨gC,gi⟩:=hc;obtain ⟨fZ,h⟩:=aD h;simp only[aJ,jU] at fZ;obtain rfl:=aN h;cases hv with
     | jK hd=>grind
     | jh hd hb=>omega
     | @sub _ _ _ _ aK pQ b o cap hd hb mY bQ ho=>
      have fU:=hd;rw[ae] at hd;cases hd;have hr:=S.h.rel id _ ae;cases hr with
      | eF au=>grind
      | arr hL aq au hh hs hf fN hx=>
       have jQ:e=e':=gC;obtain ⟨ie,z,bU,_,bc,_⟩:=ll aq;rw[←jQ] at bU bc;refine .same S (run b o _ cap ie bU fZ.1 fZ.2) ?_;have:=aj.ptr (P:=P) (w:=w) (I:=I) (i:=off+i.toNat) (c:=0) fU (by simp) hb;simp only[ah.sz] at this;grind
  case array n e=>
   have run: ∀(b o:Nat) (ie:TypeInfo),P.info? e=some ie→0≤i→i<(n:Int)→(Instr.indexAt t (.pointer (some ⟨b,o,none⟩)) (.int k i)).run P w= .ok (.pointer (some ⟨b,o+i.toNat*ie.size,none⟩)) w:=by
    intro b o ie n7 h0 h1;simp[Instr.indexAt,asIntOf,run_underlying hu,h0,h1,sizeOf,typeInfo,n7,oC,Instr.sureAddr]
   cases x<;>simp only at h<;>first|(cases h;done)|skip
   case ptr id j c=>
    obtain ⟨fZ,h⟩:=aD h;simp only[aJ,jU] at fZ;obtain ⟨d,uS⟩:=Cp fZ.1;obtain ⟨ie,n7⟩:=xR uS;have bc:ie.size=P.cellsOf e:=by simp[Program.cellsOf,n7]
    obtain ⟨l,h⟩:=run_get h;have fo: ∀blk,hp id=some blk→blk≠ .dead→dj P ((Instr.indexAt t v (.int k i)).run P w) w I β hp B M w0 ⟨.ptr id j (c+i.toNat*P.cellsOf e),[]⟩:=fun blk ae hd=>by
     obtain ⟨b,hb,rfl⟩:=hv.jl ae hd;refine .same S (run b _ ie n7 fZ.2.1 fZ.2.2) ?_;rw[bc,xn];exact .ptr ae hd hb
    have new: ∀blk,hp id=some blk→blk≠ .dead→blk.sz P=P.cellsOf e→j=0→c=0→dj P ((Instr.indexAt t v (.int k i)).run P w) w I β hp B M w0 ⟨.ptr id i.toNat 0,[]⟩:=fun blk ae hd hz hj hc=>by
     obtain ⟨b,hb,rfl⟩:=hv.jl ae hd;refine .same S (run b _ ie n7 fZ.2.1 fZ.2.2) ?_;have:=aj.ptr (P:=P) (w:=w) (I:=I) (i:=i.toNat) (c:=0) ae hd hb;grind
    cases ae:hp id with
    | none=>rw[ae] at h;cases h
    | some blk=>
     rw[ae] at h;cases blk with
     | var T cs=>obtain rfl:=aN h;grind
     | arr e' es fz=>
      cases he:Nat.beq e e' with
      | true=>
       simp only[he,cond_true] at h;rw[aL] at he;subst he;obtain ⟨hc,h⟩:=aD h;simp only[aJ,aL] at hc;obtain rfl:=aN h;exact new _ ae (by simp) rfl hc.1 hc.2
      | false=>
       simp only[he,cond_false] at h;obtain rfl:=aN h;grind
     | nest e' es vs=>
      cases he:Nat.beq e e' with
      | true=>
       simp only[he,cond_true] at h;rw[aL] at he;subst he;obtain ⟨hc,h⟩:=aD h;simp only[aJ,aL] at hc;obtain rfl:=aN h;exact new _ ae (by simp) rfl hc.1 hc.2
      | false=>
       simp only[he,cond_false] at h;obtain rfl:=aN h;grind
     | _=>cases h
   case pref ts cs=>
    obtain ⟨fZ,h⟩:=aD h;simp only[aJ,jU] at fZ;obtain rfl:=aN h;obtain ⟨b,o,rfl,h1,h2,h3⟩:=hv.Fw;obtain ⟨d,uS⟩:=Cp fZ.1;obtain ⟨ie,n7⟩:=xR uS;have bc:ie.size=P.cellsOf e:=by simp[Program.cellsOf,n7]
    refine .same S (run b _ ie n7 fZ.2.1 fZ.2.2) ?_;rw[bc];exact aj.X8 h1 h2 h3
theorem aml (S:aA P w I β hp B M w0) {t:TypeId} {v ix:Value} {x y:V} {r:R} {rd:List Nat} (hv:aj P w I β hp v x) (hy:aj P w I β hp ix y)
  (h:(y8 P t x y).run C hp=some (r,rd)):dj P ((Instr.indexAt t v ix).run P w) w I β hp B M w0 r:=by
 cases x with
 | nl e es=>
  cases hv with
  | nl q _=>
   have e1:y8 P t (.nl e es) y=y8 P t (.list e es) y:=by unfold y8;split<;>rfl
   rw[e1] at h;exact aaW S (x:= .list e es) (.list q) hy (fun _ _ h=>by cases h) h
 | _=>exact aaW S hv hy (fun _ _ h=>by cases h) h
end
end Go.AM
namespace Go.AM
open Go.Maps
section
variable {P:Program} {w w':World} {I I':Nat→Nat→Prop} {β β':Nat→Option Nat} {hp hp':Nat→Option ah} {C:af} {B:Nat} {M:Nat→Prop} {w0:Start}
theorem amm (S:aA P w I β hp B M w0) {nb:Nat} {t:TypeId} {v:Value} {x:V} {lo hi:Option V} {lov hiv:Option Value} {r:R} {rd:List Nat} (hv:aj P w I β hp v x)
  (mG: ∀x,hi=some x→∃v,hiv=some v∧aj P w I β hp v x) (rm:lo=none→lov=none)
  (h:(KE P nb t x lo hi).run C hp=some (r,rd)):dj P ((Instr.sliceAt t v lov hiv none).run P w) w I β hp B M w0 r:=by
 unfold KE at h;split at h
 case h_2=>cases h
 rename_i e e' id k hh hu;obtain ⟨l,h1⟩:=run_get h;cases ae:hp id with
 | none=>rw[ae] at h1;cases h1
 | some blk=>
  rw[ae] at h1;cases blk<;>simp only at h1<;>first|(cases h1;done)|skip
  rename_i e2 es fz;cases fz with
  | true=>cases h1
  | false=>
  obtain ⟨hc,h2⟩:=aD h1;simp only[aJ,aL,jU] at hc;obtain ⟨rfl,rfl,aq,hh0,hhn⟩:=hc;obtain ⟨hn,rfl⟩:=nj h2;have n9:=rm rfl;subst n9;obtain ⟨Ab,rfl,hhv⟩:=mG _ rfl;obtain rfl:=hhv.fW;obtain ⟨i,z,bU,_,bc,_⟩:=ll aq;have bp:nb≠id:=fun e=>by grind
  obtain ⟨k1,k2⟩:=xP S ae;have ju:ao hp id (some ah.dead) nb=none:=by rw[cB _ _ bp];exact hn
  have zz: ∀cap,es.length≤cap→(Instr.sliceBounds true es.length cap none (some (.int k hh)) none).run P w= .ok (0,hh.toNat,cap) w:=by
   intro cap bQ;have hb:(vG es.length none (some (.int k hh)) fun l u=> .az (decide (l=0∧u=hh.toNat)) (.ret (⟨.undef,[]⟩:R))).run C hp=some (⟨.undef,[]⟩,[]):=by
    simp[vG,Rd.run,hh0,hhn]
   obtain ⟨l,u,b1,b2,b3,b4⟩:=uT (P:=P) (w:=w) (I:=I) (β:=β) (hp:=hp) (n:=es.length) (isS:=true) (cap:=cap) (lov:=none) (hiv:=some (.int k hh)) bQ (by simp) (fun x hx=>by grind) (fun _=>rfl) (by simp) hb;obtain ⟨b5,_⟩:=aD b4;grind
  cases hv with
  | dZ hd=>grind
  | dO hd=>grind
  | ee hd=>grind
  | fG hd=>grind
  | @dV _ _ _ a0 hd hb=>
   rw[ae] at hd;cases hd;have QJ:hh=0:=by grind
   subst QJ;have au:=zz 0 (aw _);obtain ⟨a1,a2⟩:=Ft k2 e ju;refine ⟨_,w,I,_,MP hu bU au,k1.trans a1,a2,.dV (bJ _ _ _) (bJ _ _ _)⟩
  | @whole _ _ aK pQ b cap hd hb Dq bQ hm=>
   have fU:=hd;rw[ae] at hd;cases hd;have hr:=S.h.rel id _ ae;cases hr with
   | eF au=>grind
   | @arr _ _ _ _ b' Ca hL _ au MQ yo hf fN yp=>
    rw[hb] at au;cases au;have oB:(es.take hh.toNat).length=hh.toNat:=by grind
    have cP:(Instr.sliceAt t (.slice (some ⟨b,0,none⟩) es.length cap) none (some (.int k hh)) none).run P w= .ok (.slice (some ⟨b,0,none⟩) hh.toNat cap) w:=by
     have au:=zz cap bQ;by_cases hc0:cap=0
     ·subst hc0;simp[Instr.sliceAt,Instr.slice,run_underlying hu,au,sizeOf,typeInfo,bU]
     ·simp[Instr.sliceAt,Instr.slice,run_underlying hu,au,sizeOf,typeInfo,bU,hc0,oC]
    have qQ: ∀ar blk',ao hp id (some ah.dead) ar=some blk'→¬bf P w (β ar) blk' b:=by
     intro ar blk' h1 h2;by_cases n0:ar=id
     ·subst n0;rw[bJ] at h1;cases h1;exact h2.alive rfl
     ·rw[cB _ _ n0] at h1;exact n0 (S.h.inj ar id blk' _ b h1 ae h2 (.root (by simp) hb))
    obtain ⟨a1,a2⟩:=Cl k2 (blk:= .arr e (es.take hh.toNat) false) (w':=w) ju qQ (fun _ _=>rfl) (fun _ _ _=>rfl) (aw _) ⟨rfl,rfl⟩ (S.h.xL id _ b ae (by simp) hb)
     (fun b' h=>(dN (h.flat (by simp))).symm) (fun hle=> .arr hL aq rfl MQ (by rw[oB];exact mM (eI _ (by omega)) yo) (fun h=>by cases h) (fun _=>fN rfl) fun i j y t' hy ht hj=>by
      grind)
    refine ⟨_,w,I,_,cP,k1.trans a1,a2,?_⟩;have:=aj.whole (P:=P) (w:=w) (I:=I) (β:=ao β nb (some b)) (hp:=ao (ao hp id (some .dead)) nb (some (.arr e (es.take hh.toNat) false))) (cap:=cap) (bJ _ _ _) (bJ _ _ _) Dq (by omega) hm;rw[oB] at this;exact this
theorem tD {t:TypeId} {x:V} (h:rQ P t x=true):
  (∃q n,P.underlying t=some (.int q)∧x= .int q n∧eQ q n=true)∨(∃b,P.underlying t=some .bool∧x= .bool b)∨(∃s,P.underlying t=some .string∧x= .str s∧s.length≤maxLen):=by
 unfold rQ at h;split at h
 all_goals simp_all
theorem size_data (s:ByteArray):s.data.toList.length=s.size:=by simp
theorem amn {q:IntKind} {n:Int} (h:eQ q n=true):(Lit.int q n).wf=true:=h
theorem Sp {t:TypeId} {x:V} {v:Value} (h:rQ P t x=true) (hv:kW v x): ∃l,mapKey P t v=some l∧∀d,P.keyLits (d+1) t [v]=some [l]:=by
 rcases tD h with ⟨q,n,hu,rfl,hn⟩|⟨b,hu,rfl⟩|⟨s,hu,rfl,hs⟩
 ·obtain rfl:v= .int q n:=hv;have hw:=amn hn;exact ⟨.int q n,by simp[mapKey,hu,hw],fun d=>by simp[Program.keyLits,hu,hw]⟩
 ·obtain rfl:v= .bool b:=hv;exact ⟨.bool b,by simp[mapKey,hu],fun d=>by simp[Program.keyLits,hu]⟩
 ·obtain ⟨s',rfl,wB⟩:=hv;have:s'.size≤maxLen:=by rw[←size_data,wB];exact hs
  exact ⟨.string s'.data.toList,by simp[mapKey,hu,this],fun d=>by simp[Program.keyLits,hu,this]⟩
theorem Sq {t:TypeId}: ∀{xs:List V} {j:Nat} {x:V},vD P t xs=true→xs[j]? =some x→rQ P t x=true
 | [],j,x,_,h=>by simp at h
 | y::ys,0,x,h,hx=>by
  simp only[vD,aJ] at h;grind
 | y::ys,j+1,x,h,hx=>by
  simp only[vD,aJ] at h;exact Sq (j:=j) h.2 (by grind)
theorem mapM_some {α β:Type} {f:α→Option β}: ∀{l:List α},(∀a∈l,∃b,f a=some b)→∃bs,l.mapM f=some bs
 | [],_=>⟨[],rfl⟩
 | a::l,h=>by
  obtain ⟨b,hb⟩:=h a (pG ..);obtain ⟨bs,ky⟩:=mapM_some (l:=l) fun x hx=>h x (jA _ hx);simp_all
structure yq (P:Program) (t:TypeId) (fs:Array Field):Prop where
 hu:P.underlying t=some (.struct fs)
 size:P.cellsOf t=fs.size
 at_ : ∀ (i : Nat) f, fs[i]? = some f → f.offset = i ∧ P.cellsOf f.type = 1 ∧ (f.name != "_") = true ∧ P.plainKey f.type = true
 free:(!(P.cutTypes.any (·.2==t))&& !P.stoodInHeld t)=true
 runs:P.runs 0 fs.toList=some fs.size
theorem aaZ: ∀{k:Nat} {l:List Field},Kx P k l=true→(∀(i:Nat) f,l[i]? =some f→f.offset=k+i∧P.cellsOf f.type=1)∧P.runs k l=some (k+l.length)
 | k,[],_=>⟨fun i f h=>by simp at h,by simp[Program.runs]⟩
 | k,f::l,h=>by
  simp only[Kx,aJ,aL] at h;obtain ⟨a,b⟩:=aaZ (l:=l) h.2;refine ⟨fun i g hg=> ?_,?_⟩
  ·grind
  ·simp only[Program.runs];grind
theorem amo {t:TypeId} {fs:Array Field} (hu:P.underlying t=some (.struct fs)) (h:P5 P t fs=true):yq P t fs:=by
 unfold P5 at h;rw[aJ,aJ,aJ] at h;obtain ⟨⟨h1,h2⟩,h3,h4⟩:=h;rw[aL] at h1;obtain ⟨a,b⟩:=aaZ h2;rw[dB,Array.length_toList] at b;refine ⟨hu,h1,fun i f hf=> ?_,h4,b⟩;obtain ⟨a1,a2⟩:=a i f (by grind);grind
theorem amp {t:TypeId} (hp:P.plainKey t=true) (m:Nat):P.keyTypeAt (m+1) t=true:=by
 unfold Program.plainKey at hp;unfold Program.keyTypeAt;grind
theorem amq {t:TypeId} (hp:P.plainKey t=true) (m:Nat):P.tiled (m+1) t=true:=by
 unfold Program.plainKey at hp;unfold Program.tiled;grind
theorem yq.at {t:TypeId} {fs:Array Field} (A:yq P t fs) (m:Nat):P.keyTypeAt (m+2) t=true:=by
 unfold Program.keyTypeAt;rw[A.hu];have hf:=A.free;rw[aJ] at hf;simp only;rw[aJ,aJ];refine ⟨⟨Array.all_eq_true.2 fun i hi=> ?_,hf.1⟩,hf.2⟩;obtain ⟨_,_,h3,h4⟩:=A.at_ i fs[i] (lC hi);rw[aJ];exact ⟨h3,amp h4 m⟩
theorem yq.tiled {t:TypeId} {fs:Array Field} (A:yq P t fs):P.tiled 2 t=true:=by
 unfold Program.tiled;rw[A.hu];simp only;rw[aJ];refine ⟨by rw[A.runs,A.size];simp,Array.all_eq_true.2 fun i hi=> ?_⟩;exact amq (A.at_ i fs[i] (lC hi)).2.2.2 0
theorem yq.law {t:TypeId} {fs:Array Field} (A:yq P t fs):WideMaps.KeyLaw P t:=deep_law (m:=2) (by omega) (A.at 0) A.tiled (by rw[A.hu])
theorem MR: ∀{ts:List TypeId} {xs:List V},vE P ts xs=true→xs.length=ts.length∧∀(j:Nat) t x,ts[j]? =some t→xs[j]? =some x→rQ P t x=true
 | [],[],_=>⟨rfl,fun j t x h=>by simp at h⟩
 | [],_::_,h=>by cases h
 | _::_,[],h=>by cases h
 | t::ts,x::xs,h=>by
  simp only[vE,aJ] at h;obtain ⟨a,b⟩:=MR h.2;grind
inductive MS (P:Program) (t:TypeId) (x:V):Prop
 | one:rQ P t x=true→x.cells=[x]→MS P t x
 | arr {n:Nat} {e:TypeId} {xs:List V}:x= .agg xs→WideMaps.ArrKey P t e n→xs.length=n→0<P.types.size→vD P e xs=true→MS P t x
 | str {fs:Array Field} {xs:List V}:x= .agg xs→yq P t fs→0<P.types.size→vE P (fs.toList.map (·.type)) xs=true→MS P t x
theorem Ac {t:TypeId} {x:V} (h:rR P t x=true):MS P t x:=by
 unfold rR at h;split at h
 ·rename_i n e xs hu;simp only[aJ,aL] at h;rw[nt] at h;exact .arr rfl ⟨hu,h.2.2.2.1,h.2.1,h.2.2.1⟩ h.1 h.2.2.2.2.1 h.2.2.2.2.2
 ·rename_i fs xs hu;rw[aJ,aJ,nt] at h;exact .str rfl (amo hu h.1) h.2.1 h.2.2
 ·refine .one h ?_;rcases tD h with ⟨q,n,hu,rfl,hn⟩|⟨b,hu,rfl⟩|⟨s,hu,rfl,hs⟩<;>rfl
theorem vP.one {x:V} {v:Value} (h:vP v x) (hx:x.cells=[x]):kW v x:=by
 cases x<;>first|exact h|skip
 simp only[V.cells] at hx;rename_i cs;have:=congrArg List.length hx;cases cs with
 | nil=>simp at hx
 | cons c cs=>
  simp only[y6] at hx;have:=congrArg SizeOf.sizeOf hx.1;grind
theorem amr {ts:List TypeId} {xs:List V} {cs:Array Value} (hf:vE P ts xs=true) (hs:cs.size=xs.length) (hc: ∀(j:Nat) (u:Value) (y:V),cs[j]? =some u→xs[j]? =some y→kW u y) {i:Nat} {t:TypeId} (ht:ts[i]? =some t):
  ∃l,∀d,P.keyLits (d+1) t ((cs.toList.drop i).take 1)=some [l]:=by
 obtain ⟨a,b⟩:=MR hf;have hi:=(cz.1 ht).1;have jO:i<cs.size:=by omega
 have wz:i<xs.length:=by omega
 obtain ⟨l,_,h2⟩:=Sp (b i t xs[i] ht (bY wz)) (hc i cs[i] xs[i] (lC jO) (bY wz));refine ⟨l,fun d=> ?_⟩;have e1:(cs.toList.drop i).take 1=[cs[i]]:=by
  rw[List.drop_eq_getElem_cons (by omega)];simp
 grind
theorem MT {t:TypeId} {x:V} {v:Value} (h:rR P t x=true) (hv:vP v x): ∃l,Go.keyOf P t v=some l:=by
 cases Ac h with
 | one h1 hx=>
  obtain ⟨l,hl,_⟩:=Sp h1 (hv.one hx);refine ⟨l,?_⟩;rcases tD h1 with ⟨q,n,hu,_⟩|⟨b,hu,_⟩|⟨s,hu,_⟩<;>simp only[Go.keyOf,hu,hl]
 | @arr n e xs hx A hl hp0 hf=>
  subst hx;obtain ⟨cs,rfl,hs,hc⟩:=hv;obtain ⟨m,hm⟩: ∃m,P.types.size=m+1:=⟨P.types.size-1,by omega⟩
  have Sr:=A.keyType ⟨m,hm⟩;have hlen:cs.toList.length=P.cellsOf t:=by rw[A.size];grind
  have Hj:(Value.agg cs).formed P t=true:=by simp[Value.formed,A.hu,A.size,hs,hl]
  have hex: ∀i∈List.range n,∃y,P.keyLits (m+1) e (((Value.agg cs).cells.toList.drop (i*P.cellsOf e)).take (P.cellsOf e))=some y:=by
   intro i hi;have hi:=fK.1 hi;rw[A.one];have jO:i<cs.size:=by omega
   have wz:i<xs.length:=by omega
   obtain ⟨l,_,h2⟩:=Sp (Sq hf (bY wz)) (hc i cs[i] xs[i] (lC jO) (bY wz));have e1:((Value.agg cs).cells.toList.drop (i*1)).take 1=[cs[i]]:=by
    show (cs.toList.drop (i*1)).take 1=_;rw[iC,List.drop_eq_getElem_cons (by omega)];simp
   simp_all
  obtain ⟨bs,ky⟩:=mapM_some hex;refine ⟨.string (keyBytes bs.flatten),?_⟩;have aAj:(Value.agg cs).cells.toList.length=P.cellsOf t:=hlen;unfold Go.keyOf;rw[A.hu];simp only[Sr,Hj,Bool.and_self,pD];unfold Program.keyLits;rw[A.hu,hm];grind
 | @str fs xs hx A hp0 hf=>
  subst hx;obtain ⟨cs,rfl,hs,hc⟩:=hv;obtain ⟨m,hm⟩: ∃m,P.types.size=m+1:=⟨P.types.size-1,by omega⟩
  have Sr:P.keyType t=true:=by
   unfold Program.keyType;rw[hm];exact A.at m
  have rn:=(MR hf).1;rw[dE,Array.length_toList] at rn;have Hj:(Value.agg cs).formed P t=true:=by simp[Value.formed,A.hu,A.size,hs];exact rn
  have hlen:(Value.agg cs).cells.toList.length=P.cellsOf t:=by
   show cs.toList.length=_;rw[A.size];grind
  have qJ : fs.all (·.name != "_") = true := Array.all_eq_true.2 fun i hi => (A.at_ i fs[i] (lC hi)).2.2.1;have hex: ∀f∈fs.toList,∃y,P.keyLits (m+1) f.type (((Value.agg cs).cells.toList.drop f.offset).take (P.cellsOf f.type))=some y:=by
   intro f Hj;obtain ⟨i,hi⟩:=uc Hj;obtain ⟨a1,a2,_,_⟩:=A.at_ i f (by grind);rw[a1,a2];obtain ⟨l,hl⟩:=amr hf hs hc (i:=i) (t:=f.type) (by grind);exact ⟨_,hl m⟩
  obtain ⟨bs,ky⟩:=mapM_some hex;refine ⟨.string (keyBytes bs.flatten),?_⟩;unfold Go.keyOf;rw[A.hu];simp only[Sr,Hj,Bool.and_self,pD];unfold Program.keyLits;rw[A.hu,hm];grind
theorem Ss {t:TypeId} {x:V} (h:rR P t x=true):Keyed P t:=by
 cases Ac h with
 | one h1 hx=>
  rcases tD h1 with ⟨q,n,hu,_⟩|⟨b,hu,_⟩|⟨s,hu,_⟩
  ·exact int_keyed hu
  ·exact bool_keyed hu
  ·exact string_keyed hu
 | arr hx A hl _ hf=>exact Keyed.of_law A.law
 | str hx A _ hf=>exact Keyed.of_law A.law
theorem Su {t:TypeId} {x y:V} {v u:Value} (h1:rQ P t x=true) (h2:rQ P t y=true) (hv:kW v x) (hu:kW u y):vC x y=true↔v=u:=by
 rcases tD h1 with ⟨q,n,jv,rfl,_⟩|⟨b,jv,rfl⟩|⟨s,jv,rfl,_⟩<;>
 rcases tD h2 with ⟨q',n',rp,rfl,_⟩|⟨b',rp,rfl⟩|⟨s',rp,rfl,_⟩<;>
  (rw[jv] at rp;cases rp)
 ·obtain rfl:v= .int q n:=hv;obtain rfl:u= .int q n':=hu;simp[vC]
 ·obtain rfl:v= .bool b:=hv;obtain rfl:u= .bool b':=hu;simp[vC]
 ·obtain ⟨s1,rfl,e1⟩:=hv;obtain ⟨s2,rfl,e2⟩:=hu;simp only[vC,beq_iff_eq,Value.string.injEq,←e1,←e2];constructor
  ·intro h;have:=Array.toList_inj.1 h;cases s1;simp_all
  grind
theorem aa0 {t:TypeId}: ∀{xs ys:List V} {vs us:List Value},vD P t xs=true→vD P t ys=true→xs.length=ys.length→vs.length=xs.length→us.length=ys.length→
  (∀(j:Nat) v x,vs[j]? =some v→xs[j]? =some x→kW v x)→(∀(j:Nat) v x,us[j]? =some v→ys[j]? =some x→kW v x)→(pO xs ys=true↔vs=us)
 | [],[],vs,us,_,_,_,h1,h2,_,_=>by
  have e1:=pC (l:=vs) (by omega);have e2:=pC (l:=us) (by omega);simp[pO,e1,e2]
 | [],_::_,_,_,_,_,h,_,_,_,_=>by simp at h
 | _::_,[],_,_,_,_,h,_,_,_,_=>by simp at h
 | x::xs,y::ys,[],us,_,_,_,h,_,_,_=>by simp at h
 | x::xs,y::ys,v::vs,[],_,_,_,_,h,_,_=>by simp at h
 | x::xs,y::ys,v::vs,u::us,f1,f2,h,h1,h2,r1,r2=>by
  simp only[vD,aJ] at f1 f2;have a:=Su f1.1 f2.1 (r1 0 v x rfl rfl) (r2 0 u y rfl rfl);have b:=aa0 (vs:=vs) (us:=us) f1.2 f2.2 (by grind) (by grind) (by grind) (fun j v x hj hx=>r1 (j+1) v x (by grind) (by grind)) (fun j v x hj hx=>r2 (j+1) v x (by grind) (by grind));simp only[pO,aJ,a,b,y6]
theorem aa1: ∀{ts:List TypeId} {xs ys:List V} {vs us:List Value},vE P ts xs=true→vE P ts ys=true→vs.length=xs.length→us.length=ys.length→
  (∀(j:Nat) v x,vs[j]? =some v→xs[j]? =some x→kW v x)→(∀(j:Nat) v x,us[j]? =some v→ys[j]? =some x→kW v x)→(pO xs ys=true↔vs=us)
 | [],[],[],vs,us,_,_,h1,h2,_,_=>by
  have e1:=pC (l:=vs) (by omega);have e2:=pC (l:=us) (by omega);simp[pO,e1,e2]
 | [],_::_,_,_,_,h,_,_,_,_,_=>by cases h
 | [],[],_::_,_,_,_,h,_,_,_,_=>by cases h
 | _::_,[],_,_,_,h,_,_,_,_,_=>by cases h
 | _::_,_::_,[],_,_,_,h,_,_,_,_=>by cases h
 | t::ts,x::xs,y::ys,[],us,_,_,h,_,_,_=>by simp at h
 | t::ts,x::xs,y::ys,v::vs,[],_,_,_,h,_,_=>by simp at h
 | t::ts,x::xs,y::ys,v::vs,u::us,f1,f2,h1,h2,r1,r2=>by
  simp only[vE,aJ] at f1 f2;have a:=Su f1.1 f2.1 (r1 0 v x rfl rfl) (r2 0 u y rfl rfl);have b:=aa1 (vs:=vs) (us:=us) f1.2 f2.2 (by grind) (by grind) (fun j v x hj hx=>r1 (j+1) v x (by grind) (by grind)) (fun j v x hj hx=>r2 (j+1) v x (by grind) (by grind));simp only[pO,aJ,a,b,y6]
theorem Sv {t:TypeId} {x y:V} {v u:Value} (h1:rR P t x=true) (h2:rR P t y=true) (hv:vP v x) (hu:vP u y):iP x y=true↔v=u:=by
 unfold iP;cases Ac h1 with
 | one f1 c1=>
  cases Ac h2 with
  | one f2 c2=>
   rw[c1,c2];simp only[pO,Bool.and_true];exact Su f1 f2 (hv.one c1) (hu.one c2)
  | arr hy A hl _ hf=>
   rcases tD f1 with ⟨q,n,jv,_⟩|⟨b,jv,_⟩|⟨s,jv,_⟩<;>(rw[A.hu] at jv;cases jv)
  | str hy A _ hf=>
   rcases tD f1 with ⟨q,n,jv,_⟩|⟨b,jv,_⟩|⟨s,jv,_⟩<;>(rw[A.hu] at jv;cases jv)
 | arr hx A hl _ hf=>
  cases Ac h2 with
  | one f2 c2=>
   rcases tD f2 with ⟨q,n,jv,_⟩|⟨b,jv,_⟩|⟨s,jv,_⟩<;>(rw[A.hu] at jv;cases jv)
  | arr hy A2 BT _ wC=>
   have jQ:=A.hu.symm.trans A2.hu;cases jQ;subst hx;subst hy;obtain ⟨cs,rfl,s1,r1⟩:=hv;obtain ⟨ds,rfl,s2,r2⟩:=hu;have:=aa0 (vs:=cs.toList) (us:=ds.toList) hf wC (by omega) (by omega) (by omega) (fun j v x hj hx=>r1 j v x (by grind) hx) (fun j v x hj hx=>r2 j v x (by grind) hx);simp only[V.cells,this,Value.agg.injEq];simp_all
  | str hy A2 _ wC=>
   have jQ:=A.hu.symm.trans A2.hu;cases jQ
 | str hx A _ hf=>
  cases Ac h2 with
  | one f2 c2=>
   rcases tD f2 with ⟨q,n,jv,_⟩|⟨b,jv,_⟩|⟨s,jv,_⟩<;>(rw[A.hu] at jv;cases jv)
  | arr hy A2 BT _ wC=>
   have jQ:=A.hu.symm.trans A2.hu;cases jQ
  | str hy A2 _ wC=>
   have jQ:=A.hu.symm.trans A2.hu;cases jQ;subst hx;subst hy;obtain ⟨cs,rfl,s1,r1⟩:=hv;obtain ⟨ds,rfl,s2,r2⟩:=hu;have:=aa1 (vs:=cs.toList) (us:=ds.toList) hf wC (by omega) (by omega) (fun j v x hj hx=>r1 j v x (by grind) hx) (fun j v x hj hx=>r2 j v x (by grind) hx);simp only[V.cells,this,Value.agg.injEq];simp_all
theorem aa2 {k:V}: ∀{es:List V},(∀x∈es,iP k (x.comp 0)=false)→gg k es=false∧(∀z,jX k es z=z)∧∀v,iQ k v es=es++[.bd [k,v]]
 | [],_=>⟨rfl,fun _=>rfl,fun _=>rfl⟩
 | e::es,h=>by
  have h0:=h e (pG ..);obtain ⟨a,b,c⟩:=aa2 (k:=k) (es:=es) fun x hx=>h x (jA _ hx);exact ⟨by simp[gg,h0,a],fun z=>by simp[jX,h0,b],fun v=>by simp[iQ,h0,c]⟩
theorem aa3 {k:V}: ∀{es:List V} {j:Nat} {k' y:V},es[j]? =some (.bd [k',y])→iP k k'=true→(∀i x,i<j→es[i]? =some x→iP k (x.comp 0)=false)→
  gg k es=true∧(∀z,jX k es z=y)∧∀v,iQ k v es=es.set j (.bd [k',v])
 | [],j,k',y,h,_,_=>by simp at h
 | e::es,0,k',y,h,he,_=>by
  simp at h;subst h;exact ⟨by simp[gg,V.comp,V.nth,he],fun z=>by simp[jX,V.comp,V.nth,he],fun v=>by simp[iQ,V.comp,V.nth,he]⟩
 | e::es,j+1,k',y,h,he,aP=>by
  have h0:=aP 0 e (by omega) rfl;obtain ⟨a,b,c⟩:=aa3 (k:=k) (es:=es) (j:=j) (by simpa using h) he fun i x hi hx=>aP (i+1) x (by omega) (by grind);exact ⟨by simp[gg,h0,a],fun z=>by simp[jX,h0,b],fun v=>by simp[iQ,h0,c]⟩
theorem aa4 {kt vt:TypeId} {E:Array MapEntry} {es:List V} {k:V} {kv:Value} (hs:E.size=es.length) (hx: ∀(j:Nat) (e:MapEntry) (x:V),E[j]? =some e→es[j]? =some x→KP P kt vt e x)
  (hn:E.toList.Pairwise (fun a b=>a.key≠b.key)) (hk:rR P kt k=true) (MU:vP kv k) (w:World):
  ((Instr.findKey kt kv E.toList).run P w= .ok none w∧(∀e∈E.toList,e.key≠kv)∧gg k es=false∧(∀z,jX k es z=z)∧∀v,iQ k v es=es++[.bd [k,v]])∨
  ∃j e k' y,(Instr.findKey kt kv E.toList).run P w= .ok (some (j,e.val)) w∧E[j]? =some e∧e.key=kv∧es[j]? =some (.bd [k',y])∧rR P kt k'=true∧vP kv k'∧fT P vt y=true∧kW e.val y∧
   gg k es=true∧(∀z,jX k es z=y)∧∀v,iQ k v es=es.set j (.bd [k',v]):=by
 have K:=Ss hk;obtain ⟨l,hl⟩:=MT hk MU;have xU: ∀(j:Nat) x,es[j]? =some x→∃e,E[j]? =some e∧KP P kt vt e x:=by
  intro j x hj;have aP:j<E.size:=by grind
  exact ⟨E[j],lC aP,hx j _ x (lC aP) hj⟩
 have keys: ∀e∈E.toList,∃l,Go.keyOf P kt e.key=some l:=by
  intro e he;obtain ⟨j,hj⟩:=uc he;have fY:E[j]? =some e:=by grind
  have aP:j<es.length:=by grind
  obtain ⟨k',y,_,h1,h2,_⟩:=hx j e es[j] fY (bY aP);exact MT h1 h2
 rcases K.find w hl E.toList keys with ⟨h1,h2⟩|⟨j,e,h1,h2,h3⟩
 ·left;refine ⟨h1,h2,aa2 fun x MM=> ?_⟩;obtain ⟨j,hj⟩:=uc MM;obtain ⟨e,he,k',y,rfl,f1,f2,_⟩:=xU j x hj;cases hq:iP k (V.comp (.bd [k',y]) 0) with
  | false=>rfl
  | true=>
   have:=(Sv hk f1 MU f2).1 hq;grind
 ·right;have hE:E[j]? =some e:=by grind
  have aP:j<es.length:=by grind
  obtain ⟨k',y,hy,f1,f2,f3,f4⟩:=hx j e es[j] hE (bY aP);have hj:=bY aP;rw[hy] at hj;rw[h3] at f2;refine ⟨j,e,k',y,h1,hE,h3,hj,f1,f2,f3,f4,aa3 hj ((Sv hk f1 MU f2).2 rfl) fun i x hi nG=> ?_⟩;obtain ⟨e',Dl,k2,y2,rfl,g1,g2,_⟩:=xU i x nG;cases hq:iP k (V.comp (.bd [k2,y2]) 0) with
  | false=>rfl
  | true=>
   have:=(Sv hk g1 MU g2).1 hq;have i1:i<E.toList.length:=by grind
   have i2:j<E.toList.length:=by simp;omega
   have:=List.pairwise_iff_getElem.1 hn i j i1 i2 hi;grind
theorem aj.Sw {v:Value} {x:V} (h:aj P w I β hp v x) {t:TypeId} (hx:rQ P t x=true):kW v x:=by
 rcases tD hx with ⟨q,n,_,rfl,_⟩|⟨b,_,rfl⟩|⟨s,_,rfl,_⟩
 ·exact h.fW
 ·exact h.nE
 ·exact h.oZ
theorem aj.aa5 {v:Value} {x:V} (h:aj P w I β hp v x) {t:TypeId} (hx:rR P t x=true):vP v x:=by
 cases Ac hx with
 | one f c=>
  have:=h.Sw f;cases x<;>first|exact this|cases this
 | arr hx A hl _ hf=>
  subst hx;obtain ⟨cs,rfl,h1,h2⟩:=h.nF;exact ⟨cs,rfl,h1,fun j u y hu hy=>(h2 j u y hu hy).Sw (Sq hf hy)⟩
 | str hx A _ hf=>
  subst hx;obtain ⟨cs,rfl,h1,h2⟩:=h.nF;obtain ⟨a,b⟩:=MR hf;refine ⟨cs,rfl,h1,fun j u y hu hy=> ?_⟩;have hj:=(cz.1 hy).1;exact (h2 j u y hu hy).Sw (b j _ y (bY (by omega)) hy)
theorem aa6 {vt:TypeId} {y:V} (h:mapVal P vt=true) (ht:fT P vt y=true):(∃q n,P.underlying vt=some (.int q)∧y= .int q n)∨∃b,P.underlying vt=some .bool∧y= .bool b:=by
 unfold mapVal at h;unfold fT at ht;grind
theorem kW.Sy {vt:TypeId} {v:Value} {y:V} (h:mapVal P vt=true) (ht:fT P vt y=true) (hv:kW v y):aj P w I β hp v y:=by
 rcases aa6 h ht with ⟨q,n,_,rfl⟩|⟨b,_,rfl⟩
 ·obtain rfl:v= .int q n:=hv;exact .int
 ·obtain rfl:v= .bool b:=hv;exact .bool
theorem aj.ams {vt:TypeId} {v:Value} {y:V} (h:mapVal P vt=true) (ht:fT P vt y=true) (hv:aj P w I β hp v y):kW v y:=by
 rcases aa6 h ht with ⟨q,n,_,rfl⟩|⟨b,_,rfl⟩
 ·exact hv.fW
 ·exact hv.nE
theorem amt {vt:TypeId} {z:V} (h:Ky P vt=some z) (w:World): ∃v,(zeroValue vt).run P w= .ok v w∧kW v z:=by
 unfold Ky at h;cases hi:P.info? vt with
 | none=>grind
 | some i=>
  rw[hi] at h;simp only[Option.bind_some] at h;cases hz:i.zero with
  | none=>grind
  | some v=>
   rw[hz] at h;refine ⟨v,by simp[zeroValue,typeInfo,hi,hz],?_⟩;cases v<;>simp only at h<;>first|(cases h;done)|skip
   ·cases h;rfl
   ·cases h;rfl
theorem Sz {t kt vt:TypeId} (h:pP P t=some (kt,vt)):P.underlying t=some (.map kt vt):=by
 unfold pP at h;grind
theorem SA (S:aA P w I β hp B M w0) {ok:Bool} {v:Value} {x:V} {b:Bool} {r:R} {rd:List Nat} {res:Result Value} (hv:aj P w I β hp v x)
  (hr:res= .ok (if ok then .tuple #[v,.bool b] else v) w) (h:(Kz ok x b).run C hp=some (r,rd)):dj P res w I β hp B M w0 r:=by
 unfold Kz at h;obtain rfl:=aN h;cases ok with
 | false=>exact .same S hr hv
 | true=>
  refine .same S hr (.bd rfl fun j u y hu hy=> ?_)
  match j,hu,hy with
  | 0,hu,hy=>grind
  | 1,hu,hy=>simp at hu hy;subst hu;subst hy;exact .bool
  | j+2,hu,hy=>simp at hy
theorem amu (S:aA P w I β hp B M w0) {t kt vt:TypeId} (ht:pP P t=some (kt,vt)) {m k:Value} {mx kx:V} {ok:Bool} {r:R} {rd:List Nat} (hm:aj P w I β hp m mx) (hk:aj P w I β hp k kx)
  (h:(P6 P t mx kx ok).run C hp=some (r,rd)):dj P ((Instr.lookup t m k ok).run P w) w I β hp B M w0 r:=by
 unfold P6 at h;rw[ht] at h;simp only at h;cases hz:Ky P vt with
 | none=>rw[hz] at h;cases h
 | some z=>
  rw[hz] at h;obtain ⟨hc,h'⟩:=aD h;clear h;have h:=h';clear h';simp only[aJ] at hc;obtain ⟨uU,Hk,MV⟩:=hc;have hu:=Sz ht;have Dr:=hk.aa5 uU;have K:=Ss uU;obtain ⟨l,hl⟩:=MT uU Dr;obtain ⟨zv,hzr,hzk⟩:=amt hz w;cases mx<;>simp only at h<;>first|(cases h;done)|skip
  ·rename_i t' id;obtain ⟨qm,h'⟩:=aD h;clear h;have h:=h';clear h';rw[aL] at qm;subst qm;obtain ⟨l2,h'⟩:=run_get h;clear h;have h:=h';clear h';cases ae:hp id with
   | none=>rw[ae] at h;cases h
   | some blk=>
    rw[ae] at h;cases blk<;>simp only at h<;>first|(cases h;done)|skip
    rename_i t2 es;obtain ⟨qm,h'⟩:=aD h;clear h;have h:=h';clear h';rw[aL] at qm;subst qm;cases hm with
    | lJ hd=>grind
    | @cK _ _ b aK hd hb=>
     rw[ae] at hd;cases hd;have hr:=S.h.rel id _ ae;cases hr with
     | @map _ kt' vt' _ b' clock E lX au hh hs hI hx hn=>
      rw[hb] at au;cases au;rw[hu] at lX;cases lX;rcases aa4 hs hx hn uU Dr w with ⟨h1,_,h3,h4,_⟩|⟨j,e,k',y,h1,_,_,_,_,_,h6,h7,h3,h4,_⟩
      ·rw[h3,h4,Fx MV] at h;refine SA S (kW.Sy Hk MV hzk) ?_ h;unfold Instr.lookup;simp only[Sem.run_bind,run_underlying hu,Result.andThen_ok,Go.MapKept.run_getObj_map hh,Sem.run_pure,K.check w E.isEmpty hl,h1,hzr]
      ·rw[h3,h4,Fx h6] at h;refine SA S (kW.Sy Hk h6 h7) ?_ h;unfold Instr.lookup;simp only[Sem.run_bind,run_underlying hu,Result.andThen_ok,Go.MapKept.run_getObj_map hh,Sem.run_pure,K.check w E.isEmpty hl,h1]
  ·rename_i t';obtain ⟨qm,h⟩:=aD h;cases hm;rw[Fx MV] at h;refine SA S (kW.Sy Hk MV hzk) ?_ h;have hf:(Instr.findKey kt k []).run P w= .ok none w:=by
    rcases K.find w hl [] (by simp) with ⟨h1,_⟩|⟨j,e,_,h2,_⟩
    all_goals grind
   unfold Instr.lookup;simp[run_underlying hu,K.check w true hl,hf,hzr]
theorem amv (S:aA P w I β hp B M w0) {t:TypeId} {nb:Nat} {r:R} {rd:List Nat} (h:(Rd.az (pP P t).isSome (jF nb (.map t []) (.cK t nb) [])).run C hp=some (r,rd)):
  dj P ((Instr.makeMap t none).run P w) w I β hp B M w0 r:=by
 obtain ⟨ht,h⟩:=aD h;obtain ⟨hn,rfl⟩:=nj h;obtain ⟨⟨kt,vt⟩,ht⟩:=BM.1 ht;have hu:=Sz ht;have di: ∀j,¬I w.heap.size j:=fun j h=>nu _ (S.h.jY _ j h);have dG:(w.alloc (.map #[] 0)).heap[w.heap.size]? =some (.map #[] 0):=heap_alloc_new w _;obtain ⟨a1,a2⟩:=Cl S (w':=w.alloc (.map #[] 0)) (blk:= .map t []) (b:=w.heap.size) hn (fun ar blk' h ho=>nu _ (S.h.lt h ho)) (fun j h=>absurd h (di j))
  (fun b' _ aP=>heap_alloc_old w _ b' aP) (by simp) ⟨rfl,rfl⟩ (.inr S.size) (fun b' h=>(dN (h.flat (by simp))).symm)
  (fun _=> .map hu rfl dG rfl di (fun j e x he _=>by simp at he) (by simp))
 exact ⟨_,_,_,_,Go.RowKit.run_makeMap t w,a1,a2,.cK (bJ _ _ _) (bJ _ _ _)⟩
theorem aa7 (S:aA P w I β hp B M w0) {t kt vt:TypeId} (ht:pP P t=some (kt,vt)) {m k v:Value} {mx kx vx:V} {r:R} {rd:List Nat} (hm:aj P w I β hp m mx) (hk:aj P w I β hp k kx) (hv:aj P w I β hp v vx)
  (h:(KA P t mx kx vx).run C hp=some (r,rd)):rZ P ((Instr.mapUpdate t m k v).run P w) w I β hp B M w0 r:=by
 unfold KA at h;rw[ht] at h;obtain ⟨hc,h'⟩:=aD h;clear h;have h:=h';clear h';simp only[aJ] at hc;obtain ⟨uU,Hk,Ad⟩:=hc;have hu:=Sz ht;have Dr:=hk.aa5 uU;have qR:=aj.ams Hk Ad hv;have K:=Ss uU;obtain ⟨l,hl⟩:=MT uU Dr;cases mx<;>simp only at h<;>first|(cases h;done)|skip
 rename_i t' id;obtain ⟨qm,h'⟩:=aD h;clear h;have h:=h';clear h';rw[aL] at qm;subst qm;obtain ⟨l2,h'⟩:=run_get h;clear h;have h:=h';clear h';cases ae:hp id with
 | none=>rw[ae] at h;cases h
 | some blk=>
  rw[ae] at h;cases blk<;>simp only at h<;>first|(cases h;done)|skip
  rename_i t2 es;obtain ⟨qm,h'⟩:=aD h;clear h;have h:=h';clear h';rw[aL] at qm;subst qm;obtain rfl:=aN h;cases hm with
  | lJ hd=>grind
  | @cK _ _ b aK hd hb=>
   rw[ae] at hd;cases hd;have hr:=S.h.rel id _ ae;cases hr with
   | @map _ kt' vt' _ b' clock E lX au hh hs hI hx hn=>
    rw[hb] at au;cases au;rw[hu] at lX;cases lX;have aP:b<w.heap.size:=(xu.1 hh).1;have fin: ∀(E':Array MapEntry) (Hl:Nat),(Instr.mapUpdate t (.map (some b)) k v).run P w= .ok () {w with heap:=w.heap.setIfInBounds b (.map E' Hl)}→E'.size=(iQ kx vx es).length→
      (∀(j:Nat) (e:MapEntry) (x:V),E'[j]? =some e→(iQ kx vx es)[j]? =some x→KP P kt vt e x)→E'.toList.Pairwise (fun a b=>a.key≠b.key)→
      rZ P ((Instr.mapUpdate t (.map (some b)) k v).run P w) w I β hp B M w0 ⟨.undef,[(id,.map t (iQ kx vx es))]⟩:=by
     intro E' Hl cP wB dd SB;have dG:({w with heap:=w.heap.setIfInBounds b (.map E' Hl)}:World).heap[b]? =some (.map E' Hl):=by simp[aP]
     obtain ⟨a1,a2⟩:=Cm S (w':={w with heap:=w.heap.setIfInBounds b (.map E' Hl)}) (blk':= .map t (iQ kx vx es)) ae (by simp) rfl hb hI (by simp)
      (fun b' au=>by grind) (by simp only[bsize,dG,hh]) (by simp) ⟨rfl,rfl⟩ (fun _=> .map hu rfl dG wB hI dd SB)
     exact ⟨_,I,β,cP,a1,a2,rfl⟩
    rcases aa4 hs hx hn uU Dr w with ⟨h1,h2,_,_,h5⟩|⟨j,e,k',y,h1,hE,hek,hes,amw,amx,_,_,_,_,h5⟩
    ·have e5:=h5 vx;refine fin (E.push {key:=k,val:=v,born:=clock}) (clock+1) ?_ (by grind) (fun j e x he o3=> ?_) ?_
     ·unfold Instr.mapUpdate;simp only[Sem.run_bind,run_underlying hu,Result.andThen_ok,Go.MapKept.run_getObj_map hh,K.check w false hl,h1,Go.MapKept.run_setObj_map _ hh]
     ·rw[e5] at o3;rw[Array.getElem?_push] at he;split at he
      ·rename_i hj;rw[oV (by omega),hj,hs,Nat.sub_self] at o3;simp at he o3;subst he;subst o3;exact ⟨kx,vx,rfl,uU,Dr,Ad,qR⟩
      grind
     grind
    ·have e5:=h5 vx;have hj:j<E.size:=(xu.1 hE).1;refine fin (E.modify j fun e=>{e with key:=k,val:=v}) clock ?_ (by grind) (fun i e' x he nG=> ?_) ?_
     ·have cQ:=K.stays w hl;unfold Instr.mapUpdate;simp only[Sem.run_bind,run_underlying hu,Result.andThen_ok,Go.MapKept.run_getObj_map hh,K.check w false hl,h1];simp only[hE,Option.map_some,Option.getD_some,hek,cQ,Result.andThen_ok,Go.MapKept.run_setObj_map _ hh]
     ·rw[e5] at nG;rw[Kk] at he;rw[EN] at nG;split at he
      ·rename_i zw;subst zw;rw[aB rfl,dp] at nG;rw[hE] at he;simp at he nG;subst he;subst nG;exact ⟨k',vx,rfl,amw,amx,Ad,qR⟩
      grind
     ·have yr: ∀i (h1:i<(E.modify j fun e=>{e with key:=k,val:=v}).toList.length) (h2:i<E.toList.length),((E.modify j fun e=>{e with key:=k,val:=v}).toList[i]).key=(E.toList[i]).key:=by
       grind
      rw[List.pairwise_iff_getElem] at hn⊢;grind
theorem amy (S:aA P w I β hp B M w0) {t ty kt vt:TypeId} {v:Value} {x:V} {r:R} {rd:List Nat} (hu:P.underlying t=some (.map kt vt)) (hv:aj P w I β hp v x)
  (h:(KC x).run C hp=some (r,rd)):dj P ((Builtin.len_ #[t] ty #[v]).run P w) w I β hp B M w0 r:=by
 unfold KC at h;cases x<;>simp only at h<;>first|(cases h;done)|skip
 ·rename_i t' id;obtain ⟨l2,h'⟩:=run_get h;clear h;have h:=h';clear h';cases ae:hp id with
  | none=>rw[ae] at h;cases h
  | some blk=>
   rw[ae] at h;cases blk<;>simp only at h<;>first|(cases h;done)|skip
   rename_i t2 es;obtain rfl:=aN h;cases hv with
   | lJ hd=>grind
   | @cK _ _ b aK hd hb=>
    rw[ae] at hd;cases hd;have hr:=S.h.rel id _ ae;cases hr with
    | @map _ kt' vt' _ b' clock E lX au hh hs hI hx hn=>
     rw[hb] at au;cases au;refine .same S (v:= .int .i64 E.size) (by simp[Builtin.len_,run_underlying hu,Go.MapKept.run_getObj_map hh,goInt]) ?_;rw[hs];exact .int
 ·obtain rfl:=aN h;cases hv;exact .same S (v:= .int .i64 0) (by simp[Builtin.len_,run_underlying hu,goInt]) .int
theorem aj.SC {v:Value} {t:TypeId} (h:aj P w I β hp v (.fc t)):v= .map none:=by cases h;rfl
theorem aj.amz {v:Value} {t t':TypeId} {id:Nat} {es:List V} (h:aj P w I β hp v (.cK t id)) (ae:hp id=some (.map t' es)): ∃b,v= .map (some b):=by
 cases h with
 | lJ h=>grind
 | cK h hb=>grind
theorem aa8 (S:aA P w I β hp B M w0) {op:BinOp} {t:TypeId} {a:Option Nat} {r:R} {rd:List Nat} (x y:Operand)
  (h:(Ku P op t a.isNone).run C hp=some (r,rd)):dj P ((do eqGuard op t x y (.map a) (.map none);binOp op t (.map a) (.map none)).run P w) w I β hp B M w0 r:=by
 unfold Ku at h;split at h
 case h_2=>cases h
 rename_i kt vt hu;have he:(Op.equal t (.map a) (.map none)).run P w= .ok a.isNone w:=by
  show (Op.equalIn (9999+1) t (.map a) (.map none)).run P w=_;rw[Op.equalIn];cases a<;>simp[Sem.run_bind,run_underlying hu,Result.andThen_ok,Sem.run_pure]
 cases op<;>simp only at h<;>first|(cases h;done)|skip
 ·obtain rfl:=aN h;exact .same S (by simp[eqGuard,binOp,he]) .bool
 ·obtain rfl:=aN h;exact .same S (by simp[eqGuard,binOp,he]) .bool
end
end Go.AM
