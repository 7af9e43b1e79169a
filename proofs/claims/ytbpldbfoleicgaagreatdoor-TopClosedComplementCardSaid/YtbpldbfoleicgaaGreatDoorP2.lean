/-
  Functions of the program, lifted to plain data.
-/
import Derived.Great.BuildSlice
import Derived.Maps.Keyed
import Derived.WideKeyArr
import Derived.MapKept
import Derived.ChangeMaps4
import Derived.Carry
import Derived.Test.YtbpldbfoleicgaaGreatDoorP1
noncomputable section
set_option linter.unusedVariables false
set_option linter.unusedSimpArgs false
set_option linter.unusedSectionVars false
namespace Go.AM
section
variable {P:Program} {w w':World} {I I':Nat→Nat→Prop} {β β':Nat→Option Nat} {hp hp':Nat→Option ah} {C:af} {B:Nat} {M:Nat→Prop} {w0:Start}
theorem oY.wD {t:TypeId} {v:Value} {x:V} (h:oY P w I t v x):g9 P t x=x:=by
 cases h with
 | gq _ p=>exact p.wD
 | emp hu=>exact qI hu
 | row hu _ _ _ _=>exact qI hu
theorem BG {new:List V} {e ea:TypeId} {i c:Nat} {q:Path} {es dc:List V} {x:V} (hx:es[i]? =some x) (hp:(parts P e x)[c]? =some (.list ea dc)):
  setRow P new e es ((i,c)::q)=es.set i (dw P e ((parts P e x).set c (.list ea (setRow P new ea dc q)))):=by
 simp only[setRow,hx,hp]
theorem E7 {b:Nat} {e t:TypeId} {es:List V} {i c:Nat} {x y:V} (hR:iG P w I b e es) (hx:es[i]? =some x) (ht:(aT P e)[c]? =some t):
  ∀{i' c':Nat} {x':V} {t':TypeId},(es.set i (dw P e ((parts P e x).set c y)))[i']? =some x'→(aT P e)[c']? =some t'→
   ∃x0,es[i']? =some x0∧ca P e x' c'=if i'=i∧c'=c then y else ca P e x0 c':=by
 intro i' c' x' t' c7 gu;have o3:i<es.length:=(cu.1 hx).1;have yb:c<(aT P e).length:=(cu.1 ht).1;have Kf:c'<(aT P e).length:=(cu.1 gu).1;by_cases hi:i'=i
 ·subst hi;rw[oN o3] at c7;cases c7;refine ⟨x,hx,?_⟩;by_cases hc:c'=c
  ·subst hc;rw[aE ⟨rfl,rfl⟩];exact uL (oN (by rw[Bm];exact yb)) gu
  ·rw[aF (fun h=>hc h.2)];have h1:((parts P e x).set c y)[c']? =some (g9 P t' (ca P e x c')):=by
    rw[uf (fun h=>hc h.symm)];exact qH gu
   rw[uL h1 gu];obtain ⟨Ca,_,_,_,_,uW⟩:=hR.cells;obtain ⟨v,_,ho⟩:=uW i' c' x t' hx gu (by rw[←fx hR.ok];exact Kf);exact ho.wD
 ·rw[uf (fun h=>hi h.symm)] at c7;exact ⟨x',c7,by rw[aF (fun h=>hi h.1)]⟩
theorem Pz {b b1:Nat} {e e1:TypeId} {es l l':List V} {p:Path} (h:At P w b e es p b1 e1 l) (hl:l'.length=l.length):(setRow P l' e es p).length=es.length:=by
 cases h with
 | here=>exact hl
 | step h1 h2 h3 h4 h5 h6 h7 h8=>
  rw[BG h2 (by rw[qH h3,h5,qI h4])];simp
theorem At.aio {b b1:Nat} {e e1:TypeId} {es l l':List V} {p:Path} (PA:At P w b e es p b1 e1 l) (hw: ∀k,k≠b1→w'.heap[k]? =w.heap[k]?) (hl:l'.length=l.length):
  (∀q b' e' m,At P w b e es q b' e' m→iG P w I b' e' m)→(∀q e' m,At P w b e es q b1 e' m→q=p)→
  ∀q b' e' m,At P w' b e (setRow P l' e es p) q b' e' m→
   (∃r m0,p=q++r∧At P w b e es q b' e' m0∧m=setRow P l' e' m0 r)∨
   (∃r,r≠[]∧q=p++r∧At P w' b1 e1 l' r b' e' m)∨
   (At P w b e es q b' e' m∧b'≠b1∧¬q <+: p∧¬p <+: q):=by
 induction PA with
 | here=>
  intro cR ng q b' e' m h;cases q with
  | nil=>cases h with|here=>exact .inl ⟨[],_,rfl,.here,rfl⟩
  | cons a q=>exact .inr (.inl ⟨a::q,by simp,rfl,h⟩)
 | @step b i c b2 len cap b1 e t ea e1 es dc l p Ca T f x h1 h2 h3 h4 h5 h6 h7 h8 ih=>
  intro cR ng q b' e' m h;have oj:(parts P e x)[c]? =some (.list ea dc):=by rw[qH h3,h5,qI h4]
  rw[BG h2 oj] at h;have hR:=cR _ _ _ _ .here;have hb:b≠b1:=by
   intro hb;subst hb;have:=ng [] _ _ .here;cases this
  have PB:=ih hw hl (fun q b' e' m h=>cR _ _ _ _ (.step h1 h2 h3 h4 h5 h6 h7 h)) (fun q e' m h=>by
   have:=ng _ _ _ (.step h1 h2 h3 h4 h5 h6 h7 h);exact (List.cons.inj this).2)
  cases h with
  | here=>exact .inl ⟨_,es,rfl,.here,(BG h2 oj).symm⟩
  | @step _ i' c' b3 aip PC _ _ t' e3 _ _ jh _ q ya T' f' x' k1 k2 k3 k4 k5 k6 k7 k8=>
   rw[hw b hb] at k1;obtain ⟨x0,y1,y2⟩:=E7 hR h2 h3 k2 k3;by_cases jE:i'=i∧c'=c
   ·rw[aE jE] at y2;obtain ⟨rfl,rfl⟩:=jE;rw[h1] at k1;cases k1;rw[h7] at k7;cases k7;rw[k5] at y2;cases y2;rcases PB _ _ _ _ k8 with ⟨r,m0,z1,z2,z3⟩|⟨r,z1,z2,z3⟩|⟨z1,z2,z3,z4⟩
    ·exact .inl ⟨r,m0,by rw[z1];rfl,.step h1 h2 h3 h4 h5 h6 h7 z2,z3⟩
    ·exact .inr (.inl ⟨r,z1,by rw[z2];rfl,z3⟩)
    ·refine .inr (.inr ⟨.step h1 h2 h3 h4 h5 h6 h7 z1,z2,fun hh=>z3 ?_,fun hh=>z4 ?_⟩)
     ·exact (vX.1 hh).2
     ·exact (vX.1 hh).2
   ·rw[aF jE,k5] at y2;have bH: ∀q2 b5 e5 j9,At P w b3 e3 jh q2 b5 e5 j9→b5≠b1:=by
     intro q2 b5 e5 j9 hq yG;subst yG;have:=ng _ _ _ (.step k1 y1 k3 k4 y2.symm k6 k7 hq);injection this with h1 h2;injection h1 with h1 h3;exact jE ⟨h1,h3⟩
    have lA:=k8.wv (w:=w) fun q2 b5 e5 j9 hq=>hw b5 (bH q2 b5 e5 j9 hq);refine .inr (.inr ⟨.step k1 y1 k3 k4 y2.symm k6 k7 lA,bH _ _ _ _ lA,fun hh=> ?_,fun hh=> ?_⟩)
    ·have:=(vX.1 hh).1;injection this with h1 h3;exact jE ⟨h1,h3⟩
    ·have:=(vX.1 hh).1;injection this with h1 h3;exact jE ⟨h1.symm,h3.symm⟩
theorem At.wS {b b1:Nat} {e e1:TypeId} {es l l':List V} {p:Path} (PA:At P w b e es p b1 e1 l) (hw: ∀k,k≠b1→w'.heap[k]? =w.heap[k]?) (hl:l'.length=l.length):
  (∀q b' e' m,At P w b e es q b' e' m→iG P w I b' e' m)→(∀q e' m,At P w b e es q b1 e' m→q=p)→
  ∀q b' e' m,At P w b e es q b' e' m→
   (∃r,p=q++r∧At P w' b e (setRow P l' e es p) q b' e' (setRow P l' e' m r)∧∃e1' m1,At P w b' e' m r b1 e1' m1∧m1=l)∨
   (∃r,r≠[]∧q=p++r∧At P w b1 e1 l r b' e' m∧(∀b2 e2 m2,At P w' b1 e1 l' r b2 e2 m2→At P w' b e (setRow P l' e es p) q b2 e2 m2))∨
   (At P w' b e (setRow P l' e es p) q b' e' m∧b'≠b1∧¬q <+: p∧¬p <+: q):=by
 induction PA with
 | here=>
  intro cR ng q b' e' m h;cases q with
  | nil=>cases h with|here=>exact .inl ⟨[],rfl,.here,_,_,.here,rfl⟩
  | cons a q=>exact .inr (.inl ⟨a::q,by simp,rfl,h,fun _ _ _ h=>h⟩)
 | @step b i c b2 len cap b1 e t ea e1 es dc l p Ca T f x h1 h2 h3 h4 h5 h6 h7 h8 ih=>
  intro cR ng q b' e' m h;have oj:(parts P e x)[c]? =some (.list ea dc):=by rw[qH h3,h5,qI h4]
  have jg:=BG (new:=l') (q:=p) h2 oj;have hR:=cR _ _ _ _ .here;have o3:i<es.length:=(cu.1 h2).1;have hb:b≠b1:=by
   intro hb;subst hb;have:=ng [] _ _ .here;cases this
  have PB:=ih hw hl (fun q b' e' m h=>cR _ _ _ _ (.step h1 h2 h3 h4 h5 h6 h7 h)) (fun q e' m h=>by
   have:=ng _ _ _ (.step h1 h2 h3 h4 h5 h6 h7 h);exact (List.cons.inj this).2)
  have sW:=(hw b hb).trans h1;have wU:(es.set i (dw P e ((parts P e x).set c (.list ea (setRow P l' ea dc p)))))[i]? =some (dw P e ((parts P e x).set c (.list ea (setRow P l' ea dc p)))):=oN o3;have PD:ca P e (dw P e ((parts P e x).set c (.list ea (setRow P l' ea dc p)))) c= .list ea (setRow P l' ea dc p):=by
   obtain ⟨x0,y1,y2⟩:=E7 hR h2 h3 wU h3;rw[aE ⟨rfl,rfl⟩] at y2;exact y2
  cases h with
  | here=>
   exact .inl ⟨(i,c)::p,rfl,.here,_,_,.step h1 h2 h3 h4 h5 h6 h7 h8,rfl⟩
  | @step _ i' c' b3 aip PC _ _ t' e3 _ _ jh _ q ya T' f' x' k1 k2 k3 k4 k5 k6 k7 k8=>
   rw[jg];by_cases jE:i'=i∧c'=c
   ·obtain ⟨rfl,rfl⟩:=jE;rw[h1] at k1;cases k1;rw[h7] at k7;cases k7;rw[h3] at k3;cases k3;rw[h4] at k4;cases k4;rw[h2] at k2;cases k2;rw[h5] at k5;cases k5;rcases PB _ _ _ _ k8 with ⟨r,z1,z2,z3⟩|⟨r,z1,z2,z3,z4⟩|⟨z1,z2,z3,z4⟩
    ·exact .inl ⟨r,by rw[z1];rfl,.step sW wU h3 h4 PD h6 h7 z2,z3⟩
    ·exact .inr (.inl ⟨r,z1,by rw[z2];rfl,z3,fun b2 e2 m2 hh=> .step sW wU h3 h4 PD h6 h7 (z4 b2 e2 m2 hh)⟩)
    ·refine .inr (.inr ⟨.step sW wU h3 h4 PD h6 h7 z1,z2,fun hh=>z3 ?_,fun hh=>z4 ?_⟩)
     ·exact (vX.1 hh).2
     ·exact (vX.1 hh).2
   ·have bH: ∀q2 b5 e5 j9,At P w b3 e3 jh q2 b5 e5 j9→b5≠b1:=by
     intro q2 b5 e5 j9 hq yG;subst yG;have:=ng _ _ _ (.step k1 k2 k3 k4 k5 k6 k7 hq);injection this with h1 h2;injection h1 with h1 h3;exact jE ⟨h1,h3⟩
    have lA:=k8.mono (w':=w') fun q2 b5 e5 j9 hq=>hw b5 (bH q2 b5 e5 j9 hq);have PE: ∃x2,(es.set i (dw P e ((parts P e x).set c (.list ea (setRow P l' ea dc p)))))[i']? =some x2:=by
     have:i'<es.length:=(cu.1 k2).1;exact ⟨_,bU (by rw[od];exact this)⟩
    obtain ⟨x2,jU⟩:=PE;obtain ⟨x0,y1,y2⟩:=E7 hR h2 h3 jU k3;rw[aF jE] at y2;rw[k2] at y1;cases y1;rw[k5] at y2;refine .inr (.inr ⟨.step ((hw b hb).trans k1) jU k3 k4 y2 k6 k7 lA,bH _ _ _ _ k8,fun hh=> ?_,fun hh=> ?_⟩)
    ·have:=(vX.1 hh).1;injection this with h1 h3;exact jE ⟨h1,h3⟩
    ·have:=(vX.1 hh).1;injection this with h1 h3;exact jE ⟨h1.symm,h3.symm⟩
theorem At.fun {b b1:Nat} {e e1:TypeId} {es l:List V} {q:Path} (h:At P w b e es q b1 e1 l): ∀{b2 e2 l2},At P w b e es q b2 e2 l2→b2=b1∧e2=e1∧l2=l:=by
 induction h with
 | here=>intro b2 e2 l2 h2;cases h2;exact ⟨rfl,rfl,rfl⟩
 | step h1 h2 h3 h4 h5 h6 h7 h8 ih=>
  intro b2 e2 l2 k;cases k with
  | step k1 k2 k3 k4 k5 k6 k7 k8=>
   rw[h1] at k1;cases k1;rw[h7] at k7;cases k7;rw[h2] at k2;cases k2;rw[h5] at k5;cases k5;exact ih k8
theorem At.split: ∀{q r:Path} {b b1:Nat} {e e1:TypeId} {es l:List V},At P w b e es (q++r) b1 e1 l→∃b' e' m,At P w b e es q b' e' m∧At P w b' e' m r b1 e1 l
 | [],r,b,b1,e,e1,es,l,h=>⟨_,_,_,.here,h⟩
 | a::q,r,b,b1,e,e1,es,l,h=>by
  cases h with
  | step h1 h2 h3 h4 h5 h6 h7 h8=>
   obtain ⟨b',e',m,k1,k2⟩:=At.split h8;exact ⟨b',e',m,.step h1 h2 h3 h4 h5 h6 h7 k1,k2⟩
theorem iG.cH {b:Nat} {e:TypeId} {es:List V} (h:iG P w I b e es) (hw:w'.heap[b]? =w.heap[b]?) (hI: ∀k j,I k j→w'.cell? ⟨k,j,none⟩=w.cell? ⟨k,j,none⟩) (j6: ∀k,bsize w' k=bsize w k):iG P w' I b e es:=by
 obtain ⟨ok,⟨Ca,T,c1,c0,c2,c3⟩,nI⟩:=h;refine ⟨ok,⟨Ca,T,hw.trans c1,c0,c2,fun i j x t' k1 k2 k3=> ?_⟩,nI⟩;obtain ⟨v,m1,m2⟩:=c3 i j x t' k1 k2 k3;exact ⟨v,m1,m2.mono (fun _ _ h=>h) hI fun b' _ _ _ _=>j6 b'⟩
theorem iG.above {b b1 b2 i c len cap:Nat} {e e1 t ea:TypeId} {es dc l l':List V} {r:Path} {Ca:Array Value} {T:TypeId} {f:Nat×Nat} {x:V} (hR:iG P w I b e es)
  (h1:w.heap[b]? =some (.cells Ca T f)) (h2:es[i]? =some x) (h3:(aT P e)[c]? =some t) (h4:P.underlying t=some (.slice ea)) (h5:ca P e x c= .list ea dc) (h6:0<cap)
  (h7:Ca[i*P.cellsOf e+c]? =some (.slice (some ⟨b2,0,none⟩) len cap)) (h8:At P w b2 ea dc r b1 e1 l) (hl:l'.length=l.length)
  (hw:w'.heap[b]? =w.heap[b]?) (hI: ∀k j,I k j→w'.cell? ⟨k,j,none⟩=w.cell? ⟨k,j,none⟩) (j6: ∀k,bsize w' k=bsize w k):iG P w' I b e (setRow P l' e es ((i,c)::r)):=by
 have oj:(parts P e x)[c]? =some (.list ea dc):=by rw[qH h3,h5,qI h4]
 rw[BG h2 oj];have hR0:=hR;obtain ⟨ok,⟨ya,_,c1,c0,c2,c3⟩,nI⟩:=hR;rw[h1] at c1;cases c1;refine ⟨ok,⟨Ca,_,hw.trans h1,c0,by simpa using c2,fun i' j x' t' k1 k2 k3=> ?_⟩,nI⟩;obtain ⟨x0,y1,y2⟩:=E7 hR0 h2 h3 k1 k2;obtain ⟨v,m1,m2⟩:=c3 i' j x0 t' y1 k2 k3;refine ⟨v,m1,?_⟩;have m3:oY P w' I t' v (ca P e x0 j):=m2.mono (fun _ _ h=>h) hI fun b' _ _ _ _=>j6 b';rw[y2];by_cases jE:i'=i∧j=c
 ·rw[aE jE];obtain ⟨rfl,rfl⟩:=jE;rw[h2] at y1;cases y1;rw[h3] at k2;cases k2;rw[h5] at m3;have hlen:=Pz (l':=l') h8 hl;rw[h7] at m1;cases m1;generalize hy:V.list ea dc=y at m3;cases m3 with
  | gq a p=>unfold dV at a;rw[h4] at a;cases a
  | emp a=>exact absurd h6 (nE _)
  | row a b c d e=>
   cases hy;rw[←hlen];exact .row a b c (by omega) e
 ·rw[aF jE];exact m3
theorem aiq (S:ay P w I β hp B M w0) {id b b1 i c:Nat} {e0 e1:TypeId} {es l l':List V} {vers vers':List Nat} {path:Path} (K:Path→Nat→TypeId→List V→Prop)
  (ae:hp id=some (.nest e0 es vers)) (hb:β id=some b) (ha:At P w b e0 es path b1 e1 l) (hl:l'.length=l.length)
  (hw: ∀k,k≠b1→w'.heap[k]? =w.heap[k]?) (j6: ∀k,bsize w' k=bsize w k) (aZ:w'.heap.size=w.heap.size) (mV:w'.os=w.os∧w'.output=w.output)
  (air:iG P w' I b1 e1 l')
  (Xv: ∀a r b' e' m,At P w' b1 e1 l' (a::r) b' e' m→b'≠b1∧(At P w b1 e1 l (a::r) b' e' m∨(a=(i,c)∧K r b' e' m)))
  (hK: ∀r b' e' m,K r b' e' m→iG P w I b' e' m∧(M b'∨B≤b')∧(∀aH cz,hp aH=some cz→¬bd P w (β aH) cz b'))
  (td: ∀r1 r2 b' e1 m1 e2 m2,K r1 b' e1 m1→K r2 b' e2 m2→r1=r2)
  (rK:vers'.length=vers.length) (Ed: ∀k,bt vers k≤bt vers' k)
  (wV: ∀(r:Path) i' c' t' v ea l0,(path++r).length<vers.length→bt vers' (path++r).length=bt vers (path++r).length→P.underlying t'=some (.slice ea)→pQ P w b1 e1 l r i' c' t' v (.list ea l0)→
   ∃BH,BH.length=l0.length∧pQ P w' b1 e1 l' r i' c' t' v (.list ea BH)):
  Le P w I β hp w' I β (an hp id (some (.nest e0 (setRow P l' e0 es path) vers')))∧ay P w' I β (an hp id (some (.nest e0 (setRow P l' e0 es path) vers'))) B M w0:=by
 have hr:=S.h.rel id _ ae;rw[hb] at hr;cases hr with
 | iX au=>cases au
 | nest au cR lT=>
 cases au;have ng: ∀q e' m,At P w b e0 es q b1 e' m→q=path:=fun q e' m h=>lT _ _ _ _ _ _ _ h ha;have dd: ∀j,¬I b1 j:=(cR _ _ _ _ ha).nI;have wW: ∀k j,I k j→w'.cell? ⟨k,j,none⟩=w.cell? ⟨k,j,none⟩:=fun k j hk=>World.cell?_of_block (hw k (fun e=>dd j (e▸hk)));have Xw:bd P w (β id) (.nest e0 es vers) b1:= .row hb ha;have same: ∀{aq cz b'},aq≠id→hp aq=some cz→bd P w (β aq) cz b'→w'.heap[b']? =w.heap[b']? :=
  fun hi h ho=>hw _ fun e=>hi (S.h.inj _ _ _ _ b1 h ae (e▸ho) Xw)
 have BI:(setRow P l' e0 es path).length=es.length:=Pz ha hl;have wS:=At.aio (I:=I) (w':=w') (l':=l') ha hw hl cR ng;have PF: ∀q b' e' m,At P w' b e0 (setRow P l' e0 es path) q b' e' m→(∃e2 m2,At P w b e0 es q b' e2 m2)∨∃r,q=path++(i,c)::r∧K r b' e' m:=by
  intro q b' e' m h;rcases wS q b' e' m h with ⟨r,m0,z1,z2,z3⟩|⟨r,z1,z2,z3⟩|⟨z1,z2,z3,z4⟩
  ·exact .inl ⟨_,_,z2⟩
  ·cases r with
   | nil=>exact absurd rfl z1
   | cons a r=>
    obtain ⟨y1,y2⟩:=Xv a r b' e' m z3;rcases y2 with y2|⟨rfl,y2⟩
    ·exact .inl ⟨_,_,by rw[z2];exact ha.app y2⟩
    ·exact .inr ⟨r,z2,y2⟩
  ·exact .inl ⟨_,_,z1⟩
 have rQ: ∀b',bd P w' (β id) (.nest e0 (setRow P l' e0 es path) vers') b'→bd P w (β id) (.nest e0 es vers) b'∨((M b'∨B≤b')∧∀aH cz,hp aH=some cz→¬bd P w (β aH) cz b'):=by
  intro b' ho;cases ho with
  | root _ h=>exact .inl (.root (by simp) h)
  | row h1 h2=>
   rw[hb] at h1;cases h1;rcases PF _ _ _ _ h2 with ⟨e2,m2,h⟩|⟨r,_,h⟩
   ·exact .inl (.row hb h)
   ·exact .inr (hK _ _ _ _ h).2
 have hle:Le P w I β hp w' I β (an hp id (some (.nest e0 (setRow P l' e0 es path) vers'))):=by
  refine ⟨fun _ _ h=>h,wW,fun aq cz h=> ?_,fun aq cz ku b' h h3 hd3 au=>j6 b',fun aq e bM vs e' aJ rJ b2 q i' c' t v ea l0 h h' fb aY hv ht hc=> ?_⟩
  ·by_cases hi:aq=id
   ·subst hi;rw[ae] at h;cases h;exact ⟨_,bD _ _ _,⟨rfl,BI.symm,rK.symm,Ed⟩,fun _=>rfl⟩
   ·exact ⟨cz,by rw[cw _ _ hi];exact h,ah.le_refl _,fun _=>rfl⟩
  ·by_cases hi:aq=id
   ·subst hi;rw[ae] at h;cases h;rw[bD] at h';cases h';rw[hb] at fb;cases fb;obtain ⟨b',e',m,Ca,T,f,x,k1,k2,k3,k4,k5,k6⟩:=hc;rcases At.wS (I:=I) (w':=w') (l':=l') ha hw hl cR ng q b' e' m k1 with ⟨r,z1,z2,e2,m2,z3,_⟩|⟨r,z1,z2,z3,z4⟩|⟨z1,z2,z3,z4⟩
    ·cases r with
     | nil=>
      cases z3;rw[ug] at z1;subst z1;obtain ⟨w1,w2,w3⟩:=ha.fun k1;subst w2;subst w3;obtain ⟨BH,g1,g2⟩:=wV [] i' c' t v ea l0 (by simpa using aY) (by simpa using hv) ht ⟨_,_,_,Ca,T,f,x,.here,k2,k3,k4,k5,k6⟩;refine ⟨BH,g1,?_⟩;obtain ⟨b5,e5,j9,C5,T5,f5,x5,q1,q2,q3,q4,q5,q6⟩:=g2;cases q1;exact ⟨_,_,_,C5,T5,f5,x5,z2,q2,q3,q4,q5,q6⟩
     | cons a r=>
      cases z3 with
      | @step _ i2 c2 b3 len cap _ _ t3 PH _ _ jh _ r Ca3 T3 f3 x3 g1 g2 g3 g4 g5 g6 g7 g8=>
       have au:b'≠b1:=by
        intro e;subst e;have:=ng _ _ _ k1;rw[this] at z1;have:=congrArg List.length z1;simp at this
       have oj:(parts P e' x3)[c2]? =some (.list PH jh):=by rw[qH g3,g5,qI g4]
       rw[BG g2 oj] at z2;have PE: ∃x2,(m.set i2 (dw P e' ((parts P e' x3).set c2 (.list PH (setRow P l' PH jh r)))))[i']? =some x2:=by
        have:i'<m.length:=(cu.1 k3).1;exact ⟨_,bU (by rw[od];exact this)⟩
       obtain ⟨x2,jU⟩:=PE;obtain ⟨x0,y1,y2⟩:=E7 (cR _ _ _ _ k1) g2 g3 jU k4;rw[k3] at y1;cases y1;have g8l:=(ha.fun ((k1.app (.step g1 g2 g3 g4 g5 g6 g7 g8)) |> fun h=>by rw[z1];exact h)).2.2;by_cases jE:i'=i2∧c'=c2
       ·rw[aE jE] at y2;obtain ⟨rfl,rfl⟩:=jE;rw[k3] at g2;cases g2;rw[k5] at g5;cases g5;exact ⟨_,Pz g8 (by rw[hl,g8l]),b',e',_,Ca,T,f,x2,z2,(hw b' au).trans k2,jU,k4,y2,k6⟩
       ·rw[aF jE,k5] at y2;exact ⟨l0,rfl,b',e',_,Ca,T,f,x2,z2,(hw b' au).trans k2,jU,k4,y2,k6⟩
    ·subst z2;obtain ⟨BH,g1,g2⟩:=wV r i' c' t v ea l0 aY hv ht ⟨_,_,_,Ca,T,f,x,z3,k2,k3,k4,k5,k6⟩;obtain ⟨b5,e5,j9,C5,T5,f5,x5,q1,q2,q3,q4,q5,q6⟩:=g2;exact ⟨BH,g1,_,_,_,C5,T5,f5,x5,z4 _ _ _ q1,q2,q3,q4,q5,q6⟩
    ·exact ⟨l0,rfl,b',e',m,Ca,T,f,x,z1,(hw b' z2).trans k2,k3,k4,k5,k6⟩
   ·rw[cw _ _ hi,h] at h';cases h';exact ⟨l0,rfl,hc.mono fun _ _ _ _ hh=>same hi h (.row fb hh)⟩
 have hold: ∀{aq cz b'},an hp id (some (.nest e0 (setRow P l' e0 es path) vers')) aq=some cz→bd P w' (β aq) cz b'→
   (∃ku,hp aq=some ku∧bd P w (β aq) ku b')∨(aq=id∧(M b'∨B≤b')∧∀aH cz,hp aH=some cz→¬bd P w (β aH) cz b'):=by
  intro aq cz b' h ho;by_cases hi:aq=id
  ·subst hi;rw[bD] at h;cases h;rcases rQ b' ho with h|h
   ·exact .inl ⟨_,ae,h⟩
   ·exact .inr ⟨rfl,h⟩
  ·rw[cw _ _ hi] at h;exact .inl ⟨cz,h,ho.mono fun b2 rO=>same hi h rO⟩
 refine ⟨hle,⟨⟨fun aq cz h=> ?_,fun i1 i2 b1 b2 b' h1 h2 o1 o2=> ?_,fun aq cz b' h ho=> ?_,fun b' h=>by rw[aZ];exact S.h.jR b' h⟩,fun b' h1 h2=> ?_,by rw[aZ];exact S.size,S.new,⟨mV.1.trans S.io.1,mV.2.trans S.io.2⟩⟩⟩
 ·by_cases hi:aq=id
  ·subst hi;rw[bD] at h;cases h;rw[hb];refine .nest rfl (fun q b' e' m h=> ?_) (fun q1 q2 b' f1 m1 f2 m2 h1 h2=> ?_)
   ·rcases wS q b' e' m h with ⟨r,m0,z1,z2,z3⟩|⟨r,z1,z2,z3⟩|⟨z1,z2,z3,z4⟩
    ·subst z3;subst z1;obtain ⟨b5,e5,m5,g1,g2⟩:=At.split ha;obtain ⟨w1,w2,w3⟩:=g1.fun z2;subst w1;subst w2;subst w3;cases r with
     | nil=>cases g2;exact air
     | cons a r=>
      cases g2 with
      | step g1' g2 g3 g4 g5 g6 g7 g8=>
       refine (cR _ _ _ _ z2).above g1' g2 g3 g4 g5 g6 g7 g8 hl (hw _ fun e=> ?_) wW j6;subst e;have:=ng _ _ _ z2;have:=congrArg List.length this;simp at this
    ·cases r with
     | nil=>exact absurd rfl z1
     | cons a r=>
      obtain ⟨y1,y2⟩:=Xv a r b' e' m z3;rcases y2 with y2|⟨rfl,y2⟩
      ·exact (cR _ _ _ _ (ha.app y2)).cH (hw _ y1) wW j6
      ·exact (hK _ _ _ _ y2).1.cH (hw _ y1) wW j6
    ·exact (cR _ _ _ _ z1).cH (hw _ z2) wW j6
   ·rcases PF _ _ _ _ h1 with ⟨e2,m2',x1⟩|⟨r1,x1,x2⟩<;>rcases PF _ _ _ _ h2 with ⟨e3,m3',y1⟩|⟨r2,y1,y2⟩
    ·exact lT _ _ _ _ _ _ _ x1 y1
    ·exact absurd (bd.row hb x1) ((hK _ _ _ _ y2).2.2 _ _ ae)
    ·exact absurd (bd.row hb y1) ((hK _ _ _ _ x2).2.2 _ _ ae)
    ·rw[x1,y1,td _ _ _ _ _ _ _ x2 y2]
  ·rw[cw _ _ hi] at h;exact (S.h.rel aq cz h).mono hle fun b' ho=>⟨same hi h ho,fun _ h=>h⟩
 ·rcases hold h1 o1 with ⟨c1,x1,y1⟩|⟨rfl,x1,y1⟩<;>rcases hold h2 o2 with ⟨c2,x2,y2⟩|⟨rfl,x2,y2⟩
  ·exact S.h.inj i1 i2 c1 c2 b' x1 x2 y1 y2
  ·exact absurd y1 (y2 _ _ x1)
  ·exact absurd y2 (y1 _ _ x2)
  ·rfl
 ·rcases hold h ho with ⟨c1,x1,y1⟩|⟨rfl,x1,y1⟩
  ·exact S.h.own aq c1 b' x1 y1
  ·exact x1
 ·rw[hw b' fun e=> ?_]
  ·exact S.cH b' h1 h2
  ·subst e;rcases S.h.own id _ b' ae Xw with h|h
   ·exact h2 h
   ·omega
theorem ais {i i' n c c' k:Nat} (hc':c'<n) (p6:c+k≤n) (h1:i*n+c≤i'*n+c') (h2:i'*n+c'<i*n+c+k):i'=i∧c≤c'∧c'<c+k:=by
 have:i'=i:=by
  rcases Nat.lt_trichotomy i' i with h|h|h
  ·have:=eZ n (Nat.succ_le_of_lt h);rw[Nat.succ_mul] at this;omega
  ·exact h
  ·have:=eZ n (Nat.succ_le_of_lt h);rw[Nat.succ_mul] at this;omega
 subst this;omega
theorem ait {b1 i c:Nat} {e1 T:TypeId} {l cs:List V} {x0:V} {Ca:Array Value} {vs:List Value} (hR:iG P w I b1 e1 l) (hh:w.heap[b1]? =some (.cells Ca T (0,0))) (hs:l.length*P.cellsOf e1≤Ca.size)
  (hx:l[i]? =some x0) (hk:cs.length=vs.length) (p6:c+cs.length≤P.cellsOf e1):
  ∀{i' c':Nat} {x':V} {t':TypeId},(l.set i (dw P e1 (jt (parts P e1 x0) c cs)))[i']? =some x'→(aT P e1)[c']? =some t'→
   ∃x1,l[i']? =some x1∧((∃j y u,i'=i∧c'=c+j∧cs[j]? =some y∧vs[j]? =some u∧ca P e1 x' c'=y∧(Ca.toList.take (i*P.cellsOf e1+c)++(vs++Ca.toList.drop (i*P.cellsOf e1+c+vs.length))).toArray[i'*P.cellsOf e1+c']? =some u)∨
    (ca P e1 x' c'=ca P e1 x1 c'∧(Ca.toList.take (i*P.cellsOf e1+c)++(vs++Ca.toList.drop (i*P.cellsOf e1+c+vs.length))).toArray[i'*P.cellsOf e1+c']? =Ca[i'*P.cellsOf e1+c']?)):=by
 intro i' c' x' t' c7 gu;have o3:i<l.length:=(cu.1 hx).1;have Kf:c'<P.cellsOf e1:=by rw[←fx hR.ok];exact (cu.1 gu).1
 have eD:(parts P e1 x0).length=P.cellsOf e1:=by rw[Bm];exact fx hR.ok
 have hbound:i*P.cellsOf e1+c+vs.length≤Ca.toList.length:=by
  have:(i+1)*P.cellsOf e1≤l.length*P.cellsOf e1:=eZ _ o3;rw[kW] at this;simp only[Array.length_toList];omega
 simp only[oM];rw[qJ _ _ _ _ hbound];by_cases mA:i'=i∧c≤c'∧c'<c+cs.length
 ·obtain ⟨rfl,h1,h2⟩:=mA;rw[oN o3] at c7;cases c7;refine ⟨x0,hx,.inl ?_⟩;rw[dA,dv,show i'*P.cellsOf e1+c'-(i'*P.cellsOf e1+c)=c'-c by omega];have hy:cs[c'-c]? =some cs[c'-c]:=bU (by omega);have hu:vs[c'-c]? =some vs[c'-c]:=bU (by omega);refine ⟨c'-c,_,_,rfl,by omega,hy,hu,?_,hu⟩;refine uL ?_ gu;unfold jt;rw[qJ _ _ _ _ (by omega),dA,dv];exact hy
 ·have jV: ¬(i*P.cellsOf e1+c≤i'*P.cellsOf e1+c'∧i'*P.cellsOf e1+c'<i*P.cellsOf e1+c+vs.length):=fun h=>mA (ais Kf p6 h.1 (by omega));have hg:(if i'*P.cellsOf e1+c'<i*P.cellsOf e1+c then Ca.toList[i'*P.cellsOf e1+c']? else if i'*P.cellsOf e1+c'<i*P.cellsOf e1+c+vs.length then vs[i'*P.cellsOf e1+c'-(i*P.cellsOf e1+c)]? else Ca.toList[i'*P.cellsOf e1+c']?)=Ca[i'*P.cellsOf e1+c']? :=by
   by_cases h1:i'*P.cellsOf e1+c'<i*P.cellsOf e1+c
   ·rw[aE h1];simp
   ·rw[aF h1,dA];simp
  by_cases hi:i'=i
  ·subst hi;rw[oN o3] at c7;cases c7;refine ⟨x0,hx,.inr ⟨?_,hg⟩⟩;have h1:(jt (parts P e1 x0) c cs)[c']? =some (g9 P t' (ca P e1 x0 c')):=by
    unfold jt;rw[qJ _ _ _ _ (by omega)];by_cases h1:c'<c
    ·rw[aE h1];exact qH gu
    ·rw[aF h1,dA];exact qH gu
   rw[uL h1 gu];obtain ⟨ya,_,_,_,_,uW⟩:=hR.cells;obtain ⟨v,_,ho⟩:=uW i' c' x0 t' hx gu Kf;exact ho.wD
  ·rw[uf (fun h=>hi h.symm)] at c7;exact ⟨x',c7,.inr ⟨rfl,hg⟩⟩
theorem aiu {w:World} {b1:Nat} {Ca Cb:Array Value} {T:TypeId} (hh:w.heap[b1]? =some (.cells Ca T (0,0))) (hs:Cb.size=Ca.size) (k:Nat):bsize (w.setRow b1 Cb) k=bsize w k:=by
 by_cases hk:k=b1
 ·subst hk;rw[lk (setRow_heap w k Ca Cb T (0,0) hh),lk hh,hs]
 ·simp only[bsize,setRow_other w b1 k Cb hk]
theorem Kg (S:ay P w I β hp B M w0) {t:TypeId} {v:Value} {id b b1 i c:Nat} {e0 e1:TypeId} {es l cs:List V} {vers vers':List Nat} {path:Path} {x0:V} (K:Path→Nat→TypeId→List V→Prop)
  (ae:hp id=some (.nest e0 es vers)) (hb:β id=some b) (ha:At P w b e0 es path b1 e1 l) (ht:oS P t=true) (hn:P.cellsOf t=v.cells.size)
  (hx:l[i]? =some x0) (hk:cs.length=v.cells.size) (p6:c+cs.length≤P.cellsOf e1) (h1: ∀u∈v.cells.toList,u.oneCell'=true)
  (dE: ∀(j:Nat) y u t',cs[j]? =some y→v.cells.toList[j]? =some u→(aT P e1)[c+j]? =some t'→oY P w I t' u y)
  (aiv: ∀(j:Nat) y u t' e3 jh b3 len cap,cs[j]? =some y→v.cells.toList[j]? =some u→(aT P e1)[c+j]? =some t'→P.underlying t'=some (.slice e3)→y= .list e3 jh→0<cap→
   u= .slice (some ⟨b3,0,none⟩) len cap→j=0∧∀r b' e' m,At P w b3 e3 jh r b' e' m→b'≠b1∧K r b' e' m)
  (hK: ∀r b' e' m,K r b' e' m→iG P w I b' e' m∧(M b'∨B≤b')∧(∀aH cz,hp aH=some cz→¬bd P w (β aH) cz b'))
  (td: ∀r1 r2 b' e1 m1 e2 m2,K r1 b' e1 m1→K r2 b' e2 m2→r1=r2)
  (rK:vers'.length=vers.length) (Ed: ∀k,bt vers k≤bt vers' k)
  (iY:(∀(j:Nat) t',j<cs.length→(aT P e1)[c+j]? =some t'→dV P t'=true)∨∀k,path.length≤k→k<vers.length→bt vers' k≠bt vers k):
  ∃w',(Instr.storeAt t (.pointer (some ⟨b1,i*P.cellsOf e1+c,none⟩)) v).run P w= .ok () w'∧
   Le P w I β hp w' I β (an hp id (some (.nest e0 (setRow P (l.set i (dw P e1 (jt (parts P e1 x0) c cs))) e0 es path) vers')))∧
   ay P w' I β (an hp id (some (.nest e0 (setRow P (l.set i (dw P e1 (jt (parts P e1 x0) c cs))) e0 es path) vers'))) B M w0:=by
 have hR:=S.rows ae hb ha;obtain ⟨Ca,T,hh,hL,hs,uW⟩:=hR.cells;have o3:i<l.length:=(cu.1 hx).1;have eu:cs.length=v.cells.toList.length:=by simpa using hk
 have OT:i*P.cellsOf e1+c+v.cells.size≤Ca.size:=by
  have:(i+1)*P.cellsOf e1≤l.length*P.cellsOf e1:=eZ _ o3;rw[kW] at this;omega
 have cI:=Ju (t:=t) (o:=i*P.cellsOf e1+c) (v:=v) ht hn hh OT h1;have hlen:(Ca.toList.take (i*P.cellsOf e1+c)++(v.cells.toList++Ca.toList.drop (i*P.cellsOf e1+c+v.cells.toList.length))).length=Ca.size:=by
  rw[Ep _ _ _ (by simpa using OT)];simp
 have cn:= @ait P w I b1 i c e1 T l cs x0 Ca v.cells.toList hR hh hs hx eu p6;have dd:=hR.nI;have hr:=S.h.rel id _ ae;rw[hb] at hr;cases hr with
 | iX au=>cases au
 | nest au cR lT=>
 cases au;have ng: ∀q e' m,At P w b1 e1 l q b1 e' m→q=[]:=by
  intro q e' m h;have:=lT _ _ _ _ _ _ _ (ha.app h) ha;simpa using this
 have uX:=setRow_heap w b1 Ca (Ca.toList.take (i*P.cellsOf e1+c)++(v.cells.toList++Ca.toList.drop (i*P.cellsOf e1+c+v.cells.toList.length))).toArray T (0,0) hh;have j6:=aiu hh (Cb:=(Ca.toList.take (i*P.cellsOf e1+c)++(v.cells.toList++Ca.toList.drop (i*P.cellsOf e1+c+v.cells.toList.length))).toArray) (by simpa using hlen);have te:=fun k (hk:k≠b1)=>setRow_other w b1 k (Ca.toList.take (i*P.cellsOf e1+c)++(v.cells.toList++Ca.toList.drop (i*P.cellsOf e1+c+v.cells.toList.length))).toArray hk;generalize Kh:(Ca.toList.take (i*P.cellsOf e1+c)++(v.cells.toList++Ca.toList.drop (i*P.cellsOf e1+c+v.cells.toList.length))).toArray=Cb at*
 generalize hL':l.set i (dw P e1 (jt (parts P e1 x0) c cs))=l' at*
 have nQ:l'.length=l.length:=by rw[←hL'];simp
 have wW: ∀k j,I k j→(w.setRow b1 Cb).cell? ⟨k,j,none⟩=w.cell? ⟨k,j,none⟩:=fun k j hk=>World.cell?_of_block (te k (fun e=>dd j (e▸hk)));refine ⟨_,cI,aiq S (i:=i) (c:=c) K ae hb ha nQ te j6 (by simp) ⟨rfl,rfl⟩ ?_ ?_ hK td rK Ed ?_⟩
 ·refine ⟨hR.ok,⟨Cb,T,uX,(show Cb.size=Ca.size by rw[←Kh];simpa using hlen)▸hL,by rw[nQ,←Kh];simp only[ry];omega,fun i' j x' t' k1 k2 k3=> ?_⟩,dd⟩;obtain ⟨x1,y1,y2⟩:=cn k1 k2;rcases y2 with ⟨jj,y,u,rfl,rfl,z1,z2,z3,z4⟩|⟨z3,z4⟩
  ·exact ⟨u,z4,by rw[z3];exact (dE jj y u t' z1 z2 k2).mono (fun _ _ h=>h) wW fun _ _ _ _ _=>j6 _⟩
  ·obtain ⟨v1,m1,m2⟩:=uW i' j x1 t' y1 k2 k3;exact ⟨v1,z4.trans m1,by rw[z3];exact m2.mono (fun _ _ h=>h) wW fun _ _ _ _ _=>j6 _⟩
 ·intro a r b' e' m h;obtain ⟨i',c'⟩:=a;cases h with
  | step k1 k2 k3 k4 k5 k6 k7 k8=>
   rw[uX] at k1;cases k1;obtain ⟨x1,y1,y2⟩:=cn k2 k3;rcases y2 with ⟨jj,y,u,rfl,rfl,z1,z2,z3,z4⟩|⟨z3,z4⟩
   ·rw[k7] at z4;obtain ⟨g1,g2⟩:=aiv jj y u _ _ _ _ _ _ z1 z2 k3 k4 (z3.symm.trans k5) k6 (dM z4).symm;subst g1;have lA:=k8.wv (w:=w) fun q2 b5 e5 j9 hq=>te b5 (g2 _ _ _ _ hq).1;exact ⟨(g2 _ _ _ _ lA).1,.inr ⟨rfl,(g2 _ _ _ _ lA).2⟩⟩
   ·rw[k5] at z3;rw[k7] at z4;have bH: ∀q2 b5 e5 j9,At P w _ _ _ q2 b5 e5 j9→b5≠b1:=fun q2 b5 e5 j9 hq yG=>by
     subst yG;have:=ng _ _ _ (.step hh y1 k3 k4 z3.symm k6 z4.symm hq);cases this
    have lA:=k8.wv (w:=w) fun q2 b5 e5 j9 hq=>te b5 (bH q2 b5 e5 j9 hq);exact ⟨bH _ _ _ _ lA,.inl (.step hh y1 k3 k4 z3.symm k6 z4.symm lA)⟩
 ·intro r i' c' t' v' ea l0 aY PI pb hc;rcases iY with iY|iY
  ·
   have fa: ∀{i' c' x1 t' e3},l[i']? =some x1→(aT P e1)[c']? =some t'→P.underlying t'=some (.slice e3)→∃x',l'[i']? =some x'∧ca P e1 x' c'=ca P e1 x1 c'∧Cb[i'*P.cellsOf e1+c']? =Ca[i'*P.cellsOf e1+c']? :=by
    intro i' c' x1 t' e3 g1 g2 g3;have aY:i'<l'.length:=by rw[nQ];exact (cu.1 g1).1
    have c7:=bU aY;obtain ⟨x2,y1,y2⟩:=cn c7 g2;rw[g1] at y1;cases y1;rcases y2 with ⟨jj,y,u,rfl,rfl,z1,z2,z3,z4⟩|⟨z3,z4⟩
    ·have:=iY jj t' (cu.1 z1).1 g2;unfold dV at this;rw[g3] at this;cases this
    ·exact ⟨_,c7,z3,z4⟩
   obtain ⟨b',e',m,C5,T,f,x,k1,k2,k3,k4,k5,k6⟩:=hc;refine ⟨l0,rfl,?_⟩;cases k1 with
   | here=>
    rw[hh] at k2;cases k2;obtain ⟨x',g1,g2,g3⟩:=fa k3 k4 pb;exact ⟨_,_,l',Cb,_,_,x',.here,uX,g1,k4,g2.trans k5,g3.trans k6⟩
   | step q1 q2 q3 q4 q5 q6 q7 q8=>
    have q1':=q1;rw[hh] at q1;cases q1;obtain ⟨x',g1,g2,g3⟩:=fa q2 q3 q4;have bH: ∀q2 b5 e5 j9,At P w _ _ _ q2 b5 e5 j9→b5≠b1:=fun q9 b5 e5 j9 hq yG=>by
     subst yG;have:=ng _ _ _ (.step hh q2 q3 q4 q5 q6 q7 hq);cases this
    have lA:=q8.mono (w':=w.setRow b1 Cb) fun q2 b5 e5 j9 hq=>te b5 (bH q2 b5 e5 j9 hq);exact ⟨b',e',m,C5,T,f,x,.step uX g1 q3 q4 (g2.trans q5) q6 (g3.trans q7) lA,(te _ (bH _ _ _ _ q8)).trans k2,k3,k4,k5,k6⟩
  ·exact absurd PI (iY _ (by simp) aY)
theorem E8: ∀(vs:List Nat) (d k:Nat),d≤k→k<vs.length→bt (raise d vs) k=bt vs k+1
 | [],d,k,_,h=>by simp at h
 | v::vs,0,0,_,_=>by simp[raise,bt]
 | v::vs,0,k+1,_,h=>by
  have:=E8 vs 0 k (mO _) (by simpa using h);simpa[raise,bt] using this
 | v::vs,d+1,0,h,_=>by omega
 | v::vs,d+1,k+1,h,h2=>by
  have:=E8 vs d k (by omega) (by simpa using h2);simpa[raise,bt] using this
theorem Ki: ∀(vs:List Nat) (d:Nat),(raise d vs).length=vs.length
 | [],0=>rfl
 | [],d+1=>rfl
 | v::vs,0=>by simp[raise]
 | v::vs,d+1=>by simp[raise,Ki vs d]
theorem E9: ∀(vs:List Nat) (d k:Nat),bt vs k≤bt (raise d vs) k
 | [],0,k=>by simp[raise,bt]
 | [],d+1,k=>by simp[raise,bt]
 | v::vs,0,0=>by simp[raise,bt]
 | v::vs,0,k+1=>by
  have:=E9 vs 0 k;simpa[raise,bt] using this
 | v::vs,d+1,0=>by simp[raise,bt]
 | v::vs,d+1,k+1=>by
  have:=E9 vs d k;simpa[raise,bt] using this
theorem aiw {t:TypeId} {v:Value} {x:V} (hv:aj P w I β hp v x) (h:fJ P t x=true) (hs:dV P t=true):Pure P w I t v x:=by
 unfold dV at hs;unfold fJ at h;cases hu:P.underlying t with
 | none=>rw[hu] at hs;cases hs
 | some d=>
  rw[hu] at hs h;cases d<;>simp only at hs<;>first|(cases hs;done)|skip
  all_goals cases x<;>simp only at h<;>first|(cases h;done)|skip
  ·rw[hv.mW];exact .bool hu
  ·simp only[jM] at h;subst h;rw[hv.fM];exact .int hu
  ·obtain ⟨s,rfl,hl⟩:=hv.oh;exact .str hu hl
def PJ (P:Program) (w:World) (I:Nat→Nat→Prop) (o:Option Nat) (blk:ah) (b2:Nat) (e2:TypeId) (bM:List V):Prop:=
 (∀r b' e' m,At P w b2 e2 bM r b' e' m→iG P w I b' e' m∧bd P w o blk b')∧∀r1 r2 b' e1 m1 Kj m2,At P w b2 e2 bM r1 b' e1 m1→At P w b2 e2 bM r2 b' Kj m2→r1=r2
theorem PK (S:ay P w I β hp B M w0) {aH b2:Nat} {e2:TypeId} {bM:List V} (ae:hp aH=some (.arr e2 bM false)) (hb:β aH=some b2) (hs:(flat P e2).all (dV P)=true):
  PJ P w I (β aH) (.arr e2 bM false) b2 e2 bM:=by
 have only: ∀r b' e' m,At P w b2 e2 bM r b' e' m→r=[]:=by
  intro r b' e' m h;cases h with
  | here=>rfl
  | step h1 h2 h3 h4 h5 h6 h7 h8=>
   rw[rM] at h3;have:=gZ.1 hs _ (mi h3);unfold dV at this;rw[h4] at this;cases this
 refine ⟨fun r b' e' m h=> ?_,fun r1 r2 b' e1 m1 Kj m2 h1 h2=>by rw[only _ _ _ _ h1,only _ _ _ _ h2]⟩;have:=only _ _ _ _ h;subst this;cases h;have hr:=S.h.rel aH _ ae;cases hr with
 | eA au=>rw[hb] at au;cases au
 | arr hL ao au hh aZ hf fE hx=>
  rw[hb] at au;cases au;refine ⟨⟨ao,⟨_,_,hh,hL,aZ,fun i j x t' k1 k2 k3=> ?_⟩,fE rfl⟩,.root (by simp) hb⟩;obtain ⟨v,m1,m2⟩:=hx i j x t' k1 k2 k3;refine ⟨v,m1,.gq ?_ m2⟩;rw[rM] at k2;exact gZ.1 hs _ (mi k2)
theorem aix (S:ay P w I β hp B M w0) {aH b2:Nat} {e2:TypeId} {bM:List V} {rI:List Nat} (ae:hp aH=some (.nest e2 bM rI)) (hb:β aH=some b2):
  PJ P w I (β aH) (.nest e2 bM rI) b2 e2 bM:=by
 have hr:=S.h.rel aH _ ae;cases hr with
 | iX au=>rw[hb] at au;cases au
 | nest au cR lT=>
  rw[hb] at au;cases au;exact ⟨fun r b' e' m h=>⟨cR _ _ _ _ h,.row hb h⟩,fun r1 r2 b' e1 m1 Kj m2 h1 h2=>lT _ _ _ _ _ _ _ h1 h2⟩
theorem Xx {c:Nat} {e1 e2 t':TypeId} (h:(((flat P e1).drop c).take 1).all (fun u=>match P.underlying u with|some (.slice e3)=>Nat.beq e2 e3|_=>false)=true) (ht:(aT P e1)[c]? =some t'):
  P.underlying t'=some (.slice e2):=by
 rw[rM] at ht;have hm:t'∈((flat P e1).drop c).take 1:=by
  refine mi (i:=0) ?_;rw[jr (by omega),qx];simpa using ht
 have:=gZ.1 h _ hm;split at this
 ·rename_i e3 hu;rw[aK] at this;rw[hu,this]
 ·cases this
theorem Xy (S:ay P w I β hp B M w0) {t:TypeId} {v:Value} {id aH b b1 i c:Nat} {e0 e1 e2:TypeId} {es l bM:List V} {vers:List Nat} {path:Path} {x0:V} {cz:ah}
  (ae:hp id=some (.nest e0 es vers)) (hb:β id=some b) (ha:At P w b e0 es path b1 e1 l) (ht:oS P t=true) (hn:P.cellsOf t=1)
  (hx:l[i]? =some x0) (p6:c+1≤P.cellsOf e1) (Fa:(((flat P e1).drop c).take 1).all (fun u=>match P.underlying u with|some (.slice e3)=>Nat.beq e2 e3|_=>false)=true)
  (di:hp aH=some cz) (bH:id≠aH)
  (hv:((∃a,v= .slice a 0 0)∧bM=[])∨∃b2 cap,v= .slice (some ⟨b2,0,none⟩) bM.length cap∧cap*P.cellsOf e2=bsize w b2∧bM.length≤cap∧cap≤maxLen∧PJ P w I (β aH) cz b2 e2 bM):
  qK P ((Instr.storeAt t (.pointer (some ⟨b1,i*P.cellsOf e1+c,none⟩)) v).run P w) w I β hp B M w0
   ⟨.undef,[(id,.nest e0 (setRow P (l.set i (dw P e1 (jt (parts P e1 x0) c [.list e2 bM]))) e0 es path) (raise path.length vers)),(aH,.dead)]⟩:=by
 obtain ⟨qP,S1⟩:=wB S di;have p7:an hp aH (some .dead) id=some (.nest e0 es vers):=by rw[cw _ _ bH];exact ae
 have uW:v.cells= #[v]:=by rcases hv with ⟨⟨_,rfl⟩,_⟩|⟨b2,cap,rfl,_⟩<;>rfl
 have p8:v.oneCell'=true:=by rcases hv with ⟨⟨_,rfl⟩,_⟩|⟨b2,cap,rfl,_⟩<;>rfl
 have free: ∀b',bd P w (β aH) cz b'→(M b'∨B≤b')∧∀dJ ku,an hp aH (some .dead) dJ=some ku→¬bd P w (β dJ) ku b':=by
  intro b' ho;refine ⟨S.h.own aH cz b' di ho,fun dJ ku h3 Xz=> ?_⟩;by_cases hi:dJ=aH
  ·subst hi;rw[bD] at h3;cases h3;exact Xz.alive rfl
  ·rw[cw _ _ hi] at h3;exact hi (S.h.inj _ _ _ _ b' h3 di Xz ho)
 have qQ: ∀b',bd P w (β aH) cz b'→b'≠b1:=by
  intro b' ho e;subst e;exact bH (S.h.inj _ _ _ _ b' ae di (.row hb ha) ho)
 have dE: ∀(j:Nat) y u t',[V.list e2 bM][j]? =some y→v.cells.toList[j]? =some u→(aT P e1)[c+j]? =some t'→j=0∧y= .list e2 bM∧u=v∧P.underlying t'=some (.slice e2):=by
  intro j y u t' k1 k2 k3;cases j with
  | succ j=>simp at k1
  | zero=>
   rw[uW] at k2;simp at k1 k2;exact ⟨rfl,k1.symm,k2.symm,Xx Fa k3⟩
 rcases hv with ⟨⟨a0,rfl⟩,rfl⟩|⟨b2,cap,rfl,v1,v2,v3,v4⟩
 ·obtain ⟨w',r1,r2,r3⟩:=Kg S1 (vers':=raise path.length vers) (fun _ _ _ _=>False) p7 hb ha ht (v:= .slice a0 0 0) hn hx (cs:=[.list e2 []]) rfl p6 (by rw[uW];simp[p8])
   (fun j y u t' k1 k2 k3=>by obtain ⟨rfl,rfl,rfl,k4⟩:=dE j y u t' k1 k2 k3;exact .emp k4)
   (fun j y u t' e3 jh b3 len cap k1 k2 k3 k4 k5 k6=>by obtain ⟨rfl,rfl,rfl,k7⟩:=dE j y u t' k1 k2 k3;intro k8;cases k8;exact absurd k6 (nE _))
   (fun _ _ _ _ h=>h.elim) (fun _ _ _ _ _ _ _ h=>h.elim) (Ki _ _) (E9 _ _) (.inr fun k h1 h2=>by rw[E8 _ _ _ h1 h2];omega)
  exact ⟨w',I,β,r1,qP.trans r2,r3,rfl⟩
 ·obtain ⟨w',r1,r2,r3⟩:=Kg S1 (vers':=raise path.length vers) (fun r b' e' m=>At P w b2 e2 bM r b' e' m) p7 hb ha ht (v:= .slice (some ⟨b2,0,none⟩) bM.length cap) hn hx (cs:=[.list e2 bM]) rfl p6 (by rw[uW];simp[p8])
   (fun j y u t' k1 k2 k3=>by
    obtain ⟨rfl,rfl,rfl,k4⟩:=dE j y u t' k1 k2 k3;rcases DE cap with h0|h0
    ·subst h0;obtain rfl:=vV.1 (vY.1 v2);exact .emp k4
    ·exact .row k4 h0 v1 v2 v3)
   (fun j y u t' e3 jh b3 len cap k1 k2 k3 k4 k5 k6 k8=>by
    obtain ⟨rfl,rfl,rfl,k7⟩:=dE j y u t' k1 k2 k3;cases k5;cases k8;exact ⟨rfl,fun r b' e' m h=>⟨qQ _ (v4.1 _ _ _ _ h).2,h⟩⟩)
   (fun r b' e' m h=>⟨(v4.1 _ _ _ _ h).1,free _ (v4.1 _ _ _ _ h).2⟩) (fun r1 r2 b' e1 m1 Kj m2 h1 h2=>v4.2 _ _ _ _ _ _ _ h1 h2) (Ki _ _) (E9 _ _) (.inr fun k h1 h2=>by rw[E8 _ _ _ h1 h2];omega)
  exact ⟨w',I,β,r1,qP.trans r2,r3,rfl⟩
theorem XA (S:ay P w I β hp B M w0) {t:TypeId} {v:Value} {x:V} {r:R} {rd:List Nat} {id b b1 i c:Nat} {e0 e1:TypeId} {es l:List V} {vers:List Nat} {path:Path}
  (ht:oS P t=true) (hn:x.cells.length=P.cellsOf t) (hv:aj P w I β hp v x) (ae:hp id=some (.nest e0 es vers)) (hb:β id=some b) (ha:At P w b e0 es path b1 e1 l)
  (h:(IT P t id e0 es vers path i c x).run C hp=some (r,rd)):qK P ((Instr.storeAt t (.pointer (some ⟨b1,i*P.cellsOf e1+c,none⟩)) v).run P w) w I β hp B M w0 r:=by
 unfold IT at h;obtain ⟨aY,h⟩:=az h;rw[mK] at aY;obtain ⟨e',vv,q1,q2,h⟩:=Bc h;obtain ⟨p1,p2⟩:=OG ha;rw[p1] at q1;cases q1;rw[p2] at q2;cases q2;simp only[V.toList] at h;obtain ⟨ao,h⟩:=az h;obtain ⟨x0,uY,h⟩:=nO h;obtain ⟨p6,h⟩:=az h;rw[fV] at p6;have slice: ∀e2,P.underlying t=some (.slice e2)→
   ((((Rd.ax ((((flat P e1).drop c).take x.cells.length).all fun u=>match P.underlying u with|some (.slice e3)=>Nat.beq e2 e3|_=>false) (
     match (generalizing:=false) x with
     | .nilS e3=> .ax (Nat.beq e2 e3) (.ret ⟨.undef,[(id,.nest e0 (setRow P (l.set i (dw P e1 (jt (parts P e1 x0) c [.list e2 []]))) e0 es path) (raise path.length vers))]⟩)
     | .whole e3 aH=> .get aH fun
      | some (.arr e4 bM false)=> .ax (Nat.beq e2 e3&&(Nat.beq e3 e4&&(!(Nat.beq id aH)&&(flat P e2).all (dV P))))
        (.ret ⟨.undef,[(id,.nest e0 (setRow P (l.set i (dw P e1 (jt (parts P e1 x0) c [.list e2 bM]))) e0 es path) (raise path.length vers)),(aH,.dead)]⟩)
      | some (.nest e4 bM _)=> .ax (Nat.beq e2 e3&&(Nat.beq e3 e4&& !(Nat.beq id aH)))
        (.ret ⟨.undef,[(id,.nest e0 (setRow P (l.set i (dw P e1 (jt (parts P e1 x0) c [.list e2 bM]))) e0 es path) (raise path.length vers)),(aH,.dead)]⟩)
      | _=> .fail
     | _=> .fail)):Rd R).run C hp))=some (r,rd)→
   qK P ((Instr.storeAt t (.pointer (some ⟨b1,i*P.cellsOf e1+c,none⟩)) v).run P w) w I β hp B M w0 r:=by
  intro e2 hu h;obtain ⟨Fa,h⟩:=az h;cases x with
  | nilS e3=>
   obtain ⟨hc,h⟩:=az h;obtain rfl:=aL h;rw[aK] at hc;subst hc;cases hv with
   | nilS=>
    obtain ⟨w',r1,r2,r3⟩:=Kg S (v:= .slice none 0 0) (vers':=raise path.length vers) (fun _ _ _ _=>False) ae hb ha ht hn.symm uY (cs:=[.list e2 []]) rfl p6 (by simp[Value.cells,Value.oneCell'])
     (fun j y u t' k1 k2 k3=>by
      cases j with
      | succ j=>simp at k1
      | zero=>
       simp[Value.cells] at k1 k2;subst k1;subst k2;exact .emp (Xx Fa k3))
     (fun j y u t' e3 jh b3 len cap k1 k2 k3 k4 k5 k6=>by
      cases j with
      | succ j=>simp at k1
      | zero=>simp[Value.cells] at k2;subst k2;intro k8;cases k8)
     (fun _ _ _ _ h=>h.elim) (fun _ _ _ _ _ _ _ h=>h.elim) (Ki _ _) (E9 _ _) (.inr fun k h1 h2=>by rw[E8 _ _ _ h1 h2];omega)
    exact ⟨w',I,β,r1,r2,r3,rfl⟩
  | whole e3 aH=>
   obtain ⟨l1,h⟩:=run_get h;cases di:hp aH with
   | none=>rw[di] at h;cases h
   | some cz=>
    rw[di] at h;cases cz with
    | dead=>cases h
    | var _=>cases h
    | map _ _=>cases h
    | out _ _ _ _=>cases h
    | arr e4 bM fz=>
     cases fz with
     | true=>cases h
     | false=>
      obtain ⟨hc,h⟩:=az h;obtain rfl:=aL h;simp only[aI,aK,mL] at hc;obtain ⟨rfl,rfl,bH,iY⟩:=hc;have PM:id≠aH:=fun e=>by rw[e,nF] at bH;cases bH
      refine Xy S ae hb ha ht hn.symm uY p6 Fa di PM ?_;cases hv with
      | dX bR=>rw[di] at bR;cases bR
      | dS bR fb=>rw[di] at bR;cases bR;exact .inl ⟨⟨_,rfl⟩,rfl⟩
      | whole bR fb bK hle rN=>
       rw[di] at bR;cases bR;exact .inr ⟨_,_,rfl,bK,hle,rN,PK S di fb iY⟩
      | ee bR=>rw[di] at bR;cases bR
      | fw bR=>rw[di] at bR;cases bR
      | dI bR=>rw[di] at bR;cases bR
    | nest e4 bM rI=>
     obtain ⟨hc,h⟩:=az h;obtain rfl:=aL h;simp only[aI,aK,mL] at hc;obtain ⟨rfl,rfl,bH⟩:=hc;have PM:id≠aH:=fun e=>by rw[e,nF] at bH;cases bH
     refine Xy S ae hb ha ht hn.symm uY p6 Fa di PM ?_;cases hv with
     | dX bR=>rw[di] at bR;cases bR
     | dS bR fb=>rw[di] at bR;cases bR
     | whole bR=>rw[di] at bR;cases bR
     | ee bR fb=>rw[di] at bR;cases bR;exact .inl ⟨⟨_,rfl⟩,rfl⟩
     | fw bR=>rw[di] at bR;cases bR
     | dI bR fb bK hle rN=>
      rw[di] at bR;cases bR;exact .inr ⟨_,_,rfl,bK,hle,rN,aix S di fb⟩
  | _=>cases h
 have gq:(((Rd.ax ((((flat P e1).drop c).take x.cells.length).all (dV P)&&uk P (((flat P e1).drop c).take x.cells.length) x.cells)
   (.ret ⟨.undef,[(id,.nest e0 (setRow P (l.set i (dw P e1 (jt (parts P e1 x0) c x.cells))) e0 es path) vers)]⟩)):Rd R).run C hp)=some (r,rd)→
   qK P ((Instr.storeAt t (.pointer (some ⟨b1,i*P.cellsOf e1+c,none⟩)) v).run P w) w I β hp B M w0 r:=by
  intro h;obtain ⟨hc,h⟩:=az h;obtain rfl:=aL h;simp only[aI] at hc;obtain ⟨hs,eW⟩:=hc;obtain ⟨tl,tg⟩:=yg eW;have PO: ∀(j:Nat) t',j<x.cells.length→(aT P e1)[c+j]? =some t'→(((flat P e1).drop c).take x.cells.length)[j]? =some t':=by
   intro j t' hj gu;rw[jr hj,qx];rw[rM] at gu;exact gu
  have sat: ∀(j:Nat) t',j<x.cells.length→(aT P e1)[c+j]? =some t'→dV P t'=true:=fun j t' hj gu=>
   gZ.1 hs _ (mi (PO j t' hj gu))
  have qR:v.cells.size=x.cells.length∧∀(j:Nat) u y,v.cells.toList[j]? =some u→x.cells[j]? =some y→aj P w I β hp u y:=by
   have base:(∀xs,x≠ .agg xs)→x.cells=[x]→v.cells.size=x.cells.length∧∀(j:Nat) u y,v.cells.toList[j]? =some u→x.cells[j]? =some y→aj P w I β hp u y:=by
    intro _ sZ;rw[sZ] at tl tg PO⊢;have h0:0<(((flat P e1).drop c).take [x].length).length:=by rw[tl];exact Nat.one_pos
    have eW:=tg 0 _ x (bU h0) rfl;obtain ⟨o1,o2⟩:=Wo hv eW;rw[o2];refine ⟨rfl,fun j u y hu hy=> ?_⟩;cases j with
    | zero=>simp at hu hy;subst hu;subst hy;exact hv
    | succ j=>simp at hy
   cases x with
   | agg xs=>
    obtain ⟨cs,rfl,h1,h2⟩:=hv.mX;exact ⟨h1,fun j u y a b=>h2 j u y (by simpa[Value.cells] using a) b⟩
   | _=>exact base (by simp) rfl
  have pure: ∀(j:Nat) u y t',v.cells.toList[j]? =some u→x.cells[j]? =some y→(aT P e1)[c+j]? =some t'→Pure P w I t' u y:=by
   intro j u y t' hu hy gu;have hj:=(cu.1 hy).1;exact aiw (qR.2 j u y hu hy) (tg j t' y (PO j t' hj gu) hy) (sat j t' hj gu)
  obtain ⟨w',r1,r2,r3⟩:=Kg S (v:=v) (vers':=vers) (fun _ _ _ _=>False) ae hb ha ht (by rw[qR.1];exact hn.symm) uY qR.1.symm p6 (fun u hu=>by
    obtain ⟨j,hj⟩:=sI hu;have dh:j<x.cells.length:=by rw[←qR.1];simpa using (cu.1 hj).1
    have sc:c+j<(aT P e1).length:=by rw[fx ao];omega
    have one: ∀t' y,Pure P w I t' u y→u.oneCell'=true:=by intro t' y h;cases h<;>rfl
    exact one _ _ (pure j u _ _ hj (bU dh) (bU sc)))
   (fun j y u t' k1 k2 k3=> .gq (sat j t' (cu.1 k1).1 k3) (pure j u y t' k2 k1 k3))
   (fun j y u t' e3 jh b3 len cap k1 k2 k3 k4 k5 k6=>by
    have:=sat j t' (cu.1 k1).1 k3;unfold dV at this;rw[k4] at this;cases this)
   (fun _ _ _ _ h=>h.elim) (fun _ _ _ _ _ _ _ h=>h.elim) rfl (fun _=>av _) (.inl fun j t' hj gu=>sat j t' hj gu)
  exact ⟨w',I,β,r1,r2,r3,rfl⟩
 cases hu:P.underlying t with
 | none=>rw[hu] at h;exact gq h
 | some d=>
  cases d with
  | slice e2=>rw[hu] at h;exact slice e2 hu h
  | _=>rw[hu] at h;exact gq h
end
section
variable {P:Program} {w w':World} {I I':Nat→Nat→Prop} {β β':Nat→Option Nat} {hp hp':Nat→Option ah} {C:af} {B:Nat} {M:Nat→Prop} {w0:Start}
theorem wX {e e1:TypeId} (h:rowOf P e=some e1):P.underlying e=some (.slice e1)∧bY P e=false∧cW P e=true∧cW P e1=true∧(flat P e1).all (dV P)=true:=by
 unfold rowOf at h;split at h
 ·rename_i e2 hu;cases hc:(!(bY P e)&&(cW P e&&(cW P e2&&(flat P e2).all (dV P)))) with
  | false=>rw[hc] at h;cases h
  | true=>
   rw[hc] at h;cases h;simp only[aI,mL] at hc;exact ⟨hu,hc.1,hc.2.1,hc.2.2.1,hc.2.2.2⟩
 ·cases h
theorem aiy {e1:TypeId} (ia:(flat P e1).all (dV P)=true) {w:World} {b1 b':Nat} {e':TypeId} {l m:List V} {r:Path} (h:At P w b1 e1 l r b' e' m):r=[]∧b'=b1∧e'=e1∧m=l:=by
 cases h with
 | here=>exact ⟨rfl,rfl,rfl,rfl⟩
 | step h1 h2 h3 h4 h5 h6 h7 h8=>
  rw[rM] at h3;have:=gZ.1 ia _ (mi h3);unfold dV at this;rw[h4] at this;cases this
def yH (P:Program) (w:World) (e1:TypeId) (K:Nat→List V→Prop) (v:Value) (l:List V):Prop:=
 (l=[]∧∃a,v= .slice a 0 0)∨
 (∃b1 cap,0<cap∧v= .slice (some ⟨b1,0,none⟩) l.length cap∧cap*P.cellsOf e1=bsize w b1∧l.length≤cap∧cap≤maxLen∧K b1 l)
theorem XB {b:Nat} {e e1:TypeId} {ys:List V} {vers:List Nat} {C':Array Value} (hr:rowOf P e=some e1)
  {T:TypeId} (uX:w'.heap[b]? =some (.cells C' T (0,0))) (hlen:ys.length≤C'.size) (dd: ∀j,¬I b j) (K:Nat→Nat→List V→Prop)
  (gF: ∀(i:Nat) x,ys[i]? =some x→∃l v,x= .list e1 l∧C'[i]? =some v∧yH P w e1 (K i) v l)
  (hK: ∀i b1 l,K i b1 l→b1≠b∧w'.heap[b1]? =w.heap[b1]? ∧iG P w I b1 e1 l)
  (td: ∀i j b1 l m,K i b1 l→K j b1 m→i=j):
  (∀b',bd P w' (some b) (.nest e ys vers) b'→b'=b∨∃i l,K i b' l)∧
  ∀{cB fZ},(∀b j,I b j→w'.cell? ⟨b,j,none⟩=w.cell? ⟨b,j,none⟩)→eV P w' I cB fZ (some b) (.nest e ys vers):=by
 obtain ⟨hu,cE,ao,ov,ia⟩:=wX hr;have hLs:rH P T e C'.size:=fun ew=>by unfold isByte at ew;rw[hu] at ew;cases ew
 have kI:aT P e=[e]:=by simp[aT,cE]
 have hk:P.cellsOf e=1:=by rw[←fx ao,kI];rfl
 have yI: ∀x j,ca P e x j=x:=fun x j=>by simp[ca,cE]
 have Fb: ∀q b2 e2 m,At P w' b e ys q b2 e2 m→(q=[]∧b2=b∧e2=e∧m=ys)∨∃i,q=[(i,0)]∧e2=e1∧K i b2 m:=by
  intro q b2 e2 m h;cases h with
  | here=>exact .inl ⟨rfl,rfl,rfl,rfl⟩
  | step h1 h2 h3 h4 h5 h6 h7 h8=>
   right;rw[uX] at h1;cases h1;rw[kI] at h3;obtain ⟨hc,ht⟩:=cu.1 h3;simp only[List.length_singleton,Nat.lt_one_iff] at hc;subst hc;simp only[List.getElem_singleton] at ht;subst ht;rw[hu] at h4;cases h4;rw[yI] at h5;subst h5;rw[hk,im,Nat.add_zero] at h7;obtain ⟨l,v,hl,hv,hh⟩:=gF _ _ h2;cases hl;rw[hv] at h7;cases h7;rcases hh with ⟨rfl,a',he⟩|⟨b1',PC,_,he,_,_,_,sb⟩
   ·cases he;exact absurd h6 (nE _)
   ·cases he;obtain ⟨rfl,rfl,rfl,rfl⟩:=aiy ia h8;exact ⟨_,rfl,rfl,sb⟩
 have ka: ∀i b1 l,K i b1 l→w'.heap[b1]? =w.heap[b1]? :=fun i b1 l h=>(hK i b1 l h).2.1;refine ⟨fun b' ho=> ?_,fun wV=> ?_⟩
 ·cases ho with
  | root _ h=>exact .inl (dM h).symm
  | row h ha=>
   cases h;rcases Fb _ _ _ _ ha with ⟨_,h,_,_⟩|⟨i,_,_,sb⟩
   ·exact .inl h
   ·exact .inr ⟨_,_,sb⟩
 ·refine .nest rfl (fun q b2 e2 m h=> ?_) (fun q1 q2 b2 e2 m2 e3 m3 h1 h2=> ?_)
  ·rcases Fb _ _ _ _ h with ⟨rfl,rfl,rfl,rfl⟩|⟨i,rfl,rfl,sb⟩
   ·refine ⟨ao,⟨C',_,uX,hLs,by rw[hk,im];exact hlen,fun i j x t' hx ht hj=> ?_⟩,dd⟩;rw[hk] at hj;have Fc:j=0:=by omega
    subst Fc;rw[kI] at ht;simp only[List.getElem?_cons_zero,e7] at ht;subst ht;obtain ⟨l,v,rfl,hv,hh⟩:=gF _ _ hx;refine ⟨v,by rw[hk,im,Nat.add_zero];exact hv,?_⟩;rw[yI];rcases hh with ⟨rfl,a,rfl⟩|⟨b1,cap,h0,rfl,hs,hl,hm,sb⟩
    ·exact .emp hu
    ·exact .row hu h0 (by rw[hs,Ee (ka _ _ _ sb)]) hl hm
   ·obtain ⟨_,_,⟨ok,⟨Ca,T2,c1,c0,c2,c3⟩,nI⟩⟩:=hK _ _ _ sb;refine ⟨ok,⟨Ca,T2,(ka _ _ _ sb).trans c1,c0,c2,fun i' j x t' hx ht hj=> ?_⟩,nI⟩;obtain ⟨v,m1,m2⟩:=c3 i' j x t' hx ht hj;have iY:dV P t'=true:=by
     rw[rM] at ht;exact gZ.1 ia _ (mi ht)
    refine ⟨v,m1,?_⟩;generalize ca P e2 x j=y at m2;cases m2 with
    | gq a p=>exact .gq a (p.mono (fun _ _ h=>h) wV)
    | emp a=>unfold dV at iY;rw[a] at iY;cases iY
    | row a _ _ _ _=>unfold dV at iY;rw[a] at iY;cases iY
  ·rcases Fb _ _ _ _ h1 with ⟨rfl,rfl,_,_⟩|⟨i,rfl,_,k1⟩
   ·rcases Fb _ _ _ _ h2 with ⟨rfl,_,_,_⟩|⟨j,rfl,_,k2⟩
    ·rfl
    ·exact absurd rfl (hK _ _ _ k2).1
   ·rcases Fb _ _ _ _ h2 with ⟨rfl,rfl,_,_⟩|⟨j,rfl,_,k2⟩
    ·exact absurd rfl (hK _ _ _ k1).1
    ·rw[td _ _ _ _ _ k1 k2]
theorem PQ (S:ay P w I β hp B M w0) {id b:Nat} {e e1:TypeId} {es:List V} {vers:List Nat} (hr:rowOf P e=some e1) (ae:hp id=some (.nest e es vers)) (hb:β id=some b):
  ∃Ca T,w.heap[b]? =some (.cells Ca T (0,0))∧es.length≤Ca.size∧(∀j,¬I b j)∧
   (∀(i:Nat) x,es[i]? =some x→∃l v,x= .list e1 l∧Ca[i]? =some v∧yH P w e1 (fun b1 l=>At P w b e es [(i,0)] b1 e1 l) v l)∧
   (∀i b1 l,At P w b e es [(i,0)] b1 e1 l→b1≠b∧b1<w.heap.size∧iG P w I b1 e1 l∧(M b1∨B≤b1)∧bd P w (β id) (.nest e es vers) b1)∧
   ∀i j b1 l m,At P w b e es [(i,0)] b1 e1 l→At P w b e es [(j,0)] b1 e1 m→i=j:=by
 obtain ⟨hu,cE,ao,ov,ia⟩:=wX hr;have kI:aT P e=[e]:=by simp[aT,cE]
 have hk:P.cellsOf e=1:=by rw[←fx ao,kI];rfl
 have yI: ∀x j,ca P e x j=x:=fun x j=>by simp[ca,cE]
 have cL:=S.h.rel id _ ae;rw[hb] at cL;cases cL with
 | iX h=>cases h
 | nest au cR lT=>
  cases au;obtain ⟨_,⟨Ca,T,c1,_,c2,c3⟩,nI⟩:=cR _ _ _ _ .here;rw[hk,im] at c2;refine ⟨Ca,T,c1,c2,nI,fun i x hx=> ?_,fun i b1 l ha=> ?_,fun i j b1 l m h1 h2=> ?_⟩
  ·obtain ⟨v,hv,ho⟩:=c3 i 0 x e hx (by rw[kI];rfl) (by rw[hk];exact Nat.one_pos);rw[hk,im,Nat.add_zero] at hv;rw[yI] at ho;cases ho with
   | gq a _=>unfold dV at a;rw[hu] at a;cases a
   | emp a=>rw[hu] at a;cases a;exact ⟨[],_,rfl,hv,.inl ⟨rfl,_,rfl⟩⟩
   | @row _ l b1 cap a h0 hs hl hm=>
    rw[hu] at a;cases a;refine ⟨l,_,rfl,hv,.inr ⟨b1,cap,h0,rfl,hs,hl,hm,?_⟩⟩;exact .step c1 hx (by rw[kI];rfl) hu (yI _ _) h0 (by rw[hk,im,Nat.add_zero];exact hv) .here
  ·have ho:bd P w (β id) (.nest e es vers) b1:= .row hb ha;refine ⟨fun h=> ?_,S.h.lt ae ho,cR _ _ _ _ ha,S.h.own id _ b1 ae ho,ho⟩;subst h;exact absurd (lT _ _ _ _ _ _ _ ha .here) (by simp)
  ·have:=lT _ _ _ _ _ _ _ h1 h2;simpa using this
theorem XC (l:List Nat) (k:Nat) (h:k<l.length):bt l k<bt (l.map (· +1)) k:=by
 induction l generalizing k with
 | nil=>simp at h
 | cons a l ih=>
  cases k with
  | zero=>simp[bt]
  | succ k=>simpa[bt] using ih k (by simpa using h)
theorem aiz {l:List Nat} {k:Nat} (h:l.length≤k):bt l k=0:=by
 induction l generalizing k with
 | nil=>rfl
 | cons a l ih=>
  cases k with
  | zero=>simp at h
  | succ k=>simpa[bt] using ih (by simpa using h)
theorem aiA (S:ay P w I β hp B M w0) {id nb b i:Nat} {e e1:TypeId} {es:List V} {y:V} {vers:List Nat} (hr:rowOf P e=some e1) (ae:hp id=some (.nest e es vers)) (hb:β id=some b) (hy:es[i]? =some y) (hn:hp nb=none):
  ∃tf,Le P w I β hp w I tf (an (an hp id (some (.out e es (vers.map (· +1)) i))) nb (some (.arr e1 y.toList false)))∧
   ay P w I tf (an (an hp id (some (.out e es (vers.map (· +1)) i))) nb (some (.arr e1 y.toList false))) B M w0∧
   ∀Ca v T f,w.heap[b]? =some (.cells Ca T f)→Ca[i]? =some v→aj P w I tf (an (an hp id (some (.out e es (vers.map (· +1)) i))) nb (some (.arr e1 y.toList false))) v (.whole e1 nb):=by
 obtain ⟨hu,cE,ao,ov,ia⟩:=wX hr;obtain ⟨Ca,T0,c1,c2,nI,rc,rk,ru⟩:=PQ S hr ae hb;have BJ:aT P e1=flat P e1:=rM e1;have kI:aT P e=[e]:=by simp[aT,cE]
 have yI: ∀x j,ca P e x j=x:=fun x j=>by simp[ca,cE]
 have hk:P.cellsOf e=1:=by rw[←fx ao,kI];rfl
 have pY:=(cu.1 hy).1;have Kk: ∀(j:Nat) l b1 cap,es[j]? =some (.list e1 l)→0<cap→Ca[j]? =some (.slice (some ⟨b1,0,none⟩) l.length cap)→At P w b e es [(j,0)] b1 e1 l:=
  fun j l b1 cap hx h0 hv=> .step c1 hx (by rw[kI];rfl) hu (yI _ _) h0 (by rw[hk,im,Nat.add_zero];exact hv) .here
 have bH:nb≠id:=fun h=>by rw[h,ae] at hn;cases hn
 have rQ: ∀b',bd P w (some b) (.out e es (vers.map (· +1)) i) b'→bd P w (some b) (.nest e es vers) b'∧∀l,¬At P w b e es [(i,0)] b' e1 l:=by
  intro b' ho;cases ho with
  | root _ h=>cases h;exact ⟨.root (by simp) rfl,fun l ha=>(rk _ _ _ ha).1 rfl⟩
  | @pR _ e2 _ l _ _ j b2 _ cap C' T f h1 h2 hj hx h0 hv=>
   cases h1;rw[c1] at h2;cases h2;obtain ⟨l',v',m1,m2,m3⟩:=rc _ _ hx;cases m1;have ha:=Kk _ _ _ _ hx h0 hv;exact ⟨.row rfl ha,fun l2 ha2=>hj (ru _ _ _ _ _ ha ha2)⟩
 have XD:es≠[]:=fun h=>by rw[h] at pY;simp at pY
 obtain ⟨l1,S1⟩:=OJ (w':=w) S (blk':= .out e es (vers.map (· +1)) i) ae (by simp)
  ⟨⟨rfl,rfl,by simp,fun k=>by
    by_cases hk:k<vers.length
    ·exact Nat.le_of_lt (XC _ _ hk)
    ·rw[aiz (by omega)];exact mO _⟩,fun k hk=>XC _ _ hk,XD⟩ hb nI (.inr (by simp)) (fun _ _=>rfl) rfl (av _) ⟨rfl,rfl⟩
  (fun b' h=> .inl (rQ b' h).1) (fun _=>by
   refine .out rfl hu (by rw[BJ];exact ia) c1 c2 pY nI (fun j x hj hx=> ?_) (fun j b1 cap l hj hx h0 hv=> ?_) (fun j k b1 c1 c2 l m hj hk hx hz h1 h2 hv mU=> ?_)
   ·obtain ⟨l,v,m1,m2,m3⟩:=rc j x hx;refine ⟨l,v,m1,m2,?_⟩;subst m1;rcases m3 with ⟨rfl,a,rfl⟩|⟨b1,cap,h0,rfl,q1,q2,q3,_⟩
    ·exact .emp hu
    ·exact .row hu h0 q1 q2 q3
   ·have:=rk _ _ _ (Kk _ _ _ _ hx h0 hv);exact ⟨this.1,this.2.2.1⟩
   ·exact ru _ _ _ _ _ (Kk _ _ _ _ hx h1 hv) (Kk _ _ _ _ hz h2 mU))
 have jk:an hp id (some (.out e es (vers.map (· +1)) i)) nb=none:=by rw[cw _ _ bH];exact hn
 obtain ⟨l,v,wY,hv,gF⟩:=rc i y hy;subst wY;rcases gF with ⟨rfl,a,rfl⟩|⟨b1,cap,h0,rfl,q1,q2,q3,ha⟩
 ·obtain ⟨a1,a2⟩:=Ei S1 (fz:=false) e1 jk;refine ⟨_,l1.trans a1,a2,fun ya v' T f h1 h2=> ?_⟩;rw[c1] at h1;cases h1;rw[hv] at h2;cases h2;exact .dS (bD _ _ _) (bD _ _ _)
 ·obtain ⟨d1,d2,⟨ok,⟨C1,_,e2,e0,e3,e4⟩,XE⟩,d4,d5⟩:=rk _ _ _ ha;obtain ⟨a1,a2⟩:=Bi S1 (w':=w) (blk:= .arr e1 l false) (b:=b1) jk
   (fun aq blk' h ho=>by
    by_cases hi:aq=id
    ·subst hi;rw[bD] at h;cases h;rw[hb] at ho;exact (rQ _ ho).2 _ ha
    ·rw[cw _ _ hi] at h;exact hi (S.h.inj _ _ _ _ _ h ae ho d5))
   (fun j h=>absurd h (XE j)) (fun _ _ _=>rfl) (av _) ⟨rfl,rfl⟩ d4 (fun b' h=>(dM (h.flat (by simp))).symm)
   (fun hle=> .arr e0 ov rfl e2 e3 (fun h=>by cases h) (fun _=>XE) fun i' j x t' k1 k2 k3=>by
    obtain ⟨u,m1,m2⟩:=e4 i' j x t' k1 k2 k3;have iY:dV P t'=true:=by
     rw[BJ] at k2;exact gZ.1 ia _ (mi k2)
    refine ⟨u,m1,?_⟩;generalize ca P e1 x j=z at m2⊢;cases m2 with
    | gq _ p=>exact p
    | emp a=>unfold dV at iY;rw[a] at iY;cases iY
    | row a _ _ _ _=>unfold dV at iY;rw[a] at iY;cases iY)
  refine ⟨_,l1.trans a1,a2,fun ya v' T f h1 h2=> ?_⟩;rw[c1] at h1;cases h1;rw[hv] at h2;cases h2;exact .whole (es:=l) (bD _ _ _) (bD _ _ _) q1 q2 q3
theorem aiB (S:ay P w I β hp B M w0) {t e e1:TypeId} {v:Value} {id aH b i:Nat} {es bM:List V} {vers:List Nat} (hr:rowOf P e=some e1) (ae:hp id=some (.out e es vers i)) (hb:β id=some b)
  (ht:oS P t=true) (hn:P.cellsOf t=1) (di:hp aH=some (.arr e1 bM false)) (bH:id≠aH) (hv:aj P w I β hp v (.whole e1 aH)):
  qK P ((Instr.storeAt t (.pointer (some ⟨b,i*P.cellsOf e+0,none⟩)) v).run P w) w I β hp B M w0 ⟨.undef,[(id,.nest e (es.set i (.list e1 bM)) vers),(aH,.dead)]⟩:=by
 obtain ⟨hu,cE,ao,ov,ia⟩:=wX hr;have kI:aT P e=[e]:=by simp[aT,cE]
 have hk:P.cellsOf e=1:=by rw[←fx ao,kI];rfl
 obtain ⟨qP,S1⟩:=wB S di;have p7:an hp aH (some .dead) id=some (.out e es vers i):=by rw[cw _ _ bH];exact ae
 have cL:=S.h.rel id _ ae;rw[hb] at cL;cases cL with
 | out au lC axv hh hs hi hI hc cR lT=>
 cases au;rw[hu] at lC;cases lC;rename_i Ca;have gF: ∃K:Nat→List V→Prop,yH P w e1 K v bM∧(∀b1 l,K b1 l→b1≠b∧iG P w I b1 e1 l∧(M b1∨B≤b1)∧(∀aq blk',an hp aH (some .dead) aq=some blk'→¬bd P w (β aq) blk' b1))∧v.cells= #[v]∧v.oneCell'=true:=by
  cases hv with
  | dX hd=>rw[di] at hd;cases hd
  | dI hd=>rw[di] at hd;cases hd
  | ee hd=>rw[di] at hd;cases hd
  | fw hd=>rw[di] at hd;cases hd
  | @dS _ _ _ a0 hd hb=>rw[di] at hd;cases hd;exact ⟨fun _ _=>False,.inl ⟨rfl,a0,rfl⟩,fun _ _ h=>h.elim,rfl,rfl⟩
  | @whole _ _ _ _ b2 cap hd fb aZ bK hm=>
   rw[di] at hd;cases hd;obtain ⟨m1,m2⟩:=PK S di fb ia;obtain ⟨m3,m4⟩:=m1 _ _ _ _ .here;rcases DE cap with h0|h0
   ·subst h0;obtain rfl:=vV.1 (vY.1 bK);exact ⟨fun _ _=>False,.inl ⟨rfl,_,rfl⟩,fun _ _ h=>h.elim,rfl,rfl⟩
   ·refine ⟨fun b1 l=>b1=b2∧l=bM,.inr ⟨b2,cap,h0,rfl,aZ,bK,hm,rfl,rfl⟩,fun b1 l h=> ?_,rfl,rfl⟩;obtain ⟨rfl,rfl⟩:=h;refine ⟨fun h=> ?_,m3,S.h.own aH _ _ di m4,fun aq blk' h' ho=> ?_⟩
    ·subst h;exact bH (S.h.inj _ _ _ _ _ ae di (.root (by simp) hb) m4)
    ·by_cases q:aq=aH
     ·subst q;rw[bD] at h';cases h';exact absurd rfl ho.alive
     ·rw[cw _ _ q] at h';exact q (S.h.inj aq aH _ _ _ h' di ho m4)
 obtain ⟨K,k1,k2,k3,k4⟩:=gF;have pY:i<Ca.size:=by omega
 have cI:=Ju (t:=t) (o:=i*P.cellsOf e+0) (v:=v) ht (by rw[hn,k3];rfl) hh (by rw[k3,hk];simp;omega) (by rw[k3];simp[k4]);rw[k3,hk,im,Nat.add_zero] at cI;have hC:(Ca.toList.take i++(#[v].toList++Ca.toList.drop (i+ #[v].toList.length))).toArray.size=Ca.size:=by simp;omega
 have ky: ∀j,(Ca.toList.take i++(#[v].toList++Ca.toList.drop (i+ #[v].toList.length))).toArray[j]? =if j=i then some v else Ca[j]? :=by
  intro j;rw[oM,qJ _ _ _ _ (by simp;omega)];simp only[List.length_singleton,rz];by_cases h1:j<i
  ·rw[aE h1,aF (by omega)]
  ·rw[aF h1];by_cases h2:j=i
   ·subst h2;simp
   ·rw[aF (by omega),aF h2]
 rw[hk,im,Nat.add_zero];generalize hCb:(Ca.toList.take i++(#[v].toList++Ca.toList.drop (i+ #[v].toList.length))).toArray=Cb at cI hC ky;have dE:=setRow_heap w b Ca Cb _ (0,0) hh;have te:=fun k (hk:k≠b)=>setRow_other w b k Cb hk;obtain ⟨p1,p2⟩:=XB (w:=w) (w':=w.setRow b Cb) (I:=I) (vers:=vers) (ys:=es.set i (.list e1 bM)) hr dE (by simp;omega) hI
  (fun j b1 l=>(j=i∧K b1 l)∨(j≠i∧∃cap,es[j]? =some (.list e1 l)∧0<cap∧Ca[j]? =some (.slice (some ⟨b1,0,none⟩) l.length cap)))
  (fun j x hx=>by
   rw[DF] at hx;rw[ky];by_cases hj:i=j
   ·subst hj;simp only[rv,aE hi,e7] at hx;subst hx;refine ⟨bM,v,rfl,aE rfl,?_⟩;rcases k1 with h|⟨b1,cap,h0,h1,h2,h3,h4,h5⟩
    ·exact .inl h
    ·exact .inr ⟨b1,cap,h0,h1,h2,h3,h4,.inl ⟨rfl,h5⟩⟩
   ·rw[aF hj] at hx;rw[aF (fun h=>hj h.symm)];obtain ⟨l,u,m1,m2,m3⟩:=hc j x (fun h=>hj h.symm) hx;subst m1;refine ⟨l,u,rfl,m2,?_⟩;cases m3 with
    | gq a _=>unfold dV at a;rw[hu] at a;cases a
    | emp a=>exact .inl ⟨rfl,_,rfl⟩
    | @row _ _ b1 cap a h0 c d f=>exact .inr ⟨b1,cap,h0,rfl,by rw[hu] at a;cases a;exact c,d,f,.inr ⟨fun h=>hj h.symm,cap,hx,h0,m2⟩⟩)
  (fun j b1 l h=>by
   rcases h with ⟨_,h⟩|⟨hj,cap,hx,h0,hv⟩
   ·exact ⟨(k2 _ _ h).1,te _ (k2 _ _ h).1,(k2 _ _ h).2.1⟩
   ·obtain ⟨q1,q2⟩:=cR _ _ _ _ hj hx h0 hv;exact ⟨q1,te _ q1,q2⟩)
  (fun j j' b1 l m h1 h2=>by
   have no: ∀{j l m},K b1 l→(j≠i∧∃cap,es[j]? =some (.list e1 m)∧0<cap∧Ca[j]? =some (.slice (some ⟨b1,0,none⟩) m.length cap))→False:=fun h ⟨hj,cap,hx,h0,hv⟩=>
    (k2 _ _ h).2.2.2 _ _ p7 (by rw[hb];exact .pR rfl hh hj hx h0 hv)
   rcases h1 with ⟨h,h1⟩|h1
   ·rcases h2 with ⟨h',h2⟩|h2
    ·omega
    ·exact (no h1 h2).elim
   ·rcases h2 with ⟨_,h2⟩|h2
    ·exact (no h2 h1).elim
    ·obtain ⟨hj,cap,hx,h0,hv⟩:=h1;obtain ⟨dZ,PC,c7,PR,uZ⟩:=h2;exact lT _ _ _ _ _ _ _ hj dZ hx c7 h0 PR hv uZ)
 obtain ⟨a1,a2⟩:=OJ S1 (w':=w.setRow b Cb) (blk':= .nest e (es.set i (.list e1 bM)) vers) p7 (by simp) ⟨rfl,by simp,rfl,fun _=>av _⟩ hb hI (.inl (by simp)) te (by rw[lk dE,lk hh,hC]) (by simp) ⟨rfl,rfl⟩
  (fun b' ho=>by
   rcases p1 b' ho with rfl|⟨j,l,⟨_,h⟩|⟨hj,cap,hx,h0,hv⟩⟩
   ·exact .inl (.root (by simp) rfl)
   ·exact .inr ⟨(k2 _ _ h).2.2.1,(k2 _ _ h).2.2.2⟩
   ·exact .inl (.pR rfl hh hj hx h0 hv))
  (fun hle=>p2 hle.cH)
 exact ⟨_,I,β,cI,qP.trans a1,a2,rfl⟩
end
section
variable {P:Program} {w w':World} {I I':Nat→Nat→Prop} {β β':Nat→Option Nat} {hp hp':Nat→Option ah} {C:af} {B:Nat} {M:Nat→Prop} {w0:Start}
theorem aiC (S:ay P w I β hp B M w0) {t:TypeId} {a v:Value} {xa x:V} {r:R} {rd:List Nat} (ha:aj P w I β hp a xa) (hv:aj P w I β hp v x)
  (h:(N8 P t xa x).run C hp=some (r,rd)):qK P ((Instr.storeAt t a v).run P w) w I β hp B M w0 r:=by
 unfold N8 at h;obtain ⟨h0,h⟩:=az h;simp only[aI,aK] at h0;obtain ⟨ht,hn⟩:=h0;cases xa with
 | ptr id i c=>
  obtain ⟨l,h⟩:=run_get h;cases ae:hp id with
  | none=>rw[ae] at h;cases h
  | some blk=>
   rw[ae] at h;cases blk with
   | dead=>cases h
   | var T0 cs=>
    obtain ⟨XF,h⟩:=az h;have qL:sL P T0=true→0<c:=fun dp=>by
     rw[dp] at XF;simpa using XF
    obtain ⟨b,hb,rfl⟩:=ha.iZ ae (by simp);simp only[ah.sz,Nat.mul_zero,dt];cases Eo:IS P t cs with
    | true=>
     dsimp only at h;rw[Eo] at h;replace h:=VY h;obtain ⟨mz,h⟩:=az h;obtain ⟨e,Kl,uI,Bo,Wl⟩:=Wa mz;rw[Nat.sub_zero] at Bo;unfold VJ at h;rw[uI] at h;simp only at h;obtain ⟨⟨y1,u1⟩,l3,l4,hq,h⟩:=nP h;obtain ⟨q1,q2⟩:=Eg S.h.rel hq hv;cases y1 with
     | list e' es=>
      simp only at h;obtain ⟨hc,h⟩:=az h;obtain rfl:=aL h;simp only[aI,mL,aK,mK] at hc;obtain ⟨rfl,rfl,eQ,yJ⟩:=hc;obtain ⟨qP,S1⟩:=Be S q1;have p7:b9 hp u1 id=some (.var T0 cs):=by
       rcases wz (hp:=hp) (l:=u1) (id:=id) with h|⟨b',hm,_⟩
       ·exact h.trans ae
       ·exfalso;have sX:iE (u1.map (·.1)) id=true:=yh (iQ.2 ⟨_,hm,rfl⟩);rw[sX] at yJ;cases yJ
      have eD:Plain P w (jT P w I β hp u1) v (.list e es):=q2 (jT P w I β hp u1) (fun _ _ h=> .inl h) (fun p hp b j h=> .inr ⟨p,hp,h⟩);have XG:c<cs.length:=(cu.1 Bo).1;have rK:aj P w (jT P w I β hp u1) β (b9 hp u1) v (.nl e es):= .nl eD fun e0=>by rw[e0] at eQ;simp at eQ
      have u4:v.cells= #[v]:=by
       cases rK with
       | nl q=>cases q<;>rfl
      have kJ:x.cells.length=1:=by
       cases x<;>simp only[DP] at hq<;>first|rfl|(cases hq;done)
      have key:qK P ((Instr.storeAt t (.pointer (some ⟨b,c,none⟩)) v).run P w) w (jT P w I β hp u1) β (b9 hp u1) B M w0 ⟨.undef,[(id,.var T0 (qz cs 0 c es))]⟩:=by
       refine OS (x:=V.nl e es) S1 p7 hb ht (by rw[←hn,kJ];rfl) (by rw[u4];rfl) qL (fun j u y hu hy=> ?_) (by rw[u4];simp;cases rK with|nl q=>cases q<;>rfl) (by show c+1≤_;omega) (Wb _ _ _ _) (fun j y hy hj u hu=> ?_) (fun j y hy hj u hu=> ?_)
       ·rw[u4] at hu;cases j with
        | zero=>simp at hu;subst hu;cases hy;exact rK
        | succ j=>cases hy
       ·refine hu y ?_;rw[←hy];exact (Wc (by have:j<c∨c+1≤j:=hj;omega)).symm
       ·have Fc:j=0:=by have:j<1:=hj;omega
        subst Fc;have:=Wd (xs:=es) (j0:=0) (c:=c) (by rw[Nat.sub_zero];exact Bo) (mO _);rw[Nat.sub_zero] at this;rw[Nat.add_zero,this] at hy;cases hy;exact hu _ rfl
      obtain ⟨w',I2,cB,z1,z2,z3,z4⟩:=key;exact ⟨w',I2,cB,z1,qP.trans z2,z3,z4⟩
     | _=>cases h
    | false=>
    dsimp only at h;rw[Eo] at h;replace h:=VZ h;cases uJ:(AW P t cs&&fJ P t x) with
    | true=>
     rw[uJ] at h;simp only[cond_true] at h;obtain ⟨hc,h⟩:=az h;obtain rfl:=aL h;simp only[aI,mK] at hc uJ;obtain ⟨o1,o2⟩:=Wo hv uJ.2;have sZ:=af9 uJ.2;refine OS S ae hb ht hn (by rw[o2,sZ];rfl) qL (fun j u y hu hy=> ?_) (by rw[o2];simp[o1]) (by rw[sZ];simp;omega) (Wn _ _ _ _) (fun j y hy hj u hu=> ?_) (fun j y hy hj u hu=> ?_)
     ·rw[o2] at hu;rw[sZ] at hy;cases j with
      | zero=>simp at hu hy;subst hu;subst hy;exact hv
      | succ j=>simp at hy
     ·rw[OR] at hy;cases BK:cs[j]? with
      | none=>rw[BK] at hy;cases hy
      | some y0=>
       rw[BK] at hy;simp only[Option.map_some,e7] at hy;rw[sZ] at hj;simp only[List.length_singleton] at hj;have bH:Nat.beq c (0+j)=false:=by
        cases hq:Nat.beq c (0+j) with
        | false=>rfl
        | true=>rw[aK] at hq;omega
       rw[bH] at hy;have:=V6 (c:=false) hv (hu y0 BK);rw[←hy];simpa using this
     ·rw[sZ] at hj hu;have Fc:j=0:=by simpa using hj
      subst Fc;rw[OR] at hy;cases BK:cs[c+0]? with
      | none=>rw[BK] at hy;cases hy
      | some y0=>
       rw[BK] at hy;simp only[Option.map_some,e7] at hy;have heq:Nat.beq c (0+(c+0))=true:=by rw[aK];omega
       rw[heq] at hy;have h2:aj P w I β hp u x:=hu x rfl;have:wc true x y0=x:=aga x y0;rw[←hy,this];exact h2
    | false=>
     rw[uJ] at h;simp only[cond_false] at h;obtain ⟨hc,h⟩:=az h;simp only[aI,fV] at hc;obtain ⟨e1,e2⟩:=OQ hv h;obtain ⟨h1,l2,h⟩:=Jt h (vs:=v.cells.toList) (by simpa using e1) (fun j u y a b=>e2 j u y (by simpa using a) b);obtain rfl:=aL h;refine OS S ae hb ht hn e1 qL e2 h1 hc.2 (Ep _ _ _ hc.2) (fun j y hy hj u hu=> ?_) (fun j y hy hj u hu=> ?_)
     ·unfold jt at hy;rw[qJ _ _ _ _ hc.2] at hy;rcases hj with hj|hj
      ·rw[aE hj] at hy;exact hu y hy
      ·rw[dA,dA] at hy;exact hu y hy
     ·unfold jt at hy;rw[qJ _ _ _ _ hc.2,dA,dv] at hy;rw[show c+j-c=j by omega] at hy;exact hu y hy
   | arr e es fz=>
    cases fz with
    | true=>cases h
    | false=>
    obtain ⟨b,hb,rfl⟩:=ha.iZ ae (by simp);obtain ⟨ao,h⟩:=az h;obtain ⟨⟨ys,fr⟩,l1,l2,bE,h⟩:=nP h;obtain ⟨hc,h⟩:=az h;obtain ⟨x0,uY,h⟩:=nO h;obtain rfl:=aL h;simp only[aI,mL,fV] at hc;obtain ⟨gr,hc3,fY⟩:=hc;have qR:v.cells.size=x.cells.length∧∀(j:Nat) u y,v.cells.toList[j]? =some u→x.cells[j]? =some y→aj P w I β hp u y:=by
     cases x with
     | agg xs=>
      obtain ⟨cs,rfl,h1,h2⟩:=hv.mX;exact ⟨h1,fun j u y a b=>h2 j u y (by simpa[Value.cells] using a) b⟩
     | _=>
      simp only[V.cells] at bE fY⊢;simp only[wb] at bE;obtain ⟨⟨y1,u1⟩,l3,l4,hq,bE⟩:=nP bE;obtain ⟨q1,q2⟩:=Eg S.h.rel hq hv;obtain ⟨⟨y2,u2⟩,l5,l6,u5,bE⟩:=nP bE;cases u5;have:=aL bE;cases this;obtain ⟨tl,tg⟩:=yg fY;have eW:=tg 0 _ y1 (bU (by rw[tl];exact Nat.one_pos)) rfl;have eD:=q2 (jT P w I β hp u1) (fun _ _ h=> .inl h) (fun p hp b j h=> .inr ⟨p,hp,h⟩);have ho:=eD.pure eW;have XH:v.cells= #[v]:=by cases ho<;>rfl
      rw[XH];refine ⟨rfl,fun j u y hu hy=> ?_⟩;cases j with
      | zero=>simp at hu hy;subst hu;subst hy;exact hv
      | succ j=>simp at hy
    obtain ⟨k1,k2,k3⟩:=OH S.h.rel bE (vs:=v.cells.toList) (by simpa using qR.1) qR.2;obtain ⟨qP,S1⟩:=Be S k2;have p7:b9 hp fr id=some (.arr e es false):=by
     rcases wz (hp:=hp) (l:=fr) (id:=id) with h|⟨b',hm,_⟩
     ·exact h.trans ae
     ·exfalso;have yJ:iE (fr.map (·.1)) id=true:=yh (iQ.2 ⟨_,hm,rfl⟩);rw[yJ] at gr;cases gr
    have XI:=k3 (jT P w I β hp fr) (fun _ _ h=> .inl h) (fun p hp b j h=> .inr ⟨p,hp,h⟩);obtain ⟨tl,tg⟩:=yg fY;have ia:=(og ao).1;have wY:ys.length=v.cells.size:=by rw[k1,qR.1]
    have hcn:c+v.cells.size≤P.cellsOf e:=by rw[qR.1];exact hc3
    have hr:=S1.h.rel id _ p7;cases hr with
    | eA au=>simp at uY
    | @arr _ _ _ _ b' Ca hL OO au hh hs hf fE hx=>
     rw[hb] at au;cases au;have o3:i<es.length:=(cu.1 uY).1;have hbound:i*P.cellsOf e+P.cellsOf e≤Ca.size:=by
      have:(i+1)*P.cellsOf e≤es.length*P.cellsOf e:=eZ _ o3;rw[kW] at this;omega
     simp only[ah.sz];have wE:i*P.cellsOf e+c+v.cells.size≤Ca.size:=by omega
     have dd: ∀j,¬jT P w I β hp fr b j:=fE rfl;have h1: ∀u∈v.cells.toList,u.oneCell'=true:=by
      intro u hu;obtain ⟨j,hj⟩:=sI hu;have dh:j<ys.length:=by rw[wY];simpa using (cu.1 hj).1
      have sc:j<(((flat P e).drop c).take x.cells.length).length:=by rw[tl];exact dh
      exact (XI j u ys[j] hj (bU dh)).one (tg j _ ys[j] (bU sc) (bU dh))
     have cI:=Ju (t:=t) (o:=i*P.cellsOf e+c) (v:=v) ht (by rw[qR.1];exact hn.symm) hh wE h1;have hlen:(Ca.toList.take (i*P.cellsOf e+c)++(v.cells.toList++Ca.toList.drop (i*P.cellsOf e+c+v.cells.toList.length))).length=Ca.size:=by
      rw[Ep _ _ _ (by simpa using wE)];simp
     have eD:(parts P e x0).length=P.cellsOf e:=by rw[Bm];exact fx ao
     have Er:=Jv S1 (blk':= .arr e (es.set i (dw P e (jt (parts P e x0) c ys))) false)
      (Cb:=(Ca.toList.take (i*P.cellsOf e+c)++(v.cells.toList++Ca.toList.drop (i*P.cellsOf e+c+v.cells.toList.length))).toArray) p7 (by simp) ⟨rfl,by simp⟩ hb dd (by simp) hh (by simpa using hlen)
      (fun hle dE=> .arr (by rw[ry,hlen];exact hL) ao rfl dE (by simp only[ry,od];omega) (fun h=>by cases h) (fun _=>dd) fun i' j z t' hz sc hj=>by
       simp only[oM];rw[qJ _ _ _ _ (by simpa using wE)];simp only[Array.length_toList];rw[DF] at hz;by_cases nh:i=i'
       ·subst nh;rw[aE rfl,aE o3] at hz;cases hz;have Km:j<(parts P e x0).length:=by omega
        have yK:(jt (parts P e x0) c ys)[j]? =if j<c then (parts P e x0)[j]? else if j<c+ys.length then ys[j-c]? else (parts P e x0)[j]? :=by
         unfold jt;exact qJ _ _ _ _ (by omega)
        by_cases uK:j<c
        ·rw[dv];rw[aE uK] at yK;obtain ⟨u,t2,a1,a2,a3⟩:=Jr hx ao uY (bU Km);rw[sc] at a1;cases a1;refine ⟨u,by simpa using a2,?_⟩;rw[uL (yK.trans (bU Km)) sc];exact a3.mono hle.ej hle.cH
        ·rw[aF uK] at yK;by_cases dN:j<c+ys.length
         ·rw[aE dN] at yK;rw[dA,dv];have th:j-c<ys.length:=by omega
          have XJ:j-c<v.cells.toList.length:=by simp;omega
          have axw:j-c<v.cells.size:=by omega
          refine ⟨v.cells.toList[j-c],?_,?_⟩
          ·rw[show i*P.cellsOf e+j-(i*P.cellsOf e+c)=j-c by omega];exact bU XJ
          ·rw[uL (yK.trans (bU th)) sc];have hft:(((flat P e).drop c).take x.cells.length)[j-c]? =some t':=by
            rw[jr (by omega),qx,show c+(j-c)=j by omega,←rM];exact sc
           exact ((XI (j-c) _ ys[j-c] (bU XJ) (bU th)).pure (tg (j-c) t' ys[j-c] hft (bU th))).mono hle.ej hle.cH
         ·rw[aF dN] at yK;rw[dA,dA];obtain ⟨u,t2,a1,a2,a3⟩:=Jr hx ao uY (bU Km);rw[sc] at a1;cases a1;refine ⟨u,by simpa using a2,?_⟩;rw[uL (yK.trans (bU Km)) sc];exact a3.mono hle.ej hle.cH
       ·rw[aF nh] at hz;obtain ⟨u,a2,a3⟩:=hx i' j z t' hz sc hj;have bH:i'*P.cellsOf e+j<i*P.cellsOf e+c∨i*P.cellsOf e+c+v.cells.size≤i'*P.cellsOf e+j:=by
         rcases js i' i with aY|p9
         ·left;have:(i'+1)*P.cellsOf e≤i*P.cellsOf e:=eZ _ aY;rw[kW] at this;omega
         ·right;have:(i+1)*P.cellsOf e≤i'*P.cellsOf e:=eZ _ (by omega);rw[kW] at this;omega
        refine ⟨u,?_,a3.mono hle.ej hle.cH⟩;rcases bH with bH|bH
        ·rw[aE bH];simpa using a2
        ·rw[dA,dA];simpa using a2)
     exact ⟨_,_,_,cI,qP.trans Er.1,Er.2,rfl⟩
   | map _ _=>cases h
   | out e es vers j=>
    obtain ⟨b,hb,rfl⟩:=ha.iZ ae (by simp);unfold VN at h;obtain ⟨hc,h5⟩:=az h;clear h;simp only[aI,aK] at hc;obtain ⟨rfl,rfl⟩:=hc;cases hr:rowOf P e with
    | none=>simp only[hr] at h5;cases h5
    | some e1=>
     simp only[hr] at h5;cases x with
     | whole e3 aH=>
      obtain ⟨l1,h6⟩:=run_get h5;cases di:hp aH with
      | none=>rw[di] at h6;cases h6
      | some cz=>
       rw[di] at h6;cases cz with
       | arr e4 bM fz=>
        cases fz with
        | true=>cases h6
        | false=>
         obtain ⟨hc,h7⟩:=az h6;obtain rfl:=aL h7;simp only[aI,aK,mL] at hc;obtain ⟨rfl,rfl,bH⟩:=hc;exact aiB S hr ae hb ht hn.symm di (fun e=>by rw[e,nF] at bH;cases bH) hv
       | _=>cases h6
     | _=>cases h5
   | nest e es vers=>
    obtain ⟨b,hb,rfl⟩:=ha.iZ ae (by simp);exact XA S ht hn hv ae hb .here h
 | dD id ver path i c=>
  obtain ⟨e0,es,vers,l,ae,h1,h2,h3,h⟩:=qG h;obtain ⟨b,b1,e1,l1,hb,fL,rfl⟩:=ha.V0 ae h1 h2 h3;exact XA S ht hn hv ae hb fL h
 | _=>cases h
end
section
variable {P:Program} {w w':World} {I I':Nat→Nat→Prop} {β β':Nat→Option Nat} {hp hp':Nat→Option ah} {C:af} {B:Nat} {M:Nat→Prop} {w0:Start}
theorem Kn: ∀{ts:List TypeId} {vs:List Value} {j:Nat} {y:V},(jY P ts vs)[j]? =some y→∃t v,ts[j]? =some t∧vs[j]? =some v∧y=qy P t v
 | [],vs,j,y,h=>by simp[jY] at h
 | _::_,[],j,y,h=>by simp[jY] at h
 | t::ts,v::vs,0,y,h=>by simp[jY] at h;grind
 | t::ts,v::vs,j+1,y,h=>by
  simp only[jY,List.getElem?_cons_succ] at h;obtain ⟨t',v',a,b,c⟩:=Kn h;grind
theorem XK: ∀{ts:List TypeId} {vs:List Value},ts.length=vs.length→(jY P ts vs).length=vs.length
 | [],[],_=>rfl
 | [],_::_,h=>by simp at h
 | _::_,[],h=>by simp at h
 | t::ts,v::vs,h=>by simp[jY,XK (ts:=ts) (vs:=vs) (by grind)]
theorem kK {e:TypeId} (h:cW P e=true): ∃i z,P.info? e=some i∧i.zero=some z∧i.size=P.cellsOf e∧z.cells.size=P.cellsOf e∧zeroCells P e=jY P (flat P e) z.cells.toList:=by
 unfold cW at h;simp only[aI,aK,mK] at h;obtain ⟨h1,h2,_,h3⟩:=h;cases hi:P.info? e with
 | none=>grind
 | some i=>
  rw[hi] at h3;simp only[Option.bind_some] at h3;cases hz:i.zero with
  | none=>grind
  | some z=>
   rw[hz] at h3;simp only[aK] at h3;exact ⟨i,z,rfl,hz,by simp[Program.cellsOf,hi],h3,by simp[zeroCells,hi,hz]⟩
theorem XL {e:TypeId} (h:cW P e=true): ∃i z,P.info? e=some i∧i.zero=some z∧z.cells.size=(zeroCells P e).length∧z.cells.size=P.cellsOf e∧
  ∀(j:Nat) v x,z.cells[j]? =some v→(zeroCells P e)[j]? =some x→aj P w I β hp v x:=by
 obtain ⟨i,z,h1,h2,h3,h4,h5⟩:=kK h;have hl:(flat P e).length=z.cells.toList.length:=by rw[(og h).1];grind
 refine ⟨i,z,h1,h2,?_,h4,fun j v x hv hx=> ?_⟩
 ·rw[h5,XK hl];simp
 ·rw[h5] at hx;obtain ⟨t,v',_,uZ,rfl⟩:=Kn hx;have:v'=v:=by
   grind
  subst this;exact aj.const t v'
theorem mD {nb:Nat} {b:ah} {v:V} {upd:List (Nat×ah)} {r:R} {rd:List Nat} (h:(jw nb b v upd).run C hp=some (r,rd)):hp nb=none∧r=⟨v,(nb,b)::upd⟩:=by
 obtain ⟨l,h⟩:=run_get h;cases hn:hp nb with
 | none=>rw[hn] at h;exact ⟨rfl,(aL h).symm⟩
 | some x=>rw[hn] at h;cases h
theorem XM (S:ay P w I β hp B M w0) {nb:Nat} {xs:List V} {C0:Array Value} {T:TypeId} (hn:hp nb=none) (hs:C0.size=xs.length)
  (hx: ∀(j:Nat) v x,C0[j]? =some v→xs[j]? =some x→aj P w I β hp v x) (iH:VT P w.heap.size T C0):
  Le P w I β hp (w.alloc (.cells C0 T)) I (an β nb (some w.heap.size)) (an hp nb (some (.var T xs)))∧ay P (w.alloc (.cells C0 T)) I (an β nb (some w.heap.size)) (an hp nb (some (.var T xs))) B M w0∧
  aj P (w.alloc (.cells C0 T)) I (an β nb (some w.heap.size)) (an hp nb (some (.var T xs))) (.pointer (some ⟨w.heap.size,0,none⟩)) (.ptr nb 0 0):=by
 obtain ⟨h1,h2⟩:=OK S (blk:= .var T xs) (c:=C0) (T:=T) hn (fun b' h=>(dM (h.flat (by simp))).symm) (fun hle dE dd=> .var rfl dE hs dd (fun j v x a b=>(hx j v x a b).mono hle) iH);refine ⟨h1,h2,?_⟩;have:=aj.ptr (P:=P) (w:=w.alloc (.cells C0 T)) (I:=I) (β:=an β nb (some w.heap.size)) (hp:=an hp nb (some (.var T xs))) (i:=0) (c:=0) (blk:= .var T xs) (bD _ _ _) (by simp) (bD _ _ _);grind
theorem XN (S:ay P w I β hp B M w0) {e:TypeId} {nb:Nat} {r:R} {rd:List Nat}
  (h:(Rd.ax (cW P e&&(!(sL P e)||VM (zeroCells P e))) (jw nb (.var e (zeroCells P e)) (.ptr nb 0 0) [])).run C hp=some (r,rd)):dg P ((Instr.alloc e true (.tuple #[])).run P w) w I β hp B M w0 r:=by
 obtain ⟨ao,h⟩:=az h;rw[aI] at ao;obtain ⟨ao,qL⟩:=ao;obtain ⟨hn,rfl⟩:=mD h;obtain ⟨i,z,h1,h2,h3,h4,h5⟩:=XL (w:=w) (I:=I) (β:=β) (hp:=hp) ao;obtain ⟨a,b,c⟩:=XM S (T:=e) hn h3 h5 fun dp=>by
  rw[dp,Bool.not_true,Bool.false_or] at qL;cases hz:zeroCells P e with
  | nil=>rw[hz] at qL;cases qL
  | cons y l=>
   rw[hz] at qL h3 h5;cases y<;>first|(cases qL;done)|skip
   have aY:0<z.cells.size:=by grind
   have:=h5 0 z.cells[0] .eB (kX aY) rfl;left;rw[kX aY];generalize z.cells[0]=u at this;cases this;rfl
 exact ⟨_,_,_,_,by simp[Instr.alloc,zeroValue,typeInfo,h1,h2,newVar,newRow],a,b,c⟩
theorem aiD (S:ay P w I β hp B M w0) {e:TypeId} {nb:Nat} {x:V} {v:Value} {r:R} {rd:List Nat} (hv:aj P w I β hp v x)
  (h:(Rd.ax (!(sL P e)) <| oR x.cells (jw nb (.var e x.cells) (.ptr nb 0 0) [])).run C hp=some (r,rd)):dg P ((Instr.box e v).run P w) w I β hp B M w0 r:=by
 obtain ⟨qL,h⟩:=az h;obtain ⟨e1,e2⟩:=OQ hv h;obtain ⟨_,l,h⟩:=Jt h (vs:=v.cells.toList) (by omega) (fun j u y a b=>e2 j u y (by grind) b);obtain ⟨hn,rfl⟩:=mD h;obtain ⟨a,b,c⟩:=XM S (T:=e) hn e1 e2 fun dp=>by grind
 exact ⟨_,_,_,_,by simp[Instr.box,newVar,newRow],a,b,c⟩
theorem foldl_set (off:Nat): ∀(vs:List Value) (k:Nat) (cs:Array Value) (i:Nat),off+k+vs.length≤cs.size→
  ((vs.zipIdx k).foldl (fun cs p=>cs.setIfInBounds (off+p.2) p.1) cs)[i]? =if i<off+k then cs[i]? else if i<off+k+vs.length then vs[i-(off+k)]? else cs[i]?
 | [],k,cs,i,h=>by simp_all
 | v::vs,k,cs,i,h=>by
  simp only[List.zipIdx_cons,List.foldl_cons];simp only[List.length_cons] at h⊢;rw[foldl_set off vs (k+1) _ i (by simp;omega)];grind
theorem XO (off:Nat): ∀(vs:List Value) (k:Nat) (cs:Array Value),((vs.zipIdx k).foldl (fun cs p=>cs.setIfInBounds (off+p.2) p.1) cs).size=cs.size
 | [],k,cs=>rfl
 | v::vs,k,cs=>by
  simp only[List.zipIdx_cons,List.foldl_cons];rw[XO off vs (k+1)];simp
theorem XP {cells:Array Value} {off:Nat} {v:Value} (h:off+v.cells.size≤cells.size) (i:Nat):
  (v.cells.zipIdx.foldl (fun cs (p:Value×Nat)=>cs.setIfInBounds (off+p.2) p.1) cells)[i]? =if i<off then cells[i]? else if i<off+v.cells.size then v.cells[i-off]? else cells[i]? :=by
 have:=foldl_set off v.cells.toList 0 cells i (by omega);rw[←IB];grind
theorem XQ {cells:Array Value} {off:Nat} {v:Value}:(v.cells.zipIdx.foldl (fun cs (p:Value×Nat)=>cs.setIfInBounds (off+p.2) p.1) cells).size=cells.size:=by
 have:=XO off v.cells.toList 0 cells;rw[←IB];grind
inductive BL (P:Program) (w:World) (I:Nat→Nat→Prop) (β:Nat→Option Nat) (hp:Nat→Option ah):List (Nat×Value)→List (Nat×V)→Prop
 | nil:BL P w I β hp [] []
 | cons {i:Nat} {v:Value} {x:V} {vs:List (Nat×Value)} {xs:List (Nat×V)}:v.cells.size=x.cells.length→(∀(j:Nat) u y,v.cells[j]? =some u→x.cells[j]? =some y→aj P w I β hp u y)→
   BL P w I β hp vs xs→BL P w I β hp ((i,v)::vs) ((i,x)::xs)
theorem XR (place:Nat→Option (Nat×Nat)): ∀{vs:List (Nat×Value)} {px:List (Nat×V)} {cells:Array Value} {xs ys:List V},BL P w I β hp vs px→cells.size=xs.length→
  (∀(j:Nat) v x,cells[j]? =some v→xs[j]? =some x→aj P w I β hp v x)→xO place xs px=some ys→
  ∃ti:Array Value,Instr.fill place cells vs=some ti∧ti.size=ys.length∧∀(j:Nat) v x,ti[j]? =some v→ys[j]? =some x→aj P w I β hp v x
 | _,_,cells,xs,ys,.nil,hs,hx,h=>by
  simp only[xO,e7] at h;subst h;exact ⟨cells,by simp[Instr.fill],hs,hx⟩
 | _,_,cells,xs,ys,@BL.cons _ _ _ _ _ i v x vs px h1 h2 h3,hs,hx,h=>by
  simp only[xO] at h;cases eD:place i with
  | none=>grind
  | some os=>
   obtain ⟨off,size⟩:=os;rw[eD] at h;simp only at h;cases hc:(Nat.beq x.cells.length size&&Nat.ble (off+size) xs.length) with
   | false=>grind
   | true=>
    rw[hc] at h;simp only[cond_true] at h;simp only[aI,aK,fV] at hc;have hv:off+v.cells.size≤cells.size:=by omega
    have hb:off+x.cells.length≤xs.length:=by omega
    have hl:(jt xs off x.cells).length=xs.length:=Ep _ _ _ hb;obtain ⟨ti,f1,f2,f3⟩:=XR place (cells:=v.cells.zipIdx.foldl (fun cs (p:Value×Nat)=>cs.setIfInBounds (off+p.2) p.1) cells) (xs:=jt xs off x.cells) h3 (by rw[XQ,hl,hs])
     (fun j u y hu hy=>by
      rw[XP hv] at hu;unfold jt at hy;grind) h
    refine ⟨ti,?_,f2,f3⟩;simp only[Instr.fill,eD];grind
theorem aiE {t:TypeId} {parts:Array (Nat×Value)} {cells:Array Value} {z:Value} {i:TypeInfo} (hi:P.info? t=some i) (hz:i.zero=some z) (h:Instr.fill (placeOf P t) z.cells parts.toList=some cells) (ha:bY P t=true)
  (eD: ∀fs,P.underlying t=some (.struct fs)→(fs.toList.mapM fun f=>(P.info? f.type).map fun i=>(f.offset,i.size)).isSome=true) (u6: ∀n e,P.underlying t=some (.array n e)→(P.info? e).isSome=true):
  (Instr.build t parts).run P w= .ok (.agg cells) w:=by
 refine run_build w t parts cells ?_;unfold Program.built;unfold bY at ha;rw[hi];split at ha
 ·rename_i fs hu;have:=eD fs hu;cases hm:fs.toList.mapM fun f=>(P.info? f.type).map fun i=>(f.offset,i.size) with
  | none=>grind
  | some places=>
   simp only[hu,hz,hm];have hq:placeOf P t=fun i=>places[i]? :=by simp[placeOf,hu,hm]
   simp_all
 ·rename_i n e hu;have:=u6 n e hu;cases ni:P.info? e with
  | none=>grind
  | some ie=>
   simp only[hu,hz,ni];have hq:placeOf P t=fun i=>some (i*ie.size,ie.size):=by simp[placeOf,hu,ni]
   grind
 ·cases ha
theorem XS {α:Type}: ∀(xs ys:List V) (k:Rd α),oR (xs++ys) k=oR xs (oR ys k)
 | [],_,_=>rfl
 | x::xs,ys,k=>by simp only[List.cons_append,oR,XS xs ys k]
theorem XT {a:Act} {sl:Nat→V} (hs:nM P w I β hp a sl) {G:Nat→V} (hg:jS P G w I) (t:TypeId) {α:Type}: ∀{l:List (Nat×Operand)} {k:Rd α} {r:α} {rd:List Nat},
  (oR ((l.map fun p=>(aS P G t sl p.2).cells).flatten) k).run C hp=some (r,rd)→
  BL P w I β hp (l.map fun p=>(p.1,a.eval p.2)) (l.map fun p=>(p.1,aS P G t sl p.2))∧∃gO,k.run C hp=some (r,gO)
 | [],k,r,rd,h=>⟨.nil,rd,h⟩
 | (i,x)::l,k,r,rd,h=>by
  simp only[kY,List.flatten_cons,XS] at h;obtain ⟨e1,e2⟩:=OQ (hs.ev hg t x) h;obtain ⟨_,l1,h⟩:=Jt h (vs:=(a.eval x).cells.toList) (by omega) (fun j u y a b=>e2 j u y (by grind) b);obtain ⟨h1,h2⟩:=XT hs hg t h;exact ⟨.cons e1 e2 h1,h2⟩
theorem aiF (S:ay P w I β hp B M w0) {a:Act} {sl:Nat→V} (hs:nM P w I β hp a sl) {G:Nat→V} (hg:jS P G w I) {t ty:TypeId} {ps:Array (Nat×Operand)} {r:R} {rd:List Nat}
  (h:(Rd.ax (cW P t&&(bY P t&&I8 P t)) (oR ((ps.toList.map fun p=>(aS P G ty sl p.2).cells).flatten)
   (AZ (xO (placeOf P t) (zeroCells P t) (ps.toList.map fun p=>(p.1,aS P G ty sl p.2))) fun cs=> .ret ⟨.agg cs,[]⟩))).run C hp=some (r,rd)):
  dg P ((Instr.build t (ps.map fun (i,x)=>(i,a.eval x))).run P w) w I β hp B M w0 r:=by
 obtain ⟨ao,h⟩:=az h;simp only[aI] at ao;obtain ⟨h1,l,h⟩:=XT hs hg ty h;cases hf:xO (placeOf P t) (zeroCells P t) (ps.toList.map fun p=>(p.1,aS P G ty sl p.2)) with
 | none=>rw[hf] at h;cases h
 | some cs=>
  rw[hf] at h;obtain rfl:=aL h;obtain ⟨i,z,hi,hz,h3,h4,h5⟩:=XL (w:=w) (I:=I) (β:=β) (hp:=hp) ao.1;obtain ⟨cells,f1,f2,f3⟩:=XR (placeOf P t) h1 h3 h5 hf;have XU:=ao.2.2;refine .same S (v:= .agg cells) (aiE hi hz (by simp_all) ao.2.1 (fun fs hu=> ?_) (fun n e hu=> ?_)) (.agg f2 f3)
  ·simpa[I8,hu] using XU
  ·simpa[I8,hu] using XU
theorem aiG (cL: ∀id blk,hp id=some blk→eV P w I β hp (β id) blk) {x:V} {v:Value} {ys:List V} {fr:List (Nat×ah)} {rd:List Nat} {ts:List TypeId} (hv:aj P w I β hp v x)
  (h:(wb P x.cells).run C hp=some ((ys,fr),rd)) (ht:uk P ts ys=true):
  v.cells.size=x.cells.length∧∀(j:Nat) u y,v.cells.toList[j]? =some u→x.cells[j]? =some y→aj P w I β hp u y:=by
 cases x with
 | agg xs=>
  obtain ⟨cs,rfl,h1,h2⟩:=hv.mX;exact ⟨h1,fun j u y a b=>h2 j u y (by simpa[Value.cells] using a) b⟩
 | _=>
  simp only[V.cells] at h⊢;simp only[wb] at h;obtain ⟨⟨y1,u1⟩,l3,l4,hq,h⟩:=nP h;obtain ⟨q1,q2⟩:=Eg cL hq hv;obtain ⟨⟨y2,u2⟩,l5,l6,u5,h⟩:=nP h;cases u5;have:=aL h;cases this;obtain ⟨tl,tg⟩:=yg ht;have eW:=tg 0 _ y1 (bU (by grind)) rfl;have eD:=q2 (jT P w I β hp u1) (fun _ _ h=> .inl h) (fun p hp b j h=> .inr ⟨p,hp,h⟩);have ho:=eD.pure eW;have XH:v.cells= #[v]:=by cases ho<;>rfl
  grind
def BM (P:Program) (w:World) (I:Nat→Nat→Prop) (e:TypeId) (cells:Array Value) (es:List V):Prop:=
 cells.size=es.length*P.cellsOf e∧∀(i j:Nat) (x:V) (t':TypeId),es[i]? =some x→(aT P e)[j]? =some t'→j<P.cellsOf e→∃v,cells[i*P.cellsOf e+j]? =some v∧Pure P w I t' v (ca P e x j)
theorem BM.set {e:TypeId} {cells:Array Value} {es ys:List V} {i:Nat} {v:Value} (h:BM P w I e cells es) (hi:i<es.length) (hv:v.cells.size=P.cellsOf e) (hy:ys.length=P.cellsOf e)
  (hr: ∀(j:Nat) (t':TypeId) (u:Value) (y:V),(aT P e)[j]? =some t'→v.cells[j]? =some u→ys[j]? =some y→Pure P w I t' u y):
  BM P w I e (v.cells.zipIdx.foldl (fun cs (p:Value×Nat)=>cs.setIfInBounds (i*P.cellsOf e+p.2) p.1) cells) (es.set i (dw P e ys)):=by
 obtain ⟨h1,h2⟩:=h;have hb:i*P.cellsOf e+v.cells.size≤cells.size:=by
  have:(i+1)*P.cellsOf e≤es.length*P.cellsOf e:=eZ _ hi;grind
 refine ⟨by rw[XQ,od,h1],fun i' j x t' hx ht hj=> ?_⟩;rw[XP hb];rw[DF] at hx;by_cases nh:i=i'
 ·subst nh;rw[aE rfl,aE hi] at hx;cases hx;rw[dA,dv,show i*P.cellsOf e+j-i*P.cellsOf e=j by omega];have h3:j<v.cells.size:=by omega
  have h4:j<ys.length:=by omega
  refine ⟨v.cells[j],kX h3,?_⟩;rw[uL (bU h4) ht];exact hr j t' _ _ ht (kX h3) (bU h4)
 ·rw[aF nh] at hx;have bH:i'*P.cellsOf e+j<i*P.cellsOf e∨i*P.cellsOf e+v.cells.size≤i'*P.cellsOf e+j:=by
   rcases js i' i with aY|p9
   ·left;have:(i'+1)*P.cellsOf e≤i*P.cellsOf e:=eZ _ aY;grind
   ·right;have:(i+1)*P.cellsOf e≤i'*P.cellsOf e:=eZ _ (by omega);grind
  grind
theorem XV {t':TypeId} {v:Value} (eW:fJ P t' (pN (qy P t' v))=true):Pure P w I t' v (pN (qy P t' v)):=by
 have hc:=aj.const (P:=P) (w:=w) (I:=I) (β:=fun _=>none) (hp:=fun _=>none) t' v;cases yL:qy P t' v<;>rw[yL] at eW hc<;>simp only[pN] at eW⊢
 case int k n=>rw[hc.fM];exact Plain.pure (v:= .int k n) (y:= .int k n) rfl eW
 case bool b=>rw[hc.mW];exact Plain.pure (v:= .bool b) (y:= .bool b) rfl eW
 case str l=>obtain ⟨s,e1,e2⟩:=hc.oh;rw[e1];exact Plain.pure (v:= .string s) (y:= .str l) ⟨s,rfl,e2⟩ eW
 case nilS e'=>
  cases hc;exact Plain.pure (y:= .list e' []) (ko.any fun _=>rfl) eW
 case list e' es=>
  cases hc with
  | list hp=>exact Plain.pure (y:= .list e' es) hp eW
 all_goals (unfold fJ at eW;grind)
theorem XW {t':TypeId} {v:Value} (eW:fJ P t' (pN (qy P t' v))=true): ∀a n c,v= .slice a n c→c=0:=by
 intro a n c hv;subst hv;unfold qy at eW;split at eW<;>first|(rename_i h;cases h;rfl)|skip
 all_goals first|(simp_all;done)|(unfold fJ pN at eW;split at eW<;>simp_all)
theorem Fe {e:TypeId} (h:oP P e=true): ∃i z,P.info? e=some i∧i.zero=some z∧i.size=P.cellsOf e∧z.cells.size=P.cellsOf e∧
  ∀(j:Nat) (t':TypeId),(aT P e)[j]? =some t'→j<P.cellsOf e→∃v,z.cells[j]? =some v∧Pure P w I t' v (ca P e (dw P e (jd P e)) j)∧∀a n c,v= .slice a n c→c=0:=by
 unfold oP at h;simp only[aI] at h;obtain ⟨i,z,h1,h2,h3,h4,h5⟩:=kK h.1;refine ⟨i,z,h1,h2,h3,h4,fun j t' ht hj=> ?_⟩;obtain ⟨tl,tg⟩:=yg h.2;have dh:j<(jd P e).length:=by rw[←tl,(og h.1).1];exact hj
 have hz:=bU dh;have eW:=tg j t' _ (by rw[←rM];exact ht) hz;refine ⟨z.cells[j],kX (by omega),?_⟩;rw[uL hz ht];have yM:(jd P e)[j]=pN (qy P t' z.cells[j]):=by
  have:(jd P e)[j]? =((zeroCells P e)[j]?).map pN:=by simp[jd]
  rw[hz] at this;cases hc:(zeroCells P e)[j]? with
  | none=>grind
  | some y=>
   rw[hc] at this;simp only[Option.map_some,e7] at this;rw[h5] at hc;obtain ⟨t2,v2,a1,a2,rfl⟩:=Kn hc;have Ko:t2=t':=by
    rw[←rM,ht] at a1;grind
   grind
 rw[yM] at eW⊢;exact ⟨XV eW,XW eW⟩
end
section
variable {P:Program} {w w':World} {I I':Nat→Nat→Prop} {β β':Nat→Option Nat} {hp hp':Nat→Option ah} {C:af} {B:Nat} {M:Nat→Prop} {w0:Start}
theorem XX (S:ay P w I β hp B M w0) {nb cap:Nat} {fz:Bool} {e T:TypeId} {es:List V} {C0:Array Value} (ao:cW P e=true) (hn:hp nb=none) (hs:C0.size=cap*P.cellsOf e) (hl:es.length≤cap) (hm:cap≤maxLen) (hL:rH P T e C0.size)
  (hx: ∀(i j:Nat) (x:V) (t':TypeId),es[i]? =some x→(aT P e)[j]? =some t'→j<P.cellsOf e→∃v,C0[i*P.cellsOf e+j]? =some v∧Pure P w I t' v (ca P e x j)):
  Le P w I β hp (w.alloc (.cells C0 T)) I (an β nb (some w.heap.size)) (an hp nb (some (.arr e es fz)))∧ay P (w.alloc (.cells C0 T)) I (an β nb (some w.heap.size)) (an hp nb (some (.arr e es fz))) B M w0∧
  aj P (w.alloc (.cells C0 T)) I (an β nb (some w.heap.size)) (an hp nb (some (.arr e es fz))) (.slice (some ⟨w.heap.size,0,none⟩) es.length cap) (.whole e nb):=by
 obtain ⟨h1,h2⟩:=OK S (blk:= .arr e es fz) (c:=C0) (T:=T) hn (fun b' h=>(dM (h.flat (by simp))).symm) (fun hle dE dd=> .arr hL ao rfl dE (by rw[hs];exact eZ _ hl) (fun _ j h=>absurd h (dd j)) (fun _=>dd) fun i j x t' a b c=>by
  obtain ⟨v,hv,hp⟩:=hx i j x t' a b c;exact ⟨v,hv,hp.mono hle.ej hle.cH⟩)
 refine ⟨h1,h2,.whole (bD _ _ _) (bD _ _ _) ?_ hl hm⟩;rw[lk (heap_alloc_new w (.cells C0 T)),hs]
theorem BN (S:ay P w I β hp B M w0) {nb cap:Nat} {fz:Bool} {e:TypeId} {es:List V} {C0:Array Value} (ao:cW P e=true) (hn:hp nb=none) (hs:C0.size=cap*P.cellsOf e) (hl:es.length≤cap) (hm:cap≤maxLen)
  (hx: ∀(i j:Nat) (x:V) (t':TypeId),es[i]? =some x→(aT P e)[j]? =some t'→j<P.cellsOf e→∃v,C0[i*P.cellsOf e+j]? =some v∧Pure P w I t' v (ca P e x j)):
  Le P w I β hp (w.alloc (.cells C0 e)) I (an β nb (some w.heap.size)) (an hp nb (some (.arr e es fz)))∧ay P (w.alloc (.cells C0 e)) I (an β nb (some w.heap.size)) (an hp nb (some (.arr e es fz))) B M w0∧
  aj P (w.alloc (.cells C0 e)) I (an β nb (some w.heap.size)) (an hp nb (some (.arr e es fz))) (.slice (some ⟨w.heap.size,0,none⟩) es.length cap) (.whole e nb):=
 XX S ao hn hs hl hm rH.self hx
theorem XY {b n:Nat} {Ca C':Array Value} {T T':TypeId} {f f':Nat×Nat} (hh:w.heap[b]? =some (.cells Ca T f)) (xY:w'.heap[b]? =some (.cells C' T' f')) (hI: ∀j,I b j→j<n) (hp: ∀j,j<n→C'[j]? =Ca[j]?) (j:Nat) (h:I b j):
  w'.cell? ⟨b,j,none⟩=w.cell? ⟨b,j,none⟩:=by
 rw[cell?_cells hh,cell?_cells xY];grind
theorem PS {b n:Nat} {fz:Bool} (hf:fz=true→∀j,I b j→j<n) (fE:fz=false→∀j,¬I b j): ∀j,I b j→j<n:=by
 intro j h;cases fz with
 | true=>grind
 | false=>grind
theorem At.only {b b':Nat} {e e' T:TypeId} {es aJ:List V} {q:Path} {Ca:Array Value} {f:Nat×Nat} (hh:w.heap[b]? =some (.cells Ca T f)) (hz: ∀(i j:Nat) x t' v,es[i]? =some x→(aT P e)[j]? =some t'→Ca[i*P.cellsOf e+j]? =some v→∀a n c,v= .slice a n c→c=0)
  (h:At P w b e es q b' e' aJ):q=[]∧b'=b∧e'=e∧aJ=es:=by
 cases h with
 | here=>grind
 | step h1 h2 h3 h4 h5 h6 h7=>grind
theorem oY.sS {t:TypeId} {v:Value} {x:V} (h:Pure P w I t v x) (hc: ∀a n c,v= .slice a n c→c=0):oY P w I t v x:=by
 cases h with
 | int h=>exact .gq (by unfold dV;rw[h]) (.int h)
 | bool h=>exact .gq (by unfold dV;rw[h]) (.bool h)
 | str h hl=>exact .gq (by unfold dV;rw[h]) (.str h hl)
 | nil h=>exact .emp h
 | emp h=>have:=hc _ _ _ rfl;subst this;exact .emp h
 | list g hu hl hle _ _ _=>
  have:=hc _ _ _ rfl;subst this;obtain rfl:=vY.1 hle;obtain rfl:=vV.1 hl;exact .emp hu
theorem XZ (S:ay P w I β hp B M w0) {nb cap:Nat} {e T:TypeId} {es:List V} {C0:Array Value} (ao:cW P e=true) (hn:hp nb=none) (hs:C0.size=cap*P.cellsOf e) (hl:es.length≤cap) (hm:cap≤maxLen) (hL:rH P T e C0.size)
  (hx: ∀(i j:Nat) (x:V) (t':TypeId),es[i]? =some x→(aT P e)[j]? =some t'→j<P.cellsOf e→∃v,C0[i*P.cellsOf e+j]? =some v∧Pure P w I t' v (ca P e x j)∧∀a n c,v= .slice a n c→c=0):
  Le P w I β hp (w.alloc (.cells C0 T)) I (an β nb (some w.heap.size)) (an hp nb (some (.nest e es [0,0,0])))∧ay P (w.alloc (.cells C0 T)) I (an β nb (some w.heap.size)) (an hp nb (some (.nest e es [0,0,0]))) B M w0∧
  aj P (w.alloc (.cells C0 T)) I (an β nb (some w.heap.size)) (an hp nb (some (.nest e es [0,0,0]))) (.slice (some ⟨w.heap.size,0,none⟩) es.length cap) (.whole e nb):=by
 have hz: ∀(i j:Nat) x t' v,es[i]? =some x→(aT P e)[j]? =some t'→C0[i*P.cellsOf e+j]? =some v→∀a n c,v= .slice a n c→c=0:=fun i j x t' v a b h=>by
  obtain ⟨v',h1,_,h3⟩:=hx i j x t' a b (by rw[←fx ao];grind);grind
 obtain ⟨h1,h2⟩:=OK S (blk:= .nest e es [0,0,0]) (c:=C0) (T:=T) hn (fun b' h=>by
   cases h with
   | root _ h=>grind
   | row h ha=>cases h;exact (At.only (heap_alloc_new w _) hz ha).2.1)
  (fun hle dE dd=> .nest rfl (fun q b' e' aJ ha=>by
   obtain ⟨rfl,rfl,rfl,rfl⟩:=At.only dE hz ha;refine ⟨ao,⟨C0,_,dE,hL,by rw[hs];exact eZ _ hl,fun i j x t' a b c=> ?_⟩,dd⟩;obtain ⟨v,hv,hp⟩:=hx i j x t' a b c;exact ⟨v,hv,.sS (hp.1.mono hle.ej hle.cH) hp.2⟩)
   fun q1 q2 b' e1 dc e2 bM a1 a2=>(At.only dE hz a1).1.trans (At.only dE hz a2).1.symm)
 refine ⟨h1,h2,.dI (bD _ _ _) (bD _ _ _) ?_ hl hm⟩;rw[lk (heap_alloc_new w (.cells C0 T)),hs]
theorem aiH (S:ay P w I β hp B M w0) {nb cap:Nat} {e:TypeId} {es:List V} {C0:Array Value} (ao:cW P e=true) (hn:hp nb=none) (hs:C0.size=cap*P.cellsOf e) (hl:es.length≤cap) (hm:cap≤maxLen)
  (hx: ∀(i j:Nat) (x:V) (t':TypeId),es[i]? =some x→(aT P e)[j]? =some t'→j<P.cellsOf e→∃v,C0[i*P.cellsOf e+j]? =some v∧Pure P w I t' v (ca P e x j)∧∀a n c,v= .slice a n c→c=0):
  Le P w I β hp (w.alloc (.cells C0 e)) I (an β nb (some w.heap.size)) (an hp nb (some (.nest e es [0,0,0])))∧ay P (w.alloc (.cells C0 e)) I (an β nb (some w.heap.size)) (an hp nb (some (.nest e es [0,0,0]))) B M w0∧
  aj P (w.alloc (.cells C0 e)) I (an β nb (some w.heap.size)) (an hp nb (some (.nest e es [0,0,0]))) (.slice (some ⟨w.heap.size,0,none⟩) es.length cap) (.whole e nb):=
 XZ S ao hn hs hl hm rH.self hx
theorem aiI (S:ay P w I β hp B M w0) {e:TypeId} {nb:Nat} {r:R} {rd:List Nat} (h:(Oe P nb e).run C hp=some (r,rd)):dg P ((Instr.alloc e true (.tuple #[])).run P w) w I β hp B M w0 r:=by
 unfold Oe at h;split at h
 ·rename_i n e1 hu;obtain ⟨hc,h1⟩:=az h;clear h;simp only[aI,aK,fV,mL,gZ] at hc;obtain ⟨ao,ov,ow,hn,hm,ia,eW,X0⟩:=hc;obtain ⟨BO,rfl⟩:=mD h1;obtain ⟨i,z,hi,hz,h3,h4,h5⟩:=kK ao;have kI:aT P e1=[e1]:=by simp[aT,ow]
  have hk:P.cellsOf e1=1:=by rw[←fx ov,kI];rfl
  have hlen:((zeroCells P e).map pN).length≤n:=by
   rw[h5,db,←hn,←h4];have go: ∀(ts:List TypeId) (vs:List Value),(jY P ts vs).length≤vs.length:=by
    intro ts
    induction ts with
    | nil=>intro vs;simp[jY]
    | cons t ts ih=>intro vs;cases vs with
     | nil=>simp[jY]
     | cons v vs=>simpa[jY] using ih vs
   grind
  have hx: ∀(i j:Nat) (x:V) (t':TypeId),((zeroCells P e).map pN)[i]? =some x→(aT P e1)[j]? =some t'→j<P.cellsOf e1→∃v,z.cells[i*P.cellsOf e1+j]? =some v∧Pure P w I t' v (ca P e1 x j)∧∀a n c,v= .slice a n c→c=0:=by
   intro i j x t' hx ht hj;rw[hk] at hj⊢;obtain rfl:j=0:=by omega
   rw[kI] at ht;simp only[List.getElem?_cons_zero,e7] at ht;subst ht;have Kp:=gZ.1 eW x (mi hx);rw[kZ] at hx;cases hc:(zeroCells P e)[i]? with
   | none=>grind
   | some y=>
    rw[hc] at hx;cases hx;rw[h5] at hc;obtain ⟨t2,v2,a1,a2,rfl⟩:=Kn hc;have Ko:e1=t2:=by simpa using ia t2 (mi a1)
    subst Ko;simp only[ca,ow,cond_false];exact ⟨v2,by grind,XV Kp,XW Kp⟩
  have hL:rH P e e1 z.cells.size:=fun hb _ k sb=>by
   grind
  have cI:(Instr.alloc e true (.tuple #[])).run P w= .ok (.pointer (some ⟨w.heap.size,0,none⟩)) (w.alloc (.cells z.cells e)):=by
   simp[Instr.alloc,zeroValue,typeInfo,hi,hz,newVar,newRow]
  have hs:z.cells.size=n*P.cellsOf e1:=by grind
  cases dV P e1 with
  | true=>
   obtain ⟨a,b,_⟩:=XX S (nb:=nb) (fz:=false) ov BO hs hlen hm hL fun i j x t' p q r=>(hx i j x t' p q r).imp fun _ h=>⟨h.1,h.2.1⟩
   refine ⟨_,_,_,_,cI,a,b,?_⟩;have:=aj.ptr (P:=P) (w:=w.alloc (.cells z.cells e)) (I:=I) (β:=an β nb (some w.heap.size)) (hp:=an hp nb (some (.arr e1 ((zeroCells P e).map pN) false))) (i:=0) (c:=0) (bD _ _ _) (by simp) (bD _ _ _);rw[Nat.zero_mul] at this;exact this
  | false=>
   obtain ⟨a,b,_⟩:=XZ S (nb:=nb) ov BO hs hlen hm hL hx;refine ⟨_,_,_,_,cI,a,b,?_⟩;have:=aj.ptr (P:=P) (w:=w.alloc (.cells z.cells e)) (I:=I) (β:=an β nb (some w.heap.size)) (hp:=an hp nb (some (.nest e1 ((zeroCells P e).map pN) [0,0,0]))) (i:=0) (c:=0) (bD _ _ _) (by simp) (bD _ _ _);rw[Nat.zero_mul] at this;exact this
 ·cases h
theorem X1 (cL: ∀id blk,hp id=some blk→eV P w I β hp (β id) blk) {a:Act} {sl:Nat→V} (hs:nM P w I β hp a sl) {G:Nat→V} (hg:jS P G w I) {e:TypeId} {len:Nat}: ∀{l:List (Nat×Operand)} {ps:List (Nat×V)} {upd:List (Nat×ah)} {rd:List Nat},
  (DS P e len (l.map fun p=>(p.1,aS P G e sl p.2))).run C hp=some ((ps,upd),rd)→cW P e=true→(∀p∈upd,Ba hp p)∧∀I':Nat→Nat→Prop,(∀b j,I b j→I' b j)→(∀p∈upd,∀b j,wy P w β hp p.1 b j→I' b j)→
   ∀(cells:Array Value) (es:List V),es.length=len→BM P w I' e cells es→∃ti,Instr.fill (fun i=>some (i*P.cellsOf e,P.cellsOf e)) cells (l.map fun p=>(p.1,a.eval p.2))=some ti∧BM P w I' e ti (DR es ps)∧(DR es ps).length=len
 | [],ps,upd,rd,h,_=>by
  cases h;exact ⟨by simp,fun I' _ _ cells es hl he=>⟨cells,by simp[Instr.fill],he,hl⟩⟩
 | (i,x)::l,ps,upd,rd,h,ao=>by
  simp only[kY,DS] at h;obtain ⟨⟨ys,u1⟩,l1,l2,h1,h⟩:=nP h;obtain ⟨hc,h⟩:=az h;obtain ⟨⟨ps',u2⟩,l3,l4,h2,h⟩:=nP h;have:=aL h;cases this;simp only[aI,mK] at hc;obtain ⟨hi,eW⟩:=hc;obtain ⟨tl,tg⟩:=yg eW;have pU:=hs.ev hg e x;obtain ⟨v1,v2⟩:=aiG cL pU h1 eW;obtain ⟨k1,k2,k3⟩:=OH cL h1 (vs:=(a.eval x).cells.toList) (by omega) v2;obtain ⟨m1,m2⟩:=X1 cL hs hg h2 ao;refine ⟨fun p hp=> ?_,fun I' i1 i2 cells es hl he=> ?_⟩
  ·grind
  ·have eD:=k3 I' i1 (fun p hp=>i2 p (eF.2 (.inl hp)));have aZ:=(og ao).1;have wY:ys.length=P.cellsOf e:=by omega
   have Jw:(a.eval x).cells.size=P.cellsOf e:=by omega
   have BP:=he.set (i:=i) (ys:=ys) (by omega) Jw wY (fun j t' u y ht hu hy=>by
    exact (eD j u y (by grind) hy).pure (tg j t' y (by rw[←rM];exact ht) hy))
   obtain ⟨ti,f1,f2,f3⟩:=m2 I' i1 (fun p hp=>i2 p (eF.2 (.inr hp))) _ (es.set i (dw P e ys)) (by grind) BP;refine ⟨ti,?_,f2,f3⟩;have hb:i*P.cellsOf e+P.cellsOf e≤cells.size:=by
    rw[he.1,hl];have:(i+1)*P.cellsOf e≤len*P.cellsOf e:=eZ _ hi;grind
   simp only[kY,Instr.fill];grind
theorem X2 {z:Array Value} {n k:Nat} (hk:k<n) (hz:0<z.size):((Array.range n).map (z[· %z.size]!))[k]? =z[k %z.size]? :=by
 have hm:k %z.size<z.size:=xI _ hz;grind
theorem X3 {e:TypeId} (h:oP P e=true) {i:TypeInfo} {z:Value} (hi:P.info? e=some i) (hz:i.zero=some z) (n m:Nat) (pM:n≤m):
  ∀(k j:Nat) (x:V) (t':TypeId),(List.replicate n (dw P e (jd P e)))[k]? =some x→(aT P e)[j]? =some t'→j<P.cellsOf e→
   ∃v,((Array.range (m*P.cellsOf e)).map (z.cells[· %z.cells.size]!))[k*P.cellsOf e+j]? =some v∧Pure P w I t' v (ca P e x j)∧∀a n c,v= .slice a n c→c=0:=by
 intro k j x t' hx ht hj;obtain ⟨i2,z2,h1,h2,h3,h4,h5⟩:=Fe (w:=w) (I:=I) h;rw[hi] at h1;cases h1;rw[hz] at h2;cases h2;rw[DG] at hx;split at hx
 ·rename_i hk;cases hx;obtain ⟨v,hv,hp⟩:=h5 j t' ht hj;refine ⟨v,?_,hp⟩;have hb:k*P.cellsOf e+j<m*P.cellsOf e:=by
   have:(k+1)*P.cellsOf e≤m*P.cellsOf e:=eZ _ (by omega);grind
  rw[X2 hb (by omega),h4,show (k*P.cellsOf e+j) %P.cellsOf e=j by rw[xJ,Nat.mul_add_mod];exact Nat.mod_eq_of_lt hj];exact hv
 ·cases hx
theorem PT {e:TypeId} (h:oP P e=true) {i:TypeInfo} {z:Value} (hi:P.info? e=some i) (hz:i.zero=some z) (n m:Nat) (pM:n≤m):
  ∀(k j:Nat) (x:V) (t':TypeId),(List.replicate n (dw P e (jd P e)))[k]? =some x→(aT P e)[j]? =some t'→j<P.cellsOf e→
   ∃v,((Array.range (m*P.cellsOf e)).map (z.cells[· %z.cells.size]!))[k*P.cellsOf e+j]? =some v∧Pure P w I t' v (ca P e x j):=fun k j x t' a b c=>(X3 h hi hz n m pM k j x t' a b c).imp fun _ h=>⟨h.1,h.2.1⟩
theorem PU {P:Program} (w:World) (t e:TypeId) (len:Nat) (parts:Array (Nat×Value)) (cells:Array Value) (ie:TypeInfo) (z:Value)
  (hu:P.underlying t=some (.slice e)) (ni:P.info? e=some ie) (hz:ie.zero=some z) (aiJ: ¬len*ie.size>2^24)
  (h:Instr.fill (fun i=>some (i*ie.size,ie.size)) ((Array.range (len*ie.size)).map (z.cells[· %z.cells.size]!)) parts.toList=some cells):
  (Instr.buildSlice t len parts).run P w= .ok (.slice (some ⟨w.heap.size,0,none⟩) len len) (w.alloc (.cells cells e)):=by
 by_cases pM:len*ie.size=0
 ·have h0: ∀g:Nat→Value,(Array.range (len*ie.size)).map g= #[]:=by grind
  have hp: ∀(u:Array Value),(Pure.pure u:Sem (Array Value)).run P w= .ok u w:=fun _=>rfl;rw[h0] at h;simp only[Instr.buildSlice,Sem.run_bind,run_underlying hu,Result.andThen_ok,sizeOf,typeInfo,ni];have h1:(Array.range (len*ie.size)).map (fun _:Nat=>(default:Value))= #[]:=h0 _;have hs: ¬16777216<len*ie.size:=by omega
  simp[ni,hs,pM];simp only[pM] at h1;simp[h1,h,newRow]
 ·exact run_buildSlice w t e len parts cells ie z hu ni hz aiJ pM h
theorem X4 (S:ay P w I β hp B M w0) {a:Act} {sl:Nat→V} (hs:nM P w I β hp a sl) {G:Nat→V} (hg:jS P G w I) {t e:TypeId} {len nb:Nat} {ps:Array (Nat×Operand)} {r:R} {rd:List Nat} (hu:P.underlying t=some (.slice e))
  (h:(Rd.ax (oP P e&&Nat.ble (len*P.cellsOf e) (2^24)) ((DS P e len (ps.toList.map fun p=>(p.1,aS P G e sl p.2))).bind fun r=>
    jw nb (.arr e (DR (List.replicate len (dw P e (jd P e))) r.1) false) (.whole e nb) r.2)).run C hp=some (r,rd)):
  dg P ((Instr.buildSlice t len (ps.map fun (i,x)=>(i,a.eval x))).run P w) w I β hp B M w0 r:=by
 obtain ⟨hc,h⟩:=az h;simp only[aI,fV] at hc;obtain ⟨fB,OC⟩:=hc;have ao:cW P e=true:=by
  unfold oP at fB;grind
 obtain ⟨⟨pv,upd⟩,l1,l2,h1,h⟩:=nP h;obtain ⟨hn,rfl⟩:=mD h;obtain ⟨m1,m2⟩:=X1 S.h.rel hs hg h1 ao;obtain ⟨qP,S1⟩:=Be S m1;obtain ⟨i,z,hi,hz,h3,h4,_⟩:=Fe (w:=w) (I:=I) fB;have eQ:=(og ao).2;have h0:BM P w (jT P w I β hp upd) e ((Array.range (len*P.cellsOf e)).map (z.cells[· %z.cells.size]!)) (List.replicate len (dw P e (jd P e))):=
  ⟨by simp,PT fB hi hz len len (av _)⟩
 obtain ⟨cells,f1,f2,f3⟩:=m2 (jT P w I β hp upd) (fun _ _ h=> .inl h) (fun p hp b j h=> .inr ⟨p,hp,h⟩) _ _ (by simp) h0;have jk:b9 hp upd nb=none:=by
  rcases wz (hp:=hp) (l:=upd) (id:=nb) with h|⟨b',hm,_⟩
  ·grind
  ·obtain ⟨e1,dc,_,h5⟩:=m1 _ hm;grind
 have rN:len≤maxLen:=by
  have:len*1≤len*P.cellsOf e:=vZ _ eQ;simp only[maxLen];omega
 obtain ⟨n1,n2,n3⟩:=BN S1 (cap:=len) ao jk (by rw[f2.1,f3]) (by omega) rN f2.2;have cI:=PU w t e len (ps.map fun (i,x)=>(i,a.eval x)) cells i z hu hi hz (by grind) (by simp_all);refine ⟨_,_,_,_,cI,qP.trans n1,n2,?_⟩;rw[f3] at n3;exact n3
theorem X5 (S:ay P w I β hp B M w0) {t e:TypeId} {nb:Nat} {kl kc:IntKind} {n m:Int} {r:R} {rd:List Nat} (hu:P.underlying t=some (.slice e))
  (h:(Rd.ax (oP P e&&(decide (0≤n)&&(decide (n≤m)&&Nat.ble (m.toNat*P.bytesOf e) aW)))
    (jw nb (.arr e (List.replicate n.toNat (dw P e (jd P e))) false) (.whole e nb) [])).run C hp=some (r,rd)):
  dg P ((Instr.makeSlice t (.int kl n) (.int kc m)).run P w) w I β hp B M w0 r:=by
 obtain ⟨hc,h⟩:=az h;simp only[aI,fV,jM] at hc;obtain ⟨fB,h0,pM,ew⟩:=hc;have ao:cW P e=true:=by
  unfold oP at fB;grind
 obtain ⟨hn,rfl⟩:=mD h;obtain ⟨i,z,hi,hz,h3,h4,_⟩:=Fe (w:=w) (I:=I) fB;have nW:P.bytesOf e=i.bytes:=by simp[Program.bytesOf,hi]
 have PV:m≤9223372036854775807:=by
  have h1:m.toNat*1≤m.toNat*P.bytesOf e:=vZ _ (xX ao);simp only[aW] at ew;omega
 have cI:=run_make (P:=P) w t e i z hu hi hz kl kc n m h0 pM (by
  rw[nW] at ew;simp only[aW] at ew;grind) PV
 have hlen:(List.replicate n.toNat (dw P e (jd P e))).length=n.toNat:=by simp
 obtain ⟨n1,n2,n3⟩:=BN S (cap:=m.toNat) (es:=List.replicate n.toNat (dw P e (jd P e))) (C0:=madeCells z.cells (m.toNat*i.size)) ao hn (by rw[size_madeCells,h3]) (by omega) (by simp only[maxLen];omega)
  (by rw[h3];exact PT fB hi hz n.toNat m.toNat (by omega))
 refine ⟨_,_,_,_,cI,n1,n2,?_⟩;rw[hlen] at n3;exact n3
theorem aiK (S:ay P w I β hp B M w0) {t e:TypeId} {nb:Nat} {kl kc:IntKind} {n m:Int} {r:R} {rd:List Nat} (hu:P.underlying t=some (.slice e))
  (h:(Rd.ax (oP P e&&(decide (0≤n)&&(decide (n≤m)&&Nat.ble (m.toNat*P.bytesOf e) aW)))
    (jw nb (.nest e (List.replicate n.toNat (dw P e (jd P e))) [0,0,0]) (.whole e nb) [])).run C hp=some (r,rd)):
  dg P ((Instr.makeSlice t (.int kl n) (.int kc m)).run P w) w I β hp B M w0 r:=by
 obtain ⟨hc,h⟩:=az h;simp only[aI,fV,jM] at hc;obtain ⟨fB,h0,pM,ew⟩:=hc;have ao:cW P e=true:=by
  unfold oP at fB;grind
 obtain ⟨hn,rfl⟩:=mD h;obtain ⟨i,z,hi,hz,h3,h4,_⟩:=Fe (w:=w) (I:=I) fB;have nW:P.bytesOf e=i.bytes:=by simp[Program.bytesOf,hi]
 have PV:m≤9223372036854775807:=by
  have h1:m.toNat*1≤m.toNat*P.bytesOf e:=vZ _ (xX ao);simp only[aW] at ew;omega
 have cI:=run_make (P:=P) w t e i z hu hi hz kl kc n m h0 pM (by
  rw[nW] at ew;simp only[aW] at ew;grind) PV
 have hlen:(List.replicate n.toNat (dw P e (jd P e))).length=n.toNat:=by simp
 obtain ⟨n1,n2,n3⟩:=aiH S (cap:=m.toNat) (es:=List.replicate n.toNat (dw P e (jd P e))) (C0:=madeCells z.cells (m.toNat*i.size)) ao hn (by rw[size_madeCells,h3]) (by omega) (by simp only[maxLen];omega)
  (by rw[h3];exact X3 fB hi hz n.toNat m.toNat (by omega))
 refine ⟨_,_,_,_,cI,n1,n2,?_⟩;rw[hlen] at n3;exact n3
theorem Pure.one {t:TypeId} {v:Value} {x:V} (h:Pure P w I t v x):v.oneCell'=true:=by cases h<;>rfl
structure Row (P:Program) (w:World) (I:Nat→Nat→Prop) (e:TypeId) (v:Value) (xs:List V) (a:Addr) (c:Nat) (news:List Value):Prop where
 val:v= .slice (some a) xs.length c
 len:news.length=xs.length*P.cellsOf e
 cell: ∀(j:Nat) u,news[j]? =some u→w.cell? (a.add j)=some u
 el: ∀(i j:Nat) (x:V) (t':TypeId),xs[i]? =some x→(aT P e)[j]? =some t'→j<P.cellsOf e→∃u,news[i*P.cellsOf e+j]? =some u∧Pure P w I t' u (ca P e x j)
theorem Row.one {e:TypeId} {v:Value} {xs:List V} {a:Addr} {c:Nat} {news:List Value} (h:Row P w I e v xs a c news) (ao:cW P e=true): ∀u∈news,u.oneCell'=true:=by
 intro u hu;obtain ⟨k,hk⟩:=sI hu;have tj:=(cu.1 hk).1;have eQ:=(og ao).2;rw[h.len] at tj;have hi:k/P.cellsOf e<xs.length:=Nat.div_lt_of_lt_mul (by grind);have hj:k %P.cellsOf e<P.cellsOf e:=xI _ eQ;have dZ:k %P.cellsOf e<(aT P e).length:=by rw[fx ao];exact hj
 obtain ⟨u',lC,hp⟩:=h.el (k/P.cellsOf e) (k %P.cellsOf e) _ _ (bU hi) (bU dZ) hj;rw[Nat.div_add_mod'] at lC;rw[hk] at lC;cases lC;exact hp.one
theorem X6 {e T:TypeId} {es:List V} {b:Nat} {Ca:Array Value} {off len cap o:Nat} (hh:w.heap[b]? =some (.cells Ca T (0,0))) (hs:es.length*P.cellsOf e≤Ca.size)
  (hx: ∀(i j:Nat) (x:V) (t':TypeId),es[i]? =some x→(aT P e)[j]? =some t'→j<P.cellsOf e→∃v,Ca[i*P.cellsOf e+j]? =some v∧Pure P w I t' v (ca P e x j))
  (mw:off+len≤es.length) (ho:0<len→o=off*P.cellsOf e):
  Row P w I e (.slice (some ⟨b,o,none⟩) len cap) ((es.drop off).take len) ⟨b,o,none⟩ cap ((Ca.toList.drop (off*P.cellsOf e)).take (len*P.cellsOf e)):=by
 have hlen:((es.drop off).take len).length=len:=by simp;omega
 have hb:(off+len)*P.cellsOf e≤Ca.size:=oc (eZ _ mw) hs;rw[kW] at hb;refine ⟨by rw[hlen],by grind,fun j u hj=> ?_,fun i j x t' mY ht hj=> ?_⟩
 ·have dh:=(cu.1 hj).1;have aiL:j<len*P.cellsOf e:=by
   grind
  have my:0<len:=by
   grind
  rw[jr aiL,qx] at hj;rw[nR,cell?_cells hh,ho my];grind
 ·have hi:i<len:=by grind
  rw[jr hi,qx] at mY;obtain ⟨u,hu,hp⟩:=hx (off+i) j x t' mY ht hj;refine ⟨u,?_,hp⟩;have:i*P.cellsOf e+j<len*P.cellsOf e:=by
   have:(i+1)*P.cellsOf e≤len*P.cellsOf e:=eZ _ hi;grind
  grind
theorem Ff (cL: ∀id blk,hp id=some blk→eV P w I β hp (β id) blk) {e:TypeId} {v:Value} {x:V} {k:List V→Rd R} {r:R} {rd:List Nat} (ao:cW P e=true) (hv:aj P w I β hp v x)
  (h:(ur e x k).run C hp=some (r,rd)): ∃xs,(((∃a,v= .slice a 0 0)∧xs=[])∨∃a c news,Row P w I e v xs a c news)∧∃l,(k xs).run C hp=some (r,l):=by
 cases hv with
 | list hp'=>
  obtain ⟨hc,h2⟩:=az h;clear h;rw[aK] at hc;subst hc;cases hp' with
  | nil=>grind
  | @emp a cap=>exact ⟨[],.inr ⟨a,cap,[],⟨rfl,by simp,fun j u hj=>by simp at hj,fun i j x t' hx _ _=>by simp at hx⟩⟩,rd,h2⟩
  | @list b o len cap es g hl bK hI gF hx=>
   refine ⟨_,.inr ⟨⟨b,o,none⟩,cap,(List.range (len*P.cellsOf e)).map fun k=>g (k/P.cellsOf e) (k %P.cellsOf e),⟨by rw[hl],by grind,fun j u hj=> ?_,fun i j x t' mY ht hj=> ?_⟩⟩,rd,h2⟩
   ·obtain ⟨dh,ye⟩:=cu.1 hj;simp at dh ye;have eQ:=(og ao).2;have hi:j/P.cellsOf e<len:=Nat.div_lt_of_lt_mul (by grind);have dN:j %P.cellsOf e<P.cellsOf e:=xI _ eQ;rw[nR,←ye];have:=gF (j/P.cellsOf e) (j %P.cellsOf e) hi dN;rwa [Nat.div_add_mod'] at this
   ·have hi:i<len:=by grind
    have hb:i*P.cellsOf e+j<len*P.cellsOf e:=by
     have:(i+1)*P.cellsOf e≤len*P.cellsOf e:=eZ _ hi;grind
    refine ⟨g i j,?_,hx i j x t' mY ht⟩;have e1:(i*P.cellsOf e+j)/P.cellsOf e=i:=by
     rw[xJ,Nat.mul_add_div (og ao).2,Nat.div_eq_of_lt hj,Nat.add_zero]
    have e2:(i*P.cellsOf e+j) %P.cellsOf e=j:=by
     rw[xJ,Nat.mul_add_mod];exact Nat.mod_eq_of_lt hj
    grind
 | nl=>cases h
 | nilS=>
  obtain ⟨hc,h⟩:=az h;grind
 | dS ae hb=>
  obtain ⟨l,h⟩:=run_get h;simp only[ae] at h;obtain ⟨hc,h⟩:=az h;grind
 | @whole e' id es fz b cap ae hb aZ bK hm=>
  obtain ⟨l,h⟩:=run_get h;simp only[ae] at h;obtain ⟨hc,h2⟩:=az h;clear h;simp only[aI,aK] at hc;obtain ⟨rfl,_⟩:=hc;have hr:=cL _ _ ae;cases hr with
  | eA au=>grind
  | arr hL OO au hh hs hf fE hx=>
   rw[hb] at au;cases au;have:=X6 (cap:=cap) (off:=0) (len:=es.length) (o:=0) hh hs hx (by omega) (fun _=>by simp);grind
 | iW ae hb=>
  obtain ⟨l,h⟩:=run_get h;simp only[ae] at h;obtain ⟨hc,h⟩:=az h;grind
 | @sub e' id off len es fz b o cap ae hb mw bK ho=>
  obtain ⟨l,h⟩:=run_get h;simp only[ae] at h;obtain ⟨hc,h2⟩:=az h;clear h;simp only[aI,aK] at hc;obtain ⟨rfl,_⟩:=hc;have hr:=cL _ _ ae;cases hr with
  | eA au=>grind
  | arr hL OO au hh hs hf fE hx=>
   rw[hb] at au;cases au;exact ⟨_,.inr ⟨_,_,_,X6 (cap:=cap) hh hs hx mw ho⟩,l,h2⟩
 | dX ae=>
  obtain ⟨l,h⟩:=run_get h;simp only[ae] at h;cases h
 | jB ae=>
  obtain ⟨l,h⟩:=run_get h;simp only[ae] at h;cases h
 | undef=>cases h
 | int=>cases h
 | bool=>cases h
 | str=>cases h
 | agg=>cases h
 | ba=>cases h
 | eB=>cases h
 | fn=>cases h
 | pref=>cases h
 | mq=>cases h
 | ptr=>cases h
 | mr=>cases h
 | mu=>cases h
 | row=>cases h
 | dD=>cases h
 | e8=>cases h
 | lj=>cases h
 | cO=>cases h
 | ee ae=>
  obtain ⟨l,h⟩:=run_get h;simp only[ae] at h;cases h
 | fw ae=>
  obtain ⟨l,h⟩:=run_get h;simp only[ae] at h;cases h
 | dI ae=>
  obtain ⟨l,h⟩:=run_get h;simp only[ae] at h;cases h
theorem BQ {t ty e:TypeId} {i:TypeInfo} (ht:P.underlying t=some (.slice e)) (hi:P.info? e=some i) (a:Option Addr) (n cap:Nat) (x:Value) (hx: ∃a c,x= .slice a 0 c) (hn:n≤cap):
  (Builtin.append_ #[t,t] ty #[.slice a n cap,x]).run P w= .ok (.slice a n cap) w:=by
 obtain ⟨a',c,rfl⟩:=hx;cases a' with
 | none=>cases a<;>simp[Builtin.append_,run_underlying ht,sizeOf,typeInfo,hi,Builtin.lenOf,Builtin.firstCells,hn,storeCells]
 | some a'=>cases a<;>simp[Builtin.append_,run_underlying ht,sizeOf,typeInfo,hi,Builtin.lenOf,Builtin.firstCells,hn,storeCells,loadCells,loadCellsFrom]
theorem Kq {e:TypeId} {es xs:List V} {n:Nat} {c:List Value} {news:List Value} (hn:es.length=n)
  (h1: ∀(i j:Nat) (x:V) (t':TypeId),es[i]? =some x→(aT P e)[j]? =some t'→j<P.cellsOf e→∃v,c[i*P.cellsOf e+j]? =some v∧Pure P w I t' v (ca P e x j))
  (h2: ∀(i j:Nat) (x:V) (t':TypeId),xs[i]? =some x→(aT P e)[j]? =some t'→j<P.cellsOf e→∃v,news[i*P.cellsOf e+j]? =some v∧Pure P w I t' v (ca P e x j))
  (hb:n*P.cellsOf e≤c.length) (rest:List Value):
  ∀(i j:Nat) (x:V) (t':TypeId),(es++xs)[i]? =some x→(aT P e)[j]? =some t'→j<P.cellsOf e→∃v,(c.take (n*P.cellsOf e)++news++rest)[i*P.cellsOf e+j]? =some v∧Pure P w I t' v (ca P e x j):=by
 intro i j x t' hx ht hj;have hl:(c.take (n*P.cellsOf e)).length=n*P.cellsOf e:=by simp;omega
 by_cases hi:i<n
 ·rw[nG (by omega)] at hx;obtain ⟨v,hv,hp⟩:=h1 i j x t' hx ht hj;have:i*P.cellsOf e+j<n*P.cellsOf e:=by
   have:(i+1)*P.cellsOf e≤n*P.cellsOf e:=eZ _ hi;grind
  grind
 ·rw[oO (by omega),hn] at hx;obtain ⟨v,hv,hp⟩:=h2 (i-n) j x t' hx ht hj;have tk:i-n<xs.length:=(cu.1 hx).1;have e1:i*P.cellsOf e+j-n*P.cellsOf e=(i-n)*P.cellsOf e+j:=by
   rw[Nat.sub_mul];have:n*P.cellsOf e≤i*P.cellsOf e:=eZ _ (by omega);omega
  have h3:(i-n)*P.cellsOf e+j<news.length:=(cu.1 hv).1;refine ⟨v,?_,hp⟩;have h4:n*P.cellsOf e≤i*P.cellsOf e+j:=by
   have:n*P.cellsOf e≤i*P.cellsOf e:=eZ _ (by omega);omega
  grind
theorem Pure.drew {t:TypeId} {v:Value} {x:V} (h:Pure P w I t v x):Pure P w.drew I t v x:=Pure.mono (w:=w) (w':=w.drew) (fun _ _ h=>h) (fun _ _ _=>rfl) h
theorem X7 (w:World) (t ty e:TypeId) (i:TypeInfo) (z:Value) (ht:P.underlying t=some (.slice e)) (hi:P.info? e=some i) (hz:i.zero=some z)
  (a0:Option Addr) (a:Addr) (n c:Nat) (news:List Value) (hl:news.length=n*i.size) (tm: ∀j v,news[j]? =some v→w.cell? (a.add j)=some v)
  (h0:0<n) (Fg:(n:Int)≤9223372036854775807) (Kr:n*i.bytes≤281474976710656):
  (Builtin.append_ #[t,t] ty #[.slice a0 0 0,.slice (some a) n c]).run P w=
   .ok (.slice (some ⟨w.heap.size,0,none⟩) n (grownCap w n 0 e)) (w.drew.alloc (.cells (news.toArray++Builtin.zeroCells z.cells (grownCap w n 0 e-n)) e)):=by
 cases a0 with
 | none=>exact run_append_nil w t ty e i z ht hi hz a n c news hl tm h0 Fg Kr
 | some b=>
  have:=run_append_grow (P:=P) w t ty e i z ht hi hz b 0 0 [] (by simp) (by simp) a n c news hl tm (by omega) (by omega) (by rw[dt,nextslicecap_zero h0];omega);grind
theorem PW (S:ay P w I β hp B M w0) {t ty e:TypeId} {nb:Nat} {fz:Bool} {x:Value} {xs:List V} (hu:P.underlying t=some (.slice e)) (ao:cW P e=true) (hn:hp nb=none)
  (ew:xs.length*P.bytesOf e≤aW) {a0:Option Addr} (hx:((∃a,x= .slice a 0 0)∧xs=[])∨∃a c news,Row P w I e x xs a c news):
  ∃v w' β',(Builtin.append_ #[t,t] ty #[.slice a0 0 0,x]).run P w= .ok v w'∧Le P w I β hp w' I β' (an hp nb (some (.arr e xs fz)))∧ay P w' I β' (an hp nb (some (.arr e xs fz))) B M w0∧
   aj P w' I β' (an hp nb (some (.arr e xs fz))) v (.whole e nb):=by
 obtain ⟨i,z,hi,hz,h3,h4,_⟩:=kK ao;have u7:=xX ao;have nW:P.bytesOf e=i.bytes:=by simp[Program.bytesOf,hi]
 have hlen:xs.length≤2^45:=by
  have:xs.length*1≤xs.length*P.bytesOf e:=vZ _ u7;simp only[aW] at ew;omega
 have empty:xs=[]→(∃a c,x= .slice a 0 c)→∃v w' β',(Builtin.append_ #[t,t] ty #[.slice a0 0 0,x]).run P w= .ok v w'∧Le P w I β hp w' I β' (an hp nb (some (.arr e xs fz)))∧ay P w' I β' (an hp nb (some (.arr e xs fz))) B M w0∧
   aj P w' I β' (an hp nb (some (.arr e xs fz))) v (.whole e nb):=by
  intro jF PX;subst jF;obtain ⟨a1,a2⟩:=Ei S e hn;exact ⟨_,_,_,BQ hu hi a0 0 0 x PX (av _),a1,a2,.dS (bD _ _ _) (bD _ _ _)⟩
 rcases hx with ⟨⟨_,rfl⟩,rfl⟩|⟨a,c,news,hr⟩
 ·simp_all
 ·by_cases h0:xs.length=0
  ·have jF:xs=[]:=oL h0;refine empty jF ⟨some a,c,?_⟩;rw[hr.val,h0]
  ·have cI:=X7 (P:=P) w t ty e i z hu hi hz a0 a xs.length c news (by rw[hr.len,h3]) hr.cell (by omega) (by omega) (by rw[←nW];simp only[aW] at ew;omega);have p9:=grownCap_ge w xs.length 0 e;have sd:grownCap w xs.length 0 e≤maxLen:=grownCap_le_maxLen w xs.length 0 e (by simp only[maxLen];omega);obtain ⟨n1,n2,n3⟩:=BN S.drew (nb:=nb) (cap:=grownCap w xs.length 0 e) (es:=xs) (C0:=news.toArray++Builtin.zeroCells z.cells (grownCap w xs.length 0 e-xs.length)) ao hn
    (by simp only[IC,ry,size_zeroCells,h4,hr.len,←kW];grind) p9 sd
    (fun i' j y t' hy ht hj=>by
     obtain ⟨u,lC,hp⟩:=hr.el i' j y t' hy ht hj;have aY:=(cu.1 lC).1;refine ⟨u,?_,Pure.drew hp⟩;grind)
   rw[hr.val];exact ⟨_,_,_,cI,(Le.drew w I β hp).trans n1,n2,n3⟩
theorem X8 {P:Program} (w:World) (t ty e T:TypeId) (i:TypeInfo) (ht:P.underlying t=some (.slice e)) (hi:P.info? e=some i)
  (g mE u9:Nat) (cur:Array Value) (hg:w.heap[g]? =some (.cells cur T (0,0)))
  (a:Addr) (m c:Nat) (news:List Value) (hl:news.length=m*i.size) (tm: ∀j u,news[j]? =some u→w.cell? (a.add j)=some u) (h1: ∀u∈news,u.oneCell'=true)
  (tn:mE+m≤u9) (BR:mE*i.size+news.length≤cur.size):
  (Builtin.append_ #[t,t] ty #[.slice (some ⟨g,0,none⟩) mE u9,.slice (some a) m c]).run P w=
   .ok (.slice (some ⟨g,0,none⟩) (mE+m) u9) (w.setRow g (cur.toList.take (mE*i.size)++news++cur.toList.drop (mE*i.size+news.length)).toArray):=by
 have hf:=run_firstCells_some (P:=P) w i.size m a m c news hl tm;have dp:=run_storeCells_at P g (mE*i.size) T news 0 cur w hg (by omega) h1;simp only[Nat.add_zero] at dp;simp[Builtin.append_,run_underlying ht,sizeOf,typeInfo,hi,Builtin.lenOf,tn,hf,Addr.add_lit,dp]
theorem X9 (S:ay P w I β hp B M w0) {t ty e:TypeId} {nb id:Nat} {s x:Value} {es xs:List V} {fz:Bool} (hu:P.underlying t=some (.slice e)) (ao:cW P e=true) (hs:aj P w I β hp s (.whole e id)) (ae:hp id=some (.arr e es fz)) (hn:hp nb=none)
  (ew:Nat.ble ((es.length+xs.length)*P.bytesOf e) aW=true) (nj:((∃a,x= .slice a 0 0)∧xs=[])∨∃a c news,Row P w I e x xs a c news):
  dg P ((Builtin.append_ #[t,t] ty #[s,x]).run P w) w I β hp B M w0 ⟨.whole e nb,[(nb,.arr e (es++xs) fz),(id,.dead)]⟩:=by
 rw[fV] at ew;have bH:nb≠id:=fun e=>by grind
 obtain ⟨k1,k2⟩:=wB S ae;have jk:an hp id (some ah.dead) nb=none:=by rw[cw _ _ bH];exact hn
 cases hs with
 | dX hd=>grind
 | dI hd=>grind
 | ee hd=>grind
 | fw hd=>grind
 | dS hd hb=>
  rw[ae] at hd;cases hd;simp only[List.length_nil,dt] at ew;have aiM:((∃a,x= .slice a 0 0)∧xs=[])∨∃a c news,Row P w I e x xs a c news:=nj;obtain ⟨v,w',β',a1,a2,a3,a4⟩:=PW (ty:=ty) k2 hu ao jk ew aiM;exact ⟨v,w',I,β',a1,k1.trans a2,a3,a4⟩
 | @whole _ _ aJ oV b cap hd hb aZ bK hm=>
  rw[ae] at hd;cases hd;have hr:=S.h.rel id _ ae;cases hr with
  | eA au=>grind
  | @arr _ T _ _ b' Ca hL _ au hh wZ hf fE w5=>
   rw[hb] at au;cases au;obtain ⟨i,z,hi,hz,h3,h4,_⟩:=kK ao;have u7:=xX ao;have nW:P.bytesOf e=i.bytes:=by simp[Program.bytesOf,hi]
   have hlen:es.length+xs.length≤2^45:=by
    have:(es.length+xs.length)*1≤(es.length+xs.length)*P.bytesOf e:=vZ _ u7;simp only[aW] at ew;omega
   rw[lk hh] at aZ;have pT: ∀aq blk',an hp id (some ah.dead) aq=some blk'→¬bd P w (β aq) blk' b:=by
    intro aq blk' h1 h2;by_cases nh:aq=id
    ·subst nh;rw[bD] at h1;cases h1;exact h2.alive rfl
    ·rw[cw _ _ nh] at h1;exact nh (S.h.inj aq id blk' _ b h1 ae h2 (.root (by simp) hb))
   have Fh:=S.h.wx id _ b ae (by simp) hb;have room: ∀(C':Array Value) (w':World) (ys:List V),w'.heap[b]? =some (.cells C' T (0,0))→C'.size=Ca.size→(∀b',b'≠b→w'.heap[b']? =w.heap[b']?)→w.heap.size≤w'.heap.size→(w'.os=w.os∧w'.output=w.output)→ys.length≤cap→es.length≤ys.length→(∀j,j<es.length*P.cellsOf e→C'[j]? =Ca[j]?)→
     (∀(i j:Nat) (y:V) (t':TypeId),ys[i]? =some y→(aT P e)[j]? =some t'→j<P.cellsOf e→∃v,C'[i*P.cellsOf e+j]? =some v∧Pure P w I t' v (ca P e y j))→
     Le P w I β hp w' I (an β nb (some b)) (an (an hp id (some .dead)) nb (some (.arr e ys fz)))∧ay P w' I (an β nb (some b)) (an (an hp id (some .dead)) nb (some (.arr e ys fz))) B M w0∧
     aj P w' I (an β nb (some b)) (an (an hp id (some .dead)) nb (some (.arr e ys fz))) (.slice (some ⟨b,0,none⟩) ys.length cap) (.whole e nb):=by
    intro C' w' ys hC pc hw' hwz aiN wY hey qS hy;have hIn:=PS hf fE;obtain ⟨a1,a2⟩:=Bi k2 (blk:= .arr e ys fz) (w':=w') jk pT (XY hh hC hIn qS) (fun b' h _=>hw' b' h) hwz aiN Fh
     (fun b' h=>(dM (h.flat (by simp))).symm) (fun hle=> .arr (pc▸hL) ao rfl hC (by rw[pc,←aZ];exact eZ _ wY) (fun _ j h=>oK (hIn j h) (eZ _ hey)) fE fun i j y t' a b c=>by
      obtain ⟨v,hv,hp⟩:=hy i j y t' a b c;exact ⟨v,hv,hp.mono hle.ej hle.cH⟩)
    refine ⟨k1.trans a1,a2,.whole (bD _ _ _) (bD _ _ _) ?_ wY hm⟩;rw[lk hC,pc,aZ]
   have same:xs=[]→(∃a c,x= .slice a 0 c)→dg P ((Builtin.append_ #[t,t] ty #[.slice (some ⟨b,0,none⟩) es.length cap,x]).run P w) w I β hp B M w0 ⟨.whole e nb,[(nb,.arr e (es++xs) fz),(id,.dead)]⟩:=by
    intro jF PX;subst jF;rw[ug];obtain ⟨a1,a2,a3⟩:=room Ca w es hh rfl (fun _ _=>rfl) (av _) ⟨rfl,rfl⟩ bK (av _) (fun _ _=>rfl) w5;exact ⟨_,_,_,_,BQ hu hi _ _ _ x PX bK,a1,a2,a3⟩
   rcases nj with ⟨⟨_,rfl⟩,rfl⟩|⟨a,c,news,cR⟩
   ·grind
   ·have h1:=cR.one ao;have qQ:es.length*P.cellsOf e≤Ca.toList.length:=by omega
    by_cases tn:es.length+xs.length≤cap
    ·have BR:es.length*P.cellsOf e+news.length≤Ca.size:=by rw[cR.len,←kW,←aZ];exact eZ _ tn
     have cI:=X8 (P:=P) w t ty e T i hu hi b es.length cap Ca hh a xs.length c news (by rw[cR.len,h3]) cR.cell h1 tn (by grind);rw[h3] at cI;have fB:=Kq (P:=P) (w:=w) (I:=I) (n:=es.length) (c:=Ca.toList) rfl (fun i j y t' a b c=>by
      grind) cR.el qQ (Ca.toList.drop (es.length*P.cellsOf e+news.length))
     obtain ⟨a1,a2,a3⟩:=room (Ca.toList.take (es.length*P.cellsOf e)++news++Ca.toList.drop (es.length*P.cellsOf e+news.length)).toArray (w.setRow b _) (es++xs)
      (setRow_heap w b Ca _ T _ hh) (by simp;omega) (fun b' au=>setRow_other w b b' _ au) (by simp) ⟨rfl,rfl⟩ (by grind) (by simp) (fun j hj=>by
        grind)
      (fun i j y t' a b c=>by
       grind)
     rw[cR.val];rw[ik] at a3;exact ⟨_,_,_,_,cI,a1,a2,a3⟩
    ·have hold: ∀(j:Nat) v,(Ca.toList.take (es.length*P.cellsOf e))[j]? =some v→w.cell? ((⟨b,0,none⟩:Addr).add j)=some v:=by
      intro j v hj;have dh:=(cu.1 hj).1;have dN:j<es.length*P.cellsOf e:=by grind
      rw[jr dN] at hj;rw[nR,cell?_cells hh,dt];grind
     have cI:=run_append_grow (P:=P) w t ty e i z hu hi hz ⟨b,0,none⟩ es.length cap (Ca.toList.take (es.length*P.cellsOf e)) (by grind) hold a xs.length c news (by rw[cR.len,h3]) cR.cell (by omega) (by omega)
      (growslice_fits (by omega) (by rw[←nW];simp only[aW] at ew;omega))
     have p9:=grownCap_ge w (es.length+xs.length) cap e;have sd:grownCap w (es.length+xs.length) cap e≤maxLen:=grownCap_le_maxLen w _ cap e (by simp only[maxLen];omega);have fB:=Kq (P:=P) (w:=w) (I:=I) (n:=es.length) (c:=Ca.toList) rfl (fun i j y t' a b c=>by
      grind) cR.el qQ (Builtin.zeroCells z.cells (grownCap w (es.length+xs.length) cap e-(es.length+xs.length))).toList
     obtain ⟨n1,n2,n3⟩:=BN k2.drew (nb:=nb) (cap:=grownCap w (es.length+xs.length) cap e) (es:=es++xs)
      (C0:=(Ca.toList.take (es.length*P.cellsOf e)).toArray++news.toArray++Builtin.zeroCells z.cells (grownCap w (es.length+xs.length) cap e-(es.length+xs.length))) ao jk
      (by
       have e1:(Ca.toList.take (es.length*P.cellsOf e)).length=es.length*P.cellsOf e:=by simp;omega
       simp only[IC,ry,size_zeroCells,h4,cR.len,e1,←kW];grind) (by grind) sd
      (fun i j y t' a b c=>by
       obtain ⟨v,hv,hp⟩:=fB i j y t' a b c;refine ⟨v,?_,Pure.drew hp⟩;grind)
     rw[cR.val];rw[ik] at n3;exact ⟨_,_,_,_,cI,(k1.trans (Le.drew w I β _)).trans n1,n2,n3⟩
theorem aiO (S:ay P w I β hp B M w0) {t ty e:TypeId} {nb:Nat} {s x:Value} {sv xv:V} {r:R} {rd:List Nat} (hu:P.underlying t=some (.slice e)) (hs:aj P w I β hp s sv) (hx:aj P w I β hp x xv)
  (h:(AY P nb e sv xv).run C hp=some (r,rd)):dg P ((Builtin.append_ #[t,t] ty #[s,x]).run P w) w I β hp B M w0 r:=by
 unfold AY at h;obtain ⟨ao,h⟩:=az h;obtain ⟨xs,nj,l0,h⟩:=Ff S.h.rel ao hx h;cases sv with
 | nilS e'=>
  obtain ⟨hc,h⟩:=az h;simp only[aI,aK,fV] at hc;obtain ⟨hn,rfl⟩:=mD h;obtain ⟨a0,rfl⟩: ∃a0,s= .slice a0 0 0:=by cases hs;grind
  obtain ⟨v,w',β',a1,a2,a3,a4⟩:=PW (ty:=ty) S hu ao hn hc.2 nj;exact ⟨v,w',I,β',a1,a2,a3,a4⟩
 | whole e' id=>
  obtain ⟨l,h⟩:=run_get h;cases ae:hp id with
  | none=>rw[ae] at h;cases h
  | some blk=>
   rw[ae] at h;cases blk with
   | dead=>cases h
   | var _=>cases h
   | nest _ _ _=>cases h
   | map _ _=>cases h
   | out _ _ _ _=>cases h
   | arr dW es fz=>
    obtain ⟨hc,h⟩:=az h;obtain ⟨hn,rfl⟩:=mD h;simp only[aI,aK,fV] at hc;obtain ⟨PY,PZ,ew⟩:=hc;subst PY;subst PZ;exact X9 S hu ao hs ae hn (by simp_all) nj
 | _=>cases h
end
section
variable {P:Program} {w w':World} {I I':Nat→Nat→Prop} {β β':Nat→Option Nat} {hp hp':Nat→Option ah} {C:af} {B:Nat} {M:Nat→Prop} {w0:Start}
theorem run_copy_none (w:World) {dT sT ty elem:TypeId} {i:TypeInfo} (a0:Option Addr) (Ya aiP:Nat) (a1:Option Addr) (mE u9:Nat) (hu:P.underlying dT=some (.slice elem)) (hi:P.info? elem=some i) (h0:Nat.min mE Ya=0):
  (Builtin.copy_ #[dT,sT] ty #[.slice a0 Ya aiP,.slice a1 mE u9]).run P w= .ok (goInt 0) w:=by
 cases a0<;>cases a1<;>simp[Builtin.copy_,run_underlying hu,Builtin.lenOf,Builtin.firstCells,sizeOf,typeInfo,hi,h0,storeCells,loadCells,loadCellsFrom]
theorem aiQ (S:ay P w I β hp B M w0) {t u ty e:TypeId} {s x:Value} {sv xv:V} {r:R} {rd:List Nat} (hu:P.underlying t=some (.slice e)) (hs:aj P w I β hp s sv) (hx:aj P w I β hp x xv)
  (h:(Oi P e sv xv).run C hp=some (r,rd)):dg P ((Builtin.copy_ #[t,u] ty #[s,x]).run P w) w I β hp B M w0 r:=by
 unfold Oi at h;obtain ⟨ao,h'⟩:=az h;clear h;simp only[aI,aK] at ao;obtain ⟨ao,h1⟩:=ao;obtain ⟨xs,nj,l0,h⟩:=Ff S.h.rel ao hx h';obtain ⟨i,z,hi,hz,aZ,_⟩:=kK ao;cases sv<;>simp only at h<;>first|(cases h;done)|skip
 rename_i e' id;obtain ⟨l,h2⟩:=run_get h;clear h;cases ae:hp id with
 | none=>rw[ae] at h2;cases h2
 | some blk=>
  rw[ae] at h2;cases blk<;>simp only at h2<;>first|(cases h2;done)|skip
  rename_i e2 es fz;cases fz with
  | true=>cases h2
  | false=>
  obtain ⟨hc,h3⟩:=az h2;simp only[aI,aK] at hc;obtain ⟨rfl,rfl⟩:=hc;obtain rfl:=aL h3;have tp:min xs.length es.length=0→(Builtin.copy_ #[t,u] ty #[s,x]).run P w= .ok (goInt 0) w→dg P ((Builtin.copy_ #[t,u] ty #[s,x]).run P w) w I β hp B M w0 ⟨.int .i64 (min xs.length es.length:Nat),[(id,.arr e (xs.take es.length++es.drop xs.length) false)]⟩:=by
   intro h0 hr;have he:xs.take es.length++es.drop xs.length=es:=by
    rcases Nat.le_total xs.length es.length with hl|hl
    ·have:xs=[]:=oL (by omega);simp[this]
    ·have:es=[]:=oL (by omega);simp[this]
   have iH:b9 hp [(id,.arr e (xs.take es.length++es.drop xs.length) false)]=hp:=by
    rw[he];exact Ow hp id _ ae
   refine ⟨goInt 0,w,I,β,hr,?_⟩;simp only[iH,h0];exact ⟨Le.refl w I β hp,S,.int⟩
  cases hs with
  | dX hd=>rw[ae] at hd;cases hd
  | dI hd=>rw[ae] at hd;cases hd
  | ee hd=>rw[ae] at hd;cases hd
  | fw hd=>rw[ae] at hd;cases hd
  | @dS _ _ fz a hd hb=>
   rw[ae] at hd;cases hd;refine tp (by simp) ?_;rcases nj with ⟨⟨a',rfl⟩,rfl⟩|⟨a',c,news,cR⟩
   ·exact run_copy_none w _ _ _ _ _ _ hu hi (by simp)
   ·rw[cR.val];exact run_copy_none w _ _ _ _ _ _ hu hi (by simp)
  | @whole _ _ aJ oV b cap hd hb BT bK hm=>
   have fK:=hd;rw[ae] at hd;cases hd;rcases nj with ⟨⟨a',rfl⟩,rfl⟩|⟨a',c,news,cR⟩
   ·exact tp (by simp) (run_copy_none w _ _ _ _ _ _ hu hi (by simp))
   have hr:=S.h.rel id _ ae;cases hr with
   | eA au=>rw[au] at hb;cases hb
   | @arr _ T0 _ _ b' Ca hL _ au hh wZ hf fE w5=>
    rw[hb] at au;cases au;have mz:news.length=xs.length:=by rw[cR.len,h1,im]
    rw[h1,im] at wZ;have j8:(news.take es.length).length=Nat.min xs.length es.length:=by
     rw[mN,mz,Nat.min_comm]
    have Ka:Nat.min xs.length es.length=min xs.length es.length:=rfl;have cI:=run_copy_row (P:=P) w t u ty e b 0 es.length cap a' xs.length c Ca T0 (news.take es.length) hu (by rw[hi];simp[aZ,h1]) hh j8
     (fun j v hj=>cR.cell j v (by
      have:=(cu.1 hj).1;rw[mN] at this;rwa [jr (by omega)] at hj)) (by rw[j8,Ka];omega) (fun v hv=>cR.one ao v (List.mem_of_mem_take hv))
    rw[cR.val];have hq:(goInt (news.take es.length).length)= .int .i64 ((min xs.length es.length:Nat):Int):=by rw[j8];rfl
    have nQ:(xs.take es.length++es.drop xs.length).length=es.length:=by simp;omega
    have pc:(Ca.toList.take 0++news.take es.length++Ca.toList.drop (0+(news.take es.length).length)).toArray.size=Ca.size:=by
     simp only[ry,ik,AJ,mN,j8,Ka];simp;omega
    obtain ⟨a1,a2⟩:=Jv S (blk':= .arr e (xs.take es.length++es.drop xs.length) false) (Cb:=(Ca.toList.take 0++news.take es.length++Ca.toList.drop (0+(news.take es.length).length)).toArray) ae (by simp) ⟨rfl,nQ.symm⟩ hb (fE rfl) (by simp) hh pc
     (fun hle dE=> .arr (by rw[pc];exact hL) ao rfl dE (by rw[pc,nQ,h1,im];exact wZ) (fun h=>by cases h) (fun _=>fE rfl) fun i j y t' hy ht hj=>by
      rw[h1] at hj⊢;obtain rfl:j=0:=by omega
      rw[im,Nat.add_zero];have pY:=(cu.1 hy).1;rw[nQ] at pY;by_cases va:i<xs.length
      ·rw[nG (by rw[mN];omega),jr pY] at hy;obtain ⟨u',k1,k2⟩:=cR.el i 0 y t' hy ht (by omega);rw[h1,im,Nat.add_zero] at k1;refine ⟨u',?_,k2.mono hle.ej hle.cH⟩;simp only[List.take_zero,List.nil_append,oM];rw[nG (by rw[mN];omega),jr pY];exact k1
      ·have e1:(xs.take es.length).length=xs.length:=by rw[mN];omega
       rw[oO (by omega),e1,qx,show xs.length+(i-xs.length)=i by omega] at hy;obtain ⟨u',k1,k2⟩:=w5 i 0 y t' hy ht (by omega);rw[h1,im,Nat.add_zero] at k1;refine ⟨u',?_,k2.mono hle.ej hle.cH⟩;simp only[List.take_zero,List.nil_append,oM,dt];have e2:(news.take es.length).length=xs.length:=by rw[mN];omega
       rw[oO (by omega),e2,qx,show xs.length+(i-xs.length)=i by omega];simpa using k1)
    exact ⟨_,_,_,_,cI,a1,a2,by rw[hq];exact .int⟩
theorem aiR (S:ay P w I β hp B M w0) {t ty e:TypeId} {x:Value} {xv:V} {r:R} {rd:List Nat} (hu:P.underlying t=some (.slice e)) (hx:aj P w I β hp x xv)
  (h:(Oh P e xv).run C hp=some (r,rd)):dg P ((Builtin.clear_ #[t] ty #[x]).run P w) w I β hp B M w0 r:=by
 unfold Oh at h;obtain ⟨fB,h'⟩:=az h;clear h;have ao:cW P e=true:=by
  unfold oP at fB;simp only[aI] at fB;exact fB.1
 obtain ⟨i,z,hi,hz,aZ,Fi,hzp⟩:=Fe (w:=w) (I:=I) fB;have eQ:=(og ao).2;cases xv<;>simp only at h'<;>first|(cases h';done)|skip
 rename_i e' id off len;obtain ⟨l,h2⟩:=run_get h';clear h';cases ae:hp id with
 | none=>rw[ae] at h2;cases h2
 | some blk=>
  rw[ae] at h2;cases blk<;>simp only at h2<;>first|(cases h2;done)|skip
  rename_i e2 es fz;cases fz with
  | true=>cases h2
  | false=>
  obtain ⟨hc,h3⟩:=az h2;simp only[aI,aK] at hc;obtain ⟨rfl,rfl⟩:=hc;obtain rfl:=aL h3;have tp:len=0→(Builtin.clear_ #[t] ty #[x]).run P w= .ok (.tuple #[]) w→dg P ((Builtin.clear_ #[t] ty #[x]).run P w) w I β hp B M w0 ⟨.ba [],[(id,.arr e (es.take off++(List.replicate len (dw P e (jd P e))++es.drop (off+len))) false)]⟩:=by
   intro h0 hr;subst h0;have iH:b9 hp [(id,.arr e (es.take off++(List.replicate 0 (dw P e (jd P e))++es.drop (off+0))) false)]=hp:=by
    simp only[List.replicate_zero,List.nil_append,Nat.add_zero,List.take_append_drop];exact Ow hp id _ ae
   refine ⟨.tuple #[],w,I,β,hr,?_⟩;simp only[iH];exact ⟨Le.refl w I β hp,S,.ba rfl fun j v x hj hx=>by simp at hx⟩
  cases hx with
  | jB hd=>rw[ae] at hd;cases hd
  | @iW _ _ _ a0 hd hb=>exact tp rfl (by cases a0<;>simp[Builtin.clear_,run_underlying hu])
  | @sub _ _ _ _ aJ oV b o cap hd hb mw bK ho=>
   by_cases hlen:len=0
   ·refine tp hlen ?_;subst hlen;simp[Builtin.clear_,run_underlying hu]
   have aiS:0<len:=by omega
   have fK:=hd;rw[ae] at hd;cases hd;have hr:=S.h.rel id _ ae;cases hr with
   | eA au=>rw[au] at hb;cases hb
   | @arr _ T0 _ _ b' Ca hL _ au hh wZ hf fE w5=>
    rw[hb] at au;cases au;have ho:=ho aiS;subst ho;have yM:(Builtin.zeroCells z.cells len).toList.length=len*P.cellsOf e:=by rw[Array.length_toList,size_zeroCells,Fi]
    have hmul:off*P.cellsOf e+len*P.cellsOf e≤es.length*P.cellsOf e:=by rw[←kW];exact eZ _ mw
    have p8: ∀v∈(Builtin.zeroCells z.cells len).toList,v.oneCell'=true:=by
     intro v hv;obtain ⟨k,hk⟩:=sI hv;have tj:=(cu.1 hk).1;rw[yM] at tj;have hzg:(Builtin.zeroCells z.cells len)[k]? =z.cells[k %z.cells.size]? :=X2 (z:=z.cells) (n:=len*z.cells.size) (by rw[Fi];exact tj) (by rw[Fi];exact eQ);rw[rz,hzg] at hk;have hm:k %z.cells.size<P.cellsOf e:=by rw[Fi];exact xI _ eQ
     have htl:k %z.cells.size<(aT P e).length:=by rw[fx ao];exact hm
     obtain ⟨v',uZ,hp'⟩:=hzp (k %z.cells.size) _ (bU htl) hm;rw[hk] at uZ;cases uZ;exact hp'.1.one
    have dp:=run_storeCells_at P b (off*P.cellsOf e) T0 (Builtin.zeroCells z.cells len).toList 0 Ca w hh (by rw[yM];omega) p8;simp only[Nat.add_zero] at dp;have cI:(Builtin.clear_ #[t] ty #[.slice (some ⟨b,off*P.cellsOf e,none⟩) len cap]).run P w= .ok (.tuple #[]) (w.setRow b (Ca.toList.take (off*P.cellsOf e)++(Builtin.zeroCells z.cells len).toList++Ca.toList.drop (off*P.cellsOf e+(Builtin.zeroCells z.cells len).toList.length)).toArray):=by
     obtain ⟨n,rfl⟩: ∃n,len=n+1:=⟨len-1,by omega⟩
     simp[Builtin.clear_,run_underlying hu,zeroValue,typeInfo,hi,hz,dp]
    have nQ:(es.take off++(List.replicate len (dw P e (jd P e))++es.drop (off+len))).length=es.length:=by simp;omega
    have pc:(Ca.toList.take (off*P.cellsOf e)++(Builtin.zeroCells z.cells len).toList++Ca.toList.drop (off*P.cellsOf e+(Builtin.zeroCells z.cells len).toList.length)).toArray.size=Ca.size:=by
     simp only[ry,ik,AJ,mN,yM,Array.length_toList];omega
    obtain ⟨a1,a2⟩:=Jv S (blk':= .arr e (es.take off++(List.replicate len (dw P e (jd P e))++es.drop (off+len))) false) ae (by simp) ⟨rfl,nQ.symm⟩ hb (fE rfl) (by simp) hh pc
     (fun hle dE=> .arr (by rw[pc];exact hL) ao rfl dE (by rw[pc,nQ];exact wZ) (fun h=>by cases h) (fun _=>fE rfl) fun i' j y t' hy ht hj=>by
      have se:=qJ es (List.replicate len (dw P e (jd P e))) off i' (by simp;omega);rw[v5] at se;rw[se] at hy;have hC:(Ca.toList.take (off*P.cellsOf e)++(Builtin.zeroCells z.cells len).toList++Ca.toList.drop (off*P.cellsOf e+(Builtin.zeroCells z.cells len).toList.length)).toArray[i'*P.cellsOf e+j]? =
        if i'*P.cellsOf e+j<off*P.cellsOf e then Ca.toList[i'*P.cellsOf e+j]? else if i'*P.cellsOf e+j<off*P.cellsOf e+len*P.cellsOf e then (Builtin.zeroCells z.cells len).toList[i'*P.cellsOf e+j-off*P.cellsOf e]? else Ca.toList[i'*P.cellsOf e+j]? :=by
       have:=qJ Ca.toList (Builtin.zeroCells z.cells len).toList (off*P.cellsOf e) (i'*P.cellsOf e+j) (by rw[yM,Array.length_toList];omega);rw[oM,la,this,yM]
      by_cases BU:i'<off
      ·rw[aE BU] at hy;have:(i'+1)*P.cellsOf e≤off*P.cellsOf e:=eZ _ BU;rw[kW] at this;rw[dv] at hC;obtain ⟨u,k1,k2⟩:=w5 i' j y t' hy ht hj;exact ⟨u,hC.trans (by simpa using k1),k2.mono hle.ej hle.cH⟩
      ·rw[aF BU] at hy;have h1:off*P.cellsOf e≤i'*P.cellsOf e:=eZ _ (by omega);rw[dA] at hC;by_cases tk:i'<off+len
       ·rw[aE tk] at hy;have:(i'+1)*P.cellsOf e≤(off+len)*P.cellsOf e:=eZ _ tk;rw[kW,kW] at this;rw[dv] at hC;obtain ⟨v,k1,k2⟩:=PT (w:=w) (I:=I) fB hi hz len len (av _) (i'-off) j y t' hy ht hj;refine ⟨v,hC.trans ?_,k2.mono hle.ej hle.cH⟩;rw[show i'*P.cellsOf e+j-off*P.cellsOf e=(i'-off)*P.cellsOf e+j by rw[Nat.sub_mul];omega,rz];unfold Builtin.zeroCells;rw[Fi] at k1⊢;exact k1
       ·rw[aF tk] at hy;have:(off+len)*P.cellsOf e≤i'*P.cellsOf e:=eZ _ (by omega);rw[kW] at this;rw[dA] at hC;obtain ⟨u,k1,k2⟩:=w5 i' j y t' hy ht hj;exact ⟨u,hC.trans (by simpa using k1),k2.mono hle.ej hle.cH⟩)
    exact ⟨_,_,_,_,cI,a1,a2,.ba rfl fun j v x hj hx=>by simp at hx⟩
end
section
variable {P:Program} {w w':World} {I I':Nat→Nat→Prop} {β β':Nat→Option Nat} {hp hp':Nat→Option ah} {C:af} {B:Nat} {M:Nat→Prop} {w0:Start}
theorem Fj (S:ay P w I β hp B M w0) {nb b:Nat} {e e1:TypeId} {ys:List V} {C':Array Value} (hr:rowOf P e=some e1) (hn:hp nb=none)
  {T:TypeId} (uX:w'.heap[b]? =some (.cells C' T (0,0))) (hlen:ys.length≤C'.size)
  (hw: ∀b',b'≠b→b'<w.heap.size→w'.heap[b']? =w.heap[b']?) (aZ:w.heap.size≤w'.heap.size) (mV:w'.os=w.os∧w'.output=w.output) (hb:M b∨B≤b)
  (pT: ∀aq blk',hp aq=some blk'→¬bd P w (β aq) blk' b) (dd: ∀j,¬I b j) (K:Nat→Nat→List V→Prop)
  (gF: ∀(i:Nat) x,ys[i]? =some x→∃l v,x= .list e1 l∧C'[i]? =some v∧yH P w e1 (K i) v l)
  (hK: ∀i b1 l,K i b1 l→b1≠b∧b1<w.heap.size∧iG P w I b1 e1 l∧(M b1∨B≤b1)∧∀id blk,hp id=some blk→¬bd P w (β id) blk b1)
  (td: ∀i j b1 l m,K i b1 l→K j b1 m→i=j):
  Le P w I β hp w' I (an β nb (some b)) (an hp nb (some (.nest e ys [0,0,0])))∧ay P w' I (an β nb (some b)) (an hp nb (some (.nest e ys [0,0,0]))) B M w0:=by
 obtain ⟨p1,p2⟩:=XB (w:=w) (I:=I) (vers:=[0,0,0]) hr uX hlen dd K gF (fun i b1 l h=>⟨(hK i b1 l h).1,hw _ (hK i b1 l h).1 (hK i b1 l h).2.1,(hK i b1 l h).2.2.1⟩) td;refine V4 S hn pT (fun j h=>absurd h (dd j)) hw aZ mV hb (fun b' ho=> ?_) (fun hle=>p2 hle.cH);rcases p1 b' ho with h|⟨i,l,h⟩
 ·exact .inl h
 ·exact .inr ⟨(hK _ _ _ h).2.2.2.1,(hK _ _ _ h).2.2.2.2⟩
theorem aiT (S:ay P w I β hp B M w0) {t ty e:TypeId} {nb:Nat} {s x:Value} {sv xv:V} {r:R} {rd:List Nat} (hu:P.underlying t=some (.slice e)) (hs:aj P w I β hp s sv) (hx:aj P w I β hp x xv)
  (h:(Og P nb e sv xv).run C hp=some (r,rd)):dg P ((Builtin.append_ #[t,t] ty #[s,x]).run P w) w I β hp B M w0 r:=by
 unfold Og at h;obtain ⟨hro,ha⟩:=az h;clear h;obtain ⟨e1,hr⟩:=AL.1 hro;obtain ⟨uI,cE,ao,ov,ia⟩:=wX hr;have kI:aT P e=[e]:=by simp[aT,cE]
 have hk:P.cellsOf e=1:=by rw[←fx ao,kI];rfl
 obtain ⟨i,z,hi,hz,h3,h4,_⟩:=kK ao;have u7:=xX ao;have nW:P.bytesOf e=i.bytes:=by simp[Program.bytesOf,hi]
 rw[hk] at h3 h4;cases sv with
 | whole e' id=>
  obtain ⟨l0,hb⟩:=run_get ha;clear ha;cases ae:hp id with
  | none=>rw[ae] at hb;cases hb
  | some blk=>
   rw[ae] at hb;cases blk with
   | nest dW es vers=>
    obtain ⟨hc,hd⟩:=az hb;clear hb;simp only[aI,aK] at hc;obtain ⟨rfl,rfl⟩:=hc;cases xv with
    | nilS e3=>
     obtain ⟨_,he⟩:=az hd;cases he;obtain ⟨a0,rfl⟩: ∃a0,x= .slice a0 0 0:=by cases hx;exact ⟨_,rfl⟩
     cases hs with
     | dX hd=>rw[ae] at hd;cases hd
     | dS hd=>rw[ae] at hd;cases hd
     | whole hd=>rw[ae] at hd;cases hd
     | fw hd=>rw[ae] at hd;cases hd
     | ee hd hb=>exact ⟨_,_,_,_,BQ hu hi _ 0 0 _ ⟨_,_,rfl⟩ (av _),Le.refl ..,S,.ee hd hb⟩
     | dI hd hb aZ bK hm=>
      rw[ae] at hd;cases hd;exact ⟨_,_,_,_,BQ hu hi _ _ _ _ ⟨_,_,rfl⟩ bK,Le.refl ..,S,.dI ae hb aZ bK hm⟩
    | list e3 l=>
     obtain ⟨fY,he⟩:=az hd;simp only[aI,aK] at fY;obtain ⟨rfl,my⟩:=fY;have my:=vV.1 my;subst my;cases he;obtain ⟨a0,c0,rfl⟩: ∃a0 c0,x= .slice a0 0 c0:=by
      cases hx with
      | list hp'=>cases hp' with
       | nil=>exact ⟨_,_,rfl⟩
       | emp=>exact ⟨_,_,rfl⟩
       | list g b c d e=>exact ⟨_,_,by rw[←b];rfl⟩
     cases hs with
     | dX hd=>rw[ae] at hd;cases hd
     | dS hd=>rw[ae] at hd;cases hd
     | whole hd=>rw[ae] at hd;cases hd
     | fw hd=>rw[ae] at hd;cases hd
     | ee hd hb=>exact ⟨_,_,_,_,BQ hu hi _ 0 0 _ ⟨_,_,rfl⟩ (av _),Le.refl ..,S,.ee hd hb⟩
     | dI hd hb aZ bK hm=>
      rw[ae] at hd;cases hd;exact ⟨_,_,_,_,BQ hu hi _ _ _ _ ⟨_,_,rfl⟩ bK,Le.refl ..,S,.dI ae hb aZ bK hm⟩
    | whole e3 aH=>
     obtain ⟨l1,he⟩:=run_get hd;clear hd;cases di:hp aH with
     | none=>rw[di] at he;cases he
     | some cz=>
      rw[di] at he;cases cz with
      | nest e4 xs o0=>
       obtain ⟨hc,hf⟩:=az he;clear he;simp only[aI,aK,fV,mL,mK] at hc;obtain ⟨rfl,rfl,Yb,eQ,ew⟩:=hc;have bH:id≠aH:=fun h=>by rw[h,nF] at Yb;cases Yb
       obtain ⟨hn,rfl⟩:=mD hf;have hlen:es.length+xs.length≤2^45:=by
        have:(es.length+xs.length)*1≤(es.length+xs.length)*P.bytesOf e:=vZ _ u7;simp only[aW] at ew;omega
       obtain ⟨b2,Fk,fb,rfl⟩: ∃b2 Fk,β aH=some b2∧x= .slice (some ⟨b2,0,none⟩) xs.length Fk:=by
        cases hx with
        | dX hd=>rw[di] at hd;cases hd
        | dS hd=>rw[di] at hd;cases hd
        | whole hd=>rw[di] at hd;cases hd
        | fw hd=>rw[di] at hd;cases hd
        | ee hd hb=>rw[di] at hd;cases hd;simp at eQ
        | dI hd hb aZ bK hm=>rw[di] at hd;cases hd;exact ⟨_,_,hb,rfl⟩
       obtain ⟨C2,_,g1,g2,g3,g4,g5,g6⟩:=PQ S hr di fb;have tm: ∀(j:Nat) v,(C2.toList.take xs.length)[j]? =some v→w.cell? ((⟨b2,0,none⟩:Addr).add j)=some v:=by
        intro j v hj;have dh:=(cu.1 hj).1;rw[mN] at dh;rw[jr (by omega)] at hj;rw[nR,cell?_cells g1,dt];simpa using hj
       have mz:(C2.toList.take xs.length).length=xs.length:=by simp;omega
       have p8: ∀u∈C2.toList.take xs.length,u.oneCell'=true:=by
        intro u hm;obtain ⟨j,hj⟩:=sI hm;have dh:=(cu.1 hj).1;rw[mz] at dh;rw[jr dh] at hj;obtain ⟨l,v,_,hv,hh⟩:=g4 j xs[j] (bU dh);have:v=u:=by rw[rz,hv] at hj;exact dM hj
        subst this;rcases hh with ⟨_,a,rfl⟩|⟨b1,cap,_,rfl,_⟩<;>rfl
       obtain ⟨k1,S1⟩:=wB S ae;have aiU:an hp id (some ah.dead) aH=some (.nest e xs o0):=by rw[cw _ _ (Ne.symm bH)];exact di
       obtain ⟨k2,S2⟩:=wB S1 aiU;have tq:nb≠id:=fun e=>by rw[e,ae] at hn;cases hn
       have aiV:nb≠aH:=fun e=>by rw[e,di] at hn;cases hn
       have tt:an (an hp id (some ah.dead)) aH (some ah.dead) nb=none:=by rw[cw _ _ aiV,cw _ _ tq];exact hn
       have live: ∀{aq blk'},an (an hp id (some ah.dead)) aH (some ah.dead) aq=some blk'→blk'≠ .dead→hp aq=some blk'∧aq≠id∧aq≠aH:=by
        intro aq blk' h hd;by_cases q1:aq=aH
        ·subst q1;rw[bD] at h;cases h;exact absurd rfl hd
        ·rw[cw _ _ q1] at h;by_cases q2:aq=id
         ·subst q2;rw[bD] at h;cases h;exact absurd rfl hd
         ·rw[cw _ _ q2] at h;exact ⟨h,q2,q1⟩
       have P0: ∀{idx bx:Nat} {bl},(idx=id∨idx=aH)→hp idx=some bl→bd P w (β idx) bl bx→∀aq blk',an (an hp id (some ah.dead)) aH (some ah.dead) aq=some blk'→¬bd P w (β aq) blk' bx:=by
        intro idx bx bl hor kJ ho aq blk' h hO;obtain ⟨q1,q2,q3⟩:=live h hO.alive;have:=S.h.inj aq idx _ _ bx q1 kJ hO ho;rcases hor with rfl|rfl
        ·exact q2 this
        ·exact q3 this
       have vb:b9 hp [(nb,.nest e (es++xs) [0,0,0]),(id,.dead),(aH,.dead)]=an (an (an hp id (some ah.dead)) aH (some ah.dead)) nb (some (.nest e (es++xs) [0,0,0])):=by
        funext k;simp only[b9];by_cases q0:k=nb
        ·subst q0;rw[bD,bD]
        ·by_cases q1:k=id
         ·subst q1;rw[cw _ _ q0,bD,cw _ _ q0,cw _ _ bH,bD]
         ·by_cases q2:k=aH
          ·subst q2;rw[cw _ _ q0,cw _ _ q1,bD,cw _ _ q0,bD]
          ·rw[cw _ _ q0,cw _ _ q1,cw _ _ q2,cw _ _ q0,cw _ _ q2,cw _ _ q1]
       have jU:bd P w (β aH) (.nest e xs o0) b2:= .root (by simp) fb;have lit: ∀i b1 l,At P w b2 e xs [(i,0)] b1 e1 l→b1<w.heap.size∧iG P w I b1 e1 l∧(M b1∨B≤b1)∧∀aq blk',an (an hp id (some ah.dead)) aH (some ah.dead) aq=some blk'→¬bd P w (β aq) blk' b1:=fun i b1 l ha=>by
        obtain ⟨_,q2,q3,q4,q5⟩:=g5 i b1 l ha;exact ⟨q2,q3,q4,P0 (.inr rfl) di q5⟩
       cases hs with
       | dX hd=>rw[ae] at hd;cases hd
       | dS hd=>rw[ae] at hd;cases hd
       | whole hd=>rw[ae] at hd;cases hd
       | fw hd=>rw[ae] at hd;cases hd
       | @ee _ _ _ a0 hd hb=>
        rw[ae] at hd;cases hd;simp only[List.length_nil,dt] at ew hlen;have cI:=X7 (P:=P) w t ty e i z hu hi hz a0 ⟨b2,0,none⟩ xs.length Fk (C2.toList.take xs.length) (by rw[mz,h3,im]) tm (by omega) (by omega) (by rw[←nW];simp only[aW] at ew;omega);have p9:=grownCap_ge w xs.length 0 e;have sd:grownCap w xs.length 0 e≤maxLen:=grownCap_le_maxLen w xs.length 0 e (by simp only[maxLen];omega);have dE:(w.drew.alloc (.cells ((C2.toList.take xs.length).toArray++Builtin.zeroCells z.cells (grownCap w xs.length 0 e-xs.length)) e)).heap[w.heap.size]? =some (.cells ((C2.toList.take xs.length).toArray++Builtin.zeroCells z.cells (grownCap w xs.length 0 e-xs.length)) e):=heap_alloc_new w.drew (.cells ((C2.toList.take xs.length).toArray++Builtin.zeroCells z.cells (grownCap w xs.length 0 e-xs.length)) e);have BO:=S2.h.jR;obtain ⟨a1,a2⟩:=Fj (w':=w.drew.alloc (.cells ((C2.toList.take xs.length).toArray++Builtin.zeroCells z.cells (grownCap w xs.length 0 e-xs.length)) e)) S2 (nb:=nb) (b:=w.heap.size) (ys:=xs) hr tt dE (by simp;omega)
         (fun b' _ aY=>heap_alloc_old w.drew _ b' aY) (by simp) ⟨rfl,rfl⟩ (.inr S.size) (fun aq blk' h ho=>nE _ (S2.h.lt h ho)) (fun j hj=>nE _ (BO _ j hj))
         (fun i b1 l=>At P w b2 e xs [(i,0)] b1 e1 l) (fun j y hy=>by
          obtain ⟨l,v,q1,q2,q3⟩:=g4 j y hy;have dh:=(cu.1 hy).1;refine ⟨l,v,q1,?_,q3⟩;rw[ID (by simpa using by omega)];simp[dh,q2])
         (fun j b1 l ha=>⟨DH (lit j b1 l ha).1,lit j b1 l ha⟩) g6
        refine ⟨_,_,I,an β nb (some w.heap.size),cI,?_⟩;rw[vb,List.nil_append];refine ⟨(k1.trans k2).trans a1,a2,?_⟩;exact .dI (bD _ _ _) (bD _ _ _) (by rw[lk dE,hk,im];simp[size_zeroCells,h4];omega) p9 sd
       | @dI _ _ _ _ b cap hd hb aZ bK hm=>
        rw[ae] at hd;cases hd;obtain ⟨Ca,Tq,f1,f2,f3,f4,f5,f6⟩:=PQ S hr ae hb;rw[lk f1,hk,im] at aZ;have kJ:bd P w (β id) (.nest e es vers) b:= .root (by simp) hb;have Fh:=S.h.own id _ b ae kJ;have fa: ∀i b1 l,At P w b e es [(i,0)] b1 e1 l→b1≠b∧b1<w.heap.size∧iG P w I b1 e1 l∧(M b1∨B≤b1)∧∀aq blk',an (an hp id (some ah.dead)) aH (some ah.dead) aq=some blk'→¬bd P w (β aq) blk' b1:=fun i b1 l ha=>by
         obtain ⟨q1,q2,q3,q4,q5⟩:=f5 i b1 l ha;exact ⟨q1,q2,q3,q4,P0 (.inl rfl) ae q5⟩
        have aiW: ∀i b1 l,At P w b2 e xs [(i,0)] b1 e1 l→b1≠b:=fun i b1 l ha h=>by
         subst h;exact bH (S.h.inj id aH _ _ _ ae di kJ (g5 i _ l ha).2.2.2.2)
        have Kc: ∀i j b1 l m,At P w b e es [(i,0)] b1 e1 l→At P w b2 e xs [(j,0)] b1 e1 m→False:=fun i j b1 l m h1 h2=>bH (S.h.inj id aH _ _ b1 ae di (f5 i b1 l h1).2.2.2.2 (g5 j b1 m h2).2.2.2.2)
        let K:Nat→Nat→List V→Prop:=fun i b1 l=>(i<es.length∧At P w b e es [(i,0)] b1 e1 l)∨(es.length≤i∧At P w b2 e xs [(i-es.length,0)] b1 e1 l)
        have td: ∀i j b1 l m,K i b1 l→K j b1 m→i=j:=by
         intro i j b1 l m h1 h2;rcases h1 with ⟨_,h1⟩|⟨p1,h1⟩
         ·rcases h2 with ⟨_,h2⟩|⟨_,h2⟩
          ·exact f6 _ _ _ _ _ h1 h2
          ·exact (Kc _ _ _ _ _ h1 h2).elim
         ·rcases h2 with ⟨_,h2⟩|⟨p2,h2⟩
          ·exact (Kc _ _ _ _ _ h2 h1).elim
          ·have:=g6 _ _ _ _ _ h1 h2;omega
        have fill: ∀(C':Array Value),(∀j,j<es.length→C'[j]? =Ca[j]?)→(∀j,j<xs.length→C'[es.length+j]? =C2[j]?)→∀(j:Nat) y,(es++xs)[j]? =some y→∃l v,y= .list e1 l∧C'[j]? =some v∧yH P w e1 (K j) v l:=by
         intro C' p1 p2 j y hy;by_cases hj:j<es.length
         ·rw[nG hj] at hy;obtain ⟨l,v,q1,q2,q3⟩:=f4 j y hy;refine ⟨l,v,q1,(p1 j hj).trans q2,?_⟩;rcases q3 with q3|⟨z1,b1,P3,z2,z3,z4,z5,z6⟩
          ·exact .inl q3
          ·exact .inr ⟨z1,b1,P3,z2,z3,z4,z5,.inl ⟨hj,z6⟩⟩
         ·rw[oO (by omega)] at hy;obtain ⟨l,v,q1,q2,q3⟩:=g4 _ y hy;have dh:=(cu.1 hy).1;refine ⟨l,v,q1,?_,?_⟩
          ·have:=p2 (j-es.length) dh;rw[show es.length+(j-es.length)=j by omega] at this;exact this.trans q2
          ·rcases q3 with q3|⟨z1,b1,P3,z2,z3,z4,z5,z6⟩
           ·exact .inl q3
           ·exact .inr ⟨z1,b1,P3,z2,z3,z4,z5,.inr ⟨by omega,z6⟩⟩
        by_cases tn:es.length+xs.length≤cap
        ·have BR:es.length+(C2.toList.take xs.length).length≤Ca.size:=by rw[mz];omega
         have cI:=X8 (P:=P) w t ty e Tq i hu hi b es.length cap Ca f1 ⟨b2,0,none⟩ xs.length Fk (C2.toList.take xs.length) (by rw[mz,h3,im]) tm p8 tn (by rw[h3,im];exact BR);rw[h3,im,mz] at cI;have dE:=setRow_heap w b Ca (Ca.toList.take es.length++C2.toList.take xs.length++Ca.toList.drop (es.length+xs.length)).toArray Tq _ f1;obtain ⟨a1,a2⟩:=Fj (w':=w.setRow b (Ca.toList.take es.length++C2.toList.take xs.length++Ca.toList.drop (es.length+xs.length)).toArray) S2 (nb:=nb) (b:=b) (ys:=es++xs) hr tt dE (by simp;omega)
          (fun b' au _=>setRow_other w b b' _ au) (by simp) ⟨rfl,rfl⟩ Fh (P0 (.inl rfl) ae kJ) f3 K
          (fill _ (fun j hj=>by
           rw[oM,la,nG (by simp;omega),jr hj,rz]) (fun j hj=>by
           rw[oM,la,oO (by simp;omega),nG (by simp;omega),mN,Array.length_toList (xs:=Ca),Nat.min_eq_left (by omega),IE,jr hj,rz]))
          (fun j b1 l hj=>by
           rcases hj with ⟨_,hj⟩|⟨_,hj⟩
           ·exact fa _ _ _ hj
           ·exact ⟨aiW _ _ _ hj,lit _ _ _ hj⟩) td
         refine ⟨_,_,I,an β nb (some b),cI,?_⟩;rw[vb];refine ⟨(k1.trans k2).trans a1,a2,?_⟩;have:=aj.dI (P:=P) (w:=w.setRow b (Ca.toList.take es.length++C2.toList.take xs.length++Ca.toList.drop (es.length+xs.length)).toArray) (I:=I) (β:=an β nb (some b)) (hp:=an (an (an hp id (some ah.dead)) aH (some ah.dead)) nb (some (.nest e (es++xs) [0,0,0]))) (b:=b) (cap:=cap) (bD _ _ _) (bD _ _ _) (by rw[lk dE,hk,im];simp;omega) (by rw[ik];exact tn) hm;rw[ik] at this;exact this
        ·have hold: ∀(j:Nat) v,(Ca.toList.take es.length)[j]? =some v→w.cell? ((⟨b,0,none⟩:Addr).add j)=some v:=by
          intro j v hj;have dh:=(cu.1 hj).1;rw[mN] at dh;rw[jr (by omega)] at hj;rw[nR,cell?_cells f1,dt];simpa using hj
         have cI:=run_append_grow (P:=P) w t ty e i z hu hi hz ⟨b,0,none⟩ es.length cap (Ca.toList.take es.length) (by rw[h3,im];simp;omega) hold ⟨b2,0,none⟩ xs.length Fk (C2.toList.take xs.length) (by rw[mz,h3,im]) tm (by omega) (by omega)
          (growslice_fits (by omega) (by rw[←nW];simp only[aW] at ew;omega))
         have p9:=grownCap_ge w (es.length+xs.length) cap e;have sd:grownCap w (es.length+xs.length) cap e≤maxLen:=grownCap_le_maxLen w _ cap e (by simp only[maxLen];omega);have dE:(w.drew.alloc (.cells ((Ca.toList.take es.length).toArray++(C2.toList.take xs.length).toArray++Builtin.zeroCells z.cells (grownCap w (es.length+xs.length) cap e-(es.length+xs.length))) e)).heap[w.heap.size]? =some (.cells ((Ca.toList.take es.length).toArray++(C2.toList.take xs.length).toArray++Builtin.zeroCells z.cells (grownCap w (es.length+xs.length) cap e-(es.length+xs.length))) e):=heap_alloc_new w.drew (.cells ((Ca.toList.take es.length).toArray++(C2.toList.take xs.length).toArray++Builtin.zeroCells z.cells (grownCap w (es.length+xs.length) cap e-(es.length+xs.length))) e);have BO:=S2.h.jR;obtain ⟨a1,a2⟩:=Fj (w':=w.drew.alloc (.cells ((Ca.toList.take es.length).toArray++(C2.toList.take xs.length).toArray++Builtin.zeroCells z.cells (grownCap w (es.length+xs.length) cap e-(es.length+xs.length))) e)) S2 (nb:=nb) (b:=w.heap.size) (ys:=es++xs) hr tt dE (by simp;omega)
          (fun b' _ aY=>heap_alloc_old w.drew _ b' aY) (by simp) ⟨rfl,rfl⟩ (.inr S.size) (fun aq blk' h ho=>nE _ (S2.h.lt h ho)) (fun j hj=>nE _ (BO _ j hj)) K
          (fill _ (fun j hj=>by
           rw[ID (by simp;omega),ID (by simp;omega),oM,jr hj,rz]) (fun j hj=>by
           rw[ID (by simp;omega),Array.getElem?_append_right (by simp;omega)];simp only[ry,mN,Array.length_toList (xs:=Ca),Nat.min_eq_left f2,IE];rw[oM,jr hj,rz]))
          (fun j b1 l hj=>by
           rcases hj with ⟨_,hj⟩|⟨_,hj⟩
           ·obtain ⟨_,q⟩:=fa _ _ _ hj;exact ⟨DH q.1,q⟩
           ·exact ⟨DH (lit _ _ _ hj).1,lit _ _ _ hj⟩) td
         refine ⟨_,_,I,an β nb (some w.heap.size),cI,?_⟩;rw[vb];refine ⟨(k1.trans k2).trans a1,a2,?_⟩;have:=aj.dI (P:=P) (w:=w.drew.alloc (.cells ((Ca.toList.take es.length).toArray++(C2.toList.take xs.length).toArray++Builtin.zeroCells z.cells (grownCap w (es.length+xs.length) cap e-(es.length+xs.length))) e)) (I:=I) (β:=an β nb (some w.heap.size)) (hp:=an (an (an hp id (some ah.dead)) aH (some ah.dead)) nb (some (.nest e (es++xs) [0,0,0]))) (b:=w.heap.size) (cap:=grownCap w (es.length+xs.length) cap e) (bD _ _ _) (bD _ _ _) (by rw[lk dE,hk,im];simp[size_zeroCells,h4];omega) (by rw[ik];exact p9) sd;rw[ik] at this;exact this
      | _=>cases he
    | _=>cases hd
   | _=>cases hb
 | _=>cases ha
theorem Yc (S:ay P w I β hp B M w0) {t ty e:TypeId} {nb:Nat} {s x:Value} {sv xv:V} {r:R} {rd:List Nat} (hu:P.underlying t=some (.slice e)) (hs:aj P w I β hp s sv) (hx:aj P w I β hp x xv)
  (h:(Of P nb e sv xv).run C hp=some (r,rd)):dg P ((Builtin.append_ #[t,t] ty #[s,x]).run P w) w I β hp B M w0 r:=by
 unfold Of at h;split at h
 ·rename_i e' id ver i;obtain ⟨ao,h1⟩:=az h;clear h;obtain ⟨xs,nj,l0,h2⟩:=Ff S.h.rel ao hx h1;obtain ⟨e0,es,vers,l1,ae,k1,k2,k3,h3⟩:=qG h2;cases hr:rowOf P e0 with
  | none=>simp only[hr] at h3;cases h3
  | some e1=>
  simp only[hr] at h3;obtain ⟨hc,h4⟩:=az h3;simp only[aI,aK] at hc;obtain ⟨rfl,rfl⟩:=hc;obtain ⟨y,hy,h5⟩:=nO h4;obtain ⟨ew,h6⟩:=az h5;obtain ⟨l2,h7⟩:=run_get h6;cases hn:hp nb with
  | some _=>rw[hn] at h7;cases h7
  | none=>
  rw[hn] at h7;obtain ⟨jk,rfl⟩:=mD h7;obtain ⟨b,q,i0,c,t1,l,bE,hb,ht,hc⟩:=hs.OF ae k1 k2 k3;have:q=[]∧i0=i∧c=0:=by
   have hq:([]:Path)++[(i,0)]=q++[(i0,c)]:=bE;obtain ⟨h1,h2⟩:=List.append_inj' hq rfl;simp only[xK,mP,and_true] at h2;exact ⟨h1.symm,h2.1.symm,h2.2.symm⟩
  obtain ⟨rfl,rfl,rfl⟩:=this;obtain ⟨uI,cE,aiX,ov,ia⟩:=wX hr;have kI:aT P e0=[e0]:=by simp[aT,cE]
  have hk:P.cellsOf e0=1:=by rw[←fx aiX,kI];rfl
  obtain ⟨b',e',aJ,Ca,T,f,x1,m1,m2,m3,m4,m5,m6⟩:=hc;cases m1;rw[hk,im,Nat.add_zero] at m6;obtain ⟨tf,l1,S1,hv⟩:=aiA S hr ae hb hy hn;have u4:=hv _ _ _ _ m2 m6;have bH:nb≠id:=fun h=>by rw[h,ae] at hn;cases hn
  have aiY:nb+1≠id:=fun h=>by rw[h,ae] at jk;cases jk
  generalize hq:an (an hp id (some (ah.out e0 es (vers.map (· +1)) i0))) nb (some (.arr e y.toList false))=P4 at l1 S1 u4;have hq0:P4 nb=some (.arr e y.toList false):=by rw[←hq,bD]
  have hqn:P4 (nb+1)=none:=by rw[←hq,cw _ _ (Nat.succ_ne_self nb),cw _ _ aiY];exact jk
  have cR:((∃a,x= .slice a 0 0)∧xs=[])∨∃a c news,Row P w I e x xs a c news:=nj;have:=X9 (ty:=ty) S1 hu ao u4 hq0 hqn ew (by
   rcases cR with h|⟨a,c,news,h⟩
   ·exact .inl h
   ·exact .inr ⟨a,c,news,h.val,h.len,h.cell,fun i j x t' p1 p2 p3=>(h.el i j x t' p1 p2 p3).imp fun u hu=>⟨hu.1,hu.2.mono l1.ej l1.cH⟩⟩)
  obtain ⟨v,w',I',β',a1,a2,a3,a4⟩:=this;refine ⟨v,w',I',β',a1,?_⟩;have vb:b9 hp [(nb+1,.arr e (y.toList++xs) false),(nb,.dead),(id,.out e0 es (vers.map (· +1)) i0)]=b9 P4 [(nb+1,.arr e (y.toList++xs) false),(nb,.dead)]:=by
   rw[←hq];funext k;simp only[b9];by_cases q0:k=nb+1
   ·subst q0;rw[bD,bD]
   ·rw[cw _ _ q0,cw _ _ q0];by_cases q1:k=nb
    ·subst q1;rw[bD,bD]
    ·rw[cw _ _ q1,cw _ _ q1,cw _ _ q1]
  rw[vb];exact ⟨l1.trans a2,a3,a4⟩
 ·exact aiO S hu hs hx h
theorem Yd (S:ay P w I β hp B M w0) {t e e1:TypeId} {nb:Nat} {v:Value} {l:List V} (hu:P.underlying t=some (.slice e)) (hr:rowOf P e=some e1) (hn:hp nb=none) (K:Nat→List V→Prop)
  (hv:yH P w e1 K v l) (hK: ∀b1 l,K b1 l→b1<w.heap.size∧iG P w I b1 e1 l∧(M b1∨B≤b1)∧∀id blk,hp id=some blk→¬bd P w (β id) blk b1):
  (Instr.buildSlice t 1 #[(0,v)]).run P w= .ok (.slice (some ⟨w.heap.size,0,none⟩) 1 1) (w.alloc (.cells #[v] e))∧
  Le P w I β hp (w.alloc (.cells #[v] e)) I (an β nb (some w.heap.size)) (an hp nb (some (.nest e [.list e1 l] [0,0,0])))∧ay P (w.alloc (.cells #[v] e)) I (an β nb (some w.heap.size)) (an hp nb (some (.nest e [.list e1 l] [0,0,0]))) B M w0∧
  aj P (w.alloc (.cells #[v] e)) I (an β nb (some w.heap.size)) (an hp nb (some (.nest e [.list e1 l] [0,0,0]))) (.slice (some ⟨w.heap.size,0,none⟩) 1 1) (.whole e nb):=by
 obtain ⟨uI,cE,ao,ov,ia⟩:=wX hr;have kI:aT P e=[e]:=by simp[aT,cE]
 have hk:P.cellsOf e=1:=by rw[←fx ao,kI];rfl
 obtain ⟨i,z,hi,hz,h3,h4,_⟩:=kK ao;rw[hk] at h3 h4;have qR:v.cells= #[v]:=by rcases hv with ⟨_,a,rfl⟩|⟨b1,cap,_,rfl,_⟩<;>rfl
 have cI:=PU w t e 1 #[(0,v)] #[v] i z hu hi hz (by rw[h3];omega) (by
  rw[h3];simp[Instr.fill,qR];rw[show Array.range 1= #[0] from rfl];simp)
 have dE:(w.alloc (.cells #[v] e)).heap[w.heap.size]? =some (.cells #[v] e):=heap_alloc_new w _;obtain ⟨a1,a2⟩:=Fj (w':=w.alloc (.cells #[v] e)) S (nb:=nb) (b:=w.heap.size) (ys:=[.list e1 l]) hr hn dE (by simp)
  (fun b' _ aY=>heap_alloc_old w _ b' aY) (by simp) ⟨rfl,rfl⟩ (.inr S.size) (fun aq blk' h ho=>nE _ (S.h.lt h ho)) (fun j hj=>nE _ (S.h.jR _ j hj))
  (fun i b1 l=>i=0∧K b1 l) (fun j y hy=>by
   cases j with
   | succ j=>simp at hy
   | zero=>
    simp at hy;subst hy;refine ⟨l,v,rfl,rfl,?_⟩;rcases hv with h|⟨b1,cap,z1,z2,z3,z4,z5,z6⟩
    ·exact .inl h
    ·exact .inr ⟨b1,cap,z1,z2,z3,z4,z5,rfl,z6⟩)
  (fun j b1 l h=>⟨DH (hK b1 l h.2).1,hK b1 l h.2⟩) (fun i j b1 l m h1 h2=>h1.1.trans h2.1.symm)
 refine ⟨cI,a1,a2,?_⟩;exact .dI (es:=[.list e1 l]) (bD _ _ _) (bD _ _ _) (by rw[lk dE,hk];rfl) (av _) (by simp[maxLen])
theorem aiZ (S:ay P w I β hp B M w0) {a:Act} {sl:Nat→V} (hs:nM P w I β hp a sl) {G:Nat→V} (hg:jS P G w I) {t e:TypeId} {len nb:Nat} {ps:Array (Nat×Operand)} {r:R} {rd:List Nat} (hu:P.underlying t=some (.slice e))
  (h:(VO P nb e len (ps.toList.map fun p=>(p.1,aS P G e sl p.2))).run C hp=some (r,rd)):
  dg P ((Instr.buildSlice t len (ps.map fun (i,x)=>(i,a.eval x))).run P w) w I β hp B M w0 r:=by
 obtain ⟨hl,ha⟩:=az h;clear h;rw[aK,db] at hl;cases hr:rowOf P e with
 | none=>rw[hr] at ha;cases ha
 | some e1=>
 simp only[hr] at ha;obtain ⟨uI,cE,ao,ov,ia⟩:=wX hr;obtain ⟨ps⟩:=ps;simp only at ha hl;cases ps with
 | nil=>
  obtain ⟨hn,rfl⟩:=mD ha;simp only[List.length_nil] at hl;subst hl;obtain ⟨i,z,hi,hz,h3,h4,_⟩:=kK ao;have cI:=PU w t e 0 #[] #[] i z hu hi hz (by omega) (by simp[Instr.fill]);have dE:(w.alloc (.cells #[] e)).heap[w.heap.size]? =some (.cells #[] e):=heap_alloc_new w _;obtain ⟨a1,a2⟩:=Fj (w':=w.alloc (.cells #[] e)) S (nb:=nb) (b:=w.heap.size) (ys:=[]) hr hn dE (by simp)
   (fun b' _ aY=>heap_alloc_old w _ b' aY) (by simp) ⟨rfl,rfl⟩ (.inr S.size) (fun aq blk' h ho=>nE _ (S.h.lt h ho)) (fun j hj=>nE _ (S.h.jR _ j hj))
   (fun _ _ _=>False) (fun j y hy=>by simp at hy) (fun _ _ _ h=>h.elim) (fun _ _ _ _ _ h=>h.elim)
  exact ⟨_,_,I,an β nb (some w.heap.size),by simpa using cI,a1,a2,.dI (es:=[]) (bD _ _ _) (bD _ _ _) (by rw[lk dE];simp) (av _) (by simp)⟩
 | cons p ps=>
  cases ps with
  | cons q ps=>
   obtain ⟨p1,p2⟩:=p;simp only[kY] at ha;cases p1<;>cases hx:aS P G e sl p2<;>simp only[hx] at ha<;>cases ha
  | nil=>
  obtain ⟨p1,p2⟩:=p;simp only[List.length_cons,List.length_nil,dt] at hl;subst hl;have pU:=hs.ev hg e p2;simp only[kY,List.map_nil] at ha;cases p1 with
  | succ n=>cases hx:aS P G e sl p2<;>simp only[hx] at ha<;>cases ha
  | zero=>
  cases hx:aS P G e sl p2 with
  | nilS e2=>
   simp only[hx] at ha;obtain ⟨hc,hb⟩:=az ha;obtain ⟨hn,rfl⟩:=mD hb;rw[hx] at pU;obtain ⟨a0,ha0⟩: ∃a0,a.eval p2= .slice a0 0 0:=by
    generalize a.eval p2=v at pU;cases pU;exact ⟨_,rfl⟩
   obtain ⟨k1,k2,k3,k4⟩:=Yd S (v:=a.eval p2) (l:=[]) hu hr hn (fun _ _=>False) (.inl ⟨rfl,a0,ha0⟩) (fun _ _ h=>h.elim);exact ⟨_,_,I,an β nb (some w.heap.size),by simpa using k1,k2,k3,k4⟩
  | whole e2 id=>
   simp only[hx] at ha;obtain ⟨l0,hb⟩:=run_get ha;clear ha;cases ae:hp id with
   | none=>rw[ae] at hb;cases hb
   | some blk=>
    rw[ae] at hb;cases blk with
    | arr e3 es fz=>
     cases fz with
     | true=>cases hb
     | false=>
      obtain ⟨hc,hd⟩:=az hb;clear hb;simp only[aI,aK] at hc;obtain ⟨rfl,rfl⟩:=hc;obtain ⟨hn,rfl⟩:=mD hd;have bH:nb≠id:=fun e=>by rw[e,ae] at hn;cases hn
      obtain ⟨k1,S1⟩:=wB S ae;have jk:an hp id (some ah.dead) nb=none:=by rw[cw _ _ bH];exact hn
      have vb:b9 hp [(nb,.nest e [.list e1 es] [0,0,0]),(id,.dead)]=an (an hp id (some ah.dead)) nb (some (.nest e [.list e1 es] [0,0,0])):=rfl;rw[hx] at pU;have fin: ∀(K:Nat→List V→Prop),yH P w e1 K (a.eval p2) es→(∀b1 l,K b1 l→b1<w.heap.size∧iG P w I b1 e1 l∧(M b1∨B≤b1)∧∀aq blk',an hp id (some ah.dead) aq=some blk'→¬bd P w (β aq) blk' b1)→
        dg P ((Instr.buildSlice t 1 #[(0,a.eval p2)]).run P w) w I β hp B M w0 ⟨.whole e nb,[(nb,.nest e [.list e1 es] [0,0,0]),(id,.dead)]⟩:=fun K hv hK=>by
       obtain ⟨q1,q2,q3,q4⟩:=Yd S1 (v:=a.eval p2) (l:=es) hu hr jk K hv hK;refine ⟨_,_,I,an β nb (some w.heap.size),q1,?_⟩;rw[vb];exact ⟨k1.trans q2,q3,q4⟩
      have res:dg P ((Instr.buildSlice t 1 #[(0,a.eval p2)]).run P w) w I β hp B M w0 ⟨.whole e nb,[(nb,.nest e [.list e1 es] [0,0,0]),(id,.dead)]⟩:=by
       generalize a.eval p2=v at pU fin⊢;cases pU with
       | dX hd=>rw[ae] at hd;cases hd
       | dI hd=>rw[ae] at hd;cases hd
       | ee hd=>rw[ae] at hd;cases hd
       | fw hd=>rw[ae] at hd;cases hd
       | @dS _ _ _ a0 hd hb=>
        rw[ae] at hd;cases hd;exact fin (fun _ _=>False) (.inl ⟨rfl,a0,rfl⟩) (fun _ _ h=>h.elim)
       | @whole _ _ _ _ b cap hd hb aZ bK hm=>
        rw[ae] at hd;cases hd;obtain ⟨m1,m2⟩:=PK S ae hb ia;obtain ⟨m3,m4⟩:=m1 _ _ _ _ .here;by_cases h0:0<cap
        ·refine fin (fun b1 l=>b1=b∧l=es) (.inr ⟨b,cap,h0,rfl,aZ,bK,hm,rfl,rfl⟩) (fun b1 l h=> ?_);obtain ⟨rfl,rfl⟩:=h;refine ⟨S.h.lt ae m4,m3,S.h.own id _ _ ae m4,fun aq blk' h' ho=> ?_⟩;by_cases q:aq=id
         ·subst q;rw[bD] at h';cases h';exact absurd rfl ho.alive
         ·rw[cw _ _ q] at h';exact q (S.h.inj aq id _ _ _ h' ae ho m4)
        ·have:es=[]:=vV.1 (by omega);subst this;exact fin (fun _ _=>False) (.inl ⟨rfl,some ⟨b,0,none⟩,by rw[show cap=0 by omega];rfl⟩) (fun _ _ h=>h.elim)
      simpa using res
    | _=>cases hb
  | _=>simp only[hx] at ha;cases ha
end
section
variable {P:Program} {w w':World} {I I':Nat→Nat→Prop} {β β':Nat→Option Nat} {hp hp':Nat→Option ah} {C:af} {B:Nat} {M:Nat→Prop} {w0:Start}
theorem ai0 (S:ay P w I β hp B M w0) {s:TypeId} {f:Nat} {v:Value} {x:V} {r:R} {rd:List Nat} (hv:aj P w I β hp v x)
  (h:(Om P s f x).run C hp=some (r,rd)):dg P ((Instr.field s v f).run P w) w I β hp B M w0 r:=by
 unfold Om IV at h;split at h
 ·rename_i fs hu;cases hf:fs[f]? with
  | none=>rw[hf] at h;cases h
  | some fd=>
   rw[hf] at h;simp only[AZ] at h;obtain ⟨ht,h⟩:=az h;obtain ⟨d,tu⟩:=Bn ht;obtain ⟨i,hi⟩:=wC tu;have aZ:i.size=P.cellsOf fd.type:=by simp[Program.cellsOf,hi]
   cases x with
   | agg xs=>
    obtain ⟨cs,rfl,h1,h2⟩:=hv.mX;dsimp only at h;cases ha:bY P fd.type with
    | true=>
     rw[ha] at h;simp only[cond_true] at h;obtain ⟨hc,h⟩:=az h;obtain rfl:=aL h;rw[fV] at hc;refine .same S (v:= .agg (cs.extract fd.offset (fd.offset+P.cellsOf fd.type))) ?_ (.agg (by simp;omega) fun j u y lC hy=> ?_)
     ·simp[Instr.field,run_underlying hu,hf,part,Jp tu,ha,asAgg,sizeOf,typeInfo,hi,aZ]
     grind
    | false=>
     rw[ha] at h;simp only[cond_false] at h;obtain ⟨y,hy,h⟩:=nO h;obtain rfl:=aL h;have aY:fd.offset<cs.size:=by grind
     refine .same S (v:=cs[fd.offset]) ?_ (h2 _ _ _ (kX aY) hy);simp[Instr.field,run_underlying hu,hf,part,Jp tu,ha,asAgg,aY]
   | _=>cases h
 ·cases h
theorem ai1 (S:ay P w I β hp B M w0) {i:Nat} {v:Value} {xs:List V} {r:R} {rd:List Nat} (hv:aj P w I β hp v (.ba xs))
  (h:(Rd.opt xs[i]? fun v=> .ret ⟨v,[]⟩).run C hp=some (r,rd)):dg P ((Instr.extract v i).run P w) w I β hp B M w0 r:=by
 obtain ⟨cs,rfl,h1,h2⟩:=hv.yc;obtain ⟨y,hy,h⟩:=nO h;obtain rfl:=aL h;have aY:i<cs.size:=by grind
 exact .same S (v:=cs[i]) (by simp[Instr.extract,aY]) (h2 _ _ _ (kX aY) hy)
theorem ai2 (S:ay P w I β hp B M w0) {t:TypeId} {s:ByteArray} {l:List UInt8} {k:IntKind} {i:Int} {r:R} {rd:List Nat} (hu:P.underlying t=some .string) (hs:s.data.toList=l)
  (h:(Rd.opt (bif decide (0≤i) then (l[i.toNat]?).map fun b=>V.int .u8 b.toNat else none) fun v=> .ret ⟨.int .u8 v.toInt,[]⟩).run C hp=some (r,rd)):
  dg P ((Instr.index t (.string s) (.int k i)).run P w) w I β hp B M w0 r:=by
 obtain ⟨v,hv,h⟩:=nO h;obtain rfl:=aL h;cases hc:decide (0≤i) with
 | false=>grind
 | true=>
  rw[hc] at hv;simp only[cond_true] at hv;have h0:0≤i:=by grind
  cases hb:l[i.toNat]? with
  | none=>grind
  | some b=>
   rw[hb] at hv;simp only[Option.map_some,e7] at hv;subst hv;have hsb:s[i.toNat]? =some b:=by
    subst hs;obtain ⟨aY,he⟩:=cu.1 hb;have P5:i.toNat<s.size:=by simpa using aY
    rw[getElem?_pos s i.toNat P5];congr 1
   refine .same S (v:= .int .u8 b.toNat) ?_ .int;simp[Instr.index,asIntOf,run_underlying hu,h0,hsb]
theorem ai3 (S:ay P w I β hp B M w0) {t e:TypeId} {n:Nat} {v:Value} {cs:List V} {k:IntKind} {i:Int} {r:R} {rd:List Nat} (hu:P.underlying t=some (.array n e)) (hv:aj P w I β hp v (.agg cs))
  (h:(Oo P n e cs i).run C hp=some (r,rd)):dg P ((Instr.index t v (.int k i)).run P w) w I β hp B M w0 r:=by
 obtain ⟨xs,rfl,h1,h2⟩:=hv.mX;unfold Oo at h;obtain ⟨hc,h⟩:=az h;obtain ⟨y,hy,h⟩:=nO h;obtain rfl:=aL h;simp only[aI,mL,aK] at hc;obtain ⟨c1,c2,c3,c4,c5⟩:=hc;obtain ⟨d,tu⟩:=Bn c1;obtain ⟨j,hi⟩:=wC tu;have aZ:j.size=1:=by rw[←c3];simp[Program.cellsOf,hi]
 unfold idx at hy;cases h0:decide (0≤i) with
 | false=>rw[h0] at hy;cases hy
 | true=>
  rw[h0] at hy;simp only[cond_true] at hy;have h0:0≤i:=of_decide_eq_true h0;have aY:i.toNat<cs.length:=(cu.1 hy).1;have Ye:i.toNat<xs.size:=by rw[h1];exact aY
  have dp:=gZ.1 c5 y (mi hy);cases y<;>(try (cases dp;done))
  refine .same S (v:=xs[i.toNat]) ?_ (h2 _ _ _ (kX Ye) hy);have mA:i<(n:Int):=by omega
  simp[Instr.index,asIntOf,run_underlying hu,h0,mA,part,Jp tu,c4,sizeOf,typeInfo,hi,aZ,Ye]
theorem P6 (S:ay P w I β hp B M w0) (mx:Bool): ∀{vs:List Value} {xs:List V} {v:Value} {x:V} {r:R} {rd:List Nat},aj P w I β hp v x→vs.length=xs.length→
  (∀(j:Nat) u y,vs[j]? =some u→xs[j]? =some y→aj P w I β hp u y)→(A0 mx x xs).run C hp=some (r,rd)→
  dg P ((vs.foldlM (if mx then Builtin.max2 else Builtin.min2) v).run P w) w I β hp B M w0 r
 | [],[],v,x,r,rd,hv,_,_,h=>by
  have:r=⟨x,[]⟩:=by
   cases x<;>(simp only[A0] at h;exact (aL h).symm)
  subst this;exact .same S (by simp) hv
 | [],_::_,v,x,r,rd,hv,hl,_,h=>by simp at hl
 | _::_,[],v,x,r,rd,hv,hl,_,h=>by simp at hl
 | u::vs,y::xs,v,x,r,rd,hv,hl,hx,h=>by
  cases x<;>cases y<;>simp only[A0] at h<;>first|(cases h;done)|skip
  rename_i k a k' b;obtain ⟨hc,h4⟩:=az h;clear h;obtain rfl:k=k':=by grind
  have hu:=hx 0 u _ rfl rfl;rw[hv.fM,hu.fM];have ih:=P6 S mx (vs:=vs) (xs:=xs) (v:= .int k (bif mx then (if b>a then b else a) else (if b<a then b else a))) .int (by grind)
   (fun j u y h1 h2=>hx (j+1) u y (by grind) (by grind)) h4
  cases mx with
  | true=>simpa[List.foldlM_cons,Builtin.max2] using ih
  | false=>simpa[List.foldlM_cons,Builtin.min2] using ih
theorem tv {n cap:Nat} {isS:Bool} {lo hi:Option V} {lov hiv:Option Value} {k:Nat→Nat→Rd R} {r:R} {rd:List Nat} (hn:n≤cap)
  (nk: ∀x,lo=some x→∃v,lov=some v∧aj P w I β hp v x) (ma: ∀x,hi=some x→∃v,hiv=some v∧aj P w I β hp v x) (qa:lo=none→lov=none) (qT:hi=none→hiv=none)
  (h:(uu n lo hi k).run C hp=some (r,rd)): ∃l u,l≤u∧u≤n∧(Instr.sliceBounds isS n cap lov hiv none).run P w= .ok (l,u,cap) w∧(k l u).run C hp=some (r,rd):=by
 have ok: ∀(kk:IntKind) (i:Int) (y:Nat) (c:BoundsCode),0≤i→i≤y→(Instr.sliceBound (.int kk i) y c).run P w= .ok i.toNat w:=by
  intro kk i y c h1 h2;simp[Instr.sliceBound,asIntOf,h1,h2]
 unfold uu at h;cases lo with
 | none=>
  rw[qa rfl];cases hi with
  | none=>
   rw[qT rfl];exact ⟨0,n,mO _,av _,by simp[Instr.sliceBounds],h⟩
  | some x=>
   obtain ⟨v,rfl,hv⟩:=ma x rfl;cases x<;>simp only at h<;>first|(cases h;done)|skip
   rename_i kk u;obtain ⟨hc,h⟩:=az h;simp only[aI,jM] at hc;rw[hv.fM];have:=ok kk u cap (if isS then .sliceAcap else .sliceAlen) hc.1 (by omega);exact ⟨0,u.toNat,mO _,by omega,by simp[Instr.sliceBounds,this],h⟩
 | some x=>
  obtain ⟨v,rfl,hv⟩:=nk x rfl;cases hi with
  | none=>
   rw[qT rfl];cases x<;>simp only at h<;>first|(cases h;done)|skip
   rename_i kk l;obtain ⟨hc,h⟩:=az h;simp only[aI,jM] at hc;rw[hv.fM];have:=ok kk l n .sliceB hc.1 (by omega);exact ⟨l.toNat,n,by omega,av _,by simp[Instr.sliceBounds,this],h⟩
  | some y=>
   obtain ⟨v2,rfl,mU⟩:=ma y rfl;cases x<;>cases y<;>simp only at h<;>first|(cases h;done)|skip
   rename_i kk l kk2 u;obtain ⟨hc,h⟩:=az h;simp only[aI,jM] at hc;rw[hv.fM,mU.fM];have h1:=ok kk2 u cap (if isS then .sliceAcap else .sliceAlen) (by omega) (by omega);have h2:=ok kk l u.toNat .sliceB hc.1 (by omega);exact ⟨l.toNat,u.toNat,by omega,by omega,by simp[Instr.sliceBounds,h1,h2],h⟩
theorem Ks {a:Option Addr} {t e:TypeId} {i:TypeInfo} (hu:P.underlying t=some (.slice e)) (hi:P.info? e=some i) {lov hiv:Option Value}
  (hb:(Instr.sliceBounds true 0 0 lov hiv none).run P w= .ok (0,0,0) w):(Instr.sliceAt t (.slice a 0 0) lov hiv none).run P w= .ok (.slice a 0 0) w:=by
 cases a<;>simp[Instr.sliceAt,Instr.slice,run_underlying hu,hb,sizeOf,typeInfo,hi]
theorem P7 {t e:TypeId} {i:TypeInfo} {b o len cap l u:Nat} (hu:P.underlying t=some (.slice e)) (hi:P.info? e=some i) {lov hiv:Option Value} (huc:u≤cap)
  (hb:(Instr.sliceBounds true len cap lov hiv none).run P w= .ok (l,u,cap) w): ∃o',(0<u-l→o'=o+l*i.size)∧(Instr.sliceAt t (.slice (some ⟨b,o,none⟩) len cap) lov hiv none).run P w= .ok (.slice (some ⟨b,o',none⟩) (u-l) (cap-l)) w:=by
 by_cases hc:cap=l
 ·subst hc;refine ⟨o,fun h=>by omega,?_⟩
  ·simp[Instr.sliceAt,Instr.slice,run_underlying hu,hb,sizeOf,typeInfo,hi]
 ·refine ⟨o+l*i.size,fun _=>rfl,?_⟩;simp[Instr.sliceAt,Instr.slice,run_underlying hu,hb,sizeOf,typeInfo,hi,hc,nR]
theorem ai4 (s:ByteArray) (l:List UInt8) (h:s.data.toList=l) (a b:Nat):(s.extract a b).data.toList=(l.drop a).take (b-a):=by
 simp_all
theorem ai5 (S:ay P w I β hp B M w0) {t:TypeId} {v:Value} {x:V} {lo hi:Option V} {lov hiv:Option Value} {r:R} {rd:List Nat} (hv:aj P w I β hp v x)
  (nk: ∀x,lo=some x→∃v,lov=some v∧aj P w I β hp v x) (ma: ∀x,hi=some x→∃v,hiv=some v∧aj P w I β hp v x) (qa:lo=none→lov=none) (qT:hi=none→hiv=none)
  (h:(I6 P t x lo hi).run C hp=some (r,rd)):dg P ((Instr.sliceAt t v lov hiv none).run P w) w I β hp B M w0 r:=by
 unfold I6 at h;cases hu:P.underlying t with
 | none=>rw[hu] at h;cases h
 | some d=>
  rw[hu] at h;cases d<;>simp only at h<;>first|(cases h;done)|skip
  case string=>
   cases x<;>simp only at h<;>first|(cases h;done)|skip
   rename_i l;obtain ⟨s,rfl,hs⟩:=hv.oh;have aZ:l.length=s.size:=by rw[←hs];simp
   obtain ⟨a,u,h1,h2,h3,h4⟩:=tv (isS:=false) (cap:=s.size) (by omega) nk ma qa qT h;obtain rfl:=aL h4;rw[aZ] at h3;refine .same S (v:= .string (s.extract a u)) ?_ (.str (ai4 s l hs a u));simp[Instr.sliceAt,Instr.slice,run_underlying hu,h3]
  case slice e=>
   cases x<;>simp only at h<;>first|(cases h;done)|skip
   case list e' es=>
    obtain ⟨hc,h⟩:=az h;simp only[aI,aK] at hc;obtain ⟨gr,ao⟩:=hc;obtain ⟨i,z,bp,_,aZ,_⟩:=kK ao;cases hv with
    | list hp'=>
     cases hp' with
     | nil=>
      obtain ⟨a,u,h1,h2,h3,h4⟩:=tv (n:=0) (isS:=true) (cap:=0) (av _) nk ma qa qT h;obtain rfl:=aL h4;obtain rfl:u=0:=by omega
      obtain rfl:a=0:=by omega
      exact .same S (Ks hu bp h3) (by simpa using aj.list ko.nil)
     | @emp ad cap=>
      obtain ⟨a,u,h1,h2,h3,h4⟩:=tv (n:=0) (isS:=true) (cap:=cap) (mO _) nk ma qa qT h;obtain rfl:=aL h4;obtain rfl:u=0:=by omega
      obtain rfl:a=0:=by omega
      refine .same S (v:= .slice (some ad) 0 cap) ?_ (by simpa using aj.list ko.emp);by_cases hc:cap=0
      ·subst hc;simp[Instr.sliceAt,Instr.slice,run_underlying hu,h3,sizeOf,typeInfo,bp]
      ·simp[Instr.sliceAt,Instr.slice,run_underlying hu,h3,sizeOf,typeInfo,bp,hc,Addr.add]
     | @list b o len cap _ g hl bK hI gF hx=>
      obtain ⟨a,u,h1,h2,h3,h4⟩:=tv (isS:=true) (cap:=cap) (by omega) nk ma qa qT h;obtain rfl:=aL h4;rw[hl] at h2 h3;obtain ⟨o',rL,cI⟩:=P7 (b:=b) (o:=o) hu bp (by omega) h3;have jG:e=e':=gr;refine .same S cI (.list ?_);rw[←jG];rw[←jG] at gF hx hI;have hlen:((es.drop a).take (u-a)).length=u-a:=by simp;omega
      refine .list (fun i j=>g (a+i) j) hlen (by omega) (fun j hj=> ?_) (fun i j hi hj=> ?_) (fun i j y t' hy ht=> ?_)
      ·have eQ:0<u-a:=Nat.pos_of_ne_zero fun e=>by grind
       rw[rL (by omega),aZ,xG];refine hI _ (oK (Nat.add_lt_add_left hj _) ?_);rw[←kW];exact eZ _ (by omega)
      all_goals grind
   case whole e' id=>
    obtain ⟨l,h⟩:=run_get h;cases ae:hp id with
    | none=>rw[ae] at h;cases h
    | some blk=>
     rw[ae] at h;cases blk<;>simp only at h<;>first|(cases h;done)|skip
     rename_i dW es fz;obtain ⟨hc,h9⟩:=az h;clear h;simp only[aI,aK] at hc;obtain ⟨gr,fY,ao⟩:=hc;obtain ⟨i,z,bp,_,aZ,_⟩:=kK ao;cases hv with
     | dX hd=>grind
     | dI hd=>grind
     | ee hd=>grind
     | fw hd=>grind
     | dS hd hb=>
      rw[ae] at hd;cases hd;obtain ⟨a,u,h1,h2,h3,h4⟩:=tv (n:=0) (isS:=true) (cap:=0) (av _) nk ma qa qT h9;obtain rfl:=aL h4;obtain rfl:u=0:=by omega
      obtain rfl:a=0:=by omega
      exact .same S (Ks hu bp h3) (.iW ae hb)
     | @whole _ _ aJ oV b cap hd hb BT bK hm=>
      have fK:=hd;rw[ae] at hd;cases hd;obtain ⟨a,u,h1,h2,h3,h4⟩:=tv (isS:=true) (cap:=cap) bK nk ma qa qT h9;obtain rfl:=aL h4;obtain ⟨o',rL,cI⟩:=P7 (b:=b) (o:=0) hu bp (by omega) h3;have jG:e=e':=gr;exact .same S cI (.sub fK hb (by omega) (by omega) (fun h=>by grind))
   case sub e' id off len=>
    obtain ⟨l,h⟩:=run_get h;cases ae:hp id with
    | none=>rw[ae] at h;cases h
    | some blk=>
     rw[ae] at h;cases blk<;>simp only at h<;>first|(cases h;done)|skip
     rename_i dW es fz;obtain ⟨hc,h⟩:=az h;simp only[aI,aK] at hc;obtain ⟨gr,fY,ao⟩:=hc;obtain ⟨i,z,bp,_,aZ,_⟩:=kK ao;cases hv with
     | jB hd=>grind
     | iW hd hb=>
      have fK:=hd;obtain ⟨a,u,h1,h2,h3,h4⟩:=tv (isS:=true) (cap:=0) (av _) nk ma qa qT h;obtain rfl:=aL h4;obtain rfl:u=0:=by omega
      obtain rfl:a=0:=by omega
      exact .same S (Ks hu bp h3) (.iW fK hb)
     | @sub _ _ _ _ aJ oV b o cap hd hb mw bK ho=>
      have fK:=hd;obtain ⟨a,u,h1,h2,h3,h4⟩:=tv (isS:=true) (cap:=cap) bK nk ma qa qT h;obtain rfl:=aL h4;obtain ⟨o',rL,cI⟩:=P7 (b:=b) (o:=o) hu bp (by omega) h3;have jG:e=e':=gr;exact .same S cI (.sub fK hb (by omega) (by omega) (fun h=>by grind))
  case array n e=>
   cases x<;>simp only at h<;>first|(cases h;done)|skip
   rename_i id j c;obtain ⟨l0,h⟩:=run_get h;cases ae:hp id with
   | none=>rw[ae] at h;cases h
   | some blk=>
    rw[ae] at h;cases blk<;>simp only at h<;>first|(cases h;done)|skip
    rename_i e' es fz;obtain ⟨hc,h9⟩:=az h;clear h;simp only[aI,aK] at hc;obtain ⟨rfl,rfl,rfl,rfl,ao⟩:=hc;obtain ⟨i,z,bp,_,aZ,_⟩:=kK ao;obtain ⟨a,u,h1,h2,h3,h4⟩:=tv (isS:=false) (cap:=es.length) (av _) nk ma qa qT h9;obtain rfl:=aL h4;obtain ⟨b,hb,rfl⟩:=hv.iZ ae (by simp);have cI:(Instr.sliceAt t (.pointer (some ⟨b,0*(ah.arr e es fz).sz P+0,none⟩)) lov hiv none).run P w= .ok (.slice (some ⟨b,if es.length=a then 0 else a*P.cellsOf e,none⟩) (u-a) (es.length-a)) w:=by
     rw[←aZ];simp[Instr.sliceAt,run_underlying hu,h3,sizeOf,typeInfo,bp,Instr.sureAddr];split<;>simp[nR]
    exact .same S cI (.sub ae hb (by omega) (by omega) (fun h=>by grind))
theorem ai6 (S:ay P w I β hp B M w0) {t:TypeId} {v:Value} {x:V} {lo hi mx:Option V} {lov hiv Yf:Option Value} {r:R} {rd:List Nat} (hv:aj P w I β hp v x)
  (nk:lo=none→lov=none) (ma: ∀y,hi=some y→∃u,hiv=some u∧aj P w I β hp u y) (rN: ∀y,mx=some y→∃u,Yf=some u∧aj P w I β hp u y)
  (h:(Oj P t x lo hi mx).run C hp=some (r,rd)):dg P ((Instr.sliceAt t v lov hiv Yf).run P w) w I β hp B M w0 r:=by
 unfold Oj at h;split at h
 ·rename_i e e' id _ hh _ m hu;obtain ⟨l,h⟩:=run_get h;cases ae:hp id with
  | none=>rw[ae] at h;cases h
  | some blk=>
   rw[ae] at h;cases blk<;>simp only at h<;>first|(cases h;done)|skip
   rename_i dW es fz;obtain ⟨hc,h9⟩:=az h;clear h;simp only[aI,aK,jM] at hc;obtain ⟨rfl,rfl,ao,h0,h1,h2⟩:=hc;obtain rfl:=aL h9;obtain ⟨i,z,bp,_,_,_⟩:=kK ao;obtain ⟨u1,rfl,k1⟩:=ma _ rfl;obtain ⟨u2,rfl,k2⟩:=rN _ rfl;rw[k1.fM,k2.fM,nk rfl];have run: ∀{k k2:IntKind} (a:Option Addr) (len cap:Nat),m≤cap→(Instr.sliceAt t (.slice a len cap) none (some (.int k hh)) (some (.int k2 m))).run P w= .ok (.slice (if m.toNat=0 then a else a.map (·.add 0)) hh.toNat m.toNat) w:=by
    intro k k2 a len cap hm;obtain ⟨m,rfl⟩:=IF (Int.le_trans h0 h1);obtain ⟨hh,rfl⟩:=IF h0;have c1:m≤cap:=by omega
    have c2:hh≤m:=by omega
    cases a<;>simp[Instr.sliceAt,Instr.slice,Instr.sliceBounds,Instr.sliceBound,asIntOf,run_underlying hu,sizeOf,typeInfo,bp,c1,c2]
   cases hv with
   | dX hd=>grind
   | dI hd=>grind
   | ee hd=>grind
   | fw hd=>grind
   | dS hd hb=>
    rw[ae] at hd;cases hd;obtain rfl:m=0:=by simp at h2;omega
    obtain rfl:hh=0:=by omega
    exact .same S (run _ _ _ (by omega)) (.iW ae hb)
   | whole hd hb aZ bK hm=>
    rw[ae] at hd;cases hd;refine .same S (run _ _ _ (by omega)) ?_;have e0: ∀b,(if m.toNat=0 then (some ⟨b,0,none⟩:Option Addr) else (some ⟨b,0,none⟩:Option Addr).map (·.add 0))=some ⟨b,0,none⟩:=by intro b;split<;>simp[nR]
    rw[e0];exact .sub ae hb (by omega) (by omega) (fun _=>by simp)
 ·cases h
theorem Yg (S:ay P w I β hp B M w0) {t:TypeId} {v ix:Value} {x y:V} {r:R} {rd:List Nat} (hv:aj P w I β hp v x) (hy:aj P w I β hp ix y) (mz: ∀e es,x≠ .nl e es)
  (h:(xN P t x y).run C hp=some (r,rd)):dg P ((Instr.indexAt t v ix).run P w) w I β hp B M w0 r:=by
 unfold xN at h;cases hu:P.underlying t with
 | none=>rw[hu] at h;cases h
 | some d=>
  rw[hu] at h;cases y<;>(try (cases d<;>cases h;done))
  rename_i k i;rw[hy.fM];cases d<;>simp only at h<;>first|(cases h;done)|skip
  case slice e=>
   have run: ∀(b o len cap:Nat) (ie:TypeInfo),P.info? e=some ie→0≤i→i<(len:Int)→(Instr.indexAt t (.slice (some ⟨b,o,none⟩) len cap) (.int k i)).run P w= .ok (.pointer (some ⟨b,o+i.toNat*ie.size,none⟩)) w:=by
    intro b o len cap ie ni h0 h1;simp[Instr.indexAt,asIntOf,run_underlying hu,h0,h1,sizeOf,typeInfo,ni,nR]
   cases x<;>simp only at h<;>first|(cases h;done)|skip
   case nl e' es=>exact absurd rfl (mz _ _)
   case list e' es=>
    obtain ⟨hc,h⟩:=az h;simp only[aI,aK] at hc;obtain ⟨gr,ao⟩:=hc;have jG:e=e':=gr;obtain ⟨ie,z,bp,_,aZ,_⟩:=kK ao;obtain ⟨el,fB,h⟩:=nO h;obtain rfl:=aL h;unfold idx at fB;cases h0:decide (0≤i) with
    | false=>grind
    | true=>
     rw[h0] at fB;simp only[cond_true] at fB;have PR:0≤i:=by grind
     have aY:i.toNat<es.length:=(cu.1 fB).1;cases hv with
     | list hp'=>
      cases hp' with
      | nil=>simp at aY
      | emp=>simp at aY
      | @list b o len cap _ g hl bK hI gF hx=>
       rw[←jG] at gF hx hI;refine .same S (run b o len cap ie bp PR (by omega)) ?_;have eD:=Bm (P:=P) e el;have Yh:=fx ao;have Yi:(bif bY P e then flat P e else [e])=aT P e:=rfl;rw[Yi];have ai7:ie.size=P.cellsOf e:=by omega
       refine .pref (by rw[eD]) (fun j hj=> ?_) (fun j t' y' ht OL=> ?_)
       ·rw[xG,ai7];exact hI _ (OA (by omega) (by omega))
       ·obtain ⟨t2,a1,a2⟩:=ON OL;rw[ht] at a1;cases a1;have hj:j<P.cellsOf e:=by grind
        have fZ:=hx i.toNat j el t' fB ht;refine ⟨g i.toNat j,?_,?_⟩
        ·grind
        ·rw[a2,fZ.wD];exact fZ
   case whole e' id=>
    obtain ⟨l,h⟩:=run_get h;cases ae:hp id with
    | none=>rw[ae] at h;cases h
    | some blk=>
     rw[ae] at h;cases blk<;>simp only at h<;>first|(cases h;done)|skip
     rename_i dW es fz;obtain ⟨hc,h⟩:=az h;simp only[aI,aK] at hc;obtain ⟨gr,fY⟩:=hc;obtain ⟨fQ,h⟩:=az h;simp only[aI,jM] at fQ;obtain rfl:=aL h;cases hv with
     | dX hd=>grind
     | dI hd=>grind
     | ee hd=>grind
     | fw hd=>grind
     | dS hd hb=>grind
     | @whole _ _ aJ oV b cap hd hb BT bK hm=>
      have fK:=hd;rw[ae] at hd;cases hd;have hr:=S.h.rel id _ ae;cases hr with
      | eA au=>grind
      | arr hL ao au hh hs hf fE hx=>
       have jG:e=e':=gr;obtain ⟨ie,z,bp,_,aZ,_⟩:=kK ao;rw[←jG] at bp aZ;refine .same S (run b 0 _ cap ie bp fQ.1 fQ.2) ?_;have:=aj.ptr (P:=P) (w:=w) (I:=I) (i:=i.toNat) (c:=0) fK (by simp) hb;simp only[ah.sz] at this;grind
     rename_i dW es vers;obtain ⟨hc,h⟩:=az h;simp only[aI,aK] at hc;obtain ⟨gr,fY⟩:=hc;obtain ⟨fQ,h⟩:=az h;simp only[aI,jM] at fQ;obtain rfl:=aL h;cases hv with
     | dX hd=>grind
     | dS hd hb=>grind
     | whole hd=>grind
     | ee hd hb=>grind
     | fw hd=>grind
     | @dI _ _ aJ vers' b cap hd hb BT bK hm=>
      have fK:=hd;rw[ae] at hd;cases hd;have ao:=(S.rows fK hb .here).ok;have jG:e=e':=gr;obtain ⟨ie,z,bp,_,aZ,_⟩:=kK ao;rw[←jG] at bp aZ;refine .same S (run b 0 _ cap ie bp fQ.1 fQ.2) ?_;have:=aj.ptr (P:=P) (w:=w) (I:=I) (i:=i.toNat) (c:=0) fK (by simp) hb;simp only[ah.sz] at this;grind
     rename_i dW es vers j0;obtain ⟨hc,h⟩:=az h;simp only[aI,aK] at hc;obtain ⟨gr,fY⟩:=hc;obtain ⟨fQ,h⟩:=az h;simp only[aI,jM] at fQ;obtain rfl:=aL h;cases hv with
     | dX hd=>grind
     | dS hd hb=>grind
     | whole hd=>grind
     | ee hd hb=>grind
     | dI hd=>grind
     | @fw _ _ j1 aJ vers' b cap hd hb BT bK hm=>
      have fK:=hd;rw[ae] at hd;cases hd;have jG:e=e':=gr;obtain ⟨ie,bp⟩: ∃ie,P.info? e=some ie:=by
       have hr:=S.h.rel id _ fK;cases hr with
       | out _ jl _ _ _ _ _ _ _ _=>rw[jG];exact wC jl
      have aZ:ie.size=P.cellsOf e:=by simp[Program.cellsOf,bp]
      refine .same S (run b 0 _ cap ie bp fQ.1 fQ.2) ?_;have:=aj.ptr (P:=P) (w:=w) (I:=I) (i:=i.toNat) (c:=0) fK (by simp) hb;simp only[ah.sz] at this;grind
   case row e' id ver path=>
    obtain ⟨e0,es,vers,l,ae,h1,h2,h3,h⟩:=qG h;obtain ⟨e2,v',k1,k2,h⟩:=Bc h;obtain ⟨hc,h⟩:=az h;simp only[aI,aK] at hc;obtain ⟨gr,fY⟩:=hc;obtain ⟨fQ,h⟩:=az h;simp only[aI,jM] at fQ;obtain rfl:=aL h;cases hv with
    | mr hd hp'=>rw[ae] at hd;cases hd;exact absurd hp' (Bd h1 h2 h3)
    | @row v _ e0 t1 _ ver b i1 c1 q es l1 vers hd hb hq PI ht gF=>
     have ai8:=gF;obtain ⟨b',e3,aJ,Ca,T,f,x,m1,m2,m3,m4,m5,m6⟩:=gF;have Bh:=hd;rw[ae] at Bh;cases Bh;obtain ⟨n1,n2⟩:=Jn m1 m3 m4 ht m5;rw[n2] at k2;cases k2;simp only[V.toList] at fQ;have hR:=S.rows hd hb m1;obtain ⟨C1,_,c2,_,c3,c4⟩:=hR.cells;rw[m2] at c2;cases c2;have hj:c1<P.cellsOf e3:=by
      rw[←fx hR.ok];grind
     obtain ⟨v2,d1,d2⟩:=c4 _ _ _ _ m3 m4 hj;rw[m6] at d1;cases d1;rw[m5] at d2;cases d2 with
     | gq a _=>unfold dV at a;grind
     | emp _=>grind
     | @row _ _ b1 cap _ hl _ _ _=>
      have ao:=(S.rows hd hb (m1.snoc m2 m3 m4 ht m5 hl m6)).ok;have jG:e=e':=gr;obtain ⟨ie,z,bp,_,aZ,_⟩:=kK ao;rw[←jG] at bp aZ;refine .same S (run b1 0 _ cap ie bp fQ.1 fQ.2) ?_;have:=aj.dD (P:=P) (I:=I) (i:=i.toNat) (c:=0) hd hb hq PI ht hl ai8;grind
   case sub e' id off len=>
    obtain ⟨l,h⟩:=run_get h;cases ae:hp id with
    | none=>rw[ae] at h;cases h
    | some blk=>
     rw[ae] at h;cases blk<;>simp only at h<;>first|(cases h;done)|skip
     rename_i dW es fz;obtain ⟨hc,h⟩:=az h;simp only[aI,aK] at hc;obtain ⟨gr,fY⟩:=hc;obtain ⟨fQ,h⟩:=az h;simp only[aI,jM] at fQ;obtain rfl:=aL h;cases hv with
     | jB hd=>grind
     | iW hd hb=>omega
     | @sub _ _ _ _ aJ oV b o cap hd hb mw bK ho=>
      have fK:=hd;rw[ae] at hd;cases hd;have hr:=S.h.rel id _ ae;cases hr with
      | eA au=>grind
      | arr hL ao au hh hs hf fE hx=>
       have jG:e=e':=gr;obtain ⟨ie,z,bp,_,aZ,_⟩:=kK ao;rw[←jG] at bp aZ;refine .same S (run b o _ cap ie bp fQ.1 fQ.2) ?_;have:=aj.ptr (P:=P) (w:=w) (I:=I) (i:=off+i.toNat) (c:=0) fK (by simp) hb;simp only[ah.sz] at this;grind
  case array n e=>
   have run: ∀(b o:Nat) (ie:TypeInfo),P.info? e=some ie→0≤i→i<(n:Int)→(Instr.indexAt t (.pointer (some ⟨b,o,none⟩)) (.int k i)).run P w= .ok (.pointer (some ⟨b,o+i.toNat*ie.size,none⟩)) w:=by
    intro b o ie ni h0 h1;simp[Instr.indexAt,asIntOf,run_underlying hu,h0,h1,sizeOf,typeInfo,ni,nR,Instr.sureAddr]
   cases x<;>simp only at h<;>first|(cases h;done)|skip
   case ptr id j c=>
    obtain ⟨fQ,h⟩:=az h;simp only[aI,jM] at fQ;obtain ⟨d,tu⟩:=Bn fQ.1;obtain ⟨ie,ni⟩:=wC tu;have aZ:ie.size=P.cellsOf e:=by simp[Program.cellsOf,ni]
    obtain ⟨l,h⟩:=run_get h;have fa: ∀blk,hp id=some blk→blk≠ .dead→dg P ((Instr.indexAt t v (.int k i)).run P w) w I β hp B M w0 ⟨.ptr id j (c+i.toNat*P.cellsOf e),[]⟩:=fun blk ae hd=>by
     obtain ⟨b,hb,rfl⟩:=hv.iZ ae hd;refine .same S (run b _ ie ni fQ.2.1 fQ.2.2) ?_;rw[aZ,xG];exact .ptr ae hd hb
    have new: ∀blk,hp id=some blk→blk≠ .dead→blk.sz P=P.cellsOf e→j=0→c=0→dg P ((Instr.indexAt t v (.int k i)).run P w) w I β hp B M w0 ⟨.ptr id i.toNat 0,[]⟩:=fun blk ae hd hz hj hc=>by
     obtain ⟨b,hb,rfl⟩:=hv.iZ ae hd;refine .same S (run b _ ie ni fQ.2.1 fQ.2.2) ?_;have:=aj.ptr (P:=P) (w:=w) (I:=I) (i:=i.toNat) (c:=0) ae hd hb;grind
    cases ae:hp id with
    | none=>rw[ae] at h;cases h
    | some blk=>
     rw[ae] at h;cases blk with
     | var T cs=>obtain rfl:=aL h;grind
     | arr e' es fz=>
      cases he:Nat.beq e e' with
      | true=>
       simp only[he,cond_true] at h;rw[aK] at he;subst he;obtain ⟨hc,h⟩:=az h;simp only[aI,aK] at hc;obtain rfl:=aL h;exact new _ ae (by simp) rfl hc.1 hc.2
      | false=>
       simp only[he,cond_false] at h;obtain rfl:=aL h;grind
     | nest e' es vs=>
      cases he:Nat.beq e e' with
      | true=>
       simp only[he,cond_true] at h;rw[aK] at he;subst he;obtain ⟨hc,h⟩:=az h;simp only[aI,aK] at hc;obtain rfl:=aL h;exact new _ ae (by simp) rfl hc.1 hc.2
      | false=>
       simp only[he,cond_false] at h;obtain rfl:=aL h;grind
     | _=>cases h
   case pref ts cs=>
    obtain ⟨fQ,h⟩:=az h;simp only[aI,jM] at fQ;obtain rfl:=aL h;obtain ⟨b,o,rfl,h1,h2,h3⟩:=hv.El;obtain ⟨d,tu⟩:=Bn fQ.1;obtain ⟨ie,ni⟩:=wC tu;have aZ:ie.size=P.cellsOf e:=by simp[Program.cellsOf,ni]
    refine .same S (run b _ ie ni fQ.2.1 fQ.2.2) ?_;rw[aZ];exact aj.V8 h1 h2 h3
theorem ai9 (S:ay P w I β hp B M w0) {t:TypeId} {v ix:Value} {x y:V} {r:R} {rd:List Nat} (hv:aj P w I β hp v x) (hy:aj P w I β hp ix y)
  (h:(xN P t x y).run C hp=some (r,rd)):dg P ((Instr.indexAt t v ix).run P w) w I β hp B M w0 r:=by
 cases x with
 | nl e es=>
  cases hv with
  | nl q _=>
   have e1:xN P t (.nl e es) y=xN P t (.list e es) y:=by unfold xN;split<;>rfl
   rw[e1] at h;exact Yg S (x:= .list e es) (.list q) hy (fun _ _ h=>by cases h) h
 | _=>exact Yg S hv hy (fun _ _ h=>by cases h) h
end
end Go.AM
namespace Go.AM
open Go.Maps
section
variable {P:Program} {w w':World} {I I':Nat→Nat→Prop} {β β':Nat→Option Nat} {hp hp':Nat→Option ah} {C:af} {B:Nat} {M:Nat→Prop} {w0:Start}
theorem aja (S:ay P w I β hp B M w0) {nb:Nat} {t:TypeId} {v:Value} {x:V} {lo hi:Option V} {lov hiv:Option Value} {r:R} {rd:List Nat} (hv:aj P w I β hp v x)
  (ma: ∀x,hi=some x→∃v,hiv=some v∧aj P w I β hp v x) (qa:lo=none→lov=none)
  (h:(I7 P nb t x lo hi).run C hp=some (r,rd)):dg P ((Instr.sliceAt t v lov hiv none).run P w) w I β hp B M w0 r:=by
 unfold I7 at h;split at h
 case h_2=>cases h
 rename_i e e' id k hh hu;obtain ⟨l,h1⟩:=run_get h;cases ae:hp id with
 | none=>rw[ae] at h1;cases h1
 | some blk=>
  rw[ae] at h1;cases blk<;>simp only at h1<;>first|(cases h1;done)|skip
  rename_i e2 es fz;cases fz with
  | true=>cases h1
  | false=>
  obtain ⟨hc,h2⟩:=az h1;simp only[aI,aK,jM] at hc;obtain ⟨rfl,rfl,ao,hh0,hhn⟩:=hc;obtain ⟨hn,rfl⟩:=mD h2;have nk:=qa rfl;subst nk;obtain ⟨yN,rfl,hhv⟩:=ma _ rfl;obtain rfl:=hhv.fM;obtain ⟨i,z,bp,_,aZ,_⟩:=kK ao;have bH:nb≠id:=fun e=>by grind
  obtain ⟨k1,k2⟩:=wB S ae;have jk:an hp id (some ah.dead) nb=none:=by rw[cw _ _ bH];exact hn
  have yO: ∀cap,es.length≤cap→(Instr.sliceBounds true es.length cap none (some (.int k hh)) none).run P w= .ok (0,hh.toNat,cap) w:=by
   intro cap bK;have hb:(uu es.length none (some (.int k hh)) fun l u=> .ax (decide (l=0∧u=hh.toNat)) (.ret (⟨.undef,[]⟩:R))).run C hp=some (⟨.undef,[]⟩,[]):=by
    simp[uu,Rd.run,hh0,hhn]
   obtain ⟨l,u,b1,b2,b3,b4⟩:=tv (P:=P) (w:=w) (I:=I) (β:=β) (hp:=hp) (n:=es.length) (isS:=true) (cap:=cap) (lov:=none) (hiv:=some (.int k hh)) bK (by simp) (fun x hx=>by grind) (fun _=>rfl) (by simp) hb;obtain ⟨b5,_⟩:=az b4;grind
  cases hv with
  | dX hd=>grind
  | dI hd=>grind
  | ee hd=>grind
  | fw hd=>grind
  | @dS _ _ _ a0 hd hb=>
   rw[ae] at hd;cases hd;have OU:hh=0:=by grind
   subst OU;have au:=yO 0 (av _);obtain ⟨a1,a2⟩:=Ei k2 e jk;refine ⟨_,w,I,_,Ks hu bp au,k1.trans a1,a2,.dS (bD _ _ _) (bD _ _ _)⟩
  | @whole _ _ aJ oV b cap hd hb BT bK hm=>
   have fK:=hd;rw[ae] at hd;cases hd;have hr:=S.h.rel id _ ae;cases hr with
   | eA au=>grind
   | @arr _ _ _ _ b' Ca hL _ au Kt wZ hf fE w5=>
    rw[hb] at au;cases au;have nQ:(es.take hh.toNat).length=hh.toNat:=by grind
    have cI:(Instr.sliceAt t (.slice (some ⟨b,0,none⟩) es.length cap) none (some (.int k hh)) none).run P w= .ok (.slice (some ⟨b,0,none⟩) hh.toNat cap) w:=by
     have au:=yO cap bK;by_cases Yj:cap=0
     ·subst Yj;simp[Instr.sliceAt,Instr.slice,run_underlying hu,au,sizeOf,typeInfo,bp]
     ·simp[Instr.sliceAt,Instr.slice,run_underlying hu,au,sizeOf,typeInfo,bp,Yj,nR]
    have pT: ∀aq blk',an hp id (some ah.dead) aq=some blk'→¬bd P w (β aq) blk' b:=by
     intro aq blk' h1 h2;by_cases nh:aq=id
     ·subst nh;rw[bD] at h1;cases h1;exact h2.alive rfl
     ·rw[cw _ _ nh] at h1;exact nh (S.h.inj aq id blk' _ b h1 ae h2 (.root (by simp) hb))
    obtain ⟨a1,a2⟩:=Bi k2 (blk:= .arr e (es.take hh.toNat) false) (w':=w) jk pT (fun _ _=>rfl) (fun _ _ _=>rfl) (av _) ⟨rfl,rfl⟩ (S.h.wx id _ b ae (by simp) hb)
     (fun b' h=>(dM (h.flat (by simp))).symm) (fun hle=> .arr hL ao rfl Kt (by rw[nQ];exact oc (eZ _ (by omega)) wZ) (fun h=>by cases h) (fun _=>fE rfl) fun i j y t' hy ht hj=>by
      grind)
    refine ⟨_,w,I,_,cI,k1.trans a1,a2,?_⟩;have:=aj.whole (P:=P) (w:=w) (I:=I) (β:=an β nb (some b)) (hp:=an (an hp id (some .dead)) nb (some (.arr e (es.take hh.toNat) false))) (cap:=cap) (bD _ _ _) (bD _ _ _) BT (by omega) hm;rw[nQ] at this;exact this
theorem sf {t:TypeId} {x:V} (h:qA P t x=true):
  (∃q n,P.underlying t=some (.int q)∧x= .int q n∧gE q n=true)∨(∃b,P.underlying t=some .bool∧x= .bool b)∨(∃s,P.underlying t=some .string∧x= .str s∧s.length≤maxLen):=by
 unfold qA at h;split at h
 all_goals simp_all
theorem size_data (s:ByteArray):s.data.toList.length=s.size:=by simp
theorem ajb {q:IntKind} {n:Int} (h:gE q n=true):(Lit.int q n).wf=true:=h
theorem P8 {t:TypeId} {x:V} {v:Value} (h:qA P t x=true) (hv:kq v x): ∃l,mapKey P t v=some l∧∀d,P.keyLits (d+1) t [v]=some [l]:=by
 rcases sf h with ⟨q,n,hu,rfl,hn⟩|⟨b,hu,rfl⟩|⟨s,hu,rfl,hs⟩
 ·obtain rfl:v= .int q n:=hv;have hw:=ajb hn;exact ⟨.int q n,by simp[mapKey,hu,hw],fun d=>by simp[Program.keyLits,hu,hw]⟩
 ·obtain rfl:v= .bool b:=hv;exact ⟨.bool b,by simp[mapKey,hu],fun d=>by simp[Program.keyLits,hu]⟩
 ·obtain ⟨s',rfl,vc⟩:=hv;have:s'.size≤maxLen:=by rw[←size_data,vc];exact hs
  exact ⟨.string s'.data.toList,by simp[mapKey,hu,this],fun d=>by simp[Program.keyLits,hu,this]⟩
theorem P9 {t:TypeId}: ∀{xs:List V} {j:Nat} {x:V},uo P t xs=true→xs[j]? =some x→qA P t x=true
 | [],j,x,_,h=>by simp at h
 | y::ys,0,x,h,hx=>by
  simp only[uo,aI] at h;grind
 | y::ys,j+1,x,h,hx=>by
  simp only[uo,aI] at h;exact P9 (j:=j) h.2 (by grind)
theorem mapM_some {α β:Type} {f:α→Option β}: ∀{l:List α},(∀a∈l,∃b,f a=some b)→∃bs,l.mapM f=some bs
 | [],_=>⟨[],rfl⟩
 | a::l,h=>by
  obtain ⟨b,hb⟩:=h a (AN ..);obtain ⟨bs,j6⟩:=mapM_some (l:=l) fun x hx=>h x (nD _ hx);simp_all
structure w6 (P:Program) (t:TypeId) (fs:Array Field):Prop where
 hu:P.underlying t=some (.struct fs)
 size:P.cellsOf t=fs.size
 at_ : ∀ (i : Nat) f, fs[i]? = some f → f.offset = i ∧ P.cellsOf f.type = 1 ∧ (f.name != "_") = true ∧ P.plainKey f.type = true
 free:(!(P.cutTypes.any (·.2==t))&& !P.stoodInHeld t)=true
 runs:P.runs 0 fs.toList=some fs.size
theorem Yk: ∀{k:Nat} {l:List Field},IX P k l=true→(∀(i:Nat) f,l[i]? =some f→f.offset=k+i∧P.cellsOf f.type=1)∧P.runs k l=some (k+l.length)
 | k,[],_=>⟨fun i f h=>by simp at h,by simp[Program.runs]⟩
 | k,f::l,h=>by
  simp only[IX,aI,aK] at h;obtain ⟨a,b⟩:=Yk (l:=l) h.2;refine ⟨fun i g hg=> ?_,?_⟩
  ·grind
  ·simp only[Program.runs];grind
theorem ajc {t:TypeId} {fs:Array Field} (hu:P.underlying t=some (.struct fs)) (h:Ob P t fs=true):w6 P t fs:=by
 unfold Ob at h;rw[aI,aI,aI] at h;obtain ⟨⟨h1,h2⟩,h3,h4⟩:=h;rw[aK] at h1;obtain ⟨a,b⟩:=Yk h2;rw[dt,Array.length_toList] at b;refine ⟨hu,h1,fun i f hf=> ?_,h4,b⟩;obtain ⟨a1,a2⟩:=a i f (by grind);grind
theorem ajd {t:TypeId} (hp:P.plainKey t=true) (m:Nat):P.keyTypeAt (m+1) t=true:=by
 unfold Program.plainKey at hp;unfold Program.keyTypeAt;grind
theorem aje {t:TypeId} (hp:P.plainKey t=true) (m:Nat):P.tiled (m+1) t=true:=by
 unfold Program.plainKey at hp;unfold Program.tiled;grind
theorem w6.at {t:TypeId} {fs:Array Field} (A:w6 P t fs) (m:Nat):P.keyTypeAt (m+2) t=true:=by
 unfold Program.keyTypeAt;rw[A.hu];have hf:=A.free;rw[aI] at hf;simp only;rw[aI,aI];refine ⟨⟨Array.all_eq_true.2 fun i hi=> ?_,hf.1⟩,hf.2⟩;obtain ⟨_,_,h3,h4⟩:=A.at_ i fs[i] (kX hi);rw[aI];exact ⟨h3,ajd h4 m⟩
theorem w6.tiled {t:TypeId} {fs:Array Field} (A:w6 P t fs):P.tiled 2 t=true:=by
 unfold Program.tiled;rw[A.hu];simp only;rw[aI];refine ⟨by rw[A.runs,A.size];simp,Array.all_eq_true.2 fun i hi=> ?_⟩;exact aje (A.at_ i fs[i] (kX hi)).2.2.2 0
theorem w6.law {t:TypeId} {fs:Array Field} (A:w6 P t fs):WideMaps.KeyLaw P t:=deep_law (m:=2) (by omega) (A.at 0) A.tiled (by rw[A.hu])
theorem Ku: ∀{ts:List TypeId} {xs:List V},uq P ts xs=true→xs.length=ts.length∧∀(j:Nat) t x,ts[j]? =some t→xs[j]? =some x→qA P t x=true
 | [],[],_=>⟨rfl,fun j t x h=>by simp at h⟩
 | [],_::_,h=>by cases h
 | _::_,[],h=>by cases h
 | t::ts,x::xs,h=>by
  simp only[uq,aI] at h;obtain ⟨a,b⟩:=Ku h.2;grind
inductive Kv (P:Program) (t:TypeId) (x:V):Prop
 | one:qA P t x=true→x.cells=[x]→Kv P t x
 | arr {n:Nat} {e:TypeId} {xs:List V}:x= .agg xs→WideMaps.ArrKey P t e n→xs.length=n→0<P.types.size→uo P e xs=true→Kv P t x
 | str {fs:Array Field} {xs:List V}:x= .agg xs→w6 P t fs→0<P.types.size→uq P (fs.toList.map (·.type)) xs=true→Kv P t x
theorem yP {t:TypeId} {x:V} (h:qB P t x=true):Kv P t x:=by
 unfold qB at h;split at h
 ·rename_i n e xs hu;simp only[aI,aK] at h;rw[mK] at h;exact .arr rfl ⟨hu,h.2.2.2.1,h.2.1,h.2.2.1⟩ h.1 h.2.2.2.2.1 h.2.2.2.2.2
 ·rename_i fs xs hu;rw[aI,aI,mK] at h;exact .str rfl (ajc hu h.1) h.2.1 h.2.2
 ·refine .one h ?_;rcases sf h with ⟨q,n,hu,rfl,hn⟩|⟨b,hu,rfl⟩|⟨s,hu,rfl,hs⟩<;>rfl
theorem uD.one {x:V} {v:Value} (h:uD v x) (hx:x.cells=[x]):kq v x:=by
 cases x<;>first|exact h|skip
 simp only[V.cells] at hx;rename_i cs;have:=congrArg List.length hx;cases cs with
 | nil=>simp at hx
 | cons c cs=>
  simp only[xK] at hx;have:=congrArg SizeOf.sizeOf hx.1;grind
theorem ajf {ts:List TypeId} {xs:List V} {cs:Array Value} (hf:uq P ts xs=true) (hs:cs.size=xs.length) (hc: ∀(j:Nat) (u:Value) (y:V),cs[j]? =some u→xs[j]? =some y→kq u y) {i:Nat} {t:TypeId} (ht:ts[i]? =some t):
  ∃l,∀d,P.keyLits (d+1) t ((cs.toList.drop i).take 1)=some [l]:=by
 obtain ⟨a,b⟩:=Ku hf;have hi:=(cu.1 ht).1;have jE:i<cs.size:=by omega
 have va:i<xs.length:=by omega
 obtain ⟨l,_,h2⟩:=P8 (b i t xs[i] ht (bU va)) (hc i cs[i] xs[i] (kX jE) (bU va));refine ⟨l,fun d=> ?_⟩;have e1:(cs.toList.drop i).take 1=[cs[i]]:=by
  rw[List.drop_eq_getElem_cons (by omega)];simp
 grind
theorem Kw {t:TypeId} {x:V} {v:Value} (h:qB P t x=true) (hv:uD v x): ∃l,Go.keyOf P t v=some l:=by
 cases yP h with
 | one h1 hx=>
  obtain ⟨l,hl,_⟩:=P8 h1 (hv.one hx);refine ⟨l,?_⟩;rcases sf h1 with ⟨q,n,hu,_⟩|⟨b,hu,_⟩|⟨s,hu,_⟩<;>simp only[Go.keyOf,hu,hl]
 | @arr n e xs hx A hl hp0 hf=>
  subst hx;obtain ⟨cs,rfl,hs,hc⟩:=hv;obtain ⟨m,hm⟩: ∃m,P.types.size=m+1:=⟨P.types.size-1,by omega⟩
  have Qa:=A.keyType ⟨m,hm⟩;have hlen:cs.toList.length=P.cellsOf t:=by rw[A.size];grind
  have Fl:(Value.agg cs).formed P t=true:=by simp[Value.formed,A.hu,A.size,hs,hl]
  have hex: ∀i∈List.range n,∃y,P.keyLits (m+1) e (((Value.agg cs).cells.toList.drop (i*P.cellsOf e)).take (P.cellsOf e))=some y:=by
   intro i hi;have hi:=iD.1 hi;rw[A.one];have jE:i<cs.size:=by omega
   have va:i<xs.length:=by omega
   obtain ⟨l,_,h2⟩:=P8 (P9 hf (bU va)) (hc i cs[i] xs[i] (kX jE) (bU va));have e1:((Value.agg cs).cells.toList.drop (i*1)).take 1=[cs[i]]:=by
    show (cs.toList.drop (i*1)).take 1=_;rw[im,List.drop_eq_getElem_cons (by omega)];simp
   simp_all
  obtain ⟨bs,j6⟩:=mapM_some hex;refine ⟨.string (keyBytes bs.flatten),?_⟩;have axx:(Value.agg cs).cells.toList.length=P.cellsOf t:=hlen;unfold Go.keyOf;rw[A.hu];simp only[Qa,Fl,Bool.and_self,rv];unfold Program.keyLits;rw[A.hu,hm];grind
 | @str fs xs hx A hp0 hf=>
  subst hx;obtain ⟨cs,rfl,hs,hc⟩:=hv;obtain ⟨m,hm⟩: ∃m,P.types.size=m+1:=⟨P.types.size-1,by omega⟩
  have Qa:P.keyType t=true:=by
   unfold Program.keyType;rw[hm];exact A.at m
  have qb:=(Ku hf).1;rw[db,Array.length_toList] at qb;have Fl:(Value.agg cs).formed P t=true:=by simp[Value.formed,A.hu,A.size,hs];exact qb
  have hlen:(Value.agg cs).cells.toList.length=P.cellsOf t:=by
   show cs.toList.length=_;rw[A.size];grind
  have pM : fs.all (·.name != "_") = true := Array.all_eq_true.2 fun i hi => (A.at_ i fs[i] (kX hi)).2.2.1;have hex: ∀f∈fs.toList,∃y,P.keyLits (m+1) f.type (((Value.agg cs).cells.toList.drop f.offset).take (P.cellsOf f.type))=some y:=by
   intro f Fl;obtain ⟨i,hi⟩:=sI Fl;obtain ⟨a1,a2,_,_⟩:=A.at_ i f (by grind);rw[a1,a2];obtain ⟨l,hl⟩:=ajf hf hs hc (i:=i) (t:=f.type) (by grind);exact ⟨_,hl m⟩
  obtain ⟨bs,j6⟩:=mapM_some hex;refine ⟨.string (keyBytes bs.flatten),?_⟩;unfold Go.keyOf;rw[A.hu];simp only[Qa,Fl,Bool.and_self,rv];unfold Program.keyLits;rw[A.hu,hm];grind
theorem Qb {t:TypeId} {x:V} (h:qB P t x=true):Keyed P t:=by
 cases yP h with
 | one h1 hx=>
  rcases sf h1 with ⟨q,n,hu,_⟩|⟨b,hu,_⟩|⟨s,hu,_⟩
  ·exact int_keyed hu
  ·exact bool_keyed hu
  ·exact string_keyed hu
 | arr hx A hl _ hf=>exact Keyed.of_law A.law
 | str hx A _ hf=>exact Keyed.of_law A.law
theorem Qc {t:TypeId} {x y:V} {v u:Value} (h1:qA P t x=true) (h2:qA P t y=true) (hv:kq v x) (hu:kq u y):wg x y=true↔v=u:=by
 rcases sf h1 with ⟨q,n,jl,rfl,_⟩|⟨b,jl,rfl⟩|⟨s,jl,rfl,_⟩<;>
 rcases sf h2 with ⟨q',n',qc,rfl,_⟩|⟨b',qc,rfl⟩|⟨s',qc,rfl,_⟩<;>
  (rw[jl] at qc;cases qc)
 ·obtain rfl:v= .int q n:=hv;obtain rfl:u= .int q n':=hu;simp[wg]
 ·obtain rfl:v= .bool b:=hv;obtain rfl:u= .bool b':=hu;simp[wg]
 ·obtain ⟨s1,rfl,e1⟩:=hv;obtain ⟨s2,rfl,e2⟩:=hu;simp only[wg,beq_iff_eq,Value.string.injEq,←e1,←e2];constructor
  ·intro h;have:=Array.toList_inj.1 h;cases s1;simp_all
  grind
theorem Yl {t:TypeId}: ∀{xs ys:List V} {vs us:List Value},uo P t xs=true→uo P t ys=true→xs.length=ys.length→vs.length=xs.length→us.length=ys.length→
  (∀(j:Nat) v x,vs[j]? =some v→xs[j]? =some x→kq v x)→(∀(j:Nat) v x,us[j]? =some v→ys[j]? =some x→kq v x)→(pO xs ys=true↔vs=us)
 | [],[],vs,us,_,_,_,h1,h2,_,_=>by
  have e1:=oL (l:=vs) (by omega);have e2:=oL (l:=us) (by omega);simp[pO,e1,e2]
 | [],_::_,_,_,_,_,h,_,_,_,_=>by simp at h
 | _::_,[],_,_,_,_,h,_,_,_,_=>by simp at h
 | x::xs,y::ys,[],us,_,_,_,h,_,_,_=>by simp at h
 | x::xs,y::ys,v::vs,[],_,_,_,_,h,_,_=>by simp at h
 | x::xs,y::ys,v::vs,u::us,f1,f2,h,h1,h2,r1,r2=>by
  simp only[uo,aI] at f1 f2;have a:=Qc f1.1 f2.1 (r1 0 v x rfl rfl) (r2 0 u y rfl rfl);have b:=Yl (vs:=vs) (us:=us) f1.2 f2.2 (by grind) (by grind) (by grind) (fun j v x hj hx=>r1 (j+1) v x (by grind) (by grind)) (fun j v x hj hx=>r2 (j+1) v x (by grind) (by grind));simp only[pO,aI,a,b,xK]
theorem Ym: ∀{ts:List TypeId} {xs ys:List V} {vs us:List Value},uq P ts xs=true→uq P ts ys=true→vs.length=xs.length→us.length=ys.length→
  (∀(j:Nat) v x,vs[j]? =some v→xs[j]? =some x→kq v x)→(∀(j:Nat) v x,us[j]? =some v→ys[j]? =some x→kq v x)→(pO xs ys=true↔vs=us)
 | [],[],[],vs,us,_,_,h1,h2,_,_=>by
  have e1:=oL (l:=vs) (by omega);have e2:=oL (l:=us) (by omega);simp[pO,e1,e2]
 | [],_::_,_,_,_,h,_,_,_,_,_=>by cases h
 | [],[],_::_,_,_,_,h,_,_,_,_=>by cases h
 | _::_,[],_,_,_,h,_,_,_,_,_=>by cases h
 | _::_,_::_,[],_,_,_,h,_,_,_,_=>by cases h
 | t::ts,x::xs,y::ys,[],us,_,_,h,_,_,_=>by simp at h
 | t::ts,x::xs,y::ys,v::vs,[],_,_,_,h,_,_=>by simp at h
 | t::ts,x::xs,y::ys,v::vs,u::us,f1,f2,h1,h2,r1,r2=>by
  simp only[uq,aI] at f1 f2;have a:=Qc f1.1 f2.1 (r1 0 v x rfl rfl) (r2 0 u y rfl rfl);have b:=Ym (vs:=vs) (us:=us) f1.2 f2.2 (by grind) (by grind) (fun j v x hj hx=>r1 (j+1) v x (by grind) (by grind)) (fun j v x hj hx=>r2 (j+1) v x (by grind) (by grind));simp only[pO,aI,a,b,xK]
theorem Qd {t:TypeId} {x y:V} {v u:Value} (h1:qB P t x=true) (h2:qB P t y=true) (hv:uD v x) (hu:uD u y):ju x y=true↔v=u:=by
 unfold ju;cases yP h1 with
 | one f1 c1=>
  cases yP h2 with
  | one f2 c2=>
   rw[c1,c2];simp only[pO,Bool.and_true];exact Qc f1 f2 (hv.one c1) (hu.one c2)
  | arr hy A hl _ hf=>
   rcases sf f1 with ⟨q,n,jl,_⟩|⟨b,jl,_⟩|⟨s,jl,_⟩<;>(rw[A.hu] at jl;cases jl)
  | str hy A _ hf=>
   rcases sf f1 with ⟨q,n,jl,_⟩|⟨b,jl,_⟩|⟨s,jl,_⟩<;>(rw[A.hu] at jl;cases jl)
 | arr hx A hl _ hf=>
  cases yP h2 with
  | one f2 c2=>
   rcases sf f2 with ⟨q,n,jl,_⟩|⟨b,jl,_⟩|⟨s,jl,_⟩<;>(rw[A.hu] at jl;cases jl)
  | arr hy A2 AS _ vd=>
   have jG:=A.hu.symm.trans A2.hu;cases jG;subst hx;subst hy;obtain ⟨cs,rfl,s1,r1⟩:=hv;obtain ⟨ds,rfl,s2,r2⟩:=hu;have:=Yl (vs:=cs.toList) (us:=ds.toList) hf vd (by omega) (by omega) (by omega) (fun j v x hj hx=>r1 j v x (by grind) hx) (fun j v x hj hx=>r2 j v x (by grind) hx);simp only[V.cells,this,Value.agg.injEq];simp_all
  | str hy A2 _ vd=>
   have jG:=A.hu.symm.trans A2.hu;cases jG
 | str hx A _ hf=>
  cases yP h2 with
  | one f2 c2=>
   rcases sf f2 with ⟨q,n,jl,_⟩|⟨b,jl,_⟩|⟨s,jl,_⟩<;>(rw[A.hu] at jl;cases jl)
  | arr hy A2 AS _ vd=>
   have jG:=A.hu.symm.trans A2.hu;cases jG
  | str hy A2 _ vd=>
   have jG:=A.hu.symm.trans A2.hu;cases jG;subst hx;subst hy;obtain ⟨cs,rfl,s1,r1⟩:=hv;obtain ⟨ds,rfl,s2,r2⟩:=hu;have:=Ym (vs:=cs.toList) (us:=ds.toList) hf vd (by omega) (by omega) (fun j v x hj hx=>r1 j v x (by grind) hx) (fun j v x hj hx=>r2 j v x (by grind) hx);simp only[V.cells,this,Value.agg.injEq];simp_all
theorem Yn {k:V}: ∀{es:List V},(∀x∈es,ju k (x.comp 0)=false)→gM k es=false∧(∀z,ki k es z=z)∧∀v,jv k v es=es++[.ba [k,v]]
 | [],_=>⟨rfl,fun _=>rfl,fun _=>rfl⟩
 | e::es,h=>by
  have h0:=h e (AN ..);obtain ⟨a,b,c⟩:=Yn (k:=k) (es:=es) fun x hx=>h x (nD _ hx);exact ⟨by simp[gM,h0,a],fun z=>by simp[ki,h0,b],fun v=>by simp[jv,h0,c]⟩
theorem Yo {k:V}: ∀{es:List V} {j:Nat} {k' y:V},es[j]? =some (.ba [k',y])→ju k k'=true→(∀i x,i<j→es[i]? =some x→ju k (x.comp 0)=false)→
  gM k es=true∧(∀z,ki k es z=y)∧∀v,jv k v es=es.set j (.ba [k',v])
 | [],j,k',y,h,_,_=>by simp at h
 | e::es,0,k',y,h,he,_=>by
  simp at h;subst h;exact ⟨by simp[gM,V.comp,V.nth,he],fun z=>by simp[ki,V.comp,V.nth,he],fun v=>by simp[jv,V.comp,V.nth,he]⟩
 | e::es,j+1,k',y,h,he,aY=>by
  have h0:=aY 0 e (by omega) rfl;obtain ⟨a,b,c⟩:=Yo (k:=k) (es:=es) (j:=j) (by simpa using h) he fun i x hi hx=>aY (i+1) x (by omega) (by grind);exact ⟨by simp[gM,h0,a],fun z=>by simp[ki,h0,b],fun v=>by simp[jv,h0,c]⟩
theorem Yp {kt vt:TypeId} {E:Array MapEntry} {es:List V} {k:V} {kv:Value} (hs:E.size=es.length) (hx: ∀(j:Nat) (e:MapEntry) (x:V),E[j]? =some e→es[j]? =some x→Ji P kt vt e x)
  (hn:E.toList.Pairwise (fun a b=>a.key≠b.key)) (hk:qB P kt k=true) (Kx:uD kv k) (w:World):
  ((Instr.findKey kt kv E.toList).run P w= .ok none w∧(∀e∈E.toList,e.key≠kv)∧gM k es=false∧(∀z,ki k es z=z)∧∀v,jv k v es=es++[.ba [k,v]])∨
  ∃j e k' y,(Instr.findKey kt kv E.toList).run P w= .ok (some (j,e.val)) w∧E[j]? =some e∧e.key=kv∧es[j]? =some (.ba [k',y])∧qB P kt k'=true∧uD kv k'∧fJ P vt y=true∧kq e.val y∧
   gM k es=true∧(∀z,ki k es z=y)∧∀v,jv k v es=es.set j (.ba [k',v]):=by
 have K:=Qb hk;obtain ⟨l,hl⟩:=Kw hk Kx;have wF: ∀(j:Nat) x,es[j]? =some x→∃e,E[j]? =some e∧Ji P kt vt e x:=by
  intro j x hj;have aY:j<E.size:=by grind
  exact ⟨E[j],kX aY,hx j _ x (kX aY) hj⟩
 have keys: ∀e∈E.toList,∃l,Go.keyOf P kt e.key=some l:=by
  intro e he;obtain ⟨j,hj⟩:=sI he;have dZ:E[j]? =some e:=by grind
  have aY:j<es.length:=by grind
  obtain ⟨k',y,_,h1,h2,_⟩:=hx j e es[j] dZ (bU aY);exact Kw h1 h2
 rcases K.find w hl E.toList keys with ⟨h1,h2⟩|⟨j,e,h1,h2,h3⟩
 ·left;refine ⟨h1,h2,Yn fun x Kp=> ?_⟩;obtain ⟨j,hj⟩:=sI Kp;obtain ⟨e,he,k',y,rfl,f1,f2,_⟩:=wF j x hj;cases hq:ju k (V.comp (.ba [k',y]) 0) with
  | false=>rfl
  | true=>
   have:=(Qd hk f1 Kx f2).1 hq;grind
 ·right;have hE:E[j]? =some e:=by grind
  have aY:j<es.length:=by grind
  obtain ⟨k',y,hy,f1,f2,f3,f4⟩:=hx j e es[j] hE (bU aY);have hj:=bU aY;rw[hy] at hj;rw[h3] at f2;refine ⟨j,e,k',y,h1,hE,h3,hj,f1,f2,f3,f4,Yo hj ((Qd hk f1 Kx f2).2 rfl) fun i x hi mY=> ?_⟩;obtain ⟨e',BP,k2,y2,rfl,g1,g2,_⟩:=wF i x mY;cases hq:ju k (V.comp (.ba [k2,y2]) 0) with
  | false=>rfl
  | true=>
   have:=(Qd hk g1 Kx g2).1 hq;have i1:i<E.toList.length:=by grind
   have i2:j<E.toList.length:=by simp;omega
   have:=List.pairwise_iff_getElem.1 hn i j i1 i2 hi;grind
theorem aj.Qe {v:Value} {x:V} (h:aj P w I β hp v x) {t:TypeId} (hx:qA P t x=true):kq v x:=by
 rcases sf hx with ⟨q,n,_,rfl,_⟩|⟨b,_,rfl⟩|⟨s,_,rfl,_⟩
 ·exact h.fM
 ·exact h.mW
 ·exact h.oh
theorem aj.Yq {v:Value} {x:V} (h:aj P w I β hp v x) {t:TypeId} (hx:qB P t x=true):uD v x:=by
 cases yP hx with
 | one f c=>
  have:=h.Qe f;cases x<;>first|exact this|cases this
 | arr hx A hl _ hf=>
  subst hx;obtain ⟨cs,rfl,h1,h2⟩:=h.mX;exact ⟨cs,rfl,h1,fun j u y hu hy=>(h2 j u y hu hy).Qe (P9 hf hy)⟩
 | str hx A _ hf=>
  subst hx;obtain ⟨cs,rfl,h1,h2⟩:=h.mX;obtain ⟨a,b⟩:=Ku hf;refine ⟨cs,rfl,h1,fun j u y hu hy=> ?_⟩;have hj:=(cu.1 hy).1;exact (h2 j u y hu hy).Qe (b j _ y (bU (by omega)) hy)
theorem Yr {vt:TypeId} {y:V} (h:mapVal P vt=true) (ht:fJ P vt y=true):(∃q n,P.underlying vt=some (.int q)∧y= .int q n)∨∃b,P.underlying vt=some .bool∧y= .bool b:=by
 unfold mapVal at h;unfold fJ at ht;grind
theorem kq.Qf {vt:TypeId} {v:Value} {y:V} (h:mapVal P vt=true) (ht:fJ P vt y=true) (hv:kq v y):aj P w I β hp v y:=by
 rcases Yr h ht with ⟨q,n,_,rfl⟩|⟨b,_,rfl⟩
 ·obtain rfl:v= .int q n:=hv;exact .int
 ·obtain rfl:v= .bool b:=hv;exact .bool
theorem aj.ajg {vt:TypeId} {v:Value} {y:V} (h:mapVal P vt=true) (ht:fJ P vt y=true) (hv:aj P w I β hp v y):kq v y:=by
 rcases Yr h ht with ⟨q,n,_,rfl⟩|⟨b,_,rfl⟩
 ·exact hv.fM
 ·exact hv.mW
theorem ajh {vt:TypeId} {z:V} (h:IY P vt=some z) (w:World): ∃v,(zeroValue vt).run P w= .ok v w∧kq v z:=by
 unfold IY at h;cases hi:P.info? vt with
 | none=>grind
 | some i=>
  rw[hi] at h;simp only[Option.bind_some] at h;cases hz:i.zero with
  | none=>grind
  | some v=>
   rw[hz] at h;refine ⟨v,by simp[zeroValue,typeInfo,hi,hz],?_⟩;cases v<;>simp only at h<;>first|(cases h;done)|skip
   ·cases h;rfl
   ·cases h;rfl
theorem Qg {t kt vt:TypeId} (h:oU P t=some (kt,vt)):P.underlying t=some (.map kt vt):=by
 unfold oU at h;grind
theorem Qh (S:ay P w I β hp B M w0) {ok:Bool} {v:Value} {x:V} {b:Bool} {r:R} {rd:List Nat} {res:Result Value} (hv:aj P w I β hp v x)
  (hr:res= .ok (if ok then .tuple #[v,.bool b] else v) w) (h:(IZ ok x b).run C hp=some (r,rd)):dg P res w I β hp B M w0 r:=by
 unfold IZ at h;obtain rfl:=aL h;cases ok with
 | false=>exact .same S hr hv
 | true=>
  refine .same S hr (.ba rfl fun j u y hu hy=> ?_)
  match j,hu,hy with
  | 0,hu,hy=>grind
  | 1,hu,hy=>simp at hu hy;subst hu;subst hy;exact .bool
  | j+2,hu,hy=>simp at hy
theorem aji (S:ay P w I β hp B M w0) {t kt vt:TypeId} (ht:oU P t=some (kt,vt)) {m k:Value} {mx kx:V} {ok:Bool} {r:R} {rd:List Nat} (hm:aj P w I β hp m mx) (hk:aj P w I β hp k kx)
  (h:(Oc P t mx kx ok).run C hp=some (r,rd)):dg P ((Instr.lookup t m k ok).run P w) w I β hp B M w0 r:=by
 unfold Oc at h;rw[ht] at h;simp only at h;cases hz:IY P vt with
 | none=>rw[hz] at h;cases h
 | some z=>
  rw[hz] at h;obtain ⟨hc,h'⟩:=az h;clear h;have h:=h';clear h';simp only[aI] at hc;obtain ⟨tw,Fm,Ky⟩:=hc;have hu:=Qg ht;have BV:=hk.Yq tw;have K:=Qb tw;obtain ⟨l,hl⟩:=Kw tw BV;obtain ⟨zv,Ys,Yt⟩:=ajh hz w;cases mx<;>simp only at h<;>first|(cases h;done)|skip
  ·rename_i t' id;obtain ⟨pb,h'⟩:=az h;clear h;have h:=h';clear h';rw[aK] at pb;subst pb;obtain ⟨l2,h'⟩:=run_get h;clear h;have h:=h';clear h';cases ae:hp id with
   | none=>rw[ae] at h;cases h
   | some blk=>
    rw[ae] at h;cases blk<;>simp only at h<;>first|(cases h;done)|skip
    rename_i t2 es;obtain ⟨pb,h'⟩:=az h;clear h;have h:=h';clear h';rw[aK] at pb;subst pb;cases hm with
    | lj hd=>grind
    | @cO _ _ b aJ hd hb=>
     rw[ae] at hd;cases hd;have hr:=S.h.rel id _ ae;cases hr with
     | @map _ Yu Yv _ b' clock E lC au hh hs hI hx hn=>
      rw[hb] at au;cases au;rw[hu] at lC;cases lC;rcases Yp hs hx hn tw BV w with ⟨h1,_,h3,h4,_⟩|⟨j,e,k',y,h1,_,_,_,_,_,h6,h7,h3,h4,_⟩
      ·rw[h3,h4,Em Ky] at h;refine Qh S (kq.Qf Fm Ky Yt) ?_ h;unfold Instr.lookup;simp only[Sem.run_bind,run_underlying hu,Result.andThen_ok,Go.MapKept.run_getObj_map hh,Sem.run_pure,K.check w E.isEmpty hl,h1,Ys]
      ·rw[h3,h4,Em h6] at h;refine Qh S (kq.Qf Fm h6 h7) ?_ h;unfold Instr.lookup;simp only[Sem.run_bind,run_underlying hu,Result.andThen_ok,Go.MapKept.run_getObj_map hh,Sem.run_pure,K.check w E.isEmpty hl,h1]
  ·rename_i t';obtain ⟨pb,h⟩:=az h;cases hm;rw[Em Ky] at h;refine Qh S (kq.Qf Fm Ky Yt) ?_ h;have hf:(Instr.findKey kt k []).run P w= .ok none w:=by
    rcases K.find w hl [] (by simp) with ⟨h1,_⟩|⟨j,e,_,h2,_⟩
    all_goals grind
   unfold Instr.lookup;simp[run_underlying hu,K.check w true hl,hf,Ys]
theorem ajj (S:ay P w I β hp B M w0) {t:TypeId} {nb:Nat} {r:R} {rd:List Nat} (h:(Rd.ax (oU P t).isSome (jw nb (.map t []) (.cO t nb) [])).run C hp=some (r,rd)):
  dg P ((Instr.makeMap t none).run P w) w I β hp B M w0 r:=by
 obtain ⟨ht,h⟩:=az h;obtain ⟨hn,rfl⟩:=mD h;obtain ⟨⟨kt,vt⟩,ht⟩:=AL.1 ht;have hu:=Qg ht;have dd: ∀j,¬I w.heap.size j:=fun j h=>nE _ (S.h.jR _ j h);have dE:(w.alloc (.map #[] 0)).heap[w.heap.size]? =some (.map #[] 0):=heap_alloc_new w _;obtain ⟨a1,a2⟩:=Bi S (w':=w.alloc (.map #[] 0)) (blk:= .map t []) (b:=w.heap.size) hn (fun aq blk' h ho=>nE _ (S.h.lt h ho)) (fun j h=>absurd h (dd j))
  (fun b' _ aY=>heap_alloc_old w _ b' aY) (by simp) ⟨rfl,rfl⟩ (.inr S.size) (fun b' h=>(dM (h.flat (by simp))).symm)
  (fun _=> .map hu rfl dE rfl dd (fun j e x he _=>by simp at he) (by simp))
 exact ⟨_,_,_,_,Go.RowKit.run_makeMap t w,a1,a2,.cO (bD _ _ _) (bD _ _ _)⟩
theorem Yw (S:ay P w I β hp B M w0) {t kt vt:TypeId} (ht:oU P t=some (kt,vt)) {m k v:Value} {mx kx vx:V} {r:R} {rd:List Nat} (hm:aj P w I β hp m mx) (hk:aj P w I β hp k kx) (hv:aj P w I β hp v vx)
  (h:(I4 P t mx kx vx).run C hp=some (r,rd)):qK P ((Instr.mapUpdate t m k v).run P w) w I β hp B M w0 r:=by
 unfold I4 at h;rw[ht] at h;obtain ⟨hc,h'⟩:=az h;clear h;have h:=h';clear h';simp only[aI] at hc;obtain ⟨tw,Fm,yQ⟩:=hc;have hu:=Qg ht;have BV:=hk.Yq tw;have pU:=aj.ajg Fm yQ hv;have K:=Qb tw;obtain ⟨l,hl⟩:=Kw tw BV;cases mx<;>simp only at h<;>first|(cases h;done)|skip
 rename_i t' id;obtain ⟨pb,h'⟩:=az h;clear h;have h:=h';clear h';rw[aK] at pb;subst pb;obtain ⟨l2,h'⟩:=run_get h;clear h;have h:=h';clear h';cases ae:hp id with
 | none=>rw[ae] at h;cases h
 | some blk=>
  rw[ae] at h;cases blk<;>simp only at h<;>first|(cases h;done)|skip
  rename_i t2 es;obtain ⟨pb,h'⟩:=az h;clear h;have h:=h';clear h';rw[aK] at pb;subst pb;obtain rfl:=aL h;cases hm with
  | lj hd=>grind
  | @cO _ _ b aJ hd hb=>
   rw[ae] at hd;cases hd;have hr:=S.h.rel id _ ae;cases hr with
   | @map _ Yu Yv _ b' clock E lC au hh hs hI hx hn=>
    rw[hb] at au;cases au;rw[hu] at lC;cases lC;have aY:b<w.heap.size:=(v7.1 hh).1;have fin: ∀(E':Array MapEntry) (Fo:Nat),(Instr.mapUpdate t (.map (some b)) k v).run P w= .ok () {w with heap:=w.heap.setIfInBounds b (.map E' Fo)}→E'.size=(jv kx vx es).length→
      (∀(j:Nat) (e:MapEntry) (x:V),E'[j]? =some e→(jv kx vx es)[j]? =some x→Ji P kt vt e x)→E'.toList.Pairwise (fun a b=>a.key≠b.key)→
      qK P ((Instr.mapUpdate t (.map (some b)) k v).run P w) w I β hp B M w0 ⟨.undef,[(id,.map t (jv kx vx es))]⟩:=by
     intro E' Fo cI vc c7 pd;have dE:({w with heap:=w.heap.setIfInBounds b (.map E' Fo)}:World).heap[b]? =some (.map E' Fo):=by simp[aY]
     obtain ⟨a1,a2⟩:=Bj S (w':={w with heap:=w.heap.setIfInBounds b (.map E' Fo)}) (blk':= .map t (jv kx vx es)) ae (by simp) rfl hb hI (by simp)
      (fun b' au=>by grind) (by simp only[bsize,dE,hh]) (by simp) ⟨rfl,rfl⟩ (fun _=> .map hu rfl dE vc hI c7 pd)
     exact ⟨_,I,β,cI,a1,a2,rfl⟩
    rcases Yp hs hx hn tw BV w with ⟨h1,h2,_,_,h5⟩|⟨j,e,k',y,h1,hE,hek,XD,ajk,ajl,_,_,_,_,h5⟩
    ·have e5:=h5 vx;refine fin (E.push {key:=k,val:=v,born:=clock}) (clock+1) ?_ (by grind) (fun j e x he om=> ?_) ?_
     ·unfold Instr.mapUpdate;simp only[Sem.run_bind,run_underlying hu,Result.andThen_ok,Go.MapKept.run_getObj_map hh,K.check w false hl,h1,Go.MapKept.run_setObj_map _ hh]
     ·rw[e5] at om;rw[Array.getElem?_push] at he;split at he
      ·rename_i hj;rw[oO (by omega),hj,hs,Nat.sub_self] at om;simp at he om;subst he;subst om;exact ⟨kx,vx,rfl,tw,BV,yQ,pU⟩
      grind
     grind
    ·have e5:=h5 vx;have hj:j<E.size:=(v7.1 hE).1;refine fin (E.modify j fun e=>{e with key:=k,val:=v}) clock ?_ (by grind) (fun i e' x he mY=> ?_) ?_
     ·have dp:=K.stays w hl;unfold Instr.mapUpdate;simp only[Sem.run_bind,run_underlying hu,Result.andThen_ok,Go.MapKept.run_getObj_map hh,K.check w false hl,h1];simp only[hE,Option.map_some,Option.getD_some,hek,dp,Result.andThen_ok,Go.MapKept.run_setObj_map _ hh]
     ·rw[e5] at mY;rw[IG] at he;rw[DF] at mY;split at he
      ·rename_i Kz;subst Kz;rw[aE rfl,dv] at mY;rw[hE] at he;simp at he mY;subst he;subst mY;exact ⟨k',vx,rfl,ajk,ajl,yQ,pU⟩
      grind
     ·have w7: ∀i (h1:i<(E.modify j fun e=>{e with key:=k,val:=v}).toList.length) (h2:i<E.toList.length),((E.modify j fun e=>{e with key:=k,val:=v}).toList[i]).key=(E.toList[i]).key:=by
       grind
      rw[List.pairwise_iff_getElem] at hn⊢;grind
theorem ajm (S:ay P w I β hp B M w0) {t ty kt vt:TypeId} {v:Value} {x:V} {r:R} {rd:List Nat} (hu:P.underlying t=some (.map kt vt)) (hv:aj P w I β hp v x)
  (h:(I5 x).run C hp=some (r,rd)):dg P ((Builtin.len_ #[t] ty #[v]).run P w) w I β hp B M w0 r:=by
 unfold I5 at h;cases x<;>simp only at h<;>first|(cases h;done)|skip
 ·rename_i t' id;obtain ⟨l2,h'⟩:=run_get h;clear h;have h:=h';clear h';cases ae:hp id with
  | none=>rw[ae] at h;cases h
  | some blk=>
   rw[ae] at h;cases blk<;>simp only at h<;>first|(cases h;done)|skip
   rename_i t2 es;obtain rfl:=aL h;cases hv with
   | lj hd=>grind
   | @cO _ _ b aJ hd hb=>
    rw[ae] at hd;cases hd;have hr:=S.h.rel id _ ae;cases hr with
    | @map _ Yu Yv _ b' clock E lC au hh hs hI hx hn=>
     rw[hb] at au;cases au;refine .same S (v:= .int .i64 E.size) (by simp[Builtin.len_,run_underlying hu,Go.MapKept.run_getObj_map hh,goInt]) ?_;rw[hs];exact .int
 ·obtain rfl:=aL h;cases hv;exact .same S (v:= .int .i64 0) (by simp[Builtin.len_,run_underlying hu,goInt]) .int
theorem aj.Qi {v:Value} {t:TypeId} (h:aj P w I β hp v (.e8 t)):v= .map none:=by cases h;rfl
theorem aj.ajn {v:Value} {t t':TypeId} {id:Nat} {es:List V} (h:aj P w I β hp v (.cO t id)) (ae:hp id=some (.map t' es)): ∃b,v= .map (some b):=by
 cases h with
 | lj h=>grind
 | cO h hb=>grind
theorem Yx (S:ay P w I β hp B M w0) {op:BinOp} {t:TypeId} {a:Option Nat} {r:R} {rd:List Nat} (x y:Operand)
  (h:(IU P op t a.isNone).run C hp=some (r,rd)):dg P ((do eqGuard op t x y (.map a) (.map none);binOp op t (.map a) (.map none)).run P w) w I β hp B M w0 r:=by
 unfold IU at h;split at h
 case h_2=>cases h
 rename_i kt vt hu;have he:(Op.equal t (.map a) (.map none)).run P w= .ok a.isNone w:=by
  show (Op.equalIn (9999+1) t (.map a) (.map none)).run P w=_;rw[Op.equalIn];cases a<;>simp[Sem.run_bind,run_underlying hu,Result.andThen_ok,Sem.run_pure]
 cases op<;>simp only at h<;>first|(cases h;done)|skip
 ·obtain rfl:=aL h;exact .same S (by simp[eqGuard,binOp,he]) .bool
 ·obtain rfl:=aL h;exact .same S (by simp[eqGuard,binOp,he]) .bool
end
end Go.AM
