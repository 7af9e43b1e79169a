/-
  Functions of the program, lifted to plain data.
-/
import Derived.Great.BuildSlice
import Derived.Maps.Keyed
import Derived.WideKeyArr
import Derived.MapKept
import Derived.ChangeMaps4
import Derived.Carry
import Derived.Test.YtmdfofkbhepjaaaGreatDoorP1
noncomputable section
set_option linter.unusedVariables false
set_option linter.unusedSimpArgs false
set_option linter.unusedSectionVars false
namespace Go.AM
section
variable {P:Program} {w w':World} {I I':Nat→Nat→Prop} {β β':Nat→Option Nat} {hp hp':Nat→Option ah} {C:af} {B:Nat} {M:Nat→Prop} {w0:Start}
theorem py.xp {t:TypeId} {v:Value} {x:V} (h:py P w I t v x):gX P t x=x:=by
 cases h with
 | gu _ p=>exact p.xp
 | emp hu=>exact rD hu
 | row hu _ _ _ _=>exact rD hu
theorem Cf {new:List V} {e ea:TypeId} {i c:Nat} {q:Path} {es di:List V} {x:V} (hx:es[i]? =some x) (hp:(parts P e x)[c]? =some (.list ea di)):
  setRow P new e es ((i,c)::q)=es.set i (dz P e ((parts P e x).set c (.list ea (setRow P new ea di q)))):=by
 simp only[setRow,hx,hp]
theorem Fz {b:Nat} {e t:TypeId} {es:List V} {i c:Nat} {x y:V} (hR:iJ P w I b e es) (hx:es[i]? =some x) (ht:(aT P e)[c]? =some t):
  ∀{i' c':Nat} {x':V} {t':TypeId},(es.set i (dz P e ((parts P e x).set c y)))[i']? =some x'→(aT P e)[c']? =some t'→
   ∃x0,es[i']? =some x0∧ca P e x' c'=if i'=i∧c'=c then y else ca P e x0 c':=by
 intro i' c' x' t' dd gx;have pB:i<es.length:=(cw.1 hx).1;have yQ:c<(aT P e).length:=(cw.1 ht).1;have KW:c'<(aT P e).length:=(cw.1 gx).1;by_cases hi:i'=i
 ·subst hi;rw[o7 pB] at dd;cases dd;refine ⟨x,hx,?_⟩;by_cases hc:c'=c
  ·subst hc;rw[aB ⟨rfl,rfl⟩];exact vw (o7 (by rw[BV];exact yQ)) gx
  ·rw[aC (fun h=>hc h.2)];have h1:((parts P e x).set c y)[c']? =some (gX P t' (ca P e x c')):=by
    rw[uW (fun h=>hc h.symm)];exact rC gx
   rw[vw h1 gx];obtain ⟨Ca,_,_,_,_,vG⟩:=hR.cells;obtain ⟨v,_,ho⟩:=vG i' c' x t' hx gx (by rw[←fB hR.ok];exact KW);exact ho.xp
 ·rw[uW (fun h=>hi h.symm)] at dd;exact ⟨x',dd,by rw[aC (fun h=>hi h.1)]⟩
theorem QD {b b1:Nat} {e e1:TypeId} {es l l':List V} {p:Path} (h:At P w b e es p b1 e1 l) (hl:l'.length=l.length):(setRow P l' e es p).length=es.length:=by
 cases h with
 | here=>exact hl
 | step h1 h2 h3 h4 h5 h6 h7 h8=>
  rw[Cf h2 (by rw[rC h3,h5,rD h4])];simp
theorem At.aju {b b1:Nat} {e e1:TypeId} {es l l':List V} {p:Path} (QE:At P w b e es p b1 e1 l) (hw: ∀k,k≠b1→w'.heap[k]? =w.heap[k]?) (hl:l'.length=l.length):
  (∀q b' e' m,At P w b e es q b' e' m→iJ P w I b' e' m)→(∀q e' m,At P w b e es q b1 e' m→q=p)→
  ∀q b' e' m,At P w' b e (setRow P l' e es p) q b' e' m→
   (∃r m0,p=q++r∧At P w b e es q b' e' m0∧m=setRow P l' e' m0 r)∨
   (∃r,r≠[]∧q=p++r∧At P w' b1 e1 l' r b' e' m)∨
   (At P w b e es q b' e' m∧b'≠b1∧¬q <+: p∧¬p <+: q):=by
 induction QE with
 | here=>
  intro cS nz q b' e' m h;cases q with
  | nil=>cases h with|here=>exact .inl ⟨[],_,rfl,.here,rfl⟩
  | cons a q=>exact .inr (.inl ⟨a::q,by simp,rfl,h⟩)
 | @step b i c b2 len cap b1 e t ea e1 es di l p Ca T f x h1 h2 h3 h4 h5 h6 h7 h8 ih=>
  intro cS nz q b' e' m h;have oK:(parts P e x)[c]? =some (.list ea di):=by rw[rC h3,h5,rD h4]
  rw[Cf h2 oK] at h;have hR:=cS _ _ _ _ .here;have hb:b≠b1:=by
   intro hb;subst hb;have:=nz [] _ _ .here;cases this
  have QF:=ih hw hl (fun q b' e' m h=>cS _ _ _ _ (.step h1 h2 h3 h4 h5 h6 h7 h)) (fun q e' m h=>by
   have:=nz _ _ _ (.step h1 h2 h3 h4 h5 h6 h7 h);exact (List.cons.inj this).2)
  cases h with
  | here=>exact .inl ⟨_,es,rfl,.here,(Cf h2 oK).symm⟩
  | @step _ i' c' b3 ajv QG _ _ t' e3 _ _ jg _ q yP T' f' x' k1 k2 k3 k4 k5 k6 k7 k8=>
   rw[hw b hb] at k1;obtain ⟨x0,y1,y2⟩:=Fz hR h2 h3 k2 k3;by_cases jE:i'=i∧c'=c
   ·rw[aB jE] at y2;obtain ⟨rfl,rfl⟩:=jE;rw[h1] at k1;cases k1;rw[h7] at k7;cases k7;rw[k5] at y2;cases y2;rcases QF _ _ _ _ k8 with ⟨r,m0,z1,z2,z3⟩|⟨r,z1,z2,z3⟩|⟨z1,z2,z3,z4⟩
    ·exact .inl ⟨r,m0,by rw[z1];rfl,.step h1 h2 h3 h4 h5 h6 h7 z2,z3⟩
    ·exact .inr (.inl ⟨r,z1,by rw[z2];rfl,z3⟩)
    ·refine .inr (.inr ⟨.step h1 h2 h3 h4 h5 h6 h7 z1,z2,fun hh=>z3 ?_,fun hh=>z4 ?_⟩)
     ·exact (wS.1 hh).2
     ·exact (wS.1 hh).2
   ·rw[aC jE,k5] at y2;have bN: ∀q2 b5 e5 j8,At P w b3 e3 jg q2 b5 e5 j8→b5≠b1:=by
     intro q2 b5 e5 j8 hq zj;subst zj;have:=nz _ _ _ (.step k1 y1 k3 k4 y2.symm k6 k7 hq);injection this with h1 h2;injection h1 with h1 h3;exact jE ⟨h1,h3⟩
    have lD:=k8.xi (w:=w) fun q2 b5 e5 j8 hq=>hw b5 (bN q2 b5 e5 j8 hq);refine .inr (.inr ⟨.step k1 y1 k3 k4 y2.symm k6 k7 lD,bN _ _ _ _ lD,fun hh=> ?_,fun hh=> ?_⟩)
    ·have:=(wS.1 hh).1;injection this with h1 h3;exact jE ⟨h1,h3⟩
    ·have:=(wS.1 hh).1;injection this with h1 h3;exact jE ⟨h1.symm,h3.symm⟩
theorem At.xC {b b1:Nat} {e e1:TypeId} {es l l':List V} {p:Path} (QE:At P w b e es p b1 e1 l) (hw: ∀k,k≠b1→w'.heap[k]? =w.heap[k]?) (hl:l'.length=l.length):
  (∀q b' e' m,At P w b e es q b' e' m→iJ P w I b' e' m)→(∀q e' m,At P w b e es q b1 e' m→q=p)→
  ∀q b' e' m,At P w b e es q b' e' m→
   (∃r,p=q++r∧At P w' b e (setRow P l' e es p) q b' e' (setRow P l' e' m r)∧∃e1' m1,At P w b' e' m r b1 e1' m1∧m1=l)∨
   (∃r,r≠[]∧q=p++r∧At P w b1 e1 l r b' e' m∧(∀b2 e2 m2,At P w' b1 e1 l' r b2 e2 m2→At P w' b e (setRow P l' e es p) q b2 e2 m2))∨
   (At P w' b e (setRow P l' e es p) q b' e' m∧b'≠b1∧¬q <+: p∧¬p <+: q):=by
 induction QE with
 | here=>
  intro cS nz q b' e' m h;cases q with
  | nil=>cases h with|here=>exact .inl ⟨[],rfl,.here,_,_,.here,rfl⟩
  | cons a q=>exact .inr (.inl ⟨a::q,by simp,rfl,h,fun _ _ _ h=>h⟩)
 | @step b i c b2 len cap b1 e t ea e1 es di l p Ca T f x h1 h2 h3 h4 h5 h6 h7 h8 ih=>
  intro cS nz q b' e' m h;have oK:(parts P e x)[c]? =some (.list ea di):=by rw[rC h3,h5,rD h4]
  have jf:=Cf (new:=l') (q:=p) h2 oK;have hR:=cS _ _ _ _ .here;have pB:i<es.length:=(cw.1 h2).1;have hb:b≠b1:=by
   intro hb;subst hb;have:=nz [] _ _ .here;cases this
  have QF:=ih hw hl (fun q b' e' m h=>cS _ _ _ _ (.step h1 h2 h3 h4 h5 h6 h7 h)) (fun q e' m h=>by
   have:=nz _ _ _ (.step h1 h2 h3 h4 h5 h6 h7 h);exact (List.cons.inj this).2)
  have tP:=(hw b hb).trans h1;have xD:(es.set i (dz P e ((parts P e x).set c (.list ea (setRow P l' ea di p)))))[i]? =some (dz P e ((parts P e x).set c (.list ea (setRow P l' ea di p)))):=o7 pB;have QH:ca P e (dz P e ((parts P e x).set c (.list ea (setRow P l' ea di p)))) c= .list ea (setRow P l' ea di p):=by
   obtain ⟨x0,y1,y2⟩:=Fz hR h2 h3 xD h3;rw[aB ⟨rfl,rfl⟩] at y2;exact y2
  cases h with
  | here=>
   exact .inl ⟨(i,c)::p,rfl,.here,_,_,.step h1 h2 h3 h4 h5 h6 h7 h8,rfl⟩
  | @step _ i' c' b3 ajv QG _ _ t' e3 _ _ jg _ q yP T' f' x' k1 k2 k3 k4 k5 k6 k7 k8=>
   rw[jf];by_cases jE:i'=i∧c'=c
   ·obtain ⟨rfl,rfl⟩:=jE;rw[h1] at k1;cases k1;rw[h7] at k7;cases k7;rw[h3] at k3;cases k3;rw[h4] at k4;cases k4;rw[h2] at k2;cases k2;rw[h5] at k5;cases k5;rcases QF _ _ _ _ k8 with ⟨r,z1,z2,z3⟩|⟨r,z1,z2,z3,z4⟩|⟨z1,z2,z3,z4⟩
    ·exact .inl ⟨r,by rw[z1];rfl,.step tP xD h3 h4 QH h6 h7 z2,z3⟩
    ·exact .inr (.inl ⟨r,z1,by rw[z2];rfl,z3,fun b2 e2 m2 hh=> .step tP xD h3 h4 QH h6 h7 (z4 b2 e2 m2 hh)⟩)
    ·refine .inr (.inr ⟨.step tP xD h3 h4 QH h6 h7 z1,z2,fun hh=>z3 ?_,fun hh=>z4 ?_⟩)
     ·exact (wS.1 hh).2
     ·exact (wS.1 hh).2
   ·have bN: ∀q2 b5 e5 j8,At P w b3 e3 jg q2 b5 e5 j8→b5≠b1:=by
     intro q2 b5 e5 j8 hq zj;subst zj;have:=nz _ _ _ (.step k1 k2 k3 k4 k5 k6 k7 hq);injection this with h1 h2;injection h1 with h1 h3;exact jE ⟨h1,h3⟩
    have lD:=k8.mono (w':=w') fun q2 b5 e5 j8 hq=>hw b5 (bN q2 b5 e5 j8 hq);have QI: ∃x2,(es.set i (dz P e ((parts P e x).set c (.list ea (setRow P l' ea di p)))))[i']? =some x2:=by
     have:i'<es.length:=(cw.1 k2).1;exact ⟨_,bU (by rw[oG];exact this)⟩
    obtain ⟨x2,kI⟩:=QI;obtain ⟨x0,y1,y2⟩:=Fz hR h2 h3 kI k3;rw[aC jE] at y2;rw[k2] at y1;cases y1;rw[k5] at y2;refine .inr (.inr ⟨.step ((hw b hb).trans k1) kI k3 k4 y2 k6 k7 lD,bN _ _ _ _ k8,fun hh=> ?_,fun hh=> ?_⟩)
    ·have:=(wS.1 hh).1;injection this with h1 h3;exact jE ⟨h1,h3⟩
    ·have:=(wS.1 hh).1;injection this with h1 h3;exact jE ⟨h1.symm,h3.symm⟩
theorem At.fun {b b1:Nat} {e e1:TypeId} {es l:List V} {q:Path} (h:At P w b e es q b1 e1 l): ∀{b2 e2 l2},At P w b e es q b2 e2 l2→b2=b1∧e2=e1∧l2=l:=by
 induction h with
 | here=>intro b2 e2 l2 h2;cases h2;exact ⟨rfl,rfl,rfl⟩
 | step h1 h2 h3 h4 h5 h6 h7 h8 ih=>
  intro b2 e2 l2 k;cases k with
  | step k1 k2 k3 k4 k5 k6 k7 k8=>
   rw[h1] at k1;cases k1;rw[h7] at k7;cases k7;rw[h2] at k2;cases k2;rw[h5] at k5;cases k5;exact ih k8
theorem At.split: ∀{q r:Path} {b b1:Nat} {e e1:TypeId} {es l:List V},At P w b e es (q++r) b1 e1 l→∃b' e' m,At P w b e es q b' e' m∧At P w b' e' m r b1 e1 l
 | [],r,b,b1,e,e1,es,l,h=>⟨_,_,_,.here,h⟩
 | a::q,r,b,b1,e,e1,es,l,h=>by
  cases h with
  | step h1 h2 h3 h4 h5 h6 h7 h8=>
   obtain ⟨b',e',m,k1,k2⟩:=At.split h8;exact ⟨b',e',m,.step h1 h2 h3 h4 h5 h6 h7 k1,k2⟩
theorem iJ.cI {b:Nat} {e:TypeId} {es:List V} (h:iJ P w I b e es) (hw:w'.heap[b]? =w.heap[b]?) (hI: ∀k j,I k j→w'.cell? ⟨k,j,none⟩=w.cell? ⟨k,j,none⟩) (j7: ∀k,bsize w' k=bsize w k):iJ P w' I b e es:=by
 obtain ⟨ok,⟨Ca,T,c1,c0,c2,c3⟩,nI⟩:=h;refine ⟨ok,⟨Ca,T,hw.trans c1,c0,c2,fun i j x t' k1 k2 k3=> ?_⟩,nI⟩;obtain ⟨v,m1,m2⟩:=c3 i j x t' k1 k2 k3;exact ⟨v,m1,m2.mono (fun _ _ h=>h) hI fun b' _ _ _ _=>j7 b'⟩
theorem iJ.above {b b1 b2 i c len cap:Nat} {e e1 t ea:TypeId} {es di l l':List V} {r:Path} {Ca:Array Value} {T:TypeId} {f:Nat×Nat} {x:V} (hR:iJ P w I b e es)
  (h1:w.heap[b]? =some (.cells Ca T f)) (h2:es[i]? =some x) (h3:(aT P e)[c]? =some t) (h4:P.underlying t=some (.slice ea)) (h5:ca P e x c= .list ea di) (h6:0<cap)
  (h7:Ca[i*P.cellsOf e+c]? =some (.slice (some ⟨b2,0,none⟩) len cap)) (h8:At P w b2 ea di r b1 e1 l) (hl:l'.length=l.length)
  (hw:w'.heap[b]? =w.heap[b]?) (hI: ∀k j,I k j→w'.cell? ⟨k,j,none⟩=w.cell? ⟨k,j,none⟩) (j7: ∀k,bsize w' k=bsize w k):iJ P w' I b e (setRow P l' e es ((i,c)::r)):=by
 have oK:(parts P e x)[c]? =some (.list ea di):=by rw[rC h3,h5,rD h4]
 rw[Cf h2 oK];have hR0:=hR;obtain ⟨ok,⟨yP,_,c1,c0,c2,c3⟩,nI⟩:=hR;rw[h1] at c1;cases c1;refine ⟨ok,⟨Ca,_,hw.trans h1,c0,by simpa using c2,fun i' j x' t' k1 k2 k3=> ?_⟩,nI⟩;obtain ⟨x0,y1,y2⟩:=Fz hR0 h2 h3 k1 k2;obtain ⟨v,m1,m2⟩:=c3 i' j x0 t' y1 k2 k3;refine ⟨v,m1,?_⟩;have m3:py P w' I t' v (ca P e x0 j):=m2.mono (fun _ _ h=>h) hI fun b' _ _ _ _=>j7 b';rw[y2];by_cases jE:i'=i∧j=c
 ·rw[aB jE];obtain ⟨rfl,rfl⟩:=jE;rw[h2] at y1;cases y1;rw[h3] at k2;cases k2;rw[h5] at m3;have hlen:=QD (l':=l') h8 hl;rw[h7] at m1;cases m1;generalize hy:V.list ea di=y at m3;cases m3 with
  | gu a p=>unfold dU at a;rw[h4] at a;cases a
  | emp a=>exact absurd h6 (nY _)
  | row a b c d e=>
   cases hy;rw[←hlen];exact .row a b c (by omega) e
 ·rw[aC jE];exact m3
theorem ajw (S:az P w I β hp B M w0) {id b b1 i c:Nat} {e0 e1:TypeId} {es l l':List V} {vers vers':List Nat} {path:Path} (K:Path→Nat→TypeId→List V→Prop)
  (ae:hp id=some (.nest e0 es vers)) (hb:β id=some b) (ha:At P w b e0 es path b1 e1 l) (hl:l'.length=l.length)
  (hw: ∀k,k≠b1→w'.heap[k]? =w.heap[k]?) (j7: ∀k,bsize w' k=bsize w k) (bc:w'.heap.size=w.heap.size) (nk:w'.os=w.os∧w'.output=w.output)
  (ajx:iJ P w' I b1 e1 l')
  (Yq: ∀a r b' e' m,At P w' b1 e1 l' (a::r) b' e' m→b'≠b1∧(At P w b1 e1 l (a::r) b' e' m∨(a=(i,c)∧K r b' e' m)))
  (hK: ∀r b' e' m,K r b' e' m→iJ P w I b' e' m∧(M b'∨B≤b')∧(∀aH cA,hp aH=some cA→¬bf P w (β aH) cA b'))
  (tW: ∀r1 r2 b' e1 m1 e2 m2,K r1 b' e1 m1→K r2 b' e2 m2→r1=r2)
  (sy:vers'.length=vers.length) (EK: ∀k,bA vers k≤bA vers' k)
  (xE: ∀(r:Path) i' c' t' v ea l0,(path++r).length<vers.length→bA vers' (path++r).length=bA vers (path++r).length→P.underlying t'=some (.slice ea)→qm P w b1 e1 l r i' c' t' v (.list ea l0)→
   ∃Cg,Cg.length=l0.length∧qm P w' b1 e1 l' r i' c' t' v (.list ea Cg)):
  Le P w I β hp w' I β (ao hp id (some (.nest e0 (setRow P l' e0 es path) vers')))∧az P w' I β (ao hp id (some (.nest e0 (setRow P l' e0 es path) vers'))) B M w0:=by
 have hr:=S.h.rel id _ ae;rw[hb] at hr;cases hr with
 | iY av=>cases av
 | nest av cS lX=>
 cases av;have nz: ∀q e' m,At P w b e0 es q b1 e' m→q=path:=fun q e' m h=>lX _ _ _ _ _ _ _ h ha;have dj: ∀j,¬I b1 j:=(cS _ _ _ _ ha).nI;have xF: ∀k j,I k j→w'.cell? ⟨k,j,none⟩=w.cell? ⟨k,j,none⟩:=fun k j hk=>World.cell?_of_block (hw k (fun e=>dj j (e▸hk)));have Yr:bf P w (β id) (.nest e0 es vers) b1:= .row hb ha;have same: ∀{ar cA b'},ar≠id→hp ar=some cA→bf P w (β ar) cA b'→w'.heap[b']? =w.heap[b']? :=
  fun hi h ho=>hw _ fun e=>hi (S.h.inj _ _ _ _ b1 h ae (e▸ho) Yr)
 have Ch:(setRow P l' e0 es path).length=es.length:=QD ha hl;have xC:=At.aju (I:=I) (w':=w') (l':=l') ha hw hl cS nz;have QJ: ∀q b' e' m,At P w' b e0 (setRow P l' e0 es path) q b' e' m→(∃e2 m2,At P w b e0 es q b' e2 m2)∨∃r,q=path++(i,c)::r∧K r b' e' m:=by
  intro q b' e' m h;rcases xC q b' e' m h with ⟨r,m0,z1,z2,z3⟩|⟨r,z1,z2,z3⟩|⟨z1,z2,z3,z4⟩
  ·exact .inl ⟨_,_,z2⟩
  ·cases r with
   | nil=>exact absurd rfl z1
   | cons a r=>
    obtain ⟨y1,y2⟩:=Yq a r b' e' m z3;rcases y2 with y2|⟨rfl,y2⟩
    ·exact .inl ⟨_,_,by rw[z2];exact ha.app y2⟩
    ·exact .inr ⟨r,z2,y2⟩
  ·exact .inl ⟨_,_,z1⟩
 have sF: ∀b',bf P w' (β id) (.nest e0 (setRow P l' e0 es path) vers') b'→bf P w (β id) (.nest e0 es vers) b'∨((M b'∨B≤b')∧∀aH cA,hp aH=some cA→¬bf P w (β aH) cA b'):=by
  intro b' ho;cases ho with
  | root _ h=>exact .inl (.root (by simp) h)
  | row h1 h2=>
   rw[hb] at h1;cases h1;rcases QJ _ _ _ _ h2 with ⟨e2,m2,h⟩|⟨r,_,h⟩
   ·exact .inl (.row hb h)
   ·exact .inr (hK _ _ _ _ h).2
 have hle:Le P w I β hp w' I β (ao hp id (some (.nest e0 (setRow P l' e0 es path) vers'))):=by
  refine ⟨fun _ _ h=>h,xF,fun ar cA h=> ?_,fun ar cA ku b' h h3 hd3 av=>j7 b',fun ar e bV vs e' aK sx b2 q i' c' t v ea l0 h h' ff aZ hv ht hc=> ?_⟩
  ·by_cases hi:ar=id
   ·subst hi;rw[ae] at h;cases h;exact ⟨_,bH _ _ _,⟨rfl,Ch.symm,sy.symm,EK⟩,fun _=>rfl⟩
   ·exact ⟨cA,by rw[cz _ _ hi];exact h,ah.le_refl _,fun _=>rfl⟩
  ·by_cases hi:ar=id
   ·subst hi;rw[ae] at h;cases h;rw[bH] at h';cases h';rw[hb] at ff;cases ff;obtain ⟨b',e',m,Ca,T,f,x,k1,k2,k3,k4,k5,k6⟩:=hc;rcases At.xC (I:=I) (w':=w') (l':=l') ha hw hl cS nz q b' e' m k1 with ⟨r,z1,z2,e2,m2,z3,_⟩|⟨r,z1,z2,z3,z4⟩|⟨z1,z2,z3,z4⟩
    ·cases r with
     | nil=>
      cases z3;rw[uX] at z1;subst z1;obtain ⟨w1,w2,w3⟩:=ha.fun k1;subst w2;subst w3;obtain ⟨Cg,g1,g2⟩:=xE [] i' c' t v ea l0 (by simpa using aZ) (by simpa using hv) ht ⟨_,_,_,Ca,T,f,x,.here,k2,k3,k4,k5,k6⟩;refine ⟨Cg,g1,?_⟩;obtain ⟨b5,e5,j8,C5,T5,f5,x5,q1,q2,q3,q4,q5,q6⟩:=g2;cases q1;exact ⟨_,_,_,C5,T5,f5,x5,z2,q2,q3,q4,q5,q6⟩
     | cons a r=>
      cases z3 with
      | @step _ i2 c2 b3 len cap _ _ t3 QK _ _ jg _ r Ca3 T3 f3 x3 g1 g2 g3 g4 g5 g6 g7 g8=>
       have av:b'≠b1:=by
        intro e;subst e;have:=nz _ _ _ k1;rw[this] at z1;have:=congrArg List.length z1;simp at this
       have oK:(parts P e' x3)[c2]? =some (.list QK jg):=by rw[rC g3,g5,rD g4]
       rw[Cf g2 oK] at z2;have QI: ∃x2,(m.set i2 (dz P e' ((parts P e' x3).set c2 (.list QK (setRow P l' QK jg r)))))[i']? =some x2:=by
        have:i'<m.length:=(cw.1 k3).1;exact ⟨_,bU (by rw[oG];exact this)⟩
       obtain ⟨x2,kI⟩:=QI;obtain ⟨x0,y1,y2⟩:=Fz (cS _ _ _ _ k1) g2 g3 kI k4;rw[k3] at y1;cases y1;have g8l:=(ha.fun ((k1.app (.step g1 g2 g3 g4 g5 g6 g7 g8)) |> fun h=>by rw[z1];exact h)).2.2;by_cases jE:i'=i2∧c'=c2
       ·rw[aB jE] at y2;obtain ⟨rfl,rfl⟩:=jE;rw[k3] at g2;cases g2;rw[k5] at g5;cases g5;exact ⟨_,QD g8 (by rw[hl,g8l]),b',e',_,Ca,T,f,x2,z2,(hw b' av).trans k2,kI,k4,y2,k6⟩
       ·rw[aC jE,k5] at y2;exact ⟨l0,rfl,b',e',_,Ca,T,f,x2,z2,(hw b' av).trans k2,kI,k4,y2,k6⟩
    ·subst z2;obtain ⟨Cg,g1,g2⟩:=xE r i' c' t v ea l0 aZ hv ht ⟨_,_,_,Ca,T,f,x,z3,k2,k3,k4,k5,k6⟩;obtain ⟨b5,e5,j8,C5,T5,f5,x5,q1,q2,q3,q4,q5,q6⟩:=g2;exact ⟨Cg,g1,_,_,_,C5,T5,f5,x5,z4 _ _ _ q1,q2,q3,q4,q5,q6⟩
    ·exact ⟨l0,rfl,b',e',m,Ca,T,f,x,z1,(hw b' z2).trans k2,k3,k4,k5,k6⟩
   ·rw[cz _ _ hi,h] at h';cases h';exact ⟨l0,rfl,hc.mono fun _ _ _ _ hh=>same hi h (.row ff hh)⟩
 have hold: ∀{ar cA b'},ao hp id (some (.nest e0 (setRow P l' e0 es path) vers')) ar=some cA→bf P w' (β ar) cA b'→
   (∃ku,hp ar=some ku∧bf P w (β ar) ku b')∨(ar=id∧(M b'∨B≤b')∧∀aH cA,hp aH=some cA→¬bf P w (β aH) cA b'):=by
  intro ar cA b' h ho;by_cases hi:ar=id
  ·subst hi;rw[bH] at h;cases h;rcases sF b' ho with h|h
   ·exact .inl ⟨_,ae,h⟩
   ·exact .inr ⟨rfl,h⟩
  ·rw[cz _ _ hi] at h;exact .inl ⟨cA,h,ho.mono fun b2 sD=>same hi h sD⟩
 refine ⟨hle,⟨⟨fun ar cA h=> ?_,fun i1 i2 b1 b2 b' h1 h2 o1 o2=> ?_,fun ar cA b' h ho=> ?_,fun b' h=>by rw[bc];exact S.h.jQ b' h⟩,fun b' h1 h2=> ?_,by rw[bc];exact S.size,S.new,⟨nk.1.trans S.io.1,nk.2.trans S.io.2⟩⟩⟩
 ·by_cases hi:ar=id
  ·subst hi;rw[bH] at h;cases h;rw[hb];refine .nest rfl (fun q b' e' m h=> ?_) (fun q1 q2 b' f1 m1 f2 m2 h1 h2=> ?_)
   ·rcases xC q b' e' m h with ⟨r,m0,z1,z2,z3⟩|⟨r,z1,z2,z3⟩|⟨z1,z2,z3,z4⟩
    ·subst z3;subst z1;obtain ⟨b5,e5,m5,g1,g2⟩:=At.split ha;obtain ⟨w1,w2,w3⟩:=g1.fun z2;subst w1;subst w2;subst w3;cases r with
     | nil=>cases g2;exact ajx
     | cons a r=>
      cases g2 with
      | step g1' g2 g3 g4 g5 g6 g7 g8=>
       refine (cS _ _ _ _ z2).above g1' g2 g3 g4 g5 g6 g7 g8 hl (hw _ fun e=> ?_) xF j7;subst e;have:=nz _ _ _ z2;have:=congrArg List.length this;simp at this
    ·cases r with
     | nil=>exact absurd rfl z1
     | cons a r=>
      obtain ⟨y1,y2⟩:=Yq a r b' e' m z3;rcases y2 with y2|⟨rfl,y2⟩
      ·exact (cS _ _ _ _ (ha.app y2)).cI (hw _ y1) xF j7
      ·exact (hK _ _ _ _ y2).1.cI (hw _ y1) xF j7
    ·exact (cS _ _ _ _ z1).cI (hw _ z2) xF j7
   ·rcases QJ _ _ _ _ h1 with ⟨e2,m2',x1⟩|⟨r1,x1,x2⟩<;>rcases QJ _ _ _ _ h2 with ⟨e3,m3',y1⟩|⟨r2,y1,y2⟩
    ·exact lX _ _ _ _ _ _ _ x1 y1
    ·exact absurd (bf.row hb x1) ((hK _ _ _ _ y2).2.2 _ _ ae)
    ·exact absurd (bf.row hb y1) ((hK _ _ _ _ x2).2.2 _ _ ae)
    ·rw[x1,y1,tW _ _ _ _ _ _ _ x2 y2]
  ·rw[cz _ _ hi] at h;exact (S.h.rel ar cA h).mono hle fun b' ho=>⟨same hi h ho,fun _ h=>h⟩
 ·rcases hold h1 o1 with ⟨c1,x1,y1⟩|⟨rfl,x1,y1⟩<;>rcases hold h2 o2 with ⟨c2,x2,y2⟩|⟨rfl,x2,y2⟩
  ·exact S.h.inj i1 i2 c1 c2 b' x1 x2 y1 y2
  ·exact absurd y1 (y2 _ _ x1)
  ·exact absurd y2 (y1 _ _ x2)
  ·rfl
 ·rcases hold h ho with ⟨c1,x1,y1⟩|⟨rfl,x1,y1⟩
  ·exact S.h.own ar c1 b' x1 y1
  ·exact x1
 ·rw[hw b' fun e=> ?_]
  ·exact S.cI b' h1 h2
  ·subst e;rcases S.h.own id _ b' ae Yr with h|h
   ·exact h2 h
   ·omega
theorem ajy {i i' n c c' k:Nat} (hc':c'<n) (qx:c+k≤n) (h1:i*n+c≤i'*n+c') (h2:i'*n+c'<i*n+c+k):i'=i∧c≤c'∧c'<c+k:=by
 have:i'=i:=by
  rcases Nat.lt_trichotomy i' i with h|h|h
  ·have:=fa n (Nat.succ_le_of_lt h);rw[D6] at this;omega
  ·exact h
  ·have:=fa n (Nat.succ_le_of_lt h);rw[D6] at this;omega
 subst this;omega
theorem ajz {b1 i c:Nat} {e1 T:TypeId} {l cs:List V} {x0:V} {Ca:Array Value} {vs:List Value} (hR:iJ P w I b1 e1 l) (hh:w.heap[b1]? =some (.cells Ca T (0,0))) (hs:l.length*P.cellsOf e1≤Ca.size)
  (hx:l[i]? =some x0) (hk:cs.length=vs.length) (qx:c+cs.length≤P.cellsOf e1):
  ∀{i' c':Nat} {x':V} {t':TypeId},(l.set i (dz P e1 (jr (parts P e1 x0) c cs)))[i']? =some x'→(aT P e1)[c']? =some t'→
   ∃x1,l[i']? =some x1∧((∃j y u,i'=i∧c'=c+j∧cs[j]? =some y∧vs[j]? =some u∧ca P e1 x' c'=y∧(Ca.toList.take (i*P.cellsOf e1+c)++(vs++Ca.toList.drop (i*P.cellsOf e1+c+vs.length))).toArray[i'*P.cellsOf e1+c']? =some u)∨
    (ca P e1 x' c'=ca P e1 x1 c'∧(Ca.toList.take (i*P.cellsOf e1+c)++(vs++Ca.toList.drop (i*P.cellsOf e1+c+vs.length))).toArray[i'*P.cellsOf e1+c']? =Ca[i'*P.cellsOf e1+c']?)):=by
 intro i' c' x' t' dd gx;have pB:i<l.length:=(cw.1 hx).1;have KW:c'<P.cellsOf e1:=by rw[←fB hR.ok];exact (cw.1 gx).1
 have eB:(parts P e1 x0).length=P.cellsOf e1:=by rw[BV];exact fB hR.ok
 have hbound:i*P.cellsOf e1+c+vs.length≤Ca.toList.length:=by
  have:(i+1)*P.cellsOf e1≤l.length*P.cellsOf e1:=fa _ pB;rw[kZ] at this;simp only[Array.length_toList];omega
 simp only[o6];rw[rE _ _ _ _ hbound];by_cases mJ:i'=i∧c≤c'∧c'<c+cs.length
 ·obtain ⟨rfl,h1,h2⟩:=mJ;rw[o7 pB] at dd;cases dd;refine ⟨x0,hx,.inl ?_⟩;rw[dh,da,show i'*P.cellsOf e1+c'-(i'*P.cellsOf e1+c)=c'-c by omega];have hy:cs[c'-c]? =some cs[c'-c]:=bU (by omega);have hu:vs[c'-c]? =some vs[c'-c]:=bU (by omega);refine ⟨c'-c,_,_,rfl,by omega,hy,hu,?_,hu⟩;refine vw ?_ gx;unfold jr;rw[rE _ _ _ _ (by omega),dh,da];exact hy
 ·have jT: ¬(i*P.cellsOf e1+c≤i'*P.cellsOf e1+c'∧i'*P.cellsOf e1+c'<i*P.cellsOf e1+c+vs.length):=fun h=>mJ (ajy KW qx h.1 (by omega));have hg:(if i'*P.cellsOf e1+c'<i*P.cellsOf e1+c then Ca.toList[i'*P.cellsOf e1+c']? else if i'*P.cellsOf e1+c'<i*P.cellsOf e1+c+vs.length then vs[i'*P.cellsOf e1+c'-(i*P.cellsOf e1+c)]? else Ca.toList[i'*P.cellsOf e1+c']?)=Ca[i'*P.cellsOf e1+c']? :=by
   by_cases h1:i'*P.cellsOf e1+c'<i*P.cellsOf e1+c
   ·rw[aB h1];simp
   ·rw[aC h1,dh];simp
  by_cases hi:i'=i
  ·subst hi;rw[o7 pB] at dd;cases dd;refine ⟨x0,hx,.inr ⟨?_,hg⟩⟩;have h1:(jr (parts P e1 x0) c cs)[c']? =some (gX P t' (ca P e1 x0 c')):=by
    unfold jr;rw[rE _ _ _ _ (by omega)];by_cases h1:c'<c
    ·rw[aB h1];exact rC gx
    ·rw[aC h1,dh];exact rC gx
   rw[vw h1 gx];obtain ⟨yP,_,_,_,_,vG⟩:=hR.cells;obtain ⟨v,_,ho⟩:=vG i' c' x0 t' hx gx KW;exact ho.xp
  ·rw[uW (fun h=>hi h.symm)] at dd;exact ⟨x',dd,.inr ⟨rfl,hg⟩⟩
theorem ajA {w:World} {b1:Nat} {Ca Cb:Array Value} {T:TypeId} (hh:w.heap[b1]? =some (.cells Ca T (0,0))) (hs:Cb.size=Ca.size) (k:Nat):bsize (w.setRow b1 Cb) k=bsize w k:=by
 by_cases hk:k=b1
 ·subst hk;rw[lr (setRow_heap w k Ca Cb T (0,0) hh),lr hh,hs]
 ·simp only[bsize,setRow_other w b1 k Cb hk]
theorem KX (S:az P w I β hp B M w0) {t:TypeId} {v:Value} {id b b1 i c:Nat} {e0 e1:TypeId} {es l cs:List V} {vers vers':List Nat} {path:Path} {x0:V} (K:Path→Nat→TypeId→List V→Prop)
  (ae:hp id=some (.nest e0 es vers)) (hb:β id=some b) (ha:At P w b e0 es path b1 e1 l) (ht:pe P t=true) (hn:P.cellsOf t=v.cells.size)
  (hx:l[i]? =some x0) (hk:cs.length=v.cells.size) (qx:c+cs.length≤P.cellsOf e1) (h1: ∀u∈v.cells.toList,u.oneCell'=true)
  (dG: ∀(j:Nat) y u t',cs[j]? =some y→v.cells.toList[j]? =some u→(aT P e1)[c+j]? =some t'→py P w I t' u y)
  (ajB: ∀(j:Nat) y u t' e3 jg b3 len cap,cs[j]? =some y→v.cells.toList[j]? =some u→(aT P e1)[c+j]? =some t'→P.underlying t'=some (.slice e3)→y= .list e3 jg→0<cap→
   u= .slice (some ⟨b3,0,none⟩) len cap→j=0∧∀r b' e' m,At P w b3 e3 jg r b' e' m→b'≠b1∧K r b' e' m)
  (hK: ∀r b' e' m,K r b' e' m→iJ P w I b' e' m∧(M b'∨B≤b')∧(∀aH cA,hp aH=some cA→¬bf P w (β aH) cA b'))
  (tW: ∀r1 r2 b' e1 m1 e2 m2,K r1 b' e1 m1→K r2 b' e2 m2→r1=r2)
  (sy:vers'.length=vers.length) (EK: ∀k,bA vers k≤bA vers' k)
  (iZ:(∀(j:Nat) t',j<cs.length→(aT P e1)[c+j]? =some t'→dU P t'=true)∨∀k,path.length≤k→k<vers.length→bA vers' k≠bA vers k):
  ∃w',(Instr.storeAt t (.pointer (some ⟨b1,i*P.cellsOf e1+c,none⟩)) v).run P w= .ok () w'∧
   Le P w I β hp w' I β (ao hp id (some (.nest e0 (setRow P (l.set i (dz P e1 (jr (parts P e1 x0) c cs))) e0 es path) vers')))∧
   az P w' I β (ao hp id (some (.nest e0 (setRow P (l.set i (dz P e1 (jr (parts P e1 x0) c cs))) e0 es path) vers'))) B M w0:=by
 have hR:=S.rows ae hb ha;obtain ⟨Ca,T,hh,hL,hs,vG⟩:=hR.cells;have pB:i<l.length:=(cw.1 hx).1;have eo:cs.length=v.cells.toList.length:=by simpa using hk
 have P7:i*P.cellsOf e1+c+v.cells.size≤Ca.size:=by
  have:(i+1)*P.cellsOf e1≤l.length*P.cellsOf e1:=fa _ pB;rw[kZ] at this;omega
 have cK:=Ki (t:=t) (o:=i*P.cellsOf e1+c) (v:=v) ht hn hh P7 h1;have hlen:(Ca.toList.take (i*P.cellsOf e1+c)++(v.cells.toList++Ca.toList.drop (i*P.cellsOf e1+c+v.cells.toList.length))).length=Ca.size:=by
  rw[EX _ _ _ (by simpa using P7)];simp
 have cn:= @ajz P w I b1 i c e1 T l cs x0 Ca v.cells.toList hR hh hs hx eo qx;have dj:=hR.nI;have hr:=S.h.rel id _ ae;rw[hb] at hr;cases hr with
 | iY av=>cases av
 | nest av cS lX=>
 cases av;have nz: ∀q e' m,At P w b1 e1 l q b1 e' m→q=[]:=by
  intro q e' m h;have:=lX _ _ _ _ _ _ _ (ha.app h) ha;simpa using this
 have vH:=setRow_heap w b1 Ca (Ca.toList.take (i*P.cellsOf e1+c)++(v.cells.toList++Ca.toList.drop (i*P.cellsOf e1+c+v.cells.toList.length))).toArray T (0,0) hh;have j7:=ajA hh (Cb:=(Ca.toList.take (i*P.cellsOf e1+c)++(v.cells.toList++Ca.toList.drop (i*P.cellsOf e1+c+v.cells.toList.length))).toArray) (by simpa using hlen);have tX:=fun k (hk:k≠b1)=>setRow_other w b1 k (Ca.toList.take (i*P.cellsOf e1+c)++(v.cells.toList++Ca.toList.drop (i*P.cellsOf e1+c+v.cells.toList.length))).toArray hk;generalize KY:(Ca.toList.take (i*P.cellsOf e1+c)++(v.cells.toList++Ca.toList.drop (i*P.cellsOf e1+c+v.cells.toList.length))).toArray=Cb at*
 generalize hL':l.set i (dz P e1 (jr (parts P e1 x0) c cs))=l' at*
 have og:l'.length=l.length:=by rw[←hL'];simp
 have xF: ∀k j,I k j→(w.setRow b1 Cb).cell? ⟨k,j,none⟩=w.cell? ⟨k,j,none⟩:=fun k j hk=>World.cell?_of_block (tX k (fun e=>dj j (e▸hk)));refine ⟨_,cK,ajw S (i:=i) (c:=c) K ae hb ha og tX j7 (by simp) ⟨rfl,rfl⟩ ?_ ?_ hK tW sy EK ?_⟩
 ·refine ⟨hR.ok,⟨Cb,T,vH,(show Cb.size=Ca.size by rw[←KY];simpa using hlen)▸hL,by rw[og,←KY];simp only[sg];omega,fun i' j x' t' k1 k2 k3=> ?_⟩,dj⟩;obtain ⟨x1,y1,y2⟩:=cn k1 k2;rcases y2 with ⟨jj,y,u,rfl,rfl,z1,z2,z3,z4⟩|⟨z3,z4⟩
  ·exact ⟨u,z4,by rw[z3];exact (dG jj y u t' z1 z2 k2).mono (fun _ _ h=>h) xF fun _ _ _ _ _=>j7 _⟩
  ·obtain ⟨v1,m1,m2⟩:=vG i' j x1 t' y1 k2 k3;exact ⟨v1,z4.trans m1,by rw[z3];exact m2.mono (fun _ _ h=>h) xF fun _ _ _ _ _=>j7 _⟩
 ·intro a r b' e' m h;obtain ⟨i',c'⟩:=a;cases h with
  | step k1 k2 k3 k4 k5 k6 k7 k8=>
   rw[vH] at k1;cases k1;obtain ⟨x1,y1,y2⟩:=cn k2 k3;rcases y2 with ⟨jj,y,u,rfl,rfl,z1,z2,z3,z4⟩|⟨z3,z4⟩
   ·rw[k7] at z4;obtain ⟨g1,g2⟩:=ajB jj y u _ _ _ _ _ _ z1 z2 k3 k4 (z3.symm.trans k5) k6 (dL z4).symm;subst g1;have lD:=k8.xi (w:=w) fun q2 b5 e5 j8 hq=>tX b5 (g2 _ _ _ _ hq).1;exact ⟨(g2 _ _ _ _ lD).1,.inr ⟨rfl,(g2 _ _ _ _ lD).2⟩⟩
   ·rw[k5] at z3;rw[k7] at z4;have bN: ∀q2 b5 e5 j8,At P w _ _ _ q2 b5 e5 j8→b5≠b1:=fun q2 b5 e5 j8 hq zj=>by
     subst zj;have:=nz _ _ _ (.step hh y1 k3 k4 z3.symm k6 z4.symm hq);cases this
    have lD:=k8.xi (w:=w) fun q2 b5 e5 j8 hq=>tX b5 (bN q2 b5 e5 j8 hq);exact ⟨bN _ _ _ _ lD,.inl (.step hh y1 k3 k4 z3.symm k6 z4.symm lD)⟩
 ·intro r i' c' t' v' ea l0 aZ QL pH hc;rcases iZ with iZ|iZ
  ·
   have fe: ∀{i' c' x1 t' e3},l[i']? =some x1→(aT P e1)[c']? =some t'→P.underlying t'=some (.slice e3)→∃x',l'[i']? =some x'∧ca P e1 x' c'=ca P e1 x1 c'∧Cb[i'*P.cellsOf e1+c']? =Ca[i'*P.cellsOf e1+c']? :=by
    intro i' c' x1 t' e3 g1 g2 g3;have aZ:i'<l'.length:=by rw[og];exact (cw.1 g1).1
    have dd:=bU aZ;obtain ⟨x2,y1,y2⟩:=cn dd g2;rw[g1] at y1;cases y1;rcases y2 with ⟨jj,y,u,rfl,rfl,z1,z2,z3,z4⟩|⟨z3,z4⟩
    ·have:=iZ jj t' (cw.1 z1).1 g2;unfold dU at this;rw[g3] at this;cases this
    ·exact ⟨_,dd,z3,z4⟩
   obtain ⟨b',e',m,C5,T,f,x,k1,k2,k3,k4,k5,k6⟩:=hc;refine ⟨l0,rfl,?_⟩;cases k1 with
   | here=>
    rw[hh] at k2;cases k2;obtain ⟨x',g1,g2,g3⟩:=fe k3 k4 pH;exact ⟨_,_,l',Cb,_,_,x',.here,vH,g1,k4,g2.trans k5,g3.trans k6⟩
   | step q1 q2 q3 q4 q5 q6 q7 q8=>
    have q1':=q1;rw[hh] at q1;cases q1;obtain ⟨x',g1,g2,g3⟩:=fe q2 q3 q4;have bN: ∀q2 b5 e5 j8,At P w _ _ _ q2 b5 e5 j8→b5≠b1:=fun q9 b5 e5 j8 hq zj=>by
     subst zj;have:=nz _ _ _ (.step hh q2 q3 q4 q5 q6 q7 hq);cases this
    have lD:=q8.mono (w':=w.setRow b1 Cb) fun q2 b5 e5 j8 hq=>tX b5 (bN q2 b5 e5 j8 hq);exact ⟨b',e',m,C5,T,f,x,.step vH g1 q3 q4 (g2.trans q5) q6 (g3.trans q7) lD,(tX _ (bN _ _ _ _ q8)).trans k2,k3,k4,k5,k6⟩
  ·exact absurd QL (iZ _ (by simp) aZ)
theorem FA: ∀(vs:List Nat) (d k:Nat),d≤k→k<vs.length→bA (raise d vs) k=bA vs k+1
 | [],d,k,_,h=>by simp at h
 | v::vs,0,0,_,_=>by simp[raise,bA]
 | v::vs,0,k+1,_,h=>by
  have:=FA vs 0 k (nf _) (by simpa using h);simpa[raise,bA] using this
 | v::vs,d+1,0,h,_=>by omega
 | v::vs,d+1,k+1,h,h2=>by
  have:=FA vs d k (by omega) (by simpa using h2);simpa[raise,bA] using this
theorem KZ: ∀(vs:List Nat) (d:Nat),(raise d vs).length=vs.length
 | [],0=>rfl
 | [],d+1=>rfl
 | v::vs,0=>by simp[raise]
 | v::vs,d+1=>by simp[raise,KZ vs d]
theorem FB: ∀(vs:List Nat) (d k:Nat),bA vs k≤bA (raise d vs) k
 | [],0,k=>by simp[raise,bA]
 | [],d+1,k=>by simp[raise,bA]
 | v::vs,0,0=>by simp[raise,bA]
 | v::vs,0,k+1=>by
  have:=FB vs 0 k;simpa[raise,bA] using this
 | v::vs,d+1,0=>by simp[raise,bA]
 | v::vs,d+1,k+1=>by
  have:=FB vs d k;simpa[raise,bA] using this
theorem ajC {t:TypeId} {v:Value} {x:V} (hv:aj P w I β hp v x) (h:fN P t x=true) (hs:dU P t=true):Pure P w I t v x:=by
 unfold dU at hs;unfold fN at h;cases hu:P.underlying t with
 | none=>rw[hu] at hs;cases hs
 | some d=>
  rw[hu] at hs h;cases d<;>simp only at hs<;>first|(cases hs;done)|skip
  all_goals cases x<;>simp only at h<;>first|(cases h;done)|skip
  ·rw[hv.nn];exact .bool hu
  ·simp only[jL] at h;subst h;rw[hv.fQ];exact .int hu
  ·obtain ⟨s,rfl,hl⟩:=hv.oJ;exact .str hu hl
def QM (P:Program) (w:World) (I:Nat→Nat→Prop) (o:Option Nat) (blk:ah) (b2:Nat) (e2:TypeId) (bV:List V):Prop:=
 (∀r b' e' m,At P w b2 e2 bV r b' e' m→iJ P w I b' e' m∧bf P w o blk b')∧∀r1 r2 b' e1 m1 K0 m2,At P w b2 e2 bV r1 b' e1 m1→At P w b2 e2 bV r2 b' K0 m2→r1=r2
theorem QN (S:az P w I β hp B M w0) {aH b2:Nat} {e2:TypeId} {bV:List V} (ae:hp aH=some (.arr e2 bV false)) (hb:β aH=some b2) (hs:(flat P e2).all (dU P)=true):
  QM P w I (β aH) (.arr e2 bV false) b2 e2 bV:=by
 have only: ∀r b' e' m,At P w b2 e2 bV r b' e' m→r=[]:=by
  intro r b' e' m h;cases h with
  | here=>rfl
  | step h1 h2 h3 h4 h5 h6 h7 h8=>
   rw[sB] at h3;have:=gU.1 hs _ (my h3);unfold dU at this;rw[h4] at this;cases this
 refine ⟨fun r b' e' m h=> ?_,fun r1 r2 b' e1 m1 K0 m2 h1 h2=>by rw[only _ _ _ _ h1,only _ _ _ _ h2]⟩;have:=only _ _ _ _ h;subst this;cases h;have hr:=S.h.rel aH _ ae;cases hr with
 | ey av=>rw[hb] at av;cases av
 | arr hL aq av hh bc hf fH hx=>
  rw[hb] at av;cases av;refine ⟨⟨aq,⟨_,_,hh,hL,bc,fun i j x t' k1 k2 k3=> ?_⟩,fH rfl⟩,.root (by simp) hb⟩;obtain ⟨v,m1,m2⟩:=hx i j x t' k1 k2 k3;refine ⟨v,m1,.gu ?_ m2⟩;rw[sB] at k2;exact gU.1 hs _ (my k2)
theorem ajD (S:az P w I β hp B M w0) {aH b2:Nat} {e2:TypeId} {bV:List V} {sw:List Nat} (ae:hp aH=some (.nest e2 bV sw)) (hb:β aH=some b2):
  QM P w I (β aH) (.nest e2 bV sw) b2 e2 bV:=by
 have hr:=S.h.rel aH _ ae;cases hr with
 | iY av=>rw[hb] at av;cases av
 | nest av cS lX=>
  rw[hb] at av;cases av;exact ⟨fun r b' e' m h=>⟨cS _ _ _ _ h,.row hb h⟩,fun r1 r2 b' e1 m1 K0 m2 h1 h2=>lX _ _ _ _ _ _ _ h1 h2⟩
theorem Ys {c:Nat} {e1 e2 t':TypeId} (h:(((flat P e1).drop c).take 1).all (fun u=>match P.underlying u with|some (.slice e3)=>Nat.beq e2 e3|_=>false)=true) (ht:(aT P e1)[c]? =some t'):
  P.underlying t'=some (.slice e2):=by
 rw[sB] at ht;have hm:t'∈((flat P e1).drop c).take 1:=by
  refine my (i:=0) ?_;rw[jo (by omega),rj];simpa using ht
 have:=gU.1 h _ hm;split at this
 ·rename_i e3 hu;rw[aL] at this;rw[hu,this]
 ·cases this
theorem Yt (S:az P w I β hp B M w0) {t:TypeId} {v:Value} {id aH b b1 i c:Nat} {e0 e1 e2:TypeId} {es l bV:List V} {vers:List Nat} {path:Path} {x0:V} {cA:ah}
  (ae:hp id=some (.nest e0 es vers)) (hb:β id=some b) (ha:At P w b e0 es path b1 e1 l) (ht:pe P t=true) (hn:P.cellsOf t=1)
  (hx:l[i]? =some x0) (qx:c+1≤P.cellsOf e1) (FC:(((flat P e1).drop c).take 1).all (fun u=>match P.underlying u with|some (.slice e3)=>Nat.beq e2 e3|_=>false)=true)
  (dn:hp aH=some cA) (bN:id≠aH)
  (hv:((∃a,v= .slice a 0 0)∧bV=[])∨∃b2 cap,v= .slice (some ⟨b2,0,none⟩) bV.length cap∧cap*P.cellsOf e2=bsize w b2∧bV.length≤cap∧cap≤maxLen∧QM P w I (β aH) cA b2 e2 bV):
  rF P ((Instr.storeAt t (.pointer (some ⟨b1,i*P.cellsOf e1+c,none⟩)) v).run P w) w I β hp B M w0
   ⟨.undef,[(id,.nest e0 (setRow P (l.set i (dz P e1 (jr (parts P e1 x0) c [.list e2 bV]))) e0 es path) (raise path.length vers)),(aH,.dead)]⟩:=by
 obtain ⟨rI,S1⟩:=xn S dn;have qy:ao hp aH (some .dead) id=some (.nest e0 es vers):=by rw[cz _ _ bN];exact ae
 have vG:v.cells= #[v]:=by rcases hv with ⟨⟨_,rfl⟩,_⟩|⟨b2,cap,rfl,_⟩<;>rfl
 have qz:v.oneCell'=true:=by rcases hv with ⟨⟨_,rfl⟩,_⟩|⟨b2,cap,rfl,_⟩<;>rfl
 have free: ∀b',bf P w (β aH) cA b'→(M b'∨B≤b')∧∀dO ku,ao hp aH (some .dead) dO=some ku→¬bf P w (β dO) ku b':=by
  intro b' ho;refine ⟨S.h.own aH cA b' dn ho,fun dO ku h3 Yu=> ?_⟩;by_cases hi:dO=aH
  ·subst hi;rw[bH] at h3;cases h3;exact Yu.alive rfl
  ·rw[cz _ _ hi] at h3;exact hi (S.h.inj _ _ _ _ b' h3 dn Yu ho)
 have rJ: ∀b',bf P w (β aH) cA b'→b'≠b1:=by
  intro b' ho e;subst e;exact bN (S.h.inj _ _ _ _ b' ae dn (.row hb ha) ho)
 have dG: ∀(j:Nat) y u t',[V.list e2 bV][j]? =some y→v.cells.toList[j]? =some u→(aT P e1)[c+j]? =some t'→j=0∧y= .list e2 bV∧u=v∧P.underlying t'=some (.slice e2):=by
  intro j y u t' k1 k2 k3;cases j with
  | succ j=>simp at k1
  | zero=>
   rw[vG] at k2;simp at k1 k2;exact ⟨rfl,k1.symm,k2.symm,Ys FC k3⟩
 rcases hv with ⟨⟨a0,rfl⟩,rfl⟩|⟨b2,cap,rfl,v1,v2,v3,v4⟩
 ·obtain ⟨w',r1,r2,r3⟩:=KX S1 (vers':=raise path.length vers) (fun _ _ _ _=>False) qy hb ha ht (v:= .slice a0 0 0) hn hx (cs:=[.list e2 []]) rfl qx (by rw[vG];simp[qz])
   (fun j y u t' k1 k2 k3=>by obtain ⟨rfl,rfl,rfl,k4⟩:=dG j y u t' k1 k2 k3;exact .emp k4)
   (fun j y u t' e3 jg b3 len cap k1 k2 k3 k4 k5 k6=>by obtain ⟨rfl,rfl,rfl,k7⟩:=dG j y u t' k1 k2 k3;intro k8;cases k8;exact absurd k6 (nY _))
   (fun _ _ _ _ h=>h.elim) (fun _ _ _ _ _ _ _ h=>h.elim) (KZ _ _) (FB _ _) (.inr fun k h1 h2=>by rw[FA _ _ _ h1 h2];omega)
  exact ⟨w',I,β,r1,rI.trans r2,r3,rfl⟩
 ·obtain ⟨w',r1,r2,r3⟩:=KX S1 (vers':=raise path.length vers) (fun r b' e' m=>At P w b2 e2 bV r b' e' m) qy hb ha ht (v:= .slice (some ⟨b2,0,none⟩) bV.length cap) hn hx (cs:=[.list e2 bV]) rfl qx (by rw[vG];simp[qz])
   (fun j y u t' k1 k2 k3=>by
    obtain ⟨rfl,rfl,rfl,k4⟩:=dG j y u t' k1 k2 k3;rcases Ea cap with h0|h0
    ·subst h0;obtain rfl:=wP.1 (wU.1 v2);exact .emp k4
    ·exact .row k4 h0 v1 v2 v3)
   (fun j y u t' e3 jg b3 len cap k1 k2 k3 k4 k5 k6 k8=>by
    obtain ⟨rfl,rfl,rfl,k7⟩:=dG j y u t' k1 k2 k3;cases k5;cases k8;exact ⟨rfl,fun r b' e' m h=>⟨rJ _ (v4.1 _ _ _ _ h).2,h⟩⟩)
   (fun r b' e' m h=>⟨(v4.1 _ _ _ _ h).1,free _ (v4.1 _ _ _ _ h).2⟩) (fun r1 r2 b' e1 m1 K0 m2 h1 h2=>v4.2 _ _ _ _ _ _ _ h1 h2) (KZ _ _) (FB _ _) (.inr fun k h1 h2=>by rw[FA _ _ _ h1 h2];omega)
  exact ⟨w',I,β,r1,rI.trans r2,r3,rfl⟩
theorem Yv (S:az P w I β hp B M w0) {t:TypeId} {v:Value} {x:V} {r:R} {rd:List Nat} {id b b1 i c:Nat} {e0 e1:TypeId} {es l:List V} {vers:List Nat} {path:Path}
  (ht:pe P t=true) (hn:x.cells.length=P.cellsOf t) (hv:aj P w I β hp v x) (ae:hp id=some (.nest e0 es vers)) (hb:β id=some b) (ha:At P w b e0 es path b1 e1 l)
  (h:(JJ P t id e0 es vers path i c x).run C hp=some (r,rd)):rF P ((Instr.storeAt t (.pointer (some ⟨b1,i*P.cellsOf e1+c,none⟩)) v).run P w) w I β hp B M w0 r:=by
 unfold JJ at h;obtain ⟨aZ,h⟩:=aD h;rw[mY] at aZ;obtain ⟨e',vv,q1,q2,h⟩:=BL h;obtain ⟨p1,p2⟩:=PS ha;rw[p1] at q1;cases q1;rw[p2] at q2;cases q2;simp only[V.toList] at h;obtain ⟨aq,h⟩:=aD h;obtain ⟨x0,vI,h⟩:=od h;obtain ⟨qx,h⟩:=aD h;rw[gp] at qx;have slice: ∀e2,P.underlying t=some (.slice e2)→
   ((((Rd.ay ((((flat P e1).drop c).take x.cells.length).all fun u=>match P.underlying u with|some (.slice e3)=>Nat.beq e2 e3|_=>false) (
     match (generalizing:=false) x with
     | .nilS e3=> .ay (Nat.beq e2 e3) (.ret ⟨.undef,[(id,.nest e0 (setRow P (l.set i (dz P e1 (jr (parts P e1 x0) c [.list e2 []]))) e0 es path) (raise path.length vers))]⟩)
     | .whole e3 aH=> .get aH fun
      | some (.arr e4 bV false)=> .ay (Nat.beq e2 e3&&(Nat.beq e3 e4&&(!(Nat.beq id aH)&&(flat P e2).all (dU P))))
        (.ret ⟨.undef,[(id,.nest e0 (setRow P (l.set i (dz P e1 (jr (parts P e1 x0) c [.list e2 bV]))) e0 es path) (raise path.length vers)),(aH,.dead)]⟩)
      | some (.nest e4 bV _)=> .ay (Nat.beq e2 e3&&(Nat.beq e3 e4&& !(Nat.beq id aH)))
        (.ret ⟨.undef,[(id,.nest e0 (setRow P (l.set i (dz P e1 (jr (parts P e1 x0) c [.list e2 bV]))) e0 es path) (raise path.length vers)),(aH,.dead)]⟩)
      | _=> .fail
     | _=> .fail)):Rd R).run C hp))=some (r,rd)→
   rF P ((Instr.storeAt t (.pointer (some ⟨b1,i*P.cellsOf e1+c,none⟩)) v).run P w) w I β hp B M w0 r:=by
  intro e2 hu h;obtain ⟨FC,h⟩:=aD h;cases x with
  | nilS e3=>
   obtain ⟨hc,h⟩:=aD h;obtain rfl:=aN h;rw[aL] at hc;subst hc;cases hv with
   | nilS=>
    obtain ⟨w',r1,r2,r3⟩:=KX S (v:= .slice none 0 0) (vers':=raise path.length vers) (fun _ _ _ _=>False) ae hb ha ht hn.symm vI (cs:=[.list e2 []]) rfl qx (by simp[Value.cells,Value.oneCell'])
     (fun j y u t' k1 k2 k3=>by
      cases j with
      | succ j=>simp at k1
      | zero=>
       simp[Value.cells] at k1 k2;subst k1;subst k2;exact .emp (Ys FC k3))
     (fun j y u t' e3 jg b3 len cap k1 k2 k3 k4 k5 k6=>by
      cases j with
      | succ j=>simp at k1
      | zero=>simp[Value.cells] at k2;subst k2;intro k8;cases k8)
     (fun _ _ _ _ h=>h.elim) (fun _ _ _ _ _ _ _ h=>h.elim) (KZ _ _) (FB _ _) (.inr fun k h1 h2=>by rw[FA _ _ _ h1 h2];omega)
    exact ⟨w',I,β,r1,r2,r3,rfl⟩
  | whole e3 aH=>
   obtain ⟨l1,h⟩:=run_get h;cases dn:hp aH with
   | none=>rw[dn] at h;cases h
   | some cA=>
    rw[dn] at h;cases cA with
    | dead=>cases h
    | var _=>cases h
    | map _ _=>cases h
    | out _ _ _ _=>cases h
    | arr e4 bV fz=>
     cases fz with
     | true=>cases h
     | false=>
      obtain ⟨hc,h⟩:=aD h;obtain rfl:=aN h;simp only[aJ,aL,mZ] at hc;obtain ⟨rfl,rfl,bN,iZ⟩:=hc;have QO:id≠aH:=fun e=>by rw[e,nZ] at bN;cases bN
      refine Yt S ae hb ha ht hn.symm vI qx FC dn QO ?_;cases hv with
      | dW bW=>rw[dn] at bW;cases bW
      | dS bW ff=>rw[dn] at bW;cases bW;exact .inl ⟨⟨_,rfl⟩,rfl⟩
      | whole bW ff bS hle sC=>
       rw[dn] at bW;cases bW;exact .inr ⟨_,_,rfl,bS,hle,sC,QN S dn ff iZ⟩
      | eb bW=>rw[dn] at bW;cases bW
      | fA bW=>rw[dn] at bW;cases bW
      | dM bW=>rw[dn] at bW;cases bW
    | nest e4 bV sw=>
     obtain ⟨hc,h⟩:=aD h;obtain rfl:=aN h;simp only[aJ,aL,mZ] at hc;obtain ⟨rfl,rfl,bN⟩:=hc;have QO:id≠aH:=fun e=>by rw[e,nZ] at bN;cases bN
     refine Yt S ae hb ha ht hn.symm vI qx FC dn QO ?_;cases hv with
     | dW bW=>rw[dn] at bW;cases bW
     | dS bW ff=>rw[dn] at bW;cases bW
     | whole bW=>rw[dn] at bW;cases bW
     | eb bW ff=>rw[dn] at bW;cases bW;exact .inl ⟨⟨_,rfl⟩,rfl⟩
     | fA bW=>rw[dn] at bW;cases bW
     | dM bW ff bS hle sC=>
      rw[dn] at bW;cases bW;exact .inr ⟨_,_,rfl,bS,hle,sC,ajD S dn ff⟩
  | _=>cases h
 have gu:(((Rd.ay ((((flat P e1).drop c).take x.cells.length).all (dU P)&&u5 P (((flat P e1).drop c).take x.cells.length) x.cells)
   (.ret ⟨.undef,[(id,.nest e0 (setRow P (l.set i (dz P e1 (jr (parts P e1 x0) c x.cells))) e0 es path) vers)]⟩)):Rd R).run C hp)=some (r,rd)→
   rF P ((Instr.storeAt t (.pointer (some ⟨b1,i*P.cellsOf e1+c,none⟩)) v).run P w) w I β hp B M w0 r:=by
  intro h;obtain ⟨hc,h⟩:=aD h;obtain rfl:=aN h;simp only[aJ] at hc;obtain ⟨hs,eX⟩:=hc;obtain ⟨tl,tg⟩:=yV eX;have QP: ∀(j:Nat) t',j<x.cells.length→(aT P e1)[c+j]? =some t'→(((flat P e1).drop c).take x.cells.length)[j]? =some t':=by
   intro j t' hj gx;rw[jo hj,rj];rw[sB] at gx;exact gx
  have sat: ∀(j:Nat) t',j<x.cells.length→(aT P e1)[c+j]? =some t'→dU P t'=true:=fun j t' hj gx=>
   gU.1 hs _ (my (QP j t' hj gx))
  have rK:v.cells.size=x.cells.length∧∀(j:Nat) u y,v.cells.toList[j]? =some u→x.cells[j]? =some y→aj P w I β hp u y:=by
   have base:(∀xs,x≠ .agg xs)→x.cells=[x]→v.cells.size=x.cells.length∧∀(j:Nat) u y,v.cells.toList[j]? =some u→x.cells[j]? =some y→aj P w I β hp u y:=by
    intro _ tS;rw[tS] at tl tg QP⊢;have h0:0<(((flat P e1).drop c).take [x].length).length:=by rw[tl];exact Nat.one_pos
    have eX:=tg 0 _ x (bU h0) rfl;obtain ⟨o1,o2⟩:=XF hv eX;rw[o2];refine ⟨rfl,fun j u y hu hy=> ?_⟩;cases j with
    | zero=>simp at hu hy;subst hu;subst hy;exact hv
    | succ j=>simp at hy
   cases x with
   | agg xs=>
    obtain ⟨cs,rfl,h1,h2⟩:=hv.np;exact ⟨h1,fun j u y a b=>h2 j u y (by simpa[Value.cells] using a) b⟩
   | _=>exact base (by simp) rfl
  have pure: ∀(j:Nat) u y t',v.cells.toList[j]? =some u→x.cells[j]? =some y→(aT P e1)[c+j]? =some t'→Pure P w I t' u y:=by
   intro j u y t' hu hy gx;have hj:=(cw.1 hy).1;exact ajC (rK.2 j u y hu hy) (tg j t' y (QP j t' hj gx) hy) (sat j t' hj gx)
  obtain ⟨w',r1,r2,r3⟩:=KX S (v:=v) (vers':=vers) (fun _ _ _ _=>False) ae hb ha ht (by rw[rK.1];exact hn.symm) vI rK.1.symm qx (fun u hu=>by
    obtain ⟨j,hj⟩:=tC hu;have dm:j<x.cells.length:=by rw[←rK.1];simpa using (cw.1 hj).1
    have sP:c+j<(aT P e1).length:=by rw[fB aq];omega
    have one: ∀t' y,Pure P w I t' u y→u.oneCell'=true:=by intro t' y h;cases h<;>rfl
    exact one _ _ (pure j u _ _ hj (bU dm) (bU sP)))
   (fun j y u t' k1 k2 k3=> .gu (sat j t' (cw.1 k1).1 k3) (pure j u y t' k2 k1 k3))
   (fun j y u t' e3 jg b3 len cap k1 k2 k3 k4 k5 k6=>by
    have:=sat j t' (cw.1 k1).1 k3;unfold dU at this;rw[k4] at this;cases this)
   (fun _ _ _ _ h=>h.elim) (fun _ _ _ _ _ _ _ h=>h.elim) rfl (fun _=>aw _) (.inl fun j t' hj gx=>sat j t' hj gx)
  exact ⟨w',I,β,r1,r2,r3,rfl⟩
 cases hu:P.underlying t with
 | none=>rw[hu] at h;exact gu h
 | some d=>
  cases d with
  | slice e2=>rw[hu] at h;exact slice e2 hu h
  | _=>rw[hu] at h;exact gu h
end
section
variable {P:Program} {w w':World} {I I':Nat→Nat→Prop} {β β':Nat→Option Nat} {hp hp':Nat→Option ah} {C:af} {B:Nat} {M:Nat→Prop} {w0:Start}
theorem xG {e e1:TypeId} (h:rowOf P e=some e1):P.underlying e=some (.slice e1)∧bZ P e=false∧cZ P e=true∧cZ P e1=true∧(flat P e1).all (dU P)=true:=by
 unfold rowOf at h;split at h
 ·rename_i e2 hu;cases hc:(!(bZ P e)&&(cZ P e&&(cZ P e2&&(flat P e2).all (dU P)))) with
  | false=>rw[hc] at h;cases h
  | true=>
   rw[hc] at h;cases h;simp only[aJ,mZ] at hc;exact ⟨hu,hc.1,hc.2.1,hc.2.2.1,hc.2.2.2⟩
 ·cases h
theorem ajE {e1:TypeId} (gZ:(flat P e1).all (dU P)=true) {w:World} {b1 b':Nat} {e':TypeId} {l m:List V} {r:Path} (h:At P w b1 e1 l r b' e' m):r=[]∧b'=b1∧e'=e1∧m=l:=by
 cases h with
 | here=>exact ⟨rfl,rfl,rfl,rfl⟩
 | step h1 h2 h3 h4 h5 h6 h7 h8=>
  rw[sB] at h3;have:=gU.1 gZ _ (my h3);unfold dU at this;rw[h4] at this;cases this
def zk (P:Program) (w:World) (e1:TypeId) (K:Nat→List V→Prop) (v:Value) (l:List V):Prop:=
 (l=[]∧∃a,v= .slice a 0 0)∨
 (∃b1 cap,0<cap∧v= .slice (some ⟨b1,0,none⟩) l.length cap∧cap*P.cellsOf e1=bsize w b1∧l.length≤cap∧cap≤maxLen∧K b1 l)
theorem Yw {b:Nat} {e e1:TypeId} {ys:List V} {vers:List Nat} {C':Array Value} (hr:rowOf P e=some e1)
  {T:TypeId} (vH:w'.heap[b]? =some (.cells C' T (0,0))) (hlen:ys.length≤C'.size) (dj: ∀j,¬I b j) (K:Nat→Nat→List V→Prop)
  (gF: ∀(i:Nat) x,ys[i]? =some x→∃l v,x= .list e1 l∧C'[i]? =some v∧zk P w e1 (K i) v l)
  (hK: ∀i b1 l,K i b1 l→b1≠b∧w'.heap[b1]? =w.heap[b1]? ∧iJ P w I b1 e1 l)
  (tW: ∀i j b1 l m,K i b1 l→K j b1 m→i=j):
  (∀b',bf P w' (some b) (.nest e ys vers) b'→b'=b∨∃i l,K i b' l)∧
  ∀{cB gf},(∀b j,I b j→w'.cell? ⟨b,j,none⟩=w.cell? ⟨b,j,none⟩)→eW P w' I cB gf (some b) (.nest e ys vers):=by
 obtain ⟨hu,cH,aq,oP,gZ⟩:=xG hr;have hLs:su P T e C'.size:=fun ep=>by unfold isByte at ep;rw[hu] at ep;cases ep
 have kJ:aT P e=[e]:=by simp[aT,cH]
 have hk:P.cellsOf e=1:=by rw[←fB aq,kJ];rfl
 have zl: ∀x j,ca P e x j=x:=fun x j=>by simp[ca,cH]
 have FD: ∀q b2 e2 m,At P w' b e ys q b2 e2 m→(q=[]∧b2=b∧e2=e∧m=ys)∨∃i,q=[(i,0)]∧e2=e1∧K i b2 m:=by
  intro q b2 e2 m h;cases h with
  | here=>exact .inl ⟨rfl,rfl,rfl,rfl⟩
  | step h1 h2 h3 h4 h5 h6 h7 h8=>
   right;rw[vH] at h1;cases h1;rw[kJ] at h3;obtain ⟨hc,ht⟩:=cw.1 h3;simp only[List.length_singleton,Nat.lt_one_iff] at hc;subst hc;simp only[List.getElem_singleton] at ht;subst ht;rw[hu] at h4;cases h4;rw[zl] at h5;subst h5;rw[hk,im,Nat.add_zero] at h7;obtain ⟨l,v,hl,hv,hh⟩:=gF _ _ h2;cases hl;rw[hv] at h7;cases h7;rcases hh with ⟨rfl,a',he⟩|⟨b1',QG,_,he,_,_,_,sM⟩
   ·cases he;exact absurd h6 (nY _)
   ·cases he;obtain ⟨rfl,rfl,rfl,rfl⟩:=ajE gZ h8;exact ⟨_,rfl,rfl,sM⟩
 have j9: ∀i b1 l,K i b1 l→w'.heap[b1]? =w.heap[b1]? :=fun i b1 l h=>(hK i b1 l h).2.1;refine ⟨fun b' ho=> ?_,fun xE=> ?_⟩
 ·cases ho with
  | root _ h=>exact .inl (dL h).symm
  | row h ha=>
   cases h;rcases FD _ _ _ _ ha with ⟨_,h,_,_⟩|⟨i,_,_,sM⟩
   ·exact .inl h
   ·exact .inr ⟨_,_,sM⟩
 ·refine .nest rfl (fun q b2 e2 m h=> ?_) (fun q1 q2 b2 e2 m2 e3 m3 h1 h2=> ?_)
  ·rcases FD _ _ _ _ h with ⟨rfl,rfl,rfl,rfl⟩|⟨i,rfl,rfl,sM⟩
   ·refine ⟨aq,⟨C',_,vH,hLs,by rw[hk,im];exact hlen,fun i j x t' hx ht hj=> ?_⟩,dj⟩;rw[hk] at hj;have FE:j=0:=by omega
    subst FE;rw[kJ] at ht;simp only[List.getElem?_cons_zero,fb] at ht;subst ht;obtain ⟨l,v,rfl,hv,hh⟩:=gF _ _ hx;refine ⟨v,by rw[hk,im,Nat.add_zero];exact hv,?_⟩;rw[zl];rcases hh with ⟨rfl,a,rfl⟩|⟨b1,cap,h0,rfl,hs,hl,hm,sM⟩
    ·exact .emp hu
    ·exact .row hu h0 (by rw[hs,EL (j9 _ _ _ sM)]) hl hm
   ·obtain ⟨_,_,⟨ok,⟨Ca,T2,c1,c0,c2,c3⟩,nI⟩⟩:=hK _ _ _ sM;refine ⟨ok,⟨Ca,T2,(j9 _ _ _ sM).trans c1,c0,c2,fun i' j x t' hx ht hj=> ?_⟩,nI⟩;obtain ⟨v,m1,m2⟩:=c3 i' j x t' hx ht hj;have iZ:dU P t'=true:=by
     rw[sB] at ht;exact gU.1 gZ _ (my ht)
    refine ⟨v,m1,?_⟩;generalize ca P e2 x j=y at m2;cases m2 with
    | gu a p=>exact .gu a (p.mono (fun _ _ h=>h) xE)
    | emp a=>unfold dU at iZ;rw[a] at iZ;cases iZ
    | row a _ _ _ _=>unfold dU at iZ;rw[a] at iZ;cases iZ
  ·rcases FD _ _ _ _ h1 with ⟨rfl,rfl,_,_⟩|⟨i,rfl,_,k1⟩
   ·rcases FD _ _ _ _ h2 with ⟨rfl,_,_,_⟩|⟨j,rfl,_,k2⟩
    ·rfl
    ·exact absurd rfl (hK _ _ _ k2).1
   ·rcases FD _ _ _ _ h2 with ⟨rfl,rfl,_,_⟩|⟨j,rfl,_,k2⟩
    ·exact absurd rfl (hK _ _ _ k1).1
    ·rw[tW _ _ _ _ _ k1 k2]
theorem QQ (S:az P w I β hp B M w0) {id b:Nat} {e e1:TypeId} {es:List V} {vers:List Nat} (hr:rowOf P e=some e1) (ae:hp id=some (.nest e es vers)) (hb:β id=some b):
  ∃Ca T,w.heap[b]? =some (.cells Ca T (0,0))∧es.length≤Ca.size∧(∀j,¬I b j)∧
   (∀(i:Nat) x,es[i]? =some x→∃l v,x= .list e1 l∧Ca[i]? =some v∧zk P w e1 (fun b1 l=>At P w b e es [(i,0)] b1 e1 l) v l)∧
   (∀i b1 l,At P w b e es [(i,0)] b1 e1 l→b1≠b∧b1<w.heap.size∧iJ P w I b1 e1 l∧(M b1∨B≤b1)∧bf P w (β id) (.nest e es vers) b1)∧
   ∀i j b1 l m,At P w b e es [(i,0)] b1 e1 l→At P w b e es [(j,0)] b1 e1 m→i=j:=by
 obtain ⟨hu,cH,aq,oP,gZ⟩:=xG hr;have kJ:aT P e=[e]:=by simp[aT,cH]
 have hk:P.cellsOf e=1:=by rw[←fB aq,kJ];rfl
 have zl: ∀x j,ca P e x j=x:=fun x j=>by simp[ca,cH]
 have cN:=S.h.rel id _ ae;rw[hb] at cN;cases cN with
 | iY h=>cases h
 | nest av cS lX=>
  cases av;obtain ⟨_,⟨Ca,T,c1,_,c2,c3⟩,nI⟩:=cS _ _ _ _ .here;rw[hk,im] at c2;refine ⟨Ca,T,c1,c2,nI,fun i x hx=> ?_,fun i b1 l ha=> ?_,fun i j b1 l m h1 h2=> ?_⟩
  ·obtain ⟨v,hv,ho⟩:=c3 i 0 x e hx (by rw[kJ];rfl) (by rw[hk];exact Nat.one_pos);rw[hk,im,Nat.add_zero] at hv;rw[zl] at ho;cases ho with
   | gu a _=>unfold dU at a;rw[hu] at a;cases a
   | emp a=>rw[hu] at a;cases a;exact ⟨[],_,rfl,hv,.inl ⟨rfl,_,rfl⟩⟩
   | @row _ l b1 cap a h0 hs hl hm=>
    rw[hu] at a;cases a;refine ⟨l,_,rfl,hv,.inr ⟨b1,cap,h0,rfl,hs,hl,hm,?_⟩⟩;exact .step c1 hx (by rw[kJ];rfl) hu (zl _ _) h0 (by rw[hk,im,Nat.add_zero];exact hv) .here
  ·have ho:bf P w (β id) (.nest e es vers) b1:= .row hb ha;refine ⟨fun h=> ?_,S.h.lt ae ho,cS _ _ _ _ ha,S.h.own id _ b1 ae ho,ho⟩;subst h;exact absurd (lX _ _ _ _ _ _ _ ha .here) (by simp)
  ·have:=lX _ _ _ _ _ _ _ h1 h2;simpa using this
theorem Yx (l:List Nat) (k:Nat) (h:k<l.length):bA l k<bA (l.map (· +1)) k:=by
 induction l generalizing k with
 | nil=>simp at h
 | cons a l ih=>
  cases k with
  | zero=>simp[bA]
  | succ k=>simpa[bA] using ih k (by simpa using h)
theorem ajF {l:List Nat} {k:Nat} (h:l.length≤k):bA l k=0:=by
 induction l generalizing k with
 | nil=>rfl
 | cons a l ih=>
  cases k with
  | zero=>simp at h
  | succ k=>simpa[bA] using ih (by simpa using h)
theorem ajG (S:az P w I β hp B M w0) {id nb b i:Nat} {e e1:TypeId} {es:List V} {y:V} {vers:List Nat} (hr:rowOf P e=some e1) (ae:hp id=some (.nest e es vers)) (hb:β id=some b) (hy:es[i]? =some y) (hn:hp nb=none):
  ∃tY,Le P w I β hp w I tY (ao (ao hp id (some (.out e es (vers.map (· +1)) i))) nb (some (.arr e1 y.toList false)))∧
   az P w I tY (ao (ao hp id (some (.out e es (vers.map (· +1)) i))) nb (some (.arr e1 y.toList false))) B M w0∧
   ∀Ca v T f,w.heap[b]? =some (.cells Ca T f)→Ca[i]? =some v→aj P w I tY (ao (ao hp id (some (.out e es (vers.map (· +1)) i))) nb (some (.arr e1 y.toList false))) v (.whole e1 nb):=by
 obtain ⟨hu,cH,aq,oP,gZ⟩:=xG hr;obtain ⟨Ca,T0,c1,c2,nI,rc,rk,ru⟩:=QQ S hr ae hb;have Ci:aT P e1=flat P e1:=sB e1;have kJ:aT P e=[e]:=by simp[aT,cH]
 have zl: ∀x j,ca P e x j=x:=fun x j=>by simp[ca,cH]
 have hk:P.cellsOf e=1:=by rw[←fB aq,kJ];rfl
 have rL:=(cw.1 hy).1;have K3: ∀(j:Nat) l b1 cap,es[j]? =some (.list e1 l)→0<cap→Ca[j]? =some (.slice (some ⟨b1,0,none⟩) l.length cap)→At P w b e es [(j,0)] b1 e1 l:=
  fun j l b1 cap hx h0 hv=> .step c1 hx (by rw[kJ];rfl) hu (zl _ _) h0 (by rw[hk,im,Nat.add_zero];exact hv) .here
 have bN:nb≠id:=fun h=>by rw[h,ae] at hn;cases hn
 have sF: ∀b',bf P w (some b) (.out e es (vers.map (· +1)) i) b'→bf P w (some b) (.nest e es vers) b'∧∀l,¬At P w b e es [(i,0)] b' e1 l:=by
  intro b' ho;cases ho with
  | root _ h=>cases h;exact ⟨.root (by simp) rfl,fun l ha=>(rk _ _ _ ha).1 rfl⟩
  | @qn _ e2 _ l _ _ j b2 _ cap C' T f h1 h2 hj hx h0 hv=>
   cases h1;rw[c1] at h2;cases h2;obtain ⟨l',v',m1,m2,m3⟩:=rc _ _ hx;cases m1;have ha:=K3 _ _ _ _ hx h0 hv;exact ⟨.row rfl ha,fun l2 ha2=>hj (ru _ _ _ _ _ ha ha2)⟩
 have Yy:es≠[]:=fun h=>by rw[h] at rL;simp at rL
 obtain ⟨l1,S1⟩:=PV (w':=w) S (blk':= .out e es (vers.map (· +1)) i) ae (by simp)
  ⟨⟨rfl,rfl,by simp,fun k=>by
    by_cases hk:k<vers.length
    ·exact Nat.le_of_lt (Yx _ _ hk)
    ·rw[ajF (by omega)];exact nf _⟩,fun k hk=>Yx _ _ hk,Yy⟩ hb nI (.inr (by simp)) (fun _ _=>rfl) rfl (aw _) ⟨rfl,rfl⟩
  (fun b' h=> .inl (sF b' h).1) (fun _=>by
   refine .out rfl hu (by rw[Ci];exact gZ) c1 c2 rL nI (fun j x hj hx=> ?_) (fun j b1 cap l hj hx h0 hv=> ?_) (fun j k b1 c1 c2 l m hj hk hx hz h1 h2 hv nj=> ?_)
   ·obtain ⟨l,v,m1,m2,m3⟩:=rc j x hx;refine ⟨l,v,m1,m2,?_⟩;subst m1;rcases m3 with ⟨rfl,a,rfl⟩|⟨b1,cap,h0,rfl,q1,q2,q3,_⟩
    ·exact .emp hu
    ·exact .row hu h0 q1 q2 q3
   ·have:=rk _ _ _ (K3 _ _ _ _ hx h0 hv);exact ⟨this.1,this.2.2.1⟩
   ·exact ru _ _ _ _ _ (K3 _ _ _ _ hx h1 hv) (K3 _ _ _ _ hz h2 nj))
 have jh:ao hp id (some (.out e es (vers.map (· +1)) i)) nb=none:=by rw[cz _ _ bN];exact hn
 obtain ⟨l,v,xH,hv,gF⟩:=rc i y hy;subst xH;rcases gF with ⟨rfl,a,rfl⟩|⟨b1,cap,h0,rfl,q1,q2,q3,ha⟩
 ·obtain ⟨a1,a2⟩:=EP S1 (fz:=false) e1 jh;refine ⟨_,l1.trans a1,a2,fun yP v' T f h1 h2=> ?_⟩;rw[c1] at h1;cases h1;rw[hv] at h2;cases h2;exact .dS (bH _ _ _) (bH _ _ _)
 ·obtain ⟨d1,d2,⟨ok,⟨C1,_,e2,e0,e3,e4⟩,Yz⟩,d4,d5⟩:=rk _ _ _ ha;obtain ⟨a1,a2⟩:=BQ S1 (w':=w) (blk:= .arr e1 l false) (b:=b1) jh
   (fun ar blk' h ho=>by
    by_cases hi:ar=id
    ·subst hi;rw[bH] at h;cases h;rw[hb] at ho;exact (sF _ ho).2 _ ha
    ·rw[cz _ _ hi] at h;exact hi (S.h.inj _ _ _ _ _ h ae ho d5))
   (fun j h=>absurd h (Yz j)) (fun _ _ _=>rfl) (aw _) ⟨rfl,rfl⟩ d4 (fun b' h=>(dL (h.flat (by simp))).symm)
   (fun hle=> .arr e0 oP rfl e2 e3 (fun h=>by cases h) (fun _=>Yz) fun i' j x t' k1 k2 k3=>by
    obtain ⟨u,m1,m2⟩:=e4 i' j x t' k1 k2 k3;have iZ:dU P t'=true:=by
     rw[Ci] at k2;exact gU.1 gZ _ (my k2)
    refine ⟨u,m1,?_⟩;generalize ca P e1 x j=z at m2⊢;cases m2 with
    | gu _ p=>exact p
    | emp a=>unfold dU at iZ;rw[a] at iZ;cases iZ
    | row a _ _ _ _=>unfold dU at iZ;rw[a] at iZ;cases iZ)
  refine ⟨_,l1.trans a1,a2,fun yP v' T f h1 h2=> ?_⟩;rw[c1] at h1;cases h1;rw[hv] at h2;cases h2;exact .whole (es:=l) (bH _ _ _) (bH _ _ _) q1 q2 q3
theorem ajH (S:az P w I β hp B M w0) {t e e1:TypeId} {v:Value} {id aH b i:Nat} {es bV:List V} {vers:List Nat} (hr:rowOf P e=some e1) (ae:hp id=some (.out e es vers i)) (hb:β id=some b)
  (ht:pe P t=true) (hn:P.cellsOf t=1) (dn:hp aH=some (.arr e1 bV false)) (bN:id≠aH) (hv:aj P w I β hp v (.whole e1 aH)):
  rF P ((Instr.storeAt t (.pointer (some ⟨b,i*P.cellsOf e+0,none⟩)) v).run P w) w I β hp B M w0 ⟨.undef,[(id,.nest e (es.set i (.list e1 bV)) vers),(aH,.dead)]⟩:=by
 obtain ⟨hu,cH,aq,oP,gZ⟩:=xG hr;have kJ:aT P e=[e]:=by simp[aT,cH]
 have hk:P.cellsOf e=1:=by rw[←fB aq,kJ];rfl
 obtain ⟨rI,S1⟩:=xn S dn;have qy:ao hp aH (some .dead) id=some (.out e es vers i):=by rw[cz _ _ bN];exact ae
 have cN:=S.h.rel id _ ae;rw[hb] at cN;cases cN with
 | out av lE azr hh hs hi hI hc cS lX=>
 cases av;rw[hu] at lE;cases lE;rename_i Ca;have gF: ∃K:Nat→List V→Prop,zk P w e1 K v bV∧(∀b1 l,K b1 l→b1≠b∧iJ P w I b1 e1 l∧(M b1∨B≤b1)∧(∀ar blk',ao hp aH (some .dead) ar=some blk'→¬bf P w (β ar) blk' b1))∧v.cells= #[v]∧v.oneCell'=true:=by
  cases hv with
  | dW hd=>rw[dn] at hd;cases hd
  | dM hd=>rw[dn] at hd;cases hd
  | eb hd=>rw[dn] at hd;cases hd
  | fA hd=>rw[dn] at hd;cases hd
  | @dS _ _ _ a0 hd hb=>rw[dn] at hd;cases hd;exact ⟨fun _ _=>False,.inl ⟨rfl,a0,rfl⟩,fun _ _ h=>h.elim,rfl,rfl⟩
  | @whole _ _ _ _ b2 cap hd ff bc bS hm=>
   rw[dn] at hd;cases hd;obtain ⟨m1,m2⟩:=QN S dn ff gZ;obtain ⟨m3,m4⟩:=m1 _ _ _ _ .here;rcases Ea cap with h0|h0
   ·subst h0;obtain rfl:=wP.1 (wU.1 bS);exact ⟨fun _ _=>False,.inl ⟨rfl,_,rfl⟩,fun _ _ h=>h.elim,rfl,rfl⟩
   ·refine ⟨fun b1 l=>b1=b2∧l=bV,.inr ⟨b2,cap,h0,rfl,bc,bS,hm,rfl,rfl⟩,fun b1 l h=> ?_,rfl,rfl⟩;obtain ⟨rfl,rfl⟩:=h;refine ⟨fun h=> ?_,m3,S.h.own aH _ _ dn m4,fun ar blk' h' ho=> ?_⟩
    ·subst h;exact bN (S.h.inj _ _ _ _ _ ae dn (.root (by simp) hb) m4)
    ·by_cases q:ar=aH
     ·subst q;rw[bH] at h';cases h';exact absurd rfl ho.alive
     ·rw[cz _ _ q] at h';exact q (S.h.inj ar aH _ _ _ h' dn ho m4)
 obtain ⟨K,k1,k2,k3,k4⟩:=gF;have rL:i<Ca.size:=by omega
 have cK:=Ki (t:=t) (o:=i*P.cellsOf e+0) (v:=v) ht (by rw[hn,k3];rfl) hh (by rw[k3,hk];simp;omega) (by rw[k3];simp[k4]);rw[k3,hk,im,Nat.add_zero] at cK;have hC:(Ca.toList.take i++(#[v].toList++Ca.toList.drop (i+ #[v].toList.length))).toArray.size=Ca.size:=by simp;omega
 have ky: ∀j,(Ca.toList.take i++(#[v].toList++Ca.toList.drop (i+ #[v].toList.length))).toArray[j]? =if j=i then some v else Ca[j]? :=by
  intro j;rw[o6,rE _ _ _ _ (by simp;omega)];simp only[List.length_singleton,sh];by_cases h1:j<i
  ·rw[aB h1,aC (by omega)]
  ·rw[aC h1];by_cases h2:j=i
   ·subst h2;simp
   ·rw[aC (by omega),aC h2]
 rw[hk,im,Nat.add_zero];generalize hCb:(Ca.toList.take i++(#[v].toList++Ca.toList.drop (i+ #[v].toList.length))).toArray=Cb at cK hC ky;have dG:=setRow_heap w b Ca Cb _ (0,0) hh;have tX:=fun k (hk:k≠b)=>setRow_other w b k Cb hk;obtain ⟨p1,p2⟩:=Yw (w:=w) (w':=w.setRow b Cb) (I:=I) (vers:=vers) (ys:=es.set i (.list e1 bV)) hr dG (by simp;omega) hI
  (fun j b1 l=>(j=i∧K b1 l)∨(j≠i∧∃cap,es[j]? =some (.list e1 l)∧0<cap∧Ca[j]? =some (.slice (some ⟨b1,0,none⟩) l.length cap)))
  (fun j x hx=>by
   rw[Eb] at hx;rw[ky];by_cases hj:i=j
   ·subst hj;simp only[sf,aB hi,fb] at hx;subst hx;refine ⟨bV,v,rfl,aB rfl,?_⟩;rcases k1 with h|⟨b1,cap,h0,h1,h2,h3,h4,h5⟩
    ·exact .inl h
    ·exact .inr ⟨b1,cap,h0,h1,h2,h3,h4,.inl ⟨rfl,h5⟩⟩
   ·rw[aC hj] at hx;rw[aC (fun h=>hj h.symm)];obtain ⟨l,u,m1,m2,m3⟩:=hc j x (fun h=>hj h.symm) hx;subst m1;refine ⟨l,u,rfl,m2,?_⟩;cases m3 with
    | gu a _=>unfold dU at a;rw[hu] at a;cases a
    | emp a=>exact .inl ⟨rfl,_,rfl⟩
    | @row _ _ b1 cap a h0 c d f=>exact .inr ⟨b1,cap,h0,rfl,by rw[hu] at a;cases a;exact c,d,f,.inr ⟨fun h=>hj h.symm,cap,hx,h0,m2⟩⟩)
  (fun j b1 l h=>by
   rcases h with ⟨_,h⟩|⟨hj,cap,hx,h0,hv⟩
   ·exact ⟨(k2 _ _ h).1,tX _ (k2 _ _ h).1,(k2 _ _ h).2.1⟩
   ·obtain ⟨q1,q2⟩:=cS _ _ _ _ hj hx h0 hv;exact ⟨q1,tX _ q1,q2⟩)
  (fun j j' b1 l m h1 h2=>by
   have no: ∀{j l m},K b1 l→(j≠i∧∃cap,es[j]? =some (.list e1 m)∧0<cap∧Ca[j]? =some (.slice (some ⟨b1,0,none⟩) m.length cap))→False:=fun h ⟨hj,cap,hx,h0,hv⟩=>
    (k2 _ _ h).2.2.2 _ _ qy (by rw[hb];exact .qn rfl hh hj hx h0 hv)
   rcases h1 with ⟨h,h1⟩|h1
   ·rcases h2 with ⟨h',h2⟩|h2
    ·omega
    ·exact (no h1 h2).elim
   ·rcases h2 with ⟨_,h2⟩|h2
    ·exact (no h2 h1).elim
    ·obtain ⟨hj,cap,hx,h0,hv⟩:=h1;obtain ⟨dX,QG,dd,QR,vJ⟩:=h2;exact lX _ _ _ _ _ _ _ hj dX hx dd h0 QR hv vJ)
 obtain ⟨a1,a2⟩:=PV S1 (w':=w.setRow b Cb) (blk':= .nest e (es.set i (.list e1 bV)) vers) qy (by simp) ⟨rfl,by simp,rfl,fun _=>aw _⟩ hb hI (.inl (by simp)) tX (by rw[lr dG,lr hh,hC]) (by simp) ⟨rfl,rfl⟩
  (fun b' ho=>by
   rcases p1 b' ho with rfl|⟨j,l,⟨_,h⟩|⟨hj,cap,hx,h0,hv⟩⟩
   ·exact .inl (.root (by simp) rfl)
   ·exact .inr ⟨(k2 _ _ h).2.2.1,(k2 _ _ h).2.2.2⟩
   ·exact .inl (.qn rfl hh hj hx h0 hv))
  (fun hle=>p2 hle.cI)
 exact ⟨_,I,β,cK,rI.trans a1,a2,rfl⟩
end
section
variable {P:Program} {w w':World} {I I':Nat→Nat→Prop} {β β':Nat→Option Nat} {hp hp':Nat→Option ah} {C:af} {B:Nat} {M:Nat→Prop} {w0:Start}
theorem ajI (S:az P w I β hp B M w0) {t:TypeId} {a v:Value} {xa x:V} {r:R} {rd:List Nat} (ha:aj P w I β hp a xa) (hv:aj P w I β hp v x)
  (h:(Pj P t xa x).run C hp=some (r,rd)):rF P ((Instr.storeAt t a v).run P w) w I β hp B M w0 r:=by
 unfold Pj at h;obtain ⟨h0,h⟩:=aD h;simp only[aJ,aL] at h0;obtain ⟨ht,hn⟩:=h0;cases xa with
 | ptr id i c=>
  obtain ⟨l,h⟩:=run_get h;cases ae:hp id with
  | none=>rw[ae] at h;cases h
  | some blk=>
   rw[ae] at h;cases blk with
   | dead=>cases h
   | var T0 cs=>
    obtain ⟨YA,h⟩:=aD h;have rG:tF P T0=true→0<c:=fun dN=>by
     rw[dN] at YA;simpa using YA
    obtain ⟨b,hb,rfl⟩:=ha.ja ae (by simp);simp only[ah.sz,Nat.mul_zero,dq];cases EW:JI P t cs with
    | true=>
     dsimp only at h;rw[EW] at h;replace h:=Xf h;obtain ⟨mI,h⟩:=aD h;obtain ⟨e,K4,vq,BX,XC⟩:=Xr mI;rw[Nat.sub_zero] at BX;unfold W0 at h;rw[vq] at h;simp only at h;obtain ⟨⟨y1,u1⟩,l3,l4,hq,h⟩:=oe h;obtain ⟨q1,q2⟩:=EN S.h.rel hq hv;cases y1 with
     | list e' es=>
      simp only at h;obtain ⟨hc,h⟩:=aD h;obtain rfl:=aN h;simp only[aJ,mZ,aL,mY] at hc;obtain ⟨rfl,rfl,gh,zm⟩:=hc;obtain ⟨rI,S1⟩:=BN S q1;have qy:b8 hp u1 id=some (.var T0 cs):=by
       rcases xl (hp:=hp) (l:=u1) (id:=id) with h|⟨b',hm,_⟩
       ·exact h.trans ae
       ·exfalso;have tQ:iF (u1.map (·.1)) id=true:=yW (iE.2 ⟨_,hm,rfl⟩);rw[tQ] at zm;cases zm
      have eB:Plain P w (jS P w I β hp u1) v (.list e es):=q2 (jS P w I β hp u1) (fun _ _ h=> .inl h) (fun p hp b j h=> .inr ⟨p,hp,h⟩);have YB:c<cs.length:=(cw.1 BX).1;have sy:aj P w (jS P w I β hp u1) β (b8 hp u1) v (.nl e es):= .nl eB fun e0=>by rw[e0] at gh;simp at gh
      have vK:v.cells= #[v]:=by
       cases sy with
       | nl q=>cases q<;>rfl
      have kK:x.cells.length=1:=by
       cases x<;>simp only[El] at hq<;>first|rfl|(cases hq;done)
      have key:rF P ((Instr.storeAt t (.pointer (some ⟨b,c,none⟩)) v).run P w) w (jS P w I β hp u1) β (b8 hp u1) B M w0 ⟨.undef,[(id,.var T0 (rn cs 0 c es))]⟩:=by
       refine P6 (x:=V.nl e es) S1 qy hb ht (by rw[←hn,kK];rfl) (by rw[vK];rfl) rG (fun j u y hu hy=> ?_) (by rw[vK];simp;cases sy with|nl q=>cases q<;>rfl) (by show c+1≤_;omega) (Xs _ _ _ _) (fun j y hy hj u hu=> ?_) (fun j y hy hj u hu=> ?_)
       ·rw[vK] at hu;cases j with
        | zero=>simp at hu;subst hu;cases hy;exact sy
        | succ j=>cases hy
       ·refine hu y ?_;rw[←hy];exact (Xt (by have:j<c∨c+1≤j:=hj;omega)).symm
       ·have FE:j=0:=by have:j<1:=hj;omega
        subst FE;have:=Xu (xs:=es) (j0:=0) (c:=c) (by rw[Nat.sub_zero];exact BX) (nf _);rw[Nat.sub_zero] at this;rw[Nat.add_zero,this] at hy;cases hy;exact hu _ rfl
      obtain ⟨w',I2,cB,z1,z2,z3,z4⟩:=key;exact ⟨w',I2,cB,z1,rI.trans z2,z3,z4⟩
     | _=>cases h
    | false=>
    dsimp only at h;rw[EW] at h;replace h:=Xg h;cases vr:(Bx P t cs&&fN P t x) with
    | true=>
     rw[vr] at h;simp only[cond_true] at h;obtain ⟨hc,h⟩:=aD h;obtain rfl:=aN h;simp only[aJ,mY] at hc vr;obtain ⟨o1,o2⟩:=XF hv vr.2;have tS:=ahm vr.2;refine P6 S ae hb ht hn (by rw[o2,tS];rfl) rG (fun j u y hu hy=> ?_) (by rw[o2];simp[o1]) (by rw[tS];simp;omega) (XE _ _ _ _) (fun j y hy hj u hu=> ?_) (fun j y hy hj u hu=> ?_)
     ·rw[o2] at hu;rw[tS] at hy;cases j with
      | zero=>simp at hu hy;subst hu;subst hy;exact hv
      | succ j=>simp at hy
     ·rw[P5] at hy;cases Cj:cs[j]? with
      | none=>rw[Cj] at hy;cases hy
      | some y0=>
       rw[Cj] at hy;simp only[Option.map_some,fb] at hy;rw[tS] at hj;simp only[List.length_singleton] at hj;have bN:Nat.beq c (0+j)=false:=by
        cases hq:Nat.beq c (0+j) with
        | false=>rfl
        | true=>rw[aL] at hq;omega
       rw[bN] at hy;have:=Xn (c:=false) hv (hu y0 Cj);rw[←hy];simpa using this
     ·rw[tS] at hj hu;have FE:j=0:=by simpa using hj
      subst FE;rw[P5] at hy;cases Cj:cs[c+0]? with
      | none=>rw[Cj] at hy;cases hy
      | some y0=>
       rw[Cj] at hy;simp only[Option.map_some,fb] at hy;have heq:Nat.beq c (0+(c+0))=true:=by rw[aL];omega
       rw[heq] at hy;have h2:aj P w I β hp u x:=hu x rfl;have:w8 true x y0=x:=ahn x y0;rw[←hy,this];exact h2
    | false=>
     rw[vr] at h;simp only[cond_false] at h;obtain ⟨hc,h⟩:=aD h;simp only[aJ,gp] at hc;obtain ⟨e1,e2⟩:=P4 hv h;obtain ⟨h1,l2,h⟩:=Kh h (vs:=v.cells.toList) (by simpa using e1) (fun j u y a b=>e2 j u y (by simpa using a) b);obtain rfl:=aN h;refine P6 S ae hb ht hn e1 rG e2 h1 hc.2 (EX _ _ _ hc.2) (fun j y hy hj u hu=> ?_) (fun j y hy hj u hu=> ?_)
     ·unfold jr at hy;rw[rE _ _ _ _ hc.2] at hy;rcases hj with hj|hj
      ·rw[aB hj] at hy;exact hu y hy
      ·rw[dh,dh] at hy;exact hu y hy
     ·unfold jr at hy;rw[rE _ _ _ _ hc.2,dh,da] at hy;rw[show c+j-c=j by omega] at hy;exact hu y hy
   | arr e es fz=>
    cases fz with
    | true=>cases h
    | false=>
    obtain ⟨b,hb,rfl⟩:=ha.ja ae (by simp);obtain ⟨aq,h⟩:=aD h;obtain ⟨⟨ys,fr⟩,l1,l2,bK,h⟩:=oe h;obtain ⟨hc,h⟩:=aD h;obtain ⟨x0,vI,h⟩:=od h;obtain rfl:=aN h;simp only[aJ,mZ,gp] at hc;obtain ⟨gv,hc3,gb⟩:=hc;have rK:v.cells.size=x.cells.length∧∀(j:Nat) u y,v.cells.toList[j]? =some u→x.cells[j]? =some y→aj P w I β hp u y:=by
     cases x with
     | agg xs=>
      obtain ⟨cs,rfl,h1,h2⟩:=hv.np;exact ⟨h1,fun j u y a b=>h2 j u y (by simpa[Value.cells] using a) b⟩
     | _=>
      simp only[V.cells] at bK gb⊢;simp only[w7] at bK;obtain ⟨⟨y1,u1⟩,l3,l4,hq,bK⟩:=oe bK;obtain ⟨q1,q2⟩:=EN S.h.rel hq hv;obtain ⟨⟨y2,u2⟩,l5,l6,vL,bK⟩:=oe bK;cases vL;have:=aN bK;cases this;obtain ⟨tl,tg⟩:=yV gb;have eX:=tg 0 _ y1 (bU (by rw[tl];exact Nat.one_pos)) rfl;have eB:=q2 (jS P w I β hp u1) (fun _ _ h=> .inl h) (fun p hp b j h=> .inr ⟨p,hp,h⟩);have ho:=eB.pure eX;have YC:v.cells= #[v]:=by cases ho<;>rfl
      rw[YC];refine ⟨rfl,fun j u y hu hy=> ?_⟩;cases j with
      | zero=>simp at hu hy;subst hu;subst hy;exact hv
      | succ j=>simp at hy
    obtain ⟨k1,k2,k3⟩:=PT S.h.rel bK (vs:=v.cells.toList) (by simpa using rK.1) rK.2;obtain ⟨rI,S1⟩:=BN S k2;have qy:b8 hp fr id=some (.arr e es false):=by
     rcases xl (hp:=hp) (l:=fr) (id:=id) with h|⟨b',hm,_⟩
     ·exact h.trans ae
     ·exfalso;have zm:iF (fr.map (·.1)) id=true:=yW (iE.2 ⟨_,hm,rfl⟩);rw[zm] at gv;cases gv
    have YD:=k3 (jS P w I β hp fr) (fun _ _ h=> .inl h) (fun p hp b j h=> .inr ⟨p,hp,h⟩);obtain ⟨tl,tg⟩:=yV gb;have gZ:=(oI aq).1;have xH:ys.length=v.cells.size:=by rw[k1,rK.1]
    have hcn:c+v.cells.size≤P.cellsOf e:=by rw[rK.1];exact hc3
    have hr:=S1.h.rel id _ qy;cases hr with
    | ey av=>simp at vI
    | @arr _ _ _ _ b' Ca hL P0 av hh hs hf fH hx=>
     rw[hb] at av;cases av;have pB:i<es.length:=(cw.1 vI).1;have hbound:i*P.cellsOf e+P.cellsOf e≤Ca.size:=by
      have:(i+1)*P.cellsOf e≤es.length*P.cellsOf e:=fa _ pB;rw[kZ] at this;omega
     simp only[ah.sz];have xq:i*P.cellsOf e+c+v.cells.size≤Ca.size:=by omega
     have dj: ∀j,¬jS P w I β hp fr b j:=fH rfl;have h1: ∀u∈v.cells.toList,u.oneCell'=true:=by
      intro u hu;obtain ⟨j,hj⟩:=tC hu;have dm:j<ys.length:=by rw[xH];simpa using (cw.1 hj).1
      have sP:j<(((flat P e).drop c).take x.cells.length).length:=by rw[tl];exact dm
      exact (YD j u ys[j] hj (bU dm)).one (tg j _ ys[j] (bU sP) (bU dm))
     have cK:=Ki (t:=t) (o:=i*P.cellsOf e+c) (v:=v) ht (by rw[rK.1];exact hn.symm) hh xq h1;have hlen:(Ca.toList.take (i*P.cellsOf e+c)++(v.cells.toList++Ca.toList.drop (i*P.cellsOf e+c+v.cells.toList.length))).length=Ca.size:=by
      rw[EX _ _ _ (by simpa using xq)];simp
     have eB:(parts P e x0).length=P.cellsOf e:=by rw[BV];exact fB aq
     have EY:=Kj S1 (blk':= .arr e (es.set i (dz P e (jr (parts P e x0) c ys))) false)
      (Cb:=(Ca.toList.take (i*P.cellsOf e+c)++(v.cells.toList++Ca.toList.drop (i*P.cellsOf e+c+v.cells.toList.length))).toArray) qy (by simp) ⟨rfl,by simp⟩ hb dj (by simp) hh (by simpa using hlen)
      (fun hle dG=> .arr (by rw[sg,hlen];exact hL) aq rfl dG (by simp only[sg,oG];omega) (fun h=>by cases h) (fun _=>dj) fun i' j z t' hz sP hj=>by
       simp only[o6];rw[rE _ _ _ _ (by simpa using xq)];simp only[Array.length_toList];rw[Eb] at hz;by_cases nA:i=i'
       ·subst nA;rw[aB rfl,aB pB] at hz;cases hz;have K5:j<(parts P e x0).length:=by omega
        have zn:(jr (parts P e x0) c ys)[j]? =if j<c then (parts P e x0)[j]? else if j<c+ys.length then ys[j-c]? else (parts P e x0)[j]? :=by
         unfold jr;exact rE _ _ _ _ (by omega)
        by_cases vu:j<c
        ·rw[da];rw[aB vu] at zn;obtain ⟨u,t2,a1,a2,a3⟩:=Kf hx aq vI (bU K5);rw[sP] at a1;cases a1;refine ⟨u,by simpa using a2,?_⟩;rw[vw (zn.trans (bU K5)) sP];exact a3.mono hle.eg hle.cI
        ·rw[aC vu] at zn;by_cases dF:j<c+ys.length
         ·rw[aB dF] at zn;rw[dh,da];have tZ:j-c<ys.length:=by omega
          have YE:j-c<v.cells.toList.length:=by simp;omega
          have azs:j-c<v.cells.size:=by omega
          refine ⟨v.cells.toList[j-c],?_,?_⟩
          ·rw[show i*P.cellsOf e+j-(i*P.cellsOf e+c)=j-c by omega];exact bU YE
          ·rw[vw (zn.trans (bU tZ)) sP];have hft:(((flat P e).drop c).take x.cells.length)[j-c]? =some t':=by
            rw[jo (by omega),rj,show c+(j-c)=j by omega,←sB];exact sP
           exact ((YD (j-c) _ ys[j-c] (bU YE) (bU tZ)).pure (tg (j-c) t' ys[j-c] hft (bU tZ))).mono hle.eg hle.cI
         ·rw[aC dF] at zn;rw[dh,dh];obtain ⟨u,t2,a1,a2,a3⟩:=Kf hx aq vI (bU K5);rw[sP] at a1;cases a1;refine ⟨u,by simpa using a2,?_⟩;rw[vw (zn.trans (bU K5)) sP];exact a3.mono hle.eg hle.cI
       ·rw[aC nA] at hz;obtain ⟨u,a2,a3⟩:=hx i' j z t' hz sP hj;have bN:i'*P.cellsOf e+j<i*P.cellsOf e+c∨i*P.cellsOf e+c+v.cells.size≤i'*P.cellsOf e+j:=by
         rcases jq i' i with aZ|qA
         ·left;have:(i'+1)*P.cellsOf e≤i*P.cellsOf e:=fa _ aZ;rw[kZ] at this;omega
         ·right;have:(i+1)*P.cellsOf e≤i'*P.cellsOf e:=fa _ (by omega);rw[kZ] at this;omega
        refine ⟨u,?_,a3.mono hle.eg hle.cI⟩;rcases bN with bN|bN
        ·rw[aB bN];simpa using a2
        ·rw[dh,dh];simpa using a2)
     exact ⟨_,_,_,cK,rI.trans EY.1,EY.2,rfl⟩
   | map _ _=>cases h
   | out e es vers j=>
    obtain ⟨b,hb,rfl⟩:=ha.ja ae (by simp);unfold W5 at h;obtain ⟨hc,h5⟩:=aD h;clear h;simp only[aJ,aL] at hc;obtain ⟨rfl,rfl⟩:=hc;cases hr:rowOf P e with
    | none=>simp only[hr] at h5;cases h5
    | some e1=>
     simp only[hr] at h5;cases x with
     | whole e3 aH=>
      obtain ⟨l1,h6⟩:=run_get h5;cases dn:hp aH with
      | none=>rw[dn] at h6;cases h6
      | some cA=>
       rw[dn] at h6;cases cA with
       | arr e4 bV fz=>
        cases fz with
        | true=>cases h6
        | false=>
         obtain ⟨hc,h7⟩:=aD h6;obtain rfl:=aN h7;simp only[aJ,aL,mZ] at hc;obtain ⟨rfl,rfl,bN⟩:=hc;exact ajH S hr ae hb ht hn.symm dn (fun e=>by rw[e,nZ] at bN;cases bN) hv
       | _=>cases h6
     | _=>cases h5
   | nest e es vers=>
    obtain ⟨b,hb,rfl⟩:=ha.ja ae (by simp);exact Yv S ht hn hv ae hb .here h
 | dE id ver path i c=>
  obtain ⟨e0,es,vers,l,ae,h1,h2,h3,h⟩:=rB h;obtain ⟨b,b1,e1,l1,hb,fP,rfl⟩:=ha.Xh ae h1 h2 h3;exact Yv S ht hn hv ae hb fP h
 | _=>cases h
end
section
variable {P:Program} {w w':World} {I I':Nat→Nat→Prop} {β β':Nat→Option Nat} {hp hp':Nat→Option ah} {C:af} {B:Nat} {M:Nat→Prop} {w0:Start}
theorem K6: ∀{ts:List TypeId} {vs:List Value} {j:Nat} {y:V},(jZ P ts vs)[j]? =some y→∃t v,ts[j]? =some t∧vs[j]? =some v∧y=rm P t v
 | [],vs,j,y,h=>by simp[jZ] at h
 | _::_,[],j,y,h=>by simp[jZ] at h
 | t::ts,v::vs,0,y,h=>by simp[jZ] at h;grind
 | t::ts,v::vs,j+1,y,h=>by
  simp only[jZ,List.getElem?_cons_succ] at h;obtain ⟨t',v',a,b,c⟩:=K6 h;grind
theorem YF: ∀{ts:List TypeId} {vs:List Value},ts.length=vs.length→(jZ P ts vs).length=vs.length
 | [],[],_=>rfl
 | [],_::_,h=>by simp at h
 | _::_,[],h=>by simp at h
 | t::ts,v::vs,h=>by simp[jZ,YF (ts:=ts) (vs:=vs) (by grind)]
theorem kL {e:TypeId} (h:cZ P e=true): ∃i z,P.info? e=some i∧i.zero=some z∧i.size=P.cellsOf e∧z.cells.size=P.cellsOf e∧zeroCells P e=jZ P (flat P e) z.cells.toList:=by
 unfold cZ at h;simp only[aJ,aL,mY] at h;obtain ⟨h1,h2,_,h3⟩:=h;cases hi:P.info? e with
 | none=>grind
 | some i=>
  rw[hi] at h3;simp only[Option.bind_some] at h3;cases hz:i.zero with
  | none=>grind
  | some z=>
   rw[hz] at h3;simp only[aL] at h3;exact ⟨i,z,rfl,hz,by simp[Program.cellsOf,hi],h3,by simp[zeroCells,hi,hz]⟩
theorem YG {e:TypeId} (h:cZ P e=true): ∃i z,P.info? e=some i∧i.zero=some z∧z.cells.size=(zeroCells P e).length∧z.cells.size=P.cellsOf e∧
  ∀(j:Nat) v x,z.cells[j]? =some v→(zeroCells P e)[j]? =some x→aj P w I β hp v x:=by
 obtain ⟨i,z,h1,h2,h3,h4,h5⟩:=kL h;have hl:(flat P e).length=z.cells.toList.length:=by rw[(oI h).1];grind
 refine ⟨i,z,h1,h2,?_,h4,fun j v x hv hx=> ?_⟩
 ·rw[h5,YF hl];simp
 ·rw[h5] at hx;obtain ⟨t,v',_,vJ,rfl⟩:=K6 hx;have:v'=v:=by
   grind
  subst this;exact aj.const t v'
theorem mM {nb:Nat} {b:ah} {v:V} {upd:List (Nat×ah)} {r:R} {rd:List Nat} (h:(js nb b v upd).run C hp=some (r,rd)):hp nb=none∧r=⟨v,(nb,b)::upd⟩:=by
 obtain ⟨l,h⟩:=run_get h;cases hn:hp nb with
 | none=>rw[hn] at h;exact ⟨rfl,(aN h).symm⟩
 | some x=>rw[hn] at h;cases h
theorem YH (S:az P w I β hp B M w0) {nb:Nat} {xs:List V} {C0:Array Value} {T:TypeId} (hn:hp nb=none) (hs:C0.size=xs.length)
  (hx: ∀(j:Nat) v x,C0[j]? =some v→xs[j]? =some x→aj P w I β hp v x) (iK:Xa P w.heap.size T C0):
  Le P w I β hp (w.alloc (.cells C0 T)) I (ao β nb (some w.heap.size)) (ao hp nb (some (.var T xs)))∧az P (w.alloc (.cells C0 T)) I (ao β nb (some w.heap.size)) (ao hp nb (some (.var T xs))) B M w0∧
  aj P (w.alloc (.cells C0 T)) I (ao β nb (some w.heap.size)) (ao hp nb (some (.var T xs))) (.pointer (some ⟨w.heap.size,0,none⟩)) (.ptr nb 0 0):=by
 obtain ⟨h1,h2⟩:=PW S (blk:= .var T xs) (c:=C0) (T:=T) hn (fun b' h=>(dL (h.flat (by simp))).symm) (fun hle dG dj=> .var rfl dG hs dj (fun j v x a b=>(hx j v x a b).mono hle) iK);refine ⟨h1,h2,?_⟩;have:=aj.ptr (P:=P) (w:=w.alloc (.cells C0 T)) (I:=I) (β:=ao β nb (some w.heap.size)) (hp:=ao hp nb (some (.var T xs))) (i:=0) (c:=0) (blk:= .var T xs) (bH _ _ _) (by simp) (bH _ _ _);grind
theorem YI (S:az P w I β hp B M w0) {e:TypeId} {nb:Nat} {r:R} {rd:List Nat}
  (h:(Rd.ay (cZ P e&&(!(tF P e)||W4 (zeroCells P e))) (js nb (.var e (zeroCells P e)) (.ptr nb 0 0) [])).run C hp=some (r,rd)):dk P ((Instr.alloc e true (.tuple #[])).run P w) w I β hp B M w0 r:=by
 obtain ⟨aq,h⟩:=aD h;rw[aJ] at aq;obtain ⟨aq,rG⟩:=aq;obtain ⟨hn,rfl⟩:=mM h;obtain ⟨i,z,h1,h2,h3,h4,h5⟩:=YG (w:=w) (I:=I) (β:=β) (hp:=hp) aq;obtain ⟨a,b,c⟩:=YH S (T:=e) hn h3 h5 fun dN=>by
  rw[dN,Bool.not_true,Bool.false_or] at rG;cases hz:zeroCells P e with
  | nil=>rw[hz] at rG;cases rG
  | cons y l=>
   rw[hz] at rG h3 h5;cases y<;>first|(cases rG;done)|skip
   have aZ:0<z.cells.size:=by grind
   have:=h5 0 z.cells[0] .eA (la aZ) rfl;left;rw[la aZ];generalize z.cells[0]=u at this;cases this;rfl
 exact ⟨_,_,_,_,by simp[Instr.alloc,zeroValue,typeInfo,h1,h2,newVar,newRow],a,b,c⟩
theorem ajJ (S:az P w I β hp B M w0) {e:TypeId} {nb:Nat} {x:V} {v:Value} {r:R} {rd:List Nat} (hv:aj P w I β hp v x)
  (h:(Rd.ay (!(tF P e)) <| pd x.cells (js nb (.var e x.cells) (.ptr nb 0 0) [])).run C hp=some (r,rd)):dk P ((Instr.box e v).run P w) w I β hp B M w0 r:=by
 obtain ⟨rG,h⟩:=aD h;obtain ⟨e1,e2⟩:=P4 hv h;obtain ⟨_,l,h⟩:=Kh h (vs:=v.cells.toList) (by omega) (fun j u y a b=>e2 j u y (by grind) b);obtain ⟨hn,rfl⟩:=mM h;obtain ⟨a,b,c⟩:=YH S (T:=e) hn e1 e2 fun dN=>by grind
 exact ⟨_,_,_,_,by simp[Instr.box,newVar,newRow],a,b,c⟩
theorem foldl_set (off:Nat): ∀(vs:List Value) (k:Nat) (cs:Array Value) (i:Nat),off+k+vs.length≤cs.size→
  ((vs.zipIdx k).foldl (fun cs p=>cs.setIfInBounds (off+p.2) p.1) cs)[i]? =if i<off+k then cs[i]? else if i<off+k+vs.length then vs[i-(off+k)]? else cs[i]?
 | [],k,cs,i,h=>by simp_all
 | v::vs,k,cs,i,h=>by
  simp only[List.zipIdx_cons,List.foldl_cons];simp only[List.length_cons] at h⊢;rw[foldl_set off vs (k+1) _ i (by simp;omega)];grind
theorem YJ (off:Nat): ∀(vs:List Value) (k:Nat) (cs:Array Value),((vs.zipIdx k).foldl (fun cs p=>cs.setIfInBounds (off+p.2) p.1) cs).size=cs.size
 | [],k,cs=>rfl
 | v::vs,k,cs=>by
  simp only[List.zipIdx_cons,List.foldl_cons];rw[YJ off vs (k+1)];simp
theorem YK {cells:Array Value} {off:Nat} {v:Value} (h:off+v.cells.size≤cells.size) (i:Nat):
  (v.cells.zipIdx.foldl (fun cs (p:Value×Nat)=>cs.setIfInBounds (off+p.2) p.1) cells)[i]? =if i<off then cells[i]? else if i<off+v.cells.size then v.cells[i-off]? else cells[i]? :=by
 have:=foldl_set off v.cells.toList 0 cells i (by omega);rw[←Js];grind
theorem YL {cells:Array Value} {off:Nat} {v:Value}:(v.cells.zipIdx.foldl (fun cs (p:Value×Nat)=>cs.setIfInBounds (off+p.2) p.1) cells).size=cells.size:=by
 have:=YJ off v.cells.toList 0 cells;rw[←Js];grind
inductive Ck (P:Program) (w:World) (I:Nat→Nat→Prop) (β:Nat→Option Nat) (hp:Nat→Option ah):List (Nat×Value)→List (Nat×V)→Prop
 | nil:Ck P w I β hp [] []
 | cons {i:Nat} {v:Value} {x:V} {vs:List (Nat×Value)} {xs:List (Nat×V)}:v.cells.size=x.cells.length→(∀(j:Nat) u y,v.cells[j]? =some u→x.cells[j]? =some y→aj P w I β hp u y)→
   Ck P w I β hp vs xs→Ck P w I β hp ((i,v)::vs) ((i,x)::xs)
theorem YM (place:Nat→Option (Nat×Nat)): ∀{vs:List (Nat×Value)} {px:List (Nat×V)} {cells:Array Value} {xs ys:List V},Ck P w I β hp vs px→cells.size=xs.length→
  (∀(j:Nat) v x,cells[j]? =some v→xs[j]? =some x→aj P w I β hp v x)→yD place xs px=some ys→
  ∃ua:Array Value,Instr.fill place cells vs=some ua∧ua.size=ys.length∧∀(j:Nat) v x,ua[j]? =some v→ys[j]? =some x→aj P w I β hp v x
 | _,_,cells,xs,ys,.nil,hs,hx,h=>by
  simp only[yD,fb] at h;subst h;exact ⟨cells,by simp[Instr.fill],hs,hx⟩
 | _,_,cells,xs,ys,@Ck.cons _ _ _ _ _ i v x vs px h1 h2 h3,hs,hx,h=>by
  simp only[yD] at h;cases eB:place i with
  | none=>grind
  | some os=>
   obtain ⟨off,size⟩:=os;rw[eB] at h;simp only at h;cases hc:(Nat.beq x.cells.length size&&Nat.ble (off+size) xs.length) with
   | false=>grind
   | true=>
    rw[hc] at h;simp only[cond_true] at h;simp only[aJ,aL,gp] at hc;have hv:off+v.cells.size≤cells.size:=by omega
    have hb:off+x.cells.length≤xs.length:=by omega
    have hl:(jr xs off x.cells).length=xs.length:=EX _ _ _ hb;obtain ⟨ua,f1,f2,f3⟩:=YM place (cells:=v.cells.zipIdx.foldl (fun cs (p:Value×Nat)=>cs.setIfInBounds (off+p.2) p.1) cells) (xs:=jr xs off x.cells) h3 (by rw[YL,hl,hs])
     (fun j u y hu hy=>by
      rw[YK hv] at hu;unfold jr at hy;grind) h
    refine ⟨ua,?_,f2,f3⟩;simp only[Instr.fill,eB];grind
theorem ajK {t:TypeId} {parts:Array (Nat×Value)} {cells:Array Value} {z:Value} {i:TypeInfo} (hi:P.info? t=some i) (hz:i.zero=some z) (h:Instr.fill (placeOf P t) z.cells parts.toList=some cells) (ha:bZ P t=true)
  (eB: ∀fs,P.underlying t=some (.struct fs)→(fs.toList.mapM fun f=>(P.info? f.type).map fun i=>(f.offset,i.size)).isSome=true) (vM: ∀n e,P.underlying t=some (.array n e)→(P.info? e).isSome=true):
  (Instr.build t parts).run P w= .ok (.agg cells) w:=by
 refine run_build w t parts cells ?_;unfold Program.built;unfold bZ at ha;rw[hi];split at ha
 ·rename_i fs hu;have:=eB fs hu;cases hm:fs.toList.mapM fun f=>(P.info? f.type).map fun i=>(f.offset,i.size) with
  | none=>grind
  | some places=>
   simp only[hu,hz,hm];have hq:placeOf P t=fun i=>places[i]? :=by simp[placeOf,hu,hm]
   simp_all
 ·rename_i n e hu;have:=vM n e hu;cases nB:P.info? e with
  | none=>grind
  | some ie=>
   simp only[hu,hz,nB];have hq:placeOf P t=fun i=>some (i*ie.size,ie.size):=by simp[placeOf,hu,nB]
   grind
 ·cases ha
theorem YN {α:Type}: ∀(xs ys:List V) (k:Rd α),pd (xs++ys) k=pd xs (pd ys k)
 | [],_,_=>rfl
 | x::xs,ys,k=>by simp only[List.cons_append,pd,YN xs ys k]
theorem YO {a:Act} {sl:Nat→V} (hs:oc P w I β hp a sl) {G:Nat→V} (hg:jR P G w I) (t:TypeId) {α:Type}: ∀{l:List (Nat×Operand)} {k:Rd α} {r:α} {rd:List Nat},
  (pd ((l.map fun p=>(aS P G t sl p.2).cells).flatten) k).run C hp=some (r,rd)→
  Ck P w I β hp (l.map fun p=>(p.1,a.eval p.2)) (l.map fun p=>(p.1,aS P G t sl p.2))∧∃gK,k.run C hp=some (r,gK)
 | [],k,r,rd,h=>⟨.nil,rd,h⟩
 | (i,x)::l,k,r,rd,h=>by
  simp only[lb,List.flatten_cons,YN] at h;obtain ⟨e1,e2⟩:=P4 (hs.ev hg t x) h;obtain ⟨_,l1,h⟩:=Kh h (vs:=(a.eval x).cells.toList) (by omega) (fun j u y a b=>e2 j u y (by grind) b);obtain ⟨h1,h2⟩:=YO hs hg t h;exact ⟨.cons e1 e2 h1,h2⟩
theorem ajL (S:az P w I β hp B M w0) {a:Act} {sl:Nat→V} (hs:oc P w I β hp a sl) {G:Nat→V} (hg:jR P G w I) {t ty:TypeId} {ps:Array (Nat×Operand)} {r:R} {rd:List Nat}
  (h:(Rd.ay (cZ P t&&(bZ P t&&JU P t)) (pd ((ps.toList.map fun p=>(aS P G ty sl p.2).cells).flatten)
   (BA (yD (placeOf P t) (zeroCells P t) (ps.toList.map fun p=>(p.1,aS P G ty sl p.2))) fun cs=> .ret ⟨.agg cs,[]⟩))).run C hp=some (r,rd)):
  dk P ((Instr.build t (ps.map fun (i,x)=>(i,a.eval x))).run P w) w I β hp B M w0 r:=by
 obtain ⟨aq,h⟩:=aD h;simp only[aJ] at aq;obtain ⟨h1,l,h⟩:=YO hs hg ty h;cases hf:yD (placeOf P t) (zeroCells P t) (ps.toList.map fun p=>(p.1,aS P G ty sl p.2)) with
 | none=>rw[hf] at h;cases h
 | some cs=>
  rw[hf] at h;obtain rfl:=aN h;obtain ⟨i,z,hi,hz,h3,h4,h5⟩:=YG (w:=w) (I:=I) (β:=β) (hp:=hp) aq.1;obtain ⟨cells,f1,f2,f3⟩:=YM (placeOf P t) h1 h3 h5 hf;have YP:=aq.2.2;refine .same S (v:= .agg cells) (ajK hi hz (by simp_all) aq.2.1 (fun fs hu=> ?_) (fun n e hu=> ?_)) (.agg f2 f3)
  ·simpa[JU,hu] using YP
  ·simpa[JU,hu] using YP
theorem ajM (cN: ∀id blk,hp id=some blk→eW P w I β hp (β id) blk) {x:V} {v:Value} {ys:List V} {fr:List (Nat×ah)} {rd:List Nat} {ts:List TypeId} (hv:aj P w I β hp v x)
  (h:(w7 P x.cells).run C hp=some ((ys,fr),rd)) (ht:u5 P ts ys=true):
  v.cells.size=x.cells.length∧∀(j:Nat) u y,v.cells.toList[j]? =some u→x.cells[j]? =some y→aj P w I β hp u y:=by
 cases x with
 | agg xs=>
  obtain ⟨cs,rfl,h1,h2⟩:=hv.np;exact ⟨h1,fun j u y a b=>h2 j u y (by simpa[Value.cells] using a) b⟩
 | _=>
  simp only[V.cells] at h⊢;simp only[w7] at h;obtain ⟨⟨y1,u1⟩,l3,l4,hq,h⟩:=oe h;obtain ⟨q1,q2⟩:=EN cN hq hv;obtain ⟨⟨y2,u2⟩,l5,l6,vL,h⟩:=oe h;cases vL;have:=aN h;cases this;obtain ⟨tl,tg⟩:=yV ht;have eX:=tg 0 _ y1 (bU (by grind)) rfl;have eB:=q2 (jS P w I β hp u1) (fun _ _ h=> .inl h) (fun p hp b j h=> .inr ⟨p,hp,h⟩);have ho:=eB.pure eX;have YC:v.cells= #[v]:=by cases ho<;>rfl
  grind
def Cl (P:Program) (w:World) (I:Nat→Nat→Prop) (e:TypeId) (cells:Array Value) (es:List V):Prop:=
 cells.size=es.length*P.cellsOf e∧∀(i j:Nat) (x:V) (t':TypeId),es[i]? =some x→(aT P e)[j]? =some t'→j<P.cellsOf e→∃v,cells[i*P.cellsOf e+j]? =some v∧Pure P w I t' v (ca P e x j)
theorem Cl.set {e:TypeId} {cells:Array Value} {es ys:List V} {i:Nat} {v:Value} (h:Cl P w I e cells es) (hi:i<es.length) (hv:v.cells.size=P.cellsOf e) (hy:ys.length=P.cellsOf e)
  (hr: ∀(j:Nat) (t':TypeId) (u:Value) (y:V),(aT P e)[j]? =some t'→v.cells[j]? =some u→ys[j]? =some y→Pure P w I t' u y):
  Cl P w I e (v.cells.zipIdx.foldl (fun cs (p:Value×Nat)=>cs.setIfInBounds (i*P.cellsOf e+p.2) p.1) cells) (es.set i (dz P e ys)):=by
 obtain ⟨h1,h2⟩:=h;have hb:i*P.cellsOf e+v.cells.size≤cells.size:=by
  have:(i+1)*P.cellsOf e≤es.length*P.cellsOf e:=fa _ hi;grind
 refine ⟨by rw[YL,oG,h1],fun i' j x t' hx ht hj=> ?_⟩;rw[YK hb];rw[Eb] at hx;by_cases nA:i=i'
 ·subst nA;rw[aB rfl,aB hi] at hx;cases hx;rw[dh,da,show i*P.cellsOf e+j-i*P.cellsOf e=j by omega];have h3:j<v.cells.size:=by omega
  have h4:j<ys.length:=by omega
  refine ⟨v.cells[j],la h3,?_⟩;rw[vw (bU h4) ht];exact hr j t' _ _ ht (la h3) (bU h4)
 ·rw[aC nA] at hx;have bN:i'*P.cellsOf e+j<i*P.cellsOf e∨i*P.cellsOf e+v.cells.size≤i'*P.cellsOf e+j:=by
   rcases jq i' i with aZ|qA
   ·left;have:(i'+1)*P.cellsOf e≤i*P.cellsOf e:=fa _ aZ;grind
   ·right;have:(i+1)*P.cellsOf e≤i'*P.cellsOf e:=fa _ (by omega);grind
  grind
theorem YQ {t':TypeId} {v:Value} (eX:fN P t' (qk (rm P t' v))=true):Pure P w I t' v (qk (rm P t' v)):=by
 have hc:=aj.const (P:=P) (w:=w) (I:=I) (β:=fun _=>none) (hp:=fun _=>none) t' v;cases zo:rm P t' v<;>rw[zo] at eX hc<;>simp only[qk] at eX⊢
 case int k n=>rw[hc.fQ];exact Plain.pure (v:= .int k n) (y:= .int k n) rfl eX
 case bool b=>rw[hc.nn];exact Plain.pure (v:= .bool b) (y:= .bool b) rfl eX
 case str l=>obtain ⟨s,e1,e2⟩:=hc.oJ;rw[e1];exact Plain.pure (v:= .string s) (y:= .str l) ⟨s,rfl,e2⟩ eX
 case nilS e'=>
  cases hc;exact Plain.pure (y:= .list e' []) (ko.any fun _=>rfl) eX
 case list e' es=>
  cases hc with
  | list hp=>exact Plain.pure (y:= .list e' es) hp eX
 all_goals (unfold fN at eX;grind)
theorem YR {t':TypeId} {v:Value} (eX:fN P t' (qk (rm P t' v))=true): ∀a n c,v= .slice a n c→c=0:=by
 intro a n c hv;subst hv;unfold rm at eX;split at eX<;>first|(rename_i h;cases h;rfl)|skip
 all_goals first|(simp_all;done)|(unfold fN qk at eX;split at eX<;>simp_all)
theorem FF {e:TypeId} (h:pb P e=true): ∃i z,P.info? e=some i∧i.zero=some z∧i.size=P.cellsOf e∧z.cells.size=P.cellsOf e∧
  ∀(j:Nat) (t':TypeId),(aT P e)[j]? =some t'→j<P.cellsOf e→∃v,z.cells[j]? =some v∧Pure P w I t' v (ca P e (dz P e (jc P e)) j)∧∀a n c,v= .slice a n c→c=0:=by
 unfold pb at h;simp only[aJ] at h;obtain ⟨i,z,h1,h2,h3,h4,h5⟩:=kL h.1;refine ⟨i,z,h1,h2,h3,h4,fun j t' ht hj=> ?_⟩;obtain ⟨tl,tg⟩:=yV h.2;have dm:j<(jc P e).length:=by rw[←tl,(oI h.1).1];exact hj
 have hz:=bU dm;have eX:=tg j t' _ (by rw[←sB];exact ht) hz;refine ⟨z.cells[j],la (by omega),?_⟩;rw[vw hz ht];have zp:(jc P e)[j]=qk (rm P t' z.cells[j]):=by
  have:(jc P e)[j]? =((zeroCells P e)[j]?).map qk:=by simp[jc]
  rw[hz] at this;cases hc:(zeroCells P e)[j]? with
  | none=>grind
  | some y=>
   rw[hc] at this;simp only[Option.map_some,fb] at this;rw[h5] at hc;obtain ⟨t2,v2,a1,a2,rfl⟩:=K6 hc;have K7:t2=t':=by
    rw[←sB,ht] at a1;grind
   grind
 rw[zp] at eX⊢;exact ⟨YQ eX,YR eX⟩
end
section
variable {P:Program} {w w':World} {I I':Nat→Nat→Prop} {β β':Nat→Option Nat} {hp hp':Nat→Option ah} {C:af} {B:Nat} {M:Nat→Prop} {w0:Start}
theorem YS (S:az P w I β hp B M w0) {nb cap:Nat} {fz:Bool} {e T:TypeId} {es:List V} {C0:Array Value} (aq:cZ P e=true) (hn:hp nb=none) (hs:C0.size=cap*P.cellsOf e) (hl:es.length≤cap) (hm:cap≤maxLen) (hL:su P T e C0.size)
  (hx: ∀(i j:Nat) (x:V) (t':TypeId),es[i]? =some x→(aT P e)[j]? =some t'→j<P.cellsOf e→∃v,C0[i*P.cellsOf e+j]? =some v∧Pure P w I t' v (ca P e x j)):
  Le P w I β hp (w.alloc (.cells C0 T)) I (ao β nb (some w.heap.size)) (ao hp nb (some (.arr e es fz)))∧az P (w.alloc (.cells C0 T)) I (ao β nb (some w.heap.size)) (ao hp nb (some (.arr e es fz))) B M w0∧
  aj P (w.alloc (.cells C0 T)) I (ao β nb (some w.heap.size)) (ao hp nb (some (.arr e es fz))) (.slice (some ⟨w.heap.size,0,none⟩) es.length cap) (.whole e nb):=by
 obtain ⟨h1,h2⟩:=PW S (blk:= .arr e es fz) (c:=C0) (T:=T) hn (fun b' h=>(dL (h.flat (by simp))).symm) (fun hle dG dj=> .arr hL aq rfl dG (by rw[hs];exact fa _ hl) (fun _ j h=>absurd h (dj j)) (fun _=>dj) fun i j x t' a b c=>by
  obtain ⟨v,hv,hp⟩:=hx i j x t' a b c;exact ⟨v,hv,hp.mono hle.eg hle.cI⟩)
 refine ⟨h1,h2,.whole (bH _ _ _) (bH _ _ _) ?_ hl hm⟩;rw[lr (heap_alloc_new w (.cells C0 T)),hs]
theorem Cm (S:az P w I β hp B M w0) {nb cap:Nat} {fz:Bool} {e:TypeId} {es:List V} {C0:Array Value} (aq:cZ P e=true) (hn:hp nb=none) (hs:C0.size=cap*P.cellsOf e) (hl:es.length≤cap) (hm:cap≤maxLen)
  (hx: ∀(i j:Nat) (x:V) (t':TypeId),es[i]? =some x→(aT P e)[j]? =some t'→j<P.cellsOf e→∃v,C0[i*P.cellsOf e+j]? =some v∧Pure P w I t' v (ca P e x j)):
  Le P w I β hp (w.alloc (.cells C0 e)) I (ao β nb (some w.heap.size)) (ao hp nb (some (.arr e es fz)))∧az P (w.alloc (.cells C0 e)) I (ao β nb (some w.heap.size)) (ao hp nb (some (.arr e es fz))) B M w0∧
  aj P (w.alloc (.cells C0 e)) I (ao β nb (some w.heap.size)) (ao hp nb (some (.arr e es fz))) (.slice (some ⟨w.heap.size,0,none⟩) es.length cap) (.whole e nb):=
 YS S aq hn hs hl hm su.self hx
theorem YT {b n:Nat} {Ca C':Array Value} {T T':TypeId} {f f':Nat×Nat} (hh:w.heap[b]? =some (.cells Ca T f)) (yN:w'.heap[b]? =some (.cells C' T' f')) (hI: ∀j,I b j→j<n) (hp: ∀j,j<n→C'[j]? =Ca[j]?) (j:Nat) (h:I b j):
  w'.cell? ⟨b,j,none⟩=w.cell? ⟨b,j,none⟩:=by
 rw[cell?_cells hh,cell?_cells yN];grind
theorem QS {b n:Nat} {fz:Bool} (hf:fz=true→∀j,I b j→j<n) (fH:fz=false→∀j,¬I b j): ∀j,I b j→j<n:=by
 intro j h;cases fz with
 | true=>grind
 | false=>grind
theorem At.only {b b':Nat} {e e' T:TypeId} {es aK:List V} {q:Path} {Ca:Array Value} {f:Nat×Nat} (hh:w.heap[b]? =some (.cells Ca T f)) (hz: ∀(i j:Nat) x t' v,es[i]? =some x→(aT P e)[j]? =some t'→Ca[i*P.cellsOf e+j]? =some v→∀a n c,v= .slice a n c→c=0)
  (h:At P w b e es q b' e' aK):q=[]∧b'=b∧e'=e∧aK=es:=by
 cases h with
 | here=>grind
 | step h1 h2 h3 h4 h5 h6 h7=>grind
theorem py.tN {t:TypeId} {v:Value} {x:V} (h:Pure P w I t v x) (hc: ∀a n c,v= .slice a n c→c=0):py P w I t v x:=by
 cases h with
 | int h=>exact .gu (by unfold dU;rw[h]) (.int h)
 | bool h=>exact .gu (by unfold dU;rw[h]) (.bool h)
 | str h hl=>exact .gu (by unfold dU;rw[h]) (.str h hl)
 | nil h=>exact .emp h
 | emp h=>have:=hc _ _ _ rfl;subst this;exact .emp h
 | list g hu hl hle _ _ _=>
  have:=hc _ _ _ rfl;subst this;obtain rfl:=wU.1 hle;obtain rfl:=wP.1 hl;exact .emp hu
theorem YU (S:az P w I β hp B M w0) {nb cap:Nat} {e T:TypeId} {es:List V} {C0:Array Value} (aq:cZ P e=true) (hn:hp nb=none) (hs:C0.size=cap*P.cellsOf e) (hl:es.length≤cap) (hm:cap≤maxLen) (hL:su P T e C0.size)
  (hx: ∀(i j:Nat) (x:V) (t':TypeId),es[i]? =some x→(aT P e)[j]? =some t'→j<P.cellsOf e→∃v,C0[i*P.cellsOf e+j]? =some v∧Pure P w I t' v (ca P e x j)∧∀a n c,v= .slice a n c→c=0):
  Le P w I β hp (w.alloc (.cells C0 T)) I (ao β nb (some w.heap.size)) (ao hp nb (some (.nest e es [0,0,0])))∧az P (w.alloc (.cells C0 T)) I (ao β nb (some w.heap.size)) (ao hp nb (some (.nest e es [0,0,0]))) B M w0∧
  aj P (w.alloc (.cells C0 T)) I (ao β nb (some w.heap.size)) (ao hp nb (some (.nest e es [0,0,0]))) (.slice (some ⟨w.heap.size,0,none⟩) es.length cap) (.whole e nb):=by
 have hz: ∀(i j:Nat) x t' v,es[i]? =some x→(aT P e)[j]? =some t'→C0[i*P.cellsOf e+j]? =some v→∀a n c,v= .slice a n c→c=0:=fun i j x t' v a b h=>by
  obtain ⟨v',h1,_,h3⟩:=hx i j x t' a b (by rw[←fB aq];grind);grind
 obtain ⟨h1,h2⟩:=PW S (blk:= .nest e es [0,0,0]) (c:=C0) (T:=T) hn (fun b' h=>by
   cases h with
   | root _ h=>grind
   | row h ha=>cases h;exact (At.only (heap_alloc_new w _) hz ha).2.1)
  (fun hle dG dj=> .nest rfl (fun q b' e' aK ha=>by
   obtain ⟨rfl,rfl,rfl,rfl⟩:=At.only dG hz ha;refine ⟨aq,⟨C0,_,dG,hL,by rw[hs];exact fa _ hl,fun i j x t' a b c=> ?_⟩,dj⟩;obtain ⟨v,hv,hp⟩:=hx i j x t' a b c;exact ⟨v,hv,.tN (hp.1.mono hle.eg hle.cI) hp.2⟩)
   fun q1 q2 b' e1 di e2 bV a1 a2=>(At.only dG hz a1).1.trans (At.only dG hz a2).1.symm)
 refine ⟨h1,h2,.dM (bH _ _ _) (bH _ _ _) ?_ hl hm⟩;rw[lr (heap_alloc_new w (.cells C0 T)),hs]
theorem ajN (S:az P w I β hp B M w0) {nb cap:Nat} {e:TypeId} {es:List V} {C0:Array Value} (aq:cZ P e=true) (hn:hp nb=none) (hs:C0.size=cap*P.cellsOf e) (hl:es.length≤cap) (hm:cap≤maxLen)
  (hx: ∀(i j:Nat) (x:V) (t':TypeId),es[i]? =some x→(aT P e)[j]? =some t'→j<P.cellsOf e→∃v,C0[i*P.cellsOf e+j]? =some v∧Pure P w I t' v (ca P e x j)∧∀a n c,v= .slice a n c→c=0):
  Le P w I β hp (w.alloc (.cells C0 e)) I (ao β nb (some w.heap.size)) (ao hp nb (some (.nest e es [0,0,0])))∧az P (w.alloc (.cells C0 e)) I (ao β nb (some w.heap.size)) (ao hp nb (some (.nest e es [0,0,0]))) B M w0∧
  aj P (w.alloc (.cells C0 e)) I (ao β nb (some w.heap.size)) (ao hp nb (some (.nest e es [0,0,0]))) (.slice (some ⟨w.heap.size,0,none⟩) es.length cap) (.whole e nb):=
 YU S aq hn hs hl hm su.self hx
theorem ajO (S:az P w I β hp B M w0) {e:TypeId} {nb:Nat} {r:R} {rd:List Nat} (h:(Pp P nb e).run C hp=some (r,rd)):dk P ((Instr.alloc e true (.tuple #[])).run P w) w I β hp B M w0 r:=by
 unfold Pp at h;split at h
 ·rename_i n e1 hu;obtain ⟨hc,h1⟩:=aD h;clear h;simp only[aJ,aL,gp,mZ,gU] at hc;obtain ⟨aq,oP,oQ,hn,hm,gZ,eX,YV⟩:=hc;obtain ⟨Cn,rfl⟩:=mM h1;obtain ⟨i,z,hi,hz,h3,h4,h5⟩:=kL aq;have kJ:aT P e1=[e1]:=by simp[aT,oQ]
  have hk:P.cellsOf e1=1:=by rw[←fB oP,kJ];rfl
  have hlen:((zeroCells P e).map qk).length≤n:=by
   rw[h5,cY,←hn,←h4];have go: ∀(ts:List TypeId) (vs:List Value),(jZ P ts vs).length≤vs.length:=by
    intro ts
    induction ts with
    | nil=>intro vs;simp[jZ]
    | cons t ts ih=>intro vs;cases vs with
     | nil=>simp[jZ]
     | cons v vs=>simpa[jZ] using ih vs
   grind
  have hx: ∀(i j:Nat) (x:V) (t':TypeId),((zeroCells P e).map qk)[i]? =some x→(aT P e1)[j]? =some t'→j<P.cellsOf e1→∃v,z.cells[i*P.cellsOf e1+j]? =some v∧Pure P w I t' v (ca P e1 x j)∧∀a n c,v= .slice a n c→c=0:=by
   intro i j x t' hx ht hj;rw[hk] at hj⊢;obtain rfl:j=0:=by omega
   rw[kJ] at ht;simp only[List.getElem?_cons_zero,fb] at ht;subst ht;have K8:=gU.1 eX x (my hx);rw[ld] at hx;cases hc:(zeroCells P e)[i]? with
   | none=>grind
   | some y=>
    rw[hc] at hx;cases hx;rw[h5] at hc;obtain ⟨t2,v2,a1,a2,rfl⟩:=K6 hc;have K7:e1=t2:=by simpa using gZ t2 (my a1)
    subst K7;simp only[ca,oQ,cond_false];exact ⟨v2,by grind,YQ K8,YR K8⟩
  have hL:su P e e1 z.cells.size:=fun hb _ k sM=>by
   grind
  have cK:(Instr.alloc e true (.tuple #[])).run P w= .ok (.pointer (some ⟨w.heap.size,0,none⟩)) (w.alloc (.cells z.cells e)):=by
   simp[Instr.alloc,zeroValue,typeInfo,hi,hz,newVar,newRow]
  have hs:z.cells.size=n*P.cellsOf e1:=by grind
  cases dU P e1 with
  | true=>
   obtain ⟨a,b,_⟩:=YS S (nb:=nb) (fz:=false) oP Cn hs hlen hm hL fun i j x t' p q r=>(hx i j x t' p q r).imp fun _ h=>⟨h.1,h.2.1⟩
   refine ⟨_,_,_,_,cK,a,b,?_⟩;have:=aj.ptr (P:=P) (w:=w.alloc (.cells z.cells e)) (I:=I) (β:=ao β nb (some w.heap.size)) (hp:=ao hp nb (some (.arr e1 ((zeroCells P e).map qk) false))) (i:=0) (c:=0) (bH _ _ _) (by simp) (bH _ _ _);rw[Nat.zero_mul] at this;exact this
  | false=>
   obtain ⟨a,b,_⟩:=YU S (nb:=nb) oP Cn hs hlen hm hL hx;refine ⟨_,_,_,_,cK,a,b,?_⟩;have:=aj.ptr (P:=P) (w:=w.alloc (.cells z.cells e)) (I:=I) (β:=ao β nb (some w.heap.size)) (hp:=ao hp nb (some (.nest e1 ((zeroCells P e).map qk) [0,0,0]))) (i:=0) (c:=0) (bH _ _ _) (by simp) (bH _ _ _);rw[Nat.zero_mul] at this;exact this
 ·cases h
theorem YW (cN: ∀id blk,hp id=some blk→eW P w I β hp (β id) blk) {a:Act} {sl:Nat→V} (hs:oc P w I β hp a sl) {G:Nat→V} (hg:jR P G w I) {e:TypeId} {len:Nat}: ∀{l:List (Nat×Operand)} {ps:List (Nat×V)} {upd:List (Nat×ah)} {rd:List Nat},
  (Eo P e len (l.map fun p=>(p.1,aS P G e sl p.2))).run C hp=some ((ps,upd),rd)→cZ P e=true→(∀p∈upd,BJ hp p)∧∀I':Nat→Nat→Prop,(∀b j,I b j→I' b j)→(∀p∈upd,∀b j,xk P w β hp p.1 b j→I' b j)→
   ∀(cells:Array Value) (es:List V),es.length=len→Cl P w I' e cells es→∃ua,Instr.fill (fun i=>some (i*P.cellsOf e,P.cellsOf e)) cells (l.map fun p=>(p.1,a.eval p.2))=some ua∧Cl P w I' e ua (En es ps)∧(En es ps).length=len
 | [],ps,upd,rd,h,_=>by
  cases h;exact ⟨by simp,fun I' _ _ cells es hl he=>⟨cells,by simp[Instr.fill],he,hl⟩⟩
 | (i,x)::l,ps,upd,rd,h,aq=>by
  simp only[lb,Eo] at h;obtain ⟨⟨ys,u1⟩,l1,l2,h1,h⟩:=oe h;obtain ⟨hc,h⟩:=aD h;obtain ⟨⟨ps',u2⟩,l3,l4,h2,h⟩:=oe h;have:=aN h;cases this;simp only[aJ,mY] at hc;obtain ⟨hi,eX⟩:=hc;obtain ⟨tl,tg⟩:=yV eX;have qq:=hs.ev hg e x;obtain ⟨v1,v2⟩:=ajM cN qq h1 eX;obtain ⟨k1,k2,k3⟩:=PT cN h1 (vs:=(a.eval x).cells.toList) (by omega) v2;obtain ⟨m1,m2⟩:=YW cN hs hg h2 aq;refine ⟨fun p hp=> ?_,fun I' i1 i2 cells es hl he=> ?_⟩
  ·grind
  ·have eB:=k3 I' i1 (fun p hp=>i2 p (eD.2 (.inl hp)));have bc:=(oI aq).1;have xH:ys.length=P.cellsOf e:=by omega
   have Kk:(a.eval x).cells.size=P.cellsOf e:=by omega
   have Co:=he.set (i:=i) (ys:=ys) (by omega) Kk xH (fun j t' u y ht hu hy=>by
    exact (eB j u y (by grind) hy).pure (tg j t' y (by rw[←sB];exact ht) hy))
   obtain ⟨ua,f1,f2,f3⟩:=m2 I' i1 (fun p hp=>i2 p (eD.2 (.inr hp))) _ (es.set i (dz P e ys)) (by grind) Co;refine ⟨ua,?_,f2,f3⟩;have hb:i*P.cellsOf e+P.cellsOf e≤cells.size:=by
    rw[he.1,hl];have:(i+1)*P.cellsOf e≤len*P.cellsOf e:=fa _ hi;grind
   simp only[lb,Instr.fill];grind
theorem YX {z:Array Value} {n k:Nat} (hk:k<n) (hz:0<z.size):((Array.range n).map (z[· %z.size]!))[k]? =z[k %z.size]? :=by
 have hm:k %z.size<z.size:=yx _ hz;grind
theorem YY {e:TypeId} (h:pb P e=true) {i:TypeInfo} {z:Value} (hi:P.info? e=some i) (hz:i.zero=some z) (n m:Nat) (qj:n≤m):
  ∀(k j:Nat) (x:V) (t':TypeId),(List.replicate n (dz P e (jc P e)))[k]? =some x→(aT P e)[j]? =some t'→j<P.cellsOf e→
   ∃v,((Array.range (m*P.cellsOf e)).map (z.cells[· %z.cells.size]!))[k*P.cellsOf e+j]? =some v∧Pure P w I t' v (ca P e x j)∧∀a n c,v= .slice a n c→c=0:=by
 intro k j x t' hx ht hj;obtain ⟨i2,z2,h1,h2,h3,h4,h5⟩:=FF (w:=w) (I:=I) h;rw[hi] at h1;cases h1;rw[hz] at h2;cases h2;rw[Ec] at hx;split at hx
 ·rename_i hk;cases hx;obtain ⟨v,hv,hp⟩:=h5 j t' ht hj;refine ⟨v,?_,hp⟩;have hb:k*P.cellsOf e+j<m*P.cellsOf e:=by
   have:(k+1)*P.cellsOf e≤m*P.cellsOf e:=fa _ (by omega);grind
  rw[YX hb (by omega),h4,show (k*P.cellsOf e+j) %P.cellsOf e=j by rw[yz,Nat.mul_add_mod];exact Nat.mod_eq_of_lt hj];exact hv
 ·cases hx
theorem QT {e:TypeId} (h:pb P e=true) {i:TypeInfo} {z:Value} (hi:P.info? e=some i) (hz:i.zero=some z) (n m:Nat) (qj:n≤m):
  ∀(k j:Nat) (x:V) (t':TypeId),(List.replicate n (dz P e (jc P e)))[k]? =some x→(aT P e)[j]? =some t'→j<P.cellsOf e→
   ∃v,((Array.range (m*P.cellsOf e)).map (z.cells[· %z.cells.size]!))[k*P.cellsOf e+j]? =some v∧Pure P w I t' v (ca P e x j):=fun k j x t' a b c=>(YY h hi hz n m qj k j x t' a b c).imp fun _ h=>⟨h.1,h.2.1⟩
theorem QU {P:Program} (w:World) (t e:TypeId) (len:Nat) (parts:Array (Nat×Value)) (cells:Array Value) (ie:TypeInfo) (z:Value)
  (hu:P.underlying t=some (.slice e)) (nB:P.info? e=some ie) (hz:ie.zero=some z) (ajP: ¬len*ie.size>2^24)
  (h:Instr.fill (fun i=>some (i*ie.size,ie.size)) ((Array.range (len*ie.size)).map (z.cells[· %z.cells.size]!)) parts.toList=some cells):
  (Instr.buildSlice t len parts).run P w= .ok (.slice (some ⟨w.heap.size,0,none⟩) len len) (w.alloc (.cells cells e)):=by
 by_cases qj:len*ie.size=0
 ·have h0: ∀g:Nat→Value,(Array.range (len*ie.size)).map g= #[]:=by grind
  have hp: ∀(u:Array Value),(Pure.pure u:Sem (Array Value)).run P w= .ok u w:=fun _=>rfl;rw[h0] at h;simp only[Instr.buildSlice,Sem.run_bind,run_underlying hu,Result.andThen_ok,sizeOf,typeInfo,nB];have h1:(Array.range (len*ie.size)).map (fun _:Nat=>(default:Value))= #[]:=h0 _;have hs: ¬16777216<len*ie.size:=by omega
  simp[nB,hs,qj];simp only[qj] at h1;simp[h1,h,newRow]
 ·exact run_buildSlice w t e len parts cells ie z hu nB hz ajP qj h
theorem YZ (S:az P w I β hp B M w0) {a:Act} {sl:Nat→V} (hs:oc P w I β hp a sl) {G:Nat→V} (hg:jR P G w I) {t e:TypeId} {len nb:Nat} {ps:Array (Nat×Operand)} {r:R} {rd:List Nat} (hu:P.underlying t=some (.slice e))
  (h:(Rd.ay (pb P e&&Nat.ble (len*P.cellsOf e) (2^24)) ((Eo P e len (ps.toList.map fun p=>(p.1,aS P G e sl p.2))).bind fun r=>
    js nb (.arr e (En (List.replicate len (dz P e (jc P e))) r.1) false) (.whole e nb) r.2)).run C hp=some (r,rd)):
  dk P ((Instr.buildSlice t len (ps.map fun (i,x)=>(i,a.eval x))).run P w) w I β hp B M w0 r:=by
 obtain ⟨hc,h⟩:=aD h;simp only[aJ,gp] at hc;obtain ⟨fD,PM⟩:=hc;have aq:cZ P e=true:=by
  unfold pb at fD;grind
 obtain ⟨⟨pv,upd⟩,l1,l2,h1,h⟩:=oe h;obtain ⟨hn,rfl⟩:=mM h;obtain ⟨m1,m2⟩:=YW S.h.rel hs hg h1 aq;obtain ⟨rI,S1⟩:=BN S m1;obtain ⟨i,z,hi,hz,h3,h4,_⟩:=FF (w:=w) (I:=I) fD;have gh:=(oI aq).2;have h0:Cl P w (jS P w I β hp upd) e ((Array.range (len*P.cellsOf e)).map (z.cells[· %z.cells.size]!)) (List.replicate len (dz P e (jc P e))):=
  ⟨by simp,QT fD hi hz len len (aw _)⟩
 obtain ⟨cells,f1,f2,f3⟩:=m2 (jS P w I β hp upd) (fun _ _ h=> .inl h) (fun p hp b j h=> .inr ⟨p,hp,h⟩) _ _ (by simp) h0;have jh:b8 hp upd nb=none:=by
  rcases xl (hp:=hp) (l:=upd) (id:=nb) with h|⟨b',hm,_⟩
  ·grind
  ·obtain ⟨e1,di,_,h5⟩:=m1 _ hm;grind
 have sC:len≤maxLen:=by
  have:len*1≤len*P.cellsOf e:=wV _ gh;simp only[maxLen];omega
 obtain ⟨n1,n2,n3⟩:=Cm S1 (cap:=len) aq jh (by rw[f2.1,f3]) (by omega) sC f2.2;have cK:=QU w t e len (ps.map fun (i,x)=>(i,a.eval x)) cells i z hu hi hz (by grind) (by simp_all);refine ⟨_,_,_,_,cK,rI.trans n1,n2,?_⟩;rw[f3] at n3;exact n3
theorem Y0 (S:az P w I β hp B M w0) {t e:TypeId} {nb:Nat} {kl kc:IntKind} {n m:Int} {r:R} {rd:List Nat} (hu:P.underlying t=some (.slice e))
  (h:(Rd.ay (pb P e&&(decide (0≤n)&&(decide (n≤m)&&Nat.ble (m.toNat*P.bytesOf e) aX)))
    (js nb (.arr e (List.replicate n.toNat (dz P e (jc P e))) false) (.whole e nb) [])).run C hp=some (r,rd)):
  dk P ((Instr.makeSlice t (.int kl n) (.int kc m)).run P w) w I β hp B M w0 r:=by
 obtain ⟨hc,h⟩:=aD h;simp only[aJ,gp,jL] at hc;obtain ⟨fD,h0,qj,ep⟩:=hc;have aq:cZ P e=true:=by
  unfold pb at fD;grind
 obtain ⟨hn,rfl⟩:=mM h;obtain ⟨i,z,hi,hz,h3,h4,_⟩:=FF (w:=w) (I:=I) fD;have oo:P.bytesOf e=i.bytes:=by simp[Program.bytesOf,hi]
 have QV:m≤9223372036854775807:=by
  have h1:m.toNat*1≤m.toNat*P.bytesOf e:=wV _ (yM aq);simp only[aX] at ep;omega
 have cK:=run_make (P:=P) w t e i z hu hi hz kl kc n m h0 qj (by
  rw[oo] at ep;simp only[aX] at ep;grind) QV
 have hlen:(List.replicate n.toNat (dz P e (jc P e))).length=n.toNat:=by simp
 obtain ⟨n1,n2,n3⟩:=Cm S (cap:=m.toNat) (es:=List.replicate n.toNat (dz P e (jc P e))) (C0:=madeCells z.cells (m.toNat*i.size)) aq hn (by rw[size_madeCells,h3]) (by omega) (by simp only[maxLen];omega)
  (by rw[h3];exact QT fD hi hz n.toNat m.toNat (by omega))
 refine ⟨_,_,_,_,cK,n1,n2,?_⟩;rw[hlen] at n3;exact n3
theorem ajQ (S:az P w I β hp B M w0) {t e:TypeId} {nb:Nat} {kl kc:IntKind} {n m:Int} {r:R} {rd:List Nat} (hu:P.underlying t=some (.slice e))
  (h:(Rd.ay (pb P e&&(decide (0≤n)&&(decide (n≤m)&&Nat.ble (m.toNat*P.bytesOf e) aX)))
    (js nb (.nest e (List.replicate n.toNat (dz P e (jc P e))) [0,0,0]) (.whole e nb) [])).run C hp=some (r,rd)):
  dk P ((Instr.makeSlice t (.int kl n) (.int kc m)).run P w) w I β hp B M w0 r:=by
 obtain ⟨hc,h⟩:=aD h;simp only[aJ,gp,jL] at hc;obtain ⟨fD,h0,qj,ep⟩:=hc;have aq:cZ P e=true:=by
  unfold pb at fD;grind
 obtain ⟨hn,rfl⟩:=mM h;obtain ⟨i,z,hi,hz,h3,h4,_⟩:=FF (w:=w) (I:=I) fD;have oo:P.bytesOf e=i.bytes:=by simp[Program.bytesOf,hi]
 have QV:m≤9223372036854775807:=by
  have h1:m.toNat*1≤m.toNat*P.bytesOf e:=wV _ (yM aq);simp only[aX] at ep;omega
 have cK:=run_make (P:=P) w t e i z hu hi hz kl kc n m h0 qj (by
  rw[oo] at ep;simp only[aX] at ep;grind) QV
 have hlen:(List.replicate n.toNat (dz P e (jc P e))).length=n.toNat:=by simp
 obtain ⟨n1,n2,n3⟩:=ajN S (cap:=m.toNat) (es:=List.replicate n.toNat (dz P e (jc P e))) (C0:=madeCells z.cells (m.toNat*i.size)) aq hn (by rw[size_madeCells,h3]) (by omega) (by simp only[maxLen];omega)
  (by rw[h3];exact YY fD hi hz n.toNat m.toNat (by omega))
 refine ⟨_,_,_,_,cK,n1,n2,?_⟩;rw[hlen] at n3;exact n3
theorem Pure.one {t:TypeId} {v:Value} {x:V} (h:Pure P w I t v x):v.oneCell'=true:=by cases h<;>rfl
structure Row (P:Program) (w:World) (I:Nat→Nat→Prop) (e:TypeId) (v:Value) (xs:List V) (a:Addr) (c:Nat) (news:List Value):Prop where
 val:v= .slice (some a) xs.length c
 len:news.length=xs.length*P.cellsOf e
 cell: ∀(j:Nat) u,news[j]? =some u→w.cell? (a.add j)=some u
 el: ∀(i j:Nat) (x:V) (t':TypeId),xs[i]? =some x→(aT P e)[j]? =some t'→j<P.cellsOf e→∃u,news[i*P.cellsOf e+j]? =some u∧Pure P w I t' u (ca P e x j)
theorem Row.one {e:TypeId} {v:Value} {xs:List V} {a:Addr} {c:Nat} {news:List Value} (h:Row P w I e v xs a c news) (aq:cZ P e=true): ∀u∈news,u.oneCell'=true:=by
 intro u hu;obtain ⟨k,hk⟩:=tC hu;have ub:=(cw.1 hk).1;have gh:=(oI aq).2;rw[h.len] at ub;have hi:k/P.cellsOf e<xs.length:=Nat.div_lt_of_lt_mul (by grind);have hj:k %P.cellsOf e<P.cellsOf e:=yx _ gh;have dX:k %P.cellsOf e<(aT P e).length:=by rw[fB aq];exact hj
 obtain ⟨u',lE,hp⟩:=h.el (k/P.cellsOf e) (k %P.cellsOf e) _ _ (bU hi) (bU dX) hj;rw[Nat.div_add_mod'] at lE;rw[hk] at lE;cases lE;exact hp.one
theorem Y1 {e T:TypeId} {es:List V} {b:Nat} {Ca:Array Value} {off len cap o:Nat} (hh:w.heap[b]? =some (.cells Ca T (0,0))) (hs:es.length*P.cellsOf e≤Ca.size)
  (hx: ∀(i j:Nat) (x:V) (t':TypeId),es[i]? =some x→(aT P e)[j]? =some t'→j<P.cellsOf e→∃v,Ca[i*P.cellsOf e+j]? =some v∧Pure P w I t' v (ca P e x j))
  (mG:off+len≤es.length) (ho:0<len→o=off*P.cellsOf e):
  Row P w I e (.slice (some ⟨b,o,none⟩) len cap) ((es.drop off).take len) ⟨b,o,none⟩ cap ((Ca.toList.drop (off*P.cellsOf e)).take (len*P.cellsOf e)):=by
 have hlen:((es.drop off).take len).length=len:=by simp;omega
 have hb:(off+len)*P.cellsOf e≤Ca.size:=mX (fa _ mG) hs;rw[kZ] at hb;refine ⟨by rw[hlen],by grind,fun j u hj=> ?_,fun i j x t' nq ht hj=> ?_⟩
 ·have dm:=(cw.1 hj).1;have ajR:j<len*P.cellsOf e:=by
   grind
  have mH:0<len:=by
   grind
  rw[jo ajR,rj] at hj;rw[oh,cell?_cells hh,ho mH];grind
 ·have hi:i<len:=by grind
  rw[jo hi,rj] at nq;obtain ⟨u,hu,hp⟩:=hx (off+i) j x t' nq ht hj;refine ⟨u,?_,hp⟩;have:i*P.cellsOf e+j<len*P.cellsOf e:=by
   have:(i+1)*P.cellsOf e≤len*P.cellsOf e:=fa _ hi;grind
  grind
theorem FG (cN: ∀id blk,hp id=some blk→eW P w I β hp (β id) blk) {e:TypeId} {v:Value} {x:V} {k:List V→Rd R} {r:R} {rd:List Nat} (aq:cZ P e=true) (hv:aj P w I β hp v x)
  (h:(vb e x k).run C hp=some (r,rd)): ∃xs,(((∃a,v= .slice a 0 0)∧xs=[])∨∃a c news,Row P w I e v xs a c news)∧∃l,(k xs).run C hp=some (r,l):=by
 cases hv with
 | list hp'=>
  obtain ⟨hc,h2⟩:=aD h;clear h;rw[aL] at hc;subst hc;cases hp' with
  | nil=>grind
  | @emp a cap=>exact ⟨[],.inr ⟨a,cap,[],⟨rfl,by simp,fun j u hj=>by simp at hj,fun i j x t' hx _ _=>by simp at hx⟩⟩,rd,h2⟩
  | @list b o len cap es g hl bS hI gF hx=>
   refine ⟨_,.inr ⟨⟨b,o,none⟩,cap,(List.range (len*P.cellsOf e)).map fun k=>g (k/P.cellsOf e) (k %P.cellsOf e),⟨by rw[hl],by grind,fun j u hj=> ?_,fun i j x t' nq ht hj=> ?_⟩⟩,rd,h2⟩
   ·obtain ⟨dm,yT⟩:=cw.1 hj;simp at dm yT;have gh:=(oI aq).2;have hi:j/P.cellsOf e<len:=Nat.div_lt_of_lt_mul (by grind);have dF:j %P.cellsOf e<P.cellsOf e:=yx _ gh;rw[oh,←yT];have:=gF (j/P.cellsOf e) (j %P.cellsOf e) hi dF;rwa [Nat.div_add_mod'] at this
   ·have hi:i<len:=by grind
    have hb:i*P.cellsOf e+j<len*P.cellsOf e:=by
     have:(i+1)*P.cellsOf e≤len*P.cellsOf e:=fa _ hi;grind
    refine ⟨g i j,?_,hx i j x t' nq ht⟩;have e1:(i*P.cellsOf e+j)/P.cellsOf e=i:=by
     rw[yz,Nat.mul_add_div (oI aq).2,Nat.div_eq_of_lt hj,Nat.add_zero]
    have e2:(i*P.cellsOf e+j) %P.cellsOf e=j:=by
     rw[yz,Nat.mul_add_mod];exact Nat.mod_eq_of_lt hj
    grind
 | nl=>cases h
 | nilS=>
  obtain ⟨hc,h⟩:=aD h;grind
 | dS ae hb=>
  obtain ⟨l,h⟩:=run_get h;simp only[ae] at h;obtain ⟨hc,h⟩:=aD h;grind
 | @whole e' id es fz b cap ae hb bc bS hm=>
  obtain ⟨l,h⟩:=run_get h;simp only[ae] at h;obtain ⟨hc,h2⟩:=aD h;clear h;simp only[aJ,aL] at hc;obtain ⟨rfl,_⟩:=hc;have hr:=cN _ _ ae;cases hr with
  | ey av=>grind
  | arr hL P0 av hh hs hf fH hx=>
   rw[hb] at av;cases av;have:=Y1 (cap:=cap) (off:=0) (len:=es.length) (o:=0) hh hs hx (by omega) (fun _=>by simp);grind
 | iX ae hb=>
  obtain ⟨l,h⟩:=run_get h;simp only[ae] at h;obtain ⟨hc,h⟩:=aD h;grind
 | @sub e' id off len es fz b o cap ae hb mG bS ho=>
  obtain ⟨l,h⟩:=run_get h;simp only[ae] at h;obtain ⟨hc,h2⟩:=aD h;clear h;simp only[aJ,aL] at hc;obtain ⟨rfl,_⟩:=hc;have hr:=cN _ _ ae;cases hr with
  | ey av=>grind
  | arr hL P0 av hh hs hf fH hx=>
   rw[hb] at av;cases av;exact ⟨_,.inr ⟨_,_,_,Y1 (cap:=cap) hh hs hx mG ho⟩,l,h2⟩
 | dW ae=>
  obtain ⟨l,h⟩:=run_get h;simp only[ae] at h;cases h
 | jx ae=>
  obtain ⟨l,h⟩:=run_get h;simp only[ae] at h;cases h
 | undef=>cases h
 | int=>cases h
 | bool=>cases h
 | str=>cases h
 | agg=>cases h
 | bd=>cases h
 | eA=>cases h
 | fn=>cases h
 | pref=>cases h
 | mD=>cases h
 | ptr=>cases h
 | mE=>cases h
 | mF=>cases h
 | row=>cases h
 | dE=>cases h
 | eU=>cases h
 | ln=>cases h
 | cG=>cases h
 | eb ae=>
  obtain ⟨l,h⟩:=run_get h;simp only[ae] at h;cases h
 | fA ae=>
  obtain ⟨l,h⟩:=run_get h;simp only[ae] at h;cases h
 | dM ae=>
  obtain ⟨l,h⟩:=run_get h;simp only[ae] at h;cases h
theorem Cp {t ty e:TypeId} {i:TypeInfo} (ht:P.underlying t=some (.slice e)) (hi:P.info? e=some i) (a:Option Addr) (n cap:Nat) (x:Value) (hx: ∃a c,x= .slice a 0 c) (hn:n≤cap):
  (Builtin.append_ #[t,t] ty #[.slice a n cap,x]).run P w= .ok (.slice a n cap) w:=by
 obtain ⟨a',c,rfl⟩:=hx;cases a' with
 | none=>cases a<;>simp[Builtin.append_,run_underlying ht,sizeOf,typeInfo,hi,Builtin.lenOf,Builtin.firstCells,hn,storeCells]
 | some a'=>cases a<;>simp[Builtin.append_,run_underlying ht,sizeOf,typeInfo,hi,Builtin.lenOf,Builtin.firstCells,hn,storeCells,loadCells,loadCellsFrom]
theorem K9 {e:TypeId} {es xs:List V} {n:Nat} {c:List Value} {news:List Value} (hn:es.length=n)
  (h1: ∀(i j:Nat) (x:V) (t':TypeId),es[i]? =some x→(aT P e)[j]? =some t'→j<P.cellsOf e→∃v,c[i*P.cellsOf e+j]? =some v∧Pure P w I t' v (ca P e x j))
  (h2: ∀(i j:Nat) (x:V) (t':TypeId),xs[i]? =some x→(aT P e)[j]? =some t'→j<P.cellsOf e→∃v,news[i*P.cellsOf e+j]? =some v∧Pure P w I t' v (ca P e x j))
  (hb:n*P.cellsOf e≤c.length) (rest:List Value):
  ∀(i j:Nat) (x:V) (t':TypeId),(es++xs)[i]? =some x→(aT P e)[j]? =some t'→j<P.cellsOf e→∃v,(c.take (n*P.cellsOf e)++news++rest)[i*P.cellsOf e+j]? =some v∧Pure P w I t' v (ca P e x j):=by
 intro i j x t' hx ht hj;have hl:(c.take (n*P.cellsOf e)).length=n*P.cellsOf e:=by simp;omega
 by_cases hi:i<n
 ·rw[n0 (by omega)] at hx;obtain ⟨v,hv,hp⟩:=h1 i j x t' hx ht hj;have:i*P.cellsOf e+j<n*P.cellsOf e:=by
   have:(i+1)*P.cellsOf e≤n*P.cellsOf e:=fa _ hi;grind
  grind
 ·rw[o9 (by omega),hn] at hx;obtain ⟨v,hv,hp⟩:=h2 (i-n) j x t' hx ht hj;have uc:i-n<xs.length:=(cw.1 hx).1;have e1:i*P.cellsOf e+j-n*P.cellsOf e=(i-n)*P.cellsOf e+j:=by
   rw[Nat.sub_mul];have:n*P.cellsOf e≤i*P.cellsOf e:=fa _ (by omega);omega
  have h3:(i-n)*P.cellsOf e+j<news.length:=(cw.1 hv).1;refine ⟨v,?_,hp⟩;have h4:n*P.cellsOf e≤i*P.cellsOf e+j:=by
   have:n*P.cellsOf e≤i*P.cellsOf e:=fa _ (by omega);omega
  grind
theorem Pure.drew {t:TypeId} {v:Value} {x:V} (h:Pure P w I t v x):Pure P w.drew I t v x:=Pure.mono (w:=w) (w':=w.drew) (fun _ _ h=>h) (fun _ _ _=>rfl) h
theorem Y2 (w:World) (t ty e:TypeId) (i:TypeInfo) (z:Value) (ht:P.underlying t=some (.slice e)) (hi:P.info? e=some i) (hz:i.zero=some z)
  (a0:Option Addr) (a:Addr) (n c:Nat) (news:List Value) (hl:news.length=n*i.size) (ud: ∀j v,news[j]? =some v→w.cell? (a.add j)=some v)
  (h0:0<n) (FH:(n:Int)≤9223372036854775807) (La:n*i.bytes≤281474976710656):
  (Builtin.append_ #[t,t] ty #[.slice a0 0 0,.slice (some a) n c]).run P w=
   .ok (.slice (some ⟨w.heap.size,0,none⟩) n (grownCap w n 0 e)) (w.drew.alloc (.cells (news.toArray++Builtin.zeroCells z.cells (grownCap w n 0 e-n)) e)):=by
 cases a0 with
 | none=>exact run_append_nil w t ty e i z ht hi hz a n c news hl ud h0 FH La
 | some b=>
  have:=run_append_grow (P:=P) w t ty e i z ht hi hz b 0 0 [] (by simp) (by simp) a n c news hl ud (by omega) (by omega) (by rw[dq,nextslicecap_zero h0];omega);grind
theorem QW (S:az P w I β hp B M w0) {t ty e:TypeId} {nb:Nat} {fz:Bool} {x:Value} {xs:List V} (hu:P.underlying t=some (.slice e)) (aq:cZ P e=true) (hn:hp nb=none)
  (ep:xs.length*P.bytesOf e≤aX) {a0:Option Addr} (hx:((∃a,x= .slice a 0 0)∧xs=[])∨∃a c news,Row P w I e x xs a c news):
  ∃v w' β',(Builtin.append_ #[t,t] ty #[.slice a0 0 0,x]).run P w= .ok v w'∧Le P w I β hp w' I β' (ao hp nb (some (.arr e xs fz)))∧az P w' I β' (ao hp nb (some (.arr e xs fz))) B M w0∧
   aj P w' I β' (ao hp nb (some (.arr e xs fz))) v (.whole e nb):=by
 obtain ⟨i,z,hi,hz,h3,h4,_⟩:=kL aq;have vN:=yM aq;have oo:P.bytesOf e=i.bytes:=by simp[Program.bytesOf,hi]
 have hlen:xs.length≤2^45:=by
  have:xs.length*1≤xs.length*P.bytesOf e:=wV _ vN;simp only[aX] at ep;omega
 have empty:xs=[]→(∃a c,x= .slice a 0 c)→∃v w' β',(Builtin.append_ #[t,t] ty #[.slice a0 0 0,x]).run P w= .ok v w'∧Le P w I β hp w' I β' (ao hp nb (some (.arr e xs fz)))∧az P w' I β' (ao hp nb (some (.arr e xs fz))) B M w0∧
   aj P w' I β' (ao hp nb (some (.arr e xs fz))) v (.whole e nb):=by
  intro jF QX;subst jF;obtain ⟨a1,a2⟩:=EP S e hn;exact ⟨_,_,_,Cp hu hi a0 0 0 x QX (aw _),a1,a2,.dS (bH _ _ _) (bH _ _ _)⟩
 rcases hx with ⟨⟨_,rfl⟩,rfl⟩|⟨a,c,news,hr⟩
 ·simp_all
 ·by_cases h0:xs.length=0
  ·have jF:xs=[]:=o5 h0;refine empty jF ⟨some a,c,?_⟩;rw[hr.val,h0]
  ·have cK:=Y2 (P:=P) w t ty e i z hu hi hz a0 a xs.length c news (by rw[hr.len,h3]) hr.cell (by omega) (by omega) (by rw[←oo];simp only[aX] at ep;omega);have qA:=grownCap_ge w xs.length 0 e;have sQ:grownCap w xs.length 0 e≤maxLen:=grownCap_le_maxLen w xs.length 0 e (by simp only[maxLen];omega);obtain ⟨n1,n2,n3⟩:=Cm S.drew (nb:=nb) (cap:=grownCap w xs.length 0 e) (es:=xs) (C0:=news.toArray++Builtin.zeroCells z.cells (grownCap w xs.length 0 e-xs.length)) aq hn
    (by simp only[Jt,sg,size_zeroCells,h4,hr.len,←kZ];grind) qA sQ
    (fun i' j y t' hy ht hj=>by
     obtain ⟨u,lE,hp⟩:=hr.el i' j y t' hy ht hj;have aZ:=(cw.1 lE).1;refine ⟨u,?_,Pure.drew hp⟩;grind)
   rw[hr.val];exact ⟨_,_,_,cK,(Le.drew w I β hp).trans n1,n2,n3⟩
theorem Y3 {P:Program} (w:World) (t ty e T:TypeId) (i:TypeInfo) (ht:P.underlying t=some (.slice e)) (hi:P.info? e=some i)
  (g mN vO:Nat) (cur:Array Value) (hg:w.heap[g]? =some (.cells cur T (0,0)))
  (a:Addr) (m c:Nat) (news:List Value) (hl:news.length=m*i.size) (ud: ∀j u,news[j]? =some u→w.cell? (a.add j)=some u) (h1: ∀u∈news,u.oneCell'=true)
  (ue:mN+m≤vO) (Cq:mN*i.size+news.length≤cur.size):
  (Builtin.append_ #[t,t] ty #[.slice (some ⟨g,0,none⟩) mN vO,.slice (some a) m c]).run P w=
   .ok (.slice (some ⟨g,0,none⟩) (mN+m) vO) (w.setRow g (cur.toList.take (mN*i.size)++news++cur.toList.drop (mN*i.size+news.length)).toArray):=by
 have hf:=run_firstCells_some (P:=P) w i.size m a m c news hl ud;have dN:=run_storeCells_at P g (mN*i.size) T news 0 cur w hg (by omega) h1;simp only[Nat.add_zero] at dN;simp[Builtin.append_,run_underlying ht,sizeOf,typeInfo,hi,Builtin.lenOf,ue,hf,Addr.add_lit,dN]
theorem Y4 (S:az P w I β hp B M w0) {t ty e:TypeId} {nb id:Nat} {s x:Value} {es xs:List V} {fz:Bool} (hu:P.underlying t=some (.slice e)) (aq:cZ P e=true) (hs:aj P w I β hp s (.whole e id)) (ae:hp id=some (.arr e es fz)) (hn:hp nb=none)
  (ep:Nat.ble ((es.length+xs.length)*P.bytesOf e) aX=true) (nC:((∃a,x= .slice a 0 0)∧xs=[])∨∃a c news,Row P w I e x xs a c news):
  dk P ((Builtin.append_ #[t,t] ty #[s,x]).run P w) w I β hp B M w0 ⟨.whole e nb,[(nb,.arr e (es++xs) fz),(id,.dead)]⟩:=by
 rw[gp] at ep;have bN:nb≠id:=fun e=>by grind
 obtain ⟨k1,k2⟩:=xn S ae;have jh:ao hp id (some ah.dead) nb=none:=by rw[cz _ _ bN];exact hn
 cases hs with
 | dW hd=>grind
 | dM hd=>grind
 | eb hd=>grind
 | fA hd=>grind
 | dS hd hb=>
  rw[ae] at hd;cases hd;simp only[List.length_nil,dq] at ep;have ajS:((∃a,x= .slice a 0 0)∧xs=[])∨∃a c news,Row P w I e x xs a c news:=nC;obtain ⟨v,w',β',a1,a2,a3,a4⟩:=QW (ty:=ty) k2 hu aq jh ep ajS;exact ⟨v,w',I,β',a1,k1.trans a2,a3,a4⟩
 | @whole _ _ aK pk b cap hd hb bc bS hm=>
  rw[ae] at hd;cases hd;have hr:=S.h.rel id _ ae;cases hr with
  | ey av=>grind
  | @arr _ T _ _ b' Ca hL _ av hh xI hf fH xJ=>
   rw[hb] at av;cases av;obtain ⟨i,z,hi,hz,h3,h4,_⟩:=kL aq;have vN:=yM aq;have oo:P.bytesOf e=i.bytes:=by simp[Program.bytesOf,hi]
   have hlen:es.length+xs.length≤2^45:=by
    have:(es.length+xs.length)*1≤(es.length+xs.length)*P.bytesOf e:=wV _ vN;simp only[aX] at ep;omega
   rw[lr hh] at bc;have qp: ∀ar blk',ao hp id (some ah.dead) ar=some blk'→¬bf P w (β ar) blk' b:=by
    intro ar blk' h1 h2;by_cases nA:ar=id
    ·subst nA;rw[bH] at h1;cases h1;exact h2.alive rfl
    ·rw[cz _ _ nA] at h1;exact nA (S.h.inj ar id blk' _ b h1 ae h2 (.root (by simp) hb))
   have FI:=S.h.xj id _ b ae (by simp) hb;have room: ∀(C':Array Value) (w':World) (ys:List V),w'.heap[b]? =some (.cells C' T (0,0))→C'.size=Ca.size→(∀b',b'≠b→w'.heap[b']? =w.heap[b']?)→w.heap.size≤w'.heap.size→(w'.os=w.os∧w'.output=w.output)→ys.length≤cap→es.length≤ys.length→(∀j,j<es.length*P.cellsOf e→C'[j]? =Ca[j]?)→
     (∀(i j:Nat) (y:V) (t':TypeId),ys[i]? =some y→(aT P e)[j]? =some t'→j<P.cellsOf e→∃v,C'[i*P.cellsOf e+j]? =some v∧Pure P w I t' v (ca P e y j))→
     Le P w I β hp w' I (ao β nb (some b)) (ao (ao hp id (some .dead)) nb (some (.arr e ys fz)))∧az P w' I (ao β nb (some b)) (ao (ao hp id (some .dead)) nb (some (.arr e ys fz))) B M w0∧
     aj P w' I (ao β nb (some b)) (ao (ao hp id (some .dead)) nb (some (.arr e ys fz))) (.slice (some ⟨b,0,none⟩) ys.length cap) (.whole e nb):=by
    intro C' w' ys hC pI hw' hwz ajT xH hey rM hy;have hIn:=QS hf fH;obtain ⟨a1,a2⟩:=BQ k2 (blk:= .arr e ys fz) (w':=w') jh qp (YT hh hC hIn rM) (fun b' h _=>hw' b' h) hwz ajT FI
     (fun b' h=>(dL (h.flat (by simp))).symm) (fun hle=> .arr (pI▸hL) aq rfl hC (by rw[pI,←bc];exact fa _ xH) (fun _ j h=>oF (hIn j h) (fa _ hey)) fH fun i j y t' a b c=>by
      obtain ⟨v,hv,hp⟩:=hy i j y t' a b c;exact ⟨v,hv,hp.mono hle.eg hle.cI⟩)
    refine ⟨k1.trans a1,a2,.whole (bH _ _ _) (bH _ _ _) ?_ xH hm⟩;rw[lr hC,pI,bc]
   have same:xs=[]→(∃a c,x= .slice a 0 c)→dk P ((Builtin.append_ #[t,t] ty #[.slice (some ⟨b,0,none⟩) es.length cap,x]).run P w) w I β hp B M w0 ⟨.whole e nb,[(nb,.arr e (es++xs) fz),(id,.dead)]⟩:=by
    intro jF QX;subst jF;rw[uX];obtain ⟨a1,a2,a3⟩:=room Ca w es hh rfl (fun _ _=>rfl) (aw _) ⟨rfl,rfl⟩ bS (aw _) (fun _ _=>rfl) xJ;exact ⟨_,_,_,_,Cp hu hi _ _ _ x QX bS,a1,a2,a3⟩
   rcases nC with ⟨⟨_,rfl⟩,rfl⟩|⟨a,c,news,cS⟩
   ·grind
   ·have h1:=cS.one aq;have rJ:es.length*P.cellsOf e≤Ca.toList.length:=by omega
    by_cases ue:es.length+xs.length≤cap
    ·have Cq:es.length*P.cellsOf e+news.length≤Ca.size:=by rw[cS.len,←kZ,←bc];exact fa _ ue
     have cK:=Y3 (P:=P) w t ty e T i hu hi b es.length cap Ca hh a xs.length c news (by rw[cS.len,h3]) cS.cell h1 ue (by grind);rw[h3] at cK;have fD:=K9 (P:=P) (w:=w) (I:=I) (n:=es.length) (c:=Ca.toList) rfl (fun i j y t' a b c=>by
      grind) cS.el rJ (Ca.toList.drop (es.length*P.cellsOf e+news.length))
     obtain ⟨a1,a2,a3⟩:=room (Ca.toList.take (es.length*P.cellsOf e)++news++Ca.toList.drop (es.length*P.cellsOf e+news.length)).toArray (w.setRow b _) (es++xs)
      (setRow_heap w b Ca _ T _ hh) (by simp;omega) (fun b' av=>setRow_other w b b' _ av) (by simp) ⟨rfl,rfl⟩ (by grind) (by simp) (fun j hj=>by
        grind)
      (fun i j y t' a b c=>by
       grind)
     rw[cS.val];rw[gS] at a3;exact ⟨_,_,_,_,cK,a1,a2,a3⟩
    ·have hold: ∀(j:Nat) v,(Ca.toList.take (es.length*P.cellsOf e))[j]? =some v→w.cell? ((⟨b,0,none⟩:Addr).add j)=some v:=by
      intro j v hj;have dm:=(cw.1 hj).1;have dF:j<es.length*P.cellsOf e:=by grind
      rw[jo dF] at hj;rw[oh,cell?_cells hh,dq];grind
     have cK:=run_append_grow (P:=P) w t ty e i z hu hi hz ⟨b,0,none⟩ es.length cap (Ca.toList.take (es.length*P.cellsOf e)) (by grind) hold a xs.length c news (by rw[cS.len,h3]) cS.cell (by omega) (by omega)
      (growslice_fits (by omega) (by rw[←oo];simp only[aX] at ep;omega))
     have qA:=grownCap_ge w (es.length+xs.length) cap e;have sQ:grownCap w (es.length+xs.length) cap e≤maxLen:=grownCap_le_maxLen w _ cap e (by simp only[maxLen];omega);have fD:=K9 (P:=P) (w:=w) (I:=I) (n:=es.length) (c:=Ca.toList) rfl (fun i j y t' a b c=>by
      grind) cS.el rJ (Builtin.zeroCells z.cells (grownCap w (es.length+xs.length) cap e-(es.length+xs.length))).toList
     obtain ⟨n1,n2,n3⟩:=Cm k2.drew (nb:=nb) (cap:=grownCap w (es.length+xs.length) cap e) (es:=es++xs)
      (C0:=(Ca.toList.take (es.length*P.cellsOf e)).toArray++news.toArray++Builtin.zeroCells z.cells (grownCap w (es.length+xs.length) cap e-(es.length+xs.length))) aq jh
      (by
       have e1:(Ca.toList.take (es.length*P.cellsOf e)).length=es.length*P.cellsOf e:=by simp;omega
       simp only[Jt,sg,size_zeroCells,h4,cS.len,e1,←kZ];grind) (by grind) sQ
      (fun i j y t' a b c=>by
       obtain ⟨v,hv,hp⟩:=fD i j y t' a b c;refine ⟨v,?_,Pure.drew hp⟩;grind)
     rw[cS.val];rw[gS] at n3;exact ⟨_,_,_,_,cK,(k1.trans (Le.drew w I β _)).trans n1,n2,n3⟩
theorem ajU (S:az P w I β hp B M w0) {t ty e:TypeId} {nb:Nat} {s x:Value} {sv xv:V} {r:R} {rd:List Nat} (hu:P.underlying t=some (.slice e)) (hs:aj P w I β hp s sv) (hx:aj P w I β hp x xv)
  (h:(Bz P nb e sv xv).run C hp=some (r,rd)):dk P ((Builtin.append_ #[t,t] ty #[s,x]).run P w) w I β hp B M w0 r:=by
 unfold Bz at h;obtain ⟨aq,h⟩:=aD h;obtain ⟨xs,nC,l0,h⟩:=FG S.h.rel aq hx h;cases sv with
 | nilS e'=>
  obtain ⟨hc,h⟩:=aD h;simp only[aJ,aL,gp] at hc;obtain ⟨hn,rfl⟩:=mM h;obtain ⟨a0,rfl⟩: ∃a0,s= .slice a0 0 0:=by cases hs;grind
  obtain ⟨v,w',β',a1,a2,a3,a4⟩:=QW (ty:=ty) S hu aq hn hc.2 nC;exact ⟨v,w',I,β',a1,a2,a3,a4⟩
 | whole e' id=>
  obtain ⟨l,h⟩:=run_get h;cases ae:hp id with
  | none=>rw[ae] at h;cases h
  | some blk=>
   rw[ae] at h;cases blk with
   | dead=>cases h
   | var _=>cases h
   | nest _ _ _=>cases h
   | map _ _=>cases h
   | out _ _ _ _=>cases h
   | arr dV es fz=>
    obtain ⟨hc,h⟩:=aD h;obtain ⟨hn,rfl⟩:=mM h;simp only[aJ,aL,gp] at hc;obtain ⟨QY,QZ,ep⟩:=hc;subst QY;subst QZ;exact Y4 S hu aq hs ae hn (by simp_all) nC
 | _=>cases h
end
section
variable {P:Program} {w w':World} {I I':Nat→Nat→Prop} {β β':Nat→Option Nat} {hp hp':Nat→Option ah} {C:af} {B:Nat} {M:Nat→Prop} {w0:Start}
theorem run_copy_none (w:World) {dT sT ty elem:TypeId} {i:TypeInfo} (a0:Option Addr) (Y5 ajV:Nat) (a1:Option Addr) (mN vO:Nat) (hu:P.underlying dT=some (.slice elem)) (hi:P.info? elem=some i) (h0:Nat.min mN Y5=0):
  (Builtin.copy_ #[dT,sT] ty #[.slice a0 Y5 ajV,.slice a1 mN vO]).run P w= .ok (goInt 0) w:=by
 cases a0<;>cases a1<;>simp[Builtin.copy_,run_underlying hu,Builtin.lenOf,Builtin.firstCells,sizeOf,typeInfo,hi,h0,storeCells,loadCells,loadCellsFrom]
theorem ajW (S:az P w I β hp B M w0) {t u ty e:TypeId} {s x:Value} {sv xv:V} {r:R} {rd:List Nat} (hu:P.underlying t=some (.slice e)) (hs:aj P w I β hp s sv) (hx:aj P w I β hp x xv)
  (h:(Pt P e sv xv).run C hp=some (r,rd)):dk P ((Builtin.copy_ #[t,u] ty #[s,x]).run P w) w I β hp B M w0 r:=by
 unfold Pt at h;obtain ⟨aq,h'⟩:=aD h;clear h;simp only[aJ,aL] at aq;obtain ⟨aq,h1⟩:=aq;obtain ⟨xs,nC,l0,h⟩:=FG S.h.rel aq hx h';obtain ⟨i,z,hi,hz,bc,_⟩:=kL aq;cases sv<;>simp only at h<;>first|(cases h;done)|skip
 rename_i e' id;obtain ⟨l,h2⟩:=run_get h;clear h;cases ae:hp id with
 | none=>rw[ae] at h2;cases h2
 | some blk=>
  rw[ae] at h2;cases blk<;>simp only at h2<;>first|(cases h2;done)|skip
  rename_i e2 es fz;cases fz with
  | true=>cases h2
  | false=>
  obtain ⟨hc,h3⟩:=aD h2;simp only[aJ,aL] at hc;obtain ⟨rfl,rfl⟩:=hc;obtain rfl:=aN h3;have uf:min xs.length es.length=0→(Builtin.copy_ #[t,u] ty #[s,x]).run P w= .ok (goInt 0) w→dk P ((Builtin.copy_ #[t,u] ty #[s,x]).run P w) w I β hp B M w0 ⟨.int .i64 (min xs.length es.length:Nat),[(id,.arr e (xs.take es.length++es.drop xs.length) false)]⟩:=by
   intro h0 hr;have he:xs.take es.length++es.drop xs.length=es:=by
    rcases Nat.le_total xs.length es.length with hl|hl
    ·have:xs=[]:=o5 (by omega);simp[this]
    ·have:es=[]:=o5 (by omega);simp[this]
   have iK:b8 hp [(id,.arr e (xs.take es.length++es.drop xs.length) false)]=hp:=by
    rw[he];exact PD hp id _ ae
   refine ⟨goInt 0,w,I,β,hr,?_⟩;simp only[iK,h0];exact ⟨Le.refl w I β hp,S,.int⟩
  cases hs with
  | dW hd=>rw[ae] at hd;cases hd
  | dM hd=>rw[ae] at hd;cases hd
  | eb hd=>rw[ae] at hd;cases hd
  | fA hd=>rw[ae] at hd;cases hd
  | @dS _ _ fz a hd hb=>
   rw[ae] at hd;cases hd;refine uf (by simp) ?_;rcases nC with ⟨⟨a',rfl⟩,rfl⟩|⟨a',c,news,cS⟩
   ·exact run_copy_none w _ _ _ _ _ _ hu hi (by simp)
   ·rw[cS.val];exact run_copy_none w _ _ _ _ _ _ hu hi (by simp)
  | @whole _ _ aK pk b cap hd hb Cr bS hm=>
   have fO:=hd;rw[ae] at hd;cases hd;rcases nC with ⟨⟨a',rfl⟩,rfl⟩|⟨a',c,news,cS⟩
   ·exact uf (by simp) (run_copy_none w _ _ _ _ _ _ hu hi (by simp))
   have hr:=S.h.rel id _ ae;cases hr with
   | ey av=>rw[av] at hb;cases hb
   | @arr _ T0 _ _ b' Ca hL _ av hh xI hf fH xJ=>
    rw[hb] at av;cases av;have mI:news.length=xs.length:=by rw[cS.len,h1,im]
    rw[h1,im] at xI;have kG:(news.take es.length).length=Nat.min xs.length es.length:=by
     rw[nc,mI,Nat.min_comm]
    have KO:Nat.min xs.length es.length=min xs.length es.length:=rfl;have cK:=run_copy_row (P:=P) w t u ty e b 0 es.length cap a' xs.length c Ca T0 (news.take es.length) hu (by rw[hi];simp[bc,h1]) hh kG
     (fun j v hj=>cS.cell j v (by
      have:=(cw.1 hj).1;rw[nc] at this;rwa [jo (by omega)] at hj)) (by rw[kG,KO];omega) (fun v hv=>cS.one aq v (List.mem_of_mem_take hv))
    rw[cS.val];have hq:(goInt (news.take es.length).length)= .int .i64 ((min xs.length es.length:Nat):Int):=by rw[kG];rfl
    have og:(xs.take es.length++es.drop xs.length).length=es.length:=by simp;omega
    have pI:(Ca.toList.take 0++news.take es.length++Ca.toList.drop (0+(news.take es.length).length)).toArray.size=Ca.size:=by
     simp only[sg,gS,Bl,nc,kG,KO];simp;omega
    obtain ⟨a1,a2⟩:=Kj S (blk':= .arr e (xs.take es.length++es.drop xs.length) false) (Cb:=(Ca.toList.take 0++news.take es.length++Ca.toList.drop (0+(news.take es.length).length)).toArray) ae (by simp) ⟨rfl,og.symm⟩ hb (fH rfl) (by simp) hh pI
     (fun hle dG=> .arr (by rw[pI];exact hL) aq rfl dG (by rw[pI,og,h1,im];exact xI) (fun h=>by cases h) (fun _=>fH rfl) fun i j y t' hy ht hj=>by
      rw[h1] at hj⊢;obtain rfl:j=0:=by omega
      rw[im,Nat.add_zero];have rL:=(cw.1 hy).1;rw[og] at rL;by_cases vP:i<xs.length
      ·rw[n0 (by rw[nc];omega),jo rL] at hy;obtain ⟨u',k1,k2⟩:=cS.el i 0 y t' hy ht (by omega);rw[h1,im,Nat.add_zero] at k1;refine ⟨u',?_,k2.mono hle.eg hle.cI⟩;simp only[List.take_zero,List.nil_append,o6];rw[n0 (by rw[nc];omega),jo rL];exact k1
      ·have e1:(xs.take es.length).length=xs.length:=by rw[nc];omega
       rw[o9 (by omega),e1,rj,show xs.length+(i-xs.length)=i by omega] at hy;obtain ⟨u',k1,k2⟩:=xJ i 0 y t' hy ht (by omega);rw[h1,im,Nat.add_zero] at k1;refine ⟨u',?_,k2.mono hle.eg hle.cI⟩;simp only[List.take_zero,List.nil_append,o6,dq];have e2:(news.take es.length).length=xs.length:=by rw[nc];omega
       rw[o9 (by omega),e2,rj,show xs.length+(i-xs.length)=i by omega];simpa using k1)
    exact ⟨_,_,_,_,cK,a1,a2,by rw[hq];exact .int⟩
theorem ajX (S:az P w I β hp B M w0) {t ty e:TypeId} {x:Value} {xv:V} {r:R} {rd:List Nat} (hu:P.underlying t=some (.slice e)) (hx:aj P w I β hp x xv)
  (h:(Ps P e xv).run C hp=some (r,rd)):dk P ((Builtin.clear_ #[t] ty #[x]).run P w) w I β hp B M w0 r:=by
 unfold Ps at h;obtain ⟨fD,h'⟩:=aD h;clear h;have aq:cZ P e=true:=by
  unfold pb at fD;simp only[aJ] at fD;exact fD.1
 obtain ⟨i,z,hi,hz,bc,FJ,hzp⟩:=FF (w:=w) (I:=I) fD;have gh:=(oI aq).2;cases xv<;>simp only at h'<;>first|(cases h';done)|skip
 rename_i e' id off len;obtain ⟨l,h2⟩:=run_get h';clear h';cases ae:hp id with
 | none=>rw[ae] at h2;cases h2
 | some blk=>
  rw[ae] at h2;cases blk<;>simp only at h2<;>first|(cases h2;done)|skip
  rename_i e2 es fz;cases fz with
  | true=>cases h2
  | false=>
  obtain ⟨hc,h3⟩:=aD h2;simp only[aJ,aL] at hc;obtain ⟨rfl,rfl⟩:=hc;obtain rfl:=aN h3;have uf:len=0→(Builtin.clear_ #[t] ty #[x]).run P w= .ok (.tuple #[]) w→dk P ((Builtin.clear_ #[t] ty #[x]).run P w) w I β hp B M w0 ⟨.bd [],[(id,.arr e (es.take off++(List.replicate len (dz P e (jc P e))++es.drop (off+len))) false)]⟩:=by
   intro h0 hr;subst h0;have iK:b8 hp [(id,.arr e (es.take off++(List.replicate 0 (dz P e (jc P e))++es.drop (off+0))) false)]=hp:=by
    simp only[List.replicate_zero,List.nil_append,Nat.add_zero,List.take_append_drop];exact PD hp id _ ae
   refine ⟨.tuple #[],w,I,β,hr,?_⟩;simp only[iK];exact ⟨Le.refl w I β hp,S,.bd rfl fun j v x hj hx=>by simp at hx⟩
  cases hx with
  | jx hd=>rw[ae] at hd;cases hd
  | @iX _ _ _ a0 hd hb=>exact uf rfl (by cases a0<;>simp[Builtin.clear_,run_underlying hu])
  | @sub _ _ _ _ aK pk b o cap hd hb mG bS ho=>
   by_cases hlen:len=0
   ·refine uf hlen ?_;subst hlen;simp[Builtin.clear_,run_underlying hu]
   have ajY:0<len:=by omega
   have fO:=hd;rw[ae] at hd;cases hd;have hr:=S.h.rel id _ ae;cases hr with
   | ey av=>rw[av] at hb;cases hb
   | @arr _ T0 _ _ b' Ca hL _ av hh xI hf fH xJ=>
    rw[hb] at av;cases av;have ho:=ho ajY;subst ho;have zp:(Builtin.zeroCells z.cells len).toList.length=len*P.cellsOf e:=by rw[Array.length_toList,size_zeroCells,FJ]
    have hmul:off*P.cellsOf e+len*P.cellsOf e≤es.length*P.cellsOf e:=by rw[←kZ];exact fa _ mG
    have qz: ∀v∈(Builtin.zeroCells z.cells len).toList,v.oneCell'=true:=by
     intro v hv;obtain ⟨k,hk⟩:=tC hv;have ub:=(cw.1 hk).1;rw[zp] at ub;have hzg:(Builtin.zeroCells z.cells len)[k]? =z.cells[k %z.cells.size]? :=YX (z:=z.cells) (n:=len*z.cells.size) (by rw[FJ];exact ub) (by rw[FJ];exact gh);rw[sh,hzg] at hk;have hm:k %z.cells.size<P.cellsOf e:=by rw[FJ];exact yx _ gh
     have htl:k %z.cells.size<(aT P e).length:=by rw[fB aq];exact hm
     obtain ⟨v',vJ,hp'⟩:=hzp (k %z.cells.size) _ (bU htl) hm;rw[hk] at vJ;cases vJ;exact hp'.1.one
    have dN:=run_storeCells_at P b (off*P.cellsOf e) T0 (Builtin.zeroCells z.cells len).toList 0 Ca w hh (by rw[zp];omega) qz;simp only[Nat.add_zero] at dN;have cK:(Builtin.clear_ #[t] ty #[.slice (some ⟨b,off*P.cellsOf e,none⟩) len cap]).run P w= .ok (.tuple #[]) (w.setRow b (Ca.toList.take (off*P.cellsOf e)++(Builtin.zeroCells z.cells len).toList++Ca.toList.drop (off*P.cellsOf e+(Builtin.zeroCells z.cells len).toList.length)).toArray):=by
     obtain ⟨n,rfl⟩: ∃n,len=n+1:=⟨len-1,by omega⟩
     simp[Builtin.clear_,run_underlying hu,zeroValue,typeInfo,hi,hz,dN]
    have og:(es.take off++(List.replicate len (dz P e (jc P e))++es.drop (off+len))).length=es.length:=by simp;omega
    have pI:(Ca.toList.take (off*P.cellsOf e)++(Builtin.zeroCells z.cells len).toList++Ca.toList.drop (off*P.cellsOf e+(Builtin.zeroCells z.cells len).toList.length)).toArray.size=Ca.size:=by
     simp only[sg,gS,Bl,nc,zp,Array.length_toList];omega
    obtain ⟨a1,a2⟩:=Kj S (blk':= .arr e (es.take off++(List.replicate len (dz P e (jc P e))++es.drop (off+len))) false) ae (by simp) ⟨rfl,og.symm⟩ hb (fH rfl) (by simp) hh pI
     (fun hle dG=> .arr (by rw[pI];exact hL) aq rfl dG (by rw[pI,og];exact xI) (fun h=>by cases h) (fun _=>fH rfl) fun i' j y t' hy ht hj=>by
      have sR:=rE es (List.replicate len (dz P e (jc P e))) off i' (by simp;omega);rw[wW] at sR;rw[sR] at hy;have hC:(Ca.toList.take (off*P.cellsOf e)++(Builtin.zeroCells z.cells len).toList++Ca.toList.drop (off*P.cellsOf e+(Builtin.zeroCells z.cells len).toList.length)).toArray[i'*P.cellsOf e+j]? =
        if i'*P.cellsOf e+j<off*P.cellsOf e then Ca.toList[i'*P.cellsOf e+j]? else if i'*P.cellsOf e+j<off*P.cellsOf e+len*P.cellsOf e then (Builtin.zeroCells z.cells len).toList[i'*P.cellsOf e+j-off*P.cellsOf e]? else Ca.toList[i'*P.cellsOf e+j]? :=by
       have:=rE Ca.toList (Builtin.zeroCells z.cells len).toList (off*P.cellsOf e) (i'*P.cellsOf e+j) (by rw[zp,Array.length_toList];omega);rw[o6,lf,this,zp]
      by_cases qB:i'<off
      ·rw[aB qB] at hy;have:(i'+1)*P.cellsOf e≤off*P.cellsOf e:=fa _ qB;rw[kZ] at this;rw[da] at hC;obtain ⟨u,k1,k2⟩:=xJ i' j y t' hy ht hj;exact ⟨u,hC.trans (by simpa using k1),k2.mono hle.eg hle.cI⟩
      ·rw[aC qB] at hy;have h1:off*P.cellsOf e≤i'*P.cellsOf e:=fa _ (by omega);rw[dh] at hC;by_cases uc:i'<off+len
       ·rw[aB uc] at hy;have:(i'+1)*P.cellsOf e≤(off+len)*P.cellsOf e:=fa _ uc;rw[kZ,kZ] at this;rw[da] at hC;obtain ⟨v,k1,k2⟩:=QT (w:=w) (I:=I) fD hi hz len len (aw _) (i'-off) j y t' hy ht hj;refine ⟨v,hC.trans ?_,k2.mono hle.eg hle.cI⟩;rw[show i'*P.cellsOf e+j-off*P.cellsOf e=(i'-off)*P.cellsOf e+j by rw[Nat.sub_mul];omega,sh];unfold Builtin.zeroCells;rw[FJ] at k1⊢;exact k1
       ·rw[aC uc] at hy;have:(off+len)*P.cellsOf e≤i'*P.cellsOf e:=fa _ (by omega);rw[kZ] at this;rw[dh] at hC;obtain ⟨u,k1,k2⟩:=xJ i' j y t' hy ht hj;exact ⟨u,hC.trans (by simpa using k1),k2.mono hle.eg hle.cI⟩)
    exact ⟨_,_,_,_,cK,a1,a2,.bd rfl fun j v x hj hx=>by simp at hx⟩
end
section
variable {P:Program} {w w':World} {I I':Nat→Nat→Prop} {β β':Nat→Option Nat} {hp hp':Nat→Option ah} {C:af} {B:Nat} {M:Nat→Prop} {w0:Start}
theorem FK (S:az P w I β hp B M w0) {nb b:Nat} {e e1:TypeId} {ys:List V} {C':Array Value} (hr:rowOf P e=some e1) (hn:hp nb=none)
  {T:TypeId} (vH:w'.heap[b]? =some (.cells C' T (0,0))) (hlen:ys.length≤C'.size)
  (hw: ∀b',b'≠b→b'<w.heap.size→w'.heap[b']? =w.heap[b']?) (bc:w.heap.size≤w'.heap.size) (nk:w'.os=w.os∧w'.output=w.output) (hb:M b∨B≤b)
  (qp: ∀ar blk',hp ar=some blk'→¬bf P w (β ar) blk' b) (dj: ∀j,¬I b j) (K:Nat→Nat→List V→Prop)
  (gF: ∀(i:Nat) x,ys[i]? =some x→∃l v,x= .list e1 l∧C'[i]? =some v∧zk P w e1 (K i) v l)
  (hK: ∀i b1 l,K i b1 l→b1≠b∧b1<w.heap.size∧iJ P w I b1 e1 l∧(M b1∨B≤b1)∧∀id blk,hp id=some blk→¬bf P w (β id) blk b1)
  (tW: ∀i j b1 l m,K i b1 l→K j b1 m→i=j):
  Le P w I β hp w' I (ao β nb (some b)) (ao hp nb (some (.nest e ys [0,0,0])))∧az P w' I (ao β nb (some b)) (ao hp nb (some (.nest e ys [0,0,0]))) B M w0:=by
 obtain ⟨p1,p2⟩:=Yw (w:=w) (I:=I) (vers:=[0,0,0]) hr vH hlen dj K gF (fun i b1 l h=>⟨(hK i b1 l h).1,hw _ (hK i b1 l h).1 (hK i b1 l h).2.1,(hK i b1 l h).2.2.1⟩) tW;refine Xl S hn qp (fun j h=>absurd h (dj j)) hw bc nk hb (fun b' ho=> ?_) (fun hle=>p2 hle.cI);rcases p1 b' ho with h|⟨i,l,h⟩
 ·exact .inl h
 ·exact .inr ⟨(hK _ _ _ h).2.2.2.1,(hK _ _ _ h).2.2.2.2⟩
theorem ajZ (S:az P w I β hp B M w0) {t ty e:TypeId} {nb:Nat} {s x:Value} {sv xv:V} {r:R} {rd:List Nat} (hu:P.underlying t=some (.slice e)) (hs:aj P w I β hp s sv) (hx:aj P w I β hp x xv)
  (h:(Pr P nb e sv xv).run C hp=some (r,rd)):dk P ((Builtin.append_ #[t,t] ty #[s,x]).run P w) w I β hp B M w0 r:=by
 unfold Pr at h;obtain ⟨hro,ha⟩:=aD h;clear h;obtain ⟨e1,hr⟩:=Bn.1 hro;obtain ⟨vq,cH,aq,oP,gZ⟩:=xG hr;have kJ:aT P e=[e]:=by simp[aT,cH]
 have hk:P.cellsOf e=1:=by rw[←fB aq,kJ];rfl
 obtain ⟨i,z,hi,hz,h3,h4,_⟩:=kL aq;have vN:=yM aq;have oo:P.bytesOf e=i.bytes:=by simp[Program.bytesOf,hi]
 rw[hk] at h3 h4;cases sv with
 | whole e' id=>
  obtain ⟨l0,hb⟩:=run_get ha;clear ha;cases ae:hp id with
  | none=>rw[ae] at hb;cases hb
  | some blk=>
   rw[ae] at hb;cases blk with
   | nest dV es vers=>
    obtain ⟨hc,hd⟩:=aD hb;clear hb;simp only[aJ,aL] at hc;obtain ⟨rfl,rfl⟩:=hc;cases xv with
    | nilS e3=>
     obtain ⟨_,he⟩:=aD hd;cases he;obtain ⟨a0,rfl⟩: ∃a0,x= .slice a0 0 0:=by cases hx;exact ⟨_,rfl⟩
     cases hs with
     | dW hd=>rw[ae] at hd;cases hd
     | dS hd=>rw[ae] at hd;cases hd
     | whole hd=>rw[ae] at hd;cases hd
     | fA hd=>rw[ae] at hd;cases hd
     | eb hd hb=>exact ⟨_,_,_,_,Cp hu hi _ 0 0 _ ⟨_,_,rfl⟩ (aw _),Le.refl ..,S,.eb hd hb⟩
     | dM hd hb bc bS hm=>
      rw[ae] at hd;cases hd;exact ⟨_,_,_,_,Cp hu hi _ _ _ _ ⟨_,_,rfl⟩ bS,Le.refl ..,S,.dM ae hb bc bS hm⟩
    | list e3 l=>
     obtain ⟨gb,he⟩:=aD hd;simp only[aJ,aL] at gb;obtain ⟨rfl,mH⟩:=gb;have mH:=wP.1 mH;subst mH;cases he;obtain ⟨a0,c0,rfl⟩: ∃a0 c0,x= .slice a0 0 c0:=by
      cases hx with
      | list hp'=>cases hp' with
       | nil=>exact ⟨_,_,rfl⟩
       | emp=>exact ⟨_,_,rfl⟩
       | list g b c d e=>exact ⟨_,_,by rw[←b];rfl⟩
     cases hs with
     | dW hd=>rw[ae] at hd;cases hd
     | dS hd=>rw[ae] at hd;cases hd
     | whole hd=>rw[ae] at hd;cases hd
     | fA hd=>rw[ae] at hd;cases hd
     | eb hd hb=>exact ⟨_,_,_,_,Cp hu hi _ 0 0 _ ⟨_,_,rfl⟩ (aw _),Le.refl ..,S,.eb hd hb⟩
     | dM hd hb bc bS hm=>
      rw[ae] at hd;cases hd;exact ⟨_,_,_,_,Cp hu hi _ _ _ _ ⟨_,_,rfl⟩ bS,Le.refl ..,S,.dM ae hb bc bS hm⟩
    | whole e3 aH=>
     obtain ⟨l1,he⟩:=run_get hd;clear hd;cases dn:hp aH with
     | none=>rw[dn] at he;cases he
     | some cA=>
      rw[dn] at he;cases cA with
      | nest e4 xs pA=>
       obtain ⟨hc,hf⟩:=aD he;clear he;simp only[aJ,aL,gp,mZ,mY] at hc;obtain ⟨rfl,rfl,Y6,gh,ep⟩:=hc;have bN:id≠aH:=fun h=>by rw[h,nZ] at Y6;cases Y6
       obtain ⟨hn,rfl⟩:=mM hf;have hlen:es.length+xs.length≤2^45:=by
        have:(es.length+xs.length)*1≤(es.length+xs.length)*P.bytesOf e:=wV _ vN;simp only[aX] at ep;omega
       obtain ⟨b2,FL,ff,rfl⟩: ∃b2 FL,β aH=some b2∧x= .slice (some ⟨b2,0,none⟩) xs.length FL:=by
        cases hx with
        | dW hd=>rw[dn] at hd;cases hd
        | dS hd=>rw[dn] at hd;cases hd
        | whole hd=>rw[dn] at hd;cases hd
        | fA hd=>rw[dn] at hd;cases hd
        | eb hd hb=>rw[dn] at hd;cases hd;simp at gh
        | dM hd hb bc bS hm=>rw[dn] at hd;cases hd;exact ⟨_,_,hb,rfl⟩
       obtain ⟨C2,_,g1,g2,g3,g4,g5,g6⟩:=QQ S hr dn ff;have ud: ∀(j:Nat) v,(C2.toList.take xs.length)[j]? =some v→w.cell? ((⟨b2,0,none⟩:Addr).add j)=some v:=by
        intro j v hj;have dm:=(cw.1 hj).1;rw[nc] at dm;rw[jo (by omega)] at hj;rw[oh,cell?_cells g1,dq];simpa using hj
       have mI:(C2.toList.take xs.length).length=xs.length:=by simp;omega
       have qz: ∀u∈C2.toList.take xs.length,u.oneCell'=true:=by
        intro u hm;obtain ⟨j,hj⟩:=tC hm;have dm:=(cw.1 hj).1;rw[mI] at dm;rw[jo dm] at hj;obtain ⟨l,v,_,hv,hh⟩:=g4 j xs[j] (bU dm);have:v=u:=by rw[sh,hv] at hj;exact dL hj
        subst this;rcases hh with ⟨_,a,rfl⟩|⟨b1,cap,_,rfl,_⟩<;>rfl
       obtain ⟨k1,S1⟩:=xn S ae;have aj0:ao hp id (some ah.dead) aH=some (.nest e xs pA):=by rw[cz _ _ (Ne.symm bN)];exact dn
       obtain ⟨k2,S2⟩:=xn S1 aj0;have ug:nb≠id:=fun e=>by rw[e,ae] at hn;cases hn
       have aj1:nb≠aH:=fun e=>by rw[e,dn] at hn;cases hn
       have uh:ao (ao hp id (some ah.dead)) aH (some ah.dead) nb=none:=by rw[cz _ _ aj1,cz _ _ ug];exact hn
       have live: ∀{ar blk'},ao (ao hp id (some ah.dead)) aH (some ah.dead) ar=some blk'→blk'≠ .dead→hp ar=some blk'∧ar≠id∧ar≠aH:=by
        intro ar blk' h hd;by_cases q1:ar=aH
        ·subst q1;rw[bH] at h;cases h;exact absurd rfl hd
        ·rw[cz _ _ q1] at h;by_cases q2:ar=id
         ·subst q2;rw[bH] at h;cases h;exact absurd rfl hd
         ·rw[cz _ _ q2] at h;exact ⟨h,q2,q1⟩
       have Q0: ∀{idx bx:Nat} {bl},(idx=id∨idx=aH)→hp idx=some bl→bf P w (β idx) bl bx→∀ar blk',ao (ao hp id (some ah.dead)) aH (some ah.dead) ar=some blk'→¬bf P w (β ar) blk' bx:=by
        intro idx bx bl hor kK ho ar blk' h hO;obtain ⟨q1,q2,q3⟩:=live h hO.alive;have:=S.h.inj ar idx _ _ bx q1 kK hO ho;rcases hor with rfl|rfl
        ·exact q2 this
        ·exact q3 this
       have vQ:b8 hp [(nb,.nest e (es++xs) [0,0,0]),(id,.dead),(aH,.dead)]=ao (ao (ao hp id (some ah.dead)) aH (some ah.dead)) nb (some (.nest e (es++xs) [0,0,0])):=by
        funext k;simp only[b8];by_cases q0:k=nb
        ·subst q0;rw[bH,bH]
        ·by_cases q1:k=id
         ·subst q1;rw[cz _ _ q0,bH,cz _ _ q0,cz _ _ bN,bH]
         ·by_cases q2:k=aH
          ·subst q2;rw[cz _ _ q0,cz _ _ q1,bH,cz _ _ q0,bH]
          ·rw[cz _ _ q0,cz _ _ q1,cz _ _ q2,cz _ _ q0,cz _ _ q2,cz _ _ q1]
       have kI:bf P w (β aH) (.nest e xs pA) b2:= .root (by simp) ff;have lit: ∀i b1 l,At P w b2 e xs [(i,0)] b1 e1 l→b1<w.heap.size∧iJ P w I b1 e1 l∧(M b1∨B≤b1)∧∀ar blk',ao (ao hp id (some ah.dead)) aH (some ah.dead) ar=some blk'→¬bf P w (β ar) blk' b1:=fun i b1 l ha=>by
        obtain ⟨_,q2,q3,q4,q5⟩:=g5 i b1 l ha;exact ⟨q2,q3,q4,Q0 (.inr rfl) dn q5⟩
       cases hs with
       | dW hd=>rw[ae] at hd;cases hd
       | dS hd=>rw[ae] at hd;cases hd
       | whole hd=>rw[ae] at hd;cases hd
       | fA hd=>rw[ae] at hd;cases hd
       | @eb _ _ _ a0 hd hb=>
        rw[ae] at hd;cases hd;simp only[List.length_nil,dq] at ep hlen;have cK:=Y2 (P:=P) w t ty e i z hu hi hz a0 ⟨b2,0,none⟩ xs.length FL (C2.toList.take xs.length) (by rw[mI,h3,im]) ud (by omega) (by omega) (by rw[←oo];simp only[aX] at ep;omega);have qA:=grownCap_ge w xs.length 0 e;have sQ:grownCap w xs.length 0 e≤maxLen:=grownCap_le_maxLen w xs.length 0 e (by simp only[maxLen];omega);have dG:(w.drew.alloc (.cells ((C2.toList.take xs.length).toArray++Builtin.zeroCells z.cells (grownCap w xs.length 0 e-xs.length)) e)).heap[w.heap.size]? =some (.cells ((C2.toList.take xs.length).toArray++Builtin.zeroCells z.cells (grownCap w xs.length 0 e-xs.length)) e):=heap_alloc_new w.drew (.cells ((C2.toList.take xs.length).toArray++Builtin.zeroCells z.cells (grownCap w xs.length 0 e-xs.length)) e);have Cn:=S2.h.jQ;obtain ⟨a1,a2⟩:=FK (w':=w.drew.alloc (.cells ((C2.toList.take xs.length).toArray++Builtin.zeroCells z.cells (grownCap w xs.length 0 e-xs.length)) e)) S2 (nb:=nb) (b:=w.heap.size) (ys:=xs) hr uh dG (by simp;omega)
         (fun b' _ aZ=>heap_alloc_old w.drew _ b' aZ) (by simp) ⟨rfl,rfl⟩ (.inr S.size) (fun ar blk' h ho=>nY _ (S2.h.lt h ho)) (fun j hj=>nY _ (Cn _ j hj))
         (fun i b1 l=>At P w b2 e xs [(i,0)] b1 e1 l) (fun j y hy=>by
          obtain ⟨l,v,q1,q2,q3⟩:=g4 j y hy;have dm:=(cw.1 hy).1;refine ⟨l,v,q1,?_,q3⟩;rw[Ju (by simpa using by omega)];simp[dm,q2])
         (fun j b1 l ha=>⟨Ed (lit j b1 l ha).1,lit j b1 l ha⟩) g6
        refine ⟨_,_,I,ao β nb (some w.heap.size),cK,?_⟩;rw[vQ,List.nil_append];refine ⟨(k1.trans k2).trans a1,a2,?_⟩;exact .dM (bH _ _ _) (bH _ _ _) (by rw[lr dG,hk,im];simp[size_zeroCells,h4];omega) qA sQ
       | @dM _ _ _ _ b cap hd hb bc bS hm=>
        rw[ae] at hd;cases hd;obtain ⟨Ca,Tq,f1,f2,f3,f4,f5,f6⟩:=QQ S hr ae hb;rw[lr f1,hk,im] at bc;have kK:bf P w (β id) (.nest e es vers) b:= .root (by simp) hb;have FI:=S.h.own id _ b ae kK;have fe: ∀i b1 l,At P w b e es [(i,0)] b1 e1 l→b1≠b∧b1<w.heap.size∧iJ P w I b1 e1 l∧(M b1∨B≤b1)∧∀ar blk',ao (ao hp id (some ah.dead)) aH (some ah.dead) ar=some blk'→¬bf P w (β ar) blk' b1:=fun i b1 l ha=>by
         obtain ⟨q1,q2,q3,q4,q5⟩:=f5 i b1 l ha;exact ⟨q1,q2,q3,q4,Q0 (.inl rfl) ae q5⟩
        have aj2: ∀i b1 l,At P w b2 e xs [(i,0)] b1 e1 l→b1≠b:=fun i b1 l ha h=>by
         subst h;exact bN (S.h.inj id aH _ _ _ ae dn kK (g5 i _ l ha).2.2.2.2)
        have Kc: ∀i j b1 l m,At P w b e es [(i,0)] b1 e1 l→At P w b2 e xs [(j,0)] b1 e1 m→False:=fun i j b1 l m h1 h2=>bN (S.h.inj id aH _ _ b1 ae dn (f5 i b1 l h1).2.2.2.2 (g5 j b1 m h2).2.2.2.2)
        let K:Nat→Nat→List V→Prop:=fun i b1 l=>(i<es.length∧At P w b e es [(i,0)] b1 e1 l)∨(es.length≤i∧At P w b2 e xs [(i-es.length,0)] b1 e1 l)
        have tW: ∀i j b1 l m,K i b1 l→K j b1 m→i=j:=by
         intro i j b1 l m h1 h2;rcases h1 with ⟨_,h1⟩|⟨p1,h1⟩
         ·rcases h2 with ⟨_,h2⟩|⟨_,h2⟩
          ·exact f6 _ _ _ _ _ h1 h2
          ·exact (Kc _ _ _ _ _ h1 h2).elim
         ·rcases h2 with ⟨_,h2⟩|⟨p2,h2⟩
          ·exact (Kc _ _ _ _ _ h2 h1).elim
          ·have:=g6 _ _ _ _ _ h1 h2;omega
        have fill: ∀(C':Array Value),(∀j,j<es.length→C'[j]? =Ca[j]?)→(∀j,j<xs.length→C'[es.length+j]? =C2[j]?)→∀(j:Nat) y,(es++xs)[j]? =some y→∃l v,y= .list e1 l∧C'[j]? =some v∧zk P w e1 (K j) v l:=by
         intro C' p1 p2 j y hy;by_cases hj:j<es.length
         ·rw[n0 hj] at hy;obtain ⟨l,v,q1,q2,q3⟩:=f4 j y hy;refine ⟨l,v,q1,(p1 j hj).trans q2,?_⟩;rcases q3 with q3|⟨z1,b1,Q1,z2,z3,z4,z5,z6⟩
          ·exact .inl q3
          ·exact .inr ⟨z1,b1,Q1,z2,z3,z4,z5,.inl ⟨hj,z6⟩⟩
         ·rw[o9 (by omega)] at hy;obtain ⟨l,v,q1,q2,q3⟩:=g4 _ y hy;have dm:=(cw.1 hy).1;refine ⟨l,v,q1,?_,?_⟩
          ·have:=p2 (j-es.length) dm;rw[show es.length+(j-es.length)=j by omega] at this;exact this.trans q2
          ·rcases q3 with q3|⟨z1,b1,Q1,z2,z3,z4,z5,z6⟩
           ·exact .inl q3
           ·exact .inr ⟨z1,b1,Q1,z2,z3,z4,z5,.inr ⟨by omega,z6⟩⟩
        by_cases ue:es.length+xs.length≤cap
        ·have Cq:es.length+(C2.toList.take xs.length).length≤Ca.size:=by rw[mI];omega
         have cK:=Y3 (P:=P) w t ty e Tq i hu hi b es.length cap Ca f1 ⟨b2,0,none⟩ xs.length FL (C2.toList.take xs.length) (by rw[mI,h3,im]) ud qz ue (by rw[h3,im];exact Cq);rw[h3,im,mI] at cK;have dG:=setRow_heap w b Ca (Ca.toList.take es.length++C2.toList.take xs.length++Ca.toList.drop (es.length+xs.length)).toArray Tq _ f1;obtain ⟨a1,a2⟩:=FK (w':=w.setRow b (Ca.toList.take es.length++C2.toList.take xs.length++Ca.toList.drop (es.length+xs.length)).toArray) S2 (nb:=nb) (b:=b) (ys:=es++xs) hr uh dG (by simp;omega)
          (fun b' av _=>setRow_other w b b' _ av) (by simp) ⟨rfl,rfl⟩ FI (Q0 (.inl rfl) ae kK) f3 K
          (fill _ (fun j hj=>by
           rw[o6,lf,n0 (by simp;omega),jo hj,sh]) (fun j hj=>by
           rw[o6,lf,o9 (by simp;omega),n0 (by simp;omega),nc,Array.length_toList (xs:=Ca),Nat.min_eq_left (by omega),Jv,jo hj,sh]))
          (fun j b1 l hj=>by
           rcases hj with ⟨_,hj⟩|⟨_,hj⟩
           ·exact fe _ _ _ hj
           ·exact ⟨aj2 _ _ _ hj,lit _ _ _ hj⟩) tW
         refine ⟨_,_,I,ao β nb (some b),cK,?_⟩;rw[vQ];refine ⟨(k1.trans k2).trans a1,a2,?_⟩;have:=aj.dM (P:=P) (w:=w.setRow b (Ca.toList.take es.length++C2.toList.take xs.length++Ca.toList.drop (es.length+xs.length)).toArray) (I:=I) (β:=ao β nb (some b)) (hp:=ao (ao (ao hp id (some ah.dead)) aH (some ah.dead)) nb (some (.nest e (es++xs) [0,0,0]))) (b:=b) (cap:=cap) (bH _ _ _) (bH _ _ _) (by rw[lr dG,hk,im];simp;omega) (by rw[gS];exact ue) hm;rw[gS] at this;exact this
        ·have hold: ∀(j:Nat) v,(Ca.toList.take es.length)[j]? =some v→w.cell? ((⟨b,0,none⟩:Addr).add j)=some v:=by
          intro j v hj;have dm:=(cw.1 hj).1;rw[nc] at dm;rw[jo (by omega)] at hj;rw[oh,cell?_cells f1,dq];simpa using hj
         have cK:=run_append_grow (P:=P) w t ty e i z hu hi hz ⟨b,0,none⟩ es.length cap (Ca.toList.take es.length) (by rw[h3,im];simp;omega) hold ⟨b2,0,none⟩ xs.length FL (C2.toList.take xs.length) (by rw[mI,h3,im]) ud (by omega) (by omega)
          (growslice_fits (by omega) (by rw[←oo];simp only[aX] at ep;omega))
         have qA:=grownCap_ge w (es.length+xs.length) cap e;have sQ:grownCap w (es.length+xs.length) cap e≤maxLen:=grownCap_le_maxLen w _ cap e (by simp only[maxLen];omega);have dG:(w.drew.alloc (.cells ((Ca.toList.take es.length).toArray++(C2.toList.take xs.length).toArray++Builtin.zeroCells z.cells (grownCap w (es.length+xs.length) cap e-(es.length+xs.length))) e)).heap[w.heap.size]? =some (.cells ((Ca.toList.take es.length).toArray++(C2.toList.take xs.length).toArray++Builtin.zeroCells z.cells (grownCap w (es.length+xs.length) cap e-(es.length+xs.length))) e):=heap_alloc_new w.drew (.cells ((Ca.toList.take es.length).toArray++(C2.toList.take xs.length).toArray++Builtin.zeroCells z.cells (grownCap w (es.length+xs.length) cap e-(es.length+xs.length))) e);have Cn:=S2.h.jQ;obtain ⟨a1,a2⟩:=FK (w':=w.drew.alloc (.cells ((Ca.toList.take es.length).toArray++(C2.toList.take xs.length).toArray++Builtin.zeroCells z.cells (grownCap w (es.length+xs.length) cap e-(es.length+xs.length))) e)) S2 (nb:=nb) (b:=w.heap.size) (ys:=es++xs) hr uh dG (by simp;omega)
          (fun b' _ aZ=>heap_alloc_old w.drew _ b' aZ) (by simp) ⟨rfl,rfl⟩ (.inr S.size) (fun ar blk' h ho=>nY _ (S2.h.lt h ho)) (fun j hj=>nY _ (Cn _ j hj)) K
          (fill _ (fun j hj=>by
           rw[Ju (by simp;omega),Ju (by simp;omega),o6,jo hj,sh]) (fun j hj=>by
           rw[Ju (by simp;omega),Array.getElem?_append_right (by simp;omega)];simp only[sg,nc,Array.length_toList (xs:=Ca),Nat.min_eq_left f2,Jv];rw[o6,jo hj,sh]))
          (fun j b1 l hj=>by
           rcases hj with ⟨_,hj⟩|⟨_,hj⟩
           ·obtain ⟨_,q⟩:=fe _ _ _ hj;exact ⟨Ed q.1,q⟩
           ·exact ⟨Ed (lit _ _ _ hj).1,lit _ _ _ hj⟩) tW
         refine ⟨_,_,I,ao β nb (some w.heap.size),cK,?_⟩;rw[vQ];refine ⟨(k1.trans k2).trans a1,a2,?_⟩;have:=aj.dM (P:=P) (w:=w.drew.alloc (.cells ((Ca.toList.take es.length).toArray++(C2.toList.take xs.length).toArray++Builtin.zeroCells z.cells (grownCap w (es.length+xs.length) cap e-(es.length+xs.length))) e)) (I:=I) (β:=ao β nb (some w.heap.size)) (hp:=ao (ao (ao hp id (some ah.dead)) aH (some ah.dead)) nb (some (.nest e (es++xs) [0,0,0]))) (b:=w.heap.size) (cap:=grownCap w (es.length+xs.length) cap e) (bH _ _ _) (bH _ _ _) (by rw[lr dG,hk,im];simp[size_zeroCells,h4];omega) (by rw[gS];exact qA) sQ;rw[gS] at this;exact this
      | _=>cases he
    | _=>cases hd
   | _=>cases hb
 | _=>cases ha
theorem Y7 (S:az P w I β hp B M w0) {t ty e:TypeId} {nb:Nat} {s x:Value} {sv xv:V} {r:R} {rd:List Nat} (hu:P.underlying t=some (.slice e)) (hs:aj P w I β hp s sv) (hx:aj P w I β hp x xv)
  (h:(Pq P nb e sv xv).run C hp=some (r,rd)):dk P ((Builtin.append_ #[t,t] ty #[s,x]).run P w) w I β hp B M w0 r:=by
 unfold Pq at h;split at h
 ·rename_i e' id ver i;obtain ⟨aq,h1⟩:=aD h;clear h;obtain ⟨xs,nC,l0,h2⟩:=FG S.h.rel aq hx h1;obtain ⟨e0,es,vers,l1,ae,k1,k2,k3,h3⟩:=rB h2;cases hr:rowOf P e0 with
  | none=>simp only[hr] at h3;cases h3
  | some e1=>
  simp only[hr] at h3;obtain ⟨hc,h4⟩:=aD h3;simp only[aJ,aL] at hc;obtain ⟨rfl,rfl⟩:=hc;obtain ⟨y,hy,h5⟩:=od h4;obtain ⟨ep,h6⟩:=aD h5;obtain ⟨l2,h7⟩:=run_get h6;cases hn:hp nb with
  | some _=>rw[hn] at h7;cases h7
  | none=>
  rw[hn] at h7;obtain ⟨jh,rfl⟩:=mM h7;obtain ⟨b,q,i0,c,t1,l,bK,hb,ht,hc⟩:=hs.PR ae k1 k2 k3;have:q=[]∧i0=i∧c=0:=by
   have hq:([]:Path)++[(i,0)]=q++[(i0,c)]:=bK;obtain ⟨h1,h2⟩:=List.append_inj' hq rfl;simp only[yA,ng,and_true] at h2;exact ⟨h1.symm,h2.1.symm,h2.2.symm⟩
  obtain ⟨rfl,rfl,rfl⟩:=this;obtain ⟨vq,cH,aj3,oP,gZ⟩:=xG hr;have kJ:aT P e0=[e0]:=by simp[aT,cH]
  have hk:P.cellsOf e0=1:=by rw[←fB aj3,kJ];rfl
  obtain ⟨b',e',aK,Ca,T,f,x1,m1,m2,m3,m4,m5,m6⟩:=hc;cases m1;rw[hk,im,Nat.add_zero] at m6;obtain ⟨tY,l1,S1,hv⟩:=ajG S hr ae hb hy hn;have vK:=hv _ _ _ _ m2 m6;have bN:nb≠id:=fun h=>by rw[h,ae] at hn;cases hn
  have aj4:nb+1≠id:=fun h=>by rw[h,ae] at jh;cases jh
  generalize hq:ao (ao hp id (some (ah.out e0 es (vers.map (· +1)) i0))) nb (some (.arr e y.toList false))=Q2 at l1 S1 vK;have hq0:Q2 nb=some (.arr e y.toList false):=by rw[←hq,bH]
  have hqn:Q2 (nb+1)=none:=by rw[←hq,cz _ _ (Nat.succ_ne_self nb),cz _ _ aj4];exact jh
  have cS:((∃a,x= .slice a 0 0)∧xs=[])∨∃a c news,Row P w I e x xs a c news:=nC;have:=Y4 (ty:=ty) S1 hu aq vK hq0 hqn ep (by
   rcases cS with h|⟨a,c,news,h⟩
   ·exact .inl h
   ·exact .inr ⟨a,c,news,h.val,h.len,h.cell,fun i j x t' p1 p2 p3=>(h.el i j x t' p1 p2 p3).imp fun u hu=>⟨hu.1,hu.2.mono l1.eg l1.cI⟩⟩)
  obtain ⟨v,w',I',β',a1,a2,a3,a4⟩:=this;refine ⟨v,w',I',β',a1,?_⟩;have vQ:b8 hp [(nb+1,.arr e (y.toList++xs) false),(nb,.dead),(id,.out e0 es (vers.map (· +1)) i0)]=b8 Q2 [(nb+1,.arr e (y.toList++xs) false),(nb,.dead)]:=by
   rw[←hq];funext k;simp only[b8];by_cases q0:k=nb+1
   ·subst q0;rw[bH,bH]
   ·rw[cz _ _ q0,cz _ _ q0];by_cases q1:k=nb
    ·subst q1;rw[bH,bH]
    ·rw[cz _ _ q1,cz _ _ q1,cz _ _ q1]
  rw[vQ];exact ⟨l1.trans a2,a3,a4⟩
 ·exact ajU S hu hs hx h
theorem Y8 (S:az P w I β hp B M w0) {t e e1:TypeId} {nb:Nat} {v:Value} {l:List V} (hu:P.underlying t=some (.slice e)) (hr:rowOf P e=some e1) (hn:hp nb=none) (K:Nat→List V→Prop)
  (hv:zk P w e1 K v l) (hK: ∀b1 l,K b1 l→b1<w.heap.size∧iJ P w I b1 e1 l∧(M b1∨B≤b1)∧∀id blk,hp id=some blk→¬bf P w (β id) blk b1):
  (Instr.buildSlice t 1 #[(0,v)]).run P w= .ok (.slice (some ⟨w.heap.size,0,none⟩) 1 1) (w.alloc (.cells #[v] e))∧
  Le P w I β hp (w.alloc (.cells #[v] e)) I (ao β nb (some w.heap.size)) (ao hp nb (some (.nest e [.list e1 l] [0,0,0])))∧az P (w.alloc (.cells #[v] e)) I (ao β nb (some w.heap.size)) (ao hp nb (some (.nest e [.list e1 l] [0,0,0]))) B M w0∧
  aj P (w.alloc (.cells #[v] e)) I (ao β nb (some w.heap.size)) (ao hp nb (some (.nest e [.list e1 l] [0,0,0]))) (.slice (some ⟨w.heap.size,0,none⟩) 1 1) (.whole e nb):=by
 obtain ⟨vq,cH,aq,oP,gZ⟩:=xG hr;have kJ:aT P e=[e]:=by simp[aT,cH]
 have hk:P.cellsOf e=1:=by rw[←fB aq,kJ];rfl
 obtain ⟨i,z,hi,hz,h3,h4,_⟩:=kL aq;rw[hk] at h3 h4;have rK:v.cells= #[v]:=by rcases hv with ⟨_,a,rfl⟩|⟨b1,cap,_,rfl,_⟩<;>rfl
 have cK:=QU w t e 1 #[(0,v)] #[v] i z hu hi hz (by rw[h3];omega) (by
  rw[h3];simp[Instr.fill,rK];rw[show Array.range 1= #[0] from rfl];simp)
 have dG:(w.alloc (.cells #[v] e)).heap[w.heap.size]? =some (.cells #[v] e):=heap_alloc_new w _;obtain ⟨a1,a2⟩:=FK (w':=w.alloc (.cells #[v] e)) S (nb:=nb) (b:=w.heap.size) (ys:=[.list e1 l]) hr hn dG (by simp)
  (fun b' _ aZ=>heap_alloc_old w _ b' aZ) (by simp) ⟨rfl,rfl⟩ (.inr S.size) (fun ar blk' h ho=>nY _ (S.h.lt h ho)) (fun j hj=>nY _ (S.h.jQ _ j hj))
  (fun i b1 l=>i=0∧K b1 l) (fun j y hy=>by
   cases j with
   | succ j=>simp at hy
   | zero=>
    simp at hy;subst hy;refine ⟨l,v,rfl,rfl,?_⟩;rcases hv with h|⟨b1,cap,z1,z2,z3,z4,z5,z6⟩
    ·exact .inl h
    ·exact .inr ⟨b1,cap,z1,z2,z3,z4,z5,rfl,z6⟩)
  (fun j b1 l h=>⟨Ed (hK b1 l h.2).1,hK b1 l h.2⟩) (fun i j b1 l m h1 h2=>h1.1.trans h2.1.symm)
 refine ⟨cK,a1,a2,?_⟩;exact .dM (es:=[.list e1 l]) (bH _ _ _) (bH _ _ _) (by rw[lr dG,hk];rfl) (aw _) (by simp[maxLen])
theorem aj5 (S:az P w I β hp B M w0) {a:Act} {sl:Nat→V} (hs:oc P w I β hp a sl) {G:Nat→V} (hg:jR P G w I) {t e:TypeId} {len nb:Nat} {ps:Array (Nat×Operand)} {r:R} {rd:List Nat} (hu:P.underlying t=some (.slice e))
  (h:(W6 P nb e len (ps.toList.map fun p=>(p.1,aS P G e sl p.2))).run C hp=some (r,rd)):
  dk P ((Instr.buildSlice t len (ps.map fun (i,x)=>(i,a.eval x))).run P w) w I β hp B M w0 r:=by
 obtain ⟨hl,ha⟩:=aD h;clear h;rw[aL,cY] at hl;cases hr:rowOf P e with
 | none=>rw[hr] at ha;cases ha
 | some e1=>
 simp only[hr] at ha;obtain ⟨vq,cH,aq,oP,gZ⟩:=xG hr;obtain ⟨ps⟩:=ps;simp only at ha hl;cases ps with
 | nil=>
  obtain ⟨hn,rfl⟩:=mM ha;simp only[List.length_nil] at hl;subst hl;obtain ⟨i,z,hi,hz,h3,h4,_⟩:=kL aq;have cK:=QU w t e 0 #[] #[] i z hu hi hz (by omega) (by simp[Instr.fill]);have dG:(w.alloc (.cells #[] e)).heap[w.heap.size]? =some (.cells #[] e):=heap_alloc_new w _;obtain ⟨a1,a2⟩:=FK (w':=w.alloc (.cells #[] e)) S (nb:=nb) (b:=w.heap.size) (ys:=[]) hr hn dG (by simp)
   (fun b' _ aZ=>heap_alloc_old w _ b' aZ) (by simp) ⟨rfl,rfl⟩ (.inr S.size) (fun ar blk' h ho=>nY _ (S.h.lt h ho)) (fun j hj=>nY _ (S.h.jQ _ j hj))
   (fun _ _ _=>False) (fun j y hy=>by simp at hy) (fun _ _ _ h=>h.elim) (fun _ _ _ _ _ h=>h.elim)
  exact ⟨_,_,I,ao β nb (some w.heap.size),by simpa using cK,a1,a2,.dM (es:=[]) (bH _ _ _) (bH _ _ _) (by rw[lr dG];simp) (aw _) (by simp)⟩
 | cons p ps=>
  cases ps with
  | cons q ps=>
   obtain ⟨p1,p2⟩:=p;simp only[lb] at ha;cases p1<;>cases hx:aS P G e sl p2<;>simp only[hx] at ha<;>cases ha
  | nil=>
  obtain ⟨p1,p2⟩:=p;simp only[List.length_cons,List.length_nil,dq] at hl;subst hl;have qq:=hs.ev hg e p2;simp only[lb,List.map_nil] at ha;cases p1 with
  | succ n=>cases hx:aS P G e sl p2<;>simp only[hx] at ha<;>cases ha
  | zero=>
  cases hx:aS P G e sl p2 with
  | nilS e2=>
   simp only[hx] at ha;obtain ⟨hc,hb⟩:=aD ha;obtain ⟨hn,rfl⟩:=mM hb;rw[hx] at qq;obtain ⟨a0,ha0⟩: ∃a0,a.eval p2= .slice a0 0 0:=by
    generalize a.eval p2=v at qq;cases qq;exact ⟨_,rfl⟩
   obtain ⟨k1,k2,k3,k4⟩:=Y8 S (v:=a.eval p2) (l:=[]) hu hr hn (fun _ _=>False) (.inl ⟨rfl,a0,ha0⟩) (fun _ _ h=>h.elim);exact ⟨_,_,I,ao β nb (some w.heap.size),by simpa using k1,k2,k3,k4⟩
  | whole e2 id=>
   simp only[hx] at ha;obtain ⟨l0,hb⟩:=run_get ha;clear ha;cases ae:hp id with
   | none=>rw[ae] at hb;cases hb
   | some blk=>
    rw[ae] at hb;cases blk with
    | arr e3 es fz=>
     cases fz with
     | true=>cases hb
     | false=>
      obtain ⟨hc,hd⟩:=aD hb;clear hb;simp only[aJ,aL] at hc;obtain ⟨rfl,rfl⟩:=hc;obtain ⟨hn,rfl⟩:=mM hd;have bN:nb≠id:=fun e=>by rw[e,ae] at hn;cases hn
      obtain ⟨k1,S1⟩:=xn S ae;have jh:ao hp id (some ah.dead) nb=none:=by rw[cz _ _ bN];exact hn
      have vQ:b8 hp [(nb,.nest e [.list e1 es] [0,0,0]),(id,.dead)]=ao (ao hp id (some ah.dead)) nb (some (.nest e [.list e1 es] [0,0,0])):=rfl;rw[hx] at qq;have fin: ∀(K:Nat→List V→Prop),zk P w e1 K (a.eval p2) es→(∀b1 l,K b1 l→b1<w.heap.size∧iJ P w I b1 e1 l∧(M b1∨B≤b1)∧∀ar blk',ao hp id (some ah.dead) ar=some blk'→¬bf P w (β ar) blk' b1)→
        dk P ((Instr.buildSlice t 1 #[(0,a.eval p2)]).run P w) w I β hp B M w0 ⟨.whole e nb,[(nb,.nest e [.list e1 es] [0,0,0]),(id,.dead)]⟩:=fun K hv hK=>by
       obtain ⟨q1,q2,q3,q4⟩:=Y8 S1 (v:=a.eval p2) (l:=es) hu hr jh K hv hK;refine ⟨_,_,I,ao β nb (some w.heap.size),q1,?_⟩;rw[vQ];exact ⟨k1.trans q2,q3,q4⟩
      have res:dk P ((Instr.buildSlice t 1 #[(0,a.eval p2)]).run P w) w I β hp B M w0 ⟨.whole e nb,[(nb,.nest e [.list e1 es] [0,0,0]),(id,.dead)]⟩:=by
       generalize a.eval p2=v at qq fin⊢;cases qq with
       | dW hd=>rw[ae] at hd;cases hd
       | dM hd=>rw[ae] at hd;cases hd
       | eb hd=>rw[ae] at hd;cases hd
       | fA hd=>rw[ae] at hd;cases hd
       | @dS _ _ _ a0 hd hb=>
        rw[ae] at hd;cases hd;exact fin (fun _ _=>False) (.inl ⟨rfl,a0,rfl⟩) (fun _ _ h=>h.elim)
       | @whole _ _ _ _ b cap hd hb bc bS hm=>
        rw[ae] at hd;cases hd;obtain ⟨m1,m2⟩:=QN S ae hb gZ;obtain ⟨m3,m4⟩:=m1 _ _ _ _ .here;by_cases h0:0<cap
        ·refine fin (fun b1 l=>b1=b∧l=es) (.inr ⟨b,cap,h0,rfl,bc,bS,hm,rfl,rfl⟩) (fun b1 l h=> ?_);obtain ⟨rfl,rfl⟩:=h;refine ⟨S.h.lt ae m4,m3,S.h.own id _ _ ae m4,fun ar blk' h' ho=> ?_⟩;by_cases q:ar=id
         ·subst q;rw[bH] at h';cases h';exact absurd rfl ho.alive
         ·rw[cz _ _ q] at h';exact q (S.h.inj ar id _ _ _ h' ae ho m4)
        ·have:es=[]:=wP.1 (by omega);subst this;exact fin (fun _ _=>False) (.inl ⟨rfl,some ⟨b,0,none⟩,by rw[show cap=0 by omega];rfl⟩) (fun _ _ h=>h.elim)
      simpa using res
    | _=>cases hb
  | _=>simp only[hx] at ha;cases ha
end
section
variable {P:Program} {w w':World} {I I':Nat→Nat→Prop} {β β':Nat→Option Nat} {hp hp':Nat→Option ah} {C:af} {B:Nat} {M:Nat→Prop} {w0:Start}
theorem aj6 (S:az P w I β hp B M w0) {s:TypeId} {f:Nat} {v:Value} {x:V} {r:R} {rd:List Nat} (hv:aj P w I β hp v x)
  (h:(Pw P s f x).run C hp=some (r,rd)):dk P ((Instr.field s v f).run P w) w I β hp B M w0 r:=by
 unfold Pw JL at h;split at h
 ·rename_i fs hu;cases hf:fs[f]? with
  | none=>rw[hf] at h;cases h
  | some fd=>
   rw[hf] at h;simp only[BA] at h;obtain ⟨ht,h⟩:=aD h;obtain ⟨d,ui⟩:=BW ht;obtain ⟨i,hi⟩:=xo ui;have bc:i.size=P.cellsOf fd.type:=by simp[Program.cellsOf,hi]
   cases x with
   | agg xs=>
    obtain ⟨cs,rfl,h1,h2⟩:=hv.np;dsimp only at h;cases ha:bZ P fd.type with
    | true=>
     rw[ha] at h;simp only[cond_true] at h;obtain ⟨hc,h⟩:=aD h;obtain rfl:=aN h;rw[gp] at hc;refine .same S (v:= .agg (cs.extract fd.offset (fd.offset+P.cellsOf fd.type))) ?_ (.agg (by simp;omega) fun j u y lE hy=> ?_)
     ·simp[Instr.field,run_underlying hu,hf,part,Kd ui,ha,asAgg,sizeOf,typeInfo,hi,bc]
     grind
    | false=>
     rw[ha] at h;simp only[cond_false] at h;obtain ⟨y,hy,h⟩:=od h;obtain rfl:=aN h;have aZ:fd.offset<cs.size:=by grind
     refine .same S (v:=cs[fd.offset]) ?_ (h2 _ _ _ (la aZ) hy);simp[Instr.field,run_underlying hu,hf,part,Kd ui,ha,asAgg,aZ]
   | _=>cases h
 ·cases h
theorem aj7 (S:az P w I β hp B M w0) {i:Nat} {v:Value} {xs:List V} {r:R} {rd:List Nat} (hv:aj P w I β hp v (.bd xs))
  (h:(Rd.opt xs[i]? fun v=> .ret ⟨v,[]⟩).run C hp=some (r,rd)):dk P ((Instr.extract v i).run P w) w I β hp B M w0 r:=by
 obtain ⟨cs,rfl,h1,h2⟩:=hv.yR;obtain ⟨y,hy,h⟩:=od h;obtain rfl:=aN h;have aZ:i<cs.size:=by grind
 exact .same S (v:=cs[i]) (by simp[Instr.extract,aZ]) (h2 _ _ _ (la aZ) hy)
theorem aj8 (S:az P w I β hp B M w0) {t:TypeId} {s:ByteArray} {l:List UInt8} {k:IntKind} {i:Int} {r:R} {rd:List Nat} (hu:P.underlying t=some .string) (hs:s.data.toList=l)
  (h:(Rd.opt (bif decide (0≤i) then (l[i.toNat]?).map fun b=>V.int .u8 b.toNat else none) fun v=> .ret ⟨.int .u8 v.toInt,[]⟩).run C hp=some (r,rd)):
  dk P ((Instr.index t (.string s) (.int k i)).run P w) w I β hp B M w0 r:=by
 obtain ⟨v,hv,h⟩:=od h;obtain rfl:=aN h;cases hc:decide (0≤i) with
 | false=>grind
 | true=>
  rw[hc] at hv;simp only[cond_true] at hv;have h0:0≤i:=by grind
  cases hb:l[i.toNat]? with
  | none=>grind
  | some b=>
   rw[hb] at hv;simp only[Option.map_some,fb] at hv;subst hv;have Y9:s[i.toNat]? =some b:=by
    subst hs;obtain ⟨aZ,he⟩:=cw.1 hb;have Q3:i.toNat<s.size:=by simpa using aZ
    rw[getElem?_pos s i.toNat Q3];congr 1
   refine .same S (v:= .int .u8 b.toNat) ?_ .int;simp[Instr.index,asIntOf,run_underlying hu,h0,Y9]
theorem aj9 (S:az P w I β hp B M w0) {t e:TypeId} {n:Nat} {v:Value} {cs:List V} {k:IntKind} {i:Int} {r:R} {rd:List Nat} (hu:P.underlying t=some (.array n e)) (hv:aj P w I β hp v (.agg cs))
  (h:(Py P n e cs i).run C hp=some (r,rd)):dk P ((Instr.index t v (.int k i)).run P w) w I β hp B M w0 r:=by
 obtain ⟨xs,rfl,h1,h2⟩:=hv.np;unfold Py at h;obtain ⟨hc,h⟩:=aD h;obtain ⟨y,hy,h⟩:=od h;obtain rfl:=aN h;simp only[aJ,mZ,aL] at hc;obtain ⟨c1,c2,c3,c4,c5⟩:=hc;obtain ⟨d,ui⟩:=BW c1;obtain ⟨j,hi⟩:=xo ui;have bc:j.size=1:=by rw[←c3];simp[Program.cellsOf,hi]
 unfold idx at hy;cases h0:decide (0≤i) with
 | false=>rw[h0] at hy;cases hy
 | true=>
  rw[h0] at hy;simp only[cond_true] at hy;have h0:0≤i:=of_decide_eq_true h0;have aZ:i.toNat<cs.length:=(cw.1 hy).1;have Za:i.toNat<xs.size:=by rw[h1];exact aZ
  have dN:=gU.1 c5 y (my hy);cases y<;>(try (cases dN;done))
  refine .same S (v:=xs[i.toNat]) ?_ (h2 _ _ _ (la Za) hy);have mJ:i<(n:Int):=by omega
  simp[Instr.index,asIntOf,run_underlying hu,h0,mJ,part,Kd ui,c4,sizeOf,typeInfo,hi,bc,Za]
theorem Q4 (S:az P w I β hp B M w0) (mx:Bool): ∀{vs:List Value} {xs:List V} {v:Value} {x:V} {r:R} {rd:List Nat},aj P w I β hp v x→vs.length=xs.length→
  (∀(j:Nat) u y,vs[j]? =some u→xs[j]? =some y→aj P w I β hp u y)→(BB mx x xs).run C hp=some (r,rd)→
  dk P ((vs.foldlM (if mx then Builtin.max2 else Builtin.min2) v).run P w) w I β hp B M w0 r
 | [],[],v,x,r,rd,hv,_,_,h=>by
  have:r=⟨x,[]⟩:=by
   cases x<;>(simp only[BB] at h;exact (aN h).symm)
  subst this;exact .same S (by simp) hv
 | [],_::_,v,x,r,rd,hv,hl,_,h=>by simp at hl
 | _::_,[],v,x,r,rd,hv,hl,_,h=>by simp at hl
 | u::vs,y::xs,v,x,r,rd,hv,hl,hx,h=>by
  cases x<;>cases y<;>simp only[BB] at h<;>first|(cases h;done)|skip
  rename_i k a k' b;obtain ⟨hc,h4⟩:=aD h;clear h;obtain rfl:k=k':=by grind
  have hu:=hx 0 u _ rfl rfl;rw[hv.fQ,hu.fQ];have ih:=Q4 S mx (vs:=vs) (xs:=xs) (v:= .int k (bif mx then (if b>a then b else a) else (if b<a then b else a))) .int (by grind)
   (fun j u y h1 h2=>hx (j+1) u y (by grind) (by grind)) h4
  cases mx with
  | true=>simpa[List.foldlM_cons,Builtin.max2] using ih
  | false=>simpa[List.foldlM_cons,Builtin.min2] using ih
theorem uj {n cap:Nat} {isS:Bool} {lo hi:Option V} {lov hiv:Option Value} {k:Nat→Nat→Rd R} {r:R} {rd:List Nat} (hn:n≤cap)
  (nD: ∀x,lo=some x→∃v,lov=some v∧aj P w I β hp v x) (mg: ∀x,hi=some x→∃v,hiv=some v∧aj P w I β hp v x) (qC:lo=none→lov=none) (rN:hi=none→hiv=none)
  (h:(vc n lo hi k).run C hp=some (r,rd)): ∃l u,l≤u∧u≤n∧(Instr.sliceBounds isS n cap lov hiv none).run P w= .ok (l,u,cap) w∧(k l u).run C hp=some (r,rd):=by
 have ok: ∀(kk:IntKind) (i:Int) (y:Nat) (c:BoundsCode),0≤i→i≤y→(Instr.sliceBound (.int kk i) y c).run P w= .ok i.toNat w:=by
  intro kk i y c h1 h2;simp[Instr.sliceBound,asIntOf,h1,h2]
 unfold vc at h;cases lo with
 | none=>
  rw[qC rfl];cases hi with
  | none=>
   rw[rN rfl];exact ⟨0,n,nf _,aw _,by simp[Instr.sliceBounds],h⟩
  | some x=>
   obtain ⟨v,rfl,hv⟩:=mg x rfl;cases x<;>simp only at h<;>first|(cases h;done)|skip
   rename_i kk u;obtain ⟨hc,h⟩:=aD h;simp only[aJ,jL] at hc;rw[hv.fQ];have:=ok kk u cap (if isS then .sliceAcap else .sliceAlen) hc.1 (by omega);exact ⟨0,u.toNat,nf _,by omega,by simp[Instr.sliceBounds,this],h⟩
 | some x=>
  obtain ⟨v,rfl,hv⟩:=nD x rfl;cases hi with
  | none=>
   rw[rN rfl];cases x<;>simp only at h<;>first|(cases h;done)|skip
   rename_i kk l;obtain ⟨hc,h⟩:=aD h;simp only[aJ,jL] at hc;rw[hv.fQ];have:=ok kk l n .sliceB hc.1 (by omega);exact ⟨l.toNat,n,by omega,aw _,by simp[Instr.sliceBounds,this],h⟩
  | some y=>
   obtain ⟨v2,rfl,nj⟩:=mg y rfl;cases x<;>cases y<;>simp only at h<;>first|(cases h;done)|skip
   rename_i kk l kk2 u;obtain ⟨hc,h⟩:=aD h;simp only[aJ,jL] at hc;rw[hv.fQ,nj.fQ];have h1:=ok kk2 u cap (if isS then .sliceAcap else .sliceAlen) (by omega) (by omega);have h2:=ok kk l u.toNat .sliceB hc.1 (by omega);exact ⟨l.toNat,u.toNat,by omega,by omega,by simp[Instr.sliceBounds,h1,h2],h⟩
theorem Lb {a:Option Addr} {t e:TypeId} {i:TypeInfo} (hu:P.underlying t=some (.slice e)) (hi:P.info? e=some i) {lov hiv:Option Value}
  (hb:(Instr.sliceBounds true 0 0 lov hiv none).run P w= .ok (0,0,0) w):(Instr.sliceAt t (.slice a 0 0) lov hiv none).run P w= .ok (.slice a 0 0) w:=by
 cases a<;>simp[Instr.sliceAt,Instr.slice,run_underlying hu,hb,sizeOf,typeInfo,hi]
theorem Q5 {t e:TypeId} {i:TypeInfo} {b o len cap l u:Nat} (hu:P.underlying t=some (.slice e)) (hi:P.info? e=some i) {lov hiv:Option Value} (huc:u≤cap)
  (hb:(Instr.sliceBounds true len cap lov hiv none).run P w= .ok (l,u,cap) w): ∃o',(0<u-l→o'=o+l*i.size)∧(Instr.sliceAt t (.slice (some ⟨b,o,none⟩) len cap) lov hiv none).run P w= .ok (.slice (some ⟨b,o',none⟩) (u-l) (cap-l)) w:=by
 by_cases hc:cap=l
 ·subst hc;refine ⟨o,fun h=>by omega,?_⟩
  ·simp[Instr.sliceAt,Instr.slice,run_underlying hu,hb,sizeOf,typeInfo,hi]
 ·refine ⟨o+l*i.size,fun _=>rfl,?_⟩;simp[Instr.sliceAt,Instr.slice,run_underlying hu,hb,sizeOf,typeInfo,hi,hc,oh]
theorem aka (s:ByteArray) (l:List UInt8) (h:s.data.toList=l) (a b:Nat):(s.extract a b).data.toList=(l.drop a).take (b-a):=by
 simp_all
theorem akb (S:az P w I β hp B M w0) {t:TypeId} {v:Value} {x:V} {lo hi:Option V} {lov hiv:Option Value} {r:R} {rd:List Nat} (hv:aj P w I β hp v x)
  (nD: ∀x,lo=some x→∃v,lov=some v∧aj P w I β hp v x) (mg: ∀x,hi=some x→∃v,hiv=some v∧aj P w I β hp v x) (qC:lo=none→lov=none) (rN:hi=none→hiv=none)
  (h:(JS P t x lo hi).run C hp=some (r,rd)):dk P ((Instr.sliceAt t v lov hiv none).run P w) w I β hp B M w0 r:=by
 unfold JS at h;cases hu:P.underlying t with
 | none=>rw[hu] at h;cases h
 | some d=>
  rw[hu] at h;cases d<;>simp only at h<;>first|(cases h;done)|skip
  case string=>
   cases x<;>simp only at h<;>first|(cases h;done)|skip
   rename_i l;obtain ⟨s,rfl,hs⟩:=hv.oJ;have bc:l.length=s.size:=by rw[←hs];simp
   obtain ⟨a,u,h1,h2,h3,h4⟩:=uj (isS:=false) (cap:=s.size) (by omega) nD mg qC rN h;obtain rfl:=aN h4;rw[bc] at h3;refine .same S (v:= .string (s.extract a u)) ?_ (.str (aka s l hs a u));simp[Instr.sliceAt,Instr.slice,run_underlying hu,h3]
  case slice e=>
   cases x<;>simp only at h<;>first|(cases h;done)|skip
   case list e' es=>
    obtain ⟨hc,h⟩:=aD h;simp only[aJ,aL] at hc;obtain ⟨gv,aq⟩:=hc;obtain ⟨i,z,bu,_,bc,_⟩:=kL aq;cases hv with
    | list hp'=>
     cases hp' with
     | nil=>
      obtain ⟨a,u,h1,h2,h3,h4⟩:=uj (n:=0) (isS:=true) (cap:=0) (aw _) nD mg qC rN h;obtain rfl:=aN h4;obtain rfl:u=0:=by omega
      obtain rfl:a=0:=by omega
      exact .same S (Lb hu bu h3) (by simpa using aj.list ko.nil)
     | @emp ad cap=>
      obtain ⟨a,u,h1,h2,h3,h4⟩:=uj (n:=0) (isS:=true) (cap:=cap) (nf _) nD mg qC rN h;obtain rfl:=aN h4;obtain rfl:u=0:=by omega
      obtain rfl:a=0:=by omega
      refine .same S (v:= .slice (some ad) 0 cap) ?_ (by simpa using aj.list ko.emp);by_cases hc:cap=0
      ·subst hc;simp[Instr.sliceAt,Instr.slice,run_underlying hu,h3,sizeOf,typeInfo,bu]
      ·simp[Instr.sliceAt,Instr.slice,run_underlying hu,h3,sizeOf,typeInfo,bu,hc,Addr.add]
     | @list b o len cap _ g hl bS hI gF hx=>
      obtain ⟨a,u,h1,h2,h3,h4⟩:=uj (isS:=true) (cap:=cap) (by omega) nD mg qC rN h;obtain rfl:=aN h4;rw[hl] at h2 h3;obtain ⟨o',sA,cK⟩:=Q5 (b:=b) (o:=o) hu bu (by omega) h3;have jG:e=e':=gv;refine .same S cK (.list ?_);rw[←jG];rw[←jG] at gF hx hI;have hlen:((es.drop a).take (u-a)).length=u-a:=by simp;omega
      refine .list (fun i j=>g (a+i) j) hlen (by omega) (fun j hj=> ?_) (fun i j hi hj=> ?_) (fun i j y t' hy ht=> ?_)
      ·have gh:0<u-a:=Nat.pos_of_ne_zero fun e=>by grind
       rw[sA (by omega),bc,yv];refine hI _ (oF (Nat.add_lt_add_left hj _) ?_);rw[←kZ];exact fa _ (by omega)
      all_goals grind
   case whole e' id=>
    obtain ⟨l,h⟩:=run_get h;cases ae:hp id with
    | none=>rw[ae] at h;cases h
    | some blk=>
     rw[ae] at h;cases blk<;>simp only at h<;>first|(cases h;done)|skip
     rename_i dV es fz;obtain ⟨hc,h9⟩:=aD h;clear h;simp only[aJ,aL] at hc;obtain ⟨gv,gb,aq⟩:=hc;obtain ⟨i,z,bu,_,bc,_⟩:=kL aq;cases hv with
     | dW hd=>grind
     | dM hd=>grind
     | eb hd=>grind
     | fA hd=>grind
     | dS hd hb=>
      rw[ae] at hd;cases hd;obtain ⟨a,u,h1,h2,h3,h4⟩:=uj (n:=0) (isS:=true) (cap:=0) (aw _) nD mg qC rN h9;obtain rfl:=aN h4;obtain rfl:u=0:=by omega
      obtain rfl:a=0:=by omega
      exact .same S (Lb hu bu h3) (.iX ae hb)
     | @whole _ _ aK pk b cap hd hb Cr bS hm=>
      have fO:=hd;rw[ae] at hd;cases hd;obtain ⟨a,u,h1,h2,h3,h4⟩:=uj (isS:=true) (cap:=cap) bS nD mg qC rN h9;obtain rfl:=aN h4;obtain ⟨o',sA,cK⟩:=Q5 (b:=b) (o:=0) hu bu (by omega) h3;have jG:e=e':=gv;exact .same S cK (.sub fO hb (by omega) (by omega) (fun h=>by grind))
   case sub e' id off len=>
    obtain ⟨l,h⟩:=run_get h;cases ae:hp id with
    | none=>rw[ae] at h;cases h
    | some blk=>
     rw[ae] at h;cases blk<;>simp only at h<;>first|(cases h;done)|skip
     rename_i dV es fz;obtain ⟨hc,h⟩:=aD h;simp only[aJ,aL] at hc;obtain ⟨gv,gb,aq⟩:=hc;obtain ⟨i,z,bu,_,bc,_⟩:=kL aq;cases hv with
     | jx hd=>grind
     | iX hd hb=>
      have fO:=hd;obtain ⟨a,u,h1,h2,h3,h4⟩:=uj (isS:=true) (cap:=0) (aw _) nD mg qC rN h;obtain rfl:=aN h4;obtain rfl:u=0:=by omega
      obtain rfl:a=0:=by omega
      exact .same S (Lb hu bu h3) (.iX fO hb)
     | @sub _ _ _ _ aK pk b o cap hd hb mG bS ho=>
      have fO:=hd;obtain ⟨a,u,h1,h2,h3,h4⟩:=uj (isS:=true) (cap:=cap) bS nD mg qC rN h;obtain rfl:=aN h4;obtain ⟨o',sA,cK⟩:=Q5 (b:=b) (o:=o) hu bu (by omega) h3;have jG:e=e':=gv;exact .same S cK (.sub fO hb (by omega) (by omega) (fun h=>by grind))
  case array n e=>
   cases x<;>simp only at h<;>first|(cases h;done)|skip
   rename_i id j c;obtain ⟨l0,h⟩:=run_get h;cases ae:hp id with
   | none=>rw[ae] at h;cases h
   | some blk=>
    rw[ae] at h;cases blk<;>simp only at h<;>first|(cases h;done)|skip
    rename_i e' es fz;obtain ⟨hc,h9⟩:=aD h;clear h;simp only[aJ,aL] at hc;obtain ⟨rfl,rfl,rfl,rfl,aq⟩:=hc;obtain ⟨i,z,bu,_,bc,_⟩:=kL aq;obtain ⟨a,u,h1,h2,h3,h4⟩:=uj (isS:=false) (cap:=es.length) (aw _) nD mg qC rN h9;obtain rfl:=aN h4;obtain ⟨b,hb,rfl⟩:=hv.ja ae (by simp);have cK:(Instr.sliceAt t (.pointer (some ⟨b,0*(ah.arr e es fz).sz P+0,none⟩)) lov hiv none).run P w= .ok (.slice (some ⟨b,if es.length=a then 0 else a*P.cellsOf e,none⟩) (u-a) (es.length-a)) w:=by
     rw[←bc];simp[Instr.sliceAt,run_underlying hu,h3,sizeOf,typeInfo,bu,Instr.sureAddr];split<;>simp[oh]
    exact .same S cK (.sub ae hb (by omega) (by omega) (fun h=>by grind))
theorem akc (S:az P w I β hp B M w0) {t:TypeId} {v:Value} {x:V} {lo hi mx:Option V} {lov hiv Zb:Option Value} {r:R} {rd:List Nat} (hv:aj P w I β hp v x)
  (nD:lo=none→lov=none) (mg: ∀y,hi=some y→∃u,hiv=some u∧aj P w I β hp u y) (sC: ∀y,mx=some y→∃u,Zb=some u∧aj P w I β hp u y)
  (h:(Pu P t x lo hi mx).run C hp=some (r,rd)):dk P ((Instr.sliceAt t v lov hiv Zb).run P w) w I β hp B M w0 r:=by
 unfold Pu at h;split at h
 ·rename_i e e' id _ hh _ m hu;obtain ⟨l,h⟩:=run_get h;cases ae:hp id with
  | none=>rw[ae] at h;cases h
  | some blk=>
   rw[ae] at h;cases blk<;>simp only at h<;>first|(cases h;done)|skip
   rename_i dV es fz;obtain ⟨hc,h9⟩:=aD h;clear h;simp only[aJ,aL,jL] at hc;obtain ⟨rfl,rfl,aq,h0,h1,h2⟩:=hc;obtain rfl:=aN h9;obtain ⟨i,z,bu,_,_,_⟩:=kL aq;obtain ⟨u1,rfl,k1⟩:=mg _ rfl;obtain ⟨u2,rfl,k2⟩:=sC _ rfl;rw[k1.fQ,k2.fQ,nD rfl];have run: ∀{k k2:IntKind} (a:Option Addr) (len cap:Nat),m≤cap→(Instr.sliceAt t (.slice a len cap) none (some (.int k hh)) (some (.int k2 m))).run P w= .ok (.slice (if m.toNat=0 then a else a.map (·.add 0)) hh.toNat m.toNat) w:=by
    intro k k2 a len cap hm;obtain ⟨m,rfl⟩:=Jw (Int.le_trans h0 h1);obtain ⟨hh,rfl⟩:=Jw h0;have c1:m≤cap:=by omega
    have c2:hh≤m:=by omega
    cases a<;>simp[Instr.sliceAt,Instr.slice,Instr.sliceBounds,Instr.sliceBound,asIntOf,run_underlying hu,sizeOf,typeInfo,bu,c1,c2]
   cases hv with
   | dW hd=>grind
   | dM hd=>grind
   | eb hd=>grind
   | fA hd=>grind
   | dS hd hb=>
    rw[ae] at hd;cases hd;obtain rfl:m=0:=by simp at h2;omega
    obtain rfl:hh=0:=by omega
    exact .same S (run _ _ _ (by omega)) (.iX ae hb)
   | whole hd hb bc bS hm=>
    rw[ae] at hd;cases hd;refine .same S (run _ _ _ (by omega)) ?_;have e0: ∀b,(if m.toNat=0 then (some ⟨b,0,none⟩:Option Addr) else (some ⟨b,0,none⟩:Option Addr).map (·.add 0))=some ⟨b,0,none⟩:=by intro b;split<;>simp[oh]
    rw[e0];exact .sub ae hb (by omega) (by omega) (fun _=>by simp)
 ·cases h
theorem Zc (S:az P w I β hp B M w0) {t:TypeId} {v ix:Value} {x y:V} {r:R} {rd:List Nat} (hv:aj P w I β hp v x) (hy:aj P w I β hp ix y) (mI: ∀e es,x≠ .nl e es)
  (h:(yC P t x y).run C hp=some (r,rd)):dk P ((Instr.indexAt t v ix).run P w) w I β hp B M w0 r:=by
 unfold yC at h;cases hu:P.underlying t with
 | none=>rw[hu] at h;cases h
 | some d=>
  rw[hu] at h;cases y<;>(try (cases d<;>cases h;done))
  rename_i k i;rw[hy.fQ];cases d<;>simp only at h<;>first|(cases h;done)|skip
  case slice e=>
   have run: ∀(b o len cap:Nat) (ie:TypeInfo),P.info? e=some ie→0≤i→i<(len:Int)→(Instr.indexAt t (.slice (some ⟨b,o,none⟩) len cap) (.int k i)).run P w= .ok (.pointer (some ⟨b,o+i.toNat*ie.size,none⟩)) w:=by
    intro b o len cap ie nB h0 h1;simp[Instr.indexAt,asIntOf,run_underlying hu,h0,h1,sizeOf,typeInfo,nB,oh]
   cases x<;>simp only at h<;>first|(cases h;done)|skip
   case nl e' es=>exact absurd rfl (mI _ _)
   case list e' es=>
    obtain ⟨hc,h⟩:=aD h;simp only[aJ,aL] at hc;obtain ⟨gv,aq⟩:=hc;have jG:e=e':=gv;obtain ⟨ie,z,bu,_,bc,_⟩:=kL aq;obtain ⟨el,fD,h⟩:=od h;obtain rfl:=aN h;unfold idx at fD;cases h0:decide (0≤i) with
    | false=>grind
    | true=>
     rw[h0] at fD;simp only[cond_true] at fD;have QR:0≤i:=by grind
     have aZ:i.toNat<es.length:=(cw.1 fD).1;cases hv with
     | list hp'=>
      cases hp' with
      | nil=>simp at aZ
      | emp=>simp at aZ
      | @list b o len cap _ g hl bS hI gF hx=>
       rw[←jG] at gF hx hI;refine .same S (run b o len cap ie bu QR (by omega)) ?_;have eB:=BV (P:=P) e el;have Zd:=fB aq;have Ze:(bif bZ P e then flat P e else [e])=aT P e:=rfl;rw[Ze];have akd:ie.size=P.cellsOf e:=by omega
       refine .pref (by rw[eB]) (fun j hj=> ?_) (fun j t' y' ht PX=> ?_)
       ·rw[yv,akd];exact hI _ (PJ (by omega) (by omega))
       ·obtain ⟨t2,a1,a2⟩:=PZ PX;rw[ht] at a1;cases a1;have hj:j<P.cellsOf e:=by grind
        have gf:=hx i.toNat j el t' fD ht;refine ⟨g i.toNat j,?_,?_⟩
        ·grind
        ·rw[a2,gf.xp];exact gf
   case whole e' id=>
    obtain ⟨l,h⟩:=run_get h;cases ae:hp id with
    | none=>rw[ae] at h;cases h
    | some blk=>
     rw[ae] at h;cases blk<;>simp only at h<;>first|(cases h;done)|skip
     rename_i dV es fz;obtain ⟨hc,h⟩:=aD h;simp only[aJ,aL] at hc;obtain ⟨gv,gb⟩:=hc;obtain ⟨fS,h⟩:=aD h;simp only[aJ,jL] at fS;obtain rfl:=aN h;cases hv with
     | dW hd=>grind
     | dM hd=>grind
     | eb hd=>grind
     | fA hd=>grind
     | dS hd hb=>grind
     | @whole _ _ aK pk b cap hd hb Cr bS hm=>
      have fO:=hd;rw[ae] at hd;cases hd;have hr:=S.h.rel id _ ae;cases hr with
      | ey av=>grind
      | arr hL aq av hh hs hf fH hx=>
       have jG:e=e':=gv;obtain ⟨ie,z,bu,_,bc,_⟩:=kL aq;rw[←jG] at bu bc;refine .same S (run b 0 _ cap ie bu fS.1 fS.2) ?_;have:=aj.ptr (P:=P) (w:=w) (I:=I) (i:=i.toNat) (c:=0) fO (by simp) hb;simp only[ah.sz] at this;grind
     rename_i dV es vers;obtain ⟨hc,h⟩:=aD h;simp only[aJ,aL] at hc;obtain ⟨gv,gb⟩:=hc;obtain ⟨fS,h⟩:=aD h;simp only[aJ,jL] at fS;obtain rfl:=aN h;cases hv with
     | dW hd=>grind
     | dS hd hb=>grind
     | whole hd=>grind
     | eb hd hb=>grind
     | fA hd=>grind
     | @dM _ _ aK vers' b cap hd hb Cr bS hm=>
      have fO:=hd;rw[ae] at hd;cases hd;have aq:=(S.rows fO hb .here).ok;have jG:e=e':=gv;obtain ⟨ie,z,bu,_,bc,_⟩:=kL aq;rw[←jG] at bu bc;refine .same S (run b 0 _ cap ie bu fS.1 fS.2) ?_;have:=aj.ptr (P:=P) (w:=w) (I:=I) (i:=i.toNat) (c:=0) fO (by simp) hb;simp only[ah.sz] at this;grind
     rename_i dV es vers j0;obtain ⟨hc,h⟩:=aD h;simp only[aJ,aL] at hc;obtain ⟨gv,gb⟩:=hc;obtain ⟨fS,h⟩:=aD h;simp only[aJ,jL] at fS;obtain rfl:=aN h;cases hv with
     | dW hd=>grind
     | dS hd hb=>grind
     | whole hd=>grind
     | eb hd hb=>grind
     | dM hd=>grind
     | @fA _ _ j1 aK vers' b cap hd hb Cr bS hm=>
      have fO:=hd;rw[ae] at hd;cases hd;have jG:e=e':=gv;obtain ⟨ie,bu⟩: ∃ie,P.info? e=some ie:=by
       have hr:=S.h.rel id _ fO;cases hr with
       | out _ ji _ _ _ _ _ _ _ _=>rw[jG];exact xo ji
      have bc:ie.size=P.cellsOf e:=by simp[Program.cellsOf,bu]
      refine .same S (run b 0 _ cap ie bu fS.1 fS.2) ?_;have:=aj.ptr (P:=P) (w:=w) (I:=I) (i:=i.toNat) (c:=0) fO (by simp) hb;simp only[ah.sz] at this;grind
   case row e' id ver path=>
    obtain ⟨e0,es,vers,l,ae,h1,h2,h3,h⟩:=rB h;obtain ⟨e2,v',k1,k2,h⟩:=BL h;obtain ⟨hc,h⟩:=aD h;simp only[aJ,aL] at hc;obtain ⟨gv,gb⟩:=hc;obtain ⟨fS,h⟩:=aD h;simp only[aJ,jL] at fS;obtain rfl:=aN h;cases hv with
    | mE hd hp'=>rw[ae] at hd;cases hd;exact absurd hp' (BM h1 h2 h3)
    | @row v _ e0 t1 _ ver b i1 c1 q es l1 vers hd hb hq QL ht gF=>
     have ake:=gF;obtain ⟨b',e3,aK,Ca,T,f,x,m1,m2,m3,m4,m5,m6⟩:=gF;have BP:=hd;rw[ae] at BP;cases BP;obtain ⟨n1,n2⟩:=J9 m1 m3 m4 ht m5;rw[n2] at k2;cases k2;simp only[V.toList] at fS;have hR:=S.rows hd hb m1;obtain ⟨C1,_,c2,_,c3,c4⟩:=hR.cells;rw[m2] at c2;cases c2;have hj:c1<P.cellsOf e3:=by
      rw[←fB hR.ok];grind
     obtain ⟨v2,d1,d2⟩:=c4 _ _ _ _ m3 m4 hj;rw[m6] at d1;cases d1;rw[m5] at d2;cases d2 with
     | gu a _=>unfold dU at a;grind
     | emp _=>grind
     | @row _ _ b1 cap _ hl _ _ _=>
      have aq:=(S.rows hd hb (m1.snoc m2 m3 m4 ht m5 hl m6)).ok;have jG:e=e':=gv;obtain ⟨ie,z,bu,_,bc,_⟩:=kL aq;rw[←jG] at bu bc;refine .same S (run b1 0 _ cap ie bu fS.1 fS.2) ?_;have:=aj.dE (P:=P) (I:=I) (i:=i.toNat) (c:=0) hd hb hq QL ht hl ake;grind
   case sub e' id off len=>
    obtain ⟨l,h⟩:=run_get h;cases ae:hp id with
    | none=>rw[ae] at h;cases h
    | some blk=>
     rw[ae] at h;cases blk<;>simp only at h<;>first|(cases h;done)|skip
     rename_i dV es fz;obtain ⟨hc,h⟩:=aD h;simp only[aJ,aL] at hc;obtain ⟨gv,gb⟩:=hc;obtain ⟨fS,h⟩:=aD h;simp only[aJ,jL] at fS;obtain rfl:=aN h;cases hv with
     | jx hd=>grind
     | iX hd hb=>omega
     | @sub _ _ _ _ aK pk b o cap hd hb mG bS ho=>
      have fO:=hd;rw[ae] at hd;cases hd;have hr:=S.h.rel id _ ae;cases hr with
      | ey av=>grind
      | arr hL aq av hh hs hf fH hx=>
       have jG:e=e':=gv;obtain ⟨ie,z,bu,_,bc,_⟩:=kL aq;rw[←jG] at bu bc;refine .same S (run b o _ cap ie bu fS.1 fS.2) ?_;have:=aj.ptr (P:=P) (w:=w) (I:=I) (i:=off+i.toNat) (c:=0) fO (by simp) hb;simp only[ah.sz] at this;grind
  case array n e=>
   have run: ∀(b o:Nat) (ie:TypeInfo),P.info? e=some ie→0≤i→i<(n:Int)→(Instr.indexAt t (.pointer (some ⟨b,o,none⟩)) (.int k i)).run P w= .ok (.pointer (some ⟨b,o+i.toNat*ie.size,none⟩)) w:=by
    intro b o ie nB h0 h1;simp[Instr.indexAt,asIntOf,run_underlying hu,h0,h1,sizeOf,typeInfo,nB,oh,Instr.sureAddr]
   cases x<;>simp only at h<;>first|(cases h;done)|skip
   case ptr id j c=>
    obtain ⟨fS,h⟩:=aD h;simp only[aJ,jL] at fS;obtain ⟨d,ui⟩:=BW fS.1;obtain ⟨ie,nB⟩:=xo ui;have bc:ie.size=P.cellsOf e:=by simp[Program.cellsOf,nB]
    obtain ⟨l,h⟩:=run_get h;have fe: ∀blk,hp id=some blk→blk≠ .dead→dk P ((Instr.indexAt t v (.int k i)).run P w) w I β hp B M w0 ⟨.ptr id j (c+i.toNat*P.cellsOf e),[]⟩:=fun blk ae hd=>by
     obtain ⟨b,hb,rfl⟩:=hv.ja ae hd;refine .same S (run b _ ie nB fS.2.1 fS.2.2) ?_;rw[bc,yv];exact .ptr ae hd hb
    have new: ∀blk,hp id=some blk→blk≠ .dead→blk.sz P=P.cellsOf e→j=0→c=0→dk P ((Instr.indexAt t v (.int k i)).run P w) w I β hp B M w0 ⟨.ptr id i.toNat 0,[]⟩:=fun blk ae hd hz hj hc=>by
     obtain ⟨b,hb,rfl⟩:=hv.ja ae hd;refine .same S (run b _ ie nB fS.2.1 fS.2.2) ?_;have:=aj.ptr (P:=P) (w:=w) (I:=I) (i:=i.toNat) (c:=0) ae hd hb;grind
    cases ae:hp id with
    | none=>rw[ae] at h;cases h
    | some blk=>
     rw[ae] at h;cases blk with
     | var T cs=>obtain rfl:=aN h;grind
     | arr e' es fz=>
      cases he:Nat.beq e e' with
      | true=>
       simp only[he,cond_true] at h;rw[aL] at he;subst he;obtain ⟨hc,h⟩:=aD h;simp only[aJ,aL] at hc;obtain rfl:=aN h;exact new _ ae (by simp) rfl hc.1 hc.2
      | false=>
       simp only[he,cond_false] at h;obtain rfl:=aN h;grind
     | nest e' es vs=>
      cases he:Nat.beq e e' with
      | true=>
       simp only[he,cond_true] at h;rw[aL] at he;subst he;obtain ⟨hc,h⟩:=aD h;simp only[aJ,aL] at hc;obtain rfl:=aN h;exact new _ ae (by simp) rfl hc.1 hc.2
      | false=>
       simp only[he,cond_false] at h;obtain rfl:=aN h;grind
     | _=>cases h
   case pref ts cs=>
    obtain ⟨fS,h⟩:=aD h;simp only[aJ,jL] at fS;obtain rfl:=aN h;obtain ⟨b,o,rfl,h1,h2,h3⟩:=hv.ET;obtain ⟨d,ui⟩:=BW fS.1;obtain ⟨ie,nB⟩:=xo ui;have bc:ie.size=P.cellsOf e:=by simp[Program.cellsOf,nB]
    refine .same S (run b _ ie nB fS.2.1 fS.2.2) ?_;rw[bc];exact aj.Xp h1 h2 h3
theorem akf (S:az P w I β hp B M w0) {t:TypeId} {v ix:Value} {x y:V} {r:R} {rd:List Nat} (hv:aj P w I β hp v x) (hy:aj P w I β hp ix y)
  (h:(yC P t x y).run C hp=some (r,rd)):dk P ((Instr.indexAt t v ix).run P w) w I β hp B M w0 r:=by
 cases x with
 | nl e es=>
  cases hv with
  | nl q _=>
   have e1:yC P t (.nl e es) y=yC P t (.list e es) y:=by unfold yC;split<;>rfl
   rw[e1] at h;exact Zc S (x:= .list e es) (.list q) hy (fun _ _ h=>by cases h) h
 | _=>exact Zc S hv hy (fun _ _ h=>by cases h) h
end
end Go.AM
namespace Go.AM
open Go.Maps
section
variable {P:Program} {w w':World} {I I':Nat→Nat→Prop} {β β':Nat→Option Nat} {hp hp':Nat→Option ah} {C:af} {B:Nat} {M:Nat→Prop} {w0:Start}
theorem akg (S:az P w I β hp B M w0) {nb:Nat} {t:TypeId} {v:Value} {x:V} {lo hi:Option V} {lov hiv:Option Value} {r:R} {rd:List Nat} (hv:aj P w I β hp v x)
  (mg: ∀x,hi=some x→∃v,hiv=some v∧aj P w I β hp v x) (qC:lo=none→lov=none)
  (h:(JT P nb t x lo hi).run C hp=some (r,rd)):dk P ((Instr.sliceAt t v lov hiv none).run P w) w I β hp B M w0 r:=by
 unfold JT at h;split at h
 case h_2=>cases h
 rename_i e e' id k hh hu;obtain ⟨l,h1⟩:=run_get h;cases ae:hp id with
 | none=>rw[ae] at h1;cases h1
 | some blk=>
  rw[ae] at h1;cases blk<;>simp only at h1<;>first|(cases h1;done)|skip
  rename_i e2 es fz;cases fz with
  | true=>cases h1
  | false=>
  obtain ⟨hc,h2⟩:=aD h1;simp only[aJ,aL,jL] at hc;obtain ⟨rfl,rfl,aq,hh0,hhn⟩:=hc;obtain ⟨hn,rfl⟩:=mM h2;have nD:=qC rfl;subst nD;obtain ⟨zq,rfl,hhv⟩:=mg _ rfl;obtain rfl:=hhv.fQ;obtain ⟨i,z,bu,_,bc,_⟩:=kL aq;have bN:nb≠id:=fun e=>by grind
  obtain ⟨k1,k2⟩:=xn S ae;have jh:ao hp id (some ah.dead) nb=none:=by rw[cz _ _ bN];exact hn
  have zr: ∀cap,es.length≤cap→(Instr.sliceBounds true es.length cap none (some (.int k hh)) none).run P w= .ok (0,hh.toNat,cap) w:=by
   intro cap bS;have hb:(vc es.length none (some (.int k hh)) fun l u=> .ay (decide (l=0∧u=hh.toNat)) (.ret (⟨.undef,[]⟩:R))).run C hp=some (⟨.undef,[]⟩,[]):=by
    simp[vc,Rd.run,hh0,hhn]
   obtain ⟨l,u,b1,b2,b3,b4⟩:=uj (P:=P) (w:=w) (I:=I) (β:=β) (hp:=hp) (n:=es.length) (isS:=true) (cap:=cap) (lov:=none) (hiv:=some (.int k hh)) bS (by simp) (fun x hx=>by grind) (fun _=>rfl) (by simp) hb;obtain ⟨b5,_⟩:=aD b4;grind
  cases hv with
  | dW hd=>grind
  | dM hd=>grind
  | eb hd=>grind
  | fA hd=>grind
  | @dS _ _ _ a0 hd hb=>
   rw[ae] at hd;cases hd;have P8:hh=0:=by grind
   subst P8;have av:=zr 0 (aw _);obtain ⟨a1,a2⟩:=EP k2 e jh;refine ⟨_,w,I,_,Lb hu bu av,k1.trans a1,a2,.dS (bH _ _ _) (bH _ _ _)⟩
  | @whole _ _ aK pk b cap hd hb Cr bS hm=>
   have fO:=hd;rw[ae] at hd;cases hd;have hr:=S.h.rel id _ ae;cases hr with
   | ey av=>grind
   | @arr _ _ _ _ b' Ca hL _ av Lc xI hf fH xJ=>
    rw[hb] at av;cases av;have og:(es.take hh.toNat).length=hh.toNat:=by grind
    have cK:(Instr.sliceAt t (.slice (some ⟨b,0,none⟩) es.length cap) none (some (.int k hh)) none).run P w= .ok (.slice (some ⟨b,0,none⟩) hh.toNat cap) w:=by
     have av:=zr cap bS;by_cases Zf:cap=0
     ·subst Zf;simp[Instr.sliceAt,Instr.slice,run_underlying hu,av,sizeOf,typeInfo,bu]
     ·simp[Instr.sliceAt,Instr.slice,run_underlying hu,av,sizeOf,typeInfo,bu,Zf,oh]
    have qp: ∀ar blk',ao hp id (some ah.dead) ar=some blk'→¬bf P w (β ar) blk' b:=by
     intro ar blk' h1 h2;by_cases nA:ar=id
     ·subst nA;rw[bH] at h1;cases h1;exact h2.alive rfl
     ·rw[cz _ _ nA] at h1;exact nA (S.h.inj ar id blk' _ b h1 ae h2 (.root (by simp) hb))
    obtain ⟨a1,a2⟩:=BQ k2 (blk:= .arr e (es.take hh.toNat) false) (w':=w) jh qp (fun _ _=>rfl) (fun _ _ _=>rfl) (aw _) ⟨rfl,rfl⟩ (S.h.xj id _ b ae (by simp) hb)
     (fun b' h=>(dL (h.flat (by simp))).symm) (fun hle=> .arr hL aq rfl Lc (by rw[og];exact mX (fa _ (by omega)) xI) (fun h=>by cases h) (fun _=>fH rfl) fun i j y t' hy ht hj=>by
      grind)
    refine ⟨_,w,I,_,cK,k1.trans a1,a2,?_⟩;have:=aj.whole (P:=P) (w:=w) (I:=I) (β:=ao β nb (some b)) (hp:=ao (ao hp id (some .dead)) nb (some (.arr e (es.take hh.toNat) false))) (cap:=cap) (bH _ _ _) (bH _ _ _) Cr (by omega) hm;rw[og] at this;exact this
theorem sS {t:TypeId} {x:V} (h:rp P t x=true):
  (∃q n,P.underlying t=some (.int q)∧x= .int q n∧eF q n=true)∨(∃b,P.underlying t=some .bool∧x= .bool b)∨(∃s,P.underlying t=some .string∧x= .str s∧s.length≤maxLen):=by
 unfold rp at h;split at h
 all_goals simp_all
theorem size_data (s:ByteArray):s.data.toList.length=s.size:=by simp
theorem akh {q:IntKind} {n:Int} (h:eF q n=true):(Lit.int q n).wf=true:=h
theorem Q6 {t:TypeId} {x:V} {v:Value} (h:rp P t x=true) (hv:kq v x): ∃l,mapKey P t v=some l∧∀d,P.keyLits (d+1) t [v]=some [l]:=by
 rcases sS h with ⟨q,n,hu,rfl,hn⟩|⟨b,hu,rfl⟩|⟨s,hu,rfl,hs⟩
 ·obtain rfl:v= .int q n:=hv;have hw:=akh hn;exact ⟨.int q n,by simp[mapKey,hu,hw],fun d=>by simp[Program.keyLits,hu,hw]⟩
 ·obtain rfl:v= .bool b:=hv;exact ⟨.bool b,by simp[mapKey,hu],fun d=>by simp[Program.keyLits,hu]⟩
 ·obtain ⟨s',rfl,vR⟩:=hv;have:s'.size≤maxLen:=by rw[←size_data,vR];exact hs
  exact ⟨.string s'.data.toList,by simp[mapKey,hu,this],fun d=>by simp[Program.keyLits,hu,this]⟩
theorem Q7 {t:TypeId}: ∀{xs:List V} {j:Nat} {x:V},u9 P t xs=true→xs[j]? =some x→rp P t x=true
 | [],j,x,_,h=>by simp at h
 | y::ys,0,x,h,hx=>by
  simp only[u9,aJ] at h;grind
 | y::ys,j+1,x,h,hx=>by
  simp only[u9,aJ] at h;exact Q7 (j:=j) h.2 (by grind)
theorem mapM_some {α β:Type} {f:α→Option β}: ∀{l:List α},(∀a∈l,∃b,f a=some b)→∃bs,l.mapM f=some bs
 | [],_=>⟨[],rfl⟩
 | a::l,h=>by
  obtain ⟨b,hb⟩:=h a (Bo ..);obtain ⟨bs,j7⟩:=mapM_some (l:=l) fun x hx=>h x (nX _ hx);simp_all
structure xK (P:Program) (t:TypeId) (fs:Array Field):Prop where
 hu:P.underlying t=some (.struct fs)
 size:P.cellsOf t=fs.size
 at_ : ∀ (i : Nat) f, fs[i]? = some f → f.offset = i ∧ P.cellsOf f.type = 1 ∧ (f.name != "_") = true ∧ P.plainKey f.type = true
 free:(!(P.cutTypes.any (·.2==t))&& !P.stoodInHeld t)=true
 runs:P.runs 0 fs.toList=some fs.size
theorem Zg: ∀{k:Nat} {l:List Field},JN P k l=true→(∀(i:Nat) f,l[i]? =some f→f.offset=k+i∧P.cellsOf f.type=1)∧P.runs k l=some (k+l.length)
 | k,[],_=>⟨fun i f h=>by simp at h,by simp[Program.runs]⟩
 | k,f::l,h=>by
  simp only[JN,aJ,aL] at h;obtain ⟨a,b⟩:=Zg (l:=l) h.2;refine ⟨fun i g hg=> ?_,?_⟩
  ·grind
  ·simp only[Program.runs];grind
theorem aki {t:TypeId} {fs:Array Field} (hu:P.underlying t=some (.struct fs)) (h:Pm P t fs=true):xK P t fs:=by
 unfold Pm at h;rw[aJ,aJ,aJ] at h;obtain ⟨⟨h1,h2⟩,h3,h4⟩:=h;rw[aL] at h1;obtain ⟨a,b⟩:=Zg h2;rw[dq,Array.length_toList] at b;refine ⟨hu,h1,fun i f hf=> ?_,h4,b⟩;obtain ⟨a1,a2⟩:=a i f (by grind);grind
theorem akj {t:TypeId} (hp:P.plainKey t=true) (m:Nat):P.keyTypeAt (m+1) t=true:=by
 unfold Program.plainKey at hp;unfold Program.keyTypeAt;grind
theorem akk {t:TypeId} (hp:P.plainKey t=true) (m:Nat):P.tiled (m+1) t=true:=by
 unfold Program.plainKey at hp;unfold Program.tiled;grind
theorem xK.at {t:TypeId} {fs:Array Field} (A:xK P t fs) (m:Nat):P.keyTypeAt (m+2) t=true:=by
 unfold Program.keyTypeAt;rw[A.hu];have hf:=A.free;rw[aJ] at hf;simp only;rw[aJ,aJ];refine ⟨⟨Array.all_eq_true.2 fun i hi=> ?_,hf.1⟩,hf.2⟩;obtain ⟨_,_,h3,h4⟩:=A.at_ i fs[i] (la hi);rw[aJ];exact ⟨h3,akj h4 m⟩
theorem xK.tiled {t:TypeId} {fs:Array Field} (A:xK P t fs):P.tiled 2 t=true:=by
 unfold Program.tiled;rw[A.hu];simp only;rw[aJ];refine ⟨by rw[A.runs,A.size];simp,Array.all_eq_true.2 fun i hi=> ?_⟩;exact akk (A.at_ i fs[i] (la hi)).2.2.2 0
theorem xK.law {t:TypeId} {fs:Array Field} (A:xK P t fs):WideMaps.KeyLaw P t:=deep_law (m:=2) (by omega) (A.at 0) A.tiled (by rw[A.hu])
theorem Ld: ∀{ts:List TypeId} {xs:List V},va P ts xs=true→xs.length=ts.length∧∀(j:Nat) t x,ts[j]? =some t→xs[j]? =some x→rp P t x=true
 | [],[],_=>⟨rfl,fun j t x h=>by simp at h⟩
 | [],_::_,h=>by cases h
 | _::_,[],h=>by cases h
 | t::ts,x::xs,h=>by
  simp only[va,aJ] at h;obtain ⟨a,b⟩:=Ld h.2;grind
inductive Lf (P:Program) (t:TypeId) (x:V):Prop
 | one:rp P t x=true→x.cells=[x]→Lf P t x
 | arr {n:Nat} {e:TypeId} {xs:List V}:x= .agg xs→WideMaps.ArrKey P t e n→xs.length=n→0<P.types.size→u9 P e xs=true→Lf P t x
 | str {fs:Array Field} {xs:List V}:x= .agg xs→xK P t fs→0<P.types.size→va P (fs.toList.map (·.type)) xs=true→Lf P t x
theorem zs {t:TypeId} {x:V} (h:rq P t x=true):Lf P t x:=by
 unfold rq at h;split at h
 ·rename_i n e xs hu;simp only[aJ,aL] at h;rw[mY] at h;exact .arr rfl ⟨hu,h.2.2.2.1,h.2.1,h.2.2.1⟩ h.1 h.2.2.2.2.1 h.2.2.2.2.2
 ·rename_i fs xs hu;rw[aJ,aJ,mY] at h;exact .str rfl (aki hu h.1) h.2.1 h.2.2
 ·refine .one h ?_;rcases sS h with ⟨q,n,hu,rfl,hn⟩|⟨b,hu,rfl⟩|⟨s,hu,rfl,hs⟩<;>rfl
theorem vm.one {x:V} {v:Value} (h:vm v x) (hx:x.cells=[x]):kq v x:=by
 cases x<;>first|exact h|skip
 simp only[V.cells] at hx;rename_i cs;have:=congrArg List.length hx;cases cs with
 | nil=>simp at hx
 | cons c cs=>
  simp only[yA] at hx;have:=congrArg SizeOf.sizeOf hx.1;grind
theorem akl {ts:List TypeId} {xs:List V} {cs:Array Value} (hf:va P ts xs=true) (hs:cs.size=xs.length) (hc: ∀(j:Nat) (u:Value) (y:V),cs[j]? =some u→xs[j]? =some y→kq u y) {i:Nat} {t:TypeId} (ht:ts[i]? =some t):
  ∃l,∀d,P.keyLits (d+1) t ((cs.toList.drop i).take 1)=some [l]:=by
 obtain ⟨a,b⟩:=Ld hf;have hi:=(cw.1 ht).1;have jE:i<cs.size:=by omega
 have vP:i<xs.length:=by omega
 obtain ⟨l,_,h2⟩:=Q6 (b i t xs[i] ht (bU vP)) (hc i cs[i] xs[i] (la jE) (bU vP));refine ⟨l,fun d=> ?_⟩;have e1:(cs.toList.drop i).take 1=[cs[i]]:=by
  rw[List.drop_eq_getElem_cons (by omega)];simp
 grind
theorem Lg {t:TypeId} {x:V} {v:Value} (h:rq P t x=true) (hv:vm v x): ∃l,Go.keyOf P t v=some l:=by
 cases zs h with
 | one h1 hx=>
  obtain ⟨l,hl,_⟩:=Q6 h1 (hv.one hx);refine ⟨l,?_⟩;rcases sS h1 with ⟨q,n,hu,_⟩|⟨b,hu,_⟩|⟨s,hu,_⟩<;>simp only[Go.keyOf,hu,hl]
 | @arr n e xs hx A hl hp0 hf=>
  subst hx;obtain ⟨cs,rfl,hs,hc⟩:=hv;obtain ⟨m,hm⟩: ∃m,P.types.size=m+1:=⟨P.types.size-1,by omega⟩
  have Q8:=A.keyType ⟨m,hm⟩;have hlen:cs.toList.length=P.cellsOf t:=by rw[A.size];grind
  have FM:(Value.agg cs).formed P t=true:=by simp[Value.formed,A.hu,A.size,hs,hl]
  have hex: ∀i∈List.range n,∃y,P.keyLits (m+1) e (((Value.agg cs).cells.toList.drop (i*P.cellsOf e)).take (P.cellsOf e))=some y:=by
   intro i hi;have hi:=ik.1 hi;rw[A.one];have jE:i<cs.size:=by omega
   have vP:i<xs.length:=by omega
   obtain ⟨l,_,h2⟩:=Q6 (Q7 hf (bU vP)) (hc i cs[i] xs[i] (la jE) (bU vP));have e1:((Value.agg cs).cells.toList.drop (i*1)).take 1=[cs[i]]:=by
    show (cs.toList.drop (i*1)).take 1=_;rw[im,List.drop_eq_getElem_cons (by omega)];simp
   simp_all
  obtain ⟨bs,j7⟩:=mapM_some hex;refine ⟨.string (keyBytes bs.flatten),?_⟩;have azt:(Value.agg cs).cells.toList.length=P.cellsOf t:=hlen;unfold Go.keyOf;rw[A.hu];simp only[Q8,FM,Bool.and_self,sf];unfold Program.keyLits;rw[A.hu,hm];grind
 | @str fs xs hx A hp0 hf=>
  subst hx;obtain ⟨cs,rfl,hs,hc⟩:=hv;obtain ⟨m,hm⟩: ∃m,P.types.size=m+1:=⟨P.types.size-1,by omega⟩
  have Q8:P.keyType t=true:=by
   unfold Program.keyType;rw[hm];exact A.at m
  have qD:=(Ld hf).1;rw[cY,Array.length_toList] at qD;have FM:(Value.agg cs).formed P t=true:=by simp[Value.formed,A.hu,A.size,hs];exact qD
  have hlen:(Value.agg cs).cells.toList.length=P.cellsOf t:=by
   show cs.toList.length=_;rw[A.size];grind
  have qj : fs.all (·.name != "_") = true := Array.all_eq_true.2 fun i hi => (A.at_ i fs[i] (la hi)).2.2.1;have hex: ∀f∈fs.toList,∃y,P.keyLits (m+1) f.type (((Value.agg cs).cells.toList.drop f.offset).take (P.cellsOf f.type))=some y:=by
   intro f FM;obtain ⟨i,hi⟩:=tC FM;obtain ⟨a1,a2,_,_⟩:=A.at_ i f (by grind);rw[a1,a2];obtain ⟨l,hl⟩:=akl hf hs hc (i:=i) (t:=f.type) (by grind);exact ⟨_,hl m⟩
  obtain ⟨bs,j7⟩:=mapM_some hex;refine ⟨.string (keyBytes bs.flatten),?_⟩;unfold Go.keyOf;rw[A.hu];simp only[Q8,FM,Bool.and_self,sf];unfold Program.keyLits;rw[A.hu,hm];grind
theorem Q9 {t:TypeId} {x:V} (h:rq P t x=true):Keyed P t:=by
 cases zs h with
 | one h1 hx=>
  rcases sS h1 with ⟨q,n,hu,_⟩|⟨b,hu,_⟩|⟨s,hu,_⟩
  ·exact int_keyed hu
  ·exact bool_keyed hu
  ·exact string_keyed hu
 | arr hx A hl _ hf=>exact Keyed.of_law A.law
 | str hx A _ hf=>exact Keyed.of_law A.law
theorem Ra {t:TypeId} {x y:V} {v u:Value} (h1:rp P t x=true) (h2:rp P t y=true) (hv:kq v x) (hu:kq u y):u7 x y=true↔v=u:=by
 rcases sS h1 with ⟨q,n,ji,rfl,_⟩|⟨b,ji,rfl⟩|⟨s,ji,rfl,_⟩<;>
 rcases sS h2 with ⟨q',n',qE,rfl,_⟩|⟨b',qE,rfl⟩|⟨s',qE,rfl,_⟩<;>
  (rw[ji] at qE;cases qE)
 ·obtain rfl:v= .int q n:=hv;obtain rfl:u= .int q n':=hu;simp[u7]
 ·obtain rfl:v= .bool b:=hv;obtain rfl:u= .bool b':=hu;simp[u7]
 ·obtain ⟨s1,rfl,e1⟩:=hv;obtain ⟨s2,rfl,e2⟩:=hu;simp only[u7,beq_iff_eq,Value.string.injEq,←e1,←e2];constructor
  ·intro h;have:=Array.toList_inj.1 h;cases s1;simp_all
  grind
theorem Zh {t:TypeId}: ∀{xs ys:List V} {vs us:List Value},u9 P t xs=true→u9 P t ys=true→xs.length=ys.length→vs.length=xs.length→us.length=ys.length→
  (∀(j:Nat) v x,vs[j]? =some v→xs[j]? =some x→kq v x)→(∀(j:Nat) v x,us[j]? =some v→ys[j]? =some x→kq v x)→(ph xs ys=true↔vs=us)
 | [],[],vs,us,_,_,_,h1,h2,_,_=>by
  have e1:=o5 (l:=vs) (by omega);have e2:=o5 (l:=us) (by omega);simp[ph,e1,e2]
 | [],_::_,_,_,_,_,h,_,_,_,_=>by simp at h
 | _::_,[],_,_,_,_,h,_,_,_,_=>by simp at h
 | x::xs,y::ys,[],us,_,_,_,h,_,_,_=>by simp at h
 | x::xs,y::ys,v::vs,[],_,_,_,_,h,_,_=>by simp at h
 | x::xs,y::ys,v::vs,u::us,f1,f2,h,h1,h2,r1,r2=>by
  simp only[u9,aJ] at f1 f2;have a:=Ra f1.1 f2.1 (r1 0 v x rfl rfl) (r2 0 u y rfl rfl);have b:=Zh (vs:=vs) (us:=us) f1.2 f2.2 (by grind) (by grind) (by grind) (fun j v x hj hx=>r1 (j+1) v x (by grind) (by grind)) (fun j v x hj hx=>r2 (j+1) v x (by grind) (by grind));simp only[ph,aJ,a,b,yA]
theorem Zi: ∀{ts:List TypeId} {xs ys:List V} {vs us:List Value},va P ts xs=true→va P ts ys=true→vs.length=xs.length→us.length=ys.length→
  (∀(j:Nat) v x,vs[j]? =some v→xs[j]? =some x→kq v x)→(∀(j:Nat) v x,us[j]? =some v→ys[j]? =some x→kq v x)→(ph xs ys=true↔vs=us)
 | [],[],[],vs,us,_,_,h1,h2,_,_=>by
  have e1:=o5 (l:=vs) (by omega);have e2:=o5 (l:=us) (by omega);simp[ph,e1,e2]
 | [],_::_,_,_,_,h,_,_,_,_,_=>by cases h
 | [],[],_::_,_,_,_,h,_,_,_,_=>by cases h
 | _::_,[],_,_,_,h,_,_,_,_,_=>by cases h
 | _::_,_::_,[],_,_,_,h,_,_,_,_=>by cases h
 | t::ts,x::xs,y::ys,[],us,_,_,h,_,_,_=>by simp at h
 | t::ts,x::xs,y::ys,v::vs,[],_,_,_,h,_,_=>by simp at h
 | t::ts,x::xs,y::ys,v::vs,u::us,f1,f2,h1,h2,r1,r2=>by
  simp only[va,aJ] at f1 f2;have a:=Ra f1.1 f2.1 (r1 0 v x rfl rfl) (r2 0 u y rfl rfl);have b:=Zi (vs:=vs) (us:=us) f1.2 f2.2 (by grind) (by grind) (fun j v x hj hx=>r1 (j+1) v x (by grind) (by grind)) (fun j v x hj hx=>r2 (j+1) v x (by grind) (by grind));simp only[ph,aJ,a,b,yA]
theorem Rb {t:TypeId} {x y:V} {v u:Value} (h1:rq P t x=true) (h2:rq P t y=true) (hv:vm v x) (hu:vm u y):iG x y=true↔v=u:=by
 unfold iG;cases zs h1 with
 | one f1 c1=>
  cases zs h2 with
  | one f2 c2=>
   rw[c1,c2];simp only[ph,Bool.and_true];exact Ra f1 f2 (hv.one c1) (hu.one c2)
  | arr hy A hl _ hf=>
   rcases sS f1 with ⟨q,n,ji,_⟩|⟨b,ji,_⟩|⟨s,ji,_⟩<;>(rw[A.hu] at ji;cases ji)
  | str hy A _ hf=>
   rcases sS f1 with ⟨q,n,ji,_⟩|⟨b,ji,_⟩|⟨s,ji,_⟩<;>(rw[A.hu] at ji;cases ji)
 | arr hx A hl _ hf=>
  cases zs h2 with
  | one f2 c2=>
   rcases sS f2 with ⟨q,n,ji,_⟩|⟨b,ji,_⟩|⟨s,ji,_⟩<;>(rw[A.hu] at ji;cases ji)
  | arr hy A2 Bt _ vS=>
   have jG:=A.hu.symm.trans A2.hu;cases jG;subst hx;subst hy;obtain ⟨cs,rfl,s1,r1⟩:=hv;obtain ⟨ds,rfl,s2,r2⟩:=hu;have:=Zh (vs:=cs.toList) (us:=ds.toList) hf vS (by omega) (by omega) (by omega) (fun j v x hj hx=>r1 j v x (by grind) hx) (fun j v x hj hx=>r2 j v x (by grind) hx);simp only[V.cells,this,Value.agg.injEq];simp_all
  | str hy A2 _ vS=>
   have jG:=A.hu.symm.trans A2.hu;cases jG
 | str hx A _ hf=>
  cases zs h2 with
  | one f2 c2=>
   rcases sS f2 with ⟨q,n,ji,_⟩|⟨b,ji,_⟩|⟨s,ji,_⟩<;>(rw[A.hu] at ji;cases ji)
  | arr hy A2 Bt _ vS=>
   have jG:=A.hu.symm.trans A2.hu;cases jG
  | str hy A2 _ vS=>
   have jG:=A.hu.symm.trans A2.hu;cases jG;subst hx;subst hy;obtain ⟨cs,rfl,s1,r1⟩:=hv;obtain ⟨ds,rfl,s2,r2⟩:=hu;have:=Zi (vs:=cs.toList) (us:=ds.toList) hf vS (by omega) (by omega) (fun j v x hj hx=>r1 j v x (by grind) hx) (fun j v x hj hx=>r2 j v x (by grind) hx);simp only[V.cells,this,Value.agg.injEq];simp_all
theorem Zj {k:V}: ∀{es:List V},(∀x∈es,iG k (x.comp 0)=false)→fZ k es=false∧(∀z,jO k es z=z)∧∀v,iH k v es=es++[.bd [k,v]]
 | [],_=>⟨rfl,fun _=>rfl,fun _=>rfl⟩
 | e::es,h=>by
  have h0:=h e (Bo ..);obtain ⟨a,b,c⟩:=Zj (k:=k) (es:=es) fun x hx=>h x (nX _ hx);exact ⟨by simp[fZ,h0,a],fun z=>by simp[jO,h0,b],fun v=>by simp[iH,h0,c]⟩
theorem Zk {k:V}: ∀{es:List V} {j:Nat} {k' y:V},es[j]? =some (.bd [k',y])→iG k k'=true→(∀i x,i<j→es[i]? =some x→iG k (x.comp 0)=false)→
  fZ k es=true∧(∀z,jO k es z=y)∧∀v,iH k v es=es.set j (.bd [k',v])
 | [],j,k',y,h,_,_=>by simp at h
 | e::es,0,k',y,h,he,_=>by
  simp at h;subst h;exact ⟨by simp[fZ,V.comp,V.nth,he],fun z=>by simp[jO,V.comp,V.nth,he],fun v=>by simp[iH,V.comp,V.nth,he]⟩
 | e::es,j+1,k',y,h,he,aZ=>by
  have h0:=aZ 0 e (by omega) rfl;obtain ⟨a,b,c⟩:=Zk (k:=k) (es:=es) (j:=j) (by simpa using h) he fun i x hi hx=>aZ (i+1) x (by omega) (by grind);exact ⟨by simp[fZ,h0,a],fun z=>by simp[jO,h0,b],fun v=>by simp[iH,h0,c]⟩
theorem Zl {kt vt:TypeId} {E:Array MapEntry} {es:List V} {k:V} {kv:Value} (hs:E.size=es.length) (hx: ∀(j:Nat) (e:MapEntry) (x:V),E[j]? =some e→es[j]? =some x→J4 P kt vt e x)
  (hn:E.toList.Pairwise (fun a b=>a.key≠b.key)) (hk:rq P kt k=true) (Lh:vm kv k) (w:World):
  ((Instr.findKey kt kv E.toList).run P w= .ok none w∧(∀e∈E.toList,e.key≠kv)∧fZ k es=false∧(∀z,jO k es z=z)∧∀v,iH k v es=es++[.bd [k,v]])∨
  ∃j e k' y,(Instr.findKey kt kv E.toList).run P w= .ok (some (j,e.val)) w∧E[j]? =some e∧e.key=kv∧es[j]? =some (.bd [k',y])∧rq P kt k'=true∧vm kv k'∧fN P vt y=true∧kq e.val y∧
   fZ k es=true∧(∀z,jO k es z=y)∧∀v,iH k v es=es.set j (.bd [k',v]):=by
 have K:=Q9 hk;obtain ⟨l,hl⟩:=Lg hk Lh;have xr: ∀(j:Nat) x,es[j]? =some x→∃e,E[j]? =some e∧J4 P kt vt e x:=by
  intro j x hj;have aZ:j<E.size:=by grind
  exact ⟨E[j],la aZ,hx j _ x (la aZ) hj⟩
 have keys: ∀e∈E.toList,∃l,Go.keyOf P kt e.key=some l:=by
  intro e he;obtain ⟨j,hj⟩:=tC he;have dX:E[j]? =some e:=by grind
  have aZ:j<es.length:=by grind
  obtain ⟨k',y,_,h1,h2,_⟩:=hx j e es[j] dX (bU aZ);exact Lg h1 h2
 rcases K.find w hl E.toList keys with ⟨h1,h2⟩|⟨j,e,h1,h2,h3⟩
 ·left;refine ⟨h1,h2,Zj fun x K8=> ?_⟩;obtain ⟨j,hj⟩:=tC K8;obtain ⟨e,he,k',y,rfl,f1,f2,_⟩:=xr j x hj;cases hq:iG k (V.comp (.bd [k',y]) 0) with
  | false=>rfl
  | true=>
   have:=(Rb hk f1 Lh f2).1 hq;grind
 ·right;have hE:E[j]? =some e:=by grind
  have aZ:j<es.length:=by grind
  obtain ⟨k',y,hy,f1,f2,f3,f4⟩:=hx j e es[j] hE (bU aZ);have hj:=bU aZ;rw[hy] at hj;rw[h3] at f2;refine ⟨j,e,k',y,h1,hE,h3,hj,f1,f2,f3,f4,Zk hj ((Rb hk f1 Lh f2).2 rfl) fun i x hi nq=> ?_⟩;obtain ⟨e',Co,k2,y2,rfl,g1,g2,_⟩:=xr i x nq;cases hq:iG k (V.comp (.bd [k2,y2]) 0) with
  | false=>rfl
  | true=>
   have:=(Rb hk g1 Lh g2).1 hq;have i1:i<E.toList.length:=by grind
   have i2:j<E.toList.length:=by simp;omega
   have:=List.pairwise_iff_getElem.1 hn i j i1 i2 hi;grind
theorem aj.Rc {v:Value} {x:V} (h:aj P w I β hp v x) {t:TypeId} (hx:rp P t x=true):kq v x:=by
 rcases sS hx with ⟨q,n,_,rfl,_⟩|⟨b,_,rfl⟩|⟨s,_,rfl,_⟩
 ·exact h.fQ
 ·exact h.nn
 ·exact h.oJ
theorem aj.Zm {v:Value} {x:V} (h:aj P w I β hp v x) {t:TypeId} (hx:rq P t x=true):vm v x:=by
 cases zs hx with
 | one f c=>
  have:=h.Rc f;cases x<;>first|exact this|cases this
 | arr hx A hl _ hf=>
  subst hx;obtain ⟨cs,rfl,h1,h2⟩:=h.np;exact ⟨cs,rfl,h1,fun j u y hu hy=>(h2 j u y hu hy).Rc (Q7 hf hy)⟩
 | str hx A _ hf=>
  subst hx;obtain ⟨cs,rfl,h1,h2⟩:=h.np;obtain ⟨a,b⟩:=Ld hf;refine ⟨cs,rfl,h1,fun j u y hu hy=> ?_⟩;have hj:=(cw.1 hy).1;exact (h2 j u y hu hy).Rc (b j _ y (bU (by omega)) hy)
theorem Zn {vt:TypeId} {y:V} (h:mapVal P vt=true) (ht:fN P vt y=true):(∃q n,P.underlying vt=some (.int q)∧y= .int q n)∨∃b,P.underlying vt=some .bool∧y= .bool b:=by
 unfold mapVal at h;unfold fN at ht;grind
theorem kq.Re {vt:TypeId} {v:Value} {y:V} (h:mapVal P vt=true) (ht:fN P vt y=true) (hv:kq v y):aj P w I β hp v y:=by
 rcases Zn h ht with ⟨q,n,_,rfl⟩|⟨b,_,rfl⟩
 ·obtain rfl:v= .int q n:=hv;exact .int
 ·obtain rfl:v= .bool b:=hv;exact .bool
theorem aj.akm {vt:TypeId} {v:Value} {y:V} (h:mapVal P vt=true) (ht:fN P vt y=true) (hv:aj P w I β hp v y):kq v y:=by
 rcases Zn h ht with ⟨q,n,_,rfl⟩|⟨b,_,rfl⟩
 ·exact hv.fQ
 ·exact hv.nn
theorem akn {vt:TypeId} {z:V} (h:JO P vt=some z) (w:World): ∃v,(zeroValue vt).run P w= .ok v w∧kq v z:=by
 unfold JO at h;cases hi:P.info? vt with
 | none=>grind
 | some i=>
  rw[hi] at h;simp only[Option.bind_some] at h;cases hz:i.zero with
  | none=>grind
  | some v=>
   rw[hz] at h;refine ⟨v,by simp[zeroValue,typeInfo,hi,hz],?_⟩;cases v<;>simp only at h<;>first|(cases h;done)|skip
   ·cases h;rfl
   ·cases h;rfl
theorem Rf {t kt vt:TypeId} (h:pj P t=some (kt,vt)):P.underlying t=some (.map kt vt):=by
 unfold pj at h;grind
theorem Rg (S:az P w I β hp B M w0) {ok:Bool} {v:Value} {x:V} {b:Bool} {r:R} {rd:List Nat} {res:Result Value} (hv:aj P w I β hp v x)
  (hr:res= .ok (if ok then .tuple #[v,.bool b] else v) w) (h:(JP ok x b).run C hp=some (r,rd)):dk P res w I β hp B M w0 r:=by
 unfold JP at h;obtain rfl:=aN h;cases ok with
 | false=>exact .same S hr hv
 | true=>
  refine .same S hr (.bd rfl fun j u y hu hy=> ?_)
  match j,hu,hy with
  | 0,hu,hy=>grind
  | 1,hu,hy=>simp at hu hy;subst hu;subst hy;exact .bool
  | j+2,hu,hy=>simp at hy
theorem ako (S:az P w I β hp B M w0) {t kt vt:TypeId} (ht:pj P t=some (kt,vt)) {m k:Value} {mx kx:V} {ok:Bool} {r:R} {rd:List Nat} (hm:aj P w I β hp m mx) (hk:aj P w I β hp k kx)
  (h:(Pn P t mx kx ok).run C hp=some (r,rd)):dk P ((Instr.lookup t m k ok).run P w) w I β hp B M w0 r:=by
 unfold Pn at h;rw[ht] at h;simp only at h;cases hz:JO P vt with
 | none=>rw[hz] at h;cases h
 | some z=>
  rw[hz] at h;obtain ⟨hc,h'⟩:=aD h;clear h;have h:=h';clear h';simp only[aJ] at hc;obtain ⟨uk,FO,Li⟩:=hc;have hu:=Rf ht;have Cs:=hk.Zm uk;have K:=Q9 uk;obtain ⟨l,hl⟩:=Lg uk Cs;obtain ⟨zv,Zo,Zp⟩:=akn hz w;cases mx<;>simp only at h<;>first|(cases h;done)|skip
  ·rename_i t' id;obtain ⟨pH,h'⟩:=aD h;clear h;have h:=h';clear h';rw[aL] at pH;subst pH;obtain ⟨l2,h'⟩:=run_get h;clear h;have h:=h';clear h';cases ae:hp id with
   | none=>rw[ae] at h;cases h
   | some blk=>
    rw[ae] at h;cases blk<;>simp only at h<;>first|(cases h;done)|skip
    rename_i t2 es;obtain ⟨pH,h'⟩:=aD h;clear h;have h:=h';clear h';rw[aL] at pH;subst pH;cases hm with
    | ln hd=>grind
    | @cG _ _ b aK hd hb=>
     rw[ae] at hd;cases hd;have hr:=S.h.rel id _ ae;cases hr with
     | @map _ Zq Zr _ b' clock E lE av hh hs hI hx hn=>
      rw[hb] at av;cases av;rw[hu] at lE;cases lE;rcases Zl hs hx hn uk Cs w with ⟨h1,_,h3,h4,_⟩|⟨j,e,k',y,h1,_,_,_,_,_,h6,h7,h3,h4,_⟩
      ·rw[h3,h4,EU Li] at h;refine Rg S (kq.Re FO Li Zp) ?_ h;unfold Instr.lookup;simp only[Sem.run_bind,run_underlying hu,Result.andThen_ok,Go.MapKept.run_getObj_map hh,Sem.run_pure,K.check w E.isEmpty hl,h1,Zo]
      ·rw[h3,h4,EU h6] at h;refine Rg S (kq.Re FO h6 h7) ?_ h;unfold Instr.lookup;simp only[Sem.run_bind,run_underlying hu,Result.andThen_ok,Go.MapKept.run_getObj_map hh,Sem.run_pure,K.check w E.isEmpty hl,h1]
  ·rename_i t';obtain ⟨pH,h⟩:=aD h;cases hm;rw[EU Li] at h;refine Rg S (kq.Re FO Li Zp) ?_ h;have hf:(Instr.findKey kt k []).run P w= .ok none w:=by
    rcases K.find w hl [] (by simp) with ⟨h1,_⟩|⟨j,e,_,h2,_⟩
    all_goals grind
   unfold Instr.lookup;simp[run_underlying hu,K.check w true hl,hf,Zo]
theorem akp (S:az P w I β hp B M w0) {t:TypeId} {nb:Nat} {r:R} {rd:List Nat} (h:(Rd.ay (pj P t).isSome (js nb (.map t []) (.cG t nb) [])).run C hp=some (r,rd)):
  dk P ((Instr.makeMap t none).run P w) w I β hp B M w0 r:=by
 obtain ⟨ht,h⟩:=aD h;obtain ⟨hn,rfl⟩:=mM h;obtain ⟨⟨kt,vt⟩,ht⟩:=Bn.1 ht;have hu:=Rf ht;have dj: ∀j,¬I w.heap.size j:=fun j h=>nY _ (S.h.jQ _ j h);have dG:(w.alloc (.map #[] 0)).heap[w.heap.size]? =some (.map #[] 0):=heap_alloc_new w _;obtain ⟨a1,a2⟩:=BQ S (w':=w.alloc (.map #[] 0)) (blk:= .map t []) (b:=w.heap.size) hn (fun ar blk' h ho=>nY _ (S.h.lt h ho)) (fun j h=>absurd h (dj j))
  (fun b' _ aZ=>heap_alloc_old w _ b' aZ) (by simp) ⟨rfl,rfl⟩ (.inr S.size) (fun b' h=>(dL (h.flat (by simp))).symm)
  (fun _=> .map hu rfl dG rfl dj (fun j e x he _=>by simp at he) (by simp))
 exact ⟨_,_,_,_,Go.RowKit.run_makeMap t w,a1,a2,.cG (bH _ _ _) (bH _ _ _)⟩
theorem Zs (S:az P w I β hp B M w0) {t kt vt:TypeId} (ht:pj P t=some (kt,vt)) {m k v:Value} {mx kx vx:V} {r:R} {rd:List Nat} (hm:aj P w I β hp m mx) (hk:aj P w I β hp k kx) (hv:aj P w I β hp v vx)
  (h:(JQ P t mx kx vx).run C hp=some (r,rd)):rF P ((Instr.mapUpdate t m k v).run P w) w I β hp B M w0 r:=by
 unfold JQ at h;rw[ht] at h;obtain ⟨hc,h'⟩:=aD h;clear h;have h:=h';clear h';simp only[aJ] at hc;obtain ⟨uk,FO,zt⟩:=hc;have hu:=Rf ht;have Cs:=hk.Zm uk;have qq:=aj.akm FO zt hv;have K:=Q9 uk;obtain ⟨l,hl⟩:=Lg uk Cs;cases mx<;>simp only at h<;>first|(cases h;done)|skip
 rename_i t' id;obtain ⟨pH,h'⟩:=aD h;clear h;have h:=h';clear h';rw[aL] at pH;subst pH;obtain ⟨l2,h'⟩:=run_get h;clear h;have h:=h';clear h';cases ae:hp id with
 | none=>rw[ae] at h;cases h
 | some blk=>
  rw[ae] at h;cases blk<;>simp only at h<;>first|(cases h;done)|skip
  rename_i t2 es;obtain ⟨pH,h'⟩:=aD h;clear h;have h:=h';clear h';rw[aL] at pH;subst pH;obtain rfl:=aN h;cases hm with
  | ln hd=>grind
  | @cG _ _ b aK hd hb=>
   rw[ae] at hd;cases hd;have hr:=S.h.rel id _ ae;cases hr with
   | @map _ Zq Zr _ b' clock E lE av hh hs hI hx hn=>
    rw[hb] at av;cases av;rw[hu] at lE;cases lE;have aZ:b<w.heap.size:=(wX.1 hh).1;have fin: ∀(E':Array MapEntry) (FP:Nat),(Instr.mapUpdate t (.map (some b)) k v).run P w= .ok () {w with heap:=w.heap.setIfInBounds b (.map E' FP)}→E'.size=(iH kx vx es).length→
      (∀(j:Nat) (e:MapEntry) (x:V),E'[j]? =some e→(iH kx vx es)[j]? =some x→J4 P kt vt e x)→E'.toList.Pairwise (fun a b=>a.key≠b.key)→
      rF P ((Instr.mapUpdate t (.map (some b)) k v).run P w) w I β hp B M w0 ⟨.undef,[(id,.map t (iH kx vx es))]⟩:=by
     intro E' FP cK vR dd pJ;have dG:({w with heap:=w.heap.setIfInBounds b (.map E' FP)}:World).heap[b]? =some (.map E' FP):=by simp[aZ]
     obtain ⟨a1,a2⟩:=BR S (w':={w with heap:=w.heap.setIfInBounds b (.map E' FP)}) (blk':= .map t (iH kx vx es)) ae (by simp) rfl hb hI (by simp)
      (fun b' av=>by grind) (by simp only[bsize,dG,hh]) (by simp) ⟨rfl,rfl⟩ (fun _=> .map hu rfl dG vR hI dd pJ)
     exact ⟨_,I,β,cK,a1,a2,rfl⟩
    rcases Zl hs hx hn uk Cs w with ⟨h1,h2,_,_,h5⟩|⟨j,e,k',y,h1,hE,hek,Yy,akq,akr,_,_,_,_,h5⟩
    ·have e5:=h5 vx;refine fin (E.push {key:=k,val:=v,born:=clock}) (clock+1) ?_ (by grind) (fun j e x he oL=> ?_) ?_
     ·unfold Instr.mapUpdate;simp only[Sem.run_bind,run_underlying hu,Result.andThen_ok,Go.MapKept.run_getObj_map hh,K.check w false hl,h1,Go.MapKept.run_setObj_map _ hh]
     ·rw[e5] at oL;rw[Array.getElem?_push] at he;split at he
      ·rename_i hj;rw[o9 (by omega),hj,hs,Nat.sub_self] at oL;simp at he oL;subst he;subst oL;exact ⟨kx,vx,rfl,uk,Cs,zt,qq⟩
      grind
     grind
    ·have e5:=h5 vx;have hj:j<E.size:=(wX.1 hE).1;refine fin (E.modify j fun e=>{e with key:=k,val:=v}) clock ?_ (by grind) (fun i e' x he nq=> ?_) ?_
     ·have dN:=K.stays w hl;unfold Instr.mapUpdate;simp only[Sem.run_bind,run_underlying hu,Result.andThen_ok,Go.MapKept.run_getObj_map hh,K.check w false hl,h1];simp only[hE,Option.map_some,Option.getD_some,hek,dN,Result.andThen_ok,Go.MapKept.run_setObj_map _ hh]
     ·rw[e5] at nq;rw[Jx] at he;rw[Eb] at nq;split at he
      ·rename_i Lj;subst Lj;rw[aB rfl,da] at nq;rw[hE] at he;simp at he nq;subst he;subst nq;exact ⟨k',vx,rfl,akq,akr,zt,qq⟩
      grind
     ·have xL: ∀i (h1:i<(E.modify j fun e=>{e with key:=k,val:=v}).toList.length) (h2:i<E.toList.length),((E.modify j fun e=>{e with key:=k,val:=v}).toList[i]).key=(E.toList[i]).key:=by
       grind
      rw[List.pairwise_iff_getElem] at hn⊢;grind
theorem aks (S:az P w I β hp B M w0) {t ty kt vt:TypeId} {v:Value} {x:V} {r:R} {rd:List Nat} (hu:P.underlying t=some (.map kt vt)) (hv:aj P w I β hp v x)
  (h:(JR x).run C hp=some (r,rd)):dk P ((Builtin.len_ #[t] ty #[v]).run P w) w I β hp B M w0 r:=by
 unfold JR at h;cases x<;>simp only at h<;>first|(cases h;done)|skip
 ·rename_i t' id;obtain ⟨l2,h'⟩:=run_get h;clear h;have h:=h';clear h';cases ae:hp id with
  | none=>rw[ae] at h;cases h
  | some blk=>
   rw[ae] at h;cases blk<;>simp only at h<;>first|(cases h;done)|skip
   rename_i t2 es;obtain rfl:=aN h;cases hv with
   | ln hd=>grind
   | @cG _ _ b aK hd hb=>
    rw[ae] at hd;cases hd;have hr:=S.h.rel id _ ae;cases hr with
    | @map _ Zq Zr _ b' clock E lE av hh hs hI hx hn=>
     rw[hb] at av;cases av;refine .same S (v:= .int .i64 E.size) (by simp[Builtin.len_,run_underlying hu,Go.MapKept.run_getObj_map hh,goInt]) ?_;rw[hs];exact .int
 ·obtain rfl:=aN h;cases hv;exact .same S (v:= .int .i64 0) (by simp[Builtin.len_,run_underlying hu,goInt]) .int
theorem aj.Rh {v:Value} {t:TypeId} (h:aj P w I β hp v (.eU t)):v= .map none:=by cases h;rfl
theorem aj.akt {v:Value} {t t':TypeId} {id:Nat} {es:List V} (h:aj P w I β hp v (.cG t id)) (ae:hp id=some (.map t' es)): ∃b,v= .map (some b):=by
 cases h with
 | ln h=>grind
 | cG h hb=>grind
theorem Zt (S:az P w I β hp B M w0) {op:BinOp} {t:TypeId} {a:Option Nat} {r:R} {rd:List Nat} (x y:Operand)
  (h:(JK P op t a.isNone).run C hp=some (r,rd)):dk P ((do eqGuard op t x y (.map a) (.map none);binOp op t (.map a) (.map none)).run P w) w I β hp B M w0 r:=by
 unfold JK at h;split at h
 case h_2=>cases h
 rename_i kt vt hu;have he:(Op.equal t (.map a) (.map none)).run P w= .ok a.isNone w:=by
  show (Op.equalIn (9999+1) t (.map a) (.map none)).run P w=_;rw[Op.equalIn];cases a<;>simp[Sem.run_bind,run_underlying hu,Result.andThen_ok,Sem.run_pure]
 cases op<;>simp only at h<;>first|(cases h;done)|skip
 ·obtain rfl:=aN h;exact .same S (by simp[eqGuard,binOp,he]) .bool
 ·obtain rfl:=aN h;exact .same S (by simp[eqGuard,binOp,he]) .bool
end
end Go.AM
