/-
  Functions of the program, lifted to plain data.
-/
import Derived.Great.BuildSlice
import Derived.Maps.Keyed
import Derived.WideKeyArr
import Derived.MapKept
import Derived.ChangeMaps4
import Derived.Carry
import Derived.Test.YtpigoedhkpjgeaaGreatDoorP1
noncomputable section
set_option linter.unusedVariables false
set_option linter.unusedSimpArgs false
set_option linter.unusedSectionVars false
namespace Go.AM
section
variable {P:Program} {w w':World} {I I':Nat→Nat→Prop} {β β':Nat→Option Nat} {hp hp':Nat→Option ag} {C:af} {B:Nat} {M:Nat→Prop} {w0:Start}
theorem n9.vE {t:TypeId} {v:Value} {x:V} (h:n9 P w I t v x):fN P t x=x:=by
 cases h with
 | fl _ p=>exact p.vE
 | emp hu=>exact pS hu
 | row hu _ _ _ _=>exact pS hu
theorem zF {new:List V} {e ea:TypeId} {i c:Nat} {q:Path} {es cZ:List V} {x:V} (hx:es[i]? =some x) (hp:(parts P e x)[c]? =some (.list ea cZ)):
  setRow P new e es ((i,c)::q)=es.set i (di P e ((parts P e x).set c (.list ea (setRow P new ea cZ q)))):=by
 simp only[setRow,hx,hp]
theorem CX {b:Nat} {e t:TypeId} {es:List V} {i c:Nat} {x y:V} (hR:gh P w I b e es) (hx:es[i]? =some x) (ht:(aN P e)[c]? =some t):
  ∀{i' c':Nat} {x':V} {t':TypeId},(es.set i (di P e ((parts P e x).set c y)))[i']? =some x'→(aN P e)[c']? =some t'→
   ∃x0,es[i']? =some x0∧bW P e x' c'=if i'=i∧c'=c then y else bW P e x0 c':=by
 intro i' c' x' t' cS fp;have oe:i<es.length:=(cq.1 hx).1;have w9:c<(aN P e).length:=(cq.1 ht).1;have IL:c'<(aN P e).length:=(cq.1 fp).1;by_cases hi:i'=i
 ·subst hi;rw[qw oe] at cS;cases cS;refine ⟨x,hx,?_⟩;by_cases hc:c'=c
  ·subst hc;rw[ak ⟨rfl,rfl⟩];exact tN (qw (by rw[zD];exact w9)) fp
  ·rw[aj (fun h=>hc h.2)];have h1:((parts P e x).set c y)[c']? =some (fN P t' (bW P e x c')):=by
    rw[BX (fun h=>hc h.symm)];exact pR fp
   rw[tN h1 fp];obtain ⟨Ca,_,_,_,_,tO⟩:=hR.cells;obtain ⟨v,_,ho⟩:=tO i' c' x t' hx fp (by rw[←ey hR.ok];exact IL);exact ho.vE
 ·rw[BX (fun h=>hi h.symm)] at cS;exact ⟨x',cS,by rw[aj (fun h=>hi h.1)]⟩
theorem Og {b b1:Nat} {e e1:TypeId} {es l l':List V} {p:Path} (h:At P w b e es p b1 e1 l) (hl:l'.length=l.length):(setRow P l' e es p).length=es.length:=by
 cases h with
 | here=>exact hl
 | step h1 h2 h3 h4 h5 h6 h7 h8=>
  rw[zF h2 (by rw[pR h3,h5,pS h4])];simp
theorem At.afJ {b b1:Nat} {e e1:TypeId} {es l l':List V} {p:Path} (Oh:At P w b e es p b1 e1 l) (hw: ∀k,k≠b1→w'.heap[k]? =w.heap[k]?) (hl:l'.length=l.length):
  (∀q b' e' m,At P w b e es q b' e' m→gh P w I b' e' m)→(∀q e' m,At P w b e es q b1 e' m→q=p)→
  ∀q b' e' m,At P w' b e (setRow P l' e es p) q b' e' m→
   (∃r m0,p=q++r∧At P w b e es q b' e' m0∧m=setRow P l' e' m0 r)∨
   (∃r,r≠[]∧q=p++r∧At P w' b1 e1 l' r b' e' m)∨
   (At P w b e es q b' e' m∧b'≠b1∧¬q <+: p∧¬p <+: q):=by
 induction Oh with
 | here=>
  intro cX lH q b' e' m h;cases q with
  | nil=>cases h with|here=>exact .inl ⟨[],_,rfl,.here,rfl⟩
  | cons a q=>exact .inr (.inl ⟨a::q,by simp,rfl,h⟩)
 | @step b i c b2 len cap b1 e t ea e1 es cZ l p Ca T f x h1 h2 h3 h4 h5 h6 h7 h8 ih=>
  intro cX lH q b' e' m h;have nc:(parts P e x)[c]? =some (.list ea cZ):=by rw[pR h3,h5,pS h4]
  rw[zF h2 nc] at h;have hR:=cX _ _ _ _ .here;have hb:b≠b1:=by
   intro hb;subst hb;have:=lH [] _ _ .here;cases this
  have Oi:=ih hw hl (fun q b' e' m h=>cX _ _ _ _ (.step h1 h2 h3 h4 h5 h6 h7 h)) (fun q e' m h=>by
   have:=lH _ _ _ (.step h1 h2 h3 h4 h5 h6 h7 h);exact (List.cons.inj this).2)
  cases h with
  | here=>exact .inl ⟨_,es,rfl,.here,(zF h2 nc).symm⟩
  | @step _ i' c' b3 afK Oj _ _ t' e3 _ _ gI _ q w8 T' f' x' k1 k2 k3 k4 k5 k6 k7 k8=>
   rw[hw b hb] at k1;obtain ⟨x0,y1,y2⟩:=CX hR h2 h3 k2 k3;by_cases ic:i'=i∧c'=c
   ·rw[ak ic] at y2;obtain ⟨rfl,rfl⟩:=ic;rw[h1] at k1;cases k1;rw[h7] at k7;cases k7;rw[k5] at y2;cases y2;rcases Oi _ _ _ _ k8 with ⟨r,m0,z1,z2,z3⟩|⟨r,z1,z2,z3⟩|⟨z1,z2,z3,z4⟩
    ·exact .inl ⟨r,m0,by rw[z1];rfl,.step h1 h2 h3 h4 h5 h6 h7 z2,z3⟩
    ·exact .inr (.inl ⟨r,z1,by rw[z2];rfl,z3⟩)
    ·refine .inr (.inr ⟨.step h1 h2 h3 h4 h5 h6 h7 z1,z2,fun hh=>z3 ?_,fun hh=>z4 ?_⟩)
     ·exact (u9.1 hh).2
     ·exact (u9.1 hh).2
   ·rw[aj ic,k5] at y2;have bK: ∀q2 b5 e5 iU,At P w b3 e3 gI q2 b5 e5 iU→b5≠b1:=by
     intro q2 b5 e5 iU hq xh;subst xh;have:=lH _ _ _ (.step k1 y1 k3 k4 y2.symm k6 k7 hq);injection this with h1 h2;injection h1 with h1 h3;exact ic ⟨h1,h3⟩
    have jU:=k8.vz (w:=w) fun q2 b5 e5 iU hq=>hw b5 (bK q2 b5 e5 iU hq);refine .inr (.inr ⟨.step k1 y1 k3 k4 y2.symm k6 k7 jU,bK _ _ _ _ jU,fun hh=> ?_,fun hh=> ?_⟩)
    ·have:=(u9.1 hh).1;injection this with h1 h3;exact ic ⟨h1,h3⟩
    ·have:=(u9.1 hh).1;injection this with h1 h3;exact ic ⟨h1.symm,h3.symm⟩
theorem At.vG {b b1:Nat} {e e1:TypeId} {es l l':List V} {p:Path} (Oh:At P w b e es p b1 e1 l) (hw: ∀k,k≠b1→w'.heap[k]? =w.heap[k]?) (hl:l'.length=l.length):
  (∀q b' e' m,At P w b e es q b' e' m→gh P w I b' e' m)→(∀q e' m,At P w b e es q b1 e' m→q=p)→
  ∀q b' e' m,At P w b e es q b' e' m→
   (∃r,p=q++r∧At P w' b e (setRow P l' e es p) q b' e' (setRow P l' e' m r)∧∃e1' m1,At P w b' e' m r b1 e1' m1∧m1=l)∨
   (∃r,r≠[]∧q=p++r∧At P w b1 e1 l r b' e' m∧(∀b2 e2 m2,At P w' b1 e1 l' r b2 e2 m2→At P w' b e (setRow P l' e es p) q b2 e2 m2))∨
   (At P w' b e (setRow P l' e es p) q b' e' m∧b'≠b1∧¬q <+: p∧¬p <+: q):=by
 induction Oh with
 | here=>
  intro cX lH q b' e' m h;cases q with
  | nil=>cases h with|here=>exact .inl ⟨[],rfl,.here,_,_,.here,rfl⟩
  | cons a q=>exact .inr (.inl ⟨a::q,by simp,rfl,h,fun _ _ _ h=>h⟩)
 | @step b i c b2 len cap b1 e t ea e1 es cZ l p Ca T f x h1 h2 h3 h4 h5 h6 h7 h8 ih=>
  intro cX lH q b' e' m h;have nc:(parts P e x)[c]? =some (.list ea cZ):=by rw[pR h3,h5,pS h4]
  have n8:=zF (new:=l') (q:=p) h2 nc;have hR:=cX _ _ _ _ .here;have oe:i<es.length:=(cq.1 h2).1;have hb:b≠b1:=by
   intro hb;subst hb;have:=lH [] _ _ .here;cases this
  have Oi:=ih hw hl (fun q b' e' m h=>cX _ _ _ _ (.step h1 h2 h3 h4 h5 h6 h7 h)) (fun q e' m h=>by
   have:=lH _ _ _ (.step h1 h2 h3 h4 h5 h6 h7 h);exact (List.cons.inj this).2)
  have kV:=(hw b hb).trans h1;have CY:(es.set i (di P e ((parts P e x).set c (.list ea (setRow P l' ea cZ p)))))[i]? =some (di P e ((parts P e x).set c (.list ea (setRow P l' ea cZ p)))):=qw oe;have Ol:bW P e (di P e ((parts P e x).set c (.list ea (setRow P l' ea cZ p)))) c= .list ea (setRow P l' ea cZ p):=by
   obtain ⟨x0,y1,y2⟩:=CX hR h2 h3 CY h3;rw[ak ⟨rfl,rfl⟩] at y2;exact y2
  cases h with
  | here=>
   exact .inl ⟨(i,c)::p,rfl,.here,_,_,.step h1 h2 h3 h4 h5 h6 h7 h8,rfl⟩
  | @step _ i' c' b3 afK Oj _ _ t' e3 _ _ gI _ q w8 T' f' x' k1 k2 k3 k4 k5 k6 k7 k8=>
   rw[n8];by_cases ic:i'=i∧c'=c
   ·obtain ⟨rfl,rfl⟩:=ic;rw[h1] at k1;cases k1;rw[h7] at k7;cases k7;rw[h3] at k3;cases k3;rw[h4] at k4;cases k4;rw[h2] at k2;cases k2;rw[h5] at k5;cases k5;rcases Oi _ _ _ _ k8 with ⟨r,z1,z2,z3⟩|⟨r,z1,z2,z3,z4⟩|⟨z1,z2,z3,z4⟩
    ·exact .inl ⟨r,by rw[z1];rfl,.step kV CY h3 h4 Ol h6 h7 z2,z3⟩
    ·exact .inr (.inl ⟨r,z1,by rw[z2];rfl,z3,fun b2 e2 m2 hh=> .step kV CY h3 h4 Ol h6 h7 (z4 b2 e2 m2 hh)⟩)
    ·refine .inr (.inr ⟨.step kV CY h3 h4 Ol h6 h7 z1,z2,fun hh=>z3 ?_,fun hh=>z4 ?_⟩)
     ·exact (u9.1 hh).2
     ·exact (u9.1 hh).2
   ·have bK: ∀q2 b5 e5 iU,At P w b3 e3 gI q2 b5 e5 iU→b5≠b1:=by
     intro q2 b5 e5 iU hq xh;subst xh;have:=lH _ _ _ (.step k1 k2 k3 k4 k5 k6 k7 hq);injection this with h1 h2;injection h1 with h1 h3;exact ic ⟨h1,h3⟩
    have jU:=k8.mono (w':=w') fun q2 b5 e5 iU hq=>hw b5 (bK q2 b5 e5 iU hq);have Om: ∃x2,(es.set i (di P e ((parts P e x).set c (.list ea (setRow P l' ea cZ p)))))[i']? =some x2:=by
     have:i'<es.length:=(cq.1 k2).1;exact ⟨_,bR (by rw[ti];exact this)⟩
    obtain ⟨x2,js⟩:=Om;obtain ⟨x0,y1,y2⟩:=CX hR h2 h3 js k3;rw[aj ic] at y2;rw[k2] at y1;cases y1;rw[k5] at y2;refine .inr (.inr ⟨.step ((hw b hb).trans k1) js k3 k4 y2 k6 k7 jU,bK _ _ _ _ k8,fun hh=> ?_,fun hh=> ?_⟩)
    ·have:=(u9.1 hh).1;injection this with h1 h3;exact ic ⟨h1,h3⟩
    ·have:=(u9.1 hh).1;injection this with h1 h3;exact ic ⟨h1.symm,h3.symm⟩
theorem At.fun {b b1:Nat} {e e1:TypeId} {es l:List V} {q:Path} (h:At P w b e es q b1 e1 l): ∀{b2 e2 l2},At P w b e es q b2 e2 l2→b2=b1∧e2=e1∧l2=l:=by
 induction h with
 | here=>intro b2 e2 l2 h2;cases h2;exact ⟨rfl,rfl,rfl⟩
 | step h1 h2 h3 h4 h5 h6 h7 h8 ih=>
  intro b2 e2 l2 k;cases k with
  | step k1 k2 k3 k4 k5 k6 k7 k8=>
   rw[h1] at k1;cases k1;rw[h7] at k7;cases k7;rw[h2] at k2;cases k2;rw[h5] at k5;cases k5;exact ih k8
theorem At.split: ∀{q r:Path} {b b1:Nat} {e e1:TypeId} {es l:List V},At P w b e es (q++r) b1 e1 l→∃b' e' m,At P w b e es q b' e' m∧At P w b' e' m r b1 e1 l
 | [],r,b,b1,e,e1,es,l,h=>⟨_,_,_,.here,h⟩
 | a::q,r,b,b1,e,e1,es,l,h=>by
  cases h with
  | step h1 h2 h3 h4 h5 h6 h7 h8=>
   obtain ⟨b',e',m,k1,k2⟩:=At.split h8;exact ⟨b',e',m,.step h1 h2 h3 h4 h5 h6 h7 k1,k2⟩
theorem gh.cE {b:Nat} {e:TypeId} {es:List V} (h:gh P w I b e es) (hw:w'.heap[b]? =w.heap[b]?) (hI: ∀k j,I k j→w'.cell? ⟨k,j,none⟩=w.cell? ⟨k,j,none⟩) (iT: ∀k,bsize w' k=bsize w k):gh P w' I b e es:=by
 obtain ⟨ok,⟨Ca,T,c1,c0,c2,c3⟩,nI⟩:=h;refine ⟨ok,⟨Ca,T,hw.trans c1,c0,c2,fun i j x t' k1 k2 k3=> ?_⟩,nI⟩;obtain ⟨v,m1,m2⟩:=c3 i j x t' k1 k2 k3;exact ⟨v,m1,m2.mono (fun _ _ h=>h) hI fun b' _ _ _ _=>iT b'⟩
theorem gh.above {b b1 b2 i c len cap:Nat} {e e1 t ea:TypeId} {es cZ l l':List V} {r:Path} {Ca:Array Value} {T:TypeId} {f:Nat×Nat} {x:V} (hR:gh P w I b e es)
  (h1:w.heap[b]? =some (.cells Ca T f)) (h2:es[i]? =some x) (h3:(aN P e)[c]? =some t) (h4:P.underlying t=some (.slice ea)) (h5:bW P e x c= .list ea cZ) (h6:0<cap)
  (h7:Ca[i*P.cellsOf e+c]? =some (.slice (some ⟨b2,0,none⟩) len cap)) (h8:At P w b2 ea cZ r b1 e1 l) (hl:l'.length=l.length)
  (hw:w'.heap[b]? =w.heap[b]?) (hI: ∀k j,I k j→w'.cell? ⟨k,j,none⟩=w.cell? ⟨k,j,none⟩) (iT: ∀k,bsize w' k=bsize w k):gh P w' I b e (setRow P l' e es ((i,c)::r)):=by
 have nc:(parts P e x)[c]? =some (.list ea cZ):=by rw[pR h3,h5,pS h4]
 rw[zF h2 nc];have hR0:=hR;obtain ⟨ok,⟨w8,_,c1,c0,c2,c3⟩,nI⟩:=hR;rw[h1] at c1;cases c1;refine ⟨ok,⟨Ca,_,hw.trans h1,c0,by simpa using c2,fun i' j x' t' k1 k2 k3=> ?_⟩,nI⟩;obtain ⟨x0,y1,y2⟩:=CX hR0 h2 h3 k1 k2;obtain ⟨v,m1,m2⟩:=c3 i' j x0 t' y1 k2 k3;refine ⟨v,m1,?_⟩;have m3:n9 P w' I t' v (bW P e x0 j):=m2.mono (fun _ _ h=>h) hI fun b' _ _ _ _=>iT b';rw[y2];by_cases ic:i'=i∧j=c
 ·rw[ak ic];obtain ⟨rfl,rfl⟩:=ic;rw[h2] at y1;cases y1;rw[h3] at k2;cases k2;rw[h5] at m3;have hlen:=Og (l':=l') h8 hl;rw[h7] at m1;cases m1;generalize hy:V.list ea cZ=y at m3;cases m3 with
  | fl a p=>unfold dB at a;rw[h4] at a;cases a
  | emp a=>exact absurd h6 (mj _)
  | row a b c d e=>
   cases hy;rw[←hlen];exact .row a b c (by omega) e
 ·rw[aj ic];exact m3
theorem afL (S:aA P w I β hp B M w0) {id b b1 i c:Nat} {e0 e1:TypeId} {es l l':List V} {vers vers':List Nat} {path:Path} (K:Path→Nat→TypeId→List V→Prop)
  (ab:hp id=some (.nest e0 es vers)) (hb:β id=some b) (ha:At P w b e0 es path b1 e1 l) (hl:l'.length=l.length)
  (hw: ∀k,k≠b1→w'.heap[k]? =w.heap[k]?) (iT: ∀k,bsize w' k=bsize w k) (aU:w'.heap.size=w.heap.size) (lE:w'.os=w.os∧w'.output=w.output)
  (afM:gh P w' I b1 e1 l')
  (V0: ∀a r b' e' m,At P w' b1 e1 l' (a::r) b' e' m→b'≠b1∧(At P w b1 e1 l (a::r) b' e' m∨(a=(i,c)∧K r b' e' m)))
  (hK: ∀r b' e' m,K r b' e' m→gh P w I b' e' m∧(M b'∨B≤b')∧(∀bj ct,hp bj=some ct→¬bc P w (β bj) ct b'))
  (rY: ∀r1 r2 b' e1 m1 e2 m2,K r1 b' e1 m1→K r2 b' e2 m2→r1=r2)
  (my:vers'.length=vers.length) (CG: ∀k,bw vers k≤bw vers' k)
  (vH: ∀(r:Path) i' c' t' v ea l0,(path++r).length<vers.length→bw vers' (path++r).length=bw vers (path++r).length→P.underlying t'=some (.slice ea)→oS P w b1 e1 l r i' c' t' v (.list ea l0)→
   ∃zG,zG.length=l0.length∧oS P w' b1 e1 l' r i' c' t' v (.list ea zG)):
  Le P w I β hp w' I β (ao hp id (some (.nest e0 (setRow P l' e0 es path) vers')))∧aA P w' I β (ao hp id (some (.nest e0 (setRow P l' e0 es path) vers'))) B M w0:=by
 have hr:=S.h.rel id _ ab;rw[hb] at hr;cases hr with
 | gz ay=>cases ay
 | nest ay cX j8=>
 cases ay;have lH: ∀q e' m,At P w b e0 es q b1 e' m→q=path:=fun q e' m h=>j8 _ _ _ _ _ _ _ h ha;have c6: ∀j,¬I b1 j:=(cX _ _ _ _ ha).nI;have vI: ∀k j,I k j→w'.cell? ⟨k,j,none⟩=w.cell? ⟨k,j,none⟩:=fun k j hk=>World.cell?_of_block (hw k (fun e=>c6 j (e▸hk)));have V1:bc P w (β id) (.nest e0 es vers) b1:= .row hb ha;have same: ∀{av ct b'},av≠id→hp av=some ct→bc P w (β av) ct b'→w'.heap[b']? =w.heap[b']? :=
  fun hi h ho=>hw _ fun e=>hi (S.h.inj _ _ _ _ b1 h ab (e▸ho) V1)
 have zH:(setRow P l' e0 es path).length=es.length:=Og ha hl;have vG:=At.afJ (I:=I) (w':=w') (l':=l') ha hw hl cX lH;have On: ∀q b' e' m,At P w' b e0 (setRow P l' e0 es path) q b' e' m→(∃e2 m2,At P w b e0 es q b' e2 m2)∨∃r,q=path++(i,c)::r∧K r b' e' m:=by
  intro q b' e' m h;rcases vG q b' e' m h with ⟨r,m0,z1,z2,z3⟩|⟨r,z1,z2,z3⟩|⟨z1,z2,z3,z4⟩
  ·exact .inl ⟨_,_,z2⟩
  ·cases r with
   | nil=>exact absurd rfl z1
   | cons a r=>
    obtain ⟨y1,y2⟩:=V0 a r b' e' m z3;rcases y2 with y2|⟨rfl,y2⟩
    ·exact .inl ⟨_,_,by rw[z2];exact ha.app y2⟩
    ·exact .inr ⟨r,z2,y2⟩
  ·exact .inl ⟨_,_,z1⟩
 have qL: ∀b',bc P w' (β id) (.nest e0 (setRow P l' e0 es path) vers') b'→bc P w (β id) (.nest e0 es vers) b'∨((M b'∨B≤b')∧∀bj ct,hp bj=some ct→¬bc P w (β bj) ct b'):=by
  intro b' ho;cases ho with
  | root _ h=>exact .inl (.root (by simp) h)
  | row h1 h2=>
   rw[hb] at h1;cases h1;rcases On _ _ _ _ h2 with ⟨e2,m2,h⟩|⟨r,_,h⟩
   ·exact .inl (.row hb h)
   ·exact .inr (hK _ _ _ _ h).2
 have hle:Le P w I β hp w' I β (ao hp id (some (.nest e0 (setRow P l' e0 es path) vers'))):=by
  refine ⟨fun _ _ h=>h,vI,fun av ct h=> ?_,fun av ct jq b' h h3 hd3 ay=>iT b',fun av e bI vs e' aL Cz b2 q i' c' t v ea l0 h h' fD ba hv ht hc=> ?_⟩
  ·by_cases hi:av=id
   ·subst hi;rw[ab] at h;cases h;exact ⟨_,bD _ _ _,⟨rfl,zH.symm,my.symm,CG⟩,fun _=>rfl⟩
   ·exact ⟨ct,by rw[cp _ _ hi];exact h,ag.le_refl _,fun _=>rfl⟩
  ·by_cases hi:av=id
   ·subst hi;rw[ab] at h;cases h;rw[bD] at h';cases h';rw[hb] at fD;cases fD;obtain ⟨b',e',m,Ca,T,f,x,k1,k2,k3,k4,k5,k6⟩:=hc;rcases At.vG (I:=I) (w':=w') (l':=l') ha hw hl cX lH q b' e' m k1 with ⟨r,z1,z2,e2,m2,z3,_⟩|⟨r,z1,z2,z3,z4⟩|⟨z1,z2,z3,z4⟩
    ·cases r with
     | nil=>
      cases z3;rw[va] at z1;subst z1;obtain ⟨w1,w2,w3⟩:=ha.fun k1;subst w2;subst w3;obtain ⟨zG,g1,g2⟩:=vH [] i' c' t v ea l0 (by simpa using ba) (by simpa using hv) ht ⟨_,_,_,Ca,T,f,x,.here,k2,k3,k4,k5,k6⟩;refine ⟨zG,g1,?_⟩;obtain ⟨b5,e5,iU,C5,T5,f5,x5,q1,q2,q3,q4,q5,q6⟩:=g2;cases q1;exact ⟨_,_,_,C5,T5,f5,x5,z2,q2,q3,q4,q5,q6⟩
     | cons a r=>
      cases z3 with
      | @step _ i2 c2 b3 len cap _ _ t3 Oo _ _ gI _ r Ca3 T3 f3 x3 g1 g2 g3 g4 g5 g6 g7 g8=>
       have ay:b'≠b1:=by
        intro e;subst e;have:=lH _ _ _ k1;rw[this] at z1;have:=congrArg List.length z1;simp at this
       have nc:(parts P e' x3)[c2]? =some (.list Oo gI):=by rw[pR g3,g5,pS g4]
       rw[zF g2 nc] at z2;have Om: ∃x2,(m.set i2 (di P e' ((parts P e' x3).set c2 (.list Oo (setRow P l' Oo gI r)))))[i']? =some x2:=by
        have:i'<m.length:=(cq.1 k3).1;exact ⟨_,bR (by rw[ti];exact this)⟩
       obtain ⟨x2,js⟩:=Om;obtain ⟨x0,y1,y2⟩:=CX (cX _ _ _ _ k1) g2 g3 js k4;rw[k3] at y1;cases y1;have g8l:=(ha.fun ((k1.app (.step g1 g2 g3 g4 g5 g6 g7 g8)) |> fun h=>by rw[z1];exact h)).2.2;by_cases ic:i'=i2∧c'=c2
       ·rw[ak ic] at y2;obtain ⟨rfl,rfl⟩:=ic;rw[k3] at g2;cases g2;rw[k5] at g5;cases g5;exact ⟨_,Og g8 (by rw[hl,g8l]),b',e',_,Ca,T,f,x2,z2,(hw b' ay).trans k2,js,k4,y2,k6⟩
       ·rw[aj ic,k5] at y2;exact ⟨l0,rfl,b',e',_,Ca,T,f,x2,z2,(hw b' ay).trans k2,js,k4,y2,k6⟩
    ·subst z2;obtain ⟨zG,g1,g2⟩:=vH r i' c' t v ea l0 ba hv ht ⟨_,_,_,Ca,T,f,x,z3,k2,k3,k4,k5,k6⟩;obtain ⟨b5,e5,iU,C5,T5,f5,x5,q1,q2,q3,q4,q5,q6⟩:=g2;exact ⟨zG,g1,_,_,_,C5,T5,f5,x5,z4 _ _ _ q1,q2,q3,q4,q5,q6⟩
    ·exact ⟨l0,rfl,b',e',m,Ca,T,f,x,z1,(hw b' z2).trans k2,k3,k4,k5,k6⟩
   ·rw[cp _ _ hi,h] at h';cases h';exact ⟨l0,rfl,hc.mono fun _ _ _ _ hh=>same hi h (.row fD hh)⟩
 have hold: ∀{av ct b'},ao hp id (some (.nest e0 (setRow P l' e0 es path) vers')) av=some ct→bc P w' (β av) ct b'→
   (∃jq,hp av=some jq∧bc P w (β av) jq b')∨(av=id∧(M b'∨B≤b')∧∀bj ct,hp bj=some ct→¬bc P w (β bj) ct b'):=by
  intro av ct b' h ho;by_cases hi:av=id
  ·subst hi;rw[bD] at h;cases h;rcases qL b' ho with h|h
   ·exact .inl ⟨_,ab,h⟩
   ·exact .inr ⟨rfl,h⟩
  ·rw[cp _ _ hi] at h;exact .inl ⟨ct,h,ho.mono fun b2 pT=>same hi h pT⟩
 refine ⟨hle,⟨⟨fun av ct h=> ?_,fun i1 i2 b1 b2 b' h1 h2 o1 o2=> ?_,fun av ct b' h ho=> ?_,fun b' h=>by rw[aU];exact S.h.iB b' h⟩,fun b' h1 h2=> ?_,by rw[aU];exact S.size,S.new,⟨lE.1.trans S.io.1,lE.2.trans S.io.2⟩⟩⟩
 ·by_cases hi:av=id
  ·subst hi;rw[bD] at h;cases h;rw[hb];refine .nest rfl (fun q b' e' m h=> ?_) (fun q1 q2 b' f1 m1 f2 m2 h1 h2=> ?_)
   ·rcases vG q b' e' m h with ⟨r,m0,z1,z2,z3⟩|⟨r,z1,z2,z3⟩|⟨z1,z2,z3,z4⟩
    ·subst z3;subst z1;obtain ⟨b5,e5,m5,g1,g2⟩:=At.split ha;obtain ⟨w1,w2,w3⟩:=g1.fun z2;subst w1;subst w2;subst w3;cases r with
     | nil=>cases g2;exact afM
     | cons a r=>
      cases g2 with
      | step g1' g2 g3 g4 g5 g6 g7 g8=>
       refine (cX _ _ _ _ z2).above g1' g2 g3 g4 g5 g6 g7 g8 hl (hw _ fun e=> ?_) vI iT;subst e;have:=lH _ _ _ z2;have:=congrArg List.length this;simp at this
    ·cases r with
     | nil=>exact absurd rfl z1
     | cons a r=>
      obtain ⟨y1,y2⟩:=V0 a r b' e' m z3;rcases y2 with y2|⟨rfl,y2⟩
      ·exact (cX _ _ _ _ (ha.app y2)).cE (hw _ y1) vI iT
      ·exact (hK _ _ _ _ y2).1.cE (hw _ y1) vI iT
    ·exact (cX _ _ _ _ z1).cE (hw _ z2) vI iT
   ·rcases On _ _ _ _ h1 with ⟨e2,m2',x1⟩|⟨r1,x1,x2⟩<;>rcases On _ _ _ _ h2 with ⟨e3,m3',y1⟩|⟨r2,y1,y2⟩
    ·exact j8 _ _ _ _ _ _ _ x1 y1
    ·exact absurd (bc.row hb x1) ((hK _ _ _ _ y2).2.2 _ _ ab)
    ·exact absurd (bc.row hb y1) ((hK _ _ _ _ x2).2.2 _ _ ab)
    ·rw[x1,y1,rY _ _ _ _ _ _ _ x2 y2]
  ·rw[cp _ _ hi] at h;exact (S.h.rel av ct h).mono hle fun b' ho=>⟨same hi h ho,fun _ h=>h⟩
 ·rcases hold h1 o1 with ⟨c1,x1,y1⟩|⟨rfl,x1,y1⟩<;>rcases hold h2 o2 with ⟨c2,x2,y2⟩|⟨rfl,x2,y2⟩
  ·exact S.h.inj i1 i2 c1 c2 b' x1 x2 y1 y2
  ·exact absurd y1 (y2 _ _ x1)
  ·exact absurd y2 (y1 _ _ x2)
  ·rfl
 ·rcases hold h ho with ⟨c1,x1,y1⟩|⟨rfl,x1,y1⟩
  ·exact S.h.own av c1 b' x1 y1
  ·exact x1
 ·rw[hw b' fun e=> ?_]
  ·exact S.cE b' h1 h2
  ·subst e;rcases S.h.own id _ b' ab V1 with h|h
   ·exact h2 h
   ·omega
theorem afN {i i' n c c' k:Nat} (hc':c'<n) (oY:c+k≤n) (h1:i*n+c≤i'*n+c') (h2:i'*n+c'<i*n+c+k):i'=i∧c≤c'∧c'<c+k:=by
 have:i'=i:=by
  rcases Nat.lt_trichotomy i' i with h|h|h
  ·have:=dZ n (Nat.succ_le_of_lt h);rw[Nat.succ_mul] at this;omega
  ·exact h
  ·have:=dZ n (Nat.succ_le_of_lt h);rw[Nat.succ_mul] at this;omega
 subst this;omega
theorem afO {b1 i c:Nat} {e1 T:TypeId} {l cs:List V} {x0:V} {Ca:Array Value} {vs:List Value} (hR:gh P w I b1 e1 l) (hh:w.heap[b1]? =some (.cells Ca T (0,0))) (hs:l.length*P.cellsOf e1≤Ca.size)
  (hx:l[i]? =some x0) (hk:cs.length=vs.length) (oY:c+cs.length≤P.cellsOf e1):
  ∀{i' c':Nat} {x':V} {t':TypeId},(l.set i (di P e1 (gS (parts P e1 x0) c cs)))[i']? =some x'→(aN P e1)[c']? =some t'→
   ∃x1,l[i']? =some x1∧((∃j y u,i'=i∧c'=c+j∧cs[j]? =some y∧vs[j]? =some u∧bW P e1 x' c'=y∧(Ca.toList.take (i*P.cellsOf e1+c)++(vs++Ca.toList.drop (i*P.cellsOf e1+c+vs.length))).toArray[i'*P.cellsOf e1+c']? =some u)∨
    (bW P e1 x' c'=bW P e1 x1 c'∧(Ca.toList.take (i*P.cellsOf e1+c)++(vs++Ca.toList.drop (i*P.cellsOf e1+c+vs.length))).toArray[i'*P.cellsOf e1+c']? =Ca[i'*P.cellsOf e1+c']?)):=by
 intro i' c' x' t' cS fp;have oe:i<l.length:=(cq.1 hx).1;have IL:c'<P.cellsOf e1:=by rw[←ey hR.ok];exact (cq.1 fp).1
 have dW:(parts P e1 x0).length=P.cellsOf e1:=by rw[zD];exact ey hR.ok
 have hbound:i*P.cellsOf e1+c+vs.length≤Ca.toList.length:=by
  have:(i+1)*P.cellsOf e1≤l.length*P.cellsOf e1:=dZ _ oe;rw[jJ] at this;simp only[Array.length_toList];omega
 simp only[nQ];rw[pU _ _ _ _ hbound];by_cases ka:i'=i∧c≤c'∧c'<c+cs.length
 ·obtain ⟨rfl,h1,h2⟩:=ka;rw[qw oe] at cS;cases cS;refine ⟨x0,hx,.inl ?_⟩;rw[bN,bt,show i'*P.cellsOf e1+c'-(i'*P.cellsOf e1+c)=c'-c by omega];have hy:cs[c'-c]? =some cs[c'-c]:=bR (by omega);have hu:vs[c'-c]? =some vs[c'-c]:=bR (by omega);refine ⟨c'-c,_,_,rfl,by omega,hy,hu,?_,hu⟩;refine tN ?_ fp;unfold gS;rw[pU _ _ _ _ (by omega),bN,bt];exact hy
 ·have CZ: ¬(i*P.cellsOf e1+c≤i'*P.cellsOf e1+c'∧i'*P.cellsOf e1+c'<i*P.cellsOf e1+c+vs.length):=fun h=>ka (afN IL oY h.1 (by omega));have hg:(if i'*P.cellsOf e1+c'<i*P.cellsOf e1+c then Ca.toList[i'*P.cellsOf e1+c']? else if i'*P.cellsOf e1+c'<i*P.cellsOf e1+c+vs.length then vs[i'*P.cellsOf e1+c'-(i*P.cellsOf e1+c)]? else Ca.toList[i'*P.cellsOf e1+c']?)=Ca[i'*P.cellsOf e1+c']? :=by
   by_cases h1:i'*P.cellsOf e1+c'<i*P.cellsOf e1+c
   ·rw[ak h1];simp
   ·rw[aj h1,bN];simp
  by_cases hi:i'=i
  ·subst hi;rw[qw oe] at cS;cases cS;refine ⟨x0,hx,.inr ⟨?_,hg⟩⟩;have h1:(gS (parts P e1 x0) c cs)[c']? =some (fN P t' (bW P e1 x0 c')):=by
    unfold gS;rw[pU _ _ _ _ (by omega)];by_cases h1:c'<c
    ·rw[ak h1];exact pR fp
    ·rw[aj h1,bN];exact pR fp
   rw[tN h1 fp];obtain ⟨w8,_,_,_,_,tO⟩:=hR.cells;obtain ⟨v,_,ho⟩:=tO i' c' x0 t' hx fp IL;exact ho.vE
  ·rw[BX (fun h=>hi h.symm)] at cS;exact ⟨x',cS,.inr ⟨rfl,hg⟩⟩
theorem afP {w:World} {b1:Nat} {Ca Cb:Array Value} {T:TypeId} (hh:w.heap[b1]? =some (.cells Ca T (0,0))) (hs:Cb.size=Ca.size) (k:Nat):bsize (w.setRow b1 Cb) k=bsize w k:=by
 by_cases hk:k=b1
 ·subst hk;rw[jS (setRow_heap w k Ca Cb T (0,0) hh),jS hh,hs]
 ·simp only[bsize,setRow_other w b1 k Cb hk]
theorem IM (S:aA P w I β hp B M w0) {t:TypeId} {v:Value} {id b b1 i c:Nat} {e0 e1:TypeId} {es l cs:List V} {vers vers':List Nat} {path:Path} {x0:V} (K:Path→Nat→TypeId→List V→Prop)
  (ab:hp id=some (.nest e0 es vers)) (hb:β id=some b) (ha:At P w b e0 es path b1 e1 l) (ht:oP P t=true) (hn:P.cellsOf t=v.cells.size)
  (hx:l[i]? =some x0) (hk:cs.length=v.cells.size) (oY:c+cs.length≤P.cellsOf e1) (h1: ∀u∈v.cells.toList,u.oneCell'=true)
  (dm: ∀(j:Nat) y u t',cs[j]? =some y→v.cells.toList[j]? =some u→(aN P e1)[c+j]? =some t'→n9 P w I t' u y)
  (afQ: ∀(j:Nat) y u t' e3 gI b3 len cap,cs[j]? =some y→v.cells.toList[j]? =some u→(aN P e1)[c+j]? =some t'→P.underlying t'=some (.slice e3)→y= .list e3 gI→0<cap→
   u= .slice (some ⟨b3,0,none⟩) len cap→j=0∧∀r b' e' m,At P w b3 e3 gI r b' e' m→b'≠b1∧K r b' e' m)
  (hK: ∀r b' e' m,K r b' e' m→gh P w I b' e' m∧(M b'∨B≤b')∧(∀bj ct,hp bj=some ct→¬bc P w (β bj) ct b'))
  (rY: ∀r1 r2 b' e1 m1 e2 m2,K r1 b' e1 m1→K r2 b' e2 m2→r1=r2)
  (my:vers'.length=vers.length) (CG: ∀k,bw vers k≤bw vers' k)
  (gA:(∀(j:Nat) t',j<cs.length→(aN P e1)[c+j]? =some t'→dB P t'=true)∨∀k,path.length≤k→k<vers.length→bw vers' k≠bw vers k):
  ∃w',(Instr.storeAt t (.pointer (some ⟨b1,i*P.cellsOf e1+c,none⟩)) v).run P w= .ok () w'∧
   Le P w I β hp w' I β (ao hp id (some (.nest e0 (setRow P (l.set i (di P e1 (gS (parts P e1 x0) c cs))) e0 es path) vers')))∧
   aA P w' I β (ao hp id (some (.nest e0 (setRow P (l.set i (di P e1 (gS (parts P e1 x0) c cs))) e0 es path) vers'))) B M w0:=by
 have hR:=S.rows ab hb ha;obtain ⟨Ca,T,hh,hL,hs,tO⟩:=hR.cells;have oe:i<l.length:=(cq.1 hx).1;have da:cs.length=v.cells.toList.length:=by simpa using hk
 have Oe:i*P.cellsOf e1+c+v.cells.size≤Ca.size:=by
  have:(i+1)*P.cellsOf e1≤l.length*P.cellsOf e1:=dZ _ oe;rw[jJ] at this;omega
 have cF:=II (t:=t) (o:=i*P.cellsOf e1+c) (v:=v) ht hn hh Oe h1;have hlen:(Ca.toList.take (i*P.cellsOf e1+c)++(v.cells.toList++Ca.toList.drop (i*P.cellsOf e1+c+v.cells.toList.length))).length=Ca.size:=by
  rw[CU _ _ _ (by simpa using Oe)];simp
 have cn:= @afO P w I b1 i c e1 T l cs x0 Ca v.cells.toList hR hh hs hx da oY;have c6:=hR.nI;have hr:=S.h.rel id _ ab;rw[hb] at hr;cases hr with
 | gz ay=>cases ay
 | nest ay cX j8=>
 cases ay;have lH: ∀q e' m,At P w b1 e1 l q b1 e' m→q=[]:=by
  intro q e' m h;have:=j8 _ _ _ _ _ _ _ (ha.app h) ha;simpa using this
 have tP:=setRow_heap w b1 Ca (Ca.toList.take (i*P.cellsOf e1+c)++(v.cells.toList++Ca.toList.drop (i*P.cellsOf e1+c+v.cells.toList.length))).toArray T (0,0) hh;have iT:=afP hh (Cb:=(Ca.toList.take (i*P.cellsOf e1+c)++(v.cells.toList++Ca.toList.drop (i*P.cellsOf e1+c+v.cells.toList.length))).toArray) (by simpa using hlen);have rZ:=fun k (hk:k≠b1)=>setRow_other w b1 k (Ca.toList.take (i*P.cellsOf e1+c)++(v.cells.toList++Ca.toList.drop (i*P.cellsOf e1+c+v.cells.toList.length))).toArray hk;generalize IN:(Ca.toList.take (i*P.cellsOf e1+c)++(v.cells.toList++Ca.toList.drop (i*P.cellsOf e1+c+v.cells.toList.length))).toArray=Cb at*
 generalize hL':l.set i (di P e1 (gS (parts P e1 x0) c cs))=l' at*
 have mA:l'.length=l.length:=by rw[←hL'];simp
 have vI: ∀k j,I k j→(w.setRow b1 Cb).cell? ⟨k,j,none⟩=w.cell? ⟨k,j,none⟩:=fun k j hk=>World.cell?_of_block (rZ k (fun e=>c6 j (e▸hk)));refine ⟨_,cF,afL S (i:=i) (c:=c) K ab hb ha mA rZ iT (by simp) ⟨rfl,rfl⟩ ?_ ?_ hK rY my CG ?_⟩
 ·refine ⟨hR.ok,⟨Cb,T,tP,(show Cb.size=Ca.size by rw[←IN];simpa using hlen)▸hL,by rw[mA,←IN];simp only[qv];omega,fun i' j x' t' k1 k2 k3=> ?_⟩,c6⟩;obtain ⟨x1,y1,y2⟩:=cn k1 k2;rcases y2 with ⟨jj,y,u,rfl,rfl,z1,z2,z3,z4⟩|⟨z3,z4⟩
  ·exact ⟨u,z4,by rw[z3];exact (dm jj y u t' z1 z2 k2).mono (fun _ _ h=>h) vI fun _ _ _ _ _=>iT _⟩
  ·obtain ⟨v1,m1,m2⟩:=tO i' j x1 t' y1 k2 k3;exact ⟨v1,z4.trans m1,by rw[z3];exact m2.mono (fun _ _ h=>h) vI fun _ _ _ _ _=>iT _⟩
 ·intro a r b' e' m h;obtain ⟨i',c'⟩:=a;cases h with
  | step k1 k2 k3 k4 k5 k6 k7 k8=>
   rw[tP] at k1;cases k1;obtain ⟨x1,y1,y2⟩:=cn k2 k3;rcases y2 with ⟨jj,y,u,rfl,rfl,z1,z2,z3,z4⟩|⟨z3,z4⟩
   ·rw[k7] at z4;obtain ⟨g1,g2⟩:=afQ jj y u _ _ _ _ _ _ z1 z2 k3 k4 (z3.symm.trans k5) k6 (dA z4).symm;subst g1;have jU:=k8.vz (w:=w) fun q2 b5 e5 iU hq=>rZ b5 (g2 _ _ _ _ hq).1;exact ⟨(g2 _ _ _ _ jU).1,.inr ⟨rfl,(g2 _ _ _ _ jU).2⟩⟩
   ·rw[k5] at z3;rw[k7] at z4;have bK: ∀q2 b5 e5 iU,At P w _ _ _ q2 b5 e5 iU→b5≠b1:=fun q2 b5 e5 iU hq xh=>by
     subst xh;have:=lH _ _ _ (.step hh y1 k3 k4 z3.symm k6 z4.symm hq);cases this
    have jU:=k8.vz (w:=w) fun q2 b5 e5 iU hq=>rZ b5 (bK q2 b5 e5 iU hq);exact ⟨bK _ _ _ _ jU,.inl (.step hh y1 k3 k4 z3.symm k6 z4.symm jU)⟩
 ·intro r i' c' t' v' ea l0 ba Oq og hc;rcases gA with gA|gA
  ·
   have ep: ∀{i' c' x1 t' e3},l[i']? =some x1→(aN P e1)[c']? =some t'→P.underlying t'=some (.slice e3)→∃x',l'[i']? =some x'∧bW P e1 x' c'=bW P e1 x1 c'∧Cb[i'*P.cellsOf e1+c']? =Ca[i'*P.cellsOf e1+c']? :=by
    intro i' c' x1 t' e3 g1 g2 g3;have ba:i'<l'.length:=by rw[mA];exact (cq.1 g1).1
    have cS:=bR ba;obtain ⟨x2,y1,y2⟩:=cn cS g2;rw[g1] at y1;cases y1;rcases y2 with ⟨jj,y,u,rfl,rfl,z1,z2,z3,z4⟩|⟨z3,z4⟩
    ·have:=gA jj t' (cq.1 z1).1 g2;unfold dB at this;rw[g3] at this;cases this
    ·exact ⟨_,cS,z3,z4⟩
   obtain ⟨b',e',m,C5,T,f,x,k1,k2,k3,k4,k5,k6⟩:=hc;refine ⟨l0,rfl,?_⟩;cases k1 with
   | here=>
    rw[hh] at k2;cases k2;obtain ⟨x',g1,g2,g3⟩:=ep k3 k4 og;exact ⟨_,_,l',Cb,_,_,x',.here,tP,g1,k4,g2.trans k5,g3.trans k6⟩
   | step q1 q2 q3 q4 q5 q6 q7 q8=>
    have q1':=q1;rw[hh] at q1;cases q1;obtain ⟨x',g1,g2,g3⟩:=ep q2 q3 q4;have bK: ∀q2 b5 e5 iU,At P w _ _ _ q2 b5 e5 iU→b5≠b1:=fun q9 b5 e5 iU hq xh=>by
     subst xh;have:=lH _ _ _ (.step hh q2 q3 q4 q5 q6 q7 hq);cases this
    have jU:=q8.mono (w':=w.setRow b1 Cb) fun q2 b5 e5 iU hq=>rZ b5 (bK q2 b5 e5 iU hq);exact ⟨b',e',m,C5,T,f,x,.step tP g1 q3 q4 (g2.trans q5) q6 (g3.trans q7) jU,(rZ _ (bK _ _ _ _ q8)).trans k2,k3,k4,k5,k6⟩
  ·exact absurd Oq (gA _ (by simp) ba)
theorem C3: ∀(vs:List Nat) (d k:Nat),d≤k→k<vs.length→bw (raise d vs) k=bw vs k+1
 | [],d,k,_,h=>by simp at h
 | v::vs,0,0,_,_=>by simp[raise,bw]
 | v::vs,0,k+1,_,h=>by
  have:=C3 vs 0 k (kK _) (by simpa using h);simpa[raise,bw] using this
 | v::vs,d+1,0,h,_=>by omega
 | v::vs,d+1,k+1,h,h2=>by
  have:=C3 vs d k (by omega) (by simpa using h2);simpa[raise,bw] using this
theorem IP: ∀(vs:List Nat) (d:Nat),(raise d vs).length=vs.length
 | [],0=>rfl
 | [],d+1=>rfl
 | v::vs,0=>by simp[raise]
 | v::vs,d+1=>by simp[raise,IP vs d]
theorem C4: ∀(vs:List Nat) (d k:Nat),bw vs k≤bw (raise d vs) k
 | [],0,k=>by simp[raise,bw]
 | [],d+1,k=>by simp[raise,bw]
 | v::vs,0,0=>by simp[raise,bw]
 | v::vs,0,k+1=>by
  have:=C4 vs 0 k;simpa[raise,bw] using this
 | v::vs,d+1,0=>by simp[raise,bw]
 | v::vs,d+1,k+1=>by
  have:=C4 vs d k;simpa[raise,bw] using this
theorem afR {t:TypeId} {v:Value} {x:V} (hv:ai P w I β hp v x) (h:eR P t x=true) (hs:dB P t=true):Pure P w I t v x:=by
 unfold dB at hs;unfold eR at h;cases hu:P.underlying t with
 | none=>rw[hu] at hs;cases hs
 | some d=>
  rw[hu] at hs h;cases d<;>simp only at hs<;>first|(cases hs;done)|skip
  all_goals cases x<;>simp only at h<;>first|(cases h;done)|skip
  ·rw[hv.kW];exact .bool hu
  ·simp only[fK] at h;subst h;rw[hv.fq];exact .int hu
  ·obtain ⟨s,rfl,hl⟩:=hv.od;exact .str hu hl
def Ot (P:Program) (w:World) (I:Nat→Nat→Prop) (o:Option Nat) (blk:ag) (b2:Nat) (e2:TypeId) (bI:List V):Prop:=
 (∀r b' e' m,At P w b2 e2 bI r b' e' m→gh P w I b' e' m∧bc P w o blk b')∧∀r1 r2 b' e1 m1 IQ m2,At P w b2 e2 bI r1 b' e1 m1→At P w b2 e2 bI r2 b' IQ m2→r1=r2
theorem Ou (S:aA P w I β hp B M w0) {bj b2:Nat} {e2:TypeId} {bI:List V} (ab:hp bj=some (.arr e2 bI false)) (hb:β bj=some b2) (hs:(flat P e2).all (dB P)=true):
  Ot P w I (β bj) (.arr e2 bI false) b2 e2 bI:=by
 have only: ∀r b' e' m,At P w b2 e2 bI r b' e' m→r=[]:=by
  intro r b' e' m h;cases h with
  | here=>rfl
  | step h1 h2 h3 h4 h5 h6 h7 h8=>
   rw[qI] at h3;have:=fL.1 hs _ (lp h3);unfold dB at this;rw[h4] at this;cases this
 refine ⟨fun r b' e' m h=> ?_,fun r1 r2 b' e1 m1 IQ m2 h1 h2=>by rw[only _ _ _ _ h1,only _ _ _ _ h2]⟩;have:=only _ _ _ _ h;subst this;cases h;have hr:=S.h.rel bj _ ab;cases hr with
 | dU ay=>rw[hb] at ay;cases ay
 | arr hL ar ay hh aU hf eJ hx=>
  rw[hb] at ay;cases ay;refine ⟨⟨ar,⟨_,_,hh,hL,aU,fun i j x t' k1 k2 k3=> ?_⟩,eJ rfl⟩,.root (by simp) hb⟩;obtain ⟨v,m1,m2⟩:=hx i j x t' k1 k2 k3;refine ⟨v,m1,.fl ?_ m2⟩;rw[qI] at k2;exact fL.1 hs _ (lp k2)
theorem afS (S:aA P w I β hp B M w0) {bj b2:Nat} {e2:TypeId} {bI:List V} {qG:List Nat} (ab:hp bj=some (.nest e2 bI qG)) (hb:β bj=some b2):
  Ot P w I (β bj) (.nest e2 bI qG) b2 e2 bI:=by
 have hr:=S.h.rel bj _ ab;cases hr with
 | gz ay=>rw[hb] at ay;cases ay
 | nest ay cX j8=>
  rw[hb] at ay;cases ay;exact ⟨fun r b' e' m h=>⟨cX _ _ _ _ h,.row hb h⟩,fun r1 r2 b' e1 m1 IQ m2 h1 h2=>j8 _ _ _ _ _ _ _ h1 h2⟩
theorem V2 {c:Nat} {e1 e2 t':TypeId} (h:(((flat P e1).drop c).take 1).all (fun u=>match P.underlying u with|some (.slice e3)=>Nat.beq e2 e3|_=>false)=true) (ht:(aN P e1)[c]? =some t'):
  P.underlying t'=some (.slice e2):=by
 rw[qI] at ht;have hm:t'∈((flat P e1).drop c).take 1:=by
  refine lp (i:=0) ?_;rw[gR (by omega),pD];simpa using ht
 have:=fL.1 h _ hm;split at this
 ·rename_i e3 hu;rw[aO] at this;rw[hu,this]
 ·cases this
theorem V3 (S:aA P w I β hp B M w0) {t:TypeId} {v:Value} {id bj b b1 i c:Nat} {e0 e1 e2:TypeId} {es l bI:List V} {vers:List Nat} {path:Path} {x0:V} {ct:ag}
  (ab:hp id=some (.nest e0 es vers)) (hb:β id=some b) (ha:At P w b e0 es path b1 e1 l) (ht:oP P t=true) (hn:P.cellsOf t=1)
  (hx:l[i]? =some x0) (oY:c+1≤P.cellsOf e1) (C6:(((flat P e1).drop c).take 1).all (fun u=>match P.underlying u with|some (.slice e3)=>Nat.beq e2 e3|_=>false)=true)
  (c7:hp bj=some ct) (bK:id≠bj)
  (hv:((∃a,v= .slice a 0 0)∧bI=[])∨∃b2 cap,v= .slice (some ⟨b2,0,none⟩) bI.length cap∧cap*P.cellsOf e2=bsize w b2∧bI.length≤cap∧cap≤maxLen∧Ot P w I (β bj) ct b2 e2 bI):
  qO P ((Instr.storeAt t (.pointer (some ⟨b1,i*P.cellsOf e1+c,none⟩)) v).run P w) w I β hp B M w0
   ⟨.undef,[(id,.nest e0 (setRow P (l.set i (di P e1 (gS (parts P e1 x0) c [.list e2 bI]))) e0 es path) (raise path.length vers)),(bj,.dead)]⟩:=by
 obtain ⟨sa,S1⟩:=vD S c7;have qQ:ao hp bj (some .dead) id=some (.nest e0 es vers):=by rw[cp _ _ bK];exact ab
 have tO:v.cells= #[v]:=by rcases hv with ⟨⟨_,rfl⟩,_⟩|⟨b2,cap,rfl,_⟩<;>rfl
 have qR:v.oneCell'=true:=by rcases hv with ⟨⟨_,rfl⟩,_⟩|⟨b2,cap,rfl,_⟩<;>rfl
 have free: ∀b',bc P w (β bj) ct b'→(M b'∨B≤b')∧∀IS jq,ao hp bj (some .dead) IS=some jq→¬bc P w (β IS) jq b':=by
  intro b' ho;refine ⟨S.h.own bj ct b' c7 ho,fun IS jq h3 V4=> ?_⟩;by_cases hi:IS=bj
  ·subst hi;rw[bD] at h3;cases h3;exact V4.alive rfl
  ·rw[cp _ _ hi] at h3;exact hi (S.h.inj _ _ _ _ b' h3 c7 V4 ho)
 have pV: ∀b',bc P w (β bj) ct b'→b'≠b1:=by
  intro b' ho e;subst e;exact bK (S.h.inj _ _ _ _ b' ab c7 (.row hb ha) ho)
 have dm: ∀(j:Nat) y u t',[V.list e2 bI][j]? =some y→v.cells.toList[j]? =some u→(aN P e1)[c+j]? =some t'→j=0∧y= .list e2 bI∧u=v∧P.underlying t'=some (.slice e2):=by
  intro j y u t' k1 k2 k3;cases j with
  | succ j=>simp at k1
  | zero=>
   rw[tO] at k2;simp at k1 k2;exact ⟨rfl,k1.symm,k2.symm,V2 C6 k3⟩
 rcases hv with ⟨⟨a0,rfl⟩,rfl⟩|⟨b2,cap,rfl,v1,v2,v3,v4⟩
 ·obtain ⟨w',r1,r2,r3⟩:=IM S1 (vers':=raise path.length vers) (fun _ _ _ _=>False) qQ hb ha ht (v:= .slice a0 0 0) hn hx (cs:=[.list e2 []]) rfl oY (by rw[tO];simp[qR])
   (fun j y u t' k1 k2 k3=>by obtain ⟨rfl,rfl,rfl,k4⟩:=dm j y u t' k1 k2 k3;exact .emp k4)
   (fun j y u t' e3 gI b3 len cap k1 k2 k3 k4 k5 k6=>by obtain ⟨rfl,rfl,rfl,k7⟩:=dm j y u t' k1 k2 k3;intro k8;cases k8;exact absurd k6 (mj _))
   (fun _ _ _ _ h=>h.elim) (fun _ _ _ _ _ _ _ h=>h.elim) (IP _ _) (C4 _ _) (.inr fun k h1 h2=>by rw[C3 _ _ _ h1 h2];omega)
  exact ⟨w',I,β,r1,sa.trans r2,r3,rfl⟩
 ·obtain ⟨w',r1,r2,r3⟩:=IM S1 (vers':=raise path.length vers) (fun r b' e' m=>At P w b2 e2 bI r b' e' m) qQ hb ha ht (v:= .slice (some ⟨b2,0,none⟩) bI.length cap) hn hx (cs:=[.list e2 bI]) rfl oY (by rw[tO];simp[qR])
   (fun j y u t' k1 k2 k3=>by
    obtain ⟨rfl,rfl,rfl,k4⟩:=dm j y u t' k1 k2 k3;rcases BY cap with h0|h0
    ·subst h0;obtain rfl:=u5.1 (vb.1 v2);exact .emp k4
    ·exact .row k4 h0 v1 v2 v3)
   (fun j y u t' e3 gI b3 len cap k1 k2 k3 k4 k5 k6 k8=>by
    obtain ⟨rfl,rfl,rfl,k7⟩:=dm j y u t' k1 k2 k3;cases k5;cases k8;exact ⟨rfl,fun r b' e' m h=>⟨pV _ (v4.1 _ _ _ _ h).2,h⟩⟩)
   (fun r b' e' m h=>⟨(v4.1 _ _ _ _ h).1,free _ (v4.1 _ _ _ _ h).2⟩) (fun r1 r2 b' e1 m1 IQ m2 h1 h2=>v4.2 _ _ _ _ _ _ _ h1 h2) (IP _ _) (C4 _ _) (.inr fun k h1 h2=>by rw[C3 _ _ _ h1 h2];omega)
  exact ⟨w',I,β,r1,sa.trans r2,r3,rfl⟩
theorem V5 (S:aA P w I β hp B M w0) {t:TypeId} {v:Value} {x:V} {r:R} {rd:List Nat} {id b b1 i c:Nat} {e0 e1:TypeId} {es l:List V} {vers:List Nat} {path:Path}
  (ht:oP P t=true) (hn:x.cells.length=P.cellsOf t) (hv:ai P w I β hp v x) (ab:hp id=some (.nest e0 es vers)) (hb:β id=some b) (ha:At P w b e0 es path b1 e1 l)
  (h:(H7 P t id e0 es vers path i c x).run C hp=some (r,rd)):qO P ((Instr.storeAt t (.pointer (some ⟨b1,i*P.cellsOf e1+c,none⟩)) v).run P w) w I β hp B M w0 r:=by
 unfold H7 at h;obtain ⟨ba,h⟩:=aE h;rw[nP] at ba;obtain ⟨e',vv,q1,q2,h⟩:=zy h;obtain ⟨p1,p2⟩:=NY ha;rw[p1] at q1;cases q1;rw[p2] at q2;cases q2;simp only[V.toList] at h;obtain ⟨ar,h⟩:=aE h;obtain ⟨x0,tQ,h⟩:=m8 h;obtain ⟨oY,h⟩:=aE h;rw[fe] at oY;have slice: ∀e2,P.underlying t=some (.slice e2)→
   ((((Rd.aB ((((flat P e1).drop c).take x.cells.length).all fun u=>match P.underlying u with|some (.slice e3)=>Nat.beq e2 e3|_=>false) (
     match (generalizing:=false) x with
     | .nilS e3=> .aB (Nat.beq e2 e3) (.ret ⟨.undef,[(id,.nest e0 (setRow P (l.set i (di P e1 (gS (parts P e1 x0) c [.list e2 []]))) e0 es path) (raise path.length vers))]⟩)
     | .whole e3 bj=> .get bj fun
      | some (.arr e4 bI false)=> .aB (Nat.beq e2 e3&&(Nat.beq e3 e4&&(!(Nat.beq id bj)&&(flat P e2).all (dB P))))
        (.ret ⟨.undef,[(id,.nest e0 (setRow P (l.set i (di P e1 (gS (parts P e1 x0) c [.list e2 bI]))) e0 es path) (raise path.length vers)),(bj,.dead)]⟩)
      | some (.nest e4 bI _)=> .aB (Nat.beq e2 e3&&(Nat.beq e3 e4&& !(Nat.beq id bj)))
        (.ret ⟨.undef,[(id,.nest e0 (setRow P (l.set i (di P e1 (gS (parts P e1 x0) c [.list e2 bI]))) e0 es path) (raise path.length vers)),(bj,.dead)]⟩)
      | _=> .fail
     | _=> .fail)):Rd R).run C hp))=some (r,rd)→
   qO P ((Instr.storeAt t (.pointer (some ⟨b1,i*P.cellsOf e1+c,none⟩)) v).run P w) w I β hp B M w0 r:=by
  intro e2 hu h;obtain ⟨C6,h⟩:=aE h;cases x with
  | nilS e3=>
   obtain ⟨hc,h⟩:=aE h;obtain rfl:=aM h;rw[aO] at hc;subst hc;cases hv with
   | nilS=>
    obtain ⟨w',r1,r2,r3⟩:=IM S (v:= .slice none 0 0) (vers':=raise path.length vers) (fun _ _ _ _=>False) ab hb ha ht hn.symm tQ (cs:=[.list e2 []]) rfl oY (by simp[Value.cells,Value.oneCell'])
     (fun j y u t' k1 k2 k3=>by
      cases j with
      | succ j=>simp at k1
      | zero=>
       simp[Value.cells] at k1 k2;subst k1;subst k2;exact .emp (V2 C6 k3))
     (fun j y u t' e3 gI b3 len cap k1 k2 k3 k4 k5 k6=>by
      cases j with
      | succ j=>simp at k1
      | zero=>simp[Value.cells] at k2;subst k2;intro k8;cases k8)
     (fun _ _ _ _ h=>h.elim) (fun _ _ _ _ _ _ _ h=>h.elim) (IP _ _) (C4 _ _) (.inr fun k h1 h2=>by rw[C3 _ _ _ h1 h2];omega)
    exact ⟨w',I,β,r1,r2,r3,rfl⟩
  | whole e3 bj=>
   obtain ⟨l1,h⟩:=run_get h;cases c7:hp bj with
   | none=>rw[c7] at h;cases h
   | some ct=>
    rw[c7] at h;cases ct with
    | dead=>cases h
    | var _=>cases h
    | map _ _=>cases h
    | out _ _ _ _=>cases h
    | arr e4 bI fz=>
     cases fz with
     | true=>cases h
     | false=>
      obtain ⟨hc,h⟩:=aE h;obtain rfl:=aM h;simp only[aK,aO,mY] at hc;obtain ⟨rfl,rfl,bK,gA⟩:=hc;have Ov:id≠bj:=fun e=>by rw[e,ml] at bK;cases bK
      refine V3 S ab hb ha ht hn.symm tQ oY C6 c7 Ov ?_;cases hv with
      | dD bL=>rw[c7] at bL;cases bL
      | dy bL fD=>rw[c7] at bL;cases bL;exact .inl ⟨⟨_,rfl⟩,rfl⟩
      | whole bL fD bO hle qJ=>
       rw[c7] at bL;cases bL;exact .inr ⟨_,_,rfl,bO,hle,qJ,Ou S c7 fD gA⟩
      | dJ bL=>rw[c7] at bL;cases bL
      | ew bL=>rw[c7] at bL;cases bL
      | dp bL=>rw[c7] at bL;cases bL
    | nest e4 bI qG=>
     obtain ⟨hc,h⟩:=aE h;obtain rfl:=aM h;simp only[aK,aO,mY] at hc;obtain ⟨rfl,rfl,bK⟩:=hc;have Ov:id≠bj:=fun e=>by rw[e,ml] at bK;cases bK
     refine V3 S ab hb ha ht hn.symm tQ oY C6 c7 Ov ?_;cases hv with
     | dD bL=>rw[c7] at bL;cases bL
     | dy bL fD=>rw[c7] at bL;cases bL
     | whole bL=>rw[c7] at bL;cases bL
     | dJ bL fD=>rw[c7] at bL;cases bL;exact .inl ⟨⟨_,rfl⟩,rfl⟩
     | ew bL=>rw[c7] at bL;cases bL
     | dp bL fD bO hle qJ=>
      rw[c7] at bL;cases bL;exact .inr ⟨_,_,rfl,bO,hle,qJ,afS S c7 fD⟩
  | _=>cases h
 have fl:(((Rd.aB ((((flat P e1).drop c).take x.cells.length).all (dB P)&&tn P (((flat P e1).drop c).take x.cells.length) x.cells)
   (.ret ⟨.undef,[(id,.nest e0 (setRow P (l.set i (di P e1 (gS (parts P e1 x0) c x.cells))) e0 es path) vers)]⟩)):Rd R).run C hp)=some (r,rd)→
   qO P ((Instr.storeAt t (.pointer (some ⟨b1,i*P.cellsOf e1+c,none⟩)) v).run P w) w I β hp B M w0 r:=by
  intro h;obtain ⟨hc,h⟩:=aE h;obtain rfl:=aM h;simp only[aK] at hc;obtain ⟨hs,ef⟩:=hc;obtain ⟨tl,tg⟩:=xg ef;have Ow: ∀(j:Nat) t',j<x.cells.length→(aN P e1)[c+j]? =some t'→(((flat P e1).drop c).take x.cells.length)[j]? =some t':=by
   intro j t' hj fp;rw[gR hj,pD];rw[qI] at fp;exact fp
  have sat: ∀(j:Nat) t',j<x.cells.length→(aN P e1)[c+j]? =some t'→dB P t'=true:=fun j t' hj fp=>
   fL.1 hs _ (lp (Ow j t' hj fp))
  have pW:v.cells.size=x.cells.length∧∀(j:Nat) u y,v.cells.toList[j]? =some u→x.cells[j]? =some y→ai P w I β hp u y:=by
   have base:(∀xs,x≠ .agg xs)→x.cells=[x]→v.cells.size=x.cells.length∧∀(j:Nat) u y,v.cells.toList[j]? =some u→x.cells[j]? =some y→ai P w I β hp u y:=by
    intro _ rX;rw[rX] at tl tg Ow⊢;have h0:0<(((flat P e1).drop c).take [x].length).length:=by rw[tl];exact Nat.one_pos
    have ef:=tg 0 _ x (bR h0) rfl;obtain ⟨o1,o2⟩:=VZ hv ef;rw[o2];refine ⟨rfl,fun j u y hu hy=> ?_⟩;cases j with
    | zero=>simp at hu hy;subst hu;subst hy;exact hv
    | succ j=>simp at hy
   cases x with
   | agg xs=>
    obtain ⟨cs,rfl,h1,h2⟩:=hv.lF;exact ⟨h1,fun j u y a b=>h2 j u y (by simpa[Value.cells] using a) b⟩
   | _=>exact base (by simp) rfl
  have pure: ∀(j:Nat) u y t',v.cells.toList[j]? =some u→x.cells[j]? =some y→(aN P e1)[c+j]? =some t'→Pure P w I t' u y:=by
   intro j u y t' hu hy fp;have hj:=(cq.1 hy).1;exact afR (pW.2 j u y hu hy) (tg j t' y (Ow j t' hj fp) hy) (sat j t' hj fp)
  obtain ⟨w',r1,r2,r3⟩:=IM S (v:=v) (vers':=vers) (fun _ _ _ _=>False) ab hb ha ht (by rw[pW.1];exact hn.symm) tQ pW.1.symm oY (fun u hu=>by
    obtain ⟨j,hj⟩:=rJ hu;have dj:j<x.cells.length:=by rw[←pW.1];simpa using (cq.1 hj).1
    have qS:c+j<(aN P e1).length:=by rw[ey ar];omega
    have one: ∀t' y,Pure P w I t' u y→u.oneCell'=true:=by intro t' y h;cases h<;>rfl
    exact one _ _ (pure j u _ _ hj (bR dj) (bR qS)))
   (fun j y u t' k1 k2 k3=> .fl (sat j t' (cq.1 k1).1 k3) (pure j u y t' k2 k1 k3))
   (fun j y u t' e3 gI b3 len cap k1 k2 k3 k4 k5 k6=>by
    have:=sat j t' (cq.1 k1).1 k3;unfold dB at this;rw[k4] at this;cases this)
   (fun _ _ _ _ h=>h.elim) (fun _ _ _ _ _ _ _ h=>h.elim) rfl (fun _=>az _) (.inl fun j t' hj fp=>sat j t' hj fp)
  exact ⟨w',I,β,r1,r2,r3,rfl⟩
 cases hu:P.underlying t with
 | none=>rw[hu] at h;exact fl h
 | some d=>
  cases d with
  | slice e2=>rw[hu] at h;exact slice e2 hu h
  | _=>rw[hu] at h;exact fl h
end
section
variable {P:Program} {w w':World} {I I':Nat→Nat→Prop} {β β':Nat→Option Nat} {hp hp':Nat→Option ag} {C:af} {B:Nat} {M:Nat→Prop} {w0:Start}
theorem vJ {e e1:TypeId} (h:rowOf P e=some e1):P.underlying e=some (.slice e1)∧b8 P e=false∧cR P e=true∧cR P e1=true∧(flat P e1).all (dB P)=true:=by
 unfold rowOf at h;split at h
 ·rename_i e2 hu;cases hc:(!(b8 P e)&&(cR P e&&(cR P e2&&(flat P e2).all (dB P)))) with
  | false=>rw[hc] at h;cases h
  | true=>
   rw[hc] at h;cases h;simp only[aK,mY] at hc;exact ⟨hu,hc.1,hc.2.1,hc.2.2.1,hc.2.2.2⟩
 ·cases h
theorem afT {e1:TypeId} (fP:(flat P e1).all (dB P)=true) {w:World} {b1 b':Nat} {e':TypeId} {l m:List V} {r:Path} (h:At P w b1 e1 l r b' e' m):r=[]∧b'=b1∧e'=e1∧m=l:=by
 cases h with
 | here=>exact ⟨rfl,rfl,rfl,rfl⟩
 | step h1 h2 h3 h4 h5 h6 h7 h8=>
  rw[qI] at h3;have:=fL.1 fP _ (lp h3);unfold dB at this;rw[h4] at this;cases this
def xi (P:Program) (w:World) (e1:TypeId) (K:Nat→List V→Prop) (v:Value) (l:List V):Prop:=
 (l=[]∧∃a,v= .slice a 0 0)∨
 (∃b1 cap,0<cap∧v= .slice (some ⟨b1,0,none⟩) l.length cap∧cap*P.cellsOf e1=bsize w b1∧l.length≤cap∧cap≤maxLen∧K b1 l)
theorem V6 {b:Nat} {e e1:TypeId} {ys:List V} {vers:List Nat} {C':Array Value} (hr:rowOf P e=some e1)
  {T:TypeId} (tP:w'.heap[b]? =some (.cells C' T (0,0))) (hlen:ys.length≤C'.size) (c6: ∀j,¬I b j) (K:Nat→Nat→List V→Prop)
  (fC: ∀(i:Nat) x,ys[i]? =some x→∃l v,x= .list e1 l∧C'[i]? =some v∧xi P w e1 (K i) v l)
  (hK: ∀i b1 l,K i b1 l→b1≠b∧w'.heap[b1]? =w.heap[b1]? ∧gh P w I b1 e1 l)
  (rY: ∀i j b1 l m,K i b1 l→K j b1 m→i=j):
  (∀b',bc P w' (some b) (.nest e ys vers) b'→b'=b∨∃i l,K i b' l)∧
  ∀{cy ez},(∀b j,I b j→w'.cell? ⟨b,j,none⟩=w.cell? ⟨b,j,none⟩)→ee P w' I cy ez (some b) (.nest e ys vers):=by
 obtain ⟨hu,cB,ar,ng,fP⟩:=vJ hr;have hLs:qE P T e C'.size:=fun dM=>by unfold isByte at dM;rw[hu] at dM;cases dM
 have jt:aN P e=[e]:=by simp[aN,cB]
 have hk:P.cellsOf e=1:=by rw[←ey ar,jt];rfl
 have xj: ∀x j,bW P e x j=x:=fun x j=>by simp[bW,cB]
 have C7: ∀q b2 e2 m,At P w' b e ys q b2 e2 m→(q=[]∧b2=b∧e2=e∧m=ys)∨∃i,q=[(i,0)]∧e2=e1∧K i b2 m:=by
  intro q b2 e2 m h;cases h with
  | here=>exact .inl ⟨rfl,rfl,rfl,rfl⟩
  | step h1 h2 h3 h4 h5 h6 h7 h8=>
   right;rw[tP] at h1;cases h1;rw[jt] at h3;obtain ⟨hc,ht⟩:=cq.1 h3;simp only[List.length_singleton,Nat.lt_one_iff] at hc;subst hc;simp only[List.getElem_singleton] at ht;subst ht;rw[hu] at h4;cases h4;rw[xj] at h5;subst h5;rw[hk,fW,Nat.add_zero] at h7;obtain ⟨l,v,hl,hv,hh⟩:=fC _ _ h2;cases hl;rw[hv] at h7;cases h7;rcases hh with ⟨rfl,a',he⟩|⟨b1',Oj,_,he,_,_,_,tR⟩
   ·cases he;exact absurd h6 (mj _)
   ·cases he;obtain ⟨rfl,rfl,rfl,rfl⟩:=afT fP h8;exact ⟨_,rfl,rfl,tR⟩
 have iW: ∀i b1 l,K i b1 l→w'.heap[b1]? =w.heap[b1]? :=fun i b1 l h=>(hK i b1 l h).2.1;refine ⟨fun b' ho=> ?_,fun vH=> ?_⟩
 ·cases ho with
  | root _ h=>exact .inl (dA h).symm
  | row h ha=>
   cases h;rcases C7 _ _ _ _ ha with ⟨_,h,_,_⟩|⟨i,_,_,tR⟩
   ·exact .inl h
   ·exact .inr ⟨_,_,tR⟩
 ·refine .nest rfl (fun q b2 e2 m h=> ?_) (fun q1 q2 b2 e2 m2 e3 m3 h1 h2=> ?_)
  ·rcases C7 _ _ _ _ h with ⟨rfl,rfl,rfl,rfl⟩|⟨i,rfl,rfl,tR⟩
   ·refine ⟨ar,⟨C',_,tP,hLs,by rw[hk,fW];exact hlen,fun i j x t' hx ht hj=> ?_⟩,c6⟩;rw[hk] at hj;have Ox:j=0:=by omega
    subst Ox;rw[jt] at ht;simp only[List.getElem?_cons_zero,et] at ht;subst ht;obtain ⟨l,v,rfl,hv,hh⟩:=fC _ _ hx;refine ⟨v,by rw[hk,fW,Nat.add_zero];exact hv,?_⟩;rw[xj];rcases hh with ⟨rfl,a,rfl⟩|⟨b1,cap,h0,rfl,hs,hl,hm,tR⟩
    ·exact .emp hu
    ·exact .row hu h0 (by rw[hs,CH (iW _ _ _ tR)]) hl hm
   ·obtain ⟨_,_,⟨ok,⟨Ca,T2,c1,c0,c2,c3⟩,nI⟩⟩:=hK _ _ _ tR;refine ⟨ok,⟨Ca,T2,(iW _ _ _ tR).trans c1,c0,c2,fun i' j x t' hx ht hj=> ?_⟩,nI⟩;obtain ⟨v,m1,m2⟩:=c3 i' j x t' hx ht hj;have gA:dB P t'=true:=by
     rw[qI] at ht;exact fL.1 fP _ (lp ht)
    refine ⟨v,m1,?_⟩;generalize bW P e2 x j=y at m2;cases m2 with
    | fl a p=>exact .fl a (p.mono (fun _ _ h=>h) vH)
    | emp a=>unfold dB at gA;rw[a] at gA;cases gA
    | row a _ _ _ _=>unfold dB at gA;rw[a] at gA;cases gA
  ·rcases C7 _ _ _ _ h1 with ⟨rfl,rfl,_,_⟩|⟨i,rfl,_,k1⟩
   ·rcases C7 _ _ _ _ h2 with ⟨rfl,_,_,_⟩|⟨j,rfl,_,k2⟩
    ·rfl
    ·exact absurd rfl (hK _ _ _ k2).1
   ·rcases C7 _ _ _ _ h2 with ⟨rfl,rfl,_,_⟩|⟨j,rfl,_,k2⟩
    ·exact absurd rfl (hK _ _ _ k1).1
    ·rw[rY _ _ _ _ _ k1 k2]
theorem Oy (S:aA P w I β hp B M w0) {id b:Nat} {e e1:TypeId} {es:List V} {vers:List Nat} (hr:rowOf P e=some e1) (ab:hp id=some (.nest e es vers)) (hb:β id=some b):
  ∃Ca T,w.heap[b]? =some (.cells Ca T (0,0))∧es.length≤Ca.size∧(∀j,¬I b j)∧
   (∀(i:Nat) x,es[i]? =some x→∃l v,x= .list e1 l∧Ca[i]? =some v∧xi P w e1 (fun b1 l=>At P w b e es [(i,0)] b1 e1 l) v l)∧
   (∀i b1 l,At P w b e es [(i,0)] b1 e1 l→b1≠b∧b1<w.heap.size∧gh P w I b1 e1 l∧(M b1∨B≤b1)∧bc P w (β id) (.nest e es vers) b1)∧
   ∀i j b1 l m,At P w b e es [(i,0)] b1 e1 l→At P w b e es [(j,0)] b1 e1 m→i=j:=by
 obtain ⟨hu,cB,ar,ng,fP⟩:=vJ hr;have jt:aN P e=[e]:=by simp[aN,cB]
 have hk:P.cellsOf e=1:=by rw[←ey ar,jt];rfl
 have xj: ∀x j,bW P e x j=x:=fun x j=>by simp[bW,cB]
 have cH:=S.h.rel id _ ab;rw[hb] at cH;cases cH with
 | gz h=>cases h
 | nest ay cX j8=>
  cases ay;obtain ⟨_,⟨Ca,T,c1,_,c2,c3⟩,nI⟩:=cX _ _ _ _ .here;rw[hk,fW] at c2;refine ⟨Ca,T,c1,c2,nI,fun i x hx=> ?_,fun i b1 l ha=> ?_,fun i j b1 l m h1 h2=> ?_⟩
  ·obtain ⟨v,hv,ho⟩:=c3 i 0 x e hx (by rw[jt];rfl) (by rw[hk];exact Nat.one_pos);rw[hk,fW,Nat.add_zero] at hv;rw[xj] at ho;cases ho with
   | fl a _=>unfold dB at a;rw[hu] at a;cases a
   | emp a=>rw[hu] at a;cases a;exact ⟨[],_,rfl,hv,.inl ⟨rfl,_,rfl⟩⟩
   | @row _ l b1 cap a h0 hs hl hm=>
    rw[hu] at a;cases a;refine ⟨l,_,rfl,hv,.inr ⟨b1,cap,h0,rfl,hs,hl,hm,?_⟩⟩;exact .step c1 hx (by rw[jt];rfl) hu (xj _ _) h0 (by rw[hk,fW,Nat.add_zero];exact hv) .here
  ·have ho:bc P w (β id) (.nest e es vers) b1:= .row hb ha;refine ⟨fun h=> ?_,S.h.lt ab ho,cX _ _ _ _ ha,S.h.own id _ b1 ab ho,ho⟩;subst h;exact absurd (j8 _ _ _ _ _ _ _ ha .here) (by simp)
  ·have:=j8 _ _ _ _ _ _ _ h1 h2;simpa using this
theorem V7 (l:List Nat) (k:Nat) (h:k<l.length):bw l k<bw (l.map (· +1)) k:=by
 induction l generalizing k with
 | nil=>simp at h
 | cons a l ih=>
  cases k with
  | zero=>simp[bw]
  | succ k=>simpa[bw] using ih k (by simpa using h)
theorem afU {l:List Nat} {k:Nat} (h:l.length≤k):bw l k=0:=by
 induction l generalizing k with
 | nil=>rfl
 | cons a l ih=>
  cases k with
  | zero=>simp at h
  | succ k=>simpa[bw] using ih (by simpa using h)
theorem afV (S:aA P w I β hp B M w0) {id nb b i:Nat} {e e1:TypeId} {es:List V} {y:V} {vers:List Nat} (hr:rowOf P e=some e1) (ab:hp id=some (.nest e es vers)) (hb:β id=some b) (hy:es[i]? =some y) (hn:hp nb=none):
  ∃sb,Le P w I β hp w I sb (ao (ao hp id (some (.out e es (vers.map (· +1)) i))) nb (some (.arr e1 y.toList false)))∧
   aA P w I sb (ao (ao hp id (some (.out e es (vers.map (· +1)) i))) nb (some (.arr e1 y.toList false))) B M w0∧
   ∀Ca v T f,w.heap[b]? =some (.cells Ca T f)→Ca[i]? =some v→ai P w I sb (ao (ao hp id (some (.out e es (vers.map (· +1)) i))) nb (some (.arr e1 y.toList false))) v (.whole e1 nb):=by
 obtain ⟨hu,cB,ar,ng,fP⟩:=vJ hr;obtain ⟨Ca,T0,c1,c2,nI,rc,rk,ru⟩:=Oy S hr ab hb;have pX:aN P e1=flat P e1:=qI e1;have jt:aN P e=[e]:=by simp[aN,cB]
 have xj: ∀x j,bW P e x j=x:=fun x j=>by simp[bW,cB]
 have hk:P.cellsOf e=1:=by rw[←ey ar,jt];rfl
 have ju:=(cq.1 hy).1;have IT: ∀(j:Nat) l b1 cap,es[j]? =some (.list e1 l)→0<cap→Ca[j]? =some (.slice (some ⟨b1,0,none⟩) l.length cap)→At P w b e es [(j,0)] b1 e1 l:=
  fun j l b1 cap hx h0 hv=> .step c1 hx (by rw[jt];rfl) hu (xj _ _) h0 (by rw[hk,fW,Nat.add_zero];exact hv) .here
 have bK:nb≠id:=fun h=>by rw[h,ab] at hn;cases hn
 have qL: ∀b',bc P w (some b) (.out e es (vers.map (· +1)) i) b'→bc P w (some b) (.nest e es vers) b'∧∀l,¬At P w b e es [(i,0)] b' e1 l:=by
  intro b' ho;cases ho with
  | root _ h=>cases h;exact ⟨.root (by simp) rfl,fun l ha=>(rk _ _ _ ha).1 rfl⟩
  | @oT _ e2 _ l _ _ j b2 _ cap C' T f h1 h2 hj hx h0 hv=>
   cases h1;rw[c1] at h2;cases h2;obtain ⟨l',v',m1,m2,m3⟩:=rc _ _ hx;cases m1;have ha:=IT _ _ _ _ hx h0 hv;exact ⟨.row rfl ha,fun l2 zI=>hj (ru _ _ _ _ _ ha zI)⟩
 have V8:es≠[]:=fun h=>by rw[h] at ju;simp at ju
 obtain ⟨l1,S1⟩:=N4 (w':=w) S (blk':= .out e es (vers.map (· +1)) i) ab (by simp)
  ⟨⟨rfl,rfl,by simp,fun k=>by
    by_cases hk:k<vers.length
    ·exact Nat.le_of_lt (V7 _ _ hk)
    ·rw[afU (by omega)];exact kK _⟩,fun k hk=>V7 _ _ hk,V8⟩ hb nI (.inr (by simp)) (fun _ _=>rfl) rfl (az _) ⟨rfl,rfl⟩
  (fun b' h=> .inl (qL b' h).1) (fun _=>by
   refine .out rfl hu (by rw[pX];exact fP) c1 c2 ju nI (fun j x hj hx=> ?_) (fun j b1 cap l hj hx h0 hv=> ?_) (fun j k b1 c1 c2 l m hj hk hx hz h1 h2 hv lD=> ?_)
   ·obtain ⟨l,v,m1,m2,m3⟩:=rc j x hx;refine ⟨l,v,m1,m2,?_⟩;subst m1;rcases m3 with ⟨rfl,a,rfl⟩|⟨b1,cap,h0,rfl,q1,q2,q3,_⟩
    ·exact .emp hu
    ·exact .row hu h0 q1 q2 q3
   ·have:=rk _ _ _ (IT _ _ _ _ hx h0 hv);exact ⟨this.1,this.2.2.1⟩
   ·exact ru _ _ _ _ _ (IT _ _ _ _ hx h1 hv) (IT _ _ _ _ hz h2 lD))
 have fX:ao hp id (some (.out e es (vers.map (· +1)) i)) nb=none:=by rw[cp _ _ bK];exact hn
 obtain ⟨l,v,vK,hv,fC⟩:=rc i y hy;subst vK;rcases fC with ⟨rfl,a,rfl⟩|⟨b1,cap,h0,rfl,q1,q2,q3,ha⟩
 ·obtain ⟨a1,a2⟩:=CL S1 (fz:=false) e1 fX;refine ⟨_,l1.trans a1,a2,fun w8 v' T f h1 h2=> ?_⟩;rw[c1] at h1;cases h1;rw[hv] at h2;cases h2;exact .dy (bD _ _ _) (bD _ _ _)
 ·obtain ⟨d1,d2,⟨ok,⟨C1,_,e2,e0,e3,e4⟩,V9⟩,d4,d5⟩:=rk _ _ _ ha;obtain ⟨a1,a2⟩:=zC S1 (w':=w) (blk:= .arr e1 l false) (b:=b1) fX
   (fun av blk' h ho=>by
    by_cases hi:av=id
    ·subst hi;rw[bD] at h;cases h;rw[hb] at ho;exact (qL _ ho).2 _ ha
    ·rw[cp _ _ hi] at h;exact hi (S.h.inj _ _ _ _ _ h ab ho d5))
   (fun j h=>absurd h (V9 j)) (fun _ _ _=>rfl) (az _) ⟨rfl,rfl⟩ d4 (fun b' h=>(dA (h.flat (by simp))).symm)
   (fun hle=> .arr e0 ng rfl e2 e3 (fun h=>by cases h) (fun _=>V9) fun i' j x t' k1 k2 k3=>by
    obtain ⟨u,m1,m2⟩:=e4 i' j x t' k1 k2 k3;have gA:dB P t'=true:=by
     rw[pX] at k2;exact fL.1 fP _ (lp k2)
    refine ⟨u,m1,?_⟩;generalize bW P e1 x j=z at m2⊢;cases m2 with
    | fl _ p=>exact p
    | emp a=>unfold dB at gA;rw[a] at gA;cases gA
    | row a _ _ _ _=>unfold dB at gA;rw[a] at gA;cases gA)
  refine ⟨_,l1.trans a1,a2,fun w8 v' T f h1 h2=> ?_⟩;rw[c1] at h1;cases h1;rw[hv] at h2;cases h2;exact .whole (es:=l) (bD _ _ _) (bD _ _ _) q1 q2 q3
theorem afW (S:aA P w I β hp B M w0) {t e e1:TypeId} {v:Value} {id bj b i:Nat} {es bI:List V} {vers:List Nat} (hr:rowOf P e=some e1) (ab:hp id=some (.out e es vers i)) (hb:β id=some b)
  (ht:oP P t=true) (hn:P.cellsOf t=1) (c7:hp bj=some (.arr e1 bI false)) (bK:id≠bj) (hv:ai P w I β hp v (.whole e1 bj)):
  qO P ((Instr.storeAt t (.pointer (some ⟨b,i*P.cellsOf e+0,none⟩)) v).run P w) w I β hp B M w0 ⟨.undef,[(id,.nest e (es.set i (.list e1 bI)) vers),(bj,.dead)]⟩:=by
 obtain ⟨hu,cB,ar,ng,fP⟩:=vJ hr;have jt:aN P e=[e]:=by simp[aN,cB]
 have hk:P.cellsOf e=1:=by rw[←ey ar,jt];rfl
 obtain ⟨sa,S1⟩:=vD S c7;have qQ:ao hp bj (some .dead) id=some (.out e es vers i):=by rw[cp _ _ bK];exact ab
 have cH:=S.h.rel id _ ab;rw[hb] at cH;cases cH with
 | out ay jV atC hh hs hi hI hc cX j8=>
 cases ay;rw[hu] at jV;cases jV;rename_i Ca;have fC: ∃K:Nat→List V→Prop,xi P w e1 K v bI∧(∀b1 l,K b1 l→b1≠b∧gh P w I b1 e1 l∧(M b1∨B≤b1)∧(∀av blk',ao hp bj (some .dead) av=some blk'→¬bc P w (β av) blk' b1))∧v.cells= #[v]∧v.oneCell'=true:=by
  cases hv with
  | dD hd=>rw[c7] at hd;cases hd
  | dp hd=>rw[c7] at hd;cases hd
  | dJ hd=>rw[c7] at hd;cases hd
  | ew hd=>rw[c7] at hd;cases hd
  | @dy _ _ _ a0 hd hb=>rw[c7] at hd;cases hd;exact ⟨fun _ _=>False,.inl ⟨rfl,a0,rfl⟩,fun _ _ h=>h.elim,rfl,rfl⟩
  | @whole _ _ _ _ b2 cap hd fD aU bO hm=>
   rw[c7] at hd;cases hd;obtain ⟨m1,m2⟩:=Ou S c7 fD fP;obtain ⟨m3,m4⟩:=m1 _ _ _ _ .here;rcases BY cap with h0|h0
   ·subst h0;obtain rfl:=u5.1 (vb.1 bO);exact ⟨fun _ _=>False,.inl ⟨rfl,_,rfl⟩,fun _ _ h=>h.elim,rfl,rfl⟩
   ·refine ⟨fun b1 l=>b1=b2∧l=bI,.inr ⟨b2,cap,h0,rfl,aU,bO,hm,rfl,rfl⟩,fun b1 l h=> ?_,rfl,rfl⟩;obtain ⟨rfl,rfl⟩:=h;refine ⟨fun h=> ?_,m3,S.h.own bj _ _ c7 m4,fun av blk' h' ho=> ?_⟩
    ·subst h;exact bK (S.h.inj _ _ _ _ _ ab c7 (.root (by simp) hb) m4)
    ·by_cases q:av=bj
     ·subst q;rw[bD] at h';cases h';exact absurd rfl ho.alive
     ·rw[cp _ _ q] at h';exact q (S.h.inj av bj _ _ _ h' c7 ho m4)
 obtain ⟨K,k1,k2,k3,k4⟩:=fC;have ju:i<Ca.size:=by omega
 have cF:=II (t:=t) (o:=i*P.cellsOf e+0) (v:=v) ht (by rw[hn,k3];rfl) hh (by rw[k3,hk];simp;omega) (by rw[k3];simp[k4]);rw[k3,hk,fW,Nat.add_zero] at cF;have hC:(Ca.toList.take i++(#[v].toList++Ca.toList.drop (i+ #[v].toList.length))).toArray.size=Ca.size:=by simp;omega
 have oV: ∀j,(Ca.toList.take i++(#[v].toList++Ca.toList.drop (i+ #[v].toList.length))).toArray[j]? =if j=i then some v else Ca[j]? :=by
  intro j;rw[nQ,pU _ _ _ _ (by simp;omega)];simp only[List.length_singleton,pE];by_cases h1:j<i
  ·rw[ak h1,aj (by omega)]
  ·rw[aj h1];by_cases h2:j=i
   ·subst h2;simp
   ·rw[aj (by omega),aj h2]
 rw[hk,fW,Nat.add_zero];generalize hCb:(Ca.toList.take i++(#[v].toList++Ca.toList.drop (i+ #[v].toList.length))).toArray=Cb at cF hC oV;have dm:=setRow_heap w b Ca Cb _ (0,0) hh;have rZ:=fun k (hk:k≠b)=>setRow_other w b k Cb hk;obtain ⟨p1,p2⟩:=V6 (w:=w) (w':=w.setRow b Cb) (I:=I) (vers:=vers) (ys:=es.set i (.list e1 bI)) hr dm (by simp;omega) hI
  (fun j b1 l=>(j=i∧K b1 l)∨(j≠i∧∃cap,es[j]? =some (.list e1 l)∧0<cap∧Ca[j]? =some (.slice (some ⟨b1,0,none⟩) l.length cap)))
  (fun j x hx=>by
   rw[BZ] at hx;rw[oV];by_cases hj:i=j
   ·subst hj;simp only[lr,ak hi,et] at hx;subst hx;refine ⟨bI,v,rfl,ak rfl,?_⟩;rcases k1 with h|⟨b1,cap,h0,h1,h2,h3,h4,h5⟩
    ·exact .inl h
    ·exact .inr ⟨b1,cap,h0,h1,h2,h3,h4,.inl ⟨rfl,h5⟩⟩
   ·rw[aj hj] at hx;rw[aj (fun h=>hj h.symm)];obtain ⟨l,u,m1,m2,m3⟩:=hc j x (fun h=>hj h.symm) hx;subst m1;refine ⟨l,u,rfl,m2,?_⟩;cases m3 with
    | fl a _=>unfold dB at a;rw[hu] at a;cases a
    | emp a=>exact .inl ⟨rfl,_,rfl⟩
    | @row _ _ b1 cap a h0 c d f=>exact .inr ⟨b1,cap,h0,rfl,by rw[hu] at a;cases a;exact c,d,f,.inr ⟨fun h=>hj h.symm,cap,hx,h0,m2⟩⟩)
  (fun j b1 l h=>by
   rcases h with ⟨_,h⟩|⟨hj,cap,hx,h0,hv⟩
   ·exact ⟨(k2 _ _ h).1,rZ _ (k2 _ _ h).1,(k2 _ _ h).2.1⟩
   ·obtain ⟨q1,q2⟩:=cX _ _ _ _ hj hx h0 hv;exact ⟨q1,rZ _ q1,q2⟩)
  (fun j j' b1 l m h1 h2=>by
   have no: ∀{j l m},K b1 l→(j≠i∧∃cap,es[j]? =some (.list e1 m)∧0<cap∧Ca[j]? =some (.slice (some ⟨b1,0,none⟩) m.length cap))→False:=fun h ⟨hj,cap,hx,h0,hv⟩=>
    (k2 _ _ h).2.2.2 _ _ qQ (by rw[hb];exact .oT rfl hh hj hx h0 hv)
   rcases h1 with ⟨h,h1⟩|h1
   ·rcases h2 with ⟨h',h2⟩|h2
    ·omega
    ·exact (no h1 h2).elim
   ·rcases h2 with ⟨_,h2⟩|h2
    ·exact (no h2 h1).elim
    ·obtain ⟨hj,cap,hx,h0,hv⟩:=h1;obtain ⟨dN,Oj,cS,Oz,C8⟩:=h2;exact j8 _ _ _ _ _ _ _ hj dN hx cS h0 Oz hv C8)
 obtain ⟨a1,a2⟩:=N4 S1 (w':=w.setRow b Cb) (blk':= .nest e (es.set i (.list e1 bI)) vers) qQ (by simp) ⟨rfl,by simp,rfl,fun _=>az _⟩ hb hI (.inl (by simp)) rZ (by rw[jS dm,jS hh,hC]) (by simp) ⟨rfl,rfl⟩
  (fun b' ho=>by
   rcases p1 b' ho with rfl|⟨j,l,⟨_,h⟩|⟨hj,cap,hx,h0,hv⟩⟩
   ·exact .inl (.root (by simp) rfl)
   ·exact .inr ⟨(k2 _ _ h).2.2.1,(k2 _ _ h).2.2.2⟩
   ·exact .inl (.oT rfl hh hj hx h0 hv))
  (fun hle=>p2 hle.cE)
 exact ⟨_,I,β,cF,sa.trans a1,a2,rfl⟩
end
section
variable {P:Program} {w w':World} {I I':Nat→Nat→Prop} {β β':Nat→Option Nat} {hp hp':Nat→Option ag} {C:af} {B:Nat} {M:Nat→Prop} {w0:Start}
theorem afX (S:aA P w I β hp B M w0) {t:TypeId} {a v:Value} {xa x:V} {r:R} {rd:List Nat} (ha:ai P w I β hp a xa) (hv:ai P w I β hp v x)
  (h:(Nu P t xa x).run C hp=some (r,rd)):qO P ((Instr.storeAt t a v).run P w) w I β hp B M w0 r:=by
 unfold Nu at h;obtain ⟨h0,h⟩:=aE h;simp only[aK,aO] at h0;obtain ⟨ht,hn⟩:=h0;cases xa with
 | ptr id i c=>
  obtain ⟨l,h⟩:=run_get h;cases ab:hp id with
  | none=>rw[ab] at h;cases h
  | some blk=>
   rw[ab] at h;cases blk with
   | dead=>cases h
   | var T0 cs=>
    obtain ⟨Wa,h⟩:=aE h;have qP:rM P T0=true→0<c:=fun eg=>by
     rw[eg] at Wa;simpa using Wa
    obtain ⟨b,hb,rfl⟩:=ha.gK ab (by simp);simp only[ag.sz,Nat.mul_zero,eQ];cases tL:(zk P t cs&&eR P t x) with
    | true=>
     dsimp only at h;rw[tL] at h;simp only[cond_true] at h;obtain ⟨hc,h⟩:=aE h;obtain rfl:=aM h;simp only[aK,nP] at hc tL;obtain ⟨o1,o2⟩:=VZ hv tL.2;have rX:=afH tL.2;refine VY S ab hb ht hn (by rw[o2,rX];rfl) qP (fun j u y hu hy=> ?_) (by rw[o2];simp[o1]) (by rw[rX];simp;omega) (VX _ _ _ _) (fun j y hy hj u hu=> ?_) (fun j y hy hj u hu=> ?_)
     ·rw[o2] at hu;rw[rX] at hy;cases j with
      | zero=>simp at hu hy;subst hu;subst hy;exact hv
      | succ j=>simp at hy
     ·rw[Od] at hy;cases zJ:cs[j]? with
      | none=>rw[zJ] at hy;cases hy
      | some y0=>
       rw[zJ] at hy;simp only[Option.map_some,et] at hy;rw[rX] at hj;simp only[List.length_singleton] at hj;have bK:Nat.beq c (0+j)=false:=by
        cases hq:Nat.beq c (0+j) with
        | false=>rfl
        | true=>rw[aO] at hq;omega
       rw[bK] at hy;have:=VL (c:=false) hv (hu y0 zJ);rw[←hy];simpa using this
     ·rw[rX] at hj hu;have Ox:j=0:=by simpa using hj
      subst Ox;rw[Od] at hy;cases zJ:cs[c+0]? with
      | none=>rw[zJ] at hy;cases hy
      | some y0=>
       rw[zJ] at hy;simp only[Option.map_some,et] at hy;have heq:Nat.beq c (0+(c+0))=true:=by rw[aO];omega
       rw[heq] at hy;have h2:ai P w I β hp u x:=hu x rfl;have:vk true x y0=x:=afI x y0;rw[←hy,this];exact h2
    | false=>
     dsimp only at h;rw[tL] at h;simp only[cond_false] at h;obtain ⟨hc,h⟩:=aE h;simp only[aK,fe] at hc;obtain ⟨e1,e2⟩:=Oc hv h;obtain ⟨h1,l2,h⟩:=IH h (vs:=v.cells.toList) (by simpa using e1) (fun j u y a b=>e2 j u y (by simpa using a) b);obtain rfl:=aM h;refine VY S ab hb ht hn e1 qP e2 h1 hc.2 (CU _ _ _ hc.2) (fun j y hy hj u hu=> ?_) (fun j y hy hj u hu=> ?_)
     ·unfold gS at hy;rw[pU _ _ _ _ hc.2] at hy;rcases hj with hj|hj
      ·rw[ak hj] at hy;exact hu y hy
      ·rw[bN,bN] at hy;exact hu y hy
     ·unfold gS at hy;rw[pU _ _ _ _ hc.2,bN,bt] at hy;rw[show c+j-c=j by omega] at hy;exact hu y hy
   | arr e es fz=>
    cases fz with
    | true=>cases h
    | false=>
    obtain ⟨b,hb,rfl⟩:=ha.gK ab (by simp);obtain ⟨ar,h⟩:=aE h;obtain ⟨⟨ys,fr⟩,l1,l2,bE,h⟩:=m9 h;obtain ⟨hc,h⟩:=aE h;obtain ⟨x0,tQ,h⟩:=m8 h;obtain rfl:=aM h;simp only[aK,mY,fe] at hc;obtain ⟨fm,hc3,fo⟩:=hc;have pW:v.cells.size=x.cells.length∧∀(j:Nat) u y,v.cells.toList[j]? =some u→x.cells[j]? =some y→ai P w I β hp u y:=by
     cases x with
     | agg xs=>
      obtain ⟨cs,rfl,h1,h2⟩:=hv.lF;exact ⟨h1,fun j u y a b=>h2 j u y (by simpa[Value.cells] using a) b⟩
     | _=>
      simp only[V.cells] at bE fo⊢;simp only[vj] at bE;obtain ⟨⟨y1,u1⟩,l3,l4,hq,bE⟩:=m9 bE;obtain ⟨q1,q2⟩:=IB S.h.rel hq hv;obtain ⟨⟨y2,u2⟩,l5,l6,qT,bE⟩:=m9 bE;cases qT;have:=aM bE;cases this;obtain ⟨tl,tg⟩:=xg fo;have ef:=tg 0 _ y1 (bR (by rw[tl];exact Nat.one_pos)) rfl;have dW:=q2 (j9 P w I β hp u1) (fun _ _ h=> .inl h) (fun p hp b j h=> .inr ⟨p,hp,h⟩);have ho:=dW.pure ef;have Wb:v.cells= #[v]:=by cases ho<;>rfl
      rw[Wb];refine ⟨rfl,fun j u y hu hy=> ?_⟩;cases j with
      | zero=>simp at hu hy;subst hu;subst hy;exact hv
      | succ j=>simp at hy
    obtain ⟨k1,k2,k3⟩:=NZ S.h.rel bE (vs:=v.cells.toList) (by simpa using pW.1) pW.2;obtain ⟨sa,S1⟩:=CK S k2;have qQ:b9 hp fr id=some (.arr e es false):=by
     rcases w5 (hp:=hp) (l:=fr) (id:=id) with h|⟨b',hm,_⟩
     ·exact h.trans ab
     ·exfalso;have IU:gF (fr.map (·.1)) id=true:=zE (eu.2 ⟨_,hm,rfl⟩);rw[IU] at fm;cases fm
    have Wc:=k3 (j9 P w I β hp fr) (fun _ _ h=> .inl h) (fun p hp b j h=> .inr ⟨p,hp,h⟩);obtain ⟨tl,tg⟩:=xg fo;have fP:=(na ar).1;have vK:ys.length=v.cells.size:=by rw[k1,pW.1]
    have hcn:c+v.cells.size≤P.cellsOf e:=by rw[pW.1];exact hc3
    have hr:=S1.h.rel id _ qQ;cases hr with
    | dU ay=>simp at tQ
    | @arr _ _ _ _ b' Ca hL Oa ay hh hs hf eJ hx=>
     rw[hb] at ay;cases ay;have oe:i<es.length:=(cq.1 tQ).1;have hbound:i*P.cellsOf e+P.cellsOf e≤Ca.size:=by
      have:(i+1)*P.cellsOf e≤es.length*P.cellsOf e:=dZ _ oe;rw[jJ] at this;omega
     simp only[ag.sz];have vF:i*P.cellsOf e+c+v.cells.size≤Ca.size:=by omega
     have c6: ∀j,¬j9 P w I β hp fr b j:=eJ rfl;have h1: ∀u∈v.cells.toList,u.oneCell'=true:=by
      intro u hu;obtain ⟨j,hj⟩:=rJ hu;have dj:j<ys.length:=by rw[vK];simpa using (cq.1 hj).1
      have qS:j<(((flat P e).drop c).take x.cells.length).length:=by rw[tl];exact dj
      exact (Wc j u ys[j] hj (bR dj)).one (tg j _ ys[j] (bR qS) (bR dj))
     have cF:=II (t:=t) (o:=i*P.cellsOf e+c) (v:=v) ht (by rw[pW.1];exact hn.symm) hh vF h1;have hlen:(Ca.toList.take (i*P.cellsOf e+c)++(v.cells.toList++Ca.toList.drop (i*P.cellsOf e+c+v.cells.toList.length))).length=Ca.size:=by
      rw[CU _ _ _ (by simpa using vF)];simp
     have dW:(parts P e x0).length=P.cellsOf e:=by rw[zD];exact ey ar
     have CV:=IJ S1 (blk':= .arr e (es.set i (di P e (gS (parts P e x0) c ys))) false)
      (Cb:=(Ca.toList.take (i*P.cellsOf e+c)++(v.cells.toList++Ca.toList.drop (i*P.cellsOf e+c+v.cells.toList.length))).toArray) qQ (by simp) ⟨rfl,by simp⟩ hb c6 (by simp) hh (by simpa using hlen)
      (fun hle dm=> .arr (by rw[qv,hlen];exact hL) ar rfl dm (by simp only[qv,ti];omega) (fun h=>by cases h) (fun _=>c6) fun i' j z t' hz qS hj=>by
       simp only[nQ];rw[pU _ _ _ _ (by simpa using vF)];simp only[Array.length_toList];rw[BZ] at hz;by_cases lI:i=i'
       ·subst lI;rw[ak rfl,ak oe] at hz;cases hz;have IV:j<(parts P e x0).length:=by omega
        have xk:(gS (parts P e x0) c ys)[j]? =if j<c then (parts P e x0)[j]? else if j<c+ys.length then ys[j-c]? else (parts P e x0)[j]? :=by
         unfold gS;exact pU _ _ _ _ (by omega)
        by_cases tM:j<c
        ·rw[bt];rw[ak tM] at xk;obtain ⟨u,t2,a1,a2,a3⟩:=IF hx ar tQ (bR IV);rw[qS] at a1;cases a1;refine ⟨u,by simpa using a2,?_⟩;rw[tN (xk.trans (bR IV)) qS];exact a3.mono hle.dV hle.cE
        ·rw[aj tM] at xk;by_cases dg:j<c+ys.length
         ·rw[ak dg] at xk;rw[bN,bt];have sc:j-c<ys.length:=by omega
          have Wd:j-c<v.cells.toList.length:=by simp;omega
          have atD:j-c<v.cells.size:=by omega
          refine ⟨v.cells.toList[j-c],?_,?_⟩
          ·rw[show i*P.cellsOf e+j-(i*P.cellsOf e+c)=j-c by omega];exact bR Wd
          ·rw[tN (xk.trans (bR sc)) qS];have hft:(((flat P e).drop c).take x.cells.length)[j-c]? =some t':=by
            rw[gR (by omega),pD,show c+(j-c)=j by omega,←qI];exact qS
           exact ((Wc (j-c) _ ys[j-c] (bR Wd) (bR sc)).pure (tg (j-c) t' ys[j-c] hft (bR sc))).mono hle.dV hle.cE
         ·rw[aj dg] at xk;rw[bN,bN];obtain ⟨u,t2,a1,a2,a3⟩:=IF hx ar tQ (bR IV);rw[qS] at a1;cases a1;refine ⟨u,by simpa using a2,?_⟩;rw[tN (xk.trans (bR IV)) qS];exact a3.mono hle.dV hle.cE
       ·rw[aj lI] at hz;obtain ⟨u,a2,a3⟩:=hx i' j z t' hz qS hj;have bK:i'*P.cellsOf e+j<i*P.cellsOf e+c∨i*P.cellsOf e+c+v.cells.size≤i'*P.cellsOf e+j:=by
         rcases gr i' i with ba|pY
         ·left;have:(i'+1)*P.cellsOf e≤i*P.cellsOf e:=dZ _ ba;rw[jJ] at this;omega
         ·right;have:(i+1)*P.cellsOf e≤i'*P.cellsOf e:=dZ _ (by omega);rw[jJ] at this;omega
        refine ⟨u,?_,a3.mono hle.dV hle.cE⟩;rcases bK with bK|bK
        ·rw[ak bK];simpa using a2
        ·rw[bN,bN];simpa using a2)
     exact ⟨_,_,_,cF,sa.trans CV.1,CV.2,rfl⟩
   | map _ _=>cases h
   | out e es vers j=>
    obtain ⟨b,hb,rfl⟩:=ha.gK ab (by simp);unfold Vv at h;obtain ⟨hc,h5⟩:=aE h;clear h;simp only[aK,aO] at hc;obtain ⟨rfl,rfl⟩:=hc;cases hr:rowOf P e with
    | none=>simp only[hr] at h5;cases h5
    | some e1=>
     simp only[hr] at h5;cases x with
     | whole e3 bj=>
      obtain ⟨l1,h6⟩:=run_get h5;cases c7:hp bj with
      | none=>rw[c7] at h6;cases h6
      | some ct=>
       rw[c7] at h6;cases ct with
       | arr e4 bI fz=>
        cases fz with
        | true=>cases h6
        | false=>
         obtain ⟨hc,h7⟩:=aE h6;obtain rfl:=aM h7;simp only[aK,aO,mY] at hc;obtain ⟨rfl,rfl,bK⟩:=hc;exact afW S hr ab hb ht hn.symm c7 (fun e=>by rw[e,ml] at bK;cases bK) hv
       | _=>cases h6
     | _=>cases h5
   | nest e es vers=>
    obtain ⟨b,hb,rfl⟩:=ha.gK ab (by simp);exact V5 S ht hn hv ab hb .here h
 | dk id ver path i c=>
  obtain ⟨e0,es,vers,l,ab,h1,h2,h3,h⟩:=pQ h;obtain ⟨b,b1,e1,l1,hb,eU,rfl⟩:=ha.VF ab h1 h2 h3;exact V5 S ht hn hv ab hb eU h
 | _=>cases h
end
section
variable {P:Program} {w w':World} {I I':Nat→Nat→Prop} {β β':Nat→Option Nat} {hp hp':Nat→Option ag} {C:af} {B:Nat} {M:Nat→Prop} {w0:Start}
theorem IW: ∀{ts:List TypeId} {vs:List Value} {j:Nat} {y:V},(iP P ts vs)[j]? =some y→∃t v,ts[j]? =some t∧vs[j]? =some v∧y=pJ P t v
 | [],vs,j,y,h=>by simp[iP] at h
 | _::_,[],j,y,h=>by simp[iP] at h
 | t::ts,v::vs,0,y,h=>by simp[iP] at h;grind
 | t::ts,v::vs,j+1,y,h=>by
  simp only[iP,List.getElem?_cons_succ] at h;obtain ⟨t',v',a,b,c⟩:=IW h;grind
theorem We: ∀{ts:List TypeId} {vs:List Value},ts.length=vs.length→(iP P ts vs).length=vs.length
 | [],[],_=>rfl
 | [],_::_,h=>by simp at h
 | _::_,[],h=>by simp at h
 | t::ts,v::vs,h=>by simp[iP,We (ts:=ts) (vs:=vs) (by grind)]
theorem jv {e:TypeId} (h:cR P e=true): ∃i z,P.info? e=some i∧i.zero=some z∧i.size=P.cellsOf e∧z.cells.size=P.cellsOf e∧zeroCells P e=iP P (flat P e) z.cells.toList:=by
 unfold cR at h;simp only[aK,aO,nP] at h;obtain ⟨h1,h2,_,h3⟩:=h;cases hi:P.info? e with
 | none=>grind
 | some i=>
  rw[hi] at h3;simp only[Option.bind_some] at h3;cases hz:i.zero with
  | none=>grind
  | some z=>
   rw[hz] at h3;simp only[aO] at h3;exact ⟨i,z,rfl,hz,by simp[Program.cellsOf,hi],h3,by simp[zeroCells,hi,hz]⟩
theorem Wf {e:TypeId} (h:cR P e=true): ∃i z,P.info? e=some i∧i.zero=some z∧z.cells.size=(zeroCells P e).length∧z.cells.size=P.cellsOf e∧
  ∀(j:Nat) v x,z.cells[j]? =some v→(zeroCells P e)[j]? =some x→ai P w I β hp v x:=by
 obtain ⟨i,z,h1,h2,h3,h4,h5⟩:=jv h;have hl:(flat P e).length=z.cells.toList.length:=by rw[(na h).1];grind
 refine ⟨i,z,h1,h2,?_,h4,fun j v x hv hx=> ?_⟩
 ·rw[h5,We hl];simp
 ·rw[h5] at hx;obtain ⟨t,v',_,C8,rfl⟩:=IW hx;have:v'=v:=by
   grind
  subst this;exact ai.const t v'
theorem kX {nb:Nat} {b:ag} {v:V} {upd:List (Nat×ag)} {r:R} {rd:List Nat} (h:(gX nb b v upd).run C hp=some (r,rd)):hp nb=none∧r=⟨v,(nb,b)::upd⟩:=by
 obtain ⟨l,h⟩:=run_get h;cases hn:hp nb with
 | none=>rw[hn] at h;exact ⟨rfl,(aM h).symm⟩
 | some x=>rw[hn] at h;cases h
theorem Wg (S:aA P w I β hp B M w0) {nb:Nat} {xs:List V} {C0:Array Value} {T:TypeId} (hn:hp nb=none) (hs:C0.size=xs.length)
  (hx: ∀(j:Nat) v x,C0[j]? =some v→xs[j]? =some x→ai P w I β hp v x) (gJ:VA P w.heap.size T C0):
  Le P w I β hp (w.alloc (.cells C0 T)) I (ao β nb (some w.heap.size)) (ao hp nb (some (.var T xs)))∧aA P (w.alloc (.cells C0 T)) I (ao β nb (some w.heap.size)) (ao hp nb (some (.var T xs))) B M w0∧
  ai P (w.alloc (.cells C0 T)) I (ao β nb (some w.heap.size)) (ao hp nb (some (.var T xs))) (.pointer (some ⟨w.heap.size,0,none⟩)) (.ptr nb 0 0):=by
 obtain ⟨h1,h2⟩:=N5 S (blk:= .var T xs) (c:=C0) (T:=T) hn (fun b' h=>(dA (h.flat (by simp))).symm) (fun hle dm c6=> .var rfl dm hs c6 (fun j v x a b=>(hx j v x a b).mono hle) gJ);refine ⟨h1,h2,?_⟩;have:=ai.ptr (P:=P) (w:=w.alloc (.cells C0 T)) (I:=I) (β:=ao β nb (some w.heap.size)) (hp:=ao hp nb (some (.var T xs))) (i:=0) (c:=0) (blk:= .var T xs) (bD _ _ _) (by simp) (bD _ _ _);grind
theorem Wh (S:aA P w I β hp B M w0) {e:TypeId} {nb:Nat} {r:R} {rd:List Nat}
  (h:(Rd.aB (cR P e&&(!(rM P e)||Vu (zeroCells P e))) (gX nb (.var e (zeroCells P e)) (.ptr nb 0 0) [])).run C hp=some (r,rd)):dd P ((Instr.alloc e true (.tuple #[])).run P w) w I β hp B M w0 r:=by
 obtain ⟨ar,h⟩:=aE h;rw[aK] at ar;obtain ⟨ar,qP⟩:=ar;obtain ⟨hn,rfl⟩:=kX h;obtain ⟨i,z,h1,h2,h3,h4,h5⟩:=Wf (w:=w) (I:=I) (β:=β) (hp:=hp) ar;obtain ⟨a,b,c⟩:=Wg S (T:=e) hn h3 h5 fun eg=>by
  rw[eg,Bool.not_true,Bool.false_or] at qP;cases hz:zeroCells P e with
  | nil=>rw[hz] at qP;cases qP
  | cons y l=>
   rw[hz] at qP h3 h5;cases y<;>first|(cases qP;done)|skip
   have ba:0<z.cells.size:=by grind
   have:=h5 0 z.cells[0] .eb (kJ ba) rfl;left;rw[kJ ba];generalize z.cells[0]=u at this;cases this;rfl
 exact ⟨_,_,_,_,by simp[Instr.alloc,zeroValue,typeInfo,h1,h2,newVar,newRow],a,b,c⟩
theorem afY (S:aA P w I β hp B M w0) {e:TypeId} {nb:Nat} {x:V} {v:Value} {r:R} {rd:List Nat} (hv:ai P w I β hp v x)
  (h:(Rd.aB (!(rM P e)) <| nX x.cells (gX nb (.var e x.cells) (.ptr nb 0 0) [])).run C hp=some (r,rd)):dd P ((Instr.box e v).run P w) w I β hp B M w0 r:=by
 obtain ⟨qP,h⟩:=aE h;obtain ⟨e1,e2⟩:=Oc hv h;obtain ⟨_,l,h⟩:=IH h (vs:=v.cells.toList) (by omega) (fun j u y a b=>e2 j u y (by grind) b);obtain ⟨hn,rfl⟩:=kX h;obtain ⟨a,b,c⟩:=Wg S (T:=e) hn e1 e2 fun eg=>by grind
 exact ⟨_,_,_,_,by simp[Instr.box,newVar,newRow],a,b,c⟩
theorem foldl_set (off:Nat): ∀(vs:List Value) (k:Nat) (cs:Array Value) (i:Nat),off+k+vs.length≤cs.size→
  ((vs.zipIdx k).foldl (fun cs p=>cs.setIfInBounds (off+p.2) p.1) cs)[i]? =if i<off+k then cs[i]? else if i<off+k+vs.length then vs[i-(off+k)]? else cs[i]?
 | [],k,cs,i,h=>by simp_all
 | v::vs,k,cs,i,h=>by
  simp only[List.zipIdx_cons,List.foldl_cons];simp only[List.length_cons] at h⊢;rw[foldl_set off vs (k+1) _ i (by simp;omega)];grind
theorem Wi (off:Nat): ∀(vs:List Value) (k:Nat) (cs:Array Value),((vs.zipIdx k).foldl (fun cs p=>cs.setIfInBounds (off+p.2) p.1) cs).size=cs.size
 | [],k,cs=>rfl
 | v::vs,k,cs=>by
  simp only[List.zipIdx_cons,List.foldl_cons];rw[Wi off vs (k+1)];simp
theorem Wj {cells:Array Value} {off:Nat} {v:Value} (h:off+v.cells.size≤cells.size) (i:Nat):
  (v.cells.zipIdx.foldl (fun cs (p:Value×Nat)=>cs.setIfInBounds (off+p.2) p.1) cells)[i]? =if i<off then cells[i]? else if i<off+v.cells.size then v.cells[i-off]? else cells[i]? :=by
 have:=foldl_set off v.cells.toList 0 cells i (by omega);rw[←HL];grind
theorem Wk {cells:Array Value} {off:Nat} {v:Value}:(v.cells.zipIdx.foldl (fun cs (p:Value×Nat)=>cs.setIfInBounds (off+p.2) p.1) cells).size=cells.size:=by
 have:=Wi off v.cells.toList 0 cells;rw[←HL];grind
inductive zK (P:Program) (w:World) (I:Nat→Nat→Prop) (β:Nat→Option Nat) (hp:Nat→Option ag):List (Nat×Value)→List (Nat×V)→Prop
 | nil:zK P w I β hp [] []
 | cons {i:Nat} {v:Value} {x:V} {vs:List (Nat×Value)} {xs:List (Nat×V)}:v.cells.size=x.cells.length→(∀(j:Nat) u y,v.cells[j]? =some u→x.cells[j]? =some y→ai P w I β hp u y)→
   zK P w I β hp vs xs→zK P w I β hp ((i,v)::vs) ((i,x)::xs)
theorem Wl (place:Nat→Option (Nat×Nat)): ∀{vs:List (Nat×Value)} {px:List (Nat×V)} {cells:Array Value} {xs ys:List V},zK P w I β hp vs px→cells.size=xs.length→
  (∀(j:Nat) v x,cells[j]? =some v→xs[j]? =some x→ai P w I β hp v x)→wQ place xs px=some ys→
  ∃sd:Array Value,Instr.fill place cells vs=some sd∧sd.size=ys.length∧∀(j:Nat) v x,sd[j]? =some v→ys[j]? =some x→ai P w I β hp v x
 | _,_,cells,xs,ys,.nil,hs,hx,h=>by
  simp only[wQ,et] at h;subst h;exact ⟨cells,by simp[Instr.fill],hs,hx⟩
 | _,_,cells,xs,ys,@zK.cons _ _ _ _ _ i v x vs px h1 h2 h3,hs,hx,h=>by
  simp only[wQ] at h;cases dW:place i with
  | none=>grind
  | some os=>
   obtain ⟨off,size⟩:=os;rw[dW] at h;simp only at h;cases hc:(Nat.beq x.cells.length size&&Nat.ble (off+size) xs.length) with
   | false=>grind
   | true=>
    rw[hc] at h;simp only[cond_true] at h;simp only[aK,aO,fe] at hc;have hv:off+v.cells.size≤cells.size:=by omega
    have hb:off+x.cells.length≤xs.length:=by omega
    have hl:(gS xs off x.cells).length=xs.length:=CU _ _ _ hb;obtain ⟨sd,f1,f2,f3⟩:=Wl place (cells:=v.cells.zipIdx.foldl (fun cs (p:Value×Nat)=>cs.setIfInBounds (off+p.2) p.1) cells) (xs:=gS xs off x.cells) h3 (by rw[Wk,hl,hs])
     (fun j u y hu hy=>by
      rw[Wj hv] at hu;unfold gS at hy;grind) h
    refine ⟨sd,?_,f2,f3⟩;simp only[Instr.fill,dW];grind
theorem afZ {t:TypeId} {parts:Array (Nat×Value)} {cells:Array Value} {z:Value} {i:TypeInfo} (hi:P.info? t=some i) (hz:i.zero=some z) (h:Instr.fill (placeOf P t) z.cells parts.toList=some cells) (ha:b8 P t=true)
  (dW: ∀fs,P.underlying t=some (.struct fs)→(fs.toList.mapM fun f=>(P.info? f.type).map fun i=>(f.offset,i.size)).isSome=true) (tS: ∀n e,P.underlying t=some (.array n e)→(P.info? e).isSome=true):
  (Instr.build t parts).run P w= .ok (.agg cells) w:=by
 refine run_build w t parts cells ?_;unfold Program.built;unfold b8 at ha;rw[hi];split at ha
 ·rename_i fs hu;have:=dW fs hu;cases hm:fs.toList.mapM fun f=>(P.info? f.type).map fun i=>(f.offset,i.size) with
  | none=>grind
  | some places=>
   simp only[hu,hz,hm];have hq:placeOf P t=fun i=>places[i]? :=by simp[placeOf,hu,hm]
   simp_all
 ·rename_i n e hu;have:=tS n e hu;cases lJ:P.info? e with
  | none=>grind
  | some ie=>
   simp only[hu,hz,lJ];have hq:placeOf P t=fun i=>some (i*ie.size,ie.size):=by simp[placeOf,hu,lJ]
   grind
 ·cases ha
theorem Wm {α:Type}: ∀(xs ys:List V) (k:Rd α),nX (xs++ys) k=nX xs (nX ys k)
 | [],_,_=>rfl
 | x::xs,ys,k=>by simp only[List.cons_append,nX,Wm xs ys k]
theorem Wn {a:Act} {sl:Nat→V} (hs:mz P w I β hp a sl) {G:Nat→V} (hg:iC P G w I) (t:TypeId) {α:Type}: ∀{l:List (Nat×Operand)} {k:Rd α} {r:α} {rd:List Nat},
  (nX ((l.map fun p=>(aQ P G t sl p.2).cells).flatten) k).run C hp=some (r,rd)→
  zK P w I β hp (l.map fun p=>(p.1,a.eval p.2)) (l.map fun p=>(p.1,aQ P G t sl p.2))∧∃fE,k.run C hp=some (r,fE)
 | [],k,r,rd,h=>⟨.nil,rd,h⟩
 | (i,x)::l,k,r,rd,h=>by
  simp only[iO,List.flatten_cons,Wm] at h;obtain ⟨e1,e2⟩:=Oc (hs.ev hg t x) h;obtain ⟨_,l1,h⟩:=IH h (vs:=(a.eval x).cells.toList) (by omega) (fun j u y a b=>e2 j u y (by grind) b);obtain ⟨h1,h2⟩:=Wn hs hg t h;exact ⟨.cons e1 e2 h1,h2⟩
theorem af0 (S:aA P w I β hp B M w0) {a:Act} {sl:Nat→V} (hs:mz P w I β hp a sl) {G:Nat→V} (hg:iC P G w I) {t ty:TypeId} {ps:Array (Nat×Operand)} {r:R} {rd:List Nat}
  (h:(Rd.aB (cR P t&&(b8 P t&&Ik P t)) (nX ((ps.toList.map fun p=>(aQ P G ty sl p.2).cells).flatten)
   (zm (wQ (placeOf P t) (zeroCells P t) (ps.toList.map fun p=>(p.1,aQ P G ty sl p.2))) fun cs=> .ret ⟨.agg cs,[]⟩))).run C hp=some (r,rd)):
  dd P ((Instr.build t (ps.map fun (i,x)=>(i,a.eval x))).run P w) w I β hp B M w0 r:=by
 obtain ⟨ar,h⟩:=aE h;simp only[aK] at ar;obtain ⟨h1,l,h⟩:=Wn hs hg ty h;cases hf:wQ (placeOf P t) (zeroCells P t) (ps.toList.map fun p=>(p.1,aQ P G ty sl p.2)) with
 | none=>rw[hf] at h;cases h
 | some cs=>
  rw[hf] at h;obtain rfl:=aM h;obtain ⟨i,z,hi,hz,h3,h4,h5⟩:=Wf (w:=w) (I:=I) (β:=β) (hp:=hp) ar.1;obtain ⟨cells,f1,f2,f3⟩:=Wl (placeOf P t) h1 h3 h5 hf;have Wo:=ar.2.2;refine .same S (v:= .agg cells) (afZ hi hz (by simp_all) ar.2.1 (fun fs hu=> ?_) (fun n e hu=> ?_)) (.agg f2 f3)
  ·simpa[Ik,hu] using Wo
  ·simpa[Ik,hu] using Wo
theorem af1 (cH: ∀id blk,hp id=some blk→ee P w I β hp (β id) blk) {x:V} {v:Value} {ys:List V} {fr:List (Nat×ag)} {rd:List Nat} {ts:List TypeId} (hv:ai P w I β hp v x)
  (h:(vj P x.cells).run C hp=some ((ys,fr),rd)) (ht:tn P ts ys=true):
  v.cells.size=x.cells.length∧∀(j:Nat) u y,v.cells.toList[j]? =some u→x.cells[j]? =some y→ai P w I β hp u y:=by
 cases x with
 | agg xs=>
  obtain ⟨cs,rfl,h1,h2⟩:=hv.lF;exact ⟨h1,fun j u y a b=>h2 j u y (by simpa[Value.cells] using a) b⟩
 | _=>
  simp only[V.cells] at h⊢;simp only[vj] at h;obtain ⟨⟨y1,u1⟩,l3,l4,hq,h⟩:=m9 h;obtain ⟨q1,q2⟩:=IB cH hq hv;obtain ⟨⟨y2,u2⟩,l5,l6,qT,h⟩:=m9 h;cases qT;have:=aM h;cases this;obtain ⟨tl,tg⟩:=xg ht;have ef:=tg 0 _ y1 (bR (by grind)) rfl;have dW:=q2 (j9 P w I β hp u1) (fun _ _ h=> .inl h) (fun p hp b j h=> .inr ⟨p,hp,h⟩);have ho:=dW.pure ef;have Wb:v.cells= #[v]:=by cases ho<;>rfl
  grind
def zL (P:Program) (w:World) (I:Nat→Nat→Prop) (e:TypeId) (cells:Array Value) (es:List V):Prop:=
 cells.size=es.length*P.cellsOf e∧∀(i j:Nat) (x:V) (t':TypeId),es[i]? =some x→(aN P e)[j]? =some t'→j<P.cellsOf e→∃v,cells[i*P.cellsOf e+j]? =some v∧Pure P w I t' v (bW P e x j)
theorem zL.set {e:TypeId} {cells:Array Value} {es ys:List V} {i:Nat} {v:Value} (h:zL P w I e cells es) (hi:i<es.length) (hv:v.cells.size=P.cellsOf e) (hy:ys.length=P.cellsOf e)
  (hr: ∀(j:Nat) (t':TypeId) (u:Value) (y:V),(aN P e)[j]? =some t'→v.cells[j]? =some u→ys[j]? =some y→Pure P w I t' u y):
  zL P w I e (v.cells.zipIdx.foldl (fun cs (p:Value×Nat)=>cs.setIfInBounds (i*P.cellsOf e+p.2) p.1) cells) (es.set i (di P e ys)):=by
 obtain ⟨h1,h2⟩:=h;have hb:i*P.cellsOf e+v.cells.size≤cells.size:=by
  have:(i+1)*P.cellsOf e≤es.length*P.cellsOf e:=dZ _ hi;grind
 refine ⟨by rw[Wk,ti,h1],fun i' j x t' hx ht hj=> ?_⟩;rw[Wj hb];rw[BZ] at hx;by_cases lI:i=i'
 ·subst lI;rw[ak rfl,ak hi] at hx;cases hx;rw[bN,bt,show i*P.cellsOf e+j-i*P.cellsOf e=j by omega];have h3:j<v.cells.size:=by omega
  have h4:j<ys.length:=by omega
  refine ⟨v.cells[j],kJ h3,?_⟩;rw[tN (bR h4) ht];exact hr j t' _ _ ht (kJ h3) (bR h4)
 ·rw[aj lI] at hx;have bK:i'*P.cellsOf e+j<i*P.cellsOf e∨i*P.cellsOf e+v.cells.size≤i'*P.cellsOf e+j:=by
   rcases gr i' i with ba|pY
   ·left;have:(i'+1)*P.cellsOf e≤i*P.cellsOf e:=dZ _ ba;grind
   ·right;have:(i+1)*P.cellsOf e≤i'*P.cellsOf e:=dZ _ (by omega);grind
  grind
theorem Wp {t':TypeId} {v:Value} (ef:eR P t' (oO (pJ P t' v))=true):Pure P w I t' v (oO (pJ P t' v)):=by
 have hc:=ai.const (P:=P) (w:=w) (I:=I) (β:=fun _=>none) (hp:=fun _=>none) t' v;cases xl:pJ P t' v<;>rw[xl] at ef hc<;>simp only[oO] at ef⊢
 case int k n=>rw[hc.fq];exact Plain.pure (v:= .int k n) (y:= .int k n) rfl ef
 case bool b=>rw[hc.kW];exact Plain.pure (v:= .bool b) (y:= .bool b) rfl ef
 case str l=>obtain ⟨s,e1,e2⟩:=hc.od;rw[e1];exact Plain.pure (v:= .string s) (y:= .str l) ⟨s,rfl,e2⟩ ef
 case nilS e'=>
  cases hc;exact Plain.pure (y:= .list e' []) (jQ.any fun _=>rfl) ef
 case list e' es=>
  cases hc with
  | list hp=>exact Plain.pure (y:= .list e' es) hp ef
 all_goals (unfold eR at ef;grind)
theorem Wq {t':TypeId} {v:Value} (ef:eR P t' (oO (pJ P t' v))=true): ∀a n c,v= .slice a n c→c=0:=by
 intro a n c hv;subst hv;unfold pJ at ef;split at ef<;>first|(rename_i h;cases h;rfl)|skip
 all_goals first|(simp_all;done)|(unfold eR oO at ef;split at ef<;>simp_all)
theorem C9 {e:TypeId} (h:nU P e=true): ∃i z,P.info? e=some i∧i.zero=some z∧i.size=P.cellsOf e∧z.cells.size=P.cellsOf e∧
  ∀(j:Nat) (t':TypeId),(aN P e)[j]? =some t'→j<P.cellsOf e→∃v,z.cells[j]? =some v∧Pure P w I t' v (bW P e (di P e (gE P e)) j)∧∀a n c,v= .slice a n c→c=0:=by
 unfold nU at h;simp only[aK] at h;obtain ⟨i,z,h1,h2,h3,h4,h5⟩:=jv h.1;refine ⟨i,z,h1,h2,h3,h4,fun j t' ht hj=> ?_⟩;obtain ⟨tl,tg⟩:=xg h.2;have dj:j<(gE P e).length:=by rw[←tl,(na h.1).1];exact hj
 have hz:=bR dj;have ef:=tg j t' _ (by rw[←qI];exact ht) hz;refine ⟨z.cells[j],kJ (by omega),?_⟩;rw[tN hz ht];have xm:(gE P e)[j]=oO (pJ P t' z.cells[j]):=by
  have:(gE P e)[j]? =((zeroCells P e)[j]?).map oO:=by simp[gE]
  rw[hz] at this;cases hc:(zeroCells P e)[j]? with
  | none=>grind
  | some y=>
   rw[hc] at this;simp only[Option.map_some,et] at this;rw[h5] at hc;obtain ⟨t2,v2,a1,a2,rfl⟩:=IW hc;have IX:t2=t':=by
    rw[←qI,ht] at a1;grind
   grind
 rw[xm] at ef⊢;exact ⟨Wp ef,Wq ef⟩
end
section
variable {P:Program} {w w':World} {I I':Nat→Nat→Prop} {β β':Nat→Option Nat} {hp hp':Nat→Option ag} {C:af} {B:Nat} {M:Nat→Prop} {w0:Start}
theorem Wr (S:aA P w I β hp B M w0) {nb cap:Nat} {fz:Bool} {e T:TypeId} {es:List V} {C0:Array Value} (ar:cR P e=true) (hn:hp nb=none) (hs:C0.size=cap*P.cellsOf e) (hl:es.length≤cap) (hm:cap≤maxLen) (hL:qE P T e C0.size)
  (hx: ∀(i j:Nat) (x:V) (t':TypeId),es[i]? =some x→(aN P e)[j]? =some t'→j<P.cellsOf e→∃v,C0[i*P.cellsOf e+j]? =some v∧Pure P w I t' v (bW P e x j)):
  Le P w I β hp (w.alloc (.cells C0 T)) I (ao β nb (some w.heap.size)) (ao hp nb (some (.arr e es fz)))∧aA P (w.alloc (.cells C0 T)) I (ao β nb (some w.heap.size)) (ao hp nb (some (.arr e es fz))) B M w0∧
  ai P (w.alloc (.cells C0 T)) I (ao β nb (some w.heap.size)) (ao hp nb (some (.arr e es fz))) (.slice (some ⟨w.heap.size,0,none⟩) es.length cap) (.whole e nb):=by
 obtain ⟨h1,h2⟩:=N5 S (blk:= .arr e es fz) (c:=C0) (T:=T) hn (fun b' h=>(dA (h.flat (by simp))).symm) (fun hle dm c6=> .arr hL ar rfl dm (by rw[hs];exact dZ _ hl) (fun _ j h=>absurd h (c6 j)) (fun _=>c6) fun i j x t' a b c=>by
  obtain ⟨v,hv,hp⟩:=hx i j x t' a b c;exact ⟨v,hv,hp.mono hle.dV hle.cE⟩)
 refine ⟨h1,h2,.whole (bD _ _ _) (bD _ _ _) ?_ hl hm⟩;rw[jS (heap_alloc_new w (.cells C0 T)),hs]
theorem zM (S:aA P w I β hp B M w0) {nb cap:Nat} {fz:Bool} {e:TypeId} {es:List V} {C0:Array Value} (ar:cR P e=true) (hn:hp nb=none) (hs:C0.size=cap*P.cellsOf e) (hl:es.length≤cap) (hm:cap≤maxLen)
  (hx: ∀(i j:Nat) (x:V) (t':TypeId),es[i]? =some x→(aN P e)[j]? =some t'→j<P.cellsOf e→∃v,C0[i*P.cellsOf e+j]? =some v∧Pure P w I t' v (bW P e x j)):
  Le P w I β hp (w.alloc (.cells C0 e)) I (ao β nb (some w.heap.size)) (ao hp nb (some (.arr e es fz)))∧aA P (w.alloc (.cells C0 e)) I (ao β nb (some w.heap.size)) (ao hp nb (some (.arr e es fz))) B M w0∧
  ai P (w.alloc (.cells C0 e)) I (ao β nb (some w.heap.size)) (ao hp nb (some (.arr e es fz))) (.slice (some ⟨w.heap.size,0,none⟩) es.length cap) (.whole e nb):=
 Wr S ar hn hs hl hm qE.self hx
theorem Ws {b n:Nat} {Ca C':Array Value} {T T':TypeId} {f f':Nat×Nat} (hh:w.heap[b]? =some (.cells Ca T f)) (w6:w'.heap[b]? =some (.cells C' T' f')) (hI: ∀j,I b j→j<n) (hp: ∀j,j<n→C'[j]? =Ca[j]?) (j:Nat) (h:I b j):
  w'.cell? ⟨b,j,none⟩=w.cell? ⟨b,j,none⟩:=by
 rw[cell?_cells hh,cell?_cells w6];grind
theorem OA {b n:Nat} {fz:Bool} (hf:fz=true→∀j,I b j→j<n) (eJ:fz=false→∀j,¬I b j): ∀j,I b j→j<n:=by
 intro j h;cases fz with
 | true=>grind
 | false=>grind
theorem At.only {b b':Nat} {e e' T:TypeId} {es aL:List V} {q:Path} {Ca:Array Value} {f:Nat×Nat} (hh:w.heap[b]? =some (.cells Ca T f)) (hz: ∀(i j:Nat) x t' v,es[i]? =some x→(aN P e)[j]? =some t'→Ca[i*P.cellsOf e+j]? =some v→∀a n c,v= .slice a n c→c=0)
  (h:At P w b e es q b' e' aL):q=[]∧b'=b∧e'=e∧aL=es:=by
 cases h with
 | here=>grind
 | step h1 h2 h3 h4 h5 h6 h7=>grind
theorem n9.rT {t:TypeId} {v:Value} {x:V} (h:Pure P w I t v x) (hc: ∀a n c,v= .slice a n c→c=0):n9 P w I t v x:=by
 cases h with
 | int h=>exact .fl (by unfold dB;rw[h]) (.int h)
 | bool h=>exact .fl (by unfold dB;rw[h]) (.bool h)
 | str h hl=>exact .fl (by unfold dB;rw[h]) (.str h hl)
 | nil h=>exact .emp h
 | emp h=>have:=hc _ _ _ rfl;subst this;exact .emp h
 | list g hu hl hle _ _ _=>
  have:=hc _ _ _ rfl;subst this;obtain rfl:=vb.1 hle;obtain rfl:=u5.1 hl;exact .emp hu
theorem Wt (S:aA P w I β hp B M w0) {nb cap:Nat} {e T:TypeId} {es:List V} {C0:Array Value} (ar:cR P e=true) (hn:hp nb=none) (hs:C0.size=cap*P.cellsOf e) (hl:es.length≤cap) (hm:cap≤maxLen) (hL:qE P T e C0.size)
  (hx: ∀(i j:Nat) (x:V) (t':TypeId),es[i]? =some x→(aN P e)[j]? =some t'→j<P.cellsOf e→∃v,C0[i*P.cellsOf e+j]? =some v∧Pure P w I t' v (bW P e x j)∧∀a n c,v= .slice a n c→c=0):
  Le P w I β hp (w.alloc (.cells C0 T)) I (ao β nb (some w.heap.size)) (ao hp nb (some (.nest e es [0,0,0])))∧aA P (w.alloc (.cells C0 T)) I (ao β nb (some w.heap.size)) (ao hp nb (some (.nest e es [0,0,0]))) B M w0∧
  ai P (w.alloc (.cells C0 T)) I (ao β nb (some w.heap.size)) (ao hp nb (some (.nest e es [0,0,0]))) (.slice (some ⟨w.heap.size,0,none⟩) es.length cap) (.whole e nb):=by
 have hz: ∀(i j:Nat) x t' v,es[i]? =some x→(aN P e)[j]? =some t'→C0[i*P.cellsOf e+j]? =some v→∀a n c,v= .slice a n c→c=0:=fun i j x t' v a b h=>by
  obtain ⟨v',h1,_,h3⟩:=hx i j x t' a b (by rw[←ey ar];grind);grind
 obtain ⟨h1,h2⟩:=N5 S (blk:= .nest e es [0,0,0]) (c:=C0) (T:=T) hn (fun b' h=>by
   cases h with
   | root _ h=>grind
   | row h ha=>cases h;exact (At.only (heap_alloc_new w _) hz ha).2.1)
  (fun hle dm c6=> .nest rfl (fun q b' e' aL ha=>by
   obtain ⟨rfl,rfl,rfl,rfl⟩:=At.only dm hz ha;refine ⟨ar,⟨C0,_,dm,hL,by rw[hs];exact dZ _ hl,fun i j x t' a b c=> ?_⟩,c6⟩;obtain ⟨v,hv,hp⟩:=hx i j x t' a b c;exact ⟨v,hv,.rT (hp.1.mono hle.dV hle.cE) hp.2⟩)
   fun q1 q2 b' e1 cZ e2 bI a1 a2=>(At.only dm hz a1).1.trans (At.only dm hz a2).1.symm)
 refine ⟨h1,h2,.dp (bD _ _ _) (bD _ _ _) ?_ hl hm⟩;rw[jS (heap_alloc_new w (.cells C0 T)),hs]
theorem af2 (S:aA P w I β hp B M w0) {nb cap:Nat} {e:TypeId} {es:List V} {C0:Array Value} (ar:cR P e=true) (hn:hp nb=none) (hs:C0.size=cap*P.cellsOf e) (hl:es.length≤cap) (hm:cap≤maxLen)
  (hx: ∀(i j:Nat) (x:V) (t':TypeId),es[i]? =some x→(aN P e)[j]? =some t'→j<P.cellsOf e→∃v,C0[i*P.cellsOf e+j]? =some v∧Pure P w I t' v (bW P e x j)∧∀a n c,v= .slice a n c→c=0):
  Le P w I β hp (w.alloc (.cells C0 e)) I (ao β nb (some w.heap.size)) (ao hp nb (some (.nest e es [0,0,0])))∧aA P (w.alloc (.cells C0 e)) I (ao β nb (some w.heap.size)) (ao hp nb (some (.nest e es [0,0,0]))) B M w0∧
  ai P (w.alloc (.cells C0 e)) I (ao β nb (some w.heap.size)) (ao hp nb (some (.nest e es [0,0,0]))) (.slice (some ⟨w.heap.size,0,none⟩) es.length cap) (.whole e nb):=
 Wt S ar hn hs hl hm qE.self hx
theorem af3 (S:aA P w I β hp B M w0) {e:TypeId} {nb:Nat} {r:R} {rd:List Nat} (h:(NA P nb e).run C hp=some (r,rd)):dd P ((Instr.alloc e true (.tuple #[])).run P w) w I β hp B M w0 r:=by
 unfold NA at h;split at h
 ·rename_i n e1 hu;obtain ⟨hc,h1⟩:=aE h;clear h;simp only[aK,aO,fe,mY,fL] at hc;obtain ⟨ar,ng,nh,hn,hm,fP,ef,Wu⟩:=hc;obtain ⟨zN,rfl⟩:=kX h1;obtain ⟨i,z,hi,hz,h3,h4,h5⟩:=jv ar;have jt:aN P e1=[e1]:=by simp[aN,nh]
  have hk:P.cellsOf e1=1:=by rw[←ey ng,jt];rfl
  have hlen:((zeroCells P e).map oO).length≤n:=by
   rw[h5,cU,←hn,←h4];have go: ∀(ts:List TypeId) (vs:List Value),(iP P ts vs).length≤vs.length:=by
    intro ts
    induction ts with
    | nil=>intro vs;simp[iP]
    | cons t ts ih=>intro vs;cases vs with
     | nil=>simp[iP]
     | cons v vs=>simpa[iP] using ih vs
   grind
  have hx: ∀(i j:Nat) (x:V) (t':TypeId),((zeroCells P e).map oO)[i]? =some x→(aN P e1)[j]? =some t'→j<P.cellsOf e1→∃v,z.cells[i*P.cellsOf e1+j]? =some v∧Pure P w I t' v (bW P e1 x j)∧∀a n c,v= .slice a n c→c=0:=by
   intro i j x t' hx ht hj;rw[hk] at hj⊢;obtain rfl:j=0:=by omega
   rw[jt] at ht;simp only[List.getElem?_cons_zero,et] at ht;subst ht;have IY:=fL.1 ef x (lp hx);rw[jh] at hx;cases hc:(zeroCells P e)[i]? with
   | none=>grind
   | some y=>
    rw[hc] at hx;cases hx;rw[h5] at hc;obtain ⟨t2,v2,a1,a2,rfl⟩:=IW hc;have IX:e1=t2:=by simpa using fP t2 (lp a1)
    subst IX;simp only[bW,nh,cond_false];exact ⟨v2,by grind,Wp IY,Wq IY⟩
  have hL:qE P e e1 z.cells.size:=fun hb _ k tR=>by
   grind
  have cF:(Instr.alloc e true (.tuple #[])).run P w= .ok (.pointer (some ⟨w.heap.size,0,none⟩)) (w.alloc (.cells z.cells e)):=by
   simp[Instr.alloc,zeroValue,typeInfo,hi,hz,newVar,newRow]
  have hs:z.cells.size=n*P.cellsOf e1:=by grind
  cases dB P e1 with
  | true=>
   obtain ⟨a,b,_⟩:=Wr S (nb:=nb) (fz:=false) ng zN hs hlen hm hL fun i j x t' p q r=>(hx i j x t' p q r).imp fun _ h=>⟨h.1,h.2.1⟩
   refine ⟨_,_,_,_,cF,a,b,?_⟩;have:=ai.ptr (P:=P) (w:=w.alloc (.cells z.cells e)) (I:=I) (β:=ao β nb (some w.heap.size)) (hp:=ao hp nb (some (.arr e1 ((zeroCells P e).map oO) false))) (i:=0) (c:=0) (bD _ _ _) (by simp) (bD _ _ _);rw[Nat.zero_mul] at this;exact this
  | false=>
   obtain ⟨a,b,_⟩:=Wt S (nb:=nb) ng zN hs hlen hm hL hx;refine ⟨_,_,_,_,cF,a,b,?_⟩;have:=ai.ptr (P:=P) (w:=w.alloc (.cells z.cells e)) (I:=I) (β:=ao β nb (some w.heap.size)) (hp:=ao hp nb (some (.nest e1 ((zeroCells P e).map oO) [0,0,0]))) (i:=0) (c:=0) (bD _ _ _) (by simp) (bD _ _ _);rw[Nat.zero_mul] at this;exact this
 ·cases h
theorem Wv (cH: ∀id blk,hp id=some blk→ee P w I β hp (β id) blk) {a:Act} {sl:Nat→V} (hs:mz P w I β hp a sl) {G:Nat→V} (hg:iC P G w I) {e:TypeId} {len:Nat}: ∀{l:List (Nat×Operand)} {ps:List (Nat×V)} {upd:List (Nat×ag)} {rd:List Nat},
  (Cj P e len (l.map fun p=>(p.1,aQ P G e sl p.2))).run C hp=some ((ps,upd),rd)→cR P e=true→(∀p∈upd,zw hp p)∧∀I':Nat→Nat→Prop,(∀b j,I b j→I' b j)→(∀p∈upd,∀b j,vB P w β hp p.1 b j→I' b j)→
   ∀(cells:Array Value) (es:List V),es.length=len→zL P w I' e cells es→∃sd,Instr.fill (fun i=>some (i*P.cellsOf e,P.cellsOf e)) cells (l.map fun p=>(p.1,a.eval p.2))=some sd∧zL P w I' e sd (Ci es ps)∧(Ci es ps).length=len
 | [],ps,upd,rd,h,_=>by
  cases h;exact ⟨by simp,fun I' _ _ cells es hl he=>⟨cells,by simp[Instr.fill],he,hl⟩⟩
 | (i,x)::l,ps,upd,rd,h,ar=>by
  simp only[iO,Cj] at h;obtain ⟨⟨ys,u1⟩,l1,l2,h1,h⟩:=m9 h;obtain ⟨hc,h⟩:=aE h;obtain ⟨⟨ps',u2⟩,l3,l4,h2,h⟩:=m9 h;have:=aM h;cases this;simp only[aK,nP] at hc;obtain ⟨hi,ef⟩:=hc;obtain ⟨tl,tg⟩:=xg ef;have oX:=hs.ev hg e x;obtain ⟨v1,v2⟩:=af1 cH oX h1 ef;obtain ⟨k1,k2,k3⟩:=NZ cH h1 (vs:=(a.eval x).cells.toList) (by omega) v2;obtain ⟨m1,m2⟩:=Wv cH hs hg h2 ar;refine ⟨fun p hp=> ?_,fun I' i1 i2 cells es hl he=> ?_⟩
  ·grind
  ·have dW:=k3 I' i1 (fun p hp=>i2 p (eO.2 (.inl hp)));have aU:=(na ar).1;have vK:ys.length=P.cellsOf e:=by omega
   have IK:(a.eval x).cells.size=P.cellsOf e:=by omega
   have zO:=he.set (i:=i) (ys:=ys) (by omega) IK vK (fun j t' u y ht hu hy=>by
    exact (dW j u y (by grind) hy).pure (tg j t' y (by rw[←qI];exact ht) hy))
   obtain ⟨sd,f1,f2,f3⟩:=m2 I' i1 (fun p hp=>i2 p (eO.2 (.inr hp))) _ (es.set i (di P e ys)) (by grind) zO;refine ⟨sd,?_,f2,f3⟩;have hb:i*P.cellsOf e+P.cellsOf e≤cells.size:=by
    rw[he.1,hl];have:(i+1)*P.cellsOf e≤len*P.cellsOf e:=dZ _ hi;grind
   simp only[iO,Instr.fill];grind
theorem Ww {z:Array Value} {n k:Nat} (hk:k<n) (hz:0<z.size):((Array.range n).map (z[· %z.size]!))[k]? =z[k %z.size]? :=by
 have hm:k %z.size<z.size:=wJ _ hz;grind
theorem Wx {e:TypeId} (h:nU P e=true) {i:TypeInfo} {z:Value} (hi:P.info? e=some i) (hz:i.zero=some z) (n m:Nat) (oN:n≤m):
  ∀(k j:Nat) (x:V) (t':TypeId),(List.replicate n (di P e (gE P e)))[k]? =some x→(aN P e)[j]? =some t'→j<P.cellsOf e→
   ∃v,((Array.range (m*P.cellsOf e)).map (z.cells[· %z.cells.size]!))[k*P.cellsOf e+j]? =some v∧Pure P w I t' v (bW P e x j)∧∀a n c,v= .slice a n c→c=0:=by
 intro k j x t' hx ht hj;obtain ⟨i2,z2,h1,h2,h3,h4,h5⟩:=C9 (w:=w) (I:=I) h;rw[hi] at h1;cases h1;rw[hz] at h2;cases h2;rw[HM] at hx;split at hx
 ·rename_i hk;cases hx;obtain ⟨v,hv,hp⟩:=h5 j t' ht hj;refine ⟨v,?_,hp⟩;have hb:k*P.cellsOf e+j<m*P.cellsOf e:=by
   have:(k+1)*P.cellsOf e≤m*P.cellsOf e:=dZ _ (by omega);grind
  rw[Ww hb (by omega),h4,show (k*P.cellsOf e+j) %P.cellsOf e=j by rw[pF,Nat.mul_add_mod];exact B0 hj];exact hv
 ·cases hx
theorem OB {e:TypeId} (h:nU P e=true) {i:TypeInfo} {z:Value} (hi:P.info? e=some i) (hz:i.zero=some z) (n m:Nat) (oN:n≤m):
  ∀(k j:Nat) (x:V) (t':TypeId),(List.replicate n (di P e (gE P e)))[k]? =some x→(aN P e)[j]? =some t'→j<P.cellsOf e→
   ∃v,((Array.range (m*P.cellsOf e)).map (z.cells[· %z.cells.size]!))[k*P.cellsOf e+j]? =some v∧Pure P w I t' v (bW P e x j):=fun k j x t' a b c=>(Wx h hi hz n m oN k j x t' a b c).imp fun _ h=>⟨h.1,h.2.1⟩
theorem OC {P:Program} (w:World) (t e:TypeId) (len:Nat) (parts:Array (Nat×Value)) (cells:Array Value) (ie:TypeInfo) (z:Value)
  (hu:P.underlying t=some (.slice e)) (lJ:P.info? e=some ie) (hz:ie.zero=some z) (af4: ¬len*ie.size>2^24)
  (h:Instr.fill (fun i=>some (i*ie.size,ie.size)) ((Array.range (len*ie.size)).map (z.cells[· %z.cells.size]!)) parts.toList=some cells):
  (Instr.buildSlice t len parts).run P w= .ok (.slice (some ⟨w.heap.size,0,none⟩) len len) (w.alloc (.cells cells e)):=by
 by_cases oN:len*ie.size=0
 ·have h0: ∀g:Nat→Value,(Array.range (len*ie.size)).map g= #[]:=by grind
  have hp: ∀(u:Array Value),(Pure.pure u:Sem (Array Value)).run P w= .ok u w:=fun _=>rfl;rw[h0] at h;simp only[Instr.buildSlice,Sem.run_bind,run_underlying hu,Result.andThen_ok,sizeOf,typeInfo,lJ];have h1:(Array.range (len*ie.size)).map (fun _:Nat=>(default:Value))= #[]:=h0 _;have hs: ¬16777216<len*ie.size:=by omega
  simp[lJ,hs,oN];simp only[oN] at h1;simp[h1,h,newRow]
 ·exact run_buildSlice w t e len parts cells ie z hu lJ hz af4 oN h
theorem Wy (S:aA P w I β hp B M w0) {a:Act} {sl:Nat→V} (hs:mz P w I β hp a sl) {G:Nat→V} (hg:iC P G w I) {t e:TypeId} {len nb:Nat} {ps:Array (Nat×Operand)} {r:R} {rd:List Nat} (hu:P.underlying t=some (.slice e))
  (h:(Rd.aB (nU P e&&Nat.ble (len*P.cellsOf e) (2^24)) ((Cj P e len (ps.toList.map fun p=>(p.1,aQ P G e sl p.2))).bind fun r=>
    gX nb (.arr e (Ci (List.replicate len (di P e (gE P e))) r.1) false) (.whole e nb) r.2)).run C hp=some (r,rd)):
  dd P ((Instr.buildSlice t len (ps.map fun (i,x)=>(i,a.eval x))).run P w) w I β hp B M w0 r:=by
 obtain ⟨hc,h⟩:=aE h;simp only[aK,fe] at hc;obtain ⟨eB,NU⟩:=hc;have ar:cR P e=true:=by
  unfold nU at eB;grind
 obtain ⟨⟨pv,upd⟩,l1,l2,h1,h⟩:=m9 h;obtain ⟨hn,rfl⟩:=kX h;obtain ⟨m1,m2⟩:=Wv S.h.rel hs hg h1 ar;obtain ⟨sa,S1⟩:=CK S m1;obtain ⟨i,z,hi,hz,h3,h4,_⟩:=C9 (w:=w) (I:=I) eB;have gL:=(na ar).2;have h0:zL P w (j9 P w I β hp upd) e ((Array.range (len*P.cellsOf e)).map (z.cells[· %z.cells.size]!)) (List.replicate len (di P e (gE P e))):=
  ⟨by simp,OB eB hi hz len len (az _)⟩
 obtain ⟨cells,f1,f2,f3⟩:=m2 (j9 P w I β hp upd) (fun _ _ h=> .inl h) (fun p hp b j h=> .inr ⟨p,hp,h⟩) _ _ (by simp) h0;have fX:b9 hp upd nb=none:=by
  rcases w5 (hp:=hp) (l:=upd) (id:=nb) with h|⟨b',hm,_⟩
  ·grind
  ·obtain ⟨e1,cZ,_,h5⟩:=m1 _ hm;grind
 have qJ:len≤maxLen:=by
  have:len*1≤len*P.cellsOf e:=vc _ gL;simp only[maxLen];omega
 obtain ⟨n1,n2,n3⟩:=zM S1 (cap:=len) ar fX (by rw[f2.1,f3]) (by omega) qJ f2.2;have cF:=OC w t e len (ps.map fun (i,x)=>(i,a.eval x)) cells i z hu hi hz (by grind) (by simp_all);refine ⟨_,_,_,_,cF,sa.trans n1,n2,?_⟩;rw[f3] at n3;exact n3
theorem Wz (S:aA P w I β hp B M w0) {t e:TypeId} {nb:Nat} {kl kc:IntKind} {n m:Int} {r:R} {rd:List Nat} (hu:P.underlying t=some (.slice e))
  (h:(Rd.aB (nU P e&&(decide (0≤n)&&(decide (n≤m)&&Nat.ble (m.toNat*P.bytesOf e) bm)))
    (gX nb (.arr e (List.replicate n.toNat (di P e (gE P e))) false) (.whole e nb) [])).run C hp=some (r,rd)):
  dd P ((Instr.makeSlice t (.int kl n) (.int kc m)).run P w) w I β hp B M w0 r:=by
 obtain ⟨hc,h⟩:=aE h;simp only[aK,fe,fK] at hc;obtain ⟨eB,h0,oN,dM⟩:=hc;have ar:cR P e=true:=by
  unfold nU at eB;grind
 obtain ⟨hn,rfl⟩:=kX h;obtain ⟨i,z,hi,hz,h3,h4,_⟩:=C9 (w:=w) (I:=I) eB;have mC:P.bytesOf e=i.bytes:=by simp[Program.bytesOf,hi]
 have OD:m≤9223372036854775807:=by
  have h1:m.toNat*1≤m.toNat*P.bytesOf e:=vc _ (w4 ar);simp only[bm] at dM;omega
 have cF:=run_make (P:=P) w t e i z hu hi hz kl kc n m h0 oN (by
  rw[mC] at dM;simp only[bm] at dM;grind) OD
 have hlen:(List.replicate n.toNat (di P e (gE P e))).length=n.toNat:=by simp
 obtain ⟨n1,n2,n3⟩:=zM S (cap:=m.toNat) (es:=List.replicate n.toNat (di P e (gE P e))) (C0:=madeCells z.cells (m.toNat*i.size)) ar hn (by rw[size_madeCells,h3]) (by omega) (by simp only[maxLen];omega)
  (by rw[h3];exact OB eB hi hz n.toNat m.toNat (by omega))
 refine ⟨_,_,_,_,cF,n1,n2,?_⟩;rw[hlen] at n3;exact n3
theorem af5 (S:aA P w I β hp B M w0) {t e:TypeId} {nb:Nat} {kl kc:IntKind} {n m:Int} {r:R} {rd:List Nat} (hu:P.underlying t=some (.slice e))
  (h:(Rd.aB (nU P e&&(decide (0≤n)&&(decide (n≤m)&&Nat.ble (m.toNat*P.bytesOf e) bm)))
    (gX nb (.nest e (List.replicate n.toNat (di P e (gE P e))) [0,0,0]) (.whole e nb) [])).run C hp=some (r,rd)):
  dd P ((Instr.makeSlice t (.int kl n) (.int kc m)).run P w) w I β hp B M w0 r:=by
 obtain ⟨hc,h⟩:=aE h;simp only[aK,fe,fK] at hc;obtain ⟨eB,h0,oN,dM⟩:=hc;have ar:cR P e=true:=by
  unfold nU at eB;grind
 obtain ⟨hn,rfl⟩:=kX h;obtain ⟨i,z,hi,hz,h3,h4,_⟩:=C9 (w:=w) (I:=I) eB;have mC:P.bytesOf e=i.bytes:=by simp[Program.bytesOf,hi]
 have OD:m≤9223372036854775807:=by
  have h1:m.toNat*1≤m.toNat*P.bytesOf e:=vc _ (w4 ar);simp only[bm] at dM;omega
 have cF:=run_make (P:=P) w t e i z hu hi hz kl kc n m h0 oN (by
  rw[mC] at dM;simp only[bm] at dM;grind) OD
 have hlen:(List.replicate n.toNat (di P e (gE P e))).length=n.toNat:=by simp
 obtain ⟨n1,n2,n3⟩:=af2 S (cap:=m.toNat) (es:=List.replicate n.toNat (di P e (gE P e))) (C0:=madeCells z.cells (m.toNat*i.size)) ar hn (by rw[size_madeCells,h3]) (by omega) (by simp only[maxLen];omega)
  (by rw[h3];exact Wx eB hi hz n.toNat m.toNat (by omega))
 refine ⟨_,_,_,_,cF,n1,n2,?_⟩;rw[hlen] at n3;exact n3
theorem Pure.one {t:TypeId} {v:Value} {x:V} (h:Pure P w I t v x):v.oneCell'=true:=by cases h<;>rfl
structure Row (P:Program) (w:World) (I:Nat→Nat→Prop) (e:TypeId) (v:Value) (xs:List V) (a:Addr) (c:Nat) (news:List Value):Prop where
 val:v= .slice (some a) xs.length c
 len:news.length=xs.length*P.cellsOf e
 cell: ∀(j:Nat) u,news[j]? =some u→w.cell? (a.add j)=some u
 el: ∀(i j:Nat) (x:V) (t':TypeId),xs[i]? =some x→(aN P e)[j]? =some t'→j<P.cellsOf e→∃u,news[i*P.cellsOf e+j]? =some u∧Pure P w I t' u (bW P e x j)
theorem Row.one {e:TypeId} {v:Value} {xs:List V} {a:Addr} {c:Nat} {news:List Value} (h:Row P w I e v xs a c news) (ar:cR P e=true): ∀u∈news,u.oneCell'=true:=by
 intro u hu;obtain ⟨k,hk⟩:=rJ hu;have se:=(cq.1 hk).1;have gL:=(na ar).2;rw[h.len] at se;have hi:k/P.cellsOf e<xs.length:=Nat.div_lt_of_lt_mul (by grind);have hj:k %P.cellsOf e<P.cellsOf e:=wJ _ gL;have dN:k %P.cellsOf e<(aN P e).length:=by rw[ey ar];exact hj
 obtain ⟨u',jV,hp⟩:=h.el (k/P.cellsOf e) (k %P.cellsOf e) _ _ (bR hi) (bR dN) hj;rw[Nat.div_add_mod'] at jV;rw[hk] at jV;cases jV;exact hp.one
theorem WA {e T:TypeId} {es:List V} {b:Nat} {Ca:Array Value} {off len cap o:Nat} (hh:w.heap[b]? =some (.cells Ca T (0,0))) (hs:es.length*P.cellsOf e≤Ca.size)
  (hx: ∀(i j:Nat) (x:V) (t':TypeId),es[i]? =some x→(aN P e)[j]? =some t'→j<P.cellsOf e→∃v,Ca[i*P.cellsOf e+j]? =some v∧Pure P w I t' v (bW P e x j))
  (kS:off+len≤es.length) (ho:0<len→o=off*P.cellsOf e):
  Row P w I e (.slice (some ⟨b,o,none⟩) len cap) ((es.drop off).take len) ⟨b,o,none⟩ cap ((Ca.toList.drop (off*P.cellsOf e)).take (len*P.cellsOf e)):=by
 have hlen:((es.drop off).take len).length=len:=by simp;omega
 have hb:(off+len)*P.cellsOf e≤Ca.size:=ln (dZ _ kS) hs;rw[jJ] at hb;refine ⟨by rw[hlen],by grind,fun j u hj=> ?_,fun i j x t' lG ht hj=> ?_⟩
 ·have dj:=(cq.1 hj).1;have af6:j<len*P.cellsOf e:=by
   grind
  have kU:0<len:=by
   grind
  rw[gR af6,pD] at hj;rw[mB,cell?_cells hh,ho kU];grind
 ·have hi:i<len:=by grind
  rw[gR hi,pD] at lG;obtain ⟨u,hu,hp⟩:=hx (off+i) j x t' lG ht hj;refine ⟨u,?_,hp⟩;have:i*P.cellsOf e+j<len*P.cellsOf e:=by
   have:(i+1)*P.cellsOf e≤len*P.cellsOf e:=dZ _ hi;grind
  grind
theorem Db (cH: ∀id blk,hp id=some blk→ee P w I β hp (β id) blk) {e:TypeId} {v:Value} {x:V} {k:List V→Rd R} {r:R} {rd:List Nat} (ar:cR P e=true) (hv:ai P w I β hp v x)
  (h:(tu e x k).run C hp=some (r,rd)): ∃xs,(((∃a,v= .slice a 0 0)∧xs=[])∨∃a c news,Row P w I e v xs a c news)∧∃l,(k xs).run C hp=some (r,l):=by
 cases hv with
 | list hp'=>
  obtain ⟨hc,h2⟩:=aE h;clear h;rw[aO] at hc;subst hc;cases hp' with
  | nil=>grind
  | @emp a cap=>exact ⟨[],.inr ⟨a,cap,[],⟨rfl,by simp,fun j u hj=>by simp at hj,fun i j x t' hx _ _=>by simp at hx⟩⟩,rd,h2⟩
  | @list b o len cap es g hl bO hI fC hx=>
   refine ⟨_,.inr ⟨⟨b,o,none⟩,cap,(List.range (len*P.cellsOf e)).map fun k=>g (k/P.cellsOf e) (k %P.cellsOf e),⟨by rw[hl],by grind,fun j u hj=> ?_,fun i j x t' lG ht hj=> ?_⟩⟩,rd,h2⟩
   ·obtain ⟨dj,xe⟩:=cq.1 hj;simp at dj xe;have gL:=(na ar).2;have hi:j/P.cellsOf e<len:=Nat.div_lt_of_lt_mul (by grind);have dg:j %P.cellsOf e<P.cellsOf e:=wJ _ gL;rw[mB,←xe];have:=fC (j/P.cellsOf e) (j %P.cellsOf e) hi dg;rwa [Nat.div_add_mod'] at this
   ·have hi:i<len:=by grind
    have hb:i*P.cellsOf e+j<len*P.cellsOf e:=by
     have:(i+1)*P.cellsOf e≤len*P.cellsOf e:=dZ _ hi;grind
    refine ⟨g i j,?_,hx i j x t' lG ht⟩;have e1:(i*P.cellsOf e+j)/P.cellsOf e=i:=by
     rw[pF,Nat.mul_add_div (na ar).2,Nat.div_eq_of_lt hj,Nat.add_zero]
    have e2:(i*P.cellsOf e+j) %P.cellsOf e=j:=by
     rw[pF,Nat.mul_add_mod];exact B0 hj
    grind
 | nilS=>
  obtain ⟨hc,h⟩:=aE h;grind
 | dy ab hb=>
  obtain ⟨l,h⟩:=run_get h;simp only[ab] at h;obtain ⟨hc,h⟩:=aE h;grind
 | @whole e' id es fz b cap ab hb aU bO hm=>
  obtain ⟨l,h⟩:=run_get h;simp only[ab] at h;obtain ⟨hc,h2⟩:=aE h;clear h;simp only[aK,aO] at hc;obtain ⟨rfl,_⟩:=hc;have hr:=cH _ _ ab;cases hr with
  | dU ay=>grind
  | arr hL Oa ay hh hs hf eJ hx=>
   rw[hb] at ay;cases ay;have:=WA (cap:=cap) (off:=0) (len:=es.length) (o:=0) hh hs hx (by omega) (fun _=>by simp);grind
 | gy ab hb=>
  obtain ⟨l,h⟩:=run_get h;simp only[ab] at h;obtain ⟨hc,h⟩:=aE h;grind
 | @sub e' id off len es fz b o cap ab hb kS bO ho=>
  obtain ⟨l,h⟩:=run_get h;simp only[ab] at h;obtain ⟨hc,h2⟩:=aE h;clear h;simp only[aK,aO] at hc;obtain ⟨rfl,_⟩:=hc;have hr:=cH _ _ ab;cases hr with
  | dU ay=>grind
  | arr hL Oa ay hh hs hf eJ hx=>
   rw[hb] at ay;cases ay;exact ⟨_,.inr ⟨_,_,_,WA (cap:=cap) hh hs hx kS ho⟩,l,h2⟩
 | dD ab=>
  obtain ⟨l,h⟩:=run_get h;simp only[ab] at h;cases h
 | ia ab=>
  obtain ⟨l,h⟩:=run_get h;simp only[ab] at h;cases h
 | undef=>cases h
 | int=>cases h
 | bool=>cases h
 | str=>cases h
 | agg=>cases h
 | aW=>cases h
 | eb=>cases h
 | fn=>cases h
 | pref=>cases h
 | kP=>cases h
 | ptr=>cases h
 | kQ=>cases h
 | kR=>cases h
 | row=>cases h
 | dk=>cases h
 | eo=>cases h
 | jR=>cases h
 | cK=>cases h
 | dJ ab=>
  obtain ⟨l,h⟩:=run_get h;simp only[ab] at h;cases h
 | ew ab=>
  obtain ⟨l,h⟩:=run_get h;simp only[ab] at h;cases h
 | dp ab=>
  obtain ⟨l,h⟩:=run_get h;simp only[ab] at h;cases h
theorem zP {t ty e:TypeId} {i:TypeInfo} (ht:P.underlying t=some (.slice e)) (hi:P.info? e=some i) (a:Option Addr) (n cap:Nat) (x:Value) (hx: ∃a c,x= .slice a 0 c) (hn:n≤cap):
  (Builtin.append_ #[t,t] ty #[.slice a n cap,x]).run P w= .ok (.slice a n cap) w:=by
 obtain ⟨a',c,rfl⟩:=hx;cases a' with
 | none=>cases a<;>simp[Builtin.append_,run_underlying ht,sizeOf,typeInfo,hi,Builtin.lenOf,Builtin.firstCells,hn,storeCells]
 | some a'=>cases a<;>simp[Builtin.append_,run_underlying ht,sizeOf,typeInfo,hi,Builtin.lenOf,Builtin.firstCells,hn,storeCells,loadCells,loadCellsFrom]
theorem IZ {e:TypeId} {es xs:List V} {n:Nat} {c:List Value} {news:List Value} (hn:es.length=n)
  (h1: ∀(i j:Nat) (x:V) (t':TypeId),es[i]? =some x→(aN P e)[j]? =some t'→j<P.cellsOf e→∃v,c[i*P.cellsOf e+j]? =some v∧Pure P w I t' v (bW P e x j))
  (h2: ∀(i j:Nat) (x:V) (t':TypeId),xs[i]? =some x→(aN P e)[j]? =some t'→j<P.cellsOf e→∃v,news[i*P.cellsOf e+j]? =some v∧Pure P w I t' v (bW P e x j))
  (hb:n*P.cellsOf e≤c.length) (rest:List Value):
  ∀(i j:Nat) (x:V) (t':TypeId),(es++xs)[i]? =some x→(aN P e)[j]? =some t'→j<P.cellsOf e→∃v,(c.take (n*P.cellsOf e)++news++rest)[i*P.cellsOf e+j]? =some v∧Pure P w I t' v (bW P e x j):=by
 intro i j x t' hx ht hj;have hl:(c.take (n*P.cellsOf e)).length=n*P.cellsOf e:=by simp;omega
 by_cases hi:i<n
 ·rw[mn (by omega)] at hx;obtain ⟨v,hv,hp⟩:=h1 i j x t' hx ht hj;have:i*P.cellsOf e+j<n*P.cellsOf e:=by
   have:(i+1)*P.cellsOf e≤n*P.cellsOf e:=dZ _ hi;grind
  grind
 ·rw[nR (by omega),hn] at hx;obtain ⟨v,hv,hp⟩:=h2 (i-n) j x t' hx ht hj;have tT:i-n<xs.length:=(cq.1 hx).1;have e1:i*P.cellsOf e+j-n*P.cellsOf e=(i-n)*P.cellsOf e+j:=by
   rw[Nat.sub_mul];have:n*P.cellsOf e≤i*P.cellsOf e:=dZ _ (by omega);omega
  have h3:(i-n)*P.cellsOf e+j<news.length:=(cq.1 hv).1;refine ⟨v,?_,hp⟩;have h4:n*P.cellsOf e≤i*P.cellsOf e+j:=by
   have:n*P.cellsOf e≤i*P.cellsOf e:=dZ _ (by omega);omega
  grind
theorem Pure.drew {t:TypeId} {v:Value} {x:V} (h:Pure P w I t v x):Pure P w.drew I t v x:=Pure.mono (w:=w) (w':=w.drew) (fun _ _ h=>h) (fun _ _ _=>rfl) h
theorem WB (w:World) (t ty e:TypeId) (i:TypeInfo) (z:Value) (ht:P.underlying t=some (.slice e)) (hi:P.info? e=some i) (hz:i.zero=some z)
  (a0:Option Addr) (a:Addr) (n c:Nat) (news:List Value) (hl:news.length=n*i.size) (sf: ∀j v,news[j]? =some v→w.cell? (a.add j)=some v)
  (h0:0<n) (Dc:(n:Int)≤9223372036854775807) (I4:n*i.bytes≤281474976710656):
  (Builtin.append_ #[t,t] ty #[.slice a0 0 0,.slice (some a) n c]).run P w=
   .ok (.slice (some ⟨w.heap.size,0,none⟩) n (grownCap w n 0 e)) (w.drew.alloc (.cells (news.toArray++Builtin.zeroCells z.cells (grownCap w n 0 e-n)) e)):=by
 cases a0 with
 | none=>exact run_append_nil w t ty e i z ht hi hz a n c news hl sf h0 Dc I4
 | some b=>
  have:=run_append_grow (P:=P) w t ty e i z ht hi hz b 0 0 [] (by simp) (by simp) a n c news hl sf (by omega) (by omega) (by rw[eQ,nextslicecap_zero h0];omega);grind
theorem OE (S:aA P w I β hp B M w0) {t ty e:TypeId} {nb:Nat} {fz:Bool} {x:Value} {xs:List V} (hu:P.underlying t=some (.slice e)) (ar:cR P e=true) (hn:hp nb=none)
  (dM:xs.length*P.bytesOf e≤bm) {a0:Option Addr} (hx:((∃a,x= .slice a 0 0)∧xs=[])∨∃a c news,Row P w I e x xs a c news):
  ∃v w' β',(Builtin.append_ #[t,t] ty #[.slice a0 0 0,x]).run P w= .ok v w'∧Le P w I β hp w' I β' (ao hp nb (some (.arr e xs fz)))∧aA P w' I β' (ao hp nb (some (.arr e xs fz))) B M w0∧
   ai P w' I β' (ao hp nb (some (.arr e xs fz))) v (.whole e nb):=by
 obtain ⟨i,z,hi,hz,h3,h4,_⟩:=jv ar;have tU:=w4 ar;have mC:P.bytesOf e=i.bytes:=by simp[Program.bytesOf,hi]
 have hlen:xs.length≤2^45:=by
  have:xs.length*1≤xs.length*P.bytesOf e:=vc _ tU;simp only[bm] at dM;omega
 have empty:xs=[]→(∃a c,x= .slice a 0 c)→∃v w' β',(Builtin.append_ #[t,t] ty #[.slice a0 0 0,x]).run P w= .ok v w'∧Le P w I β hp w' I β' (ao hp nb (some (.arr e xs fz)))∧aA P w' I β' (ao hp nb (some (.arr e xs fz))) B M w0∧
   ai P w' I β' (ao hp nb (some (.arr e xs fz))) v (.whole e nb):=by
  intro jw OF;subst jw;obtain ⟨a1,a2⟩:=CL S e hn;exact ⟨_,_,_,zP hu hi a0 0 0 x OF (az _),a1,a2,.dy (bD _ _ _) (bD _ _ _)⟩
 rcases hx with ⟨⟨_,rfl⟩,rfl⟩|⟨a,c,news,hr⟩
 ·simp_all
 ·by_cases h0:xs.length=0
  ·have jw:xs=[]:=nO h0;refine empty jw ⟨some a,c,?_⟩;rw[hr.val,h0]
  ·have cF:=WB (P:=P) w t ty e i z hu hi hz a0 a xs.length c news (by rw[hr.len,h3]) hr.cell (by omega) (by omega) (by rw[←mC];simp only[bm] at dM;omega);have pY:=grownCap_ge w xs.length 0 e;have qU:grownCap w xs.length 0 e≤maxLen:=grownCap_le_maxLen w xs.length 0 e (by simp only[maxLen];omega);obtain ⟨n1,n2,n3⟩:=zM S.drew (nb:=nb) (cap:=grownCap w xs.length 0 e) (es:=xs) (C0:=news.toArray++Builtin.zeroCells z.cells (grownCap w xs.length 0 e-xs.length)) ar hn
    (by simp only[HN,qv,size_zeroCells,h4,hr.len,←jJ];grind) pY qU
    (fun i' j y t' hy ht hj=>by
     obtain ⟨u,jV,hp⟩:=hr.el i' j y t' hy ht hj;have ba:=(cq.1 jV).1;refine ⟨u,?_,Pure.drew hp⟩;grind)
   rw[hr.val];exact ⟨_,_,_,cF,(Le.drew w I β hp).trans n1,n2,n3⟩
theorem WC {P:Program} (w:World) (t ty e T:TypeId) (i:TypeInfo) (ht:P.underlying t=some (.slice e)) (hi:P.info? e=some i)
  (g kY tW:Nat) (cur:Array Value) (hg:w.heap[g]? =some (.cells cur T (0,0)))
  (a:Addr) (m c:Nat) (news:List Value) (hl:news.length=m*i.size) (sf: ∀j u,news[j]? =some u→w.cell? (a.add j)=some u) (h1: ∀u∈news,u.oneCell'=true)
  (sg:kY+m≤tW) (zQ:kY*i.size+news.length≤cur.size):
  (Builtin.append_ #[t,t] ty #[.slice (some ⟨g,0,none⟩) kY tW,.slice (some a) m c]).run P w=
   .ok (.slice (some ⟨g,0,none⟩) (kY+m) tW) (w.setRow g (cur.toList.take (kY*i.size)++news++cur.toList.drop (kY*i.size+news.length)).toArray):=by
 have hf:=run_firstCells_some (P:=P) w i.size m a m c news hl sf;have eg:=run_storeCells_at P g (kY*i.size) T news 0 cur w hg (by omega) h1;simp only[Nat.add_zero] at eg;simp[Builtin.append_,run_underlying ht,sizeOf,typeInfo,hi,Builtin.lenOf,sg,hf,Addr.add_lit,eg]
theorem WD (S:aA P w I β hp B M w0) {t ty e:TypeId} {nb id:Nat} {s x:Value} {es xs:List V} {fz:Bool} (hu:P.underlying t=some (.slice e)) (ar:cR P e=true) (hs:ai P w I β hp s (.whole e id)) (ab:hp id=some (.arr e es fz)) (hn:hp nb=none)
  (dM:Nat.ble ((es.length+xs.length)*P.bytesOf e) bm=true) (lL:((∃a,x= .slice a 0 0)∧xs=[])∨∃a c news,Row P w I e x xs a c news):
  dd P ((Builtin.append_ #[t,t] ty #[s,x]).run P w) w I β hp B M w0 ⟨.whole e nb,[(nb,.arr e (es++xs) fz),(id,.dead)]⟩:=by
 rw[fe] at dM;have bK:nb≠id:=fun e=>by grind
 obtain ⟨k1,k2⟩:=vD S ab;have fX:ao hp id (some ag.dead) nb=none:=by rw[cp _ _ bK];exact hn
 cases hs with
 | dD hd=>grind
 | dp hd=>grind
 | dJ hd=>grind
 | ew hd=>grind
 | dy hd hb=>
  rw[ab] at hd;cases hd;simp only[List.length_nil,eQ] at dM;have af7:((∃a,x= .slice a 0 0)∧xs=[])∨∃a c news,Row P w I e x xs a c news:=lL;obtain ⟨v,w',β',a1,a2,a3,a4⟩:=OE (ty:=ty) k2 hu ar fX dM af7;exact ⟨v,w',I,β',a1,k1.trans a2,a3,a4⟩
 | @whole _ _ aL nZ b cap hd hb aU bO hm=>
  rw[ab] at hd;cases hd;have hr:=S.h.rel id _ ab;cases hr with
  | dU ay=>grind
  | @arr _ T _ _ b' Ca hL _ ay hh vL hf eJ vM=>
   rw[hb] at ay;cases ay;obtain ⟨i,z,hi,hz,h3,h4,_⟩:=jv ar;have tU:=w4 ar;have mC:P.bytesOf e=i.bytes:=by simp[Program.bytesOf,hi]
   have hlen:es.length+xs.length≤2^45:=by
    have:(es.length+xs.length)*1≤(es.length+xs.length)*P.bytesOf e:=vc _ tU;simp only[bm] at dM;omega
   rw[jS hh] at aU;have oW: ∀av blk',ao hp id (some ag.dead) av=some blk'→¬bc P w (β av) blk' b:=by
    intro av blk' h1 h2;by_cases lI:av=id
    ·subst lI;rw[bD] at h1;cases h1;exact h2.alive rfl
    ·rw[cp _ _ lI] at h1;exact lI (S.h.inj av id blk' _ b h1 ab h2 (.root (by simp) hb))
   have Dd:=S.h.vA id _ b ab (by simp) hb;have room: ∀(C':Array Value) (w':World) (ys:List V),w'.heap[b]? =some (.cells C' T (0,0))→C'.size=Ca.size→(∀b',b'≠b→w'.heap[b']? =w.heap[b']?)→w.heap.size≤w'.heap.size→(w'.os=w.os∧w'.output=w.output)→ys.length≤cap→es.length≤ys.length→(∀j,j<es.length*P.cellsOf e→C'[j]? =Ca[j]?)→
     (∀(i j:Nat) (y:V) (t':TypeId),ys[i]? =some y→(aN P e)[j]? =some t'→j<P.cellsOf e→∃v,C'[i*P.cellsOf e+j]? =some v∧Pure P w I t' v (bW P e y j))→
     Le P w I β hp w' I (ao β nb (some b)) (ao (ao hp id (some .dead)) nb (some (.arr e ys fz)))∧aA P w' I (ao β nb (some b)) (ao (ao hp id (some .dead)) nb (some (.arr e ys fz))) B M w0∧
     ai P w' I (ao β nb (some b)) (ao (ao hp id (some .dead)) nb (some (.arr e ys fz))) (.slice (some ⟨b,0,none⟩) ys.length cap) (.whole e nb):=by
    intro C' w' ys hC oh xn hwz af8 vK hey pZ hy;have hIn:=OA hf eJ;obtain ⟨a1,a2⟩:=zC k2 (blk:= .arr e ys fz) (w':=w') fX oW (Ws hh hC hIn pZ) (fun b' h _=>xn b' h) hwz af8 Dd
     (fun b' h=>(dA (h.flat (by simp))).symm) (fun hle=> .arr (oh▸hL) ar rfl hC (by rw[oh,←aU];exact dZ _ vK) (fun _ j h=>ll (hIn j h) (dZ _ hey)) eJ fun i j y t' a b c=>by
      obtain ⟨v,hv,hp⟩:=hy i j y t' a b c;exact ⟨v,hv,hp.mono hle.dV hle.cE⟩)
    refine ⟨k1.trans a1,a2,.whole (bD _ _ _) (bD _ _ _) ?_ vK hm⟩;rw[jS hC,oh,aU]
   have same:xs=[]→(∃a c,x= .slice a 0 c)→dd P ((Builtin.append_ #[t,t] ty #[.slice (some ⟨b,0,none⟩) es.length cap,x]).run P w) w I β hp B M w0 ⟨.whole e nb,[(nb,.arr e (es++xs) fz),(id,.dead)]⟩:=by
    intro jw OF;subst jw;rw[va];obtain ⟨a1,a2,a3⟩:=room Ca w es hh rfl (fun _ _=>rfl) (az _) ⟨rfl,rfl⟩ bO (az _) (fun _ _=>rfl) vM;exact ⟨_,_,_,_,zP hu hi _ _ _ x OF bO,a1,a2,a3⟩
   rcases lL with ⟨⟨_,rfl⟩,rfl⟩|⟨a,c,news,cX⟩
   ·grind
   ·have h1:=cX.one ar;have pV:es.length*P.cellsOf e≤Ca.toList.length:=by omega
    by_cases sg:es.length+xs.length≤cap
    ·have zQ:es.length*P.cellsOf e+news.length≤Ca.size:=by rw[cX.len,←jJ,←aU];exact dZ _ sg
     have cF:=WC (P:=P) w t ty e T i hu hi b es.length cap Ca hh a xs.length c news (by rw[cX.len,h3]) cX.cell h1 sg (by grind);rw[h3] at cF;have eB:=IZ (P:=P) (w:=w) (I:=I) (n:=es.length) (c:=Ca.toList) rfl (fun i j y t' a b c=>by
      grind) cX.el pV (Ca.toList.drop (es.length*P.cellsOf e+news.length))
     obtain ⟨a1,a2,a3⟩:=room (Ca.toList.take (es.length*P.cellsOf e)++news++Ca.toList.drop (es.length*P.cellsOf e+news.length)).toArray (w.setRow b _) (es++xs)
      (setRow_heap w b Ca _ T _ hh) (by simp;omega) (fun b' ay=>setRow_other w b b' _ ay) (by simp) ⟨rfl,rfl⟩ (by grind) (by simp) (fun j hj=>by
        grind)
      (fun i j y t' a b c=>by
       grind)
     rw[cX.val];rw[gD] at a3;exact ⟨_,_,_,_,cF,a1,a2,a3⟩
    ·have hold: ∀(j:Nat) v,(Ca.toList.take (es.length*P.cellsOf e))[j]? =some v→w.cell? ((⟨b,0,none⟩:Addr).add j)=some v:=by
      intro j v hj;have dj:=(cq.1 hj).1;have dg:j<es.length*P.cellsOf e:=by grind
      rw[gR dg] at hj;rw[mB,cell?_cells hh,eQ];grind
     have cF:=run_append_grow (P:=P) w t ty e i z hu hi hz ⟨b,0,none⟩ es.length cap (Ca.toList.take (es.length*P.cellsOf e)) (by grind) hold a xs.length c news (by rw[cX.len,h3]) cX.cell (by omega) (by omega)
      (growslice_fits (by omega) (by rw[←mC];simp only[bm] at dM;omega))
     have pY:=grownCap_ge w (es.length+xs.length) cap e;have qU:grownCap w (es.length+xs.length) cap e≤maxLen:=grownCap_le_maxLen w _ cap e (by simp only[maxLen];omega);have eB:=IZ (P:=P) (w:=w) (I:=I) (n:=es.length) (c:=Ca.toList) rfl (fun i j y t' a b c=>by
      grind) cX.el pV (Builtin.zeroCells z.cells (grownCap w (es.length+xs.length) cap e-(es.length+xs.length))).toList
     obtain ⟨n1,n2,n3⟩:=zM k2.drew (nb:=nb) (cap:=grownCap w (es.length+xs.length) cap e) (es:=es++xs)
      (C0:=(Ca.toList.take (es.length*P.cellsOf e)).toArray++news.toArray++Builtin.zeroCells z.cells (grownCap w (es.length+xs.length) cap e-(es.length+xs.length))) ar fX
      (by
       have e1:(Ca.toList.take (es.length*P.cellsOf e)).length=es.length*P.cellsOf e:=by simp;omega
       simp only[HN,qv,size_zeroCells,h4,cX.len,e1,←jJ];grind) (by grind) qU
      (fun i j y t' a b c=>by
       obtain ⟨v,hv,hp⟩:=eB i j y t' a b c;refine ⟨v,?_,Pure.drew hp⟩;grind)
     rw[cX.val];rw[gD] at n3;exact ⟨_,_,_,_,cF,(k1.trans (Le.drew w I β _)).trans n1,n2,n3⟩
theorem af9 (S:aA P w I β hp B M w0) {t ty e:TypeId} {nb:Nat} {s x:Value} {sv xv:V} {r:R} {rd:List Nat} (hu:P.underlying t=some (.slice e)) (hs:ai P w I β hp s sv) (hx:ai P w I β hp x xv)
  (h:(zl P nb e sv xv).run C hp=some (r,rd)):dd P ((Builtin.append_ #[t,t] ty #[s,x]).run P w) w I β hp B M w0 r:=by
 unfold zl at h;obtain ⟨ar,h⟩:=aE h;obtain ⟨xs,lL,l0,h⟩:=Db S.h.rel ar hx h;cases sv with
 | nilS e'=>
  obtain ⟨hc,h⟩:=aE h;simp only[aK,aO,fe] at hc;obtain ⟨hn,rfl⟩:=kX h;obtain ⟨a0,rfl⟩: ∃a0,s= .slice a0 0 0:=by cases hs;grind
  obtain ⟨v,w',β',a1,a2,a3,a4⟩:=OE (ty:=ty) S hu ar hn hc.2 lL;exact ⟨v,w',I,β',a1,a2,a3,a4⟩
 | whole e' id=>
  obtain ⟨l,h⟩:=run_get h;cases ab:hp id with
  | none=>rw[ab] at h;cases h
  | some blk=>
   rw[ab] at h;cases blk with
   | dead=>cases h
   | var _=>cases h
   | nest _ _ _=>cases h
   | map _ _=>cases h
   | out _ _ _ _=>cases h
   | arr dC es fz=>
    obtain ⟨hc,h⟩:=aE h;obtain ⟨hn,rfl⟩:=kX h;simp only[aK,aO,fe] at hc;obtain ⟨OG,OH,dM⟩:=hc;subst OG;subst OH;exact WD S hu ar hs ab hn (by simp_all) lL
 | _=>cases h
end
section
variable {P:Program} {w w':World} {I I':Nat→Nat→Prop} {β β':Nat→Option Nat} {hp hp':Nat→Option ag} {C:af} {B:Nat} {M:Nat→Prop} {w0:Start}
theorem run_copy_none (w:World) {dT sT ty elem:TypeId} {i:TypeInfo} (a0:Option Addr) (WE aga:Nat) (a1:Option Addr) (kY tW:Nat) (hu:P.underlying dT=some (.slice elem)) (hi:P.info? elem=some i) (h0:Nat.min kY WE=0):
  (Builtin.copy_ #[dT,sT] ty #[.slice a0 WE aga,.slice a1 kY tW]).run P w= .ok (goInt 0) w:=by
 cases a0<;>cases a1<;>simp[Builtin.copy_,run_underlying hu,Builtin.lenOf,Builtin.firstCells,sizeOf,typeInfo,hi,h0,storeCells,loadCells,loadCellsFrom]
theorem agb (S:aA P w I β hp B M w0) {t u ty e:TypeId} {s x:Value} {sv xv:V} {r:R} {rd:List Nat} (hu:P.underlying t=some (.slice e)) (hs:ai P w I β hp s sv) (hx:ai P w I β hp x xv)
  (h:(NF P e sv xv).run C hp=some (r,rd)):dd P ((Builtin.copy_ #[t,u] ty #[s,x]).run P w) w I β hp B M w0 r:=by
 unfold NF at h;obtain ⟨ar,h'⟩:=aE h;clear h;simp only[aK,aO] at ar;obtain ⟨ar,h1⟩:=ar;obtain ⟨xs,lL,l0,h⟩:=Db S.h.rel ar hx h';obtain ⟨i,z,hi,hz,aU,_⟩:=jv ar;cases sv<;>simp only at h<;>first|(cases h;done)|skip
 rename_i e' id;obtain ⟨l,h2⟩:=run_get h;clear h;cases ab:hp id with
 | none=>rw[ab] at h2;cases h2
 | some blk=>
  rw[ab] at h2;cases blk<;>simp only at h2<;>first|(cases h2;done)|skip
  rename_i e2 es fz;cases fz with
  | true=>cases h2
  | false=>
  obtain ⟨hc,h3⟩:=aE h2;simp only[aK,aO] at hc;obtain ⟨rfl,rfl⟩:=hc;obtain rfl:=aM h3;have sh:min xs.length es.length=0→(Builtin.copy_ #[t,u] ty #[s,x]).run P w= .ok (goInt 0) w→dd P ((Builtin.copy_ #[t,u] ty #[s,x]).run P w) w I β hp B M w0 ⟨.int .i64 (min xs.length es.length:Nat),[(id,.arr e (xs.take es.length++es.drop xs.length) false)]⟩:=by
   intro h0 hr;have he:xs.take es.length++es.drop xs.length=es:=by
    rcases Nat.le_total xs.length es.length with hl|hl
    ·have:xs=[]:=nO (by omega);simp[this]
    ·have:es=[]:=nO (by omega);simp[this]
   have gJ:b9 hp [(id,.arr e (xs.take es.length++es.drop xs.length) false)]=hp:=by
    rw[he];exact NO hp id _ ab
   refine ⟨goInt 0,w,I,β,hr,?_⟩;simp only[gJ,h0];exact ⟨Le.refl w I β hp,S,.int⟩
  cases hs with
  | dD hd=>rw[ab] at hd;cases hd
  | dp hd=>rw[ab] at hd;cases hd
  | dJ hd=>rw[ab] at hd;cases hd
  | ew hd=>rw[ab] at hd;cases hd
  | @dy _ _ fz a hd hb=>
   rw[ab] at hd;cases hd;refine sh (by simp) ?_;rcases lL with ⟨⟨a',rfl⟩,rfl⟩|⟨a',c,news,cX⟩
   ·exact run_copy_none w _ _ _ _ _ _ hu hi (by simp)
   ·rw[cX.val];exact run_copy_none w _ _ _ _ _ _ hu hi (by simp)
  | @whole _ _ aL nZ b cap hd hb zR bO hm=>
   have eT:=hd;rw[ab] at hd;cases hd;rcases lL with ⟨⟨a',rfl⟩,rfl⟩|⟨a',c,news,cX⟩
   ·exact sh (by simp) (run_copy_none w _ _ _ _ _ _ hu hi (by simp))
   have hr:=S.h.rel id _ ab;cases hr with
   | dU ay=>rw[ay] at hb;cases hb
   | @arr _ T0 _ _ b' Ca hL _ ay hh vL hf eJ vM=>
    rw[hb] at ay;cases ay;have p5:news.length=xs.length:=by rw[cX.len,h1,fW]
    rw[h1,fW] at vL;have mD:(news.take es.length).length=Nat.min xs.length es.length:=by
     rw[oM,p5,Nat.min_comm]
    have WG:Nat.min xs.length es.length=min xs.length es.length:=rfl;have cF:=run_copy_row (P:=P) w t u ty e b 0 es.length cap a' xs.length c Ca T0 (news.take es.length) hu (by rw[hi];simp[aU,h1]) hh mD
     (fun j v hj=>cX.cell j v (by
      have:=(cq.1 hj).1;rw[oM] at this;rwa [gR (by omega)] at hj)) (by rw[mD,WG];omega) (fun v hv=>cX.one ar v (HO hv))
    rw[cX.val];have hq:(goInt (news.take es.length).length)= .int .i64 ((min xs.length es.length:Nat):Int):=by rw[mD];rfl
    have mA:(xs.take es.length++es.drop xs.length).length=es.length:=by simp;omega
    have oh:(Ca.toList.take 0++news.take es.length++Ca.toList.drop (0+(news.take es.length).length)).toArray.size=Ca.size:=by
     simp only[qv,gD,List.length_drop,oM,mD,WG];simp;omega
    obtain ⟨a1,a2⟩:=IJ S (blk':= .arr e (xs.take es.length++es.drop xs.length) false) (Cb:=(Ca.toList.take 0++news.take es.length++Ca.toList.drop (0+(news.take es.length).length)).toArray) ab (by simp) ⟨rfl,mA.symm⟩ hb (eJ rfl) (by simp) hh oh
     (fun hle dm=> .arr (by rw[oh];exact hL) ar rfl dm (by rw[oh,mA,h1,fW];exact vL) (fun h=>by cases h) (fun _=>eJ rfl) fun i j y t' hy ht hj=>by
      rw[h1] at hj⊢;obtain rfl:j=0:=by omega
      rw[fW,Nat.add_zero];have ju:=(cq.1 hy).1;rw[mA] at ju;by_cases ni:i<xs.length
      ·rw[mn (by rw[oM];omega),gR ju] at hy;obtain ⟨u',k1,k2⟩:=cX.el i 0 y t' hy ht (by omega);rw[h1,fW,Nat.add_zero] at k1;refine ⟨u',?_,k2.mono hle.dV hle.cE⟩;simp only[List.take_zero,List.nil_append,nQ];rw[mn (by rw[oM];omega),gR ju];exact k1
      ·have e1:(xs.take es.length).length=xs.length:=by rw[oM];omega
       rw[nR (by omega),e1,pD,show xs.length+(i-xs.length)=i by omega] at hy;obtain ⟨u',k1,k2⟩:=vM i 0 y t' hy ht (by omega);rw[h1,fW,Nat.add_zero] at k1;refine ⟨u',?_,k2.mono hle.dV hle.cE⟩;simp only[List.take_zero,List.nil_append,nQ,eQ];have e2:(news.take es.length).length=xs.length:=by rw[oM];omega
       rw[nR (by omega),e2,pD,show xs.length+(i-xs.length)=i by omega];simpa using k1)
    exact ⟨_,_,_,_,cF,a1,a2,by rw[hq];exact .int⟩
theorem agc (S:aA P w I β hp B M w0) {t ty e:TypeId} {x:Value} {xv:V} {r:R} {rd:List Nat} (hu:P.underlying t=some (.slice e)) (hx:ai P w I β hp x xv)
  (h:(ND P e xv).run C hp=some (r,rd)):dd P ((Builtin.clear_ #[t] ty #[x]).run P w) w I β hp B M w0 r:=by
 unfold ND at h;obtain ⟨eB,h'⟩:=aE h;clear h;have ar:cR P e=true:=by
  unfold nU at eB;simp only[aK] at eB;exact eB.1
 obtain ⟨i,z,hi,hz,aU,De,hzp⟩:=C9 (w:=w) (I:=I) eB;have gL:=(na ar).2;cases xv<;>simp only at h'<;>first|(cases h';done)|skip
 rename_i e' id off len;obtain ⟨l,h2⟩:=run_get h';clear h';cases ab:hp id with
 | none=>rw[ab] at h2;cases h2
 | some blk=>
  rw[ab] at h2;cases blk<;>simp only at h2<;>first|(cases h2;done)|skip
  rename_i e2 es fz;cases fz with
  | true=>cases h2
  | false=>
  obtain ⟨hc,h3⟩:=aE h2;simp only[aK,aO] at hc;obtain ⟨rfl,rfl⟩:=hc;obtain rfl:=aM h3;have sh:len=0→(Builtin.clear_ #[t] ty #[x]).run P w= .ok (.tuple #[]) w→dd P ((Builtin.clear_ #[t] ty #[x]).run P w) w I β hp B M w0 ⟨.aW [],[(id,.arr e (es.take off++(List.replicate len (di P e (gE P e))++es.drop (off+len))) false)]⟩:=by
   intro h0 hr;subst h0;have gJ:b9 hp [(id,.arr e (es.take off++(List.replicate 0 (di P e (gE P e))++es.drop (off+0))) false)]=hp:=by
    simp only[List.replicate_zero,List.nil_append,Nat.add_zero,List.take_append_drop];exact NO hp id _ ab
   refine ⟨.tuple #[],w,I,β,hr,?_⟩;simp only[gJ];exact ⟨Le.refl w I β hp,S,.aW rfl fun j v x hj hx=>by simp at hx⟩
  cases hx with
  | ia hd=>rw[ab] at hd;cases hd
  | @gy _ _ _ a0 hd hb=>exact sh rfl (by cases a0<;>simp[Builtin.clear_,run_underlying hu])
  | @sub _ _ _ _ aL nZ b o cap hd hb kS bO ho=>
   by_cases hlen:len=0
   ·refine sh hlen ?_;subst hlen;simp[Builtin.clear_,run_underlying hu]
   have agd:0<len:=by omega
   have eT:=hd;rw[ab] at hd;cases hd;have hr:=S.h.rel id _ ab;cases hr with
   | dU ay=>rw[ay] at hb;cases hb
   | @arr _ T0 _ _ b' Ca hL _ ay hh vL hf eJ vM=>
    rw[hb] at ay;cases ay;have ho:=ho agd;subst ho;have xm:(Builtin.zeroCells z.cells len).toList.length=len*P.cellsOf e:=by rw[Array.length_toList,size_zeroCells,De]
    have hmul:off*P.cellsOf e+len*P.cellsOf e≤es.length*P.cellsOf e:=by rw[←jJ];exact dZ _ kS
    have qR: ∀v∈(Builtin.zeroCells z.cells len).toList,v.oneCell'=true:=by
     intro v hv;obtain ⟨k,hk⟩:=rJ hv;have se:=(cq.1 hk).1;rw[xm] at se;have hzg:(Builtin.zeroCells z.cells len)[k]? =z.cells[k %z.cells.size]? :=Ww (z:=z.cells) (n:=len*z.cells.size) (by rw[De];exact se) (by rw[De];exact gL);rw[pE,hzg] at hk;have hm:k %z.cells.size<P.cellsOf e:=by rw[De];exact wJ _ gL
     have htl:k %z.cells.size<(aN P e).length:=by rw[ey ar];exact hm
     obtain ⟨v',C8,hp'⟩:=hzp (k %z.cells.size) _ (bR htl) hm;rw[hk] at C8;cases C8;exact hp'.1.one
    have eg:=run_storeCells_at P b (off*P.cellsOf e) T0 (Builtin.zeroCells z.cells len).toList 0 Ca w hh (by rw[xm];omega) qR;simp only[Nat.add_zero] at eg;have cF:(Builtin.clear_ #[t] ty #[.slice (some ⟨b,off*P.cellsOf e,none⟩) len cap]).run P w= .ok (.tuple #[]) (w.setRow b (Ca.toList.take (off*P.cellsOf e)++(Builtin.zeroCells z.cells len).toList++Ca.toList.drop (off*P.cellsOf e+(Builtin.zeroCells z.cells len).toList.length)).toArray):=by
     obtain ⟨n,rfl⟩: ∃n,len=n+1:=⟨len-1,by omega⟩
     simp[Builtin.clear_,run_underlying hu,zeroValue,typeInfo,hi,hz,eg]
    have mA:(es.take off++(List.replicate len (di P e (gE P e))++es.drop (off+len))).length=es.length:=by simp;omega
    have oh:(Ca.toList.take (off*P.cellsOf e)++(Builtin.zeroCells z.cells len).toList++Ca.toList.drop (off*P.cellsOf e+(Builtin.zeroCells z.cells len).toList.length)).toArray.size=Ca.size:=by
     simp only[qv,gD,List.length_drop,oM,xm,Array.length_toList];omega
    obtain ⟨a1,a2⟩:=IJ S (blk':= .arr e (es.take off++(List.replicate len (di P e (gE P e))++es.drop (off+len))) false) ab (by simp) ⟨rfl,mA.symm⟩ hb (eJ rfl) (by simp) hh oh
     (fun hle dm=> .arr (by rw[oh];exact hL) ar rfl dm (by rw[oh,mA];exact vL) (fun h=>by cases h) (fun _=>eJ rfl) fun i' j y t' hy ht hj=>by
      have nj:=pU es (List.replicate len (di P e (gE P e))) off i' (by simp;omega);rw[y8] at nj;rw[nj] at hy;have hC:(Ca.toList.take (off*P.cellsOf e)++(Builtin.zeroCells z.cells len).toList++Ca.toList.drop (off*P.cellsOf e+(Builtin.zeroCells z.cells len).toList.length)).toArray[i'*P.cellsOf e+j]? =
        if i'*P.cellsOf e+j<off*P.cellsOf e then Ca.toList[i'*P.cellsOf e+j]? else if i'*P.cellsOf e+j<off*P.cellsOf e+len*P.cellsOf e then (Builtin.zeroCells z.cells len).toList[i'*P.cellsOf e+j-off*P.cellsOf e]? else Ca.toList[i'*P.cellsOf e+j]? :=by
       have:=pU Ca.toList (Builtin.zeroCells z.cells len).toList (off*P.cellsOf e) (i'*P.cellsOf e+j) (by rw[xm,Array.length_toList];omega);rw[nQ,jK,this,xm]
      by_cases zS:i'<off
      ·rw[ak zS] at hy;have:(i'+1)*P.cellsOf e≤off*P.cellsOf e:=dZ _ zS;rw[jJ] at this;rw[bt] at hC;obtain ⟨u,k1,k2⟩:=vM i' j y t' hy ht hj;exact ⟨u,hC.trans (by simpa using k1),k2.mono hle.dV hle.cE⟩
      ·rw[aj zS] at hy;have h1:off*P.cellsOf e≤i'*P.cellsOf e:=dZ _ (by omega);rw[bN] at hC;by_cases tT:i'<off+len
       ·rw[ak tT] at hy;have:(i'+1)*P.cellsOf e≤(off+len)*P.cellsOf e:=dZ _ tT;rw[jJ,jJ] at this;rw[bt] at hC;obtain ⟨v,k1,k2⟩:=OB (w:=w) (I:=I) eB hi hz len len (az _) (i'-off) j y t' hy ht hj;refine ⟨v,hC.trans ?_,k2.mono hle.dV hle.cE⟩;rw[show i'*P.cellsOf e+j-off*P.cellsOf e=(i'-off)*P.cellsOf e+j by rw[Nat.sub_mul];omega,pE];unfold Builtin.zeroCells;rw[De] at k1⊢;exact k1
       ·rw[aj tT] at hy;have:(off+len)*P.cellsOf e≤i'*P.cellsOf e:=dZ _ (by omega);rw[jJ] at this;rw[bN] at hC;obtain ⟨u,k1,k2⟩:=vM i' j y t' hy ht hj;exact ⟨u,hC.trans (by simpa using k1),k2.mono hle.dV hle.cE⟩)
    exact ⟨_,_,_,_,cF,a1,a2,.aW rfl fun j v x hj hx=>by simp at hx⟩
end
section
variable {P:Program} {w w':World} {I I':Nat→Nat→Prop} {β β':Nat→Option Nat} {hp hp':Nat→Option ag} {C:af} {B:Nat} {M:Nat→Prop} {w0:Start}
theorem Dg (S:aA P w I β hp B M w0) {nb b:Nat} {e e1:TypeId} {ys:List V} {C':Array Value} (hr:rowOf P e=some e1) (hn:hp nb=none)
  {T:TypeId} (tP:w'.heap[b]? =some (.cells C' T (0,0))) (hlen:ys.length≤C'.size)
  (hw: ∀b',b'≠b→b'<w.heap.size→w'.heap[b']? =w.heap[b']?) (aU:w.heap.size≤w'.heap.size) (lE:w'.os=w.os∧w'.output=w.output) (hb:M b∨B≤b)
  (oW: ∀av blk',hp av=some blk'→¬bc P w (β av) blk' b) (c6: ∀j,¬I b j) (K:Nat→Nat→List V→Prop)
  (fC: ∀(i:Nat) x,ys[i]? =some x→∃l v,x= .list e1 l∧C'[i]? =some v∧xi P w e1 (K i) v l)
  (hK: ∀i b1 l,K i b1 l→b1≠b∧b1<w.heap.size∧gh P w I b1 e1 l∧(M b1∨B≤b1)∧∀id blk,hp id=some blk→¬bc P w (β id) blk b1)
  (rY: ∀i j b1 l m,K i b1 l→K j b1 m→i=j):
  Le P w I β hp w' I (ao β nb (some b)) (ao hp nb (some (.nest e ys [0,0,0])))∧aA P w' I (ao β nb (some b)) (ao hp nb (some (.nest e ys [0,0,0]))) B M w0:=by
 obtain ⟨p1,p2⟩:=V6 (w:=w) (I:=I) (vers:=[0,0,0]) hr tP hlen c6 K fC (fun i b1 l h=>⟨(hK i b1 l h).1,hw _ (hK i b1 l h).1 (hK i b1 l h).2.1,(hK i b1 l h).2.2.1⟩) rY;refine VJ S hn oW (fun j h=>absurd h (c6 j)) hw aU lE hb (fun b' ho=> ?_) (fun hle=>p2 hle.cE);rcases p1 b' ho with h|⟨i,l,h⟩
 ·exact .inl h
 ·exact .inr ⟨(hK _ _ _ h).2.2.2.1,(hK _ _ _ h).2.2.2.2⟩
theorem age (S:aA P w I β hp B M w0) {t ty e:TypeId} {nb:Nat} {s x:Value} {sv xv:V} {r:R} {rd:List Nat} (hu:P.underlying t=some (.slice e)) (hs:ai P w I β hp s sv) (hx:ai P w I β hp x xv)
  (h:(NC P nb e sv xv).run C hp=some (r,rd)):dd P ((Builtin.append_ #[t,t] ty #[s,x]).run P w) w I β hp B M w0 r:=by
 unfold NC at h;obtain ⟨hro,ha⟩:=aE h;clear h;obtain ⟨e1,hr⟩:=y9.1 hro;obtain ⟨OI,cB,ar,ng,fP⟩:=vJ hr;have jt:aN P e=[e]:=by simp[aN,cB]
 have hk:P.cellsOf e=1:=by rw[←ey ar,jt];rfl
 obtain ⟨i,z,hi,hz,h3,h4,_⟩:=jv ar;have tU:=w4 ar;have mC:P.bytesOf e=i.bytes:=by simp[Program.bytesOf,hi]
 rw[hk] at h3 h4;cases sv with
 | whole e' id=>
  obtain ⟨l0,hb⟩:=run_get ha;clear ha;cases ab:hp id with
  | none=>rw[ab] at hb;cases hb
  | some blk=>
   rw[ab] at hb;cases blk with
   | nest dC es vers=>
    obtain ⟨hc,hd⟩:=aE hb;clear hb;simp only[aK,aO] at hc;obtain ⟨rfl,rfl⟩:=hc;cases xv with
    | nilS e3=>
     obtain ⟨_,he⟩:=aE hd;cases he;obtain ⟨a0,rfl⟩: ∃a0,x= .slice a0 0 0:=by cases hx;exact ⟨_,rfl⟩
     cases hs with
     | dD hd=>rw[ab] at hd;cases hd
     | dy hd=>rw[ab] at hd;cases hd
     | whole hd=>rw[ab] at hd;cases hd
     | ew hd=>rw[ab] at hd;cases hd
     | dJ hd hb=>exact ⟨_,_,_,_,zP hu hi _ 0 0 _ ⟨_,_,rfl⟩ (az _),Le.refl ..,S,.dJ hd hb⟩
     | dp hd hb aU bO hm=>
      rw[ab] at hd;cases hd;exact ⟨_,_,_,_,zP hu hi _ _ _ _ ⟨_,_,rfl⟩ bO,Le.refl ..,S,.dp ab hb aU bO hm⟩
    | list e3 l=>
     obtain ⟨fo,he⟩:=aE hd;simp only[aK,aO] at fo;obtain ⟨rfl,kU⟩:=fo;have kU:=u5.1 kU;subst kU;cases he;obtain ⟨a0,c0,rfl⟩: ∃a0 c0,x= .slice a0 0 c0:=by
      cases hx with
      | list hp'=>cases hp' with
       | nil=>exact ⟨_,_,rfl⟩
       | emp=>exact ⟨_,_,rfl⟩
       | list g b c d e=>exact ⟨_,_,by rw[←b];rfl⟩
     cases hs with
     | dD hd=>rw[ab] at hd;cases hd
     | dy hd=>rw[ab] at hd;cases hd
     | whole hd=>rw[ab] at hd;cases hd
     | ew hd=>rw[ab] at hd;cases hd
     | dJ hd hb=>exact ⟨_,_,_,_,zP hu hi _ 0 0 _ ⟨_,_,rfl⟩ (az _),Le.refl ..,S,.dJ hd hb⟩
     | dp hd hb aU bO hm=>
      rw[ab] at hd;cases hd;exact ⟨_,_,_,_,zP hu hi _ _ _ _ ⟨_,_,rfl⟩ bO,Le.refl ..,S,.dp ab hb aU bO hm⟩
    | whole e3 bj=>
     obtain ⟨l1,he⟩:=run_get hd;clear hd;cases c7:hp bj with
     | none=>rw[c7] at he;cases he
     | some ct=>
      rw[c7] at he;cases ct with
      | nest e4 xs oc=>
       obtain ⟨hc,hf⟩:=aE he;clear he;simp only[aK,aO,fe,mY,nP] at hc;obtain ⟨rfl,rfl,WH,gL,dM⟩:=hc;have bK:id≠bj:=fun h=>by rw[h,ml] at WH;cases WH
       obtain ⟨hn,rfl⟩:=kX hf;have hlen:es.length+xs.length≤2^45:=by
        have:(es.length+xs.length)*1≤(es.length+xs.length)*P.bytesOf e:=vc _ tU;simp only[bm] at dM;omega
       obtain ⟨b2,Dh,fD,rfl⟩: ∃b2 Dh,β bj=some b2∧x= .slice (some ⟨b2,0,none⟩) xs.length Dh:=by
        cases hx with
        | dD hd=>rw[c7] at hd;cases hd
        | dy hd=>rw[c7] at hd;cases hd
        | whole hd=>rw[c7] at hd;cases hd
        | ew hd=>rw[c7] at hd;cases hd
        | dJ hd hb=>rw[c7] at hd;cases hd;simp at gL
        | dp hd hb aU bO hm=>rw[c7] at hd;cases hd;exact ⟨_,_,hb,rfl⟩
       obtain ⟨C2,_,g1,g2,g3,g4,g5,g6⟩:=Oy S hr c7 fD;have sf: ∀(j:Nat) v,(C2.toList.take xs.length)[j]? =some v→w.cell? ((⟨b2,0,none⟩:Addr).add j)=some v:=by
        intro j v hj;have dj:=(cq.1 hj).1;rw[oM] at dj;rw[gR (by omega)] at hj;rw[mB,cell?_cells g1,eQ];simpa using hj
       have p5:(C2.toList.take xs.length).length=xs.length:=by simp;omega
       have qR: ∀u∈C2.toList.take xs.length,u.oneCell'=true:=by
        intro u hm;obtain ⟨j,hj⟩:=rJ hm;have dj:=(cq.1 hj).1;rw[p5] at dj;rw[gR dj] at hj;obtain ⟨l,v,_,hv,hh⟩:=g4 j xs[j] (bR dj);have:v=u:=by rw[pE,hv] at hj;exact dA hj
        subst this;rcases hh with ⟨_,a,rfl⟩|⟨b1,cap,_,rfl,_⟩<;>rfl
       obtain ⟨k1,S1⟩:=vD S ab;have agf:ao hp id (some ag.dead) bj=some (.nest e xs oc):=by rw[cp _ _ (Ne.symm bK)];exact c7
       obtain ⟨k2,S2⟩:=vD S1 agf;have si:nb≠id:=fun e=>by rw[e,ab] at hn;cases hn
       have agh:nb≠bj:=fun e=>by rw[e,c7] at hn;cases hn
       have p6:ao (ao hp id (some ag.dead)) bj (some ag.dead) nb=none:=by rw[cp _ _ agh,cp _ _ si];exact hn
       have live: ∀{av blk'},ao (ao hp id (some ag.dead)) bj (some ag.dead) av=some blk'→blk'≠ .dead→hp av=some blk'∧av≠id∧av≠bj:=by
        intro av blk' h hd;by_cases q1:av=bj
        ·subst q1;rw[bD] at h;cases h;exact absurd rfl hd
        ·rw[cp _ _ q1] at h;by_cases q2:av=id
         ·subst q2;rw[bD] at h;cases h;exact absurd rfl hd
         ·rw[cp _ _ q2] at h;exact ⟨h,q2,q1⟩
       have OJ: ∀{idx bx:Nat} {bl},(idx=id∨idx=bj)→hp idx=some bl→bc P w (β idx) bl bx→∀av blk',ao (ao hp id (some ag.dead)) bj (some ag.dead) av=some blk'→¬bc P w (β av) blk' bx:=by
        intro idx bx bl hor mE ho av blk' h hO;obtain ⟨q1,q2,q3⟩:=live h hO.alive;have:=S.h.inj av idx _ _ bx q1 mE hO ho;rcases hor with rfl|rfl
        ·exact q2 this
        ·exact q3 this
       have tX:b9 hp [(nb,.nest e (es++xs) [0,0,0]),(id,.dead),(bj,.dead)]=ao (ao (ao hp id (some ag.dead)) bj (some ag.dead)) nb (some (.nest e (es++xs) [0,0,0])):=by
        funext k;simp only[b9];by_cases q0:k=nb
        ·subst q0;rw[bD,bD]
        ·by_cases q1:k=id
         ·subst q1;rw[cp _ _ q0,bD,cp _ _ q0,cp _ _ bK,bD]
         ·by_cases q2:k=bj
          ·subst q2;rw[cp _ _ q0,cp _ _ q1,bD,cp _ _ q0,bD]
          ·rw[cp _ _ q0,cp _ _ q1,cp _ _ q2,cp _ _ q0,cp _ _ q2,cp _ _ q1]
       have js:bc P w (β bj) (.nest e xs oc) b2:= .root (by simp) fD;have lit: ∀i b1 l,At P w b2 e xs [(i,0)] b1 e1 l→b1<w.heap.size∧gh P w I b1 e1 l∧(M b1∨B≤b1)∧∀av blk',ao (ao hp id (some ag.dead)) bj (some ag.dead) av=some blk'→¬bc P w (β av) blk' b1:=fun i b1 l ha=>by
        obtain ⟨_,q2,q3,q4,q5⟩:=g5 i b1 l ha;exact ⟨q2,q3,q4,OJ (.inr rfl) c7 q5⟩
       cases hs with
       | dD hd=>rw[ab] at hd;cases hd
       | dy hd=>rw[ab] at hd;cases hd
       | whole hd=>rw[ab] at hd;cases hd
       | ew hd=>rw[ab] at hd;cases hd
       | @dJ _ _ _ a0 hd hb=>
        rw[ab] at hd;cases hd;simp only[List.length_nil,eQ] at dM hlen;have cF:=WB (P:=P) w t ty e i z hu hi hz a0 ⟨b2,0,none⟩ xs.length Dh (C2.toList.take xs.length) (by rw[p5,h3,fW]) sf (by omega) (by omega) (by rw[←mC];simp only[bm] at dM;omega);have pY:=grownCap_ge w xs.length 0 e;have qU:grownCap w xs.length 0 e≤maxLen:=grownCap_le_maxLen w xs.length 0 e (by simp only[maxLen];omega);have dm:(w.drew.alloc (.cells ((C2.toList.take xs.length).toArray++Builtin.zeroCells z.cells (grownCap w xs.length 0 e-xs.length)) e)).heap[w.heap.size]? =some (.cells ((C2.toList.take xs.length).toArray++Builtin.zeroCells z.cells (grownCap w xs.length 0 e-xs.length)) e):=heap_alloc_new w.drew (.cells ((C2.toList.take xs.length).toArray++Builtin.zeroCells z.cells (grownCap w xs.length 0 e-xs.length)) e);have zN:=S2.h.iB;obtain ⟨a1,a2⟩:=Dg (w':=w.drew.alloc (.cells ((C2.toList.take xs.length).toArray++Builtin.zeroCells z.cells (grownCap w xs.length 0 e-xs.length)) e)) S2 (nb:=nb) (b:=w.heap.size) (ys:=xs) hr p6 dm (by simp;omega)
         (fun b' _ ba=>heap_alloc_old w.drew _ b' ba) (by simp) ⟨rfl,rfl⟩ (.inr S.size) (fun av blk' h ho=>mj _ (S2.h.lt h ho)) (fun j hj=>mj _ (zN _ j hj))
         (fun i b1 l=>At P w b2 e xs [(i,0)] b1 e1 l) (fun j y hy=>by
          obtain ⟨l,v,q1,q2,q3⟩:=g4 j y hy;have dj:=(cq.1 hy).1;refine ⟨l,v,q1,?_,q3⟩;rw[HP (by simpa using by omega)];simp[dj,q2])
         (fun j b1 l ha=>⟨B4 (lit j b1 l ha).1,lit j b1 l ha⟩) g6
        refine ⟨_,_,I,ao β nb (some w.heap.size),cF,?_⟩;rw[tX,List.nil_append];refine ⟨(k1.trans k2).trans a1,a2,?_⟩;exact .dp (bD _ _ _) (bD _ _ _) (by rw[jS dm,hk,fW];simp[size_zeroCells,h4];omega) pY qU
       | @dp _ _ _ _ b cap hd hb aU bO hm=>
        rw[ab] at hd;cases hd;obtain ⟨Ca,Tq,f1,f2,f3,f4,f5,f6⟩:=Oy S hr ab hb;rw[jS f1,hk,fW] at aU;have mE:bc P w (β id) (.nest e es vers) b:= .root (by simp) hb;have Dd:=S.h.own id _ b ab mE;have ep: ∀i b1 l,At P w b e es [(i,0)] b1 e1 l→b1≠b∧b1<w.heap.size∧gh P w I b1 e1 l∧(M b1∨B≤b1)∧∀av blk',ao (ao hp id (some ag.dead)) bj (some ag.dead) av=some blk'→¬bc P w (β av) blk' b1:=fun i b1 l ha=>by
         obtain ⟨q1,q2,q3,q4,q5⟩:=f5 i b1 l ha;exact ⟨q1,q2,q3,q4,OJ (.inl rfl) ab q5⟩
        have agi: ∀i b1 l,At P w b2 e xs [(i,0)] b1 e1 l→b1≠b:=fun i b1 l ha h=>by
         subst h;exact bK (S.h.inj id bj _ _ _ ab c7 mE (g5 i _ l ha).2.2.2.2)
        have Kc: ∀i j b1 l m,At P w b e es [(i,0)] b1 e1 l→At P w b2 e xs [(j,0)] b1 e1 m→False:=fun i j b1 l m h1 h2=>bK (S.h.inj id bj _ _ b1 ab c7 (f5 i b1 l h1).2.2.2.2 (g5 j b1 m h2).2.2.2.2)
        let K:Nat→Nat→List V→Prop:=fun i b1 l=>(i<es.length∧At P w b e es [(i,0)] b1 e1 l)∨(es.length≤i∧At P w b2 e xs [(i-es.length,0)] b1 e1 l)
        have rY: ∀i j b1 l m,K i b1 l→K j b1 m→i=j:=by
         intro i j b1 l m h1 h2;rcases h1 with ⟨_,h1⟩|⟨p1,h1⟩
         ·rcases h2 with ⟨_,h2⟩|⟨_,h2⟩
          ·exact f6 _ _ _ _ _ h1 h2
          ·exact (Kc _ _ _ _ _ h1 h2).elim
         ·rcases h2 with ⟨_,h2⟩|⟨p2,h2⟩
          ·exact (Kc _ _ _ _ _ h2 h1).elim
          ·have:=g6 _ _ _ _ _ h1 h2;omega
        have fill: ∀(C':Array Value),(∀j,j<es.length→C'[j]? =Ca[j]?)→(∀j,j<xs.length→C'[es.length+j]? =C2[j]?)→∀(j:Nat) y,(es++xs)[j]? =some y→∃l v,y= .list e1 l∧C'[j]? =some v∧xi P w e1 (K j) v l:=by
         intro C' p1 p2 j y hy;by_cases hj:j<es.length
         ·rw[mn hj] at hy;obtain ⟨l,v,q1,q2,q3⟩:=f4 j y hy;refine ⟨l,v,q1,(p1 j hj).trans q2,?_⟩;rcases q3 with q3|⟨z1,b1,OK,z2,z3,z4,z5,z6⟩
          ·exact .inl q3
          ·exact .inr ⟨z1,b1,OK,z2,z3,z4,z5,.inl ⟨hj,z6⟩⟩
         ·rw[nR (by omega)] at hy;obtain ⟨l,v,q1,q2,q3⟩:=g4 _ y hy;have dj:=(cq.1 hy).1;refine ⟨l,v,q1,?_,?_⟩
          ·have:=p2 (j-es.length) dj;rw[show es.length+(j-es.length)=j by omega] at this;exact this.trans q2
          ·rcases q3 with q3|⟨z1,b1,OK,z2,z3,z4,z5,z6⟩
           ·exact .inl q3
           ·exact .inr ⟨z1,b1,OK,z2,z3,z4,z5,.inr ⟨by omega,z6⟩⟩
        by_cases sg:es.length+xs.length≤cap
        ·have zQ:es.length+(C2.toList.take xs.length).length≤Ca.size:=by rw[p5];omega
         have cF:=WC (P:=P) w t ty e Tq i hu hi b es.length cap Ca f1 ⟨b2,0,none⟩ xs.length Dh (C2.toList.take xs.length) (by rw[p5,h3,fW]) sf qR sg (by rw[h3,fW];exact zQ);rw[h3,fW,p5] at cF;have dm:=setRow_heap w b Ca (Ca.toList.take es.length++C2.toList.take xs.length++Ca.toList.drop (es.length+xs.length)).toArray Tq _ f1;obtain ⟨a1,a2⟩:=Dg (w':=w.setRow b (Ca.toList.take es.length++C2.toList.take xs.length++Ca.toList.drop (es.length+xs.length)).toArray) S2 (nb:=nb) (b:=b) (ys:=es++xs) hr p6 dm (by simp;omega)
          (fun b' ay _=>setRow_other w b b' _ ay) (by simp) ⟨rfl,rfl⟩ Dd (OJ (.inl rfl) ab mE) f3 K
          (fill _ (fun j hj=>by
           rw[nQ,jK,mn (by simp;omega),gR hj,pE]) (fun j hj=>by
           rw[nQ,jK,nR (by simp;omega),mn (by simp;omega),oM,Array.length_toList (xs:=Ca),Nat.min_eq_left (by omega),HQ,gR hj,pE]))
          (fun j b1 l hj=>by
           rcases hj with ⟨_,hj⟩|⟨_,hj⟩
           ·exact ep _ _ _ hj
           ·exact ⟨agi _ _ _ hj,lit _ _ _ hj⟩) rY
         refine ⟨_,_,I,ao β nb (some b),cF,?_⟩;rw[tX];refine ⟨(k1.trans k2).trans a1,a2,?_⟩;have:=ai.dp (P:=P) (w:=w.setRow b (Ca.toList.take es.length++C2.toList.take xs.length++Ca.toList.drop (es.length+xs.length)).toArray) (I:=I) (β:=ao β nb (some b)) (hp:=ao (ao (ao hp id (some ag.dead)) bj (some ag.dead)) nb (some (.nest e (es++xs) [0,0,0]))) (b:=b) (cap:=cap) (bD _ _ _) (bD _ _ _) (by rw[jS dm,hk,fW];simp;omega) (by rw[gD];exact sg) hm;rw[gD] at this;exact this
        ·have hold: ∀(j:Nat) v,(Ca.toList.take es.length)[j]? =some v→w.cell? ((⟨b,0,none⟩:Addr).add j)=some v:=by
          intro j v hj;have dj:=(cq.1 hj).1;rw[oM] at dj;rw[gR (by omega)] at hj;rw[mB,cell?_cells f1,eQ];simpa using hj
         have cF:=run_append_grow (P:=P) w t ty e i z hu hi hz ⟨b,0,none⟩ es.length cap (Ca.toList.take es.length) (by rw[h3,fW];simp;omega) hold ⟨b2,0,none⟩ xs.length Dh (C2.toList.take xs.length) (by rw[p5,h3,fW]) sf (by omega) (by omega)
          (growslice_fits (by omega) (by rw[←mC];simp only[bm] at dM;omega))
         have pY:=grownCap_ge w (es.length+xs.length) cap e;have qU:grownCap w (es.length+xs.length) cap e≤maxLen:=grownCap_le_maxLen w _ cap e (by simp only[maxLen];omega);have dm:(w.drew.alloc (.cells ((Ca.toList.take es.length).toArray++(C2.toList.take xs.length).toArray++Builtin.zeroCells z.cells (grownCap w (es.length+xs.length) cap e-(es.length+xs.length))) e)).heap[w.heap.size]? =some (.cells ((Ca.toList.take es.length).toArray++(C2.toList.take xs.length).toArray++Builtin.zeroCells z.cells (grownCap w (es.length+xs.length) cap e-(es.length+xs.length))) e):=heap_alloc_new w.drew (.cells ((Ca.toList.take es.length).toArray++(C2.toList.take xs.length).toArray++Builtin.zeroCells z.cells (grownCap w (es.length+xs.length) cap e-(es.length+xs.length))) e);have zN:=S2.h.iB;obtain ⟨a1,a2⟩:=Dg (w':=w.drew.alloc (.cells ((Ca.toList.take es.length).toArray++(C2.toList.take xs.length).toArray++Builtin.zeroCells z.cells (grownCap w (es.length+xs.length) cap e-(es.length+xs.length))) e)) S2 (nb:=nb) (b:=w.heap.size) (ys:=es++xs) hr p6 dm (by simp;omega)
          (fun b' _ ba=>heap_alloc_old w.drew _ b' ba) (by simp) ⟨rfl,rfl⟩ (.inr S.size) (fun av blk' h ho=>mj _ (S2.h.lt h ho)) (fun j hj=>mj _ (zN _ j hj)) K
          (fill _ (fun j hj=>by
           rw[HP (by simp;omega),HP (by simp;omega),nQ,gR hj,pE]) (fun j hj=>by
           rw[HP (by simp;omega),Array.getElem?_append_right (by simp;omega)];simp only[qv,oM,Array.length_toList (xs:=Ca),Nat.min_eq_left f2,HQ];rw[nQ,gR hj,pE]))
          (fun j b1 l hj=>by
           rcases hj with ⟨_,hj⟩|⟨_,hj⟩
           ·obtain ⟨_,q⟩:=ep _ _ _ hj;exact ⟨B4 q.1,q⟩
           ·exact ⟨B4 (lit _ _ _ hj).1,lit _ _ _ hj⟩) rY
         refine ⟨_,_,I,ao β nb (some w.heap.size),cF,?_⟩;rw[tX];refine ⟨(k1.trans k2).trans a1,a2,?_⟩;have:=ai.dp (P:=P) (w:=w.drew.alloc (.cells ((Ca.toList.take es.length).toArray++(C2.toList.take xs.length).toArray++Builtin.zeroCells z.cells (grownCap w (es.length+xs.length) cap e-(es.length+xs.length))) e)) (I:=I) (β:=ao β nb (some w.heap.size)) (hp:=ao (ao (ao hp id (some ag.dead)) bj (some ag.dead)) nb (some (.nest e (es++xs) [0,0,0]))) (b:=w.heap.size) (cap:=grownCap w (es.length+xs.length) cap e) (bD _ _ _) (bD _ _ _) (by rw[jS dm,hk,fW];simp[size_zeroCells,h4];omega) (by rw[gD];exact pY) qU;rw[gD] at this;exact this
      | _=>cases he
    | _=>cases hd
   | _=>cases hb
 | _=>cases ha
theorem WI (S:aA P w I β hp B M w0) {t ty e:TypeId} {nb:Nat} {s x:Value} {sv xv:V} {r:R} {rd:List Nat} (hu:P.underlying t=some (.slice e)) (hs:ai P w I β hp s sv) (hx:ai P w I β hp x xv)
  (h:(NB P nb e sv xv).run C hp=some (r,rd)):dd P ((Builtin.append_ #[t,t] ty #[s,x]).run P w) w I β hp B M w0 r:=by
 unfold NB at h;split at h
 ·rename_i e' id ver i;obtain ⟨ar,h1⟩:=aE h;clear h;obtain ⟨xs,lL,l0,h2⟩:=Db S.h.rel ar hx h1;obtain ⟨e0,es,vers,l1,ab,k1,k2,k3,h3⟩:=pQ h2;cases hr:rowOf P e0 with
  | none=>simp only[hr] at h3;cases h3
  | some e1=>
  simp only[hr] at h3;obtain ⟨hc,h4⟩:=aE h3;simp only[aK,aO] at hc;obtain ⟨rfl,rfl⟩:=hc;obtain ⟨y,hy,h5⟩:=m8 h4;obtain ⟨dM,h6⟩:=aE h5;obtain ⟨l2,h7⟩:=run_get h6;cases hn:hp nb with
  | some _=>rw[hn] at h7;cases h7
  | none=>
  rw[hn] at h7;obtain ⟨fX,rfl⟩:=kX h7;obtain ⟨b,q,i0,c,t1,l,bE,hb,ht,hc⟩:=hs.NX ab k1 k2 k3;have:q=[]∧i0=i∧c=0:=by
   have hq:([]:Path)++[(i,0)]=q++[(i0,c)]:=bE;obtain ⟨h1,h2⟩:=List.append_inj' hq rfl;simp only[wK,lx,and_true] at h2;exact ⟨h1.symm,h2.1.symm,h2.2.symm⟩
  obtain ⟨rfl,rfl,rfl⟩:=this;obtain ⟨OI,cB,agj,ng,fP⟩:=vJ hr;have jt:aN P e0=[e0]:=by simp[aN,cB]
  have hk:P.cellsOf e0=1:=by rw[←ey agj,jt];rfl
  obtain ⟨b',e',aL,Ca,T,f,x1,m1,m2,m3,m4,m5,m6⟩:=hc;cases m1;rw[hk,fW,Nat.add_zero] at m6;obtain ⟨sb,l1,S1,hv⟩:=afV S hr ab hb hy hn;have Di:=hv _ _ _ _ m2 m6;have bK:nb≠id:=fun h=>by rw[h,ab] at hn;cases hn
  have agk:nb+1≠id:=fun h=>by rw[h,ab] at fX;cases fX
  generalize hq:ao (ao hp id (some (ag.out e0 es (vers.map (· +1)) i0))) nb (some (.arr e y.toList false))=OL at l1 S1 Di;have hq0:OL nb=some (.arr e y.toList false):=by rw[←hq,bD]
  have hqn:OL (nb+1)=none:=by rw[←hq,cp _ _ (Nat.succ_ne_self nb),cp _ _ agk];exact fX
  have cX:((∃a,x= .slice a 0 0)∧xs=[])∨∃a c news,Row P w I e x xs a c news:=lL;have:=WD (ty:=ty) S1 hu ar Di hq0 hqn dM (by
   rcases cX with h|⟨a,c,news,h⟩
   ·exact .inl h
   ·exact .inr ⟨a,c,news,h.val,h.len,h.cell,fun i j x t' p1 p2 p3=>(h.el i j x t' p1 p2 p3).imp fun u hu=>⟨hu.1,hu.2.mono l1.dV l1.cE⟩⟩)
  obtain ⟨v,w',I',β',a1,a2,a3,a4⟩:=this;refine ⟨v,w',I',β',a1,?_⟩;have tX:b9 hp [(nb+1,.arr e (y.toList++xs) false),(nb,.dead),(id,.out e0 es (vers.map (· +1)) i0)]=b9 OL [(nb+1,.arr e (y.toList++xs) false),(nb,.dead)]:=by
   rw[←hq];funext k;simp only[b9];by_cases q0:k=nb+1
   ·subst q0;rw[bD,bD]
   ·rw[cp _ _ q0,cp _ _ q0];by_cases q1:k=nb
    ·subst q1;rw[bD,bD]
    ·rw[cp _ _ q1,cp _ _ q1,cp _ _ q1]
  rw[tX];exact ⟨l1.trans a2,a3,a4⟩
 ·exact af9 S hu hs hx h
theorem WJ (S:aA P w I β hp B M w0) {t e e1:TypeId} {nb:Nat} {v:Value} {l:List V} (hu:P.underlying t=some (.slice e)) (hr:rowOf P e=some e1) (hn:hp nb=none) (K:Nat→List V→Prop)
  (hv:xi P w e1 K v l) (hK: ∀b1 l,K b1 l→b1<w.heap.size∧gh P w I b1 e1 l∧(M b1∨B≤b1)∧∀id blk,hp id=some blk→¬bc P w (β id) blk b1):
  (Instr.buildSlice t 1 #[(0,v)]).run P w= .ok (.slice (some ⟨w.heap.size,0,none⟩) 1 1) (w.alloc (.cells #[v] e))∧
  Le P w I β hp (w.alloc (.cells #[v] e)) I (ao β nb (some w.heap.size)) (ao hp nb (some (.nest e [.list e1 l] [0,0,0])))∧aA P (w.alloc (.cells #[v] e)) I (ao β nb (some w.heap.size)) (ao hp nb (some (.nest e [.list e1 l] [0,0,0]))) B M w0∧
  ai P (w.alloc (.cells #[v] e)) I (ao β nb (some w.heap.size)) (ao hp nb (some (.nest e [.list e1 l] [0,0,0]))) (.slice (some ⟨w.heap.size,0,none⟩) 1 1) (.whole e nb):=by
 obtain ⟨OI,cB,ar,ng,fP⟩:=vJ hr;have jt:aN P e=[e]:=by simp[aN,cB]
 have hk:P.cellsOf e=1:=by rw[←ey ar,jt];rfl
 obtain ⟨i,z,hi,hz,h3,h4,_⟩:=jv ar;rw[hk] at h3 h4;have pW:v.cells= #[v]:=by rcases hv with ⟨_,a,rfl⟩|⟨b1,cap,_,rfl,_⟩<;>rfl
 have cF:=OC w t e 1 #[(0,v)] #[v] i z hu hi hz (by rw[h3];omega) (by
  rw[h3];simp[Instr.fill,pW];rw[show Array.range 1= #[0] from rfl];simp)
 have dm:(w.alloc (.cells #[v] e)).heap[w.heap.size]? =some (.cells #[v] e):=heap_alloc_new w _;obtain ⟨a1,a2⟩:=Dg (w':=w.alloc (.cells #[v] e)) S (nb:=nb) (b:=w.heap.size) (ys:=[.list e1 l]) hr hn dm (by simp)
  (fun b' _ ba=>heap_alloc_old w _ b' ba) (by simp) ⟨rfl,rfl⟩ (.inr S.size) (fun av blk' h ho=>mj _ (S.h.lt h ho)) (fun j hj=>mj _ (S.h.iB _ j hj))
  (fun i b1 l=>i=0∧K b1 l) (fun j y hy=>by
   cases j with
   | succ j=>simp at hy
   | zero=>
    simp at hy;subst hy;refine ⟨l,v,rfl,rfl,?_⟩;rcases hv with h|⟨b1,cap,z1,z2,z3,z4,z5,z6⟩
    ·exact .inl h
    ·exact .inr ⟨b1,cap,z1,z2,z3,z4,z5,rfl,z6⟩)
  (fun j b1 l h=>⟨B4 (hK b1 l h.2).1,hK b1 l h.2⟩) (fun i j b1 l m h1 h2=>h1.1.trans h2.1.symm)
 refine ⟨cF,a1,a2,?_⟩;exact .dp (es:=[.list e1 l]) (bD _ _ _) (bD _ _ _) (by rw[jS dm,hk];rfl) (az _) (by simp[maxLen])
theorem agl (S:aA P w I β hp B M w0) {a:Act} {sl:Nat→V} (hs:mz P w I β hp a sl) {G:Nat→V} (hg:iC P G w I) {t e:TypeId} {len nb:Nat} {ps:Array (Nat×Operand)} {r:R} {rd:List Nat} (hu:P.underlying t=some (.slice e))
  (h:(Vw P nb e len (ps.toList.map fun p=>(p.1,aQ P G e sl p.2))).run C hp=some (r,rd)):
  dd P ((Instr.buildSlice t len (ps.map fun (i,x)=>(i,a.eval x))).run P w) w I β hp B M w0 r:=by
 obtain ⟨hl,ha⟩:=aE h;clear h;rw[aO,cU] at hl;cases hr:rowOf P e with
 | none=>rw[hr] at ha;cases ha
 | some e1=>
 simp only[hr] at ha;obtain ⟨OI,cB,ar,ng,fP⟩:=vJ hr;obtain ⟨ps⟩:=ps;simp only at ha hl;cases ps with
 | nil=>
  obtain ⟨hn,rfl⟩:=kX ha;simp only[List.length_nil] at hl;subst hl;obtain ⟨i,z,hi,hz,h3,h4,_⟩:=jv ar;have cF:=OC w t e 0 #[] #[] i z hu hi hz (by omega) (by simp[Instr.fill]);have dm:(w.alloc (.cells #[] e)).heap[w.heap.size]? =some (.cells #[] e):=heap_alloc_new w _;obtain ⟨a1,a2⟩:=Dg (w':=w.alloc (.cells #[] e)) S (nb:=nb) (b:=w.heap.size) (ys:=[]) hr hn dm (by simp)
   (fun b' _ ba=>heap_alloc_old w _ b' ba) (by simp) ⟨rfl,rfl⟩ (.inr S.size) (fun av blk' h ho=>mj _ (S.h.lt h ho)) (fun j hj=>mj _ (S.h.iB _ j hj))
   (fun _ _ _=>False) (fun j y hy=>by simp at hy) (fun _ _ _ h=>h.elim) (fun _ _ _ _ _ h=>h.elim)
  exact ⟨_,_,I,ao β nb (some w.heap.size),by simpa using cF,a1,a2,.dp (es:=[]) (bD _ _ _) (bD _ _ _) (by rw[jS dm];simp) (az _) (by simp)⟩
 | cons p ps=>
  cases ps with
  | cons q ps=>
   obtain ⟨p1,p2⟩:=p;simp only[iO] at ha;cases p1<;>cases hx:aQ P G e sl p2<;>simp only[hx] at ha<;>cases ha
  | nil=>
  obtain ⟨p1,p2⟩:=p;simp only[List.length_cons,List.length_nil,eQ] at hl;subst hl;have oX:=hs.ev hg e p2;simp only[iO,List.map_nil] at ha;cases p1 with
  | succ n=>cases hx:aQ P G e sl p2<;>simp only[hx] at ha<;>cases ha
  | zero=>
  cases hx:aQ P G e sl p2 with
  | nilS e2=>
   simp only[hx] at ha;obtain ⟨hc,hb⟩:=aE ha;obtain ⟨hn,rfl⟩:=kX hb;rw[hx] at oX;obtain ⟨a0,ha0⟩: ∃a0,a.eval p2= .slice a0 0 0:=by
    generalize a.eval p2=v at oX;cases oX;exact ⟨_,rfl⟩
   obtain ⟨k1,k2,k3,k4⟩:=WJ S (v:=a.eval p2) (l:=[]) hu hr hn (fun _ _=>False) (.inl ⟨rfl,a0,ha0⟩) (fun _ _ h=>h.elim);exact ⟨_,_,I,ao β nb (some w.heap.size),by simpa using k1,k2,k3,k4⟩
  | whole e2 id=>
   simp only[hx] at ha;obtain ⟨l0,hb⟩:=run_get ha;clear ha;cases ab:hp id with
   | none=>rw[ab] at hb;cases hb
   | some blk=>
    rw[ab] at hb;cases blk with
    | arr e3 es fz=>
     cases fz with
     | true=>cases hb
     | false=>
      obtain ⟨hc,hd⟩:=aE hb;clear hb;simp only[aK,aO] at hc;obtain ⟨rfl,rfl⟩:=hc;obtain ⟨hn,rfl⟩:=kX hd;have bK:nb≠id:=fun e=>by rw[e,ab] at hn;cases hn
      obtain ⟨k1,S1⟩:=vD S ab;have fX:ao hp id (some ag.dead) nb=none:=by rw[cp _ _ bK];exact hn
      have tX:b9 hp [(nb,.nest e [.list e1 es] [0,0,0]),(id,.dead)]=ao (ao hp id (some ag.dead)) nb (some (.nest e [.list e1 es] [0,0,0])):=rfl;rw[hx] at oX;have fin: ∀(K:Nat→List V→Prop),xi P w e1 K (a.eval p2) es→(∀b1 l,K b1 l→b1<w.heap.size∧gh P w I b1 e1 l∧(M b1∨B≤b1)∧∀av blk',ao hp id (some ag.dead) av=some blk'→¬bc P w (β av) blk' b1)→
        dd P ((Instr.buildSlice t 1 #[(0,a.eval p2)]).run P w) w I β hp B M w0 ⟨.whole e nb,[(nb,.nest e [.list e1 es] [0,0,0]),(id,.dead)]⟩:=fun K hv hK=>by
       obtain ⟨q1,q2,q3,q4⟩:=WJ S1 (v:=a.eval p2) (l:=es) hu hr fX K hv hK;refine ⟨_,_,I,ao β nb (some w.heap.size),q1,?_⟩;rw[tX];exact ⟨k1.trans q2,q3,q4⟩
      have res:dd P ((Instr.buildSlice t 1 #[(0,a.eval p2)]).run P w) w I β hp B M w0 ⟨.whole e nb,[(nb,.nest e [.list e1 es] [0,0,0]),(id,.dead)]⟩:=by
       generalize a.eval p2=v at oX fin⊢;cases oX with
       | dD hd=>rw[ab] at hd;cases hd
       | dp hd=>rw[ab] at hd;cases hd
       | dJ hd=>rw[ab] at hd;cases hd
       | ew hd=>rw[ab] at hd;cases hd
       | @dy _ _ _ a0 hd hb=>
        rw[ab] at hd;cases hd;exact fin (fun _ _=>False) (.inl ⟨rfl,a0,rfl⟩) (fun _ _ h=>h.elim)
       | @whole _ _ _ _ b cap hd hb aU bO hm=>
        rw[ab] at hd;cases hd;obtain ⟨m1,m2⟩:=Ou S ab hb fP;obtain ⟨m3,m4⟩:=m1 _ _ _ _ .here;by_cases h0:0<cap
        ·refine fin (fun b1 l=>b1=b∧l=es) (.inr ⟨b,cap,h0,rfl,aU,bO,hm,rfl,rfl⟩) (fun b1 l h=> ?_);obtain ⟨rfl,rfl⟩:=h;refine ⟨S.h.lt ab m4,m3,S.h.own id _ _ ab m4,fun av blk' h' ho=> ?_⟩;by_cases q:av=id
         ·subst q;rw[bD] at h';cases h';exact absurd rfl ho.alive
         ·rw[cp _ _ q] at h';exact q (S.h.inj av id _ _ _ h' ab ho m4)
        ·have:es=[]:=u5.1 (by omega);subst this;exact fin (fun _ _=>False) (.inl ⟨rfl,some ⟨b,0,none⟩,by rw[show cap=0 by omega];rfl⟩) (fun _ _ h=>h.elim)
      simpa using res
    | _=>cases hb
  | _=>simp only[hx] at ha;cases ha
end
section
variable {P:Program} {w w':World} {I I':Nat→Nat→Prop} {β β':Nat→Option Nat} {hp hp':Nat→Option ag} {C:af} {B:Nat} {M:Nat→Prop} {w0:Start}
theorem agm (S:aA P w I β hp B M w0) {s:TypeId} {f:Nat} {v:Value} {x:V} {r:R} {rd:List Nat} (hv:ai P w I β hp v x)
  (h:(NI P s f x).run C hp=some (r,rd)):dd P ((Instr.field s v f).run P w) w I β hp B M w0 r:=by
 unfold NI H9 at h;split at h
 ·rename_i fs hu;cases hf:fs[f]? with
  | none=>rw[hf] at h;cases h
  | some fd=>
   rw[hf] at h;simp only[zm] at h;obtain ⟨ht,h⟩:=aE h;obtain ⟨d,xo⟩:=CS ht;obtain ⟨i,hi⟩:=xd xo;have aU:i.size=P.cellsOf fd.type:=by simp[Program.cellsOf,hi]
   cases x with
   | agg xs=>
    obtain ⟨cs,rfl,h1,h2⟩:=hv.lF;dsimp only at h;cases ha:b8 P fd.type with
    | true=>
     rw[ha] at h;simp only[cond_true] at h;obtain ⟨hc,h⟩:=aE h;obtain rfl:=aM h;rw[fe] at hc;refine .same S (v:= .agg (cs.extract fd.offset (fd.offset+P.cellsOf fd.type))) ?_ (.agg (by simp;omega) fun j u y jV hy=> ?_)
     ·simp[Instr.field,run_underlying hu,hf,part,N8 xo,ha,asAgg,sizeOf,typeInfo,hi,aU]
     grind
    | false=>
     rw[ha] at h;simp only[cond_false] at h;obtain ⟨y,hy,h⟩:=m8 h;obtain rfl:=aM h;have ba:fd.offset<cs.size:=by grind
     refine .same S (v:=cs[fd.offset]) ?_ (h2 _ _ _ (kJ ba) hy);simp[Instr.field,run_underlying hu,hf,part,N8 xo,ha,asAgg,ba]
   | _=>cases h
 ·cases h
theorem agn (S:aA P w I β hp B M w0) {i:Nat} {v:Value} {xs:List V} {r:R} {rd:List Nat} (hv:ai P w I β hp v (.aW xs))
  (h:(Rd.opt xs[i]? fun v=> .ret ⟨v,[]⟩).run C hp=some (r,rd)):dd P ((Instr.extract v i).run P w) w I β hp B M w0 r:=by
 obtain ⟨cs,rfl,h1,h2⟩:=hv.xc;obtain ⟨y,hy,h⟩:=m8 h;obtain rfl:=aM h;have ba:i<cs.size:=by grind
 exact .same S (v:=cs[i]) (by simp[Instr.extract,ba]) (h2 _ _ _ (kJ ba) hy)
theorem ago (S:aA P w I β hp B M w0) {t:TypeId} {s:ByteArray} {l:List UInt8} {k:IntKind} {i:Int} {r:R} {rd:List Nat} (hu:P.underlying t=some .string) (hs:s.data.toList=l)
  (h:(Rd.opt (bif decide (0≤i) then (l[i.toNat]?).map fun b=>V.int .u8 b.toNat else none) fun v=> .ret ⟨.int .u8 v.toInt,[]⟩).run C hp=some (r,rd)):
  dd P ((Instr.index t (.string s) (.int k i)).run P w) w I β hp B M w0 r:=by
 obtain ⟨v,hv,h⟩:=m8 h;obtain rfl:=aM h;cases hc:decide (0≤i) with
 | false=>grind
 | true=>
  rw[hc] at hv;simp only[cond_true] at hv;have h0:0≤i:=by grind
  cases hb:l[i.toNat]? with
  | none=>grind
  | some b=>
   rw[hb] at hv;simp only[Option.map_some,et] at hv;subst hv;have hsb:s[i.toNat]? =some b:=by
    subst hs;obtain ⟨ba,he⟩:=cq.1 hb;have OM:i.toNat<s.size:=by simpa using ba
    rw[getElem?_pos s i.toNat OM];congr 1
   refine .same S (v:= .int .u8 b.toNat) ?_ .int;simp[Instr.index,asIntOf,run_underlying hu,h0,hsb]
theorem ON (S:aA P w I β hp B M w0) (mx:Bool): ∀{vs:List Value} {xs:List V} {v:Value} {x:V} {r:R} {rd:List Nat},ai P w I β hp v x→vs.length=xs.length→
  (∀(j:Nat) u y,vs[j]? =some u→xs[j]? =some y→ai P w I β hp u y)→(zn mx x xs).run C hp=some (r,rd)→
  dd P ((vs.foldlM (if mx then Builtin.max2 else Builtin.min2) v).run P w) w I β hp B M w0 r
 | [],[],v,x,r,rd,hv,_,_,h=>by
  have:r=⟨x,[]⟩:=by
   cases x<;>(simp only[zn] at h;exact (aM h).symm)
  subst this;exact .same S (by simp) hv
 | [],_::_,v,x,r,rd,hv,hl,_,h=>by simp at hl
 | _::_,[],v,x,r,rd,hv,hl,_,h=>by simp at hl
 | u::vs,y::xs,v,x,r,rd,hv,hl,hx,h=>by
  cases x<;>cases y<;>simp only[zn] at h<;>first|(cases h;done)|skip
  rename_i k a k' b;obtain ⟨hc,h4⟩:=aE h;clear h;obtain rfl:k=k':=by grind
  have hu:=hx 0 u _ rfl rfl;rw[hv.fq,hu.fq];have ih:=ON S mx (vs:=vs) (xs:=xs) (v:= .int k (bif mx then (if b>a then b else a) else (if b<a then b else a))) .int (by grind)
   (fun j u y h1 h2=>hx (j+1) u y (by grind) (by grind)) h4
  cases mx with
  | true=>simpa[List.foldlM_cons,Builtin.max2] using ih
  | false=>simpa[List.foldlM_cons,Builtin.min2] using ih
theorem sj {n cap:Nat} {isS:Bool} {lo hi:Option V} {lov hiv:Option Value} {k:Nat→Nat→Rd R} {r:R} {rd:List Nat} (hn:n≤cap)
  (lN: ∀x,lo=some x→∃v,lov=some v∧ai P w I β hp v x) (kb: ∀x,hi=some x→∃v,hiv=some v∧ai P w I β hp v x) (oZ:lo=none→lov=none) (p7:hi=none→hiv=none)
  (h:(tv n lo hi k).run C hp=some (r,rd)): ∃l u,l≤u∧u≤n∧(Instr.sliceBounds isS n cap lov hiv none).run P w= .ok (l,u,cap) w∧(k l u).run C hp=some (r,rd):=by
 have ok: ∀(kk:IntKind) (i:Int) (y:Nat) (c:BoundsCode),0≤i→i≤y→(Instr.sliceBound (.int kk i) y c).run P w= .ok i.toNat w:=by
  intro kk i y c h1 h2;simp[Instr.sliceBound,asIntOf,h1,h2]
 unfold tv at h;cases lo with
 | none=>
  rw[oZ rfl];cases hi with
  | none=>
   rw[p7 rfl];exact ⟨0,n,kK _,az _,by simp[Instr.sliceBounds],h⟩
  | some x=>
   obtain ⟨v,rfl,hv⟩:=kb x rfl;cases x<;>simp only at h<;>first|(cases h;done)|skip
   rename_i kk u;obtain ⟨hc,h⟩:=aE h;simp only[aK,fK] at hc;rw[hv.fq];have:=ok kk u cap (if isS then .sliceAcap else .sliceAlen) hc.1 (by omega);exact ⟨0,u.toNat,kK _,by omega,by simp[Instr.sliceBounds,this],h⟩
 | some x=>
  obtain ⟨v,rfl,hv⟩:=lN x rfl;cases hi with
  | none=>
   rw[p7 rfl];cases x<;>simp only at h<;>first|(cases h;done)|skip
   rename_i kk l;obtain ⟨hc,h⟩:=aE h;simp only[aK,fK] at hc;rw[hv.fq];have:=ok kk l n .sliceB hc.1 (by omega);exact ⟨l.toNat,n,by omega,az _,by simp[Instr.sliceBounds,this],h⟩
  | some y=>
   obtain ⟨v2,rfl,lD⟩:=kb y rfl;cases x<;>cases y<;>simp only at h<;>first|(cases h;done)|skip
   rename_i kk l kk2 u;obtain ⟨hc,h⟩:=aE h;simp only[aK,fK] at hc;rw[hv.fq,lD.fq];have h1:=ok kk2 u cap (if isS then .sliceAcap else .sliceAlen) (by omega) (by omega);have h2:=ok kk l u.toNat .sliceB hc.1 (by omega);exact ⟨l.toNat,u.toNat,by omega,by omega,by simp[Instr.sliceBounds,h1,h2],h⟩
theorem I5 {a:Option Addr} {t e:TypeId} {i:TypeInfo} (hu:P.underlying t=some (.slice e)) (hi:P.info? e=some i) {lov hiv:Option Value}
  (hb:(Instr.sliceBounds true 0 0 lov hiv none).run P w= .ok (0,0,0) w):(Instr.sliceAt t (.slice a 0 0) lov hiv none).run P w= .ok (.slice a 0 0) w:=by
 cases a<;>simp[Instr.sliceAt,Instr.slice,run_underlying hu,hb,sizeOf,typeInfo,hi]
theorem OO {t e:TypeId} {i:TypeInfo} {b o len cap l u:Nat} (hu:P.underlying t=some (.slice e)) (hi:P.info? e=some i) {lov hiv:Option Value} (huc:u≤cap)
  (hb:(Instr.sliceBounds true len cap lov hiv none).run P w= .ok (l,u,cap) w): ∃o',(0<u-l→o'=o+l*i.size)∧(Instr.sliceAt t (.slice (some ⟨b,o,none⟩) len cap) lov hiv none).run P w= .ok (.slice (some ⟨b,o',none⟩) (u-l) (cap-l)) w:=by
 by_cases hc:cap=l
 ·subst hc;refine ⟨o,fun h=>by omega,?_⟩
  ·simp[Instr.sliceAt,Instr.slice,run_underlying hu,hb,sizeOf,typeInfo,hi]
 ·refine ⟨o+l*i.size,fun _=>rfl,?_⟩;simp[Instr.sliceAt,Instr.slice,run_underlying hu,hb,sizeOf,typeInfo,hi,hc,mB]
theorem agp (s:ByteArray) (l:List UInt8) (h:s.data.toList=l) (a b:Nat):(s.extract a b).data.toList=(l.drop a).take (b-a):=by
 simp_all
theorem agq (S:aA P w I β hp B M w0) {t:TypeId} {v:Value} {x:V} {lo hi:Option V} {lov hiv:Option Value} {r:R} {rd:List Nat} (hv:ai P w I β hp v x)
  (lN: ∀x,lo=some x→∃v,lov=some v∧ai P w I β hp v x) (kb: ∀x,hi=some x→∃v,hiv=some v∧ai P w I β hp v x) (oZ:lo=none→lov=none) (p7:hi=none→hiv=none)
  (h:(Ii P t x lo hi).run C hp=some (r,rd)):dd P ((Instr.sliceAt t v lov hiv none).run P w) w I β hp B M w0 r:=by
 unfold Ii at h;cases hu:P.underlying t with
 | none=>rw[hu] at h;cases h
 | some d=>
  rw[hu] at h;cases d<;>simp only at h<;>first|(cases h;done)|skip
  case string=>
   cases x<;>simp only at h<;>first|(cases h;done)|skip
   rename_i l;obtain ⟨s,rfl,hs⟩:=hv.od;have aU:l.length=s.size:=by rw[←hs];simp
   obtain ⟨a,u,h1,h2,h3,h4⟩:=sj (isS:=false) (cap:=s.size) (by omega) lN kb oZ p7 h;obtain rfl:=aM h4;rw[aU] at h3;refine .same S (v:= .string (s.extract a u)) ?_ (.str (agp s l hs a u));simp[Instr.sliceAt,Instr.slice,run_underlying hu,h3]
  case slice e=>
   cases x<;>simp only at h<;>first|(cases h;done)|skip
   case list e' es=>
    obtain ⟨hc,h⟩:=aE h;simp only[aK,aO] at hc;obtain ⟨fm,ar⟩:=hc;obtain ⟨i,z,ca,_,aU,_⟩:=jv ar;cases hv with
    | list hp'=>
     cases hp' with
     | nil=>
      obtain ⟨a,u,h1,h2,h3,h4⟩:=sj (n:=0) (isS:=true) (cap:=0) (az _) lN kb oZ p7 h;obtain rfl:=aM h4;obtain rfl:u=0:=by omega
      obtain rfl:a=0:=by omega
      exact .same S (I5 hu ca h3) (by simpa using ai.list jQ.nil)
     | @emp ad cap=>
      obtain ⟨a,u,h1,h2,h3,h4⟩:=sj (n:=0) (isS:=true) (cap:=cap) (kK _) lN kb oZ p7 h;obtain rfl:=aM h4;obtain rfl:u=0:=by omega
      obtain rfl:a=0:=by omega
      refine .same S (v:= .slice (some ad) 0 cap) ?_ (by simpa using ai.list jQ.emp);by_cases hc:cap=0
      ·subst hc;simp[Instr.sliceAt,Instr.slice,run_underlying hu,h3,sizeOf,typeInfo,ca]
      ·simp[Instr.sliceAt,Instr.slice,run_underlying hu,h3,sizeOf,typeInfo,ca,hc,Addr.add]
     | @list b o len cap _ g hl bO hI fC hx=>
      obtain ⟨a,u,h1,h2,h3,h4⟩:=sj (isS:=true) (cap:=cap) (by omega) lN kb oZ p7 h;obtain rfl:=aM h4;rw[hl] at h2 h3;obtain ⟨o',qH,cF⟩:=OO (b:=b) (o:=o) hu ca (by omega) h3;have ig:e=e':=fm;refine .same S cF (.list ?_);rw[←ig];rw[←ig] at fC hx hI;have hlen:((es.drop a).take (u-a)).length=u-a:=by simp;omega
      refine .list (fun i j=>g (a+i) j) hlen (by omega) (fun j hj=> ?_) (fun i j hi hj=> ?_) (fun i j y t' hy ht=> ?_)
      ·have gL:0<u-a:=Nat.pos_of_ne_zero fun e=>by grind
       rw[qH (by omega),aU,y7];refine hI _ (ll (Nat.add_lt_add_left hj _) ?_);rw[←jJ];exact dZ _ (by omega)
      all_goals grind
   case whole e' id=>
    obtain ⟨l,h⟩:=run_get h;cases ab:hp id with
    | none=>rw[ab] at h;cases h
    | some blk=>
     rw[ab] at h;cases blk<;>simp only at h<;>first|(cases h;done)|skip
     rename_i dC es fz;obtain ⟨hc,h9⟩:=aE h;clear h;simp only[aK,aO] at hc;obtain ⟨fm,fo,ar⟩:=hc;obtain ⟨i,z,ca,_,aU,_⟩:=jv ar;cases hv with
     | dD hd=>grind
     | dp hd=>grind
     | dJ hd=>grind
     | ew hd=>grind
     | dy hd hb=>
      rw[ab] at hd;cases hd;obtain ⟨a,u,h1,h2,h3,h4⟩:=sj (n:=0) (isS:=true) (cap:=0) (az _) lN kb oZ p7 h9;obtain rfl:=aM h4;obtain rfl:u=0:=by omega
      obtain rfl:a=0:=by omega
      exact .same S (I5 hu ca h3) (.gy ab hb)
     | @whole _ _ aL nZ b cap hd hb zR bO hm=>
      have eT:=hd;rw[ab] at hd;cases hd;obtain ⟨a,u,h1,h2,h3,h4⟩:=sj (isS:=true) (cap:=cap) bO lN kb oZ p7 h9;obtain rfl:=aM h4;obtain ⟨o',qH,cF⟩:=OO (b:=b) (o:=0) hu ca (by omega) h3;have ig:e=e':=fm;exact .same S cF (.sub eT hb (by omega) (by omega) (fun h=>by grind))
   case sub e' id off len=>
    obtain ⟨l,h⟩:=run_get h;cases ab:hp id with
    | none=>rw[ab] at h;cases h
    | some blk=>
     rw[ab] at h;cases blk<;>simp only at h<;>first|(cases h;done)|skip
     rename_i dC es fz;obtain ⟨hc,h⟩:=aE h;simp only[aK,aO] at hc;obtain ⟨fm,fo,ar⟩:=hc;obtain ⟨i,z,ca,_,aU,_⟩:=jv ar;cases hv with
     | ia hd=>grind
     | gy hd hb=>
      have eT:=hd;obtain ⟨a,u,h1,h2,h3,h4⟩:=sj (isS:=true) (cap:=0) (az _) lN kb oZ p7 h;obtain rfl:=aM h4;obtain rfl:u=0:=by omega
      obtain rfl:a=0:=by omega
      exact .same S (I5 hu ca h3) (.gy eT hb)
     | @sub _ _ _ _ aL nZ b o cap hd hb kS bO ho=>
      have eT:=hd;obtain ⟨a,u,h1,h2,h3,h4⟩:=sj (isS:=true) (cap:=cap) bO lN kb oZ p7 h;obtain rfl:=aM h4;obtain ⟨o',qH,cF⟩:=OO (b:=b) (o:=o) hu ca (by omega) h3;have ig:e=e':=fm;exact .same S cF (.sub eT hb (by omega) (by omega) (fun h=>by grind))
  case array n e=>
   cases x<;>simp only at h<;>first|(cases h;done)|skip
   rename_i id j c;obtain ⟨l0,h⟩:=run_get h;cases ab:hp id with
   | none=>rw[ab] at h;cases h
   | some blk=>
    rw[ab] at h;cases blk<;>simp only at h<;>first|(cases h;done)|skip
    rename_i e' es fz;obtain ⟨hc,h9⟩:=aE h;clear h;simp only[aK,aO] at hc;obtain ⟨rfl,rfl,rfl,rfl,ar⟩:=hc;obtain ⟨i,z,ca,_,aU,_⟩:=jv ar;obtain ⟨a,u,h1,h2,h3,h4⟩:=sj (isS:=false) (cap:=es.length) (az _) lN kb oZ p7 h9;obtain rfl:=aM h4;obtain ⟨b,hb,rfl⟩:=hv.gK ab (by simp);have cF:(Instr.sliceAt t (.pointer (some ⟨b,0*(ag.arr e es fz).sz P+0,none⟩)) lov hiv none).run P w= .ok (.slice (some ⟨b,if es.length=a then 0 else a*P.cellsOf e,none⟩) (u-a) (es.length-a)) w:=by
     rw[←aU];simp[Instr.sliceAt,run_underlying hu,h3,sizeOf,typeInfo,ca,Instr.sureAddr];split<;>simp[mB]
    exact .same S cF (.sub ab hb (by omega) (by omega) (fun h=>by grind))
theorem agr (S:aA P w I β hp B M w0) {t:TypeId} {v:Value} {x:V} {lo hi mx:Option V} {lov hiv WK:Option Value} {r:R} {rd:List Nat} (hv:ai P w I β hp v x)
  (lN:lo=none→lov=none) (kb: ∀y,hi=some y→∃u,hiv=some u∧ai P w I β hp u y) (qJ: ∀y,mx=some y→∃u,WK=some u∧ai P w I β hp u y)
  (h:(NG P t x lo hi mx).run C hp=some (r,rd)):dd P ((Instr.sliceAt t v lov hiv WK).run P w) w I β hp B M w0 r:=by
 unfold NG at h;split at h
 ·rename_i e e' id _ hh _ m hu;obtain ⟨l,h⟩:=run_get h;cases ab:hp id with
  | none=>rw[ab] at h;cases h
  | some blk=>
   rw[ab] at h;cases blk<;>simp only at h<;>first|(cases h;done)|skip
   rename_i dC es fz;obtain ⟨hc,h9⟩:=aE h;clear h;simp only[aK,aO,fK] at hc;obtain ⟨rfl,rfl,ar,h0,h1,h2⟩:=hc;obtain rfl:=aM h9;obtain ⟨i,z,ca,_,_,_⟩:=jv ar;obtain ⟨u1,rfl,k1⟩:=kb _ rfl;obtain ⟨u2,rfl,k2⟩:=qJ _ rfl;rw[k1.fq,k2.fq,lN rfl];have run: ∀{k k2:IntKind} (a:Option Addr) (len cap:Nat),m≤cap→(Instr.sliceAt t (.slice a len cap) none (some (.int k hh)) (some (.int k2 m))).run P w= .ok (.slice (if m.toNat=0 then a else a.map (·.add 0)) hh.toNat m.toNat) w:=by
    intro k k2 a len cap hm;obtain ⟨m,rfl⟩:=Int.eq_ofNat_of_zero_le (Int.le_trans h0 h1);obtain ⟨hh,rfl⟩:=Int.eq_ofNat_of_zero_le h0;have c1:m≤cap:=by omega
    have c2:hh≤m:=by omega
    cases a<;>simp[Instr.sliceAt,Instr.slice,Instr.sliceBounds,Instr.sliceBound,asIntOf,run_underlying hu,sizeOf,typeInfo,ca,c1,c2]
   cases hv with
   | dD hd=>grind
   | dp hd=>grind
   | dJ hd=>grind
   | ew hd=>grind
   | dy hd hb=>
    rw[ab] at hd;cases hd;obtain rfl:m=0:=by simp at h2;omega
    obtain rfl:hh=0:=by omega
    exact .same S (run _ _ _ (by omega)) (.gy ab hb)
   | whole hd hb aU bO hm=>
    rw[ab] at hd;cases hd;refine .same S (run _ _ _ (by omega)) ?_;have e0: ∀b,(if m.toNat=0 then (some ⟨b,0,none⟩:Option Addr) else (some ⟨b,0,none⟩:Option Addr).map (·.add 0))=some ⟨b,0,none⟩:=by intro b;split<;>simp[mB]
    rw[e0];exact .sub ab hb (by omega) (by omega) (fun _=>by simp)
 ·cases h
theorem ags (S:aA P w I β hp B M w0) {t:TypeId} {v ix:Value} {x y:V} {r:R} {rd:List Nat} (hv:ai P w I β hp v x) (hy:ai P w I β hp ix y)
  (h:(NJ P t x y).run C hp=some (r,rd)):dd P ((Instr.indexAt t v ix).run P w) w I β hp B M w0 r:=by
 unfold NJ at h;cases hu:P.underlying t with
 | none=>rw[hu] at h;cases h
 | some d=>
  rw[hu] at h;cases y<;>(try (cases d<;>cases h;done))
  rename_i k i;rw[hy.fq];cases d<;>simp only at h<;>first|(cases h;done)|skip
  case slice e=>
   have run: ∀(b o len cap:Nat) (ie:TypeInfo),P.info? e=some ie→0≤i→i<(len:Int)→(Instr.indexAt t (.slice (some ⟨b,o,none⟩) len cap) (.int k i)).run P w= .ok (.pointer (some ⟨b,o+i.toNat*ie.size,none⟩)) w:=by
    intro b o len cap ie lJ h0 h1;simp[Instr.indexAt,asIntOf,run_underlying hu,h0,h1,sizeOf,typeInfo,lJ,mB]
   cases x<;>simp only at h<;>first|(cases h;done)|skip
   case list e' es=>
    obtain ⟨hc,h⟩:=aE h;simp only[aK,aO] at hc;obtain ⟨fm,ar⟩:=hc;have ig:e=e':=fm;obtain ⟨ie,z,ca,_,aU,_⟩:=jv ar;obtain ⟨el,eB,h⟩:=m8 h;obtain rfl:=aM h;unfold idx at eB;cases h0:decide (0≤i) with
    | false=>grind
    | true=>
     rw[h0] at eB;simp only[cond_true] at eB;have Oz:0≤i:=by grind
     have ba:i.toNat<es.length:=(cq.1 eB).1;cases hv with
     | list hp'=>
      cases hp' with
      | nil=>simp at ba
      | emp=>simp at ba
      | @list b o len cap _ g hl bO hI fC hx=>
       rw[←ig] at fC hx hI;refine .same S (run b o len cap ie ca Oz (by omega)) ?_;have dW:=zD (P:=P) e el;have WM:=ey ar;have WN:(bif b8 P e then flat P e else [e])=aN P e:=rfl;rw[WN];have agt:ie.size=P.cellsOf e:=by omega
       refine .pref (by rw[dW]) (fun j hj=> ?_) (fun j t' y' ht N6=> ?_)
       ·rw[y7,agt];exact hI _ (NS (by omega) (by omega))
       ·obtain ⟨t2,a1,a2⟩:=N9 N6;rw[ht] at a1;cases a1;have hj:j<P.cellsOf e:=by grind
        have ez:=hx i.toNat j el t' eB ht;refine ⟨g i.toNat j,?_,?_⟩
        ·grind
        ·rw[a2,ez.vE];exact ez
   case whole e' id=>
    obtain ⟨l,h⟩:=run_get h;cases ab:hp id with
    | none=>rw[ab] at h;cases h
    | some blk=>
     rw[ab] at h;cases blk<;>simp only at h<;>first|(cases h;done)|skip
     rename_i dC es fz;obtain ⟨hc,h⟩:=aE h;simp only[aK,aO] at hc;obtain ⟨fm,fo⟩:=hc;obtain ⟨eV,h⟩:=aE h;simp only[aK,fK] at eV;obtain rfl:=aM h;cases hv with
     | dD hd=>grind
     | dp hd=>grind
     | dJ hd=>grind
     | ew hd=>grind
     | dy hd hb=>grind
     | @whole _ _ aL nZ b cap hd hb zR bO hm=>
      have eT:=hd;rw[ab] at hd;cases hd;have hr:=S.h.rel id _ ab;cases hr with
      | dU ay=>grind
      | arr hL ar ay hh hs hf eJ hx=>
       have ig:e=e':=fm;obtain ⟨ie,z,ca,_,aU,_⟩:=jv ar;rw[←ig] at ca aU;refine .same S (run b 0 _ cap ie ca eV.1 eV.2) ?_;have:=ai.ptr (P:=P) (w:=w) (I:=I) (i:=i.toNat) (c:=0) eT (by simp) hb;simp only[ag.sz] at this;grind
     rename_i dC es vers;obtain ⟨hc,h⟩:=aE h;simp only[aK,aO] at hc;obtain ⟨fm,fo⟩:=hc;obtain ⟨eV,h⟩:=aE h;simp only[aK,fK] at eV;obtain rfl:=aM h;cases hv with
     | dD hd=>grind
     | dy hd hb=>grind
     | whole hd=>grind
     | dJ hd hb=>grind
     | ew hd=>grind
     | @dp _ _ aL vers' b cap hd hb zR bO hm=>
      have eT:=hd;rw[ab] at hd;cases hd;have ar:=(S.rows eT hb .here).ok;have ig:e=e':=fm;obtain ⟨ie,z,ca,_,aU,_⟩:=jv ar;rw[←ig] at ca aU;refine .same S (run b 0 _ cap ie ca eV.1 eV.2) ?_;have:=ai.ptr (P:=P) (w:=w) (I:=I) (i:=i.toNat) (c:=0) eT (by simp) hb;simp only[ag.sz] at this;grind
     rename_i dC es vers j0;obtain ⟨hc,h⟩:=aE h;simp only[aK,aO] at hc;obtain ⟨fm,fo⟩:=hc;obtain ⟨eV,h⟩:=aE h;simp only[aK,fK] at eV;obtain rfl:=aM h;cases hv with
     | dD hd=>grind
     | dy hd hb=>grind
     | whole hd=>grind
     | dJ hd hb=>grind
     | dp hd=>grind
     | @ew _ _ j1 aL vers' b cap hd hb zR bO hm=>
      have eT:=hd;rw[ab] at hd;cases hd;have ig:e=e':=fm;obtain ⟨ie,ca⟩: ∃ie,P.info? e=some ie:=by
       have hr:=S.h.rel id _ eT;cases hr with
       | out _ gM _ _ _ _ _ _ _ _=>rw[ig];exact xd gM
      have aU:ie.size=P.cellsOf e:=by simp[Program.cellsOf,ca]
      refine .same S (run b 0 _ cap ie ca eV.1 eV.2) ?_;have:=ai.ptr (P:=P) (w:=w) (I:=I) (i:=i.toNat) (c:=0) eT (by simp) hb;simp only[ag.sz] at this;grind
   case row e' id ver path=>
    obtain ⟨e0,es,vers,l,ab,h1,h2,h3,h⟩:=pQ h;obtain ⟨e2,v',k1,k2,h⟩:=zy h;obtain ⟨hc,h⟩:=aE h;simp only[aK,aO] at hc;obtain ⟨fm,fo⟩:=hc;obtain ⟨eV,h⟩:=aE h;simp only[aK,fK] at eV;obtain rfl:=aM h;cases hv with
    | kQ hd hp'=>rw[ab] at hd;cases hd;exact absurd hp' (zz h1 h2 h3)
    | @row v _ e0 t1 _ ver b i1 c1 q es l1 vers hd hb hq Oq ht fC=>
     have agu:=fC;obtain ⟨b',e3,aL,Ca,T,f,x,m1,m2,m3,m4,m5,m6⟩:=fC;have zB:=hd;rw[ab] at zB;cases zB;obtain ⟨n1,n2⟩:=IA m1 m3 m4 ht m5;rw[n2] at k2;cases k2;simp only[V.toList] at eV;have hR:=S.rows hd hb m1;obtain ⟨C1,_,c2,_,c3,c4⟩:=hR.cells;rw[m2] at c2;cases c2;have hj:c1<P.cellsOf e3:=by
      rw[←ey hR.ok];grind
     obtain ⟨v2,d1,d2⟩:=c4 _ _ _ _ m3 m4 hj;rw[m6] at d1;cases d1;rw[m5] at d2;cases d2 with
     | fl a _=>unfold dB at a;grind
     | emp _=>grind
     | @row _ _ b1 cap _ hl _ _ _=>
      have ar:=(S.rows hd hb (m1.snoc m2 m3 m4 ht m5 hl m6)).ok;have ig:e=e':=fm;obtain ⟨ie,z,ca,_,aU,_⟩:=jv ar;rw[←ig] at ca aU;refine .same S (run b1 0 _ cap ie ca eV.1 eV.2) ?_;have:=ai.dk (P:=P) (I:=I) (i:=i.toNat) (c:=0) hd hb hq Oq ht hl agu;grind
   case sub e' id off len=>
    obtain ⟨l,h⟩:=run_get h;cases ab:hp id with
    | none=>rw[ab] at h;cases h
    | some blk=>
     rw[ab] at h;cases blk<;>simp only at h<;>first|(cases h;done)|skip
     rename_i dC es fz;obtain ⟨hc,h⟩:=aE h;simp only[aK,aO] at hc;obtain ⟨fm,fo⟩:=hc;obtain ⟨eV,h⟩:=aE h;simp only[aK,fK] at eV;obtain rfl:=aM h;cases hv with
     | ia hd=>grind
     | gy hd hb=>omega
     | @sub _ _ _ _ aL nZ b o cap hd hb kS bO ho=>
      have eT:=hd;rw[ab] at hd;cases hd;have hr:=S.h.rel id _ ab;cases hr with
      | dU ay=>grind
      | arr hL ar ay hh hs hf eJ hx=>
       have ig:e=e':=fm;obtain ⟨ie,z,ca,_,aU,_⟩:=jv ar;rw[←ig] at ca aU;refine .same S (run b o _ cap ie ca eV.1 eV.2) ?_;have:=ai.ptr (P:=P) (w:=w) (I:=I) (i:=off+i.toNat) (c:=0) eT (by simp) hb;simp only[ag.sz] at this;grind
  case array n e=>
   have run: ∀(b o:Nat) (ie:TypeInfo),P.info? e=some ie→0≤i→i<(n:Int)→(Instr.indexAt t (.pointer (some ⟨b,o,none⟩)) (.int k i)).run P w= .ok (.pointer (some ⟨b,o+i.toNat*ie.size,none⟩)) w:=by
    intro b o ie lJ h0 h1;simp[Instr.indexAt,asIntOf,run_underlying hu,h0,h1,sizeOf,typeInfo,lJ,mB,Instr.sureAddr]
   cases x<;>simp only at h<;>first|(cases h;done)|skip
   case ptr id j c=>
    obtain ⟨eV,h⟩:=aE h;simp only[aK,fK] at eV;obtain ⟨d,xo⟩:=CS eV.1;obtain ⟨ie,lJ⟩:=xd xo;have aU:ie.size=P.cellsOf e:=by simp[Program.cellsOf,lJ]
    obtain ⟨l,h⟩:=run_get h;have ep: ∀blk,hp id=some blk→blk≠ .dead→dd P ((Instr.indexAt t v (.int k i)).run P w) w I β hp B M w0 ⟨.ptr id j (c+i.toNat*P.cellsOf e),[]⟩:=fun blk ab hd=>by
     obtain ⟨b,hb,rfl⟩:=hv.gK ab hd;refine .same S (run b _ ie lJ eV.2.1 eV.2.2) ?_;rw[aU,y7];exact .ptr ab hd hb
    have new: ∀blk,hp id=some blk→blk≠ .dead→blk.sz P=P.cellsOf e→j=0→c=0→dd P ((Instr.indexAt t v (.int k i)).run P w) w I β hp B M w0 ⟨.ptr id i.toNat 0,[]⟩:=fun blk ab hd hz hj hc=>by
     obtain ⟨b,hb,rfl⟩:=hv.gK ab hd;refine .same S (run b _ ie lJ eV.2.1 eV.2.2) ?_;have:=ai.ptr (P:=P) (w:=w) (I:=I) (i:=i.toNat) (c:=0) ab hd hb;grind
    cases ab:hp id with
    | none=>rw[ab] at h;cases h
    | some blk=>
     rw[ab] at h;cases blk with
     | var T cs=>obtain rfl:=aM h;grind
     | arr e' es fz=>
      cases he:Nat.beq e e' with
      | true=>
       simp only[he,cond_true] at h;rw[aO] at he;subst he;obtain ⟨hc,h⟩:=aE h;simp only[aK,aO] at hc;obtain rfl:=aM h;exact new _ ab (by simp) rfl hc.1 hc.2
      | false=>
       simp only[he,cond_false] at h;obtain rfl:=aM h;grind
     | nest e' es vs=>
      cases he:Nat.beq e e' with
      | true=>
       simp only[he,cond_true] at h;rw[aO] at he;subst he;obtain ⟨hc,h⟩:=aE h;simp only[aK,aO] at hc;obtain rfl:=aM h;exact new _ ab (by simp) rfl hc.1 hc.2
      | false=>
       simp only[he,cond_false] at h;obtain rfl:=aM h;grind
     | _=>cases h
   case pref ts cs=>
    obtain ⟨eV,h⟩:=aE h;simp only[aK,fK] at eV;obtain rfl:=aM h;obtain ⟨b,o,rfl,h1,h2,h3⟩:=hv.CP;obtain ⟨d,xo⟩:=CS eV.1;obtain ⟨ie,lJ⟩:=xd xo;have aU:ie.size=P.cellsOf e:=by simp[Program.cellsOf,lJ]
    refine .same S (run b _ ie lJ eV.2.1 eV.2.2) ?_;rw[aU];exact ai.VN h1 h2 h3
end
end Go.AM
namespace Go.AM
open Go.Maps
section
variable {P:Program} {w w':World} {I I':Nat→Nat→Prop} {β β':Nat→Option Nat} {hp hp':Nat→Option ag} {C:af} {B:Nat} {M:Nat→Prop} {w0:Start}
theorem agv (S:aA P w I β hp B M w0) {nb:Nat} {t:TypeId} {v:Value} {x:V} {lo hi:Option V} {lov hiv:Option Value} {r:R} {rd:List Nat} (hv:ai P w I β hp v x)
  (kb: ∀x,hi=some x→∃v,hiv=some v∧ai P w I β hp v x) (oZ:lo=none→lov=none)
  (h:(Ij P nb t x lo hi).run C hp=some (r,rd)):dd P ((Instr.sliceAt t v lov hiv none).run P w) w I β hp B M w0 r:=by
 unfold Ij at h;split at h
 case h_2=>cases h
 rename_i e e' id k hh hu;obtain ⟨l,h1⟩:=run_get h;cases ab:hp id with
 | none=>rw[ab] at h1;cases h1
 | some blk=>
  rw[ab] at h1;cases blk<;>simp only at h1<;>first|(cases h1;done)|skip
  rename_i e2 es fz;cases fz with
  | true=>cases h1
  | false=>
  obtain ⟨hc,h2⟩:=aE h1;simp only[aK,aO,fK] at hc;obtain ⟨rfl,rfl,ar,hh0,hhn⟩:=hc;obtain ⟨hn,rfl⟩:=kX h2;have lN:=oZ rfl;subst lN;obtain ⟨xp,rfl,hhv⟩:=kb _ rfl;obtain rfl:=hhv.fq;obtain ⟨i,z,ca,_,aU,_⟩:=jv ar;have bK:nb≠id:=fun e=>by grind
  obtain ⟨k1,k2⟩:=vD S ab;have fX:ao hp id (some ag.dead) nb=none:=by rw[cp _ _ bK];exact hn
  have WO: ∀cap,es.length≤cap→(Instr.sliceBounds true es.length cap none (some (.int k hh)) none).run P w= .ok (0,hh.toNat,cap) w:=by
   intro cap bO;have hb:(tv es.length none (some (.int k hh)) fun l u=> .aB (decide (l=0∧u=hh.toNat)) (.ret (⟨.undef,[]⟩:R))).run C hp=some (⟨.undef,[]⟩,[]):=by
    simp[tv,Rd.run,hh0,hhn]
   obtain ⟨l,u,b1,b2,b3,b4⟩:=sj (P:=P) (w:=w) (I:=I) (β:=β) (hp:=hp) (n:=es.length) (isS:=true) (cap:=cap) (lov:=none) (hiv:=some (.int k hh)) bO (by simp) (fun x hx=>by grind) (fun _=>rfl) (by simp) hb;obtain ⟨b5,_⟩:=aE b4;grind
  cases hv with
  | dD hd=>grind
  | dp hd=>grind
  | dJ hd=>grind
  | ew hd=>grind
  | @dy _ _ _ a0 hd hb=>
   rw[ab] at hd;cases hd;have Of:hh=0:=by grind
   subst Of;have ay:=WO 0 (az _);obtain ⟨a1,a2⟩:=CL k2 e fX;refine ⟨_,w,I,_,I5 hu ca ay,k1.trans a1,a2,.dy (bD _ _ _) (bD _ _ _)⟩
  | @whole _ _ aL nZ b cap hd hb zR bO hm=>
   have eT:=hd;rw[ab] at hd;cases hd;have hr:=S.h.rel id _ ab;cases hr with
   | dU ay=>grind
   | @arr _ _ _ _ b' Ca hL _ ay I6 vL hf eJ vM=>
    rw[hb] at ay;cases ay;have mA:(es.take hh.toNat).length=hh.toNat:=by grind
    have cF:(Instr.sliceAt t (.slice (some ⟨b,0,none⟩) es.length cap) none (some (.int k hh)) none).run P w= .ok (.slice (some ⟨b,0,none⟩) hh.toNat cap) w:=by
     have ay:=WO cap bO;by_cases WQ:cap=0
     ·subst WQ;simp[Instr.sliceAt,Instr.slice,run_underlying hu,ay,sizeOf,typeInfo,ca]
     ·simp[Instr.sliceAt,Instr.slice,run_underlying hu,ay,sizeOf,typeInfo,ca,WQ,mB]
    have oW: ∀av blk',ao hp id (some ag.dead) av=some blk'→¬bc P w (β av) blk' b:=by
     intro av blk' h1 h2;by_cases lI:av=id
     ·subst lI;rw[bD] at h1;cases h1;exact h2.alive rfl
     ·rw[cp _ _ lI] at h1;exact lI (S.h.inj av id blk' _ b h1 ab h2 (.root (by simp) hb))
    obtain ⟨a1,a2⟩:=zC k2 (blk:= .arr e (es.take hh.toNat) false) (w':=w) fX oW (fun _ _=>rfl) (fun _ _ _=>rfl) (az _) ⟨rfl,rfl⟩ (S.h.vA id _ b ab (by simp) hb)
     (fun b' h=>(dA (h.flat (by simp))).symm) (fun hle=> .arr hL ar rfl I6 (by rw[mA];exact ln (dZ _ (by omega)) vL) (fun h=>by cases h) (fun _=>eJ rfl) fun i j y t' hy ht hj=>by
      grind)
    refine ⟨_,w,I,_,cF,k1.trans a1,a2,?_⟩;have:=ai.whole (P:=P) (w:=w) (I:=I) (β:=ao β nb (some b)) (hp:=ao (ao hp id (some .dead)) nb (some (.arr e (es.take hh.toNat) false))) (cap:=cap) (bD _ _ _) (bD _ _ _) zR (by omega) hm;rw[mA] at this;exact this
theorem qV {t:TypeId} {x:V} (h:pL P t x=true):
  (∃q n,P.underlying t=some (.int q)∧x= .int q n∧fx q n=true)∨(∃b,P.underlying t=some .bool∧x= .bool b)∨(∃s,P.underlying t=some .string∧x= .str s∧s.length≤maxLen):=by
 unfold pL at h;split at h
 all_goals simp_all
theorem size_data (s:ByteArray):s.data.toList.length=s.size:=by simp
theorem agw {q:IntKind} {n:Int} (h:fx q n=true):(Lit.int q n).wf=true:=h
theorem OP {t:TypeId} {x:V} {v:Value} (h:pL P t x=true) (hv:jo v x): ∃l,mapKey P t v=some l∧∀d,P.keyLits (d+1) t [v]=some [l]:=by
 rcases qV h with ⟨q,n,hu,rfl,hn⟩|⟨b,hu,rfl⟩|⟨s,hu,rfl,hs⟩
 ·obtain rfl:v= .int q n:=hv;have hw:=agw hn;exact ⟨.int q n,by simp[mapKey,hu,hw],fun d=>by simp[Program.keyLits,hu,hw]⟩
 ·obtain rfl:v= .bool b:=hv;exact ⟨.bool b,by simp[mapKey,hu],fun d=>by simp[Program.keyLits,hu]⟩
 ·obtain ⟨s',rfl,tY⟩:=hv;have:s'.size≤maxLen:=by rw[←size_data,tY];exact hs
  exact ⟨.string s'.data.toList,by simp[mapKey,hu,this],fun d=>by simp[Program.keyLits,hu,this]⟩
theorem OQ {t:TypeId}: ∀{xs:List V} {j:Nat} {x:V},tq P t xs=true→xs[j]? =some x→pL P t x=true
 | [],j,x,_,h=>by simp at h
 | y::ys,0,x,h,hx=>by
  simp only[tq,aK] at h;grind
 | y::ys,j+1,x,h,hx=>by
  simp only[tq,aK] at h;exact OQ (j:=j) h.2 (by grind)
theorem mapM_some {α β:Type} {f:α→Option β}: ∀{l:List α},(∀a∈l,∃b,f a=some b)→∃bs,l.mapM f=some bs
 | [],_=>⟨[],rfl⟩
 | a::l,h=>by
  obtain ⟨b,hb⟩:=h a (za ..);obtain ⟨bs,iT⟩:=mapM_some (l:=l) fun x hx=>h x (j6 _ hx);simp_all
structure vN (P:Program) (t:TypeId) (fs:Array Field):Prop where
 hu:P.underlying t=some (.struct fs)
 size:P.cellsOf t=fs.size
 at_ : ∀ (i : Nat) f, fs[i]? = some f → f.offset = i ∧ P.cellsOf f.type = 1 ∧ (f.name != "_") = true ∧ P.plainKey f.type = true
 free:(!(P.cutTypes.any (·.2==t))&& !P.stoodInHeld t)=true
 runs:P.runs 0 fs.toList=some fs.size
theorem WR: ∀{k:Nat} {l:List Field},Ib P k l=true→(∀(i:Nat) f,l[i]? =some f→f.offset=k+i∧P.cellsOf f.type=1)∧P.runs k l=some (k+l.length)
 | k,[],_=>⟨fun i f h=>by simp at h,by simp[Program.runs]⟩
 | k,f::l,h=>by
  simp only[Ib,aK,aO] at h;obtain ⟨a,b⟩:=WR (l:=l) h.2;refine ⟨fun i g hg=> ?_,?_⟩
  ·grind
  ·simp only[Program.runs];grind
theorem agx {t:TypeId} {fs:Array Field} (hu:P.underlying t=some (.struct fs)) (h:Nx P t fs=true):vN P t fs:=by
 unfold Nx at h;rw[aK,aK,aK] at h;obtain ⟨⟨h1,h2⟩,h3,h4⟩:=h;rw[aO] at h1;obtain ⟨a,b⟩:=WR h2;rw[eQ,Array.length_toList] at b;refine ⟨hu,h1,fun i f hf=> ?_,h4,b⟩;obtain ⟨a1,a2⟩:=a i f (by grind);grind
theorem agy {t:TypeId} (hp:P.plainKey t=true) (m:Nat):P.keyTypeAt (m+1) t=true:=by
 unfold Program.plainKey at hp;unfold Program.keyTypeAt;grind
theorem agz {t:TypeId} (hp:P.plainKey t=true) (m:Nat):P.tiled (m+1) t=true:=by
 unfold Program.plainKey at hp;unfold Program.tiled;grind
theorem vN.at {t:TypeId} {fs:Array Field} (A:vN P t fs) (m:Nat):P.keyTypeAt (m+2) t=true:=by
 unfold Program.keyTypeAt;rw[A.hu];have hf:=A.free;rw[aK] at hf;simp only;rw[aK,aK];refine ⟨⟨Array.all_eq_true.2 fun i hi=> ?_,hf.1⟩,hf.2⟩;obtain ⟨_,_,h3,h4⟩:=A.at_ i fs[i] (kJ hi);rw[aK];exact ⟨h3,agy h4 m⟩
theorem vN.tiled {t:TypeId} {fs:Array Field} (A:vN P t fs):P.tiled 2 t=true:=by
 unfold Program.tiled;rw[A.hu];simp only;rw[aK];refine ⟨by rw[A.runs,A.size];simp,Array.all_eq_true.2 fun i hi=> ?_⟩;exact agz (A.at_ i fs[i] (kJ hi)).2.2.2 0
theorem vN.law {t:TypeId} {fs:Array Field} (A:vN P t fs):WideMaps.KeyLaw P t:=deep_law (m:=2) (by omega) (A.at 0) A.tiled (by rw[A.hu])
theorem I7: ∀{ts:List TypeId} {xs:List V},tt P ts xs=true→xs.length=ts.length∧∀(j:Nat) t x,ts[j]? =some t→xs[j]? =some x→pL P t x=true
 | [],[],_=>⟨rfl,fun j t x h=>by simp at h⟩
 | [],_::_,h=>by cases h
 | _::_,[],h=>by cases h
 | t::ts,x::xs,h=>by
  simp only[tt,aK] at h;obtain ⟨a,b⟩:=I7 h.2;grind
inductive I8 (P:Program) (t:TypeId) (x:V):Prop
 | one:pL P t x=true→x.cells=[x]→I8 P t x
 | arr {n:Nat} {e:TypeId} {xs:List V}:x= .agg xs→WideMaps.ArrKey P t e n→xs.length=n→0<P.types.size→tq P e xs=true→I8 P t x
 | str {fs:Array Field} {xs:List V}:x= .agg xs→vN P t fs→0<P.types.size→tt P (fs.toList.map (·.type)) xs=true→I8 P t x
theorem xq {t:TypeId} {x:V} (h:pM P t x=true):I8 P t x:=by
 unfold pM at h;split at h
 ·rename_i n e xs hu;simp only[aK,aO] at h;rw[nP] at h;exact .arr rfl ⟨hu,h.2.2.2.1,h.2.1,h.2.2.1⟩ h.1 h.2.2.2.2.1 h.2.2.2.2.2
 ·rename_i fs xs hu;rw[aK,aK,nP] at h;exact .str rfl (agx hu h.1) h.2.1 h.2.2
 ·refine .one h ?_;rcases qV h with ⟨q,n,hu,rfl,hn⟩|⟨b,hu,rfl⟩|⟨s,hu,rfl,hs⟩<;>rfl
theorem tF.one {x:V} {v:Value} (h:tF v x) (hx:x.cells=[x]):jo v x:=by
 cases x<;>first|exact h|skip
 simp only[V.cells] at hx;rename_i cs;have:=congrArg List.length hx;cases cs with
 | nil=>simp at hx
 | cons c cs=>
  simp only[wK] at hx;have:=congrArg SizeOf.sizeOf hx.1;grind
theorem agA {ts:List TypeId} {xs:List V} {cs:Array Value} (hf:tt P ts xs=true) (hs:cs.size=xs.length) (hc: ∀(j:Nat) (u:Value) (y:V),cs[j]? =some u→xs[j]? =some y→jo u y) {i:Nat} {t:TypeId} (ht:ts[i]? =some t):
  ∃l,∀d,P.keyLits (d+1) t ((cs.toList.drop i).take 1)=some [l]:=by
 obtain ⟨a,b⟩:=I7 hf;have hi:=(cq.1 ht).1;have ic:i<cs.size:=by omega
 have ni:i<xs.length:=by omega
 obtain ⟨l,_,h2⟩:=OP (b i t xs[i] ht (bR ni)) (hc i cs[i] xs[i] (kJ ic) (bR ni));refine ⟨l,fun d=> ?_⟩;have e1:(cs.toList.drop i).take 1=[cs[i]]:=by
  rw[List.drop_eq_getElem_cons (by omega)];simp
 grind
theorem I9 {t:TypeId} {x:V} {v:Value} (h:pM P t x=true) (hv:tF v x): ∃l,Go.keyOf P t v=some l:=by
 cases xq h with
 | one h1 hx=>
  obtain ⟨l,hl,_⟩:=OP h1 (hv.one hx);refine ⟨l,?_⟩;rcases qV h1 with ⟨q,n,hu,_⟩|⟨b,hu,_⟩|⟨s,hu,_⟩<;>simp only[Go.keyOf,hu,hl]
 | @arr n e xs hx A hl hp0 hf=>
  subst hx;obtain ⟨cs,rfl,hs,hc⟩:=hv;obtain ⟨m,hm⟩: ∃m,P.types.size=m+1:=⟨P.types.size-1,by omega⟩
  have OR:=A.keyType ⟨m,hm⟩;have hlen:cs.toList.length=P.cellsOf t:=by rw[A.size];grind
  have Dj:(Value.agg cs).formed P t=true:=by simp[Value.formed,A.hu,A.size,hs,hl]
  have hex: ∀i∈List.range n,∃y,P.keyLits (m+1) e (((Value.agg cs).cells.toList.drop (i*P.cellsOf e)).take (P.cellsOf e))=some y:=by
   intro i hi;have hi:=fg.1 hi;rw[A.one];have ic:i<cs.size:=by omega
   have ni:i<xs.length:=by omega
   obtain ⟨l,_,h2⟩:=OP (OQ hf (bR ni)) (hc i cs[i] xs[i] (kJ ic) (bR ni));have e1:((Value.agg cs).cells.toList.drop (i*1)).take 1=[cs[i]]:=by
    show (cs.toList.drop (i*1)).take 1=_;rw[fW,List.drop_eq_getElem_cons (by omega)];simp
   simp_all
  obtain ⟨bs,iT⟩:=mapM_some hex;refine ⟨.string (keyBytes bs.flatten),?_⟩;have atE:(Value.agg cs).cells.toList.length=P.cellsOf t:=hlen;unfold Go.keyOf;rw[A.hu];simp only[OR,Dj,Bool.and_self,lr];unfold Program.keyLits;rw[A.hu,hm];grind
 | @str fs xs hx A hp0 hf=>
  subst hx;obtain ⟨cs,rfl,hs,hc⟩:=hv;obtain ⟨m,hm⟩: ∃m,P.types.size=m+1:=⟨P.types.size-1,by omega⟩
  have OR:P.keyType t=true:=by
   unfold Program.keyType;rw[hm];exact A.at m
  have o0:=(I7 hf).1;rw[cU,Array.length_toList] at o0;have Dj:(Value.agg cs).formed P t=true:=by simp[Value.formed,A.hu,A.size,hs];exact o0
  have hlen:(Value.agg cs).cells.toList.length=P.cellsOf t:=by
   show cs.toList.length=_;rw[A.size];grind
  have oN : fs.all (·.name != "_") = true := Array.all_eq_true.2 fun i hi => (A.at_ i fs[i] (kJ hi)).2.2.1;have hex: ∀f∈fs.toList,∃y,P.keyLits (m+1) f.type (((Value.agg cs).cells.toList.drop f.offset).take (P.cellsOf f.type))=some y:=by
   intro f Dj;obtain ⟨i,hi⟩:=rJ Dj;obtain ⟨a1,a2,_,_⟩:=A.at_ i f (by grind);rw[a1,a2];obtain ⟨l,hl⟩:=agA hf hs hc (i:=i) (t:=f.type) (by grind);exact ⟨_,hl m⟩
  obtain ⟨bs,iT⟩:=mapM_some hex;refine ⟨.string (keyBytes bs.flatten),?_⟩;unfold Go.keyOf;rw[A.hu];simp only[OR,Dj,Bool.and_self,lr];unfold Program.keyLits;rw[A.hu,hm];grind
theorem OS {t:TypeId} {x:V} (h:pM P t x=true):Keyed P t:=by
 cases xq h with
 | one h1 hx=>
  rcases qV h1 with ⟨q,n,hu,_⟩|⟨b,hu,_⟩|⟨s,hu,_⟩
  ·exact int_keyed hu
  ·exact bool_keyed hu
  ·exact string_keyed hu
 | arr hx A hl _ hf=>exact Keyed.of_law A.law
 | str hx A _ hf=>exact Keyed.of_law A.law
theorem OT {t:TypeId} {x y:V} {v u:Value} (h1:pL P t x=true) (h2:pL P t y=true) (hv:jo v x) (hu:jo u y):vn x y=true↔v=u:=by
 rcases qV h1 with ⟨q,n,gM,rfl,_⟩|⟨b,gM,rfl⟩|⟨s,gM,rfl,_⟩<;>
 rcases qV h2 with ⟨q',n',o4,rfl,_⟩|⟨b',o4,rfl⟩|⟨s',o4,rfl,_⟩<;>
  (rw[gM] at o4;cases o4)
 ·obtain rfl:v= .int q n:=hv;obtain rfl:u= .int q n':=hu;simp[vn]
 ·obtain rfl:v= .bool b:=hv;obtain rfl:u= .bool b':=hu;simp[vn]
 ·obtain ⟨s1,rfl,e1⟩:=hv;obtain ⟨s2,rfl,e2⟩:=hu;simp only[vn,beq_iff_eq,Value.string.injEq,←e1,←e2];constructor
  ·intro h;have:=Array.toList_inj.1 h;cases s1;simp_all
  grind
theorem WS {t:TypeId}: ∀{xs ys:List V} {vs us:List Value},tq P t xs=true→tq P t ys=true→xs.length=ys.length→vs.length=xs.length→us.length=ys.length→
  (∀(j:Nat) v x,vs[j]? =some v→xs[j]? =some x→jo v x)→(∀(j:Nat) v x,us[j]? =some v→ys[j]? =some x→jo v x)→(oQ xs ys=true↔vs=us)
 | [],[],vs,us,_,_,_,h1,h2,_,_=>by
  have e1:=nO (l:=vs) (by omega);have e2:=nO (l:=us) (by omega);simp[oQ,e1,e2]
 | [],_::_,_,_,_,_,h,_,_,_,_=>by simp at h
 | _::_,[],_,_,_,_,h,_,_,_,_=>by simp at h
 | x::xs,y::ys,[],us,_,_,_,h,_,_,_=>by simp at h
 | x::xs,y::ys,v::vs,[],_,_,_,_,h,_,_=>by simp at h
 | x::xs,y::ys,v::vs,u::us,f1,f2,h,h1,h2,r1,r2=>by
  simp only[tq,aK] at f1 f2;have a:=OT f1.1 f2.1 (r1 0 v x rfl rfl) (r2 0 u y rfl rfl);have b:=WS (vs:=vs) (us:=us) f1.2 f2.2 (by grind) (by grind) (by grind) (fun j v x hj hx=>r1 (j+1) v x (by grind) (by grind)) (fun j v x hj hx=>r2 (j+1) v x (by grind) (by grind));simp only[oQ,aK,a,b,wK]
theorem WU: ∀{ts:List TypeId} {xs ys:List V} {vs us:List Value},tt P ts xs=true→tt P ts ys=true→vs.length=xs.length→us.length=ys.length→
  (∀(j:Nat) v x,vs[j]? =some v→xs[j]? =some x→jo v x)→(∀(j:Nat) v x,us[j]? =some v→ys[j]? =some x→jo v x)→(oQ xs ys=true↔vs=us)
 | [],[],[],vs,us,_,_,h1,h2,_,_=>by
  have e1:=nO (l:=vs) (by omega);have e2:=nO (l:=us) (by omega);simp[oQ,e1,e2]
 | [],_::_,_,_,_,h,_,_,_,_,_=>by cases h
 | [],[],_::_,_,_,_,h,_,_,_,_=>by cases h
 | _::_,[],_,_,_,h,_,_,_,_,_=>by cases h
 | _::_,_::_,[],_,_,_,h,_,_,_,_=>by cases h
 | t::ts,x::xs,y::ys,[],us,_,_,h,_,_,_=>by simp at h
 | t::ts,x::xs,y::ys,v::vs,[],_,_,_,h,_,_=>by simp at h
 | t::ts,x::xs,y::ys,v::vs,u::us,f1,f2,h1,h2,r1,r2=>by
  simp only[tt,aK] at f1 f2;have a:=OT f1.1 f2.1 (r1 0 v x rfl rfl) (r2 0 u y rfl rfl);have b:=WU (vs:=vs) (us:=us) f1.2 f2.2 (by grind) (by grind) (fun j v x hj hx=>r1 (j+1) v x (by grind) (by grind)) (fun j v x hj hx=>r2 (j+1) v x (by grind) (by grind));simp only[oQ,aK,a,b,wK]
theorem OU {t:TypeId} {x y:V} {v u:Value} (h1:pM P t x=true) (h2:pM P t y=true) (hv:tF v x) (hu:tF u y):gU x y=true↔v=u:=by
 unfold gU;cases xq h1 with
 | one f1 c1=>
  cases xq h2 with
  | one f2 c2=>
   rw[c1,c2];simp only[oQ,Bool.and_true];exact OT f1 f2 (hv.one c1) (hu.one c2)
  | arr hy A hl _ hf=>
   rcases qV f1 with ⟨q,n,gM,_⟩|⟨b,gM,_⟩|⟨s,gM,_⟩<;>(rw[A.hu] at gM;cases gM)
  | str hy A _ hf=>
   rcases qV f1 with ⟨q,n,gM,_⟩|⟨b,gM,_⟩|⟨s,gM,_⟩<;>(rw[A.hu] at gM;cases gM)
 | arr hx A hl _ hf=>
  cases xq h2 with
  | one f2 c2=>
   rcases qV f2 with ⟨q,n,gM,_⟩|⟨b,gM,_⟩|⟨s,gM,_⟩<;>(rw[A.hu] at gM;cases gM)
  | arr hy A2 zh _ tZ=>
   have ig:=A.hu.symm.trans A2.hu;cases ig;subst hx;subst hy;obtain ⟨cs,rfl,s1,r1⟩:=hv;obtain ⟨ds,rfl,s2,r2⟩:=hu;have:=WS (vs:=cs.toList) (us:=ds.toList) hf tZ (by omega) (by omega) (by omega) (fun j v x hj hx=>r1 j v x (by grind) hx) (fun j v x hj hx=>r2 j v x (by grind) hx);simp only[V.cells,this,Value.agg.injEq];simp_all
  | str hy A2 _ tZ=>
   have ig:=A.hu.symm.trans A2.hu;cases ig
 | str hx A _ hf=>
  cases xq h2 with
  | one f2 c2=>
   rcases qV f2 with ⟨q,n,gM,_⟩|⟨b,gM,_⟩|⟨s,gM,_⟩<;>(rw[A.hu] at gM;cases gM)
  | arr hy A2 zh _ tZ=>
   have ig:=A.hu.symm.trans A2.hu;cases ig
  | str hy A2 _ tZ=>
   have ig:=A.hu.symm.trans A2.hu;cases ig;subst hx;subst hy;obtain ⟨cs,rfl,s1,r1⟩:=hv;obtain ⟨ds,rfl,s2,r2⟩:=hu;have:=WU (vs:=cs.toList) (us:=ds.toList) hf tZ (by omega) (by omega) (fun j v x hj hx=>r1 j v x (by grind) hx) (fun j v x hj hx=>r2 j v x (by grind) hx);simp only[V.cells,this,Value.agg.injEq];simp_all
theorem WV {k:V}: ∀{es:List V},(∀x∈es,gU k (x.comp 0)=false)→fB k es=false∧(∀z,jl k es z=z)∧∀v,gW k v es=es++[.aW [k,v]]
 | [],_=>⟨rfl,fun _=>rfl,fun _=>rfl⟩
 | e::es,h=>by
  have h0:=h e (za ..);obtain ⟨a,b,c⟩:=WV (k:=k) (es:=es) fun x hx=>h x (j6 _ hx);exact ⟨by simp[fB,h0,a],fun z=>by simp[jl,h0,b],fun v=>by simp[gW,h0,c]⟩
theorem WW {k:V}: ∀{es:List V} {j:Nat} {k' y:V},es[j]? =some (.aW [k',y])→gU k k'=true→(∀i x,i<j→es[i]? =some x→gU k (x.comp 0)=false)→
  fB k es=true∧(∀z,jl k es z=y)∧∀v,gW k v es=es.set j (.aW [k',v])
 | [],j,k',y,h,_,_=>by simp at h
 | e::es,0,k',y,h,he,_=>by
  simp at h;subst h;exact ⟨by simp[fB,V.comp,V.nth,he],fun z=>by simp[jl,V.comp,V.nth,he],fun v=>by simp[gW,V.comp,V.nth,he]⟩
 | e::es,j+1,k',y,h,he,ba=>by
  have h0:=ba 0 e (by omega) rfl;obtain ⟨a,b,c⟩:=WW (k:=k) (es:=es) (j:=j) (by simpa using h) he fun i x hi hx=>ba (i+1) x (by omega) (by grind);exact ⟨by simp[fB,h0,a],fun z=>by simp[jl,h0,b],fun v=>by simp[gW,h0,c]⟩
theorem WX {kt vt:TypeId} {E:Array MapEntry} {es:List V} {k:V} {kv:Value} (hs:E.size=es.length) (hx: ∀(j:Nat) (e:MapEntry) (x:V),E[j]? =some e→es[j]? =some x→Iv P kt vt e x)
  (hn:E.toList.Pairwise (fun a b=>a.key≠b.key)) (hk:pM P kt k=true) (Ja:tF kv k) (w:World):
  ((Instr.findKey kt kv E.toList).run P w= .ok none w∧(∀e∈E.toList,e.key≠kv)∧fB k es=false∧(∀z,jl k es z=z)∧∀v,gW k v es=es++[.aW [k,v]])∨
  ∃j e k' y,(Instr.findKey kt kv E.toList).run P w= .ok (some (j,e.val)) w∧E[j]? =some e∧e.key=kv∧es[j]? =some (.aW [k',y])∧pM P kt k'=true∧tF kv k'∧eR P vt y=true∧jo e.val y∧
   fB k es=true∧(∀z,jl k es z=y)∧∀v,gW k v es=es.set j (.aW [k',v]):=by
 have K:=OS hk;obtain ⟨l,hl⟩:=I9 hk Ja;have WY: ∀(j:Nat) x,es[j]? =some x→∃e,E[j]? =some e∧Iv P kt vt e x:=by
  intro j x hj;have ba:j<E.size:=by grind
  exact ⟨E[j],kJ ba,hx j _ x (kJ ba) hj⟩
 have keys: ∀e∈E.toList,∃l,Go.keyOf P kt e.key=some l:=by
  intro e he;obtain ⟨j,hj⟩:=rJ he;have dN:E[j]? =some e:=by grind
  have ba:j<es.length:=by grind
  obtain ⟨k',y,_,h1,h2,_⟩:=hx j e es[j] dN (bR ba);exact I9 h1 h2
 rcases K.find w hl E.toList keys with ⟨h1,h2⟩|⟨j,e,h1,h2,h3⟩
 ·left;refine ⟨h1,h2,WV fun x IY=> ?_⟩;obtain ⟨j,hj⟩:=rJ IY;obtain ⟨e,he,k',y,rfl,f1,f2,_⟩:=WY j x hj;cases hq:gU k (V.comp (.aW [k',y]) 0) with
  | false=>rfl
  | true=>
   have:=(OU hk f1 Ja f2).1 hq;grind
 ·right;have hE:E[j]? =some e:=by grind
  have ba:j<es.length:=by grind
  obtain ⟨k',y,hy,f1,f2,f3,f4⟩:=hx j e es[j] hE (bR ba);have hj:=bR ba;rw[hy] at hj;rw[h3] at f2;refine ⟨j,e,k',y,h1,hE,h3,hj,f1,f2,f3,f4,WW hj ((OU hk f1 Ja f2).2 rfl) fun i x hi lG=> ?_⟩;obtain ⟨e',zO,k2,y2,rfl,g1,g2,_⟩:=WY i x lG;cases hq:gU k (V.comp (.aW [k2,y2]) 0) with
  | false=>rfl
  | true=>
   have:=(OU hk g1 Ja g2).1 hq;have i1:i<E.toList.length:=by grind
   have i2:j<E.toList.length:=by simp;omega
   have:=HR.1 hn i j i1 i2 hi;grind
theorem ai.OV {v:Value} {x:V} (h:ai P w I β hp v x) {t:TypeId} (hx:pL P t x=true):jo v x:=by
 rcases qV hx with ⟨q,n,_,rfl,_⟩|⟨b,_,rfl⟩|⟨s,_,rfl,_⟩
 ·exact h.fq
 ·exact h.kW
 ·exact h.od
theorem ai.WZ {v:Value} {x:V} (h:ai P w I β hp v x) {t:TypeId} (hx:pM P t x=true):tF v x:=by
 cases xq hx with
 | one f c=>
  have:=h.OV f;cases x<;>first|exact this|cases this
 | arr hx A hl _ hf=>
  subst hx;obtain ⟨cs,rfl,h1,h2⟩:=h.lF;exact ⟨cs,rfl,h1,fun j u y hu hy=>(h2 j u y hu hy).OV (OQ hf hy)⟩
 | str hx A _ hf=>
  subst hx;obtain ⟨cs,rfl,h1,h2⟩:=h.lF;obtain ⟨a,b⟩:=I7 hf;refine ⟨cs,rfl,h1,fun j u y hu hy=> ?_⟩;have hj:=(cq.1 hy).1;exact (h2 j u y hu hy).OV (b j _ y (bR (by omega)) hy)
theorem W0 {vt:TypeId} {y:V} (h:mapVal P vt=true) (ht:eR P vt y=true):(∃q n,P.underlying vt=some (.int q)∧y= .int q n)∨∃b,P.underlying vt=some .bool∧y= .bool b:=by
 unfold mapVal at h;unfold eR at ht;grind
theorem jo.OW {vt:TypeId} {v:Value} {y:V} (h:mapVal P vt=true) (ht:eR P vt y=true) (hv:jo v y):ai P w I β hp v y:=by
 rcases W0 h ht with ⟨q,n,_,rfl⟩|⟨b,_,rfl⟩
 ·obtain rfl:v= .int q n:=hv;exact .int
 ·obtain rfl:v= .bool b:=hv;exact .bool
theorem ai.agB {vt:TypeId} {v:Value} {y:V} (h:mapVal P vt=true) (ht:eR P vt y=true) (hv:ai P w I β hp v y):jo v y:=by
 rcases W0 h ht with ⟨q,n,_,rfl⟩|⟨b,_,rfl⟩
 ·exact hv.fq
 ·exact hv.kW
theorem agC {vt:TypeId} {z:V} (h:Ic P vt=some z) (w:World): ∃v,(zeroValue vt).run P w= .ok v w∧jo v z:=by
 unfold Ic at h;cases hi:P.info? vt with
 | none=>grind
 | some i=>
  rw[hi] at h;simp only[Option.bind_some] at h;cases hz:i.zero with
  | none=>grind
  | some v=>
   rw[hz] at h;refine ⟨v,by simp[zeroValue,typeInfo,hi,hz],?_⟩;cases v<;>simp only at h<;>first|(cases h;done)|skip
   ·cases h;rfl
   ·cases h;rfl
theorem OX {t kt vt:TypeId} (h:nY P t=some (kt,vt)):P.underlying t=some (.map kt vt):=by
 unfold nY at h;grind
theorem OY (S:aA P w I β hp B M w0) {ok:Bool} {v:Value} {x:V} {b:Bool} {r:R} {rd:List Nat} {res:Result Value} (hv:ai P w I β hp v x)
  (hr:res= .ok (if ok then .tuple #[v,.bool b] else v) w) (h:(Ie ok x b).run C hp=some (r,rd)):dd P res w I β hp B M w0 r:=by
 unfold Ie at h;obtain rfl:=aM h;cases ok with
 | false=>exact .same S hr hv
 | true=>
  refine .same S hr (.aW rfl fun j u y hu hy=> ?_)
  match j,hu,hy with
  | 0,hu,hy=>grind
  | 1,hu,hy=>simp at hu hy;subst hu;subst hy;exact .bool
  | j+2,hu,hy=>simp at hy
theorem agD (S:aA P w I β hp B M w0) {t kt vt:TypeId} (ht:nY P t=some (kt,vt)) {m k:Value} {mx kx:V} {ok:Bool} {r:R} {rd:List Nat} (hm:ai P w I β hp m mx) (hk:ai P w I β hp k kx)
  (h:(Ny P t mx kx ok).run C hp=some (r,rd)):dd P ((Instr.lookup t m k ok).run P w) w I β hp B M w0 r:=by
 unfold Ny at h;rw[ht] at h;simp only at h;cases hz:Ic P vt with
 | none=>rw[hz] at h;cases h
 | some z=>
  rw[hz] at h;obtain ⟨hc,h'⟩:=aE h;clear h;have h:=h';clear h';simp only[aK] at hc;obtain ⟨sk,Dk,Jb⟩:=hc;have hu:=OX ht;have zT:=hk.WZ sk;have K:=OS sk;obtain ⟨l,hl⟩:=I9 sk zT;obtain ⟨zv,W3,W4⟩:=agC hz w;cases mx<;>simp only at h<;>first|(cases h;done)|skip
  ·rename_i t' id;obtain ⟨og,h'⟩:=aE h;clear h;have h:=h';clear h';rw[aO] at og;subst og;obtain ⟨l2,h'⟩:=run_get h;clear h;have h:=h';clear h';cases ab:hp id with
   | none=>rw[ab] at h;cases h
   | some blk=>
    rw[ab] at h;cases blk<;>simp only at h<;>first|(cases h;done)|skip
    rename_i t2 es;obtain ⟨og,h'⟩:=aE h;clear h;have h:=h';clear h';rw[aO] at og;subst og;cases hm with
    | jR hd=>grind
    | @cK _ _ b aL hd hb=>
     rw[ab] at hd;cases hd;have hr:=S.h.rel id _ ab;cases hr with
     | @map _ W5 W6 _ b' clock E jV ay hh hs hI hx hn=>
      rw[hb] at ay;cases ay;rw[hu] at jV;cases jV;rcases WX hs hx hn sk zT w with ⟨h1,_,h3,h4,_⟩|⟨j,e,k',y,h1,_,_,_,_,_,h6,h7,h3,h4,_⟩
      ·rw[h3,h4,CR Jb] at h;refine OY S (jo.OW Dk Jb W4) ?_ h;unfold Instr.lookup;simp only[Sem.run_bind,run_underlying hu,Result.andThen_ok,Go.MapKept.run_getObj_map hh,Sem.run_pure,K.check w E.isEmpty hl,h1,W3]
      ·rw[h3,h4,CR h6] at h;refine OY S (jo.OW Dk h6 h7) ?_ h;unfold Instr.lookup;simp only[Sem.run_bind,run_underlying hu,Result.andThen_ok,Go.MapKept.run_getObj_map hh,Sem.run_pure,K.check w E.isEmpty hl,h1]
  ·rename_i t';obtain ⟨og,h⟩:=aE h;cases hm;rw[CR Jb] at h;refine OY S (jo.OW Dk Jb W4) ?_ h;have hf:(Instr.findKey kt k []).run P w= .ok none w:=by
    rcases K.find w hl [] (by simp) with ⟨h1,_⟩|⟨j,e,_,h2,_⟩
    all_goals grind
   unfold Instr.lookup;simp[run_underlying hu,K.check w true hl,hf,W3]
theorem agE (S:aA P w I β hp B M w0) {t:TypeId} {nb:Nat} {r:R} {rd:List Nat} (h:(Rd.aB (nY P t).isSome (gX nb (.map t []) (.cK t nb) [])).run C hp=some (r,rd)):
  dd P ((Instr.makeMap t none).run P w) w I β hp B M w0 r:=by
 obtain ⟨ht,h⟩:=aE h;obtain ⟨hn,rfl⟩:=kX h;obtain ⟨⟨kt,vt⟩,ht⟩:=y9.1 ht;have hu:=OX ht;have c6: ∀j,¬I w.heap.size j:=fun j h=>mj _ (S.h.iB _ j h);have dm:(w.alloc (.map #[] 0)).heap[w.heap.size]? =some (.map #[] 0):=heap_alloc_new w _;obtain ⟨a1,a2⟩:=zC S (w':=w.alloc (.map #[] 0)) (blk:= .map t []) (b:=w.heap.size) hn (fun av blk' h ho=>mj _ (S.h.lt h ho)) (fun j h=>absurd h (c6 j))
  (fun b' _ ba=>heap_alloc_old w _ b' ba) (by simp) ⟨rfl,rfl⟩ (.inr S.size) (fun b' h=>(dA (h.flat (by simp))).symm)
  (fun _=> .map hu rfl dm rfl c6 (fun j e x he _=>by simp at he) (by simp))
 exact ⟨_,_,_,_,Go.RowKit.run_makeMap t w,a1,a2,.cK (bD _ _ _) (bD _ _ _)⟩
theorem W7 (S:aA P w I β hp B M w0) {t kt vt:TypeId} (ht:nY P t=some (kt,vt)) {m k v:Value} {mx kx vx:V} {r:R} {rd:List Nat} (hm:ai P w I β hp m mx) (hk:ai P w I β hp k kx) (hv:ai P w I β hp v vx)
  (h:(Ig P t mx kx vx).run C hp=some (r,rd)):qO P ((Instr.mapUpdate t m k v).run P w) w I β hp B M w0 r:=by
 unfold Ig at h;rw[ht] at h;obtain ⟨hc,h'⟩:=aE h;clear h;have h:=h';clear h';simp only[aK] at hc;obtain ⟨sk,Dk,xr⟩:=hc;have hu:=OX ht;have zT:=hk.WZ sk;have oX:=ai.agB Dk xr hv;have K:=OS sk;obtain ⟨l,hl⟩:=I9 sk zT;cases mx<;>simp only at h<;>first|(cases h;done)|skip
 rename_i t' id;obtain ⟨og,h'⟩:=aE h;clear h;have h:=h';clear h';rw[aO] at og;subst og;obtain ⟨l2,h'⟩:=run_get h;clear h;have h:=h';clear h';cases ab:hp id with
 | none=>rw[ab] at h;cases h
 | some blk=>
  rw[ab] at h;cases blk<;>simp only at h<;>first|(cases h;done)|skip
  rename_i t2 es;obtain ⟨og,h'⟩:=aE h;clear h;have h:=h';clear h';rw[aO] at og;subst og;obtain rfl:=aM h;cases hm with
  | jR hd=>grind
  | @cK _ _ b aL hd hb=>
   rw[ab] at hd;cases hd;have hr:=S.h.rel id _ ab;cases hr with
   | @map _ W5 W6 _ b' clock E jV ay hh hs hI hx hn=>
    rw[hb] at ay;cases ay;rw[hu] at jV;cases jV;have ba:b<w.heap.size:=(vd.1 hh).1;have fin: ∀(E':Array MapEntry) (Dl:Nat),(Instr.mapUpdate t (.map (some b)) k v).run P w= .ok () {w with heap:=w.heap.setIfInBounds b (.map E' Dl)}→E'.size=(gW kx vx es).length→
      (∀(j:Nat) (e:MapEntry) (x:V),E'[j]? =some e→(gW kx vx es)[j]? =some x→Iv P kt vt e x)→E'.toList.Pairwise (fun a b=>a.key≠b.key)→
      qO P ((Instr.mapUpdate t (.map (some b)) k v).run P w) w I β hp B M w0 ⟨.undef,[(id,.map t (gW kx vx es))]⟩:=by
     intro E' Dl cF tY cS OZ;have dm:({w with heap:=w.heap.setIfInBounds b (.map E' Dl)}:World).heap[b]? =some (.map E' Dl):=by simp[ba]
     obtain ⟨a1,a2⟩:=CM S (w':={w with heap:=w.heap.setIfInBounds b (.map E' Dl)}) (blk':= .map t (gW kx vx es)) ab (by simp) rfl hb hI (by simp)
      (fun b' ay=>by grind) (by simp only[bsize,dm,hh]) (by simp) ⟨rfl,rfl⟩ (fun _=> .map hu rfl dm tY hI cS OZ)
     exact ⟨_,I,β,cF,a1,a2,rfl⟩
    rcases WX hs hx hn sk zT w with ⟨h1,h2,_,_,h5⟩|⟨j,e,k',y,h1,hE,hek,V8,agF,agG,_,_,_,_,h5⟩
    ·have e5:=h5 vx;refine fin (E.push {key:=k,val:=v,born:=clock}) (clock+1) ?_ (by grind) (fun j e x he nf=> ?_) ?_
     ·unfold Instr.mapUpdate;simp only[Sem.run_bind,run_underlying hu,Result.andThen_ok,Go.MapKept.run_getObj_map hh,K.check w false hl,h1,Go.MapKept.run_setObj_map _ hh]
     ·rw[e5] at nf;rw[Array.getElem?_push] at he;split at he
      ·rename_i hj;rw[nR (by omega),hj,hs,Nat.sub_self] at nf;simp at he nf;subst he;subst nf;exact ⟨kx,vx,rfl,sk,zT,xr,oX⟩
      grind
     grind
    ·have e5:=h5 vx;have hj:j<E.size:=(vd.1 hE).1;refine fin (E.modify j fun e=>{e with key:=k,val:=v}) clock ?_ (by grind) (fun i e' x he lG=> ?_) ?_
     ·have eg:=K.stays w hl;unfold Instr.mapUpdate;simp only[Sem.run_bind,run_underlying hu,Result.andThen_ok,Go.MapKept.run_getObj_map hh,K.check w false hl,h1];simp only[hE,Option.map_some,Option.getD_some,hek,eg,Result.andThen_ok,Go.MapKept.run_setObj_map _ hh]
     ·rw[e5] at lG;rw[HS] at he;rw[BZ] at lG;split at he
      ·rename_i O0;subst O0;rw[ak rfl,bt] at lG;rw[hE] at he;simp at he lG;subst he;subst lG;exact ⟨k',vx,rfl,agF,agG,xr,oX⟩
      grind
     ·have vO: ∀i (h1:i<(E.modify j fun e=>{e with key:=k,val:=v}).toList.length) (h2:i<E.toList.length),((E.modify j fun e=>{e with key:=k,val:=v}).toList[i]).key=(E.toList[i]).key:=by
       grind
      rw[HR] at hn⊢;grind
theorem agH (S:aA P w I β hp B M w0) {t ty kt vt:TypeId} {v:Value} {x:V} {r:R} {rd:List Nat} (hu:P.underlying t=some (.map kt vt)) (hv:ai P w I β hp v x)
  (h:(Ih x).run C hp=some (r,rd)):dd P ((Builtin.len_ #[t] ty #[v]).run P w) w I β hp B M w0 r:=by
 unfold Ih at h;cases x<;>simp only at h<;>first|(cases h;done)|skip
 ·rename_i t' id;obtain ⟨l2,h'⟩:=run_get h;clear h;have h:=h';clear h';cases ab:hp id with
  | none=>rw[ab] at h;cases h
  | some blk=>
   rw[ab] at h;cases blk<;>simp only at h<;>first|(cases h;done)|skip
   rename_i t2 es;obtain rfl:=aM h;cases hv with
   | jR hd=>grind
   | @cK _ _ b aL hd hb=>
    rw[ab] at hd;cases hd;have hr:=S.h.rel id _ ab;cases hr with
    | @map _ W5 W6 _ b' clock E jV ay hh hs hI hx hn=>
     rw[hb] at ay;cases ay;refine .same S (v:= .int .i64 E.size) (by simp[Builtin.len_,run_underlying hu,Go.MapKept.run_getObj_map hh,goInt]) ?_;rw[hs];exact .int
 ·obtain rfl:=aM h;cases hv;exact .same S (v:= .int .i64 0) (by simp[Builtin.len_,run_underlying hu,goInt]) .int
theorem ai.O1 {v:Value} {t:TypeId} (h:ai P w I β hp v (.eo t)):v= .map none:=by cases h;rfl
theorem ai.agI {v:Value} {t t':TypeId} {id:Nat} {es:List V} (h:ai P w I β hp v (.cK t id)) (ab:hp id=some (.map t' es)): ∃b,v= .map (some b):=by
 cases h with
 | jR h=>grind
 | cK h hb=>grind
theorem W8 (S:aA P w I β hp B M w0) {op:BinOp} {t:TypeId} {a:Option Nat} {r:R} {rd:List Nat} (x y:Operand)
  (h:(H8 P op t a.isNone).run C hp=some (r,rd)):dd P ((do eqGuard op t x y (.map a) (.map none);binOp op t (.map a) (.map none)).run P w) w I β hp B M w0 r:=by
 unfold H8 at h;split at h
 case h_2=>cases h
 rename_i kt vt hu;have he:(Op.equal t (.map a) (.map none)).run P w= .ok a.isNone w:=by
  show (Op.equalIn (9999+1) t (.map a) (.map none)).run P w=_;rw[Op.equalIn];cases a<;>simp[Sem.run_bind,run_underlying hu,Result.andThen_ok,Sem.run_pure]
 cases op<;>simp only at h<;>first|(cases h;done)|skip
 ·obtain rfl:=aM h;exact .same S (by simp[eqGuard,binOp,he]) .bool
 ·obtain rfl:=aM h;exact .same S (by simp[eqGuard,binOp,he]) .bool
end
end Go.AM
