/-
  Functions of the program, lifted to plain data.
-/
import Derived.Great.BuildSlice
import Derived.Maps.Keyed
import Derived.WideKeyArr
import Derived.MapKept
import Derived.ChangeMaps4
import Derived.Carry
import Derived.Test.YtpigoedhkpjgeaaGreatDoorP1
noncomputable section
set_option linter.unusedVariables false
set_option linter.unusedSimpArgs false
set_option linter.unusedSectionVars false
namespace Go.AM
section
variable {P:Program} {w w':World} {I I':Nat→Nat→Prop} {β β':Nat→Option Nat} {hp hp':Nat→Option ag} {C:af} {B:Nat} {M:Nat→Prop} {w0:Start}
theorem od.vI {t:TypeId} {v:Value} {x:V} (h:od P w I t v x):fS P t x=x:=by
 cases h with
 | fu _ p=>exact p.vI
 | emp hu=>exact pT hu
 | row hu _ _ _ _=>exact pT hu
theorem zI {new:List V} {e ea:TypeId} {i c:Nat} {q:Path} {es c9:List V} {x:V} (hx:es[i]? =some x) (hp:(parts P e x)[c]? =some (.list ea c9)):
  setRow P new e es ((i,c)::q)=es.set i (dm P e ((parts P e x).set c (.list ea (setRow P new ea c9 q)))):=by
 simp only[setRow,hx,hp]
theorem C4 {b:Nat} {e t:TypeId} {es:List V} {i c:Nat} {x y:V} (hR:gm P w I b e es) (hx:es[i]? =some x) (ht:(aP P e)[c]? =some t):
  ∀{i' c':Nat} {x':V} {t':TypeId},(es.set i (dm P e ((parts P e x).set c y)))[i']? =some x'→(aP P e)[c']? =some t'→
   ∃x0,es[i']? =some x0∧bX P e x' c'=if i'=i∧c'=c then y else bX P e x0 c':=by
 intro i' c' x' t' cW fw;have oh:i<es.length:=(ct.1 hx).1;have xe:c<(aP P e).length:=(ct.1 ht).1;have IN:c'<(aP P e).length:=(ct.1 fw).1;by_cases hi:i'=i
 ·subst hi;rw[qx oh] at cW;cases cW;refine ⟨x,hx,?_⟩;by_cases hc:c'=c
  ·subst hc;rw[ak ⟨rfl,rfl⟩];exact tQ (qx (by rw[zF];exact xe)) fw
  ·rw[aj (fun h=>hc h.2)];have h1:((parts P e x).set c y)[c']? =some (fS P t' (bX P e x c')):=by
    rw[B5 (fun h=>hc h.symm)];exact pS fw
   rw[tQ h1 fw];obtain ⟨Ca,_,_,_,_,tR⟩:=hR.cells;obtain ⟨v,_,ho⟩:=tR i' c' x t' hx fw (by rw[←eC hR.ok];exact IN);exact ho.vI
 ·rw[B5 (fun h=>hi h.symm)] at cW;exact ⟨x',cW,by rw[aj (fun h=>hi h.1)]⟩
theorem Ol {b b1:Nat} {e e1:TypeId} {es l l':List V} {p:Path} (h:At P w b e es p b1 e1 l) (hl:l'.length=l.length):(setRow P l' e es p).length=es.length:=by
 cases h with
 | here=>exact hl
 | step h1 h2 h3 h4 h5 h6 h7 h8=>
  rw[zI h2 (by rw[pS h3,h5,pT h4])];simp
theorem At.afQ {b b1:Nat} {e e1:TypeId} {es l l':List V} {p:Path} (Om:At P w b e es p b1 e1 l) (hw: ∀k,k≠b1→w'.heap[k]? =w.heap[k]?) (hl:l'.length=l.length):
  (∀q b' e' m,At P w b e es q b' e' m→gm P w I b' e' m)→(∀q e' m,At P w b e es q b1 e' m→q=p)→
  ∀q b' e' m,At P w' b e (setRow P l' e es p) q b' e' m→
   (∃r m0,p=q++r∧At P w b e es q b' e' m0∧m=setRow P l' e' m0 r)∨
   (∃r,r≠[]∧q=p++r∧At P w' b1 e1 l' r b' e' m)∨
   (At P w b e es q b' e' m∧b'≠b1∧¬q <+: p∧¬p <+: q):=by
 induction Om with
 | here=>
  intro c6 lJ q b' e' m h;cases q with
  | nil=>cases h with|here=>exact .inl ⟨[],_,rfl,.here,rfl⟩
  | cons a q=>exact .inr (.inl ⟨a::q,by simp,rfl,h⟩)
 | @step b i c b2 len cap b1 e t ea e1 es c9 l p Ca T f x h1 h2 h3 h4 h5 h6 h7 h8 ih=>
  intro c6 lJ q b' e' m h;have ng:(parts P e x)[c]? =some (.list ea c9):=by rw[pS h3,h5,pT h4]
  rw[zI h2 ng] at h;have hR:=c6 _ _ _ _ .here;have hb:b≠b1:=by
   intro hb;subst hb;have:=lJ [] _ _ .here;cases this
  have On:=ih hw hl (fun q b' e' m h=>c6 _ _ _ _ (.step h1 h2 h3 h4 h5 h6 h7 h)) (fun q e' m h=>by
   have:=lJ _ _ _ (.step h1 h2 h3 h4 h5 h6 h7 h);exact (List.cons.inj this).2)
  cases h with
  | here=>exact .inl ⟨_,es,rfl,.here,(zI h2 ng).symm⟩
  | @step _ i' c' b3 afR Oo _ _ t' e3 _ _ gN _ q xd T' f' x' k1 k2 k3 k4 k5 k6 k7 k8=>
   rw[hw b hb] at k1;obtain ⟨x0,y1,y2⟩:=C4 hR h2 h3 k2 k3;by_cases im:i'=i∧c'=c
   ·rw[ak im] at y2;obtain ⟨rfl,rfl⟩:=im;rw[h1] at k1;cases k1;rw[h7] at k7;cases k7;rw[k5] at y2;cases y2;rcases On _ _ _ _ k8 with ⟨r,m0,z1,z2,z3⟩|⟨r,z1,z2,z3⟩|⟨z1,z2,z3,z4⟩
    ·exact .inl ⟨r,m0,by rw[z1];rfl,.step h1 h2 h3 h4 h5 h6 h7 z2,z3⟩
    ·exact .inr (.inl ⟨r,z1,by rw[z2];rfl,z3⟩)
    ·refine .inr (.inr ⟨.step h1 h2 h3 h4 h5 h6 h7 z1,z2,fun hh=>z3 ?_,fun hh=>z4 ?_⟩)
     ·exact (vc.1 hh).2
     ·exact (vc.1 hh).2
   ·rw[aj im,k5] at y2;have bL: ∀q2 b5 e5 iX,At P w b3 e3 gN q2 b5 e5 iX→b5≠b1:=by
     intro q2 b5 e5 iX hq xk;subst xk;have:=lJ _ _ _ (.step k1 y1 k3 k4 y2.symm k6 k7 hq);injection this with h1 h2;injection h1 with h1 h3;exact im ⟨h1,h3⟩
    have jY:=k8.vC (w:=w) fun q2 b5 e5 iX hq=>hw b5 (bL q2 b5 e5 iX hq);refine .inr (.inr ⟨.step k1 y1 k3 k4 y2.symm k6 k7 jY,bL _ _ _ _ jY,fun hh=> ?_,fun hh=> ?_⟩)
    ·have:=(vc.1 hh).1;injection this with h1 h3;exact im ⟨h1,h3⟩
    ·have:=(vc.1 hh).1;injection this with h1 h3;exact im ⟨h1.symm,h3.symm⟩
theorem At.vK {b b1:Nat} {e e1:TypeId} {es l l':List V} {p:Path} (Om:At P w b e es p b1 e1 l) (hw: ∀k,k≠b1→w'.heap[k]? =w.heap[k]?) (hl:l'.length=l.length):
  (∀q b' e' m,At P w b e es q b' e' m→gm P w I b' e' m)→(∀q e' m,At P w b e es q b1 e' m→q=p)→
  ∀q b' e' m,At P w b e es q b' e' m→
   (∃r,p=q++r∧At P w' b e (setRow P l' e es p) q b' e' (setRow P l' e' m r)∧∃e1' m1,At P w b' e' m r b1 e1' m1∧m1=l)∨
   (∃r,r≠[]∧q=p++r∧At P w b1 e1 l r b' e' m∧(∀b2 e2 m2,At P w' b1 e1 l' r b2 e2 m2→At P w' b e (setRow P l' e es p) q b2 e2 m2))∨
   (At P w' b e (setRow P l' e es p) q b' e' m∧b'≠b1∧¬q <+: p∧¬p <+: q):=by
 induction Om with
 | here=>
  intro c6 lJ q b' e' m h;cases q with
  | nil=>cases h with|here=>exact .inl ⟨[],rfl,.here,_,_,.here,rfl⟩
  | cons a q=>exact .inr (.inl ⟨a::q,by simp,rfl,h,fun _ _ _ h=>h⟩)
 | @step b i c b2 len cap b1 e t ea e1 es c9 l p Ca T f x h1 h2 h3 h4 h5 h6 h7 h8 ih=>
  intro c6 lJ q b' e' m h;have ng:(parts P e x)[c]? =some (.list ea c9):=by rw[pS h3,h5,pT h4]
  have oc:=zI (new:=l') (q:=p) h2 ng;have hR:=c6 _ _ _ _ .here;have oh:i<es.length:=(ct.1 h2).1;have hb:b≠b1:=by
   intro hb;subst hb;have:=lJ [] _ _ .here;cases this
  have On:=ih hw hl (fun q b' e' m h=>c6 _ _ _ _ (.step h1 h2 h3 h4 h5 h6 h7 h)) (fun q e' m h=>by
   have:=lJ _ _ _ (.step h1 h2 h3 h4 h5 h6 h7 h);exact (List.cons.inj this).2)
  have kY:=(hw b hb).trans h1;have C6:(es.set i (dm P e ((parts P e x).set c (.list ea (setRow P l' ea c9 p)))))[i]? =some (dm P e ((parts P e x).set c (.list ea (setRow P l' ea c9 p)))):=qx oh;have Oq:bX P e (dm P e ((parts P e x).set c (.list ea (setRow P l' ea c9 p)))) c= .list ea (setRow P l' ea c9 p):=by
   obtain ⟨x0,y1,y2⟩:=C4 hR h2 h3 C6 h3;rw[ak ⟨rfl,rfl⟩] at y2;exact y2
  cases h with
  | here=>
   exact .inl ⟨(i,c)::p,rfl,.here,_,_,.step h1 h2 h3 h4 h5 h6 h7 h8,rfl⟩
  | @step _ i' c' b3 afR Oo _ _ t' e3 _ _ gN _ q xd T' f' x' k1 k2 k3 k4 k5 k6 k7 k8=>
   rw[oc];by_cases im:i'=i∧c'=c
   ·obtain ⟨rfl,rfl⟩:=im;rw[h1] at k1;cases k1;rw[h7] at k7;cases k7;rw[h3] at k3;cases k3;rw[h4] at k4;cases k4;rw[h2] at k2;cases k2;rw[h5] at k5;cases k5;rcases On _ _ _ _ k8 with ⟨r,z1,z2,z3⟩|⟨r,z1,z2,z3,z4⟩|⟨z1,z2,z3,z4⟩
    ·exact .inl ⟨r,by rw[z1];rfl,.step kY C6 h3 h4 Oq h6 h7 z2,z3⟩
    ·exact .inr (.inl ⟨r,z1,by rw[z2];rfl,z3,fun b2 e2 m2 hh=> .step kY C6 h3 h4 Oq h6 h7 (z4 b2 e2 m2 hh)⟩)
    ·refine .inr (.inr ⟨.step kY C6 h3 h4 Oq h6 h7 z1,z2,fun hh=>z3 ?_,fun hh=>z4 ?_⟩)
     ·exact (vc.1 hh).2
     ·exact (vc.1 hh).2
   ·have bL: ∀q2 b5 e5 iX,At P w b3 e3 gN q2 b5 e5 iX→b5≠b1:=by
     intro q2 b5 e5 iX hq xk;subst xk;have:=lJ _ _ _ (.step k1 k2 k3 k4 k5 k6 k7 hq);injection this with h1 h2;injection h1 with h1 h3;exact im ⟨h1,h3⟩
    have jY:=k8.mono (w':=w') fun q2 b5 e5 iX hq=>hw b5 (bL q2 b5 e5 iX hq);have Ot: ∃x2,(es.set i (dm P e ((parts P e x).set c (.list ea (setRow P l' ea c9 p)))))[i']? =some x2:=by
     have:i'<es.length:=(ct.1 k2).1;exact ⟨_,bS (by rw[tm];exact this)⟩
    obtain ⟨x2,jv⟩:=Ot;obtain ⟨x0,y1,y2⟩:=C4 hR h2 h3 jv k3;rw[aj im] at y2;rw[k2] at y1;cases y1;rw[k5] at y2;refine .inr (.inr ⟨.step ((hw b hb).trans k1) jv k3 k4 y2 k6 k7 jY,bL _ _ _ _ k8,fun hh=> ?_,fun hh=> ?_⟩)
    ·have:=(vc.1 hh).1;injection this with h1 h3;exact im ⟨h1,h3⟩
    ·have:=(vc.1 hh).1;injection this with h1 h3;exact im ⟨h1.symm,h3.symm⟩
theorem At.fun {b b1:Nat} {e e1:TypeId} {es l:List V} {q:Path} (h:At P w b e es q b1 e1 l): ∀{b2 e2 l2},At P w b e es q b2 e2 l2→b2=b1∧e2=e1∧l2=l:=by
 induction h with
 | here=>intro b2 e2 l2 h2;cases h2;exact ⟨rfl,rfl,rfl⟩
 | step h1 h2 h3 h4 h5 h6 h7 h8 ih=>
  intro b2 e2 l2 k;cases k with
  | step k1 k2 k3 k4 k5 k6 k7 k8=>
   rw[h1] at k1;cases k1;rw[h7] at k7;cases k7;rw[h2] at k2;cases k2;rw[h5] at k5;cases k5;exact ih k8
theorem At.split: ∀{q r:Path} {b b1:Nat} {e e1:TypeId} {es l:List V},At P w b e es (q++r) b1 e1 l→∃b' e' m,At P w b e es q b' e' m∧At P w b' e' m r b1 e1 l
 | [],r,b,b1,e,e1,es,l,h=>⟨_,_,_,.here,h⟩
 | a::q,r,b,b1,e,e1,es,l,h=>by
  cases h with
  | step h1 h2 h3 h4 h5 h6 h7 h8=>
   obtain ⟨b',e',m,k1,k2⟩:=At.split h8;exact ⟨b',e',m,.step h1 h2 h3 h4 h5 h6 h7 k1,k2⟩
theorem gm.cH {b:Nat} {e:TypeId} {es:List V} (h:gm P w I b e es) (hw:w'.heap[b]? =w.heap[b]?) (hI: ∀k j,I k j→w'.cell? ⟨k,j,none⟩=w.cell? ⟨k,j,none⟩) (iW: ∀k,bsize w' k=bsize w k):gm P w' I b e es:=by
 obtain ⟨ok,⟨Ca,T,c1,c0,c2,c3⟩,nI⟩:=h;refine ⟨ok,⟨Ca,T,hw.trans c1,c0,c2,fun i j x t' k1 k2 k3=> ?_⟩,nI⟩;obtain ⟨v,m1,m2⟩:=c3 i j x t' k1 k2 k3;exact ⟨v,m1,m2.mono (fun _ _ h=>h) hI fun b' _ _ _ _=>iW b'⟩
theorem gm.above {b b1 b2 i c len cap:Nat} {e e1 t ea:TypeId} {es c9 l l':List V} {r:Path} {Ca:Array Value} {T:TypeId} {f:Nat×Nat} {x:V} (hR:gm P w I b e es)
  (h1:w.heap[b]? =some (.cells Ca T f)) (h2:es[i]? =some x) (h3:(aP P e)[c]? =some t) (h4:P.underlying t=some (.slice ea)) (h5:bX P e x c= .list ea c9) (h6:0<cap)
  (h7:Ca[i*P.cellsOf e+c]? =some (.slice (some ⟨b2,0,none⟩) len cap)) (h8:At P w b2 ea c9 r b1 e1 l) (hl:l'.length=l.length)
  (hw:w'.heap[b]? =w.heap[b]?) (hI: ∀k j,I k j→w'.cell? ⟨k,j,none⟩=w.cell? ⟨k,j,none⟩) (iW: ∀k,bsize w' k=bsize w k):gm P w' I b e (setRow P l' e es ((i,c)::r)):=by
 have ng:(parts P e x)[c]? =some (.list ea c9):=by rw[pS h3,h5,pT h4]
 rw[zI h2 ng];have hR0:=hR;obtain ⟨ok,⟨xd,_,c1,c0,c2,c3⟩,nI⟩:=hR;rw[h1] at c1;cases c1;refine ⟨ok,⟨Ca,_,hw.trans h1,c0,by simpa using c2,fun i' j x' t' k1 k2 k3=> ?_⟩,nI⟩;obtain ⟨x0,y1,y2⟩:=C4 hR0 h2 h3 k1 k2;obtain ⟨v,m1,m2⟩:=c3 i' j x0 t' y1 k2 k3;refine ⟨v,m1,?_⟩;have m3:od P w' I t' v (bX P e x0 j):=m2.mono (fun _ _ h=>h) hI fun b' _ _ _ _=>iW b';rw[y2];by_cases im:i'=i∧j=c
 ·rw[ak im];obtain ⟨rfl,rfl⟩:=im;rw[h2] at y1;cases y1;rw[h3] at k2;cases k2;rw[h5] at m3;have hlen:=Ol (l':=l') h8 hl;rw[h7] at m1;cases m1;generalize hy:V.list ea c9=y at m3;cases m3 with
  | fu a p=>unfold dF at a;rw[h4] at a;cases a
  | emp a=>exact absurd h6 (ml _)
  | row a b c d e=>
   cases hy;rw[←hlen];exact .row a b c (by omega) e
 ·rw[aj im];exact m3
theorem afS (S:aA P w I β hp B M w0) {id b b1 i c:Nat} {e0 e1:TypeId} {es l l':List V} {vers vers':List Nat} {path:Path} (K:Path→Nat→TypeId→List V→Prop)
  (ab:hp id=some (.nest e0 es vers)) (hb:β id=some b) (ha:At P w b e0 es path b1 e1 l) (hl:l'.length=l.length)
  (hw: ∀k,k≠b1→w'.heap[k]? =w.heap[k]?) (iW: ∀k,bsize w' k=bsize w k) (aU:w'.heap.size=w.heap.size) (lH:w'.os=w.os∧w'.output=w.output)
  (afT:gm P w' I b1 e1 l')
  (V4: ∀a r b' e' m,At P w' b1 e1 l' (a::r) b' e' m→b'≠b1∧(At P w b1 e1 l (a::r) b' e' m∨(a=(i,c)∧K r b' e' m)))
  (hK: ∀r b' e' m,K r b' e' m→gm P w I b' e' m∧(M b'∨B≤b')∧(∀bj cw,hp bj=some cw→¬bd P w (β bj) cw b'))
  (rZ: ∀r1 r2 b' e1 m1 e2 m2,K r1 b' e1 m1→K r2 b' e2 m2→r1=r2)
  (mA:vers'.length=vers.length) (CL: ∀k,bz vers k≤bz vers' k)
  (vL: ∀(r:Path) i' c' t' v ea l0,(path++r).length<vers.length→bz vers' (path++r).length=bz vers (path++r).length→P.underlying t'=some (.slice ea)→oT P w b1 e1 l r i' c' t' v (.list ea l0)→
   ∃zJ,zJ.length=l0.length∧oT P w' b1 e1 l' r i' c' t' v (.list ea zJ)):
  Le P w I β hp w' I β (aq hp id (some (.nest e0 (setRow P l' e0 es path) vers')))∧aA P w' I β (aq hp id (some (.nest e0 (setRow P l' e0 es path) vers'))) B M w0:=by
 have hr:=S.h.rel id _ ab;rw[hb] at hr;cases hr with
 | gD ay=>cases ay
 | nest ay c6 kg=>
 cases ay;have lJ: ∀q e' m,At P w b e0 es q b1 e' m→q=path:=fun q e' m h=>kg _ _ _ _ _ _ _ h ha;have da: ∀j,¬I b1 j:=(c6 _ _ _ _ ha).nI;have vM: ∀k j,I k j→w'.cell? ⟨k,j,none⟩=w.cell? ⟨k,j,none⟩:=fun k j hk=>World.cell?_of_block (hw k (fun e=>da j (e▸hk)));have V5:bd P w (β id) (.nest e0 es vers) b1:= .row hb ha;have same: ∀{aw cw b'},aw≠id→hp aw=some cw→bd P w (β aw) cw b'→w'.heap[b']? =w.heap[b']? :=
  fun hi h ho=>hw _ fun e=>hi (S.h.inj _ _ _ _ b1 h ab (e▸ho) V5)
 have zK:(setRow P l' e0 es path).length=es.length:=Ol ha hl;have vK:=At.afQ (I:=I) (w':=w') (l':=l') ha hw hl c6 lJ;have Ou: ∀q b' e' m,At P w' b e0 (setRow P l' e0 es path) q b' e' m→(∃e2 m2,At P w b e0 es q b' e2 m2)∨∃r,q=path++(i,c)::r∧K r b' e' m:=by
  intro q b' e' m h;rcases vK q b' e' m h with ⟨r,m0,z1,z2,z3⟩|⟨r,z1,z2,z3⟩|⟨z1,z2,z3,z4⟩
  ·exact .inl ⟨_,_,z2⟩
  ·cases r with
   | nil=>exact absurd rfl z1
   | cons a r=>
    obtain ⟨y1,y2⟩:=V4 a r b' e' m z3;rcases y2 with y2|⟨rfl,y2⟩
    ·exact .inl ⟨_,_,by rw[z2];exact ha.app y2⟩
    ·exact .inr ⟨r,z2,y2⟩
  ·exact .inl ⟨_,_,z1⟩
 have qM: ∀b',bd P w' (β id) (.nest e0 (setRow P l' e0 es path) vers') b'→bd P w (β id) (.nest e0 es vers) b'∨((M b'∨B≤b')∧∀bj cw,hp bj=some cw→¬bd P w (β bj) cw b'):=by
  intro b' ho;cases ho with
  | root _ h=>exact .inl (.root (by simp) h)
  | row h1 h2=>
   rw[hb] at h1;cases h1;rcases Ou _ _ _ _ h2 with ⟨e2,m2,h⟩|⟨r,_,h⟩
   ·exact .inl (.row hb h)
   ·exact .inr (hK _ _ _ _ h).2
 have hle:Le P w I β hp w' I β (aq hp id (some (.nest e0 (setRow P l' e0 es path) vers'))):=by
  refine ⟨fun _ _ h=>h,vM,fun aw cw h=> ?_,fun aw cw js b' h h3 hd3 ay=>iW b',fun aw e bJ vs e' aL CF b2 q i' c' t v ea l0 h h' fI aY hv ht hc=> ?_⟩
  ·by_cases hi:aw=id
   ·subst hi;rw[ab] at h;cases h;exact ⟨_,bE _ _ _,⟨rfl,zK.symm,mA.symm,CL⟩,fun _=>rfl⟩
   ·exact ⟨cw,by rw[cu _ _ hi];exact h,ag.le_refl _,fun _=>rfl⟩
  ·by_cases hi:aw=id
   ·subst hi;rw[ab] at h;cases h;rw[bE] at h';cases h';rw[hb] at fI;cases fI;obtain ⟨b',e',m,Ca,T,f,x,k1,k2,k3,k4,k5,k6⟩:=hc;rcases At.vK (I:=I) (w':=w') (l':=l') ha hw hl c6 lJ q b' e' m k1 with ⟨r,z1,z2,e2,m2,z3,_⟩|⟨r,z1,z2,z3,z4⟩|⟨z1,z2,z3,z4⟩
    ·cases r with
     | nil=>
      cases z3;rw[vd] at z1;subst z1;obtain ⟨w1,w2,w3⟩:=ha.fun k1;subst w2;subst w3;obtain ⟨zJ,g1,g2⟩:=vL [] i' c' t v ea l0 (by simpa using aY) (by simpa using hv) ht ⟨_,_,_,Ca,T,f,x,.here,k2,k3,k4,k5,k6⟩;refine ⟨zJ,g1,?_⟩;obtain ⟨b5,e5,iX,C5,T5,f5,x5,q1,q2,q3,q4,q5,q6⟩:=g2;cases q1;exact ⟨_,_,_,C5,T5,f5,x5,z2,q2,q3,q4,q5,q6⟩
     | cons a r=>
      cases z3 with
      | @step _ i2 c2 b3 len cap _ _ t3 Ov _ _ gN _ r Ca3 T3 f3 x3 g1 g2 g3 g4 g5 g6 g7 g8=>
       have ay:b'≠b1:=by
        intro e;subst e;have:=lJ _ _ _ k1;rw[this] at z1;have:=congrArg List.length z1;simp at this
       have ng:(parts P e' x3)[c2]? =some (.list Ov gN):=by rw[pS g3,g5,pT g4]
       rw[zI g2 ng] at z2;have Ot: ∃x2,(m.set i2 (dm P e' ((parts P e' x3).set c2 (.list Ov (setRow P l' Ov gN r)))))[i']? =some x2:=by
        have:i'<m.length:=(ct.1 k3).1;exact ⟨_,bS (by rw[tm];exact this)⟩
       obtain ⟨x2,jv⟩:=Ot;obtain ⟨x0,y1,y2⟩:=C4 (c6 _ _ _ _ k1) g2 g3 jv k4;rw[k3] at y1;cases y1;have g8l:=(ha.fun ((k1.app (.step g1 g2 g3 g4 g5 g6 g7 g8)) |> fun h=>by rw[z1];exact h)).2.2;by_cases im:i'=i2∧c'=c2
       ·rw[ak im] at y2;obtain ⟨rfl,rfl⟩:=im;rw[k3] at g2;cases g2;rw[k5] at g5;cases g5;exact ⟨_,Ol g8 (by rw[hl,g8l]),b',e',_,Ca,T,f,x2,z2,(hw b' ay).trans k2,jv,k4,y2,k6⟩
       ·rw[aj im,k5] at y2;exact ⟨l0,rfl,b',e',_,Ca,T,f,x2,z2,(hw b' ay).trans k2,jv,k4,y2,k6⟩
    ·subst z2;obtain ⟨zJ,g1,g2⟩:=vL r i' c' t v ea l0 aY hv ht ⟨_,_,_,Ca,T,f,x,z3,k2,k3,k4,k5,k6⟩;obtain ⟨b5,e5,iX,C5,T5,f5,x5,q1,q2,q3,q4,q5,q6⟩:=g2;exact ⟨zJ,g1,_,_,_,C5,T5,f5,x5,z4 _ _ _ q1,q2,q3,q4,q5,q6⟩
    ·exact ⟨l0,rfl,b',e',m,Ca,T,f,x,z1,(hw b' z2).trans k2,k3,k4,k5,k6⟩
   ·rw[cu _ _ hi,h] at h';cases h';exact ⟨l0,rfl,hc.mono fun _ _ _ _ hh=>same hi h (.row fI hh)⟩
 have hold: ∀{aw cw b'},aq hp id (some (.nest e0 (setRow P l' e0 es path) vers')) aw=some cw→bd P w' (β aw) cw b'→
   (∃js,hp aw=some js∧bd P w (β aw) js b')∨(aw=id∧(M b'∨B≤b')∧∀bj cw,hp bj=some cw→¬bd P w (β bj) cw b'):=by
  intro aw cw b' h ho;by_cases hi:aw=id
  ·subst hi;rw[bE] at h;cases h;rcases qM b' ho with h|h
   ·exact .inl ⟨_,ab,h⟩
   ·exact .inr ⟨rfl,h⟩
  ·rw[cu _ _ hi] at h;exact .inl ⟨cw,h,ho.mono fun b2 pU=>same hi h pU⟩
 refine ⟨hle,⟨⟨fun aw cw h=> ?_,fun i1 i2 b1 b2 b' h1 h2 o1 o2=> ?_,fun aw cw b' h ho=> ?_,fun b' h=>by rw[aU];exact S.h.iE b' h⟩,fun b' h1 h2=> ?_,by rw[aU];exact S.size,S.new,⟨lH.1.trans S.io.1,lH.2.trans S.io.2⟩⟩⟩
 ·by_cases hi:aw=id
  ·subst hi;rw[bE] at h;cases h;rw[hb];refine .nest rfl (fun q b' e' m h=> ?_) (fun q1 q2 b' f1 m1 f2 m2 h1 h2=> ?_)
   ·rcases vK q b' e' m h with ⟨r,m0,z1,z2,z3⟩|⟨r,z1,z2,z3⟩|⟨z1,z2,z3,z4⟩
    ·subst z3;subst z1;obtain ⟨b5,e5,m5,g1,g2⟩:=At.split ha;obtain ⟨w1,w2,w3⟩:=g1.fun z2;subst w1;subst w2;subst w3;cases r with
     | nil=>cases g2;exact afT
     | cons a r=>
      cases g2 with
      | step g1' g2 g3 g4 g5 g6 g7 g8=>
       refine (c6 _ _ _ _ z2).above g1' g2 g3 g4 g5 g6 g7 g8 hl (hw _ fun e=> ?_) vM iW;subst e;have:=lJ _ _ _ z2;have:=congrArg List.length this;simp at this
    ·cases r with
     | nil=>exact absurd rfl z1
     | cons a r=>
      obtain ⟨y1,y2⟩:=V4 a r b' e' m z3;rcases y2 with y2|⟨rfl,y2⟩
      ·exact (c6 _ _ _ _ (ha.app y2)).cH (hw _ y1) vM iW
      ·exact (hK _ _ _ _ y2).1.cH (hw _ y1) vM iW
    ·exact (c6 _ _ _ _ z1).cH (hw _ z2) vM iW
   ·rcases Ou _ _ _ _ h1 with ⟨e2,m2',x1⟩|⟨r1,x1,x2⟩<;>rcases Ou _ _ _ _ h2 with ⟨e3,m3',y1⟩|⟨r2,y1,y2⟩
    ·exact kg _ _ _ _ _ _ _ x1 y1
    ·exact absurd (bd.row hb x1) ((hK _ _ _ _ y2).2.2 _ _ ab)
    ·exact absurd (bd.row hb y1) ((hK _ _ _ _ x2).2.2 _ _ ab)
    ·rw[x1,y1,rZ _ _ _ _ _ _ _ x2 y2]
  ·rw[cu _ _ hi] at h;exact (S.h.rel aw cw h).mono hle fun b' ho=>⟨same hi h ho,fun _ h=>h⟩
 ·rcases hold h1 o1 with ⟨c1,x1,y1⟩|⟨rfl,x1,y1⟩<;>rcases hold h2 o2 with ⟨c2,x2,y2⟩|⟨rfl,x2,y2⟩
  ·exact S.h.inj i1 i2 c1 c2 b' x1 x2 y1 y2
  ·exact absurd y1 (y2 _ _ x1)
  ·exact absurd y2 (y1 _ _ x2)
  ·rfl
 ·rcases hold h ho with ⟨c1,x1,y1⟩|⟨rfl,x1,y1⟩
  ·exact S.h.own aw c1 b' x1 y1
  ·exact x1
 ·rw[hw b' fun e=> ?_]
  ·exact S.cH b' h1 h2
  ·subst e;rcases S.h.own id _ b' ab V5 with h|h
   ·exact h2 h
   ·omega
theorem afU {i i' n c c' k:Nat} (hc':c'<n) (oZ:c+k≤n) (h1:i*n+c≤i'*n+c') (h2:i'*n+c'<i*n+c+k):i'=i∧c≤c'∧c'<c+k:=by
 have:i'=i:=by
  rcases Nat.lt_trichotomy i' i with h|h|h
  ·have:=ef n (Nat.succ_le_of_lt h);rw[Nat.succ_mul] at this;omega
  ·exact h
  ·have:=ef n (Nat.succ_le_of_lt h);rw[Nat.succ_mul] at this;omega
 subst this;omega
theorem afV {b1 i c:Nat} {e1 T:TypeId} {l cs:List V} {x0:V} {Ca:Array Value} {vs:List Value} (hR:gm P w I b1 e1 l) (hh:w.heap[b1]? =some (.cells Ca T (0,0))) (hs:l.length*P.cellsOf e1≤Ca.size)
  (hx:l[i]? =some x0) (hk:cs.length=vs.length) (oZ:c+cs.length≤P.cellsOf e1):
  ∀{i' c':Nat} {x':V} {t':TypeId},(l.set i (dm P e1 (gY (parts P e1 x0) c cs)))[i']? =some x'→(aP P e1)[c']? =some t'→
   ∃x1,l[i']? =some x1∧((∃j y u,i'=i∧c'=c+j∧cs[j]? =some y∧vs[j]? =some u∧bX P e1 x' c'=y∧(Ca.toList.take (i*P.cellsOf e1+c)++(vs++Ca.toList.drop (i*P.cellsOf e1+c+vs.length))).toArray[i'*P.cellsOf e1+c']? =some u)∨
    (bX P e1 x' c'=bX P e1 x1 c'∧(Ca.toList.take (i*P.cellsOf e1+c)++(vs++Ca.toList.drop (i*P.cellsOf e1+c+vs.length))).toArray[i'*P.cellsOf e1+c']? =Ca[i'*P.cellsOf e1+c']?)):=by
 intro i' c' x' t' cW fw;have oh:i<l.length:=(ct.1 hx).1;have IN:c'<P.cellsOf e1:=by rw[←eC hR.ok];exact (ct.1 fw).1
 have eb:(parts P e1 x0).length=P.cellsOf e1:=by rw[zF];exact eC hR.ok
 have hbound:i*P.cellsOf e1+c+vs.length≤Ca.toList.length:=by
  have:(i+1)*P.cellsOf e1≤l.length*P.cellsOf e1:=ef _ oh;rw[jN] at this;simp only[Array.length_toList];omega
 simp only[nT];rw[pV _ _ _ _ hbound];by_cases ju:i'=i∧c≤c'∧c'<c+cs.length
 ·obtain ⟨rfl,h1,h2⟩:=ju;rw[qx oh] at cW;cases cW;refine ⟨x0,hx,.inl ?_⟩;rw[bO,bu,show i'*P.cellsOf e1+c'-(i'*P.cellsOf e1+c)=c'-c by omega];have hy:cs[c'-c]? =some cs[c'-c]:=bS (by omega);have hu:vs[c'-c]? =some vs[c'-c]:=bS (by omega);refine ⟨c'-c,_,_,rfl,by omega,hy,hu,?_,hu⟩;refine tQ ?_ fw;unfold gY;rw[pV _ _ _ _ (by omega),bO,bu];exact hy
 ·have C7: ¬(i*P.cellsOf e1+c≤i'*P.cellsOf e1+c'∧i'*P.cellsOf e1+c'<i*P.cellsOf e1+c+vs.length):=fun h=>ju (afU IN oZ h.1 (by omega));have hg:(if i'*P.cellsOf e1+c'<i*P.cellsOf e1+c then Ca.toList[i'*P.cellsOf e1+c']? else if i'*P.cellsOf e1+c'<i*P.cellsOf e1+c+vs.length then vs[i'*P.cellsOf e1+c'-(i*P.cellsOf e1+c)]? else Ca.toList[i'*P.cellsOf e1+c']?)=Ca[i'*P.cellsOf e1+c']? :=by
   by_cases h1:i'*P.cellsOf e1+c'<i*P.cellsOf e1+c
   ·rw[ak h1];simp
   ·rw[aj h1,bO];simp
  by_cases hi:i'=i
  ·subst hi;rw[qx oh] at cW;cases cW;refine ⟨x0,hx,.inr ⟨?_,hg⟩⟩;have h1:(gY (parts P e1 x0) c cs)[c']? =some (fS P t' (bX P e1 x0 c')):=by
    unfold gY;rw[pV _ _ _ _ (by omega)];by_cases h1:c'<c
    ·rw[ak h1];exact pS fw
    ·rw[aj h1,bO];exact pS fw
   rw[tQ h1 fw];obtain ⟨xd,_,_,_,_,tR⟩:=hR.cells;obtain ⟨v,_,ho⟩:=tR i' c' x0 t' hx fw IN;exact ho.vI
  ·rw[B5 (fun h=>hi h.symm)] at cW;exact ⟨x',cW,.inr ⟨rfl,hg⟩⟩
theorem afW {w:World} {b1:Nat} {Ca Cb:Array Value} {T:TypeId} (hh:w.heap[b1]? =some (.cells Ca T (0,0))) (hs:Cb.size=Ca.size) (k:Nat):bsize (w.setRow b1 Cb) k=bsize w k:=by
 by_cases hk:k=b1
 ·subst hk;rw[jW (setRow_heap w k Ca Cb T (0,0) hh),jW hh,hs]
 ·simp only[bsize,setRow_other w b1 k Cb hk]
theorem IP (S:aA P w I β hp B M w0) {t:TypeId} {v:Value} {id b b1 i c:Nat} {e0 e1:TypeId} {es l cs:List V} {vers vers':List Nat} {path:Path} {x0:V} (K:Path→Nat→TypeId→List V→Prop)
  (ab:hp id=some (.nest e0 es vers)) (hb:β id=some b) (ha:At P w b e0 es path b1 e1 l) (ht:n0 P t=true) (hn:P.cellsOf t=v.cells.size)
  (hx:l[i]? =some x0) (hk:cs.length=v.cells.size) (oZ:c+cs.length≤P.cellsOf e1) (h1: ∀u∈v.cells.toList,u.oneCell'=true)
  (dr: ∀(j:Nat) y u t',cs[j]? =some y→v.cells.toList[j]? =some u→(aP P e1)[c+j]? =some t'→od P w I t' u y)
  (afX: ∀(j:Nat) y u t' e3 gN b3 len cap,cs[j]? =some y→v.cells.toList[j]? =some u→(aP P e1)[c+j]? =some t'→P.underlying t'=some (.slice e3)→y= .list e3 gN→0<cap→
   u= .slice (some ⟨b3,0,none⟩) len cap→j=0∧∀r b' e' m,At P w b3 e3 gN r b' e' m→b'≠b1∧K r b' e' m)
  (hK: ∀r b' e' m,K r b' e' m→gm P w I b' e' m∧(M b'∨B≤b')∧(∀bj cw,hp bj=some cw→¬bd P w (β bj) cw b'))
  (rZ: ∀r1 r2 b' e1 m1 e2 m2,K r1 b' e1 m1→K r2 b' e2 m2→r1=r2)
  (mA:vers'.length=vers.length) (CL: ∀k,bz vers k≤bz vers' k)
  (gE:(∀(j:Nat) t',j<cs.length→(aP P e1)[c+j]? =some t'→dF P t'=true)∨∀k,path.length≤k→k<vers.length→bz vers' k≠bz vers k):
  ∃w',(Instr.storeAt t (.pointer (some ⟨b1,i*P.cellsOf e1+c,none⟩)) v).run P w= .ok () w'∧
   Le P w I β hp w' I β (aq hp id (some (.nest e0 (setRow P (l.set i (dm P e1 (gY (parts P e1 x0) c cs))) e0 es path) vers')))∧
   aA P w' I β (aq hp id (some (.nest e0 (setRow P (l.set i (dm P e1 (gY (parts P e1 x0) c cs))) e0 es path) vers'))) B M w0:=by
 have hR:=S.rows ab hb ha;obtain ⟨Ca,T,hh,hL,hs,tR⟩:=hR.cells;have oh:i<l.length:=(ct.1 hx).1;have dh:cs.length=v.cells.toList.length:=by simpa using hk
 have Oi:i*P.cellsOf e1+c+v.cells.size≤Ca.size:=by
  have:(i+1)*P.cellsOf e1≤l.length*P.cellsOf e1:=ef _ oh;rw[jN] at this;omega
 have cI:=IK (t:=t) (o:=i*P.cellsOf e1+c) (v:=v) ht hn hh Oi h1;have hlen:(Ca.toList.take (i*P.cellsOf e1+c)++(v.cells.toList++Ca.toList.drop (i*P.cellsOf e1+c+v.cells.toList.length))).length=Ca.size:=by
  rw[CY _ _ _ (by simpa using Oi)];simp
 have cn:= @afV P w I b1 i c e1 T l cs x0 Ca v.cells.toList hR hh hs hx dh oZ;have da:=hR.nI;have hr:=S.h.rel id _ ab;rw[hb] at hr;cases hr with
 | gD ay=>cases ay
 | nest ay c6 kg=>
 cases ay;have lJ: ∀q e' m,At P w b1 e1 l q b1 e' m→q=[]:=by
  intro q e' m h;have:=kg _ _ _ _ _ _ _ (ha.app h) ha;simpa using this
 have tS:=setRow_heap w b1 Ca (Ca.toList.take (i*P.cellsOf e1+c)++(v.cells.toList++Ca.toList.drop (i*P.cellsOf e1+c+v.cells.toList.length))).toArray T (0,0) hh;have iW:=afW hh (Cb:=(Ca.toList.take (i*P.cellsOf e1+c)++(v.cells.toList++Ca.toList.drop (i*P.cellsOf e1+c+v.cells.toList.length))).toArray) (by simpa using hlen);have sa:=fun k (hk:k≠b1)=>setRow_other w b1 k (Ca.toList.take (i*P.cellsOf e1+c)++(v.cells.toList++Ca.toList.drop (i*P.cellsOf e1+c+v.cells.toList.length))).toArray hk;generalize IQ:(Ca.toList.take (i*P.cellsOf e1+c)++(v.cells.toList++Ca.toList.drop (i*P.cellsOf e1+c+v.cells.toList.length))).toArray=Cb at*
 generalize hL':l.set i (dm P e1 (gY (parts P e1 x0) c cs))=l' at*
 have mD:l'.length=l.length:=by rw[←hL'];simp
 have vM: ∀k j,I k j→(w.setRow b1 Cb).cell? ⟨k,j,none⟩=w.cell? ⟨k,j,none⟩:=fun k j hk=>World.cell?_of_block (sa k (fun e=>da j (e▸hk)));refine ⟨_,cI,afS S (i:=i) (c:=c) K ab hb ha mD sa iW (by simp) ⟨rfl,rfl⟩ ?_ ?_ hK rZ mA CL ?_⟩
 ·refine ⟨hR.ok,⟨Cb,T,tS,(show Cb.size=Ca.size by rw[←IQ];simpa using hlen)▸hL,by rw[mD,←IQ];simp only[qw];omega,fun i' j x' t' k1 k2 k3=> ?_⟩,da⟩;obtain ⟨x1,y1,y2⟩:=cn k1 k2;rcases y2 with ⟨jj,y,u,rfl,rfl,z1,z2,z3,z4⟩|⟨z3,z4⟩
  ·exact ⟨u,z4,by rw[z3];exact (dr jj y u t' z1 z2 k2).mono (fun _ _ h=>h) vM fun _ _ _ _ _=>iW _⟩
  ·obtain ⟨v1,m1,m2⟩:=tR i' j x1 t' y1 k2 k3;exact ⟨v1,z4.trans m1,by rw[z3];exact m2.mono (fun _ _ h=>h) vM fun _ _ _ _ _=>iW _⟩
 ·intro a r b' e' m h;obtain ⟨i',c'⟩:=a;cases h with
  | step k1 k2 k3 k4 k5 k6 k7 k8=>
   rw[tS] at k1;cases k1;obtain ⟨x1,y1,y2⟩:=cn k2 k3;rcases y2 with ⟨jj,y,u,rfl,rfl,z1,z2,z3,z4⟩|⟨z3,z4⟩
   ·rw[k7] at z4;obtain ⟨g1,g2⟩:=afX jj y u _ _ _ _ _ _ z1 z2 k3 k4 (z3.symm.trans k5) k6 (dC z4).symm;subst g1;have jY:=k8.vC (w:=w) fun q2 b5 e5 iX hq=>sa b5 (g2 _ _ _ _ hq).1;exact ⟨(g2 _ _ _ _ jY).1,.inr ⟨rfl,(g2 _ _ _ _ jY).2⟩⟩
   ·rw[k5] at z3;rw[k7] at z4;have bL: ∀q2 b5 e5 iX,At P w _ _ _ q2 b5 e5 iX→b5≠b1:=fun q2 b5 e5 iX hq xk=>by
     subst xk;have:=lJ _ _ _ (.step hh y1 k3 k4 z3.symm k6 z4.symm hq);cases this
    have jY:=k8.vC (w:=w) fun q2 b5 e5 iX hq=>sa b5 (bL q2 b5 e5 iX hq);exact ⟨bL _ _ _ _ jY,.inl (.step hh y1 k3 k4 z3.symm k6 z4.symm jY)⟩
 ·intro r i' c' t' v' ea l0 aY Ow oj hc;rcases gE with gE|gE
  ·
   have ew: ∀{i' c' x1 t' e3},l[i']? =some x1→(aP P e1)[c']? =some t'→P.underlying t'=some (.slice e3)→∃x',l'[i']? =some x'∧bX P e1 x' c'=bX P e1 x1 c'∧Cb[i'*P.cellsOf e1+c']? =Ca[i'*P.cellsOf e1+c']? :=by
    intro i' c' x1 t' e3 g1 g2 g3;have aY:i'<l'.length:=by rw[mD];exact (ct.1 g1).1
    have cW:=bS aY;obtain ⟨x2,y1,y2⟩:=cn cW g2;rw[g1] at y1;cases y1;rcases y2 with ⟨jj,y,u,rfl,rfl,z1,z2,z3,z4⟩|⟨z3,z4⟩
    ·have:=gE jj t' (ct.1 z1).1 g2;unfold dF at this;rw[g3] at this;cases this
    ·exact ⟨_,cW,z3,z4⟩
   obtain ⟨b',e',m,C5,T,f,x,k1,k2,k3,k4,k5,k6⟩:=hc;refine ⟨l0,rfl,?_⟩;cases k1 with
   | here=>
    rw[hh] at k2;cases k2;obtain ⟨x',g1,g2,g3⟩:=ew k3 k4 oj;exact ⟨_,_,l',Cb,_,_,x',.here,tS,g1,k4,g2.trans k5,g3.trans k6⟩
   | step q1 q2 q3 q4 q5 q6 q7 q8=>
    have q1':=q1;rw[hh] at q1;cases q1;obtain ⟨x',g1,g2,g3⟩:=ew q2 q3 q4;have bL: ∀q2 b5 e5 iX,At P w _ _ _ q2 b5 e5 iX→b5≠b1:=fun q9 b5 e5 iX hq xk=>by
     subst xk;have:=lJ _ _ _ (.step hh q2 q3 q4 q5 q6 q7 hq);cases this
    have jY:=q8.mono (w':=w.setRow b1 Cb) fun q2 b5 e5 iX hq=>sa b5 (bL q2 b5 e5 iX hq);exact ⟨b',e',m,C5,T,f,x,.step tS g1 q3 q4 (g2.trans q5) q6 (g3.trans q7) jY,(sa _ (bL _ _ _ _ q8)).trans k2,k3,k4,k5,k6⟩
  ·exact absurd Ow (gE _ (by simp) aY)
theorem C8: ∀(vs:List Nat) (d k:Nat),d≤k→k<vs.length→bz (raise d vs) k=bz vs k+1
 | [],d,k,_,h=>by simp at h
 | v::vs,0,0,_,_=>by simp[raise,bz]
 | v::vs,0,k+1,_,h=>by
  have:=C8 vs 0 k (kP _) (by simpa using h);simpa[raise,bz] using this
 | v::vs,d+1,0,h,_=>by omega
 | v::vs,d+1,k+1,h,h2=>by
  have:=C8 vs d k (by omega) (by simpa using h2);simpa[raise,bz] using this
theorem IS: ∀(vs:List Nat) (d:Nat),(raise d vs).length=vs.length
 | [],0=>rfl
 | [],d+1=>rfl
 | v::vs,0=>by simp[raise]
 | v::vs,d+1=>by simp[raise,IS vs d]
theorem C9: ∀(vs:List Nat) (d k:Nat),bz vs k≤bz (raise d vs) k
 | [],0,k=>by simp[raise,bz]
 | [],d+1,k=>by simp[raise,bz]
 | v::vs,0,0=>by simp[raise,bz]
 | v::vs,0,k+1=>by
  have:=C9 vs 0 k;simpa[raise,bz] using this
 | v::vs,d+1,0=>by simp[raise,bz]
 | v::vs,d+1,k+1=>by
  have:=C9 vs d k;simpa[raise,bz] using this
theorem afY {t:TypeId} {v:Value} {x:V} (hv:ai P w I β hp v x) (h:eU P t x=true) (hs:dF P t=true):Pure P w I t v x:=by
 unfold dF at hs;unfold eU at h;cases hu:P.underlying t with
 | none=>rw[hu] at hs;cases hs
 | some d=>
  rw[hu] at hs h;cases d<;>simp only at hs<;>first|(cases hs;done)|skip
  all_goals cases x<;>simp only at h<;>first|(cases h;done)|skip
  ·rw[hv.kZ];exact .bool hu
  ·simp only[fQ] at h;subst h;rw[hv.eY];exact .int hu
  ·obtain ⟨s,rfl,hl⟩:=hv.nf;exact .str hu hl
def Ox (P:Program) (w:World) (I:Nat→Nat→Prop) (o:Option Nat) (blk:ag) (b2:Nat) (e2:TypeId) (bJ:List V):Prop:=
 (∀r b' e' m,At P w b2 e2 bJ r b' e' m→gm P w I b' e' m∧bd P w o blk b')∧∀r1 r2 b' e1 m1 IT m2,At P w b2 e2 bJ r1 b' e1 m1→At P w b2 e2 bJ r2 b' IT m2→r1=r2
theorem Oy (S:aA P w I β hp B M w0) {bj b2:Nat} {e2:TypeId} {bJ:List V} (ab:hp bj=some (.arr e2 bJ false)) (hb:β bj=some b2) (hs:(flat P e2).all (dF P)=true):
  Ox P w I (β bj) (.arr e2 bJ false) b2 e2 bJ:=by
 have only: ∀r b' e' m,At P w b2 e2 bJ r b' e' m→r=[]:=by
  intro r b' e' m h;cases h with
  | here=>rfl
  | step h1 h2 h3 h4 h5 h6 h7 h8=>
   rw[qJ] at h3;have:=fF.1 hs _ (kO h3);unfold dF at this;rw[h4] at this;cases this
 refine ⟨fun r b' e' m h=> ?_,fun r1 r2 b' e1 m1 IT m2 h1 h2=>by rw[only _ _ _ _ h1,only _ _ _ _ h2]⟩;have:=only _ _ _ _ h;subst this;cases h;have hr:=S.h.rel bj _ ab;cases hr with
 | dY ay=>rw[hb] at ay;cases ay
 | arr hL au ay hh aU hf eN hx=>
  rw[hb] at ay;cases ay;refine ⟨⟨au,⟨_,_,hh,hL,aU,fun i j x t' k1 k2 k3=> ?_⟩,eN rfl⟩,.root (by simp) hb⟩;obtain ⟨v,m1,m2⟩:=hx i j x t' k1 k2 k3;refine ⟨v,m1,.fu ?_ m2⟩;rw[qJ] at k2;exact fF.1 hs _ (kO k2)
theorem afZ (S:aA P w I β hp B M w0) {bj b2:Nat} {e2:TypeId} {bJ:List V} {qH:List Nat} (ab:hp bj=some (.nest e2 bJ qH)) (hb:β bj=some b2):
  Ox P w I (β bj) (.nest e2 bJ qH) b2 e2 bJ:=by
 have hr:=S.h.rel bj _ ab;cases hr with
 | gD ay=>rw[hb] at ay;cases ay
 | nest ay c6 kg=>
  rw[hb] at ay;cases ay;exact ⟨fun r b' e' m h=>⟨c6 _ _ _ _ h,.row hb h⟩,fun r1 r2 b' e1 m1 IT m2 h1 h2=>kg _ _ _ _ _ _ _ h1 h2⟩
theorem V6 {c:Nat} {e1 e2 t':TypeId} (h:(((flat P e1).drop c).take 1).all (fun u=>match P.underlying u with|some (.slice e3)=>Nat.beq e2 e3|_=>false)=true) (ht:(aP P e1)[c]? =some t'):
  P.underlying t'=some (.slice e2):=by
 rw[qJ] at ht;have hm:t'∈((flat P e1).drop c).take 1:=by
  refine kO (i:=0) ?_;rw[gX (by omega),pE];simpa using ht
 have:=fF.1 h _ hm;split at this
 ·rename_i e3 hu;rw[aN] at this;rw[hu,this]
 ·cases this
theorem V7 (S:aA P w I β hp B M w0) {t:TypeId} {v:Value} {id bj b b1 i c:Nat} {e0 e1 e2:TypeId} {es l bJ:List V} {vers:List Nat} {path:Path} {x0:V} {cw:ag}
  (ab:hp id=some (.nest e0 es vers)) (hb:β id=some b) (ha:At P w b e0 es path b1 e1 l) (ht:n0 P t=true) (hn:P.cellsOf t=1)
  (hx:l[i]? =some x0) (oZ:c+1≤P.cellsOf e1) (Db:(((flat P e1).drop c).take 1).all (fun u=>match P.underlying u with|some (.slice e3)=>Nat.beq e2 e3|_=>false)=true)
  (db:hp bj=some cw) (bL:id≠bj)
  (hv:((∃a,v= .slice a 0 0)∧bJ=[])∨∃b2 cap,v= .slice (some ⟨b2,0,none⟩) bJ.length cap∧cap*P.cellsOf e2=bsize w b2∧bJ.length≤cap∧cap≤maxLen∧Ox P w I (β bj) cw b2 e2 bJ):
  qQ P ((Instr.storeAt t (.pointer (some ⟨b1,i*P.cellsOf e1+c,none⟩)) v).run P w) w I β hp B M w0
   ⟨.undef,[(id,.nest e0 (setRow P (l.set i (dm P e1 (gY (parts P e1 x0) c [.list e2 bJ]))) e0 es path) (raise path.length vers)),(bj,.dead)]⟩:=by
 obtain ⟨sb,S1⟩:=vG S db;have qS:aq hp bj (some .dead) id=some (.nest e0 es vers):=by rw[cu _ _ bL];exact ab
 have tR:v.cells= #[v]:=by rcases hv with ⟨⟨_,rfl⟩,_⟩|⟨b2,cap,rfl,_⟩<;>rfl
 have qT:v.oneCell'=true:=by rcases hv with ⟨⟨_,rfl⟩,_⟩|⟨b2,cap,rfl,_⟩<;>rfl
 have free: ∀b',bd P w (β bj) cw b'→(M b'∨B≤b')∧∀IU js,aq hp bj (some .dead) IU=some js→¬bd P w (β IU) js b':=by
  intro b' ho;refine ⟨S.h.own bj cw b' db ho,fun IU js h3 V8=> ?_⟩;by_cases hi:IU=bj
  ·subst hi;rw[bE] at h3;cases h3;exact V8.alive rfl
  ·rw[cu _ _ hi] at h3;exact hi (S.h.inj _ _ _ _ b' h3 db V8 ho)
 have pW: ∀b',bd P w (β bj) cw b'→b'≠b1:=by
  intro b' ho e;subst e;exact bL (S.h.inj _ _ _ _ b' ab db (.row hb ha) ho)
 have dr: ∀(j:Nat) y u t',[V.list e2 bJ][j]? =some y→v.cells.toList[j]? =some u→(aP P e1)[c+j]? =some t'→j=0∧y= .list e2 bJ∧u=v∧P.underlying t'=some (.slice e2):=by
  intro j y u t' k1 k2 k3;cases j with
  | succ j=>simp at k1
  | zero=>
   rw[tR] at k2;simp at k1 k2;exact ⟨rfl,k1.symm,k2.symm,V6 Db k3⟩
 rcases hv with ⟨⟨a0,rfl⟩,rfl⟩|⟨b2,cap,rfl,v1,v2,v3,v4⟩
 ·obtain ⟨w',r1,r2,r3⟩:=IP S1 (vers':=raise path.length vers) (fun _ _ _ _=>False) qS hb ha ht (v:= .slice a0 0 0) hn hx (cs:=[.list e2 []]) rfl oZ (by rw[tR];simp[qT])
   (fun j y u t' k1 k2 k3=>by obtain ⟨rfl,rfl,rfl,k4⟩:=dr j y u t' k1 k2 k3;exact .emp k4)
   (fun j y u t' e3 gN b3 len cap k1 k2 k3 k4 k5 k6=>by obtain ⟨rfl,rfl,rfl,k7⟩:=dr j y u t' k1 k2 k3;intro k8;cases k8;exact absurd k6 (ml _))
   (fun _ _ _ _ h=>h.elim) (fun _ _ _ _ _ _ _ h=>h.elim) (IS _ _) (C9 _ _) (.inr fun k h1 h2=>by rw[C8 _ _ _ h1 h2];omega)
  exact ⟨w',I,β,r1,sb.trans r2,r3,rfl⟩
 ·obtain ⟨w',r1,r2,r3⟩:=IP S1 (vers':=raise path.length vers) (fun r b' e' m=>At P w b2 e2 bJ r b' e' m) qS hb ha ht (v:= .slice (some ⟨b2,0,none⟩) bJ.length cap) hn hx (cs:=[.list e2 bJ]) rfl oZ (by rw[tR];simp[qT])
   (fun j y u t' k1 k2 k3=>by
    obtain ⟨rfl,rfl,rfl,k4⟩:=dr j y u t' k1 k2 k3;rcases B6 cap with h0|h0
    ·subst h0;obtain rfl:=u9.1 (ve.1 v2);exact .emp k4
    ·exact .row k4 h0 v1 v2 v3)
   (fun j y u t' e3 gN b3 len cap k1 k2 k3 k4 k5 k6 k8=>by
    obtain ⟨rfl,rfl,rfl,k7⟩:=dr j y u t' k1 k2 k3;cases k5;cases k8;exact ⟨rfl,fun r b' e' m h=>⟨pW _ (v4.1 _ _ _ _ h).2,h⟩⟩)
   (fun r b' e' m h=>⟨(v4.1 _ _ _ _ h).1,free _ (v4.1 _ _ _ _ h).2⟩) (fun r1 r2 b' e1 m1 IT m2 h1 h2=>v4.2 _ _ _ _ _ _ _ h1 h2) (IS _ _) (C9 _ _) (.inr fun k h1 h2=>by rw[C8 _ _ _ h1 h2];omega)
  exact ⟨w',I,β,r1,sb.trans r2,r3,rfl⟩
theorem V9 (S:aA P w I β hp B M w0) {t:TypeId} {v:Value} {x:V} {r:R} {rd:List Nat} {id b b1 i c:Nat} {e0 e1:TypeId} {es l:List V} {vers:List Nat} {path:Path}
  (ht:n0 P t=true) (hn:x.cells.length=P.cellsOf t) (hv:ai P w I β hp v x) (ab:hp id=some (.nest e0 es vers)) (hb:β id=some b) (ha:At P w b e0 es path b1 e1 l)
  (h:(H8 P t id e0 es vers path i c x).run C hp=some (r,rd)):qQ P ((Instr.storeAt t (.pointer (some ⟨b1,i*P.cellsOf e1+c,none⟩)) v).run P w) w I β hp B M w0 r:=by
 unfold H8 at h;obtain ⟨aY,h⟩:=aD h;rw[nR] at aY;obtain ⟨e',vv,q1,q2,h⟩:=zA h;obtain ⟨p1,p2⟩:=N5 ha;rw[p1] at q1;cases q1;rw[p2] at q2;cases q2;simp only[V.toList] at h;obtain ⟨au,h⟩:=aD h;obtain ⟨x0,tT,h⟩:=mC h;obtain ⟨oZ,h⟩:=aD h;rw[fk] at oZ;have slice: ∀e2,P.underlying t=some (.slice e2)→
   ((((Rd.aB ((((flat P e1).drop c).take x.cells.length).all fun u=>match P.underlying u with|some (.slice e3)=>Nat.beq e2 e3|_=>false) (
     match (generalizing:=false) x with
     | .nilS e3=> .aB (Nat.beq e2 e3) (.ret ⟨.undef,[(id,.nest e0 (setRow P (l.set i (dm P e1 (gY (parts P e1 x0) c [.list e2 []]))) e0 es path) (raise path.length vers))]⟩)
     | .whole e3 bj=> .get bj fun
      | some (.arr e4 bJ false)=> .aB (Nat.beq e2 e3&&(Nat.beq e3 e4&&(!(Nat.beq id bj)&&(flat P e2).all (dF P))))
        (.ret ⟨.undef,[(id,.nest e0 (setRow P (l.set i (dm P e1 (gY (parts P e1 x0) c [.list e2 bJ]))) e0 es path) (raise path.length vers)),(bj,.dead)]⟩)
      | some (.nest e4 bJ _)=> .aB (Nat.beq e2 e3&&(Nat.beq e3 e4&& !(Nat.beq id bj)))
        (.ret ⟨.undef,[(id,.nest e0 (setRow P (l.set i (dm P e1 (gY (parts P e1 x0) c [.list e2 bJ]))) e0 es path) (raise path.length vers)),(bj,.dead)]⟩)
      | _=> .fail
     | _=> .fail)):Rd R).run C hp))=some (r,rd)→
   qQ P ((Instr.storeAt t (.pointer (some ⟨b1,i*P.cellsOf e1+c,none⟩)) v).run P w) w I β hp B M w0 r:=by
  intro e2 hu h;obtain ⟨Db,h⟩:=aD h;cases x with
  | nilS e3=>
   obtain ⟨hc,h⟩:=aD h;obtain rfl:=aM h;rw[aN] at hc;subst hc;cases hv with
   | nilS=>
    obtain ⟨w',r1,r2,r3⟩:=IP S (v:= .slice none 0 0) (vers':=raise path.length vers) (fun _ _ _ _=>False) ab hb ha ht hn.symm tT (cs:=[.list e2 []]) rfl oZ (by simp[Value.cells,Value.oneCell'])
     (fun j y u t' k1 k2 k3=>by
      cases j with
      | succ j=>simp at k1
      | zero=>
       simp[Value.cells] at k1 k2;subst k1;subst k2;exact .emp (V6 Db k3))
     (fun j y u t' e3 gN b3 len cap k1 k2 k3 k4 k5 k6=>by
      cases j with
      | succ j=>simp at k1
      | zero=>simp[Value.cells] at k2;subst k2;intro k8;cases k8)
     (fun _ _ _ _ h=>h.elim) (fun _ _ _ _ _ _ _ h=>h.elim) (IS _ _) (C9 _ _) (.inr fun k h1 h2=>by rw[C8 _ _ _ h1 h2];omega)
    exact ⟨w',I,β,r1,r2,r3,rfl⟩
  | whole e3 bj=>
   obtain ⟨l1,h⟩:=run_get h;cases db:hp bj with
   | none=>rw[db] at h;cases h
   | some cw=>
    rw[db] at h;cases cw with
    | dead=>cases h
    | var _=>cases h
    | map _ _=>cases h
    | out _ _ _ _=>cases h
    | arr e4 bJ fz=>
     cases fz with
     | true=>cases h
     | false=>
      obtain ⟨hc,h⟩:=aD h;obtain rfl:=aM h;simp only[aK,aN,mn] at hc;obtain ⟨rfl,rfl,bL,gE⟩:=hc;have Oz:id≠bj:=fun e=>by rw[e,mo] at bL;cases bL
      refine V7 S ab hb ha ht hn.symm tT oZ Db db Oz ?_;cases hv with
      | dH bM=>rw[db] at bM;cases bM
      | dD bM fI=>rw[db] at bM;cases bM;exact .inl ⟨⟨_,rfl⟩,rfl⟩
      | whole bM fI bP hle qK=>
       rw[db] at bM;cases bM;exact .inr ⟨_,_,rfl,bP,hle,qK,Oy S db fI gE⟩
      | dO bM=>rw[db] at bM;cases bM
      | eB bM=>rw[db] at bM;cases bM
      | dw bM=>rw[db] at bM;cases bM
    | nest e4 bJ qH=>
     obtain ⟨hc,h⟩:=aD h;obtain rfl:=aM h;simp only[aK,aN,mn] at hc;obtain ⟨rfl,rfl,bL⟩:=hc;have Oz:id≠bj:=fun e=>by rw[e,mo] at bL;cases bL
     refine V7 S ab hb ha ht hn.symm tT oZ Db db Oz ?_;cases hv with
     | dH bM=>rw[db] at bM;cases bM
     | dD bM fI=>rw[db] at bM;cases bM
     | whole bM=>rw[db] at bM;cases bM
     | dO bM fI=>rw[db] at bM;cases bM;exact .inl ⟨⟨_,rfl⟩,rfl⟩
     | eB bM=>rw[db] at bM;cases bM
     | dw bM fI bP hle qK=>
      rw[db] at bM;cases bM;exact .inr ⟨_,_,rfl,bP,hle,qK,afZ S db fI⟩
  | _=>cases h
 have fu:(((Rd.aB ((((flat P e1).drop c).take x.cells.length).all (dF P)&&tt P (((flat P e1).drop c).take x.cells.length) x.cells)
   (.ret ⟨.undef,[(id,.nest e0 (setRow P (l.set i (dm P e1 (gY (parts P e1 x0) c x.cells))) e0 es path) vers)]⟩)):Rd R).run C hp)=some (r,rd)→
   qQ P ((Instr.storeAt t (.pointer (some ⟨b1,i*P.cellsOf e1+c,none⟩)) v).run P w) w I β hp B M w0 r:=by
  intro h;obtain ⟨hc,h⟩:=aD h;obtain rfl:=aM h;simp only[aK] at hc;obtain ⟨hs,en⟩:=hc;obtain ⟨tl,tg⟩:=xj en;have OA: ∀(j:Nat) t',j<x.cells.length→(aP P e1)[c+j]? =some t'→(((flat P e1).drop c).take x.cells.length)[j]? =some t':=by
   intro j t' hj fw;rw[gX hj,pE];rw[qJ] at fw;exact fw
  have sat: ∀(j:Nat) t',j<x.cells.length→(aP P e1)[c+j]? =some t'→dF P t'=true:=fun j t' hj fw=>
   fF.1 hs _ (kO (OA j t' hj fw))
  have pX:v.cells.size=x.cells.length∧∀(j:Nat) u y,v.cells.toList[j]? =some u→x.cells[j]? =some y→ai P w I β hp u y:=by
   have base:(∀xs,x≠ .agg xs)→x.cells=[x]→v.cells.size=x.cells.length∧∀(j:Nat) u y,v.cells.toList[j]? =some u→x.cells[j]? =some y→ai P w I β hp u y:=by
    intro _ rY;rw[rY] at tl tg OA⊢;have h0:0<(((flat P e1).drop c).take [x].length).length:=by rw[tl];exact Nat.one_pos
    have en:=tg 0 _ x (bS h0) rfl;obtain ⟨o1,o2⟩:=V3 hv en;rw[o2];refine ⟨rfl,fun j u y hu hy=> ?_⟩;cases j with
    | zero=>simp at hu hy;subst hu;subst hy;exact hv
    | succ j=>simp at hy
   cases x with
   | agg xs=>
    obtain ⟨cs,rfl,h1,h2⟩:=hv.la;exact ⟨h1,fun j u y a b=>h2 j u y (by simpa[Value.cells] using a) b⟩
   | _=>exact base (by simp) rfl
  have pure: ∀(j:Nat) u y t',v.cells.toList[j]? =some u→x.cells[j]? =some y→(aP P e1)[c+j]? =some t'→Pure P w I t' u y:=by
   intro j u y t' hu hy fw;have hj:=(ct.1 hy).1;exact afY (pX.2 j u y hu hy) (tg j t' y (OA j t' hj fw) hy) (sat j t' hj fw)
  obtain ⟨w',r1,r2,r3⟩:=IP S (v:=v) (vers':=vers) (fun _ _ _ _=>False) ab hb ha ht (by rw[pX.1];exact hn.symm) tT pX.1.symm oZ (fun u hu=>by
    obtain ⟨j,hj⟩:=rL hu;have dn:j<x.cells.length:=by rw[←pX.1];simpa using (ct.1 hj).1
    have qU:c+j<(aP P e1).length:=by rw[eC au];omega
    have one: ∀t' y,Pure P w I t' u y→u.oneCell'=true:=by intro t' y h;cases h<;>rfl
    exact one _ _ (pure j u _ _ hj (bS dn) (bS qU)))
   (fun j y u t' k1 k2 k3=> .fu (sat j t' (ct.1 k1).1 k3) (pure j u y t' k2 k1 k3))
   (fun j y u t' e3 gN b3 len cap k1 k2 k3 k4 k5 k6=>by
    have:=sat j t' (ct.1 k1).1 k3;unfold dF at this;rw[k4] at this;cases this)
   (fun _ _ _ _ h=>h.elim) (fun _ _ _ _ _ _ _ h=>h.elim) rfl (fun _=>az _) (.inl fun j t' hj fw=>sat j t' hj fw)
  exact ⟨w',I,β,r1,r2,r3,rfl⟩
 cases hu:P.underlying t with
 | none=>rw[hu] at h;exact fu h
 | some d=>
  cases d with
  | slice e2=>rw[hu] at h;exact slice e2 hu h
  | _=>rw[hu] at h;exact fu h
end
section
variable {P:Program} {w w':World} {I I':Nat→Nat→Prop} {β β':Nat→Option Nat} {hp hp':Nat→Option ag} {C:af} {B:Nat} {M:Nat→Prop} {w0:Start}
theorem vN {e e1:TypeId} (h:rowOf P e=some e1):P.underlying e=some (.slice e1)∧bZ P e=false∧cU P e=true∧cU P e1=true∧(flat P e1).all (dF P)=true:=by
 unfold rowOf at h;split at h
 ·rename_i e2 hu;cases hc:(!(bZ P e)&&(cU P e&&(cU P e2&&(flat P e2).all (dF P)))) with
  | false=>rw[hc] at h;cases h
  | true=>
   rw[hc] at h;cases h;simp only[aK,mn] at hc;exact ⟨hu,hc.1,hc.2.1,hc.2.2.1,hc.2.2.2⟩
 ·cases h
theorem af0 {e1:TypeId} (fU:(flat P e1).all (dF P)=true) {w:World} {b1 b':Nat} {e':TypeId} {l m:List V} {r:Path} (h:At P w b1 e1 l r b' e' m):r=[]∧b'=b1∧e'=e1∧m=l:=by
 cases h with
 | here=>exact ⟨rfl,rfl,rfl,rfl⟩
 | step h1 h2 h3 h4 h5 h6 h7 h8=>
  rw[qJ] at h3;have:=fF.1 fU _ (kO h3);unfold dF at this;rw[h4] at this;cases this
def xl (P:Program) (w:World) (e1:TypeId) (K:Nat→List V→Prop) (v:Value) (l:List V):Prop:=
 (l=[]∧∃a,v= .slice a 0 0)∨
 (∃b1 cap,0<cap∧v= .slice (some ⟨b1,0,none⟩) l.length cap∧cap*P.cellsOf e1=bsize w b1∧l.length≤cap∧cap≤maxLen∧K b1 l)
theorem Wa {b:Nat} {e e1:TypeId} {ys:List V} {vers:List Nat} {C':Array Value} (hr:rowOf P e=some e1)
  {T:TypeId} (tS:w'.heap[b]? =some (.cells C' T (0,0))) (hlen:ys.length≤C'.size) (da: ∀j,¬I b j) (K:Nat→Nat→List V→Prop)
  (fH: ∀(i:Nat) x,ys[i]? =some x→∃l v,x= .list e1 l∧C'[i]? =some v∧xl P w e1 (K i) v l)
  (hK: ∀i b1 l,K i b1 l→b1≠b∧w'.heap[b1]? =w.heap[b1]? ∧gm P w I b1 e1 l)
  (rZ: ∀i j b1 l m,K i b1 l→K j b1 m→i=j):
  (∀b',bd P w' (some b) (.nest e ys vers) b'→b'=b∨∃i l,K i b' l)∧
  ∀{cB eD},(∀b j,I b j→w'.cell? ⟨b,j,none⟩=w.cell? ⟨b,j,none⟩)→ei P w' I cB eD (some b) (.nest e ys vers):=by
 obtain ⟨hu,cE,au,ni,fU⟩:=vN hr;have hLs:qG P T e C'.size:=fun dP=>by unfold isByte at dP;rw[hu] at dP;cases dP
 have jw:aP P e=[e]:=by simp[aP,cE]
 have hk:P.cellsOf e=1:=by rw[←eC au,jw];rfl
 have xm: ∀x j,bX P e x j=x:=fun x j=>by simp[bX,cE]
 have Dc: ∀q b2 e2 m,At P w' b e ys q b2 e2 m→(q=[]∧b2=b∧e2=e∧m=ys)∨∃i,q=[(i,0)]∧e2=e1∧K i b2 m:=by
  intro q b2 e2 m h;cases h with
  | here=>exact .inl ⟨rfl,rfl,rfl,rfl⟩
  | step h1 h2 h3 h4 h5 h6 h7 h8=>
   right;rw[tS] at h1;cases h1;rw[jw] at h3;obtain ⟨hc,ht⟩:=ct.1 h3;simp only[List.length_singleton,Nat.lt_one_iff] at hc;subst hc;simp only[List.getElem_singleton] at ht;subst ht;rw[hu] at h4;cases h4;rw[xm] at h5;subst h5;rw[hk,ga,Nat.add_zero] at h7;obtain ⟨l,v,hl,hv,hh⟩:=fH _ _ h2;cases hl;rw[hv] at h7;cases h7;rcases hh with ⟨rfl,a',he⟩|⟨b1',Oo,_,he,_,_,_,tU⟩
   ·cases he;exact absurd h6 (ml _)
   ·cases he;obtain ⟨rfl,rfl,rfl,rfl⟩:=af0 fU h8;exact ⟨_,rfl,rfl,tU⟩
 have iY: ∀i b1 l,K i b1 l→w'.heap[b1]? =w.heap[b1]? :=fun i b1 l h=>(hK i b1 l h).2.1;refine ⟨fun b' ho=> ?_,fun vL=> ?_⟩
 ·cases ho with
  | root _ h=>exact .inl (dC h).symm
  | row h ha=>
   cases h;rcases Dc _ _ _ _ ha with ⟨_,h,_,_⟩|⟨i,_,_,tU⟩
   ·exact .inl h
   ·exact .inr ⟨_,_,tU⟩
 ·refine .nest rfl (fun q b2 e2 m h=> ?_) (fun q1 q2 b2 e2 m2 e3 m3 h1 h2=> ?_)
  ·rcases Dc _ _ _ _ h with ⟨rfl,rfl,rfl,rfl⟩|⟨i,rfl,rfl,tU⟩
   ·refine ⟨au,⟨C',_,tS,hLs,by rw[hk,ga];exact hlen,fun i j x t' hx ht hj=> ?_⟩,da⟩;rw[hk] at hj;have OB:j=0:=by omega
    subst OB;rw[jw] at ht;simp only[List.getElem?_cons_zero,ey] at ht;subst ht;obtain ⟨l,v,rfl,hv,hh⟩:=fH _ _ hx;refine ⟨v,by rw[hk,ga,Nat.add_zero];exact hv,?_⟩;rw[xm];rcases hh with ⟨rfl,a,rfl⟩|⟨b1,cap,h0,rfl,hs,hl,hm,tU⟩
    ·exact .emp hu
    ·exact .row hu h0 (by rw[hs,CM (iY _ _ _ tU)]) hl hm
   ·obtain ⟨_,_,⟨ok,⟨Ca,T2,c1,c0,c2,c3⟩,nI⟩⟩:=hK _ _ _ tU;refine ⟨ok,⟨Ca,T2,(iY _ _ _ tU).trans c1,c0,c2,fun i' j x t' hx ht hj=> ?_⟩,nI⟩;obtain ⟨v,m1,m2⟩:=c3 i' j x t' hx ht hj;have gE:dF P t'=true:=by
     rw[qJ] at ht;exact fF.1 fU _ (kO ht)
    refine ⟨v,m1,?_⟩;generalize bX P e2 x j=y at m2;cases m2 with
    | fu a p=>exact .fu a (p.mono (fun _ _ h=>h) vL)
    | emp a=>unfold dF at gE;rw[a] at gE;cases gE
    | row a _ _ _ _=>unfold dF at gE;rw[a] at gE;cases gE
  ·rcases Dc _ _ _ _ h1 with ⟨rfl,rfl,_,_⟩|⟨i,rfl,_,k1⟩
   ·rcases Dc _ _ _ _ h2 with ⟨rfl,_,_,_⟩|⟨j,rfl,_,k2⟩
    ·rfl
    ·exact absurd rfl (hK _ _ _ k2).1
   ·rcases Dc _ _ _ _ h2 with ⟨rfl,rfl,_,_⟩|⟨j,rfl,_,k2⟩
    ·exact absurd rfl (hK _ _ _ k1).1
    ·rw[rZ _ _ _ _ _ k1 k2]
theorem OC (S:aA P w I β hp B M w0) {id b:Nat} {e e1:TypeId} {es:List V} {vers:List Nat} (hr:rowOf P e=some e1) (ab:hp id=some (.nest e es vers)) (hb:β id=some b):
  ∃Ca T,w.heap[b]? =some (.cells Ca T (0,0))∧es.length≤Ca.size∧(∀j,¬I b j)∧
   (∀(i:Nat) x,es[i]? =some x→∃l v,x= .list e1 l∧Ca[i]? =some v∧xl P w e1 (fun b1 l=>At P w b e es [(i,0)] b1 e1 l) v l)∧
   (∀i b1 l,At P w b e es [(i,0)] b1 e1 l→b1≠b∧b1<w.heap.size∧gm P w I b1 e1 l∧(M b1∨B≤b1)∧bd P w (β id) (.nest e es vers) b1)∧
   ∀i j b1 l m,At P w b e es [(i,0)] b1 e1 l→At P w b e es [(j,0)] b1 e1 m→i=j:=by
 obtain ⟨hu,cE,au,ni,fU⟩:=vN hr;have jw:aP P e=[e]:=by simp[aP,cE]
 have hk:P.cellsOf e=1:=by rw[←eC au,jw];rfl
 have xm: ∀x j,bX P e x j=x:=fun x j=>by simp[bX,cE]
 have cK:=S.h.rel id _ ab;rw[hb] at cK;cases cK with
 | gD h=>cases h
 | nest ay c6 kg=>
  cases ay;obtain ⟨_,⟨Ca,T,c1,_,c2,c3⟩,nI⟩:=c6 _ _ _ _ .here;rw[hk,ga] at c2;refine ⟨Ca,T,c1,c2,nI,fun i x hx=> ?_,fun i b1 l ha=> ?_,fun i j b1 l m h1 h2=> ?_⟩
  ·obtain ⟨v,hv,ho⟩:=c3 i 0 x e hx (by rw[jw];rfl) (by rw[hk];exact Nat.one_pos);rw[hk,ga,Nat.add_zero] at hv;rw[xm] at ho;cases ho with
   | fu a _=>unfold dF at a;rw[hu] at a;cases a
   | emp a=>rw[hu] at a;cases a;exact ⟨[],_,rfl,hv,.inl ⟨rfl,_,rfl⟩⟩
   | @row _ l b1 cap a h0 hs hl hm=>
    rw[hu] at a;cases a;refine ⟨l,_,rfl,hv,.inr ⟨b1,cap,h0,rfl,hs,hl,hm,?_⟩⟩;exact .step c1 hx (by rw[jw];rfl) hu (xm _ _) h0 (by rw[hk,ga,Nat.add_zero];exact hv) .here
  ·have ho:bd P w (β id) (.nest e es vers) b1:= .row hb ha;refine ⟨fun h=> ?_,S.h.lt ab ho,c6 _ _ _ _ ha,S.h.own id _ b1 ab ho,ho⟩;subst h;exact absurd (kg _ _ _ _ _ _ _ ha .here) (by simp)
  ·have:=kg _ _ _ _ _ _ _ h1 h2;simpa using this
theorem Wb (l:List Nat) (k:Nat) (h:k<l.length):bz l k<bz (l.map (· +1)) k:=by
 induction l generalizing k with
 | nil=>simp at h
 | cons a l ih=>
  cases k with
  | zero=>simp[bz]
  | succ k=>simpa[bz] using ih k (by simpa using h)
theorem af1 {l:List Nat} {k:Nat} (h:l.length≤k):bz l k=0:=by
 induction l generalizing k with
 | nil=>rfl
 | cons a l ih=>
  cases k with
  | zero=>simp at h
  | succ k=>simpa[bz] using ih (by simpa using h)
theorem af2 (S:aA P w I β hp B M w0) {id nb b i:Nat} {e e1:TypeId} {es:List V} {y:V} {vers:List Nat} (hr:rowOf P e=some e1) (ab:hp id=some (.nest e es vers)) (hb:β id=some b) (hy:es[i]? =some y) (hn:hp nb=none):
  ∃sc,Le P w I β hp w I sc (aq (aq hp id (some (.out e es (vers.map (· +1)) i))) nb (some (.arr e1 y.toList false)))∧
   aA P w I sc (aq (aq hp id (some (.out e es (vers.map (· +1)) i))) nb (some (.arr e1 y.toList false))) B M w0∧
   ∀Ca v T f,w.heap[b]? =some (.cells Ca T f)→Ca[i]? =some v→ai P w I sc (aq (aq hp id (some (.out e es (vers.map (· +1)) i))) nb (some (.arr e1 y.toList false))) v (.whole e1 nb):=by
 obtain ⟨hu,cE,au,ni,fU⟩:=vN hr;obtain ⟨Ca,T0,c1,c2,nI,rc,rk,ru⟩:=OC S hr ab hb;have pY:aP P e1=flat P e1:=qJ e1;have jw:aP P e=[e]:=by simp[aP,cE]
 have xm: ∀x j,bX P e x j=x:=fun x j=>by simp[bX,cE]
 have hk:P.cellsOf e=1:=by rw[←eC au,jw];rfl
 have jx:=(ct.1 hy).1;have IV: ∀(j:Nat) l b1 cap,es[j]? =some (.list e1 l)→0<cap→Ca[j]? =some (.slice (some ⟨b1,0,none⟩) l.length cap)→At P w b e es [(j,0)] b1 e1 l:=
  fun j l b1 cap hx h0 hv=> .step c1 hx (by rw[jw];rfl) hu (xm _ _) h0 (by rw[hk,ga,Nat.add_zero];exact hv) .here
 have bL:nb≠id:=fun h=>by rw[h,ab] at hn;cases hn
 have qM: ∀b',bd P w (some b) (.out e es (vers.map (· +1)) i) b'→bd P w (some b) (.nest e es vers) b'∧∀l,¬At P w b e es [(i,0)] b' e1 l:=by
  intro b' ho;cases ho with
  | root _ h=>cases h;exact ⟨.root (by simp) rfl,fun l ha=>(rk _ _ _ ha).1 rfl⟩
  | @oU _ e2 _ l _ _ j b2 _ cap C' T f h1 h2 hj hx h0 hv=>
   cases h1;rw[c1] at h2;cases h2;obtain ⟨l',v',m1,m2,m3⟩:=rc _ _ hx;cases m1;have ha:=IV _ _ _ _ hx h0 hv;exact ⟨.row rfl ha,fun l2 zL=>hj (ru _ _ _ _ _ ha zL)⟩
 have Wc:es≠[]:=fun h=>by rw[h] at jx;simp at jx
 obtain ⟨l1,S1⟩:=N9 (w':=w) S (blk':= .out e es (vers.map (· +1)) i) ab (by simp)
  ⟨⟨rfl,rfl,by simp,fun k=>by
    by_cases hk:k<vers.length
    ·exact Nat.le_of_lt (Wb _ _ hk)
    ·rw[af1 (by omega)];exact kP _⟩,fun k hk=>Wb _ _ hk,Wc⟩ hb nI (.inr (by simp)) (fun _ _=>rfl) rfl (az _) ⟨rfl,rfl⟩
  (fun b' h=> .inl (qM b' h).1) (fun _=>by
   refine .out rfl hu (by rw[pY];exact fU) c1 c2 jx nI (fun j x hj hx=> ?_) (fun j b1 cap l hj hx h0 hv=> ?_) (fun j k b1 c1 c2 l m hj hk hx hz h1 h2 hv lG=> ?_)
   ·obtain ⟨l,v,m1,m2,m3⟩:=rc j x hx;refine ⟨l,v,m1,m2,?_⟩;subst m1;rcases m3 with ⟨rfl,a,rfl⟩|⟨b1,cap,h0,rfl,q1,q2,q3,_⟩
    ·exact .emp hu
    ·exact .row hu h0 q1 q2 q3
   ·have:=rk _ _ _ (IV _ _ _ _ hx h0 hv);exact ⟨this.1,this.2.2.1⟩
   ·exact ru _ _ _ _ _ (IV _ _ _ _ hx h1 hv) (IV _ _ _ _ hz h2 lG))
 have gb:aq hp id (some (.out e es (vers.map (· +1)) i)) nb=none:=by rw[cu _ _ bL];exact hn
 obtain ⟨l,v,vO,hv,fH⟩:=rc i y hy;subst vO;rcases fH with ⟨rfl,a,rfl⟩|⟨b1,cap,h0,rfl,q1,q2,q3,ha⟩
 ·obtain ⟨a1,a2⟩:=CQ S1 (fz:=false) e1 gb;refine ⟨_,l1.trans a1,a2,fun xd v' T f h1 h2=> ?_⟩;rw[c1] at h1;cases h1;rw[hv] at h2;cases h2;exact .dD (bE _ _ _) (bE _ _ _)
 ·obtain ⟨d1,d2,⟨ok,⟨C1,_,e2,e0,e3,e4⟩,Wd⟩,d4,d5⟩:=rk _ _ _ ha;obtain ⟨a1,a2⟩:=zE S1 (w':=w) (blk:= .arr e1 l false) (b:=b1) gb
   (fun aw blk' h ho=>by
    by_cases hi:aw=id
    ·subst hi;rw[bE] at h;cases h;rw[hb] at ho;exact (qM _ ho).2 _ ha
    ·rw[cu _ _ hi] at h;exact hi (S.h.inj _ _ _ _ _ h ab ho d5))
   (fun j h=>absurd h (Wd j)) (fun _ _ _=>rfl) (az _) ⟨rfl,rfl⟩ d4 (fun b' h=>(dC (h.flat (by simp))).symm)
   (fun hle=> .arr e0 ni rfl e2 e3 (fun h=>by cases h) (fun _=>Wd) fun i' j x t' k1 k2 k3=>by
    obtain ⟨u,m1,m2⟩:=e4 i' j x t' k1 k2 k3;have gE:dF P t'=true:=by
     rw[pY] at k2;exact fF.1 fU _ (kO k2)
    refine ⟨u,m1,?_⟩;generalize bX P e1 x j=z at m2⊢;cases m2 with
    | fu _ p=>exact p
    | emp a=>unfold dF at gE;rw[a] at gE;cases gE
    | row a _ _ _ _=>unfold dF at gE;rw[a] at gE;cases gE)
  refine ⟨_,l1.trans a1,a2,fun xd v' T f h1 h2=> ?_⟩;rw[c1] at h1;cases h1;rw[hv] at h2;cases h2;exact .whole (es:=l) (bE _ _ _) (bE _ _ _) q1 q2 q3
theorem af3 (S:aA P w I β hp B M w0) {t e e1:TypeId} {v:Value} {id bj b i:Nat} {es bJ:List V} {vers:List Nat} (hr:rowOf P e=some e1) (ab:hp id=some (.out e es vers i)) (hb:β id=some b)
  (ht:n0 P t=true) (hn:P.cellsOf t=1) (db:hp bj=some (.arr e1 bJ false)) (bL:id≠bj) (hv:ai P w I β hp v (.whole e1 bj)):
  qQ P ((Instr.storeAt t (.pointer (some ⟨b,i*P.cellsOf e+0,none⟩)) v).run P w) w I β hp B M w0 ⟨.undef,[(id,.nest e (es.set i (.list e1 bJ)) vers),(bj,.dead)]⟩:=by
 obtain ⟨hu,cE,au,ni,fU⟩:=vN hr;have jw:aP P e=[e]:=by simp[aP,cE]
 have hk:P.cellsOf e=1:=by rw[←eC au,jw];rfl
 obtain ⟨sb,S1⟩:=vG S db;have qS:aq hp bj (some .dead) id=some (.out e es vers i):=by rw[cu _ _ bL];exact ab
 have cK:=S.h.rel id _ ab;rw[hb] at cK;cases cK with
 | out ay jZ auu hh hs hi hI hc c6 kg=>
 cases ay;rw[hu] at jZ;cases jZ;rename_i Ca;have fH: ∃K:Nat→List V→Prop,xl P w e1 K v bJ∧(∀b1 l,K b1 l→b1≠b∧gm P w I b1 e1 l∧(M b1∨B≤b1)∧(∀aw blk',aq hp bj (some .dead) aw=some blk'→¬bd P w (β aw) blk' b1))∧v.cells= #[v]∧v.oneCell'=true:=by
  cases hv with
  | dH hd=>rw[db] at hd;cases hd
  | dw hd=>rw[db] at hd;cases hd
  | dO hd=>rw[db] at hd;cases hd
  | eB hd=>rw[db] at hd;cases hd
  | @dD _ _ _ a0 hd hb=>rw[db] at hd;cases hd;exact ⟨fun _ _=>False,.inl ⟨rfl,a0,rfl⟩,fun _ _ h=>h.elim,rfl,rfl⟩
  | @whole _ _ _ _ b2 cap hd fI aU bP hm=>
   rw[db] at hd;cases hd;obtain ⟨m1,m2⟩:=Oy S db fI fU;obtain ⟨m3,m4⟩:=m1 _ _ _ _ .here;rcases B6 cap with h0|h0
   ·subst h0;obtain rfl:=u9.1 (ve.1 bP);exact ⟨fun _ _=>False,.inl ⟨rfl,_,rfl⟩,fun _ _ h=>h.elim,rfl,rfl⟩
   ·refine ⟨fun b1 l=>b1=b2∧l=bJ,.inr ⟨b2,cap,h0,rfl,aU,bP,hm,rfl,rfl⟩,fun b1 l h=> ?_,rfl,rfl⟩;obtain ⟨rfl,rfl⟩:=h;refine ⟨fun h=> ?_,m3,S.h.own bj _ _ db m4,fun aw blk' h' ho=> ?_⟩
    ·subst h;exact bL (S.h.inj _ _ _ _ _ ab db (.root (by simp) hb) m4)
    ·by_cases q:aw=bj
     ·subst q;rw[bE] at h';cases h';exact absurd rfl ho.alive
     ·rw[cu _ _ q] at h';exact q (S.h.inj aw bj _ _ _ h' db ho m4)
 obtain ⟨K,k1,k2,k3,k4⟩:=fH;have jx:i<Ca.size:=by omega
 have cI:=IK (t:=t) (o:=i*P.cellsOf e+0) (v:=v) ht (by rw[hn,k3];rfl) hh (by rw[k3,hk];simp;omega) (by rw[k3];simp[k4]);rw[k3,hk,ga,Nat.add_zero] at cI;have hC:(Ca.toList.take i++(#[v].toList++Ca.toList.drop (i+ #[v].toList.length))).toArray.size=Ca.size:=by simp;omega
 have oW: ∀j,(Ca.toList.take i++(#[v].toList++Ca.toList.drop (i+ #[v].toList.length))).toArray[j]? =if j=i then some v else Ca[j]? :=by
  intro j;rw[nT,pV _ _ _ _ (by simp;omega)];simp only[List.length_singleton,pF];by_cases h1:j<i
  ·rw[ak h1,aj (by omega)]
  ·rw[aj h1];by_cases h2:j=i
   ·subst h2;simp
   ·rw[aj (by omega),aj h2]
 rw[hk,ga,Nat.add_zero];generalize hCb:(Ca.toList.take i++(#[v].toList++Ca.toList.drop (i+ #[v].toList.length))).toArray=Cb at cI hC oW;have dr:=setRow_heap w b Ca Cb _ (0,0) hh;have sa:=fun k (hk:k≠b)=>setRow_other w b k Cb hk;obtain ⟨p1,p2⟩:=Wa (w:=w) (w':=w.setRow b Cb) (I:=I) (vers:=vers) (ys:=es.set i (.list e1 bJ)) hr dr (by simp;omega) hI
  (fun j b1 l=>(j=i∧K b1 l)∨(j≠i∧∃cap,es[j]? =some (.list e1 l)∧0<cap∧Ca[j]? =some (.slice (some ⟨b1,0,none⟩) l.length cap)))
  (fun j x hx=>by
   rw[B7] at hx;rw[oW];by_cases hj:i=j
   ·subst hj;simp only[ly,ak hi,ey] at hx;subst hx;refine ⟨bJ,v,rfl,ak rfl,?_⟩;rcases k1 with h|⟨b1,cap,h0,h1,h2,h3,h4,h5⟩
    ·exact .inl h
    ·exact .inr ⟨b1,cap,h0,h1,h2,h3,h4,.inl ⟨rfl,h5⟩⟩
   ·rw[aj hj] at hx;rw[aj (fun h=>hj h.symm)];obtain ⟨l,u,m1,m2,m3⟩:=hc j x (fun h=>hj h.symm) hx;subst m1;refine ⟨l,u,rfl,m2,?_⟩;cases m3 with
    | fu a _=>unfold dF at a;rw[hu] at a;cases a
    | emp a=>exact .inl ⟨rfl,_,rfl⟩
    | @row _ _ b1 cap a h0 c d f=>exact .inr ⟨b1,cap,h0,rfl,by rw[hu] at a;cases a;exact c,d,f,.inr ⟨fun h=>hj h.symm,cap,hx,h0,m2⟩⟩)
  (fun j b1 l h=>by
   rcases h with ⟨_,h⟩|⟨hj,cap,hx,h0,hv⟩
   ·exact ⟨(k2 _ _ h).1,sa _ (k2 _ _ h).1,(k2 _ _ h).2.1⟩
   ·obtain ⟨q1,q2⟩:=c6 _ _ _ _ hj hx h0 hv;exact ⟨q1,sa _ q1,q2⟩)
  (fun j j' b1 l m h1 h2=>by
   have no: ∀{j l m},K b1 l→(j≠i∧∃cap,es[j]? =some (.list e1 m)∧0<cap∧Ca[j]? =some (.slice (some ⟨b1,0,none⟩) m.length cap))→False:=fun h ⟨hj,cap,hx,h0,hv⟩=>
    (k2 _ _ h).2.2.2 _ _ qS (by rw[hb];exact .oU rfl hh hj hx h0 hv)
   rcases h1 with ⟨h,h1⟩|h1
   ·rcases h2 with ⟨h',h2⟩|h2
    ·omega
    ·exact (no h1 h2).elim
   ·rcases h2 with ⟨_,h2⟩|h2
    ·exact (no h2 h1).elim
    ·obtain ⟨hj,cap,hx,h0,hv⟩:=h1;obtain ⟨dQ,Oo,cW,OD,Dd⟩:=h2;exact kg _ _ _ _ _ _ _ hj dQ hx cW h0 OD hv Dd)
 obtain ⟨a1,a2⟩:=N9 S1 (w':=w.setRow b Cb) (blk':= .nest e (es.set i (.list e1 bJ)) vers) qS (by simp) ⟨rfl,by simp,rfl,fun _=>az _⟩ hb hI (.inl (by simp)) sa (by rw[jW dr,jW hh,hC]) (by simp) ⟨rfl,rfl⟩
  (fun b' ho=>by
   rcases p1 b' ho with rfl|⟨j,l,⟨_,h⟩|⟨hj,cap,hx,h0,hv⟩⟩
   ·exact .inl (.root (by simp) rfl)
   ·exact .inr ⟨(k2 _ _ h).2.2.1,(k2 _ _ h).2.2.2⟩
   ·exact .inl (.oU rfl hh hj hx h0 hv))
  (fun hle=>p2 hle.cH)
 exact ⟨_,I,β,cI,sb.trans a1,a2,rfl⟩
end
section
variable {P:Program} {w w':World} {I I':Nat→Nat→Prop} {β β':Nat→Option Nat} {hp hp':Nat→Option ag} {C:af} {B:Nat} {M:Nat→Prop} {w0:Start}
theorem af4 (S:aA P w I β hp B M w0) {t:TypeId} {a v:Value} {xa x:V} {r:R} {rd:List Nat} (ha:ai P w I β hp a xa) (hv:ai P w I β hp v x)
  (h:(Nx P t xa x).run C hp=some (r,rd)):qQ P ((Instr.storeAt t a v).run P w) w I β hp B M w0 r:=by
 unfold Nx at h;obtain ⟨h0,h⟩:=aD h;simp only[aK,aN] at h0;obtain ⟨ht,hn⟩:=h0;cases xa with
 | ptr id i c=>
  obtain ⟨l,h⟩:=run_get h;cases ab:hp id with
  | none=>rw[ab] at h;cases h
  | some blk=>
   rw[ab] at h;cases blk with
   | dead=>cases h
   | var T0 cs=>
    obtain ⟨We,h⟩:=aD h;have qR:rO P T0=true→0<c:=fun ec=>by
     rw[ec] at We;simpa using We
    obtain ⟨b,hb,rfl⟩:=ha.gP ab (by simp);simp only[ag.sz,Nat.mul_zero,eT];cases tO:(zm P t cs&&eU P t x) with
    | true=>
     dsimp only at h;rw[tO] at h;simp only[cond_true] at h;obtain ⟨hc,h⟩:=aD h;obtain rfl:=aM h;simp only[aK,nR] at hc tO;obtain ⟨o1,o2⟩:=V3 hv tO.2;have rY:=afO tO.2;refine V2 S ab hb ht hn (by rw[o2,rY];rfl) qR (fun j u y hu hy=> ?_) (by rw[o2];simp[o1]) (by rw[rY];simp;omega) (V1 _ _ _ _) (fun j y hy hj u hu=> ?_) (fun j y hy hj u hu=> ?_)
     ·rw[o2] at hu;rw[rY] at hy;cases j with
      | zero=>simp at hu hy;subst hu;subst hy;exact hv
      | succ j=>simp at hy
     ·rw[Oh] at hy;cases zM:cs[j]? with
      | none=>rw[zM] at hy;cases hy
      | some y0=>
       rw[zM] at hy;simp only[Option.map_some,ey] at hy;rw[rY] at hj;simp only[List.length_singleton] at hj;have bL:Nat.beq c (0+j)=false:=by
        cases hq:Nat.beq c (0+j) with
        | false=>rfl
        | true=>rw[aN] at hq;omega
       rw[bL] at hy;have:=VP (c:=false) hv (hu y0 zM);rw[←hy];simpa using this
     ·rw[rY] at hj hu;have OB:j=0:=by simpa using hj
      subst OB;rw[Oh] at hy;cases zM:cs[c+0]? with
      | none=>rw[zM] at hy;cases hy
      | some y0=>
       rw[zM] at hy;simp only[Option.map_some,ey] at hy;have heq:Nat.beq c (0+(c+0))=true:=by rw[aN];omega
       rw[heq] at hy;have h2:ai P w I β hp u x:=hu x rfl;have:vo true x y0=x:=afP x y0;rw[←hy,this];exact h2
    | false=>
     dsimp only at h;rw[tO] at h;simp only[cond_false] at h;obtain ⟨hc,h⟩:=aD h;simp only[aK,fk] at hc;obtain ⟨e1,e2⟩:=Og hv h;obtain ⟨h1,l2,h⟩:=IJ h (vs:=v.cells.toList) (by simpa using e1) (fun j u y a b=>e2 j u y (by simpa using a) b);obtain rfl:=aM h;refine V2 S ab hb ht hn e1 qR e2 h1 hc.2 (CY _ _ _ hc.2) (fun j y hy hj u hu=> ?_) (fun j y hy hj u hu=> ?_)
     ·unfold gY at hy;rw[pV _ _ _ _ hc.2] at hy;rcases hj with hj|hj
      ·rw[ak hj] at hy;exact hu y hy
      ·rw[bO,bO] at hy;exact hu y hy
     ·unfold gY at hy;rw[pV _ _ _ _ hc.2,bO,bu] at hy;rw[show c+j-c=j by omega] at hy;exact hu y hy
   | arr e es fz=>
    cases fz with
    | true=>cases h
    | false=>
    obtain ⟨b,hb,rfl⟩:=ha.gP ab (by simp);obtain ⟨au,h⟩:=aD h;obtain ⟨⟨ys,fr⟩,l1,l2,bG,h⟩:=na h;obtain ⟨hc,h⟩:=aD h;obtain ⟨x0,tT,h⟩:=mC h;obtain rfl:=aM h;simp only[aK,mn,fk] at hc;obtain ⟨fv,hc3,fc⟩:=hc;have pX:v.cells.size=x.cells.length∧∀(j:Nat) u y,v.cells.toList[j]? =some u→x.cells[j]? =some y→ai P w I β hp u y:=by
     cases x with
     | agg xs=>
      obtain ⟨cs,rfl,h1,h2⟩:=hv.la;exact ⟨h1,fun j u y a b=>h2 j u y (by simpa[Value.cells] using a) b⟩
     | _=>
      simp only[V.cells] at bG fc⊢;simp only[vn] at bG;obtain ⟨⟨y1,u1⟩,l3,l4,hq,bG⟩:=na bG;obtain ⟨q1,q2⟩:=IC S.h.rel hq hv;obtain ⟨⟨y2,u2⟩,l5,l6,qV,bG⟩:=na bG;cases qV;have:=aM bG;cases this;obtain ⟨tl,tg⟩:=xj fc;have en:=tg 0 _ y1 (bS (by rw[tl];exact Nat.one_pos)) rfl;have eb:=q2 (kh P w I β hp u1) (fun _ _ h=> .inl h) (fun p hp b j h=> .inr ⟨p,hp,h⟩);have ho:=eb.pure en;have Wf:v.cells= #[v]:=by cases ho<;>rfl
      rw[Wf];refine ⟨rfl,fun j u y hu hy=> ?_⟩;cases j with
      | zero=>simp at hu hy;subst hu;subst hy;exact hv
      | succ j=>simp at hy
    obtain ⟨k1,k2,k3⟩:=N6 S.h.rel bG (vs:=v.cells.toList) (by simpa using pX.1) pX.2;obtain ⟨sb,S1⟩:=CP S k2;have qS:cb hp fr id=some (.arr e es false):=by
     rcases w9 (hp:=hp) (l:=fr) (id:=id) with h|⟨b',hm,_⟩
     ·exact h.trans ab
     ·exfalso;have IW:gK (fr.map (·.1)) id=true:=zH (ez.2 ⟨_,hm,rfl⟩);rw[IW] at fv;cases fv
    have Wg:=k3 (kh P w I β hp fr) (fun _ _ h=> .inl h) (fun p hp b j h=> .inr ⟨p,hp,h⟩);obtain ⟨tl,tg⟩:=xj fc;have fU:=(nc au).1;have vO:ys.length=v.cells.size:=by rw[k1,pX.1]
    have hcn:c+v.cells.size≤P.cellsOf e:=by rw[pX.1];exact hc3
    have hr:=S1.h.rel id _ qS;cases hr with
    | dY ay=>simp at tT
    | @arr _ _ _ _ b' Ca hL Oe ay hh hs hf eN hx=>
     rw[hb] at ay;cases ay;have oh:i<es.length:=(ct.1 tT).1;have hbound:i*P.cellsOf e+P.cellsOf e≤Ca.size:=by
      have:(i+1)*P.cellsOf e≤es.length*P.cellsOf e:=ef _ oh;rw[jN] at this;omega
     simp only[ag.sz];have vJ:i*P.cellsOf e+c+v.cells.size≤Ca.size:=by omega
     have da: ∀j,¬kh P w I β hp fr b j:=eN rfl;have h1: ∀u∈v.cells.toList,u.oneCell'=true:=by
      intro u hu;obtain ⟨j,hj⟩:=rL hu;have dn:j<ys.length:=by rw[vO];simpa using (ct.1 hj).1
      have qU:j<(((flat P e).drop c).take x.cells.length).length:=by rw[tl];exact dn
      exact (Wg j u ys[j] hj (bS dn)).one (tg j _ ys[j] (bS qU) (bS dn))
     have cI:=IK (t:=t) (o:=i*P.cellsOf e+c) (v:=v) ht (by rw[pX.1];exact hn.symm) hh vJ h1;have hlen:(Ca.toList.take (i*P.cellsOf e+c)++(v.cells.toList++Ca.toList.drop (i*P.cellsOf e+c+v.cells.toList.length))).length=Ca.size:=by
      rw[CY _ _ _ (by simpa using vJ)];simp
     have eb:(parts P e x0).length=P.cellsOf e:=by rw[zF];exact eC au
     have CZ:=IL S1 (blk':= .arr e (es.set i (dm P e (gY (parts P e x0) c ys))) false)
      (Cb:=(Ca.toList.take (i*P.cellsOf e+c)++(v.cells.toList++Ca.toList.drop (i*P.cellsOf e+c+v.cells.toList.length))).toArray) qS (by simp) ⟨rfl,by simp⟩ hb da (by simp) hh (by simpa using hlen)
      (fun hle dr=> .arr (by rw[qw,hlen];exact hL) au rfl dr (by simp only[qw,tm];omega) (fun h=>by cases h) (fun _=>da) fun i' j z t' hz qU hj=>by
       simp only[nT];rw[pV _ _ _ _ (by simpa using vJ)];simp only[Array.length_toList];rw[B7] at hz;by_cases lL:i=i'
       ·subst lL;rw[ak rfl,ak oh] at hz;cases hz;have IX:j<(parts P e x0).length:=by omega
        have xn:(gY (parts P e x0) c ys)[j]? =if j<c then (parts P e x0)[j]? else if j<c+ys.length then ys[j-c]? else (parts P e x0)[j]? :=by
         unfold gY;exact pV _ _ _ _ (by omega)
        by_cases tP:j<c
        ·rw[bu];rw[ak tP] at xn;obtain ⟨u,t2,a1,a2,a3⟩:=IH hx au tT (bS IX);rw[qU] at a1;cases a1;refine ⟨u,by simpa using a2,?_⟩;rw[tQ (xn.trans (bS IX)) qU];exact a3.mono hle.dZ hle.cH
        ·rw[aj tP] at xn;by_cases dj:j<c+ys.length
         ·rw[ak dj] at xn;rw[bO,bu];have sd:j-c<ys.length:=by omega
          have Wh:j-c<v.cells.toList.length:=by simp;omega
          have auv:j-c<v.cells.size:=by omega
          refine ⟨v.cells.toList[j-c],?_,?_⟩
          ·rw[show i*P.cellsOf e+j-(i*P.cellsOf e+c)=j-c by omega];exact bS Wh
          ·rw[tQ (xn.trans (bS sd)) qU];have hft:(((flat P e).drop c).take x.cells.length)[j-c]? =some t':=by
            rw[gX (by omega),pE,show c+(j-c)=j by omega,←qJ];exact qU
           exact ((Wg (j-c) _ ys[j-c] (bS Wh) (bS sd)).pure (tg (j-c) t' ys[j-c] hft (bS sd))).mono hle.dZ hle.cH
         ·rw[aj dj] at xn;rw[bO,bO];obtain ⟨u,t2,a1,a2,a3⟩:=IH hx au tT (bS IX);rw[qU] at a1;cases a1;refine ⟨u,by simpa using a2,?_⟩;rw[tQ (xn.trans (bS IX)) qU];exact a3.mono hle.dZ hle.cH
       ·rw[aj lL] at hz;obtain ⟨u,a2,a3⟩:=hx i' j z t' hz qU hj;have bL:i'*P.cellsOf e+j<i*P.cellsOf e+c∨i*P.cellsOf e+c+v.cells.size≤i'*P.cellsOf e+j:=by
         rcases gy i' i with aY|pZ
         ·left;have:(i'+1)*P.cellsOf e≤i*P.cellsOf e:=ef _ aY;rw[jN] at this;omega
         ·right;have:(i+1)*P.cellsOf e≤i'*P.cellsOf e:=ef _ (by omega);rw[jN] at this;omega
        refine ⟨u,?_,a3.mono hle.dZ hle.cH⟩;rcases bL with bL|bL
        ·rw[ak bL];simpa using a2
        ·rw[bO,bO];simpa using a2)
     exact ⟨_,_,_,cI,sb.trans CZ.1,CZ.2,rfl⟩
   | map _ _=>cases h
   | out e es vers j=>
    obtain ⟨b,hb,rfl⟩:=ha.gP ab (by simp);unfold Vz at h;obtain ⟨hc,h5⟩:=aD h;clear h;simp only[aK,aN] at hc;obtain ⟨rfl,rfl⟩:=hc;cases hr:rowOf P e with
    | none=>simp only[hr] at h5;cases h5
    | some e1=>
     simp only[hr] at h5;cases x with
     | whole e3 bj=>
      obtain ⟨l1,h6⟩:=run_get h5;cases db:hp bj with
      | none=>rw[db] at h6;cases h6
      | some cw=>
       rw[db] at h6;cases cw with
       | arr e4 bJ fz=>
        cases fz with
        | true=>cases h6
        | false=>
         obtain ⟨hc,h7⟩:=aD h6;obtain rfl:=aM h7;simp only[aK,aN,mn] at hc;obtain ⟨rfl,rfl,bL⟩:=hc;exact af3 S hr ab hb ht hn.symm db (fun e=>by rw[e,mo] at bL;cases bL) hv
       | _=>cases h6
     | _=>cases h5
   | nest e es vers=>
    obtain ⟨b,hb,rfl⟩:=ha.gP ab (by simp);exact V9 S ht hn hv ab hb .here h
 | dq id ver path i c=>
  obtain ⟨e0,es,vers,l,ab,h1,h2,h3,h⟩:=pR h;obtain ⟨b,b1,e1,l1,hb,eX,rfl⟩:=ha.VJ ab h1 h2 h3;exact V9 S ht hn hv ab hb eX h
 | _=>cases h
end
section
variable {P:Program} {w w':World} {I I':Nat→Nat→Prop} {β β':Nat→Option Nat} {hp hp':Nat→Option ag} {C:af} {B:Nat} {M:Nat→Prop} {w0:Start}
theorem IY: ∀{ts:List TypeId} {vs:List Value} {j:Nat} {y:V},(iR P ts vs)[j]? =some y→∃t v,ts[j]? =some t∧vs[j]? =some v∧y=pK P t v
 | [],vs,j,y,h=>by simp[iR] at h
 | _::_,[],j,y,h=>by simp[iR] at h
 | t::ts,v::vs,0,y,h=>by simp[iR] at h;grind
 | t::ts,v::vs,j+1,y,h=>by
  simp only[iR,List.getElem?_cons_succ] at h;obtain ⟨t',v',a,b,c⟩:=IY h;grind
theorem Wi: ∀{ts:List TypeId} {vs:List Value},ts.length=vs.length→(iR P ts vs).length=vs.length
 | [],[],_=>rfl
 | [],_::_,h=>by simp at h
 | _::_,[],h=>by simp at h
 | t::ts,v::vs,h=>by simp[iR,Wi (ts:=ts) (vs:=vs) (by grind)]
theorem jy {e:TypeId} (h:cU P e=true): ∃i z,P.info? e=some i∧i.zero=some z∧i.size=P.cellsOf e∧z.cells.size=P.cellsOf e∧zeroCells P e=iR P (flat P e) z.cells.toList:=by
 unfold cU at h;simp only[aK,aN,nR] at h;obtain ⟨h1,h2,_,h3⟩:=h;cases hi:P.info? e with
 | none=>grind
 | some i=>
  rw[hi] at h3;simp only[Option.bind_some] at h3;cases hz:i.zero with
  | none=>grind
  | some z=>
   rw[hz] at h3;simp only[aN] at h3;exact ⟨i,z,rfl,hz,by simp[Program.cellsOf,hi],h3,by simp[zeroCells,hi,hz]⟩
theorem Wj {e:TypeId} (h:cU P e=true): ∃i z,P.info? e=some i∧i.zero=some z∧z.cells.size=(zeroCells P e).length∧z.cells.size=P.cellsOf e∧
  ∀(j:Nat) v x,z.cells[j]? =some v→(zeroCells P e)[j]? =some x→ai P w I β hp v x:=by
 obtain ⟨i,z,h1,h2,h3,h4,h5⟩:=jy h;have hl:(flat P e).length=z.cells.toList.length:=by rw[(nc h).1];grind
 refine ⟨i,z,h1,h2,?_,h4,fun j v x hv hx=> ?_⟩
 ·rw[h5,Wi hl];simp
 ·rw[h5] at hx;obtain ⟨t,v',_,Dd,rfl⟩:=IY hx;have:v'=v:=by
   grind
  subst this;exact ai.const t v'
theorem lb {nb:Nat} {b:ag} {v:V} {upd:List (Nat×ag)} {r:R} {rd:List Nat} (h:(hY nb b v upd).run C hp=some (r,rd)):hp nb=none∧r=⟨v,(nb,b)::upd⟩:=by
 obtain ⟨l,h⟩:=run_get h;cases hn:hp nb with
 | none=>rw[hn] at h;exact ⟨rfl,(aM h).symm⟩
 | some x=>rw[hn] at h;cases h
theorem Wk (S:aA P w I β hp B M w0) {nb:Nat} {xs:List V} {C0:Array Value} {T:TypeId} (hn:hp nb=none) (hs:C0.size=xs.length)
  (hx: ∀(j:Nat) v x,C0[j]? =some v→xs[j]? =some x→ai P w I β hp v x) (gO:VE P w.heap.size T C0):
  Le P w I β hp (w.alloc (.cells C0 T)) I (aq β nb (some w.heap.size)) (aq hp nb (some (.var T xs)))∧aA P (w.alloc (.cells C0 T)) I (aq β nb (some w.heap.size)) (aq hp nb (some (.var T xs))) B M w0∧
  ai P (w.alloc (.cells C0 T)) I (aq β nb (some w.heap.size)) (aq hp nb (some (.var T xs))) (.pointer (some ⟨w.heap.size,0,none⟩)) (.ptr nb 0 0):=by
 obtain ⟨h1,h2⟩:=Oa S (blk:= .var T xs) (c:=C0) (T:=T) hn (fun b' h=>(dC (h.flat (by simp))).symm) (fun hle dr da=> .var rfl dr hs da (fun j v x a b=>(hx j v x a b).mono hle) gO);refine ⟨h1,h2,?_⟩;have:=ai.ptr (P:=P) (w:=w.alloc (.cells C0 T)) (I:=I) (β:=aq β nb (some w.heap.size)) (hp:=aq hp nb (some (.var T xs))) (i:=0) (c:=0) (blk:= .var T xs) (bE _ _ _) (by simp) (bE _ _ _);grind
theorem Wl (S:aA P w I β hp B M w0) {e:TypeId} {nb:Nat} {r:R} {rd:List Nat}
  (h:(Rd.aB (cU P e&&(!(rO P e)||Vy (zeroCells P e))) (hY nb (.var e (zeroCells P e)) (.ptr nb 0 0) [])).run C hp=some (r,rd)):dg P ((Instr.alloc e true (.tuple #[])).run P w) w I β hp B M w0 r:=by
 obtain ⟨au,h⟩:=aD h;rw[aK] at au;obtain ⟨au,qR⟩:=au;obtain ⟨hn,rfl⟩:=lb h;obtain ⟨i,z,h1,h2,h3,h4,h5⟩:=Wj (w:=w) (I:=I) (β:=β) (hp:=hp) au;obtain ⟨a,b,c⟩:=Wk S (T:=e) hn h3 h5 fun ec=>by
  rw[ec,Bool.not_true,Bool.false_or] at qR;cases hz:zeroCells P e with
  | nil=>rw[hz] at qR;cases qR
  | cons y l=>
   rw[hz] at qR h3 h5;cases y<;>first|(cases qR;done)|skip
   have aY:0<z.cells.size:=by grind
   have:=h5 0 z.cells[0] .eg (kb aY) rfl;left;rw[kb aY];generalize z.cells[0]=u at this;cases this;rfl
 exact ⟨_,_,_,_,by simp[Instr.alloc,zeroValue,typeInfo,h1,h2,newVar,newRow],a,b,c⟩
theorem af5 (S:aA P w I β hp B M w0) {e:TypeId} {nb:Nat} {x:V} {v:Value} {r:R} {rd:List Nat} (hv:ai P w I β hp v x)
  (h:(Rd.aB (!(rO P e)) <| nZ x.cells (hY nb (.var e x.cells) (.ptr nb 0 0) [])).run C hp=some (r,rd)):dg P ((Instr.box e v).run P w) w I β hp B M w0 r:=by
 obtain ⟨qR,h⟩:=aD h;obtain ⟨e1,e2⟩:=Og hv h;obtain ⟨_,l,h⟩:=IJ h (vs:=v.cells.toList) (by omega) (fun j u y a b=>e2 j u y (by grind) b);obtain ⟨hn,rfl⟩:=lb h;obtain ⟨a,b,c⟩:=Wk S (T:=e) hn e1 e2 fun ec=>by grind
 exact ⟨_,_,_,_,by simp[Instr.box,newVar,newRow],a,b,c⟩
theorem foldl_set (off:Nat): ∀(vs:List Value) (k:Nat) (cs:Array Value) (i:Nat),off+k+vs.length≤cs.size→
  ((vs.zipIdx k).foldl (fun cs p=>cs.setIfInBounds (off+p.2) p.1) cs)[i]? =if i<off+k then cs[i]? else if i<off+k+vs.length then vs[i-(off+k)]? else cs[i]?
 | [],k,cs,i,h=>by simp_all
 | v::vs,k,cs,i,h=>by
  simp only[List.zipIdx_cons,List.foldl_cons];simp only[List.length_cons] at h⊢;rw[foldl_set off vs (k+1) _ i (by simp;omega)];grind
theorem Wm (off:Nat): ∀(vs:List Value) (k:Nat) (cs:Array Value),((vs.zipIdx k).foldl (fun cs p=>cs.setIfInBounds (off+p.2) p.1) cs).size=cs.size
 | [],k,cs=>rfl
 | v::vs,k,cs=>by
  simp only[List.zipIdx_cons,List.foldl_cons];rw[Wm off vs (k+1)];simp
theorem Wn {cells:Array Value} {off:Nat} {v:Value} (h:off+v.cells.size≤cells.size) (i:Nat):
  (v.cells.zipIdx.foldl (fun cs (p:Value×Nat)=>cs.setIfInBounds (off+p.2) p.1) cells)[i]? =if i<off then cells[i]? else if i<off+v.cells.size then v.cells[i-off]? else cells[i]? :=by
 have:=foldl_set off v.cells.toList 0 cells i (by omega);rw[←HM];grind
theorem Wo {cells:Array Value} {off:Nat} {v:Value}:(v.cells.zipIdx.foldl (fun cs (p:Value×Nat)=>cs.setIfInBounds (off+p.2) p.1) cells).size=cells.size:=by
 have:=Wm off v.cells.toList 0 cells;rw[←HM];grind
inductive zN (P:Program) (w:World) (I:Nat→Nat→Prop) (β:Nat→Option Nat) (hp:Nat→Option ag):List (Nat×Value)→List (Nat×V)→Prop
 | nil:zN P w I β hp [] []
 | cons {i:Nat} {v:Value} {x:V} {vs:List (Nat×Value)} {xs:List (Nat×V)}:v.cells.size=x.cells.length→(∀(j:Nat) u y,v.cells[j]? =some u→x.cells[j]? =some y→ai P w I β hp u y)→
   zN P w I β hp vs xs→zN P w I β hp ((i,v)::vs) ((i,x)::xs)
theorem Wp (place:Nat→Option (Nat×Nat)): ∀{vs:List (Nat×Value)} {px:List (Nat×V)} {cells:Array Value} {xs ys:List V},zN P w I β hp vs px→cells.size=xs.length→
  (∀(j:Nat) v x,cells[j]? =some v→xs[j]? =some x→ai P w I β hp v x)→wV place xs px=some ys→
  ∃se:Array Value,Instr.fill place cells vs=some se∧se.size=ys.length∧∀(j:Nat) v x,se[j]? =some v→ys[j]? =some x→ai P w I β hp v x
 | _,_,cells,xs,ys,.nil,hs,hx,h=>by
  simp only[wV,ey] at h;subst h;exact ⟨cells,by simp[Instr.fill],hs,hx⟩
 | _,_,cells,xs,ys,@zN.cons _ _ _ _ _ i v x vs px h1 h2 h3,hs,hx,h=>by
  simp only[wV] at h;cases eb:place i with
  | none=>grind
  | some os=>
   obtain ⟨off,size⟩:=os;rw[eb] at h;simp only at h;cases hc:(Nat.beq x.cells.length size&&Nat.ble (off+size) xs.length) with
   | false=>grind
   | true=>
    rw[hc] at h;simp only[cond_true] at h;simp only[aK,aN,fk] at hc;have hv:off+v.cells.size≤cells.size:=by omega
    have hb:off+x.cells.length≤xs.length:=by omega
    have hl:(gY xs off x.cells).length=xs.length:=CY _ _ _ hb;obtain ⟨se,f1,f2,f3⟩:=Wp place (cells:=v.cells.zipIdx.foldl (fun cs (p:Value×Nat)=>cs.setIfInBounds (off+p.2) p.1) cells) (xs:=gY xs off x.cells) h3 (by rw[Wo,hl,hs])
     (fun j u y hu hy=>by
      rw[Wn hv] at hu;unfold gY at hy;grind) h
    refine ⟨se,?_,f2,f3⟩;simp only[Instr.fill,eb];grind
theorem af6 {t:TypeId} {parts:Array (Nat×Value)} {cells:Array Value} {z:Value} {i:TypeInfo} (hi:P.info? t=some i) (hz:i.zero=some z) (h:Instr.fill (placeOf P t) z.cells parts.toList=some cells) (ha:bZ P t=true)
  (eb: ∀fs,P.underlying t=some (.struct fs)→(fs.toList.mapM fun f=>(P.info? f.type).map fun i=>(f.offset,i.size)).isSome=true) (tW: ∀n e,P.underlying t=some (.array n e)→(P.info? e).isSome=true):
  (Instr.build t parts).run P w= .ok (.agg cells) w:=by
 refine run_build w t parts cells ?_;unfold Program.built;unfold bZ at ha;rw[hi];split at ha
 ·rename_i fs hu;have:=eb fs hu;cases hm:fs.toList.mapM fun f=>(P.info? f.type).map fun i=>(f.offset,i.size) with
  | none=>grind
  | some places=>
   simp only[hu,hz,hm];have hq:placeOf P t=fun i=>places[i]? :=by simp[placeOf,hu,hm]
   simp_all
 ·rename_i n e hu;have:=tW n e hu;cases lN:P.info? e with
  | none=>grind
  | some ie=>
   simp only[hu,hz,lN];have hq:placeOf P t=fun i=>some (i*ie.size,ie.size):=by simp[placeOf,hu,lN]
   grind
 ·cases ha
theorem Wq {α:Type}: ∀(xs ys:List V) (k:Rd α),nZ (xs++ys) k=nZ xs (nZ ys k)
 | [],_,_=>rfl
 | x::xs,ys,k=>by simp only[List.cons_append,nZ,Wq xs ys k]
theorem Wr {a:Act} {sl:Nat→V} (hs:mB P w I β hp a sl) {G:Nat→V} (hg:iF P G w I) (t:TypeId) {α:Type}: ∀{l:List (Nat×Operand)} {k:Rd α} {r:α} {rd:List Nat},
  (nZ ((l.map fun p=>(aO P G t sl p.2).cells).flatten) k).run C hp=some (r,rd)→
  zN P w I β hp (l.map fun p=>(p.1,a.eval p.2)) (l.map fun p=>(p.1,aO P G t sl p.2))∧∃fJ,k.run C hp=some (r,fJ)
 | [],k,r,rd,h=>⟨.nil,rd,h⟩
 | (i,x)::l,k,r,rd,h=>by
  simp only[iQ,List.flatten_cons,Wq] at h;obtain ⟨e1,e2⟩:=Og (hs.ev hg t x) h;obtain ⟨_,l1,h⟩:=IJ h (vs:=(a.eval x).cells.toList) (by omega) (fun j u y a b=>e2 j u y (by grind) b);obtain ⟨h1,h2⟩:=Wr hs hg t h;exact ⟨.cons e1 e2 h1,h2⟩
theorem af7 (S:aA P w I β hp B M w0) {a:Act} {sl:Nat→V} (hs:mB P w I β hp a sl) {G:Nat→V} (hg:iF P G w I) {t ty:TypeId} {ps:Array (Nat×Operand)} {r:R} {rd:List Nat}
  (h:(Rd.aB (cU P t&&(bZ P t&&Il P t)) (nZ ((ps.toList.map fun p=>(aO P G ty sl p.2).cells).flatten)
   (zo (wV (placeOf P t) (zeroCells P t) (ps.toList.map fun p=>(p.1,aO P G ty sl p.2))) fun cs=> .ret ⟨.agg cs,[]⟩))).run C hp=some (r,rd)):
  dg P ((Instr.build t (ps.map fun (i,x)=>(i,a.eval x))).run P w) w I β hp B M w0 r:=by
 obtain ⟨au,h⟩:=aD h;simp only[aK] at au;obtain ⟨h1,l,h⟩:=Wr hs hg ty h;cases hf:wV (placeOf P t) (zeroCells P t) (ps.toList.map fun p=>(p.1,aO P G ty sl p.2)) with
 | none=>rw[hf] at h;cases h
 | some cs=>
  rw[hf] at h;obtain rfl:=aM h;obtain ⟨i,z,hi,hz,h3,h4,h5⟩:=Wj (w:=w) (I:=I) (β:=β) (hp:=hp) au.1;obtain ⟨cells,f1,f2,f3⟩:=Wp (placeOf P t) h1 h3 h5 hf;have Ws:=au.2.2;refine .same S (v:= .agg cells) (af6 hi hz (by simp_all) au.2.1 (fun fs hu=> ?_) (fun n e hu=> ?_)) (.agg f2 f3)
  ·simpa[Il,hu] using Ws
  ·simpa[Il,hu] using Ws
theorem af8 (cK: ∀id blk,hp id=some blk→ei P w I β hp (β id) blk) {x:V} {v:Value} {ys:List V} {fr:List (Nat×ag)} {rd:List Nat} {ts:List TypeId} (hv:ai P w I β hp v x)
  (h:(vn P x.cells).run C hp=some ((ys,fr),rd)) (ht:tt P ts ys=true):
  v.cells.size=x.cells.length∧∀(j:Nat) u y,v.cells.toList[j]? =some u→x.cells[j]? =some y→ai P w I β hp u y:=by
 cases x with
 | agg xs=>
  obtain ⟨cs,rfl,h1,h2⟩:=hv.la;exact ⟨h1,fun j u y a b=>h2 j u y (by simpa[Value.cells] using a) b⟩
 | _=>
  simp only[V.cells] at h⊢;simp only[vn] at h;obtain ⟨⟨y1,u1⟩,l3,l4,hq,h⟩:=na h;obtain ⟨q1,q2⟩:=IC cK hq hv;obtain ⟨⟨y2,u2⟩,l5,l6,qV,h⟩:=na h;cases qV;have:=aM h;cases this;obtain ⟨tl,tg⟩:=xj ht;have en:=tg 0 _ y1 (bS (by grind)) rfl;have eb:=q2 (kh P w I β hp u1) (fun _ _ h=> .inl h) (fun p hp b j h=> .inr ⟨p,hp,h⟩);have ho:=eb.pure en;have Wf:v.cells= #[v]:=by cases ho<;>rfl
  grind
def zO (P:Program) (w:World) (I:Nat→Nat→Prop) (e:TypeId) (cells:Array Value) (es:List V):Prop:=
 cells.size=es.length*P.cellsOf e∧∀(i j:Nat) (x:V) (t':TypeId),es[i]? =some x→(aP P e)[j]? =some t'→j<P.cellsOf e→∃v,cells[i*P.cellsOf e+j]? =some v∧Pure P w I t' v (bX P e x j)
theorem zO.set {e:TypeId} {cells:Array Value} {es ys:List V} {i:Nat} {v:Value} (h:zO P w I e cells es) (hi:i<es.length) (hv:v.cells.size=P.cellsOf e) (hy:ys.length=P.cellsOf e)
  (hr: ∀(j:Nat) (t':TypeId) (u:Value) (y:V),(aP P e)[j]? =some t'→v.cells[j]? =some u→ys[j]? =some y→Pure P w I t' u y):
  zO P w I e (v.cells.zipIdx.foldl (fun cs (p:Value×Nat)=>cs.setIfInBounds (i*P.cellsOf e+p.2) p.1) cells) (es.set i (dm P e ys)):=by
 obtain ⟨h1,h2⟩:=h;have hb:i*P.cellsOf e+v.cells.size≤cells.size:=by
  have:(i+1)*P.cellsOf e≤es.length*P.cellsOf e:=ef _ hi;grind
 refine ⟨by rw[Wo,tm,h1],fun i' j x t' hx ht hj=> ?_⟩;rw[Wn hb];rw[B7] at hx;by_cases lL:i=i'
 ·subst lL;rw[ak rfl,ak hi] at hx;cases hx;rw[bO,bu,show i*P.cellsOf e+j-i*P.cellsOf e=j by omega];have h3:j<v.cells.size:=by omega
  have h4:j<ys.length:=by omega
  refine ⟨v.cells[j],kb h3,?_⟩;rw[tQ (bS h4) ht];exact hr j t' _ _ ht (kb h3) (bS h4)
 ·rw[aj lL] at hx;have bL:i'*P.cellsOf e+j<i*P.cellsOf e∨i*P.cellsOf e+v.cells.size≤i'*P.cellsOf e+j:=by
   rcases gy i' i with aY|pZ
   ·left;have:(i'+1)*P.cellsOf e≤i*P.cellsOf e:=ef _ aY;grind
   ·right;have:(i+1)*P.cellsOf e≤i'*P.cellsOf e:=ef _ (by omega);grind
  grind
theorem Wt {t':TypeId} {v:Value} (en:eU P t' (oQ (pK P t' v))=true):Pure P w I t' v (oQ (pK P t' v)):=by
 have hc:=ai.const (P:=P) (w:=w) (I:=I) (β:=fun _=>none) (hp:=fun _=>none) t' v;cases xo:pK P t' v<;>rw[xo] at en hc<;>simp only[oQ] at en⊢
 case int k n=>rw[hc.eY];exact Plain.pure (v:= .int k n) (y:= .int k n) rfl en
 case bool b=>rw[hc.kZ];exact Plain.pure (v:= .bool b) (y:= .bool b) rfl en
 case str l=>obtain ⟨s,e1,e2⟩:=hc.nf;rw[e1];exact Plain.pure (v:= .string s) (y:= .str l) ⟨s,rfl,e2⟩ en
 case nilS e'=>
  cases hc;exact Plain.pure (y:= .list e' []) (jU.any fun _=>rfl) en
 case list e' es=>
  cases hc with
  | list hp=>exact Plain.pure (y:= .list e' es) hp en
 all_goals (unfold eU at en;grind)
theorem Wu {t':TypeId} {v:Value} (en:eU P t' (oQ (pK P t' v))=true): ∀a n c,v= .slice a n c→c=0:=by
 intro a n c hv;subst hv;unfold pK at en;split at en<;>first|(rename_i h;cases h;rfl)|skip
 all_goals first|(simp_all;done)|(unfold eU oQ at en;split at en<;>simp_all)
theorem De {e:TypeId} (h:nX P e=true): ∃i z,P.info? e=some i∧i.zero=some z∧i.size=P.cellsOf e∧z.cells.size=P.cellsOf e∧
  ∀(j:Nat) (t':TypeId),(aP P e)[j]? =some t'→j<P.cellsOf e→∃v,z.cells[j]? =some v∧Pure P w I t' v (bX P e (dm P e (gJ P e)) j)∧∀a n c,v= .slice a n c→c=0:=by
 unfold nX at h;simp only[aK] at h;obtain ⟨i,z,h1,h2,h3,h4,h5⟩:=jy h.1;refine ⟨i,z,h1,h2,h3,h4,fun j t' ht hj=> ?_⟩;obtain ⟨tl,tg⟩:=xj h.2;have dn:j<(gJ P e).length:=by rw[←tl,(nc h.1).1];exact hj
 have hz:=bS dn;have en:=tg j t' _ (by rw[←qJ];exact ht) hz;refine ⟨z.cells[j],kb (by omega),?_⟩;rw[tQ hz ht];have xp:(gJ P e)[j]=oQ (pK P t' z.cells[j]):=by
  have:(gJ P e)[j]? =((zeroCells P e)[j]?).map oQ:=by simp[gJ]
  rw[hz] at this;cases hc:(zeroCells P e)[j]? with
  | none=>grind
  | some y=>
   rw[hc] at this;simp only[Option.map_some,ey] at this;rw[h5] at hc;obtain ⟨t2,v2,a1,a2,rfl⟩:=IY hc;have IZ:t2=t':=by
    rw[←qJ,ht] at a1;grind
   grind
 rw[xp] at en⊢;exact ⟨Wt en,Wu en⟩
end
section
variable {P:Program} {w w':World} {I I':Nat→Nat→Prop} {β β':Nat→Option Nat} {hp hp':Nat→Option ag} {C:af} {B:Nat} {M:Nat→Prop} {w0:Start}
theorem Wv (S:aA P w I β hp B M w0) {nb cap:Nat} {fz:Bool} {e T:TypeId} {es:List V} {C0:Array Value} (au:cU P e=true) (hn:hp nb=none) (hs:C0.size=cap*P.cellsOf e) (hl:es.length≤cap) (hm:cap≤maxLen) (hL:qG P T e C0.size)
  (hx: ∀(i j:Nat) (x:V) (t':TypeId),es[i]? =some x→(aP P e)[j]? =some t'→j<P.cellsOf e→∃v,C0[i*P.cellsOf e+j]? =some v∧Pure P w I t' v (bX P e x j)):
  Le P w I β hp (w.alloc (.cells C0 T)) I (aq β nb (some w.heap.size)) (aq hp nb (some (.arr e es fz)))∧aA P (w.alloc (.cells C0 T)) I (aq β nb (some w.heap.size)) (aq hp nb (some (.arr e es fz))) B M w0∧
  ai P (w.alloc (.cells C0 T)) I (aq β nb (some w.heap.size)) (aq hp nb (some (.arr e es fz))) (.slice (some ⟨w.heap.size,0,none⟩) es.length cap) (.whole e nb):=by
 obtain ⟨h1,h2⟩:=Oa S (blk:= .arr e es fz) (c:=C0) (T:=T) hn (fun b' h=>(dC (h.flat (by simp))).symm) (fun hle dr da=> .arr hL au rfl dr (by rw[hs];exact ef _ hl) (fun _ j h=>absurd h (da j)) (fun _=>da) fun i j x t' a b c=>by
  obtain ⟨v,hv,hp⟩:=hx i j x t' a b c;exact ⟨v,hv,hp.mono hle.dZ hle.cH⟩)
 refine ⟨h1,h2,.whole (bE _ _ _) (bE _ _ _) ?_ hl hm⟩;rw[jW (heap_alloc_new w (.cells C0 T)),hs]
theorem zP (S:aA P w I β hp B M w0) {nb cap:Nat} {fz:Bool} {e:TypeId} {es:List V} {C0:Array Value} (au:cU P e=true) (hn:hp nb=none) (hs:C0.size=cap*P.cellsOf e) (hl:es.length≤cap) (hm:cap≤maxLen)
  (hx: ∀(i j:Nat) (x:V) (t':TypeId),es[i]? =some x→(aP P e)[j]? =some t'→j<P.cellsOf e→∃v,C0[i*P.cellsOf e+j]? =some v∧Pure P w I t' v (bX P e x j)):
  Le P w I β hp (w.alloc (.cells C0 e)) I (aq β nb (some w.heap.size)) (aq hp nb (some (.arr e es fz)))∧aA P (w.alloc (.cells C0 e)) I (aq β nb (some w.heap.size)) (aq hp nb (some (.arr e es fz))) B M w0∧
  ai P (w.alloc (.cells C0 e)) I (aq β nb (some w.heap.size)) (aq hp nb (some (.arr e es fz))) (.slice (some ⟨w.heap.size,0,none⟩) es.length cap) (.whole e nb):=
 Wv S au hn hs hl hm qG.self hx
theorem Ww {b n:Nat} {Ca C':Array Value} {T T':TypeId} {f f':Nat×Nat} (hh:w.heap[b]? =some (.cells Ca T f)) (xb:w'.heap[b]? =some (.cells C' T' f')) (hI: ∀j,I b j→j<n) (hp: ∀j,j<n→C'[j]? =Ca[j]?) (j:Nat) (h:I b j):
  w'.cell? ⟨b,j,none⟩=w.cell? ⟨b,j,none⟩:=by
 rw[cell?_cells hh,cell?_cells xb];grind
theorem OE {b n:Nat} {fz:Bool} (hf:fz=true→∀j,I b j→j<n) (eN:fz=false→∀j,¬I b j): ∀j,I b j→j<n:=by
 intro j h;cases fz with
 | true=>grind
 | false=>grind
theorem At.only {b b':Nat} {e e' T:TypeId} {es aL:List V} {q:Path} {Ca:Array Value} {f:Nat×Nat} (hh:w.heap[b]? =some (.cells Ca T f)) (hz: ∀(i j:Nat) x t' v,es[i]? =some x→(aP P e)[j]? =some t'→Ca[i*P.cellsOf e+j]? =some v→∀a n c,v= .slice a n c→c=0)
  (h:At P w b e es q b' e' aL):q=[]∧b'=b∧e'=e∧aL=es:=by
 cases h with
 | here=>grind
 | step h1 h2 h3 h4 h5 h6 h7=>grind
theorem od.rV {t:TypeId} {v:Value} {x:V} (h:Pure P w I t v x) (hc: ∀a n c,v= .slice a n c→c=0):od P w I t v x:=by
 cases h with
 | int h=>exact .fu (by unfold dF;rw[h]) (.int h)
 | bool h=>exact .fu (by unfold dF;rw[h]) (.bool h)
 | str h hl=>exact .fu (by unfold dF;rw[h]) (.str h hl)
 | nil h=>exact .emp h
 | emp h=>have:=hc _ _ _ rfl;subst this;exact .emp h
 | list g hu hl hle _ _ _=>
  have:=hc _ _ _ rfl;subst this;obtain rfl:=ve.1 hle;obtain rfl:=u9.1 hl;exact .emp hu
theorem Wx (S:aA P w I β hp B M w0) {nb cap:Nat} {e T:TypeId} {es:List V} {C0:Array Value} (au:cU P e=true) (hn:hp nb=none) (hs:C0.size=cap*P.cellsOf e) (hl:es.length≤cap) (hm:cap≤maxLen) (hL:qG P T e C0.size)
  (hx: ∀(i j:Nat) (x:V) (t':TypeId),es[i]? =some x→(aP P e)[j]? =some t'→j<P.cellsOf e→∃v,C0[i*P.cellsOf e+j]? =some v∧Pure P w I t' v (bX P e x j)∧∀a n c,v= .slice a n c→c=0):
  Le P w I β hp (w.alloc (.cells C0 T)) I (aq β nb (some w.heap.size)) (aq hp nb (some (.nest e es [0,0,0])))∧aA P (w.alloc (.cells C0 T)) I (aq β nb (some w.heap.size)) (aq hp nb (some (.nest e es [0,0,0]))) B M w0∧
  ai P (w.alloc (.cells C0 T)) I (aq β nb (some w.heap.size)) (aq hp nb (some (.nest e es [0,0,0]))) (.slice (some ⟨w.heap.size,0,none⟩) es.length cap) (.whole e nb):=by
 have hz: ∀(i j:Nat) x t' v,es[i]? =some x→(aP P e)[j]? =some t'→C0[i*P.cellsOf e+j]? =some v→∀a n c,v= .slice a n c→c=0:=fun i j x t' v a b h=>by
  obtain ⟨v',h1,_,h3⟩:=hx i j x t' a b (by rw[←eC au];grind);grind
 obtain ⟨h1,h2⟩:=Oa S (blk:= .nest e es [0,0,0]) (c:=C0) (T:=T) hn (fun b' h=>by
   cases h with
   | root _ h=>grind
   | row h ha=>cases h;exact (At.only (heap_alloc_new w _) hz ha).2.1)
  (fun hle dr da=> .nest rfl (fun q b' e' aL ha=>by
   obtain ⟨rfl,rfl,rfl,rfl⟩:=At.only dr hz ha;refine ⟨au,⟨C0,_,dr,hL,by rw[hs];exact ef _ hl,fun i j x t' a b c=> ?_⟩,da⟩;obtain ⟨v,hv,hp⟩:=hx i j x t' a b c;exact ⟨v,hv,.rV (hp.1.mono hle.dZ hle.cH) hp.2⟩)
   fun q1 q2 b' e1 c9 e2 bJ a1 a2=>(At.only dr hz a1).1.trans (At.only dr hz a2).1.symm)
 refine ⟨h1,h2,.dw (bE _ _ _) (bE _ _ _) ?_ hl hm⟩;rw[jW (heap_alloc_new w (.cells C0 T)),hs]
theorem af9 (S:aA P w I β hp B M w0) {nb cap:Nat} {e:TypeId} {es:List V} {C0:Array Value} (au:cU P e=true) (hn:hp nb=none) (hs:C0.size=cap*P.cellsOf e) (hl:es.length≤cap) (hm:cap≤maxLen)
  (hx: ∀(i j:Nat) (x:V) (t':TypeId),es[i]? =some x→(aP P e)[j]? =some t'→j<P.cellsOf e→∃v,C0[i*P.cellsOf e+j]? =some v∧Pure P w I t' v (bX P e x j)∧∀a n c,v= .slice a n c→c=0):
  Le P w I β hp (w.alloc (.cells C0 e)) I (aq β nb (some w.heap.size)) (aq hp nb (some (.nest e es [0,0,0])))∧aA P (w.alloc (.cells C0 e)) I (aq β nb (some w.heap.size)) (aq hp nb (some (.nest e es [0,0,0]))) B M w0∧
  ai P (w.alloc (.cells C0 e)) I (aq β nb (some w.heap.size)) (aq hp nb (some (.nest e es [0,0,0]))) (.slice (some ⟨w.heap.size,0,none⟩) es.length cap) (.whole e nb):=
 Wx S au hn hs hl hm qG.self hx
theorem aga (S:aA P w I β hp B M w0) {e:TypeId} {nb:Nat} {r:R} {rd:List Nat} (h:(ND P nb e).run C hp=some (r,rd)):dg P ((Instr.alloc e true (.tuple #[])).run P w) w I β hp B M w0 r:=by
 unfold ND at h;split at h
 ·rename_i n e1 hu;obtain ⟨hc,h1⟩:=aD h;clear h;simp only[aK,aN,fk,mn,fF] at hc;obtain ⟨au,ni,nj,hn,hm,fU,en,Wy⟩:=hc;obtain ⟨zQ,rfl⟩:=lb h1;obtain ⟨i,z,hi,hz,h3,h4,h5⟩:=jy au;have jw:aP P e1=[e1]:=by simp[aP,nj]
  have hk:P.cellsOf e1=1:=by rw[←eC ni,jw];rfl
  have hlen:((zeroCells P e).map oQ).length≤n:=by
   rw[h5,cY,←hn,←h4];have go: ∀(ts:List TypeId) (vs:List Value),(iR P ts vs).length≤vs.length:=by
    intro ts
    induction ts with
    | nil=>intro vs;simp[iR]
    | cons t ts ih=>intro vs;cases vs with
     | nil=>simp[iR]
     | cons v vs=>simpa[iR] using ih vs
   grind
  have hx: ∀(i j:Nat) (x:V) (t':TypeId),((zeroCells P e).map oQ)[i]? =some x→(aP P e1)[j]? =some t'→j<P.cellsOf e1→∃v,z.cells[i*P.cellsOf e1+j]? =some v∧Pure P w I t' v (bX P e1 x j)∧∀a n c,v= .slice a n c→c=0:=by
   intro i j x t' hx ht hj;rw[hk] at hj⊢;obtain rfl:j=0:=by omega
   rw[jw] at ht;simp only[List.getElem?_cons_zero,ey] at ht;subst ht;have I4:=fF.1 en x (kO hx);rw[jk] at hx;cases hc:(zeroCells P e)[i]? with
   | none=>grind
   | some y=>
    rw[hc] at hx;cases hx;rw[h5] at hc;obtain ⟨t2,v2,a1,a2,rfl⟩:=IY hc;have IZ:e1=t2:=by simpa using fU t2 (kO a1)
    subst IZ;simp only[bX,nj,cond_false];exact ⟨v2,by grind,Wt I4,Wu I4⟩
  have hL:qG P e e1 z.cells.size:=fun hb _ k tU=>by
   grind
  have cI:(Instr.alloc e true (.tuple #[])).run P w= .ok (.pointer (some ⟨w.heap.size,0,none⟩)) (w.alloc (.cells z.cells e)):=by
   simp[Instr.alloc,zeroValue,typeInfo,hi,hz,newVar,newRow]
  have hs:z.cells.size=n*P.cellsOf e1:=by grind
  cases dF P e1 with
  | true=>
   obtain ⟨a,b,_⟩:=Wv S (nb:=nb) (fz:=false) ni zQ hs hlen hm hL fun i j x t' p q r=>(hx i j x t' p q r).imp fun _ h=>⟨h.1,h.2.1⟩
   refine ⟨_,_,_,_,cI,a,b,?_⟩;have:=ai.ptr (P:=P) (w:=w.alloc (.cells z.cells e)) (I:=I) (β:=aq β nb (some w.heap.size)) (hp:=aq hp nb (some (.arr e1 ((zeroCells P e).map oQ) false))) (i:=0) (c:=0) (bE _ _ _) (by simp) (bE _ _ _);rw[Nat.zero_mul] at this;exact this
  | false=>
   obtain ⟨a,b,_⟩:=Wx S (nb:=nb) ni zQ hs hlen hm hL hx;refine ⟨_,_,_,_,cI,a,b,?_⟩;have:=ai.ptr (P:=P) (w:=w.alloc (.cells z.cells e)) (I:=I) (β:=aq β nb (some w.heap.size)) (hp:=aq hp nb (some (.nest e1 ((zeroCells P e).map oQ) [0,0,0]))) (i:=0) (c:=0) (bE _ _ _) (by simp) (bE _ _ _);rw[Nat.zero_mul] at this;exact this
 ·cases h
theorem Wz (cK: ∀id blk,hp id=some blk→ei P w I β hp (β id) blk) {a:Act} {sl:Nat→V} (hs:mB P w I β hp a sl) {G:Nat→V} (hg:iF P G w I) {e:TypeId} {len:Nat}: ∀{l:List (Nat×Operand)} {ps:List (Nat×V)} {upd:List (Nat×ag)} {rd:List Nat},
  (Co P e len (l.map fun p=>(p.1,aO P G e sl p.2))).run C hp=some ((ps,upd),rd)→cU P e=true→(∀p∈upd,zy hp p)∧∀I':Nat→Nat→Prop,(∀b j,I b j→I' b j)→(∀p∈upd,∀b j,vE P w β hp p.1 b j→I' b j)→
   ∀(cells:Array Value) (es:List V),es.length=len→zO P w I' e cells es→∃se,Instr.fill (fun i=>some (i*P.cellsOf e,P.cellsOf e)) cells (l.map fun p=>(p.1,a.eval p.2))=some se∧zO P w I' e se (Cn es ps)∧(Cn es ps).length=len
 | [],ps,upd,rd,h,_=>by
  cases h;exact ⟨by simp,fun I' _ _ cells es hl he=>⟨cells,by simp[Instr.fill],he,hl⟩⟩
 | (i,x)::l,ps,upd,rd,h,au=>by
  simp only[iQ,Co] at h;obtain ⟨⟨ys,u1⟩,l1,l2,h1,h⟩:=na h;obtain ⟨hc,h⟩:=aD h;obtain ⟨⟨ps',u2⟩,l3,l4,h2,h⟩:=na h;have:=aM h;cases this;simp only[aK,nR] at hc;obtain ⟨hi,en⟩:=hc;obtain ⟨tl,tg⟩:=xj en;have oY:=hs.ev hg e x;obtain ⟨v1,v2⟩:=af8 cK oY h1 en;obtain ⟨k1,k2,k3⟩:=N6 cK h1 (vs:=(a.eval x).cells.toList) (by omega) v2;obtain ⟨m1,m2⟩:=Wz cK hs hg h2 au;refine ⟨fun p hp=> ?_,fun I' i1 i2 cells es hl he=> ?_⟩
  ·grind
  ·have eb:=k3 I' i1 (fun p hp=>i2 p (eS.2 (.inl hp)));have aU:=(nc au).1;have vO:ys.length=P.cellsOf e:=by omega
   have IM:(a.eval x).cells.size=P.cellsOf e:=by omega
   have zR:=he.set (i:=i) (ys:=ys) (by omega) IM vO (fun j t' u y ht hu hy=>by
    exact (eb j u y (by grind) hy).pure (tg j t' y (by rw[←qJ];exact ht) hy))
   obtain ⟨se,f1,f2,f3⟩:=m2 I' i1 (fun p hp=>i2 p (eS.2 (.inr hp))) _ (es.set i (dm P e ys)) (by grind) zR;refine ⟨se,?_,f2,f3⟩;have hb:i*P.cellsOf e+P.cellsOf e≤cells.size:=by
    rw[he.1,hl];have:(i+1)*P.cellsOf e≤len*P.cellsOf e:=ef _ hi;grind
   simp only[iQ,Instr.fill];grind
theorem WA {z:Array Value} {n k:Nat} (hk:k<n) (hz:0<z.size):((Array.range n).map (z[· %z.size]!))[k]? =z[k %z.size]? :=by
 have hm:k %z.size<z.size:=wP _ hz;grind
theorem WB {e:TypeId} (h:nX P e=true) {i:TypeInfo} {z:Value} (hi:P.info? e=some i) (hz:i.zero=some z) (n m:Nat) (oP:n≤m):
  ∀(k j:Nat) (x:V) (t':TypeId),(List.replicate n (dm P e (gJ P e)))[k]? =some x→(aP P e)[j]? =some t'→j<P.cellsOf e→
   ∃v,((Array.range (m*P.cellsOf e)).map (z.cells[· %z.cells.size]!))[k*P.cellsOf e+j]? =some v∧Pure P w I t' v (bX P e x j)∧∀a n c,v= .slice a n c→c=0:=by
 intro k j x t' hx ht hj;obtain ⟨i2,z2,h1,h2,h3,h4,h5⟩:=De (w:=w) (I:=I) h;rw[hi] at h1;cases h1;rw[hz] at h2;cases h2;rw[HN] at hx;split at hx
 ·rename_i hk;cases hx;obtain ⟨v,hv,hp⟩:=h5 j t' ht hj;refine ⟨v,?_,hp⟩;have hb:k*P.cellsOf e+j<m*P.cellsOf e:=by
   have:(k+1)*P.cellsOf e≤m*P.cellsOf e:=ef _ (by omega);grind
  rw[WA hb (by omega),h4,show (k*P.cellsOf e+j) %P.cellsOf e=j by rw[pG,Nat.mul_add_mod];exact B8 hj];exact hv
 ·cases hx
theorem OF {e:TypeId} (h:nX P e=true) {i:TypeInfo} {z:Value} (hi:P.info? e=some i) (hz:i.zero=some z) (n m:Nat) (oP:n≤m):
  ∀(k j:Nat) (x:V) (t':TypeId),(List.replicate n (dm P e (gJ P e)))[k]? =some x→(aP P e)[j]? =some t'→j<P.cellsOf e→
   ∃v,((Array.range (m*P.cellsOf e)).map (z.cells[· %z.cells.size]!))[k*P.cellsOf e+j]? =some v∧Pure P w I t' v (bX P e x j):=fun k j x t' a b c=>(WB h hi hz n m oP k j x t' a b c).imp fun _ h=>⟨h.1,h.2.1⟩
theorem OG {P:Program} (w:World) (t e:TypeId) (len:Nat) (parts:Array (Nat×Value)) (cells:Array Value) (ie:TypeInfo) (z:Value)
  (hu:P.underlying t=some (.slice e)) (lN:P.info? e=some ie) (hz:ie.zero=some z) (agb: ¬len*ie.size>2^24)
  (h:Instr.fill (fun i=>some (i*ie.size,ie.size)) ((Array.range (len*ie.size)).map (z.cells[· %z.cells.size]!)) parts.toList=some cells):
  (Instr.buildSlice t len parts).run P w= .ok (.slice (some ⟨w.heap.size,0,none⟩) len len) (w.alloc (.cells cells e)):=by
 by_cases oP:len*ie.size=0
 ·have h0: ∀g:Nat→Value,(Array.range (len*ie.size)).map g= #[]:=by grind
  have hp: ∀(u:Array Value),(Pure.pure u:Sem (Array Value)).run P w= .ok u w:=fun _=>rfl;rw[h0] at h;simp only[Instr.buildSlice,Sem.run_bind,run_underlying hu,Result.andThen_ok,sizeOf,typeInfo,lN];have h1:(Array.range (len*ie.size)).map (fun _:Nat=>(default:Value))= #[]:=h0 _;have hs: ¬16777216<len*ie.size:=by omega
  simp[lN,hs,oP];simp only[oP] at h1;simp[h1,h,newRow]
 ·exact run_buildSlice w t e len parts cells ie z hu lN hz agb oP h
theorem WC (S:aA P w I β hp B M w0) {a:Act} {sl:Nat→V} (hs:mB P w I β hp a sl) {G:Nat→V} (hg:iF P G w I) {t e:TypeId} {len nb:Nat} {ps:Array (Nat×Operand)} {r:R} {rd:List Nat} (hu:P.underlying t=some (.slice e))
  (h:(Rd.aB (nX P e&&Nat.ble (len*P.cellsOf e) (2^24)) ((Co P e len (ps.toList.map fun p=>(p.1,aO P G e sl p.2))).bind fun r=>
    hY nb (.arr e (Cn (List.replicate len (dm P e (gJ P e))) r.1) false) (.whole e nb) r.2)).run C hp=some (r,rd)):
  dg P ((Instr.buildSlice t len (ps.map fun (i,x)=>(i,a.eval x))).run P w) w I β hp B M w0 r:=by
 obtain ⟨hc,h⟩:=aD h;simp only[aK,fk] at hc;obtain ⟨eF,NZ⟩:=hc;have au:cU P e=true:=by
  unfold nX at eF;grind
 obtain ⟨⟨pv,upd⟩,l1,l2,h1,h⟩:=na h;obtain ⟨hn,rfl⟩:=lb h;obtain ⟨m1,m2⟩:=Wz S.h.rel hs hg h1 au;obtain ⟨sb,S1⟩:=CP S m1;obtain ⟨i,z,hi,hz,h3,h4,_⟩:=De (w:=w) (I:=I) eF;have gQ:=(nc au).2;have h0:zO P w (kh P w I β hp upd) e ((Array.range (len*P.cellsOf e)).map (z.cells[· %z.cells.size]!)) (List.replicate len (dm P e (gJ P e))):=
  ⟨by simp,OF eF hi hz len len (az _)⟩
 obtain ⟨cells,f1,f2,f3⟩:=m2 (kh P w I β hp upd) (fun _ _ h=> .inl h) (fun p hp b j h=> .inr ⟨p,hp,h⟩) _ _ (by simp) h0;have gb:cb hp upd nb=none:=by
  rcases w9 (hp:=hp) (l:=upd) (id:=nb) with h|⟨b',hm,_⟩
  ·grind
  ·obtain ⟨e1,c9,_,h5⟩:=m1 _ hm;grind
 have qK:len≤maxLen:=by
  have:len*1≤len*P.cellsOf e:=vf _ gQ;simp only[maxLen];omega
 obtain ⟨n1,n2,n3⟩:=zP S1 (cap:=len) au gb (by rw[f2.1,f3]) (by omega) qK f2.2;have cI:=OG w t e len (ps.map fun (i,x)=>(i,a.eval x)) cells i z hu hi hz (by grind) (by simp_all);refine ⟨_,_,_,_,cI,sb.trans n1,n2,?_⟩;rw[f3] at n3;exact n3
theorem WD (S:aA P w I β hp B M w0) {t e:TypeId} {nb:Nat} {kl kc:IntKind} {n m:Int} {r:R} {rd:List Nat} (hu:P.underlying t=some (.slice e))
  (h:(Rd.aB (nX P e&&(decide (0≤n)&&(decide (n≤m)&&Nat.ble (m.toNat*P.bytesOf e) bm)))
    (hY nb (.arr e (List.replicate n.toNat (dm P e (gJ P e))) false) (.whole e nb) [])).run C hp=some (r,rd)):
  dg P ((Instr.makeSlice t (.int kl n) (.int kc m)).run P w) w I β hp B M w0 r:=by
 obtain ⟨hc,h⟩:=aD h;simp only[aK,fk,fQ] at hc;obtain ⟨eF,h0,oP,dP⟩:=hc;have au:cU P e=true:=by
  unfold nX at eF;grind
 obtain ⟨hn,rfl⟩:=lb h;obtain ⟨i,z,hi,hz,h3,h4,_⟩:=De (w:=w) (I:=I) eF;have mF:P.bytesOf e=i.bytes:=by simp[Program.bytesOf,hi]
 have OH:m≤9223372036854775807:=by
  have h1:m.toNat*1≤m.toNat*P.bytesOf e:=vf _ (w8 au);simp only[bm] at dP;omega
 have cI:=run_make (P:=P) w t e i z hu hi hz kl kc n m h0 oP (by
  rw[mF] at dP;simp only[bm] at dP;grind) OH
 have hlen:(List.replicate n.toNat (dm P e (gJ P e))).length=n.toNat:=by simp
 obtain ⟨n1,n2,n3⟩:=zP S (cap:=m.toNat) (es:=List.replicate n.toNat (dm P e (gJ P e))) (C0:=madeCells z.cells (m.toNat*i.size)) au hn (by rw[size_madeCells,h3]) (by omega) (by simp only[maxLen];omega)
  (by rw[h3];exact OF eF hi hz n.toNat m.toNat (by omega))
 refine ⟨_,_,_,_,cI,n1,n2,?_⟩;rw[hlen] at n3;exact n3
theorem agc (S:aA P w I β hp B M w0) {t e:TypeId} {nb:Nat} {kl kc:IntKind} {n m:Int} {r:R} {rd:List Nat} (hu:P.underlying t=some (.slice e))
  (h:(Rd.aB (nX P e&&(decide (0≤n)&&(decide (n≤m)&&Nat.ble (m.toNat*P.bytesOf e) bm)))
    (hY nb (.nest e (List.replicate n.toNat (dm P e (gJ P e))) [0,0,0]) (.whole e nb) [])).run C hp=some (r,rd)):
  dg P ((Instr.makeSlice t (.int kl n) (.int kc m)).run P w) w I β hp B M w0 r:=by
 obtain ⟨hc,h⟩:=aD h;simp only[aK,fk,fQ] at hc;obtain ⟨eF,h0,oP,dP⟩:=hc;have au:cU P e=true:=by
  unfold nX at eF;grind
 obtain ⟨hn,rfl⟩:=lb h;obtain ⟨i,z,hi,hz,h3,h4,_⟩:=De (w:=w) (I:=I) eF;have mF:P.bytesOf e=i.bytes:=by simp[Program.bytesOf,hi]
 have OH:m≤9223372036854775807:=by
  have h1:m.toNat*1≤m.toNat*P.bytesOf e:=vf _ (w8 au);simp only[bm] at dP;omega
 have cI:=run_make (P:=P) w t e i z hu hi hz kl kc n m h0 oP (by
  rw[mF] at dP;simp only[bm] at dP;grind) OH
 have hlen:(List.replicate n.toNat (dm P e (gJ P e))).length=n.toNat:=by simp
 obtain ⟨n1,n2,n3⟩:=af9 S (cap:=m.toNat) (es:=List.replicate n.toNat (dm P e (gJ P e))) (C0:=madeCells z.cells (m.toNat*i.size)) au hn (by rw[size_madeCells,h3]) (by omega) (by simp only[maxLen];omega)
  (by rw[h3];exact WB eF hi hz n.toNat m.toNat (by omega))
 refine ⟨_,_,_,_,cI,n1,n2,?_⟩;rw[hlen] at n3;exact n3
theorem Pure.one {t:TypeId} {v:Value} {x:V} (h:Pure P w I t v x):v.oneCell'=true:=by cases h<;>rfl
structure Row (P:Program) (w:World) (I:Nat→Nat→Prop) (e:TypeId) (v:Value) (xs:List V) (a:Addr) (c:Nat) (news:List Value):Prop where
 val:v= .slice (some a) xs.length c
 len:news.length=xs.length*P.cellsOf e
 cell: ∀(j:Nat) u,news[j]? =some u→w.cell? (a.add j)=some u
 el: ∀(i j:Nat) (x:V) (t':TypeId),xs[i]? =some x→(aP P e)[j]? =some t'→j<P.cellsOf e→∃u,news[i*P.cellsOf e+j]? =some u∧Pure P w I t' u (bX P e x j)
theorem Row.one {e:TypeId} {v:Value} {xs:List V} {a:Addr} {c:Nat} {news:List Value} (h:Row P w I e v xs a c news) (au:cU P e=true): ∀u∈news,u.oneCell'=true:=by
 intro u hu;obtain ⟨k,hk⟩:=rL hu;have sf:=(ct.1 hk).1;have gQ:=(nc au).2;rw[h.len] at sf;have hi:k/P.cellsOf e<xs.length:=Nat.div_lt_of_lt_mul (by grind);have hj:k %P.cellsOf e<P.cellsOf e:=wP _ gQ;have dQ:k %P.cellsOf e<(aP P e).length:=by rw[eC au];exact hj
 obtain ⟨u',jZ,hp⟩:=h.el (k/P.cellsOf e) (k %P.cellsOf e) _ _ (bS hi) (bS dQ) hj;rw[Nat.div_add_mod'] at jZ;rw[hk] at jZ;cases jZ;exact hp.one
theorem WE {e T:TypeId} {es:List V} {b:Nat} {Ca:Array Value} {off len cap o:Nat} (hh:w.heap[b]? =some (.cells Ca T (0,0))) (hs:es.length*P.cellsOf e≤Ca.size)
  (hx: ∀(i j:Nat) (x:V) (t':TypeId),es[i]? =some x→(aP P e)[j]? =some t'→j<P.cellsOf e→∃v,Ca[i*P.cellsOf e+j]? =some v∧Pure P w I t' v (bX P e x j))
  (kW:off+len≤es.length) (ho:0<len→o=off*P.cellsOf e):
  Row P w I e (.slice (some ⟨b,o,none⟩) len cap) ((es.drop off).take len) ⟨b,o,none⟩ cap ((Ca.toList.drop (off*P.cellsOf e)).take (len*P.cellsOf e)):=by
 have hlen:((es.drop off).take len).length=len:=by simp;omega
 have hb:(off+len)*P.cellsOf e≤Ca.size:=lu (ef _ kW) hs;rw[jN] at hb;refine ⟨by rw[hlen],by grind,fun j u hj=> ?_,fun i j x t' lI ht hj=> ?_⟩
 ·have dn:=(ct.1 hj).1;have agd:j<len*P.cellsOf e:=by
   grind
  have kX:0<len:=by
   grind
  rw[gX agd,pE] at hj;rw[mE,cell?_cells hh,ho kX];grind
 ·have hi:i<len:=by grind
  rw[gX hi,pE] at lI;obtain ⟨u,hu,hp⟩:=hx (off+i) j x t' lI ht hj;refine ⟨u,?_,hp⟩;have:i*P.cellsOf e+j<len*P.cellsOf e:=by
   have:(i+1)*P.cellsOf e≤len*P.cellsOf e:=ef _ hi;grind
  grind
theorem Dg (cK: ∀id blk,hp id=some blk→ei P w I β hp (β id) blk) {e:TypeId} {v:Value} {x:V} {k:List V→Rd R} {r:R} {rd:List Nat} (au:cU P e=true) (hv:ai P w I β hp v x)
  (h:(tx e x k).run C hp=some (r,rd)): ∃xs,(((∃a,v= .slice a 0 0)∧xs=[])∨∃a c news,Row P w I e v xs a c news)∧∃l,(k xs).run C hp=some (r,l):=by
 cases hv with
 | list hp'=>
  obtain ⟨hc,h2⟩:=aD h;clear h;rw[aN] at hc;subst hc;cases hp' with
  | nil=>grind
  | @emp a cap=>exact ⟨[],.inr ⟨a,cap,[],⟨rfl,by simp,fun j u hj=>by simp at hj,fun i j x t' hx _ _=>by simp at hx⟩⟩,rd,h2⟩
  | @list b o len cap es g hl bP hI fH hx=>
   refine ⟨_,.inr ⟨⟨b,o,none⟩,cap,(List.range (len*P.cellsOf e)).map fun k=>g (k/P.cellsOf e) (k %P.cellsOf e),⟨by rw[hl],by grind,fun j u hj=> ?_,fun i j x t' lI ht hj=> ?_⟩⟩,rd,h2⟩
   ·obtain ⟨dn,xh⟩:=ct.1 hj;simp at dn xh;have gQ:=(nc au).2;have hi:j/P.cellsOf e<len:=Nat.div_lt_of_lt_mul (by grind);have dj:j %P.cellsOf e<P.cellsOf e:=wP _ gQ;rw[mE,←xh];have:=fH (j/P.cellsOf e) (j %P.cellsOf e) hi dj;rwa [Nat.div_add_mod'] at this
   ·have hi:i<len:=by grind
    have hb:i*P.cellsOf e+j<len*P.cellsOf e:=by
     have:(i+1)*P.cellsOf e≤len*P.cellsOf e:=ef _ hi;grind
    refine ⟨g i j,?_,hx i j x t' lI ht⟩;have e1:(i*P.cellsOf e+j)/P.cellsOf e=i:=by
     rw[pG,Nat.mul_add_div (nc au).2,Nat.div_eq_of_lt hj,Nat.add_zero]
    have e2:(i*P.cellsOf e+j) %P.cellsOf e=j:=by
     rw[pG,Nat.mul_add_mod];exact B8 hj
    grind
 | nilS=>
  obtain ⟨hc,h⟩:=aD h;grind
 | dD ab hb=>
  obtain ⟨l,h⟩:=run_get h;simp only[ab] at h;obtain ⟨hc,h⟩:=aD h;grind
 | @whole e' id es fz b cap ab hb aU bP hm=>
  obtain ⟨l,h⟩:=run_get h;simp only[ab] at h;obtain ⟨hc,h2⟩:=aD h;clear h;simp only[aK,aN] at hc;obtain ⟨rfl,_⟩:=hc;have hr:=cK _ _ ab;cases hr with
  | dY ay=>grind
  | arr hL Oe ay hh hs hf eN hx=>
   rw[hb] at ay;cases ay;have:=WE (cap:=cap) (off:=0) (len:=es.length) (o:=0) hh hs hx (by omega) (fun _=>by simp);grind
 | gC ab hb=>
  obtain ⟨l,h⟩:=run_get h;simp only[ab] at h;obtain ⟨hc,h⟩:=aD h;grind
 | @sub e' id off len es fz b o cap ab hb kW bP ho=>
  obtain ⟨l,h⟩:=run_get h;simp only[ab] at h;obtain ⟨hc,h2⟩:=aD h;clear h;simp only[aK,aN] at hc;obtain ⟨rfl,_⟩:=hc;have hr:=cK _ _ ab;cases hr with
  | dY ay=>grind
  | arr hL Oe ay hh hs hf eN hx=>
   rw[hb] at ay;cases ay;exact ⟨_,.inr ⟨_,_,_,WE (cap:=cap) hh hs hx kW ho⟩,l,h2⟩
 | dH ab=>
  obtain ⟨l,h⟩:=run_get h;simp only[ab] at h;cases h
 | ij ab=>
  obtain ⟨l,h⟩:=run_get h;simp only[ab] at h;cases h
 | undef=>cases h
 | int=>cases h
 | bool=>cases h
 | str=>cases h
 | agg=>cases h
 | aX=>cases h
 | eg=>cases h
 | fn=>cases h
 | pref=>cases h
 | kS=>cases h
 | ptr=>cases h
 | kU=>cases h
 | kV=>cases h
 | row=>cases h
 | dq=>cases h
 | eu=>cases h
 | jV=>cases h
 | cN=>cases h
 | dO ab=>
  obtain ⟨l,h⟩:=run_get h;simp only[ab] at h;cases h
 | eB ab=>
  obtain ⟨l,h⟩:=run_get h;simp only[ab] at h;cases h
 | dw ab=>
  obtain ⟨l,h⟩:=run_get h;simp only[ab] at h;cases h
theorem zS {t ty e:TypeId} {i:TypeInfo} (ht:P.underlying t=some (.slice e)) (hi:P.info? e=some i) (a:Option Addr) (n cap:Nat) (x:Value) (hx: ∃a c,x= .slice a 0 c) (hn:n≤cap):
  (Builtin.append_ #[t,t] ty #[.slice a n cap,x]).run P w= .ok (.slice a n cap) w:=by
 obtain ⟨a',c,rfl⟩:=hx;cases a' with
 | none=>cases a<;>simp[Builtin.append_,run_underlying ht,sizeOf,typeInfo,hi,Builtin.lenOf,Builtin.firstCells,hn,storeCells]
 | some a'=>cases a<;>simp[Builtin.append_,run_underlying ht,sizeOf,typeInfo,hi,Builtin.lenOf,Builtin.firstCells,hn,storeCells,loadCells,loadCellsFrom]
theorem I5 {e:TypeId} {es xs:List V} {n:Nat} {c:List Value} {news:List Value} (hn:es.length=n)
  (h1: ∀(i j:Nat) (x:V) (t':TypeId),es[i]? =some x→(aP P e)[j]? =some t'→j<P.cellsOf e→∃v,c[i*P.cellsOf e+j]? =some v∧Pure P w I t' v (bX P e x j))
  (h2: ∀(i j:Nat) (x:V) (t':TypeId),xs[i]? =some x→(aP P e)[j]? =some t'→j<P.cellsOf e→∃v,news[i*P.cellsOf e+j]? =some v∧Pure P w I t' v (bX P e x j))
  (hb:n*P.cellsOf e≤c.length) (rest:List Value):
  ∀(i j:Nat) (x:V) (t':TypeId),(es++xs)[i]? =some x→(aP P e)[j]? =some t'→j<P.cellsOf e→∃v,(c.take (n*P.cellsOf e)++news++rest)[i*P.cellsOf e+j]? =some v∧Pure P w I t' v (bX P e x j):=by
 intro i j x t' hx ht hj;have hl:(c.take (n*P.cellsOf e)).length=n*P.cellsOf e:=by simp;omega
 by_cases hi:i<n
 ·rw[mq (by omega)] at hx;obtain ⟨v,hv,hp⟩:=h1 i j x t' hx ht hj;have:i*P.cellsOf e+j<n*P.cellsOf e:=by
   have:(i+1)*P.cellsOf e≤n*P.cellsOf e:=ef _ hi;grind
  grind
 ·rw[nU (by omega),hn] at hx;obtain ⟨v,hv,hp⟩:=h2 (i-n) j x t' hx ht hj;have tX:i-n<xs.length:=(ct.1 hx).1;have e1:i*P.cellsOf e+j-n*P.cellsOf e=(i-n)*P.cellsOf e+j:=by
   rw[Nat.sub_mul];have:n*P.cellsOf e≤i*P.cellsOf e:=ef _ (by omega);omega
  have h3:(i-n)*P.cellsOf e+j<news.length:=(ct.1 hv).1;refine ⟨v,?_,hp⟩;have h4:n*P.cellsOf e≤i*P.cellsOf e+j:=by
   have:n*P.cellsOf e≤i*P.cellsOf e:=ef _ (by omega);omega
  grind
theorem Pure.drew {t:TypeId} {v:Value} {x:V} (h:Pure P w I t v x):Pure P w.drew I t v x:=Pure.mono (w:=w) (w':=w.drew) (fun _ _ h=>h) (fun _ _ _=>rfl) h
theorem WG (w:World) (t ty e:TypeId) (i:TypeInfo) (z:Value) (ht:P.underlying t=some (.slice e)) (hi:P.info? e=some i) (hz:i.zero=some z)
  (a0:Option Addr) (a:Addr) (n c:Nat) (news:List Value) (hl:news.length=n*i.size) (sg: ∀j v,news[j]? =some v→w.cell? (a.add j)=some v)
  (h0:0<n) (Dh:(n:Int)≤9223372036854775807) (I6:n*i.bytes≤281474976710656):
  (Builtin.append_ #[t,t] ty #[.slice a0 0 0,.slice (some a) n c]).run P w=
   .ok (.slice (some ⟨w.heap.size,0,none⟩) n (grownCap w n 0 e)) (w.drew.alloc (.cells (news.toArray++Builtin.zeroCells z.cells (grownCap w n 0 e-n)) e)):=by
 cases a0 with
 | none=>exact run_append_nil w t ty e i z ht hi hz a n c news hl sg h0 Dh I6
 | some b=>
  have:=run_append_grow (P:=P) w t ty e i z ht hi hz b 0 0 [] (by simp) (by simp) a n c news hl sg (by omega) (by omega) (by rw[eT,nextslicecap_zero h0];omega);grind
theorem OI (S:aA P w I β hp B M w0) {t ty e:TypeId} {nb:Nat} {fz:Bool} {x:Value} {xs:List V} (hu:P.underlying t=some (.slice e)) (au:cU P e=true) (hn:hp nb=none)
  (dP:xs.length*P.bytesOf e≤bm) {a0:Option Addr} (hx:((∃a,x= .slice a 0 0)∧xs=[])∨∃a c news,Row P w I e x xs a c news):
  ∃v w' β',(Builtin.append_ #[t,t] ty #[.slice a0 0 0,x]).run P w= .ok v w'∧Le P w I β hp w' I β' (aq hp nb (some (.arr e xs fz)))∧aA P w' I β' (aq hp nb (some (.arr e xs fz))) B M w0∧
   ai P w' I β' (aq hp nb (some (.arr e xs fz))) v (.whole e nb):=by
 obtain ⟨i,z,hi,hz,h3,h4,_⟩:=jy au;have tY:=w8 au;have mF:P.bytesOf e=i.bytes:=by simp[Program.bytesOf,hi]
 have hlen:xs.length≤2^45:=by
  have:xs.length*1≤xs.length*P.bytesOf e:=vf _ tY;simp only[bm] at dP;omega
 have empty:xs=[]→(∃a c,x= .slice a 0 c)→∃v w' β',(Builtin.append_ #[t,t] ty #[.slice a0 0 0,x]).run P w= .ok v w'∧Le P w I β hp w' I β' (aq hp nb (some (.arr e xs fz)))∧aA P w' I β' (aq hp nb (some (.arr e xs fz))) B M w0∧
   ai P w' I β' (aq hp nb (some (.arr e xs fz))) v (.whole e nb):=by
  intro jz OJ;subst jz;obtain ⟨a1,a2⟩:=CQ S e hn;exact ⟨_,_,_,zS hu hi a0 0 0 x OJ (az _),a1,a2,.dD (bE _ _ _) (bE _ _ _)⟩
 rcases hx with ⟨⟨_,rfl⟩,rfl⟩|⟨a,c,news,hr⟩
 ·simp_all
 ·by_cases h0:xs.length=0
  ·have jz:xs=[]:=nQ h0;refine empty jz ⟨some a,c,?_⟩;rw[hr.val,h0]
  ·have cI:=WG (P:=P) w t ty e i z hu hi hz a0 a xs.length c news (by rw[hr.len,h3]) hr.cell (by omega) (by omega) (by rw[←mF];simp only[bm] at dP;omega);have pZ:=grownCap_ge w xs.length 0 e;have qW:grownCap w xs.length 0 e≤maxLen:=grownCap_le_maxLen w xs.length 0 e (by simp only[maxLen];omega);obtain ⟨n1,n2,n3⟩:=zP S.drew (nb:=nb) (cap:=grownCap w xs.length 0 e) (es:=xs) (C0:=news.toArray++Builtin.zeroCells z.cells (grownCap w xs.length 0 e-xs.length)) au hn
    (by simp only[HO,qw,size_zeroCells,h4,hr.len,←jN];grind) pZ qW
    (fun i' j y t' hy ht hj=>by
     obtain ⟨u,jZ,hp⟩:=hr.el i' j y t' hy ht hj;have aY:=(ct.1 jZ).1;refine ⟨u,?_,Pure.drew hp⟩;grind)
   rw[hr.val];exact ⟨_,_,_,cI,(Le.drew w I β hp).trans n1,n2,n3⟩
theorem WH {P:Program} (w:World) (t ty e T:TypeId) (i:TypeInfo) (ht:P.underlying t=some (.slice e)) (hi:P.info? e=some i)
  (g ld tZ:Nat) (cur:Array Value) (hg:w.heap[g]? =some (.cells cur T (0,0)))
  (a:Addr) (m c:Nat) (news:List Value) (hl:news.length=m*i.size) (sg: ∀j u,news[j]? =some u→w.cell? (a.add j)=some u) (h1: ∀u∈news,u.oneCell'=true)
  (sh:ld+m≤tZ) (zT:ld*i.size+news.length≤cur.size):
  (Builtin.append_ #[t,t] ty #[.slice (some ⟨g,0,none⟩) ld tZ,.slice (some a) m c]).run P w=
   .ok (.slice (some ⟨g,0,none⟩) (ld+m) tZ) (w.setRow g (cur.toList.take (ld*i.size)++news++cur.toList.drop (ld*i.size+news.length)).toArray):=by
 have hf:=run_firstCells_some (P:=P) w i.size m a m c news hl sg;have ec:=run_storeCells_at P g (ld*i.size) T news 0 cur w hg (by omega) h1;simp only[Nat.add_zero] at ec;simp[Builtin.append_,run_underlying ht,sizeOf,typeInfo,hi,Builtin.lenOf,sh,hf,Addr.add_lit,ec]
theorem WI (S:aA P w I β hp B M w0) {t ty e:TypeId} {nb id:Nat} {s x:Value} {es xs:List V} {fz:Bool} (hu:P.underlying t=some (.slice e)) (au:cU P e=true) (hs:ai P w I β hp s (.whole e id)) (ab:hp id=some (.arr e es fz)) (hn:hp nb=none)
  (dP:Nat.ble ((es.length+xs.length)*P.bytesOf e) bm=true) (lO:((∃a,x= .slice a 0 0)∧xs=[])∨∃a c news,Row P w I e x xs a c news):
  dg P ((Builtin.append_ #[t,t] ty #[s,x]).run P w) w I β hp B M w0 ⟨.whole e nb,[(nb,.arr e (es++xs) fz),(id,.dead)]⟩:=by
 rw[fk] at dP;have bL:nb≠id:=fun e=>by grind
 obtain ⟨k1,k2⟩:=vG S ab;have gb:aq hp id (some ag.dead) nb=none:=by rw[cu _ _ bL];exact hn
 cases hs with
 | dH hd=>grind
 | dw hd=>grind
 | dO hd=>grind
 | eB hd=>grind
 | dD hd hb=>
  rw[ab] at hd;cases hd;simp only[List.length_nil,eT] at dP;have age:((∃a,x= .slice a 0 0)∧xs=[])∨∃a c news,Row P w I e x xs a c news:=lO;obtain ⟨v,w',β',a1,a2,a3,a4⟩:=OI (ty:=ty) k2 hu au gb dP age;exact ⟨v,w',I,β',a1,k1.trans a2,a3,a4⟩
 | @whole _ _ aL n8 b cap hd hb aU bP hm=>
  rw[ab] at hd;cases hd;have hr:=S.h.rel id _ ab;cases hr with
  | dY ay=>grind
  | @arr _ T _ _ b' Ca hL _ ay hh vP hf eN vQ=>
   rw[hb] at ay;cases ay;obtain ⟨i,z,hi,hz,h3,h4,_⟩:=jy au;have tY:=w8 au;have mF:P.bytesOf e=i.bytes:=by simp[Program.bytesOf,hi]
   have hlen:es.length+xs.length≤2^45:=by
    have:(es.length+xs.length)*1≤(es.length+xs.length)*P.bytesOf e:=vf _ tY;simp only[bm] at dP;omega
   rw[jW hh] at aU;have oX: ∀aw blk',aq hp id (some ag.dead) aw=some blk'→¬bd P w (β aw) blk' b:=by
    intro aw blk' h1 h2;by_cases lL:aw=id
    ·subst lL;rw[bE] at h1;cases h1;exact h2.alive rfl
    ·rw[cu _ _ lL] at h1;exact lL (S.h.inj aw id blk' _ b h1 ab h2 (.root (by simp) hb))
   have Di:=S.h.vD id _ b ab (by simp) hb;have room: ∀(C':Array Value) (w':World) (ys:List V),w'.heap[b]? =some (.cells C' T (0,0))→C'.size=Ca.size→(∀b',b'≠b→w'.heap[b']? =w.heap[b']?)→w.heap.size≤w'.heap.size→(w'.os=w.os∧w'.output=w.output)→ys.length≤cap→es.length≤ys.length→(∀j,j<es.length*P.cellsOf e→C'[j]? =Ca[j]?)→
     (∀(i j:Nat) (y:V) (t':TypeId),ys[i]? =some y→(aP P e)[j]? =some t'→j<P.cellsOf e→∃v,C'[i*P.cellsOf e+j]? =some v∧Pure P w I t' v (bX P e y j))→
     Le P w I β hp w' I (aq β nb (some b)) (aq (aq hp id (some .dead)) nb (some (.arr e ys fz)))∧aA P w' I (aq β nb (some b)) (aq (aq hp id (some .dead)) nb (some (.arr e ys fz))) B M w0∧
     ai P w' I (aq β nb (some b)) (aq (aq hp id (some .dead)) nb (some (.arr e ys fz))) (.slice (some ⟨b,0,none⟩) ys.length cap) (.whole e nb):=by
    intro C' w' ys hC om xq hwz agf vO hey p5 hy;have hIn:=OE hf eN;obtain ⟨a1,a2⟩:=zE k2 (blk:= .arr e ys fz) (w':=w') gb oX (Ww hh hC hIn p5) (fun b' h _=>xq b' h) hwz agf Di
     (fun b' h=>(dC (h.flat (by simp))).symm) (fun hle=> .arr (om▸hL) au rfl hC (by rw[om,←aU];exact ef _ vO) (fun _ j h=>lr (hIn j h) (ef _ hey)) eN fun i j y t' a b c=>by
      obtain ⟨v,hv,hp⟩:=hy i j y t' a b c;exact ⟨v,hv,hp.mono hle.dZ hle.cH⟩)
    refine ⟨k1.trans a1,a2,.whole (bE _ _ _) (bE _ _ _) ?_ vO hm⟩;rw[jW hC,om,aU]
   have same:xs=[]→(∃a c,x= .slice a 0 c)→dg P ((Builtin.append_ #[t,t] ty #[.slice (some ⟨b,0,none⟩) es.length cap,x]).run P w) w I β hp B M w0 ⟨.whole e nb,[(nb,.arr e (es++xs) fz),(id,.dead)]⟩:=by
    intro jz OJ;subst jz;rw[vd];obtain ⟨a1,a2,a3⟩:=room Ca w es hh rfl (fun _ _=>rfl) (az _) ⟨rfl,rfl⟩ bP (az _) (fun _ _=>rfl) vQ;exact ⟨_,_,_,_,zS hu hi _ _ _ x OJ bP,a1,a2,a3⟩
   rcases lO with ⟨⟨_,rfl⟩,rfl⟩|⟨a,c,news,c6⟩
   ·grind
   ·have h1:=c6.one au;have pW:es.length*P.cellsOf e≤Ca.toList.length:=by omega
    by_cases sh:es.length+xs.length≤cap
    ·have zT:es.length*P.cellsOf e+news.length≤Ca.size:=by rw[c6.len,←jN,←aU];exact ef _ sh
     have cI:=WH (P:=P) w t ty e T i hu hi b es.length cap Ca hh a xs.length c news (by rw[c6.len,h3]) c6.cell h1 sh (by grind);rw[h3] at cI;have eF:=I5 (P:=P) (w:=w) (I:=I) (n:=es.length) (c:=Ca.toList) rfl (fun i j y t' a b c=>by
      grind) c6.el pW (Ca.toList.drop (es.length*P.cellsOf e+news.length))
     obtain ⟨a1,a2,a3⟩:=room (Ca.toList.take (es.length*P.cellsOf e)++news++Ca.toList.drop (es.length*P.cellsOf e+news.length)).toArray (w.setRow b _) (es++xs)
      (setRow_heap w b Ca _ T _ hh) (by simp;omega) (fun b' ay=>setRow_other w b b' _ ay) (by simp) ⟨rfl,rfl⟩ (by grind) (by simp) (fun j hj=>by
        grind)
      (fun i j y t' a b c=>by
       grind)
     rw[c6.val];rw[gI] at a3;exact ⟨_,_,_,_,cI,a1,a2,a3⟩
    ·have hold: ∀(j:Nat) v,(Ca.toList.take (es.length*P.cellsOf e))[j]? =some v→w.cell? ((⟨b,0,none⟩:Addr).add j)=some v:=by
      intro j v hj;have dn:=(ct.1 hj).1;have dj:j<es.length*P.cellsOf e:=by grind
      rw[gX dj] at hj;rw[mE,cell?_cells hh,eT];grind
     have cI:=run_append_grow (P:=P) w t ty e i z hu hi hz ⟨b,0,none⟩ es.length cap (Ca.toList.take (es.length*P.cellsOf e)) (by grind) hold a xs.length c news (by rw[c6.len,h3]) c6.cell (by omega) (by omega)
      (growslice_fits (by omega) (by rw[←mF];simp only[bm] at dP;omega))
     have pZ:=grownCap_ge w (es.length+xs.length) cap e;have qW:grownCap w (es.length+xs.length) cap e≤maxLen:=grownCap_le_maxLen w _ cap e (by simp only[maxLen];omega);have eF:=I5 (P:=P) (w:=w) (I:=I) (n:=es.length) (c:=Ca.toList) rfl (fun i j y t' a b c=>by
      grind) c6.el pW (Builtin.zeroCells z.cells (grownCap w (es.length+xs.length) cap e-(es.length+xs.length))).toList
     obtain ⟨n1,n2,n3⟩:=zP k2.drew (nb:=nb) (cap:=grownCap w (es.length+xs.length) cap e) (es:=es++xs)
      (C0:=(Ca.toList.take (es.length*P.cellsOf e)).toArray++news.toArray++Builtin.zeroCells z.cells (grownCap w (es.length+xs.length) cap e-(es.length+xs.length))) au gb
      (by
       have e1:(Ca.toList.take (es.length*P.cellsOf e)).length=es.length*P.cellsOf e:=by simp;omega
       simp only[HO,qw,size_zeroCells,h4,c6.len,e1,←jN];grind) (by grind) qW
      (fun i j y t' a b c=>by
       obtain ⟨v,hv,hp⟩:=eF i j y t' a b c;refine ⟨v,?_,Pure.drew hp⟩;grind)
     rw[c6.val];rw[gI] at n3;exact ⟨_,_,_,_,cI,(k1.trans (Le.drew w I β _)).trans n1,n2,n3⟩
theorem agh (S:aA P w I β hp B M w0) {t ty e:TypeId} {nb:Nat} {s x:Value} {sv xv:V} {r:R} {rd:List Nat} (hu:P.underlying t=some (.slice e)) (hs:ai P w I β hp s sv) (hx:ai P w I β hp x xv)
  (h:(zn P nb e sv xv).run C hp=some (r,rd)):dg P ((Builtin.append_ #[t,t] ty #[s,x]).run P w) w I β hp B M w0 r:=by
 unfold zn at h;obtain ⟨au,h⟩:=aD h;obtain ⟨xs,lO,l0,h⟩:=Dg S.h.rel au hx h;cases sv with
 | nilS e'=>
  obtain ⟨hc,h⟩:=aD h;simp only[aK,aN,fk] at hc;obtain ⟨hn,rfl⟩:=lb h;obtain ⟨a0,rfl⟩: ∃a0,s= .slice a0 0 0:=by cases hs;grind
  obtain ⟨v,w',β',a1,a2,a3,a4⟩:=OI (ty:=ty) S hu au hn hc.2 lO;exact ⟨v,w',I,β',a1,a2,a3,a4⟩
 | whole e' id=>
  obtain ⟨l,h⟩:=run_get h;cases ab:hp id with
  | none=>rw[ab] at h;cases h
  | some blk=>
   rw[ab] at h;cases blk with
   | dead=>cases h
   | var _=>cases h
   | nest _ _ _=>cases h
   | map _ _=>cases h
   | out _ _ _ _=>cases h
   | arr dG es fz=>
    obtain ⟨hc,h⟩:=aD h;obtain ⟨hn,rfl⟩:=lb h;simp only[aK,aN,fk] at hc;obtain ⟨OK,OL,dP⟩:=hc;subst OK;subst OL;exact WI S hu au hs ab hn (by simp_all) lO
 | _=>cases h
end
section
variable {P:Program} {w w':World} {I I':Nat→Nat→Prop} {β β':Nat→Option Nat} {hp hp':Nat→Option ag} {C:af} {B:Nat} {M:Nat→Prop} {w0:Start}
theorem run_copy_none (w:World) {dT sT ty elem:TypeId} {i:TypeInfo} (a0:Option Addr) (WJ agi:Nat) (a1:Option Addr) (ld tZ:Nat) (hu:P.underlying dT=some (.slice elem)) (hi:P.info? elem=some i) (h0:Nat.min ld WJ=0):
  (Builtin.copy_ #[dT,sT] ty #[.slice a0 WJ agi,.slice a1 ld tZ]).run P w= .ok (goInt 0) w:=by
 cases a0<;>cases a1<;>simp[Builtin.copy_,run_underlying hu,Builtin.lenOf,Builtin.firstCells,sizeOf,typeInfo,hi,h0,storeCells,loadCells,loadCellsFrom]
theorem agj (S:aA P w I β hp B M w0) {t u ty e:TypeId} {s x:Value} {sv xv:V} {r:R} {rd:List Nat} (hu:P.underlying t=some (.slice e)) (hs:ai P w I β hp s sv) (hx:ai P w I β hp x xv)
  (h:(NI P e sv xv).run C hp=some (r,rd)):dg P ((Builtin.copy_ #[t,u] ty #[s,x]).run P w) w I β hp B M w0 r:=by
 unfold NI at h;obtain ⟨au,h'⟩:=aD h;clear h;simp only[aK,aN] at au;obtain ⟨au,h1⟩:=au;obtain ⟨xs,lO,l0,h⟩:=Dg S.h.rel au hx h';obtain ⟨i,z,hi,hz,aU,_⟩:=jy au;cases sv<;>simp only at h<;>first|(cases h;done)|skip
 rename_i e' id;obtain ⟨l,h2⟩:=run_get h;clear h;cases ab:hp id with
 | none=>rw[ab] at h2;cases h2
 | some blk=>
  rw[ab] at h2;cases blk<;>simp only at h2<;>first|(cases h2;done)|skip
  rename_i e2 es fz;cases fz with
  | true=>cases h2
  | false=>
  obtain ⟨hc,h3⟩:=aD h2;simp only[aK,aN] at hc;obtain ⟨rfl,rfl⟩:=hc;obtain rfl:=aM h3;have si:min xs.length es.length=0→(Builtin.copy_ #[t,u] ty #[s,x]).run P w= .ok (goInt 0) w→dg P ((Builtin.copy_ #[t,u] ty #[s,x]).run P w) w I β hp B M w0 ⟨.int .i64 (min xs.length es.length:Nat),[(id,.arr e (xs.take es.length++es.drop xs.length) false)]⟩:=by
   intro h0 hr;have he:xs.take es.length++es.drop xs.length=es:=by
    rcases Nat.le_total xs.length es.length with hl|hl
    ·have:xs=[]:=nQ (by omega);simp[this]
    ·have:es=[]:=nQ (by omega);simp[this]
   have gO:cb hp [(id,.arr e (xs.take es.length++es.drop xs.length) false)]=hp:=by
    rw[he];exact NT hp id _ ab
   refine ⟨goInt 0,w,I,β,hr,?_⟩;simp only[gO,h0];exact ⟨Le.refl w I β hp,S,.int⟩
  cases hs with
  | dH hd=>rw[ab] at hd;cases hd
  | dw hd=>rw[ab] at hd;cases hd
  | dO hd=>rw[ab] at hd;cases hd
  | eB hd=>rw[ab] at hd;cases hd
  | @dD _ _ fz a hd hb=>
   rw[ab] at hd;cases hd;refine si (by simp) ?_;rcases lO with ⟨⟨a',rfl⟩,rfl⟩|⟨a',c,news,c6⟩
   ·exact run_copy_none w _ _ _ _ _ _ hu hi (by simp)
   ·rw[c6.val];exact run_copy_none w _ _ _ _ _ _ hu hi (by simp)
  | @whole _ _ aL n8 b cap hd hb zU bP hm=>
   have eW:=hd;rw[ab] at hd;cases hd;rcases lO with ⟨⟨a',rfl⟩,rfl⟩|⟨a',c,news,c6⟩
   ·exact si (by simp) (run_copy_none w _ _ _ _ _ _ hu hi (by simp))
   have hr:=S.h.rel id _ ab;cases hr with
   | dY ay=>rw[ay] at hb;cases hb
   | @arr _ T0 _ _ b' Ca hL _ ay hh vP hf eN vQ=>
    rw[hb] at ay;cases ay;have p6:news.length=xs.length:=by rw[c6.len,h1,ga]
    rw[h1,ga] at vP;have mG:(news.take es.length).length=Nat.min xs.length es.length:=by
     rw[oO,p6,Nat.min_comm]
    have WK:Nat.min xs.length es.length=min xs.length es.length:=rfl;have cI:=run_copy_row (P:=P) w t u ty e b 0 es.length cap a' xs.length c Ca T0 (news.take es.length) hu (by rw[hi];simp[aU,h1]) hh mG
     (fun j v hj=>c6.cell j v (by
      have:=(ct.1 hj).1;rw[oO] at this;rwa [gX (by omega)] at hj)) (by rw[mG,WK];omega) (fun v hv=>c6.one au v (HP hv))
    rw[c6.val];have hq:(goInt (news.take es.length).length)= .int .i64 ((min xs.length es.length:Nat):Int):=by rw[mG];rfl
    have mD:(xs.take es.length++es.drop xs.length).length=es.length:=by simp;omega
    have om:(Ca.toList.take 0++news.take es.length++Ca.toList.drop (0+(news.take es.length).length)).toArray.size=Ca.size:=by
     simp only[qw,gI,List.length_drop,oO,mG,WK];simp;omega
    obtain ⟨a1,a2⟩:=IL S (blk':= .arr e (xs.take es.length++es.drop xs.length) false) (Cb:=(Ca.toList.take 0++news.take es.length++Ca.toList.drop (0+(news.take es.length).length)).toArray) ab (by simp) ⟨rfl,mD.symm⟩ hb (eN rfl) (by simp) hh om
     (fun hle dr=> .arr (by rw[om];exact hL) au rfl dr (by rw[om,mD,h1,ga];exact vP) (fun h=>by cases h) (fun _=>eN rfl) fun i j y t' hy ht hj=>by
      rw[h1] at hj⊢;obtain rfl:j=0:=by omega
      rw[ga,Nat.add_zero];have jx:=(ct.1 hy).1;rw[mD] at jx;by_cases nk:i<xs.length
      ·rw[mq (by rw[oO];omega),gX jx] at hy;obtain ⟨u',k1,k2⟩:=c6.el i 0 y t' hy ht (by omega);rw[h1,ga,Nat.add_zero] at k1;refine ⟨u',?_,k2.mono hle.dZ hle.cH⟩;simp only[List.take_zero,List.nil_append,nT];rw[mq (by rw[oO];omega),gX jx];exact k1
      ·have e1:(xs.take es.length).length=xs.length:=by rw[oO];omega
       rw[nU (by omega),e1,pE,show xs.length+(i-xs.length)=i by omega] at hy;obtain ⟨u',k1,k2⟩:=vQ i 0 y t' hy ht (by omega);rw[h1,ga,Nat.add_zero] at k1;refine ⟨u',?_,k2.mono hle.dZ hle.cH⟩;simp only[List.take_zero,List.nil_append,nT,eT];have e2:(news.take es.length).length=xs.length:=by rw[oO];omega
       rw[nU (by omega),e2,pE,show xs.length+(i-xs.length)=i by omega];simpa using k1)
    exact ⟨_,_,_,_,cI,a1,a2,by rw[hq];exact .int⟩
theorem agk (S:aA P w I β hp B M w0) {t ty e:TypeId} {x:Value} {xv:V} {r:R} {rd:List Nat} (hu:P.underlying t=some (.slice e)) (hx:ai P w I β hp x xv)
  (h:(NH P e xv).run C hp=some (r,rd)):dg P ((Builtin.clear_ #[t] ty #[x]).run P w) w I β hp B M w0 r:=by
 unfold NH at h;obtain ⟨eF,h'⟩:=aD h;clear h;have au:cU P e=true:=by
  unfold nX at eF;simp only[aK] at eF;exact eF.1
 obtain ⟨i,z,hi,hz,aU,Dj,hzp⟩:=De (w:=w) (I:=I) eF;have gQ:=(nc au).2;cases xv<;>simp only at h'<;>first|(cases h';done)|skip
 rename_i e' id off len;obtain ⟨l,h2⟩:=run_get h';clear h';cases ab:hp id with
 | none=>rw[ab] at h2;cases h2
 | some blk=>
  rw[ab] at h2;cases blk<;>simp only at h2<;>first|(cases h2;done)|skip
  rename_i e2 es fz;cases fz with
  | true=>cases h2
  | false=>
  obtain ⟨hc,h3⟩:=aD h2;simp only[aK,aN] at hc;obtain ⟨rfl,rfl⟩:=hc;obtain rfl:=aM h3;have si:len=0→(Builtin.clear_ #[t] ty #[x]).run P w= .ok (.tuple #[]) w→dg P ((Builtin.clear_ #[t] ty #[x]).run P w) w I β hp B M w0 ⟨.aX [],[(id,.arr e (es.take off++(List.replicate len (dm P e (gJ P e))++es.drop (off+len))) false)]⟩:=by
   intro h0 hr;subst h0;have gO:cb hp [(id,.arr e (es.take off++(List.replicate 0 (dm P e (gJ P e))++es.drop (off+0))) false)]=hp:=by
    simp only[List.replicate_zero,List.nil_append,Nat.add_zero,List.take_append_drop];exact NT hp id _ ab
   refine ⟨.tuple #[],w,I,β,hr,?_⟩;simp only[gO];exact ⟨Le.refl w I β hp,S,.aX rfl fun j v x hj hx=>by simp at hx⟩
  cases hx with
  | ij hd=>rw[ab] at hd;cases hd
  | @gC _ _ _ a0 hd hb=>exact si rfl (by cases a0<;>simp[Builtin.clear_,run_underlying hu])
  | @sub _ _ _ _ aL n8 b o cap hd hb kW bP ho=>
   by_cases hlen:len=0
   ·refine si hlen ?_;subst hlen;simp[Builtin.clear_,run_underlying hu]
   have agl:0<len:=by omega
   have eW:=hd;rw[ab] at hd;cases hd;have hr:=S.h.rel id _ ab;cases hr with
   | dY ay=>rw[ay] at hb;cases hb
   | @arr _ T0 _ _ b' Ca hL _ ay hh vP hf eN vQ=>
    rw[hb] at ay;cases ay;have ho:=ho agl;subst ho;have xp:(Builtin.zeroCells z.cells len).toList.length=len*P.cellsOf e:=by rw[Array.length_toList,size_zeroCells,Dj]
    have hmul:off*P.cellsOf e+len*P.cellsOf e≤es.length*P.cellsOf e:=by rw[←jN];exact ef _ kW
    have qT: ∀v∈(Builtin.zeroCells z.cells len).toList,v.oneCell'=true:=by
     intro v hv;obtain ⟨k,hk⟩:=rL hv;have sf:=(ct.1 hk).1;rw[xp] at sf;have hzg:(Builtin.zeroCells z.cells len)[k]? =z.cells[k %z.cells.size]? :=WA (z:=z.cells) (n:=len*z.cells.size) (by rw[Dj];exact sf) (by rw[Dj];exact gQ);rw[pF,hzg] at hk;have hm:k %z.cells.size<P.cellsOf e:=by rw[Dj];exact wP _ gQ
     have htl:k %z.cells.size<(aP P e).length:=by rw[eC au];exact hm
     obtain ⟨v',Dd,hp'⟩:=hzp (k %z.cells.size) _ (bS htl) hm;rw[hk] at Dd;cases Dd;exact hp'.1.one
    have ec:=run_storeCells_at P b (off*P.cellsOf e) T0 (Builtin.zeroCells z.cells len).toList 0 Ca w hh (by rw[xp];omega) qT;simp only[Nat.add_zero] at ec;have cI:(Builtin.clear_ #[t] ty #[.slice (some ⟨b,off*P.cellsOf e,none⟩) len cap]).run P w= .ok (.tuple #[]) (w.setRow b (Ca.toList.take (off*P.cellsOf e)++(Builtin.zeroCells z.cells len).toList++Ca.toList.drop (off*P.cellsOf e+(Builtin.zeroCells z.cells len).toList.length)).toArray):=by
     obtain ⟨n,rfl⟩: ∃n,len=n+1:=⟨len-1,by omega⟩
     simp[Builtin.clear_,run_underlying hu,zeroValue,typeInfo,hi,hz,ec]
    have mD:(es.take off++(List.replicate len (dm P e (gJ P e))++es.drop (off+len))).length=es.length:=by simp;omega
    have om:(Ca.toList.take (off*P.cellsOf e)++(Builtin.zeroCells z.cells len).toList++Ca.toList.drop (off*P.cellsOf e+(Builtin.zeroCells z.cells len).toList.length)).toArray.size=Ca.size:=by
     simp only[qw,gI,List.length_drop,oO,xp,Array.length_toList];omega
    obtain ⟨a1,a2⟩:=IL S (blk':= .arr e (es.take off++(List.replicate len (dm P e (gJ P e))++es.drop (off+len))) false) ab (by simp) ⟨rfl,mD.symm⟩ hb (eN rfl) (by simp) hh om
     (fun hle dr=> .arr (by rw[om];exact hL) au rfl dr (by rw[om,mD];exact vP) (fun h=>by cases h) (fun _=>eN rfl) fun i' j y t' hy ht hj=>by
      have nn:=pV es (List.replicate len (dm P e (gJ P e))) off i' (by simp;omega);rw[za] at nn;rw[nn] at hy;have hC:(Ca.toList.take (off*P.cellsOf e)++(Builtin.zeroCells z.cells len).toList++Ca.toList.drop (off*P.cellsOf e+(Builtin.zeroCells z.cells len).toList.length)).toArray[i'*P.cellsOf e+j]? =
        if i'*P.cellsOf e+j<off*P.cellsOf e then Ca.toList[i'*P.cellsOf e+j]? else if i'*P.cellsOf e+j<off*P.cellsOf e+len*P.cellsOf e then (Builtin.zeroCells z.cells len).toList[i'*P.cellsOf e+j-off*P.cellsOf e]? else Ca.toList[i'*P.cellsOf e+j]? :=by
       have:=pV Ca.toList (Builtin.zeroCells z.cells len).toList (off*P.cellsOf e) (i'*P.cellsOf e+j) (by rw[xp,Array.length_toList];omega);rw[nT,jO,this,xp]
      by_cases zV:i'<off
      ·rw[ak zV] at hy;have:(i'+1)*P.cellsOf e≤off*P.cellsOf e:=ef _ zV;rw[jN] at this;rw[bu] at hC;obtain ⟨u,k1,k2⟩:=vQ i' j y t' hy ht hj;exact ⟨u,hC.trans (by simpa using k1),k2.mono hle.dZ hle.cH⟩
      ·rw[aj zV] at hy;have h1:off*P.cellsOf e≤i'*P.cellsOf e:=ef _ (by omega);rw[bO] at hC;by_cases tX:i'<off+len
       ·rw[ak tX] at hy;have:(i'+1)*P.cellsOf e≤(off+len)*P.cellsOf e:=ef _ tX;rw[jN,jN] at this;rw[bu] at hC;obtain ⟨v,k1,k2⟩:=OF (w:=w) (I:=I) eF hi hz len len (az _) (i'-off) j y t' hy ht hj;refine ⟨v,hC.trans ?_,k2.mono hle.dZ hle.cH⟩;rw[show i'*P.cellsOf e+j-off*P.cellsOf e=(i'-off)*P.cellsOf e+j by rw[Nat.sub_mul];omega,pF];unfold Builtin.zeroCells;rw[Dj] at k1⊢;exact k1
       ·rw[aj tX] at hy;have:(off+len)*P.cellsOf e≤i'*P.cellsOf e:=ef _ (by omega);rw[jN] at this;rw[bO] at hC;obtain ⟨u,k1,k2⟩:=vQ i' j y t' hy ht hj;exact ⟨u,hC.trans (by simpa using k1),k2.mono hle.dZ hle.cH⟩)
    exact ⟨_,_,_,_,cI,a1,a2,.aX rfl fun j v x hj hx=>by simp at hx⟩
end
section
variable {P:Program} {w w':World} {I I':Nat→Nat→Prop} {β β':Nat→Option Nat} {hp hp':Nat→Option ag} {C:af} {B:Nat} {M:Nat→Prop} {w0:Start}
theorem Dk (S:aA P w I β hp B M w0) {nb b:Nat} {e e1:TypeId} {ys:List V} {C':Array Value} (hr:rowOf P e=some e1) (hn:hp nb=none)
  {T:TypeId} (tS:w'.heap[b]? =some (.cells C' T (0,0))) (hlen:ys.length≤C'.size)
  (hw: ∀b',b'≠b→b'<w.heap.size→w'.heap[b']? =w.heap[b']?) (aU:w.heap.size≤w'.heap.size) (lH:w'.os=w.os∧w'.output=w.output) (hb:M b∨B≤b)
  (oX: ∀aw blk',hp aw=some blk'→¬bd P w (β aw) blk' b) (da: ∀j,¬I b j) (K:Nat→Nat→List V→Prop)
  (fH: ∀(i:Nat) x,ys[i]? =some x→∃l v,x= .list e1 l∧C'[i]? =some v∧xl P w e1 (K i) v l)
  (hK: ∀i b1 l,K i b1 l→b1≠b∧b1<w.heap.size∧gm P w I b1 e1 l∧(M b1∨B≤b1)∧∀id blk,hp id=some blk→¬bd P w (β id) blk b1)
  (rZ: ∀i j b1 l m,K i b1 l→K j b1 m→i=j):
  Le P w I β hp w' I (aq β nb (some b)) (aq hp nb (some (.nest e ys [0,0,0])))∧aA P w' I (aq β nb (some b)) (aq hp nb (some (.nest e ys [0,0,0]))) B M w0:=by
 obtain ⟨p1,p2⟩:=Wa (w:=w) (I:=I) (vers:=[0,0,0]) hr tS hlen da K fH (fun i b1 l h=>⟨(hK i b1 l h).1,hw _ (hK i b1 l h).1 (hK i b1 l h).2.1,(hK i b1 l h).2.2.1⟩) rZ;refine VN S hn oX (fun j h=>absurd h (da j)) hw aU lH hb (fun b' ho=> ?_) (fun hle=>p2 hle.cH);rcases p1 b' ho with h|⟨i,l,h⟩
 ·exact .inl h
 ·exact .inr ⟨(hK _ _ _ h).2.2.2.1,(hK _ _ _ h).2.2.2.2⟩
theorem agm (S:aA P w I β hp B M w0) {t ty e:TypeId} {nb:Nat} {s x:Value} {sv xv:V} {r:R} {rd:List Nat} (hu:P.underlying t=some (.slice e)) (hs:ai P w I β hp s sv) (hx:ai P w I β hp x xv)
  (h:(NG P nb e sv xv).run C hp=some (r,rd)):dg P ((Builtin.append_ #[t,t] ty #[s,x]).run P w) w I β hp B M w0 r:=by
 unfold NG at h;obtain ⟨hro,ha⟩:=aD h;clear h;obtain ⟨e1,hr⟩:=zb.1 hro;obtain ⟨OM,cE,au,ni,fU⟩:=vN hr;have jw:aP P e=[e]:=by simp[aP,cE]
 have hk:P.cellsOf e=1:=by rw[←eC au,jw];rfl
 obtain ⟨i,z,hi,hz,h3,h4,_⟩:=jy au;have tY:=w8 au;have mF:P.bytesOf e=i.bytes:=by simp[Program.bytesOf,hi]
 rw[hk] at h3 h4;cases sv with
 | whole e' id=>
  obtain ⟨l0,hb⟩:=run_get ha;clear ha;cases ab:hp id with
  | none=>rw[ab] at hb;cases hb
  | some blk=>
   rw[ab] at hb;cases blk with
   | nest dG es vers=>
    obtain ⟨hc,hd⟩:=aD hb;clear hb;simp only[aK,aN] at hc;obtain ⟨rfl,rfl⟩:=hc;cases xv with
    | nilS e3=>
     obtain ⟨_,he⟩:=aD hd;cases he;obtain ⟨a0,rfl⟩: ∃a0,x= .slice a0 0 0:=by cases hx;exact ⟨_,rfl⟩
     cases hs with
     | dH hd=>rw[ab] at hd;cases hd
     | dD hd=>rw[ab] at hd;cases hd
     | whole hd=>rw[ab] at hd;cases hd
     | eB hd=>rw[ab] at hd;cases hd
     | dO hd hb=>exact ⟨_,_,_,_,zS hu hi _ 0 0 _ ⟨_,_,rfl⟩ (az _),Le.refl ..,S,.dO hd hb⟩
     | dw hd hb aU bP hm=>
      rw[ab] at hd;cases hd;exact ⟨_,_,_,_,zS hu hi _ _ _ _ ⟨_,_,rfl⟩ bP,Le.refl ..,S,.dw ab hb aU bP hm⟩
    | list e3 l=>
     obtain ⟨fc,he⟩:=aD hd;simp only[aK,aN] at fc;obtain ⟨rfl,kX⟩:=fc;have kX:=u9.1 kX;subst kX;cases he;obtain ⟨a0,c0,rfl⟩: ∃a0 c0,x= .slice a0 0 c0:=by
      cases hx with
      | list hp'=>cases hp' with
       | nil=>exact ⟨_,_,rfl⟩
       | emp=>exact ⟨_,_,rfl⟩
       | list g b c d e=>exact ⟨_,_,by rw[←b];rfl⟩
     cases hs with
     | dH hd=>rw[ab] at hd;cases hd
     | dD hd=>rw[ab] at hd;cases hd
     | whole hd=>rw[ab] at hd;cases hd
     | eB hd=>rw[ab] at hd;cases hd
     | dO hd hb=>exact ⟨_,_,_,_,zS hu hi _ 0 0 _ ⟨_,_,rfl⟩ (az _),Le.refl ..,S,.dO hd hb⟩
     | dw hd hb aU bP hm=>
      rw[ab] at hd;cases hd;exact ⟨_,_,_,_,zS hu hi _ _ _ _ ⟨_,_,rfl⟩ bP,Le.refl ..,S,.dw ab hb aU bP hm⟩
    | whole e3 bj=>
     obtain ⟨l1,he⟩:=run_get hd;clear hd;cases db:hp bj with
     | none=>rw[db] at he;cases he
     | some cw=>
      rw[db] at he;cases cw with
      | nest e4 xs og=>
       obtain ⟨hc,hf⟩:=aD he;clear he;simp only[aK,aN,fk,mn,nR] at hc;obtain ⟨rfl,rfl,WM,gQ,dP⟩:=hc;have bL:id≠bj:=fun h=>by rw[h,mo] at WM;cases WM
       obtain ⟨hn,rfl⟩:=lb hf;have hlen:es.length+xs.length≤2^45:=by
        have:(es.length+xs.length)*1≤(es.length+xs.length)*P.bytesOf e:=vf _ tY;simp only[bm] at dP;omega
       obtain ⟨b2,Dl,fI,rfl⟩: ∃b2 Dl,β bj=some b2∧x= .slice (some ⟨b2,0,none⟩) xs.length Dl:=by
        cases hx with
        | dH hd=>rw[db] at hd;cases hd
        | dD hd=>rw[db] at hd;cases hd
        | whole hd=>rw[db] at hd;cases hd
        | eB hd=>rw[db] at hd;cases hd
        | dO hd hb=>rw[db] at hd;cases hd;simp at gQ
        | dw hd hb aU bP hm=>rw[db] at hd;cases hd;exact ⟨_,_,hb,rfl⟩
       obtain ⟨C2,_,g1,g2,g3,g4,g5,g6⟩:=OC S hr db fI;have sg: ∀(j:Nat) v,(C2.toList.take xs.length)[j]? =some v→w.cell? ((⟨b2,0,none⟩:Addr).add j)=some v:=by
        intro j v hj;have dn:=(ct.1 hj).1;rw[oO] at dn;rw[gX (by omega)] at hj;rw[mE,cell?_cells g1,eT];simpa using hj
       have p6:(C2.toList.take xs.length).length=xs.length:=by simp;omega
       have qT: ∀u∈C2.toList.take xs.length,u.oneCell'=true:=by
        intro u hm;obtain ⟨j,hj⟩:=rL hm;have dn:=(ct.1 hj).1;rw[p6] at dn;rw[gX dn] at hj;obtain ⟨l,v,_,hv,hh⟩:=g4 j xs[j] (bS dn);have:v=u:=by rw[pF,hv] at hj;exact dC hj
        subst this;rcases hh with ⟨_,a,rfl⟩|⟨b1,cap,_,rfl,_⟩<;>rfl
       obtain ⟨k1,S1⟩:=vG S ab;have agn:aq hp id (some ag.dead) bj=some (.nest e xs og):=by rw[cu _ _ (Ne.symm bL)];exact db
       obtain ⟨k2,S2⟩:=vG S1 agn;have sj:nb≠id:=fun e=>by rw[e,ab] at hn;cases hn
       have ago:nb≠bj:=fun e=>by rw[e,db] at hn;cases hn
       have p7:aq (aq hp id (some ag.dead)) bj (some ag.dead) nb=none:=by rw[cu _ _ ago,cu _ _ sj];exact hn
       have live: ∀{aw blk'},aq (aq hp id (some ag.dead)) bj (some ag.dead) aw=some blk'→blk'≠ .dead→hp aw=some blk'∧aw≠id∧aw≠bj:=by
        intro aw blk' h hd;by_cases q1:aw=bj
        ·subst q1;rw[bE] at h;cases h;exact absurd rfl hd
        ·rw[cu _ _ q1] at h;by_cases q2:aw=id
         ·subst q2;rw[bE] at h;cases h;exact absurd rfl hd
         ·rw[cu _ _ q2] at h;exact ⟨h,q2,q1⟩
       have ON: ∀{idx bx:Nat} {bl},(idx=id∨idx=bj)→hp idx=some bl→bd P w (β idx) bl bx→∀aw blk',aq (aq hp id (some ag.dead)) bj (some ag.dead) aw=some blk'→¬bd P w (β aw) blk' bx:=by
        intro idx bx bl hor mH ho aw blk' h hO;obtain ⟨q1,q2,q3⟩:=live h hO.alive;have:=S.h.inj aw idx _ _ bx q1 mH hO ho;rcases hor with rfl|rfl
        ·exact q2 this
        ·exact q3 this
       have ua:cb hp [(nb,.nest e (es++xs) [0,0,0]),(id,.dead),(bj,.dead)]=aq (aq (aq hp id (some ag.dead)) bj (some ag.dead)) nb (some (.nest e (es++xs) [0,0,0])):=by
        funext k;simp only[cb];by_cases q0:k=nb
        ·subst q0;rw[bE,bE]
        ·by_cases q1:k=id
         ·subst q1;rw[cu _ _ q0,bE,cu _ _ q0,cu _ _ bL,bE]
         ·by_cases q2:k=bj
          ·subst q2;rw[cu _ _ q0,cu _ _ q1,bE,cu _ _ q0,bE]
          ·rw[cu _ _ q0,cu _ _ q1,cu _ _ q2,cu _ _ q0,cu _ _ q2,cu _ _ q1]
       have jv:bd P w (β bj) (.nest e xs og) b2:= .root (by simp) fI;have lit: ∀i b1 l,At P w b2 e xs [(i,0)] b1 e1 l→b1<w.heap.size∧gm P w I b1 e1 l∧(M b1∨B≤b1)∧∀aw blk',aq (aq hp id (some ag.dead)) bj (some ag.dead) aw=some blk'→¬bd P w (β aw) blk' b1:=fun i b1 l ha=>by
        obtain ⟨_,q2,q3,q4,q5⟩:=g5 i b1 l ha;exact ⟨q2,q3,q4,ON (.inr rfl) db q5⟩
       cases hs with
       | dH hd=>rw[ab] at hd;cases hd
       | dD hd=>rw[ab] at hd;cases hd
       | whole hd=>rw[ab] at hd;cases hd
       | eB hd=>rw[ab] at hd;cases hd
       | @dO _ _ _ a0 hd hb=>
        rw[ab] at hd;cases hd;simp only[List.length_nil,eT] at dP hlen;have cI:=WG (P:=P) w t ty e i z hu hi hz a0 ⟨b2,0,none⟩ xs.length Dl (C2.toList.take xs.length) (by rw[p6,h3,ga]) sg (by omega) (by omega) (by rw[←mF];simp only[bm] at dP;omega);have pZ:=grownCap_ge w xs.length 0 e;have qW:grownCap w xs.length 0 e≤maxLen:=grownCap_le_maxLen w xs.length 0 e (by simp only[maxLen];omega);have dr:(w.drew.alloc (.cells ((C2.toList.take xs.length).toArray++Builtin.zeroCells z.cells (grownCap w xs.length 0 e-xs.length)) e)).heap[w.heap.size]? =some (.cells ((C2.toList.take xs.length).toArray++Builtin.zeroCells z.cells (grownCap w xs.length 0 e-xs.length)) e):=heap_alloc_new w.drew (.cells ((C2.toList.take xs.length).toArray++Builtin.zeroCells z.cells (grownCap w xs.length 0 e-xs.length)) e);have zQ:=S2.h.iE;obtain ⟨a1,a2⟩:=Dk (w':=w.drew.alloc (.cells ((C2.toList.take xs.length).toArray++Builtin.zeroCells z.cells (grownCap w xs.length 0 e-xs.length)) e)) S2 (nb:=nb) (b:=w.heap.size) (ys:=xs) hr p7 dr (by simp;omega)
         (fun b' _ aY=>heap_alloc_old w.drew _ b' aY) (by simp) ⟨rfl,rfl⟩ (.inr S.size) (fun aw blk' h ho=>ml _ (S2.h.lt h ho)) (fun j hj=>ml _ (zQ _ j hj))
         (fun i b1 l=>At P w b2 e xs [(i,0)] b1 e1 l) (fun j y hy=>by
          obtain ⟨l,v,q1,q2,q3⟩:=g4 j y hy;have dn:=(ct.1 hy).1;refine ⟨l,v,q1,?_,q3⟩;rw[HQ (by simpa using by omega)];simp[dn,q2])
         (fun j b1 l ha=>⟨B9 (lit j b1 l ha).1,lit j b1 l ha⟩) g6
        refine ⟨_,_,I,aq β nb (some w.heap.size),cI,?_⟩;rw[ua,List.nil_append];refine ⟨(k1.trans k2).trans a1,a2,?_⟩;exact .dw (bE _ _ _) (bE _ _ _) (by rw[jW dr,hk,ga];simp[size_zeroCells,h4];omega) pZ qW
       | @dw _ _ _ _ b cap hd hb aU bP hm=>
        rw[ab] at hd;cases hd;obtain ⟨Ca,Tq,f1,f2,f3,f4,f5,f6⟩:=OC S hr ab hb;rw[jW f1,hk,ga] at aU;have mH:bd P w (β id) (.nest e es vers) b:= .root (by simp) hb;have Di:=S.h.own id _ b ab mH;have ew: ∀i b1 l,At P w b e es [(i,0)] b1 e1 l→b1≠b∧b1<w.heap.size∧gm P w I b1 e1 l∧(M b1∨B≤b1)∧∀aw blk',aq (aq hp id (some ag.dead)) bj (some ag.dead) aw=some blk'→¬bd P w (β aw) blk' b1:=fun i b1 l ha=>by
         obtain ⟨q1,q2,q3,q4,q5⟩:=f5 i b1 l ha;exact ⟨q1,q2,q3,q4,ON (.inl rfl) ab q5⟩
        have agp: ∀i b1 l,At P w b2 e xs [(i,0)] b1 e1 l→b1≠b:=fun i b1 l ha h=>by
         subst h;exact bL (S.h.inj id bj _ _ _ ab db mH (g5 i _ l ha).2.2.2.2)
        have Kc: ∀i j b1 l m,At P w b e es [(i,0)] b1 e1 l→At P w b2 e xs [(j,0)] b1 e1 m→False:=fun i j b1 l m h1 h2=>bL (S.h.inj id bj _ _ b1 ab db (f5 i b1 l h1).2.2.2.2 (g5 j b1 m h2).2.2.2.2)
        let K:Nat→Nat→List V→Prop:=fun i b1 l=>(i<es.length∧At P w b e es [(i,0)] b1 e1 l)∨(es.length≤i∧At P w b2 e xs [(i-es.length,0)] b1 e1 l)
        have rZ: ∀i j b1 l m,K i b1 l→K j b1 m→i=j:=by
         intro i j b1 l m h1 h2;rcases h1 with ⟨_,h1⟩|⟨p1,h1⟩
         ·rcases h2 with ⟨_,h2⟩|⟨_,h2⟩
          ·exact f6 _ _ _ _ _ h1 h2
          ·exact (Kc _ _ _ _ _ h1 h2).elim
         ·rcases h2 with ⟨_,h2⟩|⟨p2,h2⟩
          ·exact (Kc _ _ _ _ _ h2 h1).elim
          ·have:=g6 _ _ _ _ _ h1 h2;omega
        have fill: ∀(C':Array Value),(∀j,j<es.length→C'[j]? =Ca[j]?)→(∀j,j<xs.length→C'[es.length+j]? =C2[j]?)→∀(j:Nat) y,(es++xs)[j]? =some y→∃l v,y= .list e1 l∧C'[j]? =some v∧xl P w e1 (K j) v l:=by
         intro C' p1 p2 j y hy;by_cases hj:j<es.length
         ·rw[mq hj] at hy;obtain ⟨l,v,q1,q2,q3⟩:=f4 j y hy;refine ⟨l,v,q1,(p1 j hj).trans q2,?_⟩;rcases q3 with q3|⟨z1,b1,OO,z2,z3,z4,z5,z6⟩
          ·exact .inl q3
          ·exact .inr ⟨z1,b1,OO,z2,z3,z4,z5,.inl ⟨hj,z6⟩⟩
         ·rw[nU (by omega)] at hy;obtain ⟨l,v,q1,q2,q3⟩:=g4 _ y hy;have dn:=(ct.1 hy).1;refine ⟨l,v,q1,?_,?_⟩
          ·have:=p2 (j-es.length) dn;rw[show es.length+(j-es.length)=j by omega] at this;exact this.trans q2
          ·rcases q3 with q3|⟨z1,b1,OO,z2,z3,z4,z5,z6⟩
           ·exact .inl q3
           ·exact .inr ⟨z1,b1,OO,z2,z3,z4,z5,.inr ⟨by omega,z6⟩⟩
        by_cases sh:es.length+xs.length≤cap
        ·have zT:es.length+(C2.toList.take xs.length).length≤Ca.size:=by rw[p6];omega
         have cI:=WH (P:=P) w t ty e Tq i hu hi b es.length cap Ca f1 ⟨b2,0,none⟩ xs.length Dl (C2.toList.take xs.length) (by rw[p6,h3,ga]) sg qT sh (by rw[h3,ga];exact zT);rw[h3,ga,p6] at cI;have dr:=setRow_heap w b Ca (Ca.toList.take es.length++C2.toList.take xs.length++Ca.toList.drop (es.length+xs.length)).toArray Tq _ f1;obtain ⟨a1,a2⟩:=Dk (w':=w.setRow b (Ca.toList.take es.length++C2.toList.take xs.length++Ca.toList.drop (es.length+xs.length)).toArray) S2 (nb:=nb) (b:=b) (ys:=es++xs) hr p7 dr (by simp;omega)
          (fun b' ay _=>setRow_other w b b' _ ay) (by simp) ⟨rfl,rfl⟩ Di (ON (.inl rfl) ab mH) f3 K
          (fill _ (fun j hj=>by
           rw[nT,jO,mq (by simp;omega),gX hj,pF]) (fun j hj=>by
           rw[nT,jO,nU (by simp;omega),mq (by simp;omega),oO,Array.length_toList (xs:=Ca),Nat.min_eq_left (by omega),HR,gX hj,pF]))
          (fun j b1 l hj=>by
           rcases hj with ⟨_,hj⟩|⟨_,hj⟩
           ·exact ew _ _ _ hj
           ·exact ⟨agp _ _ _ hj,lit _ _ _ hj⟩) rZ
         refine ⟨_,_,I,aq β nb (some b),cI,?_⟩;rw[ua];refine ⟨(k1.trans k2).trans a1,a2,?_⟩;have:=ai.dw (P:=P) (w:=w.setRow b (Ca.toList.take es.length++C2.toList.take xs.length++Ca.toList.drop (es.length+xs.length)).toArray) (I:=I) (β:=aq β nb (some b)) (hp:=aq (aq (aq hp id (some ag.dead)) bj (some ag.dead)) nb (some (.nest e (es++xs) [0,0,0]))) (b:=b) (cap:=cap) (bE _ _ _) (bE _ _ _) (by rw[jW dr,hk,ga];simp;omega) (by rw[gI];exact sh) hm;rw[gI] at this;exact this
        ·have hold: ∀(j:Nat) v,(Ca.toList.take es.length)[j]? =some v→w.cell? ((⟨b,0,none⟩:Addr).add j)=some v:=by
          intro j v hj;have dn:=(ct.1 hj).1;rw[oO] at dn;rw[gX (by omega)] at hj;rw[mE,cell?_cells f1,eT];simpa using hj
         have cI:=run_append_grow (P:=P) w t ty e i z hu hi hz ⟨b,0,none⟩ es.length cap (Ca.toList.take es.length) (by rw[h3,ga];simp;omega) hold ⟨b2,0,none⟩ xs.length Dl (C2.toList.take xs.length) (by rw[p6,h3,ga]) sg (by omega) (by omega)
          (growslice_fits (by omega) (by rw[←mF];simp only[bm] at dP;omega))
         have pZ:=grownCap_ge w (es.length+xs.length) cap e;have qW:grownCap w (es.length+xs.length) cap e≤maxLen:=grownCap_le_maxLen w _ cap e (by simp only[maxLen];omega);have dr:(w.drew.alloc (.cells ((Ca.toList.take es.length).toArray++(C2.toList.take xs.length).toArray++Builtin.zeroCells z.cells (grownCap w (es.length+xs.length) cap e-(es.length+xs.length))) e)).heap[w.heap.size]? =some (.cells ((Ca.toList.take es.length).toArray++(C2.toList.take xs.length).toArray++Builtin.zeroCells z.cells (grownCap w (es.length+xs.length) cap e-(es.length+xs.length))) e):=heap_alloc_new w.drew (.cells ((Ca.toList.take es.length).toArray++(C2.toList.take xs.length).toArray++Builtin.zeroCells z.cells (grownCap w (es.length+xs.length) cap e-(es.length+xs.length))) e);have zQ:=S2.h.iE;obtain ⟨a1,a2⟩:=Dk (w':=w.drew.alloc (.cells ((Ca.toList.take es.length).toArray++(C2.toList.take xs.length).toArray++Builtin.zeroCells z.cells (grownCap w (es.length+xs.length) cap e-(es.length+xs.length))) e)) S2 (nb:=nb) (b:=w.heap.size) (ys:=es++xs) hr p7 dr (by simp;omega)
          (fun b' _ aY=>heap_alloc_old w.drew _ b' aY) (by simp) ⟨rfl,rfl⟩ (.inr S.size) (fun aw blk' h ho=>ml _ (S2.h.lt h ho)) (fun j hj=>ml _ (zQ _ j hj)) K
          (fill _ (fun j hj=>by
           rw[HQ (by simp;omega),HQ (by simp;omega),nT,gX hj,pF]) (fun j hj=>by
           rw[HQ (by simp;omega),Array.getElem?_append_right (by simp;omega)];simp only[qw,oO,Array.length_toList (xs:=Ca),Nat.min_eq_left f2,HR];rw[nT,gX hj,pF]))
          (fun j b1 l hj=>by
           rcases hj with ⟨_,hj⟩|⟨_,hj⟩
           ·obtain ⟨_,q⟩:=ew _ _ _ hj;exact ⟨B9 q.1,q⟩
           ·exact ⟨B9 (lit _ _ _ hj).1,lit _ _ _ hj⟩) rZ
         refine ⟨_,_,I,aq β nb (some w.heap.size),cI,?_⟩;rw[ua];refine ⟨(k1.trans k2).trans a1,a2,?_⟩;have:=ai.dw (P:=P) (w:=w.drew.alloc (.cells ((Ca.toList.take es.length).toArray++(C2.toList.take xs.length).toArray++Builtin.zeroCells z.cells (grownCap w (es.length+xs.length) cap e-(es.length+xs.length))) e)) (I:=I) (β:=aq β nb (some w.heap.size)) (hp:=aq (aq (aq hp id (some ag.dead)) bj (some ag.dead)) nb (some (.nest e (es++xs) [0,0,0]))) (b:=w.heap.size) (cap:=grownCap w (es.length+xs.length) cap e) (bE _ _ _) (bE _ _ _) (by rw[jW dr,hk,ga];simp[size_zeroCells,h4];omega) (by rw[gI];exact pZ) qW;rw[gI] at this;exact this
      | _=>cases he
    | _=>cases hd
   | _=>cases hb
 | _=>cases ha
theorem WN (S:aA P w I β hp B M w0) {t ty e:TypeId} {nb:Nat} {s x:Value} {sv xv:V} {r:R} {rd:List Nat} (hu:P.underlying t=some (.slice e)) (hs:ai P w I β hp s sv) (hx:ai P w I β hp x xv)
  (h:(NF P nb e sv xv).run C hp=some (r,rd)):dg P ((Builtin.append_ #[t,t] ty #[s,x]).run P w) w I β hp B M w0 r:=by
 unfold NF at h;split at h
 ·rename_i e' id ver i;obtain ⟨au,h1⟩:=aD h;clear h;obtain ⟨xs,lO,l0,h2⟩:=Dg S.h.rel au hx h1;obtain ⟨e0,es,vers,l1,ab,k1,k2,k3,h3⟩:=pR h2;cases hr:rowOf P e0 with
  | none=>simp only[hr] at h3;cases h3
  | some e1=>
  simp only[hr] at h3;obtain ⟨hc,h4⟩:=aD h3;simp only[aK,aN] at hc;obtain ⟨rfl,rfl⟩:=hc;obtain ⟨y,hy,h5⟩:=mC h4;obtain ⟨dP,h6⟩:=aD h5;obtain ⟨l2,h7⟩:=run_get h6;cases hn:hp nb with
  | some _=>rw[hn] at h7;cases h7
  | none=>
  rw[hn] at h7;obtain ⟨gb,rfl⟩:=lb h7;obtain ⟨b,q,i0,c,t1,l,bG,hb,ht,hc⟩:=hs.N4 ab k1 k2 k3;have:q=[]∧i0=i∧c=0:=by
   have hq:([]:Path)++[(i,0)]=q++[(i0,c)]:=bG;obtain ⟨h1,h2⟩:=List.append_inj' hq rfl;simp only[wQ,lA,and_true] at h2;exact ⟨h1.symm,h2.1.symm,h2.2.symm⟩
  obtain ⟨rfl,rfl,rfl⟩:=this;obtain ⟨OM,cE,agq,ni,fU⟩:=vN hr;have jw:aP P e0=[e0]:=by simp[aP,cE]
  have hk:P.cellsOf e0=1:=by rw[←eC agq,jw];rfl
  obtain ⟨b',e',aL,Ca,T,f,x1,m1,m2,m3,m4,m5,m6⟩:=hc;cases m1;rw[hk,ga,Nat.add_zero] at m6;obtain ⟨sc,l1,S1,hv⟩:=af2 S hr ab hb hy hn;have Dm:=hv _ _ _ _ m2 m6;have bL:nb≠id:=fun h=>by rw[h,ab] at hn;cases hn
  have agr:nb+1≠id:=fun h=>by rw[h,ab] at gb;cases gb
  generalize hq:aq (aq hp id (some (ag.out e0 es (vers.map (· +1)) i0))) nb (some (.arr e y.toList false))=OP at l1 S1 Dm;have hq0:OP nb=some (.arr e y.toList false):=by rw[←hq,bE]
  have hqn:OP (nb+1)=none:=by rw[←hq,cu _ _ (Nat.succ_ne_self nb),cu _ _ agr];exact gb
  have c6:((∃a,x= .slice a 0 0)∧xs=[])∨∃a c news,Row P w I e x xs a c news:=lO;have:=WI (ty:=ty) S1 hu au Dm hq0 hqn dP (by
   rcases c6 with h|⟨a,c,news,h⟩
   ·exact .inl h
   ·exact .inr ⟨a,c,news,h.val,h.len,h.cell,fun i j x t' p1 p2 p3=>(h.el i j x t' p1 p2 p3).imp fun u hu=>⟨hu.1,hu.2.mono l1.dZ l1.cH⟩⟩)
  obtain ⟨v,w',I',β',a1,a2,a3,a4⟩:=this;refine ⟨v,w',I',β',a1,?_⟩;have ua:cb hp [(nb+1,.arr e (y.toList++xs) false),(nb,.dead),(id,.out e0 es (vers.map (· +1)) i0)]=cb OP [(nb+1,.arr e (y.toList++xs) false),(nb,.dead)]:=by
   rw[←hq];funext k;simp only[cb];by_cases q0:k=nb+1
   ·subst q0;rw[bE,bE]
   ·rw[cu _ _ q0,cu _ _ q0];by_cases q1:k=nb
    ·subst q1;rw[bE,bE]
    ·rw[cu _ _ q1,cu _ _ q1,cu _ _ q1]
  rw[ua];exact ⟨l1.trans a2,a3,a4⟩
 ·exact agh S hu hs hx h
theorem WO (S:aA P w I β hp B M w0) {t e e1:TypeId} {nb:Nat} {v:Value} {l:List V} (hu:P.underlying t=some (.slice e)) (hr:rowOf P e=some e1) (hn:hp nb=none) (K:Nat→List V→Prop)
  (hv:xl P w e1 K v l) (hK: ∀b1 l,K b1 l→b1<w.heap.size∧gm P w I b1 e1 l∧(M b1∨B≤b1)∧∀id blk,hp id=some blk→¬bd P w (β id) blk b1):
  (Instr.buildSlice t 1 #[(0,v)]).run P w= .ok (.slice (some ⟨w.heap.size,0,none⟩) 1 1) (w.alloc (.cells #[v] e))∧
  Le P w I β hp (w.alloc (.cells #[v] e)) I (aq β nb (some w.heap.size)) (aq hp nb (some (.nest e [.list e1 l] [0,0,0])))∧aA P (w.alloc (.cells #[v] e)) I (aq β nb (some w.heap.size)) (aq hp nb (some (.nest e [.list e1 l] [0,0,0]))) B M w0∧
  ai P (w.alloc (.cells #[v] e)) I (aq β nb (some w.heap.size)) (aq hp nb (some (.nest e [.list e1 l] [0,0,0]))) (.slice (some ⟨w.heap.size,0,none⟩) 1 1) (.whole e nb):=by
 obtain ⟨OM,cE,au,ni,fU⟩:=vN hr;have jw:aP P e=[e]:=by simp[aP,cE]
 have hk:P.cellsOf e=1:=by rw[←eC au,jw];rfl
 obtain ⟨i,z,hi,hz,h3,h4,_⟩:=jy au;rw[hk] at h3 h4;have pX:v.cells= #[v]:=by rcases hv with ⟨_,a,rfl⟩|⟨b1,cap,_,rfl,_⟩<;>rfl
 have cI:=OG w t e 1 #[(0,v)] #[v] i z hu hi hz (by rw[h3];omega) (by
  rw[h3];simp[Instr.fill,pX];rw[show Array.range 1= #[0] from rfl];simp)
 have dr:(w.alloc (.cells #[v] e)).heap[w.heap.size]? =some (.cells #[v] e):=heap_alloc_new w _;obtain ⟨a1,a2⟩:=Dk (w':=w.alloc (.cells #[v] e)) S (nb:=nb) (b:=w.heap.size) (ys:=[.list e1 l]) hr hn dr (by simp)
  (fun b' _ aY=>heap_alloc_old w _ b' aY) (by simp) ⟨rfl,rfl⟩ (.inr S.size) (fun aw blk' h ho=>ml _ (S.h.lt h ho)) (fun j hj=>ml _ (S.h.iE _ j hj))
  (fun i b1 l=>i=0∧K b1 l) (fun j y hy=>by
   cases j with
   | succ j=>simp at hy
   | zero=>
    simp at hy;subst hy;refine ⟨l,v,rfl,rfl,?_⟩;rcases hv with h|⟨b1,cap,z1,z2,z3,z4,z5,z6⟩
    ·exact .inl h
    ·exact .inr ⟨b1,cap,z1,z2,z3,z4,z5,rfl,z6⟩)
  (fun j b1 l h=>⟨B9 (hK b1 l h.2).1,hK b1 l h.2⟩) (fun i j b1 l m h1 h2=>h1.1.trans h2.1.symm)
 refine ⟨cI,a1,a2,?_⟩;exact .dw (es:=[.list e1 l]) (bE _ _ _) (bE _ _ _) (by rw[jW dr,hk];rfl) (az _) (by simp[maxLen])
theorem ags (S:aA P w I β hp B M w0) {a:Act} {sl:Nat→V} (hs:mB P w I β hp a sl) {G:Nat→V} (hg:iF P G w I) {t e:TypeId} {len nb:Nat} {ps:Array (Nat×Operand)} {r:R} {rd:List Nat} (hu:P.underlying t=some (.slice e))
  (h:(VA P nb e len (ps.toList.map fun p=>(p.1,aO P G e sl p.2))).run C hp=some (r,rd)):
  dg P ((Instr.buildSlice t len (ps.map fun (i,x)=>(i,a.eval x))).run P w) w I β hp B M w0 r:=by
 obtain ⟨hl,ha⟩:=aD h;clear h;rw[aN,cY] at hl;cases hr:rowOf P e with
 | none=>rw[hr] at ha;cases ha
 | some e1=>
 simp only[hr] at ha;obtain ⟨OM,cE,au,ni,fU⟩:=vN hr;obtain ⟨ps⟩:=ps;simp only at ha hl;cases ps with
 | nil=>
  obtain ⟨hn,rfl⟩:=lb ha;simp only[List.length_nil] at hl;subst hl;obtain ⟨i,z,hi,hz,h3,h4,_⟩:=jy au;have cI:=OG w t e 0 #[] #[] i z hu hi hz (by omega) (by simp[Instr.fill]);have dr:(w.alloc (.cells #[] e)).heap[w.heap.size]? =some (.cells #[] e):=heap_alloc_new w _;obtain ⟨a1,a2⟩:=Dk (w':=w.alloc (.cells #[] e)) S (nb:=nb) (b:=w.heap.size) (ys:=[]) hr hn dr (by simp)
   (fun b' _ aY=>heap_alloc_old w _ b' aY) (by simp) ⟨rfl,rfl⟩ (.inr S.size) (fun aw blk' h ho=>ml _ (S.h.lt h ho)) (fun j hj=>ml _ (S.h.iE _ j hj))
   (fun _ _ _=>False) (fun j y hy=>by simp at hy) (fun _ _ _ h=>h.elim) (fun _ _ _ _ _ h=>h.elim)
  exact ⟨_,_,I,aq β nb (some w.heap.size),by simpa using cI,a1,a2,.dw (es:=[]) (bE _ _ _) (bE _ _ _) (by rw[jW dr];simp) (az _) (by simp)⟩
 | cons p ps=>
  cases ps with
  | cons q ps=>
   obtain ⟨p1,p2⟩:=p;simp only[iQ] at ha;cases p1<;>cases hx:aO P G e sl p2<;>simp only[hx] at ha<;>cases ha
  | nil=>
  obtain ⟨p1,p2⟩:=p;simp only[List.length_cons,List.length_nil,eT] at hl;subst hl;have oY:=hs.ev hg e p2;simp only[iQ,List.map_nil] at ha;cases p1 with
  | succ n=>cases hx:aO P G e sl p2<;>simp only[hx] at ha<;>cases ha
  | zero=>
  cases hx:aO P G e sl p2 with
  | nilS e2=>
   simp only[hx] at ha;obtain ⟨hc,hb⟩:=aD ha;obtain ⟨hn,rfl⟩:=lb hb;rw[hx] at oY;obtain ⟨a0,ha0⟩: ∃a0,a.eval p2= .slice a0 0 0:=by
    generalize a.eval p2=v at oY;cases oY;exact ⟨_,rfl⟩
   obtain ⟨k1,k2,k3,k4⟩:=WO S (v:=a.eval p2) (l:=[]) hu hr hn (fun _ _=>False) (.inl ⟨rfl,a0,ha0⟩) (fun _ _ h=>h.elim);exact ⟨_,_,I,aq β nb (some w.heap.size),by simpa using k1,k2,k3,k4⟩
  | whole e2 id=>
   simp only[hx] at ha;obtain ⟨l0,hb⟩:=run_get ha;clear ha;cases ab:hp id with
   | none=>rw[ab] at hb;cases hb
   | some blk=>
    rw[ab] at hb;cases blk with
    | arr e3 es fz=>
     cases fz with
     | true=>cases hb
     | false=>
      obtain ⟨hc,hd⟩:=aD hb;clear hb;simp only[aK,aN] at hc;obtain ⟨rfl,rfl⟩:=hc;obtain ⟨hn,rfl⟩:=lb hd;have bL:nb≠id:=fun e=>by rw[e,ab] at hn;cases hn
      obtain ⟨k1,S1⟩:=vG S ab;have gb:aq hp id (some ag.dead) nb=none:=by rw[cu _ _ bL];exact hn
      have ua:cb hp [(nb,.nest e [.list e1 es] [0,0,0]),(id,.dead)]=aq (aq hp id (some ag.dead)) nb (some (.nest e [.list e1 es] [0,0,0])):=rfl;rw[hx] at oY;have fin: ∀(K:Nat→List V→Prop),xl P w e1 K (a.eval p2) es→(∀b1 l,K b1 l→b1<w.heap.size∧gm P w I b1 e1 l∧(M b1∨B≤b1)∧∀aw blk',aq hp id (some ag.dead) aw=some blk'→¬bd P w (β aw) blk' b1)→
        dg P ((Instr.buildSlice t 1 #[(0,a.eval p2)]).run P w) w I β hp B M w0 ⟨.whole e nb,[(nb,.nest e [.list e1 es] [0,0,0]),(id,.dead)]⟩:=fun K hv hK=>by
       obtain ⟨q1,q2,q3,q4⟩:=WO S1 (v:=a.eval p2) (l:=es) hu hr gb K hv hK;refine ⟨_,_,I,aq β nb (some w.heap.size),q1,?_⟩;rw[ua];exact ⟨k1.trans q2,q3,q4⟩
      have res:dg P ((Instr.buildSlice t 1 #[(0,a.eval p2)]).run P w) w I β hp B M w0 ⟨.whole e nb,[(nb,.nest e [.list e1 es] [0,0,0]),(id,.dead)]⟩:=by
       generalize a.eval p2=v at oY fin⊢;cases oY with
       | dH hd=>rw[ab] at hd;cases hd
       | dw hd=>rw[ab] at hd;cases hd
       | dO hd=>rw[ab] at hd;cases hd
       | eB hd=>rw[ab] at hd;cases hd
       | @dD _ _ _ a0 hd hb=>
        rw[ab] at hd;cases hd;exact fin (fun _ _=>False) (.inl ⟨rfl,a0,rfl⟩) (fun _ _ h=>h.elim)
       | @whole _ _ _ _ b cap hd hb aU bP hm=>
        rw[ab] at hd;cases hd;obtain ⟨m1,m2⟩:=Oy S ab hb fU;obtain ⟨m3,m4⟩:=m1 _ _ _ _ .here;by_cases h0:0<cap
        ·refine fin (fun b1 l=>b1=b∧l=es) (.inr ⟨b,cap,h0,rfl,aU,bP,hm,rfl,rfl⟩) (fun b1 l h=> ?_);obtain ⟨rfl,rfl⟩:=h;refine ⟨S.h.lt ab m4,m3,S.h.own id _ _ ab m4,fun aw blk' h' ho=> ?_⟩;by_cases q:aw=id
         ·subst q;rw[bE] at h';cases h';exact absurd rfl ho.alive
         ·rw[cu _ _ q] at h';exact q (S.h.inj aw id _ _ _ h' ab ho m4)
        ·have:es=[]:=u9.1 (by omega);subst this;exact fin (fun _ _=>False) (.inl ⟨rfl,some ⟨b,0,none⟩,by rw[show cap=0 by omega];rfl⟩) (fun _ _ h=>h.elim)
      simpa using res
    | _=>cases hb
  | _=>simp only[hx] at ha;cases ha
end
section
variable {P:Program} {w w':World} {I I':Nat→Nat→Prop} {β β':Nat→Option Nat} {hp hp':Nat→Option ag} {C:af} {B:Nat} {M:Nat→Prop} {w0:Start}
theorem agt (S:aA P w I β hp B M w0) {s:TypeId} {f:Nat} {v:Value} {x:V} {r:R} {rd:List Nat} (hv:ai P w I β hp v x)
  (h:(NL P s f x).run C hp=some (r,rd)):dg P ((Instr.field s v f).run P w) w I β hp B M w0 r:=by
 unfold NL Ia at h;split at h
 ·rename_i fs hu;cases hf:fs[f]? with
  | none=>rw[hf] at h;cases h
  | some fd=>
   rw[hf] at h;simp only[zo] at h;obtain ⟨ht,h⟩:=aD h;obtain ⟨d,sk⟩:=zG ht;obtain ⟨i,hi⟩:=vH sk;have aU:i.size=P.cellsOf fd.type:=by simp[Program.cellsOf,hi]
   cases x with
   | agg xs=>
    obtain ⟨cs,rfl,h1,h2⟩:=hv.la;dsimp only at h;cases ha:bZ P fd.type with
    | true=>
     rw[ha] at h;simp only[cond_true] at h;obtain ⟨hc,h⟩:=aD h;obtain rfl:=aM h;rw[fk] at hc;refine .same S (v:= .agg (cs.extract fd.offset (fd.offset+P.cellsOf fd.type))) ?_ (.agg (by simp;omega) fun j u y jZ hy=> ?_)
     ·simp[Instr.field,run_underlying hu,hf,part,IF sk,ha,asAgg,sizeOf,typeInfo,hi,aU]
     grind
    | false=>
     rw[ha] at h;simp only[cond_false] at h;obtain ⟨y,hy,h⟩:=mC h;obtain rfl:=aM h;have aY:fd.offset<cs.size:=by grind
     refine .same S (v:=cs[fd.offset]) ?_ (h2 _ _ _ (kb aY) hy);simp[Instr.field,run_underlying hu,hf,part,IF sk,ha,asAgg,aY]
   | _=>cases h
 ·cases h
theorem agu (S:aA P w I β hp B M w0) {i:Nat} {v:Value} {xs:List V} {r:R} {rd:List Nat} (hv:ai P w I β hp v (.aX xs))
  (h:(Rd.opt xs[i]? fun v=> .ret ⟨v,[]⟩).run C hp=some (r,rd)):dg P ((Instr.extract v i).run P w) w I β hp B M w0 r:=by
 obtain ⟨cs,rfl,h1,h2⟩:=hv.xg;obtain ⟨y,hy,h⟩:=mC h;obtain rfl:=aM h;have aY:i<cs.size:=by grind
 exact .same S (v:=cs[i]) (by simp[Instr.extract,aY]) (h2 _ _ _ (kb aY) hy)
theorem agv (S:aA P w I β hp B M w0) {t:TypeId} {s:ByteArray} {l:List UInt8} {k:IntKind} {i:Int} {r:R} {rd:List Nat} (hu:P.underlying t=some .string) (hs:s.data.toList=l)
  (h:(Rd.opt (bif decide (0≤i) then (l[i.toNat]?).map fun b=>V.int .u8 b.toNat else none) fun v=> .ret ⟨.int .u8 v.toInt,[]⟩).run C hp=some (r,rd)):
  dg P ((Instr.index t (.string s) (.int k i)).run P w) w I β hp B M w0 r:=by
 obtain ⟨v,hv,h⟩:=mC h;obtain rfl:=aM h;cases hc:decide (0≤i) with
 | false=>grind
 | true=>
  rw[hc] at hv;simp only[cond_true] at hv;have h0:0≤i:=by grind
  cases hb:l[i.toNat]? with
  | none=>grind
  | some b=>
   rw[hb] at hv;simp only[Option.map_some,ey] at hv;subst hv;have hsb:s[i.toNat]? =some b:=by
    subst hs;obtain ⟨aY,he⟩:=ct.1 hb;have OQ:i.toNat<s.size:=by simpa using aY
    rw[getElem?_pos s i.toNat OQ];congr 1
   refine .same S (v:= .int .u8 b.toNat) ?_ .int;simp[Instr.index,asIntOf,run_underlying hu,h0,hsb]
theorem agw (S:aA P w I β hp B M w0) {t e:TypeId} {n:Nat} {v:Value} {cs:List V} {k:IntKind} {i:Int} {r:R} {rd:List Nat} (hu:P.underlying t=some (.array n e)) (hv:ai P w I β hp v (.agg cs))
  (h:(NN P n e cs i).run C hp=some (r,rd)):dg P ((Instr.index t v (.int k i)).run P w) w I β hp B M w0 r:=by
 obtain ⟨xs,rfl,h1,h2⟩:=hv.la;unfold NN at h;obtain ⟨hc,h⟩:=aD h;obtain ⟨y,hy,h⟩:=mC h;obtain rfl:=aM h;simp only[aK,mn,aN] at hc;obtain ⟨c1,c2,c3,c4,c5⟩:=hc;obtain ⟨d,sk⟩:=zG c1;obtain ⟨j,hi⟩:=vH sk;have aU:j.size=1:=by rw[←c3];simp[Program.cellsOf,hi]
 unfold idx at hy;cases h0:decide (0≤i) with
 | false=>rw[h0] at hy;cases hy
 | true=>
  rw[h0] at hy;simp only[cond_true] at hy;have h0:0≤i:=of_decide_eq_true h0;have aY:i.toNat<cs.length:=(ct.1 hy).1;have WQ:i.toNat<xs.size:=by rw[h1];exact aY
  have ec:=fF.1 c5 y (kO hy);cases y<;>(try (cases ec;done))
  refine .same S (v:=xs[i.toNat]) ?_ (h2 _ _ _ (kb WQ) hy);have ju:i<(n:Int):=by omega
  simp[Instr.index,asIntOf,run_underlying hu,h0,ju,part,IF sk,c4,sizeOf,typeInfo,hi,aU,WQ]
theorem OR (S:aA P w I β hp B M w0) (mx:Bool): ∀{vs:List Value} {xs:List V} {v:Value} {x:V} {r:R} {rd:List Nat},ai P w I β hp v x→vs.length=xs.length→
  (∀(j:Nat) u y,vs[j]? =some u→xs[j]? =some y→ai P w I β hp u y)→(zp mx x xs).run C hp=some (r,rd)→
  dg P ((vs.foldlM (if mx then Builtin.max2 else Builtin.min2) v).run P w) w I β hp B M w0 r
 | [],[],v,x,r,rd,hv,_,_,h=>by
  have:r=⟨x,[]⟩:=by
   cases x<;>(simp only[zp] at h;exact (aM h).symm)
  subst this;exact .same S (by simp) hv
 | [],_::_,v,x,r,rd,hv,hl,_,h=>by simp at hl
 | _::_,[],v,x,r,rd,hv,hl,_,h=>by simp at hl
 | u::vs,y::xs,v,x,r,rd,hv,hl,hx,h=>by
  cases x<;>cases y<;>simp only[zp] at h<;>first|(cases h;done)|skip
  rename_i k a k' b;obtain ⟨hc,h4⟩:=aD h;clear h;obtain rfl:k=k':=by grind
  have hu:=hx 0 u _ rfl rfl;rw[hv.eY,hu.eY];have ih:=OR S mx (vs:=vs) (xs:=xs) (v:= .int k (bif mx then (if b>a then b else a) else (if b<a then b else a))) .int (by grind)
   (fun j u y h1 h2=>hx (j+1) u y (by grind) (by grind)) h4
  cases mx with
  | true=>simpa[List.foldlM_cons,Builtin.max2] using ih
  | false=>simpa[List.foldlM_cons,Builtin.min2] using ih
theorem sm {n cap:Nat} {isS:Bool} {lo hi:Option V} {lov hiv:Option Value} {k:Nat→Nat→Rd R} {r:R} {rd:List Nat} (hn:n≤cap)
  (lQ: ∀x,lo=some x→∃v,lov=some v∧ai P w I β hp v x) (ki: ∀x,hi=some x→∃v,hiv=some v∧ai P w I β hp v x) (o0:lo=none→lov=none) (p8:hi=none→hiv=none)
  (h:(tz n lo hi k).run C hp=some (r,rd)): ∃l u,l≤u∧u≤n∧(Instr.sliceBounds isS n cap lov hiv none).run P w= .ok (l,u,cap) w∧(k l u).run C hp=some (r,rd):=by
 have ok: ∀(kk:IntKind) (i:Int) (y:Nat) (c:BoundsCode),0≤i→i≤y→(Instr.sliceBound (.int kk i) y c).run P w= .ok i.toNat w:=by
  intro kk i y c h1 h2;simp[Instr.sliceBound,asIntOf,h1,h2]
 unfold tz at h;cases lo with
 | none=>
  rw[o0 rfl];cases hi with
  | none=>
   rw[p8 rfl];exact ⟨0,n,kP _,az _,by simp[Instr.sliceBounds],h⟩
  | some x=>
   obtain ⟨v,rfl,hv⟩:=ki x rfl;cases x<;>simp only at h<;>first|(cases h;done)|skip
   rename_i kk u;obtain ⟨hc,h⟩:=aD h;simp only[aK,fQ] at hc;rw[hv.eY];have:=ok kk u cap (if isS then .sliceAcap else .sliceAlen) hc.1 (by omega);exact ⟨0,u.toNat,kP _,by omega,by simp[Instr.sliceBounds,this],h⟩
 | some x=>
  obtain ⟨v,rfl,hv⟩:=lQ x rfl;cases hi with
  | none=>
   rw[p8 rfl];cases x<;>simp only at h<;>first|(cases h;done)|skip
   rename_i kk l;obtain ⟨hc,h⟩:=aD h;simp only[aK,fQ] at hc;rw[hv.eY];have:=ok kk l n .sliceB hc.1 (by omega);exact ⟨l.toNat,n,by omega,az _,by simp[Instr.sliceBounds,this],h⟩
  | some y=>
   obtain ⟨v2,rfl,lG⟩:=ki y rfl;cases x<;>cases y<;>simp only at h<;>first|(cases h;done)|skip
   rename_i kk l kk2 u;obtain ⟨hc,h⟩:=aD h;simp only[aK,fQ] at hc;rw[hv.eY,lG.eY];have h1:=ok kk2 u cap (if isS then .sliceAcap else .sliceAlen) (by omega) (by omega);have h2:=ok kk l u.toNat .sliceB hc.1 (by omega);exact ⟨l.toNat,u.toNat,by omega,by omega,by simp[Instr.sliceBounds,h1,h2],h⟩
theorem I7 {a:Option Addr} {t e:TypeId} {i:TypeInfo} (hu:P.underlying t=some (.slice e)) (hi:P.info? e=some i) {lov hiv:Option Value}
  (hb:(Instr.sliceBounds true 0 0 lov hiv none).run P w= .ok (0,0,0) w):(Instr.sliceAt t (.slice a 0 0) lov hiv none).run P w= .ok (.slice a 0 0) w:=by
 cases a<;>simp[Instr.sliceAt,Instr.slice,run_underlying hu,hb,sizeOf,typeInfo,hi]
theorem OS {t e:TypeId} {i:TypeInfo} {b o len cap l u:Nat} (hu:P.underlying t=some (.slice e)) (hi:P.info? e=some i) {lov hiv:Option Value} (huc:u≤cap)
  (hb:(Instr.sliceBounds true len cap lov hiv none).run P w= .ok (l,u,cap) w): ∃o',(0<u-l→o'=o+l*i.size)∧(Instr.sliceAt t (.slice (some ⟨b,o,none⟩) len cap) lov hiv none).run P w= .ok (.slice (some ⟨b,o',none⟩) (u-l) (cap-l)) w:=by
 by_cases hc:cap=l
 ·subst hc;refine ⟨o,fun h=>by omega,?_⟩
  ·simp[Instr.sliceAt,Instr.slice,run_underlying hu,hb,sizeOf,typeInfo,hi]
 ·refine ⟨o+l*i.size,fun _=>rfl,?_⟩;simp[Instr.sliceAt,Instr.slice,run_underlying hu,hb,sizeOf,typeInfo,hi,hc,mE]
theorem agx (s:ByteArray) (l:List UInt8) (h:s.data.toList=l) (a b:Nat):(s.extract a b).data.toList=(l.drop a).take (b-a):=by
 simp_all
theorem agy (S:aA P w I β hp B M w0) {t:TypeId} {v:Value} {x:V} {lo hi:Option V} {lov hiv:Option Value} {r:R} {rd:List Nat} (hv:ai P w I β hp v x)
  (lQ: ∀x,lo=some x→∃v,lov=some v∧ai P w I β hp v x) (ki: ∀x,hi=some x→∃v,hiv=some v∧ai P w I β hp v x) (o0:lo=none→lov=none) (p8:hi=none→hiv=none)
  (h:(Ij P t x lo hi).run C hp=some (r,rd)):dg P ((Instr.sliceAt t v lov hiv none).run P w) w I β hp B M w0 r:=by
 unfold Ij at h;cases hu:P.underlying t with
 | none=>rw[hu] at h;cases h
 | some d=>
  rw[hu] at h;cases d<;>simp only at h<;>first|(cases h;done)|skip
  case string=>
   cases x<;>simp only at h<;>first|(cases h;done)|skip
   rename_i l;obtain ⟨s,rfl,hs⟩:=hv.nf;have aU:l.length=s.size:=by rw[←hs];simp
   obtain ⟨a,u,h1,h2,h3,h4⟩:=sm (isS:=false) (cap:=s.size) (by omega) lQ ki o0 p8 h;obtain rfl:=aM h4;rw[aU] at h3;refine .same S (v:= .string (s.extract a u)) ?_ (.str (agx s l hs a u));simp[Instr.sliceAt,Instr.slice,run_underlying hu,h3]
  case slice e=>
   cases x<;>simp only at h<;>first|(cases h;done)|skip
   case list e' es=>
    obtain ⟨hc,h⟩:=aD h;simp only[aK,aN] at hc;obtain ⟨fv,au⟩:=hc;obtain ⟨i,z,cd,_,aU,_⟩:=jy au;cases hv with
    | list hp'=>
     cases hp' with
     | nil=>
      obtain ⟨a,u,h1,h2,h3,h4⟩:=sm (n:=0) (isS:=true) (cap:=0) (az _) lQ ki o0 p8 h;obtain rfl:=aM h4;obtain rfl:u=0:=by omega
      obtain rfl:a=0:=by omega
      exact .same S (I7 hu cd h3) (by simpa using ai.list jU.nil)
     | @emp ad cap=>
      obtain ⟨a,u,h1,h2,h3,h4⟩:=sm (n:=0) (isS:=true) (cap:=cap) (kP _) lQ ki o0 p8 h;obtain rfl:=aM h4;obtain rfl:u=0:=by omega
      obtain rfl:a=0:=by omega
      refine .same S (v:= .slice (some ad) 0 cap) ?_ (by simpa using ai.list jU.emp);by_cases hc:cap=0
      ·subst hc;simp[Instr.sliceAt,Instr.slice,run_underlying hu,h3,sizeOf,typeInfo,cd]
      ·simp[Instr.sliceAt,Instr.slice,run_underlying hu,h3,sizeOf,typeInfo,cd,hc,Addr.add]
     | @list b o len cap _ g hl bP hI fH hx=>
      obtain ⟨a,u,h1,h2,h3,h4⟩:=sm (isS:=true) (cap:=cap) (by omega) lQ ki o0 p8 h;obtain rfl:=aM h4;rw[hl] at h2 h3;obtain ⟨o',qI,cI⟩:=OS (b:=b) (o:=o) hu cd (by omega) h3;have iq:e=e':=fv;refine .same S cI (.list ?_);rw[←iq];rw[←iq] at fH hx hI;have hlen:((es.drop a).take (u-a)).length=u-a:=by simp;omega
      refine .list (fun i j=>g (a+i) j) hlen (by omega) (fun j hj=> ?_) (fun i j hi hj=> ?_) (fun i j y t' hy ht=> ?_)
      ·have gQ:0<u-a:=Nat.pos_of_ne_zero fun e=>by grind
       rw[qI (by omega),aU,y9];refine hI _ (lr (Nat.add_lt_add_left hj _) ?_);rw[←jN];exact ef _ (by omega)
      all_goals grind
   case whole e' id=>
    obtain ⟨l,h⟩:=run_get h;cases ab:hp id with
    | none=>rw[ab] at h;cases h
    | some blk=>
     rw[ab] at h;cases blk<;>simp only at h<;>first|(cases h;done)|skip
     rename_i dG es fz;obtain ⟨hc,h9⟩:=aD h;clear h;simp only[aK,aN] at hc;obtain ⟨fv,fc,au⟩:=hc;obtain ⟨i,z,cd,_,aU,_⟩:=jy au;cases hv with
     | dH hd=>grind
     | dw hd=>grind
     | dO hd=>grind
     | eB hd=>grind
     | dD hd hb=>
      rw[ab] at hd;cases hd;obtain ⟨a,u,h1,h2,h3,h4⟩:=sm (n:=0) (isS:=true) (cap:=0) (az _) lQ ki o0 p8 h9;obtain rfl:=aM h4;obtain rfl:u=0:=by omega
      obtain rfl:a=0:=by omega
      exact .same S (I7 hu cd h3) (.gC ab hb)
     | @whole _ _ aL n8 b cap hd hb zU bP hm=>
      have eW:=hd;rw[ab] at hd;cases hd;obtain ⟨a,u,h1,h2,h3,h4⟩:=sm (isS:=true) (cap:=cap) bP lQ ki o0 p8 h9;obtain rfl:=aM h4;obtain ⟨o',qI,cI⟩:=OS (b:=b) (o:=0) hu cd (by omega) h3;have iq:e=e':=fv;exact .same S cI (.sub eW hb (by omega) (by omega) (fun h=>by grind))
   case sub e' id off len=>
    obtain ⟨l,h⟩:=run_get h;cases ab:hp id with
    | none=>rw[ab] at h;cases h
    | some blk=>
     rw[ab] at h;cases blk<;>simp only at h<;>first|(cases h;done)|skip
     rename_i dG es fz;obtain ⟨hc,h⟩:=aD h;simp only[aK,aN] at hc;obtain ⟨fv,fc,au⟩:=hc;obtain ⟨i,z,cd,_,aU,_⟩:=jy au;cases hv with
     | ij hd=>grind
     | gC hd hb=>
      have eW:=hd;obtain ⟨a,u,h1,h2,h3,h4⟩:=sm (isS:=true) (cap:=0) (az _) lQ ki o0 p8 h;obtain rfl:=aM h4;obtain rfl:u=0:=by omega
      obtain rfl:a=0:=by omega
      exact .same S (I7 hu cd h3) (.gC eW hb)
     | @sub _ _ _ _ aL n8 b o cap hd hb kW bP ho=>
      have eW:=hd;obtain ⟨a,u,h1,h2,h3,h4⟩:=sm (isS:=true) (cap:=cap) bP lQ ki o0 p8 h;obtain rfl:=aM h4;obtain ⟨o',qI,cI⟩:=OS (b:=b) (o:=o) hu cd (by omega) h3;have iq:e=e':=fv;exact .same S cI (.sub eW hb (by omega) (by omega) (fun h=>by grind))
  case array n e=>
   cases x<;>simp only at h<;>first|(cases h;done)|skip
   rename_i id j c;obtain ⟨l0,h⟩:=run_get h;cases ab:hp id with
   | none=>rw[ab] at h;cases h
   | some blk=>
    rw[ab] at h;cases blk<;>simp only at h<;>first|(cases h;done)|skip
    rename_i e' es fz;obtain ⟨hc,h9⟩:=aD h;clear h;simp only[aK,aN] at hc;obtain ⟨rfl,rfl,rfl,rfl,au⟩:=hc;obtain ⟨i,z,cd,_,aU,_⟩:=jy au;obtain ⟨a,u,h1,h2,h3,h4⟩:=sm (isS:=false) (cap:=es.length) (az _) lQ ki o0 p8 h9;obtain rfl:=aM h4;obtain ⟨b,hb,rfl⟩:=hv.gP ab (by simp);have cI:(Instr.sliceAt t (.pointer (some ⟨b,0*(ag.arr e es fz).sz P+0,none⟩)) lov hiv none).run P w= .ok (.slice (some ⟨b,if es.length=a then 0 else a*P.cellsOf e,none⟩) (u-a) (es.length-a)) w:=by
     rw[←aU];simp[Instr.sliceAt,run_underlying hu,h3,sizeOf,typeInfo,cd,Instr.sureAddr];split<;>simp[mE]
    exact .same S cI (.sub ab hb (by omega) (by omega) (fun h=>by grind))
theorem agz (S:aA P w I β hp B M w0) {t:TypeId} {v:Value} {x:V} {lo hi mx:Option V} {lov hiv WR:Option Value} {r:R} {rd:List Nat} (hv:ai P w I β hp v x)
  (lQ:lo=none→lov=none) (ki: ∀y,hi=some y→∃u,hiv=some u∧ai P w I β hp u y) (qK: ∀y,mx=some y→∃u,WR=some u∧ai P w I β hp u y)
  (h:(NJ P t x lo hi mx).run C hp=some (r,rd)):dg P ((Instr.sliceAt t v lov hiv WR).run P w) w I β hp B M w0 r:=by
 unfold NJ at h;split at h
 ·rename_i e e' id _ hh _ m hu;obtain ⟨l,h⟩:=run_get h;cases ab:hp id with
  | none=>rw[ab] at h;cases h
  | some blk=>
   rw[ab] at h;cases blk<;>simp only at h<;>first|(cases h;done)|skip
   rename_i dG es fz;obtain ⟨hc,h9⟩:=aD h;clear h;simp only[aK,aN,fQ] at hc;obtain ⟨rfl,rfl,au,h0,h1,h2⟩:=hc;obtain rfl:=aM h9;obtain ⟨i,z,cd,_,_,_⟩:=jy au;obtain ⟨u1,rfl,k1⟩:=ki _ rfl;obtain ⟨u2,rfl,k2⟩:=qK _ rfl;rw[k1.eY,k2.eY,lQ rfl];have run: ∀{k k2:IntKind} (a:Option Addr) (len cap:Nat),m≤cap→(Instr.sliceAt t (.slice a len cap) none (some (.int k hh)) (some (.int k2 m))).run P w= .ok (.slice (if m.toNat=0 then a else a.map (·.add 0)) hh.toNat m.toNat) w:=by
    intro k k2 a len cap hm;obtain ⟨m,rfl⟩:=Int.eq_ofNat_of_zero_le (Int.le_trans h0 h1);obtain ⟨hh,rfl⟩:=Int.eq_ofNat_of_zero_le h0;have c1:m≤cap:=by omega
    have c2:hh≤m:=by omega
    cases a<;>simp[Instr.sliceAt,Instr.slice,Instr.sliceBounds,Instr.sliceBound,asIntOf,run_underlying hu,sizeOf,typeInfo,cd,c1,c2]
   cases hv with
   | dH hd=>grind
   | dw hd=>grind
   | dO hd=>grind
   | eB hd=>grind
   | dD hd hb=>
    rw[ab] at hd;cases hd;obtain rfl:m=0:=by simp at h2;omega
    obtain rfl:hh=0:=by omega
    exact .same S (run _ _ _ (by omega)) (.gC ab hb)
   | whole hd hb aU bP hm=>
    rw[ab] at hd;cases hd;refine .same S (run _ _ _ (by omega)) ?_;have e0: ∀b,(if m.toNat=0 then (some ⟨b,0,none⟩:Option Addr) else (some ⟨b,0,none⟩:Option Addr).map (·.add 0))=some ⟨b,0,none⟩:=by intro b;split<;>simp[mE]
    rw[e0];exact .sub ab hb (by omega) (by omega) (fun _=>by simp)
 ·cases h
theorem agA (S:aA P w I β hp B M w0) {t:TypeId} {v ix:Value} {x y:V} {r:R} {rd:List Nat} (hv:ai P w I β hp v x) (hy:ai P w I β hp ix y)
  (h:(NO P t x y).run C hp=some (r,rd)):dg P ((Instr.indexAt t v ix).run P w) w I β hp B M w0 r:=by
 unfold NO at h;cases hu:P.underlying t with
 | none=>rw[hu] at h;cases h
 | some d=>
  rw[hu] at h;cases y<;>(try (cases d<;>cases h;done))
  rename_i k i;rw[hy.eY];cases d<;>simp only at h<;>first|(cases h;done)|skip
  case slice e=>
   have run: ∀(b o len cap:Nat) (ie:TypeInfo),P.info? e=some ie→0≤i→i<(len:Int)→(Instr.indexAt t (.slice (some ⟨b,o,none⟩) len cap) (.int k i)).run P w= .ok (.pointer (some ⟨b,o+i.toNat*ie.size,none⟩)) w:=by
    intro b o len cap ie lN h0 h1;simp[Instr.indexAt,asIntOf,run_underlying hu,h0,h1,sizeOf,typeInfo,lN,mE]
   cases x<;>simp only at h<;>first|(cases h;done)|skip
   case list e' es=>
    obtain ⟨hc,h⟩:=aD h;simp only[aK,aN] at hc;obtain ⟨fv,au⟩:=hc;have iq:e=e':=fv;obtain ⟨ie,z,cd,_,aU,_⟩:=jy au;obtain ⟨el,eF,h⟩:=mC h;obtain rfl:=aM h;unfold idx at eF;cases h0:decide (0≤i) with
    | false=>grind
    | true=>
     rw[h0] at eF;simp only[cond_true] at eF;have OD:0≤i:=by grind
     have aY:i.toNat<es.length:=(ct.1 eF).1;cases hv with
     | list hp'=>
      cases hp' with
      | nil=>simp at aY
      | emp=>simp at aY
      | @list b o len cap _ g hl bP hI fH hx=>
       rw[←iq] at fH hx hI;refine .same S (run b o len cap ie cd OD (by omega)) ?_;have eb:=zF (P:=P) e el;have WS:=eC au;have WU:(bif bZ P e then flat P e else [e])=aP P e:=rfl;rw[WU];have agB:ie.size=P.cellsOf e:=by omega
       refine .pref (by rw[eb]) (fun j hj=> ?_) (fun j t' y' ht Ob=> ?_)
       ·rw[y9,agB];exact hI _ (NX (by omega) (by omega))
       ·obtain ⟨t2,a1,a2⟩:=Od Ob;rw[ht] at a1;cases a1;have hj:j<P.cellsOf e:=by grind
        have eD:=hx i.toNat j el t' eF ht;refine ⟨g i.toNat j,?_,?_⟩
        ·grind
        ·rw[a2,eD.vI];exact eD
   case whole e' id=>
    obtain ⟨l,h⟩:=run_get h;cases ab:hp id with
    | none=>rw[ab] at h;cases h
    | some blk=>
     rw[ab] at h;cases blk<;>simp only at h<;>first|(cases h;done)|skip
     rename_i dG es fz;obtain ⟨hc,h⟩:=aD h;simp only[aK,aN] at hc;obtain ⟨fv,fc⟩:=hc;obtain ⟨eZ,h⟩:=aD h;simp only[aK,fQ] at eZ;obtain rfl:=aM h;cases hv with
     | dH hd=>grind
     | dw hd=>grind
     | dO hd=>grind
     | eB hd=>grind
     | dD hd hb=>grind
     | @whole _ _ aL n8 b cap hd hb zU bP hm=>
      have eW:=hd;rw[ab] at hd;cases hd;have hr:=S.h.rel id _ ab;cases hr with
      | dY ay=>grind
      | arr hL au ay hh hs hf eN hx=>
       have iq:e=e':=fv;obtain ⟨ie,z,cd,_,aU,_⟩:=jy au;rw[←iq] at cd aU;refine .same S (run b 0 _ cap ie cd eZ.1 eZ.2) ?_;have:=ai.ptr (P:=P) (w:=w) (I:=I) (i:=i.toNat) (c:=0) eW (by simp) hb;simp only[ag.sz] at this;grind
     rename_i dG es vers;obtain ⟨hc,h⟩:=aD h;simp only[aK,aN] at hc;obtain ⟨fv,fc⟩:=hc;obtain ⟨eZ,h⟩:=aD h;simp only[aK,fQ] at eZ;obtain rfl:=aM h;cases hv with
     | dH hd=>grind
     | dD hd hb=>grind
     | whole hd=>grind
     | dO hd hb=>grind
     | eB hd=>grind
     | @dw _ _ aL vers' b cap hd hb zU bP hm=>
      have eW:=hd;rw[ab] at hd;cases hd;have au:=(S.rows eW hb .here).ok;have iq:e=e':=fv;obtain ⟨ie,z,cd,_,aU,_⟩:=jy au;rw[←iq] at cd aU;refine .same S (run b 0 _ cap ie cd eZ.1 eZ.2) ?_;have:=ai.ptr (P:=P) (w:=w) (I:=I) (i:=i.toNat) (c:=0) eW (by simp) hb;simp only[ag.sz] at this;grind
     rename_i dG es vers j0;obtain ⟨hc,h⟩:=aD h;simp only[aK,aN] at hc;obtain ⟨fv,fc⟩:=hc;obtain ⟨eZ,h⟩:=aD h;simp only[aK,fQ] at eZ;obtain rfl:=aM h;cases hv with
     | dH hd=>grind
     | dD hd hb=>grind
     | whole hd=>grind
     | dO hd hb=>grind
     | dw hd=>grind
     | @eB _ _ j1 aL vers' b cap hd hb zU bP hm=>
      have eW:=hd;rw[ab] at hd;cases hd;have iq:e=e':=fv;obtain ⟨ie,cd⟩: ∃ie,P.info? e=some ie:=by
       have hr:=S.h.rel id _ eW;cases hr with
       | out _ gR _ _ _ _ _ _ _ _=>rw[iq];exact vH gR
      have aU:ie.size=P.cellsOf e:=by simp[Program.cellsOf,cd]
      refine .same S (run b 0 _ cap ie cd eZ.1 eZ.2) ?_;have:=ai.ptr (P:=P) (w:=w) (I:=I) (i:=i.toNat) (c:=0) eW (by simp) hb;simp only[ag.sz] at this;grind
   case row e' id ver path=>
    obtain ⟨e0,es,vers,l,ab,h1,h2,h3,h⟩:=pR h;obtain ⟨e2,v',k1,k2,h⟩:=zA h;obtain ⟨hc,h⟩:=aD h;simp only[aK,aN] at hc;obtain ⟨fv,fc⟩:=hc;obtain ⟨eZ,h⟩:=aD h;simp only[aK,fQ] at eZ;obtain rfl:=aM h;cases hv with
    | kU hd hp'=>rw[ab] at hd;cases hd;exact absurd hp' (zB h1 h2 h3)
    | @row v _ e0 t1 _ ver b i1 c1 q es l1 vers hd hb hq Ow ht fH=>
     have agC:=fH;obtain ⟨b',e3,aL,Ca,T,f,x,m1,m2,m3,m4,m5,m6⟩:=fH;have zD:=hd;rw[ab] at zD;cases zD;obtain ⟨n1,n2⟩:=IB m1 m3 m4 ht m5;rw[n2] at k2;cases k2;simp only[V.toList] at eZ;have hR:=S.rows hd hb m1;obtain ⟨C1,_,c2,_,c3,c4⟩:=hR.cells;rw[m2] at c2;cases c2;have hj:c1<P.cellsOf e3:=by
      rw[←eC hR.ok];grind
     obtain ⟨v2,d1,d2⟩:=c4 _ _ _ _ m3 m4 hj;rw[m6] at d1;cases d1;rw[m5] at d2;cases d2 with
     | fu a _=>unfold dF at a;grind
     | emp _=>grind
     | @row _ _ b1 cap _ hl _ _ _=>
      have au:=(S.rows hd hb (m1.snoc m2 m3 m4 ht m5 hl m6)).ok;have iq:e=e':=fv;obtain ⟨ie,z,cd,_,aU,_⟩:=jy au;rw[←iq] at cd aU;refine .same S (run b1 0 _ cap ie cd eZ.1 eZ.2) ?_;have:=ai.dq (P:=P) (I:=I) (i:=i.toNat) (c:=0) hd hb hq Ow ht hl agC;grind
   case sub e' id off len=>
    obtain ⟨l,h⟩:=run_get h;cases ab:hp id with
    | none=>rw[ab] at h;cases h
    | some blk=>
     rw[ab] at h;cases blk<;>simp only at h<;>first|(cases h;done)|skip
     rename_i dG es fz;obtain ⟨hc,h⟩:=aD h;simp only[aK,aN] at hc;obtain ⟨fv,fc⟩:=hc;obtain ⟨eZ,h⟩:=aD h;simp only[aK,fQ] at eZ;obtain rfl:=aM h;cases hv with
     | ij hd=>grind
     | gC hd hb=>omega
     | @sub _ _ _ _ aL n8 b o cap hd hb kW bP ho=>
      have eW:=hd;rw[ab] at hd;cases hd;have hr:=S.h.rel id _ ab;cases hr with
      | dY ay=>grind
      | arr hL au ay hh hs hf eN hx=>
       have iq:e=e':=fv;obtain ⟨ie,z,cd,_,aU,_⟩:=jy au;rw[←iq] at cd aU;refine .same S (run b o _ cap ie cd eZ.1 eZ.2) ?_;have:=ai.ptr (P:=P) (w:=w) (I:=I) (i:=off+i.toNat) (c:=0) eW (by simp) hb;simp only[ag.sz] at this;grind
  case array n e=>
   have run: ∀(b o:Nat) (ie:TypeInfo),P.info? e=some ie→0≤i→i<(n:Int)→(Instr.indexAt t (.pointer (some ⟨b,o,none⟩)) (.int k i)).run P w= .ok (.pointer (some ⟨b,o+i.toNat*ie.size,none⟩)) w:=by
    intro b o ie lN h0 h1;simp[Instr.indexAt,asIntOf,run_underlying hu,h0,h1,sizeOf,typeInfo,lN,mE,Instr.sureAddr]
   cases x<;>simp only at h<;>first|(cases h;done)|skip
   case ptr id j c=>
    obtain ⟨eZ,h⟩:=aD h;simp only[aK,fQ] at eZ;obtain ⟨d,sk⟩:=zG eZ.1;obtain ⟨ie,lN⟩:=vH sk;have aU:ie.size=P.cellsOf e:=by simp[Program.cellsOf,lN]
    obtain ⟨l,h⟩:=run_get h;have ew: ∀blk,hp id=some blk→blk≠ .dead→dg P ((Instr.indexAt t v (.int k i)).run P w) w I β hp B M w0 ⟨.ptr id j (c+i.toNat*P.cellsOf e),[]⟩:=fun blk ab hd=>by
     obtain ⟨b,hb,rfl⟩:=hv.gP ab hd;refine .same S (run b _ ie lN eZ.2.1 eZ.2.2) ?_;rw[aU,y9];exact .ptr ab hd hb
    have new: ∀blk,hp id=some blk→blk≠ .dead→blk.sz P=P.cellsOf e→j=0→c=0→dg P ((Instr.indexAt t v (.int k i)).run P w) w I β hp B M w0 ⟨.ptr id i.toNat 0,[]⟩:=fun blk ab hd hz hj hc=>by
     obtain ⟨b,hb,rfl⟩:=hv.gP ab hd;refine .same S (run b _ ie lN eZ.2.1 eZ.2.2) ?_;have:=ai.ptr (P:=P) (w:=w) (I:=I) (i:=i.toNat) (c:=0) ab hd hb;grind
    cases ab:hp id with
    | none=>rw[ab] at h;cases h
    | some blk=>
     rw[ab] at h;cases blk with
     | var T cs=>obtain rfl:=aM h;grind
     | arr e' es fz=>
      cases he:Nat.beq e e' with
      | true=>
       simp only[he,cond_true] at h;rw[aN] at he;subst he;obtain ⟨hc,h⟩:=aD h;simp only[aK,aN] at hc;obtain rfl:=aM h;exact new _ ab (by simp) rfl hc.1 hc.2
      | false=>
       simp only[he,cond_false] at h;obtain rfl:=aM h;grind
     | nest e' es vs=>
      cases he:Nat.beq e e' with
      | true=>
       simp only[he,cond_true] at h;rw[aN] at he;subst he;obtain ⟨hc,h⟩:=aD h;simp only[aK,aN] at hc;obtain rfl:=aM h;exact new _ ab (by simp) rfl hc.1 hc.2
      | false=>
       simp only[he,cond_false] at h;obtain rfl:=aM h;grind
     | _=>cases h
   case pref ts cs=>
    obtain ⟨eZ,h⟩:=aD h;simp only[aK,fQ] at eZ;obtain rfl:=aM h;obtain ⟨b,o,rfl,h1,h2,h3⟩:=hv.CU;obtain ⟨d,sk⟩:=zG eZ.1;obtain ⟨ie,lN⟩:=vH sk;have aU:ie.size=P.cellsOf e:=by simp[Program.cellsOf,lN]
    refine .same S (run b _ ie lN eZ.2.1 eZ.2.2) ?_;rw[aU];exact ai.VR h1 h2 h3
end
end Go.AM
namespace Go.AM
open Go.Maps
section
variable {P:Program} {w w':World} {I I':Nat→Nat→Prop} {β β':Nat→Option Nat} {hp hp':Nat→Option ag} {C:af} {B:Nat} {M:Nat→Prop} {w0:Start}
theorem agD (S:aA P w I β hp B M w0) {nb:Nat} {t:TypeId} {v:Value} {x:V} {lo hi:Option V} {lov hiv:Option Value} {r:R} {rd:List Nat} (hv:ai P w I β hp v x)
  (ki: ∀x,hi=some x→∃v,hiv=some v∧ai P w I β hp v x) (o0:lo=none→lov=none)
  (h:(Ik P nb t x lo hi).run C hp=some (r,rd)):dg P ((Instr.sliceAt t v lov hiv none).run P w) w I β hp B M w0 r:=by
 unfold Ik at h;split at h
 case h_2=>cases h
 rename_i e e' id k hh hu;obtain ⟨l,h1⟩:=run_get h;cases ab:hp id with
 | none=>rw[ab] at h1;cases h1
 | some blk=>
  rw[ab] at h1;cases blk<;>simp only at h1<;>first|(cases h1;done)|skip
  rename_i e2 es fz;cases fz with
  | true=>cases h1
  | false=>
  obtain ⟨hc,h2⟩:=aD h1;simp only[aK,aN,fQ] at hc;obtain ⟨rfl,rfl,au,hh0,hhn⟩:=hc;obtain ⟨hn,rfl⟩:=lb h2;have lQ:=o0 rfl;subst lQ;obtain ⟨xr,rfl,hhv⟩:=ki _ rfl;obtain rfl:=hhv.eY;obtain ⟨i,z,cd,_,aU,_⟩:=jy au;have bL:nb≠id:=fun e=>by grind
  obtain ⟨k1,k2⟩:=vG S ab;have gb:aq hp id (some ag.dead) nb=none:=by rw[cu _ _ bL];exact hn
  have WV: ∀cap,es.length≤cap→(Instr.sliceBounds true es.length cap none (some (.int k hh)) none).run P w= .ok (0,hh.toNat,cap) w:=by
   intro cap bP;have hb:(tz es.length none (some (.int k hh)) fun l u=> .aB (decide (l=0∧u=hh.toNat)) (.ret (⟨.undef,[]⟩:R))).run C hp=some (⟨.undef,[]⟩,[]):=by
    simp[tz,Rd.run,hh0,hhn]
   obtain ⟨l,u,b1,b2,b3,b4⟩:=sm (P:=P) (w:=w) (I:=I) (β:=β) (hp:=hp) (n:=es.length) (isS:=true) (cap:=cap) (lov:=none) (hiv:=some (.int k hh)) bP (by simp) (fun x hx=>by grind) (fun _=>rfl) (by simp) hb;obtain ⟨b5,_⟩:=aD b4;grind
  cases hv with
  | dH hd=>grind
  | dw hd=>grind
  | dO hd=>grind
  | eB hd=>grind
  | @dD _ _ _ a0 hd hb=>
   rw[ab] at hd;cases hd;have Oj:hh=0:=by grind
   subst Oj;have ay:=WV 0 (az _);obtain ⟨a1,a2⟩:=CQ k2 e gb;refine ⟨_,w,I,_,I7 hu cd ay,k1.trans a1,a2,.dD (bE _ _ _) (bE _ _ _)⟩
  | @whole _ _ aL n8 b cap hd hb zU bP hm=>
   have eW:=hd;rw[ab] at hd;cases hd;have hr:=S.h.rel id _ ab;cases hr with
   | dY ay=>grind
   | @arr _ _ _ _ b' Ca hL _ ay I8 vP hf eN vQ=>
    rw[hb] at ay;cases ay;have mD:(es.take hh.toNat).length=hh.toNat:=by grind
    have cI:(Instr.sliceAt t (.slice (some ⟨b,0,none⟩) es.length cap) none (some (.int k hh)) none).run P w= .ok (.slice (some ⟨b,0,none⟩) hh.toNat cap) w:=by
     have ay:=WV cap bP;by_cases WW:cap=0
     ·subst WW;simp[Instr.sliceAt,Instr.slice,run_underlying hu,ay,sizeOf,typeInfo,cd]
     ·simp[Instr.sliceAt,Instr.slice,run_underlying hu,ay,sizeOf,typeInfo,cd,WW,mE]
    have oX: ∀aw blk',aq hp id (some ag.dead) aw=some blk'→¬bd P w (β aw) blk' b:=by
     intro aw blk' h1 h2;by_cases lL:aw=id
     ·subst lL;rw[bE] at h1;cases h1;exact h2.alive rfl
     ·rw[cu _ _ lL] at h1;exact lL (S.h.inj aw id blk' _ b h1 ab h2 (.root (by simp) hb))
    obtain ⟨a1,a2⟩:=zE k2 (blk:= .arr e (es.take hh.toNat) false) (w':=w) gb oX (fun _ _=>rfl) (fun _ _ _=>rfl) (az _) ⟨rfl,rfl⟩ (S.h.vD id _ b ab (by simp) hb)
     (fun b' h=>(dC (h.flat (by simp))).symm) (fun hle=> .arr hL au rfl I8 (by rw[mD];exact lu (ef _ (by omega)) vP) (fun h=>by cases h) (fun _=>eN rfl) fun i j y t' hy ht hj=>by
      grind)
    refine ⟨_,w,I,_,cI,k1.trans a1,a2,?_⟩;have:=ai.whole (P:=P) (w:=w) (I:=I) (β:=aq β nb (some b)) (hp:=aq (aq hp id (some .dead)) nb (some (.arr e (es.take hh.toNat) false))) (cap:=cap) (bE _ _ _) (bE _ _ _) zU (by omega) hm;rw[mD] at this;exact this
theorem qX {t:TypeId} {x:V} (h:pM P t x=true):
  (∃q n,P.underlying t=some (.int q)∧x= .int q n∧fC q n=true)∨(∃b,P.underlying t=some .bool∧x= .bool b)∨(∃s,P.underlying t=some .string∧x= .str s∧s.length≤maxLen):=by
 unfold pM at h;split at h
 all_goals simp_all
theorem size_data (s:ByteArray):s.data.toList.length=s.size:=by simp
theorem agE {q:IntKind} {n:Int} (h:fC q n=true):(Lit.int q n).wf=true:=h
theorem OT {t:TypeId} {x:V} {v:Value} (h:pM P t x=true) (hv:jr v x): ∃l,mapKey P t v=some l∧∀d,P.keyLits (d+1) t [v]=some [l]:=by
 rcases qX h with ⟨q,n,hu,rfl,hn⟩|⟨b,hu,rfl⟩|⟨s,hu,rfl,hs⟩
 ·obtain rfl:v= .int q n:=hv;have hw:=agE hn;exact ⟨.int q n,by simp[mapKey,hu,hw],fun d=>by simp[Program.keyLits,hu,hw]⟩
 ·obtain rfl:v= .bool b:=hv;exact ⟨.bool b,by simp[mapKey,hu],fun d=>by simp[Program.keyLits,hu]⟩
 ·obtain ⟨s',rfl,ub⟩:=hv;have:s'.size≤maxLen:=by rw[←size_data,ub];exact hs
  exact ⟨.string s'.data.toList,by simp[mapKey,hu,this],fun d=>by simp[Program.keyLits,hu,this]⟩
theorem OU {t:TypeId}: ∀{xs:List V} {j:Nat} {x:V},tv P t xs=true→xs[j]? =some x→pM P t x=true
 | [],j,x,_,h=>by simp at h
 | y::ys,0,x,h,hx=>by
  simp only[tv,aK] at h;grind
 | y::ys,j+1,x,h,hx=>by
  simp only[tv,aK] at h;exact OU (j:=j) h.2 (by grind)
theorem mapM_some {α β:Type} {f:α→Option β}: ∀{l:List α},(∀a∈l,∃b,f a=some b)→∃bs,l.mapM f=some bs
 | [],_=>⟨[],rfl⟩
 | a::l,h=>by
  obtain ⟨b,hb⟩:=h a (zc ..);obtain ⟨bs,iW⟩:=mapM_some (l:=l) fun x hx=>h x (ka _ hx);simp_all
structure vR (P:Program) (t:TypeId) (fs:Array Field):Prop where
 hu:P.underlying t=some (.struct fs)
 size:P.cellsOf t=fs.size
 at_ : ∀ (i : Nat) f, fs[i]? = some f → f.offset = i ∧ P.cellsOf f.type = 1 ∧ (f.name != "_") = true ∧ P.plainKey f.type = true
 free:(!(P.cutTypes.any (·.2==t))&& !P.stoodInHeld t)=true
 runs:P.runs 0 fs.toList=some fs.size
theorem WX: ∀{k:Nat} {l:List Field},Ic P k l=true→(∀(i:Nat) f,l[i]? =some f→f.offset=k+i∧P.cellsOf f.type=1)∧P.runs k l=some (k+l.length)
 | k,[],_=>⟨fun i f h=>by simp at h,by simp[Program.runs]⟩
 | k,f::l,h=>by
  simp only[Ic,aK,aN] at h;obtain ⟨a,b⟩:=WX (l:=l) h.2;refine ⟨fun i g hg=> ?_,?_⟩
  ·grind
  ·simp only[Program.runs];grind
theorem agF {t:TypeId} {fs:Array Field} (hu:P.underlying t=some (.struct fs)) (h:NA P t fs=true):vR P t fs:=by
 unfold NA at h;rw[aK,aK,aK] at h;obtain ⟨⟨h1,h2⟩,h3,h4⟩:=h;rw[aN] at h1;obtain ⟨a,b⟩:=WX h2;rw[eT,Array.length_toList] at b;refine ⟨hu,h1,fun i f hf=> ?_,h4,b⟩;obtain ⟨a1,a2⟩:=a i f (by grind);grind
theorem agG {t:TypeId} (hp:P.plainKey t=true) (m:Nat):P.keyTypeAt (m+1) t=true:=by
 unfold Program.plainKey at hp;unfold Program.keyTypeAt;grind
theorem agH {t:TypeId} (hp:P.plainKey t=true) (m:Nat):P.tiled (m+1) t=true:=by
 unfold Program.plainKey at hp;unfold Program.tiled;grind
theorem vR.at {t:TypeId} {fs:Array Field} (A:vR P t fs) (m:Nat):P.keyTypeAt (m+2) t=true:=by
 unfold Program.keyTypeAt;rw[A.hu];have hf:=A.free;rw[aK] at hf;simp only;rw[aK,aK];refine ⟨⟨Array.all_eq_true.2 fun i hi=> ?_,hf.1⟩,hf.2⟩;obtain ⟨_,_,h3,h4⟩:=A.at_ i fs[i] (kb hi);rw[aK];exact ⟨h3,agG h4 m⟩
theorem vR.tiled {t:TypeId} {fs:Array Field} (A:vR P t fs):P.tiled 2 t=true:=by
 unfold Program.tiled;rw[A.hu];simp only;rw[aK];refine ⟨by rw[A.runs,A.size];simp,Array.all_eq_true.2 fun i hi=> ?_⟩;exact agH (A.at_ i fs[i] (kb hi)).2.2.2 0
theorem vR.law {t:TypeId} {fs:Array Field} (A:vR P t fs):WideMaps.KeyLaw P t:=deep_law (m:=2) (by omega) (A.at 0) A.tiled (by rw[A.hu])
theorem I9: ∀{ts:List TypeId} {xs:List V},tw P ts xs=true→xs.length=ts.length∧∀(j:Nat) t x,ts[j]? =some t→xs[j]? =some x→pM P t x=true
 | [],[],_=>⟨rfl,fun j t x h=>by simp at h⟩
 | [],_::_,h=>by cases h
 | _::_,[],h=>by cases h
 | t::ts,x::xs,h=>by
  simp only[tw,aK] at h;obtain ⟨a,b⟩:=I9 h.2;grind
inductive Ja (P:Program) (t:TypeId) (x:V):Prop
 | one:pM P t x=true→x.cells=[x]→Ja P t x
 | arr {n:Nat} {e:TypeId} {xs:List V}:x= .agg xs→WideMaps.ArrKey P t e n→xs.length=n→0<P.types.size→tv P e xs=true→Ja P t x
 | str {fs:Array Field} {xs:List V}:x= .agg xs→vR P t fs→0<P.types.size→tw P (fs.toList.map (·.type)) xs=true→Ja P t x
theorem xt {t:TypeId} {x:V} (h:pN P t x=true):Ja P t x:=by
 unfold pN at h;split at h
 ·rename_i n e xs hu;simp only[aK,aN] at h;rw[nR] at h;exact .arr rfl ⟨hu,h.2.2.2.1,h.2.1,h.2.2.1⟩ h.1 h.2.2.2.2.1 h.2.2.2.2.2
 ·rename_i fs xs hu;rw[aK,aK,nR] at h;exact .str rfl (agF hu h.1) h.2.1 h.2.2
 ·refine .one h ?_;rcases qX h with ⟨q,n,hu,rfl,hn⟩|⟨b,hu,rfl⟩|⟨s,hu,rfl,hs⟩<;>rfl
theorem tJ.one {x:V} {v:Value} (h:tJ v x) (hx:x.cells=[x]):jr v x:=by
 cases x<;>first|exact h|skip
 simp only[V.cells] at hx;rename_i cs;have:=congrArg List.length hx;cases cs with
 | nil=>simp at hx
 | cons c cs=>
  simp only[wQ] at hx;have:=congrArg SizeOf.sizeOf hx.1;grind
theorem agI {ts:List TypeId} {xs:List V} {cs:Array Value} (hf:tw P ts xs=true) (hs:cs.size=xs.length) (hc: ∀(j:Nat) (u:Value) (y:V),cs[j]? =some u→xs[j]? =some y→jr u y) {i:Nat} {t:TypeId} (ht:ts[i]? =some t):
  ∃l,∀d,P.keyLits (d+1) t ((cs.toList.drop i).take 1)=some [l]:=by
 obtain ⟨a,b⟩:=I9 hf;have hi:=(ct.1 ht).1;have im:i<cs.size:=by omega
 have nk:i<xs.length:=by omega
 obtain ⟨l,_,h2⟩:=OT (b i t xs[i] ht (bS nk)) (hc i cs[i] xs[i] (kb im) (bS nk));refine ⟨l,fun d=> ?_⟩;have e1:(cs.toList.drop i).take 1=[cs[i]]:=by
  rw[List.drop_eq_getElem_cons (by omega)];simp
 grind
theorem Jb {t:TypeId} {x:V} {v:Value} (h:pN P t x=true) (hv:tJ v x): ∃l,Go.keyOf P t v=some l:=by
 cases xt h with
 | one h1 hx=>
  obtain ⟨l,hl,_⟩:=OT h1 (hv.one hx);refine ⟨l,?_⟩;rcases qX h1 with ⟨q,n,hu,_⟩|⟨b,hu,_⟩|⟨s,hu,_⟩<;>simp only[Go.keyOf,hu,hl]
 | @arr n e xs hx A hl hp0 hf=>
  subst hx;obtain ⟨cs,rfl,hs,hc⟩:=hv;obtain ⟨m,hm⟩: ∃m,P.types.size=m+1:=⟨P.types.size-1,by omega⟩
  have OV:=A.keyType ⟨m,hm⟩;have hlen:cs.toList.length=P.cellsOf t:=by rw[A.size];grind
  have Dn:(Value.agg cs).formed P t=true:=by simp[Value.formed,A.hu,A.size,hs,hl]
  have hex: ∀i∈List.range n,∃y,P.keyLits (m+1) e (((Value.agg cs).cells.toList.drop (i*P.cellsOf e)).take (P.cellsOf e))=some y:=by
   intro i hi;have hi:=fm.1 hi;rw[A.one];have im:i<cs.size:=by omega
   have nk:i<xs.length:=by omega
   obtain ⟨l,_,h2⟩:=OT (OU hf (bS nk)) (hc i cs[i] xs[i] (kb im) (bS nk));have e1:((Value.agg cs).cells.toList.drop (i*1)).take 1=[cs[i]]:=by
    show (cs.toList.drop (i*1)).take 1=_;rw[ga,List.drop_eq_getElem_cons (by omega)];simp
   simp_all
  obtain ⟨bs,iW⟩:=mapM_some hex;refine ⟨.string (keyBytes bs.flatten),?_⟩;have auw:(Value.agg cs).cells.toList.length=P.cellsOf t:=hlen;unfold Go.keyOf;rw[A.hu];simp only[OV,Dn,Bool.and_self,ly];unfold Program.keyLits;rw[A.hu,hm];grind
 | @str fs xs hx A hp0 hf=>
  subst hx;obtain ⟨cs,rfl,hs,hc⟩:=hv;obtain ⟨m,hm⟩: ∃m,P.types.size=m+1:=⟨P.types.size-1,by omega⟩
  have OV:P.keyType t=true:=by
   unfold Program.keyType;rw[hm];exact A.at m
  have o4:=(I9 hf).1;rw[cY,Array.length_toList] at o4;have Dn:(Value.agg cs).formed P t=true:=by simp[Value.formed,A.hu,A.size,hs];exact o4
  have hlen:(Value.agg cs).cells.toList.length=P.cellsOf t:=by
   show cs.toList.length=_;rw[A.size];grind
  have oP : fs.all (·.name != "_") = true := Array.all_eq_true.2 fun i hi => (A.at_ i fs[i] (kb hi)).2.2.1;have hex: ∀f∈fs.toList,∃y,P.keyLits (m+1) f.type (((Value.agg cs).cells.toList.drop f.offset).take (P.cellsOf f.type))=some y:=by
   intro f Dn;obtain ⟨i,hi⟩:=rL Dn;obtain ⟨a1,a2,_,_⟩:=A.at_ i f (by grind);rw[a1,a2];obtain ⟨l,hl⟩:=agI hf hs hc (i:=i) (t:=f.type) (by grind);exact ⟨_,hl m⟩
  obtain ⟨bs,iW⟩:=mapM_some hex;refine ⟨.string (keyBytes bs.flatten),?_⟩;unfold Go.keyOf;rw[A.hu];simp only[OV,Dn,Bool.and_self,ly];unfold Program.keyLits;rw[A.hu,hm];grind
theorem OW {t:TypeId} {x:V} (h:pN P t x=true):Keyed P t:=by
 cases xt h with
 | one h1 hx=>
  rcases qX h1 with ⟨q,n,hu,_⟩|⟨b,hu,_⟩|⟨s,hu,_⟩
  ·exact int_keyed hu
  ·exact bool_keyed hu
  ·exact string_keyed hu
 | arr hx A hl _ hf=>exact Keyed.of_law A.law
 | str hx A _ hf=>exact Keyed.of_law A.law
theorem OX {t:TypeId} {x y:V} {v u:Value} (h1:pM P t x=true) (h2:pM P t y=true) (hv:jr v x) (hu:jr u y):vq x y=true↔v=u:=by
 rcases qX h1 with ⟨q,n,gR,rfl,_⟩|⟨b,gR,rfl⟩|⟨s,gR,rfl,_⟩<;>
 rcases qX h2 with ⟨q',n',o5,rfl,_⟩|⟨b',o5,rfl⟩|⟨s',o5,rfl,_⟩<;>
  (rw[gR] at o5;cases o5)
 ·obtain rfl:v= .int q n:=hv;obtain rfl:u= .int q n':=hu;simp[vq]
 ·obtain rfl:v= .bool b:=hv;obtain rfl:u= .bool b':=hu;simp[vq]
 ·obtain ⟨s1,rfl,e1⟩:=hv;obtain ⟨s2,rfl,e2⟩:=hu;simp only[vq,beq_iff_eq,Value.string.injEq,←e1,←e2];constructor
  ·intro h;have:=Array.toList_inj.1 h;cases s1;simp_all
  grind
theorem WY {t:TypeId}: ∀{xs ys:List V} {vs us:List Value},tv P t xs=true→tv P t ys=true→xs.length=ys.length→vs.length=xs.length→us.length=ys.length→
  (∀(j:Nat) v x,vs[j]? =some v→xs[j]? =some x→jr v x)→(∀(j:Nat) v x,us[j]? =some v→ys[j]? =some x→jr v x)→(oR xs ys=true↔vs=us)
 | [],[],vs,us,_,_,_,h1,h2,_,_=>by
  have e1:=nQ (l:=vs) (by omega);have e2:=nQ (l:=us) (by omega);simp[oR,e1,e2]
 | [],_::_,_,_,_,_,h,_,_,_,_=>by simp at h
 | _::_,[],_,_,_,_,h,_,_,_,_=>by simp at h
 | x::xs,y::ys,[],us,_,_,_,h,_,_,_=>by simp at h
 | x::xs,y::ys,v::vs,[],_,_,_,_,h,_,_=>by simp at h
 | x::xs,y::ys,v::vs,u::us,f1,f2,h,h1,h2,r1,r2=>by
  simp only[tv,aK] at f1 f2;have a:=OX f1.1 f2.1 (r1 0 v x rfl rfl) (r2 0 u y rfl rfl);have b:=WY (vs:=vs) (us:=us) f1.2 f2.2 (by grind) (by grind) (by grind) (fun j v x hj hx=>r1 (j+1) v x (by grind) (by grind)) (fun j v x hj hx=>r2 (j+1) v x (by grind) (by grind));simp only[oR,aK,a,b,wQ]
theorem WZ: ∀{ts:List TypeId} {xs ys:List V} {vs us:List Value},tw P ts xs=true→tw P ts ys=true→vs.length=xs.length→us.length=ys.length→
  (∀(j:Nat) v x,vs[j]? =some v→xs[j]? =some x→jr v x)→(∀(j:Nat) v x,us[j]? =some v→ys[j]? =some x→jr v x)→(oR xs ys=true↔vs=us)
 | [],[],[],vs,us,_,_,h1,h2,_,_=>by
  have e1:=nQ (l:=vs) (by omega);have e2:=nQ (l:=us) (by omega);simp[oR,e1,e2]
 | [],_::_,_,_,_,h,_,_,_,_,_=>by cases h
 | [],[],_::_,_,_,_,h,_,_,_,_=>by cases h
 | _::_,[],_,_,_,h,_,_,_,_,_=>by cases h
 | _::_,_::_,[],_,_,_,h,_,_,_,_=>by cases h
 | t::ts,x::xs,y::ys,[],us,_,_,h,_,_,_=>by simp at h
 | t::ts,x::xs,y::ys,v::vs,[],_,_,_,h,_,_=>by simp at h
 | t::ts,x::xs,y::ys,v::vs,u::us,f1,f2,h1,h2,r1,r2=>by
  simp only[tw,aK] at f1 f2;have a:=OX f1.1 f2.1 (r1 0 v x rfl rfl) (r2 0 u y rfl rfl);have b:=WZ (vs:=vs) (us:=us) f1.2 f2.2 (by grind) (by grind) (fun j v x hj hx=>r1 (j+1) v x (by grind) (by grind)) (fun j v x hj hx=>r2 (j+1) v x (by grind) (by grind));simp only[oR,aK,a,b,wQ]
theorem OY {t:TypeId} {x y:V} {v u:Value} (h1:pN P t x=true) (h2:pN P t y=true) (hv:tJ v x) (hu:tJ u y):gZ x y=true↔v=u:=by
 unfold gZ;cases xt h1 with
 | one f1 c1=>
  cases xt h2 with
  | one f2 c2=>
   rw[c1,c2];simp only[oR,Bool.and_true];exact OX f1 f2 (hv.one c1) (hu.one c2)
  | arr hy A hl _ hf=>
   rcases qX f1 with ⟨q,n,gR,_⟩|⟨b,gR,_⟩|⟨s,gR,_⟩<;>(rw[A.hu] at gR;cases gR)
  | str hy A _ hf=>
   rcases qX f1 with ⟨q,n,gR,_⟩|⟨b,gR,_⟩|⟨s,gR,_⟩<;>(rw[A.hu] at gR;cases gR)
 | arr hx A hl _ hf=>
  cases xt h2 with
  | one f2 c2=>
   rcases qX f2 with ⟨q,n,gR,_⟩|⟨b,gR,_⟩|⟨s,gR,_⟩<;>(rw[A.hu] at gR;cases gR)
  | arr hy A2 zj _ uc=>
   have iq:=A.hu.symm.trans A2.hu;cases iq;subst hx;subst hy;obtain ⟨cs,rfl,s1,r1⟩:=hv;obtain ⟨ds,rfl,s2,r2⟩:=hu;have:=WY (vs:=cs.toList) (us:=ds.toList) hf uc (by omega) (by omega) (by omega) (fun j v x hj hx=>r1 j v x (by grind) hx) (fun j v x hj hx=>r2 j v x (by grind) hx);simp only[V.cells,this,Value.agg.injEq];simp_all
  | str hy A2 _ uc=>
   have iq:=A.hu.symm.trans A2.hu;cases iq
 | str hx A _ hf=>
  cases xt h2 with
  | one f2 c2=>
   rcases qX f2 with ⟨q,n,gR,_⟩|⟨b,gR,_⟩|⟨s,gR,_⟩<;>(rw[A.hu] at gR;cases gR)
  | arr hy A2 zj _ uc=>
   have iq:=A.hu.symm.trans A2.hu;cases iq
  | str hy A2 _ uc=>
   have iq:=A.hu.symm.trans A2.hu;cases iq;subst hx;subst hy;obtain ⟨cs,rfl,s1,r1⟩:=hv;obtain ⟨ds,rfl,s2,r2⟩:=hu;have:=WZ (vs:=cs.toList) (us:=ds.toList) hf uc (by omega) (by omega) (fun j v x hj hx=>r1 j v x (by grind) hx) (fun j v x hj hx=>r2 j v x (by grind) hx);simp only[V.cells,this,Value.agg.injEq];simp_all
theorem W0 {k:V}: ∀{es:List V},(∀x∈es,gZ k (x.comp 0)=false)→fG k es=false∧(∀z,jn k es z=z)∧∀v,g9 k v es=es++[.aX [k,v]]
 | [],_=>⟨rfl,fun _=>rfl,fun _=>rfl⟩
 | e::es,h=>by
  have h0:=h e (zc ..);obtain ⟨a,b,c⟩:=W0 (k:=k) (es:=es) fun x hx=>h x (ka _ hx);exact ⟨by simp[fG,h0,a],fun z=>by simp[jn,h0,b],fun v=>by simp[g9,h0,c]⟩
theorem W3 {k:V}: ∀{es:List V} {j:Nat} {k' y:V},es[j]? =some (.aX [k',y])→gZ k k'=true→(∀i x,i<j→es[i]? =some x→gZ k (x.comp 0)=false)→
  fG k es=true∧(∀z,jn k es z=y)∧∀v,g9 k v es=es.set j (.aX [k',v])
 | [],j,k',y,h,_,_=>by simp at h
 | e::es,0,k',y,h,he,_=>by
  simp at h;subst h;exact ⟨by simp[fG,V.comp,V.nth,he],fun z=>by simp[jn,V.comp,V.nth,he],fun v=>by simp[g9,V.comp,V.nth,he]⟩
 | e::es,j+1,k',y,h,he,aY=>by
  have h0:=aY 0 e (by omega) rfl;obtain ⟨a,b,c⟩:=W3 (k:=k) (es:=es) (j:=j) (by simpa using h) he fun i x hi hx=>aY (i+1) x (by omega) (by grind);exact ⟨by simp[fG,h0,a],fun z=>by simp[jn,h0,b],fun v=>by simp[g9,h0,c]⟩
theorem W4 {kt vt:TypeId} {E:Array MapEntry} {es:List V} {k:V} {kv:Value} (hs:E.size=es.length) (hx: ∀(j:Nat) (e:MapEntry) (x:V),E[j]? =some e→es[j]? =some x→Iw P kt vt e x)
  (hn:E.toList.Pairwise (fun a b=>a.key≠b.key)) (hk:pN P kt k=true) (Jc:tJ kv k) (w:World):
  ((Instr.findKey kt kv E.toList).run P w= .ok none w∧(∀e∈E.toList,e.key≠kv)∧fG k es=false∧(∀z,jn k es z=z)∧∀v,g9 k v es=es++[.aX [k,v]])∨
  ∃j e k' y,(Instr.findKey kt kv E.toList).run P w= .ok (some (j,e.val)) w∧E[j]? =some e∧e.key=kv∧es[j]? =some (.aX [k',y])∧pN P kt k'=true∧tJ kv k'∧eU P vt y=true∧jr e.val y∧
   fG k es=true∧(∀z,jn k es z=y)∧∀v,g9 k v es=es.set j (.aX [k',v]):=by
 have K:=OW hk;obtain ⟨l,hl⟩:=Jb hk Jc;have W5: ∀(j:Nat) x,es[j]? =some x→∃e,E[j]? =some e∧Iw P kt vt e x:=by
  intro j x hj;have aY:j<E.size:=by grind
  exact ⟨E[j],kb aY,hx j _ x (kb aY) hj⟩
 have keys: ∀e∈E.toList,∃l,Go.keyOf P kt e.key=some l:=by
  intro e he;obtain ⟨j,hj⟩:=rL he;have dQ:E[j]? =some e:=by grind
  have aY:j<es.length:=by grind
  obtain ⟨k',y,_,h1,h2,_⟩:=hx j e es[j] dQ (bS aY);exact Jb h1 h2
 rcases K.find w hl E.toList keys with ⟨h1,h2⟩|⟨j,e,h1,h2,h3⟩
 ·left;refine ⟨h1,h2,W0 fun x I4=> ?_⟩;obtain ⟨j,hj⟩:=rL I4;obtain ⟨e,he,k',y,rfl,f1,f2,_⟩:=W5 j x hj;cases hq:gZ k (V.comp (.aX [k',y]) 0) with
  | false=>rfl
  | true=>
   have:=(OY hk f1 Jc f2).1 hq;grind
 ·right;have hE:E[j]? =some e:=by grind
  have aY:j<es.length:=by grind
  obtain ⟨k',y,hy,f1,f2,f3,f4⟩:=hx j e es[j] hE (bS aY);have hj:=bS aY;rw[hy] at hj;rw[h3] at f2;refine ⟨j,e,k',y,h1,hE,h3,hj,f1,f2,f3,f4,W3 hj ((OY hk f1 Jc f2).2 rfl) fun i x hi lI=> ?_⟩;obtain ⟨e',zR,k2,y2,rfl,g1,g2,_⟩:=W5 i x lI;cases hq:gZ k (V.comp (.aX [k2,y2]) 0) with
  | false=>rfl
  | true=>
   have:=(OY hk g1 Jc g2).1 hq;have i1:i<E.toList.length:=by grind
   have i2:j<E.toList.length:=by simp;omega
   have:=HS.1 hn i j i1 i2 hi;grind
theorem ai.OZ {v:Value} {x:V} (h:ai P w I β hp v x) {t:TypeId} (hx:pM P t x=true):jr v x:=by
 rcases qX hx with ⟨q,n,_,rfl,_⟩|⟨b,_,rfl⟩|⟨s,_,rfl,_⟩
 ·exact h.eY
 ·exact h.kZ
 ·exact h.nf
theorem ai.W6 {v:Value} {x:V} (h:ai P w I β hp v x) {t:TypeId} (hx:pN P t x=true):tJ v x:=by
 cases xt hx with
 | one f c=>
  have:=h.OZ f;cases x<;>first|exact this|cases this
 | arr hx A hl _ hf=>
  subst hx;obtain ⟨cs,rfl,h1,h2⟩:=h.la;exact ⟨cs,rfl,h1,fun j u y hu hy=>(h2 j u y hu hy).OZ (OU hf hy)⟩
 | str hx A _ hf=>
  subst hx;obtain ⟨cs,rfl,h1,h2⟩:=h.la;obtain ⟨a,b⟩:=I9 hf;refine ⟨cs,rfl,h1,fun j u y hu hy=> ?_⟩;have hj:=(ct.1 hy).1;exact (h2 j u y hu hy).OZ (b j _ y (bS (by omega)) hy)
theorem W7 {vt:TypeId} {y:V} (h:mapVal P vt=true) (ht:eU P vt y=true):(∃q n,P.underlying vt=some (.int q)∧y= .int q n)∨∃b,P.underlying vt=some .bool∧y= .bool b:=by
 unfold mapVal at h;unfold eU at ht;grind
theorem jr.O0 {vt:TypeId} {v:Value} {y:V} (h:mapVal P vt=true) (ht:eU P vt y=true) (hv:jr v y):ai P w I β hp v y:=by
 rcases W7 h ht with ⟨q,n,_,rfl⟩|⟨b,_,rfl⟩
 ·obtain rfl:v= .int q n:=hv;exact .int
 ·obtain rfl:v= .bool b:=hv;exact .bool
theorem ai.agJ {vt:TypeId} {v:Value} {y:V} (h:mapVal P vt=true) (ht:eU P vt y=true) (hv:ai P w I β hp v y):jr v y:=by
 rcases W7 h ht with ⟨q,n,_,rfl⟩|⟨b,_,rfl⟩
 ·exact hv.eY
 ·exact hv.kZ
theorem agK {vt:TypeId} {z:V} (h:Ie P vt=some z) (w:World): ∃v,(zeroValue vt).run P w= .ok v w∧jr v z:=by
 unfold Ie at h;cases hi:P.info? vt with
 | none=>grind
 | some i=>
  rw[hi] at h;simp only[Option.bind_some] at h;cases hz:i.zero with
  | none=>grind
  | some v=>
   rw[hz] at h;refine ⟨v,by simp[zeroValue,typeInfo,hi,hz],?_⟩;cases v<;>simp only at h<;>first|(cases h;done)|skip
   ·cases h;rfl
   ·cases h;rfl
theorem O1 {t kt vt:TypeId} (h:n7 P t=some (kt,vt)):P.underlying t=some (.map kt vt):=by
 unfold n7 at h;grind
theorem O2 (S:aA P w I β hp B M w0) {ok:Bool} {v:Value} {x:V} {b:Bool} {r:R} {rd:List Nat} {res:Result Value} (hv:ai P w I β hp v x)
  (hr:res= .ok (if ok then .tuple #[v,.bool b] else v) w) (h:(Ig ok x b).run C hp=some (r,rd)):dg P res w I β hp B M w0 r:=by
 unfold Ig at h;obtain rfl:=aM h;cases ok with
 | false=>exact .same S hr hv
 | true=>
  refine .same S hr (.aX rfl fun j u y hu hy=> ?_)
  match j,hu,hy with
  | 0,hu,hy=>grind
  | 1,hu,hy=>simp at hu hy;subst hu;subst hy;exact .bool
  | j+2,hu,hy=>simp at hy
theorem agL (S:aA P w I β hp B M w0) {t kt vt:TypeId} (ht:n7 P t=some (kt,vt)) {m k:Value} {mx kx:V} {ok:Bool} {r:R} {rd:List Nat} (hm:ai P w I β hp m mx) (hk:ai P w I β hp k kx)
  (h:(NB P t mx kx ok).run C hp=some (r,rd)):dg P ((Instr.lookup t m k ok).run P w) w I β hp B M w0 r:=by
 unfold NB at h;rw[ht] at h;simp only at h;cases hz:Ie P vt with
 | none=>rw[hz] at h;cases h
 | some z=>
  rw[hz] at h;obtain ⟨hc,h'⟩:=aD h;clear h;have h:=h';clear h';simp only[aK] at hc;obtain ⟨sn,Dp,Jd⟩:=hc;have hu:=O1 ht;have zW:=hk.W6 sn;have K:=OW sn;obtain ⟨l,hl⟩:=Jb sn zW;obtain ⟨zv,W8,W9⟩:=agK hz w;cases mx<;>simp only at h<;>first|(cases h;done)|skip
  ·rename_i t' id;obtain ⟨oj,h'⟩:=aD h;clear h;have h:=h';clear h';rw[aN] at oj;subst oj;obtain ⟨l2,h'⟩:=run_get h;clear h;have h:=h';clear h';cases ab:hp id with
   | none=>rw[ab] at h;cases h
   | some blk=>
    rw[ab] at h;cases blk<;>simp only at h<;>first|(cases h;done)|skip
    rename_i t2 es;obtain ⟨oj,h'⟩:=aD h;clear h;have h:=h';clear h';rw[aN] at oj;subst oj;cases hm with
    | jV hd=>grind
    | @cN _ _ b aL hd hb=>
     rw[ab] at hd;cases hd;have hr:=S.h.rel id _ ab;cases hr with
     | @map _ Xa Xb _ b' clock E jZ ay hh hs hI hx hn=>
      rw[hb] at ay;cases ay;rw[hu] at jZ;cases jZ;rcases W4 hs hx hn sn zW w with ⟨h1,_,h3,h4,_⟩|⟨j,e,k',y,h1,_,_,_,_,_,h6,h7,h3,h4,_⟩
      ·rw[h3,h4,CW Jd] at h;refine O2 S (jr.O0 Dp Jd W9) ?_ h;unfold Instr.lookup;simp only[Sem.run_bind,run_underlying hu,Result.andThen_ok,Go.MapKept.run_getObj_map hh,Sem.run_pure,K.check w E.isEmpty hl,h1,W8]
      ·rw[h3,h4,CW h6] at h;refine O2 S (jr.O0 Dp h6 h7) ?_ h;unfold Instr.lookup;simp only[Sem.run_bind,run_underlying hu,Result.andThen_ok,Go.MapKept.run_getObj_map hh,Sem.run_pure,K.check w E.isEmpty hl,h1]
  ·rename_i t';obtain ⟨oj,h⟩:=aD h;cases hm;rw[CW Jd] at h;refine O2 S (jr.O0 Dp Jd W9) ?_ h;have hf:(Instr.findKey kt k []).run P w= .ok none w:=by
    rcases K.find w hl [] (by simp) with ⟨h1,_⟩|⟨j,e,_,h2,_⟩
    all_goals grind
   unfold Instr.lookup;simp[run_underlying hu,K.check w true hl,hf,W8]
theorem agM (S:aA P w I β hp B M w0) {t:TypeId} {nb:Nat} {r:R} {rd:List Nat} (h:(Rd.aB (n7 P t).isSome (hY nb (.map t []) (.cN t nb) [])).run C hp=some (r,rd)):
  dg P ((Instr.makeMap t none).run P w) w I β hp B M w0 r:=by
 obtain ⟨ht,h⟩:=aD h;obtain ⟨hn,rfl⟩:=lb h;obtain ⟨⟨kt,vt⟩,ht⟩:=zb.1 ht;have hu:=O1 ht;have da: ∀j,¬I w.heap.size j:=fun j h=>ml _ (S.h.iE _ j h);have dr:(w.alloc (.map #[] 0)).heap[w.heap.size]? =some (.map #[] 0):=heap_alloc_new w _;obtain ⟨a1,a2⟩:=zE S (w':=w.alloc (.map #[] 0)) (blk:= .map t []) (b:=w.heap.size) hn (fun aw blk' h ho=>ml _ (S.h.lt h ho)) (fun j h=>absurd h (da j))
  (fun b' _ aY=>heap_alloc_old w _ b' aY) (by simp) ⟨rfl,rfl⟩ (.inr S.size) (fun b' h=>(dC (h.flat (by simp))).symm)
  (fun _=> .map hu rfl dr rfl da (fun j e x he _=>by simp at he) (by simp))
 exact ⟨_,_,_,_,Go.RowKit.run_makeMap t w,a1,a2,.cN (bE _ _ _) (bE _ _ _)⟩
theorem Xc (S:aA P w I β hp B M w0) {t kt vt:TypeId} (ht:n7 P t=some (kt,vt)) {m k v:Value} {mx kx vx:V} {r:R} {rd:List Nat} (hm:ai P w I β hp m mx) (hk:ai P w I β hp k kx) (hv:ai P w I β hp v vx)
  (h:(Ih P t mx kx vx).run C hp=some (r,rd)):qQ P ((Instr.mapUpdate t m k v).run P w) w I β hp B M w0 r:=by
 unfold Ih at h;rw[ht] at h;obtain ⟨hc,h'⟩:=aD h;clear h;have h:=h';clear h';simp only[aK] at hc;obtain ⟨sn,Dp,xu⟩:=hc;have hu:=O1 ht;have zW:=hk.W6 sn;have oY:=ai.agJ Dp xu hv;have K:=OW sn;obtain ⟨l,hl⟩:=Jb sn zW;cases mx<;>simp only at h<;>first|(cases h;done)|skip
 rename_i t' id;obtain ⟨oj,h'⟩:=aD h;clear h;have h:=h';clear h';rw[aN] at oj;subst oj;obtain ⟨l2,h'⟩:=run_get h;clear h;have h:=h';clear h';cases ab:hp id with
 | none=>rw[ab] at h;cases h
 | some blk=>
  rw[ab] at h;cases blk<;>simp only at h<;>first|(cases h;done)|skip
  rename_i t2 es;obtain ⟨oj,h'⟩:=aD h;clear h;have h:=h';clear h';rw[aN] at oj;subst oj;obtain rfl:=aM h;cases hm with
  | jV hd=>grind
  | @cN _ _ b aL hd hb=>
   rw[ab] at hd;cases hd;have hr:=S.h.rel id _ ab;cases hr with
   | @map _ Xa Xb _ b' clock E jZ ay hh hs hI hx hn=>
    rw[hb] at ay;cases ay;rw[hu] at jZ;cases jZ;have aY:b<w.heap.size:=(vg.1 hh).1;have fin: ∀(E':Array MapEntry) (Dq:Nat),(Instr.mapUpdate t (.map (some b)) k v).run P w= .ok () {w with heap:=w.heap.setIfInBounds b (.map E' Dq)}→E'.size=(g9 kx vx es).length→
      (∀(j:Nat) (e:MapEntry) (x:V),E'[j]? =some e→(g9 kx vx es)[j]? =some x→Iw P kt vt e x)→E'.toList.Pairwise (fun a b=>a.key≠b.key)→
      qQ P ((Instr.mapUpdate t (.map (some b)) k v).run P w) w I β hp B M w0 ⟨.undef,[(id,.map t (g9 kx vx es))]⟩:=by
     intro E' Dq cI ub cW O3;have dr:({w with heap:=w.heap.setIfInBounds b (.map E' Dq)}:World).heap[b]? =some (.map E' Dq):=by simp[aY]
     obtain ⟨a1,a2⟩:=CR S (w':={w with heap:=w.heap.setIfInBounds b (.map E' Dq)}) (blk':= .map t (g9 kx vx es)) ab (by simp) rfl hb hI (by simp)
      (fun b' ay=>by grind) (by simp only[bsize,dr,hh]) (by simp) ⟨rfl,rfl⟩ (fun _=> .map hu rfl dr ub hI cW O3)
     exact ⟨_,I,β,cI,a1,a2,rfl⟩
    rcases W4 hs hx hn sn zW w with ⟨h1,h2,_,_,h5⟩|⟨j,e,k',y,h1,hE,hek,Wc,agN,agO,_,_,_,_,h5⟩
    ·have e5:=h5 vx;refine fin (E.push {key:=k,val:=v,born:=clock}) (clock+1) ?_ (by grind) (fun j e x he nh=> ?_) ?_
     ·unfold Instr.mapUpdate;simp only[Sem.run_bind,run_underlying hu,Result.andThen_ok,Go.MapKept.run_getObj_map hh,K.check w false hl,h1,Go.MapKept.run_setObj_map _ hh]
     ·rw[e5] at nh;rw[Array.getElem?_push] at he;split at he
      ·rename_i hj;rw[nU (by omega),hj,hs,Nat.sub_self] at nh;simp at he nh;subst he;subst nh;exact ⟨kx,vx,rfl,sn,zW,xu,oY⟩
      grind
     grind
    ·have e5:=h5 vx;have hj:j<E.size:=(vg.1 hE).1;refine fin (E.modify j fun e=>{e with key:=k,val:=v}) clock ?_ (by grind) (fun i e' x he lI=> ?_) ?_
     ·have ec:=K.stays w hl;unfold Instr.mapUpdate;simp only[Sem.run_bind,run_underlying hu,Result.andThen_ok,Go.MapKept.run_getObj_map hh,K.check w false hl,h1];simp only[hE,Option.map_some,Option.getD_some,hek,ec,Result.andThen_ok,Go.MapKept.run_setObj_map _ hh]
     ·rw[e5] at lI;rw[HT] at he;rw[B7] at lI;split at he
      ·rename_i O4;subst O4;rw[ak rfl,bu] at lI;rw[hE] at he;simp at he lI;subst he;subst lI;exact ⟨k',vx,rfl,agN,agO,xu,oY⟩
      grind
     ·have vS: ∀i (h1:i<(E.modify j fun e=>{e with key:=k,val:=v}).toList.length) (h2:i<E.toList.length),((E.modify j fun e=>{e with key:=k,val:=v}).toList[i]).key=(E.toList[i]).key:=by
       grind
      rw[HS] at hn⊢;grind
theorem agP (S:aA P w I β hp B M w0) {t ty kt vt:TypeId} {v:Value} {x:V} {r:R} {rd:List Nat} (hu:P.underlying t=some (.map kt vt)) (hv:ai P w I β hp v x)
  (h:(Ii x).run C hp=some (r,rd)):dg P ((Builtin.len_ #[t] ty #[v]).run P w) w I β hp B M w0 r:=by
 unfold Ii at h;cases x<;>simp only at h<;>first|(cases h;done)|skip
 ·rename_i t' id;obtain ⟨l2,h'⟩:=run_get h;clear h;have h:=h';clear h';cases ab:hp id with
  | none=>rw[ab] at h;cases h
  | some blk=>
   rw[ab] at h;cases blk<;>simp only at h<;>first|(cases h;done)|skip
   rename_i t2 es;obtain rfl:=aM h;cases hv with
   | jV hd=>grind
   | @cN _ _ b aL hd hb=>
    rw[ab] at hd;cases hd;have hr:=S.h.rel id _ ab;cases hr with
    | @map _ Xa Xb _ b' clock E jZ ay hh hs hI hx hn=>
     rw[hb] at ay;cases ay;refine .same S (v:= .int .i64 E.size) (by simp[Builtin.len_,run_underlying hu,Go.MapKept.run_getObj_map hh,goInt]) ?_;rw[hs];exact .int
 ·obtain rfl:=aM h;cases hv;exact .same S (v:= .int .i64 0) (by simp[Builtin.len_,run_underlying hu,goInt]) .int
theorem ai.O5 {v:Value} {t:TypeId} (h:ai P w I β hp v (.eu t)):v= .map none:=by cases h;rfl
theorem ai.agQ {v:Value} {t t':TypeId} {id:Nat} {es:List V} (h:ai P w I β hp v (.cN t id)) (ab:hp id=some (.map t' es)): ∃b,v= .map (some b):=by
 cases h with
 | jV h=>grind
 | cN h hb=>grind
theorem Xd (S:aA P w I β hp B M w0) {op:BinOp} {t:TypeId} {a:Option Nat} {r:R} {rd:List Nat} (x y:Operand)
  (h:(H9 P op t a.isNone).run C hp=some (r,rd)):dg P ((do eqGuard op t x y (.map a) (.map none);binOp op t (.map a) (.map none)).run P w) w I β hp B M w0 r:=by
 unfold H9 at h;split at h
 case h_2=>cases h
 rename_i kt vt hu;have he:(Op.equal t (.map a) (.map none)).run P w= .ok a.isNone w:=by
  show (Op.equalIn (9999+1) t (.map a) (.map none)).run P w=_;rw[Op.equalIn];cases a<;>simp[Sem.run_bind,run_underlying hu,Result.andThen_ok,Sem.run_pure]
 cases op<;>simp only at h<;>first|(cases h;done)|skip
 ·obtain rfl:=aM h;exact .same S (by simp[eqGuard,binOp,he]) .bool
 ·obtain rfl:=aM h;exact .same S (by simp[eqGuard,binOp,he]) .bool
end
end Go.AM
