/-
  Functions of the program, lifted to plain data.
-/
import Derived.Great.BuildSlice
import Derived.Maps.Keyed
import Derived.WideKeyArr
import Derived.MapKept
import Derived.ChangeMaps4
import Derived.Carry
import Derived.Lib.AppendStr
import Derived.Test.YtkfgodlgmlhbjaaGreatP1
set_option linter.unusedVariables false
set_option linter.unusedSimpArgs false
namespace Go.AM
section
variable {P:Program} {w w':World} {I I':Nat→Nat→Prop} {β β':Nat→Option Nat} {hp hp':Nat→Option ai} {C:ah} {B:Nat} {M:Nat→Prop} {w0:Start}
theorem m7.s8 {t:TypeId} {v:Value} {x:V} (h:m7 P w I t v x):fk P t x=x:=by
 cases h with
 | fB _ p=>exact p.s8
 | emp hu _=>exact oc hu
 | row hu _ _ _ _=>exact oc hu
theorem xH {new:List V} {e ea:TypeId} {i c:Nat} {q:Path} {es cF:List V} {x:V} (hx:es[i]? =some x) (hp:(parts P e x)[c]? =some (.list ea cF)):
  setRow P new e es ((i,c)::q)=es.set i (cS P e ((parts P e x).set c (.list ea (setRow P new ea cF q)))):=by
 simp only[setRow,hx,hp]
theorem A9 {b:Nat} {e t:TypeId} {es:List V} {i c:Nat} {x y:V} (hR:gm P w I b e es) (hx:es[i]? =some x) (ht:(aW P e)[c]? =some t):
  ∀{i' c':Nat} {x':V} {t':TypeId},(es.set i (cS P e ((parts P e x).set c y)))[i']? =some x'→(aW P e)[c']? =some t'→
   ∃x0,es[i']? =some x0∧bR P e x' c'=if i'=i∧c'=c then y else bR P e x0 c':=by
 intro i' c' x' t' cU ec
 have mq:i<es.length:=(bm.1 hx).1
 have uT:c<(aW P e).length:=(bm.1 ht).1
 have Fy:c'<(aW P e).length:=(bm.1 ec).1
 by_cases hi:i'=i
 ·subst hi
  rw[uw mq] at cU
  cases cU
  refine ⟨x,hx,?_⟩
  by_cases hc:c'=c
  ·subst hc
   rw[aj ⟨rfl,rfl⟩]
   exact rA (uw (by rw[xE];exact uT)) ec
  ·rw[an (fun h=>hc h.2)]
   have h1:((parts P e x).set c y)[c']? =some (fk P t' (bR P e x c')):=by
    rw[Ag (fun h=>hc h.symm)]
    exact oa ec
   rw[rA h1 ec]
   obtain ⟨Ca,_,_,rB⟩:=hR.cells
   obtain ⟨v,_,ho⟩:=rB i' c' x t' hx ec (by rw[←eR hR.ok];exact Fy)
   exact ho.s8
 ·rw[Ag (fun h=>hi h.symm)] at cU
  exact ⟨x',cU,by rw[an (fun h=>hi h.1)]⟩
theorem Fz {b b1:Nat} {e e1:TypeId} {es l l':List V} {p:Path} (h:At P w b e es p b1 e1 l) (hl:l'.length=l.length):(setRow P l' e es p).length=es.length:=by
 cases h with
 | here=>exact hl
 | step h1 U h3 h4 h5 h6 h7 h8=>
  rw[xH U (by rw[oa h3,h5,oc h4])]
  simp
theorem At.Zj {b b1:Nat} {e e1:TypeId} {es l l':List V} {p:Path} (JO:At P w b e es p b1 e1 l) (hw: ∀k,k≠b1→w'.heap[k]? =w.heap[k]?) (hl:l'.length=l.length):
  (∀q b' e' m,At P w b e es q b' e' m→gm P w I b' e' m)→(∀q e' m,At P w b e es q b1 e' m→q=p)→
  ∀q b' e' m,At P w' b e (setRow P l' e es p) q b' e' m→
   (∃r m0,p=q++r∧At P w b e es q b' e' m0∧m=setRow P l' e' m0 r)∨
   (∃r,r≠[]∧q=p++r∧At P w' b1 e1 l' r b' e' m)∨
   (At P w b e es q b' e' m∧b'≠b1∧¬q <+: p∧¬p <+: q):=by
 induction JO with
 | here=>
  intro cO kf q b' e' m h
  cases q with
  | nil=>cases h with|here=>exact .inl ⟨[],_,rfl,.here,rfl⟩
  | cons a q=>exact .inr (.inl ⟨a::q,by simp,rfl,h⟩)
 | @step b i c b2 len cap b1 e t ea e1 es cF l p Ca T f x h1 U h3 h4 h5 h6 h7 h8 ih=>
  intro cO kf q b' e' m h
  have lG:(parts P e x)[c]? =some (.list ea cF):=by rw[oa h3,h5,oc h4]
  rw[xH U lG] at h
  have hR:=cO _ _ _ _ .here
  have hb:b≠b1:=by
   intro hb
   subst hb
   have:=kf [] _ _ .here
   cases this
  have iC:=ih hw hl (fun q b' e' m h=>cO _ _ _ _ (.step h1 U h3 h4 h5 h6 h7 h)) (fun q e' m h=>by
   have:=kf _ _ _ (.step h1 U h3 h4 h5 h6 h7 h)
   exact (gS this).2)
  cases h with
  | here=>exact .inl ⟨_,es,rfl,.here,(xH U lG).symm⟩
  | @step _ i' c' b3 Zk Qz _ _ t' e3 _ _ kQ _ q AX T' f' x' k1 k2 k3 k4 k5 k6 k7 k8=>
   rw[hw b hb] at k1
   obtain ⟨x0,y1,y2⟩:=A9 hR U h3 k2 k3
   by_cases gH:i'=i∧c'=c
   ·rw[aj gH] at y2
    obtain ⟨rfl,rfl⟩:=gH
    rw[h1] at k1;cases k1
    rw[h7] at k7;cases k7
    rw[k5] at y2
    cases y2
    rcases iC _ _ _ _ k8 with ⟨r,m0,z1,z2,z3⟩|⟨r,z1,z2,z3⟩|⟨z1,z2,z3,z4⟩
    ·exact .inl ⟨r,m0,by rw[z1];rfl,.step h1 U h3 h4 h5 h6 h7 z2,z3⟩
    ·exact .inr (.inl ⟨r,z1,by rw[z2];rfl,z3⟩)
    ·refine .inr (.inr ⟨.step h1 U h3 h4 h5 h6 h7 z1,z2,fun hh=>z3 ?_,fun hh=>z4 ?_⟩)
     ·exact (sC.1 hh).2
     ·exact (sC.1 hh).2
   ·rw[an gH,k5] at y2
    have bq: ∀q2 b5 e5 gY,At P w b3 e3 kQ q2 b5 e5 gY→b5≠b1:=by
     intro q2 b5 e5 gY hq u0
     subst u0
     have:=kf _ _ _ (.step k1 y1 k3 k4 y2.symm k6 k7 hq)
     injection this with h1 U
     injection h1 with h1 h3
     exact gH ⟨h1,h3⟩
    have kU:=k8.s0 (w:=w) fun q2 b5 e5 gY hq=>hw b5 (bq q2 b5 e5 gY hq)
    refine .inr (.inr ⟨.step k1 y1 k3 k4 y2.symm k6 k7 kU,bq _ _ _ _ kU,fun hh=> ?_,fun hh=> ?_⟩)
    ·have:=(sC.1 hh).1
     injection this with h1 h3
     exact gH ⟨h1,h3⟩
    ·have:=(sC.1 hh).1
     injection this with h1 h3
     exact gH ⟨h1.symm,h3.symm⟩
theorem At.tc {b b1:Nat} {e e1:TypeId} {es l l':List V} {p:Path} (JO:At P w b e es p b1 e1 l) (hw: ∀k,k≠b1→w'.heap[k]? =w.heap[k]?) (hl:l'.length=l.length):
  (∀q b' e' m,At P w b e es q b' e' m→gm P w I b' e' m)→(∀q e' m,At P w b e es q b1 e' m→q=p)→
  ∀q b' e' m,At P w b e es q b' e' m→
   (∃r,p=q++r∧At P w' b e (setRow P l' e es p) q b' e' (setRow P l' e' m r)∧∃Zl m1,At P w b' e' m r b1 Zl m1∧m1=l)∨
   (∃r,r≠[]∧q=p++r∧At P w b1 e1 l r b' e' m∧(∀b2 e2 m2,At P w' b1 e1 l' r b2 e2 m2→At P w' b e (setRow P l' e es p) q b2 e2 m2))∨
   (At P w' b e (setRow P l' e es p) q b' e' m∧b'≠b1∧¬q <+: p∧¬p <+: q):=by
 induction JO with
 | here=>
  intro cO kf q b' e' m h
  cases q with
  | nil=>cases h with|here=>exact .inl ⟨[],rfl,.here,_,_,.here,rfl⟩
  | cons a q=>exact .inr (.inl ⟨a::q,by simp,rfl,h,fun _ _ _ h=>h⟩)
 | @step b i c b2 len cap b1 e t ea e1 es cF l p Ca T f x h1 U h3 h4 h5 h6 h7 h8 ih=>
  intro cO kf q b' e' m h
  have lG:(parts P e x)[c]? =some (.list ea cF):=by rw[oa h3,h5,oc h4]
  have uJ:=xH (new:=l') (q:=p) U lG
  have hR:=cO _ _ _ _ .here
  have mq:i<es.length:=(bm.1 U).1
  have hb:b≠b1:=by
   intro hb
   subst hb
   have:=kf [] _ _ .here
   cases this
  have iC:=ih hw hl (fun q b' e' m h=>cO _ _ _ _ (.step h1 U h3 h4 h5 h6 h7 h)) (fun q e' m h=>by
   have:=kf _ _ _ (.step h1 U h3 h4 h5 h6 h7 h)
   exact (gS this).2)
  have ka:=(hw b hb).trans h1
  have FA:(es.set i (cS P e ((parts P e x).set c (.list ea (setRow P l' ea cF p)))))[i]? =some (cS P e ((parts P e x).set c (.list ea (setRow P l' ea cF p)))):=uw mq
  have JP:bR P e (cS P e ((parts P e x).set c (.list ea (setRow P l' ea cF p)))) c= .list ea (setRow P l' ea cF p):=by
   obtain ⟨x0,y1,y2⟩:=A9 hR U h3 FA h3
   rw[aj ⟨rfl,rfl⟩] at y2
   exact y2
  have gI:0<(setRow P l' ea cF p).length:=by rw[Fz h8 hl];exact h6
  cases h with
  | here=>
   exact .inl ⟨(i,c)::p,rfl,.here,_,_,.step h1 U h3 h4 h5 h6 h7 h8,rfl⟩
  | @step _ i' c' b3 Zk Qz _ _ t' e3 _ _ kQ _ q AX T' f' x' k1 k2 k3 k4 k5 k6 k7 k8=>
   rw[uJ]
   by_cases gH:i'=i∧c'=c
   ·obtain ⟨rfl,rfl⟩:=gH
    rw[h1] at k1;cases k1
    rw[h7] at k7;cases k7
    rw[h3] at k3;cases k3
    rw[h4] at k4;cases k4
    rw[U] at k2;cases k2
    rw[h5] at k5;cases k5
    rcases iC _ _ _ _ k8 with ⟨r,z1,z2,z3⟩|⟨r,z1,z2,z3,z4⟩|⟨z1,z2,z3,z4⟩
    ·exact .inl ⟨r,by rw[z1];rfl,.step ka FA h3 h4 JP gI h7 z2,z3⟩
    ·exact .inr (.inl ⟨r,z1,by rw[z2];rfl,z3,fun b2 e2 m2 hh=> .step ka FA h3 h4 JP gI h7 (z4 b2 e2 m2 hh)⟩)
    ·refine .inr (.inr ⟨.step ka FA h3 h4 JP gI h7 z1,z2,fun hh=>z3 ?_,fun hh=>z4 ?_⟩)
     ·exact (sC.1 hh).2
     ·exact (sC.1 hh).2
   ·have bq: ∀q2 b5 e5 gY,At P w b3 e3 kQ q2 b5 e5 gY→b5≠b1:=by
     intro q2 b5 e5 gY hq u0
     subst u0
     have:=kf _ _ _ (.step k1 k2 k3 k4 k5 k6 k7 hq)
     injection this with h1 U
     injection h1 with h1 h3
     exact gH ⟨h1,h3⟩
    have kU:=k8.mono (w':=w') fun q2 b5 e5 gY hq=>hw b5 (bq q2 b5 e5 gY hq)
    have JQ: ∃x2,(es.set i (cS P e ((parts P e x).set c (.list ea (setRow P l' ea cF p)))))[i']? =some x2:=by
     have:i'<es.length:=(bm.1 k2).1
     exact ⟨_,bA (by rw[mT];exact this)⟩
    obtain ⟨x2,mu⟩:=JQ
    obtain ⟨x0,y1,y2⟩:=A9 hR U h3 mu k3
    rw[an gH] at y2
    rw[k2] at y1;cases y1
    rw[k5] at y2
    refine .inr (.inr ⟨.step ((hw b hb).trans k1) mu k3 k4 y2 k6 k7 kU,bq _ _ _ _ k8,fun hh=> ?_,fun hh=> ?_⟩)
    ·have:=(sC.1 hh).1
     injection this with h1 h3
     exact gH ⟨h1,h3⟩
    ·have:=(sC.1 hh).1
     injection this with h1 h3
     exact gH ⟨h1.symm,h3.symm⟩
theorem At.fun {b b1:Nat} {e e1:TypeId} {es l:List V} {q:Path} (h:At P w b e es q b1 e1 l): ∀{b2 e2 l2},At P w b e es q b2 e2 l2→b2=b1∧e2=e1∧l2=l:=by
 induction h with
 | here=>intro b2 e2 l2 U;cases U;exact ⟨rfl,rfl,rfl⟩
 | step h1 U h3 h4 h5 h6 h7 h8 ih=>
  intro b2 e2 l2 k
  cases k with
  | step k1 k2 k3 k4 k5 k6 k7 k8=>
   rw[h1] at k1;cases k1
   rw[h7] at k7;cases k7
   rw[U] at k2;cases k2
   rw[h5] at k5;cases k5
   exact ih k8
theorem At.split: ∀{q r:Path} {b b1:Nat} {e e1:TypeId} {es l:List V},At P w b e es (q++r) b1 e1 l→∃b' e' m,At P w b e es q b' e' m∧At P w b' e' m r b1 e1 l
 | [],r,b,b1,e,e1,es,l,h=>⟨_,_,_,.here,h⟩
 | a::q,r,b,b1,e,e1,es,l,h=>by
  cases h with
  | step h1 U h3 h4 h5 h6 h7 h8=>
   obtain ⟨b',e',m,k1,k2⟩:=At.split h8
   exact ⟨b',e',m,.step h1 U h3 h4 h5 h6 h7 k1,k2⟩
theorem gm.cx {b:Nat} {e:TypeId} {es:List V} (h:gm P w I b e es) (hw:w'.heap[b]? =w.heap[b]?) (hI: ∀k j,I k j→w'.cell? ⟨k,j,none⟩=w.cell? ⟨k,j,none⟩) (iA: ∀k,bsize w' k=bsize w k):gm P w' I b e es:=by
 obtain ⟨ok,⟨Ca,c1,c2,c3⟩,nI⟩:=h
 refine ⟨ok,⟨Ca,hw.trans c1,c2,fun i j x t' k1 k2 k3=> ?_⟩,nI⟩
 obtain ⟨v,m1,m2⟩:=c3 i j x t' k1 k2 k3
 exact ⟨v,m1,m2.mono (fun _ _ h=>h) hI fun b' _ _ _ _=>iA b'⟩
theorem gm.Zm {b b1 b2 i c len cap:Nat} {e e1 t ea:TypeId} {es cF l l':List V} {r:Path} {Ca:Array Value} {T:TypeId} {f:Nat × Nat} {x:V} (hR:gm P w I b e es)
  (h1:w.heap[b]? =some (.cells Ca T f)) (U:es[i]? =some x) (h3:(aW P e)[c]? =some t) (h4:P.underlying t=some (.slice ea)) (h5:bR P e x c= .list ea cF) (h6:0<cF.length)
  (h7:Ca[i*P.cellsOf e+c]? =some (.slice (some ⟨b2,0,none⟩) len cap)) (h8:At P w b2 ea cF r b1 e1 l) (hl:l'.length=l.length)
  (hw:w'.heap[b]? =w.heap[b]?) (hI: ∀k j,I k j→w'.cell? ⟨k,j,none⟩=w.cell? ⟨k,j,none⟩) (iA: ∀k,bsize w' k=bsize w k):gm P w' I b e (setRow P l' e es ((i,c)::r)):=by
 have lG:(parts P e x)[c]? =some (.list ea cF):=by rw[oa h3,h5,oc h4]
 rw[xH U lG]
 have Zn:=hR
 obtain ⟨ok,⟨AX,c1,c2,c3⟩,nI⟩:=hR
 rw[h1] at c1;cases c1
 refine ⟨ok,⟨Ca,hw.trans h1,by simpa using c2,fun i' j x' t' k1 k2 k3=> ?_⟩,nI⟩
 obtain ⟨x0,y1,y2⟩:=A9 Zn U h3 k1 k2
 obtain ⟨v,m1,m2⟩:=c3 i' j x0 t' y1 k2 k3
 refine ⟨v,m1,?_⟩
 have m3:m7 P w' I t' v (bR P e x0 j):=m2.mono (fun _ _ h=>h) hI fun b' _ _ _ _=>iA b'
 rw[y2]
 by_cases gH:i'=i∧j=c
 ·rw[aj gH]
  obtain ⟨rfl,rfl⟩:=gH
  rw[U] at y1;cases y1
  rw[h3] at k2;cases k2
  rw[h5] at m3
  have hlen:=Fz (l':=l') h8 hl
  generalize hy:V.list ea cF=y at m3
  cases m3 with
  | fB a p=>unfold eu at a;rw[h4] at a;cases a
  | emp a bb=>cases hy;simp at h6
  | row a b c d e=>
   cases hy
   rw[←hlen]
   exact .row a (by omega) c (by omega) e
 ·rw[an gH]
  exact m3
theorem Zo (S:aC P w I β hp B M w0) {id b b1 i c:Nat} {e0 e1:TypeId} {es l l':List V} {vers vers':List Nat} {path:Path} (K:Path→Nat→TypeId→List V→Prop)
  (ab:hp id=some (.nest e0 es vers)) (hb:β id=some b) (ha:At P w b e0 es path b1 e1 l) (hl:l'.length=l.length)
  (hw: ∀k,k≠b1→w'.heap[k]? =w.heap[k]?) (iA: ∀k,bsize w' k=bsize w k) (aU:w'.heap.size=w.heap.size) (lF:w'.os=w.os∧w'.output=w.output)
  (Zp:gm P w' I b1 e1 l')
  (QA: ∀a r b' e' m,At P w' b1 e1 l' (a::r) b' e' m→b'≠b1∧(At P w b1 e1 l (a::r) b' e' m∨(a=(i,c)∧K r b' e' m)))
  (hK: ∀r b' e' m,K r b' e' m→gm P w I b' e' m∧(M b'∨B≤b')∧(∀bL cv,hp bL=some cv→¬bh P w (β bL) cv b'))
  (td: ∀r1 r2 b' e1 m1 e2 m2,K r1 b' e1 m1→K r2 b' e2 m2→r1=r2)
  (uO:vers'.length=vers.length) (uP: ∀k,bO vers k≤bO vers' k)
  (u3: ∀(r:Path) i' c' t' v ea l0,(path++r).length<vers.length→bO vers' (path++r).length=bO vers (path++r).length→P.underlying t'=some (.slice ea)→mZ P w b1 e1 l r i' c' t' v (.list ea l0)→
   ∃xI,xI.length=l0.length∧mZ P w' b1 e1 l' r i' c' t' v (.list ea xI)):
  Le P w I β hp w' I β (ax hp id (some (.nest e0 (setRow P l' e0 es path) vers')))∧aC P w' I β (ax hp id (some (.nest e0 (setRow P l' e0 es path) vers'))) B M w0:=by
 have hr:=S.h.rel id _ ab
 rw[hb] at hr
 cases hr with
 | fL az=>cases az
 | nest az cO mw=>
 cases az
 have kf: ∀q e' m,At P w b e0 es q b1 e' m→q=path:=fun q e' m h=>mw _ _ _ _ _ _ _ h ha
 have cW: ∀j,¬I b1 j:=(cO _ _ _ _ ha).nI
 have te: ∀k j,I k j→w'.cell? ⟨k,j,none⟩=w.cell? ⟨k,j,none⟩:=fun k j hk=>World.cell?_of_block (hw k (fun e=>cW j (e▸hk)))
 have QB:bh P w (β id) (.nest e0 es vers) b1:= .row hb ha
 have same: ∀{aw cv b'},aw≠id→hp aw=some cv→bh P w (β aw) cv b'→w'.heap[b']? =w.heap[b']? :=
  fun hi h ho=>hw _ fun e=>hi (S.h.inj _ _ _ _ b1 h ab (e▸ho) QB)
 have ql:(setRow P l' e0 es path).length=es.length:=Fz ha hl
 have tc:=At.Zj (I:=I) (w':=w') (l':=l') ha hw hl cO kf
 have JR: ∀q b' e' m,At P w' b e0 (setRow P l' e0 es path) q b' e' m→(∃e2 m2,At P w b e0 es q b' e2 m2)∨∃r,q=path++(i,c)::r∧K r b' e' m:=by
  intro q b' e' m h
  rcases tc q b' e' m h with ⟨r,m0,z1,z2,z3⟩|⟨r,z1,z2,z3⟩|⟨z1,z2,z3,z4⟩
  ·exact .inl ⟨_,_,z2⟩
  ·cases r with
   | nil=>exact absurd rfl z1
   | cons a r=>
    obtain ⟨y1,y2⟩:=QA a r b' e' m z3
    rcases y2 with y2|⟨rfl,y2⟩
    ·exact .inl ⟨_,_,by rw[z2];exact ha.app y2⟩
    ·exact .inr ⟨r,z2,y2⟩
  ·exact .inl ⟨_,_,z1⟩
 have xJ: ∀b',bh P w' (β id) (.nest e0 (setRow P l' e0 es path) vers') b'→bh P w (β id) (.nest e0 es vers) b'∨((M b'∨B≤b')∧∀bL cv,hp bL=some cv→¬bh P w (β bL) cv b'):=by
  intro b' ho
  cases ho with
  | root _ h=>exact .inl (.root (by simp) h)
  | row h1 U=>
   rw[hb] at h1;cases h1
   rcases JR _ _ _ _ U with ⟨e2,m2,h⟩|⟨r,_,h⟩
   ·exact .inl (.row hb h)
   ·exact .inr (hK _ _ _ _ h).2
 have hle:Le P w I β hp w' I β (ax hp id (some (.nest e0 (setRow P l' e0 es path) vers'))):=by
  refine ⟨fun _ _ h=>h,te,fun aw cv h=> ?_,fun aw cv iy b' h h3 Y1 az=>iA b',fun aw e ct vs e' aN vs' b2 q i' c' t v ea l0 h h' fp aJ hv ht hc=> ?_⟩
  ·by_cases hi:aw=id
   ·subst hi
    rw[ab] at h
    cases h
    exact ⟨_,bS _ _ _,⟨rfl,ql.symm,uO.symm,uP⟩,fun _=>rfl⟩
   ·exact ⟨cv,by rw[cy _ _ hi];exact h,ai.le_refl _,fun _=>rfl⟩
  ·by_cases hi:aw=id
   ·subst hi
    rw[ab] at h;cases h
    rw[bS] at h';cases h'
    rw[hb] at fp;cases fp
    obtain ⟨b',e',m,Ca,T,f,x,k1,k2,k3,k4,k5,k6⟩:=hc
    rcases At.tc (I:=I) (w':=w') (l':=l') ha hw hl cO kf q b' e' m k1 with ⟨r,z1,z2,e2,m2,z3,_⟩|⟨r,z1,z2,z3,z4⟩|⟨z1,z2,z3,z4⟩
    ·cases r with
     | nil=>
      cases z3
      rw[dr] at z1
      subst z1
      obtain ⟨w1,w2,w3⟩:=ha.fun k1
      subst w2;subst w3
      obtain ⟨xI,g1,g2⟩:=u3 [] i' c' t v ea l0 (by simpa using aJ) (by simpa using hv) ht ⟨_,_,_,Ca,T,f,x,.here,k2,k3,k4,k5,k6⟩
      refine ⟨xI,g1,?_⟩
      obtain ⟨b5,e5,gY,C5,T5,f5,x5,q1,q2,q3,q4,q5,q6⟩:=g2
      cases q1
      exact ⟨_,_,_,C5,T5,f5,x5,z2,q2,q3,q4,q5,q6⟩
     | cons a r=>
      cases z3 with
      | @step _ i2 c2 b3 len cap _ _ t3 JS _ _ kQ _ r Ca3 T3 f3 x3 g1 g2 g3 g4 g5 g6 g7 g8=>
       have az:b'≠b1:=by
        intro e
        subst e
        have:=kf _ _ _ k1
        rw[this] at z1
        have:=congrArg List.length z1
        simp at this
       have lG:(parts P e' x3)[c2]? =some (.list JS kQ):=by rw[oa g3,g5,oc g4]
       rw[xH g2 lG] at z2
       have JQ: ∃x2,(m.set i2 (cS P e' ((parts P e' x3).set c2 (.list JS (setRow P l' JS kQ r)))))[i']? =some x2:=by
        have:i'<m.length:=(bm.1 k3).1
        exact ⟨_,bA (by rw[mT];exact this)⟩
       obtain ⟨x2,mu⟩:=JQ
       obtain ⟨x0,y1,y2⟩:=A9 (cO _ _ _ _ k1) g2 g3 mu k4
       rw[k3] at y1;cases y1
       have Zq:=(ha.fun ((k1.app (.step g1 g2 g3 g4 g5 g6 g7 g8)) |> fun h=>by rw[z1];exact h)).2.2
       by_cases gH:i'=i2∧c'=c2
       ·rw[aj gH] at y2
        obtain ⟨rfl,rfl⟩:=gH
        rw[k3] at g2;cases g2
        rw[k5] at g5;cases g5
        exact ⟨_,Fz g8 (by rw[hl,Zq]),b',e',_,Ca,T,f,x2,z2,(hw b' az).trans k2,mu,k4,y2,k6⟩
       ·rw[an gH,k5] at y2
        exact ⟨l0,rfl,b',e',_,Ca,T,f,x2,z2,(hw b' az).trans k2,mu,k4,y2,k6⟩
    ·subst z2
     obtain ⟨xI,g1,g2⟩:=u3 r i' c' t v ea l0 aJ hv ht ⟨_,_,_,Ca,T,f,x,z3,k2,k3,k4,k5,k6⟩
     obtain ⟨b5,e5,gY,C5,T5,f5,x5,q1,q2,q3,q4,q5,q6⟩:=g2
     exact ⟨xI,g1,_,_,_,C5,T5,f5,x5,z4 _ _ _ q1,q2,q3,q4,q5,q6⟩
    ·exact ⟨l0,rfl,b',e',m,Ca,T,f,x,z1,(hw b' z2).trans k2,k3,k4,k5,k6⟩
   ·rw[cy _ _ hi,h] at h'
    cases h'
    exact ⟨l0,rfl,hc.mono fun _ _ _ _ hh=>same hi h (.row fp hh)⟩
 have hold: ∀{aw cv b'},ax hp id (some (.nest e0 (setRow P l' e0 es path) vers')) aw=some cv→bh P w' (β aw) cv b'→
   (∃iy,hp aw=some iy∧bh P w (β aw) iy b')∨(aw=id∧(M b'∨B≤b')∧∀bL cv,hp bL=some cv→¬bh P w (β bL) cv b'):=by
  intro aw cv b' h ho
  by_cases hi:aw=id
  ·subst hi
   rw[bS] at h
   cases h
   rcases xJ b' ho with h|h
   ·exact .inl ⟨_,ab,h⟩
   ·exact .inr ⟨rfl,h⟩
  ·rw[cy _ _ hi] at h
   exact .inl ⟨cv,h,ho.mono fun b2 ml=>same hi h ml⟩
 refine ⟨hle,⟨⟨fun aw cv h=> ?_,fun i1 i2 b1 b2 b' h1 U o1 o2=> ?_,fun aw cv b' h ho=> ?_,fun b' h=>by rw[aU];exact S.h.gF b' h⟩,fun b' h1 U=> ?_,by rw[aU];exact S.size,S.new,⟨lF.1.trans S.io.1,lF.2.trans S.io.2⟩⟩⟩
 ·by_cases hi:aw=id
  ·subst hi
   rw[bS] at h
   cases h
   rw[hb]
   refine .nest rfl (fun q b' e' m h=> ?_) (fun q1 q2 b' f1 m1 f2 m2 h1 U=> ?_)
   ·rcases tc q b' e' m h with ⟨r,m0,z1,z2,z3⟩|⟨r,z1,z2,z3⟩|⟨z1,z2,z3,z4⟩
    ·subst z3
     subst z1
     obtain ⟨b5,e5,m5,g1,g2⟩:=At.split ha
     obtain ⟨w1,w2,w3⟩:=g1.fun z2
     subst w1;subst w2;subst w3
     cases r with
     | nil=>cases g2;exact Zp
     | cons a r=>
      cases g2 with
      | step Zr g2 g3 g4 g5 g6 g7 g8=>
       refine (cO _ _ _ _ z2).Zm Zr g2 g3 g4 g5 g6 g7 g8 hl (hw _ fun e=> ?_) te iA
       subst e
       have:=kf _ _ _ z2
       have:=congrArg List.length this
       simp at this
    ·cases r with
     | nil=>exact absurd rfl z1
     | cons a r=>
      obtain ⟨y1,y2⟩:=QA a r b' e' m z3
      rcases y2 with y2|⟨rfl,y2⟩
      ·exact (cO _ _ _ _ (ha.app y2)).cx (hw _ y1) te iA
      ·exact (hK _ _ _ _ y2).1.cx (hw _ y1) te iA
    ·exact (cO _ _ _ _ z1).cx (hw _ z2) te iA
   ·rcases JR _ _ _ _ h1 with ⟨e2,m2',x1⟩|⟨r1,x1,x2⟩<;>rcases JR _ _ _ _ U with ⟨e3,m3',y1⟩|⟨r2,y1,y2⟩
    ·exact mw _ _ _ _ _ _ _ x1 y1
    ·exact absurd (bh.row hb x1) ((hK _ _ _ _ y2).2.2 _ _ ab)
    ·exact absurd (bh.row hb y1) ((hK _ _ _ _ x2).2.2 _ _ ab)
    ·rw[x1,y1,td _ _ _ _ _ _ _ x2 y2]
  ·rw[cy _ _ hi] at h
   exact (S.h.rel aw cv h).mono hle fun b' ho=>⟨same hi h ho,fun _ h=>h⟩
 ·rcases hold h1 o1 with ⟨c1,x1,y1⟩|⟨rfl,x1,y1⟩<;>rcases hold U o2 with ⟨c2,x2,y2⟩|⟨rfl,x2,y2⟩
  ·exact S.h.inj i1 i2 c1 c2 b' x1 x2 y1 y2
  ·exact absurd y1 (y2 _ _ x1)
  ·exact absurd y2 (y1 _ _ x2)
  ·rfl
 ·rcases hold h ho with ⟨c1,x1,y1⟩|⟨rfl,x1,y1⟩
  ·exact S.h.own aw c1 b' x1 y1
  ·exact x1
 ·rw[hw b' fun e=> ?_]
  ·exact S.cx b' h1 U
  ·subst e
   rcases S.h.own id _ b' ab QB with h|h
   ·exact U h
   ·omega
theorem Zs {i i' n c c' k:Nat} (hc':c'<n) (nf:c+k≤n) (h1:i*n+c≤i'*n+c') (U:i'*n+c'<i*n+c+k):i'=i∧c≤c'∧c'<c+k:=by
 have:i'=i:=by
  rcases Nat.lt_trichotomy i' i with h|h|h
  ·have:=dF n (Nat.succ_le_of_lt h)
   rw[Nat.succ_mul] at this
   omega
  ·exact h
  ·have:=dF n (Nat.succ_le_of_lt h)
   rw[Nat.succ_mul] at this
   omega
 subst this
 omega
theorem Zt {b1 i c:Nat} {e1:TypeId} {l cs:List V} {x0:V} {Ca:Array Value} {vs:List Value} (hR:gm P w I b1 e1 l) (hh:w.heap[b1]? =some (.cells Ca e1 (0,0))) (hs:l.length*P.cellsOf e1≤Ca.size)
  (hx:l[i]? =some x0) (hk:cs.length=vs.length) (nf:c+cs.length≤P.cellsOf e1):
  ∀{i' c':Nat} {x':V} {t':TypeId},(l.set i (cS P e1 (gj (parts P e1 x0) c cs)))[i']? =some x'→(aW P e1)[c']? =some t'→
   ∃x1,l[i']? =some x1∧((∃j y u,i'=i∧c'=c+j∧cs[j]? =some y∧vs[j]? =some u∧bR P e1 x' c'=y∧(Ca.toList.take (i*P.cellsOf e1+c)++(vs++Ca.toList.drop (i*P.cellsOf e1+c+vs.length))).toArray[i'*P.cellsOf e1+c']? =some u)∨
    (bR P e1 x' c'=bR P e1 x1 c'∧(Ca.toList.take (i*P.cellsOf e1+c)++(vs++Ca.toList.drop (i*P.cellsOf e1+c+vs.length))).toArray[i'*P.cellsOf e1+c']? =Ca[i'*P.cellsOf e1+c']?)):=by
 intro i' c' x' t' cU ec
 have mq:i<l.length:=(bm.1 hx).1
 have Fy:c'<P.cellsOf e1:=by rw[←eR hR.ok];exact (bm.1 ec).1
 have ch:(parts P e1 x0).length=P.cellsOf e1:=by rw[xE];exact eR hR.ok
 have hbound:i*P.cellsOf e1+c+vs.length≤Ca.toList.length:=by
  have:(i+1)*P.cellsOf e1≤l.length*P.cellsOf e1:=dF _ mq
  rw[dG] at this
  simp only[Array.length_toList]
  omega
 simp only[jG]
 rw[od _ _ _ _ hbound]
 by_cases mr:i'=i∧c≤c'∧c'<c+cs.length
 ·obtain ⟨rfl,h1,U⟩:=mr
  rw[uw mq] at cU
  cases cU
  refine ⟨x0,hx,.inl ?_⟩
  rw[aM,bf,show i'*P.cellsOf e1+c'-(i'*P.cellsOf e1+c)=c'-c by omega]
  have hy:cs[c'-c]? =some cs[c'-c]:=bA (by omega)
  have hu:vs[c'-c]? =some vs[c'-c]:=bA (by omega)
  refine ⟨c'-c,_,_,rfl,by omega,hy,hu,?_,hu⟩
  refine rA ?_ ec
  unfold gj
  rw[od _ _ _ _ (by omega),aM,bf]
  exact hy
 ·have QC: ¬(i*P.cellsOf e1+c≤i'*P.cellsOf e1+c'∧i'*P.cellsOf e1+c'<i*P.cellsOf e1+c+vs.length):=fun h=>mr (Zs Fy nf h.1 (by omega))
  have hg:(if i'*P.cellsOf e1+c'<i*P.cellsOf e1+c then Ca.toList[i'*P.cellsOf e1+c']? else if i'*P.cellsOf e1+c'<i*P.cellsOf e1+c+vs.length then vs[i'*P.cellsOf e1+c'-(i*P.cellsOf e1+c)]? else Ca.toList[i'*P.cellsOf e1+c']?)=Ca[i'*P.cellsOf e1+c']? :=by
   by_cases h1:i'*P.cellsOf e1+c'<i*P.cellsOf e1+c
   ·rw[aj h1];simp
   ·rw[an h1,aM];simp
  by_cases hi:i'=i
  ·subst hi
   rw[uw mq] at cU
   cases cU
   refine ⟨x0,hx,.inr ⟨?_,hg⟩⟩
   have h1:(gj (parts P e1 x0) c cs)[c']? =some (fk P t' (bR P e1 x0 c')):=by
    unfold gj
    rw[od _ _ _ _ (by omega)]
    by_cases h1:c'<c
    ·rw[aj h1];exact oa ec
    ·rw[an h1,aM];exact oa ec
   rw[rA h1 ec]
   obtain ⟨AX,_,_,rB⟩:=hR.cells
   obtain ⟨v,_,ho⟩:=rB i' c' x0 t' hx ec Fy
   exact ho.s8
  ·rw[Ag (fun h=>hi h.symm)] at cU
   exact ⟨x',cU,.inr ⟨rfl,hg⟩⟩
theorem Zu {w:World} {b1:Nat} {Ca Cb:Array Value} {T:TypeId} (hh:w.heap[b1]? =some (.cells Ca T (0,0))) (hs:Cb.size=Ca.size) (k:Nat):bsize (w.setRow b1 Cb) k=bsize w k:=by
 by_cases hk:k=b1
 ·subst hk
  rw[jL (setRow_heap w k Ca Cb T (0,0) hh),jL hh,hs]
 ·simp only[bsize,setRow_other w b1 k Cb hk]
theorem FB (S:aC P w I β hp B M w0) {t:TypeId} {v:Value} {id b b1 i c:Nat} {e0 e1:TypeId} {es l cs:List V} {vers vers':List Nat} {path:Path} {x0:V} (K:Path→Nat→TypeId→List V→Prop)
  (ab:hp id=some (.nest e0 es vers)) (hb:β id=some b) (ha:At P w b e0 es path b1 e1 l) (ht:nU P t=true) (hn:P.cellsOf t=v.cells.size)
  (hx:l[i]? =some x0) (hk:cs.length=v.cells.size) (nf:c+cs.length≤P.cellsOf e1) (h1: ∀u∈v.cells.toList,u.oneCell'=true)
  (dt: ∀(j:Nat) y u t',cs[j]? =some y→v.cells.toList[j]? =some u→(aW P e1)[c+j]? =some t'→m7 P w I t' u y)
  (Zv: ∀(j:Nat) y u t' e3 kQ b3 len cap,cs[j]? =some y→v.cells.toList[j]? =some u→(aW P e1)[c+j]? =some t'→P.underlying t'=some (.slice e3)→y= .list e3 kQ→0<kQ.length→
   u= .slice (some ⟨b3,0,none⟩) len cap→j=0∧∀r b' e' m,At P w b3 e3 kQ r b' e' m→b'≠b1∧K r b' e' m)
  (hK: ∀r b' e' m,K r b' e' m→gm P w I b' e' m∧(M b'∨B≤b')∧(∀bL cv,hp bL=some cv→¬bh P w (β bL) cv b'))
  (td: ∀r1 r2 b' e1 m1 e2 m2,K r1 b' e1 m1→K r2 b' e2 m2→r1=r2)
  (uO:vers'.length=vers.length) (uP: ∀k,bO vers k≤bO vers' k)
  (kV:(∀(j:Nat) t',j<cs.length→(aW P e1)[c+j]? =some t'→eu P t'=true)∨∀k,path.length≤k→k<vers.length→bO vers' k≠bO vers k):
  ∃w',(Instr.storeAt t (.pointer (some ⟨b1,i*P.cellsOf e1+c,none⟩)) v).run P w= .ok () w'∧
   Le P w I β hp w' I β (ax hp id (some (.nest e0 (setRow P (l.set i (cS P e1 (gj (parts P e1 x0) c cs))) e0 es path) vers')))∧
   aC P w' I β (ax hp id (some (.nest e0 (setRow P (l.set i (cS P e1 (gj (parts P e1 x0) c cs))) e0 es path) vers'))) B M w0:=by
 have hR:=S.rows ab hb ha
 obtain ⟨Ca,hh,hs,rB⟩:=hR.cells
 have mq:i<l.length:=(bm.1 hx).1
 have dj:cs.length=v.cells.toList.length:=by simpa using hk
 have JM:i*P.cellsOf e1+c+v.cells.size≤Ca.size:=by
  have:(i+1)*P.cellsOf e1≤l.length*P.cellsOf e1:=dF _ mq
  rw[dG] at this
  omega
 have cG:=JK (t:=t) (o:=i*P.cellsOf e1+c) (v:=v) ht hn hh JM h1
 have hlen:(Ca.toList.take (i*P.cellsOf e1+c)++(v.cells.toList++Ca.toList.drop (i*P.cellsOf e1+c+v.cells.toList.length))).length=Ca.size:=by
  rw[A6 _ _ _ (by simpa using JM)];simp
 have cn:= @Zt P w I b1 i c e1 l cs x0 Ca v.cells.toList hR hh hs hx dj nf
 have cW:=hR.nI
 have hr:=S.h.rel id _ ab
 rw[hb] at hr
 cases hr with
 | fL az=>cases az
 | nest az cO mw=>
 cases az
 have kf: ∀q e' m,At P w b1 e1 l q b1 e' m→q=[]:=by
  intro q e' m h
  have:=mw _ _ _ _ _ _ _ (ha.app h) ha
  simpa using this
 have u4:=setRow_heap w b1 Ca (Ca.toList.take (i*P.cellsOf e1+c)++(v.cells.toList++Ca.toList.drop (i*P.cellsOf e1+c+v.cells.toList.length))).toArray e1 (0,0) hh
 have iA:=Zu hh (Cb:=(Ca.toList.take (i*P.cellsOf e1+c)++(v.cells.toList++Ca.toList.drop (i*P.cellsOf e1+c+v.cells.toList.length))).toArray) (by simpa using hlen)
 have xK:=fun k (hk:k≠b1)=>setRow_other w b1 k (Ca.toList.take (i*P.cellsOf e1+c)++(v.cells.toList++Ca.toList.drop (i*P.cellsOf e1+c+v.cells.toList.length))).toArray hk
 generalize u5:(Ca.toList.take (i*P.cellsOf e1+c)++(v.cells.toList++Ca.toList.drop (i*P.cellsOf e1+c+v.cells.toList.length))).toArray=Cb at*
 generalize Zw:l.set i (cS P e1 (gj (parts P e1 x0) c cs))=l' at*
 have jN:l'.length=l.length:=by rw[←Zw];simp
 have te: ∀k j,I k j→(w.setRow b1 Cb).cell? ⟨k,j,none⟩=w.cell? ⟨k,j,none⟩:=fun k j hk=>World.cell?_of_block (xK k (fun e=>cW j (e▸hk)))
 refine ⟨_,cG,Zo S (i:=i) (c:=c) K ab hb ha jN xK iA (by simp) ⟨rfl,rfl⟩ ?_ ?_ hK td uO uP ?_⟩
 ·refine ⟨hR.ok,⟨Cb,u4,by rw[jN,←u5];simp only[pZ];omega,fun i' j x' t' k1 k2 k3=> ?_⟩,cW⟩
  obtain ⟨x1,y1,y2⟩:=cn k1 k2
  rcases y2 with ⟨jj,y,u,rfl,rfl,z1,z2,z3,z4⟩|⟨z3,z4⟩
  ·exact ⟨u,z4,by rw[z3];exact (dt jj y u t' z1 z2 k2).mono (fun _ _ h=>h) te fun _ _ _ _ _=>iA _⟩
  ·obtain ⟨v1,m1,m2⟩:=rB i' j x1 t' y1 k2 k3
   exact ⟨v1,z4.trans m1,by rw[z3];exact m2.mono (fun _ _ h=>h) te fun _ _ _ _ _=>iA _⟩
 ·intro a r b' e' m h
  obtain ⟨i',c'⟩:=a
  cases h with
  | step k1 k2 k3 k4 k5 k6 k7 k8=>
   rw[u4] at k1;cases k1
   obtain ⟨x1,y1,y2⟩:=cn k2 k3
   rcases y2 with ⟨jj,y,u,rfl,rfl,z1,z2,z3,z4⟩|⟨z3,z4⟩
   ·rw[k7] at z4
    obtain ⟨g1,g2⟩:=Zv jj y u _ _ _ _ _ _ z1 z2 k3 k4 (z3.symm.trans k5) k6 (dh z4).symm
    subst g1
    have kU:=k8.s0 (w:=w) fun q2 b5 e5 gY hq=>xK b5 (g2 _ _ _ _ hq).1
    exact ⟨(g2 _ _ _ _ kU).1,.inr ⟨rfl,(g2 _ _ _ _ kU).2⟩⟩
   ·rw[k5] at z3
    rw[k7] at z4
    have bq: ∀q2 b5 e5 gY,At P w _ _ _ q2 b5 e5 gY→b5≠b1:=fun q2 b5 e5 gY hq u0=>by
     subst u0
     have:=kf _ _ _ (.step hh y1 k3 k4 z3.symm k6 z4.symm hq)
     cases this
    have kU:=k8.s0 (w:=w) fun q2 b5 e5 gY hq=>xK b5 (bq q2 b5 e5 gY hq)
    exact ⟨bq _ _ _ _ kU,.inl (.step hh y1 k3 k4 z3.symm k6 z4.symm kU)⟩
 ·intro r i' c' t' v' ea l0 aJ JT my hc
  rcases kV with kV|kV
  ·
   have dY: ∀{i' c' x1 t' e3},l[i']? =some x1→(aW P e1)[c']? =some t'→P.underlying t'=some (.slice e3)→∃x',l'[i']? =some x'∧bR P e1 x' c'=bR P e1 x1 c'∧Cb[i'*P.cellsOf e1+c']? =Ca[i'*P.cellsOf e1+c']? :=by
    intro i' c' x1 t' e3 g1 g2 g3
    have aJ:i'<l'.length:=by rw[jN];exact (bm.1 g1).1
    have cU:=bA aJ
    obtain ⟨x2,y1,y2⟩:=cn cU g2
    rw[g1] at y1;cases y1
    rcases y2 with ⟨jj,y,u,rfl,rfl,z1,z2,z3,z4⟩|⟨z3,z4⟩
    ·have:=kV jj t' (bm.1 z1).1 g2
     unfold eu at this
     rw[g3] at this
     cases this
    ·exact ⟨_,cU,z3,z4⟩
   obtain ⟨b',e',m,C5,T,f,x,k1,k2,k3,k4,k5,k6⟩:=hc
   refine ⟨l0,rfl,?_⟩
   cases k1 with
   | here=>
    rw[hh] at k2;cases k2
    obtain ⟨x',g1,g2,g3⟩:=dY k3 k4 my
    exact ⟨_,_,l',Cb,_,_,x',.here,u4,g1,k4,g2.trans k5,g3.trans k6⟩
   | step q1 q2 q3 q4 q5 q6 q7 q8=>
    have q1':=q1
    rw[hh] at q1;cases q1
    obtain ⟨x',g1,g2,g3⟩:=dY q2 q3 q4
    have bq: ∀q2 b5 e5 gY,At P w _ _ _ q2 b5 e5 gY→b5≠b1:=fun q9 b5 e5 gY hq u0=>by
     subst u0
     have:=kf _ _ _ (.step hh q2 q3 q4 q5 q6 q7 hq)
     cases this
    have kU:=q8.mono (w':=w.setRow b1 Cb) fun q2 b5 e5 gY hq=>xK b5 (bq q2 b5 e5 gY hq)
    exact ⟨b',e',m,C5,T,f,x,.step u4 g1 q3 q4 (g2.trans q5) q6 (g3.trans q7) kU,(xK _ (bq _ _ _ _ q8)).trans k2,k3,k4,k5,k6⟩
  ·exact absurd JT (kV _ (by simp) aJ)
theorem Ba: ∀(vs:List Nat) (d k:Nat),d≤k→k<vs.length→bO (raise d vs) k=bO vs k+1
 | [],d,k,_,h=>by simp at h
 | v::vs,0,0,_,_=>by simp[raise,bO]
 | v::vs,0,k+1,_,h=>by
  have:=Ba vs 0 k (oN _) (by simpa using h)
  simpa[raise,bO] using this
 | v::vs,d+1,0,h,_=>by omega
 | v::vs,d+1,k+1,h,U=>by
  have:=Ba vs d k (by omega) (by simpa using U)
  simpa[raise,bO] using this
theorem FC: ∀(vs:List Nat) (d:Nat),(raise d vs).length=vs.length
 | [],0=>rfl
 | [],d+1=>rfl
 | v::vs,0=>by simp[raise]
 | v::vs,d+1=>by simp[raise,FC vs d]
theorem Bb: ∀(vs:List Nat) (d k:Nat),bO vs k≤bO (raise d vs) k
 | [],0,k=>by simp[raise,bO]
 | [],d+1,k=>by simp[raise,bO]
 | v::vs,0,0=>by simp[raise,bO]
 | v::vs,0,k+1=>by
  have:=Bb vs 0 k
  simpa[raise,bO] using this
 | v::vs,d+1,0=>by simp[raise,bO]
 | v::vs,d+1,k+1=>by
  have:=Bb vs d k
  simpa[raise,bO] using this
theorem Zx {t:TypeId} {v:Value} {x:V} (hv:ak P w I β hp v x) (h:fm P t x=true) (hs:eu P t=true):Pure P w I t v x:=by
 unfold eu at hs
 unfold fm at h
 cases hu:P.underlying t with
 | none=>rw[hu] at hs;cases hs
 | some d=>
  rw[hu] at hs h
  cases d<;>simp only at hs<;>first|(cases hs;done)|skip
  all_goals cases x<;>simp only at h<;>first|(cases h;done)|skip
  ·rw[hv.kT]
   exact .bool hu
  ·simp only[ej] at h
   subst h
   rw[hv.en]
   exact .int hu
  ·obtain ⟨s,rfl,hl⟩:=hv.m9
   exact .str hu hl
def JU (P:Program) (w:World) (I:Nat→Nat→Prop) (o:Option Nat) (blk:ai) (b2:Nat) (e2:TypeId) (ct:List V):Prop:=
 (∀r b' e' m,At P w b2 e2 ct r b' e' m→gm P w I b' e' m∧bh P w o blk b')∧∀r1 r2 b' e1 m1 FD m2,At P w b2 e2 ct r1 b' e1 m1→At P w b2 e2 ct r2 b' FD m2→r1=r2
theorem QD (S:aC P w I β hp B M w0) {bL b2:Nat} {e2:TypeId} {ct:List V} (ab:hp bL=some (.arr e2 ct false)) (hb:β bL=some b2) (hs:(flat P e2).all (eu P)=true):
  JU P w I (β bL) (.arr e2 ct false) b2 e2 ct:=by
 have only: ∀r b' e' m,At P w b2 e2 ct r b' e' m→r=[]:=by
  intro r b' e' m h
  cases h with
  | here=>rfl
  | step h1 U h3 h4 h5 h6 h7 h8=>
   rw[qg] at h3
   have:=fy.1 hs _ (jg h3)
   unfold eu at this
   rw[h4] at this
   cases this
 refine ⟨fun r b' e' m h=> ?_,fun r1 r2 b' e1 m1 FD m2 h1 U=>by rw[only _ _ _ _ h1,only _ _ _ _ U]⟩
 have:=only _ _ _ _ h
 subst this
 cases h
 have hr:=S.h.rel bL _ ab
 cases hr with
 | dJ az=>rw[hb] at az;cases az
 | arr ar az hh aU hf dP hx=>
  rw[hb] at az;cases az
  refine ⟨⟨ar,⟨_,hh,aU,fun i j x t' k1 k2 k3=> ?_⟩,dP rfl⟩,.root (by simp) hb⟩
  obtain ⟨v,m1,m2⟩:=hx i j x t' k1 k2 k3
  refine ⟨v,m1,.fB ?_ m2⟩
  rw[qg] at k2
  exact fy.1 hs _ (jg k2)
theorem Zy (S:aC P w I β hp B M w0) {bL b2:Nat} {e2:TypeId} {ct:List V} {Fg:List Nat} (ab:hp bL=some (.nest e2 ct Fg)) (hb:β bL=some b2):
  JU P w I (β bL) (.nest e2 ct Fg) b2 e2 ct:=by
 have hr:=S.h.rel bL _ ab
 cases hr with
 | fL az=>rw[hb] at az;cases az
 | nest az cO mw=>
  rw[hb] at az;cases az
  exact ⟨fun r b' e' m h=>⟨cO _ _ _ _ h,.row hb h⟩,fun r1 r2 b' e1 m1 FD m2 h1 U=>mw _ _ _ _ _ _ _ h1 U⟩
theorem QE {c:Nat} {e1 e2 t':TypeId} (h:(((flat P e1).drop c).take 1).all (fun u=>match P.underlying u with|some (.slice e3)=>Nat.beq e2 e3|_=>false)=true) (ht:(aW P e1)[c]? =some t'):
  P.underlying t'=some (.slice e2):=by
 rw[qg] at ht
 have hm:t'∈((flat P e1).drop c).take 1:=by
  refine jg (i:=0) ?_
  rw[dU (by omega),iP]
  simpa using ht
 have:=fy.1 h _ hm
 split at this
 ·rename_i e3 hu
  rw[aX] at this
  rw[hu,this]
 ·cases this
theorem QF (S:aC P w I β hp B M w0) {t:TypeId} {v:Value} {id bL b b1 i c:Nat} {e0 e1 e2:TypeId} {es l ct:List V} {vers:List Nat} {path:Path} {x0:V} {cv:ai}
  (ab:hp id=some (.nest e0 es vers)) (hb:β id=some b) (ha:At P w b e0 es path b1 e1 l) (ht:nU P t=true) (hn:P.cellsOf t=1)
  (hx:l[i]? =some x0) (nf:c+1≤P.cellsOf e1) (Bc:(((flat P e1).drop c).take 1).all (fun u=>match P.underlying u with|some (.slice e3)=>Nat.beq e2 e3|_=>false)=true)
  (ed:hp bL=some cv) (bq:id≠bL)
  (hv:((∃a,v= .slice a 0 0)∧ct=[])∨∃b2 cap,v= .slice (some ⟨b2,0,none⟩) ct.length cap∧cap*P.cellsOf e2=bsize w b2∧ct.length≤cap∧cap≤maxLen∧JU P w I (β bL) cv b2 e2 ct):
  qk P ((Instr.storeAt t (.pointer (some ⟨b1,i*P.cellsOf e1+c,none⟩)) v).run P w) w I β hp B M w0
   ⟨.undef,[(id,.nest e0 (setRow P (l.set i (cS P e1 (gj (parts P e1 x0) c [.list e2 ct]))) e0 es path) (raise path.length vers)),(bL,.dead)]⟩:=by
 obtain ⟨rC,S1⟩:=uV S ed
 have tf:ax hp bL (some .dead) id=some (.nest e0 es vers):=by rw[cy _ _ bq];exact ab
 have rB:v.cells= #[v]:=by rcases hv with ⟨⟨_,rfl⟩,_⟩|⟨b2,cap,rfl,_⟩<;>rfl
 have o4:v.oneCell'=true:=by rcases hv with ⟨⟨_,rfl⟩,_⟩|⟨b2,cap,rfl,_⟩<;>rfl
 have free: ∀b',bh P w (β bL) cv b'→(M b'∨B≤b')∧∀FE iy,ax hp bL (some .dead) FE=some iy→¬bh P w (β FE) iy b':=by
  intro b' ho
  refine ⟨S.h.own bL cv b' ed ho,fun FE iy h3 QG=> ?_⟩
  by_cases hi:FE=bL
  ·subst hi
   rw[bS] at h3
   cases h3
   exact QG.alive rfl
  ·rw[cy _ _ hi] at h3
   exact hi (S.h.inj _ _ _ _ b' h3 ed QG ho)
 have mz: ∀b',bh P w (β bL) cv b'→b'≠b1:=by
  intro b' ho e
  subst e
  exact bq (S.h.inj _ _ _ _ b' ab ed (.row hb ha) ho)
 have dt: ∀(j:Nat) y u t',[V.list e2 ct][j]? =some y→v.cells.toList[j]? =some u→(aW P e1)[c+j]? =some t'→j=0∧y= .list e2 ct∧u=v∧P.underlying t'=some (.slice e2):=by
  intro j y u t' k1 k2 k3
  cases j with
  | succ j=>simp at k1
  | zero=>
   rw[rB] at k2
   simp at k1 k2
   exact ⟨rfl,k1.symm,k2.symm,QE Bc k3⟩
 rcases hv with ⟨⟨a0,rfl⟩,rfl⟩|⟨b2,cap,rfl,v1,v2,v3,v4⟩
 ·obtain ⟨w',r1,r2,r3⟩:=FB S1 (vers':=raise path.length vers) (fun _ _ _ _=>False) tf hb ha ht (v:= .slice a0 0 0) hn hx (cs:=[.list e2 []]) rfl nf (by rw[rB];simp[o4])
   (fun j y u t' k1 k2 k3=>by obtain ⟨rfl,rfl,rfl,k4⟩:=dt j y u t' k1 k2 k3;exact .emp k4 (fun _=>rfl))
   (fun j y u t' e3 kQ b3 len cap k1 k2 k3 k4 k5 k6=>by obtain ⟨rfl,rfl,rfl,k7⟩:=dt j y u t' k1 k2 k3;cases k5;simp at k6)
   (fun _ _ _ _ h=>h.elim) (fun _ _ _ _ _ _ _ h=>h.elim) (FC _ _) (Bb _ _) (.inr fun k h1 U=>by rw[Ba _ _ _ h1 U];omega)
  exact ⟨w',I,β,r1,rC.trans r2,r3,rfl⟩
 ·obtain ⟨w',r1,r2,r3⟩:=FB S1 (vers':=raise path.length vers) (fun r b' e' m=>At P w b2 e2 ct r b' e' m) tf hb ha ht (v:= .slice (some ⟨b2,0,none⟩) ct.length cap) hn hx (cs:=[.list e2 ct]) rfl nf (by rw[rB];simp[o4])
   (fun j y u t' k1 k2 k3=>by
    obtain ⟨rfl,rfl,rfl,k4⟩:=dt j y u t' k1 k2 k3
    cases ct with
    | nil=>exact .emp k4 (fun h=>by cases h)
    | cons z zs=>exact .row k4 (by simp) v1 v2 v3)
   (fun j y u t' e3 kQ b3 len cap k1 k2 k3 k4 k5 k6 k8=>by
    obtain ⟨rfl,rfl,rfl,k7⟩:=dt j y u t' k1 k2 k3
    cases k5
    cases k8
    exact ⟨rfl,fun r b' e' m h=>⟨mz _ (v4.1 _ _ _ _ h).2,h⟩⟩)
   (fun r b' e' m h=>⟨(v4.1 _ _ _ _ h).1,free _ (v4.1 _ _ _ _ h).2⟩) (fun r1 r2 b' e1 m1 FD m2 h1 U=>v4.2 _ _ _ _ _ _ _ h1 U) (FC _ _) (Bb _ _) (.inr fun k h1 U=>by rw[Ba _ _ _ h1 U];omega)
  exact ⟨w',I,β,r1,rC.trans r2,r3,rfl⟩
theorem QH (S:aC P w I β hp B M w0) {t:TypeId} {v:Value} {x:V} {r:R} {rd:List Nat} {id b b1 i c:Nat} {e0 e1:TypeId} {es l:List V} {vers:List Nat} {path:Path}
  (ht:nU P t=true) (hn:x.cells.length=P.cellsOf t) (hv:ak P w I β hp v x) (ab:hp id=some (.nest e0 es vers)) (hb:β id=some b) (ha:At P w b e0 es path b1 e1 l)
  (h:(EP P t id e0 es vers path i c x).run C hp=some (r,rd)):qk P ((Instr.storeAt t (.pointer (some ⟨b1,i*P.cellsOf e1+c,none⟩)) v).run P w) w I β hp B M w0 r:=by
 unfold EP at h
 obtain ⟨aJ,h⟩:=aG h
 rw[jZ] at aJ
 obtain ⟨e',vv,q1,q2,h⟩:=xz h
 obtain ⟨p1,p2⟩:=JA ha
 rw[p1] at q1;cases q1
 rw[p2] at q2;cases q2
 simp only[V.toList] at h
 obtain ⟨ar,h⟩:=aG h
 obtain ⟨x0,rD,h⟩:=mj h
 obtain ⟨nf,h⟩:=aG h
 rw[dq] at nf
 have slice: ∀e2,P.underlying t=some (.slice e2)→
   ((((Rd.aD ((((flat P e1).drop c).take x.cells.length).all fun u=>match P.underlying u with|some (.slice e3)=>Nat.beq e2 e3|_=>false) (
     match (generalizing:=false) x with
     | .nilS e3=> .aD (Nat.beq e2 e3) (.ret ⟨.undef,[(id,.nest e0 (setRow P (l.set i (cS P e1 (gj (parts P e1 x0) c [.list e2 []]))) e0 es path) (raise path.length vers))]⟩)
     | .whole e3 bL=> .get bL fun
      | some (.arr e4 ct false)=> .aD (Nat.beq e2 e3&&(Nat.beq e3 e4&&(!(Nat.beq id bL)&&(flat P e2).all (eu P))))
        (.ret ⟨.undef,[(id,.nest e0 (setRow P (l.set i (cS P e1 (gj (parts P e1 x0) c [.list e2 ct]))) e0 es path) (raise path.length vers)),(bL,.dead)]⟩)
      | some (.nest e4 ct _)=> .aD (Nat.beq e2 e3&&(Nat.beq e3 e4&& !(Nat.beq id bL)))
        (.ret ⟨.undef,[(id,.nest e0 (setRow P (l.set i (cS P e1 (gj (parts P e1 x0) c [.list e2 ct]))) e0 es path) (raise path.length vers)),(bL,.dead)]⟩)
      | _=> .fail
     | _=> .fail)):Rd R).run C hp))=some (r,rd)→
   qk P ((Instr.storeAt t (.pointer (some ⟨b1,i*P.cellsOf e1+c,none⟩)) v).run P w) w I β hp B M w0 r:=by
  intro e2 hu h
  obtain ⟨Bc,h⟩:=aG h
  cases x with
  | nilS e3=>
   obtain ⟨hc,h⟩:=aG h
   obtain rfl:=aT h
   rw[aX] at hc
   subst hc
   cases hv with
   | @nilS _ a0=>
    obtain ⟨w',r1,r2,r3⟩:=FB S (v:= .slice a0 0 0) (vers':=raise path.length vers) (fun _ _ _ _=>False) ab hb ha ht hn.symm rD (cs:=[.list e2 []]) rfl nf (by simp[Value.cells,Value.oneCell'])
     (fun j y u t' k1 k2 k3=>by
      cases j with
      | succ j=>simp at k1
      | zero=>
       simp[Value.cells] at k1 k2
       subst k1;subst k2
       exact .emp (QE Bc k3) (fun _=>rfl))
     (fun j y u t' e3 kQ b3 len cap k1 k2 k3 k4 k5 k6=>by
      cases j with
      | succ j=>simp at k1
      | zero=>simp at k1;subst k1;cases k5;simp at k6)
     (fun _ _ _ _ h=>h.elim) (fun _ _ _ _ _ _ _ h=>h.elim) (FC _ _) (Bb _ _) (.inr fun k h1 U=>by rw[Ba _ _ _ h1 U];omega)
    exact ⟨w',I,β,r1,r2,r3,rfl⟩
  | whole e3 bL=>
   obtain ⟨l1,h⟩:=run_get h
   cases ed:hp bL with
   | none=>rw[ed] at h;cases h
   | some cv=>
    rw[ed] at h
    cases cv with
    | dead=>cases h
    | var _=>cases h
    | map _ _=>cases h
    | arr e4 ct fz=>
     cases fz with
     | true=>cases h
     | false=>
      obtain ⟨hc,h⟩:=aG h
      obtain rfl:=aT h
      simp only[aO,aX,kJ] at hc
      obtain ⟨rfl,rfl,bq,kV⟩:=hc
      have JV:id≠bL:=fun e=>by rw[e,jE] at bq;cases bq
      refine QF S ab hb ha ht hn.symm rD nf Bc ed JV ?_
      cases hv with
      | dI bJ=>rw[ed] at bJ;cases bJ
      | dw bJ fp=>rw[ed] at bJ;cases bJ;exact .inl ⟨⟨_,rfl⟩,rfl⟩
      | whole bJ fp b6 hle oZ=>
       rw[ed] at bJ;cases bJ
       exact .inr ⟨_,_,rfl,b6,hle,oZ,QD S ed fp kV⟩
      | dB bJ=>rw[ed] at bJ;cases bJ
      | di bJ=>rw[ed] at bJ;cases bJ
    | nest e4 ct Fg=>
     obtain ⟨hc,h⟩:=aG h
     obtain rfl:=aT h
     simp only[aO,aX,kJ] at hc
     obtain ⟨rfl,rfl,bq⟩:=hc
     have JV:id≠bL:=fun e=>by rw[e,jE] at bq;cases bq
     refine QF S ab hb ha ht hn.symm rD nf Bc ed JV ?_
     cases hv with
     | dI bJ=>rw[ed] at bJ;cases bJ
     | dw bJ fp=>rw[ed] at bJ;cases bJ
     | whole bJ=>rw[ed] at bJ;cases bJ
     | dB bJ fp=>rw[ed] at bJ;cases bJ;exact .inl ⟨⟨_,rfl⟩,rfl⟩
     | di bJ fp b6 hle oZ=>
      rw[ed] at bJ;cases bJ
      exact .inr ⟨_,_,rfl,b6,hle,oZ,Zy S ed fp⟩
  | _=>cases h
 have fB:(((Rd.aD ((((flat P e1).drop c).take x.cells.length).all (eu P)&&qW P (((flat P e1).drop c).take x.cells.length) x.cells)
   (.ret ⟨.undef,[(id,.nest e0 (setRow P (l.set i (cS P e1 (gj (parts P e1 x0) c x.cells))) e0 es path) vers)]⟩)):Rd R).run C hp)=some (r,rd)→
   qk P ((Instr.storeAt t (.pointer (some ⟨b1,i*P.cellsOf e1+c,none⟩)) v).run P w) w I β hp B M w0 r:=by
  intro h
  obtain ⟨hc,h⟩:=aG h
  obtain rfl:=aT h
  simp only[aO] at hc
  obtain ⟨hs,gd⟩:=hc
  obtain ⟨tl,tg⟩:=uZ gd
  have JW: ∀(j:Nat) t',j<x.cells.length→(aW P e1)[c+j]? =some t'→(((flat P e1).drop c).take x.cells.length)[j]? =some t':=by
   intro j t' hj ec
   rw[dU hj,iP]
   rw[qg] at ec
   exact ec
  have sat: ∀(j:Nat) t',j<x.cells.length→(aW P e1)[c+j]? =some t'→eu P t'=true:=fun j t' hj ec=>
   fy.1 hs _ (jg (JW j t' hj ec))
  have oe:v.cells.size=x.cells.length∧∀(j:Nat) u y,v.cells.toList[j]? =some u→x.cells[j]? =some y→ak P w I β hp u y:=by
   have base:(∀xs,x≠ .agg xs)→x.cells=[x]→v.cells.size=x.cells.length∧∀(j:Nat) u y,v.cells.toList[j]? =some u→x.cells[j]? =some y→ak P w I β hp u y:=by
    intro _ mo
    rw[mo] at tl tg JW⊢
    have h0:0<(((flat P e1).drop c).take [x].length).length:=by rw[tl];exact Nat.one_pos
    have gd:=tg 0 _ x (bA h0) rfl
    obtain ⟨o1,o2⟩:=Qy hv gd
    rw[o2]
    refine ⟨rfl,fun j u y hu hy=> ?_⟩
    cases j with
    | zero=>simp at hu hy;subst hu;subst hy;exact hv
    | succ j=>simp at hy
   cases x with
   | agg xs=>
    obtain ⟨cs,rfl,h1,U⟩:=hv.kb
    exact ⟨h1,fun j u y a b=>U j u y (by simpa[Value.cells] using a) b⟩
   | _=>exact base (by simp) rfl
  have pure: ∀(j:Nat) u y t',v.cells.toList[j]? =some u→x.cells[j]? =some y→(aW P e1)[c+j]? =some t'→Pure P w I t' u y:=by
   intro j u y t' hu hy ec
   have hj:=(bm.1 hy).1
   exact Zx (oe.2 j u y hu hy) (tg j t' y (JW j t' hj ec) hy) (sat j t' hj ec)
  obtain ⟨w',r1,r2,r3⟩:=FB S (v:=v) (vers':=vers) (fun _ _ _ _=>False) ab hb ha ht (by rw[oe.1];exact hn.symm) rD oe.1.symm nf (fun u hu=>by
    obtain ⟨j,hj⟩:=qR hu
    have b9:j<x.cells.length:=by rw[←oe.1];simpa using (bm.1 hj).1
    have o5:c+j<(aW P e1).length:=by rw[eR ar];omega
    have one: ∀t' y,Pure P w I t' u y→u.oneCell'=true:=by intro t' y h;cases h<;>rfl
    exact one _ _ (pure j u _ _ hj (bA b9) (bA o5)))
   (fun j y u t' k1 k2 k3=> .fB (sat j t' (bm.1 k1).1 k3) (pure j u y t' k2 k1 k3))
   (fun j y u t' e3 kQ b3 len cap k1 k2 k3 k4 k5 k6=>by
    have:=sat j t' (bm.1 k1).1 k3
    unfold eu at this
    rw[k4] at this
    cases this)
   (fun _ _ _ _ h=>h.elim) (fun _ _ _ _ _ _ _ h=>h.elim) rfl (fun _=>cl _) (.inl fun j t' hj ec=>sat j t' hj ec)
  exact ⟨w',I,β,r1,r2,r3,rfl⟩
 cases hu:P.underlying t with
 | none=>rw[hu] at h;exact fB h
 | some d=>
  cases d with
  | slice e2=>rw[hu] at h;exact slice e2 hu h
  | _=>rw[hu] at h;exact fB h
end
section
variable {P:Program} {w w':World} {I I':Nat→Nat→Prop} {β β':Nat→Option Nat} {hp hp':Nat→Option ai} {C:ah} {B:Nat} {M:Nat→Prop} {w0:Start}
theorem Zz (S:aC P w I β hp B M w0) {t:TypeId} {a v:Value} {xa x:V} {r:R} {rd:List Nat} (ha:ak P w I β hp a xa) (hv:ak P w I β hp v x)
  (h:(I9 P t xa x).run C hp=some (r,rd)):qk P ((Instr.storeAt t a v).run P w) w I β hp B M w0 r:=by
 unfold I9 at h
 obtain ⟨h0,h⟩:=aG h
 simp only[aO,aX] at h0
 obtain ⟨ht,hn⟩:=h0
 cases xa with
 | ptr id i c=>
  obtain ⟨l,h⟩:=run_get h
  cases ab:hp id with
  | none=>rw[ab] at h;cases h
  | some blk=>
   rw[ab] at h
   cases blk with
   | dead=>cases h
   | var T0 cs=>
    obtain ⟨QI,h⟩:=aG h
    have na:p9 P T0=true→0<c:=fun ca=>by
     rw[ca] at QI
     simpa using QI
    obtain ⟨b,hb,rfl⟩:=ha.iB ab (by simp)
    simp only[ai.sz,Nat.mul_zero,fx]
    cases qj:(Ar P t cs&&fm P t x) with
    | true=>
     dsimp only at h
     rw[qj] at h
     simp only[cond_true] at h
     obtain ⟨hc,h⟩:=aG h
     obtain rfl:=aT h
     simp only[aO,jZ] at hc qj
     obtain ⟨o1,o2⟩:=Qy hv qj.2
     have mo:=Zh qj.2
     refine Qw S ab hb ht hn (by rw[o2,mo];rfl) na (fun j u y hu hy=> ?_) (by rw[o2];simp[o1]) (by rw[mo];simp;omega) (Qv _ _ _ _) (fun j y hy hj u hu=> ?_) (fun j y hy hj u hu=> ?_)
     ·rw[o2] at hu
      rw[mo] at hy
      cases j with
      | zero=>simp at hu hy;subst hu;subst hy;exact hv
      | succ j=>simp at hy
     ·rw[JL] at hy
      cases xL:cs[j]? with
      | none=>rw[xL] at hy;cases hy
      | some y0=>
       rw[xL] at hy
       simp only[Option.map_some,ek] at hy
       rw[mo] at hj
       simp only[List.length_singleton] at hj
       have bq:Nat.beq c (0+j)=false:=by
        cases hq:Nat.beq c (0+j) with
        | false=>rfl
        | true=>rw[aX] at hq;omega
       rw[bq] at hy
       have:=Qk (c:=false) hv (hu y0 xL)
       rw[←hy]
       simpa using this
     ·rw[mo] at hj hu
      have JX:j=0:=by simpa using hj
      subst JX
      rw[JL] at hy
      cases xL:cs[c+0]? with
      | none=>rw[xL] at hy;cases hy
      | some y0=>
       rw[xL] at hy
       simp only[Option.map_some,ek] at hy
       have heq:Nat.beq c (0+(c+0))=true:=by rw[aX];omega
       rw[heq] at hy
       have U:ak P w I β hp u x:=hu x rfl
       have:sL true x y0=x:=Zi x y0
       rw[←hy,this]
       exact U
    | false=>
     dsimp only at h
     rw[qj] at h
     simp only[cond_false] at h
     obtain ⟨hc,h⟩:=aG h
     simp only[aO,dq] at hc
     obtain ⟨e1,e2⟩:=JJ hv h
     obtain ⟨h1,l2,h⟩:=Fw h (vs:=v.cells.toList) (by simpa using e1) (fun j u y a b=>e2 j u y (by simpa using a) b)
     obtain rfl:=aT h
     refine Qw S ab hb ht hn e1 na e2 h1 hc.2 (A6 _ _ _ hc.2) (fun j y hy hj u hu=> ?_) (fun j y hy hj u hu=> ?_)
     ·unfold gj at hy
      rw[od _ _ _ _ hc.2] at hy
      rcases hj with hj|hj
      ·rw[aj hj] at hy;exact hu y hy
      ·rw[aM,aM] at hy;exact hu y hy
     ·unfold gj at hy
      rw[od _ _ _ _ hc.2,aM,bf] at hy
      rw[show c+j-c=j by omega] at hy
      exact hu y hy
   | arr e es fz=>
    cases fz with
    | true=>cases h
    | false=>
    obtain ⟨b,hb,rfl⟩:=ha.iB ab (by simp)
    obtain ⟨ar,h⟩:=aG h
    obtain ⟨⟨ys,fr⟩,l1,l2,bz,h⟩:=lD h
    obtain ⟨hc,h⟩:=aG h
    obtain ⟨x0,rD,h⟩:=mj h
    obtain rfl:=aT h
    simp only[aO,kJ,dq] at hc
    obtain ⟨dX,ZA,eQ⟩:=hc
    have oe:v.cells.size=x.cells.length∧∀(j:Nat) u y,v.cells.toList[j]? =some u→x.cells[j]? =some y→ak P w I β hp u y:=by
     cases x with
     | agg xs=>
      obtain ⟨cs,rfl,h1,U⟩:=hv.kb
      exact ⟨h1,fun j u y a b=>U j u y (by simpa[Value.cells] using a) b⟩
     | _=>
      simp only[V.cells] at bz eQ⊢
      simp only[sK] at bz
      obtain ⟨⟨y1,u1⟩,l3,l4,hq,bz⟩:=lD bz
      obtain ⟨q1,q2⟩:=Fk S.h.rel hq hv
      obtain ⟨⟨y2,u2⟩,l5,l6,Bd,bz⟩:=lD bz
      cases Bd
      have:=aT bz
      cases this
      obtain ⟨tl,tg⟩:=uZ eQ
      have gd:=tg 0 _ y1 (bA (by rw[tl];exact Nat.one_pos)) rfl
      have ch:=q2 (jo P w I β hp u1) (fun _ _ h=> .inl h) (fun p hp b j h=> .inr ⟨p,hp,h⟩)
      have ho:=ch.pure gd
      have JY:v.cells= #[v]:=by cases ho<;>rfl
      rw[JY]
      refine ⟨rfl,fun j u y hu hy=> ?_⟩
      cases j with
      | zero=>simp at hu hy;subst hu;subst hy;exact hv
      | succ j=>simp at hy
    obtain ⟨k1,k2,k3⟩:=JB S.h.rel bz (vs:=v.cells.toList) (by simpa using oe.1) oe.2
    obtain ⟨rC,S1⟩:=AY S k2
    have tf:bW hp fr id=some (.arr e es false):=by
     rcases uR (hp:=hp) (l:=fr) (id:=id) with h|⟨b',hm,_⟩
     ·exact h.trans ab
     ·exfalso
      have ZB:gD (fr.map (·.1)) id=true:=xG (gT.2 ⟨_,hm,rfl⟩)
      rw[ZB] at dX;cases dX
    have QJ:=k3 (jo P w I β hp fr) (fun _ _ h=> .inl h) (fun p hp b j h=> .inr ⟨p,hp,h⟩)
    obtain ⟨tl,tg⟩:=uZ eQ
    have jM:=(lE ar).1
    have u6:ys.length=v.cells.size:=by rw[k1,oe.1]
    have hcn:c+v.cells.size≤P.cellsOf e:=by rw[oe.1];exact ZA
    have hr:=S1.h.rel id _ tf
    cases hr with
    | dJ az=>simp at rD
    | @arr _ _ _ b' Ca JI az hh hs hf dP hx=>
     rw[hb] at az
     cases az
     have mq:i<es.length:=(bm.1 rD).1
     have hbound:i*P.cellsOf e+P.cellsOf e≤Ca.size:=by
      have:(i+1)*P.cellsOf e≤es.length*P.cellsOf e:=dF _ mq
      rw[dG] at this
      omega
     simp only[ai.sz]
     have ta:i*P.cellsOf e+c+v.cells.size≤Ca.size:=by omega
     have cW: ∀j,¬jo P w I β hp fr b j:=dP rfl
     have h1: ∀u∈v.cells.toList,u.oneCell'=true:=by
      intro u hu
      obtain ⟨j,hj⟩:=qR hu
      have b9:j<ys.length:=by rw[u6];simpa using (bm.1 hj).1
      have o5:j<(((flat P e).drop c).take x.cells.length).length:=by rw[tl];exact b9
      exact (QJ j u ys[j] hj (bA b9)).one (tg j _ ys[j] (bA o5) (bA b9))
     have cG:=JK (t:=t) (o:=i*P.cellsOf e+c) (v:=v) ht (by rw[oe.1];exact hn.symm) hh ta h1
     have hlen:(Ca.toList.take (i*P.cellsOf e+c)++(v.cells.toList++Ca.toList.drop (i*P.cellsOf e+c+v.cells.toList.length))).length=Ca.size:=by
      rw[A6 _ _ _ (by simpa using ta)];simp
     have ch:(parts P e x0).length=P.cellsOf e:=by rw[xE];exact eR ar
     have A7:=Fx S1 (blk':= .arr e (es.set i (cS P e (gj (parts P e x0) c ys))) false)
      (Cb:=(Ca.toList.take (i*P.cellsOf e+c)++(v.cells.toList++Ca.toList.drop (i*P.cellsOf e+c+v.cells.toList.length))).toArray) tf (by simp) ⟨rfl,by simp⟩ hb cW (by simp) hh (by simpa using hlen)
      (fun hle dt=> .arr ar rfl dt (by simp only[pZ,mT];omega) (fun h=>by cases h) (fun _=>cW) fun i' j z t' hz o5 hj=>by
       simp only[jG]
       rw[od _ _ _ _ (by simpa using ta)]
       simp only[Array.length_toList]
       rw[List.getElem?_set] at hz
       by_cases js:i=i'
       ·subst js
        rw[aj rfl,aj mq] at hz
        cases hz
        have FF:j<(parts P e x0).length:=by omega
        have u7:(gj (parts P e x0) c ys)[j]? =if j<c then (parts P e x0)[j]? else if j<c+ys.length then ys[j-c]? else (parts P e x0)[j]? :=by
         unfold gj;exact od _ _ _ _ (by omega)
        by_cases rz:j<c
        ·rw[bf]
         rw[aj rz] at u7
         obtain ⟨u,t2,a1,a2,a3⟩:=Ft hx ar rD (bA FF)
         rw[o5] at a1;cases a1
         refine ⟨u,by simpa using a2,?_⟩
         rw[rA (u7.trans (bA FF)) o5]
         exact a3.mono hle.dC hle.cx
        ·rw[an rz] at u7
         by_cases gG:j<c+ys.length
         ·rw[aj gG] at u7
          rw[aM,bf]
          have qm:j-c<ys.length:=by omega
          have QK:j-c<v.cells.toList.length:=by simp;omega
          have alP:j-c<v.cells.size:=by omega
          refine ⟨v.cells.toList[j-c],?_,?_⟩
          ·rw[show i*P.cellsOf e+j-(i*P.cellsOf e+c)=j-c by omega]
           exact bA QK
          ·rw[rA (u7.trans (bA qm)) o5]
           have ZC:(((flat P e).drop c).take x.cells.length)[j-c]? =some t':=by
            rw[dU (by omega),iP,show c+(j-c)=j by omega,←qg]
            exact o5
           exact ((QJ (j-c) _ ys[j-c] (bA QK) (bA qm)).pure (tg (j-c) t' ys[j-c] ZC (bA qm))).mono hle.dC hle.cx
         ·rw[an gG] at u7
          rw[aM,aM]
          obtain ⟨u,t2,a1,a2,a3⟩:=Ft hx ar rD (bA FF)
          rw[o5] at a1;cases a1
          refine ⟨u,by simpa using a2,?_⟩
          rw[rA (u7.trans (bA FF)) o5]
          exact a3.mono hle.dC hle.cx
       ·rw[an js] at hz
        obtain ⟨u,a2,a3⟩:=hx i' j z t' hz o5 hj
        have bq:i'*P.cellsOf e+j<i*P.cellsOf e+c∨i*P.cellsOf e+c+v.cells.size≤i'*P.cellsOf e+j:=by
         rcases pY i' i with aJ|mA
         ·left
          have:(i'+1)*P.cellsOf e≤i*P.cellsOf e:=dF _ aJ
          rw[dG] at this
          omega
         ·right
          have:(i+1)*P.cellsOf e≤i'*P.cellsOf e:=dF _ (by omega)
          rw[dG] at this
          omega
        refine ⟨u,?_,a3.mono hle.dC hle.cx⟩
        rcases bq with bq|bq
        ·rw[aj bq];simpa using a2
        ·rw[aM,aM];simpa using a2)
     exact ⟨_,_,_,cG,rC.trans A7.1,A7.2,rfl⟩
   | map _ _=>cases h
   | nest e es vers=>
    obtain ⟨b,hb,rfl⟩:=ha.iB ab (by simp)
    exact QH S ht hn hv ab hb .here h
 | cX id ver path i c=>
  obtain ⟨e0,es,vers,l,ab,h1,U,h3,h⟩:=oY h
  obtain ⟨b,b1,e1,l1,hb,dK,rfl⟩:=ha.Qf ab h1 U h3
  exact QH S ht hn hv ab hb dK h
 | _=>cases h
end
section
variable {P:Program} {w w':World} {I I':Nat→Nat→Prop} {β β':Nat→Option Nat} {hp hp':Nat→Option ai} {C:ah} {B:Nat} {M:Nat→Prop} {w0:Start}
theorem JZ: ∀{ts:List TypeId} {vs:List Value} {j:Nat} {y:V},(jH P ts vs)[j]? =some y→∃t v,ts[j]? =some t∧vs[j]? =some v∧y=p7 P t v
 | [],vs,j,y,h=>by simp[jH] at h
 | _::_,[],j,y,h=>by simp[jH] at h
 | t::ts,v::vs,0,y,h=>by simp[jH] at h;exact ⟨t,v,rfl,rfl,h.symm⟩
 | t::ts,v::vs,j+1,y,h=>by
  simp only[jH,List.getElem?_cons_succ] at h
  obtain ⟨t',v',a,b,c⟩:=JZ h
  exact ⟨t',v',by simpa using a,by simpa using b,c⟩
theorem QL: ∀{ts:List TypeId} {vs:List Value},ts.length=vs.length→(jH P ts vs).length=vs.length
 | [],[],_=>rfl
 | [],_::_,h=>by simp at h
 | _::_,[],h=>by simp at h
 | t::ts,v::vs,h=>by simp[jH,QL (ts:=ts) (vs:=vs) (by simpa using h)]
theorem jt {e:TypeId} (h:cR P e=true): ∃i z,P.info? e=some i∧i.zero=some z∧i.size=P.cellsOf e∧z.cells.size=P.cellsOf e∧zeroCells P e=jH P (flat P e) z.cells.toList:=by
 unfold cR at h
 simp only[aO,aX,jZ] at h
 obtain ⟨h1,U,_,h3⟩:=h
 cases hi:P.info? e with
 | none=>rw[hi] at h3;cases h3
 | some i=>
  rw[hi] at h3
  simp only[Option.bind_some] at h3
  cases hz:i.zero with
  | none=>rw[hz] at h3;cases h3
  | some z=>
   rw[hz] at h3
   simp only[aX] at h3
   exact ⟨i,z,rfl,hz,by simp[Program.cellsOf,hi],h3,by simp[zeroCells,hi,hz]⟩
theorem QM {e:TypeId} (h:cR P e=true): ∃i z,P.info? e=some i∧i.zero=some z∧z.cells.size=(zeroCells P e).length∧z.cells.size=P.cellsOf e∧
  ∀(j:Nat) v x,z.cells[j]? =some v→(zeroCells P e)[j]? =some x→ak P w I β hp v x:=by
 obtain ⟨i,z,h1,U,h3,h4,h5⟩:=jt h
 have hl:(flat P e).length=z.cells.toList.length:=by rw[(lE h).1];simpa using h4.symm
 refine ⟨i,z,h1,U,?_,h4,fun j v x hv hx=> ?_⟩
 ·rw[h5,QL hl];simp
 ·rw[h5] at hx
  obtain ⟨t,v',_,xF,rfl⟩:=JZ hx
  have:v'=v:=by
   have e1:z.cells[j]? =some v':=by simpa using xF
   rw[hv] at e1;exact (dh e1).symm
  subst this
  exact ak.const t v'
theorem kW {nb:Nat} {b:ai} {v:V} {upd:List (Nat × ai)} {r:R} {rd:List Nat} (h:(gV nb b v upd).run C hp=some (r,rd)):hp nb=none∧r=⟨v,(nb,b)::upd⟩:=by
 obtain ⟨l,h⟩:=run_get h
 cases hn:hp nb with
 | none=>rw[hn] at h;exact ⟨rfl,(aT h).symm⟩
 | some x=>rw[hn] at h;cases h
theorem QN (S:aC P w I β hp B M w0) {nb:Nat} {xs:List V} {C0:Array Value} {T:TypeId} (hn:hp nb=none) (hs:C0.size=xs.length)
  (hx: ∀(j:Nat) v x,C0[j]? =some v→xs[j]? =some x→ak P w I β hp v x) (gb:Qa P w.heap.size T C0):
  Le P w I β hp (w.alloc (.cells C0 T)) I (ax β nb (some w.heap.size)) (ax hp nb (some (.var T xs)))∧aC P (w.alloc (.cells C0 T)) I (ax β nb (some w.heap.size)) (ax hp nb (some (.var T xs))) B M w0∧
  ak P (w.alloc (.cells C0 T)) I (ax β nb (some w.heap.size)) (ax hp nb (some (.var T xs))) (.pointer (some ⟨w.heap.size,0,none⟩)) (.ptr nb 0 0):=by
 obtain ⟨h1,U⟩:=JE S (blk:= .var T xs) (c:=C0) (T:=T) hn (fun b' h=>(dh (h.flat (by simp))).symm) (fun hle dt cW=> .var rfl dt hs cW (fun j v x a b=>(hx j v x a b).mono hle) gb)
 refine ⟨h1,U,?_⟩
 have:=ak.ptr (P:=P) (w:=w.alloc (.cells C0 T)) (I:=I) (β:=ax β nb (some w.heap.size)) (hp:=ax hp nb (some (.var T xs))) (i:=0) (c:=0) (blk:= .var T xs) (bS _ _ _) (by simp) (bS _ _ _)
 simpa using this
theorem ZD (S:aC P w I β hp B M w0) {e:TypeId} {nb:Nat} {r:R} {rd:List Nat}
  (h:(Rd.aD (cR P e&&(!(p9 P e)||P4 (zeroCells P e))) (gV nb (.var e (zeroCells P e)) (.ptr nb 0 0) [])).run C hp=some (r,rd)):c7 P ((Instr.alloc e true (.tuple #[])).run P w) w I β hp B M w0 r:=by
 obtain ⟨ar,h⟩:=aG h
 rw[aO] at ar
 obtain ⟨ar,na⟩:=ar
 obtain ⟨hn,rfl⟩:=kW h
 obtain ⟨i,z,h1,U,h3,h4,h5⟩:=QM (w:=w) (I:=I) (β:=β) (hp:=hp) ar
 obtain ⟨a,b,c⟩:=QN S (T:=e) hn h3 h5 fun ca=>by
  rw[ca,qS,Bool.false_or] at na
  cases hz:zeroCells P e with
  | nil=>rw[hz] at na;cases na
  | cons y l=>
   rw[hz] at na h3 h5
   cases y<;>first|(cases na;done)|skip
   have aJ:0<z.cells.size:=by rw[h3];simp
   have:=h5 0 z.cells[0] .dH (lp aJ) rfl
   left
   rw[lp aJ]
   generalize z.cells[0]=u at this
   cases this;rfl
 exact ⟨_,_,_,_,by simp[Instr.alloc,zeroValue,typeInfo,h1,U,newVar,newRow],a,b,c⟩
theorem ZE (S:aC P w I β hp B M w0) {e:TypeId} {nb:Nat} {x:V} {v:Value} {r:R} {rd:List Nat} (hv:ak P w I β hp v x)
  (h:(Rd.aD (!(p9 P e)) <| me x.cells (gV nb (.var e x.cells) (.ptr nb 0 0) [])).run C hp=some (r,rd)):c7 P ((Instr.box e v).run P w) w I β hp B M w0 r:=by
 obtain ⟨na,h⟩:=aG h
 obtain ⟨e1,e2⟩:=JJ hv h
 obtain ⟨_,l,h⟩:=Fw h (vs:=v.cells.toList) (by simpa using e1) (fun j u y a b=>e2 j u y (by simpa using a) b)
 obtain ⟨hn,rfl⟩:=kW h
 obtain ⟨a,b,c⟩:=QN S (T:=e) hn e1 e2 fun ca=>by rw[ca] at na;cases na
 exact ⟨_,_,_,_,by simp[Instr.box,newVar,newRow],a,b,c⟩
theorem foldl_set (off:Nat): ∀(vs:List Value) (k:Nat) (cs:Array Value) (i:Nat),off+k+vs.length≤cs.size→
  ((vs.zipIdx k).foldl (fun cs p=>cs.setIfInBounds (off+p.2) p.1) cs)[i]? =if i<off+k then cs[i]? else if i<off+k+vs.length then vs[i-(off+k)]? else cs[i]?
 | [],k,cs,i,h=>by simp;intro h1 U;omega
 | v::vs,k,cs,i,h=>by
  simp only[List.zipIdx_cons,List.foldl_cons]
  simp only[List.length_cons] at h⊢
  rw[foldl_set off vs (k+1) _ i (by simp;omega)]
  by_cases h1:i<off+k
  ·rw[bf,aj h1]
   rw[Ez (by omega)]
  ·rw[an h1]
   by_cases U:i=off+k
   ·subst U
    rw[bf,bf]
    rw[I6 (by omega)]
    simp
   ·rw[aM]
    by_cases h3:i<off+k+(vs.length+1)
    ·rw[bf,aj h3,show i-(off+k)=(i-(off+(k+1)))+1 by omega]
     simp
    ·rw[aM,an h3,Ez (by omega)]
theorem QO (off:Nat): ∀(vs:List Value) (k:Nat) (cs:Array Value),((vs.zipIdx k).foldl (fun cs p=>cs.setIfInBounds (off+p.2) p.1) cs).size=cs.size
 | [],k,cs=>rfl
 | v::vs,k,cs=>by
  simp only[List.zipIdx_cons,List.foldl_cons]
  rw[QO off vs (k+1)]
  simp
theorem QP {cells:Array Value} {off:Nat} {v:Value} (h:off+v.cells.size≤cells.size) (i:Nat):
  (v.cells.zipIdx.foldl (fun cs (p:Value × Nat)=>cs.setIfInBounds (off+p.2) p.1) cells)[i]? =if i<off then cells[i]? else if i<off+v.cells.size then v.cells[i-off]? else cells[i]? :=by
 have:=foldl_set off v.cells.toList 0 cells i (by simpa using h)
 rw[←EA]
 simpa[Array.toList_zipIdx] using this
theorem QQ {cells:Array Value} {off:Nat} {v:Value}:(v.cells.zipIdx.foldl (fun cs (p:Value × Nat)=>cs.setIfInBounds (off+p.2) p.1) cells).size=cells.size:=by
 have:=QO off v.cells.toList 0 cells
 rw[←EA]
 simpa[Array.toList_zipIdx] using this
inductive xM (P:Program) (w:World) (I:Nat→Nat→Prop) (β:Nat→Option Nat) (hp:Nat→Option ai):List (Nat × Value)→List (Nat × V)→Prop
 | nil:xM P w I β hp [] []
 | cons {i:Nat} {v:Value} {x:V} {vs:List (Nat × Value)} {xs:List (Nat × V)}:v.cells.size=x.cells.length→(∀(j:Nat) u y,v.cells[j]? =some u→x.cells[j]? =some y→ak P w I β hp u y)→
   xM P w I β hp vs xs→xM P w I β hp ((i,v)::vs) ((i,x)::xs)
theorem QR (place:Nat→Option (Nat × Nat)): ∀{vs:List (Nat × Value)} {px:List (Nat × V)} {cells:Array Value} {xs ys:List V},xM P w I β hp vs px→cells.size=xs.length→
  (∀(j:Nat) v x,cells[j]? =some v→xs[j]? =some x→ak P w I β hp v x)→uF place xs px=some ys→
  ∃qn:Array Value,Instr.fill place cells vs=some qn∧qn.size=ys.length∧∀(j:Nat) v x,qn[j]? =some v→ys[j]? =some x→ak P w I β hp v x
 | _,_,cells,xs,ys,.nil,hs,hx,h=>by
  simp only[uF,ek] at h
  subst h
  exact ⟨cells,by simp[Instr.fill],hs,hx⟩
 | _,_,cells,xs,ys,@xM.cons _ _ _ _ _ i v x vs px h1 U h3,hs,hx,h=>by
  simp only[uF] at h
  cases ch:place i with
  | none=>rw[ch] at h;cases h
  | some os=>
   obtain ⟨off,size⟩:=os
   rw[ch] at h
   simp only at h
   cases hc:(Nat.beq x.cells.length size&&Nat.ble (off+size) xs.length) with
   | false=>rw[hc] at h;cases h
   | true=>
    rw[hc] at h
    simp only[cond_true] at h
    simp only[aO,aX,dq] at hc
    have hv:off+v.cells.size≤cells.size:=by omega
    have hb:off+x.cells.length≤xs.length:=by omega
    have hl:(gj xs off x.cells).length=xs.length:=A6 _ _ _ hb
    obtain ⟨qn,f1,f2,f3⟩:=QR place (cells:=v.cells.zipIdx.foldl (fun cs (p:Value × Nat)=>cs.setIfInBounds (off+p.2) p.1) cells) (xs:=gj xs off x.cells) h3 (by rw[QQ,hl,hs])
     (fun j u y hu hy=>by
      rw[QP hv] at hu
      unfold gj at hy
      rw[od _ _ _ _ hb] at hy
      by_cases j1:j<off
      ·rw[aj j1] at hu hy;exact hx j u y hu hy
      ·rw[an j1] at hu hy
       by_cases j2:j<off+x.cells.length
       ·rw[bf] at hu
        rw[aj j2] at hy
        exact U (j-off) u y hu hy
       ·rw[aM] at hu
        rw[an j2] at hy
        exact hx j u y hu hy) h
    refine ⟨qn,?_,f2,f3⟩
    simp only[Instr.fill,ch]
    rw[an (by simp;omega)]
    exact f1
theorem ZF {t:TypeId} {parts:Array (Nat × Value)} {cells:Array Value} {z:Value} {i:TypeInfo} (hi:P.info? t=some i) (hz:i.zero=some z) (h:Instr.fill (placeOf P t) z.cells parts.toList=some cells) (ha:bM P t=true)
  (ch: ∀fs,P.underlying t=some (.struct fs)→(fs.toList.mapM fun f=>(P.info? f.type).map fun i=>(f.offset,i.size)).isSome=true) (rE: ∀n e,P.underlying t=some (.array n e)→(P.info? e).isSome=true):
  (Instr.build t parts).run P w= .ok (.agg cells) w:=by
 refine run_build w t parts cells ?_
 unfold Program.built
 unfold bM at ha
 rw[hi]
 split at ha
 ·rename_i fs hu
  have:=ch fs hu
  cases hm:fs.toList.mapM fun f=>(P.info? f.type).map fun i=>(f.offset,i.size) with
  | none=>rw[hm] at this;cases this
  | some Jm=>
   simp only[hu,hz,hm]
   have hq:placeOf P t=fun i=>Jm[i]? :=by simp[placeOf,hu,hm]
   rw[hq] at h
   simpa using h
 ·rename_i n e hu
  have:=rE n e hu
  cases kg:P.info? e with
  | none=>rw[kg] at this;cases this
  | some ie=>
   simp only[hu,hz,kg]
   have hq:placeOf P t=fun i=>some (i*ie.size,ie.size):=by simp[placeOf,hu,kg]
   rw[hq] at h
   exact h
 ·cases ha
theorem QS {α:Type}: ∀(xs ys:List V) (k:Rd α),me (xs++ys) k=me xs (me ys k)
 | [],_,_=>rfl
 | x::xs,ys,k=>by simp only[List.cons_append,me,QS xs ys k]
theorem QT {a:Act} {sl:Nat→V} (hs:kS P w I β hp a sl) {G:Nat→V} (hg:gA P G w I) (t:TypeId) {α:Type}: ∀{l:List (Nat × Operand)} {k:Rd α} {r:α} {rd:List Nat},
  (me ((l.map fun p=>(aP P G t sl p.2).cells).flatten) k).run C hp=some (r,rd)→
  xM P w I β hp (l.map fun p=>(p.1,a.eval p.2)) (l.map fun p=>(p.1,aP P G t sl p.2))∧∃fq,k.run C hp=some (r,fq)
 | [],k,r,rd,h=>⟨.nil,rd,h⟩
 | (i,x)::l,k,r,rd,h=>by
  simp only[cM,List.flatten_cons,QS] at h
  obtain ⟨e1,e2⟩:=JJ (hs.ev hg t x) h
  obtain ⟨_,l1,h⟩:=Fw h (vs:=(a.eval x).cells.toList) (by simpa using e1) (fun j u y a b=>e2 j u y (by simpa using a) b)
  obtain ⟨h1,U⟩:=QT hs hg t h
  exact ⟨.cons e1 e2 h1,U⟩
theorem ZG (S:aC P w I β hp B M w0) {a:Act} {sl:Nat→V} (hs:kS P w I β hp a sl) {G:Nat→V} (hg:gA P G w I) {t ty:TypeId} {ps:Array (Nat × Operand)} {r:R} {rd:List Nat}
  (h:(Rd.aD (cR P t&&(bM P t&&E0 P t)) (me ((ps.toList.map fun p=>(aP P G ty sl p.2).cells).flatten)
   (xo (uF (placeOf P t) (zeroCells P t) (ps.toList.map fun p=>(p.1,aP P G ty sl p.2))) fun cs=> .ret ⟨.agg cs,[]⟩))).run C hp=some (r,rd)):
  c7 P ((Instr.build t (ps.map fun (i,x)=>(i,a.eval x))).run P w) w I β hp B M w0 r:=by
 obtain ⟨ar,h⟩:=aG h
 simp only[aO] at ar
 obtain ⟨h1,l,h⟩:=QT hs hg ty h
 cases hf:uF (placeOf P t) (zeroCells P t) (ps.toList.map fun p=>(p.1,aP P G ty sl p.2)) with
 | none=>rw[hf] at h;cases h
 | some cs=>
  rw[hf] at h
  obtain rfl:=aT h
  obtain ⟨i,z,hi,hz,h3,h4,h5⟩:=QM (w:=w) (I:=I) (β:=β) (hp:=hp) ar.1
  obtain ⟨cells,f1,f2,f3⟩:=QR (placeOf P t) h1 h3 h5 hf
  have QU:=ar.2.2
  refine .same S (v:= .agg cells) (ZF hi hz (by simpa using f1) ar.2.1 (fun fs hu=> ?_) (fun n e hu=> ?_)) (.agg f2 f3)
  ·simpa[E0,hu] using QU
  ·simpa[E0,hu] using QU
theorem ZH (cJ: ∀id blk,hp id=some blk→eb P w I β hp (β id) blk) {x:V} {v:Value} {ys:List V} {fr:List (Nat × ai)} {rd:List Nat} {ts:List TypeId} (hv:ak P w I β hp v x)
  (h:(sK P x.cells).run C hp=some ((ys,fr),rd)) (ht:qW P ts ys=true):
  v.cells.size=x.cells.length∧∀(j:Nat) u y,v.cells.toList[j]? =some u→x.cells[j]? =some y→ak P w I β hp u y:=by
 cases x with
 | agg xs=>
  obtain ⟨cs,rfl,h1,U⟩:=hv.kb
  exact ⟨h1,fun j u y a b=>U j u y (by simpa[Value.cells] using a) b⟩
 | _=>
  simp only[V.cells] at h⊢
  simp only[sK] at h
  obtain ⟨⟨y1,u1⟩,l3,l4,hq,h⟩:=lD h
  obtain ⟨q1,q2⟩:=Fk cJ hq hv
  obtain ⟨⟨y2,u2⟩,l5,l6,Bd,h⟩:=lD h
  cases Bd
  have:=aT h
  cases this
  obtain ⟨tl,tg⟩:=uZ ht
  have gd:=tg 0 _ y1 (bA (by rw[tl];exact Nat.one_pos)) rfl
  have ch:=q2 (jo P w I β hp u1) (fun _ _ h=> .inl h) (fun p hp b j h=> .inr ⟨p,hp,h⟩)
  have ho:=ch.pure gd
  have JY:v.cells= #[v]:=by cases ho<;>rfl
  rw[JY]
  refine ⟨rfl,fun j u y hu hy=> ?_⟩
  cases j with
  | zero=>simp at hu hy;subst hu;subst hy;exact hv
  | succ j=>simp at hy
def xN (P:Program) (w:World) (I:Nat→Nat→Prop) (e:TypeId) (cells:Array Value) (es:List V):Prop:=
 cells.size=es.length*P.cellsOf e∧∀(i j:Nat) (x:V) (t':TypeId),es[i]? =some x→(aW P e)[j]? =some t'→j<P.cellsOf e→∃v,cells[i*P.cellsOf e+j]? =some v∧Pure P w I t' v (bR P e x j)
theorem xN.set {e:TypeId} {cells:Array Value} {es ys:List V} {i:Nat} {v:Value} (h:xN P w I e cells es) (hi:i<es.length) (hv:v.cells.size=P.cellsOf e) (hy:ys.length=P.cellsOf e)
  (hr: ∀(j:Nat) (t':TypeId) (u:Value) (y:V),(aW P e)[j]? =some t'→v.cells[j]? =some u→ys[j]? =some y→Pure P w I t' u y):
  xN P w I e (v.cells.zipIdx.foldl (fun cs (p:Value × Nat)=>cs.setIfInBounds (i*P.cellsOf e+p.2) p.1) cells) (es.set i (cS P e ys)):=by
 obtain ⟨h1,U⟩:=h
 have hb:i*P.cellsOf e+v.cells.size≤cells.size:=by
  have:(i+1)*P.cellsOf e≤es.length*P.cellsOf e:=dF _ hi
  rw[dG] at this
  omega
 refine ⟨by rw[QQ,mT,h1],fun i' j x t' hx ht hj=> ?_⟩
 rw[QP hb]
 rw[List.getElem?_set] at hx
 by_cases js:i=i'
 ·subst js
  rw[aj rfl,aj hi] at hx
  cases hx
  rw[aM,bf,show i*P.cellsOf e+j-i*P.cellsOf e=j by omega]
  have h3:j<v.cells.size:=by omega
  have h4:j<ys.length:=by omega
  refine ⟨v.cells[j],lp h3,?_⟩
  rw[rA (bA h4) ht]
  exact hr j t' _ _ ht (lp h3) (bA h4)
 ·rw[an js] at hx
  have bq:i'*P.cellsOf e+j<i*P.cellsOf e∨i*P.cellsOf e+v.cells.size≤i'*P.cellsOf e+j:=by
   rcases pY i' i with aJ|mA
   ·left
    have:(i'+1)*P.cellsOf e≤i*P.cellsOf e:=dF _ aJ
    rw[dG] at this
    omega
   ·right
    have:(i+1)*P.cellsOf e≤i'*P.cellsOf e:=dF _ (by omega)
    rw[dG] at this
    omega
  rcases bq with bq|bq
  ·rw[aj bq];exact U i' j x t' hx ht hj
  ·rw[aM,aM];exact U i' j x t' hx ht hj
theorem ZI {t':TypeId} {v:Value} (gd:fm P t' (xi (p7 P t' v))=true):Pure P w I t' v (xi (p7 P t' v)):=by
 have hc:=ak.const (P:=P) (w:=w) (I:=I) (β:=fun _=>none) (hp:=fun _=>none) t' v
 cases u9:p7 P t' v<;>rw[u9] at gd hc<;>simp only[xi] at gd⊢
 case int k n=>rw[hc.en];exact Plain.pure (v:= .int k n) (y:= .int k n) rfl gd
 case bool b=>rw[hc.kT];exact Plain.pure (v:= .bool b) (y:= .bool b) rfl gd
 case str l=>obtain ⟨s,e1,e2⟩:=hc.m9;rw[e1];exact Plain.pure (v:= .string s) (y:= .str l) ⟨s,rfl,e2⟩ gd
 case nilS e'=>
  cases hc
  exact Plain.pure (y:= .list e' []) (jm.any fun _=>rfl) gd
 case list e' es=>
  cases hc with
  | list hp=>exact Plain.pure (y:= .list e' es) hp gd
 all_goals (unfold fm at gd;split at gd<;>simp_all)
theorem Be {e:TypeId} (h:mV P e=true): ∃i z,P.info? e=some i∧i.zero=some z∧i.size=P.cellsOf e∧z.cells.size=P.cellsOf e∧
  ∀(j:Nat) (t':TypeId),(aW P e)[j]? =some t'→j<P.cellsOf e→∃v,z.cells[j]? =some v∧Pure P w I t' v (bR P e (cS P e (e8 P e)) j):=by
 unfold mV at h
 simp only[aO] at h
 obtain ⟨i,z,h1,U,h3,h4,h5⟩:=jt h.1
 refine ⟨i,z,h1,U,h3,h4,fun j t' ht hj=> ?_⟩
 obtain ⟨tl,tg⟩:=uZ h.2
 have b9:j<(e8 P e).length:=by rw[←tl,(lE h.1).1];exact hj
 have hz:=bA b9
 have gd:=tg j t' _ (by rw[←qg];exact ht) hz
 refine ⟨z.cells[j],lp (by omega),?_⟩
 rw[rA hz ht]
 have va:(e8 P e)[j]=xi (p7 P t' z.cells[j]):=by
  have:(e8 P e)[j]? =((zeroCells P e)[j]?).map xi:=by simp[e8]
  rw[hz] at this
  cases hc:(zeroCells P e)[j]? with
  | none=>rw[hc] at this;cases this
  | some y=>
   rw[hc] at this
   simp only[Option.map_some,ek] at this
   rw[h5] at hc
   obtain ⟨t2,v2,a1,a2,rfl⟩:=JZ hc
   have ZJ:t2=t':=by
    rw[←qg,ht] at a1;exact (dh a1).symm
   have rr:v2=z.cells[j]:=by
    have ZK:j<z.cells.size:=by omega
    have:z.cells.toList[j]? =some z.cells[j]:=by simp[ZK]
    rw[this] at a2;exact (dh a2).symm
   rw[this,ZJ,rr]
 rw[va] at gd⊢
 exact ZI gd
end
section
variable {P:Program} {w w':World} {I I':Nat→Nat→Prop} {β β':Nat→Option Nat} {hp hp':Nat→Option ai} {C:ah} {B:Nat} {M:Nat→Prop} {w0:Start}
theorem xO (S:aC P w I β hp B M w0) {nb cap:Nat} {fz:Bool} {e:TypeId} {es:List V} {C0:Array Value} (ar:cR P e=true) (hn:hp nb=none) (hs:C0.size=cap*P.cellsOf e) (hl:es.length≤cap) (hm:cap≤maxLen)
  (hx: ∀(i j:Nat) (x:V) (t':TypeId),es[i]? =some x→(aW P e)[j]? =some t'→j<P.cellsOf e→∃v,C0[i*P.cellsOf e+j]? =some v∧Pure P w I t' v (bR P e x j)):
  Le P w I β hp (w.alloc (.cells C0 e)) I (ax β nb (some w.heap.size)) (ax hp nb (some (.arr e es fz)))∧aC P (w.alloc (.cells C0 e)) I (ax β nb (some w.heap.size)) (ax hp nb (some (.arr e es fz))) B M w0∧
  ak P (w.alloc (.cells C0 e)) I (ax β nb (some w.heap.size)) (ax hp nb (some (.arr e es fz))) (.slice (some ⟨w.heap.size,0,none⟩) es.length cap) (.whole e nb):=by
 obtain ⟨h1,U⟩:=JE S (blk:= .arr e es fz) (c:=C0) (T:=e) hn (fun b' h=>(dh (h.flat (by simp))).symm) (fun hle dt cW=> .arr ar rfl dt (by rw[hs];exact dF _ hl) (fun _ j h=>absurd h (cW j)) (fun _=>cW) fun i j x t' a b c=>by
  obtain ⟨v,hv,hp⟩:=hx i j x t' a b c
  exact ⟨v,hv,hp.mono hle.dC hle.cx⟩)
 refine ⟨h1,U,.whole (bS _ _ _) (bS _ _ _) ?_ hl hm⟩
 rw[jL (heap_alloc_new w (.cells C0 e)),hs]
theorem QV {b n:Nat} {Ca C':Array Value} {T T':TypeId} {f f':Nat × Nat} (hh:w.heap[b]? =some (.cells Ca T f)) (ZL:w'.heap[b]? =some (.cells C' T' f')) (hI: ∀j,I b j→j<n) (hp: ∀j,j<n→C'[j]? =Ca[j]?) (j:Nat) (h:I b j):
  w'.cell? ⟨b,j,none⟩=w.cell? ⟨b,j,none⟩:=by
 rw[cell?_cells hh,cell?_cells ZL]
 exact hp j (hI j h)
theorem J0 {b n:Nat} {fz:Bool} (hf:fz=true→∀j,I b j→j<n) (dP:fz=false→∀j,¬I b j): ∀j,I b j→j<n:=by
 intro j h
 cases fz with
 | true=>exact hf rfl j h
 | false=>exact absurd h (dP rfl j)
theorem At.only {b b':Nat} {e e':TypeId} {es aN:List V} {q:Path} (hz: ∀(i j:Nat) x t' e1 l,es[i]? =some x→(aW P e)[j]? =some t'→bR P e x j= .list e1 l→l=[])
  (h:At P w b e es q b' e' aN):q=[]∧b'=b∧e'=e∧aN=es:=by
 cases h with
 | here=>exact ⟨rfl,rfl,rfl,rfl⟩
 | step h1 U h3 h4 h5 h6=>have:=hz _ _ _ _ _ _ U h3 h5;subst this;simp at h6
theorem m7.rn {t:TypeId} {v:Value} {x:V} (h:Pure P w I t v x) (hz: ∀e1 l,x= .list e1 l→l=[]):m7 P w I t v x:=by
 cases h with
 | int h=>exact .fB (by unfold eu;rw[h]) (.int h)
 | bool h=>exact .fB (by unfold eu;rw[h]) (.bool h)
 | str h hl=>exact .fB (by unfold eu;rw[h]) (.str h hl)
 | nil h=>exact .emp h fun _=>rfl
 | emp h=>exact .emp h fun h=>by cases h
 | list g hu hl _ _ _ _=>
  have:=hz _ _ rfl
  subst this
  simp at hl
  subst hl
  exact .emp hu fun h=>by cases h
theorem ZM (S:aC P w I β hp B M w0) {nb cap:Nat} {e:TypeId} {es:List V} {C0:Array Value} (ar:cR P e=true) (hn:hp nb=none) (hs:C0.size=cap*P.cellsOf e) (hl:es.length≤cap) (hm:cap≤maxLen)
  (hx: ∀(i j:Nat) (x:V) (t':TypeId),es[i]? =some x→(aW P e)[j]? =some t'→j<P.cellsOf e→∃v,C0[i*P.cellsOf e+j]? =some v∧Pure P w I t' v (bR P e x j))
  (hz: ∀(i j:Nat) x t' e1 l,es[i]? =some x→(aW P e)[j]? =some t'→bR P e x j= .list e1 l→l=[]):
  Le P w I β hp (w.alloc (.cells C0 e)) I (ax β nb (some w.heap.size)) (ax hp nb (some (.nest e es [0,0,0])))∧aC P (w.alloc (.cells C0 e)) I (ax β nb (some w.heap.size)) (ax hp nb (some (.nest e es [0,0,0]))) B M w0∧
  ak P (w.alloc (.cells C0 e)) I (ax β nb (some w.heap.size)) (ax hp nb (some (.nest e es [0,0,0]))) (.slice (some ⟨w.heap.size,0,none⟩) es.length cap) (.whole e nb):=by
 obtain ⟨h1,U⟩:=JE S (blk:= .nest e es [0,0,0]) (c:=C0) (T:=e) hn (fun b' h=>by
   cases h with
   | root _ h=>exact (dh h).symm
   | row h ha=>cases h;exact (At.only hz ha).2.1)
  (fun hle dt cW=> .nest rfl (fun q b' e' aN ha=>by
   obtain ⟨rfl,rfl,rfl,rfl⟩:=At.only hz ha
   refine ⟨ar,⟨C0,dt,by rw[hs];exact dF _ hl,fun i j x t' a b c=> ?_⟩,cW⟩
   obtain ⟨v,hv,hp⟩:=hx i j x t' a b c
   exact ⟨v,hv,.rn (hp.mono hle.dC hle.cx) fun e1 l h=>hz i j x t' e1 l a b h⟩)
   fun q1 q2 b' e1 cF e2 ct a1 a2=>(At.only hz a1).1.trans (At.only hz a2).1.symm)
 refine ⟨h1,U,.di (bS _ _ _) (bS _ _ _) ?_ hl hm⟩
 rw[jL (heap_alloc_new w (.cells C0 e)),hs]
theorem QW (cJ: ∀id blk,hp id=some blk→eb P w I β hp (β id) blk) {a:Act} {sl:Nat→V} (hs:kS P w I β hp a sl) {G:Nat→V} (hg:gA P G w I) {e:TypeId} {len:Nat}: ∀{l:List (Nat × Operand)} {ps:List (Nat × V)} {upd:List (Nat × ai)} {rd:List Nat},
  (Av P e len (l.map fun p=>(p.1,aP P G e sl p.2))).run C hp=some ((ps,upd),rd)→cR P e=true→(∀p∈upd,AT hp p)∧∀I':Nat→Nat→Prop,(∀b j,I b j→I' b j)→(∀p∈upd,∀b j,s5 P w β hp p.1 b j→I' b j)→
   ∀(cells:Array Value) (es:List V),es.length=len→xN P w I' e cells es→∃qn,Instr.fill (fun i=>some (i*P.cellsOf e,P.cellsOf e)) cells (l.map fun p=>(p.1,a.eval p.2))=some qn∧xN P w I' e qn (Au es ps)∧(Au es ps).length=len
 | [],ps,upd,rd,h,_=>by
  cases h
  exact ⟨by simp,fun I' _ _ cells es hl he=>⟨cells,by simp[Instr.fill],he,hl⟩⟩
 | (i,x)::l,ps,upd,rd,h,ar=>by
  simp only[cM,Av] at h
  obtain ⟨⟨ys,u1⟩,l1,l2,h1,h⟩:=lD h
  obtain ⟨hc,h⟩:=aG h
  obtain ⟨⟨ps',u2⟩,l3,l4,U,h⟩:=lD h
  have:=aT h
  cases this
  simp only[aO,jZ] at hc
  obtain ⟨hi,gd⟩:=hc
  obtain ⟨tl,tg⟩:=uZ gd
  have nc:=hs.ev hg e x
  obtain ⟨v1,v2⟩:=ZH cJ nc h1 gd
  obtain ⟨k1,k2,k3⟩:=JB cJ h1 (vs:=(a.eval x).cells.toList) (by simpa using v1) v2
  obtain ⟨m1,m2⟩:=QW cJ hs hg U ar
  refine ⟨fun p hp=> ?_,fun I' i1 i2 cells es hl he=> ?_⟩
  ·rcases eZ.1 hp with h|h
   ·exact k2 p h
   ·exact m1 p h
  ·have ch:=k3 I' i1 (fun p hp=>i2 p (eZ.2 (.inl hp)))
   have aU:=(lE ar).1
   have u6:ys.length=P.cellsOf e:=by rw[←tl,aU]
   have Qx:(a.eval x).cells.size=P.cellsOf e:=by rw[v1,←k1,u6]
   have iD:=he.set (i:=i) (ys:=ys) (by omega) Qx u6 (fun j t' u y ht hu hy=>by
    exact (ch j u y (by simpa using hu) hy).pure (tg j t' y (by rw[←qg];exact ht) hy))
   obtain ⟨qn,f1,f2,f3⟩:=m2 I' i1 (fun p hp=>i2 p (eZ.2 (.inr hp))) _ (es.set i (cS P e ys)) (by simpa using hl) iD
   refine ⟨qn,?_,f2,f3⟩
   have hb:i*P.cellsOf e+P.cellsOf e≤cells.size:=by
    rw[he.1,hl]
    have:(i+1)*P.cellsOf e≤len*P.cellsOf e:=dF _ hi
    rw[dG] at this
    omega
   simp only[cM,Instr.fill]
   rw[an (by simp;omega)]
   exact f1
theorem QX {z:Array Value} {n k:Nat} (hk:k<n) (hz:0<z.size):((Array.range n).map (z[· %z.size]!))[k]? =z[k %z.size]? :=by
 have hm:k %z.size<z.size:=Nat.mod_lt _ hz
 simp[hk,hm]
theorem FG {e:TypeId} (h:mV P e=true) {i:TypeInfo} {z:Value} (hi:P.info? e=some i) (hz:i.zero=some z) (n m:Nat) (ma:n≤m):
  ∀(k j:Nat) (x:V) (t':TypeId),(List.replicate n (cS P e (e8 P e)))[k]? =some x→(aW P e)[j]? =some t'→j<P.cellsOf e→
   ∃v,((Array.range (m*P.cellsOf e)).map (z.cells[· %z.cells.size]!))[k*P.cellsOf e+j]? =some v∧Pure P w I t' v (bR P e x j):=by
 intro k j x t' hx ht hj
 obtain ⟨i2,z2,h1,U,h3,h4,h5⟩:=Be (w:=w) (I:=I) h
 rw[hi] at h1;cases h1
 rw[hz] at U;cases U
 rw[List.getElem?_replicate] at hx
 split at hx
 ·rename_i hk
  cases hx
  obtain ⟨v,hv,hp⟩:=h5 j t' ht hj
  refine ⟨v,?_,hp⟩
  have hb:k*P.cellsOf e+j<m*P.cellsOf e:=by
   have:(k+1)*P.cellsOf e≤m*P.cellsOf e:=dF _ (by omega)
   rw[dG] at this
   omega
  rw[QX hb (by omega),h4,show (k*P.cellsOf e+j) %P.cellsOf e=j by rw[oO,Nat.mul_add_mod];exact Nat.mod_eq_of_lt hj]
  exact hv
 ·cases hx
theorem J1 {P:Program} (w:World) (t e:TypeId) (len:Nat) (parts:Array (Nat × Value)) (cells:Array Value) (ie:TypeInfo) (z:Value)
  (hu:P.underlying t=some (.slice e)) (kg:P.info? e=some ie) (hz:ie.zero=some z) (ZN: ¬len*ie.size>2^24)
  (h:Instr.fill (fun i=>some (i*ie.size,ie.size)) ((Array.range (len*ie.size)).map (z.cells[· %z.cells.size]!)) parts.toList=some cells):
  (Instr.buildSlice t len parts).run P w= .ok (.slice (some ⟨w.heap.size,0,none⟩) len len) (w.alloc (.cells cells e)):=by
 by_cases ma:len*ie.size=0
 ·have h0: ∀g:Nat→Value,(Array.range (len*ie.size)).map g= #[]:=by intro g;exact Array.eq_empty_of_size_eq_zero (by simp[ma])
  have hp: ∀(u:Array Value),(Pure.pure u:Sem (Array Value)).run P w= .ok u w:=fun _=>rfl
  rw[h0] at h
  simp only[Instr.buildSlice,Sem.run_bind,run_underlying hu,Result.andThen_ok,sizeOf,typeInfo,kg]
  have h1:(Array.range (len*ie.size)).map (fun _:Nat=>(default:Value))= #[]:=h0 _
  have hs: ¬16777216<len*ie.size:=by omega
  simp[kg,hs,ma]
  simp only[ma] at h1
  simp[h1,h,newRow]
 ·exact run_buildSlice w t e len parts cells ie z hu kg hz ZN ma h
theorem QY (S:aC P w I β hp B M w0) {a:Act} {sl:Nat→V} (hs:kS P w I β hp a sl) {G:Nat→V} (hg:gA P G w I) {t e:TypeId} {len nb:Nat} {ps:Array (Nat × Operand)} {r:R} {rd:List Nat} (hu:P.underlying t=some (.slice e))
  (h:(Rd.aD (mV P e&&Nat.ble (len*P.cellsOf e) (2^24)) ((Av P e len (ps.toList.map fun p=>(p.1,aP P G e sl p.2))).bind fun r=>
    gV nb (.arr e (Au (List.replicate len (cS P e (e8 P e))) r.1) false) (.whole e nb) r.2)).run C hp=some (r,rd)):
  c7 P ((Instr.buildSlice t len (ps.map fun (i,x)=>(i,a.eval x))).run P w) w I β hp B M w0 r:=by
 obtain ⟨hc,h⟩:=aG h
 simp only[aO,dq] at hc
 obtain ⟨dg,sY⟩:=hc
 have ar:cR P e=true:=by
  unfold mV at dg;simp only[aO] at dg;exact dg.1
 obtain ⟨⟨pv,upd⟩,l1,l2,h1,h⟩:=lD h
 obtain ⟨hn,rfl⟩:=kW h
 obtain ⟨m1,m2⟩:=QW S.h.rel hs hg h1 ar
 obtain ⟨rC,S1⟩:=AY S m1
 obtain ⟨i,z,hi,hz,h3,h4,_⟩:=Be (w:=w) (I:=I) dg
 have iE:=(lE ar).2
 have h0:xN P w (jo P w I β hp upd) e ((Array.range (len*P.cellsOf e)).map (z.cells[· %z.cells.size]!)) (List.replicate len (cS P e (e8 P e))):=
  ⟨by simp,FG dg hi hz len len (cl _)⟩
 obtain ⟨cells,f1,f2,f3⟩:=m2 (jo P w I β hp upd) (fun _ _ h=> .inl h) (fun p hp b j h=> .inr ⟨p,hp,h⟩) _ _ (by simp) h0
 have jO:bW hp upd nb=none:=by
  rcases uR (hp:=hp) (l:=upd) (id:=nb) with h|⟨b',hm,_⟩
  ·exact h.trans hn
  ·obtain ⟨e1,cF,_,h5⟩:=m1 _ hm
   simp only[hn] at h5
   rcases h5 with ⟨_,h5⟩|⟨_,h5⟩<;>cases h5
 have oZ:len≤maxLen:=by
  have:len*1≤len*P.cellsOf e:=sD _ iE
  simp only[maxLen]
  omega
 obtain ⟨n1,n2,n3⟩:=xO S1 (cap:=len) ar jO (by rw[f2.1,f3]) (by rw[f3];exact cl _) oZ f2.2
 have cG:=J1 w t e len (ps.map fun (i,x)=>(i,a.eval x)) cells i z hu hi hz (by rw[h3];omega) (by rw[h3];simpa using f1)
 refine ⟨_,_,_,_,cG,rC.trans n1,n2,?_⟩
 rw[f3] at n3
 exact n3
theorem QZ (S:aC P w I β hp B M w0) {t e:TypeId} {nb:Nat} {kl kc:IntKind} {n m:Int} {r:R} {rd:List Nat} (hu:P.underlying t=some (.slice e))
  (h:(Rd.aD (mV P e&&(decide (0≤n)&&(decide (n≤m)&&Nat.ble (m.toNat*P.bytesOf e) bZ)))
    (gV nb (.arr e (List.replicate n.toNat (cS P e (e8 P e))) false) (.whole e nb) [])).run C hp=some (r,rd)):
  c7 P ((Instr.makeSlice t (.int kl n) (.int kc m)).run P w) w I β hp B M w0 r:=by
 obtain ⟨hc,h⟩:=aG h
 simp only[aO,dq,ej] at hc
 obtain ⟨dg,h0,ma,dL⟩:=hc
 have ar:cR P e=true:=by
  unfold mV at dg;simp only[aO] at dg;exact dg.1
 obtain ⟨hn,rfl⟩:=kW h
 obtain ⟨i,z,hi,hz,h3,h4,_⟩:=Be (w:=w) (I:=I) dg
 have kX:P.bytesOf e=i.bytes:=by simp[Program.bytesOf,hi]
 have J2:m≤9223372036854775807:=by
  have h1:m.toNat*1≤m.toNat*P.bytesOf e:=sD _ (uQ ar)
  simp only[bZ] at dL
  omega
 have cG:=run_make (P:=P) w t e i z hu hi hz kl kc n m h0 ma (by
  rw[kX] at dL
  simp only[bZ] at dL
  have:(i.bytes:Int)*m=((m.toNat*i.bytes:Nat):Int):=by
   rw[Int.natCast_mul,Int.toNat_of_nonneg (by omega),Int.mul_comm]
  rw[this]
  omega) J2
 have hlen:(List.replicate n.toNat (cS P e (e8 P e))).length=n.toNat:=by simp
 obtain ⟨n1,n2,n3⟩:=xO S (cap:=m.toNat) (es:=List.replicate n.toNat (cS P e (e8 P e))) (C0:=madeCells z.cells (m.toNat*i.size)) ar hn (by rw[size_madeCells,h3]) (by rw[hlen];omega) (by simp only[maxLen];omega)
  (by rw[h3];exact FG dg hi hz n.toNat m.toNat (by omega))
 refine ⟨_,_,_,_,cG,n1,n2,?_⟩
 rw[hlen] at n3
 exact n3
theorem J3: ∀{l:List V} {j:Nat} {e1:TypeId} {k:List V},AF l=true→V.nth l j= .list e1 k→k=[]
 | [],j,e1,k,_,h=>by cases j<;>cases h
 | x::l,0,e1,k,hn,h=>by
  simp only[V.nth] at h
  subst h
  cases k with
  | nil=>rfl
  | cons _ _=>cases hn
 | x::l,j+1,e1,k,hn,h=>by
  refine J3 (l:=l) (j:=j) ?_ h
  cases x with
  | list e2 k2=>
   cases k2 with
   | nil=>exact hn
   | cons _ _=>cases hn
  | _=>exact hn
theorem ZO {e:TypeId} {n:Nat} (ar:cR P e=true) (h:AF (e8 P e)=true):
  ∀(i j:Nat) x t' e1 l,(List.replicate n (cS P e (e8 P e)))[i]? =some x→(aW P e)[j]? =some t'→bR P e x j= .list e1 l→l=[]:=by
 intro i j x t' e1 l hx ht hl
 have:=List.eq_of_mem_replicate (jg hx)
 subst this
 unfold bR cS at hl
 cases ha:bM P e with
 | true=>rw[ha] at hl;exact J3 h hl
 | false=>rw[ha] at hl;exact J3 h hl
theorem ZP (S:aC P w I β hp B M w0) {t e:TypeId} {nb:Nat} {kl kc:IntKind} {n m:Int} {r:R} {rd:List Nat} (hu:P.underlying t=some (.slice e))
  (h:(Rd.aD (mV P e&&(decide (0≤n)&&(decide (n≤m)&&Nat.ble (m.toNat*P.bytesOf e) bZ)))
    (Rd.aD (AF (e8 P e)) (gV nb (.nest e (List.replicate n.toNat (cS P e (e8 P e))) [0,0,0]) (.whole e nb) []))).run C hp=some (r,rd)):
  c7 P ((Instr.makeSlice t (.int kl n) (.int kc m)).run P w) w I β hp B M w0 r:=by
 obtain ⟨hc,h⟩:=aG h
 simp only[aO,dq,ej] at hc
 obtain ⟨dg,h0,ma,dL⟩:=hc
 have ar:cR P e=true:=by
  unfold mV at dg;simp only[aO] at dg;exact dg.1
 obtain ⟨ZQ,h⟩:=aG h
 obtain ⟨hn,rfl⟩:=kW h
 obtain ⟨i,z,hi,hz,h3,h4,_⟩:=Be (w:=w) (I:=I) dg
 have kX:P.bytesOf e=i.bytes:=by simp[Program.bytesOf,hi]
 have J2:m≤9223372036854775807:=by
  have h1:m.toNat*1≤m.toNat*P.bytesOf e:=sD _ (uQ ar)
  simp only[bZ] at dL
  omega
 have cG:=run_make (P:=P) w t e i z hu hi hz kl kc n m h0 ma (by
  rw[kX] at dL
  simp only[bZ] at dL
  have:(i.bytes:Int)*m=((m.toNat*i.bytes:Nat):Int):=by
   rw[Int.natCast_mul,Int.toNat_of_nonneg (by omega),Int.mul_comm]
  rw[this]
  omega) J2
 have hlen:(List.replicate n.toNat (cS P e (e8 P e))).length=n.toNat:=by simp
 obtain ⟨n1,n2,n3⟩:=ZM S (cap:=m.toNat) (es:=List.replicate n.toNat (cS P e (e8 P e))) (C0:=madeCells z.cells (m.toNat*i.size)) ar hn (by rw[size_madeCells,h3]) (by rw[hlen];omega) (by simp only[maxLen];omega)
  (by rw[h3];exact FG dg hi hz n.toNat m.toNat (by omega))
  (ZO ar ZQ)
 refine ⟨_,_,_,_,cG,n1,n2,?_⟩
 rw[hlen] at n3
 exact n3
theorem Pure.one {t:TypeId} {v:Value} {x:V} (h:Pure P w I t v x):v.oneCell'=true:=by cases h<;>rfl
structure Row (P:Program) (w:World) (I:Nat→Nat→Prop) (e:TypeId) (v:Value) (xs:List V) (a:Addr) (c:Nat) (news:List Value):Prop where
 val:v= .slice (some a) xs.length c
 len:news.length=xs.length*P.cellsOf e
 cell: ∀(j:Nat) u,news[j]? =some u→w.cell? (a.add j)=some u
 el: ∀(i j:Nat) (x:V) (t':TypeId),xs[i]? =some x→(aW P e)[j]? =some t'→j<P.cellsOf e→∃u,news[i*P.cellsOf e+j]? =some u∧Pure P w I t' u (bR P e x j)
theorem Row.one {e:TypeId} {v:Value} {xs:List V} {a:Addr} {c:Nat} {news:List Value} (h:Row P w I e v xs a c news) (ar:cR P e=true): ∀u∈news,u.oneCell'=true:=by
 intro u hu
 obtain ⟨k,hk⟩:=qR hu
 have fO:=(bm.1 hk).1
 have iE:=(lE ar).2
 rw[h.len] at fO
 have hi:k/P.cellsOf e<xs.length:=Nat.div_lt_of_lt_mul (by rw[oO];exact fO)
 have hj:k %P.cellsOf e<P.cellsOf e:=Nat.mod_lt _ iE
 have gZ:k %P.cellsOf e<(aW P e).length:=by rw[eR ar];exact hj
 obtain ⟨u',gp,hp⟩:=h.el (k/P.cellsOf e) (k %P.cellsOf e) _ _ (bA hi) (bA gZ) hj
 rw[Nat.div_add_mod'] at gp
 rw[hk] at gp
 cases gp
 exact hp.one
theorem Q0 {e:TypeId} {es:List V} {b:Nat} {Ca:Array Value} {off len cap o:Nat} (hh:w.heap[b]? =some (.cells Ca e (0,0))) (hs:es.length*P.cellsOf e≤Ca.size)
  (hx: ∀(i j:Nat) (x:V) (t':TypeId),es[i]? =some x→(aW P e)[j]? =some t'→j<P.cellsOf e→∃v,Ca[i*P.cellsOf e+j]? =some v∧Pure P w I t' v (bR P e x j))
  (kR:off+len≤es.length) (ho:0<len→o=off*P.cellsOf e):
  Row P w I e (.slice (some ⟨b,o,none⟩) len cap) ((es.drop off).take len) ⟨b,o,none⟩ cap ((Ca.toList.drop (off*P.cellsOf e)).take (len*P.cellsOf e)):=by
 have hlen:((es.drop off).take len).length=len:=by simp;omega
 have hb:(off+len)*P.cellsOf e≤Ca.size:=lX (dF _ kR) hs
 rw[dG] at hb
 refine ⟨by rw[hlen],by rw[hlen];simp;omega,fun j u hj=> ?_,fun i j x t' gX ht hj=> ?_⟩
 ·have b9:=(bm.1 hj).1
  have J4:j<len*P.cellsOf e:=by
   rw[eI] at b9;omega
  have gW:0<len:=by
   rcases Nat.eq_zero_or_pos len with h|h
   ·rw[h] at J4;simp at J4
   ·exact h
  rw[dU J4,iP] at hj
  rw[mn,cell?_cells hh,ho gW]
  simpa using hj
 ·have hi:i<len:=by rw[←hlen];exact (bm.1 gX).1
  rw[dU hi,iP] at gX
  obtain ⟨u,hu,hp⟩:=hx (off+i) j x t' gX ht hj
  refine ⟨u,?_,hp⟩
  have:i*P.cellsOf e+j<len*P.cellsOf e:=by
   have:(i+1)*P.cellsOf e≤len*P.cellsOf e:=dF _ hi
   rw[dG] at this
   omega
  rw[dU this,iP]
  rw[dG] at hu
  rw[←l8]
  simpa using hu
theorem FH (cJ: ∀id blk,hp id=some blk→eb P w I β hp (β id) blk) {e:TypeId} {v:Value} {x:V} {k:List V→Rd R} {r:R} {rd:List Nat} (ar:cR P e=true) (hv:ak P w I β hp v x)
  (h:(sO e x k).run C hp=some (r,rd)): ∃xs,(((∃a,v= .slice a 0 0)∧xs=[])∨∃a c news,Row P w I e v xs a c news)∧∃l,(k xs).run C hp=some (r,l):=by
 cases hv with
 | list hp'=>
  obtain ⟨hc,U⟩:=aG h
  clear h
  rw[aX] at hc
  subst hc
  cases hp' with
  | nil=>exact ⟨[],.inl ⟨⟨_,rfl⟩,rfl⟩,rd,U⟩
  | @emp a cap=>exact ⟨[],.inr ⟨a,cap,[],⟨rfl,by simp,fun j u hj=>by simp at hj,fun i j x t' hx _ _=>by simp at hx⟩⟩,rd,U⟩
  | @list b o len cap es g hl b6 hI fM hx=>
   refine ⟨_,.inr ⟨⟨b,o,none⟩,cap,(List.range (len*P.cellsOf e)).map fun k=>g (k/P.cellsOf e) (k %P.cellsOf e),⟨by rw[hl],by rw[hl];simp,fun j u hj=> ?_,fun i j x t' gX ht hj=> ?_⟩⟩,rd,U⟩
   ·obtain ⟨b9,iY⟩:=bm.1 hj
    simp at b9 iY
    have iE:=(lE ar).2
    have hi:j/P.cellsOf e<len:=Nat.div_lt_of_lt_mul (by rw[oO];exact b9)
    have gG:j %P.cellsOf e<P.cellsOf e:=Nat.mod_lt _ iE
    rw[mn,←iY]
    have:=fM (j/P.cellsOf e) (j %P.cellsOf e) hi gG
    rwa [Nat.div_add_mod'] at this
   ·have hi:i<len:=by rw[←hl];exact (bm.1 gX).1
    have hb:i*P.cellsOf e+j<len*P.cellsOf e:=by
     have:(i+1)*P.cellsOf e≤len*P.cellsOf e:=dF _ hi
     rw[dG] at this
     omega
    refine ⟨g i j,?_,hx i j x t' gX ht⟩
    have e1:(i*P.cellsOf e+j)/P.cellsOf e=i:=by
     rw[oO,Nat.mul_add_div (lE ar).2,Nat.div_eq_of_lt hj,Nat.add_zero]
    have e2:(i*P.cellsOf e+j) %P.cellsOf e=j:=by
     rw[oO,Nat.mul_add_mod];exact Nat.mod_eq_of_lt hj
    simp[hb,e1,e2]
 | nilS=>
  obtain ⟨hc,h⟩:=aG h
  exact ⟨[],.inl ⟨⟨_,rfl⟩,rfl⟩,rd,h⟩
 | dw ab hb=>
  obtain ⟨l,h⟩:=run_get h
  simp only[ab] at h
  obtain ⟨hc,h⟩:=aG h
  exact ⟨[],.inl ⟨⟨_,rfl⟩,rfl⟩,l,h⟩
 | @whole e' id es fz b cap ab hb aU b6 hm=>
  obtain ⟨l,h⟩:=run_get h
  simp only[ab] at h
  obtain ⟨hc,U⟩:=aG h
  clear h
  simp only[aO,aX] at hc
  obtain ⟨rfl,_⟩:=hc
  have hr:=cJ _ _ ab
  cases hr with
  | dJ az=>rw[az] at hb;cases hb
  | arr JI az hh hs hf dP hx=>
   rw[hb] at az;cases az
   have:=Q0 (cap:=cap) (off:=0) (len:=es.length) (o:=0) hh hs hx (by omega) (fun _=>by simp)
   exact ⟨es,.inr ⟨_,_,_,by simpa using this⟩,l,U⟩
 | gn ab hb=>
  obtain ⟨l,h⟩:=run_get h
  simp only[ab] at h
  obtain ⟨hc,h⟩:=aG h
  exact ⟨[],.inl ⟨⟨_,rfl⟩,rfl⟩,l,by simpa using h⟩
 | @sub e' id off len es fz b o cap ab hb kR b6 ho=>
  obtain ⟨l,h⟩:=run_get h
  simp only[ab] at h
  obtain ⟨hc,U⟩:=aG h
  clear h
  simp only[aO,aX] at hc
  obtain ⟨rfl,_⟩:=hc
  have hr:=cJ _ _ ab
  cases hr with
  | dJ az=>rw[az] at hb;cases hb
  | arr JI az hh hs hf dP hx=>
   rw[hb] at az;cases az
   exact ⟨_,.inr ⟨_,_,_,Q0 (cap:=cap) hh hs hx kR ho⟩,l,U⟩
 | dI ab=>
  obtain ⟨l,h⟩:=run_get h
  simp only[ab] at h
  cases h
 | gE ab=>
  obtain ⟨l,h⟩:=run_get h
  simp only[ab] at h
  cases h
 | undef=>cases h
 | int=>cases h
 | bool=>cases h
 | str=>cases h
 | agg=>cases h
 | bn=>cases h
 | dH=>cases h
 | fn=>cases h
 | pref=>cases h
 | kP=>cases h
 | ptr=>cases h
 | j8=>cases h
 | j9=>cases h
 | row=>cases h
 | cX=>cases h
 | dV=>cases h
 | iW=>cases h
 | cQ=>cases h
 | dB ab=>
  obtain ⟨l,h⟩:=run_get h
  simp only[ab] at h
  cases h
 | di ab=>
  obtain ⟨l,h⟩:=run_get h
  simp only[ab] at h
  cases h
theorem xP {t ty e:TypeId} {i:TypeInfo} (ht:P.underlying t=some (.slice e)) (hi:P.info? e=some i) (a:Option Addr) (n cap:Nat) (x:Value) (hx: ∃a c,x= .slice a 0 c) (hn:n≤cap):
  (Builtin.append_ #[t,t] ty #[.slice a n cap,x]).run P w= .ok (.slice a n cap) w:=by
 obtain ⟨a',c,rfl⟩:=hx
 cases a' with
 | none=>cases a<;>simp[Builtin.append_,run_underlying ht,sizeOf,typeInfo,hi,Builtin.lenOf,Builtin.firstCells,hn,storeCells]
 | some a'=>cases a<;>simp[Builtin.append_,run_underlying ht,sizeOf,typeInfo,hi,Builtin.lenOf,Builtin.firstCells,hn,storeCells,loadCells,loadCellsFrom]
theorem FI {e:TypeId} {es xs:List V} {n:Nat} {c:List Value} {news:List Value} (hn:es.length=n)
  (h1: ∀(i j:Nat) (x:V) (t':TypeId),es[i]? =some x→(aW P e)[j]? =some t'→j<P.cellsOf e→∃v,c[i*P.cellsOf e+j]? =some v∧Pure P w I t' v (bR P e x j))
  (U: ∀(i j:Nat) (x:V) (t':TypeId),xs[i]? =some x→(aW P e)[j]? =some t'→j<P.cellsOf e→∃v,news[i*P.cellsOf e+j]? =some v∧Pure P w I t' v (bR P e x j))
  (hb:n*P.cellsOf e≤c.length) (rest:List Value):
  ∀(i j:Nat) (x:V) (t':TypeId),(es++xs)[i]? =some x→(aW P e)[j]? =some t'→j<P.cellsOf e→∃v,(c.take (n*P.cellsOf e)++news++rest)[i*P.cellsOf e+j]? =some v∧Pure P w I t' v (bR P e x j):=by
 intro i j x t' hx ht hj
 have hl:(c.take (n*P.cellsOf e)).length=n*P.cellsOf e:=by simp;omega
 by_cases hi:i<n
 ·rw[gi (by omega)] at hx
  obtain ⟨v,hv,hp⟩:=h1 i j x t' hx ht hj
  have:i*P.cellsOf e+j<n*P.cellsOf e:=by
   have:(i+1)*P.cellsOf e≤n*P.cellsOf e:=dF _ hi
   rw[dG] at this
   omega
  exact ⟨v,by rw[cC,gi (by omega),dU this];exact hv,hp⟩
 ·rw[ik (by omega),hn] at hx
  obtain ⟨v,hv,hp⟩:=U (i-n) j x t' hx ht hj
  have iF:i-n<xs.length:=(bm.1 hx).1
  have e1:i*P.cellsOf e+j-n*P.cellsOf e=(i-n)*P.cellsOf e+j:=by
   rw[Nat.sub_mul]
   have:n*P.cellsOf e≤i*P.cellsOf e:=dF _ (by omega)
   omega
  have h3:(i-n)*P.cellsOf e+j<news.length:=(bm.1 hv).1
  refine ⟨v,?_,hp⟩
  have h4:n*P.cellsOf e≤i*P.cellsOf e+j:=by
   have:n*P.cellsOf e≤i*P.cellsOf e:=dF _ (by omega)
   omega
  rw[cC,ik (by omega),hl,e1,gi h3]
  exact hv
theorem Pure.drew {t:TypeId} {v:Value} {x:V} (h:Pure P w I t v x):Pure P w.drew I t v x:=Pure.mono (w:=w) (w':=w.drew) (fun _ _ h=>h) (fun _ _ _=>rfl) h
theorem Q1 (w:World) (t ty e:TypeId) (i:TypeInfo) (z:Value) (ht:P.underlying t=some (.slice e)) (hi:P.info? e=some i) (hz:i.zero=some z)
  (a0:Option Addr) (a:Addr) (n c:Nat) (news:List Value) (hl:news.length=n*i.size) (th: ∀j v,news[j]? =some v→w.cell? (a.add j)=some v)
  (h0:0<n) (FJ:(n:Int)≤9223372036854775807) (FK:n*i.bytes≤281474976710656):
  (Builtin.append_ #[t,t] ty #[.slice a0 0 0,.slice (some a) n c]).run P w=
   .ok (.slice (some ⟨w.heap.size,0,none⟩) n (grownCap w n 0 e)) (w.drew.alloc (.cells (news.toArray++Builtin.zeroCells z.cells (grownCap w n 0 e-n)) e)):=by
 cases a0 with
 | none=>exact run_append_nil w t ty e i z ht hi hz a n c news hl th h0 FJ FK
 | some b=>
  have:=run_append_grow (P:=P) w t ty e i z ht hi hz b 0 0 [] (by simp) (by simp) a n c news hl th (by omega) (by omega) (by rw[fx,nextslicecap_zero h0];omega)
  simpa using this
theorem J5 (S:aC P w I β hp B M w0) {t ty e:TypeId} {nb:Nat} {fz:Bool} {x:Value} {xs:List V} (hu:P.underlying t=some (.slice e)) (ar:cR P e=true) (hn:hp nb=none)
  (dL:xs.length*P.bytesOf e≤bZ) {a0:Option Addr} (hx:((∃a,x= .slice a 0 0)∧xs=[])∨∃a c news,Row P w I e x xs a c news):
  ∃v w' β',(Builtin.append_ #[t,t] ty #[.slice a0 0 0,x]).run P w= .ok v w'∧Le P w I β hp w' I β' (ax hp nb (some (.arr e xs fz)))∧aC P w' I β' (ax hp nb (some (.arr e xs fz))) B M w0∧
   ak P w' I β' (ax hp nb (some (.arr e xs fz))) v (.whole e nb):=by
 obtain ⟨i,z,hi,hz,h3,h4,_⟩:=jt ar
 have rF:=uQ ar
 have kX:P.bytesOf e=i.bytes:=by simp[Program.bytesOf,hi]
 have hlen:xs.length≤2^45:=by
  have:xs.length*1≤xs.length*P.bytesOf e:=sD _ rF
  simp only[bZ] at dL
  omega
 have empty:xs=[]→(∃a c,x= .slice a 0 c)→∃v w' β',(Builtin.append_ #[t,t] ty #[.slice a0 0 0,x]).run P w= .ok v w'∧Le P w I β hp w' I β' (ax hp nb (some (.arr e xs fz)))∧aC P w' I β' (ax hp nb (some (.arr e xs fz))) B M w0∧
   ak P w' I β' (ax hp nb (some (.arr e xs fz))) v (.whole e nb):=by
  intro g9 J6
  subst g9
  obtain ⟨a1,a2⟩:=Fm S e hn
  exact ⟨_,_,_,xP hu hi a0 0 0 x J6 (cl _),a1,a2,.dw (bS _ _ _) (bS _ _ _)⟩
 rcases hx with ⟨⟨_,rfl⟩,rfl⟩|⟨a,c,news,hr⟩
 ·exact empty rfl ⟨_,_,rfl⟩
 ·by_cases h0:xs.length=0
  ·have g9:xs=[]:=lY h0
   refine empty g9 ⟨some a,c,?_⟩
   rw[hr.val,h0]
  ·have cG:=Q1 (P:=P) w t ty e i z hu hi hz a0 a xs.length c news (by rw[hr.len,h3]) hr.cell (by omega) (by omega) (by rw[←kX];simp only[bZ] at dL;omega)
   have mA:=grownCap_ge w xs.length 0 e
   have o6:grownCap w xs.length 0 e≤maxLen:=grownCap_le_maxLen w xs.length 0 e (by simp only[maxLen];omega)
   obtain ⟨n1,n2,n3⟩:=xO S.drew (nb:=nb) (cap:=grownCap w xs.length 0 e) (es:=xs) (C0:=news.toArray++Builtin.zeroCells z.cells (grownCap w xs.length 0 e-xs.length)) ar hn
    (by simp only[EB,pZ,size_zeroCells,h4,hr.len,←dG];congr 1;omega) mA o6
    (fun i' j y t' hy ht hj=>by
     obtain ⟨u,gp,hp⟩:=hr.el i' j y t' hy ht hj
     have aJ:=(bm.1 gp).1
     refine ⟨u,?_,Pure.drew hp⟩
     rw[xd (by simpa using aJ)]
     simpa using gp)
   rw[hr.val]
   exact ⟨_,_,_,cG,(Le.drew w I β hp).trans n1,n2,n3⟩
theorem Q2 (S:aC P w I β hp B M w0) {t ty e:TypeId} {nb:Nat} {s x:Value} {sv xv:V} {r:R} {rd:List Nat} (hu:P.underlying t=some (.slice e)) (hs:ak P w I β hp s sv) (hx:ak P w I β hp x xv)
  (h:(xn P nb e sv xv).run C hp=some (r,rd)):c7 P ((Builtin.append_ #[t,t] ty #[s,x]).run P w) w I β hp B M w0 r:=by
 unfold xn at h
 obtain ⟨ar,h⟩:=aG h
 obtain ⟨xs,mB,l0,h⟩:=FH S.h.rel ar hx h
 cases sv with
 | nilS e'=>
  obtain ⟨hc,h⟩:=aG h
  simp only[aO,aX,dq] at hc
  obtain ⟨hn,rfl⟩:=kW h
  obtain ⟨a0,rfl⟩: ∃a0,s= .slice a0 0 0:=by cases hs;exact ⟨_,rfl⟩
  obtain ⟨v,w',β',a1,a2,a3,a4⟩:=J5 (ty:=ty) S hu ar hn hc.2 mB
  exact ⟨v,w',I,β',a1,a2,a3,a4⟩
 | whole e' id=>
  obtain ⟨l,h⟩:=run_get h
  cases ab:hp id with
  | none=>rw[ab] at h;cases h
  | some blk=>
   rw[ab] at h
   cases blk with
   | dead=>cases h
   | var _=>cases h
   | nest _ _ _=>cases h
   | map _ _=>cases h
   | arr dM es fz=>
    obtain ⟨hc,h⟩:=aG h
    obtain ⟨hn,rfl⟩:=kW h
    simp only[aO,aX,dq] at hc
    obtain ⟨J7,J8,dL⟩:=hc
    subst J7
    subst J8
    have bq:nb≠id:=fun e=>by rw[e,ab] at hn;cases hn
    obtain ⟨k1,k2⟩:=uV S ab
    have jO:ax hp id (some ai.dead) nb=none:=by rw[cy _ _ bq];exact hn
    cases hs with
    | dI hd=>rw[ab] at hd;cases hd
    | di hd=>rw[ab] at hd;cases hd
    | dB hd=>rw[ab] at hd;cases hd
    | dw hd hb=>
     rw[ab] at hd
     cases hd
     simp only[List.length_nil,fx] at dL
     have ZR:((∃a,x= .slice a 0 0)∧xs=[])∨∃a c news,Row P w I e x xs a c news:=mB
     obtain ⟨v,w',β',a1,a2,a3,a4⟩:=J5 (ty:=ty) k2 hu ar jO dL ZR
     exact ⟨v,w',I,β',a1,k1.trans a2,a3,a4⟩
    | @whole _ _ aN nW b cap hd hb aU b6 hm=>
     rw[ab] at hd
     cases hd
     have hr:=S.h.rel id _ ab
     cases hr with
     | dJ az=>rw[az] at hb;cases hb
     | @arr _ _ _ b' Ca _ az hh o7 hf dP ng=>
      rw[hb] at az
      cases az
      obtain ⟨i,z,hi,hz,h3,h4,_⟩:=jt ar
      have rF:=uQ ar
      have kX:P.bytesOf e=i.bytes:=by simp[Program.bytesOf,hi]
      have hlen:es.length+xs.length≤2^45:=by
       have:(es.length+xs.length)*1≤(es.length+xs.length)*P.bytesOf e:=sD _ rF
       simp only[bZ] at dL
       omega
      rw[jL hh] at aU
      have m8: ∀aw blk',ax hp id (some ai.dead) aw=some blk'→¬bh P w (β aw) blk' b:=by
       intro aw blk' h1 U
       by_cases js:aw=id
       ·subst js;rw[bS] at h1;cases h1;exact U.alive rfl
       ·rw[cy _ _ js] at h1
        exact js (S.h.inj aw id blk' _ b h1 ab U (.root (by simp) hb))
      have Bf:=S.h.s4 id _ b ab (by simp) hb
      have room: ∀(C':Array Value) (w':World) (ys:List V),w'.heap[b]? =some (.cells C' e (0,0))→C'.size=Ca.size→(∀b',b'≠b→w'.heap[b']? =w.heap[b']?)→w.heap.size≤w'.heap.size→(w'.os=w.os∧w'.output=w.output)→ys.length≤cap→es.length≤ys.length→(∀j,j<es.length*P.cellsOf e→C'[j]? =Ca[j]?)→
        (∀(i j:Nat) (y:V) (t':TypeId),ys[i]? =some y→(aW P e)[j]? =some t'→j<P.cellsOf e→∃v,C'[i*P.cellsOf e+j]? =some v∧Pure P w I t' v (bR P e y j))→
        Le P w I β hp w' I (ax β nb (some b)) (ax (ax hp id (some .dead)) nb (some (.arr e ys fz)))∧aC P w' I (ax β nb (some b)) (ax (ax hp id (some .dead)) nb (some (.arr e ys fz))) B M w0∧
        ak P w' I (ax β nb (some b)) (ax (ax hp id (some .dead)) nb (some (.arr e ys fz))) (.slice (some ⟨b,0,none⟩) ys.length cap) (.whole e nb):=by
       intro C' w' ys hC o8 ZS ZT ZU u6 ZV J9 hy
       have hIn:=J0 hf dP
       obtain ⟨a1,a2⟩:=AZ k2 (blk:= .arr e ys fz) (w':=w') jO m8 (QV hh hC hIn J9) (fun b' h _=>ZS b' h) ZT ZU Bf
        (fun b' h=>(dh (h.flat (by simp))).symm) (fun hle=> .arr ar rfl hC (by rw[o8,←aU];exact dF _ u6) (fun _ j h=>nO (hIn j h) (dF _ ZV)) dP fun i j y t' a b c=>by
         obtain ⟨v,hv,hp⟩:=hy i j y t' a b c
         exact ⟨v,hv,hp.mono hle.dC hle.cx⟩)
       refine ⟨k1.trans a1,a2,.whole (bS _ _ _) (bS _ _ _) ?_ u6 hm⟩
       rw[jL hC,o8,aU]
      have same:xs=[]→(∃a c,x= .slice a 0 c)→c7 P ((Builtin.append_ #[t,t] ty #[.slice (some ⟨b,0,none⟩) es.length cap,x]).run P w) w I β hp B M w0 ⟨.whole e nb,[(nb,.arr e (es++xs) fz),(id,.dead)]⟩:=by
       intro g9 J6
       subst g9
       rw[dr]
       obtain ⟨a1,a2,a3⟩:=room Ca w es hh rfl (fun _ _=>rfl) (cl _) ⟨rfl,rfl⟩ b6 (cl _) (fun _ _=>rfl) ng
       exact ⟨_,_,_,_,xP hu hi _ _ _ x J6 b6,a1,a2,a3⟩
      rcases mB with ⟨⟨_,rfl⟩,rfl⟩|⟨a,c,news,cO⟩
      ·exact same rfl ⟨_,_,rfl⟩
      ·have h1:=cO.one ar
       have mz:es.length*P.cellsOf e≤Ca.toList.length:=by simpa using o7
       by_cases o9:es.length+xs.length≤cap
       ·have vb:es.length*P.cellsOf e+news.length≤Ca.size:=by rw[cO.len,←dG,←aU];exact dF _ o9
        have cG:=run_append_room (P:=P) w t ty e i hu hi b es.length cap Ca hh a xs.length c news (by rw[cO.len,h3]) cO.cell h1 o9 (by rw[h3];exact vb)
        rw[h3] at cG
        have dg:=FI (P:=P) (w:=w) (I:=I) (n:=es.length) (c:=Ca.toList) rfl (fun i j y t' a b c=>by
         obtain ⟨v,hv,hp⟩:=ng i j y t' a b c
         exact ⟨v,by simpa using hv,hp⟩) cO.el mz (Ca.toList.drop (es.length*P.cellsOf e+news.length))
        obtain ⟨a1,a2,a3⟩:=room (Ca.toList.take (es.length*P.cellsOf e)++news++Ca.toList.drop (es.length*P.cellsOf e+news.length)).toArray (w.setRow b _) (es++xs)
         (setRow_heap w b Ca _ e _ hh) (by simp;omega) (fun b' az=>setRow_other w b b' _ az) (by simp) ⟨rfl,rfl⟩ (by simpa using o9) (by simp) (fun j hj=>by
           rw[jG,cC,gi (by simp;omega),dU hj,lq])
         (fun i j y t' a b c=>by
          obtain ⟨v,hv,hp⟩:=dg i j y t' a b c
          exact ⟨v,by simpa using hv,hp⟩)
        rw[cO.val]
        rw[cg] at a3
        exact ⟨_,_,_,_,cG,a1,a2,a3⟩
       ·have hold: ∀(j:Nat) v,(Ca.toList.take (es.length*P.cellsOf e))[j]? =some v→w.cell? ((⟨b,0,none⟩:Addr).add j)=some v:=by
         intro j v hj
         have b9:=(bm.1 hj).1
         have gG:j<es.length*P.cellsOf e:=by rw[eI] at b9;omega
         rw[dU gG] at hj
         rw[mn,cell?_cells hh,fx]
         simpa using hj
        have cG:=run_append_grow (P:=P) w t ty e i z hu hi hz ⟨b,0,none⟩ es.length cap (Ca.toList.take (es.length*P.cellsOf e)) (by rw[h3];simp;omega) hold a xs.length c news (by rw[cO.len,h3]) cO.cell (by omega) (by omega)
         (growslice_fits (by omega) (by rw[←kX];simp only[bZ] at dL;omega))
        have mA:=grownCap_ge w (es.length+xs.length) cap e
        have o6:grownCap w (es.length+xs.length) cap e≤maxLen:=grownCap_le_maxLen w _ cap e (by simp only[maxLen];omega)
        have dg:=FI (P:=P) (w:=w) (I:=I) (n:=es.length) (c:=Ca.toList) rfl (fun i j y t' a b c=>by
         obtain ⟨v,hv,hp⟩:=ng i j y t' a b c
         exact ⟨v,by simpa using hv,hp⟩) cO.el mz (Builtin.zeroCells z.cells (grownCap w (es.length+xs.length) cap e-(es.length+xs.length))).toList
        obtain ⟨n1,n2,n3⟩:=xO k2.drew (nb:=nb) (cap:=grownCap w (es.length+xs.length) cap e) (es:=es++xs)
         (C0:=(Ca.toList.take (es.length*P.cellsOf e)).toArray++news.toArray++Builtin.zeroCells z.cells (grownCap w (es.length+xs.length) cap e-(es.length+xs.length))) ar jO
         (by
          have e1:(Ca.toList.take (es.length*P.cellsOf e)).length=es.length*P.cellsOf e:=by simp;omega
          simp only[EB,pZ,size_zeroCells,h4,cO.len,e1,←dG];congr 1;omega) (by simpa using mA) o6
         (fun i j y t' a b c=>by
          obtain ⟨v,hv,hp⟩:=dg i j y t' a b c
          refine ⟨v,?_,Pure.drew hp⟩
          rw[←lq]
          simpa using hv)
        rw[cO.val]
        rw[cg] at n3
        exact ⟨_,_,_,_,cG,(k1.trans (Le.drew w I β _)).trans n1,n2,n3⟩
 | _=>cases h
end
section
variable {P:Program} {w w':World} {I I':Nat→Nat→Prop} {β β':Nat→Option Nat} {hp hp':Nat→Option ai} {C:ah} {B:Nat} {M:Nat→Prop} {w0:Start}
theorem run_copy_none (w:World) {dT sT ty elem:TypeId} {i:TypeInfo} (a0:Option Addr) (Q3 ZW:Nat) (a1:Option Addr) (Q4 ZX:Nat) (hu:P.underlying dT=some (.slice elem)) (hi:P.info? elem=some i) (h0:Nat.min Q4 Q3=0):
  (Builtin.copy_ #[dT,sT] ty #[.slice a0 Q3 ZW,.slice a1 Q4 ZX]).run P w= .ok (goInt 0) w:=by
 cases a0<;>cases a1<;>simp[Builtin.copy_,run_underlying hu,Builtin.lenOf,Builtin.firstCells,sizeOf,typeInfo,hi,h0,storeCells,loadCells,loadCellsFrom]
theorem ZY (S:aC P w I β hp B M w0) {t u ty e:TypeId} {s x:Value} {sv xv:V} {r:R} {rd:List Nat} (hu:P.underlying t=some (.slice e)) (hs:ak P w I β hp s sv) (hx:ak P w I β hp x xv)
  (h:(Jh P e sv xv).run C hp=some (r,rd)):c7 P ((Builtin.copy_ #[t,u] ty #[s,x]).run P w) w I β hp B M w0 r:=by
 unfold Jh at h
 obtain ⟨ar,h'⟩:=aG h
 clear h
 simp only[aO,aX] at ar
 obtain ⟨ar,h1⟩:=ar
 obtain ⟨xs,mB,l0,h⟩:=FH S.h.rel ar hx h'
 obtain ⟨i,z,hi,hz,aU,_⟩:=jt ar
 cases sv<;>simp only at h<;>first|(cases h;done)|skip
 rename_i e' id
 obtain ⟨l,U⟩:=run_get h
 clear h
 cases ab:hp id with
 | none=>rw[ab] at U;cases U
 | some blk=>
  rw[ab] at U
  cases blk<;>simp only at U<;>first|(cases U;done)|skip
  rename_i e2 es fz
  cases fz with
  | true=>cases U
  | false=>
  obtain ⟨hc,h3⟩:=aG U
  simp only[aO,aX] at hc
  obtain ⟨rfl,rfl⟩:=hc
  obtain rfl:=aT h3
  have og:min xs.length es.length=0→(Builtin.copy_ #[t,u] ty #[s,x]).run P w= .ok (goInt 0) w→c7 P ((Builtin.copy_ #[t,u] ty #[s,x]).run P w) w I β hp B M w0 ⟨.int .i64 (min xs.length es.length:Nat),[(id,.arr e (xs.take es.length++es.drop xs.length) false)]⟩:=by
   intro h0 hr
   have he:xs.take es.length++es.drop xs.length=es:=by
    rcases Nat.le_total xs.length es.length with hl|hl
    ·have:xs=[]:=lY (by omega)
     simp[this]
    ·have:es=[]:=lY (by omega)
     simp[this]
   have gb:bW hp [(id,.arr e (xs.take es.length++es.drop xs.length) false)]=hp:=by
    rw[he];exact Jp hp id _ ab
   refine ⟨goInt 0,w,I,β,hr,?_⟩
   simp only[gb,h0]
   exact ⟨Le.refl w I β hp,S,.int⟩
  cases hs with
  | dI hd=>rw[ab] at hd;cases hd
  | di hd=>rw[ab] at hd;cases hd
  | dB hd=>rw[ab] at hd;cases hd
  | @dw _ _ fz a hd hb=>
   rw[ab] at hd
   cases hd
   refine og (by simp) ?_
   rcases mB with ⟨⟨a',rfl⟩,rfl⟩|⟨a',c,news,cO⟩
   ·exact run_copy_none w _ _ _ _ _ _ hu hi (by simp)
   ·rw[cO.val];exact run_copy_none w _ _ _ _ _ _ hu hi (by simp)
  | @whole _ _ aN nW b cap hd hb Bg b6 hm=>
   have fb:=hd
   rw[ab] at hd
   cases hd
   rcases mB with ⟨⟨a',rfl⟩,rfl⟩|⟨a',c,news,cO⟩
   ·exact og (by simp) (run_copy_none w _ _ _ _ _ _ hu hi (by simp))
   have hr:=S.h.rel id _ ab
   cases hr with
   | dJ az=>rw[az] at hb;cases hb
   | @arr _ _ _ b' Ca _ az hh o7 hf dP ng=>
    rw[hb] at az
    cases az
    have gI:news.length=xs.length:=by rw[cO.len,h1,e6]
    rw[h1,e6] at o7
    have lH:(news.take es.length).length=Nat.min xs.length es.length:=by
     rw[eI,gI,Nat.min_comm]
    have Q5:Nat.min xs.length es.length=min xs.length es.length:=rfl
    have cG:=run_copy_row (P:=P) w t u ty e b 0 es.length cap a' xs.length c Ca e (news.take es.length) hu (by rw[hi];simp[aU,h1]) hh lH
     (fun j v hj=>cO.cell j v (by
      have:=(bm.1 hj).1
      rw[eI] at this
      rwa [dU (by omega)] at hj)) (by rw[lH,Q5];omega) (fun v hv=>cO.one ar v (List.mem_of_mem_take hv))
    rw[cO.val]
    have hq:(goInt (news.take es.length).length)= .int .i64 ((min xs.length es.length:Nat):Int):=by rw[lH];rfl
    have jN:(xs.take es.length++es.drop xs.length).length=es.length:=by simp;omega
    have o8:(Ca.toList.take 0++news.take es.length++Ca.toList.drop (0+(news.take es.length).length)).toArray.size=Ca.size:=by
     simp only[pZ,cg,oM,eI,lH,Q5]
     simp
     omega
    obtain ⟨a1,a2⟩:=Fx S (blk':= .arr e (xs.take es.length++es.drop xs.length) false) (Cb:=(Ca.toList.take 0++news.take es.length++Ca.toList.drop (0+(news.take es.length).length)).toArray) ab (by simp) ⟨rfl,jN.symm⟩ hb (dP rfl) (by simp) hh o8
     (fun hle dt=> .arr ar rfl dt (by rw[o8,jN,h1,e6];exact o7) (fun h=>by cases h) (fun _=>dP rfl) fun i j y t' hy ht hj=>by
      rw[h1] at hj⊢
      obtain rfl:j=0:=by omega
      rw[e6,Nat.add_zero]
      have rG:=(bm.1 hy).1
      rw[jN] at rG
      by_cases bY:i<xs.length
      ·rw[gi (by rw[eI];omega),dU rG] at hy
       obtain ⟨u',k1,k2⟩:=cO.el i 0 y t' hy ht (by omega)
       rw[h1,e6,Nat.add_zero] at k1
       refine ⟨u',?_,k2.mono hle.dC hle.cx⟩
       simp only[List.take_zero,List.nil_append,jG]
       rw[gi (by rw[eI];omega),dU rG]
       exact k1
      ·have e1:(xs.take es.length).length=xs.length:=by rw[eI];omega
       rw[ik (by omega),e1,iP,show xs.length+(i-xs.length)=i by omega] at hy
       obtain ⟨u',k1,k2⟩:=ng i 0 y t' hy ht (by omega)
       rw[h1,e6,Nat.add_zero] at k1
       refine ⟨u',?_,k2.mono hle.dC hle.cx⟩
       simp only[List.take_zero,List.nil_append,jG,fx]
       have e2:(news.take es.length).length=xs.length:=by rw[eI];omega
       rw[ik (by omega),e2,iP,show xs.length+(i-xs.length)=i by omega]
       simpa using k1)
    exact ⟨_,_,_,_,cG,a1,a2,by rw[hq];exact .int⟩
theorem ZZ (S:aC P w I β hp B M w0) {t ty e:TypeId} {x:Value} {xv:V} {r:R} {rd:List Nat} (hu:P.underlying t=some (.slice e)) (hx:ak P w I β hp x xv)
  (h:(Jg P e xv).run C hp=some (r,rd)):c7 P ((Builtin.clear_ #[t] ty #[x]).run P w) w I β hp B M w0 r:=by
 unfold Jg at h
 obtain ⟨dg,h'⟩:=aG h
 clear h
 have ar:cR P e=true:=by
  unfold mV at dg;simp only[aO] at dg;exact dg.1
 obtain ⟨i,z,hi,hz,aU,Bh,Z0⟩:=Be (w:=w) (I:=I) dg
 have iE:=(lE ar).2
 cases xv<;>simp only at h'<;>first|(cases h';done)|skip
 rename_i e' id off len
 obtain ⟨l,U⟩:=run_get h'
 clear h'
 cases ab:hp id with
 | none=>rw[ab] at U;cases U
 | some blk=>
  rw[ab] at U
  cases blk<;>simp only at U<;>first|(cases U;done)|skip
  rename_i e2 es fz
  cases fz with
  | true=>cases U
  | false=>
  obtain ⟨hc,h3⟩:=aG U
  simp only[aO,aX] at hc
  obtain ⟨rfl,rfl⟩:=hc
  obtain rfl:=aT h3
  have og:len=0→(Builtin.clear_ #[t] ty #[x]).run P w= .ok (.tuple #[]) w→c7 P ((Builtin.clear_ #[t] ty #[x]).run P w) w I β hp B M w0 ⟨.bn [],[(id,.arr e (es.take off++(List.replicate len (cS P e (e8 P e))++es.drop (off+len))) false)]⟩:=by
   intro h0 hr
   subst h0
   have gb:bW hp [(id,.arr e (es.take off++(List.replicate 0 (cS P e (e8 P e))++es.drop (off+0))) false)]=hp:=by
    simp only[List.replicate_zero,List.nil_append,Nat.add_zero,EC]
    exact Jp hp id _ ab
   refine ⟨.tuple #[],w,I,β,hr,?_⟩
   simp only[gb]
   exact ⟨Le.refl w I β hp,S,.bn rfl fun j v x hj hx=>by simp at hx⟩
  cases hx with
  | gE hd=>rw[ab] at hd;cases hd
  | @gn _ _ _ a0 hd hb=>exact og rfl (by cases a0<;>simp[Builtin.clear_,run_underlying hu])
  | @sub _ _ _ _ aN nW b o cap hd hb kR b6 ho=>
   by_cases hlen:len=0
   ·refine og hlen ?_
    subst hlen
    simp[Builtin.clear_,run_underlying hu]
   have Z1:0<len:=by omega
   have fb:=hd
   rw[ab] at hd
   cases hd
   have hr:=S.h.rel id _ ab
   cases hr with
   | dJ az=>rw[az] at hb;cases hb
   | @arr _ _ _ b' Ca _ az hh o7 hf dP ng=>
    rw[hb] at az
    cases az
    have ho:=ho Z1
    subst ho
    have va:(Builtin.zeroCells z.cells len).toList.length=len*P.cellsOf e:=by rw[Array.length_toList,size_zeroCells,Bh]
    have hmul:off*P.cellsOf e+len*P.cellsOf e≤es.length*P.cellsOf e:=by rw[←dG];exact dF _ kR
    have o4: ∀v∈(Builtin.zeroCells z.cells len).toList,v.oneCell'=true:=by
     intro v hv
     obtain ⟨k,hk⟩:=qR hv
     have fO:=(bm.1 hk).1
     rw[va] at fO
     have Z2:(Builtin.zeroCells z.cells len)[k]? =z.cells[k %z.cells.size]? :=QX (z:=z.cells) (n:=len*z.cells.size) (by rw[Bh];exact fO) (by rw[Bh];exact iE)
     rw[lq,Z2] at hk
     have hm:k %z.cells.size<P.cellsOf e:=by rw[Bh];exact Nat.mod_lt _ iE
     have Z3:k %z.cells.size<(aW P e).length:=by rw[eR ar];exact hm
     obtain ⟨v',xF,hp'⟩:=Z0 (k %z.cells.size) _ (bA Z3) hm
     rw[hk] at xF
     cases xF
     generalize bR P e (cS P e (e8 P e)) (k %z.cells.size)=y at hp'
     cases hp'<;>rfl
    have ca:=run_storeCells_at P b (off*P.cellsOf e) e (Builtin.zeroCells z.cells len).toList 0 Ca w hh (by rw[va];omega) o4
    simp only[Nat.add_zero] at ca
    have cG:(Builtin.clear_ #[t] ty #[.slice (some ⟨b,off*P.cellsOf e,none⟩) len cap]).run P w= .ok (.tuple #[]) (w.setRow b (Ca.toList.take (off*P.cellsOf e)++(Builtin.zeroCells z.cells len).toList++Ca.toList.drop (off*P.cellsOf e+(Builtin.zeroCells z.cells len).toList.length)).toArray):=by
     obtain ⟨n,rfl⟩: ∃n,len=n+1:=⟨len-1,by omega⟩
     simp[Builtin.clear_,run_underlying hu,zeroValue,typeInfo,hi,hz,ca]
    have jN:(es.take off++(List.replicate len (cS P e (e8 P e))++es.drop (off+len))).length=es.length:=by simp;omega
    have o8:(Ca.toList.take (off*P.cellsOf e)++(Builtin.zeroCells z.cells len).toList++Ca.toList.drop (off*P.cellsOf e+(Builtin.zeroCells z.cells len).toList.length)).toArray.size=Ca.size:=by
     simp only[pZ,cg,oM,eI,va,Array.length_toList]
     omega
    obtain ⟨a1,a2⟩:=Fx S (blk':= .arr e (es.take off++(List.replicate len (cS P e (e8 P e))++es.drop (off+len))) false) ab (by simp) ⟨rfl,jN.symm⟩ hb (dP rfl) (by simp) hh o8
     (fun hle dt=> .arr ar rfl dt (by rw[o8,jN];exact o7) (fun h=>by cases h) (fun _=>dP rfl) fun i' j y t' hy ht hj=>by
      have iG:=od es (List.replicate len (cS P e (e8 P e))) off i' (by simp;omega)
      rw[ux] at iG
      rw[iG] at hy
      have hC:(Ca.toList.take (off*P.cellsOf e)++(Builtin.zeroCells z.cells len).toList++Ca.toList.drop (off*P.cellsOf e+(Builtin.zeroCells z.cells len).toList.length)).toArray[i'*P.cellsOf e+j]? =
        if i'*P.cellsOf e+j<off*P.cellsOf e then Ca.toList[i'*P.cellsOf e+j]? else if i'*P.cellsOf e+j<off*P.cellsOf e+len*P.cellsOf e then (Builtin.zeroCells z.cells len).toList[i'*P.cellsOf e+j-off*P.cellsOf e]? else Ca.toList[i'*P.cellsOf e+j]? :=by
       have:=od Ca.toList (Builtin.zeroCells z.cells len).toList (off*P.cellsOf e) (i'*P.cellsOf e+j) (by rw[va,Array.length_toList];omega)
       rw[jG,cC,this,va]
      by_cases Ka:i'<off
      ·rw[aj Ka] at hy
       have:(i'+1)*P.cellsOf e≤off*P.cellsOf e:=dF _ Ka
       rw[dG] at this
       rw[bf] at hC
       obtain ⟨u,k1,k2⟩:=ng i' j y t' hy ht hj
       exact ⟨u,hC.trans (by simpa using k1),k2.mono hle.dC hle.cx⟩
      ·rw[an Ka] at hy
       have h1:off*P.cellsOf e≤i'*P.cellsOf e:=dF _ (by omega)
       rw[aM] at hC
       by_cases iF:i'<off+len
       ·rw[aj iF] at hy
        have:(i'+1)*P.cellsOf e≤(off+len)*P.cellsOf e:=dF _ iF
        rw[dG,dG] at this
        rw[bf] at hC
        obtain ⟨v,k1,k2⟩:=FG (w:=w) (I:=I) dg hi hz len len (cl _) (i'-off) j y t' hy ht hj
        refine ⟨v,hC.trans ?_,k2.mono hle.dC hle.cx⟩
        rw[show i'*P.cellsOf e+j-off*P.cellsOf e=(i'-off)*P.cellsOf e+j by rw[Nat.sub_mul];omega,lq]
        unfold Builtin.zeroCells
        rw[Bh] at k1⊢
        exact k1
       ·rw[an iF] at hy
        have:(off+len)*P.cellsOf e≤i'*P.cellsOf e:=dF _ (by omega)
        rw[dG] at this
        rw[aM] at hC
        obtain ⟨u,k1,k2⟩:=ng i' j y t' hy ht hj
        exact ⟨u,hC.trans (by simpa using k1),k2.mono hle.dC hle.cx⟩)
    exact ⟨_,_,_,_,cG,a1,a2,.bn rfl fun j v x hj hx=>by simp at hx⟩
end
section
variable {P:Program} {w w':World} {I I':Nat→Nat→Prop} {β β':Nat→Option Nat} {hp hp':Nat→Option ai} {C:ah} {B:Nat} {M:Nat→Prop} {w0:Start}
theorem Bi {e e1:TypeId} (h:rowOf P e=some e1):P.underlying e=some (.slice e1)∧bM P e=false∧cR P e=true∧cR P e1=true∧(flat P e1).all (eu P)=true:=by
 unfold rowOf at h
 split at h
 ·rename_i e2 hu
  cases hc:(!(bM P e)&&(cR P e&&(cR P e2&&(flat P e2).all (eu P)))) with
  | false=>rw[hc] at h;cases h
  | true=>
   rw[hc] at h
   cases h
   simp only[aO,kJ] at hc
   exact ⟨hu,hc.1,hc.2.1,hc.2.2.1,hc.2.2.2⟩
 ·cases h
theorem Z4 {e1:TypeId} (jM:(flat P e1).all (eu P)=true) {w:World} {b1 b':Nat} {e':TypeId} {l m:List V} {r:Path} (h:At P w b1 e1 l r b' e' m):r=[]∧b'=b1∧e'=e1∧m=l:=by
 cases h with
 | here=>exact ⟨rfl,rfl,rfl,rfl⟩
 | step h1 U h3 h4 h5 h6 h7 h8=>
  rw[qg] at h3
  have:=fy.1 jM _ (jg h3)
  unfold eu at this
  rw[h4] at this
  cases this
def Bj (P:Program) (w:World) (e1:TypeId) (K:Nat→List V→Prop) (v:Value) (l:List V):Prop:=
 (l=[]∧∃a cap,v= .slice a 0 cap∧(a=none→cap=0))∨
 (0<l.length∧∃b1 cap,v= .slice (some ⟨b1,0,none⟩) l.length cap∧cap*P.cellsOf e1=bsize w b1∧l.length≤cap∧cap≤maxLen∧K b1 l)
theorem Bk (S:aC P w I β hp B M w0) {nb b:Nat} {e e1:TypeId} {ys:List V} {C':Array Value} (hr:rowOf P e=some e1) (hn:hp nb=none)
  (u4:w'.heap[b]? =some (.cells C' e (0,0))) (hlen:ys.length≤C'.size)
  (hw: ∀b',b'≠b→b'<w.heap.size→w'.heap[b']? =w.heap[b']?) (aU:w.heap.size≤w'.heap.size) (lF:w'.os=w.os∧w'.output=w.output) (hb:M b∨B≤b)
  (m8: ∀aw blk',hp aw=some blk'→¬bh P w (β aw) blk' b) (cW: ∀j,¬I b j) (K:Nat→Nat→List V→Prop)
  (fM: ∀(i:Nat) x,ys[i]? =some x→∃l v,x= .list e1 l∧C'[i]? =some v∧Bj P w e1 (K i) v l)
  (hK: ∀i b1 l,K i b1 l→b1≠b∧b1<w.heap.size∧gm P w I b1 e1 l∧(M b1∨B≤b1)∧∀id blk,hp id=some blk→¬bh P w (β id) blk b1)
  (td: ∀i j b1 l m,K i b1 l→K j b1 m→i=j):
  Le P w I β hp w' I (ax β nb (some b)) (ax hp nb (some (.nest e ys [0,0,0])))∧aC P w' I (ax β nb (some b)) (ax hp nb (some (.nest e ys [0,0,0]))) B M w0:=by
 obtain ⟨hu,cN,ar,vc,jM⟩:=Bi hr
 have pb:aW P e=[e]:=by simp[aW,cN]
 have hk:P.cellsOf e=1:=by rw[←eR ar,pb];rfl
 have Bl: ∀x j,bR P e x j=x:=fun x j=>by simp[bR,cN]
 have Bm: ∀q b2 e2 m,At P w' b e ys q b2 e2 m→(q=[]∧b2=b∧e2=e∧m=ys)∨∃i,q=[(i,0)]∧e2=e1∧K i b2 m:=by
  intro q b2 e2 m h
  cases h with
  | here=>exact .inl ⟨rfl,rfl,rfl,rfl⟩
  | step h1 U h3 h4 h5 h6 h7 h8=>
   right
   rw[u4] at h1;cases h1
   rw[pb] at h3
   obtain ⟨hc,ht⟩:=bm.1 h3
   simp only[List.length_singleton,Nat.lt_one_iff] at hc
   subst hc
   simp only[List.getElem_singleton] at ht
   subst ht
   rw[hu] at h4;cases h4
   rw[Bl] at h5;subst h5
   rw[hk,e6,Nat.add_zero] at h7
   obtain ⟨l,v,hl,hv,hh⟩:=fM _ _ U
   cases hl
   rw[hv] at h7;cases h7
   rcases hh with ⟨rfl,_⟩|⟨_,b1',Qz,he,_,_,_,rH⟩
   ·simp at h6
   ·cases he
    obtain ⟨rfl,rfl,rfl,rfl⟩:=Z4 jM h8
    exact ⟨_,rfl,rfl,rH⟩
 have hG: ∀i b1 l,K i b1 l→w'.heap[b1]? =w.heap[b1]? :=fun i b1 l h=>hw _ (hK i b1 l h).1 (hK i b1 l h).2.1
 refine Qi S hn m8 (fun j h=>absurd h (cW j)) hw aU lF hb (fun b' ho=> ?_) (fun hle=> ?_)
 ·cases ho with
  | root _ h=>exact .inl (dh h).symm
  | row h ha=>
   cases h
   rcases Bm _ _ _ _ ha with ⟨_,h,_,_⟩|⟨i,_,_,rH⟩
   ·exact .inl h
   ·exact .inr ⟨(hK _ _ _ rH).2.2.2.1,(hK _ _ _ rH).2.2.2.2⟩
 ·refine .nest rfl (fun q b2 e2 m h=> ?_) (fun q1 q2 b2 e2 m2 e3 m3 h1 U=> ?_)
  ·rcases Bm _ _ _ _ h with ⟨rfl,rfl,rfl,rfl⟩|⟨i,rfl,rfl,rH⟩
   ·refine ⟨ar,⟨C',u4,by rw[hk,e6];exact hlen,fun i j x t' hx ht hj=> ?_⟩,cW⟩
    rw[hk] at hj
    have JX:j=0:=by omega
    subst JX
    rw[pb] at ht
    simp only[List.getElem?_cons_zero,ek] at ht
    subst ht
    obtain ⟨l,v,rfl,hv,hh⟩:=fM _ _ hx
    refine ⟨v,by rw[hk,e6,Nat.add_zero];exact hv,?_⟩
    rw[Bl]
    rcases hh with ⟨rfl,a,cap,rfl,ha⟩|⟨h0,b1,cap,rfl,hs,hl,hm,rH⟩
    ·exact .emp hu ha
    ·exact .row hu h0 (by rw[hs,Fh (hG _ _ _ rH)]) hl hm
   ·obtain ⟨_,_,⟨ok,⟨Ca,c1,c2,c3⟩,nI⟩,_,_⟩:=hK _ _ _ rH
    refine ⟨ok,⟨Ca,(hG _ _ _ rH).trans c1,c2,fun i' j x t' hx ht hj=> ?_⟩,nI⟩
    obtain ⟨v,m1,m2⟩:=c3 i' j x t' hx ht hj
    have kV:eu P t'=true:=by
     rw[qg] at ht
     exact fy.1 jM _ (jg ht)
    refine ⟨v,m1,?_⟩
    generalize bR P e2 x j=y at m2
    cases m2 with
    | fB a p=>exact .fB a (p.mono hle.dC hle.cx)
    | emp a _=>unfold eu at kV;rw[a] at kV;cases kV
    | row a _ _ _ _=>unfold eu at kV;rw[a] at kV;cases kV
  ·rcases Bm _ _ _ _ h1 with ⟨rfl,rfl,_,_⟩|⟨i,rfl,_,k1⟩
   ·rcases Bm _ _ _ _ U with ⟨rfl,_,_,_⟩|⟨j,rfl,_,k2⟩
    ·rfl
    ·exact absurd rfl (hK _ _ _ k2).1
   ·rcases Bm _ _ _ _ U with ⟨rfl,rfl,_,_⟩|⟨j,rfl,_,k2⟩
    ·exact absurd rfl (hK _ _ _ k1).1
    ·rw[td _ _ _ _ _ k1 k2]
theorem Q6 (S:aC P w I β hp B M w0) {id b:Nat} {e e1:TypeId} {es:List V} {vers:List Nat} (hr:rowOf P e=some e1) (ab:hp id=some (.nest e es vers)) (hb:β id=some b):
  ∃Ca,w.heap[b]? =some (.cells Ca e (0,0))∧es.length≤Ca.size∧(∀j,¬I b j)∧
   (∀(i:Nat) x,es[i]? =some x→∃l v,x= .list e1 l∧Ca[i]? =some v∧Bj P w e1 (fun b1 l=>At P w b e es [(i,0)] b1 e1 l) v l)∧
   (∀i b1 l,At P w b e es [(i,0)] b1 e1 l→b1≠b∧b1<w.heap.size∧gm P w I b1 e1 l∧(M b1∨B≤b1)∧bh P w (β id) (.nest e es vers) b1)∧
   ∀i j b1 l m,At P w b e es [(i,0)] b1 e1 l→At P w b e es [(j,0)] b1 e1 m→i=j:=by
 obtain ⟨hu,cN,ar,vc,jM⟩:=Bi hr
 have pb:aW P e=[e]:=by simp[aW,cN]
 have hk:P.cellsOf e=1:=by rw[←eR ar,pb];rfl
 have Bl: ∀x j,bR P e x j=x:=fun x j=>by simp[bR,cN]
 have cJ:=S.h.rel id _ ab
 rw[hb] at cJ
 cases cJ with
 | fL h=>cases h
 | nest az cO mw=>
  cases az
  obtain ⟨_,⟨Ca,c1,c2,c3⟩,nI⟩:=cO _ _ _ _ .here
  rw[hk,e6] at c2
  refine ⟨Ca,c1,c2,nI,fun i x hx=> ?_,fun i b1 l ha=> ?_,fun i j b1 l m h1 U=> ?_⟩
  ·obtain ⟨v,hv,ho⟩:=c3 i 0 x e hx (by rw[pb];rfl) (by rw[hk];exact Nat.one_pos)
   rw[hk,e6,Nat.add_zero] at hv
   rw[Bl] at ho
   cases ho with
   | fB a _=>unfold eu at a;rw[hu] at a;cases a
   | emp a ha=>rw[hu] at a;cases a;exact ⟨[],_,rfl,hv,.inl ⟨rfl,_,_,rfl,ha⟩⟩
   | @row _ l b1 cap a h0 hs hl hm=>
    rw[hu] at a;cases a
    refine ⟨l,_,rfl,hv,.inr ⟨h0,b1,cap,rfl,hs,hl,hm,?_⟩⟩
    exact .step c1 hx (by rw[pb];rfl) hu (Bl _ _) h0 (by rw[hk,e6,Nat.add_zero];exact hv) .here
  ·have ho:bh P w (β id) (.nest e es vers) b1:= .row hb ha
   refine ⟨fun h=> ?_,S.h.lt ab ho,cO _ _ _ _ ha,S.h.own id _ b1 ab ho,ho⟩
   subst h
   exact absurd (mw _ _ _ _ _ _ _ ha .here) (by simp)
  ·have:=mw _ _ _ _ _ _ _ h1 U
   simpa using this
theorem Z5 (S:aC P w I β hp B M w0) {t ty e:TypeId} {nb:Nat} {s x:Value} {sv xv:V} {r:R} {rd:List Nat} (hu:P.underlying t=some (.slice e)) (hs:ak P w I β hp s sv) (hx:ak P w I β hp x xv)
  (h:(Jf P nb e sv xv).run C hp=some (r,rd)):c7 P ((Builtin.append_ #[t,t] ty #[s,x]).run P w) w I β hp B M w0 r:=by
 unfold Jf at h
 obtain ⟨Z6,ha⟩:=aG h
 clear h
 obtain ⟨e1,hr⟩:=xe.1 Z6
 obtain ⟨Q7,cN,ar,vc,jM⟩:=Bi hr
 have pb:aW P e=[e]:=by simp[aW,cN]
 have hk:P.cellsOf e=1:=by rw[←eR ar,pb];rfl
 obtain ⟨i,z,hi,hz,h3,h4,_⟩:=jt ar
 have rF:=uQ ar
 have kX:P.bytesOf e=i.bytes:=by simp[Program.bytesOf,hi]
 rw[hk] at h3 h4
 cases sv with
 | whole e' id=>
  obtain ⟨l0,hb⟩:=run_get ha
  clear ha
  cases ab:hp id with
  | none=>rw[ab] at hb;cases hb
  | some blk=>
   rw[ab] at hb
   cases blk with
   | nest dM es vers=>
    obtain ⟨hc,hd⟩:=aG hb
    clear hb
    simp only[aO,aX] at hc
    obtain ⟨rfl,rfl⟩:=hc
    cases xv with
    | nilS e3=>
     obtain ⟨_,he⟩:=aG hd
     cases he
     obtain ⟨a0,rfl⟩: ∃a0,x= .slice a0 0 0:=by cases hx;exact ⟨_,rfl⟩
     cases hs with
     | dI hd=>rw[ab] at hd;cases hd
     | dw hd=>rw[ab] at hd;cases hd
     | whole hd=>rw[ab] at hd;cases hd
     | dB hd hb=>exact ⟨_,_,_,_,xP hu hi _ 0 0 _ ⟨_,_,rfl⟩ (cl _),Le.refl ..,S,.dB hd hb⟩
     | di hd hb aU b6 hm=>
      rw[ab] at hd;cases hd
      exact ⟨_,_,_,_,xP hu hi _ _ _ _ ⟨_,_,rfl⟩ b6,Le.refl ..,S,.di ab hb aU b6 hm⟩
    | list e3 l=>
     obtain ⟨eQ,he⟩:=aG hd
     simp only[aO,aX] at eQ
     obtain ⟨rfl,gW⟩:=eQ
     have gW:=jY.1 gW
     subst gW
     cases he
     obtain ⟨a0,c0,rfl⟩: ∃a0 c0,x= .slice a0 0 c0:=by
      cases hx with
      | list hp'=>cases hp' with
       | nil=>exact ⟨_,_,rfl⟩
       | emp=>exact ⟨_,_,rfl⟩
       | list g b c d e=>exact ⟨_,_,by rw[←b];rfl⟩
     cases hs with
     | dI hd=>rw[ab] at hd;cases hd
     | dw hd=>rw[ab] at hd;cases hd
     | whole hd=>rw[ab] at hd;cases hd
     | dB hd hb=>exact ⟨_,_,_,_,xP hu hi _ 0 0 _ ⟨_,_,rfl⟩ (cl _),Le.refl ..,S,.dB hd hb⟩
     | di hd hb aU b6 hm=>
      rw[ab] at hd;cases hd
      exact ⟨_,_,_,_,xP hu hi _ _ _ _ ⟨_,_,rfl⟩ b6,Le.refl ..,S,.di ab hb aU b6 hm⟩
    | whole e3 bL=>
     obtain ⟨l1,he⟩:=run_get hd
     clear hd
     cases ed:hp bL with
     | none=>rw[ed] at he;cases he
     | some cv=>
      rw[ed] at he
      cases cv with
      | nest e4 xs sZ=>
       obtain ⟨hc,hf⟩:=aG he
       clear he
       simp only[aO,aX,dq,kJ,jZ] at hc
       obtain ⟨rfl,rfl,Q8,iE,dL⟩:=hc
       have bq:id≠bL:=fun h=>by rw[h,jE] at Q8;cases Q8
       obtain ⟨hn,rfl⟩:=kW hf
       have hlen:es.length+xs.length≤2^45:=by
        have:(es.length+xs.length)*1≤(es.length+xs.length)*P.bytesOf e:=sD _ rF
        simp only[bZ] at dL
        omega
       obtain ⟨b2,Bn,fp,rfl⟩: ∃b2 Bn,β bL=some b2∧x= .slice (some ⟨b2,0,none⟩) xs.length Bn:=by
        cases hx with
        | dI hd=>rw[ed] at hd;cases hd
        | dw hd=>rw[ed] at hd;cases hd
        | whole hd=>rw[ed] at hd;cases hd
        | dB hd hb=>rw[ed] at hd;cases hd;simp at iE
        | di hd hb aU b6 hm=>rw[ed] at hd;cases hd;exact ⟨_,_,hb,rfl⟩
       obtain ⟨C2,g1,g2,g3,g4,g5,g6⟩:=Q6 S hr ed fp
       have th: ∀(j:Nat) v,(C2.toList.take xs.length)[j]? =some v→w.cell? ((⟨b2,0,none⟩:Addr).add j)=some v:=by
        intro j v hj
        have b9:=(bm.1 hj).1
        rw[eI] at b9
        rw[dU (by omega)] at hj
        rw[mn,cell?_cells g1,fx]
        simpa using hj
       have gI:(C2.toList.take xs.length).length=xs.length:=by simp;omega
       have o4: ∀u∈C2.toList.take xs.length,u.oneCell'=true:=by
        intro u hm
        obtain ⟨j,hj⟩:=qR hm
        have b9:=(bm.1 hj).1
        rw[gI] at b9
        rw[dU b9] at hj
        obtain ⟨l,v,_,hv,hh⟩:=g4 j xs[j] (bA b9)
        have:v=u:=by rw[lq,hv] at hj;exact dh hj
        subst this
        rcases hh with ⟨_,a,cap,rfl,_⟩|⟨_,b1,cap,rfl,_⟩<;>rfl
       obtain ⟨k1,S1⟩:=uV S ab
       have Z7:ax hp id (some ai.dead) bL=some (.nest e xs sZ):=by rw[cy _ _ (Ne.symm bq)];exact ed
       obtain ⟨k2,S2⟩:=uV S1 Z7
       have vd:nb≠id:=fun e=>by rw[e,ab] at hn;cases hn
       have Z8:nb≠bL:=fun e=>by rw[e,ed] at hn;cases hn
       have qo:ax (ax hp id (some ai.dead)) bL (some ai.dead) nb=none:=by rw[cy _ _ Z8,cy _ _ vd];exact hn
       have live: ∀{aw blk'},ax (ax hp id (some ai.dead)) bL (some ai.dead) aw=some blk'→blk'≠ .dead→hp aw=some blk'∧aw≠id∧aw≠bL:=by
        intro aw blk' h hd
        by_cases q1:aw=bL
        ·subst q1;rw[bS] at h;cases h;exact absurd rfl hd
        ·rw[cy _ _ q1] at h
         by_cases q2:aw=id
         ·subst q2;rw[bS] at h;cases h;exact absurd rfl hd
         ·rw[cy _ _ q2] at h;exact ⟨h,q2,q1⟩
       have Kb: ∀{idx bx:Nat} {bl},(idx=id∨idx=bL)→hp idx=some bl→bh P w (β idx) bl bx→∀aw blk',ax (ax hp id (some ai.dead)) bL (some ai.dead) aw=some blk'→¬bh P w (β aw) blk' bx:=by
        intro idx bx bl Z9 pc ho aw blk' h hO
        obtain ⟨q1,q2,q3⟩:=live h hO.alive
        have:=S.h.inj aw idx _ _ bx q1 pc hO ho
        rcases Z9 with rfl|rfl
        ·exact q2 this
        ·exact q3 this
       have qp:bW hp [(nb,.nest e (es++xs) [0,0,0]),(id,.dead),(bL,.dead)]=ax (ax (ax hp id (some ai.dead)) bL (some ai.dead)) nb (some (.nest e (es++xs) [0,0,0])):=by
        funext k
        simp only[bW]
        by_cases q0:k=nb
        ·subst q0;rw[bS,bS]
        ·by_cases q1:k=id
         ·subst q1;rw[cy _ _ q0,bS,cy _ _ q0,cy _ _ bq,bS]
         ·by_cases q2:k=bL
          ·subst q2;rw[cy _ _ q0,cy _ _ q1,bS,cy _ _ q0,bS]
          ·rw[cy _ _ q0,cy _ _ q1,cy _ _ q2,cy _ _ q0,cy _ _ q2,cy _ _ q1]
       have mu:bh P w (β bL) (.nest e xs sZ) b2:= .root (by simp) fp
       have lit: ∀i b1 l,At P w b2 e xs [(i,0)] b1 e1 l→b1<w.heap.size∧gm P w I b1 e1 l∧(M b1∨B≤b1)∧∀aw blk',ax (ax hp id (some ai.dead)) bL (some ai.dead) aw=some blk'→¬bh P w (β aw) blk' b1:=fun i b1 l ha=>by
        obtain ⟨_,q2,q3,q4,q5⟩:=g5 i b1 l ha
        exact ⟨q2,q3,q4,Kb (.inr rfl) ed q5⟩
       cases hs with
       | dI hd=>rw[ab] at hd;cases hd
       | dw hd=>rw[ab] at hd;cases hd
       | whole hd=>rw[ab] at hd;cases hd
       | @dB _ _ _ a0 hd hb=>
        rw[ab] at hd;cases hd
        simp only[List.length_nil,fx] at dL hlen
        have cG:=Q1 (P:=P) w t ty e i z hu hi hz a0 ⟨b2,0,none⟩ xs.length Bn (C2.toList.take xs.length) (by rw[gI,h3,e6]) th (by omega) (by omega) (by rw[←kX];simp only[bZ] at dL;omega)
        have mA:=grownCap_ge w xs.length 0 e
        have o6:grownCap w xs.length 0 e≤maxLen:=grownCap_le_maxLen w xs.length 0 e (by simp only[maxLen];omega)
        have dt:(w.drew.alloc (.cells ((C2.toList.take xs.length).toArray++Builtin.zeroCells z.cells (grownCap w xs.length 0 e-xs.length)) e)).heap[w.heap.size]? =some (.cells ((C2.toList.take xs.length).toArray++Builtin.zeroCells z.cells (grownCap w xs.length 0 e-xs.length)) e):=heap_alloc_new w.drew (.cells ((C2.toList.take xs.length).toArray++Builtin.zeroCells z.cells (grownCap w xs.length 0 e-xs.length)) e)
        have Kd:=S2.h.gF
        obtain ⟨a1,a2⟩:=Bk (w':=w.drew.alloc (.cells ((C2.toList.take xs.length).toArray++Builtin.zeroCells z.cells (grownCap w xs.length 0 e-xs.length)) e)) S2 (nb:=nb) (b:=w.heap.size) (ys:=xs) hr qo dt (by simp;omega)
         (fun b' _ aJ=>heap_alloc_old w.drew _ b' aJ) (by simp) ⟨rfl,rfl⟩ (.inr S.size) (fun aw blk' h ho=>nP _ (S2.h.lt h ho)) (fun j hj=>nP _ (Kd _ j hj))
         (fun i b1 l=>At P w b2 e xs [(i,0)] b1 e1 l) (fun j y hy=>by
          obtain ⟨l,v,q1,q2,q3⟩:=g4 j y hy
          have b9:=(bm.1 hy).1
          refine ⟨l,v,q1,?_,q3⟩
          rw[xd (by simpa using by omega)]
          simp[b9,q2])
         (fun j b1 l ha=>⟨Ah (lit j b1 l ha).1,lit j b1 l ha⟩) g6
        refine ⟨_,_,I,ax β nb (some w.heap.size),cG,?_⟩
        rw[qp,List.nil_append]
        refine ⟨(k1.trans k2).trans a1,a2,?_⟩
        exact .di (bS _ _ _) (bS _ _ _) (by rw[jL dt,hk,e6];simp[size_zeroCells,h4];omega) mA o6
       | @di _ _ _ _ b cap hd hb aU b6 hm=>
        rw[ab] at hd;cases hd
        obtain ⟨Ca,f1,f2,f3,f4,f5,f6⟩:=Q6 S hr ab hb
        rw[jL f1,hk,e6] at aU
        have pc:bh P w (β id) (.nest e es vers) b:= .root (by simp) hb
        have Bf:=S.h.own id _ b ab pc
        have dY: ∀i b1 l,At P w b e es [(i,0)] b1 e1 l→b1≠b∧b1<w.heap.size∧gm P w I b1 e1 l∧(M b1∨B≤b1)∧∀aw blk',ax (ax hp id (some ai.dead)) bL (some ai.dead) aw=some blk'→¬bh P w (β aw) blk' b1:=fun i b1 l ha=>by
         obtain ⟨q1,q2,q3,q4,q5⟩:=f5 i b1 l ha
         exact ⟨q1,q2,q3,q4,Kb (.inl rfl) ab q5⟩
        have aaa: ∀i b1 l,At P w b2 e xs [(i,0)] b1 e1 l→b1≠b:=fun i b1 l ha h=>by
         subst h
         exact bq (S.h.inj id bL _ _ _ ab ed pc (g5 i _ l ha).2.2.2.2)
        have Kc: ∀i j b1 l m,At P w b e es [(i,0)] b1 e1 l→At P w b2 e xs [(j,0)] b1 e1 m→False:=fun i j b1 l m h1 U=>bq (S.h.inj id bL _ _ b1 ab ed (f5 i b1 l h1).2.2.2.2 (g5 j b1 m U).2.2.2.2)
        let K:Nat→Nat→List V→Prop:=fun i b1 l=>(i<es.length∧At P w b e es [(i,0)] b1 e1 l)∨(es.length≤i∧At P w b2 e xs [(i-es.length,0)] b1 e1 l)
        have td: ∀i j b1 l m,K i b1 l→K j b1 m→i=j:=by
         intro i j b1 l m h1 U
         rcases h1 with ⟨_,h1⟩|⟨p1,h1⟩
         ·rcases U with ⟨_,U⟩|⟨_,U⟩
          ·exact f6 _ _ _ _ _ h1 U
          ·exact (Kc _ _ _ _ _ h1 U).elim
         ·rcases U with ⟨_,U⟩|⟨p2,U⟩
          ·exact (Kc _ _ _ _ _ U h1).elim
          ·have:=g6 _ _ _ _ _ h1 U;omega
        have fill: ∀(C':Array Value),(∀j,j<es.length→C'[j]? =Ca[j]?)→(∀j,j<xs.length→C'[es.length+j]? =C2[j]?)→∀(j:Nat) y,(es++xs)[j]? =some y→∃l v,y= .list e1 l∧C'[j]? =some v∧Bj P w e1 (K j) v l:=by
         intro C' p1 p2 j y hy
         by_cases hj:j<es.length
         ·rw[gi hj] at hy
          obtain ⟨l,v,q1,q2,q3⟩:=f4 j y hy
          refine ⟨l,v,q1,(p1 j hj).trans q2,?_⟩
          rcases q3 with q3|⟨z1,b1,Ke,z2,z3,z4,z5,z6⟩
          ·exact .inl q3
          ·exact .inr ⟨z1,b1,Ke,z2,z3,z4,z5,.inl ⟨hj,z6⟩⟩
         ·rw[ik (by omega)] at hy
          obtain ⟨l,v,q1,q2,q3⟩:=g4 _ y hy
          have b9:=(bm.1 hy).1
          refine ⟨l,v,q1,?_,?_⟩
          ·have:=p2 (j-es.length) b9
           rw[show es.length+(j-es.length)=j by omega] at this
           exact this.trans q2
          ·rcases q3 with q3|⟨z1,b1,Ke,z2,z3,z4,z5,z6⟩
           ·exact .inl q3
           ·exact .inr ⟨z1,b1,Ke,z2,z3,z4,z5,.inr ⟨by omega,z6⟩⟩
        by_cases o9:es.length+xs.length≤cap
        ·have vb:es.length+(C2.toList.take xs.length).length≤Ca.size:=by rw[gI];omega
         have cG:=run_append_room (P:=P) w t ty e i hu hi b es.length cap Ca f1 ⟨b2,0,none⟩ xs.length Bn (C2.toList.take xs.length) (by rw[gI,h3,e6]) th o4 o9 (by rw[h3,e6];exact vb)
         rw[h3,e6,gI] at cG
         have dt:=setRow_heap w b Ca (Ca.toList.take es.length++C2.toList.take xs.length++Ca.toList.drop (es.length+xs.length)).toArray e _ f1
         obtain ⟨a1,a2⟩:=Bk (w':=w.setRow b (Ca.toList.take es.length++C2.toList.take xs.length++Ca.toList.drop (es.length+xs.length)).toArray) S2 (nb:=nb) (b:=b) (ys:=es++xs) hr qo dt (by simp;omega)
          (fun b' az _=>setRow_other w b b' _ az) (by simp) ⟨rfl,rfl⟩ Bf (Kb (.inl rfl) ab pc) f3 K
          (fill _ (fun j hj=>by
           rw[jG,cC,gi (by simp;omega),dU hj,lq]) (fun j hj=>by
           rw[jG,cC,ik (by simp;omega),gi (by simp;omega),eI,Array.length_toList (xs:=Ca),Nat.min_eq_left (by omega),ED,dU hj,lq]))
          (fun j b1 l hj=>by
           rcases hj with ⟨_,hj⟩|⟨_,hj⟩
           ·exact dY _ _ _ hj
           ·exact ⟨aaa _ _ _ hj,lit _ _ _ hj⟩) td
         refine ⟨_,_,I,ax β nb (some b),cG,?_⟩
         rw[qp]
         refine ⟨(k1.trans k2).trans a1,a2,?_⟩
         have:=ak.di (P:=P) (w:=w.setRow b (Ca.toList.take es.length++C2.toList.take xs.length++Ca.toList.drop (es.length+xs.length)).toArray) (I:=I) (β:=ax β nb (some b)) (hp:=ax (ax (ax hp id (some ai.dead)) bL (some ai.dead)) nb (some (.nest e (es++xs) [0,0,0]))) (b:=b) (cap:=cap) (bS _ _ _) (bS _ _ _) (by rw[jL dt,hk,e6];simp;omega) (by rw[cg];exact o9) hm
         rw[cg] at this
         exact this
        ·have hold: ∀(j:Nat) v,(Ca.toList.take es.length)[j]? =some v→w.cell? ((⟨b,0,none⟩:Addr).add j)=some v:=by
          intro j v hj
          have b9:=(bm.1 hj).1
          rw[eI] at b9
          rw[dU (by omega)] at hj
          rw[mn,cell?_cells f1,fx]
          simpa using hj
         have cG:=run_append_grow (P:=P) w t ty e i z hu hi hz ⟨b,0,none⟩ es.length cap (Ca.toList.take es.length) (by rw[h3,e6];simp;omega) hold ⟨b2,0,none⟩ xs.length Bn (C2.toList.take xs.length) (by rw[gI,h3,e6]) th (by omega) (by omega)
          (growslice_fits (by omega) (by rw[←kX];simp only[bZ] at dL;omega))
         have mA:=grownCap_ge w (es.length+xs.length) cap e
         have o6:grownCap w (es.length+xs.length) cap e≤maxLen:=grownCap_le_maxLen w _ cap e (by simp only[maxLen];omega)
         have dt:(w.drew.alloc (.cells ((Ca.toList.take es.length).toArray++(C2.toList.take xs.length).toArray++Builtin.zeroCells z.cells (grownCap w (es.length+xs.length) cap e-(es.length+xs.length))) e)).heap[w.heap.size]? =some (.cells ((Ca.toList.take es.length).toArray++(C2.toList.take xs.length).toArray++Builtin.zeroCells z.cells (grownCap w (es.length+xs.length) cap e-(es.length+xs.length))) e):=heap_alloc_new w.drew (.cells ((Ca.toList.take es.length).toArray++(C2.toList.take xs.length).toArray++Builtin.zeroCells z.cells (grownCap w (es.length+xs.length) cap e-(es.length+xs.length))) e)
         have Kd:=S2.h.gF
         obtain ⟨a1,a2⟩:=Bk (w':=w.drew.alloc (.cells ((Ca.toList.take es.length).toArray++(C2.toList.take xs.length).toArray++Builtin.zeroCells z.cells (grownCap w (es.length+xs.length) cap e-(es.length+xs.length))) e)) S2 (nb:=nb) (b:=w.heap.size) (ys:=es++xs) hr qo dt (by simp;omega)
          (fun b' _ aJ=>heap_alloc_old w.drew _ b' aJ) (by simp) ⟨rfl,rfl⟩ (.inr S.size) (fun aw blk' h ho=>nP _ (S2.h.lt h ho)) (fun j hj=>nP _ (Kd _ j hj)) K
          (fill _ (fun j hj=>by
           rw[xd (by simp;omega),xd (by simp;omega),jG,dU hj,lq]) (fun j hj=>by
           rw[xd (by simp;omega),Array.getElem?_append_right (by simp;omega)]
           simp only[pZ,eI,Array.length_toList (xs:=Ca),Nat.min_eq_left f2,ED]
           rw[jG,dU hj,lq]))
          (fun j b1 l hj=>by
           rcases hj with ⟨_,hj⟩|⟨_,hj⟩
           ·obtain ⟨_,q⟩:=dY _ _ _ hj
            exact ⟨Ah q.1,q⟩
           ·exact ⟨Ah (lit _ _ _ hj).1,lit _ _ _ hj⟩) td
         refine ⟨_,_,I,ax β nb (some w.heap.size),cG,?_⟩
         rw[qp]
         refine ⟨(k1.trans k2).trans a1,a2,?_⟩
         have:=ak.di (P:=P) (w:=w.drew.alloc (.cells ((Ca.toList.take es.length).toArray++(C2.toList.take xs.length).toArray++Builtin.zeroCells z.cells (grownCap w (es.length+xs.length) cap e-(es.length+xs.length))) e)) (I:=I) (β:=ax β nb (some w.heap.size)) (hp:=ax (ax (ax hp id (some ai.dead)) bL (some ai.dead)) nb (some (.nest e (es++xs) [0,0,0]))) (b:=w.heap.size) (cap:=grownCap w (es.length+xs.length) cap e) (bS _ _ _) (bS _ _ _) (by rw[jL dt,hk,e6];simp[size_zeroCells,h4];omega) (by rw[cg];exact mA) o6
         rw[cg] at this
         exact this
      | _=>cases he
    | _=>cases hd
   | _=>cases hb
 | _=>cases ha
theorem Q9 (S:aC P w I β hp B M w0) {t e e1:TypeId} {nb:Nat} {v:Value} {l:List V} (hu:P.underlying t=some (.slice e)) (hr:rowOf P e=some e1) (hn:hp nb=none) (K:Nat→List V→Prop)
  (hv:Bj P w e1 K v l) (hK: ∀b1 l,K b1 l→b1<w.heap.size∧gm P w I b1 e1 l∧(M b1∨B≤b1)∧∀id blk,hp id=some blk→¬bh P w (β id) blk b1):
  (Instr.buildSlice t 1 #[(0,v)]).run P w= .ok (.slice (some ⟨w.heap.size,0,none⟩) 1 1) (w.alloc (.cells #[v] e))∧
  Le P w I β hp (w.alloc (.cells #[v] e)) I (ax β nb (some w.heap.size)) (ax hp nb (some (.nest e [.list e1 l] [0,0,0])))∧aC P (w.alloc (.cells #[v] e)) I (ax β nb (some w.heap.size)) (ax hp nb (some (.nest e [.list e1 l] [0,0,0]))) B M w0∧
  ak P (w.alloc (.cells #[v] e)) I (ax β nb (some w.heap.size)) (ax hp nb (some (.nest e [.list e1 l] [0,0,0]))) (.slice (some ⟨w.heap.size,0,none⟩) 1 1) (.whole e nb):=by
 obtain ⟨Q7,cN,ar,vc,jM⟩:=Bi hr
 have pb:aW P e=[e]:=by simp[aW,cN]
 have hk:P.cellsOf e=1:=by rw[←eR ar,pb];rfl
 obtain ⟨i,z,hi,hz,h3,h4,_⟩:=jt ar
 rw[hk] at h3 h4
 have oe:v.cells= #[v]:=by rcases hv with ⟨_,a,cap,rfl,_⟩|⟨_,b1,cap,rfl,_⟩<;>rfl
 have cG:=J1 w t e 1 #[(0,v)] #[v] i z hu hi hz (by rw[h3];omega) (by
  rw[h3]
  simp[Instr.fill,oe]
  rw[show Array.range 1= #[0] from rfl]
  simp)
 have dt:(w.alloc (.cells #[v] e)).heap[w.heap.size]? =some (.cells #[v] e):=heap_alloc_new w _
 obtain ⟨a1,a2⟩:=Bk (w':=w.alloc (.cells #[v] e)) S (nb:=nb) (b:=w.heap.size) (ys:=[.list e1 l]) hr hn dt (by simp)
  (fun b' _ aJ=>heap_alloc_old w _ b' aJ) (by simp) ⟨rfl,rfl⟩ (.inr S.size) (fun aw blk' h ho=>nP _ (S.h.lt h ho)) (fun j hj=>nP _ (S.h.gF _ j hj))
  (fun i b1 l=>i=0∧K b1 l) (fun j y hy=>by
   cases j with
   | succ j=>simp at hy
   | zero=>
    simp at hy
    subst hy
    refine ⟨l,v,rfl,rfl,?_⟩
    rcases hv with h|⟨z1,b1,cap,z2,z3,z4,z5,z6⟩
    ·exact .inl h
    ·exact .inr ⟨z1,b1,cap,z2,z3,z4,z5,rfl,z6⟩)
  (fun j b1 l h=>⟨Ah (hK b1 l h.2).1,hK b1 l h.2⟩) (fun i j b1 l m h1 U=>h1.1.trans U.1.symm)
 refine ⟨cG,a1,a2,?_⟩
 exact .di (es:=[.list e1 l]) (bS _ _ _) (bS _ _ _) (by rw[jL dt,hk];rfl) (cl _) (by simp[maxLen])
theorem aab (S:aC P w I β hp B M w0) {a:Act} {sl:Nat→V} (hs:kS P w I β hp a sl) {G:Nat→V} (hg:gA P G w I) {t e:TypeId} {len nb:Nat} {ps:Array (Nat × Operand)} {r:R} {rd:List Nat} (hu:P.underlying t=some (.slice e))
  (h:(P5 P nb e len (ps.toList.map fun p=>(p.1,aP P G e sl p.2))).run C hp=some (r,rd)):
  c7 P ((Instr.buildSlice t len (ps.map fun (i,x)=>(i,a.eval x))).run P w) w I β hp B M w0 r:=by
 obtain ⟨hl,ha⟩:=aG h
 clear h
 rw[aX,aK] at hl
 cases hr:rowOf P e with
 | none=>rw[hr] at ha;cases ha
 | some e1=>
 simp only[hr] at ha
 obtain ⟨Q7,cN,ar,vc,jM⟩:=Bi hr
 obtain ⟨ps⟩:=ps
 simp only at ha hl
 cases ps with
 | nil=>
  obtain ⟨hn,rfl⟩:=kW ha
  simp only[List.length_nil] at hl
  subst hl
  obtain ⟨i,z,hi,hz,h3,h4,_⟩:=jt ar
  have cG:=J1 w t e 0 #[] #[] i z hu hi hz (by omega) (by simp[Instr.fill])
  have dt:(w.alloc (.cells #[] e)).heap[w.heap.size]? =some (.cells #[] e):=heap_alloc_new w _
  obtain ⟨a1,a2⟩:=Bk (w':=w.alloc (.cells #[] e)) S (nb:=nb) (b:=w.heap.size) (ys:=[]) hr hn dt (by simp)
   (fun b' _ aJ=>heap_alloc_old w _ b' aJ) (by simp) ⟨rfl,rfl⟩ (.inr S.size) (fun aw blk' h ho=>nP _ (S.h.lt h ho)) (fun j hj=>nP _ (S.h.gF _ j hj))
   (fun _ _ _=>False) (fun j y hy=>by simp at hy) (fun _ _ _ h=>h.elim) (fun _ _ _ _ _ h=>h.elim)
  exact ⟨_,_,I,ax β nb (some w.heap.size),by simpa using cG,a1,a2,.di (es:=[]) (bS _ _ _) (bS _ _ _) (by rw[jL dt];simp) (cl _) (by simp)⟩
 | cons p ps=>
  cases ps with
  | cons q ps=>
   obtain ⟨p1,p2⟩:=p
   simp only[cM] at ha
   cases p1<;>cases hx:aP P G e sl p2<;>simp only[hx] at ha<;>cases ha
  | nil=>
  obtain ⟨p1,p2⟩:=p
  simp only[List.length_cons,List.length_nil,fx] at hl
  subst hl
  have nc:=hs.ev hg e p2
  simp only[cM,fJ] at ha
  cases p1 with
  | succ n=>cases hx:aP P G e sl p2<;>simp only[hx] at ha<;>cases ha
  | zero=>
  cases hx:aP P G e sl p2 with
  | nilS e2=>
   simp only[hx] at ha
   obtain ⟨hc,hb⟩:=aG ha
   obtain ⟨hn,rfl⟩:=kW hb
   rw[hx] at nc
   obtain ⟨a0,ha0⟩: ∃a0,a.eval p2= .slice a0 0 0:=by
    generalize a.eval p2=v at nc
    cases nc
    exact ⟨_,rfl⟩
   obtain ⟨k1,k2,k3,k4⟩:=Q9 S (v:=a.eval p2) (l:=[]) hu hr hn (fun _ _=>False) (.inl ⟨rfl,a0,0,ha0,fun _=>rfl⟩) (fun _ _ h=>h.elim)
   exact ⟨_,_,I,ax β nb (some w.heap.size),by simpa using k1,k2,k3,k4⟩
  | whole e2 id=>
   simp only[hx] at ha
   obtain ⟨l0,hb⟩:=run_get ha
   clear ha
   cases ab:hp id with
   | none=>rw[ab] at hb;cases hb
   | some blk=>
    rw[ab] at hb
    cases blk with
    | arr e3 es fz=>
     cases fz with
     | true=>cases hb
     | false=>
      obtain ⟨hc,hd⟩:=aG hb
      clear hb
      simp only[aO,aX] at hc
      obtain ⟨rfl,rfl⟩:=hc
      obtain ⟨hn,rfl⟩:=kW hd
      have bq:nb≠id:=fun e=>by rw[e,ab] at hn;cases hn
      obtain ⟨k1,S1⟩:=uV S ab
      have jO:ax hp id (some ai.dead) nb=none:=by rw[cy _ _ bq];exact hn
      have qp:bW hp [(nb,.nest e [.list e1 es] [0,0,0]),(id,.dead)]=ax (ax hp id (some ai.dead)) nb (some (.nest e [.list e1 es] [0,0,0])):=rfl
      rw[hx] at nc
      have fin: ∀(K:Nat→List V→Prop),Bj P w e1 K (a.eval p2) es→(∀b1 l,K b1 l→b1<w.heap.size∧gm P w I b1 e1 l∧(M b1∨B≤b1)∧∀aw blk',ax hp id (some ai.dead) aw=some blk'→¬bh P w (β aw) blk' b1)→
        c7 P ((Instr.buildSlice t 1 #[(0,a.eval p2)]).run P w) w I β hp B M w0 ⟨.whole e nb,[(nb,.nest e [.list e1 es] [0,0,0]),(id,.dead)]⟩:=fun K hv hK=>by
       obtain ⟨q1,q2,q3,q4⟩:=Q9 S1 (v:=a.eval p2) (l:=es) hu hr jO K hv hK
       refine ⟨_,_,I,ax β nb (some w.heap.size),q1,?_⟩
       rw[qp]
       exact ⟨k1.trans q2,q3,q4⟩
      have res:c7 P ((Instr.buildSlice t 1 #[(0,a.eval p2)]).run P w) w I β hp B M w0 ⟨.whole e nb,[(nb,.nest e [.list e1 es] [0,0,0]),(id,.dead)]⟩:=by
       generalize a.eval p2=v at nc fin⊢
       cases nc with
       | dI hd=>rw[ab] at hd;cases hd
       | di hd=>rw[ab] at hd;cases hd
       | dB hd=>rw[ab] at hd;cases hd
       | @dw _ _ _ a0 hd hb=>
        rw[ab] at hd;cases hd
        exact fin (fun _ _=>False) (.inl ⟨rfl,a0,0,rfl,fun _=>rfl⟩) (fun _ _ h=>h.elim)
       | @whole _ _ _ _ b cap hd hb aU b6 hm=>
        rw[ab] at hd;cases hd
        obtain ⟨m1,m2⟩:=QD S ab hb jM
        obtain ⟨m3,m4⟩:=m1 _ _ _ _ .here
        by_cases h0:0<es.length
        ·refine fin (fun b1 l=>b1=b∧l=es) (.inr ⟨h0,b,cap,rfl,aU,b6,hm,rfl,rfl⟩) (fun b1 l h=> ?_)
         obtain ⟨rfl,rfl⟩:=h
         refine ⟨S.h.lt ab m4,m3,S.h.own id _ _ ab m4,fun aw blk' h' ho=> ?_⟩
         by_cases q:aw=id
         ·subst q;rw[bS] at h';cases h';exact absurd rfl ho.alive
         ·rw[cy _ _ q] at h'
          exact q (S.h.inj aw id _ _ _ h' ab ho m4)
        ·have:es=[]:=jY.1 (by omega)
         subst this
         exact fin (fun _ _=>False) (.inl ⟨rfl,some ⟨b,0,none⟩,cap,rfl,fun h=>by cases h⟩) (fun _ _ h=>h.elim)
      simpa using res
    | _=>cases hb
  | _=>simp only[hx] at ha;cases ha
end
section
variable {P:Program} {w w':World} {I I':Nat→Nat→Prop} {β β':Nat→Option Nat} {hp hp':Nat→Option ai} {C:ah} {B:Nat} {M:Nat→Prop} {w0:Start}
theorem aac (S:aC P w I β hp B M w0) {s:TypeId} {f:Nat} {v:Value} {x:V} {r:R} {rd:List Nat} (hv:ak P w I β hp v x)
  (h:(Jk P s f x).run C hp=some (r,rd)):c7 P ((Instr.field s v f).run P w) w I β hp B M w0 r:=by
 unfold Jk ES at h
 split at h
 ·rename_i fs hu
  cases hf:fs[f]? with
  | none=>rw[hf] at h;cases h
  | some fd=>
   rw[hf] at h
   simp only[xo] at h
   obtain ⟨ht,h⟩:=aG h
   obtain ⟨d,ve⟩:=A5 ht
   obtain ⟨i,hi⟩:=xD ve
   have aU:i.size=P.cellsOf fd.type:=by simp[Program.cellsOf,hi]
   cases x with
   | agg xs=>
    obtain ⟨cs,rfl,h1,U⟩:=hv.kb
    dsimp only at h
    cases ha:bM P fd.type with
    | true=>
     rw[ha] at h
     simp only[cond_true] at h
     obtain ⟨hc,h⟩:=aG h
     obtain rfl:=aT h
     rw[dq] at hc
     refine .same S (v:= .agg (cs.extract fd.offset (fd.offset+P.cellsOf fd.type))) ?_ (.agg (by simp;omega) fun j u y gp hy=> ?_)
     ·simp[Instr.field,run_underlying hu,hf,part,JG ve,ha,asAgg,sizeOf,typeInfo,hi,aU]
     ·have hj:j<P.cellsOf fd.type:=by
       have:=(iQ.1 gp).1
       simp at this;omega
      rw[dU hj,iP] at hy
      refine U (fd.offset+j) u y ?_ hy
      rw[Array.getElem?_extract] at gp
      split at gp
      ·exact gp
      ·cases gp
    | false=>
     rw[ha] at h
     simp only[cond_false] at h
     obtain ⟨y,hy,h⟩:=mj h
     obtain rfl:=aT h
     have aJ:fd.offset<cs.size:=by rw[h1];exact (bm.1 hy).1
     refine .same S (v:=cs[fd.offset]) ?_ (U _ _ _ (lp aJ) hy)
     simp[Instr.field,run_underlying hu,hf,part,JG ve,ha,asAgg,aJ]
   | _=>cases h
 ·cases h
theorem aad (S:aC P w I β hp B M w0) {i:Nat} {v:Value} {xs:List V} {r:R} {rd:List Nat} (hv:ak P w I β hp v (.bn xs))
  (h:(Rd.opt xs[i]? fun v=> .ret ⟨v,[]⟩).run C hp=some (r,rd)):c7 P ((Instr.extract v i).run P w) w I β hp B M w0 r:=by
 obtain ⟨cs,rfl,h1,U⟩:=hv.uW
 obtain ⟨y,hy,h⟩:=mj h
 obtain rfl:=aT h
 have aJ:i<cs.size:=by rw[h1];exact (bm.1 hy).1
 exact .same S (v:=cs[i]) (by simp[Instr.extract,aJ]) (U _ _ _ (lp aJ) hy)
theorem aae (S:aC P w I β hp B M w0) {t:TypeId} {s:ByteArray} {l:List UInt8} {k:IntKind} {i:Int} {r:R} {rd:List Nat} (hu:P.underlying t=some .string) (hs:s.data.toList=l)
  (h:(Rd.opt (bif decide (0≤i) then (l[i.toNat]?).map fun b=>V.int .u8 b.toNat else none) fun v=> .ret ⟨.int .u8 v.toInt,[]⟩).run C hp=some (r,rd)):
  c7 P ((Instr.index t (.string s) (.int k i)).run P w) w I β hp B M w0 r:=by
 obtain ⟨v,hv,h⟩:=mj h
 obtain rfl:=aT h
 cases hc:decide (0≤i) with
 | false=>rw[hc] at hv;cases hv
 | true=>
  rw[hc] at hv
  simp only[cond_true] at hv
  have h0:0≤i:=by simpa using hc
  cases hb:l[i.toNat]? with
  | none=>rw[hb] at hv;cases hv
  | some b=>
   rw[hb] at hv
   simp only[Option.map_some,ek] at hv
   subst hv
   have hsb:s[i.toNat]? =some b:=by
    subst hs
    obtain ⟨aJ,he⟩:=bm.1 hb
    have Kf:i.toNat<s.size:=by simpa using aJ
    rw[getElem?_pos s i.toNat Kf]
    congr 1
   refine .same S (v:= .int .u8 b.toNat) ?_ .int
   simp[Instr.index,asIntOf,run_underlying hu,h0,hsb]
theorem Kg (S:aC P w I β hp B M w0) (mx:Bool): ∀{vs:List Value} {xs:List V} {v:Value} {x:V} {r:R} {rd:List Nat},ak P w I β hp v x→vs.length=xs.length→
  (∀(j:Nat) u y,vs[j]? =some u→xs[j]? =some y→ak P w I β hp u y)→(xp mx x xs).run C hp=some (r,rd)→
  c7 P ((vs.foldlM (if mx then Builtin.max2 else Builtin.min2) v).run P w) w I β hp B M w0 r
 | [],[],v,x,r,rd,hv,_,_,h=>by
  have:r=⟨x,[]⟩:=by
   cases x<;>(simp only[xp] at h;exact (aT h).symm)
  subst this
  exact .same S (by simp) hv
 | [],_::_,v,x,r,rd,hv,hl,_,h=>by simp at hl
 | _::_,[],v,x,r,rd,hv,hl,_,h=>by simp at hl
 | u::vs,y::xs,v,x,r,rd,hv,hl,hx,h=>by
  cases x<;>cases y<;>simp only[xp] at h<;>first|(cases h;done)|skip
  rename_i k a k' b
  obtain ⟨hc,h4⟩:=aG h
  clear h
  obtain rfl:k=k':=by simpa using hc
  have hu:=hx 0 u _ rfl rfl
  rw[hv.en,hu.en]
  have ih:=Kg S mx (vs:=vs) (xs:=xs) (v:= .int k (bif mx then (if b>a then b else a) else (if b<a then b else a))) .int (by simpa using hl)
   (fun j u y h1 U=>hx (j+1) u y (by simpa using h1) (by simpa using U)) h4
  cases mx with
  | true=>simpa[List.foldlM_cons,Builtin.max2] using ih
  | false=>simpa[List.foldlM_cons,Builtin.min2] using ih
theorem rI {n cap:Nat} {isS:Bool} {lo hi:Option V} {lov hiv:Option Value} {k:Nat→Nat→Rd R} {r:R} {rd:List Nat} (hn:n≤cap)
  (ju: ∀x,lo=some x→∃v,lov=some v∧ak P w I β hp v x) (iH: ∀x,hi=some x→∃v,hiv=some v∧ak P w I β hp v x) (oh:lo=none→lov=none) (pd:hi=none→hiv=none)
  (h:(sP n lo hi k).run C hp=some (r,rd)): ∃l u,l≤u∧u≤n∧(Instr.sliceBounds isS n cap lov hiv none).run P w= .ok (l,u,cap) w∧(k l u).run C hp=some (r,rd):=by
 have ok: ∀(kk:IntKind) (i:Int) (y:Nat) (c:BoundsCode),0≤i→i≤y→(Instr.sliceBound (.int kk i) y c).run P w= .ok i.toNat w:=by
  intro kk i y c h1 U
  simp[Instr.sliceBound,asIntOf,h1,U]
 unfold sP at h
 cases lo with
 | none=>
  rw[oh rfl]
  cases hi with
  | none=>
   rw[pd rfl]
   exact ⟨0,n,oN _,cl _,by simp[Instr.sliceBounds],h⟩
  | some x=>
   obtain ⟨v,rfl,hv⟩:=iH x rfl
   cases x<;>simp only at h<;>first|(cases h;done)|skip
   rename_i kk u
   obtain ⟨hc,h⟩:=aG h
   simp only[aO,ej] at hc
   rw[hv.en]
   have:=ok kk u cap (if isS then .sliceAcap else .sliceAlen) hc.1 (by omega)
   exact ⟨0,u.toNat,oN _,by omega,by simp[Instr.sliceBounds,this],h⟩
 | some x=>
  obtain ⟨v,rfl,hv⟩:=ju x rfl
  cases hi with
  | none=>
   rw[pd rfl]
   cases x<;>simp only at h<;>first|(cases h;done)|skip
   rename_i kk l
   obtain ⟨hc,h⟩:=aG h
   simp only[aO,ej] at hc
   rw[hv.en]
   have:=ok kk l n .sliceB hc.1 (by omega)
   exact ⟨l.toNat,n,by omega,cl _,by simp[Instr.sliceBounds,this],h⟩
  | some y=>
   obtain ⟨v2,rfl,rr⟩:=iH y rfl
   cases x<;>cases y<;>simp only at h<;>first|(cases h;done)|skip
   rename_i kk l kk2 u
   obtain ⟨hc,h⟩:=aG h
   simp only[aO,ej] at hc
   rw[hv.en,rr.en]
   have h1:=ok kk2 u cap (if isS then .sliceAcap else .sliceAlen) (by omega) (by omega)
   have U:=ok kk l u.toNat .sliceB hc.1 (by omega)
   exact ⟨l.toNat,u.toNat,by omega,by omega,by simp[Instr.sliceBounds,h1,U],h⟩
theorem FL {a:Option Addr} {t e:TypeId} {i:TypeInfo} (hu:P.underlying t=some (.slice e)) (hi:P.info? e=some i) {lov hiv:Option Value}
  (hb:(Instr.sliceBounds true 0 0 lov hiv none).run P w= .ok (0,0,0) w):(Instr.sliceAt t (.slice a 0 0) lov hiv none).run P w= .ok (.slice a 0 0) w:=by
 cases a<;>simp[Instr.sliceAt,Instr.slice,run_underlying hu,hb,sizeOf,typeInfo,hi]
theorem Kh {t e:TypeId} {i:TypeInfo} {b o len cap l u:Nat} (hu:P.underlying t=some (.slice e)) (hi:P.info? e=some i) {lov hiv:Option Value} (huc:u≤cap)
  (hb:(Instr.sliceBounds true len cap lov hiv none).run P w= .ok (l,u,cap) w): ∃o',(0<u-l→o'=o+l*i.size)∧(Instr.sliceAt t (.slice (some ⟨b,o,none⟩) len cap) lov hiv none).run P w= .ok (.slice (some ⟨b,o',none⟩) (u-l) (cap-l)) w:=by
 by_cases hc:cap=l
 ·subst hc
  refine ⟨o,fun h=>by omega,?_⟩
  ·simp[Instr.sliceAt,Instr.slice,run_underlying hu,hb,sizeOf,typeInfo,hi]
 ·refine ⟨o+l*i.size,fun _=>rfl,?_⟩
  simp[Instr.sliceAt,Instr.slice,run_underlying hu,hb,sizeOf,typeInfo,hi,hc,mn]
theorem aaf (s:ByteArray) (l:List UInt8) (h:s.data.toList=l) (a b:Nat):(s.extract a b).data.toList=(l.drop a).take (b-a):=by
 subst h
 simp[ByteArray.data_extract]
theorem aag (S:aC P w I β hp B M w0) {t:TypeId} {v:Value} {x:V} {lo hi:Option V} {lov hiv:Option Value} {r:R} {rd:List Nat} (hv:ak P w I β hp v x)
  (ju: ∀x,lo=some x→∃v,lov=some v∧ak P w I β hp v x) (iH: ∀x,hi=some x→∃v,hiv=some v∧ak P w I β hp v x) (oh:lo=none→lov=none) (pd:hi=none→hiv=none)
  (h:(EY P t x lo hi).run C hp=some (r,rd)):c7 P ((Instr.sliceAt t v lov hiv none).run P w) w I β hp B M w0 r:=by
 unfold EY at h
 cases hu:P.underlying t with
 | none=>rw[hu] at h;cases h
 | some d=>
  rw[hu] at h
  cases d<;>simp only at h<;>first|(cases h;done)|skip
  case string=>
   cases x<;>simp only at h<;>first|(cases h;done)|skip
   rename_i l
   obtain ⟨s,rfl,hs⟩:=hv.m9
   have aU:l.length=s.size:=by rw[←hs];simp
   obtain ⟨a,u,h1,U,h3,h4⟩:=rI (isS:=false) (cap:=s.size) (by omega) ju iH oh pd h
   obtain rfl:=aT h4
   rw[aU] at h3
   refine .same S (v:= .string (s.extract a u)) ?_ (.str (aaf s l hs a u))
   simp[Instr.sliceAt,Instr.slice,run_underlying hu,h3]
  case slice e=>
   cases x<;>simp only at h<;>first|(cases h;done)|skip
   case list e' es=>
    obtain ⟨hc,h⟩:=aG h
    simp only[aO,aX] at hc
    obtain ⟨dX,ar⟩:=hc
    obtain ⟨i,z,eo,_,aU,_⟩:=jt ar
    cases hv with
    | list hp'=>
     cases hp' with
     | nil=>
      obtain ⟨a,u,h1,U,h3,h4⟩:=rI (n:=0) (isS:=true) (cap:=0) (cl _) ju iH oh pd h
      obtain rfl:=aT h4
      obtain rfl:u=0:=by omega
      obtain rfl:a=0:=by omega
      exact .same S (FL hu eo h3) (by simpa using ak.list jm.nil)
     | @emp ad cap=>
      obtain ⟨a,u,h1,U,h3,h4⟩:=rI (n:=0) (isS:=true) (cap:=cap) (oN _) ju iH oh pd h
      obtain rfl:=aT h4
      obtain rfl:u=0:=by omega
      obtain rfl:a=0:=by omega
      refine .same S (v:= .slice (some ad) 0 cap) ?_ (by simpa using ak.list jm.emp)
      by_cases hc:cap=0
      ·subst hc
       simp[Instr.sliceAt,Instr.slice,run_underlying hu,h3,sizeOf,typeInfo,eo]
      ·simp[Instr.sliceAt,Instr.slice,run_underlying hu,h3,sizeOf,typeInfo,eo,hc,Addr.add]
     | @list b o len cap _ g hl b6 hI fM hx=>
      obtain ⟨a,u,h1,U,h3,h4⟩:=rI (isS:=true) (cap:=cap) (by omega) ju iH oh pd h
      obtain rfl:=aT h4
      rw[hl] at U h3
      obtain ⟨o',jn,cG⟩:=Kh (b:=b) (o:=o) hu eo (by omega) h3
      have hU:e=e':=dX
      refine .same S cG (.list ?_)
      rw[←hU]
      rw[←hU] at fM hx hI
      have hlen:((es.drop a).take (u-a)).length=u-a:=by simp;omega
      refine .list (fun i j=>g (a+i) j) hlen (by omega) (fun j hj=> ?_) (fun i j hi hj=> ?_) (fun i j y t' hy ht=> ?_)
      ·have iE:0<u-a:=Nat.pos_of_ne_zero fun e=>by rw[e,Nat.zero_mul] at hj;cases hj
       rw[jn (by omega),aU,l8]
       refine hI _ (nO (Nat.add_lt_add_left hj _) ?_)
       rw[←dG]
       exact dF _ (by omega)
      ·have:=fM (a+i) j (by omega) hj
       rw[dG,l8,←l8 o] at this
       rw[jn (by omega),aU]
       exact this
      ·have hi:i<u-a:=by rw[←hlen];exact (bm.1 hy).1
       rw[dU hi,iP] at hy
       exact hx (a+i) j y t' hy ht
   case whole e' id=>
    obtain ⟨l,h⟩:=run_get h
    cases ab:hp id with
    | none=>rw[ab] at h;cases h
    | some blk=>
     rw[ab] at h
     cases blk<;>simp only at h<;>first|(cases h;done)|skip
     rename_i dM es fz
     obtain ⟨hc,h9⟩:=aG h
     clear h
     simp only[aO,aX] at hc
     obtain ⟨dX,eQ,ar⟩:=hc
     obtain ⟨i,z,eo,_,aU,_⟩:=jt ar
     cases hv with
     | dI hd=>rw[ab] at hd;cases hd
     | di hd=>rw[ab] at hd;cases hd
     | dB hd=>rw[ab] at hd;cases hd
     | dw hd hb=>
      rw[ab] at hd
      cases hd
      obtain ⟨a,u,h1,U,h3,h4⟩:=rI (n:=0) (isS:=true) (cap:=0) (cl _) ju iH oh pd h9
      obtain rfl:=aT h4
      obtain rfl:u=0:=by omega
      obtain rfl:a=0:=by omega
      exact .same S (FL hu eo h3) (.gn ab hb)
     | @whole _ _ aN nW b cap hd hb Bg b6 hm=>
      have fb:=hd
      rw[ab] at hd
      cases hd
      obtain ⟨a,u,h1,U,h3,h4⟩:=rI (isS:=true) (cap:=cap) b6 ju iH oh pd h9
      obtain rfl:=aT h4
      obtain ⟨o',jn,cG⟩:=Kh (b:=b) (o:=0) hu eo (by omega) h3
      have hU:e=e':=dX
      exact .same S cG (.sub fb hb (by omega) (by omega) (fun h=>by rw[jn h,aU,hU,fx]))
   case sub e' id off len=>
    obtain ⟨l,h⟩:=run_get h
    cases ab:hp id with
    | none=>rw[ab] at h;cases h
    | some blk=>
     rw[ab] at h
     cases blk<;>simp only at h<;>first|(cases h;done)|skip
     rename_i dM es fz
     obtain ⟨hc,h⟩:=aG h
     simp only[aO,aX] at hc
     obtain ⟨dX,eQ,ar⟩:=hc
     obtain ⟨i,z,eo,_,aU,_⟩:=jt ar
     cases hv with
     | gE hd=>rw[ab] at hd;cases hd
     | gn hd hb=>
      have fb:=hd
      obtain ⟨a,u,h1,U,h3,h4⟩:=rI (isS:=true) (cap:=0) (cl _) ju iH oh pd h
      obtain rfl:=aT h4
      obtain rfl:u=0:=by omega
      obtain rfl:a=0:=by omega
      exact .same S (FL hu eo h3) (.gn fb hb)
     | @sub _ _ _ _ aN nW b o cap hd hb kR b6 ho=>
      have fb:=hd
      obtain ⟨a,u,h1,U,h3,h4⟩:=rI (isS:=true) (cap:=cap) b6 ju iH oh pd h
      obtain rfl:=aT h4
      obtain ⟨o',jn,cG⟩:=Kh (b:=b) (o:=o) hu eo (by omega) h3
      have hU:e=e':=dX
      exact .same S cG (.sub fb hb (by omega) (by omega) (fun h=>by rw[jn h,aU,ho (by omega),hU,dG]))
theorem aah (S:aC P w I β hp B M w0) {t:TypeId} {v:Value} {x:V} {lo hi mx:Option V} {lov hiv Ra:Option Value} {r:R} {rd:List Nat} (hv:ak P w I β hp v x)
  (ju:lo=none→lov=none) (iH: ∀y,hi=some y→∃u,hiv=some u∧ak P w I β hp u y) (oZ: ∀y,mx=some y→∃u,Ra=some u∧ak P w I β hp u y)
  (h:(Ji P t x lo hi mx).run C hp=some (r,rd)):c7 P ((Instr.sliceAt t v lov hiv Ra).run P w) w I β hp B M w0 r:=by
 unfold Ji at h
 cases hu:P.underlying t with
 | none=>rw[hu] at h;cases h
 | some d=>
  rw[hu] at h
  cases d<;>(try (cases h;done))
  rename_i e
  cases lo<;>(try (cases h;done))
  cases hi<;>(try (cases h;done))
  rename_i xQ
  cases xQ<;>(try (cases h;done))
  cases mx<;>(try (cases h;done))
  rename_i mv1
  cases mv1<;>(try (cases h;done))
  obtain ⟨hc,h9⟩:=aG h
  clear h
  have h:=h9
  clear h9
  simp only[aO,ej] at hc
  obtain ⟨rfl,rfl,ar⟩:=hc
  obtain ⟨i,z,eo,_,_,_⟩:=jt ar
  obtain ⟨u1,rfl,k1⟩:=iH _ rfl
  obtain ⟨u2,rfl,k2⟩:=oZ _ rfl
  rw[k1.en,k2.en,ju rfl]
  have run: ∀{k k2:IntKind} (a:Option Addr) (len cap:Nat),(Instr.sliceAt t (.slice a len cap) none (some (.int k 0)) (some (.int k2 0))).run P w= .ok (.slice a 0 0) w:=by
   intro k k2 a len cap
   cases a<;>simp[Instr.sliceAt,Instr.slice,Instr.sliceBounds,Instr.sliceBound,asIntOf,run_underlying hu,sizeOf,typeInfo,eo]
  cases x<;>(try (cases h;done))
  ·simp only at h
   obtain rfl:=aT h
   cases hv with
   | list hp'=>cases hp'<;>exact .same S (run _ _ _) .nilS
  ·simp only at h
   obtain rfl:=aT h
   cases hv
   exact .same S (run _ _ _) .nilS
  ·rename_i e' id
   simp only at h
   obtain ⟨l,h⟩:=run_get h
   cases ab:hp id with
   | none=>rw[ab] at h;cases h
   | some blk=>
    rw[ab] at h
    cases blk<;>simp only at h<;>first|(cases h;done)|skip
    all_goals
     obtain rfl:=aT h
     cases hv with
     | dI hd=>rw[ab] at hd;cases hd
     | di hd=>exact .same S (run _ _ _) .nilS
     | dB hd=>exact .same S (run _ _ _) .nilS
     | dw hd hb=>exact .same S (run _ _ _) .nilS
     | whole hd=>exact .same S (run _ _ _) .nilS
theorem aai (S:aC P w I β hp B M w0) {t:TypeId} {v ix:Value} {x y:V} {r:R} {rd:List Nat} (hv:ak P w I β hp v x) (hy:ak P w I β hp ix y)
  (h:(Jl P t x y).run C hp=some (r,rd)):c7 P ((Instr.indexAt t v ix).run P w) w I β hp B M w0 r:=by
 unfold Jl at h
 cases hu:P.underlying t with
 | none=>rw[hu] at h;cases h
 | some d=>
  rw[hu] at h
  cases y<;>(try (cases d<;>cases h;done))
  rename_i k i
  rw[hy.en]
  cases d<;>simp only at h<;>first|(cases h;done)|skip
  case slice e=>
   have run: ∀(b o len cap:Nat) (ie:TypeInfo),P.info? e=some ie→0≤i→i<(len:Int)→(Instr.indexAt t (.slice (some ⟨b,o,none⟩) len cap) (.int k i)).run P w= .ok (.pointer (some ⟨b,o+i.toNat*ie.size,none⟩)) w:=by
    intro b o len cap ie kg h0 h1
    simp[Instr.indexAt,asIntOf,run_underlying hu,h0,h1,sizeOf,typeInfo,kg,mn]
   cases x<;>simp only at h<;>first|(cases h;done)|skip
   case list e' es=>
    obtain ⟨hc,h⟩:=aG h
    simp only[aO,aX] at hc
    obtain ⟨dX,ar⟩:=hc
    have hU:e=e':=dX
    obtain ⟨ie,z,eo,_,aU,_⟩:=jt ar
    obtain ⟨el,dg,h⟩:=mj h
    obtain rfl:=aT h
    unfold idx at dg
    cases h0:decide (0≤i) with
    | false=>rw[h0] at dg;cases dg
    | true=>
     rw[h0] at dg
     simp only[cond_true] at dg
     have xR:0≤i:=by simpa using h0
     have aJ:i.toNat<es.length:=(bm.1 dg).1
     cases hv with
     | list hp'=>
      cases hp' with
      | nil=>simp at aJ
      | emp=>simp at aJ
      | @list b o len cap _ g hl b6 hI fM hx=>
       rw[←hU] at fM hx hI
       refine .same S (run b o len cap ie eo xR (by omega)) ?_
       have ch:=xE (P:=P) e el
       have FM:=eR ar
       have Rb:(bif bM P e then flat P e else [e])=aW P e:=rfl
       rw[Rb]
       have aaj:ie.size=P.cellsOf e:=by simp[Program.cellsOf,eo]
       refine .pref (by rw[ch]) (fun j hj=> ?_) (fun j t' y' ht A1=> ?_)
       ·rw[l8,aaj]
        exact hI _ (Jt (by omega) (by rw[ch,FM] at hj;exact hj))
       ·obtain ⟨t2,a1,a2⟩:=JH A1
        rw[ht] at a1;cases a1
        have hj:j<P.cellsOf e:=by rw[←FM];exact (bm.1 ht).1
        have ey:=hx i.toNat j el t' dg ht
        refine ⟨g i.toNat j,?_,?_⟩
        ·rw[aU,l8];exact fM i.toNat j (by omega) hj
        ·rw[a2,ey.s8];exact ey
   case whole e' id=>
    obtain ⟨l,h⟩:=run_get h
    cases ab:hp id with
    | none=>rw[ab] at h;cases h
    | some blk=>
     rw[ab] at h
     cases blk<;>simp only at h<;>first|(cases h;done)|skip
     rename_i dM es fz
     obtain ⟨hc,h⟩:=aG h
     simp only[aO,aX] at hc
     obtain ⟨dX,eQ⟩:=hc
     obtain ⟨eS,h⟩:=aG h
     simp only[aO,ej] at eS
     obtain rfl:=aT h
     cases hv with
     | dI hd=>rw[ab] at hd;cases hd
     | di hd=>rw[ab] at hd;cases hd
     | dB hd=>rw[ab] at hd;cases hd
     | dw hd hb=>rw[ab] at hd;cases hd;simp at eS;omega
     | @whole _ _ aN nW b cap hd hb Bg b6 hm=>
      have fb:=hd
      rw[ab] at hd
      cases hd
      have hr:=S.h.rel id _ ab
      cases hr with
      | dJ az=>rw[az] at hb;cases hb
      | arr ar az hh hs hf dP hx=>
       have hU:e=e':=dX
       obtain ⟨ie,z,eo,_,aU,_⟩:=jt ar
       rw[←hU] at eo aU
       refine .same S (run b 0 _ cap ie eo eS.1 eS.2) ?_
       have:=ak.ptr (P:=P) (w:=w) (I:=I) (i:=i.toNat) (c:=0) fb (by simp) hb
       simp only[ai.sz] at this
       rw[fx,aU,hU]
       simpa using this
     rename_i dM es vers
     obtain ⟨hc,h⟩:=aG h
     simp only[aO,aX] at hc
     obtain ⟨dX,eQ⟩:=hc
     obtain ⟨eS,h⟩:=aG h
     simp only[aO,ej] at eS
     obtain rfl:=aT h
     cases hv with
     | dI hd=>rw[ab] at hd;cases hd
     | dw hd hb=>rw[ab] at hd;cases hd
     | whole hd=>rw[ab] at hd;cases hd
     | dB hd hb=>rw[ab] at hd;cases hd;simp at eS;omega
     | @di _ _ aN vers' b cap hd hb Bg b6 hm=>
      have fb:=hd
      rw[ab] at hd
      cases hd
      have ar:=(S.rows fb hb .here).ok
      have hU:e=e':=dX
      obtain ⟨ie,z,eo,_,aU,_⟩:=jt ar
      rw[←hU] at eo aU
      refine .same S (run b 0 _ cap ie eo eS.1 eS.2) ?_
      have:=ak.ptr (P:=P) (w:=w) (I:=I) (i:=i.toNat) (c:=0) fb (by simp) hb
      simp only[ai.sz] at this
      rw[fx,aU,hU]
      simpa using this
   case row e' id ver path=>
    obtain ⟨e0,es,vers,l,ab,h1,U,h3,h⟩:=oY h
    obtain ⟨e2,v',k1,k2,h⟩:=xz h
    obtain ⟨hc,h⟩:=aG h
    simp only[aO,aX] at hc
    obtain ⟨dX,eQ⟩:=hc
    obtain ⟨eS,h⟩:=aG h
    simp only[aO,ej] at eS
    obtain rfl:=aT h
    cases hv with
    | j8 hd hp'=>rw[ab] at hd;cases hd;exact absurd hp' (xA h1 U h3)
    | @row v _ e0 t1 _ ver b i1 c1 q es l1 vers hd hb hq JT ht fM=>
     have aak:=fM
     obtain ⟨b',e3,aN,Ca,T,f,x,m1,m2,m3,m4,m5,m6⟩:=fM
     have jq:=hd
     rw[ab] at jq
     cases jq
     obtain ⟨n1,n2⟩:=Fj m1 m3 m4 ht m5
     rw[n2] at k2
     cases k2
     simp only[V.toList] at eS
     have hR:=S.rows hd hb m1
     obtain ⟨C1,c2,c3,c4⟩:=hR.cells
     rw[m2] at c2
     cases c2
     have hj:c1<P.cellsOf e3:=by
      rw[←eR hR.ok];exact (bm.1 m4).1
     obtain ⟨v2,d1,d2⟩:=c4 _ _ _ _ m3 m4 hj
     rw[m6] at d1
     cases d1
     rw[m5] at d2
     cases d2 with
     | fB a _=>unfold eu at a;rw[ht] at a;cases a
     | emp _ _=>simp at eS;omega
     | @row _ _ b1 cap _ hl _ _ _=>
      have ar:=(S.rows hd hb (m1.snoc m2 m3 m4 ht m5 hl m6)).ok
      have hU:e=e':=dX
      obtain ⟨ie,z,eo,_,aU,_⟩:=jt ar
      rw[←hU] at eo aU
      refine .same S (run b1 0 _ cap ie eo eS.1 eS.2) ?_
      have:=ak.cX (P:=P) (I:=I) (i:=i.toNat) (c:=0) hd hb hq JT ht hl aak
      rw[fx,aU,hU]
      simpa using this
   case sub e' id off len=>
    obtain ⟨l,h⟩:=run_get h
    cases ab:hp id with
    | none=>rw[ab] at h;cases h
    | some blk=>
     rw[ab] at h
     cases blk<;>simp only at h<;>first|(cases h;done)|skip
     rename_i dM es fz
     obtain ⟨hc,h⟩:=aG h
     simp only[aO,aX] at hc
     obtain ⟨dX,eQ⟩:=hc
     obtain ⟨eS,h⟩:=aG h
     simp only[aO,ej] at eS
     obtain rfl:=aT h
     cases hv with
     | gE hd=>rw[ab] at hd;cases hd
     | gn hd hb=>simp at eS;omega
     | @sub _ _ _ _ aN nW b o cap hd hb kR b6 ho=>
      have fb:=hd
      rw[ab] at hd
      cases hd
      have hr:=S.h.rel id _ ab
      cases hr with
      | dJ az=>rw[az] at hb;cases hb
      | arr ar az hh hs hf dP hx=>
       have hU:e=e':=dX
       obtain ⟨ie,z,eo,_,aU,_⟩:=jt ar
       rw[←hU] at eo aU
       refine .same S (run b o _ cap ie eo eS.1 eS.2) ?_
       have:=ak.ptr (P:=P) (w:=w) (I:=I) (i:=off+i.toNat) (c:=0) fb (by simp) hb
       simp only[ai.sz] at this
       rw[ho (by omega),aU,hU,←dG]
       simpa using this
  case array n e=>
   have run: ∀(b o:Nat) (ie:TypeInfo),P.info? e=some ie→0≤i→i<(n:Int)→(Instr.indexAt t (.pointer (some ⟨b,o,none⟩)) (.int k i)).run P w= .ok (.pointer (some ⟨b,o+i.toNat*ie.size,none⟩)) w:=by
    intro b o ie kg h0 h1
    simp[Instr.indexAt,asIntOf,run_underlying hu,h0,h1,sizeOf,typeInfo,kg,mn,Instr.sureAddr]
   cases x<;>simp only at h<;>first|(cases h;done)|skip
   case ptr id j c=>
    obtain ⟨⟨blk,ab,hd⟩,l,h⟩:=xC h
    obtain ⟨eS,h⟩:=aG h
    simp only[aO,ej] at eS
    obtain rfl:=aT h
    obtain ⟨b,hb,rfl⟩:=hv.iB ab hd
    obtain ⟨d,ve⟩:=A5 eS.1
    obtain ⟨ie,kg⟩:=xD ve
    have aU:ie.size=P.cellsOf e:=by simp[Program.cellsOf,kg]
    refine .same S (run b _ ie kg eS.2.1 eS.2.2) ?_
    rw[aU,l8]
    exact .ptr ab hd hb
   case pref ts cs=>
    obtain ⟨eS,h⟩:=aG h
    simp only[aO,ej] at eS
    obtain rfl:=aT h
    obtain ⟨b,o,rfl,h1,U,h3⟩:=hv.Fq
    obtain ⟨d,ve⟩:=A5 eS.1
    obtain ⟨ie,kg⟩:=xD ve
    have aU:ie.size=P.cellsOf e:=by simp[Program.cellsOf,kg]
    refine .same S (run b _ ie kg eS.2.1 eS.2.2) ?_
    rw[aU]
    exact ak.Qm h1 U h3
end
end Go.AM
namespace Go.AM
open Go.Maps
section
variable {P:Program} {w w':World} {I I':Nat→Nat→Prop} {β β':Nat→Option Nat} {hp hp':Nat→Option ai} {C:ah} {B:Nat} {M:Nat→Prop} {w0:Start}
theorem aal (S:aC P w I β hp B M w0) {nb:Nat} {t:TypeId} {v:Value} {x:V} {lo hi:Option V} {lov hiv:Option Value} {r:R} {rd:List Nat} (hv:ak P w I β hp v x)
  (iH: ∀x,hi=some x→∃v,hiv=some v∧ak P w I β hp v x) (oh:lo=none→lov=none)
  (h:(EZ P nb t x lo hi).run C hp=some (r,rd)):c7 P ((Instr.sliceAt t v lov hiv none).run P w) w I β hp B M w0 r:=by
 unfold EZ at h
 split at h
 case h_2=>cases h
 rename_i e e' id k hh hu
 obtain ⟨l,h1⟩:=run_get h
 cases ab:hp id with
 | none=>rw[ab] at h1;cases h1
 | some blk=>
  rw[ab] at h1
  cases blk<;>simp only at h1<;>first|(cases h1;done)|skip
  rename_i e2 es fz
  cases fz with
  | true=>cases h1
  | false=>
  obtain ⟨hc,U⟩:=aG h1
  simp only[aO,aX,ej] at hc
  obtain ⟨rfl,rfl,ar,Rc,Re⟩:=hc
  obtain ⟨hn,rfl⟩:=kW U
  have ju:=oh rfl
  subst ju
  obtain ⟨vf,rfl,hhv⟩:=iH _ rfl
  obtain rfl:=hhv.en
  obtain ⟨i,z,eo,_,aU,_⟩:=jt ar
  have bq:nb≠id:=fun e=>by rw[e,ab] at hn;cases hn
  obtain ⟨k1,k2⟩:=uV S ab
  have jO:ax hp id (some ai.dead) nb=none:=by rw[cy _ _ bq];exact hn
  have Rf: ∀cap,es.length≤cap→(Instr.sliceBounds true es.length cap none (some (.int k hh)) none).run P w= .ok (0,hh.toNat,cap) w:=by
   intro cap b6
   have hb:(sP es.length none (some (.int k hh)) fun l u=> .aD (decide (l=0∧u=hh.toNat)) (.ret (⟨.undef,[]⟩:R))).run C hp=some (⟨.undef,[]⟩,[]):=by
    simp[sP,Rd.run,Rc,Re]
   obtain ⟨l,u,b1,b2,b3,b4⟩:=rI (P:=P) (w:=w) (I:=I) (β:=β) (hp:=hp) (n:=es.length) (isS:=true) (cap:=cap) (lov:=none) (hiv:=some (.int k hh)) b6 (by simp) (fun x hx=>by cases hx;exact ⟨_,rfl,.int⟩) (fun _=>rfl) (by simp) hb
   obtain ⟨b5,_⟩:=aG b4
   simp only[ej] at b5
   obtain ⟨rfl,rfl⟩:=b5
   exact b3
  cases hv with
  | dI hd=>rw[ab] at hd;cases hd
  | di hd=>rw[ab] at hd;cases hd
  | dB hd=>rw[ab] at hd;cases hd
  | @dw _ _ _ a0 hd hb=>
   rw[ab] at hd
   cases hd
   have JN:hh=0:=by simpa using Int.le_antisymm Re Rc
   subst JN
   have az:=Rf 0 (cl _)
   obtain ⟨a1,a2⟩:=Fm k2 e jO
   refine ⟨_,w,I,_,FL hu eo az,k1.trans a1,a2,.dw (bS _ _ _) (bS _ _ _)⟩
  | @whole _ _ aN nW b cap hd hb Bg b6 hm=>
   have fb:=hd
   rw[ab] at hd
   cases hd
   have hr:=S.h.rel id _ ab
   cases hr with
   | dJ az=>rw[az] at hb;cases hb
   | @arr _ _ _ b' Ca _ az FN o7 hf dP ng=>
    rw[hb] at az
    cases az
    have jN:(es.take hh.toNat).length=hh.toNat:=by rw[eI];omega
    have cG:(Instr.sliceAt t (.slice (some ⟨b,0,none⟩) es.length cap) none (some (.int k hh)) none).run P w= .ok (.slice (some ⟨b,0,none⟩) hh.toNat cap) w:=by
     have az:=Rf cap b6
     by_cases Rg:cap=0
     ·subst Rg
      simp[Instr.sliceAt,Instr.slice,run_underlying hu,az,sizeOf,typeInfo,eo]
     ·simp[Instr.sliceAt,Instr.slice,run_underlying hu,az,sizeOf,typeInfo,eo,Rg,mn]
    have m8: ∀aw blk',ax hp id (some ai.dead) aw=some blk'→¬bh P w (β aw) blk' b:=by
     intro aw blk' h1 U
     by_cases js:aw=id
     ·subst js;rw[bS] at h1;cases h1;exact U.alive rfl
     ·rw[cy _ _ js] at h1
      exact js (S.h.inj aw id blk' _ b h1 ab U (.root (by simp) hb))
    obtain ⟨a1,a2⟩:=AZ k2 (blk:= .arr e (es.take hh.toNat) false) (w':=w) jO m8 (fun _ _=>rfl) (fun _ _ _=>rfl) (cl _) ⟨rfl,rfl⟩ (S.h.s4 id _ b ab (by simp) hb)
     (fun b' h=>(dh (h.flat (by simp))).symm) (fun hle=> .arr ar rfl FN (by rw[jN];exact lX (dF _ (by omega)) o7) (fun h=>by cases h) (fun _=>dP rfl) fun i j y t' hy ht hj=>by
      have rG:=(bm.1 hy).1
      rw[jN] at rG
      rw[dU rG] at hy
      obtain ⟨v,hv,hp⟩:=ng i j y t' hy ht hj
      exact ⟨v,hv,hp.mono hle.dC hle.cx⟩)
    refine ⟨_,w,I,_,cG,k1.trans a1,a2,?_⟩
    have:=ak.whole (P:=P) (w:=w) (I:=I) (β:=ax β nb (some b)) (hp:=ax (ax hp id (some .dead)) nb (some (.arr e (es.take hh.toNat) false))) (cap:=cap) (bS _ _ _) (bS _ _ _) Bg (by rw[jN];omega) hm
    rw[jN] at this
    exact this
theorem rJ {t:TypeId} {x:V} (h:qa P t x=true):
  (∃q n,P.underlying t=some (.int q)∧x= .int q n∧Jc q n=true)∨(∃b,P.underlying t=some .bool∧x= .bool b)∨(∃s,P.underlying t=some .string∧x= .str s∧s.length≤maxLen):=by
 unfold qa at h
 split at h
 ·rename_i q q' n hu
  simp only[aO,ej] at h
  obtain ⟨rfl,h⟩:=h
  exact .inl ⟨_,_,hu,rfl,h⟩
 ·rename_i b hu
  exact .inr (.inl ⟨_,hu,rfl⟩)
 ·rename_i s hu
  exact .inr (.inr ⟨_,hu,rfl,by simpa using h⟩)
 ·cases h
theorem size_data (s:ByteArray):s.data.toList.length=s.size:=by simp
theorem aam {q:IntKind} {n:Int} (h:Jc q n=true):(Lit.int q n).wf=true:=h
theorem Rh {t:TypeId} {x:V} {v:Value} (h:qa P t x=true) (hv:jK v x): ∃l,mapKey P t v=some l∧∀d,P.keyLits (d+1) t [v]=some [l]:=by
 rcases rJ h with ⟨q,n,hu,rfl,hn⟩|⟨b,hu,rfl⟩|⟨s,hu,rfl,hs⟩
 ·obtain rfl:v= .int q n:=hv
  have hw:=aam hn
  exact ⟨.int q n,by simp[mapKey,hu,hw],fun d=>by simp[Program.keyLits,hu,hw]⟩
 ·obtain rfl:v= .bool b:=hv
  exact ⟨.bool b,by simp[mapKey,hu],fun d=>by simp[Program.keyLits,hu]⟩
 ·obtain ⟨s',rfl,Ki⟩:=hv
  have:s'.size≤maxLen:=by rw[←size_data,Ki];exact hs
  exact ⟨.string s'.data.toList,by simp[mapKey,hu,this],fun d=>by simp[Program.keyLits,hu,this]⟩
theorem Kj {t:TypeId}: ∀{xs:List V} {j:Nat} {x:V},qY P t xs=true→xs[j]? =some x→qa P t x=true
 | [],j,x,_,h=>by simp at h
 | y::ys,0,x,h,hx=>by
  simp only[qY,aO] at h
  simp at hx;subst hx;exact h.1
 | y::ys,j+1,x,h,hx=>by
  simp only[qY,aO] at h
  exact Kj (j:=j) h.2 (by simpa using hx)
theorem mapM_some {α β:Type} {f:α→Option β}: ∀{l:List α},(∀a∈l,∃b,f a=some b)→∃bs,l.mapM f=some bs
 | [],_=>⟨[],rfl⟩
 | a::l,h=>by
  obtain ⟨b,hb⟩:=h a (sE ..)
  obtain ⟨bs,iA⟩:=mapM_some (l:=l) fun x hx=>h x (lZ _ hx)
  exact ⟨b::bs,by simp[List.mapM_cons,hb,iA]⟩
inductive Kk (P:Program) (t:TypeId) (x:V):Prop
 | one:qa P t x=true→x.cells=[x]→Kk P t x
 | arr {n:Nat} {e:TypeId} {xs:List V}:x= .agg xs→WideMaps.ArrKey P t e n→xs.length=n→0<P.types.size→qY P e xs=true→Kk P t x
theorem xS {t:TypeId} {x:V} (h:nV P t x=true):Kk P t x:=by
 unfold nV at h
 split at h
 ·rename_i n e xs hu
  simp only[aO,aX] at h
  rw[jZ] at h
  exact .arr rfl ⟨hu,h.2.2.2.1,h.2.1,h.2.2.1⟩ h.1 h.2.2.2.2.1 h.2.2.2.2.2
 ·refine .one h ?_
  rcases rJ h with ⟨q,n,hu,rfl,hn⟩|⟨b,hu,rfl⟩|⟨s,hu,rfl,hs⟩<;>rfl
theorem rm.one {x:V} {v:Value} (h:rm v x) (hx:x.cells=[x]):jK v x:=by
 cases x<;>first|exact h|skip
 simp only[V.cells] at hx
 rename_i cs
 have:=congrArg List.length hx
 cases cs with
 | nil=>simp at hx
 | cons c cs=>
  simp only[List.cons.injEq] at hx
  have:=congrArg SizeOf.sizeOf hx.1
  simp at this
  omega
theorem FO {t:TypeId} {x:V} {v:Value} (h:nV P t x=true) (hv:rm v x): ∃l,Go.keyOf P t v=some l:=by
 cases xS h with
 | one h1 hx=>
  obtain ⟨l,hl,_⟩:=Rh h1 (hv.one hx)
  refine ⟨l,?_⟩
  rcases rJ h1 with ⟨q,n,hu,_⟩|⟨b,hu,_⟩|⟨s,hu,_⟩<;>simp only[Go.keyOf,hu,hl]
 | @arr n e xs hx A hl hp0 hf=>
  subst hx
  obtain ⟨cs,rfl,hs,hc⟩:=hv
  obtain ⟨m,hm⟩: ∃m,P.types.size=m+1:=⟨P.types.size-1,by omega⟩
  have hkt:=A.keyType ⟨m,hm⟩
  have hlen:cs.toList.length=P.cellsOf t:=by rw[A.size];simp[hs,hl]
  have hfm:(Value.agg cs).formed P t=true:=by simp[Value.formed,A.hu,A.size,hs,hl]
  have hex: ∀i∈List.range n,∃y,P.keyLits (m+1) e (((Value.agg cs).cells.toList.drop (i*P.cellsOf e)).take (P.cellsOf e))=some y:=by
   intro i hi
   have hi:=List.mem_range.1 hi
   rw[A.one]
   have gH:i<cs.size:=by omega
   have bY:i<xs.length:=by omega
   obtain ⟨l,_,U⟩:=Rh (Kj hf (bA bY)) (hc i cs[i] xs[i] (lp gH) (bA bY))
   have e1:((Value.agg cs).cells.toList.drop (i*1)).take 1=[cs[i]]:=by
    show (cs.toList.drop (i*1)).take 1=_
    rw[e6,List.drop_eq_getElem_cons (by simpa using gH)]
    simp
   rw[e1]
   exact ⟨_,U m⟩
  obtain ⟨bs,iA⟩:=mapM_some hex
  refine ⟨.string (keyBytes bs.flatten),?_⟩
  have aan:(Value.agg cs).cells.toList.length=P.cellsOf t:=hlen
  unfold Go.keyOf
  rw[A.hu]
  simp only[hkt,hfm,Bool.and_self,c6]
  unfold Program.keyLits
  rw[A.hu,hm]
  simp only[aan,c6,iA,Option.map_some]
theorem Kl {t:TypeId} {x:V} (h:nV P t x=true):Keyed P t:=by
 cases xS h with
 | one h1 hx=>
  rcases rJ h1 with ⟨q,n,hu,_⟩|⟨b,hu,_⟩|⟨s,hu,_⟩
  ·exact int_keyed hu
  ·exact bool_keyed hu
  ·exact string_keyed hu
 | arr hx A hl _ hf=>exact Keyed.of_law A.law
theorem Ri {t:TypeId} {x y:V} {v u:Value} (h1:qa P t x=true) (U:qa P t y=true) (hv:jK v x) (hu:jK u y):xm x y=true↔v=u:=by
 rcases rJ h1 with ⟨q,n,nh,rfl,_⟩|⟨b,nh,rfl⟩|⟨s,nh,rfl,_⟩<;>
 rcases rJ U with ⟨q',n',ni,rfl,_⟩|⟨b',ni,rfl⟩|⟨s',ni,rfl,_⟩<;>
  (rw[nh] at ni;cases ni)
 ·obtain rfl:v= .int q n:=hv
  obtain rfl:u= .int q n':=hu
  simp[xm]
 ·obtain rfl:v= .bool b:=hv
  obtain rfl:u= .bool b':=hu
  simp[xm]
 ·obtain ⟨s1,rfl,e1⟩:=hv
  obtain ⟨s2,rfl,e2⟩:=hu
  simp only[xm,nR,Value.string.injEq,←e1,←e2]
  constructor
  ·intro h
   have:=Array.toList_inj.1 h
   cases s1;cases s2;simp_all
  ·rintro rfl;rfl
theorem Rj {t:TypeId}: ∀{xs ys:List V} {vs us:List Value},qY P t xs=true→qY P t ys=true→xs.length=ys.length→vs.length=xs.length→us.length=ys.length→
  (∀(j:Nat) v x,vs[j]? =some v→xs[j]? =some x→jK v x)→(∀(j:Nat) v x,us[j]? =some v→ys[j]? =some x→jK v x)→(uE xs ys=true↔vs=us)
 | [],[],vs,us,_,_,_,h1,U,_,_=>by
  have e1:=lY (l:=vs) (by simpa using h1)
  have e2:=lY (l:=us) (by simpa using U)
  simp[uE,e1,e2]
 | [],_::_,_,_,_,_,h,_,_,_,_=>by simp at h
 | _::_,[],_,_,_,_,h,_,_,_,_=>by simp at h
 | x::xs,y::ys,[],us,_,_,_,h,_,_,_=>by simp at h
 | x::xs,y::ys,v::vs,[],_,_,_,_,h,_,_=>by simp at h
 | x::xs,y::ys,v::vs,u::us,f1,f2,h,h1,U,r1,r2=>by
  simp only[qY,aO] at f1 f2
  have a:=Ri f1.1 f2.1 (r1 0 v x rfl rfl) (r2 0 u y rfl rfl)
  have b:=Rj (vs:=vs) (us:=us) f1.2 f2.2 (by simpa using h) (by simpa using h1) (by simpa using U) (fun j v x hj hx=>r1 (j+1) v x (by simpa using hj) (by simpa using hx)) (fun j v x hj hx=>r2 (j+1) v x (by simpa using hj) (by simpa using hx))
  simp only[uE,aO,a,b,List.cons.injEq]
theorem Km {t:TypeId} {x y:V} {v u:Value} (h1:nV P t x=true) (U:nV P t y=true) (hv:rm v x) (hu:rm u y):mW x y=true↔v=u:=by
 unfold mW
 cases xS h1 with
 | one f1 c1=>
  cases xS U with
  | one f2 c2=>
   rw[c1,c2]
   simp only[uE,Bool.and_true]
   exact Ri f1 f2 (hv.one c1) (hu.one c2)
  | arr hy A hl _ hf=>
   rcases rJ f1 with ⟨q,n,nh,_⟩|⟨b,nh,_⟩|⟨s,nh,_⟩<;>(rw[A.hu] at nh;cases nh)
 | arr hx A hl _ hf=>
  cases xS U with
  | one f2 c2=>
   rcases rJ f2 with ⟨q,n,nh,_⟩|⟨b,nh,_⟩|⟨s,nh,_⟩<;>(rw[A.hu] at nh;cases nh)
  | arr hy A2 j4 _ Bo=>
   have hU:=A.hu.symm.trans A2.hu
   cases hU
   subst hx
   subst hy
   obtain ⟨cs,rfl,s1,r1⟩:=hv
   obtain ⟨ds,rfl,s2,r2⟩:=hu
   have:=Rj (vs:=cs.toList) (us:=ds.toList) hf Bo (by omega) (by simpa using s1) (by simpa using s2) (fun j v x hj hx=>r1 j v x (by simpa using hj) hx) (fun j v x hj hx=>r2 j v x (by simpa using hj) hx)
   simp only[V.cells,this,Value.agg.injEq]
   exact Array.toList_inj
theorem Rk {k:V}: ∀{es:List V},(∀x∈es,mW k (x.comp 0)=false)→mf k es=false∧(∀z,mX k es z=z)∧∀v,jh k v es=es++[.bn [k,v]]
 | [],_=>⟨rfl,fun _=>rfl,fun _=>rfl⟩
 | e::es,h=>by
  have h0:=h e (sE ..)
  obtain ⟨a,b,c⟩:=Rk (k:=k) (es:=es) fun x hx=>h x (lZ _ hx)
  exact ⟨by simp[mf,h0,a],fun z=>by simp[mX,h0,b],fun v=>by simp[jh,h0,c]⟩
theorem Rl {k:V}: ∀{es:List V} {j:Nat} {k' y:V},es[j]? =some (.bn [k',y])→mW k k'=true→(∀i x,i<j→es[i]? =some x→mW k (x.comp 0)=false)→
  mf k es=true∧(∀z,mX k es z=y)∧∀v,jh k v es=es.set j (.bn [k',v])
 | [],j,k',y,h,_,_=>by simp at h
 | e::es,0,k',y,h,he,_=>by
  simp at h
  subst h
  exact ⟨by simp[mf,V.comp,V.nth,he],fun z=>by simp[mX,V.comp,V.nth,he],fun v=>by simp[jh,V.comp,V.nth,he]⟩
 | e::es,j+1,k',y,h,he,aJ=>by
  have h0:=aJ 0 e (by omega) rfl
  obtain ⟨a,b,c⟩:=Rl (k:=k) (es:=es) (j:=j) (by simpa using h) he fun i x hi hx=>aJ (i+1) x (by omega) (by simpa using hx)
  exact ⟨by simp[mf,h0,a],fun z=>by simp[mX,h0,b],fun v=>by simp[jh,h0,c]⟩
theorem Rm {kt vt:TypeId} {E:Array MapEntry} {es:List V} {k:V} {kv:Value} (hs:E.size=es.length) (hx: ∀(j:Nat) (e:MapEntry) (x:V),E[j]? =some e→es[j]? =some x→Fe P kt vt e x)
  (hn:E.toList.Pairwise (fun a b=>a.key≠b.key)) (hk:nV P kt k=true) (FP:rm kv k) (w:World):
  ((Instr.findKey kt kv E.toList).run P w= .ok none w∧(∀e∈E.toList,e.key≠kv)∧mf k es=false∧(∀z,mX k es z=z)∧∀v,jh k v es=es++[.bn [k,v]])∨
  ∃j e k' y,(Instr.findKey kt kv E.toList).run P w= .ok (some (j,e.val)) w∧E[j]? =some e∧e.key=kv∧es[j]? =some (.bn [k',y])∧nV P kt k'=true∧rm kv k'∧fm P vt y=true∧jK e.val y∧
   mf k es=true∧(∀z,mX k es z=y)∧∀v,jh k v es=es.set j (.bn [k',v]):=by
 have K:=Kl hk
 obtain ⟨l,hl⟩:=FO hk FP
 have Rn: ∀(j:Nat) x,es[j]? =some x→∃e,E[j]? =some e∧Fe P kt vt e x:=by
  intro j x hj
  have aJ:j<E.size:=by rw[hs];exact (bm.1 hj).1
  exact ⟨E[j],lp aJ,hx j _ x (lp aJ) hj⟩
 have keys: ∀e∈E.toList,∃l,Go.keyOf P kt e.key=some l:=by
  intro e he
  obtain ⟨j,hj⟩:=qR he
  have gZ:E[j]? =some e:=by simpa using hj
  have aJ:j<es.length:=by rw[←hs];exact (iQ.1 gZ).1
  obtain ⟨k',y,_,h1,U,_⟩:=hx j e es[j] gZ (bA aJ)
  exact FO h1 U
 rcases K.find w hl E.toList keys with ⟨h1,U⟩|⟨j,e,h1,U,h3⟩
 ·left
  refine ⟨h1,U,Rk fun x hxm=> ?_⟩
  obtain ⟨j,hj⟩:=qR hxm
  obtain ⟨e,he,k',y,rfl,f1,f2,_⟩:=Rn j x hj
  cases hq:mW k (V.comp (.bn [k',y]) 0) with
  | false=>rfl
  | true=>
   have:=(Km hk f1 FP f2).1 hq
   exact absurd this.symm (U e (jg (by simpa using he)))
 ·right
  have hE:E[j]? =some e:=by simpa using U
  have aJ:j<es.length:=by rw[←hs];exact (iQ.1 hE).1
  obtain ⟨k',y,hy,f1,f2,f3,f4⟩:=hx j e es[j] hE (bA aJ)
  have hj:=bA aJ
  rw[hy] at hj
  rw[h3] at f2
  refine ⟨j,e,k',y,h1,hE,h3,hj,f1,f2,f3,f4,Rl hj ((Km hk f1 FP f2).2 rfl) fun i x hi gX=> ?_⟩
  obtain ⟨e',iD,k2,y2,rfl,g1,g2,_⟩:=Rn i x gX
  cases hq:mW k (V.comp (.bn [k2,y2]) 0) with
  | false=>rfl
  | true=>
   have:=(Km hk g1 FP g2).1 hq
   have i1:i<E.toList.length:=by have:=(bm.1 gX).1;simp;omega
   have i2:j<E.toList.length:=by simp;omega
   have:=EE.1 hn i j i1 i2 hi
   have a1:E.toList[i]=e':=by
    have:E.toList[i]? =some e':=by simpa using iD
    rw[bA i1] at this;exact dh this
   have a2:E.toList[j]=e:=by
    have:=U
    rw[bA i2] at this;exact dh this
   rw[a1,a2,h3] at this
   exact absurd (by rw[← ‹kv=e'.key›]) this
theorem ak.Ro {v:Value} {x:V} (h:ak P w I β hp v x) {t:TypeId} (hx:qa P t x=true):jK v x:=by
 rcases rJ hx with ⟨q,n,_,rfl,_⟩|⟨b,_,rfl⟩|⟨s,_,rfl,_⟩
 ·exact h.en
 ·exact h.kT
 ·exact h.m9
theorem ak.Rp {v:Value} {x:V} (h:ak P w I β hp v x) {t:TypeId} (hx:nV P t x=true):rm v x:=by
 cases xS hx with
 | one f c=>
  have:=h.Ro f
  cases x<;>first|exact this|cases this
 | arr hx A hl _ hf=>
  subst hx
  obtain ⟨cs,rfl,h1,U⟩:=h.kb
  exact ⟨cs,rfl,h1,fun j u y hu hy=>(U j u y hu hy).Ro (Kj hf hy)⟩
theorem Rq {vt:TypeId} {y:V} (h:mapVal P vt=true) (ht:fm P vt y=true):(∃q n,P.underlying vt=some (.int q)∧y= .int q n)∨∃b,P.underlying vt=some .bool∧y= .bool b:=by
 unfold mapVal at h
 unfold fm at ht
 split at h
 ·rename_i q hu
  rw[hu] at ht
  cases y<;>first|(simp at ht;done)|skip
  simp only[ej] at ht
  subst ht
  exact .inl ⟨_,_,hu,rfl⟩
 ·rename_i hu
  rw[hu] at ht
  cases y<;>first|(simp at ht;done)|skip
  exact .inr ⟨_,hu,rfl⟩
 ·cases h
theorem jK.Kn {vt:TypeId} {v:Value} {y:V} (h:mapVal P vt=true) (ht:fm P vt y=true) (hv:jK v y):ak P w I β hp v y:=by
 rcases Rq h ht with ⟨q,n,_,rfl⟩|⟨b,_,rfl⟩
 ·obtain rfl:v= .int q n:=hv;exact .int
 ·obtain rfl:v= .bool b:=hv;exact .bool
theorem ak.aao {vt:TypeId} {v:Value} {y:V} (h:mapVal P vt=true) (ht:fm P vt y=true) (hv:ak P w I β hp v y):jK v y:=by
 rcases Rq h ht with ⟨q,n,_,rfl⟩|⟨b,_,rfl⟩
 ·exact hv.en
 ·exact hv.kT
theorem aap {vt:TypeId} {z:V} (h:EU P vt=some z) (w:World): ∃v,(zeroValue vt).run P w= .ok v w∧jK v z:=by
 unfold EU at h
 cases hi:P.info? vt with
 | none=>rw[hi] at h;cases h
 | some i=>
  rw[hi] at h
  simp only[Option.bind_some] at h
  cases hz:i.zero with
  | none=>rw[hz] at h;cases h
  | some v=>
   rw[hz] at h
   refine ⟨v,by simp[zeroValue,typeInfo,hi,hz],?_⟩
   cases v<;>simp only at h<;>first|(cases h;done)|skip
   ·cases h;rfl
   ·cases h;rfl
theorem Ko {t kt vt:TypeId} (h:mg P t=some (kt,vt)):P.underlying t=some (.map kt vt):=by
 unfold mg at h
 split at h
 ·rename_i k e hu;cases h;exact hu
 ·cases h
theorem Kp (S:aC P w I β hp B M w0) {ok:Bool} {v:Value} {x:V} {b:Bool} {r:R} {rd:List Nat} {res:Result Value} (hv:ak P w I β hp v x)
  (hr:res= .ok (if ok then .tuple #[v,.bool b] else v) w) (h:(EV ok x b).run C hp=some (r,rd)):c7 P res w I β hp B M w0 r:=by
 unfold EV at h
 obtain rfl:=aT h
 cases ok with
 | false=>exact .same S hr hv
 | true=>
  refine .same S hr (.bn rfl fun j u y hu hy=> ?_)
  match j,hu,hy with
  | 0,hu,hy=>simp at hu hy;subst hu;subst hy;exact hv
  | 1,hu,hy=>simp at hu hy;subst hu;subst hy;exact .bool
  | j+2,hu,hy=>simp at hy
theorem aaq (S:aC P w I β hp B M w0) {t kt vt:TypeId} (ht:mg P t=some (kt,vt)) {m k:Value} {mx kx:V} {ok:Bool} {r:R} {rd:List Nat} (hm:ak P w I β hp m mx) (hk:ak P w I β hp k kx)
  (h:(Jd P t mx kx ok).run C hp=some (r,rd)):c7 P ((Instr.lookup t m k ok).run P w) w I β hp B M w0 r:=by
 unfold Jd at h
 rw[ht] at h
 simp only at h
 cases hz:EU P vt with
 | none=>rw[hz] at h;cases h
 | some z=>
  rw[hz] at h
  obtain ⟨hc,h'⟩:=aG h
  clear h
  have h:=h'
  clear h'
  simp only[aO] at hc
  obtain ⟨kY,Bp,FQ⟩:=hc
  have hu:=Ko ht
  have xT:=hk.Rp kY
  have K:=Kl kY
  obtain ⟨l,hl⟩:=FO kY xT
  obtain ⟨zv,Rr,Rs⟩:=aap hz w
  cases mx<;>simp only at h<;>first|(cases h;done)|skip
  ·rename_i t' id
   obtain ⟨my,h'⟩:=aG h
   clear h
   have h:=h'
   clear h'
   rw[aX] at my
   subst my
   obtain ⟨l2,h'⟩:=run_get h
   clear h
   have h:=h'
   clear h'
   cases ab:hp id with
   | none=>rw[ab] at h;cases h
   | some blk=>
    rw[ab] at h
    cases blk<;>simp only at h<;>first|(cases h;done)|skip
    rename_i t2 es
    obtain ⟨my,h'⟩:=aG h
    clear h
    have h:=h'
    clear h'
    rw[aX] at my
    subst my
    cases hm with
    | iW hd=>rw[ab] at hd;cases hd
    | @cQ _ _ b aN hd hb=>
     rw[ab] at hd
     cases hd
     have hr:=S.h.rel id _ ab
     cases hr with
     | @map _ Rt Ru _ b' clock E gp az hh hs hI hx hn=>
      rw[hb] at az;cases az
      rw[hu] at gp;cases gp
      rcases Rm hs hx hn kY xT w with ⟨h1,_,h3,h4,_⟩|⟨j,e,k',y,h1,_,_,_,_,_,h6,h7,h3,h4,_⟩
      ·rw[h3,h4,A4 FQ] at h
       refine Kp S (jK.Kn Bp FQ Rs) ?_ h
       unfold Instr.lookup
       simp only[Sem.run_bind,run_underlying hu,Result.andThen_ok,Go.MapKept.run_getObj_map hh,Sem.run_pure,K.check w E.isEmpty hl,h1,Rr]
      ·rw[h3,h4,A4 h6] at h
       refine Kp S (jK.Kn Bp h6 h7) ?_ h
       unfold Instr.lookup
       simp only[Sem.run_bind,run_underlying hu,Result.andThen_ok,Go.MapKept.run_getObj_map hh,Sem.run_pure,K.check w E.isEmpty hl,h1]
  ·rename_i t'
   obtain ⟨my,h⟩:=aG h
   cases hm
   rw[A4 FQ] at h
   refine Kp S (jK.Kn Bp FQ Rs) ?_ h
   have hf:(Instr.findKey kt k []).run P w= .ok none w:=by
    rcases K.find w hl [] (by simp) with ⟨h1,_⟩|⟨j,e,_,U,_⟩
    ·exact h1
    ·simp at U
   unfold Instr.lookup
   simp[run_underlying hu,K.check w true hl,hf,Rr]
theorem aar (S:aC P w I β hp B M w0) {t:TypeId} {nb:Nat} {r:R} {rd:List Nat} (h:(Rd.aD (mg P t).isSome (gV nb (.map t []) (.cQ t nb) [])).run C hp=some (r,rd)):
  c7 P ((Instr.makeMap t none).run P w) w I β hp B M w0 r:=by
 obtain ⟨ht,h⟩:=aG h
 obtain ⟨hn,rfl⟩:=kW h
 obtain ⟨⟨kt,vt⟩,ht⟩:=xe.1 ht
 have hu:=Ko ht
 have cW: ∀j,¬I w.heap.size j:=fun j h=>nP _ (S.h.gF _ j h)
 have dt:(w.alloc (.map #[] 0)).heap[w.heap.size]? =some (.map #[] 0):=heap_alloc_new w _
 obtain ⟨a1,a2⟩:=AZ S (w':=w.alloc (.map #[] 0)) (blk:= .map t []) (b:=w.heap.size) hn (fun aw blk' h ho=>nP _ (S.h.lt h ho)) (fun j h=>absurd h (cW j))
  (fun b' _ aJ=>heap_alloc_old w _ b' aJ) (by simp) ⟨rfl,rfl⟩ (.inr S.size) (fun b' h=>(dh (h.flat (by simp))).symm)
  (fun _=> .map hu rfl dt rfl cW (fun j e x he _=>by simp at he) (by simp))
 exact ⟨_,_,_,_,Go.RowKit.run_makeMap t w,a1,a2,.cQ (bS _ _ _) (bS _ _ _)⟩
theorem Rv (S:aC P w I β hp B M w0) {t kt vt:TypeId} (ht:mg P t=some (kt,vt)) {m k v:Value} {mx kx vx:V} {r:R} {rd:List Nat} (hm:ak P w I β hp m mx) (hk:ak P w I β hp k kx) (hv:ak P w I β hp v vx)
  (h:(EW P t mx kx vx).run C hp=some (r,rd)):qk P ((Instr.mapUpdate t m k v).run P w) w I β hp B M w0 r:=by
 unfold EW at h
 rw[ht] at h
 obtain ⟨hc,h'⟩:=aG h
 clear h
 have h:=h'
 clear h'
 simp only[aO] at hc
 obtain ⟨kY,Bp,vg⟩:=hc
 have hu:=Ko ht
 have xT:=hk.Rp kY
 have nc:=ak.aao Bp vg hv
 have K:=Kl kY
 obtain ⟨l,hl⟩:=FO kY xT
 cases mx<;>simp only at h<;>first|(cases h;done)|skip
 rename_i t' id
 obtain ⟨my,h'⟩:=aG h
 clear h
 have h:=h'
 clear h'
 rw[aX] at my
 subst my
 obtain ⟨l2,h'⟩:=run_get h
 clear h
 have h:=h'
 clear h'
 cases ab:hp id with
 | none=>rw[ab] at h;cases h
 | some blk=>
  rw[ab] at h
  cases blk<;>simp only at h<;>first|(cases h;done)|skip
  rename_i t2 es
  obtain ⟨my,h'⟩:=aG h
  clear h
  have h:=h'
  clear h'
  rw[aX] at my
  subst my
  obtain rfl:=aT h
  cases hm with
  | iW hd=>rw[ab] at hd;cases hd
  | @cQ _ _ b aN hd hb=>
   rw[ab] at hd
   cases hd
   have hr:=S.h.rel id _ ab
   cases hr with
   | @map _ Rt Ru _ b' clock E gp az hh hs hI hx hn=>
    rw[hb] at az;cases az
    rw[hu] at gp;cases gp
    have aJ:b<w.heap.size:=(iQ.1 hh).1
    have fin: ∀(E':Array MapEntry) (Bq:Nat),(Instr.mapUpdate t (.map (some b)) k v).run P w= .ok () {w with heap:=w.heap.setIfInBounds b (.map E' Bq)}→E'.size=(jh kx vx es).length→
      (∀(j:Nat) (e:MapEntry) (x:V),E'[j]? =some e→(jh kx vx es)[j]? =some x→Fe P kt vt e x)→E'.toList.Pairwise (fun a b=>a.key≠b.key)→
      qk P ((Instr.mapUpdate t (.map (some b)) k v).run P w) w I β hp B M w0 ⟨.undef,[(id,.map t (jh kx vx es))]⟩:=by
     intro E' Bq cG Ki cU Kq
     have dt:({w with heap:=w.heap.setIfInBounds b (.map E' Bq)}:World).heap[b]? =some (.map E' Bq):=by simp[aJ]
     obtain ⟨a1,a2⟩:=A0 S (w':={w with heap:=w.heap.setIfInBounds b (.map E' Bq)}) (blk':= .map t (jh kx vx es)) ab (by simp) rfl hb hI (by simp)
      (fun b' az=>by simp[Array.getElem?_setIfInBounds,Ne.symm az]) (by simp only[bsize,dt,hh]) (by simp) ⟨rfl,rfl⟩ (fun _=> .map hu rfl dt Ki hI cU Kq)
     exact ⟨_,I,β,cG,a1,a2,rfl⟩
    rcases Rm hs hx hn kY xT w with ⟨h1,U,_,_,h5⟩|⟨j,e,k',y,h1,hE,Rw,jP,aas,aat,_,_,_,_,h5⟩
    ·have e5:=h5 vx
     refine fin (E.push {key:=k,val:=v,born:=clock}) (clock+1) ?_ (by rw[e5];simp[hs]) (fun j e x he jr=> ?_) ?_
     ·unfold Instr.mapUpdate
      simp only[Sem.run_bind,run_underlying hu,Result.andThen_ok,Go.MapKept.run_getObj_map hh,K.check w false hl,h1,Go.MapKept.run_setObj_map _ hh]
     ·rw[e5] at jr
      rw[Array.getElem?_push] at he
      split at he
      ·rename_i hj
       rw[ik (by omega),hj,hs,Nat.sub_self] at jr
       simp at he jr
       subst he;subst jr
       exact ⟨kx,vx,rfl,kY,xT,vg,nc⟩
      ·have hj:j<E.size:=(iQ.1 he).1
       rw[gi (by omega)] at jr
       exact hx j e x he jr
     ·rw[Array.toList_push,List.pairwise_append]
      refine ⟨hn,by simp,fun a ha b' az=> ?_⟩
      simp only[eH] at az
      subst az
      exact U a ha
    ·have e5:=h5 vx
     have hj:j<E.size:=(iQ.1 hE).1
     refine fin (E.modify j fun e=>{e with key:=k,val:=v}) clock ?_ (by rw[e5];simp[hs]) (fun i e' x he gX=> ?_) ?_
     ·have ca:=K.stays w hl
      unfold Instr.mapUpdate
      simp only[Sem.run_bind,run_underlying hu,Result.andThen_ok,Go.MapKept.run_getObj_map hh,K.check w false hl,h1]
      simp only[hE,Option.map_some,Option.getD_some,Rw,ca,Result.andThen_ok,Go.MapKept.run_setObj_map _ hh]
     ·rw[e5] at gX
      rw[Ai] at he
      rw[List.getElem?_set] at gX
      split at he
      ·rename_i vh
       subst vh
       rw[aj rfl,bf] at gX
       rw[hE] at he
       simp at he gX
       subst he;subst gX
       exact ⟨k',vx,rfl,aas,aat,vg,nc⟩
      ·rename_i vh
       rw[an vh] at gX
       exact hx i e' x he gX
     ·have oj: ∀i (h1:i<(E.modify j fun e=>{e with key:=k,val:=v}).toList.length) (U:i<E.toList.length),((E.modify j fun e=>{e with key:=k,val:=v}).toList[i]).key=(E.toList[i]).key:=by
       intro i h1 U
       simp only[Array.getElem_toList,Array.getElem_modify]
       split
       ·rename_i vh
        subst vh
        have:=(iQ.1 hE).2
        rw[this,Rw]
       ·rfl
      rw[EE] at hn⊢
      intro i i' h1 U js
      have g1:i<E.toList.length:=by simpa using h1
      have g2:i'<E.toList.length:=by simpa using U
      rw[oj i h1 g1,oj i' U g2]
      exact hn i i' g1 g2 js
theorem aau (S:aC P w I β hp B M w0) {t ty kt vt:TypeId} {v:Value} {x:V} {r:R} {rd:List Nat} (hu:P.underlying t=some (.map kt vt)) (hv:ak P w I β hp v x)
  (h:(EX x).run C hp=some (r,rd)):c7 P ((Builtin.len_ #[t] ty #[v]).run P w) w I β hp B M w0 r:=by
 unfold EX at h
 cases x<;>simp only at h<;>first|(cases h;done)|skip
 ·rename_i t' id
  obtain ⟨l2,h'⟩:=run_get h
  clear h
  have h:=h'
  clear h'
  cases ab:hp id with
  | none=>rw[ab] at h;cases h
  | some blk=>
   rw[ab] at h
   cases blk<;>simp only at h<;>first|(cases h;done)|skip
   rename_i t2 es
   obtain rfl:=aT h
   cases hv with
   | iW hd=>rw[ab] at hd;cases hd
   | @cQ _ _ b aN hd hb=>
    rw[ab] at hd
    cases hd
    have hr:=S.h.rel id _ ab
    cases hr with
    | @map _ Rt Ru _ b' clock E gp az hh hs hI hx hn=>
     rw[hb] at az;cases az
     refine .same S (v:= .int .i64 E.size) (by simp[Builtin.len_,run_underlying hu,Go.MapKept.run_getObj_map hh,goInt]) ?_
     rw[hs]
     exact .int
 ·obtain rfl:=aT h
  cases hv
  exact .same S (v:= .int .i64 0) (by simp[Builtin.len_,run_underlying hu,goInt]) .int
theorem ak.Kr {v:Value} {t:TypeId} (h:ak P w I β hp v (.dV t)):v= .map none:=by cases h;rfl
theorem ak.aav {v:Value} {t t':TypeId} {id:Nat} {es:List V} (h:ak P w I β hp v (.cQ t id)) (ab:hp id=some (.map t' es)): ∃b,v= .map (some b):=by
 cases h with
 | iW h=>rw[ab] at h;cases h
 | cQ h hb=>exact ⟨_,rfl⟩
theorem Rx (S:aC P w I β hp B M w0) {op:BinOp} {t:TypeId} {a:Option Nat} {r:R} {rd:List Nat} (x y:Operand)
  (h:(ER P op t a.isNone).run C hp=some (r,rd)):c7 P ((do eqGuard op t x y (.map a) (.map none);binOp op t (.map a) (.map none)).run P w) w I β hp B M w0 r:=by
 unfold ER at h
 split at h
 case h_2=>cases h
 rename_i kt vt hu
 have he:(Op.equal t (.map a) (.map none)).run P w= .ok a.isNone w:=by
  show (Op.equalIn (9999+1) t (.map a) (.map none)).run P w=_
  rw[Op.equalIn]
  cases a<;>simp[Sem.run_bind,run_underlying hu,Result.andThen_ok,Sem.run_pure]
 cases op<;>simp only at h<;>first|(cases h;done)|skip
 ·obtain rfl:=aT h
  exact .same S (by simp[eqGuard,binOp,he]) .bool
 ·obtain rfl:=aT h
  exact .same S (by simp[eqGuard,binOp,he]) .bool
end
end Go.AM
namespace Go.AM
section
variable {P:Program} {w w':World} {I I':Nat→Nat→Prop} {β β':Nat→Option Nat} {hp hp':Nat→Option ai} {C:ah} {B:Nat} {M:Nat→Prop} {w0:Start}
theorem aaw {e:TypeId} (he:P.underlying e=some (.int .u8)) (hc:P.cellsOf e=1) (s:ByteArray): ∀(i j:Nat) (x:V) (t':TypeId),(s.data.toList.map dW)[i]? =some x→(aW P e)[j]? =some t'→j<P.cellsOf e→
  ∃u,(Lib.strCells s)[i*P.cellsOf e+j]? =some u∧Pure P w I t' u (bR P e x j):=by
 intro i j x t' hx ht hj
 have om:bM P e=false:=by simp[bM,he]
 obtain rfl:j=0:=by omega
 simp only[aW,om,cond_false,List.getElem?_cons_zero,ek] at ht
 subst ht
 rw[e7] at hx
 cases hb:s.data.toList[i]? with
 | none=>rw[hb] at hx;cases hx
 | some b=>
  rw[hb] at hx
  cases hx
  refine ⟨.int .u8 b.toNat,?_,?_⟩
  ·rw[hc,e6,Nat.add_zero]
   simp only[Lib.strCells,e7,hb,Option.map_some]
  ·simp only[bR,om,cond_false]
   exact .int he
theorem aax (w:World) (t u ty e:TypeId) (i:TypeInfo) (z:Value) (ht:P.underlying t=some (.slice e)) (hu:P.underlying u=some .string) (hi:P.info? e=some i) (hz:i.zero=some z)
  (s:ByteArray) (h0:0<s.size) (FJ:(s.size:Int)≤9223372036854775807) (FK:s.size*i.bytes≤281474976710656) (a0:Option Addr):
  (Builtin.append_ #[t,u] ty #[.slice a0 0 0,.string s]).run P w=
   .ok (.slice (some ⟨w.heap.size,0,none⟩) s.size (grownCap w s.size 0 e))
    (w.drew.alloc (.cells (s.data.map (fun b=>Value.int .u8 b.toNat)++Builtin.zeroCells z.cells (grownCap w s.size 0 e-s.size)) e)):=by
 cases a0 with
 | none=>exact run_append_nil_string w t u ty e i z ht hu hi hz s h0 FJ FK
 | some b=>
  rw[←run_append_nil_string w t u ty e i z ht hu hi hz s h0 FJ FK]
  have hn:s.size≠0:=by omega
  have aay: ¬(9223372036854775807<(s.size:Int)):=by omega
  have aaz: ¬(281474976710656<Builtin.nextslicecap s.size 0*i.bytes):=by rw[nextslicecap_zero h0];omega
  simp[Builtin.append_,run_underlying ht,run_underlying hu,sizeOf,typeInfo,zeroValue,hi,hz,Builtin.lenOf,Builtin.firstCells,hn,aay,aaz,Question.forced,newRow,grownCap,loadCells,loadCellsFrom]
theorem Ry (S:aC P w I β hp B M w0) {t u ty e:TypeId} {nb:Nat} {fz:Bool} {x:ByteArray} {xs:List V} {i:TypeInfo} {z:Value} (hu:P.underlying t=some (.slice e)) (pe:P.underlying u=some .string) (ar:cR P e=true) (hn:hp nb=none)
 (hi:P.info? e=some i) (hz:i.zero=some z) (h3:i.size=P.cellsOf e) (h4:z.cells.size=P.cellsOf e) (xU:i.size=1) (kX:P.bytesOf e=i.bytes) (dL:xs.length*P.bytesOf e≤bZ) (nj:xs.length=x.size) (gI:(Lib.strCells x).length=x.size)
 (dg: ∀(i j:Nat) (y:V) (t':TypeId),xs[i]? =some y→(aW P e)[j]? =some t'→j<P.cellsOf e→∃u,(Lib.strCells x)[i*P.cellsOf e+j]? =some u∧Pure P w I t' u (bR P e y j)):
 ∀a0,∃v w' β',(Builtin.append_ #[t,u] ty #[.slice a0 0 0,.string x]).run P w= .ok v w'∧Le P w I β hp w' I β' (ax hp nb (some (.arr e xs fz)))∧aC P w' I β' (ax hp nb (some (.arr e xs fz))) B M w0∧
  ak P w' I β' (ax hp nb (some (.arr e xs fz))) v (.whole e nb):=by
 intro a0
 have rF:=uQ ar
 have hlen:xs.length≤2^45:=by
  have:xs.length*1≤xs.length*P.bytesOf e:=sD _ rF
  simp only[bZ] at dL
  omega
 by_cases h0:x.size=0
 ·have g9:xs=[]:=lY (by omega)
  subst g9
  obtain ⟨a1,a2⟩:=Fm S e hn
  have hf:=Lib.run_firstCells_string (P:=P) w 1 x
  rw[h0] at hf
  have kV:Lib.strCells x=[]:=lY (by omega)
  exact ⟨.slice a0 0 0,_,_,by cases a0<;>simp[storeCells,kV,Builtin.append_,run_underlying hu,run_underlying pe,sizeOf,typeInfo,hi,xU,Builtin.lenOf,h0,hf],a1,a2,.dw (bS _ _ _) (bS _ _ _)⟩
 ·have cG:=aax (P:=P) w t u ty e i z hu pe hi hz x (by omega) (by omega) (by rw[←kX,←nj];simp only[bZ] at dL;omega) a0
  have e1:(x.data.map fun b=>Value.int .u8 b.toNat)=(Lib.strCells x).toArray:=by
   apply Array.ext'
   simp[Lib.strCells]
  rw[e1,←nj] at cG
  have mA:=grownCap_ge w xs.length 0 e
  have o6:grownCap w xs.length 0 e≤maxLen:=grownCap_le_maxLen w xs.length 0 e (by simp only[maxLen];omega)
  obtain ⟨n1,n2,n3⟩:=xO S.drew (nb:=nb) (cap:=grownCap w xs.length 0 e) (es:=xs) (C0:=(Lib.strCells x).toArray++Builtin.zeroCells z.cells (grownCap w xs.length 0 e-xs.length)) ar hn
   (by
    have:(Lib.strCells x).length=xs.length*P.cellsOf e:=by rw[gI,nj,←h3,xU,e6]
    simp only[EB,pZ,size_zeroCells,h4,this,←dG];congr 1;omega) mA o6
   (fun i' j y t' hy ht hj=>by
    obtain ⟨u,gp,hp⟩:=dg i' j y t' hy ht hj
    have aJ:=(bm.1 gp).1
    refine ⟨u,?_,Pure.drew hp⟩
    rw[xd (by simpa using aJ)]
    simpa using gp)
  exact ⟨_,_,_,cG,(Le.drew w I β hp).trans n1,n2,n3⟩
theorem aaA (S:aC P w I β hp B M w0) {t u ty e:TypeId} {nb:Nat} {s:Value} {sv:V} {x:ByteArray} {r:R} {rd:List Nat} (hu:P.underlying t=some (.slice e)) (pe:P.underlying u=some .string) (he:P.underlying e=some (.int .u8)) (hs:ak P w I β hp s sv)
  (h:(xn P nb e sv (.list e (x.data.toList.map dW))).run C hp=some (r,rd)):c7 P ((Builtin.append_ #[t,u] ty #[s,.string x]).run P w) w I β hp B M w0 r:=by
 unfold xn at h
 obtain ⟨ar,h⟩:=aG h
 simp only[sO] at h
 obtain ⟨_,h⟩:=aG h
 have om:bM P e=false:=by simp[bM,he]
 have dX:P.cellsOf e=1:=by rw[←(lE ar).1,AV om];rfl
 obtain ⟨i,z,hi,hz,h3,h4,_⟩:=jt ar
 have xU:i.size=1:=by rw[h3,dX]
 have rF:=uQ ar
 have kX:P.bytesOf e=i.bytes:=by simp[Program.bytesOf,hi]
 have FR:=aaw (P:=P) (w:=w) (I:=I) he dX x
 have nj:(x.data.toList.map dW).length=x.size:=by simp
 have gI:(Lib.strCells x).length=x.size:=Lib.strCells_length x
 have h1:=Lib.strCells_oneCell x
 generalize g9:x.data.toList.map dW=xs at*
 cases sv with
 | nilS e'=>
  obtain ⟨hc,h⟩:=aG h
  simp only[aO,aX,dq] at hc
  obtain ⟨hn,rfl⟩:=kW h
  obtain ⟨a0,rfl⟩: ∃a0,s= .slice a0 0 0:=by cases hs;exact ⟨_,rfl⟩
  obtain ⟨v,w',β',a1,a2,a3,a4⟩:=Ry S hu pe ar hn hi hz h3 h4 xU kX hc.2 nj gI FR _
  exact ⟨v,w',I,β',a1,a2,a3,a4⟩
 | whole e' id=>
  obtain ⟨l,h⟩:=run_get h
  cases ab:hp id with
  | none=>rw[ab] at h;cases h
  | some blk=>
   rw[ab] at h
   cases blk with
   | dead=>cases h
   | var _=>cases h
   | nest _ _ _=>cases h
   | map _ _=>cases h
   | arr dM es fz=>
    obtain ⟨hc,h⟩:=aG h
    obtain ⟨hn,rfl⟩:=kW h
    simp only[aO,aX,dq] at hc
    obtain ⟨J7,J8,dL⟩:=hc
    subst J7
    subst J8
    have bq:nb≠id:=fun e=>by rw[e,ab] at hn;cases hn
    obtain ⟨k1,k2⟩:=uV S ab
    have jO:ax hp id (some ai.dead) nb=none:=by rw[cy _ _ bq];exact hn
    cases hs with
    | dI hd=>rw[ab] at hd;cases hd
    | di hd=>rw[ab] at hd;cases hd
    | dB hd=>rw[ab] at hd;cases hd
    | dw hd hb=>
     rw[ab] at hd
     cases hd
     simp only[List.length_nil,fx] at dL
     obtain ⟨v,w',β',a1,a2,a3,a4⟩:=Ry k2 hu pe ar jO hi hz h3 h4 xU kX dL nj gI FR _
     exact ⟨v,w',I,β',a1,k1.trans a2,a3,a4⟩
    | @whole _ _ aN nW b cap hd hb aU b6 hm=>
     rw[ab] at hd
     cases hd
     have hr:=S.h.rel id _ ab
     cases hr with
     | dJ az=>rw[az] at hb;cases hb
     | @arr _ _ _ b' Ca _ az hh o7 hf dP ng=>
      rw[hb] at az
      cases az
      have hlen:es.length+xs.length≤2^45:=by
       have:(es.length+xs.length)*1≤(es.length+xs.length)*P.bytesOf e:=sD _ rF
       simp only[bZ] at dL
       omega
      rw[jL hh] at aU
      have m8: ∀aw blk',ax hp id (some ai.dead) aw=some blk'→¬bh P w (β aw) blk' b:=by
       intro aw blk' h1 U
       by_cases js:aw=id
       ·subst js;rw[bS] at h1;cases h1;exact U.alive rfl
       ·rw[cy _ _ js] at h1
        exact js (S.h.inj aw id blk' _ b h1 ab U (.root (by simp) hb))
      have Bf:=S.h.s4 id _ b ab (by simp) hb
      have mz:es.length*P.cellsOf e≤Ca.toList.length:=by simpa using o7
      have Rz:(Lib.strCells x).length=xs.length*P.cellsOf e:=by rw[gI,nj,dX,e6]
      by_cases o9:es.length+xs.length≤cap
      ·have vb:es.length*P.cellsOf e+(Lib.strCells x).length≤Ca.size:=by rw[Rz,←dG,←aU];exact dF _ o9
       have cG:=Lib.run_append_room_string (P:=P) w t u ty e i hu pe hi xU b es.length cap Ca hh x (by rw[←nj];exact o9) (by rw[←gI];rw[dX,e6] at vb;exact vb)
       have dg:=FI (P:=P) (w:=w) (I:=I) (n:=es.length) (c:=Ca.toList) rfl (fun i j y t' a b c=>by
        obtain ⟨v,hv,hp⟩:=ng i j y t' a b c
        exact ⟨v,by simpa using hv,hp⟩) FR mz (Ca.toList.drop (es.length*P.cellsOf e+(Lib.strCells x).length))
       generalize u5:(Ca.toList.take es.length++Lib.strCells x++Ca.toList.drop (es.length+x.size)).toArray=C' at cG
       have o8:C'.size=Ca.size:=by
        rw[dX,e6] at vb
        rw[←u5];simp;omega
       have Ks:(w.setRow b C').heap[b]? =some (.cells C' e (0,0)):=setRow_heap w b Ca C' e _ hh
       have J9: ∀j,j<es.length*P.cellsOf e→C'[j]? =Ca[j]? :=fun j hj=>by
        have aaB:=o7
        rw[dX,e6] at hj aaB
        rw[←u5,jG,cC,gi (by simp;omega),dU hj,lq]
       obtain ⟨a1,a2⟩:=AZ k2 (blk:= .arr e (es++xs) fz) (w':=w.setRow b C') jO m8 (QV hh Ks (J0 hf dP) J9) (fun b' h _=>setRow_other w b b' _ h) (by simp) ⟨rfl,rfl⟩ Bf
        (fun b' h=>(dh (h.flat (by simp))).symm) (fun hle=> .arr ar rfl Ks (by rw[o8,←aU];exact dF _ (by simpa using o9)) (fun _ j h=>nO (J0 hf dP j h) (dF _ (by simp))) dP fun i j y t' a b c=>by
         obtain ⟨v,hv,hp⟩:=dg i j y t' a b c
         refine ⟨v,?_,hp.mono hle.dC hle.cx⟩
         rw[←u5,jG]
         rw[dX] at hv⊢
         simpa[gI] using hv)
       refine ⟨_,_,_,_,cG,k1.trans a1,a2,?_⟩
       have a3:=ak.whole (P:=P) (w:=w.setRow b C') (I:=I) (β:=ax β nb (some b)) (hp:=ax (ax hp id (some .dead)) nb (some (.arr e (es++xs) fz))) (cap:=cap) (b:=b) (es:=es++xs) (fz:=fz) (id:=nb) (e:=e) (bS _ _ _) (bS _ _ _) (by rw[jL Ks,o8,aU]) (by simpa using o9) hm
       rw[cg,nj] at a3
       exact a3
      ·have hold: ∀(j:Nat) v,(Ca.toList.take (es.length*P.cellsOf e))[j]? =some v→w.cell? ((⟨b,0,none⟩:Addr).add j)=some v:=by
        intro j v hj
        have b9:=(bm.1 hj).1
        have gG:j<es.length*P.cellsOf e:=by rw[eI] at b9;omega
        rw[dU gG] at hj
        rw[mn,cell?_cells hh,fx]
        simpa using hj
       have cG:=Lib.run_append_grow_string (P:=P) w t u ty e i z hu pe hi hz ⟨b,0,none⟩ es.length cap (Ca.toList.take (es.length*P.cellsOf e)) (by rw[h3];simp;omega) hold x (by omega) (by omega)
        (growslice_fits (by omega) (by rw[←kX,←nj];simp only[bZ] at dL;omega))
       rw[←nj] at cG
       have mA:=grownCap_ge w (es.length+xs.length) cap e
       have o6:grownCap w (es.length+xs.length) cap e≤maxLen:=grownCap_le_maxLen w _ cap e (by simp only[maxLen];omega)
       have dg:=FI (P:=P) (w:=w) (I:=I) (n:=es.length) (c:=Ca.toList) rfl (fun i j y t' a b c=>by
        obtain ⟨v,hv,hp⟩:=ng i j y t' a b c
        exact ⟨v,by simpa using hv,hp⟩) FR mz (Builtin.zeroCells z.cells (grownCap w (es.length+xs.length) cap e-(es.length+xs.length))).toList
       obtain ⟨n1,n2,n3⟩:=xO k2.drew (nb:=nb) (cap:=grownCap w (es.length+xs.length) cap e) (es:=es++xs)
        (C0:=(Ca.toList.take (es.length*P.cellsOf e)).toArray++(Lib.strCells x).toArray++Builtin.zeroCells z.cells (grownCap w (es.length+xs.length) cap e-(es.length+xs.length))) ar jO
        (by
         have e1:(Ca.toList.take (es.length*P.cellsOf e)).length=es.length*P.cellsOf e:=by simp;omega
         simp only[EB,pZ,size_zeroCells,h4,Rz,e1,←dG];congr 1;omega) (by simpa using mA) o6
        (fun i j y t' a b c=>by
         obtain ⟨v,hv,hp⟩:=dg i j y t' a b c
         refine ⟨v,?_,Pure.drew hp⟩
         rw[←lq]
         simpa using hv)
       rw[cg] at n3
       exact ⟨_,_,_,_,cG,(k1.trans (Le.drew w I β _)).trans n1,n2,n3⟩
 | _=>cases h
end
end Go.AM
