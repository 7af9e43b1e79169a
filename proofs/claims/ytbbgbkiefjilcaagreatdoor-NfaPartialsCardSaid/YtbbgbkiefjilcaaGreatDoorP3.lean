/-
  Functions of the program, lifted to plain data.
-/
import Derived.Conc.MuLone
import Derived.Defers
import Derived.Carry
import Derived.OpenShut
import Derived.Deep.Slices
import Derived.Test.YtbbgbkiefjilcaaGreatDoorP2
set_option linter.unusedVariables false
set_option linter.unusedSimpArgs false
namespace Go.AM
section
variable {P:Program} {A:cW} {w w':World} {I I' I2:Nat→Prop} {μ β β' cA:Nat→Option Nat} {hp hp' hp0 bI:Nat→Option ao} {C:af} {B:Nat} {M:Nat→Prop} {w0:Start}
structure lN (w:World) (I:Nat→Prop) (β:Nat→Option Nat) (hp:Nat→Option ao) (w':World) (I':Nat→Prop) (β':Nat→Option Nat) (hp':Nat→Option ao):Prop where
 dO: ∀b,I b→I' b
 cJ: ∀b,I b→w'.heap[b]? =w.heap[b]?
 blk: ∀id blk,hp id=some blk→∃blk',hp' id=some blk'∧blk.le blk'∧(blk'≠ .dead→β' id=β id)
 size: ∀id blk blk' b,hp id=some blk→hp' id=some blk'→blk'≠ .dead→β id=some b→bsize w' b=bsize w b
theorem Le.Hd (h:Le P w I β hp w' I' β' hp'):lN w I β hp w' I' β' hp':=⟨h.dO,h.cJ,h.blk,h.size⟩
theorem lN.trans {Bh:World} {Bi:Nat→Prop} {Bj:Nat→Option Nat} {Bk:Nat→Option ao} (h1:lN w I β hp w' I' β' hp') (h2:lN w' I' β' hp' Bh Bi Bj Bk):lN w I β hp Bh Bi Bj Bk:=by
 refine ⟨fun b h=>h2.dO b (h1.dO b h),fun b h=>(h2.cJ b (h1.dO b h)).trans (h1.cJ b h),fun id blk h=> ?_,fun id blk uX b h tx hd hb=> ?_⟩
 ·obtain ⟨blk',e',l',b'⟩:=h1.blk id blk h
  obtain ⟨uX,en,rR,KQ⟩:=h2.blk id blk' e'
  refine ⟨uX,en,ao.le_trans l' rR,fun hd=> ?_⟩
  have fy:blk'≠ .dead:=fun e=>hd (ao.qB (e▸rR))
  exact (KQ hd).trans (b' fy)
 ·obtain ⟨blk',e',l',b'⟩:=h1.blk id blk h
  obtain ⟨iR,e3,l3,b3⟩:=h2.blk id blk' e'
  obtain rfl:iR=uX:=by rw[e3] at tx;exact dB tx
  have fy:blk'≠ .dead:=fun e=>hd (ao.qB (e▸l3))
  rw[h2.size id blk' iR b e' e3 hd ((b' fy).trans hb),h1.size id blk blk' b h e' fy hb]
def pK (P:Program) (w:World) (μ:Nat→Option Nat) (hp0:Nat→Option ao) (b:Nat):Prop:= ∃j blk,hp0 j=some blk∧bL P w (μ j) blk b
structure adU (P:Program) (A:cW) (key:Nat) (w:World) (I:Nat→Prop) (μ:Nat→Option Nat) (ds es:List V) (w':World) (v:Value) (I2:Nat→Prop) (cA:Nat→Option Nat):Prop where
 yd:aO P w' I2 cA (bA (A.so key es) (A.lv key es)).hp w.heap.size (pK P w μ (bA (A.sin key) ds).hp) ⟨w,I⟩
 le:lN w I μ (bA (A.sin key) ds).hp w' I2 cA (bA (A.so key es) (A.lv key es)).hp
 res:au P w' I2 cA (bA (A.so key es) (A.lv key es)).hp v (qz (gk (A.so key es).bQ (A.lv key es)))
def lO (P:Program) (A:cW) (C:af):Prop:=
 ∀key ds es,C key ds=some es→∃fn c,P.funcs[A.aT key]? =some fn∧fn.body=some c∧
  ∀(w:World) (I:Nat→Prop) (μ:Nat→Option Nat) (vals:List Value),
   uW P w I μ (bA (A.sin key) ds).hp w.heap.size (pK P w μ (bA (A.sin key) ds).hp)→iE P A.aL w I→
   vals.length=(A.sin key).bQ.length→(∀(j:Nat) v x,vals[j]? =some v→(gA ((A.sin key).bQ.map (·.2)) ds)[j]? =some x→au P w I μ (bA (A.sin key) ds).hp v x)→
   Calls P (A.aT key) vals.toArray w fun e w'=> ∃v I2 cA,e= .returned v∧adU P A key w I μ ds es w' v I2 cA
theorem eP.vq {p:Place} {o:Option Nat} {blk:ao} {b:Nat} (h:eP P w β hp p o blk) (ho:bL P w o blk b):
  ∃sg,hp p.id=some sg∧bL P w (β p.id) sg b∧∀e es,sg≠ .arr e es true:=by
 cases h with
 | var h=>exact ⟨_,h,.root (by simp) (ho.flat (by simp)),by simp⟩
 | arr h=>exact ⟨_,h,.root (by simp) (ho.flat (by simp)),by simp⟩
 | map h=>exact ⟨_,h,.root (by simp) (ho.flat (by simp)),by simp⟩
 | nest h=>
  refine ⟨_,h,?_,by simp⟩
  cases ho with
  | root _ hb=>exact .root (by simp) hb
  | row hb ha=>exact .row hb ha
 | row h hb ha _ _ _ _ _=>
  have:=ho.flat (by simp)
  cases this
  exact ⟨_,h,.row hb ha,by simp⟩
theorem aO.adV (S:aO P w I β hp B M w0) {id b:Nat} {blk:ao} (ai:hp id=some blk) (ho:bL P w (β id) blk b) (hf: ∀e es,blk≠ .arr e es true): ¬I b:=by
 have hr:=S.h.rel id blk ai
 generalize β id=o at hr ho
 cases hr with
 | var hb _ _ hI _ _=>have:=ho.flat (by simp);rw[hb] at this;cases this;exact hI
 | er hb=>have:=ho.flat (by simp);rw[hb] at this;cases this
 | @arr e es fz _ _ _ hb _ _ _ e6 _=>
  have:=ho.flat (by simp)
  rw[hb] at this;cases this
  cases fz with
  | true=>exact absurd rfl (hf e es)
  | false=>exact e6 rfl
 | dead=>exact absurd rfl ho.alive
 | map _ hb _ _ hI _ _=>have:=ho.flat (by simp);rw[hb] at this;cases this;exact hI
 | nest hb hr _=>
  cases ho with
  | root _ aE=>rw[hb] at aE;cases aE;exact (hr _ _ _ _ .here).nI
  | row aE ha=>rw[hb] at aE;cases aE;exact (hr _ _ _ _ ha).nI
theorem He {a b:List Nat} (h:xo a b=false) {x:Nat} (ha:x∈a):x∉b:=by
 intro hb
 unfold xo at h
 rw[List.any_eq_false] at h
 exact h x ha (xN hb)
theorem adW (S:aO P w I β hp B M w0) {pl:List Place} {upd:List (Nat × ao)} {o:Nat→Option Nat} (jF:(pl.map Place.id).Nodup) (Hf:xo (upd.map (·.1)) (pl.map Place.id)=false)
  (hl: ∀j blk,hp0 j=some blk→∃p,eY pl j=some p∧eP P w β hp p (o j) blk)
  (c8:(∀j blk,hp0 j=some blk→∀b,bL P w (o j) blk b→¬jz P w I β hp upd b)→∀j blk,hp0 j=some blk→eO P w (jz P w I β hp upd) o hp0 (o j) blk) (aR: ∀b,jz P w I β hp upd b→b<w.heap.size):
  uW P w (jz P w I β hp upd) o hp0 w.heap.size (pK P w o hp0):=by
 have dp: ∀j blk,hp0 j=some blk→∀b,bL P w (o j) blk b→¬jz P w I β hp upd b:=by
  intro j blk hj b ho hI
  obtain ⟨p,bI,iS⟩:=hl j blk hj
  obtain ⟨sg,k1,k2,k3⟩:=iS.vq ho
  rcases hI with hI|⟨q,hq,cz,q1,q2⟩
  ·exact S.adV k1 k2 k3 hI
  ·have:=S.h.inj _ _ _ _ b q1 k1 q2 k2
   refine He Hf (fG.2 ⟨q,hq,rfl⟩) ?_
   rw[this]
   rw[mE] at bI
   exact fG.2 ⟨p,kg bI,rfl⟩
 refine ⟨c8 dp,fun j1 j2 b1 b2 b h1 h2 o1 o2=> ?_,fun j blk b h1 o1=> .inl ⟨j,blk,h1,o1⟩,aR⟩
 obtain ⟨p1,q1,q2⟩:=hl j1 b1 h1
 obtain ⟨p2,r1,r2⟩:=hl j2 b2 h2
 obtain ⟨c1,x1,x2,_⟩:=q2.vq o1
 obtain ⟨c2,y1,y2,_⟩:=r2.vq o2
 have ai:=S.h.inj _ _ _ _ b x1 y1 x2 y2
 rw[mE] at q1 r1
 have m1:(pl.map Place.id)[j1]? =some p1.id:=by rw[hY,q1];rfl
 have m2:(pl.map Place.id)[j2]? =some p2.id:=by rw[hY,r1];rfl
 rw[←ai] at m2
 obtain ⟨z1,z2⟩:=bH.1 m1
 obtain ⟨z3,z4⟩:=bH.1 m2
 exact (List.getElem_inj jF).1 (z2.trans z4.symm)
def T8:V→Prop
 | .list .. =>False
 | .pref .. =>False
 | .agg _=>False
 | .bC _=>False
 | .fn .. =>False
 | _=>True
theorem au.free {v:Value} {x:V} (h:au P w I β hp v x) (hx:T8 x):au P w I' β hp v x:=by
 cases h with
 | undef=>exact .undef
 | int=>exact .int
 | bool=>exact .bool
 | str h=>exact .str h
 | list h=>exact hx.elim
 | nilS=>exact .nilS
 | agg=>exact hx.elim
 | bC=>exact hx.elim
 | eb=>exact .eb
 | fn=>exact hx.elim
 | pref=>exact hx.elim
 | eZ h=>exact .eZ h
 | ia h=>exact .ia h
 | la h=>exact .la h
 | ep h hb=>exact .ep h hb
 | whole h hb a b c=>exact .whole h hb a b c
 | fj h hb a b c=>exact .fj h hb a b c
 | gX h hb=>exact .gX h hb
 | sub h hb a b c=>exact .sub h hb a b c
 | ptr h hd hb=>exact .ptr h hd hb
 | kj h sc=>exact .kj h sc
 | km h sc=>exact .km h sc
 | row h hb a b c d=>exact .row h hb a b c d
 | c6 h hb a b c d e=>exact .c6 h hb a b c d e
 | ei=>exact .ei
 | jk h=>exact .jk h
 | c7 h hb=>exact .c7 h hb
theorem BU {l:LS} {ds:List V} (hs:l.safe=true):T8 (jt l ds):=by
 cases l<;>simp only[LS.safe] at hs<;>first|(cases hs;done)|trivial
theorem BV: ∀{ls:List LS} {ds:List V} {j:Nat} {y:V},(jc ls ds)[j]? =some y→∃l gq,l∈ls∧y=jt l gq
 | [],ds,j,y,h=>by simp[jc] at h
 | l::ls,ds,j,y,h=>by
  simp only[jc] at h
  cases j with
  | zero=>simp at h;exact ⟨l,ds,tc ..,h.symm⟩
  | succ j=>
   obtain ⟨l',gq,h1,h2⟩:=BV (j:=j) (by simpa using h)
   exact ⟨l',gq,lC _ h1,h2⟩
theorem T9: ∀{ls:List VS} {ds:List V} {j:Nat} {y:V},(gA ls ds)[j]? =some y→∃l gq,l∈ls∧y=lH l gq
 | [],ds,j,y,h=>by simp[gA] at h
 | l::ls,ds,j,y,h=>by
  simp only[gA] at h
  cases j with
  | zero=>simp at h;exact ⟨l,ds,tc ..,h.symm⟩
  | succ j=>
   obtain ⟨l',gq,h1,h2⟩:=T9 (j:=j) (by simpa using h)
   exact ⟨l',gq,lC _ h1,h2⟩
theorem Ua {s:VS} {ds:List V} {v:Value} (h:au P w I β hp v (lH s ds)) (hs:s.safe=true):au P w I' β hp v (lH s ds):=by
 cases s with
 | one l=>exact h.free (BU hs)
 | agg ls=>
  simp only[lH] at h⊢
  obtain ⟨cs,rfl,e1,e2⟩:=h.lL
  refine .agg e1 fun j v x hj hx=> ?_
  obtain ⟨l,gq,k1,rfl⟩:=BV hx
  exact (e2 j v _ hj hx).free (BU (gz.1 hs l k1))
 | bC ls=>
  simp only[lH] at h⊢
  obtain ⟨cs,rfl,e1,e2⟩:=h.u6
  refine .bC e1 fun j v x hj hx=> ?_
  obtain ⟨l,gq,k1,rfl⟩:=BV hx
  exact (e2 j v _ hj hx).free (BU (gz.1 hs l k1))
 | fn f a b=>
  simp only[VS.safe,aU] at hs
  simp only[lH] at h⊢
  cases h with
  | fn a1 a2 b1 b2=>
   refine .fn a1 (fun j v x hj hx=> ?_) b1 (fun j v x hj hx=> ?_)
   ·obtain ⟨l,gq,k1,rfl⟩:=BV hx
    exact (a2 j v _ hj hx).free (BU (gz.1 hs.1 l k1))
   ·obtain ⟨l,gq,k1,rfl⟩:=BV hx
    exact (b2 j v _ hj hx).free (BU (gz.1 hs.2 l k1))
 | pref ts ls=>cases hs
theorem Pure.scalar {t:TypeId} {v:Value} {x:V} (h:Pure P w I t v x) (hn: ∀e,P.underlying t≠some (.slice e)):Pure P w I' t v x:=by
 cases h with
 | int h=>exact .int h
 | bool h=>exact .bool h
 | str h hl=>exact .str h hl
 | nil h=>exact absurd h (hn _)
 | emp h=>exact absurd h (hn _)
 | list g h=>exact absurd h (hn _)
theorem adY {e t:TypeId} {j:Nat} (h:A1 P e=true) (ht:(bp P e)[j]? =some t) (e':TypeId):P.underlying t≠some (.slice e'):=by
 intro hu
 have h2:=gz.1 h t (kg ht)
 rw[hu] at h2
 cases h2
theorem adZ {o:Option Nat} {b:BS} {ds:List V} (h:eO P w I2 β hp o (gS b ds)) (hs:b.safe P=true) (hi: ∀b,I b→I2 b):eO P w I β hp o (gS b ds):=by
 cases b with
 | dead=>exact .dead
 | var T0 ls=>
  simp only[gS] at h⊢
  cases h with
  | var hb hh bh hI hx ic=>
   refine .var hb hh bh (fun h=>hI (hi _ h)) (fun j v x hj cU=> ?_) ic
   obtain ⟨l,gq,k1,rfl⟩:=T9 cU
   exact Ua (hx j v _ hj cU) (gz.1 hs l k1)
 | arr e fz=>
  simp only[BS.safe,aU,pf] at hs
  obtain ⟨rfl,BT⟩:=hs
  simp only[gS] at h⊢
  generalize (V.nth ds 0).toList=es at h⊢
  cases h with
  | er hb=>exact .er hb
  | arr a1 a2 a3 a4 a5 a6 a7=>
   refine .arr a1 a2 a3 a4 (fun h=>by cases h) (fun _ h=>a6 rfl (hi _ h)) fun i j x t' y1 y2 y3=> ?_
   obtain ⟨v,z1,z2⟩:=a7 i j x t' y1 y2 y3
   exact ⟨v,z1,z2.scalar (adY BT y2)⟩
 | nest e=>
  simp only[gS] at h⊢
  generalize (V.nth ds 0).toList=es at h⊢
  cases h with
  | nest hb c9 pC=>
   refine .nest hb (fun q b' e1 m1 hq=> ?_) pC
   obtain ⟨ok,⟨Ca,c1,c2,c3⟩,nI⟩:=c9 q b' e1 m1 hq
   refine ⟨ok,⟨Ca,c1,c2,fun i j x t' y1 y2 y3=> ?_⟩,fun h=>nI (hi _ h)⟩
   obtain ⟨v,z1,z2⟩:=c3 i j x t' y1 y2 y3
   refine ⟨v,z1,?_⟩
   generalize cb P e1 x j=y at z2⊢
   cases z2 with
   | gW a p=>
    refine .gW a (p.scalar fun e hu=> ?_)
    unfold gR at a
    rw[hu] at a
    cases a
   | emp a b=>exact .emp a b
   | row a b c d e=>exact .row a b c d e
 | map t=>
  simp only[gS] at h⊢
  cases h with
  | map a1 a2 a3 a4 a5 a6 a7=>exact .map a1 a2 a3 a4 (fun h=>a5 (hi _ h)) a6 a7
theorem L5: ∀{l:List BS} {ds:List V} {j:Nat} {y:ao},(fx l ds)[j]? =some y→∃b gq,l[j]? =some b∧y=gS b gq
 | [],ds,j,y,h=>by simp[fx] at h
 | b::l,ds,j,y,h=>by
  simp only[fx] at h
  cases j with
  | zero=>simp at h;exact ⟨b,ds,rfl,h.symm⟩
  | succ j=>
   obtain ⟨b',gq,h1,h2⟩:=L5 (j:=j) (by simpa using h)
   exact ⟨b',gq,by simpa using h1,h2⟩
theorem Ub: ∀{l:List (Nat × VS)} {ds:List V} {q:Nat × V},q∈gk l ds→∃s gq,(q.1,s)∈l∧q.2=lH s gq
 | [],ds,q,h=>by simp[gk] at h
 | (k,s)::l,ds,q,h=>by
  simp only[gk,cH] at h
  rcases h with h|h
  ·subst h;exact ⟨s,ds,tc ..,rfl⟩
  ·obtain ⟨s',gq,h1,h2⟩:=Ub h
   exact ⟨s',gq,lC _ h1,h2⟩
theorem ad0 {S:Shape} {es:List V} (hs:S.safe P=true) (hi: ∀b,I b→I2 b) {N:Nat→Prop} {st:Start} (h:aO P w' I2 cA (bA S es).hp B N st) (h0: ∀b,I b→st.I b):
  aO P w' I cA (bA S es).hp B N st∧∀v,au P w' I2 cA (bA S es).hp v (qz (gk S.bQ es))→au P w' I cA (bA S es).hp v (qz (gk S.bQ es)):=by
 unfold Shape.safe at hs
 simp only[aU] at hs
 obtain ⟨jy,pI⟩:=hs
 have one: ∀q∈gk S.bQ es,∀v,au P w' I2 cA (bA S es).hp v q.2→au P w' I cA (bA S es).hp v q.2:=by
  intro q hq v hv
  obtain ⟨s,gq,k1,k2⟩:=Ub hq
  rw[k2] at hv⊢
  exact Ua hv (gz.1 jy _ k1)
 refine ⟨⟨⟨fun j blk hj=> ?_,h.h.inj,h.h.own,fun b hb=>h.h.ko b (hi b hb)⟩,h.cJ,h.size,fun b hb=> .inl (h0 b hb),h.io⟩,fun v hv=> ?_⟩
 ·have hr:=h.h.rel j blk hj
  have gY:=hj
  simp only[bA,mk,iV] at gY
  obtain ⟨b,gq,k1,rfl⟩:=L5 gY
  exact adZ hr (gz.1 pI _ (kg k1)) hi
 ·generalize gk S.bQ es=l at one hv⊢
  match l,one,hv with
  | [],_,hv=>
   simp only[qz,mU] at hv⊢
   obtain ⟨cs,rfl,e1,e2⟩:=hv.u6
   exact .bC e1 fun j v x _ hx=>by simp at hx
  | [q],one,hv=>exact one q (cV.2 rfl) v hv
  | q::q2::l,one,hv=>
   simp only[qz] at hv⊢
   obtain ⟨cs,rfl,e1,e2⟩:=hv.u6
   refine .bC e1 fun j v x hj hx=> ?_
   obtain ⟨y,hy,rfl⟩:=fG.1 (kg hx)
   exact one y hy v (e2 j v _ hj hx)
end
section
variable {P:Program} {A:cW} {w w':World} {I I' I2:Nat→Prop} {μ β β' cA:Nat→Option Nat} {hp hp' hp0 bI:Nat→Option ao} {C:af} {B:Nat} {M:Nat→Prop} {w0:Start}
inductive im (σ:List Place):ao→ao→Prop
 | dead:im σ .dead .dead
 | var {T:TypeId} {cs:List V}:im σ (.var T cs) (.var T (cs.map (Ge σ)))
 | arr {e:TypeId} {es:List V} {fz:Bool}:im σ (.arr e es fz) (.arr e es fz)
 | nest {e:TypeId} {es:List V} {v1 v2:List Nat}:im σ (.nest e es v1) (.nest e es v2)
 | map {t:TypeId} {es:List V}:im σ (.map t es) (.map t es)
theorem im.of (σ:List Place) (b:ao):im σ b (uO σ b):=by
 cases b with
 | dead=>exact .dead
 | var T cs=>exact .var
 | arr e es fz=>exact .arr
 | nest e es v=>exact .nest
 | map t es=>exact .map
theorem Uc {σ:List Place}: ∀{pl:List Place} {bs:List ao} {acc:List (Nat × ao)} {k:List (Nat × ao)→Rd R} {r:R} {rd:List Nat},(rL σ pl bs acc k).run C hp=some (r,rd)→
  pl.length≤bs.length∧∃bk fK,(k bk).run C hp=some (r,fK)∧(∀q∈bk,q∈acc∨∃(j:Nat) (b:ao),pl[j]? =some (.blk q.1)∧bs[j]? =some b∧im σ b q.2∧((∃e es v2,q.2= .nest e es v2)→∃e es av e' aW,hp q.1=some (.nest e es av)∧q.2= .nest e' aW (av.map (· +1))))∧
   (∀q∈acc,q∈bk)∧∀(j:Nat) p,pl[j]? =some p→∃id b,p= .blk id∧(id,b)∈bk
 | [],bs,acc,k,r,rd,h=>⟨jS _,acc,rd,by simpa only[rL] using h,fun q hq=> .inl hq,fun q hq=>hq,fun j p hp=>by simp at hp⟩
 | .row _ _ _::pl,bs,acc,k,r,rd,h=>by
  cases bs<;>(simp only[rL] at h;cases h)
 | .blk id::pl,[],acc,k,r,rd,h=>by simp only[rL] at h;cases h
 | .blk id::pl,b::bs,acc,k,r,rd,h=>by
  have fin: ∀{b2:ao} {j5:List Nat},(rL σ pl bs ((id,b2)::acc) k).run C hp=some (r,j5)→im σ b b2→((∃e es v2,b2= .nest e es v2)→∃e es av e' aW,hp id=some (.nest e es av)∧b2= .nest e' aW (av.map (· +1)))→
    (Place.blk id::pl).length≤(b::bs).length∧∃bk fK,(k bk).run C hp=some (r,fK)∧(∀q∈bk,q∈acc∨∃(j:Nat) (b':ao),(Place.blk id::pl)[j]? =some (.blk q.1)∧(b::bs)[j]? =some b'∧im σ b' q.2∧((∃e es v2,q.2= .nest e es v2)→∃e es av e' aW,hp q.1=some (.nest e es av)∧q.2= .nest e' aW (av.map (· +1))))∧
     (∀q∈acc,q∈bk)∧∀(j:Nat) p,(Place.blk id::pl)[j]? =some p→∃id b,p= .blk id∧(id,b)∈bk:=by
   intro b2 j5 h1 hb hn
   obtain ⟨a0,bk,fK,a1,a2,a3,a4⟩:=Uc h1
   refine ⟨by simp only[List.length_cons];omega,bk,fK,a1,fun q hq=> ?_,fun q hq=>a3 q (lC _ hq),fun j p hj=> ?_⟩
   ·rcases a2 q hq with h|⟨j,b',k1,k2,k3,k4⟩
    ·rcases cH.1 h with e|h
     ·subst e;exact .inr ⟨0,b,rfl,rfl,hb,hn⟩
     ·exact .inl h
    ·exact .inr ⟨j+1,b',by simpa using k1,by simpa using k2,k3,k4⟩
   ·cases j with
    | zero=>simp at hj;subst hj;exact ⟨id,b2,rfl,a3 _ (tc ..)⟩
    | succ j=>exact a4 j p (by simpa using hj)
  cases b with
  | nest e es v=>
   simp only[rL] at h
   obtain ⟨l,h⟩:=run_get h
   cases ai:hp id with
   | none=>rw[ai] at h;cases h
   | some blk=>
    rw[ai] at h
    cases blk with
    | nest e0 KR av=>exact fin h .nest fun _=>⟨e0,KR,av,e,es,ai,rfl⟩
    | _=>cases h
  | dead=>exact fin h (.of σ _) fun ⟨_,_,_,h⟩=>by cases h
  | var T cs=>exact fin h (.of σ _) fun ⟨_,_,_,h⟩=>by cases h
  | arr e es fz=>exact fin h (.of σ _) fun ⟨_,_,_,h⟩=>by cases h
  | map t es=>exact fin h (.of σ _) fun ⟨_,_,_,h⟩=>by cases h
theorem Ud {σ:List Place}: ∀{bs:List ao} {n:Nat} {q:Nat × ao},q∈rM σ n bs→∃i b,bs[i]? =some b∧q=(n+i,uO σ b)
 | [],n,q,h=>by simp[rM] at h
 | b::bs,n,q,h=>by
  simp only[rM,cH] at h
  rcases h with h|h
  ·exact ⟨0,b,rfl,h⟩
  ·obtain ⟨i,b',h1,h2⟩:=Ud h
   exact ⟨i+1,b',by simpa using h1,by rw[h2];congr 1;omega⟩
theorem Ue {σ:List Place}: ∀{bs:List ao} {n i:Nat} {b:ao},bs[i]? =some b→(n+i,uO σ b)∈rM σ n bs
 | [],n,i,b,h=>by simp at h
 | b0::bs,n,i,b,h=>by
  simp only[rM,cH]
  cases i with
  | zero=>simp at h;subst h;exact .inl rfl
  | succ i=>exact .inr (by rw[show n+(i+1)=n+1+i by omega];exact Ue (by simpa using h))
theorem Hg: ∀{k n i:Nat},i<k→(tv n k)[i]? =some (.blk (n+i))
 | 0,n,i,h=>by omega
 | k+1,n,0,h=>rfl
 | k+1,n,i+1,h=>by
  simp only[tv,List.getElem?_cons_succ]
  rw[Hg (by omega)]
  congr 2
  omega
theorem L7: ∀{k n:Nat},(tv n k).length=k
 | 0,_=>rfl
 | k+1,n=>by simp[tv,L7]
theorem Uf: ∀{bs:List (Nat × ao)} {k:Rd R} {r:R} {rd:List Nat},(Gf bs k).run C hp=some (r,rd)→(∀q∈bs,hp q.1=none)∧∃fK,k.run C hp=some (r,fK)
 | [],k,r,rd,h=>⟨by simp,rd,h⟩
 | (id,b)::l,k,r,rd,h=>by
  simp only[Gf] at h
  obtain ⟨l1,h⟩:=run_get h
  cases ai:hp id with
  | some blk=>rw[ai] at h;cases h
  | none=>
   rw[ai] at h
   obtain ⟨h1,h2⟩:=Uf h
   refine ⟨fun q hq=> ?_,h2⟩
   rcases cH.1 hq with e|hq
   ·subst e;exact ai
   ·exact h1 q hq
structure qN (σ:List Place) (cA:Nat→Option Nat) (bI:Nat→Option ao) (β':Nat→Option Nat) (hp':Nat→Option ao):Prop where
 blk: ∀j b,bI j=some b→∃id b',eY σ j=some (.blk id)∧hp' id=some b'∧im σ b b'∧(b≠ .dead→β' id=cA j)
 none: ∀j,bI j=none→eY σ j=none
 aoW: ∀j id ver path,eY σ j≠some (.row id ver path)
theorem qN.leaf {σ:List Place} (T:qN σ cA bI β' hp') {v:Value} {x:V} (h:au P w I cA bI v x):au P w I β' hp' v (kZ σ x):=by
 have look: ∀{j b},bI j=some b→∃id b',eY σ j=some (.blk id)∧hp' id=some b'∧im σ b b'∧(b≠ .dead→β' id=cA j):=fun h=>T.blk _ _ h
 cases h with
 | undef=>exact .undef
 | int=>exact .int
 | bool=>exact .bool
 | str h=>exact .str h
 | list h=>exact .list h
 | nilS=>exact .nilS
 | agg=>exact .undef
 | bC=>exact .undef
 | eb=>exact .eb
 | fn=>exact .undef
 | pref a b c=>exact .pref a b c
 | @eZ _ e j h=>
  obtain ⟨id,b',k1,k2,k3,k4⟩:=look h
  simp only[kZ,k1]
  cases k3
  exact .eZ k2
 | @ia _ e j _ _ h=>
  obtain ⟨id,b',k1,k2,k3,k4⟩:=look h
  simp only[kZ,k1]
  cases k3
  exact .ia k2
 | @la _ j _ _ h=>
  obtain ⟨id,b',k1,k2,k3,k4⟩:=look h
  simp only[kZ,k1]
  cases k3
  exact .la k2
 | @ep e j fz _ h hb=>
  obtain ⟨id,b',k1,k2,k3,k4⟩:=look h
  simp only[kZ,k1]
  cases k3
  exact .ep k2 ((k4 (by simp)).trans hb)
 | @whole e j es fz b cap h hb a1 a2 a3=>
  obtain ⟨id,b',k1,k2,k3,k4⟩:=look h
  simp only[kZ,k1]
  cases k3
  exact .whole k2 ((k4 (by simp)).trans hb) a1 a2 a3
 | @fj e j es av b cap h hb a1 a2 a3=>
  obtain ⟨id,b',k1,k2,k3,k4⟩:=look h
  simp only[kZ,k1]
  cases k3
  exact .fj k2 ((k4 (by simp)).trans hb) a1 a2 a3
 | @gX e j fz _ h hb=>
  obtain ⟨id,b',k1,k2,k3,k4⟩:=look h
  simp only[kZ,k1]
  cases k3
  exact .gX k2 ((k4 (by simp)).trans hb)
 | @sub e j off len es fz b o cap h hb a1 a2 a3=>
  obtain ⟨id,b',k1,k2,k3,k4⟩:=look h
  simp only[kZ,k1]
  cases k3
  exact .sub k2 ((k4 (by simp)).trans hb) a1 a2 a3
 | @ptr j i c b blk h hd hb=>
  obtain ⟨id,b',k1,k2,k3,k4⟩:=look h
  simp only[kZ,k1]
  have hs:blk.sz P=b'.sz P:=by cases k3<;>rfl
  rw[hs]
  exact .ptr k2 (by intro e;subst e;cases k3;exact hd rfl) ((k4 hd).trans hb)
 | kj=>exact .undef
 | km=>exact .undef
 | row=>exact .undef
 | c6=>exact .undef
 | ei=>exact .ei
 | @jk _ t j h=>
  obtain ⟨id,b',k1,k2,k3,k4⟩:=look h
  simp only[kZ,k1]
  cases k3
  exact .jk k2
 | @c7 t j b es h hb=>
  obtain ⟨id,b',k1,k2,k3,k4⟩:=look h
  simp only[kZ,k1]
  cases k3
  exact .c7 k2 ((k4 (by simp)).trans hb)
theorem qN.one {σ:List Place} (T:qN σ cA bI β' hp') {v:Value} {x:V} (h:au P w I cA bI v x):au P w I β' hp' v (KF σ x):=by
 cases x with
 | agg xs=>
  obtain ⟨cs,rfl,e1,e2⟩:=h.lL
  exact .agg (by simpa using e1) fun j v y hj hy=>by
   rw[hY] at hy
   cases hx:xs[j]? with
   | none=>rw[hx] at hy;cases hy
   | some x=>rw[hx] at hy;cases hy;exact T.leaf (e2 j v x hj hx)
 | fn f a b=>
  cases h with
  | fn a1 a2 b1 b2=>
   refine .fn (by simpa using a1) (fun j v y hj hy=> ?_) (by simpa using b1) (fun j v y hj hy=> ?_)
   ·rw[hY] at hy
    cases hx:a[j]? with
    | none=>rw[hx] at hy;cases hy
    | some x=>rw[hx] at hy;cases hy;exact T.leaf (a2 j v x hj hx)
   ·rw[hY] at hy
    cases hx:b[j]? with
    | none=>rw[hx] at hy;cases hy
    | some x=>rw[hx] at hy;cases hy;exact T.leaf (b2 j v x hj hx)
 | _=>exact T.leaf h
theorem qN.val {σ:List Place} (T:qN σ cA bI β' hp') {v:Value} {x:V} (h:au P w I cA bI v x):au P w I β' hp' v (Ge σ x):=by
 cases x with
 | bC xs=>
  obtain ⟨cs,rfl,e1,e2⟩:=h.u6
  exact .bC (by simpa using e1) fun j v y hj hy=>by
   rw[hY] at hy
   cases hx:xs[j]? with
   | none=>rw[hx] at hy;cases hy
   | some x=>rw[hx] at hy;cases hy;exact T.one (e2 j v x hj hx)
 | _=>exact T.one h
theorem qN.Ug {σ:List Place} (T:qN σ cA bI β' hp') {o:Option Nat} {b b':ao} (h:eO P w I cA bI o b) (hb:im σ b b'):eO P w I β' hp' o b':=by
 cases hb with
 | dead=>exact .dead
 | var=>
  cases h with
  | var a1 a2 a3 a4 a5 a6=>
   refine .var a1 a2 (by simpa using a3) a4 (fun j v y hj hy=> ?_) a6
   rw[hY] at hy
   cases hx:(_:List V)[j]? with
   | none=>rw[hx] at hy;cases hy
   | some x=>rw[hx] at hy;cases hy;exact T.val (a5 j v x hj hx)
 | arr=>
  cases h with
  | er hb=>exact .er hb
  | arr a1 a2 a3 a4 a5 a6 a7=>exact .arr a1 a2 a3 a4 a5 a6 a7
 | nest=>
  cases h with
  | nest a1 a2 a3=>exact .nest a1 a2 a3
 | map=>
  cases h with
  | map a1 a2 a3 a4 a5 a6 a7=>exact .map a1 a2 a3 a4 a5 a6 a7
theorem im.vq {σ:List Place} {o:Option Nat} {b b':ao} (h:im σ b b') {m:Nat} (ho:bL P w o b' m):bL P w o b m:=by
 cases h with
 | dead=>exact absurd rfl ho.alive
 | var=>exact .root (by simp) (ho.flat (by simp))
 | arr=>exact .root (by simp) (ho.flat (by simp))
 | map=>exact .root (by simp) (ho.flat (by simp))
 | nest=>
  cases ho with
  | root _ hb=>exact .root (by simp) hb
  | row hb ha=>exact .row hb ha
theorem im.Uh {σ:List Place} {b b':ao} (h:im σ b b'):b'≠ .dead→b≠ .dead:=by
 intro h1 h2;subst h2;cases h;exact h1 rfl
end
section
variable {P:Program} {A:cW} {w w':World} {I I' I2:Nat→Prop} {μ β β' cA:Nat→Option Nat} {hp hp' hp0 bI:Nat→Option ao} {C:af} {B:Nat} {M:Nat→Prop} {w0:Start}
theorem Ui: ∀{vs:List Nat} {k:Nat},k<vs.length→bR (vs.map (· +1)) k=bR vs k+1
 | [],k,h=>by simp at h
 | v::vs,0,h=>rfl
 | v::vs,k+1,h=>by simp only[dZ,bR];exact Ui (by simpa using h)
theorem Uj: ∀{vs:List Nat} {k:Nat},bR vs k≤bR (vs.map (· +1)) k
 | [],k=>by simp[bR]
 | v::vs,0=>by simp[bR]
 | v::vs,k+1=>by simp only[dZ,bR];exact Uj
def BW (hp:Nat→Option ao) (q:Nat × ao):Prop:=(∃e es v2,q.2= .nest e es v2)→∃e es av e' aW,hp q.1=some (.nest e es av)∧q.2= .nest e' aW (av.map (· +1))
theorem eP.L8 {id:Nat} {o:Option Nat} {blk:ao} (h:eP P w β hp (.blk id) o blk):o=β id∧∃b0,hp id=some b0∧b0≠ .dead:=by
 cases h with
 | var h=>exact ⟨rfl,_,h,by simp⟩
 | arr h=>exact ⟨rfl,_,h,by simp⟩
 | nest h=>exact ⟨rfl,_,h,by simp⟩
 | map h=>exact ⟨rfl,_,h,by simp⟩
theorem eP.ad2 {id:Nat} {o:Option Nat} {c b b' b0:ao} {σ:List Place} (h:eP P w β hp (.blk id) o c) (h0:hp id=some b0) (hle:c.le b) (hb:im σ b b') (hn:BW hp (id,b')):b0.le b':=by
 cases h with
 | var h=>
  rw[h] at h0;cases h0
  cases hb with
  | dead=>trivial
  | var=>trivial
  | arr=>exact hle.elim
  | nest=>exact hle.elim
  | map=>exact hle.elim
 | arr h=>
  rw[h] at h0;cases h0
  cases hb with
  | dead=>trivial
  | var=>exact hle.elim
  | arr=>exact hle
  | nest=>exact hle.elim
  | map=>exact hle.elim
 | map h=>
  rw[h] at h0;cases h0
  cases hb with
  | dead=>trivial
  | map=>exact hle
  | _=>exact hle.elim
 | nest h=>
  rw[h] at h0;cases h0
  cases hb with
  | dead=>trivial
  | var=>exact hle.elim
  | arr=>exact hle
  | map=>exact hle.elim
  | @nest e es v1 v2=>
   obtain ⟨e1,cO,vr,e2,cE,k1,k2⟩:=hn ⟨_,_,_,rfl⟩
   cases k2
   change hp id=_ at k1
   rw[h] at k1;cases k1
   exact ⟨hle.1,hle.2.1,by simp,fun k=>Uj⟩
theorem eP.other {p:Place} {o:Option Nat} {blk:ao} (h:eP P w β hp p o blk) (he:hp' p.id=hp p.id):eP P w β hp' p o blk:=by
 cases h with
 | var h=>exact .var (he.trans h)
 | arr h=>exact .arr (he.trans h)
 | nest h=>exact .nest (he.trans h)
 | map h=>exact .map (he.trans h)
 | row h a b c d e f g=>exact .row (he.trans h) a b c d e f g
open Classical in
theorem Uk (S:aO P w I β hp B M w0) {pl:List Place} {o:Nat→Option Nat} {bs:List ao} {nb:Nat} {bk fr:List (Nat × ao)} {σ:List Place} (sh:σ=pl++tv nb (bs.length-pl.length)) (BX:fr=rM σ nb (bs.drop pl.length))
  (jF:(pl.map Place.id).Nodup) (rV:pl.length≤bs.length)
  (oN: ∀(j:Nat) p,pl[j]? =some p→∃id b,p= .blk id∧(id,b)∈bk) (Hh: ∀q∈bk,∃(j:Nat) (b:ao),pl[j]? =some (.blk q.1)∧bs[j]? =some b∧im σ b q.2∧BW hp q)
  (hl: ∀j blk,hp0 j=some blk→∃p,eY pl j=some p∧eP P w β hp p (o j) blk) (hd: ∀j,j<pl.length→∃blk,hp0 j=some blk)
  (Sc:aO P w' I2 cA (ki bs) w.heap.size (pK P w o hp0) ⟨w,I⟩) (ye:lN w I o hp0 w' I2 cA (ki bs)) (tM: ∀q∈fr,hp q.1=none):
  ∃β',Le P w I β hp w' I2 β' (b9 hp (fr++bk))∧aO P w' I2 β' (b9 hp (fr++bk)) B M w0∧qN σ cA (ki bs) β' (b9 hp (fr++bk)):=by
 generalize L9:b9 hp (fr++bk)=iS
 let β':Nat→Option Nat:=fun n=>if∃q∈fr,q.1=n then cA (pl.length+(n-nb)) else β n
 have Ul: ∀(j:Nat) id,pl[j]? =some (.blk id)→∃c,hp0 j=some c∧eP P w β hp (.blk id) (o j) c:=by
  intro j id hj
  obtain ⟨c,hc⟩:=hd j (bH.1 hj).1
  obtain ⟨p,h1,h2⟩:=hl j c hc
  rw[mE,hj] at h1
  cases h1
  exact ⟨c,hc,h2⟩
 have uniq: ∀(j1 j2:Nat) id,pl[j1]? =some (.blk id)→pl[j2]? =some (.blk id)→j1=j2:=by
  intro j1 j2 id h1 h2
  have m1:(pl.map Place.id)[j1]? =some id:=by rw[hY,h1];rfl
  have m2:(pl.map Place.id)[j2]? =some id:=by rw[hY,h2];rfl
  obtain ⟨z1,z2⟩:=bH.1 m1
  obtain ⟨z3,z4⟩:=bH.1 m2
  exact (List.getElem_inj jF).1 (z2.trans z4.symm)
 have cls: ∀id,(∃i b,id=nb+i∧bs[pl.length+i]? =some b∧iS id=some (uO σ b)∧hp id=none∧β' id=cA (pl.length+i))∨
   (∃(j:Nat) (b b' c b0:ao),pl[j]? =some (.blk id)∧bs[j]? =some b∧hp0 j=some c∧eP P w β hp (.blk id) (o j) c∧hp id=some b0∧b0.le b'∧iS id=some b'∧im σ b b'∧BW hp (id,b')∧β' id=β id∧c.le b∧(b≠ .dead→cA j=β id))∨
   (iS id=hp id∧(∀j:Nat,pl[j]? ≠some (.blk id))∧β' id=β id):=by
  intro id
  by_cases hm: ∃b,(id,b)∈fr++bk
  ·obtain ⟨b,hm⟩:=hm
   obtain ⟨b',Gu,he⟩:=Gr (hp:=hp) hm
   rw[L9] at he
   rcases cZ.1 Gu with h|h
   ·have h0:=tM _ h
    have pL:β' id=cA (pl.length+(id-nb)):=ag ⟨_,h,rfl⟩
    rw[BX] at h
    obtain ⟨i,b1,k1,k2⟩:=Ud h
    rw[ja] at k1
    cases k2
    exact .inl ⟨i,b1,rfl,k1,he,h0,by rw[pL];congr 2;omega⟩
   ·obtain ⟨j,b1,q1,q2,q3,q4⟩:=Hh _ h
    obtain ⟨c,c1,c2⟩:=Ul j id q1
    obtain ⟨c3,b0,c4,c5⟩:=c2.L8
    obtain ⟨b2,d1,d2,d3⟩:=ye.blk j c c1
    rw[iV,q2] at d1
    cases d1
    refine .inr (.inl ⟨j,b1,b',c,b0,q1,q2,c1,c2,c4,c2.ad2 c4 d2 q3 q4,he,q3,q4,ah ?_,d2,fun h=>(d3 h).trans c3⟩)
    rintro ⟨q,hq,hqe⟩
    rw[←hqe,tM q hq] at c4
    cases c4
  ·refine .inr (.inr ⟨?_,fun j hj=> ?_,ah ?_⟩)
   ·rcases u3 (hp:=hp) (l:=fr++bk) (id:=id) with h|⟨b,hb,_⟩
    ·rw[L9] at h;exact h
    ·exact absurd ⟨b,hb⟩ hm
   ·obtain ⟨aJ,b,e,hb⟩:=oN j _ hj
    cases e
    exact hm ⟨b,cZ.2 (.inr hb)⟩
   ·rintro ⟨q,hq,rfl⟩
    exact hm ⟨q.2,cZ.2 (.inl hq)⟩
 have Um: ∀b,pK P w o hp0 b→∃(j id:Nat) (b1:ao),pl[j]? =some (.blk id)∧hp id=some b1∧bL P w (β id) b1 b∧∀e es,b1≠ .arr e es true:=by
  rintro b ⟨j,c,hc,ho⟩
  obtain ⟨p,h1,h2⟩:=hl j c hc
  rw[mE] at h1
  obtain ⟨id,b2,rfl,_⟩:=oN j p h1
  obtain ⟨b1,k1,k2,k3⟩:=h2.vq ho
  exact ⟨j,id,b1,h1,k1,k2,k3⟩
 have other: ∀id blk b,hp id=some blk→bL P w (β id) blk b→(∀j:Nat,pl[j]? ≠some (.blk id))→¬pK P w o hp0 b∧w'.heap[b]? =w.heap[b]? ∧(I2 b→I b):=by
  intro id blk b e1 e3 e4
  have pM: ¬pK P w o hp0 b:=by
   intro hx
   obtain ⟨j,aJ,b1,i1,i2,i3,_⟩:=Um b hx
   have:=S.h.inj id aJ _ _ b e1 i2 e3 i3
   subst this
   exact e4 j i1
  have aR:=S.h.lt e1 e3
  refine ⟨pM,Sc.cJ b aR pM,fun h=> ?_⟩
  rcases Sc.new b h with h|h|h
  ·exact h
  ·exact absurd h pM
  ·omega
 have tH:qN σ cA (ki bs) β' iS:=by
  refine ⟨fun j b hj=> ?_,fun j hj=> ?_,fun j id ver path hj=> ?_⟩
  ·rw[iV] at hj
   by_cases cp:j<pl.length
   ·obtain ⟨id,b1,e,mB⟩:=oN j _ (bZ cp)
    have Hi:pl[j]? =some (.blk id):=by rw[bZ cp,e]
    have Ma:eY σ j=some (.blk id):=by rw[sh];exact pJ (by rw[mE];exact Hi)
    rcases cls id with ⟨i,b2,c1,c2,c3,c4,c5⟩|⟨j',b2,b',c,b0,q1,q2,q3,q4,q5,q6,q7,q8,q9,qO,yf,si⟩|⟨c1,c2,c3⟩
    ·obtain ⟨c,d1,d2⟩:=Ul j id Hi
     obtain ⟨_,b0,d3,_⟩:=d2.L8
     rw[d3] at c4;cases c4
    ·obtain rfl:=uniq _ _ _ q1 Hi
     rw[hj] at q2;cases q2
     exact ⟨id,b',Ma,q7,q8,fun h=>qO.trans (si h).symm⟩
    ·exact absurd Hi (c2 j)
   ·have Un:=(bH.1 hj).1
    have Ma:eY σ j=some (.blk (nb+(j-pl.length))):=by
     rw[sh,mE,kh (by omega)]
     exact Hg (by omega)
    have hm:(nb+(j-pl.length),uO σ b)∈fr:=by
     rw[BX]
     refine Ue ?_
     rw[ja,show pl.length+(j-pl.length)=j by omega]
     exact hj
    rcases cls (nb+(j-pl.length)) with ⟨i,b2,c1,c2,c3,c4,c5⟩|⟨j',b2,b',c,b0,q1,q2,q3,q4,q5,q6,q7,q8,q9,qO,yf,si⟩|⟨c1,c2,c3⟩
    ·have hi:i=j-pl.length:=by omega
     subst hi
     rw[show pl.length+(j-pl.length)=j by omega] at c2 c5
     rw[hj] at c2;cases c2
     exact ⟨_,_,Ma,c3,.of σ _,fun _=>c5⟩
    ·rw[tM _ hm] at q5;cases q5
    ·obtain ⟨b',Gu,he⟩:=Gr (hp:=hp) (l:=fr++bk) (cZ.2 (.inl hm))
     rw[L9,c1,tM _ hm] at he
     cases he
  ·rw[iV] at hj
   have:=List.getElem?_eq_none_iff.1 hj
   rw[sh,mE,List.getElem?_eq_none_iff,bO,L7]
   omega
  ·rw[sh,mE] at hj
   by_cases cp:j<pl.length
   ·rw[kT cp] at hj
    obtain ⟨aJ,b1,e,_⟩:=oN j _ hj
    cases e
   ·have Un:j-pl.length<bs.length-pl.length:=by
     have:=(bH.1 hj).1
     rw[bO,L7] at this
     omega
    rw[kh (by omega),Hg Un] at hj
    cases hj
 have hle:Le P w I β hp w' I2 β' iS:=by
  refine ⟨ye.dO,ye.cJ,fun id blk ai=> ?_,fun id blk blk' b ai bS sj hb=> ?_,fun id e es av e' aW vers' b q i c t v e1 l ai bS hb aR hv ht hc=> ?_⟩
  ·rcases cls id with ⟨i,b2,c1,c2,c3,c4,c5⟩|⟨j',b2,b',c,b0,q1,q2,q3,q4,q5,q6,q7,q8,q9,qO,yf,si⟩|⟨c1,c2,c3⟩
   ·rw[ai] at c4;cases c4
   ·rw[ai] at q5;cases q5
    exact ⟨b',q7,q6,fun _=>qO⟩
   ·exact ⟨blk,c1.trans ai,ao.le_refl _,fun _=>c3⟩
  ·rcases cls id with ⟨i,b2,c1,c2,c3,c4,c5⟩|⟨j',b2,b',c,b0,q1,q2,q3,q4,q5,q6,q7,q8,q9,qO,yf,si⟩|⟨c1,c2,c3⟩
   ·rw[ai] at c4;cases c4
   ·rw[q7] at bS;cases bS
    exact ye.size j' c b2 b q3 (by rw[iV];exact q2) (q8.Uh sj) (q4.L8.1.trans hb)
   ·rw[c1,ai] at bS
    cases bS
    simp only[bsize,(other id blk b ai (.root sj hb) c2).2.1]
  ·rcases cls id with ⟨i2,b2,c1,c2,c3,c4,c5⟩|⟨j',b2,b',c',b0,q1,q2,q3,q4,q5,q6,q7,q8,q9,qO,yf,si⟩|⟨c1,c2,c3⟩
   ·rw[ai] at c4;cases c4
   ·rw[q7] at bS;cases bS
    obtain ⟨_,_,vr,_,_,k1,k2⟩:=q9 ⟨_,_,_,rfl⟩
    change hp id=_ at k1
    rw[ai] at k1;cases k1
    cases k2
    rw[Ui aR] at hv
    omega
   ·rw[c1,ai] at bS
    cases bS
    exact ⟨l,rfl,hc.mono fun _ _ _ _ h=>(other id _ _ ai (.row hb h) c2).2.1⟩
 have place: ∀id blk b,iS id=some blk→bL P w' (β' id) blk b→(∃j c,ki bs j=some c∧bL P w' (cA j) c b∧eY σ j=some (.blk id))∨(b<w.heap.size∧¬pK P w o hp0 b∧hp id=some blk∧bL P w (β id) blk b):=by
  intro id blk b e1 e3
  rcases cls id with ⟨i,b2,c1,c2,c3,c4,c5⟩|⟨j',b2,b',c,b0,q1,q2,q3,q4,q5,q6,q7,q8,q9,qO,yf,si⟩|⟨c1,c2,c3⟩
  ·rw[c3] at e1;cases e1
   rw[c5] at e3
   refine .inl ⟨pl.length+i,b2,by rw[iV];exact c2,(im.of σ b2).vq e3,?_⟩
   have:=(bH.1 c2).1
   rw[sh,mE,kh (by omega),Hg (by omega),c1]
   congr 3
   omega
  ·rw[q7] at e1;cases e1
   have sj:b2≠ .dead:=q8.Uh e3.alive
   rw[qO,←si sj] at e3
   exact .inl ⟨j',b2,by rw[iV];exact q2,q8.vq e3,by rw[sh];exact pJ (by rw[mE];exact q1)⟩
  ·rw[c1] at e1
   rw[c3] at e3
   have:=e3.mono (w:=w) fun b hb=>(other id blk b e1 hb c2).2.1
   exact .inr ⟨S.h.lt e1 this,(other id blk b e1 this c2).1,e1,this⟩
 have tA: ∀b,pK P w o hp0 b∨w.heap.size≤b→M b∨B≤b:=by
  rintro b (h|h)
  ·obtain ⟨j,id,b1,i1,i2,i3,_⟩:=Um b h
   exact S.h.own id b1 b i2 i3
  ·exact .inr (lA S.size h)
 have Mb: ∀j c b,ki bs j=some c→bL P w' (cA j) c b→pK P w o hp0 b∨w.heap.size≤b:=fun j c b h1 h2=>Sc.h.own j c b h1 h2
 refine ⟨β',hle,⟨⟨fun id blk ai=> ?_,fun i1 i2 b1 b2 b e1 e2 f1 f2=> ?_,fun id blk b ai hb=> ?_,Sc.h.ko⟩,fun b hb hM=> ?_,lA S.size Sc.size,fun b hb=> ?_,⟨Sc.io.1.trans S.io.1,Sc.io.2.trans S.io.2⟩⟩,tH⟩
 ·rcases cls id with ⟨i,b2,c1,c2,c3,c4,c5⟩|⟨j',b2,b',c,b0,q1,q2,q3,q4,q5,q6,q7,q8,q9,qO,yf,si⟩|⟨c1,c2,c3⟩
  ·rw[c3] at ai;cases ai
   rw[c5]
   exact tH.Ug (Sc.h.rel _ b2 (by rw[iV];exact c2)) (.of σ b2)
  ·rw[q7] at ai;cases ai
   have:=tH.Ug (Sc.h.rel j' b2 (by rw[iV];exact q2)) q8
   by_cases sj:b2= .dead
   ·subst sj
    cases q8
    exact .dead
   ·rw[qO,←si sj]
    exact this
  ·rw[c1] at ai
   rw[c3]
   exact (S.h.rel id blk ai).mono hle fun b hb=>(other id blk b ai hb c2).2
 ·rcases place i1 b1 b e1 f1 with ⟨j1,c1,g1,g2,g3⟩|⟨g1,g2,g3,g4⟩<;>rcases place i2 b2 b e2 f2 with ⟨j2,c2,k1,k2,k3⟩|⟨k1,k2,k3,k4⟩
  ·have:=Sc.h.inj j1 j2 c1 c2 b g1 k1 g2 k2
   subst this
   rw[g3] at k3
   cases k3
   rfl
  ·rcases Mb j1 c1 b g1 g2 with h|h
   ·exact absurd h k2
   ·omega
  ·rcases Mb j2 c2 b k1 k2 with h|h
   ·exact absurd h g2
   ·omega
  ·exact S.h.inj i1 i2 _ _ b g3 k3 g4 k4
 ·rcases place id blk b ai hb with ⟨j1,c1,g1,g2,g3⟩|⟨g1,g2,g3,g4⟩
  ·exact tA b (Mb j1 c1 b g1 g2)
  ·exact S.h.own id blk b g3 g4
 ·refine (Sc.cJ b (rD hb S.size) fun hx=> ?_).trans (S.cJ b hb hM)
  rcases tA b (.inl hx) with h|h
  ·exact hM h
  ·omega
 ·rcases Sc.new b hb with h|h|h
  ·exact S.new b h
  ·exact .inr (tA b (.inl h))
  ·exact .inr (tA b (.inr h))
end
section
variable {P:Program} {A:cW} {w w':World} {I I' I2:Nat→Prop} {μ β β' cA:Nat→Option Nat} {hp hp' hp0 bI:Nat→Option ao} {C:af} {B:Nat} {M:Nat→Prop} {w0:Start}
theorem Uo (hp:Nat→Option ao): ∀(a b:List (Nat × ao)),b9 hp (a++b)=b9 (b9 hp b) a
 | [],b=>rfl
 | (i,x)::a,b=>by simp only[List.cons_append,b9,Uo hp a b]
theorem yg {hp:Nat→Option ao} {l:List (Nat × ao)} {id:Nat} (h: ∀q∈l,q.1≠id):b9 hp l id=hp id:=by
 rcases u3 (hp:=hp) (l:=l) (id:=id) with h1|⟨b,hb,_⟩
 ·exact h1
 ·exact absurd rfl (h _ hb)
def BY (P : Program) : Prop := ∀ (f : Nat) fn, P.funcs[f]? = some fn → (fn.name == "runtime.NumGoroutine") = false
def Up (P:Program) (f:FuncId) (e:TypeId):Prop:=
 (∀args w,(callFunc f args).run P w= .ok (.enter f args) w)∧∃t,P.underlying t=some (.slice e)∧
  ∀(s:Value) (w:World) (Q:Ending→World→Prop),(s= .slice none 0 0→Q (.returned (.slice none 0 0)) w)→
   (∀a n c,s= .slice (some a) n c→∃v w',(Builtin.append_ #[t,t] t #[.slice (some ⟨w.heap.size,0,none⟩) 0 0,s]).run P (w.alloc (.cells #[] e))= .ok v w'∧Q (.returned v) w')→
   (s= .slice none 0 0∨∃a n c,s= .slice (some a) n c)→Calls P f #[s] w Q
structure jn (P:Program) (A:cW):Prop where
 count:BY P
 ext: ∀f T,A.ext f=some T→∀(b:Nat) (C:Array Value) (w:World),w.heap[b]? =some (.cells C T (0,0))→C.size=P.cellsOf T→(C[0]? =some (.pointer none)∨C[0]? =some (.pointer (some ⟨b,0,none⟩)))→
  (callFunc f #[.pointer (some ⟨b,0,none⟩)]).run P w= .ok (.enter f #[.pointer (some ⟨b,0,none⟩)]) w∧
  Calls P f #[.pointer (some ⟨b,0,none⟩)] w fun e w'=>e= .returned (.tuple #[])∧(w'=w∨w'=w.setCell ⟨b,0,none⟩ (.pointer (some ⟨b,0,none⟩)))
 idle: ∀f,A.idle f=true→(∀args w,(callFunc f args).run P w= .ok (.enter f args) w)∧
  ∀args w,CallsD P f args .returning w fun e u' w'=>(∃v,e= .returned v)∧u'= .returning∧w'=w
 pj: ∀f e,A.pj f=some e→Up P f e
theorem jn.here {P:Program} {A:cW} (h:jn P A) (f id:Nat):jn P (A.here f id):=⟨h.count,h.ext,h.idle,h.pj⟩
def BZ (E:FuncId→Bool) (d:Deferred):Prop:= ∃f cap,d.target= .fn (.func f) cap∧E f=true
theorem Mc {P:Program} {A:cW} (hP:jn P A) {fn:Func} {tmps:Array Value} {R:Ending→World→Prop} {w:World} {v:Value} (hv:(results fn tmps).run P w= .ok v w) (hR:R (.returned v) w):
  ∀ds:List Deferred,(∀d∈ds,BZ A.idle d)→Leaves P fn tmps R ds .returning w
 | [],_=>⟨v,hv,hR⟩
 | d::ds,h=>by
  obtain ⟨f,cap,ht,hf⟩:=h d (by simp)
  obtain ⟨k1,k2⟩:=hP.idle f hf
  obtain ⟨t,Uq⟩:=d
  simp only at ht
  subst ht
  refine leaves_cons (f:=f) (args:=Uq++cap) (by simp) ?_ ?_
  ·simp only[invoke];exact k1 _ w
  ·refine (k2 (Uq++cap) w).mono fun e u' w' hr=> ?_
   obtain ⟨⟨v',rfl⟩,rfl,rfl⟩:=hr
   exact Mc hP hv hR ds fun d hd=>h d (lC _ hd)
def B0 (P:Program) (A:cW) (o:Oper) (a:Act) (w:World) (I:Nat→Prop) (β:Nat→Option Nat) (hp:Nat→Option ao) (B:Nat) (M:Nat→Prop) (w0:Start) (r:R):Prop:=
 ∀(next:Act→World→Prop) (Q:Exit→Act→World→Prop),
  (∀v w' I' β' ds,Le P w I β hp w' I' β' (b9 hp r.upd)→aO P w' I' β' (b9 hp r.upd) B M w0→au P w' I' β' (b9 hp r.upd) v r.v→(∀d∈ds,d∈a.defers∨BZ A.idle d)→next ({a with defers:=ds}.put o.dst v) w')→o.wp P a w next Q
theorem qD.step {o:Oper} {a:Act} {r:R} (h:qD P ((execOp a.eval o).run P w) w I β hp B M w0 r):B0 P A o a w I β hp B M w0 r:=by
 obtain ⟨v,w',I',β',h1,h2,h3,h4⟩:=h
 intro next Q hn
 unfold Oper.wp
 rcases h1 with h1|⟨h1,rfl⟩
 ·rw[h1];exact hn v w' I' β' a.defers h2 h3 h4 fun d hd=> .inl hd
 ·rw[h1];exact hn _ w' I' β' a.defers h2 h3 h4 fun d hd=> .inl hd
theorem Ur: ∀(l:List (Nat × VS)),pn l=tu (l.map (·.2))
 | []=>rfl
 | (_,s)::l=>by simp only[pn,dZ,tu,Ur l]
theorem ad3 (hC:lO P A C) (S:aO P w I β hp B M w0) (hg:iE P A.aL w I) {vals:List Value} {args:List V} {nb key:Nat} {f:FuncId} {r:R} {rd:List Nat} (hlen:vals.length=args.length)
  (c8: ∀(j:Nat) v x,vals[j]? =some v→args[j]? =some x→au P w I β hp v x) (h:(A9 P A nb key f args).run C hp=some (r,rd)):
  ∃fn c,P.funcs[f]? =some fn∧fn.body=some c∧Calls P f vals.toArray w fun e w'=> ∃v I' β',e= .returned v∧Le P w I β hp w' I' β' (b9 hp r.upd)∧aO P w' I' β' (b9 hp r.upd) B M w0∧au P w' I' β' (b9 hp r.upd) v r.v:=by
 unfold A9 at h
 obtain ⟨Us,h0⟩:=aP h
 clear h
 rw[bj] at Us
 subst Us
 obtain ⟨h1,j5,d1,u1,a1,a2,a3,a5,a4⟩:=L3 S h0 hlen c8
 obtain ⟨h2,tL,d2,u2,b1,b2,b3,b4⟩:=T4 S a1
 clear h0 a1
 obtain ⟨hc,h3⟩:=aP b1
 clear b1
 simp only[aU,bj,pf] at hc
 obtain ⟨bM,Hf⟩:=hc
 have pN:=a2.trans b2
 have mf:h2.ds=d1++d2:=by have:=pN.ds;simpa using this
 have Hj:h2.upd=u1++u2:=by have:=pN.upd;simpa using this
 have jF:(h2.pl.map Place.id).Nodup:=pN.nodup (by simp)
 obtain ⟨c1,o,c2,c3⟩:=b4 []
 simp only[dc] at c1 c2 c3
 cases B1:C key h2.ds with
 | none=>
  simp only[Rd.run,B1] at h3
  cases h3
 | some es=>
  have qC: ∃fK,(A8 P (A.so key es) nb h2 (A.lv key es)).run C hp=some (r,fK):=by
   obtain ⟨x,hx,e⟩:=bind_some h3
   rw[B1] at hx
   cases hx
   unfold cW.so cW.lv
   cases cK:A.alt key with
   | none=>rw[cK] at e;exact ⟨_,e⟩
   | some S2=>
    rw[cK] at e
    simp only[Rd.run] at e
    cases hb:(V.nth es 0).toBool<;>(rw[hb] at e;exact ⟨_,e⟩)
  clear h3
  obtain ⟨fK,h3⟩:=qC
  unfold A8 at h3
  simp only at h3
  generalize iT:fx (A.so key es).bf ((A.lv key es).drop (pn (A.so key es).bQ))=bs at h3
  generalize sh:h2.pl++tv nb (bs.length-h2.pl.length)=σ at h3
  generalize BX:rM σ nb (bs.drop h2.pl.length)=fr at h3
  obtain ⟨p0,bk,rd4,p1,p2,_,p3⟩:=Uc h3
  obtain ⟨tM,rd5,p4⟩:=Uf p1
  obtain rfl:=aY p4
  have rV:h2.pl.length≤bs.length:=by rw[dV] at p0;omega
  have Hh: ∀q∈bk,∃(j:Nat) (b:ao),h2.pl[j]? =some (.blk q.1)∧bs[j]? =some b∧im σ b q.2∧BW hp q:=by
   intro q hq
   rcases p2 q hq with hx|⟨j,b,k1,k2,k3,k4⟩
   ·simp at hx
   ·have hj:=(bH.1 k1).1
    rw[fU hj] at k2
    exact ⟨j,b,k1,k2,k3,k4⟩
  obtain ⟨fn,c,hf,hb,Md⟩:=hC key h2.ds es B1
  refine ⟨fn,c,hf,hb,?_⟩
  have hmb:fx (A.sin key).bf (h2.ds.drop (pn (A.sin key).bQ))=fx (A.sin key).bf d2:=by
   rw[mf,Ur,oM a3]
  have Me:(bA (A.sin key) h2.ds).hp=ki (fx (A.sin key).bf d2):=by
   simp only[bA,mk,hmb]
  have hl: ∀j blk,(bA (A.sin key) h2.ds).hp j=some blk→∃p,eY h2.pl j=some p∧eP P w β hp p (o j) blk:=by
   intro j blk hj
   rw[Me,iV] at hj
   obtain ⟨p,k1,k2⟩:=c2 j blk hj
   rw[hO] at k1
   exact ⟨p,k1,k2⟩
  have hd: ∀j,j<h2.pl.length→∃blk,(bA (A.sin key) h2.ds).hp j=some blk:=by
   intro j hj
   rw[Me,iV]
   exact ⟨_,bZ (by rw[c1,←bM];exact hj)⟩
  have Ut:BR P w β hp h2.pl o (bA (A.sin key) h2.ds).hp:=by
   intro j p hj
   obtain ⟨blk,k1⟩:=hd j (by rw[mE] at hj;exact (bH.1 hj).1)
   obtain ⟨p',k2,k3⟩:=hl j blk k1
   rw[hj] at k2
   cases k2
   exact ⟨blk,k1,k3⟩
  obtain ⟨sa,S1⟩:=Bp S pN.G9
  rw[←Hj] at sa S1
  have i1: ∀b,I b→jz P w I β hp h2.upd b:=fun b h=> .inl h
  have entry:=adW (hp0:=(bA (A.sin key) h2.ds).hp) S jF Hf hl (fun dp j blk hj=>by
   have gY:=hj
   rw[Me,iV] at gY
   exact c3 (jz P w I β hp h2.upd) o _ i1 (fun q hq b hb=> .inr ⟨q,by rw[Hj];exact cZ.2 (.inr hq),hb⟩) h2.pl [] (by simp) Ut j blk gY (dp j blk hj)) S1.h.ko
  have ad4:vals.length=(A.sin key).bQ.length:=by rw[hlen,←a5];simp
  have ha:=Md w (jz P w I β hp h2.upd) o vals entry (hg.mono i1 fun _ _=>rfl) ad4 fun j v x hj hx=>by
   rw[mf] at hx
   exact (((a4.later b2) (jz P w I β hp h2.upd) o _ i1 (fun q hq b hb=> .inr ⟨q,by rw[Hj];exact hq,hb⟩) h2.pl [] (by simp) Ut) d2).2 j v x hj hx
  refine ha.mono fun e w' B4=> ?_
  obtain ⟨v,I2,cA,rfl,ha⟩:=B4
  have yh:(bA (A.so key es) (A.lv key es)).hp=ki bs:=by simp only[bA,mk,iT]
  cases ad5:(A.so key es).safe P with
  | true=>
   simp only[cond_true,dc]
   have eE: ∀b,I b→I2 b:=fun b h=>ha.le.dO b (i1 b h)
   obtain ⟨s1,s2⟩:=ad0 ad5 eE ha.yd i1
   have ye:lN w I o (bA (A.sin key) h2.ds).hp w' I cA (ki bs):=by
    rw[←yh]
    exact ⟨fun _ h=>h,fun b h=>ha.le.cJ b (i1 b h),ha.le.blk,ha.le.size⟩
   obtain ⟨β',k1,k2,k3⟩:=Uk S sh.symm BX.symm jF rV p3 Hh hl hd (by rw[←yh];exact ⟨s1.h,s1.cJ,s1.size,fun b h=> .inl h,s1.io⟩) ye tM
   exact ⟨v,I,β',rfl,k1,k2,k3.val (by have:=s2 v ha.res;rw[yh] at this;exact this)⟩
  | false=>
   simp only[cond_false]
   rw[←dj,Uo]
   have pM: ∀p∈h2.pl,b9 hp h2.upd p.id=hp p.id:=fun p hp=>yg fun q hq e=>
    He Hf (fG.2 ⟨q,hq,rfl⟩) (e▸fG.2 ⟨p,hp,rfl⟩)
   have ad6: ∀q∈bk,∃(j:Nat) (b:ao),h2.pl[j]? =some (.blk q.1)∧bs[j]? =some b∧im σ b q.2∧BW (b9 hp h2.upd) q:=by
    intro q hq
    obtain ⟨j,b,k1,k2,k3,k4⟩:=Hh q hq
    refine ⟨j,b,k1,k2,k3,fun hn=> ?_⟩
    have:=pM _ (kg k1)
    simp only[Place.id] at this
    rw[this]
    exact k4 hn
   have xC: ∀j blk,(bA (A.sin key) h2.ds).hp j=some blk→∃p,eY h2.pl j=some p∧eP P w β (b9 hp h2.upd) p (o j) blk:=by
    intro j blk hj
    obtain ⟨p,k1,k2⟩:=hl j blk hj
    exact ⟨p,k1,k2.other (pM p (by rw[mE] at k1;exact kg k1))⟩
   have ad7: ∀q∈fr,b9 hp h2.upd q.1=none:=by
    intro q hq
    rw[yg fun q' B5 e=> ?_]
    ·exact tM q hq
    ·obtain ⟨e1,cO,_,h5⟩:=pN.G9 q' (Hj▸B5)
     rw[e,tM q hq] at h5
     rcases h5 with ⟨_,h5⟩|⟨_,h5⟩<;>cases h5
   obtain ⟨β',k1,k2,k3⟩:=Uk S1 sh.symm BX.symm jF rV p3 ad6 xC hd (by rw[←yh];exact ha.yd) (by rw[←yh];exact ha.le) ad7
   exact ⟨v,I2,β',rfl,sa.trans k1,k2,k3.val (by have:=ha.res;rw[yh] at this;exact this)⟩
theorem Uu (hC:lO P A C) (hP:jn P A) (S:aO P w I β hp B M w0) (hg:iE P A.aL w I) {a:Act} {nb key:Nat} {o:Oper} {f:FuncId} {vals:List Value} {args:List V} (hlen:vals.length=args.length)
  (c8: ∀(j:Nat) v x,vals[j]? =some v→args[j]? =some x→au P w I β hp v x) {r:R} {rd:List Nat} (h:(A9 P A nb key f args).run C hp=some (r,rd))
  (hex:(execOp a.eval o).run P w=(callFunc f vals.toArray).run P w):B0 P A o a w I β hp B M w0 r:=by
 intro next Q hn
 obtain ⟨fn,c,hf,hb,Md⟩:=ad3 hC S hg hlen c8 h
 unfold Oper.wp
 rw[hex,MuLone.run_callFunc_enter hf (hP.count f _ hf) hb,Oper.upon_enter]
 refine Md.mono fun e w' B4=> ?_
 obtain ⟨v,I2,cA,rfl,k1,k2,k3⟩:=B4
 exact hn v w' I2 cA a.defers k1 k2 k3 fun d hd=> .inl hd
theorem lJ.args {a:Act} {sl:Nat→V} (hs:lJ P w I β hp a sl) (hg:iE P A.aL w I) {args:Array Operand} {ts:Array TypeId} (bh:args.size=ts.size):
  (args.map a.eval).toList.length=((args.toList.zip ts.toList).map fun p=>bc P A.aL p.2 sl p.1).length∧
  ∀(j:Nat) v x,(args.map a.eval).toList[j]? =some v→((args.toList.zip ts.toList).map fun p=>bc P A.aL p.2 sl p.1)[j]? =some x→au P w I β hp v x:=by
 refine ⟨by simp;omega,fun j v x hv hx=> ?_⟩
 simp only[Array.toList_map,hY,List.getElem?_zip_eq_some,AP] at hv hx
 obtain ⟨x1,B6,rfl⟩:=hv
 obtain ⟨⟨y1,t1⟩,⟨Uv,_⟩,rfl⟩:=hx
 rw[B6] at Uv
 cases Uv
 exact hs.ev hg t1 _
theorem Uw {vs us:List Value} {xs ys:List V} (h1:vs.length=xs.length) (h2: ∀(j:Nat) v x,vs[j]? =some v→xs[j]? =some x→au P w I β hp v x)
  (h3: ∀(j:Nat) v x,us[j]? =some v→ys[j]? =some x→au P w I β hp v x) (j:Nat) (v:Value) (x:V) (hv:(vs++us)[j]? =some v) (hx:(xs++ys)[j]? =some x):au P w I β hp v x:=by
 by_cases hj:j<vs.length
 ·rw[kT hj] at hv
  rw[kT (by omega)] at hx
  exact h2 j v x hv hx
 ·rw[kh (by omega)] at hv
  rw[kh (by omega)] at hx
  rw[h1] at hv
  exact h3 _ v x hv hx
theorem ad8 (hP:jn P A) (S:aO P w I β hp B M w0) (hg:iE P A.aL w I) {a:Act} {sl:Nat→V} (hs:lJ P w I β hp a sl) {dst:Option Tmp} {ty e:TypeId} {pos:String} {after:Array Edge} {guard:Option (Nat × Bool)} {f:FuncId}
  {args:Array Operand} {argTypes:Array TypeId} {nb:Nat} {r:R} {rd:List Nat} (mD:A.pj f=some e)
  (h:((match args.toList with
    | [x]=> .aI (dt P e) (tq e (bc P A.aL ty sl x) fun xs=> .aI (Nat.ble (xs.length*P.bytesOf e) b8) (jW nb (.arr e xs false) (.whole e nb) []))
    | _=> .fail):Rd R).run C hp=some (r,rd)):B0 P A (Oper.mk dst (.call (Go.Call.mk (.value (.func f)) args argTypes)) ty pos after guard) a w I β hp B M w0 r:=by
 cases ha:args.toList with
 | nil=>rw[ha] at h;cases h
 | cons x l=>
  rw[ha] at h
  cases l with
  | cons _ _=>cases h
  | nil=>
   simp only at h
   have e1:args= #[x]:=by rw[←Array.toArray_toList (xs:=args),ha]
   subst e1
   have hx:=hs.ev hg ty x
   obtain ⟨ax,h⟩:=aP h
   have fin: ∀{w1:World} {Hk:Nat→Option Nat},(∀id blk,hp id=some blk→eO P w1 I Hk hp (Hk id) blk)→au P w1 I Hk hp (a.eval x) (bc P A.aL ty sl x)→∃xs,(((∃a',a.eval x= .slice a' 0 0)∧xs=[])∨∃a' c news,Row P w1 I e (a.eval x) xs a' c news)∧
     xs.length*P.bytesOf e≤b8∧hp nb=none∧r=⟨.whole e nb,[(nb,.arr e xs false)]⟩:=by
    intro w1 Hk h1 h2
    obtain ⟨xs,mC,l,h⟩:=GU h1 ax h2 h
    obtain ⟨fp,h⟩:=aP h
    rw[dN] at fp
    obtain ⟨hn,rfl⟩:=oH h
    exact ⟨xs,mC,fp,hn,rfl⟩
   obtain ⟨c1,t,hu,c2⟩:=hP.pj f e mD
   intro next Q yi
   unfold Oper.wp
   have e2:(execOp a.eval ⟨dst,.call ⟨.value (.func f),#[x],argTypes⟩,ty,pos,after,guard⟩).run P w= .ok (.enter f #[a.eval x]) w:=by
    have fL:a.eval (.func f)= .func (.func f) #[] #[]:=rfl
    simpa[execOp,resolve,fL,Deferred.ofValue,invoke] using c1 #[a.eval x] w
   rw[e2,Oper.upon_enter]
   refine c2 _ w _ (fun B7=> ?_) (fun b n c xQ=> ?_) ?_
   ·obtain ⟨xs,mC,fp,hn,rfl⟩:=fin S.h.rel hx
    have gn:xs=[]:=by
     rcases mC with ⟨_,h⟩|⟨a,c,news,hr⟩
     ·exact h
     ·have:=hr.val.symm.trans B7
      cases this
    subst gn
    obtain ⟨a1,a2⟩:=Gv S e hn
    exact yi _ w I _ a.defers a1 a2 (.ep (dw _ _ _) (dw _ _ _)) fun d hd=> .inl hd
   ·obtain ⟨m1,m2⟩:=acb (w':=w.alloc (.cells #[] e)) S (fun b hb=>heap_alloc_old w _ b hb) (by simp) ⟨rfl,rfl⟩
    obtain ⟨xs,mC,fp,hn,rfl⟩:=fin m2.h.rel (hx.mono m1)
    obtain ⟨v,w',β',a1,a2,a3,a4⟩:=Lq (ty:=t) (a0:=some ⟨w.heap.size,0,none⟩) m2 hu ax hn fp mC
    exact ⟨v,w',a1,yi v w' I β' a.defers (m1.trans a2) a3 a4 fun d hd=> .inl hd⟩
   ·obtain ⟨xs,mC,fp,hn,rfl⟩:=fin S.h.rel hx
    rcases mC with ⟨⟨b,h⟩,_⟩|⟨b,c,news,hr⟩
    ·rw[h]
     cases b with
     | none=>exact .inl rfl
     | some b=>exact .inr ⟨_,_,_,rfl⟩
    ·exact .inr ⟨_,_,_,hr.val⟩
theorem ad9 (hP:jn P A) (S:aO P w I β hp B M w0) (hg:iE P A.aL w I) {a:Act} {sl:Nat→V} (hs:lJ P w I β hp a sl) {dst:Option Tmp} {ty T0:TypeId} {pos:String} {after:Array Edge} {guard:Option (Nat × Bool)} {f:FuncId}
  {args:Array Operand} {argTypes:Array TypeId} {r:R} {rd:List Nat} (B8:A.ext f=some T0)
  (h:((match args.toList with
   | [x]=>
    match bc P A.aL ty sl x with
    | .ptr id i c=>Rd.get id fun
     | some (.var T cs)=> .aI (Nat.beq T T0&&(qu P T&&(Nat.beq cs.length (P.cellsOf T)&&(Nat.beq i 0&&Nat.beq c 0)))) (.ret ⟨.bC [],[(id,.var T (.undef::cs.tail))]⟩)
     | _=> .fail
    | _=> .fail
   | _=> .fail):Rd R).run C hp=some (r,rd)):B0 P A (Oper.mk dst (.call (Go.Call.mk (.value (.func f)) args argTypes)) ty pos after guard) a w I β hp B M w0 r:=by
 cases ha:args.toList with
 | nil=>rw[ha] at h;cases h
 | cons x l=>
  rw[ha] at h
  cases l with
  | cons _ _=>cases h
  | nil=>
   simp only at h
   have e1:args= #[x]:=by rw[←Array.toArray_toList (xs:=args),ha]
   subst e1
   have hx:=hs.ev hg ty x
   cases gp:bc P A.aL ty sl x<;>rw[gp] at h hx<;>simp only at h<;>first|(cases h;done)|skip
   rename_i id i c
   obtain ⟨l,h1⟩:=run_get h
   cases ai:hp id with
   | none=>rw[ai] at h1;cases h1
   | some blk=>
    rw[ai] at h1
    cases blk<;>simp only at h1<;>first|(cases h1;done)|skip
    rename_i T cs
    obtain ⟨h2,h3⟩:=aP h1
    simp only[aU,bj] at h2
    obtain ⟨rfl,bB,pO,rfl,rfl⟩:=h2
    obtain rfl:=aY h3
    obtain ⟨b,hb,he⟩:=hx.iU ai (by simp)
    have hr:=S.h.rel id _ ai
    rw[hb] at hr
    cases hr with
    | @var _ b' Ca _ aE hh bh hI gn ic=>
     cases aE
     have vh:a.eval x= .pointer (some ⟨b,0,none⟩):=by rw[he];simp[ao.sz]
     obtain ⟨q1,q2⟩:=hP.ext f T B8 b Ca w hh (bh.trans pO) (ic bB)
     have h0:0<Ca.size:=by
      rcases ic bB with k|k<;>exact (jb.1 k).1
     have pA:(V.undef::cs.tail).length=cs.length:=by
      cases cs with
      | nil=>rw[bh] at h0;simp at h0
      | cons _ _=>rfl
     have rel: ∀(C':Array Value),(∀j,0<j→C'[j]? =Ca[j]?)→∀(j:Nat) v y,C'[j]? =some v→(V.undef::cs.tail)[j]? =some y→au P w I β hp v y:=by
      intro C' xT j v y hj hy
      cases j with
      | zero=>simp at hy;subst hy;exact .undef
      | succ j=>
       rw[xT _ (by omega)] at hj
       refine gn (j+1) v y hj ?_
       cases cs with
       | nil=>rw[bh] at h0;simp at h0
       | cons _ _=>simpa using hy
     have fin: ∀w' C',(∀b',b'≠b→w'.heap[b']? =w.heap[b']?)→w'.heap[b]? =some (.cells C' T (0,0))→C'.size=Ca.size→w.heap.size≤w'.heap.size→w'.os=w.os∧w'.output=w.output→
       (∀j,0<j→C'[j]? =Ca[j]?)→(C'[0]? =some (.pointer none)∨C'[0]? =some (.pointer (some ⟨b,0,none⟩)))→
       Le P w I β hp w' I β (aV hp id (some (.var T (V.undef::cs.tail))))∧aO P w' I β (aV hp id (some (.var T (V.undef::cs.tail)))) B M w0:=by
      intro w' C' k1 k2 k3 k4 k5 k6 k7
      exact Gx (w':=w') (blk':= .var T (V.undef::cs.tail)) S ai (by simp) rfl hb hI (by simp) k1 (by rw[oB k2,oB hh,k3]) k4 k5 fun hle=>
       .var rfl k2 (by rw[k3,bh,pA]) hI (fun j v y hj hy=>(rel C' k6 j v y hj hy).mono hle) fun _=>k7
     intro next Q hn
     unfold Oper.wp
     have e2:(execOp a.eval ⟨dst,.call ⟨.value (.func f),#[x],argTypes⟩,ty,pos,after,guard⟩).run P w= .ok (.enter f #[.pointer (some ⟨b,0,none⟩)]) w:=by
      have fL:a.eval (.func f)= .func (.func f) #[] #[]:=rfl
      simpa[execOp,resolve,fL,Deferred.ofValue,invoke,vh] using q1
     rw[e2,Oper.upon_enter]
     refine q2.mono fun e w' B4=> ?_
     obtain ⟨rfl,hw⟩:=B4
     have Ux:Le P w I β hp w' I β (aV hp id (some (.var T (V.undef::cs.tail))))∧aO P w' I β (aV hp id (some (.var T (V.undef::cs.tail)))) B M w0:=by
      rcases hw with rfl|rfl
      ·exact fin w' Ca (fun _ _=>rfl) hh rfl (bN _) ⟨rfl,rfl⟩ (fun _ _=>rfl) (ic bB)
      ·refine fin (w.setCell ⟨b,0,none⟩ (.pointer (some ⟨b,0,none⟩))) (Ca.setIfInBounds 0 (.pointer (some ⟨b,0,none⟩))) (fun b' bX=> ?_) ?_ (by simp) (by simp[World.setCell]) ⟨rfl,rfl⟩ (fun j hj=> ?_) (.inr ?_)
       ·simp only[World.setCell,AO]
        rw[ah (fun e=>bX e.symm)]
       ·simp[World.setCell,AO,hh]
       ·rw[FH (by omega)]
       ·rw[Kp h0]
     exact hn (.tuple #[]) w' I β a.defers Ux.1 Ux.2 (.bC rfl fun j v y hj _=>by simp at hj) fun d hd=> .inl hd
theorem aea (hC:lO P A C) (hP:jn P A) (S:aO P w I β hp B M w0) (hg:iE P A.aL w I) {a:Act} {sl:Nat→V} (hs:lJ P w I β hp a sl) {ix nb:Nat} {o:Oper} {r:R} {rd:List Nat}
  (h:(gB P A sl ix nb o).run C hp=some (r,rd)):B0 P A o a w I β hp B M w0 r:=by
 cases hc:LQ o.op with
 | false=>exact (adE S hg hs hc h).step
 | true=>
  obtain ⟨dst,op,ty,pos,after,guard⟩:=o
  cases op<;>simp only[LQ] at hc<;>first|(cases hc;done)|skip
  case defer c=>
   obtain ⟨callee,args,argTypes⟩:=c
   cases callee with
   | invoke r m=>simp only[gB] at h;cases h
   | builtin b=>simp only[gB] at h;cases h
   | value f=>
   cases f with
   | tmp t=>
    simp only[gB] at h
    cases bB:sl t<;>rw[bB] at h<;>simp only at h<;>first|(cases h;done)|skip
    rename_i f xs ys
    obtain ⟨h1,h2⟩:=aP h
    obtain rfl:=aY h2
    have hv:=hs t
    rw[bB] at hv
    generalize vl:a.tmps.getD t undef=vt at hv
    cases hv with
    | @fn _ fs cs _ _ q1 q2 q3 q4=>
     intro next Q hn
     unfold Oper.wp
     have fL:a.eval (.tmp t)= .func (.func f) fs cs:=vl
     have e1:(execOp a.eval ⟨dst,.defer ⟨.value (.tmp t),args,argTypes⟩,ty,pos,after,guard⟩).run P w= .ok (.defer {target:= .fn (.func f) cs,args:=fs++args.map a.eval}) w:=by
      simp[execOp,resolve,fL,Deferred.ofValue]
     rw[e1,Oper.upon_defer]
     exact hn undef w I β _ (Le.refl w I β hp) S .undef fun d hd=>by
      rcases cH.1 hd with rfl|hd
      ·exact .inr ⟨f,cs,rfl,h1⟩
      ·exact .inl hd
   | func f=>simp only[gB] at h;cases h
   | const _=>simp only[gB] at h;cases h
   | global _=>simp only[gB] at h;cases h
  rename_i c
  obtain ⟨callee,args,argTypes⟩:=c
  cases callee with
  | invoke r m=>cases hc
  | builtin b=>cases hc
  | value f=>
   cases f with
   | func f=>
    simp only[gB] at h
    cases B8:A.ext f with
    | some T0=>
     rw[B8] at h
     simp only at h
     exact ad9 hP S hg hs B8 h
    | none=>
    rw[B8] at h
    simp only at h
    cases mD:A.pj f with
    | some e0=>
     rw[mD] at h
     simp only at h
     exact ad8 hP S hg hs mD h
    | none=>
    rw[mD] at h
    simp only at h
    obtain ⟨h1,h2⟩:=aP h
    rw[bj] at h1
    obtain ⟨k1,k2⟩:=hs.args hg h1
    refine Uu hC hP S hg k1 k2 h2 ?_
    have e1:(args.map a.eval).toList.toArray=args.map a.eval:=Array.toArray_toList
    rw[e1]
    simp[execOp,resolve,Act.eval,Deferred.ofValue,invoke]
   | tmp t=>
    simp only[gB] at h
    cases bB:sl t<;>rw[bB] at h<;>simp only at h<;>first|(cases h;done)|skip
    rename_i f xs ys
    obtain ⟨h1,h2⟩:=aP h
    rw[bj] at h1
    obtain ⟨k1,k2⟩:=hs.args hg h1
    have hv:=hs t
    rw[bB] at hv
    generalize vl:a.tmps.getD t undef=vt at hv
    cases hv with
    | @fn _ fs cs _ _ q1 q2 q3 q4=>
     have l1:fs.toList.length=xs.length:=by simpa using q1
     have l3:cs.toList.length=ys.length:=by simpa using q3
     have r1: ∀(j:Nat) v x,fs.toList[j]? =some v→xs[j]? =some x→au P w I β hp v x:=fun j v x hj hx=>q2 j v x (by simpa using hj) hx
     have r3: ∀(j:Nat) v x,cs.toList[j]? =some v→ys[j]? =some x→au P w I β hp v x:=fun j v x hj hx=>q4 j v x (by simpa using hj) hx
     refine Uu hC hP S hg (vals:=fs.toList++(args.map a.eval).toList++cs.toList) (args:=xs++((args.toList.zip argTypes.toList).map fun p=>bc P A.aL p.2 sl p.1)++ys) (by simp only[bO];omega) ?_ h2 ?_
     ·exact Uw (by simp only[bO];omega) (Uw l1 r1 k2) r3
     ·have e1:(fs.toList++(args.map a.eval).toList++cs.toList).toArray=fs++args.map a.eval++cs:=by
       apply Array.toList_inj.1;simp
      rw[e1]
      have fL:a.eval (.tmp t)= .func (.func f) fs cs:=vl
      simp[execOp,resolve,fL,Deferred.ofValue,invoke]
   | _=>cases hc
end
section
variable {P:Program} {A:cW} {w w':World} {I I' I2:Nat→Prop} {μ β β':Nat→Option Nat} {hp hp':Nat→Option ao} {C:af} {B:Nat} {M:Nat→Prop} {w0:Start}
structure jG (P:Program) (E:FuncId→Bool) (G:Nat→V) (w:World) (I:Nat→Prop) (β:Nat→Option Nat) (n:Nat) (a:Act) (st:St):Prop where
 sl:lJ P w I β st.hp a st.sl
 size:a.tmps.size=n
 defers: ∀d∈a.defers,BZ E d
 aL:iE P G w I
theorem Mf {E:FuncId→Bool} {G:Nat→V} {n:Nat} {a:Act} {st:St} {o:Oper} {v:Value} {x:V} {hp':Nat→Option ao} {ds:List Deferred} (h:jG P E G w I β n a st) (hle:Le P w I β st.hp w' I' β' hp') (hd:tw o n=true)
  (hv:au P w' I' β' hp' v x) (mf: ∀d∈ds,d∈a.defers∨BZ E d):jG P E G w' I' β' n ({a with defers:=ds}.put o.dst v) ⟨jd st.sl o.dst x,hp',st.nb⟩:=by
 have Uy: ∀d∈ds,BZ E d:=fun d hd=>(mf d hd).elim (h.defers d) id
 cases aeb:o.dst with
 | none=>exact ⟨fun k=>(h.sl k).mono hle,h.size,Uy,h.aL.mono hle.dO hle.cJ⟩
 | some d=>
  have aR:d<a.tmps.size:=by
   unfold tw at hd
   rw[aeb] at hd
   rw[h.size]
   simpa using hd
  refine ⟨fun k=> ?_,by simp[Act.put,h.size],Uy,h.aL.mono hle.dO hle.cJ⟩
  simp only[Act.put,jd,aV]
  cases hb:Nat.beq k d with
  | true=>
   rw[bj] at hb
   subst hb
   simpa[aR] using hv
  | false=>
   have bX:d≠k:=fun e=>by rw[e,kf] at hb;cases hb
   have:=(h.sl k).mono hle
   simpa[FH bX] using this
theorem Uz {E:FuncId→Bool} {G:Nat→V} {n:Nat} {a:Act} {st:St} {d:Nat} {b:Bool} (h:jG P E G w I β n a st) (hd:st.sl d= .bool b):a.tmps[d]? =some (.bool b):=by
 have:=h.sl d
 rw[hd] at this
 have:=this.lf
 cases ht:a.tmps[d]? with
 | none=>simp[ht] at this;cases this
 | some v=>simp[ht] at this;rw[this]
theorem aec {x:V} {b:Bool} (h:mj x=some (some b)):x= .bool b:=by
 cases x with
 | bool c=>simp only[mj] at h;injection h with h;injection h with h;rw[h]
 | bC vs=>cases vs<;>simp[mj] at h
 | _=>simp[mj] at h
theorem aed {x:V} (h:mj x=some none):x= .bC []:=by
 cases x with
 | bC vs=>cases vs with
  | nil=>rfl
  | cons _ _=>simp[mj] at h
 | bool c=>simp[mj] at h
 | _=>simp[mj] at h
theorem au.aee {v:Value} (h:au P w I β hp v (.bC [])):v= .tuple #[]:=by
 cases h with
 | @bC cs _ hs _=>
  have:cs= #[]:=by
   apply Array.eq_empty_of_size_eq_zero
   simpa using hs
  rw[this]
theorem au.UA:au P w I β hp Go.undef (.bC []):= .bC (by rfl) (fun j v x _ hx=>by simp at hx)
theorem UB (hC:lO P A C) (hP:jn P A) {ops:Array Oper} {n i nb:Nat} {o:Oper} (ho:ops[i]? =some o) {a:Act} {st st':St} {R W:List Nat} (S:aO P w I β st.hp B M w0) (hA:jG P A.idle A.aL w I β n a st)
  (h:iQ P A C n ops i o nb st=some (st',R,W)) {K:Act→World→Prop} {Q:Exit→Act→World→Prop}
  (hK: ∀a' w' I' β',Le P w I β st.hp w' I' β' st'.hp→aO P w' I' β' st'.hp B M w0→jG P A.idle A.aL w' I' β' n a' st'→K a' w'):wpOp P ops Q i K a w:=by
 unfold iQ at h
 cases hd:tw o n with
 | false=>rw[hd] at h;cases h
 | true=>
  rw[hd] at h
  simp only[cond_true] at h
  have go: ∀{Mg:St} {R W:List Nat},(((gB P A st.sl i (nb+64*i) o).run C st.hp).bind fun r=>some ((⟨jd st.sl o.dst r.1.v,b9 st.hp r.1.upd,st.nb⟩:St),rO r.2 r.1.upd,gT st.hp r.1.upd))=some (Mg,R,W)→Mg=st'→
    o.wp P a w K Q:=by
   intro Mg R W h e
   obtain ⟨⟨r,rd⟩,h1,h2⟩:=bind_some h
   cases h2
   subst e
   exact aea hC hP S hA.aL hA.sl h1 K Q fun v w' I' β' ds k1 k2 k3 k4=>hK _ w' I' β' k1 k2 (Mf hA k1 hd k3 k4)
  unfold wpOp
  rw[ho]
  simp only
  cases hg:o.guard with
  | none=>
   rw[hg] at h
   simp only[Region.wanted,hg,cy]
   exact .inl (go h rfl)
  | some gw=>
   obtain ⟨g,want⟩:=gw
   rw[hg] at h
   simp only at h
   cases j6:(ops[g]?).bind (·.dst) with
   | none=>rw[j6] at h;cases h
   | some d=>
    rw[j6] at h
    simp only at h
    cases nu:mj (st.sl d) with
    | none=>rw[nu] at h;cases h
    | some ob=>
    rw[nu] at h
    cases ob with
    | none=>
     have xQ:=aed nu
     have hy:yielded ops a.tmps g=none:=by
      unfold yielded
      rw[j6]
      have:=hA.sl d
      rw[xQ] at this
      have hu:=au.aee this
      simp only[Option.bind_some]
      cases ht:a.tmps[d]? with
      | none=>rfl
      | some v=>simp[ht] at hu;subst hu;rfl
     simp only[Region.wanted,hg,hy]
     injection h with h
     injection h with h3 h4
     subst h3
     have h2:((none:Option Bool)==some want)=false:=rfl
     simp only[h2,xf,fg]
     exact hK _ w I β (Le.refl w I β st.hp) S (Mf (ds:=a.defers) hA (Le.refl w I β st.hp) hd au.UA fun d h=> .inl h)
    | some b=>
    simp only at h
    have xQ:=aec nu
    have hy:yielded ops a.tmps g=some b:=by
     unfold yielded
     rw[j6]
     simp only[Option.bind_some,Uz hA xQ]
    simp only[Region.wanted,hg,hy]
    by_cases hb:b=want
    ·subst hb
     simp only[xe,cond_true] at h
     simp only[xe,cy]
     exact .inl (go h rfl)
    ·have h1:(b==want)=false:=by simp[hb]
     have h2:(some b==some want)=false:=by simp[hb]
     rw[h1] at h
     simp only[cond_false] at h
     injection h with h
     injection h with h3 h4
     subst h3
     simp only[h2,xf,fg]
     exact hK _ w I β (Le.refl w I β st.hp) S (Mf (ds:=a.defers) hA (Le.refl w I β st.hp) hd au.UA fun d h=> .inl h)
def vu (hp hp':Nat→Option ao) (c:Nat):Prop:=hp' c=hp c∧(KB≤c→hZ (hp' (c-KB))=hZ (hp (c-KB)))
theorem vu.symm {c:Nat} (h:vu hp hp' c):vu hp' hp c:=⟨h.1.symm,fun hc=>(h.2 hc).symm⟩
theorem tN {α:Type}: ∀{p:Rd α} {r:α} {rd:List Nat},p.run C hp=some (r,rd)→(∀id∈rd,vu hp hp' id)→p.run C hp'=some (r,rd)
 | .ret a,r,rd,h,_=>h
 | .fail,r,rd,h,_=>by cases h
 | .get id k,r,rd,h,he=>by
  obtain ⟨x,h1,h2⟩:=bind_some h
  cases h2
  have e1:hp' id=hp id:=(he id (by simp)).1
  have:=tN (p:=k (hp id)) (r:=x.1) (rd:=x.2) h1 (fun i hi=>he i (by simp[hi]))
  simp only[Rd.run,e1,this,Option.bind_some]
 | .live id ok k,r,rd,h,he=>by
  simp only[Rd.run] at h⊢
  cases hk:ok (hZ (hp id)) with
  | false=>rw[hk] at h;cases h
  | true=>
   rw[hk] at h
   obtain ⟨x,h1,h2⟩:=bind_some h
   cases h2
   have e1:hZ (hp' id)=hZ (hp id):=by
    have:=(he (id+KB) (by simp)).2 (Nat.le_add_left _ _)
    rwa [uE] at this
   have:=tN (p:=k) (r:=x.1) (rd:=x.2) h1 (fun i hi=>he i (by simp[hi]))
   rw[e1,hk,this]
   rfl
 | .opt o k,r,rd,h,he=>by
  obtain ⟨x,h1,h2⟩:=bind_some h
  simp only[Rd.run,h1,Option.bind_some]
  exact tN h2 he
 | .aI b k,r,rd,h,he=>by
  obtain ⟨h1,h2⟩:=aP h
  simp only[Rd.run,h1,cond_true]
  exact tN h2 he
 | .call key ds k,r,rd,h,he=>by
  obtain ⟨x,h1,h2⟩:=bind_some h
  simp only[Rd.run,h1,Option.bind_some]
  exact tN h2 he
 | .alt true x y,r,rd,h,he=>tN (p:=x) h he
 | .alt false x y,r,rd,h,he=>tN (p:=y) h he
theorem aef {G:Nat→V} {sl sl':Nat→V} {t:TypeId} {x:Operand} (h: ∀k,x= .tmp k→sl k=sl' k):bc P G t sl x=bc P G t sl' x:=by
 cases x with
 | tmp k=>exact h k rfl
 | _=>rfl
theorem aeg {sl sl':Nat→V} {ix nb:Nat} {o:Oper} (h: ∀x∈o.op.operands,∀k,x= .tmp k→sl k=sl' k):gB P A sl ix nb o=gB P A sl' ix nb o:=by
 have fL: ∀t x,x∈o.op.operands→bc P A.aL t sl x=bc P A.aL t sl' x:=fun t x hx=>aef (h x hx)
 obtain ⟨dst,op,ty,pos,after,guard⟩:=o
 have UC: ∀(t:TypeId) (ps:Array (Nat × Operand)),(∀x∈ps.map (·.2),bc P A.aL t sl x=bc P A.aL t sl' x)→
   (ps.toList.map fun p=>(p.1,bc P A.aL t sl p.2))=ps.toList.map fun p=>(p.1,bc P A.aL t sl' p.2):=fun t ps hp=>
  qm fun p hm=>by rw[hp p.2 (Array.mem_map.2 ⟨p,qn.1 hm,rfl⟩)]
 have aeh: ∀(t:TypeId) (ps:Array (Nat × Operand)),(∀x∈ps.map (·.2),bc P A.aL t sl x=bc P A.aL t sl' x)→
   (ps.toList.map fun p=>(bc P A.aL t sl p.2).cells)=ps.toList.map fun p=>(bc P A.aL t sl' p.2).cells:=fun t ps hp=>
  qm fun p hm=>by rw[hp p.2 (Array.mem_map.2 ⟨p,qn.1 hm,rfl⟩)]
 cases op<;>simp only[Op.operands] at fL<;>simp only[gB]
 case pick c x y=>rw[fL ty c (by simp),fL ty x (by simp),fL ty y (by simp)]
 case build t ps=>rw[UC ty ps fun x hx=>fL ty x (by simpa using hx),aeh ty ps fun x hx=>fL ty x (by simpa using hx)]
 case buildSlice t len ps=>
  split
  ·rename_i e _
   rw[UC e ps fun x hx=>fL e x (by simpa using hx)]
  ·rfl
 case slice t x lo hi mx=>
  cases mx with
  | some m=>
   have e1:lo.map (bc P A.aL 0 sl)=lo.map (bc P A.aL 0 sl'):=by
    cases lo with
    | none=>rfl
    | some l=>simp only[Option.map_some,fL 0 l (by simp)]
   have e2:hi.map (bc P A.aL 0 sl)=hi.map (bc P A.aL 0 sl'):=by
    cases hi with
    | none=>rfl
    | some l=>simp only[Option.map_some,fL 0 l (by simp)]
   have e3:=fL 0 m (by simp)
   simp only[fL ty x (by simp),e1,e2,e3]
  | none=>
   have e1:lo.map (bc P A.aL 0 sl)=lo.map (bc P A.aL 0 sl'):=by
    cases lo with
    | none=>rfl
    | some l=>simp only[Option.map_some,fL 0 l (by simp)]
   have e2:hi.map (bc P A.aL 0 sl)=hi.map (bc P A.aL 0 sl'):=by
    cases hi with
    | none=>rfl
    | some l=>simp only[Option.map_some,fL 0 l (by simp)]
   simp only[fL ty x (by simp),e1,e2]
 case call c=>
  obtain ⟨callee,args,argTypes⟩:=c
  have vw: ∀t x,x∈args→bc P A.aL t sl x=bc P A.aL t sl' x:=fun t x hx=>fL t x (by simp[Call.operands,hx])
  have hl: ∀t (l:List Operand),(∀x∈l,x∈args)→l.map (bc P A.aL t sl)=l.map (bc P A.aL t sl'):=fun t l hl=>qm fun x hx=>vw t x (hl x hx)
  have hz:((args.toList.zip argTypes.toList).map fun p=>bc P A.aL p.2 sl p.1)=(args.toList.zip argTypes.toList).map fun p=>bc P A.aL p.2 sl' p.1:=
   qm fun p hp=>vw p.2 p.1 (qn.1 (List.of_mem_zip hp).1)
  cases callee with
  | invoke r m=>rfl
  | builtin b=>
   have cK: ∀x∈args.toList,∀t,bc P A.aL t sl x=bc P A.aL t sl' x:=fun x hx t=>vw t x (qn.1 hx)
   have Mh: ∀t (l:List Operand),(∀x∈l,∀t,bc P A.aL t sl x=bc P A.aL t sl' x)→l.map (bc P A.aL t sl)=l.map (bc P A.aL t sl'):=fun t l h=>qm fun x hx=>h x hx t
   cases b<;>first|rfl|skip
   case append=>
    dsimp only
    generalize args.toList=al at cK
    match al,cK,argTypes.toList with
    | [s,x],cK,[t,u]=>simp only[cK s (by simp),cK x (by simp)]
    | [],_,_=>rfl
    | [_],_,_=>rfl
    | _::_::_::_,_,_=>rfl
    | [_,_],_,[]=>rfl
    | [_,_],_,[_]=>rfl
    | [_,_],_,_::_::_::_=>rfl
   case copy=>
    dsimp only
    generalize args.toList=al at cK
    match al,cK,argTypes.toList with
    | [s,x],cK,[t,u]=>simp only[cK s (by simp),cK x (by simp)]
    | [],_,_=>rfl
    | [_],_,_=>rfl
    | _::_::_::_,_,_=>rfl
    | [_,_],_,[]=>rfl
    | [_,_],_,[_]=>rfl
    | [_,_],_,_::_::_::_=>rfl
   case len=>
    dsimp only
    generalize args.toList=al at cK
    match al,cK,argTypes.toList with
    | [x],cK,[t]=>simp only[cK x (by simp)]
    | [],_,_=>rfl
    | _::_::_,_,_=>rfl
    | [_],_,[]=>rfl
    | [_],_,_::_::_=>rfl
   case clear=>
    dsimp only
    generalize args.toList=al at cK
    match al,cK,argTypes.toList with
    | [x],cK,[t]=>simp only[cK x (by simp)]
    | [],_,_=>rfl
    | _::_::_,_,_=>rfl
    | [_],_,[]=>rfl
    | [_],_,_::_::_=>rfl
   case unsafeSliceData=>
    dsimp only
    generalize args.toList=al at cK
    match al,cK with
    | [],_=>rfl
    | [x],cK=>simp only[cK x (by simp)]
    | _::_::_,_=>rfl
   case unsafeString=>
    dsimp only
    generalize args.toList=al at cK
    match al,cK,argTypes.toList with
    | [s,x],cK,[t,u]=>simp only[cK s (by simp),cK x (by simp)]
    | [],_,_=>rfl
    | [_],_,_=>rfl
    | _::_::_::_,_,_=>rfl
    | [_,_],_,[]=>rfl
    | [_,_],_,[_]=>rfl
    | [_,_],_,_::_::_::_=>rfl
   case max=>
    dsimp only
    generalize args.toList=al at cK
    match al,cK with
    | [],_=>rfl
    | x::l,cK=>simp only[cK x (by simp),Mh ty l (fun y hy=>cK y (by simp[hy]))]
   case min=>
    dsimp only
    generalize args.toList=al at cK
    match al,cK with
    | [],_=>rfl
    | x::l,cK=>simp only[cK x (by simp),Mh ty l (fun y hy=>cK y (by simp[hy]))]
  | value f=>
   cases f<;>first|rfl|skip
   ·rename_i t
    have ht:sl t=sl' t:=h (.tmp t) (by simp[Op.operands,Call.operands]) t rfl
    simp only[hz,ht]
   ·simp only[hz]
    cases hx:args.toList with
    | nil=>rfl
    | cons x l=>
     cases l with
     | cons _ _=>rfl
     | nil=>simp only[vw ty x (qn.1 (by rw[hx];simp))]
 case defer c=>
  obtain ⟨callee,args,argTypes⟩:=c
  cases callee with
  | invoke r m=>rfl
  | builtin b=>rfl
  | value f=>
   cases f<;>first|rfl|skip
   rename_i t
   have ht:sl t=sl' t:=h (.tmp t) (by simp[Op.operands,Call.operands]) t rfl
   simp only[ht]
 case makeFunc fn a b=>
  cases fn<;>first|rfl|skip
  have e1:a.toList.map (bc P A.aL ty sl)=a.toList.map (bc P A.aL ty sl'):=qm fun x hx=>fL ty x (by simp[qn.1 hx])
  have e2:b.toList.map (bc P A.aL ty sl)=b.toList.map (bc P A.aL ty sl'):=qm fun x hx=>fL ty x (by simp[qn.1 hx])
  dsimp only
  rw[e1,e2]
 case makeMap t r=>cases r<;>rfl
 all_goals first
  | rfl
  | (simp[fL];done)
end
section
variable {P:Program} {A:cW} {w w':World} {I I' I2:Nat→Prop} {μ β β':Nat→Option Nat} {hp hp':Nat→Option ao} {C:af} {B:Nat} {M:Nat→Prop} {w0:Start}
theorem Mi {q:Nat × ao} {upd:List (Nat × ao)} (h:q∈upd):q.1∈gT hp upd:=by
 unfold gT
 rw[uH]
 refine ⟨q,h,?_⟩
 cases Nat.beq (hZ (hp q.1)) (hZ (some q.2))<;>simp
theorem aei {upd:List (Nat × ao)} (h: ∀q∈upd,hZ (hp' q.1)=hZ (hp q.1)):gT hp' upd=gT hp upd:=by
 unfold gT
 induction upd with
 | nil=>rfl
 | cons q l ih=>
  rw[iC,iC,ih fun x hx=>h x (lC _ hx),h q (by simp)]
theorem UD {c:Nat}: ∀{upd:List (Nat × ao)},c∉gT hp upd→vu hp (b9 hp upd) c:=fun {upd} h=>by
 refine ⟨yg fun q hq e=>h (e▸Mi hq),fun hc=> ?_⟩
 induction upd with
 | nil=>rfl
 | cons q l ih=>
  have hl:c∉gT hp l:=fun hx=>h (by unfold gT at*;rw[iC];exact List.mem_append_right _ hx)
  have hq:hZ (hp q.1)=hZ (some q.2)∨c≠q.1+KB:=by
   cases hb:Nat.beq (hZ (hp q.1)) (hZ (some q.2)) with
   | true=>exact .inl (xb hb)
   | false=>
    refine .inr fun e=>h ?_
    unfold gT
    rw[iC,hb,e]
    simp
  show hZ (aV (b9 hp l) q.1 (some q.2) (c-KB))=_
  simp only[aV]
  cases hb:Nat.beq (c-KB) q.1 with
  | false=>exact ih hl
  | true=>
   have e:=xb hb
   rcases hq with hq|hq
   ·rw[cond_true,e];exact hq.symm
   ·exact absurd (by omega) hq
theorem UE {n i nb:Nat} {ops:Array Oper} {o:Oper} {st st':St} {R W:List Nat} (h:iQ P A C n ops i o nb st=some (st',R,W)):
  ∃x upd,st'=⟨jd st.sl o.dst x,b9 st.hp upd,st.nb⟩∧W=gT st.hp upd∧∀eQ:St,(∀d∈o.looksAt ops,eQ.sl d=st.sl d)→(∀id∈R,vu st.hp eQ.hp id)→
   iQ P A C n ops i o nb eQ=some (⟨jd eQ.sl o.dst x,b9 eQ.hp upd,eQ.nb⟩,R,W)∧W=gT eQ.hp upd:=by
 unfold iQ at h
 cases hd:tw o n with
 | false=>rw[hd] at h;cases h
 | true=>
  rw[hd] at h
  simp only[cond_true] at h
  have go:(((gB P A st.sl i (nb+64*i) o).run C st.hp).bind fun r=>some ((⟨jd st.sl o.dst r.1.v,b9 st.hp r.1.upd,st.nb⟩:St),rO r.2 r.1.upd,gT st.hp r.1.upd))=some (st',R,W)→
    ∃x upd,st'=⟨jd st.sl o.dst x,b9 st.hp upd,st.nb⟩∧W=gT st.hp upd∧∀eQ:St,(∀d∈o.looksAt ops,eQ.sl d=st.sl d)→(∀id∈R,vu st.hp eQ.hp id)→
     (((gB P A eQ.sl i (nb+64*i) o).run C eQ.hp).bind fun r=>some ((⟨jd eQ.sl o.dst r.1.v,b9 eQ.hp r.1.upd,eQ.nb⟩:St),rO r.2 r.1.upd,gT eQ.hp r.1.upd))=some (⟨jd eQ.sl o.dst x,b9 eQ.hp upd,eQ.nb⟩,R,W)∧W=gT eQ.hp upd:=by
   intro h
   obtain ⟨⟨r,rd⟩,h1,h2⟩:=bind_some h
   cases h2
   refine ⟨r.v,r.upd,rfl,rfl,fun eQ hs hh=> ?_⟩
   have hw:gT eQ.hp r.upd=gT st.hp r.upd:=aei fun q hq=>by
    have:=(hh (q.1+KB) (List.mem_append_right _ (fG.2 ⟨q,hq,rfl⟩))).2 (Nat.le_add_left _ _)
    rwa [uE] at this
   rw[aeg (sl':=st.sl) fun x hx k hk=> ?_,tN h1 fun c hc=>hh c (List.mem_append_left _ hc)]
   ·refine ⟨?_,hw.symm⟩
    rw[Option.bind_some,hw]
   ·subst hk
    exact hs k (List.mem_append_left _ (List.mem_filterMap.2 ⟨.tmp k,by simpa using hx,rfl⟩))
  cases hg:o.guard with
  | none=>
   rw[hg] at h
   obtain ⟨x,upd,e1,e2,e3⟩:=go h
   refine ⟨x,upd,e1,e2,fun eQ hs hh=> ?_⟩
   unfold iQ
   simp only[hd,cond_true,hg]
   exact e3 eQ hs hh
  | some gw=>
   obtain ⟨g,want⟩:=gw
   rw[hg] at h
   simp only at h
   cases j6:(ops[g]?).bind (·.dst) with
   | none=>rw[j6] at h;cases h
   | some d=>
    rw[j6] at h
    simp only at h
    have Mj:d∈o.looksAt ops:=List.mem_append_right _ (by rw[hg];simp[j6])
    cases nu:mj (st.sl d) with
    | none=>rw[nu] at h;cases h
    | some ob=>
    rw[nu] at h
    cases ob with
    | none=>
     injection h with h
     injection h with h3 h4
     injection h4 with h5 h6
     subst h5;subst h6
     refine ⟨.bC [],[],h3.symm,rfl,fun eQ hs hh=> ?_⟩
     unfold iQ
     simp only[hd,cond_true,hg,j6,hs d Mj,nu]
     exact ⟨rfl,rfl⟩
    | some b=>
    simp only at h
    cases hb:b==want with
    | true=>
     rw[hb] at h
     obtain ⟨x,upd,e1,e2,e3⟩:=go h
     refine ⟨x,upd,e1,e2,fun eQ hs hh=> ?_⟩
     unfold iQ
     simp only[hd,cond_true,hg,j6,hs d Mj,nu,hb]
     exact e3 eQ hs hh
    | false=>
     rw[hb] at h
     simp only[cond_false] at h
     injection h with h
     injection h with h3 h4
     injection h4 with h5 h6
     subst h5;subst h6
     refine ⟨.bC [],[],h3.symm,rfl,fun eQ hs hh=> ?_⟩
     unfold iQ
     simp only[hd,cond_true,hg,j6,hs d Mj,nu,hb,cond_false]
     exact ⟨rfl,rfl⟩
theorem UF {sl:Nat→V} {d:Option Nat} {x:V} {k:Nat} (h:d≠some k):jd sl d x k=sl k:=by
 cases d with
 | none=>rfl
 | some d=>exact e7 _ _ fun e=>h (by rw[e])
theorem aej {hp:Nat→Option ao} {a b:List (Nat × ao)} (h: ∀q∈a,∀q'∈b,q.1≠q'.1):b9 (b9 hp a) b=b9 (b9 hp b) a:=by
 funext id
 by_cases ha: ∃q∈a,q.1=id
 ·have hb: ∀q∈b,q.1≠id:=by
   obtain ⟨q,hq,rfl⟩:=ha
   exact fun q' B5 e=>h q hq q' B5 e.symm
  rw[yg hb]
  obtain ⟨q,hq,rfl⟩:=ha
  have same: ∀(bI iS:Nat→Option ao) (l:List (Nat × ao)) (q:Nat × ao),q∈l→b9 bI l q.1=b9 iS l q.1:=by
   intro bI iS l
   induction l with
   | nil=>intro q hq;simp at hq
   | cons p l ih=>
    intro q hq
    simp only[b9,aV]
    cases hb:Nat.beq q.1 p.1 with
    | true=>rfl
    | false=>
     simp only[cond_false]
     refine ih q ((cH.1 hq).resolve_left fun e=> ?_)
     rw[e,kf] at hb;cases hb
  exact same _ _ a q hq
 ·rw[yg (hp:=b9 hp b) (l:=a) fun q hq e=>ha ⟨q,hq,e⟩]
  have same: ∀(bI iS:Nat→Option ao) (l:List (Nat × ao)),bI id=iS id→b9 bI l id=b9 iS l id:=by
   intro bI iS l he
   induction l with
   | nil=>exact he
   | cons p l ih=>
    simp only[b9,aV]
    cases hb:Nat.beq id p.1 with
    | true=>rfl
    | false=>exact ih
  exact same _ _ b (yg fun q hq e=>ha ⟨q,hq,e⟩)
structure UG (ops:Array Oper) (o1 o2:Oper) (R1 W1 R2 W2:List Nat):Prop where
 apart:Oper.apart ops o1 o2=true
 w: ∀id∈W1,id∉R2∧id∉W2
 r: ∀id∈R1,id∉W2
theorem aek {n i j nb:Nat} {ops:Array Oper} {o1 o2:Oper} {st jH eQ:St} {R1 W1 R2 W2:List Nat} (h1:iQ P A C n ops i o1 nb st=some (jH,R1,W1)) (h2:iQ P A C n ops j o2 nb jH=some (eQ,R2,W2))
  (hi:UG ops o1 o2 R1 W1 R2 W2): ∃Hl,iQ P A C n ops j o2 nb st=some (Hl,R2,W2)∧iQ P A C n ops i o1 nb Hl=some (eQ,R1,W1):=by
 obtain ⟨x1,u1,e1,f1,g1⟩:=UE h1
 obtain ⟨x2,u2,e2,f2,g2⟩:=UE h2
 obtain ⟨a1,a2,a3⟩:=Oper.apart_spec hi.apart
 subst e1
 have k2:=g2 st (fun d hd=>by simp only;rw[UF fun e=>a1 d e hd]) fun c hc=>(UD fun hw=>(hi.w c (by rw[f1];exact hw)).1 hc).symm
 refine ⟨_,k2.1,?_⟩
 rw[(g1 _ (fun d hd=> ?_) (fun c hd=> ?_)).1,e2]
 ·congr 3
  ·funext k
   cases Hm:o1.dst with
   | none=>rfl
   | some d1=>
    cases gm:o2.dst with
    | none=>rfl
    | some d2=>
     have bX:d2≠d1:=fun e=>a2 d1 Hm (by rw[gm,e])
     simp only[jd,aV]
     cases vy:Nat.beq k d1<;>cases oO:Nat.beq k d2<;>simp only[cond_true,cond_false]
     rw[bj] at vy oO
     exact absurd (oO.symm.trans vy) bX
  ·exact (aej fun q hq q' B5 e=>(hi.w q.1 (by rw[f1];exact Mi hq)).2 (by rw[f2,e];exact Mi B5)).symm
 ·simp only
  rw[UF fun e=>a3 d e hd]
 ·exact UD fun hw=>hi.r c hd (by rw[k2.2];exact hw)
def yj (P:Program) (A:cW) (C:af) (n:Nat) (ops:Array Oper) (nb:Nat):List (Nat × Oper × List Nat × List Nat)→St→St→Prop
 | [],st,st'=>st=st'
 | (i,o,R,W)::l,st,st'=> ∃jH,iQ P A C n ops i o nb st=some (jH,R,W)∧yj P A C n ops nb l jH st'
def vz (x:Nat × Oper × List Nat × List Nat):Nat × List Nat × List Nat:=(x.1,x.2.2.1,x.2.2.2)
theorem UH {n nb:Nat} {ops:Array Oper}: ∀{l:List (Nat × Oper)} {st st':St} {log Hn:Log},qA P A C n ops nb l st log=some (st',Hn)→
  ∃g,g.map (fun x=>(x.1,x.2.1))=l∧Hn=log++g.map vz∧yj P A C n ops nb g st st'
 | [],st,st',log,Hn,h=>by
  cases h
  exact ⟨[],rfl,by simp,rfl⟩
 | (i,o)::l,st,st',log,Hn,h=>by
  obtain ⟨⟨jH,R,W⟩,h1,h2⟩:=bind_some h
  obtain ⟨g,a,b,c⟩:=UH h2
  exact ⟨(i,o,R,W)::g,by simp[a],by simp[b,vz],jH,h1,c⟩
def UI (ops:Array Oper) (x y:Nat × Oper × List Nat × List Nat):Prop:=UG ops x.2.1 y.2.1 x.2.2.1 x.2.2.2 y.2.2.1 y.2.2.2
theorem UJ {n nb:Nat} {ops:Array Oper} {y:Nat × Oper × List Nat × List Nat} {g2:List (Nat × Oper × List Nat × List Nat)}: ∀{g1:List (Nat × Oper × List Nat × List Nat)} {st st':St},
  yj P A C n ops nb (g1++y::g2) st st'→(∀x∈g1,UI ops x y)→∃jH,iQ P A C n ops y.1 y.2.1 nb st=some (jH,y.2.2.1,y.2.2.2)∧yj P A C n ops nb (g1++g2) jH st'
 | [],st,st',h,_=>h
 | x::g1,st,st',h,hi=>by
  obtain ⟨jH,h1,h2⟩:=h
  obtain ⟨eQ,h3,h4⟩:=UJ h2 fun z hz=>hi z (lC _ hz)
  obtain ⟨Hl,h5,h6⟩:=aek h1 h3 (hi x (by simp))
  exact ⟨Hl,h5,eQ,h6,h4⟩
theorem UK (hC:lO P A C) (hP:jn P A) {n nb:Nat} {ops:Array Oper} {Q:Exit→Act→World→Prop}: ∀{g:List (Nat × Oper × List Nat × List Nat)} {st st':St} {a:Act} {w:World} {I:Nat→Prop} {β:Nat→Option Nat},
  yj P A C n ops nb g st st'→(∀x∈g,ops[x.1]? =some x.2.1)→aO P w I β st.hp B M w0→jG P A.idle A.aL w I β n a st→
  (∀a' w' I' β',Le P w I β st.hp w' I' β' st'.hp→aO P w' I' β' st'.hp B M w0→jG P A.idle A.aL w' I' β' n a' st'→Q .normal a' w')→wpOps P ops Q (g.map (·.1)) a w
 | [],st,st',a,w,I,β,h,_,S,hA,hQ=>by
  cases h
  exact hQ a w I β (Le.refl w I β _) S hA
 | x::g,st,st',a,w,I,β,h,ho,S,hA,hQ=>by
  obtain ⟨jH,h1,h2⟩:=h
  rw[dZ,wpOps_cons]
  refine UB hC hP (ho x (by simp)) S hA h1 fun a' w' I' β' k1 k2 k3=> ?_
  exact UK hC hP h2 (fun y hy=>ho y (lC _ hy)) k2 k3 fun a2 w2 I2 cA m1 m2 m3=>hQ a2 w2 I2 cA (k1.trans m1) m2 m3
end
section
variable {P:Program} {A:cW} {w w':World} {I I' I2:Nat→Prop} {μ β β':Nat→Option Nat} {hp hp':Nat→Option ao} {C:af} {B:Nat} {M:Nat→Prop} {w0:Start}
inductive vA (ops:Array Oper):Nat→Nat→Prop
 | UL {i x:Nat} {o:Oper} {e:Edge}:ops[i]? =some o→e∈o.after→Region.binds .any e=true→e.on=x→vA ops i x
 | trans {i x:Nat} {o:Oper} {e:Edge}:ops[i]? =some o→e∈o.after→Region.binds .any e=true→vA ops e.on x→vA ops i x
theorem UM {acc:Array Nat} {x:Nat}: ∀{l:List Edge} {s:Nat},(l.foldl (fun s e=>if Region.binds .any e then s|||2^e.on|||acc.getD e.on 0 else s) s).testBit x=true→
  s.testBit x=true∨∃e∈l,Region.binds .any e=true∧(e.on=x∨(acc.getD e.on 0).testBit x=true)
 | [],s,h=> .inl h
 | e::l,s,h=>by
  simp only[List.foldl_cons] at h
  rcases UM h with h1|⟨e',a,b⟩
  ·by_cases hb:Region.binds .any e=true
   ·rw[ag hb,Nat.testBit_or,Nat.testBit_or,td,td] at h1
    rcases h1 with (h1|h1)|h1
    ·exact .inl h1
    ·rw[Nat.testBit_two_pow] at h1
     exact .inr ⟨e,by simp,hb,.inl (by simpa using h1)⟩
    ·exact .inr ⟨e,by simp,hb,.inr h1⟩
   ·rw[ah hb] at h1
    exact .inl h1
  ·exact .inr ⟨e',lC _ a,b⟩
theorem UN {ops:Array Oper} {x:Nat}: ∀{l:List Oper} {acc:Array Nat},(∀j o,l[j]? =some o→ops[acc.size+j]? =some o)→(∀j,(acc.getD j 0).testBit x=true→vA ops j x)→
  ∀j,((l.foldl (fun acc o=>acc.push (o.after.foldl (fun s e=>if Region.binds .any e then s|||2^e.on|||acc.getD e.on 0 else s) 0)) acc).getD j 0).testBit x=true→vA ops j x
 | [],acc,_,Ho,j,h=>Ho j h
 | o::l,acc,hl,Ho,j,h=>by
  simp only[List.foldl_cons] at h
  refine UN (l:=l) ?_ ?_ j h
  ·intro j o' hj
   have:=hl (j+1) o' (by simpa using hj)
   rw[Array.size_push]
   rwa [show acc.size+1+j=acc.size+(j+1) by omega]
  ·intro k hk
   simp only[xc,Array.getElem?_push] at hk
   by_cases bd:k=acc.size
   ·rw[ag bd] at hk
    simp only[Option.getD_some] at hk
    rw[←FI] at hk
    have ho:=hl 0 o rfl
    rw[Nat.add_zero] at ho
    rw[bd]
    have oO:(o.after.toList.foldl (fun s e=>if Region.binds .any e then s|||2^e.on|||acc.getD e.on 0 else s) 0).testBit x=true:=by simpa[xc] using hk
    rcases UM oO with h0|⟨e,he,hb,h1⟩
    ·simp at h0
    ·rcases h1 with h1|h1
     ·exact .UL ho (qn.1 he) hb h1
     ·exact .trans ho (qn.1 he) hb (Ho _ h1)
   ·rw[ah bd] at hk
    exact Ho k (by simpa[xc] using hk)
theorem ael {ops:Array Oper} {i x:Nat} (h:((Region.before ops).getD i 0).testBit x=true):vA ops i x:=by
 unfold Region.before at h
 rw[←FI] at h
 refine UN (l:=ops.toList) (acc:= #[]) (fun j o hj=>by simpa using hj) (fun j hj=>by simp at hj) i h
def UO (ops:Array Oper) (listed:Array Bool):Prop:= ∀i o,ops[i]? =some o→listed.getD i false=true→∀e∈o.after,Region.binds .any e=true→listed.getD e.on false=true
theorem aem {ops:Array Oper} {listed:Array Bool} (hc:UO ops listed) {i x:Nat} (h:vA ops i x) (hi: ∀o,ops[i]? =some o→∀e∈o.after,Region.binds .any e=true→listed.getD e.on false=true):listed.getD x false=true:=by
 induction h with
 | UL ho he hb hx=>rw[←hx];exact hi _ ho _ he hb
 | trans ho he hb _ ih=>exact ih fun o' nd e' vh aE=>hc _ o' nd (hi _ ho _ he hb) e' vh aE
theorem UP: ∀{l:List Oper} {k j:Nat} {o:Oper},Bd k l=true→l[j]? =some o→∀e∈o.after,Region.binds .any e=true→e.on<k+j
 | [],k,j,o,_,h=>by simp at h
 | o'::l,k,j,o,hk,h=>by
  simp only[Bd,aU] at hk
  cases j with
  | zero=>
   simp at h
   subst h
   intro e he hb
   have:=gz.1 hk.1 e (qn.2 he)
   simp[hb] at this
   omega
  | succ j=>
   intro e he hb
   have:=UP hk.2 (j:=j) (by simpa using h) e he hb
   omega
theorem UQ {ops:Array Oper} {uR:Array Nat}: ∀{l:Log},Gh ops uR l=true→l.Pairwise fun x y=>Bc ops uR x y=true
 | [],_=> .nil
 | x::l,h=>by
  simp only[Gh,aU] at h
  exact .cons (fun y hy=>gz.1 h.1 y hy) (UQ h.2)
theorem UR {listed:Array Bool} {i:Nat} (h:listed.getD i true=false):i<listed.size∧listed.getD i false=false:=by
 rcases s6 i listed.size with h'|h'
 ·refine ⟨h',?_⟩
  simpa[h'] using h
 ·simp[Array.getElem?_eq_none h'] at h
theorem US (hC:lO P A C) (hP:jn P A) {n nb:Nat} {ops:Array Oper} {Q:Exit→Act→World→Prop} (Hp:Bd 0 ops.toList=true):
  ∀(fuel:Nat) {g:List (Nat × Oper × List Nat × List Nat)} {listed:Array Bool} {st st':St} {a:Act} {w:World} {I:Nat→Prop} {β:Nat→Option Nat},
  g.length=fuel→yj P A C n ops nb g st st'→(∀x∈g,ops[x.1]? =some x.2.1)→(g.map (·.1)).Pairwise (· < ·)→(g.map vz).Pairwise (fun x y=>Bc ops (Region.before ops) x y=true)→
  listed.size=ops.size→(∀i,i<ops.size→(listed.getD i false=false↔i∈g.map (·.1)))→UO ops listed→
  aO P w I β st.hp B M w0→jG P A.idle A.aL w I β n a st→
  (∀a' w' I' β',Le P w I β st.hp w' I' β' st'.hp→aO P w' I' β' st'.hp B M w0→jG P A.idle A.aL w' I' β' n a' st'→Q .normal a' w')→wpAny P .any ops Q fuel listed a w
 | 0,g,listed,st,st',a,w,I,β,hf,hr,ho,aR,Hq,bh,vB,mD,S,hA,hQ=>by
  obtain rfl:g=[]:=mg hf
  cases hr
  refine ⟨?_,hQ a w I β (Le.refl w I β _) S hA⟩
  rw[List.eq_nil_iff_forall_not_mem]
  intro i hi
  obtain ⟨h0,_⟩:=mem_ready.1 hi
  obtain ⟨h1,h2⟩:=UR h0
  have:=(vB i (by omega)).1 h2
  simp at this
 | fuel+1,g,listed,st,st',a,w,I,β,hf,hr,ho,aR,Hq,bh,vB,mD,S,hA,hQ=>by
  refine ⟨fun B7=> ?_,fun i hi=> ?_⟩
  ·exfalso
   cases g with
   | nil=>simp at hf
   | cons x g=>
    have hx:=ho x (by simp)
    have gn:x.1<ops.size:=(jb.1 hx).1
    have mz:x.1∈Region.ready .any ops listed:=by
     rw[mem_ready]
     have h0:=(vB x.1 gn).2 (by simp)
     refine ⟨?_,x.2.1,hx,fun e he hb=> ?_⟩
     ·have hl:x.1<listed.size:=by omega
      simpa[hl] using h0
     ·have Lw:=UP Hp (j:=x.1) (by simpa using hx) e he hb
      rw[hO] at Lw
      cases hle:listed.getD e.on false with
      | true=>rfl
      | false=>
       have hm:=(vB e.on (by omega)).1 hle
       simp only[dZ,cH] at hm
       rw[dZ,qo] at aR
       rcases hm with hm|hm
       ·omega
       ·have:=aR.1 _ hm;omega
    rw[B7] at mz
    cases mz
  ·obtain ⟨h0,oi,B9,yk⟩:=mem_ready.1 hi
   obtain ⟨h1,h2⟩:=UR h0
   have hig:=(vB i (by omega)).1 h2
   obtain ⟨y,hy,hyi⟩:=fG.1 hig
   obtain ⟨g1,g2,rfl⟩:=List.append_of_mem hy
   subst hyi
   have UT:=ho y hy
   rw[B9] at UT
   have UU:oi=y.2.1:=dB UT
   have jF:((g1++y::g2).map (·.1)).Nodup:=aR.imp fun h=>Nat.ne_of_lt h
   have aen: ∀x∈g1,UI ops x y:=by
    intro x hx
    have hp:Bc ops (Region.before ops) (vz x) (vz y)=true:=by
     rw[iP,dZ,FL] at Hq
     exact Hq.2.2 _ (fG.2 ⟨x,hx,rfl⟩) _ (by simp)
    have UW:=ho x (cZ.2 (.inl hx))
    unfold Bc at hp
    rw[td] at hp
    rcases hp with hp|hp
    ·have hl:=aem mD (ael hp) fun o nd e he hb=>by
      have:o=oi:=by
       have h3:ops[y.1]? =some o:=nd
       rw[B9] at h3
       exact (dB h3).symm
      subst this
      exact yk e he hb
     have gn:x.1<ops.size:=(jb.1 UW).1
     have:=(vB x.1 gn).2 (fG.2 ⟨x,cZ.2 (.inl hx),rfl⟩)
     rw[show (vz x).1=x.1 from rfl,this] at hl
     cases hl
    ·simp only[vz,xc,UW,B9,Option.getD_some,aU,pf] at hp
     obtain ⟨q1,q2,q3⟩:=hp
     refine ⟨UU▸q1,fun id ai=> ?_,fun id ai=>He q3 ai⟩
     have:=He q2 ai
     rw[cZ] at this
     exact ⟨fun h=>this (.inl h),fun h=>this (.inr h)⟩
   obtain ⟨jH,jy,pI⟩:=UJ hr aen
   rw[←UU] at jy
   refine UB hC hP B9 S hA jy fun a' w' I' β' k1 k2 k3=> ?_
   have lg:List.Sublist (g1++g2) (g1++y::g2):=List.Sublist.append_left (List.sublist_cons_self y g2) g1
   have uU: ∀j,j≠y.1→(listed.setIfInBounds y.1 true).getD j false=listed.getD j false:=fun j hj=>getD_set_ne false (Ne.symm hj)
   refine US hC hP Hp fuel (g:=g1++g2) (st':=st') ?_ pI (fun x hx=>ho x (lg.subset hx)) (aR.sublist (lg.map _)) (Hq.sublist (lg.map _)) (by simp[bh]) (fun j hj=> ?_) (fun j o kA cp e he hb=> ?_) k2 k3 fun a2 w2 I2 cA m1 m2 m3=>hQ a2 w2 I2 cA (k1.trans m1) m2 m3
   ·simp at hf⊢;omega
   ·by_cases qI:j=y.1
    ·subst qI
     have hl:y.1<listed.size:=by omega
     simp only[xc,Kp hl,Option.getD_some]
     refine ⟨fun h=>(by cases h),fun h=> ?_⟩
     exfalso
     rw[iP,dZ,uG,qp] at jF
     rw[iP,cZ] at h
     rcases h with h|h
     ·exact jF.2.2 _ h _ (by simp) rfl
     ·exact jF.2.1.1 h
    ·rw[uU j qI,vB j hj]
     simp only[iP,dZ,cZ,cH]
     constructor
     ·rintro (h|h|h)
      ·exact .inl h
      ·exact absurd h qI
      ·exact .inr h
     ·rintro (h|h)
      ·exact .inl h
      ·exact .inr (.inr h)
   ·by_cases qI:j=y.1
    ·subst qI
     rw[B9] at kA
     cases kA
     exact getD_set_true (yk e he hb)
    ·rw[uU j qI] at cp
     exact getD_set_true (mD j o kA cp e he hb)
end
section
variable {P:Program} {A:cW} {w w':World} {I I' I2:Nat→Prop} {μ β β':Nat→Option Nat} {hp hp':Nat→Option ao} {C:af} {B:Nat} {M:Nat→Prop} {w0:Start}
theorem UX: ∀{l:List Oper} {k j:Nat},(pq k l)[j]? =(l[j]?).map fun o=>(k+j,o)
 | [],k,j=>by simp[pq]
 | o::l,k,0=>by simp[pq]
 | o::l,k,j+1=>by
  simp only[pq,List.getElem?_cons_succ,UX]
  congr 1
  funext o
  rw[show k+1+j=k+(j+1) by omega]
theorem UY: ∀{l:List Oper} {k:Nat},(pq k l).map (·.1)=List.range' k l.length
 | [],k=>rfl
 | o::l,k=>by simp[pq,UY,List.range'_succ]
theorem aeo (hC:lO P A C) (hP:jn P A) (hm:P.follows .mixedOrders=true) {n id:Nat} {ops:Array Oper} {draw:Bool} {st st':St} {a:Act} {Q:Exit→Act→World→Prop}
  (h:xA P A C n ops draw st=some st') (S:aO P w I β st.hp B M w0) (hA:jG P A.idle A.aL w I β n a st)
  (hQ: ∀a' w' I' β',Le P w I β st.hp w' I' β' st'.hp→aO P w' I' β' st'.hp B M w0→jG P A.idle A.aL w' I' β' n a' st'→Q .normal a' w'):(Code.region id ops draw).wp P Q a w:=by
 obtain ⟨⟨jH,log⟩,h1,h2⟩:=bind_some h
 obtain ⟨g,g1,g2,g3⟩:=UH h1
 have Hr:g.map (·.1)=List.range ops.size:=by
  have:g.map (·.1)=(g.map fun x=>(x.1,x.2.1)).map (·.1):=by simp
  rw[this,g1,UY,List.range_eq_range']
  simp
 have UZ: ∀x∈g,ops[x.1]? =some x.2.1:=by
  intro x hx
  have:(x.1,x.2.1)∈pq 0 ops.toList:=by rw[←g1];exact fG.2 ⟨x,hx,rfl⟩
  obtain ⟨j,hj⟩:=List.mem_iff_getElem?.1 this
  rw[UX] at hj
  cases ho:ops.toList[j]? with
  | none=>rw[ho] at hj;cases hj
  | some o=>
   rw[ho] at hj
   simp only[Option.map_some,hO,eN,kU] at hj
   rw[←hj.1,←hj.2]
   simpa using ho
 cases draw with
 | false=>
  simp only[qq,Bool.true_or,cond_true] at h2
  cases h2
  refine wp_region ?_
  rw[←Hr]
  exact UK hC hP g3 UZ S hA hQ
 | true=>
  simp only[oj,Bool.false_or] at h2
  cases hc:(Region.noSelect ops&&Be ops log) with
  | false=>rw[hc] at h2;cases h2
  | true=>
   rw[hc] at h2
   cases h2
   simp only[aU,Be] at hc
   obtain ⟨hns,Hp,aep⟩:=hc
   simp only[List.nil_append] at g2
   refine wp_region_any hm ?_
   have hlen:g.length=ops.size:=by
    have:=congrArg List.length Hr
    simpa using this
   refine US hC hP Hp ops.size (g:=g) (st':=st') hlen g3 UZ (by rw[Hr];exact List.pairwise_lt_range) (by rw[←g2];exact UQ aep) (by simp) (fun i hi=> ?_) (fun i o ho hl=> ?_)
    (w:=w.drew) S.drew ⟨fun k=>(hA.sl k).mono (Le.drew w I β _),hA.size,hA.defers,hA.aL.mono (Le.drew (P:=P) w I β st.hp).dO (Le.drew (P:=P) w I β st.hp).cJ⟩ fun a' w' I' β' k1 k2 k3=>hQ a' w' I' β' ((Le.drew w I β _).trans k1) k2 k3
   ·rw[Hr]
    simp[hi]
   ·have hi:=(jb.1 ho).1
    simp[hi] at hl
end
section
variable {P:Program} {A:cW} {E:FuncId→Bool} {G:Nat→V} {w w':World} {I I' I2:Nat→Prop} {μ β β':Nat→Option Nat} {hp hp':Nat→Option ao} {C:af} {B:Nat} {M:Nat→Prop} {w0:Start}
theorem vC: ∀{l:List Nat} {hp:Nat→Option ao} {I:Nat→Prop},aO P w I β hp B M w0→∃I',Le P w I β hp w I' β (uQ hp l)∧aO P w I' β (uQ hp l) B M w0
 | [],hp,I,S=>⟨I,Le.refl w I β hp,S⟩
 | id::l,hp,I,S=>by
  simp only[uQ]
  cases ai:hp id with
  | none=>exact vC S
  | some blk=>
   cases blk with
   | dead=>exact vC S
   | var _=>exact vC S
   | map _ _=>exact vC S
   | arr e es fz=>
    obtain ⟨h1,h2⟩:=Bp S (upd:=[(id,.arr e es true)]) (fun p hp=>by
     simp only[cV] at hp
     subst hp
     exact ⟨e,es,rfl,.inl ⟨fz,ai⟩⟩)
    obtain ⟨I',h3,h4⟩:=vC (l:=l) h2
    exact ⟨I',h1.trans h3,h4⟩
   | nest e es av=>
    obtain ⟨h1,h2⟩:=Bp S (upd:=[(id,.arr e es true)]) (fun p hp=>by
     simp only[cV] at hp
     subst hp
     exact ⟨e,es,rfl,.inr ⟨av,ai⟩⟩)
    obtain ⟨I',h3,h4⟩:=vC (l:=l) h2
    exact ⟨I',h1.trans h3,h4⟩
theorem U0 {n m:Nat} {pur:List Nat} {a:Act} {st:St} (S:aO P w I β st.hp B M w0) (hA:jG P E G w I β n a st):
  ∃I',Le P w I β st.hp w I' β (freeze m pur st).hp∧aO P w I' β (freeze m pur st).hp B M w0∧jG P E G w I' β n a (freeze m pur st):=by
 obtain ⟨I',h1,h2⟩:=vC (l:=(Sp st pur).filter fun id=>Nat.ble m id) S
 exact ⟨I',h1,h2,fun k=>(hA.sl k).mono h1,hA.size,hA.defers,hA.aL.mono h1.dO h1.cJ⟩
structure yl (hp:Nat→Option ao) (β:Nat→Option Nat) (ord:List Nat) (hp':Nat→Option ao) (β':Nat→Option Nat):Prop where
 arr: ∀(j:Nat) id e es fz,ord[j]? =some id→hp id=some (.arr e es fz)→hp' j=some (.arr e es fz)
 var: ∀(j:Nat) id T cs,ord[j]? =some id→hp id=some (.var T cs)→∃jm,hp' j=some (.var T jm)
 dead: ∀(j:Nat) id,ord[j]? =some id→hp id=some .dead→hp' j=some .dead
 place: ∀(j:Nat) id,ord[j]? =some id→β' j=β id
 nest: ∀(j:Nat) id e es av,ord[j]? =some id→hp id=some (.nest e es av)→hp' j=some (.nest e es (av.map fun _=>0))
 map: ∀(j:Nat) id t es,ord[j]? =some id→hp id=some (.map t es)→hp' j=some (.map t es)
theorem mF: ∀{l:List Nat} {n i j:Nat},je l n i=some j→∃k,j=i+k∧l[k]? =some n
 | [],n,i,j,h=>by cases h
 | a::l,n,i,j,h=>by
  simp only[je] at h
  cases hb:Nat.beq n a with
  | true=>
   rw[hb] at h
   cases h
   rw[bj] at hb
   exact ⟨0,rfl,by rw[hb];rfl⟩
  | false=>
   rw[hb] at h
   obtain ⟨k,h1,h2⟩:=mF h
   exact ⟨k+1,by omega,by simpa using h2⟩
def lP (hp':Nat→Option ao) (β':Nat→Option Nat) (n:Nat) (bs:List ao):Prop:=
 ∀(k:Nat) b,bs[k]? =some b→hp' (n+k)=some b∧β' (n+k)=none
theorem Mk: ∀(av:List Nat) (k:Nat),bR (av.map fun _=>0) k=0
 | [],_=>rfl
 | _::_,0=>rfl
 | _::vs,k+1=>Mk vs k
theorem U1 {e:TypeId} {es:List V} {av:List Nat} {path:Path} {ver:Nat} (hc:(Nat.blt 0 path.length&&(Nat.ble path.length av.length&&Nat.beq (bR av (path.length-1)) ver))=true)
  (h:(ao.nest e es av).uV path ver):False:=by
 simp only[aU,lB,dN,bj] at hc
 obtain ⟨h1,h2,h3⟩:=hc
 rcases h with h|h|h
 ·subst h;simp at h1
 ·omega
 ·omega
theorem U2 (S:aO P w I β hp B M w0) {ord:List Nat} (hR:yl hp β ord hp' β') {v:Value} {x:V} (hv:au P w I β hp v x):au P w I β' hp' v (jf hp ord x):=by
 cases hv with
 | undef=>exact .undef
 | int=>exact .int
 | bool=>exact .bool
 | str h=>exact .str h
 | list h=>exact .list h
 | nilS=>exact .nilS
 | agg=>exact .undef
 | bC=>exact .undef
 | eb=>exact .eb
 | fn=>exact .undef
 | pref a b c=>exact .pref a b c
 | @eZ _ e id ai=>
  simp only[jf]
  cases bI:je ord id 0 with
  | none=>simp only[ai];exact .undef
  | some j=>
   obtain ⟨k,rfl,hk⟩:=mF bI
   exact .eZ (hR.dead _ id (by simpa using hk) ai)
 | @ia _ e id off len ai=>
  simp only[jf]
  cases bI:je ord id 0 with
  | none=>simp only[ai];exact .undef
  | some j=>
   obtain ⟨k,rfl,hk⟩:=mF bI
   exact .ia (hR.dead _ id (by simpa using hk) ai)
 | @la _ id i c ai=>
  simp only[jf]
  cases bI:je ord id 0 with
  | none=>exact .undef
  | some j=>
   obtain ⟨k,rfl,hk⟩:=mF bI
   exact .la (hR.dead _ id (by simpa using hk) ai)
 | @ep e id fz _ ai hb=>
  simp only[jf]
  cases bI:je ord id 0 with
  | none=>
   simp only[ai]
   cases fz with
   | false=>exact .undef
   | true=>simp only[kf,cond_true];exact .list (.any fun _=>rfl)
  | some j=>
   obtain ⟨k,rfl,hk⟩:=mF bI
   have dG:ord[0+k]? =some id:=by simpa using hk
   exact .ep (hR.arr _ id _ _ _ dG ai) ((hR.place _ id dG).trans hb)
 | @whole e id es fz b cap ai hb bh cF hm=>
  simp only[jf]
  cases bI:je ord id 0 with
  | none=>
   simp only[ai]
   cases fz with
   | false=>exact .undef
   | true=>
    simp only[kf,cond_true]
    have hr:=S.h.rel id _ ai
    cases hr with
    | er aE=>rw[aE] at hb;cases hb
    | arr ax aE hh hs hf e6 hx=>
     rw[hb] at aE;cases aE
     have:=u0 (I':=I) (off:=0) (len:=es.length) (o:=0) hh hx (gD ax) (by omega) cF (fun _=>by simp) (fun _ h=>h) (hf rfl)
     exact .list (by simpa using this)
  | some j=>
   obtain ⟨k,rfl,hk⟩:=mF bI
   have dG:ord[0+k]? =some id:=by simpa using hk
   exact .whole (hR.arr _ id _ _ _ dG ai) ((hR.place _ id dG).trans hb) bh cF hm
 | @gX e id fz _ ai hb=>
  simp only[jf]
  cases bI:je ord id 0 with
  | none=>
   simp only[ai]
   cases fz with
   | false=>exact .undef
   | true=>simp only[kf,cond_true];exact .list (by simpa using (jv.any (P:=P) fun _=>rfl))
  | some j=>
   obtain ⟨k,rfl,hk⟩:=mF bI
   have dG:ord[0+k]? =some id:=by simpa using hk
   exact .gX (hR.arr _ id _ _ _ dG ai) ((hR.place _ id dG).trans hb)
 | @sub e id off len es fz b o cap ai hb kp cF ho=>
  simp only[jf]
  cases bI:je ord id 0 with
  | none=>
   simp only[ai]
   cases fz with
   | false=>exact .undef
   | true=>
    simp only[kf,cond_true]
    have hr:=S.h.rel id _ ai
    cases hr with
    | er aE=>rw[aE] at hb;cases hb
    | arr ax aE hh hs hf e6 hx=>
     rw[hb] at aE;cases aE
     exact .list (u0 (I':=I) hh hx (gD ax) kp cF ho (fun _ h=>h) (hf rfl))
  | some j=>
   obtain ⟨k,rfl,hk⟩:=mF bI
   have dG:ord[0+k]? =some id:=by simpa using hk
   exact .sub (hR.arr _ id _ _ _ dG ai) ((hR.place _ id dG).trans hb) kp cF ho
 | @ptr id i c b blk ai hd hb=>
  simp only[jf]
  cases bI:je ord id 0 with
  | none=>exact .undef
  | some j=>
   obtain ⟨k,rfl,hk⟩:=mF bI
   have dG:ord[0+k]? =some id:=by simpa using hk
   cases blk with
   | dead=>exact absurd rfl hd
   | var T0 cs=>
    obtain ⟨jm,h'⟩:=hR.var _ id T0 cs dG ai
    exact .ptr (blk:= .var T0 jm) h' (by simp) ((hR.place _ id dG).trans hb)
   | arr e es fz=>exact .ptr (blk:= .arr e es fz) (hR.arr _ id _ _ _ dG ai) (by simp) ((hR.place _ id dG).trans hb)
   | nest e es av=>exact .ptr (blk:= .nest e es (av.map fun _=>0)) (hR.nest _ id _ _ _ dG ai) (by simp) ((hR.place _ id dG).trans hb)
   | map t es=>exact .ptr (blk:= .map t es) (hR.map _ id _ _ dG ai) (by simp) ((hR.place _ id dG).trans hb)
 | ei=>exact .ei
 | @jk _ t id ai=>
  simp only[jf]
  cases bI:je ord id 0 with
  | none=>exact .undef
  | some j=>
   obtain ⟨k,rfl,hk⟩:=mF bI
   exact .jk (hR.dead _ id (by simpa using hk) ai)
 | @c7 t id b es ai hb=>
  simp only[jf]
  cases bI:je ord id 0 with
  | none=>exact .undef
  | some j=>
   obtain ⟨k,rfl,hk⟩:=mF bI
   have dG:ord[0+k]? =some id:=by simpa using hk
   exact .c7 (hR.map _ id _ _ dG ai) ((hR.place _ id dG).trans hb)
 | @fj e id es av b cap ai hb bh cF hm=>
  simp only[jf]
  cases bI:je ord id 0 with
  | none=>simp only[ai];exact .undef
  | some j=>
   obtain ⟨k,rfl,hk⟩:=mF bI
   have dG:ord[0+k]? =some id:=by simpa using hk
   exact .fj (hR.nest _ id _ _ _ dG ai) ((hR.place _ id dG).trans hb) bh cF hm
 | @kj v e id ver path blk ai Bn=>
  simp only[jf]
  split
  ·rename_i j e1 cO av h1 h2
   rw[ai] at h2
   cases h2
   cases hc:(Nat.blt 0 path.length&&(Nat.ble path.length av.length&&Nat.beq (bR av (path.length-1)) ver)) with
   | false=>exact .undef
   | true=>exact (U1 hc Bn).elim
  ·exact .undef
 | @km v id ver i c path blk ai Bn=>
  simp only[jf]
  split
  ·rename_i j e1 cO av h1 h2
   rw[ai] at h2
   cases h2
   cases hc:(Nat.blt 0 path.length&&(Nat.ble path.length av.length&&Nat.beq (bR av (path.length-1)) ver)) with
   | false=>exact .undef
   | true=>exact (U1 hc Bn).elim
  ·exact .undef
 | @row v e e0 t id ver b i c q es l av ai hb hq hv ht hc=>
  simp only[jf]
  split
  ·rename_i j e1 cO vr h1 h2
   obtain ⟨k,rfl,hk⟩:=mF h1
   have dG:ord[0+k]? =some id:=by simpa using hk
   cases hx:(Nat.blt 0 (q++[(i,c)]).length&&(Nat.ble (q++[(i,c)]).length vr.length&&Nat.beq (bR vr ((q++[(i,c)]).length-1)) ver)) with
   | false=>exact .undef
   | true=>exact .row (hR.nest _ id _ _ _ dG ai) ((hR.place _ id dG).trans hb) (by simpa using hq) (Mk _ _) ht hc
  ·exact .undef
 | @c6 e e0 t id ver b b1 len cap i0 c0 i c q es l av ai hb hq hv ht nc hc=>
  simp only[jf]
  split
  ·rename_i j e1 cO vr h1 h2
   obtain ⟨k,rfl,hk⟩:=mF h1
   have dG:ord[0+k]? =some id:=by simpa using hk
   cases hx:(Nat.blt 0 (q++[(i0,c0)]).length&&(Nat.ble (q++[(i0,c0)]).length vr.length&&Nat.beq (bR vr ((q++[(i0,c0)]).length-1)) ver)) with
   | false=>exact .undef
   | true=>exact .c6 (hR.nest _ id _ _ _ dG ai) ((hR.place _ id dG).trans hb) (by simpa using hq) (Mk _ _) ht nc hc
  ·exact .undef
theorem U3 (S:aO P w I β hp B M w0) {ord:List Nat} (hR:yl hp β ord hp' β') {vs:Array Value} {xs:List V} (h: ∀(j:Nat) v x,vs[j]? =some v→xs[j]? =some x→au P w I β hp v x) (j:Nat) (v:Value) (y:V)
  (hv:vs[j]? =some v) (hy:(xs.map (jf hp ord))[j]? =some y):au P w I β' hp' v y:=by
 rw[hY] at hy
 cases hx:xs[j]? with
 | none=>rw[hx] at hy;cases hy
 | some x=>rw[hx] at hy;cases hy;exact U2 S hR (h j v x hv hx)
theorem U4 (S:aO P w I β hp B M w0) {ord:List Nat} (hR:yl hp β ord hp' β') {n:Nat} {v:Value} {x:V} (hv:au P w I β hp v x) (hF:lP hp' β' n (xy hp ord n x).2):
  au P w I β' hp' v (xy hp ord n x).1:=by
 cases x with
 | nilS e=>
  obtain ⟨h1,h2⟩:=hF 0 _ rfl
  cases hv with
  | nilS=>exact .ep h1 h2
 | fn f a b=>
  cases hv with
  | fn q1 q2 q3 q4=>exact .fn (by simpa using q1) (U3 S hR q2) (by simpa using q3) (U3 S hR q4)
 | _=>exact U2 S hR hv
end
section
variable {P:Program} {A:cW} {w w':World} {I I' I2:Nat→Prop} {μ β β':Nat→Option Nat} {hp hp':Nat→Option ao} {C:af} {B:Nat} {M:Nat→Prop} {w0:Start}
theorem lP.left {n:Nat} {a b:List ao} (h:lP hp' β' n (a++b)):lP hp' β' n a:=fun k x hx=>
 h k x (by rw[kT (bH.1 hx).1];exact hx)
theorem lP.right {n:Nat} {a b:List ao} (h:lP hp' β' n (a++b)):lP hp' β' (n+a.length) b:=fun k x hx=>by
 have:=h (a.length+k) x (by rw[kh (by omega),Nat.add_sub_cancel_left];exact hx)
 rwa [←pg] at this
def nv (bs:List ao):Prop:= ∀b∈bs,∃e,b= .arr e [] false
theorem nv.app {a b:List ao} (h1:nv a) (h2:nv b):nv (a++b):=fun x hx=>(cZ.1 hx).elim (h1 x) (h2 x)
theorem nv.nil:nv []:=fun x hx=>by simp at hx
theorem U5 {ord:List Nat} {n:Nat} {x:V}:nv (xy hp ord n x).2:=by
 cases x<;>simp only[xy]<;>first|exact .nil|skip
 intro b hb
 simp only[cV] at hb
 exact ⟨_,hb⟩
theorem Ml {ord:List Nat}: ∀{xs:List V} {n:Nat},nv (oy hp ord n xs).2
 | [],n=> .nil
 | x::xs,n=>by
  simp only[oy]
  exact U5.app Ml
theorem Hs {ord:List Nat}: ∀{xs:List V} {n:Nat},(oy hp ord n xs).1.length=xs.length
 | [],n=>rfl
 | x::xs,n=>by simp only[oy,List.length_cons,Hs]
theorem Ht (S:aO P w I β hp B M w0) {ord:List Nat} (hR:yl hp β ord hp' β'): ∀{xs:List V} {vs:List Value} {n:Nat},(∀(j:Nat) v x,vs[j]? =some v→xs[j]? =some x→au P w I β hp v x)→
  lP hp' β' n (oy hp ord n xs).2→∀(j:Nat) v y,vs[j]? =some v→(oy hp ord n xs).1[j]? =some y→au P w I β' hp' v y
 | [],vs,n,h,hF,j,v,y,hv,hy=>by simp[oy] at hy
 | x::xs,vs,n,h,hF,j,v,y,hv,hy=>by
  simp only[oy] at hF hy
  cases j with
  | zero=>
   simp at hy
   subst hy
   exact U4 S hR (h 0 v x hv rfl) hF.left
  | succ j=>
   cases vs with
   | nil=>simp at hv
   | cons v0 vs=>exact Ht S hR (vs:=vs) (fun j v x hj hx=>h (j+1) v x (by simpa using hj) (by simpa using hx)) hF.right j v y (by simpa using hv) (by simpa using hy)
theorem aeq {ord:List Nat} {n:Nat} {x:V}:nv (rN hp ord n x).2:=by
 cases x<;>simp only[rN]<;>first|exact U5|exact Ml
theorem aer (S:aO P w I β hp B M w0) {ord:List Nat} (hR:yl hp β ord hp' β') {n:Nat} {v:Value} {x:V} (hv:au P w I β hp v x) (hF:lP hp' β' n (rN hp ord n x).2):
  au P w I β' hp' v (rN hp ord n x).1:=by
 cases x with
 | agg cs=>
  obtain ⟨ds,rfl,h1,h2⟩:=hv.lL
  simp only[rN] at hF⊢
  exact .agg (by rw[Hs];exact h1) fun j v y hj hy=>Ht S hR (vs:=ds.toList) (fun j v x hj hx=>h2 j v x (by simpa using hj) hx) hF j v y (by simpa using hj) hy
 | bC cs=>
  obtain ⟨ds,rfl,h1,h2⟩:=hv.u6
  simp only[rN] at hF⊢
  exact .bC (by rw[Hs];exact h1) fun j v y hj hy=>Ht S hR (vs:=ds.toList) (fun j v x hj hx=>h2 j v x (by simpa using hj) hx) hF j v y (by simpa using hj) hy
 | _=>exact U4 S hR hv hF
theorem U6 {ord:List Nat} {sl:Nat→V}: ∀{l:List Nat} {n:Nat},nv (mo hp ord sl n l).2
 | [],n=> .nil
 | s::l,n=>by
  simp only[mo]
  exact aeq.app U6
theorem U7 {ord:List Nat} {sl:Nat→V} {k:Nat} {y:V}: ∀{l:List Nat} {n:Nat},lP hp' β' n (mo hp ord sl n l).2→eo (mo hp ord sl n l).1 k=some y→
  ∃n',lP hp' β' n' (rN hp ord n' (sl k)).2∧y=(rN hp ord n' (sl k)).1
 | [],n,_,h=>by cases h
 | s::l,n,hF,h=>by
  simp only[mo] at hF h
  simp only[eo] at h
  cases hb:Nat.beq k s with
  | true=>
   rw[hb] at h
   rw[bj] at hb
   subst hb
   cases h
   exact ⟨n,hF.left,rfl⟩
  | false=>
   rw[hb] at h
   exact U7 hF.right h
theorem aes {ord:List Nat} {n id:Nat}:nv (fI hp ord n id).2:=by
 unfold fI
 split
 ·exact Ml
 ·exact .nil
 ·exact .nil
 ·exact .nil
 ·exact .nil
theorem U8 {ord:List Nat}: ∀{l:List Nat} {n:Nat},nv (gC hp ord n l).2
 | [],n=> .nil
 | s::l,n=>by
  simp only[gC]
  exact aes.app U8
theorem U9 {ord:List Nat}: ∀{l:List Nat} {n:Nat},(gC hp ord n l).1.length=l.length
 | [],n=>rfl
 | x::xs,n=>by simp only[gC,List.length_cons,U9]
theorem Va {ord:List Nat}: ∀{l:List Nat} {n j:Nat} {id:Nat},l[j]? =some id→∃n',(lP hp' β' n (gC hp ord n l).2→lP hp' β' n' (fI hp ord n' id).2)∧(gC hp ord n l).1[j]? =some (fI hp ord n' id).1
 | [],n,j,id,h=>by simp at h
 | s::l,n,j,id,h=>by
  simp only[gC]
  cases j with
  | zero=>
   simp at h
   subst h
   exact ⟨n,fun hF=>hF.left,rfl⟩
  | succ j=>
   obtain ⟨n',h1,h2⟩:=Va (n:=n+(fI hp ord n s).2.length) (j:=j) (by simpa using h)
   exact ⟨n',fun hF=>h1 hF.right,by simpa using h2⟩
theorem Hu: ∀{l acc:List Nat},∃t,uP hp acc l=acc++t∧(acc.Nodup→(acc++t).Nodup)
 | [],acc=>⟨[],by simp[uP],by simp⟩
 | id::l,acc=>by
  simp only[uP]
  cases hb:(kV acc id|| !(So hp id)) with
  | true=>exact Hu
  | false=>
   obtain ⟨t,h1,h2⟩:=Hu (l:=l) (acc:=acc++[id])
   refine ⟨id::t,by simp only[cond_false,h1,dj,List.singleton_append],fun hn=> ?_⟩
   have:acc++id::t=(acc++[id])++t:=by simp
   rw[this]
   refine h2 ?_
   rw[uG]
   refine ⟨hn,by simp,fun a ha b aE=> ?_⟩
   simp only[cV] at aE
   subst aE
   intro e
   subst e
   rw[xN ha] at hb
   cases hb
theorem Vb: ∀{n:Nat} {l:List Nat},∃t,grow hp n l=l++t∧(l.Nodup→(l++t).Nodup)
 | 0,l=>⟨[],by simp[grow],by simp⟩
 | n+1,l=>by
  simp only[grow]
  obtain ⟨t,h1,h2⟩:=Hu (hp:=hp) (acc:=l) (l:=l.flatMap (KI hp))
  rw[h1]
  obtain ⟨t',h3,h4⟩:=Vb (n:=n) (l:=l++t)
  exact ⟨t++t',by rw[h3,dj],fun hn=>by rw[←dj];exact h4 (h2 hn)⟩
theorem aet {m:Nat} {live:List Nat} {st:St}: ∃t,KJ m live st=List.range m++t∧(List.range m++t).Nodup:=by
 unfold KJ
 obtain ⟨t,h1,h2⟩:=Hu (hp:=st.hp) (acc:=List.range m) (l:=live.flatMap fun s=>KH (st.sl s))
 rw[h1]
 obtain ⟨t',h3,h4⟩:=Vb (hp:=st.hp) (n:=3) (l:=List.range m++t)
 exact ⟨t++t',by rw[h3,dj],by rw[←dj];exact h4 (h2 List.nodup_range)⟩
end
section
variable {P:Program} {A:cW} {E:FuncId→Bool} {G:Nat→V} {w w':World} {I I' I2:Nat→Prop} {μ β β':Nat→Option Nat} {hp hp' hp0:Nat→Option ao} {C:af} {B:Nat} {M:Nat→Prop} {w0:Start}
theorem Vc {n m:Nat} {ord live:List Nat} {a:Act} {st:St} (nf:ord.Nodup) (Cc: ∀id,id<m→ord[id]? =some id∨∃p,ord[id]? =some p∧st.hp p=none) (S:aO P w I β st.hp B M w0) (hA:jG P E G w I β n a st) (hE:lN w0.w w0.I μ hp0 w I β st.hp) (hm: ∀id blk,hp0 id=some blk→id<m) (j7: ∀id e es av,hp0 id=some (.nest e es av)→∀k,bR av k=0):
  ∃β',aO P w I β' (xz ord live st).hp B M w0∧jG P E G w I β' n a (xz ord live st)∧lN w0.w w0.I μ hp0 w I β' (xz ord live st).hp:=by
 have aeu:xz ord live st=mk (mo st.hp ord st.sl (ord.length+(gC st.hp ord ord.length ord).2.length) live).1
   ((gC st.hp ord ord.length ord).1++((gC st.hp ord ord.length ord).2++(mo st.hp ord st.sl (ord.length+(gC st.hp ord ord.length ord).2.length) live).2)):=by
  rfl
 rw[aeu]
 let hp':=ki ((gC st.hp ord ord.length ord).1++((gC st.hp ord ord.length ord).2++(mo st.hp ord st.sl (ord.length+(gC st.hp ord ord.length ord).2.length) live).2))
 let β':Nat→Option Nat:=fun j=>if j<ord.length then (ord[j]?).bind β else none
 have hlen:(gC st.hp ord ord.length ord).1.length=ord.length:=U9
 have iH: ∀j,j<ord.length→hp' j=(gC st.hp ord ord.length ord).1[j]? :=by
  intro j hj
  simp only[hp',iV]
  rw[kT (by omega)]
 have gZ: ∀k,hp' (ord.length+k)=((gC st.hp ord ord.length ord).2++(mo st.hp ord st.sl (ord.length+(gC st.hp ord ord.length ord).2.length) live).2)[k]? :=by
  intro k
  simp only[hp',iV]
  rw[kh (by omega),hlen,Nat.add_sub_cancel_left]
 have hF:lP hp' β' ord.length ((gC st.hp ord ord.length ord).2++(mo st.hp ord st.sl (ord.length+(gC st.hp ord ord.length ord).2.length) live).2):=by
  intro k b hb
  refine ⟨(gZ k).trans hb,?_⟩
  simp only[β']
  rw[ah (by omega)]
 have B7:nv ((gC st.hp ord ord.length ord).2++(mo st.hp ord st.sl (ord.length+(gC st.hp ord ord.length ord).2.length) live).2):=U8.app U6
 have pL: ∀(j:Nat) id,ord[j]? =some id→β' j=β id:=by
  intro j id hj
  simp only[β']
  rw[ag (bH.1 hj).1,hj]
  rfl
 have sk: ∀(j:Nat) id,ord[j]? =some id→∃n',lP hp' β' n' (fI st.hp ord n' id).2∧hp' j=some (fI st.hp ord n' id).1:=by
  intro j id hj
  obtain ⟨n',h1,h2⟩:=Va (hp:=st.hp) (hp':=hp') (β':=β') (ord:=ord) (n:=ord.length) hj
  exact ⟨n',h1 hF.left,(iH j (bH.1 hj).1).trans h2⟩
 have hR:yl st.hp β ord hp' β':=by
  refine ⟨fun j id e es fz hj ai=> ?_,fun j id T cs hj ai=> ?_,fun j id hj ai=> ?_,pL,fun j id e es av hj ai=> ?_,fun j id t es hj ai=> ?_⟩
  ·obtain ⟨n',_,h2⟩:=sk j id hj
   rw[h2];simp only[fI,ai]
  ·obtain ⟨n',_,h2⟩:=sk j id hj
   rw[h2];simp only[fI,ai];exact ⟨_,rfl⟩
  ·obtain ⟨n',_,h2⟩:=sk j id hj
   rw[h2];simp only[fI,ai]
  ·obtain ⟨n',_,h2⟩:=sk j id hj
   rw[h2];simp only[fI,ai]
  ·obtain ⟨n',_,h2⟩:=sk j id hj
   rw[h2];simp only[fI,ai]
 have cls: ∀j blk',hp' j=some blk'→(∃id,ord[j]? =some id∧((blk'= .dead)∨∃blk,st.hp id=some blk∧blk≠ .dead∧∀o b,bL P w o blk' b→bL P w o blk b))∨(∃e,blk'= .arr e [] false∧β' j=none):=by
  intro j blk' hj
  rcases s6 j ord.length with h|h
  ·have gY:=bZ h
   obtain ⟨n',_,h2⟩:=sk j _ gY
   rw[hj] at h2
   refine .inl ⟨_,gY,?_⟩
   cases ai:st.hp ord[j] with
   | none=>left;simp only[fI,ai] at h2;exact dB h2
   | some blk=>
    cases blk with
    | dead=>left;simp only[fI,ai] at h2;exact dB h2
    | var T0 cs=>exact .inr ⟨_,rfl,by simp,fun o b h=>by simp only[fI,ai] at h2;rw[dB h2] at h;exact .root (by simp) (h.flat (by simp))⟩
    | arr e es fz=>exact .inr ⟨_,rfl,by simp,fun o b h=>by simp only[fI,ai] at h2;rw[dB h2] at h;exact .root (by simp) (h.flat (by simp))⟩
    | map t es=>exact .inr ⟨_,rfl,by simp,fun o b h=>by simp only[fI,ai] at h2;rw[dB h2] at h;exact .root (by simp) (h.flat (by simp))⟩
    | nest e es av=>
     refine .inr ⟨_,rfl,by simp,fun o b h=> ?_⟩
     simp only[fI,ai] at h2
     rw[dB h2] at h
     cases h with
     | root _ h=>exact .root (by simp) h
     | row h1 h2=>exact .row h1 h2
  ·obtain ⟨k,rfl⟩: ∃k,j=ord.length+k:=⟨j-ord.length,by omega⟩
   rw[gZ] at hj
   obtain ⟨e,he⟩:=B7 _ (kg hj)
   exact .inr ⟨e,he,(hF k _ hj).2⟩
 refine ⟨β',⟨⟨fun j blk' hj=> ?_,fun j1 j2 b1 b2 b e1 e2 f1 f2=> ?_,fun j blk b e1 f1=> ?_,S.h.ko⟩,S.cJ,S.size,S.new,S.io⟩,⟨fun k=> ?_,hA.size,hA.defers,hA.aL⟩,⟨hE.dO,hE.cJ,fun id blk ai=> ?_,fun id blk blk' b ai bS hd hb=> ?_⟩⟩
 ·change hp' j=some blk' at hj
  rcases s6 j ord.length with h|h
  ·have gY:=bZ h
   obtain ⟨n',Vd,h2⟩:=sk j _ gY
   rw[hj] at h2
   rw[pL j _ gY]
   cases ai:st.hp ord[j] with
   | none=>simp only[fI,ai] at h2;rw[dB h2];exact .dead
   | some blk=>
    have hr:=S.h.rel _ _ ai
    generalize β ord[j]=o at hr
    cases hr with
    | dead=>simp only[fI,ai] at h2;rw[dB h2];exact .dead
    | er hb=>simp only[fI,ai] at h2;rw[dB h2];exact .er hb
    | arr a1 a2 a3 a4 a5 a6 a7=>simp only[fI,ai] at h2;rw[dB h2];exact .arr a1 a2 a3 a4 a5 a6 a7
    | nest a1 a2 a3=>simp only[fI,ai] at h2;rw[dB h2];exact .nest a1 a2 a3
    | map a1 a2 a3 a4 a5 a6 a7=>simp only[fI,ai] at h2;rw[dB h2];exact .map a1 a2 a3 a4 a5 a6 a7
    | @var xs b Ca T hb hh hs dp hx ic=>
     simp only[fI,ai] at h2 Vd
     rw[dB h2]
     exact .var hb hh (by rw[Hs];exact hs) dp (fun i v y hi hy=>Ht S hR (vs:=Ca.toList) (fun i v x hi cU=>hx i v x (by simpa using hi) cU) Vd i v y (by simpa using hi) hy) ic
  ·rcases cls j blk' hj with ⟨id,ai,_⟩|⟨e,he,hb⟩
   ·have:=(bH.1 ai).1;omega
   ·rw[he];exact .er hb
 ·rcases cls j1 b1 e1 with ⟨Mm,o1,x1⟩|⟨e,_,hb⟩
  ·rcases cls j2 b2 e2 with ⟨cX,o2,x2⟩|⟨e,_,hb⟩
   ·obtain ⟨c1,y1,z1,g1⟩:=x1.resolve_left f1.alive
    obtain ⟨c2,y2,z2,g2⟩:=x2.resolve_left f2.alive
    rw[pL _ _ o1] at f1
    rw[pL _ _ o2] at f2
    have:=S.h.inj Mm cX c1 c2 b y1 y2 (g1 _ _ f1) (g2 _ _ f2)
    subst this
    obtain ⟨q1,q2⟩:=bH.1 o1
    obtain ⟨q3,q4⟩:=bH.1 o2
    exact (List.getElem_inj nf).1 (q2.trans q4.symm)
   ·subst ‹b2=_›;have:=f2.flat (by simp);rw[hb] at this;cases this
  ·subst ‹b1=_›;have:=f1.flat (by simp);rw[hb] at this;cases this
 ·rcases cls j blk e1 with ⟨Mm,o1,x1⟩|⟨e,_,hb⟩
  ·obtain ⟨c1,y1,z1,g1⟩:=x1.resolve_left f1.alive
   rw[pL _ _ o1] at f1
   exact S.h.own Mm c1 b y1 (g1 _ _ f1)
  ·subst ‹blk=_›;have:=f1.flat (by simp);rw[hb] at this;cases this
 ·change au P w I β' hp' (a.tmps.getD k undef) (jX _ k)
  unfold jX
  cases LZ:eo (mo st.hp ord st.sl (ord.length+(gC st.hp ord ord.length ord).2.length) live).1 k with
  | none=>exact .undef
  | some y=>
   obtain ⟨n',h1,h2⟩:=U7 hF.right LZ
   simp only[Option.getD_some,h2]
   exact aer S hR (hA.sl k) h1
 ·obtain ⟨sg,k1,k2,k3⟩:=hE.blk id blk ai
  rcases Cc id (hm id blk ai) with ho|⟨p,ho,bI⟩
  ·cases sg with
   | dead=>exact ⟨.dead,hR.dead id id ho k1,k2,fun h=>absurd rfl h⟩
   | var T0 cs=>
    obtain ⟨jm,h'⟩:=hR.var id id T0 cs ho k1
    refine ⟨_,h',?_,fun _=>(pL id id ho).trans (k3 (by simp))⟩
    cases blk<;>simp_all [ao.le]
   | arr e es fz=>exact ⟨_,hR.arr id id e es fz ho k1,k2,fun _=>(pL id id ho).trans (k3 (by simp))⟩
   | map t es=>exact ⟨_,hR.map id id t es ho k1,k2,fun _=>(pL id id ho).trans (k3 (by simp))⟩
   | nest e es av=>
    refine ⟨_,hR.nest id id e es av ho k1,?_,fun _=>(pL id id ho).trans (k3 (by simp))⟩
    obtain ⟨KR,ab7,rfl,l1,l2,_⟩:=ao.KP k2
    exact ⟨rfl,l1,by simpa using l2,fun k=>by rw[j7 id _ _ _ ai k];exact jS _⟩
  ·obtain ⟨n',_,h2⟩:=sk id p ho
   simp only[fI,bI] at h2
   exact ⟨.dead,h2,by cases blk<;>trivial,fun h=>absurd rfl h⟩
 ·obtain ⟨sg,k1,k2,k3⟩:=hE.blk id blk ai
  rcases Cc id (hm id blk ai) with ho|⟨p,ho,bI⟩
  ·refine hE.size id blk sg b ai k1 (fun sj=> ?_) hb
   subst sj
   have:=hR.dead id id ho k1
   change hp' id=some blk' at bS
   rw[this] at bS
   exact hd (dB bS).symm
  ·obtain ⟨n',_,h2⟩:=sk id p ho
   simp only[fI,bI] at h2
   change hp' id=some blk' at bS
   rw[h2] at bS
   exact absurd (dB bS).symm hd
theorem aev {n m:Nat} {live:List Nat} {a:Act} {st:St} (S:aO P w I β st.hp B M w0) (hA:jG P E G w I β n a st) (hE:lN w0.w w0.I μ hp0 w I β st.hp) (hm: ∀id blk,hp0 id=some blk→id<m) (j7: ∀id e es av,hp0 id=some (.nest e es av)→∀k,bR av k=0):
  ∃β',aO P w I β' (canon m live st).hp B M w0∧jG P E G w I β' n a (canon m live st)∧lN w0.w w0.I μ hp0 w I β' (canon m live st).hp:=by
 obtain ⟨t,Cc,nf⟩:=aet (m:=m) (live:=live) (st:=st)
 refine Vc (by rw[Cc];exact nf) (fun id aR=> .inl ?_) S hA hE hm j7
 rw[Cc,kT (by simpa using aR)]
 simp[aR]
theorem Ve: ∀{l:List Nat},po l=true→l.Nodup
 | [],_=> .nil
 | a::l,h=>by
  simp only[po,aU,pf] at h
  rw[qp]
  exact ⟨fun hm=>Bool.noConfusion ((xN hm).symm.trans h.1),Ve h.2⟩
theorem aew {m:Nat} {mv:List Nat} {id:Nat} (h:id<m):(m8 m mv)[id]? =some id∨(m8 m mv)[id]? =some (m+id):=by
 unfold m8
 rw[kT (by simpa using h),hY]
 simp only[List.getElem?_range h,Option.map_some]
 cases kV mv id with
 | true=>exact .inr rfl
 | false=>exact .inl rfl
end
section
variable {P:Program} {A:cW} {w w':World} {I I' I2:Nat→Prop} {μ β β':Nat→Option Nat} {hp hp' hp0:Nat→Option ao} {C:af} {B:Nat} {M:Nat→Prop} {w0:Start}
theorem Hv (p:Nat→Prop) (h: ∃n,p n): ∃n,p n∧∀m,p m→n≤m:=by
 obtain ⟨n,hn⟩:=h
 induction n using Nat.strongRecOn with
 | _ n ih=>
  by_cases hx: ∃m,m<n∧p m
  ·obtain ⟨m,hm,hp⟩:=hx
   exact ih m hm hp
  ·exact ⟨n,hn,fun m hm=>Nat.le_of_not_lt fun aR=>hx ⟨m,aR,hm⟩⟩
open Classical in
theorem aex {c:Code} {Q:Exit→Act→World→Prop} (J:Nat→Act→World→Prop) (h0: ∀a w,¬J 0 a w) (round: ∀n a w,J (n+1) a w→c.wp P (Exit.then (J n) Q) a w) {n:Nat} {a:Act} {w:World} (h:J n a w):
  (Code.loop c).wp P Q a w:=by
 refine wp_loop (fun a w=> ∃n,J n a w) (fun a w=>if h: ∃n,J n a w then (Hv _ h).choose else 0) ⟨n,h⟩ fun a w hJ=> ?_
 obtain ⟨h1,h2⟩:=(Hv _ hJ).choose_spec
 generalize hk:(Hv _ hJ).choose=k at h1 h2
 cases k with
 | zero=>exact absurd h1 (h0 a w)
 | succ k=>
  refine wp_mono (round k a w h1) fun e a' w' he=> ?_
  cases e with
  | normal=>
   have hex: ∃n,J n a' w':=⟨k,he⟩
   refine ⟨hex,?_⟩
   have h3:=(Hv _ hex).choose_spec.2 k he
   rw[qk hex,qk hJ,hk]
   omega
  | _=>exact he
def ym:Out→Exit
 | .norm=> .normal
 | .exit id=> .exit id
 | .ret=> .ret
def Inv (P:Program) (E:FuncId→Bool) (G:Nat→V) (B:Nat) (M:Nat→Prop) (w0:Start) (μ:Nat→Option Nat) (hp0:Nat→Option ao) (n:Nat) (a:Act) (w:World) (st:St):Prop:=
 ∃I β,aO P w I β st.hp B M w0∧jG P E G w I β n a st∧lN w0.w w0.I μ hp0 w I β st.hp
theorem Inv.canon {E:FuncId→Bool} {G:Nat→V} {n m:Nat} {a:Act} {st:St} {live:List Nat} (h:Inv P E G B M w0 μ hp0 n a w st) (hm: ∀id blk,hp0 id=some blk→id<m) (j7: ∀id e es av,hp0 id=some (.nest e es av)→∀k,bR av k=0):Inv P E G B M w0 μ hp0 n a w (canon m live st):=by
 obtain ⟨I,β,S,hA,hE⟩:=h
 obtain ⟨β',a,b,c⟩:=aev (live:=live) S hA hE hm j7
 exact ⟨I,β',a,b,c⟩
theorem Hw: ∀{l:List BS} {ds:List V},(fx l ds).length=l.length
 | [],_=>rfl
 | b::l,ds=>by simp only[fx,List.length_cons,Hw]
theorem Inv.enter {A:cW} {E:FuncId→Bool} {G:Nat→V} {n f:Nat} {ds:List V} {a:Act} (jF:po (m8 (A.sin f).bf.length (A.mv f))=true) (h:Inv P E G B M w0 μ hp0 n a w (bA (A.sin f) ds)) (hm: ∀id blk,hp0 id=some blk→id<(A.sin f).bf.length)
  (j7: ∀id e es av,hp0 id=some (.nest e es av)→∀k,bR av k=0) (yn: ∀p,(A.sin f).bf.length≤p→(bA (A.sin f) ds).hp p=none):Inv P E G B M w0 μ hp0 n a w (Bf A f ds):=by
 unfold Bf
 split
 ·exact h
 ·obtain ⟨I,β,S,hA,hE⟩:=h
  obtain ⟨β',x,y,z⟩:=Vc (m:=(A.sin f).bf.length) (ord:=m8 (A.sin f).bf.length (A.mv f)) (live:=(A.sin f).bQ.map (·.1)) (Ve jF) (fun id ai=>(aew ai).imp (fun h=>h) fun h=>⟨_,h,yn _ (by omega)⟩) S hA hE hm j7
  exact ⟨I,β',x,y,z⟩
theorem Inv.reshape {E:FuncId→Bool} {G:Nat→V} {n m:Nat} {a:Act} {st:St} {S:Shape} {ds:List V} (h:Inv P E G B M w0 μ hp0 n a w st) (hs:ju m S st=some ds) (hm: ∀id blk,hp0 id=some blk→id<m):Inv P E G B M w0 μ hp0 n a w (bA S ds):=by
 obtain ⟨I,β,S1,hA,hE⟩:=h
 obtain ⟨r1,r2,_,r4⟩:=AM.reshape hs S1
 refine ⟨I,β,r1,⟨fun k=>r2 k _ (hA.sl k),hA.size,hA.defers,hA.aL⟩,⟨hE.dO,hE.cJ,fun id blk ai=> ?_,fun id blk blk' b ai bS hd hb=> ?_⟩⟩
 ·obtain ⟨sg,k1,k2,k3⟩:=hE.blk id blk ai
  obtain ⟨_,hle,_⟩:=TV hs
  have hl:=hm id blk ai
  obtain ⟨cz,h2⟩: ∃cz,(bA S ds).hp id=some cz:=by
   simp only[bA,mk,iV]
   exact ⟨_,bZ (by rw[Hw];omega)⟩
  by_cases hd:cz= .dead
  ·subst hd
   exact ⟨_,h2,by cases blk<;>trivial,fun h=>absurd rfl h⟩
  ·obtain ⟨iR,e1,e2,_⟩:=r4 id cz h2 hd
   rw[k1] at e1;cases e1
   exact ⟨_,h2,ao.le_trans k2 e2,fun _=>k3 (fun e=>hd (ao.qB (e▸e2)))⟩
 ·obtain ⟨iR,e1,e2,_⟩:=r4 id blk' bS hd
  exact hE.size id blk iR b ai e1 (fun e=>hd (ao.qB (e▸e2))) hb
theorem lO.here (h:lO P A C) (f:Nat) (id:Nat):lO P (A.here f id) C:=by
 intro key ds es hh
 obtain ⟨fn,c,h1,h2,h3⟩:=h key ds es hh
 refine ⟨fn,c,h1,h2,fun w I μ vals a g b d=>(h3 w I μ vals a g b d).mono fun e w' hx=> ?_⟩
 obtain ⟨v,I2,cA,q1,q2⟩:=hx
 exact ⟨v,I2,cA,q1,⟨q2.yd,q2.le,q2.res⟩⟩
theorem aey {a b:Out} (h:Gi a b=true):a=b:=by
 cases a<;>cases b<;>simp[Gi] at h<;>first|rfl|(subst h;rfl)
theorem Vf {m:Nat} {r:Out × St}: ∀{l:List (Out × Shape)} {j:Nat} {e:Nat × List V},ways m j l r=some e→j≤e.1
 | [],j,e,h=>by cases h
 | (o,S)::l,j,e,h=>by
  simp only[ways] at h
  split at h
  ·cases h;exact bN _
  ·have:=Vf h;omega
theorem Mn {m:Nat} {o:Out} {s:St} {out:Out} {st':St}: ∀{l:List (Out × Shape)} {k:Nat} {e:Nat × List V},ways m k l (o,s)=some e→k0 k l e.1 e.2 (fun o st=>some (o,st))=some (out,st')→
  out=o∧∃S,ju m S s=some e.2∧st'=bA S e.2
 | [],k,e,h,_=>by cases h
 | (o',S)::l,k,e,h,h2=>by
  simp only[ways] at h
  split at h
  ·rename_i ds hx
   cases h
   cases ho:Gi o' o with
   | false=>rw[ho] at hx;cases hx
   | true=>
    rw[ho] at hx
    have:=aey ho
    subst this
    cases l with
    | nil=>
     simp only[k0,eN,kU] at h2
     exact ⟨h2.1.symm,S,hx,h2.2.symm⟩
    | cons p l=>
     simp only[k0,kf,cond_true,eN,kU] at h2
     exact ⟨h2.1.symm,S,hx,h2.2.symm⟩
  ·have qJ:=Vf h
   cases l with
   | nil=>cases h
   | cons p l=>
    have bX:Nat.beq e.1 k=false:=by
     cases hb:Nat.beq e.1 k with
     | false=>rfl
     | true=>rw[bj] at hb;omega
    simp only[k0,bX,cond_false] at h2
    exact Mn h h2
theorem aez (hC:lO P A C) (hP:jn P A) (oP:P.follows .mixedOrders=true) {f n m:Nat} (hm: ∀id blk,hp0 id=some blk→id<m) (j7: ∀id e es av,hp0 id=some (.nest e es av)→∀k,bR av k=0):
  ∀(c:Code) {st st':St} {out:Out} {Q:Exit→Act→World→Prop} {a:Act} {w:World},exec P A C f n m c st=some (out,st')→Inv P A.idle A.aL B M w0 μ hp0 n a w st→
   (∀a' w',Inv P A.idle A.aL B M w0 μ hp0 n a' w' st'→Q (ym out) a' w')→c.wp P Q a w:=by
 intro c
 induction c with
 | skip=>
  intro st st' out Q a w h hI hQ
  simp only[exec,eN,kU] at h
  obtain ⟨rfl,rfl⟩:=h
  exact wp_skip (hQ a w hI)
 | exit id=>
  intro st st' out Q a w h hI hQ
  simp only[exec,eN,kU] at h
  obtain ⟨rfl,rfl⟩:=h
  exact wp_exit (hQ a w hI)
 | ret=>
  intro st st' out Q a w h hI hQ
  simp only[exec,eN,kU] at h
  obtain ⟨rfl,rfl⟩:=h
  exact wp_ret (hQ a w hI)
 | region id ops draw=>
  intro st st' out Q a w h hI hQ
  simp only[exec] at h
  obtain ⟨jH,h1,h2⟩:=bind_some h
  simp only[eN,kU] at h2
  obtain ⟨rfl,rfl⟩:=h2
  obtain ⟨I,β,S,hA,hE⟩:=hI
  refine aeo (hC.here f id) (hP.here f id) oP h1 S hA fun a' w' I' β' k1 k2 k3=> ?_
  obtain ⟨I2,l1,l2,l3⟩:=U0 (m:=m) (pur:=A.pur f id) k2 k3
  have hE2:=(hE.trans k1.Hd).trans l1.Hd
  exact hQ a' w' (Inv.canon ⟨I2,β',l2,l3,hE2⟩ hm j7)
 | seq x y gU gV=>
  intro st st' out Q a w h hI hQ
  simp only[exec] at h
  obtain ⟨⟨o1,jH⟩,h1,h2⟩:=bind_some h
  refine wp_seq (gU h1 hI fun a' w' kB=> ?_)
  cases o1 with
  | norm=>exact gV h2 kB hQ
  | exit id=>
   simp only[eN,kU] at h2
   obtain ⟨rfl,rfl⟩:=h2
   exact hQ a' w' kB
  | ret=>
   simp only[eN,kU] at h2
   obtain ⟨rfl,rfl⟩:=h2
   exact hQ a' w' kB
 | cond c x y gU gV=>
  intro st st' out Q a w h hI hQ
  cases c with
  | tmp t=>
   have go: ∀{st st':St} {out:Out} {Q:Exit→Act→World→Prop} {a:Act} {w:World},(match st.sl t with
     | .bool b=>(bif b then exec P A C f n m x st else exec P A C f n m y st).bind fun r=>
      match r.1 with
      | .norm=>some (.norm,AM.canon m (A.join f t) r.2)
      | _=>some r
     | _=>none)=some (out,st')→Inv P A.idle A.aL B M w0 μ hp0 n a w st→(∀a' w',Inv P A.idle A.aL B M w0 μ hp0 n a' w' st'→Q (ym out) a' w')→(Code.cond (.tmp t) x y).wp P Q a w:=by
    intro st st' out Q a w h hI hQ
    cases hs:st.sl t<;>rw[hs] at h<;>simp only at h<;>first|(cases h;done)|skip
    rename_i b
    obtain ⟨⟨o1,jH⟩,h1,h2⟩:=bind_some h
    obtain ⟨I,β,S,hA,hE⟩:=hI
    have fL:a.eval (.tmp t)= .bool b:=by
     have:=Uz hA hs
     simp[Act.eval,this]
    have fin: ∀a' w',Inv P A.idle A.aL B M w0 μ hp0 n a' w' jH→Q (ym o1) a' w':=by
     intro a' w' kB
     cases o1 with
     | norm=>
      simp only[eN,kU] at h2
      obtain ⟨rfl,rfl⟩:=h2
      exact hQ a' w' (kB.canon hm j7)
     | exit id=>
      simp only[eN,kU] at h2
      obtain ⟨rfl,rfl⟩:=h2
      exact hQ a' w' kB
     | ret=>
      simp only[eN,kU] at h2
      obtain ⟨rfl,rfl⟩:=h2
      exact hQ a' w' kB
    refine wp_cond fL ?_
    cases b with
    | true=>exact gU h1 ⟨I,β,S,hA,hE⟩ fin
    | false=>exact gV h1 ⟨I,β,S,hA,hE⟩ fin
   simp only[exec] at h
   split at h
   ·exact go h hI hQ
   ·obtain ⟨ds,h1,h2⟩:=bind_some h
    obtain ⟨e,h3,h4⟩:=bind_some h2
    obtain ⟨⟨o1,s1⟩,h5,h6⟩:=bind_some h3
    obtain ⟨rfl,S',k1,rfl⟩:=Mn h6 h4
    exact go h5 (hI.reshape h1 hm) fun a' w' kB=>hQ a' w' (kB.reshape k1 hm)
  | const v=>
   cases v with
   | bool b=>
    simp only[exec] at h
    refine wp_cond (t:=b) rfl ?_
    cases b with
    | true=>exact gU h hI hQ
    | false=>exact gV h hI hQ
   | _=>simp only[exec] at h;cases h
  | _=>simp only[exec] at h;cases h
 | block id c ih=>
  intro st st' out Q a w h hI hQ
  simp only[exec] at h
  obtain ⟨⟨o1,jH⟩,h1,h2⟩:=bind_some h
  refine wp_block (ih h1 hI fun a' w' kB=> ?_)
  cases o1 with
  | norm=>
   simp only[eN,kU] at h2
   obtain ⟨rfl,rfl⟩:=h2
   exact hQ a' w' (kB.canon hm j7)
  | exit aJ=>
   simp only at h2
   cases hb:Nat.beq aJ id with
   | true=>
    rw[hb] at h2
    simp only[cond_true,eN,kU] at h2
    obtain ⟨rfl,rfl⟩:=h2
    rw[bj] at hb
    simp only[ym,Exit.inBlock,hb,cy]
    exact hQ a' w' (kB.canon hm j7)
   | false=>
    rw[hb] at h2
    simp only[cond_false,eN,kU] at h2
    obtain ⟨rfl,rfl⟩:=h2
    have bX:aJ≠id:=fun e=>by rw[e,kf] at hb;cases hb
    simp only[ym,Exit.inBlock,bX,fg]
    exact hQ a' w' kB
  | ret=>
   simp only[eN,kU] at h2
   obtain ⟨rfl,rfl⟩:=h2
   exact hQ a' w' kB
 | loop c ih=>
  intro st st' out Q a w h hI hQ
  simp only[exec] at h
  split at h
  ·cases h
  ·rename_i S hS
   obtain ⟨ds,h1,h2⟩:=bind_some h
   obtain ⟨e,h3,h4⟩:=bind_some h2
   obtain ⟨k,hk⟩:=xl h3
   refine aex (J:=fun k a w=> ∃ds,Inv P A.idle A.aL B M w0 μ hp0 n a w (bA S.1 ds)∧fv (fun ds=>lI m S.1 S.2 (exec P A C f n m c (bA S.1 ds))) k ds=some e) (fun a w ⟨s,_,h⟩=>by cases h) (fun k a w ⟨ds,hs,hk⟩=> ?_) ⟨ds,hI.reshape h1 hm,hk⟩
   simp only[fv] at hk
   obtain ⟨y,h5,h6⟩:=bind_some hk
   unfold lI at h5
   obtain ⟨⟨o1,s1⟩,h7,h8⟩:=bind_some h5
   refine ih h7 hs fun a' w' kB=> ?_
   have Vg: ∀{e':Nat × List V},ways m 0 S.2 (o1,s1)=some e'→e'=e→Q (ym o1) a' w':=by
    intro e' q1 q2
    subst q2
    obtain ⟨rfl,S',k1,rfl⟩:=Mn q1 h4
    exact hQ a' w' (kB.reshape k1 hm)
   cases o1 with
   | norm=>
    obtain ⟨ds2,q1,q2⟩:=bind_some h8
    cases q2
    exact ⟨ds2,kB.reshape q1 hm,h6⟩
   | exit id=>
    obtain ⟨e',q1,q2⟩:=bind_some h8
    cases q2
    cases h6
    exact Vg q1 rfl
   | ret=>
    obtain ⟨e',q1,q2⟩:=bind_some h8
    cases q2
    cases h6
    exact Vg q1 rfl
 | _=>intro st st' out Q a w h;simp only[exec] at h;cases h
end
section
variable {P:Program} {A:cW} {w w':World} {I I' I2:Nat→Prop} {μ β β' cA:Nat→Option Nat} {hp hp' hp0:Nat→Option ao} {C:af} {B:Nat} {M:Nat→Prop} {w0:Start}
theorem Hy (S:aO P w I β hp B M w0) {a:Act} {st:St} (hs:lJ P w I β hp a st.sl): ∀{l:List ResultVar} {xs:List V} {rd:List Nat},(uS P st l).run C hp=some (xs,rd)→
  ∃vs:List Value,(l.mapM fun| .tmp t=>Pure.pure (a.tmps.getD t undef)| .cell x t=>do loadVar t (←asAddr (a.tmps.getD x undef)):Sem (List Value)).run P w= .ok vs w∧vs.length=xs.length∧l.length=xs.length∧
   ∀(j:Nat) v x,vs[j]? =some v→xs[j]? =some x→au P w I β hp v x
 | [],xs,rd,h=>by
  cases h
  exact ⟨[],by simp,rfl,rfl,by simp⟩
 | .tmp t::l,xs,rd,h=>by
  simp only[uS] at h
  obtain ⟨ys,l1,l2,h1,h2⟩:=lK h
  have h3:=KT h2
  subst h3
  obtain ⟨vs,a1,a2,a3,a4⟩:=Hy S hs h1
  refine ⟨a.tmps.getD t undef::vs,by simp only[List.mapM_cons,Sem.run_bind,Sem.run_pure,Result.andThen_ok,a1],by simp[a2],by simp[a3],fun j v x hj hx=> ?_⟩
  cases j with
  | zero=>simp at hj hx;subst hj;subst hx;have:=hs t;simpa using this
  | succ j=>exact a4 j v x (by simpa using hj) (by simpa using hx)
 | .cell y t::l,xs,rd,h=>by
  simp only[uS] at h
  obtain ⟨r,l1,l2,h1,h2⟩:=lK h
  obtain ⟨ys,l3,l4,h3,h4⟩:=lK h2
  have h5:=KT h4
  subst h5
  obtain ⟨v0,b1,b2,b3,ad,b4⟩:=SK S (hs y) h1
  obtain ⟨vs,a1,a2,a3,a4⟩:=Hy S hs h3
  refine ⟨v0::vs,?_,by simp[a2],by simp[a3],fun j v x hj hx=> ?_⟩
  ·have e1:(do loadVar t (←asAddr (a.tmps.getD y undef)):Sem Value).run P w= .ok v0 w:=by
    rw[b4] at b1⊢
    simpa[Instr.loadAt,Instr.sureAddr,asAddr] using b1
   simp only[List.mapM_cons,Sem.run_bind,e1,Result.andThen_ok,a1,Sem.run_pure]
  cases j with
  | zero=>simp at hj hx;subst hj;subst hx;exact b2
  | succ j=>exact a4 j v x (by simpa using hj) (by simpa using hx)
def vD:List Value→Value
 | [v]=>v
 | l=> .tuple l.toArray
theorem aeA {vs:List Value} (h:vs.length≠1):vD vs= .tuple vs.toArray:=by
 match vs,h with
 | [],_=>rfl
 | [v],h=>simp at h
 | v::v2::l,_=>rfl
theorem aeB {fn:Func} {a:Act} {st:St} (S:aO P w I β st.hp B M w0) (hs:lJ P w I β st.hp a st.sl) {xs:List V} {rd:List Nat} (h:(uS P st fn.results.toList).run C st.hp=some (xs,rd)):
  ∃vs:List Value,(results fn a.tmps).run P w= .ok (vD vs) w∧vs.length=xs.length∧
   ∀(j:Nat) v x,vs[j]? =some v→xs[j]? =some x→au P w I β st.hp v x:=by
 obtain ⟨vs,a1,a2,_,a4⟩:=Hy S hs h
 refine ⟨vs,?_,a2,a4⟩
 unfold results
 rw[Array.mapM_eq_mapM_toList]
 simp only[map_eq_pure_bind,bind_assoc,pure_bind,Sem.run_bind]
 refine (congrArg (fun r:Result (List Value)=>r.andThen _) a1).trans ?_
 simp only[Result.andThen_ok,Sem.run_pure]
 match vs with
 | []=>simp[vD]
 | [v]=>simp[vD]
 | v::v2::l=>simp[vD]
theorem Vh: ∀{args:List V} {i k:Nat},eo (oz i args) k=if i≤k then args[k-i]? else none
 | [],i,k=>by simp[oz,eo]
 | v::vs,i,k=>by
  simp only[oz,eo]
  cases hb:Nat.beq k i with
  | true=>
   rw[bj] at hb
   subst hb
   simp
  | false=>
   have bX:k≠i:=fun e=>by rw[e,kf] at hb;cases hb
   simp only[cond_false,Vh]
   by_cases h:i≤k
   ·rw[ag (by omega),ag h]
    obtain ⟨d,rfl⟩: ∃d,k=i+1+d:=⟨k-(i+1),by omega⟩
    rw[show i+1+d-(i+1)=d by omega,show i+1+d-i=d+1 by omega]
    rfl
   ·rw[ah (by omega),ah h]
theorem Mo: ∀{l:List (Nat × VS)} {ds:List V} {i k:Nat},jg i l=true→eo (gk l ds) k=if i≤k then (gA (l.map (·.2)) ds)[k-i]? else none
 | [],ds,i,k,_=>by simp[gk,gA,eo]
 | (q,s)::l,ds,i,k,h=>by
  simp only[jg,aU,bj] at h
  obtain ⟨rfl,h⟩:=h
  simp only[gk,eo,dZ,gA]
  cases hb:Nat.beq k q with
  | true=>
   rw[bj] at hb
   subst hb
   simp
  | false=>
   have bX:k≠q:=fun e=>by rw[e,kf] at hb;cases hb
   simp only[cond_false]
   rw[Mo h]
   by_cases h:q≤k
   ·rw[ag (by omega),ag h]
    obtain ⟨d,rfl⟩: ∃d,k=q+1+d:=⟨k-(q+1),by omega⟩
    rw[show q+1+d-(q+1)=d by omega,show q+1+d-q=d+1 by omega]
    rfl
   ·rw[ah (by omega),ah h]
theorem Vi: ∀{l:List (Nat × VS)} {ds:List V},(gk l ds).map (·.2)=gA (l.map (·.2)) ds
 | [],_=>rfl
 | (q,s)::l,ds=>by simp only[gk,dZ,gA,Vi]
theorem Mp: ∀{l:List VS} {ds:List V},(gA l ds).length=l.length
 | [],_=>rfl
 | s::l,ds=>by simp only[gA,List.length_cons,Mp]
theorem Vj: ∀{l:List (Nat × VS)} {ds:List V},(gk l ds).length=l.length
 | [],_=>rfl
 | (q,s)::l,ds=>by simp only[gk,List.length_cons,Vj]
theorem aeC {vals:List Value} {l:List (Nat × V)} (hl:vals.length=l.length) (h: ∀(j:Nat) v y,vals[j]? =some v→(l.map (·.2))[j]? =some y→au P w I β hp v y):au P w I β hp (vD vals) (qz l):=by
 match l,hl,h with
 | [],hl,h=>
  obtain rfl:vals=[]:=mg hl
  exact .bC rfl fun j v x _ hx=>by simp at hx
 | [(k,y)],hl,h=>
  match vals,hl,h with
  | [v],_,h=>exact h 0 v y rfl rfl
 | a::b::l,hl,h=>
  have bX:vals.length≠1:=by rw[hl];simp
  rw[aeA bX]
  simp only[qz]
  exact .bC (by simp[hl]) fun j v y hj hy=>h j v y (by simpa using hj) hy
theorem aeD {l:List BS} {ds:List V} {j:Nat} {e:TypeId} {es:List V} {av:List Nat} (h:(fx l ds)[j]? =some (.nest e es av)) (k:Nat):bR av k=0:=by
 obtain ⟨b,gq,_,h2⟩:=L5 h
 cases b<;>simp only[gS] at h2<;>cases h2
 match k with
 | 0=>rfl
 | 1=>rfl
 | 2=>rfl
 | _+3=>rfl
theorem aeE {f n m:Nat} {fn:Func} {a:Act} {st:St} {es:List V} {rd:List Nat} (hm: ∀id blk,hp0 id=some blk→id<m) (j7: ∀id e es av,hp0 id=some (.nest e es av)→∀k,bR av k=0)
  (hI:Inv P A.idle A.aL B M w0 μ hp0 n a w st) (pM:jg 0 (A.gj f).bQ=true) (bh:(A.gj f).bQ.length=fn.results.size) (h:(uT P A f fn m st).run C st.hp=some (es,rd)):
  ∃v I2 cA,(results fn a.tmps).run P w= .ok v w∧aO P w I2 cA (bA (A.so f es) (A.lv f es)).hp B M w0∧lN w0.w w0.I μ hp0 w I2 cA (bA (A.so f es) (A.lv f es)).hp∧au P w I2 cA (bA (A.so f es) (A.lv f es)).hp v (qz (gk (A.so f es).bQ (A.lv f es))):=by
 unfold uT at h
 obtain ⟨xs,l1,l2,h1,h2⟩:=lK h
 obtain ⟨I,β,S,hA,hE⟩:=hI
 obtain ⟨vals,e1,e2,e3⟩:=aeB S hA.sl h1
 have e4:fn.results.size=xs.length:=by
  obtain ⟨_,_,_,q,_⟩:=Hy S hA.sl h1
  simpa using q
 have fin: ∀(Sx:Shape) (es:List V),jg 0 Sx.bQ=true→Sx.bQ.length=fn.results.size→ju m Sx (canon m (List.range xs.length) (freeze m (A.uM f) ⟨jX (oz 0 xs),st.hp,st.nb⟩))=some es→
   ∃v I2 cA,(results fn a.tmps).run P w= .ok v w∧aO P w I2 cA (bA Sx es).hp B M w0∧lN w0.w w0.I μ hp0 w I2 cA (bA Sx es).hp∧au P w I2 cA (bA Sx es).hp v (qz (gk Sx.bQ es)):=by
  intro Sx es pM bh vE
  have hA0:jG P A.idle A.aL w I β vals.length ⟨vals.toArray,[]⟩ ⟨jX (oz 0 xs),st.hp,st.nb⟩:=by
   refine ⟨fun k=> ?_,by simp,by simp,hA.aL⟩
   change au P w I β st.hp _ (jX (oz 0 xs) k)
   unfold jX
   rw[Vh]
   simp only[jS,cy,Nat.sub_zero]
   cases hk:xs[k]? with
   | none=>exact .undef
   | some x=>
    have ku:k<vals.length:=by rw[e2];exact (bH.1 hk).1
    have:=e3 k vals[k] x (bZ ku) hk
    have e5:(vals.toArray).getD k undef=vals[k]:=by simp[ku]
    rw[Option.getD_some]
    exact e5▸this
  obtain ⟨I2,k1,k2,k3⟩:=U0 (st:=⟨jX (oz 0 xs),st.hp,st.nb⟩) (m:=m) (pur:=A.uM f) S hA0
  have hI2:Inv P A.idle A.aL B M w0 μ hp0 vals.length ⟨vals.toArray,[]⟩ w (freeze m (A.uM f) ⟨jX (oz 0 xs),st.hp,st.nb⟩):=⟨I2,β,k2,k3,hE.trans k1.Hd⟩
  obtain ⟨I3,Vk,q1,q2,q3⟩:=(hI2.canon (live:=List.range xs.length) hm j7).reshape vE hm
  refine ⟨vD vals,I3,Vk,e1,q1,q3,aeC (by rw[Vj,bh,e4,e2]) fun j v y hj hy=> ?_⟩
  have hv:=q2.sl j
  have cp:=(bH.1 hj).1
  have e5:(vals.toArray).getD j undef=v:=by
   have:=(bH.1 hj).2
   simp[cp,this]
  change au P w I3 Vk _ ((vals.toArray).getD j undef) (jX (gk Sx.bQ _) j) at hv
  rw[e5] at hv
  unfold jX at hv
  rw[Mo pM] at hv
  simp only[jS,cy,Nat.sub_zero] at hv
  rw[Vi] at hy
  rw[hy] at hv
  exact hv
 unfold cW.so cW.lv
 cases cK:A.alt f with
 | none=>
  rw[cK] at h2
  simp only at h2⊢
  split at h2
  ·rename_i gq vE
   have:=aY h2
   subst this
   exact fin _ _ pM bh vE
  ·cases h2
 | some S2=>
  rw[cK] at h2
  simp only at h2⊢
  split at h2
  ·rename_i gq vE
   have:=aY h2
   subst this
   exact fin _ _ pM bh vE
  ·split at h2
   ·rename_i gq vE
    obtain ⟨hc,h3⟩:=aP h2
    simp only[aU,bj] at hc
    have:=aY h3
    subst this
    exact fin _ _ hc.1 hc.2 vE
   ·cases h2
theorem aeF (hC:lO P A C) (hP:jn P A) (oP:P.follows .mixedOrders=true):lO P A (pr P A C):=by
 intro f ds es h
 unfold pr at h
 cases hf:P.funcs[A.aT f]? with
 | none=>rw[hf] at h;cases h
 | some fn=>
  rw[hf] at h
  simp only at h
  cases hb:fn.body with
  | none=>rw[hb] at h;cases h
  | some c=>
   rw[hb] at h
   simp only at h
   cases hc:(jg 0 (A.sin f).bQ&&(Nat.ble (A.sin f).bQ.length fn.ntmps&&((A.sin f).ok&&(jg 0 (A.gj f).bQ&&(Nat.beq (A.gj f).bQ.length fn.results.size&&po (m8 (A.sin f).bf.length (A.mv f))))))) with
   | false=>rw[hc] at h;cases h
   | true=>
    rw[hc] at h
    simp only[cond_true] at h
    simp only[aU,bj,dN] at hc
    obtain ⟨lj,hnt,_,yi,bh,jF⟩:=hc
    obtain ⟨⟨out,st'⟩,h1,h2⟩:=bind_some h
    refine ⟨fn,c,rfl,hb,fun w I μ vals hH hgl hl hv=> ?_⟩
    have aeG:(∀id,out≠ .exit id)∧∃rd,(uT P A f fn (A.sin f).bf.length st').run C st'.hp=some (es,rd):=by
     cases out with
     | exit id=>cases h2
     | norm=>
      refine ⟨by simp,?_⟩
      simp only[AP] at h2
      obtain ⟨⟨x,rd⟩,e1,e2⟩:=h2
      simp only at e2
      subst e2
      exact ⟨rd,e1⟩
     | ret=>
      refine ⟨by simp,?_⟩
      simp only[AP] at h2
      obtain ⟨⟨x,rd⟩,e1,e2⟩:=h2
      simp only at e2
      subst e2
      exact ⟨rd,e1⟩
    obtain ⟨bX,rd,LU⟩:=aeG
    refine calls_of_wp_defers hf hb ?_
    have hm: ∀id blk,(bA (A.sin f) ds).hp id=some blk→id<(A.sin f).bf.length:=by
     intro id blk ai
     simp only[bA,mk,iV] at ai
     have:=(bH.1 ai).1
     rwa [Hw] at this
    have j7: ∀id e es av,(bA (A.sin f) ds).hp id=some (.nest e es av)→∀k,bR av k=0:=by
     intro id e es av ai k
     simp only[bA,mk,iV] at ai
     exact aeD ai k
    refine aez (w0:=⟨w,I⟩) (μ:=μ) (hp0:=(bA (A.sin f) ds).hp) (B:=w.heap.size) (M:=pK P w μ (bA (A.sin f) ds).hp) hC hP oP hm j7 c h1 ?_ ?_
    ·refine Inv.enter jF ?_ hm j7 fun p hp=>by
      simp only[bA,mk,iV]
      rw[List.getElem?_eq_none_iff,Hw]
      exact hp
     refine ⟨I,μ,⟨hH,fun _ _ _=>rfl,bN _,fun b h=> .inl h,⟨rfl,rfl⟩⟩,⟨fun k=> ?_,?_,by simp,hgl⟩,(Le.refl (P:=P) w I μ _).Hd⟩
     ·change au P w I μ _ _ (jX (gk (A.sin f).bQ ds) k)
      unfold jX
      rw[Mo lj]
      simp only[jS,cy,Nat.sub_zero]
      cases hk:(gA ((A.sin f).bQ.map (·.2)) ds)[k]? with
      | none=>exact .undef
      | some x=>
       have ku:k<vals.length:=by
        have:=(bH.1 hk).1
        rw[Mp,aC] at this
        rw[hl];exact this
       have:=hv k vals[k] x (bZ ku) hk
       have e1:(vals.toArray++Array.replicate (fn.ntmps-vals.toArray.size) undef).getD k undef=vals[k]:=by
        simp[Array.getElem?_append,ku]
       rw[Option.getD_some]
       exact e1▸this
     ·simp
      omega
    ·intro a' w' hI
     obtain ⟨v,I2,cA,q1,q2,q3,q4⟩:=aeE hm j7 hI yi bh LU
     obtain ⟨_,_,_,hA,_⟩:=hI
     cases out with
     | exit id=>exact absurd rfl (bX id)
     | norm=>exact Mc hP q1 ⟨v,I2,cA,rfl,q2,q3,q4⟩ _ hA.defers
     | ret=>exact Mc hP q1 ⟨v,I2,cA,rfl,q2,q3,q4⟩ _ hA.defers
theorem Vl (hP:jn P A) (oP:P.follows .mixedOrders=true): ∀n,lO P A (k9 P A n)
 | 0=>fun _ _ _ h=>by cases h
 | n+1=>aeF (Vl hP oP n) hP oP
theorem aeH (hP:jn P A) (oP:P.follows .mixedOrders=true):lO P A (Call P A):=by
 intro f ds es h
 have hn: ∃n,k9 P A n f ds=some es:=by
  unfold Call at h
  split at h
  ·rename_i hex
   have:=hex.choose_spec.choose_spec
   rw[dB h] at this
   exact ⟨_,this⟩
  ·cases h
 obtain ⟨n,hn⟩:=hn
 exact Vl hP oP n f ds es hn
end
section
variable {P:Program} {A:cW} {C:af} {D:Nat→af}
def Cd (C:af) (D:Nat→af):Prop:= ∀f a r,C f a=some r→∃n,∀k,n≤k→D k f a=some r
theorem qP {α:Type} (h:Cd C D) {hp:Nat→Option ao}: ∀{p:Rd α} {r:α × List Nat},p.run C hp=some r→∃n,∀k,n≤k→p.run (D k) hp=some r
 | .ret a,r,e=>⟨0,fun _ _=>e⟩
 | .fail,r,e=>by cases e
 | .get id q,r,e=>by
  obtain ⟨x,h1,h2⟩:=bind_some e
  obtain ⟨n,hn⟩:=qP h h1
  exact ⟨n,fun k hk=>by simp only[Rd.run,hn k hk,Option.bind_some];exact h2⟩
 | .opt o q,r,e=>by
  obtain ⟨x,h1,h2⟩:=bind_some e
  obtain ⟨n,hn⟩:=qP h h2
  exact ⟨n,fun k hk=>by simp only[Rd.run,h1,Option.bind_some];exact hn k hk⟩
 | .live id ok q,r,e=>by
  simp only[Rd.run] at e
  cases hk:ok (hZ (hp id)) with
  | false=>rw[hk] at e;cases e
  | true=>
   rw[hk] at e
   obtain ⟨x,h1,h2⟩:=bind_some e
   obtain ⟨n,hn⟩:=qP h h1
   exact ⟨n,fun k oO=>by simp only[Rd.run,hk,cond_true,hn k oO,Option.bind_some];exact h2⟩
 | .aI b q,r,e=>by
  obtain ⟨h1,h2⟩:=aP e
  obtain ⟨n,hn⟩:=qP h h2
  exact ⟨n,fun k hk=>by simp only[Rd.run,h1,cond_true];exact hn k hk⟩
 | .call f a q,r,e=>by
  obtain ⟨x,h1,h2⟩:=bind_some e
  obtain ⟨n1,lj⟩:=h f a x h1
  obtain ⟨n2,yi⟩:=qP h h2
  exact ⟨max n1 n2,fun k hk=>by simp only[Rd.run,lj k (by omega),Option.bind_some];exact yi k (by omega)⟩
 | .alt true x y,r,e=>qP (p:=x) h e
 | .alt false x y,r,e=>qP (p:=y) h e
theorem aeI (h:Cd C D) {n i nb:Nat} {ops:Array Oper} {o:Oper} {st:St} {r:St × List Nat × List Nat} (e:iQ P A C n ops i o nb st=some r): ∃N,∀k,N≤k→iQ P A (D k) n ops i o nb st=some r:=by
 unfold iQ at e
 have go:(((gB P A st.sl i (nb+64*i) o).run C st.hp).bind fun r=>some ((⟨jd st.sl o.dst r.1.v,b9 st.hp r.1.upd,st.nb⟩:St),rO r.2 r.1.upd,gT st.hp r.1.upd))=some r→
   ∃N,∀k,N≤k→(((gB P A st.sl i (nb+64*i) o).run (D k) st.hp).bind fun r=>some ((⟨jd st.sl o.dst r.1.v,b9 st.hp r.1.upd,st.nb⟩:St),rO r.2 r.1.upd,gT st.hp r.1.upd))=some r:=by
  intro e
  obtain ⟨x,h1,h2⟩:=bind_some e
  obtain ⟨N,hN⟩:=qP h h1
  exact ⟨N,fun k hk=>by rw[hN k hk];exact h2⟩
 unfold iQ
 cases hd:tw o n with
 | false=>rw[hd] at e;cases e
 | true=>
  rw[hd] at e
  simp only[cond_true] at e⊢
  cases hg:o.guard with
  | none=>rw[hg] at e;exact go e
  | some gw=>
   obtain ⟨g,want⟩:=gw
   rw[hg] at e
   simp only at e⊢
   cases j6:(ops[g]?).bind (·.dst) with
   | none=>rw[j6] at e;cases e
   | some d=>
    rw[j6] at e
    simp only at e⊢
    cases nu:mj (st.sl d) with
    | none=>rw[nu] at e;cases e
    | some ob=>
    rw[nu] at e
    cases ob with
    | none=>exact ⟨0,fun _ _=>e⟩
    | some b=>
    simp only at e⊢
    cases hb:b==want with
    | true=>rw[hb] at e;exact go e
    | false=>rw[hb] at e;exact ⟨0,fun _ _=>e⟩
theorem Vm (h:Cd C D) {n nb:Nat} {ops:Array Oper}: ∀{l:List (Nat × Oper)} {st:St} {log:Log} {r:St × Log},qA P A C n ops nb l st log=some r→∃N,∀k,N≤k→qA P A (D k) n ops nb l st log=some r
 | [],st,log,r,e=>⟨0,fun _ _=>e⟩
 | (i,o)::l,st,log,r,e=>by
  obtain ⟨x,h1,h2⟩:=bind_some e
  obtain ⟨N1,pP⟩:=aeI h h1
  obtain ⟨N2,sm⟩:=Vm h h2
  exact ⟨max N1 N2,fun k hk=>by simp only[qA,pP k (by omega),Option.bind_some];exact sm k (by omega)⟩
theorem Vn {X R:Type} {step:X→Option (X ⊕ R)} {stepD:Nat→X→Option (X ⊕ R)} (hs: ∀x y,step x=some y→∃N,∀k,N≤k→stepD k x=some y): ∀(n:Nat) (x:X) (r:R),fv step n x=some r→∃N,∀k,N≤k→fv (stepD k) n x=some r
 | 0,x,r,e=>by cases e
 | n+1,x,r,e=>by
  simp only[fv] at e⊢
  obtain ⟨y,h1,h2⟩:=bind_some e
  obtain ⟨N1,pP⟩:=hs x y h1
  cases y with
  | inl z=>
   obtain ⟨N2,sm⟩:=Vn hs n z r h2
   exact ⟨max N1 N2,fun k hk=>by rw[pP k (by omega)];exact sm k (by omega)⟩
  | inr q=>exact ⟨N1,fun k hk=>by rw[pP k hk];exact h2⟩
theorem aeJ (h:Cd C D) {f n m:Nat}: ∀(c:Code) {st:St} {r:Out × St},exec P A C f n m c st=some r→∃N,∀k,N≤k→exec P A (D k) f n m c st=some r:=by
 intro c
 induction c with
 | skip=>exact fun e=>⟨0,fun _ _=>e⟩
 | exit id=>exact fun e=>⟨0,fun _ _=>e⟩
 | ret=>exact fun e=>⟨0,fun _ _=>e⟩
 | region id ops draw=>
  intro st r e
  simp only[exec] at e⊢
  obtain ⟨x,h1,h2⟩:=bind_some e
  obtain ⟨y,h3,h4⟩:=bind_some h1
  obtain ⟨N,hN⟩:=Vm h h3
  refine ⟨N,fun k hk=> ?_⟩
  have:xA P (A.here f id) (D k) n ops draw st=some x:=by
   unfold xA
   rw[hN k hk]
   exact h4
  rw[this]
  exact h2
 | seq x y gU gV=>
  intro st r e
  simp only[exec] at e⊢
  obtain ⟨⟨o,s1⟩,h1,h2⟩:=bind_some e
  obtain ⟨N1,pP⟩:=gU h1
  cases o with
  | norm=>
   obtain ⟨N2,sm⟩:=gV h2
   exact ⟨max N1 N2,fun k hk=>by rw[pP k (by omega)];exact sm k (by omega)⟩
  | exit id=>exact ⟨N1,fun k hk=>by rw[pP k hk];exact h2⟩
  | ret=>exact ⟨N1,fun k hk=>by rw[pP k hk];exact h2⟩
 | cond c x y gU gV=>
  intro st r e
  cases c with
  | tmp t=>
   have go: ∀{st:St} {r:Out × St},(match st.sl t with
     | .bool b=>(bif b then exec P A C f n m x st else exec P A C f n m y st).bind fun r=>
      match r.1 with
      | .norm=>some (.norm,canon m (A.join f t) r.2)
      | _=>some r
     | _=>none)=some r→∃N,∀k,N≤k→(match st.sl t with
     | .bool b=>(bif b then exec P A (D k) f n m x st else exec P A (D k) f n m y st).bind fun r=>
      match r.1 with
      | .norm=>some (.norm,canon m (A.join f t) r.2)
      | _=>some r
     | _=>none)=some r:=by
    intro st r e
    cases hs:st.sl t<;>rw[hs] at e<;>simp only at e⊢ <;>first|(cases e;done)|skip
    rename_i b
    obtain ⟨x1,h1,h2⟩:=bind_some e
    cases b with
    | true=>
     obtain ⟨N,hN⟩:=gU h1
     exact ⟨N,fun k hk=>by simp only[cond_true,hN k hk,Option.bind_some];exact h2⟩
    | false=>
     obtain ⟨N,hN⟩:=gV h1
     exact ⟨N,fun k hk=>by simp only[cond_false,hN k hk,Option.bind_some];exact h2⟩
   simp only[exec] at e⊢
   split at e
   ·rename_i hS
    obtain ⟨N,hN⟩:=go e
    exact ⟨N,fun k hk=>hN k hk⟩
   ·rename_i S hS
    obtain ⟨ds,h1,h2⟩:=bind_some e
    obtain ⟨e',h3,h4⟩:=bind_some h2
    obtain ⟨r1,h5,h6⟩:=bind_some h3
    obtain ⟨N,hN⟩:=go h5
    refine ⟨N,fun k hk=> ?_⟩
    try rw[hS]
    simp only[h1,Option.bind_some]
    exact (congrArg (fun z:Option (Out × St)=>(z.bind fun r=>ways m 0 S.2 r).bind fun e=>k0 0 S.2 e.1 e.2 fun o st=>some (o,st)) (hN k hk)).trans (by simp only[Option.bind_some,h6];exact h4)
  | const v=>
   cases v with
   | bool b=>
    simp only[exec] at e⊢
    cases b with
    | true=>exact gU e
    | false=>exact gV e
   | _=>simp only[exec] at e;cases e
  | _=>simp only[exec] at e;cases e
 | block id c ih=>
  intro st r e
  simp only[exec] at e⊢
  obtain ⟨x1,h1,h2⟩:=bind_some e
  obtain ⟨N,hN⟩:=ih h1
  exact ⟨N,fun k hk=>by rw[hN k hk];exact h2⟩
 | loop c ih=>
  intro st r e
  simp only[exec] at e⊢
  split at e
  ·cases e
  ·rename_i S hS
   obtain ⟨ds,h1,h2⟩:=bind_some e
   obtain ⟨e',h3,h4⟩:=bind_some h2
   obtain ⟨q,hq⟩:=xl h3
   obtain ⟨N,hN⟩:=Vn (stepD:=fun k ds=>lI m S.1 S.2 (exec P A (D k) f n m c (bA S.1 ds))) (fun x y vF=>by
    unfold lI at vF⊢
    obtain ⟨z,h5,h6⟩:=bind_some vF
    obtain ⟨N,hN⟩:=ih h5
    exact ⟨N,fun k hk=>by rw[hN k hk];exact h6⟩) q ds e' hq
   refine ⟨N,fun k hk=> ?_⟩
   try rw[hS]
   simp only[h1,Option.bind_some]
   rw[xk (hN k hk)]
   exact h4
 | _=>intro st r e;simp only[exec] at e;cases e
theorem Hz (h:Cd C D) {f:Nat} {ds es:List V} (e:pr P A C f ds=some es): ∃N,∀k,N≤k→pr P A (D k) f ds=some es:=by
 unfold pr at e⊢
 cases hf:P.funcs[A.aT f]? with
 | none=>rw[hf] at e;cases e
 | some fn=>
  rw[hf] at e
  simp only at e⊢
  cases hb:fn.body with
  | none=>rw[hb] at e;cases e
  | some c=>
   rw[hb] at e
   simp only at e⊢
   cases hc:(jg 0 (A.sin f).bQ&&(Nat.ble (A.sin f).bQ.length fn.ntmps&&((A.sin f).ok&&(jg 0 (A.gj f).bQ&&(Nat.beq (A.gj f).bQ.length fn.results.size&&po (m8 (A.sin f).bf.length (A.mv f))))))) with
   | false=>rw[hc] at e;cases e
   | true=>
    rw[hc] at e
    simp only[cond_true] at e⊢
    obtain ⟨⟨o,s1⟩,h1,h2⟩:=bind_some e
    obtain ⟨N1,pP⟩:=aeJ h c h1
    cases o with
    | exit id=>cases h2
    | norm=>
     simp only[AP] at h2
     obtain ⟨x,e1,e2⟩:=h2
     obtain ⟨N2,sm⟩:=qP h e1
     exact ⟨max N1 N2,fun k hk=>by rw[pP k (by omega)];simp only[Option.bind_some,sm k (by omega),Option.map_some,e2]⟩
    | ret=>
     simp only[AP] at h2
     obtain ⟨x,e1,e2⟩:=h2
     obtain ⟨N2,sm⟩:=qP h e1
     exact ⟨max N1 N2,fun k hk=>by rw[pP k (by omega)];simp only[Option.bind_some,sm k (by omega),Option.map_some,e2]⟩
theorem Vo: ∀n f a r,k9 P A n f a=some r→k9 P A (n+1) f a=some r
 | 0,f,a,r,h=>by cases h
 | n+1,f,a,r,h=>by
  obtain ⟨N,hN⟩:=Hz (C:=k9 P A n) (D:=fun _=>k9 P A (n+1)) (fun f a r h=>⟨0,fun _ _=>Vo n f a r h⟩) h
  exact hN N (bN _)
theorem Mq {n k:Nat} (hk:n≤k) {f:Nat} {a r:List V} (h:k9 P A n f a=some r):k9 P A k f a=some r:=by
 induction hk with
 | refl=>exact h
 | step _ ih=>exact Vo _ _ _ _ ih
theorem Ce {f:Nat} {a r:List V}:Call P A f a=some r↔∃n,k9 P A n f a=some r:=by
 constructor
 ·intro h
  unfold Call at h
  split at h
  ·rename_i hex
   have:=hex.choose_spec.choose_spec
   rw[dB h] at this
   exact ⟨_,this⟩
  ·cases h
 ·rintro ⟨n,hn⟩
  have hex: ∃n r,k9 P A n f a=some r:=⟨n,r,hn⟩
  unfold Call
  rw[qk hex]
  have h2:=hex.choose_spec.choose_spec
  have h3:=Mq (Nat.le_max_left n hex.choose) hn
  have h4:=Mq (Nat.le_max_right n hex.choose) h2
  rw[h3] at h4
  exact h4.symm
theorem aeK (f:Nat) (a:List V):Call P A f a=pr P A (Call P A) f a:=by
 apply Option.ext
 intro r
 constructor
 ·intro h
  obtain ⟨n,hn⟩:=Ce.1 h
  cases n with
  | zero=>cases hn
  | succ n=>
   obtain ⟨N,hN⟩:=Hz (C:=k9 P A n) (D:=fun _=>Call P A) (fun f a r h=>⟨0,fun _ _=>Ce.2 ⟨n,h⟩⟩) hn
   exact hN N (bN _)
 ·intro h
  obtain ⟨N,hN⟩:=Hz (C:=Call P A) (D:=k9 P A) (fun f a r h=>by
   obtain ⟨n,hn⟩:=Ce.1 h
   exact ⟨n,fun k hk=>Mq hk hn⟩) h
  exact Ce.2 ⟨N+1,hN N (bN _)⟩
end
end Go.AM
namespace Go.AM
open Go.ChangeShapes Go.WideShapes Go.RowKit
section
variable (P:Program)
inductive WT:TypeId→V→Prop
 | int {t:TypeId} {k:IntKind} {n:Int}:P.underlying t=some (.int k)→(Lit.int k n).wf=true→WT t (.int k n)
 | bool {t:TypeId} {b:Bool}:P.underlying t=some .bool→WT t (.bool b)
 | str {t:TypeId} {l:List UInt8}:P.underlying t=some .string→l.length≤maxLen→WT t (.str l)
 | list {t e:TypeId} {es:List V}:P.underlying t=some (.slice e)→es.length≤maxLen→
   (∀(i:Nat) x,es[i]? =some x→b7 P e=true→∃xs,x= .agg xs∧xs.length=(bp P e).length)→
   (∀(i j:Nat) x t',es[i]? =some x→(bp P e)[j]? =some t'→WT t' (cb P e x j))→WT t (.list e es)
def kQ (t:TypeId) (x:V):Prop:=
 (b7 P t=true→∃xs,x= .agg xs∧xs.length=(bp P t).length)∧∀(j:Nat) t',(bp P t)[j]? =some t'→WT P t' (cb P t x j)
def rB:List TypeId→List V→Prop
 | [],[]=>True
 | t::ts,x::xs=>kQ P t x∧rB ts xs
 | _,_=>False
def hasB (L:List TypeId) (t:TypeId):Bool:=L.any fun u=>Nat.beq u t
def HA (L:List TypeId):Nat→List Field→Bool
 | _,[]=>true
 | n,f::fs=>hasB L f.type&&(Nat.beq f.offset n&&(Nat.beq (P.cellsOf f.type) (bp P f.type).length&&HA L (n+P.cellsOf f.type) fs))
def Cf:List Nat→List Nat→Bool
 | [],[]=>true
 | a::l,b::m=>Nat.beq a b&&Cf l m
 | _,_=>false
def Mr (L:List TypeId) (t:TypeId):Bool:=
 Nat.beq (P.cellsOf t) (bp P t).length&&
 match P.underlying t with
 | some (.int _)=>true
 | some .bool=>true
 | some .string=>true
 | some (.slice e)=>hasB L e&&dt P e
 | some (.struct fs)=>HA P L 0 fs.toList&&Cf (flat P t) (fs.toList.flatMap fun f=>bp P f.type)
 | some (.array n e)=>hasB L e&&(Nat.beq (P.cellsOf e) (bp P e).length&&Cf (flat P t) (List.replicate n (bp P e)).flatten)
 | _=>false
def Cg (L:List TypeId):Bool:=L.all fun t=>Mr P L t
end
theorem HB {L:List TypeId} {t:TypeId} (h:hasB L t=true):t∈L:=by
 obtain ⟨u,hu,h2⟩:=mh.1 h
 rw[bj] at h2
 exact h2▸hu
theorem Ms: ∀{l m:List Nat},Cf l m=true→l=m
 | [],[],_=>rfl
 | a::l,b::m,h=>by
  simp only[Cf,aU,bj] at h
  rw[h.1,Ms h.2]
 | [],_::_,h=>by cases h
 | _::_,[],h=>by cases h
section
variable {P:Program} {H:Type} {enc:TypeId × Value→H} {w:World} {base:Nat} {spare:Nat→Bool} {held:Bool} {L:List TypeId}
def mG (w:World):Nat→Prop:=fun b=>b<w.heap.size
def oQ (P:Program) (w:World) (ts:List TypeId) (cs:List Value) (xs:List V):Prop:=
 cs.length=ts.length∧xs.length=ts.length∧∀(j:Nat) t',ts[j]? =some t'→∃v y,cs[j]? =some v∧xs[j]? =some y∧Pure P w (mG w) t' v y∧WT P t' y
theorem oQ.app {ts xw:List TypeId} {cs jm:List Value} {xs Vp:List V} (h:oQ P w ts cs xs) (h':oQ P w xw jm Vp):oQ P w (ts++xw) (cs++jm) (xs++Vp):=by
 obtain ⟨a,b,c⟩:=h
 obtain ⟨a',b',c'⟩:=h'
 refine ⟨by simp[a,a'],by simp[b,b'],fun j t' hj=> ?_⟩
 by_cases aR:j<ts.length
 ·rw[kT aR] at hj
  obtain ⟨v,y,e1,e2,e3⟩:=c j t' hj
  exact ⟨v,y,by rw[kT (by omega)];exact e1,by rw[kT (by omega)];exact e2,e3⟩
 ·rw[kh (by omega)] at hj
  obtain ⟨v,y,e1,e2,e3⟩:=c' _ t' hj
  exact ⟨v,y,by rw[kh (by omega),a];exact e1,by rw[kh (by omega),b];exact e2,e3⟩
theorem aeL {w:World} {a:Addr} {v:Value} (h:w.cell? a=some v):a.spot=none∧a.block<w.heap.size:=by
 unfold World.cell? at h
 split at h
 ·rename_i hh
  split at h
  ·cases h
  ·rename_i hs
   exact ⟨by simpa using hs,(jb.1 hh).1⟩
 all_goals (first|cases h|skip)
theorem Vq {rd:TypeId→List Value→Option (DataW H × List MemPlace)} (cs:List Value)
  (ih: ∀t cs x,t∈L→rd t cs=some x→∃xs,oQ P w (bp P t) cs xs): ∀(fs:List Field) (n:Nat),HA P L n fs=true→
  (∀f∈fs,∃x,rd f.type ((cs.drop f.offset).take (P.cellsOf f.type))=some x)→∃m xs,n≤m∧oQ P w (fs.flatMap fun f=>bp P f.type) ((cs.drop n).take (m-n)) xs∧m-n=(fs.flatMap fun f=>bp P f.type).length
 | [],n,_,_=>⟨n,[],bN _,⟨by simp,rfl,by simp⟩,by simp⟩
 | f::fs,n,h,hx=>by
  simp only[HA,aU,bj] at h
  obtain ⟨h1,h2,h3,h4⟩:=h
  obtain ⟨x,hxf⟩:=hx f (by simp)
  obtain ⟨xs,gn⟩:=ih _ _ _ (HB h1) hxf
  obtain ⟨m,ys,hm,sn,Mh⟩:=Vq cs ih fs (n+P.cellsOf f.type) h4 fun g hg=>hx g (by simp[hg])
  refine ⟨m,xs++ys,by omega,?_,by simp only[iC,bO];omega⟩
  have:=gn.app sn
  rw[iC]
  rw[h2] at this
  have e:(cs.drop n).take (m-n)=(cs.drop n).take (P.cellsOf f.type)++(cs.drop (n+P.cellsOf f.type)).take (m-(n+P.cellsOf f.type)):=by
   rw[show m-n=P.cellsOf f.type+(m-(n+P.cellsOf f.type)) by omega,List.take_add,mV]
  rw[e]
  exact this
theorem Vr {rd:List Value→Option (DataW H × List MemPlace)} (cs:List Value) {e:TypeId} (hs:P.cellsOf e=(bp P e).length)
  (ih: ∀cs x,rd cs=some x→∃xs,oQ P w (bp P e) cs xs): ∀(n:Nat),
  (∀i,i<n→∃x,rd ((cs.drop (i*P.cellsOf e)).take (P.cellsOf e))=some x)→∃xs,oQ P w (List.replicate n (bp P e)).flatten (cs.take (n*P.cellsOf e)) xs
 | 0,_=>⟨[],by simp,rfl,by simp⟩
 | n+1,hx=>by
  obtain ⟨xs,gn⟩:=Vr cs hs ih n fun i hi=>hx i (by omega)
  obtain ⟨x,B6⟩:=hx n (by omega)
  obtain ⟨ys,sn⟩:=ih _ _ B6
  refine ⟨xs++ys,?_⟩
  rw[List.replicate_succ',List.flatten_append]
  have:=gn.app sn
  rw[dY,Nat.one_mul,List.take_add]
  simpa using this
theorem HC (hL:Cg P L=true): ∀(fuel:Nat) (t:TypeId) (cs:List Value) (x:DataW H × List MemPlace),t∈L→DataW.trod enc P w base spare held fuel t cs=some x→
  ∃xs,oQ P w (bp P t) cs xs
 | 0,_,_,_,_,h=>by cases h
 | fuel+1,t,cs,x,ht,h=>by
  have hg:=gz.1 hL t ht
  unfold Mr at hg
  rw[aU,bj] at hg
  obtain ⟨hc,hg⟩:=hg
  have one:b7 P t=false→bp P t=[t]:=fun h=>by simp[bp,h]
  cases hu:P.underlying t with
  | none=>rw[hu] at hg;cases hg
  | some d=>
   rw[hu] at hg
   cases d with
   | int k=>
    obtain ⟨n,rfl,rfl,Mt⟩:=DataW.trod_int hu h
    rw[one (by simp[b7,hu])]
    exact ⟨[.int k n],rfl,rfl,fun j t' hj=>by
     cases j with
     | zero=>cases hj;exact ⟨_,_,rfl,rfl,.int hu,.int hu Mt⟩
     | succ j=>simp at hj⟩
   | bool=>
    obtain ⟨b,rfl,rfl⟩:=DataW.trod_bool hu h
    rw[one (by simp[b7,hu])]
    exact ⟨[.bool b],rfl,rfl,fun j t' hj=>by
     cases j with
     | zero=>cases hj;exact ⟨_,_,rfl,rfl,.bool hu,.bool hu⟩
     | succ j=>simp at hj⟩
   | string=>
    obtain ⟨s,rfl,rfl,hl⟩:=DataW.trod_string hu h
    rw[one (by simp[b7,hu])]
    exact ⟨[.str s.data.toList],rfl,rfl,fun j t' hj=>by
     cases j with
     | zero=>cases hj;exact ⟨_,_,rfl,rfl,.str hu rfl,.str hu (by simpa using hl)⟩
     | succ j=>simp at hj⟩
   | slice e=>
    simp only[aU] at hg
    obtain ⟨he,ax⟩:=hg
    rw[one (by simp[b7,hu])]
    have single: ∀v y,cs=[v]→Pure P w (mG w) t v y→WT P t y→∃xs,oQ P w [t] cs xs:=by
     rintro v y rfl a b
     exact ⟨[y],rfl,rfl,fun j t' hj=>by
      cases j with
      | zero=>cases hj;exact ⟨_,_,rfl,rfl,a,b⟩
      | succ j=>simp at hj⟩
    rcases DataW.trod_slice hu h with ⟨rfl,rfl⟩|⟨a,len,cap,elems,rest,n,hn,rfl,rfl,hb,hl,hm,hlen,cP,_,_⟩
    ·exact single _ _ rfl (.nil hu) (.list hu (by simp) (by simp) (by simp))
    ·cases hn
     have mq:=(ld ax).2
     have Tm:P.cellsOf e=(bp P e).length:=(gD ax).symm
     have key: ∀i,i<len→∃jm xs,w.cells? base (a.add (i*P.cellsOf e)) (P.cellsOf e)=some jm∧oQ P w (bp P e) jm xs:=by
      intro i hi
      have h1:=cP i hi
      rw[bZ (by omega)] at h1
      obtain ⟨jm,h2,h3⟩:=Option.bind_eq_some_iff.1 h1
      obtain ⟨xs,gn⟩:=HC hL fuel e jm _ (HB he) h3
      exact ⟨jm,xs,h2,gn⟩
     by_cases h0:len=0
     ·subst h0
      exact single _ _ rfl (.emp hu) (.list hu (by simp) (by simp) (by simp))
     ·have jD:a.spot=none∧a.block<w.heap.size:=by
       obtain ⟨jm,xs,h2,_⟩:=key 0 (by omega)
       obtain ⟨_,h3,h4⟩:=World.cells?_some h2
       have h5:=h4 0 mq
       rw[bZ (by omega)] at h5
       have:=aeL h5
       simpa[Addr.add] using this
      have hF: ∃(F:Nat→List Value) (X:Nat→List V),∀i,i<len→w.cells? base (a.add (i*P.cellsOf e)) (P.cellsOf e)=some (F i)∧oQ P w (bp P e) (F i) (X i):=by
       refine ⟨fun i=>if hi:i<len then (key i hi).choose else [],fun i=>if hi:i<len then (key i hi).choose_spec.choose else [],fun i hi=> ?_⟩
       simp only[qk hi]
       exact (key i hi).choose_spec.choose_spec
      obtain ⟨F,X,Mu⟩:=hF
      have hx: ∀(i j:Nat) y t',((List.range len).map fun i=>cT P e (X i))[i]? =some y→(bp P e)[j]? =some t'→i<len∧∃v,(F i)[j]? =some v∧Pure P w (mG w) t' v (cb P e y j)∧WT P t' (cb P e y j):=by
       intro i j y t' hy hj
       have hi:i<len:=by
        have:=(bH.1 hy).1
        simpa using this
       refine ⟨hi,?_⟩
       simp[List.getElem?_range hi] at hy
       obtain ⟨c1,c2,c3⟩:=(Mu i hi).2
       obtain ⟨v,z,d1,d2,d3,d4⟩:=c3 j t' hj
       have:cb P e y j=z:=by
        rw[←hy]
        unfold cb cT
        cases ha:b7 P e with
        | true=>
         simp only[cond_true,V.cell]
         rw[u7 _ _ _ d2]
        | false=>
         simp only[cond_false]
         have:bp P e=[e]:=by simp[bp,ha]
         rw[this] at hj
         cases j with
         | zero=>rw[u7 _ _ _ d2]
         | succ j=>simp at hj
       rw[this]
       exact ⟨v,d1,d3,d4⟩
      have ib: ∀i j,i<len→j<P.cellsOf e→w.cell? ⟨a.block,a.off+(i*P.cellsOf e+j),none⟩=some ((F i).getD j undef):=by
       intro i j hi hj
       obtain ⟨h1,h2⟩:=Mu i hi
       obtain ⟨_,h3,h4⟩:=World.cells?_some h1
       have h5:=h4 j hj
       rw[Go.Deep.add_add] at h5
       have e1:a.add (i*P.cellsOf e+j)=⟨a.block,a.off+(i*P.cellsOf e+j),none⟩:=by
        obtain ⟨b,o,s⟩:=a
        simp only at jD
        rw[jD.1]
        exact oE ..
       rw[e1] at h5
       rw[h5,FM,bZ (by omega)]
       rfl
      have ha:a=⟨a.block,a.off,none⟩:=by
       obtain ⟨b,o,s⟩:=a
       simp only at jD
       rw[jD.1]
      refine single (.slice (some a) len cap) (.list e ((List.range len).map fun i=>cT P e (X i))) rfl ?_ ?_
      ·rw[ha]
       refine .list (fun i j=>(F i).getD j undef) hu (by simp) hl (fun _=>jD.2) ib ?_
       intro i j y t' hy hj
       obtain ⟨hi,v,d1,d2,_⟩:=hx i j y t' hy hj
       rw[FM,d1]
       exact d2
      ·refine .list hu (by simp;omega) ?_ ?_
       ·intro i y hy HD
        have hi:i<len:=by
         have:=(bH.1 hy).1
         simpa using this
        simp[List.getElem?_range hi] at hy
        rw[←hy]
        exact ⟨X i,by simp[cT,HD],(Mu i hi).2.2.1⟩
       ·intro i j y t' hy hj
        obtain ⟨_,v,_,_,d3⟩:=hx i j y t' hy hj
        exact d3
   | struct fs=>
    simp only[aU] at hg
    obtain ⟨xs,n,hn,rfl,hlen,nr,hx⟩:=DataW.trod_struct hu h
    cases hn
    have het:bp P t=fs.toList.flatMap fun f=>bp P f.type:=by
     rw[←Ms hg.2]
     simp[bp,b7,hu]
    obtain ⟨m,ys,_,sn,hm⟩:=Vq (w:=w) (rd:=fun t cs=>DataW.trod enc P w base spare held fuel t cs) cs (fun t cs x a b=>HC hL fuel t cs x a b) fs.toList 0 hg.1 (by
     intro f hf
     obtain ⟨i,hi⟩:=s8 hf
     rw[s9] at hi
     have oJ:i<fs.size:=(jb.1 hi).1
     exact ⟨_,(hx i f hi).trans (bZ (by omega))⟩)
    rw[het]
    refine ⟨ys,?_⟩
    have:(cs.drop 0).take (m-0)=cs:=by
     rw[eM,hm,←het,←hc,←hlen,ql]
    rw[this] at sn
    exact sn
   | array n e=>
    simp only[aU,bj] at hg
    obtain ⟨xs,m,hn,rfl,hlen,nr,hx⟩:=DataW.trod_array hu h
    cases hn
    have het:bp P t=(List.replicate n (bp P e)).flatten:=by
     rw[←Ms hg.2.2]
     simp[bp,b7,hu]
    obtain ⟨ys,sn⟩:=Vr (w:=w) (rd:=DataW.trod enc P w base spare held fuel e) cs hg.2.1 (fun cs x b=>HC hL fuel e cs x (HB hg.1) b) n (by
     intro i hi
     exact ⟨_,(hx i hi).trans (bZ (by omega))⟩)
    rw[het]
    refine ⟨ys,?_⟩
    have:cs.take (n*P.cellsOf e)=cs:=by
     have:n*P.cellsOf e=cs.length:=by
      rw[hlen,hc,het,hg.2.1]
      simp
     rw[this,ql]
    rw[this] at sn
    exact sn
   | _=>cases hg
end
section
variable {P:Program} {H:Type} {enc:TypeId × Value→H} {w:World} {L:List TypeId}
theorem aeM {base Mv:Nat} {spare:Nat→Bool} {held:Bool} {r:Reach} {β:Nat→Option Nat} {hp:Nat→Option ao} (hL:Cg P L=true) {t:TypeId} {v:Value} {d:DataW H} {ps:List MemPlace} (ht:t∈L) (fT:Value.okWide P w r Mv t v)
  (h:DataW.Trod enc P w base spare held t v d ps): ∃x,au P w (mG w) β hp v x∧kQ P t x:=by
 obtain ⟨fuel,hf⟩:=h
 obtain ⟨xs,c1,c2,c3⟩:=HC hL fuel t _ _ ht hf
 have hg:=gz.1 hL t ht
 unfold Mr at hg
 rw[aU,bj] at hg
 obtain ⟨_,hg⟩:=hg
 have HD:b7 P t=true→∃x,au P w (mG w) β hp v x∧kQ P t x:=by
  intro ha
  have hv: ∃cs,v= .agg cs:=by
   unfold Value.okWide at fT
   unfold b7 at ha
   split at fT
   ·obtain ⟨cs,e,_⟩:=fT;exact ⟨cs,e⟩
   ·obtain ⟨cs,e,_⟩:=fT;exact ⟨cs,e⟩
   ·split at ha<;>simp_all
  obtain ⟨cs,rfl⟩:=hv
  refine ⟨.agg xs,.agg (by simpa[Value.cells] using c1.trans c2.symm) fun j v x hv hx=> ?_,fun _=>⟨xs,rfl,c2⟩,fun j t' hj=> ?_⟩
  ·have hj:j<(bp P t).length:=by rw[←c2];exact (bH.1 hx).1
   obtain ⟨v',y,e1,e2,e3,_⟩:=c3 j _ (bZ hj)
   rw[hx] at e2
   cases e2
   have:cs[j]? =some v':=by simpa[Value.cells] using e1
   rw[hv] at this
   cases this
   exact .rQ e3
  ·obtain ⟨v',y,e1,e2,_,e4⟩:=c3 j t' hj
   have:cb P t (.agg xs) j=y:=by
    simp only[cb,ha,cond_true,V.cell]
    exact u7 _ _ _ e2
   rw[this]
   exact e4
 have pD:b7 P t=false→v.cells= #[v]→∃x,au P w (mG w) β hp v x∧kQ P t x:=by
  intro ha vf
  have he:bp P t=[t]:=by simp[bp,ha]
  rw[he] at c1 c2 c3
  obtain ⟨v',y,e1,e2,e3,e4⟩:=c3 0 t rfl
  rw[vf] at e1
  cases e1
  refine ⟨y,.rQ e3,⟨fun h=>absurd (ha.symm.trans h) (by simp),fun j t' hj=> ?_⟩⟩
  rw[he] at hj
  cases j with
  | succ j=>simp at hj
  | zero=>
   cases hj
   simpa[cb,ha] using e4
 unfold Value.okWide at fT
 cases hu:P.underlying t with
 | none=>rw[hu] at hg;cases hg
 | some dsc=>
  rw[hu] at hg fT
  cases dsc with
  | int k=>
   refine pD (by simp[b7,hu]) ?_
   simp only[Cell.okWide,Cell.ok,hu] at fT
   cases v<;>first|rfl|(simp at fT;done)|exact fT.elim
  | bool=>
   refine pD (by simp[b7,hu]) ?_
   simp only[Cell.okWide,Cell.ok,hu] at fT
   cases v<;>first|rfl|(simp at fT;done)|exact fT.elim
  | string=>
   refine pD (by simp[b7,hu]) ?_
   simp only[Cell.okWide,Cell.ok,hu] at fT
   cases v<;>first|rfl|(simp at fT;done)|exact fT.elim
  | slice e=>
   refine pD (by simp[b7,hu]) ?_
   simp only[Cell.okWide,Cell.ok,hu] at fT
   cases v<;>first|rfl|(simp at fT;done)|exact fT.elim
  | struct fs=>exact HD (by simp[b7,hu])
  | array n e=>exact HD (by simp[b7,hu])
  | _=>cases hg
theorem Vs {base Mv:Nat} {spare:Nat→Bool} {held:Bool} {r:Reach} {β:Nat→Option Nat} {hp:Nat→Option ao} (hL:Cg P L=true): ∀{ts:List TypeId} {vs:List Value} {ds:List (DataW H)} {ps:List MemPlace},
  (∀t∈ts,t∈L)→(∀(j:Nat) t v,ts[j]? =some t→vs[j]? =some v→Value.okWide P w r Mv t v)→DataW.TrodAll enc P w base spare held ts vs ds ps→
  ∃xs,vs.length=xs.length∧(∀(j:Nat) v x,vs[j]? =some v→xs[j]? =some x→au P w (mG w) β hp v x)∧rB P ts xs
 | [],vs,ds,ps,_,_,h=>by
  obtain ⟨rfl,rfl,rfl⟩:=trodAll_nil h
  exact ⟨[],rfl,by simp,trivial⟩
 | t::ts,vs,ds,ps,hm,fT,h=>by
  obtain ⟨v,Gm,d,Vt,a,b,rfl,rfl,rfl,h1,h2⟩:=trodAll_cons h
  obtain ⟨x,B6,oG⟩:=aeM (β:=β) (hp:=hp) hL (hm t (by simp)) (fT 0 t v rfl rfl) h1
  obtain ⟨xs,hl,hr,hw⟩:=Vs (β:=β) (hp:=hp) hL (fun t ht=>hm t (by simp[ht])) (fun j t v a b=>fT (j+1) t v (by simpa using a) (by simpa using b)) h2
  refine ⟨x::xs,by simp[hl],fun j v' x' hv hx=> ?_,oG,hw⟩
  cases j with
  | zero=>cases hv;cases hx;exact B6
  | succ j=>exact hr j v' x' (by simpa using hv) (by simpa using hx)
theorem Vu {base:Nat} {spare:Nat→Bool} {held:Bool}: ∀{ts:List TypeId} {vs:List Value} {ds:List (DataW H)} {ps:List MemPlace},DataW.TrodAll enc P w base spare held ts vs ds ps→ds.length=ts.length
 | [],vs,ds,ps,h=>by obtain ⟨rfl,rfl,rfl⟩:=trodAll_nil h;rfl
 | t::ts,vs,ds,ps,h=>by
  obtain ⟨v,Gm,d,Vt,a,b,rfl,rfl,rfl,h1,h2⟩:=trodAll_cons h
  simp[Vu h2]
theorem Vv {base:Nat} (hl:laidOutB P=true) {W W':World} {Vw:Nat→Bool}: ∀{ts:List TypeId} {vs:List Value} {ds:List (DataW H)} {ps:List MemPlace},(∀t∈ts,P.readableRec t=true∧t<P.types.size)→
  DataW.TrodAll enc P W base (fun _=>true) true ts vs ds ps→(∀p∈ps,W.sameAt W' p)→(∀p∈ps,Vw p.block=true)→DataW.TrodAll enc P W' base Vw true ts vs ds ps
 | [],vs,ds,ps,_,h,_,_=>by obtain ⟨rfl,rfl,rfl⟩:=trodAll_nil h;exact trodAll_mk0
 | t::ts,vs,ds,ps,hr,h,h1,h2=>by
  obtain ⟨v,Gm,d,Vt,a,b,rfl,rfl,rfl,h3,h4⟩:=trodAll_cons h
  obtain ⟨r1,r2⟩:=hr t (by simp)
  exact trodAll_cons_mk (WideElems.Trod_stays hl r1 r2 h3 (fun p hp=>h1 p (by simp[hp])) (fun p hp=>h2 p (by simp[hp])))
   (Vv hl (fun t ht=>hr t (by simp[ht])) h4 (fun p hp=>h1 p (by simp[hp])) (fun p hp=>h2 p (by simp[hp])))
theorem aeN {f:Func} {s:ChangeSpec} {apart fresh handsOn again:Bool} {W W':World} {args:Array Value} {v:Value} {ds gs:List (DataW H)} {before pa pv:List MemPlace}
  (hW:DataW.Whole enc P f.params.toList s.vars apart W args.toList ds gs before)
  (Vx: ∀(b:Nat) (sp:Nat→Bool) (hd:Bool),DataW.TrodAll enc P W' b sp hd f.resultTypes.toList (v.resultList f.resultTypes.size) (s.fn H (ds++gs)).results [])
  (vw: ∀sp:Nat→Bool,(∀p∈before,sp p.block=true)→DataW.TrodAll enc P W' 0 sp true f.params.toList args.toList (s.fn H (ds++gs)).args pa)
  (Vy: ∀sp:Nat→Bool,(∀p∈before,sp p.block=true)→DataW.TrodVars enc P W' sp s.vars (s.fn H (ds++gs)).vars pv)
  (Ch:before=pa++pv) (hk:W.keptBut W' (· ∈before)) (Mw: ∀a:Addr,a.block<W.heap.size→W'.frozen? a=W.frozen? a)
  (ax: ∀(j:Nat) (t:TypeId) (r:Value),f.resultTypes[j]? =some t→(v.resultList f.resultTypes.size)[j]? =some r→Value.okWide P W' .any 0 t r):
  s.post enc P f apart fresh handsOn again W args v W':=by
 have hold: ∀p∈before,(fun b=>decide (b<W.heap.size)) p.block=true:=fun p hp=>by simpa using hW.lt p hp
 refine ⟨ds,gs,before,[],pa,pv,hW,Vx _ _ _,vw _ hold,Vy _ hold,World.keptBut_mono (fun p hp=>⟨hp,?_⟩) hk,fun _=> ?_⟩
 ·rw[Ch,cZ] at hp
  exact Or.inr hp
 ·have aR:=hW.lt
  obtain ⟨_,_,_,_,_,hz,hn⟩:=hW
  refine ⟨ax,_,_,([]++pa)++pv,⟨[]++pa,pv,trodAll_append (vw _ (fun _ _=>rfl)) (Vx _ _ _),Vy _ (fun _ _=>rfl),rfl,?_,?_⟩,?_⟩
  ·intro b off hp
   have hb:MemPlace.cell b off∈before:=by rw[Ch];simpa using hp
   rw[Mw ⟨b,off,none⟩ (aR _ hb)]
   exact hz b off hb
  ·intro ha
   have:=hn ha
   rw[Ch] at this
   simpa using this
  ·intro p hp _
   rw[Ch]
   simpa using hp
theorem aeO {A:cW} (hP:jn P A) (oP:P.follows .mixedOrders=true) {f key:Nat} {fn:Func} {tb:TypeId} {s:ChangeSpec} {apart fresh handsOn again:Bool}
  (hf:P.funcs[f]? =some fn) (Mx:A.aT key=f) (hL:Cg P L=true) (bM:fn.params.toList.all (fun t=>hasB L t)=true) (HE:fn.resultTypes= #[tb]) (HF:P.underlying tb=some .bool) (HG:s.vars=[])
  (hs: ∀ds:List (DataW H),ds.length=fn.params.toList.length→s.fn H ds={results:=[.lit (.bool true)],args:=ds})
  (My:laidOutB P=true) (Mz:fn.params.toList.all (fun t=>P.readableRec t&&Nat.blt t P.types.size)=true)
  (mz:(A.sin key).bf=[]) (ax:((A.sin key).bQ.map (·.2)).all (VS.ok 0)=true) (vG:(A.gj key).bQ=[(0,.one .bool)]) (halt:A.alt key=none)
  {W:World} {base:Nat} {args:Array Value} {ds gs:List (DataW H)} {before:List MemPlace}
  (MA:iE P A.aL W (mG W)) (fT: ∀(j:Nat) t v,fn.params[j]? =some t→args[j]? =some v→Value.okWide P W .any base t v)
  (hW:DataW.Whole enc P fn.params.toList s.vars apart W args.toList ds gs before) (Q:List V→Prop)
  (hQ: ∀xs:List V,rB P fn.params.toList xs→(∀(j:Nat) v x,args.toList[j]? =some v→xs[j]? =some x→au P W (mG W) (fun _=>none) (fun _=>none) v x)→Q xs)
  (MB: ∀xs,rB P fn.params.toList xs→Q xs→∃ds,rC ((A.sin key).bQ.map (·.2)) xs=some ds∧Call P A key ds=some [.bool true]):
  Calls P f args W fun e W'=> ∃v,e= .returned v∧s.post enc P fn apart fresh handsOn again W args v W':=by
 have Vz:=hW
 obtain ⟨p,q,hA,hV,rfl,Mw,jF⟩:=hW
 rw[HG] at hV
 obtain ⟨hgs,hq⟩:gs=[]∧q=[]:=by
  cases gs with
  | nil=>exact ⟨rfl,hV⟩
  | cons g gs=>exact hV.elim
 subst hgs
 subst hq
 obtain ⟨xs,hl,hr,VA⟩:=Vs (β:=fun _=>none) (hp:=fun _=>none) hL (fun t ht=>HB (gz.1 bM t ht)) (fun j t v a b=>fT j t v (by simpa using a) (by simpa using b)) hA
 obtain ⟨ls,hls,B1⟩:=MB xs VA (hQ xs VA hr)
 obtain ⟨fn',c,h1,h2,h3⟩:=aeH (A:=A) hP oP key ls [.bool true] B1
 rw[Mx] at h1 h3
 rw[hf] at h1
 cases h1
 have yn: ∀j,(bA (A.sin key) ls).hp j=none:=fun j=>by simp[bA,mk,mz,fx,ki]
 obtain ⟨_,r1,r2⟩:=BQ (P:=P) (w:=W) (I:=mG W) (n:=0) (β:=fun _=>none) (β':=fun _=>none) (hp:=fun _=>none) (hp':=(bA (A.sin key) ls).hp) (fun j hj=>absurd hj (Nat.not_lt_zero j)) hls ax
 have hlen:((A.sin key).bQ.map (·.2)).length=xs.length:=by rw[←r1 [],Mp]
 have h4:=h3 W (mG W) (fun _=>none) args.toList ⟨fun id blk h=>(by rw[yn] at h;cases h),fun id aJ blk blk' b h=>(by rw[yn] at h;cases h),fun id blk b h=>(by rw[yn] at h;cases h),fun b h=>h⟩ MA
  (by rw[hl,←hlen,aC]) (fun j v y hv hy=>r2 [] j v y (fun x hx=>hr j v x hv hx) (by rw[dc];exact hy))
 have ea:args.toList.toArray=args:=by simp
 rw[ea] at h4
 refine h4.mono fun e W' ⟨v,I2,cA,he,ha⟩=>⟨v,he,?_⟩
 have vb: ∀b,b<W.heap.size→W'.heap[b]? =W.heap[b]? :=fun b hb=>ha.yd.cJ b hb (by rintro ⟨j,blk,hj,_⟩;rw[yn] at hj;cases hj)
 have LB:=ha.res
 have HH:A.so key [.bool true]=A.gj key∧A.lv key [.bool true]=[.bool true]:=by unfold cW.so cW.lv;rw[halt];exact ⟨rfl,rfl⟩
 rw[HH.1,HH.2,vG] at LB
 obtain rfl:v= .bool true:=LB.lf
 have mB:Value.okWide P W' .any 0 tb (.bool true):=by simp[Value.okWide,HF,Cell.okWide,Cell.ok]
 have mf:ds.length=fn.params.toList.length:=Vu hA
 have jE: ∀p'∈p++[],W.sameAt W' p':=by
  intro p' hp'
  have aR:=Vz.lt p' hp'
  cases p' with
  | cell b o=>exact World.cell?_of_block (w:=W) (vb b aR)
  | map b=>exact vb b aR
 refine aeN (pa:=p) (pv:=[]) Vz ?_ ?_ ?_ rfl ?_ ?_ ?_
 ·intro b sp hd
  rw[dc,hs ds mf,HE]
  exact trodAll_mk1 ⟨1,by simp[DataW.trod,Value.cells,HF]⟩
 ·intro sp jD
  rw[dc,hs ds mf]
  refine Vv My (fun t ht=> ?_) hA (fun p' hp'=>jE p' (by simpa using hp')) (fun p' hp'=>jD p' (by simpa using hp'))
  have:=gz.1 Mz t ht
  simp only[aU] at this
  exact ⟨this.1,by simpa[lB] using this.2⟩
 ·intro sp jD
  rw[HG,dc,hs ds mf]
  exact rfl
 ·refine ⟨ha.yd.io.1,ha.yd.io.2,fun i hi=> ?_⟩
  rw[vb i hi]
  split<;>simp_all
 ·intro a aR
  exact World.frozen?_of_block (w:=W) (vb a.block aR)
 ·intro j t r hj MC
  rw[HE] at hj MC
  cases j with
  | zero=>
   simp[Value.resultList] at hj MC
   subst hj
   subst MC
   exact mB
  | succ j=>simp at hj
theorem abY {A:cW} (hP:jn P A) (oP:P.follows .mixedOrders=true) {f key:Nat} {fn:Func} {tb:TypeId} {s:ChangeSpec} {apart fresh handsOn again:Bool}
  (hf:P.funcs[f]? =some fn) (Mx:A.aT key=f) (hL:Cg P L=true) (bM:fn.params.toList.all (fun t=>hasB L t)=true) (HE:fn.resultTypes= #[tb]) (HF:P.underlying tb=some .bool) (HG:s.vars=[])
  (hs: ∀ds:List (DataW H),ds.length=fn.params.toList.length→s.fn H ds={results:=[.lit (.bool true)],args:=ds})
  (My:laidOutB P=true) (Mz:fn.params.toList.all (fun t=>P.readableRec t&&Nat.blt t P.types.size)=true)
  (mz:(A.sin key).bf=[]) (ax:((A.sin key).bQ.map (·.2)).all (VS.ok 0)=true) (vG:(A.gj key).bQ=[(0,.one .bool)]) (halt:A.alt key=none)
  (MB: ∀xs,rB P fn.params.toList xs→∃ds,rC ((A.sin key).bQ.map (·.2)) xs=some ds∧Call P A key ds=some [.bool true])
  {W:World} {base:Nat} {args:Array Value} {ds gs:List (DataW H)} {before:List MemPlace}
  (MA:iE P A.aL W (mG W)) (fT: ∀(j:Nat) t v,fn.params[j]? =some t→args[j]? =some v→Value.okWide P W .any base t v)
  (hW:DataW.Whole enc P fn.params.toList s.vars apart W args.toList ds gs before):
  Calls P f args W fun e W'=> ∃v,e= .returned v∧s.post enc P fn apart fresh handsOn again W args v W':=
 aeO hP oP hf Mx hL bM HE HF HG hs My Mz mz ax vG halt MA fT hW (fun _=>True) (fun _ _ _=>trivial) fun xs h _=>MB xs h
end
end Go.AM
namespace Go.AM
@[simp] theorem V.toInt_int (k:IntKind) (n:Int):V.toInt (.int k n)=n:=by cases k<;>rfl
@[simp] theorem V.cI (b:Bool):V.toBool (.bool b)=b:=by cases b<;>rfl
@[simp] theorem V.aoX (s:List UInt8):V.toStr (.str s)=s:=by cases s<;>rfl
@[simp] theorem V.e8 (e:TypeId) (es:List V):V.toList (.list e es)=es:=by cases es<;>rfl
@[simp] theorem V.aoY (e:TypeId) (es:List V):V.toList (.own e es)=es:=by cases es<;>rfl
@[simp] theorem V.aeP (cs:List V) (j:Nat):V.cell (.agg cs) j=V.nth cs j:=by cases cs<;>rfl
@[simp] theorem V.aoZ (cs:List V) (j:Nat):V.comp (.bC cs) j=V.nth cs j:=by cases cs<;>rfl
@[simp] theorem V.aD (x:V) (l:List V):V.nth (x::l) 0=x:=by cases l<;>rfl
@[simp] theorem V.j8 (x:V) (l:List V) (n:Nat):V.nth (x::l) (n+1)=V.nth l n:=by cases l<;>rfl
@[simp] theorem V.ao0 (x y:V) (l:List V):V.nth (x::y::l) 1=y:=by cases l<;>rfl
@[simp] theorem V.ao1 (x y z:V) (l:List V):V.nth (x::y::z::l) 2=z:=by cases l<;>rfl
@[simp] theorem V.ao2 (x y z u:V) (l:List V):V.nth (x::y::z::u::l) 3=u:=by cases l<;>rfl
theorem wrap64 {x:Int} (h1: -9223372036854775808≤x) (h2:x<9223372036854775808):IntKind.wrap .i64 x=x:=by
 rw[IntKind.wrap_i64];omega
theorem HI {x:Int} (h1:0≤x) (h2:x<256):IntKind.wrap .u8 x=x:=by
 rw[IntKind.wrap_u8];omega
@[simp] theorem yo (es:List V) (n:Nat):idx es (n:Int)=es[n]? :=by simp[idx]
section
variable {X R:Type} {step:X→Option (X ⊕ R)}
theorem aeQ (s:Nat→X) (n:Nat) {r:R} (h: ∀i,i<n→step (s i)=some (.inl (s (i+1)))) (he:step (s n)=some (.inr r)):Loop step (s 0)=some r:=by
 induction n generalizing s with
 | zero=>exact aG he
 | succ n ih=>
  rw[br (h 0 (by omega))]
  exact ih (fun i=>s (i+1)) (fun i hi=>h (i+1) (by omega)) he
end
@[simp] theorem ar {α:Type} (p:Prop) [Decidable p] (a b:α):(bif decide p then a else b)=if p then a else b:=by by_cases h:p<;>simp[h]
@[simp] theorem cq {α:Type} (m n:Int) (a b:α):(bif m==n then a else b)=if m=n then a else b:=by
 by_cases h:m=n
 ·simp[h]
 ·have:(m==n)=false:=by simp[h]
  rw[this,ah h];rfl
@[simp] theorem kC {α:Type} (m n:Int) (a b:α):(bif m != n then a else b)=if m=n then b else a:=by
 by_cases h:m=n
 ·simp[h]
 ·have:(m != n)=true:=by simp[h]
  rw[this,ah h];rfl
@[simp] theorem dH {α:Type} (c:Bool) (a b:α):(bif !c then a else b)=bif c then b else a:=by cases c<;>rfl
@[simp] theorem sq {α:Type} (m n:Nat) (a b:α):(bif Nat.ble m n then a else b)=if m≤n then a else b:=by
 cases hb:Nat.ble m n with
 | true=>rw[ag (Nat.le_of_ble_eq_true hb)];rfl
 | false=>
  rw[ah fun h=> ?_]
  ·rfl
  ·rw[Nat.ble_eq_true_of_le h] at hb;cases hb
@[simp] theorem bK {α:Type} (c d:Bool) (a b:α):(bif c&&d then a else b)=bif c then (bif d then a else b) else b:=by cases c<;>rfl
section
variable {P:Program}
def VB (P : Program) : Bool := P.funcs.all fun fn => !(fn.name == "runtime.NumGoroutine")
theorem aeR (h:VB P=true):BY P:=by
 intro f fn hf
 unfold VB at h
 have:=(Array.all_eq_true_iff_forall_mem.1 h) fn (Array.mem_of_getElem? hf)
 simpa using this
theorem Sf {t:TypeId} {ts:List TypeId} {xs:List V} (h:rB P (t::ts) xs): ∃x ys,xs=x::ys∧kQ P t x∧rB P ts ys:=by
 cases xs with
 | nil=>exact h.elim
 | cons x ys=>exact ⟨x,ys,rfl,h.1,h.2⟩
theorem abT {xs:List V} (h:rB P [] xs):xs=[]:=by
 cases xs with
 | nil=>rfl
 | cons x ys=>exact h.elim
theorem kQ.one {t:TypeId} {x:V} (ha:b7 P t=false) (h:kQ P t x):WT P t x:=by
 have he:bp P t=[t]:=by simp[bp,ha]
 have:=h.2 0 t (by rw[he];rfl)
 simpa[cb,ha] using this
theorem WT.eD {t:TypeId} {k:IntKind} {x:V} (hu:P.underlying t=some (.int k)) (h:WT P t x): ∃n,x= .int k n∧k.min≤n∧n≤k.max:=by
 cases h with
 | int h1 h2=>
  rw[hu] at h1
  cases h1
  simp only[Lit.wf,aU,dX] at h2
  exact ⟨_,rfl,h2⟩
 | bool h1=>rw[hu] at h1;cases h1
 | str h1=>rw[hu] at h1;cases h1
 | list h1=>rw[hu] at h1;cases h1
theorem WT.lf {t:TypeId} {x:V} (hu:P.underlying t=some .bool) (h:WT P t x): ∃b,x= .bool b:=by
 cases h with
 | int h1=>rw[hu] at h1;cases h1
 | bool h1=>exact ⟨_,rfl⟩
 | str h1=>rw[hu] at h1;cases h1
 | list h1=>rw[hu] at h1;cases h1
theorem WT.ng {t:TypeId} {x:V} (hu:P.underlying t=some .string) (h:WT P t x): ∃s,x= .str s∧s.length≤maxLen:=by
 cases h with
 | int h1=>rw[hu] at h1;cases h1
 | bool h1=>rw[hu] at h1;cases h1
 | str h1 h2=>exact ⟨_,rfl,h2⟩
 | list h1=>rw[hu] at h1;cases h1
theorem WT.aeS {t e:TypeId} {x:V} (hu:P.underlying t=some (.slice e)) (h:WT P t x): ∃es,x= .list e es∧es.length≤maxLen∧∀y∈es,kQ P e y:=by
 cases h with
 | int h1=>rw[hu] at h1;cases h1
 | bool h1=>rw[hu] at h1;cases h1
 | str h1=>rw[hu] at h1;cases h1
 | list h1 h2 h3 h4=>
  rw[hu] at h1
  cases h1
  refine ⟨_,rfl,h2,fun y hy=> ?_⟩
  obtain ⟨i,hi⟩:=s8 hy
  exact ⟨h3 i y hi,fun j t' hj=>h4 i j y t' hi hj⟩
theorem kQ.lL {t:TypeId} {x:V} (ha:b7 P t=true) (h:kQ P t x): ∃xs,x= .agg xs∧xs.length=(bp P t).length∧∀(j:Nat) t' y,(bp P t)[j]? =some t'→xs[j]? =some y→WT P t' y:=by
 obtain ⟨xs,rfl,hl⟩:=h.1 ha
 refine ⟨xs,rfl,hl,fun j t' y hj hy=> ?_⟩
 have:=h.2 j t' hj
 simp only[cb,ha,cond_true,V.aeP] at this
 rw[u7 _ _ _ hy] at this
 exact this
theorem VC {α:Type} {f:α→V} {p:α→Prop}: ∀{es:List V},(∀y∈es,∃a,y=f a∧p a)→∃l:List α,es=l.map f∧∀a∈l,p a
 | [],_=>⟨[],rfl,by simp⟩
 | y::es,h=>by
  obtain ⟨a,rfl,ha⟩:=h y (by simp)
  obtain ⟨l,rfl,hl⟩:=VC (f:=f) (p:=p) (es:=es) fun z hz=>h z (by simp[hz])
  exact ⟨a::l,rfl,by
   intro b hb
   rcases cH.1 hb with rfl|hb
   ·exact ha
   ·exact hl b hb⟩
theorem kQ.int {t:TypeId} {x:V} (hu:P.underlying t=some (.int .i64)) (h:kQ P t x): ∃n,x= .int .i64 n∧IntKind.min .i64≤n∧n≤IntKind.max .i64:=
 (h.one (by simp[b7,hu])).eD hu
theorem kQ.str {t:TypeId} {x:V} (hu:P.underlying t=some .string) (h:kQ P t x): ∃s,x= .str s∧s.length≤maxLen:=
 (h.one (by simp[b7,hu])).ng hu
end
def un.{u} {A B:Type} {γ:Sort u} (f:A→B→γ) (p:A × B):γ:=f p.1 p.2
def bD {A B γ:Type} (f:A→γ) (g:B→γ):A ⊕ B→γ
 | .inl a=>f a
 | .inr b=>g b
def aq:List Nat→Code→Code
 | [],c=>c
 | 0::p,.seq a _=>aq p a
 | _::p,.seq _ b=>aq p b
 | 0::p,.cond _ a _=>aq p a
 | _::p,.cond _ _ b=>aq p b
 | _::p,.block _ c=>aq p c
 | _::p,.loop c=>aq p c
 | _,c=>c
inductive cg where
 | loop (c:Code)
 | cond (t:Nat) (x y:Code)
section
variable (P:Program) (A:cW) (C:af) (L:cj) (f n m:Nat)
def qQ:Code→List cg
 | .seq a b=>qQ a++qQ b
 | .cond (.tmp t) x y=>
  match A.iD f (t*16+15) with
  | none=>qQ x++qQ y
  | some _=>[.cond t x y]
 | .cond (.const _) x y=>qQ x++qQ y
 | .block _ c=>qQ c
 | .loop c=>[.loop c]
 | _=>[]
def ch:cg→Prop
 | .loop c=>
  match A.iD f (keyOf c+1) with
  | none=>True
  | some S=> ∀(β:Type) ds (k:Nat→List V→Option β),L β (keyOf c+1) ds k=(Loop (stepG P A C f n m S c) ds).bind fun r=>k r.1 r.2
 | .cond t x y=>
  match A.iD f (t*16+15) with
  | none=>True
  | some S=> ∀(β:Type) ds (k:Nat→List V→Option β),L β (t*16+15) ds k=(Bg P A C f n m t S x y ds).bind fun r=>k r.1 r.2
def oR:List cg→Prop
 | []=>True
 | b::l=>ch P A C L f n m b∧oR l
variable {P A C L f n m}
theorem oR.left {a b:List cg}:oR P A C L f n m (a++b)→oR P A C L f n m a:=by
 induction a with
 | nil=>exact fun _=>trivial
 | cons x a ih=>exact fun h=>⟨h.1,ih h.2⟩
theorem oR.right {a b:List cg}:oR P A C L f n m (a++b)→oR P A C L f n m b:=by
 induction a with
 | nil=>exact fun h=>h
 | cons x a ih=>exact fun h=>ih h.2
theorem aM: ∀{c:Code} {bs:List cg},qQ A f c=bs→oR P A C L f n m bs→ji P A C L f n m c:=by
 intro c
 induction c with
 | seq a b KM KN=>
  intro bs h hb
  subst h
  exact ⟨KM rfl hb.left,KN rfl hb.right⟩
 | cond c x y gU gV=>
  intro bs h hb
  subst h
  cases c with
  | tmp t=>
   simp only[qQ] at hb
   simp only[ji]
   cases hs:A.iD f (t*16+15) with
   | none=>
    rw[hs] at hb
    exact ⟨gU rfl hb.left,gV rfl hb.right⟩
   | some S=>
    rw[hs] at hb
    have:=hb.1
    simp only[ch,hs] at this
    exact this
  | const v=>exact ⟨gU rfl hb.left,gV rfl hb.right⟩
  | _=>trivial
 | block id c ih=>
  intro bs h hb
  subst h
  exact ih rfl hb
 | loop c ih=>
  intro bs h hb
  subst h
  exact hb.1
 | _=>intro bs h hb;trivial
variable (P A C L f n m) in
noncomputable def MD {β:Type} (t:Nat) (S:Shape × List (Out × Shape)) (x y:Code) (ds:List V) (k:Nat→List V→Option β):Option β:=
 let kc:Out→St→Option β:=fun o st=>
  match o with
  | .norm=>(ways m 0 S.2 (.norm,canon m (A.join f t) st)).bind fun e=>k e.1 e.2
  | o=>(ways m 0 S.2 (o,st)).bind fun e=>k e.1 e.2
 match (bA S.1 ds).sl t with
 | .bool b=>bif b then jh P A C L f n m x (bA S.1 ds) kc else jh P A C L f n m y (bA S.1 ds) kc
 | _=>none
theorem aeT {t:Nat} {x y:Code} {S:Shape × List (Out × Shape)} (hS:A.iD f (t*16+15)=some S) (hx:ji P A C L f n m x) (hy:ji P A C L f n m y) {I R:Type} (enc:I→List V) (nw:I→R→Nat × List V)
  (de:List V→I) (body:I→(β:Type)→(R→Option β)→Option β) (vH: ∀ds,bA S.1 (enc (de ds))=bA S.1 ds)
  (e1: ∀i (β:Type) (k:Nat→List V→Option β),MD P A C L f n m t S x y (enc i) k=body i β (fun r=>k (nw i r).1 (nw i r).2))
  (hl: ∀(β:Type) ds (k:Nat→List V→Option β),L β (t*16+15) ds k=body (de ds) β (fun r=>k (nw (de ds) r).1 (nw (de ds) r).2)):
  ch P A C L f n m (.cond t x y):=by
 simp only[ch,hS]
 intro β ds k
 rw[hl,←e1]
 unfold MD Bg
 rw[vH]
 simp only
 have hk: ∀(z:Option (Out × St)),(z.bind fun r=>(match r.1 with
   | .norm=>(ways m 0 S.2 (.norm,canon m (A.join f t) r.2)).bind fun e=>k e.1 e.2
   | o=>(ways m 0 S.2 (o,r.2)).bind fun e=>k e.1 e.2))=((z.bind fun r=>
   match r.1 with
   | .norm=>some (Out.norm,canon m (A.join f t) r.2)
   | _=>some r).bind fun r=>ways m 0 S.2 r).bind fun r=>k r.1 r.2:=by
  intro z
  cases z with
  | none=>rfl
  | some r=>obtain ⟨o,st⟩:=r;cases o<;>rfl
 cases (bA S.1 ds).sl t with
 | bool b=>
  cases b with
  | true=>simp only[cond_true,Gj P A C f n m x hx];exact hk _
  | false=>simp only[cond_false,Gj P A C f n m y hy];exact hk _
 | _=>rfl
theorem aZ {b:cg} {l:List cg} (h:ch P A C L f n m b) (h2:oR P A C L f n m l):oR P A C L f n m (b::l):=⟨h,h2⟩
theorem aw:oR P A C L f n m []:=trivial
theorem bn {key:Nat} {bs:List cg} (hb:qQ A key (bU P (A.aT key))=bs) (ht:oR P A (Call P A) L key (cv P (A.aT key)) (A.sin key).bf.length bs) {ds:List V} {r:Option (List V)}
  (h:KO P A (Call P A) L key ds=r):Call P A key ds=r:=by
 rw[aeK,ab6 P A (Call P A) key (aM hb ht),h]
end
section
variable (P:Program) (A:cW)
def jo (C:af) (N f n m:Nat):Code→St→Option (Out × St)
 | .skip,st=>some (.norm,st)
 | .region id ops draw,st=>(xA P (A.here f id) C n ops draw st).bind fun st'=>some (.norm,canon m (A.live f id) (freeze m (A.pur f id) st'))
 | .seq a b,st=>(jo C N f n m a st).bind fun r=>
  match r.1 with
  | .norm=>jo C N f n m b r.2
  | _=>some r
 | .cond (.tmp t) x y,st=>
  let go (st:St):Option (Out × St):=
   match st.sl t with
   | .bool b=>(bif b then jo C N f n m x st else jo C N f n m y st).bind fun r=>
    match r.1 with
    | .norm=>some (.norm,canon m (A.join f t) r.2)
    | _=>some r
   | _=>none
  match A.iD f (t*16+15) with
  | none=>go st
  | some S=>(ju m S.1 st).bind fun ds=>((go (bA S.1 ds)).bind fun r=>ways m 0 S.2 r).bind fun e=>k0 0 S.2 e.1 e.2 fun o st=>some (o,st)
 | .cond (.const (.bool b)) x y,st=>bif b then jo C N f n m x st else jo C N f n m y st
 | .block id c,st=>(jo C N f n m c st).bind fun r=>
  match r.1 with
  | .norm=>some (.norm,canon m (A.blk f id) r.2)
  | .exit aJ=>bif Nat.beq aJ id then some (.norm,canon m (A.blk f id) r.2) else some r
  | .ret=>some r
 | .loop c,st=>
  match A.iD f (keyOf c+1) with
  | none=>none
  | some S=>(ju m S.1 st).bind fun ds=>(fv (fun ds=>lI m S.1 S.2 (jo C N f n m c (bA S.1 ds))) N ds).bind fun e=>k0 0 S.2 e.1 e.2 fun o st=>some (o,st)
 | .exit id,st=>some (.exit id,st)
 | .ret,st=>some (.ret,st)
 | _,_=>none
def ME (C:af) (N f:Nat) (ds:List V):Option (List V):=
 match P.funcs[A.aT f]? with
 | none=>none
 | some fn=>
  match fn.body with
  | none=>none
  | some c=>bif jg 0 (A.sin f).bQ&&(Nat.ble (A.sin f).bQ.length fn.ntmps&&((A.sin f).ok&&(jg 0 (A.gj f).bQ&&(Nat.beq (A.gj f).bQ.length fn.results.size&&po (m8 (A.sin f).bf.length (A.mv f)))))) then
    (jo P A C N f fn.ntmps (A.sin f).bf.length c (Bf A f ds)).bind fun r=>
     match r.1 with
     | .exit _=>none
     | _=>((uT P A f fn (A.sin f).bf.length r.2).run C r.2.hp).map (·.1)
   else none
def HJ (N:Nat):Nat→af
 | 0=>fun _ _=>none
 | n+1=>ME P A (HJ N n) N
variable {P A}
theorem VD {X R:Type} {s1 s2:X→Option (X ⊕ R)} (h: ∀x y,s1 x=some y→s2 x=some y): ∀(n:Nat) (x:X) (r:R),fv s1 n x=some r→fv s2 n x=some r
 | 0,x,r,e=>by cases e
 | n+1,x,r,e=>by
  simp only[fv] at e⊢
  obtain ⟨y,h1,h2⟩:=bind_some e
  rw[h x y h1]
  cases y with
  | inl z=>exact VD h n z r h2
  | inr q=>exact h2
theorem aeU {C:af} {N f n m:Nat}: ∀(c:Code) {st:St} {r:Out × St},jo P A C N f n m c st=some r→exec P A C f n m c st=some r:=by
 intro c
 induction c with
 | skip=>exact fun e=>e
 | exit id=>exact fun e=>e
 | ret=>exact fun e=>e
 | region id ops draw=>exact fun e=>e
 | seq x y gU gV=>
  intro st r e
  simp only[jo,exec] at e⊢
  obtain ⟨⟨o,s1⟩,h1,h2⟩:=bind_some e
  rw[gU h1]
  cases o with
  | norm=>exact gV h2
  | exit id=>exact h2
  | ret=>exact h2
 | cond c x y gU gV=>
  intro st r e
  cases c with
  | tmp t=>
   have go: ∀{st:St} {r:Out × St},(match st.sl t with
     | .bool b=>(bif b then jo P A C N f n m x st else jo P A C N f n m y st).bind fun r=>
      match r.1 with
      | .norm=>some (.norm,canon m (A.join f t) r.2)
      | _=>some r
     | _=>none)=some r→(match st.sl t with
     | .bool b=>(bif b then exec P A C f n m x st else exec P A C f n m y st).bind fun r=>
      match r.1 with
      | .norm=>some (.norm,canon m (A.join f t) r.2)
      | _=>some r
     | _=>none)=some r:=by
    intro st r e
    cases hs:st.sl t<;>rw[hs] at e<;>simp only at e⊢ <;>first|(cases e;done)|skip
    rename_i b
    obtain ⟨x1,h1,h2⟩:=bind_some e
    cases b with
    | true=>simp only[cond_true,gU h1,Option.bind_some];exact h2
    | false=>simp only[cond_false,gV h1,Option.bind_some];exact h2
   simp only[jo,exec] at e⊢
   split at e
   ·rename_i hS
    try rw[hS]
    exact go e
   ·rename_i S hS
    obtain ⟨ds,h1,h2⟩:=bind_some e
    obtain ⟨e',h3,h4⟩:=bind_some h2
    obtain ⟨r1,h5,h6⟩:=bind_some h3
    try rw[hS]
    simp only[h1,Option.bind_some]
    exact (congrArg (fun z:Option (Out × St)=>(z.bind fun r=>ways m 0 S.2 r).bind fun e=>k0 0 S.2 e.1 e.2 fun o st=>some (o,st)) (go h5)).trans (by simp only[Option.bind_some,h6];exact h4)
  | const v=>
   cases v with
   | bool b=>
    simp only[jo,exec] at e⊢
    cases b with
    | true=>exact gU e
    | false=>exact gV e
   | _=>simp only[jo] at e;cases e
  | _=>simp only[jo] at e;cases e
 | block id c ih=>
  intro st r e
  simp only[jo,exec] at e⊢
  obtain ⟨x1,h1,h2⟩:=bind_some e
  rw[ih h1]
  exact h2
 | loop c ih=>
  intro st r e
  simp only[jo,exec] at e⊢
  split at e
  ·cases e
  ·rename_i S hS
   obtain ⟨ds,h1,h2⟩:=bind_some e
   obtain ⟨e',h3,h4⟩:=bind_some h2
   try rw[hS]
   simp only[h1,Option.bind_some]
   rw[xk (VD (s2:=fun ds=>lI m S.1 S.2 (exec P A C f n m c (bA S.1 ds))) (fun x y vF=>by
    unfold lI at vF⊢
    obtain ⟨z,h5,h6⟩:=bind_some vF
    rw[ih h5]
    exact h6) N ds e' h3)]
   exact h4
 | _=>intro st r e;simp only[jo] at e;cases e
theorem aeV {C:af} {N f:Nat} {ds es:List V} (e:ME P A C N f ds=some es):pr P A C f ds=some es:=by
 unfold ME at e
 unfold pr
 cases hf:P.funcs[A.aT f]? with
 | none=>rw[hf] at e;cases e
 | some fn=>
  rw[hf] at e
  simp only at e⊢
  cases hb:fn.body with
  | none=>rw[hb] at e;cases e
  | some c=>
   rw[hb] at e
   simp only at e⊢
   cases hc:(jg 0 (A.sin f).bQ&&(Nat.ble (A.sin f).bQ.length fn.ntmps&&((A.sin f).ok&&(jg 0 (A.gj f).bQ&&(Nat.beq (A.gj f).bQ.length fn.results.size&&po (m8 (A.sin f).bf.length (A.mv f))))))) with
   | false=>rw[hc] at e;cases e
   | true=>
    rw[hc] at e
    simp only[cond_true] at e⊢
    obtain ⟨x,h1,h2⟩:=bind_some e
    rw[aeU c h1]
    exact h2
theorem VE {N:Nat}: ∀n {f:Nat} {a r:List V},HJ P A N n f a=some r→k9 P A n f a=some r
 | 0,f,a,r,h=>by cases h
 | n+1,f,a,r,h=>by
  obtain ⟨M,hM⟩:=Hz (C:=HJ P A N n) (D:=fun _=>k9 P A n) (fun f a r h=>⟨0,fun _ _=>VE n h⟩) (aeV h)
  exact hM M (bN _)
theorem aeW {N n f:Nat} {a r:List V} (h:HJ P A N n f a=some r):Call P A f a=some r:=Ce.2 ⟨n,VE n h⟩
end
inductive LK where
 | int (k:IntKind)
 | bool
 | str
 | list (e:TypeId)
 | nat
def LK.Ty:LK→Type
 | .int _=>Int
 | .bool=>Bool
 | .str=>List UInt8
 | .list _=>List V
 | .nat=>Nat
def LK.enc:(k:LK)→k.Ty→V
 | .int k,n=> .int k n
 | .bool,b=> .bool b
 | .str,s=> .str s
 | .list e,l=> .list e l
 | .nat,n=>eX n
def LK.dec:(k:LK)→V→k.Ty
 | .int _,v=>v.toInt
 | .bool,v=>v.toBool
 | .str,v=>v.toStr
 | .list _,v=>v.toList
 | .nat,v=>lF v
theorem LK.VF: ∀(k:LK) (x:k.Ty),k.dec (k.enc x)=x
 | .int _,_=>rfl
 | .bool,_=>rfl
 | .str,_=>rfl
 | .list _,_=>rfl
 | .nat,_=>rfl
def MF:List Nat→List LK
 | []=>[]
 | _::l=> .nat::MF l
def LS.ks:LS→List LK
 | .int k=>[.int k]
 | .bool=>[.bool]
 | .str=>[.str]
 | .list e=>[.list e]
 | .sub .. =>[.nat,.nat]
 | .ptr _=>[.nat,.nat]
 | .row _ _ cs=>MF cs
 | .c6 _ cs _=> .nat::MF cs
 | _=>[]
def yp:List LS→List LK
 | []=>[]
 | l::ls=>l.ks++yp ls
def VS.ks:VS→List LK
 | .one l=>l.ks
 | .agg ls=>yp ls
 | .bC ls=>yp ls
 | .fn _ a b=>yp a++yp b
 | .pref _ ls=>yp ls
def VG:List VS→List LK
 | []=>[]
 | l::ls=>l.ks++VG ls
def BS.ks:BS→List LK
 | .var _ cs=>VG cs
 | .arr e _=>[.list e]
 | .nest e=>[.list e]
 | .dead=>[]
 | .map t=>[.list t]
def VH:List (Nat × VS)→List LK
 | []=>[]
 | p::l=>p.2.ks++VH l
def VI:List BS→List LK
 | []=>[]
 | b::l=>b.ks++VI l
def Shape.ks (S:Shape):List LK:=VH S.bQ++VI S.bf
def MG:List Nat→List V→List V
 | [],_=>[]
 | _::cs,ds=>eX (lF (V.nth ds 0))::MG cs (ds.drop 1)
def LS.norm:LS→List V→List V
 | .int k,ds=>[.int k (V.nth ds 0).toInt]
 | .bool,ds=>[.bool (V.nth ds 0).toBool]
 | .str,ds=>[.str (V.nth ds 0).toStr]
 | .list e,ds=>[.list e (V.nth ds 0).toList]
 | .sub ..,ds=>[eX (lF (V.nth ds 0)),eX (lF (V.nth ds 1))]
 | .ptr _,ds=>[eX (lF (V.nth ds 0)),eX (lF (V.nth ds 1))]
 | .row _ _ cs,ds=>MG cs ds
 | .c6 _ cs _,ds=>eX (lF (V.nth ds 0))::MG cs (ds.drop 1)
 | _,_=>[]
def yq:List LS→List V→List V
 | [],_=>[]
 | l::ls,ds=>l.norm ds++yq ls (ds.drop l.size)
def VS.norm:VS→List V→List V
 | .one l,ds=>l.norm ds
 | .agg ls,ds=>yq ls ds
 | .bC ls,ds=>yq ls ds
 | .fn _ a b,ds=>yq a ds++yq b (ds.drop (kY a))
 | .pref _ ls,ds=>yq ls ds
def VJ:List VS→List V→List V
 | [],_=>[]
 | l::ls,ds=>l.norm ds++VJ ls (ds.drop l.size)
def BS.norm:BS→List V→List V
 | .var _ cs,ds=>VJ cs ds
 | .arr e _,ds=>[.list e (V.nth ds 0).toList]
 | .nest e,ds=>[.list e (V.nth ds 0).toList]
 | .dead,_=>[]
 | .map t,ds=>[.list t (V.nth ds 0).toList]
def VK:List (Nat × VS)→List V→List V
 | [],_=>[]
 | p::l,ds=>p.2.norm ds++VK l (ds.drop p.2.size)
def VL:List BS→List V→List V
 | [],_=>[]
 | b::l,ds=>b.norm ds++VL l (ds.drop b.size)
def Shape.norm (S:Shape) (ds:List V):List V:=VK S.bQ ds++VL S.bf (ds.drop (pn S.bQ))
def vI:LK→List LK→Type
 | k,[]=>k.Ty
 | k,k'::ks=>k.Ty × vI k' ks
def ll:List LK→Type
 | []=>Unit
 | k::ks=>vI k ks
def vJ:(k:LK)→(ks:List LK)→vI k ks→List V
 | k,[],x=>[k.enc x]
 | k,k'::ks,x=>k.enc x.1::vJ k' ks x.2
def lQ:(ks:List LK)→ll ks→List V
 | [],_=>[]
 | k::ks,x=>vJ k ks x
def Ci:(k:LK)→(ks:List LK)→List V→vI k ks
 | k,[],l=>k.dec (V.nth l 0)
 | k,k'::ks,l=>(k.dec (V.nth l 0),Ci k' ks l.tail)
def pQ:(ks:List LK)→List V→ll ks
 | [],_=>()
 | k::ks,l=>Ci k ks l
theorem VM: ∀(k:LK) (ks:List LK) (x:vI k ks) (r:List V),Ci k ks (vJ k ks x++r)=x
 | k,[],x,r=>LK.VF k x
 | k,k'::ks,x,r=>by
  show (k.dec (k.enc x.1),Ci k' ks (vJ k' ks x.2++r))=x
  rw[LK.VF,VM k' ks]
  rfl
def yr:List LK→Type 1→Type 1
 | [],R=>R
 | k::ks,R=>k.Ty→yr ks R
def VN:(k:LK)→(ks:List LK)→{R:Type 1}→yr (k::ks) R→vI k ks→R
 | _,[],_,f,x=>f x
 | _,k'::ks,_,f,x=>VN k' ks (f x.1) x.2
def vK:(ks:List LK)→{R:Type 1}→yr ks R→ll ks→R
 | [],_,f,_=>f
 | k::ks,_,f,x=>VN k ks f x
def yu {α:Type} (b:Bool):List Bool→List α→List α
 | [],_=>[]
 | _,[]=>[]
 | c::m,x::l=>bif c==b then x::yu b m l else yu b m l
def merge:List Bool→List V→List V→List V
 | [],_,_=>[]
 | true::m,i,x=>V.nth x 0::merge m i x.tail
 | false::m,i,x=>V.nth i 0::merge m i.tail x
def yv:List Nat→List LK→List LK
 | [],_=>[]
 | _,[]=>[]
 | 0::t,k::ks=>k::yv t ks
 | (_+1)::t,_::ks=>yv t ks
abbrev gF:=List Nat × List LK
def gF.fresh (w:gF):List LK:=yv w.1 w.2
def put:List Nat→List V→List V→List V
 | [],_,_=>[]
 | 0::t,ds,x=>V.nth x 0::put t ds x.tail
 | (j+1)::t,ds,x=>V.nth ds j::put t ds x
def vL:List Nat→List V→List V
 | [],_=>[]
 | 0::t,l=>V.nth l 0::vL t l.tail
 | (_+1)::t,l=>vL t l.tail
def tO:gF→List gF→Type
 | w,[]=>ll w.fresh
 | w,w'::ws=>ll w.fresh ⊕ tO w' ws
def sr:List gF→Type
 | []=>Empty
 | w::ws=>tO w ws
def wN (ds:List V) {β:Type} (k:Nat→List V→Option β):Nat→(w:gF)→(ws:List gF)→tO w ws→Option β
 | j,w,[],r=>k j (put w.1 ds (lQ w.fresh r))
 | j,w,w'::ws,r=>bD (fun x=>k j (put w.1 ds (lQ w.fresh x))) (fun y=>wN ds k (j+1) w' ws y) r
def wT (ds:List V) {β:Type} (k:Nat→List V→Option β):(ws:List gF)→sr ws→Option β
 | [],r=>Empty.elim r
 | w::ws,r=>wN ds k 0 w ws r
def pR (ds:List V):Nat→(w:gF)→(ws:List gF)→tO w ws→Nat × List V
 | j,w,[],r=>(j,put w.1 ds (lQ w.fresh r))
 | j,w,_::_,.inl x=>(j,put w.1 ds (lQ w.fresh x))
 | j,_,w'::ws,.inr y=>pR ds (j+1) w' ws y
def yw (ds:List V):(ws:List gF)→sr ws→Nat × List V
 | [],r=>Empty.elim r
 | w::ws,r=>pR ds 0 w ws r
theorem VO (ds:List V) {β:Type} (k:Nat→List V→Option β): ∀(j:Nat) (w:gF) (ws:List gF) (r:tO w ws),wN ds k j w ws r=k (pR ds j w ws r).1 (pR ds j w ws r).2
 | _,_,[],_=>rfl
 | _,_,_::_,.inl _=>rfl
 | j,_,w'::ws,.inr y=>VO ds k (j+1) w' ws y
theorem HK (ds:List V) {β:Type} (k:Nat→List V→Option β): ∀(ws:List gF) (r:sr ws),wT ds k ws r=k (yw ds ws r).1 (yw ds ws r).2
 | [],r=>Empty.elim r
 | w::ws,r=>VO ds k 0 w ws r
def yx:Nat→(w:gF)→(ws:List gF)→List V→tO w ws
 | _,w,[],l=>pQ w.fresh (vL w.1 l)
 | 0,w,_::_,l=> .inl (pQ w.fresh (vL w.1 l))
 | j+1,_,w'::ws,l=> .inr (yx j w' ws l)
def VP (j:Nat):(ws:List gF)→List V→Option (sr ws)
 | [],_=>none
 | w::ws,l=>some (yx j w ws l)
def yz:List Nat→List V→List V
 | [],_=>[]
 | 0::t,x=>V.nth x 0::yz t x.tail
 | (_+1)::t,x=>yz t x
theorem MH: ∀(t:List Nat) (ds x:List V),vL t (put t ds x)=yz t x
 | [],_,_=>rfl
 | 0::t,ds,x=>congrArg (V.nth x 0:: ·) (MH t ds x.tail)
 | (_+1)::t,ds,x=>MH t ds x
theorem MI: ∀(t:List Nat) (ks:List LK) (k:LK) (cd:List LK),yv t ks=k::cd→∀x:vI k cd,∃r,yz t (vJ k cd x)=vJ k cd x++r
 | [],_,_,_,h,_=>by cases h
 | _::_,[],_,_,h,_=>by simp[yv] at h
 | 0::t,a::ks,k,cd,h,x=>by
  simp only[yv,List.cons.injEq] at h
  obtain ⟨rfl,h2⟩:=h
  cases cd with
  | nil=>exact ⟨yz t [],rfl⟩
  | cons k' cd=>
   obtain ⟨r,hr⟩:=MI t ks k' cd h2 x.2
   exact ⟨r,congrArg (a.enc x.1:: ·) hr⟩
 | (_+1)::t,a::ks,k,cd,h,x=>MI t ks k cd h x
theorem VQ (w:gF) (ds:List V) (x:ll w.fresh):pQ w.fresh (vL w.1 (put w.1 ds (lQ w.fresh x)))=x:=by
 rw[MH]
 revert x
 generalize hf:w.fresh=f
 cases f with
 | nil=>intro x;rfl
 | cons k ks=>
  intro x
  obtain ⟨r,hr⟩:=MI w.1 w.2 k ks hf x
  show Ci k ks (yz w.1 (vJ k ks x))=x
  rw[hr]
  exact VM k ks x r
theorem VR (ds:List V): ∀(j:Nat) (w:gF) (ws:List gF) (r:tO w ws),j≤(pR ds j w ws r).1
 | _,_,[],_=>bN _
 | _,_,_::_,.inl _=>bN _
 | j,_,w'::ws,.inr y=>lA (Nat.le_succ j) (VR ds (j+1) w' ws y)
theorem aeX (w:gF) (l:List V): ∀j,yx j w [] l=pQ w.fresh (vL w.1 l)
 | 0=>rfl
 | _+1=>rfl
theorem VT (ds:List V): ∀(j:Nat) (w:gF) (ws:List gF) (r:tO w ws),yx ((pR ds j w ws r).1-j) w ws (pR ds j w ws r).2=r
 | j,w,[],r=>(aeX w _ _).trans (VQ w ds r)
 | j,w,w'::ws,.inl x=>by
  show yx (j-j) w (w'::ws) (put w.1 ds (lQ w.fresh x))= .inl x
  rw[Nat.sub_self]
  exact congrArg Sum.inl (VQ w ds x)
 | j,w,w'::ws,.inr y=>by
  have h1:=VR ds (j+1) w' ws y
  have h2:=VT ds (j+1) w' ws y
  show yx ((pR ds (j+1) w' ws y).1-j) w (w'::ws) (pR ds (j+1) w' ws y).2= .inr y
  obtain ⟨d,hd⟩: ∃d,(pR ds (j+1) w' ws y).1=j+1+d:=⟨(pR ds (j+1) w' ws y).1-(j+1),by omega⟩
  rw[hd] at h2⊢
  rw[show j+1+d-(j+1)=d by omega] at h2
  rw[show j+1+d-j=d+1 by omega]
  exact congrArg Sum.inr h2
theorem aeY (ds:List V): ∀(ws:List gF) (r:sr ws),VP (yw ds ws r).1 ws (yw ds ws r).2=some r
 | [],r=>Empty.elim r
 | w::ws,r=>congrArg some (VT ds 0 w ws r)
section
variable {P:Program} {A:cW} {C:af} {L:cj} {f n m:Nat}
theorem aeZ {c:Code} {S:Shape × List (Out × Shape)} (hS:A.iD f (keyOf c+1)=some S) (hL:ji P A C L f n m c) {I X R:Type} (enc:I→X→List V) (nw:I→R→Nat × List V)
  (qR:List V→I) (su:List V→X) (HL:Nat × List V→Option R) (body:I→X→(β:Type)→(X→Option β)→(R→Option β)→Option β)
  (vH: ∀ds,bA S.1 (enc (qR ds) (su ds))=bA S.1 ds) (MJ: ∀i x,su (enc i x)=x) (hdr: ∀i r,HL (nw i r)=some r)
  (e1: ∀i x (β:Type) (k:(List V ⊕ (Nat × List V))→Option β),jh P A C L f n m c (bA S.1 (enc i x)) (fun o st=>(lI m S.1 S.2 (some (o,st))).bind k)=
   body i x β (fun y=>k (.inl (enc i y))) (fun r=>k (.inr (nw i r))))
  (hl: ∀(β:Type) ds (k:Nat→List V→Option β),L β (keyOf c+1) ds k=(Loop (fun x=>body (qR ds) x (X ⊕ R) (fun y=>some (.inl y)) (fun r=>some (.inr r))) (su ds)).bind fun r=>k (nw (qR ds) r).1 (nw (qR ds) r).2):
  ch P A C L f n m (.loop c):=by
 simp only[ch,hS]
 intro β ds k
 rw[hl]
 have hex: ∀(z:Option (Out × St)),lI m S.1 S.2 z=z.bind fun r=>lI m S.1 S.2 (some (r.1,r.2)):=by
  intro z;cases z<;>rfl
 have hs: ∀i x,stepG P A C f n m S c (enc i x)=(body i x (X ⊕ R) (fun y=>some (.inl y)) (fun r=>some (.inr r))).map fun| .inl y=> .inl (enc i y)| .inr r=> .inr (nw i r):=by
  intro i x
  have k1:=e1 i x _ (fun z=>some z)
  have k2:=e1 i x (X ⊕ R) (fun| .inl ds=>some (.inl (su ds))| .inr e=>(HL e).map .inr)
  have k3:=e1 i x (List V ⊕ (Nat × List V)) (fun| .inl ds=>some (.inl (enc i (su ds)))| .inr e=>(HL e).map fun r=> .inr (nw i r))
  simp only[MJ,hdr,Option.map_some] at k2 k3
  unfold stepG
  rw[hex]
  rw[Gj P A C f n m c hL] at k1 k2 k3
  rw[←k2]
  refine bm ?_ (k1.trans (k3.symm.trans ?_))
  ·congr 1
   funext r
   cases lI m S.1 S.2 (some (r.1,r.2))<;>rfl
  ·cases exec P A C f n m c (bA S.1 (enc i x)) with
   | none=>rfl
   | some r=>
    simp only[Option.bind_some]
    cases lI m S.1 S.2 (some (r.1,r.2)) with
    | none=>rfl
    | some z=>
     cases z with
     | inl _=>rfl
     | inr e=>simp only[Option.bind_some];cases HL e<;>rfl
 have h0:stepG P A C f n m S c ds=stepG P A C f n m S c (enc (qR ds) (su ds)):=by
  unfold stepG
  rw[vH]
 have:Loop (stepG P A C f n m S c) ds=(Loop (fun x=>body (qR ds) x (X ⊕ R) (fun y=>some (.inl y)) (fun r=>some (.inr r))) (su ds)).map (nw (qR ds)):=by
  rw[FV,h0,←FV]
  exact ab4 (enc (qR ds)) (nw (qR ds)) (fun x=>hs _ _) (su ds)
 rw[this]
 cases Loop (fun x=>body (qR ds) x (X ⊕ R) (fun y=>some (.inl y)) (fun r=>some (.inr r))) (su ds)<;>rfl
abbrev Cj (S:Shape) (mk:List Bool):List LK:=yu false mk S.ks
abbrev vM (S:Shape) (mk:List Bool):List LK:=yu true mk S.ks
def sw (ts:List (List Nat)) (W:List (Out × Shape)):List gF:=
 match ts,W with
 | t::ts,w::W=>(t,w.2.ks)::sw ts W
 | _,_=>[]
abbrev Ck (S:Shape) (mk:List Bool) (i:ll (Cj S mk)) (x:ll (vM S mk)):List V:=merge mk (lQ _ i) (lQ _ x)
abbrev MK (S:Shape) (mk:List Bool) (i:ll (Cj S mk)):List V:=merge mk (lQ _ i) []
abbrev HM (S:Shape) (mk:List Bool) (ds:List V):ll (Cj S mk):=pQ _ (yu false mk (S.norm ds))
abbrev HN (S:Shape) (mk:List Bool) (ds:List V):ll (vM S mk):=pQ _ (yu true mk (S.norm ds))
abbrev VU (X R:Type):Type 1:=(β:Type)→(X→Option β)→(R→Option β)→Option β
abbrev ML (S:Shape × List (Out × Shape)) (mk:List Bool) (ts:List (List Nat)):Type 1:=yr (Cj S.1 mk) (yr (vM S.1 mk) (VU (ll (vM S.1 mk)) (sr (sw ts S.2))))
abbrev MM (S:Shape × List (Out × Shape)) (mk:List Bool) (ts:List (List Nat)) (b:ML S mk ts) (i:ll (Cj S.1 mk)) (x:ll (vM S.1 mk)):VU (ll (vM S.1 mk)) (sr (sw ts S.2)):=vK _ (vK _ b i) x
noncomputable def bt (S:Shape × List (Out × Shape)) (mk:List Bool) (ts:List (List Nat)) (b:ML S mk ts) {β:Type} (ds:List V) (k:Nat→List V→Option β):Option β:=
 (Loop (fun x=>MM S mk ts b (HM S.1 mk ds) x (ll (vM S.1 mk) ⊕ sr (sw ts S.2)) (fun y=>some (.inl y)) (fun r=>some (.inr r))) (HN S.1 mk ds)).bind (wT (MK S.1 mk (HM S.1 mk ds)) k (sw ts S.2))
theorem bw {c:Code} (S:Shape × List (Out × Shape)) (mk:List Bool) (ts:List (List Nat)) (b:ML S mk ts) (hS:A.iD f (keyOf c+1)=some S) (hL:ji P A C L f n m c)
  (vH: ∀ds,bA S.1 (Ck S.1 mk (HM S.1 mk ds) (HN S.1 mk ds))=bA S.1 ds) (MJ: ∀i x,HN S.1 mk (Ck S.1 mk i x)=x)
  (e1: ∀i x (β:Type) (k:(List V ⊕ (Nat × List V))→Option β),jh P A C L f n m c (bA S.1 (Ck S.1 mk i x)) (fun o st=>(lI m S.1 S.2 (some (o,st))).bind k)=
   MM S mk ts b i x β (fun y=>k (.inl (Ck S.1 mk i y))) (wT (MK S.1 mk i) (fun j l=>k (.inr (j,l))) (sw ts S.2)))
  (hl: ∀(β:Type) ds (k:Nat→List V→Option β),L β (keyOf c+1) ds k=bt S mk ts b ds k):
  ch P A C L f n m (.loop c):=
 aeZ hS hL (Ck S.1 mk) (fun i r=>yw (MK S.1 mk i) _ r) (HM S.1 mk) (HN S.1 mk) (fun e=>VP e.1 _ e.2) (MM S mk ts b) vH MJ (fun i r=>aeY _ _ r)
  (fun i x β k=>by
   rw[e1]
   congr 1
   funext r
   exact HK _ _ _ r)
  (fun β ds k=>by
   rw[hl]
   unfold bt
   congr 1
   funext r
   exact HK _ _ _ r)
abbrev VV (S:Shape × List (Out × Shape)) (ts:List (List Nat)):Type 1:=yr S.1.ks ((β:Type)→(sr (sw ts S.2)→Option β)→Option β)
noncomputable def fM (S:Shape × List (Out × Shape)) (ts:List (List Nat)) (b:VV S ts) {β:Type} (ds:List V) (k:Nat→List V→Option β):Option β:=
 vK S.1.ks b (pQ _ (S.1.norm ds)) β (wT (lQ S.1.ks (pQ _ (S.1.norm ds))) k (sw ts S.2))
theorem fX {t:Nat} {x y:Code} (S:Shape × List (Out × Shape)) (ts:List (List Nat)) (b:VV S ts) (hS:A.iD f (t*16+15)=some S) (hx:ji P A C L f n m x) (hy:ji P A C L f n m y)
  (vH: ∀ds,bA S.1 (lQ S.1.ks (pQ _ (S.1.norm ds)))=bA S.1 ds)
  (e1: ∀i (β:Type) (k:Nat→List V→Option β),MD P A C L f n m t S x y (lQ S.1.ks i) k=vK S.1.ks b i β (wT (lQ S.1.ks i) k (sw ts S.2)))
  (hl: ∀(β:Type) ds (k:Nat→List V→Option β),L β (t*16+15) ds k=fM S ts b ds k):
  ch P A C L f n m (.cond t x y):=
 aeT hS hx hy (lQ S.1.ks) (fun i r=>yw (lQ S.1.ks i) _ r) (fun ds=>pQ _ (S.1.norm ds)) (vK S.1.ks b) vH
  (fun i β k=>by
   rw[e1]
   exact congrArg (vK S.1.ks b i β) (funext fun r=>HK _ _ _ r))
  (fun β ds k=>by
   rw[hl]
   exact congrArg (vK S.1.ks b (pQ _ (S.1.norm ds)) β) (funext fun r=>HK _ _ _ r))
end
def cS:cj:=fun _ _ _ _=>none
end Go.AM
