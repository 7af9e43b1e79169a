/-
  Functions of the program, lifted to plain data.
-/
import Derived.Conc.MuLone
import Derived.Defers
import Derived.Carry
import Derived.OpenShut
import Derived.Deep.Slices
import Derived.Test.YtbbgbkiefjilcaaGreatDoorP2
set_option linter.unusedVariables false
set_option linter.unusedSimpArgs false
namespace Go.AM
section
variable {P:Program} {A:cP} {w w':World} {I I' I2:Nat→Prop} {μ β β' cC:Nat→Option Nat} {hp hp' hp0 bM:Nat→Option an} {C:ae} {B:Nat} {M:Nat→Prop} {w0:Start}
structure mr (w:World) (I:Nat→Prop) (β:Nat→Option Nat) (hp:Nat→Option an) (w':World) (I':Nat→Prop) (β':Nat→Option Nat) (hp':Nat→Option an):Prop where
 dN: ∀b,I b→I' b
 cl: ∀b,I b→w'.heap[b]? =w.heap[b]?
 blk: ∀id blk,hp id=some blk→∃blk',hp' id=some blk'∧blk.le blk'∧(blk'≠ .dead→β' id=β id)
 size: ∀id blk blk' b,hp id=some blk→hp' id=some blk'→blk'≠ .dead→β id=some b→bsize w' b=bsize w b
theorem Le.Ie (h:Le P w I β hp w' I' β' hp'):mr w I β hp w' I' β' hp':=⟨h.dN,h.cl,h.blk,h.size⟩
theorem mr.trans {Ct:World} {Cu:Nat→Prop} {Cv:Nat→Option Nat} {Cw:Nat→Option an} (h1:mr w I β hp w' I' β' hp') (h2:mr w' I' β' hp' Ct Cu Cv Cw):mr w I β hp Ct Cu Cv Cw:=by
 refine ⟨fun b h=>h2.dN b (h1.dN b h),fun b h=>(h2.cl b (h1.dN b h)).trans (h1.cl b h),fun id blk h=> ?_,fun id blk v5 b h uw hd hb=> ?_⟩
 ·obtain ⟨blk',e',l',b'⟩:=h1.blk id blk h
  obtain ⟨v5,ek,sH,Mo⟩:=h2.blk id blk' e'
  refine ⟨v5,ek,an.le_trans l' sH,fun hd=> ?_⟩
  have ft:blk'≠ .dead:=fun e=>hd (an.qU (e▸sH))
  exact (Mo hd).trans (b' ft)
 ·obtain ⟨blk',e',l',b'⟩:=h1.blk id blk h
  obtain ⟨iQ,e3,l3,b3⟩:=h2.blk id blk' e'
  obtain rfl:iQ=v5:=by rw[e3] at uw;exact dh uw
  have ft:blk'≠ .dead:=fun e=>hd (an.qU (e▸l3))
  rw[h2.size id blk' iQ b e' e3 hd ((b' ft).trans hb),h1.size id blk blk' b h e' ft hb]
def pW (P:Program) (w:World) (μ:Nat→Option Nat) (hp0:Nat→Option an) (b:Nat):Prop:= ∃j blk,hp0 j=some blk∧bN P w (μ j) blk b
structure af3 (P:Program) (A:cP) (key:Nat) (w:World) (I:Nat→Prop) (μ:Nat→Option Nat) (ds es:List V) (w':World) (v:Value) (I2:Nat→Prop) (cC:Nat→Option Nat):Prop where
 zS:aQ P w' I2 cC (bH (A.so key es) (A.lv key es)).hp w.heap.size (pW P w μ (bH (A.sin key) ds).hp) ⟨w,I⟩
 le:mr w I μ (bH (A.sin key) ds).hp w' I2 cC (bH (A.so key es) (A.lv key es)).hp
 res:aq P w' I2 cC (bH (A.so key es) (A.lv key es)).hp v (qS (gd (A.so key es).bR (A.lv key es)))
def mu (P:Program) (A:cP) (C:ae):Prop:=
 ∀key ds es,C key ds=some es→∃fn c,P.funcs[A.hY key]? =some fn∧fn.body=some c∧
  ∀(w:World) (I:Nat→Prop) (μ:Nat→Option Nat) (vals:List Value),
   vZ P w I μ (bH (A.sin key) ds).hp w.heap.size (pW P w μ (bH (A.sin key) ds).hp)→iD P A.aO w I→
   vals.length=(A.sin key).bR.length→(∀(j:Nat) v x,vals[j]? =some v→(gp ((A.sin key).bR.map (·.2)) ds)[j]? =some x→aq P w I μ (bH (A.sin key) ds).hp v x)→
   Calls P (A.hY key) vals.toArray w fun e w'=> ∃v I2 cC,e= .returned v∧af3 P A key w I μ ds es w' v I2 cC
theorem eF.wI {p:Place} {o:Option Nat} {blk:an} {b:Nat} (h:eF P w β hp p o blk) (ho:bN P w o blk b):
  ∃s4,hp p.id=some s4∧bN P w (β p.id) s4 b∧∀e es,s4≠ .arr e es true:=by
 cases h with
 | var h=>exact ⟨_,h,.root (by simp) (ho.flat (by simp)),by simp⟩
 | arr h=>exact ⟨_,h,.root (by simp) (ho.flat (by simp)),by simp⟩
 | map h=>exact ⟨_,h,.root (by simp) (ho.flat (by simp)),by simp⟩
 | nest h=>
  refine ⟨_,h,?_,by simp⟩
  cases ho with
  | root _ hb=>exact .root (by simp) hb
  | row hb ha=>exact .row hb ha
 | row h hb ha _ _ _ _ _=>
  have:=ho.flat (by simp)
  cases this
  exact ⟨_,h,.row hb ha,by simp⟩
theorem aQ.af4 (S:aQ P w I β hp B M w0) {id b:Nat} {blk:an} (af:hp id=some blk) (ho:bN P w (β id) blk b) (hf: ∀e es,blk≠ .arr e es true): ¬I b:=by
 have hr:=S.h.rel id blk af
 generalize β id=o at hr ho
 cases hr with
 | var hb _ _ hI _ _=>have:=ho.flat (by simp);rw[hb] at this;cases this;exact hI
 | ep hb=>have:=ho.flat (by simp);rw[hb] at this;cases this
 | @arr e es fz _ _ _ hb _ _ _ eM _=>
  have:=ho.flat (by simp)
  rw[hb] at this;cases this
  cases fz with
  | true=>exact absurd rfl (hf e es)
  | false=>exact eM rfl
 | dead=>exact absurd rfl ho.alive
 | map _ hb _ _ hI _ _=>have:=ho.flat (by simp);rw[hb] at this;cases this;exact hI
 | nest hb hr _=>
  cases ho with
  | root _ aI=>rw[hb] at aI;cases aI;exact (hr _ _ _ _ .here).nI
  | row aI ha=>rw[hb] at aI;cases aI;exact (hr _ _ _ _ ha).nI
theorem Ig {a b:List Nat} (h:zd a b=false) {x:Nat} (ha:x∈a):x∉b:=by
 intro hb
 unfold zd at h
 rw[List.any_eq_false] at h
 exact h x ha (zB hb)
theorem af5 (S:aQ P w I β hp B M w0) {pl:List Place} {upd:List (Nat × an)} {o:Nat→Option Nat} (kz:(pl.map Place.id).Nodup) (Ih:zd (upd.map (·.1)) (pl.map Place.id)=false)
  (hl: ∀j blk,hp0 j=some blk→∃p,eK pl j=some p∧eF P w β hp p (o j) blk)
  (c7:(∀j blk,hp0 j=some blk→∀b,bN P w (o j) blk b→¬jP P w I β hp upd b)→∀j blk,hp0 j=some blk→eE P w (jP P w I β hp upd) o hp0 (o j) blk) (aR: ∀b,jP P w I β hp upd b→b<w.heap.size):
  vZ P w (jP P w I β hp upd) o hp0 w.heap.size (pW P w o hp0):=by
 have dj: ∀j blk,hp0 j=some blk→∀b,bN P w (o j) blk b→¬jP P w I β hp upd b:=by
  intro j blk hj b ho hI
  obtain ⟨p,bM,iR⟩:=hl j blk hj
  obtain ⟨s4,k1,k2,k3⟩:=iR.wI ho
  rcases hI with hI|⟨q,hq,cB,q1,q2⟩
  ·exact S.af4 k1 k2 k3 hI
  ·have:=S.h.inj _ _ _ _ b q1 k1 q2 k2
   refine Ig Ih (dH.2 ⟨q,hq,rfl⟩) ?_
   rw[this]
   rw[nq] at bM
   exact dH.2 ⟨p,kN bM,rfl⟩
 refine ⟨c7 dj,fun j1 j2 b1 b2 b h1 h2 o1 o2=> ?_,fun j blk b h1 o1=> .inl ⟨j,blk,h1,o1⟩,aR⟩
 obtain ⟨p1,q1,q2⟩:=hl j1 b1 h1
 obtain ⟨p2,r1,r2⟩:=hl j2 b2 h2
 obtain ⟨c1,x1,x2,_⟩:=q2.wI o1
 obtain ⟨c2,y1,y2,_⟩:=r2.wI o2
 have af:=S.h.inj _ _ _ _ b x1 y1 x2 y2
 rw[nq] at q1 r1
 have m1:(pl.map Place.id)[j1]? =some p1.id:=by rw[fI,q1];rfl
 have m2:(pl.map Place.id)[j2]? =some p2.id:=by rw[fI,r1];rfl
 rw[←af] at m2
 obtain ⟨z1,z2⟩:=bL.1 m1
 obtain ⟨z3,z4⟩:=bL.1 m2
 exact (List.getElem_inj kz).1 (z2.trans z4.symm)
def Wk:V→Prop
 | .list .. =>False
 | .pref .. =>False
 | .agg _=>False
 | .bJ _=>False
 | .fn .. =>False
 | _=>True
theorem aq.free {v:Value} {x:V} (h:aq P w I β hp v x) (hx:Wk x):aq P w I' β hp v x:=by
 cases h with
 | undef=>exact .undef
 | int=>exact .int
 | bool=>exact .bool
 | str h=>exact .str h
 | list h=>exact hx.elim
 | nilS=>exact .nilS
 | agg=>exact hx.elim
 | bJ=>exact hx.elim
 | dW=>exact .dW
 | fn=>exact hx.elim
 | pref=>exact hx.elim
 | eL h=>exact .eL h
 | ia h=>exact .ia h
 | lE h=>exact .lE h
 | eo h hb=>exact .eo h hb
 | whole h hb a b c=>exact .whole h hb a b c
 | eU h hb a b c=>exact .eU h hb a b c
 | gN h hb=>exact .gN h hb
 | sub h hb a b c=>exact .sub h hb a b c
 | ptr h hd hb=>exact .ptr h hd hb
 | kR h sU=>exact .kR h sU
 | kS h sU=>exact .kS h sU
 | row h hb a b c d=>exact .row h hb a b c d
 | cY h hb a b c d e=>exact .cY h hb a b c d e
 | ec=>exact .ec
 | jm h=>exact .jm h
 | cZ h hb=>exact .cZ h hb
theorem C6 {l:LS} {ds:List V} (hs:l.safe=true):Wk (jI l ds):=by
 cases l<;>simp only[LS.safe] at hs<;>first|(cases hs;done)|trivial
theorem C7: ∀{ls:List LS} {ds:List V} {j:Nat} {y:V},(jf ls ds)[j]? =some y→∃l gi,l∈ls∧y=jI l gi
 | [],ds,j,y,h=>by simp[jf] at h
 | l::ls,ds,j,y,h=>by
  simp only[jf] at h
  cases j with
  | zero=>simp at h;exact ⟨l,ds,ub ..,h.symm⟩
  | succ j=>
   obtain ⟨l',gi,h1,h2⟩:=C7 (j:=j) (by simpa using h)
   exact ⟨l',gi,mZ _ h1,h2⟩
theorem Wl: ∀{ls:List VS} {ds:List V} {j:Nat} {y:V},(gp ls ds)[j]? =some y→∃l gi,l∈ls∧y=mf l gi
 | [],ds,j,y,h=>by simp[gp] at h
 | l::ls,ds,j,y,h=>by
  simp only[gp] at h
  cases j with
  | zero=>simp at h;exact ⟨l,ds,ub ..,h.symm⟩
  | succ j=>
   obtain ⟨l',gi,h1,h2⟩:=Wl (j:=j) (by simpa using h)
   exact ⟨l',gi,mZ _ h1,h2⟩
theorem Wm {s:VS} {ds:List V} {v:Value} (h:aq P w I β hp v (mf s ds)) (hs:s.safe=true):aq P w I' β hp v (mf s ds):=by
 cases s with
 | one l=>exact h.free (C6 hs)
 | agg ls=>
  simp only[mf] at h⊢
  obtain ⟨cs,rfl,e1,e2⟩:=h.mj
  refine .agg e1 fun j v x hj hx=> ?_
  obtain ⟨l,gi,k1,rfl⟩:=C7 hx
  exact (e2 j v _ hj hx).free (C6 (gn.1 hs l k1))
 | bJ ls=>
  simp only[mf] at h⊢
  obtain ⟨cs,rfl,e1,e2⟩:=h.wg
  refine .bJ e1 fun j v x hj hx=> ?_
  obtain ⟨l,gi,k1,rfl⟩:=C7 hx
  exact (e2 j v _ hj hx).free (C6 (gn.1 hs l k1))
 | fn f a b=>
  simp only[VS.safe,aT] at hs
  simp only[mf] at h⊢
  cases h with
  | fn a1 a2 b1 b2=>
   refine .fn a1 (fun j v x hj hx=> ?_) b1 (fun j v x hj hx=> ?_)
   ·obtain ⟨l,gi,k1,rfl⟩:=C7 hx
    exact (a2 j v _ hj hx).free (C6 (gn.1 hs.1 l k1))
   ·obtain ⟨l,gi,k1,rfl⟩:=C7 hx
    exact (b2 j v _ hj hx).free (C6 (gn.1 hs.2 l k1))
 | pref ts ls=>cases hs
theorem Pure.scalar {t:TypeId} {v:Value} {x:V} (h:Pure P w I t v x) (hn: ∀e,P.underlying t≠some (.slice e)):Pure P w I' t v x:=by
 cases h with
 | int h=>exact .int h
 | bool h=>exact .bool h
 | str h hl=>exact .str h hl
 | nil h=>exact absurd h (hn _)
 | emp h=>exact absurd h (hn _)
 | list g h=>exact absurd h (hn _)
theorem af6 {e t:TypeId} {j:Nat} (h:Cc P e=true) (ht:(bx P e)[j]? =some t) (e':TypeId):P.underlying t≠some (.slice e'):=by
 intro hu
 have h2:=gn.1 h t (kN ht)
 rw[hu] at h2
 cases h2
theorem af7 {o:Option Nat} {b:BS} {ds:List V} (h:eE P w I2 β hp o (gI b ds)) (hs:b.safe P=true) (hi: ∀b,I b→I2 b):eE P w I β hp o (gI b ds):=by
 cases b with
 | dead=>exact .dead
 | var T0 ls=>
  simp only[gI] at h⊢
  cases h with
  | var hb hh bw hI hx ic=>
   refine .var hb hh bw (fun h=>hI (hi _ h)) (fun j v x hj cT=> ?_) ic
   obtain ⟨l,gi,k1,rfl⟩:=Wl cT
   exact Wm (hx j v _ hj cT) (gn.1 hs l k1)
 | arr e fz=>
  simp only[BS.safe,aT,l7] at hs
  obtain ⟨rfl,C4⟩:=hs
  simp only[gI] at h⊢
  generalize (V.nth ds 0).toList=es at h⊢
  cases h with
  | ep hb=>exact .ep hb
  | arr a1 a2 a3 a4 a5 a6 a7=>
   refine .arr a1 a2 a3 a4 (fun h=>by cases h) (fun _ h=>a6 rfl (hi _ h)) fun i j x t' y1 y2 y3=> ?_
   obtain ⟨v,z1,z2⟩:=a7 i j x t' y1 y2 y3
   exact ⟨v,z1,z2.scalar (af6 C4 y2)⟩
 | nest e=>
  simp only[gI] at h⊢
  generalize (V.nth ds 0).toList=es at h⊢
  cases h with
  | nest hb cO pQ=>
   refine .nest hb (fun q b' e1 m1 hq=> ?_) pQ
   obtain ⟨ok,⟨Ca,c1,c2,c3⟩,nI⟩:=cO q b' e1 m1 hq
   refine ⟨ok,⟨Ca,c1,c2,fun i j x t' y1 y2 y3=> ?_⟩,fun h=>nI (hi _ h)⟩
   obtain ⟨v,z1,z2⟩:=c3 i j x t' y1 y2 y3
   refine ⟨v,z1,?_⟩
   generalize ch P e1 x j=y at z2⊢
   cases z2 with
   | gM a p=>
    refine .gM a (p.scalar fun e hu=> ?_)
    unfold gH at a
    rw[hu] at a
    cases a
   | emp a b=>exact .emp a b
   | row a b c d e=>exact .row a b c d e
 | map t=>
  simp only[gI] at h⊢
  cases h with
  | map a1 a2 a3 a4 a5 a6 a7=>exact .map a1 a2 a3 a4 (fun h=>a5 (hi _ h)) a6 a7
theorem Ny: ∀{l:List BS} {ds:List V} {j:Nat} {y:an},(fq l ds)[j]? =some y→∃b gi,l[j]? =some b∧y=gI b gi
 | [],ds,j,y,h=>by simp[fq] at h
 | b::l,ds,j,y,h=>by
  simp only[fq] at h
  cases j with
  | zero=>simp at h;exact ⟨b,ds,rfl,h.symm⟩
  | succ j=>
   obtain ⟨b',gi,h1,h2⟩:=Ny (j:=j) (by simpa using h)
   exact ⟨b',gi,by simpa using h1,h2⟩
theorem Wn: ∀{l:List (Nat × VS)} {ds:List V} {q:Nat × V},q∈gd l ds→∃s gi,(q.1,s)∈l∧q.2=mf s gi
 | [],ds,q,h=>by simp[gd] at h
 | (k,s)::l,ds,q,h=>by
  simp only[gd,cE] at h
  rcases h with h|h
  ·subst h;exact ⟨s,ds,ub ..,rfl⟩
  ·obtain ⟨s',gi,h1,h2⟩:=Wn h
   exact ⟨s',gi,mZ _ h1,h2⟩
theorem af8 {S:Shape} {es:List V} (hs:S.safe P=true) (hi: ∀b,I b→I2 b) {N:Nat→Prop} {st:Start} (h:aQ P w' I2 cC (bH S es).hp B N st) (h0: ∀b,I b→st.I b):
  aQ P w' I cC (bH S es).hp B N st∧∀v,aq P w' I2 cC (bH S es).hp v (qS (gd S.bR es))→aq P w' I cC (bH S es).hp v (qS (gd S.bR es)):=by
 unfold Shape.safe at hs
 simp only[aT] at hs
 obtain ⟨jO,np⟩:=hs
 have one: ∀q∈gd S.bR es,∀v,aq P w' I2 cC (bH S es).hp v q.2→aq P w' I cC (bH S es).hp v q.2:=by
  intro q hq v hv
  obtain ⟨s,gi,k1,k2⟩:=Wn hq
  rw[k2] at hv⊢
  exact Wm hv (gn.1 jO _ k1)
 refine ⟨⟨⟨fun j blk hj=> ?_,h.h.inj,h.h.own,fun b hb=>h.h.kT b (hi b hb)⟩,h.cl,h.size,fun b hb=> .inl (h0 b hb),h.io⟩,fun v hv=> ?_⟩
 ·have hr:=h.h.rel j blk hj
  have gO:=hj
  simp only[bH,mk,iU] at gO
  obtain ⟨b,gi,k1,rfl⟩:=Ny gO
  exact af7 hr (gn.1 np _ (kN k1)) hi
 ·generalize gd S.bR es=l at one hv⊢
  match l,one,hv with
  | [],_,hv=>
   simp only[qS,kP] at hv⊢
   obtain ⟨cs,rfl,e1,e2⟩:=hv.wg
   exact .bJ e1 fun j v x _ hx=>by simp at hx
  | [q],one,hv=>exact one q (df.2 rfl) v hv
  | q::q2::l,one,hv=>
   simp only[qS] at hv⊢
   obtain ⟨cs,rfl,e1,e2⟩:=hv.wg
   refine .bJ e1 fun j v x hj hx=> ?_
   obtain ⟨y,hy,rfl⟩:=dH.1 (kN hx)
   exact one y hy v (e2 j v _ hj hx)
end
section
variable {P:Program} {A:cP} {w w':World} {I I' I2:Nat→Prop} {μ β β' cC:Nat→Option Nat} {hp hp' hp0 bM:Nat→Option an} {C:ae} {B:Nat} {M:Nat→Prop} {w0:Start}
inductive ij (σ:List Place):an→an→Prop
 | dead:ij σ .dead .dead
 | var {T:TypeId} {cs:List V}:ij σ (.var T cs) (.var T (cs.map (He σ)))
 | arr {e:TypeId} {es:List V} {fz:Bool}:ij σ (.arr e es fz) (.arr e es fz)
 | nest {e:TypeId} {es:List V} {v1 v2:List Nat}:ij σ (.nest e es v1) (.nest e es v2)
 | map {t:TypeId} {es:List V}:ij σ (.map t es) (.map t es)
theorem ij.of (σ:List Place) (b:an):ij σ b (vR σ b):=by
 cases b with
 | dead=>exact .dead
 | var T cs=>exact .var
 | arr e es fz=>exact .arr
 | nest e es v=>exact .nest
 | map t es=>exact .map
theorem Wo {σ:List Place}: ∀{pl:List Place} {bs:List an} {acc:List (Nat × an)} {k:List (Nat × an)→Rd R} {r:R} {rd:List Nat},(sB σ pl bs acc k).run C hp=some (r,rd)→
  pl.length≤bs.length∧∃bk fN,(k bk).run C hp=some (r,fN)∧(∀q∈bk,q∈acc∨∃(j:Nat) (b:an),pl[j]? =some (.blk q.1)∧bs[j]? =some b∧ij σ b q.2∧((∃e es v2,q.2= .nest e es v2)→∃e es av e' bf,hp q.1=some (.nest e es av)∧q.2= .nest e' bf (av.map (· +1))))∧
   (∀q∈acc,q∈bk)∧∀(j:Nat) p,pl[j]? =some p→∃id b,p= .blk id∧(id,b)∈bk
 | [],bs,acc,k,r,rd,h=>⟨fS _,acc,rd,by simpa only[sB] using h,fun q hq=> .inl hq,fun q hq=>hq,fun j p hp=>by simp at hp⟩
 | .row _ _ _::pl,bs,acc,k,r,rd,h=>by
  cases bs<;>(simp only[sB] at h;cases h)
 | .blk id::pl,[],acc,k,r,rd,h=>by simp only[sB] at h;cases h
 | .blk id::pl,b::bs,acc,k,r,rd,h=>by
  have fin: ∀{b2:an} {ky:List Nat},(sB σ pl bs ((id,b2)::acc) k).run C hp=some (r,ky)→ij σ b b2→((∃e es v2,b2= .nest e es v2)→∃e es av e' bf,hp id=some (.nest e es av)∧b2= .nest e' bf (av.map (· +1)))→
    (Place.blk id::pl).length≤(b::bs).length∧∃bk fN,(k bk).run C hp=some (r,fN)∧(∀q∈bk,q∈acc∨∃(j:Nat) (b':an),(Place.blk id::pl)[j]? =some (.blk q.1)∧(b::bs)[j]? =some b'∧ij σ b' q.2∧((∃e es v2,q.2= .nest e es v2)→∃e es av e' bf,hp q.1=some (.nest e es av)∧q.2= .nest e' bf (av.map (· +1))))∧
     (∀q∈acc,q∈bk)∧∀(j:Nat) p,(Place.blk id::pl)[j]? =some p→∃id b,p= .blk id∧(id,b)∈bk:=by
   intro b2 ky h1 hb hn
   obtain ⟨a0,bk,fN,a1,a2,a3,a4⟩:=Wo h1
   refine ⟨by simp only[List.length_cons];omega,bk,fN,a1,fun q hq=> ?_,fun q hq=>a3 q (mZ _ hq),fun j p hj=> ?_⟩
   ·rcases a2 q hq with h|⟨j,b',k1,k2,k3,k4⟩
    ·rcases cE.1 h with e|h
     ·subst e;exact .inr ⟨0,b,rfl,rfl,hb,hn⟩
     ·exact .inl h
    ·exact .inr ⟨j+1,b',by simpa using k1,by simpa using k2,k3,k4⟩
   ·cases j with
    | zero=>simp at hj;subst hj;exact ⟨id,b2,rfl,a3 _ (ub ..)⟩
    | succ j=>exact a4 j p (by simpa using hj)
  cases b with
  | nest e es v=>
   simp only[sB] at h
   obtain ⟨l,h⟩:=run_get h
   cases af:hp id with
   | none=>rw[af] at h;cases h
   | some blk=>
    rw[af] at h
    cases blk with
    | nest e0 Mp av=>exact fin h .nest fun _=>⟨e0,Mp,av,e,es,af,rfl⟩
    | _=>cases h
  | dead=>exact fin h (.of σ _) fun ⟨_,_,_,h⟩=>by cases h
  | var T cs=>exact fin h (.of σ _) fun ⟨_,_,_,h⟩=>by cases h
  | arr e es fz=>exact fin h (.of σ _) fun ⟨_,_,_,h⟩=>by cases h
  | map t es=>exact fin h (.of σ _) fun ⟨_,_,_,h⟩=>by cases h
theorem Wp {σ:List Place}: ∀{bs:List an} {n:Nat} {q:Nat × an},q∈sC σ n bs→∃i b,bs[i]? =some b∧q=(n+i,vR σ b)
 | [],n,q,h=>by simp[sC] at h
 | b::bs,n,q,h=>by
  simp only[sC,cE] at h
  rcases h with h|h
  ·exact ⟨0,b,rfl,h⟩
  ·obtain ⟨i,b',h1,h2⟩:=Wp h
   exact ⟨i+1,b',by simpa using h1,by rw[h2];congr 1;omega⟩
theorem Wq {σ:List Place}: ∀{bs:List an} {n i:Nat} {b:an},bs[i]? =some b→(n+i,vR σ b)∈sC σ n bs
 | [],n,i,b,h=>by simp at h
 | b0::bs,n,i,b,h=>by
  simp only[sC,cE]
  cases i with
  | zero=>simp at h;subst h;exact .inl rfl
  | succ i=>exact .inr (by rw[show n+(i+1)=n+1+i by omega];exact Wq (by simpa using h))
theorem Ii: ∀{k n i:Nat},i<k→(uu n k)[i]? =some (.blk (n+i))
 | 0,n,i,h=>by omega
 | k+1,n,0,h=>rfl
 | k+1,n,i+1,h=>by
  simp only[uu,List.getElem?_cons_succ]
  rw[Ii (by omega)]
  congr 2
  omega
theorem Nz: ∀{k n:Nat},(uu n k).length=k
 | 0,_=>rfl
 | k+1,n=>by simp[uu,Nz]
theorem Wr: ∀{bs:List (Nat × an)} {k:Rd R} {r:R} {rd:List Nat},(Hf bs k).run C hp=some (r,rd)→(∀q∈bs,hp q.1=none)∧∃fN,k.run C hp=some (r,fN)
 | [],k,r,rd,h=>⟨by simp,rd,h⟩
 | (id,b)::l,k,r,rd,h=>by
  simp only[Hf] at h
  obtain ⟨l1,h⟩:=run_get h
  cases af:hp id with
  | some blk=>rw[af] at h;cases h
  | none=>
   rw[af] at h
   obtain ⟨h1,h2⟩:=Wr h
   refine ⟨fun q hq=> ?_,h2⟩
   rcases cE.1 hq with e|hq
   ·subst e;exact af
   ·exact h1 q hq
structure rk (σ:List Place) (cC:Nat→Option Nat) (bM:Nat→Option an) (β':Nat→Option Nat) (hp':Nat→Option an):Prop where
 blk: ∀j b,bM j=some b→∃id b',eK σ j=some (.blk id)∧hp' id=some b'∧ij σ b b'∧(b≠ .dead→β' id=cC j)
 none: ∀j,bM j=none→eK σ j=none
 atT: ∀j id ver path,eK σ j≠some (.row id ver path)
theorem rk.leaf {σ:List Place} (T:rk σ cC bM β' hp') {v:Value} {x:V} (h:aq P w I cC bM v x):aq P w I β' hp' v (lB σ x):=by
 have look: ∀{j b},bM j=some b→∃id b',eK σ j=some (.blk id)∧hp' id=some b'∧ij σ b b'∧(b≠ .dead→β' id=cC j):=fun h=>T.blk _ _ h
 cases h with
 | undef=>exact .undef
 | int=>exact .int
 | bool=>exact .bool
 | str h=>exact .str h
 | list h=>exact .list h
 | nilS=>exact .nilS
 | agg=>exact .undef
 | bJ=>exact .undef
 | dW=>exact .dW
 | fn=>exact .undef
 | pref a b c=>exact .pref a b c
 | @eL _ e j h=>
  obtain ⟨id,b',k1,k2,k3,k4⟩:=look h
  simp only[lB,k1]
  cases k3
  exact .eL k2
 | @ia _ e j _ _ h=>
  obtain ⟨id,b',k1,k2,k3,k4⟩:=look h
  simp only[lB,k1]
  cases k3
  exact .ia k2
 | @lE _ j _ _ h=>
  obtain ⟨id,b',k1,k2,k3,k4⟩:=look h
  simp only[lB,k1]
  cases k3
  exact .lE k2
 | @eo e j fz _ h hb=>
  obtain ⟨id,b',k1,k2,k3,k4⟩:=look h
  simp only[lB,k1]
  cases k3
  exact .eo k2 ((k4 (by simp)).trans hb)
 | @whole e j es fz b cap h hb a1 a2 a3=>
  obtain ⟨id,b',k1,k2,k3,k4⟩:=look h
  simp only[lB,k1]
  cases k3
  exact .whole k2 ((k4 (by simp)).trans hb) a1 a2 a3
 | @eU e j es av b cap h hb a1 a2 a3=>
  obtain ⟨id,b',k1,k2,k3,k4⟩:=look h
  simp only[lB,k1]
  cases k3
  exact .eU k2 ((k4 (by simp)).trans hb) a1 a2 a3
 | @gN e j fz _ h hb=>
  obtain ⟨id,b',k1,k2,k3,k4⟩:=look h
  simp only[lB,k1]
  cases k3
  exact .gN k2 ((k4 (by simp)).trans hb)
 | @sub e j off len es fz b o cap h hb a1 a2 a3=>
  obtain ⟨id,b',k1,k2,k3,k4⟩:=look h
  simp only[lB,k1]
  cases k3
  exact .sub k2 ((k4 (by simp)).trans hb) a1 a2 a3
 | @ptr j i c b blk h hd hb=>
  obtain ⟨id,b',k1,k2,k3,k4⟩:=look h
  simp only[lB,k1]
  have hs:blk.sz P=b'.sz P:=by cases k3<;>rfl
  rw[hs]
  exact .ptr k2 (by intro e;subst e;cases k3;exact hd rfl) ((k4 hd).trans hb)
 | kR=>exact .undef
 | kS=>exact .undef
 | row=>exact .undef
 | cY=>exact .undef
 | ec=>exact .ec
 | @jm _ t j h=>
  obtain ⟨id,b',k1,k2,k3,k4⟩:=look h
  simp only[lB,k1]
  cases k3
  exact .jm k2
 | @cZ t j b es h hb=>
  obtain ⟨id,b',k1,k2,k3,k4⟩:=look h
  simp only[lB,k1]
  cases k3
  exact .cZ k2 ((k4 (by simp)).trans hb)
theorem rk.one {σ:List Place} (T:rk σ cC bM β' hp') {v:Value} {x:V} (h:aq P w I cC bM v x):aq P w I β' hp' v (Me σ x):=by
 cases x with
 | agg xs=>
  obtain ⟨cs,rfl,e1,e2⟩:=h.mj
  exact .agg (by simpa using e1) fun j v y hj hy=>by
   rw[fI] at hy
   cases hx:xs[j]? with
   | none=>rw[hx] at hy;cases hy
   | some x=>rw[hx] at hy;cases hy;exact T.leaf (e2 j v x hj hx)
 | fn f a b=>
  cases h with
  | fn a1 a2 b1 b2=>
   refine .fn (by simpa using a1) (fun j v y hj hy=> ?_) (by simpa using b1) (fun j v y hj hy=> ?_)
   ·rw[fI] at hy
    cases hx:a[j]? with
    | none=>rw[hx] at hy;cases hy
    | some x=>rw[hx] at hy;cases hy;exact T.leaf (a2 j v x hj hx)
   ·rw[fI] at hy
    cases hx:b[j]? with
    | none=>rw[hx] at hy;cases hy
    | some x=>rw[hx] at hy;cases hy;exact T.leaf (b2 j v x hj hx)
 | _=>exact T.leaf h
theorem rk.val {σ:List Place} (T:rk σ cC bM β' hp') {v:Value} {x:V} (h:aq P w I cC bM v x):aq P w I β' hp' v (He σ x):=by
 cases x with
 | bJ xs=>
  obtain ⟨cs,rfl,e1,e2⟩:=h.wg
  exact .bJ (by simpa using e1) fun j v y hj hy=>by
   rw[fI] at hy
   cases hx:xs[j]? with
   | none=>rw[hx] at hy;cases hy
   | some x=>rw[hx] at hy;cases hy;exact T.one (e2 j v x hj hx)
 | _=>exact T.one h
theorem rk.Ws {σ:List Place} (T:rk σ cC bM β' hp') {o:Option Nat} {b b':an} (h:eE P w I cC bM o b) (hb:ij σ b b'):eE P w I β' hp' o b':=by
 cases hb with
 | dead=>exact .dead
 | var=>
  cases h with
  | var a1 a2 a3 a4 a5 a6=>
   refine .var a1 a2 (by simpa using a3) a4 (fun j v y hj hy=> ?_) a6
   rw[fI] at hy
   cases hx:(_:List V)[j]? with
   | none=>rw[hx] at hy;cases hy
   | some x=>rw[hx] at hy;cases hy;exact T.val (a5 j v x hj hx)
 | arr=>
  cases h with
  | ep hb=>exact .ep hb
  | arr a1 a2 a3 a4 a5 a6 a7=>exact .arr a1 a2 a3 a4 a5 a6 a7
 | nest=>
  cases h with
  | nest a1 a2 a3=>exact .nest a1 a2 a3
 | map=>
  cases h with
  | map a1 a2 a3 a4 a5 a6 a7=>exact .map a1 a2 a3 a4 a5 a6 a7
theorem ij.wI {σ:List Place} {o:Option Nat} {b b':an} (h:ij σ b b') {m:Nat} (ho:bN P w o b' m):bN P w o b m:=by
 cases h with
 | dead=>exact absurd rfl ho.alive
 | var=>exact .root (by simp) (ho.flat (by simp))
 | arr=>exact .root (by simp) (ho.flat (by simp))
 | map=>exact .root (by simp) (ho.flat (by simp))
 | nest=>
  cases ho with
  | root _ hb=>exact .root (by simp) hb
  | row hb ha=>exact .row hb ha
theorem ij.Wt {σ:List Place} {b b':an} (h:ij σ b b'):b'≠ .dead→b≠ .dead:=by
 intro h1 h2;subst h2;cases h;exact h1 rfl
end
section
variable {P:Program} {A:cP} {w w':World} {I I' I2:Nat→Prop} {μ β β' cC:Nat→Option Nat} {hp hp' hp0 bM:Nat→Option an} {C:ae} {B:Nat} {M:Nat→Prop} {w0:Start}
theorem Wu: ∀{vs:List Nat} {k:Nat},k<vs.length→bU (vs.map (· +1)) k=bU vs k+1
 | [],k,h=>by simp at h
 | v::vs,0,h=>rfl
 | v::vs,k+1,h=>by simp only[dw,bU];exact Wu (by simpa using h)
theorem Wv: ∀{vs:List Nat} {k:Nat},bU vs k≤bU (vs.map (· +1)) k
 | [],k=>by simp[bU]
 | v::vs,0=>by simp[bU]
 | v::vs,k+1=>by simp only[dw,bU];exact Wv
def C8 (hp:Nat→Option an) (q:Nat × an):Prop:=(∃e es v2,q.2= .nest e es v2)→∃e es av e' bf,hp q.1=some (.nest e es av)∧q.2= .nest e' bf (av.map (· +1))
theorem eF.NA {id:Nat} {o:Option Nat} {blk:an} (h:eF P w β hp (.blk id) o blk):o=β id∧∃b0,hp id=some b0∧b0≠ .dead:=by
 cases h with
 | var h=>exact ⟨rfl,_,h,by simp⟩
 | arr h=>exact ⟨rfl,_,h,by simp⟩
 | nest h=>exact ⟨rfl,_,h,by simp⟩
 | map h=>exact ⟨rfl,_,h,by simp⟩
theorem eF.af9 {id:Nat} {o:Option Nat} {c b b' b0:an} {σ:List Place} (h:eF P w β hp (.blk id) o c) (h0:hp id=some b0) (hle:c.le b) (hb:ij σ b b') (hn:C8 hp (id,b')):b0.le b':=by
 cases h with
 | var h=>
  rw[h] at h0;cases h0
  cases hb with
  | dead=>trivial
  | var=>trivial
  | arr=>exact hle.elim
  | nest=>exact hle.elim
  | map=>exact hle.elim
 | arr h=>
  rw[h] at h0;cases h0
  cases hb with
  | dead=>trivial
  | var=>exact hle.elim
  | arr=>exact hle
  | nest=>exact hle.elim
  | map=>exact hle.elim
 | map h=>
  rw[h] at h0;cases h0
  cases hb with
  | dead=>trivial
  | map=>exact hle
  | _=>exact hle.elim
 | nest h=>
  rw[h] at h0;cases h0
  cases hb with
  | dead=>trivial
  | var=>exact hle.elim
  | arr=>exact hle
  | map=>exact hle.elim
  | @nest e es v1 v2=>
   obtain ⟨e1,cN,wJ,e2,cF,k1,k2⟩:=hn ⟨_,_,_,rfl⟩
   cases k2
   change hp id=_ at k1
   rw[h] at k1;cases k1
   exact ⟨hle.1,hle.2.1,by simp,fun k=>Wv⟩
theorem eF.other {p:Place} {o:Option Nat} {blk:an} (h:eF P w β hp p o blk) (he:hp' p.id=hp p.id):eF P w β hp' p o blk:=by
 cases h with
 | var h=>exact .var (he.trans h)
 | arr h=>exact .arr (he.trans h)
 | nest h=>exact .nest (he.trans h)
 | map h=>exact .map (he.trans h)
 | row h a b c d e f g=>exact .row (he.trans h) a b c d e f g
open Classical in
theorem Ww (S:aQ P w I β hp B M w0) {pl:List Place} {o:Nat→Option Nat} {bs:List an} {nb:Nat} {bk fr:List (Nat × an)} {σ:List Place} (s5:σ=pl++uu nb (bs.length-pl.length)) (C9:fr=sC σ nb (bs.drop pl.length))
  (kz:(pl.map Place.id).Nodup) (sL:pl.length≤bs.length)
  (gj: ∀(j:Nat) p,pl[j]? =some p→∃id b,p= .blk id∧(id,b)∈bk) (Ij: ∀q∈bk,∃(j:Nat) (b:an),pl[j]? =some (.blk q.1)∧bs[j]? =some b∧ij σ b q.2∧C8 hp q)
  (hl: ∀j blk,hp0 j=some blk→∃p,eK pl j=some p∧eF P w β hp p (o j) blk) (hd: ∀j,j<pl.length→∃blk,hp0 j=some blk)
  (Sc:aQ P w' I2 cC (kQ bs) w.heap.size (pW P w o hp0) ⟨w,I⟩) (zT:mr w I o hp0 w' I2 cC (kQ bs)) (uM: ∀q∈fr,hp q.1=none):
  ∃β',Le P w I β hp w' I2 β' (cd hp (fr++bk))∧aQ P w' I2 β' (cd hp (fr++bk)) B M w0∧rk σ cC (kQ bs) β' (cd hp (fr++bk)):=by
 generalize NC:cd hp (fr++bk)=iR
 let β':Nat→Option Nat:=fun n=>if∃q∈fr,q.1=n then cC (pl.length+(n-nb)) else β n
 have Wx: ∀(j:Nat) id,pl[j]? =some (.blk id)→∃c,hp0 j=some c∧eF P w β hp (.blk id) (o j) c:=by
  intro j id hj
  obtain ⟨c,hc⟩:=hd j (bL.1 hj).1
  obtain ⟨p,h1,h2⟩:=hl j c hc
  rw[nq,hj] at h1
  cases h1
  exact ⟨c,hc,h2⟩
 have uniq: ∀(j1 j2:Nat) id,pl[j1]? =some (.blk id)→pl[j2]? =some (.blk id)→j1=j2:=by
  intro j1 j2 id h1 h2
  have m1:(pl.map Place.id)[j1]? =some id:=by rw[fI,h1];rfl
  have m2:(pl.map Place.id)[j2]? =some id:=by rw[fI,h2];rfl
  obtain ⟨z1,z2⟩:=bL.1 m1
  obtain ⟨z3,z4⟩:=bL.1 m2
  exact (List.getElem_inj kz).1 (z2.trans z4.symm)
 have cls: ∀id,(∃i b,id=nb+i∧bs[pl.length+i]? =some b∧iR id=some (vR σ b)∧hp id=none∧β' id=cC (pl.length+i))∨
   (∃(j:Nat) (b b' c b0:an),pl[j]? =some (.blk id)∧bs[j]? =some b∧hp0 j=some c∧eF P w β hp (.blk id) (o j) c∧hp id=some b0∧b0.le b'∧iR id=some b'∧ij σ b b'∧C8 hp (id,b')∧β' id=β id∧c.le b∧(b≠ .dead→cC j=β id))∨
   (iR id=hp id∧(∀j:Nat,pl[j]? ≠some (.blk id))∧β' id=β id):=by
  intro id
  by_cases hm: ∃b,(id,b)∈fr++bk
  ·obtain ⟨b,hm⟩:=hm
   obtain ⟨b',Ht,he⟩:=Hq (hp:=hp) hm
   rw[NC] at he
   rcases dp.1 Ht with h|h
   ·have h0:=uM _ h
    have pY:β' id=cC (pl.length+(id-nb)):=ai ⟨_,h,rfl⟩
    rw[C9] at h
    obtain ⟨i,b1,k1,k2⟩:=Wp h
    rw[jc] at k1
    cases k2
    exact .inl ⟨i,b1,rfl,k1,he,h0,by rw[pY];congr 2;omega⟩
   ·obtain ⟨j,b1,q1,q2,q3,q4⟩:=Ij _ h
    obtain ⟨c,c1,c2⟩:=Wx j id q1
    obtain ⟨c3,b0,c4,c5⟩:=c2.NA
    obtain ⟨b2,d1,d2,d3⟩:=zT.blk j c c1
    rw[iU,q2] at d1
    cases d1
    refine .inr (.inl ⟨j,b1,b',c,b0,q1,q2,c1,c2,c4,c2.af9 c4 d2 q3 q4,he,q3,q4,aj ?_,d2,fun h=>(d3 h).trans c3⟩)
    rintro ⟨q,hq,hqe⟩
    rw[←hqe,uM q hq] at c4
    cases c4
  ·refine .inr (.inr ⟨?_,fun j hj=> ?_,aj ?_⟩)
   ·rcases wa (hp:=hp) (l:=fr++bk) (id:=id) with h|⟨b,hb,_⟩
    ·rw[NC] at h;exact h
    ·exact absurd ⟨b,hb⟩ hm
   ·obtain ⟨aN,b,e,hb⟩:=gj j _ hj
    cases e
    exact hm ⟨b,dp.2 (.inr hb)⟩
   ·rintro ⟨q,hq,rfl⟩
    exact hm ⟨q.2,dp.2 (.inl hq)⟩
 have Wy: ∀b,pW P w o hp0 b→∃(j id:Nat) (b1:an),pl[j]? =some (.blk id)∧hp id=some b1∧bN P w (β id) b1 b∧∀e es,b1≠ .arr e es true:=by
  rintro b ⟨j,c,hc,ho⟩
  obtain ⟨p,h1,h2⟩:=hl j c hc
  rw[nq] at h1
  obtain ⟨id,b2,rfl,_⟩:=gj j p h1
  obtain ⟨b1,k1,k2,k3⟩:=h2.wI ho
  exact ⟨j,id,b1,h1,k1,k2,k3⟩
 have other: ∀id blk b,hp id=some blk→bN P w (β id) blk b→(∀j:Nat,pl[j]? ≠some (.blk id))→¬pW P w o hp0 b∧w'.heap[b]? =w.heap[b]? ∧(I2 b→I b):=by
  intro id blk b e1 e3 e4
  have pZ: ¬pW P w o hp0 b:=by
   intro hx
   obtain ⟨j,aN,b1,i1,i2,i3,_⟩:=Wy b hx
   have:=S.h.inj id aN _ _ b e1 i2 e3 i3
   subst this
   exact e4 j i1
  have aR:=S.h.lt e1 e3
  refine ⟨pZ,Sc.cl b aR pZ,fun h=> ?_⟩
  rcases Sc.new b h with h|h|h
  ·exact h
  ·exact absurd h pZ
  ·omega
 have uG:rk σ cC (kQ bs) β' iR:=by
  refine ⟨fun j b hj=> ?_,fun j hj=> ?_,fun j id ver path hj=> ?_⟩
  ·rw[iU] at hj
   by_cases cy:j<pl.length
   ·obtain ⟨id,b1,e,nj⟩:=gj j _ (cq cy)
    have Ik:pl[j]? =some (.blk id):=by rw[cq cy,e]
    have ND:eK σ j=some (.blk id):=by rw[s5];exact pV (by rw[nq];exact Ik)
    rcases cls id with ⟨i,b2,c1,c2,c3,c4,c5⟩|⟨j',b2,b',c,b0,q1,q2,q3,q4,q5,q6,q7,q8,q9,rl,zU,s6⟩|⟨c1,c2,c3⟩
    ·obtain ⟨c,d1,d2⟩:=Wx j id Ik
     obtain ⟨_,b0,d3,_⟩:=d2.NA
     rw[d3] at c4;cases c4
    ·obtain rfl:=uniq _ _ _ q1 Ik
     rw[hj] at q2;cases q2
     exact ⟨id,b',ND,q7,q8,fun h=>rl.trans (s6 h).symm⟩
    ·exact absurd Ik (c2 j)
   ·have Wz:=(bL.1 hj).1
    have ND:eK σ j=some (.blk (nb+(j-pl.length))):=by
     rw[s5,nq,jG (by omega)]
     exact Ii (by omega)
    have hm:(nb+(j-pl.length),vR σ b)∈fr:=by
     rw[C9]
     refine Wq ?_
     rw[jc,show pl.length+(j-pl.length)=j by omega]
     exact hj
    rcases cls (nb+(j-pl.length)) with ⟨i,b2,c1,c2,c3,c4,c5⟩|⟨j',b2,b',c,b0,q1,q2,q3,q4,q5,q6,q7,q8,q9,rl,zU,s6⟩|⟨c1,c2,c3⟩
    ·have hi:i=j-pl.length:=by omega
     subst hi
     rw[show pl.length+(j-pl.length)=j by omega] at c2 c5
     rw[hj] at c2;cases c2
     exact ⟨_,_,ND,c3,.of σ _,fun _=>c5⟩
    ·rw[uM _ hm] at q5;cases q5
    ·obtain ⟨b',Ht,he⟩:=Hq (hp:=hp) (l:=fr++bk) (dp.2 (.inl hm))
     rw[NC,c1,uM _ hm] at he
     cases he
  ·rw[iU] at hj
   have:=List.getElem?_eq_none_iff.1 hj
   rw[s5,nq,List.getElem?_eq_none_iff,cg,Nz]
   omega
  ·rw[s5,nq] at hj
   by_cases cy:j<pl.length
   ·rw[ln cy] at hj
    obtain ⟨aN,b1,e,_⟩:=gj j _ hj
    cases e
   ·have Wz:j-pl.length<bs.length-pl.length:=by
     have:=(bL.1 hj).1
     rw[cg,Nz] at this
     omega
    rw[jG (by omega),Ii Wz] at hj
    cases hj
 have hle:Le P w I β hp w' I2 β' iR:=by
  refine ⟨zT.dN,zT.cl,fun id blk af=> ?_,fun id blk blk' b af bV s7 hb=> ?_,fun id e es av e' bf vers' b q i c t v e1 l af bV hb aR hv ht hc=> ?_⟩
  ·rcases cls id with ⟨i,b2,c1,c2,c3,c4,c5⟩|⟨j',b2,b',c,b0,q1,q2,q3,q4,q5,q6,q7,q8,q9,rl,zU,s6⟩|⟨c1,c2,c3⟩
   ·rw[af] at c4;cases c4
   ·rw[af] at q5;cases q5
    exact ⟨b',q7,q6,fun _=>rl⟩
   ·exact ⟨blk,c1.trans af,an.le_refl _,fun _=>c3⟩
  ·rcases cls id with ⟨i,b2,c1,c2,c3,c4,c5⟩|⟨j',b2,b',c,b0,q1,q2,q3,q4,q5,q6,q7,q8,q9,rl,zU,s6⟩|⟨c1,c2,c3⟩
   ·rw[af] at c4;cases c4
   ·rw[q7] at bV;cases bV
    exact zT.size j' c b2 b q3 (by rw[iU];exact q2) (q8.Wt s7) (q4.NA.1.trans hb)
   ·rw[c1,af] at bV
    cases bV
    simp only[bsize,(other id blk b af (.root s7 hb) c2).2.1]
  ·rcases cls id with ⟨i2,b2,c1,c2,c3,c4,c5⟩|⟨j',b2,b',c',b0,q1,q2,q3,q4,q5,q6,q7,q8,q9,rl,zU,s6⟩|⟨c1,c2,c3⟩
   ·rw[af] at c4;cases c4
   ·rw[q7] at bV;cases bV
    obtain ⟨_,_,wJ,_,_,k1,k2⟩:=q9 ⟨_,_,_,rfl⟩
    change hp id=_ at k1
    rw[af] at k1;cases k1
    cases k2
    rw[Wu aR] at hv
    omega
   ·rw[c1,af] at bV
    cases bV
    exact ⟨l,rfl,hc.mono fun _ _ _ _ h=>(other id _ _ af (.row hb h) c2).2.1⟩
 have place: ∀id blk b,iR id=some blk→bN P w' (β' id) blk b→(∃j c,kQ bs j=some c∧bN P w' (cC j) c b∧eK σ j=some (.blk id))∨(b<w.heap.size∧¬pW P w o hp0 b∧hp id=some blk∧bN P w (β id) blk b):=by
  intro id blk b e1 e3
  rcases cls id with ⟨i,b2,c1,c2,c3,c4,c5⟩|⟨j',b2,b',c,b0,q1,q2,q3,q4,q5,q6,q7,q8,q9,rl,zU,s6⟩|⟨c1,c2,c3⟩
  ·rw[c3] at e1;cases e1
   rw[c5] at e3
   refine .inl ⟨pl.length+i,b2,by rw[iU];exact c2,(ij.of σ b2).wI e3,?_⟩
   have:=(bL.1 c2).1
   rw[s5,nq,jG (by omega),Ii (by omega),c1]
   congr 3
   omega
  ·rw[q7] at e1;cases e1
   have s7:b2≠ .dead:=q8.Wt e3.alive
   rw[rl,←s6 s7] at e3
   exact .inl ⟨j',b2,by rw[iU];exact q2,q8.wI e3,by rw[s5];exact pV (by rw[nq];exact q1)⟩
  ·rw[c1] at e1
   rw[c3] at e3
   have:=e3.mono (w:=w) fun b hb=>(other id blk b e1 hb c2).2.1
   exact .inr ⟨S.h.lt e1 this,(other id blk b e1 this c2).1,e1,this⟩
 have uy: ∀b,pW P w o hp0 b∨w.heap.size≤b→M b∨B≤b:=by
  rintro b (h|h)
  ·obtain ⟨j,id,b1,i1,i2,i3,_⟩:=Wy b h
   exact S.h.own id b1 b i2 i3
  ·exact .inr (jb S.size h)
 have NF: ∀j c b,kQ bs j=some c→bN P w' (cC j) c b→pW P w o hp0 b∨w.heap.size≤b:=fun j c b h1 h2=>Sc.h.own j c b h1 h2
 refine ⟨β',hle,⟨⟨fun id blk af=> ?_,fun i1 i2 b1 b2 b e1 e2 f1 f2=> ?_,fun id blk b af hb=> ?_,Sc.h.kT⟩,fun b hb hM=> ?_,jb S.size Sc.size,fun b hb=> ?_,⟨Sc.io.1.trans S.io.1,Sc.io.2.trans S.io.2⟩⟩,uG⟩
 ·rcases cls id with ⟨i,b2,c1,c2,c3,c4,c5⟩|⟨j',b2,b',c,b0,q1,q2,q3,q4,q5,q6,q7,q8,q9,rl,zU,s6⟩|⟨c1,c2,c3⟩
  ·rw[c3] at af;cases af
   rw[c5]
   exact uG.Ws (Sc.h.rel _ b2 (by rw[iU];exact c2)) (.of σ b2)
  ·rw[q7] at af;cases af
   have:=uG.Ws (Sc.h.rel j' b2 (by rw[iU];exact q2)) q8
   by_cases s7:b2= .dead
   ·subst s7
    cases q8
    exact .dead
   ·rw[rl,←s6 s7]
    exact this
  ·rw[c1] at af
   rw[c3]
   exact (S.h.rel id blk af).mono hle fun b hb=>(other id blk b af hb c2).2
 ·rcases place i1 b1 b e1 f1 with ⟨j1,c1,g1,g2,g3⟩|⟨g1,g2,g3,g4⟩<;>rcases place i2 b2 b e2 f2 with ⟨j2,c2,k1,k2,k3⟩|⟨k1,k2,k3,k4⟩
  ·have:=Sc.h.inj j1 j2 c1 c2 b g1 k1 g2 k2
   subst this
   rw[g3] at k3
   cases k3
   rfl
  ·rcases NF j1 c1 b g1 g2 with h|h
   ·exact absurd h k2
   ·omega
  ·rcases NF j2 c2 b k1 k2 with h|h
   ·exact absurd h g2
   ·omega
  ·exact S.h.inj i1 i2 _ _ b g3 k3 g4 k4
 ·rcases place id blk b af hb with ⟨j1,c1,g1,g2,g3⟩|⟨g1,g2,g3,g4⟩
  ·exact uy b (NF j1 c1 b g1 g2)
  ·exact S.h.own id blk b g3 g4
 ·refine (Sc.cl b (mX hb S.size) fun hx=> ?_).trans (S.cl b hb hM)
  rcases uy b (.inl hx) with h|h
  ·exact hM h
  ·omega
 ·rcases Sc.new b hb with h|h|h
  ·exact S.new b h
  ·exact .inr (uy b (.inl h))
  ·exact .inr (uy b (.inr h))
end
section
variable {P:Program} {A:cP} {w w':World} {I I' I2:Nat→Prop} {μ β β' cC:Nat→Option Nat} {hp hp' hp0 bM:Nat→Option an} {C:ae} {B:Nat} {M:Nat→Prop} {w0:Start}
theorem WA (hp:Nat→Option an): ∀(a b:List (Nat × an)),cd hp (a++b)=cd (cd hp b) a
 | [],b=>rfl
 | (i,x)::a,b=>by simp only[List.cons_append,cd,WA hp a b]
theorem zV {hp:Nat→Option an} {l:List (Nat × an)} {id:Nat} (h: ∀q∈l,q.1≠id):cd hp l id=hp id:=by
 rcases wa (hp:=hp) (l:=l) (id:=id) with h1|⟨b,hb,_⟩
 ·exact h1
 ·exact absurd rfl (h _ hb)
def Da (P : Program) : Prop := ∀ (f : Nat) fn, P.funcs[f]? = some fn → (fn.name == "runtime.NumGoroutine") = false
def WB (P:Program) (f:FuncId) (e:TypeId):Prop:=
 (∀args w,(callFunc f args).run P w= .ok (.enter f args) w)∧∃t,P.underlying t=some (.slice e)∧
  ∀(s:Value) (w:World) (Q:Ending→World→Prop),(s= .slice none 0 0→Q (.returned (.slice none 0 0)) w)→
   (∀a n c,s= .slice (some a) n c→∃v w',(Builtin.append_ #[t,t] t #[.slice (some ⟨w.heap.size,0,none⟩) 0 0,s]).run P (w.alloc (.cells #[] e))= .ok v w'∧Q (.returned v) w')→
   (s= .slice none 0 0∨∃a n c,s= .slice (some a) n c)→Calls P f #[s] w Q
structure jt (P:Program) (A:cP):Prop where
 count:Da P
 ext: ∀f T,A.ext f=some T→∀(b:Nat) (C:Array Value) (w:World),w.heap[b]? =some (.cells C T (0,0))→C.size=P.cellsOf T→(C[0]? =some (.pointer none)∨C[0]? =some (.pointer (some ⟨b,0,none⟩)))→
  (callFunc f #[.pointer (some ⟨b,0,none⟩)]).run P w= .ok (.enter f #[.pointer (some ⟨b,0,none⟩)]) w∧
  Calls P f #[.pointer (some ⟨b,0,none⟩)] w fun e w'=>e= .returned (.tuple #[])∧(w'=w∨w'=w.setCell ⟨b,0,none⟩ (.pointer (some ⟨b,0,none⟩)))
 idle: ∀f,A.idle f=true→(∀args w,(callFunc f args).run P w= .ok (.enter f args) w)∧
  ∀args w,CallsD P f args .returning w fun e u' w'=>(∃v,e= .returned v)∧u'= .returning∧w'=w
 pH: ∀f e,A.pH f=some e→WB P f e
theorem jt.here {P:Program} {A:cP} (h:jt P A) (f id:Nat):jt P (A.here f id):=⟨h.count,h.ext,h.idle,h.pH⟩
def Db (E:FuncId→Bool) (d:Deferred):Prop:= ∃f cap,d.target= .fn (.func f) cap∧E f=true
theorem NG {P:Program} {A:cP} (hP:jt P A) {fn:Func} {tmps:Array Value} {R:Ending→World→Prop} {w:World} {v:Value} (hv:(results fn tmps).run P w= .ok v w) (hR:R (.returned v) w):
  ∀ds:List Deferred,(∀d∈ds,Db A.idle d)→Leaves P fn tmps R ds .returning w
 | [],_=>⟨v,hv,hR⟩
 | d::ds,h=>by
  obtain ⟨f,cap,ht,hf⟩:=h d (by simp)
  obtain ⟨k1,k2⟩:=hP.idle f hf
  obtain ⟨t,WC⟩:=d
  simp only at ht
  subst ht
  refine leaves_cons (f:=f) (args:=WC++cap) (by simp) ?_ ?_
  ·simp only[invoke];exact k1 _ w
  ·refine (k2 (WC++cap) w).mono fun e u' w' hr=> ?_
   obtain ⟨⟨v',rfl⟩,rfl,rfl⟩:=hr
   exact NG hP hv hR ds fun d hd=>h d (mZ _ hd)
def Dc (P:Program) (A:cP) (o:Oper) (a:Act) (w:World) (I:Nat→Prop) (β:Nat→Option Nat) (hp:Nat→Option an) (B:Nat) (M:Nat→Prop) (w0:Start) (r:R):Prop:=
 ∀(next:Act→World→Prop) (Q:Exit→Act→World→Prop),
  (∀v w' I' β' ds,Le P w I β hp w' I' β' (cd hp r.upd)→aQ P w' I' β' (cd hp r.upd) B M w0→aq P w' I' β' (cd hp r.upd) v r.v→(∀d∈ds,d∈a.defers∨Db A.idle d)→next ({a with defers:=ds}.put o.dst v) w')→o.wp P a w next Q
theorem qW.step {o:Oper} {a:Act} {r:R} (h:qW P ((execOp a.eval o).run P w) w I β hp B M w0 r):Dc P A o a w I β hp B M w0 r:=by
 obtain ⟨v,w',I',β',h1,h2,h3,h4⟩:=h
 intro next Q hn
 unfold Oper.wp
 rcases h1 with h1|⟨h1,rfl⟩
 ·rw[h1];exact hn v w' I' β' a.defers h2 h3 h4 fun d hd=> .inl hd
 ·rw[h1];exact hn _ w' I' β' a.defers h2 h3 h4 fun d hd=> .inl hd
theorem WD: ∀(l:List (Nat × VS)),pJ l=ur (l.map (·.2))
 | []=>rfl
 | (_,s)::l=>by simp only[pJ,dw,ur,WD l]
theorem aga (hC:mu P A C) (S:aQ P w I β hp B M w0) (hg:iD P A.aO w I) {vals:List Value} {args:List V} {nb key:Nat} {f:FuncId} {r:R} {rd:List Nat} (hlen:vals.length=args.length)
  (c7: ∀(j:Nat) v x,vals[j]? =some v→args[j]? =some x→aq P w I β hp v x) (h:(Ck P A nb key f args).run C hp=some (r,rd)):
  ∃fn c,P.funcs[f]? =some fn∧fn.body=some c∧Calls P f vals.toArray w fun e w'=> ∃v I' β',e= .returned v∧Le P w I β hp w' I' β' (cd hp r.upd)∧aQ P w' I' β' (cd hp r.upd) B M w0∧aq P w' I' β' (cd hp r.upd) v r.v:=by
 unfold Ck at h
 obtain ⟨WE,h0⟩:=aU h
 clear h
 rw[bq] at WE
 subst WE
 obtain ⟨h1,ky,d1,u1,a1,a2,a3,a5,a4⟩:=Nw S h0 hlen c7
 obtain ⟨h2,uL,d2,u2,b1,b2,b3,b4⟩:=Wh S a1
 clear h0 a1
 obtain ⟨hc,h3⟩:=aU b1
 clear b1
 simp only[aT,bq,l7] at hc
 obtain ⟨ct,Ih⟩:=hc
 have uN:=a2.trans b2
 have mV:h2.ds=d1++d2:=by have:=uN.ds;simpa using this
 have Il:h2.upd=u1++u2:=by have:=uN.upd;simpa using this
 have kz:(h2.pl.map Place.id).Nodup:=uN.nodup (by simp)
 obtain ⟨c1,o,c2,c3⟩:=b4 []
 simp only[di] at c1 c2 c3
 cases Dd:C key h2.ds with
 | none=>
  simp only[Rd.run,Dd] at h3
  cases h3
 | some es=>
  have qV: ∃fN,(Cj P (A.so key es) nb h2 (A.lv key es)).run C hp=some (r,fN):=by
   obtain ⟨x,hx,e⟩:=bind_some h3
   rw[Dd] at hx
   cases hx
   unfold cP.so cP.lv
   cases cK:A.alt key with
   | none=>rw[cK] at e;exact ⟨_,e⟩
   | some S2=>
    rw[cK] at e
    simp only[Rd.run] at e
    cases hb:(V.nth es 0).toBool<;>(rw[hb] at e;exact ⟨_,e⟩)
  clear h3
  obtain ⟨fN,h3⟩:=qV
  unfold Cj at h3
  simp only at h3
  generalize iS:fq (A.so key es).cA ((A.lv key es).drop (pJ (A.so key es).bR))=bs at h3
  generalize s5:h2.pl++uu nb (bs.length-h2.pl.length)=σ at h3
  generalize C9:sC σ nb (bs.drop h2.pl.length)=fr at h3
  obtain ⟨p0,bk,rd4,p1,p2,_,p3⟩:=Wo h3
  obtain ⟨uM,rd5,p4⟩:=Wr p1
  obtain rfl:=bj p4
  have sL:h2.pl.length≤bs.length:=by rw[fb] at p0;omega
  have Ij: ∀q∈bk,∃(j:Nat) (b:an),h2.pl[j]? =some (.blk q.1)∧bs[j]? =some b∧ij σ b q.2∧C8 hp q:=by
   intro q hq
   rcases p2 q hq with hx|⟨j,b,k1,k2,k3,k4⟩
   ·simp at hx
   ·have hj:=(bL.1 k1).1
    rw[fT hj] at k2
    exact ⟨j,b,k1,k2,k3,k4⟩
  obtain ⟨fn,c,hf,hb,NH⟩:=hC key h2.ds es Dd
  refine ⟨fn,c,hf,hb,?_⟩
  have hmb:fq (A.sin key).cA (h2.ds.drop (pJ (A.sin key).bR))=fq (A.sin key).cA d2:=by
   rw[mV,WD,oY a3]
  have NI:(bH (A.sin key) h2.ds).hp=kQ (fq (A.sin key).cA d2):=by
   simp only[bH,mk,hmb]
  have hl: ∀j blk,(bH (A.sin key) h2.ds).hp j=some blk→∃p,eK h2.pl j=some p∧eF P w β hp p (o j) blk:=by
   intro j blk hj
   rw[NI,iU] at hj
   obtain ⟨p,k1,k2⟩:=c2 j blk hj
   rw[je] at k1
   exact ⟨p,k1,k2⟩
  have hd: ∀j,j<h2.pl.length→∃blk,(bH (A.sin key) h2.ds).hp j=some blk:=by
   intro j hj
   rw[NI,iU]
   exact ⟨_,cq (by rw[c1,←ct];exact hj)⟩
  have WG:C3 P w β hp h2.pl o (bH (A.sin key) h2.ds).hp:=by
   intro j p hj
   obtain ⟨blk,k1⟩:=hd j (by rw[nq] at hj;exact (bL.1 hj).1)
   obtain ⟨p',k2,k3⟩:=hl j blk k1
   rw[hj] at k2
   cases k2
   exact ⟨blk,k1,k3⟩
  obtain ⟨sR,S1⟩:=CD S uN.H9
  rw[←Il] at sR S1
  have i1: ∀b,I b→jP P w I β hp h2.upd b:=fun b h=> .inl h
  have entry:=af5 (hp0:=(bH (A.sin key) h2.ds).hp) S kz Ih hl (fun dj j blk hj=>by
   have gO:=hj
   rw[NI,iU] at gO
   exact c3 (jP P w I β hp h2.upd) o _ i1 (fun q hq b hb=> .inr ⟨q,by rw[Il];exact dp.2 (.inr hq),hb⟩) h2.pl [] (by simp) WG j blk gO (dj j blk hj)) S1.h.kT
  have agb:vals.length=(A.sin key).bR.length:=by rw[hlen,←a5];simp
  have ha:=NH w (jP P w I β hp h2.upd) o vals entry (hg.mono i1 fun _ _=>rfl) agb fun j v x hj hx=>by
   rw[mV] at hx
   exact (((a4.later b2) (jP P w I β hp h2.upd) o _ i1 (fun q hq b hb=> .inr ⟨q,by rw[Il];exact hq,hb⟩) h2.pl [] (by simp) WG) d2).2 j v x hj hx
  refine ha.mono fun e w' De=> ?_
  obtain ⟨v,I2,cC,rfl,ha⟩:=De
  have zW:(bH (A.so key es) (A.lv key es)).hp=kQ bs:=by simp only[bH,mk,iS]
  cases agc:(A.so key es).safe P with
  | true=>
   simp only[cond_true,di]
   have fv: ∀b,I b→I2 b:=fun b h=>ha.le.dN b (i1 b h)
   obtain ⟨s1,s2⟩:=af8 agc fv ha.zS i1
   have zT:mr w I o (bH (A.sin key) h2.ds).hp w' I cC (kQ bs):=by
    rw[←zW]
    exact ⟨fun _ h=>h,fun b h=>ha.le.cl b (i1 b h),ha.le.blk,ha.le.size⟩
   obtain ⟨β',k1,k2,k3⟩:=Ww S s5.symm C9.symm kz sL p3 Ij hl hd (by rw[←zW];exact ⟨s1.h,s1.cl,s1.size,fun b h=> .inl h,s1.io⟩) zT uM
   exact ⟨v,I,β',rfl,k1,k2,k3.val (by have:=s2 v ha.res;rw[zW] at this;exact this)⟩
  | false=>
   simp only[cond_false]
   rw[←da,WA]
   have pZ: ∀p∈h2.pl,cd hp h2.upd p.id=hp p.id:=fun p hp=>zV fun q hq e=>
    Ig Ih (dH.2 ⟨q,hq,rfl⟩) (e▸dH.2 ⟨p,hp,rfl⟩)
   have agd: ∀q∈bk,∃(j:Nat) (b:an),h2.pl[j]? =some (.blk q.1)∧bs[j]? =some b∧ij σ b q.2∧C8 (cd hp h2.upd) q:=by
    intro q hq
    obtain ⟨j,b,k1,k2,k3,k4⟩:=Ij q hq
    refine ⟨j,b,k1,k2,k3,fun hn=> ?_⟩
    have:=pZ _ (kN k1)
    simp only[Place.id] at this
    rw[this]
    exact k4 hn
   have Ho: ∀j blk,(bH (A.sin key) h2.ds).hp j=some blk→∃p,eK h2.pl j=some p∧eF P w β (cd hp h2.upd) p (o j) blk:=by
    intro j blk hj
    obtain ⟨p,k1,k2⟩:=hl j blk hj
    exact ⟨p,k1,k2.other (pZ p (by rw[nq] at k1;exact kN k1))⟩
   have age: ∀q∈fr,cd hp h2.upd q.1=none:=by
    intro q hq
    rw[zV fun q' Df e=> ?_]
    ·exact uM q hq
    ·obtain ⟨e1,cN,_,h5⟩:=uN.H9 q' (Il▸Df)
     rw[e,uM q hq] at h5
     rcases h5 with ⟨_,h5⟩|⟨_,h5⟩<;>cases h5
   obtain ⟨β',k1,k2,k3⟩:=Ww S1 s5.symm C9.symm kz sL p3 agd Ho hd (by rw[←zW];exact ha.zS) (by rw[←zW];exact ha.le) age
   exact ⟨v,I2,β',rfl,sR.trans k1,k2,k3.val (by have:=ha.res;rw[zW] at this;exact this)⟩
theorem WH (hC:mu P A C) (hP:jt P A) (S:aQ P w I β hp B M w0) (hg:iD P A.aO w I) {a:Act} {nb key:Nat} {o:Oper} {f:FuncId} {vals:List Value} {args:List V} (hlen:vals.length=args.length)
  (c7: ∀(j:Nat) v x,vals[j]? =some v→args[j]? =some x→aq P w I β hp v x) {r:R} {rd:List Nat} (h:(Ck P A nb key f args).run C hp=some (r,rd))
  (hex:(execOp a.eval o).run P w=(callFunc f vals.toArray).run P w):Dc P A o a w I β hp B M w0 r:=by
 intro next Q hn
 obtain ⟨fn,c,hf,hb,NH⟩:=aga hC S hg hlen c7 h
 unfold Oper.wp
 rw[hex,MuLone.run_callFunc_enter hf (hP.count f _ hf) hb,Oper.upon_enter]
 refine NH.mono fun e w' De=> ?_
 obtain ⟨v,I2,cC,rfl,k1,k2,k3⟩:=De
 exact hn v w' I2 cC a.defers k1 k2 k3 fun d hd=> .inl hd
theorem mh.args {a:Act} {sl:Nat→V} (hs:mh P w I β hp a sl) (hg:iD P A.aO w I) {args:Array Operand} {ts:Array TypeId} (bw:args.size=ts.size):
  (args.map a.eval).toList.length=((args.toList.zip ts.toList).map fun p=>bm P A.aO p.2 sl p.1).length∧
  ∀(j:Nat) v x,(args.map a.eval).toList[j]? =some v→((args.toList.zip ts.toList).map fun p=>bm P A.aO p.2 sl p.1)[j]? =some x→aq P w I β hp v x:=by
 refine ⟨by simp;omega,fun j v x hv hx=> ?_⟩
 simp only[Array.toList_map,fI,List.getElem?_zip_eq_some,BV] at hv hx
 obtain ⟨x1,Dg,rfl⟩:=hv
 obtain ⟨⟨y1,t1⟩,⟨WI,_⟩,rfl⟩:=hx
 rw[Dg] at WI
 cases WI
 exact hs.ev hg t1 _
theorem WJ {vs us:List Value} {xs ys:List V} (h1:vs.length=xs.length) (h2: ∀(j:Nat) v x,vs[j]? =some v→xs[j]? =some x→aq P w I β hp v x)
  (h3: ∀(j:Nat) v x,us[j]? =some v→ys[j]? =some x→aq P w I β hp v x) (j:Nat) (v:Value) (x:V) (hv:(vs++us)[j]? =some v) (hx:(xs++ys)[j]? =some x):aq P w I β hp v x:=by
 by_cases hj:j<vs.length
 ·rw[ln hj] at hv
  rw[ln (by omega)] at hx
  exact h2 j v x hv hx
 ·rw[jG (by omega)] at hv
  rw[jG (by omega)] at hx
  rw[h1] at hv
  exact h3 _ v x hv hx
theorem agf (hP:jt P A) (S:aQ P w I β hp B M w0) (hg:iD P A.aO w I) {a:Act} {sl:Nat→V} (hs:mh P w I β hp a sl) {dst:Option Tmp} {ty e:TypeId} {pos:String} {after:Array Edge} {guard:Option (Nat × Bool)} {f:FuncId}
  {args:Array Operand} {argTypes:Array TypeId} {nb:Nat} {r:R} {rd:List Nat} (nn:A.pH f=some e)
  (h:((match args.toList with
    | [x]=> .aM (dm P e) (uo e (bm P A.aO ty sl x) fun xs=> .aM (Nat.ble (xs.length*P.bytesOf e) db) (km nb (.arr e xs false) (.whole e nb) []))
    | _=> .fail):Rd R).run C hp=some (r,rd)):Dc P A (Oper.mk dst (.call (Go.Call.mk (.value (.func f)) args argTypes)) ty pos after guard) a w I β hp B M w0 r:=by
 cases ha:args.toList with
 | nil=>rw[ha] at h;cases h
 | cons x l=>
  rw[ha] at h
  cases l with
  | cons _ _=>cases h
  | nil=>
   simp only at h
   have e1:args= #[x]:=by rw[←Array.toArray_toList (xs:=args),ha]
   subst e1
   have hx:=hs.ev hg ty x
   obtain ⟨aw,h⟩:=aU h
   have fin: ∀{w1:World} {Im:Nat→Option Nat},(∀id blk,hp id=some blk→eE P w1 I Im hp (Im id) blk)→aq P w1 I Im hp (a.eval x) (bm P A.aO ty sl x)→∃xs,(((∃a',a.eval x= .slice a' 0 0)∧xs=[])∨∃a' c news,Row P w1 I e (a.eval x) xs a' c news)∧
     xs.length*P.bytesOf e≤db∧hp nb=none∧r=⟨.whole e nb,[(nb,.arr e xs false)]⟩:=by
    intro w1 Im h1 h2
    obtain ⟨xs,nk,l,h⟩:=HQ h1 aw h2 h
    obtain ⟨fe,h⟩:=aU h
    rw[fa] at fe
    obtain ⟨hn,rfl⟩:=oT h
    exact ⟨xs,nk,fe,hn,rfl⟩
   obtain ⟨c1,t,hu,c2⟩:=hP.pH f e nn
   intro next Q zX
   unfold Oper.wp
   have e2:(execOp a.eval ⟨dst,.call ⟨.value (.func f),#[x],argTypes⟩,ty,pos,after,guard⟩).run P w= .ok (.enter f #[a.eval x]) w:=by
    have fO:a.eval (.func f)= .func (.func f) #[] #[]:=rfl
    simpa[execOp,resolve,fO,Deferred.ofValue,invoke] using c1 #[a.eval x] w
   rw[e2,Oper.upon_enter]
   refine c2 _ w _ (fun Dh=> ?_) (fun b n c zG=> ?_) ?_
   ·obtain ⟨xs,nk,fe,hn,rfl⟩:=fin S.h.rel hx
    have iG:xs=[]:=by
     rcases nk with ⟨_,h⟩|⟨a,c,news,hr⟩
     ·exact h
     ·have:=hr.val.symm.trans Dh
      cases this
    subst iG
    obtain ⟨a1,a2⟩:=Hu S e hn
    exact zX _ w I _ a.defers a1 a2 (.eo (dq _ _ _) (dq _ _ _)) fun d hd=> .inl hd
   ·obtain ⟨m1,m2⟩:=aeq (w':=w.alloc (.cells #[] e)) S (fun b hb=>heap_alloc_old w _ b hb) (by simp) ⟨rfl,rfl⟩
    obtain ⟨xs,nk,fe,hn,rfl⟩:=fin m2.h.rel (hx.mono m1)
    obtain ⟨v,w',β',a1,a2,a3,a4⟩:=MW (ty:=t) (a0:=some ⟨w.heap.size,0,none⟩) m2 hu aw hn fe nk
    exact ⟨v,w',a1,zX v w' I β' a.defers (m1.trans a2) a3 a4 fun d hd=> .inl hd⟩
   ·obtain ⟨xs,nk,fe,hn,rfl⟩:=fin S.h.rel hx
    rcases nk with ⟨⟨b,h⟩,_⟩|⟨b,c,news,hr⟩
    ·rw[h]
     cases b with
     | none=>exact .inl rfl
     | some b=>exact .inr ⟨_,_,_,rfl⟩
    ·exact .inr ⟨_,_,_,hr.val⟩
theorem agh (hP:jt P A) (S:aQ P w I β hp B M w0) (hg:iD P A.aO w I) {a:Act} {sl:Nat→V} (hs:mh P w I β hp a sl) {dst:Option Tmp} {ty T0:TypeId} {pos:String} {after:Array Edge} {guard:Option (Nat × Bool)} {f:FuncId}
  {args:Array Operand} {argTypes:Array TypeId} {r:R} {rd:List Nat} (Di:A.ext f=some T0)
  (h:((match args.toList with
   | [x]=>
    match bm P A.aO ty sl x with
    | .ptr id i c=>Rd.get id fun
     | some (.var T cs)=> .aM (Nat.beq T T0&&(qN P T&&(Nat.beq cs.length (P.cellsOf T)&&(Nat.beq i 0&&Nat.beq c 0)))) (.ret ⟨.bJ [],[(id,.var T (.undef::cs.tail))]⟩)
     | _=> .fail
    | _=> .fail
   | _=> .fail):Rd R).run C hp=some (r,rd)):Dc P A (Oper.mk dst (.call (Go.Call.mk (.value (.func f)) args argTypes)) ty pos after guard) a w I β hp B M w0 r:=by
 cases ha:args.toList with
 | nil=>rw[ha] at h;cases h
 | cons x l=>
  rw[ha] at h
  cases l with
  | cons _ _=>cases h
  | nil=>
   simp only at h
   have e1:args= #[x]:=by rw[←Array.toArray_toList (xs:=args),ha]
   subst e1
   have hx:=hs.ev hg ty x
   cases gh:bm P A.aO ty sl x<;>rw[gh] at h hx<;>simp only at h<;>first|(cases h;done)|skip
   rename_i id i c
   obtain ⟨l,h1⟩:=run_get h
   cases af:hp id with
   | none=>rw[af] at h1;cases h1
   | some blk=>
    rw[af] at h1
    cases blk<;>simp only at h1<;>first|(cases h1;done)|skip
    rename_i T cs
    obtain ⟨h2,h3⟩:=aU h1
    simp only[aT,bq] at h2
    obtain ⟨rfl,bz,zY,rfl,rfl⟩:=h2
    obtain rfl:=bj h3
    obtain ⟨b,hb,he⟩:=hx.iT af (by simp)
    have hr:=S.h.rel id _ af
    rw[hb] at hr
    cases hr with
    | @var _ b' Ca _ aI hh bw hI iG ic=>
     cases aI
     have wz:a.eval x= .pointer (some ⟨b,0,none⟩):=by rw[he];simp[an.sz]
     obtain ⟨q1,q2⟩:=hP.ext f T Di b Ca w hh (bw.trans zY) (ic bz)
     have h0:0<Ca.size:=by
      rcases ic bz with k|k<;>exact (jd.1 k).1
     have ng:(V.undef::cs.tail).length=cs.length:=by
      cases cs with
      | nil=>rw[bw] at h0;simp at h0
      | cons _ _=>rfl
     have rel: ∀(C':Array Value),(∀j,0<j→C'[j]? =Ca[j]?)→∀(j:Nat) v y,C'[j]? =some v→(V.undef::cs.tail)[j]? =some y→aq P w I β hp v y:=by
      intro C' zJ j v y hj hy
      cases j with
      | zero=>simp at hy;subst hy;exact .undef
      | succ j=>
       rw[zJ _ (by omega)] at hj
       refine iG (j+1) v y hj ?_
       cases cs with
       | nil=>rw[bw] at h0;simp at h0
       | cons _ _=>simpa using hy
     have fin: ∀w' C',(∀b',b'≠b→w'.heap[b']? =w.heap[b']?)→w'.heap[b]? =some (.cells C' T (0,0))→C'.size=Ca.size→w.heap.size≤w'.heap.size→w'.os=w.os∧w'.output=w.output→
       (∀j,0<j→C'[j]? =Ca[j]?)→(C'[0]? =some (.pointer none)∨C'[0]? =some (.pointer (some ⟨b,0,none⟩)))→
       Le P w I β hp w' I β (bd hp id (some (.var T (V.undef::cs.tail))))∧aQ P w' I β (bd hp id (some (.var T (V.undef::cs.tail)))) B M w0:=by
      intro w' C' k1 k2 k3 k4 k5 k6 k7
      exact Hw (w':=w') (blk':= .var T (V.undef::cs.tail)) S af (by simp) rfl hb hI (by simp) k1 (by rw[oK k2,oK hh,k3]) k4 k5 fun hle=>
       .var rfl k2 (by rw[k3,bw,ng]) hI (fun j v y hj hy=>(rel C' k6 j v y hj hy).mono hle) fun _=>k7
     intro next Q hn
     unfold Oper.wp
     have e2:(execOp a.eval ⟨dst,.call ⟨.value (.func f),#[x],argTypes⟩,ty,pos,after,guard⟩).run P w= .ok (.enter f #[.pointer (some ⟨b,0,none⟩)]) w:=by
      have fO:a.eval (.func f)= .func (.func f) #[] #[]:=rfl
      simpa[execOp,resolve,fO,Deferred.ofValue,invoke,wz] using q1
     rw[e2,Oper.upon_enter]
     refine q2.mono fun e w' De=> ?_
     obtain ⟨rfl,hw⟩:=De
     have WK:Le P w I β hp w' I β (bd hp id (some (.var T (V.undef::cs.tail))))∧aQ P w' I β (bd hp id (some (.var T (V.undef::cs.tail)))) B M w0:=by
      rcases hw with rfl|rfl
      ·exact fin w' Ca (fun _ _=>rfl) hh rfl (bC _) ⟨rfl,rfl⟩ (fun _ _=>rfl) (ic bz)
      ·refine fin (w.setCell ⟨b,0,none⟩ (.pointer (some ⟨b,0,none⟩))) (Ca.setIfInBounds 0 (.pointer (some ⟨b,0,none⟩))) (fun b' bO=> ?_) ?_ (by simp) (by simp[World.setCell]) ⟨rfl,rfl⟩ (fun j hj=> ?_) (.inr ?_)
       ·simp only[World.setCell,BT]
        rw[aj (fun e=>bO e.symm)]
       ·simp[World.setCell,BT,hh]
       ·rw[GH (by omega)]
       ·rw[LW h0]
     exact hn (.tuple #[]) w' I β a.defers WK.1 WK.2 (.bJ rfl fun j v y hj _=>by simp at hj) fun d hd=> .inl hd
theorem agi (hC:mu P A C) (hP:jt P A) (S:aQ P w I β hp B M w0) (hg:iD P A.aO w I) {a:Act} {sl:Nat→V} (hs:mh P w I β hp a sl) {ix nb:Nat} {o:Oper} {r:R} {rd:List Nat}
  (h:(gq P A sl ix nb o).run C hp=some (r,rd)):Dc P A o a w I β hp B M w0 r:=by
 cases hc:Nn o.op with
 | false=>exact (afO S hg hs hc h).step
 | true=>
  obtain ⟨dst,op,ty,pos,after,guard⟩:=o
  cases op<;>simp only[Nn] at hc<;>first|(cases hc;done)|skip
  case defer c=>
   obtain ⟨callee,args,argTypes⟩:=c
   cases callee with
   | invoke r m=>simp only[gq] at h;cases h
   | builtin b=>simp only[gq] at h;cases h
   | value f=>
   cases f with
   | tmp t=>
    simp only[gq] at h
    cases bz:sl t<;>rw[bz] at h<;>simp only at h<;>first|(cases h;done)|skip
    rename_i f xs ys
    obtain ⟨h1,h2⟩:=aU h
    obtain rfl:=bj h2
    have hv:=hs t
    rw[bz] at hv
    generalize wD:a.tmps.getD t undef=vt at hv
    cases hv with
    | @fn _ fs cs _ _ q1 q2 q3 q4=>
     intro next Q hn
     unfold Oper.wp
     have fO:a.eval (.tmp t)= .func (.func f) fs cs:=wD
     have e1:(execOp a.eval ⟨dst,.defer ⟨.value (.tmp t),args,argTypes⟩,ty,pos,after,guard⟩).run P w= .ok (.defer {target:= .fn (.func f) cs,args:=fs++args.map a.eval}) w:=by
      simp[execOp,resolve,fO,Deferred.ofValue]
     rw[e1,Oper.upon_defer]
     exact hn undef w I β _ (Le.refl w I β hp) S .undef fun d hd=>by
      rcases cE.1 hd with rfl|hd
      ·exact .inr ⟨f,cs,rfl,h1⟩
      ·exact .inl hd
   | func f=>simp only[gq] at h;cases h
   | const _=>simp only[gq] at h;cases h
   | global _=>simp only[gq] at h;cases h
  rename_i c
  obtain ⟨callee,args,argTypes⟩:=c
  cases callee with
  | invoke r m=>cases hc
  | builtin b=>cases hc
  | value f=>
   cases f with
   | func f=>
    simp only[gq] at h
    cases Di:A.ext f with
    | some T0=>
     rw[Di] at h
     simp only at h
     exact agh hP S hg hs Di h
    | none=>
    rw[Di] at h
    simp only at h
    cases nn:A.pH f with
    | some e0=>
     rw[nn] at h
     simp only at h
     exact agf hP S hg hs nn h
    | none=>
    rw[nn] at h
    simp only at h
    obtain ⟨h1,h2⟩:=aU h
    rw[bq] at h1
    obtain ⟨k1,k2⟩:=hs.args hg h1
    refine WH hC hP S hg k1 k2 h2 ?_
    have e1:(args.map a.eval).toList.toArray=args.map a.eval:=Array.toArray_toList
    rw[e1]
    simp[execOp,resolve,Act.eval,Deferred.ofValue,invoke]
   | tmp t=>
    simp only[gq] at h
    cases bz:sl t<;>rw[bz] at h<;>simp only at h<;>first|(cases h;done)|skip
    rename_i f xs ys
    obtain ⟨h1,h2⟩:=aU h
    rw[bq] at h1
    obtain ⟨k1,k2⟩:=hs.args hg h1
    have hv:=hs t
    rw[bz] at hv
    generalize wD:a.tmps.getD t undef=vt at hv
    cases hv with
    | @fn _ fs cs _ _ q1 q2 q3 q4=>
     have l1:fs.toList.length=xs.length:=by simpa using q1
     have l3:cs.toList.length=ys.length:=by simpa using q3
     have r1: ∀(j:Nat) v x,fs.toList[j]? =some v→xs[j]? =some x→aq P w I β hp v x:=fun j v x hj hx=>q2 j v x (by simpa using hj) hx
     have r3: ∀(j:Nat) v x,cs.toList[j]? =some v→ys[j]? =some x→aq P w I β hp v x:=fun j v x hj hx=>q4 j v x (by simpa using hj) hx
     refine WH hC hP S hg (vals:=fs.toList++(args.map a.eval).toList++cs.toList) (args:=xs++((args.toList.zip argTypes.toList).map fun p=>bm P A.aO p.2 sl p.1)++ys) (by simp only[cg];omega) ?_ h2 ?_
     ·exact WJ (by simp only[cg];omega) (WJ l1 r1 k2) r3
     ·have e1:(fs.toList++(args.map a.eval).toList++cs.toList).toArray=fs++args.map a.eval++cs:=by
       apply Array.toList_inj.1;simp
      rw[e1]
      have fO:a.eval (.tmp t)= .func (.func f) fs cs:=wD
      simp[execOp,resolve,fO,Deferred.ofValue,invoke]
   | _=>cases hc
end
section
variable {P:Program} {A:cP} {w w':World} {I I' I2:Nat→Prop} {μ β β':Nat→Option Nat} {hp hp':Nat→Option an} {C:ae} {B:Nat} {M:Nat→Prop} {w0:Start}
structure jV (P:Program) (E:FuncId→Bool) (G:Nat→V) (w:World) (I:Nat→Prop) (β:Nat→Option Nat) (n:Nat) (a:Act) (st:St):Prop where
 sl:mh P w I β st.hp a st.sl
 size:a.tmps.size=n
 defers: ∀d∈a.defers,Db E d
 aO:iD P G w I
theorem NJ {E:FuncId→Bool} {G:Nat→V} {n:Nat} {a:Act} {st:St} {o:Oper} {v:Value} {x:V} {hp':Nat→Option an} {ds:List Deferred} (h:jV P E G w I β n a st) (hle:Le P w I β st.hp w' I' β' hp') (hd:uv o n=true)
  (hv:aq P w' I' β' hp' v x) (mV: ∀d∈ds,d∈a.defers∨Db E d):jV P E G w' I' β' n ({a with defers:=ds}.put o.dst v) ⟨jg st.sl o.dst x,hp',st.nb⟩:=by
 have WL: ∀d∈ds,Db E d:=fun d hd=>(mV d hd).elim (h.defers d) id
 cases agj:o.dst with
 | none=>exact ⟨fun k=>(h.sl k).mono hle,h.size,WL,h.aO.mono hle.dN hle.cl⟩
 | some d=>
  have aR:d<a.tmps.size:=by
   unfold uv at hd
   rw[agj] at hd
   rw[h.size]
   simpa using hd
  refine ⟨fun k=> ?_,by simp[Act.put,h.size],WL,h.aO.mono hle.dN hle.cl⟩
  simp only[Act.put,jg,bd]
  cases hb:Nat.beq k d with
  | true=>
   rw[bq] at hb
   subst hb
   simpa[aR] using hv
  | false=>
   have bO:d≠k:=fun e=>by rw[e,kM] at hb;cases hb
   have:=(h.sl k).mono hle
   simpa[GH bO] using this
theorem WM {E:FuncId→Bool} {G:Nat→V} {n:Nat} {a:Act} {st:St} {d:Nat} {b:Bool} (h:jV P E G w I β n a st) (hd:st.sl d= .bool b):a.tmps[d]? =some (.bool b):=by
 have:=h.sl d
 rw[hd] at this
 have:=this.lI
 cases ht:a.tmps[d]? with
 | none=>simp[ht] at this;cases this
 | some v=>simp[ht] at this;rw[this]
theorem agk {x:V} {b:Bool} (h:m9 x=some (some b)):x= .bool b:=by
 cases x with
 | bool c=>simp only[m9] at h;injection h with h;injection h with h;rw[h]
 | bJ vs=>cases vs<;>simp[m9] at h
 | _=>simp[m9] at h
theorem agl {x:V} (h:m9 x=some none):x= .bJ []:=by
 cases x with
 | bJ vs=>cases vs with
  | nil=>rfl
  | cons _ _=>simp[m9] at h
 | bool c=>simp[m9] at h
 | _=>simp[m9] at h
theorem aq.agm {v:Value} (h:aq P w I β hp v (.bJ [])):v= .tuple #[]:=by
 cases h with
 | @bJ cs _ hs _=>
  have:cs= #[]:=by
   apply Array.eq_empty_of_size_eq_zero
   simpa using hs
  rw[this]
theorem aq.WN:aq P w I β hp Go.undef (.bJ []):= .bJ (by rfl) (fun j v x _ hx=>by simp at hx)
theorem WO (hC:mu P A C) (hP:jt P A) {ops:Array Oper} {n i nb:Nat} {o:Oper} (ho:ops[i]? =some o) {a:Act} {st st':St} {R W:List Nat} (S:aQ P w I β st.hp B M w0) (hA:jV P A.idle A.aO w I β n a st)
  (h:iN P A C n ops i o nb st=some (st',R,W)) {K:Act→World→Prop} {Q:Exit→Act→World→Prop}
  (hK: ∀a' w' I' β',Le P w I β st.hp w' I' β' st'.hp→aQ P w' I' β' st'.hp B M w0→jV P A.idle A.aO w' I' β' n a' st'→K a' w'):wpOp P ops Q i K a w:=by
 unfold iN at h
 cases hd:uv o n with
 | false=>rw[hd] at h;cases h
 | true=>
  rw[hd] at h
  simp only[cond_true] at h
  have go: ∀{NK:St} {R W:List Nat},(((gq P A st.sl i (nb+64*i) o).run C st.hp).bind fun r=>some ((⟨jg st.sl o.dst r.1.v,cd st.hp r.1.upd,st.nb⟩:St),sE r.2 r.1.upd,gJ st.hp r.1.upd))=some (NK,R,W)→NK=st'→
    o.wp P a w K Q:=by
   intro NK R W h e
   obtain ⟨⟨r,rd⟩,h1,h2⟩:=bind_some h
   cases h2
   subst e
   exact agi hC hP S hA.aO hA.sl h1 K Q fun v w' I' β' ds k1 k2 k3 k4=>hK _ w' I' β' k1 k2 (NJ hA k1 hd k3 k4)
  unfold wpOp
  rw[ho]
  simp only
  cases hg:o.guard with
  | none=>
   rw[hg] at h
   simp only[Region.wanted,hg,cL]
   exact .inl (go h rfl)
  | some gw=>
   obtain ⟨g,want⟩:=gw
   rw[hg] at h
   simp only at h
   cases lO:(ops[g]?).bind (·.dst) with
   | none=>rw[lO] at h;cases h
   | some d=>
    rw[lO] at h
    simp only at h
    cases oc:m9 (st.sl d) with
    | none=>rw[oc] at h;cases h
    | some ob=>
    rw[oc] at h
    cases ob with
    | none=>
     have zG:=agl oc
     have hy:yielded ops a.tmps g=none:=by
      unfold yielded
      rw[lO]
      have:=hA.sl d
      rw[zG] at this
      have hu:=aq.agm this
      simp only[Option.bind_some]
      cases ht:a.tmps[d]? with
      | none=>rfl
      | some v=>simp[ht] at hu;subst hu;rfl
     simp only[Region.wanted,hg,hy]
     injection h with h
     injection h with h3 h4
     subst h3
     have h2:((none:Option Bool)==some want)=false:=rfl
     simp only[h2,Bool.false_eq_true,ga]
     exact hK _ w I β (Le.refl w I β st.hp) S (NJ (ds:=a.defers) hA (Le.refl w I β st.hp) hd aq.WN fun d h=> .inl h)
    | some b=>
    simp only at h
    have zG:=agk oc
    have hy:yielded ops a.tmps g=some b:=by
     unfold yielded
     rw[lO]
     simp only[Option.bind_some,WM hA zG]
    simp only[Region.wanted,hg,hy]
    by_cases hb:b=want
    ·subst hb
     simp only[BU,cond_true] at h
     simp only[BU,cL]
     exact .inl (go h rfl)
    ·have h1:(b==want)=false:=by simp[hb]
     have h2:(some b==some want)=false:=by simp[hb]
     rw[h1] at h
     simp only[cond_false] at h
     injection h with h
     injection h with h3 h4
     subst h3
     simp only[h2,Bool.false_eq_true,ga]
     exact hK _ w I β (Le.refl w I β st.hp) S (NJ (ds:=a.defers) hA (Le.refl w I β st.hp) hd aq.WN fun d h=> .inl h)
def wK (hp hp':Nat→Option an) (c:Nat):Prop:=hp' c=hp c∧(KB≤c→hX (hp' (c-KB))=hX (hp (c-KB)))
theorem wK.symm {c:Nat} (h:wK hp hp' c):wK hp' hp c:=⟨h.1.symm,fun hc=>(h.2 hc).symm⟩
theorem uO {α:Type}: ∀{p:Rd α} {r:α} {rd:List Nat},p.run C hp=some (r,rd)→(∀id∈rd,wK hp hp' id)→p.run C hp'=some (r,rd)
 | .ret a,r,rd,h,_=>h
 | .fail,r,rd,h,_=>by cases h
 | .get id k,r,rd,h,he=>by
  obtain ⟨x,h1,h2⟩:=bind_some h
  cases h2
  have e1:hp' id=hp id:=(he id (by simp)).1
  have:=uO (p:=k (hp id)) (r:=x.1) (rd:=x.2) h1 (fun i hi=>he i (by simp[hi]))
  simp only[Rd.run,e1,this,Option.bind_some]
 | .live id ok k,r,rd,h,he=>by
  simp only[Rd.run] at h⊢
  cases hk:ok (hX (hp id)) with
  | false=>rw[hk] at h;cases h
  | true=>
   rw[hk] at h
   obtain ⟨x,h1,h2⟩:=bind_some h
   cases h2
   have e1:hX (hp' id)=hX (hp id):=by
    have:=(he (id+KB) (by simp)).2 (Nat.le_add_left _ _)
    rwa [yS] at this
   have:=uO (p:=k) (r:=x.1) (rd:=x.2) h1 (fun i hi=>he i (by simp[hi]))
   rw[e1,hk,this]
   rfl
 | .opt o k,r,rd,h,he=>by
  obtain ⟨x,h1,h2⟩:=bind_some h
  simp only[Rd.run,h1,Option.bind_some]
  exact uO h2 he
 | .aM b k,r,rd,h,he=>by
  obtain ⟨h1,h2⟩:=aU h
  simp only[Rd.run,h1,cond_true]
  exact uO h2 he
 | .call key ds k,r,rd,h,he=>by
  obtain ⟨x,h1,h2⟩:=bind_some h
  simp only[Rd.run,h1,Option.bind_some]
  exact uO h2 he
 | .alt true x y,r,rd,h,he=>uO (p:=x) h he
 | .alt false x y,r,rd,h,he=>uO (p:=y) h he
theorem agn {G:Nat→V} {sl sl':Nat→V} {t:TypeId} {x:Operand} (h: ∀k,x= .tmp k→sl k=sl' k):bm P G t sl x=bm P G t sl' x:=by
 cases x with
 | tmp k=>exact h k rfl
 | _=>rfl
theorem ago {sl sl':Nat→V} {ix nb:Nat} {o:Oper} (h: ∀x∈o.op.operands,∀k,x= .tmp k→sl k=sl' k):gq P A sl ix nb o=gq P A sl' ix nb o:=by
 have fO: ∀t x,x∈o.op.operands→bm P A.aO t sl x=bm P A.aO t sl' x:=fun t x hx=>agn (h x hx)
 obtain ⟨dst,op,ty,pos,after,guard⟩:=o
 have WQ: ∀(t:TypeId) (ps:Array (Nat × Operand)),(∀x∈ps.map (·.2),bm P A.aO t sl x=bm P A.aO t sl' x)→
   (ps.toList.map fun p=>(p.1,bm P A.aO t sl p.2))=ps.toList.map fun p=>(p.1,bm P A.aO t sl' p.2):=fun t ps hp=>
  nK fun p hm=>by rw[hp p.2 (Array.mem_map.2 ⟨p,qG.1 hm,rfl⟩)]
 have agp: ∀(t:TypeId) (ps:Array (Nat × Operand)),(∀x∈ps.map (·.2),bm P A.aO t sl x=bm P A.aO t sl' x)→
   (ps.toList.map fun p=>(bm P A.aO t sl p.2).cells)=ps.toList.map fun p=>(bm P A.aO t sl' p.2).cells:=fun t ps hp=>
  nK fun p hm=>by rw[hp p.2 (Array.mem_map.2 ⟨p,qG.1 hm,rfl⟩)]
 cases op<;>simp only[Op.operands] at fO<;>simp only[gq]
 case pick c x y=>rw[fO ty c (by simp),fO ty x (by simp),fO ty y (by simp)]
 case build t ps=>rw[WQ ty ps fun x hx=>fO ty x (by simpa using hx),agp ty ps fun x hx=>fO ty x (by simpa using hx)]
 case buildSlice t len ps=>
  split
  ·rename_i e _
   rw[WQ e ps fun x hx=>fO e x (by simpa using hx)]
  ·rfl
 case slice t x lo hi mx=>
  cases mx with
  | some m=>
   have e1:lo.map (bm P A.aO 0 sl)=lo.map (bm P A.aO 0 sl'):=by
    cases lo with
    | none=>rfl
    | some l=>simp only[Option.map_some,fO 0 l (by simp)]
   have e2:hi.map (bm P A.aO 0 sl)=hi.map (bm P A.aO 0 sl'):=by
    cases hi with
    | none=>rfl
    | some l=>simp only[Option.map_some,fO 0 l (by simp)]
   have e3:=fO 0 m (by simp)
   simp only[fO ty x (by simp),e1,e2,e3]
  | none=>
   have e1:lo.map (bm P A.aO 0 sl)=lo.map (bm P A.aO 0 sl'):=by
    cases lo with
    | none=>rfl
    | some l=>simp only[Option.map_some,fO 0 l (by simp)]
   have e2:hi.map (bm P A.aO 0 sl)=hi.map (bm P A.aO 0 sl'):=by
    cases hi with
    | none=>rfl
    | some l=>simp only[Option.map_some,fO 0 l (by simp)]
   simp only[fO ty x (by simp),e1,e2]
 case call c=>
  obtain ⟨callee,args,argTypes⟩:=c
  have wL: ∀t x,x∈args→bm P A.aO t sl x=bm P A.aO t sl' x:=fun t x hx=>fO t x (by simp[Call.operands,hx])
  have hl: ∀t (l:List Operand),(∀x∈l,x∈args)→l.map (bm P A.aO t sl)=l.map (bm P A.aO t sl'):=fun t l hl=>nK fun x hx=>wL t x (hl x hx)
  have hz:((args.toList.zip argTypes.toList).map fun p=>bm P A.aO p.2 sl p.1)=(args.toList.zip argTypes.toList).map fun p=>bm P A.aO p.2 sl' p.1:=
   nK fun p hp=>wL p.2 p.1 (qG.1 (List.of_mem_zip hp).1)
  cases callee with
  | invoke r m=>rfl
  | builtin b=>
   have cK: ∀x∈args.toList,∀t,bm P A.aO t sl x=bm P A.aO t sl' x:=fun x hx t=>wL t x (qG.1 hx)
   have zZ: ∀t (l:List Operand),(∀x∈l,∀t,bm P A.aO t sl x=bm P A.aO t sl' x)→l.map (bm P A.aO t sl)=l.map (bm P A.aO t sl'):=fun t l h=>nK fun x hx=>h x hx t
   cases b<;>first|rfl|skip
   case append=>
    dsimp only
    generalize args.toList=al at cK
    match al,cK,argTypes.toList with
    | [s,x],cK,[t,u]=>simp only[cK s (by simp),cK x (by simp)]
    | [],_,_=>rfl
    | [_],_,_=>rfl
    | _::_::_::_,_,_=>rfl
    | [_,_],_,[]=>rfl
    | [_,_],_,[_]=>rfl
    | [_,_],_,_::_::_::_=>rfl
   case copy=>
    dsimp only
    generalize args.toList=al at cK
    match al,cK,argTypes.toList with
    | [s,x],cK,[t,u]=>simp only[cK s (by simp),cK x (by simp)]
    | [],_,_=>rfl
    | [_],_,_=>rfl
    | _::_::_::_,_,_=>rfl
    | [_,_],_,[]=>rfl
    | [_,_],_,[_]=>rfl
    | [_,_],_,_::_::_::_=>rfl
   case len=>
    dsimp only
    generalize args.toList=al at cK
    match al,cK,argTypes.toList with
    | [x],cK,[t]=>simp only[cK x (by simp)]
    | [],_,_=>rfl
    | _::_::_,_,_=>rfl
    | [_],_,[]=>rfl
    | [_],_,_::_::_=>rfl
   case clear=>
    dsimp only
    generalize args.toList=al at cK
    match al,cK,argTypes.toList with
    | [x],cK,[t]=>simp only[cK x (by simp)]
    | [],_,_=>rfl
    | _::_::_,_,_=>rfl
    | [_],_,[]=>rfl
    | [_],_,_::_::_=>rfl
   case unsafeSliceData=>
    dsimp only
    generalize args.toList=al at cK
    match al,cK with
    | [],_=>rfl
    | [x],cK=>simp only[cK x (by simp)]
    | _::_::_,_=>rfl
   case unsafeString=>
    dsimp only
    generalize args.toList=al at cK
    match al,cK,argTypes.toList with
    | [s,x],cK,[t,u]=>simp only[cK s (by simp),cK x (by simp)]
    | [],_,_=>rfl
    | [_],_,_=>rfl
    | _::_::_::_,_,_=>rfl
    | [_,_],_,[]=>rfl
    | [_,_],_,[_]=>rfl
    | [_,_],_,_::_::_::_=>rfl
   case max=>
    dsimp only
    generalize args.toList=al at cK
    match al,cK with
    | [],_=>rfl
    | x::l,cK=>simp only[cK x (by simp),zZ ty l (fun y hy=>cK y (by simp[hy]))]
   case min=>
    dsimp only
    generalize args.toList=al at cK
    match al,cK with
    | [],_=>rfl
    | x::l,cK=>simp only[cK x (by simp),zZ ty l (fun y hy=>cK y (by simp[hy]))]
  | value f=>
   cases f<;>first|rfl|skip
   ·rename_i t
    have ht:sl t=sl' t:=h (.tmp t) (by simp[Op.operands,Call.operands]) t rfl
    simp only[hz,ht]
   ·simp only[hz]
    cases hx:args.toList with
    | nil=>rfl
    | cons x l=>
     cases l with
     | cons _ _=>rfl
     | nil=>simp only[wL ty x (qG.1 (by rw[hx];simp))]
 case defer c=>
  obtain ⟨callee,args,argTypes⟩:=c
  cases callee with
  | invoke r m=>rfl
  | builtin b=>rfl
  | value f=>
   cases f<;>first|rfl|skip
   rename_i t
   have ht:sl t=sl' t:=h (.tmp t) (by simp[Op.operands,Call.operands]) t rfl
   simp only[ht]
 case makeFunc fn a b=>
  cases fn<;>first|rfl|skip
  have e1:a.toList.map (bm P A.aO ty sl)=a.toList.map (bm P A.aO ty sl'):=nK fun x hx=>fO ty x (by simp[qG.1 hx])
  have e2:b.toList.map (bm P A.aO ty sl)=b.toList.map (bm P A.aO ty sl'):=nK fun x hx=>fO ty x (by simp[qG.1 hx])
  dsimp only
  rw[e1,e2]
 case makeMap t r=>cases r<;>rfl
 all_goals first
  | rfl
  | (simp[fO];done)
end
section
variable {P:Program} {A:cP} {w w':World} {I I' I2:Nat→Prop} {μ β β':Nat→Option Nat} {hp hp':Nat→Option an} {C:ae} {B:Nat} {M:Nat→Prop} {w0:Start}
theorem NL {q:Nat × an} {upd:List (Nat × an)} (h:q∈upd):q.1∈gJ hp upd:=by
 unfold gJ
 rw[qH]
 refine ⟨q,h,?_⟩
 cases Nat.beq (hX (hp q.1)) (hX (some q.2))<;>simp
theorem agq {upd:List (Nat × an)} (h: ∀q∈upd,hX (hp' q.1)=hX (hp q.1)):gJ hp' upd=gJ hp upd:=by
 unfold gJ
 induction upd with
 | nil=>rfl
 | cons q l ih=>
  rw[g9,g9,ih fun x hx=>h x (mZ _ hx),h q (by simp)]
theorem WR {c:Nat}: ∀{upd:List (Nat × an)},c∉gJ hp upd→wK hp (cd hp upd) c:=fun {upd} h=>by
 refine ⟨zV fun q hq e=>h (e▸NL hq),fun hc=> ?_⟩
 induction upd with
 | nil=>rfl
 | cons q l ih=>
  have hl:c∉gJ hp l:=fun hx=>h (by unfold gJ at*;rw[g9];exact List.mem_append_right _ hx)
  have hq:hX (hp q.1)=hX (some q.2)∨c≠q.1+KB:=by
   cases hb:Nat.beq (hX (hp q.1)) (hX (some q.2)) with
   | true=>exact .inl (BO hb)
   | false=>
    refine .inr fun e=>h ?_
    unfold gJ
    rw[g9,hb,e]
    simp
  show hX (bd (cd hp l) q.1 (some q.2) (c-KB))=_
  simp only[bd]
  cases hb:Nat.beq (c-KB) q.1 with
  | false=>exact ih hl
  | true=>
   have e:=BO hb
   rcases hq with hq|hq
   ·rw[cond_true,e];exact hq.symm
   ·exact absurd (by omega) hq
theorem WS {n i nb:Nat} {ops:Array Oper} {o:Oper} {st st':St} {R W:List Nat} (h:iN P A C n ops i o nb st=some (st',R,W)):
  ∃x upd,st'=⟨jg st.sl o.dst x,cd st.hp upd,st.nb⟩∧W=gJ st.hp upd∧∀eG:St,(∀d∈o.looksAt ops,eG.sl d=st.sl d)→(∀id∈R,wK st.hp eG.hp id)→
   iN P A C n ops i o nb eG=some (⟨jg eG.sl o.dst x,cd eG.hp upd,eG.nb⟩,R,W)∧W=gJ eG.hp upd:=by
 unfold iN at h
 cases hd:uv o n with
 | false=>rw[hd] at h;cases h
 | true=>
  rw[hd] at h
  simp only[cond_true] at h
  have go:(((gq P A st.sl i (nb+64*i) o).run C st.hp).bind fun r=>some ((⟨jg st.sl o.dst r.1.v,cd st.hp r.1.upd,st.nb⟩:St),sE r.2 r.1.upd,gJ st.hp r.1.upd))=some (st',R,W)→
    ∃x upd,st'=⟨jg st.sl o.dst x,cd st.hp upd,st.nb⟩∧W=gJ st.hp upd∧∀eG:St,(∀d∈o.looksAt ops,eG.sl d=st.sl d)→(∀id∈R,wK st.hp eG.hp id)→
     (((gq P A eG.sl i (nb+64*i) o).run C eG.hp).bind fun r=>some ((⟨jg eG.sl o.dst r.1.v,cd eG.hp r.1.upd,eG.nb⟩:St),sE r.2 r.1.upd,gJ eG.hp r.1.upd))=some (⟨jg eG.sl o.dst x,cd eG.hp upd,eG.nb⟩,R,W)∧W=gJ eG.hp upd:=by
   intro h
   obtain ⟨⟨r,rd⟩,h1,h2⟩:=bind_some h
   cases h2
   refine ⟨r.v,r.upd,rfl,rfl,fun eG hs hh=> ?_⟩
   have hw:gJ eG.hp r.upd=gJ st.hp r.upd:=agq fun q hq=>by
    have:=(hh (q.1+KB) (List.mem_append_right _ (dH.2 ⟨q,hq,rfl⟩))).2 (Nat.le_add_left _ _)
    rwa [yS] at this
   rw[ago (sl':=st.sl) fun x hx k hk=> ?_,uO h1 fun c hc=>hh c (List.mem_append_left _ hc)]
   ·refine ⟨?_,hw.symm⟩
    rw[Option.bind_some,hw]
   ·subst hk
    exact hs k (List.mem_append_left _ (List.mem_filterMap.2 ⟨.tmp k,by simpa using hx,rfl⟩))
  cases hg:o.guard with
  | none=>
   rw[hg] at h
   obtain ⟨x,upd,e1,e2,e3⟩:=go h
   refine ⟨x,upd,e1,e2,fun eG hs hh=> ?_⟩
   unfold iN
   simp only[hd,cond_true,hg]
   exact e3 eG hs hh
  | some gw=>
   obtain ⟨g,want⟩:=gw
   rw[hg] at h
   simp only at h
   cases lO:(ops[g]?).bind (·.dst) with
   | none=>rw[lO] at h;cases h
   | some d=>
    rw[lO] at h
    simp only at h
    have NM:d∈o.looksAt ops:=List.mem_append_right _ (by rw[hg];simp[lO])
    cases oc:m9 (st.sl d) with
    | none=>rw[oc] at h;cases h
    | some ob=>
    rw[oc] at h
    cases ob with
    | none=>
     injection h with h
     injection h with h3 h4
     injection h4 with h5 h6
     subst h5;subst h6
     refine ⟨.bJ [],[],h3.symm,rfl,fun eG hs hh=> ?_⟩
     unfold iN
     simp only[hd,cond_true,hg,lO,hs d NM,oc]
     exact ⟨rfl,rfl⟩
    | some b=>
    simp only at h
    cases hb:b==want with
    | true=>
     rw[hb] at h
     obtain ⟨x,upd,e1,e2,e3⟩:=go h
     refine ⟨x,upd,e1,e2,fun eG hs hh=> ?_⟩
     unfold iN
     simp only[hd,cond_true,hg,lO,hs d NM,oc,hb]
     exact e3 eG hs hh
    | false=>
     rw[hb] at h
     simp only[cond_false] at h
     injection h with h
     injection h with h3 h4
     injection h4 with h5 h6
     subst h5;subst h6
     refine ⟨.bJ [],[],h3.symm,rfl,fun eG hs hh=> ?_⟩
     unfold iN
     simp only[hd,cond_true,hg,lO,hs d NM,oc,hb,cond_false]
     exact ⟨rfl,rfl⟩
theorem WU {sl:Nat→V} {d:Option Nat} {x:V} {k:Nat} (h:d≠some k):jg sl d x k=sl k:=by
 cases d with
 | none=>rfl
 | some d=>exact eN _ _ fun e=>h (by rw[e])
theorem agr {hp:Nat→Option an} {a b:List (Nat × an)} (h: ∀q∈a,∀q'∈b,q.1≠q'.1):cd (cd hp a) b=cd (cd hp b) a:=by
 funext id
 by_cases ha: ∃q∈a,q.1=id
 ·have hb: ∀q∈b,q.1≠id:=by
   obtain ⟨q,hq,rfl⟩:=ha
   exact fun q' Df e=>h q hq q' Df e.symm
  rw[zV hb]
  obtain ⟨q,hq,rfl⟩:=ha
  have same: ∀(bM iR:Nat→Option an) (l:List (Nat × an)) (q:Nat × an),q∈l→cd bM l q.1=cd iR l q.1:=by
   intro bM iR l
   induction l with
   | nil=>intro q hq;simp at hq
   | cons p l ih=>
    intro q hq
    simp only[cd,bd]
    cases hb:Nat.beq q.1 p.1 with
    | true=>rfl
    | false=>
     simp only[cond_false]
     refine ih q ((cE.1 hq).resolve_left fun e=> ?_)
     rw[e,kM] at hb;cases hb
  exact same _ _ a q hq
 ·rw[zV (hp:=cd hp b) (l:=a) fun q hq e=>ha ⟨q,hq,e⟩]
  have same: ∀(bM iR:Nat→Option an) (l:List (Nat × an)),bM id=iR id→cd bM l id=cd iR l id:=by
   intro bM iR l he
   induction l with
   | nil=>exact he
   | cons p l ih=>
    simp only[cd,bd]
    cases hb:Nat.beq id p.1 with
    | true=>rfl
    | false=>exact ih
  exact same _ _ b (zV fun q hq e=>ha ⟨q,hq,e⟩)
structure WV (ops:Array Oper) (o1 o2:Oper) (R1 W1 R2 W2:List Nat):Prop where
 apart:Oper.apart ops o1 o2=true
 w: ∀id∈W1,id∉R2∧id∉W2
 r: ∀id∈R1,id∉W2
theorem ags {n i j nb:Nat} {ops:Array Oper} {o1 o2:Oper} {st jW eG:St} {R1 W1 R2 W2:List Nat} (h1:iN P A C n ops i o1 nb st=some (jW,R1,W1)) (h2:iN P A C n ops j o2 nb jW=some (eG,R2,W2))
  (hi:WV ops o1 o2 R1 W1 R2 W2): ∃Io,iN P A C n ops j o2 nb st=some (Io,R2,W2)∧iN P A C n ops i o1 nb Io=some (eG,R1,W1):=by
 obtain ⟨x1,u1,e1,f1,g1⟩:=WS h1
 obtain ⟨x2,u2,e2,f2,g2⟩:=WS h2
 obtain ⟨a1,a2,a3⟩:=Oper.apart_spec hi.apart
 subst e1
 have k2:=g2 st (fun d hd=>by simp only;rw[WU fun e=>a1 d e hd]) fun c hc=>(WR fun hw=>(hi.w c (by rw[f1];exact hw)).1 hc).symm
 refine ⟨_,k2.1,?_⟩
 rw[(g1 _ (fun d hd=> ?_) (fun c hd=> ?_)).1,e2]
 ·congr 3
  ·funext k
   cases Ip:o1.dst with
   | none=>rfl
   | some d1=>
    cases fK:o2.dst with
    | none=>rfl
    | some d2=>
     have bO:d2≠d1:=fun e=>a2 d1 Ip (by rw[fK,e])
     simp only[jg,bd]
     cases mw:Nat.beq k d1<;>cases kA:Nat.beq k d2<;>simp only[cond_true,cond_false]
     rw[bq] at mw kA
     exact absurd (kA.symm.trans mw) bO
  ·exact (agr fun q hq q' Df e=>(hi.w q.1 (by rw[f1];exact NL hq)).2 (by rw[f2,e];exact NL Df)).symm
 ·simp only
  rw[WU fun e=>a3 d e hd]
 ·exact WR fun hw=>hi.r c hd (by rw[k2.2];exact hw)
def z5 (P:Program) (A:cP) (C:ae) (n:Nat) (ops:Array Oper) (nb:Nat):List (Nat × Oper × List Nat × List Nat)→St→St→Prop
 | [],st,st'=>st=st'
 | (i,o,R,W)::l,st,st'=> ∃jW,iN P A C n ops i o nb st=some (jW,R,W)∧z5 P A C n ops nb l jW st'
def wM (x:Nat × Oper × List Nat × List Nat):Nat × List Nat × List Nat:=(x.1,x.2.2.1,x.2.2.2)
theorem WW {n nb:Nat} {ops:Array Oper}: ∀{l:List (Nat × Oper)} {st st':St} {log Iq:Log},qT P A C n ops nb l st log=some (st',Iq)→
  ∃g,g.map (fun x=>(x.1,x.2.1))=l∧Iq=log++g.map wM∧z5 P A C n ops nb g st st'
 | [],st,st',log,Iq,h=>by
  cases h
  exact ⟨[],rfl,by simp,rfl⟩
 | (i,o)::l,st,st',log,Iq,h=>by
  obtain ⟨⟨jW,R,W⟩,h1,h2⟩:=bind_some h
  obtain ⟨g,a,b,c⟩:=WW h2
  exact ⟨(i,o,R,W)::g,by simp[a],by simp[b,wM],jW,h1,c⟩
def WX (ops:Array Oper) (x y:Nat × Oper × List Nat × List Nat):Prop:=WV ops x.2.1 y.2.1 x.2.2.1 x.2.2.2 y.2.2.1 y.2.2.2
theorem WY {n nb:Nat} {ops:Array Oper} {y:Nat × Oper × List Nat × List Nat} {g2:List (Nat × Oper × List Nat × List Nat)}: ∀{g1:List (Nat × Oper × List Nat × List Nat)} {st st':St},
  z5 P A C n ops nb (g1++y::g2) st st'→(∀x∈g1,WX ops x y)→∃jW,iN P A C n ops y.1 y.2.1 nb st=some (jW,y.2.2.1,y.2.2.2)∧z5 P A C n ops nb (g1++g2) jW st'
 | [],st,st',h,_=>h
 | x::g1,st,st',h,hi=>by
  obtain ⟨jW,h1,h2⟩:=h
  obtain ⟨eG,h3,h4⟩:=WY h2 fun z hz=>hi z (mZ _ hz)
  obtain ⟨Io,h5,h6⟩:=ags h1 h3 (hi x (by simp))
  exact ⟨Io,h5,eG,h6,h4⟩
theorem WZ (hC:mu P A C) (hP:jt P A) {n nb:Nat} {ops:Array Oper} {Q:Exit→Act→World→Prop}: ∀{g:List (Nat × Oper × List Nat × List Nat)} {st st':St} {a:Act} {w:World} {I:Nat→Prop} {β:Nat→Option Nat},
  z5 P A C n ops nb g st st'→(∀x∈g,ops[x.1]? =some x.2.1)→aQ P w I β st.hp B M w0→jV P A.idle A.aO w I β n a st→
  (∀a' w' I' β',Le P w I β st.hp w' I' β' st'.hp→aQ P w' I' β' st'.hp B M w0→jV P A.idle A.aO w' I' β' n a' st'→Q .normal a' w')→wpOps P ops Q (g.map (·.1)) a w
 | [],st,st',a,w,I,β,h,_,S,hA,hQ=>by
  cases h
  exact hQ a w I β (Le.refl w I β _) S hA
 | x::g,st,st',a,w,I,β,h,ho,S,hA,hQ=>by
  obtain ⟨jW,h1,h2⟩:=h
  rw[dw,wpOps_cons]
  refine WO hC hP (ho x (by simp)) S hA h1 fun a' w' I' β' k1 k2 k3=> ?_
  exact WZ hC hP h2 (fun y hy=>ho y (mZ _ hy)) k2 k3 fun a2 w2 I2 cC m1 m2 m3=>hQ a2 w2 I2 cC (k1.trans m1) m2 m3
end
section
variable {P:Program} {A:cP} {w w':World} {I I' I2:Nat→Prop} {μ β β':Nat→Option Nat} {hp hp':Nat→Option an} {C:ae} {B:Nat} {M:Nat→Prop} {w0:Start}
inductive wO (ops:Array Oper):Nat→Nat→Prop
 | W0 {i x:Nat} {o:Oper} {e:Edge}:ops[i]? =some o→e∈o.after→Region.binds .any e=true→e.on=x→wO ops i x
 | trans {i x:Nat} {o:Oper} {e:Edge}:ops[i]? =some o→e∈o.after→Region.binds .any e=true→wO ops e.on x→wO ops i x
theorem W3 {acc:Array Nat} {x:Nat}: ∀{l:List Edge} {s:Nat},(l.foldl (fun s e=>if Region.binds .any e then s|||2^e.on|||acc.getD e.on 0 else s) s).testBit x=true→
  s.testBit x=true∨∃e∈l,Region.binds .any e=true∧(e.on=x∨(acc.getD e.on 0).testBit x=true)
 | [],s,h=> .inl h
 | e::l,s,h=>by
  simp only[List.foldl_cons] at h
  rcases W3 h with h1|⟨e',a,b⟩
  ·by_cases hb:Region.binds .any e=true
   ·rw[ai hb,gF,gF,nL,nL] at h1
    rcases h1 with (h1|h1)|h1
    ·exact .inl h1
    ·rw[lp] at h1
     exact .inr ⟨e,by simp,hb,.inl (by simpa using h1)⟩
    ·exact .inr ⟨e,by simp,hb,.inr h1⟩
   ·rw[aj hb] at h1
    exact .inl h1
  ·exact .inr ⟨e',mZ _ a,b⟩
theorem W4 {ops:Array Oper} {x:Nat}: ∀{l:List Oper} {acc:Array Nat},(∀j o,l[j]? =some o→ops[acc.size+j]? =some o)→(∀j,(acc.getD j 0).testBit x=true→wO ops j x)→
  ∀j,((l.foldl (fun acc o=>acc.push (o.after.foldl (fun s e=>if Region.binds .any e then s|||2^e.on|||acc.getD e.on 0 else s) 0)) acc).getD j 0).testBit x=true→wO ops j x
 | [],acc,_,Ir,j,h=>Ir j h
 | o::l,acc,hl,Ir,j,h=>by
  simp only[List.foldl_cons] at h
  refine W4 (l:=l) ?_ ?_ j h
  ·intro j o' hj
   have:=hl (j+1) o' (by simpa using hj)
   rw[Array.size_push]
   rwa [show acc.size+1+j=acc.size+(j+1) by omega]
  ·intro k hk
   simp only[yT,Array.getElem?_push] at hk
   by_cases bD:k=acc.size
   ·rw[ai bD] at hk
    simp only[Option.getD_some] at hk
    rw[←GI] at hk
    have ho:=hl 0 o rfl
    rw[Nat.add_zero] at ho
    rw[bD]
    have kA:(o.after.toList.foldl (fun s e=>if Region.binds .any e then s|||2^e.on|||acc.getD e.on 0 else s) 0).testBit x=true:=by simpa[yT] using hk
    rcases W3 kA with h0|⟨e,he,hb,h1⟩
    ·simp at h0
    ·rcases h1 with h1|h1
     ·exact .W0 ho (qG.1 he) hb h1
     ·exact .trans ho (qG.1 he) hb (Ir _ h1)
   ·rw[aj bD] at hk
    exact Ir k (by simpa[yT] using hk)
theorem agt {ops:Array Oper} {i x:Nat} (h:((Region.before ops).getD i 0).testBit x=true):wO ops i x:=by
 unfold Region.before at h
 rw[←GI] at h
 refine W4 (l:=ops.toList) (acc:= #[]) (fun j o hj=>by simpa using hj) (fun j hj=>by simp at hj) i h
def W5 (ops:Array Oper) (listed:Array Bool):Prop:= ∀i o,ops[i]? =some o→listed.getD i false=true→∀e∈o.after,Region.binds .any e=true→listed.getD e.on false=true
theorem agu {ops:Array Oper} {listed:Array Bool} (hc:W5 ops listed) {i x:Nat} (h:wO ops i x) (hi: ∀o,ops[i]? =some o→∀e∈o.after,Region.binds .any e=true→listed.getD e.on false=true):listed.getD x false=true:=by
 induction h with
 | W0 ho he hb hx=>rw[←hx];exact hi _ ho _ he hb
 | trans ho he hb _ ih=>exact ih fun o' nS e' wz aI=>hc _ o' nS (hi _ ho _ he hb) e' wz aI
theorem W6: ∀{l:List Oper} {k j:Nat} {o:Oper},Co k l=true→l[j]? =some o→∀e∈o.after,Region.binds .any e=true→e.on<k+j
 | [],k,j,o,_,h=>by simp at h
 | o'::l,k,j,o,hk,h=>by
  simp only[Co,aT] at hk
  cases j with
  | zero=>
   simp at h
   subst h
   intro e he hb
   have:=gn.1 hk.1 e (qG.2 he)
   simp[hb] at this
   omega
  | succ j=>
   intro e he hb
   have:=W6 hk.2 (j:=j) (by simpa using h) e he hb
   omega
theorem W7 {ops:Array Oper} {vU:Array Nat}: ∀{l:Log},Hh ops vU l=true→l.Pairwise fun x y=>Cn ops vU x y=true
 | [],_=> .nil
 | x::l,h=>by
  simp only[Hh,aT] at h
  exact .cons (fun y hy=>gn.1 h.1 y hy) (W7 h.2)
theorem W8 {listed:Array Bool} {i:Nat} (h:listed.getD i true=false):i<listed.size∧listed.getD i false=false:=by
 rcases tV i listed.size with h'|h'
 ·refine ⟨h',?_⟩
  simpa[h'] using h
 ·simp[Array.getElem?_eq_none h'] at h
theorem W9 (hC:mu P A C) (hP:jt P A) {n nb:Nat} {ops:Array Oper} {Q:Exit→Act→World→Prop} (Is:Co 0 ops.toList=true):
  ∀(fuel:Nat) {g:List (Nat × Oper × List Nat × List Nat)} {listed:Array Bool} {st st':St} {a:Act} {w:World} {I:Nat→Prop} {β:Nat→Option Nat},
  g.length=fuel→z5 P A C n ops nb g st st'→(∀x∈g,ops[x.1]? =some x.2.1)→(g.map (·.1)).Pairwise (· < ·)→(g.map wM).Pairwise (fun x y=>Cn ops (Region.before ops) x y=true)→
  listed.size=ops.size→(∀i,i<ops.size→(listed.getD i false=false↔i∈g.map (·.1)))→W5 ops listed→
  aQ P w I β st.hp B M w0→jV P A.idle A.aO w I β n a st→
  (∀a' w' I' β',Le P w I β st.hp w' I' β' st'.hp→aQ P w' I' β' st'.hp B M w0→jV P A.idle A.aO w' I' β' n a' st'→Q .normal a' w')→wpAny P .any ops Q fuel listed a w
 | 0,g,listed,st,st',a,w,I,β,hf,hr,ho,aR,It,bw,wP,nn,S,hA,hQ=>by
  obtain rfl:g=[]:=mY hf
  cases hr
  refine ⟨?_,hQ a w I β (Le.refl w I β _) S hA⟩
  rw[List.eq_nil_iff_forall_not_mem]
  intro i hi
  obtain ⟨h0,_⟩:=mem_ready.1 hi
  obtain ⟨h1,h2⟩:=W8 h0
  have:=(wP i (by omega)).1 h2
  simp at this
 | fuel+1,g,listed,st,st',a,w,I,β,hf,hr,ho,aR,It,bw,wP,nn,S,hA,hQ=>by
  refine ⟨fun Dh=> ?_,fun i hi=> ?_⟩
  ·exfalso
   cases g with
   | nil=>simp at hf
   | cons x g=>
    have hx:=ho x (by simp)
    have iG:x.1<ops.size:=(jd.1 hx).1
    have fM:x.1∈Region.ready .any ops listed:=by
     rw[mem_ready]
     have h0:=(wP x.1 iG).2 (by simp)
     refine ⟨?_,x.2.1,hx,fun e he hb=> ?_⟩
     ·have hl:x.1<listed.size:=by omega
      simpa[hl] using h0
     ·have M1:=W6 Is (j:=x.1) (by simpa using hx) e he hb
      rw[je] at M1
      cases hle:listed.getD e.on false with
      | true=>rfl
      | false=>
       have hm:=(wP e.on (by omega)).1 hle
       simp only[dw,cE] at hm
       rw[dw,qI] at aR
       rcases hm with hm|hm
       ·omega
       ·have:=aR.1 _ hm;omega
    rw[Dh] at fM
    cases fM
  ·obtain ⟨h0,oi,Dj,wQ⟩:=mem_ready.1 hi
   obtain ⟨h1,h2⟩:=W8 h0
   have hig:=(wP i (by omega)).1 h2
   obtain ⟨y,hy,hyi⟩:=dH.1 hig
   obtain ⟨g1,g2,rfl⟩:=List.append_of_mem hy
   subst hyi
   have Xa:=ho y hy
   rw[Dj] at Xa
   have Xb:oi=y.2.1:=dh Xa
   have kz:((g1++y::g2).map (·.1)).Nodup:=aR.imp fun h=>Nat.ne_of_lt h
   have agv: ∀x∈g1,WX ops x y:=by
    intro x hx
    have hp:Cn ops (Region.before ops) (wM x) (wM y)=true:=by
     rw[kO,dw,GM] at It
     exact It.2.2 _ (dH.2 ⟨x,hx,rfl⟩) _ (by simp)
    have Xc:=ho x (dp.2 (.inl hx))
    unfold Cn at hp
    rw[nL] at hp
    rcases hp with hp|hp
    ·have hl:=agu nn (agt hp) fun o nS e he hb=>by
      have:o=oi:=by
       have h3:ops[y.1]? =some o:=nS
       rw[Dj] at h3
       exact (dh h3).symm
      subst this
      exact wQ e he hb
     have iG:x.1<ops.size:=(jd.1 Xc).1
     have:=(wP x.1 iG).2 (dH.2 ⟨x,dp.2 (.inl hx),rfl⟩)
     rw[show (wM x).1=x.1 from rfl,this] at hl
     cases hl
    ·simp only[wM,yT,Xc,Dj,Option.getD_some,aT,l7] at hp
     obtain ⟨q1,q2,q3⟩:=hp
     refine ⟨Xb▸q1,fun id af=> ?_,fun id af=>Ig q3 af⟩
     have:=Ig q2 af
     rw[dp] at this
     exact ⟨fun h=>this (.inl h),fun h=>this (.inr h)⟩
   obtain ⟨jW,jO,np⟩:=WY hr agv
   rw[←Xb] at jO
   refine WO hC hP Dj S hA jO fun a' w' I' β' k1 k2 k3=> ?_
   have lJ:List.Sublist (g1++g2) (g1++y::g2):=List.Sublist.append_left (List.sublist_cons_self y g2) g1
   have vX: ∀j,j≠y.1→(listed.setIfInBounds y.1 true).getD j false=listed.getD j false:=fun j hj=>getD_set_ne false (Ne.symm hj)
   refine W9 hC hP Is fuel (g:=g1++g2) (st':=st') ?_ np (fun x hx=>ho x (lJ.subset hx)) (aR.sublist (lJ.map _)) (It.sublist (lJ.map _)) (by simp[bw]) (fun j hj=> ?_) (fun j o NN cy e he hb=> ?_) k2 k3 fun a2 w2 I2 cC m1 m2 m3=>hQ a2 w2 I2 cC (k1.trans m1) m2 m3
   ·simp at hf⊢;omega
   ·by_cases ra:j=y.1
    ·subst ra
     have hl:y.1<listed.size:=by omega
     simp only[yT,LW hl,Option.getD_some]
     refine ⟨fun h=>(by cases h),fun h=> ?_⟩
     exfalso
     rw[kO,dw,vM,oD] at kz
     rw[kO,dp] at h
     rcases h with h|h
     ·exact kz.2.2 _ h _ (by simp) rfl
     ·exact kz.2.1.1 h
    ·rw[vX j ra,wP j hj]
     simp only[kO,dw,dp,cE]
     constructor
     ·rintro (h|h|h)
      ·exact .inl h
      ·exact absurd h ra
      ·exact .inr h
     ·rintro (h|h)
      ·exact .inl h
      ·exact .inr (.inr h)
   ·by_cases ra:j=y.1
    ·subst ra
     rw[Dj] at NN
     cases NN
     exact getD_set_true (wQ e he hb)
    ·rw[vX j ra] at cy
     exact getD_set_true (nn j o NN cy e he hb)
end
section
variable {P:Program} {A:cP} {w w':World} {I I' I2:Nat→Prop} {μ β β':Nat→Option Nat} {hp hp':Nat→Option an} {C:ae} {B:Nat} {M:Nat→Prop} {w0:Start}
theorem Xd: ∀{l:List Oper} {k j:Nat},(pL k l)[j]? =(l[j]?).map fun o=>(k+j,o)
 | [],k,j=>by simp[pL]
 | o::l,k,0=>by simp[pL]
 | o::l,k,j+1=>by
  simp only[pL,List.getElem?_cons_succ,Xd]
  congr 1
  funext o
  rw[show k+1+j=k+(j+1) by omega]
theorem Xe: ∀{l:List Oper} {k:Nat},(pL k l).map (·.1)=List.range' k l.length
 | [],k=>rfl
 | o::l,k=>by simp[pL,Xe,List.range'_succ]
theorem agw (hC:mu P A C) (hP:jt P A) (hm:P.follows .mixedOrders=true) {n id:Nat} {ops:Array Oper} {draw:Bool} {st st':St} {a:Act} {Q:Exit→Act→World→Prop}
  (h:zn P A C n ops draw st=some st') (S:aQ P w I β st.hp B M w0) (hA:jV P A.idle A.aO w I β n a st)
  (hQ: ∀a' w' I' β',Le P w I β st.hp w' I' β' st'.hp→aQ P w' I' β' st'.hp B M w0→jV P A.idle A.aO w' I' β' n a' st'→Q .normal a' w'):(Code.region id ops draw).wp P Q a w:=by
 obtain ⟨⟨jW,log⟩,h1,h2⟩:=bind_some h
 obtain ⟨g,g1,g2,g3⟩:=WW h1
 have Iu:g.map (·.1)=List.range ops.size:=by
  have:g.map (·.1)=(g.map fun x=>(x.1,x.2.1)).map (·.1):=by simp
  rw[this,g1,Xe,List.range_eq_range']
  simp
 have Iv: ∀x∈g,ops[x.1]? =some x.2.1:=by
  intro x hx
  have:(x.1,x.2.1)∈pL 0 ops.toList:=by rw[←g1];exact dH.2 ⟨x,hx,rfl⟩
  obtain ⟨j,hj⟩:=List.mem_iff_getElem?.1 this
  rw[Xd] at hj
  cases ho:ops.toList[j]? with
  | none=>rw[ho] at hj;cases hj
  | some o=>
   rw[ho] at hj
   simp only[Option.map_some,je,eb,lq] at hj
   rw[←hj.1,←hj.2]
   simpa using ho
 cases draw with
 | false=>
  simp only[sj,Bool.true_or,cond_true] at h2
  cases h2
  refine wp_region ?_
  rw[←Iu]
  exact WZ hC hP g3 Iv S hA hQ
 | true=>
  simp only[pC,Bool.false_or] at h2
  cases hc:(Region.noSelect ops&&Cp ops log) with
  | false=>rw[hc] at h2;cases h2
  | true=>
   rw[hc] at h2
   cases h2
   simp only[aT,Cp] at hc
   obtain ⟨hns,Is,agx⟩:=hc
   simp only[List.nil_append] at g2
   refine wp_region_any hm ?_
   have hlen:g.length=ops.size:=by
    have:=congrArg List.length Iu
    simpa using this
   refine W9 hC hP Is ops.size (g:=g) (st':=st') hlen g3 Iv (by rw[Iu];exact List.pairwise_lt_range) (by rw[←g2];exact W7 agx) (by simp) (fun i hi=> ?_) (fun i o ho hl=> ?_)
    (w:=w.drew) S.drew ⟨fun k=>(hA.sl k).mono (Le.drew w I β _),hA.size,hA.defers,hA.aO.mono (Le.drew (P:=P) w I β st.hp).dN (Le.drew (P:=P) w I β st.hp).cl⟩ fun a' w' I' β' k1 k2 k3=>hQ a' w' I' β' ((Le.drew w I β _).trans k1) k2 k3
   ·rw[Iu]
    simp[hi]
   ·have hi:=(jd.1 ho).1
    simp[hi] at hl
end
section
variable {P:Program} {A:cP} {E:FuncId→Bool} {G:Nat→V} {w w':World} {I I' I2:Nat→Prop} {μ β β':Nat→Option Nat} {hp hp':Nat→Option an} {C:ae} {B:Nat} {M:Nat→Prop} {w0:Start}
theorem wR: ∀{l:List Nat} {hp:Nat→Option an} {I:Nat→Prop},aQ P w I β hp B M w0→∃I',Le P w I β hp w I' β (vT hp l)∧aQ P w I' β (vT hp l) B M w0
 | [],hp,I,S=>⟨I,Le.refl w I β hp,S⟩
 | id::l,hp,I,S=>by
  simp only[vT]
  cases af:hp id with
  | none=>exact wR S
  | some blk=>
   cases blk with
   | dead=>exact wR S
   | var _=>exact wR S
   | map _ _=>exact wR S
   | arr e es fz=>
    obtain ⟨h1,h2⟩:=CD S (upd:=[(id,.arr e es true)]) (fun p hp=>by
     simp only[df] at hp
     subst hp
     exact ⟨e,es,rfl,.inl ⟨fz,af⟩⟩)
    obtain ⟨I',h3,h4⟩:=wR (l:=l) h2
    exact ⟨I',h1.trans h3,h4⟩
   | nest e es av=>
    obtain ⟨h1,h2⟩:=CD S (upd:=[(id,.arr e es true)]) (fun p hp=>by
     simp only[df] at hp
     subst hp
     exact ⟨e,es,rfl,.inr ⟨av,af⟩⟩)
    obtain ⟨I',h3,h4⟩:=wR (l:=l) h2
    exact ⟨I',h1.trans h3,h4⟩
theorem Xf {n m:Nat} {pur:List Nat} {a:Act} {st:St} (S:aQ P w I β st.hp B M w0) (hA:jV P E G w I β n a st):
  ∃I',Le P w I β st.hp w I' β (freeze m pur st).hp∧aQ P w I' β (freeze m pur st).hp B M w0∧jV P E G w I' β n a (freeze m pur st):=by
 obtain ⟨I',h1,h2⟩:=wR (l:=(UL st pur).filter fun id=>Nat.ble m id) S
 exact ⟨I',h1,h2,fun k=>(hA.sl k).mono h1,hA.size,hA.defers,hA.aO.mono h1.dN h1.cl⟩
structure z6 (hp:Nat→Option an) (β:Nat→Option Nat) (ord:List Nat) (hp':Nat→Option an) (β':Nat→Option Nat):Prop where
 arr: ∀(j:Nat) id e es fz,ord[j]? =some id→hp id=some (.arr e es fz)→hp' j=some (.arr e es fz)
 var: ∀(j:Nat) id T cs,ord[j]? =some id→hp id=some (.var T cs)→∃jr,hp' j=some (.var T jr)
 dead: ∀(j:Nat) id,ord[j]? =some id→hp id=some .dead→hp' j=some .dead
 place: ∀(j:Nat) id,ord[j]? =some id→β' j=β id
 nest: ∀(j:Nat) id e es av,ord[j]? =some id→hp id=some (.nest e es av)→hp' j=some (.nest e es (av.map fun _=>0))
 map: ∀(j:Nat) id t es,ord[j]? =some id→hp id=some (.map t es)→hp' j=some (.map t es)
theorem nr: ∀{l:List Nat} {n i j:Nat},jh l n i=some j→∃k,j=i+k∧l[k]? =some n
 | [],n,i,j,h=>by cases h
 | a::l,n,i,j,h=>by
  simp only[jh] at h
  cases hb:Nat.beq n a with
  | true=>
   rw[hb] at h
   cases h
   rw[bq] at hb
   exact ⟨0,rfl,by rw[hb];rfl⟩
  | false=>
   rw[hb] at h
   obtain ⟨k,h1,h2⟩:=nr h
   exact ⟨k+1,by omega,by simpa using h2⟩
def my (hp':Nat→Option an) (β':Nat→Option Nat) (n:Nat) (bs:List an):Prop:=
 ∀(k:Nat) b,bs[k]? =some b→hp' (n+k)=some b∧β' (n+k)=none
theorem NO: ∀(av:List Nat) (k:Nat),bU (av.map fun _=>0) k=0
 | [],_=>rfl
 | _::_,0=>rfl
 | _::vs,k+1=>NO vs k
theorem Xg {e:TypeId} {es:List V} {av:List Nat} {path:Path} {ver:Nat} (hc:(Nat.blt 0 path.length&&(Nat.ble path.length av.length&&Nat.beq (bU av (path.length-1)) ver))=true)
  (h:(an.nest e es av).vY path ver):False:=by
 simp only[aT,ll,fa,bq] at hc
 obtain ⟨h1,h2,h3⟩:=hc
 rcases h with h|h|h
 ·subst h;simp at h1
 ·omega
 ·omega
theorem Xh (S:aQ P w I β hp B M w0) {ord:List Nat} (hR:z6 hp β ord hp' β') {v:Value} {x:V} (hv:aq P w I β hp v x):aq P w I β' hp' v (ji hp ord x):=by
 cases hv with
 | undef=>exact .undef
 | int=>exact .int
 | bool=>exact .bool
 | str h=>exact .str h
 | list h=>exact .list h
 | nilS=>exact .nilS
 | agg=>exact .undef
 | bJ=>exact .undef
 | dW=>exact .dW
 | fn=>exact .undef
 | pref a b c=>exact .pref a b c
 | @eL _ e id af=>
  simp only[ji]
  cases bM:jh ord id 0 with
  | none=>simp only[af];exact .undef
  | some j=>
   obtain ⟨k,rfl,hk⟩:=nr bM
   exact .eL (hR.dead _ id (by simpa using hk) af)
 | @ia _ e id off len af=>
  simp only[ji]
  cases bM:jh ord id 0 with
  | none=>simp only[af];exact .undef
  | some j=>
   obtain ⟨k,rfl,hk⟩:=nr bM
   exact .ia (hR.dead _ id (by simpa using hk) af)
 | @lE _ id i c af=>
  simp only[ji]
  cases bM:jh ord id 0 with
  | none=>exact .undef
  | some j=>
   obtain ⟨k,rfl,hk⟩:=nr bM
   exact .lE (hR.dead _ id (by simpa using hk) af)
 | @eo e id fz _ af hb=>
  simp only[ji]
  cases bM:jh ord id 0 with
  | none=>
   simp only[af]
   cases fz with
   | false=>exact .undef
   | true=>simp only[kM,cond_true];exact .list (.any fun _=>rfl)
  | some j=>
   obtain ⟨k,rfl,hk⟩:=nr bM
   have dP:ord[0+k]? =some id:=by simpa using hk
   exact .eo (hR.arr _ id _ _ _ dP af) ((hR.place _ id dP).trans hb)
 | @whole e id es fz b cap af hb bw cG hm=>
  simp only[ji]
  cases bM:jh ord id 0 with
  | none=>
   simp only[af]
   cases fz with
   | false=>exact .undef
   | true=>
    simp only[kM,cond_true]
    have hr:=S.h.rel id _ af
    cases hr with
    | ep aI=>rw[aI] at hb;cases hb
    | arr aw aI hh hs hf eM hx=>
     rw[hb] at aI;cases aI
     have:=v9 (I':=I) (off:=0) (len:=es.length) (o:=0) hh hx (gu aw) (by omega) cG (fun _=>by simp) (fun _ h=>h) (hf rfl)
     exact .list (by simpa using this)
  | some j=>
   obtain ⟨k,rfl,hk⟩:=nr bM
   have dP:ord[0+k]? =some id:=by simpa using hk
   exact .whole (hR.arr _ id _ _ _ dP af) ((hR.place _ id dP).trans hb) bw cG hm
 | @gN e id fz _ af hb=>
  simp only[ji]
  cases bM:jh ord id 0 with
  | none=>
   simp only[af]
   cases fz with
   | false=>exact .undef
   | true=>simp only[kM,cond_true];exact .list (by simpa using (jK.any (P:=P) fun _=>rfl))
  | some j=>
   obtain ⟨k,rfl,hk⟩:=nr bM
   have dP:ord[0+k]? =some id:=by simpa using hk
   exact .gN (hR.arr _ id _ _ _ dP af) ((hR.place _ id dP).trans hb)
 | @sub e id off len es fz b o cap af hb lG cG ho=>
  simp only[ji]
  cases bM:jh ord id 0 with
  | none=>
   simp only[af]
   cases fz with
   | false=>exact .undef
   | true=>
    simp only[kM,cond_true]
    have hr:=S.h.rel id _ af
    cases hr with
    | ep aI=>rw[aI] at hb;cases hb
    | arr aw aI hh hs hf eM hx=>
     rw[hb] at aI;cases aI
     exact .list (v9 (I':=I) hh hx (gu aw) lG cG ho (fun _ h=>h) (hf rfl))
  | some j=>
   obtain ⟨k,rfl,hk⟩:=nr bM
   have dP:ord[0+k]? =some id:=by simpa using hk
   exact .sub (hR.arr _ id _ _ _ dP af) ((hR.place _ id dP).trans hb) lG cG ho
 | @ptr id i c b blk af hd hb=>
  simp only[ji]
  cases bM:jh ord id 0 with
  | none=>exact .undef
  | some j=>
   obtain ⟨k,rfl,hk⟩:=nr bM
   have dP:ord[0+k]? =some id:=by simpa using hk
   cases blk with
   | dead=>exact absurd rfl hd
   | var T0 cs=>
    obtain ⟨jr,h'⟩:=hR.var _ id T0 cs dP af
    exact .ptr (blk:= .var T0 jr) h' (by simp) ((hR.place _ id dP).trans hb)
   | arr e es fz=>exact .ptr (blk:= .arr e es fz) (hR.arr _ id _ _ _ dP af) (by simp) ((hR.place _ id dP).trans hb)
   | nest e es av=>exact .ptr (blk:= .nest e es (av.map fun _=>0)) (hR.nest _ id _ _ _ dP af) (by simp) ((hR.place _ id dP).trans hb)
   | map t es=>exact .ptr (blk:= .map t es) (hR.map _ id _ _ dP af) (by simp) ((hR.place _ id dP).trans hb)
 | ec=>exact .ec
 | @jm _ t id af=>
  simp only[ji]
  cases bM:jh ord id 0 with
  | none=>exact .undef
  | some j=>
   obtain ⟨k,rfl,hk⟩:=nr bM
   exact .jm (hR.dead _ id (by simpa using hk) af)
 | @cZ t id b es af hb=>
  simp only[ji]
  cases bM:jh ord id 0 with
  | none=>exact .undef
  | some j=>
   obtain ⟨k,rfl,hk⟩:=nr bM
   have dP:ord[0+k]? =some id:=by simpa using hk
   exact .cZ (hR.map _ id _ _ dP af) ((hR.place _ id dP).trans hb)
 | @eU e id es av b cap af hb bw cG hm=>
  simp only[ji]
  cases bM:jh ord id 0 with
  | none=>simp only[af];exact .undef
  | some j=>
   obtain ⟨k,rfl,hk⟩:=nr bM
   have dP:ord[0+k]? =some id:=by simpa using hk
   exact .eU (hR.nest _ id _ _ _ dP af) ((hR.place _ id dP).trans hb) bw cG hm
 | @kR v e id ver path blk af CA=>
  simp only[ji]
  split
  ·rename_i j e1 cN av h1 h2
   rw[af] at h2
   cases h2
   cases hc:(Nat.blt 0 path.length&&(Nat.ble path.length av.length&&Nat.beq (bU av (path.length-1)) ver)) with
   | false=>exact .undef
   | true=>exact (Xg hc CA).elim
  ·exact .undef
 | @kS v id ver i c path blk af CA=>
  simp only[ji]
  split
  ·rename_i j e1 cN av h1 h2
   rw[af] at h2
   cases h2
   cases hc:(Nat.blt 0 path.length&&(Nat.ble path.length av.length&&Nat.beq (bU av (path.length-1)) ver)) with
   | false=>exact .undef
   | true=>exact (Xg hc CA).elim
  ·exact .undef
 | @row v e e0 t id ver b i c q es l av af hb hq hv ht hc=>
  simp only[ji]
  split
  ·rename_i j e1 cN wJ h1 h2
   obtain ⟨k,rfl,hk⟩:=nr h1
   have dP:ord[0+k]? =some id:=by simpa using hk
   cases hx:(Nat.blt 0 (q++[(i,c)]).length&&(Nat.ble (q++[(i,c)]).length wJ.length&&Nat.beq (bU wJ ((q++[(i,c)]).length-1)) ver)) with
   | false=>exact .undef
   | true=>exact .row (hR.nest _ id _ _ _ dP af) ((hR.place _ id dP).trans hb) (by simpa using hq) (NO _ _) ht hc
  ·exact .undef
 | @cY e e0 t id ver b b1 len cap i0 c0 i c q es l av af hb hq hv ht nR hc=>
  simp only[ji]
  split
  ·rename_i j e1 cN wJ h1 h2
   obtain ⟨k,rfl,hk⟩:=nr h1
   have dP:ord[0+k]? =some id:=by simpa using hk
   cases hx:(Nat.blt 0 (q++[(i0,c0)]).length&&(Nat.ble (q++[(i0,c0)]).length wJ.length&&Nat.beq (bU wJ ((q++[(i0,c0)]).length-1)) ver)) with
   | false=>exact .undef
   | true=>exact .cY (hR.nest _ id _ _ _ dP af) ((hR.place _ id dP).trans hb) (by simpa using hq) (NO _ _) ht nR hc
  ·exact .undef
theorem Xi (S:aQ P w I β hp B M w0) {ord:List Nat} (hR:z6 hp β ord hp' β') {vs:Array Value} {xs:List V} (h: ∀(j:Nat) v x,vs[j]? =some v→xs[j]? =some x→aq P w I β hp v x) (j:Nat) (v:Value) (y:V)
  (hv:vs[j]? =some v) (hy:(xs.map (ji hp ord))[j]? =some y):aq P w I β' hp' v y:=by
 rw[fI] at hy
 cases hx:xs[j]? with
 | none=>rw[hx] at hy;cases hy
 | some x=>rw[hx] at hy;cases hy;exact Xh S hR (h j v x hv hx)
theorem Xj (S:aQ P w I β hp B M w0) {ord:List Nat} (hR:z6 hp β ord hp' β') {n:Nat} {v:Value} {x:V} (hv:aq P w I β hp v x) (hF:my hp' β' n (zl hp ord n x).2):
  aq P w I β' hp' v (zl hp ord n x).1:=by
 cases x with
 | nilS e=>
  obtain ⟨h1,h2⟩:=hF 0 _ rfl
  cases hv with
  | nilS=>exact .eo h1 h2
 | fn f a b=>
  cases hv with
  | fn q1 q2 q3 q4=>exact .fn (by simpa using q1) (Xi S hR q2) (by simpa using q3) (Xi S hR q4)
 | _=>exact Xh S hR hv
end
section
variable {P:Program} {A:cP} {w w':World} {I I' I2:Nat→Prop} {μ β β':Nat→Option Nat} {hp hp':Nat→Option an} {C:ae} {B:Nat} {M:Nat→Prop} {w0:Start}
theorem my.left {n:Nat} {a b:List an} (h:my hp' β' n (a++b)):my hp' β' n a:=fun k x hx=>
 h k x (by rw[ln (bL.1 hx).1];exact hx)
theorem my.right {n:Nat} {a b:List an} (h:my hp' β' n (a++b)):my hp' β' (n+a.length) b:=fun k x hx=>by
 have:=h (a.length+k) x (by rw[jG (by omega),Nat.add_sub_cancel_left];exact hx)
 rwa [←pB] at this
def od (bs:List an):Prop:= ∀b∈bs,∃e,b= .arr e [] false
theorem od.app {a b:List an} (h1:od a) (h2:od b):od (a++b):=fun x hx=>(dp.1 hx).elim (h1 x) (h2 x)
theorem od.nil:od []:=fun x hx=>by simp at hx
theorem Xk {ord:List Nat} {n:Nat} {x:V}:od (zl hp ord n x).2:=by
 cases x<;>simp only[zl]<;>first|exact .nil|skip
 intro b hb
 simp only[df] at hb
 exact ⟨_,hb⟩
theorem NP {ord:List Nat}: ∀{xs:List V} {n:Nat},od (oI hp ord n xs).2
 | [],n=> .nil
 | x::xs,n=>by
  simp only[oI]
  exact Xk.app NP
theorem Iw {ord:List Nat}: ∀{xs:List V} {n:Nat},(oI hp ord n xs).1.length=xs.length
 | [],n=>rfl
 | x::xs,n=>by simp only[oI,List.length_cons,Iw]
theorem Ix (S:aQ P w I β hp B M w0) {ord:List Nat} (hR:z6 hp β ord hp' β'): ∀{xs:List V} {vs:List Value} {n:Nat},(∀(j:Nat) v x,vs[j]? =some v→xs[j]? =some x→aq P w I β hp v x)→
  my hp' β' n (oI hp ord n xs).2→∀(j:Nat) v y,vs[j]? =some v→(oI hp ord n xs).1[j]? =some y→aq P w I β' hp' v y
 | [],vs,n,h,hF,j,v,y,hv,hy=>by simp[oI] at hy
 | x::xs,vs,n,h,hF,j,v,y,hv,hy=>by
  simp only[oI] at hF hy
  cases j with
  | zero=>
   simp at hy
   subst hy
   exact Xj S hR (h 0 v x hv rfl) hF.left
  | succ j=>
   cases vs with
   | nil=>simp at hv
   | cons v0 vs=>exact Ix S hR (vs:=vs) (fun j v x hj hx=>h (j+1) v x (by simpa using hj) (by simpa using hx)) hF.right j v y (by simpa using hv) (by simpa using hy)
theorem agy {ord:List Nat} {n:Nat} {x:V}:od (sD hp ord n x).2:=by
 cases x<;>simp only[sD]<;>first|exact Xk|exact NP
theorem agz (S:aQ P w I β hp B M w0) {ord:List Nat} (hR:z6 hp β ord hp' β') {n:Nat} {v:Value} {x:V} (hv:aq P w I β hp v x) (hF:my hp' β' n (sD hp ord n x).2):
  aq P w I β' hp' v (sD hp ord n x).1:=by
 cases x with
 | agg cs=>
  obtain ⟨ds,rfl,h1,h2⟩:=hv.mj
  simp only[sD] at hF⊢
  exact .agg (by rw[Iw];exact h1) fun j v y hj hy=>Ix S hR (vs:=ds.toList) (fun j v x hj hx=>h2 j v x (by simpa using hj) hx) hF j v y (by simpa using hj) hy
 | bJ cs=>
  obtain ⟨ds,rfl,h1,h2⟩:=hv.wg
  simp only[sD] at hF⊢
  exact .bJ (by rw[Iw];exact h1) fun j v y hj hy=>Ix S hR (vs:=ds.toList) (fun j v x hj hx=>h2 j v x (by simpa using hj) hx) hF j v y (by simpa using hj) hy
 | _=>exact Xj S hR hv hF
theorem Xl {ord:List Nat} {sl:Nat→V}: ∀{l:List Nat} {n:Nat},od (nd hp ord sl n l).2
 | [],n=> .nil
 | s::l,n=>by
  simp only[nd]
  exact agy.app Xl
theorem Xm {ord:List Nat} {sl:Nat→V} {k:Nat} {y:V}: ∀{l:List Nat} {n:Nat},my hp' β' n (nd hp ord sl n l).2→en (nd hp ord sl n l).1 k=some y→
  ∃n',my hp' β' n' (sD hp ord n' (sl k)).2∧y=(sD hp ord n' (sl k)).1
 | [],n,_,h=>by cases h
 | s::l,n,hF,h=>by
  simp only[nd] at hF h
  simp only[en] at h
  cases hb:Nat.beq k s with
  | true=>
   rw[hb] at h
   rw[bq] at hb
   subst hb
   cases h
   exact ⟨n,hF.left,rfl⟩
  | false=>
   rw[hb] at h
   exact Xm hF.right h
theorem agA {ord:List Nat} {n id:Nat}:od (fJ hp ord n id).2:=by
 unfold fJ
 split
 ·exact NP
 ·exact .nil
 ·exact .nil
 ·exact .nil
 ·exact .nil
theorem Xn {ord:List Nat}: ∀{l:List Nat} {n:Nat},od (gr hp ord n l).2
 | [],n=> .nil
 | s::l,n=>by
  simp only[gr]
  exact agA.app Xn
theorem Xo {ord:List Nat}: ∀{l:List Nat} {n:Nat},(gr hp ord n l).1.length=l.length
 | [],n=>rfl
 | x::xs,n=>by simp only[gr,List.length_cons,Xo]
theorem Xp {ord:List Nat}: ∀{l:List Nat} {n j:Nat} {id:Nat},l[j]? =some id→∃n',(my hp' β' n (gr hp ord n l).2→my hp' β' n' (fJ hp ord n' id).2)∧(gr hp ord n l).1[j]? =some (fJ hp ord n' id).1
 | [],n,j,id,h=>by simp at h
 | s::l,n,j,id,h=>by
  simp only[gr]
  cases j with
  | zero=>
   simp at h
   subst h
   exact ⟨n,fun hF=>hF.left,rfl⟩
  | succ j=>
   obtain ⟨n',h1,h2⟩:=Xp (n:=n+(fJ hp ord n s).2.length) (j:=j) (by simpa using h)
   exact ⟨n',fun hF=>h1 hF.right,by simpa using h2⟩
theorem Iy: ∀{l acc:List Nat},∃t,vS hp acc l=acc++t∧(acc.Nodup→(acc++t).Nodup)
 | [],acc=>⟨[],by simp[vS],by simp⟩
 | id::l,acc=>by
  simp only[vS]
  cases hb:(lu acc id|| !(UK hp id)) with
  | true=>exact Iy
  | false=>
   obtain ⟨t,h1,h2⟩:=Iy (l:=l) (acc:=acc++[id])
   refine ⟨id::t,by simp only[cond_false,h1,da,List.singleton_append],fun hn=> ?_⟩
   have:acc++id::t=(acc++[id])++t:=by simp
   rw[this]
   refine h2 ?_
   rw[vM]
   refine ⟨hn,by simp,fun a ha b aI=> ?_⟩
   simp only[df] at aI
   subst aI
   intro e
   subst e
   rw[zB ha] at hb
   cases hb
theorem Xq: ∀{n:Nat} {l:List Nat},∃t,grow hp n l=l++t∧(l.Nodup→(l++t).Nodup)
 | 0,l=>⟨[],by simp[grow],by simp⟩
 | n+1,l=>by
  simp only[grow]
  obtain ⟨t,h1,h2⟩:=Iy (hp:=hp) (acc:=l) (l:=l.flatMap (Mh hp))
  rw[h1]
  obtain ⟨t',h3,h4⟩:=Xq (n:=n) (l:=l++t)
  exact ⟨t++t',by rw[h3,da],fun hn=>by rw[←da];exact h4 (h2 hn)⟩
theorem agB {m:Nat} {live:List Nat} {st:St}: ∃t,Mi m live st=List.range m++t∧(List.range m++t).Nodup:=by
 unfold Mi
 obtain ⟨t,h1,h2⟩:=Iy (hp:=st.hp) (acc:=List.range m) (l:=live.flatMap fun s=>Mg (st.sl s))
 rw[h1]
 obtain ⟨t',h3,h4⟩:=Xq (hp:=st.hp) (n:=3) (l:=List.range m++t)
 exact ⟨t++t',by rw[h3,da],by rw[←da];exact h4 (h2 List.nodup_range)⟩
end
section
variable {P:Program} {A:cP} {E:FuncId→Bool} {G:Nat→V} {w w':World} {I I' I2:Nat→Prop} {μ β β':Nat→Option Nat} {hp hp' hp0:Nat→Option an} {C:ae} {B:Nat} {M:Nat→Prop} {w0:Start}
theorem Xr {n m:Nat} {ord live:List Nat} {a:Act} {st:St} (oP:ord.Nodup) (Dk: ∀id,id<m→ord[id]? =some id∨∃p,ord[id]? =some p∧st.hp p=none) (S:aQ P w I β st.hp B M w0) (hA:jV P E G w I β n a st) (hE:mr w0.w w0.I μ hp0 w I β st.hp) (hm: ∀id blk,hp0 id=some blk→id<m) (kB: ∀id e es av,hp0 id=some (.nest e es av)→∀k,bU av k=0):
  ∃β',aQ P w I β' (zm ord live st).hp B M w0∧jV P E G w I β' n a (zm ord live st)∧mr w0.w w0.I μ hp0 w I β' (zm ord live st).hp:=by
 have agC:zm ord live st=mk (nd st.hp ord st.sl (ord.length+(gr st.hp ord ord.length ord).2.length) live).1
   ((gr st.hp ord ord.length ord).1++((gr st.hp ord ord.length ord).2++(nd st.hp ord st.sl (ord.length+(gr st.hp ord ord.length ord).2.length) live).2)):=by
  rfl
 rw[agC]
 let hp':=kQ ((gr st.hp ord ord.length ord).1++((gr st.hp ord ord.length ord).2++(nd st.hp ord st.sl (ord.length+(gr st.hp ord ord.length ord).2.length) live).2))
 let β':Nat→Option Nat:=fun j=>if j<ord.length then (ord[j]?).bind β else none
 have hlen:(gr st.hp ord ord.length ord).1.length=ord.length:=Xo
 have iH: ∀j,j<ord.length→hp' j=(gr st.hp ord ord.length ord).1[j]? :=by
  intro j hj
  simp only[hp',iU]
  rw[ln (by omega)]
 have gP: ∀k,hp' (ord.length+k)=((gr st.hp ord ord.length ord).2++(nd st.hp ord st.sl (ord.length+(gr st.hp ord ord.length ord).2.length) live).2)[k]? :=by
  intro k
  simp only[hp',iU]
  rw[jG (by omega),hlen,Nat.add_sub_cancel_left]
 have hF:my hp' β' ord.length ((gr st.hp ord ord.length ord).2++(nd st.hp ord st.sl (ord.length+(gr st.hp ord ord.length ord).2.length) live).2):=by
  intro k b hb
  refine ⟨(gP k).trans hb,?_⟩
  simp only[β']
  rw[aD]
 have Dh:od ((gr st.hp ord ord.length ord).2++(nd st.hp ord st.sl (ord.length+(gr st.hp ord ord.length ord).2.length) live).2):=Xn.app Xl
 have pY: ∀(j:Nat) id,ord[j]? =some id→β' j=β id:=by
  intro j id hj
  simp only[β']
  rw[ai (bL.1 hj).1,hj]
  rfl
 have s8: ∀(j:Nat) id,ord[j]? =some id→∃n',my hp' β' n' (fJ st.hp ord n' id).2∧hp' j=some (fJ st.hp ord n' id).1:=by
  intro j id hj
  obtain ⟨n',h1,h2⟩:=Xp (hp:=st.hp) (hp':=hp') (β':=β') (ord:=ord) (n:=ord.length) hj
  exact ⟨n',h1 hF.left,(iH j (bL.1 hj).1).trans h2⟩
 have hR:z6 st.hp β ord hp' β':=by
  refine ⟨fun j id e es fz hj af=> ?_,fun j id T cs hj af=> ?_,fun j id hj af=> ?_,pY,fun j id e es av hj af=> ?_,fun j id t es hj af=> ?_⟩
  ·obtain ⟨n',_,h2⟩:=s8 j id hj
   rw[h2];simp only[fJ,af]
  ·obtain ⟨n',_,h2⟩:=s8 j id hj
   rw[h2];simp only[fJ,af];exact ⟨_,rfl⟩
  ·obtain ⟨n',_,h2⟩:=s8 j id hj
   rw[h2];simp only[fJ,af]
  ·obtain ⟨n',_,h2⟩:=s8 j id hj
   rw[h2];simp only[fJ,af]
  ·obtain ⟨n',_,h2⟩:=s8 j id hj
   rw[h2];simp only[fJ,af]
 have cls: ∀j blk',hp' j=some blk'→(∃id,ord[j]? =some id∧((blk'= .dead)∨∃blk,st.hp id=some blk∧blk≠ .dead∧∀o b,bN P w o blk' b→bN P w o blk b))∨(∃e,blk'= .arr e [] false∧β' j=none):=by
  intro j blk' hj
  rcases tV j ord.length with h|h
  ·have gO:=cq h
   obtain ⟨n',_,h2⟩:=s8 j _ gO
   rw[hj] at h2
   refine .inl ⟨_,gO,?_⟩
   cases af:st.hp ord[j] with
   | none=>left;simp only[fJ,af] at h2;exact dh h2
   | some blk=>
    cases blk with
    | dead=>left;simp only[fJ,af] at h2;exact dh h2
    | var T0 cs=>exact .inr ⟨_,rfl,by simp,fun o b h=>by simp only[fJ,af] at h2;rw[dh h2] at h;exact .root (by simp) (h.flat (by simp))⟩
    | arr e es fz=>exact .inr ⟨_,rfl,by simp,fun o b h=>by simp only[fJ,af] at h2;rw[dh h2] at h;exact .root (by simp) (h.flat (by simp))⟩
    | map t es=>exact .inr ⟨_,rfl,by simp,fun o b h=>by simp only[fJ,af] at h2;rw[dh h2] at h;exact .root (by simp) (h.flat (by simp))⟩
    | nest e es av=>
     refine .inr ⟨_,rfl,by simp,fun o b h=> ?_⟩
     simp only[fJ,af] at h2
     rw[dh h2] at h
     cases h with
     | root _ h=>exact .root (by simp) h
     | row h1 h2=>exact .row h1 h2
  ·obtain ⟨k,rfl⟩: ∃k,j=ord.length+k:=⟨j-ord.length,by omega⟩
   rw[gP] at hj
   obtain ⟨e,he⟩:=Dh _ (kN hj)
   exact .inr ⟨e,he,(hF k _ hj).2⟩
 refine ⟨β',⟨⟨fun j blk' hj=> ?_,fun j1 j2 b1 b2 b e1 e2 f1 f2=> ?_,fun j blk b e1 f1=> ?_,S.h.kT⟩,S.cl,S.size,S.new,S.io⟩,⟨fun k=> ?_,hA.size,hA.defers,hA.aO⟩,⟨hE.dN,hE.cl,fun id blk af=> ?_,fun id blk blk' b af bV hd hb=> ?_⟩⟩
 ·change hp' j=some blk' at hj
  rcases tV j ord.length with h|h
  ·have gO:=cq h
   obtain ⟨n',Xs,h2⟩:=s8 j _ gO
   rw[hj] at h2
   rw[pY j _ gO]
   cases af:st.hp ord[j] with
   | none=>simp only[fJ,af] at h2;rw[dh h2];exact .dead
   | some blk=>
    have hr:=S.h.rel _ _ af
    generalize β ord[j]=o at hr
    cases hr with
    | dead=>simp only[fJ,af] at h2;rw[dh h2];exact .dead
    | ep hb=>simp only[fJ,af] at h2;rw[dh h2];exact .ep hb
    | arr a1 a2 a3 a4 a5 a6 a7=>simp only[fJ,af] at h2;rw[dh h2];exact .arr a1 a2 a3 a4 a5 a6 a7
    | nest a1 a2 a3=>simp only[fJ,af] at h2;rw[dh h2];exact .nest a1 a2 a3
    | map a1 a2 a3 a4 a5 a6 a7=>simp only[fJ,af] at h2;rw[dh h2];exact .map a1 a2 a3 a4 a5 a6 a7
    | @var xs b Ca T hb hh hs dj hx ic=>
     simp only[fJ,af] at h2 Xs
     rw[dh h2]
     exact .var hb hh (by rw[Iw];exact hs) dj (fun i v y hi hy=>Ix S hR (vs:=Ca.toList) (fun i v x hi cT=>hx i v x (by simpa using hi) cT) Xs i v y (by simpa using hi) hy) ic
  ·rcases cls j blk' hj with ⟨id,af,_⟩|⟨e,he,hb⟩
   ·have:=(bL.1 af).1;omega
   ·rw[he];exact .ep hb
 ·rcases cls j1 b1 e1 with ⟨NQ,o1,x1⟩|⟨e,_,hb⟩
  ·rcases cls j2 b2 e2 with ⟨cU,o2,x2⟩|⟨e,_,hb⟩
   ·obtain ⟨c1,y1,z1,g1⟩:=x1.resolve_left f1.alive
    obtain ⟨c2,y2,z2,g2⟩:=x2.resolve_left f2.alive
    rw[pY _ _ o1] at f1
    rw[pY _ _ o2] at f2
    have:=S.h.inj NQ cU c1 c2 b y1 y2 (g1 _ _ f1) (g2 _ _ f2)
    subst this
    obtain ⟨q1,q2⟩:=bL.1 o1
    obtain ⟨q3,q4⟩:=bL.1 o2
    exact (List.getElem_inj oP).1 (q2.trans q4.symm)
   ·subst ‹b2=_›;have:=f2.flat (by simp);rw[hb] at this;cases this
  ·subst ‹b1=_›;have:=f1.flat (by simp);rw[hb] at this;cases this
 ·rcases cls j blk e1 with ⟨NQ,o1,x1⟩|⟨e,_,hb⟩
  ·obtain ⟨c1,y1,z1,g1⟩:=x1.resolve_left f1.alive
   rw[pY _ _ o1] at f1
   exact S.h.own NQ c1 b y1 (g1 _ _ f1)
  ·subst ‹blk=_›;have:=f1.flat (by simp);rw[hb] at this;cases this
 ·change aq P w I β' hp' (a.tmps.getD k undef) (ko _ k)
  unfold ko
  cases Nu:en (nd st.hp ord st.sl (ord.length+(gr st.hp ord ord.length ord).2.length) live).1 k with
  | none=>exact .undef
  | some y=>
   obtain ⟨n',h1,h2⟩:=Xm hF.right Nu
   simp only[Option.getD_some,h2]
   exact agz S hR (hA.sl k) h1
 ·obtain ⟨s4,k1,k2,k3⟩:=hE.blk id blk af
  rcases Dk id (hm id blk af) with ho|⟨p,ho,bM⟩
  ·cases s4 with
   | dead=>exact ⟨.dead,hR.dead id id ho k1,k2,fun h=>absurd rfl h⟩
   | var T0 cs=>
    obtain ⟨jr,h'⟩:=hR.var id id T0 cs ho k1
    refine ⟨_,h',?_,fun _=>(pY id id ho).trans (k3 (by simp))⟩
    cases blk<;>simp_all [an.le]
   | arr e es fz=>exact ⟨_,hR.arr id id e es fz ho k1,k2,fun _=>(pY id id ho).trans (k3 (by simp))⟩
   | map t es=>exact ⟨_,hR.map id id t es ho k1,k2,fun _=>(pY id id ho).trans (k3 (by simp))⟩
   | nest e es av=>
    refine ⟨_,hR.nest id id e es av ho k1,?_,fun _=>(pY id id ho).trans (k3 (by simp))⟩
    obtain ⟨Mp,aem,rfl,l1,l2,_⟩:=an.Mn k2
    exact ⟨rfl,l1,by simpa using l2,fun k=>by rw[kB id _ _ _ af k];exact fS _⟩
  ·obtain ⟨n',_,h2⟩:=s8 id p ho
   simp only[fJ,bM] at h2
   exact ⟨.dead,h2,by cases blk<;>trivial,fun h=>absurd rfl h⟩
 ·obtain ⟨s4,k1,k2,k3⟩:=hE.blk id blk af
  rcases Dk id (hm id blk af) with ho|⟨p,ho,bM⟩
  ·refine hE.size id blk s4 b af k1 (fun s7=> ?_) hb
   subst s7
   have:=hR.dead id id ho k1
   change hp' id=some blk' at bV
   rw[this] at bV
   exact hd (dh bV).symm
  ·obtain ⟨n',_,h2⟩:=s8 id p ho
   simp only[fJ,bM] at h2
   change hp' id=some blk' at bV
   rw[h2] at bV
   exact absurd (dh bV).symm hd
theorem agD {n m:Nat} {live:List Nat} {a:Act} {st:St} (S:aQ P w I β st.hp B M w0) (hA:jV P E G w I β n a st) (hE:mr w0.w w0.I μ hp0 w I β st.hp) (hm: ∀id blk,hp0 id=some blk→id<m) (kB: ∀id e es av,hp0 id=some (.nest e es av)→∀k,bU av k=0):
  ∃β',aQ P w I β' (canon m live st).hp B M w0∧jV P E G w I β' n a (canon m live st)∧mr w0.w w0.I μ hp0 w I β' (canon m live st).hp:=by
 obtain ⟨t,Dk,oP⟩:=agB (m:=m) (live:=live) (st:=st)
 refine Xr (by rw[Dk];exact oP) (fun id aR=> .inl ?_) S hA hE hm kB
 rw[Dk,ln (by simpa using aR)]
 simp[aR]
theorem Xt: ∀{l:List Nat},pK l=true→l.Nodup
 | [],_=> .nil
 | a::l,h=>by
  simp only[pK,aT,l7] at h
  rw[oD]
  exact ⟨fun hm=>Bool.noConfusion ((zB hm).symm.trans h.1),Xt h.2⟩
theorem agE {m:Nat} {mv:List Nat} {id:Nat} (h:id<m):(nO m mv)[id]? =some id∨(nO m mv)[id]? =some (m+id):=by
 unfold nO
 rw[ln (by simpa using h),fI]
 simp only[GN h,Option.map_some]
 cases lu mv id with
 | true=>exact .inr rfl
 | false=>exact .inl rfl
end
section
variable {P:Program} {A:cP} {w w':World} {I I' I2:Nat→Prop} {μ β β':Nat→Option Nat} {hp hp' hp0:Nat→Option an} {C:ae} {B:Nat} {M:Nat→Prop} {w0:Start}
theorem Iz (p:Nat→Prop) (h: ∃n,p n): ∃n,p n∧∀m,p m→n≤m:=by
 obtain ⟨n,hn⟩:=h
 induction n using Nat.strongRecOn with
 | _ n ih=>
  by_cases hx: ∃m,m<n∧p m
  ·obtain ⟨m,hm,hp⟩:=hx
   exact ih m hm hp
  ·exact ⟨n,hn,fun m hm=>Nat.le_of_not_lt fun aR=>hx ⟨m,aR,hm⟩⟩
open Classical in
theorem agF {c:Code} {Q:Exit→Act→World→Prop} (J:Nat→Act→World→Prop) (h0: ∀a w,¬J 0 a w) (round: ∀n a w,J (n+1) a w→c.wp P (Exit.then (J n) Q) a w) {n:Nat} {a:Act} {w:World} (h:J n a w):
  (Code.loop c).wp P Q a w:=by
 refine wp_loop (fun a w=> ∃n,J n a w) (fun a w=>if h: ∃n,J n a w then (Iz _ h).choose else 0) ⟨n,h⟩ fun a w hJ=> ?_
 obtain ⟨h1,h2⟩:=(Iz _ hJ).choose_spec
 generalize hk:(Iz _ hJ).choose=k at h1 h2
 cases k with
 | zero=>exact absurd h1 (h0 a w)
 | succ k=>
  refine wp_mono (round k a w h1) fun e a' w' he=> ?_
  cases e with
  | normal=>
   have hex: ∃n,J n a' w':=⟨k,he⟩
   refine ⟨hex,?_⟩
   have h3:=(Iz _ hex).choose_spec.2 k he
   rw[tU hex,tU hJ,hk]
   omega
  | _=>exact he
def z7:Out→Exit
 | .norm=> .normal
 | .exit id=> .exit id
 | .ret=> .ret
def Inv (P:Program) (E:FuncId→Bool) (G:Nat→V) (B:Nat) (M:Nat→Prop) (w0:Start) (μ:Nat→Option Nat) (hp0:Nat→Option an) (n:Nat) (a:Act) (w:World) (st:St):Prop:=
 ∃I β,aQ P w I β st.hp B M w0∧jV P E G w I β n a st∧mr w0.w w0.I μ hp0 w I β st.hp
theorem Inv.canon {E:FuncId→Bool} {G:Nat→V} {n m:Nat} {a:Act} {st:St} {live:List Nat} (h:Inv P E G B M w0 μ hp0 n a w st) (hm: ∀id blk,hp0 id=some blk→id<m) (kB: ∀id e es av,hp0 id=some (.nest e es av)→∀k,bU av k=0):Inv P E G B M w0 μ hp0 n a w (canon m live st):=by
 obtain ⟨I,β,S,hA,hE⟩:=h
 obtain ⟨β',a,b,c⟩:=agD (live:=live) S hA hE hm kB
 exact ⟨I,β',a,b,c⟩
theorem IA: ∀{l:List BS} {ds:List V},(fq l ds).length=l.length
 | [],_=>rfl
 | b::l,ds=>by simp only[fq,List.length_cons,IA]
theorem Inv.enter {A:cP} {E:FuncId→Bool} {G:Nat→V} {n f:Nat} {ds:List V} {a:Act} (kz:pK (nO (A.sin f).cA.length (A.mv f))=true) (h:Inv P E G B M w0 μ hp0 n a w (bH (A.sin f) ds)) (hm: ∀id blk,hp0 id=some blk→id<(A.sin f).cA.length)
  (kB: ∀id e es av,hp0 id=some (.nest e es av)→∀k,bU av k=0) (z8: ∀p,(A.sin f).cA.length≤p→(bH (A.sin f) ds).hp p=none):Inv P E G B M w0 μ hp0 n a w (Cq A f ds):=by
 unfold Cq
 split
 ·exact h
 ·obtain ⟨I,β,S,hA,hE⟩:=h
  obtain ⟨β',x,y,z⟩:=Xr (m:=(A.sin f).cA.length) (ord:=nO (A.sin f).cA.length (A.mv f)) (live:=(A.sin f).bR.map (·.1)) (Xt kz) (fun id af=>(agE af).imp (fun h=>h) fun h=>⟨_,h,z8 _ (by omega)⟩) S hA hE hm kB
  exact ⟨I,β',x,y,z⟩
theorem Inv.reshape {E:FuncId→Bool} {G:Nat→V} {n m:Nat} {a:Act} {st:St} {S:Shape} {ds:List V} (h:Inv P E G B M w0 μ hp0 n a w st) (hs:jJ m S st=some ds) (hm: ∀id blk,hp0 id=some blk→id<m):Inv P E G B M w0 μ hp0 n a w (bH S ds):=by
 obtain ⟨I,β,S1,hA,hE⟩:=h
 obtain ⟨r1,r2,_,r4⟩:=AM.reshape hs S1
 refine ⟨I,β,r1,⟨fun k=>r2 k _ (hA.sl k),hA.size,hA.defers,hA.aO⟩,⟨hE.dN,hE.cl,fun id blk af=> ?_,fun id blk blk' b af bV hd hb=> ?_⟩⟩
 ·obtain ⟨s4,k1,k2,k3⟩:=hE.blk id blk af
  obtain ⟨_,hle,_⟩:=Wc hs
  have hl:=hm id blk af
  obtain ⟨cB,h2⟩: ∃cB,(bH S ds).hp id=some cB:=by
   simp only[bH,mk,iU]
   exact ⟨_,cq (by rw[IA];omega)⟩
  by_cases hd:cB= .dead
  ·subst hd
   exact ⟨_,h2,by cases blk<;>trivial,fun h=>absurd rfl h⟩
  ·obtain ⟨iQ,e1,e2,_⟩:=r4 id cB h2 hd
   rw[k1] at e1;cases e1
   exact ⟨_,h2,an.le_trans k2 e2,fun _=>k3 (fun e=>hd (an.qU (e▸e2)))⟩
 ·obtain ⟨iQ,e1,e2,_⟩:=r4 id blk' bV hd
  exact hE.size id blk iQ b af e1 (fun e=>hd (an.qU (e▸e2))) hb
theorem mu.here (h:mu P A C) (f:Nat) (id:Nat):mu P (A.here f id) C:=by
 intro key ds es hh
 obtain ⟨fn,c,h1,h2,h3⟩:=h key ds es hh
 refine ⟨fn,c,h1,h2,fun w I μ vals a g b d=>(h3 w I μ vals a g b d).mono fun e w' hx=> ?_⟩
 obtain ⟨v,I2,cC,q1,q2⟩:=hx
 exact ⟨v,I2,cC,q1,⟨q2.zS,q2.le,q2.res⟩⟩
theorem agG {a b:Out} (h:Hi a b=true):a=b:=by
 cases a<;>cases b<;>simp[Hi] at h<;>first|rfl|(subst h;rfl)
theorem Xu {m:Nat} {r:Out × St}: ∀{l:List (Out × Shape)} {j:Nat} {e:Nat × List V},ways m j l r=some e→j≤e.1
 | [],j,e,h=>by cases h
 | (o,S)::l,j,e,h=>by
  simp only[ways] at h
  split at h
  ·cases h;exact bC _
  ·have:=Xu h;omega
theorem NR {m:Nat} {o:Out} {s:St} {out:Out} {st':St}: ∀{l:List (Out × Shape)} {k:Nat} {e:Nat × List V},ways m k l (o,s)=some e→lC k l e.1 e.2 (fun o st=>some (o,st))=some (out,st')→
  out=o∧∃S,jJ m S s=some e.2∧st'=bH S e.2
 | [],k,e,h,_=>by cases h
 | (o',S)::l,k,e,h,h2=>by
  simp only[ways] at h
  split at h
  ·rename_i ds hx
   cases h
   cases ho:Hi o' o with
   | false=>rw[ho] at hx;cases hx
   | true=>
    rw[ho] at hx
    have:=agG ho
    subst this
    cases l with
    | nil=>
     simp only[lC,eb,lq] at h2
     exact ⟨h2.1.symm,S,hx,h2.2.symm⟩
    | cons p l=>
     simp only[lC,kM,cond_true,eb,lq] at h2
     exact ⟨h2.1.symm,S,hx,h2.2.symm⟩
  ·have rb:=Xu h
   cases l with
   | nil=>cases h
   | cons p l=>
    have bO:Nat.beq e.1 k=false:=by
     cases hb:Nat.beq e.1 k with
     | false=>rfl
     | true=>rw[bq] at hb;omega
    simp only[lC,bO,cond_false] at h2
    exact NR h h2
theorem agH (hC:mu P A C) (hP:jt P A) (oZ:P.follows .mixedOrders=true) {f n m:Nat} (hm: ∀id blk,hp0 id=some blk→id<m) (kB: ∀id e es av,hp0 id=some (.nest e es av)→∀k,bU av k=0):
  ∀(c:Code) {st st':St} {out:Out} {Q:Exit→Act→World→Prop} {a:Act} {w:World},exec P A C f n m c st=some (out,st')→Inv P A.idle A.aO B M w0 μ hp0 n a w st→
   (∀a' w',Inv P A.idle A.aO B M w0 μ hp0 n a' w' st'→Q (z7 out) a' w')→c.wp P Q a w:=by
 intro c
 induction c with
 | skip=>
  intro st st' out Q a w h hI hQ
  simp only[exec,eb,lq] at h
  obtain ⟨rfl,rfl⟩:=h
  exact wp_skip (hQ a w hI)
 | exit id=>
  intro st st' out Q a w h hI hQ
  simp only[exec,eb,lq] at h
  obtain ⟨rfl,rfl⟩:=h
  exact wp_exit (hQ a w hI)
 | ret=>
  intro st st' out Q a w h hI hQ
  simp only[exec,eb,lq] at h
  obtain ⟨rfl,rfl⟩:=h
  exact wp_ret (hQ a w hI)
 | region id ops draw=>
  intro st st' out Q a w h hI hQ
  simp only[exec] at h
  obtain ⟨jW,h1,h2⟩:=bind_some h
  simp only[eb,lq] at h2
  obtain ⟨rfl,rfl⟩:=h2
  obtain ⟨I,β,S,hA,hE⟩:=hI
  refine agw (hC.here f id) (hP.here f id) oZ h1 S hA fun a' w' I' β' k1 k2 k3=> ?_
  obtain ⟨I2,l1,l2,l3⟩:=Xf (m:=m) (pur:=A.pur f id) k2 k3
  have hE2:=(hE.trans k1.Ie).trans l1.Ie
  exact hQ a' w' (Inv.canon ⟨I2,β',l2,l3,hE2⟩ hm kB)
 | seq x y gK gL=>
  intro st st' out Q a w h hI hQ
  simp only[exec] at h
  obtain ⟨⟨o1,jW⟩,h1,h2⟩:=bind_some h
  refine wp_seq (gK h1 hI fun a' w' kY=> ?_)
  cases o1 with
  | norm=>exact gL h2 kY hQ
  | exit id=>
   simp only[eb,lq] at h2
   obtain ⟨rfl,rfl⟩:=h2
   exact hQ a' w' kY
  | ret=>
   simp only[eb,lq] at h2
   obtain ⟨rfl,rfl⟩:=h2
   exact hQ a' w' kY
 | cond c x y gK gL=>
  intro st st' out Q a w h hI hQ
  cases c with
  | tmp t=>
   have go: ∀{st st':St} {out:Out} {Q:Exit→Act→World→Prop} {a:Act} {w:World},(match st.sl t with
     | .bool b=>(bif b then exec P A C f n m x st else exec P A C f n m y st).bind fun r=>
      match r.1 with
      | .norm=>some (.norm,AM.canon m (A.join f t) r.2)
      | _=>some r
     | _=>none)=some (out,st')→Inv P A.idle A.aO B M w0 μ hp0 n a w st→(∀a' w',Inv P A.idle A.aO B M w0 μ hp0 n a' w' st'→Q (z7 out) a' w')→(Code.cond (.tmp t) x y).wp P Q a w:=by
    intro st st' out Q a w h hI hQ
    cases hs:st.sl t<;>rw[hs] at h<;>simp only at h<;>first|(cases h;done)|skip
    rename_i b
    obtain ⟨⟨o1,jW⟩,h1,h2⟩:=bind_some h
    obtain ⟨I,β,S,hA,hE⟩:=hI
    have fO:a.eval (.tmp t)= .bool b:=by
     have:=WM hA hs
     simp[Act.eval,this]
    have fin: ∀a' w',Inv P A.idle A.aO B M w0 μ hp0 n a' w' jW→Q (z7 o1) a' w':=by
     intro a' w' kY
     cases o1 with
     | norm=>
      simp only[eb,lq] at h2
      obtain ⟨rfl,rfl⟩:=h2
      exact hQ a' w' (kY.canon hm kB)
     | exit id=>
      simp only[eb,lq] at h2
      obtain ⟨rfl,rfl⟩:=h2
      exact hQ a' w' kY
     | ret=>
      simp only[eb,lq] at h2
      obtain ⟨rfl,rfl⟩:=h2
      exact hQ a' w' kY
    refine wp_cond fO ?_
    cases b with
    | true=>exact gK h1 ⟨I,β,S,hA,hE⟩ fin
    | false=>exact gL h1 ⟨I,β,S,hA,hE⟩ fin
   simp only[exec] at h
   split at h
   ·exact go h hI hQ
   ·obtain ⟨ds,h1,h2⟩:=bind_some h
    obtain ⟨e,h3,h4⟩:=bind_some h2
    obtain ⟨⟨o1,s1⟩,h5,h6⟩:=bind_some h3
    obtain ⟨rfl,S',k1,rfl⟩:=NR h6 h4
    exact go h5 (hI.reshape h1 hm) fun a' w' kY=>hQ a' w' (kY.reshape k1 hm)
  | const v=>
   cases v with
   | bool b=>
    simp only[exec] at h
    refine wp_cond (t:=b) rfl ?_
    cases b with
    | true=>exact gK h hI hQ
    | false=>exact gL h hI hQ
   | _=>simp only[exec] at h;cases h
  | _=>simp only[exec] at h;cases h
 | block id c ih=>
  intro st st' out Q a w h hI hQ
  simp only[exec] at h
  obtain ⟨⟨o1,jW⟩,h1,h2⟩:=bind_some h
  refine wp_block (ih h1 hI fun a' w' kY=> ?_)
  cases o1 with
  | norm=>
   simp only[eb,lq] at h2
   obtain ⟨rfl,rfl⟩:=h2
   exact hQ a' w' (kY.canon hm kB)
  | exit aN=>
   simp only at h2
   cases hb:Nat.beq aN id with
   | true=>
    rw[hb] at h2
    simp only[cond_true,eb,lq] at h2
    obtain ⟨rfl,rfl⟩:=h2
    rw[bq] at hb
    simp only[z7,Exit.inBlock,hb,cL]
    exact hQ a' w' (kY.canon hm kB)
   | false=>
    rw[hb] at h2
    simp only[cond_false,eb,lq] at h2
    obtain ⟨rfl,rfl⟩:=h2
    have bO:aN≠id:=fun e=>by rw[e,kM] at hb;cases hb
    simp only[z7,Exit.inBlock,bO,ga]
    exact hQ a' w' kY
  | ret=>
   simp only[eb,lq] at h2
   obtain ⟨rfl,rfl⟩:=h2
   exact hQ a' w' kY
 | loop c ih=>
  intro st st' out Q a w h hI hQ
  simp only[exec] at h
  split at h
  ·cases h
  ·rename_i S hS
   obtain ⟨ds,h1,h2⟩:=bind_some h
   obtain ⟨e,h3,h4⟩:=bind_some h2
   obtain ⟨k,hk⟩:=za h3
   refine agF (J:=fun k a w=> ∃ds,Inv P A.idle A.aO B M w0 μ hp0 n a w (bH S.1 ds)∧fl (fun ds=>mg m S.1 S.2 (exec P A C f n m c (bH S.1 ds))) k ds=some e) (fun a w ⟨s,_,h⟩=>by cases h) (fun k a w ⟨ds,hs,hk⟩=> ?_) ⟨ds,hI.reshape h1 hm,hk⟩
   simp only[fl] at hk
   obtain ⟨y,h5,h6⟩:=bind_some hk
   unfold mg at h5
   obtain ⟨⟨o1,s1⟩,h7,h8⟩:=bind_some h5
   refine ih h7 hs fun a' w' kY=> ?_
   have Xv: ∀{e':Nat × List V},ways m 0 S.2 (o1,s1)=some e'→e'=e→Q (z7 o1) a' w':=by
    intro e' q1 q2
    subst q2
    obtain ⟨rfl,S',k1,rfl⟩:=NR q1 h4
    exact hQ a' w' (kY.reshape k1 hm)
   cases o1 with
   | norm=>
    obtain ⟨ds2,q1,q2⟩:=bind_some h8
    cases q2
    exact ⟨ds2,kY.reshape q1 hm,h6⟩
   | exit id=>
    obtain ⟨e',q1,q2⟩:=bind_some h8
    cases q2
    cases h6
    exact Xv q1 rfl
   | ret=>
    obtain ⟨e',q1,q2⟩:=bind_some h8
    cases q2
    cases h6
    exact Xv q1 rfl
 | _=>intro st st' out Q a w h;simp only[exec] at h;cases h
end
section
variable {P:Program} {A:cP} {w w':World} {I I' I2:Nat→Prop} {μ β β' cC:Nat→Option Nat} {hp hp' hp0:Nat→Option an} {C:ae} {B:Nat} {M:Nat→Prop} {w0:Start}
theorem IB (S:aQ P w I β hp B M w0) {a:Act} {st:St} (hs:mh P w I β hp a st.sl): ∀{l:List ResultVar} {xs:List V} {rd:List Nat},(vV P st l).run C hp=some (xs,rd)→
  ∃vs:List Value,(l.mapM fun| .tmp t=>Pure.pure (a.tmps.getD t undef)| .cell x t=>do loadVar t (←asAddr (a.tmps.getD x undef)):Sem (List Value)).run P w= .ok vs w∧vs.length=xs.length∧l.length=xs.length∧
   ∀(j:Nat) v x,vs[j]? =some v→xs[j]? =some x→aq P w I β hp v x
 | [],xs,rd,h=>by
  cases h
  exact ⟨[],by simp,rfl,rfl,by simp⟩
 | .tmp t::l,xs,rd,h=>by
  simp only[vV] at h
  obtain ⟨ys,l1,l2,h1,h2⟩:=mi h
  have h3:=Mr h2
  subst h3
  obtain ⟨vs,a1,a2,a3,a4⟩:=IB S hs h1
  refine ⟨a.tmps.getD t undef::vs,by simp only[List.mapM_cons,Sem.run_bind,Sem.run_pure,Result.andThen_ok,a1],by simp[a2],by simp[a3],fun j v x hj hx=> ?_⟩
  cases j with
  | zero=>simp at hj hx;subst hj;subst hx;have:=hs t;simpa using this
  | succ j=>exact a4 j v x (by simpa using hj) (by simpa using hx)
 | .cell y t::l,xs,rd,h=>by
  simp only[vV] at h
  obtain ⟨r,l1,l2,h1,h2⟩:=mi h
  obtain ⟨ys,l3,l4,h3,h4⟩:=mi h2
  have h5:=Mr h4
  subst h5
  obtain ⟨v0,b1,b2,b3,ad,b4⟩:=U7 S (hs y) h1
  obtain ⟨vs,a1,a2,a3,a4⟩:=IB S hs h3
  refine ⟨v0::vs,?_,by simp[a2],by simp[a3],fun j v x hj hx=> ?_⟩
  ·have e1:(do loadVar t (←asAddr (a.tmps.getD y undef)):Sem Value).run P w= .ok v0 w:=by
    rw[b4] at b1⊢
    simpa[Instr.loadAt,Instr.sureAddr,asAddr] using b1
   simp only[List.mapM_cons,Sem.run_bind,e1,Result.andThen_ok,a1,Sem.run_pure]
  cases j with
  | zero=>simp at hj hx;subst hj;subst hx;exact b2
  | succ j=>exact a4 j v x (by simpa using hj) (by simpa using hx)
def wS:List Value→Value
 | [v]=>v
 | l=> .tuple l.toArray
theorem agI {vs:List Value} (h:vs.length≠1):wS vs= .tuple vs.toArray:=by
 match vs,h with
 | [],_=>rfl
 | [v],h=>simp at h
 | v::v2::l,_=>rfl
theorem agJ {fn:Func} {a:Act} {st:St} (S:aQ P w I β st.hp B M w0) (hs:mh P w I β st.hp a st.sl) {xs:List V} {rd:List Nat} (h:(vV P st fn.results.toList).run C st.hp=some (xs,rd)):
  ∃vs:List Value,(results fn a.tmps).run P w= .ok (wS vs) w∧vs.length=xs.length∧
   ∀(j:Nat) v x,vs[j]? =some v→xs[j]? =some x→aq P w I β st.hp v x:=by
 obtain ⟨vs,a1,a2,_,a4⟩:=IB S hs h
 refine ⟨vs,?_,a2,a4⟩
 unfold results
 rw[Array.mapM_eq_mapM_toList]
 simp only[map_eq_pure_bind,bind_assoc,pure_bind,Sem.run_bind]
 refine (congrArg (fun r:Result (List Value)=>r.andThen _) a1).trans ?_
 simp only[Result.andThen_ok,Sem.run_pure]
 match vs with
 | []=>simp[wS]
 | [v]=>simp[wS]
 | v::v2::l=>simp[wS]
theorem Xw: ∀{args:List V} {i k:Nat},en (oJ i args) k=if i≤k then args[k-i]? else none
 | [],i,k=>by simp[oJ,en]
 | v::vs,i,k=>by
  simp only[oJ,en]
  cases hb:Nat.beq k i with
  | true=>
   rw[bq] at hb
   subst hb
   simp
  | false=>
   have bO:k≠i:=fun e=>by rw[e,kM] at hb;cases hb
   simp only[cond_false,Xw]
   by_cases h:i≤k
   ·rw[aF,ai h]
    obtain ⟨d,rfl⟩: ∃d,k=i+1+d:=⟨k-(i+1),by omega⟩
    rw[show i+1+d-(i+1)=d by omega,show i+1+d-i=d+1 by omega]
    rfl
   ·rw[aD,aj h]
theorem NS: ∀{l:List (Nat × VS)} {ds:List V} {i k:Nat},jk i l=true→en (gd l ds) k=if i≤k then (gp (l.map (·.2)) ds)[k-i]? else none
 | [],ds,i,k,_=>by simp[gd,gp,en]
 | (q,s)::l,ds,i,k,h=>by
  simp only[jk,aT,bq] at h
  obtain ⟨rfl,h⟩:=h
  simp only[gd,en,dw,gp]
  cases hb:Nat.beq k q with
  | true=>
   rw[bq] at hb
   subst hb
   simp
  | false=>
   have bO:k≠q:=fun e=>by rw[e,kM] at hb;cases hb
   simp only[cond_false]
   rw[NS h]
   by_cases h:q≤k
   ·rw[aF,ai h]
    obtain ⟨d,rfl⟩: ∃d,k=q+1+d:=⟨k-(q+1),by omega⟩
    rw[show q+1+d-(q+1)=d by omega,show q+1+d-q=d+1 by omega]
    rfl
   ·rw[aD,aj h]
theorem Xx: ∀{l:List (Nat × VS)} {ds:List V},(gd l ds).map (·.2)=gp (l.map (·.2)) ds
 | [],_=>rfl
 | (q,s)::l,ds=>by simp only[gd,dw,gp,Xx]
theorem NT: ∀{l:List VS} {ds:List V},(gp l ds).length=l.length
 | [],_=>rfl
 | s::l,ds=>by simp only[gp,List.length_cons,NT]
theorem Xy: ∀{l:List (Nat × VS)} {ds:List V},(gd l ds).length=l.length
 | [],_=>rfl
 | (q,s)::l,ds=>by simp only[gd,List.length_cons,Xy]
theorem agK {vals:List Value} {l:List (Nat × V)} (hl:vals.length=l.length) (h: ∀(j:Nat) v y,vals[j]? =some v→(l.map (·.2))[j]? =some y→aq P w I β hp v y):aq P w I β hp (wS vals) (qS l):=by
 match l,hl,h with
 | [],hl,h=>
  obtain rfl:vals=[]:=mY hl
  exact .bJ rfl fun j v x _ hx=>by simp at hx
 | [(k,y)],hl,h=>
  match vals,hl,h with
  | [v],_,h=>exact h 0 v y rfl rfl
 | a::b::l,hl,h=>
  have bO:vals.length≠1:=by rw[hl];simp
  rw[agI bO]
  simp only[qS]
  exact .bJ (by simp[hl]) fun j v y hj hy=>h j v y (by simpa using hj) hy
theorem agL {l:List BS} {ds:List V} {j:Nat} {e:TypeId} {es:List V} {av:List Nat} (h:(fq l ds)[j]? =some (.nest e es av)) (k:Nat):bU av k=0:=by
 obtain ⟨b,gi,_,h2⟩:=Ny h
 cases b<;>simp only[gI] at h2<;>cases h2
 match k with
 | 0=>rfl
 | 1=>rfl
 | 2=>rfl
 | _+3=>rfl
theorem agM {f n m:Nat} {fn:Func} {a:Act} {st:St} {es:List V} {rd:List Nat} (hm: ∀id blk,hp0 id=some blk→id<m) (kB: ∀id e es av,hp0 id=some (.nest e es av)→∀k,bU av k=0)
  (hI:Inv P A.idle A.aO B M w0 μ hp0 n a w st) (pZ:jk 0 (A.gb f).bR=true) (bw:(A.gb f).bR.length=fn.results.size) (h:(vW P A f fn m st).run C st.hp=some (es,rd)):
  ∃v I2 cC,(results fn a.tmps).run P w= .ok v w∧aQ P w I2 cC (bH (A.so f es) (A.lv f es)).hp B M w0∧mr w0.w w0.I μ hp0 w I2 cC (bH (A.so f es) (A.lv f es)).hp∧aq P w I2 cC (bH (A.so f es) (A.lv f es)).hp v (qS (gd (A.so f es).bR (A.lv f es))):=by
 unfold vW at h
 obtain ⟨xs,l1,l2,h1,h2⟩:=mi h
 obtain ⟨I,β,S,hA,hE⟩:=hI
 obtain ⟨vals,e1,e2,e3⟩:=agJ S hA.sl h1
 have e4:fn.results.size=xs.length:=by
  obtain ⟨_,_,_,q,_⟩:=IB S hA.sl h1
  simpa using q
 have fin: ∀(Sx:Shape) (es:List V),jk 0 Sx.bR=true→Sx.bR.length=fn.results.size→jJ m Sx (canon m (List.range xs.length) (freeze m (A.vP f) ⟨ko (oJ 0 xs),st.hp,st.nb⟩))=some es→
   ∃v I2 cC,(results fn a.tmps).run P w= .ok v w∧aQ P w I2 cC (bH Sx es).hp B M w0∧mr w0.w w0.I μ hp0 w I2 cC (bH Sx es).hp∧aq P w I2 cC (bH Sx es).hp v (qS (gd Sx.bR es)):=by
  intro Sx es pZ bw wU
  have hA0:jV P A.idle A.aO w I β vals.length ⟨vals.toArray,[]⟩ ⟨ko (oJ 0 xs),st.hp,st.nb⟩:=by
   refine ⟨fun k=> ?_,by simp,by simp,hA.aO⟩
   change aq P w I β st.hp _ (ko (oJ 0 xs) k)
   unfold ko
   rw[Xw]
   simp only[fS,cL,Nat.sub_zero]
   cases hk:xs[k]? with
   | none=>exact .undef
   | some x=>
    have kV:k<vals.length:=by rw[e2];exact (bL.1 hk).1
    have:=e3 k vals[k] x (cq kV) hk
    have e5:(vals.toArray).getD k undef=vals[k]:=by simp[kV]
    rw[Option.getD_some]
    exact e5▸this
  obtain ⟨I2,k1,k2,k3⟩:=Xf (st:=⟨ko (oJ 0 xs),st.hp,st.nb⟩) (m:=m) (pur:=A.vP f) S hA0
  have hI2:Inv P A.idle A.aO B M w0 μ hp0 vals.length ⟨vals.toArray,[]⟩ w (freeze m (A.vP f) ⟨ko (oJ 0 xs),st.hp,st.nb⟩):=⟨I2,β,k2,k3,hE.trans k1.Ie⟩
  obtain ⟨I3,Xz,q1,q2,q3⟩:=(hI2.canon (live:=List.range xs.length) hm kB).reshape wU hm
  refine ⟨wS vals,I3,Xz,e1,q1,q3,agK (by rw[Xy,bw,e4,e2]) fun j v y hj hy=> ?_⟩
  have hv:=q2.sl j
  have cy:=(bL.1 hj).1
  have e5:(vals.toArray).getD j undef=v:=by
   have:=(bL.1 hj).2
   simp[cy,this]
  change aq P w I3 Xz _ ((vals.toArray).getD j undef) (ko (gd Sx.bR _) j) at hv
  rw[e5] at hv
  unfold ko at hv
  rw[NS pZ] at hv
  simp only[fS,cL,Nat.sub_zero] at hv
  rw[Xx] at hy
  rw[hy] at hv
  exact hv
 unfold cP.so cP.lv
 cases cK:A.alt f with
 | none=>
  rw[cK] at h2
  simp only at h2⊢
  split at h2
  ·rename_i gi wU
   have:=bj h2
   subst this
   exact fin _ _ pZ bw wU
  ·cases h2
 | some S2=>
  rw[cK] at h2
  simp only at h2⊢
  split at h2
  ·rename_i gi wU
   have:=bj h2
   subst this
   exact fin _ _ pZ bw wU
  ·split at h2
   ·rename_i gi wU
    obtain ⟨hc,h3⟩:=aU h2
    simp only[aT,bq] at hc
    have:=bj h3
    subst this
    exact fin _ _ hc.1 hc.2 wU
   ·cases h2
theorem agN (hC:mu P A C) (hP:jt P A) (oZ:P.follows .mixedOrders=true):mu P A (pM P A C):=by
 intro f ds es h
 unfold pM at h
 cases hf:P.funcs[A.hY f]? with
 | none=>rw[hf] at h;cases h
 | some fn=>
  rw[hf] at h
  simp only at h
  cases hb:fn.body with
  | none=>rw[hb] at h;cases h
  | some c=>
   rw[hb] at h
   simp only at h
   cases hc:(jk 0 (A.sin f).bR&&(Nat.ble (A.sin f).bR.length fn.ntmps&&((A.sin f).ok&&(jk 0 (A.gb f).bR&&(Nat.beq (A.gb f).bR.length fn.results.size&&pK (nO (A.sin f).cA.length (A.mv f))))))) with
   | false=>rw[hc] at h;cases h
   | true=>
    rw[hc] at h
    simp only[cond_true] at h
    simp only[aT,bq,fa] at hc
    obtain ⟨lM,hnt,_,zX,bw,kz⟩:=hc
    obtain ⟨⟨out,st'⟩,h1,h2⟩:=bind_some h
    refine ⟨fn,c,rfl,hb,fun w I μ vals hH hgl hl hv=> ?_⟩
    have agO:(∀id,out≠ .exit id)∧∃rd,(vW P A f fn (A.sin f).cA.length st').run C st'.hp=some (es,rd):=by
     cases out with
     | exit id=>cases h2
     | norm=>
      refine ⟨by simp,?_⟩
      simp only[BV] at h2
      obtain ⟨⟨x,rd⟩,e1,e2⟩:=h2
      simp only at e2
      subst e2
      exact ⟨rd,e1⟩
     | ret=>
      refine ⟨by simp,?_⟩
      simp only[BV] at h2
      obtain ⟨⟨x,rd⟩,e1,e2⟩:=h2
      simp only at e2
      subst e2
      exact ⟨rd,e1⟩
    obtain ⟨bO,rd,Np⟩:=agO
    refine calls_of_wp_defers hf hb ?_
    have hm: ∀id blk,(bH (A.sin f) ds).hp id=some blk→id<(A.sin f).cA.length:=by
     intro id blk af
     simp only[bH,mk,iU] at af
     have:=(bL.1 af).1
     rwa [IA] at this
    have kB: ∀id e es av,(bH (A.sin f) ds).hp id=some (.nest e es av)→∀k,bU av k=0:=by
     intro id e es av af k
     simp only[bH,mk,iU] at af
     exact agL af k
    refine agH (w0:=⟨w,I⟩) (μ:=μ) (hp0:=(bH (A.sin f) ds).hp) (B:=w.heap.size) (M:=pW P w μ (bH (A.sin f) ds).hp) hC hP oZ hm kB c h1 ?_ ?_
    ·refine Inv.enter kz ?_ hm kB fun p hp=>by
      simp only[bH,mk,iU]
      rw[List.getElem?_eq_none_iff,IA]
      exact hp
     refine ⟨I,μ,⟨hH,fun _ _ _=>rfl,bC _,fun b h=> .inl h,⟨rfl,rfl⟩⟩,⟨fun k=> ?_,?_,by simp,hgl⟩,(Le.refl (P:=P) w I μ _).Ie⟩
     ·change aq P w I μ _ _ (ko (gd (A.sin f).bR ds) k)
      unfold ko
      rw[NS lM]
      simp only[fS,cL,Nat.sub_zero]
      cases hk:(gp ((A.sin f).bR.map (·.2)) ds)[k]? with
      | none=>exact .undef
      | some x=>
       have kV:k<vals.length:=by
        have:=(bL.1 hk).1
        rw[NT,bc] at this
        rw[hl];exact this
       have:=hv k vals[k] x (cq kV) hk
       have e1:(vals.toArray++Array.replicate (fn.ntmps-vals.toArray.size) undef).getD k undef=vals[k]:=by
        simp[Array.getElem?_append,kV]
       rw[Option.getD_some]
       exact e1▸this
     ·simp
      omega
    ·intro a' w' hI
     obtain ⟨v,I2,cC,q1,q2,q3,q4⟩:=agM hm kB hI zX bw Np
     obtain ⟨_,_,_,hA,_⟩:=hI
     cases out with
     | exit id=>exact absurd rfl (bO id)
     | norm=>exact NG hP q1 ⟨v,I2,cC,rfl,q2,q3,q4⟩ _ hA.defers
     | ret=>exact NG hP q1 ⟨v,I2,cC,rfl,q2,q3,q4⟩ _ hA.defers
theorem XA (hP:jt P A) (oZ:P.follows .mixedOrders=true): ∀n,mu P A (lD P A n)
 | 0=>fun _ _ _ h=>by cases h
 | n+1=>agN (XA hP oZ n) hP oZ
theorem agP (hP:jt P A) (oZ:P.follows .mixedOrders=true):mu P A (Call P A):=by
 intro f ds es h
 have hn: ∃n,lD P A n f ds=some es:=by
  unfold Call at h
  split at h
  ·rename_i hex
   have:=hex.choose_spec.choose_spec
   rw[dh h] at this
   exact ⟨_,this⟩
  ·cases h
 obtain ⟨n,hn⟩:=hn
 exact XA hP oZ n f ds es hn
end
section
variable {P:Program} {A:cP} {C:ae} {D:Nat→ae}
def Dl (C:ae) (D:Nat→ae):Prop:= ∀f a r,C f a=some r→∃n,∀k,n≤k→D k f a=some r
theorem rm {α:Type} (h:Dl C D) {hp:Nat→Option an}: ∀{p:Rd α} {r:α × List Nat},p.run C hp=some r→∃n,∀k,n≤k→p.run (D k) hp=some r
 | .ret a,r,e=>⟨0,fun _ _=>e⟩
 | .fail,r,e=>by cases e
 | .get id q,r,e=>by
  obtain ⟨x,h1,h2⟩:=bind_some e
  obtain ⟨n,hn⟩:=rm h h1
  exact ⟨n,fun k hk=>by simp only[Rd.run,hn k hk,Option.bind_some];exact h2⟩
 | .opt o q,r,e=>by
  obtain ⟨x,h1,h2⟩:=bind_some e
  obtain ⟨n,hn⟩:=rm h h2
  exact ⟨n,fun k hk=>by simp only[Rd.run,h1,Option.bind_some];exact hn k hk⟩
 | .live id ok q,r,e=>by
  simp only[Rd.run] at e
  cases hk:ok (hX (hp id)) with
  | false=>rw[hk] at e;cases e
  | true=>
   rw[hk] at e
   obtain ⟨x,h1,h2⟩:=bind_some e
   obtain ⟨n,hn⟩:=rm h h1
   exact ⟨n,fun k kA=>by simp only[Rd.run,hk,cond_true,hn k kA,Option.bind_some];exact h2⟩
 | .aM b q,r,e=>by
  obtain ⟨h1,h2⟩:=aU e
  obtain ⟨n,hn⟩:=rm h h2
  exact ⟨n,fun k hk=>by simp only[Rd.run,h1,cond_true];exact hn k hk⟩
 | .call f a q,r,e=>by
  obtain ⟨x,h1,h2⟩:=bind_some e
  obtain ⟨n1,lM⟩:=h f a x h1
  obtain ⟨n2,zX⟩:=rm h h2
  exact ⟨max n1 n2,fun k hk=>by simp only[Rd.run,lM k (by omega),Option.bind_some];exact zX k (by omega)⟩
 | .alt true x y,r,e=>rm (p:=x) h e
 | .alt false x y,r,e=>rm (p:=y) h e
theorem agQ (h:Dl C D) {n i nb:Nat} {ops:Array Oper} {o:Oper} {st:St} {r:St × List Nat × List Nat} (e:iN P A C n ops i o nb st=some r): ∃N,∀k,N≤k→iN P A (D k) n ops i o nb st=some r:=by
 unfold iN at e
 have go:(((gq P A st.sl i (nb+64*i) o).run C st.hp).bind fun r=>some ((⟨jg st.sl o.dst r.1.v,cd st.hp r.1.upd,st.nb⟩:St),sE r.2 r.1.upd,gJ st.hp r.1.upd))=some r→
   ∃N,∀k,N≤k→(((gq P A st.sl i (nb+64*i) o).run (D k) st.hp).bind fun r=>some ((⟨jg st.sl o.dst r.1.v,cd st.hp r.1.upd,st.nb⟩:St),sE r.2 r.1.upd,gJ st.hp r.1.upd))=some r:=by
  intro e
  obtain ⟨x,h1,h2⟩:=bind_some e
  obtain ⟨N,hN⟩:=rm h h1
  exact ⟨N,fun k hk=>by rw[hN k hk];exact h2⟩
 unfold iN
 cases hd:uv o n with
 | false=>rw[hd] at e;cases e
 | true=>
  rw[hd] at e
  simp only[cond_true] at e⊢
  cases hg:o.guard with
  | none=>rw[hg] at e;exact go e
  | some gw=>
   obtain ⟨g,want⟩:=gw
   rw[hg] at e
   simp only at e⊢
   cases lO:(ops[g]?).bind (·.dst) with
   | none=>rw[lO] at e;cases e
   | some d=>
    rw[lO] at e
    simp only at e⊢
    cases oc:m9 (st.sl d) with
    | none=>rw[oc] at e;cases e
    | some ob=>
    rw[oc] at e
    cases ob with
    | none=>exact ⟨0,fun _ _=>e⟩
    | some b=>
    simp only at e⊢
    cases hb:b==want with
    | true=>rw[hb] at e;exact go e
    | false=>rw[hb] at e;exact ⟨0,fun _ _=>e⟩
theorem XB (h:Dl C D) {n nb:Nat} {ops:Array Oper}: ∀{l:List (Nat × Oper)} {st:St} {log:Log} {r:St × Log},qT P A C n ops nb l st log=some r→∃N,∀k,N≤k→qT P A (D k) n ops nb l st log=some r
 | [],st,log,r,e=>⟨0,fun _ _=>e⟩
 | (i,o)::l,st,log,r,e=>by
  obtain ⟨x,h1,h2⟩:=bind_some e
  obtain ⟨N1,p5⟩:=agQ h h1
  obtain ⟨N2,s9⟩:=XB h h2
  exact ⟨max N1 N2,fun k hk=>by simp only[qT,p5 k (by omega),Option.bind_some];exact s9 k (by omega)⟩
theorem XC {X R:Type} {step:X→Option (X ⊕ R)} {stepD:Nat→X→Option (X ⊕ R)} (hs: ∀x y,step x=some y→∃N,∀k,N≤k→stepD k x=some y): ∀(n:Nat) (x:X) (r:R),fl step n x=some r→∃N,∀k,N≤k→fl (stepD k) n x=some r
 | 0,x,r,e=>by cases e
 | n+1,x,r,e=>by
  simp only[fl] at e⊢
  obtain ⟨y,h1,h2⟩:=bind_some e
  obtain ⟨N1,p5⟩:=hs x y h1
  cases y with
  | inl z=>
   obtain ⟨N2,s9⟩:=XC hs n z r h2
   exact ⟨max N1 N2,fun k hk=>by rw[p5 k (by omega)];exact s9 k (by omega)⟩
  | inr q=>exact ⟨N1,fun k hk=>by rw[p5 k hk];exact h2⟩
theorem agR (h:Dl C D) {f n m:Nat}: ∀(c:Code) {st:St} {r:Out × St},exec P A C f n m c st=some r→∃N,∀k,N≤k→exec P A (D k) f n m c st=some r:=by
 intro c
 induction c with
 | skip=>exact fun e=>⟨0,fun _ _=>e⟩
 | exit id=>exact fun e=>⟨0,fun _ _=>e⟩
 | ret=>exact fun e=>⟨0,fun _ _=>e⟩
 | region id ops draw=>
  intro st r e
  simp only[exec] at e⊢
  obtain ⟨x,h1,h2⟩:=bind_some e
  obtain ⟨y,h3,h4⟩:=bind_some h1
  obtain ⟨N,hN⟩:=XB h h3
  refine ⟨N,fun k hk=> ?_⟩
  have:zn P (A.here f id) (D k) n ops draw st=some x:=by
   unfold zn
   rw[hN k hk]
   exact h4
  rw[this]
  exact h2
 | seq x y gK gL=>
  intro st r e
  simp only[exec] at e⊢
  obtain ⟨⟨o,s1⟩,h1,h2⟩:=bind_some e
  obtain ⟨N1,p5⟩:=gK h1
  cases o with
  | norm=>
   obtain ⟨N2,s9⟩:=gL h2
   exact ⟨max N1 N2,fun k hk=>by rw[p5 k (by omega)];exact s9 k (by omega)⟩
  | exit id=>exact ⟨N1,fun k hk=>by rw[p5 k hk];exact h2⟩
  | ret=>exact ⟨N1,fun k hk=>by rw[p5 k hk];exact h2⟩
 | cond c x y gK gL=>
  intro st r e
  cases c with
  | tmp t=>
   have go: ∀{st:St} {r:Out × St},(match st.sl t with
     | .bool b=>(bif b then exec P A C f n m x st else exec P A C f n m y st).bind fun r=>
      match r.1 with
      | .norm=>some (.norm,canon m (A.join f t) r.2)
      | _=>some r
     | _=>none)=some r→∃N,∀k,N≤k→(match st.sl t with
     | .bool b=>(bif b then exec P A (D k) f n m x st else exec P A (D k) f n m y st).bind fun r=>
      match r.1 with
      | .norm=>some (.norm,canon m (A.join f t) r.2)
      | _=>some r
     | _=>none)=some r:=by
    intro st r e
    cases hs:st.sl t<;>rw[hs] at e<;>simp only at e⊢ <;>first|(cases e;done)|skip
    rename_i b
    obtain ⟨x1,h1,h2⟩:=bind_some e
    cases b with
    | true=>
     obtain ⟨N,hN⟩:=gK h1
     exact ⟨N,fun k hk=>by simp only[cond_true,hN k hk,Option.bind_some];exact h2⟩
    | false=>
     obtain ⟨N,hN⟩:=gL h1
     exact ⟨N,fun k hk=>by simp only[cond_false,hN k hk,Option.bind_some];exact h2⟩
   simp only[exec] at e⊢
   split at e
   ·rename_i hS
    obtain ⟨N,hN⟩:=go e
    exact ⟨N,fun k hk=>hN k hk⟩
   ·rename_i S hS
    obtain ⟨ds,h1,h2⟩:=bind_some e
    obtain ⟨e',h3,h4⟩:=bind_some h2
    obtain ⟨r1,h5,h6⟩:=bind_some h3
    obtain ⟨N,hN⟩:=go h5
    refine ⟨N,fun k hk=> ?_⟩
    try rw[hS]
    simp only[h1,Option.bind_some]
    exact (congrArg (fun z:Option (Out × St)=>(z.bind fun r=>ways m 0 S.2 r).bind fun e=>lC 0 S.2 e.1 e.2 fun o st=>some (o,st)) (hN k hk)).trans (by simp only[Option.bind_some,h6];exact h4)
  | const v=>
   cases v with
   | bool b=>
    simp only[exec] at e⊢
    cases b with
    | true=>exact gK e
    | false=>exact gL e
   | _=>simp only[exec] at e;cases e
  | _=>simp only[exec] at e;cases e
 | block id c ih=>
  intro st r e
  simp only[exec] at e⊢
  obtain ⟨x1,h1,h2⟩:=bind_some e
  obtain ⟨N,hN⟩:=ih h1
  exact ⟨N,fun k hk=>by rw[hN k hk];exact h2⟩
 | loop c ih=>
  intro st r e
  simp only[exec] at e⊢
  split at e
  ·cases e
  ·rename_i S hS
   obtain ⟨ds,h1,h2⟩:=bind_some e
   obtain ⟨e',h3,h4⟩:=bind_some h2
   obtain ⟨q,hq⟩:=za h3
   obtain ⟨N,hN⟩:=XC (stepD:=fun k ds=>mg m S.1 S.2 (exec P A (D k) f n m c (bH S.1 ds))) (fun x y wW=>by
    unfold mg at wW⊢
    obtain ⟨z,h5,h6⟩:=bind_some wW
    obtain ⟨N,hN⟩:=ih h5
    exact ⟨N,fun k hk=>by rw[hN k hk];exact h6⟩) q ds e' hq
   refine ⟨N,fun k hk=> ?_⟩
   try rw[hS]
   simp only[h1,Option.bind_some]
   rw[y9 (hN k hk)]
   exact h4
 | _=>intro st r e;simp only[exec] at e;cases e
theorem IC (h:Dl C D) {f:Nat} {ds es:List V} (e:pM P A C f ds=some es): ∃N,∀k,N≤k→pM P A (D k) f ds=some es:=by
 unfold pM at e⊢
 cases hf:P.funcs[A.hY f]? with
 | none=>rw[hf] at e;cases e
 | some fn=>
  rw[hf] at e
  simp only at e⊢
  cases hb:fn.body with
  | none=>rw[hb] at e;cases e
  | some c=>
   rw[hb] at e
   simp only at e⊢
   cases hc:(jk 0 (A.sin f).bR&&(Nat.ble (A.sin f).bR.length fn.ntmps&&((A.sin f).ok&&(jk 0 (A.gb f).bR&&(Nat.beq (A.gb f).bR.length fn.results.size&&pK (nO (A.sin f).cA.length (A.mv f))))))) with
   | false=>rw[hc] at e;cases e
   | true=>
    rw[hc] at e
    simp only[cond_true] at e⊢
    obtain ⟨⟨o,s1⟩,h1,h2⟩:=bind_some e
    obtain ⟨N1,p5⟩:=agR h c h1
    cases o with
    | exit id=>cases h2
    | norm=>
     simp only[BV] at h2
     obtain ⟨x,e1,e2⟩:=h2
     obtain ⟨N2,s9⟩:=rm h e1
     exact ⟨max N1 N2,fun k hk=>by rw[p5 k (by omega)];simp only[Option.bind_some,s9 k (by omega),Option.map_some,e2]⟩
    | ret=>
     simp only[BV] at h2
     obtain ⟨x,e1,e2⟩:=h2
     obtain ⟨N2,s9⟩:=rm h e1
     exact ⟨max N1 N2,fun k hk=>by rw[p5 k (by omega)];simp only[Option.bind_some,s9 k (by omega),Option.map_some,e2]⟩
theorem XD: ∀n f a r,lD P A n f a=some r→lD P A (n+1) f a=some r
 | 0,f,a,r,h=>by cases h
 | n+1,f,a,r,h=>by
  obtain ⟨N,hN⟩:=IC (C:=lD P A n) (D:=fun _=>lD P A (n+1)) (fun f a r h=>⟨0,fun _ _=>XD n f a r h⟩) h
  exact hN N (bC _)
theorem NU {n k:Nat} (hk:n≤k) {f:Nat} {a r:List V} (h:lD P A n f a=some r):lD P A k f a=some r:=by
 induction hk with
 | refl=>exact h
 | step _ ih=>exact XD _ _ _ _ ih
theorem Dm {f:Nat} {a r:List V}:Call P A f a=some r↔∃n,lD P A n f a=some r:=by
 constructor
 ·intro h
  unfold Call at h
  split at h
  ·rename_i hex
   have:=hex.choose_spec.choose_spec
   rw[dh h] at this
   exact ⟨_,this⟩
  ·cases h
 ·rintro ⟨n,hn⟩
  have hex: ∃n r,lD P A n f a=some r:=⟨n,r,hn⟩
  unfold Call
  rw[tU hex]
  have h2:=hex.choose_spec.choose_spec
  have h3:=NU (Nat.le_max_left n hex.choose) hn
  have h4:=NU (Nat.le_max_right n hex.choose) h2
  rw[h3] at h4
  exact h4.symm
theorem agS (f:Nat) (a:List V):Call P A f a=pM P A (Call P A) f a:=by
 apply Option.ext
 intro r
 constructor
 ·intro h
  obtain ⟨n,hn⟩:=Dm.1 h
  cases n with
  | zero=>cases hn
  | succ n=>
   obtain ⟨N,hN⟩:=IC (C:=lD P A n) (D:=fun _=>Call P A) (fun f a r h=>⟨0,fun _ _=>Dm.2 ⟨n,h⟩⟩) hn
   exact hN N (bC _)
 ·intro h
  obtain ⟨N,hN⟩:=IC (C:=Call P A) (D:=lD P A) (fun f a r h=>by
   obtain ⟨n,hn⟩:=Dm.1 h
   exact ⟨n,fun k hk=>NU hk hn⟩) h
  exact Dm.2 ⟨N+1,hN N (bC _)⟩
end
end Go.AM
namespace Go.AM
open Go.ChangeShapes Go.WideShapes Go.RowKit
section
variable (P:Program)
inductive WT:TypeId→V→Prop
 | int {t:TypeId} {k:IntKind} {n:Int}:P.underlying t=some (.int k)→(Lit.int k n).wf=true→WT t (.int k n)
 | bool {t:TypeId} {b:Bool}:P.underlying t=some .bool→WT t (.bool b)
 | str {t:TypeId} {l:List UInt8}:P.underlying t=some .string→l.length≤maxLen→WT t (.str l)
 | list {t e:TypeId} {es:List V}:P.underlying t=some (.slice e)→es.length≤maxLen→
   (∀(i:Nat) x,es[i]? =some x→b7 P e=true→∃xs,x= .agg xs∧xs.length=(bx P e).length)→
   (∀(i j:Nat) x t',es[i]? =some x→(bx P e)[j]? =some t'→WT t' (ch P e x j))→WT t (.list e es)
def kL (t:TypeId) (x:V):Prop:=
 (b7 P t=true→∃xs,x= .agg xs∧xs.length=(bx P t).length)∧∀(j:Nat) t',(bx P t)[j]? =some t'→WT P t' (ch P t x j)
def sg:List TypeId→List V→Prop
 | [],[]=>True
 | t::ts,x::xs=>kL P t x∧sg ts xs
 | _,_=>False
def hasB (L:List TypeId) (t:TypeId):Bool:=L.any fun u=>Nat.beq u t
def ID (L:List TypeId):Nat→List Field→Bool
 | _,[]=>true
 | n,f::fs=>hasB L f.type&&(Nat.beq f.offset n&&(Nat.beq (P.cellsOf f.type) (bx P f.type).length&&ID L (n+P.cellsOf f.type) fs))
def Dn:List Nat→List Nat→Bool
 | [],[]=>true
 | a::l,b::m=>Nat.beq a b&&Dn l m
 | _,_=>false
def NV (L:List TypeId) (t:TypeId):Bool:=
 Nat.beq (P.cellsOf t) (bx P t).length&&
 match P.underlying t with
 | some (.int _)=>true
 | some .bool=>true
 | some .string=>true
 | some (.slice e)=>hasB L e&&dm P e
 | some (.struct fs)=>ID P L 0 fs.toList&&Dn (flat P t) (fs.toList.flatMap fun f=>bx P f.type)
 | some (.array n e)=>hasB L e&&(Nat.beq (P.cellsOf e) (bx P e).length&&Dn (flat P t) (List.replicate n (bx P e)).flatten)
 | _=>false
def Dp (L:List TypeId):Bool:=L.all fun t=>NV P L t
end
theorem IE {L:List TypeId} {t:TypeId} (h:hasB L t=true):t∈L:=by
 obtain ⟨u,hu,h2⟩:=iB.1 h
 rw[bq] at h2
 exact h2▸hu
theorem NW: ∀{l m:List Nat},Dn l m=true→l=m
 | [],[],_=>rfl
 | a::l,b::m,h=>by
  simp only[Dn,aT,bq] at h
  rw[h.1,NW h.2]
 | [],_::_,h=>by cases h
 | _::_,[],h=>by cases h
section
variable {P:Program} {H:Type} {enc:TypeId × Value→H} {w:World} {base:Nat} {spare:Nat→Bool} {held:Bool} {L:List TypeId}
def nt (w:World):Nat→Prop:=fun b=>b<w.heap.size
def o4 (P:Program) (w:World) (ts:List TypeId) (cs:List Value) (xs:List V):Prop:=
 cs.length=ts.length∧xs.length=ts.length∧∀(j:Nat) t',ts[j]? =some t'→∃v y,cs[j]? =some v∧xs[j]? =some y∧Pure P w (nt w) t' v y∧WT P t' y
theorem o4.app {ts zj:List TypeId} {cs jr:List Value} {xs XF:List V} (h:o4 P w ts cs xs) (h':o4 P w zj jr XF):o4 P w (ts++zj) (cs++jr) (xs++XF):=by
 obtain ⟨a,b,c⟩:=h
 obtain ⟨a',b',c'⟩:=h'
 refine ⟨by simp[a,a'],by simp[b,b'],fun j t' hj=> ?_⟩
 by_cases aR:j<ts.length
 ·rw[ln aR] at hj
  obtain ⟨v,y,e1,e2,e3⟩:=c j t' hj
  exact ⟨v,y,by rw[ln (by omega)];exact e1,by rw[ln (by omega)];exact e2,e3⟩
 ·rw[jG (by omega)] at hj
  obtain ⟨v,y,e1,e2,e3⟩:=c' _ t' hj
  exact ⟨v,y,by rw[jG (by omega),a];exact e1,by rw[jG (by omega),b];exact e2,e3⟩
theorem agT {w:World} {a:Addr} {v:Value} (h:w.cell? a=some v):a.spot=none∧a.block<w.heap.size:=by
 unfold World.cell? at h
 split at h
 ·rename_i hh
  split at h
  ·cases h
  ·rename_i hs
   exact ⟨by simpa using hs,(jd.1 hh).1⟩
 all_goals (first|cases h|skip)
theorem XG {rd:TypeId→List Value→Option (DataW H × List MemPlace)} (cs:List Value)
  (ih: ∀t cs x,t∈L→rd t cs=some x→∃xs,o4 P w (bx P t) cs xs): ∀(fs:List Field) (n:Nat),ID P L n fs=true→
  (∀f∈fs,∃x,rd f.type ((cs.drop f.offset).take (P.cellsOf f.type))=some x)→∃m xs,n≤m∧o4 P w (fs.flatMap fun f=>bx P f.type) ((cs.drop n).take (m-n)) xs∧m-n=(fs.flatMap fun f=>bx P f.type).length
 | [],n,_,_=>⟨n,[],bC _,⟨by simp,rfl,by simp⟩,by simp⟩
 | f::fs,n,h,hx=>by
  simp only[ID,aT,bq] at h
  obtain ⟨h1,h2,h3,h4⟩:=h
  obtain ⟨x,hxf⟩:=hx f (by simp)
  obtain ⟨xs,iG⟩:=ih _ _ _ (IE h1) hxf
  obtain ⟨m,ys,hm,ta,zZ⟩:=XG cs ih fs (n+P.cellsOf f.type) h4 fun g hg=>hx g (by simp[hg])
  refine ⟨m,xs++ys,by omega,?_,by simp only[g9,cg];omega⟩
  have:=iG.app ta
  rw[g9]
  rw[h2] at this
  have e:(cs.drop n).take (m-n)=(cs.drop n).take (P.cellsOf f.type)++(cs.drop (n+P.cellsOf f.type)).take (m-(n+P.cellsOf f.type)):=by
   rw[show m-n=P.cellsOf f.type+(m-(n+P.cellsOf f.type)) by omega,List.take_add,m7]
  rw[e]
  exact this
theorem XH {rd:List Value→Option (DataW H × List MemPlace)} (cs:List Value) {e:TypeId} (hs:P.cellsOf e=(bx P e).length)
  (ih: ∀cs x,rd cs=some x→∃xs,o4 P w (bx P e) cs xs): ∀(n:Nat),
  (∀i,i<n→∃x,rd ((cs.drop (i*P.cellsOf e)).take (P.cellsOf e))=some x)→∃xs,o4 P w (List.replicate n (bx P e)).flatten (cs.take (n*P.cellsOf e)) xs
 | 0,_=>⟨[],by simp,rfl,by simp⟩
 | n+1,hx=>by
  obtain ⟨xs,iG⟩:=XH cs hs ih n fun i hi=>hx i (by omega)
  obtain ⟨x,Dg⟩:=hx n (by omega)
  obtain ⟨ys,ta⟩:=ih _ _ Dg
  refine ⟨xs++ys,?_⟩
  rw[List.replicate_succ',List.flatten_append]
  have:=iG.app ta
  rw[dU,Nat.one_mul,List.take_add]
  simpa using this
theorem IF (hL:Dp P L=true): ∀(fuel:Nat) (t:TypeId) (cs:List Value) (x:DataW H × List MemPlace),t∈L→DataW.trod enc P w base spare held fuel t cs=some x→
  ∃xs,o4 P w (bx P t) cs xs
 | 0,_,_,_,_,h=>by cases h
 | fuel+1,t,cs,x,ht,h=>by
  have hg:=gn.1 hL t ht
  unfold NV at hg
  rw[aT,bq] at hg
  obtain ⟨hc,hg⟩:=hg
  have one:b7 P t=false→bx P t=[t]:=fun h=>by simp[bx,h]
  cases hu:P.underlying t with
  | none=>rw[hu] at hg;cases hg
  | some d=>
   rw[hu] at hg
   cases d with
   | int k=>
    obtain ⟨n,rfl,rfl,tc⟩:=DataW.trod_int hu h
    rw[one (by simp[b7,hu])]
    exact ⟨[.int k n],rfl,rfl,fun j t' hj=>by
     cases j with
     | zero=>cases hj;exact ⟨_,_,rfl,rfl,.int hu,.int hu tc⟩
     | succ j=>simp at hj⟩
   | bool=>
    obtain ⟨b,rfl,rfl⟩:=DataW.trod_bool hu h
    rw[one (by simp[b7,hu])]
    exact ⟨[.bool b],rfl,rfl,fun j t' hj=>by
     cases j with
     | zero=>cases hj;exact ⟨_,_,rfl,rfl,.bool hu,.bool hu⟩
     | succ j=>simp at hj⟩
   | string=>
    obtain ⟨s,rfl,rfl,hl⟩:=DataW.trod_string hu h
    rw[one (by simp[b7,hu])]
    exact ⟨[.str s.data.toList],rfl,rfl,fun j t' hj=>by
     cases j with
     | zero=>cases hj;exact ⟨_,_,rfl,rfl,.str hu rfl,.str hu (by simpa using hl)⟩
     | succ j=>simp at hj⟩
   | slice e=>
    simp only[aT] at hg
    obtain ⟨he,aw⟩:=hg
    rw[one (by simp[b7,hu])]
    have single: ∀v y,cs=[v]→Pure P w (nt w) t v y→WT P t y→∃xs,o4 P w [t] cs xs:=by
     rintro v y rfl a b
     exact ⟨[y],rfl,rfl,fun j t' hj=>by
      cases j with
      | zero=>cases hj;exact ⟨_,_,rfl,rfl,a,b⟩
      | succ j=>simp at hj⟩
    rcases DataW.trod_slice hu h with ⟨rfl,rfl⟩|⟨a,len,cap,elems,rest,n,hn,rfl,rfl,hb,hl,hm,hlen,cH,_,_⟩
    ·exact single _ _ rfl (.nil hu) (.list hu (by simp) (by simp) (by simp))
    ·cases hn
     have jL:=(lH aw).2
     have VE:P.cellsOf e=(bx P e).length:=(gu aw).symm
     have key: ∀i,i<len→∃jr xs,w.cells? base (a.add (i*P.cellsOf e)) (P.cellsOf e)=some jr∧o4 P w (bx P e) jr xs:=by
      intro i hi
      have h1:=cH i hi
      rw[cq (by omega)] at h1
      obtain ⟨jr,h2,h3⟩:=Option.bind_eq_some_iff.1 h1
      obtain ⟨xs,iG⟩:=IF hL fuel e jr _ (IE he) h3
      exact ⟨jr,xs,h2,iG⟩
     by_cases h0:len=0
     ·subst h0
      exact single _ _ rfl (.emp hu) (.list hu (by simp) (by simp) (by simp))
     ·have mq:a.spot=none∧a.block<w.heap.size:=by
       obtain ⟨jr,xs,h2,_⟩:=key 0 (by omega)
       obtain ⟨_,h3,h4⟩:=World.cells?_some h2
       have h5:=h4 0 jL
       rw[cq (by omega)] at h5
       have:=agT h5
       simpa[Addr.add] using this
      have hF: ∃(F:Nat→List Value) (X:Nat→List V),∀i,i<len→w.cells? base (a.add (i*P.cellsOf e)) (P.cellsOf e)=some (F i)∧o4 P w (bx P e) (F i) (X i):=by
       refine ⟨fun i=>if hi:i<len then (key i hi).choose else [],fun i=>if hi:i<len then (key i hi).choose_spec.choose else [],fun i hi=> ?_⟩
       simp only[tU hi]
       exact (key i hi).choose_spec.choose_spec
      obtain ⟨F,X,NX⟩:=hF
      have hx: ∀(i j:Nat) y t',((List.range len).map fun i=>cM P e (X i))[i]? =some y→(bx P e)[j]? =some t'→i<len∧∃v,(F i)[j]? =some v∧Pure P w (nt w) t' v (ch P e y j)∧WT P t' (ch P e y j):=by
       intro i j y t' hy hj
       have hi:i<len:=by
        have:=(bL.1 hy).1
        simpa using this
       refine ⟨hi,?_⟩
       simp[GN hi] at hy
       obtain ⟨c1,c2,c3⟩:=(NX i hi).2
       obtain ⟨v,z,d1,d2,d3,d4⟩:=c3 j t' hj
       have:ch P e y j=z:=by
        rw[←hy]
        unfold ch cM
        cases ha:b7 P e with
        | true=>
         simp only[cond_true,V.cell]
         rw[wj _ _ _ d2]
        | false=>
         simp only[cond_false]
         have:bx P e=[e]:=by simp[bx,ha]
         rw[this] at hj
         cases j with
         | zero=>rw[wj _ _ _ d2]
         | succ j=>simp at hj
       rw[this]
       exact ⟨v,d1,d3,d4⟩
      have ib: ∀i j,i<len→j<P.cellsOf e→w.cell? ⟨a.block,a.off+(i*P.cellsOf e+j),none⟩=some ((F i).getD j undef):=by
       intro i j hi hj
       obtain ⟨h1,h2⟩:=NX i hi
       obtain ⟨_,h3,h4⟩:=World.cells?_some h1
       have h5:=h4 j hj
       rw[Go.Deep.add_add] at h5
       have e1:a.add (i*P.cellsOf e+j)=⟨a.block,a.off+(i*P.cellsOf e+j),none⟩:=by
        obtain ⟨b,o,s⟩:=a
        simp only at mq
        rw[mq.1]
        exact oQ ..
       rw[e1] at h5
       rw[h5,ud,cq (by omega)]
       rfl
      have ha:a=⟨a.block,a.off,none⟩:=by
       obtain ⟨b,o,s⟩:=a
       simp only at mq
       rw[mq.1]
      refine single (.slice (some a) len cap) (.list e ((List.range len).map fun i=>cM P e (X i))) rfl ?_ ?_
      ·rw[ha]
       refine .list (fun i j=>(F i).getD j undef) hu (by simp) hl (fun _=>mq.2) ib ?_
       intro i j y t' hy hj
       obtain ⟨hi,v,d1,d2,_⟩:=hx i j y t' hy hj
       rw[ud,d1]
       exact d2
      ·refine .list hu (by simp;omega) ?_ ?_
       ·intro i y hy IG
        have hi:i<len:=by
         have:=(bL.1 hy).1
         simpa using this
        simp[GN hi] at hy
        rw[←hy]
        exact ⟨X i,by simp[cM,IG],(NX i hi).2.2.1⟩
       ·intro i j y t' hy hj
        obtain ⟨_,v,_,_,d3⟩:=hx i j y t' hy hj
        exact d3
   | struct fs=>
    simp only[aT] at hg
    obtain ⟨xs,n,hn,rfl,hlen,lN,hx⟩:=DataW.trod_struct hu h
    cases hn
    have het:bx P t=fs.toList.flatMap fun f=>bx P f.type:=by
     rw[←NW hg.2]
     simp[bx,b7,hu]
    obtain ⟨m,ys,_,ta,hm⟩:=XG (w:=w) (rd:=fun t cs=>DataW.trod enc P w base spare held fuel t cs) cs (fun t cs x a b=>IF hL fuel t cs x a b) fs.toList 0 hg.1 (by
     intro f hf
     obtain ⟨i,hi⟩:=tX hf
     rw[ua] at hi
     have mo:i<fs.size:=(jd.1 hi).1
     exact ⟨_,(hx i f hi).trans (cq (by omega))⟩)
    rw[het]
    refine ⟨ys,?_⟩
    have:(cs.drop 0).take (m-0)=cs:=by
     rw[dk,hm,←het,←hc,←hlen,qC]
    rw[this] at ta
    exact ta
   | array n e=>
    simp only[aT,bq] at hg
    obtain ⟨xs,m,hn,rfl,hlen,lN,hx⟩:=DataW.trod_array hu h
    cases hn
    have het:bx P t=(List.replicate n (bx P e)).flatten:=by
     rw[←NW hg.2.2]
     simp[bx,b7,hu]
    obtain ⟨ys,ta⟩:=XH (w:=w) (rd:=DataW.trod enc P w base spare held fuel e) cs hg.2.1 (fun cs x b=>IF hL fuel e cs x (IE hg.1) b) n (by
     intro i hi
     exact ⟨_,(hx i hi).trans (cq (by omega))⟩)
    rw[het]
    refine ⟨ys,?_⟩
    have:cs.take (n*P.cellsOf e)=cs:=by
     have:n*P.cellsOf e=cs.length:=by
      rw[hlen,hc,het,hg.2.1]
      simp
     rw[this,qC]
    rw[this] at ta
    exact ta
   | _=>cases hg
end
section
variable {P:Program} {H:Type} {enc:TypeId × Value→H} {w:World} {L:List TypeId}
theorem agU {base NY:Nat} {spare:Nat→Bool} {held:Bool} {r:Reach} {β:Nat→Option Nat} {hp:Nat→Option an} (hL:Dp P L=true) {t:TypeId} {v:Value} {d:DataW H} {ps:List MemPlace} (ht:t∈L) (fR:Value.okWide P w r NY t v)
  (h:DataW.Trod enc P w base spare held t v d ps): ∃x,aq P w (nt w) β hp v x∧kL P t x:=by
 obtain ⟨fuel,hf⟩:=h
 obtain ⟨xs,c1,c2,c3⟩:=IF hL fuel t _ _ ht hf
 have hg:=gn.1 hL t ht
 unfold NV at hg
 rw[aT,bq] at hg
 obtain ⟨_,hg⟩:=hg
 have IG:b7 P t=true→∃x,aq P w (nt w) β hp v x∧kL P t x:=by
  intro ha
  have hv: ∃cs,v= .agg cs:=by
   unfold Value.okWide at fR
   unfold b7 at ha
   split at fR
   ·obtain ⟨cs,e,_⟩:=fR;exact ⟨cs,e⟩
   ·obtain ⟨cs,e,_⟩:=fR;exact ⟨cs,e⟩
   ·split at ha<;>simp_all
  obtain ⟨cs,rfl⟩:=hv
  refine ⟨.agg xs,.agg (by simpa[Value.cells] using c1.trans c2.symm) fun j v x hv hx=> ?_,fun _=>⟨xs,rfl,c2⟩,fun j t' hj=> ?_⟩
  ·have hj:j<(bx P t).length:=by rw[←c2];exact (bL.1 hx).1
   obtain ⟨v',y,e1,e2,e3,_⟩:=c3 j _ (cq hj)
   rw[hx] at e2
   cases e2
   have:cs[j]? =some v':=by simpa[Value.cells] using e1
   rw[hv] at this
   cases this
   exact .sG e3
  ·obtain ⟨v',y,e1,e2,_,e4⟩:=c3 j t' hj
   have:ch P t (.agg xs) j=y:=by
    simp only[ch,ha,cond_true,V.cell]
    exact wj _ _ _ e2
   rw[this]
   exact e4
 have pR:b7 P t=false→v.cells= #[v]→∃x,aq P w (nt w) β hp v x∧kL P t x:=by
  intro ha wx
  have he:bx P t=[t]:=by simp[bx,ha]
  rw[he] at c1 c2 c3
  obtain ⟨v',y,e1,e2,e3,e4⟩:=c3 0 t rfl
  rw[wx] at e1
  cases e1
  refine ⟨y,.sG e3,⟨fun h=>absurd (ha.symm.trans h) (by simp),fun j t' hj=> ?_⟩⟩
  rw[he] at hj
  cases j with
  | succ j=>simp at hj
  | zero=>
   cases hj
   simpa[ch,ha] using e4
 unfold Value.okWide at fR
 cases hu:P.underlying t with
 | none=>rw[hu] at hg;cases hg
 | some dsc=>
  rw[hu] at hg fR
  cases dsc with
  | int k=>
   refine pR (by simp[b7,hu]) ?_
   simp only[Cell.okWide,Cell.ok,hu] at fR
   cases v<;>first|rfl|(simp at fR;done)|exact fR.elim
  | bool=>
   refine pR (by simp[b7,hu]) ?_
   simp only[Cell.okWide,Cell.ok,hu] at fR
   cases v<;>first|rfl|(simp at fR;done)|exact fR.elim
  | string=>
   refine pR (by simp[b7,hu]) ?_
   simp only[Cell.okWide,Cell.ok,hu] at fR
   cases v<;>first|rfl|(simp at fR;done)|exact fR.elim
  | slice e=>
   refine pR (by simp[b7,hu]) ?_
   simp only[Cell.okWide,Cell.ok,hu] at fR
   cases v<;>first|rfl|(simp at fR;done)|exact fR.elim
  | struct fs=>exact IG (by simp[b7,hu])
  | array n e=>exact IG (by simp[b7,hu])
  | _=>cases hg
theorem XI {base NY:Nat} {spare:Nat→Bool} {held:Bool} {r:Reach} {β:Nat→Option Nat} {hp:Nat→Option an} (hL:Dp P L=true): ∀{ts:List TypeId} {vs:List Value} {ds:List (DataW H)} {ps:List MemPlace},
  (∀t∈ts,t∈L)→(∀(j:Nat) t v,ts[j]? =some t→vs[j]? =some v→Value.okWide P w r NY t v)→DataW.TrodAll enc P w base spare held ts vs ds ps→
  ∃xs,vs.length=xs.length∧(∀(j:Nat) v x,vs[j]? =some v→xs[j]? =some x→aq P w (nt w) β hp v x)∧sg P ts xs
 | [],vs,ds,ps,_,_,h=>by
  obtain ⟨rfl,rfl,rfl⟩:=trodAll_nil h
  exact ⟨[],rfl,by simp,trivial⟩
 | t::ts,vs,ds,ps,hm,fR,h=>by
  obtain ⟨v,Hm,d,XJ,a,b,rfl,rfl,rfl,h1,h2⟩:=trodAll_cons h
  obtain ⟨x,Dg,oS⟩:=agU (β:=β) (hp:=hp) hL (hm t (by simp)) (fR 0 t v rfl rfl) h1
  obtain ⟨xs,hl,hr,hw⟩:=XI (β:=β) (hp:=hp) hL (fun t ht=>hm t (by simp[ht])) (fun j t v a b=>fR (j+1) t v (by simpa using a) (by simpa using b)) h2
  refine ⟨x::xs,by simp[hl],fun j v' x' hv hx=> ?_,oS,hw⟩
  cases j with
  | zero=>cases hv;cases hx;exact Dg
  | succ j=>exact hr j v' x' (by simpa using hv) (by simpa using hx)
theorem XK {base:Nat} {spare:Nat→Bool} {held:Bool}: ∀{ts:List TypeId} {vs:List Value} {ds:List (DataW H)} {ps:List MemPlace},DataW.TrodAll enc P w base spare held ts vs ds ps→ds.length=ts.length
 | [],vs,ds,ps,h=>by obtain ⟨rfl,rfl,rfl⟩:=trodAll_nil h;rfl
 | t::ts,vs,ds,ps,h=>by
  obtain ⟨v,Hm,d,XJ,a,b,rfl,rfl,rfl,h1,h2⟩:=trodAll_cons h
  simp[XK h2]
theorem XL {base:Nat} (hl:laidOutB P=true) {W W':World} {XM:Nat→Bool}: ∀{ts:List TypeId} {vs:List Value} {ds:List (DataW H)} {ps:List MemPlace},(∀t∈ts,P.readableRec t=true∧t<P.types.size)→
  DataW.TrodAll enc P W base (fun _=>true) true ts vs ds ps→(∀p∈ps,W.sameAt W' p)→(∀p∈ps,XM p.block=true)→DataW.TrodAll enc P W' base XM true ts vs ds ps
 | [],vs,ds,ps,_,h,_,_=>by obtain ⟨rfl,rfl,rfl⟩:=trodAll_nil h;exact trodAll_mk0
 | t::ts,vs,ds,ps,hr,h,h1,h2=>by
  obtain ⟨v,Hm,d,XJ,a,b,rfl,rfl,rfl,h3,h4⟩:=trodAll_cons h
  obtain ⟨r1,r2⟩:=hr t (by simp)
  exact trodAll_cons_mk (WideElems.Trod_stays hl r1 r2 h3 (fun p hp=>h1 p (by simp[hp])) (fun p hp=>h2 p (by simp[hp])))
   (XL hl (fun t ht=>hr t (by simp[ht])) h4 (fun p hp=>h1 p (by simp[hp])) (fun p hp=>h2 p (by simp[hp])))
theorem agV {f:Func} {s:ChangeSpec} {apart fresh handsOn again:Bool} {W W':World} {args:Array Value} {v:Value} {ds gs:List (DataW H)} {before pa pv:List MemPlace}
  (hW:DataW.Whole enc P f.params.toList s.vars apart W args.toList ds gs before)
  (XN: ∀(b:Nat) (sp:Nat→Bool) (hd:Bool),DataW.TrodAll enc P W' b sp hd f.resultTypes.toList (v.resultList f.resultTypes.size) (s.fn H (ds++gs)).results [])
  (wL: ∀sp:Nat→Bool,(∀p∈before,sp p.block=true)→DataW.TrodAll enc P W' 0 sp true f.params.toList args.toList (s.fn H (ds++gs)).args pa)
  (XO: ∀sp:Nat→Bool,(∀p∈before,sp p.block=true)→DataW.TrodVars enc P W' sp s.vars (s.fn H (ds++gs)).vars pv)
  (ff:before=pa++pv) (hk:W.keptBut W' (· ∈before)) (NZ: ∀a:Addr,a.block<W.heap.size→W'.frozen? a=W.frozen? a)
  (aw: ∀(j:Nat) (t:TypeId) (r:Value),f.resultTypes[j]? =some t→(v.resultList f.resultTypes.size)[j]? =some r→Value.okWide P W' .any 0 t r):
  s.post enc P f apart fresh handsOn again W args v W':=by
 have hold: ∀p∈before,(fun b=>decide (b<W.heap.size)) p.block=true:=fun p hp=>by simpa using hW.lt p hp
 refine ⟨ds,gs,before,[],pa,pv,hW,XN _ _ _,wL _ hold,XO _ hold,World.keptBut_mono (fun p hp=>⟨hp,?_⟩) hk,fun _=> ?_⟩
 ·rw[ff,dp] at hp
  exact Or.inr hp
 ·have aR:=hW.lt
  obtain ⟨_,_,_,_,_,hz,hn⟩:=hW
  refine ⟨aw,_,_,([]++pa)++pv,⟨[]++pa,pv,trodAll_append (wL _ (fun _ _=>rfl)) (XN _ _ _),XO _ (fun _ _=>rfl),rfl,?_,?_⟩,?_⟩
  ·intro b off hp
   have hb:MemPlace.cell b off∈before:=by rw[ff];simpa using hp
   rw[NZ ⟨b,off,none⟩ (aR _ hb)]
   exact hz b off hb
  ·intro ha
   have:=hn ha
   rw[ff] at this
   simpa using this
  ·intro p hp _
   rw[ff]
   simpa using hp
theorem agW {A:cP} (hP:jt P A) (oZ:P.follows .mixedOrders=true) {f key:Nat} {fn:Func} {tb:TypeId} {s:ChangeSpec} {apart fresh handsOn again:Bool}
  (hf:P.funcs[f]? =some fn) (N0:A.hY key=f) (hL:Dp P L=true) (ct:fn.params.toList.all (fun t=>hasB L t)=true) (IH:fn.resultTypes= #[tb]) (II:P.underlying tb=some .bool) (IJ:s.vars=[])
  (hs: ∀ds:List (DataW H),ds.length=fn.params.toList.length→s.fn H ds={results:=[.lit (.bool true)],args:=ds})
  (N3:laidOutB P=true) (N4:fn.params.toList.all (fun t=>P.readableRec t&&Nat.blt t P.types.size)=true)
  (fM:(A.sin key).cA=[]) (aw:((A.sin key).bR.map (·.2)).all (VS.ok 0)=true) (Dq:(A.gb key).bR=[(0,.one .bool)]) (halt:A.alt key=none)
  {W:World} {base:Nat} {args:Array Value} {ds gs:List (DataW H)} {before:List MemPlace}
  (N5:iD P A.aO W (nt W)) (fR: ∀(j:Nat) t v,fn.params[j]? =some t→args[j]? =some v→Value.okWide P W .any base t v)
  (hW:DataW.Whole enc P fn.params.toList s.vars apart W args.toList ds gs before) (Q:List V→Prop)
  (hQ: ∀xs:List V,sg P fn.params.toList xs→(∀(j:Nat) v x,args.toList[j]? =some v→xs[j]? =some x→aq P W (nt W) (fun _=>none) (fun _=>none) v x)→Q xs)
  (N6: ∀xs,sg P fn.params.toList xs→Q xs→∃ds,sh ((A.sin key).bR.map (·.2)) xs=some ds∧Call P A key ds=some [.bool true]):
  Calls P f args W fun e W'=> ∃v,e= .returned v∧s.post enc P fn apart fresh handsOn again W args v W':=by
 have XP:=hW
 obtain ⟨p,q,hA,hV,rfl,NZ,kz⟩:=hW
 rw[IJ] at hV
 obtain ⟨hgs,hq⟩:gs=[]∧q=[]:=by
  cases gs with
  | nil=>exact ⟨rfl,hV⟩
  | cons g gs=>exact hV.elim
 subst hgs
 subst hq
 obtain ⟨xs,hl,hr,XQ⟩:=XI (β:=fun _=>none) (hp:=fun _=>none) hL (fun t ht=>IE (gn.1 ct t ht)) (fun j t v a b=>fR j t v (by simpa using a) (by simpa using b)) hA
 obtain ⟨ls,IK,Dd⟩:=N6 xs XQ (hQ xs XQ hr)
 obtain ⟨fn',c,h1,h2,h3⟩:=agP (A:=A) hP oZ key ls [.bool true] Dd
 rw[N0] at h1 h3
 rw[hf] at h1
 cases h1
 have z8: ∀j,(bH (A.sin key) ls).hp j=none:=fun j=>by simp[bH,mk,fM,fq,kQ]
 obtain ⟨_,r1,r2⟩:=C2 (P:=P) (w:=W) (I:=nt W) (n:=0) (β:=fun _=>none) (β':=fun _=>none) (hp:=fun _=>none) (hp':=(bH (A.sin key) ls).hp) (fun j hj=>absurd hj (Nat.not_lt_zero j)) IK aw
 have hlen:((A.sin key).bR.map (·.2)).length=xs.length:=by rw[←r1 [],NT]
 have h4:=h3 W (nt W) (fun _=>none) args.toList ⟨fun id blk h=>(by rw[z8] at h;cases h),fun id aN blk blk' b h=>(by rw[z8] at h;cases h),fun id blk b h=>(by rw[z8] at h;cases h),fun b h=>h⟩ N5
  (by rw[hl,←hlen,bc]) (fun j v y hv hy=>r2 [] j v y (fun x hx=>hr j v x hv hx) (by rw[di];exact hy))
 have ea:args.toList.toArray=args:=by simp
 rw[ea] at h4
 refine h4.mono fun e W' ⟨v,I2,cC,he,ha⟩=>⟨v,he,?_⟩
 have wo: ∀b,b<W.heap.size→W'.heap[b]? =W.heap[b]? :=fun b hb=>ha.zS.cl b hb (by rintro ⟨j,blk,hj,_⟩;rw[z8] at hj;cases hj)
 have M6:=ha.res
 have IL:A.so key [.bool true]=A.gb key∧A.lv key [.bool true]=[.bool true]:=by unfold cP.so cP.lv;rw[halt];exact ⟨rfl,rfl⟩
 rw[IL.1,IL.2,Dq] at M6
 obtain rfl:v= .bool true:=M6.lI
 have nj:Value.okWide P W' .any 0 tb (.bool true):=by simp[Value.okWide,II,Cell.okWide,Cell.ok]
 have mV:ds.length=fn.params.toList.length:=XK hA
 have jU: ∀p'∈p++[],W.sameAt W' p':=by
  intro p' hp'
  have aR:=XP.lt p' hp'
  cases p' with
  | cell b o=>exact World.cell?_of_block (w:=W) (wo b aR)
  | map b=>exact wo b aR
 refine agV (pa:=p) (pv:=[]) XP ?_ ?_ ?_ rfl ?_ ?_ ?_
 ·intro b sp hd
  rw[di,hs ds mV,IH]
  exact trodAll_mk1 ⟨1,by simp[DataW.trod,Value.cells,II]⟩
 ·intro sp mq
  rw[di,hs ds mV]
  refine XL N3 (fun t ht=> ?_) hA (fun p' hp'=>jU p' (by simpa using hp')) (fun p' hp'=>mq p' (by simpa using hp'))
  have:=gn.1 N4 t ht
  simp only[aT] at this
  exact ⟨this.1,by simpa[ll] using this.2⟩
 ·intro sp mq
  rw[IJ,di,hs ds mV]
  exact rfl
 ·refine ⟨ha.zS.io.1,ha.zS.io.2,fun i hi=> ?_⟩
  rw[wo i hi]
  split<;>simp_all
 ·intro a aR
  exact World.frozen?_of_block (w:=W) (wo a.block aR)
 ·intro j t r hj N7
  rw[IH] at hj N7
  cases j with
  | zero=>
   simp[Value.resultList] at hj N7
   subst hj
   subst N7
   exact nj
  | succ j=>simp at hj
theorem aed {A:cP} (hP:jt P A) (oZ:P.follows .mixedOrders=true) {f key:Nat} {fn:Func} {tb:TypeId} {s:ChangeSpec} {apart fresh handsOn again:Bool}
  (hf:P.funcs[f]? =some fn) (N0:A.hY key=f) (hL:Dp P L=true) (ct:fn.params.toList.all (fun t=>hasB L t)=true) (IH:fn.resultTypes= #[tb]) (II:P.underlying tb=some .bool) (IJ:s.vars=[])
  (hs: ∀ds:List (DataW H),ds.length=fn.params.toList.length→s.fn H ds={results:=[.lit (.bool true)],args:=ds})
  (N3:laidOutB P=true) (N4:fn.params.toList.all (fun t=>P.readableRec t&&Nat.blt t P.types.size)=true)
  (fM:(A.sin key).cA=[]) (aw:((A.sin key).bR.map (·.2)).all (VS.ok 0)=true) (Dq:(A.gb key).bR=[(0,.one .bool)]) (halt:A.alt key=none)
  (N6: ∀xs,sg P fn.params.toList xs→∃ds,sh ((A.sin key).bR.map (·.2)) xs=some ds∧Call P A key ds=some [.bool true])
  {W:World} {base:Nat} {args:Array Value} {ds gs:List (DataW H)} {before:List MemPlace}
  (N5:iD P A.aO W (nt W)) (fR: ∀(j:Nat) t v,fn.params[j]? =some t→args[j]? =some v→Value.okWide P W .any base t v)
  (hW:DataW.Whole enc P fn.params.toList s.vars apart W args.toList ds gs before):
  Calls P f args W fun e W'=> ∃v,e= .returned v∧s.post enc P fn apart fresh handsOn again W args v W':=
 agW hP oZ hf N0 hL ct IH II IJ hs N3 N4 fM aw Dq halt N5 fR hW (fun _=>True) (fun _ _ _=>trivial) fun xs h _=>N6 xs h
end
end Go.AM
namespace Go.AM
@[simp] theorem V.toInt_int (k:IntKind) (n:Int):V.toInt (.int k n)=n:=by cases k<;>rfl
@[simp] theorem V.cm (b:Bool):V.toBool (.bool b)=b:=by cases b<;>rfl
@[simp] theorem V.rn (s:List UInt8):V.toStr (.str s)=s:=by cases s<;>rfl
@[simp] theorem V.bK (e:TypeId) (es:List V):V.toList (.list e es)=es:=by cases es<;>rfl
@[simp] theorem V.atU (e:TypeId) (es:List V):V.toList (.own e es)=es:=by cases es<;>rfl
@[simp] theorem V.agX (cs:List V) (j:Nat):V.cell (.agg cs) j=V.nth cs j:=by cases cs<;>rfl
@[simp] theorem V.atV (cs:List V) (j:Nat):V.comp (.bJ cs) j=V.nth cs j:=by cases cs<;>rfl
@[simp] theorem V.az (x:V) (l:List V):V.nth (x::l) 0=x:=by cases l<;>rfl
@[simp] theorem V.td (x:V) (l:List V) (n:Nat):V.nth (x::l) (n+1)=V.nth l n:=by cases l<;>rfl
@[simp] theorem V.atW (x y:V) (l:List V):V.nth (x::y::l) 1=y:=by cases l<;>rfl
@[simp] theorem V.atX (x y z:V) (l:List V):V.nth (x::y::z::l) 2=z:=by cases l<;>rfl
@[simp] theorem V.atY (x y z u:V) (l:List V):V.nth (x::y::z::u::l) 3=u:=by cases l<;>rfl
theorem wrap64 {x:Int} (h1: -9223372036854775808≤x) (h2:x<9223372036854775808):IntKind.wrap .i64 x=x:=by
 rw[IntKind.wrap_i64];omega
theorem bB {x:Int} (h1: -9223372036854775808≤x:=by omega) (h2:x<9223372036854775808:=by omega):IntKind.wrap .i64 x=x:=wrap64 h1 h2
theorem IM {x:Int} (h1:0≤x) (h2:x<256):IntKind.wrap .u8 x=x:=by
 rw[IntKind.wrap_u8];omega
@[simp] theorem lP (es:List V) (n:Nat):idx es (n:Int)=es[n]? :=by simp[idx]
section
variable {X R:Type} {step:X→Option (X ⊕ R)}
theorem N8 (s:Nat→X) (n:Nat) {r:R} (h: ∀i,i<n→step (s i)=some (.inl (s (i+1)))) (he:step (s n)=some (.inr r)):Loop step (s 0)=some r:=by
 induction n generalizing s with
 | zero=>exact br he
 | succ n ih=>
  rw[bS (h 0 (by omega))]
  exact ih (fun i=>s (i+1)) (fun i hi=>h (i+1) (by omega)) he
end
@[simp] theorem au {α:Type} (p:Prop) [Decidable p] (a b:α):(bif decide p then a else b)=if p then a else b:=by by_cases h:p<;>simp[h]
@[simp] theorem dv {α:Type} (m n:Int) (a b:α):(bif m==n then a else b)=if m=n then a else b:=by
 by_cases h:m=n
 ·simp[h]
 ·have:(m==n)=false:=by simp[h]
  rw[this,aj h];rfl
@[simp] theorem fx {α:Type} (m n:Int) (a b:α):(bif m != n then a else b)=if m=n then b else a:=by
 by_cases h:m=n
 ·simp[h]
 ·have:(m != n)=true:=by simp[h]
  rw[this,aj h];rfl
@[simp] theorem gz {α:Type} (c:Bool) (a b:α):(bif !c then a else b)=bif c then b else a:=by cases c<;>rfl
@[simp] theorem p6 {α:Type} (m n:Nat) (a b:α):(bif Nat.ble m n then a else b)=if m≤n then a else b:=by
 cases hb:Nat.ble m n with
 | true=>rw[ai (Nat.le_of_ble_eq_true hb)];rfl
 | false=>
  rw[aj fun h=> ?_]
  ·rfl
  ·rw[Nat.ble_eq_true_of_le h] at hb;cases hb
@[simp] theorem bQ {α:Type} (c d:Bool) (a b:α):(bif c&&d then a else b)=bif c then (bif d then a else b) else b:=by cases c<;>rfl
section
variable {P:Program}
def XR (P : Program) : Bool := P.funcs.all fun fn => !(fn.name == "runtime.NumGoroutine")
theorem agY (h:XR P=true):Da P:=by
 intro f fn hf
 unfold XR at h
 have:=(Array.all_eq_true_iff_forall_mem.1 h) fn (Array.mem_of_getElem? hf)
 simpa using this
theorem LU {t:TypeId} {ts:List TypeId} {xs:List V} (h:sg P (t::ts) xs): ∃x ys,xs=x::ys∧kL P t x∧sg P ts ys:=by
 cases xs with
 | nil=>exact h.elim
 | cons x ys=>exact ⟨x,ys,rfl,h.1,h.2⟩
theorem ad8 {xs:List V} (h:sg P [] xs):xs=[]:=by
 cases xs with
 | nil=>rfl
 | cons x ys=>exact h.elim
theorem kL.one {t:TypeId} {x:V} (ha:b7 P t=false) (h:kL P t x):WT P t x:=by
 have he:bx P t=[t]:=by simp[bx,ha]
 have:=h.2 0 t (by rw[he];rfl)
 simpa[ch,ha] using this
theorem WT.eD {t:TypeId} {k:IntKind} {x:V} (hu:P.underlying t=some (.int k)) (h:WT P t x): ∃n,x= .int k n∧k.min≤n∧n≤k.max:=by
 cases h with
 | int h1 h2=>
  rw[hu] at h1
  cases h1
  simp only[Lit.wf,aT,dC] at h2
  exact ⟨_,rfl,h2⟩
 | bool h1=>rw[hu] at h1;cases h1
 | str h1=>rw[hu] at h1;cases h1
 | list h1=>rw[hu] at h1;cases h1
theorem WT.lI {t:TypeId} {x:V} (hu:P.underlying t=some .bool) (h:WT P t x): ∃b,x= .bool b:=by
 cases h with
 | int h1=>rw[hu] at h1;cases h1
 | bool h1=>exact ⟨_,rfl⟩
 | str h1=>rw[hu] at h1;cases h1
 | list h1=>rw[hu] at h1;cases h1
theorem WT.nT {t:TypeId} {x:V} (hu:P.underlying t=some .string) (h:WT P t x): ∃s,x= .str s∧s.length≤maxLen:=by
 cases h with
 | int h1=>rw[hu] at h1;cases h1
 | bool h1=>rw[hu] at h1;cases h1
 | str h1 h2=>exact ⟨_,rfl,h2⟩
 | list h1=>rw[hu] at h1;cases h1
theorem WT.agZ {t e:TypeId} {x:V} (hu:P.underlying t=some (.slice e)) (h:WT P t x): ∃es,x= .list e es∧es.length≤maxLen∧∀y∈es,kL P e y:=by
 cases h with
 | int h1=>rw[hu] at h1;cases h1
 | bool h1=>rw[hu] at h1;cases h1
 | str h1=>rw[hu] at h1;cases h1
 | list h1 h2 h3 h4=>
  rw[hu] at h1
  cases h1
  refine ⟨_,rfl,h2,fun y hy=> ?_⟩
  obtain ⟨i,hi⟩:=tX hy
  exact ⟨h3 i y hi,fun j t' hj=>h4 i j y t' hi hj⟩
theorem kL.mj {t:TypeId} {x:V} (ha:b7 P t=true) (h:kL P t x): ∃xs,x= .agg xs∧xs.length=(bx P t).length∧∀(j:Nat) t' y,(bx P t)[j]? =some t'→xs[j]? =some y→WT P t' y:=by
 obtain ⟨xs,rfl,hl⟩:=h.1 ha
 refine ⟨xs,rfl,hl,fun j t' y hj hy=> ?_⟩
 have:=h.2 j t' hj
 simp only[ch,ha,cond_true,V.agX] at this
 rw[wj _ _ _ hy] at this
 exact this
theorem XS {α:Type} {f:α→V} {p:α→Prop}: ∀{es:List V},(∀y∈es,∃a,y=f a∧p a)→∃l:List α,es=l.map f∧∀a∈l,p a
 | [],_=>⟨[],rfl,by simp⟩
 | y::es,h=>by
  obtain ⟨a,rfl,ha⟩:=h y (by simp)
  obtain ⟨l,rfl,hl⟩:=XS (f:=f) (p:=p) (es:=es) fun z hz=>h z (by simp[hz])
  exact ⟨a::l,rfl,by
   intro b hb
   rcases cE.1 hb with rfl|hb
   ·exact ha
   ·exact hl b hb⟩
theorem kL.int {t:TypeId} {x:V} (hu:P.underlying t=some (.int .i64)) (h:kL P t x): ∃n,x= .int .i64 n∧IntKind.min .i64≤n∧n≤IntKind.max .i64:=
 (h.one (by simp[b7,hu])).eD hu
theorem kL.str {t:TypeId} {x:V} (hu:P.underlying t=some .string) (h:kL P t x): ∃s,x= .str s∧s.length≤maxLen:=
 (h.one (by simp[b7,hu])).nT hu
end
def un.{u} {A B:Type} {γ:Sort u} (f:A→B→γ) (p:A × B):γ:=f p.1 p.2
def cf {A B γ:Type} (f:A→γ) (g:B→γ):A ⊕ B→γ
 | .inl a=>f a
 | .inr b=>g b
def jX:List Nat→Code→Code
 | [],c=>c
 | 0::p,.seq a _=>jX p a
 | _::p,.seq _ b=>jX p b
 | 0::p,.cond _ a _=>jX p a
 | _::p,.cond _ _ b=>jX p b
 | _::p,.block _ c=>jX p c
 | _::p,.loop c=>jX p c
 | _,c=>c
inductive nu where
 | loop (c:Code)
 | cond (t:Nat) (x y:Code)
section
variable (P:Program) (A:cP) (C:ae) (L:bI) (f n m:Nat)
def o5:Code→List nu
 | .seq a b=>o5 a++o5 b
 | .cond (.tmp t) x y=>
  match A.iC f (t*16+15) with
  | none=>o5 x++o5 y
  | some _=>[.cond t x y]
 | .cond (.const _) x y=>o5 x++o5 y
 | .block _ c=>o5 c
 | .loop c=>[.loop c]
 | _=>[]
def rp:nu→Prop
 | .loop c=>
  match A.iC f (keyOf c+1) with
  | none=>True
  | some S=> ∀(β:Type) ds (k:Nat→List V→Option β),L β (keyOf c+1) ds k=(Loop (stepG P A C f n m S c) ds).bind fun r=>k r.1 r.2
 | .cond t x y=>
  match A.iC f (t*16+15) with
  | none=>True
  | some S=> ∀(β:Type) ds (k:Nat→List V→Option β),L β (t*16+15) ds k=(Cr P A C f n m t S x y ds).bind fun r=>k r.1 r.2
def nv:List nu→Prop
 | []=>True
 | b::l=>rp P A C L f n m b∧nv l
variable {P A C L f n m}
theorem nv.left {a b:List nu}:nv P A C L f n m (a++b)→nv P A C L f n m a:=by
 induction a with
 | nil=>exact fun _=>trivial
 | cons x a ih=>exact fun h=>⟨h.1,ih h.2⟩
theorem nv.right {a b:List nu}:nv P A C L f n m (a++b)→nv P A C L f n m b:=by
 induction a with
 | nil=>exact fun h=>h
 | cons x a ih=>exact fun h=>ih h.2
theorem XT: ∀{c:Code} {bs:List nu},o5 A f c=bs→nv P A C L f n m bs→iO P A C L f n m c:=by
 intro c
 induction c with
 | seq a b Ml Mm=>
  intro bs h hb
  subst h
  exact ⟨Ml rfl hb.left,Mm rfl hb.right⟩
 | cond c x y gK gL=>
  intro bs h hb
  subst h
  cases c with
  | tmp t=>
   simp only[o5] at hb
   simp only[iO]
   cases hs:A.iC f (t*16+15) with
   | none=>
    rw[hs] at hb
    exact ⟨gK rfl hb.left,gL rfl hb.right⟩
   | some S=>
    rw[hs] at hb
    have:=hb.1
    simp only[rp,hs] at this
    exact this
  | const v=>exact ⟨gK rfl hb.left,gL rfl hb.right⟩
  | _=>trivial
 | block id c ih=>
  intro bs h hb
  subst h
  exact ih rfl hb
 | loop c ih=>
  intro bs h hb
  subst h
  exact hb.1
 | _=>intro bs h hb;trivial
variable (P A C L f n m) in
noncomputable def N9 {β:Type} (t:Nat) (S:Shape × List (Out × Shape)) (x y:Code) (ds:List V) (k:Nat→List V→Option β):Option β:=
 let kc:Out→St→Option β:=fun o st=>
  match o with
  | .norm=>(ways m 0 S.2 (.norm,canon m (A.join f t) st)).bind fun e=>k e.1 e.2
  | o=>(ways m 0 S.2 (o,st)).bind fun e=>k e.1 e.2
 match (bH S.1 ds).sl t with
 | .bool b=>bif b then jl P A C L f n m x (bH S.1 ds) kc else jl P A C L f n m y (bH S.1 ds) kc
 | _=>none
theorem ag0 {t:Nat} {x y:Code} {S:Shape × List (Out × Shape)} (hS:A.iC f (t*16+15)=some S) (hx:iO P A C L f n m x) (hy:iO P A C L f n m y) {I R:Type} (enc:I→List V) (oe:I→R→Nat × List V)
  (de:List V→I) (body:I→(β:Type)→(R→Option β)→Option β) (wX: ∀ds,bH S.1 (enc (de ds))=bH S.1 ds)
  (e1: ∀i (β:Type) (k:Nat→List V→Option β),N9 P A C L f n m t S x y (enc i) k=body i β (fun r=>k (oe i r).1 (oe i r).2))
  (hl: ∀(β:Type) ds (k:Nat→List V→Option β),L β (t*16+15) ds k=body (de ds) β (fun r=>k (oe (de ds) r).1 (oe (de ds) r).2)):
  rp P A C L f n m (.cond t x y):=by
 simp only[rp,hS]
 intro β ds k
 rw[hl,←e1]
 unfold N9 Cr
 rw[wX]
 simp only
 have hk: ∀(z:Option (Out × St)),(z.bind fun r=>(match r.1 with
   | .norm=>(ways m 0 S.2 (.norm,canon m (A.join f t) r.2)).bind fun e=>k e.1 e.2
   | o=>(ways m 0 S.2 (o,r.2)).bind fun e=>k e.1 e.2))=((z.bind fun r=>
   match r.1 with
   | .norm=>some (Out.norm,canon m (A.join f t) r.2)
   | _=>some r).bind fun r=>ways m 0 S.2 r).bind fun r=>k r.1 r.2:=by
  intro z
  cases z with
  | none=>rfl
  | some r=>obtain ⟨o,st⟩:=r;cases o<;>rfl
 cases (bH S.1 ds).sl t with
 | bool b=>
  cases b with
  | true=>simp only[cond_true,Hj P A C f n m x hx];exact hk _
  | false=>simp only[cond_false,Hj P A C f n m y hy];exact hk _
 | _=>rfl
theorem aZ {b:nu} {l:List nu} (h:rp P A C L f n m b) (h2:nv P A C L f n m l):nv P A C L f n m (b::l):=⟨h,h2⟩
theorem ar:nv P A C L f n m []:=trivial
theorem ag1 {key:Nat} {bs:List nu} (hb:o5 A key (iP P (A.hY key))=bs) (ht:nv P A (Call P A) L key (Cs P (A.hY key)) (A.sin key).cA.length bs) {ds:List V} {r:Option (List V)}
  (h:Hk P A (Call P A) L key ds=r):Call P A key ds=r:=by
 rw[agS,ael P A (Call P A) key (XT hb ht),h]
end
section
variable (P:Program) (A:cP)
def ju (C:ae) (N f n m:Nat):Code→St→Option (Out × St)
 | .skip,st=>some (.norm,st)
 | .region id ops draw,st=>(zn P (A.here f id) C n ops draw st).bind fun st'=>some (.norm,canon m (A.live f id) (freeze m (A.pur f id) st'))
 | .seq a b,st=>(ju C N f n m a st).bind fun r=>
  match r.1 with
  | .norm=>ju C N f n m b r.2
  | _=>some r
 | .cond (.tmp t) x y,st=>
  let go (st:St):Option (Out × St):=
   match st.sl t with
   | .bool b=>(bif b then ju C N f n m x st else ju C N f n m y st).bind fun r=>
    match r.1 with
    | .norm=>some (.norm,canon m (A.join f t) r.2)
    | _=>some r
   | _=>none
  match A.iC f (t*16+15) with
  | none=>go st
  | some S=>(jJ m S.1 st).bind fun ds=>((go (bH S.1 ds)).bind fun r=>ways m 0 S.2 r).bind fun e=>lC 0 S.2 e.1 e.2 fun o st=>some (o,st)
 | .cond (.const (.bool b)) x y,st=>bif b then ju C N f n m x st else ju C N f n m y st
 | .block id c,st=>(ju C N f n m c st).bind fun r=>
  match r.1 with
  | .norm=>some (.norm,canon m (A.blk f id) r.2)
  | .exit aN=>bif Nat.beq aN id then some (.norm,canon m (A.blk f id) r.2) else some r
  | .ret=>some r
 | .loop c,st=>
  match A.iC f (keyOf c+1) with
  | none=>none
  | some S=>(jJ m S.1 st).bind fun ds=>(fl (fun ds=>mg m S.1 S.2 (ju C N f n m c (bH S.1 ds))) N ds).bind fun e=>lC 0 S.2 e.1 e.2 fun o st=>some (o,st)
 | .exit id,st=>some (.exit id,st)
 | .ret,st=>some (.ret,st)
 | _,_=>none
def Oa (C:ae) (N f:Nat) (ds:List V):Option (List V):=
 match P.funcs[A.hY f]? with
 | none=>none
 | some fn=>
  match fn.body with
  | none=>none
  | some c=>bif jk 0 (A.sin f).bR&&(Nat.ble (A.sin f).bR.length fn.ntmps&&((A.sin f).ok&&(jk 0 (A.gb f).bR&&(Nat.beq (A.gb f).bR.length fn.results.size&&pK (nO (A.sin f).cA.length (A.mv f)))))) then
    (ju P A C N f fn.ntmps (A.sin f).cA.length c (Cq A f ds)).bind fun r=>
     match r.1 with
     | .exit _=>none
     | _=>((vW P A f fn (A.sin f).cA.length r.2).run C r.2.hp).map (·.1)
   else none
def IN (N:Nat):Nat→ae
 | 0=>fun _ _=>none
 | n+1=>Oa P A (IN N n) N
variable {P A}
theorem XU {X R:Type} {s1 s2:X→Option (X ⊕ R)} (h: ∀x y,s1 x=some y→s2 x=some y): ∀(n:Nat) (x:X) (r:R),fl s1 n x=some r→fl s2 n x=some r
 | 0,x,r,e=>by cases e
 | n+1,x,r,e=>by
  simp only[fl] at e⊢
  obtain ⟨y,h1,h2⟩:=bind_some e
  rw[h x y h1]
  cases y with
  | inl z=>exact XU h n z r h2
  | inr q=>exact h2
theorem ag2 {C:ae} {N f n m:Nat}: ∀(c:Code) {st:St} {r:Out × St},ju P A C N f n m c st=some r→exec P A C f n m c st=some r:=by
 intro c
 induction c with
 | skip=>exact fun e=>e
 | exit id=>exact fun e=>e
 | ret=>exact fun e=>e
 | region id ops draw=>exact fun e=>e
 | seq x y gK gL=>
  intro st r e
  simp only[ju,exec] at e⊢
  obtain ⟨⟨o,s1⟩,h1,h2⟩:=bind_some e
  rw[gK h1]
  cases o with
  | norm=>exact gL h2
  | exit id=>exact h2
  | ret=>exact h2
 | cond c x y gK gL=>
  intro st r e
  cases c with
  | tmp t=>
   have go: ∀{st:St} {r:Out × St},(match st.sl t with
     | .bool b=>(bif b then ju P A C N f n m x st else ju P A C N f n m y st).bind fun r=>
      match r.1 with
      | .norm=>some (.norm,canon m (A.join f t) r.2)
      | _=>some r
     | _=>none)=some r→(match st.sl t with
     | .bool b=>(bif b then exec P A C f n m x st else exec P A C f n m y st).bind fun r=>
      match r.1 with
      | .norm=>some (.norm,canon m (A.join f t) r.2)
      | _=>some r
     | _=>none)=some r:=by
    intro st r e
    cases hs:st.sl t<;>rw[hs] at e<;>simp only at e⊢ <;>first|(cases e;done)|skip
    rename_i b
    obtain ⟨x1,h1,h2⟩:=bind_some e
    cases b with
    | true=>simp only[cond_true,gK h1,Option.bind_some];exact h2
    | false=>simp only[cond_false,gL h1,Option.bind_some];exact h2
   simp only[ju,exec] at e⊢
   split at e
   ·rename_i hS
    try rw[hS]
    exact go e
   ·rename_i S hS
    obtain ⟨ds,h1,h2⟩:=bind_some e
    obtain ⟨e',h3,h4⟩:=bind_some h2
    obtain ⟨r1,h5,h6⟩:=bind_some h3
    try rw[hS]
    simp only[h1,Option.bind_some]
    exact (congrArg (fun z:Option (Out × St)=>(z.bind fun r=>ways m 0 S.2 r).bind fun e=>lC 0 S.2 e.1 e.2 fun o st=>some (o,st)) (go h5)).trans (by simp only[Option.bind_some,h6];exact h4)
  | const v=>
   cases v with
   | bool b=>
    simp only[ju,exec] at e⊢
    cases b with
    | true=>exact gK e
    | false=>exact gL e
   | _=>simp only[ju] at e;cases e
  | _=>simp only[ju] at e;cases e
 | block id c ih=>
  intro st r e
  simp only[ju,exec] at e⊢
  obtain ⟨x1,h1,h2⟩:=bind_some e
  rw[ih h1]
  exact h2
 | loop c ih=>
  intro st r e
  simp only[ju,exec] at e⊢
  split at e
  ·cases e
  ·rename_i S hS
   obtain ⟨ds,h1,h2⟩:=bind_some e
   obtain ⟨e',h3,h4⟩:=bind_some h2
   try rw[hS]
   simp only[h1,Option.bind_some]
   rw[y9 (XU (s2:=fun ds=>mg m S.1 S.2 (exec P A C f n m c (bH S.1 ds))) (fun x y wW=>by
    unfold mg at wW⊢
    obtain ⟨z,h5,h6⟩:=bind_some wW
    rw[ih h5]
    exact h6) N ds e' h3)]
   exact h4
 | _=>intro st r e;simp only[ju] at e;cases e
theorem ag3 {C:ae} {N f:Nat} {ds es:List V} (e:Oa P A C N f ds=some es):pM P A C f ds=some es:=by
 unfold Oa at e
 unfold pM
 cases hf:P.funcs[A.hY f]? with
 | none=>rw[hf] at e;cases e
 | some fn=>
  rw[hf] at e
  simp only at e⊢
  cases hb:fn.body with
  | none=>rw[hb] at e;cases e
  | some c=>
   rw[hb] at e
   simp only at e⊢
   cases hc:(jk 0 (A.sin f).bR&&(Nat.ble (A.sin f).bR.length fn.ntmps&&((A.sin f).ok&&(jk 0 (A.gb f).bR&&(Nat.beq (A.gb f).bR.length fn.results.size&&pK (nO (A.sin f).cA.length (A.mv f))))))) with
   | false=>rw[hc] at e;cases e
   | true=>
    rw[hc] at e
    simp only[cond_true] at e⊢
    obtain ⟨x,h1,h2⟩:=bind_some e
    rw[ag2 c h1]
    exact h2
theorem XV {N:Nat}: ∀n {f:Nat} {a r:List V},IN P A N n f a=some r→lD P A n f a=some r
 | 0,f,a,r,h=>by cases h
 | n+1,f,a,r,h=>by
  obtain ⟨M,hM⟩:=IC (C:=IN P A N n) (D:=fun _=>lD P A n) (fun f a r h=>⟨0,fun _ _=>XV n h⟩) (ag3 h)
  exact hM M (bC _)
theorem ag4 {N n f:Nat} {a r:List V} (h:IN P A N n f a=some r):Call P A f a=some r:=Dm.2 ⟨n,XV n h⟩
end
inductive LK where
 | int (k:IntKind)
 | bool
 | str
 | list (e:TypeId)
 | nat
def LK.Ty:LK→Type
 | .int _=>Int
 | .bool=>Bool
 | .str=>List UInt8
 | .list _=>List V
 | .nat=>Nat
def LK.enc:(k:LK)→k.Ty→V
 | .int k,n=> .int k n
 | .bool,b=> .bool b
 | .str,s=> .str s
 | .list e,l=> .list e l
 | .nat,n=>ed n
def LK.dec:(k:LK)→V→k.Ty
 | .int _,v=>v.toInt
 | .bool,v=>v.toBool
 | .str,v=>v.toStr
 | .list _,v=>v.toList
 | .nat,v=>mc v
theorem LK.XW: ∀(k:LK) (x:k.Ty),k.dec (k.enc x)=x
 | .int _,_=>rfl
 | .bool,_=>rfl
 | .str,_=>rfl
 | .list _,_=>rfl
 | .nat,_=>rfl
def Ob:List Nat→List LK
 | []=>[]
 | _::l=> .nat::Ob l
def LS.ks:LS→List LK
 | .int k=>[.int k]
 | .bool=>[.bool]
 | .str=>[.str]
 | .list e=>[.list e]
 | .sub .. =>[.nat,.nat]
 | .ptr _=>[.nat,.nat]
 | .row _ _ cs=>Ob cs
 | .cY _ cs _=> .nat::Ob cs
 | _=>[]
def z9:List LS→List LK
 | []=>[]
 | l::ls=>l.ks++z9 ls
def VS.ks:VS→List LK
 | .one l=>l.ks
 | .agg ls=>z9 ls
 | .bJ ls=>z9 ls
 | .fn _ a b=>z9 a++z9 b
 | .pref _ ls=>z9 ls
def XX:List VS→List LK
 | []=>[]
 | l::ls=>l.ks++XX ls
def BS.ks:BS→List LK
 | .var _ cs=>XX cs
 | .arr e _=>[.list e]
 | .nest e=>[.list e]
 | .dead=>[]
 | .map t=>[.list t]
def XY:List (Nat × VS)→List LK
 | []=>[]
 | p::l=>p.2.ks++XY l
def XZ:List BS→List LK
 | []=>[]
 | b::l=>b.ks++XZ l
def Shape.ks (S:Shape):List LK:=XY S.bR++XZ S.cA
def Oc:List Nat→List V→List V
 | [],_=>[]
 | _::cs,ds=>ed (mc (V.nth ds 0))::Oc cs (ds.drop 1)
def LS.norm:LS→List V→List V
 | .int k,ds=>[.int k (V.nth ds 0).toInt]
 | .bool,ds=>[.bool (V.nth ds 0).toBool]
 | .str,ds=>[.str (V.nth ds 0).toStr]
 | .list e,ds=>[.list e (V.nth ds 0).toList]
 | .sub ..,ds=>[ed (mc (V.nth ds 0)),ed (mc (V.nth ds 1))]
 | .ptr _,ds=>[ed (mc (V.nth ds 0)),ed (mc (V.nth ds 1))]
 | .row _ _ cs,ds=>Oc cs ds
 | .cY _ cs _,ds=>ed (mc (V.nth ds 0))::Oc cs (ds.drop 1)
 | _,_=>[]
def Aa:List LS→List V→List V
 | [],_=>[]
 | l::ls,ds=>l.norm ds++Aa ls (ds.drop l.size)
def VS.norm:VS→List V→List V
 | .one l,ds=>l.norm ds
 | .agg ls,ds=>Aa ls ds
 | .bJ ls,ds=>Aa ls ds
 | .fn _ a b,ds=>Aa a ds++Aa b (ds.drop (lA a))
 | .pref _ ls,ds=>Aa ls ds
def X0:List VS→List V→List V
 | [],_=>[]
 | l::ls,ds=>l.norm ds++X0 ls (ds.drop l.size)
def BS.norm:BS→List V→List V
 | .var _ cs,ds=>X0 cs ds
 | .arr e _,ds=>[.list e (V.nth ds 0).toList]
 | .nest e,ds=>[.list e (V.nth ds 0).toList]
 | .dead,_=>[]
 | .map t,ds=>[.list t (V.nth ds 0).toList]
def X1:List (Nat × VS)→List V→List V
 | [],_=>[]
 | p::l,ds=>p.2.norm ds++X1 l (ds.drop p.2.size)
def X2:List BS→List V→List V
 | [],_=>[]
 | b::l,ds=>b.norm ds++X2 l (ds.drop b.size)
def Shape.norm (S:Shape) (ds:List V):List V:=X1 S.bR ds++X2 S.cA (ds.drop (pJ S.bR))
def wY:LK→List LK→Type
 | k,[]=>k.Ty
 | k,k'::ks=>k.Ty × wY k' ks
def lQ:List LK→Type
 | []=>Unit
 | k::ks=>wY k ks
def wZ:(k:LK)→(ks:List LK)→wY k ks→List V
 | k,[],x=>[k.enc x]
 | k,k'::ks,x=>k.enc x.1::wZ k' ks x.2
def mz:(ks:List LK)→lQ ks→List V
 | [],_=>[]
 | k::ks,x=>wZ k ks x
def Dr:(k:LK)→(ks:List LK)→List V→wY k ks
 | k,[],l=>k.dec (V.nth l 0)
 | k,k'::ks,l=>(k.dec (V.nth l 0),Dr k' ks l.tail)
def p7:(ks:List LK)→List V→lQ ks
 | [],_=>()
 | k::ks,l=>Dr k ks l
theorem X3: ∀(k:LK) (ks:List LK) (x:wY k ks) (r:List V),Dr k ks (wZ k ks x++r)=x
 | k,[],x,r=>LK.XW k x
 | k,k'::ks,x,r=>by
  show (k.dec (k.enc x.1),Dr k' ks (wZ k' ks x.2++r))=x
  rw[LK.XW,X3 k' ks]
  rfl
def Ab:List LK→Type 1→Type 1
 | [],R=>R
 | k::ks,R=>k.Ty→Ab ks R
def X4:(k:LK)→(ks:List LK)→{R:Type 1}→Ab (k::ks) R→wY k ks→R
 | _,[],_,f,x=>f x
 | _,k'::ks,_,f,x=>X4 k' ks (f x.1) x.2
def w4:(ks:List LK)→{R:Type 1}→Ab ks R→lQ ks→R
 | [],_,f,_=>f
 | k::ks,_,f,x=>X4 k ks f x
def Ac {α:Type} (b:Bool):List Bool→List α→List α
 | [],_=>[]
 | _,[]=>[]
 | c::m,x::l=>bif c==b then x::Ac b m l else Ac b m l
def merge:List Bool→List V→List V→List V
 | [],_,_=>[]
 | true::m,i,x=>V.nth x 0::merge m i x.tail
 | false::m,i,x=>V.nth i 0::merge m i.tail x
def Ad:List Nat→List LK→List LK
 | [],_=>[]
 | _,[]=>[]
 | 0::t,k::ks=>k::Ad t ks
 | (_+1)::t,_::ks=>Ad t ks
abbrev gA:=List Nat × List LK
def gA.fresh (w:gA):List LK:=Ad w.1 w.2
def put:List Nat→List V→List V→List V
 | [],_,_=>[]
 | 0::t,ds,x=>V.nth x 0::put t ds x.tail
 | (j+1)::t,ds,x=>V.nth ds j::put t ds x
def w5:List Nat→List V→List V
 | [],_=>[]
 | 0::t,l=>V.nth l 0::w5 t l.tail
 | (_+1)::t,l=>w5 t l.tail
def uP:gA→List gA→Type
 | w,[]=>lQ w.fresh
 | w,w'::ws=>lQ w.fresh ⊕ uP w' ws
def te:List gA→Type
 | []=>Empty
 | w::ws=>uP w ws
def wN (ds:List V) {β:Type} (k:Nat→List V→Option β):Nat→(w:gA)→(ws:List gA)→uP w ws→Option β
 | j,w,[],r=>k j (put w.1 ds (mz w.fresh r))
 | j,w,w'::ws,r=>cf (fun x=>k j (put w.1 ds (mz w.fresh x))) (fun y=>wN ds k (j+1) w' ws y) r
def wT (ds:List V) {β:Type} (k:Nat→List V→Option β):(ws:List gA)→te ws→Option β
 | [],r=>Empty.elim r
 | w::ws,r=>wN ds k 0 w ws r
def p8 (ds:List V):Nat→(w:gA)→(ws:List gA)→uP w ws→Nat × List V
 | j,w,[],r=>(j,put w.1 ds (mz w.fresh r))
 | j,w,_::_,.inl x=>(j,put w.1 ds (mz w.fresh x))
 | j,_,w'::ws,.inr y=>p8 ds (j+1) w' ws y
def Ae (ds:List V):(ws:List gA)→te ws→Nat × List V
 | [],r=>Empty.elim r
 | w::ws,r=>p8 ds 0 w ws r
theorem X5 (ds:List V) {β:Type} (k:Nat→List V→Option β): ∀(j:Nat) (w:gA) (ws:List gA) (r:uP w ws),wN ds k j w ws r=k (p8 ds j w ws r).1 (p8 ds j w ws r).2
 | _,_,[],_=>rfl
 | _,_,_::_,.inl _=>rfl
 | j,_,w'::ws,.inr y=>X5 ds k (j+1) w' ws y
theorem IP (ds:List V) {β:Type} (k:Nat→List V→Option β): ∀(ws:List gA) (r:te ws),wT ds k ws r=k (Ae ds ws r).1 (Ae ds ws r).2
 | [],r=>Empty.elim r
 | w::ws,r=>X5 ds k 0 w ws r
def Af:Nat→(w:gA)→(ws:List gA)→List V→uP w ws
 | _,w,[],l=>p7 w.fresh (w5 w.1 l)
 | 0,w,_::_,l=> .inl (p7 w.fresh (w5 w.1 l))
 | j+1,_,w'::ws,l=> .inr (Af j w' ws l)
def X6 (j:Nat):(ws:List gA)→List V→Option (te ws)
 | [],_=>none
 | w::ws,l=>some (Af j w ws l)
def Ag:List Nat→List V→List V
 | [],_=>[]
 | 0::t,x=>V.nth x 0::Ag t x.tail
 | (_+1)::t,x=>Ag t x
theorem Od: ∀(t:List Nat) (ds x:List V),w5 t (put t ds x)=Ag t x
 | [],_,_=>rfl
 | 0::t,ds,x=>congrArg (V.nth x 0:: ·) (Od t ds x.tail)
 | (_+1)::t,ds,x=>Od t ds x
theorem Oe: ∀(t:List Nat) (ks:List LK) (k:LK) (cQ:List LK),Ad t ks=k::cQ→∀x:wY k cQ,∃r,Ag t (wZ k cQ x)=wZ k cQ x++r
 | [],_,_,_,h,_=>by cases h
 | _::_,[],_,_,h,_=>by simp[Ad] at h
 | 0::t,a::ks,k,cQ,h,x=>by
  simp only[Ad,List.cons.injEq] at h
  obtain ⟨rfl,h2⟩:=h
  cases cQ with
  | nil=>exact ⟨Ag t [],rfl⟩
  | cons k' cQ=>
   obtain ⟨r,hr⟩:=Oe t ks k' cQ h2 x.2
   exact ⟨r,congrArg (a.enc x.1:: ·) hr⟩
 | (_+1)::t,a::ks,k,cQ,h,x=>Oe t ks k cQ h x
theorem X7 (w:gA) (ds:List V) (x:lQ w.fresh):p7 w.fresh (w5 w.1 (put w.1 ds (mz w.fresh x)))=x:=by
 rw[Od]
 revert x
 generalize hf:w.fresh=f
 cases f with
 | nil=>intro x;rfl
 | cons k ks=>
  intro x
  obtain ⟨r,hr⟩:=Oe w.1 w.2 k ks hf x
  show Dr k ks (Ag w.1 (wZ k ks x))=x
  rw[hr]
  exact X3 k ks x r
theorem X8 (ds:List V): ∀(j:Nat) (w:gA) (ws:List gA) (r:uP w ws),j≤(p8 ds j w ws r).1
 | _,_,[],_=>bC _
 | _,_,_::_,.inl _=>bC _
 | j,_,w'::ws,.inr y=>jb (Nat.le_succ j) (X8 ds (j+1) w' ws y)
theorem ag5 (w:gA) (l:List V): ∀j,Af j w [] l=p7 w.fresh (w5 w.1 l)
 | 0=>rfl
 | _+1=>rfl
theorem X9 (ds:List V): ∀(j:Nat) (w:gA) (ws:List gA) (r:uP w ws),Af ((p8 ds j w ws r).1-j) w ws (p8 ds j w ws r).2=r
 | j,w,[],r=>(ag5 w _ _).trans (X7 w ds r)
 | j,w,w'::ws,.inl x=>by
  show Af (j-j) w (w'::ws) (put w.1 ds (mz w.fresh x))= .inl x
  rw[Nat.sub_self]
  exact congrArg Sum.inl (X7 w ds x)
 | j,w,w'::ws,.inr y=>by
  have h1:=X8 ds (j+1) w' ws y
  have h2:=X9 ds (j+1) w' ws y
  show Af ((p8 ds (j+1) w' ws y).1-j) w (w'::ws) (p8 ds (j+1) w' ws y).2= .inr y
  obtain ⟨d,hd⟩: ∃d,(p8 ds (j+1) w' ws y).1=j+1+d:=⟨(p8 ds (j+1) w' ws y).1-(j+1),by omega⟩
  rw[hd] at h2⊢
  rw[show j+1+d-(j+1)=d by omega] at h2
  rw[show j+1+d-j=d+1 by omega]
  exact congrArg Sum.inr h2
theorem ag6 (ds:List V): ∀(ws:List gA) (r:te ws),X6 (Ae ds ws r).1 ws (Ae ds ws r).2=some r
 | [],r=>Empty.elim r
 | w::ws,r=>congrArg some (X9 ds 0 w ws r)
section
variable {P:Program} {A:cP} {C:ae} {L:bI} {f n m:Nat}
theorem ag7 {c:Code} {S:Shape × List (Out × Shape)} (hS:A.iC f (keyOf c+1)=some S) (hL:iO P A C L f n m c) {I X R:Type} (enc:I→X→List V) (oe:I→R→Nat × List V)
  (rq:List V→I) (tf:List V→X) (IQ:Nat × List V→Option R) (body:I→X→(β:Type)→(X→Option β)→(R→Option β)→Option β)
  (wX: ∀ds,bH S.1 (enc (rq ds) (tf ds))=bH S.1 ds) (Of: ∀i x,tf (enc i x)=x) (hdr: ∀i r,IQ (oe i r)=some r)
  (e1: ∀i x (β:Type) (k:(List V ⊕ (Nat × List V))→Option β),jl P A C L f n m c (bH S.1 (enc i x)) (fun o st=>(mg m S.1 S.2 (some (o,st))).bind k)=
   body i x β (fun y=>k (.inl (enc i y))) (fun r=>k (.inr (oe i r))))
  (hl: ∀(β:Type) ds (k:Nat→List V→Option β),L β (keyOf c+1) ds k=(Loop (fun x=>body (rq ds) x (X ⊕ R) (fun y=>some (.inl y)) (fun r=>some (.inr r))) (tf ds)).bind fun r=>k (oe (rq ds) r).1 (oe (rq ds) r).2):
  rp P A C L f n m (.loop c):=by
 simp only[rp,hS]
 intro β ds k
 rw[hl]
 have hex: ∀(z:Option (Out × St)),mg m S.1 S.2 z=z.bind fun r=>mg m S.1 S.2 (some (r.1,r.2)):=by
  intro z;cases z<;>rfl
 have hs: ∀i x,stepG P A C f n m S c (enc i x)=(body i x (X ⊕ R) (fun y=>some (.inl y)) (fun r=>some (.inr r))).map fun| .inl y=> .inl (enc i y)| .inr r=> .inr (oe i r):=by
  intro i x
  have k1:=e1 i x _ (fun z=>some z)
  have k2:=e1 i x (X ⊕ R) (fun| .inl ds=>some (.inl (tf ds))| .inr e=>(IQ e).map .inr)
  have k3:=e1 i x (List V ⊕ (Nat × List V)) (fun| .inl ds=>some (.inl (enc i (tf ds)))| .inr e=>(IQ e).map fun r=> .inr (oe i r))
  simp only[Of,hdr,Option.map_some] at k2 k3
  unfold stepG
  rw[hex]
  rw[Hj P A C f n m c hL] at k1 k2 k3
  rw[←k2]
  refine Eq.trans ?_ (k1.trans (k3.symm.trans ?_))
  ·congr 1
   funext r
   cases mg m S.1 S.2 (some (r.1,r.2))<;>rfl
  ·cases exec P A C f n m c (bH S.1 (enc i x)) with
   | none=>rfl
   | some r=>
    simp only[Option.bind_some]
    cases mg m S.1 S.2 (some (r.1,r.2)) with
    | none=>rfl
    | some z=>
     cases z with
     | inl _=>rfl
     | inr e=>simp only[Option.bind_some];cases IQ e<;>rfl
 have h0:stepG P A C f n m S c ds=stepG P A C f n m S c (enc (rq ds) (tf ds)):=by
  unfold stepG
  rw[wX]
 have:Loop (stepG P A C f n m S c) ds=(Loop (fun x=>body (rq ds) x (X ⊕ R) (fun y=>some (.inl y)) (fun r=>some (.inr r))) (tf ds)).map (oe (rq ds)):=by
  rw[GW,h0,←GW]
  exact aej (enc (rq ds)) (oe (rq ds)) (fun x=>hs _ _) (tf ds)
 rw[this]
 cases Loop (fun x=>body (rq ds) x (X ⊕ R) (fun y=>some (.inl y)) (fun r=>some (.inr r))) (tf ds)<;>rfl
abbrev Ds (S:Shape) (mk:List Bool):List LK:=Ac false mk S.ks
abbrev w6 (S:Shape) (mk:List Bool):List LK:=Ac true mk S.ks
def th (ts:List (List Nat)) (W:List (Out × Shape)):List gA:=
 match ts,W with
 | t::ts,w::W=>(t,w.2.ks)::th ts W
 | _,_=>[]
abbrev Dt (S:Shape) (mk:List Bool) (i:lQ (Ds S mk)) (x:lQ (w6 S mk)):List V:=merge mk (mz _ i) (mz _ x)
abbrev Og (S:Shape) (mk:List Bool) (i:lQ (Ds S mk)):List V:=merge mk (mz _ i) []
abbrev IS (S:Shape) (mk:List Bool) (ds:List V):lQ (Ds S mk):=p7 _ (Ac false mk (S.norm ds))
abbrev IT (S:Shape) (mk:List Bool) (ds:List V):lQ (w6 S mk):=p7 _ (Ac true mk (S.norm ds))
abbrev Ya (X R:Type):Type 1:=(β:Type)→(X→Option β)→(R→Option β)→Option β
abbrev IU (S:Shape × List (Out × Shape)) (mk:List Bool) (ts:List (List Nat)):Type 1:=Ab (Ds S.1 mk) (Ab (w6 S.1 mk) (Ya (lQ (w6 S.1 mk)) (te (th ts S.2))))
abbrev Oh (S:Shape × List (Out × Shape)) (mk:List Bool) (ts:List (List Nat)) (b:IU S mk ts) (i:lQ (Ds S.1 mk)) (x:lQ (w6 S.1 mk)):Ya (lQ (w6 S.1 mk)) (te (th ts S.2)):=w4 _ (w4 _ b i) x
noncomputable def Oi (S:Shape × List (Out × Shape)) (mk:List Bool) (ts:List (List Nat)) (b:IU S mk ts) {β:Type} (ds:List V) (k:Nat→List V→Option β):Option β:=
 (Loop (fun x=>Oh S mk ts b (IS S.1 mk ds) x (lQ (w6 S.1 mk) ⊕ te (th ts S.2)) (fun y=>some (.inl y)) (fun r=>some (.inr r))) (IT S.1 mk ds)).bind (wT (Og S.1 mk (IS S.1 mk ds)) k (th ts S.2))
theorem bt {c:Code} (S:Shape × List (Out × Shape)) (mk:List Bool) (ts:List (List Nat)) (b:IU S mk ts) (hL:iO P A C L f n m c) (hS:A.iC f (keyOf c+1)=some S:=by kernel_rfl)
  (wX: ∀ds,bH S.1 (Dt S.1 mk (IS S.1 mk ds) (IT S.1 mk ds))=bH S.1 ds:=by intros;kernel_rfl) (Of: ∀i x,IT S.1 mk (Dt S.1 mk i x)=x:=by intros;kernel_rfl)
  (e1: ∀i x (β:Type) (k:(List V ⊕ (Nat × List V))→Option β),jl P A C L f n m c (bH S.1 (Dt S.1 mk i x)) (fun o st=>(mg m S.1 S.2 (some (o,st))).bind k)=
   Oh S mk ts b i x β (fun y=>k (.inl (Dt S.1 mk i y))) (wT (Og S.1 mk i) (fun j l=>k (.inr (j,l))) (th ts S.2)):=by intros;kernel_rfl)
  (hl: ∀(β:Type) ds (k:Nat→List V→Option β),L β (keyOf c+1) ds k=Oi S mk ts b ds k:=by intros;kernel_rfl):
  rp P A C L f n m (.loop c):=
 ag7 hS hL (Dt S.1 mk) (fun i r=>Ae (Og S.1 mk i) _ r) (IS S.1 mk) (IT S.1 mk) (fun e=>X6 e.1 _ e.2) (Oh S mk ts b) wX Of (fun i r=>ag6 _ _ r)
  (fun i x β k=>by
   rw[e1]
   congr 1
   funext r
   exact IP _ _ _ r)
  (fun β ds k=>by
   rw[hl]
   unfold Oi
   congr 1
   funext r
   exact IP _ _ _ r)
abbrev Oj (S:Shape × List (Out × Shape)) (ts:List (List Nat)):Type 1:=Ab S.1.ks ((β:Type)→(te (th ts S.2)→Option β)→Option β)
noncomputable def Yb (S:Shape × List (Out × Shape)) (ts:List (List Nat)) (b:Oj S ts) {β:Type} (ds:List V) (k:Nat→List V→Option β):Option β:=
 w4 S.1.ks b (p7 _ (S.1.norm ds)) β (wT (mz S.1.ks (p7 _ (S.1.norm ds))) k (th ts S.2))
theorem gQ {t:Nat} {x y:Code} (S:Shape × List (Out × Shape)) (ts:List (List Nat)) (b:Oj S ts) (hx:iO P A C L f n m x) (hy:iO P A C L f n m y) (hS:A.iC f (t*16+15)=some S:=by kernel_rfl)
  (wX: ∀ds,bH S.1 (mz S.1.ks (p7 _ (S.1.norm ds)))=bH S.1 ds:=by intros;kernel_rfl)
  (e1: ∀i (β:Type) (k:Nat→List V→Option β),N9 P A C L f n m t S x y (mz S.1.ks i) k=w4 S.1.ks b i β (wT (mz S.1.ks i) k (th ts S.2)):=by intros;kernel_rfl)
  (hl: ∀(β:Type) ds (k:Nat→List V→Option β),L β (t*16+15) ds k=Yb S ts b ds k:=by intros;kernel_rfl):
  rp P A C L f n m (.cond t x y):=
 ag0 hS hx hy (mz S.1.ks) (fun i r=>Ae (mz S.1.ks i) _ r) (fun ds=>p7 _ (S.1.norm ds)) (w4 S.1.ks b) wX
  (fun i β k=>by
   rw[e1]
   exact congrArg (w4 S.1.ks b i β) (funext fun r=>IP _ _ _ r))
  (fun β ds k=>by
   rw[hl]
   exact congrArg (w4 S.1.ks b (p7 _ (S.1.norm ds)) β) (funext fun r=>IP _ _ _ r))
end
theorem aK {P:Program} {A:cP} {C:ae} {L:bI} {f n m:Nat} {c:Code} {bs:List nu} (hb:nv P A C L f n m bs) (h:o5 A f c=bs:=by kernel_rfl):iO P A C L f n m c:=XT h hb
theorem aV {P:Program} {A:cP} {L:bI} {key:Nat} {bs:List nu} {ds:List V} {r x:Option (List V)} (ht:nv P A (Call P A) L key (Cs P (A.hY key)) (A.sin key).cA.length bs) (h:x=r)
  (hb:o5 A key (iP P (A.hY key))=bs:=by kernel_rfl) (e:Hk P A (Call P A) L key ds=x:=by kernel_rfl):Call P A key ds=r:=ag1 hb ht (e.trans h)
noncomputable def bu (j:Nat) (S:Shape × List (Out × Shape)) (mk:List Bool) (ts:List (List Nat)) (b:IU S mk ts) (L:bI):bI:=fun β n ds k=>bif Nat.beq n j then Oi S mk ts b ds k else L β n ds k
noncomputable def gR (j:Nat) (S:Shape × List (Out × Shape)) (ts:List (List Nat)) (b:Oj S ts) (L:bI):bI:=fun β n ds k=>bif Nat.beq n j then Yb S ts b ds k else L β n ds k
def aW:bI:=fun _ _ _ _=>none
abbrev LV:=List V
structure SE where
 T:TypeId
 cmp:Nat
 ex:V→List V
 k:Nat→Nat
abbrev aA (l:List V) (j:Int) {β:Type} (f:V→Option β):Option β:=bif (decide (0≤j))&&(decide (j<(l.length:Int))) then (l[j.toNat]?).bind f else none
abbrev bn (l:List V) (j:Int) (v:V):List V:=l.set j.toNat v
end Go.AM
