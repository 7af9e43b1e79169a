/-
  Functions of the program, lifted to plain data.
-/
import Derived.Conc.MuLone
import Derived.Defers
import Derived.Carry
import Derived.OpenShut
import Derived.Deep.Slices
import Derived.Test.YtppefogdkedaiaaP2
set_option linter.unusedVariables false
set_option linter.unusedSimpArgs false
namespace Go.AM
section
variable {P:Program} {A:cJ} {w w':World} {I I' I2:Nat→Prop} {μ β β' cb:Nat→Option Nat} {hp hp' hp0 bq:Nat→Option an} {C:ag} {B:Nat} {M:Nat→Prop} {w0:Start}
structure lq (w:World) (I:Nat→Prop) (β:Nat→Option Nat) (hp:Nat→Option an) (w':World) (I':Nat→Prop) (β':Nat→Option Nat) (hp':Nat→Option an):Prop where
 dm: ∀b,I b→I' b
 cj: ∀b,I b→w'.heap[b]? =w.heap[b]?
 blk: ∀id blk,hp id=some blk→∃blk',hp' id=some blk'∧blk.le blk'∧(blk'≠ .dead→β' id=β id)
 size: ∀id blk blk' b,hp id=some blk→hp' id=some blk'→blk'≠ .dead→β id=some b→bsize w' b=bsize w b
theorem Le.EF (h:Le P w I β hp w' I' β' hp'):lq w I β hp w' I' β' hp':=⟨h.dm,h.cj,h.blk,h.size⟩
theorem lq.trans {zL:World} {zM:Nat→Prop} {zN:Nat→Option Nat} {zO:Nat→Option an} (h1:lq w I β hp w' I' β' hp') (U:lq w' I' β' hp' zL zM zN zO):lq w I β hp zL zM zN zO:=by
 refine ⟨fun b h=>U.dm b (h1.dm b h),fun b h=>(U.cj b (h1.dm b h)).trans (h1.cj b h),fun id blk h=> ?_,fun id blk tT b h sq hd hb=> ?_⟩
 ·obtain ⟨blk',e',l',b'⟩:=h1.blk id blk h
  obtain ⟨tT,dG,qH,Il⟩:=U.blk id blk' e'
  refine ⟨tT,dG,an.le_trans l' qH,fun hd=> ?_⟩
  have eT:blk'≠ .dead:=fun e=>hd (an.pI (e▸qH))
  exact (Il hd).trans (b' eT)
 ·obtain ⟨blk',e',l',b'⟩:=h1.blk id blk h
  obtain ⟨hG,e3,l3,b3⟩:=U.blk id blk' e'
  obtain rfl:hG=tT:=by rw[e3] at sq;exact dh sq
  have eT:blk'≠ .dead:=fun e=>hd (an.pI (e▸l3))
  rw[U.size id blk' hG b e' e3 hd ((b' eT).trans hb),h1.size id blk blk' b h e' eT hb]
def oU (P:Program) (w:World) (μ:Nat→Option Nat) (hp0:Nat→Option an) (b:Nat):Prop:= ∃j blk,hp0 j=some blk∧bA P w (μ j) blk b
structure aaa (P:Program) (A:cJ) (key:Nat) (w:World) (I:Nat→Prop) (μ:Nat→Option Nat) (ds es:List V) (w':World) (v:Value) (I2:Nat→Prop) (cb:Nat→Option Nat):Prop where
 wR:aF P w' I2 cb (br (A.so key es) (A.lv key es)).hp w.heap.size (oU P w μ (br (A.sin key) ds).hp) ⟨w,I⟩
 le:lq w I μ (br (A.sin key) ds).hp w' I2 cb (br (A.so key es) (A.lv key es)).hp
 res:ao P w' I2 cb (br (A.so key es) (A.lv key es)).hp v (pG (fk (A.so key es).bR (A.lv key es)))
def lr (P:Program) (A:cJ) (C:ag):Prop:=
 ∀key ds es,C key ds=some es→∃fn c,P.funcs[A.aV key]? =some fn∧fn.body=some c∧
  ∀(w:World) (I:Nat→Prop) (μ:Nat→Option Nat) (vals:List Value),
   tS P w I μ (br (A.sin key) ds).hp w.heap.size (oU P w μ (br (A.sin key) ds).hp)→gF P A.aE w I→
   vals.length=(A.sin key).bR.length→(∀(j:Nat) v x,vals[j]? =some v→(fF ((A.sin key).bR.map (·.2)) ds)[j]? =some x→ao P w I μ (br (A.sin key) ds).hp v x)→
   Calls P (A.aV key) vals.toArray w fun e w'=> ∃v I2 cb,e= .returned v∧aaa P A key w I μ ds es w' v I2 cb
theorem ec.uy {p:Place} {o:Option Nat} {blk:an} {b:Nat} (h:ec P w β hp p o blk) (ho:bA P w o blk b):
  ∃ra,hp p.id=some ra∧bA P w (β p.id) ra b∧∀e es,ra≠ .arr e es true:=by
 cases h with
 | var h=>exact ⟨_,h,.root (by simp) (ho.flat (by simp)),by simp⟩
 | arr h=>exact ⟨_,h,.root (by simp) (ho.flat (by simp)),by simp⟩
 | map h=>exact ⟨_,h,.root (by simp) (ho.flat (by simp)),by simp⟩
 | nest h=>
  refine ⟨_,h,?_,by simp⟩
  cases ho with
  | root _ hb=>exact .root (by simp) hb
  | row hb ha=>exact .row hb ha
 | row h hb ha _ _ _ _ _=>
  have:=ho.flat (by simp)
  cases this
  exact ⟨_,h,.row hb ha,by simp⟩
theorem aF.aab (S:aF P w I β hp B M w0) {id b:Nat} {blk:an} (ab:hp id=some blk) (ho:bA P w (β id) blk b) (hf: ∀e es,blk≠ .arr e es true): ¬I b:=by
 have hr:=S.h.rel id blk ab
 generalize β id=o at hr ho
 cases hr with
 | var hb _ _ hI _ _=>have:=ho.flat (by simp);rw[hb] at this;cases this;exact hI
 | dJ hb=>have:=ho.flat (by simp);rw[hb] at this;cases this
 | @arr e es fz _ _ _ hb _ _ _ en _=>
  have:=ho.flat (by simp)
  rw[hb] at this;cases this
  cases fz with
  | true=>exact absurd rfl (hf e es)
  | false=>exact en rfl
 | dead=>exact absurd rfl ho.alive
 | map _ hb _ _ hI _ _=>have:=ho.flat (by simp);rw[hb] at this;cases this;exact hI
 | nest hb hr _=>
  cases ho with
  | root _ aB=>rw[hb] at aB;cases aB;exact (hr _ _ _ _ .here).nI
  | row aB ha=>rw[hb] at aB;cases aB;exact (hr _ _ _ _ ha).nI
theorem EG {a b:List Nat} (h:vU a b=false) {x:Nat} (ha:x∈a):x∉b:=by
 intro hb
 unfold vU at h
 rw[List.any_eq_false] at h
 exact h x ha (wA hb)
theorem aac (S:aF P w I β hp B M w0) {pl:List Place} {upd:List (Nat × an)} {o:Nat→Option Nat} (jm:(pl.map Place.id).Nodup) (EH:vU (upd.map (·.1)) (pl.map Place.id)=false)
  (hl: ∀j blk,hp0 j=some blk→∃p,ej pl j=some p∧ec P w β hp p (o j) blk)
  (cL:(∀j blk,hp0 j=some blk→∀b,bA P w (o j) blk b→¬je P w I β hp upd b)→∀j blk,hp0 j=some blk→dZ P w (je P w I β hp upd) o hp0 (o j) blk) (aN: ∀b,je P w I β hp upd b→b<w.heap.size):
  tS P w (je P w I β hp upd) o hp0 w.heap.size (oU P w o hp0):=by
 have cQ: ∀j blk,hp0 j=some blk→∀b,bA P w (o j) blk b→¬je P w I β hp upd b:=by
  intro j blk hj b ho hI
  obtain ⟨p,bq,gr⟩:=hl j blk hj
  obtain ⟨ra,k1,k2,k3⟩:=gr.uy ho
  rcases hI with hI|⟨q,hq,ca,q1,q2⟩
  ·exact S.aab k1 k2 k3 hI
  ·have:=S.h.inj _ _ _ _ b q1 k1 q2 k2
   refine EG EH (gH.2 ⟨q,hq,rfl⟩) ?_
   rw[this]
   rw[l8] at bq
   exact gH.2 ⟨p,jP bq,rfl⟩
 refine ⟨cL cQ,fun j1 j2 b1 b2 b h1 U o1 o2=> ?_,fun j blk b h1 o1=> .inl ⟨j,blk,h1,o1⟩,aN⟩
 obtain ⟨p1,q1,q2⟩:=hl j1 b1 h1
 obtain ⟨p2,r1,r2⟩:=hl j2 b2 U
 obtain ⟨c1,x1,x2,_⟩:=q2.uy o1
 obtain ⟨c2,y1,y2,_⟩:=r2.uy o2
 have ab:=S.h.inj _ _ _ _ b x1 y1 x2 y2
 rw[l8] at q1 r1
 have m1:(pl.map Place.id)[j1]? =some p1.id:=by rw[fR,q1];rfl
 have m2:(pl.map Place.id)[j2]? =some p2.id:=by rw[fR,r1];rfl
 rw[←ab] at m2
 obtain ⟨z1,z2⟩:=bz.1 m1
 obtain ⟨z3,z4⟩:=bz.1 m2
 exact (List.getElem_inj jm).1 (z2.trans z4.symm)
def PO:V→Prop
 | .list .. =>False
 | .pref .. =>False
 | .agg _=>False
 | .bm _=>False
 | .fn .. =>False
 | _=>True
theorem ao.free {v:Value} {x:V} (h:ao P w I β hp v x) (hx:PO x):ao P w I' β hp v x:=by
 cases h with
 | undef=>exact .undef
 | int=>exact .int
 | bool=>exact .bool
 | str h=>exact .str h
 | list h=>exact hx.elim
 | nilS=>exact .nilS
 | agg=>exact hx.elim
 | bm=>exact hx.elim
 | dy=>exact .dy
 | fn=>exact hx.elim
 | pref=>exact hx.elim
 | ek h=>exact .ek h
 | gn h=>exact .gn h
 | kF h=>exact .kF h
 | dI h hb=>exact .dI h hb
 | whole h hb a b c=>exact .whole h hb a b c
 | eD h hb a b c=>exact .eD h hb a b c
 | fX h hb=>exact .fX h hb
 | sub h hb a b c=>exact .sub h hb a b c
 | ptr h hd hb=>exact .ptr h hd hb
 | jT h qW=>exact .jT h qW
 | jU h qW=>exact .jU h qW
 | row h hb a b c d=>exact .row h hb a b c d
 | cI h hb a b c d e=>exact .cI h hb a b c d e
 | dB=>exact .dB
 | iH h=>exact .iH h
 | cA h hb=>exact .cA h hb
theorem Ap {l:LS} {ds:List V} (hs:l.safe=true):PO (iY l ds):=by
 cases l<;>simp only[LS.safe] at hs<;>first|(cases hs;done)|trivial
theorem Aq: ∀{ls:List LS} {ds:List V} {j:Nat} {y:V},(iB ls ds)[j]? =some y→∃l fu,l∈ls∧y=iY l fu
 | [],ds,j,y,h=>by simp[iB] at h
 | l::ls,ds,j,y,h=>by
  simp only[iB] at h
  cases j with
  | zero=>simp at h;exact ⟨l,ds,sa ..,h.symm⟩
  | succ j=>
   obtain ⟨l',fu,h1,U⟩:=Aq (j:=j) (by simpa using h)
   exact ⟨l',fu,lK _ h1,U⟩
theorem PQ: ∀{ls:List VS} {ds:List V} {j:Nat} {y:V},(fF ls ds)[j]? =some y→∃l fu,l∈ls∧y=lg l fu
 | [],ds,j,y,h=>by simp[fF] at h
 | l::ls,ds,j,y,h=>by
  simp only[fF] at h
  cases j with
  | zero=>simp at h;exact ⟨l,ds,sa ..,h.symm⟩
  | succ j=>
   obtain ⟨l',fu,h1,U⟩:=PQ (j:=j) (by simpa using h)
   exact ⟨l',fu,lK _ h1,U⟩
theorem PR {s:VS} {ds:List V} {v:Value} (h:ao P w I β hp v (lg s ds)) (hs:s.safe=true):ao P w I' β hp v (lg s ds):=by
 cases s with
 | one l=>exact h.free (Ap hs)
 | agg ls=>
  simp only[lg] at h⊢
  obtain ⟨cs,rfl,e1,e2⟩:=h.ll
  refine .agg e1 fun j v x hj hx=> ?_
  obtain ⟨l,fu,k1,rfl⟩:=Aq hx
  exact (e2 j v _ hj hx).free (Ap (fC.1 hs l k1))
 | bm ls=>
  simp only[lg] at h⊢
  obtain ⟨cs,rfl,e1,e2⟩:=h.ua
  refine .bm e1 fun j v x hj hx=> ?_
  obtain ⟨l,fu,k1,rfl⟩:=Aq hx
  exact (e2 j v _ hj hx).free (Ap (fC.1 hs l k1))
 | fn f a b=>
  simp only[VS.safe,aM] at hs
  simp only[lg] at h⊢
  cases h with
  | fn a1 a2 b1 b2=>
   refine .fn a1 (fun j v x hj hx=> ?_) b1 (fun j v x hj hx=> ?_)
   ·obtain ⟨l,fu,k1,rfl⟩:=Aq hx
    exact (a2 j v _ hj hx).free (Ap (fC.1 hs.1 l k1))
   ·obtain ⟨l,fu,k1,rfl⟩:=Aq hx
    exact (b2 j v _ hj hx).free (Ap (fC.1 hs.2 l k1))
 | pref ts ls=>cases hs
theorem Pure.scalar {t:TypeId} {v:Value} {x:V} (h:Pure P w I t v x) (hn: ∀e,P.underlying t≠some (.slice e)):Pure P w I' t v x:=by
 cases h with
 | int h=>exact .int h
 | bool h=>exact .bool h
 | str h hl=>exact .str h hl
 | nil h=>exact absurd h (hn _)
 | emp h=>exact absurd h (hn _)
 | list g h=>exact absurd h (hn _)
theorem aad {e t:TypeId} {j:Nat} (h:zw P e=true) (ht:(aX P e)[j]? =some t) (e':TypeId):P.underlying t≠some (.slice e'):=by
 intro hu
 have U:=fC.1 h t (jP ht)
 rw[hu] at U
 cases U
theorem aae {o:Option Nat} {b:BS} {ds:List V} (h:dZ P w I2 β hp o (fU b ds)) (hs:b.safe P=true) (hi: ∀b,I b→I2 b):dZ P w I β hp o (fU b ds):=by
 cases b with
 | dead=>exact .dead
 | var T0 ls=>
  simp only[fU] at h⊢
  cases h with
  | var hb hh ba hI hx gq=>
   refine .var hb hh ba (fun h=>hI (hi _ h)) (fun j v x hj cC=> ?_) gq
   obtain ⟨l,fu,k1,rfl⟩:=PQ cC
   exact PR (hx j v _ hj cC) (fC.1 hs l k1)
 | arr e fz=>
  simp only[BS.safe,aM,nn] at hs
  obtain ⟨rfl,Ao⟩:=hs
  simp only[fU] at h⊢
  generalize (V.nth ds 0).toList=es at h⊢
  cases h with
  | dJ hb=>exact .dJ hb
  | arr a1 a2 a3 a4 a5 a6 a7=>
   refine .arr a1 a2 a3 a4 (fun h=>by cases h) (fun _ h=>a6 rfl (hi _ h)) fun i j x t' y1 y2 y3=> ?_
   obtain ⟨v,z1,z2⟩:=a7 i j x t' y1 y2 y3
   exact ⟨v,z1,z2.scalar (aad Ao y2)⟩
 | nest e=>
  simp only[fU] at h⊢
  generalize (V.nth ds 0).toList=es at h⊢
  cases h with
  | nest hb cG oO=>
   refine .nest hb (fun q b' e1 m1 hq=> ?_) oO
   obtain ⟨ok,⟨Ca,c1,c2,c3⟩,nI⟩:=cG q b' e1 m1 hq
   refine ⟨ok,⟨Ca,c1,c2,fun i j x t' y1 y2 y3=> ?_⟩,fun h=>nI (hi _ h)⟩
   obtain ⟨v,z1,z2⟩:=c3 i j x t' y1 y2 y3
   refine ⟨v,z1,?_⟩
   generalize bN P e1 x j=y at z2⊢
   cases z2 with
   | fW a p=>
    refine .fW a (p.scalar fun e hu=> ?_)
    unfold fT at a
    rw[hu] at a
    cases a
   | emp a b=>exact .emp a b
   | row a b c d e=>exact .row a b c d e
 | map t=>
  simp only[fU] at h⊢
  cases h with
  | map a1 a2 a3 a4 a5 a6 a7=>exact .map a1 a2 a3 a4 (fun h=>a5 (hi _ h)) a6 a7
theorem Jx: ∀{l:List BS} {ds:List V} {j:Nat} {y:an},(eS l ds)[j]? =some y→∃b fu,l[j]? =some b∧y=fU b fu
 | [],ds,j,y,h=>by simp[eS] at h
 | b::l,ds,j,y,h=>by
  simp only[eS] at h
  cases j with
  | zero=>simp at h;exact ⟨b,ds,rfl,h.symm⟩
  | succ j=>
   obtain ⟨b',fu,h1,U⟩:=Jx (j:=j) (by simpa using h)
   exact ⟨b',fu,by simpa using h1,U⟩
theorem PS: ∀{l:List (Nat × VS)} {ds:List V} {q:Nat × V},q∈fk l ds→∃s fu,(q.1,s)∈l∧q.2=lg s fu
 | [],ds,q,h=>by simp[fk] at h
 | (k,s)::l,ds,q,h=>by
  simp only[fk,dx] at h
  rcases h with h|h
  ·subst h;exact ⟨s,ds,sa ..,rfl⟩
  ·obtain ⟨s',fu,h1,U⟩:=PS h
   exact ⟨s',fu,lK _ h1,U⟩
theorem aaf {S:Shape} {es:List V} (hs:S.safe P=true) (hi: ∀b,I b→I2 b) {N:Nat→Prop} {st:Start} (h:aF P w' I2 cb (br S es).hp B N st) (h0: ∀b,I b→st.I b):
  aF P w' I cb (br S es).hp B N st∧∀v,ao P w' I2 cb (br S es).hp v (pG (fk S.bR es))→ao P w' I cb (br S es).hp v (pG (fk S.bR es)):=by
 unfold Shape.safe at hs
 simp only[aM] at hs
 obtain ⟨jd,nP⟩:=hs
 have one: ∀q∈fk S.bR es,∀v,ao P w' I2 cb (br S es).hp v q.2→ao P w' I cb (br S es).hp v q.2:=by
  intro q hq v hv
  obtain ⟨s,fu,k1,k2⟩:=PS hq
  rw[k2] at hv⊢
  exact PR hv (fC.1 jd _ k1)
 refine ⟨⟨⟨fun j blk hj=> ?_,h.h.inj,h.h.own,fun b hb=>h.h.jV b (hi b hb)⟩,h.cj,h.size,fun b hb=> .inl (h0 b hb),h.io⟩,fun v hv=> ?_⟩
 ·have hr:=h.h.rel j blk hj
  have gM:=hj
  simp only[br,mk,ic] at gM
  obtain ⟨b,fu,k1,rfl⟩:=Jx gM
  exact aae hr (fC.1 nP _ (jP k1)) hi
 ·generalize fk S.bR es=l at one hv⊢
  match l,one,hv with
  | [],_,hv=>
   simp only[pG,fD] at hv⊢
   obtain ⟨cs,rfl,e1,e2⟩:=hv.ua
   exact .bm e1 fun j v x _ hx=>by simp at hx
  | [q],one,hv=>exact one q (ez.2 rfl) v hv
  | q::q2::l,one,hv=>
   simp only[pG] at hv⊢
   obtain ⟨cs,rfl,e1,e2⟩:=hv.ua
   refine .bm e1 fun j v x hj hx=> ?_
   obtain ⟨y,hy,rfl⟩:=gH.1 (jP hx)
   exact one y hy v (e2 j v _ hj hx)
end
section
variable {P:Program} {A:cJ} {w w':World} {I I' I2:Nat→Prop} {μ β β' cb:Nat→Option Nat} {hp hp' hp0 bq:Nat→Option an} {C:ag} {B:Nat} {M:Nat→Prop} {w0:Start}
inductive gy (σ:List Place):an→an→Prop
 | dead:gy σ .dead .dead
 | var {T:TypeId} {cs:List V}:gy σ (.var T cs) (.var T (cs.map (DH σ)))
 | arr {e:TypeId} {es:List V} {fz:Bool}:gy σ (.arr e es fz) (.arr e es fz)
 | nest {e:TypeId} {es:List V} {v1 v2:List Nat}:gy σ (.nest e es v1) (.nest e es v2)
 | map {t:TypeId} {es:List V}:gy σ (.map t es) (.map t es)
theorem gy.of (σ:List Place) (b:an):gy σ b (tL σ b):=by
 cases b with
 | dead=>exact .dead
 | var T cs=>exact .var
 | arr e es fz=>exact .arr
 | nest e es v=>exact .nest
 | map t es=>exact .map
theorem PT {σ:List Place}: ∀{pl:List Place} {bs:List an} {acc:List (Nat × an)} {k:List (Nat × an)→Rd R} {r:R} {rd:List Nat},(qz σ pl bs acc k).run C hp=some (r,rd)→
  pl.length≤bs.length∧∃bk e7,(k bk).run C hp=some (r,e7)∧(∀q∈bk,q∈acc∨∃(j:Nat) (b:an),pl[j]? =some (.blk q.1)∧bs[j]? =some b∧gy σ b q.2∧((∃e es v2,q.2= .nest e es v2)→∃e es ar e' aK,hp q.1=some (.nest e es ar)∧q.2= .nest e' aK (ar.map (· +1))))∧
   (∀q∈acc,q∈bk)∧∀(j:Nat) p,pl[j]? =some p→∃id b,p= .blk id∧(id,b)∈bk
 | [],bs,acc,k,r,rd,h=>⟨k0 _,acc,rd,by simpa only[qz] using h,fun q hq=> .inl hq,fun q hq=>hq,fun j p hp=>by simp at hp⟩
 | .row _ _ _::pl,bs,acc,k,r,rd,h=>by
  cases bs<;>(simp only[qz] at h;cases h)
 | .blk id::pl,[],acc,k,r,rd,h=>by simp only[qz] at h;cases h
 | .blk id::pl,b::bs,acc,k,r,rd,h=>by
  have fin: ∀{b2:an} {jI:List Nat},(qz σ pl bs ((id,b2)::acc) k).run C hp=some (r,jI)→gy σ b b2→((∃e es v2,b2= .nest e es v2)→∃e es ar e' aK,hp id=some (.nest e es ar)∧b2= .nest e' aK (ar.map (· +1)))→
    (Place.blk id::pl).length≤(b::bs).length∧∃bk e7,(k bk).run C hp=some (r,e7)∧(∀q∈bk,q∈acc∨∃(j:Nat) (b':an),(Place.blk id::pl)[j]? =some (.blk q.1)∧(b::bs)[j]? =some b'∧gy σ b' q.2∧((∃e es v2,q.2= .nest e es v2)→∃e es ar e' aK,hp q.1=some (.nest e es ar)∧q.2= .nest e' aK (ar.map (· +1))))∧
     (∀q∈acc,q∈bk)∧∀(j:Nat) p,(Place.blk id::pl)[j]? =some p→∃id b,p= .blk id∧(id,b)∈bk:=by
   intro b2 jI h1 hb hn
   obtain ⟨a0,bk,e7,a1,a2,a3,a4⟩:=PT h1
   refine ⟨by simp only[List.length_cons];omega,bk,e7,a1,fun q hq=> ?_,fun q hq=>a3 q (lK _ hq),fun j p hj=> ?_⟩
   ·rcases a2 q hq with h|⟨j,b',k1,k2,k3,k4⟩
    ·rcases dx.1 h with e|h
     ·subst e;exact .inr ⟨0,b,rfl,rfl,hb,hn⟩
     ·exact .inl h
    ·exact .inr ⟨j+1,b',by simpa using k1,by simpa using k2,k3,k4⟩
   ·cases j with
    | zero=>simp at hj;subst hj;exact ⟨id,b2,rfl,a3 _ (sa ..)⟩
    | succ j=>exact a4 j p (by simpa using hj)
  cases b with
  | nest e es v=>
   simp only[qz] at h
   obtain ⟨l,h⟩:=run_get h
   cases ab:hp id with
   | none=>rw[ab] at h;cases h
   | some blk=>
    rw[ab] at h
    cases blk with
    | nest e0 Im ar=>exact fin h .nest fun _=>⟨e0,Im,ar,e,es,ab,rfl⟩
    | _=>cases h
  | dead=>exact fin h (.of σ _) fun ⟨_,_,_,h⟩=>by cases h
  | var T cs=>exact fin h (.of σ _) fun ⟨_,_,_,h⟩=>by cases h
  | arr e es fz=>exact fin h (.of σ _) fun ⟨_,_,_,h⟩=>by cases h
  | map t es=>exact fin h (.of σ _) fun ⟨_,_,_,h⟩=>by cases h
theorem PU {σ:List Place}: ∀{bs:List an} {n:Nat} {q:Nat × an},q∈qA σ n bs→∃i b,bs[i]? =some b∧q=(n+i,tL σ b)
 | [],n,q,h=>by simp[qA] at h
 | b::bs,n,q,h=>by
  simp only[qA,dx] at h
  rcases h with h|h
  ·exact ⟨0,b,rfl,h⟩
  ·obtain ⟨i,b',h1,U⟩:=PU h
   exact ⟨i+1,b',by simpa using h1,by rw[U];congr 1;omega⟩
theorem PV {σ:List Place}: ∀{bs:List an} {n i:Nat} {b:an},bs[i]? =some b→(n+i,tL σ b)∈qA σ n bs
 | [],n,i,b,h=>by simp at h
 | b0::bs,n,i,b,h=>by
  simp only[qA,dx]
  cases i with
  | zero=>simp at h;subst h;exact .inl rfl
  | succ i=>exact .inr (by rw[show n+(i+1)=n+1+i by omega];exact PV (by simpa using h))
theorem EI: ∀{k n i:Nat},i<k→(sm n k)[i]? =some (.blk (n+i))
 | 0,n,i,h=>by omega
 | k+1,n,0,h=>rfl
 | k+1,n,i+1,h=>by
  simp only[sm,List.getElem?_cons_succ]
  rw[EI (by omega)]
  congr 2
  omega
theorem Jy: ∀{k n:Nat},(sm n k).length=k
 | 0,_=>rfl
 | k+1,n=>by simp[sm,Jy]
theorem PW: ∀{bs:List (Nat × an)} {k:Rd R} {r:R} {rd:List Nat},(DI bs k).run C hp=some (r,rd)→(∀q∈bs,hp q.1=none)∧∃e7,k.run C hp=some (r,e7)
 | [],k,r,rd,h=>⟨by simp,rd,h⟩
 | (id,b)::l,k,r,rd,h=>by
  simp only[DI] at h
  obtain ⟨l1,h⟩:=run_get h
  cases ab:hp id with
  | some blk=>rw[ab] at h;cases h
  | none=>
   rw[ab] at h
   obtain ⟨h1,U⟩:=PW h
   refine ⟨fun q hq=> ?_,U⟩
   rcases dx.1 hq with e|hq
   ·subst e;exact ab
   ·exact h1 q hq
structure pT (σ:List Place) (cb:Nat→Option Nat) (bq:Nat→Option an) (β':Nat→Option Nat) (hp':Nat→Option an):Prop where
 blk: ∀j b,bq j=some b→∃id b',ej σ j=some (.blk id)∧hp' id=some b'∧gy σ b b'∧(b≠ .dead→β' id=cb j)
 none: ∀j,bq j=none→ej σ j=none
 akq: ∀j id ver path,ej σ j≠some (.row id ver path)
theorem pT.leaf {σ:List Place} (T:pT σ cb bq β' hp') {v:Value} {x:V} (h:ao P w I cb bq v x):ao P w I β' hp' v (kD σ x):=by
 have look: ∀{j b},bq j=some b→∃id b',ej σ j=some (.blk id)∧hp' id=some b'∧gy σ b b'∧(b≠ .dead→β' id=cb j):=fun h=>T.blk _ _ h
 cases h with
 | undef=>exact .undef
 | int=>exact .int
 | bool=>exact .bool
 | str h=>exact .str h
 | list h=>exact .list h
 | nilS=>exact .nilS
 | agg=>exact .undef
 | bm=>exact .undef
 | dy=>exact .dy
 | fn=>exact .undef
 | pref a b c=>exact .pref a b c
 | @ek _ e j h=>
  obtain ⟨id,b',k1,k2,k3,k4⟩:=look h
  simp only[kD,k1]
  cases k3
  exact .ek k2
 | @gn _ e j _ _ h=>
  obtain ⟨id,b',k1,k2,k3,k4⟩:=look h
  simp only[kD,k1]
  cases k3
  exact .gn k2
 | @kF _ j _ _ h=>
  obtain ⟨id,b',k1,k2,k3,k4⟩:=look h
  simp only[kD,k1]
  cases k3
  exact .kF k2
 | @dI e j fz _ h hb=>
  obtain ⟨id,b',k1,k2,k3,k4⟩:=look h
  simp only[kD,k1]
  cases k3
  exact .dI k2 ((k4 (by simp)).trans hb)
 | @whole e j es fz b cap h hb a1 a2 a3=>
  obtain ⟨id,b',k1,k2,k3,k4⟩:=look h
  simp only[kD,k1]
  cases k3
  exact .whole k2 ((k4 (by simp)).trans hb) a1 a2 a3
 | @eD e j es ar b cap h hb a1 a2 a3=>
  obtain ⟨id,b',k1,k2,k3,k4⟩:=look h
  simp only[kD,k1]
  cases k3
  exact .eD k2 ((k4 (by simp)).trans hb) a1 a2 a3
 | @fX e j fz _ h hb=>
  obtain ⟨id,b',k1,k2,k3,k4⟩:=look h
  simp only[kD,k1]
  cases k3
  exact .fX k2 ((k4 (by simp)).trans hb)
 | @sub e j off len es fz b o cap h hb a1 a2 a3=>
  obtain ⟨id,b',k1,k2,k3,k4⟩:=look h
  simp only[kD,k1]
  cases k3
  exact .sub k2 ((k4 (by simp)).trans hb) a1 a2 a3
 | @ptr j i c b blk h hd hb=>
  obtain ⟨id,b',k1,k2,k3,k4⟩:=look h
  simp only[kD,k1]
  have hs:blk.sz P=b'.sz P:=by cases k3<;>rfl
  rw[hs]
  exact .ptr k2 (by intro e;subst e;cases k3;exact hd rfl) ((k4 hd).trans hb)
 | jT=>exact .undef
 | jU=>exact .undef
 | row=>exact .undef
 | cI=>exact .undef
 | dB=>exact .dB
 | @iH _ t j h=>
  obtain ⟨id,b',k1,k2,k3,k4⟩:=look h
  simp only[kD,k1]
  cases k3
  exact .iH k2
 | @cA t j b es h hb=>
  obtain ⟨id,b',k1,k2,k3,k4⟩:=look h
  simp only[kD,k1]
  cases k3
  exact .cA k2 ((k4 (by simp)).trans hb)
theorem pT.one {σ:List Place} (T:pT σ cb bq β' hp') {v:Value} {x:V} (h:ao P w I cb bq v x):ao P w I β' hp' v (H9 σ x):=by
 cases x with
 | agg xs=>
  obtain ⟨cs,rfl,e1,e2⟩:=h.ll
  exact .agg (by simpa using e1) fun j v y hj hy=>by
   rw[fR] at hy
   cases hx:xs[j]? with
   | none=>rw[hx] at hy;cases hy
   | some x=>rw[hx] at hy;cases hy;exact T.leaf (e2 j v x hj hx)
 | fn f a b=>
  cases h with
  | fn a1 a2 b1 b2=>
   refine .fn (by simpa using a1) (fun j v y hj hy=> ?_) (by simpa using b1) (fun j v y hj hy=> ?_)
   ·rw[fR] at hy
    cases hx:a[j]? with
    | none=>rw[hx] at hy;cases hy
    | some x=>rw[hx] at hy;cases hy;exact T.leaf (a2 j v x hj hx)
   ·rw[fR] at hy
    cases hx:b[j]? with
    | none=>rw[hx] at hy;cases hy
    | some x=>rw[hx] at hy;cases hy;exact T.leaf (b2 j v x hj hx)
 | _=>exact T.leaf h
theorem pT.val {σ:List Place} (T:pT σ cb bq β' hp') {v:Value} {x:V} (h:ao P w I cb bq v x):ao P w I β' hp' v (DH σ x):=by
 cases x with
 | bm xs=>
  obtain ⟨cs,rfl,e1,e2⟩:=h.ua
  exact .bm (by simpa using e1) fun j v y hj hy=>by
   rw[fR] at hy
   cases hx:xs[j]? with
   | none=>rw[hx] at hy;cases hy
   | some x=>rw[hx] at hy;cases hy;exact T.one (e2 j v x hj hx)
 | _=>exact T.one h
theorem pT.PX {σ:List Place} (T:pT σ cb bq β' hp') {o:Option Nat} {b b':an} (h:dZ P w I cb bq o b) (hb:gy σ b b'):dZ P w I β' hp' o b':=by
 cases hb with
 | dead=>exact .dead
 | var=>
  cases h with
  | var a1 a2 a3 a4 a5 a6=>
   refine .var a1 a2 (by simpa using a3) a4 (fun j v y hj hy=> ?_) a6
   rw[fR] at hy
   cases hx:(_:List V)[j]? with
   | none=>rw[hx] at hy;cases hy
   | some x=>rw[hx] at hy;cases hy;exact T.val (a5 j v x hj hx)
 | arr=>
  cases h with
  | dJ hb=>exact .dJ hb
  | arr a1 a2 a3 a4 a5 a6 a7=>exact .arr a1 a2 a3 a4 a5 a6 a7
 | nest=>
  cases h with
  | nest a1 a2 a3=>exact .nest a1 a2 a3
 | map=>
  cases h with
  | map a1 a2 a3 a4 a5 a6 a7=>exact .map a1 a2 a3 a4 a5 a6 a7
theorem gy.uy {σ:List Place} {o:Option Nat} {b b':an} (h:gy σ b b') {m:Nat} (ho:bA P w o b' m):bA P w o b m:=by
 cases h with
 | dead=>exact absurd rfl ho.alive
 | var=>exact .root (by simp) (ho.flat (by simp))
 | arr=>exact .root (by simp) (ho.flat (by simp))
 | map=>exact .root (by simp) (ho.flat (by simp))
 | nest=>
  cases ho with
  | root _ hb=>exact .root (by simp) hb
  | row hb ha=>exact .row hb ha
theorem gy.PY {σ:List Place} {b b':an} (h:gy σ b b'):b'≠ .dead→b≠ .dead:=by
 intro h1 U;subst U;cases h;exact h1 rfl
end
section
variable {P:Program} {A:cJ} {w w':World} {I I' I2:Nat→Prop} {μ β β' cb:Nat→Option Nat} {hp hp' hp0 bq:Nat→Option an} {C:ag} {B:Nat} {M:Nat→Prop} {w0:Start}
theorem PZ: ∀{vs:List Nat} {k:Nat},k<vs.length→bE (vs.map (· +1)) k=bE vs k+1
 | [],k,h=>by simp at h
 | v::vs,0,h=>rfl
 | v::vs,k+1,h=>by simp only[cy,bE];exact PZ (by simpa using h)
theorem P0: ∀{vs:List Nat} {k:Nat},bE vs k≤bE (vs.map (· +1)) k
 | [],k=>by simp[bE]
 | v::vs,0=>by simp[bE]
 | v::vs,k+1=>by simp only[cy,bE];exact P0
def Ar (hp:Nat→Option an) (q:Nat × an):Prop:=(∃e es v2,q.2= .nest e es v2)→∃e es ar e' aK,hp q.1=some (.nest e es ar)∧q.2= .nest e' aK (ar.map (· +1))
theorem ec.Jz {id:Nat} {o:Option Nat} {blk:an} (h:ec P w β hp (.blk id) o blk):o=β id∧∃b0,hp id=some b0∧b0≠ .dead:=by
 cases h with
 | var h=>exact ⟨rfl,_,h,by simp⟩
 | arr h=>exact ⟨rfl,_,h,by simp⟩
 | nest h=>exact ⟨rfl,_,h,by simp⟩
 | map h=>exact ⟨rfl,_,h,by simp⟩
theorem ec.aag {id:Nat} {o:Option Nat} {c b b' b0:an} {σ:List Place} (h:ec P w β hp (.blk id) o c) (h0:hp id=some b0) (hle:c.le b) (hb:gy σ b b') (hn:Ar hp (id,b')):b0.le b':=by
 cases h with
 | var h=>
  rw[h] at h0;cases h0
  cases hb with
  | dead=>trivial
  | var=>trivial
  | arr=>exact hle.elim
  | nest=>exact hle.elim
  | map=>exact hle.elim
 | arr h=>
  rw[h] at h0;cases h0
  cases hb with
  | dead=>trivial
  | var=>exact hle.elim
  | arr=>exact hle
  | nest=>exact hle.elim
  | map=>exact hle.elim
 | map h=>
  rw[h] at h0;cases h0
  cases hb with
  | dead=>trivial
  | map=>exact hle
  | _=>exact hle.elim
 | nest h=>
  rw[h] at h0;cases h0
  cases hb with
  | dead=>trivial
  | var=>exact hle.elim
  | arr=>exact hle
  | map=>exact hle.elim
  | @nest e es v1 v2=>
   obtain ⟨e1,cv,uz,e2,cd,k1,k2⟩:=hn ⟨_,_,_,rfl⟩
   cases k2
   change hp id=_ at k1
   rw[h] at k1;cases k1
   exact ⟨hle.1,hle.2.1,by simp,fun k=>P0⟩
theorem ec.other {p:Place} {o:Option Nat} {blk:an} (h:ec P w β hp p o blk) (he:hp' p.id=hp p.id):ec P w β hp' p o blk:=by
 cases h with
 | var h=>exact .var (he.trans h)
 | arr h=>exact .arr (he.trans h)
 | nest h=>exact .nest (he.trans h)
 | map h=>exact .map (he.trans h)
 | row h a b c d e f g=>exact .row (he.trans h) a b c d e f g
open Classical in
theorem P1 (S:aF P w I β hp B M w0) {pl:List Place} {o:Nat→Option Nat} {bs:List an} {nb:Nat} {bk fr:List (Nat × an)} {σ:List Place} (rb:σ=pl++sm nb (bs.length-pl.length)) (As:fr=qA σ nb (bs.drop pl.length))
  (jm:(pl.map Place.id).Nodup) (qN:pl.length≤bs.length)
  (pU: ∀(j:Nat) p,pl[j]? =some p→∃id b,p= .blk id∧(id,b)∈bk) (EJ: ∀q∈bk,∃(j:Nat) (b:an),pl[j]? =some (.blk q.1)∧bs[j]? =some b∧gy σ b q.2∧Ar hp q)
  (hl: ∀j blk,hp0 j=some blk→∃p,ej pl j=some p∧ec P w β hp p (o j) blk) (hd: ∀j,j<pl.length→∃blk,hp0 j=some blk)
  (Sc:aF P w' I2 cb (jR bs) w.heap.size (oU P w o hp0) ⟨w,I⟩) (wS:lq w I o hp0 w' I2 cb (jR bs)) (sJ: ∀q∈fr,hp q.1=none):
  ∃β',Le P w I β hp w' I2 β' (bM hp (fr++bk))∧aF P w' I2 β' (bM hp (fr++bk)) B M w0∧pT σ cb (jR bs) β' (bM hp (fr++bk)):=by
 generalize JA:bM hp (fr++bk)=gr
 let β':Nat→Option Nat:=fun n=>if∃q∈fr,q.1=n then cb (pl.length+(n-nb)) else β n
 have P2: ∀(j:Nat) id,pl[j]? =some (.blk id)→∃c,hp0 j=some c∧ec P w β hp (.blk id) (o j) c:=by
  intro j id hj
  obtain ⟨c,hc⟩:=hd j (bz.1 hj).1
  obtain ⟨p,h1,U⟩:=hl j c hc
  rw[l8,hj] at h1
  cases h1
  exact ⟨c,hc,U⟩
 have uniq: ∀(j1 j2:Nat) id,pl[j1]? =some (.blk id)→pl[j2]? =some (.blk id)→j1=j2:=by
  intro j1 j2 id h1 U
  have m1:(pl.map Place.id)[j1]? =some id:=by rw[fR,h1];rfl
  have m2:(pl.map Place.id)[j2]? =some id:=by rw[fR,U];rfl
  obtain ⟨z1,z2⟩:=bz.1 m1
  obtain ⟨z3,z4⟩:=bz.1 m2
  exact (List.getElem_inj jm).1 (z2.trans z4.symm)
 have cls: ∀id,(∃i b,id=nb+i∧bs[pl.length+i]? =some b∧gr id=some (tL σ b)∧hp id=none∧β' id=cb (pl.length+i))∨
   (∃(j:Nat) (b b' c b0:an),pl[j]? =some (.blk id)∧bs[j]? =some b∧hp0 j=some c∧ec P w β hp (.blk id) (o j) c∧hp id=some b0∧b0.le b'∧gr id=some b'∧gy σ b b'∧Ar hp (id,b')∧β' id=β id∧c.le b∧(b≠ .dead→cb j=β id))∨
   (gr id=hp id∧(∀j:Nat,pl[j]? ≠some (.blk id))∧β' id=β id):=by
  intro id
  by_cases hm: ∃b,(id,b)∈fr++bk
  ·obtain ⟨b,hm⟩:=hm
   obtain ⟨b',DV,he⟩:=DS (hp:=hp) hm
   rw[JA] at he
   rcases eQ.1 DV with h|h
   ·have h0:=sJ _ h
    have oV:β' id=cb (pl.length+(id-nb)):=aj ⟨_,h,rfl⟩
    rw[As] at h
    obtain ⟨i,b1,k1,k2⟩:=PU h
    rw[iy] at k1
    cases k2
    exact .inl ⟨i,b1,rfl,k1,he,h0,by rw[oV];congr 2;omega⟩
   ·obtain ⟨j,b1,q1,q2,q3,q4⟩:=EJ _ h
    obtain ⟨c,c1,c2⟩:=P2 j id q1
    obtain ⟨c3,b0,c4,c5⟩:=c2.Jz
    obtain ⟨b2,d1,d2,d3⟩:=wS.blk j c c1
    rw[ic,q2] at d1
    cases d1
    refine .inr (.inl ⟨j,b1,b',c,b0,q1,q2,c1,c2,c4,c2.aag c4 d2 q3 q4,he,q3,q4,ai ?_,d2,fun h=>(d3 h).trans c3⟩)
    rintro ⟨q,hq,hqe⟩
    rw[←hqe,sJ q hq] at c4
    cases c4
  ·refine .inr (.inr ⟨?_,fun j hj=> ?_,ai ?_⟩)
   ·rcases tX (hp:=hp) (l:=fr++bk) (id:=id) with h|⟨b,hb,_⟩
    ·rw[JA] at h;exact h
    ·exact absurd ⟨b,hb⟩ hm
   ·obtain ⟨aD,b,e,hb⟩:=pU j _ hj
    cases e
    exact hm ⟨b,eQ.2 (.inr hb)⟩
   ·rintro ⟨q,hq,rfl⟩
    exact hm ⟨q.2,eQ.2 (.inl hq)⟩
 have P4: ∀b,oU P w o hp0 b→∃(j id:Nat) (b1:an),pl[j]? =some (.blk id)∧hp id=some b1∧bA P w (β id) b1 b∧∀e es,b1≠ .arr e es true:=by
  rintro b ⟨j,c,hc,ho⟩
  obtain ⟨p,h1,U⟩:=hl j c hc
  rw[l8] at h1
  obtain ⟨id,b2,rfl,_⟩:=pU j p h1
  obtain ⟨b1,k1,k2,k3⟩:=U.uy ho
  exact ⟨j,id,b1,h1,k1,k2,k3⟩
 have other: ∀id blk b,hp id=some blk→bA P w (β id) blk b→(∀j:Nat,pl[j]? ≠some (.blk id))→¬oU P w o hp0 b∧w'.heap[b]? =w.heap[b]? ∧(I2 b→I b):=by
  intro id blk b e1 e3 e4
  have oW: ¬oU P w o hp0 b:=by
   intro hx
   obtain ⟨j,aD,b1,i1,i2,i3,_⟩:=P4 b hx
   have:=S.h.inj id aD _ _ b e1 i2 e3 i3
   subst this
   exact e4 j i1
  have aN:=S.h.lt e1 e3
  refine ⟨oW,Sc.cj b aN oW,fun h=> ?_⟩
  rcases Sc.new b h with h|h|h
  ·exact h
  ·exact absurd h oW
  ·omega
 have sE:pT σ cb (jR bs) β' gr:=by
  refine ⟨fun j b hj=> ?_,fun j hj=> ?_,fun j id ver path hj=> ?_⟩
  ·rw[ic] at hj
   by_cases cl:j<pl.length
   ·obtain ⟨id,b1,e,lZ⟩:=pU j _ (bC cl)
    have EK:pl[j]? =some (.blk id):=by rw[bC cl,e]
    have JB:ej σ j=some (.blk id):=by rw[rb];exact oT (by rw[l8];exact EK)
    rcases cls id with ⟨i,b2,c1,c2,c3,c4,c5⟩|⟨j',b2,b',c,b0,q1,q2,q3,q4,q5,q6,q7,q8,q9,pV,wU,rf⟩|⟨c1,c2,c3⟩
    ·obtain ⟨c,d1,d2⟩:=P2 j id EK
     obtain ⟨_,b0,d3,_⟩:=d2.Jz
     rw[d3] at c4;cases c4
    ·obtain rfl:=uniq _ _ _ q1 EK
     rw[hj] at q2;cases q2
     exact ⟨id,b',JB,q7,q8,fun h=>pV.trans (rf h).symm⟩
    ·exact absurd EK (c2 j)
   ·have P5:=(bz.1 hj).1
    have JB:ej σ j=some (.blk (nb+(j-pl.length))):=by
     rw[rb,l8,iW (by omega)]
     exact EI (by omega)
    have hm:(nb+(j-pl.length),tL σ b)∈fr:=by
     rw[As]
     refine PV ?_
     rw[iy,show pl.length+(j-pl.length)=j by omega]
     exact hj
    rcases cls (nb+(j-pl.length)) with ⟨i,b2,c1,c2,c3,c4,c5⟩|⟨j',b2,b',c,b0,q1,q2,q3,q4,q5,q6,q7,q8,q9,pV,wU,rf⟩|⟨c1,c2,c3⟩
    ·have hi:i=j-pl.length:=by omega
     subst hi
     rw[show pl.length+(j-pl.length)=j by omega] at c2 c5
     rw[hj] at c2;cases c2
     exact ⟨_,_,JB,c3,.of σ _,fun _=>c5⟩
    ·rw[sJ _ hm] at q5;cases q5
    ·obtain ⟨b',DV,he⟩:=DS (hp:=hp) (l:=fr++bk) (eQ.2 (.inl hm))
     rw[JA,c1,sJ _ hm] at he
     cases he
  ·rw[ic] at hj
   have:=List.getElem?_eq_none_iff.1 hj
   rw[rb,l8,List.getElem?_eq_none_iff,bZ,Jy]
   omega
  ·rw[rb,l8] at hj
   by_cases cl:j<pl.length
   ·rw[iU cl] at hj
    obtain ⟨aD,b1,e,_⟩:=pU j _ hj
    cases e
   ·have P5:j-pl.length<bs.length-pl.length:=by
     have:=(bz.1 hj).1
     rw[bZ,Jy] at this
     omega
    rw[iW (by omega),EI P5] at hj
    cases hj
 have hle:Le P w I β hp w' I2 β' gr:=by
  refine ⟨wS.dm,wS.cj,fun id blk ab=> ?_,fun id blk blk' b ab bG rh hb=> ?_,fun id e es ar e' aK vers' b q i c t v e1 l ab bG hb aN hv ht hc=> ?_⟩
  ·rcases cls id with ⟨i,b2,c1,c2,c3,c4,c5⟩|⟨j',b2,b',c,b0,q1,q2,q3,q4,q5,q6,q7,q8,q9,pV,wU,rf⟩|⟨c1,c2,c3⟩
   ·rw[ab] at c4;cases c4
   ·rw[ab] at q5;cases q5
    exact ⟨b',q7,q6,fun _=>pV⟩
   ·exact ⟨blk,c1.trans ab,an.le_refl _,fun _=>c3⟩
  ·rcases cls id with ⟨i,b2,c1,c2,c3,c4,c5⟩|⟨j',b2,b',c,b0,q1,q2,q3,q4,q5,q6,q7,q8,q9,pV,wU,rf⟩|⟨c1,c2,c3⟩
   ·rw[ab] at c4;cases c4
   ·rw[q7] at bG;cases bG
    exact wS.size j' c b2 b q3 (by rw[ic];exact q2) (q8.PY rh) (q4.Jz.1.trans hb)
   ·rw[c1,ab] at bG
    cases bG
    simp only[bsize,(other id blk b ab (.root rh hb) c2).2.1]
  ·rcases cls id with ⟨i2,b2,c1,c2,c3,c4,c5⟩|⟨j',b2,b',c',b0,q1,q2,q3,q4,q5,q6,q7,q8,q9,pV,wU,rf⟩|⟨c1,c2,c3⟩
   ·rw[ab] at c4;cases c4
   ·rw[q7] at bG;cases bG
    obtain ⟨_,_,uz,_,_,k1,k2⟩:=q9 ⟨_,_,_,rfl⟩
    change hp id=_ at k1
    rw[ab] at k1;cases k1
    cases k2
    rw[PZ aN] at hv
    omega
   ·rw[c1,ab] at bG
    cases bG
    exact ⟨l,rfl,hc.mono fun _ _ _ _ h=>(other id _ _ ab (.row hb h) c2).2.1⟩
 have place: ∀id blk b,gr id=some blk→bA P w' (β' id) blk b→(∃j c,jR bs j=some c∧bA P w' (cb j) c b∧ej σ j=some (.blk id))∨(b<w.heap.size∧¬oU P w o hp0 b∧hp id=some blk∧bA P w (β id) blk b):=by
  intro id blk b e1 e3
  rcases cls id with ⟨i,b2,c1,c2,c3,c4,c5⟩|⟨j',b2,b',c,b0,q1,q2,q3,q4,q5,q6,q7,q8,q9,pV,wU,rf⟩|⟨c1,c2,c3⟩
  ·rw[c3] at e1;cases e1
   rw[c5] at e3
   refine .inl ⟨pl.length+i,b2,by rw[ic];exact c2,(gy.of σ b2).uy e3,?_⟩
   have:=(bz.1 c2).1
   rw[rb,l8,iW (by omega),EI (by omega),c1]
   congr 3
   omega
  ·rw[q7] at e1;cases e1
   have rh:b2≠ .dead:=q8.PY e3.alive
   rw[pV,←rf rh] at e3
   exact .inl ⟨j',b2,by rw[ic];exact q2,q8.uy e3,by rw[rb];exact oT (by rw[l8];exact q1)⟩
  ·rw[c1] at e1
   rw[c3] at e3
   have:=e3.mono (w:=w) fun b hb=>(other id blk b e1 hb c2).2.1
   exact .inr ⟨S.h.lt e1 this,(other id blk b e1 this c2).1,e1,this⟩
 have sw: ∀b,oU P w o hp0 b∨w.heap.size≤b→M b∨B≤b:=by
  rintro b (h|h)
  ·obtain ⟨j,id,b1,i1,i2,i3,_⟩:=P4 b h
   exact S.h.own id b1 b i2 i3
  ·exact .inr (lI S.size h)
 have JC: ∀j c b,jR bs j=some c→bA P w' (cb j) c b→oU P w o hp0 b∨w.heap.size≤b:=fun j c b h1 U=>Sc.h.own j c b h1 U
 refine ⟨β',hle,⟨⟨fun id blk ab=> ?_,fun i1 i2 b1 b2 b e1 e2 f1 f2=> ?_,fun id blk b ab hb=> ?_,Sc.h.jV⟩,fun b hb hM=> ?_,lI S.size Sc.size,fun b hb=> ?_,⟨Sc.io.1.trans S.io.1,Sc.io.2.trans S.io.2⟩⟩,sE⟩
 ·rcases cls id with ⟨i,b2,c1,c2,c3,c4,c5⟩|⟨j',b2,b',c,b0,q1,q2,q3,q4,q5,q6,q7,q8,q9,pV,wU,rf⟩|⟨c1,c2,c3⟩
  ·rw[c3] at ab;cases ab
   rw[c5]
   exact sE.PX (Sc.h.rel _ b2 (by rw[ic];exact c2)) (.of σ b2)
  ·rw[q7] at ab;cases ab
   have:=sE.PX (Sc.h.rel j' b2 (by rw[ic];exact q2)) q8
   by_cases rh:b2= .dead
   ·subst rh
    cases q8
    exact .dead
   ·rw[pV,←rf rh]
    exact this
  ·rw[c1] at ab
   rw[c3]
   exact (S.h.rel id blk ab).mono hle fun b hb=>(other id blk b ab hb c2).2
 ·rcases place i1 b1 b e1 f1 with ⟨j1,c1,g1,g2,g3⟩|⟨g1,g2,g3,g4⟩<;>rcases place i2 b2 b e2 f2 with ⟨j2,c2,k1,k2,k3⟩|⟨k1,k2,k3,k4⟩
  ·have:=Sc.h.inj j1 j2 c1 c2 b g1 k1 g2 k2
   subst this
   rw[g3] at k3
   cases k3
   rfl
  ·rcases JC j1 c1 b g1 g2 with h|h
   ·exact absurd h k2
   ·omega
  ·rcases JC j2 c2 b k1 k2 with h|h
   ·exact absurd h g2
   ·omega
  ·exact S.h.inj i1 i2 _ _ b g3 k3 g4 k4
 ·rcases place id blk b ab hb with ⟨j1,c1,g1,g2,g3⟩|⟨g1,g2,g3,g4⟩
  ·exact sw b (JC j1 c1 b g1 g2)
  ·exact S.h.own id blk b g3 g4
 ·refine (Sc.cj b (rW hb S.size) fun hx=> ?_).trans (S.cj b hb hM)
  rcases sw b (.inl hx) with h|h
  ·exact hM h
  ·omega
 ·rcases Sc.new b hb with h|h|h
  ·exact S.new b h
  ·exact .inr (sw b (.inl h))
  ·exact .inr (sw b (.inr h))
end
section
variable {P:Program} {A:cJ} {w w':World} {I I' I2:Nat→Prop} {μ β β' cb:Nat→Option Nat} {hp hp' hp0 bq:Nat→Option an} {C:ag} {B:Nat} {M:Nat→Prop} {w0:Start}
theorem P6 (hp:Nat→Option an): ∀(a b:List (Nat × an)),bM hp (a++b)=bM (bM hp b) a
 | [],b=>rfl
 | (i,x)::a,b=>by simp only[List.cons_append,bM,P6 hp a b]
theorem wV {hp:Nat→Option an} {l:List (Nat × an)} {id:Nat} (h: ∀q∈l,q.1≠id):bM hp l id=hp id:=by
 rcases tX (hp:=hp) (l:=l) (id:=id) with h1|⟨b,hb,_⟩
 ·exact h1
 ·exact absurd rfl (h _ hb)
def y8 (P : Program) : Prop := ∀ (f : Nat) fn, P.funcs[f]? = some fn → (fn.name == "runtime.NumGoroutine") = false
def P7 (P:Program) (f:FuncId) (e:TypeId):Prop:=
 (∀args w,(callFunc f args).run P w= .ok (.enter f args) w)∧∃t,P.underlying t=some (.slice e)∧
  ∀(s:Value) (w:World) (Q:Ending→World→Prop),(s= .slice none 0 0→Q (.returned (.slice none 0 0)) w)→
   (∀a n c,s= .slice (some a) n c→∃v w',(Builtin.append_ #[t,t] t #[.slice (some ⟨w.heap.size,0,none⟩) 0 0,s]).run P (w.alloc (.cells #[] e))= .ok v w'∧Q (.returned v) w')→
   (s= .slice none 0 0∨∃a n c,s= .slice (some a) n c)→Calls P f #[s] w Q
structure jn (P:Program) (A:cJ):Prop where
 count:y8 P
 ext: ∀f T,A.ext f=some T→∀(b:Nat) (C:Array Value) (w:World),w.heap[b]? =some (.cells C T (0,0))→C.size=P.cellsOf T→(C[0]? =some (.pointer none)∨C[0]? =some (.pointer (some ⟨b,0,none⟩)))→
  (callFunc f #[.pointer (some ⟨b,0,none⟩)]).run P w= .ok (.enter f #[.pointer (some ⟨b,0,none⟩)]) w∧
  Calls P f #[.pointer (some ⟨b,0,none⟩)] w fun e w'=>e= .returned (.tuple #[])∧(w'=w∨w'=w.setCell ⟨b,0,none⟩ (.pointer (some ⟨b,0,none⟩)))
 idle: ∀f,A.idle f=true→(∀args w,(callFunc f args).run P w= .ok (.enter f args) w)∧
  ∀args w,CallsD P f args .returning w fun e u' w'=>(∃v,e= .returned v)∧u'= .returning∧w'=w
 oE: ∀f e,A.oE f=some e→P7 P f e
theorem jn.here {P:Program} {A:cJ} (h:jn P A) (f id:Nat):jn P (A.here f id):=⟨h.count,h.ext,h.idle,h.oE⟩
def Au (E:FuncId→Bool) (d:Deferred):Prop:= ∃f cap,d.target= .fn (.func f) cap∧E f=true
theorem JD {P:Program} {A:cJ} (hP:jn P A) {fn:Func} {tmps:Array Value} {R:Ending→World→Prop} {w:World} {v:Value} (hv:(results fn tmps).run P w= .ok v w) (hR:R (.returned v) w):
  ∀ds:List Deferred,(∀d∈ds,Au A.idle d)→Leaves P fn tmps R ds .returning w
 | [],_=>⟨v,hv,hR⟩
 | d::ds,h=>by
  obtain ⟨f,cap,ht,hf⟩:=h d (by simp)
  obtain ⟨k1,k2⟩:=hP.idle f hf
  obtain ⟨t,P8⟩:=d
  simp only at ht
  subst ht
  refine leaves_cons (f:=f) (args:=P8++cap) (by simp) ?_ ?_
  ·simp only[invoke];exact k1 _ w
  ·refine (k2 (P8++cap) w).mono fun e u' w' hr=> ?_
   obtain ⟨⟨v',rfl⟩,rfl,rfl⟩:=hr
   exact JD hP hv hR ds fun d hd=>h d (lK _ hd)
def Av (P:Program) (A:cJ) (o:Oper) (a:Act) (w:World) (I:Nat→Prop) (β:Nat→Option Nat) (hp:Nat→Option an) (B:Nat) (M:Nat→Prop) (w0:Start) (r:R):Prop:=
 ∀(next:Act→World→Prop) (Q:Exit→Act→World→Prop),
  (∀v w' I' β' ds,Le P w I β hp w' I' β' (bM hp r.upd)→aF P w' I' β' (bM hp r.upd) B M w0→ao P w' I' β' (bM hp r.upd) v r.v→(∀d∈ds,d∈a.defers∨Au A.idle d)→next ({a with defers:=ds}.put o.dst v) w')→o.wp P a w next Q
theorem pJ.step {o:Oper} {a:Act} {r:R} (h:pJ P ((execOp a.eval o).run P w) w I β hp B M w0 r):Av P A o a w I β hp B M w0 r:=by
 obtain ⟨v,w',I',β',h1,U,h3,h4⟩:=h
 intro next Q hn
 unfold Oper.wp
 rcases h1 with h1|⟨h1,rfl⟩
 ·rw[h1];exact hn v w' I' β' a.defers U h3 h4 fun d hd=> .inl hd
 ·rw[h1];exact hn _ w' I' β' a.defers U h3 h4 fun d hd=> .inl hd
theorem P9: ∀(l:List (Nat × VS)),oG l=sk (l.map (·.2))
 | []=>rfl
 | (_,s)::l=>by simp only[oG,cy,sk,P9 l]
theorem aah (hC:lr P A C) (S:aF P w I β hp B M w0) (hg:gF P A.aE w I) {vals:List Value} {args:List V} {nb key:Nat} {f:FuncId} {r:R} {rd:List Nat} (hlen:vals.length=args.length)
  (cL: ∀(j:Nat) v x,vals[j]? =some v→args[j]? =some x→ao P w I β hp v x) (h:(zD P A nb key f args).run C hp=some (r,rd)):
  ∃fn c,P.funcs[f]? =some fn∧fn.body=some c∧Calls P f vals.toArray w fun e w'=> ∃v I' β',e= .returned v∧Le P w I β hp w' I' β' (bM hp r.upd)∧aF P w' I' β' (bM hp r.upd) B M w0∧ao P w' I' β' (bM hp r.upd) v r.v:=by
 unfold zD at h
 obtain ⟨Qa,h0⟩:=aG h
 clear h
 rw[aU] at Qa
 subst Qa
 obtain ⟨h1,jI,d1,u1,a1,a2,a3,a5,a4⟩:=Jv S h0 hlen cL
 obtain ⟨U,sI,d2,u2,b1,b2,b3,b4⟩:=PL S a1
 clear h0 a1
 obtain ⟨hc,h3⟩:=aG b1
 clear b1
 simp only[aM,aU,nn] at hc
 obtain ⟨bU,EH⟩:=hc
 have sK:=a2.trans b2
 have lH:U.ds=d1++d2:=by have:=sK.ds;simpa using this
 have EL:U.upd=u1++u2:=by have:=sK.upd;simpa using this
 have jm:(U.pl.map Place.id).Nodup:=sK.nodup (by simp)
 obtain ⟨c1,o,c2,c3⟩:=b4 []
 simp only[cR] at c1 c2 c3
 cases Aw:C key U.ds with
 | none=>
  simp only[Rd.run,Aw] at h3
  cases h3
 | some es=>
  have qK: ∃e7,(zC P (A.so key es) nb U (A.lv key es)).run C hp=some (r,e7):=by
   obtain ⟨x,hx,e⟩:=bind_some h3
   rw[Aw] at hx
   cases hx
   unfold cJ.so cJ.lv
   cases cm:A.alt key with
   | none=>rw[cm] at e;exact ⟨_,e⟩
   | some S2=>
    rw[cm] at e
    simp only[Rd.run] at e
    cases hb:(V.nth es 0).toBool<;>(rw[hb] at e;exact ⟨_,e⟩)
  clear h3
  obtain ⟨e7,h3⟩:=qK
  unfold zC at h3
  simp only at h3
  generalize hO:eS (A.so key es).bj ((A.lv key es).drop (oG (A.so key es).bR))=bs at h3
  generalize rb:U.pl++sm nb (bs.length-U.pl.length)=σ at h3
  generalize As:qA σ nb (bs.drop U.pl.length)=fr at h3
  obtain ⟨p0,bk,rd4,p1,p2,_,p3⟩:=PT h3
  obtain ⟨sJ,rd5,p4⟩:=PW p1
  obtain rfl:=aO p4
  have qN:U.pl.length≤bs.length:=by rw[fe] at p0;omega
  have EJ: ∀q∈bk,∃(j:Nat) (b:an),U.pl[j]? =some (.blk q.1)∧bs[j]? =some b∧gy σ b q.2∧Ar hp q:=by
   intro q hq
   rcases p2 q hq with hx|⟨j,b,k1,k2,k3,k4⟩
   ·simp at hx
   ·have hj:=(bz.1 k1).1
    rw[fc hj] at k2
    exact ⟨j,b,k1,k2,k3,k4⟩
  obtain ⟨fn,c,hf,hb,JE⟩:=hC key U.ds es Aw
  refine ⟨fn,c,hf,hb,?_⟩
  have hmb:eS (A.sin key).bj (U.ds.drop (oG (A.sin key).bR))=eS (A.sin key).bj d2:=by
   rw[lH,P9,nQ a3]
  have JF:(br (A.sin key) U.ds).hp=jR (eS (A.sin key).bj d2):=by
   simp only[br,mk,hmb]
  have hl: ∀j blk,(br (A.sin key) U.ds).hp j=some blk→∃p,ej U.pl j=some p∧ec P w β hp p (o j) blk:=by
   intro j blk hj
   rw[JF,ic] at hj
   obtain ⟨p,k1,k2⟩:=c2 j blk hj
   rw[gY] at k1
   exact ⟨p,k1,k2⟩
  have hd: ∀j,j<U.pl.length→∃blk,(br (A.sin key) U.ds).hp j=some blk:=by
   intro j hj
   rw[JF,ic]
   exact ⟨_,bC (by rw[c1,←bU];exact hj)⟩
  have Qb:Am P w β hp U.pl o (br (A.sin key) U.ds).hp:=by
   intro j p hj
   obtain ⟨blk,k1⟩:=hd j (by rw[l8] at hj;exact (bz.1 hj).1)
   obtain ⟨p',k2,k3⟩:=hl j blk k1
   rw[hj] at k2
   cases k2
   exact ⟨blk,k1,k3⟩
  obtain ⟨qT,S1⟩:=zT S sK.EB
  rw[←EL] at qT S1
  have i1: ∀b,I b→je P w I β hp U.upd b:=fun b h=> .inl h
  have entry:=aac (hp0:=(br (A.sin key) U.ds).hp) S jm EH hl (fun cQ j blk hj=>by
   have gM:=hj
   rw[JF,ic] at gM
   exact c3 (je P w I β hp U.upd) o _ i1 (fun q hq b hb=> .inr ⟨q,by rw[EL];exact eQ.2 (.inr hq),hb⟩) U.pl [] (by simp) Qb j blk gM (cQ j blk hj)) S1.h.jV
  have aai:vals.length=(A.sin key).bR.length:=by rw[hlen,←a5];simp
  have ha:=JE w (je P w I β hp U.upd) o vals entry (hg.mono i1 fun _ _=>rfl) aai fun j v x hj hx=>by
   rw[lH] at hx
   exact (((a4.An b2) (je P w I β hp U.upd) o _ i1 (fun q hq b hb=> .inr ⟨q,by rw[EL];exact hq,hb⟩) U.pl [] (by simp) Qb) d2).2 j v x hj hx
  refine ha.mono fun e w' Ax=> ?_
  obtain ⟨v,I2,cb,rfl,ha⟩:=Ax
  have wW:(br (A.so key es) (A.lv key es)).hp=jR bs:=by simp only[br,mk,hO]
  cases aaj:(A.so key es).safe P with
  | true=>
   simp only[cond_true,cR]
   have hZ: ∀b,I b→I2 b:=fun b h=>ha.le.dm b (i1 b h)
   obtain ⟨s1,s2⟩:=aaf aaj hZ ha.wR i1
   have wS:lq w I o (br (A.sin key) U.ds).hp w' I cb (jR bs):=by
    rw[←wW]
    exact ⟨fun _ h=>h,fun b h=>ha.le.cj b (i1 b h),ha.le.blk,ha.le.size⟩
   obtain ⟨β',k1,k2,k3⟩:=P1 S rb.symm As.symm jm qN p3 EJ hl hd (by rw[←wW];exact ⟨s1.h,s1.cj,s1.size,fun b h=> .inl h,s1.io⟩) wS sJ
   exact ⟨v,I,β',rfl,k1,k2,k3.val (by have:=s2 v ha.res;rw[wW] at this;exact this)⟩
  | false=>
   simp only[cond_false]
   rw[←cx,P6]
   have oW: ∀p∈U.pl,bM hp U.upd p.id=hp p.id:=fun p hp=>wV fun q hq e=>
    EG EH (gH.2 ⟨q,hq,rfl⟩) (e▸gH.2 ⟨p,hp,rfl⟩)
   have aak: ∀q∈bk,∃(j:Nat) (b:an),U.pl[j]? =some (.blk q.1)∧bs[j]? =some b∧gy σ b q.2∧Ar (bM hp U.upd) q:=by
    intro q hq
    obtain ⟨j,b,k1,k2,k3,k4⟩:=EJ q hq
    refine ⟨j,b,k1,k2,k3,fun hn=> ?_⟩
    have:=oW _ (jP k1)
    simp only[Place.id] at this
    rw[this]
    exact k4 hn
   have sr: ∀j blk,(br (A.sin key) U.ds).hp j=some blk→∃p,ej U.pl j=some p∧ec P w β (bM hp U.upd) p (o j) blk:=by
    intro j blk hj
    obtain ⟨p,k1,k2⟩:=hl j blk hj
    exact ⟨p,k1,k2.other (oW p (by rw[l8] at k1;exact jP k1))⟩
   have aal: ∀q∈fr,bM hp U.upd q.1=none:=by
    intro q hq
    rw[wV fun q' Ay e=> ?_]
    ·exact sJ q hq
    ·obtain ⟨e1,cv,_,h5⟩:=sK.EB q' (EL▸Ay)
     rw[e,sJ q hq] at h5
     rcases h5 with ⟨_,h5⟩|⟨_,h5⟩<;>cases h5
   obtain ⟨β',k1,k2,k3⟩:=P1 S1 rb.symm As.symm jm qN p3 aak sr hd (by rw[←wW];exact ha.wR) (by rw[←wW];exact ha.le) aal
   exact ⟨v,I2,β',rfl,qT.trans k1,k2,k3.val (by have:=ha.res;rw[wW] at this;exact this)⟩
theorem Qc (hC:lr P A C) (hP:jn P A) (S:aF P w I β hp B M w0) (hg:gF P A.aE w I) {a:Act} {nb key:Nat} {o:Oper} {f:FuncId} {vals:List Value} {args:List V} (hlen:vals.length=args.length)
  (cL: ∀(j:Nat) v x,vals[j]? =some v→args[j]? =some x→ao P w I β hp v x) {r:R} {rd:List Nat} (h:(zD P A nb key f args).run C hp=some (r,rd))
  (hex:(execOp a.eval o).run P w=(callFunc f vals.toArray).run P w):Av P A o a w I β hp B M w0 r:=by
 intro next Q hn
 obtain ⟨fn,c,hf,hb,JE⟩:=aah hC S hg hlen cL h
 unfold Oper.wp
 rw[hex,MuLone.run_callFunc_enter hf (hP.count f _ hf) hb,Oper.upon_enter]
 refine JE.mono fun e w' Ax=> ?_
 obtain ⟨v,I2,cb,rfl,k1,k2,k3⟩:=Ax
 exact hn v w' I2 cb a.defers k1 k2 k3 fun d hd=> .inl hd
theorem lj.args {a:Act} {sl:Nat→V} (hs:lj P w I β hp a sl) (hg:gF P A.aE w I) {args:Array Operand} {ts:Array TypeId} (ba:args.size=ts.size):
  (args.map a.eval).toList.length=((args.toList.zip ts.toList).map fun p=>aP P A.aE p.2 sl p.1).length∧
  ∀(j:Nat) v x,(args.map a.eval).toList[j]? =some v→((args.toList.zip ts.toList).map fun p=>aP P A.aE p.2 sl p.1)[j]? =some x→ao P w I β hp v x:=by
 refine ⟨by simp;omega,fun j v x hv hx=> ?_⟩
 simp only[Array.toList_map,fR,List.getElem?_zip_eq_some,zh] at hv hx
 obtain ⟨x1,Az,rfl⟩:=hv
 obtain ⟨⟨y1,t1⟩,⟨Qd,_⟩,rfl⟩:=hx
 rw[Az] at Qd
 cases Qd
 exact hs.ev hg t1 _
theorem Qe {vs us:List Value} {xs ys:List V} (h1:vs.length=xs.length) (U: ∀(j:Nat) v x,vs[j]? =some v→xs[j]? =some x→ao P w I β hp v x)
  (h3: ∀(j:Nat) v x,us[j]? =some v→ys[j]? =some x→ao P w I β hp v x) (j:Nat) (v:Value) (x:V) (hv:(vs++us)[j]? =some v) (hx:(xs++ys)[j]? =some x):ao P w I β hp v x:=by
 by_cases hj:j<vs.length
 ·rw[iU hj] at hv
  rw[iU (by omega)] at hx
  exact U j v x hv hx
 ·rw[iW (by omega)] at hv
  rw[iW (by omega)] at hx
  rw[h1] at hv
  exact h3 _ v x hv hx
theorem aam (hP:jn P A) (S:aF P w I β hp B M w0) (hg:gF P A.aE w I) {a:Act} {sl:Nat→V} (hs:lj P w I β hp a sl) {dst:Option Tmp} {ty e:TypeId} {pos:String} {after:Array Edge} {guard:Option (Nat × Bool)} {f:FuncId}
  {args:Array Operand} {argTypes:Array TypeId} {nb:Nat} {r:R} {rd:List Nat} (lp:A.oE f=some e)
  (h:((match args.toList with
    | [x]=> .aC (cS P e) (si e (aP P A.aE ty sl x) fun xs=> .aC (Nat.ble (xs.length*P.bytesOf e) bP) (jA nb (.arr e xs false) (.whole e nb) []))
    | _=> .fail):Rd R).run C hp=some (r,rd)):Av P A (Oper.mk dst (.call (Go.Call.mk (.value (.func f)) args argTypes)) ty pos after guard) a w I β hp B M w0 r:=by
 cases ha:args.toList with
 | nil=>rw[ha] at h;cases h
 | cons x l=>
  rw[ha] at h
  cases l with
  | cons _ _=>cases h
  | nil=>
   simp only at h
   have e1:args= #[x]:=by rw[←Array.toArray_toList (xs:=args),ha]
   subst e1
   have hx:=hs.ev hg ty x
   obtain ⟨au,h⟩:=aG h
   have fin: ∀{w1:World} {EM:Nat→Option Nat},(∀id blk,hp id=some blk→dZ P w1 I EM hp (EM id) blk)→ao P w1 I EM hp (a.eval x) (aP P A.aE ty sl x)→∃xs,(((∃a',a.eval x= .slice a' 0 0)∧xs=[])∨∃a' c news,Row P w1 I e (a.eval x) xs a' c news)∧
     xs.length*P.bytesOf e≤bP∧hp nb=none∧r=⟨.whole e nb,[(nb,.arr e xs false)]⟩:=by
    intro w1 EM h1 U
    obtain ⟨xs,l7,l,h⟩:=Ei h1 au U h
    obtain ⟨dV,h⟩:=aG h
    rw[cV] at dV
    obtain ⟨hn,rfl⟩:=nJ h
    exact ⟨xs,l7,dV,hn,rfl⟩
   obtain ⟨c1,t,hu,c2⟩:=hP.oE f e lp
   intro next Q wX
   unfold Oper.wp
   have e2:(execOp a.eval ⟨dst,.call ⟨.value (.func f),#[x],argTypes⟩,ty,pos,after,guard⟩).run P w= .ok (.enter f #[a.eval x]) w:=by
    have e8:a.eval (.func f)= .func (.func f) #[] #[]:=rfl
    simpa[execOp,resolve,e8,Deferred.ofValue,invoke] using c1 #[a.eval x] w
   rw[e2,Oper.upon_enter]
   refine c2 _ w _ (fun AA=> ?_) (fun b n c pN=> ?_) ?_
   ·obtain ⟨xs,l7,dV,hn,rfl⟩:=fin S.h.rel hx
    have gN:xs=[]:=by
     rcases l7 with ⟨_,h⟩|⟨a,c,news,hr⟩
     ·exact h
     ·have:=hr.val.symm.trans AA
      cases this
    subst gN
    obtain ⟨a1,a2⟩:=DW S e hn
    exact wX _ w I _ a.defers a1 a2 (.dI (cW _ _ _) (cW _ _ _)) fun d hd=> .inl hd
   ·obtain ⟨m1,m2⟩:=X4 (w':=w.alloc (.cells #[] e)) S (fun b hb=>heap_alloc_old w _ b hb) (by simp) ⟨rfl,rfl⟩
    obtain ⟨xs,l7,dV,hn,rfl⟩:=fin m2.h.rel (hx.mono m1)
    obtain ⟨v,w',β',a1,a2,a3,a4⟩:=IW (ty:=t) (a0:=some ⟨w.heap.size,0,none⟩) m2 hu au hn dV l7
    exact ⟨v,w',a1,wX v w' I β' a.defers (m1.trans a2) a3 a4 fun d hd=> .inl hd⟩
   ·obtain ⟨xs,l7,dV,hn,rfl⟩:=fin S.h.rel hx
    rcases l7 with ⟨⟨b,h⟩,_⟩|⟨b,c,news,hr⟩
    ·rw[h]
     cases b with
     | none=>exact .inl rfl
     | some b=>exact .inr ⟨_,_,_,rfl⟩
    ·exact .inr ⟨_,_,_,hr.val⟩
theorem aan (hP:jn P A) (S:aF P w I β hp B M w0) (hg:gF P A.aE w I) {a:Act} {sl:Nat→V} (hs:lj P w I β hp a sl) {dst:Option Tmp} {ty T0:TypeId} {pos:String} {after:Array Edge} {guard:Option (Nat × Bool)} {f:FuncId}
  {args:Array Operand} {argTypes:Array TypeId} {r:R} {rd:List Nat} (AB:A.ext f=some T0)
  (h:((match args.toList with
   | [x]=>
    match aP P A.aE ty sl x with
    | .ptr id i c=>Rd.get id fun
     | some (.var T cs)=> .aC (Nat.beq T T0&&(pC P T&&(Nat.beq cs.length (P.cellsOf T)&&(Nat.beq i 0&&Nat.beq c 0)))) (.ret ⟨.bm [],[(id,.var T (.undef::cs.tail))]⟩)
     | _=> .fail
    | _=> .fail
   | _=> .fail):Rd R).run C hp=some (r,rd)):Av P A (Oper.mk dst (.call (Go.Call.mk (.value (.func f)) args argTypes)) ty pos after guard) a w I β hp B M w0 r:=by
 cases ha:args.toList with
 | nil=>rw[ha] at h;cases h
 | cons x l=>
  rw[ha] at h
  cases l with
  | cons _ _=>cases h
  | nil=>
   simp only at h
   have e1:args= #[x]:=by rw[←Array.toArray_toList (xs:=args),ha]
   subst e1
   have hx:=hs.ev hg ty x
   cases ft:aP P A.aE ty sl x<;>rw[ft] at h hx<;>simp only at h<;>first|(cases h;done)|skip
   rename_i id i c
   obtain ⟨l,h1⟩:=run_get h
   cases ab:hp id with
   | none=>rw[ab] at h1;cases h1
   | some blk=>
    rw[ab] at h1
    cases blk<;>simp only at h1<;>first|(cases h1;done)|skip
    rename_i T cs
    obtain ⟨U,h3⟩:=aG h1
    simp only[aM,aU] at U
    obtain ⟨rfl,bQ,oX,rfl,rfl⟩:=U
    obtain rfl:=aO h3
    obtain ⟨b,hb,he⟩:=hx.hU ab (by simp)
    have hr:=S.h.rel id _ ab
    rw[hb] at hr
    cases hr with
    | @var _ b' Ca _ aB hh ba hI gN gq=>
     cases aB
     have hY:a.eval x= .pointer (some ⟨b,0,none⟩):=by rw[he];simp[an.sz]
     obtain ⟨q1,q2⟩:=hP.ext f T AB b Ca w hh (ba.trans oX) (gq bQ)
     have h0:0<Ca.size:=by
      rcases gq bQ with k|k<;>exact (iz.1 k).1
     have oN:(V.undef::cs.tail).length=cs.length:=by
      cases cs with
      | nil=>rw[ba] at h0;simp at h0
      | cons _ _=>rfl
     have rel: ∀(C':Array Value),(∀j,0<j→C'[j]? =Ca[j]?)→∀(j:Nat) v y,C'[j]? =some v→(V.undef::cs.tail)[j]? =some y→ao P w I β hp v y:=by
      intro C' wF j v y hj hy
      cases j with
      | zero=>simp at hy;subst hy;exact .undef
      | succ j=>
       rw[wF _ (by omega)] at hj
       refine gN (j+1) v y hj ?_
       cases cs with
       | nil=>rw[ba] at h0;simp at h0
       | cons _ _=>simpa using hy
     have fin: ∀w' C',(∀b',b'≠b→w'.heap[b']? =w.heap[b']?)→w'.heap[b]? =some (.cells C' T (0,0))→C'.size=Ca.size→w.heap.size≤w'.heap.size→w'.os=w.os∧w'.output=w.output→
       (∀j,0<j→C'[j]? =Ca[j]?)→(C'[0]? =some (.pointer none)∨C'[0]? =some (.pointer (some ⟨b,0,none⟩)))→
       Le P w I β hp w' I β (aI hp id (some (.var T (V.undef::cs.tail))))∧aF P w' I β (aI hp id (some (.var T (V.undef::cs.tail)))) B M w0:=by
      intro w' C' k1 k2 k3 k4 k5 k6 k7
      exact DY (w':=w') (blk':= .var T (V.undef::cs.tail)) S ab (by simp) rfl hb hI (by simp) k1 (by rw[nD k2,nD hh,k3]) k4 k5 fun hle=>
       .var rfl k2 (by rw[k3,ba,oN]) hI (fun j v y hj hy=>(rel C' k6 j v y hj hy).mono hle) fun _=>k7
     intro next Q hn
     unfold Oper.wp
     have e2:(execOp a.eval ⟨dst,.call ⟨.value (.func f),#[x],argTypes⟩,ty,pos,after,guard⟩).run P w= .ok (.enter f #[.pointer (some ⟨b,0,none⟩)]) w:=by
      have e8:a.eval (.func f)= .func (.func f) #[] #[]:=rfl
      simpa[execOp,resolve,e8,Deferred.ofValue,invoke,hY] using q1
     rw[e2,Oper.upon_enter]
     refine q2.mono fun e w' Ax=> ?_
     obtain ⟨rfl,hw⟩:=Ax
     have Qf:Le P w I β hp w' I β (aI hp id (some (.var T (V.undef::cs.tail))))∧aF P w' I β (aI hp id (some (.var T (V.undef::cs.tail)))) B M w0:=by
      rcases hw with rfl|rfl
      ·exact fin w' Ca (fun _ _=>rfl) hh rfl (b9 _) ⟨rfl,rfl⟩ (fun _ _=>rfl) (gq bQ)
      ·refine fin (w.setCell ⟨b,0,none⟩ (.pointer (some ⟨b,0,none⟩))) (Ca.setIfInBounds 0 (.pointer (some ⟨b,0,none⟩))) (fun b' bD=> ?_) ?_ (by simp) (by simp[World.setCell]) ⟨rfl,rfl⟩ (fun j hj=> ?_) (.inr ?_)
       ·simp only[World.setCell,zg]
        rw[ai (fun e=>bD e.symm)]
       ·simp[World.setCell,zg,hh]
       ·rw[Dc (by omega)]
       ·rw[HS h0]
     exact hn (.tuple #[]) w' I β a.defers Qf.1 Qf.2 (.bm rfl fun j v y hj _=>by simp at hj) fun d hd=> .inl hd
theorem aao (hC:lr P A C) (hP:jn P A) (S:aF P w I β hp B M w0) (hg:gF P A.aE w I) {a:Act} {sl:Nat→V} (hs:lj P w I β hp a sl) {ix nb:Nat} {o:Oper} {r:R} {rd:List Nat}
  (h:(fG P A sl ix nb o).run C hp=some (r,rd)):Av P A o a w I β hp B M w0 r:=by
 cases hc:Jm o.op with
 | false=>exact (ZR S hg hs hc h).step
 | true=>
  obtain ⟨dst,op,ty,pos,after,guard⟩:=o
  cases op<;>simp only[Jm] at hc<;>first|(cases hc;done)|skip
  case defer c=>
   obtain ⟨callee,args,argTypes⟩:=c
   cases callee with
   | invoke r m=>simp only[fG] at h;cases h
   | builtin b=>simp only[fG] at h;cases h
   | value f=>
   cases f with
   | tmp t=>
    simp only[fG] at h
    cases bQ:sl t<;>rw[bQ] at h<;>simp only at h<;>first|(cases h;done)|skip
    rename_i f xs ys
    obtain ⟨h1,U⟩:=aG h
    obtain rfl:=aO U
    have hv:=hs t
    rw[bQ] at hv
    generalize uq:a.tmps.getD t undef=vt at hv
    cases hv with
    | @fn _ fs cs _ _ q1 q2 q3 q4=>
     intro next Q hn
     unfold Oper.wp
     have e8:a.eval (.tmp t)= .func (.func f) fs cs:=uq
     have e1:(execOp a.eval ⟨dst,.defer ⟨.value (.tmp t),args,argTypes⟩,ty,pos,after,guard⟩).run P w= .ok (.defer {target:= .fn (.func f) cs,args:=fs++args.map a.eval}) w:=by
      simp[execOp,resolve,e8,Deferred.ofValue]
     rw[e1,Oper.upon_defer]
     exact hn undef w I β _ (Le.refl w I β hp) S .undef fun d hd=>by
      rcases dx.1 hd with rfl|hd
      ·exact .inr ⟨f,cs,rfl,h1⟩
      ·exact .inl hd
   | func f=>simp only[fG] at h;cases h
   | const _=>simp only[fG] at h;cases h
   | global _=>simp only[fG] at h;cases h
  rename_i c
  obtain ⟨callee,args,argTypes⟩:=c
  cases callee with
  | invoke r m=>cases hc
  | builtin b=>cases hc
  | value f=>
   cases f with
   | func f=>
    simp only[fG] at h
    cases AB:A.ext f with
    | some T0=>
     rw[AB] at h
     simp only at h
     exact aan hP S hg hs AB h
    | none=>
    rw[AB] at h
    simp only at h
    cases lp:A.oE f with
    | some e0=>
     rw[lp] at h
     simp only at h
     exact aam hP S hg hs lp h
    | none=>
    rw[lp] at h
    simp only at h
    obtain ⟨h1,U⟩:=aG h
    rw[aU] at h1
    obtain ⟨k1,k2⟩:=hs.args hg h1
    refine Qc hC hP S hg k1 k2 U ?_
    have e1:(args.map a.eval).toList.toArray=args.map a.eval:=Array.toArray_toList
    rw[e1]
    simp[execOp,resolve,Act.eval,Deferred.ofValue,invoke]
   | tmp t=>
    simp only[fG] at h
    cases bQ:sl t<;>rw[bQ] at h<;>simp only at h<;>first|(cases h;done)|skip
    rename_i f xs ys
    obtain ⟨h1,U⟩:=aG h
    rw[aU] at h1
    obtain ⟨k1,k2⟩:=hs.args hg h1
    have hv:=hs t
    rw[bQ] at hv
    generalize uq:a.tmps.getD t undef=vt at hv
    cases hv with
    | @fn _ fs cs _ _ q1 q2 q3 q4=>
     have l1:fs.toList.length=xs.length:=by simpa using q1
     have l3:cs.toList.length=ys.length:=by simpa using q3
     have r1: ∀(j:Nat) v x,fs.toList[j]? =some v→xs[j]? =some x→ao P w I β hp v x:=fun j v x hj hx=>q2 j v x (by simpa using hj) hx
     have r3: ∀(j:Nat) v x,cs.toList[j]? =some v→ys[j]? =some x→ao P w I β hp v x:=fun j v x hj hx=>q4 j v x (by simpa using hj) hx
     refine Qc hC hP S hg (vals:=fs.toList++(args.map a.eval).toList++cs.toList) (args:=xs++((args.toList.zip argTypes.toList).map fun p=>aP P A.aE p.2 sl p.1)++ys) (by simp only[bZ];omega) ?_ U ?_
     ·exact Qe (by simp only[bZ];omega) (Qe l1 r1 k2) r3
     ·have e1:(fs.toList++(args.map a.eval).toList++cs.toList).toArray=fs++args.map a.eval++cs:=by
       apply Array.toList_inj.1;simp
      rw[e1]
      have e8:a.eval (.tmp t)= .func (.func f) fs cs:=uq
      simp[execOp,resolve,e8,Deferred.ofValue,invoke]
   | _=>cases hc
end
section
variable {P:Program} {A:cJ} {w w':World} {I I' I2:Nat→Prop} {μ β β':Nat→Option Nat} {hp hp':Nat→Option an} {C:ag} {B:Nat} {M:Nat→Prop} {w0:Start}
structure jo (P:Program) (E:FuncId→Bool) (G:Nat→V) (w:World) (I:Nat→Prop) (β:Nat→Option Nat) (n:Nat) (a:Act) (st:St):Prop where
 sl:lj P w I β st.hp a st.sl
 size:a.tmps.size=n
 defers: ∀d∈a.defers,Au E d
 aE:gF P G w I
theorem JG {E:FuncId→Bool} {G:Nat→V} {n:Nat} {a:Act} {st:St} {o:Oper} {v:Value} {x:V} {hp':Nat→Option an} {ds:List Deferred} (h:jo P E G w I β n a st) (hle:Le P w I β st.hp w' I' β' hp') (hd:sn o n=true)
  (hv:ao P w' I' β' hp' v x) (lH: ∀d∈ds,d∈a.defers∨Au E d):jo P E G w' I' β' n ({a with defers:=ds}.put o.dst v) ⟨iC st.sl o.dst x,hp',st.nb⟩:=by
 have Qg: ∀d∈ds,Au E d:=fun d hd=>(lH d hd).elim (h.defers d) id
 cases aap:o.dst with
 | none=>exact ⟨fun k=>(h.sl k).mono hle,h.size,Qg,h.aE.mono hle.dm hle.cj⟩
 | some d=>
  have aN:d<a.tmps.size:=by
   unfold sn at hd
   rw[aap] at hd
   rw[h.size]
   simpa using hd
  refine ⟨fun k=> ?_,by simp[Act.put,h.size],Qg,h.aE.mono hle.dm hle.cj⟩
  simp only[Act.put,iC,aI]
  cases hb:Nat.beq k d with
  | true=>
   rw[aU] at hb
   subst hb
   simpa[aN] using hv
  | false=>
   have bD:d≠k:=fun e=>by rw[e,jO] at hb;cases hb
   have:=(h.sl k).mono hle
   simpa[Dc bD] using this
theorem Qh {E:FuncId→Bool} {G:Nat→V} {n:Nat} {a:Act} {st:St} {d:Nat} {b:Bool} (h:jo P E G w I β n a st) (hd:st.sl d= .bool b):a.tmps[d]? =some (.bool b):=by
 have:=h.sl d
 rw[hd] at this
 have:=this.kI
 cases ht:a.tmps[d]? with
 | none=>simp[ht] at this;cases this
 | some v=>simp[ht] at this;rw[this]
theorem aaq {x:V} {b:Bool} (h:lN x=some (some b)):x= .bool b:=by
 cases x with
 | bool c=>simp only[lN] at h;injection h with h;injection h with h;rw[h]
 | bm vs=>cases vs<;>simp[lN] at h
 | _=>simp[lN] at h
theorem aar {x:V} (h:lN x=some none):x= .bm []:=by
 cases x with
 | bm vs=>cases vs with
  | nil=>rfl
  | cons _ _=>simp[lN] at h
 | bool c=>simp[lN] at h
 | _=>simp[lN] at h
theorem ao.aas {v:Value} (h:ao P w I β hp v (.bm [])):v= .tuple #[]:=by
 cases h with
 | @bm cs _ hs _=>
  have:cs= #[]:=by
   apply Array.eq_empty_of_size_eq_zero
   simpa using hs
  rw[this]
theorem ao.Qi:ao P w I β hp Go.undef (.bm []):= .bm (by rfl) (fun j v x _ hx=>by simp at hx)
theorem Qj (hC:lr P A C) (hP:jn P A) {ops:Array Oper} {n i nb:Nat} {o:Oper} (ho:ops[i]? =some o) {a:Act} {st st':St} {R W:List Nat} (S:aF P w I β st.hp B M w0) (hA:jo P A.idle A.aE w I β n a st)
  (h:g9 P A C n ops i o nb st=some (st',R,W)) {K:Act→World→Prop} {Q:Exit→Act→World→Prop}
  (hK: ∀a' w' I' β',Le P w I β st.hp w' I' β' st'.hp→aF P w' I' β' st'.hp B M w0→jo P A.idle A.aE w' I' β' n a' st'→K a' w'):wpOp P ops Q i K a w:=by
 unfold g9 at h
 cases hd:sn o n with
 | false=>rw[hd] at h;cases h
 | true=>
  rw[hd] at h
  simp only[cond_true] at h
  have go: ∀{JH:St} {R W:List Nat},(((fG P A st.sl i (nb+64*i) o).run C st.hp).bind fun r=>some ((⟨iC st.sl o.dst r.1.v,bM st.hp r.1.upd,st.nb⟩:St),qD r.2 r.1.upd,fV st.hp r.1.upd))=some (JH,R,W)→JH=st'→
    o.wp P a w K Q:=by
   intro JH R W h e
   obtain ⟨⟨r,rd⟩,h1,U⟩:=bind_some h
   cases U
   subst e
   exact aao hC hP S hA.aE hA.sl h1 K Q fun v w' I' β' ds k1 k2 k3 k4=>hK _ w' I' β' k1 k2 (JG hA k1 hd k3 k4)
  unfold wpOp
  rw[ho]
  simp only
  cases hg:o.guard with
  | none=>
   rw[hg] at h
   simp only[Region.wanted,hg,cO]
   exact .inl (go h rfl)
  | some gw=>
   obtain ⟨g,want⟩:=gw
   rw[hg] at h
   simp only at h
   cases l9:(ops[g]?).bind (·.dst) with
   | none=>rw[l9] at h;cases h
   | some d=>
    rw[l9] at h
    simp only at h
    cases mR:lN (st.sl d) with
    | none=>rw[mR] at h;cases h
    | some ob=>
    rw[mR] at h
    cases ob with
    | none=>
     have pN:=aar mR
     have hy:yielded ops a.tmps g=none:=by
      unfold yielded
      rw[l9]
      have:=hA.sl d
      rw[pN] at this
      have hu:=ao.aas this
      simp only[Option.bind_some]
      cases ht:a.tmps[d]? with
      | none=>rfl
      | some v=>simp[ht] at hu;subst hu;rfl
     simp only[Region.wanted,hg,hy]
     injection h with h
     injection h with h3 h4
     subst h3
     have U:((none:Option Bool)==some want)=false:=rfl
     simp only[U,zi,fB]
     exact hK _ w I β (Le.refl w I β st.hp) S (JG (ds:=a.defers) hA (Le.refl w I β st.hp) hd ao.Qi fun d h=> .inl h)
    | some b=>
    simp only at h
    have pN:=aaq mR
    have hy:yielded ops a.tmps g=some b:=by
     unfold yielded
     rw[l9]
     simp only[Option.bind_some,Qh hA pN]
    simp only[Region.wanted,hg,hy]
    by_cases hb:b=want
    ·subst hb
     simp only[vO,cond_true] at h
     simp only[vO,cO]
     exact .inl (go h rfl)
    ·have h1:(b==want)=false:=by simp[hb]
     have U:(some b==some want)=false:=by simp[hb]
     rw[h1] at h
     simp only[cond_false] at h
     injection h with h
     injection h with h3 h4
     subst h3
     simp only[U,zi,fB]
     exact hK _ w I β (Le.refl w I β st.hp) S (JG (ds:=a.defers) hA (Le.refl w I β st.hp) hd ao.Qi fun d h=> .inl h)
def uA (hp hp':Nat→Option an) (c:Nat):Prop:=hp' c=hp c∧(KB≤c→gm (hp' (c-KB))=gm (hp (c-KB)))
theorem uA.symm {c:Nat} (h:uA hp hp' c):uA hp' hp c:=⟨h.1.symm,fun hc=>(h.2 hc).symm⟩
theorem sL {α:Type}: ∀{p:Rd α} {r:α} {rd:List Nat},p.run C hp=some (r,rd)→(∀id∈rd,uA hp hp' id)→p.run C hp'=some (r,rd)
 | .ret a,r,rd,h,_=>h
 | .fail,r,rd,h,_=>by cases h
 | .get id k,r,rd,h,he=>by
  obtain ⟨x,h1,U⟩:=bind_some h
  cases U
  have e1:hp' id=hp id:=(he id (by simp)).1
  have:=sL (p:=k (hp id)) (r:=x.1) (rd:=x.2) h1 (fun i hi=>he i (by simp[hi]))
  simp only[Rd.run,e1,this,Option.bind_some]
 | .live id ok k,r,rd,h,he=>by
  simp only[Rd.run] at h⊢
  cases hk:ok (gm (hp id)) with
  | false=>rw[hk] at h;cases h
  | true=>
   rw[hk] at h
   obtain ⟨x,h1,U⟩:=bind_some h
   cases U
   have e1:gm (hp' id)=gm (hp id):=by
    have:=(he (id+KB) (by simp)).2 (Nat.le_add_left _ _)
    rwa [vM] at this
   have:=sL (p:=k) (r:=x.1) (rd:=x.2) h1 (fun i hi=>he i (by simp[hi]))
   rw[e1,hk,this]
   rfl
 | .opt o k,r,rd,h,he=>by
  obtain ⟨x,h1,U⟩:=bind_some h
  simp only[Rd.run,h1,Option.bind_some]
  exact sL U he
 | .aC b k,r,rd,h,he=>by
  obtain ⟨h1,U⟩:=aG h
  simp only[Rd.run,h1,cond_true]
  exact sL U he
 | .call key ds k,r,rd,h,he=>by
  obtain ⟨x,h1,U⟩:=bind_some h
  simp only[Rd.run,h1,Option.bind_some]
  exact sL U he
 | .alt true x y,r,rd,h,he=>sL (p:=x) h he
 | .alt false x y,r,rd,h,he=>sL (p:=y) h he
theorem aat {G:Nat→V} {sl sl':Nat→V} {t:TypeId} {x:Operand} (h: ∀k,x= .tmp k→sl k=sl' k):aP P G t sl x=aP P G t sl' x:=by
 cases x with
 | tmp k=>exact h k rfl
 | _=>rfl
theorem aau {sl sl':Nat→V} {ix nb:Nat} {o:Oper} (h: ∀x∈o.op.operands,∀k,x= .tmp k→sl k=sl' k):fG P A sl ix nb o=fG P A sl' ix nb o:=by
 have e8: ∀t x,x∈o.op.operands→aP P A.aE t sl x=aP P A.aE t sl' x:=fun t x hx=>aat (h x hx)
 obtain ⟨dst,op,ty,pos,after,guard⟩:=o
 have Qk: ∀(t:TypeId) (ps:Array (Nat × Operand)),(∀x∈ps.map (·.2),aP P A.aE t sl x=aP P A.aE t sl' x)→
   (ps.toList.map fun p=>(p.1,aP P A.aE t sl p.2))=ps.toList.map fun p=>(p.1,aP P A.aE t sl' p.2):=fun t ps hp=>
  sb fun p hm=>by rw[hp p.2 (Array.mem_map.2 ⟨p,py.1 hm,rfl⟩)]
 have aav: ∀(t:TypeId) (ps:Array (Nat × Operand)),(∀x∈ps.map (·.2),aP P A.aE t sl x=aP P A.aE t sl' x)→
   (ps.toList.map fun p=>(aP P A.aE t sl p.2).cells)=ps.toList.map fun p=>(aP P A.aE t sl' p.2).cells:=fun t ps hp=>
  sb fun p hm=>by rw[hp p.2 (Array.mem_map.2 ⟨p,py.1 hm,rfl⟩)]
 cases op<;>simp only[Op.operands] at e8<;>simp only[fG]
 case pick c x y=>rw[e8 ty c (by simp),e8 ty x (by simp),e8 ty y (by simp)]
 case build t ps=>rw[Qk ty ps fun x hx=>e8 ty x (by simpa using hx),aav ty ps fun x hx=>e8 ty x (by simpa using hx)]
 case buildSlice t len ps=>
  split
  ·rename_i e _
   rw[Qk e ps fun x hx=>e8 e x (by simpa using hx)]
  ·rfl
 case slice t x lo hi mx=>
  cases mx with
  | some m=>
   have e1:lo.map (aP P A.aE 0 sl)=lo.map (aP P A.aE 0 sl'):=by
    cases lo with
    | none=>rfl
    | some l=>simp only[Option.map_some,e8 0 l (by simp)]
   have e2:hi.map (aP P A.aE 0 sl)=hi.map (aP P A.aE 0 sl'):=by
    cases hi with
    | none=>rfl
    | some l=>simp only[Option.map_some,e8 0 l (by simp)]
   have e3:=e8 0 m (by simp)
   simp only[e8 ty x (by simp),e1,e2,e3]
  | none=>
   have e1:lo.map (aP P A.aE 0 sl)=lo.map (aP P A.aE 0 sl'):=by
    cases lo with
    | none=>rfl
    | some l=>simp only[Option.map_some,e8 0 l (by simp)]
   have e2:hi.map (aP P A.aE 0 sl)=hi.map (aP P A.aE 0 sl'):=by
    cases hi with
    | none=>rfl
    | some l=>simp only[Option.map_some,e8 0 l (by simp)]
   simp only[e8 ty x (by simp),e1,e2]
 case call c=>
  obtain ⟨callee,args,argTypes⟩:=c
  have uB: ∀t x,x∈args→aP P A.aE t sl x=aP P A.aE t sl' x:=fun t x hx=>e8 t x (by simp[Call.operands,hx])
  have hl: ∀t (l:List Operand),(∀x∈l,x∈args)→l.map (aP P A.aE t sl)=l.map (aP P A.aE t sl'):=fun t l hl=>sb fun x hx=>uB t x (hl x hx)
  have hz:((args.toList.zip argTypes.toList).map fun p=>aP P A.aE p.2 sl p.1)=(args.toList.zip argTypes.toList).map fun p=>aP P A.aE p.2 sl' p.1:=
   sb fun p hp=>uB p.2 p.1 (py.1 (List.of_mem_zip hp).1)
  cases callee with
  | invoke r m=>rfl
  | builtin b=>
   have cm: ∀x∈args.toList,∀t,aP P A.aE t sl x=aP P A.aE t sl' x:=fun x hx t=>uB t x (py.1 hx)
   have JI: ∀t (l:List Operand),(∀x∈l,∀t,aP P A.aE t sl x=aP P A.aE t sl' x)→l.map (aP P A.aE t sl)=l.map (aP P A.aE t sl'):=fun t l h=>sb fun x hx=>h x hx t
   cases b<;>first|rfl|skip
   case append=>
    dsimp only
    generalize args.toList=al at cm
    match al,cm,argTypes.toList with
    | [s,x],cm,[t,u]=>simp only[cm s (by simp),cm x (by simp)]
    | [],_,_=>rfl
    | [_],_,_=>rfl
    | _::_::_::_,_,_=>rfl
    | [_,_],_,[]=>rfl
    | [_,_],_,[_]=>rfl
    | [_,_],_,_::_::_::_=>rfl
   case copy=>
    dsimp only
    generalize args.toList=al at cm
    match al,cm,argTypes.toList with
    | [s,x],cm,[t,u]=>simp only[cm s (by simp),cm x (by simp)]
    | [],_,_=>rfl
    | [_],_,_=>rfl
    | _::_::_::_,_,_=>rfl
    | [_,_],_,[]=>rfl
    | [_,_],_,[_]=>rfl
    | [_,_],_,_::_::_::_=>rfl
   case len=>
    dsimp only
    generalize args.toList=al at cm
    match al,cm,argTypes.toList with
    | [x],cm,[t]=>simp only[cm x (by simp)]
    | [],_,_=>rfl
    | _::_::_,_,_=>rfl
    | [_],_,[]=>rfl
    | [_],_,_::_::_=>rfl
   case clear=>
    dsimp only
    generalize args.toList=al at cm
    match al,cm,argTypes.toList with
    | [x],cm,[t]=>simp only[cm x (by simp)]
    | [],_,_=>rfl
    | _::_::_,_,_=>rfl
    | [_],_,[]=>rfl
    | [_],_,_::_::_=>rfl
   case unsafeSliceData=>
    dsimp only
    generalize args.toList=al at cm
    match al,cm with
    | [],_=>rfl
    | [x],cm=>simp only[cm x (by simp)]
    | _::_::_,_=>rfl
   case unsafeString=>
    dsimp only
    generalize args.toList=al at cm
    match al,cm,argTypes.toList with
    | [s,x],cm,[t,u]=>simp only[cm s (by simp),cm x (by simp)]
    | [],_,_=>rfl
    | [_],_,_=>rfl
    | _::_::_::_,_,_=>rfl
    | [_,_],_,[]=>rfl
    | [_,_],_,[_]=>rfl
    | [_,_],_,_::_::_::_=>rfl
   case max=>
    dsimp only
    generalize args.toList=al at cm
    match al,cm with
    | [],_=>rfl
    | x::l,cm=>simp only[cm x (by simp),JI ty l (fun y hy=>cm y (by simp[hy]))]
   case min=>
    dsimp only
    generalize args.toList=al at cm
    match al,cm with
    | [],_=>rfl
    | x::l,cm=>simp only[cm x (by simp),JI ty l (fun y hy=>cm y (by simp[hy]))]
  | value f=>
   cases f<;>first|rfl|skip
   ·rename_i t
    have ht:sl t=sl' t:=h (.tmp t) (by simp[Op.operands,Call.operands]) t rfl
    simp only[hz,ht]
   ·simp only[hz]
    cases hx:args.toList with
    | nil=>rfl
    | cons x l=>
     cases l with
     | cons _ _=>rfl
     | nil=>simp only[uB ty x (py.1 (by rw[hx];simp))]
 case defer c=>
  obtain ⟨callee,args,argTypes⟩:=c
  cases callee with
  | invoke r m=>rfl
  | builtin b=>rfl
  | value f=>
   cases f<;>first|rfl|skip
   rename_i t
   have ht:sl t=sl' t:=h (.tmp t) (by simp[Op.operands,Call.operands]) t rfl
   simp only[ht]
 case makeFunc fn a b=>
  cases fn<;>first|rfl|skip
  have e1:a.toList.map (aP P A.aE ty sl)=a.toList.map (aP P A.aE ty sl'):=sb fun x hx=>e8 ty x (by simp[py.1 hx])
  have e2:b.toList.map (aP P A.aE ty sl)=b.toList.map (aP P A.aE ty sl'):=sb fun x hx=>e8 ty x (by simp[py.1 hx])
  dsimp only
  rw[e1,e2]
 case makeMap t r=>cases r<;>rfl
 all_goals first
  | rfl
  | (simp[e8];done)
end
section
variable {P:Program} {A:cJ} {w w':World} {I I' I2:Nat→Prop} {μ β β':Nat→Option Nat} {hp hp':Nat→Option an} {C:ag} {B:Nat} {M:Nat→Prop} {w0:Start}
theorem JJ {q:Nat × an} {upd:List (Nat × an)} (h:q∈upd):q.1∈fV hp upd:=by
 unfold fV
 rw[List.mem_flatMap]
 refine ⟨q,h,?_⟩
 cases Nat.beq (gm (hp q.1)) (gm (some q.2))<;>simp
theorem aaw {upd:List (Nat × an)} (h: ∀q∈upd,gm (hp' q.1)=gm (hp q.1)):fV hp' upd=fV hp upd:=by
 unfold fV
 induction upd with
 | nil=>rfl
 | cons q l ih=>
  rw[lL,lL,ih fun x hx=>h x (lK _ hx),h q (by simp)]
theorem Ql {c:Nat}: ∀{upd:List (Nat × an)},c∉fV hp upd→uA hp (bM hp upd) c:=fun {upd} h=>by
 refine ⟨wV fun q hq e=>h (e▸JJ hq),fun hc=> ?_⟩
 induction upd with
 | nil=>rfl
 | cons q l ih=>
  have hl:c∉fV hp l:=fun hx=>h (by unfold fV at*;rw[lL];exact List.mem_append_right _ hx)
  have hq:gm (hp q.1)=gm (some q.2)∨c≠q.1+KB:=by
   cases hb:Nat.beq (gm (hp q.1)) (gm (some q.2)) with
   | true=>exact .inl (za hb)
   | false=>
    refine .inr fun e=>h ?_
    unfold fV
    rw[lL,hb,e]
    simp
  show gm (aI (bM hp l) q.1 (some q.2) (c-KB))=_
  simp only[aI]
  cases hb:Nat.beq (c-KB) q.1 with
  | false=>exact ih hl
  | true=>
   have e:=za hb
   rcases hq with hq|hq
   ·rw[cond_true,e];exact hq.symm
   ·exact absurd (by omega) hq
theorem Qm {n i nb:Nat} {ops:Array Oper} {o:Oper} {st st':St} {R W:List Nat} (h:g9 P A C n ops i o nb st=some (st',R,W)):
  ∃x upd,st'=⟨iC st.sl o.dst x,bM st.hp upd,st.nb⟩∧W=fV st.hp upd∧∀ed:St,(∀d∈o.looksAt ops,ed.sl d=st.sl d)→(∀id∈R,uA st.hp ed.hp id)→
   g9 P A C n ops i o nb ed=some (⟨iC ed.sl o.dst x,bM ed.hp upd,ed.nb⟩,R,W)∧W=fV ed.hp upd:=by
 unfold g9 at h
 cases hd:sn o n with
 | false=>rw[hd] at h;cases h
 | true=>
  rw[hd] at h
  simp only[cond_true] at h
  have go:(((fG P A st.sl i (nb+64*i) o).run C st.hp).bind fun r=>some ((⟨iC st.sl o.dst r.1.v,bM st.hp r.1.upd,st.nb⟩:St),qD r.2 r.1.upd,fV st.hp r.1.upd))=some (st',R,W)→
    ∃x upd,st'=⟨iC st.sl o.dst x,bM st.hp upd,st.nb⟩∧W=fV st.hp upd∧∀ed:St,(∀d∈o.looksAt ops,ed.sl d=st.sl d)→(∀id∈R,uA st.hp ed.hp id)→
     (((fG P A ed.sl i (nb+64*i) o).run C ed.hp).bind fun r=>some ((⟨iC ed.sl o.dst r.1.v,bM ed.hp r.1.upd,ed.nb⟩:St),qD r.2 r.1.upd,fV ed.hp r.1.upd))=some (⟨iC ed.sl o.dst x,bM ed.hp upd,ed.nb⟩,R,W)∧W=fV ed.hp upd:=by
   intro h
   obtain ⟨⟨r,rd⟩,h1,U⟩:=bind_some h
   cases U
   refine ⟨r.v,r.upd,rfl,rfl,fun ed hs hh=> ?_⟩
   have hw:fV ed.hp r.upd=fV st.hp r.upd:=aaw fun q hq=>by
    have:=(hh (q.1+KB) (List.mem_append_right _ (gH.2 ⟨q,hq,rfl⟩))).2 (Nat.le_add_left _ _)
    rwa [vM] at this
   rw[aau (sl':=st.sl) fun x hx k hk=> ?_,sL h1 fun c hc=>hh c (List.mem_append_left _ hc)]
   ·refine ⟨?_,hw.symm⟩
    rw[Option.bind_some,hw]
   ·subst hk
    exact hs k (List.mem_append_left _ (List.mem_filterMap.2 ⟨.tmp k,by simpa using hx,rfl⟩))
  cases hg:o.guard with
  | none=>
   rw[hg] at h
   obtain ⟨x,upd,e1,e2,e3⟩:=go h
   refine ⟨x,upd,e1,e2,fun ed hs hh=> ?_⟩
   unfold g9
   simp only[hd,cond_true,hg]
   exact e3 ed hs hh
  | some gw=>
   obtain ⟨g,want⟩:=gw
   rw[hg] at h
   simp only at h
   cases l9:(ops[g]?).bind (·.dst) with
   | none=>rw[l9] at h;cases h
   | some d=>
    rw[l9] at h
    simp only at h
    have JK:d∈o.looksAt ops:=List.mem_append_right _ (by rw[hg];simp[l9])
    cases mR:lN (st.sl d) with
    | none=>rw[mR] at h;cases h
    | some ob=>
    rw[mR] at h
    cases ob with
    | none=>
     injection h with h
     injection h with h3 h4
     injection h4 with h5 h6
     subst h5;subst h6
     refine ⟨.bm [],[],h3.symm,rfl,fun ed hs hh=> ?_⟩
     unfold g9
     simp only[hd,cond_true,hg,l9,hs d JK,mR]
     exact ⟨rfl,rfl⟩
    | some b=>
    simp only at h
    cases hb:b==want with
    | true=>
     rw[hb] at h
     obtain ⟨x,upd,e1,e2,e3⟩:=go h
     refine ⟨x,upd,e1,e2,fun ed hs hh=> ?_⟩
     unfold g9
     simp only[hd,cond_true,hg,l9,hs d JK,mR,hb]
     exact e3 ed hs hh
    | false=>
     rw[hb] at h
     simp only[cond_false] at h
     injection h with h
     injection h with h3 h4
     injection h4 with h5 h6
     subst h5;subst h6
     refine ⟨.bm [],[],h3.symm,rfl,fun ed hs hh=> ?_⟩
     unfold g9
     simp only[hd,cond_true,hg,l9,hs d JK,mR,hb,cond_false]
     exact ⟨rfl,rfl⟩
theorem Qn {sl:Nat→V} {d:Option Nat} {x:V} {k:Nat} (h:d≠some k):iC sl d x k=sl k:=by
 cases d with
 | none=>rfl
 | some d=>exact eo _ _ fun e=>h (by rw[e])
theorem aax {hp:Nat→Option an} {a b:List (Nat × an)} (h: ∀q∈a,∀q'∈b,q.1≠q'.1):bM (bM hp a) b=bM (bM hp b) a:=by
 funext id
 by_cases ha: ∃q∈a,q.1=id
 ·have hb: ∀q∈b,q.1≠id:=by
   obtain ⟨q,hq,rfl⟩:=ha
   exact fun q' Ay e=>h q hq q' Ay e.symm
  rw[wV hb]
  obtain ⟨q,hq,rfl⟩:=ha
  have same: ∀(bq gr:Nat→Option an) (l:List (Nat × an)) (q:Nat × an),q∈l→bM bq l q.1=bM gr l q.1:=by
   intro bq gr l
   induction l with
   | nil=>intro q hq;simp at hq
   | cons p l ih=>
    intro q hq
    simp only[bM,aI]
    cases hb:Nat.beq q.1 p.1 with
    | true=>rfl
    | false=>
     simp only[cond_false]
     refine ih q ((dx.1 hq).resolve_left fun e=> ?_)
     rw[e,jO] at hb;cases hb
  exact same _ _ a q hq
 ·rw[wV (hp:=bM hp b) (l:=a) fun q hq e=>ha ⟨q,hq,e⟩]
  have same: ∀(bq gr:Nat→Option an) (l:List (Nat × an)),bq id=gr id→bM bq l id=bM gr l id:=by
   intro bq gr l he
   induction l with
   | nil=>exact he
   | cons p l ih=>
    simp only[bM,aI]
    cases hb:Nat.beq id p.1 with
    | true=>rfl
    | false=>exact ih
  exact same _ _ b (wV fun q hq e=>ha ⟨q,hq,e⟩)
structure Qo (ops:Array Oper) (o1 o2:Oper) (R1 W1 R2 W2:List Nat):Prop where
 apart:Oper.apart ops o1 o2=true
 w: ∀id∈W1,id∉R2∧id∉W2
 r: ∀id∈R1,id∉W2
theorem aay {n i j nb:Nat} {ops:Array Oper} {o1 o2:Oper} {st jq ed:St} {R1 W1 R2 W2:List Nat} (h1:g9 P A C n ops i o1 nb st=some (jq,R1,W1)) (U:g9 P A C n ops j o2 nb jq=some (ed,R2,W2))
  (hi:Qo ops o1 o2 R1 W1 R2 W2): ∃EN,g9 P A C n ops j o2 nb st=some (EN,R2,W2)∧g9 P A C n ops i o1 nb EN=some (ed,R1,W1):=by
 obtain ⟨x1,u1,e1,f1,g1⟩:=Qm h1
 obtain ⟨x2,u2,e2,f2,g2⟩:=Qm U
 obtain ⟨a1,a2,a3⟩:=Oper.apart_spec hi.apart
 subst e1
 have k2:=g2 st (fun d hd=>by simp only;rw[Qn fun e=>a1 d e hd]) fun c hc=>(Ql fun hw=>(hi.w c (by rw[f1];exact hw)).1 hc).symm
 refine ⟨_,k2.1,?_⟩
 rw[(g1 _ (fun d hd=> ?_) (fun c hd=> ?_)).1,e2]
 ·congr 3
  ·funext k
   cases EO:o1.dst with
   | none=>rfl
   | some d1=>
    cases jf:o2.dst with
    | none=>rfl
    | some d2=>
     have bD:d2≠d1:=fun e=>a2 d1 EO (by rw[jf,e])
     simp only[iC,aI]
     cases Qp:Nat.beq k d1<;>cases mS:Nat.beq k d2<;>simp only[cond_true,cond_false]
     rw[aU] at Qp mS
     exact absurd (mS.symm.trans Qp) bD
  ·exact (aax fun q hq q' Ay e=>(hi.w q.1 (by rw[f1];exact JJ hq)).2 (by rw[f2,e];exact JJ Ay)).symm
 ·simp only
  rw[Qn fun e=>a3 d e hd]
 ·exact Ql fun hw=>hi.r c hd (by rw[k2.2];exact hw)
def wY (P:Program) (A:cJ) (C:ag) (n:Nat) (ops:Array Oper) (nb:Nat):List (Nat × Oper × List Nat × List Nat)→St→St→Prop
 | [],st,st'=>st=st'
 | (i,o,R,W)::l,st,st'=> ∃jq,g9 P A C n ops i o nb st=some (jq,R,W)∧wY P A C n ops nb l jq st'
def uC (x:Nat × Oper × List Nat × List Nat):Nat × List Nat × List Nat:=(x.1,x.2.2.1,x.2.2.2)
theorem Qq {n nb:Nat} {ops:Array Oper}: ∀{l:List (Nat × Oper)} {st st':St} {log EP:Log},pH P A C n ops nb l st log=some (st',EP)→
  ∃g,g.map (fun x=>(x.1,x.2.1))=l∧EP=log++g.map uC∧wY P A C n ops nb g st st'
 | [],st,st',log,EP,h=>by
  cases h
  exact ⟨[],rfl,by simp,rfl⟩
 | (i,o)::l,st,st',log,EP,h=>by
  obtain ⟨⟨jq,R,W⟩,h1,U⟩:=bind_some h
  obtain ⟨g,a,b,c⟩:=Qq U
  exact ⟨(i,o,R,W)::g,by simp[a],by simp[b,uC],jq,h1,c⟩
def Qr (ops:Array Oper) (x y:Nat × Oper × List Nat × List Nat):Prop:=Qo ops x.2.1 y.2.1 x.2.2.1 x.2.2.2 y.2.2.1 y.2.2.2
theorem Qs {n nb:Nat} {ops:Array Oper} {y:Nat × Oper × List Nat × List Nat} {g2:List (Nat × Oper × List Nat × List Nat)}: ∀{g1:List (Nat × Oper × List Nat × List Nat)} {st st':St},
  wY P A C n ops nb (g1++y::g2) st st'→(∀x∈g1,Qr ops x y)→∃jq,g9 P A C n ops y.1 y.2.1 nb st=some (jq,y.2.2.1,y.2.2.2)∧wY P A C n ops nb (g1++g2) jq st'
 | [],st,st',h,_=>h
 | x::g1,st,st',h,hi=>by
  obtain ⟨jq,h1,U⟩:=h
  obtain ⟨ed,h3,h4⟩:=Qs U fun z hz=>hi z (lK _ hz)
  obtain ⟨EN,h5,h6⟩:=aay h1 h3 (hi x (by simp))
  exact ⟨EN,h5,ed,h6,h4⟩
theorem Qt (hC:lr P A C) (hP:jn P A) {n nb:Nat} {ops:Array Oper} {Q:Exit→Act→World→Prop}: ∀{g:List (Nat × Oper × List Nat × List Nat)} {st st':St} {a:Act} {w:World} {I:Nat→Prop} {β:Nat→Option Nat},
  wY P A C n ops nb g st st'→(∀x∈g,ops[x.1]? =some x.2.1)→aF P w I β st.hp B M w0→jo P A.idle A.aE w I β n a st→
  (∀a' w' I' β',Le P w I β st.hp w' I' β' st'.hp→aF P w' I' β' st'.hp B M w0→jo P A.idle A.aE w' I' β' n a' st'→Q .normal a' w')→wpOps P ops Q (g.map (·.1)) a w
 | [],st,st',a,w,I,β,h,_,S,hA,hQ=>by
  cases h
  exact hQ a w I β (Le.refl w I β _) S hA
 | x::g,st,st',a,w,I,β,h,ho,S,hA,hQ=>by
  obtain ⟨jq,h1,U⟩:=h
  rw[cy,wpOps_cons]
  refine Qj hC hP (ho x (by simp)) S hA h1 fun a' w' I' β' k1 k2 k3=> ?_
  exact Qt hC hP U (fun y hy=>ho y (lK _ hy)) k2 k3 fun a2 w2 I2 cb m1 m2 m3=>hQ a2 w2 I2 cb (k1.trans m1) m2 m3
end
section
variable {P:Program} {A:cJ} {w w':World} {I I' I2:Nat→Prop} {μ β β':Nat→Option Nat} {hp hp':Nat→Option an} {C:ag} {B:Nat} {M:Nat→Prop} {w0:Start}
inductive uD (ops:Array Oper):Nat→Nat→Prop
 | Qu {i x:Nat} {o:Oper} {e:Edge}:ops[i]? =some o→e∈o.after→Region.binds .any e=true→e.on=x→uD ops i x
 | trans {i x:Nat} {o:Oper} {e:Edge}:ops[i]? =some o→e∈o.after→Region.binds .any e=true→uD ops e.on x→uD ops i x
theorem Qv {acc:Array Nat} {x:Nat}: ∀{l:List Edge} {s:Nat},(l.foldl (fun s e=>if Region.binds .any e then s|||2^e.on|||acc.getD e.on 0 else s) s).testBit x=true→
  s.testBit x=true∨∃e∈l,Region.binds .any e=true∧(e.on=x∨(acc.getD e.on 0).testBit x=true)
 | [],s,h=> .inl h
 | e::l,s,h=>by
  simp only[List.foldl_cons] at h
  rcases Qv h with h1|⟨e',a,b⟩
  ·by_cases hb:Region.binds .any e=true
   ·rw[aj hb,Nat.testBit_or,Nat.testBit_or,Bool.or_eq_true,Bool.or_eq_true] at h1
    rcases h1 with (h1|h1)|h1
    ·exact .inl h1
    ·rw[Nat.testBit_two_pow] at h1
     exact .inr ⟨e,by simp,hb,.inl (by simpa using h1)⟩
    ·exact .inr ⟨e,by simp,hb,.inr h1⟩
   ·rw[ai hb] at h1
    exact .inl h1
  ·exact .inr ⟨e',lK _ a,b⟩
theorem Qw {ops:Array Oper} {x:Nat}: ∀{l:List Oper} {acc:Array Nat},(∀j o,l[j]? =some o→ops[acc.size+j]? =some o)→(∀j,(acc.getD j 0).testBit x=true→uD ops j x)→
  ∀j,((l.foldl (fun acc o=>acc.push (o.after.foldl (fun s e=>if Region.binds .any e then s|||2^e.on|||acc.getD e.on 0 else s) 0)) acc).getD j 0).testBit x=true→uD ops j x
 | [],acc,_,ER,j,h=>ER j h
 | o::l,acc,hl,ER,j,h=>by
  simp only[List.foldl_cons] at h
  refine Qw (l:=l) ?_ ?_ j h
  ·intro j o' hj
   have:=hl (j+1) o' (by simpa using hj)
   rw[Array.size_push]
   rwa [show acc.size+1+j=acc.size+(j+1) by omega]
  ·intro k hk
   simp only[vN,Array.getElem?_push] at hk
   by_cases aY:k=acc.size
   ·rw[aj aY] at hk
    simp only[Option.getD_some] at hk
    rw[←Dd] at hk
    have ho:=hl 0 o rfl
    rw[Nat.add_zero] at ho
    rw[aY]
    have mS:(o.after.toList.foldl (fun s e=>if Region.binds .any e then s|||2^e.on|||acc.getD e.on 0 else s) 0).testBit x=true:=by simpa[vN] using hk
    rcases Qv mS with h0|⟨e,he,hb,h1⟩
    ·simp at h0
    ·rcases h1 with h1|h1
     ·exact .Qu ho (py.1 he) hb h1
     ·exact .trans ho (py.1 he) hb (ER _ h1)
   ·rw[ai aY] at hk
    exact ER k (by simpa[vN] using hk)
theorem aaz {ops:Array Oper} {i x:Nat} (h:((Region.before ops).getD i 0).testBit x=true):uD ops i x:=by
 unfold Region.before at h
 rw[←Dd] at h
 refine Qw (l:=ops.toList) (acc:= #[]) (fun j o hj=>by simpa using hj) (fun j hj=>by simp at hj) i h
def Qx (ops:Array Oper) (fZ:Array Bool):Prop:= ∀i o,ops[i]? =some o→fZ.getD i false=true→∀e∈o.after,Region.binds .any e=true→fZ.getD e.on false=true
theorem aaA {ops:Array Oper} {fZ:Array Bool} (hc:Qx ops fZ) {i x:Nat} (h:uD ops i x) (hi: ∀o,ops[i]? =some o→∀e∈o.after,Region.binds .any e=true→fZ.getD e.on false=true):fZ.getD x false=true:=by
 induction h with
 | Qu ho he hb hx=>rw[←hx];exact hi _ ho _ he hb
 | trans ho he hb _ ih=>exact ih fun o' jF e' hY aB=>hc _ o' jF (hi _ ho _ he hb) e' hY aB
theorem Qy: ∀{l:List Oper} {k j:Nat} {o:Oper},zH k l=true→l[j]? =some o→∀e∈o.after,Region.binds .any e=true→e.on<k+j
 | [],k,j,o,_,h=>by simp at h
 | o'::l,k,j,o,hk,h=>by
  simp only[zH,aM] at hk
  cases j with
  | zero=>
   simp at h
   subst h
   intro e he hb
   have:=fC.1 hk.1 e (py.2 he)
   simp[hb] at this
   omega
  | succ j=>
   intro e he hb
   have:=Qy hk.2 (j:=j) (by simpa using h) e he hb
   omega
theorem Qz {ops:Array Oper} {tO:Array Nat}: ∀{l:Log},DK ops tO l=true→l.Pairwise fun x y=>zG ops tO x y=true
 | [],_=> .nil
 | x::l,h=>by
  simp only[DK,aM] at h
  exact .cons (fun y hy=>fC.1 h.1 y hy) (Qz h.2)
theorem QA {fZ:Array Bool} {i:Nat} (h:fZ.getD i true=false):i<fZ.size∧fZ.getD i false=false:=by
 rcases pt i fZ.size with h'|h'
 ·refine ⟨h',?_⟩
  simpa[h'] using h
 ·simp[Array.getElem?_eq_none h'] at h
theorem QB (hC:lr P A C) (hP:jn P A) {n nb:Nat} {ops:Array Oper} {Q:Exit→Act→World→Prop} (ES:zH 0 ops.toList=true):
  ∀(fuel:Nat) {g:List (Nat × Oper × List Nat × List Nat)} {fZ:Array Bool} {st st':St} {a:Act} {w:World} {I:Nat→Prop} {β:Nat→Option Nat},
  g.length=fuel→wY P A C n ops nb g st st'→(∀x∈g,ops[x.1]? =some x.2.1)→(g.map (·.1)).Pairwise (· < ·)→(g.map uC).Pairwise (fun x y=>zG ops (Region.before ops) x y=true)→
  fZ.size=ops.size→(∀i,i<ops.size→(fZ.getD i false=false↔i∈g.map (·.1)))→Qx ops fZ→
  aF P w I β st.hp B M w0→jo P A.idle A.aE w I β n a st→
  (∀a' w' I' β',Le P w I β st.hp w' I' β' st'.hp→aF P w' I' β' st'.hp B M w0→jo P A.idle A.aE w' I' β' n a' st'→Q .normal a' w')→wpAny P .any ops Q fuel fZ a w
 | 0,g,fZ,st,st',a,w,I,β,hf,hr,ho,aN,ET,ba,uE,lp,S,hA,hQ=>by
  obtain rfl:g=[]:=lJ hf
  cases hr
  refine ⟨?_,hQ a w I β (Le.refl w I β _) S hA⟩
  rw[List.eq_nil_iff_forall_not_mem]
  intro i hi
  obtain ⟨h0,_⟩:=mem_ready.1 hi
  obtain ⟨h1,U⟩:=QA h0
  have:=(uE i (by omega)).1 U
  simp at this
 | fuel+1,g,fZ,st,st',a,w,I,β,hf,hr,ho,aN,ET,ba,uE,lp,S,hA,hQ=>by
  refine ⟨fun AA=> ?_,fun i hi=> ?_⟩
  ·exfalso
   cases g with
   | nil=>simp at hf
   | cons x g=>
    have hx:=ho x (by simp)
    have gN:x.1<ops.size:=(iz.1 hx).1
    have lX:x.1∈Region.ready .any ops fZ:=by
     rw[mem_ready]
     have h0:=(uE x.1 gN).2 (by simp)
     refine ⟨?_,x.2.1,hx,fun e he hb=> ?_⟩
     ·have hl:x.1<fZ.size:=by omega
      simpa[hl] using h0
     ·have I4:=Qy ES (j:=x.1) (by simpa using hx) e he hb
      rw[gY] at I4
      cases hle:fZ.getD e.on false with
      | true=>rfl
      | false=>
       have hm:=(uE e.on (by omega)).1 hle
       simp only[cy,dx] at hm
       rw[cy,tC] at aN
       rcases hm with hm|hm
       ·omega
       ·have:=aN.1 _ hm;omega
    rw[AA] at lX
    cases lX
  ·obtain ⟨h0,oi,AD,QC⟩:=mem_ready.1 hi
   obtain ⟨h1,U⟩:=QA h0
   have hig:=(uE i (by omega)).1 U
   obtain ⟨y,hy,hyi⟩:=gH.1 hig
   obtain ⟨g1,g2,rfl⟩:=List.append_of_mem hy
   subst hyi
   have QD:=ho y hy
   rw[AD] at QD
   have QE:oi=y.2.1:=dh QD
   have jm:((g1++y::g2).map (·.1)).Nodup:=aN.imp fun h=>Nat.ne_of_lt h
   have aaB: ∀x∈g1,Qr ops x y:=by
    intro x hx
    have hp:zG ops (Region.before ops) (uC x) (uC y)=true:=by
     rw[eh,cy,List.pairwise_append] at ET
     exact ET.2.2 _ (gH.2 ⟨x,hx,rfl⟩) _ (by simp)
    have JL:=ho x (eQ.2 (.inl hx))
    unfold zG at hp
    rw[Bool.or_eq_true] at hp
    rcases hp with hp|hp
    ·have hl:=aaA lp (aaz hp) fun o jF e he hb=>by
      have:o=oi:=by
       have h3:ops[y.1]? =some o:=jF
       rw[AD] at h3
       exact (dh h3).symm
      subst this
      exact QC e he hb
     have gN:x.1<ops.size:=(iz.1 JL).1
     have:=(uE x.1 gN).2 (gH.2 ⟨x,eQ.2 (.inl hx),rfl⟩)
     rw[show (uC x).1=x.1 from rfl,this] at hl
     cases hl
    ·simp only[uC,vN,JL,AD,Option.getD_some,aM,nn] at hp
     obtain ⟨q1,q2,q3⟩:=hp
     refine ⟨QE▸q1,fun id ab=> ?_,fun id ab=>EG q3 ab⟩
     have:=EG q2 ab
     rw[eQ] at this
     exact ⟨fun h=>this (.inl h),fun h=>this (.inr h)⟩
   obtain ⟨jq,jd,nP⟩:=Qs hr aaB
   rw[←QE] at jd
   refine Qj hC hP AD S hA jd fun a' w' I' β' k1 k2 k3=> ?_
   have kJ:List.Sublist (g1++g2) (g1++y::g2):=List.Sublist.append_left (List.sublist_cons_self y g2) g1
   have tQ: ∀j,j≠y.1→(fZ.setIfInBounds y.1 true).getD j false=fZ.getD j false:=fun j hj=>getD_set_ne false (Ne.symm hj)
   refine QB hC hP ES fuel (g:=g1++g2) (st':=st') ?_ nP (fun x hx=>ho x (kJ.subset hx)) (aN.sublist (kJ.map _)) (ET.sublist (kJ.map _)) (by simp[ba]) (fun j hj=> ?_) (fun j o JM cl e he hb=> ?_) k2 k3 fun a2 w2 I2 cb m1 m2 m3=>hQ a2 w2 I2 cb (k1.trans m1) m2 m3
   ·simp at hf⊢;omega
   ·by_cases pP:j=y.1
    ·subst pP
     have hl:y.1<fZ.size:=by omega
     simp only[vN,HS hl,Option.getD_some]
     refine ⟨fun h=>(by cases h),fun h=> ?_⟩
     exfalso
     rw[eh,cy,vP,List.nodup_cons] at jm
     rw[eh,eQ] at h
     rcases h with h|h
     ·exact jm.2.2 _ h _ (by simp) rfl
     ·exact jm.2.1.1 h
    ·rw[tQ j pP,uE j hj]
     simp only[eh,cy,eQ,dx]
     constructor
     ·rintro (h|h|h)
      ·exact .inl h
      ·exact absurd h pP
      ·exact .inr h
     ·rintro (h|h)
      ·exact .inl h
      ·exact .inr (.inr h)
   ·by_cases pP:j=y.1
    ·subst pP
     rw[AD] at JM
     cases JM
     exact getD_set_true (QC e he hb)
    ·rw[tQ j pP] at cl
     exact getD_set_true (lp j o JM cl e he hb)
end
section
variable {P:Program} {A:cJ} {w w':World} {I I' I2:Nat→Prop} {μ β β':Nat→Option Nat} {hp hp':Nat→Option an} {C:ag} {B:Nat} {M:Nat→Prop} {w0:Start}
theorem QF: ∀{l:List Oper} {k j:Nat},(oI k l)[j]? =(l[j]?).map fun o=>(k+j,o)
 | [],k,j=>by simp[oI]
 | o::l,k,0=>by simp[oI]
 | o::l,k,j+1=>by
  simp only[oI,List.getElem?_cons_succ,QF]
  congr 1
  funext o
  rw[show k+1+j=k+(j+1) by omega]
theorem QG: ∀{l:List Oper} {k:Nat},(oI k l).map (·.1)=List.range' k l.length
 | [],k=>rfl
 | o::l,k=>by simp[oI,QG,List.range'_succ]
theorem aaC (hC:lr P A C) (hP:jn P A) (hm:P.follows .mixedOrders=true) {n id:Nat} {ops:Array Oper} {draw:Bool} {st st':St} {a:Act} {Q:Exit→Act→World→Prop}
  (h:zJ P A C n ops draw st=some st') (S:aF P w I β st.hp B M w0) (hA:jo P A.idle A.aE w I β n a st)
  (hQ: ∀a' w' I' β',Le P w I β st.hp w' I' β' st'.hp→aF P w' I' β' st'.hp B M w0→jo P A.idle A.aE w' I' β' n a' st'→Q .normal a' w'):(Code.region id ops draw).wp P Q a w:=by
 obtain ⟨⟨jq,log⟩,h1,U⟩:=bind_some h
 obtain ⟨g,g1,g2,g3⟩:=Qq h1
 have EU:g.map (·.1)=List.range ops.size:=by
  have:g.map (·.1)=(g.map fun x=>(x.1,x.2.1)).map (·.1):=by simp
  rw[this,g1,QG,List.range_eq_range']
  simp
 have QH: ∀x∈g,ops[x.1]? =some x.2.1:=by
  intro x hx
  have:(x.1,x.2.1)∈oI 0 ops.toList:=by rw[←g1];exact gH.2 ⟨x,hx,rfl⟩
  obtain ⟨j,hj⟩:=List.mem_iff_getElem?.1 this
  rw[QF] at hj
  cases ho:ops.toList[j]? with
  | none=>rw[ho] at hj;cases hj
  | some o=>
   rw[ho] at hj
   simp only[Option.map_some,gY,dY,ky] at hj
   rw[←hj.1,←hj.2]
   simpa using ho
 cases draw with
 | false=>
  simp only[tD,Bool.true_or,cond_true] at U
  cases U
  refine wp_region ?_
  rw[←EU]
  exact Qt hC hP g3 QH S hA hQ
 | true=>
  simp only[qq,Bool.false_or] at U
  cases hc:(Region.noSelect ops&&zI ops log) with
  | false=>rw[hc] at U;cases U
  | true=>
   rw[hc] at U
   cases U
   simp only[aM,zI] at hc
   obtain ⟨hns,ES,aaD⟩:=hc
   simp only[List.nil_append] at g2
   refine wp_region_any hm ?_
   have hlen:g.length=ops.size:=by
    have:=congrArg List.length EU
    simpa using this
   refine QB hC hP ES ops.size (g:=g) (st':=st') hlen g3 QH (by rw[EU];exact List.pairwise_lt_range) (by rw[←g2];exact Qz aaD) (by simp) (fun i hi=> ?_) (fun i o ho hl=> ?_)
    (w:=w.drew) S.drew ⟨fun k=>(hA.sl k).mono (Le.drew w I β _),hA.size,hA.defers,hA.aE.mono (Le.drew (P:=P) w I β st.hp).dm (Le.drew (P:=P) w I β st.hp).cj⟩ fun a' w' I' β' k1 k2 k3=>hQ a' w' I' β' ((Le.drew w I β _).trans k1) k2 k3
   ·rw[EU]
    simp[hi]
   ·have hi:=(iz.1 ho).1
    simp[hi] at hl
end
section
variable {P:Program} {A:cJ} {E:FuncId→Bool} {G:Nat→V} {w w':World} {I I' I2:Nat→Prop} {μ β β':Nat→Option Nat} {hp hp':Nat→Option an} {C:ag} {B:Nat} {M:Nat→Prop} {w0:Start}
theorem uF: ∀{l:List Nat} {hp:Nat→Option an} {I:Nat→Prop},aF P w I β hp B M w0→∃I',Le P w I β hp w I' β (tN hp l)∧aF P w I' β (tN hp l) B M w0
 | [],hp,I,S=>⟨I,Le.refl w I β hp,S⟩
 | id::l,hp,I,S=>by
  simp only[tN]
  cases ab:hp id with
  | none=>exact uF S
  | some blk=>
   cases blk with
   | dead=>exact uF S
   | var _=>exact uF S
   | map _ _=>exact uF S
   | arr e es fz=>
    obtain ⟨h1,U⟩:=zT S (upd:=[(id,.arr e es true)]) (fun p hp=>by
     simp only[ez] at hp
     subst hp
     exact ⟨e,es,rfl,.inl ⟨fz,ab⟩⟩)
    obtain ⟨I',h3,h4⟩:=uF (l:=l) U
    exact ⟨I',h1.trans h3,h4⟩
   | nest e es ar=>
    obtain ⟨h1,U⟩:=zT S (upd:=[(id,.arr e es true)]) (fun p hp=>by
     simp only[ez] at hp
     subst hp
     exact ⟨e,es,rfl,.inr ⟨ar,ab⟩⟩)
    obtain ⟨I',h3,h4⟩:=uF (l:=l) U
    exact ⟨I',h1.trans h3,h4⟩
theorem QI {n m:Nat} {pur:List Nat} {a:Act} {st:St} (S:aF P w I β st.hp B M w0) (hA:jo P E G w I β n a st):
  ∃I',Le P w I β st.hp w I' β (freeze m pur st).hp∧aF P w I' β (freeze m pur st).hp B M w0∧jo P E G w I' β n a (freeze m pur st):=by
 obtain ⟨I',h1,U⟩:=uF (l:=(Ob st pur).filter fun id=>Nat.ble m id) S
 exact ⟨I',h1,U,fun k=>(hA.sl k).mono h1,hA.size,hA.defers,hA.aE.mono h1.dm h1.cj⟩
structure wZ (hp:Nat→Option an) (β:Nat→Option Nat) (ord:List Nat) (hp':Nat→Option an) (β':Nat→Option Nat):Prop where
 arr: ∀(j:Nat) id e es fz,ord[j]? =some id→hp id=some (.arr e es fz)→hp' j=some (.arr e es fz)
 var: ∀(j:Nat) id T cs,ord[j]? =some id→hp id=some (.var T cs)→∃iK,hp' j=some (.var T iK)
 dead: ∀(j:Nat) id,ord[j]? =some id→hp id=some .dead→hp' j=some .dead
 place: ∀(j:Nat) id,ord[j]? =some id→β' j=β id
 nest: ∀(j:Nat) id e es ar,ord[j]? =some id→hp id=some (.nest e es ar)→hp' j=some (.nest e es (ar.map fun _=>0))
 map: ∀(j:Nat) id t es,ord[j]? =some id→hp id=some (.map t es)→hp' j=some (.map t es)
theorem ma: ∀{l:List Nat} {n i j:Nat},iD l n i=some j→∃k,j=i+k∧l[k]? =some n
 | [],n,i,j,h=>by cases h
 | a::l,n,i,j,h=>by
  simp only[iD] at h
  cases hb:Nat.beq n a with
  | true=>
   rw[hb] at h
   cases h
   rw[aU] at hb
   exact ⟨0,rfl,by rw[hb];rfl⟩
  | false=>
   rw[hb] at h
   obtain ⟨k,h1,U⟩:=ma h
   exact ⟨k+1,by omega,by simpa using U⟩
def lu (hp':Nat→Option an) (β':Nat→Option Nat) (n:Nat) (bs:List an):Prop:=
 ∀(k:Nat) b,bs[k]? =some b→hp' (n+k)=some b∧β' (n+k)=none
theorem JN: ∀(ar:List Nat) (k:Nat),bE (ar.map fun _=>0) k=0
 | [],_=>rfl
 | _::_,0=>rfl
 | _::vs,k+1=>JN vs k
theorem QJ {e:TypeId} {es:List V} {ar:List Nat} {path:Path} {ver:Nat} (hc:(Nat.blt 0 path.length&&(Nat.ble path.length ar.length&&Nat.beq (bE ar (path.length-1)) ver))=true)
  (h:(an.nest e es ar).tR path ver):False:=by
 simp only[aM,ku,cV,aU] at hc
 obtain ⟨h1,U,h3⟩:=hc
 rcases h with h|h|h
 ·subst h;simp at h1
 ·omega
 ·omega
theorem QK (S:aF P w I β hp B M w0) {ord:List Nat} (hR:wZ hp β ord hp' β') {v:Value} {x:V} (hv:ao P w I β hp v x):ao P w I β' hp' v (iE hp ord x):=by
 cases hv with
 | undef=>exact .undef
 | int=>exact .int
 | bool=>exact .bool
 | str h=>exact .str h
 | list h=>exact .list h
 | nilS=>exact .nilS
 | agg=>exact .undef
 | bm=>exact .undef
 | dy=>exact .dy
 | fn=>exact .undef
 | pref a b c=>exact .pref a b c
 | @ek _ e id ab=>
  simp only[iE]
  cases bq:iD ord id 0 with
  | none=>simp only[ab];exact .undef
  | some j=>
   obtain ⟨k,rfl,hk⟩:=ma bq
   exact .ek (hR.dead _ id (by simpa using hk) ab)
 | @gn _ e id off len ab=>
  simp only[iE]
  cases bq:iD ord id 0 with
  | none=>simp only[ab];exact .undef
  | some j=>
   obtain ⟨k,rfl,hk⟩:=ma bq
   exact .gn (hR.dead _ id (by simpa using hk) ab)
 | @kF _ id i c ab=>
  simp only[iE]
  cases bq:iD ord id 0 with
  | none=>exact .undef
  | some j=>
   obtain ⟨k,rfl,hk⟩:=ma bq
   exact .kF (hR.dead _ id (by simpa using hk) ab)
 | @dI e id fz _ ab hb=>
  simp only[iE]
  cases bq:iD ord id 0 with
  | none=>
   simp only[ab]
   cases fz with
   | false=>exact .undef
   | true=>simp only[jO,cond_true];exact .list (.any fun _=>rfl)
  | some j=>
   obtain ⟨k,rfl,hk⟩:=ma bq
   have dc:ord[0+k]? =some id:=by simpa using hk
   exact .dI (hR.arr _ id _ _ _ dc ab) ((hR.place _ id dc).trans hb)
 | @whole e id es fz b cap ab hb ba cf hm=>
  simp only[iE]
  cases bq:iD ord id 0 with
  | none=>
   simp only[ab]
   cases fz with
   | false=>exact .undef
   | true=>
    simp only[jO,cond_true]
    have hr:=S.h.rel id _ ab
    cases hr with
    | dJ aB=>rw[aB] at hb;cases hb
    | arr au aB hh hs hf en hx=>
     rw[hb] at aB;cases aB
     have:=tW (I':=I) (off:=0) (len:=es.length) (o:=0) hh hx (fI au) (by omega) cf (fun _=>by simp) (fun _ h=>h) (hf rfl)
     exact .list (by simpa using this)
  | some j=>
   obtain ⟨k,rfl,hk⟩:=ma bq
   have dc:ord[0+k]? =some id:=by simpa using hk
   exact .whole (hR.arr _ id _ _ _ dc ab) ((hR.place _ id dc).trans hb) ba cf hm
 | @fX e id fz _ ab hb=>
  simp only[iE]
  cases bq:iD ord id 0 with
  | none=>
   simp only[ab]
   cases fz with
   | false=>exact .undef
   | true=>simp only[jO,cond_true];exact .list (by simpa using (jb.any (P:=P) fun _=>rfl))
  | some j=>
   obtain ⟨k,rfl,hk⟩:=ma bq
   have dc:ord[0+k]? =some id:=by simpa using hk
   exact .fX (hR.arr _ id _ _ _ dc ab) ((hR.place _ id dc).trans hb)
 | @sub e id off len es fz b o cap ab hb lh cf ho=>
  simp only[iE]
  cases bq:iD ord id 0 with
  | none=>
   simp only[ab]
   cases fz with
   | false=>exact .undef
   | true=>
    simp only[jO,cond_true]
    have hr:=S.h.rel id _ ab
    cases hr with
    | dJ aB=>rw[aB] at hb;cases hb
    | arr au aB hh hs hf en hx=>
     rw[hb] at aB;cases aB
     exact .list (tW (I':=I) hh hx (fI au) lh cf ho (fun _ h=>h) (hf rfl))
  | some j=>
   obtain ⟨k,rfl,hk⟩:=ma bq
   have dc:ord[0+k]? =some id:=by simpa using hk
   exact .sub (hR.arr _ id _ _ _ dc ab) ((hR.place _ id dc).trans hb) lh cf ho
 | @ptr id i c b blk ab hd hb=>
  simp only[iE]
  cases bq:iD ord id 0 with
  | none=>exact .undef
  | some j=>
   obtain ⟨k,rfl,hk⟩:=ma bq
   have dc:ord[0+k]? =some id:=by simpa using hk
   cases blk with
   | dead=>exact absurd rfl hd
   | var T0 cs=>
    obtain ⟨iK,h'⟩:=hR.var _ id T0 cs dc ab
    exact .ptr (blk:= .var T0 iK) h' (by simp) ((hR.place _ id dc).trans hb)
   | arr e es fz=>exact .ptr (blk:= .arr e es fz) (hR.arr _ id _ _ _ dc ab) (by simp) ((hR.place _ id dc).trans hb)
   | nest e es ar=>exact .ptr (blk:= .nest e es (ar.map fun _=>0)) (hR.nest _ id _ _ _ dc ab) (by simp) ((hR.place _ id dc).trans hb)
   | map t es=>exact .ptr (blk:= .map t es) (hR.map _ id _ _ dc ab) (by simp) ((hR.place _ id dc).trans hb)
 | dB=>exact .dB
 | @iH _ t id ab=>
  simp only[iE]
  cases bq:iD ord id 0 with
  | none=>exact .undef
  | some j=>
   obtain ⟨k,rfl,hk⟩:=ma bq
   exact .iH (hR.dead _ id (by simpa using hk) ab)
 | @cA t id b es ab hb=>
  simp only[iE]
  cases bq:iD ord id 0 with
  | none=>exact .undef
  | some j=>
   obtain ⟨k,rfl,hk⟩:=ma bq
   have dc:ord[0+k]? =some id:=by simpa using hk
   exact .cA (hR.map _ id _ _ dc ab) ((hR.place _ id dc).trans hb)
 | @eD e id es ar b cap ab hb ba cf hm=>
  simp only[iE]
  cases bq:iD ord id 0 with
  | none=>simp only[ab];exact .undef
  | some j=>
   obtain ⟨k,rfl,hk⟩:=ma bq
   have dc:ord[0+k]? =some id:=by simpa using hk
   exact .eD (hR.nest _ id _ _ _ dc ab) ((hR.place _ id dc).trans hb) ba cf hm
 | @jT v e id ver path blk ab zR=>
  simp only[iE]
  split
  ·rename_i j e1 cv ar h1 U
   rw[ab] at U
   cases U
   cases hc:(Nat.blt 0 path.length&&(Nat.ble path.length ar.length&&Nat.beq (bE ar (path.length-1)) ver)) with
   | false=>exact .undef
   | true=>exact (QJ hc zR).elim
  ·exact .undef
 | @jU v id ver i c path blk ab zR=>
  simp only[iE]
  split
  ·rename_i j e1 cv ar h1 U
   rw[ab] at U
   cases U
   cases hc:(Nat.blt 0 path.length&&(Nat.ble path.length ar.length&&Nat.beq (bE ar (path.length-1)) ver)) with
   | false=>exact .undef
   | true=>exact (QJ hc zR).elim
  ·exact .undef
 | @row v e e0 t id ver b i c q es l ar ab hb hq hv ht hc=>
  simp only[iE]
  split
  ·rename_i j e1 cv uz h1 U
   obtain ⟨k,rfl,hk⟩:=ma h1
   have dc:ord[0+k]? =some id:=by simpa using hk
   cases hx:(Nat.blt 0 (q++[(i,c)]).length&&(Nat.ble (q++[(i,c)]).length uz.length&&Nat.beq (bE uz ((q++[(i,c)]).length-1)) ver)) with
   | false=>exact .undef
   | true=>exact .row (hR.nest _ id _ _ _ dc ab) ((hR.place _ id dc).trans hb) (by simpa using hq) (JN _ _) ht hc
  ·exact .undef
 | @cI e e0 t id ver b b1 len cap i0 c0 i c q es l ar ab hb hq hv ht jW hc=>
  simp only[iE]
  split
  ·rename_i j e1 cv uz h1 U
   obtain ⟨k,rfl,hk⟩:=ma h1
   have dc:ord[0+k]? =some id:=by simpa using hk
   cases hx:(Nat.blt 0 (q++[(i0,c0)]).length&&(Nat.ble (q++[(i0,c0)]).length uz.length&&Nat.beq (bE uz ((q++[(i0,c0)]).length-1)) ver)) with
   | false=>exact .undef
   | true=>exact .cI (hR.nest _ id _ _ _ dc ab) ((hR.place _ id dc).trans hb) (by simpa using hq) (JN _ _) ht jW hc
  ·exact .undef
theorem QL (S:aF P w I β hp B M w0) {ord:List Nat} (hR:wZ hp β ord hp' β') {vs:Array Value} {xs:List V} (h: ∀(j:Nat) v x,vs[j]? =some v→xs[j]? =some x→ao P w I β hp v x) (j:Nat) (v:Value) (y:V)
  (hv:vs[j]? =some v) (hy:(xs.map (iE hp ord))[j]? =some y):ao P w I β' hp' v y:=by
 rw[fR] at hy
 cases hx:xs[j]? with
 | none=>rw[hx] at hy;cases hy
 | some x=>rw[hx] at hy;cases hy;exact QK S hR (h j v x hv hx)
theorem QM (S:aF P w I β hp B M w0) {ord:List Nat} (hR:wZ hp β ord hp' β') {n:Nat} {v:Value} {x:V} (hv:ao P w I β hp v x) (hF:lu hp' β' n (v9 hp ord n x).2):
  ao P w I β' hp' v (v9 hp ord n x).1:=by
 cases x with
 | nilS e=>
  obtain ⟨h1,U⟩:=hF 0 _ rfl
  cases hv with
  | nilS=>exact .dI h1 U
 | fn f a b=>
  cases hv with
  | fn q1 q2 q3 q4=>exact .fn (by simpa using q1) (QL S hR q2) (by simpa using q3) (QL S hR q4)
 | _=>exact QK S hR hv
end
section
variable {P:Program} {A:cJ} {w w':World} {I I' I2:Nat→Prop} {μ β β':Nat→Option Nat} {hp hp':Nat→Option an} {C:ag} {B:Nat} {M:Nat→Prop} {w0:Start}
theorem lu.left {n:Nat} {a b:List an} (h:lu hp' β' n (a++b)):lu hp' β' n a:=fun k x hx=>
 h k x (by rw[iU (bz.1 hx).1];exact hx)
theorem lu.right {n:Nat} {a b:List an} (h:lu hp' β' n (a++b)):lu hp' β' (n+a.length) b:=fun k x hx=>by
 have:=h (a.length+k) x (by rw[iW (by omega),Nat.add_sub_cancel_left];exact hx)
 rwa [←oy] at this
def mT (bs:List an):Prop:= ∀b∈bs,∃e,b= .arr e [] false
theorem mT.app {a b:List an} (h1:mT a) (U:mT b):mT (a++b):=fun x hx=>(eQ.1 hx).elim (h1 x) (U x)
theorem mT.nil:mT []:=fun x hx=>by simp at hx
theorem QN {ord:List Nat} {n:Nat} {x:V}:mT (v9 hp ord n x).2:=by
 cases x<;>simp only[v9]<;>first|exact .nil|skip
 intro b hb
 simp only[ez] at hb
 exact ⟨_,hb⟩
theorem JO {ord:List Nat}: ∀{xs:List V} {n:Nat},mT (nA hp ord n xs).2
 | [],n=> .nil
 | x::xs,n=>by
  simp only[nA]
  exact QN.app JO
theorem EV {ord:List Nat}: ∀{xs:List V} {n:Nat},(nA hp ord n xs).1.length=xs.length
 | [],n=>rfl
 | x::xs,n=>by simp only[nA,List.length_cons,EV]
theorem EW (S:aF P w I β hp B M w0) {ord:List Nat} (hR:wZ hp β ord hp' β'): ∀{xs:List V} {vs:List Value} {n:Nat},(∀(j:Nat) v x,vs[j]? =some v→xs[j]? =some x→ao P w I β hp v x)→
  lu hp' β' n (nA hp ord n xs).2→∀(j:Nat) v y,vs[j]? =some v→(nA hp ord n xs).1[j]? =some y→ao P w I β' hp' v y
 | [],vs,n,h,hF,j,v,y,hv,hy=>by simp[nA] at hy
 | x::xs,vs,n,h,hF,j,v,y,hv,hy=>by
  simp only[nA] at hF hy
  cases j with
  | zero=>
   simp at hy
   subst hy
   exact QM S hR (h 0 v x hv rfl) hF.left
  | succ j=>
   cases vs with
   | nil=>simp at hv
   | cons v0 vs=>exact EW S hR (vs:=vs) (fun j v x hj hx=>h (j+1) v x (by simpa using hj) (by simpa using hx)) hF.right j v y (by simpa using hv) (by simpa using hy)
theorem aaE {ord:List Nat} {n:Nat} {x:V}:mT (qB hp ord n x).2:=by
 cases x<;>simp only[qB]<;>first|exact QN|exact JO
theorem aaF (S:aF P w I β hp B M w0) {ord:List Nat} (hR:wZ hp β ord hp' β') {n:Nat} {v:Value} {x:V} (hv:ao P w I β hp v x) (hF:lu hp' β' n (qB hp ord n x).2):
  ao P w I β' hp' v (qB hp ord n x).1:=by
 cases x with
 | agg cs=>
  obtain ⟨ds,rfl,h1,U⟩:=hv.ll
  simp only[qB] at hF⊢
  exact .agg (by rw[EV];exact h1) fun j v y hj hy=>EW S hR (vs:=ds.toList) (fun j v x hj hx=>U j v x (by simpa using hj) hx) hF j v y (by simpa using hj) hy
 | bm cs=>
  obtain ⟨ds,rfl,h1,U⟩:=hv.ua
  simp only[qB] at hF⊢
  exact .bm (by rw[EV];exact h1) fun j v y hj hy=>EW S hR (vs:=ds.toList) (fun j v x hj hx=>U j v x (by simpa using hj) hx) hF j v y (by simpa using hj) hy
 | _=>exact QM S hR hv hF
theorem QO {ord:List Nat} {sl:Nat→V}: ∀{l:List Nat} {n:Nat},mT (lR hp ord sl n l).2
 | [],n=> .nil
 | s::l,n=>by
  simp only[lR]
  exact aaE.app QO
theorem QP {ord:List Nat} {sl:Nat→V} {k:Nat} {y:V}: ∀{l:List Nat} {n:Nat},lu hp' β' n (lR hp ord sl n l).2→dH (lR hp ord sl n l).1 k=some y→
  ∃n',lu hp' β' n' (qB hp ord n' (sl k)).2∧y=(qB hp ord n' (sl k)).1
 | [],n,_,h=>by cases h
 | s::l,n,hF,h=>by
  simp only[lR] at hF h
  simp only[dH] at h
  cases hb:Nat.beq k s with
  | true=>
   rw[hb] at h
   rw[aU] at hb
   subst hb
   cases h
   exact ⟨n,hF.left,rfl⟩
  | false=>
   rw[hb] at h
   exact QP hF.right h
theorem aaG {ord:List Nat} {n id:Nat}:mT (eZ hp ord n id).2:=by
 unfold eZ
 split
 ·exact JO
 ·exact .nil
 ·exact .nil
 ·exact .nil
 ·exact .nil
theorem QQ {ord:List Nat}: ∀{l:List Nat} {n:Nat},mT (fH hp ord n l).2
 | [],n=> .nil
 | s::l,n=>by
  simp only[fH]
  exact aaG.app QQ
theorem QR {ord:List Nat}: ∀{l:List Nat} {n:Nat},(fH hp ord n l).1.length=l.length
 | [],n=>rfl
 | x::xs,n=>by simp only[fH,List.length_cons,QR]
theorem QS {ord:List Nat}: ∀{l:List Nat} {n j:Nat} {id:Nat},l[j]? =some id→∃n',(lu hp' β' n (fH hp ord n l).2→lu hp' β' n' (eZ hp ord n' id).2)∧(fH hp ord n l).1[j]? =some (eZ hp ord n' id).1
 | [],n,j,id,h=>by simp at h
 | s::l,n,j,id,h=>by
  simp only[fH]
  cases j with
  | zero=>
   simp at h
   subst h
   exact ⟨n,fun hF=>hF.left,rfl⟩
  | succ j=>
   obtain ⟨n',h1,U⟩:=QS (n:=n+(eZ hp ord n s).2.length) (j:=j) (by simpa using h)
   exact ⟨n',fun hF=>h1 hF.right,by simpa using U⟩
theorem EX: ∀{l acc:List Nat},∃t,tM hp acc l=acc++t∧(acc.Nodup→(acc++t).Nodup)
 | [],acc=>⟨[],by simp[tM],by simp⟩
 | id::l,acc=>by
  simp only[tM]
  cases hb:(kz acc id|| !(Oa hp id)) with
  | true=>exact EX
  | false=>
   obtain ⟨t,h1,U⟩:=EX (l:=l) (acc:=acc++[id])
   refine ⟨id::t,by simp only[cond_false,h1,cx,List.singleton_append],fun hn=> ?_⟩
   have:acc++id::t=(acc++[id])++t:=by simp
   rw[this]
   refine U ?_
   rw[vP]
   refine ⟨hn,by simp,fun a ha b aB=> ?_⟩
   simp only[ez] at aB
   subst aB
   intro e
   subst e
   rw[wA ha] at hb
   cases hb
theorem QT: ∀{n:Nat} {l:List Nat},∃t,grow hp n l=l++t∧(l.Nodup→(l++t).Nodup)
 | 0,l=>⟨[],by simp[grow],by simp⟩
 | n+1,l=>by
  simp only[grow]
  obtain ⟨t,h1,U⟩:=EX (hp:=hp) (acc:=l) (l:=l.flatMap (Ib hp))
  rw[h1]
  obtain ⟨t',h3,h4⟩:=QT (n:=n) (l:=l++t)
  exact ⟨t++t',by rw[h3,cx],fun hn=>by rw[←cx];exact h4 (U hn)⟩
theorem aaH {m:Nat} {live:List Nat} {st:St}: ∃t,Ic m live st=List.range m++t∧(List.range m++t).Nodup:=by
 unfold Ic
 obtain ⟨t,h1,U⟩:=EX (hp:=st.hp) (acc:=List.range m) (l:=live.flatMap fun s=>Ia (st.sl s))
 rw[h1]
 obtain ⟨t',h3,h4⟩:=QT (hp:=st.hp) (n:=3) (l:=List.range m++t)
 exact ⟨t++t',by rw[h3,cx],by rw[←cx];exact h4 (U List.nodup_range)⟩
end
section
variable {P:Program} {A:cJ} {E:FuncId→Bool} {G:Nat→V} {w w':World} {I I' I2:Nat→Prop} {μ β β':Nat→Option Nat} {hp hp' hp0:Nat→Option an} {C:ag} {B:Nat} {M:Nat→Prop} {w0:Start}
theorem QU {n m:Nat} {ord live:List Nat} {a:Act} {st:St} (lU:ord.Nodup) (AE: ∀id,id<m→ord[id]? =some id∨∃p,ord[id]? =some p∧st.hp p=none) (S:aF P w I β st.hp B M w0) (hA:jo P E G w I β n a st) (hE:lq w0.w w0.I μ hp0 w I β st.hp) (hm: ∀id blk,hp0 id=some blk→id<m) (jJ: ∀id e es ar,hp0 id=some (.nest e es ar)→∀k,bE ar k=0):
  ∃β',aF P w I β' (wa ord live st).hp B M w0∧jo P E G w I β' n a (wa ord live st)∧lq w0.w w0.I μ hp0 w I β' (wa ord live st).hp:=by
 have aaI:wa ord live st=mk (lR st.hp ord st.sl (ord.length+(fH st.hp ord ord.length ord).2.length) live).1
   ((fH st.hp ord ord.length ord).1++((fH st.hp ord ord.length ord).2++(lR st.hp ord st.sl (ord.length+(fH st.hp ord ord.length ord).2.length) live).2)):=by
  rfl
 rw[aaI]
 let hp':=jR ((fH st.hp ord ord.length ord).1++((fH st.hp ord ord.length ord).2++(lR st.hp ord st.sl (ord.length+(fH st.hp ord ord.length ord).2.length) live).2))
 let β':Nat→Option Nat:=fun j=>if j<ord.length then (ord[j]?).bind β else none
 have hlen:(fH st.hp ord ord.length ord).1.length=ord.length:=QR
 have jk: ∀j,j<ord.length→hp' j=(fH st.hp ord ord.length ord).1[j]? :=by
  intro j hj
  simp only[hp',ic]
  rw[iU (by omega)]
 have ib: ∀k,hp' (ord.length+k)=((fH st.hp ord ord.length ord).2++(lR st.hp ord st.sl (ord.length+(fH st.hp ord ord.length ord).2.length) live).2)[k]? :=by
  intro k
  simp only[hp',ic]
  rw[iW (by omega),hlen,Nat.add_sub_cancel_left]
 have hF:lu hp' β' ord.length ((fH st.hp ord ord.length ord).2++(lR st.hp ord st.sl (ord.length+(fH st.hp ord ord.length ord).2.length) live).2):=by
  intro k b hb
  refine ⟨(ib k).trans hb,?_⟩
  simp only[β']
  rw[ai (by omega)]
 have AA:mT ((fH st.hp ord ord.length ord).2++(lR st.hp ord st.sl (ord.length+(fH st.hp ord ord.length ord).2.length) live).2):=QQ.app QO
 have oV: ∀(j:Nat) id,ord[j]? =some id→β' j=β id:=by
  intro j id hj
  simp only[β']
  rw[aj (bz.1 hj).1,hj]
  rfl
 have ri: ∀(j:Nat) id,ord[j]? =some id→∃n',lu hp' β' n' (eZ st.hp ord n' id).2∧hp' j=some (eZ st.hp ord n' id).1:=by
  intro j id hj
  obtain ⟨n',h1,U⟩:=QS (hp:=st.hp) (hp':=hp') (β':=β') (ord:=ord) (n:=ord.length) hj
  exact ⟨n',h1 hF.left,(jk j (bz.1 hj).1).trans U⟩
 have hR:wZ st.hp β ord hp' β':=by
  refine ⟨fun j id e es fz hj ab=> ?_,fun j id T cs hj ab=> ?_,fun j id hj ab=> ?_,oV,fun j id e es ar hj ab=> ?_,fun j id t es hj ab=> ?_⟩
  ·obtain ⟨n',_,U⟩:=ri j id hj
   rw[U];simp only[eZ,ab]
  ·obtain ⟨n',_,U⟩:=ri j id hj
   rw[U];simp only[eZ,ab];exact ⟨_,rfl⟩
  ·obtain ⟨n',_,U⟩:=ri j id hj
   rw[U];simp only[eZ,ab]
  ·obtain ⟨n',_,U⟩:=ri j id hj
   rw[U];simp only[eZ,ab]
  ·obtain ⟨n',_,U⟩:=ri j id hj
   rw[U];simp only[eZ,ab]
 have cls: ∀j blk',hp' j=some blk'→(∃id,ord[j]? =some id∧((blk'= .dead)∨∃blk,st.hp id=some blk∧blk≠ .dead∧∀o b,bA P w o blk' b→bA P w o blk b))∨(∃e,blk'= .arr e [] false∧β' j=none):=by
  intro j blk' hj
  rcases pt j ord.length with h|h
  ·have gM:=bC h
   obtain ⟨n',_,U⟩:=ri j _ gM
   rw[hj] at U
   refine .inl ⟨_,gM,?_⟩
   cases ab:st.hp ord[j] with
   | none=>left;simp only[eZ,ab] at U;exact dh U
   | some blk=>
    cases blk with
    | dead=>left;simp only[eZ,ab] at U;exact dh U
    | var T0 cs=>exact .inr ⟨_,rfl,by simp,fun o b h=>by simp only[eZ,ab] at U;rw[dh U] at h;exact .root (by simp) (h.flat (by simp))⟩
    | arr e es fz=>exact .inr ⟨_,rfl,by simp,fun o b h=>by simp only[eZ,ab] at U;rw[dh U] at h;exact .root (by simp) (h.flat (by simp))⟩
    | map t es=>exact .inr ⟨_,rfl,by simp,fun o b h=>by simp only[eZ,ab] at U;rw[dh U] at h;exact .root (by simp) (h.flat (by simp))⟩
    | nest e es ar=>
     refine .inr ⟨_,rfl,by simp,fun o b h=> ?_⟩
     simp only[eZ,ab] at U
     rw[dh U] at h
     cases h with
     | root _ h=>exact .root (by simp) h
     | row h1 U=>exact .row h1 U
  ·obtain ⟨k,rfl⟩: ∃k,j=ord.length+k:=⟨j-ord.length,by omega⟩
   rw[ib] at hj
   obtain ⟨e,he⟩:=AA _ (jP hj)
   exact .inr ⟨e,he,(hF k _ hj).2⟩
 refine ⟨β',⟨⟨fun j blk' hj=> ?_,fun j1 j2 b1 b2 b e1 e2 f1 f2=> ?_,fun j blk b e1 f1=> ?_,S.h.jV⟩,S.cj,S.size,S.new,S.io⟩,⟨fun k=> ?_,hA.size,hA.defers,hA.aE⟩,⟨hE.dm,hE.cj,fun id blk ab=> ?_,fun id blk blk' b ab bG hd hb=> ?_⟩⟩
 ·change hp' j=some blk' at hj
  rcases pt j ord.length with h|h
  ·have gM:=bC h
   obtain ⟨n',QV,U⟩:=ri j _ gM
   rw[hj] at U
   rw[oV j _ gM]
   cases ab:st.hp ord[j] with
   | none=>simp only[eZ,ab] at U;rw[dh U];exact .dead
   | some blk=>
    have hr:=S.h.rel _ _ ab
    generalize β ord[j]=o at hr
    cases hr with
    | dead=>simp only[eZ,ab] at U;rw[dh U];exact .dead
    | dJ hb=>simp only[eZ,ab] at U;rw[dh U];exact .dJ hb
    | arr a1 a2 a3 a4 a5 a6 a7=>simp only[eZ,ab] at U;rw[dh U];exact .arr a1 a2 a3 a4 a5 a6 a7
    | nest a1 a2 a3=>simp only[eZ,ab] at U;rw[dh U];exact .nest a1 a2 a3
    | map a1 a2 a3 a4 a5 a6 a7=>simp only[eZ,ab] at U;rw[dh U];exact .map a1 a2 a3 a4 a5 a6 a7
    | @var xs b Ca T hb hh hs cQ hx gq=>
     simp only[eZ,ab] at U QV
     rw[dh U]
     exact .var hb hh (by rw[EV];exact hs) cQ (fun i v y hi hy=>EW S hR (vs:=Ca.toList) (fun i v x hi cC=>hx i v x (by simpa using hi) cC) QV i v y (by simpa using hi) hy) gq
  ·rcases cls j blk' hj with ⟨id,ab,_⟩|⟨e,he,hb⟩
   ·have:=(bz.1 ab).1;omega
   ·rw[he];exact .dJ hb
 ·rcases cls j1 b1 e1 with ⟨JP,o1,x1⟩|⟨e,_,hb⟩
  ·rcases cls j2 b2 e2 with ⟨cE,o2,x2⟩|⟨e,_,hb⟩
   ·obtain ⟨c1,y1,z1,g1⟩:=x1.resolve_left f1.alive
    obtain ⟨c2,y2,z2,g2⟩:=x2.resolve_left f2.alive
    rw[oV _ _ o1] at f1
    rw[oV _ _ o2] at f2
    have:=S.h.inj JP cE c1 c2 b y1 y2 (g1 _ _ f1) (g2 _ _ f2)
    subst this
    obtain ⟨q1,q2⟩:=bz.1 o1
    obtain ⟨q3,q4⟩:=bz.1 o2
    exact (List.getElem_inj lU).1 (q2.trans q4.symm)
   ·subst ‹b2=_›;have:=f2.flat (by simp);rw[hb] at this;cases this
  ·subst ‹b1=_›;have:=f1.flat (by simp);rw[hb] at this;cases this
 ·rcases cls j blk e1 with ⟨JP,o1,x1⟩|⟨e,_,hb⟩
  ·obtain ⟨c1,y1,z1,g1⟩:=x1.resolve_left f1.alive
   rw[oV _ _ o1] at f1
   exact S.h.own JP c1 b y1 (g1 _ _ f1)
  ·subst ‹blk=_›;have:=f1.flat (by simp);rw[hb] at this;cases this
 ·change ao P w I β' hp' (a.tmps.getD k undef) (jB _ k)
  unfold jB
  cases Jt:dH (lR st.hp ord st.sl (ord.length+(fH st.hp ord ord.length ord).2.length) live).1 k with
  | none=>exact .undef
  | some y=>
   obtain ⟨n',h1,U⟩:=QP hF.right Jt
   simp only[Option.getD_some,U]
   exact aaF S hR (hA.sl k) h1
 ·obtain ⟨ra,k1,k2,k3⟩:=hE.blk id blk ab
  rcases AE id (hm id blk ab) with ho|⟨p,ho,bq⟩
  ·cases ra with
   | dead=>exact ⟨.dead,hR.dead id id ho k1,k2,fun h=>absurd rfl h⟩
   | var T0 cs=>
    obtain ⟨iK,h'⟩:=hR.var id id T0 cs ho k1
    refine ⟨_,h',?_,fun _=>(oV id id ho).trans (k3 (by simp))⟩
    cases blk<;>simp_all [an.le]
   | arr e es fz=>exact ⟨_,hR.arr id id e es fz ho k1,k2,fun _=>(oV id id ho).trans (k3 (by simp))⟩
   | map t es=>exact ⟨_,hR.map id id t es ho k1,k2,fun _=>(oV id id ho).trans (k3 (by simp))⟩
   | nest e es ar=>
    refine ⟨_,hR.nest id id e es ar ho k1,?_,fun _=>(oV id id ho).trans (k3 (by simp))⟩
    obtain ⟨Im,XY,rfl,l1,l2,_⟩:=an.Ik k2
    exact ⟨rfl,l1,by simpa using l2,fun k=>by rw[jJ id _ _ _ ab k];exact k0 _⟩
  ·obtain ⟨n',_,U⟩:=ri id p ho
   simp only[eZ,bq] at U
   exact ⟨.dead,U,by cases blk<;>trivial,fun h=>absurd rfl h⟩
 ·obtain ⟨ra,k1,k2,k3⟩:=hE.blk id blk ab
  rcases AE id (hm id blk ab) with ho|⟨p,ho,bq⟩
  ·refine hE.size id blk ra b ab k1 (fun rh=> ?_) hb
   subst rh
   have:=hR.dead id id ho k1
   change hp' id=some blk' at bG
   rw[this] at bG
   exact hd (dh bG).symm
  ·obtain ⟨n',_,U⟩:=ri id p ho
   simp only[eZ,bq] at U
   change hp' id=some blk' at bG
   rw[U] at bG
   exact absurd (dh bG).symm hd
theorem aaJ {n m:Nat} {live:List Nat} {a:Act} {st:St} (S:aF P w I β st.hp B M w0) (hA:jo P E G w I β n a st) (hE:lq w0.w w0.I μ hp0 w I β st.hp) (hm: ∀id blk,hp0 id=some blk→id<m) (jJ: ∀id e es ar,hp0 id=some (.nest e es ar)→∀k,bE ar k=0):
  ∃β',aF P w I β' (canon m live st).hp B M w0∧jo P E G w I β' n a (canon m live st)∧lq w0.w w0.I μ hp0 w I β' (canon m live st).hp:=by
 obtain ⟨t,AE,lU⟩:=aaH (m:=m) (live:=live) (st:=st)
 refine QU (by rw[AE];exact lU) (fun id aN=> .inl ?_) S hA hE hm jJ
 rw[AE,iU (by simpa using aN)]
 simp[aN]
theorem QW: ∀{l:List Nat},qC l=true→l.Nodup
 | [],_=> .nil
 | a::l,h=>by
  simp only[qC,aM,nn] at h
  rw[List.nodup_cons]
  exact ⟨fun hm=>Bool.noConfusion ((wA hm).symm.trans h.1),QW h.2⟩
theorem aaK {m:Nat} {mv:List Nat} {id:Nat} (h:id<m):(oH m mv)[id]? =some id∨(oH m mv)[id]? =some (m+id):=by
 unfold oH
 rw[iU (by simpa using h),fR]
 simp only[List.getElem?_range h,Option.map_some]
 cases kz mv id with
 | true=>exact .inr rfl
 | false=>exact .inl rfl
end
section
variable {P:Program} {A:cJ} {w w':World} {I I' I2:Nat→Prop} {μ β β':Nat→Option Nat} {hp hp' hp0:Nat→Option an} {C:ag} {B:Nat} {M:Nat→Prop} {w0:Start}
theorem EY (p:Nat→Prop) (h: ∃n,p n): ∃n,p n∧∀m,p m→n≤m:=by
 obtain ⟨n,hn⟩:=h
 induction n using Nat.strongRecOn with
 | _ n ih=>
  by_cases hx: ∃m,m<n∧p m
  ·obtain ⟨m,hm,hp⟩:=hx
   exact ih m hm hp
  ·exact ⟨n,hn,fun m hm=>Nat.le_of_not_lt fun aN=>hx ⟨m,aN,hm⟩⟩
open Classical in
theorem aaL {c:Code} {Q:Exit→Act→World→Prop} (J:Nat→Act→World→Prop) (h0: ∀a w,¬J 0 a w) (round: ∀n a w,J (n+1) a w→c.wp P (Exit.then (J n) Q) a w) {n:Nat} {a:Act} {w:World} (h:J n a w):
  (Code.loop c).wp P Q a w:=by
 refine wp_loop (fun a w=> ∃n,J n a w) (fun a w=>if h: ∃n,J n a w then (EY _ h).choose else 0) ⟨n,h⟩ fun a w hJ=> ?_
 obtain ⟨h1,U⟩:=(EY _ hJ).choose_spec
 generalize hk:(EY _ hJ).choose=k at h1 U
 cases k with
 | zero=>exact absurd h1 (h0 a w)
 | succ k=>
  refine wp_mono (round k a w h1) fun e a' w' he=> ?_
  cases e with
  | normal=>
   have hex: ∃n,J n a' w':=⟨k,he⟩
   refine ⟨hex,?_⟩
   have h3:=(EY _ hex).choose_spec.2 k he
   rw[rV hex,rV hJ,hk]
   omega
  | _=>exact he
def w4:Out→Exit
 | .norm=> .normal
 | .exit id=> .exit id
 | .ret=> .ret
def Inv (P:Program) (E:FuncId→Bool) (G:Nat→V) (B:Nat) (M:Nat→Prop) (w0:Start) (μ:Nat→Option Nat) (hp0:Nat→Option an) (n:Nat) (a:Act) (w:World) (st:St):Prop:=
 ∃I β,aF P w I β st.hp B M w0∧jo P E G w I β n a st∧lq w0.w w0.I μ hp0 w I β st.hp
theorem Inv.canon {E:FuncId→Bool} {G:Nat→V} {n m:Nat} {a:Act} {st:St} {live:List Nat} (h:Inv P E G B M w0 μ hp0 n a w st) (hm: ∀id blk,hp0 id=some blk→id<m) (jJ: ∀id e es ar,hp0 id=some (.nest e es ar)→∀k,bE ar k=0):Inv P E G B M w0 μ hp0 n a w (canon m live st):=by
 obtain ⟨I,β,S,hA,hE⟩:=h
 obtain ⟨β',a,b,c⟩:=aaJ (live:=live) S hA hE hm jJ
 exact ⟨I,β',a,b,c⟩
theorem EZ: ∀{l:List BS} {ds:List V},(eS l ds).length=l.length
 | [],_=>rfl
 | b::l,ds=>by simp only[eS,List.length_cons,EZ]
theorem Inv.enter {A:cJ} {E:FuncId→Bool} {G:Nat→V} {n f:Nat} {ds:List V} {a:Act} (jm:qC (oH (A.sin f).bj.length (A.mv f))=true) (h:Inv P E G B M w0 μ hp0 n a w (br (A.sin f) ds)) (hm: ∀id blk,hp0 id=some blk→id<(A.sin f).bj.length)
  (jJ: ∀id e es ar,hp0 id=some (.nest e es ar)→∀k,bE ar k=0) (w5: ∀p,(A.sin f).bj.length≤p→(br (A.sin f) ds).hp p=none):Inv P E G B M w0 μ hp0 n a w (DM A f ds):=by
 unfold DM
 split
 ·exact h
 ·obtain ⟨I,β,S,hA,hE⟩:=h
  obtain ⟨β',x,y,z⟩:=QU (m:=(A.sin f).bj.length) (ord:=oH (A.sin f).bj.length (A.mv f)) (live:=(A.sin f).bR.map (·.1)) (QW jm) (fun id ab=>(aaK ab).imp (fun h=>h) fun h=>⟨_,h,w5 _ (by omega)⟩) S hA hE hm jJ
  exact ⟨I,β',x,y,z⟩
theorem Inv.reshape {E:FuncId→Bool} {G:Nat→V} {n m:Nat} {a:Act} {st:St} {S:Shape} {ds:List V} (h:Inv P E G B M w0 μ hp0 n a w st) (hs:jS m S st=some ds) (hm: ∀id blk,hp0 id=some blk→id<m):Inv P E G B M w0 μ hp0 n a w (br S ds):=by
 obtain ⟨I,β,S1,hA,hE⟩:=h
 obtain ⟨r1,r2,_,r4⟩:=AM.reshape hs S1
 refine ⟨I,β,r1,⟨fun k=>r2 k _ (hA.sl k),hA.size,hA.defers,hA.aE⟩,⟨hE.dm,hE.cj,fun id blk ab=> ?_,fun id blk blk' b ab bG hd hb=> ?_⟩⟩
 ·obtain ⟨ra,k1,k2,k3⟩:=hE.blk id blk ab
  obtain ⟨_,hle,_⟩:=PF hs
  have hl:=hm id blk ab
  obtain ⟨ca,U⟩: ∃ca,(br S ds).hp id=some ca:=by
   simp only[br,mk,ic]
   exact ⟨_,bC (by rw[EZ];omega)⟩
  by_cases hd:ca= .dead
  ·subst hd
   exact ⟨_,U,by cases blk<;>trivial,fun h=>absurd rfl h⟩
  ·obtain ⟨hG,e1,e2,_⟩:=r4 id ca U hd
   rw[k1] at e1;cases e1
   exact ⟨_,U,an.le_trans k2 e2,fun _=>k3 (fun e=>hd (an.pI (e▸e2)))⟩
 ·obtain ⟨hG,e1,e2,_⟩:=r4 id blk' bG hd
  exact hE.size id blk hG b ab e1 (fun e=>hd (an.pI (e▸e2))) hb
theorem lr.here (h:lr P A C) (f:Nat) (id:Nat):lr P (A.here f id) C:=by
 intro key ds es hh
 obtain ⟨fn,c,h1,U,h3⟩:=h key ds es hh
 refine ⟨fn,c,h1,U,fun w I μ vals a g b d=>(h3 w I μ vals a g b d).mono fun e w' hx=> ?_⟩
 obtain ⟨v,I2,cb,q1,q2⟩:=hx
 exact ⟨v,I2,cb,q1,⟨q2.wR,q2.le,q2.res⟩⟩
theorem aaM {a b:Out} (h:DL a b=true):a=b:=by
 cases a<;>cases b<;>simp[DL] at h<;>first|rfl|(subst h;rfl)
theorem QX {m:Nat} {r:Out × St}: ∀{l:List (Out × Shape)} {j:Nat} {e:Nat × List V},ways m j l r=some e→j≤e.1
 | [],j,e,h=>by cases h
 | (o,S)::l,j,e,h=>by
  simp only[ways] at h
  split at h
  ·cases h;exact b9 _
  ·have:=QX h;omega
theorem JQ {m:Nat} {o:Out} {s:St} {out:Out} {st':St}: ∀{l:List (Out × Shape)} {k:Nat} {e:Nat × List V},ways m k l (o,s)=some e→mF k l e.1 e.2 (fun o st=>some (o,st))=some (out,st')→
  out=o∧∃S,jS m S s=some e.2∧st'=br S e.2
 | [],k,e,h,_=>by cases h
 | (o',S)::l,k,e,h,U=>by
  simp only[ways] at h
  split at h
  ·rename_i ds hx
   cases h
   cases ho:DL o' o with
   | false=>rw[ho] at hx;cases hx
   | true=>
    rw[ho] at hx
    have:=aaM ho
    subst this
    cases l with
    | nil=>
     simp only[mF,dY,ky] at U
     exact ⟨U.1.symm,S,hx,U.2.symm⟩
    | cons p l=>
     simp only[mF,jO,cond_true,dY,ky] at U
     exact ⟨U.1.symm,S,hx,U.2.symm⟩
  ·have pQ:=QX h
   cases l with
   | nil=>cases h
   | cons p l=>
    have bD:Nat.beq e.1 k=false:=by
     cases hb:Nat.beq e.1 k with
     | false=>rfl
     | true=>rw[aU] at hb;omega
    simp only[mF,bD,cond_false] at U
    exact JQ h U
theorem aaN (hC:lr P A C) (hP:jn P A) (nR:P.follows .mixedOrders=true) {f n m:Nat} (hm: ∀id blk,hp0 id=some blk→id<m) (jJ: ∀id e es ar,hp0 id=some (.nest e es ar)→∀k,bE ar k=0):
  ∀(c:Code) {st st':St} {out:Out} {Q:Exit→Act→World→Prop} {a:Act} {w:World},exec P A C f n m c st=some (out,st')→Inv P A.idle A.aE B M w0 μ hp0 n a w st→
   (∀a' w',Inv P A.idle A.aE B M w0 μ hp0 n a' w' st'→Q (w4 out) a' w')→c.wp P Q a w:=by
 intro c
 induction c with
 | skip=>
  intro st st' out Q a w h hI hQ
  simp only[exec,dY,ky] at h
  obtain ⟨rfl,rfl⟩:=h
  exact wp_skip (hQ a w hI)
 | exit id=>
  intro st st' out Q a w h hI hQ
  simp only[exec,dY,ky] at h
  obtain ⟨rfl,rfl⟩:=h
  exact wp_exit (hQ a w hI)
 | ret=>
  intro st st' out Q a w h hI hQ
  simp only[exec,dY,ky] at h
  obtain ⟨rfl,rfl⟩:=h
  exact wp_ret (hQ a w hI)
 | region id ops draw=>
  intro st st' out Q a w h hI hQ
  simp only[exec] at h
  obtain ⟨jq,h1,U⟩:=bind_some h
  simp only[dY,ky] at U
  obtain ⟨rfl,rfl⟩:=U
  obtain ⟨I,β,S,hA,hE⟩:=hI
  refine aaC (hC.here f id) (hP.here f id) nR h1 S hA fun a' w' I' β' k1 k2 k3=> ?_
  obtain ⟨I2,l1,l2,l3⟩:=QI (m:=m) (pur:=A.pur f id) k2 k3
  have hE2:=(hE.trans k1.EF).trans l1.EF
  exact hQ a' w' (Inv.canon ⟨I2,β',l2,l3,hE2⟩ hm jJ)
 | seq x y iZ ja=>
  intro st st' out Q a w h hI hQ
  simp only[exec] at h
  obtain ⟨⟨o1,jq⟩,h1,U⟩:=bind_some h
  refine wp_seq (iZ h1 hI fun a' w' j6=> ?_)
  cases o1 with
  | norm=>exact ja U j6 hQ
  | exit id=>
   simp only[dY,ky] at U
   obtain ⟨rfl,rfl⟩:=U
   exact hQ a' w' j6
  | ret=>
   simp only[dY,ky] at U
   obtain ⟨rfl,rfl⟩:=U
   exact hQ a' w' j6
 | cond c x y iZ ja=>
  intro st st' out Q a w h hI hQ
  cases c with
  | tmp t=>
   have go: ∀{st st':St} {out:Out} {Q:Exit→Act→World→Prop} {a:Act} {w:World},(match st.sl t with
     | .bool b=>(bif b then exec P A C f n m x st else exec P A C f n m y st).bind fun r=>
      match r.1 with
      | .norm=>some (.norm,AM.canon m (A.join f t) r.2)
      | _=>some r
     | _=>none)=some (out,st')→Inv P A.idle A.aE B M w0 μ hp0 n a w st→(∀a' w',Inv P A.idle A.aE B M w0 μ hp0 n a' w' st'→Q (w4 out) a' w')→(Code.cond (.tmp t) x y).wp P Q a w:=by
    intro st st' out Q a w h hI hQ
    cases hs:st.sl t<;>rw[hs] at h<;>simp only at h<;>first|(cases h;done)|skip
    rename_i b
    obtain ⟨⟨o1,jq⟩,h1,U⟩:=bind_some h
    obtain ⟨I,β,S,hA,hE⟩:=hI
    have e8:a.eval (.tmp t)= .bool b:=by
     have:=Qh hA hs
     simp[Act.eval,this]
    have fin: ∀a' w',Inv P A.idle A.aE B M w0 μ hp0 n a' w' jq→Q (w4 o1) a' w':=by
     intro a' w' j6
     cases o1 with
     | norm=>
      simp only[dY,ky] at U
      obtain ⟨rfl,rfl⟩:=U
      exact hQ a' w' (j6.canon hm jJ)
     | exit id=>
      simp only[dY,ky] at U
      obtain ⟨rfl,rfl⟩:=U
      exact hQ a' w' j6
     | ret=>
      simp only[dY,ky] at U
      obtain ⟨rfl,rfl⟩:=U
      exact hQ a' w' j6
    refine wp_cond e8 ?_
    cases b with
    | true=>exact iZ h1 ⟨I,β,S,hA,hE⟩ fin
    | false=>exact ja h1 ⟨I,β,S,hA,hE⟩ fin
   simp only[exec] at h
   split at h
   ·exact go h hI hQ
   ·obtain ⟨ds,h1,U⟩:=bind_some h
    obtain ⟨e,h3,h4⟩:=bind_some U
    obtain ⟨⟨o1,s1⟩,h5,h6⟩:=bind_some h3
    obtain ⟨rfl,S',k1,rfl⟩:=JQ h6 h4
    exact go h5 (hI.reshape h1 hm) fun a' w' j6=>hQ a' w' (j6.reshape k1 hm)
  | const v=>
   cases v with
   | bool b=>
    simp only[exec] at h
    refine wp_cond (t:=b) rfl ?_
    cases b with
    | true=>exact iZ h hI hQ
    | false=>exact ja h hI hQ
   | _=>simp only[exec] at h;cases h
  | _=>simp only[exec] at h;cases h
 | block id c ih=>
  intro st st' out Q a w h hI hQ
  simp only[exec] at h
  obtain ⟨⟨o1,jq⟩,h1,U⟩:=bind_some h
  refine wp_block (ih h1 hI fun a' w' j6=> ?_)
  cases o1 with
  | norm=>
   simp only[dY,ky] at U
   obtain ⟨rfl,rfl⟩:=U
   exact hQ a' w' (j6.canon hm jJ)
  | exit aD=>
   simp only at U
   cases hb:Nat.beq aD id with
   | true=>
    rw[hb] at U
    simp only[cond_true,dY,ky] at U
    obtain ⟨rfl,rfl⟩:=U
    rw[aU] at hb
    simp only[w4,Exit.inBlock,hb,cO]
    exact hQ a' w' (j6.canon hm jJ)
   | false=>
    rw[hb] at U
    simp only[cond_false,dY,ky] at U
    obtain ⟨rfl,rfl⟩:=U
    have bD:aD≠id:=fun e=>by rw[e,jO] at hb;cases hb
    simp only[w4,Exit.inBlock,bD,fB]
    exact hQ a' w' j6
  | ret=>
   simp only[dY,ky] at U
   obtain ⟨rfl,rfl⟩:=U
   exact hQ a' w' j6
 | loop c ih=>
  intro st st' out Q a w h hI hQ
  simp only[exec] at h
  split at h
  ·cases h
  ·rename_i S hS
   obtain ⟨ds,h1,U⟩:=bind_some h
   obtain ⟨e,h3,h4⟩:=bind_some U
   obtain ⟨k,hk⟩:=vR h3
   refine aaL (J:=fun k a w=> ∃ds,Inv P A.idle A.aE B M w0 μ hp0 n a w (br S.1 ds)∧fE (fun ds=>nB m S.1 S.2 (exec P A C f n m c (br S.1 ds))) k ds=some e) (fun a w ⟨s,_,h⟩=>by cases h) (fun k a w ⟨ds,hs,hk⟩=> ?_) ⟨ds,hI.reshape h1 hm,hk⟩
   simp only[fE] at hk
   obtain ⟨y,h5,h6⟩:=bind_some hk
   unfold nB at h5
   obtain ⟨⟨o1,s1⟩,h7,h8⟩:=bind_some h5
   refine ih h7 hs fun a' w' j6=> ?_
   have QY: ∀{e':Nat × List V},ways m 0 S.2 (o1,s1)=some e'→e'=e→Q (w4 o1) a' w':=by
    intro e' q1 q2
    subst q2
    obtain ⟨rfl,S',k1,rfl⟩:=JQ q1 h4
    exact hQ a' w' (j6.reshape k1 hm)
   cases o1 with
   | norm=>
    obtain ⟨ds2,q1,q2⟩:=bind_some h8
    cases q2
    exact ⟨ds2,j6.reshape q1 hm,h6⟩
   | exit id=>
    obtain ⟨e',q1,q2⟩:=bind_some h8
    cases q2
    cases h6
    exact QY q1 rfl
   | ret=>
    obtain ⟨e',q1,q2⟩:=bind_some h8
    cases q2
    cases h6
    exact QY q1 rfl
 | _=>intro st st' out Q a w h;simp only[exec] at h;cases h
end
section
variable {P:Program} {A:cJ} {w w':World} {I I' I2:Nat→Prop} {μ β β' cb:Nat→Option Nat} {hp hp' hp0:Nat→Option an} {C:ag} {B:Nat} {M:Nat→Prop} {w0:Start}
theorem E0 (S:aF P w I β hp B M w0) {a:Act} {st:St} (hs:lj P w I β hp a st.sl): ∀{l:List ResultVar} {xs:List V} {rd:List Nat},(tP P st l).run C hp=some (xs,rd)→
  ∃vs:List Value,(l.mapM fun| .tmp t=>Pure.pure (a.tmps.getD t undef)| .cell x t=>do loadVar t (←asAddr (a.tmps.getD x undef)):Sem (List Value)).run P w= .ok vs w∧vs.length=xs.length∧l.length=xs.length∧
   ∀(j:Nat) v x,vs[j]? =some v→xs[j]? =some x→ao P w I β hp v x
 | [],xs,rd,h=>by
  cases h
  exact ⟨[],by simp,rfl,rfl,by simp⟩
 | .tmp t::l,xs,rd,h=>by
  simp only[tP] at h
  obtain ⟨ys,l1,l2,h1,U⟩:=lk h
  have h3:=Ip U
  subst h3
  obtain ⟨vs,a1,a2,a3,a4⟩:=E0 S hs h1
  refine ⟨a.tmps.getD t undef::vs,by simp only[List.mapM_cons,Sem.run_bind,Sem.run_pure,Result.andThen_ok,a1],by simp[a2],by simp[a3],fun j v x hj hx=> ?_⟩
  cases j with
  | zero=>simp at hj hx;subst hj;subst hx;have:=hs t;simpa using this
  | succ j=>exact a4 j v x (by simpa using hj) (by simpa using hx)
 | .cell y t::l,xs,rd,h=>by
  simp only[tP] at h
  obtain ⟨r,l1,l2,h1,U⟩:=lk h
  obtain ⟨ys,l3,l4,h3,h4⟩:=lk U
  have h5:=Ip h4
  subst h5
  obtain ⟨v0,b1,b2,b3,ad,b4⟩:=Oy S (hs y) h1
  obtain ⟨vs,a1,a2,a3,a4⟩:=E0 S hs h3
  refine ⟨v0::vs,?_,by simp[a2],by simp[a3],fun j v x hj hx=> ?_⟩
  ·have e1:(do loadVar t (←asAddr (a.tmps.getD y undef)):Sem Value).run P w= .ok v0 w:=by
    rw[b4] at b1⊢
    simpa[Instr.loadAt,Instr.sureAddr,asAddr] using b1
   simp only[List.mapM_cons,Sem.run_bind,e1,Result.andThen_ok,a1,Sem.run_pure]
  cases j with
  | zero=>simp at hj hx;subst hj;subst hx;exact b2
  | succ j=>exact a4 j v x (by simpa using hj) (by simpa using hx)
def uG:List Value→Value
 | [v]=>v
 | l=> .tuple l.toArray
theorem aaO {vs:List Value} (h:vs.length≠1):uG vs= .tuple vs.toArray:=by
 match vs,h with
 | [],_=>rfl
 | [v],h=>simp at h
 | v::v2::l,_=>rfl
theorem aaP {fn:Func} {a:Act} {st:St} (S:aF P w I β st.hp B M w0) (hs:lj P w I β st.hp a st.sl) {xs:List V} {rd:List Nat} (h:(tP P st fn.results.toList).run C st.hp=some (xs,rd)):
  ∃vs:List Value,(results fn a.tmps).run P w= .ok (uG vs) w∧vs.length=xs.length∧
   ∀(j:Nat) v x,vs[j]? =some v→xs[j]? =some x→ao P w I β st.hp v x:=by
 obtain ⟨vs,a1,a2,_,a4⟩:=E0 S hs h
 refine ⟨vs,?_,a2,a4⟩
 unfold results
 rw[Array.mapM_eq_mapM_toList]
 simp only[map_eq_pure_bind,bind_assoc,pure_bind,Sem.run_bind]
 refine (congrArg (fun r:Result (List Value)=>r.andThen _) a1).trans ?_
 simp only[Result.andThen_ok,Sem.run_pure]
 match vs with
 | []=>simp[uG]
 | [v]=>simp[uG]
 | v::v2::l=>simp[uG]
theorem QZ: ∀{args:List V} {i k:Nat},dH (nC i args) k=if i≤k then args[k-i]? else none
 | [],i,k=>by simp[nC,dH]
 | v::vs,i,k=>by
  simp only[nC,dH]
  cases hb:Nat.beq k i with
  | true=>
   rw[aU] at hb
   subst hb
   simp
  | false=>
   have bD:k≠i:=fun e=>by rw[e,jO] at hb;cases hb
   simp only[cond_false,QZ]
   by_cases h:i≤k
   ·rw[aj (by omega),aj h]
    obtain ⟨d,rfl⟩: ∃d,k=i+1+d:=⟨k-(i+1),by omega⟩
    rw[show i+1+d-(i+1)=d by omega,show i+1+d-i=d+1 by omega]
    rfl
   ·rw[ai (by omega),ai h]
theorem JR: ∀{l:List (Nat × VS)} {ds:List V} {i k:Nat},kE i l=true→dH (fk l ds) k=if i≤k then (fF (l.map (·.2)) ds)[k-i]? else none
 | [],ds,i,k,_=>by simp[fk,fF,dH]
 | (q,s)::l,ds,i,k,h=>by
  simp only[kE,aM,aU] at h
  obtain ⟨rfl,h⟩:=h
  simp only[fk,dH,cy,fF]
  cases hb:Nat.beq k q with
  | true=>
   rw[aU] at hb
   subst hb
   simp
  | false=>
   have bD:k≠q:=fun e=>by rw[e,jO] at hb;cases hb
   simp only[cond_false]
   rw[JR h]
   by_cases h:q≤k
   ·rw[aj (by omega),aj h]
    obtain ⟨d,rfl⟩: ∃d,k=q+1+d:=⟨k-(q+1),by omega⟩
    rw[show q+1+d-(q+1)=d by omega,show q+1+d-q=d+1 by omega]
    rfl
   ·rw[ai (by omega),ai h]
theorem Q0: ∀{l:List (Nat × VS)} {ds:List V},(fk l ds).map (·.2)=fF (l.map (·.2)) ds
 | [],_=>rfl
 | (q,s)::l,ds=>by simp only[fk,cy,fF,Q0]
theorem JS: ∀{l:List VS} {ds:List V},(fF l ds).length=l.length
 | [],_=>rfl
 | s::l,ds=>by simp only[fF,List.length_cons,JS]
theorem Q1: ∀{l:List (Nat × VS)} {ds:List V},(fk l ds).length=l.length
 | [],_=>rfl
 | (q,s)::l,ds=>by simp only[fk,List.length_cons,Q1]
theorem aaQ {vals:List Value} {l:List (Nat × V)} (hl:vals.length=l.length) (h: ∀(j:Nat) v y,vals[j]? =some v→(l.map (·.2))[j]? =some y→ao P w I β hp v y):ao P w I β hp (uG vals) (pG l):=by
 match l,hl,h with
 | [],hl,h=>
  obtain rfl:vals=[]:=lJ hl
  exact .bm rfl fun j v x _ hx=>by simp at hx
 | [(k,y)],hl,h=>
  match vals,hl,h with
  | [v],_,h=>exact h 0 v y rfl rfl
 | a::b::l,hl,h=>
  have bD:vals.length≠1:=by rw[hl];simp
  rw[aaO bD]
  simp only[pG]
  exact .bm (by simp[hl]) fun j v y hj hy=>h j v y (by simpa using hj) hy
theorem aaR {l:List BS} {ds:List V} {j:Nat} {e:TypeId} {es:List V} {ar:List Nat} (h:(eS l ds)[j]? =some (.nest e es ar)) (k:Nat):bE ar k=0:=by
 obtain ⟨b,fu,_,U⟩:=Jx h
 cases b<;>simp only[fU] at U<;>cases U
 match k with
 | 0=>rfl
 | 1=>rfl
 | 2=>rfl
 | _+3=>rfl
theorem aaS {f n m:Nat} {fn:Func} {a:Act} {st:St} {es:List V} {rd:List Nat} (hm: ∀id blk,hp0 id=some blk→id<m) (jJ: ∀id e es ar,hp0 id=some (.nest e es ar)→∀k,bE ar k=0)
  (hI:Inv P A.idle A.aE B M w0 μ hp0 n a w st) (oW:kE 0 (A.gI f).bR=true) (ba:(A.gI f).bR.length=fn.results.size) (h:(we P A f fn m st).run C st.hp=some (es,rd)):
  ∃v I2 cb,(results fn a.tmps).run P w= .ok v w∧aF P w I2 cb (br (A.so f es) (A.lv f es)).hp B M w0∧lq w0.w w0.I μ hp0 w I2 cb (br (A.so f es) (A.lv f es)).hp∧ao P w I2 cb (br (A.so f es) (A.lv f es)).hp v (pG (fk (A.so f es).bR (A.lv f es))):=by
 unfold we at h
 obtain ⟨xs,l1,l2,h1,U⟩:=lk h
 obtain ⟨I,β,S,hA,hE⟩:=hI
 obtain ⟨vals,e1,e2,e3⟩:=aaP S hA.sl h1
 have e4:fn.results.size=xs.length:=by
  obtain ⟨_,_,_,q,_⟩:=E0 S hA.sl h1
  simpa using q
 have fin: ∀(Sx:Shape) (es:List V),kE 0 Sx.bR=true→Sx.bR.length=fn.results.size→jS m Sx (canon m (List.range xs.length) (freeze m (A.tI f) ⟨jB (nC 0 xs),st.hp,st.nb⟩))=some es→
   ∃v I2 cb,(results fn a.tmps).run P w= .ok v w∧aF P w I2 cb (br Sx es).hp B M w0∧lq w0.w w0.I μ hp0 w I2 cb (br Sx es).hp∧ao P w I2 cb (br Sx es).hp v (pG (fk Sx.bR es)):=by
  intro Sx es oW ba uH
  have hA0:jo P A.idle A.aE w I β vals.length ⟨vals.toArray,[]⟩ ⟨jB (nC 0 xs),st.hp,st.nb⟩:=by
   refine ⟨fun k=> ?_,by simp,by simp,hA.aE⟩
   change ao P w I β st.hp _ (jB (nC 0 xs) k)
   unfold jB
   rw[QZ]
   simp only[k0,cO,Nat.sub_zero]
   cases hk:xs[k]? with
   | none=>exact .undef
   | some x=>
    have fq:k<vals.length:=by rw[e2];exact (bz.1 hk).1
    have:=e3 k vals[k] x (bC fq) hk
    have e5:(vals.toArray).getD k undef=vals[k]:=by simp[fq]
    rw[Option.getD_some]
    exact e5▸this
  obtain ⟨I2,k1,k2,k3⟩:=QI (st:=⟨jB (nC 0 xs),st.hp,st.nb⟩) (m:=m) (pur:=A.tI f) S hA0
  have hI2:Inv P A.idle A.aE B M w0 μ hp0 vals.length ⟨vals.toArray,[]⟩ w (freeze m (A.tI f) ⟨jB (nC 0 xs),st.hp,st.nb⟩):=⟨I2,β,k2,k3,hE.trans k1.EF⟩
  obtain ⟨I3,Q2,q1,q2,q3⟩:=(hI2.canon (live:=List.range xs.length) hm jJ).reshape uH hm
  refine ⟨uG vals,I3,Q2,e1,q1,q3,aaQ (by rw[Q1,ba,e4,e2]) fun j v y hj hy=> ?_⟩
  have hv:=q2.sl j
  have cl:=(bz.1 hj).1
  have e5:(vals.toArray).getD j undef=v:=by
   have:=(bz.1 hj).2
   simp[cl,this]
  change ao P w I3 Q2 _ ((vals.toArray).getD j undef) (jB (fk Sx.bR _) j) at hv
  rw[e5] at hv
  unfold jB at hv
  rw[JR oW] at hv
  simp only[k0,cO,Nat.sub_zero] at hv
  rw[Q0] at hy
  rw[hy] at hv
  exact hv
 unfold cJ.so cJ.lv
 cases cm:A.alt f with
 | none=>
  rw[cm] at U
  simp only at U⊢
  split at U
  ·rename_i fu uH
   have:=aO U
   subst this
   exact fin _ _ oW ba uH
  ·cases U
 | some S2=>
  rw[cm] at U
  simp only at U⊢
  split at U
  ·rename_i fu uH
   have:=aO U
   subst this
   exact fin _ _ oW ba uH
  ·split at U
   ·rename_i fu uH
    obtain ⟨hc,h3⟩:=aG U
    simp only[aM,aU] at hc
    have:=aO h3
    subst this
    exact fin _ _ hc.1 hc.2 uH
   ·cases U
theorem aaT (hC:lr P A C) (hP:jn P A) (nR:P.follows .mixedOrders=true):lr P A (qE P A C):=by
 intro f ds es h
 unfold qE at h
 cases hf:P.funcs[A.aV f]? with
 | none=>rw[hf] at h;cases h
 | some fn=>
  rw[hf] at h
  simp only at h
  cases hb:fn.body with
  | none=>rw[hb] at h;cases h
  | some c=>
   rw[hb] at h
   simp only at h
   cases hc:(kE 0 (A.sin f).bR&&(Nat.ble (A.sin f).bR.length fn.ntmps&&((A.sin f).ok&&(kE 0 (A.gI f).bR&&(Nat.beq (A.gI f).bR.length fn.results.size&&qC (oH (A.sin f).bj.length (A.mv f))))))) with
   | false=>rw[hc] at h;cases h
   | true=>
    rw[hc] at h
    simp only[cond_true] at h
    simp only[aM,aU,cV] at hc
    obtain ⟨kM,hnt,_,wX,ba,jm⟩:=hc
    obtain ⟨⟨out,st'⟩,h1,U⟩:=bind_some h
    refine ⟨fn,c,rfl,hb,fun w I μ vals hH hgl hl hv=> ?_⟩
    have aaU:(∀id,out≠ .exit id)∧∃rd,(we P A f fn (A.sin f).bj.length st').run C st'.hp=some (es,rd):=by
     cases out with
     | exit id=>cases U
     | norm=>
      refine ⟨by simp,?_⟩
      simp only[zh] at U
      obtain ⟨⟨x,rd⟩,e1,e2⟩:=U
      simp only at e2
      subst e2
      exact ⟨rd,e1⟩
     | ret=>
      refine ⟨by simp,?_⟩
      simp only[zh] at U
      obtain ⟨⟨x,rd⟩,e1,e2⟩:=U
      simp only at e2
      subst e2
      exact ⟨rd,e1⟩
    obtain ⟨bD,rd,Jo⟩:=aaU
    refine calls_of_wp_defers hf hb ?_
    have hm: ∀id blk,(br (A.sin f) ds).hp id=some blk→id<(A.sin f).bj.length:=by
     intro id blk ab
     simp only[br,mk,ic] at ab
     have:=(bz.1 ab).1
     rwa [EZ] at this
    have jJ: ∀id e es ar,(br (A.sin f) ds).hp id=some (.nest e es ar)→∀k,bE ar k=0:=by
     intro id e es ar ab k
     simp only[br,mk,ic] at ab
     exact aaR ab k
    refine aaN (w0:=⟨w,I⟩) (μ:=μ) (hp0:=(br (A.sin f) ds).hp) (B:=w.heap.size) (M:=oU P w μ (br (A.sin f) ds).hp) hC hP nR hm jJ c h1 ?_ ?_
    ·refine Inv.enter jm ?_ hm jJ fun p hp=>by
      simp only[br,mk,ic]
      rw[List.getElem?_eq_none_iff,EZ]
      exact hp
     refine ⟨I,μ,⟨hH,fun _ _ _=>rfl,b9 _,fun b h=> .inl h,⟨rfl,rfl⟩⟩,⟨fun k=> ?_,?_,by simp,hgl⟩,(Le.refl (P:=P) w I μ _).EF⟩
     ·change ao P w I μ _ _ (jB (fk (A.sin f).bR ds) k)
      unfold jB
      rw[JR kM]
      simp only[k0,cO,Nat.sub_zero]
      cases hk:(fF ((A.sin f).bR.map (·.2)) ds)[k]? with
      | none=>exact .undef
      | some x=>
       have fq:k<vals.length:=by
        have:=(bz.1 hk).1
        rw[JS,aL] at this
        rw[hl];exact this
       have:=hv k vals[k] x (bC fq) hk
       have e1:(vals.toArray++Array.replicate (fn.ntmps-vals.toArray.size) undef).getD k undef=vals[k]:=by
        simp[Array.getElem?_append,fq]
       rw[Option.getD_some]
       exact e1▸this
     ·simp
      omega
    ·intro a' w' hI
     obtain ⟨v,I2,cb,q1,q2,q3,q4⟩:=aaS hm jJ hI wX ba Jo
     obtain ⟨_,_,_,hA,_⟩:=hI
     cases out with
     | exit id=>exact absurd rfl (bD id)
     | norm=>exact JD hP q1 ⟨v,I2,cb,rfl,q2,q3,q4⟩ _ hA.defers
     | ret=>exact JD hP q1 ⟨v,I2,cb,rfl,q2,q3,q4⟩ _ hA.defers
theorem Q3 (hP:jn P A) (nR:P.follows .mixedOrders=true): ∀n,lr P A (lS P A n)
 | 0=>fun _ _ _ h=>by cases h
 | n+1=>aaT (Q3 hP nR n) hP nR
theorem aaV (hP:jn P A) (nR:P.follows .mixedOrders=true):lr P A (Call P A):=by
 intro f ds es h
 have hn: ∃n,lS P A n f ds=some es:=by
  unfold Call at h
  split at h
  ·rename_i hex
   have:=hex.choose_spec.choose_spec
   rw[dh h] at this
   exact ⟨_,this⟩
  ·cases h
 obtain ⟨n,hn⟩:=hn
 exact Q3 hP nR n f ds es hn
end
section
variable {P:Program} {A:cJ} {C:ag} {D:Nat→ag}
def AF (C:ag) (D:Nat→ag):Prop:= ∀f a r,C f a=some r→∃n,∀k,n≤k→D k f a=some r
theorem pW {α:Type} (h:AF C D) {hp:Nat→Option an}: ∀{p:Rd α} {r:α × List Nat},p.run C hp=some r→∃n,∀k,n≤k→p.run (D k) hp=some r
 | .ret a,r,e=>⟨0,fun _ _=>e⟩
 | .fail,r,e=>by cases e
 | .get id q,r,e=>by
  obtain ⟨x,h1,U⟩:=bind_some e
  obtain ⟨n,hn⟩:=pW h h1
  exact ⟨n,fun k hk=>by simp only[Rd.run,hn k hk,Option.bind_some];exact U⟩
 | .opt o q,r,e=>by
  obtain ⟨x,h1,U⟩:=bind_some e
  obtain ⟨n,hn⟩:=pW h U
  exact ⟨n,fun k hk=>by simp only[Rd.run,h1,Option.bind_some];exact hn k hk⟩
 | .live id ok q,r,e=>by
  simp only[Rd.run] at e
  cases hk:ok (gm (hp id)) with
  | false=>rw[hk] at e;cases e
  | true=>
   rw[hk] at e
   obtain ⟨x,h1,U⟩:=bind_some e
   obtain ⟨n,hn⟩:=pW h h1
   exact ⟨n,fun k mS=>by simp only[Rd.run,hk,cond_true,hn k mS,Option.bind_some];exact U⟩
 | .aC b q,r,e=>by
  obtain ⟨h1,U⟩:=aG e
  obtain ⟨n,hn⟩:=pW h U
  exact ⟨n,fun k hk=>by simp only[Rd.run,h1,cond_true];exact hn k hk⟩
 | .call f a q,r,e=>by
  obtain ⟨x,h1,U⟩:=bind_some e
  obtain ⟨n1,kM⟩:=h f a x h1
  obtain ⟨n2,wX⟩:=pW h U
  exact ⟨max n1 n2,fun k hk=>by simp only[Rd.run,kM k (by omega),Option.bind_some];exact wX k (by omega)⟩
 | .alt true x y,r,e=>pW (p:=x) h e
 | .alt false x y,r,e=>pW (p:=y) h e
theorem aaW (h:AF C D) {n i nb:Nat} {ops:Array Oper} {o:Oper} {st:St} {r:St × List Nat × List Nat} (e:g9 P A C n ops i o nb st=some r): ∃N,∀k,N≤k→g9 P A (D k) n ops i o nb st=some r:=by
 unfold g9 at e
 have go:(((fG P A st.sl i (nb+64*i) o).run C st.hp).bind fun r=>some ((⟨iC st.sl o.dst r.1.v,bM st.hp r.1.upd,st.nb⟩:St),qD r.2 r.1.upd,fV st.hp r.1.upd))=some r→
   ∃N,∀k,N≤k→(((fG P A st.sl i (nb+64*i) o).run (D k) st.hp).bind fun r=>some ((⟨iC st.sl o.dst r.1.v,bM st.hp r.1.upd,st.nb⟩:St),qD r.2 r.1.upd,fV st.hp r.1.upd))=some r:=by
  intro e
  obtain ⟨x,h1,U⟩:=bind_some e
  obtain ⟨N,hN⟩:=pW h h1
  exact ⟨N,fun k hk=>by rw[hN k hk];exact U⟩
 unfold g9
 cases hd:sn o n with
 | false=>rw[hd] at e;cases e
 | true=>
  rw[hd] at e
  simp only[cond_true] at e⊢
  cases hg:o.guard with
  | none=>rw[hg] at e;exact go e
  | some gw=>
   obtain ⟨g,want⟩:=gw
   rw[hg] at e
   simp only at e⊢
   cases l9:(ops[g]?).bind (·.dst) with
   | none=>rw[l9] at e;cases e
   | some d=>
    rw[l9] at e
    simp only at e⊢
    cases mR:lN (st.sl d) with
    | none=>rw[mR] at e;cases e
    | some ob=>
    rw[mR] at e
    cases ob with
    | none=>exact ⟨0,fun _ _=>e⟩
    | some b=>
    simp only at e⊢
    cases hb:b==want with
    | true=>rw[hb] at e;exact go e
    | false=>rw[hb] at e;exact ⟨0,fun _ _=>e⟩
theorem Q4 (h:AF C D) {n nb:Nat} {ops:Array Oper}: ∀{l:List (Nat × Oper)} {st:St} {log:Log} {r:St × Log},pH P A C n ops nb l st log=some r→∃N,∀k,N≤k→pH P A (D k) n ops nb l st log=some r
 | [],st,log,r,e=>⟨0,fun _ _=>e⟩
 | (i,o)::l,st,log,r,e=>by
  obtain ⟨x,h1,U⟩:=bind_some e
  obtain ⟨N1,oY⟩:=aaW h h1
  obtain ⟨N2,rj⟩:=Q4 h U
  exact ⟨max N1 N2,fun k hk=>by simp only[pH,oY k (by omega),Option.bind_some];exact rj k (by omega)⟩
theorem Q5 {X R:Type} {step:X→Option (X ⊕ R)} {stepD:Nat→X→Option (X ⊕ R)} (hs: ∀x y,step x=some y→∃N,∀k,N≤k→stepD k x=some y): ∀(n:Nat) (x:X) (r:R),fE step n x=some r→∃N,∀k,N≤k→fE (stepD k) n x=some r
 | 0,x,r,e=>by cases e
 | n+1,x,r,e=>by
  simp only[fE] at e⊢
  obtain ⟨y,h1,U⟩:=bind_some e
  obtain ⟨N1,oY⟩:=hs x y h1
  cases y with
  | inl z=>
   obtain ⟨N2,rj⟩:=Q5 hs n z r U
   exact ⟨max N1 N2,fun k hk=>by rw[oY k (by omega)];exact rj k (by omega)⟩
  | inr q=>exact ⟨N1,fun k hk=>by rw[oY k hk];exact U⟩
theorem aaX (h:AF C D) {f n m:Nat}: ∀(c:Code) {st:St} {r:Out × St},exec P A C f n m c st=some r→∃N,∀k,N≤k→exec P A (D k) f n m c st=some r:=by
 intro c
 induction c with
 | skip=>exact fun e=>⟨0,fun _ _=>e⟩
 | exit id=>exact fun e=>⟨0,fun _ _=>e⟩
 | ret=>exact fun e=>⟨0,fun _ _=>e⟩
 | region id ops draw=>
  intro st r e
  simp only[exec] at e⊢
  obtain ⟨x,h1,U⟩:=bind_some e
  obtain ⟨y,h3,h4⟩:=bind_some h1
  obtain ⟨N,hN⟩:=Q4 h h3
  refine ⟨N,fun k hk=> ?_⟩
  have:zJ P (A.here f id) (D k) n ops draw st=some x:=by
   unfold zJ
   rw[hN k hk]
   exact h4
  rw[this]
  exact U
 | seq x y iZ ja=>
  intro st r e
  simp only[exec] at e⊢
  obtain ⟨⟨o,s1⟩,h1,U⟩:=bind_some e
  obtain ⟨N1,oY⟩:=iZ h1
  cases o with
  | norm=>
   obtain ⟨N2,rj⟩:=ja U
   exact ⟨max N1 N2,fun k hk=>by rw[oY k (by omega)];exact rj k (by omega)⟩
  | exit id=>exact ⟨N1,fun k hk=>by rw[oY k hk];exact U⟩
  | ret=>exact ⟨N1,fun k hk=>by rw[oY k hk];exact U⟩
 | cond c x y iZ ja=>
  intro st r e
  cases c with
  | tmp t=>
   have go: ∀{st:St} {r:Out × St},(match st.sl t with
     | .bool b=>(bif b then exec P A C f n m x st else exec P A C f n m y st).bind fun r=>
      match r.1 with
      | .norm=>some (.norm,canon m (A.join f t) r.2)
      | _=>some r
     | _=>none)=some r→∃N,∀k,N≤k→(match st.sl t with
     | .bool b=>(bif b then exec P A (D k) f n m x st else exec P A (D k) f n m y st).bind fun r=>
      match r.1 with
      | .norm=>some (.norm,canon m (A.join f t) r.2)
      | _=>some r
     | _=>none)=some r:=by
    intro st r e
    cases hs:st.sl t<;>rw[hs] at e<;>simp only at e⊢ <;>first|(cases e;done)|skip
    rename_i b
    obtain ⟨x1,h1,U⟩:=bind_some e
    cases b with
    | true=>
     obtain ⟨N,hN⟩:=iZ h1
     exact ⟨N,fun k hk=>by simp only[cond_true,hN k hk,Option.bind_some];exact U⟩
    | false=>
     obtain ⟨N,hN⟩:=ja h1
     exact ⟨N,fun k hk=>by simp only[cond_false,hN k hk,Option.bind_some];exact U⟩
   simp only[exec] at e⊢
   split at e
   ·rename_i hS
    obtain ⟨N,hN⟩:=go e
    exact ⟨N,fun k hk=>hN k hk⟩
   ·rename_i S hS
    obtain ⟨ds,h1,U⟩:=bind_some e
    obtain ⟨e',h3,h4⟩:=bind_some U
    obtain ⟨r1,h5,h6⟩:=bind_some h3
    obtain ⟨N,hN⟩:=go h5
    refine ⟨N,fun k hk=> ?_⟩
    try rw[hS]
    simp only[h1,Option.bind_some]
    exact (congrArg (fun z:Option (Out × St)=>(z.bind fun r=>ways m 0 S.2 r).bind fun e=>mF 0 S.2 e.1 e.2 fun o st=>some (o,st)) (hN k hk)).trans (by simp only[Option.bind_some,h6];exact h4)
  | const v=>
   cases v with
   | bool b=>
    simp only[exec] at e⊢
    cases b with
    | true=>exact iZ e
    | false=>exact ja e
   | _=>simp only[exec] at e;cases e
  | _=>simp only[exec] at e;cases e
 | block id c ih=>
  intro st r e
  simp only[exec] at e⊢
  obtain ⟨x1,h1,U⟩:=bind_some e
  obtain ⟨N,hN⟩:=ih h1
  exact ⟨N,fun k hk=>by rw[hN k hk];exact U⟩
 | loop c ih=>
  intro st r e
  simp only[exec] at e⊢
  split at e
  ·cases e
  ·rename_i S hS
   obtain ⟨ds,h1,U⟩:=bind_some e
   obtain ⟨e',h3,h4⟩:=bind_some U
   obtain ⟨q,hq⟩:=vR h3
   obtain ⟨N,hN⟩:=Q5 (stepD:=fun k ds=>nB m S.1 S.2 (exec P A (D k) f n m c (br S.1 ds))) (fun x y E1=>by
    unfold nB at E1⊢
    obtain ⟨z,h5,h6⟩:=bind_some E1
    obtain ⟨N,hN⟩:=ih h5
    exact ⟨N,fun k hk=>by rw[hN k hk];exact h6⟩) q ds e' hq
   refine ⟨N,fun k hk=> ?_⟩
   try rw[hS]
   simp only[h1,Option.bind_some]
   rw[zn (hN k hk)]
   exact h4
 | _=>intro st r e;simp only[exec] at e;cases e
theorem JT (h:AF C D) {f:Nat} {ds es:List V} (e:qE P A C f ds=some es): ∃N,∀k,N≤k→qE P A (D k) f ds=some es:=by
 unfold qE at e⊢
 cases hf:P.funcs[A.aV f]? with
 | none=>rw[hf] at e;cases e
 | some fn=>
  rw[hf] at e
  simp only at e⊢
  cases hb:fn.body with
  | none=>rw[hb] at e;cases e
  | some c=>
   rw[hb] at e
   simp only at e⊢
   cases hc:(kE 0 (A.sin f).bR&&(Nat.ble (A.sin f).bR.length fn.ntmps&&((A.sin f).ok&&(kE 0 (A.gI f).bR&&(Nat.beq (A.gI f).bR.length fn.results.size&&qC (oH (A.sin f).bj.length (A.mv f))))))) with
   | false=>rw[hc] at e;cases e
   | true=>
    rw[hc] at e
    simp only[cond_true] at e⊢
    obtain ⟨⟨o,s1⟩,h1,U⟩:=bind_some e
    obtain ⟨N1,oY⟩:=aaX h c h1
    cases o with
    | exit id=>cases U
    | norm=>
     simp only[zh] at U
     obtain ⟨x,e1,e2⟩:=U
     obtain ⟨N2,rj⟩:=pW h e1
     exact ⟨max N1 N2,fun k hk=>by rw[oY k (by omega)];simp only[Option.bind_some,rj k (by omega),Option.map_some,e2]⟩
    | ret=>
     simp only[zh] at U
     obtain ⟨x,e1,e2⟩:=U
     obtain ⟨N2,rj⟩:=pW h e1
     exact ⟨max N1 N2,fun k hk=>by rw[oY k (by omega)];simp only[Option.bind_some,rj k (by omega),Option.map_some,e2]⟩
theorem Q6: ∀n f a r,lS P A n f a=some r→lS P A (n+1) f a=some r
 | 0,f,a,r,h=>by cases h
 | n+1,f,a,r,h=>by
  obtain ⟨N,hN⟩:=JT (C:=lS P A n) (D:=fun _=>lS P A (n+1)) (fun f a r h=>⟨0,fun _ _=>Q6 n f a r h⟩) h
  exact hN N (b9 _)
theorem JU {n k:Nat} (hk:n≤k) {f:Nat} {a r:List V} (h:lS P A n f a=some r):lS P A k f a=some r:=by
 induction hk with
 | refl=>exact h
 | step _ ih=>exact Q6 _ _ _ _ ih
theorem E2 {f:Nat} {a r:List V}:Call P A f a=some r↔∃n,lS P A n f a=some r:=by
 constructor
 ·intro h
  unfold Call at h
  split at h
  ·rename_i hex
   have:=hex.choose_spec.choose_spec
   rw[dh h] at this
   exact ⟨_,this⟩
  ·cases h
 ·rintro ⟨n,hn⟩
  have hex: ∃n r,lS P A n f a=some r:=⟨n,r,hn⟩
  unfold Call
  rw[rV hex]
  have U:=hex.choose_spec.choose_spec
  have h3:=JU (Nat.le_max_left n hex.choose) hn
  have h4:=JU (Nat.le_max_right n hex.choose) U
  rw[h3] at h4
  exact h4.symm
theorem aaY (f:Nat) (a:List V):Call P A f a=qE P A (Call P A) f a:=by
 apply Option.ext
 intro r
 constructor
 ·intro h
  obtain ⟨n,hn⟩:=E2.1 h
  cases n with
  | zero=>cases hn
  | succ n=>
   obtain ⟨N,hN⟩:=JT (C:=lS P A n) (D:=fun _=>Call P A) (fun f a r h=>⟨0,fun _ _=>E2.2 ⟨n,h⟩⟩) hn
   exact hN N (b9 _)
 ·intro h
  obtain ⟨N,hN⟩:=JT (C:=Call P A) (D:=lS P A) (fun f a r h=>by
   obtain ⟨n,hn⟩:=E2.1 h
   exact ⟨n,fun k hk=>JU hk hn⟩) h
  exact E2.2 ⟨N+1,hN N (b9 _)⟩
end
end Go.AM
namespace Go.AM
open Go.ChangeShapes Go.WideShapes Go.RowKit
section
variable (P:Program)
inductive WT:TypeId→V→Prop
 | int {t:TypeId} {k:IntKind} {n:Int}:P.underlying t=some (.int k)→(Lit.int k n).wf=true→WT t (.int k n)
 | bool {t:TypeId} {b:Bool}:P.underlying t=some .bool→WT t (.bool b)
 | str {t:TypeId} {l:List UInt8}:P.underlying t=some .string→l.length≤maxLen→WT t (.str l)
 | list {t e:TypeId} {es:List V}:P.underlying t=some (.slice e)→es.length≤maxLen→
   (∀(i:Nat) x,es[i]? =some x→bL P e=true→∃xs,x= .agg xs∧xs.length=(aX P e).length)→
   (∀(i j:Nat) x t',es[i]? =some x→(aX P e)[j]? =some t'→WT t' (bN P e x j))→WT t (.list e es)
def kp (t:TypeId) (x:V):Prop:=
 (bL P t=true→∃xs,x= .agg xs∧xs.length=(aX P t).length)∧∀(j:Nat) t',(aX P t)[j]? =some t'→WT P t' (bN P t x j)
def qm:List TypeId→List V→Prop
 | [],[]=>True
 | t::ts,x::xs=>kp P t x∧qm ts xs
 | _,_=>False
def hasB (L:List TypeId) (t:TypeId):Bool:=L.any fun u=>Nat.beq u t
def E3 (L:List TypeId):Nat→List Field→Bool
 | _,[]=>true
 | n,f::fs=>hasB L f.type&&(Nat.beq f.offset n&&(Nat.beq (P.cellsOf f.type) (aX P f.type).length&&E3 L (n+P.cellsOf f.type) fs))
def AG:List Nat→List Nat→Bool
 | [],[]=>true
 | a::l,b::m=>Nat.beq a b&&AG l m
 | _,_=>false
def JV (L:List TypeId) (t:TypeId):Bool:=
 Nat.beq (P.cellsOf t) (aX P t).length&&
 match P.underlying t with
 | some (.int _)=>true
 | some .bool=>true
 | some .string=>true
 | some (.slice e)=>hasB L e&&cS P e
 | some (.struct fs)=>E3 P L 0 fs.toList&&AG (flat P t) (fs.toList.flatMap fun f=>aX P f.type)
 | some (.array n e)=>hasB L e&&(Nat.beq (P.cellsOf e) (aX P e).length&&AG (flat P t) (List.replicate n (aX P e)).flatten)
 | _=>false
def AH (L:List TypeId):Bool:=L.all fun t=>JV P L t
end
theorem E4 {L:List TypeId} {t:TypeId} (h:hasB L t=true):t∈L:=by
 obtain ⟨u,hu,U⟩:=oB.1 h
 rw[aU] at U
 exact U▸hu
theorem JW: ∀{l m:List Nat},AG l m=true→l=m
 | [],[],_=>rfl
 | a::l,b::m,h=>by
  simp only[AG,aM,aU] at h
  rw[h.1,JW h.2]
 | [],_::_,h=>by cases h
 | _::_,[],h=>by cases h
section
variable {P:Program} {H:Type} {enc:TypeId × Value→H} {w:World} {base:Nat} {spare:Nat→Bool} {held:Bool} {L:List TypeId}
def nS (w:World):Nat→Prop:=fun b=>b<w.heap.size
def nT (P:Program) (w:World) (ts:List TypeId) (cs:List Value) (xs:List V):Prop:=
 cs.length=ts.length∧xs.length=ts.length∧∀(j:Nat) t',ts[j]? =some t'→∃v y,cs[j]? =some v∧xs[j]? =some y∧Pure P w (nS w) t' v y∧WT P t' y
theorem nT.app {ts v5:List TypeId} {cs iK:List Value} {xs Q7:List V} (h:nT P w ts cs xs) (h':nT P w v5 iK Q7):nT P w (ts++v5) (cs++iK) (xs++Q7):=by
 obtain ⟨a,b,c⟩:=h
 obtain ⟨a',b',c'⟩:=h'
 refine ⟨by simp[a,a'],by simp[b,b'],fun j t' hj=> ?_⟩
 by_cases aN:j<ts.length
 ·rw[iU aN] at hj
  obtain ⟨v,y,e1,e2,e3⟩:=c j t' hj
  exact ⟨v,y,by rw[iU (by omega)];exact e1,by rw[iU (by omega)];exact e2,e3⟩
 ·rw[iW (by omega)] at hj
  obtain ⟨v,y,e1,e2,e3⟩:=c' _ t' hj
  exact ⟨v,y,by rw[iW (by omega),a];exact e1,by rw[iW (by omega),b];exact e2,e3⟩
theorem aaZ {w:World} {a:Addr} {v:Value} (h:w.cell? a=some v):a.spot=none∧a.block<w.heap.size:=by
 unfold World.cell? at h
 split at h
 ·rename_i hh
  split at h
  ·cases h
  ·rename_i hs
   exact ⟨by simpa using hs,(iz.1 hh).1⟩
 all_goals (first|cases h|skip)
theorem Q8 {rd:TypeId→List Value→Option (DataW H × List MemPlace)} (cs:List Value)
  (ih: ∀t cs x,t∈L→rd t cs=some x→∃xs,nT P w (aX P t) cs xs): ∀(fs:List Field) (n:Nat),E3 P L n fs=true→
  (∀f∈fs,∃x,rd f.type ((cs.drop f.offset).take (P.cellsOf f.type))=some x)→∃m xs,n≤m∧nT P w (fs.flatMap fun f=>aX P f.type) ((cs.drop n).take (m-n)) xs∧m-n=(fs.flatMap fun f=>aX P f.type).length
 | [],n,_,_=>⟨n,[],b9 _,⟨by simp,rfl,by simp⟩,by simp⟩
 | f::fs,n,h,hx=>by
  simp only[E3,aM,aU] at h
  obtain ⟨h1,U,h3,h4⟩:=h
  obtain ⟨x,hxf⟩:=hx f (by simp)
  obtain ⟨xs,gN⟩:=ih _ _ _ (E4 h1) hxf
  obtain ⟨m,ys,hm,rk,JI⟩:=Q8 cs ih fs (n+P.cellsOf f.type) h4 fun g hg=>hx g (by simp[hg])
  refine ⟨m,xs++ys,by omega,?_,by simp only[lL,bZ];omega⟩
  have:=gN.app rk
  rw[lL]
  rw[U] at this
  have e:(cs.drop n).take (m-n)=(cs.drop n).take (P.cellsOf f.type)++(cs.drop (n+P.cellsOf f.type)).take (m-(n+P.cellsOf f.type)):=by
   rw[show m-n=P.cellsOf f.type+(m-(n+P.cellsOf f.type)) by omega,List.take_add,qs]
  rw[e]
  exact this
theorem Q9 {rd:List Value→Option (DataW H × List MemPlace)} (cs:List Value) {e:TypeId} (hs:P.cellsOf e=(aX P e).length)
  (ih: ∀cs x,rd cs=some x→∃xs,nT P w (aX P e) cs xs): ∀(n:Nat),
  (∀i,i<n→∃x,rd ((cs.drop (i*P.cellsOf e)).take (P.cellsOf e))=some x)→∃xs,nT P w (List.replicate n (aX P e)).flatten (cs.take (n*P.cellsOf e)) xs
 | 0,_=>⟨[],by simp,rfl,by simp⟩
 | n+1,hx=>by
  obtain ⟨xs,gN⟩:=Q9 cs hs ih n fun i hi=>hx i (by omega)
  obtain ⟨x,Az⟩:=hx n (by omega)
  obtain ⟨ys,rk⟩:=ih _ _ Az
  refine ⟨xs++ys,?_⟩
  rw[List.replicate_succ',List.flatten_append]
  have:=gN.app rk
  rw[dw,Nat.one_mul,List.take_add]
  simpa using this
theorem E5 (hL:AH P L=true): ∀(fuel:Nat) (t:TypeId) (cs:List Value) (x:DataW H × List MemPlace),t∈L→DataW.trod enc P w base spare held fuel t cs=some x→
  ∃xs,nT P w (aX P t) cs xs
 | 0,_,_,_,_,h=>by cases h
 | fuel+1,t,cs,x,ht,h=>by
  have hg:=fC.1 hL t ht
  unfold JV at hg
  rw[aM,aU] at hg
  obtain ⟨hc,hg⟩:=hg
  have one:bL P t=false→aX P t=[t]:=fun h=>by simp[aX,h]
  cases hu:P.underlying t with
  | none=>rw[hu] at hg;cases hg
  | some d=>
   rw[hu] at hg
   cases d with
   | int k=>
    obtain ⟨n,rfl,rfl,AI⟩:=DataW.trod_int hu h
    rw[one (by simp[bL,hu])]
    exact ⟨[.int k n],rfl,rfl,fun j t' hj=>by
     cases j with
     | zero=>cases hj;exact ⟨_,_,rfl,rfl,.int hu,.int hu AI⟩
     | succ j=>simp at hj⟩
   | bool=>
    obtain ⟨b,rfl,rfl⟩:=DataW.trod_bool hu h
    rw[one (by simp[bL,hu])]
    exact ⟨[.bool b],rfl,rfl,fun j t' hj=>by
     cases j with
     | zero=>cases hj;exact ⟨_,_,rfl,rfl,.bool hu,.bool hu⟩
     | succ j=>simp at hj⟩
   | string=>
    obtain ⟨s,rfl,rfl,hl⟩:=DataW.trod_string hu h
    rw[one (by simp[bL,hu])]
    exact ⟨[.str s.data.toList],rfl,rfl,fun j t' hj=>by
     cases j with
     | zero=>cases hj;exact ⟨_,_,rfl,rfl,.str hu rfl,.str hu (by simpa using hl)⟩
     | succ j=>simp at hj⟩
   | slice e=>
    simp only[aM] at hg
    obtain ⟨he,au⟩:=hg
    rw[one (by simp[bL,hu])]
    have single: ∀v y,cs=[v]→Pure P w (nS w) t v y→WT P t y→∃xs,nT P w [t] cs xs:=by
     rintro v y rfl a b
     exact ⟨[y],rfl,rfl,fun j t' hj=>by
      cases j with
      | zero=>cases hj;exact ⟨_,_,rfl,rfl,a,b⟩
      | succ j=>simp at hj⟩
    rcases DataW.trod_slice hu h with ⟨rfl,rfl⟩|⟨a,len,cap,elems,rest,n,hn,rfl,rfl,hb,hl,hm,hlen,cT,_,_⟩
    ·exact single _ _ rfl (.nil hu) (.list hu (by simp) (by simp) (by simp))
    ·cases hn
     have jE:=(kH au).2
     have O7:P.cellsOf e=(aX P e).length:=(fI au).symm
     have key: ∀i,i<len→∃iK xs,w.cells? base (a.add (i*P.cellsOf e)) (P.cellsOf e)=some iK∧nT P w (aX P e) iK xs:=by
      intro i hi
      have h1:=cT i hi
      rw[bC (by omega)] at h1
      obtain ⟨iK,U,h3⟩:=Option.bind_eq_some_iff.1 h1
      obtain ⟨xs,gN⟩:=E5 hL fuel e iK _ (E4 he) h3
      exact ⟨iK,xs,U,gN⟩
     by_cases h0:len=0
     ·subst h0
      exact single _ _ rfl (.emp hu) (.list hu (by simp) (by simp) (by simp))
     ·have ia:a.spot=none∧a.block<w.heap.size:=by
       obtain ⟨iK,xs,U,_⟩:=key 0 (by omega)
       obtain ⟨_,h3,h4⟩:=World.cells?_some U
       have h5:=h4 0 jE
       rw[bC (by omega)] at h5
       have:=aaZ h5
       simpa[Addr.add] using this
      have hF: ∃(F:Nat→List Value) (X:Nat→List V),∀i,i<len→w.cells? base (a.add (i*P.cellsOf e)) (P.cellsOf e)=some (F i)∧nT P w (aX P e) (F i) (X i):=by
       refine ⟨fun i=>if hi:i<len then (key i hi).choose else [],fun i=>if hi:i<len then (key i hi).choose_spec.choose else [],fun i hi=> ?_⟩
       simp only[rV hi]
       exact (key i hi).choose_spec.choose_spec
      obtain ⟨F,X,JX⟩:=hF
      have hx: ∀(i j:Nat) y t',((List.range len).map fun i=>cB P e (X i))[i]? =some y→(aX P e)[j]? =some t'→i<len∧∃v,(F i)[j]? =some v∧Pure P w (nS w) t' v (bN P e y j)∧WT P t' (bN P e y j):=by
       intro i j y t' hy hj
       have hi:i<len:=by
        have:=(bz.1 hy).1
        simpa using this
       refine ⟨hi,?_⟩
       simp[List.getElem?_range hi] at hy
       obtain ⟨c1,c2,c3⟩:=(JX i hi).2
       obtain ⟨v,z,d1,d2,d3,d4⟩:=c3 j t' hj
       have:bN P e y j=z:=by
        rw[←hy]
        unfold bN cB
        cases ha:bL P e with
        | true=>
         simp only[cond_true,V.cell]
         rw[uc _ _ _ d2]
        | false=>
         simp only[cond_false]
         have:aX P e=[e]:=by simp[aX,ha]
         rw[this] at hj
         cases j with
         | zero=>rw[uc _ _ _ d2]
         | succ j=>simp at hj
       rw[this]
       exact ⟨v,d1,d3,d4⟩
      have gp: ∀i j,i<len→j<P.cellsOf e→w.cell? ⟨a.block,a.off+(i*P.cellsOf e+j),none⟩=some ((F i).getD j undef):=by
       intro i j hi hj
       obtain ⟨h1,U⟩:=JX i hi
       obtain ⟨_,h3,h4⟩:=World.cells?_some h1
       have h5:=h4 j hj
       rw[Go.Deep.add_add] at h5
       have e1:a.add (i*P.cellsOf e+j)=⟨a.block,a.off+(i*P.cellsOf e+j),none⟩:=by
        obtain ⟨b,o,s⟩:=a
        simp only at ia
        rw[ia.1]
        exact nG ..
       rw[e1] at h5
       rw[h5,gl,bC (by omega)]
       rfl
      have ha:a=⟨a.block,a.off,none⟩:=by
       obtain ⟨b,o,s⟩:=a
       simp only at ia
       rw[ia.1]
      refine single (.slice (some a) len cap) (.list e ((List.range len).map fun i=>cB P e (X i))) rfl ?_ ?_
      ·rw[ha]
       refine .list (fun i j=>(F i).getD j undef) hu (by simp) hl (fun _=>ia.2) gp ?_
       intro i j y t' hy hj
       obtain ⟨hi,v,d1,d2,_⟩:=hx i j y t' hy hj
       rw[gl,d1]
       exact d2
      ·refine .list hu (by simp;omega) ?_ ?_
       ·intro i y hy E6
        have hi:i<len:=by
         have:=(bz.1 hy).1
         simpa using this
        simp[List.getElem?_range hi] at hy
        rw[←hy]
        exact ⟨X i,by simp[cB,E6],(JX i hi).2.2.1⟩
       ·intro i j y t' hy hj
        obtain ⟨_,v,_,_,d3⟩:=hx i j y t' hy hj
        exact d3
   | struct fs=>
    simp only[aM] at hg
    obtain ⟨xs,n,hn,rfl,hlen,mP,hx⟩:=DataW.trod_struct hu h
    cases hn
    have het:aX P t=fs.toList.flatMap fun f=>aX P f.type:=by
     rw[←JW hg.2]
     simp[aX,bL,hu]
    obtain ⟨m,ys,_,rk,hm⟩:=Q8 (w:=w) (rd:=fun t cs=>DataW.trod enc P w base spare held fuel t cs) cs (fun t cs x a b=>E5 hL fuel t cs x a b) fs.toList 0 hg.1 (by
     intro f hf
     obtain ⟨i,hi⟩:=rZ hf
     rw[r0] at hi
     have qX:i<fs.size:=(iz.1 hi).1
     exact ⟨_,(hx i f hi).trans (bC (by omega))⟩)
    rw[het]
    refine ⟨ys,?_⟩
    have:(cs.drop 0).take (m-0)=cs:=by
     rw[jy,hm,←het,←hc,←hlen,qo]
    rw[this] at rk
    exact rk
   | array n e=>
    simp only[aM,aU] at hg
    obtain ⟨xs,m,hn,rfl,hlen,mP,hx⟩:=DataW.trod_array hu h
    cases hn
    have het:aX P t=(List.replicate n (aX P e)).flatten:=by
     rw[←JW hg.2.2]
     simp[aX,bL,hu]
    obtain ⟨ys,rk⟩:=Q9 (w:=w) (rd:=DataW.trod enc P w base spare held fuel e) cs hg.2.1 (fun cs x b=>E5 hL fuel e cs x (E4 hg.1) b) n (by
     intro i hi
     exact ⟨_,(hx i hi).trans (bC (by omega))⟩)
    rw[het]
    refine ⟨ys,?_⟩
    have:cs.take (n*P.cellsOf e)=cs:=by
     have:n*P.cellsOf e=cs.length:=by
      rw[hlen,hc,het,hg.2.1]
      simp
     rw[this,qo]
    rw[this] at rk
    exact rk
   | _=>cases hg
end
section
variable {P:Program} {H:Type} {enc:TypeId × Value→H} {w:World} {L:List TypeId}
theorem aa0 {base JY:Nat} {spare:Nat→Bool} {held:Bool} {r:Reach} {β:Nat→Option Nat} {hp:Nat→Option an} (hL:AH P L=true) {t:TypeId} {v:Value} {d:DataW H} {ps:List MemPlace} (ht:t∈L) (fb:Value.okWide P w r JY t v)
  (h:DataW.Trod enc P w base spare held t v d ps): ∃x,ao P w (nS w) β hp v x∧kp P t x:=by
 obtain ⟨fuel,hf⟩:=h
 obtain ⟨xs,c1,c2,c3⟩:=E5 hL fuel t _ _ ht hf
 have hg:=fC.1 hL t ht
 unfold JV at hg
 rw[aM,aU] at hg
 obtain ⟨_,hg⟩:=hg
 have E6:bL P t=true→∃x,ao P w (nS w) β hp v x∧kp P t x:=by
  intro ha
  have hv: ∃cs,v= .agg cs:=by
   unfold Value.okWide at fb
   unfold bL at ha
   split at fb
   ·obtain ⟨cs,e,_⟩:=fb;exact ⟨cs,e⟩
   ·obtain ⟨cs,e,_⟩:=fb;exact ⟨cs,e⟩
   ·split at ha<;>simp_all
  obtain ⟨cs,rfl⟩:=hv
  refine ⟨.agg xs,.agg (by simpa[Value.cells] using c1.trans c2.symm) fun j v x hv hx=> ?_,fun _=>⟨xs,rfl,c2⟩,fun j t' hj=> ?_⟩
  ·have hj:j<(aX P t).length:=by rw[←c2];exact (bz.1 hx).1
   obtain ⟨v',y,e1,e2,e3,_⟩:=c3 j _ (bC hj)
   rw[hx] at e2
   cases e2
   have:cs[j]? =some v':=by simpa[Value.cells] using e1
   rw[hv] at this
   cases this
   exact .qG e3
  ·obtain ⟨v',y,e1,e2,_,e4⟩:=c3 j t' hj
   have:bN P t (.agg xs) j=y:=by
    simp only[bN,ha,cond_true,V.cell]
    exact uc _ _ _ e2
   rw[this]
   exact e4
 have qU:bL P t=false→v.cells= #[v]→∃x,ao P w (nS w) β hp v x∧kp P t x:=by
  intro ha ui
  have he:aX P t=[t]:=by simp[aX,ha]
  rw[he] at c1 c2 c3
  obtain ⟨v',y,e1,e2,e3,e4⟩:=c3 0 t rfl
  rw[ui] at e1
  cases e1
  refine ⟨y,.qG e3,⟨fun h=>absurd (ha.symm.trans h) (by simp),fun j t' hj=> ?_⟩⟩
  rw[he] at hj
  cases j with
  | succ j=>simp at hj
  | zero=>
   cases hj
   simpa[bN,ha] using e4
 unfold Value.okWide at fb
 cases hu:P.underlying t with
 | none=>rw[hu] at hg;cases hg
 | some dsc=>
  rw[hu] at hg fb
  cases dsc with
  | int k=>
   refine qU (by simp[bL,hu]) ?_
   simp only[Cell.okWide,Cell.ok,hu] at fb
   cases v<;>first|rfl|(simp at fb;done)|exact fb.elim
  | bool=>
   refine qU (by simp[bL,hu]) ?_
   simp only[Cell.okWide,Cell.ok,hu] at fb
   cases v<;>first|rfl|(simp at fb;done)|exact fb.elim
  | string=>
   refine qU (by simp[bL,hu]) ?_
   simp only[Cell.okWide,Cell.ok,hu] at fb
   cases v<;>first|rfl|(simp at fb;done)|exact fb.elim
  | slice e=>
   refine qU (by simp[bL,hu]) ?_
   simp only[Cell.okWide,Cell.ok,hu] at fb
   cases v<;>first|rfl|(simp at fb;done)|exact fb.elim
  | struct fs=>exact E6 (by simp[bL,hu])
  | array n e=>exact E6 (by simp[bL,hu])
  | _=>cases hg
theorem Ra {base JY:Nat} {spare:Nat→Bool} {held:Bool} {r:Reach} {β:Nat→Option Nat} {hp:Nat→Option an} (hL:AH P L=true): ∀{ts:List TypeId} {vs:List Value} {ds:List (DataW H)} {ps:List MemPlace},
  (∀t∈ts,t∈L)→(∀(j:Nat) t v,ts[j]? =some t→vs[j]? =some v→Value.okWide P w r JY t v)→DataW.TrodAll enc P w base spare held ts vs ds ps→
  ∃xs,vs.length=xs.length∧(∀(j:Nat) v x,vs[j]? =some v→xs[j]? =some x→ao P w (nS w) β hp v x)∧qm P ts xs
 | [],vs,ds,ps,_,_,h=>by
  obtain ⟨rfl,rfl,rfl⟩:=trodAll_nil h
  exact ⟨[],rfl,by simp,trivial⟩
 | t::ts,vs,ds,ps,hm,fb,h=>by
  obtain ⟨v,DP,d,Rb,a,b,rfl,rfl,rfl,h1,U⟩:=trodAll_cons h
  obtain ⟨x,Az,pM⟩:=aa0 (β:=β) (hp:=hp) hL (hm t (by simp)) (fb 0 t v rfl rfl) h1
  obtain ⟨xs,hl,hr,hw⟩:=Ra (β:=β) (hp:=hp) hL (fun t ht=>hm t (by simp[ht])) (fun j t v a b=>fb (j+1) t v (by simpa using a) (by simpa using b)) U
  refine ⟨x::xs,by simp[hl],fun j v' x' hv hx=> ?_,pM,hw⟩
  cases j with
  | zero=>cases hv;cases hx;exact Az
  | succ j=>exact hr j v' x' (by simpa using hv) (by simpa using hx)
theorem Rc {base:Nat} {spare:Nat→Bool} {held:Bool}: ∀{ts:List TypeId} {vs:List Value} {ds:List (DataW H)} {ps:List MemPlace},DataW.TrodAll enc P w base spare held ts vs ds ps→ds.length=ts.length
 | [],vs,ds,ps,h=>by obtain ⟨rfl,rfl,rfl⟩:=trodAll_nil h;rfl
 | t::ts,vs,ds,ps,h=>by
  obtain ⟨v,DP,d,Rb,a,b,rfl,rfl,rfl,h1,U⟩:=trodAll_cons h
  simp[Rc U]
theorem Re {base:Nat} (hl:laidOutB P=true) {W W':World} {Rf:Nat→Bool}: ∀{ts:List TypeId} {vs:List Value} {ds:List (DataW H)} {ps:List MemPlace},(∀t∈ts,P.readableRec t=true∧t<P.types.size)→
  DataW.TrodAll enc P W base (fun _=>true) true ts vs ds ps→(∀p∈ps,W.sameAt W' p)→(∀p∈ps,Rf p.block=true)→DataW.TrodAll enc P W' base Rf true ts vs ds ps
 | [],vs,ds,ps,_,h,_,_=>by obtain ⟨rfl,rfl,rfl⟩:=trodAll_nil h;exact trodAll_mk0
 | t::ts,vs,ds,ps,hr,h,h1,U=>by
  obtain ⟨v,DP,d,Rb,a,b,rfl,rfl,rfl,h3,h4⟩:=trodAll_cons h
  obtain ⟨r1,r2⟩:=hr t (by simp)
  exact trodAll_cons_mk (WideElems.Trod_stays hl r1 r2 h3 (fun p hp=>h1 p (by simp[hp])) (fun p hp=>U p (by simp[hp])))
   (Re hl (fun t ht=>hr t (by simp[ht])) h4 (fun p hp=>h1 p (by simp[hp])) (fun p hp=>U p (by simp[hp])))
theorem aa1 {f:Func} {s:ChangeSpec} {apart fresh handsOn again:Bool} {W W':World} {args:Array Value} {v:Value} {ds gs:List (DataW H)} {before pa pv:List MemPlace}
  (hW:DataW.Whole enc P f.params.toList s.vars apart W args.toList ds gs before)
  (Rg: ∀(b:Nat) (sp:Nat→Bool) (hd:Bool),DataW.TrodAll enc P W' b sp hd f.resultTypes.toList (v.resultList f.resultTypes.size) (s.fn H (ds++gs)).results [])
  (uB: ∀sp:Nat→Bool,(∀p∈before,sp p.block=true)→DataW.TrodAll enc P W' 0 sp true f.params.toList args.toList (s.fn H (ds++gs)).args pa)
  (Rh: ∀sp:Nat→Bool,(∀p∈before,sp p.block=true)→DataW.TrodVars enc P W' sp s.vars (s.fn H (ds++gs)).vars pv)
  (E7:before=pa++pv) (hk:W.keptBut W' (· ∈before)) (JZ: ∀a:Addr,a.block<W.heap.size→W'.frozen? a=W.frozen? a)
  (au: ∀(j:Nat) (t:TypeId) (r:Value),f.resultTypes[j]? =some t→(v.resultList f.resultTypes.size)[j]? =some r→Value.okWide P W' .any 0 t r):
  s.post enc P f apart fresh handsOn again W args v W':=by
 have hold: ∀p∈before,(fun b=>decide (b<W.heap.size)) p.block=true:=fun p hp=>by simpa using hW.lt p hp
 refine ⟨ds,gs,before,[],pa,pv,hW,Rg _ _ _,uB _ hold,Rh _ hold,World.keptBut_mono (fun p hp=>⟨hp,?_⟩) hk,fun _=> ?_⟩
 ·rw[E7,eQ] at hp
  exact Or.inr hp
 ·have aN:=hW.lt
  obtain ⟨_,_,_,_,_,hz,hn⟩:=hW
  refine ⟨au,_,_,([]++pa)++pv,⟨[]++pa,pv,trodAll_append (uB _ (fun _ _=>rfl)) (Rg _ _ _),Rh _ (fun _ _=>rfl),rfl,?_,?_⟩,?_⟩
  ·intro b off hp
   have hb:MemPlace.cell b off∈before:=by rw[E7];simpa using hp
   rw[JZ ⟨b,off,none⟩ (aN _ hb)]
   exact hz b off hb
  ·intro ha
   have:=hn ha
   rw[E7] at this
   simpa using this
  ·intro p hp _
   rw[E7]
   simpa using hp
theorem aa2 {A:cJ} (hP:jn P A) (nR:P.follows .mixedOrders=true) {f key:Nat} {fn:Func} {tb:TypeId} {s:ChangeSpec} {apart fresh handsOn again:Bool}
  (hf:P.funcs[f]? =some fn) (J0:A.aV key=f) (hL:AH P L=true) (bU:fn.params.toList.all (fun t=>hasB L t)=true) (E8:fn.resultTypes= #[tb]) (E9:P.underlying tb=some .bool) (Fb:s.vars=[])
  (hs: ∀ds:List (DataW H),ds.length=fn.params.toList.length→s.fn H ds={results:=[.lit (.bool true)],args:=ds})
  (J1:laidOutB P=true) (J2:fn.params.toList.all (fun t=>P.readableRec t&&Nat.blt t P.types.size)=true)
  (lX:(A.sin key).bj=[]) (au:((A.sin key).bR.map (·.2)).all (VS.ok 0)=true) (J3:(A.gI key).bR=[(0,.one .bool)]) (halt:A.alt key=none)
  {W:World} {base:Nat} {args:Array Value} {ds gs:List (DataW H)} {before:List MemPlace}
  (J4:gF P A.aE W (nS W)) (fb: ∀(j:Nat) t v,fn.params[j]? =some t→args[j]? =some v→Value.okWide P W .any base t v)
  (hW:DataW.Whole enc P fn.params.toList s.vars apart W args.toList ds gs before) (Q:List V→Prop)
  (hQ: ∀xs:List V,qm P fn.params.toList xs→(∀(j:Nat) v x,args.toList[j]? =some v→xs[j]? =some x→ao P W (nS W) (fun _=>none) (fun _=>none) v x)→Q xs)
  (J5: ∀xs,qm P fn.params.toList xs→Q xs→∃ds,qn ((A.sin key).bR.map (·.2)) xs=some ds∧Call P A key ds=some [.bool true]):
  Calls P f args W fun e W'=> ∃v,e= .returned v∧s.post enc P fn apart fresh handsOn again W args v W':=by
 have Ri:=hW
 obtain ⟨p,q,hA,hV,rfl,JZ,jm⟩:=hW
 rw[Fb] at hV
 obtain ⟨hgs,hq⟩:gs=[]∧q=[]:=by
  cases gs with
  | nil=>exact ⟨rfl,hV⟩
  | cons g gs=>exact hV.elim
 subst hgs
 subst hq
 obtain ⟨xs,hl,hr,Rj⟩:=Ra (β:=fun _=>none) (hp:=fun _=>none) hL (fun t ht=>E4 (fC.1 bU t ht)) (fun j t v a b=>fb j t v (by simpa using a) (by simpa using b)) hA
 obtain ⟨ls,hls,Aw⟩:=J5 xs Rj (hQ xs Rj hr)
 obtain ⟨fn',c,h1,U,h3⟩:=aaV (A:=A) hP nR key ls [.bool true] Aw
 rw[J0] at h1 h3
 rw[hf] at h1
 cases h1
 have w5: ∀j,(br (A.sin key) ls).hp j=none:=fun j=>by simp[br,mk,lX,eS,jR]
 obtain ⟨_,r1,r2⟩:=Al (P:=P) (w:=W) (I:=nS W) (n:=0) (β:=fun _=>none) (β':=fun _=>none) (hp:=fun _=>none) (hp':=(br (A.sin key) ls).hp) (fun j hj=>absurd hj (Nat.not_lt_zero j)) hls au
 have hlen:((A.sin key).bR.map (·.2)).length=xs.length:=by rw[←r1 [],JS]
 have h4:=h3 W (nS W) (fun _=>none) args.toList ⟨fun id blk h=>(by rw[w5] at h;cases h),fun id aD blk blk' b h=>(by rw[w5] at h;cases h),fun id blk b h=>(by rw[w5] at h;cases h),fun b h=>h⟩ J4
  (by rw[hl,←hlen,aL]) (fun j v y hv hy=>r2 [] j v y (fun x hx=>hr j v x hv hx) (by rw[cR];exact hy))
 have ea:args.toList.toArray=args:=by simp
 rw[ea] at h4
 refine h4.mono fun e W' ⟨v,I2,cb,he,ha⟩=>⟨v,he,?_⟩
 have uf: ∀b,b<W.heap.size→W'.heap[b]? =W.heap[b]? :=fun b hb=>ha.wR.cj b hb (by rintro ⟨j,blk,hj,_⟩;rw[w5] at hj;cases hj)
 have I8:=ha.res
 have Rk:A.so key [.bool true]=A.gI key∧A.lv key [.bool true]=[.bool true]:=by unfold cJ.so cJ.lv;rw[halt];exact ⟨rfl,rfl⟩
 rw[Rk.1,Rk.2,J3] at I8
 obtain rfl:v= .bool true:=I8.kI
 have lZ:Value.okWide P W' .any 0 tb (.bool true):=by simp[Value.okWide,E9,Cell.okWide,Cell.ok]
 have lH:ds.length=fn.params.toList.length:=Rc hA
 have jl: ∀p'∈p++[],W.sameAt W' p':=by
  intro p' hp'
  have aN:=Ri.lt p' hp'
  cases p' with
  | cell b o=>exact World.cell?_of_block (w:=W) (uf b aN)
  | map b=>exact uf b aN
 refine aa1 (pa:=p) (pv:=[]) Ri ?_ ?_ ?_ rfl ?_ ?_ ?_
 ·intro b sp hd
  rw[cR,hs ds lH,E8]
  exact trodAll_mk1 ⟨1,by simp[DataW.trod,Value.cells,E9]⟩
 ·intro sp ia
  rw[cR,hs ds lH]
  refine Re J1 (fun t ht=> ?_) hA (fun p' hp'=>jl p' (by simpa using hp')) (fun p' hp'=>ia p' (by simpa using hp'))
  have:=fC.1 J2 t ht
  simp only[aM] at this
  exact ⟨this.1,by simpa[ku] using this.2⟩
 ·intro sp ia
  rw[Fb,cR,hs ds lH]
  exact rfl
 ·refine ⟨ha.wR.io.1,ha.wR.io.2,fun i hi=> ?_⟩
  rw[uf i hi]
  split<;>simp_all
 ·intro a aN
  exact World.frozen?_of_block (w:=W) (uf a.block aN)
 ·intro j t r hj J6
  rw[E8] at hj J6
  cases j with
  | zero=>
   simp[Value.resultList] at hj J6
   subst hj
   subst J6
   exact lZ
  | succ j=>simp at hj
theorem XR {A:cJ} (hP:jn P A) (nR:P.follows .mixedOrders=true) {f key:Nat} {fn:Func} {tb:TypeId} {s:ChangeSpec} {apart fresh handsOn again:Bool}
  (hf:P.funcs[f]? =some fn) (J0:A.aV key=f) (hL:AH P L=true) (bU:fn.params.toList.all (fun t=>hasB L t)=true) (E8:fn.resultTypes= #[tb]) (E9:P.underlying tb=some .bool) (Fb:s.vars=[])
  (hs: ∀ds:List (DataW H),ds.length=fn.params.toList.length→s.fn H ds={results:=[.lit (.bool true)],args:=ds})
  (J1:laidOutB P=true) (J2:fn.params.toList.all (fun t=>P.readableRec t&&Nat.blt t P.types.size)=true)
  (lX:(A.sin key).bj=[]) (au:((A.sin key).bR.map (·.2)).all (VS.ok 0)=true) (J3:(A.gI key).bR=[(0,.one .bool)]) (halt:A.alt key=none)
  (J5: ∀xs,qm P fn.params.toList xs→∃ds,qn ((A.sin key).bR.map (·.2)) xs=some ds∧Call P A key ds=some [.bool true])
  {W:World} {base:Nat} {args:Array Value} {ds gs:List (DataW H)} {before:List MemPlace}
  (J4:gF P A.aE W (nS W)) (fb: ∀(j:Nat) t v,fn.params[j]? =some t→args[j]? =some v→Value.okWide P W .any base t v)
  (hW:DataW.Whole enc P fn.params.toList s.vars apart W args.toList ds gs before):
  Calls P f args W fun e W'=> ∃v,e= .returned v∧s.post enc P fn apart fresh handsOn again W args v W':=
 aa2 hP nR hf J0 hL bU E8 E9 Fb hs J1 J2 lX au J3 halt J4 fb hW (fun _=>True) (fun _ _ _=>trivial) fun xs h _=>J5 xs h
end
end Go.AM
namespace Go.AM
@[simp] theorem V.toInt_int (k:IntKind) (n:Int):V.toInt (.int k n)=n:=by cases k<;>rfl
@[simp] theorem V.ee (b:Bool):V.toBool (.bool b)=b:=by cases b<;>rfl
@[simp] theorem V.Fc (s:List UInt8):V.toStr (.str s)=s:=by cases s<;>rfl
@[simp] theorem V.kO (e:TypeId) (es:List V):V.toList (.list e es)=es:=by cases es<;>rfl
@[simp] theorem V.akr (e:TypeId) (es:List V):V.toList (.own e es)=es:=by cases es<;>rfl
@[simp] theorem V.aa3 (cs:List V) (j:Nat):V.cell (.agg cs) j=V.nth cs j:=by cases cs<;>rfl
@[simp] theorem V.aks (cs:List V) (j:Nat):V.comp (.bm cs) j=V.nth cs j:=by cases cs<;>rfl
@[simp] theorem V.aT (x:V) (l:List V):V.nth (x::l) 0=x:=by cases l<;>rfl
@[simp] theorem V.rm (x:V) (l:List V) (n:Nat):V.nth (x::l) (n+1)=V.nth l n:=by cases l<;>rfl
@[simp] theorem V.akt (x y:V) (l:List V):V.nth (x::y::l) 1=y:=by cases l<;>rfl
@[simp] theorem V.aku (x y z:V) (l:List V):V.nth (x::y::z::l) 2=z:=by cases l<;>rfl
@[simp] theorem V.akv (x y z u:V) (l:List V):V.nth (x::y::z::u::l) 3=u:=by cases l<;>rfl
theorem wrap64 {x:Int} (h1: -9223372036854775808≤x) (U:x<9223372036854775808):IntKind.wrap .i64 x=x:=by
 rw[IntKind.wrap_i64];omega
theorem Fe {x:Int} (h1:0≤x) (U:x<256):IntKind.wrap .u8 x=x:=by
 rw[IntKind.wrap_u8];omega
theorem aa4 {es:List V} {i:Int} {n:Nat} (h:i=n):idx es i=es[n]? :=by
 subst h;simp[idx]
@[simp] theorem J7 (es:List V) (n:Nat):idx es (n:Int)=es[n]? :=by simp[idx]
section
variable {X R:Type} {step:X→Option (X ⊕ R)}
theorem aa5 (s:Nat→X) (n:Nat) {r:R} (h: ∀i,i<n→step (s i)=some (.inl (s (i+1)))) (he:step (s n)=some (.inr r)):Loop step (s 0)=some r:=by
 induction n generalizing s with
 | zero=>exact aS he
 | succ n ih=>
  rw[bJ (h 0 (by omega))]
  exact ih (fun i=>s (i+1)) (fun i hi=>h (i+1) (by omega)) he
end
@[simp] theorem az {α:Type} (p:Prop) [Decidable p] (a b:α):(bif decide p then a else b)=if p then a else b:=by by_cases h:p<;>simp[h]
@[simp] theorem df {α:Type} (m n:Int) (a b:α):(bif m==n then a else b)=if m=n then a else b:=by
 by_cases h:m=n
 ·simp[h]
 ·have:(m==n)=false:=by simp[h]
  rw[this,ai h];rfl
@[simp] theorem sM {α:Type} (m n:Int) (a b:α):(bif m != n then a else b)=if m=n then b else a:=by
 by_cases h:m=n
 ·simp[h]
 ·have:(m != n)=true:=by simp[h]
  rw[this,ai h];rfl
@[simp] theorem ig {α:Type} (c:Bool) (a b:α):(bif !c then a else b)=bif c then b else a:=by cases c<;>rfl
@[simp] theorem AJ {α:Type} (m n:Nat) (a b:α):(bif Nat.ble m n then a else b)=if m≤n then a else b:=by
 cases hb:Nat.ble m n with
 | true=>rw[aj (Nat.le_of_ble_eq_true hb)];rfl
 | false=>
  rw[ai fun h=> ?_]
  ·rfl
  ·rw[Nat.ble_eq_true_of_le h] at hb;cases hb
@[simp] theorem cY {α:Type} (c d:Bool) (a b:α):(bif c&&d then a else b)=bif c then (bif d then a else b) else b:=by cases c<;>rfl
section
variable {P:Program}
def Rl (P : Program) : Bool := P.funcs.all fun fn => !(fn.name == "runtime.NumGoroutine")
theorem XL (h:Rl P=true):y8 P:=by
 intro f fn hf
 unfold Rl at h
 have:=(Array.all_eq_true_iff_forall_mem.1 h) fn (Array.mem_of_getElem? hf)
 simpa using this
theorem N0 {t:TypeId} {ts:List TypeId} {xs:List V} (h:qm P (t::ts) xs): ∃x ys,xs=x::ys∧kp P t x∧qm P ts ys:=by
 cases xs with
 | nil=>exact h.elim
 | cons x ys=>exact ⟨x,ys,rfl,h.1,h.2⟩
theorem XN {xs:List V} (h:qm P [] xs):xs=[]:=by
 cases xs with
 | nil=>rfl
 | cons x ys=>exact h.elim
theorem kp.one {t:TypeId} {x:V} (ha:bL P t=false) (h:kp P t x):WT P t x:=by
 have he:aX P t=[t]:=by simp[aX,ha]
 have:=h.2 0 t (by rw[he];rfl)
 simpa[bN,ha] using this
theorem WT.dU {t:TypeId} {k:IntKind} {x:V} (hu:P.underlying t=some (.int k)) (h:WT P t x): ∃n,x= .int k n∧k.min≤n∧n≤k.max:=by
 cases h with
 | int h1 U=>
  rw[hu] at h1
  cases h1
  simp only[Lit.wf,aM,eg] at U
  exact ⟨_,rfl,U⟩
 | bool h1=>rw[hu] at h1;cases h1
 | str h1=>rw[hu] at h1;cases h1
 | list h1=>rw[hu] at h1;cases h1
theorem WT.kI {t:TypeId} {x:V} (hu:P.underlying t=some .bool) (h:WT P t x): ∃b,x= .bool b:=by
 cases h with
 | int h1=>rw[hu] at h1;cases h1
 | bool h1=>exact ⟨_,rfl⟩
 | str h1=>rw[hu] at h1;cases h1
 | list h1=>rw[hu] at h1;cases h1
theorem WT.mI {t:TypeId} {x:V} (hu:P.underlying t=some .string) (h:WT P t x): ∃s,x= .str s∧s.length≤maxLen:=by
 cases h with
 | int h1=>rw[hu] at h1;cases h1
 | bool h1=>rw[hu] at h1;cases h1
 | str h1 U=>exact ⟨_,rfl,U⟩
 | list h1=>rw[hu] at h1;cases h1
theorem WT.aa6 {t e:TypeId} {x:V} (hu:P.underlying t=some (.slice e)) (h:WT P t x): ∃es,x= .list e es∧es.length≤maxLen∧∀y∈es,kp P e y:=by
 cases h with
 | int h1=>rw[hu] at h1;cases h1
 | bool h1=>rw[hu] at h1;cases h1
 | str h1=>rw[hu] at h1;cases h1
 | list h1 U h3 h4=>
  rw[hu] at h1
  cases h1
  refine ⟨_,rfl,U,fun y hy=> ?_⟩
  obtain ⟨i,hi⟩:=rZ hy
  exact ⟨h3 i y hi,fun j t' hj=>h4 i j y t' hi hj⟩
theorem kp.ll {t:TypeId} {x:V} (ha:bL P t=true) (h:kp P t x): ∃xs,x= .agg xs∧xs.length=(aX P t).length∧∀(j:Nat) t' y,(aX P t)[j]? =some t'→xs[j]? =some y→WT P t' y:=by
 obtain ⟨xs,rfl,hl⟩:=h.1 ha
 refine ⟨xs,rfl,hl,fun j t' y hj hy=> ?_⟩
 have:=h.2 j t' hj
 simp only[bN,ha,cond_true,V.aa3] at this
 rw[uc _ _ _ hy] at this
 exact this
theorem Rm {α:Type} {f:α→V} {p:α→Prop}: ∀{es:List V},(∀y∈es,∃a,y=f a∧p a)→∃l:List α,es=l.map f∧∀a∈l,p a
 | [],_=>⟨[],rfl,by simp⟩
 | y::es,h=>by
  obtain ⟨a,rfl,ha⟩:=h y (by simp)
  obtain ⟨l,rfl,hl⟩:=Rm (f:=f) (p:=p) (es:=es) fun z hz=>h z (by simp[hz])
  exact ⟨a::l,rfl,by
   intro b hb
   rcases dx.1 hb with rfl|hb
   ·exact ha
   ·exact hl b hb⟩
theorem kp.int {t:TypeId} {x:V} (hu:P.underlying t=some (.int .i64)) (h:kp P t x): ∃n,x= .int .i64 n∧IntKind.min .i64≤n∧n≤IntKind.max .i64:=
 (h.one (by simp[bL,hu])).dU hu
theorem kp.str {t:TypeId} {x:V} (hu:P.underlying t=some .string) (h:kp P t x): ∃s,x= .str s∧s.length≤maxLen:=
 (h.one (by simp[bL,hu])).mI hu
end
def un.{u} {A B:Type} {γ:Sort u} (f:A→B→γ) (p:A × B):γ:=f p.1 p.2
def bV {A B γ:Type} (f:A→γ) (g:B→γ):A ⊕ B→γ
 | .inl a=>f a
 | .inr b=>g b
def av:List Nat→Code→Code
 | [],c=>c
 | 0::p,.seq a _=>av p a
 | _::p,.seq _ b=>av p b
 | 0::p,.cond _ a _=>av p a
 | _::p,.cond _ _ b=>av p b
 | _::p,.block _ c=>av p c
 | _::p,.loop c=>av p c
 | _,c=>c
inductive cq where
 | loop (c:Code)
 | cond (t:Nat) (x y:Code)
section
variable (P:Program) (A:cJ) (C:ag) (L:ct) (f n m:Nat)
def pX:Code→List cq
 | .seq a b=>pX a++pX b
 | .cond (.tmp t) x y=>
  match A.iA f (t*16+15) with
  | none=>pX x++pX y
  | some _=>[.cond t x y]
 | .cond (.const _) x y=>pX x++pX y
 | .block _ c=>pX c
 | .loop c=>[.loop c]
 | _=>[]
def cr:cq→Prop
 | .loop c=>
  match A.iA f (keyOf c+1) with
  | none=>True
  | some S=> ∀(β:Type) ds (k:Nat→List V→Option β),L β (keyOf c+1) ds k=(Loop (stepG P A C f n m S c) ds).bind fun r=>k r.1 r.2
 | .cond t x y=>
  match A.iA f (t*16+15) with
  | none=>True
  | some S=> ∀(β:Type) ds (k:Nat→List V→Option β),L β (t*16+15) ds k=(zK P A C f n m t S x y ds).bind fun r=>k r.1 r.2
def nU:List cq→Prop
 | []=>True
 | b::l=>cr P A C L f n m b∧nU l
variable {P A C L f n m}
theorem nU.left {a b:List cq}:nU P A C L f n m (a++b)→nU P A C L f n m a:=by
 induction a with
 | nil=>exact fun _=>trivial
 | cons x a ih=>exact fun h=>⟨h.1,ih h.2⟩
theorem nU.right {a b:List cq}:nU P A C L f n m (a++b)→nU P A C L f n m b:=by
 induction a with
 | nil=>exact fun h=>h
 | cons x a ih=>exact fun h=>ih h.2
theorem aZ: ∀{c:Code} {bs:List cq},pX A f c=bs→nU P A C L f n m bs→iG P A C L f n m c:=by
 intro c
 induction c with
 | seq a b Ih Ii=>
  intro bs h hb
  subst h
  exact ⟨Ih rfl hb.left,Ii rfl hb.right⟩
 | cond c x y iZ ja=>
  intro bs h hb
  subst h
  cases c with
  | tmp t=>
   simp only[pX] at hb
   simp only[iG]
   cases hs:A.iA f (t*16+15) with
   | none=>
    rw[hs] at hb
    exact ⟨iZ rfl hb.left,ja rfl hb.right⟩
   | some S=>
    rw[hs] at hb
    have:=hb.1
    simp only[cr,hs] at this
    exact this
  | const v=>exact ⟨iZ rfl hb.left,ja rfl hb.right⟩
  | _=>trivial
 | block id c ih=>
  intro bs h hb
  subst h
  exact ih rfl hb
 | loop c ih=>
  intro bs h hb
  subst h
  exact hb.1
 | _=>intro bs h hb;trivial
variable (P A C L f n m) in
noncomputable def J8 {β:Type} (t:Nat) (S:Shape × List (Out × Shape)) (x y:Code) (ds:List V) (k:Nat→List V→Option β):Option β:=
 let kc:Out→St→Option β:=fun o st=>
  match o with
  | .norm=>(ways m 0 S.2 (.norm,canon m (A.join f t) st)).bind fun e=>k e.1 e.2
  | o=>(ways m 0 S.2 (o,st)).bind fun e=>k e.1 e.2
 match (br S.1 ds).sl t with
 | .bool b=>bif b then iF P A C L f n m x (br S.1 ds) kc else iF P A C L f n m y (br S.1 ds) kc
 | _=>none
theorem aa7 {t:Nat} {x y:Code} {S:Shape × List (Out × Shape)} (hS:A.iA f (t*16+15)=some S) (hx:iG P A C L f n m x) (hy:iG P A C L f n m y) {I R:Type} (enc:I→List V) (mU:I→R→Nat × List V)
  (de:List V→I) (body:I→(β:Type)→(R→Option β)→Option β) (uI: ∀ds,br S.1 (enc (de ds))=br S.1 ds)
  (e1: ∀i (β:Type) (k:Nat→List V→Option β),J8 P A C L f n m t S x y (enc i) k=body i β (fun r=>k (mU i r).1 (mU i r).2))
  (hl: ∀(β:Type) ds (k:Nat→List V→Option β),L β (t*16+15) ds k=body (de ds) β (fun r=>k (mU (de ds) r).1 (mU (de ds) r).2)):
  cr P A C L f n m (.cond t x y):=by
 simp only[cr,hS]
 intro β ds k
 rw[hl,←e1]
 unfold J8 zK
 rw[uI]
 simp only
 have hk: ∀(z:Option (Out × St)),(z.bind fun r=>(match r.1 with
   | .norm=>(ways m 0 S.2 (.norm,canon m (A.join f t) r.2)).bind fun e=>k e.1 e.2
   | o=>(ways m 0 S.2 (o,r.2)).bind fun e=>k e.1 e.2))=((z.bind fun r=>
   match r.1 with
   | .norm=>some (Out.norm,canon m (A.join f t) r.2)
   | _=>some r).bind fun r=>ways m 0 S.2 r).bind fun r=>k r.1 r.2:=by
  intro z
  cases z with
  | none=>rfl
  | some r=>obtain ⟨o,st⟩:=r;cases o<;>rfl
 cases (br S.1 ds).sl t with
 | bool b=>
  cases b with
  | true=>simp only[cond_true,DN P A C f n m x hx];exact hk _
  | false=>simp only[cond_false,DN P A C f n m y hy];exact hk _
 | _=>rfl
theorem bu {b:cq} {l:List cq} (h:cr P A C L f n m b) (U:nU P A C L f n m l):nU P A C L f n m (b::l):=⟨h,U⟩
theorem aw:nU P A C L f n m []:=trivial
theorem bh {key:Nat} {bs:List cq} (hb:pX A key (cF P (A.aV key))=bs) (ht:nU P A (Call P A) L key (cK P (A.aV key)) (A.sin key).bj.length bs) {ds:List V} {r:Option (List V)}
  (h:Ij P A (Call P A) L key ds=r):Call P A key ds=r:=by
 rw[aaY,XX P A (Call P A) key (aZ hb ht),h]
end
inductive LK where
 | int (k:IntKind)
 | bool
 | str
 | list (e:TypeId)
 | nat
def LK.Ty:LK→Type
 | .int _=>Int
 | .bool=>Bool
 | .str=>List UInt8
 | .list _=>List V
 | .nat=>Nat
def LK.enc:(k:LK)→k.Ty→V
 | .int k,n=> .int k n
 | .bool,b=> .bool b
 | .str,s=> .str s
 | .list e,l=> .list e l
 | .nat,n=>ei n
def LK.dec:(k:LK)→V→k.Ty
 | .int _,v=>v.toInt
 | .bool,v=>v.toBool
 | .str,v=>v.toStr
 | .list _,v=>v.toList
 | .nat,v=>ld v
theorem LK.Rn: ∀(k:LK) (x:k.Ty),k.dec (k.enc x)=x
 | .int _,_=>rfl
 | .bool,_=>rfl
 | .str,_=>rfl
 | .list _,_=>rfl
 | .nat,_=>rfl
def J9:List Nat→List LK
 | []=>[]
 | _::l=> .nat::J9 l
def LS.ks:LS→List LK
 | .int k=>[.int k]
 | .bool=>[.bool]
 | .str=>[.str]
 | .list e=>[.list e]
 | .sub .. =>[.nat,.nat]
 | .ptr _=>[.nat,.nat]
 | .row _ _ cs=>J9 cs
 | .cI _ cs _=> .nat::J9 cs
 | _=>[]
def w6:List LS→List LK
 | []=>[]
 | l::ls=>l.ks++w6 ls
def VS.ks:VS→List LK
 | .one l=>l.ks
 | .agg ls=>w6 ls
 | .bm ls=>w6 ls
 | .fn _ a b=>w6 a++w6 b
 | .pref _ ls=>w6 ls
def Ro:List VS→List LK
 | []=>[]
 | l::ls=>l.ks++Ro ls
def BS.ks:BS→List LK
 | .var _ cs=>Ro cs
 | .arr e _=>[.list e]
 | .nest e=>[.list e]
 | .dead=>[]
 | .map t=>[.list t]
def Rp:List (Nat × VS)→List LK
 | []=>[]
 | p::l=>p.2.ks++Rp l
def Rq:List BS→List LK
 | []=>[]
 | b::l=>b.ks++Rq l
def Shape.ks (S:Shape):List LK:=Rp S.bR++Rq S.bj
def Ka:List Nat→List V→List V
 | [],_=>[]
 | _::cs,ds=>ei (ld (V.nth ds 0))::Ka cs (ds.drop 1)
def LS.norm:LS→List V→List V
 | .int k,ds=>[.int k (V.nth ds 0).toInt]
 | .bool,ds=>[.bool (V.nth ds 0).toBool]
 | .str,ds=>[.str (V.nth ds 0).toStr]
 | .list e,ds=>[.list e (V.nth ds 0).toList]
 | .sub ..,ds=>[ei (ld (V.nth ds 0)),ei (ld (V.nth ds 1))]
 | .ptr _,ds=>[ei (ld (V.nth ds 0)),ei (ld (V.nth ds 1))]
 | .row _ _ cs,ds=>Ka cs ds
 | .cI _ cs _,ds=>ei (ld (V.nth ds 0))::Ka cs (ds.drop 1)
 | _,_=>[]
def w7:List LS→List V→List V
 | [],_=>[]
 | l::ls,ds=>l.norm ds++w7 ls (ds.drop l.size)
def VS.norm:VS→List V→List V
 | .one l,ds=>l.norm ds
 | .agg ls,ds=>w7 ls ds
 | .bm ls,ds=>w7 ls ds
 | .fn _ a b,ds=>w7 a ds++w7 b (ds.drop (kC a))
 | .pref _ ls,ds=>w7 ls ds
def Rr:List VS→List V→List V
 | [],_=>[]
 | l::ls,ds=>l.norm ds++Rr ls (ds.drop l.size)
def BS.norm:BS→List V→List V
 | .var _ cs,ds=>Rr cs ds
 | .arr e _,ds=>[.list e (V.nth ds 0).toList]
 | .nest e,ds=>[.list e (V.nth ds 0).toList]
 | .dead,_=>[]
 | .map t,ds=>[.list t (V.nth ds 0).toList]
def Rs:List (Nat × VS)→List V→List V
 | [],_=>[]
 | p::l,ds=>p.2.norm ds++Rs l (ds.drop p.2.size)
def Rt:List BS→List V→List V
 | [],_=>[]
 | b::l,ds=>b.norm ds++Rt l (ds.drop b.size)
def Shape.norm (S:Shape) (ds:List V):List V:=Rs S.bR ds++Rt S.bj (ds.drop (oG S.bR))
def uJ:LK→List LK→Type
 | k,[]=>k.Ty
 | k,k'::ks=>k.Ty × uJ k' ks
def kP:List LK→Type
 | []=>Unit
 | k::ks=>uJ k ks
def uK:(k:LK)→(ks:List LK)→uJ k ks→List V
 | k,[],x=>[k.enc x]
 | k,k'::ks,x=>k.enc x.1::uK k' ks x.2
def ly:(ks:List LK)→kP ks→List V
 | [],_=>[]
 | k::ks,x=>uK k ks x
def AK:(k:LK)→(ks:List LK)→List V→uJ k ks
 | k,[],l=>k.dec (V.nth l 0)
 | k,k'::ks,l=>(k.dec (V.nth l 0),AK k' ks l.tail)
def oZ:(ks:List LK)→List V→kP ks
 | [],_=>()
 | k::ks,l=>AK k ks l
theorem Ru: ∀(k:LK) (ks:List LK) (x:uJ k ks) (r:List V),AK k ks (uK k ks x++r)=x
 | k,[],x,r=>LK.Rn k x
 | k,k'::ks,x,r=>by
  show (k.dec (k.enc x.1),AK k' ks (uK k' ks x.2++r))=x
  rw[LK.Rn,Ru k' ks]
  rfl
def w8:List LK→Type 1→Type 1
 | [],R=>R
 | k::ks,R=>k.Ty→w8 ks R
def Rv:(k:LK)→(ks:List LK)→{R:Type 1}→w8 (k::ks) R→uJ k ks→R
 | _,[],_,f,x=>f x
 | _,k'::ks,_,f,x=>Rv k' ks (f x.1) x.2
def uL:(ks:List LK)→{R:Type 1}→w8 ks R→kP ks→R
 | [],_,f,_=>f
 | k::ks,_,f,x=>Rv k ks f x
def w9 {α:Type} (b:Bool):List Bool→List α→List α
 | [],_=>[]
 | _,[]=>[]
 | c::m,x::l=>bif c==b then x::w9 b m l else w9 b m l
def merge:List Bool→List V→List V→List V
 | [],_,_=>[]
 | true::m,i,x=>V.nth x 0::merge m i x.tail
 | false::m,i,x=>V.nth i 0::merge m i.tail x
def xb:List Nat→List LK→List LK
 | [],_=>[]
 | _,[]=>[]
 | 0::t,k::ks=>k::xb t ks
 | (_+1)::t,_::ks=>xb t ks
abbrev fK:=List Nat × List LK
def fK.fresh (w:fK):List LK:=xb w.1 w.2
def put:List Nat→List V→List V→List V
 | [],_,_=>[]
 | 0::t,ds,x=>V.nth x 0::put t ds x.tail
 | (j+1)::t,ds,x=>V.nth ds j::put t ds x
def uM:List Nat→List V→List V
 | [],_=>[]
 | 0::t,l=>V.nth l 0::uM t l.tail
 | (_+1)::t,l=>uM t l.tail
def sN:fK→List fK→Type
 | w,[]=>kP w.fresh
 | w,w'::ws=>kP w.fresh ⊕ sN w' ws
def rn:List fK→Type
 | []=>Empty
 | w::ws=>sN w ws
def wN (ds:List V) {β:Type} (k:Nat→List V→Option β):Nat→(w:fK)→(ws:List fK)→sN w ws→Option β
 | j,w,[],r=>k j (put w.1 ds (ly w.fresh r))
 | j,w,w'::ws,r=>bV (fun x=>k j (put w.1 ds (ly w.fresh x))) (fun y=>wN ds k (j+1) w' ws y) r
def wT (ds:List V) {β:Type} (k:Nat→List V→Option β):(ws:List fK)→rn ws→Option β
 | [],r=>Empty.elim r
 | w::ws,r=>wN ds k 0 w ws r
def o0 (ds:List V):Nat→(w:fK)→(ws:List fK)→sN w ws→Nat × List V
 | j,w,[],r=>(j,put w.1 ds (ly w.fresh r))
 | j,w,_::_,.inl x=>(j,put w.1 ds (ly w.fresh x))
 | j,_,w'::ws,.inr y=>o0 ds (j+1) w' ws y
def xc (ds:List V):(ws:List fK)→rn ws→Nat × List V
 | [],r=>Empty.elim r
 | w::ws,r=>o0 ds 0 w ws r
theorem Rw (ds:List V) {β:Type} (k:Nat→List V→Option β): ∀(j:Nat) (w:fK) (ws:List fK) (r:sN w ws),wN ds k j w ws r=k (o0 ds j w ws r).1 (o0 ds j w ws r).2
 | _,_,[],_=>rfl
 | _,_,_::_,.inl _=>rfl
 | j,_,w'::ws,.inr y=>Rw ds k (j+1) w' ws y
theorem Ff (ds:List V) {β:Type} (k:Nat→List V→Option β): ∀(ws:List fK) (r:rn ws),wT ds k ws r=k (xc ds ws r).1 (xc ds ws r).2
 | [],r=>Empty.elim r
 | w::ws,r=>Rw ds k 0 w ws r
def xd:Nat→(w:fK)→(ws:List fK)→List V→sN w ws
 | _,w,[],l=>oZ w.fresh (uM w.1 l)
 | 0,w,_::_,l=> .inl (oZ w.fresh (uM w.1 l))
 | j+1,_,w'::ws,l=> .inr (xd j w' ws l)
def Rx (j:Nat):(ws:List fK)→List V→Option (rn ws)
 | [],_=>none
 | w::ws,l=>some (xd j w ws l)
def xe:List Nat→List V→List V
 | [],_=>[]
 | 0::t,x=>V.nth x 0::xe t x.tail
 | (_+1)::t,x=>xe t x
theorem Kb: ∀(t:List Nat) (ds x:List V),uM t (put t ds x)=xe t x
 | [],_,_=>rfl
 | 0::t,ds,x=>congrArg (V.nth x 0:: ·) (Kb t ds x.tail)
 | (_+1)::t,ds,x=>Kb t ds x
theorem Kc: ∀(t:List Nat) (ks:List LK) (k:LK) (bO:List LK),xb t ks=k::bO→∀x:uJ k bO,∃r,xe t (uK k bO x)=uK k bO x++r
 | [],_,_,_,h,_=>by cases h
 | _::_,[],_,_,h,_=>by simp[xb] at h
 | 0::t,a::ks,k,bO,h,x=>by
  simp only[xb,List.cons.injEq] at h
  obtain ⟨rfl,U⟩:=h
  cases bO with
  | nil=>exact ⟨xe t [],rfl⟩
  | cons k' bO=>
   obtain ⟨r,hr⟩:=Kc t ks k' bO U x.2
   exact ⟨r,congrArg (a.enc x.1:: ·) hr⟩
 | (_+1)::t,a::ks,k,bO,h,x=>Kc t ks k bO h x
theorem Ry (w:fK) (ds:List V) (x:kP w.fresh):oZ w.fresh (uM w.1 (put w.1 ds (ly w.fresh x)))=x:=by
 rw[Kb]
 revert x
 generalize hf:w.fresh=f
 cases f with
 | nil=>intro x;rfl
 | cons k ks=>
  intro x
  obtain ⟨r,hr⟩:=Kc w.1 w.2 k ks hf x
  show AK k ks (xe w.1 (uK k ks x))=x
  rw[hr]
  exact Ru k ks x r
theorem Rz (ds:List V): ∀(j:Nat) (w:fK) (ws:List fK) (r:sN w ws),j≤(o0 ds j w ws r).1
 | _,_,[],_=>b9 _
 | _,_,_::_,.inl _=>b9 _
 | j,_,w'::ws,.inr y=>lI (Nat.le_succ j) (Rz ds (j+1) w' ws y)
theorem aa8 (w:fK) (l:List V): ∀j,xd j w [] l=oZ w.fresh (uM w.1 l)
 | 0=>rfl
 | _+1=>rfl
theorem RA (ds:List V): ∀(j:Nat) (w:fK) (ws:List fK) (r:sN w ws),xd ((o0 ds j w ws r).1-j) w ws (o0 ds j w ws r).2=r
 | j,w,[],r=>(aa8 w _ _).trans (Ry w ds r)
 | j,w,w'::ws,.inl x=>by
  show xd (j-j) w (w'::ws) (put w.1 ds (ly w.fresh x))= .inl x
  rw[Nat.sub_self]
  exact congrArg Sum.inl (Ry w ds x)
 | j,w,w'::ws,.inr y=>by
  have h1:=Rz ds (j+1) w' ws y
  have U:=RA ds (j+1) w' ws y
  show xd ((o0 ds (j+1) w' ws y).1-j) w (w'::ws) (o0 ds (j+1) w' ws y).2= .inr y
  obtain ⟨d,hd⟩: ∃d,(o0 ds (j+1) w' ws y).1=j+1+d:=⟨(o0 ds (j+1) w' ws y).1-(j+1),by omega⟩
  rw[hd] at U⊢
  rw[show j+1+d-(j+1)=d by omega] at U
  rw[show j+1+d-j=d+1 by omega]
  exact congrArg Sum.inr U
theorem aa9 (ds:List V): ∀(ws:List fK) (r:rn ws),Rx (xc ds ws r).1 ws (xc ds ws r).2=some r
 | [],r=>Empty.elim r
 | w::ws,r=>congrArg some (RA ds 0 w ws r)
section
variable {P:Program} {A:cJ} {C:ag} {L:ct} {f n m:Nat}
theorem aba {c:Code} {S:Shape × List (Out × Shape)} (hS:A.iA f (keyOf c+1)=some S) (hL:iG P A C L f n m c) {I X R:Type} (enc:I→X→List V) (mU:I→R→Nat × List V)
  (pY:List V→I) (rp:List V→X) (Fg:Nat × List V→Option R) (body:I→X→(β:Type)→(X→Option β)→(R→Option β)→Option β)
  (uI: ∀ds,br S.1 (enc (pY ds) (rp ds))=br S.1 ds) (Kd: ∀i x,rp (enc i x)=x) (hdr: ∀i r,Fg (mU i r)=some r)
  (e1: ∀i x (β:Type) (k:(List V ⊕ (Nat × List V))→Option β),iF P A C L f n m c (br S.1 (enc i x)) (fun o st=>(nB m S.1 S.2 (some (o,st))).bind k)=
   body i x β (fun y=>k (.inl (enc i y))) (fun r=>k (.inr (mU i r))))
  (hl: ∀(β:Type) ds (k:Nat→List V→Option β),L β (keyOf c+1) ds k=(Loop (fun x=>body (pY ds) x (X ⊕ R) (fun y=>some (.inl y)) (fun r=>some (.inr r))) (rp ds)).bind fun r=>k (mU (pY ds) r).1 (mU (pY ds) r).2):
  cr P A C L f n m (.loop c):=by
 simp only[cr,hS]
 intro β ds k
 rw[hl]
 have hex: ∀(z:Option (Out × St)),nB m S.1 S.2 z=z.bind fun r=>nB m S.1 S.2 (some (r.1,r.2)):=by
  intro z;cases z<;>rfl
 have hs: ∀i x,stepG P A C f n m S c (enc i x)=(body i x (X ⊕ R) (fun y=>some (.inl y)) (fun r=>some (.inr r))).map fun| .inl y=> .inl (enc i y)| .inr r=> .inr (mU i r):=by
  intro i x
  have k1:=e1 i x _ (fun z=>some z)
  have k2:=e1 i x (X ⊕ R) (fun| .inl ds=>some (.inl (rp ds))| .inr e=>(Fg e).map .inr)
  have k3:=e1 i x (List V ⊕ (Nat × List V)) (fun| .inl ds=>some (.inl (enc i (rp ds)))| .inr e=>(Fg e).map fun r=> .inr (mU i r))
  simp only[Kd,hdr,Option.map_some] at k2 k3
  unfold stepG
  rw[hex]
  rw[DN P A C f n m c hL] at k1 k2 k3
  rw[←k2]
  refine bd ?_ (k1.trans (k3.symm.trans ?_))
  ·congr 1
   funext r
   cases nB m S.1 S.2 (some (r.1,r.2))<;>rfl
  ·cases exec P A C f n m c (br S.1 (enc i x)) with
   | none=>rfl
   | some r=>
    simp only[Option.bind_some]
    cases nB m S.1 S.2 (some (r.1,r.2)) with
    | none=>rfl
    | some z=>
     cases z with
     | inl _=>rfl
     | inr e=>simp only[Option.bind_some];cases Fg e<;>rfl
 have h0:stepG P A C f n m S c ds=stepG P A C f n m S c (enc (pY ds) (rp ds)):=by
  unfold stepG
  rw[uI]
 have:Loop (stepG P A C f n m S c) ds=(Loop (fun x=>body (pY ds) x (X ⊕ R) (fun y=>some (.inl y)) (fun r=>some (.inr r))) (rp ds)).map (mU (pY ds)):=by
  rw[Dn,h0,←Dn]
  exact XV (enc (pY ds)) (mU (pY ds)) (fun x=>hs _ _) (rp ds)
 rw[this]
 cases Loop (fun x=>body (pY ds) x (X ⊕ R) (fun y=>some (.inl y)) (fun r=>some (.inr r))) (rp ds)<;>rfl
abbrev AL (S:Shape) (mk:List Bool):List LK:=w9 false mk S.ks
abbrev uN (S:Shape) (mk:List Bool):List LK:=w9 true mk S.ks
def rq (ts:List (List Nat)) (W:List (Out × Shape)):List fK:=
 match ts,W with
 | t::ts,w::W=>(t,w.2.ks)::rq ts W
 | _,_=>[]
abbrev AN (S:Shape) (mk:List Bool) (i:kP (AL S mk)) (x:kP (uN S mk)):List V:=merge mk (ly _ i) (ly _ x)
abbrev Ke (S:Shape) (mk:List Bool) (i:kP (AL S mk)):List V:=merge mk (ly _ i) []
abbrev Fh (S:Shape) (mk:List Bool) (ds:List V):kP (AL S mk):=oZ _ (w9 false mk (S.norm ds))
abbrev Fi (S:Shape) (mk:List Bool) (ds:List V):kP (uN S mk):=oZ _ (w9 true mk (S.norm ds))
abbrev RB (X R:Type):Type 1:=(β:Type)→(X→Option β)→(R→Option β)→Option β
abbrev Kf (S:Shape × List (Out × Shape)) (mk:List Bool) (ts:List (List Nat)):Type 1:=w8 (AL S.1 mk) (w8 (uN S.1 mk) (RB (kP (uN S.1 mk)) (rn (rq ts S.2))))
abbrev Kg (S:Shape × List (Out × Shape)) (mk:List Bool) (ts:List (List Nat)) (b:Kf S mk ts) (i:kP (AL S.1 mk)) (x:kP (uN S.1 mk)):RB (kP (uN S.1 mk)) (rn (rq ts S.2)):=uL _ (uL _ b i) x
noncomputable def bW (S:Shape × List (Out × Shape)) (mk:List Bool) (ts:List (List Nat)) (b:Kf S mk ts) {β:Type} (ds:List V) (k:Nat→List V→Option β):Option β:=
 (Loop (fun x=>Kg S mk ts b (Fh S.1 mk ds) x (kP (uN S.1 mk) ⊕ rn (rq ts S.2)) (fun y=>some (.inl y)) (fun r=>some (.inr r))) (Fi S.1 mk ds)).bind (wT (Ke S.1 mk (Fh S.1 mk ds)) k (rq ts S.2))
theorem bY {c:Code} (S:Shape × List (Out × Shape)) (mk:List Bool) (ts:List (List Nat)) (b:Kf S mk ts) (hS:A.iA f (keyOf c+1)=some S) (hL:iG P A C L f n m c)
  (uI: ∀ds,br S.1 (AN S.1 mk (Fh S.1 mk ds) (Fi S.1 mk ds))=br S.1 ds) (Kd: ∀i x,Fi S.1 mk (AN S.1 mk i x)=x)
  (e1: ∀i x (β:Type) (k:(List V ⊕ (Nat × List V))→Option β),iF P A C L f n m c (br S.1 (AN S.1 mk i x)) (fun o st=>(nB m S.1 S.2 (some (o,st))).bind k)=
   Kg S mk ts b i x β (fun y=>k (.inl (AN S.1 mk i y))) (wT (Ke S.1 mk i) (fun j l=>k (.inr (j,l))) (rq ts S.2)))
  (hl: ∀(β:Type) ds (k:Nat→List V→Option β),L β (keyOf c+1) ds k=bW S mk ts b ds k):
  cr P A C L f n m (.loop c):=
 aba hS hL (AN S.1 mk) (fun i r=>xc (Ke S.1 mk i) _ r) (Fh S.1 mk) (Fi S.1 mk) (fun e=>Rx e.1 _ e.2) (Kg S mk ts b) uI Kd (fun i r=>aa9 _ _ r)
  (fun i x β k=>by
   rw[e1]
   congr 1
   funext r
   exact Ff _ _ _ r)
  (fun β ds k=>by
   rw[hl]
   unfold bW
   congr 1
   funext r
   exact Ff _ _ _ r)
abbrev RC (S:Shape × List (Out × Shape)) (ts:List (List Nat)):Type 1:=w8 S.1.ks ((β:Type)→(rn (rq ts S.2)→Option β)→Option β)
noncomputable def ij (S:Shape × List (Out × Shape)) (ts:List (List Nat)) (b:RC S ts) {β:Type} (ds:List V) (k:Nat→List V→Option β):Option β:=
 uL S.1.ks b (oZ _ (S.1.norm ds)) β (wT (ly S.1.ks (oZ _ (S.1.norm ds))) k (rq ts S.2))
theorem iL {t:Nat} {x y:Code} (S:Shape × List (Out × Shape)) (ts:List (List Nat)) (b:RC S ts) (hS:A.iA f (t*16+15)=some S) (hx:iG P A C L f n m x) (hy:iG P A C L f n m y)
  (uI: ∀ds,br S.1 (ly S.1.ks (oZ _ (S.1.norm ds)))=br S.1 ds)
  (e1: ∀i (β:Type) (k:Nat→List V→Option β),J8 P A C L f n m t S x y (ly S.1.ks i) k=uL S.1.ks b i β (wT (ly S.1.ks i) k (rq ts S.2)))
  (hl: ∀(β:Type) ds (k:Nat→List V→Option β),L β (t*16+15) ds k=ij S ts b ds k):
  cr P A C L f n m (.cond t x y):=
 aa7 hS hx hy (ly S.1.ks) (fun i r=>xc (ly S.1.ks i) _ r) (fun ds=>oZ _ (S.1.norm ds)) (uL S.1.ks b) uI
  (fun i β k=>by
   rw[e1]
   exact congrArg (uL S.1.ks b i β) (funext fun r=>Ff _ _ _ r))
  (fun β ds k=>by
   rw[hl]
   exact congrArg (uL S.1.ks b (oZ _ (S.1.norm ds)) β) (funext fun r=>Ff _ _ _ r))
end
def cw:ct:=fun _ _ _ _=>none
end Go.AM
