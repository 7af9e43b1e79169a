/-
  Functions of the program, lifted to plain data.
-/
import Derived.Conc.MuLone
import Derived.Defers
import Derived.Carry
import Derived.OpenShut
import Derived.Deep.Slices
import Derived.Test.YtppefogdkedaiaaP2
set_option linter.unusedVariables false
set_option linter.unusedSimpArgs false
namespace Go.AM
section
variable {P:Program} {A:cv} {w w':World} {I I' I2:Nat→Prop} {μ β av bQ:Nat→Option Nat} {hp hp' hp0 bj:Nat→Option an} {C:ag} {B:Nat} {M:Nat→Prop} {w0:Start}
structure km (w:World) (I:Nat→Prop) (β:Nat→Option Nat) (hp:Nat→Option an) (w':World) (I':Nat→Prop) (av:Nat→Option Nat) (hp':Nat→Option an):Prop where
 cW: ∀b,I b→I' b
 bV: ∀b,I b→w'.heap[b]? =w.heap[b]?
 blk: ∀id blk,hp id=some blk→∃blk',hp' id=some blk'∧blk.le blk'∧(blk'≠ .dead→av id=β id)
 size: ∀id blk blk' b,hp id=some blk→hp' id=some blk'→blk'≠ .dead→β id=some b→bsize w' b=bsize w b
theorem Le.CB (h:Le P w I β hp w' I' av hp'):km w I β hp w' I' av hp':=⟨h.cW,h.bV,h.blk,h.size⟩
theorem km.trans {xV:World} {xW:Nat→Prop} {xX:Nat→Option Nat} {xY:Nat→Option an} (h1:km w I β hp w' I' av hp') (U:km w' I' av hp' xV xW xX xY):km w I β hp xV xW xX xY:=by
 refine ⟨fun b h=>U.cW b (h1.cW b h),fun b h=>(U.bV b (h1.cW b h)).trans (h1.bV b h),fun id blk h=> ?_,fun id blk sC b h qY hd hb=> ?_⟩
 ·obtain ⟨blk',e',l',b'⟩:=h1.blk id blk h
  obtain ⟨sC,dk,pL,FO⟩:=U.blk id blk' e'
  refine ⟨sC,dk,an.le_trans l' pL,fun hd=> ?_⟩
  have en:blk'≠ .dead:=fun e=>hd (an.oG (e▸pL))
  exact (FO hd).trans (b' en)
 ·obtain ⟨blk',e',l',b'⟩:=h1.blk id blk h
  obtain ⟨gr,e3,l3,b3⟩:=U.blk id blk' e'
  obtain rfl:gr=sC:=by rw[e3] at qY;exact cR qY
  have en:blk'≠ .dead:=fun e=>hd (an.oG (e▸l3))
  rw[U.size id blk' gr b e' e3 hd ((b' en).trans hb),h1.size id blk blk' b h e' en hb]
def nP (P:Program) (w:World) (μ:Nat→Option Nat) (hp0:Nat→Option an) (b:Nat):Prop:= ∃j blk,hp0 j=some blk∧bp P w (μ j) blk b
structure Wr (P:Program) (A:cv) (key:Nat) (w:World) (I:Nat→Prop) (μ:Nat→Option Nat) (ds es:List V) (w':World) (v:Value) (I2:Nat→Prop) (bQ:Nat→Option Nat):Prop where
 vl:aF P w' I2 bQ (bf (A.so key es) (A.lv key es)).hp w.heap.size (nP P w μ (bf (A.sin key) ds).hp) ⟨w,I⟩
 le:km w I μ (bf (A.sin key) ds).hp w' I2 bQ (bf (A.so key es) (A.lv key es)).hp
 res:ao P w' I2 bQ (bf (A.so key es) (A.lv key es)).hp v (oE (eO (A.so key es).bJ (A.lv key es)))
def ko (P:Program) (A:cv) (C:ag):Prop:=
 ∀key ds es,C key ds=some es→∃fn c,P.funcs[A.aZ key]? =some fn∧fn.body=some c∧
  ∀(w:World) (I:Nat→Prop) (μ:Nat→Option Nat) (vals:List Value),
   sB P w I μ (bf (A.sin key) ds).hp w.heap.size (nP P w μ (bf (A.sin key) ds).hp)→gi P A.aE w I→
   vals.length=(A.sin key).bJ.length→(∀(j:Nat) v x,vals[j]? =some v→(eZ ((A.sin key).bJ.map (·.2)) ds)[j]? =some x→ao P w I μ (bf (A.sin key) ds).hp v x)→
   Calls P (A.aZ key) vals.toArray w fun e w'=> ∃v I2 bQ,e= .returned v∧Wr P A key w I μ ds es w' v I2 bQ
theorem dI.s7 {p:Place} {o:Option Nat} {blk:an} {b:Nat} (h:dI P w β hp p o blk) (ho:bp P w o blk b):
  ∃qb,hp p.id=some qb∧bp P w (β p.id) qb b∧∀e es,qb≠ .arr e es true:=by
 cases h with
 | var h=>exact ⟨_,h,.root (by simp) (ho.flat (by simp)),by simp⟩
 | arr h=>exact ⟨_,h,.root (by simp) (ho.flat (by simp)),by simp⟩
 | map h=>exact ⟨_,h,.root (by simp) (ho.flat (by simp)),by simp⟩
 | nest h=>
  refine ⟨_,h,?_,by simp⟩
  cases ho with
  | root _ hb=>exact .root (by simp) hb
  | row hb ha=>exact .row hb ha
 | row h hb ha _ _ _ _ _=>
  have:=ho.flat (by simp)
  cases this
  exact ⟨_,h,.row hb ha,by simp⟩
theorem aF.Ws (S:aF P w I β hp B M w0) {id b:Nat} {blk:an} (ab:hp id=some blk) (ho:bp P w (β id) blk b) (hf: ∀e es,blk≠ .arr e es true): ¬I b:=by
 have hr:=S.h.rel id blk ab
 generalize β id=o at hr ho
 cases hr with
 | var hb _ _ hI _ _=>have:=ho.flat (by simp);rw[hb] at this;cases this;exact hI
 | dq hb=>have:=ho.flat (by simp);rw[hb] at this;cases this
 | @arr e es fz _ _ _ hb _ _ _ dR _=>
  have:=ho.flat (by simp)
  rw[hb] at this;cases this
  cases fz with
  | true=>exact absurd rfl (hf e es)
  | false=>exact dR rfl
 | dead=>exact absurd rfl ho.alive
 | map _ hb _ _ hI _ _=>have:=ho.flat (by simp);rw[hb] at this;cases this;exact hI
 | nest hb hr _=>
  cases ho with
  | root _ aA=>rw[hb] at aA;cases aA;exact (hr _ _ _ _ .here).nI
  | row aA ha=>rw[hb] at aA;cases aA;exact (hr _ _ _ _ ha).nI
theorem CD {a b:List Nat} (h:uD a b=false) {x:Nat} (ha:x∈a):x∉b:=by
 intro hb
 unfold uD at h
 rw[List.any_eq_false] at h
 exact h x ha (u4 hb)
theorem Wt (S:aF P w I β hp B M w0) {pl:List Place} {upd:List (Nat × an)} {o:Nat→Option Nat} (jN:(pl.map Place.id).Nodup) (CE:uD (upd.map (·.1)) (pl.map Place.id)=false)
  (hl: ∀j blk,hp0 j=some blk→∃p,dP pl j=some p∧dI P w β hp p (o j) blk)
  (cr:(∀j blk,hp0 j=some blk→∀b,bp P w (o j) blk b→¬il P w I β hp upd b)→∀j blk,hp0 j=some blk→dF P w (il P w I β hp upd) o hp0 (o j) blk) (aP: ∀b,il P w I β hp upd b→b<w.heap.size):
  sB P w (il P w I β hp upd) o hp0 w.heap.size (nP P w o hp0):=by
 have cD: ∀j blk,hp0 j=some blk→∀b,bp P w (o j) blk b→¬il P w I β hp upd b:=by
  intro j blk hj b ho hI
  obtain ⟨p,bj,gu⟩:=hl j blk hj
  obtain ⟨qb,k1,k2,k3⟩:=gu.s7 ho
  rcases hI with hI|⟨q,hq,bP,q1,q2⟩
  ·exact S.Ws k1 k2 k3 hI
  ·have:=S.h.inj _ _ _ _ b q1 k1 q2 k2
   refine CD CE (gk.2 ⟨q,hq,rfl⟩) ?_
   rw[this]
   rw[la] at bj
   exact gk.2 ⟨p,jc bj,rfl⟩
 refine ⟨cr cD,fun j1 j2 b1 b2 b h1 U o1 o2=> ?_,fun j blk b h1 o1=> .inl ⟨j,blk,h1,o1⟩,aP⟩
 obtain ⟨p1,q1,q2⟩:=hl j1 b1 h1
 obtain ⟨p2,r1,r2⟩:=hl j2 b2 U
 obtain ⟨c1,x1,x2,_⟩:=q2.s7 o1
 obtain ⟨c2,y1,y2,_⟩:=r2.s7 o2
 have ab:=S.h.inj _ _ _ _ b x1 y1 x2 y2
 rw[la] at q1 r1
 have m1:(pl.map Place.id)[j1]? =some p1.id:=by rw[gl,q1];rfl
 have m2:(pl.map Place.id)[j2]? =some p2.id:=by rw[gl,r1];rfl
 rw[←ab] at m2
 obtain ⟨z1,z2⟩:=bm.1 m1
 obtain ⟨z3,z4⟩:=bm.1 m2
 exact (List.getElem_inj jN).1 (z2.trans z4.symm)
def Mr:V→Prop
 | .list .. =>False
 | .pref .. =>False
 | .agg _=>False
 | .aY _=>False
 | .fn .. =>False
 | _=>True
theorem ao.free {v:Value} {x:V} (h:ao P w I β hp v x) (hx:Mr x):ao P w I' β hp v x:=by
 cases h with
 | undef=>exact .undef
 | int=>exact .int
 | bool=>exact .bool
 | str h=>exact .str h
 | list h=>exact hx.elim
 | nilS=>exact .nilS
 | agg=>exact hx.elim
 | aY=>exact hx.elim
 | c7=>exact .c7
 | fn=>exact hx.elim
 | pref=>exact hx.elim
 | dQ h=>exact .dQ h
 | fF h=>exact .fF h
 | jG h=>exact .jG h
 | dp h hb=>exact .dp h hb
 | whole h hb a b c=>exact .whole h hb a b c
 | eb h hb a b c=>exact .eb h hb a b c
 | fm h hb=>exact .fm h hb
 | sub h hb a b c=>exact .sub h hb a b c
 | ptr h hd hb=>exact .ptr h hd hb
 | jf h p6=>exact .jf h p6
 | jg h p6=>exact .jg h p6
 | row h hb a b c d=>exact .row h hb a b c d
 | cq h hb a b c d e=>exact .cq h hb a b c d e
 | df=>exact .df
 | gV h=>exact .gV h
 | cf h hb=>exact .cf h hb
theorem yH {l:LS} {ds:List V} (hs:l.safe=true):Mr (ia l ds):=by
 cases l<;>simp only[LS.safe] at hs<;>first|(cases hs;done)|trivial
theorem yI: ∀{ls:List LS} {ds:List V} {j:Nat} {y:V},(gP ls ds)[j]? =some y→∃l eS,l∈ls∧y=ia l eS
 | [],ds,j,y,h=>by simp[gP] at h
 | l::ls,ds,j,y,h=>by
  simp only[gP] at h
  cases j with
  | zero=>simp at h;exact ⟨l,ds,qM ..,h.symm⟩
  | succ j=>
   obtain ⟨l',eS,h1,U⟩:=yI (j:=j) (by simpa using h)
   exact ⟨l',eS,kK _ h1,U⟩
theorem Ms: ∀{ls:List VS} {ds:List V} {j:Nat} {y:V},(eZ ls ds)[j]? =some y→∃l eS,l∈ls∧y=j9 l eS
 | [],ds,j,y,h=>by simp[eZ] at h
 | l::ls,ds,j,y,h=>by
  simp only[eZ] at h
  cases j with
  | zero=>simp at h;exact ⟨l,ds,qM ..,h.symm⟩
  | succ j=>
   obtain ⟨l',eS,h1,U⟩:=Ms (j:=j) (by simpa using h)
   exact ⟨l',eS,kK _ h1,U⟩
theorem Mt {s:VS} {ds:List V} {v:Value} (h:ao P w I β hp v (j9 s ds)) (hs:s.safe=true):ao P w I' β hp v (j9 s ds):=by
 cases s with
 | one l=>exact h.free (yH hs)
 | agg ls=>
  simp only[j9] at h⊢
  obtain ⟨cs,rfl,e1,e2⟩:=h.kg
  refine .agg e1 fun j v x hj hx=> ?_
  obtain ⟨l,eS,k1,rfl⟩:=yI hx
  exact (e2 j v _ hj hx).free (yH (eN.1 hs l k1))
 | aY ls=>
  simp only[j9] at h⊢
  obtain ⟨cs,rfl,e1,e2⟩:=h.sI
  refine .aY e1 fun j v x hj hx=> ?_
  obtain ⟨l,eS,k1,rfl⟩:=yI hx
  exact (e2 j v _ hj hx).free (yH (eN.1 hs l k1))
 | fn f a b=>
  simp only[VS.safe,aJ] at hs
  simp only[j9] at h⊢
  cases h with
  | fn a1 a2 b1 b2=>
   refine .fn a1 (fun j v x hj hx=> ?_) b1 (fun j v x hj hx=> ?_)
   ·obtain ⟨l,eS,k1,rfl⟩:=yI hx
    exact (a2 j v _ hj hx).free (yH (eN.1 hs.1 l k1))
   ·obtain ⟨l,eS,k1,rfl⟩:=yI hx
    exact (b2 j v _ hj hx).free (yH (eN.1 hs.2 l k1))
 | pref ts ls=>cases hs
theorem Pure.scalar {t:TypeId} {v:Value} {x:V} (h:Pure P w I t v x) (hn: ∀e,P.underlying t≠some (.slice e)):Pure P w I' t v x:=by
 cases h with
 | int h=>exact .int h
 | bool h=>exact .bool h
 | str h hl=>exact .str h hl
 | nil h=>exact absurd h (hn _)
 | emp h=>exact absurd h (hn _)
 | list g h=>exact absurd h (hn _)
theorem Wu {e t:TypeId} {j:Nat} (h:xG P e=true) (ht:(aR P e)[j]? =some t) (e':TypeId):P.underlying t≠some (.slice e'):=by
 intro hu
 have U:=eN.1 h t (jc ht)
 rw[hu] at U
 cases U
theorem Wv {o:Option Nat} {b:BS} {ds:List V} (h:dF P w I2 β hp o (fj b ds)) (hs:b.safe P=true) (hi: ∀b,I b→I2 b):dF P w I β hp o (fj b ds):=by
 cases b with
 | dead=>exact .dead
 | var T0 ls=>
  simp only[fj] at h⊢
  cases h with
  | var hb hh aS hI hx fH=>
   refine .var hb hh aS (fun h=>hI (hi _ h)) (fun j v x hj ch=> ?_) fH
   obtain ⟨l,eS,k1,rfl⟩:=Ms ch
   exact Mt (hx j v _ hj ch) (eN.1 hs l k1)
 | arr e fz=>
  simp only[BS.safe,aJ,ml] at hs
  obtain ⟨rfl,yG⟩:=hs
  simp only[fj] at h⊢
  generalize (V.nth ds 0).toList=es at h⊢
  cases h with
  | dq hb=>exact .dq hb
  | arr a1 a2 a3 a4 a5 a6 a7=>
   refine .arr a1 a2 a3 a4 (fun h=>by cases h) (fun _ h=>a6 rfl (hi _ h)) fun i j x t' y1 y2 y3=> ?_
   obtain ⟨v,z1,z2⟩:=a7 i j x t' y1 y2 y3
   exact ⟨v,z1,z2.scalar (Wu yG y2)⟩
 | nest e=>
  simp only[fj] at h⊢
  generalize (V.nth ds 0).toList=es at h⊢
  cases h with
  | nest hb ct nG=>
   refine .nest hb (fun q b' e1 m1 hq=> ?_) nG
   obtain ⟨ok,⟨Ca,c1,c2,c3⟩,nI⟩:=ct q b' e1 m1 hq
   refine ⟨ok,⟨Ca,c1,c2,fun i j x t' y1 y2 y3=> ?_⟩,fun h=>nI (hi _ h)⟩
   obtain ⟨v,z1,z2⟩:=c3 i j x t' y1 y2 y3
   refine ⟨v,z1,?_⟩
   generalize bC P e1 x j=y at z2⊢
   cases z2 with
   | fl a p=>
    refine .fl a (p.scalar fun e hu=> ?_)
    unfold fi at a
    rw[hu] at a
    cases a
   | emp a b=>exact .emp a b
   | row a b c d e=>exact .row a b c d e
 | map t=>
  simp only[fj] at h⊢
  cases h with
  | map a1 a2 a3 a4 a5 a6 a7=>exact .map a1 a2 a3 a4 (fun h=>a5 (hi _ h)) a6 a7
theorem G2: ∀{l:List BS} {ds:List V} {j:Nat} {y:an},(ek l ds)[j]? =some y→∃b eS,l[j]? =some b∧y=fj b eS
 | [],ds,j,y,h=>by simp[ek] at h
 | b::l,ds,j,y,h=>by
  simp only[ek] at h
  cases j with
  | zero=>simp at h;exact ⟨b,ds,rfl,h.symm⟩
  | succ j=>
   obtain ⟨b',eS,h1,U⟩:=G2 (j:=j) (by simpa using h)
   exact ⟨b',eS,by simpa using h1,U⟩
theorem Mu: ∀{l:List (Nat × VS)} {ds:List V} {q:Nat × V},q∈eO l ds→∃s eS,(q.1,s)∈l∧q.2=j9 s eS
 | [],ds,q,h=>by simp[eO] at h
 | (k,s)::l,ds,q,h=>by
  simp only[eO,cY] at h
  rcases h with h|h
  ·subst h;exact ⟨s,ds,qM ..,rfl⟩
  ·obtain ⟨s',eS,h1,U⟩:=Mu h
   exact ⟨s',eS,kK _ h1,U⟩
theorem Ww {S:Shape} {es:List V} (hs:S.safe P=true) (hi: ∀b,I b→I2 b) {N:Nat→Prop} {st:Start} (h:aF P w' I2 bQ (bf S es).hp B N st) (h0: ∀b,I b→st.I b):
  aF P w' I bQ (bf S es).hp B N st∧∀v,ao P w' I2 bQ (bf S es).hp v (oE (eO S.bJ es))→ao P w' I bQ (bf S es).hp v (oE (eO S.bJ es)):=by
 unfold Shape.safe at hs
 simp only[aJ] at hs
 obtain ⟨ik,k9⟩:=hs
 have one: ∀q∈eO S.bJ es,∀v,ao P w' I2 bQ (bf S es).hp v q.2→ao P w' I bQ (bf S es).hp v q.2:=by
  intro q hq v hv
  obtain ⟨s,eS,k1,k2⟩:=Mu hq
  rw[k2] at hv⊢
  exact Mt hv (eN.1 ik _ k1)
 refine ⟨⟨⟨fun j blk hj=> ?_,h.h.inj,h.h.own,fun b hb=>h.h.jh b (hi b hb)⟩,h.bV,h.size,fun b hb=> .inl (h0 b hb),h.io⟩,fun v hv=> ?_⟩
 ·have hr:=h.h.rel j blk hj
  have fT:=hj
  simp only[bf,mk,gC] at fT
  obtain ⟨b,eS,k1,rfl⟩:=G2 fT
  exact Wv hr (eN.1 k9 _ (jc k1)) hi
 ·generalize eO S.bJ es=l at one hv⊢
  match l,one,hv with
  | [],_,hv=>
   simp only[oE,gm] at hv⊢
   obtain ⟨cs,rfl,e1,e2⟩:=hv.sI
   exact .aY e1 fun j v x _ hx=>by simp at hx
  | [q],one,hv=>exact one q (dX.2 rfl) v hv
  | q::q2::l,one,hv=>
   simp only[oE] at hv⊢
   obtain ⟨cs,rfl,e1,e2⟩:=hv.sI
   refine .aY e1 fun j v x hj hx=> ?_
   obtain ⟨y,hy,rfl⟩:=gk.1 (jc hx)
   exact one y hy v (e2 j v _ hj hx)
end
section
variable {P:Program} {A:cv} {w w':World} {I I' I2:Nat→Prop} {μ β av bQ:Nat→Option Nat} {hp hp' hp0 bj:Nat→Option an} {C:ag} {B:Nat} {M:Nat→Prop} {w0:Start}
inductive fL (σ:List Place):an→an→Prop
 | dead:fL σ .dead .dead
 | var {T:TypeId} {cs:List V}:fL σ (.var T cs) (.var T (cs.map (BC σ)))
 | arr {e:TypeId} {es:List V} {fz:Bool}:fL σ (.arr e es fz) (.arr e es fz)
 | nest {e:TypeId} {es:List V} {v1 v2:List Nat}:fL σ (.nest e es v1) (.nest e es v2)
 | map {t:TypeId} {es:List V}:fL σ (.map t es) (.map t es)
theorem fL.of (σ:List Place) (b:an):fL σ b (sq σ b):=by
 cases b with
 | dead=>exact .dead
 | var T cs=>exact .var
 | arr e es fz=>exact .arr
 | nest e es v=>exact .nest
 | map t es=>exact .map
theorem Mv {σ:List Place}: ∀{pl:List Place} {bs:List an} {acc:List (Nat × an)} {k:List (Nat × an)→Rd R} {r:R} {rd:List Nat},(pD σ pl bs acc k).run C hp=some (r,rd)→
  pl.length≤bs.length∧∃bk eB,(k bk).run C hp=some (r,eB)∧(∀q∈bk,q∈acc∨∃(j:Nat) (b:an),pl[j]? =some (.blk q.1)∧bs[j]? =some b∧fL σ b q.2∧((∃e es v2,q.2= .nest e es v2)→∃e es aq e' aK,hp q.1=some (.nest e es aq)∧q.2= .nest e' aK (aq.map (· +1))))∧
   (∀q∈acc,q∈bk)∧∀(j:Nat) p,pl[j]? =some p→∃id b,p= .blk id∧(id,b)∈bk
 | [],bs,acc,k,r,rd,h=>⟨jZ _,acc,rd,by simpa only[pD] using h,fun q hq=> .inl hq,fun q hq=>hq,fun j p hp=>by simp at hp⟩
 | .row _ _ _::pl,bs,acc,k,r,rd,h=>by
  cases bs<;>(simp only[pD] at h;cases h)
 | .blk id::pl,[],acc,k,r,rd,h=>by simp only[pD] at h;cases h
 | .blk id::pl,b::bs,acc,k,r,rd,h=>by
  have fin: ∀{b2:an} {iQ:List Nat},(pD σ pl bs ((id,b2)::acc) k).run C hp=some (r,iQ)→fL σ b b2→((∃e es v2,b2= .nest e es v2)→∃e es aq e' aK,hp id=some (.nest e es aq)∧b2= .nest e' aK (aq.map (· +1)))→
    (Place.blk id::pl).length≤(b::bs).length∧∃bk eB,(k bk).run C hp=some (r,eB)∧(∀q∈bk,q∈acc∨∃(j:Nat) (b':an),(Place.blk id::pl)[j]? =some (.blk q.1)∧(b::bs)[j]? =some b'∧fL σ b' q.2∧((∃e es v2,q.2= .nest e es v2)→∃e es aq e' aK,hp q.1=some (.nest e es aq)∧q.2= .nest e' aK (aq.map (· +1))))∧
     (∀q∈acc,q∈bk)∧∀(j:Nat) p,(Place.blk id::pl)[j]? =some p→∃id b,p= .blk id∧(id,b)∈bk:=by
   intro b2 iQ h1 hb hn
   obtain ⟨a0,bk,eB,a1,a2,a3,a4⟩:=Mv h1
   refine ⟨by simp only[List.length_cons];omega,bk,eB,a1,fun q hq=> ?_,fun q hq=>a3 q (kK _ hq),fun j p hj=> ?_⟩
   ·rcases a2 q hq with h|⟨j,b',k1,k2,k3,k4⟩
    ·rcases cY.1 h with e|h
     ·subst e;exact .inr ⟨0,b,rfl,rfl,hb,hn⟩
     ·exact .inl h
    ·exact .inr ⟨j+1,b',by simpa using k1,by simpa using k2,k3,k4⟩
   ·cases j with
    | zero=>simp at hj;subst hj;exact ⟨id,b2,rfl,a3 _ (qM ..)⟩
    | succ j=>exact a4 j p (by simpa using hj)
  cases b with
  | nest e es v=>
   simp only[pD] at h
   obtain ⟨l,h⟩:=run_get h
   cases ab:hp id with
   | none=>rw[ab] at h;cases h
   | some blk=>
    rw[ab] at h
    cases blk with
    | nest e0 FP aq=>exact fin h .nest fun _=>⟨e0,FP,aq,e,es,ab,rfl⟩
    | _=>cases h
  | dead=>exact fin h (.of σ _) fun ⟨_,_,_,h⟩=>by cases h
  | var T cs=>exact fin h (.of σ _) fun ⟨_,_,_,h⟩=>by cases h
  | arr e es fz=>exact fin h (.of σ _) fun ⟨_,_,_,h⟩=>by cases h
  | map t es=>exact fin h (.of σ _) fun ⟨_,_,_,h⟩=>by cases h
theorem Mw {σ:List Place}: ∀{bs:List an} {n:Nat} {q:Nat × an},q∈pE σ n bs→∃i b,bs[i]? =some b∧q=(n+i,sq σ b)
 | [],n,q,h=>by simp[pE] at h
 | b::bs,n,q,h=>by
  simp only[pE,cY] at h
  rcases h with h|h
  ·exact ⟨0,b,rfl,h⟩
  ·obtain ⟨i,b',h1,U⟩:=Mw h
   exact ⟨i+1,b',by simpa using h1,by rw[U];congr 1;omega⟩
theorem Mx {σ:List Place}: ∀{bs:List an} {n i:Nat} {b:an},bs[i]? =some b→(n+i,sq σ b)∈pE σ n bs
 | [],n,i,b,h=>by simp at h
 | b0::bs,n,i,b,h=>by
  simp only[pE,cY]
  cases i with
  | zero=>simp at h;subst h;exact .inl rfl
  | succ i=>exact .inr (by rw[show n+(i+1)=n+1+i by omega];exact Mx (by simpa using h))
theorem CF: ∀{k n i:Nat},i<k→(qW n k)[i]? =some (.blk (n+i))
 | 0,n,i,h=>by omega
 | k+1,n,0,h=>rfl
 | k+1,n,i+1,h=>by
  simp only[qW,List.getElem?_cons_succ]
  rw[CF (by omega)]
  congr 2
  omega
theorem G3: ∀{k n:Nat},(qW n k).length=k
 | 0,_=>rfl
 | k+1,n=>by simp[qW,G3]
theorem My: ∀{bs:List (Nat × an)} {k:Rd R} {r:R} {rd:List Nat},(BD bs k).run C hp=some (r,rd)→(∀q∈bs,hp q.1=none)∧∃eB,k.run C hp=some (r,eB)
 | [],k,r,rd,h=>⟨by simp,rd,h⟩
 | (id,b)::l,k,r,rd,h=>by
  simp only[BD] at h
  obtain ⟨l1,h⟩:=run_get h
  cases ab:hp id with
  | some blk=>rw[ab] at h;cases h
  | none=>
   rw[ab] at h
   obtain ⟨h1,U⟩:=My h
   refine ⟨fun q hq=> ?_,U⟩
   rcases cY.1 hq with e|hq
   ·subst e;exact ab
   ·exact h1 q hq
structure oR (σ:List Place) (bQ:Nat→Option Nat) (bj:Nat→Option an) (av:Nat→Option Nat) (hp':Nat→Option an):Prop where
 blk: ∀j b,bj j=some b→∃id b',dP σ j=some (.blk id)∧hp' id=some b'∧fL σ b b'∧(b≠ .dead→av id=bQ j)
 none: ∀j,bj j=none→dP σ j=none
 age: ∀j id ver path,dP σ j≠some (.row id ver path)
theorem oR.leaf {σ:List Place} (T:oR σ bQ bj av hp') {v:Value} {x:V} (h:ao P w I bQ bj v x):ao P w I av hp' v (jE σ x):=by
 have look: ∀{j b},bj j=some b→∃id b',dP σ j=some (.blk id)∧hp' id=some b'∧fL σ b b'∧(b≠ .dead→av id=bQ j):=fun h=>T.blk _ _ h
 cases h with
 | undef=>exact .undef
 | int=>exact .int
 | bool=>exact .bool
 | str h=>exact .str h
 | list h=>exact .list h
 | nilS=>exact .nilS
 | agg=>exact .undef
 | aY=>exact .undef
 | c7=>exact .c7
 | fn=>exact .undef
 | pref a b c=>exact .pref a b c
 | @dQ _ e j h=>
  obtain ⟨id,b',k1,k2,k3,k4⟩:=look h
  simp only[jE,k1]
  cases k3
  exact .dQ k2
 | @fF _ e j _ _ h=>
  obtain ⟨id,b',k1,k2,k3,k4⟩:=look h
  simp only[jE,k1]
  cases k3
  exact .fF k2
 | @jG _ j _ _ h=>
  obtain ⟨id,b',k1,k2,k3,k4⟩:=look h
  simp only[jE,k1]
  cases k3
  exact .jG k2
 | @dp e j fz _ h hb=>
  obtain ⟨id,b',k1,k2,k3,k4⟩:=look h
  simp only[jE,k1]
  cases k3
  exact .dp k2 ((k4 (by simp)).trans hb)
 | @whole e j es fz b cap h hb a1 a2 a3=>
  obtain ⟨id,b',k1,k2,k3,k4⟩:=look h
  simp only[jE,k1]
  cases k3
  exact .whole k2 ((k4 (by simp)).trans hb) a1 a2 a3
 | @eb e j es aq b cap h hb a1 a2 a3=>
  obtain ⟨id,b',k1,k2,k3,k4⟩:=look h
  simp only[jE,k1]
  cases k3
  exact .eb k2 ((k4 (by simp)).trans hb) a1 a2 a3
 | @fm e j fz _ h hb=>
  obtain ⟨id,b',k1,k2,k3,k4⟩:=look h
  simp only[jE,k1]
  cases k3
  exact .fm k2 ((k4 (by simp)).trans hb)
 | @sub e j off len es fz b o cap h hb a1 a2 a3=>
  obtain ⟨id,b',k1,k2,k3,k4⟩:=look h
  simp only[jE,k1]
  cases k3
  exact .sub k2 ((k4 (by simp)).trans hb) a1 a2 a3
 | @ptr j i c b blk h hd hb=>
  obtain ⟨id,b',k1,k2,k3,k4⟩:=look h
  simp only[jE,k1]
  have hs:blk.sz P=b'.sz P:=by cases k3<;>rfl
  rw[hs]
  exact .ptr k2 (by intro e;subst e;cases k3;exact hd rfl) ((k4 hd).trans hb)
 | jf=>exact .undef
 | jg=>exact .undef
 | row=>exact .undef
 | cq=>exact .undef
 | df=>exact .df
 | @gV _ t j h=>
  obtain ⟨id,b',k1,k2,k3,k4⟩:=look h
  simp only[jE,k1]
  cases k3
  exact .gV k2
 | @cf t j b es h hb=>
  obtain ⟨id,b',k1,k2,k3,k4⟩:=look h
  simp only[jE,k1]
  cases k3
  exact .cf k2 ((k4 (by simp)).trans hb)
theorem oR.one {σ:List Place} (T:oR σ bQ bj av hp') {v:Value} {x:V} (h:ao P w I bQ bj v x):ao P w I av hp' v (FE σ x):=by
 cases x with
 | agg xs=>
  obtain ⟨cs,rfl,e1,e2⟩:=h.kg
  exact .agg (by simpa using e1) fun j v y hj hy=>by
   rw[gl] at hy
   cases hx:xs[j]? with
   | none=>rw[hx] at hy;cases hy
   | some x=>rw[hx] at hy;cases hy;exact T.leaf (e2 j v x hj hx)
 | fn f a b=>
  cases h with
  | fn a1 a2 b1 b2=>
   refine .fn (by simpa using a1) (fun j v y hj hy=> ?_) (by simpa using b1) (fun j v y hj hy=> ?_)
   ·rw[gl] at hy
    cases hx:a[j]? with
    | none=>rw[hx] at hy;cases hy
    | some x=>rw[hx] at hy;cases hy;exact T.leaf (a2 j v x hj hx)
   ·rw[gl] at hy
    cases hx:b[j]? with
    | none=>rw[hx] at hy;cases hy
    | some x=>rw[hx] at hy;cases hy;exact T.leaf (b2 j v x hj hx)
 | _=>exact T.leaf h
theorem oR.val {σ:List Place} (T:oR σ bQ bj av hp') {v:Value} {x:V} (h:ao P w I bQ bj v x):ao P w I av hp' v (BC σ x):=by
 cases x with
 | aY xs=>
  obtain ⟨cs,rfl,e1,e2⟩:=h.sI
  exact .aY (by simpa using e1) fun j v y hj hy=>by
   rw[gl] at hy
   cases hx:xs[j]? with
   | none=>rw[hx] at hy;cases hy
   | some x=>rw[hx] at hy;cases hy;exact T.one (e2 j v x hj hx)
 | _=>exact T.one h
theorem oR.Mz {σ:List Place} (T:oR σ bQ bj av hp') {o:Option Nat} {b b':an} (h:dF P w I bQ bj o b) (hb:fL σ b b'):dF P w I av hp' o b':=by
 cases hb with
 | dead=>exact .dead
 | var=>
  cases h with
  | var a1 a2 a3 a4 a5 a6=>
   refine .var a1 a2 (by simpa using a3) a4 (fun j v y hj hy=> ?_) a6
   rw[gl] at hy
   cases hx:(_:List V)[j]? with
   | none=>rw[hx] at hy;cases hy
   | some x=>rw[hx] at hy;cases hy;exact T.val (a5 j v x hj hx)
 | arr=>
  cases h with
  | dq hb=>exact .dq hb
  | arr a1 a2 a3 a4 a5 a6 a7=>exact .arr a1 a2 a3 a4 a5 a6 a7
 | nest=>
  cases h with
  | nest a1 a2 a3=>exact .nest a1 a2 a3
 | map=>
  cases h with
  | map a1 a2 a3 a4 a5 a6 a7=>exact .map a1 a2 a3 a4 a5 a6 a7
theorem fL.s7 {σ:List Place} {o:Option Nat} {b b':an} (h:fL σ b b') {m:Nat} (ho:bp P w o b' m):bp P w o b m:=by
 cases h with
 | dead=>exact absurd rfl ho.alive
 | var=>exact .root (by simp) (ho.flat (by simp))
 | arr=>exact .root (by simp) (ho.flat (by simp))
 | map=>exact .root (by simp) (ho.flat (by simp))
 | nest=>
  cases ho with
  | root _ hb=>exact .root (by simp) hb
  | row hb ha=>exact .row hb ha
theorem fL.MA {σ:List Place} {b b':an} (h:fL σ b b'):b'≠ .dead→b≠ .dead:=by
 intro h1 U;subst U;cases h;exact h1 rfl
end
section
variable {P:Program} {A:cv} {w w':World} {I I' I2:Nat→Prop} {μ β av bQ:Nat→Option Nat} {hp hp' hp0 bj:Nat→Option an} {C:ag} {B:Nat} {M:Nat→Prop} {w0:Start}
theorem MB: ∀{vs:List Nat} {k:Nat},k<vs.length→bw (vs.map (· +1)) k=bw vs k+1
 | [],k,h=>by simp at h
 | v::vs,0,h=>rfl
 | v::vs,k+1,h=>by simp only[cH,bw];exact MB (by simpa using h)
theorem MC: ∀{vs:List Nat} {k:Nat},bw vs k≤bw (vs.map (· +1)) k
 | [],k=>by simp[bw]
 | v::vs,0=>by simp[bw]
 | v::vs,k+1=>by simp only[cH,bw];exact MC
def yJ (hp:Nat→Option an) (q:Nat × an):Prop:=(∃e es v2,q.2= .nest e es v2)→∃e es aq e' aK,hp q.1=some (.nest e es aq)∧q.2= .nest e' aK (aq.map (· +1))
theorem dI.G4 {id:Nat} {o:Option Nat} {blk:an} (h:dI P w β hp (.blk id) o blk):o=β id∧∃b0,hp id=some b0∧b0≠ .dead:=by
 cases h with
 | var h=>exact ⟨rfl,_,h,by simp⟩
 | arr h=>exact ⟨rfl,_,h,by simp⟩
 | nest h=>exact ⟨rfl,_,h,by simp⟩
 | map h=>exact ⟨rfl,_,h,by simp⟩
theorem dI.Wx {id:Nat} {o:Option Nat} {c b b' b0:an} {σ:List Place} (h:dI P w β hp (.blk id) o c) (h0:hp id=some b0) (hle:c.le b) (hb:fL σ b b') (hn:yJ hp (id,b')):b0.le b':=by
 cases h with
 | var h=>
  rw[h] at h0;cases h0
  cases hb with
  | dead=>trivial
  | var=>trivial
  | arr=>exact hle.elim
  | nest=>exact hle.elim
  | map=>exact hle.elim
 | arr h=>
  rw[h] at h0;cases h0
  cases hb with
  | dead=>trivial
  | var=>exact hle.elim
  | arr=>exact hle
  | nest=>exact hle.elim
  | map=>exact hle.elim
 | map h=>
  rw[h] at h0;cases h0
  cases hb with
  | dead=>trivial
  | map=>exact hle
  | _=>exact hle.elim
 | nest h=>
  rw[h] at h0;cases h0
  cases hb with
  | dead=>trivial
  | var=>exact hle.elim
  | arr=>exact hle
  | map=>exact hle.elim
  | @nest e es v1 v2=>
   obtain ⟨e1,b8,s8,e2,bR,k1,k2⟩:=hn ⟨_,_,_,rfl⟩
   cases k2
   change hp id=_ at k1
   rw[h] at k1;cases k1
   exact ⟨hle.1,hle.2.1,by simp,fun k=>MC⟩
theorem dI.other {p:Place} {o:Option Nat} {blk:an} (h:dI P w β hp p o blk) (he:hp' p.id=hp p.id):dI P w β hp' p o blk:=by
 cases h with
 | var h=>exact .var (he.trans h)
 | arr h=>exact .arr (he.trans h)
 | nest h=>exact .nest (he.trans h)
 | map h=>exact .map (he.trans h)
 | row h a b c d e f g=>exact .row (he.trans h) a b c d e f g
open Classical in
theorem MD (S:aF P w I β hp B M w0) {pl:List Place} {o:Nat→Option Nat} {bs:List an} {nb:Nat} {bk fr:List (Nat × an)} {σ:List Place} (qc:σ=pl++qW nb (bs.length-pl.length)) (yK:fr=pE σ nb (bs.drop pl.length))
  (jN:(pl.map Place.id).Nodup) (pR:pl.length≤bs.length)
  (oS: ∀(j:Nat) p,pl[j]? =some p→∃id b,p= .blk id∧(id,b)∈bk) (CG: ∀q∈bk,∃(j:Nat) (b:an),pl[j]? =some (.blk q.1)∧bs[j]? =some b∧fL σ b q.2∧yJ hp q)
  (hl: ∀j blk,hp0 j=some blk→∃p,dP pl j=some p∧dI P w β hp p (o j) blk) (hd: ∀j,j<pl.length→∃blk,hp0 j=some blk)
  (Sc:aF P w' I2 bQ (jd bs) w.heap.size (nP P w o hp0) ⟨w,I⟩) (vm:km w I o hp0 w' I2 bQ (jd bs)) (ru: ∀q∈fr,hp q.1=none):
  ∃av,Le P w I β hp w' I2 av (bB hp (fr++bk))∧aF P w' I2 av (bB hp (fr++bk)) B M w0∧oR σ bQ (jd bs) av (bB hp (fr++bk)):=by
 generalize G5:bB hp (fr++bk)=gu
 let av:Nat→Option Nat:=fun n=>if∃q∈fr,q.1=n then bQ (pl.length+(n-nb)) else β n
 have ME: ∀(j:Nat) id,pl[j]? =some (.blk id)→∃c,hp0 j=some c∧dI P w β hp (.blk id) (o j) c:=by
  intro j id hj
  obtain ⟨c,hc⟩:=hd j (bm.1 hj).1
  obtain ⟨p,h1,U⟩:=hl j c hc
  rw[la,hj] at h1
  cases h1
  exact ⟨c,hc,U⟩
 have uniq: ∀(j1 j2:Nat) id,pl[j1]? =some (.blk id)→pl[j2]? =some (.blk id)→j1=j2:=by
  intro j1 j2 id h1 U
  have m1:(pl.map Place.id)[j1]? =some id:=by rw[gl,h1];rfl
  have m2:(pl.map Place.id)[j2]? =some id:=by rw[gl,U];rfl
  obtain ⟨z1,z2⟩:=bm.1 m1
  obtain ⟨z3,z4⟩:=bm.1 m2
  exact (List.getElem_inj jN).1 (z2.trans z4.symm)
 have cls: ∀id,(∃i b,id=nb+i∧bs[pl.length+i]? =some b∧gu id=some (sq σ b)∧hp id=none∧av id=bQ (pl.length+i))∨
   (∃(j:Nat) (b b' c b0:an),pl[j]? =some (.blk id)∧bs[j]? =some b∧hp0 j=some c∧dI P w β hp (.blk id) (o j) c∧hp id=some b0∧b0.le b'∧gu id=some b'∧fL σ b b'∧yJ hp (id,b')∧av id=β id∧c.le b∧(b≠ .dead→bQ j=β id))∨
   (gu id=hp id∧(∀j:Nat,pl[j]? ≠some (.blk id))∧av id=β id):=by
  intro id
  by_cases hm: ∃b,(id,b)∈fr++bk
  ·obtain ⟨b,hm⟩:=hm
   obtain ⟨b',BP,he⟩:=BM (hp:=hp) hm
   rw[G5] at he
   rcases ei.1 BP with h|h
   ·have h0:=ru _ h
    have nQ:av id=bQ (pl.length+(id-nb)):=aj ⟨_,h,rfl⟩
    rw[yK] at h
    obtain ⟨i,b1,k1,k2⟩:=Mw h
    rw[gL] at k1
    cases k2
    exact .inl ⟨i,b1,rfl,k1,he,h0,by rw[nQ];congr 2;omega⟩
   ·obtain ⟨j,b1,q1,q2,q3,q4⟩:=CG _ h
    obtain ⟨c,c1,c2⟩:=ME j id q1
    obtain ⟨c3,b0,c4,c5⟩:=c2.G4
    obtain ⟨b2,d1,d2,d3⟩:=vm.blk j c c1
    rw[gC,q2] at d1
    cases d1
    refine .inr (.inl ⟨j,b1,b',c,b0,q1,q2,c1,c2,c4,c2.Wx c4 d2 q3 q4,he,q3,q4,ai ?_,d2,fun h=>(d3 h).trans c3⟩)
    rintro ⟨q,hq,Wy⟩
    rw[←Wy,ru q hq] at c4
    cases c4
  ·refine .inr (.inr ⟨?_,fun j hj=> ?_,ai ?_⟩)
   ·rcases sF (hp:=hp) (l:=fr++bk) (id:=id) with h|⟨b,hb,_⟩
    ·rw[G5] at h;exact h
    ·exact absurd ⟨b,hb⟩ hm
   ·obtain ⟨aD,b,e,hb⟩:=oS j _ hj
    cases e
    exact hm ⟨b,ei.2 (.inr hb)⟩
   ·rintro ⟨q,hq,rfl⟩
    exact hm ⟨q.2,ei.2 (.inl hq)⟩
 have MF: ∀b,nP P w o hp0 b→∃(j id:Nat) (b1:an),pl[j]? =some (.blk id)∧hp id=some b1∧bp P w (β id) b1 b∧∀e es,b1≠ .arr e es true:=by
  rintro b ⟨j,c,hc,ho⟩
  obtain ⟨p,h1,U⟩:=hl j c hc
  rw[la] at h1
  obtain ⟨id,b2,rfl,_⟩:=oS j p h1
  obtain ⟨b1,k1,k2,k3⟩:=U.s7 ho
  exact ⟨j,id,b1,h1,k1,k2,k3⟩
 have other: ∀id blk b,hp id=some blk→bp P w (β id) blk b→(∀j:Nat,pl[j]? ≠some (.blk id))→¬nP P w o hp0 b∧w'.heap[b]? =w.heap[b]? ∧(I2 b→I b):=by
  intro id blk b e1 e3 e4
  have nR: ¬nP P w o hp0 b:=by
   intro hx
   obtain ⟨j,aD,b1,i1,i2,i3,_⟩:=MF b hx
   have:=S.h.inj id aD _ _ b e1 i2 e3 i3
   subst this
   exact e4 j i1
  have aP:=S.h.lt e1 e3
  refine ⟨nR,Sc.bV b aP nR,fun h=> ?_⟩
  rcases Sc.new b h with h|h|h
  ·exact h
  ·exact absurd h nR
  ·omega
 have rm:oR σ bQ (jd bs) av gu:=by
  refine ⟨fun j b hj=> ?_,fun j hj=> ?_,fun j id ver path hj=> ?_⟩
  ·rw[gC] at hj
   by_cases bW:j<pl.length
   ·obtain ⟨id,b1,e,kZ⟩:=oS j _ (bG bW)
    have CH:pl[j]? =some (.blk id):=by rw[bG bW,e]
    have G6:dP σ j=some (.blk id):=by rw[qc];exact nO (by rw[la];exact CH)
    rcases cls id with ⟨i,b2,c1,c2,c3,c4,c5⟩|⟨j',b2,b',c,b0,q1,q2,q3,q4,q5,q6,q7,q8,q9,oT,vn,qd⟩|⟨c1,c2,c3⟩
    ·obtain ⟨c,d1,d2⟩:=ME j id CH
     obtain ⟨_,b0,d3,_⟩:=d2.G4
     rw[d3] at c4;cases c4
    ·obtain rfl:=uniq _ _ _ q1 CH
     rw[hj] at q2;cases q2
     exact ⟨id,b',G6,q7,q8,fun h=>oT.trans (qd h).symm⟩
    ·exact absurd CH (c2 j)
   ·have MG:=(bm.1 hj).1
    have G6:dP σ j=some (.blk (nb+(j-pl.length))):=by
     rw[qc,la,gN (by omega)]
     exact CF (by omega)
    have hm:(nb+(j-pl.length),sq σ b)∈fr:=by
     rw[yK]
     refine Mx ?_
     rw[gL,show pl.length+(j-pl.length)=j by omega]
     exact hj
    rcases cls (nb+(j-pl.length)) with ⟨i,b2,c1,c2,c3,c4,c5⟩|⟨j',b2,b',c,b0,q1,q2,q3,q4,q5,q6,q7,q8,q9,oT,vn,qd⟩|⟨c1,c2,c3⟩
    ·have hi:i=j-pl.length:=by omega
     subst hi
     rw[show pl.length+(j-pl.length)=j by omega] at c2 c5
     rw[hj] at c2;cases c2
     exact ⟨_,_,G6,c3,.of σ _,fun _=>c5⟩
    ·rw[ru _ hm] at q5;cases q5
    ·obtain ⟨b',BP,he⟩:=BM (hp:=hp) (l:=fr++bk) (ei.2 (.inl hm))
     rw[G5,c1,ru _ hm] at he
     cases he
  ·rw[gC] at hj
   have:=List.getElem?_eq_none_iff.1 hj
   rw[qc,la,List.getElem?_eq_none_iff,ca,G3]
   omega
  ·rw[qc,la] at hj
   by_cases bW:j<pl.length
   ·rw[hX bW] at hj
    obtain ⟨aD,b1,e,_⟩:=oS j _ hj
    cases e
   ·have MG:j-pl.length<bs.length-pl.length:=by
     have:=(bm.1 hj).1
     rw[ca,G3] at this
     omega
    rw[gN (by omega),CF MG] at hj
    cases hj
 have hle:Le P w I β hp w' I2 av gu:=by
  refine ⟨vm.cW,vm.bV,fun id blk ab=> ?_,fun id blk blk' b ab bz qe hb=> ?_,fun id e es aq e' aK vers' b q i c t v e1 l ab bz hb aP hv ht hc=> ?_⟩
  ·rcases cls id with ⟨i,b2,c1,c2,c3,c4,c5⟩|⟨j',b2,b',c,b0,q1,q2,q3,q4,q5,q6,q7,q8,q9,oT,vn,qd⟩|⟨c1,c2,c3⟩
   ·rw[ab] at c4;cases c4
   ·rw[ab] at q5;cases q5
    exact ⟨b',q7,q6,fun _=>oT⟩
   ·exact ⟨blk,c1.trans ab,an.le_refl _,fun _=>c3⟩
  ·rcases cls id with ⟨i,b2,c1,c2,c3,c4,c5⟩|⟨j',b2,b',c,b0,q1,q2,q3,q4,q5,q6,q7,q8,q9,oT,vn,qd⟩|⟨c1,c2,c3⟩
   ·rw[ab] at c4;cases c4
   ·rw[q7] at bz;cases bz
    exact vm.size j' c b2 b q3 (by rw[gC];exact q2) (q8.MA qe) (q4.G4.1.trans hb)
   ·rw[c1,ab] at bz
    cases bz
    simp only[bsize,(other id blk b ab (.root qe hb) c2).2.1]
  ·rcases cls id with ⟨i2,b2,c1,c2,c3,c4,c5⟩|⟨j',b2,b',c',b0,q1,q2,q3,q4,q5,q6,q7,q8,q9,oT,vn,qd⟩|⟨c1,c2,c3⟩
   ·rw[ab] at c4;cases c4
   ·rw[q7] at bz;cases bz
    obtain ⟨_,_,s8,_,_,k1,k2⟩:=q9 ⟨_,_,_,rfl⟩
    change hp id=_ at k1
    rw[ab] at k1;cases k1
    cases k2
    rw[MB aP] at hv
    omega
   ·rw[c1,ab] at bz
    cases bz
    exact ⟨l,rfl,hc.mono fun _ _ _ _ h=>(other id _ _ ab (.row hb h) c2).2.1⟩
 have place: ∀id blk b,gu id=some blk→bp P w' (av id) blk b→(∃j c,jd bs j=some c∧bp P w' (bQ j) c b∧dP σ j=some (.blk id))∨(b<w.heap.size∧¬nP P w o hp0 b∧hp id=some blk∧bp P w (β id) blk b):=by
  intro id blk b e1 e3
  rcases cls id with ⟨i,b2,c1,c2,c3,c4,c5⟩|⟨j',b2,b',c,b0,q1,q2,q3,q4,q5,q6,q7,q8,q9,oT,vn,qd⟩|⟨c1,c2,c3⟩
  ·rw[c3] at e1;cases e1
   rw[c5] at e3
   refine .inl ⟨pl.length+i,b2,by rw[gC];exact c2,(fL.of σ b2).s7 e3,?_⟩
   have:=(bm.1 c2).1
   rw[qc,la,gN (by omega),CF (by omega),c1]
   congr 3
   omega
  ·rw[q7] at e1;cases e1
   have qe:b2≠ .dead:=q8.MA e3.alive
   rw[oT,←qd qe] at e3
   exact .inl ⟨j',b2,by rw[gC];exact q2,q8.s7 e3,by rw[qc];exact nO (by rw[la];exact q1)⟩
  ·rw[c1] at e1
   rw[c3] at e3
   have:=e3.mono (w:=w) fun b hb=>(other id blk b e1 hb c2).2.1
   exact .inr ⟨S.h.lt e1 this,(other id blk b e1 this c2).1,e1,this⟩
 have ra: ∀b,nP P w o hp0 b∨w.heap.size≤b→M b∨B≤b:=by
  rintro b (h|h)
  ·obtain ⟨j,id,b1,i1,i2,i3,_⟩:=MF b h
   exact S.h.own id b1 b i2 i3
  ·exact .inr (lz S.size h)
 have G7: ∀j c b,jd bs j=some c→bp P w' (bQ j) c b→nP P w o hp0 b∨w.heap.size≤b:=fun j c b h1 U=>Sc.h.own j c b h1 U
 refine ⟨av,hle,⟨⟨fun id blk ab=> ?_,fun i1 i2 b1 b2 b e1 e2 f1 f2=> ?_,fun id blk b ab hb=> ?_,Sc.h.jh⟩,fun b hb hM=> ?_,lz S.size Sc.size,fun b hb=> ?_,⟨Sc.io.1.trans S.io.1,Sc.io.2.trans S.io.2⟩⟩,rm⟩
 ·rcases cls id with ⟨i,b2,c1,c2,c3,c4,c5⟩|⟨j',b2,b',c,b0,q1,q2,q3,q4,q5,q6,q7,q8,q9,oT,vn,qd⟩|⟨c1,c2,c3⟩
  ·rw[c3] at ab;cases ab
   rw[c5]
   exact rm.Mz (Sc.h.rel _ b2 (by rw[gC];exact c2)) (.of σ b2)
  ·rw[q7] at ab;cases ab
   have:=rm.Mz (Sc.h.rel j' b2 (by rw[gC];exact q2)) q8
   by_cases qe:b2= .dead
   ·subst qe
    cases q8
    exact .dead
   ·rw[oT,←qd qe]
    exact this
  ·rw[c1] at ab
   rw[c3]
   exact (S.h.rel id blk ab).mono hle fun b hb=>(other id blk b ab hb c2).2
 ·rcases place i1 b1 b e1 f1 with ⟨j1,c1,g1,g2,g3⟩|⟨g1,g2,g3,g4⟩<;>rcases place i2 b2 b e2 f2 with ⟨j2,c2,k1,k2,k3⟩|⟨k1,k2,k3,k4⟩
  ·have:=Sc.h.inj j1 j2 c1 c2 b g1 k1 g2 k2
   subst this
   rw[g3] at k3
   cases k3
   rfl
  ·rcases G7 j1 c1 b g1 g2 with h|h
   ·exact absurd h k2
   ·omega
  ·rcases G7 j2 c2 b k1 k2 with h|h
   ·exact absurd h g2
   ·omega
  ·exact S.h.inj i1 i2 _ _ b g3 k3 g4 k4
 ·rcases place id blk b ab hb with ⟨j1,c1,g1,g2,g3⟩|⟨g1,g2,g3,g4⟩
  ·exact ra b (G7 j1 c1 b g1 g2)
  ·exact S.h.own id blk b g3 g4
 ·refine (Sc.bV b (qH hb S.size) fun hx=> ?_).trans (S.bV b hb hM)
  rcases ra b (.inl hx) with h|h
  ·exact hM h
  ·omega
 ·rcases Sc.new b hb with h|h|h
  ·exact S.new b h
  ·exact .inr (ra b (.inl h))
  ·exact .inr (ra b (.inr h))
end
section
variable {P:Program} {A:cv} {w w':World} {I I' I2:Nat→Prop} {μ β av bQ:Nat→Option Nat} {hp hp' hp0 bj:Nat→Option an} {C:ag} {B:Nat} {M:Nat→Prop} {w0:Start}
theorem MH (hp:Nat→Option an): ∀(a b:List (Nat × an)),bB hp (a++b)=bB (bB hp b) a
 | [],b=>rfl
 | (i,x)::a,b=>by simp only[List.cons_append,bB,MH hp a b]
theorem vo {hp:Nat→Option an} {l:List (Nat × an)} {id:Nat} (h: ∀q∈l,q.1≠id):bB hp l id=hp id:=by
 rcases sF (hp:=hp) (l:=l) (id:=id) with h1|⟨b,hb,_⟩
 ·exact h1
 ·exact absurd rfl (h _ hb)
def xj (P : Program) : Prop := ∀ (f : Nat) fn, P.funcs[f]? = some fn → (fn.name == "runtime.NumGoroutine") = false
def MI (P:Program) (f:FuncId) (e:TypeId):Prop:=
 (∀args w,(callFunc f args).run P w= .ok (.enter f args) w)∧∃t,P.underlying t=some (.slice e)∧
  ∀(s:Value) (w:World) (Q:Ending→World→Prop),(s= .slice none 0 0→Q (.returned (.slice none 0 0)) w)→
   (∀a n c,s= .slice (some a) n c→∃v w',(Builtin.append_ #[t,t] t #[.slice (some ⟨w.heap.size,0,none⟩) 0 0,s]).run P (w.alloc (.cells #[] e))= .ok v w'∧Q (.returned v) w')→
   (s= .slice none 0 0∨∃a n c,s= .slice (some a) n c)→Calls P f #[s] w Q
structure iR (P:Program) (A:cv):Prop where
 count:xj P
 ext: ∀f T,A.ext f=some T→∀(b:Nat) (C:Array Value) (w:World),w.heap[b]? =some (.cells C T (0,0))→C.size=P.cellsOf T→(C[0]? =some (.pointer none)∨C[0]? =some (.pointer (some ⟨b,0,none⟩)))→
  (callFunc f #[.pointer (some ⟨b,0,none⟩)]).run P w= .ok (.enter f #[.pointer (some ⟨b,0,none⟩)]) w∧
  Calls P f #[.pointer (some ⟨b,0,none⟩)] w fun e w'=>e= .returned (.tuple #[])∧(w'=w∨w'=w.setCell ⟨b,0,none⟩ (.pointer (some ⟨b,0,none⟩)))
 idle: ∀f,A.idle f=true→(∀args w,(callFunc f args).run P w= .ok (.enter f args) w)∧
  ∀args w,CallsD P f args .returning w fun e u' w'=>(∃v,e= .returned v)∧u'= .returning∧w'=w
 nu: ∀f e,A.nu f=some e→MI P f e
theorem iR.here {P:Program} {A:cv} (h:iR P A) (f id:Nat):iR P (A.here f id):=⟨h.count,h.ext,h.idle,h.nu⟩
def yL (E:FuncId→Bool) (d:Deferred):Prop:= ∃f cap,d.target= .fn (.func f) cap∧E f=true
theorem G8 {P:Program} {A:cv} (hP:iR P A) {fn:Func} {tmps:Array Value} {R:Ending→World→Prop} {w:World} {v:Value} (hv:(results fn tmps).run P w= .ok v w) (hR:R (.returned v) w):
  ∀ds:List Deferred,(∀d∈ds,yL A.idle d)→Leaves P fn tmps R ds .returning w
 | [],_=>⟨v,hv,hR⟩
 | d::ds,h=>by
  obtain ⟨f,cap,ht,hf⟩:=h d (by simp)
  obtain ⟨k1,k2⟩:=hP.idle f hf
  obtain ⟨t,MJ⟩:=d
  simp only at ht
  subst ht
  refine leaves_cons (f:=f) (args:=MJ++cap) (by simp) ?_ ?_
  ·simp only[invoke];exact k1 _ w
  ·refine (k2 (MJ++cap) w).mono fun e u' w' hr=> ?_
   obtain ⟨⟨v',rfl⟩,rfl,rfl⟩:=hr
   exact G8 hP hv hR ds fun d hd=>h d (kK _ hd)
def yM (P:Program) (A:cv) (o:Oper) (a:Act) (w:World) (I:Nat→Prop) (β:Nat→Option Nat) (hp:Nat→Option an) (B:Nat) (M:Nat→Prop) (w0:Start) (r:R):Prop:=
 ∀(next:Act→World→Prop) (Q:Exit→Act→World→Prop),
  (∀v w' I' av ds,Le P w I β hp w' I' av (bB hp r.upd)→aF P w' I' av (bB hp r.upd) B M w0→ao P w' I' av (bB hp r.upd) v r.v→(∀d∈ds,d∈a.defers∨yL A.idle d)→next ({a with defers:=ds}.put o.dst v) w')→o.wp P a w next Q
theorem oH.step {o:Oper} {a:Act} {r:R} (h:oH P ((execOp a.eval o).run P w) w I β hp B M w0 r):yM P A o a w I β hp B M w0 r:=by
 obtain ⟨v,w',I',av,h1,U,h3,h4⟩:=h
 intro next Q hn
 unfold Oper.wp
 rcases h1 with h1|⟨h1,rfl⟩
 ·rw[h1];exact hn v w' I' av a.defers U h3 h4 fun d hd=> .inl hd
 ·rw[h1];exact hn _ w' I' av a.defers U h3 h4 fun d hd=> .inl hd
theorem MK: ∀(l:List (Nat × VS)),ny l=qV (l.map (·.2))
 | []=>rfl
 | (_,s)::l=>by simp only[ny,cH,qV,MK l]
theorem Wz (hC:ko P A C) (S:aF P w I β hp B M w0) (hg:gi P A.aE w I) {vals:List Value} {args:List V} {nb key:Nat} {f:FuncId} {r:R} {rd:List Nat} (hlen:vals.length=args.length)
  (cr: ∀(j:Nat) v x,vals[j]? =some v→args[j]? =some x→ao P w I β hp v x) (h:(xN P A nb key f args).run C hp=some (r,rd)):
  ∃fn c,P.funcs[f]? =some fn∧fn.body=some c∧Calls P f vals.toArray w fun e w'=> ∃v I' av,e= .returned v∧Le P w I β hp w' I' av (bB hp r.upd)∧aF P w' I' av (bB hp r.upd) B M w0∧ao P w' I' av (bB hp r.upd) v r.v:=by
 unfold xN at h
 obtain ⟨ML,h0⟩:=aG h
 clear h
 rw[aQ] at ML
 subst ML
 obtain ⟨h1,iQ,d1,u1,a1,a2,a3,a5,a4⟩:=G0 S h0 hlen cr
 obtain ⟨U,rr,d2,u2,b1,b2,b3,b4⟩:=Mo S a1
 clear h0 a1
 obtain ⟨hc,h3⟩:=aG b1
 clear b1
 simp only[aJ,aQ,ml] at hc
 obtain ⟨bL,CE⟩:=hc
 have rv:=a2.trans b2
 have kI:U.ds=d1++d2:=by have:=rv.ds;simpa using this
 have CI:U.upd=u1++u2:=by have:=rv.upd;simpa using this
 have jN:(U.pl.map Place.id).Nodup:=rv.nodup (by simp)
 obtain ⟨c1,o,c2,c3⟩:=b4 []
 simp only[dA] at c1 c2 c3
 cases yN:C key U.ds with
 | none=>
  simp only[Rd.run,yN] at h3
  cases h3
 | some es=>
  have pO: ∃eB,(xM P (A.so key es) nb U (A.lv key es)).run C hp=some (r,eB):=by
   obtain ⟨x,hx,e⟩:=bind_some h3
   rw[yN] at hx
   cases hx
   unfold cv.so cv.lv
   cases bX:A.alt key with
   | none=>rw[bX] at e;exact ⟨_,e⟩
   | some S2=>
    rw[bX] at e
    simp only[Rd.run] at e
    cases hb:(V.nth es 0).toBool<;>(rw[hb] at e;exact ⟨_,e⟩)
  clear h3
  obtain ⟨eB,h3⟩:=pO
  unfold xM at h3
  simp only at h3
  generalize gv:ek (A.so key es).a9 ((A.lv key es).drop (ny (A.so key es).bJ))=bs at h3
  generalize qc:U.pl++qW nb (bs.length-U.pl.length)=σ at h3
  generalize yK:pE σ nb (bs.drop U.pl.length)=fr at h3
  obtain ⟨p0,bk,rd4,p1,p2,_,p3⟩:=Mv h3
  obtain ⟨ru,rd5,p4⟩:=My p1
  obtain rfl:=aN p4
  have pR:U.pl.length≤bs.length:=by rw[fg] at p0;omega
  have CG: ∀q∈bk,∃(j:Nat) (b:an),U.pl[j]? =some (.blk q.1)∧bs[j]? =some b∧fL σ b q.2∧yJ hp q:=by
   intro q hq
   rcases p2 q hq with hx|⟨j,b,k1,k2,k3,k4⟩
   ·simp at hx
   ·have hj:=(bm.1 k1).1
    rw[eE hj] at k2
    exact ⟨j,b,k1,k2,k3,k4⟩
  obtain ⟨fn,c,hf,hb,G9⟩:=hC key U.ds es yN
  refine ⟨fn,c,hf,hb,?_⟩
  have WA:ek (A.sin key).a9 (U.ds.drop (ny (A.sin key).bJ))=ek (A.sin key).a9 d2:=by
   rw[kI,MK,mP a3]
  have Ha:(bf (A.sin key) U.ds).hp=jd (ek (A.sin key).a9 d2):=by
   simp only[bf,mk,WA]
  have hl: ∀j blk,(bf (A.sin key) U.ds).hp j=some blk→∃p,dP U.pl j=some p∧dI P w β hp p (o j) blk:=by
   intro j blk hj
   rw[Ha,gC] at hj
   obtain ⟨p,k1,k2⟩:=c2 j blk hj
   rw[gj] at k1
   exact ⟨p,k1,k2⟩
  have hd: ∀j,j<U.pl.length→∃blk,(bf (A.sin key) U.ds).hp j=some blk:=by
   intro j hj
   rw[Ha,gC]
   exact ⟨_,bG (by rw[c1,←bL];exact hj)⟩
  have MM:yE P w β hp U.pl o (bf (A.sin key) U.ds).hp:=by
   intro j p hj
   obtain ⟨blk,k1⟩:=hd j (by rw[la] at hj;exact (bm.1 hj).1)
   obtain ⟨p',k2,k3⟩:=hl j blk k1
   rw[hj] at k2
   cases k2
   exact ⟨blk,k1,k3⟩
  obtain ⟨pY,S1⟩:=yd S rv.Cx
  rw[←CI] at pY S1
  have i1: ∀b,I b→il P w I β hp U.upd b:=fun b h=> .inl h
  have entry:=Wt (hp0:=(bf (A.sin key) U.ds).hp) S jN CE hl (fun cD j blk hj=>by
   have fT:=hj
   rw[Ha,gC] at fT
   exact c3 (il P w I β hp U.upd) o _ i1 (fun q hq b hb=> .inr ⟨q,by rw[CI];exact ei.2 (.inr hq),hb⟩) U.pl [] (by simp) MM j blk fT (cD j blk hj)) S1.h.jh
  have WB:vals.length=(A.sin key).bJ.length:=by rw[hlen,←a5];simp
  have ha:=G9 w (il P w I β hp U.upd) o vals entry (hg.mono i1 fun _ _=>rfl) WB fun j v x hj hx=>by
   rw[kI] at hx
   exact (((a4.yF b2) (il P w I β hp U.upd) o _ i1 (fun q hq b hb=> .inr ⟨q,by rw[CI];exact hq,hb⟩) U.pl [] (by simp) MM) d2).2 j v x hj hx
  refine ha.mono fun e w' yO=> ?_
  obtain ⟨v,I2,bQ,rfl,ha⟩:=yO
  have vp:(bf (A.so key es) (A.lv key es)).hp=jd bs:=by simp only[bf,mk,gv]
  cases WC:(A.so key es).safe P with
  | true=>
   simp only[cond_true,dA]
   have gz: ∀b,I b→I2 b:=fun b h=>ha.le.cW b (i1 b h)
   obtain ⟨s1,s2⟩:=Ww WC gz ha.vl i1
   have vm:km w I o (bf (A.sin key) U.ds).hp w' I bQ (jd bs):=by
    rw[←vp]
    exact ⟨fun _ h=>h,fun b h=>ha.le.bV b (i1 b h),ha.le.blk,ha.le.size⟩
   obtain ⟨av,k1,k2,k3⟩:=MD S qc.symm yK.symm jN pR p3 CG hl hd (by rw[←vp];exact ⟨s1.h,s1.bV,s1.size,fun b h=> .inl h,s1.io⟩) vm ru
   exact ⟨v,I,av,rfl,k1,k2,k3.val (by have:=s2 v ha.res;rw[vp] at this;exact this)⟩
  | false=>
   simp only[cond_false]
   rw[←cd,MH]
   have nR: ∀p∈U.pl,bB hp U.upd p.id=hp p.id:=fun p hp=>vo fun q hq e=>
    CD CE (gk.2 ⟨q,hq,rfl⟩) (e▸gk.2 ⟨p,hp,rfl⟩)
   have WD: ∀q∈bk,∃(j:Nat) (b:an),U.pl[j]? =some (.blk q.1)∧bs[j]? =some b∧fL σ b q.2∧yJ (bB hp U.upd) q:=by
    intro q hq
    obtain ⟨j,b,k1,k2,k3,k4⟩:=CG q hq
    refine ⟨j,b,k1,k2,k3,fun hn=> ?_⟩
    have:=nR _ (jc k1)
    simp only[Place.id] at this
    rw[this]
    exact k4 hn
   have uQ: ∀j blk,(bf (A.sin key) U.ds).hp j=some blk→∃p,dP U.pl j=some p∧dI P w β (bB hp U.upd) p (o j) blk:=by
    intro j blk hj
    obtain ⟨p,k1,k2⟩:=hl j blk hj
    exact ⟨p,k1,k2.other (nR p (by rw[la] at k1;exact jc k1))⟩
   have WE: ∀q∈fr,bB hp U.upd q.1=none:=by
    intro q hq
    rw[vo fun q' yP e=> ?_]
    ·exact ru q hq
    ·obtain ⟨e1,b8,_,h5⟩:=rv.Cx q' (CI▸yP)
     rw[e,ru q hq] at h5
     rcases h5 with ⟨_,h5⟩|⟨_,h5⟩<;>cases h5
   obtain ⟨av,k1,k2,k3⟩:=MD S1 qc.symm yK.symm jN pR p3 WD uQ hd (by rw[←vp];exact ha.vl) (by rw[←vp];exact ha.le) WE
   exact ⟨v,I2,av,rfl,pY.trans k1,k2,k3.val (by have:=ha.res;rw[vp] at this;exact this)⟩
theorem MN (hC:ko P A C) (hP:iR P A) (S:aF P w I β hp B M w0) (hg:gi P A.aE w I) {a:Act} {nb key:Nat} {o:Oper} {f:FuncId} {vals:List Value} {args:List V} (hlen:vals.length=args.length)
  (cr: ∀(j:Nat) v x,vals[j]? =some v→args[j]? =some x→ao P w I β hp v x) {r:R} {rd:List Nat} (h:(xN P A nb key f args).run C hp=some (r,rd))
  (hex:(execOp a.eval o).run P w=(callFunc f vals.toArray).run P w):yM P A o a w I β hp B M w0 r:=by
 intro next Q hn
 obtain ⟨fn,c,hf,hb,G9⟩:=Wz hC S hg hlen cr h
 unfold Oper.wp
 rw[hex,MuLone.run_callFunc_enter hf (hP.count f _ hf) hb,Oper.upon_enter]
 refine G9.mono fun e w' yO=> ?_
 obtain ⟨v,I2,bQ,rfl,k1,k2,k3⟩:=yO
 exact hn v w' I2 bQ a.defers k1 k2 k3 fun d hd=> .inl hd
theorem kb.args {a:Act} {sl:Nat→V} (hs:kb P w I β hp a sl) (hg:gi P A.aE w I) {args:Array Operand} {ts:Array TypeId} (aS:args.size=ts.size):
  (args.map a.eval).toList.length=((args.toList.zip ts.toList).map fun p=>aO P A.aE p.2 sl p.1).length∧
  ∀(j:Nat) v x,(args.map a.eval).toList[j]? =some v→((args.toList.zip ts.toList).map fun p=>aO P A.aE p.2 sl p.1)[j]? =some x→ao P w I β hp v x:=by
 refine ⟨by simp;omega,fun j v x hv hx=> ?_⟩
 simp only[Array.toList_map,gl,List.getElem?_zip_eq_some,xu] at hv hx
 obtain ⟨x1,yQ,rfl⟩:=hv
 obtain ⟨⟨y1,t1⟩,⟨MO,_⟩,rfl⟩:=hx
 rw[yQ] at MO
 cases MO
 exact hs.ev hg t1 _
theorem MP {vs us:List Value} {xs ys:List V} (h1:vs.length=xs.length) (U: ∀(j:Nat) v x,vs[j]? =some v→xs[j]? =some x→ao P w I β hp v x)
  (h3: ∀(j:Nat) v x,us[j]? =some v→ys[j]? =some x→ao P w I β hp v x) (j:Nat) (v:Value) (x:V) (hv:(vs++us)[j]? =some v) (hx:(xs++ys)[j]? =some x):ao P w I β hp v x:=by
 by_cases hj:j<vs.length
 ·rw[hX hj] at hv
  rw[hX (by omega)] at hx
  exact U j v x hv hx
 ·rw[gN (by omega)] at hv
  rw[gN (by omega)] at hx
  rw[h1] at hv
  exact h3 _ v x hv hx
theorem WG (hP:iR P A) (S:aF P w I β hp B M w0) (hg:gi P A.aE w I) {a:Act} {sl:Nat→V} (hs:kb P w I β hp a sl) {dst:Option Tmp} {ty e:TypeId} {pos:String} {after:Array Edge} {guard:Option (Nat × Bool)} {f:FuncId}
  {args:Array Operand} {argTypes:Array TypeId} {nb:Nat} {r:R} {rd:List Nat} (kj:A.nu f=some e)
  (h:((match args.toList with
    | [x]=> .aC (cE P e) (qT e (aO P A.aE ty sl x) fun xs=> .aC (Nat.ble (xs.length*P.bytesOf e) cC) (iK nb (.arr e xs false) (.whole e nb) []))
    | _=> .fail):Rd R).run C hp=some (r,rd)):yM P A (Oper.mk dst (.call (Go.Call.mk (.value (.func f)) args argTypes)) ty pos after guard) a w I β hp B M w0 r:=by
 cases ha:args.toList with
 | nil=>rw[ha] at h;cases h
 | cons x l=>
  rw[ha] at h
  cases l with
  | cons _ _=>cases h
  | nil=>
   simp only at h
   have e1:args= #[x]:=by rw[←Array.toArray_toList (xs:=args),ha]
   subst e1
   have hx:=hs.ev hg ty x
   obtain ⟨au,h⟩:=aG h
   have fin: ∀{w1:World} {CJ:Nat→Option Nat},(∀id blk,hp id=some blk→dF P w1 I CJ hp (CJ id) blk)→ao P w1 I CJ hp (a.eval x) (aO P A.aE ty sl x)→∃xs,(((∃a',a.eval x= .slice a' 0 0)∧xs=[])∨∃a' c news,Row P w1 I e (a.eval x) xs a' c news)∧
     xs.length*P.bytesOf e≤cC∧hp nb=none∧r=⟨.whole e nb,[(nb,.arr e xs false)]⟩:=by
    intro w1 CJ h1 U
    obtain ⟨xs,k0,l,h⟩:=Ci h1 au U h
    obtain ⟨dB,h⟩:=aG h
    rw[dD] at dB
    obtain ⟨hn,rfl⟩:=mL h
    exact ⟨xs,k0,dB,hn,rfl⟩
   obtain ⟨c1,t,hu,c2⟩:=hP.nu f e kj
   intro next Q vq
   unfold Oper.wp
   have e2:(execOp a.eval ⟨dst,.call ⟨.value (.func f),#[x],argTypes⟩,ty,pos,after,guard⟩).run P w= .ok (.enter f #[a.eval x]) w:=by
    have eC:a.eval (.func f)= .func (.func f) #[] #[]:=rfl
    simpa[execOp,resolve,eC,Deferred.ofValue,invoke] using c1 #[a.eval x] w
   rw[e2,Oper.upon_enter]
   refine c2 _ w _ (fun yR=> ?_) (fun b n c pW=> ?_) ?_
   ·obtain ⟨xs,k0,dB,hn,rfl⟩:=fin S.h.rel hx
    have fU:xs=[]:=by
     rcases k0 with ⟨_,h⟩|⟨a,c,news,hr⟩
     ·exact h
     ·have:=hr.val.symm.trans yR
      cases this
    subst fU
    obtain ⟨a1,a2⟩:=BQ S e hn
    exact vq _ w I _ a.defers a1 a2 (.dp (cI _ _ _) (cI _ _ _)) fun d hd=> .inl hd
   ·obtain ⟨m1,m2⟩:=Uj (w':=w.alloc (.cells #[] e)) S (fun b hb=>heap_alloc_old w _ b hb) (by simp) ⟨rfl,rfl⟩
    obtain ⟨xs,k0,dB,hn,rfl⟩:=fin m2.h.rel (hx.mono m1)
    obtain ⟨v,w',av,a1,a2,a3,a4⟩:=Gp (ty:=t) (a0:=some ⟨w.heap.size,0,none⟩) m2 hu au hn dB k0
    exact ⟨v,w',a1,vq v w' I av a.defers (m1.trans a2) a3 a4 fun d hd=> .inl hd⟩
   ·obtain ⟨xs,k0,dB,hn,rfl⟩:=fin S.h.rel hx
    rcases k0 with ⟨⟨b,h⟩,_⟩|⟨b,c,news,hr⟩
    ·rw[h]
     cases b with
     | none=>exact .inl rfl
     | some b=>exact .inr ⟨_,_,_,rfl⟩
    ·exact .inr ⟨_,_,_,hr.val⟩
theorem WH (hP:iR P A) (S:aF P w I β hp B M w0) (hg:gi P A.aE w I) {a:Act} {sl:Nat→V} (hs:kb P w I β hp a sl) {dst:Option Tmp} {ty T0:TypeId} {pos:String} {after:Array Edge} {guard:Option (Nat × Bool)} {f:FuncId}
  {args:Array Operand} {argTypes:Array TypeId} {r:R} {rd:List Nat} (yS:A.ext f=some T0)
  (h:((match args.toList with
   | [x]=>
    match aO P A.aE ty sl x with
    | .ptr id i c=>Rd.get id fun
     | some (.var T cs)=> .aC (Nat.beq T T0&&(oA P T&&(Nat.beq cs.length (P.cellsOf T)&&(Nat.beq i 0&&Nat.beq c 0)))) (.ret ⟨.aY [],[(id,.var T (.undef::cs.tail))]⟩)
     | _=> .fail
    | _=> .fail
   | _=> .fail):Rd R).run C hp=some (r,rd)):yM P A (Oper.mk dst (.call (Go.Call.mk (.value (.func f)) args argTypes)) ty pos after guard) a w I β hp B M w0 r:=by
 cases ha:args.toList with
 | nil=>rw[ha] at h;cases h
 | cons x l=>
  rw[ha] at h
  cases l with
  | cons _ _=>cases h
  | nil=>
   simp only at h
   have e1:args= #[x]:=by rw[←Array.toArray_toList (xs:=args),ha]
   subst e1
   have hx:=hs.ev hg ty x
   cases eR:aO P A.aE ty sl x<;>rw[eR] at h hx<;>simp only at h<;>first|(cases h;done)|skip
   rename_i id i c
   obtain ⟨l,h1⟩:=run_get h
   cases ab:hp id with
   | none=>rw[ab] at h1;cases h1
   | some blk=>
    rw[ab] at h1
    cases blk<;>simp only at h1<;>first|(cases h1;done)|skip
    rename_i T cs
    obtain ⟨U,h3⟩:=aG h1
    simp only[aJ,aQ] at U
    obtain ⟨rfl,bM,vr,rfl,rfl⟩:=U
    obtain rfl:=aN h3
    obtain ⟨b,hb,he⟩:=hx.gx ab (by simp)
    have hr:=S.h.rel id _ ab
    rw[hb] at hr
    cases hr with
    | @var _ b' Ca _ aA hh aS hI fU fH=>
     cases aA
     have gy:a.eval x= .pointer (some ⟨b,0,none⟩):=by rw[he];simp[an.sz]
     obtain ⟨q1,q2⟩:=hP.ext f T yS b Ca w hh (aS.trans vr) (fH bM)
     have h0:0<Ca.size:=by
      rcases fH bM with k|k<;>exact (gM.1 k).1
     have nF:(V.undef::cs.tail).length=cs.length:=by
      cases cs with
      | nil=>rw[aS] at h0;simp at h0
      | cons _ _=>rfl
     have rel: ∀(C':Array Value),(∀j,0<j→C'[j]? =Ca[j]?)→∀(j:Nat) v y,C'[j]? =some v→(V.undef::cs.tail)[j]? =some y→ao P w I β hp v y:=by
      intro C' va j v y hj hy
      cases j with
      | zero=>simp at hy;subst hy;exact .undef
      | succ j=>
       rw[va _ (by omega)] at hj
       refine fU (j+1) v y hj ?_
       cases cs with
       | nil=>rw[aS] at h0;simp at h0
       | cons _ _=>simpa using hy
     have fin: ∀w' C',(∀b',b'≠b→w'.heap[b']? =w.heap[b']?)→w'.heap[b]? =some (.cells C' T (0,0))→C'.size=Ca.size→w.heap.size≤w'.heap.size→w'.os=w.os∧w'.output=w.output→
       (∀j,0<j→C'[j]? =Ca[j]?)→(C'[0]? =some (.pointer none)∨C'[0]? =some (.pointer (some ⟨b,0,none⟩)))→
       Le P w I β hp w' I β (aI hp id (some (.var T (V.undef::cs.tail))))∧aF P w' I β (aI hp id (some (.var T (V.undef::cs.tail)))) B M w0:=by
      intro w' C' k1 k2 k3 k4 k5 k6 k7
      exact BT (w':=w') (blk':= .var T (V.undef::cs.tail)) S ab (by simp) rfl hb hI (by simp) k1 (by rw[mF k2,mF hh,k3]) k4 k5 fun hle=>
       .var rfl k2 (by rw[k3,aS,nF]) hI (fun j v y hj hy=>(rel C' k6 j v y hj hy).mono hle) fun _=>k7
     intro next Q hn
     unfold Oper.wp
     have e2:(execOp a.eval ⟨dst,.call ⟨.value (.func f),#[x],argTypes⟩,ty,pos,after,guard⟩).run P w= .ok (.enter f #[.pointer (some ⟨b,0,none⟩)]) w:=by
      have eC:a.eval (.func f)= .func (.func f) #[] #[]:=rfl
      simpa[execOp,resolve,eC,Deferred.ofValue,invoke,gy] using q1
     rw[e2,Oper.upon_enter]
     refine q2.mono fun e w' yO=> ?_
     obtain ⟨rfl,hw⟩:=yO
     have MQ:Le P w I β hp w' I β (aI hp id (some (.var T (V.undef::cs.tail))))∧aF P w' I β (aI hp id (some (.var T (V.undef::cs.tail)))) B M w0:=by
      rcases hw with rfl|rfl
      ·exact fin w' Ca (fun _ _=>rfl) hh rfl (b7 _) ⟨rfl,rfl⟩ (fun _ _=>rfl) (fH bM)
      ·refine fin (w.setCell ⟨b,0,none⟩ (.pointer (some ⟨b,0,none⟩))) (Ca.setIfInBounds 0 (.pointer (some ⟨b,0,none⟩))) (fun b' bx=> ?_) ?_ (by simp) (by simp[World.setCell]) ⟨rfl,rfl⟩ (fun j hj=> ?_) (.inr ?_)
       ·simp only[World.setCell,xt]
        rw[ai (fun e=>bx e.symm)]
       ·simp[World.setCell,xt,hh]
       ·rw[Bb (by omega)]
       ·rw[Fm h0]
     exact hn (.tuple #[]) w' I β a.defers MQ.1 MQ.2 (.aY rfl fun j v y hj _=>by simp at hj) fun d hd=> .inl hd
theorem WI (hC:ko P A C) (hP:iR P A) (S:aF P w I β hp B M w0) (hg:gi P A.aE w I) {a:Act} {sl:Nat→V} (hs:kb P w I β hp a sl) {ix nb:Nat} {o:Oper} {r:R} {rd:List Nat}
  (h:(e6 P A sl ix nb o).run C hp=some (r,rd)):yM P A o a w I β hp B M w0 r:=by
 cases hc:GQ o.op with
 | false=>exact (V8 S hg hs hc h).step
 | true=>
  obtain ⟨dst,op,ty,pos,after,guard⟩:=o
  cases op<;>simp only[GQ] at hc<;>first|(cases hc;done)|skip
  case defer c=>
   obtain ⟨callee,args,argTypes⟩:=c
   cases callee with
   | invoke r m=>simp only[e6] at h;cases h
   | builtin b=>simp only[e6] at h;cases h
   | value f=>
   cases f with
   | tmp t=>
    simp only[e6] at h
    cases bM:sl t<;>rw[bM] at h<;>simp only at h<;>first|(cases h;done)|skip
    rename_i f xs ys
    obtain ⟨h1,U⟩:=aG h
    obtain rfl:=aN U
    have hv:=hs t
    rw[bM] at hv
    generalize sW:a.tmps.getD t undef=vt at hv
    cases hv with
    | @fn _ fs cs _ _ q1 q2 q3 q4=>
     intro next Q hn
     unfold Oper.wp
     have eC:a.eval (.tmp t)= .func (.func f) fs cs:=sW
     have e1:(execOp a.eval ⟨dst,.defer ⟨.value (.tmp t),args,argTypes⟩,ty,pos,after,guard⟩).run P w= .ok (.defer {target:= .fn (.func f) cs,args:=fs++args.map a.eval}) w:=by
      simp[execOp,resolve,eC,Deferred.ofValue]
     rw[e1,Oper.upon_defer]
     exact hn undef w I β _ (Le.refl w I β hp) S .undef fun d hd=>by
      rcases cY.1 hd with rfl|hd
      ·exact .inr ⟨f,cs,rfl,h1⟩
      ·exact .inl hd
   | func f=>simp only[e6] at h;cases h
   | const _=>simp only[e6] at h;cases h
   | global _=>simp only[e6] at h;cases h
  rename_i c
  obtain ⟨callee,args,argTypes⟩:=c
  cases callee with
  | invoke r m=>cases hc
  | builtin b=>cases hc
  | value f=>
   cases f with
   | func f=>
    simp only[e6] at h
    cases yS:A.ext f with
    | some T0=>
     rw[yS] at h
     simp only at h
     exact WH hP S hg hs yS h
    | none=>
    rw[yS] at h
    simp only at h
    cases kj:A.nu f with
    | some e0=>
     rw[kj] at h
     simp only at h
     exact WG hP S hg hs kj h
    | none=>
    rw[kj] at h
    simp only at h
    obtain ⟨h1,U⟩:=aG h
    rw[aQ] at h1
    obtain ⟨k1,k2⟩:=hs.args hg h1
    refine MN hC hP S hg k1 k2 U ?_
    have e1:(args.map a.eval).toList.toArray=args.map a.eval:=Array.toArray_toList
    rw[e1]
    simp[execOp,resolve,Act.eval,Deferred.ofValue,invoke]
   | tmp t=>
    simp only[e6] at h
    cases bM:sl t<;>rw[bM] at h<;>simp only at h<;>first|(cases h;done)|skip
    rename_i f xs ys
    obtain ⟨h1,U⟩:=aG h
    rw[aQ] at h1
    obtain ⟨k1,k2⟩:=hs.args hg h1
    have hv:=hs t
    rw[bM] at hv
    generalize sW:a.tmps.getD t undef=vt at hv
    cases hv with
    | @fn _ fs cs _ _ q1 q2 q3 q4=>
     have l1:fs.toList.length=xs.length:=by simpa using q1
     have l3:cs.toList.length=ys.length:=by simpa using q3
     have r1: ∀(j:Nat) v x,fs.toList[j]? =some v→xs[j]? =some x→ao P w I β hp v x:=fun j v x hj hx=>q2 j v x (by simpa using hj) hx
     have r3: ∀(j:Nat) v x,cs.toList[j]? =some v→ys[j]? =some x→ao P w I β hp v x:=fun j v x hj hx=>q4 j v x (by simpa using hj) hx
     refine MN hC hP S hg (vals:=fs.toList++(args.map a.eval).toList++cs.toList) (args:=xs++((args.toList.zip argTypes.toList).map fun p=>aO P A.aE p.2 sl p.1)++ys) (by simp only[ca];omega) ?_ U ?_
     ·exact MP (by simp only[ca];omega) (MP l1 r1 k2) r3
     ·have e1:(fs.toList++(args.map a.eval).toList++cs.toList).toArray=fs++args.map a.eval++cs:=by
       apply Array.toList_inj.1;simp
      rw[e1]
      have eC:a.eval (.tmp t)= .func (.func f) fs cs:=sW
      simp[execOp,resolve,eC,Deferred.ofValue,invoke]
   | _=>cases hc
end
section
variable {P:Program} {A:cv} {w w':World} {I I' I2:Nat→Prop} {μ β av:Nat→Option Nat} {hp hp':Nat→Option an} {C:ag} {B:Nat} {M:Nat→Prop} {w0:Start}
structure iz (P:Program) (E:FuncId→Bool) (G:Nat→V) (w:World) (I:Nat→Prop) (β:Nat→Option Nat) (n:Nat) (a:Act) (st:St):Prop where
 sl:kb P w I β st.hp a st.sl
 size:a.tmps.size=n
 defers: ∀d∈a.defers,yL E d
 aE:gi P G w I
theorem Hb {E:FuncId→Bool} {G:Nat→V} {n:Nat} {a:Act} {st:St} {o:Oper} {v:Value} {x:V} {hp':Nat→Option an} {ds:List Deferred} (h:iz P E G w I β n a st) (hle:Le P w I β st.hp w' I' av hp') (hd:qX o n=true)
  (hv:ao P w' I' av hp' v x) (kI: ∀d∈ds,d∈a.defers∨yL E d):iz P E G w' I' av n ({a with defers:=ds}.put o.dst v) ⟨gQ st.sl o.dst x,hp',st.nb⟩:=by
 have MR: ∀d∈ds,yL E d:=fun d hd=>(kI d hd).elim (h.defers d) id
 cases WJ:o.dst with
 | none=>exact ⟨fun k=>(h.sl k).mono hle,h.size,MR,h.aE.mono hle.cW hle.bV⟩
 | some d=>
  have aP:d<a.tmps.size:=by
   unfold qX at hd
   rw[WJ] at hd
   rw[h.size]
   simpa using hd
  refine ⟨fun k=> ?_,by simp[Act.put,h.size],MR,h.aE.mono hle.cW hle.bV⟩
  simp only[Act.put,gQ,aI]
  cases hb:Nat.beq k d with
  | true=>
   rw[aQ] at hb
   subst hb
   simpa[aP] using hv
  | false=>
   have bx:d≠k:=fun e=>by rw[e,jb] at hb;cases hb
   have:=(h.sl k).mono hle
   simpa[Bb bx] using this
theorem MS {E:FuncId→Bool} {G:Nat→V} {n:Nat} {a:Act} {st:St} {d:Nat} {b:Bool} (h:iz P E G w I β n a st) (hd:st.sl d= .bool b):a.tmps[d]? =some (.bool b):=by
 have:=h.sl d
 rw[hd] at this
 have:=this.jJ
 cases ht:a.tmps[d]? with
 | none=>simp[ht] at this;cases this
 | some v=>simp[ht] at this;rw[this]
theorem WK {x:V} {b:Bool} (h:kM x=some (some b)):x= .bool b:=by
 cases x with
 | bool c=>simp only[kM] at h;injection h with h;injection h with h;rw[h]
 | aY vs=>cases vs<;>simp[kM] at h
 | _=>simp[kM] at h
theorem WM {x:V} (h:kM x=some none):x= .aY []:=by
 cases x with
 | aY vs=>cases vs with
  | nil=>rfl
  | cons _ _=>simp[kM] at h
 | bool c=>simp[kM] at h
 | _=>simp[kM] at h
theorem ao.WN {v:Value} (h:ao P w I β hp v (.aY [])):v= .tuple #[]:=by
 cases h with
 | @aY cs _ hs _=>
  have:cs= #[]:=by
   apply Array.eq_empty_of_size_eq_zero
   simpa using hs
  rw[this]
theorem ao.MT:ao P w I β hp Go.undef (.aY []):= .aY (by rfl) (fun j v x _ hx=>by simp at hx)
theorem MU (hC:ko P A C) (hP:iR P A) {ops:Array Oper} {n i nb:Nat} {o:Oper} (ho:ops[i]? =some o) {a:Act} {st st':St} {R W:List Nat} (S:aF P w I β st.hp B M w0) (hA:iz P A.idle A.aE w I β n a st)
  (h:gq P A C n ops i o nb st=some (st',R,W)) {K:Act→World→Prop} {Q:Exit→Act→World→Prop}
  (hK: ∀a' w' I' av,Le P w I β st.hp w' I' av st'.hp→aF P w' I' av st'.hp B M w0→iz P A.idle A.aE w' I' av n a' st'→K a' w'):wpOp P ops Q i K a w:=by
 unfold gq at h
 cases hd:qX o n with
 | false=>rw[hd] at h;cases h
 | true=>
  rw[hd] at h
  simp only[cond_true] at h
  have go: ∀{Hc:St} {R W:List Nat},(((e6 P A st.sl i (nb+64*i) o).run C st.hp).bind fun r=>some ((⟨gQ st.sl o.dst r.1.v,bB st.hp r.1.upd,st.nb⟩:St),pH r.2 r.1.upd,fk st.hp r.1.upd))=some (Hc,R,W)→Hc=st'→
    o.wp P a w K Q:=by
   intro Hc R W h e
   obtain ⟨⟨r,rd⟩,h1,U⟩:=bind_some h
   cases U
   subst e
   exact WI hC hP S hA.aE hA.sl h1 K Q fun v w' I' av ds k1 k2 k3 k4=>hK _ w' I' av k1 k2 (Hb hA k1 hd k3 k4)
  unfold wpOp
  rw[ho]
  simp only
  cases hg:o.guard with
  | none=>
   rw[hg] at h
   simp only[Region.wanted,hg,dc]
   exact .inl (go h rfl)
  | some gw=>
   obtain ⟨g,want⟩:=gw
   rw[hg] at h
   simp only at h
   cases lb:(ops[g]?).bind (·.dst) with
   | none=>rw[lb] at h;cases h
   | some d=>
    rw[lb] at h
    simp only at h
    cases lQ:kM (st.sl d) with
    | none=>rw[lQ] at h;cases h
    | some ob=>
    rw[lQ] at h
    cases ob with
    | none=>
     have pW:=WM lQ
     have hy:yielded ops a.tmps g=none:=by
      unfold yielded
      rw[lb]
      have:=hA.sl d
      rw[pW] at this
      have hu:=ao.WN this
      simp only[Option.bind_some]
      cases ht:a.tmps[d]? with
      | none=>rfl
      | some v=>simp[ht] at hu;subst hu;rfl
     simp only[Region.wanted,hg,hy]
     injection h with h
     injection h with h3 h4
     subst h3
     have U:((none:Option Bool)==some want)=false:=rfl
     simp only[U,Bool.false_eq_true,fO]
     exact hK _ w I β (Le.refl w I β st.hp) S (Hb (ds:=a.defers) hA (Le.refl w I β st.hp) hd ao.MT fun d h=> .inl h)
    | some b=>
    simp only at h
    have pW:=WK lQ
    have hy:yielded ops a.tmps g=some b:=by
     unfold yielded
     rw[lb]
     simp only[Option.bind_some,MS hA pW]
    simp only[Region.wanted,hg,hy]
    by_cases hb:b=want
    ·subst hb
     simp only[beq_self_eq_true,cond_true] at h
     simp only[beq_self_eq_true,dc]
     exact .inl (go h rfl)
    ·have h1:(b==want)=false:=by simp[hb]
     have U:(some b==some want)=false:=by simp[hb]
     rw[h1] at h
     simp only[cond_false] at h
     injection h with h
     injection h with h3 h4
     subst h3
     simp only[U,Bool.false_eq_true,fO]
     exact hK _ w I β (Le.refl w I β st.hp) S (Hb (ds:=a.defers) hA (Le.refl w I β st.hp) hd ao.MT fun d h=> .inl h)
def s9 (hp hp':Nat→Option an) (c:Nat):Prop:=hp' c=hp c∧(KB≤c→fE (hp' (c-KB))=fE (hp (c-KB)))
theorem s9.symm {c:Nat} (h:s9 hp hp' c):s9 hp' hp c:=⟨h.1.symm,fun hc=>(h.2 hc).symm⟩
theorem ry {α:Type}: ∀{p:Rd α} {r:α} {rd:List Nat},p.run C hp=some (r,rd)→(∀id∈rd,s9 hp hp' id)→p.run C hp'=some (r,rd)
 | .ret a,r,rd,h,_=>h
 | .fail,r,rd,h,_=>by cases h
 | .get id k,r,rd,h,he=>by
  obtain ⟨x,h1,U⟩:=bind_some h
  cases U
  have e1:hp' id=hp id:=(he id (by simp)).1
  have:=ry (p:=k (hp id)) (r:=x.1) (rd:=x.2) h1 (fun i hi=>he i (by simp[hi]))
  simp only[Rd.run,e1,this,Option.bind_some]
 | .live id ok k,r,rd,h,he=>by
  simp only[Rd.run] at h⊢
  cases hk:ok (fE (hp id)) with
  | false=>rw[hk] at h;cases h
  | true=>
   rw[hk] at h
   obtain ⟨x,h1,U⟩:=bind_some h
   cases U
   have e1:fE (hp' id)=fE (hp id):=by
    have:=(he (id+KB) (by simp)).2 (Nat.le_add_left _ _)
    rwa [uw] at this
   have:=ry (p:=k) (r:=x.1) (rd:=x.2) h1 (fun i hi=>he i (by simp[hi]))
   rw[e1,hk,this]
   rfl
 | .opt o k,r,rd,h,he=>by
  obtain ⟨x,h1,U⟩:=bind_some h
  simp only[Rd.run,h1,Option.bind_some]
  exact ry U he
 | .aC b k,r,rd,h,he=>by
  obtain ⟨h1,U⟩:=aG h
  simp only[Rd.run,h1,cond_true]
  exact ry U he
 | .call key ds k,r,rd,h,he=>by
  obtain ⟨x,h1,U⟩:=bind_some h
  simp only[Rd.run,h1,Option.bind_some]
  exact ry U he
 | .alt true x y,r,rd,h,he=>ry (p:=x) h he
 | .alt false x y,r,rd,h,he=>ry (p:=y) h he
theorem WO {G:Nat→V} {sl sl':Nat→V} {t:TypeId} {x:Operand} (h: ∀k,x= .tmp k→sl k=sl' k):aO P G t sl x=aO P G t sl' x:=by
 cases x with
 | tmp k=>exact h k rfl
 | _=>rfl
theorem WQ {sl sl':Nat→V} {ix nb:Nat} {o:Oper} (h: ∀x∈o.op.operands,∀k,x= .tmp k→sl k=sl' k):e6 P A sl ix nb o=e6 P A sl' ix nb o:=by
 have eC: ∀t x,x∈o.op.operands→aO P A.aE t sl x=aO P A.aE t sl' x:=fun t x hx=>WO (h x hx)
 obtain ⟨dst,op,ty,pos,after,guard⟩:=o
 have MV: ∀(t:TypeId) (ps:Array (Nat × Operand)),(∀x∈ps.map (·.2),aO P A.aE t sl x=aO P A.aE t sl' x)→
   (ps.toList.map fun p=>(p.1,aO P A.aE t sl p.2))=ps.toList.map fun p=>(p.1,aO P A.aE t sl' p.2):=fun t ps hp=>
  qN fun p hm=>by rw[hp p.2 (Array.mem_map.2 ⟨p,ow.1 hm,rfl⟩)]
 have WR: ∀(t:TypeId) (ps:Array (Nat × Operand)),(∀x∈ps.map (·.2),aO P A.aE t sl x=aO P A.aE t sl' x)→
   (ps.toList.map fun p=>(aO P A.aE t sl p.2).cells)=ps.toList.map fun p=>(aO P A.aE t sl' p.2).cells:=fun t ps hp=>
  qN fun p hm=>by rw[hp p.2 (Array.mem_map.2 ⟨p,ow.1 hm,rfl⟩)]
 cases op<;>simp only[Op.operands] at eC<;>simp only[e6]
 case pick c x y=>rw[eC ty c (by simp),eC ty x (by simp),eC ty y (by simp)]
 case build t ps=>rw[MV ty ps fun x hx=>eC ty x (by simpa using hx),WR ty ps fun x hx=>eC ty x (by simpa using hx)]
 case buildSlice t len ps=>
  split
  ·rename_i e _
   rw[MV e ps fun x hx=>eC e x (by simpa using hx)]
  ·rfl
 case slice t x lo hi mx=>
  cases mx with
  | some m=>
   have e1:lo.map (aO P A.aE 0 sl)=lo.map (aO P A.aE 0 sl'):=by
    cases lo with
    | none=>rfl
    | some l=>simp only[Option.map_some,eC 0 l (by simp)]
   have e2:hi.map (aO P A.aE 0 sl)=hi.map (aO P A.aE 0 sl'):=by
    cases hi with
    | none=>rfl
    | some l=>simp only[Option.map_some,eC 0 l (by simp)]
   have e3:=eC 0 m (by simp)
   simp only[eC ty x (by simp),e1,e2,e3]
  | none=>
   have e1:lo.map (aO P A.aE 0 sl)=lo.map (aO P A.aE 0 sl'):=by
    cases lo with
    | none=>rfl
    | some l=>simp only[Option.map_some,eC 0 l (by simp)]
   have e2:hi.map (aO P A.aE 0 sl)=hi.map (aO P A.aE 0 sl'):=by
    cases hi with
    | none=>rfl
    | some l=>simp only[Option.map_some,eC 0 l (by simp)]
   simp only[eC ty x (by simp),e1,e2]
 case call c=>
  obtain ⟨callee,args,argTypes⟩:=c
  have ta: ∀t x,x∈args→aO P A.aE t sl x=aO P A.aE t sl' x:=fun t x hx=>eC t x (by simp[Call.operands,hx])
  have hl: ∀t (l:List Operand),(∀x∈l,x∈args)→l.map (aO P A.aE t sl)=l.map (aO P A.aE t sl'):=fun t l hl=>qN fun x hx=>ta t x (hl x hx)
  have hz:((args.toList.zip argTypes.toList).map fun p=>aO P A.aE p.2 sl p.1)=(args.toList.zip argTypes.toList).map fun p=>aO P A.aE p.2 sl' p.1:=
   qN fun p hp=>ta p.2 p.1 (ow.1 (List.of_mem_zip hp).1)
  cases callee with
  | invoke r m=>rfl
  | builtin b=>
   have bX: ∀x∈args.toList,∀t,aO P A.aE t sl x=aO P A.aE t sl' x:=fun x hx t=>ta t x (ow.1 hx)
   have Hd: ∀t (l:List Operand),(∀x∈l,∀t,aO P A.aE t sl x=aO P A.aE t sl' x)→l.map (aO P A.aE t sl)=l.map (aO P A.aE t sl'):=fun t l h=>qN fun x hx=>h x hx t
   cases b<;>first|rfl|skip
   case append=>
    dsimp only
    generalize args.toList=al at bX
    match al,bX,argTypes.toList with
    | [s,x],bX,[t,u]=>simp only[bX s (by simp),bX x (by simp)]
    | [],_,_=>rfl
    | [_],_,_=>rfl
    | _::_::_::_,_,_=>rfl
    | [_,_],_,[]=>rfl
    | [_,_],_,[_]=>rfl
    | [_,_],_,_::_::_::_=>rfl
   case copy=>
    dsimp only
    generalize args.toList=al at bX
    match al,bX,argTypes.toList with
    | [s,x],bX,[t,u]=>simp only[bX s (by simp),bX x (by simp)]
    | [],_,_=>rfl
    | [_],_,_=>rfl
    | _::_::_::_,_,_=>rfl
    | [_,_],_,[]=>rfl
    | [_,_],_,[_]=>rfl
    | [_,_],_,_::_::_::_=>rfl
   case len=>
    dsimp only
    generalize args.toList=al at bX
    match al,bX,argTypes.toList with
    | [x],bX,[t]=>simp only[bX x (by simp)]
    | [],_,_=>rfl
    | _::_::_,_,_=>rfl
    | [_],_,[]=>rfl
    | [_],_,_::_::_=>rfl
   case clear=>
    dsimp only
    generalize args.toList=al at bX
    match al,bX,argTypes.toList with
    | [x],bX,[t]=>simp only[bX x (by simp)]
    | [],_,_=>rfl
    | _::_::_,_,_=>rfl
    | [_],_,[]=>rfl
    | [_],_,_::_::_=>rfl
   case unsafeSliceData=>
    dsimp only
    generalize args.toList=al at bX
    match al,bX with
    | [],_=>rfl
    | [x],bX=>simp only[bX x (by simp)]
    | _::_::_,_=>rfl
   case unsafeString=>
    dsimp only
    generalize args.toList=al at bX
    match al,bX,argTypes.toList with
    | [s,x],bX,[t,u]=>simp only[bX s (by simp),bX x (by simp)]
    | [],_,_=>rfl
    | [_],_,_=>rfl
    | _::_::_::_,_,_=>rfl
    | [_,_],_,[]=>rfl
    | [_,_],_,[_]=>rfl
    | [_,_],_,_::_::_::_=>rfl
   case max=>
    dsimp only
    generalize args.toList=al at bX
    match al,bX with
    | [],_=>rfl
    | x::l,bX=>simp only[bX x (by simp),Hd ty l (fun y hy=>bX y (by simp[hy]))]
   case min=>
    dsimp only
    generalize args.toList=al at bX
    match al,bX with
    | [],_=>rfl
    | x::l,bX=>simp only[bX x (by simp),Hd ty l (fun y hy=>bX y (by simp[hy]))]
  | value f=>
   cases f<;>first|rfl|skip
   ·rename_i t
    have ht:sl t=sl' t:=h (.tmp t) (by simp[Op.operands,Call.operands]) t rfl
    simp only[hz,ht]
   ·simp only[hz]
    cases hx:args.toList with
    | nil=>rfl
    | cons x l=>
     cases l with
     | cons _ _=>rfl
     | nil=>simp only[ta ty x (ow.1 (by rw[hx];simp))]
 case defer c=>
  obtain ⟨callee,args,argTypes⟩:=c
  cases callee with
  | invoke r m=>rfl
  | builtin b=>rfl
  | value f=>
   cases f<;>first|rfl|skip
   rename_i t
   have ht:sl t=sl' t:=h (.tmp t) (by simp[Op.operands,Call.operands]) t rfl
   simp only[ht]
 case makeFunc fn a b=>
  cases fn<;>first|rfl|skip
  have e1:a.toList.map (aO P A.aE ty sl)=a.toList.map (aO P A.aE ty sl'):=qN fun x hx=>eC ty x (by simp[ow.1 hx])
  have e2:b.toList.map (aO P A.aE ty sl)=b.toList.map (aO P A.aE ty sl'):=qN fun x hx=>eC ty x (by simp[ow.1 hx])
  dsimp only
  rw[e1,e2]
 case makeMap t r=>cases r<;>rfl
 all_goals first
  | rfl
  | (simp[eC];done)
end
section
variable {P:Program} {A:cv} {w w':World} {I I' I2:Nat→Prop} {μ β av:Nat→Option Nat} {hp hp':Nat→Option an} {C:ag} {B:Nat} {M:Nat→Prop} {w0:Start}
theorem He {q:Nat × an} {upd:List (Nat × an)} (h:q∈upd):q.1∈fk hp upd:=by
 unfold fk
 rw[List.mem_flatMap]
 refine ⟨q,h,?_⟩
 cases Nat.beq (fE (hp q.1)) (fE (some q.2))<;>simp
theorem WS {upd:List (Nat × an)} (h: ∀q∈upd,fE (hp' q.1)=fE (hp q.1)):fk hp' upd=fk hp upd:=by
 unfold fk
 induction upd with
 | nil=>rfl
 | cons q l ih=>
  rw[mr,mr,ih fun x hx=>h x (kK _ hx),h q (by simp)]
theorem MW {c:Nat}: ∀{upd:List (Nat × an)},c∉fk hp upd→s9 hp (bB hp upd) c:=fun {upd} h=>by
 refine ⟨vo fun q hq e=>h (e▸He hq),fun hc=> ?_⟩
 induction upd with
 | nil=>rfl
 | cons q l ih=>
  have hl:c∉fk hp l:=fun hx=>h (by unfold fk at*;rw[mr];exact Bh _ hx)
  have hq:fE (hp q.1)=fE (some q.2)∨c≠q.1+KB:=by
   cases hb:Nat.beq (fE (hp q.1)) (fE (some q.2)) with
   | true=>exact .inl (xm hb)
   | false=>
    refine .inr fun e=>h ?_
    unfold fk
    rw[mr,hb,e]
    simp
  show fE (aI (bB hp l) q.1 (some q.2) (c-KB))=_
  simp only[aI]
  cases hb:Nat.beq (c-KB) q.1 with
  | false=>exact ih hl
  | true=>
   have e:=xm hb
   rcases hq with hq|hq
   ·rw[cond_true,e];exact hq.symm
   ·exact absurd (by omega) hq
theorem MX {n i nb:Nat} {ops:Array Oper} {o:Oper} {st st':St} {R W:List Nat} (h:gq P A C n ops i o nb st=some (st',R,W)):
  ∃x upd,st'=⟨gQ st.sl o.dst x,bB st.hp upd,st.nb⟩∧W=fk st.hp upd∧∀dJ:St,(∀d∈o.looksAt ops,dJ.sl d=st.sl d)→(∀id∈R,s9 st.hp dJ.hp id)→
   gq P A C n ops i o nb dJ=some (⟨gQ dJ.sl o.dst x,bB dJ.hp upd,dJ.nb⟩,R,W)∧W=fk dJ.hp upd:=by
 unfold gq at h
 cases hd:qX o n with
 | false=>rw[hd] at h;cases h
 | true=>
  rw[hd] at h
  simp only[cond_true] at h
  have go:(((e6 P A st.sl i (nb+64*i) o).run C st.hp).bind fun r=>some ((⟨gQ st.sl o.dst r.1.v,bB st.hp r.1.upd,st.nb⟩:St),pH r.2 r.1.upd,fk st.hp r.1.upd))=some (st',R,W)→
    ∃x upd,st'=⟨gQ st.sl o.dst x,bB st.hp upd,st.nb⟩∧W=fk st.hp upd∧∀dJ:St,(∀d∈o.looksAt ops,dJ.sl d=st.sl d)→(∀id∈R,s9 st.hp dJ.hp id)→
     (((e6 P A dJ.sl i (nb+64*i) o).run C dJ.hp).bind fun r=>some ((⟨gQ dJ.sl o.dst r.1.v,bB dJ.hp r.1.upd,dJ.nb⟩:St),pH r.2 r.1.upd,fk dJ.hp r.1.upd))=some (⟨gQ dJ.sl o.dst x,bB dJ.hp upd,dJ.nb⟩,R,W)∧W=fk dJ.hp upd:=by
   intro h
   obtain ⟨⟨r,rd⟩,h1,U⟩:=bind_some h
   cases U
   refine ⟨r.v,r.upd,rfl,rfl,fun dJ hs hh=> ?_⟩
   have hw:fk dJ.hp r.upd=fk st.hp r.upd:=WS fun q hq=>by
    have:=(hh (q.1+KB) (Bh _ (gk.2 ⟨q,hq,rfl⟩))).2 (Nat.le_add_left _ _)
    rwa [uw] at this
   rw[WQ (sl':=st.sl) fun x hx k hk=> ?_,ry h1 fun c hc=>hh c (List.mem_append_left _ hc)]
   ·refine ⟨?_,hw.symm⟩
    rw[Option.bind_some,hw]
   ·subst hk
    exact hs k (List.mem_append_left _ (List.mem_filterMap.2 ⟨.tmp k,by simpa using hx,rfl⟩))
  cases hg:o.guard with
  | none=>
   rw[hg] at h
   obtain ⟨x,upd,e1,e2,e3⟩:=go h
   refine ⟨x,upd,e1,e2,fun dJ hs hh=> ?_⟩
   unfold gq
   simp only[hd,cond_true,hg]
   exact e3 dJ hs hh
  | some gw=>
   obtain ⟨g,want⟩:=gw
   rw[hg] at h
   simp only at h
   cases lb:(ops[g]?).bind (·.dst) with
   | none=>rw[lb] at h;cases h
   | some d=>
    rw[lb] at h
    simp only at h
    have Hf:d∈o.looksAt ops:=Bh _ (by rw[hg];simp[lb])
    cases lQ:kM (st.sl d) with
    | none=>rw[lQ] at h;cases h
    | some ob=>
    rw[lQ] at h
    cases ob with
    | none=>
     injection h with h
     injection h with h3 h4
     injection h4 with h5 h6
     subst h5;subst h6
     refine ⟨.aY [],[],h3.symm,rfl,fun dJ hs hh=> ?_⟩
     unfold gq
     simp only[hd,cond_true,hg,lb,hs d Hf,lQ]
     exact ⟨rfl,rfl⟩
    | some b=>
    simp only at h
    cases hb:b==want with
    | true=>
     rw[hb] at h
     obtain ⟨x,upd,e1,e2,e3⟩:=go h
     refine ⟨x,upd,e1,e2,fun dJ hs hh=> ?_⟩
     unfold gq
     simp only[hd,cond_true,hg,lb,hs d Hf,lQ,hb]
     exact e3 dJ hs hh
    | false=>
     rw[hb] at h
     simp only[cond_false] at h
     injection h with h
     injection h with h3 h4
     injection h4 with h5 h6
     subst h5;subst h6
     refine ⟨.aY [],[],h3.symm,rfl,fun dJ hs hh=> ?_⟩
     unfold gq
     simp only[hd,cond_true,hg,lb,hs d Hf,lQ,hb,cond_false]
     exact ⟨rfl,rfl⟩
theorem MY {sl:Nat→V} {d:Option Nat} {x:V} {k:Nat} (h:d≠some k):gQ sl d x k=sl k:=by
 cases d with
 | none=>rfl
 | some d=>exact dS _ _ fun e=>h (by rw[e])
theorem WU {hp:Nat→Option an} {a b:List (Nat × an)} (h: ∀q∈a,∀q'∈b,q.1≠q'.1):bB (bB hp a) b=bB (bB hp b) a:=by
 funext id
 by_cases ha: ∃q∈a,q.1=id
 ·have hb: ∀q∈b,q.1≠id:=by
   obtain ⟨q,hq,rfl⟩:=ha
   exact fun q' yP e=>h q hq q' yP e.symm
  rw[vo hb]
  obtain ⟨q,hq,rfl⟩:=ha
  have same: ∀(bj gu:Nat→Option an) (l:List (Nat × an)) (q:Nat × an),q∈l→bB bj l q.1=bB gu l q.1:=by
   intro bj gu l
   induction l with
   | nil=>intro q hq;simp at hq
   | cons p l ih=>
    intro q hq
    simp only[bB,aI]
    cases hb:Nat.beq q.1 p.1 with
    | true=>rfl
    | false=>
     simp only[cond_false]
     refine ih q ((cY.1 hq).resolve_left fun e=> ?_)
     rw[e,jb] at hb;cases hb
  exact same _ _ a q hq
 ·rw[vo (hp:=bB hp b) (l:=a) fun q hq e=>ha ⟨q,hq,e⟩]
  have same: ∀(bj gu:Nat→Option an) (l:List (Nat × an)),bj id=gu id→bB bj l id=bB gu l id:=by
   intro bj gu l he
   induction l with
   | nil=>exact he
   | cons p l ih=>
    simp only[bB,aI]
    cases hb:Nat.beq id p.1 with
    | true=>rfl
    | false=>exact ih
  exact same _ _ b (vo fun q hq e=>ha ⟨q,hq,e⟩)
structure MZ (ops:Array Oper) (o1 o2:Oper) (R1 W1 R2 W2:List Nat):Prop where
 apart:Oper.apart ops o1 o2=true
 w: ∀id∈W1,id∉R2∧id∉W2
 r: ∀id∈R1,id∉W2
theorem WV {n i j nb:Nat} {ops:Array Oper} {o1 o2:Oper} {st iA dJ:St} {R1 W1 R2 W2:List Nat} (h1:gq P A C n ops i o1 nb st=some (iA,R1,W1)) (U:gq P A C n ops j o2 nb iA=some (dJ,R2,W2))
  (hi:MZ ops o1 o2 R1 W1 R2 W2): ∃CK,gq P A C n ops j o2 nb st=some (CK,R2,W2)∧gq P A C n ops i o1 nb CK=some (dJ,R1,W1):=by
 obtain ⟨x1,u1,e1,f1,g1⟩:=MX h1
 obtain ⟨x2,u2,e2,f2,g2⟩:=MX U
 obtain ⟨a1,a2,a3⟩:=Oper.apart_spec hi.apart
 subst e1
 have k2:=g2 st (fun d hd=>by simp only;rw[MY fun e=>a1 d e hd]) fun c hc=>(MW fun hw=>(hi.w c (by rw[f1];exact hw)).1 hc).symm
 refine ⟨_,k2.1,?_⟩
 rw[(g1 _ (fun d hd=> ?_) (fun c hd=> ?_)).1,e2]
 ·congr 3
  ·funext k
   cases CL:o1.dst with
   | none=>rfl
   | some d1=>
    cases im:o2.dst with
    | none=>rfl
    | some d2=>
     have bx:d2≠d1:=fun e=>a2 d1 CL (by rw[im,e])
     simp only[gQ,aI]
     cases M0:Nat.beq k d1<;>cases lR:Nat.beq k d2<;>simp only[cond_true,cond_false]
     rw[aQ] at M0 lR
     exact absurd (lR.symm.trans M0) bx
  ·exact (WU fun q hq q' yP e=>(hi.w q.1 (by rw[f1];exact He hq)).2 (by rw[f2,e];exact He yP)).symm
 ·simp only
  rw[MY fun e=>a3 d e hd]
 ·exact MW fun hw=>hi.r c hd (by rw[k2.2];exact hw)
def vu (P:Program) (A:cv) (C:ag) (n:Nat) (ops:Array Oper) (nb:Nat):List (Nat × Oper × List Nat × List Nat)→St→St→Prop
 | [],st,st'=>st=st'
 | (i,o,R,W)::l,st,st'=> ∃iA,gq P A C n ops i o nb st=some (iA,R,W)∧vu P A C n ops nb l iA st'
def tc (x:Nat × Oper × List Nat × List Nat):Nat × List Nat × List Nat:=(x.1,x.2.2.1,x.2.2.2)
theorem M1 {n nb:Nat} {ops:Array Oper}: ∀{l:List (Nat × Oper)} {st st':St} {log CM:Log},oF P A C n ops nb l st log=some (st',CM)→
  ∃g,g.map (fun x=>(x.1,x.2.1))=l∧CM=log++g.map tc∧vu P A C n ops nb g st st'
 | [],st,st',log,CM,h=>by
  cases h
  exact ⟨[],rfl,by simp,rfl⟩
 | (i,o)::l,st,st',log,CM,h=>by
  obtain ⟨⟨iA,R,W⟩,h1,U⟩:=bind_some h
  obtain ⟨g,a,b,c⟩:=M1 U
  exact ⟨(i,o,R,W)::g,by simp[a],by simp[b,tc],iA,h1,c⟩
def M3 (ops:Array Oper) (x y:Nat × Oper × List Nat × List Nat):Prop:=MZ ops x.2.1 y.2.1 x.2.2.1 x.2.2.2 y.2.2.1 y.2.2.2
theorem M4 {n nb:Nat} {ops:Array Oper} {y:Nat × Oper × List Nat × List Nat} {g2:List (Nat × Oper × List Nat × List Nat)}: ∀{g1:List (Nat × Oper × List Nat × List Nat)} {st st':St},
  vu P A C n ops nb (g1++y::g2) st st'→(∀x∈g1,M3 ops x y)→∃iA,gq P A C n ops y.1 y.2.1 nb st=some (iA,y.2.2.1,y.2.2.2)∧vu P A C n ops nb (g1++g2) iA st'
 | [],st,st',h,_=>h
 | x::g1,st,st',h,hi=>by
  obtain ⟨iA,h1,U⟩:=h
  obtain ⟨dJ,h3,h4⟩:=M4 U fun z hz=>hi z (kK _ hz)
  obtain ⟨CK,h5,h6⟩:=WV h1 h3 (hi x (by simp))
  exact ⟨CK,h5,dJ,h6,h4⟩
theorem M5 (hC:ko P A C) (hP:iR P A) {n nb:Nat} {ops:Array Oper} {Q:Exit→Act→World→Prop}: ∀{g:List (Nat × Oper × List Nat × List Nat)} {st st':St} {a:Act} {w:World} {I:Nat→Prop} {β:Nat→Option Nat},
  vu P A C n ops nb g st st'→(∀x∈g,ops[x.1]? =some x.2.1)→aF P w I β st.hp B M w0→iz P A.idle A.aE w I β n a st→
  (∀a' w' I' av,Le P w I β st.hp w' I' av st'.hp→aF P w' I' av st'.hp B M w0→iz P A.idle A.aE w' I' av n a' st'→Q .normal a' w')→wpOps P ops Q (g.map (·.1)) a w
 | [],st,st',a,w,I,β,h,_,S,hA,hQ=>by
  cases h
  exact hQ a w I β (Le.refl w I β _) S hA
 | x::g,st,st',a,w,I,β,h,ho,S,hA,hQ=>by
  obtain ⟨iA,h1,U⟩:=h
  rw[cH,wpOps_cons]
  refine MU hC hP (ho x (by simp)) S hA h1 fun a' w' I' av k1 k2 k3=> ?_
  exact M5 hC hP U (fun y hy=>ho y (kK _ hy)) k2 k3 fun a2 w2 I2 bQ m1 m2 m3=>hQ a2 w2 I2 bQ (k1.trans m1) m2 m3
end
section
variable {P:Program} {A:cv} {w w':World} {I I' I2:Nat→Prop} {μ β av:Nat→Option Nat} {hp hp':Nat→Option an} {C:ag} {B:Nat} {M:Nat→Prop} {w0:Start}
inductive td (ops:Array Oper):Nat→Nat→Prop
 | M6 {i x:Nat} {o:Oper} {e:Edge}:ops[i]? =some o→e∈o.after→Region.binds .any e=true→e.on=x→td ops i x
 | trans {i x:Nat} {o:Oper} {e:Edge}:ops[i]? =some o→e∈o.after→Region.binds .any e=true→td ops e.on x→td ops i x
theorem M7 {acc:Array Nat} {x:Nat}: ∀{l:List Edge} {s:Nat},(l.foldl (fun s e=>if Region.binds .any e then s|||2^e.on|||acc.getD e.on 0 else s) s).testBit x=true→
  s.testBit x=true∨∃e∈l,Region.binds .any e=true∧(e.on=x∨(acc.getD e.on 0).testBit x=true)
 | [],s,h=> .inl h
 | e::l,s,h=>by
  simp only[List.foldl_cons] at h
  rcases M7 h with h1|⟨e',a,b⟩
  ·by_cases hb:Region.binds .any e=true
   ·rw[aj hb,Nat.testBit_or,Nat.testBit_or,Bool.or_eq_true,Bool.or_eq_true] at h1
    rcases h1 with (h1|h1)|h1
    ·exact .inl h1
    ·rw[Nat.testBit_two_pow] at h1
     exact .inr ⟨e,by simp,hb,.inl (by simpa using h1)⟩
    ·exact .inr ⟨e,by simp,hb,.inr h1⟩
   ·rw[ai hb] at h1
    exact .inl h1
  ·exact .inr ⟨e',kK _ a,b⟩
theorem M8 {ops:Array Oper} {x:Nat}: ∀{l:List Oper} {acc:Array Nat},(∀j o,l[j]? =some o→ops[acc.size+j]? =some o)→(∀j,(acc.getD j 0).testBit x=true→td ops j x)→
  ∀j,((l.foldl (fun acc o=>acc.push (o.after.foldl (fun s e=>if Region.binds .any e then s|||2^e.on|||acc.getD e.on 0 else s) 0)) acc).getD j 0).testBit x=true→td ops j x
 | [],acc,_,CN,j,h=>CN j h
 | o::l,acc,hl,CN,j,h=>by
  simp only[List.foldl_cons] at h
  refine M8 (l:=l) ?_ ?_ j h
  ·intro j o' hj
   have:=hl (j+1) o' (by simpa using hj)
   rw[Array.size_push]
   rwa [show acc.size+1+j=acc.size+(j+1) by omega]
  ·intro k hk
   simp only[ux,Array.getElem?_push] at hk
   by_cases aW:k=acc.size
   ·rw[aj aW] at hk
    simp only[Option.getD_some] at hk
    rw[←Bc] at hk
    have ho:=hl 0 o rfl
    rw[Nat.add_zero] at ho
    rw[aW]
    have lR:(o.after.toList.foldl (fun s e=>if Region.binds .any e then s|||2^e.on|||acc.getD e.on 0 else s) 0).testBit x=true:=by simpa[ux] using hk
    rcases M7 lR with h0|⟨e,he,hb,h1⟩
    ·simp at h0
    ·rcases h1 with h1|h1
     ·exact .M6 ho (ow.1 he) hb h1
     ·exact .trans ho (ow.1 he) hb (CN _ h1)
   ·rw[ai aW] at hk
    exact CN k (by simpa[ux] using hk)
theorem WW {ops:Array Oper} {i x:Nat} (h:((Region.before ops).getD i 0).testBit x=true):td ops i x:=by
 unfold Region.before at h
 rw[←Bc] at h
 refine M8 (l:=ops.toList) (acc:= #[]) (fun j o hj=>by simpa using hj) (fun j hj=>by simp at hj) i h
def M9 (ops:Array Oper) (fq:Array Bool):Prop:= ∀i o,ops[i]? =some o→fq.getD i false=true→∀e∈o.after,Region.binds .any e=true→fq.getD e.on false=true
theorem WX {ops:Array Oper} {fq:Array Bool} (hc:M9 ops fq) {i x:Nat} (h:td ops i x) (hi: ∀o,ops[i]? =some o→∀e∈o.after,Region.binds .any e=true→fq.getD e.on false=true):fq.getD x false=true:=by
 induction h with
 | M6 ho he hb hx=>rw[←hx];exact hi _ ho _ he hb
 | trans ho he hb _ ih=>exact ih fun o' iO e' gy aA=>hc _ o' iO (hi _ ho _ he hb) e' gy aA
theorem Na: ∀{l:List Oper} {k j:Nat} {o:Oper},xQ k l=true→l[j]? =some o→∀e∈o.after,Region.binds .any e=true→e.on<k+j
 | [],k,j,o,_,h=>by simp at h
 | o'::l,k,j,o,hk,h=>by
  simp only[xQ,aJ] at hk
  cases j with
  | zero=>
   simp at h
   subst h
   intro e he hb
   have:=eN.1 hk.1 e (ow.2 he)
   simp[hb] at this
   omega
  | succ j=>
   intro e he hb
   have:=Na hk.2 (j:=j) (by simpa using h) e he hb
   omega
theorem Nb {ops:Array Oper} {sw:Array Nat}: ∀{l:Log},BF ops sw l=true→l.Pairwise fun x y=>xP ops sw x y=true
 | [],_=> .nil
 | x::l,h=>by
  simp only[BF,aJ] at h
  exact .cons (fun y hy=>eN.1 h.1 y hy) (Nb h.2)
theorem Nc {fq:Array Bool} {i:Nat} (h:fq.getD i true=false):i<fq.size∧fq.getD i false=false:=by
 rcases ov i fq.size with h'|h'
 ·refine ⟨h',?_⟩
  simpa[h'] using h
 ·simp[Array.getElem?_eq_none h'] at h
theorem Nd (hC:ko P A C) (hP:iR P A) {n nb:Nat} {ops:Array Oper} {Q:Exit→Act→World→Prop} (CO:xQ 0 ops.toList=true):
  ∀(fuel:Nat) {g:List (Nat × Oper × List Nat × List Nat)} {fq:Array Bool} {st st':St} {a:Act} {w:World} {I:Nat→Prop} {β:Nat→Option Nat},
  g.length=fuel→vu P A C n ops nb g st st'→(∀x∈g,ops[x.1]? =some x.2.1)→(g.map (·.1)).Pairwise (· < ·)→(g.map tc).Pairwise (fun x y=>xP ops (Region.before ops) x y=true)→
  fq.size=ops.size→(∀i,i<ops.size→(fq.getD i false=false↔i∈g.map (·.1)))→M9 ops fq→
  aF P w I β st.hp B M w0→iz P A.idle A.aE w I β n a st→
  (∀a' w' I' av,Le P w I β st.hp w' I' av st'.hp→aF P w' I' av st'.hp B M w0→iz P A.idle A.aE w' I' av n a' st'→Q .normal a' w')→wpAny P .any ops Q fuel fq a w
 | 0,g,fq,st,st',a,w,I,β,hf,hr,ho,aP,CP,aS,te,kj,S,hA,hQ=>by
  obtain rfl:g=[]:=kJ hf
  cases hr
  refine ⟨?_,hQ a w I β (Le.refl w I β _) S hA⟩
  rw[List.eq_nil_iff_forall_not_mem]
  intro i hi
  obtain ⟨h0,_⟩:=mem_ready.1 hi
  obtain ⟨h1,U⟩:=Nc h0
  have:=(te i (by omega)).1 U
  simp at this
 | fuel+1,g,fq,st,st',a,w,I,β,hf,hr,ho,aP,CP,aS,te,kj,S,hA,hQ=>by
  refine ⟨fun yR=> ?_,fun i hi=> ?_⟩
  ·exfalso
   cases g with
   | nil=>simp at hf
   | cons x g=>
    have hx:=ho x (by simp)
    have fU:x.1<ops.size:=(gM.1 hx).1
    have mK:x.1∈Region.ready .any ops fq:=by
     rw[mem_ready]
     have h0:=(te x.1 fU).2 (by simp)
     refine ⟨?_,x.2.1,hx,fun e he hb=> ?_⟩
     ·have hl:x.1<fq.size:=by omega
      simpa[hl] using h0
     ·have Gx:=Na CO (j:=x.1) (by simpa using hx) e he hb
      rw[gj] at Gx
      cases hle:fq.getD e.on false with
      | true=>rfl
      | false=>
       have hm:=(te e.on (by omega)).1 hle
       simp only[cH,cY] at hm
       rw[cH,sg] at aP
       rcases hm with hm|hm
       ·omega
       ·have:=aP.1 _ hm;omega
    rw[yR] at mK
    cases mK
  ·obtain ⟨h0,oi,yT,Nf⟩:=mem_ready.1 hi
   obtain ⟨h1,U⟩:=Nc h0
   have WY:=(te i (by omega)).1 U
   obtain ⟨y,hy,WZ⟩:=gk.1 WY
   obtain ⟨g1,g2,rfl⟩:=List.append_of_mem hy
   subst WZ
   have Ng:=ho y hy
   rw[yT] at Ng
   have Nh:oi=y.2.1:=cR Ng
   have jN:((g1++y::g2).map (·.1)).Nodup:=aP.imp fun h=>Nat.ne_of_lt h
   have W0: ∀x∈g1,M3 ops x y:=by
    intro x hx
    have hp:xP ops (Region.before ops) (tc x) (tc y)=true:=by
     rw[fQ,cH,List.pairwise_append] at CP
     exact CP.2.2 _ (gk.2 ⟨x,hx,rfl⟩) _ (by simp)
    have Hg:=ho x (ei.2 (.inl hx))
    unfold xP at hp
    rw[Bool.or_eq_true] at hp
    rcases hp with hp|hp
    ·have hl:=WX kj (WW hp) fun o iO e he hb=>by
      have:o=oi:=by
       have h3:ops[y.1]? =some o:=iO
       rw[yT] at h3
       exact (cR h3).symm
      subst this
      exact Nf e he hb
     have fU:x.1<ops.size:=(gM.1 Hg).1
     have:=(te x.1 fU).2 (gk.2 ⟨x,ei.2 (.inl hx),rfl⟩)
     rw[show (tc x).1=x.1 from rfl,this] at hl
     cases hl
    ·simp only[tc,ux,Hg,yT,Option.getD_some,aJ,ml] at hp
     obtain ⟨q1,q2,q3⟩:=hp
     refine ⟨Nh▸q1,fun id ab=> ?_,fun id ab=>CD q3 ab⟩
     have:=CD q2 ab
     rw[ei] at this
     exact ⟨fun h=>this (.inl h),fun h=>this (.inr h)⟩
   obtain ⟨iA,ik,k9⟩:=M4 hr W0
   rw[←Nh] at ik
   refine MU hC hP yT S hA ik fun a' w' I' av k1 k2 k3=> ?_
   have jK:List.Sublist (g1++g2) (g1++y::g2):=List.Sublist.append_left (List.sublist_cons_self y g2) g1
   have sy: ∀j,j≠y.1→(fq.setIfInBounds y.1 true).getD j false=fq.getD j false:=fun j hj=>getD_set_ne false (Ne.symm hj)
   refine Nd hC hP CO fuel (g:=g1++g2) (st':=st') ?_ k9 (fun x hx=>ho x (jK.subset hx)) (aP.sublist (jK.map _)) (CP.sublist (jK.map _)) (by simp[aS]) (fun j hj=> ?_) (fun j o Hh bW e he hb=> ?_) k2 k3 fun a2 w2 I2 bQ m1 m2 m3=>hQ a2 w2 I2 bQ (k1.trans m1) m2 m3
   ·simp at hf⊢;omega
   ·by_cases oM:j=y.1
    ·subst oM
     have hl:y.1<fq.size:=by omega
     simp only[ux,Fm hl,Option.getD_some]
     refine ⟨fun h=>(by cases h),fun h=> ?_⟩
     exfalso
     rw[fQ,cH,Bg,List.nodup_cons] at jN
     rw[fQ,ei] at h
     rcases h with h|h
     ·exact jN.2.2 _ h _ (by simp) rfl
     ·exact jN.2.1.1 h
    ·rw[sy j oM,te j hj]
     simp only[fQ,cH,ei,cY]
     constructor
     ·rintro (h|h|h)
      ·exact .inl h
      ·exact absurd h oM
      ·exact .inr h
     ·rintro (h|h)
      ·exact .inl h
      ·exact .inr (.inr h)
   ·by_cases oM:j=y.1
    ·subst oM
     rw[yT] at Hh
     cases Hh
     exact getD_set_true (Nf e he hb)
    ·rw[sy j oM] at bW
     exact getD_set_true (kj j o Hh bW e he hb)
end
section
variable {P:Program} {A:cv} {w w':World} {I I' I2:Nat→Prop} {μ β av:Nat→Option Nat} {hp hp':Nat→Option an} {C:ag} {B:Nat} {M:Nat→Prop} {w0:Start}
theorem Ni: ∀{l:List Oper} {k j:Nat},(nA k l)[j]? =(l[j]?).map fun o=>(k+j,o)
 | [],k,j=>by simp[nA]
 | o::l,k,0=>by simp[nA]
 | o::l,k,j+1=>by
  simp only[nA,List.getElem?_cons_succ,Ni]
  congr 1
  funext o
  rw[show k+1+j=k+(j+1) by omega]
theorem Nj: ∀{l:List Oper} {k:Nat},(nA k l).map (·.1)=List.range' k l.length
 | [],k=>rfl
 | o::l,k=>by simp[nA,Nj,List.range'_succ]
theorem W3 (hC:ko P A C) (hP:iR P A) (hm:P.follows .mixedOrders=true) {n id:Nat} {ops:Array Oper} {draw:Bool} {st st':St} {a:Act} {Q:Exit→Act→World→Prop}
  (h:xS P A C n ops draw st=some st') (S:aF P w I β st.hp B M w0) (hA:iz P A.idle A.aE w I β n a st)
  (hQ: ∀a' w' I' av,Le P w I β st.hp w' I' av st'.hp→aF P w' I' av st'.hp B M w0→iz P A.idle A.aE w' I' av n a' st'→Q .normal a' w'):(Code.region id ops draw).wp P Q a w:=by
 obtain ⟨⟨iA,log⟩,h1,U⟩:=bind_some h
 obtain ⟨g,g1,g2,g3⟩:=M1 h1
 have CQ:g.map (·.1)=List.range ops.size:=by
  have:g.map (·.1)=(g.map fun x=>(x.1,x.2.1)).map (·.1):=by simp
  rw[this,g1,Nj,List.range_eq_range']
  simp
 have Nk: ∀x∈g,ops[x.1]? =some x.2.1:=by
  intro x hx
  have:(x.1,x.2.1)∈nA 0 ops.toList:=by rw[←g1];exact gk.2 ⟨x,hx,rfl⟩
  obtain ⟨j,hj⟩:=List.mem_iff_getElem?.1 this
  rw[Ni] at hj
  cases ho:ops.toList[j]? with
  | none=>rw[ho] at hj;cases hj
  | some o=>
   rw[ho] at hj
   simp only[Option.map_some,gj,dE,jy] at hj
   rw[←hj.1,←hj.2]
   simpa using ho
 cases draw with
 | false=>
  simp only[sh,Bool.true_or,cond_true] at U
  cases U
  refine wp_region ?_
  rw[←CQ]
  exact M5 hC hP g3 Nk S hA hQ
 | true=>
  simp only[pq,Bool.false_or] at U
  cases hc:(Region.noSelect ops&&xR ops log) with
  | false=>rw[hc] at U;cases U
  | true=>
   rw[hc] at U
   cases U
   simp only[aJ,xR] at hc
   obtain ⟨hns,CO,W4⟩:=hc
   simp only[List.nil_append] at g2
   refine wp_region_any hm ?_
   have hlen:g.length=ops.size:=by
    have:=congrArg List.length CQ
    simpa using this
   refine Nd hC hP CO ops.size (g:=g) (st':=st') hlen g3 Nk (by rw[CQ];exact List.pairwise_lt_range) (by rw[←g2];exact Nb W4) (by simp) (fun i hi=> ?_) (fun i o ho hl=> ?_)
    (w:=w.drew) S.drew ⟨fun k=>(hA.sl k).mono (Le.drew w I β _),hA.size,hA.defers,hA.aE.mono (Le.drew (P:=P) w I β st.hp).cW (Le.drew (P:=P) w I β st.hp).bV⟩ fun a' w' I' av k1 k2 k3=>hQ a' w' I' av ((Le.drew w I β _).trans k1) k2 k3
   ·rw[CQ]
    simp[hi]
   ·have hi:=(gM.1 ho).1
    simp[hi] at hl
end
section
variable {P:Program} {A:cv} {E:FuncId→Bool} {G:Nat→V} {w w':World} {I I' I2:Nat→Prop} {μ β av:Nat→Option Nat} {hp hp':Nat→Option an} {C:ag} {B:Nat} {M:Nat→Prop} {w0:Start}
theorem tf: ∀{l:List Nat} {hp:Nat→Option an} {I:Nat→Prop},aF P w I β hp B M w0→∃I',Le P w I β hp w I' β (su hp l)∧aF P w I' β (su hp l) B M w0
 | [],hp,I,S=>⟨I,Le.refl w I β hp,S⟩
 | id::l,hp,I,S=>by
  simp only[su]
  cases ab:hp id with
  | none=>exact tf S
  | some blk=>
   cases blk with
   | dead=>exact tf S
   | var _=>exact tf S
   | map _ _=>exact tf S
   | arr e es fz=>
    obtain ⟨h1,U⟩:=yd S (upd:=[(id,.arr e es true)]) (fun p hp=>by
     simp only[dX] at hp
     subst hp
     exact ⟨e,es,rfl,.inl ⟨fz,ab⟩⟩)
    obtain ⟨I',h3,h4⟩:=tf (l:=l) U
    exact ⟨I',h1.trans h3,h4⟩
   | nest e es aq=>
    obtain ⟨h1,U⟩:=yd S (upd:=[(id,.arr e es true)]) (fun p hp=>by
     simp only[dX] at hp
     subst hp
     exact ⟨e,es,rfl,.inr ⟨aq,ab⟩⟩)
    obtain ⟨I',h3,h4⟩:=tf (l:=l) U
    exact ⟨I',h1.trans h3,h4⟩
theorem Nl {n m:Nat} {pur:List Nat} {a:Act} {st:St} (S:aF P w I β st.hp B M w0) (hA:iz P E G w I β n a st):
  ∃I',Le P w I β st.hp w I' β (freeze m pur st).hp∧aF P w I' β (freeze m pur st).hp B M w0∧iz P E G w I' β n a (freeze m pur st):=by
 obtain ⟨I',h1,U⟩:=tf (l:=(KQ st pur).filter fun id=>Nat.ble m id) S
 exact ⟨I',h1,U,fun k=>(hA.sl k).mono h1,hA.size,hA.defers,hA.aE.mono h1.cW h1.bV⟩
structure vw (hp:Nat→Option an) (β:Nat→Option Nat) (ord:List Nat) (hp':Nat→Option an) (av:Nat→Option Nat):Prop where
 arr: ∀(j:Nat) id e es fz,ord[j]? =some id→hp id=some (.arr e es fz)→hp' j=some (.arr e es fz)
 var: ∀(j:Nat) id T cs,ord[j]? =some id→hp id=some (.var T cs)→∃gY,hp' j=some (.var T gY)
 dead: ∀(j:Nat) id,ord[j]? =some id→hp id=some .dead→hp' j=some .dead
 place: ∀(j:Nat) id,ord[j]? =some id→av j=β id
 nest: ∀(j:Nat) id e es aq,ord[j]? =some id→hp id=some (.nest e es aq)→hp' j=some (.nest e es (aq.map fun _=>0))
 map: ∀(j:Nat) id t es,ord[j]? =some id→hp id=some (.map t es)→hp' j=some (.map t es)
theorem ld: ∀{l:List Nat} {n i j:Nat},gR l n i=some j→∃k,j=i+k∧l[k]? =some n
 | [],n,i,j,h=>by cases h
 | a::l,n,i,j,h=>by
  simp only[gR] at h
  cases hb:Nat.beq n a with
  | true=>
   rw[hb] at h
   cases h
   rw[aQ] at hb
   exact ⟨0,rfl,by rw[hb];rfl⟩
  | false=>
   rw[hb] at h
   obtain ⟨k,h1,U⟩:=ld h
   exact ⟨k+1,by omega,by simpa using U⟩
def kp (hp':Nat→Option an) (av:Nat→Option Nat) (n:Nat) (bs:List an):Prop:=
 ∀(k:Nat) b,bs[k]? =some b→hp' (n+k)=some b∧av (n+k)=none
theorem Hi: ∀(aq:List Nat) (k:Nat),bw (aq.map fun _=>0) k=0
 | [],_=>rfl
 | _::_,0=>rfl
 | _::vs,k+1=>Hi vs k
theorem Nn {e:TypeId} {es:List V} {aq:List Nat} {path:Path} {ver:Nat} (hc:(Nat.blt 0 path.length&&(Nat.ble path.length aq.length&&Nat.beq (bw aq (path.length-1)) ver))=true)
  (h:(an.nest e es aq).sA path ver):False:=by
 simp only[aJ,jx,dD,aQ] at hc
 obtain ⟨h1,U,h3⟩:=hc
 rcases h with h|h|h
 ·subst h;simp at h1
 ·omega
 ·omega
theorem No (S:aF P w I β hp B M w0) {ord:List Nat} (hR:vw hp β ord hp' av) {v:Value} {x:V} (hv:ao P w I β hp v x):ao P w I av hp' v (gS hp ord x):=by
 cases hv with
 | undef=>exact .undef
 | int=>exact .int
 | bool=>exact .bool
 | str h=>exact .str h
 | list h=>exact .list h
 | nilS=>exact .nilS
 | agg=>exact .undef
 | aY=>exact .undef
 | c7=>exact .c7
 | fn=>exact .undef
 | pref a b c=>exact .pref a b c
 | @dQ _ e id ab=>
  simp only[gS]
  cases bj:gR ord id 0 with
  | none=>simp only[ab];exact .undef
  | some j=>
   obtain ⟨k,rfl,hk⟩:=ld bj
   exact .dQ (hR.dead _ id (by simpa using hk) ab)
 | @fF _ e id off len ab=>
  simp only[gS]
  cases bj:gR ord id 0 with
  | none=>simp only[ab];exact .undef
  | some j=>
   obtain ⟨k,rfl,hk⟩:=ld bj
   exact .fF (hR.dead _ id (by simpa using hk) ab)
 | @jG _ id i c ab=>
  simp only[gS]
  cases bj:gR ord id 0 with
  | none=>exact .undef
  | some j=>
   obtain ⟨k,rfl,hk⟩:=ld bj
   exact .jG (hR.dead _ id (by simpa using hk) ab)
 | @dp e id fz _ ab hb=>
  simp only[gS]
  cases bj:gR ord id 0 with
  | none=>
   simp only[ab]
   cases fz with
   | false=>exact .undef
   | true=>simp only[jb,cond_true];exact .list (.any fun _=>rfl)
  | some j=>
   obtain ⟨k,rfl,hk⟩:=ld bj
   have cT:ord[0+k]? =some id:=by simpa using hk
   exact .dp (hR.arr _ id _ _ _ cT ab) ((hR.place _ id cT).trans hb)
 | @whole e id es fz b cap ab hb aS bS hm=>
  simp only[gS]
  cases bj:gR ord id 0 with
  | none=>
   simp only[ab]
   cases fz with
   | false=>exact .undef
   | true=>
    simp only[jb,cond_true]
    have hr:=S.h.rel id _ ab
    cases hr with
    | dq aA=>rw[aA] at hb;cases hb
    | arr au aA hh hs hf dR hx=>
     rw[hb] at aA;cases aA
     have:=sE (I':=I) (off:=0) (len:=es.length) (o:=0) hh hx (e9 au) (by omega) bS (fun _=>by simp) (fun _ h=>h) (hf rfl)
     exact .list (by simpa using this)
  | some j=>
   obtain ⟨k,rfl,hk⟩:=ld bj
   have cT:ord[0+k]? =some id:=by simpa using hk
   exact .whole (hR.arr _ id _ _ _ cT ab) ((hR.place _ id cT).trans hb) aS bS hm
 | @fm e id fz _ ab hb=>
  simp only[gS]
  cases bj:gR ord id 0 with
  | none=>
   simp only[ab]
   cases fz with
   | false=>exact .undef
   | true=>simp only[jb,cond_true];exact .list (by simpa using (ig.any (P:=P) fun _=>rfl))
  | some j=>
   obtain ⟨k,rfl,hk⟩:=ld bj
   have cT:ord[0+k]? =some id:=by simpa using hk
   exact .fm (hR.arr _ id _ _ _ cT ab) ((hR.place _ id cT).trans hb)
 | @sub e id off len es fz b o cap ab hb ka bS ho=>
  simp only[gS]
  cases bj:gR ord id 0 with
  | none=>
   simp only[ab]
   cases fz with
   | false=>exact .undef
   | true=>
    simp only[jb,cond_true]
    have hr:=S.h.rel id _ ab
    cases hr with
    | dq aA=>rw[aA] at hb;cases hb
    | arr au aA hh hs hf dR hx=>
     rw[hb] at aA;cases aA
     exact .list (sE (I':=I) hh hx (e9 au) ka bS ho (fun _ h=>h) (hf rfl))
  | some j=>
   obtain ⟨k,rfl,hk⟩:=ld bj
   have cT:ord[0+k]? =some id:=by simpa using hk
   exact .sub (hR.arr _ id _ _ _ cT ab) ((hR.place _ id cT).trans hb) ka bS ho
 | @ptr id i c b blk ab hd hb=>
  simp only[gS]
  cases bj:gR ord id 0 with
  | none=>exact .undef
  | some j=>
   obtain ⟨k,rfl,hk⟩:=ld bj
   have cT:ord[0+k]? =some id:=by simpa using hk
   cases blk with
   | dead=>exact absurd rfl hd
   | var T0 cs=>
    obtain ⟨gY,h'⟩:=hR.var _ id T0 cs cT ab
    exact .ptr (blk:= .var T0 gY) h' (by simp) ((hR.place _ id cT).trans hb)
   | arr e es fz=>exact .ptr (blk:= .arr e es fz) (hR.arr _ id _ _ _ cT ab) (by simp) ((hR.place _ id cT).trans hb)
   | nest e es aq=>exact .ptr (blk:= .nest e es (aq.map fun _=>0)) (hR.nest _ id _ _ _ cT ab) (by simp) ((hR.place _ id cT).trans hb)
   | map t es=>exact .ptr (blk:= .map t es) (hR.map _ id _ _ cT ab) (by simp) ((hR.place _ id cT).trans hb)
 | df=>exact .df
 | @gV _ t id ab=>
  simp only[gS]
  cases bj:gR ord id 0 with
  | none=>exact .undef
  | some j=>
   obtain ⟨k,rfl,hk⟩:=ld bj
   exact .gV (hR.dead _ id (by simpa using hk) ab)
 | @cf t id b es ab hb=>
  simp only[gS]
  cases bj:gR ord id 0 with
  | none=>exact .undef
  | some j=>
   obtain ⟨k,rfl,hk⟩:=ld bj
   have cT:ord[0+k]? =some id:=by simpa using hk
   exact .cf (hR.map _ id _ _ cT ab) ((hR.place _ id cT).trans hb)
 | @eb e id es aq b cap ab hb aS bS hm=>
  simp only[gS]
  cases bj:gR ord id 0 with
  | none=>simp only[ab];exact .undef
  | some j=>
   obtain ⟨k,rfl,hk⟩:=ld bj
   have cT:ord[0+k]? =some id:=by simpa using hk
   exact .eb (hR.nest _ id _ _ _ cT ab) ((hR.place _ id cT).trans hb) aS bS hm
 | @jf v e id ver path blk ab yb=>
  simp only[gS]
  split
  ·rename_i j e1 b8 aq h1 U
   rw[ab] at U
   cases U
   cases hc:(Nat.blt 0 path.length&&(Nat.ble path.length aq.length&&Nat.beq (bw aq (path.length-1)) ver)) with
   | false=>exact .undef
   | true=>exact (Nn hc yb).elim
  ·exact .undef
 | @jg v id ver i c path blk ab yb=>
  simp only[gS]
  split
  ·rename_i j e1 b8 aq h1 U
   rw[ab] at U
   cases U
   cases hc:(Nat.blt 0 path.length&&(Nat.ble path.length aq.length&&Nat.beq (bw aq (path.length-1)) ver)) with
   | false=>exact .undef
   | true=>exact (Nn hc yb).elim
  ·exact .undef
 | @row v e e0 t id ver b i c q es l aq ab hb hq hv ht hc=>
  simp only[gS]
  split
  ·rename_i j e1 b8 s8 h1 U
   obtain ⟨k,rfl,hk⟩:=ld h1
   have cT:ord[0+k]? =some id:=by simpa using hk
   cases hx:(Nat.blt 0 (q++[(i,c)]).length&&(Nat.ble (q++[(i,c)]).length s8.length&&Nat.beq (bw s8 ((q++[(i,c)]).length-1)) ver)) with
   | false=>exact .undef
   | true=>exact .row (hR.nest _ id _ _ _ cT ab) ((hR.place _ id cT).trans hb) (by simpa using hq) (Hi _ _) ht hc
  ·exact .undef
 | @cq e e0 t id ver b b1 len cap i0 c0 i c q es l aq ab hb hq hv ht ji hc=>
  simp only[gS]
  split
  ·rename_i j e1 b8 s8 h1 U
   obtain ⟨k,rfl,hk⟩:=ld h1
   have cT:ord[0+k]? =some id:=by simpa using hk
   cases hx:(Nat.blt 0 (q++[(i0,c0)]).length&&(Nat.ble (q++[(i0,c0)]).length s8.length&&Nat.beq (bw s8 ((q++[(i0,c0)]).length-1)) ver)) with
   | false=>exact .undef
   | true=>exact .cq (hR.nest _ id _ _ _ cT ab) ((hR.place _ id cT).trans hb) (by simpa using hq) (Hi _ _) ht ji hc
  ·exact .undef
theorem Np (S:aF P w I β hp B M w0) {ord:List Nat} (hR:vw hp β ord hp' av) {vs:Array Value} {xs:List V} (h: ∀(j:Nat) v x,vs[j]? =some v→xs[j]? =some x→ao P w I β hp v x) (j:Nat) (v:Value) (y:V)
  (hv:vs[j]? =some v) (hy:(xs.map (gS hp ord))[j]? =some y):ao P w I av hp' v y:=by
 rw[gl] at hy
 cases hx:xs[j]? with
 | none=>rw[hx] at hy;cases hy
 | some x=>rw[hx] at hy;cases hy;exact No S hR (h j v x hv hx)
theorem Nq (S:aF P w I β hp B M w0) {ord:List Nat} (hR:vw hp β ord hp' av) {n:Nat} {v:Value} {x:V} (hv:ao P w I β hp v x) (hF:kp hp' av n (uM hp ord n x).2):
  ao P w I av hp' v (uM hp ord n x).1:=by
 cases x with
 | nilS e=>
  obtain ⟨h1,U⟩:=hF 0 _ rfl
  cases hv with
  | nilS=>exact .dp h1 U
 | fn f a b=>
  cases hv with
  | fn q1 q2 q3 q4=>exact .fn (by simpa using q1) (Np S hR q2) (by simpa using q3) (Np S hR q4)
 | _=>exact No S hR hv
end
section
variable {P:Program} {A:cv} {w w':World} {I I' I2:Nat→Prop} {μ β av:Nat→Option Nat} {hp hp':Nat→Option an} {C:ag} {B:Nat} {M:Nat→Prop} {w0:Start}
theorem kp.left {n:Nat} {a b:List an} (h:kp hp' av n (a++b)):kp hp' av n a:=fun k x hx=>
 h k x (by rw[hX (bm.1 hx).1];exact hx)
theorem kp.right {n:Nat} {a b:List an} (h:kp hp' av n (a++b)):kp hp' av (n+a.length) b:=fun k x hx=>by
 have:=h (a.length+k) x (by rw[gN (by omega),Nat.add_sub_cancel_left];exact hx)
 rwa [←nk] at this
def lS (bs:List an):Prop:= ∀b∈bs,∃e,b= .arr e [] false
theorem lS.app {a b:List an} (h1:lS a) (U:lS b):lS (a++b):=fun x hx=>(ei.1 hx).elim (h1 x) (U x)
theorem lS.nil:lS []:=fun x hx=>by simp at hx
theorem Nr {ord:List Nat} {n:Nat} {x:V}:lS (uM hp ord n x).2:=by
 cases x<;>simp only[uM]<;>first|exact .nil|skip
 intro b hb
 simp only[dX] at hb
 exact ⟨_,hb⟩
theorem Hj {ord:List Nat}: ∀{xs:List V} {n:Nat},lS (mC hp ord n xs).2
 | [],n=> .nil
 | x::xs,n=>by
  simp only[mC]
  exact Nr.app Hj
theorem CR {ord:List Nat}: ∀{xs:List V} {n:Nat},(mC hp ord n xs).1.length=xs.length
 | [],n=>rfl
 | x::xs,n=>by simp only[mC,List.length_cons,CR]
theorem CS (S:aF P w I β hp B M w0) {ord:List Nat} (hR:vw hp β ord hp' av): ∀{xs:List V} {vs:List Value} {n:Nat},(∀(j:Nat) v x,vs[j]? =some v→xs[j]? =some x→ao P w I β hp v x)→
  kp hp' av n (mC hp ord n xs).2→∀(j:Nat) v y,vs[j]? =some v→(mC hp ord n xs).1[j]? =some y→ao P w I av hp' v y
 | [],vs,n,h,hF,j,v,y,hv,hy=>by simp[mC] at hy
 | x::xs,vs,n,h,hF,j,v,y,hv,hy=>by
  simp only[mC] at hF hy
  cases j with
  | zero=>
   simp at hy
   subst hy
   exact Nq S hR (h 0 v x hv rfl) hF.left
  | succ j=>
   cases vs with
   | nil=>simp at hv
   | cons v0 vs=>exact CS S hR (vs:=vs) (fun j v x hj hx=>h (j+1) v x (by simpa using hj) (by simpa using hx)) hF.right j v y (by simpa using hv) (by simpa using hy)
theorem W5 {ord:List Nat} {n:Nat} {x:V}:lS (pF hp ord n x).2:=by
 cases x<;>simp only[pF]<;>first|exact Nr|exact Hj
theorem W6 (S:aF P w I β hp B M w0) {ord:List Nat} (hR:vw hp β ord hp' av) {n:Nat} {v:Value} {x:V} (hv:ao P w I β hp v x) (hF:kp hp' av n (pF hp ord n x).2):
  ao P w I av hp' v (pF hp ord n x).1:=by
 cases x with
 | agg cs=>
  obtain ⟨ds,rfl,h1,U⟩:=hv.kg
  simp only[pF] at hF⊢
  exact .agg (by rw[CR];exact h1) fun j v y hj hy=>CS S hR (vs:=ds.toList) (fun j v x hj hx=>U j v x (by simpa using hj) hx) hF j v y (by simpa using hj) hy
 | aY cs=>
  obtain ⟨ds,rfl,h1,U⟩:=hv.sI
  simp only[pF] at hF⊢
  exact .aY (by rw[CR];exact h1) fun j v y hj hy=>CS S hR (vs:=ds.toList) (fun j v x hj hx=>U j v x (by simpa using hj) hx) hF j v y (by simpa using hj) hy
 | _=>exact Nq S hR hv hF
theorem Ns {ord:List Nat} {sl:Nat→V}: ∀{l:List Nat} {n:Nat},lS (kQ hp ord sl n l).2
 | [],n=> .nil
 | s::l,n=>by
  simp only[kQ]
  exact W5.app Ns
theorem Nt {ord:List Nat} {sl:Nat→V} {k:Nat} {y:V}: ∀{l:List Nat} {n:Nat},kp hp' av n (kQ hp ord sl n l).2→dm (kQ hp ord sl n l).1 k=some y→
  ∃n',kp hp' av n' (pF hp ord n' (sl k)).2∧y=(pF hp ord n' (sl k)).1
 | [],n,_,h=>by cases h
 | s::l,n,hF,h=>by
  simp only[kQ] at hF h
  simp only[dm] at h
  cases hb:Nat.beq k s with
  | true=>
   rw[hb] at h
   rw[aQ] at hb
   subst hb
   cases h
   exact ⟨n,hF.left,rfl⟩
  | false=>
   rw[hb] at h
   exact Nt hF.right h
theorem W7 {ord:List Nat} {n id:Nat}:lS (ey hp ord n id).2:=by
 unfold ey
 split
 ·exact Hj
 ·exact .nil
 ·exact .nil
 ·exact .nil
 ·exact .nil
theorem Nu {ord:List Nat}: ∀{l:List Nat} {n:Nat},lS (e7 hp ord n l).2
 | [],n=> .nil
 | s::l,n=>by
  simp only[e7]
  exact W7.app Nu
theorem Nw {ord:List Nat}: ∀{l:List Nat} {n:Nat},(e7 hp ord n l).1.length=l.length
 | [],n=>rfl
 | x::xs,n=>by simp only[e7,List.length_cons,Nw]
theorem Nx {ord:List Nat}: ∀{l:List Nat} {n j:Nat} {id:Nat},l[j]? =some id→∃n',(kp hp' av n (e7 hp ord n l).2→kp hp' av n' (ey hp ord n' id).2)∧(e7 hp ord n l).1[j]? =some (ey hp ord n' id).1
 | [],n,j,id,h=>by simp at h
 | s::l,n,j,id,h=>by
  simp only[e7]
  cases j with
  | zero=>
   simp at h
   subst h
   exact ⟨n,fun hF=>hF.left,rfl⟩
  | succ j=>
   obtain ⟨n',h1,U⟩:=Nx (n:=n+(ey hp ord n s).2.length) (j:=j) (by simpa using h)
   exact ⟨n',fun hF=>h1 hF.right,by simpa using U⟩
theorem CT: ∀{l acc:List Nat},∃t,sr hp acc l=acc++t∧(acc.Nodup→(acc++t).Nodup)
 | [],acc=>⟨[],by simp[sr],by simp⟩
 | id::l,acc=>by
  simp only[sr]
  cases hb:(jA acc id|| !(KP hp id)) with
  | true=>exact CT
  | false=>
   obtain ⟨t,h1,U⟩:=CT (l:=l) (acc:=acc++[id])
   refine ⟨id::t,by simp only[cond_false,h1,cd,List.singleton_append],fun hn=> ?_⟩
   have:acc++id::t=(acc++[id])++t:=by simp
   rw[this]
   refine U ?_
   rw[Bg]
   refine ⟨hn,by simp,fun a ha b aA=> ?_⟩
   simp only[dX] at aA
   subst aA
   intro e
   subst e
   rw[u4 ha] at hb
   cases hb
theorem Ny: ∀{n:Nat} {l:List Nat},∃t,grow hp n l=l++t∧(l.Nodup→(l++t).Nodup)
 | 0,l=>⟨[],by simp[grow],by simp⟩
 | n+1,l=>by
  simp only[grow]
  obtain ⟨t,h1,U⟩:=CT (hp:=hp) (acc:=l) (l:=l.flatMap (FG hp))
  rw[h1]
  obtain ⟨t',h3,h4⟩:=Ny (n:=n) (l:=l++t)
  exact ⟨t++t',by rw[h3,cd],fun hn=>by rw[←cd];exact h4 (U hn)⟩
theorem W8 {m:Nat} {live:List Nat} {st:St}: ∃t,FH m live st=List.range m++t∧(List.range m++t).Nodup:=by
 unfold FH
 obtain ⟨t,h1,U⟩:=CT (hp:=st.hp) (acc:=List.range m) (l:=live.flatMap fun s=>FF (st.sl s))
 rw[h1]
 obtain ⟨t',h3,h4⟩:=Ny (hp:=st.hp) (n:=3) (l:=List.range m++t)
 exact ⟨t++t',by rw[h3,cd],by rw[←cd];exact h4 (U List.nodup_range)⟩
end
section
variable {P:Program} {A:cv} {E:FuncId→Bool} {G:Nat→V} {w w':World} {I I' I2:Nat→Prop} {μ β av:Nat→Option Nat} {hp hp' hp0:Nat→Option an} {C:ag} {B:Nat} {M:Nat→Prop} {w0:Start}
theorem Nz {n m:Nat} {ord live:List Nat} {a:Act} {st:St} (kU:ord.Nodup) (yU: ∀id,id<m→ord[id]? =some id∨∃p,ord[id]? =some p∧st.hp p=none) (S:aF P w I β st.hp B M w0) (hA:iz P E G w I β n a st) (hE:km w0.w w0.I μ hp0 w I β st.hp) (hm: ∀id blk,hp0 id=some blk→id<m) (iS: ∀id e es aq,hp0 id=some (.nest e es aq)→∀k,bw aq k=0):
  ∃av,aF P w I av (uN ord live st).hp B M w0∧iz P E G w I av n a (uN ord live st)∧km w0.w w0.I μ hp0 w I av (uN ord live st).hp:=by
 have W9:uN ord live st=mk (kQ st.hp ord st.sl (ord.length+(e7 st.hp ord ord.length ord).2.length) live).1
   ((e7 st.hp ord ord.length ord).1++((e7 st.hp ord ord.length ord).2++(kQ st.hp ord st.sl (ord.length+(e7 st.hp ord ord.length ord).2.length) live).2)):=by
  rfl
 rw[W9]
 let hp':=jd ((e7 st.hp ord ord.length ord).1++((e7 st.hp ord ord.length ord).2++(kQ st.hp ord st.sl (ord.length+(e7 st.hp ord ord.length ord).2.length) live).2))
 let av:Nat→Option Nat:=fun j=>if j<ord.length then (ord[j]?).bind β else none
 have hlen:(e7 st.hp ord ord.length ord).1.length=ord.length:=Nw
 have iw: ∀j,j<ord.length→hp' j=(e7 st.hp ord ord.length ord).1[j]? :=by
  intro j hj
  simp only[hp',gC]
  rw[hX (by omega)]
 have gB: ∀k,hp' (ord.length+k)=((e7 st.hp ord ord.length ord).2++(kQ st.hp ord st.sl (ord.length+(e7 st.hp ord ord.length ord).2.length) live).2)[k]? :=by
  intro k
  simp only[hp',gC]
  rw[gN (by omega),hlen,Nat.add_sub_cancel_left]
 have hF:kp hp' av ord.length ((e7 st.hp ord ord.length ord).2++(kQ st.hp ord st.sl (ord.length+(e7 st.hp ord ord.length ord).2.length) live).2):=by
  intro k b hb
  refine ⟨(gB k).trans hb,?_⟩
  simp only[av]
  rw[ai (by omega)]
 have yR:lS ((e7 st.hp ord ord.length ord).2++(kQ st.hp ord st.sl (ord.length+(e7 st.hp ord ord.length ord).2.length) live).2):=Nu.app Ns
 have nQ: ∀(j:Nat) id,ord[j]? =some id→av j=β id:=by
  intro j id hj
  simp only[av]
  rw[aj (bm.1 hj).1,hj]
  rfl
 have qf: ∀(j:Nat) id,ord[j]? =some id→∃n',kp hp' av n' (ey st.hp ord n' id).2∧hp' j=some (ey st.hp ord n' id).1:=by
  intro j id hj
  obtain ⟨n',h1,U⟩:=Nx (hp:=st.hp) (hp':=hp') (av:=av) (ord:=ord) (n:=ord.length) hj
  exact ⟨n',h1 hF.left,(iw j (bm.1 hj).1).trans U⟩
 have hR:vw st.hp β ord hp' av:=by
  refine ⟨fun j id e es fz hj ab=> ?_,fun j id T cs hj ab=> ?_,fun j id hj ab=> ?_,nQ,fun j id e es aq hj ab=> ?_,fun j id t es hj ab=> ?_⟩
  ·obtain ⟨n',_,U⟩:=qf j id hj
   rw[U];simp only[ey,ab]
  ·obtain ⟨n',_,U⟩:=qf j id hj
   rw[U];simp only[ey,ab];exact ⟨_,rfl⟩
  ·obtain ⟨n',_,U⟩:=qf j id hj
   rw[U];simp only[ey,ab]
  ·obtain ⟨n',_,U⟩:=qf j id hj
   rw[U];simp only[ey,ab]
  ·obtain ⟨n',_,U⟩:=qf j id hj
   rw[U];simp only[ey,ab]
 have cls: ∀j blk',hp' j=some blk'→(∃id,ord[j]? =some id∧((blk'= .dead)∨∃blk,st.hp id=some blk∧blk≠ .dead∧∀o b,bp P w o blk' b→bp P w o blk b))∨(∃e,blk'= .arr e [] false∧av j=none):=by
  intro j blk' hj
  rcases ov j ord.length with h|h
  ·have fT:=bG h
   obtain ⟨n',_,U⟩:=qf j _ fT
   rw[hj] at U
   refine .inl ⟨_,fT,?_⟩
   cases ab:st.hp ord[j] with
   | none=>left;simp only[ey,ab] at U;exact cR U
   | some blk=>
    cases blk with
    | dead=>left;simp only[ey,ab] at U;exact cR U
    | var T0 cs=>exact .inr ⟨_,rfl,by simp,fun o b h=>by simp only[ey,ab] at U;rw[cR U] at h;exact .root (by simp) (h.flat (by simp))⟩
    | arr e es fz=>exact .inr ⟨_,rfl,by simp,fun o b h=>by simp only[ey,ab] at U;rw[cR U] at h;exact .root (by simp) (h.flat (by simp))⟩
    | map t es=>exact .inr ⟨_,rfl,by simp,fun o b h=>by simp only[ey,ab] at U;rw[cR U] at h;exact .root (by simp) (h.flat (by simp))⟩
    | nest e es aq=>
     refine .inr ⟨_,rfl,by simp,fun o b h=> ?_⟩
     simp only[ey,ab] at U
     rw[cR U] at h
     cases h with
     | root _ h=>exact .root (by simp) h
     | row h1 U=>exact .row h1 U
  ·obtain ⟨k,rfl⟩: ∃k,j=ord.length+k:=⟨j-ord.length,by omega⟩
   rw[gB] at hj
   obtain ⟨e,he⟩:=yR _ (jc hj)
   exact .inr ⟨e,he,(hF k _ hj).2⟩
 refine ⟨av,⟨⟨fun j blk' hj=> ?_,fun j1 j2 b1 b2 b e1 e2 f1 f2=> ?_,fun j blk b e1 f1=> ?_,S.h.jh⟩,S.bV,S.size,S.new,S.io⟩,⟨fun k=> ?_,hA.size,hA.defers,hA.aE⟩,⟨hE.cW,hE.bV,fun id blk ab=> ?_,fun id blk blk' b ab bz hd hb=> ?_⟩⟩
 ·change hp' j=some blk' at hj
  rcases ov j ord.length with h|h
  ·have fT:=bG h
   obtain ⟨n',NA,U⟩:=qf j _ fT
   rw[hj] at U
   rw[nQ j _ fT]
   cases ab:st.hp ord[j] with
   | none=>simp only[ey,ab] at U;rw[cR U];exact .dead
   | some blk=>
    have hr:=S.h.rel _ _ ab
    generalize β ord[j]=o at hr
    cases hr with
    | dead=>simp only[ey,ab] at U;rw[cR U];exact .dead
    | dq hb=>simp only[ey,ab] at U;rw[cR U];exact .dq hb
    | arr a1 a2 a3 a4 a5 a6 a7=>simp only[ey,ab] at U;rw[cR U];exact .arr a1 a2 a3 a4 a5 a6 a7
    | nest a1 a2 a3=>simp only[ey,ab] at U;rw[cR U];exact .nest a1 a2 a3
    | map a1 a2 a3 a4 a5 a6 a7=>simp only[ey,ab] at U;rw[cR U];exact .map a1 a2 a3 a4 a5 a6 a7
    | @var xs b Ca T hb hh hs cD hx fH=>
     simp only[ey,ab] at U NA
     rw[cR U]
     exact .var hb hh (by rw[CR];exact hs) cD (fun i v y hi hy=>CS S hR (vs:=Ca.toList) (fun i v x hi ch=>hx i v x (by simpa using hi) ch) NA i v y (by simpa using hi) hy) fH
  ·rcases cls j blk' hj with ⟨id,ab,_⟩|⟨e,he,hb⟩
   ·have:=(bm.1 ab).1;omega
   ·rw[he];exact .dq hb
 ·rcases cls j1 b1 e1 with ⟨Hk,o1,x1⟩|⟨e,_,hb⟩
  ·rcases cls j2 b2 e2 with ⟨cj,o2,x2⟩|⟨e,_,hb⟩
   ·obtain ⟨c1,y1,z1,g1⟩:=x1.resolve_left f1.alive
    obtain ⟨c2,y2,z2,g2⟩:=x2.resolve_left f2.alive
    rw[nQ _ _ o1] at f1
    rw[nQ _ _ o2] at f2
    have:=S.h.inj Hk cj c1 c2 b y1 y2 (g1 _ _ f1) (g2 _ _ f2)
    subst this
    obtain ⟨q1,q2⟩:=bm.1 o1
    obtain ⟨q3,q4⟩:=bm.1 o2
    exact (List.getElem_inj kU).1 (q2.trans q4.symm)
   ·subst ‹b2=_›;have:=f2.flat (by simp);rw[hb] at this;cases this
  ·subst ‹b1=_›;have:=f1.flat (by simp);rw[hb] at this;cases this
 ·rcases cls j blk e1 with ⟨Hk,o1,x1⟩|⟨e,_,hb⟩
  ·obtain ⟨c1,y1,z1,g1⟩:=x1.resolve_left f1.alive
   rw[nQ _ _ o1] at f1
   exact S.h.own Hk c1 b y1 (g1 _ _ f1)
  ·subst ‹blk=_›;have:=f1.flat (by simp);rw[hb] at this;cases this
 ·change ao P w I av hp' (a.tmps.getD k undef) (iL _ k)
  unfold iL
  cases GY:dm (kQ st.hp ord st.sl (ord.length+(e7 st.hp ord ord.length ord).2.length) live).1 k with
  | none=>exact .undef
  | some y=>
   obtain ⟨n',h1,U⟩:=Nt hF.right GY
   simp only[Option.getD_some,U]
   exact W6 S hR (hA.sl k) h1
 ·obtain ⟨qb,k1,k2,k3⟩:=hE.blk id blk ab
  rcases yU id (hm id blk ab) with ho|⟨p,ho,bj⟩
  ·cases qb with
   | dead=>exact ⟨.dead,hR.dead id id ho k1,k2,fun h=>absurd rfl h⟩
   | var T0 cs=>
    obtain ⟨gY,h'⟩:=hR.var id id T0 cs ho k1
    refine ⟨_,h',?_,fun _=>(nQ id id ho).trans (k3 (by simp))⟩
    cases blk<;>simp_all [an.le]
   | arr e es fz=>exact ⟨_,hR.arr id id e es fz ho k1,k2,fun _=>(nQ id id ho).trans (k3 (by simp))⟩
   | map t es=>exact ⟨_,hR.map id id t es ho k1,k2,fun _=>(nQ id id ho).trans (k3 (by simp))⟩
   | nest e es aq=>
    refine ⟨_,hR.nest id id e es aq ho k1,?_,fun _=>(nQ id id ho).trans (k3 (by simp))⟩
    obtain ⟨FP,Ud,rfl,l1,l2,_⟩:=an.FN k2
    exact ⟨rfl,l1,by simpa using l2,fun k=>by rw[iS id _ _ _ ab k];exact jZ _⟩
  ·obtain ⟨n',_,U⟩:=qf id p ho
   simp only[ey,bj] at U
   exact ⟨.dead,U,by cases blk<;>trivial,fun h=>absurd rfl h⟩
 ·obtain ⟨qb,k1,k2,k3⟩:=hE.blk id blk ab
  rcases yU id (hm id blk ab) with ho|⟨p,ho,bj⟩
  ·refine hE.size id blk qb b ab k1 (fun qe=> ?_) hb
   subst qe
   have:=hR.dead id id ho k1
   change hp' id=some blk' at bz
   rw[this] at bz
   exact hd (cR bz).symm
  ·obtain ⟨n',_,U⟩:=qf id p ho
   simp only[ey,bj] at U
   change hp' id=some blk' at bz
   rw[U] at bz
   exact absurd (cR bz).symm hd
theorem Xa {n m:Nat} {live:List Nat} {a:Act} {st:St} (S:aF P w I β st.hp B M w0) (hA:iz P E G w I β n a st) (hE:km w0.w w0.I μ hp0 w I β st.hp) (hm: ∀id blk,hp0 id=some blk→id<m) (iS: ∀id e es aq,hp0 id=some (.nest e es aq)→∀k,bw aq k=0):
  ∃av,aF P w I av (canon m live st).hp B M w0∧iz P E G w I av n a (canon m live st)∧km w0.w w0.I μ hp0 w I av (canon m live st).hp:=by
 obtain ⟨t,yU,kU⟩:=W8 (m:=m) (live:=live) (st:=st)
 refine Nz (by rw[yU];exact kU) (fun id aP=> .inl ?_) S hA hE hm iS
 rw[yU,hX (by simpa using aP)]
 simp[aP]
theorem NB: ∀{l:List Nat},pG l=true→l.Nodup
 | [],_=> .nil
 | a::l,h=>by
  simp only[pG,aJ,ml] at h
  rw[List.nodup_cons]
  exact ⟨fun hm=>Bool.noConfusion ((u4 hm).symm.trans h.1),NB h.2⟩
theorem Xb {m:Nat} {mv:List Nat} {id:Nat} (h:id<m):(nz m mv)[id]? =some id∨(nz m mv)[id]? =some (m+id):=by
 unfold nz
 rw[hX (by simpa using h),gl]
 simp only[List.getElem?_range h,Option.map_some]
 cases jA mv id with
 | true=>exact .inr rfl
 | false=>exact .inl rfl
end
section
variable {P:Program} {A:cv} {w w':World} {I I' I2:Nat→Prop} {μ β av:Nat→Option Nat} {hp hp' hp0:Nat→Option an} {C:ag} {B:Nat} {M:Nat→Prop} {w0:Start}
theorem CU (p:Nat→Prop) (h: ∃n,p n): ∃n,p n∧∀m,p m→n≤m:=by
 obtain ⟨n,hn⟩:=h
 induction n using Nat.strongRecOn with
 | _ n ih=>
  by_cases hx: ∃m,m<n∧p m
  ·obtain ⟨m,hm,hp⟩:=hx
   exact ih m hm hp
  ·exact ⟨n,hn,fun m hm=>Nat.le_of_not_lt fun aP=>hx ⟨m,aP,hm⟩⟩
open Classical in
theorem Xc {c:Code} {Q:Exit→Act→World→Prop} (J:Nat→Act→World→Prop) (h0: ∀a w,¬J 0 a w) (round: ∀n a w,J (n+1) a w→c.wp P (Exit.then (J n) Q) a w) {n:Nat} {a:Act} {w:World} (h:J n a w):
  (Code.loop c).wp P Q a w:=by
 refine wp_loop (fun a w=> ∃n,J n a w) (fun a w=>if h: ∃n,J n a w then (CU _ h).choose else 0) ⟨n,h⟩ fun a w hJ=> ?_
 obtain ⟨h1,U⟩:=(CU _ hJ).choose_spec
 generalize hk:(CU _ hJ).choose=k at h1 U
 cases k with
 | zero=>exact absurd h1 (h0 a w)
 | succ k=>
  refine wp_mono (round k a w h1) fun e a' w' he=> ?_
  cases e with
  | normal=>
   have hex: ∃n,J n a' w':=⟨k,he⟩
   refine ⟨hex,?_⟩
   have h3:=(CU _ hex).choose_spec.2 k he
   rw[qG hex,qG hJ,hk]
   omega
  | _=>exact he
def vy:Out→Exit
 | .norm=> .normal
 | .exit id=> .exit id
 | .ret=> .ret
def Inv (P:Program) (E:FuncId→Bool) (G:Nat→V) (B:Nat) (M:Nat→Prop) (w0:Start) (μ:Nat→Option Nat) (hp0:Nat→Option an) (n:Nat) (a:Act) (w:World) (st:St):Prop:=
 ∃I β,aF P w I β st.hp B M w0∧iz P E G w I β n a st∧km w0.w w0.I μ hp0 w I β st.hp
theorem Inv.canon {E:FuncId→Bool} {G:Nat→V} {n m:Nat} {a:Act} {st:St} {live:List Nat} (h:Inv P E G B M w0 μ hp0 n a w st) (hm: ∀id blk,hp0 id=some blk→id<m) (iS: ∀id e es aq,hp0 id=some (.nest e es aq)→∀k,bw aq k=0):Inv P E G B M w0 μ hp0 n a w (canon m live st):=by
 obtain ⟨I,β,S,hA,hE⟩:=h
 obtain ⟨av,a,b,c⟩:=Xa (live:=live) S hA hE hm iS
 exact ⟨I,av,a,b,c⟩
theorem CV: ∀{l:List BS} {ds:List V},(ek l ds).length=l.length
 | [],_=>rfl
 | b::l,ds=>by simp only[ek,List.length_cons,CV]
theorem Inv.enter {A:cv} {E:FuncId→Bool} {G:Nat→V} {n f:Nat} {ds:List V} {a:Act} (jN:pG (nz (A.sin f).a9.length (A.mv f))=true) (h:Inv P E G B M w0 μ hp0 n a w (bf (A.sin f) ds)) (hm: ∀id blk,hp0 id=some blk→id<(A.sin f).a9.length)
  (iS: ∀id e es aq,hp0 id=some (.nest e es aq)→∀k,bw aq k=0) (vz: ∀p,(A.sin f).a9.length≤p→(bf (A.sin f) ds).hp p=none):Inv P E G B M w0 μ hp0 n a w (BH A f ds):=by
 unfold BH
 split
 ·exact h
 ·obtain ⟨I,β,S,hA,hE⟩:=h
  obtain ⟨av,x,y,z⟩:=Nz (m:=(A.sin f).a9.length) (ord:=nz (A.sin f).a9.length (A.mv f)) (live:=(A.sin f).bJ.map (·.1)) (NB jN) (fun id ab=>(Xb ab).imp (fun h=>h) fun h=>⟨_,h,vz _ (by omega)⟩) S hA hE hm iS
  exact ⟨I,av,x,y,z⟩
theorem Inv.reshape {E:FuncId→Bool} {G:Nat→V} {n m:Nat} {a:Act} {st:St} {S:Shape} {ds:List V} (h:Inv P E G B M w0 μ hp0 n a w st) (hs:je m S st=some ds) (hm: ∀id blk,hp0 id=some blk→id<m):Inv P E G B M w0 μ hp0 n a w (bf S ds):=by
 obtain ⟨I,β,S1,hA,hE⟩:=h
 obtain ⟨r1,r2,_,r4⟩:=AM.reshape hs S1
 refine ⟨I,β,r1,⟨fun k=>r2 k _ (hA.sl k),hA.size,hA.defers,hA.aE⟩,⟨hE.cW,hE.bV,fun id blk ab=> ?_,fun id blk blk' b ab bz hd hb=> ?_⟩⟩
 ·obtain ⟨qb,k1,k2,k3⟩:=hE.blk id blk ab
  obtain ⟨_,hle,_⟩:=Mj hs
  have hl:=hm id blk ab
  obtain ⟨bP,U⟩: ∃bP,(bf S ds).hp id=some bP:=by
   simp only[bf,mk,gC]
   exact ⟨_,bG (by rw[CV];omega)⟩
  by_cases hd:bP= .dead
  ·subst hd
   exact ⟨_,U,by cases blk<;>trivial,fun h=>absurd rfl h⟩
  ·obtain ⟨gr,e1,e2,_⟩:=r4 id bP U hd
   rw[k1] at e1;cases e1
   exact ⟨_,U,an.le_trans k2 e2,fun _=>k3 (fun e=>hd (an.oG (e▸e2)))⟩
 ·obtain ⟨gr,e1,e2,_⟩:=r4 id blk' bz hd
  exact hE.size id blk gr b ab e1 (fun e=>hd (an.oG (e▸e2))) hb
theorem ko.here (h:ko P A C) (f:Nat) (id:Nat):ko P (A.here f id) C:=by
 intro key ds es hh
 obtain ⟨fn,c,h1,U,h3⟩:=h key ds es hh
 refine ⟨fn,c,h1,U,fun w I μ vals a g b d=>(h3 w I μ vals a g b d).mono fun e w' hx=> ?_⟩
 obtain ⟨v,I2,bQ,q1,q2⟩:=hx
 exact ⟨v,I2,bQ,q1,⟨q2.vl,q2.le,q2.res⟩⟩
theorem Xd {a b:Out} (h:BG a b=true):a=b:=by
 cases a<;>cases b<;>simp[BG] at h<;>first|rfl|(subst h;rfl)
theorem NC {m:Nat} {r:Out × St}: ∀{l:List (Out × Shape)} {j:Nat} {e:Nat × List V},ways m j l r=some e→j≤e.1
 | [],j,e,h=>by cases h
 | (o,S)::l,j,e,h=>by
  simp only[ways] at h
  split at h
  ·cases h;exact b7 _
  ·have:=NC h;omega
theorem Hl {m:Nat} {o:Out} {s:St} {out:Out} {st':St}: ∀{l:List (Out × Shape)} {k:Nat} {e:Nat × List V},ways m k l (o,s)=some e→lE k l e.1 e.2 (fun o st=>some (o,st))=some (out,st')→
  out=o∧∃S,je m S s=some e.2∧st'=bf S e.2
 | [],k,e,h,_=>by cases h
 | (o',S)::l,k,e,h,U=>by
  simp only[ways] at h
  split at h
  ·rename_i ds hx
   cases h
   cases ho:BG o' o with
   | false=>rw[ho] at hx;cases hx
   | true=>
    rw[ho] at hx
    have:=Xd ho
    subst this
    cases l with
    | nil=>
     simp only[lE,dE,jy] at U
     exact ⟨U.1.symm,S,hx,U.2.symm⟩
    | cons p l=>
     simp only[lE,jb,cond_true,dE,jy] at U
     exact ⟨U.1.symm,S,hx,U.2.symm⟩
  ·have oN:=NC h
   cases l with
   | nil=>cases h
   | cons p l=>
    have bx:Nat.beq e.1 k=false:=by
     cases hb:Nat.beq e.1 k with
     | false=>rfl
     | true=>rw[aQ] at hb;omega
    simp only[lE,bx,cond_false] at U
    exact Hl h U
theorem Xe (hC:ko P A C) (hP:iR P A) (oU:P.follows .mixedOrders=true) {f n m:Nat} (hm: ∀id blk,hp0 id=some blk→id<m) (iS: ∀id e es aq,hp0 id=some (.nest e es aq)→∀k,bw aq k=0):
  ∀(c:Code) {st st':St} {out:Out} {Q:Exit→Act→World→Prop} {a:Act} {w:World},exec P A C f n m c st=some (out,st')→Inv P A.idle A.aE B M w0 μ hp0 n a w st→
   (∀a' w',Inv P A.idle A.aE B M w0 μ hp0 n a' w' st'→Q (vy out) a' w')→c.wp P Q a w:=by
 intro c
 induction c with
 | skip=>
  intro st st' out Q a w h hI hQ
  simp only[exec,dE,jy] at h
  obtain ⟨rfl,rfl⟩:=h
  exact wp_skip (hQ a w hI)
 | exit id=>
  intro st st' out Q a w h hI hQ
  simp only[exec,dE,jy] at h
  obtain ⟨rfl,rfl⟩:=h
  exact wp_exit (hQ a w hI)
 | ret=>
  intro st st' out Q a w h hI hQ
  simp only[exec,dE,jy] at h
  obtain ⟨rfl,rfl⟩:=h
  exact wp_ret (hQ a w hI)
 | region id ops draw=>
  intro st st' out Q a w h hI hQ
  simp only[exec] at h
  obtain ⟨iA,h1,U⟩:=bind_some h
  simp only[dE,jy] at U
  obtain ⟨rfl,rfl⟩:=U
  obtain ⟨I,β,S,hA,hE⟩:=hI
  refine W3 (hC.here f id) (hP.here f id) oU h1 S hA fun a' w' I' av k1 k2 k3=> ?_
  obtain ⟨I2,l1,l2,l3⟩:=Nl (m:=m) (pur:=A.pur f id) k2 k3
  have Xf:=(hE.trans k1.CB).trans l1.CB
  exact hQ a' w' (Inv.canon ⟨I2,av,l2,l3,Xf⟩ hm iS)
 | seq x y ib ic=>
  intro st st' out Q a w h hI hQ
  simp only[exec] at h
  obtain ⟨⟨o1,iA⟩,h1,U⟩:=bind_some h
  refine wp_seq (ib h1 hI fun a' w' jo=> ?_)
  cases o1 with
  | norm=>exact ic U jo hQ
  | exit id=>
   simp only[dE,jy] at U
   obtain ⟨rfl,rfl⟩:=U
   exact hQ a' w' jo
  | ret=>
   simp only[dE,jy] at U
   obtain ⟨rfl,rfl⟩:=U
   exact hQ a' w' jo
 | cond c x y ib ic=>
  intro st st' out Q a w h hI hQ
  cases c with
  | tmp t=>
   have go: ∀{st st':St} {out:Out} {Q:Exit→Act→World→Prop} {a:Act} {w:World},(match st.sl t with
     | .bool b=>(bif b then exec P A C f n m x st else exec P A C f n m y st).bind fun r=>
      match r.1 with
      | .norm=>some (.norm,AM.canon m (A.join f t) r.2)
      | _=>some r
     | _=>none)=some (out,st')→Inv P A.idle A.aE B M w0 μ hp0 n a w st→(∀a' w',Inv P A.idle A.aE B M w0 μ hp0 n a' w' st'→Q (vy out) a' w')→(Code.cond (.tmp t) x y).wp P Q a w:=by
    intro st st' out Q a w h hI hQ
    cases hs:st.sl t<;>rw[hs] at h<;>simp only at h<;>first|(cases h;done)|skip
    rename_i b
    obtain ⟨⟨o1,iA⟩,h1,U⟩:=bind_some h
    obtain ⟨I,β,S,hA,hE⟩:=hI
    have eC:a.eval (.tmp t)= .bool b:=by
     have:=MS hA hs
     simp[Act.eval,this]
    have fin: ∀a' w',Inv P A.idle A.aE B M w0 μ hp0 n a' w' iA→Q (vy o1) a' w':=by
     intro a' w' jo
     cases o1 with
     | norm=>
      simp only[dE,jy] at U
      obtain ⟨rfl,rfl⟩:=U
      exact hQ a' w' (jo.canon hm iS)
     | exit id=>
      simp only[dE,jy] at U
      obtain ⟨rfl,rfl⟩:=U
      exact hQ a' w' jo
     | ret=>
      simp only[dE,jy] at U
      obtain ⟨rfl,rfl⟩:=U
      exact hQ a' w' jo
    refine wp_cond eC ?_
    cases b with
    | true=>exact ib h1 ⟨I,β,S,hA,hE⟩ fin
    | false=>exact ic h1 ⟨I,β,S,hA,hE⟩ fin
   simp only[exec] at h
   split at h
   ·exact go h hI hQ
   ·obtain ⟨ds,h1,U⟩:=bind_some h
    obtain ⟨e,h3,h4⟩:=bind_some U
    obtain ⟨⟨o1,s1⟩,h5,h6⟩:=bind_some h3
    obtain ⟨rfl,S',k1,rfl⟩:=Hl h6 h4
    exact go h5 (hI.reshape h1 hm) fun a' w' jo=>hQ a' w' (jo.reshape k1 hm)
  | const v=>
   cases v with
   | bool b=>
    simp only[exec] at h
    refine wp_cond (t:=b) rfl ?_
    cases b with
    | true=>exact ib h hI hQ
    | false=>exact ic h hI hQ
   | _=>simp only[exec] at h;cases h
  | _=>simp only[exec] at h;cases h
 | block id c ih=>
  intro st st' out Q a w h hI hQ
  simp only[exec] at h
  obtain ⟨⟨o1,iA⟩,h1,U⟩:=bind_some h
  refine wp_block (ih h1 hI fun a' w' jo=> ?_)
  cases o1 with
  | norm=>
   simp only[dE,jy] at U
   obtain ⟨rfl,rfl⟩:=U
   exact hQ a' w' (jo.canon hm iS)
  | exit aD=>
   simp only at U
   cases hb:Nat.beq aD id with
   | true=>
    rw[hb] at U
    simp only[cond_true,dE,jy] at U
    obtain ⟨rfl,rfl⟩:=U
    rw[aQ] at hb
    simp only[vy,Exit.inBlock,hb,dc]
    exact hQ a' w' (jo.canon hm iS)
   | false=>
    rw[hb] at U
    simp only[cond_false,dE,jy] at U
    obtain ⟨rfl,rfl⟩:=U
    have bx:aD≠id:=fun e=>by rw[e,jb] at hb;cases hb
    simp only[vy,Exit.inBlock,bx,fO]
    exact hQ a' w' jo
  | ret=>
   simp only[dE,jy] at U
   obtain ⟨rfl,rfl⟩:=U
   exact hQ a' w' jo
 | loop c ih=>
  intro st st' out Q a w h hI hQ
  simp only[exec] at h
  split at h
  ·cases h
  ·rename_i S hS
   obtain ⟨ds,h1,U⟩:=bind_some h
   obtain ⟨e,h3,h4⟩:=bind_some U
   obtain ⟨k,hk⟩:=uA h3
   refine Xc (J:=fun k a w=> ∃ds,Inv P A.idle A.aE B M w0 μ hp0 n a w (bf S.1 ds)∧eY (fun ds=>mD m S.1 S.2 (exec P A C f n m c (bf S.1 ds))) k ds=some e) (fun a w ⟨s,_,h⟩=>by cases h) (fun k a w ⟨ds,hs,hk⟩=> ?_) ⟨ds,hI.reshape h1 hm,hk⟩
   simp only[eY] at hk
   obtain ⟨y,h5,h6⟩:=bind_some hk
   unfold mD at h5
   obtain ⟨⟨o1,s1⟩,h7,h8⟩:=bind_some h5
   refine ih h7 hs fun a' w' jo=> ?_
   have ND: ∀{e':Nat × List V},ways m 0 S.2 (o1,s1)=some e'→e'=e→Q (vy o1) a' w':=by
    intro e' q1 q2
    subst q2
    obtain ⟨rfl,S',k1,rfl⟩:=Hl q1 h4
    exact hQ a' w' (jo.reshape k1 hm)
   cases o1 with
   | norm=>
    obtain ⟨Xg,q1,q2⟩:=bind_some h8
    cases q2
    exact ⟨Xg,jo.reshape q1 hm,h6⟩
   | exit id=>
    obtain ⟨e',q1,q2⟩:=bind_some h8
    cases q2
    cases h6
    exact ND q1 rfl
   | ret=>
    obtain ⟨e',q1,q2⟩:=bind_some h8
    cases q2
    cases h6
    exact ND q1 rfl
 | _=>intro st st' out Q a w h;simp only[exec] at h;cases h
end
section
variable {P:Program} {A:cv} {w w':World} {I I' I2:Nat→Prop} {μ β av bQ:Nat→Option Nat} {hp hp' hp0:Nat→Option an} {C:ag} {B:Nat} {M:Nat→Prop} {w0:Start}
theorem CW (S:aF P w I β hp B M w0) {a:Act} {st:St} (hs:kb P w I β hp a st.sl): ∀{l:List ResultVar} {xs:List V} {rd:List Nat},(sx P st l).run C hp=some (xs,rd)→
  ∃vs:List Value,(l.mapM fun| .tmp t=>Pure.pure (a.tmps.getD t undef)| .cell x t=>do loadVar t (←asAddr (a.tmps.getD x undef)):Sem (List Value)).run P w= .ok vs w∧vs.length=xs.length∧l.length=xs.length∧
   ∀(j:Nat) v x,vs[j]? =some v→xs[j]? =some x→ao P w I β hp v x
 | [],xs,rd,h=>by
  cases h
  exact ⟨[],by simp,rfl,rfl,by simp⟩
 | .tmp t::l,xs,rd,h=>by
  simp only[sx] at h
  obtain ⟨ys,l1,l2,h1,U⟩:=kf h
  have h3:=FR U
  subst h3
  obtain ⟨vs,a1,a2,a3,a4⟩:=CW S hs h1
  refine ⟨a.tmps.getD t undef::vs,by simp only[List.mapM_cons,Sem.run_bind,Sem.run_pure,Result.andThen_ok,a1],by simp[a2],by simp[a3],fun j v x hj hx=> ?_⟩
  cases j with
  | zero=>simp at hj hx;subst hj;subst hx;have:=hs t;simpa using this
  | succ j=>exact a4 j v x (by simpa using hj) (by simpa using hx)
 | .cell y t::l,xs,rd,h=>by
  simp only[sx] at h
  obtain ⟨r,l1,l2,h1,U⟩:=kf h
  obtain ⟨ys,l3,l4,h3,h4⟩:=kf U
  have h5:=FR h4
  subst h5
  obtain ⟨v0,b1,b2,b3,ad,b4⟩:=K9 S (hs y) h1
  obtain ⟨vs,a1,a2,a3,a4⟩:=CW S hs h3
  refine ⟨v0::vs,?_,by simp[a2],by simp[a3],fun j v x hj hx=> ?_⟩
  ·have e1:(do loadVar t (←asAddr (a.tmps.getD y undef)):Sem Value).run P w= .ok v0 w:=by
    rw[b4] at b1⊢
    simpa[Instr.loadAt,Instr.sureAddr,asAddr] using b1
   simp only[List.mapM_cons,Sem.run_bind,e1,Result.andThen_ok,a1,Sem.run_pure]
  cases j with
  | zero=>simp at hj hx;subst hj;subst hx;exact b2
  | succ j=>exact a4 j v x (by simpa using hj) (by simpa using hx)
def th:List Value→Value
 | [v]=>v
 | l=> .tuple l.toArray
theorem Xh {vs:List Value} (h:vs.length≠1):th vs= .tuple vs.toArray:=by
 match vs,h with
 | [],_=>rfl
 | [v],h=>simp at h
 | v::v2::l,_=>rfl
theorem Xi {fn:Func} {a:Act} {st:St} (S:aF P w I β st.hp B M w0) (hs:kb P w I β st.hp a st.sl) {xs:List V} {rd:List Nat} (h:(sx P st fn.results.toList).run C st.hp=some (xs,rd)):
  ∃vs:List Value,(results fn a.tmps).run P w= .ok (th vs) w∧vs.length=xs.length∧
   ∀(j:Nat) v x,vs[j]? =some v→xs[j]? =some x→ao P w I β st.hp v x:=by
 obtain ⟨vs,a1,a2,_,a4⟩:=CW S hs h
 refine ⟨vs,?_,a2,a4⟩
 unfold results
 rw[Array.mapM_eq_mapM_toList]
 simp only[map_eq_pure_bind,bind_assoc,pure_bind,Sem.run_bind]
 refine (congrArg (fun r:Result (List Value)=>r.andThen _) a1).trans ?_
 simp only[Result.andThen_ok,Sem.run_pure]
 match vs with
 | []=>simp[th]
 | [v]=>simp[th]
 | v::v2::l=>simp[th]
theorem NF: ∀{args:List V} {i k:Nat},dm (mE i args) k=if i≤k then args[k-i]? else none
 | [],i,k=>by simp[mE,dm]
 | v::vs,i,k=>by
  simp only[mE,dm]
  cases hb:Nat.beq k i with
  | true=>
   rw[aQ] at hb
   subst hb
   simp
  | false=>
   have bx:k≠i:=fun e=>by rw[e,jb] at hb;cases hb
   simp only[cond_false,NF]
   by_cases h:i≤k
   ·rw[aj (by omega),aj h]
    obtain ⟨d,rfl⟩: ∃d,k=i+1+d:=⟨k-(i+1),by omega⟩
    rw[show i+1+d-(i+1)=d by omega,show i+1+d-i=d+1 by omega]
    rfl
   ·rw[ai (by omega),ai h]
theorem Hm: ∀{l:List (Nat × VS)} {ds:List V} {i k:Nat},jF i l=true→dm (eO l ds) k=if i≤k then (eZ (l.map (·.2)) ds)[k-i]? else none
 | [],ds,i,k,_=>by simp[eO,eZ,dm]
 | (q,s)::l,ds,i,k,h=>by
  simp only[jF,aJ,aQ] at h
  obtain ⟨rfl,h⟩:=h
  simp only[eO,dm,cH,eZ]
  cases hb:Nat.beq k q with
  | true=>
   rw[aQ] at hb
   subst hb
   simp
  | false=>
   have bx:k≠q:=fun e=>by rw[e,jb] at hb;cases hb
   simp only[cond_false]
   rw[Hm h]
   by_cases h:q≤k
   ·rw[aj (by omega),aj h]
    obtain ⟨d,rfl⟩: ∃d,k=q+1+d:=⟨k-(q+1),by omega⟩
    rw[show q+1+d-(q+1)=d by omega,show q+1+d-q=d+1 by omega]
    rfl
   ·rw[ai (by omega),ai h]
theorem NG: ∀{l:List (Nat × VS)} {ds:List V},(eO l ds).map (·.2)=eZ (l.map (·.2)) ds
 | [],_=>rfl
 | (q,s)::l,ds=>by simp only[eO,cH,eZ,NG]
theorem Hn: ∀{l:List VS} {ds:List V},(eZ l ds).length=l.length
 | [],_=>rfl
 | s::l,ds=>by simp only[eZ,List.length_cons,Hn]
theorem NH: ∀{l:List (Nat × VS)} {ds:List V},(eO l ds).length=l.length
 | [],_=>rfl
 | (q,s)::l,ds=>by simp only[eO,List.length_cons,NH]
theorem Xj {vals:List Value} {l:List (Nat × V)} (hl:vals.length=l.length) (h: ∀(j:Nat) v y,vals[j]? =some v→(l.map (·.2))[j]? =some y→ao P w I β hp v y):ao P w I β hp (th vals) (oE l):=by
 match l,hl,h with
 | [],hl,h=>
  obtain rfl:vals=[]:=kJ hl
  exact .aY rfl fun j v x _ hx=>by simp at hx
 | [(k,y)],hl,h=>
  match vals,hl,h with
  | [v],_,h=>exact h 0 v y rfl rfl
 | a::b::l,hl,h=>
  have bx:vals.length≠1:=by rw[hl];simp
  rw[Xh bx]
  simp only[oE]
  exact .aY (by simp[hl]) fun j v y hj hy=>h j v y (by simpa using hj) hy
theorem Xk {l:List BS} {ds:List V} {j:Nat} {e:TypeId} {es:List V} {aq:List Nat} (h:(ek l ds)[j]? =some (.nest e es aq)) (k:Nat):bw aq k=0:=by
 obtain ⟨b,eS,_,U⟩:=G2 h
 cases b<;>simp only[fj] at U<;>cases U
 match k with
 | 0=>rfl
 | 1=>rfl
 | 2=>rfl
 | _+3=>rfl
theorem Xl {f n m:Nat} {fn:Func} {a:Act} {st:St} {es:List V} {rd:List Nat} (hm: ∀id blk,hp0 id=some blk→id<m) (iS: ∀id e es aq,hp0 id=some (.nest e es aq)→∀k,bw aq k=0)
  (hI:Inv P A.idle A.aE B M w0 μ hp0 n a w st) (nR:jF 0 (A.gp f).bJ=true) (aS:(A.gp f).bJ.length=fn.results.size) (h:(uP P A f fn m st).run C st.hp=some (es,rd)):
  ∃v I2 bQ,(results fn a.tmps).run P w= .ok v w∧aF P w I2 bQ (bf (A.so f es) (A.lv f es)).hp B M w0∧km w0.w w0.I μ hp0 w I2 bQ (bf (A.so f es) (A.lv f es)).hp∧ao P w I2 bQ (bf (A.so f es) (A.lv f es)).hp v (oE (eO (A.so f es).bJ (A.lv f es))):=by
 unfold uP at h
 obtain ⟨xs,l1,l2,h1,U⟩:=kf h
 obtain ⟨I,β,S,hA,hE⟩:=hI
 obtain ⟨vals,e1,e2,e3⟩:=Xi S hA.sl h1
 have e4:fn.results.size=xs.length:=by
  obtain ⟨_,_,_,q,_⟩:=CW S hA.sl h1
  simpa using q
 have fin: ∀(Sx:Shape) (es:List V),jF 0 Sx.bJ=true→Sx.bJ.length=fn.results.size→je m Sx (canon m (List.range xs.length) (freeze m (A.sk f) ⟨iL (mE 0 xs),st.hp,st.nb⟩))=some es→
   ∃v I2 bQ,(results fn a.tmps).run P w= .ok v w∧aF P w I2 bQ (bf Sx es).hp B M w0∧km w0.w w0.I μ hp0 w I2 bQ (bf Sx es).hp∧ao P w I2 bQ (bf Sx es).hp v (oE (eO Sx.bJ es)):=by
  intro Sx es nR aS ti
  have Xm:iz P A.idle A.aE w I β vals.length ⟨vals.toArray,[]⟩ ⟨iL (mE 0 xs),st.hp,st.nb⟩:=by
   refine ⟨fun k=> ?_,by simp,by simp,hA.aE⟩
   change ao P w I β st.hp _ (iL (mE 0 xs) k)
   unfold iL
   rw[NF]
   simp only[jZ,dc,Nat.sub_zero]
   cases hk:xs[k]? with
   | none=>exact .undef
   | some x=>
    have gZ:k<vals.length:=by rw[e2];exact (bm.1 hk).1
    have:=e3 k vals[k] x (bG gZ) hk
    have e5:(vals.toArray).getD k undef=vals[k]:=by simp[gZ]
    rw[Option.getD_some]
    exact e5▸this
  obtain ⟨I2,k1,k2,k3⟩:=Nl (st:=⟨iL (mE 0 xs),st.hp,st.nb⟩) (m:=m) (pur:=A.sk f) S Xm
  have Xn:Inv P A.idle A.aE B M w0 μ hp0 vals.length ⟨vals.toArray,[]⟩ w (freeze m (A.sk f) ⟨iL (mE 0 xs),st.hp,st.nb⟩):=⟨I2,β,k2,k3,hE.trans k1.CB⟩
  obtain ⟨I3,NI,q1,q2,q3⟩:=(Xn.canon (live:=List.range xs.length) hm iS).reshape ti hm
  refine ⟨th vals,I3,NI,e1,q1,q3,Xj (by rw[NH,aS,e4,e2]) fun j v y hj hy=> ?_⟩
  have hv:=q2.sl j
  have bW:=(bm.1 hj).1
  have e5:(vals.toArray).getD j undef=v:=by
   have:=(bm.1 hj).2
   simp[bW,this]
  change ao P w I3 NI _ ((vals.toArray).getD j undef) (iL (eO Sx.bJ _) j) at hv
  rw[e5] at hv
  unfold iL at hv
  rw[Hm nR] at hv
  simp only[jZ,dc,Nat.sub_zero] at hv
  rw[NG] at hy
  rw[hy] at hv
  exact hv
 unfold cv.so cv.lv
 cases bX:A.alt f with
 | none=>
  rw[bX] at U
  simp only at U⊢
  split at U
  ·rename_i eS ti
   have:=aN U
   subst this
   exact fin _ _ nR aS ti
  ·cases U
 | some S2=>
  rw[bX] at U
  simp only at U⊢
  split at U
  ·rename_i eS ti
   have:=aN U
   subst this
   exact fin _ _ nR aS ti
  ·split at U
   ·rename_i eS ti
    obtain ⟨hc,h3⟩:=aG U
    simp only[aJ,aQ] at hc
    have:=aN h3
    subst this
    exact fin _ _ hc.1 hc.2 ti
   ·cases U
theorem Xo (hC:ko P A C) (hP:iR P A) (oU:P.follows .mixedOrders=true):ko P A (pI P A C):=by
 intro f ds es h
 unfold pI at h
 cases hf:P.funcs[A.aZ f]? with
 | none=>rw[hf] at h;cases h
 | some fn=>
  rw[hf] at h
  simp only at h
  cases hb:fn.body with
  | none=>rw[hb] at h;cases h
  | some c=>
   rw[hb] at h
   simp only at h
   cases hc:(jF 0 (A.sin f).bJ&&(Nat.ble (A.sin f).bJ.length fn.ntmps&&((A.sin f).ok&&(jF 0 (A.gp f).bJ&&(Nat.beq (A.gp f).bJ.length fn.results.size&&pG (nz (A.sin f).a9.length (A.mv f))))))) with
   | false=>rw[hc] at h;cases h
   | true=>
    rw[hc] at h
    simp only[cond_true] at h
    simp only[aJ,aQ,dD] at hc
    obtain ⟨jM,hnt,_,vq,aS,jN⟩:=hc
    obtain ⟨⟨out,st'⟩,h1,U⟩:=bind_some h
    refine ⟨fn,c,rfl,hb,fun w I μ vals hH Xp hl hv=> ?_⟩
    have Xq:(∀id,out≠ .exit id)∧∃rd,(uP P A f fn (A.sin f).a9.length st').run C st'.hp=some (es,rd):=by
     cases out with
     | exit id=>cases U
     | norm=>
      refine ⟨by simp,?_⟩
      simp only[xu] at U
      obtain ⟨⟨x,rd⟩,e1,e2⟩:=U
      simp only at e2
      subst e2
      exact ⟨rd,e1⟩
     | ret=>
      refine ⟨by simp,?_⟩
      simp only[xu] at U
      obtain ⟨⟨x,rd⟩,e1,e2⟩:=U
      simp only at e2
      subst e2
      exact ⟨rd,e1⟩
    obtain ⟨bx,rd,GS⟩:=Xq
    refine calls_of_wp_defers hf hb ?_
    have hm: ∀id blk,(bf (A.sin f) ds).hp id=some blk→id<(A.sin f).a9.length:=by
     intro id blk ab
     simp only[bf,mk,gC] at ab
     have:=(bm.1 ab).1
     rwa [CV] at this
    have iS: ∀id e es aq,(bf (A.sin f) ds).hp id=some (.nest e es aq)→∀k,bw aq k=0:=by
     intro id e es aq ab k
     simp only[bf,mk,gC] at ab
     exact Xk ab k
    refine Xe (w0:=⟨w,I⟩) (μ:=μ) (hp0:=(bf (A.sin f) ds).hp) (B:=w.heap.size) (M:=nP P w μ (bf (A.sin f) ds).hp) hC hP oU hm iS c h1 ?_ ?_
    ·refine Inv.enter jN ?_ hm iS fun p hp=>by
      simp only[bf,mk,gC]
      rw[List.getElem?_eq_none_iff,CV]
      exact hp
     refine ⟨I,μ,⟨hH,fun _ _ _=>rfl,b7 _,fun b h=> .inl h,⟨rfl,rfl⟩⟩,⟨fun k=> ?_,?_,by simp,Xp⟩,(Le.refl (P:=P) w I μ _).CB⟩
     ·change ao P w I μ _ _ (iL (eO (A.sin f).bJ ds) k)
      unfold iL
      rw[Hm jM]
      simp only[jZ,dc,Nat.sub_zero]
      cases hk:(eZ ((A.sin f).bJ.map (·.2)) ds)[k]? with
      | none=>exact .undef
      | some x=>
       have gZ:k<vals.length:=by
        have:=(bm.1 hk).1
        rw[Hn,bn] at this
        rw[hl];exact this
       have:=hv k vals[k] x (bG gZ) hk
       have e1:(vals.toArray++Array.replicate (fn.ntmps-vals.toArray.size) undef).getD k undef=vals[k]:=by
        simp[Array.getElem?_append,gZ]
       rw[Option.getD_some]
       exact e1▸this
     ·simp
      omega
    ·intro a' w' hI
     obtain ⟨v,I2,bQ,q1,q2,q3,q4⟩:=Xl hm iS hI vq aS GS
     obtain ⟨_,_,_,hA,_⟩:=hI
     cases out with
     | exit id=>exact absurd rfl (bx id)
     | norm=>exact G8 hP q1 ⟨v,I2,bQ,rfl,q2,q3,q4⟩ _ hA.defers
     | ret=>exact G8 hP q1 ⟨v,I2,bQ,rfl,q2,q3,q4⟩ _ hA.defers
theorem NJ (hP:iR P A) (oU:P.follows .mixedOrders=true): ∀n,ko P A (kR P A n)
 | 0=>fun _ _ _ h=>by cases h
 | n+1=>Xo (NJ hP oU n) hP oU
theorem Xr (hP:iR P A) (oU:P.follows .mixedOrders=true):ko P A (Call P A):=by
 intro f ds es h
 have hn: ∃n,kR P A n f ds=some es:=by
  unfold Call at h
  split at h
  ·rename_i hex
   have:=hex.choose_spec.choose_spec
   rw[cR h] at this
   exact ⟨_,this⟩
  ·cases h
 obtain ⟨n,hn⟩:=hn
 exact NJ hP oU n f ds es hn
end
section
variable {P:Program} {A:cv} {C:ag} {D:Nat→ag}
def yV (C:ag) (D:Nat→ag):Prop:= ∀f a r,C f a=some r→∃n,∀k,n≤k→D k f a=some r
theorem oV {α:Type} (h:yV C D) {hp:Nat→Option an}: ∀{p:Rd α} {r:α × List Nat},p.run C hp=some r→∃n,∀k,n≤k→p.run (D k) hp=some r
 | .ret a,r,e=>⟨0,fun _ _=>e⟩
 | .fail,r,e=>by cases e
 | .get id q,r,e=>by
  obtain ⟨x,h1,U⟩:=bind_some e
  obtain ⟨n,hn⟩:=oV h h1
  exact ⟨n,fun k hk=>by simp only[Rd.run,hn k hk,Option.bind_some];exact U⟩
 | .opt o q,r,e=>by
  obtain ⟨x,h1,U⟩:=bind_some e
  obtain ⟨n,hn⟩:=oV h U
  exact ⟨n,fun k hk=>by simp only[Rd.run,h1,Option.bind_some];exact hn k hk⟩
 | .live id ok q,r,e=>by
  simp only[Rd.run] at e
  cases hk:ok (fE (hp id)) with
  | false=>rw[hk] at e;cases e
  | true=>
   rw[hk] at e
   obtain ⟨x,h1,U⟩:=bind_some e
   obtain ⟨n,hn⟩:=oV h h1
   exact ⟨n,fun k lR=>by simp only[Rd.run,hk,cond_true,hn k lR,Option.bind_some];exact U⟩
 | .aC b q,r,e=>by
  obtain ⟨h1,U⟩:=aG e
  obtain ⟨n,hn⟩:=oV h U
  exact ⟨n,fun k hk=>by simp only[Rd.run,h1,cond_true];exact hn k hk⟩
 | .call f a q,r,e=>by
  obtain ⟨x,h1,U⟩:=bind_some e
  obtain ⟨n1,jM⟩:=h f a x h1
  obtain ⟨n2,vq⟩:=oV h U
  exact ⟨max n1 n2,fun k hk=>by simp only[Rd.run,jM k (by omega),Option.bind_some];exact vq k (by omega)⟩
 | .alt true x y,r,e=>oV (p:=x) h e
 | .alt false x y,r,e=>oV (p:=y) h e
theorem Xs (h:yV C D) {n i nb:Nat} {ops:Array Oper} {o:Oper} {st:St} {r:St × List Nat × List Nat} (e:gq P A C n ops i o nb st=some r): ∃N,∀k,N≤k→gq P A (D k) n ops i o nb st=some r:=by
 unfold gq at e
 have go:(((e6 P A st.sl i (nb+64*i) o).run C st.hp).bind fun r=>some ((⟨gQ st.sl o.dst r.1.v,bB st.hp r.1.upd,st.nb⟩:St),pH r.2 r.1.upd,fk st.hp r.1.upd))=some r→
   ∃N,∀k,N≤k→(((e6 P A st.sl i (nb+64*i) o).run (D k) st.hp).bind fun r=>some ((⟨gQ st.sl o.dst r.1.v,bB st.hp r.1.upd,st.nb⟩:St),pH r.2 r.1.upd,fk st.hp r.1.upd))=some r:=by
  intro e
  obtain ⟨x,h1,U⟩:=bind_some e
  obtain ⟨N,hN⟩:=oV h h1
  exact ⟨N,fun k hk=>by rw[hN k hk];exact U⟩
 unfold gq
 cases hd:qX o n with
 | false=>rw[hd] at e;cases e
 | true=>
  rw[hd] at e
  simp only[cond_true] at e⊢
  cases hg:o.guard with
  | none=>rw[hg] at e;exact go e
  | some gw=>
   obtain ⟨g,want⟩:=gw
   rw[hg] at e
   simp only at e⊢
   cases lb:(ops[g]?).bind (·.dst) with
   | none=>rw[lb] at e;cases e
   | some d=>
    rw[lb] at e
    simp only at e⊢
    cases lQ:kM (st.sl d) with
    | none=>rw[lQ] at e;cases e
    | some ob=>
    rw[lQ] at e
    cases ob with
    | none=>exact ⟨0,fun _ _=>e⟩
    | some b=>
    simp only at e⊢
    cases hb:b==want with
    | true=>rw[hb] at e;exact go e
    | false=>rw[hb] at e;exact ⟨0,fun _ _=>e⟩
theorem NK (h:yV C D) {n nb:Nat} {ops:Array Oper}: ∀{l:List (Nat × Oper)} {st:St} {log:Log} {r:St × Log},oF P A C n ops nb l st log=some r→∃N,∀k,N≤k→oF P A (D k) n ops nb l st log=some r
 | [],st,log,r,e=>⟨0,fun _ _=>e⟩
 | (i,o)::l,st,log,r,e=>by
  obtain ⟨x,h1,U⟩:=bind_some e
  obtain ⟨N1,nS⟩:=Xs h h1
  obtain ⟨N2,qg⟩:=NK h U
  exact ⟨max N1 N2,fun k hk=>by simp only[oF,nS k (by omega),Option.bind_some];exact qg k (by omega)⟩
theorem NL {X R:Type} {step:X→Option (X ⊕ R)} {stepD:Nat→X→Option (X ⊕ R)} (hs: ∀x y,step x=some y→∃N,∀k,N≤k→stepD k x=some y): ∀(n:Nat) (x:X) (r:R),eY step n x=some r→∃N,∀k,N≤k→eY (stepD k) n x=some r
 | 0,x,r,e=>by cases e
 | n+1,x,r,e=>by
  simp only[eY] at e⊢
  obtain ⟨y,h1,U⟩:=bind_some e
  obtain ⟨N1,nS⟩:=hs x y h1
  cases y with
  | inl z=>
   obtain ⟨N2,qg⟩:=NL hs n z r U
   exact ⟨max N1 N2,fun k hk=>by rw[nS k (by omega)];exact qg k (by omega)⟩
  | inr q=>exact ⟨N1,fun k hk=>by rw[nS k hk];exact U⟩
theorem Xt (h:yV C D) {f n m:Nat}: ∀(c:Code) {st:St} {r:Out × St},exec P A C f n m c st=some r→∃N,∀k,N≤k→exec P A (D k) f n m c st=some r:=by
 intro c
 induction c with
 | skip=>exact fun e=>⟨0,fun _ _=>e⟩
 | exit id=>exact fun e=>⟨0,fun _ _=>e⟩
 | ret=>exact fun e=>⟨0,fun _ _=>e⟩
 | region id ops draw=>
  intro st r e
  simp only[exec] at e⊢
  obtain ⟨x,h1,U⟩:=bind_some e
  obtain ⟨y,h3,h4⟩:=bind_some h1
  obtain ⟨N,hN⟩:=NK h h3
  refine ⟨N,fun k hk=> ?_⟩
  have:xS P (A.here f id) (D k) n ops draw st=some x:=by
   unfold xS
   rw[hN k hk]
   exact h4
  rw[this]
  exact U
 | seq x y ib ic=>
  intro st r e
  simp only[exec] at e⊢
  obtain ⟨⟨o,s1⟩,h1,U⟩:=bind_some e
  obtain ⟨N1,nS⟩:=ib h1
  cases o with
  | norm=>
   obtain ⟨N2,qg⟩:=ic U
   exact ⟨max N1 N2,fun k hk=>by rw[nS k (by omega)];exact qg k (by omega)⟩
  | exit id=>exact ⟨N1,fun k hk=>by rw[nS k hk];exact U⟩
  | ret=>exact ⟨N1,fun k hk=>by rw[nS k hk];exact U⟩
 | cond c x y ib ic=>
  intro st r e
  cases c with
  | tmp t=>
   have go: ∀{st:St} {r:Out × St},(match st.sl t with
     | .bool b=>(bif b then exec P A C f n m x st else exec P A C f n m y st).bind fun r=>
      match r.1 with
      | .norm=>some (.norm,canon m (A.join f t) r.2)
      | _=>some r
     | _=>none)=some r→∃N,∀k,N≤k→(match st.sl t with
     | .bool b=>(bif b then exec P A (D k) f n m x st else exec P A (D k) f n m y st).bind fun r=>
      match r.1 with
      | .norm=>some (.norm,canon m (A.join f t) r.2)
      | _=>some r
     | _=>none)=some r:=by
    intro st r e
    cases hs:st.sl t<;>rw[hs] at e<;>simp only at e⊢ <;>first|(cases e;done)|skip
    rename_i b
    obtain ⟨x1,h1,U⟩:=bind_some e
    cases b with
    | true=>
     obtain ⟨N,hN⟩:=ib h1
     exact ⟨N,fun k hk=>by simp only[cond_true,hN k hk,Option.bind_some];exact U⟩
    | false=>
     obtain ⟨N,hN⟩:=ic h1
     exact ⟨N,fun k hk=>by simp only[cond_false,hN k hk,Option.bind_some];exact U⟩
   simp only[exec] at e⊢
   split at e
   ·rename_i hS
    obtain ⟨N,hN⟩:=go e
    exact ⟨N,fun k hk=>hN k hk⟩
   ·rename_i S hS
    obtain ⟨ds,h1,U⟩:=bind_some e
    obtain ⟨e',h3,h4⟩:=bind_some U
    obtain ⟨r1,h5,h6⟩:=bind_some h3
    obtain ⟨N,hN⟩:=go h5
    refine ⟨N,fun k hk=> ?_⟩
    try rw[hS]
    simp only[h1,Option.bind_some]
    exact (congrArg (fun z:Option (Out × St)=>(z.bind fun r=>ways m 0 S.2 r).bind fun e=>lE 0 S.2 e.1 e.2 fun o st=>some (o,st)) (hN k hk)).trans (by simp only[Option.bind_some,h6];exact h4)
  | const v=>
   cases v with
   | bool b=>
    simp only[exec] at e⊢
    cases b with
    | true=>exact ib e
    | false=>exact ic e
   | _=>simp only[exec] at e;cases e
  | _=>simp only[exec] at e;cases e
 | block id c ih=>
  intro st r e
  simp only[exec] at e⊢
  obtain ⟨x1,h1,U⟩:=bind_some e
  obtain ⟨N,hN⟩:=ih h1
  exact ⟨N,fun k hk=>by rw[hN k hk];exact U⟩
 | loop c ih=>
  intro st r e
  simp only[exec] at e⊢
  split at e
  ·cases e
  ·rename_i S hS
   obtain ⟨ds,h1,U⟩:=bind_some e
   obtain ⟨e',h3,h4⟩:=bind_some U
   obtain ⟨q,hq⟩:=uA h3
   obtain ⟨N,hN⟩:=NL (stepD:=fun k ds=>mD m S.1 S.2 (exec P A (D k) f n m c (bf S.1 ds))) (fun x y CX=>by
    unfold mD at CX⊢
    obtain ⟨z,h5,h6⟩:=bind_some CX
    obtain ⟨N,hN⟩:=ih h5
    exact ⟨N,fun k hk=>by rw[hN k hk];exact h6⟩) q ds e' hq
   refine ⟨N,fun k hk=> ?_⟩
   try rw[hS]
   simp only[h1,Option.bind_some]
   rw[xz (hN k hk)]
   exact h4
 | _=>intro st r e;simp only[exec] at e;cases e
theorem Ho (h:yV C D) {f:Nat} {ds es:List V} (e:pI P A C f ds=some es): ∃N,∀k,N≤k→pI P A (D k) f ds=some es:=by
 unfold pI at e⊢
 cases hf:P.funcs[A.aZ f]? with
 | none=>rw[hf] at e;cases e
 | some fn=>
  rw[hf] at e
  simp only at e⊢
  cases hb:fn.body with
  | none=>rw[hb] at e;cases e
  | some c=>
   rw[hb] at e
   simp only at e⊢
   cases hc:(jF 0 (A.sin f).bJ&&(Nat.ble (A.sin f).bJ.length fn.ntmps&&((A.sin f).ok&&(jF 0 (A.gp f).bJ&&(Nat.beq (A.gp f).bJ.length fn.results.size&&pG (nz (A.sin f).a9.length (A.mv f))))))) with
   | false=>rw[hc] at e;cases e
   | true=>
    rw[hc] at e
    simp only[cond_true] at e⊢
    obtain ⟨⟨o,s1⟩,h1,U⟩:=bind_some e
    obtain ⟨N1,nS⟩:=Xt h c h1
    cases o with
    | exit id=>cases U
    | norm=>
     simp only[xu] at U
     obtain ⟨x,e1,e2⟩:=U
     obtain ⟨N2,qg⟩:=oV h e1
     exact ⟨max N1 N2,fun k hk=>by rw[nS k (by omega)];simp only[Option.bind_some,qg k (by omega),Option.map_some,e2]⟩
    | ret=>
     simp only[xu] at U
     obtain ⟨x,e1,e2⟩:=U
     obtain ⟨N2,qg⟩:=oV h e1
     exact ⟨max N1 N2,fun k hk=>by rw[nS k (by omega)];simp only[Option.bind_some,qg k (by omega),Option.map_some,e2]⟩
theorem NM: ∀n f a r,kR P A n f a=some r→kR P A (n+1) f a=some r
 | 0,f,a,r,h=>by cases h
 | n+1,f,a,r,h=>by
  obtain ⟨N,hN⟩:=Ho (C:=kR P A n) (D:=fun _=>kR P A (n+1)) (fun f a r h=>⟨0,fun _ _=>NM n f a r h⟩) h
  exact hN N (b7 _)
theorem Hp {n k:Nat} (hk:n≤k) {f:Nat} {a r:List V} (h:kR P A n f a=some r):kR P A k f a=some r:=by
 induction hk with
 | refl=>exact h
 | step _ ih=>exact NM _ _ _ _ ih
theorem CY {f:Nat} {a r:List V}:Call P A f a=some r↔∃n,kR P A n f a=some r:=by
 constructor
 ·intro h
  unfold Call at h
  split at h
  ·rename_i hex
   have:=hex.choose_spec.choose_spec
   rw[cR h] at this
   exact ⟨_,this⟩
  ·cases h
 ·rintro ⟨n,hn⟩
  have hex: ∃n r,kR P A n f a=some r:=⟨n,r,hn⟩
  unfold Call
  rw[qG hex]
  have U:=hex.choose_spec.choose_spec
  have h3:=Hp (Nat.le_max_left n hex.choose) hn
  have h4:=Hp (Nat.le_max_right n hex.choose) U
  rw[h3] at h4
  exact h4.symm
theorem Xu (f:Nat) (a:List V):Call P A f a=pI P A (Call P A) f a:=by
 apply Option.ext
 intro r
 constructor
 ·intro h
  obtain ⟨n,hn⟩:=CY.1 h
  cases n with
  | zero=>cases hn
  | succ n=>
   obtain ⟨N,hN⟩:=Ho (C:=kR P A n) (D:=fun _=>Call P A) (fun f a r h=>⟨0,fun _ _=>CY.2 ⟨n,h⟩⟩) hn
   exact hN N (b7 _)
 ·intro h
  obtain ⟨N,hN⟩:=Ho (C:=Call P A) (D:=kR P A) (fun f a r h=>by
   obtain ⟨n,hn⟩:=CY.1 h
   exact ⟨n,fun k hk=>Hp hk hn⟩) h
  exact CY.2 ⟨N+1,hN N (b7 _)⟩
end
end Go.AM
namespace Go.AM
open Go.ChangeShapes Go.WideShapes Go.RowKit
section
variable (P:Program)
inductive WT:TypeId→V→Prop
 | int {t:TypeId} {k:IntKind} {n:Int}:P.underlying t=some (.int k)→(Lit.int k n).wf=true→WT t (.int k n)
 | bool {t:TypeId} {b:Bool}:P.underlying t=some .bool→WT t (.bool b)
 | str {t:TypeId} {l:List UInt8}:P.underlying t=some .string→l.length≤maxLen→WT t (.str l)
 | list {t e:TypeId} {es:List V}:P.underlying t=some (.slice e)→es.length≤maxLen→
   (∀(i:Nat) x,es[i]? =some x→bA P e=true→∃xs,x= .agg xs∧xs.length=(aR P e).length)→
   (∀(i j:Nat) x t',es[i]? =some x→(aR P e)[j]? =some t'→WT t' (bC P e x j))→WT t (.list e es)
def gK (t:TypeId) (x:V):Prop:=
 (bA P t=true→∃xs,x= .agg xs∧xs.length=(aR P t).length)∧∀(j:Nat) t',(aR P t)[j]? =some t'→WT P t' (bC P t x j)
def pk:List TypeId→List V→Prop
 | [],[]=>True
 | t::ts,x::xs=>gK P t x∧pk ts xs
 | _,_=>False
def hasB (L:List TypeId) (t:TypeId):Bool:=L.any fun u=>Nat.beq u t
def CZ (L:List TypeId):Nat→List Field→Bool
 | _,[]=>true
 | n,f::fs=>hasB L f.type&&(Nat.beq f.offset n&&(Nat.beq (P.cellsOf f.type) (aR P f.type).length&&CZ L (n+P.cellsOf f.type) fs))
def yW:List Nat→List Nat→Bool
 | [],[]=>true
 | a::l,b::m=>Nat.beq a b&&yW l m
 | _,_=>false
def Hq (L:List TypeId) (t:TypeId):Bool:=
 Nat.beq (P.cellsOf t) (aR P t).length&&
 match P.underlying t with
 | some (.int _)=>true
 | some .bool=>true
 | some .string=>true
 | some (.slice e)=>hasB L e&&cE P e
 | some (.struct fs)=>CZ P L 0 fs.toList&&yW (flat P t) (fs.toList.flatMap fun f=>aR P f.type)
 | some (.array n e)=>hasB L e&&(Nat.beq (P.cellsOf e) (aR P e).length&&yW (flat P t) (List.replicate n (aR P e)).flatten)
 | _=>false
def C2 (L:List TypeId):Bool:=L.all fun t=>Hq P L t
end
theorem C3 {L:List TypeId} {t:TypeId} (h:hasB L t=true):t∈L:=by
 obtain ⟨u,hu,U⟩:=nq.1 h
 rw[aQ] at U
 exact U▸hu
theorem Hr: ∀{l m:List Nat},yW l m=true→l=m
 | [],[],_=>rfl
 | a::l,b::m,h=>by
  simp only[yW,aJ,aQ] at h
  rw[h.1,Hr h.2]
 | [],_::_,h=>by cases h
 | _::_,[],h=>by cases h
section
variable {P:Program} {H:Type} {enc:TypeId × Value→H} {w:World} {base:Nat} {spare:Nat→Bool} {held:Bool} {L:List TypeId}
def nT (w:World):Nat→Prop:=fun b=>b<w.heap.size
def mQ (P:Program) (w:World) (ts:List TypeId) (cs:List Value) (xs:List V):Prop:=
 cs.length=ts.length∧xs.length=ts.length∧∀(j:Nat) t',ts[j]? =some t'→∃v y,cs[j]? =some v∧xs[j]? =some y∧Pure P w (nT w) t' v y∧WT P t' y
theorem mQ.app {ts uJ:List TypeId} {cs gY:List Value} {xs NN:List V} (h:mQ P w ts cs xs) (h':mQ P w uJ gY NN):mQ P w (ts++uJ) (cs++gY) (xs++NN):=by
 obtain ⟨a,b,c⟩:=h
 obtain ⟨a',b',c'⟩:=h'
 refine ⟨by simp[a,a'],by simp[b,b'],fun j t' hj=> ?_⟩
 by_cases aP:j<ts.length
 ·rw[hX aP] at hj
  obtain ⟨v,y,e1,e2,e3⟩:=c j t' hj
  exact ⟨v,y,by rw[hX (by omega)];exact e1,by rw[hX (by omega)];exact e2,e3⟩
 ·rw[gN (by omega)] at hj
  obtain ⟨v,y,e1,e2,e3⟩:=c' _ t' hj
  exact ⟨v,y,by rw[gN (by omega),a];exact e1,by rw[gN (by omega),b];exact e2,e3⟩
theorem Xv {w:World} {a:Addr} {v:Value} (h:w.cell? a=some v):a.spot=none∧a.block<w.heap.size:=by
 unfold World.cell? at h
 split at h
 ·rename_i hh
  split at h
  ·cases h
  ·rename_i hs
   exact ⟨by simpa using hs,(gM.1 hh).1⟩
 all_goals (first|cases h|skip)
theorem NO {rd:TypeId→List Value→Option (DataW H × List MemPlace)} (cs:List Value)
  (ih: ∀t cs x,t∈L→rd t cs=some x→∃xs,mQ P w (aR P t) cs xs): ∀(fs:List Field) (n:Nat),CZ P L n fs=true→
  (∀f∈fs,∃x,rd f.type ((cs.drop f.offset).take (P.cellsOf f.type))=some x)→∃m xs,n≤m∧mQ P w (fs.flatMap fun f=>aR P f.type) ((cs.drop n).take (m-n)) xs∧m-n=(fs.flatMap fun f=>aR P f.type).length
 | [],n,_,_=>⟨n,[],b7 _,⟨by simp,rfl,by simp⟩,by simp⟩
 | f::fs,n,h,hx=>by
  simp only[CZ,aJ,aQ] at h
  obtain ⟨h1,U,h3,h4⟩:=h
  obtain ⟨x,Xw⟩:=hx f (by simp)
  obtain ⟨xs,fU⟩:=ih _ _ _ (C3 h1) Xw
  obtain ⟨m,ys,hm,qh,Hd⟩:=NO cs ih fs (n+P.cellsOf f.type) h4 fun g hg=>hx g (by simp[hg])
  refine ⟨m,xs++ys,by omega,?_,by simp only[mr,ca];omega⟩
  have:=fU.app qh
  rw[mr]
  rw[U] at this
  have e:(cs.drop n).take (m-n)=(cs.drop n).take (P.cellsOf f.type)++(cs.drop (n+P.cellsOf f.type)).take (m-(n+P.cellsOf f.type)):=by
   rw[show m-n=P.cellsOf f.type+(m-(n+P.cellsOf f.type)) by omega,List.take_add,pr]
  rw[e]
  exact this
theorem NP {rd:List Value→Option (DataW H × List MemPlace)} (cs:List Value) {e:TypeId} (hs:P.cellsOf e=(aR P e).length)
  (ih: ∀cs x,rd cs=some x→∃xs,mQ P w (aR P e) cs xs): ∀(n:Nat),
  (∀i,i<n→∃x,rd ((cs.drop (i*P.cellsOf e)).take (P.cellsOf e))=some x)→∃xs,mQ P w (List.replicate n (aR P e)).flatten (cs.take (n*P.cellsOf e)) xs
 | 0,_=>⟨[],by simp,rfl,by simp⟩
 | n+1,hx=>by
  obtain ⟨xs,fU⟩:=NP cs hs ih n fun i hi=>hx i (by omega)
  obtain ⟨x,yQ⟩:=hx n (by omega)
  obtain ⟨ys,qh⟩:=ih _ _ yQ
  refine ⟨xs++ys,?_⟩
  rw[List.replicate_succ',List.flatten_append]
  have:=fU.app qh
  rw[c6,Nat.one_mul,List.take_add]
  simpa using this
theorem C4 (hL:C2 P L=true): ∀(fuel:Nat) (t:TypeId) (cs:List Value) (x:DataW H × List MemPlace),t∈L→DataW.trod enc P w base spare held fuel t cs=some x→
  ∃xs,mQ P w (aR P t) cs xs
 | 0,_,_,_,_,h=>by cases h
 | fuel+1,t,cs,x,ht,h=>by
  have hg:=eN.1 hL t ht
  unfold Hq at hg
  rw[aJ,aQ] at hg
  obtain ⟨hc,hg⟩:=hg
  have one:bA P t=false→aR P t=[t]:=fun h=>by simp[aR,h]
  cases hu:P.underlying t with
  | none=>rw[hu] at hg;cases hg
  | some d=>
   rw[hu] at hg
   cases d with
   | int k=>
    obtain ⟨n,rfl,rfl,yX⟩:=DataW.trod_int hu h
    rw[one (by simp[bA,hu])]
    exact ⟨[.int k n],rfl,rfl,fun j t' hj=>by
     cases j with
     | zero=>cases hj;exact ⟨_,_,rfl,rfl,.int hu,.int hu yX⟩
     | succ j=>simp at hj⟩
   | bool=>
    obtain ⟨b,rfl,rfl⟩:=DataW.trod_bool hu h
    rw[one (by simp[bA,hu])]
    exact ⟨[.bool b],rfl,rfl,fun j t' hj=>by
     cases j with
     | zero=>cases hj;exact ⟨_,_,rfl,rfl,.bool hu,.bool hu⟩
     | succ j=>simp at hj⟩
   | string=>
    obtain ⟨s,rfl,rfl,hl⟩:=DataW.trod_string hu h
    rw[one (by simp[bA,hu])]
    exact ⟨[.str s.data.toList],rfl,rfl,fun j t' hj=>by
     cases j with
     | zero=>cases hj;exact ⟨_,_,rfl,rfl,.str hu rfl,.str hu (by simpa using hl)⟩
     | succ j=>simp at hj⟩
   | slice e=>
    simp only[aJ] at hg
    obtain ⟨he,au⟩:=hg
    rw[one (by simp[bA,hu])]
    have single: ∀v y,cs=[v]→Pure P w (nT w) t v y→WT P t y→∃xs,mQ P w [t] cs xs:=by
     rintro v y rfl a b
     exact ⟨[y],rfl,rfl,fun j t' hj=>by
      cases j with
      | zero=>cases hj;exact ⟨_,_,rfl,rfl,a,b⟩
      | succ j=>simp at hj⟩
    rcases DataW.trod_slice hu h with ⟨rfl,rfl⟩|⟨a,len,cap,elems,rest,n,hn,rfl,rfl,hb,hl,hm,hlen,cF,_,_⟩
    ·exact single _ _ rfl (.nil hu) (.list hu (by simp) (by simp) (by simp))
    ·cases hn
     have kS:=(jI au).2
     have LJ:P.cellsOf e=(aR P e).length:=(e9 au).symm
     have key: ∀i,i<len→∃gY xs,w.cells? base (a.add (i*P.cellsOf e)) (P.cellsOf e)=some gY∧mQ P w (aR P e) gY xs:=by
      intro i hi
      have h1:=cF i hi
      rw[bG (by omega)] at h1
      obtain ⟨gY,U,h3⟩:=Option.bind_eq_some_iff.1 h1
      obtain ⟨xs,fU⟩:=C4 hL fuel e gY _ (C3 he) h3
      exact ⟨gY,xs,U,fU⟩
     by_cases h0:len=0
     ·subst h0
      exact single _ _ rfl (.emp hu) (.list hu (by simp) (by simp) (by simp))
     ·have gA:a.spot=none∧a.block<w.heap.size:=by
       obtain ⟨gY,xs,U,_⟩:=key 0 (by omega)
       obtain ⟨_,h3,h4⟩:=World.cells?_some U
       have h5:=h4 0 kS
       rw[bG (by omega)] at h5
       have:=Xv h5
       simpa[Addr.add] using this
      have hF: ∃(F:Nat→List Value) (X:Nat→List V),∀i,i<len→w.cells? base (a.add (i*P.cellsOf e)) (P.cellsOf e)=some (F i)∧mQ P w (aR P e) (F i) (X i):=by
       refine ⟨fun i=>if hi:i<len then (key i hi).choose else [],fun i=>if hi:i<len then (key i hi).choose_spec.choose else [],fun i hi=> ?_⟩
       simp only[qG hi]
       exact (key i hi).choose_spec.choose_spec
      obtain ⟨F,X,Hs⟩:=hF
      have hx: ∀(i j:Nat) y t',((List.range len).map fun i=>cg P e (X i))[i]? =some y→(aR P e)[j]? =some t'→i<len∧∃v,(F i)[j]? =some v∧Pure P w (nT w) t' v (bC P e y j)∧WT P t' (bC P e y j):=by
       intro i j y t' hy hj
       have hi:i<len:=by
        have:=(bm.1 hy).1
        simpa using this
       refine ⟨hi,?_⟩
       simp[List.getElem?_range hi] at hy
       obtain ⟨c1,c2,c3⟩:=(Hs i hi).2
       obtain ⟨v,z,d1,d2,d3,d4⟩:=c3 j t' hj
       have:bC P e y j=z:=by
        rw[←hy]
        unfold bC cg
        cases ha:bA P e with
        | true=>
         simp only[cond_true,V.cell]
         rw[sK _ _ _ d2]
        | false=>
         simp only[cond_false]
         have:aR P e=[e]:=by simp[aR,ha]
         rw[this] at hj
         cases j with
         | zero=>rw[sK _ _ _ d2]
         | succ j=>simp at hj
       rw[this]
       exact ⟨v,d1,d3,d4⟩
      have fG: ∀i j,i<len→j<P.cellsOf e→w.cell? ⟨a.block,a.off+(i*P.cellsOf e+j),none⟩=some ((F i).getD j undef):=by
       intro i j hi hj
       obtain ⟨h1,U⟩:=Hs i hi
       obtain ⟨_,h3,h4⟩:=World.cells?_some h1
       have h5:=h4 j hj
       rw[Go.Deep.add_add] at h5
       have e1:a.add (i*P.cellsOf e+j)=⟨a.block,a.off+(i*P.cellsOf e+j),none⟩:=by
        obtain ⟨b,o,s⟩:=a
        simp only at gA
        rw[gA.1]
        exact mI ..
       rw[e1] at h5
       rw[h5,hY,bG (by omega)]
       rfl
      have ha:a=⟨a.block,a.off,none⟩:=by
       obtain ⟨b,o,s⟩:=a
       simp only at gA
       rw[gA.1]
      refine single (.slice (some a) len cap) (.list e ((List.range len).map fun i=>cg P e (X i))) rfl ?_ ?_
      ·rw[ha]
       refine .list (fun i j=>(F i).getD j undef) hu (by simp) hl (fun _=>gA.2) fG ?_
       intro i j y t' hy hj
       obtain ⟨hi,v,d1,d2,_⟩:=hx i j y t' hy hj
       rw[hY,d1]
       exact d2
      ·refine .list hu (by simp;omega) ?_ ?_
       ·intro i y hy C6
        have hi:i<len:=by
         have:=(bm.1 hy).1
         simpa using this
        simp[List.getElem?_range hi] at hy
        rw[←hy]
        exact ⟨X i,by simp[cg,C6],(Hs i hi).2.2.1⟩
       ·intro i j y t' hy hj
        obtain ⟨_,v,_,_,d3⟩:=hx i j y t' hy hj
        exact d3
   | struct fs=>
    simp only[aJ] at hg
    obtain ⟨xs,n,hn,rfl,hlen,lO,hx⟩:=DataW.trod_struct hu h
    cases hn
    have het:aR P t=fs.toList.flatMap fun f=>aR P f.type:=by
     rw[←Hr hg.2]
     simp[aR,bA,hu]
    obtain ⟨m,ys,_,qh,hm⟩:=NO (w:=w) (rd:=fun t cs=>DataW.trod enc P w base spare held fuel t cs) cs (fun t cs x a b=>C4 hL fuel t cs x a b) fs.toList 0 hg.1 (by
     intro f hf
     obtain ⟨i,hi⟩:=qK hf
     rw[qL] at hi
     have p7:i<fs.size:=(gM.1 hi).1
     exact ⟨_,(hx i f hi).trans (bG (by omega))⟩)
    rw[het]
    refine ⟨ys,?_⟩
    have:(cs.drop 0).take (m-0)=cs:=by
     rw[iI,hm,←het,←hc,←hlen,pn]
    rw[this] at qh
    exact qh
   | array n e=>
    simp only[aJ,aQ] at hg
    obtain ⟨xs,m,hn,rfl,hlen,lO,hx⟩:=DataW.trod_array hu h
    cases hn
    have het:aR P t=(List.replicate n (aR P e)).flatten:=by
     rw[←Hr hg.2.2]
     simp[aR,bA,hu]
    obtain ⟨ys,qh⟩:=NP (w:=w) (rd:=DataW.trod enc P w base spare held fuel e) cs hg.2.1 (fun cs x b=>C4 hL fuel e cs x (C3 hg.1) b) n (by
     intro i hi
     exact ⟨_,(hx i hi).trans (bG (by omega))⟩)
    rw[het]
    refine ⟨ys,?_⟩
    have:cs.take (n*P.cellsOf e)=cs:=by
     have:n*P.cellsOf e=cs.length:=by
      rw[hlen,hc,het,hg.2.1]
      simp
     rw[this,pn]
    rw[this] at qh
    exact qh
   | _=>cases hg
end
section
variable {P:Program} {H:Type} {enc:TypeId × Value→H} {w:World} {L:List TypeId}
theorem Xx {base Ht:Nat} {spare:Nat→Bool} {held:Bool} {r:Reach} {β:Nat→Option Nat} {hp:Nat→Option an} (hL:C2 P L=true) {t:TypeId} {v:Value} {d:DataW H} {ps:List MemPlace} (ht:t∈L) (eD:Value.okWide P w r Ht t v)
  (h:DataW.Trod enc P w base spare held t v d ps): ∃x,ao P w (nT w) β hp v x∧gK P t x:=by
 obtain ⟨fuel,hf⟩:=h
 obtain ⟨xs,c1,c2,c3⟩:=C4 hL fuel t _ _ ht hf
 have hg:=eN.1 hL t ht
 unfold Hq at hg
 rw[aJ,aQ] at hg
 obtain ⟨_,hg⟩:=hg
 have C6:bA P t=true→∃x,ao P w (nT w) β hp v x∧gK P t x:=by
  intro ha
  have hv: ∃cs,v= .agg cs:=by
   unfold Value.okWide at eD
   unfold bA at ha
   split at eD
   ·obtain ⟨cs,e,_⟩:=eD;exact ⟨cs,e⟩
   ·obtain ⟨cs,e,_⟩:=eD;exact ⟨cs,e⟩
   ·split at ha<;>simp_all
  obtain ⟨cs,rfl⟩:=hv
  refine ⟨.agg xs,.agg (by simpa[Value.cells] using c1.trans c2.symm) fun j v x hv hx=> ?_,fun _=>⟨xs,rfl,c2⟩,fun j t' hj=> ?_⟩
  ·have hj:j<(aR P t).length:=by rw[←c2];exact (bm.1 hx).1
   obtain ⟨v',y,e1,e2,e3,_⟩:=c3 j _ (bG hj)
   rw[hx] at e2
   cases e2
   have:cs[j]? =some v':=by simpa[Value.cells] using e1
   rw[hv] at this
   cases this
   exact .pK e3
  ·obtain ⟨v',y,e1,e2,_,e4⟩:=c3 j t' hj
   have:bC P t (.agg xs) j=y:=by
    simp only[bC,ha,cond_true,V.cell]
    exact sK _ _ _ e2
   rw[this]
   exact e4
 have pZ:bA P t=false→v.cells= #[v]→∃x,ao P w (nT w) β hp v x∧gK P t x:=by
  intro ha sQ
  have he:aR P t=[t]:=by simp[aR,ha]
  rw[he] at c1 c2 c3
  obtain ⟨v',y,e1,e2,e3,e4⟩:=c3 0 t rfl
  rw[sQ] at e1
  cases e1
  refine ⟨y,.pK e3,⟨fun h=>absurd (ha.symm.trans h) (by simp),fun j t' hj=> ?_⟩⟩
  rw[he] at hj
  cases j with
  | succ j=>simp at hj
  | zero=>
   cases hj
   simpa[bC,ha] using e4
 unfold Value.okWide at eD
 cases hu:P.underlying t with
 | none=>rw[hu] at hg;cases hg
 | some Xy=>
  rw[hu] at hg eD
  cases Xy with
  | int k=>
   refine pZ (by simp[bA,hu]) ?_
   simp only[Cell.okWide,Cell.ok,hu] at eD
   cases v<;>first|rfl|(simp at eD;done)|exact eD.elim
  | bool=>
   refine pZ (by simp[bA,hu]) ?_
   simp only[Cell.okWide,Cell.ok,hu] at eD
   cases v<;>first|rfl|(simp at eD;done)|exact eD.elim
  | string=>
   refine pZ (by simp[bA,hu]) ?_
   simp only[Cell.okWide,Cell.ok,hu] at eD
   cases v<;>first|rfl|(simp at eD;done)|exact eD.elim
  | slice e=>
   refine pZ (by simp[bA,hu]) ?_
   simp only[Cell.okWide,Cell.ok,hu] at eD
   cases v<;>first|rfl|(simp at eD;done)|exact eD.elim
  | struct fs=>exact C6 (by simp[bA,hu])
  | array n e=>exact C6 (by simp[bA,hu])
  | _=>cases hg
theorem NQ {base Ht:Nat} {spare:Nat→Bool} {held:Bool} {r:Reach} {β:Nat→Option Nat} {hp:Nat→Option an} (hL:C2 P L=true): ∀{ts:List TypeId} {vs:List Value} {ds:List (DataW H)} {ps:List MemPlace},
  (∀t∈ts,t∈L)→(∀(j:Nat) t v,ts[j]? =some t→vs[j]? =some v→Value.okWide P w r Ht t v)→DataW.TrodAll enc P w base spare held ts vs ds ps→
  ∃xs,vs.length=xs.length∧(∀(j:Nat) v x,vs[j]? =some v→xs[j]? =some x→ao P w (nT w) β hp v x)∧pk P ts xs
 | [],vs,ds,ps,_,_,h=>by
  obtain ⟨rfl,rfl,rfl⟩:=trodAll_nil h
  exact ⟨[],rfl,by simp,trivial⟩
 | t::ts,vs,ds,ps,hm,eD,h=>by
  obtain ⟨v,xU,d,C7,a,b,rfl,rfl,rfl,h1,U⟩:=trodAll_cons h
  obtain ⟨x,yQ,oK⟩:=Xx (β:=β) (hp:=hp) hL (hm t (by simp)) (eD 0 t v rfl rfl) h1
  obtain ⟨xs,hl,hr,hw⟩:=NQ (β:=β) (hp:=hp) hL (fun t ht=>hm t (by simp[ht])) (fun j t v a b=>eD (j+1) t v (by simpa using a) (by simpa using b)) U
  refine ⟨x::xs,by simp[hl],fun j v' x' hv hx=> ?_,oK,hw⟩
  cases j with
  | zero=>cases hv;cases hx;exact yQ
  | succ j=>exact hr j v' x' (by simpa using hv) (by simpa using hx)
theorem NR {base:Nat} {spare:Nat→Bool} {held:Bool}: ∀{ts:List TypeId} {vs:List Value} {ds:List (DataW H)} {ps:List MemPlace},DataW.TrodAll enc P w base spare held ts vs ds ps→ds.length=ts.length
 | [],vs,ds,ps,h=>by obtain ⟨rfl,rfl,rfl⟩:=trodAll_nil h;rfl
 | t::ts,vs,ds,ps,h=>by
  obtain ⟨v,xU,d,C7,a,b,rfl,rfl,rfl,h1,U⟩:=trodAll_cons h
  simp[NR U]
theorem NS {base:Nat} (hl:laidOutB P=true) {W W':World} {NT:Nat→Bool}: ∀{ts:List TypeId} {vs:List Value} {ds:List (DataW H)} {ps:List MemPlace},(∀t∈ts,P.readableRec t=true∧t<P.types.size)→
  DataW.TrodAll enc P W base (fun _=>true) true ts vs ds ps→(∀p∈ps,W.sameAt W' p)→(∀p∈ps,NT p.block=true)→DataW.TrodAll enc P W' base NT true ts vs ds ps
 | [],vs,ds,ps,_,h,_,_=>by obtain ⟨rfl,rfl,rfl⟩:=trodAll_nil h;exact trodAll_mk0
 | t::ts,vs,ds,ps,hr,h,h1,U=>by
  obtain ⟨v,xU,d,C7,a,b,rfl,rfl,rfl,h3,h4⟩:=trodAll_cons h
  obtain ⟨r1,r2⟩:=hr t (by simp)
  exact trodAll_cons_mk (WideElems.Trod_stays hl r1 r2 h3 (fun p hp=>h1 p (by simp[hp])) (fun p hp=>U p (by simp[hp])))
   (NS hl (fun t ht=>hr t (by simp[ht])) h4 (fun p hp=>h1 p (by simp[hp])) (fun p hp=>U p (by simp[hp])))
theorem Xz {f:Func} {s:ChangeSpec} {apart fresh handsOn again:Bool} {W W':World} {args:Array Value} {v:Value} {ds gs:List (DataW H)} {before pa pv:List MemPlace}
  (hW:DataW.Whole enc P f.params.toList s.vars apart W args.toList ds gs before)
  (NU: ∀(b:Nat) (sp:Nat→Bool) (hd:Bool),DataW.TrodAll enc P W' b sp hd f.resultTypes.toList (v.resultList f.resultTypes.size) (s.fn H (ds++gs)).results [])
  (ta: ∀sp:Nat→Bool,(∀p∈before,sp p.block=true)→DataW.TrodAll enc P W' 0 sp true f.params.toList args.toList (s.fn H (ds++gs)).args pa)
  (NV: ∀sp:Nat→Bool,(∀p∈before,sp p.block=true)→DataW.TrodVars enc P W' sp s.vars (s.fn H (ds++gs)).vars pv)
  (C8:before=pa++pv) (hk:W.keptBut W' (· ∈before)) (Hu: ∀a:Addr,a.block<W.heap.size→W'.frozen? a=W.frozen? a)
  (au: ∀(j:Nat) (t:TypeId) (r:Value),f.resultTypes[j]? =some t→(v.resultList f.resultTypes.size)[j]? =some r→Value.okWide P W' .any 0 t r):
  s.post enc P f apart fresh handsOn again W args v W':=by
 have hold: ∀p∈before,(fun b=>decide (b<W.heap.size)) p.block=true:=fun p hp=>by simpa using hW.lt p hp
 refine ⟨ds,gs,before,[],pa,pv,hW,NU _ _ _,ta _ hold,NV _ hold,World.keptBut_mono (fun p hp=>⟨hp,?_⟩) hk,fun _=> ?_⟩
 ·rw[C8,ei] at hp
  exact Or.inr hp
 ·have aP:=hW.lt
  obtain ⟨_,_,_,_,_,hz,hn⟩:=hW
  refine ⟨au,_,_,([]++pa)++pv,⟨[]++pa,pv,trodAll_append (ta _ (fun _ _=>rfl)) (NU _ _ _),NV _ (fun _ _=>rfl),rfl,?_,?_⟩,?_⟩
  ·intro b off hp
   have hb:MemPlace.cell b off∈before:=by rw[C8];simpa using hp
   rw[Hu ⟨b,off,none⟩ (aP _ hb)]
   exact hz b off hb
  ·intro ha
   have:=hn ha
   rw[C8] at this
   simpa using this
  ·intro p hp _
   rw[C8]
   simpa using hp
theorem T6 {A:cv} (hP:iR P A) (oU:P.follows .mixedOrders=true) {f key:Nat} {fn:Func} {tb:TypeId} {s:ChangeSpec} {apart fresh handsOn again:Bool}
  (hf:P.funcs[f]? =some fn) (XA:A.aZ key=f) (hL:C2 P L=true) (bL:fn.params.toList.all (fun t=>hasB L t)=true) (NW:fn.resultTypes= #[tb]) (NX:P.underlying tb=some .bool) (NY:s.vars=[])
  (hs: ∀ds:List (DataW H),ds.length=fn.params.toList.length→s.fn H ds={results:=[.lit (.bool true)],args:=ds})
  (XB:laidOutB P=true) (XC:fn.params.toList.all (fun t=>P.readableRec t&&Nat.blt t P.types.size)=true)
  (mK:(A.sin key).a9=[]) (au:((A.sin key).bJ.map (·.2)).all (VS.ok 0)=true) (XD:(A.gp key).bJ=[(0,.one .bool)]) (halt:A.alt key=none)
  {W:World} {base:Nat} {args:Array Value} {ds gs:List (DataW H)} {before:List MemPlace}
  (XF:gi P A.aE W (nT W)) (eD: ∀(j:Nat) t v,fn.params[j]? =some t→args[j]? =some v→Value.okWide P W .any base t v)
  (hW:DataW.Whole enc P fn.params.toList s.vars apart W args.toList ds gs before) (Q:List V→Prop)
  (hQ: ∀xs:List V,pk P fn.params.toList xs→(∀(j:Nat) v x,args.toList[j]? =some v→xs[j]? =some x→ao P W (nT W) (fun _=>none) (fun _=>none) v x)→Q xs)
  (XG: ∀xs,pk P fn.params.toList xs→Q xs→∃ds,qF ((A.sin key).bJ.map (·.2)) xs=some ds∧Call P A key ds=some [.bool true]):
  Calls P f args W fun e W'=> ∃v,e= .returned v∧s.post enc P fn apart fresh handsOn again W args v W':=by
 have NZ:=hW
 obtain ⟨p,q,hA,hV,rfl,Hu,jN⟩:=hW
 rw[NY] at hV
 obtain ⟨XH,hq⟩:gs=[]∧q=[]:=by
  cases gs with
  | nil=>exact ⟨rfl,hV⟩
  | cons g gs=>exact hV.elim
 subst XH
 subst hq
 obtain ⟨xs,hl,hr,N0⟩:=NQ (β:=fun _=>none) (hp:=fun _=>none) hL (fun t ht=>C3 (eN.1 bL t ht)) (fun j t v a b=>eD j t v (by simpa using a) (by simpa using b)) hA
 obtain ⟨ls,XI,yN⟩:=XG xs N0 (hQ xs N0 hr)
 obtain ⟨N3,c,h1,U,h3⟩:=Xr (A:=A) hP oU key ls [.bool true] yN
 rw[XA] at h1 h3
 rw[hf] at h1
 cases h1
 have vz: ∀j,(bf (A.sin key) ls).hp j=none:=fun j=>by simp[bf,mk,mK,ek,jd]
 obtain ⟨_,r1,r2⟩:=yD (P:=P) (w:=W) (I:=nT W) (n:=0) (β:=fun _=>none) (av:=fun _=>none) (hp:=fun _=>none) (hp':=(bf (A.sin key) ls).hp) (fun j hj=>absurd hj (Nat.not_lt_zero j)) XI au
 have hlen:((A.sin key).bJ.map (·.2)).length=xs.length:=by rw[←r1 [],Hn]
 have h4:=h3 W (nT W) (fun _=>none) args.toList ⟨fun id blk h=>(by rw[vz] at h;cases h),fun id aD blk blk' b h=>(by rw[vz] at h;cases h),fun id blk b h=>(by rw[vz] at h;cases h),fun b h=>h⟩ XF
  (by rw[hl,←hlen,bn]) (fun j v y hv hy=>r2 [] j v y (fun x hx=>hr j v x hv hx) (by rw[dA];exact hy))
 have ea:args.toList.toArray=args:=by simp
 rw[ea] at h4
 refine h4.mono fun e W' ⟨v,I2,bQ,he,ha⟩=>⟨v,he,?_⟩
 have sN: ∀b,b<W.heap.size→W'.heap[b]? =W.heap[b]? :=fun b hb=>ha.vl.bV b hb (by rintro ⟨j,blk,hj,_⟩;rw[vz] at hj;cases hj)
 have GB:=ha.res
 have N4:A.so key [.bool true]=A.gp key∧A.lv key [.bool true]=[.bool true]:=by unfold cv.so cv.lv;rw[halt];exact ⟨rfl,rfl⟩
 rw[N4.1,N4.2,XD] at GB
 obtain rfl:v= .bool true:=GB.jJ
 have kZ:Value.okWide P W' .any 0 tb (.bool true):=by simp[Value.okWide,NX,Cell.okWide,Cell.ok]
 have kI:ds.length=fn.params.toList.length:=NR hA
 have iy: ∀p'∈p++[],W.sameAt W' p':=by
  intro p' hp'
  have aP:=NZ.lt p' hp'
  cases p' with
  | cell b o=>exact World.cell?_of_block (w:=W) (sN b aP)
  | map b=>exact sN b aP
 refine Xz (pa:=p) (pv:=[]) NZ ?_ ?_ ?_ rfl ?_ ?_ ?_
 ·intro b sp hd
  rw[dA,hs ds kI,NW]
  exact trodAll_mk1 ⟨1,by simp[DataW.trod,Value.cells,NX]⟩
 ·intro sp gA
  rw[dA,hs ds kI]
  refine NS XB (fun t ht=> ?_) hA (fun p' hp'=>iy p' (by simpa using hp')) (fun p' hp'=>gA p' (by simpa using hp'))
  have:=eN.1 XC t ht
  simp only[aJ] at this
  exact ⟨this.1,by simpa[jx] using this.2⟩
 ·intro sp gA
  rw[NY,dA,hs ds kI]
  exact rfl
 ·refine ⟨ha.vl.io.1,ha.vl.io.2,fun i hi=> ?_⟩
  rw[sN i hi]
  split<;>simp_all
 ·intro a aP
  exact World.frozen?_of_block (w:=W) (sN a.block aP)
 ·intro j t r hj Hv
  rw[NW] at hj Hv
  cases j with
  | zero=>
   simp[Value.resultList] at hj Hv
   subst hj
   subst Hv
   exact kZ
  | succ j=>simp at hj
end
end Go.AM
namespace Go.AM
@[simp] theorem V.toInt_int (k:IntKind) (n:Int):V.toInt (.int k n)=n:=by cases k<;>rfl
@[simp] theorem V.dV (b:Bool):V.toBool (.bool b)=b:=by cases b<;>rfl
@[simp] theorem V.C9 (s:List UInt8):V.toStr (.str s)=s:=by cases s<;>rfl
@[simp] theorem V.lf (e:TypeId) (es:List V):V.toList (.list e es)=es:=by cases es<;>rfl
@[simp] theorem V.agf (e:TypeId) (es:List V):V.toList (.own e es)=es:=by cases es<;>rfl
@[simp] theorem V.XJ (cs:List V) (j:Nat):V.cell (.agg cs) j=V.nth cs j:=by cases cs<;>rfl
@[simp] theorem V.agh (cs:List V) (j:Nat):V.comp (.aY cs) j=V.nth cs j:=by cases cs<;>rfl
@[simp] theorem V.aU (x:V) (l:List V):V.nth (x::l) 0=x:=by cases l<;>rfl
@[simp] theorem V.qi (x:V) (l:List V) (n:Nat):V.nth (x::l) (n+1)=V.nth l n:=by cases l<;>rfl
@[simp] theorem V.agi (x y:V) (l:List V):V.nth (x::y::l) 1=y:=by cases l<;>rfl
@[simp] theorem V.agj (x y z:V) (l:List V):V.nth (x::y::z::l) 2=z:=by cases l<;>rfl
@[simp] theorem V.agk (x y z u:V) (l:List V):V.nth (x::y::z::u::l) 3=u:=by cases l<;>rfl
theorem wrap64 {x:Int} (h1: -9223372036854775808≤x) (U:x<9223372036854775808):IntKind.wrap .i64 x=x:=by
 rw[IntKind.wrap_i64];omega
theorem yY {x:Int} (h1:0≤x) (U:x<256):IntKind.wrap .u8 x=x:=by
 rw[IntKind.wrap_u8];omega
@[simp] theorem N5 (es:List V) (n:Nat):idx es (n:Int)=es[n]? :=by simp[idx]
@[simp] theorem aB {α:Type} (p:Prop) [Decidable p] (a b:α):(bif decide p then a else b)=if p then a else b:=by by_cases h:p<;>simp[h]
@[simp] theorem eT {α:Type} (m n:Int) (a b:α):(bif m==n then a else b)=if m=n then a else b:=by
 by_cases h:m=n
 ·simp[h]
 ·have:(m==n)=false:=by simp[h]
  rw[this,ai h];rfl
@[simp] theorem vA {α:Type} (m n:Int) (a b:α):(bif m != n then a else b)=if m=n then b else a:=by
 by_cases h:m=n
 ·simp[h]
 ·have:(m != n)=true:=by simp[h]
  rw[this,ai h];rfl
@[simp] theorem gD {α:Type} (c:Bool) (a b:α):(bif !c then a else b)=bif c then b else a:=by cases c<;>rfl
@[simp] theorem Hw {α:Type} (m n:Nat) (a b:α):(bif Nat.ble m n then a else b)=if m≤n then a else b:=by
 cases hb:Nat.ble m n with
 | true=>rw[aj (Nat.le_of_ble_eq_true hb)];rfl
 | false=>
  rw[ai fun h=> ?_]
  ·rfl
  ·rw[Nat.ble_eq_true_of_le h] at hb;cases hb
@[simp] theorem dh {α:Type} (c d:Bool) (a b:α):(bif c&&d then a else b)=bif c then (bif d then a else b) else b:=by cases c<;>rfl
section
variable {P:Program}
def N6 (P : Program) : Bool := P.funcs.all fun fn => !(fn.name == "runtime.NumGoroutine")
theorem TV (h:N6 P=true):xj P:=by
 intro f fn hf
 unfold N6 at h
 have:=(Array.all_eq_true_iff_forall_mem.1 h) fn (Array.mem_of_getElem? hf)
 simpa using this
theorem A8 {t:TypeId} {ts:List TypeId} {xs:List V} (h:pk P (t::ts) xs): ∃x ys,xs=x::ys∧gK P t x∧pk P ts ys:=by
 cases xs with
 | nil=>exact h.elim
 | cons x ys=>exact ⟨x,ys,rfl,h.1,h.2⟩
theorem TY {xs:List V} (h:pk P [] xs):xs=[]:=by
 cases xs with
 | nil=>rfl
 | cons x ys=>exact h.elim
theorem gK.one {t:TypeId} {x:V} (ha:bA P t=false) (h:gK P t x):WT P t x:=by
 have he:aR P t=[t]:=by simp[aR,ha]
 have:=h.2 0 t (by rw[he];rfl)
 simpa[bC,ha] using this
theorem WT.dU {t:TypeId} {k:IntKind} {x:V} (hu:P.underlying t=some (.int k)) (h:WT P t x): ∃n,x= .int k n∧k.min≤n∧n≤k.max:=by
 cases h with
 | int h1 U=>
  rw[hu] at h1
  cases h1
  simp only[Lit.wf,aJ,dN] at U
  exact ⟨_,rfl,U⟩
 | bool h1=>rw[hu] at h1;cases h1
 | str h1=>rw[hu] at h1;cases h1
 | list h1=>rw[hu] at h1;cases h1
theorem WT.jJ {t:TypeId} {x:V} (hu:P.underlying t=some .bool) (h:WT P t x): ∃b,x= .bool b:=by
 cases h with
 | int h1=>rw[hu] at h1;cases h1
 | bool h1=>exact ⟨_,rfl⟩
 | str h1=>rw[hu] at h1;cases h1
 | list h1=>rw[hu] at h1;cases h1
theorem WT.lH {t:TypeId} {x:V} (hu:P.underlying t=some .string) (h:WT P t x): ∃s,x= .str s∧s.length≤maxLen:=by
 cases h with
 | int h1=>rw[hu] at h1;cases h1
 | bool h1=>rw[hu] at h1;cases h1
 | str h1 U=>exact ⟨_,rfl,U⟩
 | list h1=>rw[hu] at h1;cases h1
theorem WT.XK {t e:TypeId} {x:V} (hu:P.underlying t=some (.slice e)) (h:WT P t x): ∃es,x= .list e es∧es.length≤maxLen∧∀y∈es,gK P e y:=by
 cases h with
 | int h1=>rw[hu] at h1;cases h1
 | bool h1=>rw[hu] at h1;cases h1
 | str h1=>rw[hu] at h1;cases h1
 | list h1 U h3 h4=>
  rw[hu] at h1
  cases h1
  refine ⟨_,rfl,U,fun y hy=> ?_⟩
  obtain ⟨i,hi⟩:=qK hy
  exact ⟨h3 i y hi,fun j t' hj=>h4 i j y t' hi hj⟩
theorem gK.kg {t:TypeId} {x:V} (ha:bA P t=true) (h:gK P t x): ∃xs,x= .agg xs∧xs.length=(aR P t).length∧∀(j:Nat) t' y,(aR P t)[j]? =some t'→xs[j]? =some y→WT P t' y:=by
 obtain ⟨xs,rfl,hl⟩:=h.1 ha
 refine ⟨xs,rfl,hl,fun j t' y hj hy=> ?_⟩
 have:=h.2 j t' hj
 simp only[bC,ha,cond_true,V.XJ] at this
 rw[sK _ _ _ hy] at this
 exact this
theorem N7 {α:Type} {f:α→V} {p:α→Prop}: ∀{es:List V},(∀y∈es,∃a,y=f a∧p a)→∃l:List α,es=l.map f∧∀a∈l,p a
 | [],_=>⟨[],rfl,by simp⟩
 | y::es,h=>by
  obtain ⟨a,rfl,ha⟩:=h y (by simp)
  obtain ⟨l,rfl,hl⟩:=N7 (f:=f) (p:=p) (es:=es) fun z hz=>h z (by simp[hz])
  exact ⟨a::l,rfl,by
   intro b hb
   rcases cY.1 hb with rfl|hb
   ·exact ha
   ·exact hl b hb⟩
theorem gK.int {t:TypeId} {x:V} (hu:P.underlying t=some (.int .i64)) (h:gK P t x): ∃n,x= .int .i64 n∧IntKind.min .i64≤n∧n≤IntKind.max .i64:=
 (h.one (by simp[bA,hu])).dU hu
theorem gK.str {t:TypeId} {x:V} (hu:P.underlying t=some .string) (h:gK P t x): ∃s,x= .str s∧s.length≤maxLen:=
 (h.one (by simp[bA,hu])).lH hu
end
def un.{u} {A B:Type} {γ:Sort u} (f:A→B→γ) (p:A × B):γ:=f p.1 p.2
def b6 {A B γ:Type} (f:A→γ) (g:B→γ):A ⊕ B→γ
 | .inl a=>f a
 | .inr b=>g b
def ax:List Nat→Code→Code
 | [],c=>c
 | 0::p,.seq a _=>ax p a
 | _::p,.seq _ b=>ax p b
 | 0::p,.cond _ a _=>ax p a
 | _::p,.cond _ _ b=>ax p b
 | _::p,.block _ c=>ax p c
 | _::p,.loop c=>ax p c
 | _,c=>c
inductive cw where
 | loop (c:Code)
 | cond (t:Nat) (x y:Code)
section
variable (P:Program) (A:cv) (C:ag) (L:cz) (f n m:Nat)
def oW:Code→List cw
 | .seq a b=>oW a++oW b
 | .cond (.tmp t) x y=>
  match A.gO f (t*16+15) with
  | none=>oW x++oW y
  | some _=>[.cond t x y]
 | .cond (.const _) x y=>oW x++oW y
 | .block _ c=>oW c
 | .loop c=>[.loop c]
 | _=>[]
def cx:cw→Prop
 | .loop c=>
  match A.gO f (keyOf c+1) with
  | none=>True
  | some S=> ∀(β:Type) ds (k:Nat→List V→Option β),L β (keyOf c+1) ds k=(Loop (stepG P A C f n m S c) ds).bind fun r=>k r.1 r.2
 | .cond t x y=>
  match A.gO f (t*16+15) with
  | none=>True
  | some S=> ∀(β:Type) ds (k:Nat→List V→Option β),L β (t*16+15) ds k=(xT P A C f n m t S x y ds).bind fun r=>k r.1 r.2
def mR:List cw→Prop
 | []=>True
 | b::l=>cx P A C L f n m b∧mR l
variable {P A C L f n m}
theorem mR.left {a b:List cw}:mR P A C L f n m (a++b)→mR P A C L f n m a:=by
 induction a with
 | nil=>exact fun _=>trivial
 | cons x a ih=>exact fun h=>⟨h.1,ih h.2⟩
theorem mR.right {a b:List cw}:mR P A C L f n m (a++b)→mR P A C L f n m b:=by
 induction a with
 | nil=>exact fun h=>h
 | cons x a ih=>exact fun h=>ih h.2
theorem bh: ∀{c:Code} {bs:List cw},oW A f c=bs→mR P A C L f n m bs→gU P A C L f n m c:=by
 intro c
 induction c with
 | seq a b FK FL=>
  intro bs h hb
  subst h
  exact ⟨FK rfl hb.left,FL rfl hb.right⟩
 | cond c x y ib ic=>
  intro bs h hb
  subst h
  cases c with
  | tmp t=>
   simp only[oW] at hb
   simp only[gU]
   cases hs:A.gO f (t*16+15) with
   | none=>
    rw[hs] at hb
    exact ⟨ib rfl hb.left,ic rfl hb.right⟩
   | some S=>
    rw[hs] at hb
    have:=hb.1
    simp only[cx,hs] at this
    exact this
  | const v=>exact ⟨ib rfl hb.left,ic rfl hb.right⟩
  | _=>trivial
 | block id c ih=>
  intro bs h hb
  subst h
  exact ih rfl hb
 | loop c ih=>
  intro bs h hb
  subst h
  exact hb.1
 | _=>intro bs h hb;trivial
variable (P A C L f n m) in
noncomputable def Hy {β:Type} (t:Nat) (S:Shape × List (Out × Shape)) (x y:Code) (ds:List V) (k:Nat→List V→Option β):Option β:=
 let kc:Out→St→Option β:=fun o st=>
  match o with
  | .norm=>(ways m 0 S.2 (.norm,canon m (A.join f t) st)).bind fun e=>k e.1 e.2
  | o=>(ways m 0 S.2 (o,st)).bind fun e=>k e.1 e.2
 match (bf S.1 ds).sl t with
 | .bool b=>bif b then gT P A C L f n m x (bf S.1 ds) kc else gT P A C L f n m y (bf S.1 ds) kc
 | _=>none
theorem XL {t:Nat} {x y:Code} {S:Shape × List (Out × Shape)} (hS:A.gO f (t*16+15)=some S) (hx:gU P A C L f n m x) (hy:gU P A C L f n m y) {I R:Type} (enc:I→List V) (lT:I→R→Nat × List V)
  (de:List V→I) (body:I→(β:Type)→(R→Option β)→Option β) (tj: ∀ds,bf S.1 (enc (de ds))=bf S.1 ds)
  (e1: ∀i (β:Type) (k:Nat→List V→Option β),Hy P A C L f n m t S x y (enc i) k=body i β (fun r=>k (lT i r).1 (lT i r).2))
  (hl: ∀(β:Type) ds (k:Nat→List V→Option β),L β (t*16+15) ds k=body (de ds) β (fun r=>k (lT (de ds) r).1 (lT (de ds) r).2)):
  cx P A C L f n m (.cond t x y):=by
 simp only[cx,hS]
 intro β ds k
 rw[hl,←e1]
 unfold Hy xT
 rw[tj]
 simp only
 have hk: ∀(z:Option (Out × St)),(z.bind fun r=>(match r.1 with
   | .norm=>(ways m 0 S.2 (.norm,canon m (A.join f t) r.2)).bind fun e=>k e.1 e.2
   | o=>(ways m 0 S.2 (o,r.2)).bind fun e=>k e.1 e.2))=((z.bind fun r=>
   match r.1 with
   | .norm=>some (Out.norm,canon m (A.join f t) r.2)
   | _=>some r).bind fun r=>ways m 0 S.2 r).bind fun r=>k r.1 r.2:=by
  intro z
  cases z with
  | none=>rfl
  | some r=>obtain ⟨o,st⟩:=r;cases o<;>rfl
 cases (bf S.1 ds).sl t with
 | bool b=>
  cases b with
  | true=>simp only[cond_true,BI P A C f n m x hx];exact hk _
  | false=>simp only[cond_false,BI P A C f n m y hy];exact hk _
 | _=>rfl
theorem bH {b:cw} {l:List cw} (h:cx P A C L f n m b) (U:mR P A C L f n m l):mR P A C L f n m (b::l):=⟨h,U⟩
theorem aw:mR P A C L f n m []:=trivial
theorem ba {key:Nat} {bs:List cw} (hb:oW A key (cK P (A.aZ key))=bs) (ht:mR P A (Call P A) L key (cN P (A.aZ key)) (A.sin key).a9.length bs) {ds:List V} {r:Option (List V)}
  (h:FM P A (Call P A) L key ds=r):Call P A key ds=r:=by
 rw[Xu,Uc P A (Call P A) key (bh hb ht),h]
end
inductive LK where
 | int (k:IntKind)
 | bool
 | str
 | list (e:TypeId)
 | nat
def LK.Ty:LK→Type
 | .int _=>Int
 | .bool=>Bool
 | .str=>List UInt8
 | .list _=>List V
 | .nat=>Nat
def LK.enc:(k:LK)→k.Ty→V
 | .int k,n=> .int k n
 | .bool,b=> .bool b
 | .str,s=> .str s
 | .list e,l=> .list e l
 | .nat,n=>dO n
def LK.dec:(k:LK)→V→k.Ty
 | .int _,v=>v.toInt
 | .bool,v=>v.toBool
 | .str,v=>v.toStr
 | .list _,v=>v.toList
 | .nat,v=>j7 v
theorem LK.N8: ∀(k:LK) (x:k.Ty),k.dec (k.enc x)=x
 | .int _,_=>rfl
 | .bool,_=>rfl
 | .str,_=>rfl
 | .list _,_=>rfl
 | .nat,_=>rfl
def Hz:List Nat→List LK
 | []=>[]
 | _::l=> .nat::Hz l
def LS.ks:LS→List LK
 | .int k=>[.int k]
 | .bool=>[.bool]
 | .str=>[.str]
 | .list e=>[.list e]
 | .sub .. =>[.nat,.nat]
 | .ptr _=>[.nat,.nat]
 | .row _ _ cs=>Hz cs
 | .cq _ cs _=> .nat::Hz cs
 | _=>[]
def vB:List LS→List LK
 | []=>[]
 | l::ls=>l.ks++vB ls
def VS.ks:VS→List LK
 | .one l=>l.ks
 | .agg ls=>vB ls
 | .aY ls=>vB ls
 | .fn _ a b=>vB a++vB b
 | .pref _ ls=>vB ls
def N9:List VS→List LK
 | []=>[]
 | l::ls=>l.ks++N9 ls
def BS.ks:BS→List LK
 | .var _ cs=>N9 cs
 | .arr e _=>[.list e]
 | .nest e=>[.list e]
 | .dead=>[]
 | .map t=>[.list t]
def Oa:List (Nat × VS)→List LK
 | []=>[]
 | p::l=>p.2.ks++Oa l
def Ob:List BS→List LK
 | []=>[]
 | b::l=>b.ks++Ob l
def Shape.ks (S:Shape):List LK:=Oa S.bJ++Ob S.a9
def HA:List Nat→List V→List V
 | [],_=>[]
 | _::cs,ds=>dO (j7 (V.nth ds 0))::HA cs (ds.drop 1)
def LS.norm:LS→List V→List V
 | .int k,ds=>[.int k (V.nth ds 0).toInt]
 | .bool,ds=>[.bool (V.nth ds 0).toBool]
 | .str,ds=>[.str (V.nth ds 0).toStr]
 | .list e,ds=>[.list e (V.nth ds 0).toList]
 | .sub ..,ds=>[dO (j7 (V.nth ds 0)),dO (j7 (V.nth ds 1))]
 | .ptr _,ds=>[dO (j7 (V.nth ds 0)),dO (j7 (V.nth ds 1))]
 | .row _ _ cs,ds=>HA cs ds
 | .cq _ cs _,ds=>dO (j7 (V.nth ds 0))::HA cs (ds.drop 1)
 | _,_=>[]
def vC:List LS→List V→List V
 | [],_=>[]
 | l::ls,ds=>l.norm ds++vC ls (ds.drop l.size)
def VS.norm:VS→List V→List V
 | .one l,ds=>l.norm ds
 | .agg ls,ds=>vC ls ds
 | .aY ls,ds=>vC ls ds
 | .fn _ a b,ds=>vC a ds++vC b (ds.drop (jD a))
 | .pref _ ls,ds=>vC ls ds
def Oc:List VS→List V→List V
 | [],_=>[]
 | l::ls,ds=>l.norm ds++Oc ls (ds.drop l.size)
def BS.norm:BS→List V→List V
 | .var _ cs,ds=>Oc cs ds
 | .arr e _,ds=>[.list e (V.nth ds 0).toList]
 | .nest e,ds=>[.list e (V.nth ds 0).toList]
 | .dead,_=>[]
 | .map t,ds=>[.list t (V.nth ds 0).toList]
def Od:List (Nat × VS)→List V→List V
 | [],_=>[]
 | p::l,ds=>p.2.norm ds++Od l (ds.drop p.2.size)
def Oe:List BS→List V→List V
 | [],_=>[]
 | b::l,ds=>b.norm ds++Oe l (ds.drop b.size)
def Shape.norm (S:Shape) (ds:List V):List V:=Od S.bJ ds++Oe S.a9 (ds.drop (ny S.bJ))
def tk:LK→List LK→Type
 | k,[]=>k.Ty
 | k,k'::ks=>k.Ty × tk k' ks
def jO:List LK→Type
 | []=>Unit
 | k::ks=>tk k ks
def tm:(k:LK)→(ks:List LK)→tk k ks→List V
 | k,[],x=>[k.enc x]
 | k,k'::ks,x=>k.enc x.1::tm k' ks x.2
def kq:(ks:List LK)→jO ks→List V
 | [],_=>[]
 | k::ks,x=>tm k ks x
def yZ:(k:LK)→(ks:List LK)→List V→tk k ks
 | k,[],l=>k.dec (V.nth l 0)
 | k,k'::ks,l=>(k.dec (V.nth l 0),yZ k' ks l.tail)
def nU:(ks:List LK)→List V→jO ks
 | [],_=>()
 | k::ks,l=>yZ k ks l
theorem Of: ∀(k:LK) (ks:List LK) (x:tk k ks) (r:List V),yZ k ks (tm k ks x++r)=x
 | k,[],x,r=>LK.N8 k x
 | k,k'::ks,x,r=>by
  show (k.dec (k.enc x.1),yZ k' ks (tm k' ks x.2++r))=x
  rw[LK.N8,Of k' ks]
  rfl
def vD:List LK→Type 1→Type 1
 | [],R=>R
 | k::ks,R=>k.Ty→vD ks R
def Og:(k:LK)→(ks:List LK)→{R:Type 1}→vD (k::ks) R→tk k ks→R
 | _,[],_,f,x=>f x
 | _,k'::ks,_,f,x=>Og k' ks (f x.1) x.2
def tn:(ks:List LK)→{R:Type 1}→vD ks R→jO ks→R
 | [],_,f,_=>f
 | k::ks,_,f,x=>Og k ks f x
def vE {α:Type} (b:Bool):List Bool→List α→List α
 | [],_=>[]
 | _,[]=>[]
 | c::m,x::l=>bif c==b then x::vE b m l else vE b m l
def merge:List Bool→List V→List V→List V
 | [],_,_=>[]
 | true::m,i,x=>V.nth x 0::merge m i x.tail
 | false::m,i,x=>V.nth i 0::merge m i.tail x
def vF:List Nat→List LK→List LK
 | [],_=>[]
 | _,[]=>[]
 | 0::t,k::ks=>k::vF t ks
 | (_+1)::t,_::ks=>vF t ks
abbrev fb:=List Nat × List LK
def fb.fresh (w:fb):List LK:=vF w.1 w.2
def put:List Nat→List V→List V→List V
 | [],_,_=>[]
 | 0::t,ds,x=>V.nth x 0::put t ds x.tail
 | (j+1)::t,ds,x=>V.nth ds j::put t ds x
def tp:List Nat→List V→List V
 | [],_=>[]
 | 0::t,l=>V.nth l 0::tp t l.tail
 | (_+1)::t,l=>tp t l.tail
def rz:fb→List fb→Type
 | w,[]=>jO w.fresh
 | w,w'::ws=>jO w.fresh ⊕ rz w' ws
def qj:List fb→Type
 | []=>Empty
 | w::ws=>rz w ws
def wN (ds:List V) {β:Type} (k:Nat→List V→Option β):Nat→(w:fb)→(ws:List fb)→rz w ws→Option β
 | j,w,[],r=>k j (put w.1 ds (kq w.fresh r))
 | j,w,w'::ws,r=>b6 (fun x=>k j (put w.1 ds (kq w.fresh x))) (fun y=>wN ds k (j+1) w' ws y) r
def wT (ds:List V) {β:Type} (k:Nat→List V→Option β):(ws:List fb)→qj ws→Option β
 | [],r=>Empty.elim r
 | w::ws,r=>wN ds k 0 w ws r
def nV (ds:List V):Nat→(w:fb)→(ws:List fb)→rz w ws→Nat × List V
 | j,w,[],r=>(j,put w.1 ds (kq w.fresh r))
 | j,w,_::_,.inl x=>(j,put w.1 ds (kq w.fresh x))
 | j,_,w'::ws,.inr y=>nV ds (j+1) w' ws y
def vG (ds:List V):(ws:List fb)→qj ws→Nat × List V
 | [],r=>Empty.elim r
 | w::ws,r=>nV ds 0 w ws r
theorem Oh (ds:List V) {β:Type} (k:Nat→List V→Option β): ∀(j:Nat) (w:fb) (ws:List fb) (r:rz w ws),wN ds k j w ws r=k (nV ds j w ws r).1 (nV ds j w ws r).2
 | _,_,[],_=>rfl
 | _,_,_::_,.inl _=>rfl
 | j,_,w'::ws,.inr y=>Oh ds k (j+1) w' ws y
theorem Db (ds:List V) {β:Type} (k:Nat→List V→Option β): ∀(ws:List fb) (r:qj ws),wT ds k ws r=k (vG ds ws r).1 (vG ds ws r).2
 | [],r=>Empty.elim r
 | w::ws,r=>Oh ds k 0 w ws r
def vH:Nat→(w:fb)→(ws:List fb)→List V→rz w ws
 | _,w,[],l=>nU w.fresh (tp w.1 l)
 | 0,w,_::_,l=> .inl (nU w.fresh (tp w.1 l))
 | j+1,_,w'::ws,l=> .inr (vH j w' ws l)
def Oi (j:Nat):(ws:List fb)→List V→Option (qj ws)
 | [],_=>none
 | w::ws,l=>some (vH j w ws l)
def vI:List Nat→List V→List V
 | [],_=>[]
 | 0::t,x=>V.nth x 0::vI t x.tail
 | (_+1)::t,x=>vI t x
theorem HB: ∀(t:List Nat) (ds x:List V),tp t (put t ds x)=vI t x
 | [],_,_=>rfl
 | 0::t,ds,x=>congrArg (V.nth x 0:: ·) (HB t ds x.tail)
 | (_+1)::t,ds,x=>HB t ds x
theorem HC: ∀(t:List Nat) (ks:List LK) (k:LK) (bD:List LK),vF t ks=k::bD→∀x:tk k bD,∃r,vI t (tm k bD x)=tm k bD x++r
 | [],_,_,_,h,_=>by cases h
 | _::_,[],_,_,h,_=>by simp[vF] at h
 | 0::t,a::ks,k,bD,h,x=>by
  simp only[vF,List.cons.injEq] at h
  obtain ⟨rfl,U⟩:=h
  cases bD with
  | nil=>exact ⟨vI t [],rfl⟩
  | cons k' bD=>
   obtain ⟨r,hr⟩:=HC t ks k' bD U x.2
   exact ⟨r,congrArg (a.enc x.1:: ·) hr⟩
 | (_+1)::t,a::ks,k,bD,h,x=>HC t ks k bD h x
theorem Oj (w:fb) (ds:List V) (x:jO w.fresh):nU w.fresh (tp w.1 (put w.1 ds (kq w.fresh x)))=x:=by
 rw[HB]
 revert x
 generalize hf:w.fresh=f
 cases f with
 | nil=>intro x;rfl
 | cons k ks=>
  intro x
  obtain ⟨r,hr⟩:=HC w.1 w.2 k ks hf x
  show yZ k ks (vI w.1 (tm k ks x))=x
  rw[hr]
  exact Of k ks x r
theorem Ol (ds:List V): ∀(j:Nat) (w:fb) (ws:List fb) (r:rz w ws),j≤(nV ds j w ws r).1
 | _,_,[],_=>b7 _
 | _,_,_::_,.inl _=>b7 _
 | j,_,w'::ws,.inr y=>lz (Nat.le_succ j) (Ol ds (j+1) w' ws y)
theorem XM (w:fb) (l:List V): ∀j,vH j w [] l=nU w.fresh (tp w.1 l)
 | 0=>rfl
 | _+1=>rfl
theorem Om (ds:List V): ∀(j:Nat) (w:fb) (ws:List fb) (r:rz w ws),vH ((nV ds j w ws r).1-j) w ws (nV ds j w ws r).2=r
 | j,w,[],r=>(XM w _ _).trans (Oj w ds r)
 | j,w,w'::ws,.inl x=>by
  show vH (j-j) w (w'::ws) (put w.1 ds (kq w.fresh x))= .inl x
  rw[Nat.sub_self]
  exact congrArg Sum.inl (Oj w ds x)
 | j,w,w'::ws,.inr y=>by
  have h1:=Ol ds (j+1) w' ws y
  have U:=Om ds (j+1) w' ws y
  show vH ((nV ds (j+1) w' ws y).1-j) w (w'::ws) (nV ds (j+1) w' ws y).2= .inr y
  obtain ⟨d,hd⟩: ∃d,(nV ds (j+1) w' ws y).1=j+1+d:=⟨(nV ds (j+1) w' ws y).1-(j+1),by omega⟩
  rw[hd] at U⊢
  rw[show j+1+d-(j+1)=d by omega] at U
  rw[show j+1+d-j=d+1 by omega]
  exact congrArg Sum.inr U
theorem XN (ds:List V): ∀(ws:List fb) (r:qj ws),Oi (vG ds ws r).1 ws (vG ds ws r).2=some r
 | [],r=>Empty.elim r
 | w::ws,r=>congrArg some (Om ds 0 w ws r)
section
variable {P:Program} {A:cv} {C:ag} {L:cz} {f n m:Nat}
theorem XO {c:Code} {S:Shape × List (Out × Shape)} (hS:A.gO f (keyOf c+1)=some S) (hL:gU P A C L f n m c) {I X R:Type} (enc:I→X→List V) (lT:I→R→Nat × List V)
  (oX:List V→I) (qk:List V→X) (Dc:Nat × List V→Option R) (body:I→X→(β:Type)→(X→Option β)→(R→Option β)→Option β)
  (tj: ∀ds,bf S.1 (enc (oX ds) (qk ds))=bf S.1 ds) (HD: ∀i x,qk (enc i x)=x) (XP: ∀i r,Dc (lT i r)=some r)
  (e1: ∀i x (β:Type) (k:(List V ⊕ (Nat × List V))→Option β),gT P A C L f n m c (bf S.1 (enc i x)) (fun o st=>(mD m S.1 S.2 (some (o,st))).bind k)=
   body i x β (fun y=>k (.inl (enc i y))) (fun r=>k (.inr (lT i r))))
  (hl: ∀(β:Type) ds (k:Nat→List V→Option β),L β (keyOf c+1) ds k=(Loop (fun x=>body (oX ds) x (X ⊕ R) (fun y=>some (.inl y)) (fun r=>some (.inr r))) (qk ds)).bind fun r=>k (lT (oX ds) r).1 (lT (oX ds) r).2):
  cx P A C L f n m (.loop c):=by
 simp only[cx,hS]
 intro β ds k
 rw[hl]
 have hex: ∀(z:Option (Out × St)),mD m S.1 S.2 z=z.bind fun r=>mD m S.1 S.2 (some (r.1,r.2)):=by
  intro z;cases z<;>rfl
 have hs: ∀i x,stepG P A C f n m S c (enc i x)=(body i x (X ⊕ R) (fun y=>some (.inl y)) (fun r=>some (.inr r))).map fun| .inl y=> .inl (enc i y)| .inr r=> .inr (lT i r):=by
  intro i x
  have k1:=e1 i x _ (fun z=>some z)
  have k2:=e1 i x (X ⊕ R) (fun| .inl ds=>some (.inl (qk ds))| .inr e=>(Dc e).map .inr)
  have k3:=e1 i x (List V ⊕ (Nat × List V)) (fun| .inl ds=>some (.inl (enc i (qk ds)))| .inr e=>(Dc e).map fun r=> .inr (lT i r))
  simp only[HD,XP,Option.map_some] at k2 k3
  unfold stepG
  rw[hex]
  rw[BI P A C f n m c hL] at k1 k2 k3
  rw[←k2]
  refine aX ?_ (k1.trans (k3.symm.trans ?_))
  ·congr 1
   funext r
   cases mD m S.1 S.2 (some (r.1,r.2))<;>rfl
  ·cases exec P A C f n m c (bf S.1 (enc i x)) with
   | none=>rfl
   | some r=>
    simp only[Option.bind_some]
    cases mD m S.1 S.2 (some (r.1,r.2)) with
    | none=>rfl
    | some z=>
     cases z with
     | inl _=>rfl
     | inr e=>simp only[Option.bind_some];cases Dc e<;>rfl
 have h0:stepG P A C f n m S c ds=stepG P A C f n m S c (enc (oX ds) (qk ds)):=by
  unfold stepG
  rw[tj]
 have:Loop (stepG P A C f n m S c) ds=(Loop (fun x=>body (oX ds) x (X ⊕ R) (fun y=>some (.inl y)) (fun r=>some (.inr r))) (qk ds)).map (lT (oX ds)):=by
  rw[Bk,h0,←Bk]
  exact Ua (enc (oX ds)) (lT (oX ds)) (fun x=>hs _ _) (qk ds)
 rw[this]
 cases Loop (fun x=>body (oX ds) x (X ⊕ R) (fun y=>some (.inl y)) (fun r=>some (.inr r))) (qk ds)<;>rfl
abbrev y4 (S:Shape) (mk:List Bool):List LK:=vE false mk S.ks
abbrev tq (S:Shape) (mk:List Bool):List LK:=vE true mk S.ks
def ql (ts:List (List Nat)) (W:List (Out × Shape)):List fb:=
 match ts,W with
 | t::ts,w::W=>(t,w.2.ks)::ql ts W
 | _,_=>[]
abbrev y5 (S:Shape) (mk:List Bool) (i:jO (y4 S mk)) (x:jO (tq S mk)):List V:=merge mk (kq _ i) (kq _ x)
abbrev HE (S:Shape) (mk:List Bool) (i:jO (y4 S mk)):List V:=merge mk (kq _ i) []
abbrev Dd (S:Shape) (mk:List Bool) (ds:List V):jO (y4 S mk):=nU _ (vE false mk (S.norm ds))
abbrev De (S:Shape) (mk:List Bool) (ds:List V):jO (tq S mk):=nU _ (vE true mk (S.norm ds))
abbrev On (X R:Type):Type 1:=(β:Type)→(X→Option β)→(R→Option β)→Option β
abbrev HF (S:Shape × List (Out × Shape)) (mk:List Bool) (ts:List (List Nat)):Type 1:=vD (y4 S.1 mk) (vD (tq S.1 mk) (On (jO (tq S.1 mk)) (qj (ql ts S.2))))
abbrev HG (S:Shape × List (Out × Shape)) (mk:List Bool) (ts:List (List Nat)) (b:HF S mk ts) (i:jO (y4 S.1 mk)) (x:jO (tq S.1 mk)):On (jO (tq S.1 mk)) (qj (ql ts S.2)):=tn _ (tn _ b i) x
noncomputable def cl (S:Shape × List (Out × Shape)) (mk:List Bool) (ts:List (List Nat)) (b:HF S mk ts) {β:Type} (ds:List V) (k:Nat→List V→Option β):Option β:=
 (Loop (fun x=>HG S mk ts b (Dd S.1 mk ds) x (jO (tq S.1 mk) ⊕ qj (ql ts S.2)) (fun y=>some (.inl y)) (fun r=>some (.inr r))) (De S.1 mk ds)).bind (wT (HE S.1 mk (Dd S.1 mk ds)) k (ql ts S.2))
theorem cy {c:Code} (S:Shape × List (Out × Shape)) (mk:List Bool) (ts:List (List Nat)) (b:HF S mk ts) (hS:A.gO f (keyOf c+1)=some S) (hL:gU P A C L f n m c)
  (tj: ∀ds,bf S.1 (y5 S.1 mk (Dd S.1 mk ds) (De S.1 mk ds))=bf S.1 ds) (HD: ∀i x,De S.1 mk (y5 S.1 mk i x)=x)
  (e1: ∀i x (β:Type) (k:(List V ⊕ (Nat × List V))→Option β),gT P A C L f n m c (bf S.1 (y5 S.1 mk i x)) (fun o st=>(mD m S.1 S.2 (some (o,st))).bind k)=
   HG S mk ts b i x β (fun y=>k (.inl (y5 S.1 mk i y))) (wT (HE S.1 mk i) (fun j l=>k (.inr (j,l))) (ql ts S.2)))
  (hl: ∀(β:Type) ds (k:Nat→List V→Option β),L β (keyOf c+1) ds k=cl S mk ts b ds k):
  cx P A C L f n m (.loop c):=
 XO hS hL (y5 S.1 mk) (fun i r=>vG (HE S.1 mk i) _ r) (Dd S.1 mk) (De S.1 mk) (fun e=>Oi e.1 _ e.2) (HG S mk ts b) tj HD (fun i r=>XN _ _ r)
  (fun i x β k=>by
   rw[e1]
   congr 1
   funext r
   exact Db _ _ _ r)
  (fun β ds k=>by
   rw[hl]
   unfold cl
   congr 1
   funext r
   exact Db _ _ _ r)
abbrev Oo (S:Shape × List (Out × Shape)) (ts:List (List Nat)):Type 1:=vD S.1.ks ((β:Type)→(qj (ql ts S.2)→Option β)→Option β)
noncomputable def iB (S:Shape × List (Out × Shape)) (ts:List (List Nat)) (b:Oo S ts) {β:Type} (ds:List V) (k:Nat→List V→Option β):Option β:=
 tn S.1.ks b (nU _ (S.1.norm ds)) β (wT (kq S.1.ks (nU _ (S.1.norm ds))) k (ql ts S.2))
theorem iT {t:Nat} {x y:Code} (S:Shape × List (Out × Shape)) (ts:List (List Nat)) (b:Oo S ts) (hS:A.gO f (t*16+15)=some S) (hx:gU P A C L f n m x) (hy:gU P A C L f n m y)
  (tj: ∀ds,bf S.1 (kq S.1.ks (nU _ (S.1.norm ds)))=bf S.1 ds)
  (e1: ∀i (β:Type) (k:Nat→List V→Option β),Hy P A C L f n m t S x y (kq S.1.ks i) k=tn S.1.ks b i β (wT (kq S.1.ks i) k (ql ts S.2)))
  (hl: ∀(β:Type) ds (k:Nat→List V→Option β),L β (t*16+15) ds k=iB S ts b ds k):
  cx P A C L f n m (.cond t x y):=
 XL hS hx hy (kq S.1.ks) (fun i r=>vG (kq S.1.ks i) _ r) (fun ds=>nU _ (S.1.norm ds)) (tn S.1.ks b) tj
  (fun i β k=>by
   rw[e1]
   exact congrArg (tn S.1.ks b i β) (funext fun r=>Db _ _ _ r))
  (fun β ds k=>by
   rw[hl]
   exact congrArg (tn S.1.ks b (nU _ (S.1.norm ds)) β) (funext fun r=>Db _ _ _ r))
end
def cb:cz:=fun _ _ _ _=>none
end Go.AM
