/-
  Functions of the program, lifted to plain data.
-/
import Derived.Conc.MuLone
import Derived.Defers
import Derived.Carry
import Derived.OpenShut
import Derived.Deep.Slices
import Derived.Test.YtbbgbkiefjilcaaGreatDoorP2
set_option linter.unusedVariables false
set_option linter.unusedSimpArgs false
namespace Go.AM
section
variable {P:Program} {A:cl} {w w':World} {I I' I2:Nat→Prop} {μ β β' bW:Nat→Option Nat} {hp hp' hp0 bm:Nat→Option ak} {C:af} {B:Nat} {M:Nat→Prop} {w0:Start}
structure jV (w:World) (I:Nat→Prop) (β:Nat→Option Nat) (hp:Nat→Option ak) (w':World) (I':Nat→Prop) (β':Nat→Option Nat) (hp':Nat→Option ak):Prop where
 cW: ∀b,I b→I' b
 b7: ∀b,I b→w'.heap[b]? =w.heap[b]?
 blk: ∀id blk,hp id=some blk→∃blk',hp' id=some blk'∧blk.le blk'∧(blk'≠ .dead→β' id=β id)
 size: ∀id blk blk' b,hp id=some blk→hp' id=some blk'→blk'≠ .dead→β id=some b→bsize w' b=bsize w b
theorem Le.C9 (h:Le P w I β hp w' I' β' hp'):jV w I β hp w' I' β' hp':=⟨h.cW,h.b7,h.blk,h.size⟩
theorem jV.trans {yg:World} {yh:Nat→Prop} {yi:Nat→Option Nat} {yj:Nat→Option ak} (h1:jV w I β hp w' I' β' hp') (U:jV w' I' β' hp' yg yh yi yj):jV w I β hp yg yh yi yj:=by
 refine ⟨fun b h=>U.cW b (h1.cW b h),fun b h=>(U.b7 b (h1.cW b h)).trans (h1.b7 b h),fun id blk h=> ?_,fun id blk sn b h qN hd hb=> ?_⟩
 ·obtain ⟨blk',e',l',b'⟩:=h1.blk id blk h
  obtain ⟨sn,di,pw,FU⟩:=U.blk id blk' e'
  refine ⟨sn,di,ak.le_trans l' pw,fun hd=> ?_⟩
  have dZ:blk'≠ .dead:=fun e=>hd (ak.nW (e▸pw))
  exact (FU hd).trans (b' dZ)
 ·obtain ⟨blk',e',l',b'⟩:=h1.blk id blk h
  obtain ⟨ga,e3,l3,b3⟩:=U.blk id blk' e'
  obtain rfl:ga=sn:=by rw[e3] at qN;exact cC qN
  have dZ:blk'≠ .dead:=fun e=>hd (ak.nW (e▸l3))
  rw[U.size id blk' ga b e' e3 hd ((b' dZ).trans hb),h1.size id blk blk' b h e' dZ hb]
def nh (P:Program) (w:World) (μ:Nat→Option Nat) (hp0:Nat→Option ak) (b:Nat):Prop:= ∃j blk,hp0 j=some blk∧br P w (μ j) blk b
structure Wv (P:Program) (A:cl) (key:Nat) (w:World) (I:Nat→Prop) (μ:Nat→Option Nat) (ds es:List V) (w':World) (v:Value) (I2:Nat→Prop) (bW:Nat→Option Nat):Prop where
 vw:aH P w' I2 bW (bf (A.so key es) (A.lv key es)).hp w.heap.size (nh P w μ (bf (A.sin key) ds).hp) ⟨w,I⟩
 le:jV w I μ (bf (A.sin key) ds).hp w' I2 bW (bf (A.so key es) (A.lv key es)).hp
 res:ao P w' I2 bW (bf (A.so key es) (A.lv key es)).hp v (nU (eK (A.so key es).bw (A.lv key es)))
def jW (P:Program) (A:cl) (C:af):Prop:=
 ∀key ds es,C key ds=some es→∃fn c,P.funcs[A.aX key]? =some fn∧fn.body=some c∧
  ∀(w:World) (I:Nat→Prop) (μ:Nat→Option Nat) (vals:List Value),
   sm P w I μ (bf (A.sin key) ds).hp w.heap.size (nh P w μ (bf (A.sin key) ds).hp)→fO P A.aG w I→
   vals.length=(A.sin key).bw.length→(∀(j:Nat) v x,vals[j]? =some v→(eT ((A.sin key).bw.map (·.2)) ds)[j]? =some x→ao P w I μ (bf (A.sin key) ds).hp v x)→
   Calls P (A.aX key) vals.toArray w fun e w'=> ∃v I2 bW,e= .returned v∧Wv P A key w I μ ds es w' v I2 bW
theorem dE.sW {p:Place} {o:Option Nat} {blk:ak} {b:Nat} (h:dE P w β hp p o blk) (ho:br P w o blk b):
  ∃pR,hp p.id=some pR∧br P w (β p.id) pR b∧∀e es,pR≠ .arr e es true:=by
 cases h with
 | var h=>exact ⟨_,h,.root (by simp) (ho.flat (by simp)),by simp⟩
 | arr h=>exact ⟨_,h,.root (by simp) (ho.flat (by simp)),by simp⟩
 | map h=>exact ⟨_,h,.root (by simp) (ho.flat (by simp)),by simp⟩
 | nest h=>
  refine ⟨_,h,?_,by simp⟩
  cases ho with
  | root _ hb=>exact .root (by simp) hb
  | row hb ha=>exact .row hb ha
 | row h hb ha _ _ _ _ _=>
  have:=ho.flat (by simp)
  cases this
  exact ⟨_,h,.row hb ha,by simp⟩
theorem aH.Ww (S:aH P w I β hp B M w0) {id b:Nat} {blk:ak} (ab:hp id=some blk) (ho:br P w (β id) blk b) (hf: ∀e es,blk≠ .arr e es true): ¬I b:=by
 have hr:=S.h.rel id blk ab
 generalize β id=o at hr ho
 cases hr with
 | var hb _ _ hI _ _=>have:=ho.flat (by simp);rw[hb] at this;cases this;exact hI
 | dm hb=>have:=ho.flat (by simp);rw[hb] at this;cases this
 | @arr e es fz _ _ _ hb _ _ _ dJ _=>
  have:=ho.flat (by simp)
  rw[hb] at this;cases this
  cases fz with
  | true=>exact absurd rfl (hf e es)
  | false=>exact dJ rfl
 | dead=>exact absurd rfl ho.alive
 | map _ hb _ _ hI _ _=>have:=ho.flat (by simp);rw[hb] at this;cases this;exact hI
 | nest hb hr _=>
  cases ho with
  | root _ aC=>rw[hb] at aC;cases aC;exact (hr _ _ _ _ .here).nI
  | row aC ha=>rw[hb] at aC;cases aC;exact (hr _ _ _ _ ha).nI
theorem Da {a b:List Nat} (h:uP a b=false) {x:Nat} (ha:x∈a):x∉b:=by
 intro hb
 unfold uP at h
 rw[List.any_eq_false] at h
 exact h x ha (ve hb)
theorem Wx (S:aH P w I β hp B M w0) {pl:List Place} {upd:List (Nat × ak)} {o:Nat→Option Nat} (ju:(pl.map Place.id).Nodup) (Db:uP (upd.map (·.1)) (pl.map Place.id)=false)
  (hl: ∀j blk,hp0 j=some blk→∃p,dH pl j=some p∧dE P w β hp p (o j) blk)
  (cx:(∀j blk,hp0 j=some blk→∀b,br P w (o j) blk b→¬gQ P w I β hp upd b)→∀j blk,hp0 j=some blk→dC P w (gQ P w I β hp upd) o hp0 (o j) blk) (aR: ∀b,gQ P w I β hp upd b→b<w.heap.size):
  sm P w (gQ P w I β hp upd) o hp0 w.heap.size (nh P w o hp0):=by
 have cD: ∀j blk,hp0 j=some blk→∀b,br P w (o j) blk b→¬gQ P w I β hp upd b:=by
  intro j blk hj b ho hI
  obtain ⟨p,bm,gb⟩:=hl j blk hj
  obtain ⟨pR,k1,k2,k3⟩:=gb.sW ho
  rcases hI with hI|⟨q,hq,bV,q1,q2⟩
  ·exact S.Ww k1 k2 k3 hI
  ·have:=S.h.inj _ _ _ _ b q1 k1 q2 k2
   refine Da Db (ib.2 ⟨q,hq,rfl⟩) ?_
   rw[this]
   rw[kB] at bm
   exact ib.2 ⟨p,iD bm,rfl⟩
 refine ⟨cx cD,fun j1 j2 b1 b2 b h1 U o1 o2=> ?_,fun j blk b h1 o1=> .inl ⟨j,blk,h1,o1⟩,aR⟩
 obtain ⟨p1,q1,q2⟩:=hl j1 b1 h1
 obtain ⟨p2,r1,r2⟩:=hl j2 b2 U
 obtain ⟨c1,x1,x2,_⟩:=q2.sW o1
 obtain ⟨c2,y1,y2,_⟩:=r2.sW o2
 have ab:=S.h.inj _ _ _ _ b x1 y1 x2 y2
 rw[kB] at q1 r1
 have m1:(pl.map Place.id)[j1]? =some p1.id:=by rw[fX,q1];rfl
 have m2:(pl.map Place.id)[j2]? =some p2.id:=by rw[fX,r1];rfl
 rw[←ab] at m2
 obtain ⟨z1,z2⟩:=bj.1 m1
 obtain ⟨z3,z4⟩:=bj.1 m2
 exact (List.getElem_inj ju).1 (z2.trans z4.symm)
def MN:V→Prop
 | .list .. =>False
 | .pref .. =>False
 | .agg _=>False
 | .bh _=>False
 | .fn .. =>False
 | _=>True
theorem ao.free {v:Value} {x:V} (h:ao P w I β hp v x) (hx:MN x):ao P w I' β hp v x:=by
 cases h with
 | undef=>exact .undef
 | int=>exact .int
 | bool=>exact .bool
 | str h=>exact .str h
 | list h=>exact hx.elim
 | nilS=>exact .nilS
 | agg=>exact hx.elim
 | bh=>exact hx.elim
 | c8=>exact .c8
 | fn=>exact hx.elim
 | pref=>exact hx.elim
 | dI h=>exact .dI h
 | fB h=>exact .fB h
 | jl h=>exact .jl h
 | dk h hb=>exact .dk h hb
 | whole h hb a b c=>exact .whole h hb a b c
 | dQ h hb a b c=>exact .dQ h hb a b c
 | fk h hb=>exact .fk h hb
 | sub h hb a b c=>exact .sub h hb a b c
 | ptr h hd hb=>exact .ptr h hd hb
 | iF h pM=>exact .iF h pM
 | iG h pM=>exact .iG h pM
 | row h hb a b c d=>exact .row h hb a b c d
 | cu h hb a b c d e=>exact .cu h hb a b c d e
 | db=>exact .db
 | gB h=>exact .gB h
 | cv h hb=>exact .cv h hb
theorem yR {l:LS} {ds:List V} (hs:l.safe=true):MN (gL l ds):=by
 cases l<;>simp only[LS.safe] at hs<;>first|(cases hs;done)|trivial
theorem yS: ∀{ls:List LS} {ds:List V} {j:Nat} {y:V},(gr ls ds)[j]? =some y→∃l eO,l∈ls∧y=gL l eO
 | [],ds,j,y,h=>by simp[gr] at h
 | l::ls,ds,j,y,h=>by
  simp only[gr] at h
  cases j with
  | zero=>simp at h;exact ⟨l,ds,qA ..,h.symm⟩
  | succ j=>
   obtain ⟨l',eO,h1,U⟩:=yS (j:=j) (by simpa using h)
   exact ⟨l',eO,j9 _ h1,U⟩
theorem MO: ∀{ls:List VS} {ds:List V} {j:Nat} {y:V},(eT ls ds)[j]? =some y→∃l eO,l∈ls∧y=jM l eO
 | [],ds,j,y,h=>by simp[eT] at h
 | l::ls,ds,j,y,h=>by
  simp only[eT] at h
  cases j with
  | zero=>simp at h;exact ⟨l,ds,qA ..,h.symm⟩
  | succ j=>
   obtain ⟨l',eO,h1,U⟩:=MO (j:=j) (by simpa using h)
   exact ⟨l',eO,j9 _ h1,U⟩
theorem MP {s:VS} {ds:List V} {v:Value} (h:ao P w I β hp v (jM s ds)) (hs:s.safe=true):ao P w I' β hp v (jM s ds):=by
 cases s with
 | one l=>exact h.free (yR hs)
 | agg ls=>
  simp only[jM] at h⊢
  obtain ⟨cs,rfl,e1,e2⟩:=h.jR
  refine .agg e1 fun j v x hj hx=> ?_
  obtain ⟨l,eO,k1,rfl⟩:=yS hx
  exact (e2 j v _ hj hx).free (yR (eS.1 hs l k1))
 | bh ls=>
  simp only[jM] at h⊢
  obtain ⟨cs,rfl,e1,e2⟩:=h.sA
  refine .bh e1 fun j v x hj hx=> ?_
  obtain ⟨l,eO,k1,rfl⟩:=yS hx
  exact (e2 j v _ hj hx).free (yR (eS.1 hs l k1))
 | fn f a b=>
  simp only[VS.safe,aM] at hs
  simp only[jM] at h⊢
  cases h with
  | fn a1 a2 b1 b2=>
   refine .fn a1 (fun j v x hj hx=> ?_) b1 (fun j v x hj hx=> ?_)
   ·obtain ⟨l,eO,k1,rfl⟩:=yS hx
    exact (a2 j v _ hj hx).free (yR (eS.1 hs.1 l k1))
   ·obtain ⟨l,eO,k1,rfl⟩:=yS hx
    exact (b2 j v _ hj hx).free (yR (eS.1 hs.2 l k1))
 | pref ts ls=>cases hs
theorem Pure.scalar {t:TypeId} {v:Value} {x:V} (h:Pure P w I t v x) (hn: ∀e,P.underlying t≠some (.slice e)):Pure P w I' t v x:=by
 cases h with
 | int h=>exact .int h
 | bool h=>exact .bool h
 | str h hl=>exact .str h hl
 | nil h=>exact absurd h (hn _)
 | emp h=>exact absurd h (hn _)
 | list g h=>exact absurd h (hn _)
theorem Wy {e t:TypeId} {j:Nat} (h:xR P e=true) (ht:(aV P e)[j]? =some t) (e':TypeId):P.underlying t≠some (.slice e'):=by
 intro hu
 have U:=eS.1 h t (iD ht)
 rw[hu] at U
 cases U
theorem Wz {o:Option Nat} {b:BS} {ds:List V} (h:dC P w I2 β hp o (ff b ds)) (hs:b.safe P=true) (hi: ∀b,I b→I2 b):dC P w I β hp o (ff b ds):=by
 cases b with
 | dead=>exact .dead
 | var T0 ls=>
  simp only[ff] at h⊢
  cases h with
  | var hb hh aW hI hx fD=>
   refine .var hb hh aW (fun h=>hI (hi _ h)) (fun j v x hj cj=> ?_) fD
   obtain ⟨l,eO,k1,rfl⟩:=MO cj
   exact MP (hx j v _ hj cj) (eS.1 hs l k1)
 | arr e fz=>
  simp only[BS.safe,aM,lN] at hs
  obtain ⟨rfl,yQ⟩:=hs
  simp only[ff] at h⊢
  generalize (V.nth ds 0).toList=es at h⊢
  cases h with
  | dm hb=>exact .dm hb
  | arr a1 a2 a3 a4 a5 a6 a7=>
   refine .arr a1 a2 a3 a4 (fun h=>by cases h) (fun _ h=>a6 rfl (hi _ h)) fun i j x t' y1 y2 y3=> ?_
   obtain ⟨v,z1,z2⟩:=a7 i j x t' y1 y2 y3
   exact ⟨v,z1,z2.scalar (Wy yQ y2)⟩
 | nest e=>
  simp only[ff] at h⊢
  generalize (V.nth ds 0).toList=es at h⊢
  cases h with
  | nest hb cy na=>
   refine .nest hb (fun q b' e1 m1 hq=> ?_) na
   obtain ⟨ok,⟨Ca,c1,c2,c3⟩,nI⟩:=cy q b' e1 m1 hq
   refine ⟨ok,⟨Ca,c1,c2,fun i j x t' y1 y2 y3=> ?_⟩,fun h=>nI (hi _ h)⟩
   obtain ⟨v,z1,z2⟩:=c3 i j x t' y1 y2 y3
   refine ⟨v,z1,?_⟩
   generalize bH P e1 x j=y at z2⊢
   cases z2 with
   | fj a p=>
    refine .fj a (p.scalar fun e hu=> ?_)
    unfold fe at a
    rw[hu] at a
    cases a
   | emp a b=>exact .emp a b
   | row a b c d e=>exact .row a b c d e
 | map t=>
  simp only[ff] at h⊢
  cases h with
  | map a1 a2 a3 a4 a5 a6 a7=>exact .map a1 a2 a3 a4 (fun h=>a5 (hi _ h)) a6 a7
theorem G8: ∀{l:List BS} {ds:List V} {j:Nat} {y:ak},(dY l ds)[j]? =some y→∃b eO,l[j]? =some b∧y=ff b eO
 | [],ds,j,y,h=>by simp[dY] at h
 | b::l,ds,j,y,h=>by
  simp only[dY] at h
  cases j with
  | zero=>simp at h;exact ⟨b,ds,rfl,h.symm⟩
  | succ j=>
   obtain ⟨b',eO,h1,U⟩:=G8 (j:=j) (by simpa using h)
   exact ⟨b',eO,by simpa using h1,U⟩
theorem MQ: ∀{l:List (Nat × VS)} {ds:List V} {q:Nat × V},q∈eK l ds→∃s eO,(q.1,s)∈l∧q.2=jM s eO
 | [],ds,q,h=>by simp[eK] at h
 | (k,s)::l,ds,q,h=>by
  simp only[eK,eH] at h
  rcases h with h|h
  ·subst h;exact ⟨s,ds,qA ..,rfl⟩
  ·obtain ⟨s',eO,h1,U⟩:=MQ h
   exact ⟨s',eO,j9 _ h1,U⟩
theorem WA {S:Shape} {es:List V} (hs:S.safe P=true) (hi: ∀b,I b→I2 b) {N:Nat→Prop} {st:Start} (h:aH P w' I2 bW (bf S es).hp B N st) (h0: ∀b,I b→st.I b):
  aH P w' I bW (bf S es).hp B N st∧∀v,ao P w' I2 bW (bf S es).hp v (nU (eK S.bw es))→ao P w' I bW (bf S es).hp v (nU (eK S.bw es)):=by
 unfold Shape.safe at hs
 simp only[aM] at hs
 obtain ⟨gP,mh⟩:=hs
 have one: ∀q∈eK S.bw es,∀v,ao P w' I2 bW (bf S es).hp v q.2→ao P w' I bW (bf S es).hp v q.2:=by
  intro q hq v hv
  obtain ⟨s,eO,k1,k2⟩:=MQ hq
  rw[k2] at hv⊢
  exact MP hv (eS.1 gP _ k1)
 refine ⟨⟨⟨fun j blk hj=> ?_,h.h.inj,h.h.own,fun b hb=>h.h.iH b (hi b hb)⟩,h.b7,h.size,fun b hb=> .inl (h0 b hb),h.io⟩,fun v hv=> ?_⟩
 ·have hr:=h.h.rel j blk hj
  have fm:=hj
  simp only[bf,mk,gi] at fm
  obtain ⟨b,eO,k1,rfl⟩:=G8 fm
  exact Wz hr (eS.1 mh _ (iD k1)) hi
 ·generalize eK S.bw es=l at one hv⊢
  match l,one,hv with
  | [],_,hv=>
   simp only[nU,nJ] at hv⊢
   obtain ⟨cs,rfl,e1,e2⟩:=hv.sA
   exact .bh e1 fun j v x _ hx=>by simp at hx
  | [q],one,hv=>exact one q (fM.2 rfl) v hv
  | q::q2::l,one,hv=>
   simp only[nU] at hv⊢
   obtain ⟨cs,rfl,e1,e2⟩:=hv.sA
   refine .bh e1 fun j v x hj hx=> ?_
   obtain ⟨y,hy,rfl⟩:=ib.1 (iD hx)
   exact one y hy v (e2 j v _ hj hx)
end
section
variable {P:Program} {A:cl} {w w':World} {I I' I2:Nat→Prop} {μ β β' bW:Nat→Option Nat} {hp hp' hp0 bm:Nat→Option ak} {C:af} {B:Nat} {M:Nat→Prop} {w0:Start}
inductive fG (σ:List Place):ak→ak→Prop
 | dead:fG σ .dead .dead
 | var {T:TypeId} {cs:List V}:fG σ (.var T cs) (.var T (cs.map (B7 σ)))
 | arr {e:TypeId} {es:List V} {fz:Bool}:fG σ (.arr e es fz) (.arr e es fz)
 | nest {e:TypeId} {es:List V} {v1 v2:List Nat}:fG σ (.nest e es v1) (.nest e es v2)
 | map {t:TypeId} {es:List V}:fG σ (.map t es) (.map t es)
theorem fG.of (σ:List Place) (b:ak):fG σ b (sd σ b):=by
 cases b with
 | dead=>exact .dead
 | var T cs=>exact .var
 | arr e es fz=>exact .arr
 | nest e es v=>exact .nest
 | map t es=>exact .map
theorem MR {σ:List Place}: ∀{pl:List Place} {bs:List ak} {acc:List (Nat × ak)} {k:List (Nat × ak)→Rd R} {r:R} {rd:List Nat},(pk σ pl bs acc k).run C hp=some (r,rd)→
  pl.length≤bs.length∧∃bk ep,(k bk).run C hp=some (r,ep)∧(∀q∈bk,q∈acc∨∃(j:Nat) (b:ak),pl[j]? =some (.blk q.1)∧bs[j]? =some b∧fG σ b q.2∧((∃e es v2,q.2= .nest e es v2)→∃e es aq e' aO,hp q.1=some (.nest e es aq)∧q.2= .nest e' aO (aq.map (· +1))))∧
   (∀q∈acc,q∈bk)∧∀(j:Nat) p,pl[j]? =some p→∃id b,p= .blk id∧(id,b)∈bk
 | [],bs,acc,k,r,rd,h=>⟨jI _,acc,rd,by simpa only[pk] using h,fun q hq=> .inl hq,fun q hq=>hq,fun j p hp=>by simp at hp⟩
 | .row _ _ _::pl,bs,acc,k,r,rd,h=>by
  cases bs<;>(simp only[pk] at h;cases h)
 | .blk id::pl,[],acc,k,r,rd,h=>by simp only[pk] at h;cases h
 | .blk id::pl,b::bs,acc,k,r,rd,h=>by
  have fin: ∀{b2:ak} {iu:List Nat},(pk σ pl bs ((id,b2)::acc) k).run C hp=some (r,iu)→fG σ b b2→((∃e es v2,b2= .nest e es v2)→∃e es aq e' aO,hp id=some (.nest e es aq)∧b2= .nest e' aO (aq.map (· +1)))→
    (Place.blk id::pl).length≤(b::bs).length∧∃bk ep,(k bk).run C hp=some (r,ep)∧(∀q∈bk,q∈acc∨∃(j:Nat) (b':ak),(Place.blk id::pl)[j]? =some (.blk q.1)∧(b::bs)[j]? =some b'∧fG σ b' q.2∧((∃e es v2,q.2= .nest e es v2)→∃e es aq e' aO,hp q.1=some (.nest e es aq)∧q.2= .nest e' aO (aq.map (· +1))))∧
     (∀q∈acc,q∈bk)∧∀(j:Nat) p,(Place.blk id::pl)[j]? =some p→∃id b,p= .blk id∧(id,b)∈bk:=by
   intro b2 iu h1 hb hn
   obtain ⟨a0,bk,ep,a1,a2,a3,a4⟩:=MR h1
   refine ⟨by simp only[List.length_cons];omega,bk,ep,a1,fun q hq=> ?_,fun q hq=>a3 q (j9 _ hq),fun j p hj=> ?_⟩
   ·rcases a2 q hq with h|⟨j,b',k1,k2,k3,k4⟩
    ·rcases eH.1 h with e|h
     ·subst e;exact .inr ⟨0,b,rfl,rfl,hb,hn⟩
     ·exact .inl h
    ·exact .inr ⟨j+1,b',by simpa using k1,by simpa using k2,k3,k4⟩
   ·cases j with
    | zero=>simp at hj;subst hj;exact ⟨id,b2,rfl,a3 _ (qA ..)⟩
    | succ j=>exact a4 j p (by simpa using hj)
  cases b with
  | nest e es v=>
   simp only[pk] at h
   obtain ⟨l,h⟩:=run_get h
   cases ab:hp id with
   | none=>rw[ab] at h;cases h
   | some blk=>
    rw[ab] at h
    cases blk with
    | nest e0 FV aq=>exact fin h .nest fun _=>⟨e0,FV,aq,e,es,ab,rfl⟩
    | _=>cases h
  | dead=>exact fin h (.of σ _) fun ⟨_,_,_,h⟩=>by cases h
  | var T cs=>exact fin h (.of σ _) fun ⟨_,_,_,h⟩=>by cases h
  | arr e es fz=>exact fin h (.of σ _) fun ⟨_,_,_,h⟩=>by cases h
  | map t es=>exact fin h (.of σ _) fun ⟨_,_,_,h⟩=>by cases h
theorem MS {σ:List Place}: ∀{bs:List ak} {n:Nat} {q:Nat × ak},q∈pn σ n bs→∃i b,bs[i]? =some b∧q=(n+i,sd σ b)
 | [],n,q,h=>by simp[pn] at h
 | b::bs,n,q,h=>by
  simp only[pn,eH] at h
  rcases h with h|h
  ·exact ⟨0,b,rfl,h⟩
  ·obtain ⟨i,b',h1,U⟩:=MS h
   exact ⟨i+1,b',by simpa using h1,by rw[U];congr 1;omega⟩
theorem MT {σ:List Place}: ∀{bs:List ak} {n i:Nat} {b:ak},bs[i]? =some b→(n+i,sd σ b)∈pn σ n bs
 | [],n,i,b,h=>by simp at h
 | b0::bs,n,i,b,h=>by
  simp only[pn,eH]
  cases i with
  | zero=>simp at h;subst h;exact .inl rfl
  | succ i=>exact .inr (by rw[show n+(i+1)=n+1+i by omega];exact MT (by simpa using h))
theorem Dc: ∀{k n i:Nat},i<k→(qL n k)[i]? =some (.blk (n+i))
 | 0,n,i,h=>by omega
 | k+1,n,0,h=>rfl
 | k+1,n,i+1,h=>by
  simp only[qL,List.getElem?_cons_succ]
  rw[Dc (by omega)]
  congr 2
  omega
theorem G9: ∀{k n:Nat},(qL n k).length=k
 | 0,_=>rfl
 | k+1,n=>by simp[qL,G9]
theorem MU: ∀{bs:List (Nat × ak)} {k:Rd R} {r:R} {rd:List Nat},(B8 bs k).run C hp=some (r,rd)→(∀q∈bs,hp q.1=none)∧∃ep,k.run C hp=some (r,ep)
 | [],k,r,rd,h=>⟨by simp,rd,h⟩
 | (id,b)::l,k,r,rd,h=>by
  simp only[B8] at h
  obtain ⟨l1,h⟩:=run_get h
  cases ab:hp id with
  | some blk=>rw[ab] at h;cases h
  | none=>
   rw[ab] at h
   obtain ⟨h1,U⟩:=MU h
   refine ⟨fun q hq=> ?_,U⟩
   rcases eH.1 hq with e|hq
   ·subst e;exact ab
   ·exact h1 q hq
structure oj (σ:List Place) (bW:Nat→Option Nat) (bm:Nat→Option ak) (β':Nat→Option Nat) (hp':Nat→Option ak):Prop where
 blk: ∀j b,bm j=some b→∃id b',dH σ j=some (.blk id)∧hp' id=some b'∧fG σ b b'∧(b≠ .dead→β' id=bW j)
 none: ∀j,bm j=none→dH σ j=none
 ag0: ∀j id ver path,dH σ j≠some (.row id ver path)
theorem oj.leaf {σ:List Place} (T:oj σ bW bm β' hp') {v:Value} {x:V} (h:ao P w I bW bm v x):ao P w I β' hp' v (jh σ x):=by
 have look: ∀{j b},bm j=some b→∃id b',dH σ j=some (.blk id)∧hp' id=some b'∧fG σ b b'∧(b≠ .dead→β' id=bW j):=fun h=>T.blk _ _ h
 cases h with
 | undef=>exact .undef
 | int=>exact .int
 | bool=>exact .bool
 | str h=>exact .str h
 | list h=>exact .list h
 | nilS=>exact .nilS
 | agg=>exact .undef
 | bh=>exact .undef
 | c8=>exact .c8
 | fn=>exact .undef
 | pref a b c=>exact .pref a b c
 | @dI _ e j h=>
  obtain ⟨id,b',k1,k2,k3,k4⟩:=look h
  simp only[jh,k1]
  cases k3
  exact .dI k2
 | @fB _ e j _ _ h=>
  obtain ⟨id,b',k1,k2,k3,k4⟩:=look h
  simp only[jh,k1]
  cases k3
  exact .fB k2
 | @jl _ j _ _ h=>
  obtain ⟨id,b',k1,k2,k3,k4⟩:=look h
  simp only[jh,k1]
  cases k3
  exact .jl k2
 | @dk e j fz _ h hb=>
  obtain ⟨id,b',k1,k2,k3,k4⟩:=look h
  simp only[jh,k1]
  cases k3
  exact .dk k2 ((k4 (by simp)).trans hb)
 | @whole e j es fz b cap h hb a1 a2 a3=>
  obtain ⟨id,b',k1,k2,k3,k4⟩:=look h
  simp only[jh,k1]
  cases k3
  exact .whole k2 ((k4 (by simp)).trans hb) a1 a2 a3
 | @dQ e j es aq b cap h hb a1 a2 a3=>
  obtain ⟨id,b',k1,k2,k3,k4⟩:=look h
  simp only[jh,k1]
  cases k3
  exact .dQ k2 ((k4 (by simp)).trans hb) a1 a2 a3
 | @fk e j fz _ h hb=>
  obtain ⟨id,b',k1,k2,k3,k4⟩:=look h
  simp only[jh,k1]
  cases k3
  exact .fk k2 ((k4 (by simp)).trans hb)
 | @sub e j off len es fz b o cap h hb a1 a2 a3=>
  obtain ⟨id,b',k1,k2,k3,k4⟩:=look h
  simp only[jh,k1]
  cases k3
  exact .sub k2 ((k4 (by simp)).trans hb) a1 a2 a3
 | @ptr j i c b blk h hd hb=>
  obtain ⟨id,b',k1,k2,k3,k4⟩:=look h
  simp only[jh,k1]
  have hs:blk.sz P=b'.sz P:=by cases k3<;>rfl
  rw[hs]
  exact .ptr k2 (by intro e;subst e;cases k3;exact hd rfl) ((k4 hd).trans hb)
 | iF=>exact .undef
 | iG=>exact .undef
 | row=>exact .undef
 | cu=>exact .undef
 | db=>exact .db
 | @gB _ t j h=>
  obtain ⟨id,b',k1,k2,k3,k4⟩:=look h
  simp only[jh,k1]
  cases k3
  exact .gB k2
 | @cv t j b es h hb=>
  obtain ⟨id,b',k1,k2,k3,k4⟩:=look h
  simp only[jh,k1]
  cases k3
  exact .cv k2 ((k4 (by simp)).trans hb)
theorem oj.one {σ:List Place} (T:oj σ bW bm β' hp') {v:Value} {x:V} (h:ao P w I bW bm v x):ao P w I β' hp' v (FI σ x):=by
 cases x with
 | agg xs=>
  obtain ⟨cs,rfl,e1,e2⟩:=h.jR
  exact .agg (by simpa using e1) fun j v y hj hy=>by
   rw[fX] at hy
   cases hx:xs[j]? with
   | none=>rw[hx] at hy;cases hy
   | some x=>rw[hx] at hy;cases hy;exact T.leaf (e2 j v x hj hx)
 | fn f a b=>
  cases h with
  | fn a1 a2 b1 b2=>
   refine .fn (by simpa using a1) (fun j v y hj hy=> ?_) (by simpa using b1) (fun j v y hj hy=> ?_)
   ·rw[fX] at hy
    cases hx:a[j]? with
    | none=>rw[hx] at hy;cases hy
    | some x=>rw[hx] at hy;cases hy;exact T.leaf (a2 j v x hj hx)
   ·rw[fX] at hy
    cases hx:b[j]? with
    | none=>rw[hx] at hy;cases hy
    | some x=>rw[hx] at hy;cases hy;exact T.leaf (b2 j v x hj hx)
 | _=>exact T.leaf h
theorem oj.val {σ:List Place} (T:oj σ bW bm β' hp') {v:Value} {x:V} (h:ao P w I bW bm v x):ao P w I β' hp' v (B7 σ x):=by
 cases x with
 | bh xs=>
  obtain ⟨cs,rfl,e1,e2⟩:=h.sA
  exact .bh (by simpa using e1) fun j v y hj hy=>by
   rw[fX] at hy
   cases hx:xs[j]? with
   | none=>rw[hx] at hy;cases hy
   | some x=>rw[hx] at hy;cases hy;exact T.one (e2 j v x hj hx)
 | _=>exact T.one h
theorem oj.MV {σ:List Place} (T:oj σ bW bm β' hp') {o:Option Nat} {b b':ak} (h:dC P w I bW bm o b) (hb:fG σ b b'):dC P w I β' hp' o b':=by
 cases hb with
 | dead=>exact .dead
 | var=>
  cases h with
  | var a1 a2 a3 a4 a5 a6=>
   refine .var a1 a2 (by simpa using a3) a4 (fun j v y hj hy=> ?_) a6
   rw[fX] at hy
   cases hx:(_:List V)[j]? with
   | none=>rw[hx] at hy;cases hy
   | some x=>rw[hx] at hy;cases hy;exact T.val (a5 j v x hj hx)
 | arr=>
  cases h with
  | dm hb=>exact .dm hb
  | arr a1 a2 a3 a4 a5 a6 a7=>exact .arr a1 a2 a3 a4 a5 a6 a7
 | nest=>
  cases h with
  | nest a1 a2 a3=>exact .nest a1 a2 a3
 | map=>
  cases h with
  | map a1 a2 a3 a4 a5 a6 a7=>exact .map a1 a2 a3 a4 a5 a6 a7
theorem fG.sW {σ:List Place} {o:Option Nat} {b b':ak} (h:fG σ b b') {m:Nat} (ho:br P w o b' m):br P w o b m:=by
 cases h with
 | dead=>exact absurd rfl ho.alive
 | var=>exact .root (by simp) (ho.flat (by simp))
 | arr=>exact .root (by simp) (ho.flat (by simp))
 | map=>exact .root (by simp) (ho.flat (by simp))
 | nest=>
  cases ho with
  | root _ hb=>exact .root (by simp) hb
  | row hb ha=>exact .row hb ha
theorem fG.MW {σ:List Place} {b b':ak} (h:fG σ b b'):b'≠ .dead→b≠ .dead:=by
 intro h1 U;subst U;cases h;exact h1 rfl
end
section
variable {P:Program} {A:cl} {w w':World} {I I' I2:Nat→Prop} {μ β β' bW:Nat→Option Nat} {hp hp' hp0 bm:Nat→Option ak} {C:af} {B:Nat} {M:Nat→Prop} {w0:Start}
theorem MX: ∀{vs:List Nat} {k:Nat},k<vs.length→bx (vs.map (· +1)) k=bx vs k+1
 | [],k,h=>by simp at h
 | v::vs,0,h=>rfl
 | v::vs,k+1,h=>by simp only[dB,bx];exact MX (by simpa using h)
theorem MY: ∀{vs:List Nat} {k:Nat},bx vs k≤bx (vs.map (· +1)) k
 | [],k=>by simp[bx]
 | v::vs,0=>by simp[bx]
 | v::vs,k+1=>by simp only[dB,bx];exact MY
def yT (hp:Nat→Option ak) (q:Nat × ak):Prop:=(∃e es v2,q.2= .nest e es v2)→∃e es aq e' aO,hp q.1=some (.nest e es aq)∧q.2= .nest e' aO (aq.map (· +1))
theorem dE.Ha {id:Nat} {o:Option Nat} {blk:ak} (h:dE P w β hp (.blk id) o blk):o=β id∧∃b0,hp id=some b0∧b0≠ .dead:=by
 cases h with
 | var h=>exact ⟨rfl,_,h,by simp⟩
 | arr h=>exact ⟨rfl,_,h,by simp⟩
 | nest h=>exact ⟨rfl,_,h,by simp⟩
 | map h=>exact ⟨rfl,_,h,by simp⟩
theorem dE.WB {id:Nat} {o:Option Nat} {c b b' b0:ak} {σ:List Place} (h:dE P w β hp (.blk id) o c) (h0:hp id=some b0) (hle:c.le b) (hb:fG σ b b') (hn:yT hp (id,b')):b0.le b':=by
 cases h with
 | var h=>
  rw[h] at h0;cases h0
  cases hb with
  | dead=>trivial
  | var=>trivial
  | arr=>exact hle.elim
  | nest=>exact hle.elim
  | map=>exact hle.elim
 | arr h=>
  rw[h] at h0;cases h0
  cases hb with
  | dead=>trivial
  | var=>exact hle.elim
  | arr=>exact hle
  | nest=>exact hle.elim
  | map=>exact hle.elim
 | map h=>
  rw[h] at h0;cases h0
  cases hb with
  | dead=>trivial
  | map=>exact hle
  | _=>exact hle.elim
 | nest h=>
  rw[h] at h0;cases h0
  cases hb with
  | dead=>trivial
  | var=>exact hle.elim
  | arr=>exact hle
  | map=>exact hle.elim
  | @nest e es v1 v2=>
   obtain ⟨e1,cb,sX,e2,bY,k1,k2⟩:=hn ⟨_,_,_,rfl⟩
   cases k2
   change hp id=_ at k1
   rw[h] at k1;cases k1
   exact ⟨hle.1,hle.2.1,by simp,fun k=>MY⟩
theorem dE.other {p:Place} {o:Option Nat} {blk:ak} (h:dE P w β hp p o blk) (he:hp' p.id=hp p.id):dE P w β hp' p o blk:=by
 cases h with
 | var h=>exact .var (he.trans h)
 | arr h=>exact .arr (he.trans h)
 | nest h=>exact .nest (he.trans h)
 | map h=>exact .map (he.trans h)
 | row h a b c d e f g=>exact .row (he.trans h) a b c d e f g
open Classical in
theorem MZ (S:aH P w I β hp B M w0) {pl:List Place} {o:Nat→Option Nat} {bs:List ak} {nb:Nat} {bk fr:List (Nat × ak)} {σ:List Place} (pS:σ=pl++qL nb (bs.length-pl.length)) (yU:fr=pn σ nb (bs.drop pl.length))
  (ju:(pl.map Place.id).Nodup) (pD:pl.length≤bs.length)
  (kC: ∀(j:Nat) p,pl[j]? =some p→∃id b,p= .blk id∧(id,b)∈bk) (Dd: ∀q∈bk,∃(j:Nat) (b:ak),pl[j]? =some (.blk q.1)∧bs[j]? =some b∧fG σ b q.2∧yT hp q)
  (hl: ∀j blk,hp0 j=some blk→∃p,dH pl j=some p∧dE P w β hp p (o j) blk) (hd: ∀j,j<pl.length→∃blk,hp0 j=some blk)
  (Sc:aH P w' I2 bW (iE bs) w.heap.size (nh P w o hp0) ⟨w,I⟩) (vy:jV w I o hp0 w' I2 bW (iE bs)) (rf: ∀q∈fr,hp q.1=none):
  ∃β',Le P w I β hp w' I2 β' (bE hp (fr++bk))∧aH P w' I2 β' (bE hp (fr++bk)) B M w0∧oj σ bW (iE bs) β' (bE hp (fr++bk)):=by
 generalize Hb:bE hp (fr++bk)=gb
 let β':Nat→Option Nat:=fun n=>if∃q∈fr,q.1=n then bW (pl.length+(n-nb)) else β n
 have M0: ∀(j:Nat) id,pl[j]? =some (.blk id)→∃c,hp0 j=some c∧dE P w β hp (.blk id) (o j) c:=by
  intro j id hj
  obtain ⟨c,hc⟩:=hd j (bj.1 hj).1
  obtain ⟨p,h1,U⟩:=hl j c hc
  rw[kB,hj] at h1
  cases h1
  exact ⟨c,hc,U⟩
 have uniq: ∀(j1 j2:Nat) id,pl[j1]? =some (.blk id)→pl[j2]? =some (.blk id)→j1=j2:=by
  intro j1 j2 id h1 U
  have m1:(pl.map Place.id)[j1]? =some id:=by rw[fX,h1];rfl
  have m2:(pl.map Place.id)[j2]? =some id:=by rw[fX,U];rfl
  obtain ⟨z1,z2⟩:=bj.1 m1
  obtain ⟨z3,z4⟩:=bj.1 m2
  exact (List.getElem_inj ju).1 (z2.trans z4.symm)
 have cls: ∀id,(∃i b,id=nb+i∧bs[pl.length+i]? =some b∧gb id=some (sd σ b)∧hp id=none∧β' id=bW (pl.length+i))∨
   (∃(j:Nat) (b b' c b0:ak),pl[j]? =some (.blk id)∧bs[j]? =some b∧hp0 j=some c∧dE P w β hp (.blk id) (o j) c∧hp id=some b0∧b0.le b'∧gb id=some b'∧fG σ b b'∧yT hp (id,b')∧β' id=β id∧c.le b∧(b≠ .dead→bW j=β id))∨
   (gb id=hp id∧(∀j:Nat,pl[j]? ≠some (.blk id))∧β' id=β id):=by
  intro id
  by_cases hm: ∃b,(id,b)∈fr++bk
  ·obtain ⟨b,hm⟩:=hm
   obtain ⟨b',Cn,he⟩:=Ck (hp:=hp) hm
   rw[Hb] at he
   rcases eB.1 Cn with h|h
   ·have h0:=rf _ h
    have ni:β' id=bW (pl.length+(id-nb)):=ag ⟨_,h,rfl⟩
    rw[yU] at h
    obtain ⟨i,b1,k1,k2⟩:=MS h
    rw[gp] at k1
    cases k2
    exact .inl ⟨i,b1,rfl,k1,he,h0,by rw[ni];congr 2;omega⟩
   ·obtain ⟨j,b1,q1,q2,q3,q4⟩:=Dd _ h
    obtain ⟨c,c1,c2⟩:=M0 j id q1
    obtain ⟨c3,b0,c4,c5⟩:=c2.Ha
    obtain ⟨b2,d1,d2,d3⟩:=vy.blk j c c1
    rw[gi,q2] at d1
    cases d1
    refine .inr (.inl ⟨j,b1,b',c,b0,q1,q2,c1,c2,c4,c2.WB c4 d2 q3 q4,he,q3,q4,ai ?_,d2,fun h=>(d3 h).trans c3⟩)
    rintro ⟨q,hq,WC⟩
    rw[←WC,rf q hq] at c4
    cases c4
  ·refine .inr (.inr ⟨?_,fun j hj=> ?_,ai ?_⟩)
   ·rcases sw (hp:=hp) (l:=fr++bk) (id:=id) with h|⟨b,hb,_⟩
    ·rw[Hb] at h;exact h
    ·exact absurd ⟨b,hb⟩ hm
   ·obtain ⟨aF,b,e,hb⟩:=kC j _ hj
    cases e
    exact hm ⟨b,eB.2 (.inr hb)⟩
   ·rintro ⟨q,hq,rfl⟩
    exact hm ⟨q.2,eB.2 (.inl hq)⟩
 have M1: ∀b,nh P w o hp0 b→∃(j id:Nat) (b1:ak),pl[j]? =some (.blk id)∧hp id=some b1∧br P w (β id) b1 b∧∀e es,b1≠ .arr e es true:=by
  rintro b ⟨j,c,hc,ho⟩
  obtain ⟨p,h1,U⟩:=hl j c hc
  rw[kB] at h1
  obtain ⟨id,b2,rfl,_⟩:=kC j p h1
  obtain ⟨b1,k1,k2,k3⟩:=U.sW ho
  exact ⟨j,id,b1,h1,k1,k2,k3⟩
 have other: ∀id blk b,hp id=some blk→br P w (β id) blk b→(∀j:Nat,pl[j]? ≠some (.blk id))→¬nh P w o hp0 b∧w'.heap[b]? =w.heap[b]? ∧(I2 b→I b):=by
  intro id blk b e1 e3 e4
  have nj: ¬nh P w o hp0 b:=by
   intro hx
   obtain ⟨j,aF,b1,i1,i2,i3,_⟩:=M1 b hx
   have:=S.h.inj id aF _ _ b e1 i2 e3 i3
   subst this
   exact e4 j i1
  have aR:=S.h.lt e1 e3
  refine ⟨nj,Sc.b7 b aR nj,fun h=> ?_⟩
  rcases Sc.new b h with h|h|h
  ·exact h
  ·exact absurd h nj
  ·omega
 have qX:oj σ bW (iE bs) β' gb:=by
  refine ⟨fun j b hj=> ?_,fun j hj=> ?_,fun j id ver path hj=> ?_⟩
  ·rw[gi] at hj
   by_cases b8:j<pl.length
   ·obtain ⟨id,b1,e,ku⟩:=kC j _ (bO b8)
    have De:pl[j]? =some (.blk id):=by rw[bO b8,e]
    have Hc:dH σ j=some (.blk id):=by rw[pS];exact ng (by rw[kB];exact De)
    rcases cls id with ⟨i,b2,c1,c2,c3,c4,c5⟩|⟨j',b2,b',c,b0,q1,q2,q3,q4,q5,q6,q7,q8,q9,om,vz,pT⟩|⟨c1,c2,c3⟩
    ·obtain ⟨c,d1,d2⟩:=M0 j id De
     obtain ⟨_,b0,d3,_⟩:=d2.Ha
     rw[d3] at c4;cases c4
    ·obtain rfl:=uniq _ _ _ q1 De
     rw[hj] at q2;cases q2
     exact ⟨id,b',Hc,q7,q8,fun h=>om.trans (pT h).symm⟩
    ·exact absurd De (c2 j)
   ·have M3:=(bj.1 hj).1
    have Hc:dH σ j=some (.blk (nb+(j-pl.length))):=by
     rw[pS,kB,ja (by omega)]
     exact Dc (by omega)
    have hm:(nb+(j-pl.length),sd σ b)∈fr:=by
     rw[yU]
     refine MT ?_
     rw[gp,show pl.length+(j-pl.length)=j by omega]
     exact hj
    rcases cls (nb+(j-pl.length)) with ⟨i,b2,c1,c2,c3,c4,c5⟩|⟨j',b2,b',c,b0,q1,q2,q3,q4,q5,q6,q7,q8,q9,om,vz,pT⟩|⟨c1,c2,c3⟩
    ·have hi:i=j-pl.length:=by omega
     subst hi
     rw[show pl.length+(j-pl.length)=j by omega] at c2 c5
     rw[hj] at c2;cases c2
     exact ⟨_,_,Hc,c3,.of σ _,fun _=>c5⟩
    ·rw[rf _ hm] at q5;cases q5
    ·obtain ⟨b',Cn,he⟩:=Ck (hp:=hp) (l:=fr++bk) (eB.2 (.inl hm))
     rw[Hb,c1,rf _ hm] at he
     cases he
  ·rw[gi] at hj
   have:=List.getElem?_eq_none_iff.1 hj
   rw[pS,kB,List.getElem?_eq_none_iff,dM,G9]
   omega
  ·rw[pS,kB] at hj
   by_cases b8:j<pl.length
   ·rw[iZ b8] at hj
    obtain ⟨aF,b1,e,_⟩:=kC j _ hj
    cases e
   ·have M3:j-pl.length<bs.length-pl.length:=by
     have:=(bj.1 hj).1
     rw[dM,G9] at this
     omega
    rw[ja (by omega),Dc M3] at hj
    cases hj
 have hle:Le P w I β hp w' I2 β' gb:=by
  refine ⟨vy.cW,vy.b7,fun id blk ab=> ?_,fun id blk blk' b ab bz pU hb=> ?_,fun id e es aq e' aO vers' b q i c t v e1 l ab bz hb aR hv ht hc=> ?_⟩
  ·rcases cls id with ⟨i,b2,c1,c2,c3,c4,c5⟩|⟨j',b2,b',c,b0,q1,q2,q3,q4,q5,q6,q7,q8,q9,om,vz,pT⟩|⟨c1,c2,c3⟩
   ·rw[ab] at c4;cases c4
   ·rw[ab] at q5;cases q5
    exact ⟨b',q7,q6,fun _=>om⟩
   ·exact ⟨blk,c1.trans ab,ak.le_refl _,fun _=>c3⟩
  ·rcases cls id with ⟨i,b2,c1,c2,c3,c4,c5⟩|⟨j',b2,b',c,b0,q1,q2,q3,q4,q5,q6,q7,q8,q9,om,vz,pT⟩|⟨c1,c2,c3⟩
   ·rw[ab] at c4;cases c4
   ·rw[q7] at bz;cases bz
    exact vy.size j' c b2 b q3 (by rw[gi];exact q2) (q8.MW pU) (q4.Ha.1.trans hb)
   ·rw[c1,ab] at bz
    cases bz
    simp only[bsize,(other id blk b ab (.root pU hb) c2).2.1]
  ·rcases cls id with ⟨i2,b2,c1,c2,c3,c4,c5⟩|⟨j',b2,b',c',b0,q1,q2,q3,q4,q5,q6,q7,q8,q9,om,vz,pT⟩|⟨c1,c2,c3⟩
   ·rw[ab] at c4;cases c4
   ·rw[q7] at bz;cases bz
    obtain ⟨_,_,sX,_,_,k1,k2⟩:=q9 ⟨_,_,_,rfl⟩
    change hp id=_ at k1
    rw[ab] at k1;cases k1
    cases k2
    rw[MX aR] at hv
    omega
   ·rw[c1,ab] at bz
    cases bz
    exact ⟨l,rfl,hc.mono fun _ _ _ _ h=>(other id _ _ ab (.row hb h) c2).2.1⟩
 have place: ∀id blk b,gb id=some blk→br P w' (β' id) blk b→(∃j c,iE bs j=some c∧br P w' (bW j) c b∧dH σ j=some (.blk id))∨(b<w.heap.size∧¬nh P w o hp0 b∧hp id=some blk∧br P w (β id) blk b):=by
  intro id blk b e1 e3
  rcases cls id with ⟨i,b2,c1,c2,c3,c4,c5⟩|⟨j',b2,b',c,b0,q1,q2,q3,q4,q5,q6,q7,q8,q9,om,vz,pT⟩|⟨c1,c2,c3⟩
  ·rw[c3] at e1;cases e1
   rw[c5] at e3
   refine .inl ⟨pl.length+i,b2,by rw[gi];exact c2,(fG.of σ b2).sW e3,?_⟩
   have:=(bj.1 c2).1
   rw[pS,kB,ja (by omega),Dc (by omega),c1]
   congr 3
   omega
  ·rw[q7] at e1;cases e1
   have pU:b2≠ .dead:=q8.MW e3.alive
   rw[om,←pT pU] at e3
   exact .inl ⟨j',b2,by rw[gi];exact q2,q8.sW e3,by rw[pS];exact ng (by rw[kB];exact q1)⟩
  ·rw[c1] at e1
   rw[c3] at e3
   have:=e3.mono (w:=w) fun b hb=>(other id blk b e1 hb c2).2.1
   exact .inr ⟨S.h.lt e1 this,(other id blk b e1 this c2).1,e1,this⟩
 have qP: ∀b,nh P w o hp0 b∨w.heap.size≤b→M b∨B≤b:=by
  rintro b (h|h)
  ·obtain ⟨j,id,b1,i1,i2,i3,_⟩:=M1 b h
   exact S.h.own id b1 b i2 i3
  ·exact .inr (kR S.size h)
 have Hd: ∀j c b,iE bs j=some c→br P w' (bW j) c b→nh P w o hp0 b∨w.heap.size≤b:=fun j c b h1 U=>Sc.h.own j c b h1 U
 refine ⟨β',hle,⟨⟨fun id blk ab=> ?_,fun i1 i2 b1 b2 b e1 e2 f1 f2=> ?_,fun id blk b ab hb=> ?_,Sc.h.iH⟩,fun b hb hM=> ?_,kR S.size Sc.size,fun b hb=> ?_,⟨Sc.io.1.trans S.io.1,Sc.io.2.trans S.io.2⟩⟩,qX⟩
 ·rcases cls id with ⟨i,b2,c1,c2,c3,c4,c5⟩|⟨j',b2,b',c,b0,q1,q2,q3,q4,q5,q6,q7,q8,q9,om,vz,pT⟩|⟨c1,c2,c3⟩
  ·rw[c3] at ab;cases ab
   rw[c5]
   exact qX.MV (Sc.h.rel _ b2 (by rw[gi];exact c2)) (.of σ b2)
  ·rw[q7] at ab;cases ab
   have:=qX.MV (Sc.h.rel j' b2 (by rw[gi];exact q2)) q8
   by_cases pU:b2= .dead
   ·subst pU
    cases q8
    exact .dead
   ·rw[om,←pT pU]
    exact this
  ·rw[c1] at ab
   rw[c3]
   exact (S.h.rel id blk ab).mono hle fun b hb=>(other id blk b ab hb c2).2
 ·rcases place i1 b1 b e1 f1 with ⟨j1,c1,g1,g2,g3⟩|⟨g1,g2,g3,g4⟩<;>rcases place i2 b2 b e2 f2 with ⟨j2,c2,k1,k2,k3⟩|⟨k1,k2,k3,k4⟩
  ·have:=Sc.h.inj j1 j2 c1 c2 b g1 k1 g2 k2
   subst this
   rw[g3] at k3
   cases k3
   rfl
  ·rcases Hd j1 c1 b g1 g2 with h|h
   ·exact absurd h k2
   ·omega
  ·rcases Hd j2 c2 b k1 k2 with h|h
   ·exact absurd h g2
   ·omega
  ·exact S.h.inj i1 i2 _ _ b g3 k3 g4 k4
 ·rcases place id blk b ab hb with ⟨j1,c1,g1,g2,g3⟩|⟨g1,g2,g3,g4⟩
  ·exact qP b (Hd j1 c1 b g1 g2)
  ·exact S.h.own id blk b g3 g4
 ·refine (Sc.b7 b (mO hb S.size) fun hx=> ?_).trans (S.b7 b hb hM)
  rcases qP b (.inl hx) with h|h
  ·exact hM h
  ·omega
 ·rcases Sc.new b hb with h|h|h
  ·exact S.new b h
  ·exact .inr (qP b (.inl h))
  ·exact .inr (qP b (.inr h))
end
section
variable {P:Program} {A:cl} {w w':World} {I I' I2:Nat→Prop} {μ β β' bW:Nat→Option Nat} {hp hp' hp0 bm:Nat→Option ak} {C:af} {B:Nat} {M:Nat→Prop} {w0:Start}
theorem M4 (hp:Nat→Option ak): ∀(a b:List (Nat × ak)),bE hp (a++b)=bE (bE hp b) a
 | [],b=>rfl
 | (i,x)::a,b=>by simp only[List.cons_append,bE,M4 hp a b]
theorem vA {hp:Nat→Option ak} {l:List (Nat × ak)} {id:Nat} (h: ∀q∈l,q.1≠id):bE hp l id=hp id:=by
 rcases sw (hp:=hp) (l:=l) (id:=id) with h1|⟨b,hb,_⟩
 ·exact h1
 ·exact absurd rfl (h _ hb)
def yV (P : Program) : Prop := ∀ (f : Nat) fn, P.funcs[f]? = some fn → (fn.name == "runtime.NumGoroutine") = false
def M5 (P:Program) (f:FuncId) (e:TypeId):Prop:=
 (∀args w,(callFunc f args).run P w= .ok (.enter f args) w)∧∃t,P.underlying t=some (.slice e)∧
  ∀(s:Value) (w:World) (Q:Ending→World→Prop),(s= .slice none 0 0→Q (.returned (.slice none 0 0)) w)→
   (∀a n c,s= .slice (some a) n c→∃v w',(Builtin.append_ #[t,t] t #[.slice (some ⟨w.heap.size,0,none⟩) 0 0,s]).run P (w.alloc (.cells #[] e))= .ok v w'∧Q (.returned v) w')→
   (s= .slice none 0 0∨∃a n c,s= .slice (some a) n c)→Calls P f #[s] w Q
structure gF (P:Program) (A:cl):Prop where
 count:yV P
 ext: ∀f T,A.ext f=some T→∀(b:Nat) (C:Array Value) (w:World),w.heap[b]? =some (.cells C T (0,0))→C.size=P.cellsOf T→(C[0]? =some (.pointer none)∨C[0]? =some (.pointer (some ⟨b,0,none⟩)))→
  (callFunc f #[.pointer (some ⟨b,0,none⟩)]).run P w= .ok (.enter f #[.pointer (some ⟨b,0,none⟩)]) w∧
  Calls P f #[.pointer (some ⟨b,0,none⟩)] w fun e w'=>e= .returned (.tuple #[])∧(w'=w∨w'=w.setCell ⟨b,0,none⟩ (.pointer (some ⟨b,0,none⟩)))
 idle: ∀f,A.idle f=true→(∀args w,(callFunc f args).run P w= .ok (.enter f args) w)∧
  ∀args w,CallsD P f args .returning w fun e u' w'=>(∃v,e= .returned v)∧u'= .returning∧w'=w
 mS: ∀f e,A.mS f=some e→M5 P f e
theorem gF.here {P:Program} {A:cl} (h:gF P A) (f id:Nat):gF P (A.here f id):=⟨h.count,h.ext,h.idle,h.mS⟩
def yW (E:FuncId→Bool) (d:Deferred):Prop:= ∃f cap,d.target= .fn (.func f) cap∧E f=true
theorem He {P:Program} {A:cl} (hP:gF P A) {fn:Func} {tmps:Array Value} {R:Ending→World→Prop} {w:World} {v:Value} (hv:(results fn tmps).run P w= .ok v w) (hR:R (.returned v) w):
  ∀ds:List Deferred,(∀d∈ds,yW A.idle d)→Leaves P fn tmps R ds .returning w
 | [],_=>⟨v,hv,hR⟩
 | d::ds,h=>by
  obtain ⟨f,cap,ht,hf⟩:=h d (by simp)
  obtain ⟨k1,k2⟩:=hP.idle f hf
  obtain ⟨t,M6⟩:=d
  simp only at ht
  subst ht
  refine leaves_cons (f:=f) (args:=M6++cap) (by simp) ?_ ?_
  ·simp only[invoke];exact k1 _ w
  ·refine (k2 (M6++cap) w).mono fun e u' w' hr=> ?_
   obtain ⟨⟨v',rfl⟩,rfl,rfl⟩:=hr
   exact He hP hv hR ds fun d hd=>h d (j9 _ hd)
def yX (P:Program) (A:cl) (o:Oper) (a:Act) (w:World) (I:Nat→Prop) (β:Nat→Option Nat) (hp:Nat→Option ak) (B:Nat) (M:Nat→Prop) (w0:Start) (r:R):Prop:=
 ∀(next:Act→World→Prop) (Q:Exit→Act→World→Prop),
  (∀v w' I' β' ds,Le P w I β hp w' I' β' (bE hp r.upd)→aH P w' I' β' (bE hp r.upd) B M w0→ao P w' I' β' (bE hp r.upd) v r.v→(∀d∈ds,d∈a.defers∨yW A.idle d)→next ({a with defers:=ds}.put o.dst v) w')→o.wp P a w next Q
theorem nX.step {o:Oper} {a:Act} {r:R} (h:nX P ((execOp a.eval o).run P w) w I β hp B M w0 r):yX P A o a w I β hp B M w0 r:=by
 obtain ⟨v,w',I',β',h1,U,h3,h4⟩:=h
 intro next Q hn
 unfold Oper.wp
 rcases h1 with h1|⟨h1,rfl⟩
 ·rw[h1];exact hn v w' I' β' a.defers U h3 h4 fun d hd=> .inl hd
 ·rw[h1];exact hn _ w' I' β' a.defers U h3 h4 fun d hd=> .inl hd
theorem M7: ∀(l:List (Nat × VS)),mU l=qK (l.map (·.2))
 | []=>rfl
 | (_,s)::l=>by simp only[mU,dB,qK,M7 l]
theorem WD (hC:jW P A C) (S:aH P w I β hp B M w0) (hg:fO P A.aG w I) {vals:List Value} {args:List V} {nb key:Nat} {f:FuncId} {r:R} {rd:List Nat} (hlen:vals.length=args.length)
  (cx: ∀(j:Nat) v x,vals[j]? =some v→args[j]? =some x→ao P w I β hp v x) (h:(xY P A nb key f args).run C hp=some (r,rd)):
  ∃fn c,P.funcs[f]? =some fn∧fn.body=some c∧Calls P f vals.toArray w fun e w'=> ∃v I' β',e= .returned v∧Le P w I β hp w' I' β' (bE hp r.upd)∧aH P w' I' β' (bE hp r.upd) B M w0∧ao P w' I' β' (bE hp r.upd) v r.v:=by
 unfold xY at h
 obtain ⟨M8,h0⟩:=aK h
 clear h
 rw[aT] at M8
 subst M8
 obtain ⟨h1,iu,d1,u1,a1,a2,a3,a5,a4⟩:=G6 S h0 hlen cx
 obtain ⟨U,rb,d2,u2,b1,b2,b3,b4⟩:=MK S a1
 clear h0 a1
 obtain ⟨hc,h3⟩:=aK b1
 clear b1
 simp only[aM,aT,lN] at hc
 obtain ⟨cU,Db⟩:=hc
 have rh:=a2.trans b2
 have j7:U.ds=d1++d2:=by have:=rh.ds;simpa using this
 have Df:U.upd=u1++u2:=by have:=rh.upd;simpa using this
 have ju:(U.pl.map Place.id).Nodup:=rh.nodup (by simp)
 obtain ⟨c1,o,c2,c3⟩:=b4 []
 simp only[eI] at c1 c2 c3
 cases yY:C key U.ds with
 | none=>
  simp only[Rd.run,yY] at h3
  cases h3
 | some es=>
  have pA: ∃ep,(xX P (A.so key es) nb U (A.lv key es)).run C hp=some (r,ep):=by
   obtain ⟨x,hx,e⟩:=bind_some h3
   rw[yY] at hx
   cases hx
   unfold cl.so cl.lv
   cases b9:A.alt key with
   | none=>rw[b9] at e;exact ⟨_,e⟩
   | some S2=>
    rw[b9] at e
    simp only[Rd.run] at e
    cases hb:(V.nth es 0).toBool<;>(rw[hb] at e;exact ⟨_,e⟩)
  clear h3
  obtain ⟨ep,h3⟩:=pA
  unfold xX at h3
  simp only at h3
  generalize gd:dY (A.so key es).aY ((A.lv key es).drop (mU (A.so key es).bw))=bs at h3
  generalize pS:U.pl++qL nb (bs.length-U.pl.length)=σ at h3
  generalize yU:pn σ nb (bs.drop U.pl.length)=fr at h3
  obtain ⟨p0,bk,rd4,p1,p2,_,p3⟩:=MR h3
  obtain ⟨rf,rd5,p4⟩:=MU p1
  obtain rfl:=aP p4
  have pD:U.pl.length≤bs.length:=by rw[fb] at p0;omega
  have Dd: ∀q∈bk,∃(j:Nat) (b:ak),U.pl[j]? =some (.blk q.1)∧bs[j]? =some b∧fG σ b q.2∧yT hp q:=by
   intro q hq
   rcases p2 q hq with hx|⟨j,b,k1,k2,k3,k4⟩
   ·simp at hx
   ·have hj:=(bj.1 k1).1
    rw[ez hj] at k2
    exact ⟨j,b,k1,k2,k3,k4⟩
  obtain ⟨fn,c,hf,hb,Hf⟩:=hC key U.ds es yY
  refine ⟨fn,c,hf,hb,?_⟩
  have WE:dY (A.sin key).aY (U.ds.drop (mU (A.sin key).bw))=dY (A.sin key).aY d2:=by
   rw[j7,M7,mi a3]
  have Hg:(bf (A.sin key) U.ds).hp=iE (dY (A.sin key).aY d2):=by
   simp only[bf,mk,WE]
  have hl: ∀j blk,(bf (A.sin key) U.ds).hp j=some blk→∃p,dH U.pl j=some p∧dE P w β hp p (o j) blk:=by
   intro j blk hj
   rw[Hg,gi] at hj
   obtain ⟨p,k1,k2⟩:=c2 j blk hj
   rw[ia] at k1
   exact ⟨p,k1,k2⟩
  have hd: ∀j,j<U.pl.length→∃blk,(bf (A.sin key) U.ds).hp j=some blk:=by
   intro j hj
   rw[Hg,gi]
   exact ⟨_,bO (by rw[c1,←cU];exact hj)⟩
  have M9:yP P w β hp U.pl o (bf (A.sin key) U.ds).hp:=by
   intro j p hj
   obtain ⟨blk,k1⟩:=hd j (by rw[kB] at hj;exact (bj.1 hj).1)
   obtain ⟨p',k2,k3⟩:=hl j blk k1
   rw[hj] at k2
   cases k2
   exact ⟨blk,k1,k3⟩
  obtain ⟨pJ,S1⟩:=yo S rh.C4
  rw[←Df] at pJ S1
  have i1: ∀b,I b→gQ P w I β hp U.upd b:=fun b h=> .inl h
  have entry:=Wx (hp0:=(bf (A.sin key) U.ds).hp) S ju Db hl (fun cD j blk hj=>by
   have fm:=hj
   rw[Hg,gi] at fm
   exact c3 (gQ P w I β hp U.upd) o _ i1 (fun q hq b hb=> .inr ⟨q,by rw[Df];exact eB.2 (.inr hq),hb⟩) U.pl [] (by simp) M9 j blk fm (cD j blk hj)) S1.h.iH
  have WG:vals.length=(A.sin key).bw.length:=by rw[hlen,←a5];simp
  have ha:=Hf w (gQ P w I β hp U.upd) o vals entry (hg.mono i1 fun _ _=>rfl) WG fun j v x hj hx=>by
   rw[j7] at hx
   exact (((a4.later b2) (gQ P w I β hp U.upd) o _ i1 (fun q hq b hb=> .inr ⟨q,by rw[Df];exact hq,hb⟩) U.pl [] (by simp) M9) d2).2 j v x hj hx
  refine ha.mono fun e w' yZ=> ?_
  obtain ⟨v,I2,bW,rfl,ha⟩:=yZ
  have vB:(bf (A.so key es) (A.lv key es)).hp=iE bs:=by simp only[bf,mk,gd]
  cases WH:(A.so key es).safe P with
  | true=>
   simp only[cond_true,eI]
   have gg: ∀b,I b→I2 b:=fun b h=>ha.le.cW b (i1 b h)
   obtain ⟨s1,s2⟩:=WA WH gg ha.vw i1
   have vy:jV w I o (bf (A.sin key) U.ds).hp w' I bW (iE bs):=by
    rw[←vB]
    exact ⟨fun _ h=>h,fun b h=>ha.le.b7 b (i1 b h),ha.le.blk,ha.le.size⟩
   obtain ⟨β',k1,k2,k3⟩:=MZ S pS.symm yU.symm ju pD p3 Dd hl hd (by rw[←vB];exact ⟨s1.h,s1.b7,s1.size,fun b h=> .inl h,s1.io⟩) vy rf
   exact ⟨v,I,β',rfl,k1,k2,k3.val (by have:=s2 v ha.res;rw[vB] at this;exact this)⟩
  | false=>
   simp only[cond_false]
   rw[←da,M4]
   have nj: ∀p∈U.pl,bE hp U.upd p.id=hp p.id:=fun p hp=>vA fun q hq e=>
    Da Db (ib.2 ⟨q,hq,rfl⟩) (e▸ib.2 ⟨p,hp,rfl⟩)
   have WI: ∀q∈bk,∃(j:Nat) (b:ak),U.pl[j]? =some (.blk q.1)∧bs[j]? =some b∧fG σ b q.2∧yT (bE hp U.upd) q:=by
    intro q hq
    obtain ⟨j,b,k1,k2,k3,k4⟩:=Dd q hq
    refine ⟨j,b,k1,k2,k3,fun hn=> ?_⟩
    have:=nj _ (iD k1)
    simp only[Place.id] at this
    rw[this]
    exact k4 hn
   have Ci: ∀j blk,(bf (A.sin key) U.ds).hp j=some blk→∃p,dH U.pl j=some p∧dE P w β (bE hp U.upd) p (o j) blk:=by
    intro j blk hj
    obtain ⟨p,k1,k2⟩:=hl j blk hj
    exact ⟨p,k1,k2.other (nj p (by rw[kB] at k1;exact iD k1))⟩
   have WJ: ∀q∈fr,bE hp U.upd q.1=none:=by
    intro q hq
    rw[vA fun q' y5 e=> ?_]
    ·exact rf q hq
    ·obtain ⟨e1,cb,_,h5⟩:=rh.C4 q' (Df▸y5)
     rw[e,rf q hq] at h5
     rcases h5 with ⟨_,h5⟩|⟨_,h5⟩<;>cases h5
   obtain ⟨β',k1,k2,k3⟩:=MZ S1 pS.symm yU.symm ju pD p3 WI Ci hd (by rw[←vB];exact ha.vw) (by rw[←vB];exact ha.le) WJ
   exact ⟨v,I2,β',rfl,pJ.trans k1,k2,k3.val (by have:=ha.res;rw[vB] at this;exact this)⟩
theorem Na (hC:jW P A C) (hP:gF P A) (S:aH P w I β hp B M w0) (hg:fO P A.aG w I) {a:Act} {nb key:Nat} {o:Oper} {f:FuncId} {vals:List Value} {args:List V} (hlen:vals.length=args.length)
  (cx: ∀(j:Nat) v x,vals[j]? =some v→args[j]? =some x→ao P w I β hp v x) {r:R} {rd:List Nat} (h:(xY P A nb key f args).run C hp=some (r,rd))
  (hex:(execOp a.eval o).run P w=(callFunc f vals.toArray).run P w):yX P A o a w I β hp B M w0 r:=by
 intro next Q hn
 obtain ⟨fn,c,hf,hb,Hf⟩:=WD hC S hg hlen cx h
 unfold Oper.wp
 rw[hex,MuLone.run_callFunc_enter hf (hP.count f _ hf) hb,Oper.upon_enter]
 refine Hf.mono fun e w' yZ=> ?_
 obtain ⟨v,I2,bW,rfl,k1,k2,k3⟩:=yZ
 exact hn v w' I2 bW a.defers k1 k2 k3 fun d hd=> .inl hd
theorem jP.args {a:Act} {sl:Nat→V} (hs:jP P w I β hp a sl) (hg:fO P A.aG w I) {args:Array Operand} {ts:Array TypeId} (aW:args.size=ts.size):
  (args.map a.eval).toList.length=((args.toList.zip ts.toList).map fun p=>aQ P A.aG p.2 sl p.1).length∧
  ∀(j:Nat) v x,(args.map a.eval).toList[j]? =some v→((args.toList.zip ts.toList).map fun p=>aQ P A.aG p.2 sl p.1)[j]? =some x→ao P w I β hp v x:=by
 refine ⟨by simp;omega,fun j v x hv hx=> ?_⟩
 simp only[Array.toList_map,fX,List.getElem?_zip_eq_some,xC] at hv hx
 obtain ⟨x1,y6,rfl⟩:=hv
 obtain ⟨⟨y1,t1⟩,⟨Nb,_⟩,rfl⟩:=hx
 rw[y6] at Nb
 cases Nb
 exact hs.ev hg t1 _
theorem Nc {vs us:List Value} {xs ys:List V} (h1:vs.length=xs.length) (U: ∀(j:Nat) v x,vs[j]? =some v→xs[j]? =some x→ao P w I β hp v x)
  (h3: ∀(j:Nat) v x,us[j]? =some v→ys[j]? =some x→ao P w I β hp v x) (j:Nat) (v:Value) (x:V) (hv:(vs++us)[j]? =some v) (hx:(xs++ys)[j]? =some x):ao P w I β hp v x:=by
 by_cases hj:j<vs.length
 ·rw[iZ hj] at hv
  rw[iZ (by omega)] at hx
  exact U j v x hv hx
 ·rw[ja (by omega)] at hv
  rw[ja (by omega)] at hx
  rw[h1] at hv
  exact h3 _ v x hv hx
theorem WK (hP:gF P A) (S:aH P w I β hp B M w0) (hg:fO P A.aG w I) {a:Act} {sl:Nat→V} (hs:jP P w I β hp a sl) {dst:Option Tmp} {ty e:TypeId} {pos:String} {after:Array Edge} {guard:Option (Nat × Bool)} {f:FuncId}
  {args:Array Operand} {argTypes:Array TypeId} {nb:Nat} {r:R} {rd:List Nat} (kA:A.mS f=some e)
  (h:((match args.toList with
    | [x]=> .aE (cE P e) (qI e (aQ P A.aG ty sl x) fun xs=> .aE (Nat.ble (xs.length*P.bytesOf e) dN) (ig nb (.arr e xs false) (.whole e nb) []))
    | _=> .fail):Rd R).run C hp=some (r,rd)):yX P A (Oper.mk dst (.call (Go.Call.mk (.value (.func f)) args argTypes)) ty pos after guard) a w I β hp B M w0 r:=by
 cases ha:args.toList with
 | nil=>rw[ha] at h;cases h
 | cons x l=>
  rw[ha] at h
  cases l with
  | cons _ _=>cases h
  | nil=>
   simp only at h
   have e1:args= #[x]:=by rw[←Array.toArray_toList (xs:=args),ha]
   subst e1
   have hx:=hs.ev hg ty x
   obtain ⟨ar,h⟩:=aK h
   have fin: ∀{w1:World} {Dg:Nat→Option Nat},(∀id blk,hp id=some blk→dC P w1 I Dg hp (Dg id) blk)→ao P w1 I Dg hp (a.eval x) (aQ P A.aG ty sl x)→∃xs,(((∃a',a.eval x= .slice a' 0 0)∧xs=[])∨∃a' c news,Row P w1 I e (a.eval x) xs a' c news)∧
     xs.length*P.bytesOf e≤dN∧hp nb=none∧r=⟨.whole e nb,[(nb,.arr e xs false)]⟩:=by
    intro w1 Dg h1 U
    obtain ⟨xs,kz,l,h⟩:=CL h1 ar U h
    obtain ⟨dU,h⟩:=aK h
    rw[eR] at dU
    obtain ⟨hn,rfl⟩:=mc h
    exact ⟨xs,kz,dU,hn,rfl⟩
   obtain ⟨c1,t,hu,c2⟩:=hP.mS f e kA
   intro next Q vC
   unfold Oper.wp
   have e2:(execOp a.eval ⟨dst,.call ⟨.value (.func f),#[x],argTypes⟩,ty,pos,after,guard⟩).run P w= .ok (.enter f #[a.eval x]) w:=by
    have er:a.eval (.func f)= .func (.func f) #[] #[]:=rfl
    simpa[execOp,resolve,er,Deferred.ofValue,invoke] using c1 #[a.eval x] w
   rw[e2,Oper.upon_enter]
   refine c2 _ w _ (fun y7=> ?_) (fun b n c vh=> ?_) ?_
   ·obtain ⟨xs,kz,dU,hn,rfl⟩:=fin S.h.rel hx
    have fR:xs=[]:=by
     rcases kz with ⟨_,h⟩|⟨a,c,news,hr⟩
     ·exact h
     ·have:=hr.val.symm.trans y7
      cases this
    subst fR
    obtain ⟨a1,a2⟩:=Co S e hn
    exact vC _ w I _ a.defers a1 a2 (.dk (cI _ _ _) (cI _ _ _)) fun d hd=> .inl hd
   ·obtain ⟨m1,m2⟩:=Um (w':=w.alloc (.cells #[] e)) S (fun b hb=>heap_alloc_old w _ b hb) (by simp) ⟨rfl,rfl⟩
    obtain ⟨xs,kz,dU,hn,rfl⟩:=fin m2.h.rel (hx.mono m1)
    obtain ⟨v,w',β',a1,a2,a3,a4⟩:=Gx (ty:=t) (a0:=some ⟨w.heap.size,0,none⟩) m2 hu ar hn dU kz
    exact ⟨v,w',a1,vC v w' I β' a.defers (m1.trans a2) a3 a4 fun d hd=> .inl hd⟩
   ·obtain ⟨xs,kz,dU,hn,rfl⟩:=fin S.h.rel hx
    rcases kz with ⟨⟨b,h⟩,_⟩|⟨b,c,news,hr⟩
    ·rw[h]
     cases b with
     | none=>exact .inl rfl
     | some b=>exact .inr ⟨_,_,_,rfl⟩
    ·exact .inr ⟨_,_,_,hr.val⟩
theorem WL (hP:gF P A) (S:aH P w I β hp B M w0) (hg:fO P A.aG w I) {a:Act} {sl:Nat→V} (hs:jP P w I β hp a sl) {dst:Option Tmp} {ty T0:TypeId} {pos:String} {after:Array Edge} {guard:Option (Nat × Bool)} {f:FuncId}
  {args:Array Operand} {argTypes:Array TypeId} {r:R} {rd:List Nat} (y8:A.ext f=some T0)
  (h:((match args.toList with
   | [x]=>
    match aQ P A.aG ty sl x with
    | .ptr id i c=>Rd.get id fun
     | some (.var T cs)=> .aE (Nat.beq T T0&&(nP P T&&(Nat.beq cs.length (P.cellsOf T)&&(Nat.beq i 0&&Nat.beq c 0)))) (.ret ⟨.bh [],[(id,.var T (.undef::cs.tail))]⟩)
     | _=> .fail
    | _=> .fail
   | _=> .fail):Rd R).run C hp=some (r,rd)):yX P A (Oper.mk dst (.call (Go.Call.mk (.value (.func f)) args argTypes)) ty pos after guard) a w I β hp B M w0 r:=by
 cases ha:args.toList with
 | nil=>rw[ha] at h;cases h
 | cons x l=>
  rw[ha] at h
  cases l with
  | cons _ _=>cases h
  | nil=>
   simp only at h
   have e1:args= #[x]:=by rw[←Array.toArray_toList (xs:=args),ha]
   subst e1
   have hx:=hs.ev hg ty x
   cases eN:aQ P A.aG ty sl x<;>rw[eN] at h hx<;>simp only at h<;>first|(cases h;done)|skip
   rename_i id i c
   obtain ⟨l,h1⟩:=run_get h
   cases ab:hp id with
   | none=>rw[ab] at h1;cases h1
   | some blk=>
    rw[ab] at h1
    cases blk<;>simp only at h1<;>first|(cases h1;done)|skip
    rename_i T cs
    obtain ⟨U,h3⟩:=aK h1
    simp only[aM,aT] at U
    obtain ⟨rfl,bL,WM,rfl,rfl⟩:=U
    obtain rfl:=aP h3
    obtain ⟨b,hb,he⟩:=hx.gf ab (by simp)
    have hr:=S.h.rel id _ ab
    rw[hb] at hr
    cases hr with
    | @var _ b' Ca _ aC hh aW hI fR fD=>
     cases aC
     have sL:a.eval x= .pointer (some ⟨b,0,none⟩):=by rw[he];simp[ak.sz]
     obtain ⟨q1,q2⟩:=hP.ext f T y8 b Ca w hh (aW.trans WM) (fD bL)
     have h0:0<Ca.size:=by
      rcases fD bL with k|k<;>exact (gq.1 k).1
     have m9:(V.undef::cs.tail).length=cs.length:=by
      cases cs with
      | nil=>rw[aW] at h0;simp at h0
      | cons _ _=>rfl
     have rel: ∀(C':Array Value),(∀j,0<j→C'[j]? =Ca[j]?)→∀(j:Nat) v y,C'[j]? =some v→(V.undef::cs.tail)[j]? =some y→ao P w I β hp v y:=by
      intro C' vk j v y hj hy
      cases j with
      | zero=>simp at hy;subst hy;exact .undef
      | succ j=>
       rw[vk _ (by omega)] at hj
       refine fR (j+1) v y hj ?_
       cases cs with
       | nil=>rw[aW] at h0;simp at h0
       | cons _ _=>simpa using hy
     have fin: ∀w' C',(∀b',b'≠b→w'.heap[b']? =w.heap[b']?)→w'.heap[b]? =some (.cells C' T (0,0))→C'.size=Ca.size→w.heap.size≤w'.heap.size→w'.os=w.os∧w'.output=w.output→
       (∀j,0<j→C'[j]? =Ca[j]?)→(C'[0]? =some (.pointer none)∨C'[0]? =some (.pointer (some ⟨b,0,none⟩)))→
       Le P w I β hp w' I β (aL hp id (some (.var T (V.undef::cs.tail))))∧aH P w' I β (aL hp id (some (.var T (V.undef::cs.tail)))) B M w0:=by
      intro w' C' k1 k2 k3 k4 k5 k6 k7
      exact Cq (w':=w') (blk':= .var T (V.undef::cs.tail)) S ab (by simp) rfl hb hI (by simp) k1 (by rw[lX k2,lX hh,k3]) k4 k5 fun hle=>
       .var rfl k2 (by rw[k3,aW,m9]) hI (fun j v y hj hy=>(rel C' k6 j v y hj hy).mono hle) fun _=>k7
     intro next Q hn
     unfold Oper.wp
     have e2:(execOp a.eval ⟨dst,.call ⟨.value (.func f),#[x],argTypes⟩,ty,pos,after,guard⟩).run P w= .ok (.enter f #[.pointer (some ⟨b,0,none⟩)]) w:=by
      have er:a.eval (.func f)= .func (.func f) #[] #[]:=rfl
      simpa[execOp,resolve,er,Deferred.ofValue,invoke,sL] using q1
     rw[e2,Oper.upon_enter]
     refine q2.mono fun e w' yZ=> ?_
     obtain ⟨rfl,hw⟩:=yZ
     have Nd:Le P w I β hp w' I β (aL hp id (some (.var T (V.undef::cs.tail))))∧aH P w' I β (aL hp id (some (.var T (V.undef::cs.tail)))) B M w0:=by
      rcases hw with rfl|rfl
      ·exact fin w' Ca (fun _ _=>rfl) hh rfl (bQ _) ⟨rfl,rfl⟩ (fun _ _=>rfl) (fD bL)
      ·refine fin (w.setCell ⟨b,0,none⟩ (.pointer (some ⟨b,0,none⟩))) (Ca.setIfInBounds 0 (.pointer (some ⟨b,0,none⟩))) (fun b' bA=> ?_) ?_ (by simp) (by simp[World.setCell]) ⟨rfl,rfl⟩ (fun j hj=> ?_) (.inr ?_)
       ·simp only[World.setCell,xB]
        rw[ai (fun e=>bA e.symm)]
       ·simp[World.setCell,xB,hh]
       ·rw[BA (by omega)]
       ·rw[Ft h0]
     exact hn (.tuple #[]) w' I β a.defers Nd.1 Nd.2 (.bh rfl fun j v y hj _=>by simp at hj) fun d hd=> .inl hd
theorem WN (hC:jW P A C) (hP:gF P A) (S:aH P w I β hp B M w0) (hg:fO P A.aG w I) {a:Act} {sl:Nat→V} (hs:jP P w I β hp a sl) {ix nb:Nat} {o:Oper} {r:R} {rd:List Nat}
  (h:(eU P A sl ix nb o).run C hp=some (r,rd)):yX P A o a w I β hp B M w0 r:=by
 cases hc:GX o.op with
 | false=>exact (Wc S hg hs hc h).step
 | true=>
  obtain ⟨dst,op,ty,pos,after,guard⟩:=o
  cases op<;>simp only[GX] at hc<;>first|(cases hc;done)|skip
  case defer c=>
   obtain ⟨callee,args,argTypes⟩:=c
   cases callee with
   | invoke r m=>simp only[eU] at h;cases h
   | builtin b=>simp only[eU] at h;cases h
   | value f=>
   cases f with
   | tmp t=>
    simp only[eU] at h
    cases bL:sl t<;>rw[bL] at h<;>simp only at h<;>first|(cases h;done)|skip
    rename_i f xs ys
    obtain ⟨h1,U⟩:=aK h
    obtain rfl:=aP U
    have hv:=hs t
    rw[bL] at hv
    generalize sP:a.tmps.getD t undef=vt at hv
    cases hv with
    | @fn _ fs cs _ _ q1 q2 q3 q4=>
     intro next Q hn
     unfold Oper.wp
     have er:a.eval (.tmp t)= .func (.func f) fs cs:=sP
     have e1:(execOp a.eval ⟨dst,.defer ⟨.value (.tmp t),args,argTypes⟩,ty,pos,after,guard⟩).run P w= .ok (.defer {target:= .fn (.func f) cs,args:=fs++args.map a.eval}) w:=by
      simp[execOp,resolve,er,Deferred.ofValue]
     rw[e1,Oper.upon_defer]
     exact hn undef w I β _ (Le.refl w I β hp) S .undef fun d hd=>by
      rcases eH.1 hd with rfl|hd
      ·exact .inr ⟨f,cs,rfl,h1⟩
      ·exact .inl hd
   | func f=>simp only[eU] at h;cases h
   | const _=>simp only[eU] at h;cases h
   | global _=>simp only[eU] at h;cases h
  rename_i c
  obtain ⟨callee,args,argTypes⟩:=c
  cases callee with
  | invoke r m=>cases hc
  | builtin b=>cases hc
  | value f=>
   cases f with
   | func f=>
    simp only[eU] at h
    cases y8:A.ext f with
    | some T0=>
     rw[y8] at h
     simp only at h
     exact WL hP S hg hs y8 h
    | none=>
    rw[y8] at h
    simp only at h
    cases kA:A.mS f with
    | some e0=>
     rw[kA] at h
     simp only at h
     exact WK hP S hg hs kA h
    | none=>
    rw[kA] at h
    simp only at h
    obtain ⟨h1,U⟩:=aK h
    rw[aT] at h1
    obtain ⟨k1,k2⟩:=hs.args hg h1
    refine Na hC hP S hg k1 k2 U ?_
    have e1:(args.map a.eval).toList.toArray=args.map a.eval:=Array.toArray_toList
    rw[e1]
    simp[execOp,resolve,Act.eval,Deferred.ofValue,invoke]
   | tmp t=>
    simp only[eU] at h
    cases bL:sl t<;>rw[bL] at h<;>simp only at h<;>first|(cases h;done)|skip
    rename_i f xs ys
    obtain ⟨h1,U⟩:=aK h
    rw[aT] at h1
    obtain ⟨k1,k2⟩:=hs.args hg h1
    have hv:=hs t
    rw[bL] at hv
    generalize sP:a.tmps.getD t undef=vt at hv
    cases hv with
    | @fn _ fs cs _ _ q1 q2 q3 q4=>
     have l1:fs.toList.length=xs.length:=by simpa using q1
     have l3:cs.toList.length=ys.length:=by simpa using q3
     have r1: ∀(j:Nat) v x,fs.toList[j]? =some v→xs[j]? =some x→ao P w I β hp v x:=fun j v x hj hx=>q2 j v x (by simpa using hj) hx
     have r3: ∀(j:Nat) v x,cs.toList[j]? =some v→ys[j]? =some x→ao P w I β hp v x:=fun j v x hj hx=>q4 j v x (by simpa using hj) hx
     refine Na hC hP S hg (vals:=fs.toList++(args.map a.eval).toList++cs.toList) (args:=xs++((args.toList.zip argTypes.toList).map fun p=>aQ P A.aG p.2 sl p.1)++ys) (by simp only[dM];omega) ?_ U ?_
     ·exact Nc (by simp only[dM];omega) (Nc l1 r1 k2) r3
     ·have e1:(fs.toList++(args.map a.eval).toList++cs.toList).toArray=fs++args.map a.eval++cs:=by
       apply Array.toList_inj.1;simp
      rw[e1]
      have er:a.eval (.tmp t)= .func (.func f) fs cs:=sP
      simp[execOp,resolve,er,Deferred.ofValue,invoke]
   | _=>cases hc
end
section
variable {P:Program} {A:cl} {w w':World} {I I' I2:Nat→Prop} {μ β β':Nat→Option Nat} {hp hp':Nat→Option ak} {C:af} {B:Nat} {M:Nat→Prop} {w0:Start}
structure gX (P:Program) (E:FuncId→Bool) (G:Nat→V) (w:World) (I:Nat→Prop) (β:Nat→Option Nat) (n:Nat) (a:Act) (st:St):Prop where
 sl:jP P w I β st.hp a st.sl
 size:a.tmps.size=n
 defers: ∀d∈a.defers,yW E d
 aG:fO P G w I
theorem Hh {E:FuncId→Bool} {G:Nat→V} {n:Nat} {a:Act} {st:St} {o:Oper} {v:Value} {x:V} {hp':Nat→Option ak} {ds:List Deferred} (h:gX P E G w I β n a st) (hle:Le P w I β st.hp w' I' β' hp') (hd:qM o n=true)
  (hv:ao P w' I' β' hp' v x) (j7: ∀d∈ds,d∈a.defers∨yW E d):gX P E G w' I' β' n ({a with defers:=ds}.put o.dst v) ⟨gu st.sl o.dst x,hp',st.nb⟩:=by
 have Nf: ∀d∈ds,yW E d:=fun d hd=>(j7 d hd).elim (h.defers d) id
 cases WO:o.dst with
 | none=>exact ⟨fun k=>(h.sl k).mono hle,h.size,Nf,h.aG.mono hle.cW hle.b7⟩
 | some d=>
  have aR:d<a.tmps.size:=by
   unfold qM at hd
   rw[WO] at hd
   rw[h.size]
   simpa using hd
  refine ⟨fun k=> ?_,by simp[Act.put,h.size],Nf,h.aG.mono hle.cW hle.b7⟩
  simp only[Act.put,gu,aL]
  cases hb:Nat.beq k d with
  | true=>
   rw[aT] at hb
   subst hb
   simpa[aR] using hv
  | false=>
   have bA:d≠k:=fun e=>by rw[e,iC] at hb;cases hb
   have:=(h.sl k).mono hle
   simpa[BA bA] using this
theorem Ng {E:FuncId→Bool} {G:Nat→V} {n:Nat} {a:Act} {st:St} {d:Nat} {b:Bool} (h:gX P E G w I β n a st) (hd:st.sl d= .bool b):a.tmps[d]? =some (.bool b):=by
 have:=h.sl d
 rw[hd] at this
 have:=this.jq
 cases ht:a.tmps[d]? with
 | none=>simp[ht] at this;cases this
 | some v=>simp[ht] at this;rw[this]
theorem WQ {x:V} {b:Bool} (h:kg x=some (some b)):x= .bool b:=by
 cases x with
 | bool c=>simp only[kg] at h;injection h with h;injection h with h;rw[h]
 | bh vs=>cases vs<;>simp[kg] at h
 | _=>simp[kg] at h
theorem WR {x:V} (h:kg x=some none):x= .bh []:=by
 cases x with
 | bh vs=>cases vs with
  | nil=>rfl
  | cons _ _=>simp[kg] at h
 | bool c=>simp[kg] at h
 | _=>simp[kg] at h
theorem ao.WS {v:Value} (h:ao P w I β hp v (.bh [])):v= .tuple #[]:=by
 cases h with
 | @bh cs _ hs _=>
  have:cs= #[]:=by
   apply Array.eq_empty_of_size_eq_zero
   simpa using hs
  rw[this]
theorem ao.Nh:ao P w I β hp Go.undef (.bh []):= .bh (by rfl) (fun j v x _ hx=>by simp at hx)
theorem Ni (hC:jW P A C) (hP:gF P A) {ops:Array Oper} {n i nb:Nat} {o:Oper} (ho:ops[i]? =some o) {a:Act} {st st':St} {R W:List Nat} (S:aH P w I β st.hp B M w0) (hA:gX P A.idle A.aG w I β n a st)
  (h:fZ P A C n ops i o nb st=some (st',R,W)) {K:Act→World→Prop} {Q:Exit→Act→World→Prop}
  (hK: ∀a' w' I' β',Le P w I β st.hp w' I' β' st'.hp→aH P w' I' β' st'.hp B M w0→gX P A.idle A.aG w' I' β' n a' st'→K a' w'):wpOp P ops Q i K a w:=by
 unfold fZ at h
 cases hd:qM o n with
 | false=>rw[hd] at h;cases h
 | true=>
  rw[hd] at h
  simp only[cond_true] at h
  have go: ∀{Hi:St} {R W:List Nat},(((eU P A st.sl i (nb+64*i) o).run C st.hp).bind fun r=>some ((⟨gu st.sl o.dst r.1.v,bE st.hp r.1.upd,st.nb⟩:St),pq r.2 r.1.upd,fg st.hp r.1.upd))=some (Hi,R,W)→Hi=st'→
    o.wp P a w K Q:=by
   intro Hi R W h e
   obtain ⟨⟨r,rd⟩,h1,U⟩:=bind_some h
   cases U
   subst e
   exact WN hC hP S hA.aG hA.sl h1 K Q fun v w' I' β' ds k1 k2 k3 k4=>hK _ w' I' β' k1 k2 (Hh hA k1 hd k3 k4)
  unfold wpOp
  rw[ho]
  simp only
  cases hg:o.guard with
  | none=>
   rw[hg] at h
   simp only[Region.wanted,hg,cP]
   exact .inl (go h rfl)
  | some gw=>
   obtain ⟨g,want⟩:=gw
   rw[hg] at h
   simp only at h
   cases kD:(ops[g]?).bind (·.dst) with
   | none=>rw[kD] at h;cases h
   | some d=>
    rw[kD] at h
    simp only at h
    cases ll:kg (st.sl d) with
    | none=>rw[ll] at h;cases h
    | some ob=>
    rw[ll] at h
    cases ob with
    | none=>
     have vh:=WR ll
     have hy:yielded ops a.tmps g=none:=by
      unfold yielded
      rw[kD]
      have:=hA.sl d
      rw[vh] at this
      have hu:=ao.WS this
      simp only[Option.bind_some]
      cases ht:a.tmps[d]? with
      | none=>rfl
      | some v=>simp[ht] at hu;subst hu;rfl
     simp only[Region.wanted,hg,hy]
     injection h with h
     injection h with h3 h4
     subst h3
     have U:((none:Option Bool)==some want)=false:=rfl
     simp only[U,Bool.false_eq_true,fa]
     exact hK _ w I β (Le.refl w I β st.hp) S (Hh (ds:=a.defers) hA (Le.refl w I β st.hp) hd ao.Nh fun d h=> .inl h)
    | some b=>
    simp only at h
    have vh:=WQ ll
    have hy:yielded ops a.tmps g=some b:=by
     unfold yielded
     rw[kD]
     simp only[Option.bind_some,Ng hA vh]
    simp only[Region.wanted,hg,hy]
    by_cases hb:b=want
    ·subst hb
     simp only[beq_self_eq_true,cond_true] at h
     simp only[beq_self_eq_true,cP]
     exact .inl (go h rfl)
    ·have h1:(b==want)=false:=by simp[hb]
     have U:(some b==some want)=false:=by simp[hb]
     rw[h1] at h
     simp only[cond_false] at h
     injection h with h
     injection h with h3 h4
     subst h3
     simp only[U,Bool.false_eq_true,fa]
     exact hK _ w I β (Le.refl w I β st.hp) S (Hh (ds:=a.defers) hA (Le.refl w I β st.hp) hd ao.Nh fun d h=> .inl h)
def sY (hp hp':Nat→Option ak) (c:Nat):Prop:=hp' c=hp c∧(KB≤c→fA (hp' (c-KB))=fA (hp (c-KB)))
theorem sY.symm {c:Nat} (h:sY hp hp' c):sY hp' hp c:=⟨h.1.symm,fun hc=>(h.2 hc).symm⟩
theorem ri {α:Type}: ∀{p:Rd α} {r:α} {rd:List Nat},p.run C hp=some (r,rd)→(∀id∈rd,sY hp hp' id)→p.run C hp'=some (r,rd)
 | .ret a,r,rd,h,_=>h
 | .fail,r,rd,h,_=>by cases h
 | .get id k,r,rd,h,he=>by
  obtain ⟨x,h1,U⟩:=bind_some h
  cases U
  have e1:hp' id=hp id:=(he id (by simp)).1
  have:=ri (p:=k (hp id)) (r:=x.1) (rd:=x.2) h1 (fun i hi=>he i (by simp[hi]))
  simp only[Rd.run,e1,this,Option.bind_some]
 | .live id ok k,r,rd,h,he=>by
  simp only[Rd.run] at h⊢
  cases hk:ok (fA (hp id)) with
  | false=>rw[hk] at h;cases h
  | true=>
   rw[hk] at h
   obtain ⟨x,h1,U⟩:=bind_some h
   cases U
   have e1:fA (hp' id)=fA (hp id):=by
    have:=(he (id+KB) (by simp)).2 (Nat.le_add_left _ _)
    rwa [uE] at this
   have:=ri (p:=k) (r:=x.1) (rd:=x.2) h1 (fun i hi=>he i (by simp[hi]))
   rw[e1,hk,this]
   rfl
 | .opt o k,r,rd,h,he=>by
  obtain ⟨x,h1,U⟩:=bind_some h
  simp only[Rd.run,h1,Option.bind_some]
  exact ri U he
 | .aE b k,r,rd,h,he=>by
  obtain ⟨h1,U⟩:=aK h
  simp only[Rd.run,h1,cond_true]
  exact ri U he
 | .call key ds k,r,rd,h,he=>by
  obtain ⟨x,h1,U⟩:=bind_some h
  simp only[Rd.run,h1,Option.bind_some]
  exact ri U he
 | .alt true x y,r,rd,h,he=>ri (p:=x) h he
 | .alt false x y,r,rd,h,he=>ri (p:=y) h he
theorem WU {G:Nat→V} {sl sl':Nat→V} {t:TypeId} {x:Operand} (h: ∀k,x= .tmp k→sl k=sl' k):aQ P G t sl x=aQ P G t sl' x:=by
 cases x with
 | tmp k=>exact h k rfl
 | _=>rfl
theorem WV {sl sl':Nat→V} {ix nb:Nat} {o:Oper} (h: ∀x∈o.op.operands,∀k,x= .tmp k→sl k=sl' k):eU P A sl ix nb o=eU P A sl' ix nb o:=by
 have er: ∀t x,x∈o.op.operands→aQ P A.aG t sl x=aQ P A.aG t sl' x:=fun t x hx=>WU (h x hx)
 obtain ⟨dst,op,ty,pos,after,guard⟩:=o
 have Nj: ∀(t:TypeId) (ps:Array (Nat × Operand)),(∀x∈ps.map (·.2),aQ P A.aG t sl x=aQ P A.aG t sl' x)→
   (ps.toList.map fun p=>(p.1,aQ P A.aG t sl p.2))=ps.toList.map fun p=>(p.1,aQ P A.aG t sl' p.2):=fun t ps hp=>
  mR fun p hm=>by rw[hp p.2 (Array.mem_map.2 ⟨p,nK.1 hm,rfl⟩)]
 have WW: ∀(t:TypeId) (ps:Array (Nat × Operand)),(∀x∈ps.map (·.2),aQ P A.aG t sl x=aQ P A.aG t sl' x)→
   (ps.toList.map fun p=>(aQ P A.aG t sl p.2).cells)=ps.toList.map fun p=>(aQ P A.aG t sl' p.2).cells:=fun t ps hp=>
  mR fun p hm=>by rw[hp p.2 (Array.mem_map.2 ⟨p,nK.1 hm,rfl⟩)]
 cases op<;>simp only[Op.operands] at er<;>simp only[eU]
 case pick c x y=>rw[er ty c (by simp),er ty x (by simp),er ty y (by simp)]
 case build t ps=>rw[Nj ty ps fun x hx=>er ty x (by simpa using hx),WW ty ps fun x hx=>er ty x (by simpa using hx)]
 case buildSlice t len ps=>
  split
  ·rename_i e _
   rw[Nj e ps fun x hx=>er e x (by simpa using hx)]
  ·rfl
 case slice t x lo hi mx=>
  cases mx with
  | some m=>
   have e1:lo.map (aQ P A.aG 0 sl)=lo.map (aQ P A.aG 0 sl'):=by
    cases lo with
    | none=>rfl
    | some l=>simp only[Option.map_some,er 0 l (by simp)]
   have e2:hi.map (aQ P A.aG 0 sl)=hi.map (aQ P A.aG 0 sl'):=by
    cases hi with
    | none=>rfl
    | some l=>simp only[Option.map_some,er 0 l (by simp)]
   have e3:=er 0 m (by simp)
   simp only[er ty x (by simp),e1,e2,e3]
  | none=>
   have e1:lo.map (aQ P A.aG 0 sl)=lo.map (aQ P A.aG 0 sl'):=by
    cases lo with
    | none=>rfl
    | some l=>simp only[Option.map_some,er 0 l (by simp)]
   have e2:hi.map (aQ P A.aG 0 sl)=hi.map (aQ P A.aG 0 sl'):=by
    cases hi with
    | none=>rfl
    | some l=>simp only[Option.map_some,er 0 l (by simp)]
   simp only[er ty x (by simp),e1,e2]
 case call c=>
  obtain ⟨callee,args,argTypes⟩:=c
  have sZ: ∀t x,x∈args→aQ P A.aG t sl x=aQ P A.aG t sl' x:=fun t x hx=>er t x (by simp[Call.operands,hx])
  have hl: ∀t (l:List Operand),(∀x∈l,x∈args)→l.map (aQ P A.aG t sl)=l.map (aQ P A.aG t sl'):=fun t l hl=>mR fun x hx=>sZ t x (hl x hx)
  have hz:((args.toList.zip argTypes.toList).map fun p=>aQ P A.aG p.2 sl p.1)=(args.toList.zip argTypes.toList).map fun p=>aQ P A.aG p.2 sl' p.1:=
   mR fun p hp=>sZ p.2 p.1 (nK.1 (List.of_mem_zip hp).1)
  cases callee with
  | invoke r m=>rfl
  | builtin b=>
   have b9: ∀x∈args.toList,∀t,aQ P A.aG t sl x=aQ P A.aG t sl' x:=fun x hx t=>sZ t x (nK.1 hx)
   have Hj: ∀t (l:List Operand),(∀x∈l,∀t,aQ P A.aG t sl x=aQ P A.aG t sl' x)→l.map (aQ P A.aG t sl)=l.map (aQ P A.aG t sl'):=fun t l h=>mR fun x hx=>h x hx t
   cases b<;>first|rfl|skip
   case append=>
    dsimp only
    generalize args.toList=al at b9
    match al,b9,argTypes.toList with
    | [s,x],b9,[t,u]=>simp only[b9 s (by simp),b9 x (by simp)]
    | [],_,_=>rfl
    | [_],_,_=>rfl
    | _::_::_::_,_,_=>rfl
    | [_,_],_,[]=>rfl
    | [_,_],_,[_]=>rfl
    | [_,_],_,_::_::_::_=>rfl
   case copy=>
    dsimp only
    generalize args.toList=al at b9
    match al,b9,argTypes.toList with
    | [s,x],b9,[t,u]=>simp only[b9 s (by simp),b9 x (by simp)]
    | [],_,_=>rfl
    | [_],_,_=>rfl
    | _::_::_::_,_,_=>rfl
    | [_,_],_,[]=>rfl
    | [_,_],_,[_]=>rfl
    | [_,_],_,_::_::_::_=>rfl
   case len=>
    dsimp only
    generalize args.toList=al at b9
    match al,b9,argTypes.toList with
    | [x],b9,[t]=>simp only[b9 x (by simp)]
    | [],_,_=>rfl
    | _::_::_,_,_=>rfl
    | [_],_,[]=>rfl
    | [_],_,_::_::_=>rfl
   case clear=>
    dsimp only
    generalize args.toList=al at b9
    match al,b9,argTypes.toList with
    | [x],b9,[t]=>simp only[b9 x (by simp)]
    | [],_,_=>rfl
    | _::_::_,_,_=>rfl
    | [_],_,[]=>rfl
    | [_],_,_::_::_=>rfl
   case unsafeSliceData=>
    dsimp only
    generalize args.toList=al at b9
    match al,b9 with
    | [],_=>rfl
    | [x],b9=>simp only[b9 x (by simp)]
    | _::_::_,_=>rfl
   case unsafeString=>
    dsimp only
    generalize args.toList=al at b9
    match al,b9,argTypes.toList with
    | [s,x],b9,[t,u]=>simp only[b9 s (by simp),b9 x (by simp)]
    | [],_,_=>rfl
    | [_],_,_=>rfl
    | _::_::_::_,_,_=>rfl
    | [_,_],_,[]=>rfl
    | [_,_],_,[_]=>rfl
    | [_,_],_,_::_::_::_=>rfl
   case max=>
    dsimp only
    generalize args.toList=al at b9
    match al,b9 with
    | [],_=>rfl
    | x::l,b9=>simp only[b9 x (by simp),Hj ty l (fun y hy=>b9 y (by simp[hy]))]
   case min=>
    dsimp only
    generalize args.toList=al at b9
    match al,b9 with
    | [],_=>rfl
    | x::l,b9=>simp only[b9 x (by simp),Hj ty l (fun y hy=>b9 y (by simp[hy]))]
  | value f=>
   cases f<;>first|rfl|skip
   ·rename_i t
    have ht:sl t=sl' t:=h (.tmp t) (by simp[Op.operands,Call.operands]) t rfl
    simp only[hz,ht]
   ·simp only[hz]
    cases hx:args.toList with
    | nil=>rfl
    | cons x l=>
     cases l with
     | cons _ _=>rfl
     | nil=>simp only[sZ ty x (nK.1 (by rw[hx];simp))]
 case defer c=>
  obtain ⟨callee,args,argTypes⟩:=c
  cases callee with
  | invoke r m=>rfl
  | builtin b=>rfl
  | value f=>
   cases f<;>first|rfl|skip
   rename_i t
   have ht:sl t=sl' t:=h (.tmp t) (by simp[Op.operands,Call.operands]) t rfl
   simp only[ht]
 case makeFunc fn a b=>
  cases fn<;>first|rfl|skip
  have e1:a.toList.map (aQ P A.aG ty sl)=a.toList.map (aQ P A.aG ty sl'):=mR fun x hx=>er ty x (by simp[nK.1 hx])
  have e2:b.toList.map (aQ P A.aG ty sl)=b.toList.map (aQ P A.aG ty sl'):=mR fun x hx=>er ty x (by simp[nK.1 hx])
  dsimp only
  rw[e1,e2]
 case makeMap t r=>cases r<;>rfl
 all_goals first
  | rfl
  | (simp[er];done)
end
section
variable {P:Program} {A:cl} {w w':World} {I I' I2:Nat→Prop} {μ β β':Nat→Option Nat} {hp hp':Nat→Option ak} {C:af} {B:Nat} {M:Nat→Prop} {w0:Start}
theorem Hk {q:Nat × ak} {upd:List (Nat × ak)} (h:q∈upd):q.1∈fg hp upd:=by
 unfold fg
 rw[List.mem_flatMap]
 refine ⟨q,h,?_⟩
 cases Nat.beq (fA (hp q.1)) (fA (some q.2))<;>simp
theorem WX {upd:List (Nat × ak)} (h: ∀q∈upd,fA (hp' q.1)=fA (hp q.1)):fg hp' upd=fg hp upd:=by
 unfold fg
 induction upd with
 | nil=>rfl
 | cons q l ih=>
  rw[o8,o8,ih fun x hx=>h x (j9 _ hx),h q (by simp)]
theorem Nk {c:Nat}: ∀{upd:List (Nat × ak)},c∉fg hp upd→sY hp (bE hp upd) c:=fun {upd} h=>by
 refine ⟨vA fun q hq e=>h (e▸Hk hq),fun hc=> ?_⟩
 induction upd with
 | nil=>rfl
 | cons q l ih=>
  have hl:c∉fg hp l:=fun hx=>h (by unfold fg at*;rw[o8];exact List.mem_append_right _ hx)
  have hq:fA (hp q.1)=fA (some q.2)∨c≠q.1+KB:=by
   cases hb:Nat.beq (fA (hp q.1)) (fA (some q.2)) with
   | true=>exact .inl (xu hb)
   | false=>
    refine .inr fun e=>h ?_
    unfold fg
    rw[o8,hb,e]
    simp
  show fA (aL (bE hp l) q.1 (some q.2) (c-KB))=_
  simp only[aL]
  cases hb:Nat.beq (c-KB) q.1 with
  | false=>exact ih hl
  | true=>
   have e:=xu hb
   rcases hq with hq|hq
   ·rw[cond_true,e];exact hq.symm
   ·exact absurd (by omega) hq
theorem Nl {n i nb:Nat} {ops:Array Oper} {o:Oper} {st st':St} {R W:List Nat} (h:fZ P A C n ops i o nb st=some (st',R,W)):
  ∃x upd,st'=⟨gu st.sl o.dst x,bE st.hp upd,st.nb⟩∧W=fg st.hp upd∧∀dF:St,(∀d∈o.looksAt ops,dF.sl d=st.sl d)→(∀id∈R,sY st.hp dF.hp id)→
   fZ P A C n ops i o nb dF=some (⟨gu dF.sl o.dst x,bE dF.hp upd,dF.nb⟩,R,W)∧W=fg dF.hp upd:=by
 unfold fZ at h
 cases hd:qM o n with
 | false=>rw[hd] at h;cases h
 | true=>
  rw[hd] at h
  simp only[cond_true] at h
  have go:(((eU P A st.sl i (nb+64*i) o).run C st.hp).bind fun r=>some ((⟨gu st.sl o.dst r.1.v,bE st.hp r.1.upd,st.nb⟩:St),pq r.2 r.1.upd,fg st.hp r.1.upd))=some (st',R,W)→
    ∃x upd,st'=⟨gu st.sl o.dst x,bE st.hp upd,st.nb⟩∧W=fg st.hp upd∧∀dF:St,(∀d∈o.looksAt ops,dF.sl d=st.sl d)→(∀id∈R,sY st.hp dF.hp id)→
     (((eU P A dF.sl i (nb+64*i) o).run C dF.hp).bind fun r=>some ((⟨gu dF.sl o.dst r.1.v,bE dF.hp r.1.upd,dF.nb⟩:St),pq r.2 r.1.upd,fg dF.hp r.1.upd))=some (⟨gu dF.sl o.dst x,bE dF.hp upd,dF.nb⟩,R,W)∧W=fg dF.hp upd:=by
   intro h
   obtain ⟨⟨r,rd⟩,h1,U⟩:=bind_some h
   cases U
   refine ⟨r.v,r.upd,rfl,rfl,fun dF hs hh=> ?_⟩
   have hw:fg dF.hp r.upd=fg st.hp r.upd:=WX fun q hq=>by
    have:=(hh (q.1+KB) (List.mem_append_right _ (ib.2 ⟨q,hq,rfl⟩))).2 (Nat.le_add_left _ _)
    rwa [uE] at this
   rw[WV (sl':=st.sl) fun x hx k hk=> ?_,ri h1 fun c hc=>hh c (List.mem_append_left _ hc)]
   ·refine ⟨?_,hw.symm⟩
    rw[Option.bind_some,hw]
   ·subst hk
    exact hs k (List.mem_append_left _ (List.mem_filterMap.2 ⟨.tmp k,by simpa using hx,rfl⟩))
  cases hg:o.guard with
  | none=>
   rw[hg] at h
   obtain ⟨x,upd,e1,e2,e3⟩:=go h
   refine ⟨x,upd,e1,e2,fun dF hs hh=> ?_⟩
   unfold fZ
   simp only[hd,cond_true,hg]
   exact e3 dF hs hh
  | some gw=>
   obtain ⟨g,want⟩:=gw
   rw[hg] at h
   simp only at h
   cases kD:(ops[g]?).bind (·.dst) with
   | none=>rw[kD] at h;cases h
   | some d=>
    rw[kD] at h
    simp only at h
    have Hl:d∈o.looksAt ops:=List.mem_append_right _ (by rw[hg];simp[kD])
    cases ll:kg (st.sl d) with
    | none=>rw[ll] at h;cases h
    | some ob=>
    rw[ll] at h
    cases ob with
    | none=>
     injection h with h
     injection h with h3 h4
     injection h4 with h5 h6
     subst h5;subst h6
     refine ⟨.bh [],[],h3.symm,rfl,fun dF hs hh=> ?_⟩
     unfold fZ
     simp only[hd,cond_true,hg,kD,hs d Hl,ll]
     exact ⟨rfl,rfl⟩
    | some b=>
    simp only at h
    cases hb:b==want with
    | true=>
     rw[hb] at h
     obtain ⟨x,upd,e1,e2,e3⟩:=go h
     refine ⟨x,upd,e1,e2,fun dF hs hh=> ?_⟩
     unfold fZ
     simp only[hd,cond_true,hg,kD,hs d Hl,ll,hb]
     exact e3 dF hs hh
    | false=>
     rw[hb] at h
     simp only[cond_false] at h
     injection h with h
     injection h with h3 h4
     injection h4 with h5 h6
     subst h5;subst h6
     refine ⟨.bh [],[],h3.symm,rfl,fun dF hs hh=> ?_⟩
     unfold fZ
     simp only[hd,cond_true,hg,kD,hs d Hl,ll,hb,cond_false]
     exact ⟨rfl,rfl⟩
theorem Nn {sl:Nat→V} {d:Option Nat} {x:V} {k:Nat} (h:d≠some k):gu sl d x k=sl k:=by
 cases d with
 | none=>rfl
 | some d=>exact dK _ _ fun e=>h (by rw[e])
theorem WY {hp:Nat→Option ak} {a b:List (Nat × ak)} (h: ∀q∈a,∀q'∈b,q.1≠q'.1):bE (bE hp a) b=bE (bE hp b) a:=by
 funext id
 by_cases ha: ∃q∈a,q.1=id
 ·have hb: ∀q∈b,q.1≠id:=by
   obtain ⟨q,hq,rfl⟩:=ha
   exact fun q' y5 e=>h q hq q' y5 e.symm
  rw[vA hb]
  obtain ⟨q,hq,rfl⟩:=ha
  have same: ∀(bm gb:Nat→Option ak) (l:List (Nat × ak)) (q:Nat × ak),q∈l→bE bm l q.1=bE gb l q.1:=by
   intro bm gb l
   induction l with
   | nil=>intro q hq;simp at hq
   | cons p l ih=>
    intro q hq
    simp only[bE,aL]
    cases hb:Nat.beq q.1 p.1 with
    | true=>rfl
    | false=>
     simp only[cond_false]
     refine ih q ((eH.1 hq).resolve_left fun e=> ?_)
     rw[e,iC] at hb;cases hb
  exact same _ _ a q hq
 ·rw[vA (hp:=bE hp b) (l:=a) fun q hq e=>ha ⟨q,hq,e⟩]
  have same: ∀(bm gb:Nat→Option ak) (l:List (Nat × ak)),bm id=gb id→bE bm l id=bE gb l id:=by
   intro bm gb l he
   induction l with
   | nil=>exact he
   | cons p l ih=>
    simp only[bE,aL]
    cases hb:Nat.beq id p.1 with
    | true=>rfl
    | false=>exact ih
  exact same _ _ b (vA fun q hq e=>ha ⟨q,hq,e⟩)
structure No (ops:Array Oper) (o1 o2:Oper) (R1 W1 R2 W2:List Nat):Prop where
 apart:Oper.apart ops o1 o2=true
 w: ∀id∈W1,id∉R2∧id∉W2
 r: ∀id∈R1,id∉W2
theorem WZ {n i j nb:Nat} {ops:Array Oper} {o1 o2:Oper} {st gY dF:St} {R1 W1 R2 W2:List Nat} (h1:fZ P A C n ops i o1 nb st=some (gY,R1,W1)) (U:fZ P A C n ops j o2 nb gY=some (dF,R2,W2))
  (hi:No ops o1 o2 R1 W1 R2 W2): ∃Dh,fZ P A C n ops j o2 nb st=some (Dh,R2,W2)∧fZ P A C n ops i o1 nb Dh=some (dF,R1,W1):=by
 obtain ⟨x1,u1,e1,f1,g1⟩:=Nl h1
 obtain ⟨x2,u2,e2,f2,g2⟩:=Nl U
 obtain ⟨a1,a2,a3⟩:=Oper.apart_spec hi.apart
 subst e1
 have k2:=g2 st (fun d hd=>by simp only;rw[Nn fun e=>a1 d e hd]) fun c hc=>(Nk fun hw=>(hi.w c (by rw[f1];exact hw)).1 hc).symm
 refine ⟨_,k2.1,?_⟩
 rw[(g1 _ (fun d hd=> ?_) (fun c hd=> ?_)).1,e2]
 ·congr 3
  ·funext k
   cases Di:o1.dst with
   | none=>rfl
   | some d1=>
    cases gR:o2.dst with
    | none=>rfl
    | some d2=>
     have bA:d2≠d1:=fun e=>a2 d1 Di (by rw[gR,e])
     simp only[gu,aL]
     cases vD:Nat.beq k d1<;>cases oo:Nat.beq k d2<;>simp only[cond_true,cond_false]
     rw[aT] at vD oo
     exact absurd (oo.symm.trans vD) bA
  ·exact (WY fun q hq q' y5 e=>(hi.w q.1 (by rw[f1];exact Hk hq)).2 (by rw[f2,e];exact Hk y5)).symm
 ·simp only
  rw[Nn fun e=>a3 d e hd]
 ·exact Nk fun hw=>hi.r c hd (by rw[k2.2];exact hw)
def vE (P:Program) (A:cl) (C:af) (n:Nat) (ops:Array Oper) (nb:Nat):List (Nat × Oper × List Nat × List Nat)→St→St→Prop
 | [],st,st'=>st=st'
 | (i,o,R,W)::l,st,st'=> ∃gY,fZ P A C n ops i o nb st=some (gY,R,W)∧vE P A C n ops nb l gY st'
def s4 (x:Nat × Oper × List Nat × List Nat):Nat × List Nat × List Nat:=(x.1,x.2.2.1,x.2.2.2)
theorem Np {n nb:Nat} {ops:Array Oper}: ∀{l:List (Nat × Oper)} {st st':St} {log Dj:Log},nV P A C n ops nb l st log=some (st',Dj)→
  ∃g,g.map (fun x=>(x.1,x.2.1))=l∧Dj=log++g.map s4∧vE P A C n ops nb g st st'
 | [],st,st',log,Dj,h=>by
  cases h
  exact ⟨[],rfl,by simp,rfl⟩
 | (i,o)::l,st,st',log,Dj,h=>by
  obtain ⟨⟨gY,R,W⟩,h1,U⟩:=bind_some h
  obtain ⟨g,a,b,c⟩:=Np U
  exact ⟨(i,o,R,W)::g,by simp[a],by simp[b,s4],gY,h1,c⟩
def Nq (ops:Array Oper) (x y:Nat × Oper × List Nat × List Nat):Prop:=No ops x.2.1 y.2.1 x.2.2.1 x.2.2.2 y.2.2.1 y.2.2.2
theorem Nr {n nb:Nat} {ops:Array Oper} {y:Nat × Oper × List Nat × List Nat} {g2:List (Nat × Oper × List Nat × List Nat)}: ∀{g1:List (Nat × Oper × List Nat × List Nat)} {st st':St},
  vE P A C n ops nb (g1++y::g2) st st'→(∀x∈g1,Nq ops x y)→∃gY,fZ P A C n ops y.1 y.2.1 nb st=some (gY,y.2.2.1,y.2.2.2)∧vE P A C n ops nb (g1++g2) gY st'
 | [],st,st',h,_=>h
 | x::g1,st,st',h,hi=>by
  obtain ⟨gY,h1,U⟩:=h
  obtain ⟨dF,h3,h4⟩:=Nr U fun z hz=>hi z (j9 _ hz)
  obtain ⟨Dh,h5,h6⟩:=WZ h1 h3 (hi x (by simp))
  exact ⟨Dh,h5,dF,h6,h4⟩
theorem Ns (hC:jW P A C) (hP:gF P A) {n nb:Nat} {ops:Array Oper} {Q:Exit→Act→World→Prop}: ∀{g:List (Nat × Oper × List Nat × List Nat)} {st st':St} {a:Act} {w:World} {I:Nat→Prop} {β:Nat→Option Nat},
  vE P A C n ops nb g st st'→(∀x∈g,ops[x.1]? =some x.2.1)→aH P w I β st.hp B M w0→gX P A.idle A.aG w I β n a st→
  (∀a' w' I' β',Le P w I β st.hp w' I' β' st'.hp→aH P w' I' β' st'.hp B M w0→gX P A.idle A.aG w' I' β' n a' st'→Q .normal a' w')→wpOps P ops Q (g.map (·.1)) a w
 | [],st,st',a,w,I,β,h,_,S,hA,hQ=>by
  cases h
  exact hQ a w I β (Le.refl w I β _) S hA
 | x::g,st,st',a,w,I,β,h,ho,S,hA,hQ=>by
  obtain ⟨gY,h1,U⟩:=h
  rw[dB,wpOps_cons]
  refine Ni hC hP (ho x (by simp)) S hA h1 fun a' w' I' β' k1 k2 k3=> ?_
  exact Ns hC hP U (fun y hy=>ho y (j9 _ hy)) k2 k3 fun a2 w2 I2 bW m1 m2 m3=>hQ a2 w2 I2 bW (k1.trans m1) m2 m3
end
section
variable {P:Program} {A:cl} {w w':World} {I I' I2:Nat→Prop} {μ β β':Nat→Option Nat} {hp hp':Nat→Option ak} {C:af} {B:Nat} {M:Nat→Prop} {w0:Start}
inductive s5 (ops:Array Oper):Nat→Nat→Prop
 | Nt {i x:Nat} {o:Oper} {e:Edge}:ops[i]? =some o→e∈o.after→Region.binds .any e=true→e.on=x→s5 ops i x
 | trans {i x:Nat} {o:Oper} {e:Edge}:ops[i]? =some o→e∈o.after→Region.binds .any e=true→s5 ops e.on x→s5 ops i x
theorem Nu {acc:Array Nat} {x:Nat}: ∀{l:List Edge} {s:Nat},(l.foldl (fun s e=>if Region.binds .any e then s|||2^e.on|||acc.getD e.on 0 else s) s).testBit x=true→
  s.testBit x=true∨∃e∈l,Region.binds .any e=true∧(e.on=x∨(acc.getD e.on 0).testBit x=true)
 | [],s,h=> .inl h
 | e::l,s,h=>by
  simp only[List.foldl_cons] at h
  rcases Nu h with h1|⟨e',a,b⟩
  ·by_cases hb:Region.binds .any e=true
   ·rw[ag hb,qB,qB,xD,xD] at h1
    rcases h1 with (h1|h1)|h1
    ·exact .inl h1
    ·rw[xE] at h1
     exact .inr ⟨e,by simp,hb,.inl (by simpa using h1)⟩
    ·exact .inr ⟨e,by simp,hb,.inr h1⟩
   ·rw[ai hb] at h1
    exact .inl h1
  ·exact .inr ⟨e',j9 _ a,b⟩
theorem Nv {ops:Array Oper} {x:Nat}: ∀{l:List Oper} {acc:Array Nat},(∀j o,l[j]? =some o→ops[acc.size+j]? =some o)→(∀j,(acc.getD j 0).testBit x=true→s5 ops j x)→
  ∀j,((l.foldl (fun acc o=>acc.push (o.after.foldl (fun s e=>if Region.binds .any e then s|||2^e.on|||acc.getD e.on 0 else s) 0)) acc).getD j 0).testBit x=true→s5 ops j x
 | [],acc,_,Dk,j,h=>Dk j h
 | o::l,acc,hl,Dk,j,h=>by
  simp only[List.foldl_cons] at h
  refine Nv (l:=l) ?_ ?_ j h
  ·intro j o' hj
   have:=hl (j+1) o' (by simpa using hj)
   rw[Array.size_push]
   rwa [show acc.size+1+j=acc.size+(j+1) by omega]
  ·intro k hk
   simp only[uF,Array.getElem?_push] at hk
   by_cases bN:k=acc.size
   ·rw[ag bN] at hk
    simp only[Option.getD_some] at hk
    rw[←BB] at hk
    have ho:=hl 0 o rfl
    rw[Nat.add_zero] at ho
    rw[bN]
    have oo:(o.after.toList.foldl (fun s e=>if Region.binds .any e then s|||2^e.on|||acc.getD e.on 0 else s) 0).testBit x=true:=by simpa[uF] using hk
    rcases Nu oo with h0|⟨e,he,hb,h1⟩
    ·simp at h0
    ·rcases h1 with h1|h1
     ·exact .Nt ho (nK.1 he) hb h1
     ·exact .trans ho (nK.1 he) hb (Dk _ h1)
   ·rw[ai bN] at hk
    exact Dk k (by simpa[uF] using hk)
theorem W0 {ops:Array Oper} {i x:Nat} (h:((Region.before ops).getD i 0).testBit x=true):s5 ops i x:=by
 unfold Region.before at h
 rw[←BB] at h
 refine Nv (l:=ops.toList) (acc:= #[]) (fun j o hj=>by simpa using hj) (fun j hj=>by simp at hj) i h
def Nw (ops:Array Oper) (listed:Array Bool):Prop:= ∀i o,ops[i]? =some o→listed.getD i false=true→∀e∈o.after,Region.binds .any e=true→listed.getD e.on false=true
theorem W3 {ops:Array Oper} {listed:Array Bool} (hc:Nw ops listed) {i x:Nat} (h:s5 ops i x) (hi: ∀o,ops[i]? =some o→∀e∈o.after,Region.binds .any e=true→listed.getD e.on false=true):listed.getD x false=true:=by
 induction h with
 | Nt ho he hb hx=>rw[←hx];exact hi _ ho _ he hb
 | trans ho he hb _ ih=>exact ih fun o' kY e' sL aC=>hc _ o' kY (hi _ ho _ he hb) e' sL aC
theorem Nx: ∀{l:List Oper} {k j:Nat} {o:Oper},yc k l=true→l[j]? =some o→∀e∈o.after,Region.binds .any e=true→e.on<k+j
 | [],k,j,o,_,h=>by simp at h
 | o'::l,k,j,o,hk,h=>by
  simp only[yc,aM] at hk
  cases j with
  | zero=>
   simp at h
   subst h
   intro e he hb
   have:=eS.1 hk.1 e (nK.2 he)
   simp[hb] at this
   omega
  | succ j=>
   intro e he hb
   have:=Nx hk.2 (j:=j) (by simpa using h) e he hb
   omega
theorem Ny {ops:Array Oper} {sg:Array Nat}: ∀{l:Log},Cc ops sg l=true→l.Pairwise fun x y=>yb ops sg x y=true
 | [],_=> .nil
 | x::l,h=>by
  simp only[Cc,aM] at h
  exact .cons (fun y hy=>eS.1 h.1 y hy) (Ny h.2)
theorem Nz {listed:Array Bool} {i:Nat} (h:listed.getD i true=false):i<listed.size∧listed.getD i false=false:=by
 rcases rW i listed.size with h'|h'
 ·refine ⟨h',?_⟩
  simpa[h'] using h
 ·simp[Array.getElem?_eq_none h'] at h
theorem NA (hC:jW P A C) (hP:gF P A) {n nb:Nat} {ops:Array Oper} {Q:Exit→Act→World→Prop} (Dl:yc 0 ops.toList=true):
  ∀(fuel:Nat) {g:List (Nat × Oper × List Nat × List Nat)} {listed:Array Bool} {st st':St} {a:Act} {w:World} {I:Nat→Prop} {β:Nat→Option Nat},
  g.length=fuel→vE P A C n ops nb g st st'→(∀x∈g,ops[x.1]? =some x.2.1)→(g.map (·.1)).Pairwise (· < ·)→(g.map s4).Pairwise (fun x y=>yb ops (Region.before ops) x y=true)→
  listed.size=ops.size→(∀i,i<ops.size→(listed.getD i false=false↔i∈g.map (·.1)))→Nw ops listed→
  aH P w I β st.hp B M w0→gX P A.idle A.aG w I β n a st→
  (∀a' w' I' β',Le P w I β st.hp w' I' β' st'.hp→aH P w' I' β' st'.hp B M w0→gX P A.idle A.aG w' I' β' n a' st'→Q .normal a' w')→wpAny P .any ops Q fuel listed a w
 | 0,g,listed,st,st',a,w,I,β,hf,hr,ho,aR,Dm,aW,s6,kA,S,hA,hQ=>by
  obtain rfl:g=[]:=j8 hf
  cases hr
  refine ⟨?_,hQ a w I β (Le.refl w I β _) S hA⟩
  rw[List.eq_nil_iff_forall_not_mem]
  intro i hi
  obtain ⟨h0,_⟩:=mem_ready.1 hi
  obtain ⟨h1,U⟩:=Nz h0
  have:=(s6 i (by omega)).1 U
  simp at this
 | fuel+1,g,listed,st,st',a,w,I,β,hf,hr,ho,aR,Dm,aW,s6,kA,S,hA,hQ=>by
  refine ⟨fun y7=> ?_,fun i hi=> ?_⟩
  ·exfalso
   cases g with
   | nil=>simp at hf
   | cons x g=>
    have hx:=ho x (by simp)
    have fR:x.1<ops.size:=(gq.1 hx).1
    have iq:x.1∈Region.ready .any ops listed:=by
     rw[mem_ready]
     have h0:=(s6 x.1 fR).2 (by simp)
     refine ⟨?_,x.2.1,hx,fun e he hb=> ?_⟩
     ·have hl:x.1<listed.size:=by omega
      simpa[hl] using h0
     ·have GD:=Nx Dl (j:=x.1) (by simpa using hx) e he hb
      rw[ia] at GD
      cases hle:listed.getD e.on false with
      | true=>rfl
      | false=>
       have hm:=(s6 e.on (by omega)).1 hle
       simp only[dB,eH] at hm
       rw[dB,rZ] at aR
       rcases hm with hm|hm
       ·omega
       ·have:=aR.1 _ hm;omega
    rw[y7] at iq
    cases iq
  ·obtain ⟨h0,oi,y9,NB⟩:=mem_ready.1 hi
   obtain ⟨h1,U⟩:=Nz h0
   have W4:=(s6 i (by omega)).1 U
   obtain ⟨y,hy,W5⟩:=ib.1 W4
   obtain ⟨g1,g2,rfl⟩:=List.append_of_mem hy
   subst W5
   have NC:=ho y hy
   rw[y9] at NC
   have ND:oi=y.2.1:=cC NC
   have ju:((g1++y::g2).map (·.1)).Nodup:=aR.imp fun h=>Nat.ne_of_lt h
   have W6: ∀x∈g1,Nq ops x y:=by
    intro x hx
    have hp:yb ops (Region.before ops) (s4 x) (s4 y)=true:=by
     rw[o7,dB,List.pairwise_append] at Dm
     exact Dm.2.2 _ (ib.2 ⟨x,hx,rfl⟩) _ (by simp)
    have NF:=ho x (eB.2 (.inl hx))
    unfold yb at hp
    rw[xD] at hp
    rcases hp with hp|hp
    ·have hl:=W3 kA (W0 hp) fun o kY e he hb=>by
      have:o=oi:=by
       have h3:ops[y.1]? =some o:=kY
       rw[y9] at h3
       exact (cC h3).symm
      subst this
      exact NB e he hb
     have fR:x.1<ops.size:=(gq.1 NF).1
     have:=(s6 x.1 fR).2 (ib.2 ⟨x,eB.2 (.inl hx),rfl⟩)
     rw[show (s4 x).1=x.1 from rfl,this] at hl
     cases hl
    ·simp only[s4,uF,NF,y9,Option.getD_some,aM,lN] at hp
     obtain ⟨q1,q2,q3⟩:=hp
     refine ⟨ND▸q1,fun id ab=> ?_,fun id ab=>Da q3 ab⟩
     have:=Da q2 ab
     rw[eB] at this
     exact ⟨fun h=>this (.inl h),fun h=>this (.inr h)⟩
   obtain ⟨gY,gP,mh⟩:=Nr hr W6
   rw[←ND] at gP
   refine Ni hC hP y9 S hA gP fun a' w' I' β' k1 k2 k3=> ?_
   have jr:List.Sublist (g1++g2) (g1++y::g2):=List.Sublist.append_left (List.sublist_cons_self y g2) g1
   have sj: ∀j,j≠y.1→(listed.setIfInBounds y.1 true).getD j false=listed.getD j false:=fun j hj=>getD_set_ne false (Ne.symm hj)
   refine NA hC hP Dl fuel (g:=g1++g2) (st':=st') ?_ mh (fun x hx=>ho x (jr.subset hx)) (aR.sublist (jr.map _)) (Dm.sublist (jr.map _)) (by simp[aW]) (fun j hj=> ?_) (fun j o Hm b8 e he hb=> ?_) k2 k3 fun a2 w2 I2 bW m1 m2 m3=>hQ a2 w2 I2 bW (k1.trans m1) m2 m3
   ·simp at hf⊢;omega
   ·by_cases oa:j=y.1
    ·subst oa
     have hl:y.1<listed.size:=by omega
     simp only[uF,Ft hl,Option.getD_some]
     refine ⟨fun h=>(by cases h),fun h=> ?_⟩
     exfalso
     rw[o7,dB,List.nodup_append,List.nodup_cons] at ju
     rw[o7,eB] at h
     rcases h with h|h
     ·exact ju.2.2 _ h _ (by simp) rfl
     ·exact ju.2.1.1 h
    ·rw[sj j oa,s6 j hj]
     simp only[o7,dB,eB,eH]
     constructor
     ·rintro (h|h|h)
      ·exact .inl h
      ·exact absurd h oa
      ·exact .inr h
     ·rintro (h|h)
      ·exact .inl h
      ·exact .inr (.inr h)
   ·by_cases oa:j=y.1
    ·subst oa
     rw[y9] at Hm
     cases Hm
     exact getD_set_true (NB e he hb)
    ·rw[sj j oa] at b8
     exact getD_set_true (kA j o Hm b8 e he hb)
end
section
variable {P:Program} {A:cl} {w w':World} {I I' I2:Nat→Prop} {μ β β':Nat→Option Nat} {hp hp':Nat→Option ak} {C:af} {B:Nat} {M:Nat→Prop} {w0:Start}
theorem NG: ∀{l:List Oper} {k j:Nat},(mX k l)[j]? =(l[j]?).map fun o=>(k+j,o)
 | [],k,j=>by simp[mX]
 | o::l,k,0=>by simp[mX]
 | o::l,k,j+1=>by
  simp only[mX,List.getElem?_cons_succ,NG]
  congr 1
  funext o
  rw[show k+1+j=k+(j+1) by omega]
theorem NH: ∀{l:List Oper} {k:Nat},(mX k l).map (·.1)=List.range' k l.length
 | [],k=>rfl
 | o::l,k=>by simp[mX,NH,List.range'_succ]
theorem W7 (hC:jW P A C) (hP:gF P A) (hm:P.follows .mixedOrders=true) {n id:Nat} {ops:Array Oper} {draw:Bool} {st st':St} {a:Act} {Q:Exit→Act→World→Prop}
  (h:u0 P A C n ops draw st=some st') (S:aH P w I β st.hp B M w0) (hA:gX P A.idle A.aG w I β n a st)
  (hQ: ∀a' w' I' β',Le P w I β st.hp w' I' β' st'.hp→aH P w' I' β' st'.hp B M w0→gX P A.idle A.aG w' I' β' n a' st'→Q .normal a' w'):(Code.region id ops draw).wp P Q a w:=by
 obtain ⟨⟨gY,log⟩,h1,U⟩:=bind_some h
 obtain ⟨g,g1,g2,g3⟩:=Np h1
 have Dn:g.map (·.1)=List.range ops.size:=by
  have:g.map (·.1)=(g.map fun x=>(x.1,x.2.1)).map (·.1):=by simp
  rw[this,g1,NH,List.range_eq_range']
  simp
 have NI: ∀x∈g,ops[x.1]? =some x.2.1:=by
  intro x hx
  have:(x.1,x.2.1)∈mX 0 ops.toList:=by rw[←g1];exact ib.2 ⟨x,hx,rfl⟩
  obtain ⟨j,hj⟩:=List.mem_iff_getElem?.1 this
  rw[NG] at hj
  cases ho:ops.toList[j]? with
  | none=>rw[ho] at hj;cases hj
  | some o=>
   rw[ho] at hj
   simp only[Option.map_some,ia,dA,jb] at hj
   rw[←hj.1,←hj.2]
   simpa using ho
 cases draw with
 | false=>
  simp only[r0,Bool.true_or,cond_true] at U
  cases U
  refine wp_region ?_
  rw[←Dn]
  exact Ns hC hP g3 NI S hA hQ
 | true=>
  simp only[qy,Bool.false_or] at U
  cases hc:(Region.noSelect ops&&yd ops log) with
  | false=>rw[hc] at U;cases U
  | true=>
   rw[hc] at U
   cases U
   simp only[aM,yd] at hc
   obtain ⟨hns,Dl,W8⟩:=hc
   simp only[List.nil_append] at g2
   refine wp_region_any hm ?_
   have hlen:g.length=ops.size:=by
    have:=congrArg List.length Dn
    simpa using this
   refine NA hC hP Dl ops.size (g:=g) (st':=st') hlen g3 NI (by rw[Dn];exact List.pairwise_lt_range) (by rw[←g2];exact Ny W8) (by simp) (fun i hi=> ?_) (fun i o ho hl=> ?_)
    (w:=w.drew) S.drew ⟨fun k=>(hA.sl k).mono (Le.drew w I β _),hA.size,hA.defers,hA.aG.mono (Le.drew (P:=P) w I β st.hp).cW (Le.drew (P:=P) w I β st.hp).b7⟩ fun a' w' I' β' k1 k2 k3=>hQ a' w' I' β' ((Le.drew w I β _).trans k1) k2 k3
   ·rw[Dn]
    simp[hi]
   ·have hi:=(gq.1 ho).1
    simp[hi] at hl
end
section
variable {P:Program} {A:cl} {E:FuncId→Bool} {G:Nat→V} {w w':World} {I I' I2:Nat→Prop} {μ β β':Nat→Option Nat} {hp hp':Nat→Option ak} {C:af} {B:Nat} {M:Nat→Prop} {w0:Start}
theorem s7: ∀{l:List Nat} {hp:Nat→Option ak} {I:Nat→Prop},aH P w I β hp B M w0→∃I',Le P w I β hp w I' β (sf hp l)∧aH P w I' β (sf hp l) B M w0
 | [],hp,I,S=>⟨I,Le.refl w I β hp,S⟩
 | id::l,hp,I,S=>by
  simp only[sf]
  cases ab:hp id with
  | none=>exact s7 S
  | some blk=>
   cases blk with
   | dead=>exact s7 S
   | var _=>exact s7 S
   | map _ _=>exact s7 S
   | arr e es fz=>
    obtain ⟨h1,U⟩:=yo S (upd:=[(id,.arr e es true)]) (fun p hp=>by
     simp only[fM] at hp
     subst hp
     exact ⟨e,es,rfl,.inl ⟨fz,ab⟩⟩)
    obtain ⟨I',h3,h4⟩:=s7 (l:=l) U
    exact ⟨I',h1.trans h3,h4⟩
   | nest e es aq=>
    obtain ⟨h1,U⟩:=yo S (upd:=[(id,.arr e es true)]) (fun p hp=>by
     simp only[fM] at hp
     subst hp
     exact ⟨e,es,rfl,.inr ⟨aq,ab⟩⟩)
    obtain ⟨I',h3,h4⟩:=s7 (l:=l) U
    exact ⟨I',h1.trans h3,h4⟩
theorem NJ {n m:Nat} {pur:List Nat} {a:Act} {st:St} (S:aH P w I β st.hp B M w0) (hA:gX P E G w I β n a st):
  ∃I',Le P w I β st.hp w I' β (freeze m pur st).hp∧aH P w I' β (freeze m pur st).hp B M w0∧gX P E G w I' β n a (freeze m pur st):=by
 obtain ⟨I',h1,U⟩:=s7 (l:=(K7 st pur).filter fun id=>Nat.ble m id) S
 exact ⟨I',h1,U,fun k=>(hA.sl k).mono h1,hA.size,hA.defers,hA.aG.mono h1.cW h1.b7⟩
structure vF (hp:Nat→Option ak) (β:Nat→Option Nat) (ord:List Nat) (hp':Nat→Option ak) (β':Nat→Option Nat):Prop where
 arr: ∀(j:Nat) id e es fz,ord[j]? =some id→hp id=some (.arr e es fz)→hp' j=some (.arr e es fz)
 var: ∀(j:Nat) id T cs,ord[j]? =some id→hp id=some (.var T cs)→∃gE,hp' j=some (.var T gE)
 dead: ∀(j:Nat) id,ord[j]? =some id→hp id=some .dead→hp' j=some .dead
 place: ∀(j:Nat) id,ord[j]? =some id→β' j=β id
 nest: ∀(j:Nat) id e es aq,ord[j]? =some id→hp id=some (.nest e es aq)→hp' j=some (.nest e es (aq.map fun _=>0))
 map: ∀(j:Nat) id t es,ord[j]? =some id→hp id=some (.map t es)→hp' j=some (.map t es)
theorem kE: ∀{l:List Nat} {n i j:Nat},gv l n i=some j→∃k,j=i+k∧l[k]? =some n
 | [],n,i,j,h=>by cases h
 | a::l,n,i,j,h=>by
  simp only[gv] at h
  cases hb:Nat.beq n a with
  | true=>
   rw[hb] at h
   cases h
   rw[aT] at hb
   exact ⟨0,rfl,by rw[hb];rfl⟩
  | false=>
   rw[hb] at h
   obtain ⟨k,h1,U⟩:=kE h
   exact ⟨k+1,by omega,by simpa using U⟩
def jX (hp':Nat→Option ak) (β':Nat→Option Nat) (n:Nat) (bs:List ak):Prop:=
 ∀(k:Nat) b,bs[k]? =some b→hp' (n+k)=some b∧β' (n+k)=none
theorem Hn: ∀(aq:List Nat) (k:Nat),bx (aq.map fun _=>0) k=0
 | [],_=>rfl
 | _::_,0=>rfl
 | _::vs,k+1=>Hn vs k
theorem NK {e:TypeId} {es:List V} {aq:List Nat} {path:Path} {ver:Nat} (hc:(Nat.blt 0 path.length&&(Nat.ble path.length aq.length&&Nat.beq (bx aq (path.length-1)) ver))=true)
  (h:(ak.nest e es aq).sk path ver):False:=by
 simp only[aM,iY,eR,aT] at hc
 obtain ⟨h1,U,h3⟩:=hc
 rcases h with h|h|h
 ·subst h;simp at h1
 ·omega
 ·omega
theorem NL (S:aH P w I β hp B M w0) {ord:List Nat} (hR:vF hp β ord hp' β') {v:Value} {x:V} (hv:ao P w I β hp v x):ao P w I β' hp' v (gx hp ord x):=by
 cases hv with
 | undef=>exact .undef
 | int=>exact .int
 | bool=>exact .bool
 | str h=>exact .str h
 | list h=>exact .list h
 | nilS=>exact .nilS
 | agg=>exact .undef
 | bh=>exact .undef
 | c8=>exact .c8
 | fn=>exact .undef
 | pref a b c=>exact .pref a b c
 | @dI _ e id ab=>
  simp only[gx]
  cases bm:gv ord id 0 with
  | none=>simp only[ab];exact .undef
  | some j=>
   obtain ⟨k,rfl,hk⟩:=kE bm
   exact .dI (hR.dead _ id (by simpa using hk) ab)
 | @fB _ e id off len ab=>
  simp only[gx]
  cases bm:gv ord id 0 with
  | none=>simp only[ab];exact .undef
  | some j=>
   obtain ⟨k,rfl,hk⟩:=kE bm
   exact .fB (hR.dead _ id (by simpa using hk) ab)
 | @jl _ id i c ab=>
  simp only[gx]
  cases bm:gv ord id 0 with
  | none=>exact .undef
  | some j=>
   obtain ⟨k,rfl,hk⟩:=kE bm
   exact .jl (hR.dead _ id (by simpa using hk) ab)
 | @dk e id fz _ ab hb=>
  simp only[gx]
  cases bm:gv ord id 0 with
  | none=>
   simp only[ab]
   cases fz with
   | false=>exact .undef
   | true=>simp only[iC,cond_true];exact .list (.any fun _=>rfl)
  | some j=>
   obtain ⟨k,rfl,hk⟩:=kE bm
   have df:ord[0+k]? =some id:=by simpa using hk
   exact .dk (hR.arr _ id _ _ _ df ab) ((hR.place _ id df).trans hb)
 | @whole e id es fz b cap ab hb aW b6 hm=>
  simp only[gx]
  cases bm:gv ord id 0 with
  | none=>
   simp only[ab]
   cases fz with
   | false=>exact .undef
   | true=>
    simp only[iC,cond_true]
    have hr:=S.h.rel id _ ab
    cases hr with
    | dm aC=>rw[aC] at hb;cases hb
    | arr ar aC hh hs hf dJ hx=>
     rw[hb] at aC;cases aC
     have:=su (I':=I) (off:=0) (len:=es.length) (o:=0) hh hx (eW ar) (by omega) b6 (fun _=>by simp) (fun _ h=>h) (hf rfl)
     exact .list (by simpa using this)
  | some j=>
   obtain ⟨k,rfl,hk⟩:=kE bm
   have df:ord[0+k]? =some id:=by simpa using hk
   exact .whole (hR.arr _ id _ _ _ df ab) ((hR.place _ id df).trans hb) aW b6 hm
 | @fk e id fz _ ab hb=>
  simp only[gx]
  cases bm:gv ord id 0 with
  | none=>
   simp only[ab]
   cases fz with
   | false=>exact .undef
   | true=>simp only[iC,cond_true];exact .list (by simpa using (gN.any (P:=P) fun _=>rfl))
  | some j=>
   obtain ⟨k,rfl,hk⟩:=kE bm
   have df:ord[0+k]? =some id:=by simpa using hk
   exact .fk (hR.arr _ id _ _ _ df ab) ((hR.place _ id df).trans hb)
 | @sub e id off len es fz b o cap ab hb jO b6 ho=>
  simp only[gx]
  cases bm:gv ord id 0 with
  | none=>
   simp only[ab]
   cases fz with
   | false=>exact .undef
   | true=>
    simp only[iC,cond_true]
    have hr:=S.h.rel id _ ab
    cases hr with
    | dm aC=>rw[aC] at hb;cases hb
    | arr ar aC hh hs hf dJ hx=>
     rw[hb] at aC;cases aC
     exact .list (su (I':=I) hh hx (eW ar) jO b6 ho (fun _ h=>h) (hf rfl))
  | some j=>
   obtain ⟨k,rfl,hk⟩:=kE bm
   have df:ord[0+k]? =some id:=by simpa using hk
   exact .sub (hR.arr _ id _ _ _ df ab) ((hR.place _ id df).trans hb) jO b6 ho
 | @ptr id i c b blk ab hd hb=>
  simp only[gx]
  cases bm:gv ord id 0 with
  | none=>exact .undef
  | some j=>
   obtain ⟨k,rfl,hk⟩:=kE bm
   have df:ord[0+k]? =some id:=by simpa using hk
   cases blk with
   | dead=>exact absurd rfl hd
   | var T0 cs=>
    obtain ⟨gE,h'⟩:=hR.var _ id T0 cs df ab
    exact .ptr (blk:= .var T0 gE) h' (by simp) ((hR.place _ id df).trans hb)
   | arr e es fz=>exact .ptr (blk:= .arr e es fz) (hR.arr _ id _ _ _ df ab) (by simp) ((hR.place _ id df).trans hb)
   | nest e es aq=>exact .ptr (blk:= .nest e es (aq.map fun _=>0)) (hR.nest _ id _ _ _ df ab) (by simp) ((hR.place _ id df).trans hb)
   | map t es=>exact .ptr (blk:= .map t es) (hR.map _ id _ _ df ab) (by simp) ((hR.place _ id df).trans hb)
 | db=>exact .db
 | @gB _ t id ab=>
  simp only[gx]
  cases bm:gv ord id 0 with
  | none=>exact .undef
  | some j=>
   obtain ⟨k,rfl,hk⟩:=kE bm
   exact .gB (hR.dead _ id (by simpa using hk) ab)
 | @cv t id b es ab hb=>
  simp only[gx]
  cases bm:gv ord id 0 with
  | none=>exact .undef
  | some j=>
   obtain ⟨k,rfl,hk⟩:=kE bm
   have df:ord[0+k]? =some id:=by simpa using hk
   exact .cv (hR.map _ id _ _ df ab) ((hR.place _ id df).trans hb)
 | @dQ e id es aq b cap ab hb aW b6 hm=>
  simp only[gx]
  cases bm:gv ord id 0 with
  | none=>simp only[ab];exact .undef
  | some j=>
   obtain ⟨k,rfl,hk⟩:=kE bm
   have df:ord[0+k]? =some id:=by simpa using hk
   exact .dQ (hR.nest _ id _ _ _ df ab) ((hR.place _ id df).trans hb) aW b6 hm
 | @iF v e id ver path blk ab ym=>
  simp only[gx]
  split
  ·rename_i j e1 cb aq h1 U
   rw[ab] at U
   cases U
   cases hc:(Nat.blt 0 path.length&&(Nat.ble path.length aq.length&&Nat.beq (bx aq (path.length-1)) ver)) with
   | false=>exact .undef
   | true=>exact (NK hc ym).elim
  ·exact .undef
 | @iG v id ver i c path blk ab ym=>
  simp only[gx]
  split
  ·rename_i j e1 cb aq h1 U
   rw[ab] at U
   cases U
   cases hc:(Nat.blt 0 path.length&&(Nat.ble path.length aq.length&&Nat.beq (bx aq (path.length-1)) ver)) with
   | false=>exact .undef
   | true=>exact (NK hc ym).elim
  ·exact .undef
 | @row v e e0 t id ver b i c q es l aq ab hb hq hv ht hc=>
  simp only[gx]
  split
  ·rename_i j e1 cb sX h1 U
   obtain ⟨k,rfl,hk⟩:=kE h1
   have df:ord[0+k]? =some id:=by simpa using hk
   cases hx:(Nat.blt 0 (q++[(i,c)]).length&&(Nat.ble (q++[(i,c)]).length sX.length&&Nat.beq (bx sX ((q++[(i,c)]).length-1)) ver)) with
   | false=>exact .undef
   | true=>exact .row (hR.nest _ id _ _ _ df ab) ((hR.place _ id df).trans hb) (by simpa using hq) (Hn _ _) ht hc
  ·exact .undef
 | @cu e e0 t id ver b b1 len cap i0 c0 i c q es l aq ab hb hq hv ht kX hc=>
  simp only[gx]
  split
  ·rename_i j e1 cb sX h1 U
   obtain ⟨k,rfl,hk⟩:=kE h1
   have df:ord[0+k]? =some id:=by simpa using hk
   cases hx:(Nat.blt 0 (q++[(i0,c0)]).length&&(Nat.ble (q++[(i0,c0)]).length sX.length&&Nat.beq (bx sX ((q++[(i0,c0)]).length-1)) ver)) with
   | false=>exact .undef
   | true=>exact .cu (hR.nest _ id _ _ _ df ab) ((hR.place _ id df).trans hb) (by simpa using hq) (Hn _ _) ht kX hc
  ·exact .undef
theorem NM (S:aH P w I β hp B M w0) {ord:List Nat} (hR:vF hp β ord hp' β') {vs:Array Value} {xs:List V} (h: ∀(j:Nat) v x,vs[j]? =some v→xs[j]? =some x→ao P w I β hp v x) (j:Nat) (v:Value) (y:V)
  (hv:vs[j]? =some v) (hy:(xs.map (gx hp ord))[j]? =some y):ao P w I β' hp' v y:=by
 rw[fX] at hy
 cases hx:xs[j]? with
 | none=>rw[hx] at hy;cases hy
 | some x=>rw[hx] at hy;cases hy;exact NL S hR (h j v x hv hx)
theorem NN (S:aH P w I β hp B M w0) {ord:List Nat} (hR:vF hp β ord hp' β') {n:Nat} {v:Value} {x:V} (hv:ao P w I β hp v x) (hF:jX hp' β' n (uY hp ord n x).2):
  ao P w I β' hp' v (uY hp ord n x).1:=by
 cases x with
 | nilS e=>
  obtain ⟨h1,U⟩:=hF 0 _ rfl
  cases hv with
  | nilS=>exact .dk h1 U
 | fn f a b=>
  cases hv with
  | fn q1 q2 q3 q4=>exact .fn (by simpa using q1) (NM S hR q2) (by simpa using q3) (NM S hR q4)
 | _=>exact NL S hR hv
end
section
variable {P:Program} {A:cl} {w w':World} {I I' I2:Nat→Prop} {μ β β':Nat→Option Nat} {hp hp':Nat→Option ak} {C:af} {B:Nat} {M:Nat→Prop} {w0:Start}
theorem jX.left {n:Nat} {a b:List ak} (h:jX hp' β' n (a++b)):jX hp' β' n a:=fun k x hx=>
 h k x (by rw[iZ (bj.1 hx).1];exact hx)
theorem jX.right {n:Nat} {a b:List ak} (h:jX hp' β' n (a++b)):jX hp' β' (n+a.length) b:=fun k x hx=>by
 have:=h (a.length+k) x (by rw[ja (by omega),Nat.add_sub_cancel_left];exact hx)
 rwa [←mQ] at this
def ln (bs:List ak):Prop:= ∀b∈bs,∃e,b= .arr e [] false
theorem ln.app {a b:List ak} (h1:ln a) (U:ln b):ln (a++b):=fun x hx=>(eB.1 hx).elim (h1 x) (U x)
theorem ln.nil:ln []:=fun x hx=>by simp at hx
theorem NO {ord:List Nat} {n:Nat} {x:V}:ln (uY hp ord n x).2:=by
 cases x<;>simp only[uY]<;>first|exact .nil|skip
 intro b hb
 simp only[fM] at hb
 exact ⟨_,hb⟩
theorem Ho {ord:List Nat}: ∀{xs:List V} {n:Nat},ln (lV hp ord n xs).2
 | [],n=> .nil
 | x::xs,n=>by
  simp only[lV]
  exact NO.app Ho
theorem Dp {ord:List Nat}: ∀{xs:List V} {n:Nat},(lV hp ord n xs).1.length=xs.length
 | [],n=>rfl
 | x::xs,n=>by simp only[lV,List.length_cons,Dp]
theorem Dq (S:aH P w I β hp B M w0) {ord:List Nat} (hR:vF hp β ord hp' β'): ∀{xs:List V} {vs:List Value} {n:Nat},(∀(j:Nat) v x,vs[j]? =some v→xs[j]? =some x→ao P w I β hp v x)→
  jX hp' β' n (lV hp ord n xs).2→∀(j:Nat) v y,vs[j]? =some v→(lV hp ord n xs).1[j]? =some y→ao P w I β' hp' v y
 | [],vs,n,h,hF,j,v,y,hv,hy=>by simp[lV] at hy
 | x::xs,vs,n,h,hF,j,v,y,hv,hy=>by
  simp only[lV] at hF hy
  cases j with
  | zero=>
   simp at hy
   subst hy
   exact NN S hR (h 0 v x hv rfl) hF.left
  | succ j=>
   cases vs with
   | nil=>simp at hv
   | cons v0 vs=>exact Dq S hR (vs:=vs) (fun j v x hj hx=>h (j+1) v x (by simpa using hj) (by simpa using hx)) hF.right j v y (by simpa using hv) (by simpa using hy)
theorem W9 {ord:List Nat} {n:Nat} {x:V}:ln (po hp ord n x).2:=by
 cases x<;>simp only[po]<;>first|exact NO|exact Ho
theorem Xa (S:aH P w I β hp B M w0) {ord:List Nat} (hR:vF hp β ord hp' β') {n:Nat} {v:Value} {x:V} (hv:ao P w I β hp v x) (hF:jX hp' β' n (po hp ord n x).2):
  ao P w I β' hp' v (po hp ord n x).1:=by
 cases x with
 | agg cs=>
  obtain ⟨ds,rfl,h1,U⟩:=hv.jR
  simp only[po] at hF⊢
  exact .agg (by rw[Dp];exact h1) fun j v y hj hy=>Dq S hR (vs:=ds.toList) (fun j v x hj hx=>U j v x (by simpa using hj) hx) hF j v y (by simpa using hj) hy
 | bh cs=>
  obtain ⟨ds,rfl,h1,U⟩:=hv.sA
  simp only[po] at hF⊢
  exact .bh (by rw[Dp];exact h1) fun j v y hj hy=>Dq S hR (vs:=ds.toList) (fun j v x hj hx=>U j v x (by simpa using hj) hx) hF j v y (by simpa using hj) hy
 | _=>exact NN S hR hv hF
theorem NP {ord:List Nat} {sl:Nat→V}: ∀{l:List Nat} {n:Nat},ln (kj hp ord sl n l).2
 | [],n=> .nil
 | s::l,n=>by
  simp only[kj]
  exact W9.app NP
theorem NQ {ord:List Nat} {sl:Nat→V} {k:Nat} {y:V}: ∀{l:List Nat} {n:Nat},jX hp' β' n (kj hp ord sl n l).2→dj (kj hp ord sl n l).1 k=some y→
  ∃n',jX hp' β' n' (po hp ord n' (sl k)).2∧y=(po hp ord n' (sl k)).1
 | [],n,_,h=>by cases h
 | s::l,n,hF,h=>by
  simp only[kj] at hF h
  simp only[dj] at h
  cases hb:Nat.beq k s with
  | true=>
   rw[hb] at h
   rw[aT] at hb
   subst hb
   cases h
   exact ⟨n,hF.left,rfl⟩
  | false=>
   rw[hb] at h
   exact NQ hF.right h
theorem Xb {ord:List Nat} {n id:Nat}:ln (en hp ord n id).2:=by
 unfold en
 split
 ·exact Ho
 ·exact .nil
 ·exact .nil
 ·exact .nil
 ·exact .nil
theorem NR {ord:List Nat}: ∀{l:List Nat} {n:Nat},ln (eV hp ord n l).2
 | [],n=> .nil
 | s::l,n=>by
  simp only[eV]
  exact Xb.app NR
theorem NS {ord:List Nat}: ∀{l:List Nat} {n:Nat},(eV hp ord n l).1.length=l.length
 | [],n=>rfl
 | x::xs,n=>by simp only[eV,List.length_cons,NS]
theorem NT {ord:List Nat}: ∀{l:List Nat} {n j:Nat} {id:Nat},l[j]? =some id→∃n',(jX hp' β' n (eV hp ord n l).2→jX hp' β' n' (en hp ord n' id).2)∧(eV hp ord n l).1[j]? =some (en hp ord n' id).1
 | [],n,j,id,h=>by simp at h
 | s::l,n,j,id,h=>by
  simp only[eV]
  cases j with
  | zero=>
   simp at h
   subst h
   exact ⟨n,fun hF=>hF.left,rfl⟩
  | succ j=>
   obtain ⟨n',h1,U⟩:=NT (n:=n+(en hp ord n s).2.length) (j:=j) (by simpa using h)
   exact ⟨n',fun hF=>h1 hF.right,by simpa using U⟩
theorem Dr: ∀{l acc:List Nat},∃t,se hp acc l=acc++t∧(acc.Nodup→(acc++t).Nodup)
 | [],acc=>⟨[],by simp[se],by simp⟩
 | id::l,acc=>by
  simp only[se]
  cases hb:(jd acc id|| !(K6 hp id)) with
  | true=>exact Dr
  | false=>
   obtain ⟨t,h1,U⟩:=Dr (l:=l) (acc:=acc++[id])
   refine ⟨id::t,by simp only[cond_false,h1,da,List.singleton_append],fun hn=> ?_⟩
   have:acc++id::t=(acc++[id])++t:=by simp
   rw[this]
   refine U ?_
   rw[List.nodup_append]
   refine ⟨hn,by simp,fun a ha b aC=> ?_⟩
   simp only[fM] at aC
   subst aC
   intro e
   subst e
   rw[ve ha] at hb
   cases hb
theorem NU: ∀{n:Nat} {l:List Nat},∃t,grow hp n l=l++t∧(l.Nodup→(l++t).Nodup)
 | 0,l=>⟨[],by simp[grow],by simp⟩
 | n+1,l=>by
  simp only[grow]
  obtain ⟨t,h1,U⟩:=Dr (hp:=hp) (acc:=l) (l:=l.flatMap (FL hp))
  rw[h1]
  obtain ⟨t',h3,h4⟩:=NU (n:=n) (l:=l++t)
  exact ⟨t++t',by rw[h3,da],fun hn=>by rw[←da];exact h4 (U hn)⟩
theorem Xc {m:Nat} {live:List Nat} {st:St}: ∃t,FM m live st=List.range m++t∧(List.range m++t).Nodup:=by
 unfold FM
 obtain ⟨t,h1,U⟩:=Dr (hp:=st.hp) (acc:=List.range m) (l:=live.flatMap fun s=>FK (st.sl s))
 rw[h1]
 obtain ⟨t',h3,h4⟩:=NU (hp:=st.hp) (n:=3) (l:=List.range m++t)
 exact ⟨t++t',by rw[h3,da],by rw[←da];exact h4 (U List.nodup_range)⟩
end
section
variable {P:Program} {A:cl} {E:FuncId→Bool} {G:Nat→V} {w w':World} {I I' I2:Nat→Prop} {μ β β':Nat→Option Nat} {hp hp' hp0:Nat→Option ak} {C:af} {B:Nat} {M:Nat→Prop} {w0:Start}
theorem NV {n m:Nat} {ord live:List Nat} {a:Act} {st:St} (l8:ord.Nodup) (za: ∀id,id<m→ord[id]? =some id∨∃p,ord[id]? =some p∧st.hp p=none) (S:aH P w I β st.hp B M w0) (hA:gX P E G w I β n a st) (hE:jV w0.w w0.I μ hp0 w I β st.hp) (hm: ∀id blk,hp0 id=some blk→id<m) (iv: ∀id e es aq,hp0 id=some (.nest e es aq)→∀k,bx aq k=0):
  ∃β',aH P w I β' (uZ ord live st).hp B M w0∧gX P E G w I β' n a (uZ ord live st)∧jV w0.w w0.I μ hp0 w I β' (uZ ord live st).hp:=by
 have Xd:uZ ord live st=mk (kj st.hp ord st.sl (ord.length+(eV st.hp ord ord.length ord).2.length) live).1
   ((eV st.hp ord ord.length ord).1++((eV st.hp ord ord.length ord).2++(kj st.hp ord st.sl (ord.length+(eV st.hp ord ord.length ord).2.length) live).2)):=by
  rfl
 rw[Xd]
 let hp':=iE ((eV st.hp ord ord.length ord).1++((eV st.hp ord ord.length ord).2++(kj st.hp ord st.sl (ord.length+(eV st.hp ord ord.length ord).2.length) live).2))
 let β':Nat→Option Nat:=fun j=>if j<ord.length then (ord[j]?).bind β else none
 have hlen:(eV st.hp ord ord.length ord).1.length=ord.length:=NS
 have gV: ∀j,j<ord.length→hp' j=(eV st.hp ord ord.length ord).1[j]? :=by
  intro j hj
  simp only[hp',gi]
  rw[iZ (by omega)]
 have gh: ∀k,hp' (ord.length+k)=((eV st.hp ord ord.length ord).2++(kj st.hp ord st.sl (ord.length+(eV st.hp ord ord.length ord).2.length) live).2)[k]? :=by
  intro k
  simp only[hp',gi]
  rw[ja (by omega),hlen,Nat.add_sub_cancel_left]
 have hF:jX hp' β' ord.length ((eV st.hp ord ord.length ord).2++(kj st.hp ord st.sl (ord.length+(eV st.hp ord ord.length ord).2.length) live).2):=by
  intro k b hb
  refine ⟨(gh k).trans hb,?_⟩
  simp only[β']
  rw[ai (by omega)]
 have y7:ln ((eV st.hp ord ord.length ord).2++(kj st.hp ord st.sl (ord.length+(eV st.hp ord ord.length ord).2.length) live).2):=NR.app NP
 have ni: ∀(j:Nat) id,ord[j]? =some id→β' j=β id:=by
  intro j id hj
  simp only[β']
  rw[ag (bj.1 hj).1,hj]
  rfl
 have pV: ∀(j:Nat) id,ord[j]? =some id→∃n',jX hp' β' n' (en st.hp ord n' id).2∧hp' j=some (en st.hp ord n' id).1:=by
  intro j id hj
  obtain ⟨n',h1,U⟩:=NT (hp:=st.hp) (hp':=hp') (β':=β') (ord:=ord) (n:=ord.length) hj
  exact ⟨n',h1 hF.left,(gV j (bj.1 hj).1).trans U⟩
 have hR:vF st.hp β ord hp' β':=by
  refine ⟨fun j id e es fz hj ab=> ?_,fun j id T cs hj ab=> ?_,fun j id hj ab=> ?_,ni,fun j id e es aq hj ab=> ?_,fun j id t es hj ab=> ?_⟩
  ·obtain ⟨n',_,U⟩:=pV j id hj
   rw[U];simp only[en,ab]
  ·obtain ⟨n',_,U⟩:=pV j id hj
   rw[U];simp only[en,ab];exact ⟨_,rfl⟩
  ·obtain ⟨n',_,U⟩:=pV j id hj
   rw[U];simp only[en,ab]
  ·obtain ⟨n',_,U⟩:=pV j id hj
   rw[U];simp only[en,ab]
  ·obtain ⟨n',_,U⟩:=pV j id hj
   rw[U];simp only[en,ab]
 have cls: ∀j blk',hp' j=some blk'→(∃id,ord[j]? =some id∧((blk'= .dead)∨∃blk,st.hp id=some blk∧blk≠ .dead∧∀o b,br P w o blk' b→br P w o blk b))∨(∃e,blk'= .arr e [] false∧β' j=none):=by
  intro j blk' hj
  rcases rW j ord.length with h|h
  ·have fm:=bO h
   obtain ⟨n',_,U⟩:=pV j _ fm
   rw[hj] at U
   refine .inl ⟨_,fm,?_⟩
   cases ab:st.hp ord[j] with
   | none=>left;simp only[en,ab] at U;exact cC U
   | some blk=>
    cases blk with
    | dead=>left;simp only[en,ab] at U;exact cC U
    | var T0 cs=>exact .inr ⟨_,rfl,by simp,fun o b h=>by simp only[en,ab] at U;rw[cC U] at h;exact .root (by simp) (h.flat (by simp))⟩
    | arr e es fz=>exact .inr ⟨_,rfl,by simp,fun o b h=>by simp only[en,ab] at U;rw[cC U] at h;exact .root (by simp) (h.flat (by simp))⟩
    | map t es=>exact .inr ⟨_,rfl,by simp,fun o b h=>by simp only[en,ab] at U;rw[cC U] at h;exact .root (by simp) (h.flat (by simp))⟩
    | nest e es aq=>
     refine .inr ⟨_,rfl,by simp,fun o b h=> ?_⟩
     simp only[en,ab] at U
     rw[cC U] at h
     cases h with
     | root _ h=>exact .root (by simp) h
     | row h1 U=>exact .row h1 U
  ·obtain ⟨k,rfl⟩: ∃k,j=ord.length+k:=⟨j-ord.length,by omega⟩
   rw[gh] at hj
   obtain ⟨e,he⟩:=y7 _ (iD hj)
   exact .inr ⟨e,he,(hF k _ hj).2⟩
 refine ⟨β',⟨⟨fun j blk' hj=> ?_,fun j1 j2 b1 b2 b e1 e2 f1 f2=> ?_,fun j blk b e1 f1=> ?_,S.h.iH⟩,S.b7,S.size,S.new,S.io⟩,⟨fun k=> ?_,hA.size,hA.defers,hA.aG⟩,⟨hE.cW,hE.b7,fun id blk ab=> ?_,fun id blk blk' b ab bz hd hb=> ?_⟩⟩
 ·change hp' j=some blk' at hj
  rcases rW j ord.length with h|h
  ·have fm:=bO h
   obtain ⟨n',NW,U⟩:=pV j _ fm
   rw[hj] at U
   rw[ni j _ fm]
   cases ab:st.hp ord[j] with
   | none=>simp only[en,ab] at U;rw[cC U];exact .dead
   | some blk=>
    have hr:=S.h.rel _ _ ab
    generalize β ord[j]=o at hr
    cases hr with
    | dead=>simp only[en,ab] at U;rw[cC U];exact .dead
    | dm hb=>simp only[en,ab] at U;rw[cC U];exact .dm hb
    | arr a1 a2 a3 a4 a5 a6 a7=>simp only[en,ab] at U;rw[cC U];exact .arr a1 a2 a3 a4 a5 a6 a7
    | nest a1 a2 a3=>simp only[en,ab] at U;rw[cC U];exact .nest a1 a2 a3
    | map a1 a2 a3 a4 a5 a6 a7=>simp only[en,ab] at U;rw[cC U];exact .map a1 a2 a3 a4 a5 a6 a7
    | @var xs b Ca T hb hh hs cD hx fD=>
     simp only[en,ab] at U NW
     rw[cC U]
     exact .var hb hh (by rw[Dp];exact hs) cD (fun i v y hi hy=>Dq S hR (vs:=Ca.toList) (fun i v x hi cj=>hx i v x (by simpa using hi) cj) NW i v y (by simpa using hi) hy) fD
  ·rcases cls j blk' hj with ⟨id,ab,_⟩|⟨e,he,hb⟩
   ·have:=(bj.1 ab).1;omega
   ·rw[he];exact .dm hb
 ·rcases cls j1 b1 e1 with ⟨Hp,o1,x1⟩|⟨e,_,hb⟩
  ·rcases cls j2 b2 e2 with ⟨cm,o2,x2⟩|⟨e,_,hb⟩
   ·obtain ⟨c1,y1,z1,g1⟩:=x1.resolve_left f1.alive
    obtain ⟨c2,y2,z2,g2⟩:=x2.resolve_left f2.alive
    rw[ni _ _ o1] at f1
    rw[ni _ _ o2] at f2
    have:=S.h.inj Hp cm c1 c2 b y1 y2 (g1 _ _ f1) (g2 _ _ f2)
    subst this
    obtain ⟨q1,q2⟩:=bj.1 o1
    obtain ⟨q3,q4⟩:=bj.1 o2
    exact (List.getElem_inj l8).1 (q2.trans q4.symm)
   ·subst ‹b2=_›;have:=f2.flat (by simp);rw[hb] at this;cases this
  ·subst ‹b1=_›;have:=f1.flat (by simp);rw[hb] at this;cases this
 ·rcases cls j blk e1 with ⟨Hp,o1,x1⟩|⟨e,_,hb⟩
  ·obtain ⟨c1,y1,z1,g1⟩:=x1.resolve_left f1.alive
   rw[ni _ _ o1] at f1
   exact S.h.own Hp c1 b y1 (g1 _ _ f1)
  ·subst ‹blk=_›;have:=f1.flat (by simp);rw[hb] at this;cases this
 ·change ao P w I β' hp' (a.tmps.getD k undef) (ij _ k)
  unfold ij
  cases G4:dj (kj st.hp ord st.sl (ord.length+(eV st.hp ord ord.length ord).2.length) live).1 k with
  | none=>exact .undef
  | some y=>
   obtain ⟨n',h1,U⟩:=NQ hF.right G4
   simp only[Option.getD_some,U]
   exact Xa S hR (hA.sl k) h1
 ·obtain ⟨pR,k1,k2,k3⟩:=hE.blk id blk ab
  rcases za id (hm id blk ab) with ho|⟨p,ho,bm⟩
  ·cases pR with
   | dead=>exact ⟨.dead,hR.dead id id ho k1,k2,fun h=>absurd rfl h⟩
   | var T0 cs=>
    obtain ⟨gE,h'⟩:=hR.var id id T0 cs ho k1
    refine ⟨_,h',?_,fun _=>(ni id id ho).trans (k3 (by simp))⟩
    cases blk<;>simp_all [ak.le]
   | arr e es fz=>exact ⟨_,hR.arr id id e es fz ho k1,k2,fun _=>(ni id id ho).trans (k3 (by simp))⟩
   | map t es=>exact ⟨_,hR.map id id t es ho k1,k2,fun _=>(ni id id ho).trans (k3 (by simp))⟩
   | nest e es aq=>
    refine ⟨_,hR.nest id id e es aq ho k1,?_,fun _=>(ni id id ho).trans (k3 (by simp))⟩
    obtain ⟨FV,Ug,rfl,l1,l2,_⟩:=ak.FT k2
    exact ⟨rfl,l1,by simpa using l2,fun k=>by rw[iv id _ _ _ ab k];exact jI _⟩
  ·obtain ⟨n',_,U⟩:=pV id p ho
   simp only[en,bm] at U
   exact ⟨.dead,U,by cases blk<;>trivial,fun h=>absurd rfl h⟩
 ·obtain ⟨pR,k1,k2,k3⟩:=hE.blk id blk ab
  rcases za id (hm id blk ab) with ho|⟨p,ho,bm⟩
  ·refine hE.size id blk pR b ab k1 (fun pU=> ?_) hb
   subst pU
   have:=hR.dead id id ho k1
   change hp' id=some blk' at bz
   rw[this] at bz
   exact hd (cC bz).symm
  ·obtain ⟨n',_,U⟩:=pV id p ho
   simp only[en,bm] at U
   change hp' id=some blk' at bz
   rw[U] at bz
   exact absurd (cC bz).symm hd
theorem Xe {n m:Nat} {live:List Nat} {a:Act} {st:St} (S:aH P w I β st.hp B M w0) (hA:gX P E G w I β n a st) (hE:jV w0.w w0.I μ hp0 w I β st.hp) (hm: ∀id blk,hp0 id=some blk→id<m) (iv: ∀id e es aq,hp0 id=some (.nest e es aq)→∀k,bx aq k=0):
  ∃β',aH P w I β' (canon m live st).hp B M w0∧gX P E G w I β' n a (canon m live st)∧jV w0.w w0.I μ hp0 w I β' (canon m live st).hp:=by
 obtain ⟨t,za,l8⟩:=Xc (m:=m) (live:=live) (st:=st)
 refine NV (by rw[za];exact l8) (fun id aR=> .inl ?_) S hA hE hm iv
 rw[za,iZ (by simpa using aR)]
 simp[aR]
theorem NX: ∀{l:List Nat},mV l=true→l.Nodup
 | [],_=> .nil
 | a::l,h=>by
  simp only[mV,aM,lN] at h
  rw[List.nodup_cons]
  exact ⟨fun hm=>Bool.noConfusion ((ve hm).symm.trans h.1),NX h.2⟩
theorem Xf {m:Nat} {mv:List Nat} {id:Nat} (h:id<m):(kU m mv)[id]? =some id∨(kU m mv)[id]? =some (m+id):=by
 unfold kU
 rw[iZ (by simpa using h),fX]
 simp only[List.getElem?_range h,Option.map_some]
 cases jd mv id with
 | true=>exact .inr rfl
 | false=>exact .inl rfl
end
section
variable {P:Program} {A:cl} {w w':World} {I I' I2:Nat→Prop} {μ β β':Nat→Option Nat} {hp hp' hp0:Nat→Option ak} {C:af} {B:Nat} {M:Nat→Prop} {w0:Start}
theorem Ds (p:Nat→Prop) (h: ∃n,p n): ∃n,p n∧∀m,p m→n≤m:=by
 obtain ⟨n,hn⟩:=h
 induction n using Nat.strongRecOn with
 | _ n ih=>
  by_cases hx: ∃m,m<n∧p m
  ·obtain ⟨m,hm,hp⟩:=hx
   exact ih m hm hp
  ·exact ⟨n,hn,fun m hm=>Nat.le_of_not_lt fun aR=>hx ⟨m,aR,hm⟩⟩
open Classical in
theorem Xg {c:Code} {Q:Exit→Act→World→Prop} (J:Nat→Act→World→Prop) (h0: ∀a w,¬J 0 a w) (round: ∀n a w,J (n+1) a w→c.wp P (Exit.then (J n) Q) a w) {n:Nat} {a:Act} {w:World} (h:J n a w):
  (Code.loop c).wp P Q a w:=by
 refine wp_loop (fun a w=> ∃n,J n a w) (fun a w=>if h: ∃n,J n a w then (Ds _ h).choose else 0) ⟨n,h⟩ fun a w hJ=> ?_
 obtain ⟨h1,U⟩:=(Ds _ hJ).choose_spec
 generalize hk:(Ds _ hJ).choose=k at h1 U
 cases k with
 | zero=>exact absurd h1 (h0 a w)
 | succ k=>
  refine wp_mono (round k a w h1) fun e a' w' he=> ?_
  cases e with
  | normal=>
   have hex: ∃n,J n a' w':=⟨k,he⟩
   refine ⟨hex,?_⟩
   have h3:=(Ds _ hex).choose_spec.2 k he
   rw[qt hex,qt hJ,hk]
   omega
  | _=>exact he
def vG:Out→Exit
 | .norm=> .normal
 | .exit id=> .exit id
 | .ret=> .ret
def Inv (P:Program) (E:FuncId→Bool) (G:Nat→V) (B:Nat) (M:Nat→Prop) (w0:Start) (μ:Nat→Option Nat) (hp0:Nat→Option ak) (n:Nat) (a:Act) (w:World) (st:St):Prop:=
 ∃I β,aH P w I β st.hp B M w0∧gX P E G w I β n a st∧jV w0.w w0.I μ hp0 w I β st.hp
theorem Inv.canon {E:FuncId→Bool} {G:Nat→V} {n m:Nat} {a:Act} {st:St} {live:List Nat} (h:Inv P E G B M w0 μ hp0 n a w st) (hm: ∀id blk,hp0 id=some blk→id<m) (iv: ∀id e es aq,hp0 id=some (.nest e es aq)→∀k,bx aq k=0):Inv P E G B M w0 μ hp0 n a w (canon m live st):=by
 obtain ⟨I,β,S,hA,hE⟩:=h
 obtain ⟨β',a,b,c⟩:=Xe (live:=live) S hA hE hm iv
 exact ⟨I,β',a,b,c⟩
theorem Dt: ∀{l:List BS} {ds:List V},(dY l ds).length=l.length
 | [],_=>rfl
 | b::l,ds=>by simp only[dY,List.length_cons,Dt]
theorem Inv.enter {A:cl} {E:FuncId→Bool} {G:Nat→V} {n f:Nat} {ds:List V} {a:Act} (ju:mV (kU (A.sin f).aY.length (A.mv f))=true) (h:Inv P E G B M w0 μ hp0 n a w (bf (A.sin f) ds)) (hm: ∀id blk,hp0 id=some blk→id<(A.sin f).aY.length)
  (iv: ∀id e es aq,hp0 id=some (.nest e es aq)→∀k,bx aq k=0) (vH: ∀p,(A.sin f).aY.length≤p→(bf (A.sin f) ds).hp p=none):Inv P E G B M w0 μ hp0 n a w (ye A f ds):=by
 unfold ye
 split
 ·exact h
 ·obtain ⟨I,β,S,hA,hE⟩:=h
  obtain ⟨β',x,y,z⟩:=NV (m:=(A.sin f).aY.length) (ord:=kU (A.sin f).aY.length (A.mv f)) (live:=(A.sin f).bw.map (·.1)) (NX ju) (fun id ab=>(Xf ab).imp (fun h=>h) fun h=>⟨_,h,vH _ (by omega)⟩) S hA hE hm iv
  exact ⟨I,β',x,y,z⟩
theorem Inv.reshape {E:FuncId→Bool} {G:Nat→V} {n m:Nat} {a:Act} {st:St} {S:Shape} {ds:List V} (h:Inv P E G B M w0 μ hp0 n a w st) (hs:gM m S st=some ds) (hm: ∀id blk,hp0 id=some blk→id<m):Inv P E G B M w0 μ hp0 n a w (bf S ds):=by
 obtain ⟨I,β,S1,hA,hE⟩:=h
 obtain ⟨r1,r2,_,r4⟩:=AM.reshape hs S1
 refine ⟨I,β,r1,⟨fun k=>r2 k _ (hA.sl k),hA.size,hA.defers,hA.aG⟩,⟨hE.cW,hE.b7,fun id blk ab=> ?_,fun id blk blk' b ab bz hd hb=> ?_⟩⟩
 ·obtain ⟨pR,k1,k2,k3⟩:=hE.blk id blk ab
  obtain ⟨_,hle,_⟩:=MF hs
  have hl:=hm id blk ab
  obtain ⟨bV,U⟩: ∃bV,(bf S ds).hp id=some bV:=by
   simp only[bf,mk,gi]
   exact ⟨_,bO (by rw[Dt];omega)⟩
  by_cases hd:bV= .dead
  ·subst hd
   exact ⟨_,U,by cases blk<;>trivial,fun h=>absurd rfl h⟩
  ·obtain ⟨ga,e1,e2,_⟩:=r4 id bV U hd
   rw[k1] at e1;cases e1
   exact ⟨_,U,ak.le_trans k2 e2,fun _=>k3 (fun e=>hd (ak.nW (e▸e2)))⟩
 ·obtain ⟨ga,e1,e2,_⟩:=r4 id blk' bz hd
  exact hE.size id blk ga b ab e1 (fun e=>hd (ak.nW (e▸e2))) hb
theorem jW.here (h:jW P A C) (f:Nat) (id:Nat):jW P (A.here f id) C:=by
 intro key ds es hh
 obtain ⟨fn,c,h1,U,h3⟩:=h key ds es hh
 refine ⟨fn,c,h1,U,fun w I μ vals a g b d=>(h3 w I μ vals a g b d).mono fun e w' hx=> ?_⟩
 obtain ⟨v,I2,bW,q1,q2⟩:=hx
 exact ⟨v,I2,bW,q1,⟨q2.vw,q2.le,q2.res⟩⟩
theorem Xh {a b:Out} (h:Cd a b=true):a=b:=by
 cases a<;>cases b<;>simp[Cd] at h<;>first|rfl|(subst h;rfl)
theorem NY {m:Nat} {r:Out × St}: ∀{l:List (Out × Shape)} {j:Nat} {e:Nat × List V},ways m j l r=some e→j≤e.1
 | [],j,e,h=>by cases h
 | (o,S)::l,j,e,h=>by
  simp only[ways] at h
  split at h
  ·cases h;exact bQ _
  ·have:=NY h;omega
theorem Hq {m:Nat} {o:Out} {s:St} {out:Out} {st':St}: ∀{l:List (Out × Shape)} {k:Nat} {e:Nat × List V},ways m k l (o,s)=some e→ji k l e.1 e.2 (fun o st=>some (o,st))=some (out,st')→
  out=o∧∃S,gM m S s=some e.2∧st'=bf S e.2
 | [],k,e,h,_=>by cases h
 | (o',S)::l,k,e,h,U=>by
  simp only[ways] at h
  split at h
  ·rename_i ds hx
   cases h
   cases ho:Cd o' o with
   | false=>rw[ho] at hx;cases hx
   | true=>
    rw[ho] at hx
    have:=Xh ho
    subst this
    cases l with
    | nil=>
     simp only[ji,dA,jb] at U
     exact ⟨U.1.symm,S,hx,U.2.symm⟩
    | cons p l=>
     simp only[ji,iC,cond_true,dA,jb] at U
     exact ⟨U.1.symm,S,hx,U.2.symm⟩
  ·have oc:=NY h
   cases l with
   | nil=>cases h
   | cons p l=>
    have bA:Nat.beq e.1 k=false:=by
     cases hb:Nat.beq e.1 k with
     | false=>rfl
     | true=>rw[aT] at hb;omega
    simp only[ji,bA,cond_false] at U
    exact Hq h U
theorem Xi (hC:jW P A C) (hP:gF P A) (mj:P.follows .mixedOrders=true) {f n m:Nat} (hm: ∀id blk,hp0 id=some blk→id<m) (iv: ∀id e es aq,hp0 id=some (.nest e es aq)→∀k,bx aq k=0):
  ∀(c:Code) {st st':St} {out:Out} {Q:Exit→Act→World→Prop} {a:Act} {w:World},exec P A C f n m c st=some (out,st')→Inv P A.idle A.aG B M w0 μ hp0 n a w st→
   (∀a' w',Inv P A.idle A.aG B M w0 μ hp0 n a' w' st'→Q (vG out) a' w')→c.wp P Q a w:=by
 intro c
 induction c with
 | skip=>
  intro st st' out Q a w h hI hQ
  simp only[exec,dA,jb] at h
  obtain ⟨rfl,rfl⟩:=h
  exact wp_skip (hQ a w hI)
 | exit id=>
  intro st st' out Q a w h hI hQ
  simp only[exec,dA,jb] at h
  obtain ⟨rfl,rfl⟩:=h
  exact wp_exit (hQ a w hI)
 | ret=>
  intro st st' out Q a w h hI hQ
  simp only[exec,dA,jb] at h
  obtain ⟨rfl,rfl⟩:=h
  exact wp_ret (hQ a w hI)
 | region id ops draw=>
  intro st st' out Q a w h hI hQ
  simp only[exec] at h
  obtain ⟨gY,h1,U⟩:=bind_some h
  simp only[dA,jb] at U
  obtain ⟨rfl,rfl⟩:=U
  obtain ⟨I,β,S,hA,hE⟩:=hI
  refine W7 (hC.here f id) (hP.here f id) mj h1 S hA fun a' w' I' β' k1 k2 k3=> ?_
  obtain ⟨I2,l1,l2,l3⟩:=NJ (m:=m) (pur:=A.pur f id) k2 k3
  have Xj:=(hE.trans k1.C9).trans l1.C9
  exact hQ a' w' (Inv.canon ⟨I2,β',l2,l3,Xj⟩ hm iv)
 | seq x y fh fi=>
  intro st st' out Q a w h hI hQ
  simp only[exec] at h
  obtain ⟨⟨o1,gY⟩,h1,U⟩:=bind_some h
  refine wp_seq (fh h1 hI fun a' w' iO=> ?_)
  cases o1 with
  | norm=>exact fi U iO hQ
  | exit id=>
   simp only[dA,jb] at U
   obtain ⟨rfl,rfl⟩:=U
   exact hQ a' w' iO
  | ret=>
   simp only[dA,jb] at U
   obtain ⟨rfl,rfl⟩:=U
   exact hQ a' w' iO
 | cond c x y fh fi=>
  intro st st' out Q a w h hI hQ
  cases c with
  | tmp t=>
   have go: ∀{st st':St} {out:Out} {Q:Exit→Act→World→Prop} {a:Act} {w:World},(match st.sl t with
     | .bool b=>(bif b then exec P A C f n m x st else exec P A C f n m y st).bind fun r=>
      match r.1 with
      | .norm=>some (.norm,AM.canon m (A.join f t) r.2)
      | _=>some r
     | _=>none)=some (out,st')→Inv P A.idle A.aG B M w0 μ hp0 n a w st→(∀a' w',Inv P A.idle A.aG B M w0 μ hp0 n a' w' st'→Q (vG out) a' w')→(Code.cond (.tmp t) x y).wp P Q a w:=by
    intro st st' out Q a w h hI hQ
    cases hs:st.sl t<;>rw[hs] at h<;>simp only at h<;>first|(cases h;done)|skip
    rename_i b
    obtain ⟨⟨o1,gY⟩,h1,U⟩:=bind_some h
    obtain ⟨I,β,S,hA,hE⟩:=hI
    have er:a.eval (.tmp t)= .bool b:=by
     have:=Ng hA hs
     simp[Act.eval,this]
    have fin: ∀a' w',Inv P A.idle A.aG B M w0 μ hp0 n a' w' gY→Q (vG o1) a' w':=by
     intro a' w' iO
     cases o1 with
     | norm=>
      simp only[dA,jb] at U
      obtain ⟨rfl,rfl⟩:=U
      exact hQ a' w' (iO.canon hm iv)
     | exit id=>
      simp only[dA,jb] at U
      obtain ⟨rfl,rfl⟩:=U
      exact hQ a' w' iO
     | ret=>
      simp only[dA,jb] at U
      obtain ⟨rfl,rfl⟩:=U
      exact hQ a' w' iO
    refine wp_cond er ?_
    cases b with
    | true=>exact fh h1 ⟨I,β,S,hA,hE⟩ fin
    | false=>exact fi h1 ⟨I,β,S,hA,hE⟩ fin
   simp only[exec] at h
   split at h
   ·exact go h hI hQ
   ·obtain ⟨ds,h1,U⟩:=bind_some h
    obtain ⟨e,h3,h4⟩:=bind_some U
    obtain ⟨⟨o1,s1⟩,h5,h6⟩:=bind_some h3
    obtain ⟨rfl,S',k1,rfl⟩:=Hq h6 h4
    exact go h5 (hI.reshape h1 hm) fun a' w' iO=>hQ a' w' (iO.reshape k1 hm)
  | const v=>
   cases v with
   | bool b=>
    simp only[exec] at h
    refine wp_cond (t:=b) rfl ?_
    cases b with
    | true=>exact fh h hI hQ
    | false=>exact fi h hI hQ
   | _=>simp only[exec] at h;cases h
  | _=>simp only[exec] at h;cases h
 | block id c ih=>
  intro st st' out Q a w h hI hQ
  simp only[exec] at h
  obtain ⟨⟨o1,gY⟩,h1,U⟩:=bind_some h
  refine wp_block (ih h1 hI fun a' w' iO=> ?_)
  cases o1 with
  | norm=>
   simp only[dA,jb] at U
   obtain ⟨rfl,rfl⟩:=U
   exact hQ a' w' (iO.canon hm iv)
  | exit aF=>
   simp only at U
   cases hb:Nat.beq aF id with
   | true=>
    rw[hb] at U
    simp only[cond_true,dA,jb] at U
    obtain ⟨rfl,rfl⟩:=U
    rw[aT] at hb
    simp only[vG,Exit.inBlock,hb,cP]
    exact hQ a' w' (iO.canon hm iv)
   | false=>
    rw[hb] at U
    simp only[cond_false,dA,jb] at U
    obtain ⟨rfl,rfl⟩:=U
    have bA:aF≠id:=fun e=>by rw[e,iC] at hb;cases hb
    simp only[vG,Exit.inBlock,bA,fa]
    exact hQ a' w' iO
  | ret=>
   simp only[dA,jb] at U
   obtain ⟨rfl,rfl⟩:=U
   exact hQ a' w' iO
 | loop c ih=>
  intro st st' out Q a w h hI hQ
  simp only[exec] at h
  split at h
  ·cases h
  ·rename_i S hS
   obtain ⟨ds,h1,U⟩:=bind_some h
   obtain ⟨e,h3,h4⟩:=bind_some U
   obtain ⟨k,hk⟩:=uL h3
   refine Xg (J:=fun k a w=> ∃ds,Inv P A.idle A.aG B M w0 μ hp0 n a w (bf S.1 ds)∧dW (fun ds=>jN m S.1 S.2 (exec P A C f n m c (bf S.1 ds))) k ds=some e) (fun a w ⟨s,_,h⟩=>by cases h) (fun k a w ⟨ds,hs,hk⟩=> ?_) ⟨ds,hI.reshape h1 hm,hk⟩
   simp only[dW] at hk
   obtain ⟨y,h5,h6⟩:=bind_some hk
   unfold jN at h5
   obtain ⟨⟨o1,s1⟩,h7,h8⟩:=bind_some h5
   refine ih h7 hs fun a' w' iO=> ?_
   have NZ: ∀{e':Nat × List V},ways m 0 S.2 (o1,s1)=some e'→e'=e→Q (vG o1) a' w':=by
    intro e' q1 q2
    subst q2
    obtain ⟨rfl,S',k1,rfl⟩:=Hq q1 h4
    exact hQ a' w' (iO.reshape k1 hm)
   cases o1 with
   | norm=>
    obtain ⟨Xk,q1,q2⟩:=bind_some h8
    cases q2
    exact ⟨Xk,iO.reshape q1 hm,h6⟩
   | exit id=>
    obtain ⟨e',q1,q2⟩:=bind_some h8
    cases q2
    cases h6
    exact NZ q1 rfl
   | ret=>
    obtain ⟨e',q1,q2⟩:=bind_some h8
    cases q2
    cases h6
    exact NZ q1 rfl
 | _=>intro st st' out Q a w h;simp only[exec] at h;cases h
end
section
variable {P:Program} {A:cl} {w w':World} {I I' I2:Nat→Prop} {μ β β' bW:Nat→Option Nat} {hp hp' hp0:Nat→Option ak} {C:af} {B:Nat} {M:Nat→Prop} {w0:Start}
theorem Du (S:aH P w I β hp B M w0) {a:Act} {st:St} (hs:jP P w I β hp a st.sl): ∀{l:List ResultVar} {xs:List V} {rd:List Nat},(sh P st l).run C hp=some (xs,rd)→
  ∃vs:List Value,(l.mapM fun| .tmp t=>Pure.pure (a.tmps.getD t undef)| .cell x t=>do loadVar t (←asAddr (a.tmps.getD x undef)):Sem (List Value)).run P w= .ok vs w∧vs.length=xs.length∧l.length=xs.length∧
   ∀(j:Nat) v x,vs[j]? =some v→xs[j]? =some x→ao P w I β hp v x
 | [],xs,rd,h=>by
  cases h
  exact ⟨[],by simp,rfl,rfl,by simp⟩
 | .tmp t::l,xs,rd,h=>by
  simp only[sh] at h
  obtain ⟨ys,l1,l2,h1,U⟩:=jQ h
  have h3:=FX U
  subst h3
  obtain ⟨vs,a1,a2,a3,a4⟩:=Du S hs h1
  refine ⟨a.tmps.getD t undef::vs,by simp only[List.mapM_cons,Sem.run_bind,Sem.run_pure,Result.andThen_ok,a1],by simp[a2],by simp[a3],fun j v x hj hx=> ?_⟩
  cases j with
  | zero=>simp at hj hx;subst hj;subst hx;have:=hs t;simpa using this
  | succ j=>exact a4 j v x (by simpa using hj) (by simpa using hx)
 | .cell y t::l,xs,rd,h=>by
  simp only[sh] at h
  obtain ⟨r,l1,l2,h1,U⟩:=jQ h
  obtain ⟨ys,l3,l4,h3,h4⟩:=jQ U
  have h5:=FX h4
  subst h5
  obtain ⟨v0,b1,b2,b3,ad,b4⟩:=Lt S (hs y) h1
  obtain ⟨vs,a1,a2,a3,a4⟩:=Du S hs h3
  refine ⟨v0::vs,?_,by simp[a2],by simp[a3],fun j v x hj hx=> ?_⟩
  ·have e1:(do loadVar t (←asAddr (a.tmps.getD y undef)):Sem Value).run P w= .ok v0 w:=by
    rw[b4] at b1⊢
    simpa[Instr.loadAt,Instr.sureAddr,asAddr] using b1
   simp only[List.mapM_cons,Sem.run_bind,e1,Result.andThen_ok,a1,Sem.run_pure]
  cases j with
  | zero=>simp at hj hx;subst hj;subst hx;exact b2
  | succ j=>exact a4 j v x (by simpa using hj) (by simpa using hx)
def s8:List Value→Value
 | [v]=>v
 | l=> .tuple l.toArray
theorem Xl {vs:List Value} (h:vs.length≠1):s8 vs= .tuple vs.toArray:=by
 match vs,h with
 | [],_=>rfl
 | [v],h=>simp at h
 | v::v2::l,_=>rfl
theorem Xm {fn:Func} {a:Act} {st:St} (S:aH P w I β st.hp B M w0) (hs:jP P w I β st.hp a st.sl) {xs:List V} {rd:List Nat} (h:(sh P st fn.results.toList).run C st.hp=some (xs,rd)):
  ∃vs:List Value,(results fn a.tmps).run P w= .ok (s8 vs) w∧vs.length=xs.length∧
   ∀(j:Nat) v x,vs[j]? =some v→xs[j]? =some x→ao P w I β st.hp v x:=by
 obtain ⟨vs,a1,a2,_,a4⟩:=Du S hs h
 refine ⟨vs,?_,a2,a4⟩
 unfold results
 rw[Array.mapM_eq_mapM_toList]
 simp only[map_eq_pure_bind,bind_assoc,pure_bind,Sem.run_bind]
 refine (congrArg (fun r:Result (List Value)=>r.andThen _) a1).trans ?_
 simp only[Result.andThen_ok,Sem.run_pure]
 match vs with
 | []=>simp[s8]
 | [v]=>simp[s8]
 | v::v2::l=>simp[s8]
theorem N0: ∀{args:List V} {i k:Nat},dj (lW i args) k=if i≤k then args[k-i]? else none
 | [],i,k=>by simp[lW,dj]
 | v::vs,i,k=>by
  simp only[lW,dj]
  cases hb:Nat.beq k i with
  | true=>
   rw[aT] at hb
   subst hb
   simp
  | false=>
   have bA:k≠i:=fun e=>by rw[e,iC] at hb;cases hb
   simp only[cond_false,N0]
   by_cases h:i≤k
   ·rw[ag (by omega),ag h]
    obtain ⟨d,rfl⟩: ∃d,k=i+1+d:=⟨k-(i+1),by omega⟩
    rw[show i+1+d-(i+1)=d by omega,show i+1+d-i=d+1 by omega]
    rfl
   ·rw[ai (by omega),ai h]
theorem Hr: ∀{l:List (Nat × VS)} {ds:List V} {i k:Nat},gy i l=true→dj (eK l ds) k=if i≤k then (eT (l.map (·.2)) ds)[k-i]? else none
 | [],ds,i,k,_=>by simp[eK,eT,dj]
 | (q,s)::l,ds,i,k,h=>by
  simp only[gy,aM,aT] at h
  obtain ⟨rfl,h⟩:=h
  simp only[eK,dj,dB,eT]
  cases hb:Nat.beq k q with
  | true=>
   rw[aT] at hb
   subst hb
   simp
  | false=>
   have bA:k≠q:=fun e=>by rw[e,iC] at hb;cases hb
   simp only[cond_false]
   rw[Hr h]
   by_cases h:q≤k
   ·rw[ag (by omega),ag h]
    obtain ⟨d,rfl⟩: ∃d,k=q+1+d:=⟨k-(q+1),by omega⟩
    rw[show q+1+d-(q+1)=d by omega,show q+1+d-q=d+1 by omega]
    rfl
   ·rw[ai (by omega),ai h]
theorem N3: ∀{l:List (Nat × VS)} {ds:List V},(eK l ds).map (·.2)=eT (l.map (·.2)) ds
 | [],_=>rfl
 | (q,s)::l,ds=>by simp only[eK,dB,eT,N3]
theorem Hs: ∀{l:List VS} {ds:List V},(eT l ds).length=l.length
 | [],_=>rfl
 | s::l,ds=>by simp only[eT,List.length_cons,Hs]
theorem N4: ∀{l:List (Nat × VS)} {ds:List V},(eK l ds).length=l.length
 | [],_=>rfl
 | (q,s)::l,ds=>by simp only[eK,List.length_cons,N4]
theorem Xn {vals:List Value} {l:List (Nat × V)} (hl:vals.length=l.length) (h: ∀(j:Nat) v y,vals[j]? =some v→(l.map (·.2))[j]? =some y→ao P w I β hp v y):ao P w I β hp (s8 vals) (nU l):=by
 match l,hl,h with
 | [],hl,h=>
  obtain rfl:vals=[]:=j8 hl
  exact .bh rfl fun j v x _ hx=>by simp at hx
 | [(k,y)],hl,h=>
  match vals,hl,h with
  | [v],_,h=>exact h 0 v y rfl rfl
 | a::b::l,hl,h=>
  have bA:vals.length≠1:=by rw[hl];simp
  rw[Xl bA]
  simp only[nU]
  exact .bh (by simp[hl]) fun j v y hj hy=>h j v y (by simpa using hj) hy
theorem Xo {l:List BS} {ds:List V} {j:Nat} {e:TypeId} {es:List V} {aq:List Nat} (h:(dY l ds)[j]? =some (.nest e es aq)) (k:Nat):bx aq k=0:=by
 obtain ⟨b,eO,_,U⟩:=G8 h
 cases b<;>simp only[ff] at U<;>cases U
 match k with
 | 0=>rfl
 | 1=>rfl
 | 2=>rfl
 | _+3=>rfl
theorem Xp {f n m:Nat} {fn:Func} {a:Act} {st:St} {es:List V} {rd:List Nat} (hm: ∀id blk,hp0 id=some blk→id<m) (iv: ∀id e es aq,hp0 id=some (.nest e es aq)→∀k,bx aq k=0)
  (hI:Inv P A.idle A.aG B M w0 μ hp0 n a w st) (nj:gy 0 (A.eJ f).bw=true) (aW:(A.eJ f).bw.length=fn.results.size) (h:(si P A f fn m st).run C st.hp=some (es,rd)):
  ∃v I2 bW,(results fn a.tmps).run P w= .ok v w∧aH P w I2 bW (bf (A.so f es) (A.lv f es)).hp B M w0∧jV w0.w w0.I μ hp0 w I2 bW (bf (A.so f es) (A.lv f es)).hp∧ao P w I2 bW (bf (A.so f es) (A.lv f es)).hp v (nU (eK (A.so f es).bw (A.lv f es))):=by
 unfold si at h
 obtain ⟨xs,l1,l2,h1,U⟩:=jQ h
 obtain ⟨I,β,S,hA,hE⟩:=hI
 obtain ⟨vals,e1,e2,e3⟩:=Xm S hA.sl h1
 have e4:fn.results.size=xs.length:=by
  obtain ⟨_,_,_,q,_⟩:=Du S hA.sl h1
  simpa using q
 have fin: ∀(Sx:Shape) (es:List V),gy 0 Sx.bw=true→Sx.bw.length=fn.results.size→gM m Sx (canon m (List.range xs.length) (freeze m (A.sb f) ⟨ij (lW 0 xs),st.hp,st.nb⟩))=some es→
   ∃v I2 bW,(results fn a.tmps).run P w= .ok v w∧aH P w I2 bW (bf Sx es).hp B M w0∧jV w0.w w0.I μ hp0 w I2 bW (bf Sx es).hp∧ao P w I2 bW (bf Sx es).hp v (nU (eK Sx.bw es)):=by
  intro Sx es nj aW s9
  have Xq:gX P A.idle A.aG w I β vals.length ⟨vals.toArray,[]⟩ ⟨ij (lW 0 xs),st.hp,st.nb⟩:=by
   refine ⟨fun k=> ?_,by simp,by simp,hA.aG⟩
   change ao P w I β st.hp _ (ij (lW 0 xs) k)
   unfold ij
   rw[N0]
   simp only[jI,cP,Nat.sub_zero]
   cases hk:xs[k]? with
   | none=>exact .undef
   | some x=>
    have ky:k<vals.length:=by rw[e2];exact (bj.1 hk).1
    have:=e3 k vals[k] x (bO ky) hk
    have e5:(vals.toArray).getD k undef=vals[k]:=by simp[ky]
    rw[Option.getD_some]
    exact e5▸this
  obtain ⟨I2,k1,k2,k3⟩:=NJ (st:=⟨ij (lW 0 xs),st.hp,st.nb⟩) (m:=m) (pur:=A.sb f) S Xq
  have Xr:Inv P A.idle A.aG B M w0 μ hp0 vals.length ⟨vals.toArray,[]⟩ w (freeze m (A.sb f) ⟨ij (lW 0 xs),st.hp,st.nb⟩):=⟨I2,β,k2,k3,hE.trans k1.C9⟩
  obtain ⟨I3,N5,q1,q2,q3⟩:=(Xr.canon (live:=List.range xs.length) hm iv).reshape s9 hm
  refine ⟨s8 vals,I3,N5,e1,q1,q3,Xn (by rw[N4,aW,e4,e2]) fun j v y hj hy=> ?_⟩
  have hv:=q2.sl j
  have b8:=(bj.1 hj).1
  have e5:(vals.toArray).getD j undef=v:=by
   have:=(bj.1 hj).2
   simp[b8,this]
  change ao P w I3 N5 _ ((vals.toArray).getD j undef) (ij (eK Sx.bw _) j) at hv
  rw[e5] at hv
  unfold ij at hv
  rw[Hr nj] at hv
  simp only[jI,cP,Nat.sub_zero] at hv
  rw[N3] at hy
  rw[hy] at hv
  exact hv
 unfold cl.so cl.lv
 cases b9:A.alt f with
 | none=>
  rw[b9] at U
  simp only at U⊢
  split at U
  ·rename_i eO s9
   have:=aP U
   subst this
   exact fin _ _ nj aW s9
  ·cases U
 | some S2=>
  rw[b9] at U
  simp only at U⊢
  split at U
  ·rename_i eO s9
   have:=aP U
   subst this
   exact fin _ _ nj aW s9
  ·split at U
   ·rename_i eO s9
    obtain ⟨hc,h3⟩:=aK U
    simp only[aM,aT] at hc
    have:=aP h3
    subst this
    exact fin _ _ hc.1 hc.2 s9
   ·cases U
theorem Xs (hC:jW P A C) (hP:gF P A) (mj:P.follows .mixedOrders=true):jW P A (mY P A C):=by
 intro f ds es h
 unfold mY at h
 cases hf:P.funcs[A.aX f]? with
 | none=>rw[hf] at h;cases h
 | some fn=>
  rw[hf] at h
  simp only at h
  cases hb:fn.body with
  | none=>rw[hb] at h;cases h
  | some c=>
   rw[hb] at h
   simp only at h
   cases hc:(gy 0 (A.sin f).bw&&(Nat.ble (A.sin f).bw.length fn.ntmps&&((A.sin f).ok&&(gy 0 (A.eJ f).bw&&(Nat.beq (A.eJ f).bw.length fn.results.size&&mV (kU (A.sin f).aY.length (A.mv f))))))) with
   | false=>rw[hc] at h;cases h
   | true=>
    rw[hc] at h
    simp only[cond_true] at h
    simp only[aM,aT,eR] at hc
    obtain ⟨jt,hnt,_,vC,aW,ju⟩:=hc
    obtain ⟨⟨out,st'⟩,h1,U⟩:=bind_some h
    refine ⟨fn,c,rfl,hb,fun w I μ vals hH Xt hl hv=> ?_⟩
    have Xu:(∀id,out≠ .exit id)∧∃rd,(si P A f fn (A.sin f).aY.length st').run C st'.hp=some (es,rd):=by
     cases out with
     | exit id=>cases U
     | norm=>
      refine ⟨by simp,?_⟩
      simp only[xC] at U
      obtain ⟨⟨x,rd⟩,e1,e2⟩:=U
      simp only at e2
      subst e2
      exact ⟨rd,e1⟩
     | ret=>
      refine ⟨by simp,?_⟩
      simp only[xC] at U
      obtain ⟨⟨x,rd⟩,e1,e2⟩:=U
      simp only at e2
      subst e2
      exact ⟨rd,e1⟩
    obtain ⟨bA,rd,GZ⟩:=Xu
    refine calls_of_wp_defers hf hb ?_
    have hm: ∀id blk,(bf (A.sin f) ds).hp id=some blk→id<(A.sin f).aY.length:=by
     intro id blk ab
     simp only[bf,mk,gi] at ab
     have:=(bj.1 ab).1
     rwa [Dt] at this
    have iv: ∀id e es aq,(bf (A.sin f) ds).hp id=some (.nest e es aq)→∀k,bx aq k=0:=by
     intro id e es aq ab k
     simp only[bf,mk,gi] at ab
     exact Xo ab k
    refine Xi (w0:=⟨w,I⟩) (μ:=μ) (hp0:=(bf (A.sin f) ds).hp) (B:=w.heap.size) (M:=nh P w μ (bf (A.sin f) ds).hp) hC hP mj hm iv c h1 ?_ ?_
    ·refine Inv.enter ju ?_ hm iv fun p hp=>by
      simp only[bf,mk,gi]
      rw[List.getElem?_eq_none_iff,Dt]
      exact hp
     refine ⟨I,μ,⟨hH,fun _ _ _=>rfl,bQ _,fun b h=> .inl h,⟨rfl,rfl⟩⟩,⟨fun k=> ?_,?_,by simp,Xt⟩,(Le.refl (P:=P) w I μ _).C9⟩
     ·change ao P w I μ _ _ (ij (eK (A.sin f).bw ds) k)
      unfold ij
      rw[Hr jt]
      simp only[jI,cP,Nat.sub_zero]
      cases hk:(eT ((A.sin f).bw.map (·.2)) ds)[k]? with
      | none=>exact .undef
      | some x=>
       have ky:k<vals.length:=by
        have:=(bj.1 hk).1
        rw[Hs,bM] at this
        rw[hl];exact this
       have:=hv k vals[k] x (bO ky) hk
       have e1:(vals.toArray++Array.replicate (fn.ntmps-vals.toArray.size) undef).getD k undef=vals[k]:=by
        simp[Array.getElem?_append,ky]
       rw[Option.getD_some]
       exact e1▸this
     ·simp
      omega
    ·intro a' w' hI
     obtain ⟨v,I2,bW,q1,q2,q3,q4⟩:=Xp hm iv hI vC aW GZ
     obtain ⟨_,_,_,hA,_⟩:=hI
     cases out with
     | exit id=>exact absurd rfl (bA id)
     | norm=>exact He hP q1 ⟨v,I2,bW,rfl,q2,q3,q4⟩ _ hA.defers
     | ret=>exact He hP q1 ⟨v,I2,bW,rfl,q2,q3,q4⟩ _ hA.defers
theorem N6 (hP:gF P A) (mj:P.follows .mixedOrders=true): ∀n,jW P A (jk P A n)
 | 0=>fun _ _ _ h=>by cases h
 | n+1=>Xs (N6 hP mj n) hP mj
theorem Xv (hP:gF P A) (mj:P.follows .mixedOrders=true):jW P A (Call P A):=by
 intro f ds es h
 have hn: ∃n,jk P A n f ds=some es:=by
  unfold Call at h
  split at h
  ·rename_i hex
   have:=hex.choose_spec.choose_spec
   rw[cC h] at this
   exact ⟨_,this⟩
  ·cases h
 obtain ⟨n,hn⟩:=hn
 exact N6 hP mj n f ds es hn
end
section
variable {P:Program} {A:cl} {C:af} {D:Nat→af}
def zb (C:af) (D:Nat→af):Prop:= ∀f a r,C f a=some r→∃n,∀k,n≤k→D k f a=some r
theorem oq {α:Type} (h:zb C D) {hp:Nat→Option ak}: ∀{p:Rd α} {r:α × List Nat},p.run C hp=some r→∃n,∀k,n≤k→p.run (D k) hp=some r
 | .ret a,r,e=>⟨0,fun _ _=>e⟩
 | .fail,r,e=>by cases e
 | .get id q,r,e=>by
  obtain ⟨x,h1,U⟩:=bind_some e
  obtain ⟨n,hn⟩:=oq h h1
  exact ⟨n,fun k hk=>by simp only[Rd.run,hn k hk,Option.bind_some];exact U⟩
 | .opt o q,r,e=>by
  obtain ⟨x,h1,U⟩:=bind_some e
  obtain ⟨n,hn⟩:=oq h U
  exact ⟨n,fun k hk=>by simp only[Rd.run,h1,Option.bind_some];exact hn k hk⟩
 | .live id ok q,r,e=>by
  simp only[Rd.run] at e
  cases hk:ok (fA (hp id)) with
  | false=>rw[hk] at e;cases e
  | true=>
   rw[hk] at e
   obtain ⟨x,h1,U⟩:=bind_some e
   obtain ⟨n,hn⟩:=oq h h1
   exact ⟨n,fun k oo=>by simp only[Rd.run,hk,cond_true,hn k oo,Option.bind_some];exact U⟩
 | .aE b q,r,e=>by
  obtain ⟨h1,U⟩:=aK e
  obtain ⟨n,hn⟩:=oq h U
  exact ⟨n,fun k hk=>by simp only[Rd.run,h1,cond_true];exact hn k hk⟩
 | .call f a q,r,e=>by
  obtain ⟨x,h1,U⟩:=bind_some e
  obtain ⟨n1,jt⟩:=h f a x h1
  obtain ⟨n2,vC⟩:=oq h U
  exact ⟨max n1 n2,fun k hk=>by simp only[Rd.run,jt k (by omega),Option.bind_some];exact vC k (by omega)⟩
 | .alt true x y,r,e=>oq (p:=x) h e
 | .alt false x y,r,e=>oq (p:=y) h e
theorem Xw (h:zb C D) {n i nb:Nat} {ops:Array Oper} {o:Oper} {st:St} {r:St × List Nat × List Nat} (e:fZ P A C n ops i o nb st=some r): ∃N,∀k,N≤k→fZ P A (D k) n ops i o nb st=some r:=by
 unfold fZ at e
 have go:(((eU P A st.sl i (nb+64*i) o).run C st.hp).bind fun r=>some ((⟨gu st.sl o.dst r.1.v,bE st.hp r.1.upd,st.nb⟩:St),pq r.2 r.1.upd,fg st.hp r.1.upd))=some r→
   ∃N,∀k,N≤k→(((eU P A st.sl i (nb+64*i) o).run (D k) st.hp).bind fun r=>some ((⟨gu st.sl o.dst r.1.v,bE st.hp r.1.upd,st.nb⟩:St),pq r.2 r.1.upd,fg st.hp r.1.upd))=some r:=by
  intro e
  obtain ⟨x,h1,U⟩:=bind_some e
  obtain ⟨N,hN⟩:=oq h h1
  exact ⟨N,fun k hk=>by rw[hN k hk];exact U⟩
 unfold fZ
 cases hd:qM o n with
 | false=>rw[hd] at e;cases e
 | true=>
  rw[hd] at e
  simp only[cond_true] at e⊢
  cases hg:o.guard with
  | none=>rw[hg] at e;exact go e
  | some gw=>
   obtain ⟨g,want⟩:=gw
   rw[hg] at e
   simp only at e⊢
   cases kD:(ops[g]?).bind (·.dst) with
   | none=>rw[kD] at e;cases e
   | some d=>
    rw[kD] at e
    simp only at e⊢
    cases ll:kg (st.sl d) with
    | none=>rw[ll] at e;cases e
    | some ob=>
    rw[ll] at e
    cases ob with
    | none=>exact ⟨0,fun _ _=>e⟩
    | some b=>
    simp only at e⊢
    cases hb:b==want with
    | true=>rw[hb] at e;exact go e
    | false=>rw[hb] at e;exact ⟨0,fun _ _=>e⟩
theorem N7 (h:zb C D) {n nb:Nat} {ops:Array Oper}: ∀{l:List (Nat × Oper)} {st:St} {log:Log} {r:St × Log},nV P A C n ops nb l st log=some r→∃N,∀k,N≤k→nV P A (D k) n ops nb l st log=some r
 | [],st,log,r,e=>⟨0,fun _ _=>e⟩
 | (i,o)::l,st,log,r,e=>by
  obtain ⟨x,h1,U⟩:=bind_some e
  obtain ⟨N1,nk⟩:=Xw h h1
  obtain ⟨N2,pW⟩:=N7 h U
  exact ⟨max N1 N2,fun k hk=>by simp only[nV,nk k (by omega),Option.bind_some];exact pW k (by omega)⟩
theorem N8 {X R:Type} {step:X→Option (X ⊕ R)} {stepD:Nat→X→Option (X ⊕ R)} (hs: ∀x y,step x=some y→∃N,∀k,N≤k→stepD k x=some y): ∀(n:Nat) (x:X) (r:R),dW step n x=some r→∃N,∀k,N≤k→dW (stepD k) n x=some r
 | 0,x,r,e=>by cases e
 | n+1,x,r,e=>by
  simp only[dW] at e⊢
  obtain ⟨y,h1,U⟩:=bind_some e
  obtain ⟨N1,nk⟩:=hs x y h1
  cases y with
  | inl z=>
   obtain ⟨N2,pW⟩:=N8 hs n z r U
   exact ⟨max N1 N2,fun k hk=>by rw[nk k (by omega)];exact pW k (by omega)⟩
  | inr q=>exact ⟨N1,fun k hk=>by rw[nk k hk];exact U⟩
theorem Xx (h:zb C D) {f n m:Nat}: ∀(c:Code) {st:St} {r:Out × St},exec P A C f n m c st=some r→∃N,∀k,N≤k→exec P A (D k) f n m c st=some r:=by
 intro c
 induction c with
 | skip=>exact fun e=>⟨0,fun _ _=>e⟩
 | exit id=>exact fun e=>⟨0,fun _ _=>e⟩
 | ret=>exact fun e=>⟨0,fun _ _=>e⟩
 | region id ops draw=>
  intro st r e
  simp only[exec] at e⊢
  obtain ⟨x,h1,U⟩:=bind_some e
  obtain ⟨y,h3,h4⟩:=bind_some h1
  obtain ⟨N,hN⟩:=N7 h h3
  refine ⟨N,fun k hk=> ?_⟩
  have:u0 P (A.here f id) (D k) n ops draw st=some x:=by
   unfold u0
   rw[hN k hk]
   exact h4
  rw[this]
  exact U
 | seq x y fh fi=>
  intro st r e
  simp only[exec] at e⊢
  obtain ⟨⟨o,s1⟩,h1,U⟩:=bind_some e
  obtain ⟨N1,nk⟩:=fh h1
  cases o with
  | norm=>
   obtain ⟨N2,pW⟩:=fi U
   exact ⟨max N1 N2,fun k hk=>by rw[nk k (by omega)];exact pW k (by omega)⟩
  | exit id=>exact ⟨N1,fun k hk=>by rw[nk k hk];exact U⟩
  | ret=>exact ⟨N1,fun k hk=>by rw[nk k hk];exact U⟩
 | cond c x y fh fi=>
  intro st r e
  cases c with
  | tmp t=>
   have go: ∀{st:St} {r:Out × St},(match st.sl t with
     | .bool b=>(bif b then exec P A C f n m x st else exec P A C f n m y st).bind fun r=>
      match r.1 with
      | .norm=>some (.norm,canon m (A.join f t) r.2)
      | _=>some r
     | _=>none)=some r→∃N,∀k,N≤k→(match st.sl t with
     | .bool b=>(bif b then exec P A (D k) f n m x st else exec P A (D k) f n m y st).bind fun r=>
      match r.1 with
      | .norm=>some (.norm,canon m (A.join f t) r.2)
      | _=>some r
     | _=>none)=some r:=by
    intro st r e
    cases hs:st.sl t<;>rw[hs] at e<;>simp only at e⊢ <;>first|(cases e;done)|skip
    rename_i b
    obtain ⟨x1,h1,U⟩:=bind_some e
    cases b with
    | true=>
     obtain ⟨N,hN⟩:=fh h1
     exact ⟨N,fun k hk=>by simp only[cond_true,hN k hk,Option.bind_some];exact U⟩
    | false=>
     obtain ⟨N,hN⟩:=fi h1
     exact ⟨N,fun k hk=>by simp only[cond_false,hN k hk,Option.bind_some];exact U⟩
   simp only[exec] at e⊢
   split at e
   ·rename_i hS
    obtain ⟨N,hN⟩:=go e
    exact ⟨N,fun k hk=>hN k hk⟩
   ·rename_i S hS
    obtain ⟨ds,h1,U⟩:=bind_some e
    obtain ⟨e',h3,h4⟩:=bind_some U
    obtain ⟨r1,h5,h6⟩:=bind_some h3
    obtain ⟨N,hN⟩:=go h5
    refine ⟨N,fun k hk=> ?_⟩
    try rw[hS]
    simp only[h1,Option.bind_some]
    exact (congrArg (fun z:Option (Out × St)=>(z.bind fun r=>ways m 0 S.2 r).bind fun e=>ji 0 S.2 e.1 e.2 fun o st=>some (o,st)) (hN k hk)).trans (by simp only[Option.bind_some,h6];exact h4)
  | const v=>
   cases v with
   | bool b=>
    simp only[exec] at e⊢
    cases b with
    | true=>exact fh e
    | false=>exact fi e
   | _=>simp only[exec] at e;cases e
  | _=>simp only[exec] at e;cases e
 | block id c ih=>
  intro st r e
  simp only[exec] at e⊢
  obtain ⟨x1,h1,U⟩:=bind_some e
  obtain ⟨N,hN⟩:=ih h1
  exact ⟨N,fun k hk=>by rw[hN k hk];exact U⟩
 | loop c ih=>
  intro st r e
  simp only[exec] at e⊢
  split at e
  ·cases e
  ·rename_i S hS
   obtain ⟨ds,h1,U⟩:=bind_some e
   obtain ⟨e',h3,h4⟩:=bind_some U
   obtain ⟨q,hq⟩:=uL h3
   obtain ⟨N,hN⟩:=N8 (stepD:=fun k ds=>jN m S.1 S.2 (exec P A (D k) f n m c (bf S.1 ds))) (fun x y ta=>by
    unfold jN at ta⊢
    obtain ⟨z,h5,h6⟩:=bind_some ta
    obtain ⟨N,hN⟩:=ih h5
    exact ⟨N,fun k hk=>by rw[hN k hk];exact h6⟩) q ds e' hq
   refine ⟨N,fun k hk=> ?_⟩
   try rw[hS]
   simp only[h1,Option.bind_some]
   rw[uK (hN k hk)]
   exact h4
 | _=>intro st r e;simp only[exec] at e;cases e
theorem Dv (h:zb C D) {f:Nat} {ds es:List V} (e:mY P A C f ds=some es): ∃N,∀k,N≤k→mY P A (D k) f ds=some es:=by
 unfold mY at e⊢
 cases hf:P.funcs[A.aX f]? with
 | none=>rw[hf] at e;cases e
 | some fn=>
  rw[hf] at e
  simp only at e⊢
  cases hb:fn.body with
  | none=>rw[hb] at e;cases e
  | some c=>
   rw[hb] at e
   simp only at e⊢
   cases hc:(gy 0 (A.sin f).bw&&(Nat.ble (A.sin f).bw.length fn.ntmps&&((A.sin f).ok&&(gy 0 (A.eJ f).bw&&(Nat.beq (A.eJ f).bw.length fn.results.size&&mV (kU (A.sin f).aY.length (A.mv f))))))) with
   | false=>rw[hc] at e;cases e
   | true=>
    rw[hc] at e
    simp only[cond_true] at e⊢
    obtain ⟨⟨o,s1⟩,h1,U⟩:=bind_some e
    obtain ⟨N1,nk⟩:=Xx h c h1
    cases o with
    | exit id=>cases U
    | norm=>
     simp only[xC] at U
     obtain ⟨x,e1,e2⟩:=U
     obtain ⟨N2,pW⟩:=oq h e1
     exact ⟨max N1 N2,fun k hk=>by rw[nk k (by omega)];simp only[Option.bind_some,pW k (by omega),Option.map_some,e2]⟩
    | ret=>
     simp only[xC] at U
     obtain ⟨x,e1,e2⟩:=U
     obtain ⟨N2,pW⟩:=oq h e1
     exact ⟨max N1 N2,fun k hk=>by rw[nk k (by omega)];simp only[Option.bind_some,pW k (by omega),Option.map_some,e2]⟩
theorem N9: ∀n f a r,jk P A n f a=some r→jk P A (n+1) f a=some r
 | 0,f,a,r,h=>by cases h
 | n+1,f,a,r,h=>by
  obtain ⟨N,hN⟩:=Dv (C:=jk P A n) (D:=fun _=>jk P A (n+1)) (fun f a r h=>⟨0,fun _ _=>N9 n f a r h⟩) h
  exact hN N (bQ _)
theorem Ht {n k:Nat} (hk:n≤k) {f:Nat} {a r:List V} (h:jk P A n f a=some r):jk P A k f a=some r:=by
 induction hk with
 | refl=>exact h
 | step _ ih=>exact N9 _ _ _ _ ih
theorem zc {f:Nat} {a r:List V}:Call P A f a=some r↔∃n,jk P A n f a=some r:=by
 constructor
 ·intro h
  unfold Call at h
  split at h
  ·rename_i hex
   have:=hex.choose_spec.choose_spec
   rw[cC h] at this
   exact ⟨_,this⟩
  ·cases h
 ·rintro ⟨n,hn⟩
  have hex: ∃n r,jk P A n f a=some r:=⟨n,r,hn⟩
  unfold Call
  rw[qt hex]
  have U:=hex.choose_spec.choose_spec
  have h3:=Ht (Nat.le_max_left n hex.choose) hn
  have h4:=Ht (Nat.le_max_right n hex.choose) U
  rw[h3] at h4
  exact h4.symm
theorem Xy (f:Nat) (a:List V):Call P A f a=mY P A (Call P A) f a:=by
 apply Option.ext
 intro r
 constructor
 ·intro h
  obtain ⟨n,hn⟩:=zc.1 h
  cases n with
  | zero=>cases hn
  | succ n=>
   obtain ⟨N,hN⟩:=Dv (C:=jk P A n) (D:=fun _=>Call P A) (fun f a r h=>⟨0,fun _ _=>zc.2 ⟨n,h⟩⟩) hn
   exact hN N (bQ _)
 ·intro h
  obtain ⟨N,hN⟩:=Dv (C:=Call P A) (D:=jk P A) (fun f a r h=>by
   obtain ⟨n,hn⟩:=zc.1 h
   exact ⟨n,fun k hk=>Ht hk hn⟩) h
  exact zc.2 ⟨N+1,hN N (bQ _)⟩
end
end Go.AM
namespace Go.AM
open Go.ChangeShapes Go.WideShapes Go.RowKit
section
variable (P:Program)
inductive WT:TypeId→V→Prop
 | int {t:TypeId} {k:IntKind} {n:Int}:P.underlying t=some (.int k)→(Lit.int k n).wf=true→WT t (.int k n)
 | bool {t:TypeId} {b:Bool}:P.underlying t=some .bool→WT t (.bool b)
 | str {t:TypeId} {l:List UInt8}:P.underlying t=some .string→l.length≤maxLen→WT t (.str l)
 | list {t e:TypeId} {es:List V}:P.underlying t=some (.slice e)→es.length≤maxLen→
   (∀(i:Nat) x,es[i]? =some x→bC P e=true→∃xs,x= .agg xs∧xs.length=(aV P e).length)→
   (∀(i j:Nat) x t',es[i]? =some x→(aV P e)[j]? =some t'→WT t' (bH P e x j))→WT t (.list e es)
def iX (t:TypeId) (x:V):Prop:=
 (bC P t=true→∃xs,x= .agg xs∧xs.length=(aV P t).length)∧∀(j:Nat) t',(aV P t)[j]? =some t'→WT P t' (bH P t x j)
def o4:List TypeId→List V→Prop
 | [],[]=>True
 | t::ts,x::xs=>iX P t x∧o4 ts xs
 | _,_=>False
def hasB (L:List TypeId) (t:TypeId):Bool:=L.any fun u=>Nat.beq u t
def Dw (L:List TypeId):Nat→List Field→Bool
 | _,[]=>true
 | n,f::fs=>hasB L f.type&&(Nat.beq f.offset n&&(Nat.beq (P.cellsOf f.type) (aV P f.type).length&&Dw L (n+P.cellsOf f.type) fs))
def zd:List Nat→List Nat→Bool
 | [],[]=>true
 | a::l,b::m=>Nat.beq a b&&zd l m
 | _,_=>false
def Hu (L:List TypeId) (t:TypeId):Bool:=
 Nat.beq (P.cellsOf t) (aV P t).length&&
 match P.underlying t with
 | some (.int _)=>true
 | some .bool=>true
 | some .string=>true
 | some (.slice e)=>hasB L e&&cE P e
 | some (.struct fs)=>Dw P L 0 fs.toList&&zd (flat P t) (fs.toList.flatMap fun f=>aV P f.type)
 | some (.array n e)=>hasB L e&&(Nat.beq (P.cellsOf e) (aV P e).length&&zd (flat P t) (List.replicate n (aV P e)).flatten)
 | _=>false
def ze (L:List TypeId):Bool:=L.all fun t=>Hu P L t
end
theorem Dx {L:List TypeId} {t:TypeId} (h:hasB L t=true):t∈L:=by
 obtain ⟨u,hu,U⟩:=ke.1 h
 rw[aT] at U
 exact U▸hu
theorem Hv: ∀{l m:List Nat},zd l m=true→l=m
 | [],[],_=>rfl
 | a::l,b::m,h=>by
  simp only[zd,aM,aT] at h
  rw[h.1,Hv h.2]
 | [],_::_,h=>by cases h
 | _::_,[],h=>by cases h
section
variable {P:Program} {H:Type} {enc:TypeId × Value→H} {w:World} {base:Nat} {spare:Nat→Bool} {held:Bool} {L:List TypeId}
def kF (w:World):Nat→Prop:=fun b=>b<w.heap.size
def ml (P:Program) (w:World) (ts:List TypeId) (cs:List Value) (xs:List V):Prop:=
 cs.length=ts.length∧xs.length=ts.length∧∀(j:Nat) t',ts[j]? =some t'→∃v y,cs[j]? =some v∧xs[j]? =some y∧Pure P w (kF w) t' v y∧WT P t' y
theorem ml.app {ts uW:List TypeId} {cs gE:List Value} {xs Oa:List V} (h:ml P w ts cs xs) (h':ml P w uW gE Oa):ml P w (ts++uW) (cs++gE) (xs++Oa):=by
 obtain ⟨a,b,c⟩:=h
 obtain ⟨a',b',c'⟩:=h'
 refine ⟨by simp[a,a'],by simp[b,b'],fun j t' hj=> ?_⟩
 by_cases aR:j<ts.length
 ·rw[iZ aR] at hj
  obtain ⟨v,y,e1,e2,e3⟩:=c j t' hj
  exact ⟨v,y,by rw[iZ (by omega)];exact e1,by rw[iZ (by omega)];exact e2,e3⟩
 ·rw[ja (by omega)] at hj
  obtain ⟨v,y,e1,e2,e3⟩:=c' _ t' hj
  exact ⟨v,y,by rw[ja (by omega),a];exact e1,by rw[ja (by omega),b];exact e2,e3⟩
theorem Xz {w:World} {a:Addr} {v:Value} (h:w.cell? a=some v):a.spot=none∧a.block<w.heap.size:=by
 unfold World.cell? at h
 split at h
 ·rename_i hh
  split at h
  ·cases h
  ·rename_i hs
   exact ⟨by simpa using hs,(gq.1 hh).1⟩
 all_goals (first|cases h|skip)
theorem Ob {rd:TypeId→List Value→Option (DataW H × List MemPlace)} (cs:List Value)
  (ih: ∀t cs x,t∈L→rd t cs=some x→∃xs,ml P w (aV P t) cs xs): ∀(fs:List Field) (n:Nat),Dw P L n fs=true→
  (∀f∈fs,∃x,rd f.type ((cs.drop f.offset).take (P.cellsOf f.type))=some x)→∃m xs,n≤m∧ml P w (fs.flatMap fun f=>aV P f.type) ((cs.drop n).take (m-n)) xs∧m-n=(fs.flatMap fun f=>aV P f.type).length
 | [],n,_,_=>⟨n,[],bQ _,⟨by simp,rfl,by simp⟩,by simp⟩
 | f::fs,n,h,hx=>by
  simp only[Dw,aM,aT] at h
  obtain ⟨h1,U,h3,h4⟩:=h
  obtain ⟨x,XA⟩:=hx f (by simp)
  obtain ⟨xs,fR⟩:=ih _ _ _ (Dx h1) XA
  obtain ⟨m,ys,hm,pX,Hj⟩:=Ob cs ih fs (n+P.cellsOf f.type) h4 fun g hg=>hx g (by simp[hg])
  refine ⟨m,xs++ys,by omega,?_,by simp only[o8,dM];omega⟩
  have:=fR.app pX
  rw[o8]
  rw[U] at this
  have e:(cs.drop n).take (m-n)=(cs.drop n).take (P.cellsOf f.type)++(cs.drop (n+P.cellsOf f.type)).take (m-(n+P.cellsOf f.type)):=by
   rw[show m-n=P.cellsOf f.type+(m-(n+P.cellsOf f.type)) by omega,List.take_add,nL]
  rw[e]
  exact this
theorem Oc {rd:List Value→Option (DataW H × List MemPlace)} (cs:List Value) {e:TypeId} (hs:P.cellsOf e=(aV P e).length)
  (ih: ∀cs x,rd cs=some x→∃xs,ml P w (aV P e) cs xs): ∀(n:Nat),
  (∀i,i<n→∃x,rd ((cs.drop (i*P.cellsOf e)).take (P.cellsOf e))=some x)→∃xs,ml P w (List.replicate n (aV P e)).flatten (cs.take (n*P.cellsOf e)) xs
 | 0,_=>⟨[],by simp,rfl,by simp⟩
 | n+1,hx=>by
  obtain ⟨xs,fR⟩:=Oc cs hs ih n fun i hi=>hx i (by omega)
  obtain ⟨x,y6⟩:=hx n (by omega)
  obtain ⟨ys,pX⟩:=ih _ _ y6
  refine ⟨xs++ys,?_⟩
  rw[List.replicate_succ',List.flatten_append]
  have:=fR.app pX
  rw[dz,Nat.one_mul,List.take_add]
  simpa using this
theorem Dy (hL:ze P L=true): ∀(fuel:Nat) (t:TypeId) (cs:List Value) (x:DataW H × List MemPlace),t∈L→DataW.trod enc P w base spare held fuel t cs=some x→
  ∃xs,ml P w (aV P t) cs xs
 | 0,_,_,_,_,h=>by cases h
 | fuel+1,t,cs,x,ht,h=>by
  have hg:=eS.1 hL t ht
  unfold Hu at hg
  rw[aM,aT] at hg
  obtain ⟨hc,hg⟩:=hg
  have one:bC P t=false→aV P t=[t]:=fun h=>by simp[aV,h]
  cases hu:P.underlying t with
  | none=>rw[hu] at hg;cases hg
  | some d=>
   rw[hu] at hg
   cases d with
   | int k=>
    obtain ⟨n,rfl,rfl,Hw⟩:=DataW.trod_int hu h
    rw[one (by simp[bC,hu])]
    exact ⟨[.int k n],rfl,rfl,fun j t' hj=>by
     cases j with
     | zero=>cases hj;exact ⟨_,_,rfl,rfl,.int hu,.int hu Hw⟩
     | succ j=>simp at hj⟩
   | bool=>
    obtain ⟨b,rfl,rfl⟩:=DataW.trod_bool hu h
    rw[one (by simp[bC,hu])]
    exact ⟨[.bool b],rfl,rfl,fun j t' hj=>by
     cases j with
     | zero=>cases hj;exact ⟨_,_,rfl,rfl,.bool hu,.bool hu⟩
     | succ j=>simp at hj⟩
   | string=>
    obtain ⟨s,rfl,rfl,hl⟩:=DataW.trod_string hu h
    rw[one (by simp[bC,hu])]
    exact ⟨[.str s.data.toList],rfl,rfl,fun j t' hj=>by
     cases j with
     | zero=>cases hj;exact ⟨_,_,rfl,rfl,.str hu rfl,.str hu (by simpa using hl)⟩
     | succ j=>simp at hj⟩
   | slice e=>
    simp only[aM] at hg
    obtain ⟨he,ar⟩:=hg
    rw[one (by simp[bC,hu])]
    have single: ∀v y,cs=[v]→Pure P w (kF w) t v y→WT P t y→∃xs,ml P w [t] cs xs:=by
     rintro v y rfl a b
     exact ⟨[y],rfl,rfl,fun j t' hj=>by
      cases j with
      | zero=>cases hj;exact ⟨_,_,rfl,rfl,a,b⟩
      | succ j=>simp at hj⟩
    rcases DataW.trod_slice hu h with ⟨rfl,rfl⟩|⟨a,len,cap,elems,rest,n,hn,rfl,rfl,hb,hl,hm,hlen,cF,_,_⟩
    ·exact single _ _ rfl (.nil hu) (.list hu (by simp) (by simp) (by simp))
    ·cases hn
     have iI:=(jo ar).2
     have L6:P.cellsOf e=(aV P e).length:=(eW ar).symm
     have key: ∀i,i<len→∃gE xs,w.cells? base (a.add (i*P.cellsOf e)) (P.cellsOf e)=some gE∧ml P w (aV P e) gE xs:=by
      intro i hi
      have h1:=cF i hi
      rw[bO (by omega)] at h1
      obtain ⟨gE,U,h3⟩:=Option.bind_eq_some_iff.1 h1
      obtain ⟨xs,fR⟩:=Dy hL fuel e gE _ (Dx he) h3
      exact ⟨gE,xs,U,fR⟩
     by_cases h0:len=0
     ·subst h0
      exact single _ _ rfl (.emp hu) (.list hu (by simp) (by simp) (by simp))
     ·have jU:a.spot=none∧a.block<w.heap.size:=by
       obtain ⟨gE,xs,U,_⟩:=key 0 (by omega)
       obtain ⟨_,h3,h4⟩:=World.cells?_some U
       have h5:=h4 0 iI
       rw[bO (by omega)] at h5
       have:=Xz h5
       simpa[Addr.add] using this
      have hF: ∃(F:Nat→List Value) (X:Nat→List V),∀i,i<len→w.cells? base (a.add (i*P.cellsOf e)) (P.cellsOf e)=some (F i)∧ml P w (aV P e) (F i) (X i):=by
       refine ⟨fun i=>if hi:i<len then (key i hi).choose else [],fun i=>if hi:i<len then (key i hi).choose_spec.choose else [],fun i hi=> ?_⟩
       simp only[qt hi]
       exact (key i hi).choose_spec.choose_spec
      obtain ⟨F,X,Hy⟩:=hF
      have hx: ∀(i j:Nat) y t',((List.range len).map fun i=>cf P e (X i))[i]? =some y→(aV P e)[j]? =some t'→i<len∧∃v,(F i)[j]? =some v∧Pure P w (kF w) t' v (bH P e y j)∧WT P t' (bH P e y j):=by
       intro i j y t' hy hj
       have hi:i<len:=by
        have:=(bj.1 hy).1
        simpa using this
       refine ⟨hi,?_⟩
       simp[List.getElem?_range hi] at hy
       obtain ⟨c1,c2,c3⟩:=(Hy i hi).2
       obtain ⟨v,z,d1,d2,d3,d4⟩:=c3 j t' hj
       have:bH P e y j=z:=by
        rw[←hy]
        unfold bH cf
        cases ha:bC P e with
        | true=>
         simp only[cond_true,V.cell]
         rw[sD _ _ _ d2]
        | false=>
         simp only[cond_false]
         have:aV P e=[e]:=by simp[aV,ha]
         rw[this] at hj
         cases j with
         | zero=>rw[sD _ _ _ d2]
         | succ j=>simp at hj
       rw[this]
       exact ⟨v,d1,d3,d4⟩
      have fC: ∀i j,i<len→j<P.cellsOf e→w.cell? ⟨a.block,a.off+(i*P.cellsOf e+j),none⟩=some ((F i).getD j undef):=by
       intro i j hi hj
       obtain ⟨h1,U⟩:=Hy i hi
       obtain ⟨_,h3,h4⟩:=World.cells?_some h1
       have h5:=h4 j hj
       rw[Go.Deep.add_add] at h5
       have e1:a.add (i*P.cellsOf e+j)=⟨a.block,a.off+(i*P.cellsOf e+j),none⟩:=by
        obtain ⟨b,o,s⟩:=a
        simp only at jU
        rw[jU.1]
        exact l9 ..
       rw[e1] at h5
       rw[h5,BG,bO (by omega)]
       rfl
      have ha:a=⟨a.block,a.off,none⟩:=by
       obtain ⟨b,o,s⟩:=a
       simp only at jU
       rw[jU.1]
      refine single (.slice (some a) len cap) (.list e ((List.range len).map fun i=>cf P e (X i))) rfl ?_ ?_
      ·rw[ha]
       refine .list (fun i j=>(F i).getD j undef) hu (by simp) hl (fun _=>jU.2) fC ?_
       intro i j y t' hy hj
       obtain ⟨hi,v,d1,d2,_⟩:=hx i j y t' hy hj
       rw[BG,d1]
       exact d2
      ·refine .list hu (by simp;omega) ?_ ?_
       ·intro i y hy Dz
        have hi:i<len:=by
         have:=(bj.1 hy).1
         simpa using this
        simp[List.getElem?_range hi] at hy
        rw[←hy]
        exact ⟨X i,by simp[cf,Dz],(Hy i hi).2.2.1⟩
       ·intro i j y t' hy hj
        obtain ⟨_,v,_,_,d3⟩:=hx i j y t' hy hj
        exact d3
   | struct fs=>
    simp only[aM] at hg
    obtain ⟨xs,n,hn,rfl,hlen,lj,hx⟩:=DataW.trod_struct hu h
    cases hn
    have het:aV P t=fs.toList.flatMap fun f=>aV P f.type:=by
     rw[←Hv hg.2]
     simp[aV,bC,hu]
    obtain ⟨m,ys,_,pX,hm⟩:=Ob (w:=w) (rd:=fun t cs=>DataW.trod enc P w base spare held fuel t cs) cs (fun t cs x a b=>Dy hL fuel t cs x a b) fs.toList 0 hg.1 (by
     intro f hf
     obtain ⟨i,hi⟩:=qx hf
     rw[qz] at hi
     have pN:i<fs.size:=(gq.1 hi).1
     exact ⟨_,(hx i f hi).trans (bO (by omega))⟩)
    rw[het]
    refine ⟨ys,?_⟩
    have:(cs.drop 0).take (m-0)=cs:=by
     rw[dh,hm,←het,←hc,←hlen,qv]
    rw[this] at pX
    exact pX
   | array n e=>
    simp only[aM,aT] at hg
    obtain ⟨xs,m,hn,rfl,hlen,lj,hx⟩:=DataW.trod_array hu h
    cases hn
    have het:aV P t=(List.replicate n (aV P e)).flatten:=by
     rw[←Hv hg.2.2]
     simp[aV,bC,hu]
    obtain ⟨ys,pX⟩:=Oc (w:=w) (rd:=DataW.trod enc P w base spare held fuel e) cs hg.2.1 (fun cs x b=>Dy hL fuel e cs x (Dx hg.1) b) n (by
     intro i hi
     exact ⟨_,(hx i hi).trans (bO (by omega))⟩)
    rw[het]
    refine ⟨ys,?_⟩
    have:cs.take (n*P.cellsOf e)=cs:=by
     have:n*P.cellsOf e=cs.length:=by
      rw[hlen,hc,het,hg.2.1]
      simp
     rw[this,qv]
    rw[this] at pX
    exact pX
   | _=>cases hg
end
section
variable {P:Program} {H:Type} {enc:TypeId × Value→H} {w:World} {L:List TypeId}
theorem XB {base Hz:Nat} {spare:Nat→Bool} {held:Bool} {r:Reach} {β:Nat→Option Nat} {hp:Nat→Option ak} (hL:ze P L=true) {t:TypeId} {v:Value} {d:DataW H} {ps:List MemPlace} (ht:t∈L) (ey:Value.okWide P w r Hz t v)
  (h:DataW.Trod enc P w base spare held t v d ps): ∃x,ao P w (kF w) β hp v x∧iX P t x:=by
 obtain ⟨fuel,hf⟩:=h
 obtain ⟨xs,c1,c2,c3⟩:=Dy hL fuel t _ _ ht hf
 have hg:=eS.1 hL t ht
 unfold Hu at hg
 rw[aM,aT] at hg
 obtain ⟨_,hg⟩:=hg
 have Dz:bC P t=true→∃x,ao P w (kF w) β hp v x∧iX P t x:=by
  intro ha
  have hv: ∃cs,v= .agg cs:=by
   unfold Value.okWide at ey
   unfold bC at ha
   split at ey
   ·obtain ⟨cs,e,_⟩:=ey;exact ⟨cs,e⟩
   ·obtain ⟨cs,e,_⟩:=ey;exact ⟨cs,e⟩
   ·split at ha<;>simp_all
  obtain ⟨cs,rfl⟩:=hv
  refine ⟨.agg xs,.agg (by simpa[Value.cells] using c1.trans c2.symm) fun j v x hv hx=> ?_,fun _=>⟨xs,rfl,c2⟩,fun j t' hj=> ?_⟩
  ·have hj:j<(aV P t).length:=by rw[←c2];exact (bj.1 hx).1
   obtain ⟨v',y,e1,e2,e3,_⟩:=c3 j _ (bO hj)
   rw[hx] at e2
   cases e2
   have:cs[j]? =some v':=by simpa[Value.cells] using e1
   rw[hv] at this
   cases this
   exact .pt e3
  ·obtain ⟨v',y,e1,e2,_,e4⟩:=c3 j t' hj
   have:bH P t (.agg xs) j=y:=by
    simp only[bH,ha,cond_true,V.cell]
    exact sD _ _ _ e2
   rw[this]
   exact e4
 have pK:bC P t=false→v.cells= #[v]→∃x,ao P w (kF w) β hp v x∧iX P t x:=by
  intro ha sJ
  have he:aV P t=[t]:=by simp[aV,ha]
  rw[he] at c1 c2 c3
  obtain ⟨v',y,e1,e2,e3,e4⟩:=c3 0 t rfl
  rw[sJ] at e1
  cases e1
  refine ⟨y,.pt e3,⟨fun h=>absurd (ha.symm.trans h) (by simp),fun j t' hj=> ?_⟩⟩
  rw[he] at hj
  cases j with
  | succ j=>simp at hj
  | zero=>
   cases hj
   simpa[bH,ha] using e4
 unfold Value.okWide at ey
 cases hu:P.underlying t with
 | none=>rw[hu] at hg;cases hg
 | some XC=>
  rw[hu] at hg ey
  cases XC with
  | int k=>
   refine pK (by simp[bC,hu]) ?_
   simp only[Cell.okWide,Cell.ok,hu] at ey
   cases v<;>first|rfl|(simp at ey;done)|exact ey.elim
  | bool=>
   refine pK (by simp[bC,hu]) ?_
   simp only[Cell.okWide,Cell.ok,hu] at ey
   cases v<;>first|rfl|(simp at ey;done)|exact ey.elim
  | string=>
   refine pK (by simp[bC,hu]) ?_
   simp only[Cell.okWide,Cell.ok,hu] at ey
   cases v<;>first|rfl|(simp at ey;done)|exact ey.elim
  | slice e=>
   refine pK (by simp[bC,hu]) ?_
   simp only[Cell.okWide,Cell.ok,hu] at ey
   cases v<;>first|rfl|(simp at ey;done)|exact ey.elim
  | struct fs=>exact Dz (by simp[bC,hu])
  | array n e=>exact Dz (by simp[bC,hu])
  | _=>cases hg
theorem Od {base Hz:Nat} {spare:Nat→Bool} {held:Bool} {r:Reach} {β:Nat→Option Nat} {hp:Nat→Option ak} (hL:ze P L=true): ∀{ts:List TypeId} {vs:List Value} {ds:List (DataW H)} {ps:List MemPlace},
  (∀t∈ts,t∈L)→(∀(j:Nat) t v,ts[j]? =some t→vs[j]? =some v→Value.okWide P w r Hz t v)→DataW.TrodAll enc P w base spare held ts vs ds ps→
  ∃xs,vs.length=xs.length∧(∀(j:Nat) v x,vs[j]? =some v→xs[j]? =some x→ao P w (kF w) β hp v x)∧o4 P ts xs
 | [],vs,ds,ps,_,_,h=>by
  obtain ⟨rfl,rfl,rfl⟩:=trodAll_nil h
  exact ⟨[],rfl,by simp,trivial⟩
 | t::ts,vs,ds,ps,hm,ey,h=>by
  obtain ⟨v,Cg,d,Oe,a,b,rfl,rfl,rfl,h1,U⟩:=trodAll_cons h
  obtain ⟨x,y6,mb⟩:=XB (β:=β) (hp:=hp) hL (hm t (by simp)) (ey 0 t v rfl rfl) h1
  obtain ⟨xs,hl,hr,hw⟩:=Od (β:=β) (hp:=hp) hL (fun t ht=>hm t (by simp[ht])) (fun j t v a b=>ey (j+1) t v (by simpa using a) (by simpa using b)) U
  refine ⟨x::xs,by simp[hl],fun j v' x' hv hx=> ?_,mb,hw⟩
  cases j with
  | zero=>cases hv;cases hx;exact y6
  | succ j=>exact hr j v' x' (by simpa using hv) (by simpa using hx)
theorem Of {base:Nat} {spare:Nat→Bool} {held:Bool}: ∀{ts:List TypeId} {vs:List Value} {ds:List (DataW H)} {ps:List MemPlace},DataW.TrodAll enc P w base spare held ts vs ds ps→ds.length=ts.length
 | [],vs,ds,ps,h=>by obtain ⟨rfl,rfl,rfl⟩:=trodAll_nil h;rfl
 | t::ts,vs,ds,ps,h=>by
  obtain ⟨v,Cg,d,Oe,a,b,rfl,rfl,rfl,h1,U⟩:=trodAll_cons h
  simp[Of U]
theorem Og {base:Nat} (hl:laidOutB P=true) {W W':World} {Oh:Nat→Bool}: ∀{ts:List TypeId} {vs:List Value} {ds:List (DataW H)} {ps:List MemPlace},(∀t∈ts,P.readableRec t=true∧t<P.types.size)→
  DataW.TrodAll enc P W base (fun _=>true) true ts vs ds ps→(∀p∈ps,W.sameAt W' p)→(∀p∈ps,Oh p.block=true)→DataW.TrodAll enc P W' base Oh true ts vs ds ps
 | [],vs,ds,ps,_,h,_,_=>by obtain ⟨rfl,rfl,rfl⟩:=trodAll_nil h;exact trodAll_mk0
 | t::ts,vs,ds,ps,hr,h,h1,U=>by
  obtain ⟨v,Cg,d,Oe,a,b,rfl,rfl,rfl,h3,h4⟩:=trodAll_cons h
  obtain ⟨r1,r2⟩:=hr t (by simp)
  exact trodAll_cons_mk (WideElems.Trod_stays hl r1 r2 h3 (fun p hp=>h1 p (by simp[hp])) (fun p hp=>U p (by simp[hp])))
   (Og hl (fun t ht=>hr t (by simp[ht])) h4 (fun p hp=>h1 p (by simp[hp])) (fun p hp=>U p (by simp[hp])))
theorem XD {f:Func} {s:ChangeSpec} {apart fresh handsOn again:Bool} {W W':World} {args:Array Value} {v:Value} {ds gs:List (DataW H)} {before pa pv:List MemPlace}
  (hW:DataW.Whole enc P f.params.toList s.vars apart W args.toList ds gs before)
  (Oi: ∀(b:Nat) (sp:Nat→Bool) (hd:Bool),DataW.TrodAll enc P W' b sp hd f.resultTypes.toList (v.resultList f.resultTypes.size) (s.fn H (ds++gs)).results [])
  (sZ: ∀sp:Nat→Bool,(∀p∈before,sp p.block=true)→DataW.TrodAll enc P W' 0 sp true f.params.toList args.toList (s.fn H (ds++gs)).args pa)
  (Oj: ∀sp:Nat→Bool,(∀p∈before,sp p.block=true)→DataW.TrodVars enc P W' sp s.vars (s.fn H (ds++gs)).vars pv)
  (DA:before=pa++pv) (hk:W.keptBut W' (· ∈before)) (HA: ∀a:Addr,a.block<W.heap.size→W'.frozen? a=W.frozen? a)
  (ar: ∀(j:Nat) (t:TypeId) (r:Value),f.resultTypes[j]? =some t→(v.resultList f.resultTypes.size)[j]? =some r→Value.okWide P W' .any 0 t r):
  s.post enc P f apart fresh handsOn again W args v W':=by
 have hold: ∀p∈before,(fun b=>decide (b<W.heap.size)) p.block=true:=fun p hp=>by simpa using hW.lt p hp
 refine ⟨ds,gs,before,[],pa,pv,hW,Oi _ _ _,sZ _ hold,Oj _ hold,World.keptBut_mono (fun p hp=>⟨hp,?_⟩) hk,fun _=> ?_⟩
 ·rw[DA,eB] at hp
  exact Or.inr hp
 ·have aR:=hW.lt
  obtain ⟨_,_,_,_,_,hz,hn⟩:=hW
  refine ⟨ar,_,_,([]++pa)++pv,⟨[]++pa,pv,trodAll_append (sZ _ (fun _ _=>rfl)) (Oi _ _ _),Oj _ (fun _ _=>rfl),rfl,?_,?_⟩,?_⟩
  ·intro b off hp
   have hb:MemPlace.cell b off∈before:=by rw[DA];simpa using hp
   rw[HA ⟨b,off,none⟩ (aR _ hb)]
   exact hz b off hb
  ·intro ha
   have:=hn ha
   rw[DA] at this
   simpa using this
  ·intro p hp _
   rw[DA]
   simpa using hp
theorem XF {A:cl} (hP:gF P A) (mj:P.follows .mixedOrders=true) {f key:Nat} {fn:Func} {tb:TypeId} {s:ChangeSpec} {apart fresh handsOn again:Bool}
  (hf:P.funcs[f]? =some fn) (HB:A.aX key=f) (hL:ze P L=true) (cU:fn.params.toList.all (fun t=>hasB L t)=true) (DB:fn.resultTypes= #[tb]) (DC:P.underlying tb=some .bool) (DD:s.vars=[])
  (hs: ∀ds:List (DataW H),ds.length=fn.params.toList.length→s.fn H ds={results:=[.lit (.bool true)],args:=ds})
  (HC:laidOutB P=true) (HD:fn.params.toList.all (fun t=>P.readableRec t&&Nat.blt t P.types.size)=true)
  (iq:(A.sin key).aY=[]) (ar:((A.sin key).bw.map (·.2)).all (VS.ok 0)=true) (HE:(A.eJ key).bw=[(0,.one .bool)]) (halt:A.alt key=none)
  {W:World} {base:Nat} {args:Array Value} {ds gs:List (DataW H)} {before:List MemPlace}
  (HF:fO P A.aG W (kF W)) (ey: ∀(j:Nat) t v,fn.params[j]? =some t→args[j]? =some v→Value.okWide P W .any base t v)
  (hW:DataW.Whole enc P fn.params.toList s.vars apart W args.toList ds gs before) (Q:List V→Prop)
  (hQ: ∀xs:List V,o4 P fn.params.toList xs→(∀(j:Nat) v x,args.toList[j]? =some v→xs[j]? =some x→ao P W (kF W) (fun _=>none) (fun _=>none) v x)→Q xs)
  (HG: ∀xs,o4 P fn.params.toList xs→Q xs→∃ds,o5 ((A.sin key).bw.map (·.2)) xs=some ds∧Call P A key ds=some [.bool true]):
  Calls P f args W fun e W'=> ∃v,e= .returned v∧s.post enc P fn apart fresh handsOn again W args v W':=by
 have Ol:=hW
 obtain ⟨p,q,hA,hV,rfl,HA,ju⟩:=hW
 rw[DD] at hV
 obtain ⟨XG,hq⟩:gs=[]∧q=[]:=by
  cases gs with
  | nil=>exact ⟨rfl,hV⟩
  | cons g gs=>exact hV.elim
 subst XG
 subst hq
 obtain ⟨xs,hl,hr,Om⟩:=Od (β:=fun _=>none) (hp:=fun _=>none) hL (fun t ht=>Dx (eS.1 cU t ht)) (fun j t v a b=>ey j t v (by simpa using a) (by simpa using b)) hA
 obtain ⟨ls,XH,yY⟩:=HG xs Om (hQ xs Om hr)
 obtain ⟨fn',c,h1,U,h3⟩:=Xv (A:=A) hP mj key ls [.bool true] yY
 rw[HB] at h1 h3
 rw[hf] at h1
 cases h1
 have vH: ∀j,(bf (A.sin key) ls).hp j=none:=fun j=>by simp[bf,mk,iq,dY,iE]
 obtain ⟨_,r1,r2⟩:=yO (P:=P) (w:=W) (I:=kF W) (n:=0) (β:=fun _=>none) (β':=fun _=>none) (hp:=fun _=>none) (hp':=(bf (A.sin key) ls).hp) (fun j hj=>absurd hj (Nat.not_lt_zero j)) XH ar
 have hlen:((A.sin key).bw.map (·.2)).length=xs.length:=by rw[←r1 [],Hs]
 have h4:=h3 W (kF W) (fun _=>none) args.toList ⟨fun id blk h=>(by rw[vH] at h;cases h),fun id aF blk blk' b h=>(by rw[vH] at h;cases h),fun id blk b h=>(by rw[vH] at h;cases h),fun b h=>h⟩ HF
  (by rw[hl,←hlen,bM]) (fun j v y hv hy=>r2 [] j v y (fun x hx=>hr j v x hv hx) (by rw[eI];exact hy))
 have ea:args.toList.toArray=args:=by simp
 rw[ea] at h4
 refine h4.mono fun e W' ⟨v,I2,bW,he,ha⟩=>⟨v,he,?_⟩
 have sG: ∀b,b<W.heap.size→W'.heap[b]? =W.heap[b]? :=fun b hb=>ha.vw.b7 b hb (by rintro ⟨j,blk,hj,_⟩;rw[vH] at hj;cases hj)
 have GI:=ha.res
 have On:A.so key [.bool true]=A.eJ key∧A.lv key [.bool true]=[.bool true]:=by unfold cl.so cl.lv;rw[halt];exact ⟨rfl,rfl⟩
 rw[On.1,On.2,HE] at GI
 obtain rfl:v= .bool true:=GI.jq
 have ku:Value.okWide P W' .any 0 tb (.bool true):=by simp[Value.okWide,DC,Cell.okWide,Cell.ok]
 have j7:ds.length=fn.params.toList.length:=Of hA
 have gW: ∀p'∈p++[],W.sameAt W' p':=by
  intro p' hp'
  have aR:=Ol.lt p' hp'
  cases p' with
  | cell b o=>exact World.cell?_of_block (w:=W) (sG b aR)
  | map b=>exact sG b aR
 refine XD (pa:=p) (pv:=[]) Ol ?_ ?_ ?_ rfl ?_ ?_ ?_
 ·intro b sp hd
  rw[eI,hs ds j7,DB]
  exact trodAll_mk1 ⟨1,by simp[DataW.trod,Value.cells,DC]⟩
 ·intro sp jU
  rw[eI,hs ds j7]
  refine Og HC (fun t ht=> ?_) hA (fun p' hp'=>gW p' (by simpa using hp')) (fun p' hp'=>jU p' (by simpa using hp'))
  have:=eS.1 HD t ht
  simp only[aM] at this
  exact ⟨this.1,by simpa[iY] using this.2⟩
 ·intro sp jU
  rw[DD,eI,hs ds j7]
  exact rfl
 ·refine ⟨ha.vw.io.1,ha.vw.io.2,fun i hi=> ?_⟩
  rw[sG i hi]
  split<;>simp_all
 ·intro a aR
  exact World.frozen?_of_block (w:=W) (sG a.block aR)
 ·intro j t r hj HH
  rw[DB] at hj HH
  cases j with
  | zero=>
   simp[Value.resultList] at hj HH
   subst hj
   subst HH
   exact ku
  | succ j=>simp at hj
theorem T6 {A:cl} (hP:gF P A) (mj:P.follows .mixedOrders=true) {f key:Nat} {fn:Func} {tb:TypeId} {s:ChangeSpec} {apart fresh handsOn again:Bool}
  (hf:P.funcs[f]? =some fn) (HB:A.aX key=f) (hL:ze P L=true) (cU:fn.params.toList.all (fun t=>hasB L t)=true) (DB:fn.resultTypes= #[tb]) (DC:P.underlying tb=some .bool) (DD:s.vars=[])
  (hs: ∀ds:List (DataW H),ds.length=fn.params.toList.length→s.fn H ds={results:=[.lit (.bool true)],args:=ds})
  (HC:laidOutB P=true) (HD:fn.params.toList.all (fun t=>P.readableRec t&&Nat.blt t P.types.size)=true)
  (iq:(A.sin key).aY=[]) (ar:((A.sin key).bw.map (·.2)).all (VS.ok 0)=true) (HE:(A.eJ key).bw=[(0,.one .bool)]) (halt:A.alt key=none)
  (HG: ∀xs,o4 P fn.params.toList xs→∃ds,o5 ((A.sin key).bw.map (·.2)) xs=some ds∧Call P A key ds=some [.bool true])
  {W:World} {base:Nat} {args:Array Value} {ds gs:List (DataW H)} {before:List MemPlace}
  (HF:fO P A.aG W (kF W)) (ey: ∀(j:Nat) t v,fn.params[j]? =some t→args[j]? =some v→Value.okWide P W .any base t v)
  (hW:DataW.Whole enc P fn.params.toList s.vars apart W args.toList ds gs before):
  Calls P f args W fun e W'=> ∃v,e= .returned v∧s.post enc P fn apart fresh handsOn again W args v W':=
 XF hP mj hf HB hL cU DB DC DD hs HC HD iq ar HE halt HF ey hW (fun _=>True) (fun _ _ _=>trivial) fun xs h _=>HG xs h
end
end Go.AM
namespace Go.AM
@[simp] theorem V.toInt_int (k:IntKind) (n:Int):V.toInt (.int k n)=n:=by cases k<;>rfl
@[simp] theorem V.cK (b:Bool):V.toBool (.bool b)=b:=by cases b<;>rfl
@[simp] theorem V.ot (s:List UInt8):V.toStr (.str s)=s:=by cases s<;>rfl
@[simp] theorem V.bR (e:TypeId) (es:List V):V.toList (.list e es)=es:=by cases es<;>rfl
@[simp] theorem V.ag1 (e:TypeId) (es:List V):V.toList (.own e es)=es:=by cases es<;>rfl
@[simp] theorem V.XI (cs:List V) (j:Nat):V.cell (.agg cs) j=V.nth cs j:=by cases cs<;>rfl
@[simp] theorem V.ag2 (cs:List V) (j:Nat):V.comp (.bh cs) j=V.nth cs j:=by cases cs<;>rfl
@[simp] theorem V.aI (x:V) (l:List V):V.nth (x::l) 0=x:=by cases l<;>rfl
@[simp] theorem V.pY (x:V) (l:List V) (n:Nat):V.nth (x::l) (n+1)=V.nth l n:=by cases l<;>rfl
@[simp] theorem V.ag3 (x y:V) (l:List V):V.nth (x::y::l) 1=y:=by cases l<;>rfl
@[simp] theorem V.ag4 (x y z:V) (l:List V):V.nth (x::y::z::l) 2=z:=by cases l<;>rfl
@[simp] theorem V.ag5 (x y z u:V) (l:List V):V.nth (x::y::z::u::l) 3=u:=by cases l<;>rfl
theorem wrap64 {x:Int} (h1: -9223372036854775808≤x) (U:x<9223372036854775808):IntKind.wrap .i64 x=x:=by
 rw[IntKind.wrap_i64];omega
theorem HI {x:Int} (h1:0≤x) (U:x<256):IntKind.wrap .u8 x=x:=by
 rw[IntKind.wrap_u8];omega
@[simp] theorem mn (es:List V) (n:Nat):idx es (n:Int)=es[n]? :=by simp[idx]
@[simp] theorem av {α:Type} (p:Prop) [Decidable p] (a b:α):(bif decide p then a else b)=if p then a else b:=by by_cases h:p<;>simp[h]
@[simp] theorem dy {α:Type} (m n:Int) (a b:α):(bif m==n then a else b)=if m=n then a else b:=by
 by_cases h:m=n
 ·simp[h]
 ·have:(m==n)=false:=by simp[h]
  rw[this,ai h];rfl
@[simp] theorem gZ {α:Type} (m n:Int) (a b:α):(bif m != n then a else b)=if m=n then b else a:=by
 by_cases h:m=n
 ·simp[h]
 ·have:(m != n)=true:=by simp[h]
  rw[this,ai h];rfl
@[simp] theorem fH {α:Type} (c:Bool) (a b:α):(bif !c then a else b)=bif c then b else a:=by cases c<;>rfl
@[simp] theorem DE {α:Type} (m n:Nat) (a b:α):(bif Nat.ble m n then a else b)=if m≤n then a else b:=by
 cases hb:Nat.ble m n with
 | true=>rw[ag (Nat.le_of_ble_eq_true hb)];rfl
 | false=>
  rw[ai fun h=> ?_]
  ·rfl
  ·rw[Nat.ble_eq_true_of_le h] at hb;cases hb
@[simp] theorem ca {α:Type} (c d:Bool) (a b:α):(bif c&&d then a else b)=bif c then (bif d then a else b) else b:=by cases c<;>rfl
section
variable {P:Program}
def Oo (P : Program) : Bool := P.funcs.all fun fn => !(fn.name == "runtime.NumGoroutine")
theorem XJ (h:Oo P=true):yV P:=by
 intro f fn hf
 unfold Oo at h
 have:=(Array.all_eq_true_iff_forall_mem.1 h) fn (Array.mem_of_getElem? hf)
 simpa using this
theorem KX {t:TypeId} {ts:List TypeId} {xs:List V} (h:o4 P (t::ts) xs): ∃x ys,xs=x::ys∧iX P t x∧o4 P ts ys:=by
 cases xs with
 | nil=>exact h.elim
 | cons x ys=>exact ⟨x,ys,rfl,h.1,h.2⟩
theorem TX {xs:List V} (h:o4 P [] xs):xs=[]:=by
 cases xs with
 | nil=>rfl
 | cons x ys=>exact h.elim
theorem iX.one {t:TypeId} {x:V} (ha:bC P t=false) (h:iX P t x):WT P t x:=by
 have he:aV P t=[t]:=by simp[aV,ha]
 have:=h.2 0 t (by rw[he];rfl)
 simpa[bH,ha] using this
theorem WT.dL {t:TypeId} {k:IntKind} {x:V} (hu:P.underlying t=some (.int k)) (h:WT P t x): ∃n,x= .int k n∧k.min≤n∧n≤k.max:=by
 cases h with
 | int h1 U=>
  rw[hu] at h1
  cases h1
  simp only[Lit.wf,aM,dw] at U
  exact ⟨_,rfl,U⟩
 | bool h1=>rw[hu] at h1;cases h1
 | str h1=>rw[hu] at h1;cases h1
 | list h1=>rw[hu] at h1;cases h1
theorem WT.jq {t:TypeId} {x:V} (hu:P.underlying t=some .bool) (h:WT P t x): ∃b,x= .bool b:=by
 cases h with
 | int h1=>rw[hu] at h1;cases h1
 | bool h1=>exact ⟨_,rfl⟩
 | str h1=>rw[hu] at h1;cases h1
 | list h1=>rw[hu] at h1;cases h1
theorem WT.kZ {t:TypeId} {x:V} (hu:P.underlying t=some .string) (h:WT P t x): ∃s,x= .str s∧s.length≤maxLen:=by
 cases h with
 | int h1=>rw[hu] at h1;cases h1
 | bool h1=>rw[hu] at h1;cases h1
 | str h1 U=>exact ⟨_,rfl,U⟩
 | list h1=>rw[hu] at h1;cases h1
theorem WT.XK {t e:TypeId} {x:V} (hu:P.underlying t=some (.slice e)) (h:WT P t x): ∃es,x= .list e es∧es.length≤maxLen∧∀y∈es,iX P e y:=by
 cases h with
 | int h1=>rw[hu] at h1;cases h1
 | bool h1=>rw[hu] at h1;cases h1
 | str h1=>rw[hu] at h1;cases h1
 | list h1 U h3 h4=>
  rw[hu] at h1
  cases h1
  refine ⟨_,rfl,U,fun y hy=> ?_⟩
  obtain ⟨i,hi⟩:=qx hy
  exact ⟨h3 i y hi,fun j t' hj=>h4 i j y t' hi hj⟩
theorem iX.jR {t:TypeId} {x:V} (ha:bC P t=true) (h:iX P t x): ∃xs,x= .agg xs∧xs.length=(aV P t).length∧∀(j:Nat) t' y,(aV P t)[j]? =some t'→xs[j]? =some y→WT P t' y:=by
 obtain ⟨xs,rfl,hl⟩:=h.1 ha
 refine ⟨xs,rfl,hl,fun j t' y hj hy=> ?_⟩
 have:=h.2 j t' hj
 simp only[bH,ha,cond_true,V.XI] at this
 rw[sD _ _ _ hy] at this
 exact this
theorem Oq {α:Type} {f:α→V} {p:α→Prop}: ∀{es:List V},(∀y∈es,∃a,y=f a∧p a)→∃l:List α,es=l.map f∧∀a∈l,p a
 | [],_=>⟨[],rfl,by simp⟩
 | y::es,h=>by
  obtain ⟨a,rfl,ha⟩:=h y (by simp)
  obtain ⟨l,rfl,hl⟩:=Oq (f:=f) (p:=p) (es:=es) fun z hz=>h z (by simp[hz])
  exact ⟨a::l,rfl,by
   intro b hb
   rcases eH.1 hb with rfl|hb
   ·exact ha
   ·exact hl b hb⟩
theorem iX.int {t:TypeId} {x:V} (hu:P.underlying t=some (.int .i64)) (h:iX P t x): ∃n,x= .int .i64 n∧IntKind.min .i64≤n∧n≤IntKind.max .i64:=
 (h.one (by simp[bC,hu])).dL hu
theorem iX.str {t:TypeId} {x:V} (hu:P.underlying t=some .string) (h:iX P t x): ∃s,x= .str s∧s.length≤maxLen:=
 (h.one (by simp[bC,hu])).kZ hu
end
def un.{u} {A B:Type} {γ:Sort u} (f:A→B→γ) (p:A × B):γ:=f p.1 p.2
def cY {A B γ:Type} (f:A→γ) (g:B→γ):A ⊕ B→γ
 | .inl a=>f a
 | .inr b=>g b
def ax:List Nat→Code→Code
 | [],c=>c
 | 0::p,.seq a _=>ax p a
 | _::p,.seq _ b=>ax p b
 | 0::p,.cond _ a _=>ax p a
 | _::p,.cond _ _ b=>ax p b
 | _::p,.block _ c=>ax p c
 | _::p,.loop c=>ax p c
 | _,c=>c
inductive cp where
 | loop (c:Code)
 | cond (t:Nat) (x y:Code)
section
variable (P:Program) (A:cl) (C:af) (L:cw) (f n m:Nat)
def ou:Code→List cp
 | .seq a b=>ou a++ou b
 | .cond (.tmp t) x y=>
  match A.fN f (t*16+15) with
  | none=>ou x++ou y
  | some _=>[.cond t x y]
 | .cond (.const _) x y=>ou x++ou y
 | .block _ c=>ou c
 | .loop c=>[.loop c]
 | _=>[]
def cq:cp→Prop
 | .loop c=>
  match A.fN f (keyOf c+1) with
  | none=>True
  | some S=> ∀(β:Type) ds (k:Nat→List V→Option β),L β (keyOf c+1) ds k=(Loop (stepG P A C f n m S c) ds).bind fun r=>k r.1 r.2
 | .cond t x y=>
  match A.fN f (t*16+15) with
  | none=>True
  | some S=> ∀(β:Type) ds (k:Nat→List V→Option β),L β (t*16+15) ds k=(yf P A C f n m t S x y ds).bind fun r=>k r.1 r.2
def mo:List cp→Prop
 | []=>True
 | b::l=>cq P A C L f n m b∧mo l
variable {P A C L f n m}
theorem mo.left {a b:List cp}:mo P A C L f n m (a++b)→mo P A C L f n m a:=by
 induction a with
 | nil=>exact fun _=>trivial
 | cons x a ih=>exact fun h=>⟨h.1,ih h.2⟩
theorem mo.right {a b:List cp}:mo P A C L f n m (a++b)→mo P A C L f n m b:=by
 induction a with
 | nil=>exact fun h=>h
 | cons x a ih=>exact fun h=>ih h.2
theorem bn: ∀{c:Code} {bs:List cp},ou A f c=bs→mo P A C L f n m bs→gA P A C L f n m c:=by
 intro c
 induction c with
 | seq a b FP FQ=>
  intro bs h hb
  subst h
  exact ⟨FP rfl hb.left,FQ rfl hb.right⟩
 | cond c x y fh fi=>
  intro bs h hb
  subst h
  cases c with
  | tmp t=>
   simp only[ou] at hb
   simp only[gA]
   cases hs:A.fN f (t*16+15) with
   | none=>
    rw[hs] at hb
    exact ⟨fh rfl hb.left,fi rfl hb.right⟩
   | some S=>
    rw[hs] at hb
    have:=hb.1
    simp only[cq,hs] at this
    exact this
  | const v=>exact ⟨fh rfl hb.left,fi rfl hb.right⟩
  | _=>trivial
 | block id c ih=>
  intro bs h hb
  subst h
  exact ih rfl hb
 | loop c ih=>
  intro bs h hb
  subst h
  exact hb.1
 | _=>intro bs h hb;trivial
variable (P A C L f n m) in
noncomputable def HJ {β:Type} (t:Nat) (S:Shape × List (Out × Shape)) (x y:Code) (ds:List V) (k:Nat→List V→Option β):Option β:=
 let kc:Out→St→Option β:=fun o st=>
  match o with
  | .norm=>(ways m 0 S.2 (.norm,canon m (A.join f t) st)).bind fun e=>k e.1 e.2
  | o=>(ways m 0 S.2 (o,st)).bind fun e=>k e.1 e.2
 match (bf S.1 ds).sl t with
 | .bool b=>bif b then gz P A C L f n m x (bf S.1 ds) kc else gz P A C L f n m y (bf S.1 ds) kc
 | _=>none
theorem XL {t:Nat} {x y:Code} {S:Shape × List (Out × Shape)} (hS:A.fN f (t*16+15)=some S) (hx:gA P A C L f n m x) (hy:gA P A C L f n m y) {I R:Type} (enc:I→List V) (lp:I→R→Nat × List V)
  (de:List V→I) (body:I→(β:Type)→(R→Option β)→Option β) (tc: ∀ds,bf S.1 (enc (de ds))=bf S.1 ds)
  (e1: ∀i (β:Type) (k:Nat→List V→Option β),HJ P A C L f n m t S x y (enc i) k=body i β (fun r=>k (lp i r).1 (lp i r).2))
  (hl: ∀(β:Type) ds (k:Nat→List V→Option β),L β (t*16+15) ds k=body (de ds) β (fun r=>k (lp (de ds) r).1 (lp (de ds) r).2)):
  cq P A C L f n m (.cond t x y):=by
 simp only[cq,hS]
 intro β ds k
 rw[hl,←e1]
 unfold HJ yf
 rw[tc]
 simp only
 have hk: ∀(z:Option (Out × St)),(z.bind fun r=>(match r.1 with
   | .norm=>(ways m 0 S.2 (.norm,canon m (A.join f t) r.2)).bind fun e=>k e.1 e.2
   | o=>(ways m 0 S.2 (o,r.2)).bind fun e=>k e.1 e.2))=((z.bind fun r=>
   match r.1 with
   | .norm=>some (Out.norm,canon m (A.join f t) r.2)
   | _=>some r).bind fun r=>ways m 0 S.2 r).bind fun r=>k r.1 r.2:=by
  intro z
  cases z with
  | none=>rfl
  | some r=>obtain ⟨o,st⟩:=r;cases o<;>rfl
 cases (bf S.1 ds).sl t with
 | bool b=>
  cases b with
  | true=>simp only[cond_true,Ce P A C f n m x hx];exact hk _
  | false=>simp only[cond_false,Ce P A C f n m y hy];exact hk _
 | _=>rfl
theorem bD {b:cp} {l:List cp} (h:cq P A C L f n m b) (U:mo P A C L f n m l):mo P A C L f n m (b::l):=⟨h,U⟩
theorem az:mo P A C L f n m []:=trivial
theorem bd {key:Nat} {bs:List cp} (hb:ou A key (bZ P (A.aX key))=bs) (ht:mo P A (Call P A) L key (cH P (A.aX key)) (A.sin key).aY.length bs) {ds:List V} {r:Option (List V)}
  (h:FR P A (Call P A) L key ds=r):Call P A key ds=r:=by
 rw[Xy,Uf P A (Call P A) key (bn hb ht),h]
end
section
variable (P:Program) (A:cl)
def gG (C:af) (N f n m:Nat):Code→St→Option (Out × St)
 | .skip,st=>some (.norm,st)
 | .region id ops draw,st=>(u0 P (A.here f id) C n ops draw st).bind fun st'=>some (.norm,canon m (A.live f id) (freeze m (A.pur f id) st'))
 | .seq a b,st=>(gG C N f n m a st).bind fun r=>
  match r.1 with
  | .norm=>gG C N f n m b r.2
  | _=>some r
 | .cond (.tmp t) x y,st=>
  let go (st:St):Option (Out × St):=
   match st.sl t with
   | .bool b=>(bif b then gG C N f n m x st else gG C N f n m y st).bind fun r=>
    match r.1 with
    | .norm=>some (.norm,canon m (A.join f t) r.2)
    | _=>some r
   | _=>none
  match A.fN f (t*16+15) with
  | none=>go st
  | some S=>(gM m S.1 st).bind fun ds=>((go (bf S.1 ds)).bind fun r=>ways m 0 S.2 r).bind fun e=>ji 0 S.2 e.1 e.2 fun o st=>some (o,st)
 | .cond (.const (.bool b)) x y,st=>bif b then gG C N f n m x st else gG C N f n m y st
 | .block id c,st=>(gG C N f n m c st).bind fun r=>
  match r.1 with
  | .norm=>some (.norm,canon m (A.blk f id) r.2)
  | .exit aF=>bif Nat.beq aF id then some (.norm,canon m (A.blk f id) r.2) else some r
  | .ret=>some r
 | .loop c,st=>
  match A.fN f (keyOf c+1) with
  | none=>none
  | some S=>(gM m S.1 st).bind fun ds=>(dW (fun ds=>jN m S.1 S.2 (gG C N f n m c (bf S.1 ds))) N ds).bind fun e=>ji 0 S.2 e.1 e.2 fun o st=>some (o,st)
 | .exit id,st=>some (.exit id,st)
 | .ret,st=>some (.ret,st)
 | _,_=>none
def HK (C:af) (N f:Nat) (ds:List V):Option (List V):=
 match P.funcs[A.aX f]? with
 | none=>none
 | some fn=>
  match fn.body with
  | none=>none
  | some c=>bif gy 0 (A.sin f).bw&&(Nat.ble (A.sin f).bw.length fn.ntmps&&((A.sin f).ok&&(gy 0 (A.eJ f).bw&&(Nat.beq (A.eJ f).bw.length fn.results.size&&mV (kU (A.sin f).aY.length (A.mv f)))))) then
    (gG P A C N f fn.ntmps (A.sin f).aY.length c (ye A f ds)).bind fun r=>
     match r.1 with
     | .exit _=>none
     | _=>((si P A f fn (A.sin f).aY.length r.2).run C r.2.hp).map (·.1)
   else none
def DF (N:Nat):Nat→af
 | 0=>fun _ _=>none
 | n+1=>HK P A (DF N n) N
variable {P A}
theorem Ot {X R:Type} {s1 s2:X→Option (X ⊕ R)} (h: ∀x y,s1 x=some y→s2 x=some y): ∀(n:Nat) (x:X) (r:R),dW s1 n x=some r→dW s2 n x=some r
 | 0,x,r,e=>by cases e
 | n+1,x,r,e=>by
  simp only[dW] at e⊢
  obtain ⟨y,h1,U⟩:=bind_some e
  rw[h x y h1]
  cases y with
  | inl z=>exact Ot h n z r U
  | inr q=>exact U
theorem XM {C:af} {N f n m:Nat}: ∀(c:Code) {st:St} {r:Out × St},gG P A C N f n m c st=some r→exec P A C f n m c st=some r:=by
 intro c
 induction c with
 | skip=>exact fun e=>e
 | exit id=>exact fun e=>e
 | ret=>exact fun e=>e
 | region id ops draw=>exact fun e=>e
 | seq x y fh fi=>
  intro st r e
  simp only[gG,exec] at e⊢
  obtain ⟨⟨o,s1⟩,h1,U⟩:=bind_some e
  rw[fh h1]
  cases o with
  | norm=>exact fi U
  | exit id=>exact U
  | ret=>exact U
 | cond c x y fh fi=>
  intro st r e
  cases c with
  | tmp t=>
   have go: ∀{st:St} {r:Out × St},(match st.sl t with
     | .bool b=>(bif b then gG P A C N f n m x st else gG P A C N f n m y st).bind fun r=>
      match r.1 with
      | .norm=>some (.norm,canon m (A.join f t) r.2)
      | _=>some r
     | _=>none)=some r→(match st.sl t with
     | .bool b=>(bif b then exec P A C f n m x st else exec P A C f n m y st).bind fun r=>
      match r.1 with
      | .norm=>some (.norm,canon m (A.join f t) r.2)
      | _=>some r
     | _=>none)=some r:=by
    intro st r e
    cases hs:st.sl t<;>rw[hs] at e<;>simp only at e⊢ <;>first|(cases e;done)|skip
    rename_i b
    obtain ⟨x1,h1,U⟩:=bind_some e
    cases b with
    | true=>simp only[cond_true,fh h1,Option.bind_some];exact U
    | false=>simp only[cond_false,fi h1,Option.bind_some];exact U
   simp only[gG,exec] at e⊢
   split at e
   ·rename_i hS
    try rw[hS]
    exact go e
   ·rename_i S hS
    obtain ⟨ds,h1,U⟩:=bind_some e
    obtain ⟨e',h3,h4⟩:=bind_some U
    obtain ⟨r1,h5,h6⟩:=bind_some h3
    try rw[hS]
    simp only[h1,Option.bind_some]
    exact (congrArg (fun z:Option (Out × St)=>(z.bind fun r=>ways m 0 S.2 r).bind fun e=>ji 0 S.2 e.1 e.2 fun o st=>some (o,st)) (go h5)).trans (by simp only[Option.bind_some,h6];exact h4)
  | const v=>
   cases v with
   | bool b=>
    simp only[gG,exec] at e⊢
    cases b with
    | true=>exact fh e
    | false=>exact fi e
   | _=>simp only[gG] at e;cases e
  | _=>simp only[gG] at e;cases e
 | block id c ih=>
  intro st r e
  simp only[gG,exec] at e⊢
  obtain ⟨x1,h1,U⟩:=bind_some e
  rw[ih h1]
  exact U
 | loop c ih=>
  intro st r e
  simp only[gG,exec] at e⊢
  split at e
  ·cases e
  ·rename_i S hS
   obtain ⟨ds,h1,U⟩:=bind_some e
   obtain ⟨e',h3,h4⟩:=bind_some U
   try rw[hS]
   simp only[h1,Option.bind_some]
   rw[uK (Ot (s2:=fun ds=>jN m S.1 S.2 (exec P A C f n m c (bf S.1 ds))) (fun x y ta=>by
    unfold jN at ta⊢
    obtain ⟨z,h5,h6⟩:=bind_some ta
    rw[ih h5]
    exact h6) N ds e' h3)]
   exact h4
 | _=>intro st r e;simp only[gG] at e;cases e
theorem XN {C:af} {N f:Nat} {ds es:List V} (e:HK P A C N f ds=some es):mY P A C f ds=some es:=by
 unfold HK at e
 unfold mY
 cases hf:P.funcs[A.aX f]? with
 | none=>rw[hf] at e;cases e
 | some fn=>
  rw[hf] at e
  simp only at e⊢
  cases hb:fn.body with
  | none=>rw[hb] at e;cases e
  | some c=>
   rw[hb] at e
   simp only at e⊢
   cases hc:(gy 0 (A.sin f).bw&&(Nat.ble (A.sin f).bw.length fn.ntmps&&((A.sin f).ok&&(gy 0 (A.eJ f).bw&&(Nat.beq (A.eJ f).bw.length fn.results.size&&mV (kU (A.sin f).aY.length (A.mv f))))))) with
   | false=>rw[hc] at e;cases e
   | true=>
    rw[hc] at e
    simp only[cond_true] at e⊢
    obtain ⟨x,h1,U⟩:=bind_some e
    rw[XM c h1]
    exact U
theorem Ou {N:Nat}: ∀n {f:Nat} {a r:List V},DF P A N n f a=some r→jk P A n f a=some r
 | 0,f,a,r,h=>by cases h
 | n+1,f,a,r,h=>by
  obtain ⟨M,hM⟩:=Dv (C:=DF P A N n) (D:=fun _=>jk P A n) (fun f a r h=>⟨0,fun _ _=>Ou n h⟩) (XN h)
  exact hM M (bQ _)
theorem XO {N n f:Nat} {a r:List V} (h:DF P A N n f a=some r):Call P A f a=some r:=zc.2 ⟨n,Ou n h⟩
end
inductive LK where
 | int (k:IntKind)
 | bool
 | str
 | list (e:TypeId)
 | nat
def LK.Ty:LK→Type
 | .int _=>Int
 | .bool=>Bool
 | .str=>List UInt8
 | .list _=>List V
 | .nat=>Nat
def LK.enc:(k:LK)→k.Ty→V
 | .int k,n=> .int k n
 | .bool,b=> .bool b
 | .str,s=> .str s
 | .list e,l=> .list e l
 | .nat,n=>dc n
def LK.dec:(k:LK)→V→k.Ty
 | .int _,v=>v.toInt
 | .bool,v=>v.toBool
 | .str,v=>v.toStr
 | .list _,v=>v.toList
 | .nat,v=>jK v
theorem LK.Ov: ∀(k:LK) (x:k.Ty),k.dec (k.enc x)=x
 | .int _,_=>rfl
 | .bool,_=>rfl
 | .str,_=>rfl
 | .list _,_=>rfl
 | .nat,_=>rfl
def HL:List Nat→List LK
 | []=>[]
 | _::l=> .nat::HL l
def LS.ks:LS→List LK
 | .int k=>[.int k]
 | .bool=>[.bool]
 | .str=>[.str]
 | .list e=>[.list e]
 | .sub .. =>[.nat,.nat]
 | .ptr _=>[.nat,.nat]
 | .row _ _ cs=>HL cs
 | .cu _ cs _=> .nat::HL cs
 | _=>[]
def vI:List LS→List LK
 | []=>[]
 | l::ls=>l.ks++vI ls
def VS.ks:VS→List LK
 | .one l=>l.ks
 | .agg ls=>vI ls
 | .bh ls=>vI ls
 | .fn _ a b=>vI a++vI b
 | .pref _ ls=>vI ls
def Ow:List VS→List LK
 | []=>[]
 | l::ls=>l.ks++Ow ls
def BS.ks:BS→List LK
 | .var _ cs=>Ow cs
 | .arr e _=>[.list e]
 | .nest e=>[.list e]
 | .dead=>[]
 | .map t=>[.list t]
def Ox:List (Nat × VS)→List LK
 | []=>[]
 | p::l=>p.2.ks++Ox l
def Oy:List BS→List LK
 | []=>[]
 | b::l=>b.ks++Oy l
def Shape.ks (S:Shape):List LK:=Ox S.bw++Oy S.aY
def HM:List Nat→List V→List V
 | [],_=>[]
 | _::cs,ds=>dc (jK (V.nth ds 0))::HM cs (ds.drop 1)
def LS.norm:LS→List V→List V
 | .int k,ds=>[.int k (V.nth ds 0).toInt]
 | .bool,ds=>[.bool (V.nth ds 0).toBool]
 | .str,ds=>[.str (V.nth ds 0).toStr]
 | .list e,ds=>[.list e (V.nth ds 0).toList]
 | .sub ..,ds=>[dc (jK (V.nth ds 0)),dc (jK (V.nth ds 1))]
 | .ptr _,ds=>[dc (jK (V.nth ds 0)),dc (jK (V.nth ds 1))]
 | .row _ _ cs,ds=>HM cs ds
 | .cu _ cs _,ds=>dc (jK (V.nth ds 0))::HM cs (ds.drop 1)
 | _,_=>[]
def vJ:List LS→List V→List V
 | [],_=>[]
 | l::ls,ds=>l.norm ds++vJ ls (ds.drop l.size)
def VS.norm:VS→List V→List V
 | .one l,ds=>l.norm ds
 | .agg ls,ds=>vJ ls ds
 | .bh ls,ds=>vJ ls ds
 | .fn _ a b,ds=>vJ a ds++vJ b (ds.drop (jg a))
 | .pref _ ls,ds=>vJ ls ds
def Oz:List VS→List V→List V
 | [],_=>[]
 | l::ls,ds=>l.norm ds++Oz ls (ds.drop l.size)
def BS.norm:BS→List V→List V
 | .var _ cs,ds=>Oz cs ds
 | .arr e _,ds=>[.list e (V.nth ds 0).toList]
 | .nest e,ds=>[.list e (V.nth ds 0).toList]
 | .dead,_=>[]
 | .map t,ds=>[.list t (V.nth ds 0).toList]
def OA:List (Nat × VS)→List V→List V
 | [],_=>[]
 | p::l,ds=>p.2.norm ds++OA l (ds.drop p.2.size)
def OB:List BS→List V→List V
 | [],_=>[]
 | b::l,ds=>b.norm ds++OB l (ds.drop b.size)
def Shape.norm (S:Shape) (ds:List V):List V:=OA S.bw ds++OB S.aY (ds.drop (mU S.bw))
def td:LK→List LK→Type
 | k,[]=>k.Ty
 | k,k'::ks=>k.Ty × td k' ks
def jv:List LK→Type
 | []=>Unit
 | k::ks=>td k ks
def te:(k:LK)→(ks:List LK)→td k ks→List V
 | k,[],x=>[k.enc x]
 | k,k'::ks,x=>k.enc x.1::te k' ks x.2
def jY:(ks:List LK)→jv ks→List V
 | [],_=>[]
 | k::ks,x=>te k ks x
def zf:(k:LK)→(ks:List LK)→List V→td k ks
 | k,[],l=>k.dec (V.nth l 0)
 | k,k'::ks,l=>(k.dec (V.nth l 0),zf k' ks l.tail)
def nn:(ks:List LK)→List V→jv ks
 | [],_=>()
 | k::ks,l=>zf k ks l
theorem OC: ∀(k:LK) (ks:List LK) (x:td k ks) (r:List V),zf k ks (te k ks x++r)=x
 | k,[],x,r=>LK.Ov k x
 | k,k'::ks,x,r=>by
  show (k.dec (k.enc x.1),zf k' ks (te k' ks x.2++r))=x
  rw[LK.Ov,OC k' ks]
  rfl
def vK:List LK→Type 1→Type 1
 | [],R=>R
 | k::ks,R=>k.Ty→vK ks R
def OD:(k:LK)→(ks:List LK)→{R:Type 1}→vK (k::ks) R→td k ks→R
 | _,[],_,f,x=>f x
 | _,k'::ks,_,f,x=>OD k' ks (f x.1) x.2
def tf:(ks:List LK)→{R:Type 1}→vK ks R→jv ks→R
 | [],_,f,_=>f
 | k::ks,_,f,x=>OD k ks f x
def vL {α:Type} (b:Bool):List Bool→List α→List α
 | [],_=>[]
 | _,[]=>[]
 | c::m,x::l=>bif c==b then x::vL b m l else vL b m l
def merge:List Bool→List V→List V→List V
 | [],_,_=>[]
 | true::m,i,x=>V.nth x 0::merge m i x.tail
 | false::m,i,x=>V.nth i 0::merge m i.tail x
def vM:List Nat→List LK→List LK
 | [],_=>[]
 | _,[]=>[]
 | 0::t,k::ks=>k::vM t ks
 | (_+1)::t,_::ks=>vM t ks
abbrev eY:=List Nat × List LK
def eY.fresh (w:eY):List LK:=vM w.1 w.2
def put:List Nat→List V→List V→List V
 | [],_,_=>[]
 | 0::t,ds,x=>V.nth x 0::put t ds x.tail
 | (j+1)::t,ds,x=>V.nth ds j::put t ds x
def th:List Nat→List V→List V
 | [],_=>[]
 | 0::t,l=>V.nth l 0::th t l.tail
 | (_+1)::t,l=>th t l.tail
def rj:eY→List eY→Type
 | w,[]=>jv w.fresh
 | w,w'::ws=>jv w.fresh ⊕ rj w' ws
def pZ:List eY→Type
 | []=>Empty
 | w::ws=>rj w ws
def wN (ds:List V) {β:Type} (k:Nat→List V→Option β):Nat→(w:eY)→(ws:List eY)→rj w ws→Option β
 | j,w,[],r=>k j (put w.1 ds (jY w.fresh r))
 | j,w,w'::ws,r=>cY (fun x=>k j (put w.1 ds (jY w.fresh x))) (fun y=>wN ds k (j+1) w' ws y) r
def wT (ds:List V) {β:Type} (k:Nat→List V→Option β):(ws:List eY)→pZ ws→Option β
 | [],r=>Empty.elim r
 | w::ws,r=>wN ds k 0 w ws r
def np (ds:List V):Nat→(w:eY)→(ws:List eY)→rj w ws→Nat × List V
 | j,w,[],r=>(j,put w.1 ds (jY w.fresh r))
 | j,w,_::_,.inl x=>(j,put w.1 ds (jY w.fresh x))
 | j,_,w'::ws,.inr y=>np ds (j+1) w' ws y
def vN (ds:List V):(ws:List eY)→pZ ws→Nat × List V
 | [],r=>Empty.elim r
 | w::ws,r=>np ds 0 w ws r
theorem OE (ds:List V) {β:Type} (k:Nat→List V→Option β): ∀(j:Nat) (w:eY) (ws:List eY) (r:rj w ws),wN ds k j w ws r=k (np ds j w ws r).1 (np ds j w ws r).2
 | _,_,[],_=>rfl
 | _,_,_::_,.inl _=>rfl
 | j,_,w'::ws,.inr y=>OE ds k (j+1) w' ws y
theorem DG (ds:List V) {β:Type} (k:Nat→List V→Option β): ∀(ws:List eY) (r:pZ ws),wT ds k ws r=k (vN ds ws r).1 (vN ds ws r).2
 | [],r=>Empty.elim r
 | w::ws,r=>OE ds k 0 w ws r
def vO:Nat→(w:eY)→(ws:List eY)→List V→rj w ws
 | _,w,[],l=>nn w.fresh (th w.1 l)
 | 0,w,_::_,l=> .inl (nn w.fresh (th w.1 l))
 | j+1,_,w'::ws,l=> .inr (vO j w' ws l)
def OF (j:Nat):(ws:List eY)→List V→Option (pZ ws)
 | [],_=>none
 | w::ws,l=>some (vO j w ws l)
def vP:List Nat→List V→List V
 | [],_=>[]
 | 0::t,x=>V.nth x 0::vP t x.tail
 | (_+1)::t,x=>vP t x
theorem HN: ∀(t:List Nat) (ds x:List V),th t (put t ds x)=vP t x
 | [],_,_=>rfl
 | 0::t,ds,x=>congrArg (V.nth x 0:: ·) (HN t ds x.tail)
 | (_+1)::t,ds,x=>HN t ds x
theorem HO: ∀(t:List Nat) (ks:List LK) (k:LK) (cg:List LK),vM t ks=k::cg→∀x:td k cg,∃r,vP t (te k cg x)=te k cg x++r
 | [],_,_,_,h,_=>by cases h
 | _::_,[],_,_,h,_=>by simp[vM] at h
 | 0::t,a::ks,k,cg,h,x=>by
  simp only[vM,List.cons.injEq] at h
  obtain ⟨rfl,U⟩:=h
  cases cg with
  | nil=>exact ⟨vP t [],rfl⟩
  | cons k' cg=>
   obtain ⟨r,hr⟩:=HO t ks k' cg U x.2
   exact ⟨r,congrArg (a.enc x.1:: ·) hr⟩
 | (_+1)::t,a::ks,k,cg,h,x=>HO t ks k cg h x
theorem OG (w:eY) (ds:List V) (x:jv w.fresh):nn w.fresh (th w.1 (put w.1 ds (jY w.fresh x)))=x:=by
 rw[HN]
 revert x
 generalize hf:w.fresh=f
 cases f with
 | nil=>intro x;rfl
 | cons k ks=>
  intro x
  obtain ⟨r,hr⟩:=HO w.1 w.2 k ks hf x
  show zf k ks (vP w.1 (te k ks x))=x
  rw[hr]
  exact OC k ks x r
theorem OH (ds:List V): ∀(j:Nat) (w:eY) (ws:List eY) (r:rj w ws),j≤(np ds j w ws r).1
 | _,_,[],_=>bQ _
 | _,_,_::_,.inl _=>bQ _
 | j,_,w'::ws,.inr y=>kR (Nat.le_succ j) (OH ds (j+1) w' ws y)
theorem XP (w:eY) (l:List V): ∀j,vO j w [] l=nn w.fresh (th w.1 l)
 | 0=>rfl
 | _+1=>rfl
theorem OI (ds:List V): ∀(j:Nat) (w:eY) (ws:List eY) (r:rj w ws),vO ((np ds j w ws r).1-j) w ws (np ds j w ws r).2=r
 | j,w,[],r=>(XP w _ _).trans (OG w ds r)
 | j,w,w'::ws,.inl x=>by
  show vO (j-j) w (w'::ws) (put w.1 ds (jY w.fresh x))= .inl x
  rw[Nat.sub_self]
  exact congrArg Sum.inl (OG w ds x)
 | j,w,w'::ws,.inr y=>by
  have h1:=OH ds (j+1) w' ws y
  have U:=OI ds (j+1) w' ws y
  show vO ((np ds (j+1) w' ws y).1-j) w (w'::ws) (np ds (j+1) w' ws y).2= .inr y
  obtain ⟨d,hd⟩: ∃d,(np ds (j+1) w' ws y).1=j+1+d:=⟨(np ds (j+1) w' ws y).1-(j+1),by omega⟩
  rw[hd] at U⊢
  rw[show j+1+d-(j+1)=d by omega] at U
  rw[show j+1+d-j=d+1 by omega]
  exact congrArg Sum.inr U
theorem XQ (ds:List V): ∀(ws:List eY) (r:pZ ws),OF (vN ds ws r).1 ws (vN ds ws r).2=some r
 | [],r=>Empty.elim r
 | w::ws,r=>congrArg some (OI ds 0 w ws r)
section
variable {P:Program} {A:cl} {C:af} {L:cw} {f n m:Nat}
theorem XR {c:Code} {S:Shape × List (Out × Shape)} (hS:A.fN f (keyOf c+1)=some S) (hL:gA P A C L f n m c) {I X R:Type} (enc:I→X→List V) (lp:I→R→Nat × List V)
  (ov:List V→I) (p5:List V→X) (DH:Nat × List V→Option R) (body:I→X→(β:Type)→(X→Option β)→(R→Option β)→Option β)
  (tc: ∀ds,bf S.1 (enc (ov ds) (p5 ds))=bf S.1 ds) (HP: ∀i x,p5 (enc i x)=x) (XS: ∀i r,DH (lp i r)=some r)
  (e1: ∀i x (β:Type) (k:(List V ⊕ (Nat × List V))→Option β),gz P A C L f n m c (bf S.1 (enc i x)) (fun o st=>(jN m S.1 S.2 (some (o,st))).bind k)=
   body i x β (fun y=>k (.inl (enc i y))) (fun r=>k (.inr (lp i r))))
  (hl: ∀(β:Type) ds (k:Nat→List V→Option β),L β (keyOf c+1) ds k=(Loop (fun x=>body (ov ds) x (X ⊕ R) (fun y=>some (.inl y)) (fun r=>some (.inr r))) (p5 ds)).bind fun r=>k (lp (ov ds) r).1 (lp (ov ds) r).2):
  cq P A C L f n m (.loop c):=by
 simp only[cq,hS]
 intro β ds k
 rw[hl]
 have hex: ∀(z:Option (Out × St)),jN m S.1 S.2 z=z.bind fun r=>jN m S.1 S.2 (some (r.1,r.2)):=by
  intro z;cases z<;>rfl
 have hs: ∀i x,stepG P A C f n m S c (enc i x)=(body i x (X ⊕ R) (fun y=>some (.inl y)) (fun r=>some (.inr r))).map fun| .inl y=> .inl (enc i y)| .inr r=> .inr (lp i r):=by
  intro i x
  have k1:=e1 i x _ (fun z=>some z)
  have k2:=e1 i x (X ⊕ R) (fun| .inl ds=>some (.inl (p5 ds))| .inr e=>(DH e).map .inr)
  have k3:=e1 i x (List V ⊕ (Nat × List V)) (fun| .inl ds=>some (.inl (enc i (p5 ds)))| .inr e=>(DH e).map fun r=> .inr (lp i r))
  simp only[HP,XS,Option.map_some] at k2 k3
  unfold stepG
  rw[hex]
  rw[Ce P A C f n m c hL] at k1 k2 k3
  rw[←k2]
  refine ba ?_ (k1.trans (k3.symm.trans ?_))
  ·congr 1
   funext r
   cases jN m S.1 S.2 (some (r.1,r.2))<;>rfl
  ·cases exec P A C f n m c (bf S.1 (enc i x)) with
   | none=>rfl
   | some r=>
    simp only[Option.bind_some]
    cases jN m S.1 S.2 (some (r.1,r.2)) with
    | none=>rfl
    | some z=>
     cases z with
     | inl _=>rfl
     | inr e=>simp only[Option.bind_some];cases DH e<;>rfl
 have h0:stepG P A C f n m S c ds=stepG P A C f n m S c (enc (ov ds) (p5 ds)):=by
  unfold stepG
  rw[tc]
 have:Loop (stepG P A C f n m S c) ds=(Loop (fun x=>body (ov ds) x (X ⊕ R) (fun y=>some (.inl y)) (fun r=>some (.inr r))) (p5 ds)).map (lp (ov ds)):=by
  rw[BM,h0,←BM]
  exact Ud (enc (ov ds)) (lp (ov ds)) (fun x=>hs _ _) (p5 ds)
 rw[this]
 cases Loop (fun x=>body (ov ds) x (X ⊕ R) (fun y=>some (.inl y)) (fun r=>some (.inr r))) (p5 ds)<;>rfl
abbrev zg (S:Shape) (mk:List Bool):List LK:=vL false mk S.ks
abbrev ti (S:Shape) (mk:List Bool):List LK:=vL true mk S.ks
def p6 (ts:List (List Nat)) (W:List (Out × Shape)):List eY:=
 match ts,W with
 | t::ts,w::W=>(t,w.2.ks)::p6 ts W
 | _,_=>[]
abbrev zh (S:Shape) (mk:List Bool) (i:jv (zg S mk)) (x:jv (ti S mk)):List V:=merge mk (jY _ i) (jY _ x)
abbrev HQ (S:Shape) (mk:List Bool) (i:jv (zg S mk)):List V:=merge mk (jY _ i) []
abbrev DI (S:Shape) (mk:List Bool) (ds:List V):jv (zg S mk):=nn _ (vL false mk (S.norm ds))
abbrev DJ (S:Shape) (mk:List Bool) (ds:List V):jv (ti S mk):=nn _ (vL true mk (S.norm ds))
abbrev OJ (X R:Type):Type 1:=(β:Type)→(X→Option β)→(R→Option β)→Option β
abbrev HR (S:Shape × List (Out × Shape)) (mk:List Bool) (ts:List (List Nat)):Type 1:=vK (zg S.1 mk) (vK (ti S.1 mk) (OJ (jv (ti S.1 mk)) (pZ (p6 ts S.2))))
abbrev HS (S:Shape × List (Out × Shape)) (mk:List Bool) (ts:List (List Nat)) (b:HR S mk ts) (i:jv (zg S.1 mk)) (x:jv (ti S.1 mk)):OJ (jv (ti S.1 mk)) (pZ (p6 ts S.2)):=tf _ (tf _ b i) x
noncomputable def bS (S:Shape × List (Out × Shape)) (mk:List Bool) (ts:List (List Nat)) (b:HR S mk ts) {β:Type} (ds:List V) (k:Nat→List V→Option β):Option β:=
 (Loop (fun x=>HS S mk ts b (DI S.1 mk ds) x (jv (ti S.1 mk) ⊕ pZ (p6 ts S.2)) (fun y=>some (.inl y)) (fun r=>some (.inr r))) (DJ S.1 mk ds)).bind (wT (HQ S.1 mk (DI S.1 mk ds)) k (p6 ts S.2))
theorem bX {c:Code} (S:Shape × List (Out × Shape)) (mk:List Bool) (ts:List (List Nat)) (b:HR S mk ts) (hS:A.fN f (keyOf c+1)=some S) (hL:gA P A C L f n m c)
  (tc: ∀ds,bf S.1 (zh S.1 mk (DI S.1 mk ds) (DJ S.1 mk ds))=bf S.1 ds) (HP: ∀i x,DJ S.1 mk (zh S.1 mk i x)=x)
  (e1: ∀i x (β:Type) (k:(List V ⊕ (Nat × List V))→Option β),gz P A C L f n m c (bf S.1 (zh S.1 mk i x)) (fun o st=>(jN m S.1 S.2 (some (o,st))).bind k)=
   HS S mk ts b i x β (fun y=>k (.inl (zh S.1 mk i y))) (wT (HQ S.1 mk i) (fun j l=>k (.inr (j,l))) (p6 ts S.2)))
  (hl: ∀(β:Type) ds (k:Nat→List V→Option β),L β (keyOf c+1) ds k=bS S mk ts b ds k):
  cq P A C L f n m (.loop c):=
 XR hS hL (zh S.1 mk) (fun i r=>vN (HQ S.1 mk i) _ r) (DI S.1 mk) (DJ S.1 mk) (fun e=>OF e.1 _ e.2) (HS S mk ts b) tc HP (fun i r=>XQ _ _ r)
  (fun i x β k=>by
   rw[e1]
   congr 1
   funext r
   exact DG _ _ _ r)
  (fun β ds k=>by
   rw[hl]
   unfold bS
   congr 1
   funext r
   exact DG _ _ _ r)
abbrev OK (S:Shape × List (Out × Shape)) (ts:List (List Nat)):Type 1:=vK S.1.ks ((β:Type)→(pZ (p6 ts S.2)→Option β)→Option β)
noncomputable def lq (S:Shape × List (Out × Shape)) (ts:List (List Nat)) (b:OK S ts) {β:Type} (ds:List V) (k:Nat→List V→Option β):Option β:=
 tf S.1.ks b (nn _ (S.1.norm ds)) β (wT (jY S.1.ks (nn _ (S.1.norm ds))) k (p6 ts S.2))
theorem mq {t:Nat} {x y:Code} (S:Shape × List (Out × Shape)) (ts:List (List Nat)) (b:OK S ts) (hS:A.fN f (t*16+15)=some S) (hx:gA P A C L f n m x) (hy:gA P A C L f n m y)
  (tc: ∀ds,bf S.1 (jY S.1.ks (nn _ (S.1.norm ds)))=bf S.1 ds)
  (e1: ∀i (β:Type) (k:Nat→List V→Option β),HJ P A C L f n m t S x y (jY S.1.ks i) k=tf S.1.ks b i β (wT (jY S.1.ks i) k (p6 ts S.2)))
  (hl: ∀(β:Type) ds (k:Nat→List V→Option β),L β (t*16+15) ds k=lq S ts b ds k):
  cq P A C L f n m (.cond t x y):=
 XL hS hx hy (jY S.1.ks) (fun i r=>vN (jY S.1.ks i) _ r) (fun ds=>nn _ (S.1.norm ds)) (tf S.1.ks b) tc
  (fun i β k=>by
   rw[e1]
   exact congrArg (tf S.1.ks b i β) (funext fun r=>DG _ _ _ r))
  (fun β ds k=>by
   rw[hl]
   exact congrArg (tf S.1.ks b (nn _ (S.1.norm ds)) β) (funext fun r=>DG _ _ _ r))
end
def cr:cw:=fun _ _ _ _=>none
end Go.AM
