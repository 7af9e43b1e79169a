/-
  Functions of the program, lifted to plain data.
-/
import Derived.Conc.MuLone
import Derived.Defers
import Derived.Carry
import Derived.OpenShut
import Derived.Deep.Slices
import Derived.Test.YtppefogdkedaiaaP2
set_option linter.unusedVariables false
set_option linter.unusedSimpArgs false
namespace Go.AM
section
variable {P:Program} {A:cm} {w w':World} {I I' I2:Nat→Prop} {μ β β' bM:Nat→Option Nat} {hp hp' hp0 bh:Nat→Option an} {C:ag} {B:Nat} {M:Nat→Prop} {w0:Start}
structure ku (w:World) (I:Nat→Prop) (β:Nat→Option Nat) (hp:Nat→Option an) (w':World) (I':Nat→Prop) (β':Nat→Option Nat) (hp':Nat→Option an):Prop where
 cY: ∀b,I b→I' b
 bQ: ∀b,I b→w'.heap[b]? =w.heap[b]?
 blk: ∀id blk,hp id=some blk→∃blk',hp' id=some blk'∧blk.le blk'∧(blk'≠ .dead→β' id=β id)
 size: ∀id blk blk' b,hp id=some blk→hp' id=some blk'→blk'≠ .dead→β id=some b→bsize w' b=bsize w b
theorem Le.CE (h:Le P w I β hp w' I' β' hp'):ku w I β hp w' I' β' hp':=⟨h.cY,h.bQ,h.blk,h.size⟩
theorem ku.trans {xZ:World} {ya:Nat→Prop} {yb:Nat→Option Nat} {yc:Nat→Option an} (h1:ku w I β hp w' I' β' hp') (U:ku w' I' β' hp' xZ ya yb yc):ku w I β hp xZ ya yb yc:=by
 refine ⟨fun b h=>U.cY b (h1.cY b h),fun b h=>(U.bQ b (h1.cY b h)).trans (h1.bQ b h),fun id blk h=> ?_,fun id blk sJ b h rh hd hb=> ?_⟩
 ·obtain ⟨blk',e',l',b'⟩:=h1.blk id blk h
  obtain ⟨sJ,dm,pO,FU⟩:=U.blk id blk' e'
  refine ⟨sJ,dm,an.le_trans l' pO,fun hd=> ?_⟩
  have eh:blk'≠ .dead:=fun e=>hd (an.oD (e▸pO))
  exact (FU hd).trans (b' eh)
 ·obtain ⟨blk',e',l',b'⟩:=h1.blk id blk h
  obtain ⟨gp,e3,l3,b3⟩:=U.blk id blk' e'
  obtain rfl:gp=sJ:=by rw[e3] at rh;exact cU rh
  have eh:blk'≠ .dead:=fun e=>hd (an.oD (e▸l3))
  rw[U.size id blk' gp b e' e3 hd ((b' eh).trans hb),h1.size id blk blk' b h e' eh hb]
def nS (P:Program) (w:World) (μ:Nat→Option Nat) (hp0:Nat→Option an) (b:Nat):Prop:= ∃j blk,hp0 j=some blk∧bn P w (μ j) blk b
structure WG (P:Program) (A:cm) (key:Nat) (w:World) (I:Nat→Prop) (μ:Nat→Option Nat) (ds es:List V) (w':World) (v:Value) (I2:Nat→Prop) (bM:Nat→Option Nat):Prop where
 vn:aE P w' I2 bM (bd (A.so key es) (A.lv key es)).hp w.heap.size (nS P w μ (bd (A.sin key) ds).hp) ⟨w,I⟩
 le:ku w I μ (bd (A.sin key) ds).hp w' I2 bM (bd (A.so key es) (A.lv key es)).hp
 res:ao P w' I2 bM (bd (A.so key es) (A.lv key es)).hp v (oB (eK (A.so key es).bE (A.lv key es)))
def ky (P:Program) (A:cm) (C:ag):Prop:=
 ∀key ds es,C key ds=some es→∃fn c,P.funcs[A.aZ key]? =some fn∧fn.body=some c∧
  ∀(w:World) (I:Nat→Prop) (μ:Nat→Option Nat) (vals:List Value),
   sI P w I μ (bd (A.sin key) ds).hp w.heap.size (nS P w μ (bd (A.sin key) ds).hp)→fN P A.aD w I→
   vals.length=(A.sin key).bE.length→(∀(j:Nat) v x,vals[j]? =some v→(eW ((A.sin key).bE.map (·.2)) ds)[j]? =some x→ao P w I μ (bd (A.sin key) ds).hp v x)→
   Calls P (A.aZ key) vals.toArray w fun e w'=> ∃v I2 bM,e= .returned v∧WG P A key w I μ ds es w' v I2 bM
theorem dG.tf {p:Place} {o:Option Nat} {blk:an} {b:Nat} (h:dG P w β hp p o blk) (ho:bn P w o blk b):
  ∃qf,hp p.id=some qf∧bn P w (β p.id) qf b∧∀e es,qf≠ .arr e es true:=by
 cases h with
 | var h=>exact ⟨_,h,.root (by simp) (ho.flat (by simp)),by simp⟩
 | arr h=>exact ⟨_,h,.root (by simp) (ho.flat (by simp)),by simp⟩
 | map h=>exact ⟨_,h,.root (by simp) (ho.flat (by simp)),by simp⟩
 | nest h=>
  refine ⟨_,h,?_,by simp⟩
  cases ho with
  | root _ hb=>exact .root (by simp) hb
  | row hb ha=>exact .row hb ha
 | row h hb ha _ _ _ _ _=>
  have:=ho.flat (by simp)
  cases this
  exact ⟨_,h,.row hb ha,by simp⟩
theorem aE.WH (S:aE P w I β hp B M w0) {id b:Nat} {blk:an} (ab:hp id=some blk) (ho:bn P w (β id) blk b) (hf: ∀e es,blk≠ .arr e es true): ¬I b:=by
 have hr:=S.h.rel id blk ab
 generalize β id=o at hr ho
 cases hr with
 | var hb _ _ hI _ _=>have:=ho.flat (by simp);rw[hb] at this;cases this;exact hI
 | dr hb=>have:=ho.flat (by simp);rw[hb] at this;cases this
 | @arr e es fz _ _ _ hb _ _ _ dO _=>
  have:=ho.flat (by simp)
  rw[hb] at this;cases this
  cases fz with
  | true=>exact absurd rfl (hf e es)
  | false=>exact dO rfl
 | dead=>exact absurd rfl ho.alive
 | map _ hb _ _ hI _ _=>have:=ho.flat (by simp);rw[hb] at this;cases this;exact hI
 | nest hb hr _=>
  cases ho with
  | root _ ay=>rw[hb] at ay;cases ay;exact (hr _ _ _ _ .here).nI
  | row ay ha=>rw[hb] at ay;cases ay;exact (hr _ _ _ _ ha).nI
theorem CF {a b:List Nat} (h:uG a b=false) {x:Nat} (ha:x∈a):x∉b:=by
 intro hb
 unfold uG at h
 rw[List.any_eq_false] at h
 exact h x ha (u6 hb)
theorem WI (S:aE P w I β hp B M w0) {pl:List Place} {upd:List (Nat × an)} {o:Nat→Option Nat} (jN:(pl.map Place.id).Nodup) (CG:uG (upd.map (·.1)) (pl.map Place.id)=false)
  (hl: ∀j blk,hp0 j=some blk→∃p,dM pl j=some p∧dG P w β hp p (o j) blk)
  (cp:(∀j blk,hp0 j=some blk→∀b,bn P w (o j) blk b→¬ig P w I β hp upd b)→∀j blk,hp0 j=some blk→dD P w (ig P w I β hp upd) o hp0 (o j) blk) (aL: ∀b,ig P w I β hp upd b→b<w.heap.size):
  sI P w (ig P w I β hp upd) o hp0 w.heap.size (nS P w o hp0):=by
 have cD: ∀j blk,hp0 j=some blk→∀b,bn P w (o j) blk b→¬ig P w I β hp upd b:=by
  intro j blk hj b ho hI
  obtain ⟨p,bh,fH⟩:=hl j blk hj
  obtain ⟨qf,k1,k2,k3⟩:=fH.tf ho
  rcases hI with hI|⟨q,hq,bK,q1,q2⟩
  ·exact S.WH k1 k2 k3 hI
  ·have:=S.h.inj _ _ _ _ b q1 k1 q2 k2
   refine CF CG (fP.2 ⟨q,hq,rfl⟩) ?_
   rw[this]
   rw[k0] at bh
   exact fP.2 ⟨p,iZ bh,rfl⟩
 refine ⟨cp cD,fun j1 j2 b1 b2 b h1 U o1 o2=> ?_,fun j blk b h1 o1=> .inl ⟨j,blk,h1,o1⟩,aL⟩
 obtain ⟨p1,q1,q2⟩:=hl j1 b1 h1
 obtain ⟨p2,r1,r2⟩:=hl j2 b2 U
 obtain ⟨c1,x1,x2,_⟩:=q2.tf o1
 obtain ⟨c2,y1,y2,_⟩:=r2.tf o2
 have ab:=S.h.inj _ _ _ _ b x1 y1 x2 y2
 rw[k0] at q1 r1
 have m1:(pl.map Place.id)[j1]? =some p1.id:=by rw[eT,q1];rfl
 have m2:(pl.map Place.id)[j2]? =some p2.id:=by rw[eT,r1];rfl
 rw[←ab] at m2
 obtain ⟨z1,z2⟩:=bj.1 m1
 obtain ⟨z3,z4⟩:=bj.1 m2
 exact (List.getElem_inj jN).1 (z2.trans z4.symm)
def ME:V→Prop
 | .list .. =>False
 | .pref .. =>False
 | .agg _=>False
 | .aW _=>False
 | .fn .. =>False
 | _=>True
theorem ao.free {v:Value} {x:V} (h:ao P w I β hp v x) (hx:ME x):ao P w I' β hp v x:=by
 cases h with
 | undef=>exact .undef
 | int=>exact .int
 | bool=>exact .bool
 | str h=>exact .str h
 | list h=>exact hx.elim
 | nilS=>exact .nilS
 | agg=>exact hx.elim
 | aW=>exact hx.elim
 | c9=>exact .c9
 | fn=>exact hx.elim
 | pref=>exact hx.elim
 | dN h=>exact .dN h
 | fE h=>exact .fE h
 | jE h=>exact .jE h
 | dq h hb=>exact .dq h hb
 | whole h hb a b c=>exact .whole h hb a b c
 | dW h hb a b c=>exact .dW h hb a b c
 | fk h hb=>exact .fk h hb
 | sub h hb a b c=>exact .sub h hb a b c
 | ptr h hd hb=>exact .ptr h hd hb
 | jc h qa=>exact .jc h qa
 | jd h qa=>exact .jd h qa
 | row h hb a b c d=>exact .row h hb a b c d
 | cl h hb a b c d e=>exact .cl h hb a b c d e
 | db=>exact .db
 | gP h=>exact .gP h
 | cb h hb=>exact .cb h hb
theorem yM {l:LS} {ds:List V} (hs:l.safe=true):ME (hX l ds):=by
 cases l<;>simp only[LS.safe] at hs<;>first|(cases hs;done)|trivial
theorem yN: ∀{ls:List LS} {ds:List V} {j:Nat} {y:V},(gI ls ds)[j]? =some y→∃l eO,l∈ls∧y=hX l eO
 | [],ds,j,y,h=>by simp[gI] at h
 | l::ls,ds,j,y,h=>by
  simp only[gI] at h
  cases j with
  | zero=>simp at h;exact ⟨l,ds,qR ..,h.symm⟩
  | succ j=>
   obtain ⟨l',eO,h1,U⟩:=yN (j:=j) (by simpa using h)
   exact ⟨l',eO,kJ _ h1,U⟩
theorem MF: ∀{ls:List VS} {ds:List V} {j:Nat} {y:V},(eW ls ds)[j]? =some y→∃l eO,l∈ls∧y=kg l eO
 | [],ds,j,y,h=>by simp[eW] at h
 | l::ls,ds,j,y,h=>by
  simp only[eW] at h
  cases j with
  | zero=>simp at h;exact ⟨l,ds,qR ..,h.symm⟩
  | succ j=>
   obtain ⟨l',eO,h1,U⟩:=MF (j:=j) (by simpa using h)
   exact ⟨l',eO,kJ _ h1,U⟩
theorem MG {s:VS} {ds:List V} {v:Value} (h:ao P w I β hp v (kg s ds)) (hs:s.safe=true):ao P w I' β hp v (kg s ds):=by
 cases s with
 | one l=>exact h.free (yM hs)
 | agg ls=>
  simp only[kg] at h⊢
  obtain ⟨cs,rfl,e1,e2⟩:=h.km
  refine .agg e1 fun j v x hj hx=> ?_
  obtain ⟨l,eO,k1,rfl⟩:=yN hx
  exact (e2 j v _ hj hx).free (yM (eS.1 hs l k1))
 | aW ls=>
  simp only[kg] at h⊢
  obtain ⟨cs,rfl,e1,e2⟩:=h.sQ
  refine .aW e1 fun j v x hj hx=> ?_
  obtain ⟨l,eO,k1,rfl⟩:=yN hx
  exact (e2 j v _ hj hx).free (yM (eS.1 hs l k1))
 | fn f a b=>
  simp only[VS.safe,aI] at hs
  simp only[kg] at h⊢
  cases h with
  | fn a1 a2 b1 b2=>
   refine .fn a1 (fun j v x hj hx=> ?_) b1 (fun j v x hj hx=> ?_)
   ·obtain ⟨l,eO,k1,rfl⟩:=yN hx
    exact (a2 j v _ hj hx).free (yM (eS.1 hs.1 l k1))
   ·obtain ⟨l,eO,k1,rfl⟩:=yN hx
    exact (b2 j v _ hj hx).free (yM (eS.1 hs.2 l k1))
 | pref ts ls=>cases hs
theorem Pure.scalar {t:TypeId} {v:Value} {x:V} (h:Pure P w I t v x) (hn: ∀e,P.underlying t≠some (.slice e)):Pure P w I' t v x:=by
 cases h with
 | int h=>exact .int h
 | bool h=>exact .bool h
 | str h hl=>exact .str h hl
 | nil h=>exact absurd h (hn _)
 | emp h=>exact absurd h (hn _)
 | list g h=>exact absurd h (hn _)
theorem WJ {e t:TypeId} {j:Nat} (h:xL P e=true) (ht:(aQ P e)[j]? =some t) (e':TypeId):P.underlying t≠some (.slice e'):=by
 intro hu
 have U:=eS.1 h t (iZ ht)
 rw[hu] at U
 cases U
theorem WK {o:Option Nat} {b:BS} {ds:List V} (h:dD P w I2 β hp o (fh b ds)) (hs:b.safe P=true) (hi: ∀b,I b→I2 b):dD P w I β hp o (fh b ds):=by
 cases b with
 | dead=>exact .dead
 | var T0 ls=>
  simp only[fh] at h⊢
  cases h with
  | var hb hh aR hI hx fG=>
   refine .var hb hh aR (fun h=>hI (hi _ h)) (fun j v x hj cf=> ?_) fG
   obtain ⟨l,eO,k1,rfl⟩:=MF cf
   exact MG (hx j v _ hj cf) (eS.1 hs l k1)
 | arr e fz=>
  simp only[BS.safe,aI,mi] at hs
  obtain ⟨rfl,yL⟩:=hs
  simp only[fh] at h⊢
  generalize (V.nth ds 0).toList=es at h⊢
  cases h with
  | dr hb=>exact .dr hb
  | arr a1 a2 a3 a4 a5 a6 a7=>
   refine .arr a1 a2 a3 a4 (fun h=>by cases h) (fun _ h=>a6 rfl (hi _ h)) fun i j x t' y1 y2 y3=> ?_
   obtain ⟨v,z1,z2⟩:=a7 i j x t' y1 y2 y3
   exact ⟨v,z1,z2.scalar (WJ yL y2)⟩
 | nest e=>
  simp only[fh] at h⊢
  generalize (V.nth ds 0).toList=es at h⊢
  cases h with
  | nest hb cq nL=>
   refine .nest hb (fun q b' e1 m1 hq=> ?_) nL
   obtain ⟨ok,⟨Ca,c1,c2,c3⟩,nI⟩:=cq q b' e1 m1 hq
   refine ⟨ok,⟨Ca,c1,c2,fun i j x t' y1 y2 y3=> ?_⟩,fun h=>nI (hi _ h)⟩
   obtain ⟨v,z1,z2⟩:=c3 i j x t' y1 y2 y3
   refine ⟨v,z1,?_⟩
   generalize bC P e1 x j=y at z2⊢
   cases z2 with
   | fj a p=>
    refine .fj a (p.scalar fun e hu=> ?_)
    unfold fg at a
    rw[hu] at a
    cases a
   | emp a b=>exact .emp a b
   | row a b c d e=>exact .row a b c d e
 | map t=>
  simp only[fh] at h⊢
  cases h with
  | map a1 a2 a3 a4 a5 a6 a7=>exact .map a1 a2 a3 a4 (fun h=>a5 (hi _ h)) a6 a7
theorem G5: ∀{l:List BS} {ds:List V} {j:Nat} {y:an},(eg l ds)[j]? =some y→∃b eO,l[j]? =some b∧y=fh b eO
 | [],ds,j,y,h=>by simp[eg] at h
 | b::l,ds,j,y,h=>by
  simp only[eg] at h
  cases j with
  | zero=>simp at h;exact ⟨b,ds,rfl,h.symm⟩
  | succ j=>
   obtain ⟨b',eO,h1,U⟩:=G5 (j:=j) (by simpa using h)
   exact ⟨b',eO,by simpa using h1,U⟩
theorem MH: ∀{l:List (Nat × VS)} {ds:List V} {q:Nat × V},q∈eK l ds→∃s eO,(q.1,s)∈l∧q.2=kg s eO
 | [],ds,q,h=>by simp[eK] at h
 | (k,s)::l,ds,q,h=>by
  simp only[eK,c8] at h
  rcases h with h|h
  ·subst h;exact ⟨s,ds,qR ..,rfl⟩
  ·obtain ⟨s',eO,h1,U⟩:=MH h
   exact ⟨s',eO,kJ _ h1,U⟩
theorem WM {S:Shape} {es:List V} (hs:S.safe P=true) (hi: ∀b,I b→I2 b) {N:Nat→Prop} {st:Start} (h:aE P w' I2 bM (bd S es).hp B N st) (h0: ∀b,I b→st.I b):
  aE P w' I bM (bd S es).hp B N st∧∀v,ao P w' I2 bM (bd S es).hp v (oB (eK S.bE es))→ao P w' I bM (bd S es).hp v (oB (eK S.bE es)):=by
 unfold Shape.safe at hs
 simp only[aI] at hs
 obtain ⟨ic,mL⟩:=hs
 have one: ∀q∈eK S.bE es,∀v,ao P w' I2 bM (bd S es).hp v q.2→ao P w' I bM (bd S es).hp v q.2:=by
  intro q hq v hv
  obtain ⟨s,eO,k1,k2⟩:=MH hq
  rw[k2] at hv⊢
  exact MG hv (eS.1 ic _ k1)
 refine ⟨⟨⟨fun j blk hj=> ?_,h.h.inj,h.h.own,fun b hb=>h.h.je b (hi b hb)⟩,h.bQ,h.size,fun b hb=> .inl (h0 b hb),h.io⟩,fun v hv=> ?_⟩
 ·have hr:=h.h.rel j blk hj
  have fU:=hj
  simp only[bd,mk,gA] at fU
  obtain ⟨b,eO,k1,rfl⟩:=G5 fU
  exact WK hr (eS.1 mL _ (iZ k1)) hi
 ·generalize eK S.bE es=l at one hv⊢
  match l,one,hv with
  | [],_,hv=>
   simp only[oB,gl] at hv⊢
   obtain ⟨cs,rfl,e1,e2⟩:=hv.sQ
   exact .aW e1 fun j v x _ hx=>by simp at hx
  | [q],one,hv=>exact one q (dB.2 rfl) v hv
  | q::q2::l,one,hv=>
   simp only[oB] at hv⊢
   obtain ⟨cs,rfl,e1,e2⟩:=hv.sQ
   refine .aW e1 fun j v x hj hx=> ?_
   obtain ⟨y,hy,rfl⟩:=fP.1 (iZ hx)
   exact one y hy v (e2 j v _ hj hx)
end
section
variable {P:Program} {A:cm} {w w':World} {I I' I2:Nat→Prop} {μ β β' bM:Nat→Option Nat} {hp hp' hp0 bh:Nat→Option an} {C:ag} {B:Nat} {M:Nat→Prop} {w0:Start}
inductive fL (σ:List Place):an→an→Prop
 | dead:fL σ .dead .dead
 | var {T:TypeId} {cs:List V}:fL σ (.var T cs) (.var T (cs.map (BD σ)))
 | arr {e:TypeId} {es:List V} {fz:Bool}:fL σ (.arr e es fz) (.arr e es fz)
 | nest {e:TypeId} {es:List V} {v1 v2:List Nat}:fL σ (.nest e es v1) (.nest e es v2)
 | map {t:TypeId} {es:List V}:fL σ (.map t es) (.map t es)
theorem fL.of (σ:List Place) (b:an):fL σ b (sB σ b):=by
 cases b with
 | dead=>exact .dead
 | var T cs=>exact .var
 | arr e es fz=>exact .arr
 | nest e es v=>exact .nest
 | map t es=>exact .map
theorem MI {σ:List Place}: ∀{pl:List Place} {bs:List an} {acc:List (Nat × an)} {k:List (Nat × an)→Rd R} {r:R} {rd:List Nat},(pG σ pl bs acc k).run C hp=some (r,rd)→
  pl.length≤bs.length∧∃bk ew,(k bk).run C hp=some (r,ew)∧(∀q∈bk,q∈acc∨∃(j:Nat) (b:an),pl[j]? =some (.blk q.1)∧bs[j]? =some b∧fL σ b q.2∧((∃e es v2,q.2= .nest e es v2)→∃e es aq e' aJ,hp q.1=some (.nest e es aq)∧q.2= .nest e' aJ (aq.map (· +1))))∧
   (∀q∈acc,q∈bk)∧∀(j:Nat) p,pl[j]? =some p→∃id b,p= .blk id∧(id,b)∈bk
 | [],bs,acc,k,r,rd,h=>⟨j7 _,acc,rd,by simpa only[pG] using h,fun q hq=> .inl hq,fun q hq=>hq,fun j p hp=>by simp at hp⟩
 | .row _ _ _::pl,bs,acc,k,r,rd,h=>by
  cases bs<;>(simp only[pG] at h;cases h)
 | .blk id::pl,[],acc,k,r,rd,h=>by simp only[pG] at h;cases h
 | .blk id::pl,b::bs,acc,k,r,rd,h=>by
  have fin: ∀{b2:an} {iO:List Nat},(pG σ pl bs ((id,b2)::acc) k).run C hp=some (r,iO)→fL σ b b2→((∃e es v2,b2= .nest e es v2)→∃e es aq e' aJ,hp id=some (.nest e es aq)∧b2= .nest e' aJ (aq.map (· +1)))→
    (Place.blk id::pl).length≤(b::bs).length∧∃bk ew,(k bk).run C hp=some (r,ew)∧(∀q∈bk,q∈acc∨∃(j:Nat) (b':an),(Place.blk id::pl)[j]? =some (.blk q.1)∧(b::bs)[j]? =some b'∧fL σ b' q.2∧((∃e es v2,q.2= .nest e es v2)→∃e es aq e' aJ,hp q.1=some (.nest e es aq)∧q.2= .nest e' aJ (aq.map (· +1))))∧
     (∀q∈acc,q∈bk)∧∀(j:Nat) p,(Place.blk id::pl)[j]? =some p→∃id b,p= .blk id∧(id,b)∈bk:=by
   intro b2 iO h1 hb hn
   obtain ⟨a0,bk,ew,a1,a2,a3,a4⟩:=MI h1
   refine ⟨by simp only[List.length_cons];omega,bk,ew,a1,fun q hq=> ?_,fun q hq=>a3 q (kJ _ hq),fun j p hj=> ?_⟩
   ·rcases a2 q hq with h|⟨j,b',k1,k2,k3,k4⟩
    ·rcases c8.1 h with e|h
     ·subst e;exact .inr ⟨0,b,rfl,rfl,hb,hn⟩
     ·exact .inl h
    ·exact .inr ⟨j+1,b',by simpa using k1,by simpa using k2,k3,k4⟩
   ·cases j with
    | zero=>simp at hj;subst hj;exact ⟨id,b2,rfl,a3 _ (qR ..)⟩
    | succ j=>exact a4 j p (by simpa using hj)
  cases b with
  | nest e es v=>
   simp only[pG] at h
   obtain ⟨l,h⟩:=run_get h
   cases ab:hp id with
   | none=>rw[ab] at h;cases h
   | some blk=>
    rw[ab] at h
    cases blk with
    | nest e0 FV aq=>exact fin h .nest fun _=>⟨e0,FV,aq,e,es,ab,rfl⟩
    | _=>cases h
  | dead=>exact fin h (.of σ _) fun ⟨_,_,_,h⟩=>by cases h
  | var T cs=>exact fin h (.of σ _) fun ⟨_,_,_,h⟩=>by cases h
  | arr e es fz=>exact fin h (.of σ _) fun ⟨_,_,_,h⟩=>by cases h
  | map t es=>exact fin h (.of σ _) fun ⟨_,_,_,h⟩=>by cases h
theorem MJ {σ:List Place}: ∀{bs:List an} {n:Nat} {q:Nat × an},q∈pH σ n bs→∃i b,bs[i]? =some b∧q=(n+i,sB σ b)
 | [],n,q,h=>by simp[pH] at h
 | b::bs,n,q,h=>by
  simp only[pH,c8] at h
  rcases h with h|h
  ·exact ⟨0,b,rfl,h⟩
  ·obtain ⟨i,b',h1,U⟩:=MJ h
   exact ⟨i+1,b',by simpa using h1,by rw[U];congr 1;omega⟩
theorem MK {σ:List Place}: ∀{bs:List an} {n i:Nat} {b:an},bs[i]? =some b→(n+i,sB σ b)∈pH σ n bs
 | [],n,i,b,h=>by simp at h
 | b0::bs,n,i,b,h=>by
  simp only[pH,c8]
  cases i with
  | zero=>simp at h;subst h;exact .inl rfl
  | succ i=>exact .inr (by rw[show n+(i+1)=n+1+i by omega];exact MK (by simpa using h))
theorem CH: ∀{k n i:Nat},i<k→(rb n k)[i]? =some (.blk (n+i))
 | 0,n,i,h=>by omega
 | k+1,n,0,h=>rfl
 | k+1,n,i+1,h=>by
  simp only[rb,List.getElem?_cons_succ]
  rw[CH (by omega)]
  congr 2
  omega
theorem G6: ∀{k n:Nat},(rb n k).length=k
 | 0,_=>rfl
 | k+1,n=>by simp[rb,G6]
theorem ML: ∀{bs:List (Nat × an)} {k:Rd R} {r:R} {rd:List Nat},(BE bs k).run C hp=some (r,rd)→(∀q∈bs,hp q.1=none)∧∃ew,k.run C hp=some (r,ew)
 | [],k,r,rd,h=>⟨by simp,rd,h⟩
 | (id,b)::l,k,r,rd,h=>by
  simp only[BE] at h
  obtain ⟨l1,h⟩:=run_get h
  cases ab:hp id with
  | some blk=>rw[ab] at h;cases h
  | none=>
   rw[ab] at h
   obtain ⟨h1,U⟩:=ML h
   refine ⟨fun q hq=> ?_,U⟩
   rcases c8.1 hq with e|hq
   ·subst e;exact ab
   ·exact h1 q hq
structure oP (σ:List Place) (bM:Nat→Option Nat) (bh:Nat→Option an) (β':Nat→Option Nat) (hp':Nat→Option an):Prop where
 blk: ∀j b,bh j=some b→∃id b',dM σ j=some (.blk id)∧hp' id=some b'∧fL σ b b'∧(b≠ .dead→β' id=bM j)
 none: ∀j,bh j=none→dM σ j=none
 af4: ∀j id ver path,dM σ j≠some (.row id ver path)
theorem oP.leaf {σ:List Place} (T:oP σ bM bh β' hp') {v:Value} {x:V} (h:ao P w I bM bh v x):ao P w I β' hp' v (jC σ x):=by
 have look: ∀{j b},bh j=some b→∃id b',dM σ j=some (.blk id)∧hp' id=some b'∧fL σ b b'∧(b≠ .dead→β' id=bM j):=fun h=>T.blk _ _ h
 cases h with
 | undef=>exact .undef
 | int=>exact .int
 | bool=>exact .bool
 | str h=>exact .str h
 | list h=>exact .list h
 | nilS=>exact .nilS
 | agg=>exact .undef
 | aW=>exact .undef
 | c9=>exact .c9
 | fn=>exact .undef
 | pref a b c=>exact .pref a b c
 | @dN _ e j h=>
  obtain ⟨id,b',k1,k2,k3,k4⟩:=look h
  simp only[jC,k1]
  cases k3
  exact .dN k2
 | @fE _ e j _ _ h=>
  obtain ⟨id,b',k1,k2,k3,k4⟩:=look h
  simp only[jC,k1]
  cases k3
  exact .fE k2
 | @jE _ j _ _ h=>
  obtain ⟨id,b',k1,k2,k3,k4⟩:=look h
  simp only[jC,k1]
  cases k3
  exact .jE k2
 | @dq e j fz _ h hb=>
  obtain ⟨id,b',k1,k2,k3,k4⟩:=look h
  simp only[jC,k1]
  cases k3
  exact .dq k2 ((k4 (by simp)).trans hb)
 | @whole e j es fz b cap h hb a1 a2 a3=>
  obtain ⟨id,b',k1,k2,k3,k4⟩:=look h
  simp only[jC,k1]
  cases k3
  exact .whole k2 ((k4 (by simp)).trans hb) a1 a2 a3
 | @dW e j es aq b cap h hb a1 a2 a3=>
  obtain ⟨id,b',k1,k2,k3,k4⟩:=look h
  simp only[jC,k1]
  cases k3
  exact .dW k2 ((k4 (by simp)).trans hb) a1 a2 a3
 | @fk e j fz _ h hb=>
  obtain ⟨id,b',k1,k2,k3,k4⟩:=look h
  simp only[jC,k1]
  cases k3
  exact .fk k2 ((k4 (by simp)).trans hb)
 | @sub e j off len es fz b o cap h hb a1 a2 a3=>
  obtain ⟨id,b',k1,k2,k3,k4⟩:=look h
  simp only[jC,k1]
  cases k3
  exact .sub k2 ((k4 (by simp)).trans hb) a1 a2 a3
 | @ptr j i c b blk h hd hb=>
  obtain ⟨id,b',k1,k2,k3,k4⟩:=look h
  simp only[jC,k1]
  have hs:blk.sz P=b'.sz P:=by cases k3<;>rfl
  rw[hs]
  exact .ptr k2 (by intro e;subst e;cases k3;exact hd rfl) ((k4 hd).trans hb)
 | jc=>exact .undef
 | jd=>exact .undef
 | row=>exact .undef
 | cl=>exact .undef
 | db=>exact .db
 | @gP _ t j h=>
  obtain ⟨id,b',k1,k2,k3,k4⟩:=look h
  simp only[jC,k1]
  cases k3
  exact .gP k2
 | @cb t j b es h hb=>
  obtain ⟨id,b',k1,k2,k3,k4⟩:=look h
  simp only[jC,k1]
  cases k3
  exact .cb k2 ((k4 (by simp)).trans hb)
theorem oP.one {σ:List Place} (T:oP σ bM bh β' hp') {v:Value} {x:V} (h:ao P w I bM bh v x):ao P w I β' hp' v (FJ σ x):=by
 cases x with
 | agg xs=>
  obtain ⟨cs,rfl,e1,e2⟩:=h.km
  exact .agg (by simpa using e1) fun j v y hj hy=>by
   rw[eT] at hy
   cases hx:xs[j]? with
   | none=>rw[hx] at hy;cases hy
   | some x=>rw[hx] at hy;cases hy;exact T.leaf (e2 j v x hj hx)
 | fn f a b=>
  cases h with
  | fn a1 a2 b1 b2=>
   refine .fn (by simpa using a1) (fun j v y hj hy=> ?_) (by simpa using b1) (fun j v y hj hy=> ?_)
   ·rw[eT] at hy
    cases hx:a[j]? with
    | none=>rw[hx] at hy;cases hy
    | some x=>rw[hx] at hy;cases hy;exact T.leaf (a2 j v x hj hx)
   ·rw[eT] at hy
    cases hx:b[j]? with
    | none=>rw[hx] at hy;cases hy
    | some x=>rw[hx] at hy;cases hy;exact T.leaf (b2 j v x hj hx)
 | _=>exact T.leaf h
theorem oP.val {σ:List Place} (T:oP σ bM bh β' hp') {v:Value} {x:V} (h:ao P w I bM bh v x):ao P w I β' hp' v (BD σ x):=by
 cases x with
 | aW xs=>
  obtain ⟨cs,rfl,e1,e2⟩:=h.sQ
  exact .aW (by simpa using e1) fun j v y hj hy=>by
   rw[eT] at hy
   cases hx:xs[j]? with
   | none=>rw[hx] at hy;cases hy
   | some x=>rw[hx] at hy;cases hy;exact T.one (e2 j v x hj hx)
 | _=>exact T.one h
theorem oP.MM {σ:List Place} (T:oP σ bM bh β' hp') {o:Option Nat} {b b':an} (h:dD P w I bM bh o b) (hb:fL σ b b'):dD P w I β' hp' o b':=by
 cases hb with
 | dead=>exact .dead
 | var=>
  cases h with
  | var a1 a2 a3 a4 a5 a6=>
   refine .var a1 a2 (by simpa using a3) a4 (fun j v y hj hy=> ?_) a6
   rw[eT] at hy
   cases hx:(_:List V)[j]? with
   | none=>rw[hx] at hy;cases hy
   | some x=>rw[hx] at hy;cases hy;exact T.val (a5 j v x hj hx)
 | arr=>
  cases h with
  | dr hb=>exact .dr hb
  | arr a1 a2 a3 a4 a5 a6 a7=>exact .arr a1 a2 a3 a4 a5 a6 a7
 | nest=>
  cases h with
  | nest a1 a2 a3=>exact .nest a1 a2 a3
 | map=>
  cases h with
  | map a1 a2 a3 a4 a5 a6 a7=>exact .map a1 a2 a3 a4 a5 a6 a7
theorem fL.tf {σ:List Place} {o:Option Nat} {b b':an} (h:fL σ b b') {m:Nat} (ho:bn P w o b' m):bn P w o b m:=by
 cases h with
 | dead=>exact absurd rfl ho.alive
 | var=>exact .root (by simp) (ho.flat (by simp))
 | arr=>exact .root (by simp) (ho.flat (by simp))
 | map=>exact .root (by simp) (ho.flat (by simp))
 | nest=>
  cases ho with
  | root _ hb=>exact .root (by simp) hb
  | row hb ha=>exact .row hb ha
theorem fL.MN {σ:List Place} {b b':an} (h:fL σ b b'):b'≠ .dead→b≠ .dead:=by
 intro h1 U;subst U;cases h;exact h1 rfl
end
section
variable {P:Program} {A:cm} {w w':World} {I I' I2:Nat→Prop} {μ β β' bM:Nat→Option Nat} {hp hp' hp0 bh:Nat→Option an} {C:ag} {B:Nat} {M:Nat→Prop} {w0:Start}
theorem MO: ∀{vs:List Nat} {k:Nat},k<vs.length→br (vs.map (· +1)) k=br vs k+1
 | [],k,h=>by simp at h
 | v::vs,0,h=>rfl
 | v::vs,k+1,h=>by simp only[cG,br];exact MO (by simpa using h)
theorem MP: ∀{vs:List Nat} {k:Nat},br vs k≤br (vs.map (· +1)) k
 | [],k=>by simp[br]
 | v::vs,0=>by simp[br]
 | v::vs,k+1=>by simp only[cG,br];exact MP
def yO (hp:Nat→Option an) (q:Nat × an):Prop:=(∃e es v2,q.2= .nest e es v2)→∃e es aq e' aJ,hp q.1=some (.nest e es aq)∧q.2= .nest e' aJ (aq.map (· +1))
theorem dG.G7 {id:Nat} {o:Option Nat} {blk:an} (h:dG P w β hp (.blk id) o blk):o=β id∧∃b0,hp id=some b0∧b0≠ .dead:=by
 cases h with
 | var h=>exact ⟨rfl,_,h,by simp⟩
 | arr h=>exact ⟨rfl,_,h,by simp⟩
 | nest h=>exact ⟨rfl,_,h,by simp⟩
 | map h=>exact ⟨rfl,_,h,by simp⟩
theorem dG.WN {id:Nat} {o:Option Nat} {c b b' b0:an} {σ:List Place} (h:dG P w β hp (.blk id) o c) (h0:hp id=some b0) (hle:c.le b) (hb:fL σ b b') (hn:yO hp (id,b')):b0.le b':=by
 cases h with
 | var h=>
  rw[h] at h0;cases h0
  cases hb with
  | dead=>trivial
  | var=>trivial
  | arr=>exact hle.elim
  | nest=>exact hle.elim
  | map=>exact hle.elim
 | arr h=>
  rw[h] at h0;cases h0
  cases hb with
  | dead=>trivial
  | var=>exact hle.elim
  | arr=>exact hle
  | nest=>exact hle.elim
  | map=>exact hle.elim
 | map h=>
  rw[h] at h0;cases h0
  cases hb with
  | dead=>trivial
  | map=>exact hle
  | _=>exact hle.elim
 | nest h=>
  rw[h] at h0;cases h0
  cases hb with
  | dead=>trivial
  | var=>exact hle.elim
  | arr=>exact hle
  | map=>exact hle.elim
  | @nest e es v1 v2=>
   obtain ⟨e1,bY,th,e2,bN,k1,k2⟩:=hn ⟨_,_,_,rfl⟩
   cases k2
   change hp id=_ at k1
   rw[h] at k1;cases k1
   exact ⟨hle.1,hle.2.1,by simp,fun k=>MP⟩
theorem dG.other {p:Place} {o:Option Nat} {blk:an} (h:dG P w β hp p o blk) (he:hp' p.id=hp p.id):dG P w β hp' p o blk:=by
 cases h with
 | var h=>exact .var (he.trans h)
 | arr h=>exact .arr (he.trans h)
 | nest h=>exact .nest (he.trans h)
 | map h=>exact .map (he.trans h)
 | row h a b c d e f g=>exact .row (he.trans h) a b c d e f g
open Classical in
theorem MQ (S:aE P w I β hp B M w0) {pl:List Place} {o:Nat→Option Nat} {bs:List an} {nb:Nat} {bk fr:List (Nat × an)} {σ:List Place} (qg:σ=pl++rb nb (bs.length-pl.length)) (yP:fr=pH σ nb (bs.drop pl.length))
  (jN:(pl.map Place.id).Nodup) (pU:pl.length≤bs.length)
  (oQ: ∀(j:Nat) p,pl[j]? =some p→∃id b,p= .blk id∧(id,b)∈bk) (CI: ∀q∈bk,∃(j:Nat) (b:an),pl[j]? =some (.blk q.1)∧bs[j]? =some b∧fL σ b q.2∧yO hp q)
  (hl: ∀j blk,hp0 j=some blk→∃p,dM pl j=some p∧dG P w β hp p (o j) blk) (hd: ∀j,j<pl.length→∃blk,hp0 j=some blk)
  (Sc:aE P w' I2 bM (ja bs) w.heap.size (nS P w o hp0) ⟨w,I⟩) (vo:ku w I o hp0 w' I2 bM (ja bs)) (rB: ∀q∈fr,hp q.1=none):
  ∃β',Le P w I β hp w' I2 β' (bB hp (fr++bk))∧aE P w' I2 β' (bB hp (fr++bk)) B M w0∧oP σ bM (ja bs) β' (bB hp (fr++bk)):=by
 generalize G8:bB hp (fr++bk)=fH
 let β':Nat→Option Nat:=fun n=>if∃q∈fr,q.1=n then bM (pl.length+(n-nb)) else β n
 have MR: ∀(j:Nat) id,pl[j]? =some (.blk id)→∃c,hp0 j=some c∧dG P w β hp (.blk id) (o j) c:=by
  intro j id hj
  obtain ⟨c,hc⟩:=hd j (bj.1 hj).1
  obtain ⟨p,h1,U⟩:=hl j c hc
  rw[k0,hj] at h1
  cases h1
  exact ⟨c,hc,U⟩
 have uniq: ∀(j1 j2:Nat) id,pl[j1]? =some (.blk id)→pl[j2]? =some (.blk id)→j1=j2:=by
  intro j1 j2 id h1 U
  have m1:(pl.map Place.id)[j1]? =some id:=by rw[eT,h1];rfl
  have m2:(pl.map Place.id)[j2]? =some id:=by rw[eT,U];rfl
  obtain ⟨z1,z2⟩:=bj.1 m1
  obtain ⟨z3,z4⟩:=bj.1 m2
  exact (List.getElem_inj jN).1 (z2.trans z4.symm)
 have cls: ∀id,(∃i b,id=nb+i∧bs[pl.length+i]? =some b∧fH id=some (sB σ b)∧hp id=none∧β' id=bM (pl.length+i))∨
   (∃(j:Nat) (b b' c b0:an),pl[j]? =some (.blk id)∧bs[j]? =some b∧hp0 j=some c∧dG P w β hp (.blk id) (o j) c∧hp id=some b0∧b0.le b'∧fH id=some b'∧fL σ b b'∧yO hp (id,b')∧β' id=β id∧c.le b∧(b≠ .dead→bM j=β id))∨
   (fH id=hp id∧(∀j:Nat,pl[j]? ≠some (.blk id))∧β' id=β id):=by
  intro id
  by_cases hm: ∃b,(id,b)∈fr++bk
  ·obtain ⟨b,hm⟩:=hm
   obtain ⟨b',BR,he⟩:=BO (hp:=hp) hm
   rw[G8] at he
   rcases ee.1 BR with h|h
   ·have h0:=rB _ h
    have nT:β' id=bM (pl.length+(id-nb)):=ak ⟨_,h,rfl⟩
    rw[yP] at h
    obtain ⟨i,b1,k1,k2⟩:=MJ h
    rw[gF] at k1
    cases k2
    exact .inl ⟨i,b1,rfl,k1,he,h0,by rw[nT];congr 2;omega⟩
   ·obtain ⟨j,b1,q1,q2,q3,q4⟩:=CI _ h
    obtain ⟨c,c1,c2⟩:=MR j id q1
    obtain ⟨c3,b0,c4,c5⟩:=c2.G7
    obtain ⟨b2,d1,d2,d3⟩:=vo.blk j c c1
    rw[gA,q2] at d1
    cases d1
    refine .inr (.inl ⟨j,b1,b',c,b0,q1,q2,c1,c2,c4,c2.WN c4 d2 q3 q4,he,q3,q4,ai ?_,d2,fun h=>(d3 h).trans c3⟩)
    rintro ⟨q,hq,WO⟩
    rw[←WO,rB q hq] at c4
    cases c4
  ·refine .inr (.inr ⟨?_,fun j hj=> ?_,ai ?_⟩)
   ·rcases sN (hp:=hp) (l:=fr++bk) (id:=id) with h|⟨b,hb,_⟩
    ·rw[G8] at h;exact h
    ·exact absurd ⟨b,hb⟩ hm
   ·obtain ⟨aC,b,e,hb⟩:=oQ j _ hj
    cases e
    exact hm ⟨b,ee.2 (.inr hb)⟩
   ·rintro ⟨q,hq,rfl⟩
    exact hm ⟨q.2,ee.2 (.inl hq)⟩
 have MS: ∀b,nS P w o hp0 b→∃(j id:Nat) (b1:an),pl[j]? =some (.blk id)∧hp id=some b1∧bn P w (β id) b1 b∧∀e es,b1≠ .arr e es true:=by
  rintro b ⟨j,c,hc,ho⟩
  obtain ⟨p,h1,U⟩:=hl j c hc
  rw[k0] at h1
  obtain ⟨id,b2,rfl,_⟩:=oQ j p h1
  obtain ⟨b1,k1,k2,k3⟩:=U.tf ho
  exact ⟨j,id,b1,h1,k1,k2,k3⟩
 have other: ∀id blk b,hp id=some blk→bn P w (β id) blk b→(∀j:Nat,pl[j]? ≠some (.blk id))→¬nS P w o hp0 b∧w'.heap[b]? =w.heap[b]? ∧(I2 b→I b):=by
  intro id blk b e1 e3 e4
  have nU: ¬nS P w o hp0 b:=by
   intro hx
   obtain ⟨j,aC,b1,i1,i2,i3,_⟩:=MS b hx
   have:=S.h.inj id aC _ _ b e1 i2 e3 i3
   subst this
   exact e4 j i1
  have aL:=S.h.lt e1 e3
  refine ⟨nU,Sc.bQ b aL nU,fun h=> ?_⟩
  rcases Sc.new b h with h|h|h
  ·exact h
  ·exact absurd h nU
  ·omega
 have ru:oP σ bM (ja bs) β' fH:=by
  refine ⟨fun j b hj=> ?_,fun j hj=> ?_,fun j id ver path hj=> ?_⟩
  ·rw[gA] at hj
   by_cases bR:j<pl.length
   ·obtain ⟨id,b1,e,kY⟩:=oQ j _ (bq bR)
    have CJ:pl[j]? =some (.blk id):=by rw[bq bR,e]
    have G9:dM σ j=some (.blk id):=by rw[qg];exact nR (by rw[k0];exact CJ)
    rcases cls id with ⟨i,b2,c1,c2,c3,c4,c5⟩|⟨j',b2,b',c,b0,q1,q2,q3,q4,q5,q6,q7,q8,q9,oR,vp,qh⟩|⟨c1,c2,c3⟩
    ·obtain ⟨c,d1,d2⟩:=MR j id CJ
     obtain ⟨_,b0,d3,_⟩:=d2.G7
     rw[d3] at c4;cases c4
    ·obtain rfl:=uniq _ _ _ q1 CJ
     rw[hj] at q2;cases q2
     exact ⟨id,b',G9,q7,q8,fun h=>oR.trans (qh h).symm⟩
    ·exact absurd CJ (c2 j)
   ·have MT:=(bj.1 hj).1
    have G9:dM σ j=some (.blk (nb+(j-pl.length))):=by
     rw[qg,k0,hO (by omega)]
     exact CH (by omega)
    have hm:(nb+(j-pl.length),sB σ b)∈fr:=by
     rw[yP]
     refine MK ?_
     rw[gF,show pl.length+(j-pl.length)=j by omega]
     exact hj
    rcases cls (nb+(j-pl.length)) with ⟨i,b2,c1,c2,c3,c4,c5⟩|⟨j',b2,b',c,b0,q1,q2,q3,q4,q5,q6,q7,q8,q9,oR,vp,qh⟩|⟨c1,c2,c3⟩
    ·have hi:i=j-pl.length:=by omega
     subst hi
     rw[show pl.length+(j-pl.length)=j by omega] at c2 c5
     rw[hj] at c2;cases c2
     exact ⟨_,_,G9,c3,.of σ _,fun _=>c5⟩
    ·rw[rB _ hm] at q5;cases q5
    ·obtain ⟨b',BR,he⟩:=BO (hp:=hp) (l:=fr++bk) (ee.2 (.inl hm))
     rw[G8,c1,rB _ hm] at he
     cases he
  ·rw[gA] at hj
   have:=List.getElem?_eq_none_iff.1 hj
   rw[qg,k0,List.getElem?_eq_none_iff,ca,G6]
   omega
  ·rw[qg,k0] at hj
   by_cases bR:j<pl.length
   ·rw[hG bR] at hj
    obtain ⟨aC,b1,e,_⟩:=oQ j _ hj
    cases e
   ·have MT:j-pl.length<bs.length-pl.length:=by
     have:=(bj.1 hj).1
     rw[ca,G6] at this
     omega
    rw[hO (by omega),CH MT] at hj
    cases hj
 have hle:Le P w I β hp w' I2 β' fH:=by
  refine ⟨vo.cY,vo.bQ,fun id blk ab=> ?_,fun id blk blk' b ab bu qi hb=> ?_,fun id e es aq e' aJ vers' b q i c t v e1 l ab bu hb aL hv ht hc=> ?_⟩
  ·rcases cls id with ⟨i,b2,c1,c2,c3,c4,c5⟩|⟨j',b2,b',c,b0,q1,q2,q3,q4,q5,q6,q7,q8,q9,oR,vp,qh⟩|⟨c1,c2,c3⟩
   ·rw[ab] at c4;cases c4
   ·rw[ab] at q5;cases q5
    exact ⟨b',q7,q6,fun _=>oR⟩
   ·exact ⟨blk,c1.trans ab,an.le_refl _,fun _=>c3⟩
  ·rcases cls id with ⟨i,b2,c1,c2,c3,c4,c5⟩|⟨j',b2,b',c,b0,q1,q2,q3,q4,q5,q6,q7,q8,q9,oR,vp,qh⟩|⟨c1,c2,c3⟩
   ·rw[ab] at c4;cases c4
   ·rw[q7] at bu;cases bu
    exact vo.size j' c b2 b q3 (by rw[gA];exact q2) (q8.MN qi) (q4.G7.1.trans hb)
   ·rw[c1,ab] at bu
    cases bu
    simp only[bsize,(other id blk b ab (.root qi hb) c2).2.1]
  ·rcases cls id with ⟨i2,b2,c1,c2,c3,c4,c5⟩|⟨j',b2,b',c',b0,q1,q2,q3,q4,q5,q6,q7,q8,q9,oR,vp,qh⟩|⟨c1,c2,c3⟩
   ·rw[ab] at c4;cases c4
   ·rw[q7] at bu;cases bu
    obtain ⟨_,_,th,_,_,k1,k2⟩:=q9 ⟨_,_,_,rfl⟩
    change hp id=_ at k1
    rw[ab] at k1;cases k1
    cases k2
    rw[MO aL] at hv
    omega
   ·rw[c1,ab] at bu
    cases bu
    exact ⟨l,rfl,hc.mono fun _ _ _ _ h=>(other id _ _ ab (.row hb h) c2).2.1⟩
 have place: ∀id blk b,fH id=some blk→bn P w' (β' id) blk b→(∃j c,ja bs j=some c∧bn P w' (bM j) c b∧dM σ j=some (.blk id))∨(b<w.heap.size∧¬nS P w o hp0 b∧hp id=some blk∧bn P w (β id) blk b):=by
  intro id blk b e1 e3
  rcases cls id with ⟨i,b2,c1,c2,c3,c4,c5⟩|⟨j',b2,b',c,b0,q1,q2,q3,q4,q5,q6,q7,q8,q9,oR,vp,qh⟩|⟨c1,c2,c3⟩
  ·rw[c3] at e1;cases e1
   rw[c5] at e3
   refine .inl ⟨pl.length+i,b2,by rw[gA];exact c2,(fL.of σ b2).tf e3,?_⟩
   have:=(bj.1 c2).1
   rw[qg,k0,hO (by omega),CH (by omega),c1]
   congr 3
   omega
  ·rw[q7] at e1;cases e1
   have qi:b2≠ .dead:=q8.MN e3.alive
   rw[oR,←qh qi] at e3
   exact .inl ⟨j',b2,by rw[gA];exact q2,q8.tf e3,by rw[qg];exact nR (by rw[k0];exact q1)⟩
  ·rw[c1] at e1
   rw[c3] at e3
   have:=e3.mono (w:=w) fun b hb=>(other id blk b e1 hb c2).2.1
   exact .inr ⟨S.h.lt e1 this,(other id blk b e1 this c2).1,e1,this⟩
 have rj: ∀b,nS P w o hp0 b∨w.heap.size≤b→M b∨B≤b:=by
  rintro b (h|h)
  ·obtain ⟨j,id,b1,i1,i2,i3,_⟩:=MS b h
   exact S.h.own id b1 b i2 i3
  ·exact .inr (lq S.size h)
 have Ha: ∀j c b,ja bs j=some c→bn P w' (bM j) c b→nS P w o hp0 b∨w.heap.size≤b:=fun j c b h1 U=>Sc.h.own j c b h1 U
 refine ⟨β',hle,⟨⟨fun id blk ab=> ?_,fun i1 i2 b1 b2 b e1 e2 f1 f2=> ?_,fun id blk b ab hb=> ?_,Sc.h.je⟩,fun b hb hM=> ?_,lq S.size Sc.size,fun b hb=> ?_,⟨Sc.io.1.trans S.io.1,Sc.io.2.trans S.io.2⟩⟩,ru⟩
 ·rcases cls id with ⟨i,b2,c1,c2,c3,c4,c5⟩|⟨j',b2,b',c,b0,q1,q2,q3,q4,q5,q6,q7,q8,q9,oR,vp,qh⟩|⟨c1,c2,c3⟩
  ·rw[c3] at ab;cases ab
   rw[c5]
   exact ru.MM (Sc.h.rel _ b2 (by rw[gA];exact c2)) (.of σ b2)
  ·rw[q7] at ab;cases ab
   have:=ru.MM (Sc.h.rel j' b2 (by rw[gA];exact q2)) q8
   by_cases qi:b2= .dead
   ·subst qi
    cases q8
    exact .dead
   ·rw[oR,←qh qi]
    exact this
  ·rw[c1] at ab
   rw[c3]
   exact (S.h.rel id blk ab).mono hle fun b hb=>(other id blk b ab hb c2).2
 ·rcases place i1 b1 b e1 f1 with ⟨j1,c1,g1,g2,g3⟩|⟨g1,g2,g3,g4⟩<;>rcases place i2 b2 b e2 f2 with ⟨j2,c2,k1,k2,k3⟩|⟨k1,k2,k3,k4⟩
  ·have:=Sc.h.inj j1 j2 c1 c2 b g1 k1 g2 k2
   subst this
   rw[g3] at k3
   cases k3
   rfl
  ·rcases Ha j1 c1 b g1 g2 with h|h
   ·exact absurd h k2
   ·omega
  ·rcases Ha j2 c2 b k1 k2 with h|h
   ·exact absurd h g2
   ·omega
  ·exact S.h.inj i1 i2 _ _ b g3 k3 g4 k4
 ·rcases place id blk b ab hb with ⟨j1,c1,g1,g2,g3⟩|⟨g1,g2,g3,g4⟩
  ·exact rj b (Ha j1 c1 b g1 g2)
  ·exact S.h.own id blk b g3 g4
 ·refine (Sc.bQ b (qM hb S.size) fun hx=> ?_).trans (S.bQ b hb hM)
  rcases rj b (.inl hx) with h|h
  ·exact hM h
  ·omega
 ·rcases Sc.new b hb with h|h|h
  ·exact S.new b h
  ·exact .inr (rj b (.inl h))
  ·exact .inr (rj b (.inr h))
end
section
variable {P:Program} {A:cm} {w w':World} {I I' I2:Nat→Prop} {μ β β' bM:Nat→Option Nat} {hp hp' hp0 bh:Nat→Option an} {C:ag} {B:Nat} {M:Nat→Prop} {w0:Start}
theorem MU (hp:Nat→Option an): ∀(a b:List (Nat × an)),bB hp (a++b)=bB (bB hp b) a
 | [],b=>rfl
 | (i,x)::a,b=>by simp only[List.cons_append,bB,MU hp a b]
theorem vq {hp:Nat→Option an} {l:List (Nat × an)} {id:Nat} (h: ∀q∈l,q.1≠id):bB hp l id=hp id:=by
 rcases sN (hp:=hp) (l:=l) (id:=id) with h1|⟨b,hb,_⟩
 ·exact h1
 ·exact absurd rfl (h _ hb)
def xm (P : Program) : Prop := ∀ (f : Nat) fn, P.funcs[f]? = some fn → (fn.name == "runtime.NumGoroutine") = false
def MV (P:Program) (f:FuncId) (e:TypeId):Prop:=
 (∀args w,(callFunc f args).run P w= .ok (.enter f args) w)∧∃t,P.underlying t=some (.slice e)∧
  ∀(s:Value) (w:World) (Q:Ending→World→Prop),(s= .slice none 0 0→Q (.returned (.slice none 0 0)) w)→
   (∀a n c,s= .slice (some a) n c→∃v w',(Builtin.append_ #[t,t] t #[.slice (some ⟨w.heap.size,0,none⟩) 0 0,s]).run P (w.alloc (.cells #[] e))= .ok v w'∧Q (.returned v) w')→
   (s= .slice none 0 0∨∃a n c,s= .slice (some a) n c)→Calls P f #[s] w Q
structure iv (P:Program) (A:cm):Prop where
 count:xm P
 ext: ∀f T,A.ext f=some T→∀(b:Nat) (C:Array Value) (w:World),w.heap[b]? =some (.cells C T (0,0))→C.size=P.cellsOf T→(C[0]? =some (.pointer none)∨C[0]? =some (.pointer (some ⟨b,0,none⟩)))→
  (callFunc f #[.pointer (some ⟨b,0,none⟩)]).run P w= .ok (.enter f #[.pointer (some ⟨b,0,none⟩)]) w∧
  Calls P f #[.pointer (some ⟨b,0,none⟩)] w fun e w'=>e= .returned (.tuple #[])∧(w'=w∨w'=w.setCell ⟨b,0,none⟩ (.pointer (some ⟨b,0,none⟩)))
 idle: ∀f,A.idle f=true→(∀args w,(callFunc f args).run P w= .ok (.enter f args) w)∧
  ∀args w,CallsD P f args .returning w fun e u' w'=>(∃v,e= .returned v)∧u'= .returning∧w'=w
 nA: ∀f e,A.nA f=some e→MV P f e
theorem iv.here {P:Program} {A:cm} (h:iv P A) (f id:Nat):iv P (A.here f id):=⟨h.count,h.ext,h.idle,h.nA⟩
def yQ (E:FuncId→Bool) (d:Deferred):Prop:= ∃f cap,d.target= .fn (.func f) cap∧E f=true
theorem Hb {P:Program} {A:cm} (hP:iv P A) {fn:Func} {tmps:Array Value} {R:Ending→World→Prop} {w:World} {v:Value} (hv:(results fn tmps).run P w= .ok v w) (hR:R (.returned v) w):
  ∀ds:List Deferred,(∀d∈ds,yQ A.idle d)→Leaves P fn tmps R ds .returning w
 | [],_=>⟨v,hv,hR⟩
 | d::ds,h=>by
  obtain ⟨f,cap,ht,hf⟩:=h d (by simp)
  obtain ⟨k1,k2⟩:=hP.idle f hf
  obtain ⟨t,MW⟩:=d
  simp only at ht
  subst ht
  refine leaves_cons (f:=f) (args:=MW++cap) (by simp) ?_ ?_
  ·simp only[invoke];exact k1 _ w
  ·refine (k2 (MW++cap) w).mono fun e u' w' hr=> ?_
   obtain ⟨⟨v',rfl⟩,rfl,rfl⟩:=hr
   exact Hb hP hv hR ds fun d hd=>h d (kJ _ hd)
def yR (P:Program) (A:cm) (o:Oper) (a:Act) (w:World) (I:Nat→Prop) (β:Nat→Option Nat) (hp:Nat→Option an) (B:Nat) (M:Nat→Prop) (w0:Start) (r:R):Prop:=
 ∀(next:Act→World→Prop) (Q:Exit→Act→World→Prop),
  (∀v w' I' β' ds,Le P w I β hp w' I' β' (bB hp r.upd)→aE P w' I' β' (bB hp r.upd) B M w0→ao P w' I' β' (bB hp r.upd) v r.v→(∀d∈ds,d∈a.defers∨yQ A.idle d)→next ({a with defers:=ds}.put o.dst v) w')→o.wp P a w next Q
theorem oE.step {o:Oper} {a:Act} {r:R} (h:oE P ((execOp a.eval o).run P w) w I β hp B M w0 r):yR P A o a w I β hp B M w0 r:=by
 obtain ⟨v,w',I',β',h1,U,h3,h4⟩:=h
 intro next Q hn
 unfold Oper.wp
 rcases h1 with h1|⟨h1,rfl⟩
 ·rw[h1];exact hn v w' I' β' a.defers U h3 h4 fun d hd=> .inl hd
 ·rw[h1];exact hn _ w' I' β' a.defers U h3 h4 fun d hd=> .inl hd
theorem MX: ∀(l:List (Nat × VS)),nC l=ra (l.map (·.2))
 | []=>rfl
 | (_,s)::l=>by simp only[nC,cG,ra,MX l]
theorem WQ (hC:ky P A C) (S:aE P w I β hp B M w0) (hg:fN P A.aD w I) {vals:List Value} {args:List V} {nb key:Nat} {f:FuncId} {r:R} {rd:List Nat} (hlen:vals.length=args.length)
  (cp: ∀(j:Nat) v x,vals[j]? =some v→args[j]? =some x→ao P w I β hp v x) (h:(xS P A nb key f args).run C hp=some (r,rd)):
  ∃fn c,P.funcs[f]? =some fn∧fn.body=some c∧Calls P f vals.toArray w fun e w'=> ∃v I' β',e= .returned v∧Le P w I β hp w' I' β' (bB hp r.upd)∧aE P w' I' β' (bB hp r.upd) B M w0∧ao P w' I' β' (bB hp r.upd) v r.v:=by
 unfold xS at h
 obtain ⟨MY,h0⟩:=aF h
 clear h
 rw[aP] at MY
 subst MY
 obtain ⟨h1,iO,d1,u1,a1,a2,a3,a5,a4⟩:=G3 S h0 hlen cp
 obtain ⟨U,rA,d2,u2,b1,b2,b3,b4⟩:=MB S a1
 clear h0 a1
 obtain ⟨hc,h3⟩:=aF b1
 clear b1
 simp only[aI,aP,mi] at hc
 obtain ⟨bL,CG⟩:=hc
 have rC:=a2.trans b2
 have kH:U.ds=d1++d2:=by have:=rC.ds;simpa using this
 have CK:U.upd=u1++u2:=by have:=rC.upd;simpa using this
 have jN:(U.pl.map Place.id).Nodup:=rC.nodup (by simp)
 obtain ⟨c1,o,c2,c3⟩:=b4 []
 simp only[dy] at c1 c2 c3
 cases yS:C key U.ds with
 | none=>
  simp only[Rd.run,yS] at h3
  cases h3
 | some es=>
  have pR: ∃ew,(xR P (A.so key es) nb U (A.lv key es)).run C hp=some (r,ew):=by
   obtain ⟨x,hx,e⟩:=bind_some h3
   rw[yS] at hx
   cases hx
   unfold cm.so cm.lv
   cases bU:A.alt key with
   | none=>rw[bU] at e;exact ⟨_,e⟩
   | some S2=>
    rw[bU] at e
    simp only[Rd.run] at e
    cases hb:(V.nth es 0).toBool<;>(rw[hb] at e;exact ⟨_,e⟩)
  clear h3
  obtain ⟨ew,h3⟩:=pR
  unfold xR at h3
  simp only at h3
  generalize gr:eg (A.so key es).aY ((A.lv key es).drop (nC (A.so key es).bE))=bs at h3
  generalize qg:U.pl++rb nb (bs.length-U.pl.length)=σ at h3
  generalize yP:pH σ nb (bs.drop U.pl.length)=fr at h3
  obtain ⟨p0,bk,rd4,p1,p2,_,p3⟩:=MI h3
  obtain ⟨rB,rd5,p4⟩:=ML p1
  obtain rfl:=aM p4
  have pU:U.pl.length≤bs.length:=by rw[fe] at p0;omega
  have CI: ∀q∈bk,∃(j:Nat) (b:an),U.pl[j]? =some (.blk q.1)∧bs[j]? =some b∧fL σ b q.2∧yO hp q:=by
   intro q hq
   rcases p2 q hq with hx|⟨j,b,k1,k2,k3,k4⟩
   ·simp at hx
   ·have hj:=(bj.1 k1).1
    rw[eD hj] at k2
    exact ⟨j,b,k1,k2,k3,k4⟩
  obtain ⟨fn,c,hf,hb,Hc⟩:=hC key U.ds es yS
  refine ⟨fn,c,hf,hb,?_⟩
  have WR:eg (A.sin key).aY (U.ds.drop (nC (A.sin key).bE))=eg (A.sin key).aY d2:=by
   rw[kH,MX,mM a3]
  have Hd:(bd (A.sin key) U.ds).hp=ja (eg (A.sin key).aY d2):=by
   simp only[bd,mk,WR]
  have hl: ∀j blk,(bd (A.sin key) U.ds).hp j=some blk→∃p,dM U.pl j=some p∧dG P w β hp p (o j) blk:=by
   intro j blk hj
   rw[Hd,gA] at hj
   obtain ⟨p,k1,k2⟩:=c2 j blk hj
   rw[gj] at k1
   exact ⟨p,k1,k2⟩
  have hd: ∀j,j<U.pl.length→∃blk,(bd (A.sin key) U.ds).hp j=some blk:=by
   intro j hj
   rw[Hd,gA]
   exact ⟨_,bq (by rw[c1,←bL];exact hj)⟩
  have MZ:yJ P w β hp U.pl o (bd (A.sin key) U.ds).hp:=by
   intro j p hj
   obtain ⟨blk,k1⟩:=hd j (by rw[k0] at hj;exact (bj.1 hj).1)
   obtain ⟨p',k2,k3⟩:=hl j blk k1
   rw[hj] at k2
   cases k2
   exact ⟨blk,k1,k3⟩
  obtain ⟨p7,S1⟩:=yh S rC.Cz
  rw[←CK] at p7 S1
  have i1: ∀b,I b→ig P w I β hp U.upd b:=fun b h=> .inl h
  have entry:=WI (hp0:=(bd (A.sin key) U.ds).hp) S jN CG hl (fun cD j blk hj=>by
   have fU:=hj
   rw[Hd,gA] at fU
   exact c3 (ig P w I β hp U.upd) o _ i1 (fun q hq b hb=> .inr ⟨q,by rw[CK];exact ee.2 (.inr hq),hb⟩) U.pl [] (by simp) MZ j blk fU (cD j blk hj)) S1.h.je
  have WS:vals.length=(A.sin key).bE.length:=by rw[hlen,←a5];simp
  have ha:=Hc w (ig P w I β hp U.upd) o vals entry (hg.mono i1 fun _ _=>rfl) WS fun j v x hj hx=>by
   rw[kH] at hx
   exact (((a4.yK b2) (ig P w I β hp U.upd) o _ i1 (fun q hq b hb=> .inr ⟨q,by rw[CK];exact hq,hb⟩) U.pl [] (by simp) MZ) d2).2 j v x hj hx
  refine ha.mono fun e w' yT=> ?_
  obtain ⟨v,I2,bM,rfl,ha⟩:=yT
  have vr:(bd (A.so key es) (A.lv key es)).hp=ja bs:=by simp only[bd,mk,gr]
  cases WU:(A.so key es).safe P with
  | true=>
   simp only[cond_true,dy]
   have gx: ∀b,I b→I2 b:=fun b h=>ha.le.cY b (i1 b h)
   obtain ⟨s1,s2⟩:=WM WU gx ha.vn i1
   have vo:ku w I o (bd (A.sin key) U.ds).hp w' I bM (ja bs):=by
    rw[←vr]
    exact ⟨fun _ h=>h,fun b h=>ha.le.bQ b (i1 b h),ha.le.blk,ha.le.size⟩
   obtain ⟨β',k1,k2,k3⟩:=MQ S qg.symm yP.symm jN pU p3 CI hl hd (by rw[←vr];exact ⟨s1.h,s1.bQ,s1.size,fun b h=> .inl h,s1.io⟩) vo rB
   exact ⟨v,I,β',rfl,k1,k2,k3.val (by have:=s2 v ha.res;rw[vr] at this;exact this)⟩
  | false=>
   simp only[cond_false]
   rw[←b7,MU]
   have nU: ∀p∈U.pl,bB hp U.upd p.id=hp p.id:=fun p hp=>vq fun q hq e=>
    CF CG (fP.2 ⟨q,hq,rfl⟩) (e▸fP.2 ⟨p,hp,rfl⟩)
   have WV: ∀q∈bk,∃(j:Nat) (b:an),U.pl[j]? =some (.blk q.1)∧bs[j]? =some b∧fL σ b q.2∧yO (bB hp U.upd) q:=by
    intro q hq
    obtain ⟨j,b,k1,k2,k3,k4⟩:=CI q hq
    refine ⟨j,b,k1,k2,k3,fun hn=> ?_⟩
    have:=nU _ (iZ k1)
    simp only[Place.id] at this
    rw[this]
    exact k4 hn
   have uT: ∀j blk,(bd (A.sin key) U.ds).hp j=some blk→∃p,dM U.pl j=some p∧dG P w β (bB hp U.upd) p (o j) blk:=by
    intro j blk hj
    obtain ⟨p,k1,k2⟩:=hl j blk hj
    exact ⟨p,k1,k2.other (nU p (by rw[k0] at k1;exact iZ k1))⟩
   have WW: ∀q∈fr,bB hp U.upd q.1=none:=by
    intro q hq
    rw[vq fun q' yU e=> ?_]
    ·exact rB q hq
    ·obtain ⟨e1,bY,_,h5⟩:=rC.Cz q' (CK▸yU)
     rw[e,rB q hq] at h5
     rcases h5 with ⟨_,h5⟩|⟨_,h5⟩<;>cases h5
   obtain ⟨β',k1,k2,k3⟩:=MQ S1 qg.symm yP.symm jN pU p3 WV uT hd (by rw[←vr];exact ha.vn) (by rw[←vr];exact ha.le) WW
   exact ⟨v,I2,β',rfl,p7.trans k1,k2,k3.val (by have:=ha.res;rw[vr] at this;exact this)⟩
theorem M0 (hC:ky P A C) (hP:iv P A) (S:aE P w I β hp B M w0) (hg:fN P A.aD w I) {a:Act} {nb key:Nat} {o:Oper} {f:FuncId} {vals:List Value} {args:List V} (hlen:vals.length=args.length)
  (cp: ∀(j:Nat) v x,vals[j]? =some v→args[j]? =some x→ao P w I β hp v x) {r:R} {rd:List Nat} (h:(xS P A nb key f args).run C hp=some (r,rd))
  (hex:(execOp a.eval o).run P w=(callFunc f vals.toArray).run P w):yR P A o a w I β hp B M w0 r:=by
 intro next Q hn
 obtain ⟨fn,c,hf,hb,Hc⟩:=WQ hC S hg hlen cp h
 unfold Oper.wp
 rw[hex,MuLone.run_callFunc_enter hf (hP.count f _ hf) hb,Oper.upon_enter]
 refine Hc.mono fun e w' yT=> ?_
 obtain ⟨v,I2,bM,rfl,k1,k2,k3⟩:=yT
 exact hn v w' I2 bM a.defers k1 k2 k3 fun d hd=> .inl hd
theorem ki.args {a:Act} {sl:Nat→V} (hs:ki P w I β hp a sl) (hg:fN P A.aD w I) {args:Array Operand} {ts:Array TypeId} (aR:args.size=ts.size):
  (args.map a.eval).toList.length=((args.toList.zip ts.toList).map fun p=>aN P A.aD p.2 sl p.1).length∧
  ∀(j:Nat) v x,(args.map a.eval).toList[j]? =some v→((args.toList.zip ts.toList).map fun p=>aN P A.aD p.2 sl p.1)[j]? =some x→ao P w I β hp v x:=by
 refine ⟨by simp;omega,fun j v x hv hx=> ?_⟩
 simp only[Array.toList_map,eT,List.getElem?_zip_eq_some,xz] at hv hx
 obtain ⟨x1,yV,rfl⟩:=hv
 obtain ⟨⟨y1,t1⟩,⟨M1,_⟩,rfl⟩:=hx
 rw[yV] at M1
 cases M1
 exact hs.ev hg t1 _
theorem M3 {vs us:List Value} {xs ys:List V} (h1:vs.length=xs.length) (U: ∀(j:Nat) v x,vs[j]? =some v→xs[j]? =some x→ao P w I β hp v x)
  (h3: ∀(j:Nat) v x,us[j]? =some v→ys[j]? =some x→ao P w I β hp v x) (j:Nat) (v:Value) (x:V) (hv:(vs++us)[j]? =some v) (hx:(xs++ys)[j]? =some x):ao P w I β hp v x:=by
 by_cases hj:j<vs.length
 ·rw[hG hj] at hv
  rw[hG (by omega)] at hx
  exact U j v x hv hx
 ·rw[hO (by omega)] at hv
  rw[hO (by omega)] at hx
  rw[h1] at hv
  exact h3 _ v x hv hx
theorem WX (hP:iv P A) (S:aE P w I β hp B M w0) (hg:fN P A.aD w I) {a:Act} {sl:Nat→V} (hs:ki P w I β hp a sl) {dst:Option Tmp} {ty e:TypeId} {pos:String} {after:Array Edge} {guard:Option (Nat × Bool)} {f:FuncId}
  {args:Array Operand} {argTypes:Array TypeId} {nb:Nat} {r:R} {rd:List Nat} (jM:A.nA f=some e)
  (h:((match args.toList with
    | [x]=> .aB (cH P e) (qZ e (aN P A.aD ty sl x) fun xs=> .aB (Nat.ble (xs.length*P.bytesOf e) cB) (iI nb (.arr e xs false) (.whole e nb) []))
    | _=> .fail):Rd R).run C hp=some (r,rd)):yR P A (Oper.mk dst (.call (Go.Call.mk (.value (.func f)) args argTypes)) ty pos after guard) a w I β hp B M w0 r:=by
 cases ha:args.toList with
 | nil=>rw[ha] at h;cases h
 | cons x l=>
  rw[ha] at h
  cases l with
  | cons _ _=>cases h
  | nil=>
   simp only at h
   have e1:args= #[x]:=by rw[←Array.toArray_toList (xs:=args),ha]
   subst e1
   have hx:=hs.ev hg ty x
   obtain ⟨au,h⟩:=aF h
   have fin: ∀{w1:World} {CL:Nat→Option Nat},(∀id blk,hp id=some blk→dD P w1 I CL hp (CL id) blk)→ao P w1 I CL hp (a.eval x) (aN P A.aD ty sl x)→∃xs,(((∃a',a.eval x= .slice a' 0 0)∧xs=[])∨∃a' c news,Row P w1 I e (a.eval x) xs a' c news)∧
     xs.length*P.bytesOf e≤cB∧hp nb=none∧r=⟨.whole e nb,[(nb,.arr e xs false)]⟩:=by
    intro w1 CL h1 U
    obtain ⟨xs,kZ,l,h⟩:=Cj h1 au U h
    obtain ⟨dz,h⟩:=aF h
    rw[dK] at dz
    obtain ⟨hn,rfl⟩:=mH h
    exact ⟨xs,kZ,dz,hn,rfl⟩
   obtain ⟨c1,t,hu,c2⟩:=hP.nA f e jM
   intro next Q vu
   unfold Oper.wp
   have e2:(execOp a.eval ⟨dst,.call ⟨.value (.func f),#[x],argTypes⟩,ty,pos,after,guard⟩).run P w= .ok (.enter f #[a.eval x]) w:=by
    have ey:a.eval (.func f)= .func (.func f) #[] #[]:=rfl
    simpa[execOp,resolve,ey,Deferred.ofValue,invoke] using c1 #[a.eval x] w
   rw[e2,Oper.upon_enter]
   refine c2 _ w _ (fun yW=> ?_) (fun b n c p5=> ?_) ?_
   ·obtain ⟨xs,kZ,dz,hn,rfl⟩:=fin S.h.rel hx
    have fV:xs=[]:=by
     rcases kZ with ⟨_,h⟩|⟨a,c,news,hr⟩
     ·exact h
     ·have:=hr.val.symm.trans yW
      cases this
    subst fV
    obtain ⟨a1,a2⟩:=BT S e hn
    exact vu _ w I _ a.defers a1 a2 (.dq (cJ _ _ _) (cJ _ _ _)) fun d hd=> .inl hd
   ·obtain ⟨m1,m2⟩:=Uw (w':=w.alloc (.cells #[] e)) S (fun b hb=>heap_alloc_old w _ b hb) (by simp) ⟨rfl,rfl⟩
    obtain ⟨xs,kZ,dz,hn,rfl⟩:=fin m2.h.rel (hx.mono m1)
    obtain ⟨v,w',β',a1,a2,a3,a4⟩:=Gu (ty:=t) (a0:=some ⟨w.heap.size,0,none⟩) m2 hu au hn dz kZ
    exact ⟨v,w',a1,vu v w' I β' a.defers (m1.trans a2) a3 a4 fun d hd=> .inl hd⟩
   ·obtain ⟨xs,kZ,dz,hn,rfl⟩:=fin S.h.rel hx
    rcases kZ with ⟨⟨b,h⟩,_⟩|⟨b,c,news,hr⟩
    ·rw[h]
     cases b with
     | none=>exact .inl rfl
     | some b=>exact .inr ⟨_,_,_,rfl⟩
    ·exact .inr ⟨_,_,_,hr.val⟩
theorem WY (hP:iv P A) (S:aE P w I β hp B M w0) (hg:fN P A.aD w I) {a:Act} {sl:Nat→V} (hs:ki P w I β hp a sl) {dst:Option Tmp} {ty T0:TypeId} {pos:String} {after:Array Edge} {guard:Option (Nat × Bool)} {f:FuncId}
  {args:Array Operand} {argTypes:Array TypeId} {r:R} {rd:List Nat} (yX:A.ext f=some T0)
  (h:((match args.toList with
   | [x]=>
    match aN P A.aD ty sl x with
    | .ptr id i c=>Rd.get id fun
     | some (.var T cs)=> .aB (Nat.beq T T0&&(ox P T&&(Nat.beq cs.length (P.cellsOf T)&&(Nat.beq i 0&&Nat.beq c 0)))) (.ret ⟨.aW [],[(id,.var T (.undef::cs.tail))]⟩)
     | _=> .fail
    | _=> .fail
   | _=> .fail):Rd R).run C hp=some (r,rd)):yR P A (Oper.mk dst (.call (Go.Call.mk (.value (.func f)) args argTypes)) ty pos after guard) a w I β hp B M w0 r:=by
 cases ha:args.toList with
 | nil=>rw[ha] at h;cases h
 | cons x l=>
  rw[ha] at h
  cases l with
  | cons _ _=>cases h
  | nil=>
   simp only at h
   have e1:args= #[x]:=by rw[←Array.toArray_toList (xs:=args),ha]
   subst e1
   have hx:=hs.ev hg ty x
   cases eN:aN P A.aD ty sl x<;>rw[eN] at h hx<;>simp only at h<;>first|(cases h;done)|skip
   rename_i id i c
   obtain ⟨l,h1⟩:=run_get h
   cases ab:hp id with
   | none=>rw[ab] at h1;cases h1
   | some blk=>
    rw[ab] at h1
    cases blk<;>simp only at h1<;>first|(cases h1;done)|skip
    rename_i T cs
    obtain ⟨U,h3⟩:=aF h1
    simp only[aI,aP] at U
    obtain ⟨rfl,bS,vw,rfl,rfl⟩:=U
    obtain rfl:=aM h3
    obtain ⟨b,hb,he⟩:=hx.gu ab (by simp)
    have hr:=S.h.rel id _ ab
    rw[hb] at hr
    cases hr with
    | @var _ b' Ca _ ay hh aR hI fV fG=>
     cases ay
     have gv:a.eval x= .pointer (some ⟨b,0,none⟩):=by rw[he];simp[an.sz]
     obtain ⟨q1,q2⟩:=hP.ext f T yX b Ca w hh (aR.trans vw) (fG bS)
     have h0:0<Ca.size:=by
      rcases fG bS with k|k<;>exact (gG.1 k).1
     have nK:(V.undef::cs.tail).length=cs.length:=by
      cases cs with
      | nil=>rw[aR] at h0;simp at h0
      | cons _ _=>rfl
     have rel: ∀(C':Array Value),(∀j,0<j→C'[j]? =Ca[j]?)→∀(j:Nat) v y,C'[j]? =some v→(V.undef::cs.tail)[j]? =some y→ao P w I β hp v y:=by
      intro C' vc j v y hj hy
      cases j with
      | zero=>simp at hy;subst hy;exact .undef
      | succ j=>
       rw[vc _ (by omega)] at hj
       refine fV (j+1) v y hj ?_
       cases cs with
       | nil=>rw[aR] at h0;simp at h0
       | cons _ _=>simpa using hy
     have fin: ∀w' C',(∀b',b'≠b→w'.heap[b']? =w.heap[b']?)→w'.heap[b]? =some (.cells C' T (0,0))→C'.size=Ca.size→w.heap.size≤w'.heap.size→w'.os=w.os∧w'.output=w.output→
       (∀j,0<j→C'[j]? =Ca[j]?)→(C'[0]? =some (.pointer none)∨C'[0]? =some (.pointer (some ⟨b,0,none⟩)))→
       Le P w I β hp w' I β (aG hp id (some (.var T (V.undef::cs.tail))))∧aE P w' I β (aG hp id (some (.var T (V.undef::cs.tail)))) B M w0:=by
      intro w' C' k1 k2 k3 k4 k5 k6 k7
      exact BV (w':=w') (blk':= .var T (V.undef::cs.tail)) S ab (by simp) rfl hb hI (by simp) k1 (by rw[mC k2,mC hh,k3]) k4 k5 fun hle=>
       .var rfl k2 (by rw[k3,aR,nK]) hI (fun j v y hj hy=>(rel C' k6 j v y hj hy).mono hle) fun _=>k7
     intro next Q hn
     unfold Oper.wp
     have e2:(execOp a.eval ⟨dst,.call ⟨.value (.func f),#[x],argTypes⟩,ty,pos,after,guard⟩).run P w= .ok (.enter f #[.pointer (some ⟨b,0,none⟩)]) w:=by
      have ey:a.eval (.func f)= .func (.func f) #[] #[]:=rfl
      simpa[execOp,resolve,ey,Deferred.ofValue,invoke,gv] using q1
     rw[e2,Oper.upon_enter]
     refine q2.mono fun e w' yT=> ?_
     obtain ⟨rfl,hw⟩:=yT
     have M4:Le P w I β hp w' I β (aG hp id (some (.var T (V.undef::cs.tail))))∧aE P w' I β (aG hp id (some (.var T (V.undef::cs.tail)))) B M w0:=by
      rcases hw with rfl|rfl
      ·exact fin w' Ca (fun _ _=>rfl) hh rfl (bX _) ⟨rfl,rfl⟩ (fun _ _=>rfl) (fG bS)
      ·refine fin (w.setCell ⟨b,0,none⟩ (.pointer (some ⟨b,0,none⟩))) (Ca.setIfInBounds 0 (.pointer (some ⟨b,0,none⟩))) (fun b' bt=> ?_) ?_ (by simp) (by simp[World.setCell]) ⟨rfl,rfl⟩ (fun j hj=> ?_) (.inr ?_)
       ·simp only[World.setCell,xy]
        rw[ai (fun e=>bt e.symm)]
       ·simp[World.setCell,xy,hh]
       ·rw[Bc (by omega)]
       ·rw[Ft h0]
     exact hn (.tuple #[]) w' I β a.defers M4.1 M4.2 (.aW rfl fun j v y hj _=>by simp at hj) fun d hd=> .inl hd
theorem WZ (hC:ky P A C) (hP:iv P A) (S:aE P w I β hp B M w0) (hg:fN P A.aD w I) {a:Act} {sl:Nat→V} (hs:ki P w I β hp a sl) {ix nb:Nat} {o:Oper} {r:R} {rd:List Nat}
  (h:(eX P A sl ix nb o).run C hp=some (r,rd)):yR P A o a w I β hp B M w0 r:=by
 cases hc:GU o.op with
 | false=>exact (Wm S hg hs hc h).step
 | true=>
  obtain ⟨dst,op,ty,pos,after,guard⟩:=o
  cases op<;>simp only[GU] at hc<;>first|(cases hc;done)|skip
  case defer c=>
   obtain ⟨callee,args,argTypes⟩:=c
   cases callee with
   | invoke r m=>simp only[eX] at h;cases h
   | builtin b=>simp only[eX] at h;cases h
   | value f=>
   cases f with
   | tmp t=>
    simp only[eX] at h
    cases bS:sl t<;>rw[bS] at h<;>simp only at h<;>first|(cases h;done)|skip
    rename_i f xs ys
    obtain ⟨h1,U⟩:=aF h
    obtain rfl:=aM U
    have hv:=hs t
    rw[bS] at hv
    generalize s7:a.tmps.getD t undef=vt at hv
    cases hv with
    | @fn _ fs cs _ _ q1 q2 q3 q4=>
     intro next Q hn
     unfold Oper.wp
     have ey:a.eval (.tmp t)= .func (.func f) fs cs:=s7
     have e1:(execOp a.eval ⟨dst,.defer ⟨.value (.tmp t),args,argTypes⟩,ty,pos,after,guard⟩).run P w= .ok (.defer {target:= .fn (.func f) cs,args:=fs++args.map a.eval}) w:=by
      simp[execOp,resolve,ey,Deferred.ofValue]
     rw[e1,Oper.upon_defer]
     exact hn undef w I β _ (Le.refl w I β hp) S .undef fun d hd=>by
      rcases c8.1 hd with rfl|hd
      ·exact .inr ⟨f,cs,rfl,h1⟩
      ·exact .inl hd
   | func f=>simp only[eX] at h;cases h
   | const _=>simp only[eX] at h;cases h
   | global _=>simp only[eX] at h;cases h
  rename_i c
  obtain ⟨callee,args,argTypes⟩:=c
  cases callee with
  | invoke r m=>cases hc
  | builtin b=>cases hc
  | value f=>
   cases f with
   | func f=>
    simp only[eX] at h
    cases yX:A.ext f with
    | some T0=>
     rw[yX] at h
     simp only at h
     exact WY hP S hg hs yX h
    | none=>
    rw[yX] at h
    simp only at h
    cases jM:A.nA f with
    | some e0=>
     rw[jM] at h
     simp only at h
     exact WX hP S hg hs jM h
    | none=>
    rw[jM] at h
    simp only at h
    obtain ⟨h1,U⟩:=aF h
    rw[aP] at h1
    obtain ⟨k1,k2⟩:=hs.args hg h1
    refine M0 hC hP S hg k1 k2 U ?_
    have e1:(args.map a.eval).toList.toArray=args.map a.eval:=Array.toArray_toList
    rw[e1]
    simp[execOp,resolve,Act.eval,Deferred.ofValue,invoke]
   | tmp t=>
    simp only[eX] at h
    cases bS:sl t<;>rw[bS] at h<;>simp only at h<;>first|(cases h;done)|skip
    rename_i f xs ys
    obtain ⟨h1,U⟩:=aF h
    rw[aP] at h1
    obtain ⟨k1,k2⟩:=hs.args hg h1
    have hv:=hs t
    rw[bS] at hv
    generalize s7:a.tmps.getD t undef=vt at hv
    cases hv with
    | @fn _ fs cs _ _ q1 q2 q3 q4=>
     have l1:fs.toList.length=xs.length:=by simpa using q1
     have l3:cs.toList.length=ys.length:=by simpa using q3
     have r1: ∀(j:Nat) v x,fs.toList[j]? =some v→xs[j]? =some x→ao P w I β hp v x:=fun j v x hj hx=>q2 j v x (by simpa using hj) hx
     have r3: ∀(j:Nat) v x,cs.toList[j]? =some v→ys[j]? =some x→ao P w I β hp v x:=fun j v x hj hx=>q4 j v x (by simpa using hj) hx
     refine M0 hC hP S hg (vals:=fs.toList++(args.map a.eval).toList++cs.toList) (args:=xs++((args.toList.zip argTypes.toList).map fun p=>aN P A.aD p.2 sl p.1)++ys) (by simp only[ca];omega) ?_ U ?_
     ·exact M3 (by simp only[ca];omega) (M3 l1 r1 k2) r3
     ·have e1:(fs.toList++(args.map a.eval).toList++cs.toList).toArray=fs++args.map a.eval++cs:=by
       apply Array.toList_inj.1;simp
      rw[e1]
      have ey:a.eval (.tmp t)= .func (.func f) fs cs:=s7
      simp[execOp,resolve,ey,Deferred.ofValue,invoke]
   | _=>cases hc
end
section
variable {P:Program} {A:cm} {w w':World} {I I' I2:Nat→Prop} {μ β β':Nat→Option Nat} {hp hp':Nat→Option an} {C:ag} {B:Nat} {M:Nat→Prop} {w0:Start}
structure iw (P:Program) (E:FuncId→Bool) (G:Nat→V) (w:World) (I:Nat→Prop) (β:Nat→Option Nat) (n:Nat) (a:Act) (st:St):Prop where
 sl:ki P w I β st.hp a st.sl
 size:a.tmps.size=n
 defers: ∀d∈a.defers,yQ E d
 aD:fN P G w I
theorem He {E:FuncId→Bool} {G:Nat→V} {n:Nat} {a:Act} {st:St} {o:Oper} {v:Value} {x:V} {hp':Nat→Option an} {ds:List Deferred} (h:iw P E G w I β n a st) (hle:Le P w I β st.hp w' I' β' hp') (hd:rf o n=true)
  (hv:ao P w' I' β' hp' v x) (kH: ∀d∈ds,d∈a.defers∨yQ E d):iw P E G w' I' β' n ({a with defers:=ds}.put o.dst v) ⟨gJ st.sl o.dst x,hp',st.nb⟩:=by
 have M5: ∀d∈ds,yQ E d:=fun d hd=>(kH d hd).elim (h.defers d) id
 cases W0:o.dst with
 | none=>exact ⟨fun k=>(h.sl k).mono hle,h.size,M5,h.aD.mono hle.cY hle.bQ⟩
 | some d=>
  have aL:d<a.tmps.size:=by
   unfold rf at hd
   rw[W0] at hd
   rw[h.size]
   simpa using hd
  refine ⟨fun k=> ?_,by simp[Act.put,h.size],M5,h.aD.mono hle.cY hle.bQ⟩
  simp only[Act.put,gJ,aG]
  cases hb:Nat.beq k d with
  | true=>
   rw[aP] at hb
   subst hb
   simpa[aL] using hv
  | false=>
   have bt:d≠k:=fun e=>by rw[e,iY] at hb;cases hb
   have:=(h.sl k).mono hle
   simpa[Bc bt] using this
theorem M6 {E:FuncId→Bool} {G:Nat→V} {n:Nat} {a:Act} {st:St} {d:Nat} {b:Bool} (h:iw P E G w I β n a st) (hd:st.sl d= .bool b):a.tmps[d]? =some (.bool b):=by
 have:=h.sl d
 rw[hd] at this
 have:=this.jH
 cases ht:a.tmps[d]? with
 | none=>simp[ht] at this;cases this
 | some v=>simp[ht] at this;rw[this]
theorem W3 {x:V} {b:Bool} (h:kL x=some (some b)):x= .bool b:=by
 cases x with
 | bool c=>simp only[kL] at h;injection h with h;injection h with h;rw[h]
 | aW vs=>cases vs<;>simp[kL] at h
 | _=>simp[kL] at h
theorem W4 {x:V} (h:kL x=some none):x= .aW []:=by
 cases x with
 | aW vs=>cases vs with
  | nil=>rfl
  | cons _ _=>simp[kL] at h
 | bool c=>simp[kL] at h
 | _=>simp[kL] at h
theorem ao.W5 {v:Value} (h:ao P w I β hp v (.aW [])):v= .tuple #[]:=by
 cases h with
 | @aW cs _ hs _=>
  have:cs= #[]:=by
   apply Array.eq_empty_of_size_eq_zero
   simpa using hs
  rw[this]
theorem ao.M7:ao P w I β hp Go.undef (.aW []):= .aW (by rfl) (fun j v x _ hx=>by simp at hx)
theorem M8 (hC:ky P A C) (hP:iv P A) {ops:Array Oper} {n i nb:Nat} {o:Oper} (ho:ops[i]? =some o) {a:Act} {st st':St} {R W:List Nat} (S:aE P w I β st.hp B M w0) (hA:iw P A.idle A.aD w I β n a st)
  (h:gn P A C n ops i o nb st=some (st',R,W)) {K:Act→World→Prop} {Q:Exit→Act→World→Prop}
  (hK: ∀a' w' I' β',Le P w I β st.hp w' I' β' st'.hp→aE P w' I' β' st'.hp B M w0→iw P A.idle A.aD w' I' β' n a' st'→K a' w'):wpOp P ops Q i K a w:=by
 unfold gn at h
 cases hd:rf o n with
 | false=>rw[hd] at h;cases h
 | true=>
  rw[hd] at h
  simp only[cond_true] at h
  have go: ∀{Hf:St} {R W:List Nat},(((eX P A st.sl i (nb+64*i) o).run C st.hp).bind fun r=>some ((⟨gJ st.sl o.dst r.1.v,bB st.hp r.1.upd,st.nb⟩:St),pK r.2 r.1.upd,fi st.hp r.1.upd))=some (Hf,R,W)→Hf=st'→
    o.wp P a w K Q:=by
   intro Hf R W h e
   obtain ⟨⟨r,rd⟩,h1,U⟩:=bind_some h
   cases U
   subst e
   exact WZ hC hP S hA.aD hA.sl h1 K Q fun v w' I' β' ds k1 k2 k3 k4=>hK _ w' I' β' k1 k2 (He hA k1 hd k3 k4)
  unfold wpOp
  rw[ho]
  simp only
  cases hg:o.guard with
  | none=>
   rw[hg] at h
   simp only[Region.wanted,hg,dj]
   exact .inl (go h rfl)
  | some gw=>
   obtain ⟨g,want⟩:=gw
   rw[hg] at h
   simp only at h
   cases k9:(ops[g]?).bind (·.dst) with
   | none=>rw[k9] at h;cases h
   | some d=>
    rw[k9] at h
    simp only at h
    cases lM:kL (st.sl d) with
    | none=>rw[lM] at h;cases h
    | some ob=>
    rw[lM] at h
    cases ob with
    | none=>
     have p5:=W4 lM
     have hy:yielded ops a.tmps g=none:=by
      unfold yielded
      rw[k9]
      have:=hA.sl d
      rw[p5] at this
      have hu:=ao.W5 this
      simp only[Option.bind_some]
      cases ht:a.tmps[d]? with
      | none=>rfl
      | some v=>simp[ht] at hu;subst hu;rfl
     simp only[Region.wanted,hg,hy]
     injection h with h
     injection h with h3 h4
     subst h3
     have U:((none:Option Bool)==some want)=false:=rfl
     simp only[U,Bool.false_eq_true,gk]
     exact hK _ w I β (Le.refl w I β st.hp) S (He (ds:=a.defers) hA (Le.refl w I β st.hp) hd ao.M7 fun d h=> .inl h)
    | some b=>
    simp only at h
    have p5:=W3 lM
    have hy:yielded ops a.tmps g=some b:=by
     unfold yielded
     rw[k9]
     simp only[Option.bind_some,M6 hA p5]
    simp only[Region.wanted,hg,hy]
    by_cases hb:b=want
    ·subst hb
     simp only[beq_self_eq_true,cond_true] at h
     simp only[beq_self_eq_true,dj]
     exact .inl (go h rfl)
    ·have h1:(b==want)=false:=by simp[hb]
     have U:(some b==some want)=false:=by simp[hb]
     rw[h1] at h
     simp only[cond_false] at h
     injection h with h
     injection h with h3 h4
     subst h3
     simp only[U,Bool.false_eq_true,gk]
     exact hK _ w I β (Le.refl w I β st.hp) S (He (ds:=a.defers) hA (Le.refl w I β st.hp) hd ao.M7 fun d h=> .inl h)
def ti (hp hp':Nat→Option an) (c:Nat):Prop:=hp' c=hp c∧(KB≤c→fD (hp' (c-KB))=fD (hp (c-KB)))
theorem ti.symm {c:Nat} (h:ti hp hp' c):ti hp' hp c:=⟨h.1.symm,fun hc=>(h.2 hc).symm⟩
theorem rD {α:Type}: ∀{p:Rd α} {r:α} {rd:List Nat},p.run C hp=some (r,rd)→(∀id∈rd,ti hp hp' id)→p.run C hp'=some (r,rd)
 | .ret a,r,rd,h,_=>h
 | .fail,r,rd,h,_=>by cases h
 | .get id k,r,rd,h,he=>by
  obtain ⟨x,h1,U⟩:=bind_some h
  cases U
  have e1:hp' id=hp id:=(he id (by simp)).1
  have:=rD (p:=k (hp id)) (r:=x.1) (rd:=x.2) h1 (fun i hi=>he i (by simp[hi]))
  simp only[Rd.run,e1,this,Option.bind_some]
 | .live id ok k,r,rd,h,he=>by
  simp only[Rd.run] at h⊢
  cases hk:ok (fD (hp id)) with
  | false=>rw[hk] at h;cases h
  | true=>
   rw[hk] at h
   obtain ⟨x,h1,U⟩:=bind_some h
   cases U
   have e1:fD (hp' id)=fD (hp id):=by
    have:=(he (id+KB) (by simp)).2 (Nat.le_add_left _ _)
    rwa [uz] at this
   have:=rD (p:=k) (r:=x.1) (rd:=x.2) h1 (fun i hi=>he i (by simp[hi]))
   rw[e1,hk,this]
   rfl
 | .opt o k,r,rd,h,he=>by
  obtain ⟨x,h1,U⟩:=bind_some h
  simp only[Rd.run,h1,Option.bind_some]
  exact rD U he
 | .aB b k,r,rd,h,he=>by
  obtain ⟨h1,U⟩:=aF h
  simp only[Rd.run,h1,cond_true]
  exact rD U he
 | .call key ds k,r,rd,h,he=>by
  obtain ⟨x,h1,U⟩:=bind_some h
  simp only[Rd.run,h1,Option.bind_some]
  exact rD U he
 | .alt true x y,r,rd,h,he=>rD (p:=x) h he
 | .alt false x y,r,rd,h,he=>rD (p:=y) h he
theorem W6 {G:Nat→V} {sl sl':Nat→V} {t:TypeId} {x:Operand} (h: ∀k,x= .tmp k→sl k=sl' k):aN P G t sl x=aN P G t sl' x:=by
 cases x with
 | tmp k=>exact h k rfl
 | _=>rfl
theorem W7 {sl sl':Nat→V} {ix nb:Nat} {o:Oper} (h: ∀x∈o.op.operands,∀k,x= .tmp k→sl k=sl' k):eX P A sl ix nb o=eX P A sl' ix nb o:=by
 have ey: ∀t x,x∈o.op.operands→aN P A.aD t sl x=aN P A.aD t sl' x:=fun t x hx=>W6 (h x hx)
 obtain ⟨dst,op,ty,pos,after,guard⟩:=o
 have M9: ∀(t:TypeId) (ps:Array (Nat × Operand)),(∀x∈ps.map (·.2),aN P A.aD t sl x=aN P A.aD t sl' x)→
   (ps.toList.map fun p=>(p.1,aN P A.aD t sl p.2))=ps.toList.map fun p=>(p.1,aN P A.aD t sl' p.2):=fun t ps hp=>
  qS fun p hm=>by rw[hp p.2 (Array.mem_map.2 ⟨p,ou.1 hm,rfl⟩)]
 have W8: ∀(t:TypeId) (ps:Array (Nat × Operand)),(∀x∈ps.map (·.2),aN P A.aD t sl x=aN P A.aD t sl' x)→
   (ps.toList.map fun p=>(aN P A.aD t sl p.2).cells)=ps.toList.map fun p=>(aN P A.aD t sl' p.2).cells:=fun t ps hp=>
  qS fun p hm=>by rw[hp p.2 (Array.mem_map.2 ⟨p,ou.1 hm,rfl⟩)]
 cases op<;>simp only[Op.operands] at ey<;>simp only[eX]
 case pick c x y=>rw[ey ty c (by simp),ey ty x (by simp),ey ty y (by simp)]
 case build t ps=>rw[M9 ty ps fun x hx=>ey ty x (by simpa using hx),W8 ty ps fun x hx=>ey ty x (by simpa using hx)]
 case buildSlice t len ps=>
  split
  ·rename_i e _
   rw[M9 e ps fun x hx=>ey e x (by simpa using hx)]
  ·rfl
 case slice t x lo hi mx=>
  cases mx with
  | some m=>
   have e1:lo.map (aN P A.aD 0 sl)=lo.map (aN P A.aD 0 sl'):=by
    cases lo with
    | none=>rfl
    | some l=>simp only[Option.map_some,ey 0 l (by simp)]
   have e2:hi.map (aN P A.aD 0 sl)=hi.map (aN P A.aD 0 sl'):=by
    cases hi with
    | none=>rfl
    | some l=>simp only[Option.map_some,ey 0 l (by simp)]
   have e3:=ey 0 m (by simp)
   simp only[ey ty x (by simp),e1,e2,e3]
  | none=>
   have e1:lo.map (aN P A.aD 0 sl)=lo.map (aN P A.aD 0 sl'):=by
    cases lo with
    | none=>rfl
    | some l=>simp only[Option.map_some,ey 0 l (by simp)]
   have e2:hi.map (aN P A.aD 0 sl)=hi.map (aN P A.aD 0 sl'):=by
    cases hi with
    | none=>rfl
    | some l=>simp only[Option.map_some,ey 0 l (by simp)]
   simp only[ey ty x (by simp),e1,e2]
 case call c=>
  obtain ⟨callee,args,argTypes⟩:=c
  have tj: ∀t x,x∈args→aN P A.aD t sl x=aN P A.aD t sl' x:=fun t x hx=>ey t x (by simp[Call.operands,hx])
  have hl: ∀t (l:List Operand),(∀x∈l,x∈args)→l.map (aN P A.aD t sl)=l.map (aN P A.aD t sl'):=fun t l hl=>qS fun x hx=>tj t x (hl x hx)
  have hz:((args.toList.zip argTypes.toList).map fun p=>aN P A.aD p.2 sl p.1)=(args.toList.zip argTypes.toList).map fun p=>aN P A.aD p.2 sl' p.1:=
   qS fun p hp=>tj p.2 p.1 (ou.1 (List.of_mem_zip hp).1)
  cases callee with
  | invoke r m=>rfl
  | builtin b=>
   have bU: ∀x∈args.toList,∀t,aN P A.aD t sl x=aN P A.aD t sl' x:=fun x hx t=>tj t x (ou.1 hx)
   have Hg: ∀t (l:List Operand),(∀x∈l,∀t,aN P A.aD t sl x=aN P A.aD t sl' x)→l.map (aN P A.aD t sl)=l.map (aN P A.aD t sl'):=fun t l h=>qS fun x hx=>h x hx t
   cases b<;>first|rfl|skip
   case append=>
    dsimp only
    generalize args.toList=al at bU
    match al,bU,argTypes.toList with
    | [s,x],bU,[t,u]=>simp only[bU s (by simp),bU x (by simp)]
    | [],_,_=>rfl
    | [_],_,_=>rfl
    | _::_::_::_,_,_=>rfl
    | [_,_],_,[]=>rfl
    | [_,_],_,[_]=>rfl
    | [_,_],_,_::_::_::_=>rfl
   case copy=>
    dsimp only
    generalize args.toList=al at bU
    match al,bU,argTypes.toList with
    | [s,x],bU,[t,u]=>simp only[bU s (by simp),bU x (by simp)]
    | [],_,_=>rfl
    | [_],_,_=>rfl
    | _::_::_::_,_,_=>rfl
    | [_,_],_,[]=>rfl
    | [_,_],_,[_]=>rfl
    | [_,_],_,_::_::_::_=>rfl
   case len=>
    dsimp only
    generalize args.toList=al at bU
    match al,bU,argTypes.toList with
    | [x],bU,[t]=>simp only[bU x (by simp)]
    | [],_,_=>rfl
    | _::_::_,_,_=>rfl
    | [_],_,[]=>rfl
    | [_],_,_::_::_=>rfl
   case clear=>
    dsimp only
    generalize args.toList=al at bU
    match al,bU,argTypes.toList with
    | [x],bU,[t]=>simp only[bU x (by simp)]
    | [],_,_=>rfl
    | _::_::_,_,_=>rfl
    | [_],_,[]=>rfl
    | [_],_,_::_::_=>rfl
   case unsafeSliceData=>
    dsimp only
    generalize args.toList=al at bU
    match al,bU with
    | [],_=>rfl
    | [x],bU=>simp only[bU x (by simp)]
    | _::_::_,_=>rfl
   case unsafeString=>
    dsimp only
    generalize args.toList=al at bU
    match al,bU,argTypes.toList with
    | [s,x],bU,[t,u]=>simp only[bU s (by simp),bU x (by simp)]
    | [],_,_=>rfl
    | [_],_,_=>rfl
    | _::_::_::_,_,_=>rfl
    | [_,_],_,[]=>rfl
    | [_,_],_,[_]=>rfl
    | [_,_],_,_::_::_::_=>rfl
   case max=>
    dsimp only
    generalize args.toList=al at bU
    match al,bU with
    | [],_=>rfl
    | x::l,bU=>simp only[bU x (by simp),Hg ty l (fun y hy=>bU y (by simp[hy]))]
   case min=>
    dsimp only
    generalize args.toList=al at bU
    match al,bU with
    | [],_=>rfl
    | x::l,bU=>simp only[bU x (by simp),Hg ty l (fun y hy=>bU y (by simp[hy]))]
  | value f=>
   cases f<;>first|rfl|skip
   ·rename_i t
    have ht:sl t=sl' t:=h (.tmp t) (by simp[Op.operands,Call.operands]) t rfl
    simp only[hz,ht]
   ·simp only[hz]
    cases hx:args.toList with
    | nil=>rfl
    | cons x l=>
     cases l with
     | cons _ _=>rfl
     | nil=>simp only[tj ty x (ou.1 (by rw[hx];simp))]
 case defer c=>
  obtain ⟨callee,args,argTypes⟩:=c
  cases callee with
  | invoke r m=>rfl
  | builtin b=>rfl
  | value f=>
   cases f<;>first|rfl|skip
   rename_i t
   have ht:sl t=sl' t:=h (.tmp t) (by simp[Op.operands,Call.operands]) t rfl
   simp only[ht]
 case makeFunc fn a b=>
  cases fn<;>first|rfl|skip
  have e1:a.toList.map (aN P A.aD ty sl)=a.toList.map (aN P A.aD ty sl'):=qS fun x hx=>ey ty x (by simp[ou.1 hx])
  have e2:b.toList.map (aN P A.aD ty sl)=b.toList.map (aN P A.aD ty sl'):=qS fun x hx=>ey ty x (by simp[ou.1 hx])
  dsimp only
  rw[e1,e2]
 case makeMap t r=>cases r<;>rfl
 all_goals first
  | rfl
  | (simp[ey];done)
end
section
variable {P:Program} {A:cm} {w w':World} {I I' I2:Nat→Prop} {μ β β':Nat→Option Nat} {hp hp':Nat→Option an} {C:ag} {B:Nat} {M:Nat→Prop} {w0:Start}
theorem Hh {q:Nat × an} {upd:List (Nat × an)} (h:q∈upd):q.1∈fi hp upd:=by
 unfold fi
 rw[List.mem_flatMap]
 refine ⟨q,h,?_⟩
 cases Nat.beq (fD (hp q.1)) (fD (some q.2))<;>simp
theorem W9 {upd:List (Nat × an)} (h: ∀q∈upd,fD (hp' q.1)=fD (hp q.1)):fi hp' upd=fi hp upd:=by
 unfold fi
 induction upd with
 | nil=>rfl
 | cons q l ih=>
  rw[mo,mo,ih fun x hx=>h x (kJ _ hx),h q (by simp)]
theorem Na {c:Nat}: ∀{upd:List (Nat × an)},c∉fi hp upd→ti hp (bB hp upd) c:=fun {upd} h=>by
 refine ⟨vq fun q hq e=>h (e▸Hh hq),fun hc=> ?_⟩
 induction upd with
 | nil=>rfl
 | cons q l ih=>
  have hl:c∉fi hp l:=fun hx=>h (by unfold fi at*;rw[mo];exact List.mem_append_right _ hx)
  have hq:fD (hp q.1)=fD (some q.2)∨c≠q.1+KB:=by
   cases hb:Nat.beq (fD (hp q.1)) (fD (some q.2)) with
   | true=>exact .inl (xp hb)
   | false=>
    refine .inr fun e=>h ?_
    unfold fi
    rw[mo,hb,e]
    simp
  show fD (aG (bB hp l) q.1 (some q.2) (c-KB))=_
  simp only[aG]
  cases hb:Nat.beq (c-KB) q.1 with
  | false=>exact ih hl
  | true=>
   have e:=xp hb
   rcases hq with hq|hq
   ·rw[cond_true,e];exact hq.symm
   ·exact absurd (by omega) hq
theorem Nb {n i nb:Nat} {ops:Array Oper} {o:Oper} {st st':St} {R W:List Nat} (h:gn P A C n ops i o nb st=some (st',R,W)):
  ∃x upd,st'=⟨gJ st.sl o.dst x,bB st.hp upd,st.nb⟩∧W=fi st.hp upd∧∀dH:St,(∀d∈o.looksAt ops,dH.sl d=st.sl d)→(∀id∈R,ti st.hp dH.hp id)→
   gn P A C n ops i o nb dH=some (⟨gJ dH.sl o.dst x,bB dH.hp upd,dH.nb⟩,R,W)∧W=fi dH.hp upd:=by
 unfold gn at h
 cases hd:rf o n with
 | false=>rw[hd] at h;cases h
 | true=>
  rw[hd] at h
  simp only[cond_true] at h
  have go:(((eX P A st.sl i (nb+64*i) o).run C st.hp).bind fun r=>some ((⟨gJ st.sl o.dst r.1.v,bB st.hp r.1.upd,st.nb⟩:St),pK r.2 r.1.upd,fi st.hp r.1.upd))=some (st',R,W)→
    ∃x upd,st'=⟨gJ st.sl o.dst x,bB st.hp upd,st.nb⟩∧W=fi st.hp upd∧∀dH:St,(∀d∈o.looksAt ops,dH.sl d=st.sl d)→(∀id∈R,ti st.hp dH.hp id)→
     (((eX P A dH.sl i (nb+64*i) o).run C dH.hp).bind fun r=>some ((⟨gJ dH.sl o.dst r.1.v,bB dH.hp r.1.upd,dH.nb⟩:St),pK r.2 r.1.upd,fi dH.hp r.1.upd))=some (⟨gJ dH.sl o.dst x,bB dH.hp upd,dH.nb⟩,R,W)∧W=fi dH.hp upd:=by
   intro h
   obtain ⟨⟨r,rd⟩,h1,U⟩:=bind_some h
   cases U
   refine ⟨r.v,r.upd,rfl,rfl,fun dH hs hh=> ?_⟩
   have hw:fi dH.hp r.upd=fi st.hp r.upd:=W9 fun q hq=>by
    have:=(hh (q.1+KB) (List.mem_append_right _ (fP.2 ⟨q,hq,rfl⟩))).2 (Nat.le_add_left _ _)
    rwa [uz] at this
   rw[W7 (sl':=st.sl) fun x hx k hk=> ?_,rD h1 fun c hc=>hh c (List.mem_append_left _ hc)]
   ·refine ⟨?_,hw.symm⟩
    rw[Option.bind_some,hw]
   ·subst hk
    exact hs k (List.mem_append_left _ (List.mem_filterMap.2 ⟨.tmp k,by simpa using hx,rfl⟩))
  cases hg:o.guard with
  | none=>
   rw[hg] at h
   obtain ⟨x,upd,e1,e2,e3⟩:=go h
   refine ⟨x,upd,e1,e2,fun dH hs hh=> ?_⟩
   unfold gn
   simp only[hd,cond_true,hg]
   exact e3 dH hs hh
  | some gw=>
   obtain ⟨g,want⟩:=gw
   rw[hg] at h
   simp only at h
   cases k9:(ops[g]?).bind (·.dst) with
   | none=>rw[k9] at h;cases h
   | some d=>
    rw[k9] at h
    simp only at h
    have Hi:d∈o.looksAt ops:=List.mem_append_right _ (by rw[hg];simp[k9])
    cases lM:kL (st.sl d) with
    | none=>rw[lM] at h;cases h
    | some ob=>
    rw[lM] at h
    cases ob with
    | none=>
     injection h with h
     injection h with h3 h4
     injection h4 with h5 h6
     subst h5;subst h6
     refine ⟨.aW [],[],h3.symm,rfl,fun dH hs hh=> ?_⟩
     unfold gn
     simp only[hd,cond_true,hg,k9,hs d Hi,lM]
     exact ⟨rfl,rfl⟩
    | some b=>
    simp only at h
    cases hb:b==want with
    | true=>
     rw[hb] at h
     obtain ⟨x,upd,e1,e2,e3⟩:=go h
     refine ⟨x,upd,e1,e2,fun dH hs hh=> ?_⟩
     unfold gn
     simp only[hd,cond_true,hg,k9,hs d Hi,lM,hb]
     exact e3 dH hs hh
    | false=>
     rw[hb] at h
     simp only[cond_false] at h
     injection h with h
     injection h with h3 h4
     injection h4 with h5 h6
     subst h5;subst h6
     refine ⟨.aW [],[],h3.symm,rfl,fun dH hs hh=> ?_⟩
     unfold gn
     simp only[hd,cond_true,hg,k9,hs d Hi,lM,hb,cond_false]
     exact ⟨rfl,rfl⟩
theorem Nc {sl:Nat→V} {d:Option Nat} {x:V} {k:Nat} (h:d≠some k):gJ sl d x k=sl k:=by
 cases d with
 | none=>rfl
 | some d=>exact dP _ _ fun e=>h (by rw[e])
theorem Xa {hp:Nat→Option an} {a b:List (Nat × an)} (h: ∀q∈a,∀q'∈b,q.1≠q'.1):bB (bB hp a) b=bB (bB hp b) a:=by
 funext id
 by_cases ha: ∃q∈a,q.1=id
 ·have hb: ∀q∈b,q.1≠id:=by
   obtain ⟨q,hq,rfl⟩:=ha
   exact fun q' yU e=>h q hq q' yU e.symm
  rw[vq hb]
  obtain ⟨q,hq,rfl⟩:=ha
  have same: ∀(bh fH:Nat→Option an) (l:List (Nat × an)) (q:Nat × an),q∈l→bB bh l q.1=bB fH l q.1:=by
   intro bh fH l
   induction l with
   | nil=>intro q hq;simp at hq
   | cons p l ih=>
    intro q hq
    simp only[bB,aG]
    cases hb:Nat.beq q.1 p.1 with
    | true=>rfl
    | false=>
     simp only[cond_false]
     refine ih q ((c8.1 hq).resolve_left fun e=> ?_)
     rw[e,iY] at hb;cases hb
  exact same _ _ a q hq
 ·rw[vq (hp:=bB hp b) (l:=a) fun q hq e=>ha ⟨q,hq,e⟩]
  have same: ∀(bh fH:Nat→Option an) (l:List (Nat × an)),bh id=fH id→bB bh l id=bB fH l id:=by
   intro bh fH l he
   induction l with
   | nil=>exact he
   | cons p l ih=>
    simp only[bB,aG]
    cases hb:Nat.beq id p.1 with
    | true=>rfl
    | false=>exact ih
  exact same _ _ b (vq fun q hq e=>ha ⟨q,hq,e⟩)
structure Nd (ops:Array Oper) (o1 o2:Oper) (R1 W1 R2 W2:List Nat):Prop where
 apart:Oper.apart ops o1 o2=true
 w: ∀id∈W1,id∉R2∧id∉W2
 r: ∀id∈R1,id∉W2
theorem Xb {n i j nb:Nat} {ops:Array Oper} {o1 o2:Oper} {st iy dH:St} {R1 W1 R2 W2:List Nat} (h1:gn P A C n ops i o1 nb st=some (iy,R1,W1)) (U:gn P A C n ops j o2 nb iy=some (dH,R2,W2))
  (hi:Nd ops o1 o2 R1 W1 R2 W2): ∃CM,gn P A C n ops j o2 nb st=some (CM,R2,W2)∧gn P A C n ops i o1 nb CM=some (dH,R1,W1):=by
 obtain ⟨x1,u1,e1,f1,g1⟩:=Nb h1
 obtain ⟨x2,u2,e2,f2,g2⟩:=Nb U
 obtain ⟨a1,a2,a3⟩:=Oper.apart_spec hi.apart
 subst e1
 have k2:=g2 st (fun d hd=>by simp only;rw[Nc fun e=>a1 d e hd]) fun c hc=>(Na fun hw=>(hi.w c (by rw[f1];exact hw)).1 hc).symm
 refine ⟨_,k2.1,?_⟩
 rw[(g1 _ (fun d hd=> ?_) (fun c hd=> ?_)).1,e2]
 ·congr 3
  ·funext k
   cases CN:o1.dst with
   | none=>rfl
   | some d1=>
    cases ij:o2.dst with
    | none=>rfl
    | some d2=>
     have bt:d2≠d1:=fun e=>a2 d1 CN (by rw[ij,e])
     simp only[gJ,aG]
     cases Nf:Nat.beq k d1<;>cases lN:Nat.beq k d2<;>simp only[cond_true,cond_false]
     rw[aP] at Nf lN
     exact absurd (lN.symm.trans Nf) bt
  ·exact (Xa fun q hq q' yU e=>(hi.w q.1 (by rw[f1];exact Hh hq)).2 (by rw[f2,e];exact Hh yU)).symm
 ·simp only
  rw[Nc fun e=>a3 d e hd]
 ·exact Na fun hw=>hi.r c hd (by rw[k2.2];exact hw)
def vy (P:Program) (A:cm) (C:ag) (n:Nat) (ops:Array Oper) (nb:Nat):List (Nat × Oper × List Nat × List Nat)→St→St→Prop
 | [],st,st'=>st=st'
 | (i,o,R,W)::l,st,st'=> ∃iy,gn P A C n ops i o nb st=some (iy,R,W)∧vy P A C n ops nb l iy st'
def tk (x:Nat × Oper × List Nat × List Nat):Nat × List Nat × List Nat:=(x.1,x.2.2.1,x.2.2.2)
theorem Ng {n nb:Nat} {ops:Array Oper}: ∀{l:List (Nat × Oper)} {st st':St} {log CO:Log},oC P A C n ops nb l st log=some (st',CO)→
  ∃g,g.map (fun x=>(x.1,x.2.1))=l∧CO=log++g.map tk∧vy P A C n ops nb g st st'
 | [],st,st',log,CO,h=>by
  cases h
  exact ⟨[],rfl,by simp,rfl⟩
 | (i,o)::l,st,st',log,CO,h=>by
  obtain ⟨⟨iy,R,W⟩,h1,U⟩:=bind_some h
  obtain ⟨g,a,b,c⟩:=Ng U
  exact ⟨(i,o,R,W)::g,by simp[a],by simp[b,tk],iy,h1,c⟩
def Nh (ops:Array Oper) (x y:Nat × Oper × List Nat × List Nat):Prop:=Nd ops x.2.1 y.2.1 x.2.2.1 x.2.2.2 y.2.2.1 y.2.2.2
theorem Ni {n nb:Nat} {ops:Array Oper} {y:Nat × Oper × List Nat × List Nat} {g2:List (Nat × Oper × List Nat × List Nat)}: ∀{g1:List (Nat × Oper × List Nat × List Nat)} {st st':St},
  vy P A C n ops nb (g1++y::g2) st st'→(∀x∈g1,Nh ops x y)→∃iy,gn P A C n ops y.1 y.2.1 nb st=some (iy,y.2.2.1,y.2.2.2)∧vy P A C n ops nb (g1++g2) iy st'
 | [],st,st',h,_=>h
 | x::g1,st,st',h,hi=>by
  obtain ⟨iy,h1,U⟩:=h
  obtain ⟨dH,h3,h4⟩:=Ni U fun z hz=>hi z (kJ _ hz)
  obtain ⟨CM,h5,h6⟩:=Xb h1 h3 (hi x (by simp))
  exact ⟨CM,h5,dH,h6,h4⟩
theorem Nj (hC:ky P A C) (hP:iv P A) {n nb:Nat} {ops:Array Oper} {Q:Exit→Act→World→Prop}: ∀{g:List (Nat × Oper × List Nat × List Nat)} {st st':St} {a:Act} {w:World} {I:Nat→Prop} {β:Nat→Option Nat},
  vy P A C n ops nb g st st'→(∀x∈g,ops[x.1]? =some x.2.1)→aE P w I β st.hp B M w0→iw P A.idle A.aD w I β n a st→
  (∀a' w' I' β',Le P w I β st.hp w' I' β' st'.hp→aE P w' I' β' st'.hp B M w0→iw P A.idle A.aD w' I' β' n a' st'→Q .normal a' w')→wpOps P ops Q (g.map (·.1)) a w
 | [],st,st',a,w,I,β,h,_,S,hA,hQ=>by
  cases h
  exact hQ a w I β (Le.refl w I β _) S hA
 | x::g,st,st',a,w,I,β,h,ho,S,hA,hQ=>by
  obtain ⟨iy,h1,U⟩:=h
  rw[cG,wpOps_cons]
  refine M8 hC hP (ho x (by simp)) S hA h1 fun a' w' I' β' k1 k2 k3=> ?_
  exact Nj hC hP U (fun y hy=>ho y (kJ _ hy)) k2 k3 fun a2 w2 I2 bM m1 m2 m3=>hQ a2 w2 I2 bM (k1.trans m1) m2 m3
end
section
variable {P:Program} {A:cm} {w w':World} {I I' I2:Nat→Prop} {μ β β':Nat→Option Nat} {hp hp':Nat→Option an} {C:ag} {B:Nat} {M:Nat→Prop} {w0:Start}
inductive tm (ops:Array Oper):Nat→Nat→Prop
 | Nk {i x:Nat} {o:Oper} {e:Edge}:ops[i]? =some o→e∈o.after→Region.binds .any e=true→e.on=x→tm ops i x
 | trans {i x:Nat} {o:Oper} {e:Edge}:ops[i]? =some o→e∈o.after→Region.binds .any e=true→tm ops e.on x→tm ops i x
theorem Nl {acc:Array Nat} {x:Nat}: ∀{l:List Edge} {s:Nat},(l.foldl (fun s e=>if Region.binds .any e then s|||2^e.on|||acc.getD e.on 0 else s) s).testBit x=true→
  s.testBit x=true∨∃e∈l,Region.binds .any e=true∧(e.on=x∨(acc.getD e.on 0).testBit x=true)
 | [],s,h=> .inl h
 | e::l,s,h=>by
  simp only[List.foldl_cons] at h
  rcases Nl h with h1|⟨e',a,b⟩
  ·by_cases hb:Region.binds .any e=true
   ·rw[ak hb,Nat.testBit_or,Nat.testBit_or,Bool.or_eq_true,Bool.or_eq_true] at h1
    rcases h1 with (h1|h1)|h1
    ·exact .inl h1
    ·rw[Nat.testBit_two_pow] at h1
     exact .inr ⟨e,by simp,hb,.inl (by simpa using h1)⟩
    ·exact .inr ⟨e,by simp,hb,.inr h1⟩
   ·rw[ai hb] at h1
    exact .inl h1
  ·exact .inr ⟨e',kJ _ a,b⟩
theorem Nn {ops:Array Oper} {x:Nat}: ∀{l:List Oper} {acc:Array Nat},(∀j o,l[j]? =some o→ops[acc.size+j]? =some o)→(∀j,(acc.getD j 0).testBit x=true→tm ops j x)→
  ∀j,((l.foldl (fun acc o=>acc.push (o.after.foldl (fun s e=>if Region.binds .any e then s|||2^e.on|||acc.getD e.on 0 else s) 0)) acc).getD j 0).testBit x=true→tm ops j x
 | [],acc,_,CP,j,h=>CP j h
 | o::l,acc,hl,CP,j,h=>by
  simp only[List.foldl_cons] at h
  refine Nn (l:=l) ?_ ?_ j h
  ·intro j o' hj
   have:=hl (j+1) o' (by simpa using hj)
   rw[Array.size_push]
   rwa [show acc.size+1+j=acc.size+(j+1) by omega]
  ·intro k hk
   simp only[uA,Array.getElem?_push] at hk
   by_cases a9:k=acc.size
   ·rw[ak a9] at hk
    simp only[Option.getD_some] at hk
    rw[←Bd] at hk
    have ho:=hl 0 o rfl
    rw[Nat.add_zero] at ho
    rw[a9]
    have lN:(o.after.toList.foldl (fun s e=>if Region.binds .any e then s|||2^e.on|||acc.getD e.on 0 else s) 0).testBit x=true:=by simpa[uA] using hk
    rcases Nl lN with h0|⟨e,he,hb,h1⟩
    ·simp at h0
    ·rcases h1 with h1|h1
     ·exact .Nk ho (ou.1 he) hb h1
     ·exact .trans ho (ou.1 he) hb (CP _ h1)
   ·rw[ai a9] at hk
    exact CP k (by simpa[uA] using hk)
theorem Xc {ops:Array Oper} {i x:Nat} (h:((Region.before ops).getD i 0).testBit x=true):tm ops i x:=by
 unfold Region.before at h
 rw[←Bd] at h
 refine Nn (l:=ops.toList) (acc:= #[]) (fun j o hj=>by simpa using hj) (fun j hj=>by simp at hj) i h
def No (ops:Array Oper) (fp:Array Bool):Prop:= ∀i o,ops[i]? =some o→fp.getD i false=true→∀e∈o.after,Region.binds .any e=true→fp.getD e.on false=true
theorem Xd {ops:Array Oper} {fp:Array Bool} (hc:No ops fp) {i x:Nat} (h:tm ops i x) (hi: ∀o,ops[i]? =some o→∀e∈o.after,Region.binds .any e=true→fp.getD e.on false=true):fp.getD x false=true:=by
 induction h with
 | Nk ho he hb hx=>rw[←hx];exact hi _ ho _ he hb
 | trans ho he hb _ ih=>exact ih fun o' iM e' gv ay=>hc _ o' iM (hi _ ho _ he hb) e' gv ay
theorem Np: ∀{l:List Oper} {k j:Nat} {o:Oper},xV k l=true→l[j]? =some o→∀e∈o.after,Region.binds .any e=true→e.on<k+j
 | [],k,j,o,_,h=>by simp at h
 | o'::l,k,j,o,hk,h=>by
  simp only[xV,aI] at hk
  cases j with
  | zero=>
   simp at h
   subst h
   intro e he hb
   have:=eS.1 hk.1 e (ou.2 he)
   simp[hb] at this
   omega
  | succ j=>
   intro e he hb
   have:=Np hk.2 (j:=j) (by simpa using h) e he hb
   omega
theorem Nq {ops:Array Oper} {sE:Array Nat}: ∀{l:Log},BG ops sE l=true→l.Pairwise fun x y=>xU ops sE x y=true
 | [],_=> .nil
 | x::l,h=>by
  simp only[BG,aI] at h
  exact .cons (fun y hy=>eS.1 h.1 y hy) (Nq h.2)
theorem Nr {fp:Array Bool} {i:Nat} (h:fp.getD i true=false):i<fp.size∧fp.getD i false=false:=by
 rcases ot i fp.size with h'|h'
 ·refine ⟨h',?_⟩
  simpa[h'] using h
 ·simp[Array.getElem?_eq_none h'] at h
theorem Ns (hC:ky P A C) (hP:iv P A) {n nb:Nat} {ops:Array Oper} {Q:Exit→Act→World→Prop} (CQ:xV 0 ops.toList=true):
  ∀(fuel:Nat) {g:List (Nat × Oper × List Nat × List Nat)} {fp:Array Bool} {st st':St} {a:Act} {w:World} {I:Nat→Prop} {β:Nat→Option Nat},
  g.length=fuel→vy P A C n ops nb g st st'→(∀x∈g,ops[x.1]? =some x.2.1)→(g.map (·.1)).Pairwise (· < ·)→(g.map tk).Pairwise (fun x y=>xU ops (Region.before ops) x y=true)→
  fp.size=ops.size→(∀i,i<ops.size→(fp.getD i false=false↔i∈g.map (·.1)))→No ops fp→
  aE P w I β st.hp B M w0→iw P A.idle A.aD w I β n a st→
  (∀a' w' I' β',Le P w I β st.hp w' I' β' st'.hp→aE P w' I' β' st'.hp B M w0→iw P A.idle A.aD w' I' β' n a' st'→Q .normal a' w')→wpAny P .any ops Q fuel fp a w
 | 0,g,fp,st,st',a,w,I,β,hf,hr,ho,aL,CR,aR,tn,jM,S,hA,hQ=>by
  obtain rfl:g=[]:=kI hf
  cases hr
  refine ⟨?_,hQ a w I β (Le.refl w I β _) S hA⟩
  rw[List.eq_nil_iff_forall_not_mem]
  intro i hi
  obtain ⟨h0,_⟩:=mem_ready.1 hi
  obtain ⟨h1,U⟩:=Nr h0
  have:=(tn i (by omega)).1 U
  simp at this
 | fuel+1,g,fp,st,st',a,w,I,β,hf,hr,ho,aL,CR,aR,tn,jM,S,hA,hQ=>by
  refine ⟨fun yW=> ?_,fun i hi=> ?_⟩
  ·exfalso
   cases g with
   | nil=>simp at hf
   | cons x g=>
    have hx:=ho x (by simp)
    have fV:x.1<ops.size:=(gG.1 hx).1
    have kW:x.1∈Region.ready .any ops fp:=by
     rw[mem_ready]
     have h0:=(tn x.1 fV).2 (by simp)
     refine ⟨?_,x.2.1,hx,fun e he hb=> ?_⟩
     ·have hl:x.1<fp.size:=by omega
      simpa[hl] using h0
     ·have GA:=Np CQ (j:=x.1) (by simpa using hx) e he hb
      rw[gj] at GA
      cases hle:fp.getD e.on false with
      | true=>rfl
      | false=>
       have hm:=(tn e.on (by omega)).1 hle
       simp only[cG,c8] at hm
       rw[cG,sq] at aL
       rcases hm with hm|hm
       ·omega
       ·have:=aL.1 _ hm;omega
    rw[yW] at kW
    cases kW
  ·obtain ⟨h0,oi,yY,Nt⟩:=mem_ready.1 hi
   obtain ⟨h1,U⟩:=Nr h0
   have Xe:=(tn i (by omega)).1 U
   obtain ⟨y,hy,Xf⟩:=fP.1 Xe
   obtain ⟨g1,g2,rfl⟩:=List.append_of_mem hy
   subst Xf
   have Nu:=ho y hy
   rw[yY] at Nu
   have Nw:oi=y.2.1:=cU Nu
   have jN:((g1++y::g2).map (·.1)).Nodup:=aL.imp fun h=>Nat.ne_of_lt h
   have Xg: ∀x∈g1,Nh ops x y:=by
    intro x hx
    have hp:xU ops (Region.before ops) (tk x) (tk y)=true:=by
     rw[fQ,cG,List.pairwise_append] at CR
     exact CR.2.2 _ (fP.2 ⟨x,hx,rfl⟩) _ (by simp)
    have Hj:=ho x (ee.2 (.inl hx))
    unfold xU at hp
    rw[Bool.or_eq_true] at hp
    rcases hp with hp|hp
    ·have hl:=Xd jM (Xc hp) fun o iM e he hb=>by
      have:o=oi:=by
       have h3:ops[y.1]? =some o:=iM
       rw[yY] at h3
       exact (cU h3).symm
      subst this
      exact Nt e he hb
     have fV:x.1<ops.size:=(gG.1 Hj).1
     have:=(tn x.1 fV).2 (fP.2 ⟨x,ee.2 (.inl hx),rfl⟩)
     rw[show (tk x).1=x.1 from rfl,this] at hl
     cases hl
    ·simp only[tk,uA,Hj,yY,Option.getD_some,aI,mi] at hp
     obtain ⟨q1,q2,q3⟩:=hp
     refine ⟨Nw▸q1,fun id ab=> ?_,fun id ab=>CF q3 ab⟩
     have:=CF q2 ab
     rw[ee] at this
     exact ⟨fun h=>this (.inl h),fun h=>this (.inr h)⟩
   obtain ⟨iy,ic,mL⟩:=Ni hr Xg
   rw[←Nw] at ic
   refine M8 hC hP yY S hA ic fun a' w' I' β' k1 k2 k3=> ?_
   have jI:List.Sublist (g1++g2) (g1++y::g2):=List.Sublist.append_left (List.sublist_cons_self y g2) g1
   have sG: ∀j,j≠y.1→(fp.setIfInBounds y.1 true).getD j false=fp.getD j false:=fun j hj=>getD_set_ne false (Ne.symm hj)
   refine Ns hC hP CQ fuel (g:=g1++g2) (st':=st') ?_ mL (fun x hx=>ho x (jI.subset hx)) (aL.sublist (jI.map _)) (CR.sublist (jI.map _)) (by simp[aR]) (fun j hj=> ?_) (fun j o Hk bR e he hb=> ?_) k2 k3 fun a2 w2 I2 bM m1 m2 m3=>hQ a2 w2 I2 bM (k1.trans m1) m2 m3
   ·simp at hf⊢;omega
   ·by_cases oJ:j=y.1
    ·subst oJ
     have hl:y.1<fp.size:=by omega
     simp only[uA,Ft hl,Option.getD_some]
     refine ⟨fun h=>(by cases h),fun h=> ?_⟩
     exfalso
     rw[fQ,cG,Bh,List.nodup_cons] at jN
     rw[fQ,ee] at h
     rcases h with h|h
     ·exact jN.2.2 _ h _ (by simp) rfl
     ·exact jN.2.1.1 h
    ·rw[sG j oJ,tn j hj]
     simp only[fQ,cG,ee,c8]
     constructor
     ·rintro (h|h|h)
      ·exact .inl h
      ·exact absurd h oJ
      ·exact .inr h
     ·rintro (h|h)
      ·exact .inl h
      ·exact .inr (.inr h)
   ·by_cases oJ:j=y.1
    ·subst oJ
     rw[yY] at Hk
     cases Hk
     exact getD_set_true (Nt e he hb)
    ·rw[sG j oJ] at bR
     exact getD_set_true (jM j o Hk bR e he hb)
end
section
variable {P:Program} {A:cm} {w w':World} {I I' I2:Nat→Prop} {μ β β':Nat→Option Nat} {hp hp':Nat→Option an} {C:ag} {B:Nat} {M:Nat→Prop} {w0:Start}
theorem Nx: ∀{l:List Oper} {k j:Nat},(nE k l)[j]? =(l[j]?).map fun o=>(k+j,o)
 | [],k,j=>by simp[nE]
 | o::l,k,0=>by simp[nE]
 | o::l,k,j+1=>by
  simp only[nE,List.getElem?_cons_succ,Nx]
  congr 1
  funext o
  rw[show k+1+j=k+(j+1) by omega]
theorem Ny: ∀{l:List Oper} {k:Nat},(nE k l).map (·.1)=List.range' k l.length
 | [],k=>rfl
 | o::l,k=>by simp[nE,Ny,List.range'_succ]
theorem Xh (hC:ky P A C) (hP:iv P A) (hm:P.follows .mixedOrders=true) {n id:Nat} {ops:Array Oper} {draw:Bool} {st st':St} {a:Act} {Q:Exit→Act→World→Prop}
  (h:xX P A C n ops draw st=some st') (S:aE P w I β st.hp B M w0) (hA:iw P A.idle A.aD w I β n a st)
  (hQ: ∀a' w' I' β',Le P w I β st.hp w' I' β' st'.hp→aE P w' I' β' st'.hp B M w0→iw P A.idle A.aD w' I' β' n a' st'→Q .normal a' w'):(Code.region id ops draw).wp P Q a w:=by
 obtain ⟨⟨iy,log⟩,h1,U⟩:=bind_some h
 obtain ⟨g,g1,g2,g3⟩:=Ng h1
 have CS:g.map (·.1)=List.range ops.size:=by
  have:g.map (·.1)=(g.map fun x=>(x.1,x.2.1)).map (·.1):=by simp
  rw[this,g1,Ny,List.range_eq_range']
  simp
 have Nz: ∀x∈g,ops[x.1]? =some x.2.1:=by
  intro x hx
  have:(x.1,x.2.1)∈nE 0 ops.toList:=by rw[←g1];exact fP.2 ⟨x,hx,rfl⟩
  obtain ⟨j,hj⟩:=List.mem_iff_getElem?.1 this
  rw[Nx] at hj
  cases ho:ops.toList[j]? with
  | none=>rw[ho] at hj;cases hj
  | some o=>
   rw[ho] at hj
   simp only[Option.map_some,gj,dC,jw] at hj
   rw[←hj.1,←hj.2]
   simpa using ho
 cases draw with
 | false=>
  simp only[sr,Bool.true_or,cond_true] at U
  cases U
  refine wp_region ?_
  rw[←CS]
  exact Nj hC hP g3 Nz S hA hQ
 | true=>
  simp only[pw,Bool.false_or] at U
  cases hc:(Region.noSelect ops&&xW ops log) with
  | false=>rw[hc] at U;cases U
  | true=>
   rw[hc] at U
   cases U
   simp only[aI,xW] at hc
   obtain ⟨hns,CQ,Xi⟩:=hc
   simp only[List.nil_append] at g2
   refine wp_region_any hm ?_
   have hlen:g.length=ops.size:=by
    have:=congrArg List.length CS
    simpa using this
   refine Ns hC hP CQ ops.size (g:=g) (st':=st') hlen g3 Nz (by rw[CS];exact List.pairwise_lt_range) (by rw[←g2];exact Nq Xi) (by simp) (fun i hi=> ?_) (fun i o ho hl=> ?_)
    (w:=w.drew) S.drew ⟨fun k=>(hA.sl k).mono (Le.drew w I β _),hA.size,hA.defers,hA.aD.mono (Le.drew (P:=P) w I β st.hp).cY (Le.drew (P:=P) w I β st.hp).bQ⟩ fun a' w' I' β' k1 k2 k3=>hQ a' w' I' β' ((Le.drew w I β _).trans k1) k2 k3
   ·rw[CS]
    simp[hi]
   ·have hi:=(gG.1 ho).1
    simp[hi] at hl
end
section
variable {P:Program} {A:cm} {E:FuncId→Bool} {G:Nat→V} {w w':World} {I I' I2:Nat→Prop} {μ β β':Nat→Option Nat} {hp hp':Nat→Option an} {C:ag} {B:Nat} {M:Nat→Prop} {w0:Start}
theorem tp: ∀{l:List Nat} {hp:Nat→Option an} {I:Nat→Prop},aE P w I β hp B M w0→∃I',Le P w I β hp w I' β (sD hp l)∧aE P w I' β (sD hp l) B M w0
 | [],hp,I,S=>⟨I,Le.refl w I β hp,S⟩
 | id::l,hp,I,S=>by
  simp only[sD]
  cases ab:hp id with
  | none=>exact tp S
  | some blk=>
   cases blk with
   | dead=>exact tp S
   | var _=>exact tp S
   | map _ _=>exact tp S
   | arr e es fz=>
    obtain ⟨h1,U⟩:=yh S (upd:=[(id,.arr e es true)]) (fun p hp=>by
     simp only[dB] at hp
     subst hp
     exact ⟨e,es,rfl,.inl ⟨fz,ab⟩⟩)
    obtain ⟨I',h3,h4⟩:=tp (l:=l) U
    exact ⟨I',h1.trans h3,h4⟩
   | nest e es aq=>
    obtain ⟨h1,U⟩:=yh S (upd:=[(id,.arr e es true)]) (fun p hp=>by
     simp only[dB] at hp
     subst hp
     exact ⟨e,es,rfl,.inr ⟨aq,ab⟩⟩)
    obtain ⟨I',h3,h4⟩:=tp (l:=l) U
    exact ⟨I',h1.trans h3,h4⟩
theorem NA {n m:Nat} {pur:List Nat} {a:Act} {st:St} (S:aE P w I β st.hp B M w0) (hA:iw P E G w I β n a st):
  ∃I',Le P w I β st.hp w I' β (freeze m pur st).hp∧aE P w I' β (freeze m pur st).hp B M w0∧iw P E G w I' β n a (freeze m pur st):=by
 obtain ⟨I',h1,U⟩:=tp (l:=(K0 st pur).filter fun id=>Nat.ble m id) S
 exact ⟨I',h1,U,fun k=>(hA.sl k).mono h1,hA.size,hA.defers,hA.aD.mono h1.cY h1.bQ⟩
structure vz (hp:Nat→Option an) (β:Nat→Option Nat) (ord:List Nat) (hp':Nat→Option an) (β':Nat→Option Nat):Prop where
 arr: ∀(j:Nat) id e es fz,ord[j]? =some id→hp id=some (.arr e es fz)→hp' j=some (.arr e es fz)
 var: ∀(j:Nat) id T cs,ord[j]? =some id→hp id=some (.var T cs)→∃gS,hp' j=some (.var T gS)
 dead: ∀(j:Nat) id,ord[j]? =some id→hp id=some .dead→hp' j=some .dead
 place: ∀(j:Nat) id,ord[j]? =some id→β' j=β id
 nest: ∀(j:Nat) id e es aq,ord[j]? =some id→hp id=some (.nest e es aq)→hp' j=some (.nest e es (aq.map fun _=>0))
 map: ∀(j:Nat) id t es,ord[j]? =some id→hp id=some (.map t es)→hp' j=some (.map t es)
theorem la: ∀{l:List Nat} {n i j:Nat},gK l n i=some j→∃k,j=i+k∧l[k]? =some n
 | [],n,i,j,h=>by cases h
 | a::l,n,i,j,h=>by
  simp only[gK] at h
  cases hb:Nat.beq n a with
  | true=>
   rw[hb] at h
   cases h
   rw[aP] at hb
   exact ⟨0,rfl,by rw[hb];rfl⟩
  | false=>
   rw[hb] at h
   obtain ⟨k,h1,U⟩:=la h
   exact ⟨k+1,by omega,by simpa using U⟩
def kz (hp':Nat→Option an) (β':Nat→Option Nat) (n:Nat) (bs:List an):Prop:=
 ∀(k:Nat) b,bs[k]? =some b→hp' (n+k)=some b∧β' (n+k)=none
theorem Hl: ∀(aq:List Nat) (k:Nat),br (aq.map fun _=>0) k=0
 | [],_=>rfl
 | _::_,0=>rfl
 | _::vs,k+1=>Hl vs k
theorem NB {e:TypeId} {es:List V} {aq:List Nat} {path:Path} {ver:Nat} (hc:(Nat.blt 0 path.length&&(Nat.ble path.length aq.length&&Nat.beq (br aq (path.length-1)) ver))=true)
  (h:(an.nest e es aq).sH path ver):False:=by
 simp only[aI,jv,dK,aP] at hc
 obtain ⟨h1,U,h3⟩:=hc
 rcases h with h|h|h
 ·subst h;simp at h1
 ·omega
 ·omega
theorem NC (S:aE P w I β hp B M w0) {ord:List Nat} (hR:vz hp β ord hp' β') {v:Value} {x:V} (hv:ao P w I β hp v x):ao P w I β' hp' v (gM hp ord x):=by
 cases hv with
 | undef=>exact .undef
 | int=>exact .int
 | bool=>exact .bool
 | str h=>exact .str h
 | list h=>exact .list h
 | nilS=>exact .nilS
 | agg=>exact .undef
 | aW=>exact .undef
 | c9=>exact .c9
 | fn=>exact .undef
 | pref a b c=>exact .pref a b c
 | @dN _ e id ab=>
  simp only[gM]
  cases bh:gK ord id 0 with
  | none=>simp only[ab];exact .undef
  | some j=>
   obtain ⟨k,rfl,hk⟩:=la bh
   exact .dN (hR.dead _ id (by simpa using hk) ab)
 | @fE _ e id off len ab=>
  simp only[gM]
  cases bh:gK ord id 0 with
  | none=>simp only[ab];exact .undef
  | some j=>
   obtain ⟨k,rfl,hk⟩:=la bh
   exact .fE (hR.dead _ id (by simpa using hk) ab)
 | @jE _ id i c ab=>
  simp only[gM]
  cases bh:gK ord id 0 with
  | none=>exact .undef
  | some j=>
   obtain ⟨k,rfl,hk⟩:=la bh
   exact .jE (hR.dead _ id (by simpa using hk) ab)
 | @dq e id fz _ ab hb=>
  simp only[gM]
  cases bh:gK ord id 0 with
  | none=>
   simp only[ab]
   cases fz with
   | false=>exact .undef
   | true=>simp only[iY,cond_true];exact .list (.any fun _=>rfl)
  | some j=>
   obtain ⟨k,rfl,hk⟩:=la bh
   have c6:ord[0+k]? =some id:=by simpa using hk
   exact .dq (hR.arr _ id _ _ _ c6 ab) ((hR.place _ id c6).trans hb)
 | @whole e id es fz b cap ab hb aR bO hm=>
  simp only[gM]
  cases bh:gK ord id 0 with
  | none=>
   simp only[ab]
   cases fz with
   | false=>exact .undef
   | true=>
    simp only[iY,cond_true]
    have hr:=S.h.rel id _ ab
    cases hr with
    | dr ay=>rw[ay] at hb;cases hb
    | arr au ay hh hs hf dO hx=>
     rw[hb] at ay;cases ay
     have:=sM (I':=I) (off:=0) (len:=es.length) (o:=0) hh hx (eZ au) (by omega) bO (fun _=>by simp) (fun _ h=>h) (hf rfl)
     exact .list (by simpa using this)
  | some j=>
   obtain ⟨k,rfl,hk⟩:=la bh
   have c6:ord[0+k]? =some id:=by simpa using hk
   exact .whole (hR.arr _ id _ _ _ c6 ab) ((hR.place _ id c6).trans hb) aR bO hm
 | @fk e id fz _ ab hb=>
  simp only[gM]
  cases bh:gK ord id 0 with
  | none=>
   simp only[ab]
   cases fz with
   | false=>exact .undef
   | true=>simp only[iY,cond_true];exact .list (by simpa using (ia.any (P:=P) fun _=>rfl))
  | some j=>
   obtain ⟨k,rfl,hk⟩:=la bh
   have c6:ord[0+k]? =some id:=by simpa using hk
   exact .fk (hR.arr _ id _ _ _ c6 ab) ((hR.place _ id c6).trans hb)
 | @sub e id off len es fz b o cap ab hb kh bO ho=>
  simp only[gM]
  cases bh:gK ord id 0 with
  | none=>
   simp only[ab]
   cases fz with
   | false=>exact .undef
   | true=>
    simp only[iY,cond_true]
    have hr:=S.h.rel id _ ab
    cases hr with
    | dr ay=>rw[ay] at hb;cases hb
    | arr au ay hh hs hf dO hx=>
     rw[hb] at ay;cases ay
     exact .list (sM (I':=I) hh hx (eZ au) kh bO ho (fun _ h=>h) (hf rfl))
  | some j=>
   obtain ⟨k,rfl,hk⟩:=la bh
   have c6:ord[0+k]? =some id:=by simpa using hk
   exact .sub (hR.arr _ id _ _ _ c6 ab) ((hR.place _ id c6).trans hb) kh bO ho
 | @ptr id i c b blk ab hd hb=>
  simp only[gM]
  cases bh:gK ord id 0 with
  | none=>exact .undef
  | some j=>
   obtain ⟨k,rfl,hk⟩:=la bh
   have c6:ord[0+k]? =some id:=by simpa using hk
   cases blk with
   | dead=>exact absurd rfl hd
   | var T0 cs=>
    obtain ⟨gS,h'⟩:=hR.var _ id T0 cs c6 ab
    exact .ptr (blk:= .var T0 gS) h' (by simp) ((hR.place _ id c6).trans hb)
   | arr e es fz=>exact .ptr (blk:= .arr e es fz) (hR.arr _ id _ _ _ c6 ab) (by simp) ((hR.place _ id c6).trans hb)
   | nest e es aq=>exact .ptr (blk:= .nest e es (aq.map fun _=>0)) (hR.nest _ id _ _ _ c6 ab) (by simp) ((hR.place _ id c6).trans hb)
   | map t es=>exact .ptr (blk:= .map t es) (hR.map _ id _ _ c6 ab) (by simp) ((hR.place _ id c6).trans hb)
 | db=>exact .db
 | @gP _ t id ab=>
  simp only[gM]
  cases bh:gK ord id 0 with
  | none=>exact .undef
  | some j=>
   obtain ⟨k,rfl,hk⟩:=la bh
   exact .gP (hR.dead _ id (by simpa using hk) ab)
 | @cb t id b es ab hb=>
  simp only[gM]
  cases bh:gK ord id 0 with
  | none=>exact .undef
  | some j=>
   obtain ⟨k,rfl,hk⟩:=la bh
   have c6:ord[0+k]? =some id:=by simpa using hk
   exact .cb (hR.map _ id _ _ c6 ab) ((hR.place _ id c6).trans hb)
 | @dW e id es aq b cap ab hb aR bO hm=>
  simp only[gM]
  cases bh:gK ord id 0 with
  | none=>simp only[ab];exact .undef
  | some j=>
   obtain ⟨k,rfl,hk⟩:=la bh
   have c6:ord[0+k]? =some id:=by simpa using hk
   exact .dW (hR.nest _ id _ _ _ c6 ab) ((hR.place _ id c6).trans hb) aR bO hm
 | @jc v e id ver path blk ab yf=>
  simp only[gM]
  split
  ·rename_i j e1 bY aq h1 U
   rw[ab] at U
   cases U
   cases hc:(Nat.blt 0 path.length&&(Nat.ble path.length aq.length&&Nat.beq (br aq (path.length-1)) ver)) with
   | false=>exact .undef
   | true=>exact (NB hc yf).elim
  ·exact .undef
 | @jd v id ver i c path blk ab yf=>
  simp only[gM]
  split
  ·rename_i j e1 bY aq h1 U
   rw[ab] at U
   cases U
   cases hc:(Nat.blt 0 path.length&&(Nat.ble path.length aq.length&&Nat.beq (br aq (path.length-1)) ver)) with
   | false=>exact .undef
   | true=>exact (NB hc yf).elim
  ·exact .undef
 | @row v e e0 t id ver b i c q es l aq ab hb hq hv ht hc=>
  simp only[gM]
  split
  ·rename_i j e1 bY th h1 U
   obtain ⟨k,rfl,hk⟩:=la h1
   have c6:ord[0+k]? =some id:=by simpa using hk
   cases hx:(Nat.blt 0 (q++[(i,c)]).length&&(Nat.ble (q++[(i,c)]).length th.length&&Nat.beq (br th ((q++[(i,c)]).length-1)) ver)) with
   | false=>exact .undef
   | true=>exact .row (hR.nest _ id _ _ _ c6 ab) ((hR.place _ id c6).trans hb) (by simpa using hq) (Hl _ _) ht hc
  ·exact .undef
 | @cl e e0 t id ver b b1 len cap i0 c0 i c q es l aq ab hb hq hv ht jf hc=>
  simp only[gM]
  split
  ·rename_i j e1 bY th h1 U
   obtain ⟨k,rfl,hk⟩:=la h1
   have c6:ord[0+k]? =some id:=by simpa using hk
   cases hx:(Nat.blt 0 (q++[(i0,c0)]).length&&(Nat.ble (q++[(i0,c0)]).length th.length&&Nat.beq (br th ((q++[(i0,c0)]).length-1)) ver)) with
   | false=>exact .undef
   | true=>exact .cl (hR.nest _ id _ _ _ c6 ab) ((hR.place _ id c6).trans hb) (by simpa using hq) (Hl _ _) ht jf hc
  ·exact .undef
theorem ND (S:aE P w I β hp B M w0) {ord:List Nat} (hR:vz hp β ord hp' β') {vs:Array Value} {xs:List V} (h: ∀(j:Nat) v x,vs[j]? =some v→xs[j]? =some x→ao P w I β hp v x) (j:Nat) (v:Value) (y:V)
  (hv:vs[j]? =some v) (hy:(xs.map (gM hp ord))[j]? =some y):ao P w I β' hp' v y:=by
 rw[eT] at hy
 cases hx:xs[j]? with
 | none=>rw[hx] at hy;cases hy
 | some x=>rw[hx] at hy;cases hy;exact NC S hR (h j v x hv hx)
theorem NF (S:aE P w I β hp B M w0) {ord:List Nat} (hR:vz hp β ord hp' β') {n:Nat} {v:Value} {x:V} (hv:ao P w I β hp v x) (hF:kz hp' β' n (uP hp ord n x).2):
  ao P w I β' hp' v (uP hp ord n x).1:=by
 cases x with
 | nilS e=>
  obtain ⟨h1,U⟩:=hF 0 _ rfl
  cases hv with
  | nilS=>exact .dq h1 U
 | fn f a b=>
  cases hv with
  | fn q1 q2 q3 q4=>exact .fn (by simpa using q1) (ND S hR q2) (by simpa using q3) (ND S hR q4)
 | _=>exact NC S hR hv
end
section
variable {P:Program} {A:cm} {w w':World} {I I' I2:Nat→Prop} {μ β β':Nat→Option Nat} {hp hp':Nat→Option an} {C:ag} {B:Nat} {M:Nat→Prop} {w0:Start}
theorem kz.left {n:Nat} {a b:List an} (h:kz hp' β' n (a++b)):kz hp' β' n a:=fun k x hx=>
 h k x (by rw[hG (bj.1 hx).1];exact hx)
theorem kz.right {n:Nat} {a b:List an} (h:kz hp' β' n (a++b)):kz hp' β' (n+a.length) b:=fun k x hx=>by
 have:=h (a.length+k) x (by rw[hO (by omega),Nat.add_sub_cancel_left];exact hx)
 rwa [←nq] at this
def lO (bs:List an):Prop:= ∀b∈bs,∃e,b= .arr e [] false
theorem lO.app {a b:List an} (h1:lO a) (U:lO b):lO (a++b):=fun x hx=>(ee.1 hx).elim (h1 x) (U x)
theorem lO.nil:lO []:=fun x hx=>by simp at hx
theorem NG {ord:List Nat} {n:Nat} {x:V}:lO (uP hp ord n x).2:=by
 cases x<;>simp only[uP]<;>first|exact .nil|skip
 intro b hb
 simp only[dB] at hb
 exact ⟨_,hb⟩
theorem Hm {ord:List Nat}: ∀{xs:List V} {n:Nat},lO (mz hp ord n xs).2
 | [],n=> .nil
 | x::xs,n=>by
  simp only[mz]
  exact NG.app Hm
theorem CT {ord:List Nat}: ∀{xs:List V} {n:Nat},(mz hp ord n xs).1.length=xs.length
 | [],n=>rfl
 | x::xs,n=>by simp only[mz,List.length_cons,CT]
theorem CU (S:aE P w I β hp B M w0) {ord:List Nat} (hR:vz hp β ord hp' β'): ∀{xs:List V} {vs:List Value} {n:Nat},(∀(j:Nat) v x,vs[j]? =some v→xs[j]? =some x→ao P w I β hp v x)→
  kz hp' β' n (mz hp ord n xs).2→∀(j:Nat) v y,vs[j]? =some v→(mz hp ord n xs).1[j]? =some y→ao P w I β' hp' v y
 | [],vs,n,h,hF,j,v,y,hv,hy=>by simp[mz] at hy
 | x::xs,vs,n,h,hF,j,v,y,hv,hy=>by
  simp only[mz] at hF hy
  cases j with
  | zero=>
   simp at hy
   subst hy
   exact NF S hR (h 0 v x hv rfl) hF.left
  | succ j=>
   cases vs with
   | nil=>simp at hv
   | cons v0 vs=>exact CU S hR (vs:=vs) (fun j v x hj hx=>h (j+1) v x (by simpa using hj) (by simpa using hx)) hF.right j v y (by simpa using hv) (by simpa using hy)
theorem Xj {ord:List Nat} {n:Nat} {x:V}:lO (pI hp ord n x).2:=by
 cases x<;>simp only[pI]<;>first|exact NG|exact Hm
theorem Xk (S:aE P w I β hp B M w0) {ord:List Nat} (hR:vz hp β ord hp' β') {n:Nat} {v:Value} {x:V} (hv:ao P w I β hp v x) (hF:kz hp' β' n (pI hp ord n x).2):
  ao P w I β' hp' v (pI hp ord n x).1:=by
 cases x with
 | agg cs=>
  obtain ⟨ds,rfl,h1,U⟩:=hv.km
  simp only[pI] at hF⊢
  exact .agg (by rw[CT];exact h1) fun j v y hj hy=>CU S hR (vs:=ds.toList) (fun j v x hj hx=>U j v x (by simpa using hj) hx) hF j v y (by simpa using hj) hy
 | aW cs=>
  obtain ⟨ds,rfl,h1,U⟩:=hv.sQ
  simp only[pI] at hF⊢
  exact .aW (by rw[CT];exact h1) fun j v y hj hy=>CU S hR (vs:=ds.toList) (fun j v x hj hx=>U j v x (by simpa using hj) hx) hF j v y (by simpa using hj) hy
 | _=>exact NF S hR hv hF
theorem NH {ord:List Nat} {sl:Nat→V}: ∀{l:List Nat} {n:Nat},lO (kP hp ord sl n l).2
 | [],n=> .nil
 | s::l,n=>by
  simp only[kP]
  exact Xj.app NH
theorem NI {ord:List Nat} {sl:Nat→V} {k:Nat} {y:V}: ∀{l:List Nat} {n:Nat},kz hp' β' n (kP hp ord sl n l).2→dp (kP hp ord sl n l).1 k=some y→
  ∃n',kz hp' β' n' (pI hp ord n' (sl k)).2∧y=(pI hp ord n' (sl k)).1
 | [],n,_,h=>by cases h
 | s::l,n,hF,h=>by
  simp only[kP] at hF h
  simp only[dp] at h
  cases hb:Nat.beq k s with
  | true=>
   rw[hb] at h
   rw[aP] at hb
   subst hb
   cases h
   exact ⟨n,hF.left,rfl⟩
  | false=>
   rw[hb] at h
   exact NI hF.right h
theorem Xl {ord:List Nat} {n id:Nat}:lO (er hp ord n id).2:=by
 unfold er
 split
 ·exact Hm
 ·exact .nil
 ·exact .nil
 ·exact .nil
 ·exact .nil
theorem NJ {ord:List Nat}: ∀{l:List Nat} {n:Nat},lO (eY hp ord n l).2
 | [],n=> .nil
 | s::l,n=>by
  simp only[eY]
  exact Xl.app NJ
theorem NK {ord:List Nat}: ∀{l:List Nat} {n:Nat},(eY hp ord n l).1.length=l.length
 | [],n=>rfl
 | x::xs,n=>by simp only[eY,List.length_cons,NK]
theorem NL {ord:List Nat}: ∀{l:List Nat} {n j:Nat} {id:Nat},l[j]? =some id→∃n',(kz hp' β' n (eY hp ord n l).2→kz hp' β' n' (er hp ord n' id).2)∧(eY hp ord n l).1[j]? =some (er hp ord n' id).1
 | [],n,j,id,h=>by simp at h
 | s::l,n,j,id,h=>by
  simp only[eY]
  cases j with
  | zero=>
   simp at h
   subst h
   exact ⟨n,fun hF=>hF.left,rfl⟩
  | succ j=>
   obtain ⟨n',h1,U⟩:=NL (n:=n+(er hp ord n s).2.length) (j:=j) (by simpa using h)
   exact ⟨n',fun hF=>h1 hF.right,by simpa using U⟩
theorem CV: ∀{l acc:List Nat},∃t,sC hp acc l=acc++t∧(acc.Nodup→(acc++t).Nodup)
 | [],acc=>⟨[],by simp[sC],by simp⟩
 | id::l,acc=>by
  simp only[sC]
  cases hb:(jy acc id|| !(KZ hp id)) with
  | true=>exact CV
  | false=>
   obtain ⟨t,h1,U⟩:=CV (l:=l) (acc:=acc++[id])
   refine ⟨id::t,by simp only[cond_false,h1,b7,List.singleton_append],fun hn=> ?_⟩
   have:acc++id::t=(acc++[id])++t:=by simp
   rw[this]
   refine U ?_
   rw[Bh]
   refine ⟨hn,by simp,fun a ha b ay=> ?_⟩
   simp only[dB] at ay
   subst ay
   intro e
   subst e
   rw[u6 ha] at hb
   cases hb
theorem NM: ∀{n:Nat} {l:List Nat},∃t,grow hp n l=l++t∧(l.Nodup→(l++t).Nodup)
 | 0,l=>⟨[],by simp[grow],by simp⟩
 | n+1,l=>by
  simp only[grow]
  obtain ⟨t,h1,U⟩:=CV (hp:=hp) (acc:=l) (l:=l.flatMap (FL hp))
  rw[h1]
  obtain ⟨t',h3,h4⟩:=NM (n:=n) (l:=l++t)
  exact ⟨t++t',by rw[h3,b7],fun hn=>by rw[←b7];exact h4 (U hn)⟩
theorem Xm {m:Nat} {live:List Nat} {st:St}: ∃t,FM m live st=List.range m++t∧(List.range m++t).Nodup:=by
 unfold FM
 obtain ⟨t,h1,U⟩:=CV (hp:=st.hp) (acc:=List.range m) (l:=live.flatMap fun s=>FK (st.sl s))
 rw[h1]
 obtain ⟨t',h3,h4⟩:=NM (hp:=st.hp) (n:=3) (l:=List.range m++t)
 exact ⟨t++t',by rw[h3,b7],by rw[←b7];exact h4 (U List.nodup_range)⟩
end
section
variable {P:Program} {A:cm} {E:FuncId→Bool} {G:Nat→V} {w w':World} {I I' I2:Nat→Prop} {μ β β':Nat→Option Nat} {hp hp' hp0:Nat→Option an} {C:ag} {B:Nat} {M:Nat→Prop} {w0:Start}
theorem NN {n m:Nat} {ord live:List Nat} {a:Act} {st:St} (kT:ord.Nodup) (yZ: ∀id,id<m→ord[id]? =some id∨∃p,ord[id]? =some p∧st.hp p=none) (S:aE P w I β st.hp B M w0) (hA:iw P E G w I β n a st) (hE:ku w0.w w0.I μ hp0 w I β st.hp) (hm: ∀id blk,hp0 id=some blk→id<m) (iP: ∀id e es aq,hp0 id=some (.nest e es aq)→∀k,br aq k=0):
  ∃β',aE P w I β' (uQ ord live st).hp B M w0∧iw P E G w I β' n a (uQ ord live st)∧ku w0.w w0.I μ hp0 w I β' (uQ ord live st).hp:=by
 have Xn:uQ ord live st=mk (kP st.hp ord st.sl (ord.length+(eY st.hp ord ord.length ord).2.length) live).1
   ((eY st.hp ord ord.length ord).1++((eY st.hp ord ord.length ord).2++(kP st.hp ord st.sl (ord.length+(eY st.hp ord ord.length ord).2.length) live).2)):=by
  rfl
 rw[Xn]
 let hp':=ja ((eY st.hp ord ord.length ord).1++((eY st.hp ord ord.length ord).2++(kP st.hp ord st.sl (ord.length+(eY st.hp ord ord.length ord).2.length) live).2))
 let β':Nat→Option Nat:=fun j=>if j<ord.length then (ord[j]?).bind β else none
 have hlen:(eY st.hp ord ord.length ord).1.length=ord.length:=NK
 have iq: ∀j,j<ord.length→hp' j=(eY st.hp ord ord.length ord).1[j]? :=by
  intro j hj
  simp only[hp',gA]
  rw[hG (by omega)]
 have gz: ∀k,hp' (ord.length+k)=((eY st.hp ord ord.length ord).2++(kP st.hp ord st.sl (ord.length+(eY st.hp ord ord.length ord).2.length) live).2)[k]? :=by
  intro k
  simp only[hp',gA]
  rw[hO (by omega),hlen,Nat.add_sub_cancel_left]
 have hF:kz hp' β' ord.length ((eY st.hp ord ord.length ord).2++(kP st.hp ord st.sl (ord.length+(eY st.hp ord ord.length ord).2.length) live).2):=by
  intro k b hb
  refine ⟨(gz k).trans hb,?_⟩
  simp only[β']
  rw[ai (by omega)]
 have yW:lO ((eY st.hp ord ord.length ord).2++(kP st.hp ord st.sl (ord.length+(eY st.hp ord ord.length ord).2.length) live).2):=NJ.app NH
 have nT: ∀(j:Nat) id,ord[j]? =some id→β' j=β id:=by
  intro j id hj
  simp only[β']
  rw[ak (bj.1 hj).1,hj]
  rfl
 have qj: ∀(j:Nat) id,ord[j]? =some id→∃n',kz hp' β' n' (er st.hp ord n' id).2∧hp' j=some (er st.hp ord n' id).1:=by
  intro j id hj
  obtain ⟨n',h1,U⟩:=NL (hp:=st.hp) (hp':=hp') (β':=β') (ord:=ord) (n:=ord.length) hj
  exact ⟨n',h1 hF.left,(iq j (bj.1 hj).1).trans U⟩
 have hR:vz st.hp β ord hp' β':=by
  refine ⟨fun j id e es fz hj ab=> ?_,fun j id T cs hj ab=> ?_,fun j id hj ab=> ?_,nT,fun j id e es aq hj ab=> ?_,fun j id t es hj ab=> ?_⟩
  ·obtain ⟨n',_,U⟩:=qj j id hj
   rw[U];simp only[er,ab]
  ·obtain ⟨n',_,U⟩:=qj j id hj
   rw[U];simp only[er,ab];exact ⟨_,rfl⟩
  ·obtain ⟨n',_,U⟩:=qj j id hj
   rw[U];simp only[er,ab]
  ·obtain ⟨n',_,U⟩:=qj j id hj
   rw[U];simp only[er,ab]
  ·obtain ⟨n',_,U⟩:=qj j id hj
   rw[U];simp only[er,ab]
 have cls: ∀j blk',hp' j=some blk'→(∃id,ord[j]? =some id∧((blk'= .dead)∨∃blk,st.hp id=some blk∧blk≠ .dead∧∀o b,bn P w o blk' b→bn P w o blk b))∨(∃e,blk'= .arr e [] false∧β' j=none):=by
  intro j blk' hj
  rcases ot j ord.length with h|h
  ·have fU:=bq h
   obtain ⟨n',_,U⟩:=qj j _ fU
   rw[hj] at U
   refine .inl ⟨_,fU,?_⟩
   cases ab:st.hp ord[j] with
   | none=>left;simp only[er,ab] at U;exact cU U
   | some blk=>
    cases blk with
    | dead=>left;simp only[er,ab] at U;exact cU U
    | var T0 cs=>exact .inr ⟨_,rfl,by simp,fun o b h=>by simp only[er,ab] at U;rw[cU U] at h;exact .root (by simp) (h.flat (by simp))⟩
    | arr e es fz=>exact .inr ⟨_,rfl,by simp,fun o b h=>by simp only[er,ab] at U;rw[cU U] at h;exact .root (by simp) (h.flat (by simp))⟩
    | map t es=>exact .inr ⟨_,rfl,by simp,fun o b h=>by simp only[er,ab] at U;rw[cU U] at h;exact .root (by simp) (h.flat (by simp))⟩
    | nest e es aq=>
     refine .inr ⟨_,rfl,by simp,fun o b h=> ?_⟩
     simp only[er,ab] at U
     rw[cU U] at h
     cases h with
     | root _ h=>exact .root (by simp) h
     | row h1 U=>exact .row h1 U
  ·obtain ⟨k,rfl⟩: ∃k,j=ord.length+k:=⟨j-ord.length,by omega⟩
   rw[gz] at hj
   obtain ⟨e,he⟩:=yW _ (iZ hj)
   exact .inr ⟨e,he,(hF k _ hj).2⟩
 refine ⟨β',⟨⟨fun j blk' hj=> ?_,fun j1 j2 b1 b2 b e1 e2 f1 f2=> ?_,fun j blk b e1 f1=> ?_,S.h.je⟩,S.bQ,S.size,S.new,S.io⟩,⟨fun k=> ?_,hA.size,hA.defers,hA.aD⟩,⟨hE.cY,hE.bQ,fun id blk ab=> ?_,fun id blk blk' b ab bu hd hb=> ?_⟩⟩
 ·change hp' j=some blk' at hj
  rcases ot j ord.length with h|h
  ·have fU:=bq h
   obtain ⟨n',NO,U⟩:=qj j _ fU
   rw[hj] at U
   rw[nT j _ fU]
   cases ab:st.hp ord[j] with
   | none=>simp only[er,ab] at U;rw[cU U];exact .dead
   | some blk=>
    have hr:=S.h.rel _ _ ab
    generalize β ord[j]=o at hr
    cases hr with
    | dead=>simp only[er,ab] at U;rw[cU U];exact .dead
    | dr hb=>simp only[er,ab] at U;rw[cU U];exact .dr hb
    | arr a1 a2 a3 a4 a5 a6 a7=>simp only[er,ab] at U;rw[cU U];exact .arr a1 a2 a3 a4 a5 a6 a7
    | nest a1 a2 a3=>simp only[er,ab] at U;rw[cU U];exact .nest a1 a2 a3
    | map a1 a2 a3 a4 a5 a6 a7=>simp only[er,ab] at U;rw[cU U];exact .map a1 a2 a3 a4 a5 a6 a7
    | @var xs b Ca T hb hh hs cD hx fG=>
     simp only[er,ab] at U NO
     rw[cU U]
     exact .var hb hh (by rw[CT];exact hs) cD (fun i v y hi hy=>CU S hR (vs:=Ca.toList) (fun i v x hi cf=>hx i v x (by simpa using hi) cf) NO i v y (by simpa using hi) hy) fG
  ·rcases cls j blk' hj with ⟨id,ab,_⟩|⟨e,he,hb⟩
   ·have:=(bj.1 ab).1;omega
   ·rw[he];exact .dr hb
 ·rcases cls j1 b1 e1 with ⟨Hn,o1,x1⟩|⟨e,_,hb⟩
  ·rcases cls j2 b2 e2 with ⟨cg,o2,x2⟩|⟨e,_,hb⟩
   ·obtain ⟨c1,y1,z1,g1⟩:=x1.resolve_left f1.alive
    obtain ⟨c2,y2,z2,g2⟩:=x2.resolve_left f2.alive
    rw[nT _ _ o1] at f1
    rw[nT _ _ o2] at f2
    have:=S.h.inj Hn cg c1 c2 b y1 y2 (g1 _ _ f1) (g2 _ _ f2)
    subst this
    obtain ⟨q1,q2⟩:=bj.1 o1
    obtain ⟨q3,q4⟩:=bj.1 o2
    exact (List.getElem_inj kT).1 (q2.trans q4.symm)
   ·subst ‹b2=_›;have:=f2.flat (by simp);rw[hb] at this;cases this
  ·subst ‹b1=_›;have:=f1.flat (by simp);rw[hb] at this;cases this
 ·rcases cls j blk e1 with ⟨Hn,o1,x1⟩|⟨e,_,hb⟩
  ·obtain ⟨c1,y1,z1,g1⟩:=x1.resolve_left f1.alive
   rw[nT _ _ o1] at f1
   exact S.h.own Hn c1 b y1 (g1 _ _ f1)
  ·subst ‹blk=_›;have:=f1.flat (by simp);rw[hb] at this;cases this
 ·change ao P w I β' hp' (a.tmps.getD k undef) (iJ _ k)
  unfold iJ
  cases G1:dp (kP st.hp ord st.sl (ord.length+(eY st.hp ord ord.length ord).2.length) live).1 k with
  | none=>exact .undef
  | some y=>
   obtain ⟨n',h1,U⟩:=NI hF.right G1
   simp only[Option.getD_some,U]
   exact Xk S hR (hA.sl k) h1
 ·obtain ⟨qf,k1,k2,k3⟩:=hE.blk id blk ab
  rcases yZ id (hm id blk ab) with ho|⟨p,ho,bh⟩
  ·cases qf with
   | dead=>exact ⟨.dead,hR.dead id id ho k1,k2,fun h=>absurd rfl h⟩
   | var T0 cs=>
    obtain ⟨gS,h'⟩:=hR.var id id T0 cs ho k1
    refine ⟨_,h',?_,fun _=>(nT id id ho).trans (k3 (by simp))⟩
    cases blk<;>simp_all [an.le]
   | arr e es fz=>exact ⟨_,hR.arr id id e es fz ho k1,k2,fun _=>(nT id id ho).trans (k3 (by simp))⟩
   | map t es=>exact ⟨_,hR.map id id t es ho k1,k2,fun _=>(nT id id ho).trans (k3 (by simp))⟩
   | nest e es aq=>
    refine ⟨_,hR.nest id id e es aq ho k1,?_,fun _=>(nT id id ho).trans (k3 (by simp))⟩
    obtain ⟨FV,Uq,rfl,l1,l2,_⟩:=an.FT k2
    exact ⟨rfl,l1,by simpa using l2,fun k=>by rw[iP id _ _ _ ab k];exact j7 _⟩
  ·obtain ⟨n',_,U⟩:=qj id p ho
   simp only[er,bh] at U
   exact ⟨.dead,U,by cases blk<;>trivial,fun h=>absurd rfl h⟩
 ·obtain ⟨qf,k1,k2,k3⟩:=hE.blk id blk ab
  rcases yZ id (hm id blk ab) with ho|⟨p,ho,bh⟩
  ·refine hE.size id blk qf b ab k1 (fun qi=> ?_) hb
   subst qi
   have:=hR.dead id id ho k1
   change hp' id=some blk' at bu
   rw[this] at bu
   exact hd (cU bu).symm
  ·obtain ⟨n',_,U⟩:=qj id p ho
   simp only[er,bh] at U
   change hp' id=some blk' at bu
   rw[U] at bu
   exact absurd (cU bu).symm hd
theorem Xo {n m:Nat} {live:List Nat} {a:Act} {st:St} (S:aE P w I β st.hp B M w0) (hA:iw P E G w I β n a st) (hE:ku w0.w w0.I μ hp0 w I β st.hp) (hm: ∀id blk,hp0 id=some blk→id<m) (iP: ∀id e es aq,hp0 id=some (.nest e es aq)→∀k,br aq k=0):
  ∃β',aE P w I β' (canon m live st).hp B M w0∧iw P E G w I β' n a (canon m live st)∧ku w0.w w0.I μ hp0 w I β' (canon m live st).hp:=by
 obtain ⟨t,yZ,kT⟩:=Xm (m:=m) (live:=live) (st:=st)
 refine NN (by rw[yZ];exact kT) (fun id aL=> .inl ?_) S hA hE hm iP
 rw[yZ,hG (by simpa using aL)]
 simp[aL]
theorem NP: ∀{l:List Nat},pJ l=true→l.Nodup
 | [],_=> .nil
 | a::l,h=>by
  simp only[pJ,aI,mi] at h
  rw[List.nodup_cons]
  exact ⟨fun hm=>Bool.noConfusion ((u6 hm).symm.trans h.1),NP h.2⟩
theorem Xp {m:Nat} {mv:List Nat} {id:Nat} (h:id<m):(nD m mv)[id]? =some id∨(nD m mv)[id]? =some (m+id):=by
 unfold nD
 rw[hG (by simpa using h),eT]
 simp only[List.getElem?_range h,Option.map_some]
 cases jy mv id with
 | true=>exact .inr rfl
 | false=>exact .inl rfl
end
section
variable {P:Program} {A:cm} {w w':World} {I I' I2:Nat→Prop} {μ β β':Nat→Option Nat} {hp hp' hp0:Nat→Option an} {C:ag} {B:Nat} {M:Nat→Prop} {w0:Start}
theorem CW (p:Nat→Prop) (h: ∃n,p n): ∃n,p n∧∀m,p m→n≤m:=by
 obtain ⟨n,hn⟩:=h
 induction n using Nat.strongRecOn with
 | _ n ih=>
  by_cases hx: ∃m,m<n∧p m
  ·obtain ⟨m,hm,hp⟩:=hx
   exact ih m hm hp
  ·exact ⟨n,hn,fun m hm=>Nat.le_of_not_lt fun aL=>hx ⟨m,aL,hm⟩⟩
open Classical in
theorem Xq {c:Code} {Q:Exit→Act→World→Prop} (J:Nat→Act→World→Prop) (h0: ∀a w,¬J 0 a w) (round: ∀n a w,J (n+1) a w→c.wp P (Exit.then (J n) Q) a w) {n:Nat} {a:Act} {w:World} (h:J n a w):
  (Code.loop c).wp P Q a w:=by
 refine wp_loop (fun a w=> ∃n,J n a w) (fun a w=>if h: ∃n,J n a w then (CW _ h).choose else 0) ⟨n,h⟩ fun a w hJ=> ?_
 obtain ⟨h1,U⟩:=(CW _ hJ).choose_spec
 generalize hk:(CW _ hJ).choose=k at h1 U
 cases k with
 | zero=>exact absurd h1 (h0 a w)
 | succ k=>
  refine wp_mono (round k a w h1) fun e a' w' he=> ?_
  cases e with
  | normal=>
   have hex: ∃n,J n a' w':=⟨k,he⟩
   refine ⟨hex,?_⟩
   have h3:=(CW _ hex).choose_spec.2 k he
   rw[qL hex,qL hJ,hk]
   omega
  | _=>exact he
def vA:Out→Exit
 | .norm=> .normal
 | .exit id=> .exit id
 | .ret=> .ret
def Inv (P:Program) (E:FuncId→Bool) (G:Nat→V) (B:Nat) (M:Nat→Prop) (w0:Start) (μ:Nat→Option Nat) (hp0:Nat→Option an) (n:Nat) (a:Act) (w:World) (st:St):Prop:=
 ∃I β,aE P w I β st.hp B M w0∧iw P E G w I β n a st∧ku w0.w w0.I μ hp0 w I β st.hp
theorem Inv.canon {E:FuncId→Bool} {G:Nat→V} {n m:Nat} {a:Act} {st:St} {live:List Nat} (h:Inv P E G B M w0 μ hp0 n a w st) (hm: ∀id blk,hp0 id=some blk→id<m) (iP: ∀id e es aq,hp0 id=some (.nest e es aq)→∀k,br aq k=0):Inv P E G B M w0 μ hp0 n a w (canon m live st):=by
 obtain ⟨I,β,S,hA,hE⟩:=h
 obtain ⟨β',a,b,c⟩:=Xo (live:=live) S hA hE hm iP
 exact ⟨I,β',a,b,c⟩
theorem CX: ∀{l:List BS} {ds:List V},(eg l ds).length=l.length
 | [],_=>rfl
 | b::l,ds=>by simp only[eg,List.length_cons,CX]
theorem Inv.enter {A:cm} {E:FuncId→Bool} {G:Nat→V} {n f:Nat} {ds:List V} {a:Act} (jN:pJ (nD (A.sin f).aY.length (A.mv f))=true) (h:Inv P E G B M w0 μ hp0 n a w (bd (A.sin f) ds)) (hm: ∀id blk,hp0 id=some blk→id<(A.sin f).aY.length)
  (iP: ∀id e es aq,hp0 id=some (.nest e es aq)→∀k,br aq k=0) (vB: ∀p,(A.sin f).aY.length≤p→(bd (A.sin f) ds).hp p=none):Inv P E G B M w0 μ hp0 n a w (BI A f ds):=by
 unfold BI
 split
 ·exact h
 ·obtain ⟨I,β,S,hA,hE⟩:=h
  obtain ⟨β',x,y,z⟩:=NN (m:=(A.sin f).aY.length) (ord:=nD (A.sin f).aY.length (A.mv f)) (live:=(A.sin f).bE.map (·.1)) (NP jN) (fun id ab=>(Xp ab).imp (fun h=>h) fun h=>⟨_,h,vB _ (by omega)⟩) S hA hE hm iP
  exact ⟨I,β',x,y,z⟩
theorem Inv.reshape {E:FuncId→Bool} {G:Nat→V} {n m:Nat} {a:Act} {st:St} {S:Shape} {ds:List V} (h:Inv P E G B M w0 μ hp0 n a w st) (hs:jb m S st=some ds) (hm: ∀id blk,hp0 id=some blk→id<m):Inv P E G B M w0 μ hp0 n a w (bd S ds):=by
 obtain ⟨I,β,S1,hA,hE⟩:=h
 obtain ⟨r1,r2,_,r4⟩:=AM.reshape hs S1
 refine ⟨I,β,r1,⟨fun k=>r2 k _ (hA.sl k),hA.size,hA.defers,hA.aD⟩,⟨hE.cY,hE.bQ,fun id blk ab=> ?_,fun id blk blk' b ab bu hd hb=> ?_⟩⟩
 ·obtain ⟨qf,k1,k2,k3⟩:=hE.blk id blk ab
  obtain ⟨_,hle,_⟩:=Mw hs
  have hl:=hm id blk ab
  obtain ⟨bK,U⟩: ∃bK,(bd S ds).hp id=some bK:=by
   simp only[bd,mk,gA]
   exact ⟨_,bq (by rw[CX];omega)⟩
  by_cases hd:bK= .dead
  ·subst hd
   exact ⟨_,U,by cases blk<;>trivial,fun h=>absurd rfl h⟩
  ·obtain ⟨gp,e1,e2,_⟩:=r4 id bK U hd
   rw[k1] at e1;cases e1
   exact ⟨_,U,an.le_trans k2 e2,fun _=>k3 (fun e=>hd (an.oD (e▸e2)))⟩
 ·obtain ⟨gp,e1,e2,_⟩:=r4 id blk' bu hd
  exact hE.size id blk gp b ab e1 (fun e=>hd (an.oD (e▸e2))) hb
theorem ky.here (h:ky P A C) (f:Nat) (id:Nat):ky P (A.here f id) C:=by
 intro key ds es hh
 obtain ⟨fn,c,h1,U,h3⟩:=h key ds es hh
 refine ⟨fn,c,h1,U,fun w I μ vals a g b d=>(h3 w I μ vals a g b d).mono fun e w' hx=> ?_⟩
 obtain ⟨v,I2,bM,q1,q2⟩:=hx
 exact ⟨v,I2,bM,q1,⟨q2.vn,q2.le,q2.res⟩⟩
theorem Xr {a b:Out} (h:BH a b=true):a=b:=by
 cases a<;>cases b<;>simp[BH] at h<;>first|rfl|(subst h;rfl)
theorem NQ {m:Nat} {r:Out × St}: ∀{l:List (Out × Shape)} {j:Nat} {e:Nat × List V},ways m j l r=some e→j≤e.1
 | [],j,e,h=>by cases h
 | (o,S)::l,j,e,h=>by
  simp only[ways] at h
  split at h
  ·cases h;exact bX _
  ·have:=NQ h;omega
theorem Ho {m:Nat} {o:Out} {s:St} {out:Out} {st':St}: ∀{l:List (Out × Shape)} {k:Nat} {e:Nat × List V},ways m k l (o,s)=some e→lA k l e.1 e.2 (fun o st=>some (o,st))=some (out,st')→
  out=o∧∃S,jb m S s=some e.2∧st'=bd S e.2
 | [],k,e,h,_=>by cases h
 | (o',S)::l,k,e,h,U=>by
  simp only[ways] at h
  split at h
  ·rename_i ds hx
   cases h
   cases ho:BH o' o with
   | false=>rw[ho] at hx;cases hx
   | true=>
    rw[ho] at hx
    have:=Xr ho
    subst this
    cases l with
    | nil=>
     simp only[lA,dC,jw] at U
     exact ⟨U.1.symm,S,hx,U.2.symm⟩
    | cons p l=>
     simp only[lA,iY,cond_true,dC,jw] at U
     exact ⟨U.1.symm,S,hx,U.2.symm⟩
  ·have oK:=NQ h
   cases l with
   | nil=>cases h
   | cons p l=>
    have bt:Nat.beq e.1 k=false:=by
     cases hb:Nat.beq e.1 k with
     | false=>rfl
     | true=>rw[aP] at hb;omega
    simp only[lA,bt,cond_false] at U
    exact Ho h U
theorem Xs (hC:ky P A C) (hP:iv P A) (mN:P.follows .mixedOrders=true) {f n m:Nat} (hm: ∀id blk,hp0 id=some blk→id<m) (iP: ∀id e es aq,hp0 id=some (.nest e es aq)→∀k,br aq k=0):
  ∀(c:Code) {st st':St} {out:Out} {Q:Exit→Act→World→Prop} {a:Act} {w:World},exec P A C f n m c st=some (out,st')→Inv P A.idle A.aD B M w0 μ hp0 n a w st→
   (∀a' w',Inv P A.idle A.aD B M w0 μ hp0 n a' w' st'→Q (vA out) a' w')→c.wp P Q a w:=by
 intro c
 induction c with
 | skip=>
  intro st st' out Q a w h hI hQ
  simp only[exec,dC,jw] at h
  obtain ⟨rfl,rfl⟩:=h
  exact wp_skip (hQ a w hI)
 | exit id=>
  intro st st' out Q a w h hI hQ
  simp only[exec,dC,jw] at h
  obtain ⟨rfl,rfl⟩:=h
  exact wp_exit (hQ a w hI)
 | ret=>
  intro st st' out Q a w h hI hQ
  simp only[exec,dC,jw] at h
  obtain ⟨rfl,rfl⟩:=h
  exact wp_ret (hQ a w hI)
 | region id ops draw=>
  intro st st' out Q a w h hI hQ
  simp only[exec] at h
  obtain ⟨iy,h1,U⟩:=bind_some h
  simp only[dC,jw] at U
  obtain ⟨rfl,rfl⟩:=U
  obtain ⟨I,β,S,hA,hE⟩:=hI
  refine Xh (hC.here f id) (hP.here f id) mN h1 S hA fun a' w' I' β' k1 k2 k3=> ?_
  obtain ⟨I2,l1,l2,l3⟩:=NA (m:=m) (pur:=A.pur f id) k2 k3
  have Xt:=(hE.trans k1.CE).trans l1.CE
  exact hQ a' w' (Inv.canon ⟨I2,β',l2,l3,Xt⟩ hm iP)
 | seq x y hY hZ=>
  intro st st' out Q a w h hI hQ
  simp only[exec] at h
  obtain ⟨⟨o1,iy⟩,h1,U⟩:=bind_some h
  refine wp_seq (hY h1 hI fun a' w' jl=> ?_)
  cases o1 with
  | norm=>exact hZ U jl hQ
  | exit id=>
   simp only[dC,jw] at U
   obtain ⟨rfl,rfl⟩:=U
   exact hQ a' w' jl
  | ret=>
   simp only[dC,jw] at U
   obtain ⟨rfl,rfl⟩:=U
   exact hQ a' w' jl
 | cond c x y hY hZ=>
  intro st st' out Q a w h hI hQ
  cases c with
  | tmp t=>
   have go: ∀{st st':St} {out:Out} {Q:Exit→Act→World→Prop} {a:Act} {w:World},(match st.sl t with
     | .bool b=>(bif b then exec P A C f n m x st else exec P A C f n m y st).bind fun r=>
      match r.1 with
      | .norm=>some (.norm,AM.canon m (A.join f t) r.2)
      | _=>some r
     | _=>none)=some (out,st')→Inv P A.idle A.aD B M w0 μ hp0 n a w st→(∀a' w',Inv P A.idle A.aD B M w0 μ hp0 n a' w' st'→Q (vA out) a' w')→(Code.cond (.tmp t) x y).wp P Q a w:=by
    intro st st' out Q a w h hI hQ
    cases hs:st.sl t<;>rw[hs] at h<;>simp only at h<;>first|(cases h;done)|skip
    rename_i b
    obtain ⟨⟨o1,iy⟩,h1,U⟩:=bind_some h
    obtain ⟨I,β,S,hA,hE⟩:=hI
    have ey:a.eval (.tmp t)= .bool b:=by
     have:=M6 hA hs
     simp[Act.eval,this]
    have fin: ∀a' w',Inv P A.idle A.aD B M w0 μ hp0 n a' w' iy→Q (vA o1) a' w':=by
     intro a' w' jl
     cases o1 with
     | norm=>
      simp only[dC,jw] at U
      obtain ⟨rfl,rfl⟩:=U
      exact hQ a' w' (jl.canon hm iP)
     | exit id=>
      simp only[dC,jw] at U
      obtain ⟨rfl,rfl⟩:=U
      exact hQ a' w' jl
     | ret=>
      simp only[dC,jw] at U
      obtain ⟨rfl,rfl⟩:=U
      exact hQ a' w' jl
    refine wp_cond ey ?_
    cases b with
    | true=>exact hY h1 ⟨I,β,S,hA,hE⟩ fin
    | false=>exact hZ h1 ⟨I,β,S,hA,hE⟩ fin
   simp only[exec] at h
   split at h
   ·exact go h hI hQ
   ·obtain ⟨ds,h1,U⟩:=bind_some h
    obtain ⟨e,h3,h4⟩:=bind_some U
    obtain ⟨⟨o1,s1⟩,h5,h6⟩:=bind_some h3
    obtain ⟨rfl,S',k1,rfl⟩:=Ho h6 h4
    exact go h5 (hI.reshape h1 hm) fun a' w' jl=>hQ a' w' (jl.reshape k1 hm)
  | const v=>
   cases v with
   | bool b=>
    simp only[exec] at h
    refine wp_cond (t:=b) rfl ?_
    cases b with
    | true=>exact hY h hI hQ
    | false=>exact hZ h hI hQ
   | _=>simp only[exec] at h;cases h
  | _=>simp only[exec] at h;cases h
 | block id c ih=>
  intro st st' out Q a w h hI hQ
  simp only[exec] at h
  obtain ⟨⟨o1,iy⟩,h1,U⟩:=bind_some h
  refine wp_block (ih h1 hI fun a' w' jl=> ?_)
  cases o1 with
  | norm=>
   simp only[dC,jw] at U
   obtain ⟨rfl,rfl⟩:=U
   exact hQ a' w' (jl.canon hm iP)
  | exit aC=>
   simp only at U
   cases hb:Nat.beq aC id with
   | true=>
    rw[hb] at U
    simp only[cond_true,dC,jw] at U
    obtain ⟨rfl,rfl⟩:=U
    rw[aP] at hb
    simp only[vA,Exit.inBlock,hb,dj]
    exact hQ a' w' (jl.canon hm iP)
   | false=>
    rw[hb] at U
    simp only[cond_false,dC,jw] at U
    obtain ⟨rfl,rfl⟩:=U
    have bt:aC≠id:=fun e=>by rw[e,iY] at hb;cases hb
    simp only[vA,Exit.inBlock,bt,gk]
    exact hQ a' w' jl
  | ret=>
   simp only[dC,jw] at U
   obtain ⟨rfl,rfl⟩:=U
   exact hQ a' w' jl
 | loop c ih=>
  intro st st' out Q a w h hI hQ
  simp only[exec] at h
  split at h
  ·cases h
  ·rename_i S hS
   obtain ⟨ds,h1,U⟩:=bind_some h
   obtain ⟨e,h3,h4⟩:=bind_some U
   obtain ⟨k,hk⟩:=uD h3
   refine Xq (J:=fun k a w=> ∃ds,Inv P A.idle A.aD B M w0 μ hp0 n a w (bd S.1 ds)∧eV (fun ds=>mA m S.1 S.2 (exec P A C f n m c (bd S.1 ds))) k ds=some e) (fun a w ⟨s,_,h⟩=>by cases h) (fun k a w ⟨ds,hs,hk⟩=> ?_) ⟨ds,hI.reshape h1 hm,hk⟩
   simp only[eV] at hk
   obtain ⟨y,h5,h6⟩:=bind_some hk
   unfold mA at h5
   obtain ⟨⟨o1,s1⟩,h7,h8⟩:=bind_some h5
   refine ih h7 hs fun a' w' jl=> ?_
   have NR: ∀{e':Nat × List V},ways m 0 S.2 (o1,s1)=some e'→e'=e→Q (vA o1) a' w':=by
    intro e' q1 q2
    subst q2
    obtain ⟨rfl,S',k1,rfl⟩:=Ho q1 h4
    exact hQ a' w' (jl.reshape k1 hm)
   cases o1 with
   | norm=>
    obtain ⟨Xu,q1,q2⟩:=bind_some h8
    cases q2
    exact ⟨Xu,jl.reshape q1 hm,h6⟩
   | exit id=>
    obtain ⟨e',q1,q2⟩:=bind_some h8
    cases q2
    cases h6
    exact NR q1 rfl
   | ret=>
    obtain ⟨e',q1,q2⟩:=bind_some h8
    cases q2
    cases h6
    exact NR q1 rfl
 | _=>intro st st' out Q a w h;simp only[exec] at h;cases h
end
section
variable {P:Program} {A:cm} {w w':World} {I I' I2:Nat→Prop} {μ β β' bM:Nat→Option Nat} {hp hp' hp0:Nat→Option an} {C:ag} {B:Nat} {M:Nat→Prop} {w0:Start}
theorem CY (S:aE P w I β hp B M w0) {a:Act} {st:St} (hs:ki P w I β hp a st.sl): ∀{l:List ResultVar} {xs:List V} {rd:List Nat},(sF P st l).run C hp=some (xs,rd)→
  ∃vs:List Value,(l.mapM fun| .tmp t=>Pure.pure (a.tmps.getD t undef)| .cell x t=>do loadVar t (←asAddr (a.tmps.getD x undef)):Sem (List Value)).run P w= .ok vs w∧vs.length=xs.length∧l.length=xs.length∧
   ∀(j:Nat) v x,vs[j]? =some v→xs[j]? =some x→ao P w I β hp v x
 | [],xs,rd,h=>by
  cases h
  exact ⟨[],by simp,rfl,rfl,by simp⟩
 | .tmp t::l,xs,rd,h=>by
  simp only[sF] at h
  obtain ⟨ys,l1,l2,h1,U⟩:=kj h
  have h3:=FX U
  subst h3
  obtain ⟨vs,a1,a2,a3,a4⟩:=CY S hs h1
  refine ⟨a.tmps.getD t undef::vs,by simp only[List.mapM_cons,Sem.run_bind,Sem.run_pure,Result.andThen_ok,a1],by simp[a2],by simp[a3],fun j v x hj hx=> ?_⟩
  cases j with
  | zero=>simp at hj hx;subst hj;subst hx;have:=hs t;simpa using this
  | succ j=>exact a4 j v x (by simpa using hj) (by simpa using hx)
 | .cell y t::l,xs,rd,h=>by
  simp only[sF] at h
  obtain ⟨r,l1,l2,h1,U⟩:=kj h
  obtain ⟨ys,l3,l4,h3,h4⟩:=kj U
  have h5:=FX h4
  subst h5
  obtain ⟨v0,b1,b2,b3,ad,b4⟩:=Ll S (hs y) h1
  obtain ⟨vs,a1,a2,a3,a4⟩:=CY S hs h3
  refine ⟨v0::vs,?_,by simp[a2],by simp[a3],fun j v x hj hx=> ?_⟩
  ·have e1:(do loadVar t (←asAddr (a.tmps.getD y undef)):Sem Value).run P w= .ok v0 w:=by
    rw[b4] at b1⊢
    simpa[Instr.loadAt,Instr.sureAddr,asAddr] using b1
   simp only[List.mapM_cons,Sem.run_bind,e1,Result.andThen_ok,a1,Sem.run_pure]
  cases j with
  | zero=>simp at hj hx;subst hj;subst hx;exact b2
  | succ j=>exact a4 j v x (by simpa using hj) (by simpa using hx)
def tq:List Value→Value
 | [v]=>v
 | l=> .tuple l.toArray
theorem Xv {vs:List Value} (h:vs.length≠1):tq vs= .tuple vs.toArray:=by
 match vs,h with
 | [],_=>rfl
 | [v],h=>simp at h
 | v::v2::l,_=>rfl
theorem Xw {fn:Func} {a:Act} {st:St} (S:aE P w I β st.hp B M w0) (hs:ki P w I β st.hp a st.sl) {xs:List V} {rd:List Nat} (h:(sF P st fn.results.toList).run C st.hp=some (xs,rd)):
  ∃vs:List Value,(results fn a.tmps).run P w= .ok (tq vs) w∧vs.length=xs.length∧
   ∀(j:Nat) v x,vs[j]? =some v→xs[j]? =some x→ao P w I β st.hp v x:=by
 obtain ⟨vs,a1,a2,_,a4⟩:=CY S hs h
 refine ⟨vs,?_,a2,a4⟩
 unfold results
 rw[Array.mapM_eq_mapM_toList]
 simp only[map_eq_pure_bind,bind_assoc,pure_bind,Sem.run_bind]
 refine (congrArg (fun r:Result (List Value)=>r.andThen _) a1).trans ?_
 simp only[Result.andThen_ok,Sem.run_pure]
 match vs with
 | []=>simp[tq]
 | [v]=>simp[tq]
 | v::v2::l=>simp[tq]
theorem NS: ∀{args:List V} {i k:Nat},dp (mB i args) k=if i≤k then args[k-i]? else none
 | [],i,k=>by simp[mB,dp]
 | v::vs,i,k=>by
  simp only[mB,dp]
  cases hb:Nat.beq k i with
  | true=>
   rw[aP] at hb
   subst hb
   simp
  | false=>
   have bt:k≠i:=fun e=>by rw[e,iY] at hb;cases hb
   simp only[cond_false,NS]
   by_cases h:i≤k
   ·rw[ak (by omega),ak h]
    obtain ⟨d,rfl⟩: ∃d,k=i+1+d:=⟨k-(i+1),by omega⟩
    rw[show i+1+d-(i+1)=d by omega,show i+1+d-i=d+1 by omega]
    rfl
   ·rw[ai (by omega),ai h]
theorem Hp: ∀{l:List (Nat × VS)} {ds:List V} {i k:Nat},jD i l=true→dp (eK l ds) k=if i≤k then (eW (l.map (·.2)) ds)[k-i]? else none
 | [],ds,i,k,_=>by simp[eK,eW,dp]
 | (q,s)::l,ds,i,k,h=>by
  simp only[jD,aI,aP] at h
  obtain ⟨rfl,h⟩:=h
  simp only[eK,dp,cG,eW]
  cases hb:Nat.beq k q with
  | true=>
   rw[aP] at hb
   subst hb
   simp
  | false=>
   have bt:k≠q:=fun e=>by rw[e,iY] at hb;cases hb
   simp only[cond_false]
   rw[Hp h]
   by_cases h:q≤k
   ·rw[ak (by omega),ak h]
    obtain ⟨d,rfl⟩: ∃d,k=q+1+d:=⟨k-(q+1),by omega⟩
    rw[show q+1+d-(q+1)=d by omega,show q+1+d-q=d+1 by omega]
    rfl
   ·rw[ai (by omega),ai h]
theorem NT: ∀{l:List (Nat × VS)} {ds:List V},(eK l ds).map (·.2)=eW (l.map (·.2)) ds
 | [],_=>rfl
 | (q,s)::l,ds=>by simp only[eK,cG,eW,NT]
theorem Hq: ∀{l:List VS} {ds:List V},(eW l ds).length=l.length
 | [],_=>rfl
 | s::l,ds=>by simp only[eW,List.length_cons,Hq]
theorem NU: ∀{l:List (Nat × VS)} {ds:List V},(eK l ds).length=l.length
 | [],_=>rfl
 | (q,s)::l,ds=>by simp only[eK,List.length_cons,NU]
theorem Xx {vals:List Value} {l:List (Nat × V)} (hl:vals.length=l.length) (h: ∀(j:Nat) v y,vals[j]? =some v→(l.map (·.2))[j]? =some y→ao P w I β hp v y):ao P w I β hp (tq vals) (oB l):=by
 match l,hl,h with
 | [],hl,h=>
  obtain rfl:vals=[]:=kI hl
  exact .aW rfl fun j v x _ hx=>by simp at hx
 | [(k,y)],hl,h=>
  match vals,hl,h with
  | [v],_,h=>exact h 0 v y rfl rfl
 | a::b::l,hl,h=>
  have bt:vals.length≠1:=by rw[hl];simp
  rw[Xv bt]
  simp only[oB]
  exact .aW (by simp[hl]) fun j v y hj hy=>h j v y (by simpa using hj) hy
theorem Xy {l:List BS} {ds:List V} {j:Nat} {e:TypeId} {es:List V} {aq:List Nat} (h:(eg l ds)[j]? =some (.nest e es aq)) (k:Nat):br aq k=0:=by
 obtain ⟨b,eO,_,U⟩:=G5 h
 cases b<;>simp only[fh] at U<;>cases U
 match k with
 | 0=>rfl
 | 1=>rfl
 | 2=>rfl
 | _+3=>rfl
theorem Xz {f n m:Nat} {fn:Func} {a:Act} {st:St} {es:List V} {rd:List Nat} (hm: ∀id blk,hp0 id=some blk→id<m) (iP: ∀id e es aq,hp0 id=some (.nest e es aq)→∀k,br aq k=0)
  (hI:Inv P A.idle A.aD B M w0 μ hp0 n a w st) (nU:jD 0 (A.fR f).bE=true) (aR:(A.fR f).bE.length=fn.results.size) (h:(uS P A f fn m st).run C st.hp=some (es,rd)):
  ∃v I2 bM,(results fn a.tmps).run P w= .ok v w∧aE P w I2 bM (bd (A.so f es) (A.lv f es)).hp B M w0∧ku w0.w w0.I μ hp0 w I2 bM (bd (A.so f es) (A.lv f es)).hp∧ao P w I2 bM (bd (A.so f es) (A.lv f es)).hp v (oB (eK (A.so f es).bE (A.lv f es))):=by
 unfold uS at h
 obtain ⟨xs,l1,l2,h1,U⟩:=kj h
 obtain ⟨I,β,S,hA,hE⟩:=hI
 obtain ⟨vals,e1,e2,e3⟩:=Xw S hA.sl h1
 have e4:fn.results.size=xs.length:=by
  obtain ⟨_,_,_,q,_⟩:=CY S hA.sl h1
  simpa using q
 have fin: ∀(Sx:Shape) (es:List V),jD 0 Sx.bE=true→Sx.bE.length=fn.results.size→jb m Sx (canon m (List.range xs.length) (freeze m (A.sx f) ⟨iJ (mB 0 xs),st.hp,st.nb⟩))=some es→
   ∃v I2 bM,(results fn a.tmps).run P w= .ok v w∧aE P w I2 bM (bd Sx es).hp B M w0∧ku w0.w w0.I μ hp0 w I2 bM (bd Sx es).hp∧ao P w I2 bM (bd Sx es).hp v (oB (eK Sx.bE es)):=by
  intro Sx es nU aR tt
  have XA:iw P A.idle A.aD w I β vals.length ⟨vals.toArray,[]⟩ ⟨iJ (mB 0 xs),st.hp,st.nb⟩:=by
   refine ⟨fun k=> ?_,by simp,by simp,hA.aD⟩
   change ao P w I β st.hp _ (iJ (mB 0 xs) k)
   unfold iJ
   rw[NS]
   simp only[j7,dj,Nat.sub_zero]
   cases hk:xs[k]? with
   | none=>exact .undef
   | some x=>
    have gT:k<vals.length:=by rw[e2];exact (bj.1 hk).1
    have:=e3 k vals[k] x (bq gT) hk
    have e5:(vals.toArray).getD k undef=vals[k]:=by simp[gT]
    rw[Option.getD_some]
    exact e5▸this
  obtain ⟨I2,k1,k2,k3⟩:=NA (st:=⟨iJ (mB 0 xs),st.hp,st.nb⟩) (m:=m) (pur:=A.sx f) S XA
  have XB:Inv P A.idle A.aD B M w0 μ hp0 vals.length ⟨vals.toArray,[]⟩ w (freeze m (A.sx f) ⟨iJ (mB 0 xs),st.hp,st.nb⟩):=⟨I2,β,k2,k3,hE.trans k1.CE⟩
  obtain ⟨I3,NV,q1,q2,q3⟩:=(XB.canon (live:=List.range xs.length) hm iP).reshape tt hm
  refine ⟨tq vals,I3,NV,e1,q1,q3,Xx (by rw[NU,aR,e4,e2]) fun j v y hj hy=> ?_⟩
  have hv:=q2.sl j
  have bR:=(bj.1 hj).1
  have e5:(vals.toArray).getD j undef=v:=by
   have:=(bj.1 hj).2
   simp[bR,this]
  change ao P w I3 NV _ ((vals.toArray).getD j undef) (iJ (eK Sx.bE _) j) at hv
  rw[e5] at hv
  unfold iJ at hv
  rw[Hp nU] at hv
  simp only[j7,dj,Nat.sub_zero] at hv
  rw[NT] at hy
  rw[hy] at hv
  exact hv
 unfold cm.so cm.lv
 cases bU:A.alt f with
 | none=>
  rw[bU] at U
  simp only at U⊢
  split at U
  ·rename_i eO tt
   have:=aM U
   subst this
   exact fin _ _ nU aR tt
  ·cases U
 | some S2=>
  rw[bU] at U
  simp only at U⊢
  split at U
  ·rename_i eO tt
   have:=aM U
   subst this
   exact fin _ _ nU aR tt
  ·split at U
   ·rename_i eO tt
    obtain ⟨hc,h3⟩:=aF U
    simp only[aI,aP] at hc
    have:=aM h3
    subst this
    exact fin _ _ hc.1 hc.2 tt
   ·cases U
theorem XC (hC:ky P A C) (hP:iv P A) (mN:P.follows .mixedOrders=true):ky P A (pL P A C):=by
 intro f ds es h
 unfold pL at h
 cases hf:P.funcs[A.aZ f]? with
 | none=>rw[hf] at h;cases h
 | some fn=>
  rw[hf] at h
  simp only at h
  cases hb:fn.body with
  | none=>rw[hb] at h;cases h
  | some c=>
   rw[hb] at h
   simp only at h
   cases hc:(jD 0 (A.sin f).bE&&(Nat.ble (A.sin f).bE.length fn.ntmps&&((A.sin f).ok&&(jD 0 (A.fR f).bE&&(Nat.beq (A.fR f).bE.length fn.results.size&&pJ (nD (A.sin f).aY.length (A.mv f))))))) with
   | false=>rw[hc] at h;cases h
   | true=>
    rw[hc] at h
    simp only[cond_true] at h
    simp only[aI,aP,dK] at hc
    obtain ⟨jL,hnt,_,vu,aR,jN⟩:=hc
    obtain ⟨⟨out,st'⟩,h1,U⟩:=bind_some h
    refine ⟨fn,c,rfl,hb,fun w I μ vals hH XD hl hv=> ?_⟩
    have XF:(∀id,out≠ .exit id)∧∃rd,(uS P A f fn (A.sin f).aY.length st').run C st'.hp=some (es,rd):=by
     cases out with
     | exit id=>cases U
     | norm=>
      refine ⟨by simp,?_⟩
      simp only[xz] at U
      obtain ⟨⟨x,rd⟩,e1,e2⟩:=U
      simp only at e2
      subst e2
      exact ⟨rd,e1⟩
     | ret=>
      refine ⟨by simp,?_⟩
      simp only[xz] at U
      obtain ⟨⟨x,rd⟩,e1,e2⟩:=U
      simp only at e2
      subst e2
      exact ⟨rd,e1⟩
    obtain ⟨bt,rd,GW⟩:=XF
    refine calls_of_wp_defers hf hb ?_
    have hm: ∀id blk,(bd (A.sin f) ds).hp id=some blk→id<(A.sin f).aY.length:=by
     intro id blk ab
     simp only[bd,mk,gA] at ab
     have:=(bj.1 ab).1
     rwa [CX] at this
    have iP: ∀id e es aq,(bd (A.sin f) ds).hp id=some (.nest e es aq)→∀k,br aq k=0:=by
     intro id e es aq ab k
     simp only[bd,mk,gA] at ab
     exact Xy ab k
    refine Xs (w0:=⟨w,I⟩) (μ:=μ) (hp0:=(bd (A.sin f) ds).hp) (B:=w.heap.size) (M:=nS P w μ (bd (A.sin f) ds).hp) hC hP mN hm iP c h1 ?_ ?_
    ·refine Inv.enter jN ?_ hm iP fun p hp=>by
      simp only[bd,mk,gA]
      rw[List.getElem?_eq_none_iff,CX]
      exact hp
     refine ⟨I,μ,⟨hH,fun _ _ _=>rfl,bX _,fun b h=> .inl h,⟨rfl,rfl⟩⟩,⟨fun k=> ?_,?_,by simp,XD⟩,(Le.refl (P:=P) w I μ _).CE⟩
     ·change ao P w I μ _ _ (iJ (eK (A.sin f).bE ds) k)
      unfold iJ
      rw[Hp jL]
      simp only[j7,dj,Nat.sub_zero]
      cases hk:(eW ((A.sin f).bE.map (·.2)) ds)[k]? with
      | none=>exact .undef
      | some x=>
       have gT:k<vals.length:=by
        have:=(bj.1 hk).1
        rw[Hq,bm] at this
        rw[hl];exact this
       have:=hv k vals[k] x (bq gT) hk
       have e1:(vals.toArray++Array.replicate (fn.ntmps-vals.toArray.size) undef).getD k undef=vals[k]:=by
        simp[Array.getElem?_append,gT]
       rw[Option.getD_some]
       exact e1▸this
     ·simp
      omega
    ·intro a' w' hI
     obtain ⟨v,I2,bM,q1,q2,q3,q4⟩:=Xz hm iP hI vu aR GW
     obtain ⟨_,_,_,hA,_⟩:=hI
     cases out with
     | exit id=>exact absurd rfl (bt id)
     | norm=>exact Hb hP q1 ⟨v,I2,bM,rfl,q2,q3,q4⟩ _ hA.defers
     | ret=>exact Hb hP q1 ⟨v,I2,bM,rfl,q2,q3,q4⟩ _ hA.defers
theorem NW (hP:iv P A) (mN:P.follows .mixedOrders=true): ∀n,ky P A (kQ P A n)
 | 0=>fun _ _ _ h=>by cases h
 | n+1=>XC (NW hP mN n) hP mN
theorem XG (hP:iv P A) (mN:P.follows .mixedOrders=true):ky P A (Call P A):=by
 intro f ds es h
 have hn: ∃n,kQ P A n f ds=some es:=by
  unfold Call at h
  split at h
  ·rename_i hex
   have:=hex.choose_spec.choose_spec
   rw[cU h] at this
   exact ⟨_,this⟩
  ·cases h
 obtain ⟨n,hn⟩:=hn
 exact NW hP mN n f ds es hn
end
section
variable {P:Program} {A:cm} {C:ag} {D:Nat→ag}
def y4 (C:ag) (D:Nat→ag):Prop:= ∀f a r,C f a=some r→∃n,∀k,n≤k→D k f a=some r
theorem oS {α:Type} (h:y4 C D) {hp:Nat→Option an}: ∀{p:Rd α} {r:α × List Nat},p.run C hp=some r→∃n,∀k,n≤k→p.run (D k) hp=some r
 | .ret a,r,e=>⟨0,fun _ _=>e⟩
 | .fail,r,e=>by cases e
 | .get id q,r,e=>by
  obtain ⟨x,h1,U⟩:=bind_some e
  obtain ⟨n,hn⟩:=oS h h1
  exact ⟨n,fun k hk=>by simp only[Rd.run,hn k hk,Option.bind_some];exact U⟩
 | .opt o q,r,e=>by
  obtain ⟨x,h1,U⟩:=bind_some e
  obtain ⟨n,hn⟩:=oS h U
  exact ⟨n,fun k hk=>by simp only[Rd.run,h1,Option.bind_some];exact hn k hk⟩
 | .live id ok q,r,e=>by
  simp only[Rd.run] at e
  cases hk:ok (fD (hp id)) with
  | false=>rw[hk] at e;cases e
  | true=>
   rw[hk] at e
   obtain ⟨x,h1,U⟩:=bind_some e
   obtain ⟨n,hn⟩:=oS h h1
   exact ⟨n,fun k lN=>by simp only[Rd.run,hk,cond_true,hn k lN,Option.bind_some];exact U⟩
 | .aB b q,r,e=>by
  obtain ⟨h1,U⟩:=aF e
  obtain ⟨n,hn⟩:=oS h U
  exact ⟨n,fun k hk=>by simp only[Rd.run,h1,cond_true];exact hn k hk⟩
 | .call f a q,r,e=>by
  obtain ⟨x,h1,U⟩:=bind_some e
  obtain ⟨n1,jL⟩:=h f a x h1
  obtain ⟨n2,vu⟩:=oS h U
  exact ⟨max n1 n2,fun k hk=>by simp only[Rd.run,jL k (by omega),Option.bind_some];exact vu k (by omega)⟩
 | .alt true x y,r,e=>oS (p:=x) h e
 | .alt false x y,r,e=>oS (p:=y) h e
theorem XH (h:y4 C D) {n i nb:Nat} {ops:Array Oper} {o:Oper} {st:St} {r:St × List Nat × List Nat} (e:gn P A C n ops i o nb st=some r): ∃N,∀k,N≤k→gn P A (D k) n ops i o nb st=some r:=by
 unfold gn at e
 have go:(((eX P A st.sl i (nb+64*i) o).run C st.hp).bind fun r=>some ((⟨gJ st.sl o.dst r.1.v,bB st.hp r.1.upd,st.nb⟩:St),pK r.2 r.1.upd,fi st.hp r.1.upd))=some r→
   ∃N,∀k,N≤k→(((eX P A st.sl i (nb+64*i) o).run (D k) st.hp).bind fun r=>some ((⟨gJ st.sl o.dst r.1.v,bB st.hp r.1.upd,st.nb⟩:St),pK r.2 r.1.upd,fi st.hp r.1.upd))=some r:=by
  intro e
  obtain ⟨x,h1,U⟩:=bind_some e
  obtain ⟨N,hN⟩:=oS h h1
  exact ⟨N,fun k hk=>by rw[hN k hk];exact U⟩
 unfold gn
 cases hd:rf o n with
 | false=>rw[hd] at e;cases e
 | true=>
  rw[hd] at e
  simp only[cond_true] at e⊢
  cases hg:o.guard with
  | none=>rw[hg] at e;exact go e
  | some gw=>
   obtain ⟨g,want⟩:=gw
   rw[hg] at e
   simp only at e⊢
   cases k9:(ops[g]?).bind (·.dst) with
   | none=>rw[k9] at e;cases e
   | some d=>
    rw[k9] at e
    simp only at e⊢
    cases lM:kL (st.sl d) with
    | none=>rw[lM] at e;cases e
    | some ob=>
    rw[lM] at e
    cases ob with
    | none=>exact ⟨0,fun _ _=>e⟩
    | some b=>
    simp only at e⊢
    cases hb:b==want with
    | true=>rw[hb] at e;exact go e
    | false=>rw[hb] at e;exact ⟨0,fun _ _=>e⟩
theorem NX (h:y4 C D) {n nb:Nat} {ops:Array Oper}: ∀{l:List (Nat × Oper)} {st:St} {log:Log} {r:St × Log},oC P A C n ops nb l st log=some r→∃N,∀k,N≤k→oC P A (D k) n ops nb l st log=some r
 | [],st,log,r,e=>⟨0,fun _ _=>e⟩
 | (i,o)::l,st,log,r,e=>by
  obtain ⟨x,h1,U⟩:=bind_some e
  obtain ⟨N1,nV⟩:=XH h h1
  obtain ⟨N2,qk⟩:=NX h U
  exact ⟨max N1 N2,fun k hk=>by simp only[oC,nV k (by omega),Option.bind_some];exact qk k (by omega)⟩
theorem NY {X R:Type} {step:X→Option (X ⊕ R)} {stepD:Nat→X→Option (X ⊕ R)} (hs: ∀x y,step x=some y→∃N,∀k,N≤k→stepD k x=some y): ∀(n:Nat) (x:X) (r:R),eV step n x=some r→∃N,∀k,N≤k→eV (stepD k) n x=some r
 | 0,x,r,e=>by cases e
 | n+1,x,r,e=>by
  simp only[eV] at e⊢
  obtain ⟨y,h1,U⟩:=bind_some e
  obtain ⟨N1,nV⟩:=hs x y h1
  cases y with
  | inl z=>
   obtain ⟨N2,qk⟩:=NY hs n z r U
   exact ⟨max N1 N2,fun k hk=>by rw[nV k (by omega)];exact qk k (by omega)⟩
  | inr q=>exact ⟨N1,fun k hk=>by rw[nV k hk];exact U⟩
theorem XI (h:y4 C D) {f n m:Nat}: ∀(c:Code) {st:St} {r:Out × St},exec P A C f n m c st=some r→∃N,∀k,N≤k→exec P A (D k) f n m c st=some r:=by
 intro c
 induction c with
 | skip=>exact fun e=>⟨0,fun _ _=>e⟩
 | exit id=>exact fun e=>⟨0,fun _ _=>e⟩
 | ret=>exact fun e=>⟨0,fun _ _=>e⟩
 | region id ops draw=>
  intro st r e
  simp only[exec] at e⊢
  obtain ⟨x,h1,U⟩:=bind_some e
  obtain ⟨y,h3,h4⟩:=bind_some h1
  obtain ⟨N,hN⟩:=NX h h3
  refine ⟨N,fun k hk=> ?_⟩
  have:xX P (A.here f id) (D k) n ops draw st=some x:=by
   unfold xX
   rw[hN k hk]
   exact h4
  rw[this]
  exact U
 | seq x y hY hZ=>
  intro st r e
  simp only[exec] at e⊢
  obtain ⟨⟨o,s1⟩,h1,U⟩:=bind_some e
  obtain ⟨N1,nV⟩:=hY h1
  cases o with
  | norm=>
   obtain ⟨N2,qk⟩:=hZ U
   exact ⟨max N1 N2,fun k hk=>by rw[nV k (by omega)];exact qk k (by omega)⟩
  | exit id=>exact ⟨N1,fun k hk=>by rw[nV k hk];exact U⟩
  | ret=>exact ⟨N1,fun k hk=>by rw[nV k hk];exact U⟩
 | cond c x y hY hZ=>
  intro st r e
  cases c with
  | tmp t=>
   have go: ∀{st:St} {r:Out × St},(match st.sl t with
     | .bool b=>(bif b then exec P A C f n m x st else exec P A C f n m y st).bind fun r=>
      match r.1 with
      | .norm=>some (.norm,canon m (A.join f t) r.2)
      | _=>some r
     | _=>none)=some r→∃N,∀k,N≤k→(match st.sl t with
     | .bool b=>(bif b then exec P A (D k) f n m x st else exec P A (D k) f n m y st).bind fun r=>
      match r.1 with
      | .norm=>some (.norm,canon m (A.join f t) r.2)
      | _=>some r
     | _=>none)=some r:=by
    intro st r e
    cases hs:st.sl t<;>rw[hs] at e<;>simp only at e⊢ <;>first|(cases e;done)|skip
    rename_i b
    obtain ⟨x1,h1,U⟩:=bind_some e
    cases b with
    | true=>
     obtain ⟨N,hN⟩:=hY h1
     exact ⟨N,fun k hk=>by simp only[cond_true,hN k hk,Option.bind_some];exact U⟩
    | false=>
     obtain ⟨N,hN⟩:=hZ h1
     exact ⟨N,fun k hk=>by simp only[cond_false,hN k hk,Option.bind_some];exact U⟩
   simp only[exec] at e⊢
   split at e
   ·rename_i hS
    obtain ⟨N,hN⟩:=go e
    exact ⟨N,fun k hk=>hN k hk⟩
   ·rename_i S hS
    obtain ⟨ds,h1,U⟩:=bind_some e
    obtain ⟨e',h3,h4⟩:=bind_some U
    obtain ⟨r1,h5,h6⟩:=bind_some h3
    obtain ⟨N,hN⟩:=go h5
    refine ⟨N,fun k hk=> ?_⟩
    try rw[hS]
    simp only[h1,Option.bind_some]
    exact (congrArg (fun z:Option (Out × St)=>(z.bind fun r=>ways m 0 S.2 r).bind fun e=>lA 0 S.2 e.1 e.2 fun o st=>some (o,st)) (hN k hk)).trans (by simp only[Option.bind_some,h6];exact h4)
  | const v=>
   cases v with
   | bool b=>
    simp only[exec] at e⊢
    cases b with
    | true=>exact hY e
    | false=>exact hZ e
   | _=>simp only[exec] at e;cases e
  | _=>simp only[exec] at e;cases e
 | block id c ih=>
  intro st r e
  simp only[exec] at e⊢
  obtain ⟨x1,h1,U⟩:=bind_some e
  obtain ⟨N,hN⟩:=ih h1
  exact ⟨N,fun k hk=>by rw[hN k hk];exact U⟩
 | loop c ih=>
  intro st r e
  simp only[exec] at e⊢
  split at e
  ·cases e
  ·rename_i S hS
   obtain ⟨ds,h1,U⟩:=bind_some e
   obtain ⟨e',h3,h4⟩:=bind_some U
   obtain ⟨q,hq⟩:=uD h3
   obtain ⟨N,hN⟩:=NY (stepD:=fun k ds=>mA m S.1 S.2 (exec P A (D k) f n m c (bd S.1 ds))) (fun x y CZ=>by
    unfold mA at CZ⊢
    obtain ⟨z,h5,h6⟩:=bind_some CZ
    obtain ⟨N,hN⟩:=ih h5
    exact ⟨N,fun k hk=>by rw[hN k hk];exact h6⟩) q ds e' hq
   refine ⟨N,fun k hk=> ?_⟩
   try rw[hS]
   simp only[h1,Option.bind_some]
   rw[xE (hN k hk)]
   exact h4
 | _=>intro st r e;simp only[exec] at e;cases e
theorem Hr (h:y4 C D) {f:Nat} {ds es:List V} (e:pL P A C f ds=some es): ∃N,∀k,N≤k→pL P A (D k) f ds=some es:=by
 unfold pL at e⊢
 cases hf:P.funcs[A.aZ f]? with
 | none=>rw[hf] at e;cases e
 | some fn=>
  rw[hf] at e
  simp only at e⊢
  cases hb:fn.body with
  | none=>rw[hb] at e;cases e
  | some c=>
   rw[hb] at e
   simp only at e⊢
   cases hc:(jD 0 (A.sin f).bE&&(Nat.ble (A.sin f).bE.length fn.ntmps&&((A.sin f).ok&&(jD 0 (A.fR f).bE&&(Nat.beq (A.fR f).bE.length fn.results.size&&pJ (nD (A.sin f).aY.length (A.mv f))))))) with
   | false=>rw[hc] at e;cases e
   | true=>
    rw[hc] at e
    simp only[cond_true] at e⊢
    obtain ⟨⟨o,s1⟩,h1,U⟩:=bind_some e
    obtain ⟨N1,nV⟩:=XI h c h1
    cases o with
    | exit id=>cases U
    | norm=>
     simp only[xz] at U
     obtain ⟨x,e1,e2⟩:=U
     obtain ⟨N2,qk⟩:=oS h e1
     exact ⟨max N1 N2,fun k hk=>by rw[nV k (by omega)];simp only[Option.bind_some,qk k (by omega),Option.map_some,e2]⟩
    | ret=>
     simp only[xz] at U
     obtain ⟨x,e1,e2⟩:=U
     obtain ⟨N2,qk⟩:=oS h e1
     exact ⟨max N1 N2,fun k hk=>by rw[nV k (by omega)];simp only[Option.bind_some,qk k (by omega),Option.map_some,e2]⟩
theorem NZ: ∀n f a r,kQ P A n f a=some r→kQ P A (n+1) f a=some r
 | 0,f,a,r,h=>by cases h
 | n+1,f,a,r,h=>by
  obtain ⟨N,hN⟩:=Hr (C:=kQ P A n) (D:=fun _=>kQ P A (n+1)) (fun f a r h=>⟨0,fun _ _=>NZ n f a r h⟩) h
  exact hN N (bX _)
theorem Hs {n k:Nat} (hk:n≤k) {f:Nat} {a r:List V} (h:kQ P A n f a=some r):kQ P A k f a=some r:=by
 induction hk with
 | refl=>exact h
 | step _ ih=>exact NZ _ _ _ _ ih
theorem C2 {f:Nat} {a r:List V}:Call P A f a=some r↔∃n,kQ P A n f a=some r:=by
 constructor
 ·intro h
  unfold Call at h
  split at h
  ·rename_i hex
   have:=hex.choose_spec.choose_spec
   rw[cU h] at this
   exact ⟨_,this⟩
  ·cases h
 ·rintro ⟨n,hn⟩
  have hex: ∃n r,kQ P A n f a=some r:=⟨n,r,hn⟩
  unfold Call
  rw[qL hex]
  have U:=hex.choose_spec.choose_spec
  have h3:=Hs (Nat.le_max_left n hex.choose) hn
  have h4:=Hs (Nat.le_max_right n hex.choose) U
  rw[h3] at h4
  exact h4.symm
theorem XJ (f:Nat) (a:List V):Call P A f a=pL P A (Call P A) f a:=by
 apply Option.ext
 intro r
 constructor
 ·intro h
  obtain ⟨n,hn⟩:=C2.1 h
  cases n with
  | zero=>cases hn
  | succ n=>
   obtain ⟨N,hN⟩:=Hr (C:=kQ P A n) (D:=fun _=>Call P A) (fun f a r h=>⟨0,fun _ _=>C2.2 ⟨n,h⟩⟩) hn
   exact hN N (bX _)
 ·intro h
  obtain ⟨N,hN⟩:=Hr (C:=Call P A) (D:=kQ P A) (fun f a r h=>by
   obtain ⟨n,hn⟩:=C2.1 h
   exact ⟨n,fun k hk=>Hs hk hn⟩) h
  exact C2.2 ⟨N+1,hN N (bX _)⟩
end
end Go.AM
namespace Go.AM
open Go.ChangeShapes Go.WideShapes Go.RowKit
section
variable (P:Program)
inductive WT:TypeId→V→Prop
 | int {t:TypeId} {k:IntKind} {n:Int}:P.underlying t=some (.int k)→(Lit.int k n).wf=true→WT t (.int k n)
 | bool {t:TypeId} {b:Bool}:P.underlying t=some .bool→WT t (.bool b)
 | str {t:TypeId} {l:List UInt8}:P.underlying t=some .string→l.length≤maxLen→WT t (.str l)
 | list {t e:TypeId} {es:List V}:P.underlying t=some (.slice e)→es.length≤maxLen→
   (∀(i:Nat) x,es[i]? =some x→bA P e=true→∃xs,x= .agg xs∧xs.length=(aQ P e).length)→
   (∀(i j:Nat) x t',es[i]? =some x→(aQ P e)[j]? =some t'→WT t' (bC P e x j))→WT t (.list e es)
def ju (t:TypeId) (x:V):Prop:=
 (bA P t=true→∃xs,x= .agg xs∧xs.length=(aQ P t).length)∧∀(j:Nat) t',(aQ P t)[j]? =some t'→WT P t' (bC P t x j)
def po:List TypeId→List V→Prop
 | [],[]=>True
 | t::ts,x::xs=>ju P t x∧po ts xs
 | _,_=>False
def hasB (L:List TypeId) (t:TypeId):Bool:=L.any fun u=>Nat.beq u t
def C3 (L:List TypeId):Nat→List Field→Bool
 | _,[]=>true
 | n,f::fs=>hasB L f.type&&(Nat.beq f.offset n&&(Nat.beq (P.cellsOf f.type) (aQ P f.type).length&&C3 L (n+P.cellsOf f.type) fs))
def y5:List Nat→List Nat→Bool
 | [],[]=>true
 | a::l,b::m=>Nat.beq a b&&y5 l m
 | _,_=>false
def Ht (L:List TypeId) (t:TypeId):Bool:=
 Nat.beq (P.cellsOf t) (aQ P t).length&&
 match P.underlying t with
 | some (.int _)=>true
 | some .bool=>true
 | some .string=>true
 | some (.slice e)=>hasB L e&&cH P e
 | some (.struct fs)=>C3 P L 0 fs.toList&&y5 (flat P t) (fs.toList.flatMap fun f=>aQ P f.type)
 | some (.array n e)=>hasB L e&&(Nat.beq (P.cellsOf e) (aQ P e).length&&y5 (flat P t) (List.replicate n (aQ P e)).flatten)
 | _=>false
def y6 (L:List TypeId):Bool:=L.all fun t=>Ht P L t
end
theorem C4 {L:List TypeId} {t:TypeId} (h:hasB L t=true):t∈L:=by
 obtain ⟨u,hu,U⟩:=nu.1 h
 rw[aP] at U
 exact U▸hu
theorem Hu: ∀{l m:List Nat},y5 l m=true→l=m
 | [],[],_=>rfl
 | a::l,b::m,h=>by
  simp only[y5,aI,aP] at h
  rw[h.1,Hu h.2]
 | [],_::_,h=>by cases h
 | _::_,[],h=>by cases h
section
variable {P:Program} {H:Type} {enc:TypeId × Value→H} {w:World} {base:Nat} {spare:Nat→Bool} {held:Bool} {L:List TypeId}
def mO (w:World):Nat→Prop:=fun b=>b<w.heap.size
def mP (P:Program) (w:World) (ts:List TypeId) (cs:List Value) (xs:List V):Prop:=
 cs.length=ts.length∧xs.length=ts.length∧∀(j:Nat) t',ts[j]? =some t'→∃v y,cs[j]? =some v∧xs[j]? =some y∧Pure P w (mO w) t' v y∧WT P t' y
theorem mP.app {ts uM:List TypeId} {cs gS:List Value} {xs N0:List V} (h:mP P w ts cs xs) (h':mP P w uM gS N0):mP P w (ts++uM) (cs++gS) (xs++N0):=by
 obtain ⟨a,b,c⟩:=h
 obtain ⟨a',b',c'⟩:=h'
 refine ⟨by simp[a,a'],by simp[b,b'],fun j t' hj=> ?_⟩
 by_cases aL:j<ts.length
 ·rw[hG aL] at hj
  obtain ⟨v,y,e1,e2,e3⟩:=c j t' hj
  exact ⟨v,y,by rw[hG (by omega)];exact e1,by rw[hG (by omega)];exact e2,e3⟩
 ·rw[hO (by omega)] at hj
  obtain ⟨v,y,e1,e2,e3⟩:=c' _ t' hj
  exact ⟨v,y,by rw[hO (by omega),a];exact e1,by rw[hO (by omega),b];exact e2,e3⟩
theorem XK {w:World} {a:Addr} {v:Value} (h:w.cell? a=some v):a.spot=none∧a.block<w.heap.size:=by
 unfold World.cell? at h
 split at h
 ·rename_i hh
  split at h
  ·cases h
  ·rename_i hs
   exact ⟨by simpa using hs,(gG.1 hh).1⟩
 all_goals (first|cases h|skip)
theorem N3 {rd:TypeId→List Value→Option (DataW H × List MemPlace)} (cs:List Value)
  (ih: ∀t cs x,t∈L→rd t cs=some x→∃xs,mP P w (aQ P t) cs xs): ∀(fs:List Field) (n:Nat),C3 P L n fs=true→
  (∀f∈fs,∃x,rd f.type ((cs.drop f.offset).take (P.cellsOf f.type))=some x)→∃m xs,n≤m∧mP P w (fs.flatMap fun f=>aQ P f.type) ((cs.drop n).take (m-n)) xs∧m-n=(fs.flatMap fun f=>aQ P f.type).length
 | [],n,_,_=>⟨n,[],bX _,⟨by simp,rfl,by simp⟩,by simp⟩
 | f::fs,n,h,hx=>by
  simp only[C3,aI,aP] at h
  obtain ⟨h1,U,h3,h4⟩:=h
  obtain ⟨x,XL⟩:=hx f (by simp)
  obtain ⟨xs,fV⟩:=ih _ _ _ (C4 h1) XL
  obtain ⟨m,ys,hm,ql,Hg⟩:=N3 cs ih fs (n+P.cellsOf f.type) h4 fun g hg=>hx g (by simp[hg])
  refine ⟨m,xs++ys,by omega,?_,by simp only[mo,ca];omega⟩
  have:=fV.app ql
  rw[mo]
  rw[U] at this
  have e:(cs.drop n).take (m-n)=(cs.drop n).take (P.cellsOf f.type)++(cs.drop (n+P.cellsOf f.type)).take (m-(n+P.cellsOf f.type)):=by
   rw[show m-n=P.cellsOf f.type+(m-(n+P.cellsOf f.type)) by omega,List.take_add,py]
  rw[e]
  exact this
theorem N4 {rd:List Value→Option (DataW H × List MemPlace)} (cs:List Value) {e:TypeId} (hs:P.cellsOf e=(aQ P e).length)
  (ih: ∀cs x,rd cs=some x→∃xs,mP P w (aQ P e) cs xs): ∀(n:Nat),
  (∀i,i<n→∃x,rd ((cs.drop (i*P.cellsOf e)).take (P.cellsOf e))=some x)→∃xs,mP P w (List.replicate n (aQ P e)).flatten (cs.take (n*P.cellsOf e)) xs
 | 0,_=>⟨[],by simp,rfl,by simp⟩
 | n+1,hx=>by
  obtain ⟨xs,fV⟩:=N4 cs hs ih n fun i hi=>hx i (by omega)
  obtain ⟨x,yV⟩:=hx n (by omega)
  obtain ⟨ys,ql⟩:=ih _ _ yV
  refine ⟨xs++ys,?_⟩
  rw[List.replicate_succ',List.flatten_append]
  have:=fV.app ql
  rw[c7,Nat.one_mul,List.take_add]
  simpa using this
theorem C6 (hL:y6 P L=true): ∀(fuel:Nat) (t:TypeId) (cs:List Value) (x:DataW H × List MemPlace),t∈L→DataW.trod enc P w base spare held fuel t cs=some x→
  ∃xs,mP P w (aQ P t) cs xs
 | 0,_,_,_,_,h=>by cases h
 | fuel+1,t,cs,x,ht,h=>by
  have hg:=eS.1 hL t ht
  unfold Ht at hg
  rw[aI,aP] at hg
  obtain ⟨hc,hg⟩:=hg
  have one:bA P t=false→aQ P t=[t]:=fun h=>by simp[aQ,h]
  cases hu:P.underlying t with
  | none=>rw[hu] at hg;cases hg
  | some d=>
   rw[hu] at hg
   cases d with
   | int k=>
    obtain ⟨n,rfl,rfl,y7⟩:=DataW.trod_int hu h
    rw[one (by simp[bA,hu])]
    exact ⟨[.int k n],rfl,rfl,fun j t' hj=>by
     cases j with
     | zero=>cases hj;exact ⟨_,_,rfl,rfl,.int hu,.int hu y7⟩
     | succ j=>simp at hj⟩
   | bool=>
    obtain ⟨b,rfl,rfl⟩:=DataW.trod_bool hu h
    rw[one (by simp[bA,hu])]
    exact ⟨[.bool b],rfl,rfl,fun j t' hj=>by
     cases j with
     | zero=>cases hj;exact ⟨_,_,rfl,rfl,.bool hu,.bool hu⟩
     | succ j=>simp at hj⟩
   | string=>
    obtain ⟨s,rfl,rfl,hl⟩:=DataW.trod_string hu h
    rw[one (by simp[bA,hu])]
    exact ⟨[.str s.data.toList],rfl,rfl,fun j t' hj=>by
     cases j with
     | zero=>cases hj;exact ⟨_,_,rfl,rfl,.str hu rfl,.str hu (by simpa using hl)⟩
     | succ j=>simp at hj⟩
   | slice e=>
    simp only[aI] at hg
    obtain ⟨he,au⟩:=hg
    rw[one (by simp[bA,hu])]
    have single: ∀v y,cs=[v]→Pure P w (mO w) t v y→WT P t y→∃xs,mP P w [t] cs xs:=by
     rintro v y rfl a b
     exact ⟨[y],rfl,rfl,fun j t' hj=>by
      cases j with
      | zero=>cases hj;exact ⟨_,_,rfl,rfl,a,b⟩
      | succ j=>simp at hj⟩
    rcases DataW.trod_slice hu h with ⟨rfl,rfl⟩|⟨a,len,cap,elems,rest,n,hn,rfl,rfl,hb,hl,hm,hlen,cI,_,_⟩
    ·exact single _ _ rfl (.nil hu) (.list hu (by simp) (by simp) (by simp))
    ·cases hn
     have kR:=(jG au).2
     have LZ:P.cellsOf e=(aQ P e).length:=(eZ au).symm
     have key: ∀i,i<len→∃gS xs,w.cells? base (a.add (i*P.cellsOf e)) (P.cellsOf e)=some gS∧mP P w (aQ P e) gS xs:=by
      intro i hi
      have h1:=cI i hi
      rw[bq (by omega)] at h1
      obtain ⟨gS,U,h3⟩:=Option.bind_eq_some_iff.1 h1
      obtain ⟨xs,fV⟩:=C6 hL fuel e gS _ (C4 he) h3
      exact ⟨gS,xs,U,fV⟩
     by_cases h0:len=0
     ·subst h0
      exact single _ _ rfl (.emp hu) (.list hu (by simp) (by simp) (by simp))
     ·have gy:a.spot=none∧a.block<w.heap.size:=by
       obtain ⟨gS,xs,U,_⟩:=key 0 (by omega)
       obtain ⟨_,h3,h4⟩:=World.cells?_some U
       have h5:=h4 0 kR
       rw[bq (by omega)] at h5
       have:=XK h5
       simpa[Addr.add] using this
      have hF: ∃(F:Nat→List Value) (X:Nat→List V),∀i,i<len→w.cells? base (a.add (i*P.cellsOf e)) (P.cellsOf e)=some (F i)∧mP P w (aQ P e) (F i) (X i):=by
       refine ⟨fun i=>if hi:i<len then (key i hi).choose else [],fun i=>if hi:i<len then (key i hi).choose_spec.choose else [],fun i hi=> ?_⟩
       simp only[qL hi]
       exact (key i hi).choose_spec.choose_spec
      obtain ⟨F,X,Hv⟩:=hF
      have hx: ∀(i j:Nat) y t',((List.range len).map fun i=>cd P e (X i))[i]? =some y→(aQ P e)[j]? =some t'→i<len∧∃v,(F i)[j]? =some v∧Pure P w (mO w) t' v (bC P e y j)∧WT P t' (bC P e y j):=by
       intro i j y t' hy hj
       have hi:i<len:=by
        have:=(bj.1 hy).1
        simpa using this
       refine ⟨hi,?_⟩
       simp[List.getElem?_range hi] at hy
       obtain ⟨c1,c2,c3⟩:=(Hv i hi).2
       obtain ⟨v,z,d1,d2,d3,d4⟩:=c3 j t' hj
       have:bC P e y j=z:=by
        rw[←hy]
        unfold bC cd
        cases ha:bA P e with
        | true=>
         simp only[cond_true,V.cell]
         rw[sS _ _ _ d2]
        | false=>
         simp only[cond_false]
         have:aQ P e=[e]:=by simp[aQ,ha]
         rw[this] at hj
         cases j with
         | zero=>rw[sS _ _ _ d2]
         | succ j=>simp at hj
       rw[this]
       exact ⟨v,d1,d3,d4⟩
      have fF: ∀i j,i<len→j<P.cellsOf e→w.cell? ⟨a.block,a.off+(i*P.cellsOf e+j),none⟩=some ((F i).getD j undef):=by
       intro i j hi hj
       obtain ⟨h1,U⟩:=Hv i hi
       obtain ⟨_,h3,h4⟩:=World.cells?_some h1
       have h5:=h4 j hj
       rw[Go.Deep.add_add] at h5
       have e1:a.add (i*P.cellsOf e+j)=⟨a.block,a.off+(i*P.cellsOf e+j),none⟩:=by
        obtain ⟨b,o,s⟩:=a
        simp only at gy
        rw[gy.1]
        exact mF ..
       rw[e1] at h5
       rw[h5,eU,bq (by omega)]
       rfl
      have ha:a=⟨a.block,a.off,none⟩:=by
       obtain ⟨b,o,s⟩:=a
       simp only at gy
       rw[gy.1]
      refine single (.slice (some a) len cap) (.list e ((List.range len).map fun i=>cd P e (X i))) rfl ?_ ?_
      ·rw[ha]
       refine .list (fun i j=>(F i).getD j undef) hu (by simp) hl (fun _=>gy.2) fF ?_
       intro i j y t' hy hj
       obtain ⟨hi,v,d1,d2,_⟩:=hx i j y t' hy hj
       rw[eU,d1]
       exact d2
      ·refine .list hu (by simp;omega) ?_ ?_
       ·intro i y hy C7
        have hi:i<len:=by
         have:=(bj.1 hy).1
         simpa using this
        simp[List.getElem?_range hi] at hy
        rw[←hy]
        exact ⟨X i,by simp[cd,C7],(Hv i hi).2.2.1⟩
       ·intro i j y t' hy hj
        obtain ⟨_,v,_,_,d3⟩:=hx i j y t' hy hj
        exact d3
   | struct fs=>
    simp only[aI] at hg
    obtain ⟨xs,n,hn,rfl,hlen,lK,hx⟩:=DataW.trod_struct hu h
    cases hn
    have het:aQ P t=fs.toList.flatMap fun f=>aQ P f.type:=by
     rw[←Hu hg.2]
     simp[aQ,bA,hu]
    obtain ⟨m,ys,_,ql,hm⟩:=N3 (w:=w) (rd:=fun t cs=>DataW.trod enc P w base spare held fuel t cs) cs (fun t cs x a b=>C6 hL fuel t cs x a b) fs.toList 0 hg.1 (by
     intro f hf
     obtain ⟨i,hi⟩:=qP hf
     rw[qQ] at hi
     have qb:i<fs.size:=(gG.1 hi).1
     exact ⟨_,(hx i f hi).trans (bq (by omega))⟩)
    rw[het]
    refine ⟨ys,?_⟩
    have:(cs.drop 0).take (m-0)=cs:=by
     rw[iG,hm,←het,←hc,←hlen,pr]
    rw[this] at ql
    exact ql
   | array n e=>
    simp only[aI,aP] at hg
    obtain ⟨xs,m,hn,rfl,hlen,lK,hx⟩:=DataW.trod_array hu h
    cases hn
    have het:aQ P t=(List.replicate n (aQ P e)).flatten:=by
     rw[←Hu hg.2.2]
     simp[aQ,bA,hu]
    obtain ⟨ys,ql⟩:=N4 (w:=w) (rd:=DataW.trod enc P w base spare held fuel e) cs hg.2.1 (fun cs x b=>C6 hL fuel e cs x (C4 hg.1) b) n (by
     intro i hi
     exact ⟨_,(hx i hi).trans (bq (by omega))⟩)
    rw[het]
    refine ⟨ys,?_⟩
    have:cs.take (n*P.cellsOf e)=cs:=by
     have:n*P.cellsOf e=cs.length:=by
      rw[hlen,hc,het,hg.2.1]
      simp
     rw[this,pr]
    rw[this] at ql
    exact ql
   | _=>cases hg
end
section
variable {P:Program} {H:Type} {enc:TypeId × Value→H} {w:World} {L:List TypeId}
theorem XM {base Hw:Nat} {spare:Nat→Bool} {held:Bool} {r:Reach} {β:Nat→Option Nat} {hp:Nat→Option an} (hL:y6 P L=true) {t:TypeId} {v:Value} {d:DataW H} {ps:List MemPlace} (ht:t∈L) (eC:Value.okWide P w r Hw t v)
  (h:DataW.Trod enc P w base spare held t v d ps): ∃x,ao P w (mO w) β hp v x∧ju P t x:=by
 obtain ⟨fuel,hf⟩:=h
 obtain ⟨xs,c1,c2,c3⟩:=C6 hL fuel t _ _ ht hf
 have hg:=eS.1 hL t ht
 unfold Ht at hg
 rw[aI,aP] at hg
 obtain ⟨_,hg⟩:=hg
 have C7:bA P t=true→∃x,ao P w (mO w) β hp v x∧ju P t x:=by
  intro ha
  have hv: ∃cs,v= .agg cs:=by
   unfold Value.okWide at eC
   unfold bA at ha
   split at eC
   ·obtain ⟨cs,e,_⟩:=eC;exact ⟨cs,e⟩
   ·obtain ⟨cs,e,_⟩:=eC;exact ⟨cs,e⟩
   ·split at ha<;>simp_all
  obtain ⟨cs,rfl⟩:=hv
  refine ⟨.agg xs,.agg (by simpa[Value.cells] using c1.trans c2.symm) fun j v x hv hx=> ?_,fun _=>⟨xs,rfl,c2⟩,fun j t' hj=> ?_⟩
  ·have hj:j<(aQ P t).length:=by rw[←c2];exact (bj.1 hx).1
   obtain ⟨v',y,e1,e2,e3,_⟩:=c3 j _ (bq hj)
   rw[hx] at e2
   cases e2
   have:cs[j]? =some v':=by simpa[Value.cells] using e1
   rw[hv] at this
   cases this
   exact .pN e3
  ·obtain ⟨v',y,e1,e2,_,e4⟩:=c3 j t' hj
   have:bC P t (.agg xs) j=y:=by
    simp only[bC,ha,cond_true,V.cell]
    exact sS _ _ _ e2
   rw[this]
   exact e4
 have p8:bA P t=false→v.cells= #[v]→∃x,ao P w (mO w) β hp v x∧ju P t x:=by
  intro ha sZ
  have he:aQ P t=[t]:=by simp[aQ,ha]
  rw[he] at c1 c2 c3
  obtain ⟨v',y,e1,e2,e3,e4⟩:=c3 0 t rfl
  rw[sZ] at e1
  cases e1
  refine ⟨y,.pN e3,⟨fun h=>absurd (ha.symm.trans h) (by simp),fun j t' hj=> ?_⟩⟩
  rw[he] at hj
  cases j with
  | succ j=>simp at hj
  | zero=>
   cases hj
   simpa[bC,ha] using e4
 unfold Value.okWide at eC
 cases hu:P.underlying t with
 | none=>rw[hu] at hg;cases hg
 | some XN=>
  rw[hu] at hg eC
  cases XN with
  | int k=>
   refine p8 (by simp[bA,hu]) ?_
   simp only[Cell.okWide,Cell.ok,hu] at eC
   cases v<;>first|rfl|(simp at eC;done)|exact eC.elim
  | bool=>
   refine p8 (by simp[bA,hu]) ?_
   simp only[Cell.okWide,Cell.ok,hu] at eC
   cases v<;>first|rfl|(simp at eC;done)|exact eC.elim
  | string=>
   refine p8 (by simp[bA,hu]) ?_
   simp only[Cell.okWide,Cell.ok,hu] at eC
   cases v<;>first|rfl|(simp at eC;done)|exact eC.elim
  | slice e=>
   refine p8 (by simp[bA,hu]) ?_
   simp only[Cell.okWide,Cell.ok,hu] at eC
   cases v<;>first|rfl|(simp at eC;done)|exact eC.elim
  | struct fs=>exact C7 (by simp[bA,hu])
  | array n e=>exact C7 (by simp[bA,hu])
  | _=>cases hg
theorem N5 {base Hw:Nat} {spare:Nat→Bool} {held:Bool} {r:Reach} {β:Nat→Option Nat} {hp:Nat→Option an} (hL:y6 P L=true): ∀{ts:List TypeId} {vs:List Value} {ds:List (DataW H)} {ps:List MemPlace},
  (∀t∈ts,t∈L)→(∀(j:Nat) t v,ts[j]? =some t→vs[j]? =some v→Value.okWide P w r Hw t v)→DataW.TrodAll enc P w base spare held ts vs ds ps→
  ∃xs,vs.length=xs.length∧(∀(j:Nat) v x,vs[j]? =some v→xs[j]? =some x→ao P w (mO w) β hp v x)∧po P ts xs
 | [],vs,ds,ps,_,_,h=>by
  obtain ⟨rfl,rfl,rfl⟩:=trodAll_nil h
  exact ⟨[],rfl,by simp,trivial⟩
 | t::ts,vs,ds,ps,hm,eC,h=>by
  obtain ⟨v,BL,d,N6,a,b,rfl,rfl,rfl,h1,U⟩:=trodAll_cons h
  obtain ⟨x,yV,oH⟩:=XM (β:=β) (hp:=hp) hL (hm t (by simp)) (eC 0 t v rfl rfl) h1
  obtain ⟨xs,hl,hr,hw⟩:=N5 (β:=β) (hp:=hp) hL (fun t ht=>hm t (by simp[ht])) (fun j t v a b=>eC (j+1) t v (by simpa using a) (by simpa using b)) U
  refine ⟨x::xs,by simp[hl],fun j v' x' hv hx=> ?_,oH,hw⟩
  cases j with
  | zero=>cases hv;cases hx;exact yV
  | succ j=>exact hr j v' x' (by simpa using hv) (by simpa using hx)
theorem N7 {base:Nat} {spare:Nat→Bool} {held:Bool}: ∀{ts:List TypeId} {vs:List Value} {ds:List (DataW H)} {ps:List MemPlace},DataW.TrodAll enc P w base spare held ts vs ds ps→ds.length=ts.length
 | [],vs,ds,ps,h=>by obtain ⟨rfl,rfl,rfl⟩:=trodAll_nil h;rfl
 | t::ts,vs,ds,ps,h=>by
  obtain ⟨v,BL,d,N6,a,b,rfl,rfl,rfl,h1,U⟩:=trodAll_cons h
  simp[N7 U]
theorem N8 {base:Nat} (hl:laidOutB P=true) {W W':World} {N9:Nat→Bool}: ∀{ts:List TypeId} {vs:List Value} {ds:List (DataW H)} {ps:List MemPlace},(∀t∈ts,P.readableRec t=true∧t<P.types.size)→
  DataW.TrodAll enc P W base (fun _=>true) true ts vs ds ps→(∀p∈ps,W.sameAt W' p)→(∀p∈ps,N9 p.block=true)→DataW.TrodAll enc P W' base N9 true ts vs ds ps
 | [],vs,ds,ps,_,h,_,_=>by obtain ⟨rfl,rfl,rfl⟩:=trodAll_nil h;exact trodAll_mk0
 | t::ts,vs,ds,ps,hr,h,h1,U=>by
  obtain ⟨v,BL,d,N6,a,b,rfl,rfl,rfl,h3,h4⟩:=trodAll_cons h
  obtain ⟨r1,r2⟩:=hr t (by simp)
  exact trodAll_cons_mk (WideElems.Trod_stays hl r1 r2 h3 (fun p hp=>h1 p (by simp[hp])) (fun p hp=>U p (by simp[hp])))
   (N8 hl (fun t ht=>hr t (by simp[ht])) h4 (fun p hp=>h1 p (by simp[hp])) (fun p hp=>U p (by simp[hp])))
theorem XO {f:Func} {s:ChangeSpec} {apart fresh handsOn again:Bool} {W W':World} {args:Array Value} {v:Value} {ds gs:List (DataW H)} {before pa pv:List MemPlace}
  (hW:DataW.Whole enc P f.params.toList s.vars apart W args.toList ds gs before)
  (Oa: ∀(b:Nat) (sp:Nat→Bool) (hd:Bool),DataW.TrodAll enc P W' b sp hd f.resultTypes.toList (v.resultList f.resultTypes.size) (s.fn H (ds++gs)).results [])
  (tj: ∀sp:Nat→Bool,(∀p∈before,sp p.block=true)→DataW.TrodAll enc P W' 0 sp true f.params.toList args.toList (s.fn H (ds++gs)).args pa)
  (Ob: ∀sp:Nat→Bool,(∀p∈before,sp p.block=true)→DataW.TrodVars enc P W' sp s.vars (s.fn H (ds++gs)).vars pv)
  (C8:before=pa++pv) (hk:W.keptBut W' (· ∈before)) (Hy: ∀a:Addr,a.block<W.heap.size→W'.frozen? a=W.frozen? a)
  (au: ∀(j:Nat) (t:TypeId) (r:Value),f.resultTypes[j]? =some t→(v.resultList f.resultTypes.size)[j]? =some r→Value.okWide P W' .any 0 t r):
  s.post enc P f apart fresh handsOn again W args v W':=by
 have hold: ∀p∈before,(fun b=>decide (b<W.heap.size)) p.block=true:=fun p hp=>by simpa using hW.lt p hp
 refine ⟨ds,gs,before,[],pa,pv,hW,Oa _ _ _,tj _ hold,Ob _ hold,World.keptBut_mono (fun p hp=>⟨hp,?_⟩) hk,fun _=> ?_⟩
 ·rw[C8,ee] at hp
  exact Or.inr hp
 ·have aL:=hW.lt
  obtain ⟨_,_,_,_,_,hz,hn⟩:=hW
  refine ⟨au,_,_,([]++pa)++pv,⟨[]++pa,pv,trodAll_append (tj _ (fun _ _=>rfl)) (Oa _ _ _),Ob _ (fun _ _=>rfl),rfl,?_,?_⟩,?_⟩
  ·intro b off hp
   have hb:MemPlace.cell b off∈before:=by rw[C8];simpa using hp
   rw[Hy ⟨b,off,none⟩ (aL _ hb)]
   exact hz b off hb
  ·intro ha
   have:=hn ha
   rw[C8] at this
   simpa using this
  ·intro p hp _
   rw[C8]
   simpa using hp
theorem XP {A:cm} (hP:iv P A) (mN:P.follows .mixedOrders=true) {f key:Nat} {fn:Func} {tb:TypeId} {s:ChangeSpec} {apart fresh handsOn again:Bool}
  (hf:P.funcs[f]? =some fn) (Hz:A.aZ key=f) (hL:y6 P L=true) (bL:fn.params.toList.all (fun t=>hasB L t)=true) (C9:fn.resultTypes= #[tb]) (Db:P.underlying tb=some .bool) (Dc:s.vars=[])
  (hs: ∀ds:List (DataW H),ds.length=fn.params.toList.length→s.fn H ds={results:=[.lit (.bool true)],args:=ds})
  (HA:laidOutB P=true) (HB:fn.params.toList.all (fun t=>P.readableRec t&&Nat.blt t P.types.size)=true)
  (kW:(A.sin key).aY=[]) (au:((A.sin key).bE.map (·.2)).all (VS.ok 0)=true) (HC:(A.fR key).bE=[(0,.one .bool)]) (halt:A.alt key=none)
  {W:World} {base:Nat} {args:Array Value} {ds gs:List (DataW H)} {before:List MemPlace}
  (HD:fN P A.aD W (mO W)) (eC: ∀(j:Nat) t v,fn.params[j]? =some t→args[j]? =some v→Value.okWide P W .any base t v)
  (hW:DataW.Whole enc P fn.params.toList s.vars apart W args.toList ds gs before) (Q:List V→Prop)
  (hQ: ∀xs:List V,po P fn.params.toList xs→(∀(j:Nat) v x,args.toList[j]? =some v→xs[j]? =some x→ao P W (mO W) (fun _=>none) (fun _=>none) v x)→Q xs)
  (HE: ∀xs,po P fn.params.toList xs→Q xs→∃ds,pq ((A.sin key).bE.map (·.2)) xs=some ds∧Call P A key ds=some [.bool true]):
  Calls P f args W fun e W'=> ∃v,e= .returned v∧s.post enc P fn apart fresh handsOn again W args v W':=by
 have Oc:=hW
 obtain ⟨p,q,hA,hV,rfl,Hy,jN⟩:=hW
 rw[Dc] at hV
 obtain ⟨XQ,hq⟩:gs=[]∧q=[]:=by
  cases gs with
  | nil=>exact ⟨rfl,hV⟩
  | cons g gs=>exact hV.elim
 subst XQ
 subst hq
 obtain ⟨xs,hl,hr,Od⟩:=N5 (β:=fun _=>none) (hp:=fun _=>none) hL (fun t ht=>C4 (eS.1 bL t ht)) (fun j t v a b=>eC j t v (by simpa using a) (by simpa using b)) hA
 obtain ⟨ls,XR,yS⟩:=HE xs Od (hQ xs Od hr)
 obtain ⟨fn',c,h1,U,h3⟩:=XG (A:=A) hP mN key ls [.bool true] yS
 rw[Hz] at h1 h3
 rw[hf] at h1
 cases h1
 have vB: ∀j,(bd (A.sin key) ls).hp j=none:=fun j=>by simp[bd,mk,kW,eg,ja]
 obtain ⟨_,r1,r2⟩:=yI (P:=P) (w:=W) (I:=mO W) (n:=0) (β:=fun _=>none) (β':=fun _=>none) (hp:=fun _=>none) (hp':=(bd (A.sin key) ls).hp) (fun j hj=>absurd hj (Nat.not_lt_zero j)) XR au
 have hlen:((A.sin key).bE.map (·.2)).length=xs.length:=by rw[←r1 [],Hq]
 have h4:=h3 W (mO W) (fun _=>none) args.toList ⟨fun id blk h=>(by rw[vB] at h;cases h),fun id aC blk blk' b h=>(by rw[vB] at h;cases h),fun id blk b h=>(by rw[vB] at h;cases h),fun b h=>h⟩ HD
  (by rw[hl,←hlen,bm]) (fun j v y hv hy=>r2 [] j v y (fun x hx=>hr j v x hv hx) (by rw[dy];exact hy))
 have ea:args.toList.toArray=args:=by simp
 rw[ea] at h4
 refine h4.mono fun e W' ⟨v,I2,bM,he,ha⟩=>⟨v,he,?_⟩
 have sW: ∀b,b<W.heap.size→W'.heap[b]? =W.heap[b]? :=fun b hb=>ha.vn.bQ b hb (by rintro ⟨j,blk,hj,_⟩;rw[vB] at hj;cases hj)
 have GF:=ha.res
 have Oe:A.so key [.bool true]=A.fR key∧A.lv key [.bool true]=[.bool true]:=by unfold cm.so cm.lv;rw[halt];exact ⟨rfl,rfl⟩
 rw[Oe.1,Oe.2,HC] at GF
 obtain rfl:v= .bool true:=GF.jH
 have kY:Value.okWide P W' .any 0 tb (.bool true):=by simp[Value.okWide,Db,Cell.okWide,Cell.ok]
 have kH:ds.length=fn.params.toList.length:=N7 hA
 have iu: ∀p'∈p++[],W.sameAt W' p':=by
  intro p' hp'
  have aL:=Oc.lt p' hp'
  cases p' with
  | cell b o=>exact World.cell?_of_block (w:=W) (sW b aL)
  | map b=>exact sW b aL
 refine XO (pa:=p) (pv:=[]) Oc ?_ ?_ ?_ rfl ?_ ?_ ?_
 ·intro b sp hd
  rw[dy,hs ds kH,C9]
  exact trodAll_mk1 ⟨1,by simp[DataW.trod,Value.cells,Db]⟩
 ·intro sp gy
  rw[dy,hs ds kH]
  refine N8 HA (fun t ht=> ?_) hA (fun p' hp'=>iu p' (by simpa using hp')) (fun p' hp'=>gy p' (by simpa using hp'))
  have:=eS.1 HB t ht
  simp only[aI] at this
  exact ⟨this.1,by simpa[jv] using this.2⟩
 ·intro sp gy
  rw[Dc,dy,hs ds kH]
  exact rfl
 ·refine ⟨ha.vn.io.1,ha.vn.io.2,fun i hi=> ?_⟩
  rw[sW i hi]
  split<;>simp_all
 ·intro a aL
  exact World.frozen?_of_block (w:=W) (sW a.block aL)
 ·intro j t r hj HF
  rw[C9] at hj HF
  cases j with
  | zero=>
   simp[Value.resultList] at hj HF
   subst hj
   subst HF
   exact kY
  | succ j=>simp at hj
theorem Uj {A:cm} (hP:iv P A) (mN:P.follows .mixedOrders=true) {f key:Nat} {fn:Func} {tb:TypeId} {s:ChangeSpec} {apart fresh handsOn again:Bool}
  (hf:P.funcs[f]? =some fn) (Hz:A.aZ key=f) (hL:y6 P L=true) (bL:fn.params.toList.all (fun t=>hasB L t)=true) (C9:fn.resultTypes= #[tb]) (Db:P.underlying tb=some .bool) (Dc:s.vars=[])
  (hs: ∀ds:List (DataW H),ds.length=fn.params.toList.length→s.fn H ds={results:=[.lit (.bool true)],args:=ds})
  (HA:laidOutB P=true) (HB:fn.params.toList.all (fun t=>P.readableRec t&&Nat.blt t P.types.size)=true)
  (kW:(A.sin key).aY=[]) (au:((A.sin key).bE.map (·.2)).all (VS.ok 0)=true) (HC:(A.fR key).bE=[(0,.one .bool)]) (halt:A.alt key=none)
  (HE: ∀xs,po P fn.params.toList xs→∃ds,pq ((A.sin key).bE.map (·.2)) xs=some ds∧Call P A key ds=some [.bool true])
  {W:World} {base:Nat} {args:Array Value} {ds gs:List (DataW H)} {before:List MemPlace}
  (HD:fN P A.aD W (mO W)) (eC: ∀(j:Nat) t v,fn.params[j]? =some t→args[j]? =some v→Value.okWide P W .any base t v)
  (hW:DataW.Whole enc P fn.params.toList s.vars apart W args.toList ds gs before):
  Calls P f args W fun e W'=> ∃v,e= .returned v∧s.post enc P fn apart fresh handsOn again W args v W':=
 XP hP mN hf Hz hL bL C9 Db Dc hs HA HB kW au HC halt HD eC hW (fun _=>True) (fun _ _ _=>trivial) fun xs h _=>HE xs h
end
end Go.AM
namespace Go.AM
@[simp] theorem V.toInt_int (k:IntKind) (n:Int):V.toInt (.int k n)=n:=by cases k<;>rfl
@[simp] theorem V.dQ (b:Bool):V.toBool (.bool b)=b:=by cases b<;>rfl
@[simp] theorem V.Dd (s:List UInt8):V.toStr (.str s)=s:=by cases s<;>rfl
@[simp] theorem V.lb (e:TypeId) (es:List V):V.toList (.list e es)=es:=by cases es<;>rfl
@[simp] theorem V.af5 (e:TypeId) (es:List V):V.toList (.own e es)=es:=by cases es<;>rfl
@[simp] theorem V.XS (cs:List V) (j:Nat):V.cell (.agg cs) j=V.nth cs j:=by cases cs<;>rfl
@[simp] theorem V.af6 (cs:List V) (j:Nat):V.comp (.aW cs) j=V.nth cs j:=by cases cs<;>rfl
@[simp] theorem V.aV (x:V) (l:List V):V.nth (x::l) 0=x:=by cases l<;>rfl
@[simp] theorem V.qm (x:V) (l:List V) (n:Nat):V.nth (x::l) (n+1)=V.nth l n:=by cases l<;>rfl
@[simp] theorem V.af7 (x y:V) (l:List V):V.nth (x::y::l) 1=y:=by cases l<;>rfl
@[simp] theorem V.af8 (x y z:V) (l:List V):V.nth (x::y::z::l) 2=z:=by cases l<;>rfl
@[simp] theorem V.af9 (x y z u:V) (l:List V):V.nth (x::y::z::u::l) 3=u:=by cases l<;>rfl
theorem wrap64 {x:Int} (h1: -9223372036854775808≤x) (U:x<9223372036854775808):IntKind.wrap .i64 x=x:=by
 rw[IntKind.wrap_i64];omega
theorem vC {x:Int} (h1:0≤x) (U:x<256):IntKind.wrap .u8 x=x:=by
 rw[IntKind.wrap_u8];omega
theorem XT {es:List V} {i:Int} {n:Nat} (h:i=n):idx es i=es[n]? :=by
 subst h;simp[idx]
@[simp] theorem Of (es:List V) (n:Nat):idx es (n:Int)=es[n]? :=by simp[idx]
section
variable {X R:Type} {step:X→Option (X ⊕ R)}
theorem XU (s:Nat→X) (n:Nat) {r:R} (h: ∀i,i<n→step (s i)=some (.inl (s (i+1)))) (he:step (s n)=some (.inr r)):Loop step (s 0)=some r:=by
 induction n generalizing s with
 | zero=>exact bc he
 | succ n ih=>
  rw[bV (h 0 (by omega))]
  exact ih (fun i=>s (i+1)) (fun i hi=>h (i+1) (by omega)) he
end
@[simp] theorem aA {α:Type} (p:Prop) [Decidable p] (a b:α):(bif decide p then a else b)=if p then a else b:=by by_cases h:p<;>simp[h]
@[simp] theorem e7 {α:Type} (m n:Int) (a b:α):(bif m==n then a else b)=if m=n then a else b:=by
 by_cases h:m=n
 ·simp[h]
 ·have:(m==n)=false:=by simp[h]
  rw[this,ai h];rfl
@[simp] theorem HG {α:Type} (m n:Int) (a b:α):(bif m != n then a else b)=if m=n then b else a:=by
 by_cases h:m=n
 ·simp[h]
 ·have:(m != n)=true:=by simp[h]
  rw[this,ai h];rfl
@[simp] theorem gB {α:Type} (c:Bool) (a b:α):(bif !c then a else b)=bif c then b else a:=by cases c<;>rfl
@[simp] theorem HH {α:Type} (m n:Nat) (a b:α):(bif Nat.ble m n then a else b)=if m≤n then a else b:=by
 cases hb:Nat.ble m n with
 | true=>rw[ak (Nat.le_of_ble_eq_true hb)];rfl
 | false=>
  rw[ai fun h=> ?_]
  ·rfl
  ·rw[Nat.ble_eq_true_of_le h] at hb;cases hb
@[simp] theorem df {α:Type} (c d:Bool) (a b:α):(bif c&&d then a else b)=bif c then (bif d then a else b) else b:=by cases c<;>rfl
section
variable {P:Program}
def Og (P : Program) : Bool := P.funcs.all fun fn => !(fn.name == "runtime.NumGoroutine")
theorem Ue (h:Og P=true):xm P:=by
 intro f fn hf
 unfold Og at h
 have:=(Array.all_eq_true_iff_forall_mem.1 h) fn (Array.mem_of_getElem? hf)
 simpa using this
theorem KR {t:TypeId} {ts:List TypeId} {xs:List V} (h:po P (t::ts) xs): ∃x ys,xs=x::ys∧ju P t x∧po P ts ys:=by
 cases xs with
 | nil=>exact h.elim
 | cons x ys=>exact ⟨x,ys,rfl,h.1,h.2⟩
theorem Ug {xs:List V} (h:po P [] xs):xs=[]:=by
 cases xs with
 | nil=>rfl
 | cons x ys=>exact h.elim
theorem ju.one {t:TypeId} {x:V} (ha:bA P t=false) (h:ju P t x):WT P t x:=by
 have he:aQ P t=[t]:=by simp[aQ,ha]
 have:=h.2 0 t (by rw[he];rfl)
 simpa[bC,ha] using this
theorem WT.dE {t:TypeId} {k:IntKind} {x:V} (hu:P.underlying t=some (.int k)) (h:WT P t x): ∃n,x= .int k n∧k.min≤n∧n≤k.max:=by
 cases h with
 | int h1 U=>
  rw[hu] at h1
  cases h1
  simp only[Lit.wf,aI,dJ] at U
  exact ⟨_,rfl,U⟩
 | bool h1=>rw[hu] at h1;cases h1
 | str h1=>rw[hu] at h1;cases h1
 | list h1=>rw[hu] at h1;cases h1
theorem WT.jH {t:TypeId} {x:V} (hu:P.underlying t=some .bool) (h:WT P t x): ∃b,x= .bool b:=by
 cases h with
 | int h1=>rw[hu] at h1;cases h1
 | bool h1=>exact ⟨_,rfl⟩
 | str h1=>rw[hu] at h1;cases h1
 | list h1=>rw[hu] at h1;cases h1
theorem WT.lD {t:TypeId} {x:V} (hu:P.underlying t=some .string) (h:WT P t x): ∃s,x= .str s∧s.length≤maxLen:=by
 cases h with
 | int h1=>rw[hu] at h1;cases h1
 | bool h1=>rw[hu] at h1;cases h1
 | str h1 U=>exact ⟨_,rfl,U⟩
 | list h1=>rw[hu] at h1;cases h1
theorem WT.XV {t e:TypeId} {x:V} (hu:P.underlying t=some (.slice e)) (h:WT P t x): ∃es,x= .list e es∧es.length≤maxLen∧∀y∈es,ju P e y:=by
 cases h with
 | int h1=>rw[hu] at h1;cases h1
 | bool h1=>rw[hu] at h1;cases h1
 | str h1=>rw[hu] at h1;cases h1
 | list h1 U h3 h4=>
  rw[hu] at h1
  cases h1
  refine ⟨_,rfl,U,fun y hy=> ?_⟩
  obtain ⟨i,hi⟩:=qP hy
  exact ⟨h3 i y hi,fun j t' hj=>h4 i j y t' hi hj⟩
theorem ju.km {t:TypeId} {x:V} (ha:bA P t=true) (h:ju P t x): ∃xs,x= .agg xs∧xs.length=(aQ P t).length∧∀(j:Nat) t' y,(aQ P t)[j]? =some t'→xs[j]? =some y→WT P t' y:=by
 obtain ⟨xs,rfl,hl⟩:=h.1 ha
 refine ⟨xs,rfl,hl,fun j t' y hj hy=> ?_⟩
 have:=h.2 j t' hj
 simp only[bC,ha,cond_true,V.XS] at this
 rw[sS _ _ _ hy] at this
 exact this
theorem Oh {α:Type} {f:α→V} {p:α→Prop}: ∀{es:List V},(∀y∈es,∃a,y=f a∧p a)→∃l:List α,es=l.map f∧∀a∈l,p a
 | [],_=>⟨[],rfl,by simp⟩
 | y::es,h=>by
  obtain ⟨a,rfl,ha⟩:=h y (by simp)
  obtain ⟨l,rfl,hl⟩:=Oh (f:=f) (p:=p) (es:=es) fun z hz=>h z (by simp[hz])
  exact ⟨a::l,rfl,by
   intro b hb
   rcases c8.1 hb with rfl|hb
   ·exact ha
   ·exact hl b hb⟩
theorem ju.int {t:TypeId} {x:V} (hu:P.underlying t=some (.int .i64)) (h:ju P t x): ∃n,x= .int .i64 n∧IntKind.min .i64≤n∧n≤IntKind.max .i64:=
 (h.one (by simp[bA,hu])).dE hu
theorem ju.str {t:TypeId} {x:V} (hu:P.underlying t=some .string) (h:ju P t x): ∃s,x= .str s∧s.length≤maxLen:=
 (h.one (by simp[bA,hu])).lD hu
end
def un.{u} {A B:Type} {γ:Sort u} (f:A→B→γ) (p:A × B):γ:=f p.1 p.2
def b9 {A B γ:Type} (f:A→γ) (g:B→γ):A ⊕ B→γ
 | .inl a=>f a
 | .inr b=>g b
def av:List Nat→Code→Code
 | [],c=>c
 | 0::p,.seq a _=>av p a
 | _::p,.seq _ b=>av p b
 | 0::p,.cond _ a _=>av p a
 | _::p,.cond _ _ b=>av p b
 | _::p,.block _ c=>av p c
 | _::p,.loop c=>av p c
 | _,c=>c
inductive cx where
 | loop (c:Code)
 | cond (t:Nat) (x y:Code)
section
variable (P:Program) (A:cm) (C:ag) (L:cC) (f n m:Nat)
def oT:Code→List cx
 | .seq a b=>oT a++oT b
 | .cond (.tmp t) x y=>
  match A.gH f (t*16+15) with
  | none=>oT x++oT y
  | some _=>[.cond t x y]
 | .cond (.const _) x y=>oT x++oT y
 | .block _ c=>oT c
 | .loop c=>[.loop c]
 | _=>[]
def cy:cx→Prop
 | .loop c=>
  match A.gH f (keyOf c+1) with
  | none=>True
  | some S=> ∀(β:Type) ds (k:Nat→List V→Option β),L β (keyOf c+1) ds k=(Loop (stepG P A C f n m S c) ds).bind fun r=>k r.1 r.2
 | .cond t x y=>
  match A.gH f (t*16+15) with
  | none=>True
  | some S=> ∀(β:Type) ds (k:Nat→List V→Option β),L β (t*16+15) ds k=(xY P A C f n m t S x y ds).bind fun r=>k r.1 r.2
def mQ:List cx→Prop
 | []=>True
 | b::l=>cy P A C L f n m b∧mQ l
variable {P A C L f n m}
theorem mQ.left {a b:List cx}:mQ P A C L f n m (a++b)→mQ P A C L f n m a:=by
 induction a with
 | nil=>exact fun _=>trivial
 | cons x a ih=>exact fun h=>⟨h.1,ih h.2⟩
theorem mQ.right {a b:List cx}:mQ P A C L f n m (a++b)→mQ P A C L f n m b:=by
 induction a with
 | nil=>exact fun h=>h
 | cons x a ih=>exact fun h=>ih h.2
theorem bf: ∀{c:Code} {bs:List cx},oT A f c=bs→mQ P A C L f n m bs→gO P A C L f n m c:=by
 intro c
 induction c with
 | seq a b FP FQ=>
  intro bs h hb
  subst h
  exact ⟨FP rfl hb.left,FQ rfl hb.right⟩
 | cond c x y hY hZ=>
  intro bs h hb
  subst h
  cases c with
  | tmp t=>
   simp only[oT] at hb
   simp only[gO]
   cases hs:A.gH f (t*16+15) with
   | none=>
    rw[hs] at hb
    exact ⟨hY rfl hb.left,hZ rfl hb.right⟩
   | some S=>
    rw[hs] at hb
    have:=hb.1
    simp only[cy,hs] at this
    exact this
  | const v=>exact ⟨hY rfl hb.left,hZ rfl hb.right⟩
  | _=>trivial
 | block id c ih=>
  intro bs h hb
  subst h
  exact ih rfl hb
 | loop c ih=>
  intro bs h hb
  subst h
  exact hb.1
 | _=>intro bs h hb;trivial
variable (P A C L f n m) in
noncomputable def HI {β:Type} (t:Nat) (S:Shape × List (Out × Shape)) (x y:Code) (ds:List V) (k:Nat→List V→Option β):Option β:=
 let kc:Out→St→Option β:=fun o st=>
  match o with
  | .norm=>(ways m 0 S.2 (.norm,canon m (A.join f t) st)).bind fun e=>k e.1 e.2
  | o=>(ways m 0 S.2 (o,st)).bind fun e=>k e.1 e.2
 match (bd S.1 ds).sl t with
 | .bool b=>bif b then gN P A C L f n m x (bd S.1 ds) kc else gN P A C L f n m y (bd S.1 ds) kc
 | _=>none
theorem XW {t:Nat} {x y:Code} {S:Shape × List (Out × Shape)} (hS:A.gH f (t*16+15)=some S) (hx:gO P A C L f n m x) (hy:gO P A C L f n m y) {I R:Type} (enc:I→List V) (lP:I→R→Nat × List V)
  (de:List V→I) (body:I→(β:Type)→(R→Option β)→Option β) (tu: ∀ds,bd S.1 (enc (de ds))=bd S.1 ds)
  (e1: ∀i (β:Type) (k:Nat→List V→Option β),HI P A C L f n m t S x y (enc i) k=body i β (fun r=>k (lP i r).1 (lP i r).2))
  (hl: ∀(β:Type) ds (k:Nat→List V→Option β),L β (t*16+15) ds k=body (de ds) β (fun r=>k (lP (de ds) r).1 (lP (de ds) r).2)):
  cy P A C L f n m (.cond t x y):=by
 simp only[cy,hS]
 intro β ds k
 rw[hl,←e1]
 unfold HI xY
 rw[tu]
 simp only
 have hk: ∀(z:Option (Out × St)),(z.bind fun r=>(match r.1 with
   | .norm=>(ways m 0 S.2 (.norm,canon m (A.join f t) r.2)).bind fun e=>k e.1 e.2
   | o=>(ways m 0 S.2 (o,r.2)).bind fun e=>k e.1 e.2))=((z.bind fun r=>
   match r.1 with
   | .norm=>some (Out.norm,canon m (A.join f t) r.2)
   | _=>some r).bind fun r=>ways m 0 S.2 r).bind fun r=>k r.1 r.2:=by
  intro z
  cases z with
  | none=>rfl
  | some r=>obtain ⟨o,st⟩:=r;cases o<;>rfl
 cases (bd S.1 ds).sl t with
 | bool b=>
  cases b with
  | true=>simp only[cond_true,BJ P A C f n m x hx];exact hk _
  | false=>simp only[cond_false,BJ P A C f n m y hy];exact hk _
 | _=>rfl
theorem bG {b:cx} {l:List cx} (h:cy P A C L f n m b) (U:mQ P A C L f n m l):mQ P A C L f n m (b::l):=⟨h,U⟩
theorem aw:mQ P A C L f n m []:=trivial
theorem ba {key:Nat} {bs:List cx} (hb:oT A key (cP P (A.aZ key))=bs) (ht:mQ P A (Call P A) L key (cT P (A.aZ key)) (A.sin key).aY.length bs) {ds:List V} {r:Option (List V)}
  (h:FR P A (Call P A) L key ds=r):Call P A key ds=r:=by
 rw[XJ,Up P A (Call P A) key (bf hb ht),h]
end
inductive LK where
 | int (k:IntKind)
 | bool
 | str
 | list (e:TypeId)
 | nat
def LK.Ty:LK→Type
 | .int _=>Int
 | .bool=>Bool
 | .str=>List UInt8
 | .list _=>List V
 | .nat=>Nat
def LK.enc:(k:LK)→k.Ty→V
 | .int k,n=> .int k n
 | .bool,b=> .bool b
 | .str,s=> .str s
 | .list e,l=> .list e l
 | .nat,n=>dL n
def LK.dec:(k:LK)→V→k.Ty
 | .int _,v=>v.toInt
 | .bool,v=>v.toBool
 | .str,v=>v.toStr
 | .list _,v=>v.toList
 | .nat,v=>kb v
theorem LK.Oi: ∀(k:LK) (x:k.Ty),k.dec (k.enc x)=x
 | .int _,_=>rfl
 | .bool,_=>rfl
 | .str,_=>rfl
 | .list _,_=>rfl
 | .nat,_=>rfl
def HJ:List Nat→List LK
 | []=>[]
 | _::l=> .nat::HJ l
def LS.ks:LS→List LK
 | .int k=>[.int k]
 | .bool=>[.bool]
 | .str=>[.str]
 | .list e=>[.list e]
 | .sub .. =>[.nat,.nat]
 | .ptr _=>[.nat,.nat]
 | .row _ _ cs=>HJ cs
 | .cl _ cs _=> .nat::HJ cs
 | _=>[]
def vD:List LS→List LK
 | []=>[]
 | l::ls=>l.ks++vD ls
def VS.ks:VS→List LK
 | .one l=>l.ks
 | .agg ls=>vD ls
 | .aW ls=>vD ls
 | .fn _ a b=>vD a++vD b
 | .pref _ ls=>vD ls
def Oj:List VS→List LK
 | []=>[]
 | l::ls=>l.ks++Oj ls
def BS.ks:BS→List LK
 | .var _ cs=>Oj cs
 | .arr e _=>[.list e]
 | .nest e=>[.list e]
 | .dead=>[]
 | .map t=>[.list t]
def Ol:List (Nat × VS)→List LK
 | []=>[]
 | p::l=>p.2.ks++Ol l
def Om:List BS→List LK
 | []=>[]
 | b::l=>b.ks++Om l
def Shape.ks (S:Shape):List LK:=Ol S.bE++Om S.aY
def HK:List Nat→List V→List V
 | [],_=>[]
 | _::cs,ds=>dL (kb (V.nth ds 0))::HK cs (ds.drop 1)
def LS.norm:LS→List V→List V
 | .int k,ds=>[.int k (V.nth ds 0).toInt]
 | .bool,ds=>[.bool (V.nth ds 0).toBool]
 | .str,ds=>[.str (V.nth ds 0).toStr]
 | .list e,ds=>[.list e (V.nth ds 0).toList]
 | .sub ..,ds=>[dL (kb (V.nth ds 0)),dL (kb (V.nth ds 1))]
 | .ptr _,ds=>[dL (kb (V.nth ds 0)),dL (kb (V.nth ds 1))]
 | .row _ _ cs,ds=>HK cs ds
 | .cl _ cs _,ds=>dL (kb (V.nth ds 0))::HK cs (ds.drop 1)
 | _,_=>[]
def vE:List LS→List V→List V
 | [],_=>[]
 | l::ls,ds=>l.norm ds++vE ls (ds.drop l.size)
def VS.norm:VS→List V→List V
 | .one l,ds=>l.norm ds
 | .agg ls,ds=>vE ls ds
 | .aW ls,ds=>vE ls ds
 | .fn _ a b,ds=>vE a ds++vE b (ds.drop (jB a))
 | .pref _ ls,ds=>vE ls ds
def On:List VS→List V→List V
 | [],_=>[]
 | l::ls,ds=>l.norm ds++On ls (ds.drop l.size)
def BS.norm:BS→List V→List V
 | .var _ cs,ds=>On cs ds
 | .arr e _,ds=>[.list e (V.nth ds 0).toList]
 | .nest e,ds=>[.list e (V.nth ds 0).toList]
 | .dead,_=>[]
 | .map t,ds=>[.list t (V.nth ds 0).toList]
def Oo:List (Nat × VS)→List V→List V
 | [],_=>[]
 | p::l,ds=>p.2.norm ds++Oo l (ds.drop p.2.size)
def Oq:List BS→List V→List V
 | [],_=>[]
 | b::l,ds=>b.norm ds++Oq l (ds.drop b.size)
def Shape.norm (S:Shape) (ds:List V):List V:=Oo S.bE ds++Oq S.aY (ds.drop (nC S.bE))
def tv:LK→List LK→Type
 | k,[]=>k.Ty
 | k,k'::ks=>k.Ty × tv k' ks
def jO:List LK→Type
 | []=>Unit
 | k::ks=>tv k ks
def tw:(k:LK)→(ks:List LK)→tv k ks→List V
 | k,[],x=>[k.enc x]
 | k,k'::ks,x=>k.enc x.1::tw k' ks x.2
def kA:(ks:List LK)→jO ks→List V
 | [],_=>[]
 | k::ks,x=>tw k ks x
def y8:(k:LK)→(ks:List LK)→List V→tv k ks
 | k,[],l=>k.dec (V.nth l 0)
 | k,k'::ks,l=>(k.dec (V.nth l 0),y8 k' ks l.tail)
def nW:(ks:List LK)→List V→jO ks
 | [],_=>()
 | k::ks,l=>y8 k ks l
theorem Ot: ∀(k:LK) (ks:List LK) (x:tv k ks) (r:List V),y8 k ks (tw k ks x++r)=x
 | k,[],x,r=>LK.Oi k x
 | k,k'::ks,x,r=>by
  show (k.dec (k.enc x.1),y8 k' ks (tw k' ks x.2++r))=x
  rw[LK.Oi,Ot k' ks]
  rfl
def vF:List LK→Type 1→Type 1
 | [],R=>R
 | k::ks,R=>k.Ty→vF ks R
def Ou:(k:LK)→(ks:List LK)→{R:Type 1}→vF (k::ks) R→tv k ks→R
 | _,[],_,f,x=>f x
 | _,k'::ks,_,f,x=>Ou k' ks (f x.1) x.2
def tx:(ks:List LK)→{R:Type 1}→vF ks R→jO ks→R
 | [],_,f,_=>f
 | k::ks,_,f,x=>Ou k ks f x
def vG {α:Type} (b:Bool):List Bool→List α→List α
 | [],_=>[]
 | _,[]=>[]
 | c::m,x::l=>bif c==b then x::vG b m l else vG b m l
def merge:List Bool→List V→List V→List V
 | [],_,_=>[]
 | true::m,i,x=>V.nth x 0::merge m i x.tail
 | false::m,i,x=>V.nth i 0::merge m i.tail x
def vH:List Nat→List LK→List LK
 | [],_=>[]
 | _,[]=>[]
 | 0::t,k::ks=>k::vH t ks
 | (_+1)::t,_::ks=>vH t ks
abbrev e8:=List Nat × List LK
def e8.fresh (w:e8):List LK:=vH w.1 w.2
def put:List Nat→List V→List V→List V
 | [],_,_=>[]
 | 0::t,ds,x=>V.nth x 0::put t ds x.tail
 | (j+1)::t,ds,x=>V.nth ds j::put t ds x
def tz:List Nat→List V→List V
 | [],_=>[]
 | 0::t,l=>V.nth l 0::tz t l.tail
 | (_+1)::t,l=>tz t l.tail
def rE:e8→List e8→Type
 | w,[]=>jO w.fresh
 | w,w'::ws=>jO w.fresh ⊕ rE w' ws
def qn:List e8→Type
 | []=>Empty
 | w::ws=>rE w ws
def wN (ds:List V) {β:Type} (k:Nat→List V→Option β):Nat→(w:e8)→(ws:List e8)→rE w ws→Option β
 | j,w,[],r=>k j (put w.1 ds (kA w.fresh r))
 | j,w,w'::ws,r=>b9 (fun x=>k j (put w.1 ds (kA w.fresh x))) (fun y=>wN ds k (j+1) w' ws y) r
def wT (ds:List V) {β:Type} (k:Nat→List V→Option β):(ws:List e8)→qn ws→Option β
 | [],r=>Empty.elim r
 | w::ws,r=>wN ds k 0 w ws r
def nX (ds:List V):Nat→(w:e8)→(ws:List e8)→rE w ws→Nat × List V
 | j,w,[],r=>(j,put w.1 ds (kA w.fresh r))
 | j,w,_::_,.inl x=>(j,put w.1 ds (kA w.fresh x))
 | j,_,w'::ws,.inr y=>nX ds (j+1) w' ws y
def vI (ds:List V):(ws:List e8)→qn ws→Nat × List V
 | [],r=>Empty.elim r
 | w::ws,r=>nX ds 0 w ws r
theorem Ov (ds:List V) {β:Type} (k:Nat→List V→Option β): ∀(j:Nat) (w:e8) (ws:List e8) (r:rE w ws),wN ds k j w ws r=k (nX ds j w ws r).1 (nX ds j w ws r).2
 | _,_,[],_=>rfl
 | _,_,_::_,.inl _=>rfl
 | j,_,w'::ws,.inr y=>Ov ds k (j+1) w' ws y
theorem De (ds:List V) {β:Type} (k:Nat→List V→Option β): ∀(ws:List e8) (r:qn ws),wT ds k ws r=k (vI ds ws r).1 (vI ds ws r).2
 | [],r=>Empty.elim r
 | w::ws,r=>Ov ds k 0 w ws r
def vJ:Nat→(w:e8)→(ws:List e8)→List V→rE w ws
 | _,w,[],l=>nW w.fresh (tz w.1 l)
 | 0,w,_::_,l=> .inl (nW w.fresh (tz w.1 l))
 | j+1,_,w'::ws,l=> .inr (vJ j w' ws l)
def Ow (j:Nat):(ws:List e8)→List V→Option (qn ws)
 | [],_=>none
 | w::ws,l=>some (vJ j w ws l)
def vK:List Nat→List V→List V
 | [],_=>[]
 | 0::t,x=>V.nth x 0::vK t x.tail
 | (_+1)::t,x=>vK t x
theorem HL: ∀(t:List Nat) (ds x:List V),tz t (put t ds x)=vK t x
 | [],_,_=>rfl
 | 0::t,ds,x=>congrArg (V.nth x 0:: ·) (HL t ds x.tail)
 | (_+1)::t,ds,x=>HL t ds x
theorem HM: ∀(t:List Nat) (ks:List LK) (k:LK) (bZ:List LK),vH t ks=k::bZ→∀x:tv k bZ,∃r,vK t (tw k bZ x)=tw k bZ x++r
 | [],_,_,_,h,_=>by cases h
 | _::_,[],_,_,h,_=>by simp[vH] at h
 | 0::t,a::ks,k,bZ,h,x=>by
  simp only[vH,List.cons.injEq] at h
  obtain ⟨rfl,U⟩:=h
  cases bZ with
  | nil=>exact ⟨vK t [],rfl⟩
  | cons k' bZ=>
   obtain ⟨r,hr⟩:=HM t ks k' bZ U x.2
   exact ⟨r,congrArg (a.enc x.1:: ·) hr⟩
 | (_+1)::t,a::ks,k,bZ,h,x=>HM t ks k bZ h x
theorem Ox (w:e8) (ds:List V) (x:jO w.fresh):nW w.fresh (tz w.1 (put w.1 ds (kA w.fresh x)))=x:=by
 rw[HL]
 revert x
 generalize hf:w.fresh=f
 cases f with
 | nil=>intro x;rfl
 | cons k ks=>
  intro x
  obtain ⟨r,hr⟩:=HM w.1 w.2 k ks hf x
  show y8 k ks (vK w.1 (tw k ks x))=x
  rw[hr]
  exact Ot k ks x r
theorem Oy (ds:List V): ∀(j:Nat) (w:e8) (ws:List e8) (r:rE w ws),j≤(nX ds j w ws r).1
 | _,_,[],_=>bX _
 | _,_,_::_,.inl _=>bX _
 | j,_,w'::ws,.inr y=>lq (Nat.le_succ j) (Oy ds (j+1) w' ws y)
theorem XX (w:e8) (l:List V): ∀j,vJ j w [] l=nW w.fresh (tz w.1 l)
 | 0=>rfl
 | _+1=>rfl
theorem Oz (ds:List V): ∀(j:Nat) (w:e8) (ws:List e8) (r:rE w ws),vJ ((nX ds j w ws r).1-j) w ws (nX ds j w ws r).2=r
 | j,w,[],r=>(XX w _ _).trans (Ox w ds r)
 | j,w,w'::ws,.inl x=>by
  show vJ (j-j) w (w'::ws) (put w.1 ds (kA w.fresh x))= .inl x
  rw[Nat.sub_self]
  exact congrArg Sum.inl (Ox w ds x)
 | j,w,w'::ws,.inr y=>by
  have h1:=Oy ds (j+1) w' ws y
  have U:=Oz ds (j+1) w' ws y
  show vJ ((nX ds (j+1) w' ws y).1-j) w (w'::ws) (nX ds (j+1) w' ws y).2= .inr y
  obtain ⟨d,hd⟩: ∃d,(nX ds (j+1) w' ws y).1=j+1+d:=⟨(nX ds (j+1) w' ws y).1-(j+1),by omega⟩
  rw[hd] at U⊢
  rw[show j+1+d-(j+1)=d by omega] at U
  rw[show j+1+d-j=d+1 by omega]
  exact congrArg Sum.inr U
theorem XY (ds:List V): ∀(ws:List e8) (r:qn ws),Ow (vI ds ws r).1 ws (vI ds ws r).2=some r
 | [],r=>Empty.elim r
 | w::ws,r=>congrArg some (Oz ds 0 w ws r)
section
variable {P:Program} {A:cm} {C:ag} {L:cC} {f n m:Nat}
theorem XZ {c:Code} {S:Shape × List (Out × Shape)} (hS:A.gH f (keyOf c+1)=some S) (hL:gO P A C L f n m c) {I X R:Type} (enc:I→X→List V) (lP:I→R→Nat × List V)
  (oU:List V→I) (qo:List V→X) (Df:Nat × List V→Option R) (body:I→X→(β:Type)→(X→Option β)→(R→Option β)→Option β)
  (tu: ∀ds,bd S.1 (enc (oU ds) (qo ds))=bd S.1 ds) (HN: ∀i x,qo (enc i x)=x) (X0: ∀i r,Df (lP i r)=some r)
  (e1: ∀i x (β:Type) (k:(List V ⊕ (Nat × List V))→Option β),gN P A C L f n m c (bd S.1 (enc i x)) (fun o st=>(mA m S.1 S.2 (some (o,st))).bind k)=
   body i x β (fun y=>k (.inl (enc i y))) (fun r=>k (.inr (lP i r))))
  (hl: ∀(β:Type) ds (k:Nat→List V→Option β),L β (keyOf c+1) ds k=(Loop (fun x=>body (oU ds) x (X ⊕ R) (fun y=>some (.inl y)) (fun r=>some (.inr r))) (qo ds)).bind fun r=>k (lP (oU ds) r).1 (lP (oU ds) r).2):
  cy P A C L f n m (.loop c):=by
 simp only[cy,hS]
 intro β ds k
 rw[hl]
 have hex: ∀(z:Option (Out × St)),mA m S.1 S.2 z=z.bind fun r=>mA m S.1 S.2 (some (r.1,r.2)):=by
  intro z;cases z<;>rfl
 have hs: ∀i x,stepG P A C f n m S c (enc i x)=(body i x (X ⊕ R) (fun y=>some (.inl y)) (fun r=>some (.inr r))).map fun| .inl y=> .inl (enc i y)| .inr r=> .inr (lP i r):=by
  intro i x
  have k1:=e1 i x _ (fun z=>some z)
  have k2:=e1 i x (X ⊕ R) (fun| .inl ds=>some (.inl (qo ds))| .inr e=>(Df e).map .inr)
  have k3:=e1 i x (List V ⊕ (Nat × List V)) (fun| .inl ds=>some (.inl (enc i (qo ds)))| .inr e=>(Df e).map fun r=> .inr (lP i r))
  simp only[HN,X0,Option.map_some] at k2 k3
  unfold stepG
  rw[hex]
  rw[BJ P A C f n m c hL] at k1 k2 k3
  rw[←k2]
  refine a8 ?_ (k1.trans (k3.symm.trans ?_))
  ·congr 1
   funext r
   cases mA m S.1 S.2 (some (r.1,r.2))<;>rfl
  ·cases exec P A C f n m c (bd S.1 (enc i x)) with
   | none=>rfl
   | some r=>
    simp only[Option.bind_some]
    cases mA m S.1 S.2 (some (r.1,r.2)) with
    | none=>rfl
    | some z=>
     cases z with
     | inl _=>rfl
     | inr e=>simp only[Option.bind_some];cases Df e<;>rfl
 have h0:stepG P A C f n m S c ds=stepG P A C f n m S c (enc (oU ds) (qo ds)):=by
  unfold stepG
  rw[tu]
 have:Loop (stepG P A C f n m S c) ds=(Loop (fun x=>body (oU ds) x (X ⊕ R) (fun y=>some (.inl y)) (fun r=>some (.inr r))) (qo ds)).map (lP (oU ds)):=by
  rw[Bl,h0,←Bl]
  exact Un (enc (oU ds)) (lP (oU ds)) (fun x=>hs _ _) (qo ds)
 rw[this]
 cases Loop (fun x=>body (oU ds) x (X ⊕ R) (fun y=>some (.inl y)) (fun r=>some (.inr r))) (qo ds)<;>rfl
abbrev y9 (S:Shape) (mk:List Bool):List LK:=vG false mk S.ks
abbrev tA (S:Shape) (mk:List Bool):List LK:=vG true mk S.ks
def qp (ts:List (List Nat)) (W:List (Out × Shape)):List e8:=
 match ts,W with
 | t::ts,w::W=>(t,w.2.ks)::qp ts W
 | _,_=>[]
abbrev za (S:Shape) (mk:List Bool) (i:jO (y9 S mk)) (x:jO (tA S mk)):List V:=merge mk (kA _ i) (kA _ x)
abbrev HO (S:Shape) (mk:List Bool) (i:jO (y9 S mk)):List V:=merge mk (kA _ i) []
abbrev Dg (S:Shape) (mk:List Bool) (ds:List V):jO (y9 S mk):=nW _ (vG false mk (S.norm ds))
abbrev Dh (S:Shape) (mk:List Bool) (ds:List V):jO (tA S mk):=nW _ (vG true mk (S.norm ds))
abbrev OA (X R:Type):Type 1:=(β:Type)→(X→Option β)→(R→Option β)→Option β
abbrev HP (S:Shape × List (Out × Shape)) (mk:List Bool) (ts:List (List Nat)):Type 1:=vF (y9 S.1 mk) (vF (tA S.1 mk) (OA (jO (tA S.1 mk)) (qn (qp ts S.2))))
abbrev HQ (S:Shape × List (Out × Shape)) (mk:List Bool) (ts:List (List Nat)) (b:HP S mk ts) (i:jO (y9 S.1 mk)) (x:jO (tA S.1 mk)):OA (jO (tA S.1 mk)) (qn (qp ts S.2)):=tx _ (tx _ b i) x
noncomputable def ch (S:Shape × List (Out × Shape)) (mk:List Bool) (ts:List (List Nat)) (b:HP S mk ts) {β:Type} (ds:List V) (k:Nat→List V→Option β):Option β:=
 (Loop (fun x=>HQ S mk ts b (Dg S.1 mk ds) x (jO (tA S.1 mk) ⊕ qn (qp ts S.2)) (fun y=>some (.inl y)) (fun r=>some (.inr r))) (Dh S.1 mk ds)).bind (wT (HO S.1 mk (Dg S.1 mk ds)) k (qp ts S.2))
theorem ct {c:Code} (S:Shape × List (Out × Shape)) (mk:List Bool) (ts:List (List Nat)) (b:HP S mk ts) (hS:A.gH f (keyOf c+1)=some S) (hL:gO P A C L f n m c)
  (tu: ∀ds,bd S.1 (za S.1 mk (Dg S.1 mk ds) (Dh S.1 mk ds))=bd S.1 ds) (HN: ∀i x,Dh S.1 mk (za S.1 mk i x)=x)
  (e1: ∀i x (β:Type) (k:(List V ⊕ (Nat × List V))→Option β),gN P A C L f n m c (bd S.1 (za S.1 mk i x)) (fun o st=>(mA m S.1 S.2 (some (o,st))).bind k)=
   HQ S mk ts b i x β (fun y=>k (.inl (za S.1 mk i y))) (wT (HO S.1 mk i) (fun j l=>k (.inr (j,l))) (qp ts S.2)))
  (hl: ∀(β:Type) ds (k:Nat→List V→Option β),L β (keyOf c+1) ds k=ch S mk ts b ds k):
  cy P A C L f n m (.loop c):=
 XZ hS hL (za S.1 mk) (fun i r=>vI (HO S.1 mk i) _ r) (Dg S.1 mk) (Dh S.1 mk) (fun e=>Ow e.1 _ e.2) (HQ S mk ts b) tu HN (fun i r=>XY _ _ r)
  (fun i x β k=>by
   rw[e1]
   congr 1
   funext r
   exact De _ _ _ r)
  (fun β ds k=>by
   rw[hl]
   unfold ch
   congr 1
   funext r
   exact De _ _ _ r)
abbrev OB (S:Shape × List (Out × Shape)) (ts:List (List Nat)):Type 1:=vF S.1.ks ((β:Type)→(qn (qp ts S.2)→Option β)→Option β)
noncomputable def iz (S:Shape × List (Out × Shape)) (ts:List (List Nat)) (b:OB S ts) {β:Type} (ds:List V) (k:Nat→List V→Option β):Option β:=
 tx S.1.ks b (nW _ (S.1.norm ds)) β (wT (kA S.1.ks (nW _ (S.1.norm ds))) k (qp ts S.2))
theorem iQ {t:Nat} {x y:Code} (S:Shape × List (Out × Shape)) (ts:List (List Nat)) (b:OB S ts) (hS:A.gH f (t*16+15)=some S) (hx:gO P A C L f n m x) (hy:gO P A C L f n m y)
  (tu: ∀ds,bd S.1 (kA S.1.ks (nW _ (S.1.norm ds)))=bd S.1 ds)
  (e1: ∀i (β:Type) (k:Nat→List V→Option β),HI P A C L f n m t S x y (kA S.1.ks i) k=tx S.1.ks b i β (wT (kA S.1.ks i) k (qp ts S.2)))
  (hl: ∀(β:Type) ds (k:Nat→List V→Option β),L β (t*16+15) ds k=iz S ts b ds k):
  cy P A C L f n m (.cond t x y):=
 XW hS hx hy (kA S.1.ks) (fun i r=>vI (kA S.1.ks i) _ r) (fun ds=>nW _ (S.1.norm ds)) (tx S.1.ks b) tu
  (fun i β k=>by
   rw[e1]
   exact congrArg (tx S.1.ks b i β) (funext fun r=>De _ _ _ r))
  (fun β ds k=>by
   rw[hl]
   exact congrArg (tx S.1.ks b (nW _ (S.1.norm ds)) β) (funext fun r=>De _ _ _ r))
end
def cj:cC:=fun _ _ _ _=>none
end Go.AM
