/-
  Functions of the program, lifted to plain data.
-/
import Derived.Conc.MuLone
import Derived.Defers
import Derived.Carry
import Derived.OpenShut
import Derived.Deep.Slices
import Derived.Test.YtppefogdkedaiaaP2
set_option linter.unusedVariables false
set_option linter.unusedSimpArgs false
namespace Go.AM
section
variable {P:Program} {A:ct} {w w':World} {I I' I2:Nat→Prop} {μ β β' bP:Nat→Option Nat} {hp hp' hp0 bh:Nat→Option an} {C:ag} {B:Nat} {M:Nat→Prop} {w0:Start}
structure kj (w:World) (I:Nat→Prop) (β:Nat→Option Nat) (hp:Nat→Option an) (w':World) (I':Nat→Prop) (β':Nat→Option Nat) (hp':Nat→Option an):Prop where
 cV: ∀b,I b→I' b
 bU: ∀b,I b→w'.heap[b]? =w.heap[b]?
 blk: ∀id blk,hp id=some blk→∃blk',hp' id=some blk'∧blk.le blk'∧(blk'≠ .dead→β' id=β id)
 size: ∀id blk blk' b,hp id=some blk→hp' id=some blk'→blk'≠ .dead→β id=some b→bsize w' b=bsize w b
theorem Le.CA (h:Le P w I β hp w' I' β' hp'):kj w I β hp w' I' β' hp':=⟨h.cV,h.bU,h.blk,h.size⟩
theorem kj.trans {xV:World} {xW:Nat→Prop} {xX:Nat→Option Nat} {xY:Nat→Option an} (h1:kj w I β hp w' I' β' hp') (U:kj w' I' β' hp' xV xW xX xY):kj w I β hp xV xW xX xY:=by
 refine ⟨fun b h=>U.cV b (h1.cV b h),fun b h=>(U.bU b (h1.cV b h)).trans (h1.bU b h),fun id blk h=> ?_,fun id blk sB b h qX hd hb=> ?_⟩
 ·obtain ⟨blk',e',l',b'⟩:=h1.blk id blk h
  obtain ⟨sB,dj,pK,FL⟩:=U.blk id blk' e'
  refine ⟨sB,dj,an.le_trans l' pK,fun hd=> ?_⟩
  have ek:blk'≠ .dead:=fun e=>hd (an.oF (e▸pK))
  exact (FL hd).trans (b' ek)
 ·obtain ⟨blk',e',l',b'⟩:=h1.blk id blk h
  obtain ⟨gq,e3,l3,b3⟩:=U.blk id blk' e'
  obtain rfl:gq=sB:=by rw[e3] at qX;exact cP qX
  have ek:blk'≠ .dead:=fun e=>hd (an.oF (e▸l3))
  rw[U.size id blk' gq b e' e3 hd ((b' ek).trans hb),h1.size id blk blk' b h e' ek hb]
def nO (P:Program) (w:World) (μ:Nat→Option Nat) (hp0:Nat→Option an) (b:Nat):Prop:= ∃j blk,hp0 j=some blk∧bn P w (μ j) blk b
structure Wk (P:Program) (A:ct) (key:Nat) (w:World) (I:Nat→Prop) (μ:Nat→Option Nat) (ds es:List V) (w':World) (v:Value) (I2:Nat→Prop) (bP:Nat→Option Nat):Prop where
 vk:aE P w' I2 bP (bd (A.so key es) (A.lv key es)).hp w.heap.size (nO P w μ (bd (A.sin key) ds).hp) ⟨w,I⟩
 le:kj w I μ (bd (A.sin key) ds).hp w' I2 bP (bd (A.so key es) (A.lv key es)).hp
 res:ao P w' I2 bP (bd (A.so key es) (A.lv key es)).hp v (oD (eN (A.so key es).bI (A.lv key es)))
def km (P:Program) (A:ct) (C:ag):Prop:=
 ∀key ds es,C key ds=some es→∃fn c,P.funcs[A.aY key]? =some fn∧fn.body=some c∧
  ∀(w:World) (I:Nat→Prop) (μ:Nat→Option Nat) (vals:List Value),
   sA P w I μ (bd (A.sin key) ds).hp w.heap.size (nO P w μ (bd (A.sin key) ds).hp)→gh P A.aD w I→
   vals.length=(A.sin key).bI.length→(∀(j:Nat) v x,vals[j]? =some v→(eY ((A.sin key).bI.map (·.2)) ds)[j]? =some x→ao P w I μ (bd (A.sin key) ds).hp v x)→
   Calls P (A.aY key) vals.toArray w fun e w'=> ∃v I2 bP,e= .returned v∧Wk P A key w I μ ds es w' v I2 bP
theorem dH.s6 {p:Place} {o:Option Nat} {blk:an} {b:Nat} (h:dH P w β hp p o blk) (ho:bn P w o blk b):
  ∃qa,hp p.id=some qa∧bn P w (β p.id) qa b∧∀e es,qa≠ .arr e es true:=by
 cases h with
 | var h=>exact ⟨_,h,.root (by simp) (ho.flat (by simp)),by simp⟩
 | arr h=>exact ⟨_,h,.root (by simp) (ho.flat (by simp)),by simp⟩
 | map h=>exact ⟨_,h,.root (by simp) (ho.flat (by simp)),by simp⟩
 | nest h=>
  refine ⟨_,h,?_,by simp⟩
  cases ho with
  | root _ hb=>exact .root (by simp) hb
  | row hb ha=>exact .row hb ha
 | row h hb ha _ _ _ _ _=>
  have:=ho.flat (by simp)
  cases this
  exact ⟨_,h,.row hb ha,by simp⟩
theorem aE.Wl (S:aE P w I β hp B M w0) {id b:Nat} {blk:an} (ab:hp id=some blk) (ho:bn P w (β id) blk b) (hf: ∀e es,blk≠ .arr e es true): ¬I b:=by
 have hr:=S.h.rel id blk ab
 generalize β id=o at hr ho
 cases hr with
 | var hb _ _ hI _ _=>have:=ho.flat (by simp);rw[hb] at this;cases this;exact hI
 | dp hb=>have:=ho.flat (by simp);rw[hb] at this;cases this
 | @arr e es fz _ _ _ hb _ _ _ dQ _=>
  have:=ho.flat (by simp)
  rw[hb] at this;cases this
  cases fz with
  | true=>exact absurd rfl (hf e es)
  | false=>exact dQ rfl
 | dead=>exact absurd rfl ho.alive
 | map _ hb _ _ hI _ _=>have:=ho.flat (by simp);rw[hb] at this;cases this;exact hI
 | nest hb hr _=>
  cases ho with
  | root _ az=>rw[hb] at az;cases az;exact (hr _ _ _ _ .here).nI
  | row az ha=>rw[hb] at az;cases az;exact (hr _ _ _ _ ha).nI
theorem CB {a b:List Nat} (h:uC a b=false) {x:Nat} (ha:x∈a):x∉b:=by
 intro hb
 unfold uC at h
 rw[List.any_eq_false] at h
 exact h x ha (u3 hb)
theorem Wm (S:aE P w I β hp B M w0) {pl:List Place} {upd:List (Nat × an)} {o:Nat→Option Nat} (jM:(pl.map Place.id).Nodup) (CD:uC (upd.map (·.1)) (pl.map Place.id)=false)
  (hl: ∀j blk,hp0 j=some blk→∃p,dO pl j=some p∧dH P w β hp p (o j) blk)
  (cp:(∀j blk,hp0 j=some blk→∀b,bn P w (o j) blk b→¬ik P w I β hp upd b)→∀j blk,hp0 j=some blk→dE P w (ik P w I β hp upd) o hp0 (o j) blk) (aO: ∀b,ik P w I β hp upd b→b<w.heap.size):
  sA P w (ik P w I β hp upd) o hp0 w.heap.size (nO P w o hp0):=by
 have cC: ∀j blk,hp0 j=some blk→∀b,bn P w (o j) blk b→¬ik P w I β hp upd b:=by
  intro j blk hj b ho hI
  obtain ⟨p,bh,gr⟩:=hl j blk hj
  obtain ⟨qa,k1,k2,k3⟩:=gr.s6 ho
  rcases hI with hI|⟨q,hq,bO,q1,q2⟩
  ·exact S.Wl k1 k2 k3 hI
  ·have:=S.h.inj _ _ _ _ b q1 k1 q2 k2
   refine CB CD (gj.2 ⟨q,hq,rfl⟩) ?_
   rw[this]
   rw[k9] at bh
   exact gj.2 ⟨p,jb bh,rfl⟩
 refine ⟨cp cC,fun j1 j2 b1 b2 b h1 U o1 o2=> ?_,fun j blk b h1 o1=> .inl ⟨j,blk,h1,o1⟩,aO⟩
 obtain ⟨p1,q1,q2⟩:=hl j1 b1 h1
 obtain ⟨p2,r1,r2⟩:=hl j2 b2 U
 obtain ⟨c1,x1,x2,_⟩:=q2.s6 o1
 obtain ⟨c2,y1,y2,_⟩:=r2.s6 o2
 have ab:=S.h.inj _ _ _ _ b x1 y1 x2 y2
 rw[k9] at q1 r1
 have m1:(pl.map Place.id)[j1]? =some p1.id:=by rw[gk,q1];rfl
 have m2:(pl.map Place.id)[j2]? =some p2.id:=by rw[gk,r1];rfl
 rw[←ab] at m2
 obtain ⟨z1,z2⟩:=bj.1 m1
 obtain ⟨z3,z4⟩:=bj.1 m2
 exact (List.getElem_inj jM).1 (z2.trans z4.symm)
def Mn:V→Prop
 | .list .. =>False
 | .pref .. =>False
 | .agg _=>False
 | .aX _=>False
 | .fn .. =>False
 | _=>True
theorem ao.free {v:Value} {x:V} (h:ao P w I β hp v x) (hx:Mn x):ao P w I' β hp v x:=by
 cases h with
 | undef=>exact .undef
 | int=>exact .int
 | bool=>exact .bool
 | str h=>exact .str h
 | list h=>exact hx.elim
 | nilS=>exact .nilS
 | agg=>exact hx.elim
 | aX=>exact hx.elim
 | c6=>exact .c6
 | fn=>exact hx.elim
 | pref=>exact hx.elim
 | dP h=>exact .dP h
 | fE h=>exact .fE h
 | jF h=>exact .jF h
 | dm h hb=>exact .dm h hb
 | whole h hb a b c=>exact .whole h hb a b c
 | dZ h hb a b c=>exact .dZ h hb a b c
 | fl h hb=>exact .fl h hb
 | sub h hb a b c=>exact .sub h hb a b c
 | ptr h hd hb=>exact .ptr h hd hb
 | je h p5=>exact .je h p5
 | jf h p5=>exact .jf h p5
 | row h hb a b c d=>exact .row h hb a b c d
 | cm h hb a b c d e=>exact .cm h hb a b c d e
 | dc=>exact .dc
 | gS h=>exact .gS h
 | cb h hb=>exact .cb h hb
theorem yH {l:LS} {ds:List V} (hs:l.safe=true):Mn (hZ l ds):=by
 cases l<;>simp only[LS.safe] at hs<;>first|(cases hs;done)|trivial
theorem yI: ∀{ls:List LS} {ds:List V} {j:Nat} {y:V},(gM ls ds)[j]? =some y→∃l eR,l∈ls∧y=hZ l eR
 | [],ds,j,y,h=>by simp[gM] at h
 | l::ls,ds,j,y,h=>by
  simp only[gM] at h
  cases j with
  | zero=>simp at h;exact ⟨l,ds,qL ..,h.symm⟩
  | succ j=>
   obtain ⟨l',eR,h1,U⟩:=yI (j:=j) (by simpa using h)
   exact ⟨l',eR,kJ _ h1,U⟩
theorem Mo: ∀{ls:List VS} {ds:List V} {j:Nat} {y:V},(eY ls ds)[j]? =some y→∃l eR,l∈ls∧y=j8 l eR
 | [],ds,j,y,h=>by simp[eY] at h
 | l::ls,ds,j,y,h=>by
  simp only[eY] at h
  cases j with
  | zero=>simp at h;exact ⟨l,ds,qL ..,h.symm⟩
  | succ j=>
   obtain ⟨l',eR,h1,U⟩:=Mo (j:=j) (by simpa using h)
   exact ⟨l',eR,kJ _ h1,U⟩
theorem Mp {s:VS} {ds:List V} {v:Value} (h:ao P w I β hp v (j8 s ds)) (hs:s.safe=true):ao P w I' β hp v (j8 s ds):=by
 cases s with
 | one l=>exact h.free (yH hs)
 | agg ls=>
  simp only[j8] at h⊢
  obtain ⟨cs,rfl,e1,e2⟩:=h.kf
  refine .agg e1 fun j v x hj hx=> ?_
  obtain ⟨l,eR,k1,rfl⟩:=yI hx
  exact (e2 j v _ hj hx).free (yH (eM.1 hs l k1))
 | aX ls=>
  simp only[j8] at h⊢
  obtain ⟨cs,rfl,e1,e2⟩:=h.sH
  refine .aX e1 fun j v x hj hx=> ?_
  obtain ⟨l,eR,k1,rfl⟩:=yI hx
  exact (e2 j v _ hj hx).free (yH (eM.1 hs l k1))
 | fn f a b=>
  simp only[VS.safe,aI] at hs
  simp only[j8] at h⊢
  cases h with
  | fn a1 a2 b1 b2=>
   refine .fn a1 (fun j v x hj hx=> ?_) b1 (fun j v x hj hx=> ?_)
   ·obtain ⟨l,eR,k1,rfl⟩:=yI hx
    exact (a2 j v _ hj hx).free (yH (eM.1 hs.1 l k1))
   ·obtain ⟨l,eR,k1,rfl⟩:=yI hx
    exact (b2 j v _ hj hx).free (yH (eM.1 hs.2 l k1))
 | pref ts ls=>cases hs
theorem Pure.scalar {t:TypeId} {v:Value} {x:V} (h:Pure P w I t v x) (hn: ∀e,P.underlying t≠some (.slice e)):Pure P w I' t v x:=by
 cases h with
 | int h=>exact .int h
 | bool h=>exact .bool h
 | str h hl=>exact .str h hl
 | nil h=>exact absurd h (hn _)
 | emp h=>exact absurd h (hn _)
 | list g h=>exact absurd h (hn _)
theorem Wn {e t:TypeId} {j:Nat} (h:xG P e=true) (ht:(aQ P e)[j]? =some t) (e':TypeId):P.underlying t≠some (.slice e'):=by
 intro hu
 have U:=eM.1 h t (jb ht)
 rw[hu] at U
 cases U
theorem Wo {o:Option Nat} {b:BS} {ds:List V} (h:dE P w I2 β hp o (fi b ds)) (hs:b.safe P=true) (hi: ∀b,I b→I2 b):dE P w I β hp o (fi b ds):=by
 cases b with
 | dead=>exact .dead
 | var T0 ls=>
  simp only[fi] at h⊢
  cases h with
  | var hb hh aR hI hx fG=>
   refine .var hb hh aR (fun h=>hI (hi _ h)) (fun j v x hj cf=> ?_) fG
   obtain ⟨l,eR,k1,rfl⟩:=Mo cf
   exact Mp (hx j v _ hj cf) (eM.1 hs l k1)
 | arr e fz=>
  simp only[BS.safe,aI,mh] at hs
  obtain ⟨rfl,yG⟩:=hs
  simp only[fi] at h⊢
  generalize (V.nth ds 0).toList=es at h⊢
  cases h with
  | dp hb=>exact .dp hb
  | arr a1 a2 a3 a4 a5 a6 a7=>
   refine .arr a1 a2 a3 a4 (fun h=>by cases h) (fun _ h=>a6 rfl (hi _ h)) fun i j x t' y1 y2 y3=> ?_
   obtain ⟨v,z1,z2⟩:=a7 i j x t' y1 y2 y3
   exact ⟨v,z1,z2.scalar (Wn yG y2)⟩
 | nest e=>
  simp only[fi] at h⊢
  generalize (V.nth ds 0).toList=es at h⊢
  cases h with
  | nest hb cq nF=>
   refine .nest hb (fun q b' e1 m1 hq=> ?_) nF
   obtain ⟨ok,⟨Ca,c1,c2,c3⟩,nI⟩:=cq q b' e1 m1 hq
   refine ⟨ok,⟨Ca,c1,c2,fun i j x t' y1 y2 y3=> ?_⟩,fun h=>nI (hi _ h)⟩
   obtain ⟨v,z1,z2⟩:=c3 i j x t' y1 y2 y3
   refine ⟨v,z1,?_⟩
   generalize bB P e1 x j=y at z2⊢
   cases z2 with
   | fk a p=>
    refine .fk a (p.scalar fun e hu=> ?_)
    unfold fh at a
    rw[hu] at a
    cases a
   | emp a b=>exact .emp a b
   | row a b c d e=>exact .row a b c d e
 | map t=>
  simp only[fi] at h⊢
  cases h with
  | map a1 a2 a3 a4 a5 a6 a7=>exact .map a1 a2 a3 a4 (fun h=>a5 (hi _ h)) a6 a7
theorem GZ: ∀{l:List BS} {ds:List V} {j:Nat} {y:an},(ej l ds)[j]? =some y→∃b eR,l[j]? =some b∧y=fi b eR
 | [],ds,j,y,h=>by simp[ej] at h
 | b::l,ds,j,y,h=>by
  simp only[ej] at h
  cases j with
  | zero=>simp at h;exact ⟨b,ds,rfl,h.symm⟩
  | succ j=>
   obtain ⟨b',eR,h1,U⟩:=GZ (j:=j) (by simpa using h)
   exact ⟨b',eR,by simpa using h1,U⟩
theorem Mq: ∀{l:List (Nat × VS)} {ds:List V} {q:Nat × V},q∈eN l ds→∃s eR,(q.1,s)∈l∧q.2=j8 s eR
 | [],ds,q,h=>by simp[eN] at h
 | (k,s)::l,ds,q,h=>by
  simp only[eN,cX] at h
  rcases h with h|h
  ·subst h;exact ⟨s,ds,qL ..,rfl⟩
  ·obtain ⟨s',eR,h1,U⟩:=Mq h
   exact ⟨s',eR,kJ _ h1,U⟩
theorem Wp {S:Shape} {es:List V} (hs:S.safe P=true) (hi: ∀b,I b→I2 b) {N:Nat→Prop} {st:Start} (h:aE P w' I2 bP (bd S es).hp B N st) (h0: ∀b,I b→st.I b):
  aE P w' I bP (bd S es).hp B N st∧∀v,ao P w' I2 bP (bd S es).hp v (oD (eN S.bI es))→ao P w' I bP (bd S es).hp v (oD (eN S.bI es)):=by
 unfold Shape.safe at hs
 simp only[aI] at hs
 obtain ⟨ij,k0⟩:=hs
 have one: ∀q∈eN S.bI es,∀v,ao P w' I2 bP (bd S es).hp v q.2→ao P w' I bP (bd S es).hp v q.2:=by
  intro q hq v hv
  obtain ⟨s,eR,k1,k2⟩:=Mq hq
  rw[k2] at hv⊢
  exact Mp hv (eM.1 ij _ k1)
 refine ⟨⟨⟨fun j blk hj=> ?_,h.h.inj,h.h.own,fun b hb=>h.h.jg b (hi b hb)⟩,h.bU,h.size,fun b hb=> .inl (h0 b hb),h.io⟩,fun v hv=> ?_⟩
 ·have hr:=h.h.rel j blk hj
  have fS:=hj
  simp only[bd,mk,gB] at fS
  obtain ⟨b,eR,k1,rfl⟩:=GZ fS
  exact Wo hr (eM.1 k0 _ (jb k1)) hi
 ·generalize eN S.bI es=l at one hv⊢
  match l,one,hv with
  | [],_,hv=>
   simp only[oD,gl] at hv⊢
   obtain ⟨cs,rfl,e1,e2⟩:=hv.sH
   exact .aX e1 fun j v x _ hx=>by simp at hx
  | [q],one,hv=>exact one q (dW.2 rfl) v hv
  | q::q2::l,one,hv=>
   simp only[oD] at hv⊢
   obtain ⟨cs,rfl,e1,e2⟩:=hv.sH
   refine .aX e1 fun j v x hj hx=> ?_
   obtain ⟨y,hy,rfl⟩:=gj.1 (jb hx)
   exact one y hy v (e2 j v _ hj hx)
end
section
variable {P:Program} {A:ct} {w w':World} {I I' I2:Nat→Prop} {μ β β' bP:Nat→Option Nat} {hp hp' hp0 bh:Nat→Option an} {C:ag} {B:Nat} {M:Nat→Prop} {w0:Start}
inductive fK (σ:List Place):an→an→Prop
 | dead:fK σ .dead .dead
 | var {T:TypeId} {cs:List V}:fK σ (.var T cs) (.var T (cs.map (BB σ)))
 | arr {e:TypeId} {es:List V} {fz:Bool}:fK σ (.arr e es fz) (.arr e es fz)
 | nest {e:TypeId} {es:List V} {v1 v2:List Nat}:fK σ (.nest e es v1) (.nest e es v2)
 | map {t:TypeId} {es:List V}:fK σ (.map t es) (.map t es)
theorem fK.of (σ:List Place) (b:an):fK σ b (sn σ b):=by
 cases b with
 | dead=>exact .dead
 | var T cs=>exact .var
 | arr e es fz=>exact .arr
 | nest e es v=>exact .nest
 | map t es=>exact .map
theorem Mr {σ:List Place}: ∀{pl:List Place} {bs:List an} {acc:List (Nat × an)} {k:List (Nat × an)→Rd R} {r:R} {rd:List Nat},(pC σ pl bs acc k).run C hp=some (r,rd)→
  pl.length≤bs.length∧∃bk ez,(k bk).run C hp=some (r,ez)∧(∀q∈bk,q∈acc∨∃(j:Nat) (b:an),pl[j]? =some (.blk q.1)∧bs[j]? =some b∧fK σ b q.2∧((∃e es v2,q.2= .nest e es v2)→∃e es aq e' aJ,hp q.1=some (.nest e es aq)∧q.2= .nest e' aJ (aq.map (· +1))))∧
   (∀q∈acc,q∈bk)∧∀(j:Nat) p,pl[j]? =some p→∃id b,p= .blk id∧(id,b)∈bk
 | [],bs,acc,k,r,rd,h=>⟨jY _,acc,rd,by simpa only[pC] using h,fun q hq=> .inl hq,fun q hq=>hq,fun j p hp=>by simp at hp⟩
 | .row _ _ _::pl,bs,acc,k,r,rd,h=>by
  cases bs<;>(simp only[pC] at h;cases h)
 | .blk id::pl,[],acc,k,r,rd,h=>by simp only[pC] at h;cases h
 | .blk id::pl,b::bs,acc,k,r,rd,h=>by
  have fin: ∀{b2:an} {iQ:List Nat},(pC σ pl bs ((id,b2)::acc) k).run C hp=some (r,iQ)→fK σ b b2→((∃e es v2,b2= .nest e es v2)→∃e es aq e' aJ,hp id=some (.nest e es aq)∧b2= .nest e' aJ (aq.map (· +1)))→
    (Place.blk id::pl).length≤(b::bs).length∧∃bk ez,(k bk).run C hp=some (r,ez)∧(∀q∈bk,q∈acc∨∃(j:Nat) (b':an),(Place.blk id::pl)[j]? =some (.blk q.1)∧(b::bs)[j]? =some b'∧fK σ b' q.2∧((∃e es v2,q.2= .nest e es v2)→∃e es aq e' aJ,hp q.1=some (.nest e es aq)∧q.2= .nest e' aJ (aq.map (· +1))))∧
     (∀q∈acc,q∈bk)∧∀(j:Nat) p,(Place.blk id::pl)[j]? =some p→∃id b,p= .blk id∧(id,b)∈bk:=by
   intro b2 iQ h1 hb hn
   obtain ⟨a0,bk,ez,a1,a2,a3,a4⟩:=Mr h1
   refine ⟨by simp only[List.length_cons];omega,bk,ez,a1,fun q hq=> ?_,fun q hq=>a3 q (kJ _ hq),fun j p hj=> ?_⟩
   ·rcases a2 q hq with h|⟨j,b',k1,k2,k3,k4⟩
    ·rcases cX.1 h with e|h
     ·subst e;exact .inr ⟨0,b,rfl,rfl,hb,hn⟩
     ·exact .inl h
    ·exact .inr ⟨j+1,b',by simpa using k1,by simpa using k2,k3,k4⟩
   ·cases j with
    | zero=>simp at hj;subst hj;exact ⟨id,b2,rfl,a3 _ (qL ..)⟩
    | succ j=>exact a4 j p (by simpa using hj)
  cases b with
  | nest e es v=>
   simp only[pC] at h
   obtain ⟨l,h⟩:=run_get h
   cases ab:hp id with
   | none=>rw[ab] at h;cases h
   | some blk=>
    rw[ab] at h
    cases blk with
    | nest e0 FM aq=>exact fin h .nest fun _=>⟨e0,FM,aq,e,es,ab,rfl⟩
    | _=>cases h
  | dead=>exact fin h (.of σ _) fun ⟨_,_,_,h⟩=>by cases h
  | var T cs=>exact fin h (.of σ _) fun ⟨_,_,_,h⟩=>by cases h
  | arr e es fz=>exact fin h (.of σ _) fun ⟨_,_,_,h⟩=>by cases h
  | map t es=>exact fin h (.of σ _) fun ⟨_,_,_,h⟩=>by cases h
theorem Ms {σ:List Place}: ∀{bs:List an} {n:Nat} {q:Nat × an},q∈pD σ n bs→∃i b,bs[i]? =some b∧q=(n+i,sn σ b)
 | [],n,q,h=>by simp[pD] at h
 | b::bs,n,q,h=>by
  simp only[pD,cX] at h
  rcases h with h|h
  ·exact ⟨0,b,rfl,h⟩
  ·obtain ⟨i,b',h1,U⟩:=Ms h
   exact ⟨i+1,b',by simpa using h1,by rw[U];congr 1;omega⟩
theorem Mt {σ:List Place}: ∀{bs:List an} {n i:Nat} {b:an},bs[i]? =some b→(n+i,sn σ b)∈pD σ n bs
 | [],n,i,b,h=>by simp at h
 | b0::bs,n,i,b,h=>by
  simp only[pD,cX]
  cases i with
  | zero=>simp at h;subst h;exact .inl rfl
  | succ i=>exact .inr (by rw[show n+(i+1)=n+1+i by omega];exact Mt (by simpa using h))
theorem CE: ∀{k n i:Nat},i<k→(qV n k)[i]? =some (.blk (n+i))
 | 0,n,i,h=>by omega
 | k+1,n,0,h=>rfl
 | k+1,n,i+1,h=>by
  simp only[qV,List.getElem?_cons_succ]
  rw[CE (by omega)]
  congr 2
  omega
theorem G0: ∀{k n:Nat},(qV n k).length=k
 | 0,_=>rfl
 | k+1,n=>by simp[qV,G0]
theorem Mu: ∀{bs:List (Nat × an)} {k:Rd R} {r:R} {rd:List Nat},(BC bs k).run C hp=some (r,rd)→(∀q∈bs,hp q.1=none)∧∃ez,k.run C hp=some (r,ez)
 | [],k,r,rd,h=>⟨by simp,rd,h⟩
 | (id,b)::l,k,r,rd,h=>by
  simp only[BC] at h
  obtain ⟨l1,h⟩:=run_get h
  cases ab:hp id with
  | some blk=>rw[ab] at h;cases h
  | none=>
   rw[ab] at h
   obtain ⟨h1,U⟩:=Mu h
   refine ⟨fun q hq=> ?_,U⟩
   rcases cX.1 hq with e|hq
   ·subst e;exact ab
   ·exact h1 q hq
structure oQ (σ:List Place) (bP:Nat→Option Nat) (bh:Nat→Option an) (β':Nat→Option Nat) (hp':Nat→Option an):Prop where
 blk: ∀j b,bh j=some b→∃id b',dO σ j=some (.blk id)∧hp' id=some b'∧fK σ b b'∧(b≠ .dead→β' id=bP j)
 none: ∀j,bh j=none→dO σ j=none
 af6: ∀j id ver path,dO σ j≠some (.row id ver path)
theorem oQ.leaf {σ:List Place} (T:oQ σ bP bh β' hp') {v:Value} {x:V} (h:ao P w I bP bh v x):ao P w I β' hp' v (jD σ x):=by
 have look: ∀{j b},bh j=some b→∃id b',dO σ j=some (.blk id)∧hp' id=some b'∧fK σ b b'∧(b≠ .dead→β' id=bP j):=fun h=>T.blk _ _ h
 cases h with
 | undef=>exact .undef
 | int=>exact .int
 | bool=>exact .bool
 | str h=>exact .str h
 | list h=>exact .list h
 | nilS=>exact .nilS
 | agg=>exact .undef
 | aX=>exact .undef
 | c6=>exact .c6
 | fn=>exact .undef
 | pref a b c=>exact .pref a b c
 | @dP _ e j h=>
  obtain ⟨id,b',k1,k2,k3,k4⟩:=look h
  simp only[jD,k1]
  cases k3
  exact .dP k2
 | @fE _ e j _ _ h=>
  obtain ⟨id,b',k1,k2,k3,k4⟩:=look h
  simp only[jD,k1]
  cases k3
  exact .fE k2
 | @jF _ j _ _ h=>
  obtain ⟨id,b',k1,k2,k3,k4⟩:=look h
  simp only[jD,k1]
  cases k3
  exact .jF k2
 | @dm e j fz _ h hb=>
  obtain ⟨id,b',k1,k2,k3,k4⟩:=look h
  simp only[jD,k1]
  cases k3
  exact .dm k2 ((k4 (by simp)).trans hb)
 | @whole e j es fz b cap h hb a1 a2 a3=>
  obtain ⟨id,b',k1,k2,k3,k4⟩:=look h
  simp only[jD,k1]
  cases k3
  exact .whole k2 ((k4 (by simp)).trans hb) a1 a2 a3
 | @dZ e j es aq b cap h hb a1 a2 a3=>
  obtain ⟨id,b',k1,k2,k3,k4⟩:=look h
  simp only[jD,k1]
  cases k3
  exact .dZ k2 ((k4 (by simp)).trans hb) a1 a2 a3
 | @fl e j fz _ h hb=>
  obtain ⟨id,b',k1,k2,k3,k4⟩:=look h
  simp only[jD,k1]
  cases k3
  exact .fl k2 ((k4 (by simp)).trans hb)
 | @sub e j off len es fz b o cap h hb a1 a2 a3=>
  obtain ⟨id,b',k1,k2,k3,k4⟩:=look h
  simp only[jD,k1]
  cases k3
  exact .sub k2 ((k4 (by simp)).trans hb) a1 a2 a3
 | @ptr j i c b blk h hd hb=>
  obtain ⟨id,b',k1,k2,k3,k4⟩:=look h
  simp only[jD,k1]
  have hs:blk.sz P=b'.sz P:=by cases k3<;>rfl
  rw[hs]
  exact .ptr k2 (by intro e;subst e;cases k3;exact hd rfl) ((k4 hd).trans hb)
 | je=>exact .undef
 | jf=>exact .undef
 | row=>exact .undef
 | cm=>exact .undef
 | dc=>exact .dc
 | @gS _ t j h=>
  obtain ⟨id,b',k1,k2,k3,k4⟩:=look h
  simp only[jD,k1]
  cases k3
  exact .gS k2
 | @cb t j b es h hb=>
  obtain ⟨id,b',k1,k2,k3,k4⟩:=look h
  simp only[jD,k1]
  cases k3
  exact .cb k2 ((k4 (by simp)).trans hb)
theorem oQ.one {σ:List Place} (T:oQ σ bP bh β' hp') {v:Value} {x:V} (h:ao P w I bP bh v x):ao P w I β' hp' v (FB σ x):=by
 cases x with
 | agg xs=>
  obtain ⟨cs,rfl,e1,e2⟩:=h.kf
  exact .agg (by simpa using e1) fun j v y hj hy=>by
   rw[gk] at hy
   cases hx:xs[j]? with
   | none=>rw[hx] at hy;cases hy
   | some x=>rw[hx] at hy;cases hy;exact T.leaf (e2 j v x hj hx)
 | fn f a b=>
  cases h with
  | fn a1 a2 b1 b2=>
   refine .fn (by simpa using a1) (fun j v y hj hy=> ?_) (by simpa using b1) (fun j v y hj hy=> ?_)
   ·rw[gk] at hy
    cases hx:a[j]? with
    | none=>rw[hx] at hy;cases hy
    | some x=>rw[hx] at hy;cases hy;exact T.leaf (a2 j v x hj hx)
   ·rw[gk] at hy
    cases hx:b[j]? with
    | none=>rw[hx] at hy;cases hy
    | some x=>rw[hx] at hy;cases hy;exact T.leaf (b2 j v x hj hx)
 | _=>exact T.leaf h
theorem oQ.val {σ:List Place} (T:oQ σ bP bh β' hp') {v:Value} {x:V} (h:ao P w I bP bh v x):ao P w I β' hp' v (BB σ x):=by
 cases x with
 | aX xs=>
  obtain ⟨cs,rfl,e1,e2⟩:=h.sH
  exact .aX (by simpa using e1) fun j v y hj hy=>by
   rw[gk] at hy
   cases hx:xs[j]? with
   | none=>rw[hx] at hy;cases hy
   | some x=>rw[hx] at hy;cases hy;exact T.one (e2 j v x hj hx)
 | _=>exact T.one h
theorem oQ.Mv {σ:List Place} (T:oQ σ bP bh β' hp') {o:Option Nat} {b b':an} (h:dE P w I bP bh o b) (hb:fK σ b b'):dE P w I β' hp' o b':=by
 cases hb with
 | dead=>exact .dead
 | var=>
  cases h with
  | var a1 a2 a3 a4 a5 a6=>
   refine .var a1 a2 (by simpa using a3) a4 (fun j v y hj hy=> ?_) a6
   rw[gk] at hy
   cases hx:(_:List V)[j]? with
   | none=>rw[hx] at hy;cases hy
   | some x=>rw[hx] at hy;cases hy;exact T.val (a5 j v x hj hx)
 | arr=>
  cases h with
  | dp hb=>exact .dp hb
  | arr a1 a2 a3 a4 a5 a6 a7=>exact .arr a1 a2 a3 a4 a5 a6 a7
 | nest=>
  cases h with
  | nest a1 a2 a3=>exact .nest a1 a2 a3
 | map=>
  cases h with
  | map a1 a2 a3 a4 a5 a6 a7=>exact .map a1 a2 a3 a4 a5 a6 a7
theorem fK.s6 {σ:List Place} {o:Option Nat} {b b':an} (h:fK σ b b') {m:Nat} (ho:bn P w o b' m):bn P w o b m:=by
 cases h with
 | dead=>exact absurd rfl ho.alive
 | var=>exact .root (by simp) (ho.flat (by simp))
 | arr=>exact .root (by simp) (ho.flat (by simp))
 | map=>exact .root (by simp) (ho.flat (by simp))
 | nest=>
  cases ho with
  | root _ hb=>exact .root (by simp) hb
  | row hb ha=>exact .row hb ha
theorem fK.Mw {σ:List Place} {b b':an} (h:fK σ b b'):b'≠ .dead→b≠ .dead:=by
 intro h1 U;subst U;cases h;exact h1 rfl
end
section
variable {P:Program} {A:ct} {w w':World} {I I' I2:Nat→Prop} {μ β β' bP:Nat→Option Nat} {hp hp' hp0 bh:Nat→Option an} {C:ag} {B:Nat} {M:Nat→Prop} {w0:Start}
theorem Mx: ∀{vs:List Nat} {k:Nat},k<vs.length→bu (vs.map (· +1)) k=bu vs k+1
 | [],k,h=>by simp at h
 | v::vs,0,h=>rfl
 | v::vs,k+1,h=>by simp only[cG,bu];exact Mx (by simpa using h)
theorem My: ∀{vs:List Nat} {k:Nat},bu vs k≤bu (vs.map (· +1)) k
 | [],k=>by simp[bu]
 | v::vs,0=>by simp[bu]
 | v::vs,k+1=>by simp only[cG,bu];exact My
def yJ (hp:Nat→Option an) (q:Nat × an):Prop:=(∃e es v2,q.2= .nest e es v2)→∃e es aq e' aJ,hp q.1=some (.nest e es aq)∧q.2= .nest e' aJ (aq.map (· +1))
theorem dH.G1 {id:Nat} {o:Option Nat} {blk:an} (h:dH P w β hp (.blk id) o blk):o=β id∧∃b0,hp id=some b0∧b0≠ .dead:=by
 cases h with
 | var h=>exact ⟨rfl,_,h,by simp⟩
 | arr h=>exact ⟨rfl,_,h,by simp⟩
 | nest h=>exact ⟨rfl,_,h,by simp⟩
 | map h=>exact ⟨rfl,_,h,by simp⟩
theorem dH.Wq {id:Nat} {o:Option Nat} {c b b' b0:an} {σ:List Place} (h:dH P w β hp (.blk id) o c) (h0:hp id=some b0) (hle:c.le b) (hb:fK σ b b') (hn:yJ hp (id,b')):b0.le b':=by
 cases h with
 | var h=>
  rw[h] at h0;cases h0
  cases hb with
  | dead=>trivial
  | var=>trivial
  | arr=>exact hle.elim
  | nest=>exact hle.elim
  | map=>exact hle.elim
 | arr h=>
  rw[h] at h0;cases h0
  cases hb with
  | dead=>trivial
  | var=>exact hle.elim
  | arr=>exact hle
  | nest=>exact hle.elim
  | map=>exact hle.elim
 | map h=>
  rw[h] at h0;cases h0
  cases hb with
  | dead=>trivial
  | map=>exact hle
  | _=>exact hle.elim
 | nest h=>
  rw[h] at h0;cases h0
  cases hb with
  | dead=>trivial
  | var=>exact hle.elim
  | arr=>exact hle
  | map=>exact hle.elim
  | @nest e es v1 v2=>
   obtain ⟨e1,b7,s7,e2,bQ,k1,k2⟩:=hn ⟨_,_,_,rfl⟩
   cases k2
   change hp id=_ at k1
   rw[h] at k1;cases k1
   exact ⟨hle.1,hle.2.1,by simp,fun k=>My⟩
theorem dH.other {p:Place} {o:Option Nat} {blk:an} (h:dH P w β hp p o blk) (he:hp' p.id=hp p.id):dH P w β hp' p o blk:=by
 cases h with
 | var h=>exact .var (he.trans h)
 | arr h=>exact .arr (he.trans h)
 | nest h=>exact .nest (he.trans h)
 | map h=>exact .map (he.trans h)
 | row h a b c d e f g=>exact .row (he.trans h) a b c d e f g
open Classical in
theorem Mz (S:aE P w I β hp B M w0) {pl:List Place} {o:Nat→Option Nat} {bs:List an} {nb:Nat} {bk fr:List (Nat × an)} {σ:List Place} (qb:σ=pl++qV nb (bs.length-pl.length)) (yK:fr=pD σ nb (bs.drop pl.length))
  (jM:(pl.map Place.id).Nodup) (pQ:pl.length≤bs.length)
  (oR: ∀(j:Nat) p,pl[j]? =some p→∃id b,p= .blk id∧(id,b)∈bk) (CF: ∀q∈bk,∃(j:Nat) (b:an),pl[j]? =some (.blk q.1)∧bs[j]? =some b∧fK σ b q.2∧yJ hp q)
  (hl: ∀j blk,hp0 j=some blk→∃p,dO pl j=some p∧dH P w β hp p (o j) blk) (hd: ∀j,j<pl.length→∃blk,hp0 j=some blk)
  (Sc:aE P w' I2 bP (jc bs) w.heap.size (nO P w o hp0) ⟨w,I⟩) (vl:kj w I o hp0 w' I2 bP (jc bs)) (rr: ∀q∈fr,hp q.1=none):
  ∃β',Le P w I β hp w' I2 β' (bA hp (fr++bk))∧aE P w' I2 β' (bA hp (fr++bk)) B M w0∧oQ σ bP (jc bs) β' (bA hp (fr++bk)):=by
 generalize G2:bA hp (fr++bk)=gr
 let β':Nat→Option Nat:=fun n=>if∃q∈fr,q.1=n then bP (pl.length+(n-nb)) else β n
 have MA: ∀(j:Nat) id,pl[j]? =some (.blk id)→∃c,hp0 j=some c∧dH P w β hp (.blk id) (o j) c:=by
  intro j id hj
  obtain ⟨c,hc⟩:=hd j (bj.1 hj).1
  obtain ⟨p,h1,U⟩:=hl j c hc
  rw[k9,hj] at h1
  cases h1
  exact ⟨c,hc,U⟩
 have uniq: ∀(j1 j2:Nat) id,pl[j1]? =some (.blk id)→pl[j2]? =some (.blk id)→j1=j2:=by
  intro j1 j2 id h1 U
  have m1:(pl.map Place.id)[j1]? =some id:=by rw[gk,h1];rfl
  have m2:(pl.map Place.id)[j2]? =some id:=by rw[gk,U];rfl
  obtain ⟨z1,z2⟩:=bj.1 m1
  obtain ⟨z3,z4⟩:=bj.1 m2
  exact (List.getElem_inj jM).1 (z2.trans z4.symm)
 have cls: ∀id,(∃i b,id=nb+i∧bs[pl.length+i]? =some b∧gr id=some (sn σ b)∧hp id=none∧β' id=bP (pl.length+i))∨
   (∃(j:Nat) (b b' c b0:an),pl[j]? =some (.blk id)∧bs[j]? =some b∧hp0 j=some c∧dH P w β hp (.blk id) (o j) c∧hp id=some b0∧b0.le b'∧gr id=some b'∧fK σ b b'∧yJ hp (id,b')∧β' id=β id∧c.le b∧(b≠ .dead→bP j=β id))∨
   (gr id=hp id∧(∀j:Nat,pl[j]? ≠some (.blk id))∧β' id=β id):=by
  intro id
  by_cases hm: ∃b,(id,b)∈fr++bk
  ·obtain ⟨b,hm⟩:=hm
   obtain ⟨b',BO,he⟩:=BL (hp:=hp) hm
   rw[G2] at he
   rcases eh.1 BO with h|h
   ·have h0:=rr _ h
    have nP:β' id=bP (pl.length+(id-nb)):=aj ⟨_,h,rfl⟩
    rw[yK] at h
    obtain ⟨i,b1,k1,k2⟩:=Ms h
    rw[gI] at k1
    cases k2
    exact .inl ⟨i,b1,rfl,k1,he,h0,by rw[nP];congr 2;omega⟩
   ·obtain ⟨j,b1,q1,q2,q3,q4⟩:=CF _ h
    obtain ⟨c,c1,c2⟩:=MA j id q1
    obtain ⟨c3,b0,c4,c5⟩:=c2.G1
    obtain ⟨b2,d1,d2,d3⟩:=vl.blk j c c1
    rw[gB,q2] at d1
    cases d1
    refine .inr (.inl ⟨j,b1,b',c,b0,q1,q2,c1,c2,c4,c2.Wq c4 d2 q3 q4,he,q3,q4,ai ?_,d2,fun h=>(d3 h).trans c3⟩)
    rintro ⟨q,hq,Wr⟩
    rw[←Wr,rr q hq] at c4
    cases c4
  ·refine .inr (.inr ⟨?_,fun j hj=> ?_,ai ?_⟩)
   ·rcases sE (hp:=hp) (l:=fr++bk) (id:=id) with h|⟨b,hb,_⟩
    ·rw[G2] at h;exact h
    ·exact absurd ⟨b,hb⟩ hm
   ·obtain ⟨aC,b,e,hb⟩:=oR j _ hj
    cases e
    exact hm ⟨b,eh.2 (.inr hb)⟩
   ·rintro ⟨q,hq,rfl⟩
    exact hm ⟨q.2,eh.2 (.inl hq)⟩
 have MB: ∀b,nO P w o hp0 b→∃(j id:Nat) (b1:an),pl[j]? =some (.blk id)∧hp id=some b1∧bn P w (β id) b1 b∧∀e es,b1≠ .arr e es true:=by
  rintro b ⟨j,c,hc,ho⟩
  obtain ⟨p,h1,U⟩:=hl j c hc
  rw[k9] at h1
  obtain ⟨id,b2,rfl,_⟩:=oR j p h1
  obtain ⟨b1,k1,k2,k3⟩:=U.s6 ho
  exact ⟨j,id,b1,h1,k1,k2,k3⟩
 have other: ∀id blk b,hp id=some blk→bn P w (β id) blk b→(∀j:Nat,pl[j]? ≠some (.blk id))→¬nO P w o hp0 b∧w'.heap[b]? =w.heap[b]? ∧(I2 b→I b):=by
  intro id blk b e1 e3 e4
  have nQ: ¬nO P w o hp0 b:=by
   intro hx
   obtain ⟨j,aC,b1,i1,i2,i3,_⟩:=MB b hx
   have:=S.h.inj id aC _ _ b e1 i2 e3 i3
   subst this
   exact e4 j i1
  have aO:=S.h.lt e1 e3
  refine ⟨nQ,Sc.bU b aO nQ,fun h=> ?_⟩
  rcases Sc.new b h with h|h|h
  ·exact h
  ·exact absurd h nQ
  ·omega
 have rk:oQ σ bP (jc bs) β' gr:=by
  refine ⟨fun j b hj=> ?_,fun j hj=> ?_,fun j id ver path hj=> ?_⟩
  ·rw[gB] at hj
   by_cases bV:j<pl.length
   ·obtain ⟨id,b1,e,kY⟩:=oR j _ (bE bV)
    have CG:pl[j]? =some (.blk id):=by rw[bE bV,e]
    have G3:dO σ j=some (.blk id):=by rw[qb];exact nM (by rw[k9];exact CG)
    rcases cls id with ⟨i,b2,c1,c2,c3,c4,c5⟩|⟨j',b2,b',c,b0,q1,q2,q3,q4,q5,q6,q7,q8,q9,oS,vm,qc⟩|⟨c1,c2,c3⟩
    ·obtain ⟨c,d1,d2⟩:=MA j id CG
     obtain ⟨_,b0,d3,_⟩:=d2.G1
     rw[d3] at c4;cases c4
    ·obtain rfl:=uniq _ _ _ q1 CG
     rw[hj] at q2;cases q2
     exact ⟨id,b',G3,q7,q8,fun h=>oS.trans (qc h).symm⟩
    ·exact absurd CG (c2 j)
   ·have MC:=(bj.1 hj).1
    have G3:dO σ j=some (.blk (nb+(j-pl.length))):=by
     rw[qb,k9,gK (by omega)]
     exact CE (by omega)
    have hm:(nb+(j-pl.length),sn σ b)∈fr:=by
     rw[yK]
     refine Mt ?_
     rw[gI,show pl.length+(j-pl.length)=j by omega]
     exact hj
    rcases cls (nb+(j-pl.length)) with ⟨i,b2,c1,c2,c3,c4,c5⟩|⟨j',b2,b',c,b0,q1,q2,q3,q4,q5,q6,q7,q8,q9,oS,vm,qc⟩|⟨c1,c2,c3⟩
    ·have hi:i=j-pl.length:=by omega
     subst hi
     rw[show pl.length+(j-pl.length)=j by omega] at c2 c5
     rw[hj] at c2;cases c2
     exact ⟨_,_,G3,c3,.of σ _,fun _=>c5⟩
    ·rw[rr _ hm] at q5;cases q5
    ·obtain ⟨b',BO,he⟩:=BL (hp:=hp) (l:=fr++bk) (eh.2 (.inl hm))
     rw[G2,c1,rr _ hm] at he
     cases he
  ·rw[gB] at hj
   have:=List.getElem?_eq_none_iff.1 hj
   rw[qb,k9,List.getElem?_eq_none_iff,b8,G0]
   omega
  ·rw[qb,k9] at hj
   by_cases bV:j<pl.length
   ·rw[hU bV] at hj
    obtain ⟨aC,b1,e,_⟩:=oR j _ hj
    cases e
   ·have MC:j-pl.length<bs.length-pl.length:=by
     have:=(bj.1 hj).1
     rw[b8,G0] at this
     omega
    rw[gK (by omega),CE MC] at hj
    cases hj
 have hle:Le P w I β hp w' I2 β' gr:=by
  refine ⟨vl.cV,vl.bU,fun id blk ab=> ?_,fun id blk blk' b ab bx qd hb=> ?_,fun id e es aq e' aJ vers' b q i c t v e1 l ab bx hb aO hv ht hc=> ?_⟩
  ·rcases cls id with ⟨i,b2,c1,c2,c3,c4,c5⟩|⟨j',b2,b',c,b0,q1,q2,q3,q4,q5,q6,q7,q8,q9,oS,vm,qc⟩|⟨c1,c2,c3⟩
   ·rw[ab] at c4;cases c4
   ·rw[ab] at q5;cases q5
    exact ⟨b',q7,q6,fun _=>oS⟩
   ·exact ⟨blk,c1.trans ab,an.le_refl _,fun _=>c3⟩
  ·rcases cls id with ⟨i,b2,c1,c2,c3,c4,c5⟩|⟨j',b2,b',c,b0,q1,q2,q3,q4,q5,q6,q7,q8,q9,oS,vm,qc⟩|⟨c1,c2,c3⟩
   ·rw[ab] at c4;cases c4
   ·rw[q7] at bx;cases bx
    exact vl.size j' c b2 b q3 (by rw[gB];exact q2) (q8.Mw qd) (q4.G1.1.trans hb)
   ·rw[c1,ab] at bx
    cases bx
    simp only[bsize,(other id blk b ab (.root qd hb) c2).2.1]
  ·rcases cls id with ⟨i2,b2,c1,c2,c3,c4,c5⟩|⟨j',b2,b',c',b0,q1,q2,q3,q4,q5,q6,q7,q8,q9,oS,vm,qc⟩|⟨c1,c2,c3⟩
   ·rw[ab] at c4;cases c4
   ·rw[q7] at bx;cases bx
    obtain ⟨_,_,s7,_,_,k1,k2⟩:=q9 ⟨_,_,_,rfl⟩
    change hp id=_ at k1
    rw[ab] at k1;cases k1
    cases k2
    rw[Mx aO] at hv
    omega
   ·rw[c1,ab] at bx
    cases bx
    exact ⟨l,rfl,hc.mono fun _ _ _ _ h=>(other id _ _ ab (.row hb h) c2).2.1⟩
 have place: ∀id blk b,gr id=some blk→bn P w' (β' id) blk b→(∃j c,jc bs j=some c∧bn P w' (bP j) c b∧dO σ j=some (.blk id))∨(b<w.heap.size∧¬nO P w o hp0 b∧hp id=some blk∧bn P w (β id) blk b):=by
  intro id blk b e1 e3
  rcases cls id with ⟨i,b2,c1,c2,c3,c4,c5⟩|⟨j',b2,b',c,b0,q1,q2,q3,q4,q5,q6,q7,q8,q9,oS,vm,qc⟩|⟨c1,c2,c3⟩
  ·rw[c3] at e1;cases e1
   rw[c5] at e3
   refine .inl ⟨pl.length+i,b2,by rw[gB];exact c2,(fK.of σ b2).s6 e3,?_⟩
   have:=(bj.1 c2).1
   rw[qb,k9,gK (by omega),CE (by omega),c1]
   congr 3
   omega
  ·rw[q7] at e1;cases e1
   have qd:b2≠ .dead:=q8.Mw e3.alive
   rw[oS,←qc qd] at e3
   exact .inl ⟨j',b2,by rw[gB];exact q2,q8.s6 e3,by rw[qb];exact nM (by rw[k9];exact q1)⟩
  ·rw[c1] at e1
   rw[c3] at e3
   have:=e3.mono (w:=w) fun b hb=>(other id blk b e1 hb c2).2.1
   exact .inr ⟨S.h.lt e1 this,(other id blk b e1 this c2).1,e1,this⟩
 have q0: ∀b,nO P w o hp0 b∨w.heap.size≤b→M b∨B≤b:=by
  rintro b (h|h)
  ·obtain ⟨j,id,b1,i1,i2,i3,_⟩:=MB b h
   exact S.h.own id b1 b i2 i3
  ·exact .inr (lu S.size h)
 have G4: ∀j c b,jc bs j=some c→bn P w' (bP j) c b→nO P w o hp0 b∨w.heap.size≤b:=fun j c b h1 U=>Sc.h.own j c b h1 U
 refine ⟨β',hle,⟨⟨fun id blk ab=> ?_,fun i1 i2 b1 b2 b e1 e2 f1 f2=> ?_,fun id blk b ab hb=> ?_,Sc.h.jg⟩,fun b hb hM=> ?_,lu S.size Sc.size,fun b hb=> ?_,⟨Sc.io.1.trans S.io.1,Sc.io.2.trans S.io.2⟩⟩,rk⟩
 ·rcases cls id with ⟨i,b2,c1,c2,c3,c4,c5⟩|⟨j',b2,b',c,b0,q1,q2,q3,q4,q5,q6,q7,q8,q9,oS,vm,qc⟩|⟨c1,c2,c3⟩
  ·rw[c3] at ab;cases ab
   rw[c5]
   exact rk.Mv (Sc.h.rel _ b2 (by rw[gB];exact c2)) (.of σ b2)
  ·rw[q7] at ab;cases ab
   have:=rk.Mv (Sc.h.rel j' b2 (by rw[gB];exact q2)) q8
   by_cases qd:b2= .dead
   ·subst qd
    cases q8
    exact .dead
   ·rw[oS,←qc qd]
    exact this
  ·rw[c1] at ab
   rw[c3]
   exact (S.h.rel id blk ab).mono hle fun b hb=>(other id blk b ab hb c2).2
 ·rcases place i1 b1 b e1 f1 with ⟨j1,c1,g1,g2,g3⟩|⟨g1,g2,g3,g4⟩<;>rcases place i2 b2 b e2 f2 with ⟨j2,c2,k1,k2,k3⟩|⟨k1,k2,k3,k4⟩
  ·have:=Sc.h.inj j1 j2 c1 c2 b g1 k1 g2 k2
   subst this
   rw[g3] at k3
   cases k3
   rfl
  ·rcases G4 j1 c1 b g1 g2 with h|h
   ·exact absurd h k2
   ·omega
  ·rcases G4 j2 c2 b k1 k2 with h|h
   ·exact absurd h g2
   ·omega
  ·exact S.h.inj i1 i2 _ _ b g3 k3 g4 k4
 ·rcases place id blk b ab hb with ⟨j1,c1,g1,g2,g3⟩|⟨g1,g2,g3,g4⟩
  ·exact q0 b (G4 j1 c1 b g1 g2)
  ·exact S.h.own id blk b g3 g4
 ·refine (Sc.bU b (qG hb S.size) fun hx=> ?_).trans (S.bU b hb hM)
  rcases q0 b (.inl hx) with h|h
  ·exact hM h
  ·omega
 ·rcases Sc.new b hb with h|h|h
  ·exact S.new b h
  ·exact .inr (q0 b (.inl h))
  ·exact .inr (q0 b (.inr h))
end
section
variable {P:Program} {A:ct} {w w':World} {I I' I2:Nat→Prop} {μ β β' bP:Nat→Option Nat} {hp hp' hp0 bh:Nat→Option an} {C:ag} {B:Nat} {M:Nat→Prop} {w0:Start}
theorem MD (hp:Nat→Option an): ∀(a b:List (Nat × an)),bA hp (a++b)=bA (bA hp b) a
 | [],b=>rfl
 | (i,x)::a,b=>by simp only[List.cons_append,bA,MD hp a b]
theorem vn {hp:Nat→Option an} {l:List (Nat × an)} {id:Nat} (h: ∀q∈l,q.1≠id):bA hp l id=hp id:=by
 rcases sE (hp:=hp) (l:=l) (id:=id) with h1|⟨b,hb,_⟩
 ·exact h1
 ·exact absurd rfl (h _ hb)
def xj (P : Program) : Prop := ∀ (f : Nat) fn, P.funcs[f]? = some fn → (fn.name == "runtime.NumGoroutine") = false
def ME (P:Program) (f:FuncId) (e:TypeId):Prop:=
 (∀args w,(callFunc f args).run P w= .ok (.enter f args) w)∧∃t,P.underlying t=some (.slice e)∧
  ∀(s:Value) (w:World) (Q:Ending→World→Prop),(s= .slice none 0 0→Q (.returned (.slice none 0 0)) w)→
   (∀a n c,s= .slice (some a) n c→∃v w',(Builtin.append_ #[t,t] t #[.slice (some ⟨w.heap.size,0,none⟩) 0 0,s]).run P (w.alloc (.cells #[] e))= .ok v w'∧Q (.returned v) w')→
   (s= .slice none 0 0∨∃a n c,s= .slice (some a) n c)→Calls P f #[s] w Q
structure iR (P:Program) (A:ct):Prop where
 count:xj P
 ext: ∀f T,A.ext f=some T→∀(b:Nat) (C:Array Value) (w:World),w.heap[b]? =some (.cells C T (0,0))→C.size=P.cellsOf T→(C[0]? =some (.pointer none)∨C[0]? =some (.pointer (some ⟨b,0,none⟩)))→
  (callFunc f #[.pointer (some ⟨b,0,none⟩)]).run P w= .ok (.enter f #[.pointer (some ⟨b,0,none⟩)]) w∧
  Calls P f #[.pointer (some ⟨b,0,none⟩)] w fun e w'=>e= .returned (.tuple #[])∧(w'=w∨w'=w.setCell ⟨b,0,none⟩ (.pointer (some ⟨b,0,none⟩)))
 idle: ∀f,A.idle f=true→(∀args w,(callFunc f args).run P w= .ok (.enter f args) w)∧
  ∀args w,CallsD P f args .returning w fun e u' w'=>(∃v,e= .returned v)∧u'= .returning∧w'=w
 nt: ∀f e,A.nt f=some e→ME P f e
theorem iR.here {P:Program} {A:ct} (h:iR P A) (f id:Nat):iR P (A.here f id):=⟨h.count,h.ext,h.idle,h.nt⟩
def yL (E:FuncId→Bool) (d:Deferred):Prop:= ∃f cap,d.target= .fn (.func f) cap∧E f=true
theorem G5 {P:Program} {A:ct} (hP:iR P A) {fn:Func} {tmps:Array Value} {R:Ending→World→Prop} {w:World} {v:Value} (hv:(results fn tmps).run P w= .ok v w) (hR:R (.returned v) w):
  ∀ds:List Deferred,(∀d∈ds,yL A.idle d)→Leaves P fn tmps R ds .returning w
 | [],_=>⟨v,hv,hR⟩
 | d::ds,h=>by
  obtain ⟨f,cap,ht,hf⟩:=h d (by simp)
  obtain ⟨k1,k2⟩:=hP.idle f hf
  obtain ⟨t,MF⟩:=d
  simp only at ht
  subst ht
  refine leaves_cons (f:=f) (args:=MF++cap) (by simp) ?_ ?_
  ·simp only[invoke];exact k1 _ w
  ·refine (k2 (MF++cap) w).mono fun e u' w' hr=> ?_
   obtain ⟨⟨v',rfl⟩,rfl,rfl⟩:=hr
   exact G5 hP hv hR ds fun d hd=>h d (kJ _ hd)
def yM (P:Program) (A:ct) (o:Oper) (a:Act) (w:World) (I:Nat→Prop) (β:Nat→Option Nat) (hp:Nat→Option an) (B:Nat) (M:Nat→Prop) (w0:Start) (r:R):Prop:=
 ∀(next:Act→World→Prop) (Q:Exit→Act→World→Prop),
  (∀v w' I' β' ds,Le P w I β hp w' I' β' (bA hp r.upd)→aE P w' I' β' (bA hp r.upd) B M w0→ao P w' I' β' (bA hp r.upd) v r.v→(∀d∈ds,d∈a.defers∨yL A.idle d)→next ({a with defers:=ds}.put o.dst v) w')→o.wp P a w next Q
theorem oG.step {o:Oper} {a:Act} {r:R} (h:oG P ((execOp a.eval o).run P w) w I β hp B M w0 r):yM P A o a w I β hp B M w0 r:=by
 obtain ⟨v,w',I',β',h1,U,h3,h4⟩:=h
 intro next Q hn
 unfold Oper.wp
 rcases h1 with h1|⟨h1,rfl⟩
 ·rw[h1];exact hn v w' I' β' a.defers U h3 h4 fun d hd=> .inl hd
 ·rw[h1];exact hn _ w' I' β' a.defers U h3 h4 fun d hd=> .inl hd
theorem MG: ∀(l:List (Nat × VS)),nw l=qU (l.map (·.2))
 | []=>rfl
 | (_,s)::l=>by simp only[nw,cG,qU,MG l]
theorem Ws (hC:km P A C) (S:aE P w I β hp B M w0) (hg:gh P A.aD w I) {vals:List Value} {args:List V} {nb key:Nat} {f:FuncId} {r:R} {rd:List Nat} (hlen:vals.length=args.length)
  (cp: ∀(j:Nat) v x,vals[j]? =some v→args[j]? =some x→ao P w I β hp v x) (h:(xN P A nb key f args).run C hp=some (r,rd)):
  ∃fn c,P.funcs[f]? =some fn∧fn.body=some c∧Calls P f vals.toArray w fun e w'=> ∃v I' β',e= .returned v∧Le P w I β hp w' I' β' (bA hp r.upd)∧aE P w' I' β' (bA hp r.upd) B M w0∧ao P w' I' β' (bA hp r.upd) v r.v:=by
 unfold xN at h
 obtain ⟨MH,h0⟩:=aF h
 clear h
 rw[aP] at MH
 subst MH
 obtain ⟨h1,iQ,d1,u1,a1,a2,a3,a5,a4⟩:=GX S h0 hlen cp
 obtain ⟨U,rq,d2,u2,b1,b2,b3,b4⟩:=Mk S a1
 clear h0 a1
 obtain ⟨hc,h3⟩:=aF b1
 clear b1
 simp only[aI,aP,mh] at hc
 obtain ⟨bK,CD⟩:=hc
 have ru:=a2.trans b2
 have kH:U.ds=d1++d2:=by have:=ru.ds;simpa using this
 have CH:U.upd=u1++u2:=by have:=ru.upd;simpa using this
 have jM:(U.pl.map Place.id).Nodup:=ru.nodup (by simp)
 obtain ⟨c1,o,c2,c3⟩:=b4 []
 simp only[dz] at c1 c2 c3
 cases yN:C key U.ds with
 | none=>
  simp only[Rd.run,yN] at h3
  cases h3
 | some es=>
  have pN: ∃ez,(xM P (A.so key es) nb U (A.lv key es)).run C hp=some (r,ez):=by
   obtain ⟨x,hx,e⟩:=bind_some h3
   rw[yN] at hx
   cases hx
   unfold ct.so ct.lv
   cases bW:A.alt key with
   | none=>rw[bW] at e;exact ⟨_,e⟩
   | some S2=>
    rw[bW] at e
    simp only[Rd.run] at e
    cases hb:(V.nth es 0).toBool<;>(rw[hb] at e;exact ⟨_,e⟩)
  clear h3
  obtain ⟨ez,h3⟩:=pN
  unfold xM at h3
  simp only at h3
  generalize gu:ej (A.so key es).a8 ((A.lv key es).drop (nw (A.so key es).bI))=bs at h3
  generalize qb:U.pl++qV nb (bs.length-U.pl.length)=σ at h3
  generalize yK:pD σ nb (bs.drop U.pl.length)=fr at h3
  obtain ⟨p0,bk,rd4,p1,p2,_,p3⟩:=Mr h3
  obtain ⟨rr,rd5,p4⟩:=Mu p1
  obtain rfl:=aM p4
  have pQ:U.pl.length≤bs.length:=by rw[ff] at p0;omega
  have CF: ∀q∈bk,∃(j:Nat) (b:an),U.pl[j]? =some (.blk q.1)∧bs[j]? =some b∧fK σ b q.2∧yJ hp q:=by
   intro q hq
   rcases p2 q hq with hx|⟨j,b,k1,k2,k3,k4⟩
   ·simp at hx
   ·have hj:=(bj.1 k1).1
    rw[eD hj] at k2
    exact ⟨j,b,k1,k2,k3,k4⟩
  obtain ⟨fn,c,hf,hb,G6⟩:=hC key U.ds es yN
  refine ⟨fn,c,hf,hb,?_⟩
  have Wt:ej (A.sin key).a8 (U.ds.drop (nw (A.sin key).bI))=ej (A.sin key).a8 d2:=by
   rw[kH,MG,mM a3]
  have G7:(bd (A.sin key) U.ds).hp=jc (ej (A.sin key).a8 d2):=by
   simp only[bd,mk,Wt]
  have hl: ∀j blk,(bd (A.sin key) U.ds).hp j=some blk→∃p,dO U.pl j=some p∧dH P w β hp p (o j) blk:=by
   intro j blk hj
   rw[G7,gB] at hj
   obtain ⟨p,k1,k2⟩:=c2 j blk hj
   rw[gi] at k1
   exact ⟨p,k1,k2⟩
  have hd: ∀j,j<U.pl.length→∃blk,(bd (A.sin key) U.ds).hp j=some blk:=by
   intro j hj
   rw[G7,gB]
   exact ⟨_,bE (by rw[c1,←bK];exact hj)⟩
  have MI:yE P w β hp U.pl o (bd (A.sin key) U.ds).hp:=by
   intro j p hj
   obtain ⟨blk,k1⟩:=hd j (by rw[k9] at hj;exact (bj.1 hj).1)
   obtain ⟨p',k2,k3⟩:=hl j blk k1
   rw[hj] at k2
   cases k2
   exact ⟨blk,k1,k3⟩
  obtain ⟨pX,S1⟩:=yd S ru.Cw
  rw[←CH] at pX S1
  have i1: ∀b,I b→ik P w I β hp U.upd b:=fun b h=> .inl h
  have entry:=Wm (hp0:=(bd (A.sin key) U.ds).hp) S jM CD hl (fun cC j blk hj=>by
   have fS:=hj
   rw[G7,gB] at fS
   exact c3 (ik P w I β hp U.upd) o _ i1 (fun q hq b hb=> .inr ⟨q,by rw[CH];exact eh.2 (.inr hq),hb⟩) U.pl [] (by simp) MI j blk fS (cC j blk hj)) S1.h.jg
  have Wu:vals.length=(A.sin key).bI.length:=by rw[hlen,←a5];simp
  have ha:=G6 w (ik P w I β hp U.upd) o vals entry (hg.mono i1 fun _ _=>rfl) Wu fun j v x hj hx=>by
   rw[kH] at hx
   exact (((a4.yF b2) (ik P w I β hp U.upd) o _ i1 (fun q hq b hb=> .inr ⟨q,by rw[CH];exact hq,hb⟩) U.pl [] (by simp) MI) d2).2 j v x hj hx
  refine ha.mono fun e w' yO=> ?_
  obtain ⟨v,I2,bP,rfl,ha⟩:=yO
  have vo:(bd (A.so key es) (A.lv key es)).hp=jc bs:=by simp only[bd,mk,gu]
  cases Wv:(A.so key es).safe P with
  | true=>
   simp only[cond_true,dz]
   have gy: ∀b,I b→I2 b:=fun b h=>ha.le.cV b (i1 b h)
   obtain ⟨s1,s2⟩:=Wp Wv gy ha.vk i1
   have vl:kj w I o (bd (A.sin key) U.ds).hp w' I bP (jc bs):=by
    rw[←vo]
    exact ⟨fun _ h=>h,fun b h=>ha.le.bU b (i1 b h),ha.le.blk,ha.le.size⟩
   obtain ⟨β',k1,k2,k3⟩:=Mz S qb.symm yK.symm jM pQ p3 CF hl hd (by rw[←vo];exact ⟨s1.h,s1.bU,s1.size,fun b h=> .inl h,s1.io⟩) vl rr
   exact ⟨v,I,β',rfl,k1,k2,k3.val (by have:=s2 v ha.res;rw[vo] at this;exact this)⟩
  | false=>
   simp only[cond_false]
   rw[←ca,MD]
   have nQ: ∀p∈U.pl,bA hp U.upd p.id=hp p.id:=fun p hp=>vn fun q hq e=>
    CB CD (gj.2 ⟨q,hq,rfl⟩) (e▸gj.2 ⟨p,hp,rfl⟩)
   have Ww: ∀q∈bk,∃(j:Nat) (b:an),U.pl[j]? =some (.blk q.1)∧bs[j]? =some b∧fK σ b q.2∧yJ (bA hp U.upd) q:=by
    intro q hq
    obtain ⟨j,b,k1,k2,k3,k4⟩:=CF q hq
    refine ⟨j,b,k1,k2,k3,fun hn=> ?_⟩
    have:=nQ _ (jb k1)
    simp only[Place.id] at this
    rw[this]
    exact k4 hn
   have uP: ∀j blk,(bd (A.sin key) U.ds).hp j=some blk→∃p,dO U.pl j=some p∧dH P w β (bA hp U.upd) p (o j) blk:=by
    intro j blk hj
    obtain ⟨p,k1,k2⟩:=hl j blk hj
    exact ⟨p,k1,k2.other (nQ p (by rw[k9] at k1;exact jb k1))⟩
   have Wx: ∀q∈fr,bA hp U.upd q.1=none:=by
    intro q hq
    rw[vn fun q' yP e=> ?_]
    ·exact rr q hq
    ·obtain ⟨e1,b7,_,h5⟩:=ru.Cw q' (CH▸yP)
     rw[e,rr q hq] at h5
     rcases h5 with ⟨_,h5⟩|⟨_,h5⟩<;>cases h5
   obtain ⟨β',k1,k2,k3⟩:=Mz S1 qb.symm yK.symm jM pQ p3 Ww uP hd (by rw[←vo];exact ha.vk) (by rw[←vo];exact ha.le) Wx
   exact ⟨v,I2,β',rfl,pX.trans k1,k2,k3.val (by have:=ha.res;rw[vo] at this;exact this)⟩
theorem MJ (hC:km P A C) (hP:iR P A) (S:aE P w I β hp B M w0) (hg:gh P A.aD w I) {a:Act} {nb key:Nat} {o:Oper} {f:FuncId} {vals:List Value} {args:List V} (hlen:vals.length=args.length)
  (cp: ∀(j:Nat) v x,vals[j]? =some v→args[j]? =some x→ao P w I β hp v x) {r:R} {rd:List Nat} (h:(xN P A nb key f args).run C hp=some (r,rd))
  (hex:(execOp a.eval o).run P w=(callFunc f vals.toArray).run P w):yM P A o a w I β hp B M w0 r:=by
 intro next Q hn
 obtain ⟨fn,c,hf,hb,G6⟩:=Ws hC S hg hlen cp h
 unfold Oper.wp
 rw[hex,MuLone.run_callFunc_enter hf (hP.count f _ hf) hb,Oper.upon_enter]
 refine G6.mono fun e w' yO=> ?_
 obtain ⟨v,I2,bP,rfl,k1,k2,k3⟩:=yO
 exact hn v w' I2 bP a.defers k1 k2 k3 fun d hd=> .inl hd
theorem ka.args {a:Act} {sl:Nat→V} (hs:ka P w I β hp a sl) (hg:gh P A.aD w I) {args:Array Operand} {ts:Array TypeId} (aR:args.size=ts.size):
  (args.map a.eval).toList.length=((args.toList.zip ts.toList).map fun p=>aN P A.aD p.2 sl p.1).length∧
  ∀(j:Nat) v x,(args.map a.eval).toList[j]? =some v→((args.toList.zip ts.toList).map fun p=>aN P A.aD p.2 sl p.1)[j]? =some x→ao P w I β hp v x:=by
 refine ⟨by simp;omega,fun j v x hv hx=> ?_⟩
 simp only[Array.toList_map,gk,List.getElem?_zip_eq_some,xu] at hv hx
 obtain ⟨x1,yQ,rfl⟩:=hv
 obtain ⟨⟨y1,t1⟩,⟨MK,_⟩,rfl⟩:=hx
 rw[yQ] at MK
 cases MK
 exact hs.ev hg t1 _
theorem ML {vs us:List Value} {xs ys:List V} (h1:vs.length=xs.length) (U: ∀(j:Nat) v x,vs[j]? =some v→xs[j]? =some x→ao P w I β hp v x)
  (h3: ∀(j:Nat) v x,us[j]? =some v→ys[j]? =some x→ao P w I β hp v x) (j:Nat) (v:Value) (x:V) (hv:(vs++us)[j]? =some v) (hx:(xs++ys)[j]? =some x):ao P w I β hp v x:=by
 by_cases hj:j<vs.length
 ·rw[hU hj] at hv
  rw[hU (by omega)] at hx
  exact U j v x hv hx
 ·rw[gK (by omega)] at hv
  rw[gK (by omega)] at hx
  rw[h1] at hv
  exact h3 _ v x hv hx
theorem Wy (hP:iR P A) (S:aE P w I β hp B M w0) (hg:gh P A.aD w I) {a:Act} {sl:Nat→V} (hs:ka P w I β hp a sl) {dst:Option Tmp} {ty e:TypeId} {pos:String} {after:Array Edge} {guard:Option (Nat × Bool)} {f:FuncId}
  {args:Array Operand} {argTypes:Array TypeId} {nb:Nat} {r:R} {rd:List Nat} (ki:A.nt f=some e)
  (h:((match args.toList with
    | [x]=> .aB (cD P e) (qS e (aN P A.aD ty sl x) fun xs=> .aB (Nat.ble (xs.length*P.bytesOf e) cB) (iK nb (.arr e xs false) (.whole e nb) []))
    | _=> .fail):Rd R).run C hp=some (r,rd)):yM P A (Oper.mk dst (.call (Go.Call.mk (.value (.func f)) args argTypes)) ty pos after guard) a w I β hp B M w0 r:=by
 cases ha:args.toList with
 | nil=>rw[ha] at h;cases h
 | cons x l=>
  rw[ha] at h
  cases l with
  | cons _ _=>cases h
  | nil=>
   simp only at h
   have e1:args= #[x]:=by rw[←Array.toArray_toList (xs:=args),ha]
   subst e1
   have hx:=hs.ev hg ty x
   obtain ⟨au,h⟩:=aF h
   have fin: ∀{w1:World} {CI:Nat→Option Nat},(∀id blk,hp id=some blk→dE P w1 I CI hp (CI id) blk)→ao P w1 I CI hp (a.eval x) (aN P A.aD ty sl x)→∃xs,(((∃a',a.eval x= .slice a' 0 0)∧xs=[])∨∃a' c news,Row P w1 I e (a.eval x) xs a' c news)∧
     xs.length*P.bytesOf e≤cB∧hp nb=none∧r=⟨.whole e nb,[(nb,.arr e xs false)]⟩:=by
    intro w1 CI h1 U
    obtain ⟨xs,kZ,l,h⟩:=Ch h1 au U h
    obtain ⟨dA,h⟩:=aF h
    rw[dC] at dA
    obtain ⟨hn,rfl⟩:=mI h
    exact ⟨xs,kZ,dA,hn,rfl⟩
   obtain ⟨c1,t,hu,c2⟩:=hP.nt f e ki
   intro next Q vp
   unfold Oper.wp
   have e2:(execOp a.eval ⟨dst,.call ⟨.value (.func f),#[x],argTypes⟩,ty,pos,after,guard⟩).run P w= .ok (.enter f #[a.eval x]) w:=by
    have eB:a.eval (.func f)= .func (.func f) #[] #[]:=rfl
    simpa[execOp,resolve,eB,Deferred.ofValue,invoke] using c1 #[a.eval x] w
   rw[e2,Oper.upon_enter]
   refine c2 _ w _ (fun yR=> ?_) (fun b n c pV=> ?_) ?_
   ·obtain ⟨xs,kZ,dA,hn,rfl⟩:=fin S.h.rel hx
    have fT:xs=[]:=by
     rcases kZ with ⟨_,h⟩|⟨a,c,news,hr⟩
     ·exact h
     ·have:=hr.val.symm.trans yR
      cases this
    subst fT
    obtain ⟨a1,a2⟩:=BP S e hn
    exact vp _ w I _ a.defers a1 a2 (.dm (cH _ _ _) (cH _ _ _)) fun d hd=> .inl hd
   ·obtain ⟨m1,m2⟩:=Uc (w':=w.alloc (.cells #[] e)) S (fun b hb=>heap_alloc_old w _ b hb) (by simp) ⟨rfl,rfl⟩
    obtain ⟨xs,kZ,dA,hn,rfl⟩:=fin m2.h.rel (hx.mono m1)
    obtain ⟨v,w',β',a1,a2,a3,a4⟩:=Gl (ty:=t) (a0:=some ⟨w.heap.size,0,none⟩) m2 hu au hn dA kZ
    exact ⟨v,w',a1,vp v w' I β' a.defers (m1.trans a2) a3 a4 fun d hd=> .inl hd⟩
   ·obtain ⟨xs,kZ,dA,hn,rfl⟩:=fin S.h.rel hx
    rcases kZ with ⟨⟨b,h⟩,_⟩|⟨b,c,news,hr⟩
    ·rw[h]
     cases b with
     | none=>exact .inl rfl
     | some b=>exact .inr ⟨_,_,_,rfl⟩
    ·exact .inr ⟨_,_,_,hr.val⟩
theorem Wz (hP:iR P A) (S:aE P w I β hp B M w0) (hg:gh P A.aD w I) {a:Act} {sl:Nat→V} (hs:ka P w I β hp a sl) {dst:Option Tmp} {ty T0:TypeId} {pos:String} {after:Array Edge} {guard:Option (Nat × Bool)} {f:FuncId}
  {args:Array Operand} {argTypes:Array TypeId} {r:R} {rd:List Nat} (yS:A.ext f=some T0)
  (h:((match args.toList with
   | [x]=>
    match aN P A.aD ty sl x with
    | .ptr id i c=>Rd.get id fun
     | some (.var T cs)=> .aB (Nat.beq T T0&&(oz P T&&(Nat.beq cs.length (P.cellsOf T)&&(Nat.beq i 0&&Nat.beq c 0)))) (.ret ⟨.aX [],[(id,.var T (.undef::cs.tail))]⟩)
     | _=> .fail
    | _=> .fail
   | _=> .fail):Rd R).run C hp=some (r,rd)):yM P A (Oper.mk dst (.call (Go.Call.mk (.value (.func f)) args argTypes)) ty pos after guard) a w I β hp B M w0 r:=by
 cases ha:args.toList with
 | nil=>rw[ha] at h;cases h
 | cons x l=>
  rw[ha] at h
  cases l with
  | cons _ _=>cases h
  | nil=>
   simp only at h
   have e1:args= #[x]:=by rw[←Array.toArray_toList (xs:=args),ha]
   subst e1
   have hx:=hs.ev hg ty x
   cases eQ:aN P A.aD ty sl x<;>rw[eQ] at h hx<;>simp only at h<;>first|(cases h;done)|skip
   rename_i id i c
   obtain ⟨l,h1⟩:=run_get h
   cases ab:hp id with
   | none=>rw[ab] at h1;cases h1
   | some blk=>
    rw[ab] at h1
    cases blk<;>simp only at h1<;>first|(cases h1;done)|skip
    rename_i T cs
    obtain ⟨U,h3⟩:=aF h1
    simp only[aI,aP] at U
    obtain ⟨rfl,bL,vq,rfl,rfl⟩:=U
    obtain rfl:=aM h3
    obtain ⟨b,hb,he⟩:=hx.gv ab (by simp)
    have hr:=S.h.rel id _ ab
    rw[hb] at hr
    cases hr with
    | @var _ b' Ca _ az hh aR hI fT fG=>
     cases az
     have gx:a.eval x= .pointer (some ⟨b,0,none⟩):=by rw[he];simp[an.sz]
     obtain ⟨q1,q2⟩:=hP.ext f T yS b Ca w hh (aR.trans vq) (fG bL)
     have h0:0<Ca.size:=by
      rcases fG bL with k|k<;>exact (gJ.1 k).1
     have nE:(V.undef::cs.tail).length=cs.length:=by
      cases cs with
      | nil=>rw[aR] at h0;simp at h0
      | cons _ _=>rfl
     have rel: ∀(C':Array Value),(∀j,0<j→C'[j]? =Ca[j]?)→∀(j:Nat) v y,C'[j]? =some v→(V.undef::cs.tail)[j]? =some y→ao P w I β hp v y:=by
      intro C' u9 j v y hj hy
      cases j with
      | zero=>simp at hy;subst hy;exact .undef
      | succ j=>
       rw[u9 _ (by omega)] at hj
       refine fT (j+1) v y hj ?_
       cases cs with
       | nil=>rw[aR] at h0;simp at h0
       | cons _ _=>simpa using hy
     have fin: ∀w' C',(∀b',b'≠b→w'.heap[b']? =w.heap[b']?)→w'.heap[b]? =some (.cells C' T (0,0))→C'.size=Ca.size→w.heap.size≤w'.heap.size→w'.os=w.os∧w'.output=w.output→
       (∀j,0<j→C'[j]? =Ca[j]?)→(C'[0]? =some (.pointer none)∨C'[0]? =some (.pointer (some ⟨b,0,none⟩)))→
       Le P w I β hp w' I β (aH hp id (some (.var T (V.undef::cs.tail))))∧aE P w' I β (aH hp id (some (.var T (V.undef::cs.tail)))) B M w0:=by
      intro w' C' k1 k2 k3 k4 k5 k6 k7
      exact BR (w':=w') (blk':= .var T (V.undef::cs.tail)) S ab (by simp) rfl hb hI (by simp) k1 (by rw[mC k2,mC hh,k3]) k4 k5 fun hle=>
       .var rfl k2 (by rw[k3,aR,nE]) hI (fun j v y hj hy=>(rel C' k6 j v y hj hy).mono hle) fun _=>k7
     intro next Q hn
     unfold Oper.wp
     have e2:(execOp a.eval ⟨dst,.call ⟨.value (.func f),#[x],argTypes⟩,ty,pos,after,guard⟩).run P w= .ok (.enter f #[.pointer (some ⟨b,0,none⟩)]) w:=by
      have eB:a.eval (.func f)= .func (.func f) #[] #[]:=rfl
      simpa[execOp,resolve,eB,Deferred.ofValue,invoke,gx] using q1
     rw[e2,Oper.upon_enter]
     refine q2.mono fun e w' yO=> ?_
     obtain ⟨rfl,hw⟩:=yO
     have MM:Le P w I β hp w' I β (aH hp id (some (.var T (V.undef::cs.tail))))∧aE P w' I β (aH hp id (some (.var T (V.undef::cs.tail)))) B M w0:=by
      rcases hw with rfl|rfl
      ·exact fin w' Ca (fun _ _=>rfl) hh rfl (b6 _) ⟨rfl,rfl⟩ (fun _ _=>rfl) (fG bL)
      ·refine fin (w.setCell ⟨b,0,none⟩ (.pointer (some ⟨b,0,none⟩))) (Ca.setIfInBounds 0 (.pointer (some ⟨b,0,none⟩))) (fun b' bw=> ?_) ?_ (by simp) (by simp[World.setCell]) ⟨rfl,rfl⟩ (fun j hj=> ?_) (.inr ?_)
       ·simp only[World.setCell,xt]
        rw[ai (fun e=>bw e.symm)]
       ·simp[World.setCell,xt,hh]
       ·rw[Ba (by omega)]
       ·rw[Fj h0]
     exact hn (.tuple #[]) w' I β a.defers MM.1 MM.2 (.aX rfl fun j v y hj _=>by simp at hj) fun d hd=> .inl hd
theorem WA (hC:km P A C) (hP:iR P A) (S:aE P w I β hp B M w0) (hg:gh P A.aD w I) {a:Act} {sl:Nat→V} (hs:ka P w I β hp a sl) {ix nb:Nat} {o:Oper} {r:R} {rd:List Nat}
  (h:(eZ P A sl ix nb o).run C hp=some (r,rd)):yM P A o a w I β hp B M w0 r:=by
 cases hc:GN o.op with
 | false=>exact (V1 S hg hs hc h).step
 | true=>
  obtain ⟨dst,op,ty,pos,after,guard⟩:=o
  cases op<;>simp only[GN] at hc<;>first|(cases hc;done)|skip
  case defer c=>
   obtain ⟨callee,args,argTypes⟩:=c
   cases callee with
   | invoke r m=>simp only[eZ] at h;cases h
   | builtin b=>simp only[eZ] at h;cases h
   | value f=>
   cases f with
   | tmp t=>
    simp only[eZ] at h
    cases bL:sl t<;>rw[bL] at h<;>simp only at h<;>first|(cases h;done)|skip
    rename_i f xs ys
    obtain ⟨h1,U⟩:=aF h
    obtain rfl:=aM U
    have hv:=hs t
    rw[bL] at hv
    generalize sV:a.tmps.getD t undef=vt at hv
    cases hv with
    | @fn _ fs cs _ _ q1 q2 q3 q4=>
     intro next Q hn
     unfold Oper.wp
     have eB:a.eval (.tmp t)= .func (.func f) fs cs:=sV
     have e1:(execOp a.eval ⟨dst,.defer ⟨.value (.tmp t),args,argTypes⟩,ty,pos,after,guard⟩).run P w= .ok (.defer {target:= .fn (.func f) cs,args:=fs++args.map a.eval}) w:=by
      simp[execOp,resolve,eB,Deferred.ofValue]
     rw[e1,Oper.upon_defer]
     exact hn undef w I β _ (Le.refl w I β hp) S .undef fun d hd=>by
      rcases cX.1 hd with rfl|hd
      ·exact .inr ⟨f,cs,rfl,h1⟩
      ·exact .inl hd
   | func f=>simp only[eZ] at h;cases h
   | const _=>simp only[eZ] at h;cases h
   | global _=>simp only[eZ] at h;cases h
  rename_i c
  obtain ⟨callee,args,argTypes⟩:=c
  cases callee with
  | invoke r m=>cases hc
  | builtin b=>cases hc
  | value f=>
   cases f with
   | func f=>
    simp only[eZ] at h
    cases yS:A.ext f with
    | some T0=>
     rw[yS] at h
     simp only at h
     exact Wz hP S hg hs yS h
    | none=>
    rw[yS] at h
    simp only at h
    cases ki:A.nt f with
    | some e0=>
     rw[ki] at h
     simp only at h
     exact Wy hP S hg hs ki h
    | none=>
    rw[ki] at h
    simp only at h
    obtain ⟨h1,U⟩:=aF h
    rw[aP] at h1
    obtain ⟨k1,k2⟩:=hs.args hg h1
    refine MJ hC hP S hg k1 k2 U ?_
    have e1:(args.map a.eval).toList.toArray=args.map a.eval:=Array.toArray_toList
    rw[e1]
    simp[execOp,resolve,Act.eval,Deferred.ofValue,invoke]
   | tmp t=>
    simp only[eZ] at h
    cases bL:sl t<;>rw[bL] at h<;>simp only at h<;>first|(cases h;done)|skip
    rename_i f xs ys
    obtain ⟨h1,U⟩:=aF h
    rw[aP] at h1
    obtain ⟨k1,k2⟩:=hs.args hg h1
    have hv:=hs t
    rw[bL] at hv
    generalize sV:a.tmps.getD t undef=vt at hv
    cases hv with
    | @fn _ fs cs _ _ q1 q2 q3 q4=>
     have l1:fs.toList.length=xs.length:=by simpa using q1
     have l3:cs.toList.length=ys.length:=by simpa using q3
     have r1: ∀(j:Nat) v x,fs.toList[j]? =some v→xs[j]? =some x→ao P w I β hp v x:=fun j v x hj hx=>q2 j v x (by simpa using hj) hx
     have r3: ∀(j:Nat) v x,cs.toList[j]? =some v→ys[j]? =some x→ao P w I β hp v x:=fun j v x hj hx=>q4 j v x (by simpa using hj) hx
     refine MJ hC hP S hg (vals:=fs.toList++(args.map a.eval).toList++cs.toList) (args:=xs++((args.toList.zip argTypes.toList).map fun p=>aN P A.aD p.2 sl p.1)++ys) (by simp only[b8];omega) ?_ U ?_
     ·exact ML (by simp only[b8];omega) (ML l1 r1 k2) r3
     ·have e1:(fs.toList++(args.map a.eval).toList++cs.toList).toArray=fs++args.map a.eval++cs:=by
       apply Array.toList_inj.1;simp
      rw[e1]
      have eB:a.eval (.tmp t)= .func (.func f) fs cs:=sV
      simp[execOp,resolve,eB,Deferred.ofValue,invoke]
   | _=>cases hc
end
section
variable {P:Program} {A:ct} {w w':World} {I I' I2:Nat→Prop} {μ β β':Nat→Option Nat} {hp hp':Nat→Option an} {C:ag} {B:Nat} {M:Nat→Prop} {w0:Start}
structure iy (P:Program) (E:FuncId→Bool) (G:Nat→V) (w:World) (I:Nat→Prop) (β:Nat→Option Nat) (n:Nat) (a:Act) (st:St):Prop where
 sl:ka P w I β st.hp a st.sl
 size:a.tmps.size=n
 defers: ∀d∈a.defers,yL E d
 aD:gh P G w I
theorem G8 {E:FuncId→Bool} {G:Nat→V} {n:Nat} {a:Act} {st:St} {o:Oper} {v:Value} {x:V} {hp':Nat→Option an} {ds:List Deferred} (h:iy P E G w I β n a st) (hle:Le P w I β st.hp w' I' β' hp') (hd:qW o n=true)
  (hv:ao P w' I' β' hp' v x) (kH: ∀d∈ds,d∈a.defers∨yL E d):iy P E G w' I' β' n ({a with defers:=ds}.put o.dst v) ⟨gN st.sl o.dst x,hp',st.nb⟩:=by
 have MN: ∀d∈ds,yL E d:=fun d hd=>(kH d hd).elim (h.defers d) id
 cases WB:o.dst with
 | none=>exact ⟨fun k=>(h.sl k).mono hle,h.size,MN,h.aD.mono hle.cV hle.bU⟩
 | some d=>
  have aO:d<a.tmps.size:=by
   unfold qW at hd
   rw[WB] at hd
   rw[h.size]
   simpa using hd
  refine ⟨fun k=> ?_,by simp[Act.put,h.size],MN,h.aD.mono hle.cV hle.bU⟩
  simp only[Act.put,gN,aH]
  cases hb:Nat.beq k d with
  | true=>
   rw[aP] at hb
   subst hb
   simpa[aO] using hv
  | false=>
   have bw:d≠k:=fun e=>by rw[e,ja] at hb;cases hb
   have:=(h.sl k).mono hle
   simpa[Ba bw] using this
theorem MO {E:FuncId→Bool} {G:Nat→V} {n:Nat} {a:Act} {st:St} {d:Nat} {b:Bool} (h:iy P E G w I β n a st) (hd:st.sl d= .bool b):a.tmps[d]? =some (.bool b):=by
 have:=h.sl d
 rw[hd] at this
 have:=this.jI
 cases ht:a.tmps[d]? with
 | none=>simp[ht] at this;cases this
 | some v=>simp[ht] at this;rw[this]
theorem WC {x:V} {b:Bool} (h:kL x=some (some b)):x= .bool b:=by
 cases x with
 | bool c=>simp only[kL] at h;injection h with h;injection h with h;rw[h]
 | aX vs=>cases vs<;>simp[kL] at h
 | _=>simp[kL] at h
theorem WD {x:V} (h:kL x=some none):x= .aX []:=by
 cases x with
 | aX vs=>cases vs with
  | nil=>rfl
  | cons _ _=>simp[kL] at h
 | bool c=>simp[kL] at h
 | _=>simp[kL] at h
theorem ao.WE {v:Value} (h:ao P w I β hp v (.aX [])):v= .tuple #[]:=by
 cases h with
 | @aX cs _ hs _=>
  have:cs= #[]:=by
   apply Array.eq_empty_of_size_eq_zero
   simpa using hs
  rw[this]
theorem ao.MP:ao P w I β hp Go.undef (.aX []):= .aX (by rfl) (fun j v x _ hx=>by simp at hx)
theorem MQ (hC:km P A C) (hP:iR P A) {ops:Array Oper} {n i nb:Nat} {o:Oper} (ho:ops[i]? =some o) {a:Act} {st st':St} {R W:List Nat} (S:aE P w I β st.hp B M w0) (hA:iy P A.idle A.aD w I β n a st)
  (h:gp P A C n ops i o nb st=some (st',R,W)) {K:Act→World→Prop} {Q:Exit→Act→World→Prop}
  (hK: ∀a' w' I' β',Le P w I β st.hp w' I' β' st'.hp→aE P w' I' β' st'.hp B M w0→iy P A.idle A.aD w' I' β' n a' st'→K a' w'):wpOp P ops Q i K a w:=by
 unfold gp at h
 cases hd:qW o n with
 | false=>rw[hd] at h;cases h
 | true=>
  rw[hd] at h
  simp only[cond_true] at h
  have go: ∀{G9:St} {R W:List Nat},(((eZ P A st.sl i (nb+64*i) o).run C st.hp).bind fun r=>some ((⟨gN st.sl o.dst r.1.v,bA st.hp r.1.upd,st.nb⟩:St),pG r.2 r.1.upd,fj st.hp r.1.upd))=some (G9,R,W)→G9=st'→
    o.wp P a w K Q:=by
   intro G9 R W h e
   obtain ⟨⟨r,rd⟩,h1,U⟩:=bind_some h
   cases U
   subst e
   exact WA hC hP S hA.aD hA.sl h1 K Q fun v w' I' β' ds k1 k2 k3 k4=>hK _ w' I' β' k1 k2 (G8 hA k1 hd k3 k4)
  unfold wpOp
  rw[ho]
  simp only
  cases hg:o.guard with
  | none=>
   rw[hg] at h
   simp only[Region.wanted,hg,db]
   exact .inl (go h rfl)
  | some gw=>
   obtain ⟨g,want⟩:=gw
   rw[hg] at h
   simp only at h
   cases la:(ops[g]?).bind (·.dst) with
   | none=>rw[la] at h;cases h
   | some d=>
    rw[la] at h
    simp only at h
    cases lO:kL (st.sl d) with
    | none=>rw[lO] at h;cases h
    | some ob=>
    rw[lO] at h
    cases ob with
    | none=>
     have pV:=WD lO
     have hy:yielded ops a.tmps g=none:=by
      unfold yielded
      rw[la]
      have:=hA.sl d
      rw[pV] at this
      have hu:=ao.WE this
      simp only[Option.bind_some]
      cases ht:a.tmps[d]? with
      | none=>rfl
      | some v=>simp[ht] at hu;subst hu;rfl
     simp only[Region.wanted,hg,hy]
     injection h with h
     injection h with h3 h4
     subst h3
     have U:((none:Option Bool)==some want)=false:=rfl
     simp only[U,Bool.false_eq_true,fN]
     exact hK _ w I β (Le.refl w I β st.hp) S (G8 (ds:=a.defers) hA (Le.refl w I β st.hp) hd ao.MP fun d h=> .inl h)
    | some b=>
    simp only at h
    have pV:=WC lO
    have hy:yielded ops a.tmps g=some b:=by
     unfold yielded
     rw[la]
     simp only[Option.bind_some,MO hA pV]
    simp only[Region.wanted,hg,hy]
    by_cases hb:b=want
    ·subst hb
     simp only[beq_self_eq_true,cond_true] at h
     simp only[beq_self_eq_true,db]
     exact .inl (go h rfl)
    ·have h1:(b==want)=false:=by simp[hb]
     have U:(some b==some want)=false:=by simp[hb]
     rw[h1] at h
     simp only[cond_false] at h
     injection h with h
     injection h with h3 h4
     subst h3
     simp only[U,Bool.false_eq_true,fN]
     exact hK _ w I β (Le.refl w I β st.hp) S (G8 (ds:=a.defers) hA (Le.refl w I β st.hp) hd ao.MP fun d h=> .inl h)
def s8 (hp hp':Nat→Option an) (c:Nat):Prop:=hp' c=hp c∧(KB≤c→fD (hp' (c-KB))=fD (hp (c-KB)))
theorem s8.symm {c:Nat} (h:s8 hp hp' c):s8 hp' hp c:=⟨h.1.symm,fun hc=>(h.2 hc).symm⟩
theorem rv {α:Type}: ∀{p:Rd α} {r:α} {rd:List Nat},p.run C hp=some (r,rd)→(∀id∈rd,s8 hp hp' id)→p.run C hp'=some (r,rd)
 | .ret a,r,rd,h,_=>h
 | .fail,r,rd,h,_=>by cases h
 | .get id k,r,rd,h,he=>by
  obtain ⟨x,h1,U⟩:=bind_some h
  cases U
  have e1:hp' id=hp id:=(he id (by simp)).1
  have:=rv (p:=k (hp id)) (r:=x.1) (rd:=x.2) h1 (fun i hi=>he i (by simp[hi]))
  simp only[Rd.run,e1,this,Option.bind_some]
 | .live id ok k,r,rd,h,he=>by
  simp only[Rd.run] at h⊢
  cases hk:ok (fD (hp id)) with
  | false=>rw[hk] at h;cases h
  | true=>
   rw[hk] at h
   obtain ⟨x,h1,U⟩:=bind_some h
   cases U
   have e1:fD (hp' id)=fD (hp id):=by
    have:=(he (id+KB) (by simp)).2 (Nat.le_add_left _ _)
    rwa [uv] at this
   have:=rv (p:=k) (r:=x.1) (rd:=x.2) h1 (fun i hi=>he i (by simp[hi]))
   rw[e1,hk,this]
   rfl
 | .opt o k,r,rd,h,he=>by
  obtain ⟨x,h1,U⟩:=bind_some h
  simp only[Rd.run,h1,Option.bind_some]
  exact rv U he
 | .aB b k,r,rd,h,he=>by
  obtain ⟨h1,U⟩:=aF h
  simp only[Rd.run,h1,cond_true]
  exact rv U he
 | .call key ds k,r,rd,h,he=>by
  obtain ⟨x,h1,U⟩:=bind_some h
  simp only[Rd.run,h1,Option.bind_some]
  exact rv U he
 | .alt true x y,r,rd,h,he=>rv (p:=x) h he
 | .alt false x y,r,rd,h,he=>rv (p:=y) h he
theorem WG {G:Nat→V} {sl sl':Nat→V} {t:TypeId} {x:Operand} (h: ∀k,x= .tmp k→sl k=sl' k):aN P G t sl x=aN P G t sl' x:=by
 cases x with
 | tmp k=>exact h k rfl
 | _=>rfl
theorem WH {sl sl':Nat→V} {ix nb:Nat} {o:Oper} (h: ∀x∈o.op.operands,∀k,x= .tmp k→sl k=sl' k):eZ P A sl ix nb o=eZ P A sl' ix nb o:=by
 have eB: ∀t x,x∈o.op.operands→aN P A.aD t sl x=aN P A.aD t sl' x:=fun t x hx=>WG (h x hx)
 obtain ⟨dst,op,ty,pos,after,guard⟩:=o
 have MR: ∀(t:TypeId) (ps:Array (Nat × Operand)),(∀x∈ps.map (·.2),aN P A.aD t sl x=aN P A.aD t sl' x)→
   (ps.toList.map fun p=>(p.1,aN P A.aD t sl p.2))=ps.toList.map fun p=>(p.1,aN P A.aD t sl' p.2):=fun t ps hp=>
  qM fun p hm=>by rw[hp p.2 (Array.mem_map.2 ⟨p,ov.1 hm,rfl⟩)]
 have WI: ∀(t:TypeId) (ps:Array (Nat × Operand)),(∀x∈ps.map (·.2),aN P A.aD t sl x=aN P A.aD t sl' x)→
   (ps.toList.map fun p=>(aN P A.aD t sl p.2).cells)=ps.toList.map fun p=>(aN P A.aD t sl' p.2).cells:=fun t ps hp=>
  qM fun p hm=>by rw[hp p.2 (Array.mem_map.2 ⟨p,ov.1 hm,rfl⟩)]
 cases op<;>simp only[Op.operands] at eB<;>simp only[eZ]
 case pick c x y=>rw[eB ty c (by simp),eB ty x (by simp),eB ty y (by simp)]
 case build t ps=>rw[MR ty ps fun x hx=>eB ty x (by simpa using hx),WI ty ps fun x hx=>eB ty x (by simpa using hx)]
 case buildSlice t len ps=>
  split
  ·rename_i e _
   rw[MR e ps fun x hx=>eB e x (by simpa using hx)]
  ·rfl
 case slice t x lo hi mx=>
  cases mx with
  | some m=>
   have e1:lo.map (aN P A.aD 0 sl)=lo.map (aN P A.aD 0 sl'):=by
    cases lo with
    | none=>rfl
    | some l=>simp only[Option.map_some,eB 0 l (by simp)]
   have e2:hi.map (aN P A.aD 0 sl)=hi.map (aN P A.aD 0 sl'):=by
    cases hi with
    | none=>rfl
    | some l=>simp only[Option.map_some,eB 0 l (by simp)]
   have e3:=eB 0 m (by simp)
   simp only[eB ty x (by simp),e1,e2,e3]
  | none=>
   have e1:lo.map (aN P A.aD 0 sl)=lo.map (aN P A.aD 0 sl'):=by
    cases lo with
    | none=>rfl
    | some l=>simp only[Option.map_some,eB 0 l (by simp)]
   have e2:hi.map (aN P A.aD 0 sl)=hi.map (aN P A.aD 0 sl'):=by
    cases hi with
    | none=>rfl
    | some l=>simp only[Option.map_some,eB 0 l (by simp)]
   simp only[eB ty x (by simp),e1,e2]
 case call c=>
  obtain ⟨callee,args,argTypes⟩:=c
  have s9: ∀t x,x∈args→aN P A.aD t sl x=aN P A.aD t sl' x:=fun t x hx=>eB t x (by simp[Call.operands,hx])
  have hl: ∀t (l:List Operand),(∀x∈l,x∈args)→l.map (aN P A.aD t sl)=l.map (aN P A.aD t sl'):=fun t l hl=>qM fun x hx=>s9 t x (hl x hx)
  have hz:((args.toList.zip argTypes.toList).map fun p=>aN P A.aD p.2 sl p.1)=(args.toList.zip argTypes.toList).map fun p=>aN P A.aD p.2 sl' p.1:=
   qM fun p hp=>s9 p.2 p.1 (ov.1 (List.of_mem_zip hp).1)
  cases callee with
  | invoke r m=>rfl
  | builtin b=>
   have bW: ∀x∈args.toList,∀t,aN P A.aD t sl x=aN P A.aD t sl' x:=fun x hx t=>s9 t x (ov.1 hx)
   have Ha: ∀t (l:List Operand),(∀x∈l,∀t,aN P A.aD t sl x=aN P A.aD t sl' x)→l.map (aN P A.aD t sl)=l.map (aN P A.aD t sl'):=fun t l h=>qM fun x hx=>h x hx t
   cases b<;>first|rfl|skip
   case append=>
    dsimp only
    generalize args.toList=al at bW
    match al,bW,argTypes.toList with
    | [s,x],bW,[t,u]=>simp only[bW s (by simp),bW x (by simp)]
    | [],_,_=>rfl
    | [_],_,_=>rfl
    | _::_::_::_,_,_=>rfl
    | [_,_],_,[]=>rfl
    | [_,_],_,[_]=>rfl
    | [_,_],_,_::_::_::_=>rfl
   case copy=>
    dsimp only
    generalize args.toList=al at bW
    match al,bW,argTypes.toList with
    | [s,x],bW,[t,u]=>simp only[bW s (by simp),bW x (by simp)]
    | [],_,_=>rfl
    | [_],_,_=>rfl
    | _::_::_::_,_,_=>rfl
    | [_,_],_,[]=>rfl
    | [_,_],_,[_]=>rfl
    | [_,_],_,_::_::_::_=>rfl
   case len=>
    dsimp only
    generalize args.toList=al at bW
    match al,bW,argTypes.toList with
    | [x],bW,[t]=>simp only[bW x (by simp)]
    | [],_,_=>rfl
    | _::_::_,_,_=>rfl
    | [_],_,[]=>rfl
    | [_],_,_::_::_=>rfl
   case clear=>
    dsimp only
    generalize args.toList=al at bW
    match al,bW,argTypes.toList with
    | [x],bW,[t]=>simp only[bW x (by simp)]
    | [],_,_=>rfl
    | _::_::_,_,_=>rfl
    | [_],_,[]=>rfl
    | [_],_,_::_::_=>rfl
   case unsafeSliceData=>
    dsimp only
    generalize args.toList=al at bW
    match al,bW with
    | [],_=>rfl
    | [x],bW=>simp only[bW x (by simp)]
    | _::_::_,_=>rfl
   case unsafeString=>
    dsimp only
    generalize args.toList=al at bW
    match al,bW,argTypes.toList with
    | [s,x],bW,[t,u]=>simp only[bW s (by simp),bW x (by simp)]
    | [],_,_=>rfl
    | [_],_,_=>rfl
    | _::_::_::_,_,_=>rfl
    | [_,_],_,[]=>rfl
    | [_,_],_,[_]=>rfl
    | [_,_],_,_::_::_::_=>rfl
   case max=>
    dsimp only
    generalize args.toList=al at bW
    match al,bW with
    | [],_=>rfl
    | x::l,bW=>simp only[bW x (by simp),Ha ty l (fun y hy=>bW y (by simp[hy]))]
   case min=>
    dsimp only
    generalize args.toList=al at bW
    match al,bW with
    | [],_=>rfl
    | x::l,bW=>simp only[bW x (by simp),Ha ty l (fun y hy=>bW y (by simp[hy]))]
  | value f=>
   cases f<;>first|rfl|skip
   ·rename_i t
    have ht:sl t=sl' t:=h (.tmp t) (by simp[Op.operands,Call.operands]) t rfl
    simp only[hz,ht]
   ·simp only[hz]
    cases hx:args.toList with
    | nil=>rfl
    | cons x l=>
     cases l with
     | cons _ _=>rfl
     | nil=>simp only[s9 ty x (ov.1 (by rw[hx];simp))]
 case defer c=>
  obtain ⟨callee,args,argTypes⟩:=c
  cases callee with
  | invoke r m=>rfl
  | builtin b=>rfl
  | value f=>
   cases f<;>first|rfl|skip
   rename_i t
   have ht:sl t=sl' t:=h (.tmp t) (by simp[Op.operands,Call.operands]) t rfl
   simp only[ht]
 case makeFunc fn a b=>
  cases fn<;>first|rfl|skip
  have e1:a.toList.map (aN P A.aD ty sl)=a.toList.map (aN P A.aD ty sl'):=qM fun x hx=>eB ty x (by simp[ov.1 hx])
  have e2:b.toList.map (aN P A.aD ty sl)=b.toList.map (aN P A.aD ty sl'):=qM fun x hx=>eB ty x (by simp[ov.1 hx])
  dsimp only
  rw[e1,e2]
 case makeMap t r=>cases r<;>rfl
 all_goals first
  | rfl
  | (simp[eB];done)
end
section
variable {P:Program} {A:ct} {w w':World} {I I' I2:Nat→Prop} {μ β β':Nat→Option Nat} {hp hp':Nat→Option an} {C:ag} {B:Nat} {M:Nat→Prop} {w0:Start}
theorem Hb {q:Nat × an} {upd:List (Nat × an)} (h:q∈upd):q.1∈fj hp upd:=by
 unfold fj
 rw[List.mem_flatMap]
 refine ⟨q,h,?_⟩
 cases Nat.beq (fD (hp q.1)) (fD (some q.2))<;>simp
theorem WJ {upd:List (Nat × an)} (h: ∀q∈upd,fD (hp' q.1)=fD (hp q.1)):fj hp' upd=fj hp upd:=by
 unfold fj
 induction upd with
 | nil=>rfl
 | cons q l ih=>
  rw[mn,mn,ih fun x hx=>h x (kJ _ hx),h q (by simp)]
theorem MS {c:Nat}: ∀{upd:List (Nat × an)},c∉fj hp upd→s8 hp (bA hp upd) c:=fun {upd} h=>by
 refine ⟨vn fun q hq e=>h (e▸Hb hq),fun hc=> ?_⟩
 induction upd with
 | nil=>rfl
 | cons q l ih=>
  have hl:c∉fj hp l:=fun hx=>h (by unfold fj at*;rw[mn];exact Bg _ hx)
  have hq:fD (hp q.1)=fD (some q.2)∨c≠q.1+KB:=by
   cases hb:Nat.beq (fD (hp q.1)) (fD (some q.2)) with
   | true=>exact .inl (xm hb)
   | false=>
    refine .inr fun e=>h ?_
    unfold fj
    rw[mn,hb,e]
    simp
  show fD (aH (bA hp l) q.1 (some q.2) (c-KB))=_
  simp only[aH]
  cases hb:Nat.beq (c-KB) q.1 with
  | false=>exact ih hl
  | true=>
   have e:=xm hb
   rcases hq with hq|hq
   ·rw[cond_true,e];exact hq.symm
   ·exact absurd (by omega) hq
theorem MT {n i nb:Nat} {ops:Array Oper} {o:Oper} {st st':St} {R W:List Nat} (h:gp P A C n ops i o nb st=some (st',R,W)):
  ∃x upd,st'=⟨gN st.sl o.dst x,bA st.hp upd,st.nb⟩∧W=fj st.hp upd∧∀dI:St,(∀d∈o.looksAt ops,dI.sl d=st.sl d)→(∀id∈R,s8 st.hp dI.hp id)→
   gp P A C n ops i o nb dI=some (⟨gN dI.sl o.dst x,bA dI.hp upd,dI.nb⟩,R,W)∧W=fj dI.hp upd:=by
 unfold gp at h
 cases hd:qW o n with
 | false=>rw[hd] at h;cases h
 | true=>
  rw[hd] at h
  simp only[cond_true] at h
  have go:(((eZ P A st.sl i (nb+64*i) o).run C st.hp).bind fun r=>some ((⟨gN st.sl o.dst r.1.v,bA st.hp r.1.upd,st.nb⟩:St),pG r.2 r.1.upd,fj st.hp r.1.upd))=some (st',R,W)→
    ∃x upd,st'=⟨gN st.sl o.dst x,bA st.hp upd,st.nb⟩∧W=fj st.hp upd∧∀dI:St,(∀d∈o.looksAt ops,dI.sl d=st.sl d)→(∀id∈R,s8 st.hp dI.hp id)→
     (((eZ P A dI.sl i (nb+64*i) o).run C dI.hp).bind fun r=>some ((⟨gN dI.sl o.dst r.1.v,bA dI.hp r.1.upd,dI.nb⟩:St),pG r.2 r.1.upd,fj dI.hp r.1.upd))=some (⟨gN dI.sl o.dst x,bA dI.hp upd,dI.nb⟩,R,W)∧W=fj dI.hp upd:=by
   intro h
   obtain ⟨⟨r,rd⟩,h1,U⟩:=bind_some h
   cases U
   refine ⟨r.v,r.upd,rfl,rfl,fun dI hs hh=> ?_⟩
   have hw:fj dI.hp r.upd=fj st.hp r.upd:=WJ fun q hq=>by
    have:=(hh (q.1+KB) (Bg _ (gj.2 ⟨q,hq,rfl⟩))).2 (Nat.le_add_left _ _)
    rwa [uv] at this
   rw[WH (sl':=st.sl) fun x hx k hk=> ?_,rv h1 fun c hc=>hh c (List.mem_append_left _ hc)]
   ·refine ⟨?_,hw.symm⟩
    rw[Option.bind_some,hw]
   ·subst hk
    exact hs k (List.mem_append_left _ (List.mem_filterMap.2 ⟨.tmp k,by simpa using hx,rfl⟩))
  cases hg:o.guard with
  | none=>
   rw[hg] at h
   obtain ⟨x,upd,e1,e2,e3⟩:=go h
   refine ⟨x,upd,e1,e2,fun dI hs hh=> ?_⟩
   unfold gp
   simp only[hd,cond_true,hg]
   exact e3 dI hs hh
  | some gw=>
   obtain ⟨g,want⟩:=gw
   rw[hg] at h
   simp only at h
   cases la:(ops[g]?).bind (·.dst) with
   | none=>rw[la] at h;cases h
   | some d=>
    rw[la] at h
    simp only at h
    have Hc:d∈o.looksAt ops:=Bg _ (by rw[hg];simp[la])
    cases lO:kL (st.sl d) with
    | none=>rw[lO] at h;cases h
    | some ob=>
    rw[lO] at h
    cases ob with
    | none=>
     injection h with h
     injection h with h3 h4
     injection h4 with h5 h6
     subst h5;subst h6
     refine ⟨.aX [],[],h3.symm,rfl,fun dI hs hh=> ?_⟩
     unfold gp
     simp only[hd,cond_true,hg,la,hs d Hc,lO]
     exact ⟨rfl,rfl⟩
    | some b=>
    simp only at h
    cases hb:b==want with
    | true=>
     rw[hb] at h
     obtain ⟨x,upd,e1,e2,e3⟩:=go h
     refine ⟨x,upd,e1,e2,fun dI hs hh=> ?_⟩
     unfold gp
     simp only[hd,cond_true,hg,la,hs d Hc,lO,hb]
     exact e3 dI hs hh
    | false=>
     rw[hb] at h
     simp only[cond_false] at h
     injection h with h
     injection h with h3 h4
     injection h4 with h5 h6
     subst h5;subst h6
     refine ⟨.aX [],[],h3.symm,rfl,fun dI hs hh=> ?_⟩
     unfold gp
     simp only[hd,cond_true,hg,la,hs d Hc,lO,hb,cond_false]
     exact ⟨rfl,rfl⟩
theorem MU {sl:Nat→V} {d:Option Nat} {x:V} {k:Nat} (h:d≠some k):gN sl d x k=sl k:=by
 cases d with
 | none=>rfl
 | some d=>exact dR _ _ fun e=>h (by rw[e])
theorem WK {hp:Nat→Option an} {a b:List (Nat × an)} (h: ∀q∈a,∀q'∈b,q.1≠q'.1):bA (bA hp a) b=bA (bA hp b) a:=by
 funext id
 by_cases ha: ∃q∈a,q.1=id
 ·have hb: ∀q∈b,q.1≠id:=by
   obtain ⟨q,hq,rfl⟩:=ha
   exact fun q' yP e=>h q hq q' yP e.symm
  rw[vn hb]
  obtain ⟨q,hq,rfl⟩:=ha
  have same: ∀(bh gr:Nat→Option an) (l:List (Nat × an)) (q:Nat × an),q∈l→bA bh l q.1=bA gr l q.1:=by
   intro bh gr l
   induction l with
   | nil=>intro q hq;simp at hq
   | cons p l ih=>
    intro q hq
    simp only[bA,aH]
    cases hb:Nat.beq q.1 p.1 with
    | true=>rfl
    | false=>
     simp only[cond_false]
     refine ih q ((cX.1 hq).resolve_left fun e=> ?_)
     rw[e,ja] at hb;cases hb
  exact same _ _ a q hq
 ·rw[vn (hp:=bA hp b) (l:=a) fun q hq e=>ha ⟨q,hq,e⟩]
  have same: ∀(bh gr:Nat→Option an) (l:List (Nat × an)),bh id=gr id→bA bh l id=bA gr l id:=by
   intro bh gr l he
   induction l with
   | nil=>exact he
   | cons p l ih=>
    simp only[bA,aH]
    cases hb:Nat.beq id p.1 with
    | true=>rfl
    | false=>exact ih
  exact same _ _ b (vn fun q hq e=>ha ⟨q,hq,e⟩)
structure MV (ops:Array Oper) (o1 o2:Oper) (R1 W1 R2 W2:List Nat):Prop where
 apart:Oper.apart ops o1 o2=true
 w: ∀id∈W1,id∉R2∧id∉W2
 r: ∀id∈R1,id∉W2
theorem WM {n i j nb:Nat} {ops:Array Oper} {o1 o2:Oper} {st iz dI:St} {R1 W1 R2 W2:List Nat} (h1:gp P A C n ops i o1 nb st=some (iz,R1,W1)) (U:gp P A C n ops j o2 nb iz=some (dI,R2,W2))
  (hi:MV ops o1 o2 R1 W1 R2 W2): ∃CJ,gp P A C n ops j o2 nb st=some (CJ,R2,W2)∧gp P A C n ops i o1 nb CJ=some (dI,R1,W1):=by
 obtain ⟨x1,u1,e1,f1,g1⟩:=MT h1
 obtain ⟨x2,u2,e2,f2,g2⟩:=MT U
 obtain ⟨a1,a2,a3⟩:=Oper.apart_spec hi.apart
 subst e1
 have k2:=g2 st (fun d hd=>by simp only;rw[MU fun e=>a1 d e hd]) fun c hc=>(MS fun hw=>(hi.w c (by rw[f1];exact hw)).1 hc).symm
 refine ⟨_,k2.1,?_⟩
 rw[(g1 _ (fun d hd=> ?_) (fun c hd=> ?_)).1,e2]
 ·congr 3
  ·funext k
   cases CK:o1.dst with
   | none=>rfl
   | some d1=>
    cases il:o2.dst with
    | none=>rfl
    | some d2=>
     have bw:d2≠d1:=fun e=>a2 d1 CK (by rw[il,e])
     simp only[gN,aH]
     cases MW:Nat.beq k d1<;>cases lP:Nat.beq k d2<;>simp only[cond_true,cond_false]
     rw[aP] at MW lP
     exact absurd (lP.symm.trans MW) bw
  ·exact (WK fun q hq q' yP e=>(hi.w q.1 (by rw[f1];exact Hb hq)).2 (by rw[f2,e];exact Hb yP)).symm
 ·simp only
  rw[MU fun e=>a3 d e hd]
 ·exact MS fun hw=>hi.r c hd (by rw[k2.2];exact hw)
def vr (P:Program) (A:ct) (C:ag) (n:Nat) (ops:Array Oper) (nb:Nat):List (Nat × Oper × List Nat × List Nat)→St→St→Prop
 | [],st,st'=>st=st'
 | (i,o,R,W)::l,st,st'=> ∃iz,gp P A C n ops i o nb st=some (iz,R,W)∧vr P A C n ops nb l iz st'
def ta (x:Nat × Oper × List Nat × List Nat):Nat × List Nat × List Nat:=(x.1,x.2.2.1,x.2.2.2)
theorem MX {n nb:Nat} {ops:Array Oper}: ∀{l:List (Nat × Oper)} {st st':St} {log CL:Log},oE P A C n ops nb l st log=some (st',CL)→
  ∃g,g.map (fun x=>(x.1,x.2.1))=l∧CL=log++g.map ta∧vr P A C n ops nb g st st'
 | [],st,st',log,CL,h=>by
  cases h
  exact ⟨[],rfl,by simp,rfl⟩
 | (i,o)::l,st,st',log,CL,h=>by
  obtain ⟨⟨iz,R,W⟩,h1,U⟩:=bind_some h
  obtain ⟨g,a,b,c⟩:=MX U
  exact ⟨(i,o,R,W)::g,by simp[a],by simp[b,ta],iz,h1,c⟩
def MY (ops:Array Oper) (x y:Nat × Oper × List Nat × List Nat):Prop:=MV ops x.2.1 y.2.1 x.2.2.1 x.2.2.2 y.2.2.1 y.2.2.2
theorem MZ {n nb:Nat} {ops:Array Oper} {y:Nat × Oper × List Nat × List Nat} {g2:List (Nat × Oper × List Nat × List Nat)}: ∀{g1:List (Nat × Oper × List Nat × List Nat)} {st st':St},
  vr P A C n ops nb (g1++y::g2) st st'→(∀x∈g1,MY ops x y)→∃iz,gp P A C n ops y.1 y.2.1 nb st=some (iz,y.2.2.1,y.2.2.2)∧vr P A C n ops nb (g1++g2) iz st'
 | [],st,st',h,_=>h
 | x::g1,st,st',h,hi=>by
  obtain ⟨iz,h1,U⟩:=h
  obtain ⟨dI,h3,h4⟩:=MZ U fun z hz=>hi z (kJ _ hz)
  obtain ⟨CJ,h5,h6⟩:=WM h1 h3 (hi x (by simp))
  exact ⟨CJ,h5,dI,h6,h4⟩
theorem M0 (hC:km P A C) (hP:iR P A) {n nb:Nat} {ops:Array Oper} {Q:Exit→Act→World→Prop}: ∀{g:List (Nat × Oper × List Nat × List Nat)} {st st':St} {a:Act} {w:World} {I:Nat→Prop} {β:Nat→Option Nat},
  vr P A C n ops nb g st st'→(∀x∈g,ops[x.1]? =some x.2.1)→aE P w I β st.hp B M w0→iy P A.idle A.aD w I β n a st→
  (∀a' w' I' β',Le P w I β st.hp w' I' β' st'.hp→aE P w' I' β' st'.hp B M w0→iy P A.idle A.aD w' I' β' n a' st'→Q .normal a' w')→wpOps P ops Q (g.map (·.1)) a w
 | [],st,st',a,w,I,β,h,_,S,hA,hQ=>by
  cases h
  exact hQ a w I β (Le.refl w I β _) S hA
 | x::g,st,st',a,w,I,β,h,ho,S,hA,hQ=>by
  obtain ⟨iz,h1,U⟩:=h
  rw[cG,wpOps_cons]
  refine MQ hC hP (ho x (by simp)) S hA h1 fun a' w' I' β' k1 k2 k3=> ?_
  exact M0 hC hP U (fun y hy=>ho y (kJ _ hy)) k2 k3 fun a2 w2 I2 bP m1 m2 m3=>hQ a2 w2 I2 bP (k1.trans m1) m2 m3
end
section
variable {P:Program} {A:ct} {w w':World} {I I' I2:Nat→Prop} {μ β β':Nat→Option Nat} {hp hp':Nat→Option an} {C:ag} {B:Nat} {M:Nat→Prop} {w0:Start}
inductive tc (ops:Array Oper):Nat→Nat→Prop
 | M1 {i x:Nat} {o:Oper} {e:Edge}:ops[i]? =some o→e∈o.after→Region.binds .any e=true→e.on=x→tc ops i x
 | trans {i x:Nat} {o:Oper} {e:Edge}:ops[i]? =some o→e∈o.after→Region.binds .any e=true→tc ops e.on x→tc ops i x
theorem M3 {acc:Array Nat} {x:Nat}: ∀{l:List Edge} {s:Nat},(l.foldl (fun s e=>if Region.binds .any e then s|||2^e.on|||acc.getD e.on 0 else s) s).testBit x=true→
  s.testBit x=true∨∃e∈l,Region.binds .any e=true∧(e.on=x∨(acc.getD e.on 0).testBit x=true)
 | [],s,h=> .inl h
 | e::l,s,h=>by
  simp only[List.foldl_cons] at h
  rcases M3 h with h1|⟨e',a,b⟩
  ·by_cases hb:Region.binds .any e=true
   ·rw[aj hb,Nat.testBit_or,Nat.testBit_or,Bool.or_eq_true,Bool.or_eq_true] at h1
    rcases h1 with (h1|h1)|h1
    ·exact .inl h1
    ·rw[Nat.testBit_two_pow] at h1
     exact .inr ⟨e,by simp,hb,.inl (by simpa using h1)⟩
    ·exact .inr ⟨e,by simp,hb,.inr h1⟩
   ·rw[ai hb] at h1
    exact .inl h1
  ·exact .inr ⟨e',kJ _ a,b⟩
theorem M4 {ops:Array Oper} {x:Nat}: ∀{l:List Oper} {acc:Array Nat},(∀j o,l[j]? =some o→ops[acc.size+j]? =some o)→(∀j,(acc.getD j 0).testBit x=true→tc ops j x)→
  ∀j,((l.foldl (fun acc o=>acc.push (o.after.foldl (fun s e=>if Region.binds .any e then s|||2^e.on|||acc.getD e.on 0 else s) 0)) acc).getD j 0).testBit x=true→tc ops j x
 | [],acc,_,CM,j,h=>CM j h
 | o::l,acc,hl,CM,j,h=>by
  simp only[List.foldl_cons] at h
  refine M4 (l:=l) ?_ ?_ j h
  ·intro j o' hj
   have:=hl (j+1) o' (by simpa using hj)
   rw[Array.size_push]
   rwa [show acc.size+1+j=acc.size+(j+1) by omega]
  ·intro k hk
   simp only[uw,Array.getElem?_push] at hk
   by_cases aV:k=acc.size
   ·rw[aj aV] at hk
    simp only[Option.getD_some] at hk
    rw[←Bb] at hk
    have ho:=hl 0 o rfl
    rw[Nat.add_zero] at ho
    rw[aV]
    have lP:(o.after.toList.foldl (fun s e=>if Region.binds .any e then s|||2^e.on|||acc.getD e.on 0 else s) 0).testBit x=true:=by simpa[uw] using hk
    rcases M3 lP with h0|⟨e,he,hb,h1⟩
    ·simp at h0
    ·rcases h1 with h1|h1
     ·exact .M1 ho (ov.1 he) hb h1
     ·exact .trans ho (ov.1 he) hb (CM _ h1)
   ·rw[ai aV] at hk
    exact CM k (by simpa[uw] using hk)
theorem WN {ops:Array Oper} {i x:Nat} (h:((Region.before ops).getD i 0).testBit x=true):tc ops i x:=by
 unfold Region.before at h
 rw[←Bb] at h
 refine M4 (l:=ops.toList) (acc:= #[]) (fun j o hj=>by simpa using hj) (fun j hj=>by simp at hj) i h
def M5 (ops:Array Oper) (fp:Array Bool):Prop:= ∀i o,ops[i]? =some o→fp.getD i false=true→∀e∈o.after,Region.binds .any e=true→fp.getD e.on false=true
theorem WO {ops:Array Oper} {fp:Array Bool} (hc:M5 ops fp) {i x:Nat} (h:tc ops i x) (hi: ∀o,ops[i]? =some o→∀e∈o.after,Region.binds .any e=true→fp.getD e.on false=true):fp.getD x false=true:=by
 induction h with
 | M1 ho he hb hx=>rw[←hx];exact hi _ ho _ he hb
 | trans ho he hb _ ih=>exact ih fun o' iO e' gx az=>hc _ o' iO (hi _ ho _ he hb) e' gx az
theorem M6: ∀{l:List Oper} {k j:Nat} {o:Oper},xQ k l=true→l[j]? =some o→∀e∈o.after,Region.binds .any e=true→e.on<k+j
 | [],k,j,o,_,h=>by simp at h
 | o'::l,k,j,o,hk,h=>by
  simp only[xQ,aI] at hk
  cases j with
  | zero=>
   simp at h
   subst h
   intro e he hb
   have:=eM.1 hk.1 e (ov.2 he)
   simp[hb] at this
   omega
  | succ j=>
   intro e he hb
   have:=M6 hk.2 (j:=j) (by simpa using h) e he hb
   omega
theorem M7 {ops:Array Oper} {su:Array Nat}: ∀{l:Log},BE ops su l=true→l.Pairwise fun x y=>xP ops su x y=true
 | [],_=> .nil
 | x::l,h=>by
  simp only[BE,aI] at h
  exact .cons (fun y hy=>eM.1 h.1 y hy) (M7 h.2)
theorem M8 {fp:Array Bool} {i:Nat} (h:fp.getD i true=false):i<fp.size∧fp.getD i false=false:=by
 rcases ou i fp.size with h'|h'
 ·refine ⟨h',?_⟩
  simpa[h'] using h
 ·simp[Array.getElem?_eq_none h'] at h
theorem M9 (hC:km P A C) (hP:iR P A) {n nb:Nat} {ops:Array Oper} {Q:Exit→Act→World→Prop} (CN:xQ 0 ops.toList=true):
  ∀(fuel:Nat) {g:List (Nat × Oper × List Nat × List Nat)} {fp:Array Bool} {st st':St} {a:Act} {w:World} {I:Nat→Prop} {β:Nat→Option Nat},
  g.length=fuel→vr P A C n ops nb g st st'→(∀x∈g,ops[x.1]? =some x.2.1)→(g.map (·.1)).Pairwise (· < ·)→(g.map ta).Pairwise (fun x y=>xP ops (Region.before ops) x y=true)→
  fp.size=ops.size→(∀i,i<ops.size→(fp.getD i false=false↔i∈g.map (·.1)))→M5 ops fp→
  aE P w I β st.hp B M w0→iy P A.idle A.aD w I β n a st→
  (∀a' w' I' β',Le P w I β st.hp w' I' β' st'.hp→aE P w' I' β' st'.hp B M w0→iy P A.idle A.aD w' I' β' n a' st'→Q .normal a' w')→wpAny P .any ops Q fuel fp a w
 | 0,g,fp,st,st',a,w,I,β,hf,hr,ho,aO,CO,aR,td,ki,S,hA,hQ=>by
  obtain rfl:g=[]:=kI hf
  cases hr
  refine ⟨?_,hQ a w I β (Le.refl w I β _) S hA⟩
  rw[List.eq_nil_iff_forall_not_mem]
  intro i hi
  obtain ⟨h0,_⟩:=mem_ready.1 hi
  obtain ⟨h1,U⟩:=M8 h0
  have:=(td i (by omega)).1 U
  simp at this
 | fuel+1,g,fp,st,st',a,w,I,β,hf,hr,ho,aO,CO,aR,td,ki,S,hA,hQ=>by
  refine ⟨fun yR=> ?_,fun i hi=> ?_⟩
  ·exfalso
   cases g with
   | nil=>simp at hf
   | cons x g=>
    have hx:=ho x (by simp)
    have fT:x.1<ops.size:=(gJ.1 hx).1
    have mH:x.1∈Region.ready .any ops fp:=by
     rw[mem_ready]
     have h0:=(td x.1 fT).2 (by simp)
     refine ⟨?_,x.2.1,hx,fun e he hb=> ?_⟩
     ·have hl:x.1<fp.size:=by omega
      simpa[hl] using h0
     ·have Gu:=M6 CN (j:=x.1) (by simpa using hx) e he hb
      rw[gi] at Gu
      cases hle:fp.getD e.on false with
      | true=>rfl
      | false=>
       have hm:=(td e.on (by omega)).1 hle
       simp only[cG,cX] at hm
       rw[cG,sf] at aO
       rcases hm with hm|hm
       ·omega
       ·have:=aO.1 _ hm;omega
    rw[yR] at mH
    cases mH
  ·obtain ⟨h0,oi,yT,Na⟩:=mem_ready.1 hi
   obtain ⟨h1,U⟩:=M8 h0
   have WQ:=(td i (by omega)).1 U
   obtain ⟨y,hy,WR⟩:=gj.1 WQ
   obtain ⟨g1,g2,rfl⟩:=List.append_of_mem hy
   subst WR
   have Nb:=ho y hy
   rw[yT] at Nb
   have Nc:oi=y.2.1:=cP Nb
   have jM:((g1++y::g2).map (·.1)).Nodup:=aO.imp fun h=>Nat.ne_of_lt h
   have WS: ∀x∈g1,MY ops x y:=by
    intro x hx
    have hp:xP ops (Region.before ops) (ta x) (ta y)=true:=by
     rw[fP,cG,List.pairwise_append] at CO
     exact CO.2.2 _ (gj.2 ⟨x,hx,rfl⟩) _ (by simp)
    have Hd:=ho x (eh.2 (.inl hx))
    unfold xP at hp
    rw[Bool.or_eq_true] at hp
    rcases hp with hp|hp
    ·have hl:=WO ki (WN hp) fun o iO e he hb=>by
      have:o=oi:=by
       have h3:ops[y.1]? =some o:=iO
       rw[yT] at h3
       exact (cP h3).symm
      subst this
      exact Na e he hb
     have fT:x.1<ops.size:=(gJ.1 Hd).1
     have:=(td x.1 fT).2 (gj.2 ⟨x,eh.2 (.inl hx),rfl⟩)
     rw[show (ta x).1=x.1 from rfl,this] at hl
     cases hl
    ·simp only[ta,uw,Hd,yT,Option.getD_some,aI,mh] at hp
     obtain ⟨q1,q2,q3⟩:=hp
     refine ⟨Nc▸q1,fun id ab=> ?_,fun id ab=>CB q3 ab⟩
     have:=CB q2 ab
     rw[eh] at this
     exact ⟨fun h=>this (.inl h),fun h=>this (.inr h)⟩
   obtain ⟨iz,ij,k0⟩:=MZ hr WS
   rw[←Nc] at ij
   refine MQ hC hP yT S hA ij fun a' w' I' β' k1 k2 k3=> ?_
   have jJ:List.Sublist (g1++g2) (g1++y::g2):=List.Sublist.append_left (List.sublist_cons_self y g2) g1
   have sx: ∀j,j≠y.1→(fp.setIfInBounds y.1 true).getD j false=fp.getD j false:=fun j hj=>getD_set_ne false (Ne.symm hj)
   refine M9 hC hP CN fuel (g:=g1++g2) (st':=st') ?_ k0 (fun x hx=>ho x (jJ.subset hx)) (aO.sublist (jJ.map _)) (CO.sublist (jJ.map _)) (by simp[aR]) (fun j hj=> ?_) (fun j o He bV e he hb=> ?_) k2 k3 fun a2 w2 I2 bP m1 m2 m3=>hQ a2 w2 I2 bP (k1.trans m1) m2 m3
   ·simp at hf⊢;omega
   ·by_cases oL:j=y.1
    ·subst oL
     have hl:y.1<fp.size:=by omega
     simp only[uw,Fj hl,Option.getD_some]
     refine ⟨fun h=>(by cases h),fun h=> ?_⟩
     exfalso
     rw[fP,cG,Bf,List.nodup_cons] at jM
     rw[fP,eh] at h
     rcases h with h|h
     ·exact jM.2.2 _ h _ (by simp) rfl
     ·exact jM.2.1.1 h
    ·rw[sx j oL,td j hj]
     simp only[fP,cG,eh,cX]
     constructor
     ·rintro (h|h|h)
      ·exact .inl h
      ·exact absurd h oL
      ·exact .inr h
     ·rintro (h|h)
      ·exact .inl h
      ·exact .inr (.inr h)
   ·by_cases oL:j=y.1
    ·subst oL
     rw[yT] at He
     cases He
     exact getD_set_true (Na e he hb)
    ·rw[sx j oL] at bV
     exact getD_set_true (ki j o He bV e he hb)
end
section
variable {P:Program} {A:ct} {w w':World} {I I' I2:Nat→Prop} {μ β β':Nat→Option Nat} {hp hp':Nat→Option an} {C:ag} {B:Nat} {M:Nat→Prop} {w0:Start}
theorem Nd: ∀{l:List Oper} {k j:Nat},(nz k l)[j]? =(l[j]?).map fun o=>(k+j,o)
 | [],k,j=>by simp[nz]
 | o::l,k,0=>by simp[nz]
 | o::l,k,j+1=>by
  simp only[nz,List.getElem?_cons_succ,Nd]
  congr 1
  funext o
  rw[show k+1+j=k+(j+1) by omega]
theorem Nf: ∀{l:List Oper} {k:Nat},(nz k l).map (·.1)=List.range' k l.length
 | [],k=>rfl
 | o::l,k=>by simp[nz,Nf,List.range'_succ]
theorem WU (hC:km P A C) (hP:iR P A) (hm:P.follows .mixedOrders=true) {n id:Nat} {ops:Array Oper} {draw:Bool} {st st':St} {a:Act} {Q:Exit→Act→World→Prop}
  (h:xS P A C n ops draw st=some st') (S:aE P w I β st.hp B M w0) (hA:iy P A.idle A.aD w I β n a st)
  (hQ: ∀a' w' I' β',Le P w I β st.hp w' I' β' st'.hp→aE P w' I' β' st'.hp B M w0→iy P A.idle A.aD w' I' β' n a' st'→Q .normal a' w'):(Code.region id ops draw).wp P Q a w:=by
 obtain ⟨⟨iz,log⟩,h1,U⟩:=bind_some h
 obtain ⟨g,g1,g2,g3⟩:=MX h1
 have CP:g.map (·.1)=List.range ops.size:=by
  have:g.map (·.1)=(g.map fun x=>(x.1,x.2.1)).map (·.1):=by simp
  rw[this,g1,Nf,List.range_eq_range']
  simp
 have Ng: ∀x∈g,ops[x.1]? =some x.2.1:=by
  intro x hx
  have:(x.1,x.2.1)∈nz 0 ops.toList:=by rw[←g1];exact gj.2 ⟨x,hx,rfl⟩
  obtain ⟨j,hj⟩:=List.mem_iff_getElem?.1 this
  rw[Nd] at hj
  cases ho:ops.toList[j]? with
  | none=>rw[ho] at hj;cases hj
  | some o=>
   rw[ho] at hj
   simp only[Option.map_some,gi,dD,jx] at hj
   rw[←hj.1,←hj.2]
   simpa using ho
 cases draw with
 | false=>
  simp only[sg,Bool.true_or,cond_true] at U
  cases U
  refine wp_region ?_
  rw[←CP]
  exact M0 hC hP g3 Ng S hA hQ
 | true=>
  simp only[po,Bool.false_or] at U
  cases hc:(Region.noSelect ops&&xR ops log) with
  | false=>rw[hc] at U;cases U
  | true=>
   rw[hc] at U
   cases U
   simp only[aI,xR] at hc
   obtain ⟨hns,CN,WV⟩:=hc
   simp only[List.nil_append] at g2
   refine wp_region_any hm ?_
   have hlen:g.length=ops.size:=by
    have:=congrArg List.length CP
    simpa using this
   refine M9 hC hP CN ops.size (g:=g) (st':=st') hlen g3 Ng (by rw[CP];exact List.pairwise_lt_range) (by rw[←g2];exact M7 WV) (by simp) (fun i hi=> ?_) (fun i o ho hl=> ?_)
    (w:=w.drew) S.drew ⟨fun k=>(hA.sl k).mono (Le.drew w I β _),hA.size,hA.defers,hA.aD.mono (Le.drew (P:=P) w I β st.hp).cV (Le.drew (P:=P) w I β st.hp).bU⟩ fun a' w' I' β' k1 k2 k3=>hQ a' w' I' β' ((Le.drew w I β _).trans k1) k2 k3
   ·rw[CP]
    simp[hi]
   ·have hi:=(gJ.1 ho).1
    simp[hi] at hl
end
section
variable {P:Program} {A:ct} {E:FuncId→Bool} {G:Nat→V} {w w':World} {I I' I2:Nat→Prop} {μ β β':Nat→Option Nat} {hp hp':Nat→Option an} {C:ag} {B:Nat} {M:Nat→Prop} {w0:Start}
theorem te: ∀{l:List Nat} {hp:Nat→Option an} {I:Nat→Prop},aE P w I β hp B M w0→∃I',Le P w I β hp w I' β (sr hp l)∧aE P w I' β (sr hp l) B M w0
 | [],hp,I,S=>⟨I,Le.refl w I β hp,S⟩
 | id::l,hp,I,S=>by
  simp only[sr]
  cases ab:hp id with
  | none=>exact te S
  | some blk=>
   cases blk with
   | dead=>exact te S
   | var _=>exact te S
   | map _ _=>exact te S
   | arr e es fz=>
    obtain ⟨h1,U⟩:=yd S (upd:=[(id,.arr e es true)]) (fun p hp=>by
     simp only[dW] at hp
     subst hp
     exact ⟨e,es,rfl,.inl ⟨fz,ab⟩⟩)
    obtain ⟨I',h3,h4⟩:=te (l:=l) U
    exact ⟨I',h1.trans h3,h4⟩
   | nest e es aq=>
    obtain ⟨h1,U⟩:=yd S (upd:=[(id,.arr e es true)]) (fun p hp=>by
     simp only[dW] at hp
     subst hp
     exact ⟨e,es,rfl,.inr ⟨aq,ab⟩⟩)
    obtain ⟨I',h3,h4⟩:=te (l:=l) U
    exact ⟨I',h1.trans h3,h4⟩
theorem Nh {n m:Nat} {pur:List Nat} {a:Act} {st:St} (S:aE P w I β st.hp B M w0) (hA:iy P E G w I β n a st):
  ∃I',Le P w I β st.hp w I' β (freeze m pur st).hp∧aE P w I' β (freeze m pur st).hp B M w0∧iy P E G w I' β n a (freeze m pur st):=by
 obtain ⟨I',h1,U⟩:=te (l:=(KM st pur).filter fun id=>Nat.ble m id) S
 exact ⟨I',h1,U,fun k=>(hA.sl k).mono h1,hA.size,hA.defers,hA.aD.mono h1.cV h1.bU⟩
structure vu (hp:Nat→Option an) (β:Nat→Option Nat) (ord:List Nat) (hp':Nat→Option an) (β':Nat→Option Nat):Prop where
 arr: ∀(j:Nat) id e es fz,ord[j]? =some id→hp id=some (.arr e es fz)→hp' j=some (.arr e es fz)
 var: ∀(j:Nat) id T cs,ord[j]? =some id→hp id=some (.var T cs)→∃gV,hp' j=some (.var T gV)
 dead: ∀(j:Nat) id,ord[j]? =some id→hp id=some .dead→hp' j=some .dead
 place: ∀(j:Nat) id,ord[j]? =some id→β' j=β id
 nest: ∀(j:Nat) id e es aq,ord[j]? =some id→hp id=some (.nest e es aq)→hp' j=some (.nest e es (aq.map fun _=>0))
 map: ∀(j:Nat) id t es,ord[j]? =some id→hp id=some (.map t es)→hp' j=some (.map t es)
theorem lb: ∀{l:List Nat} {n i j:Nat},gO l n i=some j→∃k,j=i+k∧l[k]? =some n
 | [],n,i,j,h=>by cases h
 | a::l,n,i,j,h=>by
  simp only[gO] at h
  cases hb:Nat.beq n a with
  | true=>
   rw[hb] at h
   cases h
   rw[aP] at hb
   exact ⟨0,rfl,by rw[hb];rfl⟩
  | false=>
   rw[hb] at h
   obtain ⟨k,h1,U⟩:=lb h
   exact ⟨k+1,by omega,by simpa using U⟩
def ko (hp':Nat→Option an) (β':Nat→Option Nat) (n:Nat) (bs:List an):Prop:=
 ∀(k:Nat) b,bs[k]? =some b→hp' (n+k)=some b∧β' (n+k)=none
theorem Hf: ∀(aq:List Nat) (k:Nat),bu (aq.map fun _=>0) k=0
 | [],_=>rfl
 | _::_,0=>rfl
 | _::vs,k+1=>Hf vs k
theorem Ni {e:TypeId} {es:List V} {aq:List Nat} {path:Path} {ver:Nat} (hc:(Nat.blt 0 path.length&&(Nat.ble path.length aq.length&&Nat.beq (bu aq (path.length-1)) ver))=true)
  (h:(an.nest e es aq).sy path ver):False:=by
 simp only[aI,jw,dC,aP] at hc
 obtain ⟨h1,U,h3⟩:=hc
 rcases h with h|h|h
 ·subst h;simp at h1
 ·omega
 ·omega
theorem Nj (S:aE P w I β hp B M w0) {ord:List Nat} (hR:vu hp β ord hp' β') {v:Value} {x:V} (hv:ao P w I β hp v x):ao P w I β' hp' v (gP hp ord x):=by
 cases hv with
 | undef=>exact .undef
 | int=>exact .int
 | bool=>exact .bool
 | str h=>exact .str h
 | list h=>exact .list h
 | nilS=>exact .nilS
 | agg=>exact .undef
 | aX=>exact .undef
 | c6=>exact .c6
 | fn=>exact .undef
 | pref a b c=>exact .pref a b c
 | @dP _ e id ab=>
  simp only[gP]
  cases bh:gO ord id 0 with
  | none=>simp only[ab];exact .undef
  | some j=>
   obtain ⟨k,rfl,hk⟩:=lb bh
   exact .dP (hR.dead _ id (by simpa using hk) ab)
 | @fE _ e id off len ab=>
  simp only[gP]
  cases bh:gO ord id 0 with
  | none=>simp only[ab];exact .undef
  | some j=>
   obtain ⟨k,rfl,hk⟩:=lb bh
   exact .fE (hR.dead _ id (by simpa using hk) ab)
 | @jF _ id i c ab=>
  simp only[gP]
  cases bh:gO ord id 0 with
  | none=>exact .undef
  | some j=>
   obtain ⟨k,rfl,hk⟩:=lb bh
   exact .jF (hR.dead _ id (by simpa using hk) ab)
 | @dm e id fz _ ab hb=>
  simp only[gP]
  cases bh:gO ord id 0 with
  | none=>
   simp only[ab]
   cases fz with
   | false=>exact .undef
   | true=>simp only[ja,cond_true];exact .list (.any fun _=>rfl)
  | some j=>
   obtain ⟨k,rfl,hk⟩:=lb bh
   have cR:ord[0+k]? =some id:=by simpa using hk
   exact .dm (hR.arr _ id _ _ _ cR ab) ((hR.place _ id cR).trans hb)
 | @whole e id es fz b cap ab hb aR bR hm=>
  simp only[gP]
  cases bh:gO ord id 0 with
  | none=>
   simp only[ab]
   cases fz with
   | false=>exact .undef
   | true=>
    simp only[ja,cond_true]
    have hr:=S.h.rel id _ ab
    cases hr with
    | dp az=>rw[az] at hb;cases hb
    | arr au az hh hs hf dQ hx=>
     rw[hb] at az;cases az
     have:=sD (I':=I) (off:=0) (len:=es.length) (o:=0) hh hx (e8 au) (by omega) bR (fun _=>by simp) (fun _ h=>h) (hf rfl)
     exact .list (by simpa using this)
  | some j=>
   obtain ⟨k,rfl,hk⟩:=lb bh
   have cR:ord[0+k]? =some id:=by simpa using hk
   exact .whole (hR.arr _ id _ _ _ cR ab) ((hR.place _ id cR).trans hb) aR bR hm
 | @fl e id fz _ ab hb=>
  simp only[gP]
  cases bh:gO ord id 0 with
  | none=>
   simp only[ab]
   cases fz with
   | false=>exact .undef
   | true=>simp only[ja,cond_true];exact .list (by simpa using (ic.any (P:=P) fun _=>rfl))
  | some j=>
   obtain ⟨k,rfl,hk⟩:=lb bh
   have cR:ord[0+k]? =some id:=by simpa using hk
   exact .fl (hR.arr _ id _ _ _ cR ab) ((hR.place _ id cR).trans hb)
 | @sub e id off len es fz b o cap ab hb j9 bR ho=>
  simp only[gP]
  cases bh:gO ord id 0 with
  | none=>
   simp only[ab]
   cases fz with
   | false=>exact .undef
   | true=>
    simp only[ja,cond_true]
    have hr:=S.h.rel id _ ab
    cases hr with
    | dp az=>rw[az] at hb;cases hb
    | arr au az hh hs hf dQ hx=>
     rw[hb] at az;cases az
     exact .list (sD (I':=I) hh hx (e8 au) j9 bR ho (fun _ h=>h) (hf rfl))
  | some j=>
   obtain ⟨k,rfl,hk⟩:=lb bh
   have cR:ord[0+k]? =some id:=by simpa using hk
   exact .sub (hR.arr _ id _ _ _ cR ab) ((hR.place _ id cR).trans hb) j9 bR ho
 | @ptr id i c b blk ab hd hb=>
  simp only[gP]
  cases bh:gO ord id 0 with
  | none=>exact .undef
  | some j=>
   obtain ⟨k,rfl,hk⟩:=lb bh
   have cR:ord[0+k]? =some id:=by simpa using hk
   cases blk with
   | dead=>exact absurd rfl hd
   | var T0 cs=>
    obtain ⟨gV,h'⟩:=hR.var _ id T0 cs cR ab
    exact .ptr (blk:= .var T0 gV) h' (by simp) ((hR.place _ id cR).trans hb)
   | arr e es fz=>exact .ptr (blk:= .arr e es fz) (hR.arr _ id _ _ _ cR ab) (by simp) ((hR.place _ id cR).trans hb)
   | nest e es aq=>exact .ptr (blk:= .nest e es (aq.map fun _=>0)) (hR.nest _ id _ _ _ cR ab) (by simp) ((hR.place _ id cR).trans hb)
   | map t es=>exact .ptr (blk:= .map t es) (hR.map _ id _ _ cR ab) (by simp) ((hR.place _ id cR).trans hb)
 | dc=>exact .dc
 | @gS _ t id ab=>
  simp only[gP]
  cases bh:gO ord id 0 with
  | none=>exact .undef
  | some j=>
   obtain ⟨k,rfl,hk⟩:=lb bh
   exact .gS (hR.dead _ id (by simpa using hk) ab)
 | @cb t id b es ab hb=>
  simp only[gP]
  cases bh:gO ord id 0 with
  | none=>exact .undef
  | some j=>
   obtain ⟨k,rfl,hk⟩:=lb bh
   have cR:ord[0+k]? =some id:=by simpa using hk
   exact .cb (hR.map _ id _ _ cR ab) ((hR.place _ id cR).trans hb)
 | @dZ e id es aq b cap ab hb aR bR hm=>
  simp only[gP]
  cases bh:gO ord id 0 with
  | none=>simp only[ab];exact .undef
  | some j=>
   obtain ⟨k,rfl,hk⟩:=lb bh
   have cR:ord[0+k]? =some id:=by simpa using hk
   exact .dZ (hR.nest _ id _ _ _ cR ab) ((hR.place _ id cR).trans hb) aR bR hm
 | @je v e id ver path blk ab yb=>
  simp only[gP]
  split
  ·rename_i j e1 b7 aq h1 U
   rw[ab] at U
   cases U
   cases hc:(Nat.blt 0 path.length&&(Nat.ble path.length aq.length&&Nat.beq (bu aq (path.length-1)) ver)) with
   | false=>exact .undef
   | true=>exact (Ni hc yb).elim
  ·exact .undef
 | @jf v id ver i c path blk ab yb=>
  simp only[gP]
  split
  ·rename_i j e1 b7 aq h1 U
   rw[ab] at U
   cases U
   cases hc:(Nat.blt 0 path.length&&(Nat.ble path.length aq.length&&Nat.beq (bu aq (path.length-1)) ver)) with
   | false=>exact .undef
   | true=>exact (Ni hc yb).elim
  ·exact .undef
 | @row v e e0 t id ver b i c q es l aq ab hb hq hv ht hc=>
  simp only[gP]
  split
  ·rename_i j e1 b7 s7 h1 U
   obtain ⟨k,rfl,hk⟩:=lb h1
   have cR:ord[0+k]? =some id:=by simpa using hk
   cases hx:(Nat.blt 0 (q++[(i,c)]).length&&(Nat.ble (q++[(i,c)]).length s7.length&&Nat.beq (bu s7 ((q++[(i,c)]).length-1)) ver)) with
   | false=>exact .undef
   | true=>exact .row (hR.nest _ id _ _ _ cR ab) ((hR.place _ id cR).trans hb) (by simpa using hq) (Hf _ _) ht hc
  ·exact .undef
 | @cm e e0 t id ver b b1 len cap i0 c0 i c q es l aq ab hb hq hv ht jh hc=>
  simp only[gP]
  split
  ·rename_i j e1 b7 s7 h1 U
   obtain ⟨k,rfl,hk⟩:=lb h1
   have cR:ord[0+k]? =some id:=by simpa using hk
   cases hx:(Nat.blt 0 (q++[(i0,c0)]).length&&(Nat.ble (q++[(i0,c0)]).length s7.length&&Nat.beq (bu s7 ((q++[(i0,c0)]).length-1)) ver)) with
   | false=>exact .undef
   | true=>exact .cm (hR.nest _ id _ _ _ cR ab) ((hR.place _ id cR).trans hb) (by simpa using hq) (Hf _ _) ht jh hc
  ·exact .undef
theorem Nk (S:aE P w I β hp B M w0) {ord:List Nat} (hR:vu hp β ord hp' β') {vs:Array Value} {xs:List V} (h: ∀(j:Nat) v x,vs[j]? =some v→xs[j]? =some x→ao P w I β hp v x) (j:Nat) (v:Value) (y:V)
  (hv:vs[j]? =some v) (hy:(xs.map (gP hp ord))[j]? =some y):ao P w I β' hp' v y:=by
 rw[gk] at hy
 cases hx:xs[j]? with
 | none=>rw[hx] at hy;cases hy
 | some x=>rw[hx] at hy;cases hy;exact Nj S hR (h j v x hv hx)
theorem Nl (S:aE P w I β hp B M w0) {ord:List Nat} (hR:vu hp β ord hp' β') {n:Nat} {v:Value} {x:V} (hv:ao P w I β hp v x) (hF:ko hp' β' n (uL hp ord n x).2):
  ao P w I β' hp' v (uL hp ord n x).1:=by
 cases x with
 | nilS e=>
  obtain ⟨h1,U⟩:=hF 0 _ rfl
  cases hv with
  | nilS=>exact .dm h1 U
 | fn f a b=>
  cases hv with
  | fn q1 q2 q3 q4=>exact .fn (by simpa using q1) (Nk S hR q2) (by simpa using q3) (Nk S hR q4)
 | _=>exact Nj S hR hv
end
section
variable {P:Program} {A:ct} {w w':World} {I I' I2:Nat→Prop} {μ β β':Nat→Option Nat} {hp hp':Nat→Option an} {C:ag} {B:Nat} {M:Nat→Prop} {w0:Start}
theorem ko.left {n:Nat} {a b:List an} (h:ko hp' β' n (a++b)):ko hp' β' n a:=fun k x hx=>
 h k x (by rw[hU (bj.1 hx).1];exact hx)
theorem ko.right {n:Nat} {a b:List an} (h:ko hp' β' n (a++b)):ko hp' β' (n+a.length) b:=fun k x hx=>by
 have:=h (a.length+k) x (by rw[gK (by omega),Nat.add_sub_cancel_left];exact hx)
 rwa [←nj] at this
def lQ (bs:List an):Prop:= ∀b∈bs,∃e,b= .arr e [] false
theorem lQ.app {a b:List an} (h1:lQ a) (U:lQ b):lQ (a++b):=fun x hx=>(eh.1 hx).elim (h1 x) (U x)
theorem lQ.nil:lQ []:=fun x hx=>by simp at hx
theorem Nn {ord:List Nat} {n:Nat} {x:V}:lQ (uL hp ord n x).2:=by
 cases x<;>simp only[uL]<;>first|exact .nil|skip
 intro b hb
 simp only[dW] at hb
 exact ⟨_,hb⟩
theorem Hg {ord:List Nat}: ∀{xs:List V} {n:Nat},lQ (mz hp ord n xs).2
 | [],n=> .nil
 | x::xs,n=>by
  simp only[mz]
  exact Nn.app Hg
theorem CQ {ord:List Nat}: ∀{xs:List V} {n:Nat},(mz hp ord n xs).1.length=xs.length
 | [],n=>rfl
 | x::xs,n=>by simp only[mz,List.length_cons,CQ]
theorem CR (S:aE P w I β hp B M w0) {ord:List Nat} (hR:vu hp β ord hp' β'): ∀{xs:List V} {vs:List Value} {n:Nat},(∀(j:Nat) v x,vs[j]? =some v→xs[j]? =some x→ao P w I β hp v x)→
  ko hp' β' n (mz hp ord n xs).2→∀(j:Nat) v y,vs[j]? =some v→(mz hp ord n xs).1[j]? =some y→ao P w I β' hp' v y
 | [],vs,n,h,hF,j,v,y,hv,hy=>by simp[mz] at hy
 | x::xs,vs,n,h,hF,j,v,y,hv,hy=>by
  simp only[mz] at hF hy
  cases j with
  | zero=>
   simp at hy
   subst hy
   exact Nl S hR (h 0 v x hv rfl) hF.left
  | succ j=>
   cases vs with
   | nil=>simp at hv
   | cons v0 vs=>exact CR S hR (vs:=vs) (fun j v x hj hx=>h (j+1) v x (by simpa using hj) (by simpa using hx)) hF.right j v y (by simpa using hv) (by simpa using hy)
theorem WW {ord:List Nat} {n:Nat} {x:V}:lQ (pE hp ord n x).2:=by
 cases x<;>simp only[pE]<;>first|exact Nn|exact Hg
theorem WX (S:aE P w I β hp B M w0) {ord:List Nat} (hR:vu hp β ord hp' β') {n:Nat} {v:Value} {x:V} (hv:ao P w I β hp v x) (hF:ko hp' β' n (pE hp ord n x).2):
  ao P w I β' hp' v (pE hp ord n x).1:=by
 cases x with
 | agg cs=>
  obtain ⟨ds,rfl,h1,U⟩:=hv.kf
  simp only[pE] at hF⊢
  exact .agg (by rw[CQ];exact h1) fun j v y hj hy=>CR S hR (vs:=ds.toList) (fun j v x hj hx=>U j v x (by simpa using hj) hx) hF j v y (by simpa using hj) hy
 | aX cs=>
  obtain ⟨ds,rfl,h1,U⟩:=hv.sH
  simp only[pE] at hF⊢
  exact .aX (by rw[CQ];exact h1) fun j v y hj hy=>CR S hR (vs:=ds.toList) (fun j v x hj hx=>U j v x (by simpa using hj) hx) hF j v y (by simpa using hj) hy
 | _=>exact Nl S hR hv hF
theorem No {ord:List Nat} {sl:Nat→V}: ∀{l:List Nat} {n:Nat},lQ (kP hp ord sl n l).2
 | [],n=> .nil
 | s::l,n=>by
  simp only[kP]
  exact WW.app No
theorem Np {ord:List Nat} {sl:Nat→V} {k:Nat} {y:V}: ∀{l:List Nat} {n:Nat},ko hp' β' n (kP hp ord sl n l).2→dk (kP hp ord sl n l).1 k=some y→
  ∃n',ko hp' β' n' (pE hp ord n' (sl k)).2∧y=(pE hp ord n' (sl k)).1
 | [],n,_,h=>by cases h
 | s::l,n,hF,h=>by
  simp only[kP] at hF h
  simp only[dk] at h
  cases hb:Nat.beq k s with
  | true=>
   rw[hb] at h
   rw[aP] at hb
   subst hb
   cases h
   exact ⟨n,hF.left,rfl⟩
  | false=>
   rw[hb] at h
   exact Np hF.right h
theorem WY {ord:List Nat} {n id:Nat}:lQ (ew hp ord n id).2:=by
 unfold ew
 split
 ·exact Hg
 ·exact .nil
 ·exact .nil
 ·exact .nil
 ·exact .nil
theorem Nq {ord:List Nat}: ∀{l:List Nat} {n:Nat},lQ (e6 hp ord n l).2
 | [],n=> .nil
 | s::l,n=>by
  simp only[e6]
  exact WY.app Nq
theorem Nr {ord:List Nat}: ∀{l:List Nat} {n:Nat},(e6 hp ord n l).1.length=l.length
 | [],n=>rfl
 | x::xs,n=>by simp only[e6,List.length_cons,Nr]
theorem Ns {ord:List Nat}: ∀{l:List Nat} {n j:Nat} {id:Nat},l[j]? =some id→∃n',(ko hp' β' n (e6 hp ord n l).2→ko hp' β' n' (ew hp ord n' id).2)∧(e6 hp ord n l).1[j]? =some (ew hp ord n' id).1
 | [],n,j,id,h=>by simp at h
 | s::l,n,j,id,h=>by
  simp only[e6]
  cases j with
  | zero=>
   simp at h
   subst h
   exact ⟨n,fun hF=>hF.left,rfl⟩
  | succ j=>
   obtain ⟨n',h1,U⟩:=Ns (n:=n+(ew hp ord n s).2.length) (j:=j) (by simpa using h)
   exact ⟨n',fun hF=>h1 hF.right,by simpa using U⟩
theorem CS: ∀{l acc:List Nat},∃t,sq hp acc l=acc++t∧(acc.Nodup→(acc++t).Nodup)
 | [],acc=>⟨[],by simp[sq],by simp⟩
 | id::l,acc=>by
  simp only[sq]
  cases hb:(jz acc id|| !(KL hp id)) with
  | true=>exact CS
  | false=>
   obtain ⟨t,h1,U⟩:=CS (l:=l) (acc:=acc++[id])
   refine ⟨id::t,by simp only[cond_false,h1,ca,List.singleton_append],fun hn=> ?_⟩
   have:acc++id::t=(acc++[id])++t:=by simp
   rw[this]
   refine U ?_
   rw[Bf]
   refine ⟨hn,by simp,fun a ha b az=> ?_⟩
   simp only[dW] at az
   subst az
   intro e
   subst e
   rw[u3 ha] at hb
   cases hb
theorem Nt: ∀{n:Nat} {l:List Nat},∃t,grow hp n l=l++t∧(l.Nodup→(l++t).Nodup)
 | 0,l=>⟨[],by simp[grow],by simp⟩
 | n+1,l=>by
  simp only[grow]
  obtain ⟨t,h1,U⟩:=CS (hp:=hp) (acc:=l) (l:=l.flatMap (FD hp))
  rw[h1]
  obtain ⟨t',h3,h4⟩:=Nt (n:=n) (l:=l++t)
  exact ⟨t++t',by rw[h3,ca],fun hn=>by rw[←ca];exact h4 (U hn)⟩
theorem WZ {m:Nat} {live:List Nat} {st:St}: ∃t,FE m live st=List.range m++t∧(List.range m++t).Nodup:=by
 unfold FE
 obtain ⟨t,h1,U⟩:=CS (hp:=st.hp) (acc:=List.range m) (l:=live.flatMap fun s=>FC (st.sl s))
 rw[h1]
 obtain ⟨t',h3,h4⟩:=Nt (hp:=st.hp) (n:=3) (l:=List.range m++t)
 exact ⟨t++t',by rw[h3,ca],by rw[←ca];exact h4 (U List.nodup_range)⟩
end
section
variable {P:Program} {A:ct} {E:FuncId→Bool} {G:Nat→V} {w w':World} {I I' I2:Nat→Prop} {μ β β':Nat→Option Nat} {hp hp' hp0:Nat→Option an} {C:ag} {B:Nat} {M:Nat→Prop} {w0:Start}
theorem Nu {n m:Nat} {ord live:List Nat} {a:Act} {st:St} (kT:ord.Nodup) (yU: ∀id,id<m→ord[id]? =some id∨∃p,ord[id]? =some p∧st.hp p=none) (S:aE P w I β st.hp B M w0) (hA:iy P E G w I β n a st) (hE:kj w0.w w0.I μ hp0 w I β st.hp) (hm: ∀id blk,hp0 id=some blk→id<m) (iS: ∀id e es aq,hp0 id=some (.nest e es aq)→∀k,bu aq k=0):
  ∃β',aE P w I β' (uM ord live st).hp B M w0∧iy P E G w I β' n a (uM ord live st)∧kj w0.w w0.I μ hp0 w I β' (uM ord live st).hp:=by
 have W0:uM ord live st=mk (kP st.hp ord st.sl (ord.length+(e6 st.hp ord ord.length ord).2.length) live).1
   ((e6 st.hp ord ord.length ord).1++((e6 st.hp ord ord.length ord).2++(kP st.hp ord st.sl (ord.length+(e6 st.hp ord ord.length ord).2.length) live).2)):=by
  rfl
 rw[W0]
 let hp':=jc ((e6 st.hp ord ord.length ord).1++((e6 st.hp ord ord.length ord).2++(kP st.hp ord st.sl (ord.length+(e6 st.hp ord ord.length ord).2.length) live).2))
 let β':Nat→Option Nat:=fun j=>if j<ord.length then (ord[j]?).bind β else none
 have hlen:(e6 st.hp ord ord.length ord).1.length=ord.length:=Nr
 have iv: ∀j,j<ord.length→hp' j=(e6 st.hp ord ord.length ord).1[j]? :=by
  intro j hj
  simp only[hp',gB]
  rw[hU (by omega)]
 have gA: ∀k,hp' (ord.length+k)=((e6 st.hp ord ord.length ord).2++(kP st.hp ord st.sl (ord.length+(e6 st.hp ord ord.length ord).2.length) live).2)[k]? :=by
  intro k
  simp only[hp',gB]
  rw[gK (by omega),hlen,Nat.add_sub_cancel_left]
 have hF:ko hp' β' ord.length ((e6 st.hp ord ord.length ord).2++(kP st.hp ord st.sl (ord.length+(e6 st.hp ord ord.length ord).2.length) live).2):=by
  intro k b hb
  refine ⟨(gA k).trans hb,?_⟩
  simp only[β']
  rw[ai (by omega)]
 have yR:lQ ((e6 st.hp ord ord.length ord).2++(kP st.hp ord st.sl (ord.length+(e6 st.hp ord ord.length ord).2.length) live).2):=Nq.app No
 have nP: ∀(j:Nat) id,ord[j]? =some id→β' j=β id:=by
  intro j id hj
  simp only[β']
  rw[aj (bj.1 hj).1,hj]
  rfl
 have qe: ∀(j:Nat) id,ord[j]? =some id→∃n',ko hp' β' n' (ew st.hp ord n' id).2∧hp' j=some (ew st.hp ord n' id).1:=by
  intro j id hj
  obtain ⟨n',h1,U⟩:=Ns (hp:=st.hp) (hp':=hp') (β':=β') (ord:=ord) (n:=ord.length) hj
  exact ⟨n',h1 hF.left,(iv j (bj.1 hj).1).trans U⟩
 have hR:vu st.hp β ord hp' β':=by
  refine ⟨fun j id e es fz hj ab=> ?_,fun j id T cs hj ab=> ?_,fun j id hj ab=> ?_,nP,fun j id e es aq hj ab=> ?_,fun j id t es hj ab=> ?_⟩
  ·obtain ⟨n',_,U⟩:=qe j id hj
   rw[U];simp only[ew,ab]
  ·obtain ⟨n',_,U⟩:=qe j id hj
   rw[U];simp only[ew,ab];exact ⟨_,rfl⟩
  ·obtain ⟨n',_,U⟩:=qe j id hj
   rw[U];simp only[ew,ab]
  ·obtain ⟨n',_,U⟩:=qe j id hj
   rw[U];simp only[ew,ab]
  ·obtain ⟨n',_,U⟩:=qe j id hj
   rw[U];simp only[ew,ab]
 have cls: ∀j blk',hp' j=some blk'→(∃id,ord[j]? =some id∧((blk'= .dead)∨∃blk,st.hp id=some blk∧blk≠ .dead∧∀o b,bn P w o blk' b→bn P w o blk b))∨(∃e,blk'= .arr e [] false∧β' j=none):=by
  intro j blk' hj
  rcases ou j ord.length with h|h
  ·have fS:=bE h
   obtain ⟨n',_,U⟩:=qe j _ fS
   rw[hj] at U
   refine .inl ⟨_,fS,?_⟩
   cases ab:st.hp ord[j] with
   | none=>left;simp only[ew,ab] at U;exact cP U
   | some blk=>
    cases blk with
    | dead=>left;simp only[ew,ab] at U;exact cP U
    | var T0 cs=>exact .inr ⟨_,rfl,by simp,fun o b h=>by simp only[ew,ab] at U;rw[cP U] at h;exact .root (by simp) (h.flat (by simp))⟩
    | arr e es fz=>exact .inr ⟨_,rfl,by simp,fun o b h=>by simp only[ew,ab] at U;rw[cP U] at h;exact .root (by simp) (h.flat (by simp))⟩
    | map t es=>exact .inr ⟨_,rfl,by simp,fun o b h=>by simp only[ew,ab] at U;rw[cP U] at h;exact .root (by simp) (h.flat (by simp))⟩
    | nest e es aq=>
     refine .inr ⟨_,rfl,by simp,fun o b h=> ?_⟩
     simp only[ew,ab] at U
     rw[cP U] at h
     cases h with
     | root _ h=>exact .root (by simp) h
     | row h1 U=>exact .row h1 U
  ·obtain ⟨k,rfl⟩: ∃k,j=ord.length+k:=⟨j-ord.length,by omega⟩
   rw[gA] at hj
   obtain ⟨e,he⟩:=yR _ (jb hj)
   exact .inr ⟨e,he,(hF k _ hj).2⟩
 refine ⟨β',⟨⟨fun j blk' hj=> ?_,fun j1 j2 b1 b2 b e1 e2 f1 f2=> ?_,fun j blk b e1 f1=> ?_,S.h.jg⟩,S.bU,S.size,S.new,S.io⟩,⟨fun k=> ?_,hA.size,hA.defers,hA.aD⟩,⟨hE.cV,hE.bU,fun id blk ab=> ?_,fun id blk blk' b ab bx hd hb=> ?_⟩⟩
 ·change hp' j=some blk' at hj
  rcases ou j ord.length with h|h
  ·have fS:=bE h
   obtain ⟨n',Nw,U⟩:=qe j _ fS
   rw[hj] at U
   rw[nP j _ fS]
   cases ab:st.hp ord[j] with
   | none=>simp only[ew,ab] at U;rw[cP U];exact .dead
   | some blk=>
    have hr:=S.h.rel _ _ ab
    generalize β ord[j]=o at hr
    cases hr with
    | dead=>simp only[ew,ab] at U;rw[cP U];exact .dead
    | dp hb=>simp only[ew,ab] at U;rw[cP U];exact .dp hb
    | arr a1 a2 a3 a4 a5 a6 a7=>simp only[ew,ab] at U;rw[cP U];exact .arr a1 a2 a3 a4 a5 a6 a7
    | nest a1 a2 a3=>simp only[ew,ab] at U;rw[cP U];exact .nest a1 a2 a3
    | map a1 a2 a3 a4 a5 a6 a7=>simp only[ew,ab] at U;rw[cP U];exact .map a1 a2 a3 a4 a5 a6 a7
    | @var xs b Ca T hb hh hs cC hx fG=>
     simp only[ew,ab] at U Nw
     rw[cP U]
     exact .var hb hh (by rw[CQ];exact hs) cC (fun i v y hi hy=>CR S hR (vs:=Ca.toList) (fun i v x hi cf=>hx i v x (by simpa using hi) cf) Nw i v y (by simpa using hi) hy) fG
  ·rcases cls j blk' hj with ⟨id,ab,_⟩|⟨e,he,hb⟩
   ·have:=(bj.1 ab).1;omega
   ·rw[he];exact .dp hb
 ·rcases cls j1 b1 e1 with ⟨Hh,o1,x1⟩|⟨e,_,hb⟩
  ·rcases cls j2 b2 e2 with ⟨ch,o2,x2⟩|⟨e,_,hb⟩
   ·obtain ⟨c1,y1,z1,g1⟩:=x1.resolve_left f1.alive
    obtain ⟨c2,y2,z2,g2⟩:=x2.resolve_left f2.alive
    rw[nP _ _ o1] at f1
    rw[nP _ _ o2] at f2
    have:=S.h.inj Hh ch c1 c2 b y1 y2 (g1 _ _ f1) (g2 _ _ f2)
    subst this
    obtain ⟨q1,q2⟩:=bj.1 o1
    obtain ⟨q3,q4⟩:=bj.1 o2
    exact (List.getElem_inj kT).1 (q2.trans q4.symm)
   ·subst ‹b2=_›;have:=f2.flat (by simp);rw[hb] at this;cases this
  ·subst ‹b1=_›;have:=f1.flat (by simp);rw[hb] at this;cases this
 ·rcases cls j blk e1 with ⟨Hh,o1,x1⟩|⟨e,_,hb⟩
  ·obtain ⟨c1,y1,z1,g1⟩:=x1.resolve_left f1.alive
   rw[nP _ _ o1] at f1
   exact S.h.own Hh c1 b y1 (g1 _ _ f1)
  ·subst ‹blk=_›;have:=f1.flat (by simp);rw[hb] at this;cases this
 ·change ao P w I β' hp' (a.tmps.getD k undef) (iL _ k)
  unfold iL
  cases GV:dk (kP st.hp ord st.sl (ord.length+(e6 st.hp ord ord.length ord).2.length) live).1 k with
  | none=>exact .undef
  | some y=>
   obtain ⟨n',h1,U⟩:=Np hF.right GV
   simp only[Option.getD_some,U]
   exact WX S hR (hA.sl k) h1
 ·obtain ⟨qa,k1,k2,k3⟩:=hE.blk id blk ab
  rcases yU id (hm id blk ab) with ho|⟨p,ho,bh⟩
  ·cases qa with
   | dead=>exact ⟨.dead,hR.dead id id ho k1,k2,fun h=>absurd rfl h⟩
   | var T0 cs=>
    obtain ⟨gV,h'⟩:=hR.var id id T0 cs ho k1
    refine ⟨_,h',?_,fun _=>(nP id id ho).trans (k3 (by simp))⟩
    cases blk<;>simp_all [an.le]
   | arr e es fz=>exact ⟨_,hR.arr id id e es fz ho k1,k2,fun _=>(nP id id ho).trans (k3 (by simp))⟩
   | map t es=>exact ⟨_,hR.map id id t es ho k1,k2,fun _=>(nP id id ho).trans (k3 (by simp))⟩
   | nest e es aq=>
    refine ⟨_,hR.nest id id e es aq ho k1,?_,fun _=>(nP id id ho).trans (k3 (by simp))⟩
    obtain ⟨FM,T6,rfl,l1,l2,_⟩:=an.FK k2
    exact ⟨rfl,l1,by simpa using l2,fun k=>by rw[iS id _ _ _ ab k];exact jY _⟩
  ·obtain ⟨n',_,U⟩:=qe id p ho
   simp only[ew,bh] at U
   exact ⟨.dead,U,by cases blk<;>trivial,fun h=>absurd rfl h⟩
 ·obtain ⟨qa,k1,k2,k3⟩:=hE.blk id blk ab
  rcases yU id (hm id blk ab) with ho|⟨p,ho,bh⟩
  ·refine hE.size id blk qa b ab k1 (fun qd=> ?_) hb
   subst qd
   have:=hR.dead id id ho k1
   change hp' id=some blk' at bx
   rw[this] at bx
   exact hd (cP bx).symm
  ·obtain ⟨n',_,U⟩:=qe id p ho
   simp only[ew,bh] at U
   change hp' id=some blk' at bx
   rw[U] at bx
   exact absurd (cP bx).symm hd
theorem W3 {n m:Nat} {live:List Nat} {a:Act} {st:St} (S:aE P w I β st.hp B M w0) (hA:iy P E G w I β n a st) (hE:kj w0.w w0.I μ hp0 w I β st.hp) (hm: ∀id blk,hp0 id=some blk→id<m) (iS: ∀id e es aq,hp0 id=some (.nest e es aq)→∀k,bu aq k=0):
  ∃β',aE P w I β' (canon m live st).hp B M w0∧iy P E G w I β' n a (canon m live st)∧kj w0.w w0.I μ hp0 w I β' (canon m live st).hp:=by
 obtain ⟨t,yU,kT⟩:=WZ (m:=m) (live:=live) (st:=st)
 refine Nu (by rw[yU];exact kT) (fun id aO=> .inl ?_) S hA hE hm iS
 rw[yU,hU (by simpa using aO)]
 simp[aO]
theorem Nx: ∀{l:List Nat},pF l=true→l.Nodup
 | [],_=> .nil
 | a::l,h=>by
  simp only[pF,aI,mh] at h
  rw[List.nodup_cons]
  exact ⟨fun hm=>Bool.noConfusion ((u3 hm).symm.trans h.1),Nx h.2⟩
theorem W4 {m:Nat} {mv:List Nat} {id:Nat} (h:id<m):(ny m mv)[id]? =some id∨(ny m mv)[id]? =some (m+id):=by
 unfold ny
 rw[hU (by simpa using h),gk]
 simp only[List.getElem?_range h,Option.map_some]
 cases jz mv id with
 | true=>exact .inr rfl
 | false=>exact .inl rfl
end
section
variable {P:Program} {A:ct} {w w':World} {I I' I2:Nat→Prop} {μ β β':Nat→Option Nat} {hp hp' hp0:Nat→Option an} {C:ag} {B:Nat} {M:Nat→Prop} {w0:Start}
theorem CT (p:Nat→Prop) (h: ∃n,p n): ∃n,p n∧∀m,p m→n≤m:=by
 obtain ⟨n,hn⟩:=h
 induction n using Nat.strongRecOn with
 | _ n ih=>
  by_cases hx: ∃m,m<n∧p m
  ·obtain ⟨m,hm,hp⟩:=hx
   exact ih m hm hp
  ·exact ⟨n,hn,fun m hm=>Nat.le_of_not_lt fun aO=>hx ⟨m,aO,hm⟩⟩
open Classical in
theorem W5 {c:Code} {Q:Exit→Act→World→Prop} (J:Nat→Act→World→Prop) (h0: ∀a w,¬J 0 a w) (round: ∀n a w,J (n+1) a w→c.wp P (Exit.then (J n) Q) a w) {n:Nat} {a:Act} {w:World} (h:J n a w):
  (Code.loop c).wp P Q a w:=by
 refine wp_loop (fun a w=> ∃n,J n a w) (fun a w=>if h: ∃n,J n a w then (CT _ h).choose else 0) ⟨n,h⟩ fun a w hJ=> ?_
 obtain ⟨h1,U⟩:=(CT _ hJ).choose_spec
 generalize hk:(CT _ hJ).choose=k at h1 U
 cases k with
 | zero=>exact absurd h1 (h0 a w)
 | succ k=>
  refine wp_mono (round k a w h1) fun e a' w' he=> ?_
  cases e with
  | normal=>
   have hex: ∃n,J n a' w':=⟨k,he⟩
   refine ⟨hex,?_⟩
   have h3:=(CT _ hex).choose_spec.2 k he
   rw[qF hex,qF hJ,hk]
   omega
  | _=>exact he
def vw:Out→Exit
 | .norm=> .normal
 | .exit id=> .exit id
 | .ret=> .ret
def Inv (P:Program) (E:FuncId→Bool) (G:Nat→V) (B:Nat) (M:Nat→Prop) (w0:Start) (μ:Nat→Option Nat) (hp0:Nat→Option an) (n:Nat) (a:Act) (w:World) (st:St):Prop:=
 ∃I β,aE P w I β st.hp B M w0∧iy P E G w I β n a st∧kj w0.w w0.I μ hp0 w I β st.hp
theorem Inv.canon {E:FuncId→Bool} {G:Nat→V} {n m:Nat} {a:Act} {st:St} {live:List Nat} (h:Inv P E G B M w0 μ hp0 n a w st) (hm: ∀id blk,hp0 id=some blk→id<m) (iS: ∀id e es aq,hp0 id=some (.nest e es aq)→∀k,bu aq k=0):Inv P E G B M w0 μ hp0 n a w (canon m live st):=by
 obtain ⟨I,β,S,hA,hE⟩:=h
 obtain ⟨β',a,b,c⟩:=W3 (live:=live) S hA hE hm iS
 exact ⟨I,β',a,b,c⟩
theorem CU: ∀{l:List BS} {ds:List V},(ej l ds).length=l.length
 | [],_=>rfl
 | b::l,ds=>by simp only[ej,List.length_cons,CU]
theorem Inv.enter {A:ct} {E:FuncId→Bool} {G:Nat→V} {n f:Nat} {ds:List V} {a:Act} (jM:pF (ny (A.sin f).a8.length (A.mv f))=true) (h:Inv P E G B M w0 μ hp0 n a w (bd (A.sin f) ds)) (hm: ∀id blk,hp0 id=some blk→id<(A.sin f).a8.length)
  (iS: ∀id e es aq,hp0 id=some (.nest e es aq)→∀k,bu aq k=0) (vy: ∀p,(A.sin f).a8.length≤p→(bd (A.sin f) ds).hp p=none):Inv P E G B M w0 μ hp0 n a w (BG A f ds):=by
 unfold BG
 split
 ·exact h
 ·obtain ⟨I,β,S,hA,hE⟩:=h
  obtain ⟨β',x,y,z⟩:=Nu (m:=(A.sin f).a8.length) (ord:=ny (A.sin f).a8.length (A.mv f)) (live:=(A.sin f).bI.map (·.1)) (Nx jM) (fun id ab=>(W4 ab).imp (fun h=>h) fun h=>⟨_,h,vy _ (by omega)⟩) S hA hE hm iS
  exact ⟨I,β',x,y,z⟩
theorem Inv.reshape {E:FuncId→Bool} {G:Nat→V} {n m:Nat} {a:Act} {st:St} {S:Shape} {ds:List V} (h:Inv P E G B M w0 μ hp0 n a w st) (hs:jd m S st=some ds) (hm: ∀id blk,hp0 id=some blk→id<m):Inv P E G B M w0 μ hp0 n a w (bd S ds):=by
 obtain ⟨I,β,S1,hA,hE⟩:=h
 obtain ⟨r1,r2,_,r4⟩:=AM.reshape hs S1
 refine ⟨I,β,r1,⟨fun k=>r2 k _ (hA.sl k),hA.size,hA.defers,hA.aD⟩,⟨hE.cV,hE.bU,fun id blk ab=> ?_,fun id blk blk' b ab bx hd hb=> ?_⟩⟩
 ·obtain ⟨qa,k1,k2,k3⟩:=hE.blk id blk ab
  obtain ⟨_,hle,_⟩:=Mf hs
  have hl:=hm id blk ab
  obtain ⟨bO,U⟩: ∃bO,(bd S ds).hp id=some bO:=by
   simp only[bd,mk,gB]
   exact ⟨_,bE (by rw[CU];omega)⟩
  by_cases hd:bO= .dead
  ·subst hd
   exact ⟨_,U,by cases blk<;>trivial,fun h=>absurd rfl h⟩
  ·obtain ⟨gq,e1,e2,_⟩:=r4 id bO U hd
   rw[k1] at e1;cases e1
   exact ⟨_,U,an.le_trans k2 e2,fun _=>k3 (fun e=>hd (an.oF (e▸e2)))⟩
 ·obtain ⟨gq,e1,e2,_⟩:=r4 id blk' bx hd
  exact hE.size id blk gq b ab e1 (fun e=>hd (an.oF (e▸e2))) hb
theorem km.here (h:km P A C) (f:Nat) (id:Nat):km P (A.here f id) C:=by
 intro key ds es hh
 obtain ⟨fn,c,h1,U,h3⟩:=h key ds es hh
 refine ⟨fn,c,h1,U,fun w I μ vals a g b d=>(h3 w I μ vals a g b d).mono fun e w' hx=> ?_⟩
 obtain ⟨v,I2,bP,q1,q2⟩:=hx
 exact ⟨v,I2,bP,q1,⟨q2.vk,q2.le,q2.res⟩⟩
theorem W6 {a b:Out} (h:BF a b=true):a=b:=by
 cases a<;>cases b<;>simp[BF] at h<;>first|rfl|(subst h;rfl)
theorem Ny {m:Nat} {r:Out × St}: ∀{l:List (Out × Shape)} {j:Nat} {e:Nat × List V},ways m j l r=some e→j≤e.1
 | [],j,e,h=>by cases h
 | (o,S)::l,j,e,h=>by
  simp only[ways] at h
  split at h
  ·cases h;exact b6 _
  ·have:=Ny h;omega
theorem Hi {m:Nat} {o:Out} {s:St} {out:Out} {st':St}: ∀{l:List (Out × Shape)} {k:Nat} {e:Nat × List V},ways m k l (o,s)=some e→lC k l e.1 e.2 (fun o st=>some (o,st))=some (out,st')→
  out=o∧∃S,jd m S s=some e.2∧st'=bd S e.2
 | [],k,e,h,_=>by cases h
 | (o',S)::l,k,e,h,U=>by
  simp only[ways] at h
  split at h
  ·rename_i ds hx
   cases h
   cases ho:BF o' o with
   | false=>rw[ho] at hx;cases hx
   | true=>
    rw[ho] at hx
    have:=W6 ho
    subst this
    cases l with
    | nil=>
     simp only[lC,dD,jx] at U
     exact ⟨U.1.symm,S,hx,U.2.symm⟩
    | cons p l=>
     simp only[lC,ja,cond_true,dD,jx] at U
     exact ⟨U.1.symm,S,hx,U.2.symm⟩
  ·have oM:=Ny h
   cases l with
   | nil=>cases h
   | cons p l=>
    have bw:Nat.beq e.1 k=false:=by
     cases hb:Nat.beq e.1 k with
     | false=>rfl
     | true=>rw[aP] at hb;omega
    simp only[lC,bw,cond_false] at U
    exact Hi h U
theorem W7 (hC:km P A C) (hP:iR P A) (oT:P.follows .mixedOrders=true) {f n m:Nat} (hm: ∀id blk,hp0 id=some blk→id<m) (iS: ∀id e es aq,hp0 id=some (.nest e es aq)→∀k,bu aq k=0):
  ∀(c:Code) {st st':St} {out:Out} {Q:Exit→Act→World→Prop} {a:Act} {w:World},exec P A C f n m c st=some (out,st')→Inv P A.idle A.aD B M w0 μ hp0 n a w st→
   (∀a' w',Inv P A.idle A.aD B M w0 μ hp0 n a' w' st'→Q (vw out) a' w')→c.wp P Q a w:=by
 intro c
 induction c with
 | skip=>
  intro st st' out Q a w h hI hQ
  simp only[exec,dD,jx] at h
  obtain ⟨rfl,rfl⟩:=h
  exact wp_skip (hQ a w hI)
 | exit id=>
  intro st st' out Q a w h hI hQ
  simp only[exec,dD,jx] at h
  obtain ⟨rfl,rfl⟩:=h
  exact wp_exit (hQ a w hI)
 | ret=>
  intro st st' out Q a w h hI hQ
  simp only[exec,dD,jx] at h
  obtain ⟨rfl,rfl⟩:=h
  exact wp_ret (hQ a w hI)
 | region id ops draw=>
  intro st st' out Q a w h hI hQ
  simp only[exec] at h
  obtain ⟨iz,h1,U⟩:=bind_some h
  simp only[dD,jx] at U
  obtain ⟨rfl,rfl⟩:=U
  obtain ⟨I,β,S,hA,hE⟩:=hI
  refine WU (hC.here f id) (hP.here f id) oT h1 S hA fun a' w' I' β' k1 k2 k3=> ?_
  obtain ⟨I2,l1,l2,l3⟩:=Nh (m:=m) (pur:=A.pur f id) k2 k3
  have W8:=(hE.trans k1.CA).trans l1.CA
  exact hQ a' w' (Inv.canon ⟨I2,β',l2,l3,W8⟩ hm iS)
 | seq x y ia ib=>
  intro st st' out Q a w h hI hQ
  simp only[exec] at h
  obtain ⟨⟨o1,iz⟩,h1,U⟩:=bind_some h
  refine wp_seq (ia h1 hI fun a' w' jn=> ?_)
  cases o1 with
  | norm=>exact ib U jn hQ
  | exit id=>
   simp only[dD,jx] at U
   obtain ⟨rfl,rfl⟩:=U
   exact hQ a' w' jn
  | ret=>
   simp only[dD,jx] at U
   obtain ⟨rfl,rfl⟩:=U
   exact hQ a' w' jn
 | cond c x y ia ib=>
  intro st st' out Q a w h hI hQ
  cases c with
  | tmp t=>
   have go: ∀{st st':St} {out:Out} {Q:Exit→Act→World→Prop} {a:Act} {w:World},(match st.sl t with
     | .bool b=>(bif b then exec P A C f n m x st else exec P A C f n m y st).bind fun r=>
      match r.1 with
      | .norm=>some (.norm,AM.canon m (A.join f t) r.2)
      | _=>some r
     | _=>none)=some (out,st')→Inv P A.idle A.aD B M w0 μ hp0 n a w st→(∀a' w',Inv P A.idle A.aD B M w0 μ hp0 n a' w' st'→Q (vw out) a' w')→(Code.cond (.tmp t) x y).wp P Q a w:=by
    intro st st' out Q a w h hI hQ
    cases hs:st.sl t<;>rw[hs] at h<;>simp only at h<;>first|(cases h;done)|skip
    rename_i b
    obtain ⟨⟨o1,iz⟩,h1,U⟩:=bind_some h
    obtain ⟨I,β,S,hA,hE⟩:=hI
    have eB:a.eval (.tmp t)= .bool b:=by
     have:=MO hA hs
     simp[Act.eval,this]
    have fin: ∀a' w',Inv P A.idle A.aD B M w0 μ hp0 n a' w' iz→Q (vw o1) a' w':=by
     intro a' w' jn
     cases o1 with
     | norm=>
      simp only[dD,jx] at U
      obtain ⟨rfl,rfl⟩:=U
      exact hQ a' w' (jn.canon hm iS)
     | exit id=>
      simp only[dD,jx] at U
      obtain ⟨rfl,rfl⟩:=U
      exact hQ a' w' jn
     | ret=>
      simp only[dD,jx] at U
      obtain ⟨rfl,rfl⟩:=U
      exact hQ a' w' jn
    refine wp_cond eB ?_
    cases b with
    | true=>exact ia h1 ⟨I,β,S,hA,hE⟩ fin
    | false=>exact ib h1 ⟨I,β,S,hA,hE⟩ fin
   simp only[exec] at h
   split at h
   ·exact go h hI hQ
   ·obtain ⟨ds,h1,U⟩:=bind_some h
    obtain ⟨e,h3,h4⟩:=bind_some U
    obtain ⟨⟨o1,s1⟩,h5,h6⟩:=bind_some h3
    obtain ⟨rfl,S',k1,rfl⟩:=Hi h6 h4
    exact go h5 (hI.reshape h1 hm) fun a' w' jn=>hQ a' w' (jn.reshape k1 hm)
  | const v=>
   cases v with
   | bool b=>
    simp only[exec] at h
    refine wp_cond (t:=b) rfl ?_
    cases b with
    | true=>exact ia h hI hQ
    | false=>exact ib h hI hQ
   | _=>simp only[exec] at h;cases h
  | _=>simp only[exec] at h;cases h
 | block id c ih=>
  intro st st' out Q a w h hI hQ
  simp only[exec] at h
  obtain ⟨⟨o1,iz⟩,h1,U⟩:=bind_some h
  refine wp_block (ih h1 hI fun a' w' jn=> ?_)
  cases o1 with
  | norm=>
   simp only[dD,jx] at U
   obtain ⟨rfl,rfl⟩:=U
   exact hQ a' w' (jn.canon hm iS)
  | exit aC=>
   simp only at U
   cases hb:Nat.beq aC id with
   | true=>
    rw[hb] at U
    simp only[cond_true,dD,jx] at U
    obtain ⟨rfl,rfl⟩:=U
    rw[aP] at hb
    simp only[vw,Exit.inBlock,hb,db]
    exact hQ a' w' (jn.canon hm iS)
   | false=>
    rw[hb] at U
    simp only[cond_false,dD,jx] at U
    obtain ⟨rfl,rfl⟩:=U
    have bw:aC≠id:=fun e=>by rw[e,ja] at hb;cases hb
    simp only[vw,Exit.inBlock,bw,fN]
    exact hQ a' w' jn
  | ret=>
   simp only[dD,jx] at U
   obtain ⟨rfl,rfl⟩:=U
   exact hQ a' w' jn
 | loop c ih=>
  intro st st' out Q a w h hI hQ
  simp only[exec] at h
  split at h
  ·cases h
  ·rename_i S hS
   obtain ⟨ds,h1,U⟩:=bind_some h
   obtain ⟨e,h3,h4⟩:=bind_some U
   obtain ⟨k,hk⟩:=uz h3
   refine W5 (J:=fun k a w=> ∃ds,Inv P A.idle A.aD B M w0 μ hp0 n a w (bd S.1 ds)∧eX (fun ds=>mA m S.1 S.2 (exec P A C f n m c (bd S.1 ds))) k ds=some e) (fun a w ⟨s,_,h⟩=>by cases h) (fun k a w ⟨ds,hs,hk⟩=> ?_) ⟨ds,hI.reshape h1 hm,hk⟩
   simp only[eX] at hk
   obtain ⟨y,h5,h6⟩:=bind_some hk
   unfold mA at h5
   obtain ⟨⟨o1,s1⟩,h7,h8⟩:=bind_some h5
   refine ih h7 hs fun a' w' jn=> ?_
   have Nz: ∀{e':Nat × List V},ways m 0 S.2 (o1,s1)=some e'→e'=e→Q (vw o1) a' w':=by
    intro e' q1 q2
    subst q2
    obtain ⟨rfl,S',k1,rfl⟩:=Hi q1 h4
    exact hQ a' w' (jn.reshape k1 hm)
   cases o1 with
   | norm=>
    obtain ⟨W9,q1,q2⟩:=bind_some h8
    cases q2
    exact ⟨W9,jn.reshape q1 hm,h6⟩
   | exit id=>
    obtain ⟨e',q1,q2⟩:=bind_some h8
    cases q2
    cases h6
    exact Nz q1 rfl
   | ret=>
    obtain ⟨e',q1,q2⟩:=bind_some h8
    cases q2
    cases h6
    exact Nz q1 rfl
 | _=>intro st st' out Q a w h;simp only[exec] at h;cases h
end
section
variable {P:Program} {A:ct} {w w':World} {I I' I2:Nat→Prop} {μ β β' bP:Nat→Option Nat} {hp hp' hp0:Nat→Option an} {C:ag} {B:Nat} {M:Nat→Prop} {w0:Start}
theorem CV (S:aE P w I β hp B M w0) {a:Act} {st:St} (hs:ka P w I β hp a st.sl): ∀{l:List ResultVar} {xs:List V} {rd:List Nat},(sw P st l).run C hp=some (xs,rd)→
  ∃vs:List Value,(l.mapM fun| .tmp t=>Pure.pure (a.tmps.getD t undef)| .cell x t=>do loadVar t (←asAddr (a.tmps.getD x undef)):Sem (List Value)).run P w= .ok vs w∧vs.length=xs.length∧l.length=xs.length∧
   ∀(j:Nat) v x,vs[j]? =some v→xs[j]? =some x→ao P w I β hp v x
 | [],xs,rd,h=>by
  cases h
  exact ⟨[],by simp,rfl,rfl,by simp⟩
 | .tmp t::l,xs,rd,h=>by
  simp only[sw] at h
  obtain ⟨ys,l1,l2,h1,U⟩:=kb h
  have h3:=FO U
  subst h3
  obtain ⟨vs,a1,a2,a3,a4⟩:=CV S hs h1
  refine ⟨a.tmps.getD t undef::vs,by simp only[List.mapM_cons,Sem.run_bind,Sem.run_pure,Result.andThen_ok,a1],by simp[a2],by simp[a3],fun j v x hj hx=> ?_⟩
  cases j with
  | zero=>simp at hj hx;subst hj;subst hx;have:=hs t;simpa using this
  | succ j=>exact a4 j v x (by simpa using hj) (by simpa using hx)
 | .cell y t::l,xs,rd,h=>by
  simp only[sw] at h
  obtain ⟨r,l1,l2,h1,U⟩:=kb h
  obtain ⟨ys,l3,l4,h3,h4⟩:=kb U
  have h5:=FO h4
  subst h5
  obtain ⟨v0,b1,b2,b3,ad,b4⟩:=K5 S (hs y) h1
  obtain ⟨vs,a1,a2,a3,a4⟩:=CV S hs h3
  refine ⟨v0::vs,?_,by simp[a2],by simp[a3],fun j v x hj hx=> ?_⟩
  ·have e1:(do loadVar t (←asAddr (a.tmps.getD y undef)):Sem Value).run P w= .ok v0 w:=by
    rw[b4] at b1⊢
    simpa[Instr.loadAt,Instr.sureAddr,asAddr] using b1
   simp only[List.mapM_cons,Sem.run_bind,e1,Result.andThen_ok,a1,Sem.run_pure]
  cases j with
  | zero=>simp at hj hx;subst hj;subst hx;exact b2
  | succ j=>exact a4 j v x (by simpa using hj) (by simpa using hx)
def tf:List Value→Value
 | [v]=>v
 | l=> .tuple l.toArray
theorem Xa {vs:List Value} (h:vs.length≠1):tf vs= .tuple vs.toArray:=by
 match vs,h with
 | [],_=>rfl
 | [v],h=>simp at h
 | v::v2::l,_=>rfl
theorem Xb {fn:Func} {a:Act} {st:St} (S:aE P w I β st.hp B M w0) (hs:ka P w I β st.hp a st.sl) {xs:List V} {rd:List Nat} (h:(sw P st fn.results.toList).run C st.hp=some (xs,rd)):
  ∃vs:List Value,(results fn a.tmps).run P w= .ok (tf vs) w∧vs.length=xs.length∧
   ∀(j:Nat) v x,vs[j]? =some v→xs[j]? =some x→ao P w I β st.hp v x:=by
 obtain ⟨vs,a1,a2,_,a4⟩:=CV S hs h
 refine ⟨vs,?_,a2,a4⟩
 unfold results
 rw[Array.mapM_eq_mapM_toList]
 simp only[map_eq_pure_bind,bind_assoc,pure_bind,Sem.run_bind]
 refine (congrArg (fun r:Result (List Value)=>r.andThen _) a1).trans ?_
 simp only[Result.andThen_ok,Sem.run_pure]
 match vs with
 | []=>simp[tf]
 | [v]=>simp[tf]
 | v::v2::l=>simp[tf]
theorem NA: ∀{args:List V} {i k:Nat},dk (mB i args) k=if i≤k then args[k-i]? else none
 | [],i,k=>by simp[mB,dk]
 | v::vs,i,k=>by
  simp only[mB,dk]
  cases hb:Nat.beq k i with
  | true=>
   rw[aP] at hb
   subst hb
   simp
  | false=>
   have bw:k≠i:=fun e=>by rw[e,ja] at hb;cases hb
   simp only[cond_false,NA]
   by_cases h:i≤k
   ·rw[aj (by omega),aj h]
    obtain ⟨d,rfl⟩: ∃d,k=i+1+d:=⟨k-(i+1),by omega⟩
    rw[show i+1+d-(i+1)=d by omega,show i+1+d-i=d+1 by omega]
    rfl
   ·rw[ai (by omega),ai h]
theorem Hj: ∀{l:List (Nat × VS)} {ds:List V} {i k:Nat},jE i l=true→dk (eN l ds) k=if i≤k then (eY (l.map (·.2)) ds)[k-i]? else none
 | [],ds,i,k,_=>by simp[eN,eY,dk]
 | (q,s)::l,ds,i,k,h=>by
  simp only[jE,aI,aP] at h
  obtain ⟨rfl,h⟩:=h
  simp only[eN,dk,cG,eY]
  cases hb:Nat.beq k q with
  | true=>
   rw[aP] at hb
   subst hb
   simp
  | false=>
   have bw:k≠q:=fun e=>by rw[e,ja] at hb;cases hb
   simp only[cond_false]
   rw[Hj h]
   by_cases h:q≤k
   ·rw[aj (by omega),aj h]
    obtain ⟨d,rfl⟩: ∃d,k=q+1+d:=⟨k-(q+1),by omega⟩
    rw[show q+1+d-(q+1)=d by omega,show q+1+d-q=d+1 by omega]
    rfl
   ·rw[ai (by omega),ai h]
theorem NB: ∀{l:List (Nat × VS)} {ds:List V},(eN l ds).map (·.2)=eY (l.map (·.2)) ds
 | [],_=>rfl
 | (q,s)::l,ds=>by simp only[eN,cG,eY,NB]
theorem Hk: ∀{l:List VS} {ds:List V},(eY l ds).length=l.length
 | [],_=>rfl
 | s::l,ds=>by simp only[eY,List.length_cons,Hk]
theorem NC: ∀{l:List (Nat × VS)} {ds:List V},(eN l ds).length=l.length
 | [],_=>rfl
 | (q,s)::l,ds=>by simp only[eN,List.length_cons,NC]
theorem Xc {vals:List Value} {l:List (Nat × V)} (hl:vals.length=l.length) (h: ∀(j:Nat) v y,vals[j]? =some v→(l.map (·.2))[j]? =some y→ao P w I β hp v y):ao P w I β hp (tf vals) (oD l):=by
 match l,hl,h with
 | [],hl,h=>
  obtain rfl:vals=[]:=kI hl
  exact .aX rfl fun j v x _ hx=>by simp at hx
 | [(k,y)],hl,h=>
  match vals,hl,h with
  | [v],_,h=>exact h 0 v y rfl rfl
 | a::b::l,hl,h=>
  have bw:vals.length≠1:=by rw[hl];simp
  rw[Xa bw]
  simp only[oD]
  exact .aX (by simp[hl]) fun j v y hj hy=>h j v y (by simpa using hj) hy
theorem Xd {l:List BS} {ds:List V} {j:Nat} {e:TypeId} {es:List V} {aq:List Nat} (h:(ej l ds)[j]? =some (.nest e es aq)) (k:Nat):bu aq k=0:=by
 obtain ⟨b,eR,_,U⟩:=GZ h
 cases b<;>simp only[fi] at U<;>cases U
 match k with
 | 0=>rfl
 | 1=>rfl
 | 2=>rfl
 | _+3=>rfl
theorem Xe {f n m:Nat} {fn:Func} {a:Act} {st:St} {es:List V} {rd:List Nat} (hm: ∀id blk,hp0 id=some blk→id<m) (iS: ∀id e es aq,hp0 id=some (.nest e es aq)→∀k,bu aq k=0)
  (hI:Inv P A.idle A.aD B M w0 μ hp0 n a w st) (nQ:jE 0 (A.gn f).bI=true) (aR:(A.gn f).bI.length=fn.results.size) (h:(uO P A f fn m st).run C st.hp=some (es,rd)):
  ∃v I2 bP,(results fn a.tmps).run P w= .ok v w∧aE P w I2 bP (bd (A.so f es) (A.lv f es)).hp B M w0∧kj w0.w w0.I μ hp0 w I2 bP (bd (A.so f es) (A.lv f es)).hp∧ao P w I2 bP (bd (A.so f es) (A.lv f es)).hp v (oD (eN (A.so f es).bI (A.lv f es))):=by
 unfold uO at h
 obtain ⟨xs,l1,l2,h1,U⟩:=kb h
 obtain ⟨I,β,S,hA,hE⟩:=hI
 obtain ⟨vals,e1,e2,e3⟩:=Xb S hA.sl h1
 have e4:fn.results.size=xs.length:=by
  obtain ⟨_,_,_,q,_⟩:=CV S hA.sl h1
  simpa using q
 have fin: ∀(Sx:Shape) (es:List V),jE 0 Sx.bI=true→Sx.bI.length=fn.results.size→jd m Sx (canon m (List.range xs.length) (freeze m (A.sj f) ⟨iL (mB 0 xs),st.hp,st.nb⟩))=some es→
   ∃v I2 bP,(results fn a.tmps).run P w= .ok v w∧aE P w I2 bP (bd Sx es).hp B M w0∧kj w0.w w0.I μ hp0 w I2 bP (bd Sx es).hp∧ao P w I2 bP (bd Sx es).hp v (oD (eN Sx.bI es)):=by
  intro Sx es nQ aR th
  have Xf:iy P A.idle A.aD w I β vals.length ⟨vals.toArray,[]⟩ ⟨iL (mB 0 xs),st.hp,st.nb⟩:=by
   refine ⟨fun k=> ?_,by simp,by simp,hA.aD⟩
   change ao P w I β st.hp _ (iL (mB 0 xs) k)
   unfold iL
   rw[NA]
   simp only[jY,db,Nat.sub_zero]
   cases hk:xs[k]? with
   | none=>exact .undef
   | some x=>
    have gW:k<vals.length:=by rw[e2];exact (bj.1 hk).1
    have:=e3 k vals[k] x (bE gW) hk
    have e5:(vals.toArray).getD k undef=vals[k]:=by simp[gW]
    rw[Option.getD_some]
    exact e5▸this
  obtain ⟨I2,k1,k2,k3⟩:=Nh (st:=⟨iL (mB 0 xs),st.hp,st.nb⟩) (m:=m) (pur:=A.sj f) S Xf
  have Xg:Inv P A.idle A.aD B M w0 μ hp0 vals.length ⟨vals.toArray,[]⟩ w (freeze m (A.sj f) ⟨iL (mB 0 xs),st.hp,st.nb⟩):=⟨I2,β,k2,k3,hE.trans k1.CA⟩
  obtain ⟨I3,ND,q1,q2,q3⟩:=(Xg.canon (live:=List.range xs.length) hm iS).reshape th hm
  refine ⟨tf vals,I3,ND,e1,q1,q3,Xc (by rw[NC,aR,e4,e2]) fun j v y hj hy=> ?_⟩
  have hv:=q2.sl j
  have bV:=(bj.1 hj).1
  have e5:(vals.toArray).getD j undef=v:=by
   have:=(bj.1 hj).2
   simp[bV,this]
  change ao P w I3 ND _ ((vals.toArray).getD j undef) (iL (eN Sx.bI _) j) at hv
  rw[e5] at hv
  unfold iL at hv
  rw[Hj nQ] at hv
  simp only[jY,db,Nat.sub_zero] at hv
  rw[NB] at hy
  rw[hy] at hv
  exact hv
 unfold ct.so ct.lv
 cases bW:A.alt f with
 | none=>
  rw[bW] at U
  simp only at U⊢
  split at U
  ·rename_i eR th
   have:=aM U
   subst this
   exact fin _ _ nQ aR th
  ·cases U
 | some S2=>
  rw[bW] at U
  simp only at U⊢
  split at U
  ·rename_i eR th
   have:=aM U
   subst this
   exact fin _ _ nQ aR th
  ·split at U
   ·rename_i eR th
    obtain ⟨hc,h3⟩:=aF U
    simp only[aI,aP] at hc
    have:=aM h3
    subst this
    exact fin _ _ hc.1 hc.2 th
   ·cases U
theorem Xh (hC:km P A C) (hP:iR P A) (oT:P.follows .mixedOrders=true):km P A (pH P A C):=by
 intro f ds es h
 unfold pH at h
 cases hf:P.funcs[A.aY f]? with
 | none=>rw[hf] at h;cases h
 | some fn=>
  rw[hf] at h
  simp only at h
  cases hb:fn.body with
  | none=>rw[hb] at h;cases h
  | some c=>
   rw[hb] at h
   simp only at h
   cases hc:(jE 0 (A.sin f).bI&&(Nat.ble (A.sin f).bI.length fn.ntmps&&((A.sin f).ok&&(jE 0 (A.gn f).bI&&(Nat.beq (A.gn f).bI.length fn.results.size&&pF (ny (A.sin f).a8.length (A.mv f))))))) with
   | false=>rw[hc] at h;cases h
   | true=>
    rw[hc] at h
    simp only[cond_true] at h
    simp only[aI,aP,dC] at hc
    obtain ⟨jL,hnt,_,vp,aR,jM⟩:=hc
    obtain ⟨⟨out,st'⟩,h1,U⟩:=bind_some h
    refine ⟨fn,c,rfl,hb,fun w I μ vals hH Xi hl hv=> ?_⟩
    have Xj:(∀id,out≠ .exit id)∧∃rd,(uO P A f fn (A.sin f).a8.length st').run C st'.hp=some (es,rd):=by
     cases out with
     | exit id=>cases U
     | norm=>
      refine ⟨by simp,?_⟩
      simp only[xu] at U
      obtain ⟨⟨x,rd⟩,e1,e2⟩:=U
      simp only at e2
      subst e2
      exact ⟨rd,e1⟩
     | ret=>
      refine ⟨by simp,?_⟩
      simp only[xu] at U
      obtain ⟨⟨x,rd⟩,e1,e2⟩:=U
      simp only at e2
      subst e2
      exact ⟨rd,e1⟩
    obtain ⟨bw,rd,GP⟩:=Xj
    refine calls_of_wp_defers hf hb ?_
    have hm: ∀id blk,(bd (A.sin f) ds).hp id=some blk→id<(A.sin f).a8.length:=by
     intro id blk ab
     simp only[bd,mk,gB] at ab
     have:=(bj.1 ab).1
     rwa [CU] at this
    have iS: ∀id e es aq,(bd (A.sin f) ds).hp id=some (.nest e es aq)→∀k,bu aq k=0:=by
     intro id e es aq ab k
     simp only[bd,mk,gB] at ab
     exact Xd ab k
    refine W7 (w0:=⟨w,I⟩) (μ:=μ) (hp0:=(bd (A.sin f) ds).hp) (B:=w.heap.size) (M:=nO P w μ (bd (A.sin f) ds).hp) hC hP oT hm iS c h1 ?_ ?_
    ·refine Inv.enter jM ?_ hm iS fun p hp=>by
      simp only[bd,mk,gB]
      rw[List.getElem?_eq_none_iff,CU]
      exact hp
     refine ⟨I,μ,⟨hH,fun _ _ _=>rfl,b6 _,fun b h=> .inl h,⟨rfl,rfl⟩⟩,⟨fun k=> ?_,?_,by simp,Xi⟩,(Le.refl (P:=P) w I μ _).CA⟩
     ·change ao P w I μ _ _ (iL (eN (A.sin f).bI ds) k)
      unfold iL
      rw[Hj jL]
      simp only[jY,db,Nat.sub_zero]
      cases hk:(eY ((A.sin f).bI.map (·.2)) ds)[k]? with
      | none=>exact .undef
      | some x=>
       have gW:k<vals.length:=by
        have:=(bj.1 hk).1
        rw[Hk,bm] at this
        rw[hl];exact this
       have:=hv k vals[k] x (bE gW) hk
       have e1:(vals.toArray++Array.replicate (fn.ntmps-vals.toArray.size) undef).getD k undef=vals[k]:=by
        simp[Array.getElem?_append,gW]
       rw[Option.getD_some]
       exact e1▸this
     ·simp
      omega
    ·intro a' w' hI
     obtain ⟨v,I2,bP,q1,q2,q3,q4⟩:=Xe hm iS hI vp aR GP
     obtain ⟨_,_,_,hA,_⟩:=hI
     cases out with
     | exit id=>exact absurd rfl (bw id)
     | norm=>exact G5 hP q1 ⟨v,I2,bP,rfl,q2,q3,q4⟩ _ hA.defers
     | ret=>exact G5 hP q1 ⟨v,I2,bP,rfl,q2,q3,q4⟩ _ hA.defers
theorem NF (hP:iR P A) (oT:P.follows .mixedOrders=true): ∀n,km P A (kQ P A n)
 | 0=>fun _ _ _ h=>by cases h
 | n+1=>Xh (NF hP oT n) hP oT
theorem Xk (hP:iR P A) (oT:P.follows .mixedOrders=true):km P A (Call P A):=by
 intro f ds es h
 have hn: ∃n,kQ P A n f ds=some es:=by
  unfold Call at h
  split at h
  ·rename_i hex
   have:=hex.choose_spec.choose_spec
   rw[cP h] at this
   exact ⟨_,this⟩
  ·cases h
 obtain ⟨n,hn⟩:=hn
 exact NF hP oT n f ds es hn
end
section
variable {P:Program} {A:ct} {C:ag} {D:Nat→ag}
def yV (C:ag) (D:Nat→ag):Prop:= ∀f a r,C f a=some r→∃n,∀k,n≤k→D k f a=some r
theorem oU {α:Type} (h:yV C D) {hp:Nat→Option an}: ∀{p:Rd α} {r:α × List Nat},p.run C hp=some r→∃n,∀k,n≤k→p.run (D k) hp=some r
 | .ret a,r,e=>⟨0,fun _ _=>e⟩
 | .fail,r,e=>by cases e
 | .get id q,r,e=>by
  obtain ⟨x,h1,U⟩:=bind_some e
  obtain ⟨n,hn⟩:=oU h h1
  exact ⟨n,fun k hk=>by simp only[Rd.run,hn k hk,Option.bind_some];exact U⟩
 | .opt o q,r,e=>by
  obtain ⟨x,h1,U⟩:=bind_some e
  obtain ⟨n,hn⟩:=oU h U
  exact ⟨n,fun k hk=>by simp only[Rd.run,h1,Option.bind_some];exact hn k hk⟩
 | .live id ok q,r,e=>by
  simp only[Rd.run] at e
  cases hk:ok (fD (hp id)) with
  | false=>rw[hk] at e;cases e
  | true=>
   rw[hk] at e
   obtain ⟨x,h1,U⟩:=bind_some e
   obtain ⟨n,hn⟩:=oU h h1
   exact ⟨n,fun k lP=>by simp only[Rd.run,hk,cond_true,hn k lP,Option.bind_some];exact U⟩
 | .aB b q,r,e=>by
  obtain ⟨h1,U⟩:=aF e
  obtain ⟨n,hn⟩:=oU h U
  exact ⟨n,fun k hk=>by simp only[Rd.run,h1,cond_true];exact hn k hk⟩
 | .call f a q,r,e=>by
  obtain ⟨x,h1,U⟩:=bind_some e
  obtain ⟨n1,jL⟩:=h f a x h1
  obtain ⟨n2,vp⟩:=oU h U
  exact ⟨max n1 n2,fun k hk=>by simp only[Rd.run,jL k (by omega),Option.bind_some];exact vp k (by omega)⟩
 | .alt true x y,r,e=>oU (p:=x) h e
 | .alt false x y,r,e=>oU (p:=y) h e
theorem Xl (h:yV C D) {n i nb:Nat} {ops:Array Oper} {o:Oper} {st:St} {r:St × List Nat × List Nat} (e:gp P A C n ops i o nb st=some r): ∃N,∀k,N≤k→gp P A (D k) n ops i o nb st=some r:=by
 unfold gp at e
 have go:(((eZ P A st.sl i (nb+64*i) o).run C st.hp).bind fun r=>some ((⟨gN st.sl o.dst r.1.v,bA st.hp r.1.upd,st.nb⟩:St),pG r.2 r.1.upd,fj st.hp r.1.upd))=some r→
   ∃N,∀k,N≤k→(((eZ P A st.sl i (nb+64*i) o).run (D k) st.hp).bind fun r=>some ((⟨gN st.sl o.dst r.1.v,bA st.hp r.1.upd,st.nb⟩:St),pG r.2 r.1.upd,fj st.hp r.1.upd))=some r:=by
  intro e
  obtain ⟨x,h1,U⟩:=bind_some e
  obtain ⟨N,hN⟩:=oU h h1
  exact ⟨N,fun k hk=>by rw[hN k hk];exact U⟩
 unfold gp
 cases hd:qW o n with
 | false=>rw[hd] at e;cases e
 | true=>
  rw[hd] at e
  simp only[cond_true] at e⊢
  cases hg:o.guard with
  | none=>rw[hg] at e;exact go e
  | some gw=>
   obtain ⟨g,want⟩:=gw
   rw[hg] at e
   simp only at e⊢
   cases la:(ops[g]?).bind (·.dst) with
   | none=>rw[la] at e;cases e
   | some d=>
    rw[la] at e
    simp only at e⊢
    cases lO:kL (st.sl d) with
    | none=>rw[lO] at e;cases e
    | some ob=>
    rw[lO] at e
    cases ob with
    | none=>exact ⟨0,fun _ _=>e⟩
    | some b=>
    simp only at e⊢
    cases hb:b==want with
    | true=>rw[hb] at e;exact go e
    | false=>rw[hb] at e;exact ⟨0,fun _ _=>e⟩
theorem NG (h:yV C D) {n nb:Nat} {ops:Array Oper}: ∀{l:List (Nat × Oper)} {st:St} {log:Log} {r:St × Log},oE P A C n ops nb l st log=some r→∃N,∀k,N≤k→oE P A (D k) n ops nb l st log=some r
 | [],st,log,r,e=>⟨0,fun _ _=>e⟩
 | (i,o)::l,st,log,r,e=>by
  obtain ⟨x,h1,U⟩:=bind_some e
  obtain ⟨N1,nR⟩:=Xl h h1
  obtain ⟨N2,qf⟩:=NG h U
  exact ⟨max N1 N2,fun k hk=>by simp only[oE,nR k (by omega),Option.bind_some];exact qf k (by omega)⟩
theorem NH {X R:Type} {step:X→Option (X ⊕ R)} {stepD:Nat→X→Option (X ⊕ R)} (hs: ∀x y,step x=some y→∃N,∀k,N≤k→stepD k x=some y): ∀(n:Nat) (x:X) (r:R),eX step n x=some r→∃N,∀k,N≤k→eX (stepD k) n x=some r
 | 0,x,r,e=>by cases e
 | n+1,x,r,e=>by
  simp only[eX] at e⊢
  obtain ⟨y,h1,U⟩:=bind_some e
  obtain ⟨N1,nR⟩:=hs x y h1
  cases y with
  | inl z=>
   obtain ⟨N2,qf⟩:=NH hs n z r U
   exact ⟨max N1 N2,fun k hk=>by rw[nR k (by omega)];exact qf k (by omega)⟩
  | inr q=>exact ⟨N1,fun k hk=>by rw[nR k hk];exact U⟩
theorem Xm (h:yV C D) {f n m:Nat}: ∀(c:Code) {st:St} {r:Out × St},exec P A C f n m c st=some r→∃N,∀k,N≤k→exec P A (D k) f n m c st=some r:=by
 intro c
 induction c with
 | skip=>exact fun e=>⟨0,fun _ _=>e⟩
 | exit id=>exact fun e=>⟨0,fun _ _=>e⟩
 | ret=>exact fun e=>⟨0,fun _ _=>e⟩
 | region id ops draw=>
  intro st r e
  simp only[exec] at e⊢
  obtain ⟨x,h1,U⟩:=bind_some e
  obtain ⟨y,h3,h4⟩:=bind_some h1
  obtain ⟨N,hN⟩:=NG h h3
  refine ⟨N,fun k hk=> ?_⟩
  have:xS P (A.here f id) (D k) n ops draw st=some x:=by
   unfold xS
   rw[hN k hk]
   exact h4
  rw[this]
  exact U
 | seq x y ia ib=>
  intro st r e
  simp only[exec] at e⊢
  obtain ⟨⟨o,s1⟩,h1,U⟩:=bind_some e
  obtain ⟨N1,nR⟩:=ia h1
  cases o with
  | norm=>
   obtain ⟨N2,qf⟩:=ib U
   exact ⟨max N1 N2,fun k hk=>by rw[nR k (by omega)];exact qf k (by omega)⟩
  | exit id=>exact ⟨N1,fun k hk=>by rw[nR k hk];exact U⟩
  | ret=>exact ⟨N1,fun k hk=>by rw[nR k hk];exact U⟩
 | cond c x y ia ib=>
  intro st r e
  cases c with
  | tmp t=>
   have go: ∀{st:St} {r:Out × St},(match st.sl t with
     | .bool b=>(bif b then exec P A C f n m x st else exec P A C f n m y st).bind fun r=>
      match r.1 with
      | .norm=>some (.norm,canon m (A.join f t) r.2)
      | _=>some r
     | _=>none)=some r→∃N,∀k,N≤k→(match st.sl t with
     | .bool b=>(bif b then exec P A (D k) f n m x st else exec P A (D k) f n m y st).bind fun r=>
      match r.1 with
      | .norm=>some (.norm,canon m (A.join f t) r.2)
      | _=>some r
     | _=>none)=some r:=by
    intro st r e
    cases hs:st.sl t<;>rw[hs] at e<;>simp only at e⊢ <;>first|(cases e;done)|skip
    rename_i b
    obtain ⟨x1,h1,U⟩:=bind_some e
    cases b with
    | true=>
     obtain ⟨N,hN⟩:=ia h1
     exact ⟨N,fun k hk=>by simp only[cond_true,hN k hk,Option.bind_some];exact U⟩
    | false=>
     obtain ⟨N,hN⟩:=ib h1
     exact ⟨N,fun k hk=>by simp only[cond_false,hN k hk,Option.bind_some];exact U⟩
   simp only[exec] at e⊢
   split at e
   ·rename_i hS
    obtain ⟨N,hN⟩:=go e
    exact ⟨N,fun k hk=>hN k hk⟩
   ·rename_i S hS
    obtain ⟨ds,h1,U⟩:=bind_some e
    obtain ⟨e',h3,h4⟩:=bind_some U
    obtain ⟨r1,h5,h6⟩:=bind_some h3
    obtain ⟨N,hN⟩:=go h5
    refine ⟨N,fun k hk=> ?_⟩
    try rw[hS]
    simp only[h1,Option.bind_some]
    exact (congrArg (fun z:Option (Out × St)=>(z.bind fun r=>ways m 0 S.2 r).bind fun e=>lC 0 S.2 e.1 e.2 fun o st=>some (o,st)) (hN k hk)).trans (by simp only[Option.bind_some,h6];exact h4)
  | const v=>
   cases v with
   | bool b=>
    simp only[exec] at e⊢
    cases b with
    | true=>exact ia e
    | false=>exact ib e
   | _=>simp only[exec] at e;cases e
  | _=>simp only[exec] at e;cases e
 | block id c ih=>
  intro st r e
  simp only[exec] at e⊢
  obtain ⟨x1,h1,U⟩:=bind_some e
  obtain ⟨N,hN⟩:=ih h1
  exact ⟨N,fun k hk=>by rw[hN k hk];exact U⟩
 | loop c ih=>
  intro st r e
  simp only[exec] at e⊢
  split at e
  ·cases e
  ·rename_i S hS
   obtain ⟨ds,h1,U⟩:=bind_some e
   obtain ⟨e',h3,h4⟩:=bind_some U
   obtain ⟨q,hq⟩:=uz h3
   obtain ⟨N,hN⟩:=NH (stepD:=fun k ds=>mA m S.1 S.2 (exec P A (D k) f n m c (bd S.1 ds))) (fun x y CW=>by
    unfold mA at CW⊢
    obtain ⟨z,h5,h6⟩:=bind_some CW
    obtain ⟨N,hN⟩:=ih h5
    exact ⟨N,fun k hk=>by rw[hN k hk];exact h6⟩) q ds e' hq
   refine ⟨N,fun k hk=> ?_⟩
   try rw[hS]
   simp only[h1,Option.bind_some]
   rw[xz (hN k hk)]
   exact h4
 | _=>intro st r e;simp only[exec] at e;cases e
theorem Hl (h:yV C D) {f:Nat} {ds es:List V} (e:pH P A C f ds=some es): ∃N,∀k,N≤k→pH P A (D k) f ds=some es:=by
 unfold pH at e⊢
 cases hf:P.funcs[A.aY f]? with
 | none=>rw[hf] at e;cases e
 | some fn=>
  rw[hf] at e
  simp only at e⊢
  cases hb:fn.body with
  | none=>rw[hb] at e;cases e
  | some c=>
   rw[hb] at e
   simp only at e⊢
   cases hc:(jE 0 (A.sin f).bI&&(Nat.ble (A.sin f).bI.length fn.ntmps&&((A.sin f).ok&&(jE 0 (A.gn f).bI&&(Nat.beq (A.gn f).bI.length fn.results.size&&pF (ny (A.sin f).a8.length (A.mv f))))))) with
   | false=>rw[hc] at e;cases e
   | true=>
    rw[hc] at e
    simp only[cond_true] at e⊢
    obtain ⟨⟨o,s1⟩,h1,U⟩:=bind_some e
    obtain ⟨N1,nR⟩:=Xm h c h1
    cases o with
    | exit id=>cases U
    | norm=>
     simp only[xu] at U
     obtain ⟨x,e1,e2⟩:=U
     obtain ⟨N2,qf⟩:=oU h e1
     exact ⟨max N1 N2,fun k hk=>by rw[nR k (by omega)];simp only[Option.bind_some,qf k (by omega),Option.map_some,e2]⟩
    | ret=>
     simp only[xu] at U
     obtain ⟨x,e1,e2⟩:=U
     obtain ⟨N2,qf⟩:=oU h e1
     exact ⟨max N1 N2,fun k hk=>by rw[nR k (by omega)];simp only[Option.bind_some,qf k (by omega),Option.map_some,e2]⟩
theorem NI: ∀n f a r,kQ P A n f a=some r→kQ P A (n+1) f a=some r
 | 0,f,a,r,h=>by cases h
 | n+1,f,a,r,h=>by
  obtain ⟨N,hN⟩:=Hl (C:=kQ P A n) (D:=fun _=>kQ P A (n+1)) (fun f a r h=>⟨0,fun _ _=>NI n f a r h⟩) h
  exact hN N (b6 _)
theorem Hm {n k:Nat} (hk:n≤k) {f:Nat} {a r:List V} (h:kQ P A n f a=some r):kQ P A k f a=some r:=by
 induction hk with
 | refl=>exact h
 | step _ ih=>exact NI _ _ _ _ ih
theorem CX {f:Nat} {a r:List V}:Call P A f a=some r↔∃n,kQ P A n f a=some r:=by
 constructor
 ·intro h
  unfold Call at h
  split at h
  ·rename_i hex
   have:=hex.choose_spec.choose_spec
   rw[cP h] at this
   exact ⟨_,this⟩
  ·cases h
 ·rintro ⟨n,hn⟩
  have hex: ∃n r,kQ P A n f a=some r:=⟨n,r,hn⟩
  unfold Call
  rw[qF hex]
  have U:=hex.choose_spec.choose_spec
  have h3:=Hm (Nat.le_max_left n hex.choose) hn
  have h4:=Hm (Nat.le_max_right n hex.choose) U
  rw[h3] at h4
  exact h4.symm
theorem Xn (f:Nat) (a:List V):Call P A f a=pH P A (Call P A) f a:=by
 apply Option.ext
 intro r
 constructor
 ·intro h
  obtain ⟨n,hn⟩:=CX.1 h
  cases n with
  | zero=>cases hn
  | succ n=>
   obtain ⟨N,hN⟩:=Hl (C:=kQ P A n) (D:=fun _=>Call P A) (fun f a r h=>⟨0,fun _ _=>CX.2 ⟨n,h⟩⟩) hn
   exact hN N (b6 _)
 ·intro h
  obtain ⟨N,hN⟩:=Hl (C:=Call P A) (D:=kQ P A) (fun f a r h=>by
   obtain ⟨n,hn⟩:=CX.1 h
   exact ⟨n,fun k hk=>Hm hk hn⟩) h
  exact CX.2 ⟨N+1,hN N (b6 _)⟩
end
end Go.AM
namespace Go.AM
open Go.ChangeShapes Go.WideShapes Go.RowKit
section
variable (P:Program)
inductive WT:TypeId→V→Prop
 | int {t:TypeId} {k:IntKind} {n:Int}:P.underlying t=some (.int k)→(Lit.int k n).wf=true→WT t (.int k n)
 | bool {t:TypeId} {b:Bool}:P.underlying t=some .bool→WT t (.bool b)
 | str {t:TypeId} {l:List UInt8}:P.underlying t=some .string→l.length≤maxLen→WT t (.str l)
 | list {t e:TypeId} {es:List V}:P.underlying t=some (.slice e)→es.length≤maxLen→
   (∀(i:Nat) x,es[i]? =some x→bz P e=true→∃xs,x= .agg xs∧xs.length=(aQ P e).length)→
   (∀(i j:Nat) x t',es[i]? =some x→(aQ P e)[j]? =some t'→WT t' (bB P e x j))→WT t (.list e es)
def gH (t:TypeId) (x:V):Prop:=
 (bz P t=true→∃xs,x= .agg xs∧xs.length=(aQ P t).length)∧∀(j:Nat) t',(aQ P t)[j]? =some t'→WT P t' (bB P t x j)
def pj:List TypeId→List V→Prop
 | [],[]=>True
 | t::ts,x::xs=>gH P t x∧pj ts xs
 | _,_=>False
def hasB (L:List TypeId) (t:TypeId):Bool:=L.any fun u=>Nat.beq u t
def CY (L:List TypeId):Nat→List Field→Bool
 | _,[]=>true
 | n,f::fs=>hasB L f.type&&(Nat.beq f.offset n&&(Nat.beq (P.cellsOf f.type) (aQ P f.type).length&&CY L (n+P.cellsOf f.type) fs))
def yW:List Nat→List Nat→Bool
 | [],[]=>true
 | a::l,b::m=>Nat.beq a b&&yW l m
 | _,_=>false
def Hn (L:List TypeId) (t:TypeId):Bool:=
 Nat.beq (P.cellsOf t) (aQ P t).length&&
 match P.underlying t with
 | some (.int _)=>true
 | some .bool=>true
 | some .string=>true
 | some (.slice e)=>hasB L e&&cD P e
 | some (.struct fs)=>CY P L 0 fs.toList&&yW (flat P t) (fs.toList.flatMap fun f=>aQ P f.type)
 | some (.array n e)=>hasB L e&&(Nat.beq (P.cellsOf e) (aQ P e).length&&yW (flat P t) (List.replicate n (aQ P e)).flatten)
 | _=>false
def CZ (L:List TypeId):Bool:=L.all fun t=>Hn P L t
end
theorem C2 {L:List TypeId} {t:TypeId} (h:hasB L t=true):t∈L:=by
 obtain ⟨u,hu,U⟩:=np.1 h
 rw[aP] at U
 exact U▸hu
theorem Ho: ∀{l m:List Nat},yW l m=true→l=m
 | [],[],_=>rfl
 | a::l,b::m,h=>by
  simp only[yW,aI,aP] at h
  rw[h.1,Ho h.2]
 | [],_::_,h=>by cases h
 | _::_,[],h=>by cases h
section
variable {P:Program} {H:Type} {enc:TypeId × Value→H} {w:World} {base:Nat} {spare:Nat→Bool} {held:Bool} {L:List TypeId}
def nS (w:World):Nat→Prop:=fun b=>b<w.heap.size
def mN (P:Program) (w:World) (ts:List TypeId) (cs:List Value) (xs:List V):Prop:=
 cs.length=ts.length∧xs.length=ts.length∧∀(j:Nat) t',ts[j]? =some t'→∃v y,cs[j]? =some v∧xs[j]? =some y∧Pure P w (nS w) t' v y∧WT P t' y
theorem mN.app {ts uI:List TypeId} {cs gV:List Value} {xs NJ:List V} (h:mN P w ts cs xs) (h':mN P w uI gV NJ):mN P w (ts++uI) (cs++gV) (xs++NJ):=by
 obtain ⟨a,b,c⟩:=h
 obtain ⟨a',b',c'⟩:=h'
 refine ⟨by simp[a,a'],by simp[b,b'],fun j t' hj=> ?_⟩
 by_cases aO:j<ts.length
 ·rw[hU aO] at hj
  obtain ⟨v,y,e1,e2,e3⟩:=c j t' hj
  exact ⟨v,y,by rw[hU (by omega)];exact e1,by rw[hU (by omega)];exact e2,e3⟩
 ·rw[gK (by omega)] at hj
  obtain ⟨v,y,e1,e2,e3⟩:=c' _ t' hj
  exact ⟨v,y,by rw[gK (by omega),a];exact e1,by rw[gK (by omega),b];exact e2,e3⟩
theorem Xo {w:World} {a:Addr} {v:Value} (h:w.cell? a=some v):a.spot=none∧a.block<w.heap.size:=by
 unfold World.cell? at h
 split at h
 ·rename_i hh
  split at h
  ·cases h
  ·rename_i hs
   exact ⟨by simpa using hs,(gJ.1 hh).1⟩
 all_goals (first|cases h|skip)
theorem NK {rd:TypeId→List Value→Option (DataW H × List MemPlace)} (cs:List Value)
  (ih: ∀t cs x,t∈L→rd t cs=some x→∃xs,mN P w (aQ P t) cs xs): ∀(fs:List Field) (n:Nat),CY P L n fs=true→
  (∀f∈fs,∃x,rd f.type ((cs.drop f.offset).take (P.cellsOf f.type))=some x)→∃m xs,n≤m∧mN P w (fs.flatMap fun f=>aQ P f.type) ((cs.drop n).take (m-n)) xs∧m-n=(fs.flatMap fun f=>aQ P f.type).length
 | [],n,_,_=>⟨n,[],b6 _,⟨by simp,rfl,by simp⟩,by simp⟩
 | f::fs,n,h,hx=>by
  simp only[CY,aI,aP] at h
  obtain ⟨h1,U,h3,h4⟩:=h
  obtain ⟨x,Xp⟩:=hx f (by simp)
  obtain ⟨xs,fT⟩:=ih _ _ _ (C2 h1) Xp
  obtain ⟨m,ys,hm,qg,Ha⟩:=NK cs ih fs (n+P.cellsOf f.type) h4 fun g hg=>hx g (by simp[hg])
  refine ⟨m,xs++ys,by omega,?_,by simp only[mn,b8];omega⟩
  have:=fT.app qg
  rw[mn]
  rw[U] at this
  have e:(cs.drop n).take (m-n)=(cs.drop n).take (P.cellsOf f.type)++(cs.drop (n+P.cellsOf f.type)).take (m-(n+P.cellsOf f.type)):=by
   rw[show m-n=P.cellsOf f.type+(m-(n+P.cellsOf f.type)) by omega,List.take_add,pq]
  rw[e]
  exact this
theorem NL {rd:List Value→Option (DataW H × List MemPlace)} (cs:List Value) {e:TypeId} (hs:P.cellsOf e=(aQ P e).length)
  (ih: ∀cs x,rd cs=some x→∃xs,mN P w (aQ P e) cs xs): ∀(n:Nat),
  (∀i,i<n→∃x,rd ((cs.drop (i*P.cellsOf e)).take (P.cellsOf e))=some x)→∃xs,mN P w (List.replicate n (aQ P e)).flatten (cs.take (n*P.cellsOf e)) xs
 | 0,_=>⟨[],by simp,rfl,by simp⟩
 | n+1,hx=>by
  obtain ⟨xs,fT⟩:=NL cs hs ih n fun i hi=>hx i (by omega)
  obtain ⟨x,yQ⟩:=hx n (by omega)
  obtain ⟨ys,qg⟩:=ih _ _ yQ
  refine ⟨xs++ys,?_⟩
  rw[List.replicate_succ',List.flatten_append]
  have:=fT.app qg
  rw[cZ,Nat.one_mul,List.take_add]
  simpa using this
theorem C3 (hL:CZ P L=true): ∀(fuel:Nat) (t:TypeId) (cs:List Value) (x:DataW H × List MemPlace),t∈L→DataW.trod enc P w base spare held fuel t cs=some x→
  ∃xs,mN P w (aQ P t) cs xs
 | 0,_,_,_,_,h=>by cases h
 | fuel+1,t,cs,x,ht,h=>by
  have hg:=eM.1 hL t ht
  unfold Hn at hg
  rw[aI,aP] at hg
  obtain ⟨hc,hg⟩:=hg
  have one:bz P t=false→aQ P t=[t]:=fun h=>by simp[aQ,h]
  cases hu:P.underlying t with
  | none=>rw[hu] at hg;cases hg
  | some d=>
   rw[hu] at hg
   cases d with
   | int k=>
    obtain ⟨n,rfl,rfl,yX⟩:=DataW.trod_int hu h
    rw[one (by simp[bz,hu])]
    exact ⟨[.int k n],rfl,rfl,fun j t' hj=>by
     cases j with
     | zero=>cases hj;exact ⟨_,_,rfl,rfl,.int hu,.int hu yX⟩
     | succ j=>simp at hj⟩
   | bool=>
    obtain ⟨b,rfl,rfl⟩:=DataW.trod_bool hu h
    rw[one (by simp[bz,hu])]
    exact ⟨[.bool b],rfl,rfl,fun j t' hj=>by
     cases j with
     | zero=>cases hj;exact ⟨_,_,rfl,rfl,.bool hu,.bool hu⟩
     | succ j=>simp at hj⟩
   | string=>
    obtain ⟨s,rfl,rfl,hl⟩:=DataW.trod_string hu h
    rw[one (by simp[bz,hu])]
    exact ⟨[.str s.data.toList],rfl,rfl,fun j t' hj=>by
     cases j with
     | zero=>cases hj;exact ⟨_,_,rfl,rfl,.str hu rfl,.str hu (by simpa using hl)⟩
     | succ j=>simp at hj⟩
   | slice e=>
    simp only[aI] at hg
    obtain ⟨he,au⟩:=hg
    rw[one (by simp[bz,hu])]
    have single: ∀v y,cs=[v]→Pure P w (nS w) t v y→WT P t y→∃xs,mN P w [t] cs xs:=by
     rintro v y rfl a b
     exact ⟨[y],rfl,rfl,fun j t' hj=>by
      cases j with
      | zero=>cases hj;exact ⟨_,_,rfl,rfl,a,b⟩
      | succ j=>simp at hj⟩
    rcases DataW.trod_slice hu h with ⟨rfl,rfl⟩|⟨a,len,cap,elems,rest,n,hn,rfl,rfl,hb,hl,hm,hlen,cE,_,_⟩
    ·exact single _ _ rfl (.nil hu) (.list hu (by simp) (by simp) (by simp))
    ·cases hn
     have kR:=(jH au).2
     have LF:P.cellsOf e=(aQ P e).length:=(e8 au).symm
     have key: ∀i,i<len→∃gV xs,w.cells? base (a.add (i*P.cellsOf e)) (P.cellsOf e)=some gV∧mN P w (aQ P e) gV xs:=by
      intro i hi
      have h1:=cE i hi
      rw[bE (by omega)] at h1
      obtain ⟨gV,U,h3⟩:=Option.bind_eq_some_iff.1 h1
      obtain ⟨xs,fT⟩:=C3 hL fuel e gV _ (C2 he) h3
      exact ⟨gV,xs,U,fT⟩
     by_cases h0:len=0
     ·subst h0
      exact single _ _ rfl (.emp hu) (.list hu (by simp) (by simp) (by simp))
     ·have gz:a.spot=none∧a.block<w.heap.size:=by
       obtain ⟨gV,xs,U,_⟩:=key 0 (by omega)
       obtain ⟨_,h3,h4⟩:=World.cells?_some U
       have h5:=h4 0 kR
       rw[bE (by omega)] at h5
       have:=Xo h5
       simpa[Addr.add] using this
      have hF: ∃(F:Nat→List Value) (X:Nat→List V),∀i,i<len→w.cells? base (a.add (i*P.cellsOf e)) (P.cellsOf e)=some (F i)∧mN P w (aQ P e) (F i) (X i):=by
       refine ⟨fun i=>if hi:i<len then (key i hi).choose else [],fun i=>if hi:i<len then (key i hi).choose_spec.choose else [],fun i hi=> ?_⟩
       simp only[qF hi]
       exact (key i hi).choose_spec.choose_spec
      obtain ⟨F,X,Hp⟩:=hF
      have hx: ∀(i j:Nat) y t',((List.range len).map fun i=>cd P e (X i))[i]? =some y→(aQ P e)[j]? =some t'→i<len∧∃v,(F i)[j]? =some v∧Pure P w (nS w) t' v (bB P e y j)∧WT P t' (bB P e y j):=by
       intro i j y t' hy hj
       have hi:i<len:=by
        have:=(bj.1 hy).1
        simpa using this
       refine ⟨hi,?_⟩
       simp[List.getElem?_range hi] at hy
       obtain ⟨c1,c2,c3⟩:=(Hp i hi).2
       obtain ⟨v,z,d1,d2,d3,d4⟩:=c3 j t' hj
       have:bB P e y j=z:=by
        rw[←hy]
        unfold bB cd
        cases ha:bz P e with
        | true=>
         simp only[cond_true,V.cell]
         rw[sJ _ _ _ d2]
        | false=>
         simp only[cond_false]
         have:aQ P e=[e]:=by simp[aQ,ha]
         rw[this] at hj
         cases j with
         | zero=>rw[sJ _ _ _ d2]
         | succ j=>simp at hj
       rw[this]
       exact ⟨v,d1,d3,d4⟩
      have fF: ∀i j,i<len→j<P.cellsOf e→w.cell? ⟨a.block,a.off+(i*P.cellsOf e+j),none⟩=some ((F i).getD j undef):=by
       intro i j hi hj
       obtain ⟨h1,U⟩:=Hp i hi
       obtain ⟨_,h3,h4⟩:=World.cells?_some h1
       have h5:=h4 j hj
       rw[Go.Deep.add_add] at h5
       have e1:a.add (i*P.cellsOf e+j)=⟨a.block,a.off+(i*P.cellsOf e+j),none⟩:=by
        obtain ⟨b,o,s⟩:=a
        simp only at gz
        rw[gz.1]
        exact mF ..
       rw[e1] at h5
       rw[h5,hX,bE (by omega)]
       rfl
      have ha:a=⟨a.block,a.off,none⟩:=by
       obtain ⟨b,o,s⟩:=a
       simp only at gz
       rw[gz.1]
      refine single (.slice (some a) len cap) (.list e ((List.range len).map fun i=>cd P e (X i))) rfl ?_ ?_
      ·rw[ha]
       refine .list (fun i j=>(F i).getD j undef) hu (by simp) hl (fun _=>gz.2) fF ?_
       intro i j y t' hy hj
       obtain ⟨hi,v,d1,d2,_⟩:=hx i j y t' hy hj
       rw[hX,d1]
       exact d2
      ·refine .list hu (by simp;omega) ?_ ?_
       ·intro i y hy C4
        have hi:i<len:=by
         have:=(bj.1 hy).1
         simpa using this
        simp[List.getElem?_range hi] at hy
        rw[←hy]
        exact ⟨X i,by simp[cd,C4],(Hp i hi).2.2.1⟩
       ·intro i j y t' hy hj
        obtain ⟨_,v,_,_,d3⟩:=hx i j y t' hy hj
        exact d3
   | struct fs=>
    simp only[aI] at hg
    obtain ⟨xs,n,hn,rfl,hlen,lM,hx⟩:=DataW.trod_struct hu h
    cases hn
    have het:aQ P t=fs.toList.flatMap fun f=>aQ P f.type:=by
     rw[←Ho hg.2]
     simp[aQ,bz,hu]
    obtain ⟨m,ys,_,qg,hm⟩:=NK (w:=w) (rd:=fun t cs=>DataW.trod enc P w base spare held fuel t cs) cs (fun t cs x a b=>C3 hL fuel t cs x a b) fs.toList 0 hg.1 (by
     intro f hf
     obtain ⟨i,hi⟩:=qJ hf
     rw[qK] at hi
     have p6:i<fs.size:=(gJ.1 hi).1
     exact ⟨_,(hx i f hi).trans (bE (by omega))⟩)
    rw[het]
    refine ⟨ys,?_⟩
    have:(cs.drop 0).take (m-0)=cs:=by
     rw[iI,hm,←het,←hc,←hlen,pk]
    rw[this] at qg
    exact qg
   | array n e=>
    simp only[aI,aP] at hg
    obtain ⟨xs,m,hn,rfl,hlen,lM,hx⟩:=DataW.trod_array hu h
    cases hn
    have het:aQ P t=(List.replicate n (aQ P e)).flatten:=by
     rw[←Ho hg.2.2]
     simp[aQ,bz,hu]
    obtain ⟨ys,qg⟩:=NL (w:=w) (rd:=DataW.trod enc P w base spare held fuel e) cs hg.2.1 (fun cs x b=>C3 hL fuel e cs x (C2 hg.1) b) n (by
     intro i hi
     exact ⟨_,(hx i hi).trans (bE (by omega))⟩)
    rw[het]
    refine ⟨ys,?_⟩
    have:cs.take (n*P.cellsOf e)=cs:=by
     have:n*P.cellsOf e=cs.length:=by
      rw[hlen,hc,het,hg.2.1]
      simp
     rw[this,pk]
    rw[this] at qg
    exact qg
   | _=>cases hg
end
section
variable {P:Program} {H:Type} {enc:TypeId × Value→H} {w:World} {L:List TypeId}
theorem Xq {base Hq:Nat} {spare:Nat→Bool} {held:Bool} {r:Reach} {β:Nat→Option Nat} {hp:Nat→Option an} (hL:CZ P L=true) {t:TypeId} {v:Value} {d:DataW H} {ps:List MemPlace} (ht:t∈L) (eC:Value.okWide P w r Hq t v)
  (h:DataW.Trod enc P w base spare held t v d ps): ∃x,ao P w (nS w) β hp v x∧gH P t x:=by
 obtain ⟨fuel,hf⟩:=h
 obtain ⟨xs,c1,c2,c3⟩:=C3 hL fuel t _ _ ht hf
 have hg:=eM.1 hL t ht
 unfold Hn at hg
 rw[aI,aP] at hg
 obtain ⟨_,hg⟩:=hg
 have C4:bz P t=true→∃x,ao P w (nS w) β hp v x∧gH P t x:=by
  intro ha
  have hv: ∃cs,v= .agg cs:=by
   unfold Value.okWide at eC
   unfold bz at ha
   split at eC
   ·obtain ⟨cs,e,_⟩:=eC;exact ⟨cs,e⟩
   ·obtain ⟨cs,e,_⟩:=eC;exact ⟨cs,e⟩
   ·split at ha<;>simp_all
  obtain ⟨cs,rfl⟩:=hv
  refine ⟨.agg xs,.agg (by simpa[Value.cells] using c1.trans c2.symm) fun j v x hv hx=> ?_,fun _=>⟨xs,rfl,c2⟩,fun j t' hj=> ?_⟩
  ·have hj:j<(aQ P t).length:=by rw[←c2];exact (bj.1 hx).1
   obtain ⟨v',y,e1,e2,e3,_⟩:=c3 j _ (bE hj)
   rw[hx] at e2
   cases e2
   have:cs[j]? =some v':=by simpa[Value.cells] using e1
   rw[hv] at this
   cases this
   exact .pJ e3
  ·obtain ⟨v',y,e1,e2,_,e4⟩:=c3 j t' hj
   have:bB P t (.agg xs) j=y:=by
    simp only[bB,ha,cond_true,V.cell]
    exact sJ _ _ _ e2
   rw[this]
   exact e4
 have pY:bz P t=false→v.cells= #[v]→∃x,ao P w (nS w) β hp v x∧gH P t x:=by
  intro ha sP
  have he:aQ P t=[t]:=by simp[aQ,ha]
  rw[he] at c1 c2 c3
  obtain ⟨v',y,e1,e2,e3,e4⟩:=c3 0 t rfl
  rw[sP] at e1
  cases e1
  refine ⟨y,.pJ e3,⟨fun h=>absurd (ha.symm.trans h) (by simp),fun j t' hj=> ?_⟩⟩
  rw[he] at hj
  cases j with
  | succ j=>simp at hj
  | zero=>
   cases hj
   simpa[bB,ha] using e4
 unfold Value.okWide at eC
 cases hu:P.underlying t with
 | none=>rw[hu] at hg;cases hg
 | some Xr=>
  rw[hu] at hg eC
  cases Xr with
  | int k=>
   refine pY (by simp[bz,hu]) ?_
   simp only[Cell.okWide,Cell.ok,hu] at eC
   cases v<;>first|rfl|(simp at eC;done)|exact eC.elim
  | bool=>
   refine pY (by simp[bz,hu]) ?_
   simp only[Cell.okWide,Cell.ok,hu] at eC
   cases v<;>first|rfl|(simp at eC;done)|exact eC.elim
  | string=>
   refine pY (by simp[bz,hu]) ?_
   simp only[Cell.okWide,Cell.ok,hu] at eC
   cases v<;>first|rfl|(simp at eC;done)|exact eC.elim
  | slice e=>
   refine pY (by simp[bz,hu]) ?_
   simp only[Cell.okWide,Cell.ok,hu] at eC
   cases v<;>first|rfl|(simp at eC;done)|exact eC.elim
  | struct fs=>exact C4 (by simp[bz,hu])
  | array n e=>exact C4 (by simp[bz,hu])
  | _=>cases hg
theorem NM {base Hq:Nat} {spare:Nat→Bool} {held:Bool} {r:Reach} {β:Nat→Option Nat} {hp:Nat→Option an} (hL:CZ P L=true): ∀{ts:List TypeId} {vs:List Value} {ds:List (DataW H)} {ps:List MemPlace},
  (∀t∈ts,t∈L)→(∀(j:Nat) t v,ts[j]? =some t→vs[j]? =some v→Value.okWide P w r Hq t v)→DataW.TrodAll enc P w base spare held ts vs ds ps→
  ∃xs,vs.length=xs.length∧(∀(j:Nat) v x,vs[j]? =some v→xs[j]? =some x→ao P w (nS w) β hp v x)∧pj P ts xs
 | [],vs,ds,ps,_,_,h=>by
  obtain ⟨rfl,rfl,rfl⟩:=trodAll_nil h
  exact ⟨[],rfl,by simp,trivial⟩
 | t::ts,vs,ds,ps,hm,eC,h=>by
  obtain ⟨v,xU,d,C6,a,b,rfl,rfl,rfl,h1,U⟩:=trodAll_cons h
  obtain ⟨x,yQ,oJ⟩:=Xq (β:=β) (hp:=hp) hL (hm t (by simp)) (eC 0 t v rfl rfl) h1
  obtain ⟨xs,hl,hr,hw⟩:=NM (β:=β) (hp:=hp) hL (fun t ht=>hm t (by simp[ht])) (fun j t v a b=>eC (j+1) t v (by simpa using a) (by simpa using b)) U
  refine ⟨x::xs,by simp[hl],fun j v' x' hv hx=> ?_,oJ,hw⟩
  cases j with
  | zero=>cases hv;cases hx;exact yQ
  | succ j=>exact hr j v' x' (by simpa using hv) (by simpa using hx)
theorem NN {base:Nat} {spare:Nat→Bool} {held:Bool}: ∀{ts:List TypeId} {vs:List Value} {ds:List (DataW H)} {ps:List MemPlace},DataW.TrodAll enc P w base spare held ts vs ds ps→ds.length=ts.length
 | [],vs,ds,ps,h=>by obtain ⟨rfl,rfl,rfl⟩:=trodAll_nil h;rfl
 | t::ts,vs,ds,ps,h=>by
  obtain ⟨v,xU,d,C6,a,b,rfl,rfl,rfl,h1,U⟩:=trodAll_cons h
  simp[NN U]
theorem NO {base:Nat} (hl:laidOutB P=true) {W W':World} {NP:Nat→Bool}: ∀{ts:List TypeId} {vs:List Value} {ds:List (DataW H)} {ps:List MemPlace},(∀t∈ts,P.readableRec t=true∧t<P.types.size)→
  DataW.TrodAll enc P W base (fun _=>true) true ts vs ds ps→(∀p∈ps,W.sameAt W' p)→(∀p∈ps,NP p.block=true)→DataW.TrodAll enc P W' base NP true ts vs ds ps
 | [],vs,ds,ps,_,h,_,_=>by obtain ⟨rfl,rfl,rfl⟩:=trodAll_nil h;exact trodAll_mk0
 | t::ts,vs,ds,ps,hr,h,h1,U=>by
  obtain ⟨v,xU,d,C6,a,b,rfl,rfl,rfl,h3,h4⟩:=trodAll_cons h
  obtain ⟨r1,r2⟩:=hr t (by simp)
  exact trodAll_cons_mk (WideElems.Trod_stays hl r1 r2 h3 (fun p hp=>h1 p (by simp[hp])) (fun p hp=>U p (by simp[hp])))
   (NO hl (fun t ht=>hr t (by simp[ht])) h4 (fun p hp=>h1 p (by simp[hp])) (fun p hp=>U p (by simp[hp])))
theorem Xs {f:Func} {s:ChangeSpec} {apart fresh handsOn again:Bool} {W W':World} {args:Array Value} {v:Value} {ds gs:List (DataW H)} {before pa pv:List MemPlace}
  (hW:DataW.Whole enc P f.params.toList s.vars apart W args.toList ds gs before)
  (NQ: ∀(b:Nat) (sp:Nat→Bool) (hd:Bool),DataW.TrodAll enc P W' b sp hd f.resultTypes.toList (v.resultList f.resultTypes.size) (s.fn H (ds++gs)).results [])
  (s9: ∀sp:Nat→Bool,(∀p∈before,sp p.block=true)→DataW.TrodAll enc P W' 0 sp true f.params.toList args.toList (s.fn H (ds++gs)).args pa)
  (NR: ∀sp:Nat→Bool,(∀p∈before,sp p.block=true)→DataW.TrodVars enc P W' sp s.vars (s.fn H (ds++gs)).vars pv)
  (C7:before=pa++pv) (hk:W.keptBut W' (· ∈before)) (Hr: ∀a:Addr,a.block<W.heap.size→W'.frozen? a=W.frozen? a)
  (au: ∀(j:Nat) (t:TypeId) (r:Value),f.resultTypes[j]? =some t→(v.resultList f.resultTypes.size)[j]? =some r→Value.okWide P W' .any 0 t r):
  s.post enc P f apart fresh handsOn again W args v W':=by
 have hold: ∀p∈before,(fun b=>decide (b<W.heap.size)) p.block=true:=fun p hp=>by simpa using hW.lt p hp
 refine ⟨ds,gs,before,[],pa,pv,hW,NQ _ _ _,s9 _ hold,NR _ hold,World.keptBut_mono (fun p hp=>⟨hp,?_⟩) hk,fun _=> ?_⟩
 ·rw[C7,eh] at hp
  exact Or.inr hp
 ·have aO:=hW.lt
  obtain ⟨_,_,_,_,_,hz,hn⟩:=hW
  refine ⟨au,_,_,([]++pa)++pv,⟨[]++pa,pv,trodAll_append (s9 _ (fun _ _=>rfl)) (NQ _ _ _),NR _ (fun _ _=>rfl),rfl,?_,?_⟩,?_⟩
  ·intro b off hp
   have hb:MemPlace.cell b off∈before:=by rw[C7];simpa using hp
   rw[Hr ⟨b,off,none⟩ (aO _ hb)]
   exact hz b off hb
  ·intro ha
   have:=hn ha
   rw[C7] at this
   simpa using this
  ·intro p hp _
   rw[C7]
   simpa using hp
theorem TU {A:ct} (hP:iR P A) (oT:P.follows .mixedOrders=true) {f key:Nat} {fn:Func} {tb:TypeId} {s:ChangeSpec} {apart fresh handsOn again:Bool}
  (hf:P.funcs[f]? =some fn) (Xt:A.aY key=f) (hL:CZ P L=true) (bK:fn.params.toList.all (fun t=>hasB L t)=true) (NS:fn.resultTypes= #[tb]) (NT:P.underlying tb=some .bool) (NU:s.vars=[])
  (hs: ∀ds:List (DataW H),ds.length=fn.params.toList.length→s.fn H ds={results:=[.lit (.bool true)],args:=ds})
  (Xu:laidOutB P=true) (Xv:fn.params.toList.all (fun t=>P.readableRec t&&Nat.blt t P.types.size)=true)
  (mH:(A.sin key).a8=[]) (au:((A.sin key).bI.map (·.2)).all (VS.ok 0)=true) (Xw:(A.gn key).bI=[(0,.one .bool)]) (halt:A.alt key=none)
  {W:World} {base:Nat} {args:Array Value} {ds gs:List (DataW H)} {before:List MemPlace}
  (Xx:gh P A.aD W (nS W)) (eC: ∀(j:Nat) t v,fn.params[j]? =some t→args[j]? =some v→Value.okWide P W .any base t v)
  (hW:DataW.Whole enc P fn.params.toList s.vars apart W args.toList ds gs before) (Q:List V→Prop)
  (hQ: ∀xs:List V,pj P fn.params.toList xs→(∀(j:Nat) v x,args.toList[j]? =some v→xs[j]? =some x→ao P W (nS W) (fun _=>none) (fun _=>none) v x)→Q xs)
  (Xy: ∀xs,pj P fn.params.toList xs→Q xs→∃ds,qE ((A.sin key).bI.map (·.2)) xs=some ds∧Call P A key ds=some [.bool true]):
  Calls P f args W fun e W'=> ∃v,e= .returned v∧s.post enc P fn apart fresh handsOn again W args v W':=by
 have NV:=hW
 obtain ⟨p,q,hA,hV,rfl,Hr,jM⟩:=hW
 rw[NU] at hV
 obtain ⟨Xz,hq⟩:gs=[]∧q=[]:=by
  cases gs with
  | nil=>exact ⟨rfl,hV⟩
  | cons g gs=>exact hV.elim
 subst Xz
 subst hq
 obtain ⟨xs,hl,hr,NW⟩:=NM (β:=fun _=>none) (hp:=fun _=>none) hL (fun t ht=>C2 (eM.1 bK t ht)) (fun j t v a b=>eC j t v (by simpa using a) (by simpa using b)) hA
 obtain ⟨ls,XA,yN⟩:=Xy xs NW (hQ xs NW hr)
 obtain ⟨NX,c,h1,U,h3⟩:=Xk (A:=A) hP oT key ls [.bool true] yN
 rw[Xt] at h1 h3
 rw[hf] at h1
 cases h1
 have vy: ∀j,(bd (A.sin key) ls).hp j=none:=fun j=>by simp[bd,mk,mH,ej,jc]
 obtain ⟨_,r1,r2⟩:=yD (P:=P) (w:=W) (I:=nS W) (n:=0) (β:=fun _=>none) (β':=fun _=>none) (hp:=fun _=>none) (hp':=(bd (A.sin key) ls).hp) (fun j hj=>absurd hj (Nat.not_lt_zero j)) XA au
 have hlen:((A.sin key).bI.map (·.2)).length=xs.length:=by rw[←r1 [],Hk]
 have h4:=h3 W (nS W) (fun _=>none) args.toList ⟨fun id blk h=>(by rw[vy] at h;cases h),fun id aC blk blk' b h=>(by rw[vy] at h;cases h),fun id blk b h=>(by rw[vy] at h;cases h),fun b h=>h⟩ Xx
  (by rw[hl,←hlen,bm]) (fun j v y hv hy=>r2 [] j v y (fun x hx=>hr j v x hv hx) (by rw[dz];exact hy))
 have ea:args.toList.toArray=args:=by simp
 rw[ea] at h4
 refine h4.mono fun e W' ⟨v,I2,bP,he,ha⟩=>⟨v,he,?_⟩
 have sM: ∀b,b<W.heap.size→W'.heap[b]? =W.heap[b]? :=fun b hb=>ha.vk.bU b hb (by rintro ⟨j,blk,hj,_⟩;rw[vy] at hj;cases hj)
 have Gy:=ha.res
 have NY:A.so key [.bool true]=A.gn key∧A.lv key [.bool true]=[.bool true]:=by unfold ct.so ct.lv;rw[halt];exact ⟨rfl,rfl⟩
 rw[NY.1,NY.2,Xw] at Gy
 obtain rfl:v= .bool true:=Gy.jI
 have kY:Value.okWide P W' .any 0 tb (.bool true):=by simp[Value.okWide,NT,Cell.okWide,Cell.ok]
 have kH:ds.length=fn.params.toList.length:=NN hA
 have iw: ∀p'∈p++[],W.sameAt W' p':=by
  intro p' hp'
  have aO:=NV.lt p' hp'
  cases p' with
  | cell b o=>exact World.cell?_of_block (w:=W) (sM b aO)
  | map b=>exact sM b aO
 refine Xs (pa:=p) (pv:=[]) NV ?_ ?_ ?_ rfl ?_ ?_ ?_
 ·intro b sp hd
  rw[dz,hs ds kH,NS]
  exact trodAll_mk1 ⟨1,by simp[DataW.trod,Value.cells,NT]⟩
 ·intro sp gz
  rw[dz,hs ds kH]
  refine NO Xu (fun t ht=> ?_) hA (fun p' hp'=>iw p' (by simpa using hp')) (fun p' hp'=>gz p' (by simpa using hp'))
  have:=eM.1 Xv t ht
  simp only[aI] at this
  exact ⟨this.1,by simpa[jw] using this.2⟩
 ·intro sp gz
  rw[NU,dz,hs ds kH]
  exact rfl
 ·refine ⟨ha.vk.io.1,ha.vk.io.2,fun i hi=> ?_⟩
  rw[sM i hi]
  split<;>simp_all
 ·intro a aO
  exact World.frozen?_of_block (w:=W) (sM a.block aO)
 ·intro j t r hj Hs
  rw[NS] at hj Hs
  cases j with
  | zero=>
   simp[Value.resultList] at hj Hs
   subst hj
   subst Hs
   exact kY
  | succ j=>simp at hj
end
end Go.AM
namespace Go.AM
@[simp] theorem V.toInt_int (k:IntKind) (n:Int):V.toInt (.int k n)=n:=by cases k<;>rfl
@[simp] theorem V.dU (b:Bool):V.toBool (.bool b)=b:=by cases b<;>rfl
@[simp] theorem V.C8 (s:List UInt8):V.toStr (.str s)=s:=by cases s<;>rfl
@[simp] theorem V.ld (e:TypeId) (es:List V):V.toList (.list e es)=es:=by cases es<;>rfl
@[simp] theorem V.af7 (e:TypeId) (es:List V):V.toList (.own e es)=es:=by cases es<;>rfl
@[simp] theorem V.XB (cs:List V) (j:Nat):V.cell (.agg cs) j=V.nth cs j:=by cases cs<;>rfl
@[simp] theorem V.af8 (cs:List V) (j:Nat):V.comp (.aX cs) j=V.nth cs j:=by cases cs<;>rfl
@[simp] theorem V.aS (x:V) (l:List V):V.nth (x::l) 0=x:=by cases l<;>rfl
@[simp] theorem V.qh (x:V) (l:List V) (n:Nat):V.nth (x::l) (n+1)=V.nth l n:=by cases l<;>rfl
@[simp] theorem V.af9 (x y:V) (l:List V):V.nth (x::y::l) 1=y:=by cases l<;>rfl
@[simp] theorem V.aga (x y z:V) (l:List V):V.nth (x::y::z::l) 2=z:=by cases l<;>rfl
@[simp] theorem V.agb (x y z u:V) (l:List V):V.nth (x::y::z::u::l) 3=u:=by cases l<;>rfl
theorem wrap64 {x:Int} (h1: -9223372036854775808≤x) (U:x<9223372036854775808):IntKind.wrap .i64 x=x:=by
 rw[IntKind.wrap_i64];omega
theorem yY {x:Int} (h1:0≤x) (U:x<256):IntKind.wrap .u8 x=x:=by
 rw[IntKind.wrap_u8];omega
@[simp] theorem NZ (es:List V) (n:Nat):idx es (n:Int)=es[n]? :=by simp[idx]
@[simp] theorem aA {α:Type} (p:Prop) [Decidable p] (a b:α):(bif decide p then a else b)=if p then a else b:=by by_cases h:p<;>simp[h]
@[simp] theorem eS {α:Type} (m n:Int) (a b:α):(bif m==n then a else b)=if m=n then a else b:=by
 by_cases h:m=n
 ·simp[h]
 ·have:(m==n)=false:=by simp[h]
  rw[this,ai h];rfl
@[simp] theorem vz {α:Type} (m n:Int) (a b:α):(bif m != n then a else b)=if m=n then b else a:=by
 by_cases h:m=n
 ·simp[h]
 ·have:(m != n)=true:=by simp[h]
  rw[this,ai h];rfl
@[simp] theorem gC {α:Type} (c:Bool) (a b:α):(bif !c then a else b)=bif c then b else a:=by cases c<;>rfl
@[simp] theorem Ht {α:Type} (m n:Nat) (a b:α):(bif Nat.ble m n then a else b)=if m≤n then a else b:=by
 cases hb:Nat.ble m n with
 | true=>rw[aj (Nat.le_of_ble_eq_true hb)];rfl
 | false=>
  rw[ai fun h=> ?_]
  ·rfl
  ·rw[Nat.ble_eq_true_of_le h] at hb;cases hb
@[simp] theorem dg {α:Type} (c d:Bool) (a b:α):(bif c&&d then a else b)=bif c then (bif d then a else b) else b:=by cases c<;>rfl
section
variable {P:Program}
def N0 (P : Program) : Bool := P.funcs.all fun fn => !(fn.name == "runtime.NumGoroutine")
theorem TO (h:N0 P=true):xj P:=by
 intro f fn hf
 unfold N0 at h
 have:=(Array.all_eq_true_iff_forall_mem.1 h) fn (Array.mem_of_getElem? hf)
 simpa using this
theorem A7 {t:TypeId} {ts:List TypeId} {xs:List V} (h:pj P (t::ts) xs): ∃x ys,xs=x::ys∧gH P t x∧pj P ts ys:=by
 cases xs with
 | nil=>exact h.elim
 | cons x ys=>exact ⟨x,ys,rfl,h.1,h.2⟩
theorem TQ {xs:List V} (h:pj P [] xs):xs=[]:=by
 cases xs with
 | nil=>rfl
 | cons x ys=>exact h.elim
theorem gH.one {t:TypeId} {x:V} (ha:bz P t=false) (h:gH P t x):WT P t x:=by
 have he:aQ P t=[t]:=by simp[aQ,ha]
 have:=h.2 0 t (by rw[he];rfl)
 simpa[bB,ha] using this
theorem WT.dS {t:TypeId} {k:IntKind} {x:V} (hu:P.underlying t=some (.int k)) (h:WT P t x): ∃n,x= .int k n∧k.min≤n∧n≤k.max:=by
 cases h with
 | int h1 U=>
  rw[hu] at h1
  cases h1
  simp only[Lit.wf,aI,dM] at U
  exact ⟨_,rfl,U⟩
 | bool h1=>rw[hu] at h1;cases h1
 | str h1=>rw[hu] at h1;cases h1
 | list h1=>rw[hu] at h1;cases h1
theorem WT.jI {t:TypeId} {x:V} (hu:P.underlying t=some .bool) (h:WT P t x): ∃b,x= .bool b:=by
 cases h with
 | int h1=>rw[hu] at h1;cases h1
 | bool h1=>exact ⟨_,rfl⟩
 | str h1=>rw[hu] at h1;cases h1
 | list h1=>rw[hu] at h1;cases h1
theorem WT.lF {t:TypeId} {x:V} (hu:P.underlying t=some .string) (h:WT P t x): ∃s,x= .str s∧s.length≤maxLen:=by
 cases h with
 | int h1=>rw[hu] at h1;cases h1
 | bool h1=>rw[hu] at h1;cases h1
 | str h1 U=>exact ⟨_,rfl,U⟩
 | list h1=>rw[hu] at h1;cases h1
theorem WT.XC {t e:TypeId} {x:V} (hu:P.underlying t=some (.slice e)) (h:WT P t x): ∃es,x= .list e es∧es.length≤maxLen∧∀y∈es,gH P e y:=by
 cases h with
 | int h1=>rw[hu] at h1;cases h1
 | bool h1=>rw[hu] at h1;cases h1
 | str h1=>rw[hu] at h1;cases h1
 | list h1 U h3 h4=>
  rw[hu] at h1
  cases h1
  refine ⟨_,rfl,U,fun y hy=> ?_⟩
  obtain ⟨i,hi⟩:=qJ hy
  exact ⟨h3 i y hi,fun j t' hj=>h4 i j y t' hi hj⟩
theorem gH.kf {t:TypeId} {x:V} (ha:bz P t=true) (h:gH P t x): ∃xs,x= .agg xs∧xs.length=(aQ P t).length∧∀(j:Nat) t' y,(aQ P t)[j]? =some t'→xs[j]? =some y→WT P t' y:=by
 obtain ⟨xs,rfl,hl⟩:=h.1 ha
 refine ⟨xs,rfl,hl,fun j t' y hj hy=> ?_⟩
 have:=h.2 j t' hj
 simp only[bB,ha,cond_true,V.XB] at this
 rw[sJ _ _ _ hy] at this
 exact this
theorem N3 {α:Type} {f:α→V} {p:α→Prop}: ∀{es:List V},(∀y∈es,∃a,y=f a∧p a)→∃l:List α,es=l.map f∧∀a∈l,p a
 | [],_=>⟨[],rfl,by simp⟩
 | y::es,h=>by
  obtain ⟨a,rfl,ha⟩:=h y (by simp)
  obtain ⟨l,rfl,hl⟩:=N3 (f:=f) (p:=p) (es:=es) fun z hz=>h z (by simp[hz])
  exact ⟨a::l,rfl,by
   intro b hb
   rcases cX.1 hb with rfl|hb
   ·exact ha
   ·exact hl b hb⟩
theorem gH.int {t:TypeId} {x:V} (hu:P.underlying t=some (.int .i64)) (h:gH P t x): ∃n,x= .int .i64 n∧IntKind.min .i64≤n∧n≤IntKind.max .i64:=
 (h.one (by simp[bz,hu])).dS hu
theorem gH.str {t:TypeId} {x:V} (hu:P.underlying t=some .string) (h:gH P t x): ∃s,x= .str s∧s.length≤maxLen:=
 (h.one (by simp[bz,hu])).lF hu
end
def un.{u} {A B:Type} {γ:Sort u} (f:A→B→γ) (p:A × B):γ:=f p.1 p.2
def bY {A B γ:Type} (f:A→γ) (g:B→γ):A ⊕ B→γ
 | .inl a=>f a
 | .inr b=>g b
def aw:List Nat→Code→Code
 | [],c=>c
 | 0::p,.seq a _=>aw p a
 | _::p,.seq _ b=>aw p b
 | 0::p,.cond _ a _=>aw p a
 | _::p,.cond _ _ b=>aw p b
 | _::p,.block _ c=>aw p c
 | _::p,.loop c=>aw p c
 | _,c=>c
inductive cu where
 | loop (c:Code)
 | cond (t:Nat) (x y:Code)
section
variable (P:Program) (A:ct) (C:ag) (L:cy) (f n m:Nat)
def oV:Code→List cu
 | .seq a b=>oV a++oV b
 | .cond (.tmp t) x y=>
  match A.gL f (t*16+15) with
  | none=>oV x++oV y
  | some _=>[.cond t x y]
 | .cond (.const _) x y=>oV x++oV y
 | .block _ c=>oV c
 | .loop c=>[.loop c]
 | _=>[]
def cv:cu→Prop
 | .loop c=>
  match A.gL f (keyOf c+1) with
  | none=>True
  | some S=> ∀(β:Type) ds (k:Nat→List V→Option β),L β (keyOf c+1) ds k=(Loop (stepG P A C f n m S c) ds).bind fun r=>k r.1 r.2
 | .cond t x y=>
  match A.gL f (t*16+15) with
  | none=>True
  | some S=> ∀(β:Type) ds (k:Nat→List V→Option β),L β (t*16+15) ds k=(xT P A C f n m t S x y ds).bind fun r=>k r.1 r.2
def mO:List cu→Prop
 | []=>True
 | b::l=>cv P A C L f n m b∧mO l
variable {P A C L f n m}
theorem mO.left {a b:List cu}:mO P A C L f n m (a++b)→mO P A C L f n m a:=by
 induction a with
 | nil=>exact fun _=>trivial
 | cons x a ih=>exact fun h=>⟨h.1,ih h.2⟩
theorem mO.right {a b:List cu}:mO P A C L f n m (a++b)→mO P A C L f n m b:=by
 induction a with
 | nil=>exact fun h=>h
 | cons x a ih=>exact fun h=>ih h.2
theorem bf: ∀{c:Code} {bs:List cu},oV A f c=bs→mO P A C L f n m bs→gR P A C L f n m c:=by
 intro c
 induction c with
 | seq a b FH FI=>
  intro bs h hb
  subst h
  exact ⟨FH rfl hb.left,FI rfl hb.right⟩
 | cond c x y ia ib=>
  intro bs h hb
  subst h
  cases c with
  | tmp t=>
   simp only[oV] at hb
   simp only[gR]
   cases hs:A.gL f (t*16+15) with
   | none=>
    rw[hs] at hb
    exact ⟨ia rfl hb.left,ib rfl hb.right⟩
   | some S=>
    rw[hs] at hb
    have:=hb.1
    simp only[cv,hs] at this
    exact this
  | const v=>exact ⟨ia rfl hb.left,ib rfl hb.right⟩
  | _=>trivial
 | block id c ih=>
  intro bs h hb
  subst h
  exact ih rfl hb
 | loop c ih=>
  intro bs h hb
  subst h
  exact hb.1
 | _=>intro bs h hb;trivial
variable (P A C L f n m) in
noncomputable def Hu {β:Type} (t:Nat) (S:Shape × List (Out × Shape)) (x y:Code) (ds:List V) (k:Nat→List V→Option β):Option β:=
 let kc:Out→St→Option β:=fun o st=>
  match o with
  | .norm=>(ways m 0 S.2 (.norm,canon m (A.join f t) st)).bind fun e=>k e.1 e.2
  | o=>(ways m 0 S.2 (o,st)).bind fun e=>k e.1 e.2
 match (bd S.1 ds).sl t with
 | .bool b=>bif b then gQ P A C L f n m x (bd S.1 ds) kc else gQ P A C L f n m y (bd S.1 ds) kc
 | _=>none
theorem XD {t:Nat} {x y:Code} {S:Shape × List (Out × Shape)} (hS:A.gL f (t*16+15)=some S) (hx:gR P A C L f n m x) (hy:gR P A C L f n m y) {I R:Type} (enc:I→List V) (lR:I→R→Nat × List V)
  (de:List V→I) (body:I→(β:Type)→(R→Option β)→Option β) (ti: ∀ds,bd S.1 (enc (de ds))=bd S.1 ds)
  (e1: ∀i (β:Type) (k:Nat→List V→Option β),Hu P A C L f n m t S x y (enc i) k=body i β (fun r=>k (lR i r).1 (lR i r).2))
  (hl: ∀(β:Type) ds (k:Nat→List V→Option β),L β (t*16+15) ds k=body (de ds) β (fun r=>k (lR (de ds) r).1 (lR (de ds) r).2)):
  cv P A C L f n m (.cond t x y):=by
 simp only[cv,hS]
 intro β ds k
 rw[hl,←e1]
 unfold Hu xT
 rw[ti]
 simp only
 have hk: ∀(z:Option (Out × St)),(z.bind fun r=>(match r.1 with
   | .norm=>(ways m 0 S.2 (.norm,canon m (A.join f t) r.2)).bind fun e=>k e.1 e.2
   | o=>(ways m 0 S.2 (o,r.2)).bind fun e=>k e.1 e.2))=((z.bind fun r=>
   match r.1 with
   | .norm=>some (Out.norm,canon m (A.join f t) r.2)
   | _=>some r).bind fun r=>ways m 0 S.2 r).bind fun r=>k r.1 r.2:=by
  intro z
  cases z with
  | none=>rfl
  | some r=>obtain ⟨o,st⟩:=r;cases o<;>rfl
 cases (bd S.1 ds).sl t with
 | bool b=>
  cases b with
  | true=>simp only[cond_true,BH P A C f n m x hx];exact hk _
  | false=>simp only[cond_false,BH P A C f n m y hy];exact hk _
 | _=>rfl
theorem bG {b:cu} {l:List cu} (h:cv P A C L f n m b) (U:mO P A C L f n m l):mO P A C L f n m (b::l):=⟨h,U⟩
theorem av:mO P A C L f n m []:=trivial
theorem a9 {key:Nat} {bs:List cu} (hb:oV A key (cJ P (A.aY key))=bs) (ht:mO P A (Call P A) L key (cM P (A.aY key)) (A.sin key).a8.length bs) {ds:List V} {r:Option (List V)}
  (h:FJ P A (Call P A) L key ds=r):Call P A key ds=r:=by
 rw[Xn,T4 P A (Call P A) key (bf hb ht),h]
end
inductive LK where
 | int (k:IntKind)
 | bool
 | str
 | list (e:TypeId)
 | nat
def LK.Ty:LK→Type
 | .int _=>Int
 | .bool=>Bool
 | .str=>List UInt8
 | .list _=>List V
 | .nat=>Nat
def LK.enc:(k:LK)→k.Ty→V
 | .int k,n=> .int k n
 | .bool,b=> .bool b
 | .str,s=> .str s
 | .list e,l=> .list e l
 | .nat,n=>dN n
def LK.dec:(k:LK)→V→k.Ty
 | .int _,v=>v.toInt
 | .bool,v=>v.toBool
 | .str,v=>v.toStr
 | .list _,v=>v.toList
 | .nat,v=>j6 v
theorem LK.N4: ∀(k:LK) (x:k.Ty),k.dec (k.enc x)=x
 | .int _,_=>rfl
 | .bool,_=>rfl
 | .str,_=>rfl
 | .list _,_=>rfl
 | .nat,_=>rfl
def Hv:List Nat→List LK
 | []=>[]
 | _::l=> .nat::Hv l
def LS.ks:LS→List LK
 | .int k=>[.int k]
 | .bool=>[.bool]
 | .str=>[.str]
 | .list e=>[.list e]
 | .sub .. =>[.nat,.nat]
 | .ptr _=>[.nat,.nat]
 | .row _ _ cs=>Hv cs
 | .cm _ cs _=> .nat::Hv cs
 | _=>[]
def vA:List LS→List LK
 | []=>[]
 | l::ls=>l.ks++vA ls
def VS.ks:VS→List LK
 | .one l=>l.ks
 | .agg ls=>vA ls
 | .aX ls=>vA ls
 | .fn _ a b=>vA a++vA b
 | .pref _ ls=>vA ls
def N5:List VS→List LK
 | []=>[]
 | l::ls=>l.ks++N5 ls
def BS.ks:BS→List LK
 | .var _ cs=>N5 cs
 | .arr e _=>[.list e]
 | .nest e=>[.list e]
 | .dead=>[]
 | .map t=>[.list t]
def N6:List (Nat × VS)→List LK
 | []=>[]
 | p::l=>p.2.ks++N6 l
def N7:List BS→List LK
 | []=>[]
 | b::l=>b.ks++N7 l
def Shape.ks (S:Shape):List LK:=N6 S.bI++N7 S.a8
def Hw:List Nat→List V→List V
 | [],_=>[]
 | _::cs,ds=>dN (j6 (V.nth ds 0))::Hw cs (ds.drop 1)
def LS.norm:LS→List V→List V
 | .int k,ds=>[.int k (V.nth ds 0).toInt]
 | .bool,ds=>[.bool (V.nth ds 0).toBool]
 | .str,ds=>[.str (V.nth ds 0).toStr]
 | .list e,ds=>[.list e (V.nth ds 0).toList]
 | .sub ..,ds=>[dN (j6 (V.nth ds 0)),dN (j6 (V.nth ds 1))]
 | .ptr _,ds=>[dN (j6 (V.nth ds 0)),dN (j6 (V.nth ds 1))]
 | .row _ _ cs,ds=>Hw cs ds
 | .cm _ cs _,ds=>dN (j6 (V.nth ds 0))::Hw cs (ds.drop 1)
 | _,_=>[]
def vB:List LS→List V→List V
 | [],_=>[]
 | l::ls,ds=>l.norm ds++vB ls (ds.drop l.size)
def VS.norm:VS→List V→List V
 | .one l,ds=>l.norm ds
 | .agg ls,ds=>vB ls ds
 | .aX ls,ds=>vB ls ds
 | .fn _ a b,ds=>vB a ds++vB b (ds.drop (jC a))
 | .pref _ ls,ds=>vB ls ds
def N8:List VS→List V→List V
 | [],_=>[]
 | l::ls,ds=>l.norm ds++N8 ls (ds.drop l.size)
def BS.norm:BS→List V→List V
 | .var _ cs,ds=>N8 cs ds
 | .arr e _,ds=>[.list e (V.nth ds 0).toList]
 | .nest e,ds=>[.list e (V.nth ds 0).toList]
 | .dead,_=>[]
 | .map t,ds=>[.list t (V.nth ds 0).toList]
def N9:List (Nat × VS)→List V→List V
 | [],_=>[]
 | p::l,ds=>p.2.norm ds++N9 l (ds.drop p.2.size)
def Oa:List BS→List V→List V
 | [],_=>[]
 | b::l,ds=>b.norm ds++Oa l (ds.drop b.size)
def Shape.norm (S:Shape) (ds:List V):List V:=N9 S.bI ds++Oa S.a8 (ds.drop (nw S.bI))
def tj:LK→List LK→Type
 | k,[]=>k.Ty
 | k,k'::ks=>k.Ty × tj k' ks
def jN:List LK→Type
 | []=>Unit
 | k::ks=>tj k ks
def tk:(k:LK)→(ks:List LK)→tj k ks→List V
 | k,[],x=>[k.enc x]
 | k,k'::ks,x=>k.enc x.1::tk k' ks x.2
def kp:(ks:List LK)→jN ks→List V
 | [],_=>[]
 | k::ks,x=>tk k ks x
def yZ:(k:LK)→(ks:List LK)→List V→tj k ks
 | k,[],l=>k.dec (V.nth l 0)
 | k,k'::ks,l=>(k.dec (V.nth l 0),yZ k' ks l.tail)
def nT:(ks:List LK)→List V→jN ks
 | [],_=>()
 | k::ks,l=>yZ k ks l
theorem Ob: ∀(k:LK) (ks:List LK) (x:tj k ks) (r:List V),yZ k ks (tk k ks x++r)=x
 | k,[],x,r=>LK.N4 k x
 | k,k'::ks,x,r=>by
  show (k.dec (k.enc x.1),yZ k' ks (tk k' ks x.2++r))=x
  rw[LK.N4,Ob k' ks]
  rfl
def vC:List LK→Type 1→Type 1
 | [],R=>R
 | k::ks,R=>k.Ty→vC ks R
def Oc:(k:LK)→(ks:List LK)→{R:Type 1}→vC (k::ks) R→tj k ks→R
 | _,[],_,f,x=>f x
 | _,k'::ks,_,f,x=>Oc k' ks (f x.1) x.2
def tm:(ks:List LK)→{R:Type 1}→vC ks R→jN ks→R
 | [],_,f,_=>f
 | k::ks,_,f,x=>Oc k ks f x
def vD {α:Type} (b:Bool):List Bool→List α→List α
 | [],_=>[]
 | _,[]=>[]
 | c::m,x::l=>bif c==b then x::vD b m l else vD b m l
def merge:List Bool→List V→List V→List V
 | [],_,_=>[]
 | true::m,i,x=>V.nth x 0::merge m i x.tail
 | false::m,i,x=>V.nth i 0::merge m i.tail x
def vE:List Nat→List LK→List LK
 | [],_=>[]
 | _,[]=>[]
 | 0::t,k::ks=>k::vE t ks
 | (_+1)::t,_::ks=>vE t ks
abbrev fa:=List Nat × List LK
def fa.fresh (w:fa):List LK:=vE w.1 w.2
def put:List Nat→List V→List V→List V
 | [],_,_=>[]
 | 0::t,ds,x=>V.nth x 0::put t ds x.tail
 | (j+1)::t,ds,x=>V.nth ds j::put t ds x
def tn:List Nat→List V→List V
 | [],_=>[]
 | 0::t,l=>V.nth l 0::tn t l.tail
 | (_+1)::t,l=>tn t l.tail
def ry:fa→List fa→Type
 | w,[]=>jN w.fresh
 | w,w'::ws=>jN w.fresh ⊕ ry w' ws
def qi:List fa→Type
 | []=>Empty
 | w::ws=>ry w ws
def wN (ds:List V) {β:Type} (k:Nat→List V→Option β):Nat→(w:fa)→(ws:List fa)→ry w ws→Option β
 | j,w,[],r=>k j (put w.1 ds (kp w.fresh r))
 | j,w,w'::ws,r=>bY (fun x=>k j (put w.1 ds (kp w.fresh x))) (fun y=>wN ds k (j+1) w' ws y) r
def wT (ds:List V) {β:Type} (k:Nat→List V→Option β):(ws:List fa)→qi ws→Option β
 | [],r=>Empty.elim r
 | w::ws,r=>wN ds k 0 w ws r
def nU (ds:List V):Nat→(w:fa)→(ws:List fa)→ry w ws→Nat × List V
 | j,w,[],r=>(j,put w.1 ds (kp w.fresh r))
 | j,w,_::_,.inl x=>(j,put w.1 ds (kp w.fresh x))
 | j,_,w'::ws,.inr y=>nU ds (j+1) w' ws y
def vF (ds:List V):(ws:List fa)→qi ws→Nat × List V
 | [],r=>Empty.elim r
 | w::ws,r=>nU ds 0 w ws r
theorem Od (ds:List V) {β:Type} (k:Nat→List V→Option β): ∀(j:Nat) (w:fa) (ws:List fa) (r:ry w ws),wN ds k j w ws r=k (nU ds j w ws r).1 (nU ds j w ws r).2
 | _,_,[],_=>rfl
 | _,_,_::_,.inl _=>rfl
 | j,_,w'::ws,.inr y=>Od ds k (j+1) w' ws y
theorem C9 (ds:List V) {β:Type} (k:Nat→List V→Option β): ∀(ws:List fa) (r:qi ws),wT ds k ws r=k (vF ds ws r).1 (vF ds ws r).2
 | [],r=>Empty.elim r
 | w::ws,r=>Od ds k 0 w ws r
def vG:Nat→(w:fa)→(ws:List fa)→List V→ry w ws
 | _,w,[],l=>nT w.fresh (tn w.1 l)
 | 0,w,_::_,l=> .inl (nT w.fresh (tn w.1 l))
 | j+1,_,w'::ws,l=> .inr (vG j w' ws l)
def Oe (j:Nat):(ws:List fa)→List V→Option (qi ws)
 | [],_=>none
 | w::ws,l=>some (vG j w ws l)
def vH:List Nat→List V→List V
 | [],_=>[]
 | 0::t,x=>V.nth x 0::vH t x.tail
 | (_+1)::t,x=>vH t x
theorem Hy: ∀(t:List Nat) (ds x:List V),tn t (put t ds x)=vH t x
 | [],_,_=>rfl
 | 0::t,ds,x=>congrArg (V.nth x 0:: ·) (Hy t ds x.tail)
 | (_+1)::t,ds,x=>Hy t ds x
theorem Hz: ∀(t:List Nat) (ks:List LK) (k:LK) (bC:List LK),vE t ks=k::bC→∀x:tj k bC,∃r,vH t (tk k bC x)=tk k bC x++r
 | [],_,_,_,h,_=>by cases h
 | _::_,[],_,_,h,_=>by simp[vE] at h
 | 0::t,a::ks,k,bC,h,x=>by
  simp only[vE,List.cons.injEq] at h
  obtain ⟨rfl,U⟩:=h
  cases bC with
  | nil=>exact ⟨vH t [],rfl⟩
  | cons k' bC=>
   obtain ⟨r,hr⟩:=Hz t ks k' bC U x.2
   exact ⟨r,congrArg (a.enc x.1:: ·) hr⟩
 | (_+1)::t,a::ks,k,bC,h,x=>Hz t ks k bC h x
theorem Of (w:fa) (ds:List V) (x:jN w.fresh):nT w.fresh (tn w.1 (put w.1 ds (kp w.fresh x)))=x:=by
 rw[Hy]
 revert x
 generalize hf:w.fresh=f
 cases f with
 | nil=>intro x;rfl
 | cons k ks=>
  intro x
  obtain ⟨r,hr⟩:=Hz w.1 w.2 k ks hf x
  show yZ k ks (vH w.1 (tk k ks x))=x
  rw[hr]
  exact Ob k ks x r
theorem Og (ds:List V): ∀(j:Nat) (w:fa) (ws:List fa) (r:ry w ws),j≤(nU ds j w ws r).1
 | _,_,[],_=>b6 _
 | _,_,_::_,.inl _=>b6 _
 | j,_,w'::ws,.inr y=>lu (Nat.le_succ j) (Og ds (j+1) w' ws y)
theorem XF (w:fa) (l:List V): ∀j,vG j w [] l=nT w.fresh (tn w.1 l)
 | 0=>rfl
 | _+1=>rfl
theorem Oh (ds:List V): ∀(j:Nat) (w:fa) (ws:List fa) (r:ry w ws),vG ((nU ds j w ws r).1-j) w ws (nU ds j w ws r).2=r
 | j,w,[],r=>(XF w _ _).trans (Of w ds r)
 | j,w,w'::ws,.inl x=>by
  show vG (j-j) w (w'::ws) (put w.1 ds (kp w.fresh x))= .inl x
  rw[Nat.sub_self]
  exact congrArg Sum.inl (Of w ds x)
 | j,w,w'::ws,.inr y=>by
  have h1:=Og ds (j+1) w' ws y
  have U:=Oh ds (j+1) w' ws y
  show vG ((nU ds (j+1) w' ws y).1-j) w (w'::ws) (nU ds (j+1) w' ws y).2= .inr y
  obtain ⟨d,hd⟩: ∃d,(nU ds (j+1) w' ws y).1=j+1+d:=⟨(nU ds (j+1) w' ws y).1-(j+1),by omega⟩
  rw[hd] at U⊢
  rw[show j+1+d-(j+1)=d by omega] at U
  rw[show j+1+d-j=d+1 by omega]
  exact congrArg Sum.inr U
theorem XG (ds:List V): ∀(ws:List fa) (r:qi ws),Oe (vF ds ws r).1 ws (vF ds ws r).2=some r
 | [],r=>Empty.elim r
 | w::ws,r=>congrArg some (Oh ds 0 w ws r)
section
variable {P:Program} {A:ct} {C:ag} {L:cy} {f n m:Nat}
theorem XH {c:Code} {S:Shape × List (Out × Shape)} (hS:A.gL f (keyOf c+1)=some S) (hL:gR P A C L f n m c) {I X R:Type} (enc:I→X→List V) (lR:I→R→Nat × List V)
  (oW:List V→I) (qj:List V→X) (Db:Nat × List V→Option R) (body:I→X→(β:Type)→(X→Option β)→(R→Option β)→Option β)
  (ti: ∀ds,bd S.1 (enc (oW ds) (qj ds))=bd S.1 ds) (HA: ∀i x,qj (enc i x)=x) (XI: ∀i r,Db (lR i r)=some r)
  (e1: ∀i x (β:Type) (k:(List V ⊕ (Nat × List V))→Option β),gQ P A C L f n m c (bd S.1 (enc i x)) (fun o st=>(mA m S.1 S.2 (some (o,st))).bind k)=
   body i x β (fun y=>k (.inl (enc i y))) (fun r=>k (.inr (lR i r))))
  (hl: ∀(β:Type) ds (k:Nat→List V→Option β),L β (keyOf c+1) ds k=(Loop (fun x=>body (oW ds) x (X ⊕ R) (fun y=>some (.inl y)) (fun r=>some (.inr r))) (qj ds)).bind fun r=>k (lR (oW ds) r).1 (lR (oW ds) r).2):
  cv P A C L f n m (.loop c):=by
 simp only[cv,hS]
 intro β ds k
 rw[hl]
 have hex: ∀(z:Option (Out × St)),mA m S.1 S.2 z=z.bind fun r=>mA m S.1 S.2 (some (r.1,r.2)):=by
  intro z;cases z<;>rfl
 have hs: ∀i x,stepG P A C f n m S c (enc i x)=(body i x (X ⊕ R) (fun y=>some (.inl y)) (fun r=>some (.inr r))).map fun| .inl y=> .inl (enc i y)| .inr r=> .inr (lR i r):=by
  intro i x
  have k1:=e1 i x _ (fun z=>some z)
  have k2:=e1 i x (X ⊕ R) (fun| .inl ds=>some (.inl (qj ds))| .inr e=>(Db e).map .inr)
  have k3:=e1 i x (List V ⊕ (Nat × List V)) (fun| .inl ds=>some (.inl (enc i (qj ds)))| .inr e=>(Db e).map fun r=> .inr (lR i r))
  simp only[HA,XI,Option.map_some] at k2 k3
  unfold stepG
  rw[hex]
  rw[BH P A C f n m c hL] at k1 k2 k3
  rw[←k2]
  refine aW ?_ (k1.trans (k3.symm.trans ?_))
  ·congr 1
   funext r
   cases mA m S.1 S.2 (some (r.1,r.2))<;>rfl
  ·cases exec P A C f n m c (bd S.1 (enc i x)) with
   | none=>rfl
   | some r=>
    simp only[Option.bind_some]
    cases mA m S.1 S.2 (some (r.1,r.2)) with
    | none=>rfl
    | some z=>
     cases z with
     | inl _=>rfl
     | inr e=>simp only[Option.bind_some];cases Db e<;>rfl
 have h0:stepG P A C f n m S c ds=stepG P A C f n m S c (enc (oW ds) (qj ds)):=by
  unfold stepG
  rw[ti]
 have:Loop (stepG P A C f n m S c) ds=(Loop (fun x=>body (oW ds) x (X ⊕ R) (fun y=>some (.inl y)) (fun r=>some (.inr r))) (qj ds)).map (lR (oW ds)):=by
  rw[Bj,h0,←Bj]
  exact TZ (enc (oW ds)) (lR (oW ds)) (fun x=>hs _ _) (qj ds)
 rw[this]
 cases Loop (fun x=>body (oW ds) x (X ⊕ R) (fun y=>some (.inl y)) (fun r=>some (.inr r))) (qj ds)<;>rfl
abbrev y4 (S:Shape) (mk:List Bool):List LK:=vD false mk S.ks
abbrev tp (S:Shape) (mk:List Bool):List LK:=vD true mk S.ks
def qk (ts:List (List Nat)) (W:List (Out × Shape)):List fa:=
 match ts,W with
 | t::ts,w::W=>(t,w.2.ks)::qk ts W
 | _,_=>[]
abbrev y5 (S:Shape) (mk:List Bool) (i:jN (y4 S mk)) (x:jN (tp S mk)):List V:=merge mk (kp _ i) (kp _ x)
abbrev HB (S:Shape) (mk:List Bool) (i:jN (y4 S mk)):List V:=merge mk (kp _ i) []
abbrev Dc (S:Shape) (mk:List Bool) (ds:List V):jN (y4 S mk):=nT _ (vD false mk (S.norm ds))
abbrev Dd (S:Shape) (mk:List Bool) (ds:List V):jN (tp S mk):=nT _ (vD true mk (S.norm ds))
abbrev Oi (X R:Type):Type 1:=(β:Type)→(X→Option β)→(R→Option β)→Option β
abbrev HC (S:Shape × List (Out × Shape)) (mk:List Bool) (ts:List (List Nat)):Type 1:=vC (y4 S.1 mk) (vC (tp S.1 mk) (Oi (jN (tp S.1 mk)) (qi (qk ts S.2))))
abbrev HD (S:Shape × List (Out × Shape)) (mk:List Bool) (ts:List (List Nat)) (b:HC S mk ts) (i:jN (y4 S.1 mk)) (x:jN (tp S.1 mk)):Oi (jN (tp S.1 mk)) (qi (qk ts S.2)):=tm _ (tm _ b i) x
noncomputable def cj (S:Shape × List (Out × Shape)) (mk:List Bool) (ts:List (List Nat)) (b:HC S mk ts) {β:Type} (ds:List V) (k:Nat→List V→Option β):Option β:=
 (Loop (fun x=>HD S mk ts b (Dc S.1 mk ds) x (jN (tp S.1 mk) ⊕ qi (qk ts S.2)) (fun y=>some (.inl y)) (fun r=>some (.inr r))) (Dd S.1 mk ds)).bind (wT (HB S.1 mk (Dc S.1 mk ds)) k (qk ts S.2))
theorem cw {c:Code} (S:Shape × List (Out × Shape)) (mk:List Bool) (ts:List (List Nat)) (b:HC S mk ts) (hS:A.gL f (keyOf c+1)=some S) (hL:gR P A C L f n m c)
  (ti: ∀ds,bd S.1 (y5 S.1 mk (Dc S.1 mk ds) (Dd S.1 mk ds))=bd S.1 ds) (HA: ∀i x,Dd S.1 mk (y5 S.1 mk i x)=x)
  (e1: ∀i x (β:Type) (k:(List V ⊕ (Nat × List V))→Option β),gQ P A C L f n m c (bd S.1 (y5 S.1 mk i x)) (fun o st=>(mA m S.1 S.2 (some (o,st))).bind k)=
   HD S mk ts b i x β (fun y=>k (.inl (y5 S.1 mk i y))) (wT (HB S.1 mk i) (fun j l=>k (.inr (j,l))) (qk ts S.2)))
  (hl: ∀(β:Type) ds (k:Nat→List V→Option β),L β (keyOf c+1) ds k=cj S mk ts b ds k):
  cv P A C L f n m (.loop c):=
 XH hS hL (y5 S.1 mk) (fun i r=>vF (HB S.1 mk i) _ r) (Dc S.1 mk) (Dd S.1 mk) (fun e=>Oe e.1 _ e.2) (HD S mk ts b) ti HA (fun i r=>XG _ _ r)
  (fun i x β k=>by
   rw[e1]
   congr 1
   funext r
   exact C9 _ _ _ r)
  (fun β ds k=>by
   rw[hl]
   unfold cj
   congr 1
   funext r
   exact C9 _ _ _ r)
abbrev Oj (S:Shape × List (Out × Shape)) (ts:List (List Nat)):Type 1:=vC S.1.ks ((β:Type)→(qi (qk ts S.2)→Option β)→Option β)
noncomputable def iA (S:Shape × List (Out × Shape)) (ts:List (List Nat)) (b:Oj S ts) {β:Type} (ds:List V) (k:Nat→List V→Option β):Option β:=
 tm S.1.ks b (nT _ (S.1.norm ds)) β (wT (kp S.1.ks (nT _ (S.1.norm ds))) k (qk ts S.2))
theorem iT {t:Nat} {x y:Code} (S:Shape × List (Out × Shape)) (ts:List (List Nat)) (b:Oj S ts) (hS:A.gL f (t*16+15)=some S) (hx:gR P A C L f n m x) (hy:gR P A C L f n m y)
  (ti: ∀ds,bd S.1 (kp S.1.ks (nT _ (S.1.norm ds)))=bd S.1 ds)
  (e1: ∀i (β:Type) (k:Nat→List V→Option β),Hu P A C L f n m t S x y (kp S.1.ks i) k=tm S.1.ks b i β (wT (kp S.1.ks i) k (qk ts S.2)))
  (hl: ∀(β:Type) ds (k:Nat→List V→Option β),L β (t*16+15) ds k=iA S ts b ds k):
  cv P A C L f n m (.cond t x y):=
 XD hS hx hy (kp S.1.ks) (fun i r=>vF (kp S.1.ks i) _ r) (fun ds=>nT _ (S.1.norm ds)) (tm S.1.ks b) ti
  (fun i β k=>by
   rw[e1]
   exact congrArg (tm S.1.ks b i β) (funext fun r=>C9 _ _ _ r))
  (fun β ds k=>by
   rw[hl]
   exact congrArg (tm S.1.ks b (nT _ (S.1.norm ds)) β) (funext fun r=>C9 _ _ _ r))
end
def b9:cy:=fun _ _ _ _=>none
end Go.AM
