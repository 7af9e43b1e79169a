/-
  Functions of the program, lifted to plain data.
-/
import Derived.Conc.MuLone
import Derived.Defers
import Derived.Carry
import Derived.OpenShut
import Derived.Deep.Slices
import Derived.Test.YtmcdbnalaobmpaaDoorP2
set_option linter.unusedVariables false
set_option linter.unusedSimpArgs false
namespace Go.AM
section
variable {P:Program} {A:cU} {w w':World} {I I' I2:Nat→Prop} {μ β av cq:Nat→Option Nat} {hp hp' hp0 bG:Nat→Option aj} {C:ae} {B:Nat} {M:Nat→Prop} {w0:Start}
structure mz (w:World) (I:Nat→Prop) (β:Nat→Option Nat) (hp:Nat→Option aj) (w':World) (I':Nat→Prop) (av:Nat→Option Nat) (hp':Nat→Option aj):Prop where
 dQ: ∀b,I b→I' b
 cB: ∀b,I b→w'.heap[b]? =w.heap[b]?
 blk: ∀id blk,hp id=some blk→∃blk',hp' id=some blk'∧blk.le blk'∧(blk'≠ .dead→av id=β id)
 size: ∀id blk blk' b,hp id=some blk→hp' id=some blk'→blk'≠ .dead→β id=some b→bsize w' b=bsize w b
theorem Le.HL (h:Le P w I β hp w' I' av hp'):mz w I β hp w' I' av hp':=⟨h.dQ,h.cB,h.blk,h.size⟩
theorem mz.trans {BD:World} {BE:Nat→Prop} {BF:Nat→Option Nat} {BG:Nat→Option aj} (h1:mz w I β hp w' I' av hp') (h2:mz w' I' av hp' BD BE BF BG):mz w I β hp BD BE BF BG:=by
 refine ⟨fun b h=>h2.dQ b (h1.dQ b h),fun b h=>(h2.cB b (h1.dQ b h)).trans (h1.cB b h),fun id blk h=> ?_,fun id blk vR b h uB hd hb=> ?_⟩
 ·obtain ⟨blk',e',l',b'⟩:=h1.blk id blk h
  obtain ⟨vR,eH,BH,Lm⟩:=h2.blk id blk' e'
  refine ⟨vR,eH,aj.le_trans l' BH,fun hd=> ?_⟩
  have fJ:blk'≠ .dead:=fun e=>hd (aj.qD (e▸BH))
  exact (Lm hd).trans (b' fJ)
 ·obtain ⟨blk',e',l',b'⟩:=h1.blk id blk h
  obtain ⟨iT,e3,l3,b3⟩:=h2.blk id blk' e'
  obtain rfl:iT=vR:=by rw[e3] at uB;exact dq uB
  have fJ:blk'≠ .dead:=fun e=>hd (aj.qD (e▸l3))
  rw[h2.size id blk' iT b e' e3 hd ((b' fJ).trans hb),h1.size id blk blk' b h e' fJ hb]
def pZ (P:Program) (w:World) (μ:Nat→Option Nat) (hp0:Nat→Option aj) (b:Nat):Prop:= ∃j blk,hp0 j=some blk∧bL P w (μ j) blk b
structure aem (P:Program) (A:cU) (key:Nat) (w:World) (I:Nat→Prop) (μ:Nat→Option Nat) (ds es:List V) (w':World) (v:Value) (I2:Nat→Prop) (cq:Nat→Option Nat):Prop where
 yX:aI P w' I2 cq (bB (A.so key es) (A.lv key es)).hp w.heap.size (pZ P w μ (bB (A.sin key) ds).hp) ⟨w,I⟩
 le:mz w I μ (bB (A.sin key) ds).hp w' I2 cq (bB (A.so key es) (A.lv key es)).hp
 res:an P w' I2 cq (bB (A.so key es) (A.lv key es)).hp v (qB (gm (A.so key es).bQ (A.lv key es)))
def mA (P:Program) (A:cU) (C:ae):Prop:=
 ∀key ds es,C key ds=some es→∃fn c,P.funcs[A.aU key]? =some fn∧fn.body=some c∧
  ∀(w:World) (I:Nat→Prop) (μ:Nat→Option Nat) (vals:List Value),
   vQ P w I μ (bB (A.sin key) ds).hp w.heap.size (pZ P w μ (bB (A.sin key) ds).hp)→iU P A.aG w I→
   vals.length=(A.sin key).bQ.length→(∀(j:Nat) v x,vals[j]? =some v→(gC ((A.sin key).bQ.map (·.2)) ds)[j]? =some x→an P w I μ (bB (A.sin key) ds).hp v x)→
   Calls P (A.aU key) vals.toArray w fun e w'=> ∃v I2 cq,e= .returned v∧aem P A key w I μ ds es w' v I2 cq
theorem e7.wv {p:Place} {o:Option Nat} {blk:aj} {b:Nat} (h:e7 P w β hp p o blk) (ho:bL P w o blk b):
  ∃sJ,hp p.id=some sJ∧bL P w (β p.id) sJ b∧∀e es,sJ≠ .arr e es true:=by
 cases h with
 | var h=>exact ⟨_,h,.root (by simp) (ho.flat (by simp)),by simp⟩
 | arr h=>exact ⟨_,h,.root (by simp) (ho.flat (by simp)),by simp⟩
 | map h=>exact ⟨_,h,.root (by simp) (ho.flat (by simp)),by simp⟩
 | nest h=>
  refine ⟨_,h,?_,by simp⟩
  cases ho with
  | root _ hb=>exact .root (by simp) hb
  | row hb ha=>exact .row hb ha
 | row h hb ha _ _ _ _ _=>
  have:=ho.flat (by simp)
  cases this
  exact ⟨_,h,.row hb ha,by simp⟩
theorem aI.aen (S:aI P w I β hp B M w0) {id b:Nat} {blk:aj} (af:hp id=some blk) (ho:bL P w (β id) blk b) (hf: ∀e es,blk≠ .arr e es true): ¬I b:=by
 have hr:=S.h.rel id blk af
 generalize β id=o at hr ho
 cases hr with
 | var hb _ _ hI _ _=>have:=ho.flat (by simp);rw[hb] at this;cases this;exact hI
 | eK hb=>have:=ho.flat (by simp);rw[hb] at this;cases this
 | @arr e es fz _ _ _ hb _ _ _ fi _=>
  have:=ho.flat (by simp)
  rw[hb] at this;cases this
  cases fz with
  | true=>exact absurd rfl (hf e es)
  | false=>exact fi rfl
 | dead=>exact absurd rfl ho.alive
 | map _ hb _ _ hI _ _=>have:=ho.flat (by simp);rw[hb] at this;cases this;exact hI
 | nest hb hr _=>
  cases ho with
  | root _ aB=>rw[hb] at aB;cases aB;exact (hr _ _ _ _ .here).nI
  | row aB ha=>rw[hb] at aB;cases aB;exact (hr _ _ _ _ ha).nI
theorem HM {a b:List Nat} (h:yi a b=false) {x:Nat} (ha:x∈a):x∉b:=by
 intro hb
 unfold yi at h
 rw[List.any_eq_false] at h
 exact h x ha (yH hb)
theorem aeo (S:aI P w I β hp B M w0) {pl:List Place} {upd:List (Nat × aj)} {o:Nat→Option Nat} (lU:(pl.map Place.id).Nodup) (wx:yi (upd.map (·.1)) (pl.map Place.id)=false)
  (hl: ∀j blk,hp0 j=some blk→∃p,fg pl j=some p∧e7 P w β hp p (o j) blk)
  (cW:(∀j blk,hp0 j=some blk→∀b,bL P w (o j) blk b→¬jR P w I β hp upd b)→∀j blk,hp0 j=some blk→e6 P w (jR P w I β hp upd) o hp0 (o j) blk) (aX: ∀b,jR P w I β hp upd b→b<w.heap.size):
  vQ P w (jR P w I β hp upd) o hp0 w.heap.size (pZ P w o hp0):=by
 have dh: ∀j blk,hp0 j=some blk→∀b,bL P w (o j) blk b→¬jR P w I β hp upd b:=by
  intro j blk hj b ho hI
  obtain ⟨p,bG,iW⟩:=hl j blk hj
  obtain ⟨sJ,k1,k2,k3⟩:=iW.wv ho
  rcases hI with hI|⟨q,hq,cm,q1,q2⟩
  ·exact S.aen k1 k2 k3 hI
  ·have:=S.h.inj _ _ _ _ b q1 k1 q2 k2
   refine HM wx (fE.2 ⟨q,hq,rfl⟩) ?_
   rw[this]
   rw[nf] at bG
   exact fE.2 ⟨p,kh bG,rfl⟩
 refine ⟨cW dh,fun j1 j2 b1 b2 b h1 h2 o1 o2=> ?_,fun j blk b h1 o1=> .inl ⟨j,blk,h1,o1⟩,aX⟩
 obtain ⟨p1,q1,q2⟩:=hl j1 b1 h1
 obtain ⟨p2,r1,r2⟩:=hl j2 b2 h2
 obtain ⟨c1,x1,x2,_⟩:=q2.wv o1
 obtain ⟨c2,y1,y2,_⟩:=r2.wv o2
 have af:=S.h.inj _ _ _ _ b x1 y1 x2 y2
 rw[nf] at q1 r1
 have m1:(pl.map Place.id)[j1]? =some p1.id:=by rw[fF,q1];rfl
 have m2:(pl.map Place.id)[j2]? =some p2.id:=by rw[fF,r1];rfl
 rw[←af] at m2
 obtain ⟨z1,z2⟩:=bE.1 m1
 obtain ⟨z3,z4⟩:=bE.1 m2
 exact (List.getElem_inj lU).1 (z2.trans z4.symm)
def Ul:V→Prop
 | .list .. =>False
 | .pref .. =>False
 | .agg _=>False
 | .bw _=>False
 | .fn .. =>False
 | _=>True
theorem an.free {v:Value} {x:V} (h:an P w I β hp v x) (hx:Ul x):an P w I' β hp v x:=by
 cases h with
 | undef=>exact .undef
 | int=>exact .int
 | bool=>exact .bool
 | str h=>exact .str h
 | list h=>exact hx.elim
 | nilS=>exact .nilS
 | agg=>exact hx.elim
 | bw=>exact hx.elim
 | eb=>exact .eb
 | fn=>exact hx.elim
 | pref=>exact hx.elim
 | fh h=>exact .fh h
 | ij h=>exact .ij h
 | lM h=>exact .lM h
 | eJ h hb=>exact .eJ h hb
 | whole h hb a b c=>exact .whole h hb a b c
 | fp h hb a b c=>exact .fp h hb a b c
 | g9 h hb=>exact .g9 h hb
 | sub h hb a b c=>exact .sub h hb a b c
 | ptr h hd hb=>exact .ptr h hd hb
 | kQ h sD=>exact .kQ h sD
 | kR h sD=>exact .kR h sD
 | row h hb a b c d=>exact .row h hb a b c d
 | cS h hb a b c d e=>exact .cS h hb a b c d e
 | ed=>exact .ed
 | js h=>exact .js h
 | cb h hb=>exact .cb h hb
theorem Cm {l:LS} {ds:List V} (hs:l.safe=true):Ul (jL l ds):=by
 cases l<;>simp only[LS.safe] at hs<;>first|(cases hs;done)|trivial
theorem Cn: ∀{ls:List LS} {ds:List V} {j:Nat} {y:V},(jk ls ds)[j]? =some y→∃l gr,l∈ls∧y=jL l gr
 | [],ds,j,y,h=>by simp[jk] at h
 | l::ls,ds,j,y,h=>by
  simp only[jk] at h
  cases j with
  | zero=>simp at h;exact ⟨l,ds,uh ..,h.symm⟩
  | succ j=>
   obtain ⟨l',gr,h1,h2⟩:=Cn (j:=j) (by simpa using h)
   exact ⟨l',gr,nJ _ h1,h2⟩
theorem Um: ∀{ls:List VS} {ds:List V} {j:Nat} {y:V},(gC ls ds)[j]? =some y→∃l gr,l∈ls∧y=ml l gr
 | [],ds,j,y,h=>by simp[gC] at h
 | l::ls,ds,j,y,h=>by
  simp only[gC] at h
  cases j with
  | zero=>simp at h;exact ⟨l,ds,uh ..,h.symm⟩
  | succ j=>
   obtain ⟨l',gr,h1,h2⟩:=Um (j:=j) (by simpa using h)
   exact ⟨l',gr,nJ _ h1,h2⟩
theorem Un {s:VS} {ds:List V} {v:Value} (h:an P w I β hp v (ml s ds)) (hs:s.safe=true):an P w I' β hp v (ml s ds):=by
 cases s with
 | one l=>exact h.free (Cm hs)
 | agg ls=>
  simp only[ml] at h⊢
  obtain ⟨cs,rfl,e1,e2⟩:=h.mr
  refine .agg e1 fun j v x hj hx=> ?_
  obtain ⟨l,gr,k1,rfl⟩:=Cn hx
  exact (e2 j v _ hj hx).free (Cm (gl.1 hs l k1))
 | bw ls=>
  simp only[ml] at h⊢
  obtain ⟨cs,rfl,e1,e2⟩:=h.vY
  refine .bw e1 fun j v x hj hx=> ?_
  obtain ⟨l,gr,k1,rfl⟩:=Cn hx
  exact (e2 j v _ hj hx).free (Cm (gl.1 hs l k1))
 | fn f a b=>
  simp only[VS.safe,aL] at hs
  simp only[ml] at h⊢
  cases h with
  | fn a1 a2 b1 b2=>
   refine .fn a1 (fun j v x hj hx=> ?_) b1 (fun j v x hj hx=> ?_)
   ·obtain ⟨l,gr,k1,rfl⟩:=Cn hx
    exact (a2 j v _ hj hx).free (Cm (gl.1 hs.1 l k1))
   ·obtain ⟨l,gr,k1,rfl⟩:=Cn hx
    exact (b2 j v _ hj hx).free (Cm (gl.1 hs.2 l k1))
 | pref ts ls=>cases hs
theorem Pure.scalar {t:TypeId} {v:Value} {x:V} (h:Pure P w I t v x) (hn: ∀e,P.underlying t≠some (.slice e)):Pure P w I' t v x:=by
 cases h with
 | int h=>exact .int h
 | bool h=>exact .bool h
 | str h hl=>exact .str h hl
 | nil h=>exact absurd h (hn _)
 | emp h=>exact absurd h (hn _)
 | list g h=>exact absurd h (hn _)
theorem aep {e t:TypeId} {j:Nat} (h:Bo P e=true) (ht:(a8 P e)[j]? =some t) (e':TypeId):P.underlying t≠some (.slice e'):=by
 intro hu
 have h2:=gl.1 h t (kh ht)
 rw[hu] at h2
 cases h2
theorem aeq {o:Option Nat} {b:BS} {ds:List V} (h:e6 P w I2 β hp o (gW b ds)) (hs:b.safe P=true) (hi: ∀b,I b→I2 b):e6 P w I β hp o (gW b ds):=by
 cases b with
 | dead=>exact .dead
 | var T0 ls=>
  simp only[gW] at h⊢
  cases h with
  | var hb hh a9 hI hx il=>
   refine .var hb hh a9 (fun h=>hI (hi _ h)) (fun j v x hj cP=> ?_) il
   obtain ⟨l,gr,k1,rfl⟩:=Um cP
   exact Un (hx j v _ hj cP) (gl.1 hs l k1)
 | arr e fz=>
  simp only[BS.safe,aL,oL] at hs
  obtain ⟨rfl,Cl⟩:=hs
  simp only[gW] at h⊢
  generalize (V.nth ds 0).toList=es at h⊢
  cases h with
  | eK hb=>exact .eK hb
  | arr a1 a2 a3 a4 a5 a6 a7=>
   refine .arr a1 a2 a3 a4 (fun h=>by cases h) (fun _ h=>a6 rfl (hi _ h)) fun i j x t' y1 y2 y3=> ?_
   obtain ⟨v,z1,z2⟩:=a7 i j x t' y1 y2 y3
   exact ⟨v,z1,z2.scalar (aep Cl y2)⟩
 | nest e=>
  simp only[gW] at h⊢
  generalize (V.nth ds 0).toList=es at h⊢
  cases h with
  | nest hb cK pS=>
   refine .nest hb (fun q b' e1 m1 hq=> ?_) pS
   obtain ⟨ok,⟨Ca,c1,c2,c3⟩,nI⟩:=cK q b' e1 m1 hq
   refine ⟨ok,⟨Ca,c1,c2,fun i j x t' y1 y2 y3=> ?_⟩,fun h=>nI (hi _ h)⟩
   obtain ⟨v,z1,z2⟩:=c3 i j x t' y1 y2 y3
   refine ⟨v,z1,?_⟩
   generalize bW P e1 x j=y at z2⊢
   cases z2 with
   | gZ a p=>
    refine .gZ a (p.scalar fun e hu=> ?_)
    unfold gV at a
    rw[hu] at a
    cases a
   | emp a b=>exact .emp a b
   | row a b c d e=>exact .row a b c d e
 | map t=>
  simp only[gW] at h⊢
  cases h with
  | map a1 a2 a3 a4 a5 a6 a7=>exact .map a1 a2 a3 a4 (fun h=>a5 (hi _ h)) a6 a7
theorem Mx: ∀{l:List BS} {ds:List V} {j:Nat} {y:aj},(fI l ds)[j]? =some y→∃b gr,l[j]? =some b∧y=gW b gr
 | [],ds,j,y,h=>by simp[fI] at h
 | b::l,ds,j,y,h=>by
  simp only[fI] at h
  cases j with
  | zero=>simp at h;exact ⟨b,ds,rfl,h.symm⟩
  | succ j=>
   obtain ⟨b',gr,h1,h2⟩:=Mx (j:=j) (by simpa using h)
   exact ⟨b',gr,by simpa using h1,h2⟩
theorem Uo: ∀{l:List (Nat × VS)} {ds:List V} {q:Nat × V},q∈gm l ds→∃s gr,(q.1,s)∈l∧q.2=ml s gr
 | [],ds,q,h=>by simp[gm] at h
 | (k,s)::l,ds,q,h=>by
  simp only[gm,gT] at h
  rcases h with h|h
  ·subst h;exact ⟨s,ds,uh ..,rfl⟩
  ·obtain ⟨s',gr,h1,h2⟩:=Uo h
   exact ⟨s',gr,nJ _ h1,h2⟩
theorem aer {S:Shape} {es:List V} (hs:S.safe P=true) (hi: ∀b,I b→I2 b) {N:Nat→Prop} {st:Start} (h:aI P w' I2 cq (bB S es).hp B N st) (h0: ∀b,I b→st.I b):
  aI P w' I cq (bB S es).hp B N st∧∀v,an P w' I2 cq (bB S es).hp v (qB (gm S.bQ es))→an P w' I cq (bB S es).hp v (qB (gm S.bQ es)):=by
 unfold Shape.safe at hs
 simp only[aL] at hs
 obtain ⟨kT,n9⟩:=hs
 have one: ∀q∈gm S.bQ es,∀v,an P w' I2 cq (bB S es).hp v q.2→an P w' I cq (bB S es).hp v q.2:=by
  intro q hq v hv
  obtain ⟨s,gr,k1,k2⟩:=Uo hq
  rw[k2] at hv⊢
  exact Un hv (gl.1 kT _ k1)
 refine ⟨⟨⟨fun j blk hj=> ?_,h.h.inj,h.h.own,fun b hb=>h.h.kS b (hi b hb)⟩,h.cB,h.size,fun b hb=> .inl (h0 b hb),h.io⟩,fun v hv=> ?_⟩
 ·have hr:=h.h.rel j blk hj
  have hG:=hj
  simp only[bB,mk,ja] at hG
  obtain ⟨b,gr,k1,rfl⟩:=Mx hG
  exact aeq hr (gl.1 n9 _ (kh k1)) hi
 ·generalize gm S.bQ es=l at one hv⊢
  match l,one,hv with
  | [],_,hv=>
   simp only[qB,List.map_nil] at hv⊢
   obtain ⟨cs,rfl,e1,e2⟩:=hv.vY
   exact .bw e1 fun j v x _ hx=>by simp at hx
  | [q],one,hv=>exact one q (iO.2 rfl) v hv
  | q::q2::l,one,hv=>
   simp only[qB] at hv⊢
   obtain ⟨cs,rfl,e1,e2⟩:=hv.vY
   refine .bw e1 fun j v x hj hx=> ?_
   obtain ⟨y,hy,rfl⟩:=fE.1 (kh hx)
   exact one y hy v (e2 j v _ hj hx)
end
section
variable {P:Program} {A:cU} {w w':World} {I I' I2:Nat→Prop} {μ β av cq:Nat→Option Nat} {hp hp' hp0 bG:Nat→Option aj} {C:ae} {B:Nat} {M:Nat→Prop} {w0:Start}
inductive iu (σ:List Place):aj→aj→Prop
 | dead:iu σ .dead .dead
 | var {T:TypeId} {cs:List V}:iu σ (.var T cs) (.var T (cs.map (GP σ)))
 | arr {e:TypeId} {es:List V} {fz:Bool}:iu σ (.arr e es fz) (.arr e es fz)
 | nest {e:TypeId} {es:List V} {v1 v2:List Nat}:iu σ (.nest e es v1) (.nest e es v2)
 | map {t:TypeId} {es:List V}:iu σ (.map t es) (.map t es)
theorem iu.of (σ:List Place) (b:aj):iu σ b (vI σ b):=by
 cases b with
 | dead=>exact .dead
 | var T cs=>exact .var
 | arr e es fz=>exact .arr
 | nest e es v=>exact .nest
 | map t es=>exact .map
theorem Up {σ:List Place}: ∀{pl:List Place} {bs:List aj} {acc:List (Nat × aj)} {k:List (Nat × aj)→Rd R} {r:R} {rd:List Nat},(sa σ pl bs acc k).run C hp=some (r,rd)→
  pl.length≤bs.length∧∃bk fS,(k bk).run C hp=some (r,fS)∧(∀q∈bk,q∈acc∨∃(j:Nat) (b:aj),pl[j]? =some (.blk q.1)∧bs[j]? =some b∧iu σ b q.2∧((∃e es v2,q.2= .nest e es v2)→∃e es ao e' aQ,hp q.1=some (.nest e es ao)∧q.2= .nest e' aQ (ao.map (· +1))))∧
   (∀q∈acc,q∈bk)∧∀(j:Nat) p,pl[j]? =some p→∃id b,p= .blk id∧(id,b)∈bk
 | [],bs,acc,k,r,rd,h=>⟨jG _,acc,rd,by simpa only[sa] using h,fun q hq=> .inl hq,fun q hq=>hq,fun j p hp=>by simp at hp⟩
 | .row _ _ _::pl,bs,acc,k,r,rd,h=>by
  cases bs<;>(simp only[sa] at h;cases h)
 | .blk id::pl,[],acc,k,r,rd,h=>by simp only[sa] at h;cases h
 | .blk id::pl,b::bs,acc,k,r,rd,h=>by
  have fin: ∀{b2:aj} {kE:List Nat},(sa σ pl bs ((id,b2)::acc) k).run C hp=some (r,kE)→iu σ b b2→((∃e es v2,b2= .nest e es v2)→∃e es ao e' aQ,hp id=some (.nest e es ao)∧b2= .nest e' aQ (ao.map (· +1)))→
    (Place.blk id::pl).length≤(b::bs).length∧∃bk fS,(k bk).run C hp=some (r,fS)∧(∀q∈bk,q∈acc∨∃(j:Nat) (b':aj),(Place.blk id::pl)[j]? =some (.blk q.1)∧(b::bs)[j]? =some b'∧iu σ b' q.2∧((∃e es v2,q.2= .nest e es v2)→∃e es ao e' aQ,hp q.1=some (.nest e es ao)∧q.2= .nest e' aQ (ao.map (· +1))))∧
     (∀q∈acc,q∈bk)∧∀(j:Nat) p,(Place.blk id::pl)[j]? =some p→∃id b,p= .blk id∧(id,b)∈bk:=by
   intro b2 kE h1 hb hn
   obtain ⟨a0,bk,fS,a1,a2,a3,a4⟩:=Up h1
   refine ⟨by simp only[List.length_cons];omega,bk,fS,a1,fun q hq=> ?_,fun q hq=>a3 q (nJ _ hq),fun j p hj=> ?_⟩
   ·rcases a2 q hq with h|⟨j,b',k1,k2,k3,k4⟩
    ·rcases gT.1 h with e|h
     ·subst e;exact .inr ⟨0,b,rfl,rfl,hb,hn⟩
     ·exact .inl h
    ·exact .inr ⟨j+1,b',by simpa using k1,by simpa using k2,k3,k4⟩
   ·cases j with
    | zero=>simp at hj;subst hj;exact ⟨id,b2,rfl,a3 _ (uh ..)⟩
    | succ j=>exact a4 j p (by simpa using hj)
  cases b with
  | nest e es v=>
   simp only[sa] at h
   obtain ⟨l,h⟩:=run_get h
   cases af:hp id with
   | none=>rw[af] at h;cases h
   | some blk=>
    rw[af] at h
    cases blk with
    | nest e0 Ln ao=>exact fin h .nest fun _=>⟨e0,Ln,ao,e,es,af,rfl⟩
    | _=>cases h
  | dead=>exact fin h (.of σ _) fun ⟨_,_,_,h⟩=>by cases h
  | var T cs=>exact fin h (.of σ _) fun ⟨_,_,_,h⟩=>by cases h
  | arr e es fz=>exact fin h (.of σ _) fun ⟨_,_,_,h⟩=>by cases h
  | map t es=>exact fin h (.of σ _) fun ⟨_,_,_,h⟩=>by cases h
theorem Uq {σ:List Place}: ∀{bs:List aj} {n:Nat} {q:Nat × aj},q∈sb σ n bs→∃i b,bs[i]? =some b∧q=(n+i,vI σ b)
 | [],n,q,h=>by simp[sb] at h
 | b::bs,n,q,h=>by
  simp only[sb,gT] at h
  rcases h with h|h
  ·exact ⟨0,b,rfl,h⟩
  ·obtain ⟨i,b',h1,h2⟩:=Uq h
   exact ⟨i+1,b',by simpa using h1,by rw[h2];congr 1;omega⟩
theorem Ur {σ:List Place}: ∀{bs:List aj} {n i:Nat} {b:aj},bs[i]? =some b→(n+i,vI σ b)∈sb σ n bs
 | [],n,i,b,h=>by simp at h
 | b0::bs,n,i,b,h=>by
  simp only[sb,gT]
  cases i with
  | zero=>simp at h;subst h;exact .inl rfl
  | succ i=>exact .inr (by rw[show n+(i+1)=n+1+i by omega];exact Ur (by simpa using h))
theorem HN: ∀{k n i:Nat},i<k→(uz n k)[i]? =some (.blk (n+i))
 | 0,n,i,h=>by omega
 | k+1,n,0,h=>rfl
 | k+1,n,i+1,h=>by
  simp only[uz,List.getElem?_cons_succ]
  rw[HN (by omega)]
  congr 2
  omega
theorem My: ∀{k n:Nat},(uz n k).length=k
 | 0,_=>rfl
 | k+1,n=>by simp[uz,My]
theorem Us: ∀{bs:List (Nat × aj)} {k:Rd R} {r:R} {rd:List Nat},(GQ bs k).run C hp=some (r,rd)→(∀q∈bs,hp q.1=none)∧∃fS,k.run C hp=some (r,fS)
 | [],k,r,rd,h=>⟨by simp,rd,h⟩
 | (id,b)::l,k,r,rd,h=>by
  simp only[GQ] at h
  obtain ⟨l1,h⟩:=run_get h
  cases af:hp id with
  | some blk=>rw[af] at h;cases h
  | none=>
   rw[af] at h
   obtain ⟨h1,h2⟩:=Us h
   refine ⟨fun q hq=> ?_,h2⟩
   rcases gT.1 hq with e|hq
   ·subst e;exact af
   ·exact h1 q hq
structure qT (σ:List Place) (cq:Nat→Option Nat) (bG:Nat→Option aj) (av:Nat→Option Nat) (hp':Nat→Option aj):Prop where
 blk: ∀j b,bG j=some b→∃id b',fg σ j=some (.blk id)∧hp' id=some b'∧iu σ b b'∧(b≠ .dead→av id=cq j)
 none: ∀j,bG j=none→fg σ j=none
 anX: ∀j id ver path,fg σ j≠some (.row id ver path)
theorem qT.leaf {σ:List Place} (T:qT σ cq bG av hp') {v:Value} {x:V} (h:an P w I cq bG v x):an P w I av hp' v (lI σ x):=by
 have look: ∀{j b},bG j=some b→∃id b',fg σ j=some (.blk id)∧hp' id=some b'∧iu σ b b'∧(b≠ .dead→av id=cq j):=fun h=>T.blk _ _ h
 cases h with
 | undef=>exact .undef
 | int=>exact .int
 | bool=>exact .bool
 | str h=>exact .str h
 | list h=>exact .list h
 | nilS=>exact .nilS
 | agg=>exact .undef
 | bw=>exact .undef
 | eb=>exact .eb
 | fn=>exact .undef
 | pref a b c=>exact .pref a b c
 | @fh _ e j h=>
  obtain ⟨id,b',k1,k2,k3,k4⟩:=look h
  simp only[lI,k1]
  cases k3
  exact .fh k2
 | @ij _ e j _ _ h=>
  obtain ⟨id,b',k1,k2,k3,k4⟩:=look h
  simp only[lI,k1]
  cases k3
  exact .ij k2
 | @lM _ j _ _ h=>
  obtain ⟨id,b',k1,k2,k3,k4⟩:=look h
  simp only[lI,k1]
  cases k3
  exact .lM k2
 | @eJ e j fz _ h hb=>
  obtain ⟨id,b',k1,k2,k3,k4⟩:=look h
  simp only[lI,k1]
  cases k3
  exact .eJ k2 ((k4 (by simp)).trans hb)
 | @whole e j es fz b cap h hb a1 a2 a3=>
  obtain ⟨id,b',k1,k2,k3,k4⟩:=look h
  simp only[lI,k1]
  cases k3
  exact .whole k2 ((k4 (by simp)).trans hb) a1 a2 a3
 | @fp e j es ao b cap h hb a1 a2 a3=>
  obtain ⟨id,b',k1,k2,k3,k4⟩:=look h
  simp only[lI,k1]
  cases k3
  exact .fp k2 ((k4 (by simp)).trans hb) a1 a2 a3
 | @g9 e j fz _ h hb=>
  obtain ⟨id,b',k1,k2,k3,k4⟩:=look h
  simp only[lI,k1]
  cases k3
  exact .g9 k2 ((k4 (by simp)).trans hb)
 | @sub e j off len es fz b o cap h hb a1 a2 a3=>
  obtain ⟨id,b',k1,k2,k3,k4⟩:=look h
  simp only[lI,k1]
  cases k3
  exact .sub k2 ((k4 (by simp)).trans hb) a1 a2 a3
 | @ptr j i c b blk h hd hb=>
  obtain ⟨id,b',k1,k2,k3,k4⟩:=look h
  simp only[lI,k1]
  have hs:blk.sz P=b'.sz P:=by cases k3<;>rfl
  rw[hs]
  exact .ptr k2 (by intro e;subst e;cases k3;exact hd rfl) ((k4 hd).trans hb)
 | kQ=>exact .undef
 | kR=>exact .undef
 | row=>exact .undef
 | cS=>exact .undef
 | ed=>exact .ed
 | @js _ t j h=>
  obtain ⟨id,b',k1,k2,k3,k4⟩:=look h
  simp only[lI,k1]
  cases k3
  exact .js k2
 | @cb t j b es h hb=>
  obtain ⟨id,b',k1,k2,k3,k4⟩:=look h
  simp only[lI,k1]
  cases k3
  exact .cb k2 ((k4 (by simp)).trans hb)
theorem qT.one {σ:List Place} (T:qT σ cq bG av hp') {v:Value} {x:V} (h:an P w I cq bG v x):an P w I av hp' v (La σ x):=by
 cases x with
 | agg xs=>
  obtain ⟨cs,rfl,e1,e2⟩:=h.mr
  exact .agg (by simpa using e1) fun j v y hj hy=>by
   rw[fF] at hy
   cases hx:xs[j]? with
   | none=>rw[hx] at hy;cases hy
   | some x=>rw[hx] at hy;cases hy;exact T.leaf (e2 j v x hj hx)
 | fn f a b=>
  cases h with
  | fn a1 a2 b1 b2=>
   refine .fn (by simpa using a1) (fun j v y hj hy=> ?_) (by simpa using b1) (fun j v y hj hy=> ?_)
   ·rw[fF] at hy
    cases hx:a[j]? with
    | none=>rw[hx] at hy;cases hy
    | some x=>rw[hx] at hy;cases hy;exact T.leaf (a2 j v x hj hx)
   ·rw[fF] at hy
    cases hx:b[j]? with
    | none=>rw[hx] at hy;cases hy
    | some x=>rw[hx] at hy;cases hy;exact T.leaf (b2 j v x hj hx)
 | _=>exact T.leaf h
theorem qT.val {σ:List Place} (T:qT σ cq bG av hp') {v:Value} {x:V} (h:an P w I cq bG v x):an P w I av hp' v (GP σ x):=by
 cases x with
 | bw xs=>
  obtain ⟨cs,rfl,e1,e2⟩:=h.vY
  exact .bw (by simpa using e1) fun j v y hj hy=>by
   rw[fF] at hy
   cases hx:xs[j]? with
   | none=>rw[hx] at hy;cases hy
   | some x=>rw[hx] at hy;cases hy;exact T.one (e2 j v x hj hx)
 | _=>exact T.one h
theorem qT.Ut {σ:List Place} (T:qT σ cq bG av hp') {o:Option Nat} {b b':aj} (h:e6 P w I cq bG o b) (hb:iu σ b b'):e6 P w I av hp' o b':=by
 cases hb with
 | dead=>exact .dead
 | var=>
  cases h with
  | var a1 a2 a3 a4 a5 a6=>
   refine .var a1 a2 (by simpa using a3) a4 (fun j v y hj hy=> ?_) a6
   rw[fF] at hy
   cases hx:(_:List V)[j]? with
   | none=>rw[hx] at hy;cases hy
   | some x=>rw[hx] at hy;cases hy;exact T.val (a5 j v x hj hx)
 | arr=>
  cases h with
  | eK hb=>exact .eK hb
  | arr a1 a2 a3 a4 a5 a6 a7=>exact .arr a1 a2 a3 a4 a5 a6 a7
 | nest=>
  cases h with
  | nest a1 a2 a3=>exact .nest a1 a2 a3
 | map=>
  cases h with
  | map a1 a2 a3 a4 a5 a6 a7=>exact .map a1 a2 a3 a4 a5 a6 a7
theorem iu.wv {σ:List Place} {o:Option Nat} {b b':aj} (h:iu σ b b') {m:Nat} (ho:bL P w o b' m):bL P w o b m:=by
 cases h with
 | dead=>exact absurd rfl ho.alive
 | var=>exact .root (by simp) (ho.flat (by simp))
 | arr=>exact .root (by simp) (ho.flat (by simp))
 | map=>exact .root (by simp) (ho.flat (by simp))
 | nest=>
  cases ho with
  | root _ hb=>exact .root (by simp) hb
  | row hb ha=>exact .row hb ha
theorem iu.Uu {σ:List Place} {b b':aj} (h:iu σ b b'):b'≠ .dead→b≠ .dead:=by
 intro h1 h2;subst h2;cases h;exact h1 rfl
end
section
variable {P:Program} {A:cU} {w w':World} {I I' I2:Nat→Prop} {μ β av cq:Nat→Option Nat} {hp hp' hp0 bG:Nat→Option aj} {C:ae} {B:Nat} {M:Nat→Prop} {w0:Start}
theorem Uv: ∀{vs:List Nat} {k:Nat},k<vs.length→bN (vs.map (· +1)) k=bN vs k+1
 | [],k,h=>by simp at h
 | v::vs,0,h=>rfl
 | v::vs,k+1,h=>by simp only[ki,bN];exact Uv (by simpa using h)
theorem Uw: ∀{vs:List Nat} {k:Nat},bN vs k≤bN (vs.map (· +1)) k
 | [],k=>by simp[bN]
 | v::vs,0=>by simp[bN]
 | v::vs,k+1=>by simp only[ki,bN];exact Uw
def Co (hp:Nat→Option aj) (q:Nat × aj):Prop:=(∃e es v2,q.2= .nest e es v2)→∃e es ao e' aQ,hp q.1=some (.nest e es ao)∧q.2= .nest e' aQ (ao.map (· +1))
theorem e7.Mz {id:Nat} {o:Option Nat} {blk:aj} (h:e7 P w β hp (.blk id) o blk):o=β id∧∃b0,hp id=some b0∧b0≠ .dead:=by
 cases h with
 | var h=>exact ⟨rfl,_,h,by simp⟩
 | arr h=>exact ⟨rfl,_,h,by simp⟩
 | nest h=>exact ⟨rfl,_,h,by simp⟩
 | map h=>exact ⟨rfl,_,h,by simp⟩
theorem e7.aes {id:Nat} {o:Option Nat} {c b b' b0:aj} {σ:List Place} (h:e7 P w β hp (.blk id) o c) (h0:hp id=some b0) (hle:c.le b) (hb:iu σ b b') (hn:Co hp (id,b')):b0.le b':=by
 cases h with
 | var h=>
  rw[h] at h0;cases h0
  cases hb with
  | dead=>trivial
  | var=>trivial
  | arr=>exact hle.elim
  | nest=>exact hle.elim
  | map=>exact hle.elim
 | arr h=>
  rw[h] at h0;cases h0
  cases hb with
  | dead=>trivial
  | var=>exact hle.elim
  | arr=>exact hle
  | nest=>exact hle.elim
  | map=>exact hle.elim
 | map h=>
  rw[h] at h0;cases h0
  cases hb with
  | dead=>trivial
  | map=>exact hle
  | _=>exact hle.elim
 | nest h=>
  rw[h] at h0;cases h0
  cases hb with
  | dead=>trivial
  | var=>exact hle.elim
  | arr=>exact hle
  | map=>exact hle.elim
  | @nest e es v1 v2=>
   obtain ⟨e1,cI,wy,e2,cw,k1,k2⟩:=hn ⟨_,_,_,rfl⟩
   cases k2
   change hp id=_ at k1
   rw[h] at k1;cases k1
   exact ⟨hle.1,hle.2.1,by simp,fun k=>Uw⟩
theorem e7.other {p:Place} {o:Option Nat} {blk:aj} (h:e7 P w β hp p o blk) (he:hp' p.id=hp p.id):e7 P w β hp' p o blk:=by
 cases h with
 | var h=>exact .var (he.trans h)
 | arr h=>exact .arr (he.trans h)
 | nest h=>exact .nest (he.trans h)
 | map h=>exact .map (he.trans h)
 | row h a b c d e f g=>exact .row (he.trans h) a b c d e f g
open Classical in
theorem Ux (S:aI P w I β hp B M w0) {pl:List Place} {o:Nat→Option Nat} {bs:List aj} {nb:Nat} {bk fr:List (Nat × aj)} {σ:List Place} (sK:σ=pl++uz nb (bs.length-pl.length)) (Cp:fr=sb σ nb (bs.drop pl.length))
  (lU:(pl.map Place.id).Nodup) (sq:pl.length≤bs.length)
  (HO: ∀(j:Nat) p,pl[j]? =some p→∃id b,p= .blk id∧(id,b)∈bk) (HP: ∀q∈bk,∃(j:Nat) (b:aj),pl[j]? =some (.blk q.1)∧bs[j]? =some b∧iu σ b q.2∧Co hp q)
  (hl: ∀j blk,hp0 j=some blk→∃p,fg pl j=some p∧e7 P w β hp p (o j) blk) (hd: ∀j,j<pl.length→∃blk,hp0 j=some blk)
  (Sc:aI P w' I2 cq (kP bs) w.heap.size (pZ P w o hp0) ⟨w,I⟩) (yY:mz w I o hp0 w' I2 cq (kP bs)) (uR: ∀q∈fr,hp q.1=none):
  ∃av,Le P w I β hp w' I2 av (bY hp (fr++bk))∧aI P w' I2 av (bY hp (fr++bk)) B M w0∧qT σ cq (kP bs) av (bY hp (fr++bk)):=by
 generalize MA:bY hp (fr++bk)=iW
 let av:Nat→Option Nat:=fun n=>if∃q∈fr,q.1=n then cq (pl.length+(n-nb)) else β n
 have Uy: ∀(j:Nat) id,pl[j]? =some (.blk id)→∃c,hp0 j=some c∧e7 P w β hp (.blk id) (o j) c:=by
  intro j id hj
  obtain ⟨c,hc⟩:=hd j (bE.1 hj).1
  obtain ⟨p,h1,h2⟩:=hl j c hc
  rw[nf,hj] at h1
  cases h1
  exact ⟨c,hc,h2⟩
 have uniq: ∀(j1 j2:Nat) id,pl[j1]? =some (.blk id)→pl[j2]? =some (.blk id)→j1=j2:=by
  intro j1 j2 id h1 h2
  have m1:(pl.map Place.id)[j1]? =some id:=by rw[fF,h1];rfl
  have m2:(pl.map Place.id)[j2]? =some id:=by rw[fF,h2];rfl
  obtain ⟨z1,z2⟩:=bE.1 m1
  obtain ⟨z3,z4⟩:=bE.1 m2
  exact (List.getElem_inj lU).1 (z2.trans z4.symm)
 have cls: ∀id,(∃i b,id=nb+i∧bs[pl.length+i]? =some b∧iW id=some (vI σ b)∧hp id=none∧av id=cq (pl.length+i))∨
   (∃(j:Nat) (b b' c b0:aj),pl[j]? =some (.blk id)∧bs[j]? =some b∧hp0 j=some c∧e7 P w β hp (.blk id) (o j) c∧hp id=some b0∧b0.le b'∧iW id=some b'∧iu σ b b'∧Co hp (id,b')∧av id=β id∧c.le b∧(b≠ .dead→cq j=β id))∨
   (iW id=hp id∧(∀j:Nat,pl[j]? ≠some (.blk id))∧av id=β id):=by
  intro id
  by_cases hm: ∃b,(id,b)∈fr++bk
  ·obtain ⟨b,hm⟩:=hm
   obtain ⟨b',BO,he⟩:=G0 (hp:=hp) hm
   rw[MA] at he
   rcases ew.1 BO with h|h
   ·have h0:=uR _ h
    have p5:av id=cq (pl.length+(id-nb)):=ag ⟨_,h,rfl⟩
    rw[Cp] at h
    obtain ⟨i,b1,k1,k2⟩:=Uq h
    rw[jg] at k1
    cases k2
    exact .inl ⟨i,b1,rfl,k1,he,h0,by rw[p5];congr 2;omega⟩
   ·obtain ⟨j,b1,q1,q2,q3,q4⟩:=HP _ h
    obtain ⟨c,c1,c2⟩:=Uy j id q1
    obtain ⟨c3,b0,c4,c5⟩:=c2.Mz
    obtain ⟨b2,d1,d2,d3⟩:=yY.blk j c c1
    rw[ja,q2] at d1
    cases d1
    refine .inr (.inl ⟨j,b1,b',c,b0,q1,q2,c1,c2,c4,c2.aes c4 d2 q3 q4,he,q3,q4,ah ?_,d2,fun h=>(d3 h).trans c3⟩)
    rintro ⟨q,hq,hqe⟩
    rw[←hqe,uR q hq] at c4
    cases c4
  ·refine .inr (.inr ⟨?_,fun j hj=> ?_,ah ?_⟩)
   ·rcases vV (hp:=hp) (l:=fr++bk) (id:=id) with h|⟨b,hb,_⟩
    ·rw[MA] at h;exact h
    ·exact absurd ⟨b,hb⟩ hm
   ·obtain ⟨aF,b,e,hb⟩:=HO j _ hj
    cases e
    exact hm ⟨b,ew.2 (.inr hb)⟩
   ·rintro ⟨q,hq,rfl⟩
    exact hm ⟨q.2,ew.2 (.inl hq)⟩
 have Uz: ∀b,pZ P w o hp0 b→∃(j id:Nat) (b1:aj),pl[j]? =some (.blk id)∧hp id=some b1∧bL P w (β id) b1 b∧∀e es,b1≠ .arr e es true:=by
  rintro b ⟨j,c,hc,ho⟩
  obtain ⟨p,h1,h2⟩:=hl j c hc
  rw[nf] at h1
  obtain ⟨id,b2,rfl,_⟩:=HO j p h1
  obtain ⟨b1,k1,k2,k3⟩:=h2.wv ho
  exact ⟨j,id,b1,h1,k1,k2,k3⟩
 have other: ∀id blk b,hp id=some blk→bL P w (β id) blk b→(∀j:Nat,pl[j]? ≠some (.blk id))→¬pZ P w o hp0 b∧w'.heap[b]? =w.heap[b]? ∧(I2 b→I b):=by
  intro id blk b e1 e3 e4
  have p6: ¬pZ P w o hp0 b:=by
   intro hx
   obtain ⟨j,aF,b1,i1,i2,i3,_⟩:=Uz b hx
   have:=S.h.inj id aF _ _ b e1 i2 e3 i3
   subst this
   exact e4 j i1
  have aX:=S.h.lt e1 e3
  refine ⟨p6,Sc.cB b aX p6,fun h=> ?_⟩
  rcases Sc.new b h with h|h|h
  ·exact h
  ·exact absurd h p6
  ·omega
 have uK:qT σ cq (kP bs) av iW:=by
  refine ⟨fun j b hj=> ?_,fun j hj=> ?_,fun j id ver path hj=> ?_⟩
  ·rw[ja] at hj
   by_cases dt:j<pl.length
   ·obtain ⟨id,b1,e,na⟩:=HO j _ (bM dt)
    have HQ:pl[j]? =some (.blk id):=by rw[bM dt,e]
    have MB:fg σ j=some (.blk id):=by rw[sK];exact pX (by rw[nf];exact HQ)
    rcases cls id with ⟨i,b2,c1,c2,c3,c4,c5⟩|⟨j',b2,b',c,b0,q1,q2,q3,q4,q5,q6,q7,q8,q9,qU,yZ,sL⟩|⟨c1,c2,c3⟩
    ·obtain ⟨c,d1,d2⟩:=Uy j id HQ
     obtain ⟨_,b0,d3,_⟩:=d2.Mz
     rw[d3] at c4;cases c4
    ·obtain rfl:=uniq _ _ _ q1 HQ
     rw[hj] at q2;cases q2
     exact ⟨id,b',MB,q7,q8,fun h=>qU.trans (sL h).symm⟩
    ·exact absurd HQ (c2 j)
   ·have UA:=(bE.1 hj).1
    have MB:fg σ j=some (.blk (nb+(j-pl.length))):=by
     rw[sK,nf,lC (by omega)]
     exact HN (by omega)
    have hm:(nb+(j-pl.length),vI σ b)∈fr:=by
     rw[Cp]
     refine Ur ?_
     rw[jg,show pl.length+(j-pl.length)=j by omega]
     exact hj
    rcases cls (nb+(j-pl.length)) with ⟨i,b2,c1,c2,c3,c4,c5⟩|⟨j',b2,b',c,b0,q1,q2,q3,q4,q5,q6,q7,q8,q9,qU,yZ,sL⟩|⟨c1,c2,c3⟩
    ·have hi:i=j-pl.length:=by omega
     subst hi
     rw[show pl.length+(j-pl.length)=j by omega] at c2 c5
     rw[hj] at c2;cases c2
     exact ⟨_,_,MB,c3,.of σ _,fun _=>c5⟩
    ·rw[uR _ hm] at q5;cases q5
    ·obtain ⟨b',BO,he⟩:=G0 (hp:=hp) (l:=fr++bk) (ew.2 (.inl hm))
     rw[MA,c1,uR _ hm] at he
     cases he
  ·rw[ja] at hj
   have:=List.getElem?_eq_none_iff.1 hj
   rw[sK,nf,List.getElem?_eq_none_iff,dO,My]
   omega
  ·rw[sK,nf] at hj
   by_cases dt:j<pl.length
   ·rw[lB dt] at hj
    obtain ⟨aF,b1,e,_⟩:=HO j _ hj
    cases e
   ·have UA:j-pl.length<bs.length-pl.length:=by
     have:=(bE.1 hj).1
     rw[dO,My] at this
     omega
    rw[lC (by omega),HN UA] at hj
    cases hj
 have hle:Le P w I β hp w' I2 av iW:=by
  refine ⟨yY.dQ,yY.cB,fun id blk af=> ?_,fun id blk blk' b af bO sM hb=> ?_,fun id e es ao e' aQ vers' b q i c t v e1 l af bO hb aX hv ht hc=> ?_⟩
  ·rcases cls id with ⟨i,b2,c1,c2,c3,c4,c5⟩|⟨j',b2,b',c,b0,q1,q2,q3,q4,q5,q6,q7,q8,q9,qU,yZ,sL⟩|⟨c1,c2,c3⟩
   ·rw[af] at c4;cases c4
   ·rw[af] at q5;cases q5
    exact ⟨b',q7,q6,fun _=>qU⟩
   ·exact ⟨blk,c1.trans af,aj.le_refl _,fun _=>c3⟩
  ·rcases cls id with ⟨i,b2,c1,c2,c3,c4,c5⟩|⟨j',b2,b',c,b0,q1,q2,q3,q4,q5,q6,q7,q8,q9,qU,yZ,sL⟩|⟨c1,c2,c3⟩
   ·rw[af] at c4;cases c4
   ·rw[q7] at bO;cases bO
    exact yY.size j' c b2 b q3 (by rw[ja];exact q2) (q8.Uu sM) (q4.Mz.1.trans hb)
   ·rw[c1,af] at bO
    cases bO
    simp only[bsize,(other id blk b af (.root sM hb) c2).2.1]
  ·rcases cls id with ⟨i2,b2,c1,c2,c3,c4,c5⟩|⟨j',b2,b',c',b0,q1,q2,q3,q4,q5,q6,q7,q8,q9,qU,yZ,sL⟩|⟨c1,c2,c3⟩
   ·rw[af] at c4;cases c4
   ·rw[q7] at bO;cases bO
    obtain ⟨_,_,wy,_,_,k1,k2⟩:=q9 ⟨_,_,_,rfl⟩
    change hp id=_ at k1
    rw[af] at k1;cases k1
    cases k2
    rw[Uv aX] at hv
    omega
   ·rw[c1,af] at bO
    cases bO
    exact ⟨l,rfl,hc.mono fun _ _ _ _ h=>(other id _ _ af (.row hb h) c2).2.1⟩
 have place: ∀id blk b,iW id=some blk→bL P w' (av id) blk b→(∃j c,kP bs j=some c∧bL P w' (cq j) c b∧fg σ j=some (.blk id))∨(b<w.heap.size∧¬pZ P w o hp0 b∧hp id=some blk∧bL P w (β id) blk b):=by
  intro id blk b e1 e3
  rcases cls id with ⟨i,b2,c1,c2,c3,c4,c5⟩|⟨j',b2,b',c,b0,q1,q2,q3,q4,q5,q6,q7,q8,q9,qU,yZ,sL⟩|⟨c1,c2,c3⟩
  ·rw[c3] at e1;cases e1
   rw[c5] at e3
   refine .inl ⟨pl.length+i,b2,by rw[ja];exact c2,(iu.of σ b2).wv e3,?_⟩
   have:=(bE.1 c2).1
   rw[sK,nf,lC (by omega),HN (by omega),c1]
   congr 3
   omega
  ·rw[q7] at e1;cases e1
   have sM:b2≠ .dead:=q8.Uu e3.alive
   rw[qU,←sL sM] at e3
   exact .inl ⟨j',b2,by rw[ja];exact q2,q8.wv e3,by rw[sK];exact pX (by rw[nf];exact q1)⟩
  ·rw[c1] at e1
   rw[c3] at e3
   have:=e3.mono (w:=w) fun b hb=>(other id blk b e1 hb c2).2.1
   exact .inr ⟨S.h.lt e1 this,(other id blk b e1 this c2).1,e1,this⟩
 have uD: ∀b,pZ P w o hp0 b∨w.heap.size≤b→M b∨B≤b:=by
  rintro b (h|h)
  ·obtain ⟨j,id,b1,i1,i2,i3,_⟩:=Uz b h
   exact S.h.own id b1 b i2 i3
  ·exact .inr (jH S.size h)
 have MC: ∀j c b,kP bs j=some c→bL P w' (cq j) c b→pZ P w o hp0 b∨w.heap.size≤b:=fun j c b h1 h2=>Sc.h.own j c b h1 h2
 refine ⟨av,hle,⟨⟨fun id blk af=> ?_,fun i1 i2 b1 b2 b e1 e2 f1 f2=> ?_,fun id blk b af hb=> ?_,Sc.h.kS⟩,fun b hb hM=> ?_,jH S.size Sc.size,fun b hb=> ?_,⟨Sc.io.1.trans S.io.1,Sc.io.2.trans S.io.2⟩⟩,uK⟩
 ·rcases cls id with ⟨i,b2,c1,c2,c3,c4,c5⟩|⟨j',b2,b',c,b0,q1,q2,q3,q4,q5,q6,q7,q8,q9,qU,yZ,sL⟩|⟨c1,c2,c3⟩
  ·rw[c3] at af;cases af
   rw[c5]
   exact uK.Ut (Sc.h.rel _ b2 (by rw[ja];exact c2)) (.of σ b2)
  ·rw[q7] at af;cases af
   have:=uK.Ut (Sc.h.rel j' b2 (by rw[ja];exact q2)) q8
   by_cases sM:b2= .dead
   ·subst sM
    cases q8
    exact .dead
   ·rw[qU,←sL sM]
    exact this
  ·rw[c1] at af
   rw[c3]
   exact (S.h.rel id blk af).mono hle fun b hb=>(other id blk b af hb c2).2
 ·rcases place i1 b1 b e1 f1 with ⟨j1,c1,g1,g2,g3⟩|⟨g1,g2,g3,g4⟩<;>rcases place i2 b2 b e2 f2 with ⟨j2,c2,k1,k2,k3⟩|⟨k1,k2,k3,k4⟩
  ·have:=Sc.h.inj j1 j2 c1 c2 b g1 k1 g2 k2
   subst this
   rw[g3] at k3
   cases k3
   rfl
  ·rcases MC j1 c1 b g1 g2 with h|h
   ·exact absurd h k2
   ·omega
  ·rcases MC j2 c2 b k1 k2 with h|h
   ·exact absurd h g2
   ·omega
  ·exact S.h.inj i1 i2 _ _ b g3 k3 g4 k4
 ·rcases place id blk b af hb with ⟨j1,c1,g1,g2,g3⟩|⟨g1,g2,g3,g4⟩
  ·exact uD b (MC j1 c1 b g1 g2)
  ·exact S.h.own id blk b g3 g4
 ·refine (Sc.cB b (lz hb S.size) fun hx=> ?_).trans (S.cB b hb hM)
  rcases uD b (.inl hx) with h|h
  ·exact hM h
  ·omega
 ·rcases Sc.new b hb with h|h|h
  ·exact S.new b h
  ·exact .inr (uD b (.inl h))
  ·exact .inr (uD b (.inr h))
end
section
variable {P:Program} {A:cU} {w w':World} {I I' I2:Nat→Prop} {μ β av cq:Nat→Option Nat} {hp hp' hp0 bG:Nat→Option aj} {C:ae} {B:Nat} {M:Nat→Prop} {w0:Start}
theorem UB (hp:Nat→Option aj): ∀(a b:List (Nat × aj)),bY hp (a++b)=bY (bY hp b) a
 | [],b=>rfl
 | (i,x)::a,b=>by simp only[List.cons_append,bY,UB hp a b]
theorem wz {hp:Nat→Option aj} {l:List (Nat × aj)} {id:Nat} (h: ∀q∈l,q.1≠id):bY hp l id=hp id:=by
 rcases vV (hp:=hp) (l:=l) (id:=id) with h1|⟨b,hb,_⟩
 ·exact h1
 ·exact absurd rfl (h _ hb)
def y4 (P : Program) : Prop := ∀ (f : Nat) fn, P.funcs[f]? = some fn → (fn.name == "runtime.NumGoroutine") = false
def HR (P:Program) (f:FuncId) (e:TypeId):Prop:=
 (∀args w,(callFunc f args).run P w= .ok (.enter f args) w)∧∃t,P.underlying t=some (.slice e)∧
  ∀(s:Value) (w:World) (Q:Ending→World→Prop),(s= .slice none 0 0→Q (.returned (.slice none 0 0)) w)→
   (∀a n c,s= .slice (some a) n c→∃v w',(Builtin.append_ #[t,t] t #[.slice (some ⟨w.heap.size,0,none⟩) 0 0,s]).run P (w.alloc (.cells #[] e))= .ok v w'∧Q (.returned v) w')→
   (s= .slice none 0 0∨∃a n c,s= .slice (some a) n c)→Calls P f #[s] w Q
structure kF (P:Program) (A:cU):Prop where
 count:y4 P
 ext: ∀f T,A.ext f=some T→∀(b:Nat) (C:Array Value) (w:World),w.heap[b]? =some (.cells C T (0,0))→C.size=P.cellsOf T→(C[0]? =some (.pointer none)∨C[0]? =some (.pointer (some ⟨b,0,none⟩)))→
  (callFunc f #[.pointer (some ⟨b,0,none⟩)]).run P w= .ok (.enter f #[.pointer (some ⟨b,0,none⟩)]) w∧
  Calls P f #[.pointer (some ⟨b,0,none⟩)] w fun e w'=>e= .returned (.tuple #[])∧(w'=w∨w'=w.setCell ⟨b,0,none⟩ (.pointer (some ⟨b,0,none⟩)))
 idle: ∀f,A.idle f=true→(∀args w,(callFunc f args).run P w= .ok (.enter f args) w)∧
  ∀args w,CallsD P f args .returning w fun e u' w'=>(∃v,e= .returned v)∧u'= .returning∧w'=w
 pI: ∀f e,A.pI f=some e→HR P f e
theorem kF.here {P:Program} {A:cU} (h:kF P A) (f id:Nat):kF P (A.here f id):=⟨h.count,h.ext,h.idle,h.pI⟩
def Cq (E:FuncId→Bool) (d:Deferred):Prop:= ∃f cap,d.target= .fn (.func f) cap∧E f=true
theorem MD {P:Program} {A:cU} (hP:kF P A) {fn:Func} {tmps:Array Value} {R:Ending→World→Prop} {w:World} {v:Value} (hv:(results fn tmps).run P w= .ok v w) (hR:R (.returned v) w):
  ∀ds:List Deferred,(∀d∈ds,Cq A.idle d)→Leaves P fn tmps R ds .returning w
 | [],_=>⟨v,hv,hR⟩
 | d::ds,h=>by
  obtain ⟨f,cap,ht,hf⟩:=h d (by simp)
  obtain ⟨k1,k2⟩:=hP.idle f hf
  obtain ⟨t,UC⟩:=d
  simp only at ht
  subst ht
  refine leaves_cons (f:=f) (args:=UC++cap) (by simp) ?_ ?_
  ·simp only[invoke];exact k1 _ w
  ·refine (k2 (UC++cap) w).mono fun e u' w' hr=> ?_
   obtain ⟨⟨v',rfl⟩,rfl,rfl⟩:=hr
   exact MD hP hv hR ds fun d hd=>h d (nJ _ hd)
def Cr (P:Program) (A:cU) (o:Oper) (a:Act) (w:World) (I:Nat→Prop) (β:Nat→Option Nat) (hp:Nat→Option aj) (B:Nat) (M:Nat→Prop) (w0:Start) (r:R):Prop:=
 ∀(next:Act→World→Prop) (Q:Exit→Act→World→Prop),
  (∀v w' I' av ds,Le P w I β hp w' I' av (bY hp r.upd)→aI P w' I' av (bY hp r.upd) B M w0→an P w' I' av (bY hp r.upd) v r.v→(∀d∈ds,d∈a.defers∨Cq A.idle d)→next ({a with defers:=ds}.put o.dst v) w')→o.wp P a w next Q
theorem qE.step {o:Oper} {a:Act} {r:R} (h:qE P ((execOp a.eval o).run P w) w I β hp B M w0 r):Cr P A o a w I β hp B M w0 r:=by
 obtain ⟨v,w',I',av,h1,h2,h3,h4⟩:=h
 intro next Q hn
 unfold Oper.wp
 rcases h1 with h1|⟨h1,rfl⟩
 ·rw[h1];exact hn v w' I' av a.defers h2 h3 h4 fun d hd=> .inl hd
 ·rw[h1];exact hn _ w' I' av a.defers h2 h3 h4 fun d hd=> .inl hd
theorem UD: ∀(l:List (Nat × VS)),pK l=uy (l.map (·.2))
 | []=>rfl
 | (_,s)::l=>by simp only[pK,ki,uy,UD l]
theorem aet (hC:mA P A C) (S:aI P w I β hp B M w0) (hg:iU P A.aG w I) {vals:List Value} {args:List V} {nb key:Nat} {f:FuncId} {r:R} {rd:List Nat} (hlen:vals.length=args.length)
  (cW: ∀(j:Nat) v x,vals[j]? =some v→args[j]? =some x→an P w I β hp v x) (h:(Bv P A nb key f args).run C hp=some (r,rd)):
  ∃fn c,P.funcs[f]? =some fn∧fn.body=some c∧Calls P f vals.toArray w fun e w'=> ∃v I' av,e= .returned v∧Le P w I β hp w' I' av (bY hp r.upd)∧aI P w' I' av (bY hp r.upd) B M w0∧an P w' I' av (bY hp r.upd) v r.v:=by
 unfold Bv at h
 obtain ⟨UE,h0⟩:=aJ h
 clear h
 rw[aW] at UE
 subst UE
 obtain ⟨h1,kE,d1,u1,a1,a2,a3,a5,a4⟩:=Mv S h0 hlen cW
 obtain ⟨h2,uQ,d2,u2,b1,b2,b3,b4⟩:=Ui S a1
 clear h0 a1
 obtain ⟨hc,h3⟩:=aJ b1
 clear b1
 simp only[aL,aW,oL] at hc
 obtain ⟨gG,wx⟩:=hc
 have p7:=a2.trans b2
 have mU:h2.ds=d1++d2:=by have:=p7.ds;simpa using this
 have HS:h2.upd=u1++u2:=by have:=p7.upd;simpa using this
 have lU:(h2.pl.map Place.id).Nodup:=p7.nodup (by simp)
 obtain ⟨c1,o,c2,c3⟩:=b4 []
 simp only[iQ] at c1 c2 c3
 cases Cs:C key h2.ds with
 | none=>
  simp only[Rd.run,Cs] at h3
  cases h3
 | some es=>
  have sh: ∃fS,(Bu P (A.so key es) nb h2 (A.lv key es)).run C hp=some (r,fS):=by
   obtain ⟨x,hx,e⟩:=bind_some h3
   rw[Cs] at hx
   cases hx
   unfold cU.so cU.lv
   cases cC:A.alt key with
   | none=>rw[cC] at e;exact ⟨_,e⟩
   | some S2=>
    rw[cC] at e
    simp only[Rd.run] at e
    cases hb:(V.nth es 0).toBool<;>(rw[hb] at e;exact ⟨_,e⟩)
  clear h3
  obtain ⟨fS,h3⟩:=sh
  unfold Bu at h3
  simp only at h3
  generalize iX:fI (A.so key es).aZ ((A.lv key es).drop (pK (A.so key es).bQ))=bs at h3
  generalize sK:h2.pl++uz nb (bs.length-h2.pl.length)=σ at h3
  generalize Cp:sb σ nb (bs.drop h2.pl.length)=fr at h3
  obtain ⟨p0,bk,rd4,p1,p2,_,p3⟩:=Up h3
  obtain ⟨uR,rd5,p4⟩:=Us p1
  obtain rfl:=aS p4
  have sq:h2.pl.length≤bs.length:=by rw[kj] at p0;omega
  have HP: ∀q∈bk,∃(j:Nat) (b:aj),h2.pl[j]? =some (.blk q.1)∧bs[j]? =some b∧iu σ b q.2∧Co hp q:=by
   intro q hq
   rcases p2 q hq with hx|⟨j,b,k1,k2,k3,k4⟩
   ·simp at hx
   ·have hj:=(bE.1 k1).1
    rw[ga hj] at k2
    exact ⟨j,b,k1,k2,k3,k4⟩
  obtain ⟨fn,c,hf,hb,ME⟩:=hC key h2.ds es Cs
  refine ⟨fn,c,hf,hb,?_⟩
  have hmb:fI (A.sin key).aZ (h2.ds.drop (pK (A.sin key).bQ))=fI (A.sin key).aZ d2:=by
   rw[mU,UD,pc a3]
  have MF:(bB (A.sin key) h2.ds).hp=kP (fI (A.sin key).aZ d2):=by
   simp only[bB,mk,hmb]
  have hl: ∀j blk,(bB (A.sin key) h2.ds).hp j=some blk→∃p,fg h2.pl j=some p∧e7 P w β hp p (o j) blk:=by
   intro j blk hj
   rw[MF,ja] at hj
   obtain ⟨p,k1,k2⟩:=c2 j blk hj
   rw[fe] at k1
   exact ⟨p,k1,k2⟩
  have hd: ∀j,j<h2.pl.length→∃blk,(bB (A.sin key) h2.ds).hp j=some blk:=by
   intro j hj
   rw[MF,ja]
   exact ⟨_,bM (by rw[c1,←gG];exact hj)⟩
  have UF:Ck P w β hp h2.pl o (bB (A.sin key) h2.ds).hp:=by
   intro j p hj
   obtain ⟨blk,k1⟩:=hd j (by rw[nf] at hj;exact (bE.1 hj).1)
   obtain ⟨p',k2,k3⟩:=hl j blk k1
   rw[hj] at k2
   cases k2
   exact ⟨blk,k1,k3⟩
  obtain ⟨sA,S1⟩:=BN S p7.HH
  rw[←HS] at sA S1
  have i1: ∀b,I b→jR P w I β hp h2.upd b:=fun b h=> .inl h
  have entry:=aeo (hp0:=(bB (A.sin key) h2.ds).hp) S lU wx hl (fun dh j blk hj=>by
   have hG:=hj
   rw[MF,ja] at hG
   exact c3 (jR P w I β hp h2.upd) o _ i1 (fun q hq b hb=> .inr ⟨q,by rw[HS];exact ew.2 (.inr hq),hb⟩) h2.pl [] (by simp) UF j blk hG (dh j blk hj)) S1.h.kS
  have aeu:vals.length=(A.sin key).bQ.length:=by rw[hlen,←a5];simp
  have ha:=ME w (jR P w I β hp h2.upd) o vals entry (hg.mono i1 fun _ _=>rfl) aeu fun j v x hj hx=>by
   rw[mU] at hx
   exact (((a4.later b2) (jR P w I β hp h2.upd) o _ i1 (fun q hq b hb=> .inr ⟨q,by rw[HS];exact hq,hb⟩) h2.pl [] (by simp) UF) d2).2 j v x hj hx
  refine ha.mono fun e w' Ct=> ?_
  obtain ⟨v,I2,cq,rfl,ha⟩:=Ct
  have y5:(bB (A.so key es) (A.lv key es)).hp=kP bs:=by simp only[bB,mk,iX]
  cases aev:(A.so key es).safe P with
  | true=>
   simp only[cond_true,iQ]
   have my: ∀b,I b→I2 b:=fun b h=>ha.le.dQ b (i1 b h)
   obtain ⟨s1,s2⟩:=aer aev my ha.yX i1
   have yY:mz w I o (bB (A.sin key) h2.ds).hp w' I cq (kP bs):=by
    rw[←y5]
    exact ⟨fun _ h=>h,fun b h=>ha.le.cB b (i1 b h),ha.le.blk,ha.le.size⟩
   obtain ⟨av,k1,k2,k3⟩:=Ux S sK.symm Cp.symm lU sq p3 HP hl hd (by rw[←y5];exact ⟨s1.h,s1.cB,s1.size,fun b h=> .inl h,s1.io⟩) yY uR
   exact ⟨v,I,av,rfl,k1,k2,k3.val (by have:=s2 v ha.res;rw[y5] at this;exact this)⟩
  | false=>
   simp only[cond_false]
   rw[←dK,UB]
   have p6: ∀p∈h2.pl,bY hp h2.upd p.id=hp p.id:=fun p hp=>wz fun q hq e=>
    HM wx (fE.2 ⟨q,hq,rfl⟩) (e▸fE.2 ⟨p,hp,rfl⟩)
   have aew: ∀q∈bk,∃(j:Nat) (b:aj),h2.pl[j]? =some (.blk q.1)∧bs[j]? =some b∧iu σ b q.2∧Co (bY hp h2.upd) q:=by
    intro q hq
    obtain ⟨j,b,k1,k2,k3,k4⟩:=HP q hq
    refine ⟨j,b,k1,k2,k3,fun hn=> ?_⟩
    have:=p6 _ (kh k1)
    simp only[Place.id] at this
    rw[this]
    exact k4 hn
   have yv: ∀j blk,(bB (A.sin key) h2.ds).hp j=some blk→∃p,fg h2.pl j=some p∧e7 P w β (bY hp h2.upd) p (o j) blk:=by
    intro j blk hj
    obtain ⟨p,k1,k2⟩:=hl j blk hj
    exact ⟨p,k1,k2.other (p6 p (by rw[nf] at k1;exact kh k1))⟩
   have aex: ∀q∈fr,bY hp h2.upd q.1=none:=by
    intro q hq
    rw[wz fun q' ct e=> ?_]
    ·exact uR q hq
    ·obtain ⟨e1,cI,_,h5⟩:=p7.HH q' (HS▸ct)
     rw[e,uR q hq] at h5
     rcases h5 with ⟨_,h5⟩|⟨_,h5⟩<;>cases h5
   obtain ⟨av,k1,k2,k3⟩:=Ux S1 sK.symm Cp.symm lU sq p3 aew yv hd (by rw[←y5];exact ha.yX) (by rw[←y5];exact ha.le) aex
   exact ⟨v,I2,av,rfl,sA.trans k1,k2,k3.val (by have:=ha.res;rw[y5] at this;exact this)⟩
theorem UG (hC:mA P A C) (hP:kF P A) (S:aI P w I β hp B M w0) (hg:iU P A.aG w I) {a:Act} {nb key:Nat} {o:Oper} {f:FuncId} {vals:List Value} {args:List V} (hlen:vals.length=args.length)
  (cW: ∀(j:Nat) v x,vals[j]? =some v→args[j]? =some x→an P w I β hp v x) {r:R} {rd:List Nat} (h:(Bv P A nb key f args).run C hp=some (r,rd))
  (hex:(execOp a.eval o).run P w=(callFunc f vals.toArray).run P w):Cr P A o a w I β hp B M w0 r:=by
 intro next Q hn
 obtain ⟨fn,c,hf,hb,ME⟩:=aet hC S hg hlen cW h
 unfold Oper.wp
 rw[hex,MuLone.run_callFunc_enter hf (hP.count f _ hf) hb,Oper.upon_enter]
 refine ME.mono fun e w' Ct=> ?_
 obtain ⟨v,I2,cq,rfl,k1,k2,k3⟩:=Ct
 exact hn v w' I2 cq a.defers k1 k2 k3 fun d hd=> .inl hd
theorem mo.args {a:Act} {sl:Nat→V} (hs:mo P w I β hp a sl) (hg:iU P A.aG w I) {args:Array Operand} {ts:Array TypeId} (a9:args.size=ts.size):
  (args.map a.eval).toList.length=((args.toList.zip ts.toList).map fun p=>aT P A.aG p.2 sl p.1).length∧
  ∀(j:Nat) v x,(args.map a.eval).toList[j]? =some v→((args.toList.zip ts.toList).map fun p=>aT P A.aG p.2 sl p.1)[j]? =some x→an P w I β hp v x:=by
 refine ⟨by simp;omega,fun j v x hv hx=> ?_⟩
 simp only[Array.toList_map,fF,List.getElem?_zip_eq_some,A7] at hv hx
 obtain ⟨x1,Cu,rfl⟩:=hv
 obtain ⟨⟨y1,t1⟩,⟨UH,_⟩,rfl⟩:=hx
 rw[Cu] at UH
 cases UH
 exact hs.ev hg t1 _
theorem UI {vs us:List Value} {xs ys:List V} (h1:vs.length=xs.length) (h2: ∀(j:Nat) v x,vs[j]? =some v→xs[j]? =some x→an P w I β hp v x)
  (h3: ∀(j:Nat) v x,us[j]? =some v→ys[j]? =some x→an P w I β hp v x) (j:Nat) (v:Value) (x:V) (hv:(vs++us)[j]? =some v) (hx:(xs++ys)[j]? =some x):an P w I β hp v x:=by
 by_cases hj:j<vs.length
 ·rw[lB hj] at hv
  rw[lB (by omega)] at hx
  exact h2 j v x hv hx
 ·rw[lC (by omega)] at hv
  rw[lC (by omega)] at hx
  rw[h1] at hv
  exact h3 _ v x hv hx
theorem aey (hP:kF P A) (S:aI P w I β hp B M w0) (hg:iU P A.aG w I) {a:Act} {sl:Nat→V} (hs:mo P w I β hp a sl) {dst:Option Tmp} {ty e:TypeId} {pos:String} {after:Array Edge} {guard:Option (Nat × Bool)} {f:FuncId}
  {args:Array Operand} {argTypes:Array TypeId} {nb:Nat} {r:R} {rd:List Nat} (gp:A.pI f=some e)
  (h:((match args.toList with
    | [x]=> .aC (dj P e) (uw e (aT P A.aG ty sl x) fun xs=> .aC (Nat.ble (xs.length*P.bytesOf e) cz) (ky nb (.arr e xs false) (.whole e nb) []))
    | _=> .fail):Rd R).run C hp=some (r,rd)):Cr P A (Oper.mk dst (.call (Go.Call.mk (.value (.func f)) args argTypes)) ty pos after guard) a w I β hp B M w0 r:=by
 cases ha:args.toList with
 | nil=>rw[ha] at h;cases h
 | cons x l=>
  rw[ha] at h
  cases l with
  | cons _ _=>cases h
  | nil=>
   simp only at h
   have e1:args= #[x]:=by rw[←Array.toArray_toList (xs:=args),ha]
   subst e1
   have hx:=hs.ev hg ty x
   obtain ⟨az,h⟩:=aJ h
   have fin: ∀{w1:World} {HT:Nat→Option Nat},(∀id blk,hp id=some blk→e6 P w1 I HT hp (HT id) blk)→an P w1 I HT hp (a.eval x) (aT P A.aG ty sl x)→∃xs,(((∃a',a.eval x= .slice a' 0 0)∧xs=[])∨∃a' c news,Row P w1 I e (a.eval x) xs a' c news)∧
     xs.length*P.bytesOf e≤cz∧hp nb=none∧r=⟨.whole e nb,[(nb,.arr e xs false)]⟩:=by
    intro w1 HT h1 h2
    obtain ⟨xs,nd,l,h⟩:=Ho h1 az h2 h
    obtain ⟨fx,h⟩:=aJ h
    rw[fO] at fx
    obtain ⟨hn,rfl⟩:=o8 h
    exact ⟨xs,nd,fx,hn,rfl⟩
   obtain ⟨c1,t,hu,c2⟩:=hP.pI f e gp
   intro next Q y6
   unfold Oper.wp
   have e2:(execOp a.eval ⟨dst,.call ⟨.value (.func f),#[x],argTypes⟩,ty,pos,after,guard⟩).run P w= .ok (.enter f #[a.eval x]) w:=by
    have fT:a.eval (.func f)= .func (.func f) #[] #[]:=rfl
    simpa[execOp,resolve,fT,Deferred.ofValue,invoke] using c1 #[a.eval x] w
   rw[e2,Oper.upon_enter]
   refine c2 _ w _ (fun Cv=> ?_) (fun b n c yK=> ?_) ?_
   ·obtain ⟨xs,nd,fx,hn,rfl⟩:=fin S.h.rel hx
    have iI:xs=[]:=by
     rcases nd with ⟨_,h⟩|⟨a,c,news,hr⟩
     ·exact h
     ·have:=hr.val.symm.trans Cv
      cases this
    subst iI
    obtain ⟨a1,a2⟩:=G3 S e hn
    exact y6 _ w I _ a.defers a1 a2 (.eJ (dr _ _ _) (dr _ _ _)) fun d hd=> .inl hd
   ·obtain ⟨m1,m2⟩:=acI (w':=w.alloc (.cells #[] e)) S (fun b hb=>heap_alloc_old w _ b hb) (by simp) ⟨rfl,rfl⟩
    obtain ⟨xs,nd,fx,hn,rfl⟩:=fin m2.h.rel (hx.mono m1)
    obtain ⟨v,w',av,a1,a2,a3,a4⟩:=LZ (ty:=t) (a0:=some ⟨w.heap.size,0,none⟩) m2 hu az hn fx nd
    exact ⟨v,w',a1,y6 v w' I av a.defers (m1.trans a2) a3 a4 fun d hd=> .inl hd⟩
   ·obtain ⟨xs,nd,fx,hn,rfl⟩:=fin S.h.rel hx
    rcases nd with ⟨⟨b,h⟩,_⟩|⟨b,c,news,hr⟩
    ·rw[h]
     cases b with
     | none=>exact .inl rfl
     | some b=>exact .inr ⟨_,_,_,rfl⟩
    ·exact .inr ⟨_,_,_,hr.val⟩
theorem aez (hP:kF P A) (S:aI P w I β hp B M w0) (hg:iU P A.aG w I) {a:Act} {sl:Nat→V} (hs:mo P w I β hp a sl) {dst:Option Tmp} {ty T0:TypeId} {pos:String} {after:Array Edge} {guard:Option (Nat × Bool)} {f:FuncId}
  {args:Array Operand} {argTypes:Array TypeId} {r:R} {rd:List Nat} (Cw:A.ext f=some T0)
  (h:((match args.toList with
   | [x]=>
    match aT P A.aG ty sl x with
    | .ptr id i c=>Rd.get id fun
     | some (.var T cs)=> .aC (Nat.beq T T0&&(qw P T&&(Nat.beq cs.length (P.cellsOf T)&&(Nat.beq i 0&&Nat.beq c 0)))) (.ret ⟨.bw [],[(id,.var T (.undef::cs.tail))]⟩)
     | _=> .fail
    | _=> .fail
   | _=> .fail):Rd R).run C hp=some (r,rd)):Cr P A (Oper.mk dst (.call (Go.Call.mk (.value (.func f)) args argTypes)) ty pos after guard) a w I β hp B M w0 r:=by
 cases ha:args.toList with
 | nil=>rw[ha] at h;cases h
 | cons x l=>
  rw[ha] at h
  cases l with
  | cons _ _=>cases h
  | nil=>
   simp only at h
   have e1:args= #[x]:=by rw[←Array.toArray_toList (xs:=args),ha]
   subst e1
   have hx:=hs.ev hg ty x
   cases gq:aT P A.aG ty sl x<;>rw[gq] at h hx<;>simp only at h<;>first|(cases h;done)|skip
   rename_i id i c
   obtain ⟨l,h1⟩:=run_get h
   cases af:hp id with
   | none=>rw[af] at h1;cases h1
   | some blk=>
    rw[af] at h1
    cases blk<;>simp only at h1<;>first|(cases h1;done)|skip
    rename_i T cs
    obtain ⟨h2,h3⟩:=aJ h1
    simp only[aL,aW] at h2
    obtain ⟨rfl,cd,hlc,rfl,rfl⟩:=h2
    obtain rfl:=aS h3
    obtain ⟨b,hb,he⟩:=hx.iY af (by simp)
    have hr:=S.h.rel id _ af
    rw[hb] at hr
    cases hr with
    | @var _ b' Ca _ aB hh a9 hI iI il=>
     cases aB
     have wh:a.eval x= .pointer (some ⟨b,0,none⟩):=by rw[he];simp[aj.sz]
     obtain ⟨q1,q2⟩:=hP.ext f T Cw b Ca w hh (a9.trans hlc) (il cd)
     have h0:0<Ca.size:=by
      rcases il cd with k|k<;>exact (jh.1 k).1
     have pR:(V.undef::cs.tail).length=cs.length:=by
      cases cs with
      | nil=>rw[a9] at h0;simp at h0
      | cons _ _=>rfl
     have rel: ∀(C':Array Value),(∀j,0<j→C'[j]? =Ca[j]?)→∀(j:Nat) v y,C'[j]? =some v→(V.undef::cs.tail)[j]? =some y→an P w I β hp v y:=by
      intro C' yN j v y hj hy
      cases j with
      | zero=>simp at hy;subst hy;exact .undef
      | succ j=>
       rw[yN _ (by omega)] at hj
       refine iI (j+1) v y hj ?_
       cases cs with
       | nil=>rw[a9] at h0;simp at h0
       | cons _ _=>simpa using hy
     have fin: ∀w' C',(∀b',b'≠b→w'.heap[b']? =w.heap[b']?)→w'.heap[b]? =some (.cells C' T (0,0))→C'.size=Ca.size→w.heap.size≤w'.heap.size→w'.os=w.os∧w'.output=w.output→
       (∀j,0<j→C'[j]? =Ca[j]?)→(C'[0]? =some (.pointer none)∨C'[0]? =some (.pointer (some ⟨b,0,none⟩)))→
       Le P w I β hp w' I β (aO hp id (some (.var T (V.undef::cs.tail))))∧aI P w' I β (aO hp id (some (.var T (V.undef::cs.tail)))) B M w0:=by
      intro w' C' k1 k2 k3 k4 k5 k6 k7
      exact G5 (w':=w') (blk':= .var T (V.undef::cs.tail)) S af (by simp) rfl hb hI (by simp) k1 (by rw[oY k2,oY hh,k3]) k4 k5 fun hle=>
       .var rfl k2 (by rw[k3,a9,pR]) hI (fun j v y hj hy=>(rel C' k6 j v y hj hy).mono hle) fun _=>k7
     intro next Q hn
     unfold Oper.wp
     have e2:(execOp a.eval ⟨dst,.call ⟨.value (.func f),#[x],argTypes⟩,ty,pos,after,guard⟩).run P w= .ok (.enter f #[.pointer (some ⟨b,0,none⟩)]) w:=by
      have fT:a.eval (.func f)= .func (.func f) #[] #[]:=rfl
      simpa[execOp,resolve,fT,Deferred.ofValue,invoke,wh] using q1
     rw[e2,Oper.upon_enter]
     refine q2.mono fun e w' Ct=> ?_
     obtain ⟨rfl,hw⟩:=Ct
     have UJ:Le P w I β hp w' I β (aO hp id (some (.var T (V.undef::cs.tail))))∧aI P w' I β (aO hp id (some (.var T (V.undef::cs.tail)))) B M w0:=by
      rcases hw with rfl|rfl
      ·exact fin w' Ca (fun _ _=>rfl) hh rfl (aE _) ⟨rfl,rfl⟩ (fun _ _=>rfl) (il cd)
      ·refine fin (w.setCell ⟨b,0,none⟩ (.pointer (some ⟨b,0,none⟩))) (Ca.setIfInBounds 0 (.pointer (some ⟨b,0,none⟩))) (fun b' bZ=> ?_) ?_ (by simp) (by simp[World.setCell]) ⟨rfl,rfl⟩ (fun j hj=> ?_) (.inr ?_)
       ·simp only[World.setCell,A5]
        rw[ah (fun e=>bZ e.symm)]
       ·simp[World.setCell,A5,hh]
       ·rw[Gm (by omega)]
       ·rw[KV h0]
     exact hn (.tuple #[]) w' I β a.defers UJ.1 UJ.2 (.bw rfl fun j v y hj _=>by simp at hj) fun d hd=> .inl hd
theorem aeA (hC:mA P A C) (hP:kF P A) (S:aI P w I β hp B M w0) (hg:iU P A.aG w I) {a:Act} {sl:Nat→V} (hs:mo P w I β hp a sl) {ix nb:Nat} {o:Oper} {r:R} {rd:List Nat}
  (h:(gD P A sl ix nb o).run C hp=some (r,rd)):Cr P A o a w I β hp B M w0 r:=by
 cases hc:Mm o.op with
 | false=>exact (ad7 S hg hs hc h).step
 | true=>
  obtain ⟨dst,op,ty,pos,after,guard⟩:=o
  cases op<;>simp only[Mm] at hc<;>first|(cases hc;done)|skip
  case defer c=>
   obtain ⟨callee,args,argTypes⟩:=c
   cases callee with
   | invoke r m=>simp only[gD] at h;cases h
   | builtin b=>simp only[gD] at h;cases h
   | value f=>
   cases f with
   | tmp t=>
    simp only[gD] at h
    cases cd:sl t<;>rw[cd] at h<;>simp only at h<;>first|(cases h;done)|skip
    rename_i f xs ys
    obtain ⟨h1,h2⟩:=aJ h
    obtain rfl:=aS h2
    have hv:=hs t
    rw[cd] at hv
    generalize wm:a.tmps.getD t undef=vt at hv
    cases hv with
    | @fn _ fs cs _ _ q1 q2 q3 q4=>
     intro next Q hn
     unfold Oper.wp
     have fT:a.eval (.tmp t)= .func (.func f) fs cs:=wm
     have e1:(execOp a.eval ⟨dst,.defer ⟨.value (.tmp t),args,argTypes⟩,ty,pos,after,guard⟩).run P w= .ok (.defer {target:= .fn (.func f) cs,args:=fs++args.map a.eval}) w:=by
      simp[execOp,resolve,fT,Deferred.ofValue]
     rw[e1,Oper.upon_defer]
     exact hn undef w I β _ (Le.refl w I β hp) S .undef fun d hd=>by
      rcases gT.1 hd with rfl|hd
      ·exact .inr ⟨f,cs,rfl,h1⟩
      ·exact .inl hd
   | func f=>simp only[gD] at h;cases h
   | const _=>simp only[gD] at h;cases h
   | global _=>simp only[gD] at h;cases h
  rename_i c
  obtain ⟨callee,args,argTypes⟩:=c
  cases callee with
  | invoke r m=>cases hc
  | builtin b=>cases hc
  | value f=>
   cases f with
   | func f=>
    simp only[gD] at h
    cases Cw:A.ext f with
    | some T0=>
     rw[Cw] at h
     simp only at h
     exact aez hP S hg hs Cw h
    | none=>
    rw[Cw] at h
    simp only at h
    cases gp:A.pI f with
    | some e0=>
     rw[gp] at h
     simp only at h
     exact aey hP S hg hs gp h
    | none=>
    rw[gp] at h
    simp only at h
    obtain ⟨h1,h2⟩:=aJ h
    rw[aW] at h1
    obtain ⟨k1,k2⟩:=hs.args hg h1
    refine UG hC hP S hg k1 k2 h2 ?_
    have e1:(args.map a.eval).toList.toArray=args.map a.eval:=Array.toArray_toList
    rw[e1]
    simp[execOp,resolve,Act.eval,Deferred.ofValue,invoke]
   | tmp t=>
    simp only[gD] at h
    cases cd:sl t<;>rw[cd] at h<;>simp only at h<;>first|(cases h;done)|skip
    rename_i f xs ys
    obtain ⟨h1,h2⟩:=aJ h
    rw[aW] at h1
    obtain ⟨k1,k2⟩:=hs.args hg h1
    have hv:=hs t
    rw[cd] at hv
    generalize wm:a.tmps.getD t undef=vt at hv
    cases hv with
    | @fn _ fs cs _ _ q1 q2 q3 q4=>
     have l1:fs.toList.length=xs.length:=by simpa using q1
     have l3:cs.toList.length=ys.length:=by simpa using q3
     have r1: ∀(j:Nat) v x,fs.toList[j]? =some v→xs[j]? =some x→an P w I β hp v x:=fun j v x hj hx=>q2 j v x (by simpa using hj) hx
     have r3: ∀(j:Nat) v x,cs.toList[j]? =some v→ys[j]? =some x→an P w I β hp v x:=fun j v x hj hx=>q4 j v x (by simpa using hj) hx
     refine UG hC hP S hg (vals:=fs.toList++(args.map a.eval).toList++cs.toList) (args:=xs++((args.toList.zip argTypes.toList).map fun p=>aT P A.aG p.2 sl p.1)++ys) (by simp only[dO];omega) ?_ h2 ?_
     ·exact UI (by simp only[dO];omega) (UI l1 r1 k2) r3
     ·have e1:(fs.toList++(args.map a.eval).toList++cs.toList).toArray=fs++args.map a.eval++cs:=by
       apply Array.toList_inj.1;simp
      rw[e1]
      have fT:a.eval (.tmp t)= .func (.func f) fs cs:=wm
      simp[execOp,resolve,fT,Deferred.ofValue,invoke]
   | _=>cases hc
end
section
variable {P:Program} {A:cU} {w w':World} {I I' I2:Nat→Prop} {μ β av:Nat→Option Nat} {hp hp':Nat→Option aj} {C:ae} {B:Nat} {M:Nat→Prop} {w0:Start}
structure jY (P:Program) (E:FuncId→Bool) (G:Nat→V) (w:World) (I:Nat→Prop) (β:Nat→Option Nat) (n:Nat) (a:Act) (st:St):Prop where
 sl:mo P w I β st.hp a st.sl
 size:a.tmps.size=n
 defers: ∀d∈a.defers,Cq E d
 aG:iU P G w I
theorem MG {E:FuncId→Bool} {G:Nat→V} {n:Nat} {a:Act} {st:St} {o:Oper} {v:Value} {x:V} {hp':Nat→Option aj} {ds:List Deferred} (h:jY P E G w I β n a st) (hle:Le P w I β st.hp w' I' av hp') (hd:uA o n=true)
  (hv:an P w' I' av hp' v x) (mU: ∀d∈ds,d∈a.defers∨Cq E d):jY P E G w' I' av n ({a with defers:=ds}.put o.dst v) ⟨jl st.sl o.dst x,hp',st.nb⟩:=by
 have UK: ∀d∈ds,Cq E d:=fun d hd=>(mU d hd).elim (h.defers d) id
 cases aeB:o.dst with
 | none=>exact ⟨fun k=>(h.sl k).mono hle,h.size,UK,h.aG.mono hle.dQ hle.cB⟩
 | some d=>
  have aX:d<a.tmps.size:=by
   unfold uA at hd
   rw[aeB] at hd
   rw[h.size]
   simpa using hd
  refine ⟨fun k=> ?_,by simp[Act.put,h.size],UK,h.aG.mono hle.dQ hle.cB⟩
  simp only[Act.put,jl,aO]
  cases hb:Nat.beq k d with
  | true=>
   rw[aW] at hb
   subst hb
   simpa[aX] using hv
  | false=>
   have bZ:d≠k:=fun e=>by rw[e,kO] at hb;cases hb
   have:=(h.sl k).mono hle
   simpa[Gm bZ] using this
theorem UL {E:FuncId→Bool} {G:Nat→V} {n:Nat} {a:Act} {st:St} {d:Nat} {b:Bool} (h:jY P E G w I β n a st) (hd:st.sl d= .bool b):a.tmps[d]? =some (.bool b):=by
 have:=h.sl d
 rw[hd] at this
 have:=this.kU
 cases ht:a.tmps[d]? with
 | none=>simp[ht] at this;cases this
 | some v=>simp[ht] at this;rw[this]
theorem aeC {x:V} {b:Bool} (h:mV x=some (some b)):x= .bool b:=by
 cases x with
 | bool c=>simp only[mV] at h;injection h with h;injection h with h;rw[h]
 | bw vs=>cases vs<;>simp[mV] at h
 | _=>simp[mV] at h
theorem aeD {x:V} (h:mV x=some none):x= .bw []:=by
 cases x with
 | bw vs=>cases vs with
  | nil=>rfl
  | cons _ _=>simp[mV] at h
 | bool c=>simp[mV] at h
 | _=>simp[mV] at h
theorem an.aeE {v:Value} (h:an P w I β hp v (.bw [])):v= .tuple #[]:=by
 cases h with
 | @bw cs _ hs _=>
  have:cs= #[]:=by
   apply Array.eq_empty_of_size_eq_zero
   simpa using hs
  rw[this]
theorem an.UM:an P w I β hp Go.undef (.bw []):= .bw (by rfl) (fun j v x _ hx=>by simp at hx)
theorem UN (hC:mA P A C) (hP:kF P A) {ops:Array Oper} {n i nb:Nat} {o:Oper} (ho:ops[i]? =some o) {a:Act} {st st':St} {R W:List Nat} (S:aI P w I β st.hp B M w0) (hA:jY P A.idle A.aG w I β n a st)
  (h:iS P A C n ops i o nb st=some (st',R,W)) {K:Act→World→Prop} {Q:Exit→Act→World→Prop}
  (hK: ∀a' w' I' av,Le P w I β st.hp w' I' av st'.hp→aI P w' I' av st'.hp B M w0→jY P A.idle A.aG w' I' av n a' st'→K a' w'):wpOp P ops Q i K a w:=by
 unfold iS at h
 cases hd:uA o n with
 | false=>rw[hd] at h;cases h
 | true=>
  rw[hd] at h
  simp only[cond_true] at h
  have go: ∀{MH:St} {R W:List Nat},(((gD P A st.sl i (nb+64*i) o).run C st.hp).bind fun r=>some ((⟨jl st.sl o.dst r.1.v,bY st.hp r.1.upd,st.nb⟩:St),r.2,r.1.upd.map (·.1)))=some (MH,R,W)→MH=st'→
    o.wp P a w K Q:=by
   intro MH R W h e
   obtain ⟨⟨r,rd⟩,h1,h2⟩:=bind_some h
   cases h2
   subst e
   exact aeA hC hP S hA.aG hA.sl h1 K Q fun v w' I' av ds k1 k2 k3 k4=>hK _ w' I' av k1 k2 (MG hA k1 hd k3 k4)
  unfold wpOp
  rw[ho]
  simp only
  cases hg:o.guard with
  | none=>
   rw[hg] at h
   simp only[Region.wanted,hg,gy]
   exact .inl (go h rfl)
  | some gw=>
   obtain ⟨g,want⟩:=gw
   rw[hg] at h
   simp only at h
   cases ng:(ops[g]?).bind (·.dst) with
   | none=>rw[ng] at h;cases h
   | some d=>
    rw[ng] at h
    simp only at h
    cases oc:mV (st.sl d) with
    | none=>rw[oc] at h;cases h
    | some ob=>
    rw[oc] at h
    cases ob with
    | none=>
     have yK:=aeD oc
     have hy:yielded ops a.tmps g=none:=by
      unfold yielded
      rw[ng]
      have:=hA.sl d
      rw[yK] at this
      have hu:=an.aeE this
      simp only[Option.bind_some]
      cases ht:a.tmps[d]? with
      | none=>rfl
      | some v=>simp[ht] at hu;subst hu;rfl
     simp only[Region.wanted,hg,hy]
     injection h with h
     injection h with h3 h4
     subst h3
     have h2:((none:Option Bool)==some want)=false:=rfl
     simp only[h2,Bool.false_eq_true,iP]
     exact hK _ w I β (Le.refl w I β st.hp) S (MG (ds:=a.defers) hA (Le.refl w I β st.hp) hd an.UM fun d h=> .inl h)
    | some b=>
    simp only at h
    have yK:=aeC oc
    have hy:yielded ops a.tmps g=some b:=by
     unfold yielded
     rw[ng]
     simp only[Option.bind_some,UL hA yK]
    simp only[Region.wanted,hg,hy]
    by_cases hb:b=want
    ·subst hb
     simp only[beq_self_eq_true,cond_true] at h
     simp only[beq_self_eq_true,gy]
     exact .inl (go h rfl)
    ·have h1:(b==want)=false:=by simp[hb]
     have h2:(some b==some want)=false:=by simp[hb]
     rw[h1] at h
     simp only[cond_false] at h
     injection h with h
     injection h with h3 h4
     subst h3
     simp only[h2,Bool.false_eq_true,iP]
     exact hK _ w I β (Le.refl w I β st.hp) S (MG (ds:=a.defers) hA (Le.refl w I β st.hp) hd an.UM fun d h=> .inl h)
theorem wA {α:Type}: ∀{p:Rd α} {r:α} {rd:List Nat},p.run C hp=some (r,rd)→(∀id∈rd,hp' id=hp id)→p.run C hp'=some (r,rd)
 | .ret a,r,rd,h,_=>h
 | .fail,r,rd,h,_=>by cases h
 | .get id k,r,rd,h,he=>by
  obtain ⟨x,h1,h2⟩:=bind_some h
  cases h2
  have e1:hp' id=hp id:=he id (by simp)
  have:=wA (p:=k (hp id)) (r:=x.1) (rd:=x.2) h1 (fun i hi=>he i (by simp[hi]))
  simp only[Rd.run,e1,this,Option.bind_some]
 | .opt o k,r,rd,h,he=>by
  obtain ⟨x,h1,h2⟩:=bind_some h
  simp only[Rd.run,h1,Option.bind_some]
  exact wA h2 he
 | .aC b k,r,rd,h,he=>by
  obtain ⟨h1,h2⟩:=aJ h
  simp only[Rd.run,h1,cond_true]
  exact wA h2 he
 | .call key ds k,r,rd,h,he=>by
  obtain ⟨x,h1,h2⟩:=bind_some h
  simp only[Rd.run,h1,Option.bind_some]
  exact wA h2 he
 | .alt true x y,r,rd,h,he=>wA (p:=x) h he
 | .alt false x y,r,rd,h,he=>wA (p:=y) h he
theorem aeF {G:Nat→V} {sl sl':Nat→V} {t:TypeId} {x:Operand} (h: ∀k,x= .tmp k→sl k=sl' k):aT P G t sl x=aT P G t sl' x:=by
 cases x with
 | tmp k=>exact h k rfl
 | _=>rfl
theorem aeG {sl sl':Nat→V} {ix nb:Nat} {o:Oper} (h: ∀x∈o.op.operands,∀k,x= .tmp k→sl k=sl' k):gD P A sl ix nb o=gD P A sl' ix nb o:=by
 have fT: ∀t x,x∈o.op.operands→aT P A.aG t sl x=aT P A.aG t sl' x:=fun t x hx=>aeF (h x hx)
 obtain ⟨dst,op,ty,pos,after,guard⟩:=o
 have UO: ∀(t:TypeId) (ps:Array (Nat × Operand)),(∀x∈ps.map (·.2),aT P A.aG t sl x=aT P A.aG t sl' x)→
   (ps.toList.map fun p=>(p.1,aT P A.aG t sl p.2))=ps.toList.map fun p=>(p.1,aT P A.aG t sl' p.2):=fun t ps hp=>
  oP fun p hm=>by rw[hp p.2 (Array.mem_map.2 ⟨p,qu.1 hm,rfl⟩)]
 have aeH: ∀(t:TypeId) (ps:Array (Nat × Operand)),(∀x∈ps.map (·.2),aT P A.aG t sl x=aT P A.aG t sl' x)→
   (ps.toList.map fun p=>(aT P A.aG t sl p.2).cells)=ps.toList.map fun p=>(aT P A.aG t sl' p.2).cells:=fun t ps hp=>
  oP fun p hm=>by rw[hp p.2 (Array.mem_map.2 ⟨p,qu.1 hm,rfl⟩)]
 cases op<;>simp only[Op.operands] at fT<;>simp only[gD]
 case pick c x y=>rw[fT ty c (by simp),fT ty x (by simp),fT ty y (by simp)]
 case build t ps=>rw[UO ty ps fun x hx=>fT ty x (by simpa using hx),aeH ty ps fun x hx=>fT ty x (by simpa using hx)]
 case buildSlice t len ps=>
  split
  ·rename_i e _
   rw[UO e ps fun x hx=>fT e x (by simpa using hx)]
  ·rfl
 case slice t x lo hi mx=>
  cases mx with
  | some m=>
   have e1:lo.map (aT P A.aG 0 sl)=lo.map (aT P A.aG 0 sl'):=by
    cases lo with
    | none=>rfl
    | some l=>simp only[Option.map_some,fT 0 l (by simp)]
   have e2:hi.map (aT P A.aG 0 sl)=hi.map (aT P A.aG 0 sl'):=by
    cases hi with
    | none=>rfl
    | some l=>simp only[Option.map_some,fT 0 l (by simp)]
   have e3:=fT 0 m (by simp)
   simp only[fT ty x (by simp),e1,e2,e3]
  | none=>
   have e1:lo.map (aT P A.aG 0 sl)=lo.map (aT P A.aG 0 sl'):=by
    cases lo with
    | none=>rfl
    | some l=>simp only[Option.map_some,fT 0 l (by simp)]
   have e2:hi.map (aT P A.aG 0 sl)=hi.map (aT P A.aG 0 sl'):=by
    cases hi with
    | none=>rfl
    | some l=>simp only[Option.map_some,fT 0 l (by simp)]
   simp only[fT ty x (by simp),e1,e2]
 case call c=>
  obtain ⟨callee,args,argTypes⟩:=c
  have wB: ∀t x,x∈args→aT P A.aG t sl x=aT P A.aG t sl' x:=fun t x hx=>fT t x (by simp[Call.operands,hx])
  have hl: ∀t (l:List Operand),(∀x∈l,x∈args)→l.map (aT P A.aG t sl)=l.map (aT P A.aG t sl'):=fun t l hl=>oP fun x hx=>wB t x (hl x hx)
  have hz:((args.toList.zip argTypes.toList).map fun p=>aT P A.aG p.2 sl p.1)=(args.toList.zip argTypes.toList).map fun p=>aT P A.aG p.2 sl' p.1:=
   oP fun p hp=>wB p.2 p.1 (qu.1 (List.of_mem_zip hp).1)
  cases callee with
  | invoke r m=>rfl
  | builtin b=>
   have cC: ∀x∈args.toList,∀t,aT P A.aG t sl x=aT P A.aG t sl' x:=fun x hx t=>wB t x (qu.1 hx)
   have HU: ∀t (l:List Operand),(∀x∈l,∀t,aT P A.aG t sl x=aT P A.aG t sl' x)→l.map (aT P A.aG t sl)=l.map (aT P A.aG t sl'):=fun t l h=>oP fun x hx=>h x hx t
   cases b<;>first|rfl|skip
   case append=>
    dsimp only
    generalize args.toList=al at cC
    match al,cC,argTypes.toList with
    | [s,x],cC,[t,u]=>simp only[cC s (by simp),cC x (by simp)]
    | [],_,_=>rfl
    | [_],_,_=>rfl
    | _::_::_::_,_,_=>rfl
    | [_,_],_,[]=>rfl
    | [_,_],_,[_]=>rfl
    | [_,_],_,_::_::_::_=>rfl
   case copy=>
    dsimp only
    generalize args.toList=al at cC
    match al,cC,argTypes.toList with
    | [s,x],cC,[t,u]=>simp only[cC s (by simp),cC x (by simp)]
    | [],_,_=>rfl
    | [_],_,_=>rfl
    | _::_::_::_,_,_=>rfl
    | [_,_],_,[]=>rfl
    | [_,_],_,[_]=>rfl
    | [_,_],_,_::_::_::_=>rfl
   case len=>
    dsimp only
    generalize args.toList=al at cC
    match al,cC,argTypes.toList with
    | [x],cC,[t]=>simp only[cC x (by simp)]
    | [],_,_=>rfl
    | _::_::_,_,_=>rfl
    | [_],_,[]=>rfl
    | [_],_,_::_::_=>rfl
   case clear=>
    dsimp only
    generalize args.toList=al at cC
    match al,cC,argTypes.toList with
    | [x],cC,[t]=>simp only[cC x (by simp)]
    | [],_,_=>rfl
    | _::_::_,_,_=>rfl
    | [_],_,[]=>rfl
    | [_],_,_::_::_=>rfl
   case unsafeSliceData=>
    dsimp only
    generalize args.toList=al at cC
    match al,cC with
    | [],_=>rfl
    | [x],cC=>simp only[cC x (by simp)]
    | _::_::_,_=>rfl
   case unsafeString=>
    dsimp only
    generalize args.toList=al at cC
    match al,cC,argTypes.toList with
    | [s,x],cC,[t,u]=>simp only[cC s (by simp),cC x (by simp)]
    | [],_,_=>rfl
    | [_],_,_=>rfl
    | _::_::_::_,_,_=>rfl
    | [_,_],_,[]=>rfl
    | [_,_],_,[_]=>rfl
    | [_,_],_,_::_::_::_=>rfl
   case max=>
    dsimp only
    generalize args.toList=al at cC
    match al,cC with
    | [],_=>rfl
    | x::l,cC=>simp only[cC x (by simp),HU ty l (fun y hy=>cC y (by simp[hy]))]
   case min=>
    dsimp only
    generalize args.toList=al at cC
    match al,cC with
    | [],_=>rfl
    | x::l,cC=>simp only[cC x (by simp),HU ty l (fun y hy=>cC y (by simp[hy]))]
  | value f=>
   cases f<;>first|rfl|skip
   ·rename_i t
    have ht:sl t=sl' t:=h (.tmp t) (by simp[Op.operands,Call.operands]) t rfl
    simp only[hz,ht]
   ·simp only[hz]
    cases hx:args.toList with
    | nil=>rfl
    | cons x l=>
     cases l with
     | cons _ _=>rfl
     | nil=>simp only[wB ty x (qu.1 (by rw[hx];simp))]
 case defer c=>
  obtain ⟨callee,args,argTypes⟩:=c
  cases callee with
  | invoke r m=>rfl
  | builtin b=>rfl
  | value f=>
   cases f<;>first|rfl|skip
   rename_i t
   have ht:sl t=sl' t:=h (.tmp t) (by simp[Op.operands,Call.operands]) t rfl
   simp only[ht]
 case makeFunc fn a b=>
  cases fn<;>first|rfl|skip
  have e1:a.toList.map (aT P A.aG ty sl)=a.toList.map (aT P A.aG ty sl'):=oP fun x hx=>fT ty x (by simp[qu.1 hx])
  have e2:b.toList.map (aT P A.aG ty sl)=b.toList.map (aT P A.aG ty sl'):=oP fun x hx=>fT ty x (by simp[qu.1 hx])
  dsimp only
  rw[e1,e2]
 case makeMap t r=>cases r<;>rfl
 all_goals first
  | rfl
  | (simp[fT];done)
end
section
variable {P:Program} {A:cU} {w w':World} {I I' I2:Nat→Prop} {μ β av:Nat→Option Nat} {hp hp':Nat→Option aj} {C:ae} {B:Nat} {M:Nat→Prop} {w0:Start}
theorem UP {n i nb:Nat} {ops:Array Oper} {o:Oper} {st st':St} {R W:List Nat} (h:iS P A C n ops i o nb st=some (st',R,W)):
  ∃x upd,st'=⟨jl st.sl o.dst x,bY st.hp upd,st.nb⟩∧W=upd.map (·.1)∧∀fL:St,(∀d∈o.looksAt ops,fL.sl d=st.sl d)→(∀id∈R,fL.hp id=st.hp id)→
   iS P A C n ops i o nb fL=some (⟨jl fL.sl o.dst x,bY fL.hp upd,fL.nb⟩,R,W):=by
 unfold iS at h
 cases hd:uA o n with
 | false=>rw[hd] at h;cases h
 | true=>
  rw[hd] at h
  simp only[cond_true] at h
  have go:(((gD P A st.sl i (nb+64*i) o).run C st.hp).bind fun r=>some ((⟨jl st.sl o.dst r.1.v,bY st.hp r.1.upd,st.nb⟩:St),r.2,r.1.upd.map (·.1)))=some (st',R,W)→
    ∃x upd,st'=⟨jl st.sl o.dst x,bY st.hp upd,st.nb⟩∧W=upd.map (·.1)∧∀fL:St,(∀d∈o.looksAt ops,fL.sl d=st.sl d)→(∀id∈R,fL.hp id=st.hp id)→
     (((gD P A fL.sl i (nb+64*i) o).run C fL.hp).bind fun r=>some ((⟨jl fL.sl o.dst r.1.v,bY fL.hp r.1.upd,fL.nb⟩:St),r.2,r.1.upd.map (·.1)))=some (⟨jl fL.sl o.dst x,bY fL.hp upd,fL.nb⟩,R,W):=by
   intro h
   obtain ⟨⟨r,rd⟩,h1,h2⟩:=bind_some h
   cases h2
   refine ⟨r.v,r.upd,rfl,rfl,fun fL hs hh=> ?_⟩
   rw[aeG (sl':=st.sl) fun x hx k hk=> ?_,wA h1 hh]
   ·rfl
   ·subst hk
    exact hs k (List.mem_append_left _ (List.mem_filterMap.2 ⟨.tmp k,by simpa using hx,rfl⟩))
  cases hg:o.guard with
  | none=>
   rw[hg] at h
   obtain ⟨x,upd,e1,e2,e3⟩:=go h
   refine ⟨x,upd,e1,e2,fun fL hs hh=> ?_⟩
   unfold iS
   simp only[hd,cond_true,hg]
   exact e3 fL hs hh
  | some gw=>
   obtain ⟨g,want⟩:=gw
   rw[hg] at h
   simp only at h
   cases ng:(ops[g]?).bind (·.dst) with
   | none=>rw[ng] at h;cases h
   | some d=>
    rw[ng] at h
    simp only at h
    have MI:d∈o.looksAt ops:=List.mem_append_right _ (by rw[hg];simp[ng])
    cases oc:mV (st.sl d) with
    | none=>rw[oc] at h;cases h
    | some ob=>
    rw[oc] at h
    cases ob with
    | none=>
     injection h with h
     injection h with h3 h4
     injection h4 with h5 h6
     subst h5;subst h6
     refine ⟨.bw [],[],h3.symm,rfl,fun fL hs hh=> ?_⟩
     unfold iS
     simp only[hd,cond_true,hg,ng,hs d MI,oc]
     rfl
    | some b=>
    simp only at h
    cases hb:b==want with
    | true=>
     rw[hb] at h
     obtain ⟨x,upd,e1,e2,e3⟩:=go h
     refine ⟨x,upd,e1,e2,fun fL hs hh=> ?_⟩
     unfold iS
     simp only[hd,cond_true,hg,ng,hs d MI,oc,hb]
     exact e3 fL hs hh
    | false=>
     rw[hb] at h
     simp only[cond_false] at h
     injection h with h
     injection h with h3 h4
     injection h4 with h5 h6
     subst h5;subst h6
     refine ⟨.bw [],[],h3.symm,rfl,fun fL hs hh=> ?_⟩
     unfold iS
     simp only[hd,cond_true,hg,ng,hs d MI,oc,hb,cond_false]
     rfl
theorem UQ {sl:Nat→V} {d:Option Nat} {x:V} {k:Nat} (h:d≠some k):jl sl d x k=sl k:=by
 cases d with
 | none=>rfl
 | some d=>exact fj _ _ fun e=>h (by rw[e])
theorem aeI {hp:Nat→Option aj} {a b:List (Nat × aj)} (h: ∀q∈a,∀q'∈b,q.1≠q'.1):bY (bY hp a) b=bY (bY hp b) a:=by
 funext id
 by_cases ha: ∃q∈a,q.1=id
 ·have hb: ∀q∈b,q.1≠id:=by
   obtain ⟨q,hq,rfl⟩:=ha
   exact fun q' ct e=>h q hq q' ct e.symm
  rw[wz hb]
  obtain ⟨q,hq,rfl⟩:=ha
  have same: ∀(bG iW:Nat→Option aj) (l:List (Nat × aj)) (q:Nat × aj),q∈l→bY bG l q.1=bY iW l q.1:=by
   intro bG iW l
   induction l with
   | nil=>intro q hq;simp at hq
   | cons p l ih=>
    intro q hq
    simp only[bY,aO]
    cases hb:Nat.beq q.1 p.1 with
    | true=>rfl
    | false=>
     simp only[cond_false]
     refine ih q ((gT.1 hq).resolve_left fun e=> ?_)
     rw[e,kO] at hb;cases hb
  exact same _ _ a q hq
 ·rw[wz (hp:=bY hp b) (l:=a) fun q hq e=>ha ⟨q,hq,e⟩]
  have same: ∀(bG iW:Nat→Option aj) (l:List (Nat × aj)),bG id=iW id→bY bG l id=bY iW l id:=by
   intro bG iW l he
   induction l with
   | nil=>exact he
   | cons p l ih=>
    simp only[bY,aO]
    cases hb:Nat.beq id p.1 with
    | true=>rfl
    | false=>exact ih
  exact same _ _ b (wz fun q hq e=>ha ⟨q,hq,e⟩)
structure UR (ops:Array Oper) (o1 o2:Oper) (R1 W1 R2 W2:List Nat):Prop where
 apart:Oper.apart ops o1 o2=true
 w: ∀id∈W1,id∉R2∧id∉W2
 r: ∀id∈R1,id∉W2
theorem aeJ {n i j nb:Nat} {ops:Array Oper} {o1 o2:Oper} {st jZ fL:St} {R1 W1 R2 W2:List Nat} (h1:iS P A C n ops i o1 nb st=some (jZ,R1,W1)) (h2:iS P A C n ops j o2 nb jZ=some (fL,R2,W2))
  (hi:UR ops o1 o2 R1 W1 R2 W2): ∃HV,iS P A C n ops j o2 nb st=some (HV,R2,W2)∧iS P A C n ops i o1 nb HV=some (fL,R1,W1):=by
 obtain ⟨x1,u1,e1,f1,g1⟩:=UP h1
 obtain ⟨x2,u2,e2,f2,g2⟩:=UP h2
 obtain ⟨a1,a2,a3⟩:=Oper.apart_spec hi.apart
 subst e1
 refine ⟨_,g2 st (fun d hd=> ?_) (fun id hd=> ?_),?_⟩
 ·simp only
  rw[UQ fun e=>a1 d e hd]
 ·simp only
  rw[wz fun q hq e=>(hi.w id (by rw[f1];exact fE.2 ⟨q,hq,e⟩)).1 hd]
 ·rw[g1 _ (fun d hd=> ?_) (fun id hd=> ?_),e2]
  ·congr 3
   ·funext k
    cases hd1:o1.dst with
    | none=>rfl
    | some d1=>
     cases o4:o2.dst with
     | none=>rfl
     | some d2=>
      have bZ:d2≠d1:=fun e=>a2 d1 hd1 (by rw[o4,e])
      simp only[jl,aO]
      cases US:Nat.beq k d1<;>cases sN:Nat.beq k d2<;>simp only[cond_true,cond_false]
      rw[aW] at US sN
      exact absurd (sN.symm.trans US) bZ
   ·exact (aeI fun q hq q' ct e=>(hi.w q.1 (by rw[f1];exact fE.2 ⟨q,hq,rfl⟩)).2 (by rw[f2];exact fE.2 ⟨q',ct,e.symm⟩)).symm
  ·simp only
   rw[UQ fun e=>a3 d e hd]
  ·simp only
   rw[wz fun q hq e=>hi.r id hd (by rw[f2];exact fE.2 ⟨q,hq,e⟩)]
def y7 (P:Program) (A:cU) (C:ae) (n:Nat) (ops:Array Oper) (nb:Nat):List (Nat × Oper × List Nat × List Nat)→St→St→Prop
 | [],st,st'=>st=st'
 | (i,o,R,W)::l,st,st'=> ∃jZ,iS P A C n ops i o nb st=some (jZ,R,W)∧y7 P A C n ops nb l jZ st'
def wC (x:Nat × Oper × List Nat × List Nat):Nat × List Nat × List Nat:=(x.1,x.2.2.1,x.2.2.2)
theorem UT {n nb:Nat} {ops:Array Oper}: ∀{l:List (Nat × Oper)} {st st':St} {log HW:Log},qC P A C n ops nb l st log=some (st',HW)→
  ∃g,g.map (fun x=>(x.1,x.2.1))=l∧HW=log++g.map wC∧y7 P A C n ops nb g st st'
 | [],st,st',log,HW,h=>by
  cases h
  exact ⟨[],rfl,by simp,rfl⟩
 | (i,o)::l,st,st',log,HW,h=>by
  obtain ⟨⟨jZ,R,W⟩,h1,h2⟩:=bind_some h
  obtain ⟨g,a,b,c⟩:=UT h2
  exact ⟨(i,o,R,W)::g,by simp[a],by simp[b,wC],jZ,h1,c⟩
def UU (ops:Array Oper) (x y:Nat × Oper × List Nat × List Nat):Prop:=UR ops x.2.1 y.2.1 x.2.2.1 x.2.2.2 y.2.2.1 y.2.2.2
theorem UW {n nb:Nat} {ops:Array Oper} {y:Nat × Oper × List Nat × List Nat} {g2:List (Nat × Oper × List Nat × List Nat)}: ∀{g1:List (Nat × Oper × List Nat × List Nat)} {st st':St},
  y7 P A C n ops nb (g1++y::g2) st st'→(∀x∈g1,UU ops x y)→∃jZ,iS P A C n ops y.1 y.2.1 nb st=some (jZ,y.2.2.1,y.2.2.2)∧y7 P A C n ops nb (g1++g2) jZ st'
 | [],st,st',h,_=>h
 | x::g1,st,st',h,hi=>by
  obtain ⟨jZ,h1,h2⟩:=h
  obtain ⟨fL,h3,h4⟩:=UW h2 fun z hz=>hi z (nJ _ hz)
  obtain ⟨HV,h5,h6⟩:=aeJ h1 h3 (hi x (by simp))
  exact ⟨HV,h5,fL,h6,h4⟩
theorem UX (hC:mA P A C) (hP:kF P A) {n nb:Nat} {ops:Array Oper} {Q:Exit→Act→World→Prop}: ∀{g:List (Nat × Oper × List Nat × List Nat)} {st st':St} {a:Act} {w:World} {I:Nat→Prop} {β:Nat→Option Nat},
  y7 P A C n ops nb g st st'→(∀x∈g,ops[x.1]? =some x.2.1)→aI P w I β st.hp B M w0→jY P A.idle A.aG w I β n a st→
  (∀a' w' I' av,Le P w I β st.hp w' I' av st'.hp→aI P w' I' av st'.hp B M w0→jY P A.idle A.aG w' I' av n a' st'→Q .normal a' w')→wpOps P ops Q (g.map (·.1)) a w
 | [],st,st',a,w,I,β,h,_,S,hA,hQ=>by
  cases h
  exact hQ a w I β (Le.refl w I β _) S hA
 | x::g,st,st',a,w,I,β,h,ho,S,hA,hQ=>by
  obtain ⟨jZ,h1,h2⟩:=h
  rw[ki,wpOps_cons]
  refine UN hC hP (ho x (by simp)) S hA h1 fun a' w' I' av k1 k2 k3=> ?_
  exact UX hC hP h2 (fun y hy=>ho y (nJ _ hy)) k2 k3 fun a2 w2 I2 cq m1 m2 m3=>hQ a2 w2 I2 cq (k1.trans m1) m2 m3
end
section
variable {P:Program} {A:cU} {w w':World} {I I' I2:Nat→Prop} {μ β av:Nat→Option Nat} {hp hp':Nat→Option aj} {C:ae} {B:Nat} {M:Nat→Prop} {w0:Start}
inductive wD (ops:Array Oper):Nat→Nat→Prop
 | UY {i x:Nat} {o:Oper} {e:Edge}:ops[i]? =some o→e∈o.after→Region.binds .any e=true→e.on=x→wD ops i x
 | trans {i x:Nat} {o:Oper} {e:Edge}:ops[i]? =some o→e∈o.after→Region.binds .any e=true→wD ops e.on x→wD ops i x
theorem UZ {acc:Array Nat} {x:Nat}: ∀{l:List Edge} {s:Nat},(l.foldl (fun s e=>if Region.binds .any e then s|||2^e.on|||acc.getD e.on 0 else s) s).testBit x=true→
  s.testBit x=true∨∃e∈l,Region.binds .any e=true∧(e.on=x∨(acc.getD e.on 0).testBit x=true)
 | [],s,h=> .inl h
 | e::l,s,h=>by
  simp only[List.foldl_cons] at h
  rcases UZ h with h1|⟨e',a,b⟩
  ·by_cases hb:Region.binds .any e=true
   ·rw[ag hb,xZ,xZ,vy,vy] at h1
    rcases h1 with (h1|h1)|h1
    ·exact .inl h1
    ·rw[rS] at h1
     exact .inr ⟨e,by simp,hb,.inl (by simpa using h1)⟩
    ·exact .inr ⟨e,by simp,hb,.inr h1⟩
   ·rw[ah hb] at h1
    exact .inl h1
  ·exact .inr ⟨e',nJ _ a,b⟩
theorem U0 {ops:Array Oper} {x:Nat}: ∀{l:List Oper} {acc:Array Nat},(∀j o,l[j]? =some o→ops[acc.size+j]? =some o)→(∀j,(acc.getD j 0).testBit x=true→wD ops j x)→
  ∀j,((l.foldl (fun acc o=>acc.push (o.after.foldl (fun s e=>if Region.binds .any e then s|||2^e.on|||acc.getD e.on 0 else s) 0)) acc).getD j 0).testBit x=true→wD ops j x
 | [],acc,_,HX,j,h=>HX j h
 | o::l,acc,hl,HX,j,h=>by
  simp only[List.foldl_cons] at h
  refine U0 (l:=l) ?_ ?_ j h
  ·intro j o' hj
   have:=hl (j+1) o' (by simpa using hj)
   rw[Array.size_push]
   rwa [show acc.size+1+j=acc.size+(j+1) by omega]
  ·intro k hk
   simp only[xV,Array.getElem?_push] at hk
   by_cases wE:k=acc.size
   ·rw[ag wE] at hk
    simp only[Option.getD_some] at hk
    rw[←Gn] at hk
    have ho:=hl 0 o rfl
    rw[Nat.add_zero] at ho
    rw[wE]
    have sN:(o.after.toList.foldl (fun s e=>if Region.binds .any e then s|||2^e.on|||acc.getD e.on 0 else s) 0).testBit x=true:=by simpa[xV] using hk
    rcases UZ sN with h0|⟨e,he,hb,h1⟩
    ·simp at h0
    ·rcases h1 with h1|h1
     ·exact .UY ho (qu.1 he) hb h1
     ·exact .trans ho (qu.1 he) hb (HX _ h1)
   ·rw[ah wE] at hk
    exact HX k (by simpa[xV] using hk)
theorem aeK {ops:Array Oper} {i x:Nat} (h:((Region.before ops).getD i 0).testBit x=true):wD ops i x:=by
 unfold Region.before at h
 rw[←Gn] at h
 refine U0 (l:=ops.toList) (acc:= #[]) (fun j o hj=>by simpa using hj) (fun j hj=>by simp at hj) i h
def U3 (ops:Array Oper) (listed:Array Bool):Prop:= ∀i o,ops[i]? =some o→listed.getD i false=true→∀e∈o.after,Region.binds .any e=true→listed.getD e.on false=true
theorem aeL {ops:Array Oper} {listed:Array Bool} (hc:U3 ops listed) {i x:Nat} (h:wD ops i x) (hi: ∀o,ops[i]? =some o→∀e∈o.after,Region.binds .any e=true→listed.getD e.on false=true):listed.getD x false=true:=by
 induction h with
 | UY ho he hb hx=>rw[←hx];exact hi _ ho _ he hb
 | trans ho he hb _ ih=>exact ih fun o' nQ e' wh aB=>hc _ o' nQ (hi _ ho _ he hb) e' wh aB
theorem U4: ∀{l:List Oper} {k j:Nat} {o:Oper},Bz k l=true→l[j]? =some o→∀e∈o.after,Region.binds .any e=true→e.on<k+j
 | [],k,j,o,_,h=>by simp at h
 | o'::l,k,j,o,hk,h=>by
  simp only[Bz,aL] at hk
  cases j with
  | zero=>
   simp at h
   subst h
   intro e he hb
   have:=gl.1 hk.1 e (qu.2 he)
   simp[hb] at this
   omega
  | succ j=>
   intro e he hb
   have:=U4 hk.2 (j:=j) (by simpa using h) e he hb
   omega
theorem U5 {ops:Array Oper} {vL:Array Nat}: ∀{l:Log},GS ops vL l=true→l.Pairwise fun x y=>By ops vL x y=true
 | [],_=> .nil
 | x::l,h=>by
  simp only[GS,aL] at h
  exact .cons (fun y hy=>gl.1 h.1 y hy) (U5 h.2)
theorem U6 {listed:Array Bool} {i:Nat} (h:listed.getD i true=false):i<listed.size∧listed.getD i false=false:=by
 rcases eV i listed.size with h'|h'
 ·refine ⟨h',?_⟩
  simpa[h'] using h
 ·simp[Array.getElem?_eq_none h'] at h
theorem U7 (hC:mA P A C) (hP:kF P A) {n nb:Nat} {ops:Array Oper} {Q:Exit→Act→World→Prop} (HY:Bz 0 ops.toList=true):
  ∀(fuel:Nat) {g:List (Nat × Oper × List Nat × List Nat)} {listed:Array Bool} {st st':St} {a:Act} {w:World} {I:Nat→Prop} {β:Nat→Option Nat},
  g.length=fuel→y7 P A C n ops nb g st st'→(∀x∈g,ops[x.1]? =some x.2.1)→(g.map (·.1)).Pairwise (· < ·)→(g.map wC).Pairwise (fun x y=>By ops (Region.before ops) x y=true)→
  listed.size=ops.size→(∀i,i<ops.size→(listed.getD i false=false↔i∈g.map (·.1)))→U3 ops listed→
  aI P w I β st.hp B M w0→jY P A.idle A.aG w I β n a st→
  (∀a' w' I' av,Le P w I β st.hp w' I' av st'.hp→aI P w' I' av st'.hp B M w0→jY P A.idle A.aG w' I' av n a' st'→Q .normal a' w')→wpAny P .any ops Q fuel listed a w
 | 0,g,listed,st,st',a,w,I,β,hf,hr,ho,aX,HZ,a9,wF,gp,S,hA,hQ=>by
  obtain rfl:g=[]:=oK hf
  cases hr
  refine ⟨?_,hQ a w I β (Le.refl w I β _) S hA⟩
  rw[List.eq_nil_iff_forall_not_mem]
  intro i hi
  obtain ⟨h0,_⟩:=mem_ready.1 hi
  obtain ⟨h1,h2⟩:=U6 h0
  have:=(wF i (by omega)).1 h2
  simp at this
 | fuel+1,g,listed,st,st',a,w,I,β,hf,hr,ho,aX,HZ,a9,wF,gp,S,hA,hQ=>by
  refine ⟨fun Cv=> ?_,fun i hi=> ?_⟩
  ·exfalso
   cases g with
   | nil=>simp at hf
   | cons x g=>
    have hx:=ho x (by simp)
    have iI:x.1<ops.size:=(jh.1 hx).1
    have gd:x.1∈Region.ready .any ops listed:=by
     rw[mem_ready]
     have h0:=(wF x.1 iI).2 (by simp)
     refine ⟨?_,x.2.1,hx,fun e he hb=> ?_⟩
     ·have hl:x.1<listed.size:=by omega
      simpa[hl] using h0
     ·have L7:=U4 HY (j:=x.1) (by simpa using hx) e he hb
      rw[fe] at L7
      cases hle:listed.getD e.on false with
      | true=>rfl
      | false=>
       have hm:=(wF e.on (by omega)).1 hle
       simp only[ki,gT] at hm
       rw[ki,vz] at aX
       rcases hm with hm|hm
       ·omega
       ·have:=aX.1 _ hm;omega
    rw[Cv] at gd
    cases gd
  ·obtain ⟨h0,oi,Cx,U8⟩:=mem_ready.1 hi
   obtain ⟨h1,h2⟩:=U6 h0
   have hig:=(wF i (by omega)).1 h2
   obtain ⟨y,hy,hyi⟩:=fE.1 hig
   obtain ⟨g1,g2,rfl⟩:=List.append_of_mem hy
   subst hyi
   have U9:=ho y hy
   rw[Cx] at U9
   have Va:oi=y.2.1:=dq U9
   have lU:((g1++y::g2).map (·.1)).Nodup:=aX.imp fun h=>Nat.ne_of_lt h
   have aeM: ∀x∈g1,UU ops x y:=by
    intro x hx
    have hp:By ops (Region.before ops) (wC x) (wC y)=true:=by
     rw[qt,ki,Gr] at HZ
     exact HZ.2.2 _ (fE.2 ⟨x,hx,rfl⟩) _ (by simp)
    have Vb:=ho x (ew.2 (.inl hx))
    unfold By at hp
    rw[vy] at hp
    rcases hp with hp|hp
    ·have hl:=aeL gp (aeK hp) fun o nQ e he hb=>by
      have:o=oi:=by
       have h3:ops[y.1]? =some o:=nQ
       rw[Cx] at h3
       exact (dq h3).symm
      subst this
      exact U8 e he hb
     have iI:x.1<ops.size:=(jh.1 Vb).1
     have:=(wF x.1 iI).2 (fE.2 ⟨x,ew.2 (.inl hx),rfl⟩)
     rw[show (wC x).1=x.1 from rfl,this] at hl
     cases hl
    ·simp only[wC,xV,Vb,Cx,Option.getD_some,aL,oL] at hp
     obtain ⟨q1,q2,q3⟩:=hp
     refine ⟨Va▸q1,fun id af=> ?_,fun id af=>HM q3 af⟩
     have:=HM q2 af
     rw[ew] at this
     exact ⟨fun h=>this (.inl h),fun h=>this (.inr h)⟩
   obtain ⟨jZ,kT,n9⟩:=UW hr aeM
   rw[←Va] at kT
   refine UN hC hP Cx S hA kT fun a' w' I' av k1 k2 k3=> ?_
   have jv:List.Sublist (g1++g2) (g1++y::g2):=List.Sublist.append_left (List.sublist_cons_self y g2) g1
   have vO: ∀j,j≠y.1→(listed.setIfInBounds y.1 true).getD j false=listed.getD j false:=fun j hj=>getD_set_ne false (Ne.symm hj)
   refine U7 hC hP HY fuel (g:=g1++g2) (st':=st') ?_ n9 (fun x hx=>ho x (jv.subset hx)) (aX.sublist (jv.map _)) (HZ.sublist (jv.map _)) (by simp[a9]) (fun j hj=> ?_) (fun j o MJ dt e he hb=> ?_) k2 k3 fun a2 w2 I2 cq m1 m2 m3=>hQ a2 w2 I2 cq (k1.trans m1) m2 m3
   ·simp at hf⊢;omega
   ·by_cases qL:j=y.1
    ·subst qL
     have hl:y.1<listed.size:=by omega
     simp only[xV,KV hl,Option.getD_some]
     refine ⟨fun h=>(by cases h),fun h=> ?_⟩
     exfalso
     rw[qt,ki,Gs,List.nodup_cons] at lU
     rw[qt,ew] at h
     rcases h with h|h
     ·exact lU.2.2 _ h _ (by simp) rfl
     ·exact lU.2.1.1 h
    ·rw[vO j qL,wF j hj]
     simp only[qt,ki,ew,gT]
     constructor
     ·rintro (h|h|h)
      ·exact .inl h
      ·exact absurd h qL
      ·exact .inr h
     ·rintro (h|h)
      ·exact .inl h
      ·exact .inr (.inr h)
   ·by_cases qL:j=y.1
    ·subst qL
     rw[Cx] at MJ
     cases MJ
     exact getD_set_true (U8 e he hb)
    ·rw[vO j qL] at dt
     exact getD_set_true (gp j o MJ dt e he hb)
end
section
variable {P:Program} {A:cU} {w w':World} {I I' I2:Nat→Prop} {μ β av:Nat→Option Nat} {hp hp':Nat→Option aj} {C:ae} {B:Nat} {M:Nat→Prop} {w0:Start}
theorem Vc: ∀{l:List Oper} {k j:Nat},(pM k l)[j]? =(l[j]?).map fun o=>(k+j,o)
 | [],k,j=>by simp[pM]
 | o::l,k,0=>by simp[pM]
 | o::l,k,j+1=>by
  simp only[pM,List.getElem?_cons_succ,Vc]
  congr 1
  funext o
  rw[show k+1+j=k+(j+1) by omega]
theorem Vd: ∀{l:List Oper} {k:Nat},(pM k l).map (·.1)=List.range' k l.length
 | [],k=>rfl
 | o::l,k=>by simp[pM,Vd,List.range'_succ]
theorem aeN (hC:mA P A C) (hP:kF P A) (hm:P.follows .mixedOrders=true) {n id:Nat} {ops:Array Oper} {draw:Bool} {st st':St} {a:Act} {Q:Exit→Act→World→Prop}
  (h:yr P A C n ops draw st=some st') (S:aI P w I β st.hp B M w0) (hA:jY P A.idle A.aG w I β n a st)
  (hQ: ∀a' w' I' av,Le P w I β st.hp w' I' av st'.hp→aI P w' I' av st'.hp B M w0→jY P A.idle A.aG w' I' av n a' st'→Q .normal a' w'):(Code.region id ops draw).wp P Q a w:=by
 obtain ⟨⟨jZ,log⟩,h1,h2⟩:=bind_some h
 obtain ⟨g,g1,g2,g3⟩:=UT h1
 have H0:g.map (·.1)=List.range ops.size:=by
  have:g.map (·.1)=(g.map fun x=>(x.1,x.2.1)).map (·.1):=by simp
  rw[this,g1,Vd,List.range_eq_range']
  simp
 have Ve: ∀x∈g,ops[x.1]? =some x.2.1:=by
  intro x hx
  have:(x.1,x.2.1)∈pM 0 ops.toList:=by rw[←g1];exact fE.2 ⟨x,hx,rfl⟩
  obtain ⟨j,hj⟩:=List.mem_iff_getElem?.1 this
  rw[Vc] at hj
  cases ho:ops.toList[j]? with
  | none=>rw[ho] at hj;cases hj
  | some o=>
   rw[ho] at hj
   simp only[Option.map_some,fe,ez,lD] at hj
   rw[←hj.1,←hj.2]
   simpa using ho
 cases draw with
 | false=>
  simp only[Bool.not_false,Bool.true_or,cond_true] at h2
  cases h2
  refine wp_region ?_
  rw[←H0]
  exact UX hC hP g3 Ve S hA hQ
 | true=>
  simp only[Bool.not_true,Bool.false_or] at h2
  cases hc:(Region.noSelect ops&&BA ops log) with
  | false=>rw[hc] at h2;cases h2
  | true=>
   rw[hc] at h2
   cases h2
   simp only[aL,BA] at hc
   obtain ⟨hns,HY,aeO⟩:=hc
   simp only[List.nil_append] at g2
   refine wp_region_any hm ?_
   have hlen:g.length=ops.size:=by
    have:=congrArg List.length H0
    simpa using this
   refine U7 hC hP HY ops.size (g:=g) (st':=st') hlen g3 Ve (by rw[H0];exact List.pairwise_lt_range) (by rw[←g2];exact U5 aeO) (by simp) (fun i hi=> ?_) (fun i o ho hl=> ?_)
    (w:=w.drew) S.drew ⟨fun k=>(hA.sl k).mono (Le.drew w I β _),hA.size,hA.defers,hA.aG.mono (Le.drew (P:=P) w I β st.hp).dQ (Le.drew (P:=P) w I β st.hp).cB⟩ fun a' w' I' av k1 k2 k3=>hQ a' w' I' av ((Le.drew w I β _).trans k1) k2 k3
   ·rw[H0]
    simp[hi]
   ·have hi:=(jh.1 ho).1
    simp[hi] at hl
end
section
variable {P:Program} {A:cU} {E:FuncId→Bool} {G:Nat→V} {w w':World} {I I' I2:Nat→Prop} {μ β av:Nat→Option Nat} {hp hp':Nat→Option aj} {C:ae} {B:Nat} {M:Nat→Prop} {w0:Start}
theorem wG: ∀{l:List Nat} {hp:Nat→Option aj} {I:Nat→Prop},aI P w I β hp B M w0→∃I',Le P w I β hp w I' β (vK hp l)∧aI P w I' β (vK hp l) B M w0
 | [],hp,I,S=>⟨I,Le.refl w I β hp,S⟩
 | id::l,hp,I,S=>by
  simp only[vK]
  cases af:hp id with
  | none=>exact wG S
  | some blk=>
   cases blk with
   | dead=>exact wG S
   | var _=>exact wG S
   | map _ _=>exact wG S
   | arr e es fz=>
    obtain ⟨h1,h2⟩:=BN S (upd:=[(id,.arr e es true)]) (fun p hp=>by
     simp only[iO] at hp
     subst hp
     exact ⟨e,es,rfl,.inl ⟨fz,af⟩⟩)
    obtain ⟨I',h3,h4⟩:=wG (l:=l) h2
    exact ⟨I',h1.trans h3,h4⟩
   | nest e es ao=>
    obtain ⟨h1,h2⟩:=BN S (upd:=[(id,.arr e es true)]) (fun p hp=>by
     simp only[iO] at hp
     subst hp
     exact ⟨e,es,rfl,.inr ⟨ao,af⟩⟩)
    obtain ⟨I',h3,h4⟩:=wG (l:=l) h2
    exact ⟨I',h1.trans h3,h4⟩
theorem Vf {n m:Nat} {pur:List Nat} {a:Act} {st:St} (S:aI P w I β st.hp B M w0) (hA:jY P E G w I β n a st):
  ∃I',Le P w I β st.hp w I' β (freeze m pur st).hp∧aI P w I' β (freeze m pur st).hp B M w0∧jY P E G w I' β n a (freeze m pur st):=by
 obtain ⟨I',h1,h2⟩:=wG (l:=(SF st pur).filter fun id=>Nat.ble m id) S
 exact ⟨I',h1,h2,fun k=>(hA.sl k).mono h1,hA.size,hA.defers,hA.aG.mono h1.dQ h1.cB⟩
structure y8 (hp:Nat→Option aj) (β:Nat→Option Nat) (ord:List Nat) (hp':Nat→Option aj) (av:Nat→Option Nat):Prop where
 arr: ∀(j:Nat) id e es fz,ord[j]? =some id→hp id=some (.arr e es fz)→hp' j=some (.arr e es fz)
 var: ∀(j:Nat) id T cs,ord[j]? =some id→hp id=some (.var T cs)→∃ju,hp' j=some (.var T ju)
 dead: ∀(j:Nat) id,ord[j]? =some id→hp id=some .dead→hp' j=some .dead
 place: ∀(j:Nat) id,ord[j]? =some id→av j=β id
 nest: ∀(j:Nat) id e es ao,ord[j]? =some id→hp id=some (.nest e es ao)→hp' j=some (.nest e es (ao.map fun _=>0))
 map: ∀(j:Nat) id t es,ord[j]? =some id→hp id=some (.map t es)→hp' j=some (.map t es)
theorem nh: ∀{l:List Nat} {n i j:Nat},jm l n i=some j→∃k,j=i+k∧l[k]? =some n
 | [],n,i,j,h=>by cases h
 | a::l,n,i,j,h=>by
  simp only[jm] at h
  cases hb:Nat.beq n a with
  | true=>
   rw[hb] at h
   cases h
   rw[aW] at hb
   exact ⟨0,rfl,by rw[hb];rfl⟩
  | false=>
   rw[hb] at h
   obtain ⟨k,h1,h2⟩:=nh h
   exact ⟨k+1,by omega,by simpa using h2⟩
def mB (hp':Nat→Option aj) (av:Nat→Option Nat) (n:Nat) (bs:List aj):Prop:=
 ∀(k:Nat) b,bs[k]? =some b→hp' (n+k)=some b∧av (n+k)=none
theorem MK: ∀(ao:List Nat) (k:Nat),bN (ao.map fun _=>0) k=0
 | [],_=>rfl
 | _::_,0=>rfl
 | _::vs,k+1=>MK vs k
theorem Vg {e:TypeId} {es:List V} {ao:List Nat} {path:Path} {ver:Nat} (hc:(Nat.blt 0 path.length&&(Nat.ble path.length ao.length&&Nat.beq (bN ao (path.length-1)) ver))=true)
  (h:(aj.nest e es ao).vP path ver):False:=by
 simp only[aL,lA,fO,aW] at hc
 obtain ⟨h1,h2,h3⟩:=hc
 rcases h with h|h|h
 ·subst h;simp at h1
 ·omega
 ·omega
theorem Vh (S:aI P w I β hp B M w0) {ord:List Nat} (hR:y8 hp β ord hp' av) {v:Value} {x:V} (hv:an P w I β hp v x):an P w I av hp' v (jn hp ord x):=by
 cases hv with
 | undef=>exact .undef
 | int=>exact .int
 | bool=>exact .bool
 | str h=>exact .str h
 | list h=>exact .list h
 | nilS=>exact .nilS
 | agg=>exact .undef
 | bw=>exact .undef
 | eb=>exact .eb
 | fn=>exact .undef
 | pref a b c=>exact .pref a b c
 | @fh _ e id af=>
  simp only[jn]
  cases bG:jm ord id 0 with
  | none=>simp only[af];exact .undef
  | some j=>
   obtain ⟨k,rfl,hk⟩:=nh bG
   exact .fh (hR.dead _ id (by simpa using hk) af)
 | @ij _ e id off len af=>
  simp only[jn]
  cases bG:jm ord id 0 with
  | none=>simp only[af];exact .undef
  | some j=>
   obtain ⟨k,rfl,hk⟩:=nh bG
   exact .ij (hR.dead _ id (by simpa using hk) af)
 | @lM _ id i c af=>
  simp only[jn]
  cases bG:jm ord id 0 with
  | none=>exact .undef
  | some j=>
   obtain ⟨k,rfl,hk⟩:=nh bG
   exact .lM (hR.dead _ id (by simpa using hk) af)
 | @eJ e id fz _ af hb=>
  simp only[jn]
  cases bG:jm ord id 0 with
  | none=>
   simp only[af]
   cases fz with
   | false=>exact .undef
   | true=>simp only[kO,cond_true];exact .list (.any fun _=>rfl)
  | some j=>
   obtain ⟨k,rfl,hk⟩:=nh bG
   have ei:ord[0+k]? =some id:=by simpa using hk
   exact .eJ (hR.arr _ id _ _ _ ei af) ((hR.place _ id ei).trans hb)
 | @whole e id es fz b cap af hb a9 cx hm=>
  simp only[jn]
  cases bG:jm ord id 0 with
  | none=>
   simp only[af]
   cases fz with
   | false=>exact .undef
   | true=>
    simp only[kO,cond_true]
    have hr:=S.h.rel id _ af
    cases hr with
    | eK aB=>rw[aB] at hb;cases hb
    | arr az aB hh hs hf fi hx=>
     rw[hb] at aB;cases aB
     have:=vU (I':=I) (off:=0) (len:=es.length) (o:=0) hh hx (gF az) (by omega) cx (fun _=>by simp) (fun _ h=>h) (hf rfl)
     exact .list (by simpa using this)
  | some j=>
   obtain ⟨k,rfl,hk⟩:=nh bG
   have ei:ord[0+k]? =some id:=by simpa using hk
   exact .whole (hR.arr _ id _ _ _ ei af) ((hR.place _ id ei).trans hb) a9 cx hm
 | @g9 e id fz _ af hb=>
  simp only[jn]
  cases bG:jm ord id 0 with
  | none=>
   simp only[af]
   cases fz with
   | false=>exact .undef
   | true=>simp only[kO,cond_true];exact .list (by simpa using (jO.any (P:=P) fun _=>rfl))
  | some j=>
   obtain ⟨k,rfl,hk⟩:=nh bG
   have ei:ord[0+k]? =some id:=by simpa using hk
   exact .g9 (hR.arr _ id _ _ _ ei af) ((hR.place _ id ei).trans hb)
 | @sub e id off len es fz b o cap af hb kC cx ho=>
  simp only[jn]
  cases bG:jm ord id 0 with
  | none=>
   simp only[af]
   cases fz with
   | false=>exact .undef
   | true=>
    simp only[kO,cond_true]
    have hr:=S.h.rel id _ af
    cases hr with
    | eK aB=>rw[aB] at hb;cases hb
    | arr az aB hh hs hf fi hx=>
     rw[hb] at aB;cases aB
     exact .list (vU (I':=I) hh hx (gF az) kC cx ho (fun _ h=>h) (hf rfl))
  | some j=>
   obtain ⟨k,rfl,hk⟩:=nh bG
   have ei:ord[0+k]? =some id:=by simpa using hk
   exact .sub (hR.arr _ id _ _ _ ei af) ((hR.place _ id ei).trans hb) kC cx ho
 | @ptr id i c b blk af hd hb=>
  simp only[jn]
  cases bG:jm ord id 0 with
  | none=>exact .undef
  | some j=>
   obtain ⟨k,rfl,hk⟩:=nh bG
   have ei:ord[0+k]? =some id:=by simpa using hk
   cases blk with
   | dead=>exact absurd rfl hd
   | var T0 cs=>
    obtain ⟨ju,h'⟩:=hR.var _ id T0 cs ei af
    exact .ptr (blk:= .var T0 ju) h' (by simp) ((hR.place _ id ei).trans hb)
   | arr e es fz=>exact .ptr (blk:= .arr e es fz) (hR.arr _ id _ _ _ ei af) (by simp) ((hR.place _ id ei).trans hb)
   | nest e es ao=>exact .ptr (blk:= .nest e es (ao.map fun _=>0)) (hR.nest _ id _ _ _ ei af) (by simp) ((hR.place _ id ei).trans hb)
   | map t es=>exact .ptr (blk:= .map t es) (hR.map _ id _ _ ei af) (by simp) ((hR.place _ id ei).trans hb)
 | ed=>exact .ed
 | @js _ t id af=>
  simp only[jn]
  cases bG:jm ord id 0 with
  | none=>exact .undef
  | some j=>
   obtain ⟨k,rfl,hk⟩:=nh bG
   exact .js (hR.dead _ id (by simpa using hk) af)
 | @cb t id b es af hb=>
  simp only[jn]
  cases bG:jm ord id 0 with
  | none=>exact .undef
  | some j=>
   obtain ⟨k,rfl,hk⟩:=nh bG
   have ei:ord[0+k]? =some id:=by simpa using hk
   exact .cb (hR.map _ id _ _ ei af) ((hR.place _ id ei).trans hb)
 | @fp e id es ao b cap af hb a9 cx hm=>
  simp only[jn]
  cases bG:jm ord id 0 with
  | none=>simp only[af];exact .undef
  | some j=>
   obtain ⟨k,rfl,hk⟩:=nh bG
   have ei:ord[0+k]? =some id:=by simpa using hk
   exact .fp (hR.nest _ id _ _ _ ei af) ((hR.place _ id ei).trans hb) a9 cx hm
 | @kQ v e id ver path blk af BL=>
  simp only[jn]
  split
  ·rename_i j e1 cI ao h1 h2
   rw[af] at h2
   cases h2
   cases hc:(Nat.blt 0 path.length&&(Nat.ble path.length ao.length&&Nat.beq (bN ao (path.length-1)) ver)) with
   | false=>exact .undef
   | true=>exact (Vg hc BL).elim
  ·exact .undef
 | @kR v id ver i c path blk af BL=>
  simp only[jn]
  split
  ·rename_i j e1 cI ao h1 h2
   rw[af] at h2
   cases h2
   cases hc:(Nat.blt 0 path.length&&(Nat.ble path.length ao.length&&Nat.beq (bN ao (path.length-1)) ver)) with
   | false=>exact .undef
   | true=>exact (Vg hc BL).elim
  ·exact .undef
 | @row v e e0 t id ver b i c q es l ao af hb hq hv ht hc=>
  simp only[jn]
  split
  ·rename_i j e1 cI wy h1 h2
   obtain ⟨k,rfl,hk⟩:=nh h1
   have ei:ord[0+k]? =some id:=by simpa using hk
   cases hx:(Nat.blt 0 (q++[(i,c)]).length&&(Nat.ble (q++[(i,c)]).length wy.length&&Nat.beq (bN wy ((q++[(i,c)]).length-1)) ver)) with
   | false=>exact .undef
   | true=>exact .row (hR.nest _ id _ _ _ ei af) ((hR.place _ id ei).trans hb) (by simpa using hq) (MK _ _) ht hc
  ·exact .undef
 | @cS e e0 t id ver b b1 len cap i0 c0 i c q es l ao af hb hq hv ht nP hc=>
  simp only[jn]
  split
  ·rename_i j e1 cI wy h1 h2
   obtain ⟨k,rfl,hk⟩:=nh h1
   have ei:ord[0+k]? =some id:=by simpa using hk
   cases hx:(Nat.blt 0 (q++[(i0,c0)]).length&&(Nat.ble (q++[(i0,c0)]).length wy.length&&Nat.beq (bN wy ((q++[(i0,c0)]).length-1)) ver)) with
   | false=>exact .undef
   | true=>exact .cS (hR.nest _ id _ _ _ ei af) ((hR.place _ id ei).trans hb) (by simpa using hq) (MK _ _) ht nP hc
  ·exact .undef
theorem Vi (S:aI P w I β hp B M w0) {ord:List Nat} (hR:y8 hp β ord hp' av) {vs:Array Value} {xs:List V} (h: ∀(j:Nat) v x,vs[j]? =some v→xs[j]? =some x→an P w I β hp v x) (j:Nat) (v:Value) (y:V)
  (hv:vs[j]? =some v) (hy:(xs.map (jn hp ord))[j]? =some y):an P w I av hp' v y:=by
 rw[fF] at hy
 cases hx:xs[j]? with
 | none=>rw[hx] at hy;cases hy
 | some x=>rw[hx] at hy;cases hy;exact Vh S hR (h j v x hv hx)
theorem Vj (S:aI P w I β hp B M w0) {ord:List Nat} (hR:y8 hp β ord hp' av) {n:Nat} {v:Value} {x:V} (hv:an P w I β hp v x) (hF:mB hp' av n (yp hp ord n x).2):
  an P w I av hp' v (yp hp ord n x).1:=by
 cases x with
 | nilS e=>
  obtain ⟨h1,h2⟩:=hF 0 _ rfl
  cases hv with
  | nilS=>exact .eJ h1 h2
 | fn f a b=>
  cases hv with
  | fn q1 q2 q3 q4=>exact .fn (by simpa using q1) (Vi S hR q2) (by simpa using q3) (Vi S hR q4)
 | _=>exact Vh S hR hv
end
section
variable {P:Program} {A:cU} {w w':World} {I I' I2:Nat→Prop} {μ β av:Nat→Option Nat} {hp hp':Nat→Option aj} {C:ae} {B:Nat} {M:Nat→Prop} {w0:Start}
theorem mB.left {n:Nat} {a b:List aj} (h:mB hp' av n (a++b)):mB hp' av n a:=fun k x hx=>
 h k x (by rw[lB (bE.1 hx).1];exact hx)
theorem mB.right {n:Nat} {a b:List aj} (h:mB hp' av n (a++b)):mB hp' av (n+a.length) b:=fun k x hx=>by
 have:=h (a.length+k) x (by rw[lC (by omega),Nat.add_sub_cancel_left];exact hx)
 rwa [←pF] at this
def od (bs:List aj):Prop:= ∀b∈bs,∃e,b= .arr e [] false
theorem od.app {a b:List aj} (h1:od a) (h2:od b):od (a++b):=fun x hx=>(ew.1 hx).elim (h1 x) (h2 x)
theorem od.nil:od []:=fun x hx=>by simp at hx
theorem Vk {ord:List Nat} {n:Nat} {x:V}:od (yp hp ord n x).2:=by
 cases x<;>simp only[yp]<;>first|exact .nil|skip
 intro b hb
 simp only[iO] at hb
 exact ⟨_,hb⟩
theorem ML {ord:List Nat}: ∀{xs:List V} {n:Nat},od (oW hp ord n xs).2
 | [],n=> .nil
 | x::xs,n=>by
  simp only[oW]
  exact Vk.app ML
theorem H2 {ord:List Nat}: ∀{xs:List V} {n:Nat},(oW hp ord n xs).1.length=xs.length
 | [],n=>rfl
 | x::xs,n=>by simp only[oW,List.length_cons,H2]
theorem H3 (S:aI P w I β hp B M w0) {ord:List Nat} (hR:y8 hp β ord hp' av): ∀{xs:List V} {vs:List Value} {n:Nat},(∀(j:Nat) v x,vs[j]? =some v→xs[j]? =some x→an P w I β hp v x)→
  mB hp' av n (oW hp ord n xs).2→∀(j:Nat) v y,vs[j]? =some v→(oW hp ord n xs).1[j]? =some y→an P w I av hp' v y
 | [],vs,n,h,hF,j,v,y,hv,hy=>by simp[oW] at hy
 | x::xs,vs,n,h,hF,j,v,y,hv,hy=>by
  simp only[oW] at hF hy
  cases j with
  | zero=>
   simp at hy
   subst hy
   exact Vj S hR (h 0 v x hv rfl) hF.left
  | succ j=>
   cases vs with
   | nil=>simp at hv
   | cons v0 vs=>exact H3 S hR (vs:=vs) (fun j v x hj hx=>h (j+1) v x (by simpa using hj) (by simpa using hx)) hF.right j v y (by simpa using hv) (by simpa using hy)
theorem aeP {ord:List Nat} {n:Nat} {x:V}:od (sc hp ord n x).2:=by
 cases x<;>simp only[sc]<;>first|exact Vk|exact ML
theorem aeQ (S:aI P w I β hp B M w0) {ord:List Nat} (hR:y8 hp β ord hp' av) {n:Nat} {v:Value} {x:V} (hv:an P w I β hp v x) (hF:mB hp' av n (sc hp ord n x).2):
  an P w I av hp' v (sc hp ord n x).1:=by
 cases x with
 | agg cs=>
  obtain ⟨ds,rfl,h1,h2⟩:=hv.mr
  simp only[sc] at hF⊢
  exact .agg (by rw[H2];exact h1) fun j v y hj hy=>H3 S hR (vs:=ds.toList) (fun j v x hj hx=>h2 j v x (by simpa using hj) hx) hF j v y (by simpa using hj) hy
 | bw cs=>
  obtain ⟨ds,rfl,h1,h2⟩:=hv.vY
  simp only[sc] at hF⊢
  exact .bw (by rw[H2];exact h1) fun j v y hj hy=>H3 S hR (vs:=ds.toList) (fun j v x hj hx=>h2 j v x (by simpa using hj) hx) hF j v y (by simpa using hj) hy
 | _=>exact Vj S hR hv hF
theorem Vl {ord:List Nat} {sl:Nat→V}: ∀{l:List Nat} {n:Nat},od (mY hp ord sl n l).2
 | [],n=> .nil
 | s::l,n=>by
  simp only[mY]
  exact aeP.app Vl
theorem Vm {ord:List Nat} {sl:Nat→V} {k:Nat} {y:V}: ∀{l:List Nat} {n:Nat},mB hp' av n (mY hp ord sl n l).2→eI (mY hp ord sl n l).1 k=some y→
  ∃n',mB hp' av n' (sc hp ord n' (sl k)).2∧y=(sc hp ord n' (sl k)).1
 | [],n,_,h=>by cases h
 | s::l,n,hF,h=>by
  simp only[mY] at hF h
  simp only[eI] at h
  cases hb:Nat.beq k s with
  | true=>
   rw[hb] at h
   rw[aW] at hb
   subst hb
   cases h
   exact ⟨n,hF.left,rfl⟩
  | false=>
   rw[hb] at h
   exact Vm hF.right h
theorem aeR {ord:List Nat} {n id:Nat}:od (fQ hp ord n id).2:=by
 unfold fQ
 split
 ·exact ML
 ·exact .nil
 ·exact .nil
 ·exact .nil
 ·exact .nil
theorem Vn {ord:List Nat}: ∀{l:List Nat} {n:Nat},od (gE hp ord n l).2
 | [],n=> .nil
 | s::l,n=>by
  simp only[gE]
  exact aeR.app Vn
theorem Vo {ord:List Nat}: ∀{l:List Nat} {n:Nat},(gE hp ord n l).1.length=l.length
 | [],n=>rfl
 | x::xs,n=>by simp only[gE,List.length_cons,Vo]
theorem Vp {ord:List Nat}: ∀{l:List Nat} {n j:Nat} {id:Nat},l[j]? =some id→∃n',(mB hp' av n (gE hp ord n l).2→mB hp' av n' (fQ hp ord n' id).2)∧(gE hp ord n l).1[j]? =some (fQ hp ord n' id).1
 | [],n,j,id,h=>by simp at h
 | s::l,n,j,id,h=>by
  simp only[gE]
  cases j with
  | zero=>
   simp at h
   subst h
   exact ⟨n,fun hF=>hF.left,rfl⟩
  | succ j=>
   obtain ⟨n',h1,h2⟩:=Vp (n:=n+(fQ hp ord n s).2.length) (j:=j) (by simpa using h)
   exact ⟨n',fun hF=>h1 hF.right,by simpa using h2⟩
theorem H4: ∀{l acc:List Nat},∃t,vJ hp acc l=acc++t∧(acc.Nodup→(acc++t).Nodup)
 | [],acc=>⟨[],by simp[vJ],by simp⟩
 | id::l,acc=>by
  simp only[vJ]
  cases hb:(lE acc id|| !(jM hp id)) with
  | true=>exact H4
  | false=>
   obtain ⟨t,h1,h2⟩:=H4 (l:=l) (acc:=acc++[id])
   refine ⟨id::t,by simp only[cond_false,h1,dK,List.singleton_append],fun hn=> ?_⟩
   have:acc++id::t=(acc++[id])++t:=by simp
   rw[this]
   refine h2 ?_
   rw[Gs]
   refine ⟨hn,by simp,fun a ha b aB=> ?_⟩
   simp only[iO] at aB
   subst aB
   intro e
   subst e
   rw[yH ha] at hb
   cases hb
theorem Vq: ∀{n:Nat} {l:List Nat},∃t,grow hp n l=l++t∧(l.Nodup→(l++t).Nodup)
 | 0,l=>⟨[],by simp[grow],by simp⟩
 | n+1,l=>by
  simp only[grow]
  obtain ⟨t,h1,h2⟩:=H4 (hp:=hp) (acc:=l) (l:=l.flatMap (Ld hp))
  rw[h1]
  obtain ⟨t',h3,h4⟩:=Vq (n:=n) (l:=l++t)
  exact ⟨t++t',by rw[h3,dK],fun hn=>by rw[←dK];exact h4 (h2 hn)⟩
theorem aeS {m:Nat} {live:List Nat} {st:St}: ∃t,Lf m live st=List.range m++t∧(List.range m++t).Nodup:=by
 unfold Lf
 obtain ⟨t,h1,h2⟩:=H4 (hp:=st.hp) (acc:=List.range m) (l:=live.flatMap fun s=>Lc (st.sl s))
 rw[h1]
 obtain ⟨t',h3,h4⟩:=Vq (hp:=st.hp) (n:=3) (l:=List.range m++t)
 exact ⟨t++t',by rw[h3,dK],by rw[←dK];exact h4 (h2 List.nodup_range)⟩
end
section
variable {P:Program} {A:cU} {E:FuncId→Bool} {G:Nat→V} {w w':World} {I I' I2:Nat→Prop} {μ β av:Nat→Option Nat} {hp hp' hp0:Nat→Option aj} {C:ae} {B:Nat} {M:Nat→Prop} {w0:Start}
theorem Vr {n m:Nat} {ord live:List Nat} {a:Act} {st:St} (nT:ord.Nodup) (Cy: ∀id,id<m→ord[id]? =some id∨∃p,ord[id]? =some p∧st.hp p=none) (S:aI P w I β st.hp B M w0) (hA:jY P E G w I β n a st) (hE:mz w0.w w0.I μ hp0 w I β st.hp) (hm: ∀id blk,hp0 id=some blk→id<m) (kG: ∀id e es ao,hp0 id=some (.nest e es ao)→∀k,bN ao k=0):
  ∃av,aI P w I av (yq ord live st).hp B M w0∧jY P E G w I av n a (yq ord live st)∧mz w0.w w0.I μ hp0 w I av (yq ord live st).hp:=by
 have aeT:yq ord live st=mk (mY st.hp ord st.sl (ord.length+(gE st.hp ord ord.length ord).2.length) live).1
   ((gE st.hp ord ord.length ord).1++((gE st.hp ord ord.length ord).2++(mY st.hp ord st.sl (ord.length+(gE st.hp ord ord.length ord).2.length) live).2)):=by
  rfl
 rw[aeT]
 let hp':=kP ((gE st.hp ord ord.length ord).1++((gE st.hp ord ord.length ord).2++(mY st.hp ord st.sl (ord.length+(gE st.hp ord ord.length ord).2.length) live).2))
 let av:Nat→Option Nat:=fun j=>if j<ord.length then (ord[j]?).bind β else none
 have hlen:(gE st.hp ord ord.length ord).1.length=ord.length:=Vo
 have jW: ∀j,j<ord.length→hp' j=(gE st.hp ord ord.length ord).1[j]? :=by
  intro j hj
  simp only[hp',ja]
  rw[lB (by omega)]
 have iZ: ∀k,hp' (ord.length+k)=((gE st.hp ord ord.length ord).2++(mY st.hp ord st.sl (ord.length+(gE st.hp ord ord.length ord).2.length) live).2)[k]? :=by
  intro k
  simp only[hp',ja]
  rw[lC (by omega),hlen,Nat.add_sub_cancel_left]
 have hF:mB hp' av ord.length ((gE st.hp ord ord.length ord).2++(mY st.hp ord st.sl (ord.length+(gE st.hp ord ord.length ord).2.length) live).2):=by
  intro k b hb
  refine ⟨(iZ k).trans hb,?_⟩
  simp only[av]
  rw[ah (by omega)]
 have Cv:od ((gE st.hp ord ord.length ord).2++(mY st.hp ord st.sl (ord.length+(gE st.hp ord ord.length ord).2.length) live).2):=Vn.app Vl
 have p5: ∀(j:Nat) id,ord[j]? =some id→av j=β id:=by
  intro j id hj
  simp only[av]
  rw[ag (bE.1 hj).1,hj]
  rfl
 have sO: ∀(j:Nat) id,ord[j]? =some id→∃n',mB hp' av n' (fQ st.hp ord n' id).2∧hp' j=some (fQ st.hp ord n' id).1:=by
  intro j id hj
  obtain ⟨n',h1,h2⟩:=Vp (hp:=st.hp) (hp':=hp') (av:=av) (ord:=ord) (n:=ord.length) hj
  exact ⟨n',h1 hF.left,(jW j (bE.1 hj).1).trans h2⟩
 have hR:y8 st.hp β ord hp' av:=by
  refine ⟨fun j id e es fz hj af=> ?_,fun j id T cs hj af=> ?_,fun j id hj af=> ?_,p5,fun j id e es ao hj af=> ?_,fun j id t es hj af=> ?_⟩
  ·obtain ⟨n',_,h2⟩:=sO j id hj
   rw[h2];simp only[fQ,af]
  ·obtain ⟨n',_,h2⟩:=sO j id hj
   rw[h2];simp only[fQ,af];exact ⟨_,rfl⟩
  ·obtain ⟨n',_,h2⟩:=sO j id hj
   rw[h2];simp only[fQ,af]
  ·obtain ⟨n',_,h2⟩:=sO j id hj
   rw[h2];simp only[fQ,af]
  ·obtain ⟨n',_,h2⟩:=sO j id hj
   rw[h2];simp only[fQ,af]
 have cls: ∀j blk',hp' j=some blk'→(∃id,ord[j]? =some id∧((blk'= .dead)∨∃blk,st.hp id=some blk∧blk≠ .dead∧∀o b,bL P w o blk' b→bL P w o blk b))∨(∃e,blk'= .arr e [] false∧av j=none):=by
  intro j blk' hj
  rcases eV j ord.length with h|h
  ·have hG:=bM h
   obtain ⟨n',_,h2⟩:=sO j _ hG
   rw[hj] at h2
   refine .inl ⟨_,hG,?_⟩
   cases af:st.hp ord[j] with
   | none=>left;simp only[fQ,af] at h2;exact dq h2
   | some blk=>
    cases blk with
    | dead=>left;simp only[fQ,af] at h2;exact dq h2
    | var T0 cs=>exact .inr ⟨_,rfl,by simp,fun o b h=>by simp only[fQ,af] at h2;rw[dq h2] at h;exact .root (by simp) (h.flat (by simp))⟩
    | arr e es fz=>exact .inr ⟨_,rfl,by simp,fun o b h=>by simp only[fQ,af] at h2;rw[dq h2] at h;exact .root (by simp) (h.flat (by simp))⟩
    | map t es=>exact .inr ⟨_,rfl,by simp,fun o b h=>by simp only[fQ,af] at h2;rw[dq h2] at h;exact .root (by simp) (h.flat (by simp))⟩
    | nest e es ao=>
     refine .inr ⟨_,rfl,by simp,fun o b h=> ?_⟩
     simp only[fQ,af] at h2
     rw[dq h2] at h
     cases h with
     | root _ h=>exact .root (by simp) h
     | row h1 h2=>exact .row h1 h2
  ·obtain ⟨k,rfl⟩: ∃k,j=ord.length+k:=⟨j-ord.length,by omega⟩
   rw[iZ] at hj
   obtain ⟨e,he⟩:=Cv _ (kh hj)
   exact .inr ⟨e,he,(hF k _ hj).2⟩
 refine ⟨av,⟨⟨fun j blk' hj=> ?_,fun j1 j2 b1 b2 b e1 e2 f1 f2=> ?_,fun j blk b e1 f1=> ?_,S.h.kS⟩,S.cB,S.size,S.new,S.io⟩,⟨fun k=> ?_,hA.size,hA.defers,hA.aG⟩,⟨hE.dQ,hE.cB,fun id blk af=> ?_,fun id blk blk' b af bO hd hb=> ?_⟩⟩
 ·change hp' j=some blk' at hj
  rcases eV j ord.length with h|h
  ·have hG:=bM h
   obtain ⟨n',Vs,h2⟩:=sO j _ hG
   rw[hj] at h2
   rw[p5 j _ hG]
   cases af:st.hp ord[j] with
   | none=>simp only[fQ,af] at h2;rw[dq h2];exact .dead
   | some blk=>
    have hr:=S.h.rel _ _ af
    generalize β ord[j]=o at hr
    cases hr with
    | dead=>simp only[fQ,af] at h2;rw[dq h2];exact .dead
    | eK hb=>simp only[fQ,af] at h2;rw[dq h2];exact .eK hb
    | arr a1 a2 a3 a4 a5 a6 a7=>simp only[fQ,af] at h2;rw[dq h2];exact .arr a1 a2 a3 a4 a5 a6 a7
    | nest a1 a2 a3=>simp only[fQ,af] at h2;rw[dq h2];exact .nest a1 a2 a3
    | map a1 a2 a3 a4 a5 a6 a7=>simp only[fQ,af] at h2;rw[dq h2];exact .map a1 a2 a3 a4 a5 a6 a7
    | @var xs b Ca T hb hh hs dh hx il=>
     simp only[fQ,af] at h2 Vs
     rw[dq h2]
     exact .var hb hh (by rw[H2];exact hs) dh (fun i v y hi hy=>H3 S hR (vs:=Ca.toList) (fun i v x hi cP=>hx i v x (by simpa using hi) cP) Vs i v y (by simpa using hi) hy) il
  ·rcases cls j blk' hj with ⟨id,af,_⟩|⟨e,he,hb⟩
   ·have:=(bE.1 af).1;omega
   ·rw[he];exact .eK hb
 ·rcases cls j1 b1 e1 with ⟨MM,o1,x1⟩|⟨e,_,hb⟩
  ·rcases cls j2 b2 e2 with ⟨cR,o2,x2⟩|⟨e,_,hb⟩
   ·obtain ⟨c1,y1,z1,g1⟩:=x1.resolve_left f1.alive
    obtain ⟨c2,y2,z2,g2⟩:=x2.resolve_left f2.alive
    rw[p5 _ _ o1] at f1
    rw[p5 _ _ o2] at f2
    have:=S.h.inj MM cR c1 c2 b y1 y2 (g1 _ _ f1) (g2 _ _ f2)
    subst this
    obtain ⟨q1,q2⟩:=bE.1 o1
    obtain ⟨q3,q4⟩:=bE.1 o2
    exact (List.getElem_inj nT).1 (q2.trans q4.symm)
   ·subst ‹b2=_›;have:=f2.flat (by simp);rw[hb] at this;cases this
  ·subst ‹b1=_›;have:=f1.flat (by simp);rw[hb] at this;cases this
 ·rcases cls j blk e1 with ⟨MM,o1,x1⟩|⟨e,_,hb⟩
  ·obtain ⟨c1,y1,z1,g1⟩:=x1.resolve_left f1.alive
   rw[p5 _ _ o1] at f1
   exact S.h.own MM c1 b y1 (g1 _ _ f1)
  ·subst ‹blk=_›;have:=f1.flat (by simp);rw[hb] at this;cases this
 ·change an P w I av hp' (a.tmps.getD k undef) (kz _ k)
  unfold kz
  cases Mt:eI (mY st.hp ord st.sl (ord.length+(gE st.hp ord ord.length ord).2.length) live).1 k with
  | none=>exact .undef
  | some y=>
   obtain ⟨n',h1,h2⟩:=Vm hF.right Mt
   simp only[Option.getD_some,h2]
   exact aeQ S hR (hA.sl k) h1
 ·obtain ⟨sJ,k1,k2,k3⟩:=hE.blk id blk af
  rcases Cy id (hm id blk af) with ho|⟨p,ho,bG⟩
  ·cases sJ with
   | dead=>exact ⟨.dead,hR.dead id id ho k1,k2,fun h=>absurd rfl h⟩
   | var T0 cs=>
    obtain ⟨ju,h'⟩:=hR.var id id T0 cs ho k1
    refine ⟨_,h',?_,fun _=>(p5 id id ho).trans (k3 (by simp))⟩
    cases blk<;>simp_all [aj.le]
   | arr e es fz=>exact ⟨_,hR.arr id id e es fz ho k1,k2,fun _=>(p5 id id ho).trans (k3 (by simp))⟩
   | map t es=>exact ⟨_,hR.map id id t es ho k1,k2,fun _=>(p5 id id ho).trans (k3 (by simp))⟩
   | nest e es ao=>
    refine ⟨_,hR.nest id id e es ao ho k1,?_,fun _=>(p5 id id ho).trans (k3 (by simp))⟩
    obtain ⟨Ln,acE,rfl,l1,l2,_⟩:=aj.Ll k2
    exact ⟨rfl,l1,by simpa using l2,fun k=>by rw[kG id _ _ _ af k];exact jG _⟩
  ·obtain ⟨n',_,h2⟩:=sO id p ho
   simp only[fQ,bG] at h2
   exact ⟨.dead,h2,by cases blk<;>trivial,fun h=>absurd rfl h⟩
 ·obtain ⟨sJ,k1,k2,k3⟩:=hE.blk id blk af
  rcases Cy id (hm id blk af) with ho|⟨p,ho,bG⟩
  ·refine hE.size id blk sJ b af k1 (fun sM=> ?_) hb
   subst sM
   have:=hR.dead id id ho k1
   change hp' id=some blk' at bO
   rw[this] at bO
   exact hd (dq bO).symm
  ·obtain ⟨n',_,h2⟩:=sO id p ho
   simp only[fQ,bG] at h2
   change hp' id=some blk' at bO
   rw[h2] at bO
   exact absurd (dq bO).symm hd
theorem aeU {n m:Nat} {live:List Nat} {a:Act} {st:St} (S:aI P w I β st.hp B M w0) (hA:jY P E G w I β n a st) (hE:mz w0.w w0.I μ hp0 w I β st.hp) (hm: ∀id blk,hp0 id=some blk→id<m) (kG: ∀id e es ao,hp0 id=some (.nest e es ao)→∀k,bN ao k=0):
  ∃av,aI P w I av (canon m live st).hp B M w0∧jY P E G w I av n a (canon m live st)∧mz w0.w w0.I μ hp0 w I av (canon m live st).hp:=by
 obtain ⟨t,Cy,nT⟩:=aeS (m:=m) (live:=live) (st:=st)
 refine Vr (by rw[Cy];exact nT) (fun id aX=> .inl ?_) S hA hE hm kG
 rw[Cy,lB (by simpa using aX)]
 simp[aX]
theorem Vt: ∀{l:List Nat},pL l=true→l.Nodup
 | [],_=> .nil
 | a::l,h=>by
  simp only[pL,aL,oL] at h
  rw[List.nodup_cons]
  exact ⟨fun hm=>Bool.noConfusion ((yH hm).symm.trans h.1),Vt h.2⟩
theorem aeV {m:Nat} {mv:List Nat} {id:Nat} (h:id<m):(nL m mv)[id]? =some id∨(nL m mv)[id]? =some (m+id):=by
 unfold nL
 rw[lB (by simpa using h),fF]
 simp only[A8 h,Option.map_some]
 cases lE mv id with
 | true=>exact .inr rfl
 | false=>exact .inl rfl
end
section
variable {P:Program} {A:cU} {w w':World} {I I' I2:Nat→Prop} {μ β av:Nat→Option Nat} {hp hp' hp0:Nat→Option aj} {C:ae} {B:Nat} {M:Nat→Prop} {w0:Start}
theorem H5 (p:Nat→Prop) (h: ∃n,p n): ∃n,p n∧∀m,p m→n≤m:=by
 obtain ⟨n,hn⟩:=h
 induction n using Nat.strongRecOn with
 | _ n ih=>
  by_cases hx: ∃m,m<n∧p m
  ·obtain ⟨m,hm,hp⟩:=hx
   exact ih m hm hp
  ·exact ⟨n,hn,fun m hm=>Nat.le_of_not_lt fun aX=>hx ⟨m,aX,hm⟩⟩
open Classical in
theorem aeW {c:Code} {Q:Exit→Act→World→Prop} (J:Nat→Act→World→Prop) (h0: ∀a w,¬J 0 a w) (round: ∀n a w,J (n+1) a w→c.wp P (Exit.then (J n) Q) a w) {n:Nat} {a:Act} {w:World} (h:J n a w):
  (Code.loop c).wp P Q a w:=by
 refine wp_loop (fun a w=> ∃n,J n a w) (fun a w=>if h: ∃n,J n a w then (H5 _ h).choose else 0) ⟨n,h⟩ fun a w hJ=> ?_
 obtain ⟨h1,h2⟩:=(H5 _ hJ).choose_spec
 generalize hk:(H5 _ hJ).choose=k at h1 h2
 cases k with
 | zero=>exact absurd h1 (h0 a w)
 | succ k=>
  refine wp_mono (round k a w h1) fun e a' w' he=> ?_
  cases e with
  | normal=>
   have hex: ∃n,J n a' w':=⟨k,he⟩
   refine ⟨hex,?_⟩
   have h3:=(H5 _ hex).choose_spec.2 k he
   rw[nH hex,nH hJ,hk]
   omega
  | _=>exact he
def y9:Out→Exit
 | .norm=> .normal
 | .exit id=> .exit id
 | .ret=> .ret
def Inv (P:Program) (E:FuncId→Bool) (G:Nat→V) (B:Nat) (M:Nat→Prop) (w0:Start) (μ:Nat→Option Nat) (hp0:Nat→Option aj) (n:Nat) (a:Act) (w:World) (st:St):Prop:=
 ∃I β,aI P w I β st.hp B M w0∧jY P E G w I β n a st∧mz w0.w w0.I μ hp0 w I β st.hp
theorem Inv.canon {E:FuncId→Bool} {G:Nat→V} {n m:Nat} {a:Act} {st:St} {live:List Nat} (h:Inv P E G B M w0 μ hp0 n a w st) (hm: ∀id blk,hp0 id=some blk→id<m) (kG: ∀id e es ao,hp0 id=some (.nest e es ao)→∀k,bN ao k=0):Inv P E G B M w0 μ hp0 n a w (canon m live st):=by
 obtain ⟨I,β,S,hA,hE⟩:=h
 obtain ⟨av,a,b,c⟩:=aeU (live:=live) S hA hE hm kG
 exact ⟨I,av,a,b,c⟩
theorem H6: ∀{l:List BS} {ds:List V},(fI l ds).length=l.length
 | [],_=>rfl
 | b::l,ds=>by simp only[fI,List.length_cons,H6]
theorem Inv.enter {A:cU} {E:FuncId→Bool} {G:Nat→V} {n f:Nat} {ds:List V} {a:Act} (lU:pL (nL (A.sin f).aZ.length (A.mv f))=true) (h:Inv P E G B M w0 μ hp0 n a w (bB (A.sin f) ds)) (hm: ∀id blk,hp0 id=some blk→id<(A.sin f).aZ.length)
  (kG: ∀id e es ao,hp0 id=some (.nest e es ao)→∀k,bN ao k=0) (za: ∀p,(A.sin f).aZ.length≤p→(bB (A.sin f) ds).hp p=none):Inv P E G B M w0 μ hp0 n a w (BB A f ds):=by
 unfold BB
 split
 ·exact h
 ·obtain ⟨I,β,S,hA,hE⟩:=h
  obtain ⟨av,x,y,z⟩:=Vr (m:=(A.sin f).aZ.length) (ord:=nL (A.sin f).aZ.length (A.mv f)) (live:=(A.sin f).bQ.map (·.1)) (Vt lU) (fun id af=>(aeV af).imp (fun h=>h) fun h=>⟨_,h,za _ (by omega)⟩) S hA hE hm kG
  exact ⟨I,av,x,y,z⟩
theorem Inv.reshape {E:FuncId→Bool} {G:Nat→V} {n m:Nat} {a:Act} {st:St} {S:Shape} {ds:List V} (h:Inv P E G B M w0 μ hp0 n a w st) (hs:jN m S st=some ds) (hm: ∀id blk,hp0 id=some blk→id<m):Inv P E G B M w0 μ hp0 n a w (bB S ds):=by
 obtain ⟨I,β,S1,hA,hE⟩:=h
 obtain ⟨r1,r2,_,r4⟩:=AM.reshape hs S1
 refine ⟨I,β,r1,⟨fun k=>r2 k _ (hA.sl k),hA.size,hA.defers,hA.aG⟩,⟨hE.dQ,hE.cB,fun id blk af=> ?_,fun id blk blk' b af bO hd hb=> ?_⟩⟩
 ·obtain ⟨sJ,k1,k2,k3⟩:=hE.blk id blk af
  obtain ⟨_,hle,_⟩:=Ud hs
  have hl:=hm id blk af
  obtain ⟨cm,h2⟩: ∃cm,(bB S ds).hp id=some cm:=by
   simp only[bB,mk,ja]
   exact ⟨_,bM (by rw[H6];omega)⟩
  by_cases hd:cm= .dead
  ·subst hd
   exact ⟨_,h2,by cases blk<;>trivial,fun h=>absurd rfl h⟩
  ·obtain ⟨iT,e1,e2,_⟩:=r4 id cm h2 hd
   rw[k1] at e1;cases e1
   exact ⟨_,h2,aj.le_trans k2 e2,fun _=>k3 (fun e=>hd (aj.qD (e▸e2)))⟩
 ·obtain ⟨iT,e1,e2,_⟩:=r4 id blk' bO hd
  exact hE.size id blk iT b af e1 (fun e=>hd (aj.qD (e▸e2))) hb
theorem mA.here (h:mA P A C) (f:Nat) (id:Nat):mA P (A.here f id) C:=by
 intro key ds es hh
 obtain ⟨fn,c,h1,h2,h3⟩:=h key ds es hh
 refine ⟨fn,c,h1,h2,fun w I μ vals a g b d=>(h3 w I μ vals a g b d).mono fun e w' hx=> ?_⟩
 obtain ⟨v,I2,cq,q1,q2⟩:=hx
 exact ⟨v,I2,cq,q1,⟨q2.yX,q2.le,q2.res⟩⟩
theorem aeX {a b:Out} (h:GU a b=true):a=b:=by
 cases a<;>cases b<;>simp[GU] at h<;>first|rfl|(subst h;rfl)
theorem Vu {m:Nat} {r:Out × St}: ∀{l:List (Out × Shape)} {j:Nat} {e:Nat × List V},ways m j l r=some e→j≤e.1
 | [],j,e,h=>by cases h
 | (o,S)::l,j,e,h=>by
  simp only[ways] at h
  split at h
  ·cases h;exact aE _
  ·have:=Vu h;omega
theorem MN {m:Nat} {o:Out} {s:St} {out:Out} {st':St}: ∀{l:List (Out × Shape)} {k:Nat} {e:Nat × List V},ways m k l (o,s)=some e→lJ k l e.1 e.2 (fun o st=>some (o,st))=some (out,st')→
  out=o∧∃S,jN m S s=some e.2∧st'=bB S e.2
 | [],k,e,h,_=>by cases h
 | (o',S)::l,k,e,h,h2=>by
  simp only[ways] at h
  split at h
  ·rename_i ds hx
   cases h
   cases ho:GU o' o with
   | false=>rw[ho] at hx;cases hx
   | true=>
    rw[ho] at hx
    have:=aeX ho
    subst this
    cases l with
    | nil=>
     simp only[lJ,ez,lD] at h2
     exact ⟨h2.1.symm,S,hx,h2.2.symm⟩
    | cons p l=>
     simp only[lJ,kO,cond_true,ez,lD] at h2
     exact ⟨h2.1.symm,S,hx,h2.2.symm⟩
  ·have qM:=Vu h
   cases l with
   | nil=>cases h
   | cons p l=>
    have bZ:Nat.beq e.1 k=false:=by
     cases hb:Nat.beq e.1 k with
     | false=>rfl
     | true=>rw[aW] at hb;omega
    simp only[lJ,bZ,cond_false] at h2
    exact MN h h2
theorem aeY (hC:mA P A C) (hP:kF P A) (qV:P.follows .mixedOrders=true) {f n m:Nat} (hm: ∀id blk,hp0 id=some blk→id<m) (kG: ∀id e es ao,hp0 id=some (.nest e es ao)→∀k,bN ao k=0):
  ∀(c:Code) {st st':St} {out:Out} {Q:Exit→Act→World→Prop} {a:Act} {w:World},exec P A C f n m c st=some (out,st')→Inv P A.idle A.aG B M w0 μ hp0 n a w st→
   (∀a' w',Inv P A.idle A.aG B M w0 μ hp0 n a' w' st'→Q (y9 out) a' w')→c.wp P Q a w:=by
 intro c
 induction c with
 | skip=>
  intro st st' out Q a w h hI hQ
  simp only[exec,ez,lD] at h
  obtain ⟨rfl,rfl⟩:=h
  exact wp_skip (hQ a w hI)
 | exit id=>
  intro st st' out Q a w h hI hQ
  simp only[exec,ez,lD] at h
  obtain ⟨rfl,rfl⟩:=h
  exact wp_exit (hQ a w hI)
 | ret=>
  intro st st' out Q a w h hI hQ
  simp only[exec,ez,lD] at h
  obtain ⟨rfl,rfl⟩:=h
  exact wp_ret (hQ a w hI)
 | region id ops draw=>
  intro st st' out Q a w h hI hQ
  simp only[exec] at h
  obtain ⟨jZ,h1,h2⟩:=bind_some h
  simp only[ez,lD] at h2
  obtain ⟨rfl,rfl⟩:=h2
  obtain ⟨I,β,S,hA,hE⟩:=hI
  refine aeN (hC.here f id) (hP.here f id) qV h1 S hA fun a' w' I' av k1 k2 k3=> ?_
  obtain ⟨I2,l1,l2,l3⟩:=Vf (m:=m) (pur:=A.pur f id) k2 k3
  have hE2:=(hE.trans k1.HL).trans l1.HL
  exact hQ a' w' (Inv.canon ⟨I2,av,l2,l3,hE2⟩ hm kG)
 | seq x y gX gY=>
  intro st st' out Q a w h hI hQ
  simp only[exec] at h
  obtain ⟨⟨o1,jZ⟩,h1,h2⟩:=bind_some h
  refine wp_seq (gX h1 hI fun a' w' kZ=> ?_)
  cases o1 with
  | norm=>exact gY h2 kZ hQ
  | exit id=>
   simp only[ez,lD] at h2
   obtain ⟨rfl,rfl⟩:=h2
   exact hQ a' w' kZ
  | ret=>
   simp only[ez,lD] at h2
   obtain ⟨rfl,rfl⟩:=h2
   exact hQ a' w' kZ
 | cond c x y gX gY=>
  intro st st' out Q a w h hI hQ
  cases c with
  | tmp t=>
   have go: ∀{st st':St} {out:Out} {Q:Exit→Act→World→Prop} {a:Act} {w:World},(match st.sl t with
     | .bool b=>(bif b then exec P A C f n m x st else exec P A C f n m y st).bind fun r=>
      match r.1 with
      | .norm=>some (.norm,AM.canon m (A.join f t) r.2)
      | _=>some r
     | _=>none)=some (out,st')→Inv P A.idle A.aG B M w0 μ hp0 n a w st→(∀a' w',Inv P A.idle A.aG B M w0 μ hp0 n a' w' st'→Q (y9 out) a' w')→(Code.cond (.tmp t) x y).wp P Q a w:=by
    intro st st' out Q a w h hI hQ
    cases hs:st.sl t<;>rw[hs] at h<;>simp only at h<;>first|(cases h;done)|skip
    rename_i b
    obtain ⟨⟨o1,jZ⟩,h1,h2⟩:=bind_some h
    obtain ⟨I,β,S,hA,hE⟩:=hI
    have fT:a.eval (.tmp t)= .bool b:=by
     have:=UL hA hs
     simp[Act.eval,this]
    have fin: ∀a' w',Inv P A.idle A.aG B M w0 μ hp0 n a' w' jZ→Q (y9 o1) a' w':=by
     intro a' w' kZ
     cases o1 with
     | norm=>
      simp only[ez,lD] at h2
      obtain ⟨rfl,rfl⟩:=h2
      exact hQ a' w' (kZ.canon hm kG)
     | exit id=>
      simp only[ez,lD] at h2
      obtain ⟨rfl,rfl⟩:=h2
      exact hQ a' w' kZ
     | ret=>
      simp only[ez,lD] at h2
      obtain ⟨rfl,rfl⟩:=h2
      exact hQ a' w' kZ
    refine wp_cond fT ?_
    cases b with
    | true=>exact gX h1 ⟨I,β,S,hA,hE⟩ fin
    | false=>exact gY h1 ⟨I,β,S,hA,hE⟩ fin
   simp only[exec] at h
   split at h
   ·exact go h hI hQ
   ·obtain ⟨ds,h1,h2⟩:=bind_some h
    obtain ⟨e,h3,h4⟩:=bind_some h2
    obtain ⟨⟨o1,s1⟩,h5,h6⟩:=bind_some h3
    obtain ⟨rfl,S',k1,rfl⟩:=MN h6 h4
    exact go h5 (hI.reshape h1 hm) fun a' w' kZ=>hQ a' w' (kZ.reshape k1 hm)
  | const v=>
   cases v with
   | bool b=>
    simp only[exec] at h
    refine wp_cond (t:=b) rfl ?_
    cases b with
    | true=>exact gX h hI hQ
    | false=>exact gY h hI hQ
   | _=>simp only[exec] at h;cases h
  | _=>simp only[exec] at h;cases h
 | block id c ih=>
  intro st st' out Q a w h hI hQ
  simp only[exec] at h
  obtain ⟨⟨o1,jZ⟩,h1,h2⟩:=bind_some h
  refine wp_block (ih h1 hI fun a' w' kZ=> ?_)
  cases o1 with
  | norm=>
   simp only[ez,lD] at h2
   obtain ⟨rfl,rfl⟩:=h2
   exact hQ a' w' (kZ.canon hm kG)
  | exit aF=>
   simp only at h2
   cases hb:Nat.beq aF id with
   | true=>
    rw[hb] at h2
    simp only[cond_true,ez,lD] at h2
    obtain ⟨rfl,rfl⟩:=h2
    rw[aW] at hb
    simp only[y9,Exit.inBlock,hb,gy]
    exact hQ a' w' (kZ.canon hm kG)
   | false=>
    rw[hb] at h2
    simp only[cond_false,ez,lD] at h2
    obtain ⟨rfl,rfl⟩:=h2
    have bZ:aF≠id:=fun e=>by rw[e,kO] at hb;cases hb
    simp only[y9,Exit.inBlock,bZ,iP]
    exact hQ a' w' kZ
  | ret=>
   simp only[ez,lD] at h2
   obtain ⟨rfl,rfl⟩:=h2
   exact hQ a' w' kZ
 | loop c ih=>
  intro st st' out Q a w h hI hQ
  simp only[exec] at h
  split at h
  ·cases h
  ·rename_i S hS
   obtain ⟨ds,h1,h2⟩:=bind_some h
   obtain ⟨e,h3,h4⟩:=bind_some h2
   obtain ⟨k,hk⟩:=ye h3
   refine aeW (J:=fun k a w=> ∃ds,Inv P A.idle A.aG B M w0 μ hp0 n a w (bB S.1 ds)∧fG (fun ds=>mn m S.1 S.2 (exec P A C f n m c (bB S.1 ds))) k ds=some e) (fun a w ⟨s,_,h⟩=>by cases h) (fun k a w ⟨ds,hs,hk⟩=> ?_) ⟨ds,hI.reshape h1 hm,hk⟩
   simp only[fG] at hk
   obtain ⟨y,h5,h6⟩:=bind_some hk
   unfold mn at h5
   obtain ⟨⟨o1,s1⟩,h7,h8⟩:=bind_some h5
   refine ih h7 hs fun a' w' kZ=> ?_
   have Vv: ∀{e':Nat × List V},ways m 0 S.2 (o1,s1)=some e'→e'=e→Q (y9 o1) a' w':=by
    intro e' q1 q2
    subst q2
    obtain ⟨rfl,S',k1,rfl⟩:=MN q1 h4
    exact hQ a' w' (kZ.reshape k1 hm)
   cases o1 with
   | norm=>
    obtain ⟨ds2,q1,q2⟩:=bind_some h8
    cases q2
    exact ⟨ds2,kZ.reshape q1 hm,h6⟩
   | exit id=>
    obtain ⟨e',q1,q2⟩:=bind_some h8
    cases q2
    cases h6
    exact Vv q1 rfl
   | ret=>
    obtain ⟨e',q1,q2⟩:=bind_some h8
    cases q2
    cases h6
    exact Vv q1 rfl
 | _=>intro st st' out Q a w h;simp only[exec] at h;cases h
end
section
variable {P:Program} {A:cU} {w w':World} {I I' I2:Nat→Prop} {μ β av cq:Nat→Option Nat} {hp hp' hp0:Nat→Option aj} {C:ae} {B:Nat} {M:Nat→Prop} {w0:Start}
theorem H7 (S:aI P w I β hp B M w0) {a:Act} {st:St} (hs:mo P w I β hp a st.sl): ∀{l:List ResultVar} {xs:List V} {rd:List Nat},(vM P st l).run C hp=some (xs,rd)→
  ∃vs:List Value,(l.mapM fun| .tmp t=>Pure.pure (a.tmps.getD t undef)| .cell x t=>do loadVar t (←asAddr (a.tmps.getD x undef)):Sem (List Value)).run P w= .ok vs w∧vs.length=xs.length∧l.length=xs.length∧
   ∀(j:Nat) v x,vs[j]? =some v→xs[j]? =some x→an P w I β hp v x
 | [],xs,rd,h=>by
  cases h
  exact ⟨[],by simp,rfl,rfl,by simp⟩
 | .tmp t::l,xs,rd,h=>by
  simp only[vM] at h
  obtain ⟨ys,l1,l2,h1,h2⟩:=mq h
  have h3:=Lp h2
  subst h3
  obtain ⟨vs,a1,a2,a3,a4⟩:=H7 S hs h1
  refine ⟨a.tmps.getD t undef::vs,by simp only[List.mapM_cons,Sem.run_bind,Sem.run_pure,Result.andThen_ok,a1],by simp[a2],by simp[a3],fun j v x hj hx=> ?_⟩
  cases j with
  | zero=>simp at hj hx;subst hj;subst hx;have:=hs t;simpa using this
  | succ j=>exact a4 j v x (by simpa using hj) (by simpa using hx)
 | .cell y t::l,xs,rd,h=>by
  simp only[vM] at h
  obtain ⟨r,l1,l2,h1,h2⟩:=mq h
  obtain ⟨ys,l3,l4,h3,h4⟩:=mq h2
  have h5:=Lp h4
  subst h5
  obtain ⟨v0,b1,b2,b3,ad,b4⟩:=S3 S (hs y) h1
  obtain ⟨vs,a1,a2,a3,a4⟩:=H7 S hs h3
  refine ⟨v0::vs,?_,by simp[a2],by simp[a3],fun j v x hj hx=> ?_⟩
  ·have e1:(do loadVar t (←asAddr (a.tmps.getD y undef)):Sem Value).run P w= .ok v0 w:=by
    rw[b4] at b1⊢
    simpa[Instr.loadAt,Instr.sureAddr,asAddr] using b1
   simp only[List.mapM_cons,Sem.run_bind,e1,Result.andThen_ok,a1,Sem.run_pure]
  cases j with
  | zero=>simp at hj hx;subst hj;subst hx;exact b2
  | succ j=>exact a4 j v x (by simpa using hj) (by simpa using hx)
def wH:List Value→Value
 | [v]=>v
 | l=> .tuple l.toArray
theorem aeZ {vs:List Value} (h:vs.length≠1):wH vs= .tuple vs.toArray:=by
 match vs,h with
 | [],_=>rfl
 | [v],h=>simp at h
 | v::v2::l,_=>rfl
theorem ae0 {fn:Func} {a:Act} {st:St} (S:aI P w I β st.hp B M w0) (hs:mo P w I β st.hp a st.sl) {xs:List V} {rd:List Nat} (h:(vM P st fn.results.toList).run C st.hp=some (xs,rd)):
  ∃vs:List Value,(results fn a.tmps).run P w= .ok (wH vs) w∧vs.length=xs.length∧
   ∀(j:Nat) v x,vs[j]? =some v→xs[j]? =some x→an P w I β st.hp v x:=by
 obtain ⟨vs,a1,a2,_,a4⟩:=H7 S hs h
 refine ⟨vs,?_,a2,a4⟩
 unfold results
 rw[Array.mapM_eq_mapM_toList]
 simp only[map_eq_pure_bind,bind_assoc,pure_bind,Sem.run_bind]
 refine (congrArg (fun r:Result (List Value)=>r.andThen _) a1).trans ?_
 simp only[Result.andThen_ok,Sem.run_pure]
 match vs with
 | []=>simp[wH]
 | [v]=>simp[wH]
 | v::v2::l=>simp[wH]
theorem Vw: ∀{args:List V} {i k:Nat},eI (oX i args) k=if i≤k then args[k-i]? else none
 | [],i,k=>by simp[oX,eI]
 | v::vs,i,k=>by
  simp only[oX,eI]
  cases hb:Nat.beq k i with
  | true=>
   rw[aW] at hb
   subst hb
   simp
  | false=>
   have bZ:k≠i:=fun e=>by rw[e,kO] at hb;cases hb
   simp only[cond_false,Vw]
   by_cases h:i≤k
   ·rw[ag (by omega),ag h]
    obtain ⟨d,rfl⟩: ∃d,k=i+1+d:=⟨k-(i+1),by omega⟩
    rw[show i+1+d-(i+1)=d by omega,show i+1+d-i=d+1 by omega]
    rfl
   ·rw[ah (by omega),ah h]
theorem MO: ∀{l:List (Nat × VS)} {ds:List V} {i k:Nat},jo i l=true→eI (gm l ds) k=if i≤k then (gC (l.map (·.2)) ds)[k-i]? else none
 | [],ds,i,k,_=>by simp[gm,gC,eI]
 | (q,s)::l,ds,i,k,h=>by
  simp only[jo,aL,aW] at h
  obtain ⟨rfl,h⟩:=h
  simp only[gm,eI,ki,gC]
  cases hb:Nat.beq k q with
  | true=>
   rw[aW] at hb
   subst hb
   simp
  | false=>
   have bZ:k≠q:=fun e=>by rw[e,kO] at hb;cases hb
   simp only[cond_false]
   rw[MO h]
   by_cases h:q≤k
   ·rw[ag (by omega),ag h]
    obtain ⟨d,rfl⟩: ∃d,k=q+1+d:=⟨k-(q+1),by omega⟩
    rw[show q+1+d-(q+1)=d by omega,show q+1+d-q=d+1 by omega]
    rfl
   ·rw[ah (by omega),ah h]
theorem Vx: ∀{l:List (Nat × VS)} {ds:List V},(gm l ds).map (·.2)=gC (l.map (·.2)) ds
 | [],_=>rfl
 | (q,s)::l,ds=>by simp only[gm,ki,gC,Vx]
theorem MP: ∀{l:List VS} {ds:List V},(gC l ds).length=l.length
 | [],_=>rfl
 | s::l,ds=>by simp only[gC,List.length_cons,MP]
theorem Vy: ∀{l:List (Nat × VS)} {ds:List V},(gm l ds).length=l.length
 | [],_=>rfl
 | (q,s)::l,ds=>by simp only[gm,List.length_cons,Vy]
theorem ae1 {vals:List Value} {l:List (Nat × V)} (hl:vals.length=l.length) (h: ∀(j:Nat) v y,vals[j]? =some v→(l.map (·.2))[j]? =some y→an P w I β hp v y):an P w I β hp (wH vals) (qB l):=by
 match l,hl,h with
 | [],hl,h=>
  obtain rfl:vals=[]:=oK hl
  exact .bw rfl fun j v x _ hx=>by simp at hx
 | [(k,y)],hl,h=>
  match vals,hl,h with
  | [v],_,h=>exact h 0 v y rfl rfl
 | a::b::l,hl,h=>
  have bZ:vals.length≠1:=by rw[hl];simp
  rw[aeZ bZ]
  simp only[qB]
  exact .bw (by simp[hl]) fun j v y hj hy=>h j v y (by simpa using hj) hy
theorem ae2 {l:List BS} {ds:List V} {j:Nat} {e:TypeId} {es:List V} {ao:List Nat} (h:(fI l ds)[j]? =some (.nest e es ao)) (k:Nat):bN ao k=0:=by
 obtain ⟨b,gr,_,h2⟩:=Mx h
 cases b<;>simp only[gW] at h2<;>cases h2
 match k with
 | 0=>rfl
 | 1=>rfl
 | 2=>rfl
 | _+3=>rfl
theorem ae3 {f n m:Nat} {fn:Func} {a:Act} {st:St} {es:List V} {rd:List Nat} (hm: ∀id blk,hp0 id=some blk→id<m) (kG: ∀id e es ao,hp0 id=some (.nest e es ao)→∀k,bN ao k=0)
  (hI:Inv P A.idle A.aG B M w0 μ hp0 n a w st) (p6:jo 0 (A.gA f).bQ=true) (a9:(A.gA f).bQ.length=fn.results.size) (h:(vN P A f fn m st).run C st.hp=some (es,rd)):
  ∃v I2 cq,(results fn a.tmps).run P w= .ok v w∧aI P w I2 cq (bB (A.so f es) (A.lv f es)).hp B M w0∧mz w0.w w0.I μ hp0 w I2 cq (bB (A.so f es) (A.lv f es)).hp∧an P w I2 cq (bB (A.so f es) (A.lv f es)).hp v (qB (gm (A.so f es).bQ (A.lv f es))):=by
 unfold vN at h
 obtain ⟨xs,l1,l2,h1,h2⟩:=mq h
 obtain ⟨I,β,S,hA,hE⟩:=hI
 obtain ⟨vals,e1,e2,e3⟩:=ae0 S hA.sl h1
 have e4:fn.results.size=xs.length:=by
  obtain ⟨_,_,_,q,_⟩:=H7 S hA.sl h1
  simpa using q
 have fin: ∀(Sx:Shape) (es:List V),jo 0 Sx.bQ=true→Sx.bQ.length=fn.results.size→jN m Sx (canon m (List.range xs.length) (freeze m (A.vG f) ⟨kz (oX 0 xs),st.hp,st.nb⟩))=some es→
   ∃v I2 cq,(results fn a.tmps).run P w= .ok v w∧aI P w I2 cq (bB Sx es).hp B M w0∧mz w0.w w0.I μ hp0 w I2 cq (bB Sx es).hp∧an P w I2 cq (bB Sx es).hp v (qB (gm Sx.bQ es)):=by
  intro Sx es p6 a9 wI
  have hA0:jY P A.idle A.aG w I β vals.length ⟨vals.toArray,[]⟩ ⟨kz (oX 0 xs),st.hp,st.nb⟩:=by
   refine ⟨fun k=> ?_,by simp,by simp,hA.aG⟩
   change an P w I β st.hp _ (kz (oX 0 xs) k)
   unfold kz
   rw[Vw]
   simp only[jG,gy,Nat.sub_zero]
   cases hk:xs[k]? with
   | none=>exact .undef
   | some x=>
    have nc:k<vals.length:=by rw[e2];exact (bE.1 hk).1
    have:=e3 k vals[k] x (bM nc) hk
    have e5:(vals.toArray).getD k undef=vals[k]:=by simp[nc]
    rw[Option.getD_some]
    exact e5▸this
  obtain ⟨I2,k1,k2,k3⟩:=Vf (st:=⟨kz (oX 0 xs),st.hp,st.nb⟩) (m:=m) (pur:=A.vG f) S hA0
  have hI2:Inv P A.idle A.aG B M w0 μ hp0 vals.length ⟨vals.toArray,[]⟩ w (freeze m (A.vG f) ⟨kz (oX 0 xs),st.hp,st.nb⟩):=⟨I2,β,k2,k3,hE.trans k1.HL⟩
  obtain ⟨I3,Vz,q1,q2,q3⟩:=(hI2.canon (live:=List.range xs.length) hm kG).reshape wI hm
  refine ⟨wH vals,I3,Vz,e1,q1,q3,ae1 (by rw[Vy,a9,e4,e2]) fun j v y hj hy=> ?_⟩
  have hv:=q2.sl j
  have dt:=(bE.1 hj).1
  have e5:(vals.toArray).getD j undef=v:=by
   have:=(bE.1 hj).2
   simp[dt,this]
  change an P w I3 Vz _ ((vals.toArray).getD j undef) (kz (gm Sx.bQ _) j) at hv
  rw[e5] at hv
  unfold kz at hv
  rw[MO p6] at hv
  simp only[jG,gy,Nat.sub_zero] at hv
  rw[Vx] at hy
  rw[hy] at hv
  exact hv
 unfold cU.so cU.lv
 cases cC:A.alt f with
 | none=>
  rw[cC] at h2
  simp only at h2⊢
  split at h2
  ·rename_i gr wI
   have:=aS h2
   subst this
   exact fin _ _ p6 a9 wI
  ·cases h2
 | some S2=>
  rw[cC] at h2
  simp only at h2⊢
  split at h2
  ·rename_i gr wI
   have:=aS h2
   subst this
   exact fin _ _ p6 a9 wI
  ·split at h2
   ·rename_i gr wI
    obtain ⟨hc,h3⟩:=aJ h2
    simp only[aL,aW] at hc
    have:=aS h3
    subst this
    exact fin _ _ hc.1 hc.2 wI
   ·cases h2
theorem ae4 (hC:mA P A C) (hP:kF P A) (qV:P.follows .mixedOrders=true):mA P A (pN P A C):=by
 intro f ds es h
 unfold pN at h
 cases hf:P.funcs[A.aU f]? with
 | none=>rw[hf] at h;cases h
 | some fn=>
  rw[hf] at h
  simp only at h
  cases hb:fn.body with
  | none=>rw[hb] at h;cases h
  | some c=>
   rw[hb] at h
   simp only at h
   cases hc:(jo 0 (A.sin f).bQ&&(Nat.ble (A.sin f).bQ.length fn.ntmps&&((A.sin f).ok&&(jo 0 (A.gA f).bQ&&(Nat.beq (A.gA f).bQ.length fn.results.size&&pL (nL (A.sin f).aZ.length (A.mv f))))))) with
   | false=>rw[hc] at h;cases h
   | true=>
    rw[hc] at h
    simp only[cond_true] at h
    simp only[aL,aW,fO] at hc
    obtain ⟨lS,hnt,_,y6,a9,lU⟩:=hc
    obtain ⟨⟨out,st'⟩,h1,h2⟩:=bind_some h
    refine ⟨fn,c,rfl,hb,fun w I μ vals hH hgl hl hv=> ?_⟩
    have ae5:(∀id,out≠ .exit id)∧∃rd,(vN P A f fn (A.sin f).aZ.length st').run C st'.hp=some (es,rd):=by
     cases out with
     | exit id=>cases h2
     | norm=>
      refine ⟨by simp,?_⟩
      simp only[A7] at h2
      obtain ⟨⟨x,rd⟩,e1,e2⟩:=h2
      simp only at e2
      subst e2
      exact ⟨rd,e1⟩
     | ret=>
      refine ⟨by simp,?_⟩
      simp only[A7] at h2
      obtain ⟨⟨x,rd⟩,e1,e2⟩:=h2
      simp only at e2
      subst e2
      exact ⟨rd,e1⟩
    obtain ⟨bZ,rd,Mo⟩:=ae5
    refine calls_of_wp_defers hf hb ?_
    have hm: ∀id blk,(bB (A.sin f) ds).hp id=some blk→id<(A.sin f).aZ.length:=by
     intro id blk af
     simp only[bB,mk,ja] at af
     have:=(bE.1 af).1
     rwa [H6] at this
    have kG: ∀id e es ao,(bB (A.sin f) ds).hp id=some (.nest e es ao)→∀k,bN ao k=0:=by
     intro id e es ao af k
     simp only[bB,mk,ja] at af
     exact ae2 af k
    refine aeY (w0:=⟨w,I⟩) (μ:=μ) (hp0:=(bB (A.sin f) ds).hp) (B:=w.heap.size) (M:=pZ P w μ (bB (A.sin f) ds).hp) hC hP qV hm kG c h1 ?_ ?_
    ·refine Inv.enter lU ?_ hm kG fun p hp=>by
      simp only[bB,mk,ja]
      rw[List.getElem?_eq_none_iff,H6]
      exact hp
     refine ⟨I,μ,⟨hH,fun _ _ _=>rfl,aE _,fun b h=> .inl h,⟨rfl,rfl⟩⟩,⟨fun k=> ?_,?_,by simp,hgl⟩,(Le.refl (P:=P) w I μ _).HL⟩
     ·change an P w I μ _ _ (kz (gm (A.sin f).bQ ds) k)
      unfold kz
      rw[MO lS]
      simp only[jG,gy,Nat.sub_zero]
      cases hk:(gC ((A.sin f).bQ.map (·.2)) ds)[k]? with
      | none=>exact .undef
      | some x=>
       have nc:k<vals.length:=by
        have:=(bE.1 hk).1
        rw[MP,cy] at this
        rw[hl];exact this
       have:=hv k vals[k] x (bM nc) hk
       have e1:(vals.toArray++Array.replicate (fn.ntmps-vals.toArray.size) undef).getD k undef=vals[k]:=by
        simp[Array.getElem?_append,nc]
       rw[Option.getD_some]
       exact e1▸this
     ·simp
      omega
    ·intro a' w' hI
     obtain ⟨v,I2,cq,q1,q2,q3,q4⟩:=ae3 hm kG hI y6 a9 Mo
     obtain ⟨_,_,_,hA,_⟩:=hI
     cases out with
     | exit id=>exact absurd rfl (bZ id)
     | norm=>exact MD hP q1 ⟨v,I2,cq,rfl,q2,q3,q4⟩ _ hA.defers
     | ret=>exact MD hP q1 ⟨v,I2,cq,rfl,q2,q3,q4⟩ _ hA.defers
theorem VA (hP:kF P A) (qV:P.follows .mixedOrders=true): ∀n,mA P A (lK P A n)
 | 0=>fun _ _ _ h=>by cases h
 | n+1=>ae4 (VA hP qV n) hP qV
theorem ae6 (hP:kF P A) (qV:P.follows .mixedOrders=true):mA P A (Call P A):=by
 intro f ds es h
 have hn: ∃n,lK P A n f ds=some es:=by
  unfold Call at h
  split at h
  ·rename_i hex
   have:=hex.choose_spec.choose_spec
   rw[dq h] at this
   exact ⟨_,this⟩
  ·cases h
 obtain ⟨n,hn⟩:=hn
 exact VA hP qV n f ds es hn
end
section
variable {P:Program} {A:cU} {C:ae} {D:Nat→ae}
def Cz (C:ae) (D:Nat→ae):Prop:= ∀f a r,C f a=some r→∃n,∀k,n≤k→D k f a=some r
theorem sP {α:Type} (h:Cz C D) {hp:Nat→Option aj}: ∀{p:Rd α} {r:α × List Nat},p.run C hp=some r→∃n,∀k,n≤k→p.run (D k) hp=some r
 | .ret a,r,e=>⟨0,fun _ _=>e⟩
 | .fail,r,e=>by cases e
 | .get id q,r,e=>by
  obtain ⟨x,h1,h2⟩:=bind_some e
  obtain ⟨n,hn⟩:=sP h h1
  exact ⟨n,fun k hk=>by simp only[Rd.run,hn k hk,Option.bind_some];exact h2⟩
 | .opt o q,r,e=>by
  obtain ⟨x,h1,h2⟩:=bind_some e
  obtain ⟨n,hn⟩:=sP h h2
  exact ⟨n,fun k hk=>by simp only[Rd.run,h1,Option.bind_some];exact hn k hk⟩
 | .aC b q,r,e=>by
  obtain ⟨h1,h2⟩:=aJ e
  obtain ⟨n,hn⟩:=sP h h2
  exact ⟨n,fun k hk=>by simp only[Rd.run,h1,cond_true];exact hn k hk⟩
 | .call f a q,r,e=>by
  obtain ⟨x,h1,h2⟩:=bind_some e
  obtain ⟨n1,lS⟩:=h f a x h1
  obtain ⟨n2,y6⟩:=sP h h2
  exact ⟨max n1 n2,fun k hk=>by simp only[Rd.run,lS k (by omega),Option.bind_some];exact y6 k (by omega)⟩
 | .alt true x y,r,e=>sP (p:=x) h e
 | .alt false x y,r,e=>sP (p:=y) h e
theorem ae7 (h:Cz C D) {n i nb:Nat} {ops:Array Oper} {o:Oper} {st:St} {r:St × List Nat × List Nat} (e:iS P A C n ops i o nb st=some r): ∃N,∀k,N≤k→iS P A (D k) n ops i o nb st=some r:=by
 unfold iS at e
 have go:(((gD P A st.sl i (nb+64*i) o).run C st.hp).bind fun r=>some ((⟨jl st.sl o.dst r.1.v,bY st.hp r.1.upd,st.nb⟩:St),r.2,r.1.upd.map (·.1)))=some r→
   ∃N,∀k,N≤k→(((gD P A st.sl i (nb+64*i) o).run (D k) st.hp).bind fun r=>some ((⟨jl st.sl o.dst r.1.v,bY st.hp r.1.upd,st.nb⟩:St),r.2,r.1.upd.map (·.1)))=some r:=by
  intro e
  obtain ⟨x,h1,h2⟩:=bind_some e
  obtain ⟨N,hN⟩:=sP h h1
  exact ⟨N,fun k hk=>by rw[hN k hk];exact h2⟩
 unfold iS
 cases hd:uA o n with
 | false=>rw[hd] at e;cases e
 | true=>
  rw[hd] at e
  simp only[cond_true] at e⊢
  cases hg:o.guard with
  | none=>rw[hg] at e;exact go e
  | some gw=>
   obtain ⟨g,want⟩:=gw
   rw[hg] at e
   simp only at e⊢
   cases ng:(ops[g]?).bind (·.dst) with
   | none=>rw[ng] at e;cases e
   | some d=>
    rw[ng] at e
    simp only at e⊢
    cases oc:mV (st.sl d) with
    | none=>rw[oc] at e;cases e
    | some ob=>
    rw[oc] at e
    cases ob with
    | none=>exact ⟨0,fun _ _=>e⟩
    | some b=>
    simp only at e⊢
    cases hb:b==want with
    | true=>rw[hb] at e;exact go e
    | false=>rw[hb] at e;exact ⟨0,fun _ _=>e⟩
theorem VB (h:Cz C D) {n nb:Nat} {ops:Array Oper}: ∀{l:List (Nat × Oper)} {st:St} {log:Log} {r:St × Log},qC P A C n ops nb l st log=some r→∃N,∀k,N≤k→qC P A (D k) n ops nb l st log=some r
 | [],st,log,r,e=>⟨0,fun _ _=>e⟩
 | (i,o)::l,st,log,r,e=>by
  obtain ⟨x,h1,h2⟩:=bind_some e
  obtain ⟨N1,p8⟩:=ae7 h h1
  obtain ⟨N2,sQ⟩:=VB h h2
  exact ⟨max N1 N2,fun k hk=>by simp only[qC,p8 k (by omega),Option.bind_some];exact sQ k (by omega)⟩
theorem VC {X R:Type} {step:X→Option (X ⊕ R)} {stepD:Nat→X→Option (X ⊕ R)} (hs: ∀x y,step x=some y→∃N,∀k,N≤k→stepD k x=some y): ∀(n:Nat) (x:X) (r:R),fG step n x=some r→∃N,∀k,N≤k→fG (stepD k) n x=some r
 | 0,x,r,e=>by cases e
 | n+1,x,r,e=>by
  simp only[fG] at e⊢
  obtain ⟨y,h1,h2⟩:=bind_some e
  obtain ⟨N1,p8⟩:=hs x y h1
  cases y with
  | inl z=>
   obtain ⟨N2,sQ⟩:=VC hs n z r h2
   exact ⟨max N1 N2,fun k hk=>by rw[p8 k (by omega)];exact sQ k (by omega)⟩
  | inr q=>exact ⟨N1,fun k hk=>by rw[p8 k hk];exact h2⟩
theorem ae8 (h:Cz C D) {f n m:Nat}: ∀(c:Code) {st:St} {r:Out × St},exec P A C f n m c st=some r→∃N,∀k,N≤k→exec P A (D k) f n m c st=some r:=by
 intro c
 induction c with
 | skip=>exact fun e=>⟨0,fun _ _=>e⟩
 | exit id=>exact fun e=>⟨0,fun _ _=>e⟩
 | ret=>exact fun e=>⟨0,fun _ _=>e⟩
 | region id ops draw=>
  intro st r e
  simp only[exec] at e⊢
  obtain ⟨x,h1,h2⟩:=bind_some e
  obtain ⟨y,h3,h4⟩:=bind_some h1
  obtain ⟨N,hN⟩:=VB h h3
  refine ⟨N,fun k hk=> ?_⟩
  have:yr P (A.here f id) (D k) n ops draw st=some x:=by
   unfold yr
   rw[hN k hk]
   exact h4
  rw[this]
  exact h2
 | seq x y gX gY=>
  intro st r e
  simp only[exec] at e⊢
  obtain ⟨⟨o,s1⟩,h1,h2⟩:=bind_some e
  obtain ⟨N1,p8⟩:=gX h1
  cases o with
  | norm=>
   obtain ⟨N2,sQ⟩:=gY h2
   exact ⟨max N1 N2,fun k hk=>by rw[p8 k (by omega)];exact sQ k (by omega)⟩
  | exit id=>exact ⟨N1,fun k hk=>by rw[p8 k hk];exact h2⟩
  | ret=>exact ⟨N1,fun k hk=>by rw[p8 k hk];exact h2⟩
 | cond c x y gX gY=>
  intro st r e
  cases c with
  | tmp t=>
   have go: ∀{st:St} {r:Out × St},(match st.sl t with
     | .bool b=>(bif b then exec P A C f n m x st else exec P A C f n m y st).bind fun r=>
      match r.1 with
      | .norm=>some (.norm,canon m (A.join f t) r.2)
      | _=>some r
     | _=>none)=some r→∃N,∀k,N≤k→(match st.sl t with
     | .bool b=>(bif b then exec P A (D k) f n m x st else exec P A (D k) f n m y st).bind fun r=>
      match r.1 with
      | .norm=>some (.norm,canon m (A.join f t) r.2)
      | _=>some r
     | _=>none)=some r:=by
    intro st r e
    cases hs:st.sl t<;>rw[hs] at e<;>simp only at e⊢ <;>first|(cases e;done)|skip
    rename_i b
    obtain ⟨x1,h1,h2⟩:=bind_some e
    cases b with
    | true=>
     obtain ⟨N,hN⟩:=gX h1
     exact ⟨N,fun k hk=>by simp only[cond_true,hN k hk,Option.bind_some];exact h2⟩
    | false=>
     obtain ⟨N,hN⟩:=gY h1
     exact ⟨N,fun k hk=>by simp only[cond_false,hN k hk,Option.bind_some];exact h2⟩
   simp only[exec] at e⊢
   split at e
   ·rename_i hS
    obtain ⟨N,hN⟩:=go e
    exact ⟨N,fun k hk=>hN k hk⟩
   ·rename_i S hS
    obtain ⟨ds,h1,h2⟩:=bind_some e
    obtain ⟨e',h3,h4⟩:=bind_some h2
    obtain ⟨r1,h5,h6⟩:=bind_some h3
    obtain ⟨N,hN⟩:=go h5
    refine ⟨N,fun k hk=> ?_⟩
    try rw[hS]
    simp only[h1,Option.bind_some]
    exact (congrArg (fun z:Option (Out × St)=>(z.bind fun r=>ways m 0 S.2 r).bind fun e=>lJ 0 S.2 e.1 e.2 fun o st=>some (o,st)) (hN k hk)).trans (by simp only[Option.bind_some,h6];exact h4)
  | const v=>
   cases v with
   | bool b=>
    simp only[exec] at e⊢
    cases b with
    | true=>exact gX e
    | false=>exact gY e
   | _=>simp only[exec] at e;cases e
  | _=>simp only[exec] at e;cases e
 | block id c ih=>
  intro st r e
  simp only[exec] at e⊢
  obtain ⟨x1,h1,h2⟩:=bind_some e
  obtain ⟨N,hN⟩:=ih h1
  exact ⟨N,fun k hk=>by rw[hN k hk];exact h2⟩
 | loop c ih=>
  intro st r e
  simp only[exec] at e⊢
  split at e
  ·cases e
  ·rename_i S hS
   obtain ⟨ds,h1,h2⟩:=bind_some e
   obtain ⟨e',h3,h4⟩:=bind_some h2
   obtain ⟨q,hq⟩:=ye h3
   obtain ⟨N,hN⟩:=VC (stepD:=fun k ds=>mn m S.1 S.2 (exec P A (D k) f n m c (bB S.1 ds))) (fun x y CA=>by
    unfold mn at CA⊢
    obtain ⟨z,h5,h6⟩:=bind_some CA
    obtain ⟨N,hN⟩:=ih h5
    exact ⟨N,fun k hk=>by rw[hN k hk];exact h6⟩) q ds e' hq
   refine ⟨N,fun k hk=> ?_⟩
   try rw[hS]
   simp only[h1,Option.bind_some]
   rw[yd (hN k hk)]
   exact h4
 | _=>intro st r e;simp only[exec] at e;cases e
theorem H8 (h:Cz C D) {f:Nat} {ds es:List V} (e:pN P A C f ds=some es): ∃N,∀k,N≤k→pN P A (D k) f ds=some es:=by
 unfold pN at e⊢
 cases hf:P.funcs[A.aU f]? with
 | none=>rw[hf] at e;cases e
 | some fn=>
  rw[hf] at e
  simp only at e⊢
  cases hb:fn.body with
  | none=>rw[hb] at e;cases e
  | some c=>
   rw[hb] at e
   simp only at e⊢
   cases hc:(jo 0 (A.sin f).bQ&&(Nat.ble (A.sin f).bQ.length fn.ntmps&&((A.sin f).ok&&(jo 0 (A.gA f).bQ&&(Nat.beq (A.gA f).bQ.length fn.results.size&&pL (nL (A.sin f).aZ.length (A.mv f))))))) with
   | false=>rw[hc] at e;cases e
   | true=>
    rw[hc] at e
    simp only[cond_true] at e⊢
    obtain ⟨⟨o,s1⟩,h1,h2⟩:=bind_some e
    obtain ⟨N1,p8⟩:=ae8 h c h1
    cases o with
    | exit id=>cases h2
    | norm=>
     simp only[A7] at h2
     obtain ⟨x,e1,e2⟩:=h2
     obtain ⟨N2,sQ⟩:=sP h e1
     exact ⟨max N1 N2,fun k hk=>by rw[p8 k (by omega)];simp only[Option.bind_some,sQ k (by omega),Option.map_some,e2]⟩
    | ret=>
     simp only[A7] at h2
     obtain ⟨x,e1,e2⟩:=h2
     obtain ⟨N2,sQ⟩:=sP h e1
     exact ⟨max N1 N2,fun k hk=>by rw[p8 k (by omega)];simp only[Option.bind_some,sQ k (by omega),Option.map_some,e2]⟩
theorem VD: ∀n f a r,lK P A n f a=some r→lK P A (n+1) f a=some r
 | 0,f,a,r,h=>by cases h
 | n+1,f,a,r,h=>by
  obtain ⟨N,hN⟩:=H8 (C:=lK P A n) (D:=fun _=>lK P A (n+1)) (fun f a r h=>⟨0,fun _ _=>VD n f a r h⟩) h
  exact hN N (aE _)
theorem MQ {n k:Nat} (hk:n≤k) {f:Nat} {a r:List V} (h:lK P A n f a=some r):lK P A k f a=some r:=by
 induction hk with
 | refl=>exact h
 | step _ ih=>exact VD _ _ _ _ ih
theorem CB {f:Nat} {a r:List V}:Call P A f a=some r↔∃n,lK P A n f a=some r:=by
 constructor
 ·intro h
  unfold Call at h
  split at h
  ·rename_i hex
   have:=hex.choose_spec.choose_spec
   rw[dq h] at this
   exact ⟨_,this⟩
  ·cases h
 ·rintro ⟨n,hn⟩
  have hex: ∃n r,lK P A n f a=some r:=⟨n,r,hn⟩
  unfold Call
  rw[nH hex]
  have h2:=hex.choose_spec.choose_spec
  have h3:=MQ (Nat.le_max_left n hex.choose) hn
  have h4:=MQ (Nat.le_max_right n hex.choose) h2
  rw[h3] at h4
  exact h4.symm
theorem ae9 (f:Nat) (a:List V):Call P A f a=pN P A (Call P A) f a:=by
 apply Option.ext
 intro r
 constructor
 ·intro h
  obtain ⟨n,hn⟩:=CB.1 h
  cases n with
  | zero=>cases hn
  | succ n=>
   obtain ⟨N,hN⟩:=H8 (C:=lK P A n) (D:=fun _=>Call P A) (fun f a r h=>⟨0,fun _ _=>CB.2 ⟨n,h⟩⟩) hn
   exact hN N (aE _)
 ·intro h
  obtain ⟨N,hN⟩:=H8 (C:=Call P A) (D:=lK P A) (fun f a r h=>by
   obtain ⟨n,hn⟩:=CB.1 h
   exact ⟨n,fun k hk=>MQ hk hn⟩) h
  exact CB.2 ⟨N+1,hN N (aE _)⟩
end
end Go.AM
namespace Go.AM
open Go.ChangeShapes Go.WideShapes Go.RowKit
section
variable (P:Program)
inductive WT:TypeId→V→Prop
 | int {t:TypeId} {k:IntKind} {n:Int}:P.underlying t=some (.int k)→(Lit.int k n).wf=true→WT t (.int k n)
 | bool {t:TypeId} {b:Bool}:P.underlying t=some .bool→WT t (.bool b)
 | str {t:TypeId} {l:List UInt8}:P.underlying t=some .string→l.length≤maxLen→WT t (.str l)
 | list {t e:TypeId} {es:List V}:P.underlying t=some (.slice e)→es.length≤maxLen→
   (∀(i:Nat) x,es[i]? =some x→bP P e=true→∃xs,x= .agg xs∧xs.length=(a8 P e).length)→
   (∀(i j:Nat) x t',es[i]? =some x→(a8 P e)[j]? =some t'→WT t' (bW P e x j))→WT t (.list e es)
def jw (t:TypeId) (x:V):Prop:=
 (bP P t=true→∃xs,x= .agg xs∧xs.length=(a8 P t).length)∧∀(j:Nat) t',(a8 P t)[j]? =some t'→WT P t' (bW P t x j)
def vq:List TypeId→List V→Prop
 | [],[]=>True
 | t::ts,x::xs=>jw P t x∧vq ts xs
 | _,_=>False
def hasB (L:List TypeId) (t:TypeId):Bool:=L.any fun u=>Nat.beq u t
def H9 (L:List TypeId):Nat→List Field→Bool
 | _,[]=>true
 | n,f::fs=>hasB L f.type&&(Nat.beq f.offset n&&(Nat.beq (P.cellsOf f.type) (a8 P f.type).length&&H9 L (n+P.cellsOf f.type) fs))
def CD:List Nat→List Nat→Bool
 | [],[]=>true
 | a::l,b::m=>Nat.beq a b&&CD l m
 | _,_=>false
def MR (L:List TypeId) (t:TypeId):Bool:=
 Nat.beq (P.cellsOf t) (a8 P t).length&&
 match P.underlying t with
 | some (.int _)=>true
 | some .bool=>true
 | some .string=>true
 | some (.slice e)=>hasB L e&&dj P e
 | some (.struct fs)=>H9 P L 0 fs.toList&&CD (flat P t) (fs.toList.flatMap fun f=>a8 P f.type)
 | some (.array n e)=>hasB L e&&(Nat.beq (P.cellsOf e) (a8 P e).length&&CD (flat P t) (List.replicate n (a8 P e)).flatten)
 | _=>false
def Ia (L:List TypeId):Bool:=L.all fun t=>MR P L t
end
theorem Ib {L:List TypeId} {t:TypeId} (h:hasB L t=true):t∈L:=by
 obtain ⟨u,hu,h2⟩:=vA.1 h
 rw[aW] at h2
 exact h2▸hu
theorem MS: ∀{l m:List Nat},CD l m=true→l=m
 | [],[],_=>rfl
 | a::l,b::m,h=>by
  simp only[CD,aL,aW] at h
  rw[h.1,MS h.2]
 | [],_::_,h=>by cases h
 | _::_,[],h=>by cases h
section
variable {P:Program} {H:Type} {enc:TypeId × Value→H} {w:World} {base:Nat} {spare:Nat→Bool} {held:Bool} {L:List TypeId}
def pd (w:World):Nat→Prop:=fun b=>b<w.heap.size
def pe (P:Program) (w:World) (ts:List TypeId) (cs:List Value) (xs:List V):Prop:=
 cs.length=ts.length∧xs.length=ts.length∧∀(j:Nat) t',ts[j]? =some t'→∃v y,cs[j]? =some v∧xs[j]? =some y∧Pure P w (pd w) t' v y∧WT P t' y
theorem pe.app {ts yn:List TypeId} {cs ju:List Value} {xs VE:List V} (h:pe P w ts cs xs) (h':pe P w yn ju VE):pe P w (ts++yn) (cs++ju) (xs++VE):=by
 obtain ⟨a,b,c⟩:=h
 obtain ⟨a',b',c'⟩:=h'
 refine ⟨by simp[a,a'],by simp[b,b'],fun j t' hj=> ?_⟩
 by_cases aX:j<ts.length
 ·rw[lB aX] at hj
  obtain ⟨v,y,e1,e2,e3⟩:=c j t' hj
  exact ⟨v,y,by rw[lB (by omega)];exact e1,by rw[lB (by omega)];exact e2,e3⟩
 ·rw[lC (by omega)] at hj
  obtain ⟨v,y,e1,e2,e3⟩:=c' _ t' hj
  exact ⟨v,y,by rw[lC (by omega),a];exact e1,by rw[lC (by omega),b];exact e2,e3⟩
theorem afa {w:World} {a:Addr} {v:Value} (h:w.cell? a=some v):a.spot=none∧a.block<w.heap.size:=by
 unfold World.cell? at h
 split at h
 ·rename_i hh
  split at h
  ·cases h
  ·rename_i hs
   exact ⟨by simpa using hs,(jh.1 hh).1⟩
 all_goals (first|cases h|skip)
theorem VF {rd:TypeId→List Value→Option (DataW H × List MemPlace)} (cs:List Value)
  (ih: ∀t cs x,t∈L→rd t cs=some x→∃xs,pe P w (a8 P t) cs xs): ∀(fs:List Field) (n:Nat),H9 P L n fs=true→
  (∀f∈fs,∃x,rd f.type ((cs.drop f.offset).take (P.cellsOf f.type))=some x)→∃m xs,n≤m∧pe P w (fs.flatMap fun f=>a8 P f.type) ((cs.drop n).take (m-n)) xs∧m-n=(fs.flatMap fun f=>a8 P f.type).length
 | [],n,_,_=>⟨n,[],aE _,⟨by simp,rfl,by simp⟩,by simp⟩
 | f::fs,n,h,hx=>by
  simp only[H9,aL,aW] at h
  obtain ⟨h1,h2,h3,h4⟩:=h
  obtain ⟨x,hxf⟩:=hx f (by simp)
  obtain ⟨xs,iI⟩:=ih _ _ _ (Ib h1) hxf
  obtain ⟨m,ys,hm,sR,HU⟩:=VF cs ih fs (n+P.cellsOf f.type) h4 fun g hg=>hx g (by simp[hg])
  refine ⟨m,xs++ys,by omega,?_,by simp only[List.flatMap_cons,dO];omega⟩
  have:=iI.app sR
  rw[List.flatMap_cons]
  rw[h2] at this
  have e:(cs.drop n).take (m-n)=(cs.drop n).take (P.cellsOf f.type)++(cs.drop (n+P.cellsOf f.type)).take (m-(n+P.cellsOf f.type)):=by
   rw[show m-n=P.cellsOf f.type+(m-(n+P.cellsOf f.type)) by omega,List.take_add,List.drop_drop]
  rw[e]
  exact this
theorem VG {rd:List Value→Option (DataW H × List MemPlace)} (cs:List Value) {e:TypeId} (hs:P.cellsOf e=(a8 P e).length)
  (ih: ∀cs x,rd cs=some x→∃xs,pe P w (a8 P e) cs xs): ∀(n:Nat),
  (∀i,i<n→∃x,rd ((cs.drop (i*P.cellsOf e)).take (P.cellsOf e))=some x)→∃xs,pe P w (List.replicate n (a8 P e)).flatten (cs.take (n*P.cellsOf e)) xs
 | 0,_=>⟨[],by simp,rfl,by simp⟩
 | n+1,hx=>by
  obtain ⟨xs,iI⟩:=VG cs hs ih n fun i hi=>hx i (by omega)
  obtain ⟨x,Cu⟩:=hx n (by omega)
  obtain ⟨ys,sR⟩:=ih _ _ Cu
  refine ⟨xs++ys,?_⟩
  rw[List.replicate_succ',List.flatten_append]
  have:=iI.app sR
  rw[eU,Nat.one_mul,List.take_add]
  simpa using this
theorem Ic (hL:Ia P L=true): ∀(fuel:Nat) (t:TypeId) (cs:List Value) (x:DataW H × List MemPlace),t∈L→DataW.trod enc P w base spare held fuel t cs=some x→
  ∃xs,pe P w (a8 P t) cs xs
 | 0,_,_,_,_,h=>by cases h
 | fuel+1,t,cs,x,ht,h=>by
  have hg:=gl.1 hL t ht
  unfold MR at hg
  rw[aL,aW] at hg
  obtain ⟨hc,hg⟩:=hg
  have one:bP P t=false→a8 P t=[t]:=fun h=>by simp[a8,h]
  cases hu:P.underlying t with
  | none=>rw[hu] at hg;cases hg
  | some d=>
   rw[hu] at hg
   cases d with
   | int k=>
    obtain ⟨n,rfl,rfl,hwf⟩:=DataW.trod_int hu h
    rw[one (by simp[bP,hu])]
    exact ⟨[.int k n],rfl,rfl,fun j t' hj=>by
     cases j with
     | zero=>cases hj;exact ⟨_,_,rfl,rfl,.int hu,.int hu hwf⟩
     | succ j=>simp at hj⟩
   | bool=>
    obtain ⟨b,rfl,rfl⟩:=DataW.trod_bool hu h
    rw[one (by simp[bP,hu])]
    exact ⟨[.bool b],rfl,rfl,fun j t' hj=>by
     cases j with
     | zero=>cases hj;exact ⟨_,_,rfl,rfl,.bool hu,.bool hu⟩
     | succ j=>simp at hj⟩
   | string=>
    obtain ⟨s,rfl,rfl,hl⟩:=DataW.trod_string hu h
    rw[one (by simp[bP,hu])]
    exact ⟨[.str s.data.toList],rfl,rfl,fun j t' hj=>by
     cases j with
     | zero=>cases hj;exact ⟨_,_,rfl,rfl,.str hu rfl,.str hu (by simpa using hl)⟩
     | succ j=>simp at hj⟩
   | slice e=>
    simp only[aL] at hg
    obtain ⟨he,az⟩:=hg
    rw[one (by simp[bP,hu])]
    have single: ∀v y,cs=[v]→Pure P w (pd w) t v y→WT P t y→∃xs,pe P w [t] cs xs:=by
     rintro v y rfl a b
     exact ⟨[y],rfl,rfl,fun j t' hj=>by
      cases j with
      | zero=>cases hj;exact ⟨_,_,rfl,rfl,a,b⟩
      | succ j=>simp at hj⟩
    rcases DataW.trod_slice hu h with ⟨rfl,rfl⟩|⟨a,len,cap,elems,rest,n,hn,rfl,rfl,hb,hl,hm,hlen,dk,_,_⟩
    ·exact single _ _ rfl (.nil hu) (.list hu (by simp) (by simp) (by simp))
    ·cases hn
     have jP:=(lO az).2
     have TC:P.cellsOf e=(a8 P e).length:=(gF az).symm
     have key: ∀i,i<len→∃ju xs,w.cells? base (a.add (i*P.cellsOf e)) (P.cellsOf e)=some ju∧pe P w (a8 P e) ju xs:=by
      intro i hi
      have h1:=dk i hi
      rw[bM (by omega)] at h1
      obtain ⟨ju,h2,h3⟩:=Option.bind_eq_some_iff.1 h1
      obtain ⟨xs,iI⟩:=Ic hL fuel e ju _ (Ib he) h3
      exact ⟨ju,xs,h2,iI⟩
     by_cases h0:len=0
     ·subst h0
      exact single _ _ rfl (.emp hu) (.list hu (by simp) (by simp) (by simp))
     ·have jV:a.spot=none∧a.block<w.heap.size:=by
       obtain ⟨ju,xs,h2,_⟩:=key 0 (by omega)
       obtain ⟨_,h3,h4⟩:=World.cells?_some h2
       have h5:=h4 0 jP
       rw[bM (by omega)] at h5
       have:=afa h5
       simpa[Addr.add] using this
      have hF: ∃(F:Nat→List Value) (X:Nat→List V),∀i,i<len→w.cells? base (a.add (i*P.cellsOf e)) (P.cellsOf e)=some (F i)∧pe P w (a8 P e) (F i) (X i):=by
       refine ⟨fun i=>if hi:i<len then (key i hi).choose else [],fun i=>if hi:i<len then (key i hi).choose_spec.choose else [],fun i hi=> ?_⟩
       simp only[nH hi]
       exact (key i hi).choose_spec.choose_spec
      obtain ⟨F,X,MT⟩:=hF
      have hx: ∀(i j:Nat) y t',((List.range len).map fun i=>cN P e (X i))[i]? =some y→(a8 P e)[j]? =some t'→i<len∧∃v,(F i)[j]? =some v∧Pure P w (pd w) t' v (bW P e y j)∧WT P t' (bW P e y j):=by
       intro i j y t' hy hj
       have hi:i<len:=by
        have:=(bE.1 hy).1
        simpa using this
       refine ⟨hi,?_⟩
       simp[A8 hi] at hy
       obtain ⟨c1,c2,c3⟩:=(MT i hi).2
       obtain ⟨v,z,d1,d2,d3,d4⟩:=c3 j t' hj
       have:bW P e y j=z:=by
        rw[←hy]
        unfold bW cN
        cases ha:bP P e with
        | true=>
         simp only[cond_true,V.cell]
         rw[v5 _ _ _ d2]
        | false=>
         simp only[cond_false]
         have:a8 P e=[e]:=by simp[a8,ha]
         rw[this] at hj
         cases j with
         | zero=>rw[v5 _ _ _ d2]
         | succ j=>simp at hj
       rw[this]
       exact ⟨v,d1,d3,d4⟩
      have ik: ∀i j,i<len→j<P.cellsOf e→w.cell? ⟨a.block,a.off+(i*P.cellsOf e+j),none⟩=some ((F i).getD j undef):=by
       intro i j hi hj
       obtain ⟨h1,h2⟩:=MT i hi
       obtain ⟨_,h3,h4⟩:=World.cells?_some h1
       have h5:=h4 j hj
       rw[Go.Deep.add_add] at h5
       have e1:a.add (i*P.cellsOf e+j)=⟨a.block,a.off+(i*P.cellsOf e+j),none⟩:=by
        obtain ⟨b,o,s⟩:=a
        simp only at jV
        rw[jV.1]
        exact o5 ..
       rw[e1] at h5
       rw[h5,ui,bM (by omega)]
       rfl
      have ha:a=⟨a.block,a.off,none⟩:=by
       obtain ⟨b,o,s⟩:=a
       simp only at jV
       rw[jV.1]
      refine single (.slice (some a) len cap) (.list e ((List.range len).map fun i=>cN P e (X i))) rfl ?_ ?_
      ·rw[ha]
       refine .list (fun i j=>(F i).getD j undef) hu (by simp) hl (fun _=>jV.2) ik ?_
       intro i j y t' hy hj
       obtain ⟨hi,v,d1,d2,_⟩:=hx i j y t' hy hj
       rw[ui,d1]
       exact d2
      ·refine .list hu (by simp;omega) ?_ ?_
       ·intro i y hy Ie
        have hi:i<len:=by
         have:=(bE.1 hy).1
         simpa using this
        simp[A8 hi] at hy
        rw[←hy]
        exact ⟨X i,by simp[cN,Ie],(MT i hi).2.2.1⟩
       ·intro i j y t' hy hj
        obtain ⟨_,v,_,_,d3⟩:=hx i j y t' hy hj
        exact d3
   | struct fs=>
    simp only[aL] at hg
    obtain ⟨xs,n,hn,rfl,hlen,lT,hx⟩:=DataW.trod_struct hu h
    cases hn
    have het:a8 P t=fs.toList.flatMap fun f=>a8 P f.type:=by
     rw[←MS hg.2]
     simp[a8,bP,hu]
    obtain ⟨m,ys,_,sR,hm⟩:=VF (w:=w) (rd:=fun t cs=>DataW.trod enc P w base spare held fuel t cs) cs (fun t cs x a b=>Ic hL fuel t cs x a b) fs.toList 0 hg.1 (by
     intro f hf
     obtain ⟨i,hi⟩:=uf hf
     rw[ug] at hi
     have sE:i<fs.size:=(jh.1 hi).1
     exact ⟨_,(hx i f hi).trans (bM (by omega))⟩)
    rw[het]
    refine ⟨ys,?_⟩
    have:(cs.drop 0).take (m-0)=cs:=by
     rw[ig,hm,←het,←hc,←hlen,ud]
    rw[this] at sR
    exact sR
   | array n e=>
    simp only[aL,aW] at hg
    obtain ⟨xs,m,hn,rfl,hlen,lT,hx⟩:=DataW.trod_array hu h
    cases hn
    have het:a8 P t=(List.replicate n (a8 P e)).flatten:=by
     rw[←MS hg.2.2]
     simp[a8,bP,hu]
    obtain ⟨ys,sR⟩:=VG (w:=w) (rd:=DataW.trod enc P w base spare held fuel e) cs hg.2.1 (fun cs x b=>Ic hL fuel e cs x (Ib hg.1) b) n (by
     intro i hi
     exact ⟨_,(hx i hi).trans (bM (by omega))⟩)
    rw[het]
    refine ⟨ys,?_⟩
    have:cs.take (n*P.cellsOf e)=cs:=by
     have:n*P.cellsOf e=cs.length:=by
      rw[hlen,hc,het,hg.2.1]
      simp
     rw[this,ud]
    rw[this] at sR
    exact sR
   | _=>cases hg
end
section
variable {P:Program} {H:Type} {enc:TypeId × Value→H} {w:World} {L:List TypeId}
theorem afb {base MU:Nat} {spare:Nat→Bool} {held:Bool} {r:Reach} {β:Nat→Option Nat} {hp:Nat→Option aj} (hL:Ia P L=true) {t:TypeId} {v:Value} {d:DataW H} {ps:List MemPlace} (ht:t∈L) (gx:Value.okWide P w r MU t v)
  (h:DataW.Trod enc P w base spare held t v d ps): ∃x,an P w (pd w) β hp v x∧jw P t x:=by
 obtain ⟨fuel,hf⟩:=h
 obtain ⟨xs,c1,c2,c3⟩:=Ic hL fuel t _ _ ht hf
 have hg:=gl.1 hL t ht
 unfold MR at hg
 rw[aL,aW] at hg
 obtain ⟨_,hg⟩:=hg
 have Ie:bP P t=true→∃x,an P w (pd w) β hp v x∧jw P t x:=by
  intro ha
  have hv: ∃cs,v= .agg cs:=by
   unfold Value.okWide at gx
   unfold bP at ha
   split at gx
   ·obtain ⟨cs,e,_⟩:=gx;exact ⟨cs,e⟩
   ·obtain ⟨cs,e,_⟩:=gx;exact ⟨cs,e⟩
   ·split at ha<;>simp_all
  obtain ⟨cs,rfl⟩:=hv
  refine ⟨.agg xs,.agg (by simpa[Value.cells] using c1.trans c2.symm) fun j v x hv hx=> ?_,fun _=>⟨xs,rfl,c2⟩,fun j t' hj=> ?_⟩
  ·have hj:j<(a8 P t).length:=by rw[←c2];exact (bE.1 hx).1
   obtain ⟨v',y,e1,e2,e3,_⟩:=c3 j _ (bM hj)
   rw[hx] at e2
   cases e2
   have:cs[j]? =some v':=by simpa[Value.cells] using e1
   rw[hv] at this
   cases this
   exact .se e3
  ·obtain ⟨v',y,e1,e2,_,e4⟩:=c3 j t' hj
   have:bW P t (.agg xs) j=y:=by
    simp only[bW,ha,cond_true,V.cell]
    exact v5 _ _ _ e2
   rw[this]
   exact e4
 have sB:bP P t=false→v.cells= #[v]→∃x,an P w (pd w) β hp v x∧jw P t x:=by
  intro ha we
  have he:a8 P t=[t]:=by simp[a8,ha]
  rw[he] at c1 c2 c3
  obtain ⟨v',y,e1,e2,e3,e4⟩:=c3 0 t rfl
  rw[we] at e1
  cases e1
  refine ⟨y,.se e3,⟨fun h=>absurd (ha.symm.trans h) (by simp),fun j t' hj=> ?_⟩⟩
  rw[he] at hj
  cases j with
  | succ j=>simp at hj
  | zero=>
   cases hj
   simpa[bW,ha] using e4
 unfold Value.okWide at gx
 cases hu:P.underlying t with
 | none=>rw[hu] at hg;cases hg
 | some dsc=>
  rw[hu] at hg gx
  cases dsc with
  | int k=>
   refine sB (by simp[bP,hu]) ?_
   simp only[Cell.okWide,Cell.ok,hu] at gx
   cases v<;>first|rfl|(simp at gx;done)|exact gx.elim
  | bool=>
   refine sB (by simp[bP,hu]) ?_
   simp only[Cell.okWide,Cell.ok,hu] at gx
   cases v<;>first|rfl|(simp at gx;done)|exact gx.elim
  | string=>
   refine sB (by simp[bP,hu]) ?_
   simp only[Cell.okWide,Cell.ok,hu] at gx
   cases v<;>first|rfl|(simp at gx;done)|exact gx.elim
  | slice e=>
   refine sB (by simp[bP,hu]) ?_
   simp only[Cell.okWide,Cell.ok,hu] at gx
   cases v<;>first|rfl|(simp at gx;done)|exact gx.elim
  | struct fs=>exact Ie (by simp[bP,hu])
  | array n e=>exact Ie (by simp[bP,hu])
  | _=>cases hg
theorem VH {base MU:Nat} {spare:Nat→Bool} {held:Bool} {r:Reach} {β:Nat→Option Nat} {hp:Nat→Option aj} (hL:Ia P L=true): ∀{ts:List TypeId} {vs:List Value} {ds:List (DataW H)} {ps:List MemPlace},
  (∀t∈ts,t∈L)→(∀(j:Nat) t v,ts[j]? =some t→vs[j]? =some v→Value.okWide P w r MU t v)→DataW.TrodAll enc P w base spare held ts vs ds ps→
  ∃xs,vs.length=xs.length∧(∀(j:Nat) v x,vs[j]? =some v→xs[j]? =some x→an P w (pd w) β hp v x)∧vq P ts xs
 | [],vs,ds,ps,_,_,h=>by
  obtain ⟨rfl,rfl,rfl⟩:=trodAll_nil h
  exact ⟨[],rfl,by simp,trivial⟩
 | t::ts,vs,ds,ps,hm,gx,h=>by
  obtain ⟨v,GX,d,VI,a,b,rfl,rfl,rfl,h1,h2⟩:=trodAll_cons h
  obtain ⟨x,Cu,o7⟩:=afb (β:=β) (hp:=hp) hL (hm t (by simp)) (gx 0 t v rfl rfl) h1
  obtain ⟨xs,hl,hr,hw⟩:=VH (β:=β) (hp:=hp) hL (fun t ht=>hm t (by simp[ht])) (fun j t v a b=>gx (j+1) t v (by simpa using a) (by simpa using b)) h2
  refine ⟨x::xs,by simp[hl],fun j v' x' hv hx=> ?_,o7,hw⟩
  cases j with
  | zero=>cases hv;cases hx;exact Cu
  | succ j=>exact hr j v' x' (by simpa using hv) (by simpa using hx)
theorem VJ {base:Nat} {spare:Nat→Bool} {held:Bool}: ∀{ts:List TypeId} {vs:List Value} {ds:List (DataW H)} {ps:List MemPlace},DataW.TrodAll enc P w base spare held ts vs ds ps→ds.length=ts.length
 | [],vs,ds,ps,h=>by obtain ⟨rfl,rfl,rfl⟩:=trodAll_nil h;rfl
 | t::ts,vs,ds,ps,h=>by
  obtain ⟨v,GX,d,VI,a,b,rfl,rfl,rfl,h1,h2⟩:=trodAll_cons h
  simp[VJ h2]
theorem VK {base:Nat} (hl:laidOutB P=true) {W W':World} {VL:Nat→Bool}: ∀{ts:List TypeId} {vs:List Value} {ds:List (DataW H)} {ps:List MemPlace},(∀t∈ts,P.readableRec t=true∧t<P.types.size)→
  DataW.TrodAll enc P W base (fun _=>true) true ts vs ds ps→(∀p∈ps,W.sameAt W' p)→(∀p∈ps,VL p.block=true)→DataW.TrodAll enc P W' base VL true ts vs ds ps
 | [],vs,ds,ps,_,h,_,_=>by obtain ⟨rfl,rfl,rfl⟩:=trodAll_nil h;exact trodAll_mk0
 | t::ts,vs,ds,ps,hr,h,h1,h2=>by
  obtain ⟨v,GX,d,VI,a,b,rfl,rfl,rfl,h3,h4⟩:=trodAll_cons h
  obtain ⟨r1,r2⟩:=hr t (by simp)
  exact trodAll_cons_mk (WideElems.Trod_stays hl r1 r2 h3 (fun p hp=>h1 p (by simp[hp])) (fun p hp=>h2 p (by simp[hp])))
   (VK hl (fun t ht=>hr t (by simp[ht])) h4 (fun p hp=>h1 p (by simp[hp])) (fun p hp=>h2 p (by simp[hp])))
theorem afc {f:Func} {s:ChangeSpec} {apart fresh handsOn again:Bool} {W W':World} {args:Array Value} {v:Value} {ds gs:List (DataW H)} {before pa pv:List MemPlace}
  (hW:DataW.Whole enc P f.params.toList s.vars apart W args.toList ds gs before)
  (VM: ∀(b:Nat) (sp:Nat→Bool) (hd:Bool),DataW.TrodAll enc P W' b sp hd f.resultTypes.toList (v.resultList f.resultTypes.size) (s.fn H (ds++gs)).results [])
  (wB: ∀sp:Nat→Bool,(∀p∈before,sp p.block=true)→DataW.TrodAll enc P W' 0 sp true f.params.toList args.toList (s.fn H (ds++gs)).args pa)
  (VN: ∀sp:Nat→Bool,(∀p∈before,sp p.block=true)→DataW.TrodVars enc P W' sp s.vars (s.fn H (ds++gs)).vars pv)
  (Ig:before=pa++pv) (hk:W.keptBut W' (· ∈before)) (VO: ∀a:Addr,a.block<W.heap.size→W'.frozen? a=W.frozen? a)
  (az: ∀(j:Nat) (t:TypeId) (r:Value),f.resultTypes[j]? =some t→(v.resultList f.resultTypes.size)[j]? =some r→Value.okWide P W' .any 0 t r):
  s.post enc P f apart fresh handsOn again W args v W':=by
 have hold: ∀p∈before,(fun b=>decide (b<W.heap.size)) p.block=true:=fun p hp=>by simpa using hW.lt p hp
 refine ⟨ds,gs,before,[],pa,pv,hW,VM _ _ _,wB _ hold,VN _ hold,World.keptBut_mono (fun p hp=>⟨hp,?_⟩) hk,fun _=> ?_⟩
 ·rw[Ig,ew] at hp
  exact Or.inr hp
 ·have aX:=hW.lt
  obtain ⟨_,_,_,_,_,hz,hn⟩:=hW
  refine ⟨az,_,_,([]++pa)++pv,⟨[]++pa,pv,trodAll_append (wB _ (fun _ _=>rfl)) (VM _ _ _),VN _ (fun _ _=>rfl),rfl,?_,?_⟩,?_⟩
  ·intro b off hp
   have hb:MemPlace.cell b off∈before:=by rw[Ig];simpa using hp
   rw[VO ⟨b,off,none⟩ (aX _ hb)]
   exact hz b off hb
  ·intro ha
   have:=hn ha
   rw[Ig] at this
   simpa using this
  ·intro p hp _
   rw[Ig]
   simpa using hp
theorem acv {A:cU} (hP:kF P A) (qV:P.follows .mixedOrders=true) {f key:Nat} {fn:Func} {tb:TypeId} {s:ChangeSpec} {apart fresh handsOn again:Bool}
  (hf:P.funcs[f]? =some fn) (afd:A.aU key=f) (hL:Ia P L=true) (gG:fn.params.toList.all (fun t=>hasB L t)=true) (VP:fn.resultTypes= #[tb]) (VQ:P.underlying tb=some .bool) (VR:s.vars=[])
  (hs: ∀ds:List (DataW H),ds.length=fn.params.toList.length→s.fn H ds={results:=[.lit (.bool true)],args:=ds})
  (afe:laidOutB P=true) (aff:fn.params.toList.all (fun t=>P.readableRec t&&Nat.blt t P.types.size)=true)
  (gd:(A.sin key).aZ=[]) (az:((A.sin key).bQ.map (·.2)).all (VS.ok 0)=true) (afg:(A.gA key).bQ=[(0,.one .bool)]) (halt:A.alt key=none)
  (afh: ∀xs,vq P fn.params.toList xs→∃ds,ua ((A.sin key).bQ.map (·.2)) xs=some ds∧Call P A key ds=some [.bool true])
  {W:World} {base:Nat} {args:Array Value} {ds gs:List (DataW H)} {before:List MemPlace}
  (afi:iU P A.aG W (pd W)) (gx: ∀(j:Nat) t v,fn.params[j]? =some t→args[j]? =some v→Value.okWide P W .any base t v)
  (hW:DataW.Whole enc P fn.params.toList s.vars apart W args.toList ds gs before):
  Calls P f args W fun e W'=> ∃v,e= .returned v∧s.post enc P fn apart fresh handsOn again W args v W':=by
 have VT:=hW
 obtain ⟨p,q,hA,hV,rfl,VO,lU⟩:=hW
 rw[VR] at hV
 obtain ⟨hgs,hq⟩:gs=[]∧q=[]:=by
  cases gs with
  | nil=>exact ⟨rfl,hV⟩
  | cons g gs=>exact hV.elim
 subst hgs
 subst hq
 obtain ⟨xs,hl,hr,hwt⟩:=VH (β:=fun _=>none) (hp:=fun _=>none) hL (fun t ht=>Ib (gl.1 gG t ht)) (fun j t v a b=>gx j t v (by simpa using a) (by simpa using b)) hA
 obtain ⟨ls,hls,Cs⟩:=afh xs hwt
 obtain ⟨fn',c,h1,h2,h3⟩:=ae6 (A:=A) hP qV key ls [.bool true] Cs
 rw[afd] at h1 h3
 rw[hf] at h1
 cases h1
 have za: ∀j,(bB (A.sin key) ls).hp j=none:=fun j=>by simp[bB,mk,gd,fI,kP]
 obtain ⟨_,r1,r2⟩:=Cj (P:=P) (w:=W) (I:=pd W) (n:=0) (β:=fun _=>none) (av:=fun _=>none) (hp:=fun _=>none) (hp':=(bB (A.sin key) ls).hp) (fun j hj=>absurd hj (Nat.not_lt_zero j)) hls az
 have hlen:((A.sin key).bQ.map (·.2)).length=xs.length:=by rw[←r1 [],MP]
 have h4:=h3 W (pd W) (fun _=>none) args.toList ⟨fun id blk h=>(by rw[za] at h;cases h),fun id aF blk blk' b h=>(by rw[za] at h;cases h),fun id blk b h=>(by rw[za] at h;cases h),fun b h=>h⟩ afi
  (by rw[hl,←hlen,cy]) (fun j v y hv hy=>r2 [] j v y (fun x hx=>hr j v x hv hx) (by rw[iQ];exact hy))
 have ea:args.toList.toArray=args:=by simp
 rw[ea] at h4
 refine h4.mono fun e W' ⟨v,I2,cq,he,ha⟩=>⟨v,he,?_⟩
 have v9: ∀b,b<W.heap.size→W'.heap[b]? =W.heap[b]? :=fun b hb=>ha.yX.cB b hb (by rintro ⟨j,blk,hj,_⟩;rw[za] at hj;cases hj)
 have Mb:=ha.res
 have VU:A.so key [.bool true]=A.gA key∧A.lv key [.bool true]=[.bool true]:=by unfold cU.so cU.lv;rw[halt];exact ⟨rfl,rfl⟩
 rw[VU.1,VU.2,afg] at Mb
 obtain rfl:v= .bool true:=Mb.kU
 have na:Value.okWide P W' .any 0 tb (.bool true):=by simp[Value.okWide,VQ,Cell.okWide,Cell.ok]
 have mU:ds.length=fn.params.toList.length:=VJ hA
 have jX: ∀p'∈p++[],W.sameAt W' p':=by
  intro p' hp'
  have aX:=VT.lt p' hp'
  cases p' with
  | cell b o=>exact World.cell?_of_block (w:=W) (v9 b aX)
  | map b=>exact v9 b aX
 refine afc (pa:=p) (pv:=[]) VT ?_ ?_ ?_ rfl ?_ ?_ ?_
 ·intro b sp hd
  rw[iQ,hs ds mU,VP]
  exact trodAll_mk1 ⟨1,by simp[DataW.trod,Value.cells,VQ]⟩
 ·intro sp jV
  rw[iQ,hs ds mU]
  refine VK afe (fun t ht=> ?_) hA (fun p' hp'=>jX p' (by simpa using hp')) (fun p' hp'=>jV p' (by simpa using hp'))
  have:=gl.1 aff t ht
  simp only[aL] at this
  exact ⟨this.1,by simpa[lA] using this.2⟩
 ·intro sp jV
  rw[VR,iQ,hs ds mU]
  exact rfl
 ·refine ⟨ha.yX.io.1,ha.yX.io.2,fun i hi=> ?_⟩
  rw[v9 i hi]
  split<;>simp_all
 ·intro a aX
  exact World.frozen?_of_block (w:=W) (v9 a.block aX)
 ·intro j t r hj MV
  rw[VP] at hj MV
  cases j with
  | zero=>
   simp[Value.resultList] at hj MV
   subst hj
   subst MV
   exact na
  | succ j=>simp at hj
end
end Go.AM
namespace Go.AM
@[simp] theorem V.toInt_int (k:IntKind) (n:Int):V.toInt (.int k n)=n:=by cases k<;>rfl
@[simp] theorem V.oe (b:Bool):V.toBool (.bool b)=b:=by cases b<;>rfl
@[simp] theorem V.anY (s:List UInt8):V.toStr (.str s)=s:=by cases s<;>rfl
@[simp] theorem V.la (e:TypeId) (es:List V):V.toList (.list e es)=es:=by cases es<;>rfl
@[simp] theorem V.anZ (e:TypeId) (es:List V):V.toList (.own e es)=es:=by cases es<;>rfl
@[simp] theorem V.afj (cs:List V) (j:Nat):V.cell (.agg cs) j=V.nth cs j:=by cases cs<;>rfl
@[simp] theorem V.an0 (cs:List V) (j:Nat):V.comp (.bw cs) j=V.nth cs j:=by cases cs<;>rfl
@[simp] theorem V.bz (x:V) (l:List V):V.nth (x::l) 0=x:=by cases l<;>rfl
@[simp] theorem V.kH (x:V) (l:List V) (n:Nat):V.nth (x::l) (n+1)=V.nth l n:=by cases l<;>rfl
@[simp] theorem V.an1 (x y:V) (l:List V):V.nth (x::y::l) 1=y:=by cases l<;>rfl
@[simp] theorem V.an2 (x y z:V) (l:List V):V.nth (x::y::z::l) 2=z:=by cases l<;>rfl
@[simp] theorem V.an3 (x y z u:V) (l:List V):V.nth (x::y::z::u::l) 3=u:=by cases l<;>rfl
theorem wrap64 {x:Int} (h1: -9223372036854775808≤x) (h2:x<9223372036854775808):IntKind.wrap .i64 x=x:=by
 rw[IntKind.wrap_i64];omega
theorem CE {x:Int} (h1:0≤x) (h2:x<256):IntKind.wrap .u8 x=x:=by
 rw[IntKind.wrap_u8];omega
theorem MW {es:List V} {i:Int} {n:Nat} (h:i=n):idx es i=es[n]? :=by
 subst h;simp[idx]
theorem afk {α:Type} {f:α→V} {l:List α} {i:Int} {n:Nat} (h:i=n) (hn:n<l.length):idx (l.map f) i=some (f l[n]):=by
 rw[MW h];simp[hn]
@[simp] theorem CF (es:List V) (n:Nat):idx es (n:Int)=es[n]? :=by simp[idx]
section
variable {X R:Type} {step:X→Option (X ⊕ R)}
theorem MX (Inv:X→Prop) (μ:X→Nat) (Q:R→Prop)
  (h: ∀x,Inv x→(∃y,step x=some (.inl y)∧Inv y∧μ y<μ x)∨∃r,step x=some (.inr r)∧Q r):
  ∀x,Inv x→∃r,Loop step x=some r∧Q r:=by
 intro x
 induction hm:μ x using Nat.strongRecOn generalizing x with
 | ind m ih=>
  intro hx
  rcases h x hx with ⟨y,h1,h2,h3⟩|⟨r,h1,h2⟩
  ·obtain ⟨r,h4,h5⟩:=ih (μ y) (by omega) y rfl h2
   exact ⟨r,(cM h1).trans h4,h5⟩
  ·exact ⟨r,bd h1,h2⟩
theorem Ih (s:Nat→X) (n:Nat) {r:R} (h: ∀i,i<n→step (s i)=some (.inl (s (i+1)))) (he:step (s n)=some (.inr r)):Loop step (s 0)=some r:=by
 induction n generalizing s with
 | zero=>exact bd he
 | succ n ih=>
  rw[cM (h 0 (by omega))]
  exact ih (fun i=>s (i+1)) (fun i hi=>h (i+1) (by omega)) he
end
@[simp] theorem aw {α:Type} (p:Prop) [Decidable p] (a b:α):(bif decide p then a else b)=if p then a else b:=by by_cases h:p<;>simp[h]
@[simp] theorem lV {α:Type} (m n:Int) (a b:α):(bif m==n then a else b)=if m=n then a else b:=by
 by_cases h:m=n
 ·simp[h]
 ·have:(m==n)=false:=by simp[h]
  rw[this,ah h];rfl
@[simp] theorem uS {α:Type} (m n:Int) (a b:α):(bif m != n then a else b)=if m=n then b else a:=by
 by_cases h:m=n
 ·simp[h]
 ·have:(m != n)=true:=by simp[h]
  rw[this,ah h];rfl
@[simp] theorem dF {α:Type} (c:Bool) (a b:α):(bif !c then a else b)=bif c then b else a:=by cases c<;>rfl
@[simp] theorem MY {α:Type} (m n:Nat) (a b:α):(bif Nat.ble m n then a else b)=if m≤n then a else b:=by
 cases hb:Nat.ble m n with
 | true=>rw[ag (Nat.le_of_ble_eq_true hb)];rfl
 | false=>
  rw[ah fun h=> ?_]
  ·rfl
  ·rw[Nat.ble_eq_true_of_le h] at hb;cases hb
@[simp] theorem cE {α:Type} (c d:Bool) (a b:α):(bif c&&d then a else b)=bif c then (bif d then a else b) else b:=by cases c<;>rfl
section
variable {P:Program}
def VV (P : Program) : Bool := P.funcs.all fun fn => !(fn.name == "runtime.NumGoroutine")
theorem afl (h:VV P=true):y4 P:=by
 intro f fn hf
 unfold VV at h
 have:=(Array.all_eq_true_iff_forall_mem.1 h) fn (Array.mem_of_getElem? hf)
 simpa using this
theorem Sv {t:TypeId} {ts:List TypeId} {xs:List V} (h:vq P (t::ts) xs): ∃x ys,xs=x::ys∧jw P t x∧vq P ts ys:=by
 cases xs with
 | nil=>exact h.elim
 | cons x ys=>exact ⟨x,ys,rfl,h.1,h.2⟩
theorem acq {xs:List V} (h:vq P [] xs):xs=[]:=by
 cases xs with
 | nil=>rfl
 | cons x ys=>exact h.elim
theorem jw.one {t:TypeId} {x:V} (ha:bP P t=false) (h:jw P t x):WT P t x:=by
 have he:a8 P t=[t]:=by simp[a8,ha]
 have:=h.2 0 t (by rw[he];rfl)
 simpa[bW,ha] using this
theorem WT.fq {t:TypeId} {k:IntKind} {x:V} (hu:P.underlying t=some (.int k)) (h:WT P t x): ∃n,x= .int k n∧k.min≤n∧n≤k.max:=by
 cases h with
 | int h1 h2=>
  rw[hu] at h1
  cases h1
  simp only[Lit.wf,aL,dx] at h2
  exact ⟨_,rfl,h2⟩
 | bool h1=>rw[hu] at h1;cases h1
 | str h1=>rw[hu] at h1;cases h1
 | list h1=>rw[hu] at h1;cases h1
theorem WT.kU {t:TypeId} {x:V} (hu:P.underlying t=some .bool) (h:WT P t x): ∃b,x= .bool b:=by
 cases h with
 | int h1=>rw[hu] at h1;cases h1
 | bool h1=>exact ⟨_,rfl⟩
 | str h1=>rw[hu] at h1;cases h1
 | list h1=>rw[hu] at h1;cases h1
theorem WT.nU {t:TypeId} {x:V} (hu:P.underlying t=some .string) (h:WT P t x): ∃s,x= .str s∧s.length≤maxLen:=by
 cases h with
 | int h1=>rw[hu] at h1;cases h1
 | bool h1=>rw[hu] at h1;cases h1
 | str h1 h2=>exact ⟨_,rfl,h2⟩
 | list h1=>rw[hu] at h1;cases h1
theorem WT.MZ {t e:TypeId} {x:V} (hu:P.underlying t=some (.slice e)) (h:WT P t x): ∃es,x= .list e es∧es.length≤maxLen∧∀y∈es,jw P e y:=by
 cases h with
 | int h1=>rw[hu] at h1;cases h1
 | bool h1=>rw[hu] at h1;cases h1
 | str h1=>rw[hu] at h1;cases h1
 | list h1 h2 h3 h4=>
  rw[hu] at h1
  cases h1
  refine ⟨_,rfl,h2,fun y hy=> ?_⟩
  obtain ⟨i,hi⟩:=uf hy
  exact ⟨h3 i y hi,fun j t' hj=>h4 i j y t' hi hj⟩
theorem jw.mr {t:TypeId} {x:V} (ha:bP P t=true) (h:jw P t x): ∃xs,x= .agg xs∧xs.length=(a8 P t).length∧∀(j:Nat) t' y,(a8 P t)[j]? =some t'→xs[j]? =some y→WT P t' y:=by
 obtain ⟨xs,rfl,hl⟩:=h.1 ha
 refine ⟨xs,rfl,hl,fun j t' y hj hy=> ?_⟩
 have:=h.2 j t' hj
 simp only[bW,ha,cond_true,V.afj] at this
 rw[v5 _ _ _ hy] at this
 exact this
theorem VW {α:Type} {f:α→V}: ∀{es:List V},(∀y∈es,∃a,y=f a)→∃l:List α,es=l.map f
 | [],_=>⟨[],rfl⟩
 | y::es,h=>by
  obtain ⟨a,rfl⟩:=h y (by simp)
  obtain ⟨l,rfl⟩:=VW (f:=f) (es:=es) fun z hz=>h z (by simp[hz])
  exact ⟨a::l,rfl⟩
theorem M0 {α:Type} {f:α→V} {p:α→Prop}: ∀{es:List V},(∀y∈es,∃a,y=f a∧p a)→∃l:List α,es=l.map f∧∀a∈l,p a
 | [],_=>⟨[],rfl,by simp⟩
 | y::es,h=>by
  obtain ⟨a,rfl,ha⟩:=h y (by simp)
  obtain ⟨l,rfl,hl⟩:=M0 (f:=f) (p:=p) (es:=es) fun z hz=>h z (by simp[hz])
  exact ⟨a::l,rfl,by
   intro b hb
   rcases gT.1 hb with rfl|hb
   ·exact ha
   ·exact hl b hb⟩
theorem jw.int {t:TypeId} {x:V} (hu:P.underlying t=some (.int .i64)) (h:jw P t x): ∃n,x= .int .i64 n∧IntKind.min .i64≤n∧n≤IntKind.max .i64:=
 (h.one (by simp[bP,hu])).fq hu
theorem jw.str {t:TypeId} {x:V} (hu:P.underlying t=some .string) (h:jw P t x): ∃s,x= .str s∧s.length≤maxLen:=
 (h.one (by simp[bP,hu])).nU hu
end
def un.{u} {A B:Type} {γ:Sort u} (f:A→B→γ) (p:A × B):γ:=f p.1 p.2
def dm {A B γ:Type} (f:A→γ) (g:B→γ):A ⊕ B→γ
 | .inl a=>f a
 | .inr b=>g b
def aq:List Nat→Code→Code
 | [],c=>c
 | 0::p,.seq a _=>aq p a
 | _::p,.seq _ b=>aq p b
 | 0::p,.cond _ a _=>aq p a
 | _::p,.cond _ _ b=>aq p b
 | _::p,.block _ c=>aq p c
 | _::p,.loop c=>aq p c
 | _,c=>c
inductive ch where
 | loop (c:Code)
 | cond (t:Nat) (x y:Code)
section
variable (P:Program) (A:cU) (C:ae) (L:cl) (f n m:Nat)
def qW:Code→List ch
 | .seq a b=>qW a++qW b
 | .cond (.tmp t) x y=>
  match A.iE f (t*16+15) with
  | none=>qW x++qW y
  | some _=>[.cond t x y]
 | .cond (.const _) x y=>qW x++qW y
 | .block _ c=>qW c
 | .loop c=>[.loop c]
 | _=>[]
def cj:ch→Prop
 | .loop c=>
  match A.iE f (keyOf c+1) with
  | none=>True
  | some S=> ∀(β:Type) ds (k:Nat→List V→Option β),L β (keyOf c+1) ds k=(Loop (stepG P A C f n m S c) ds).bind fun r=>k r.1 r.2
 | .cond t x y=>
  match A.iE f (t*16+15) with
  | none=>True
  | some S=> ∀(β:Type) ds (k:Nat→List V→Option β),L β (t*16+15) ds k=(BC P A C f n m t S x y ds).bind fun r=>k r.1 r.2
def pf:List ch→Prop
 | []=>True
 | b::l=>cj P A C L f n m b∧pf l
variable {P A C L f n m}
theorem pf.left {a b:List ch}:pf P A C L f n m (a++b)→pf P A C L f n m a:=by
 induction a with
 | nil=>exact fun _=>trivial
 | cons x a ih=>exact fun h=>⟨h.1,ih h.2⟩
theorem pf.right {a b:List ch}:pf P A C L f n m (a++b)→pf P A C L f n m b:=by
 induction a with
 | nil=>exact fun h=>h
 | cons x a ih=>exact fun h=>ih h.2
theorem aK: ∀{c:Code} {bs:List ch},qW A f c=bs→pf P A C L f n m bs→jr P A C L f n m c:=by
 intro c
 induction c with
 | seq a b Li Lj=>
  intro bs h hb
  subst h
  exact ⟨Li rfl hb.left,Lj rfl hb.right⟩
 | cond c x y gX gY=>
  intro bs h hb
  subst h
  cases c with
  | tmp t=>
   simp only[qW] at hb
   simp only[jr]
   cases hs:A.iE f (t*16+15) with
   | none=>
    rw[hs] at hb
    exact ⟨gX rfl hb.left,gY rfl hb.right⟩
   | some S=>
    rw[hs] at hb
    have:=hb.1
    simp only[cj,hs] at this
    exact this
  | const v=>exact ⟨gX rfl hb.left,gY rfl hb.right⟩
  | _=>trivial
 | block id c ih=>
  intro bs h hb
  subst h
  exact ih rfl hb
 | loop c ih=>
  intro bs h hb
  subst h
  exact hb.1
 | _=>intro bs h hb;trivial
variable (P A C L f n m) in
noncomputable def M1 {β:Type} (t:Nat) (S:Shape × List (Out × Shape)) (x y:Code) (ds:List V) (k:Nat→List V→Option β):Option β:=
 let kc:Out→St→Option β:=fun o st=>
  match o with
  | .norm=>(ways m 0 S.2 (.norm,canon m (A.join f t) st)).bind fun e=>k e.1 e.2
  | o=>(ways m 0 S.2 (o,st)).bind fun e=>k e.1 e.2
 match (bB S.1 ds).sl t with
 | .bool b=>bif b then jq P A C L f n m x (bB S.1 ds) kc else jq P A C L f n m y (bB S.1 ds) kc
 | _=>none
theorem afm {t:Nat} {x y:Code} {S:Shape × List (Out × Shape)} (hS:A.iE f (t*16+15)=some S) (hx:jr P A C L f n m x) (hy:jr P A C L f n m y) {I R:Type} (enc:I→List V) (og:I→R→Nat × List V)
  (de:List V→I) (body:I→(β:Type)→(R→Option β)→Option β) (wJ: ∀ds,bB S.1 (enc (de ds))=bB S.1 ds)
  (e1: ∀i (β:Type) (k:Nat→List V→Option β),M1 P A C L f n m t S x y (enc i) k=body i β (fun r=>k (og i r).1 (og i r).2))
  (hl: ∀(β:Type) ds (k:Nat→List V→Option β),L β (t*16+15) ds k=body (de ds) β (fun r=>k (og (de ds) r).1 (og (de ds) r).2)):
  cj P A C L f n m (.cond t x y):=by
 simp only[cj,hS]
 intro β ds k
 rw[hl,←e1]
 unfold M1 BC
 rw[wJ]
 simp only
 have hk: ∀(z:Option (Out × St)),(z.bind fun r=>(match r.1 with
   | .norm=>(ways m 0 S.2 (.norm,canon m (A.join f t) r.2)).bind fun e=>k e.1 e.2
   | o=>(ways m 0 S.2 (o,r.2)).bind fun e=>k e.1 e.2))=((z.bind fun r=>
   match r.1 with
   | .norm=>some (Out.norm,canon m (A.join f t) r.2)
   | _=>some r).bind fun r=>ways m 0 S.2 r).bind fun r=>k r.1 r.2:=by
  intro z
  cases z with
  | none=>rfl
  | some r=>obtain ⟨o,st⟩:=r;cases o<;>rfl
 cases (bB S.1 ds).sl t with
 | bool b=>
  cases b with
  | true=>simp only[cond_true,GV P A C f n m x hx];exact hk _
  | false=>simp only[cond_false,GV P A C f n m y hy];exact hk _
 | _=>rfl
theorem aY {b:ch} {l:List ch} (h:cj P A C L f n m b) (h2:pf P A C L f n m l):pf P A C L f n m (b::l):=⟨h,h2⟩
theorem ar:pf P A C L f n m []:=trivial
theorem bp {key:Nat} {bs:List ch} (hb:qW A key (cA P (A.aU key))=bs) (ht:pf P A (Call P A) L key (cH P (A.aU key)) (A.sin key).aZ.length bs) {ds:List V} {r:Option (List V)}
  (h:Lk P A (Call P A) L key ds=r):Call P A key ds=r:=by
 rw[ae9,acD P A (Call P A) key (aK hb ht),h]
end
section
variable (P:Program) (A:cU)
def jx (C:ae) (N f n m:Nat):Code→St→Option (Out × St)
 | .skip,st=>some (.norm,st)
 | .region id ops draw,st=>(yr P (A.here f id) C n ops draw st).bind fun st'=>some (.norm,canon m (A.live f id) (freeze m (A.pur f id) st'))
 | .seq a b,st=>(jx C N f n m a st).bind fun r=>
  match r.1 with
  | .norm=>jx C N f n m b r.2
  | _=>some r
 | .cond (.tmp t) x y,st=>
  let go (st:St):Option (Out × St):=
   match st.sl t with
   | .bool b=>(bif b then jx C N f n m x st else jx C N f n m y st).bind fun r=>
    match r.1 with
    | .norm=>some (.norm,canon m (A.join f t) r.2)
    | _=>some r
   | _=>none
  match A.iE f (t*16+15) with
  | none=>go st
  | some S=>(jN m S.1 st).bind fun ds=>((go (bB S.1 ds)).bind fun r=>ways m 0 S.2 r).bind fun e=>lJ 0 S.2 e.1 e.2 fun o st=>some (o,st)
 | .cond (.const (.bool b)) x y,st=>bif b then jx C N f n m x st else jx C N f n m y st
 | .block id c,st=>(jx C N f n m c st).bind fun r=>
  match r.1 with
  | .norm=>some (.norm,canon m (A.blk f id) r.2)
  | .exit aF=>bif Nat.beq aF id then some (.norm,canon m (A.blk f id) r.2) else some r
  | .ret=>some r
 | .loop c,st=>
  match A.iE f (keyOf c+1) with
  | none=>none
  | some S=>(jN m S.1 st).bind fun ds=>(fG (fun ds=>mn m S.1 S.2 (jx C N f n m c (bB S.1 ds))) N ds).bind fun e=>lJ 0 S.2 e.1 e.2 fun o st=>some (o,st)
 | .exit id,st=>some (.exit id,st)
 | .ret,st=>some (.ret,st)
 | _,_=>none
def M3 (C:ae) (N f:Nat) (ds:List V):Option (List V):=
 match P.funcs[A.aU f]? with
 | none=>none
 | some fn=>
  match fn.body with
  | none=>none
  | some c=>bif jo 0 (A.sin f).bQ&&(Nat.ble (A.sin f).bQ.length fn.ntmps&&((A.sin f).ok&&(jo 0 (A.gA f).bQ&&(Nat.beq (A.gA f).bQ.length fn.results.size&&pL (nL (A.sin f).aZ.length (A.mv f)))))) then
    (jx P A C N f fn.ntmps (A.sin f).aZ.length c (BB A f ds)).bind fun r=>
     match r.1 with
     | .exit _=>none
     | _=>((vN P A f fn (A.sin f).aZ.length r.2).run C r.2.hp).map (·.1)
   else none
def Ii (N:Nat):Nat→ae
 | 0=>fun _ _=>none
 | n+1=>M3 P A (Ii N n) N
variable {P A}
theorem VX {X R:Type} {s1 s2:X→Option (X ⊕ R)} (h: ∀x y,s1 x=some y→s2 x=some y): ∀(n:Nat) (x:X) (r:R),fG s1 n x=some r→fG s2 n x=some r
 | 0,x,r,e=>by cases e
 | n+1,x,r,e=>by
  simp only[fG] at e⊢
  obtain ⟨y,h1,h2⟩:=bind_some e
  rw[h x y h1]
  cases y with
  | inl z=>exact VX h n z r h2
  | inr q=>exact h2
theorem afn {C:ae} {N f n m:Nat}: ∀(c:Code) {st:St} {r:Out × St},jx P A C N f n m c st=some r→exec P A C f n m c st=some r:=by
 intro c
 induction c with
 | skip=>exact fun e=>e
 | exit id=>exact fun e=>e
 | ret=>exact fun e=>e
 | region id ops draw=>exact fun e=>e
 | seq x y gX gY=>
  intro st r e
  simp only[jx,exec] at e⊢
  obtain ⟨⟨o,s1⟩,h1,h2⟩:=bind_some e
  rw[gX h1]
  cases o with
  | norm=>exact gY h2
  | exit id=>exact h2
  | ret=>exact h2
 | cond c x y gX gY=>
  intro st r e
  cases c with
  | tmp t=>
   have go: ∀{st:St} {r:Out × St},(match st.sl t with
     | .bool b=>(bif b then jx P A C N f n m x st else jx P A C N f n m y st).bind fun r=>
      match r.1 with
      | .norm=>some (.norm,canon m (A.join f t) r.2)
      | _=>some r
     | _=>none)=some r→(match st.sl t with
     | .bool b=>(bif b then exec P A C f n m x st else exec P A C f n m y st).bind fun r=>
      match r.1 with
      | .norm=>some (.norm,canon m (A.join f t) r.2)
      | _=>some r
     | _=>none)=some r:=by
    intro st r e
    cases hs:st.sl t<;>rw[hs] at e<;>simp only at e⊢ <;>first|(cases e;done)|skip
    rename_i b
    obtain ⟨x1,h1,h2⟩:=bind_some e
    cases b with
    | true=>simp only[cond_true,gX h1,Option.bind_some];exact h2
    | false=>simp only[cond_false,gY h1,Option.bind_some];exact h2
   simp only[jx,exec] at e⊢
   split at e
   ·rename_i hS
    try rw[hS]
    exact go e
   ·rename_i S hS
    obtain ⟨ds,h1,h2⟩:=bind_some e
    obtain ⟨e',h3,h4⟩:=bind_some h2
    obtain ⟨r1,h5,h6⟩:=bind_some h3
    try rw[hS]
    simp only[h1,Option.bind_some]
    exact (congrArg (fun z:Option (Out × St)=>(z.bind fun r=>ways m 0 S.2 r).bind fun e=>lJ 0 S.2 e.1 e.2 fun o st=>some (o,st)) (go h5)).trans (by simp only[Option.bind_some,h6];exact h4)
  | const v=>
   cases v with
   | bool b=>
    simp only[jx,exec] at e⊢
    cases b with
    | true=>exact gX e
    | false=>exact gY e
   | _=>simp only[jx] at e;cases e
  | _=>simp only[jx] at e;cases e
 | block id c ih=>
  intro st r e
  simp only[jx,exec] at e⊢
  obtain ⟨x1,h1,h2⟩:=bind_some e
  rw[ih h1]
  exact h2
 | loop c ih=>
  intro st r e
  simp only[jx,exec] at e⊢
  split at e
  ·cases e
  ·rename_i S hS
   obtain ⟨ds,h1,h2⟩:=bind_some e
   obtain ⟨e',h3,h4⟩:=bind_some h2
   try rw[hS]
   simp only[h1,Option.bind_some]
   rw[yd (VX (s2:=fun ds=>mn m S.1 S.2 (exec P A C f n m c (bB S.1 ds))) (fun x y CA=>by
    unfold mn at CA⊢
    obtain ⟨z,h5,h6⟩:=bind_some CA
    rw[ih h5]
    exact h6) N ds e' h3)]
   exact h4
 | _=>intro st r e;simp only[jx] at e;cases e
theorem afo {C:ae} {N f:Nat} {ds es:List V} (e:M3 P A C N f ds=some es):pN P A C f ds=some es:=by
 unfold M3 at e
 unfold pN
 cases hf:P.funcs[A.aU f]? with
 | none=>rw[hf] at e;cases e
 | some fn=>
  rw[hf] at e
  simp only at e⊢
  cases hb:fn.body with
  | none=>rw[hb] at e;cases e
  | some c=>
   rw[hb] at e
   simp only at e⊢
   cases hc:(jo 0 (A.sin f).bQ&&(Nat.ble (A.sin f).bQ.length fn.ntmps&&((A.sin f).ok&&(jo 0 (A.gA f).bQ&&(Nat.beq (A.gA f).bQ.length fn.results.size&&pL (nL (A.sin f).aZ.length (A.mv f))))))) with
   | false=>rw[hc] at e;cases e
   | true=>
    rw[hc] at e
    simp only[cond_true] at e⊢
    obtain ⟨x,h1,h2⟩:=bind_some e
    rw[afn c h1]
    exact h2
theorem VY {N:Nat}: ∀n {f:Nat} {a r:List V},Ii P A N n f a=some r→lK P A n f a=some r
 | 0,f,a,r,h=>by cases h
 | n+1,f,a,r,h=>by
  obtain ⟨M,hM⟩:=H8 (C:=Ii P A N n) (D:=fun _=>lK P A n) (fun f a r h=>⟨0,fun _ _=>VY n h⟩) (afo h)
  exact hM M (aE _)
theorem afp {N n f:Nat} {a r:List V} (h:Ii P A N n f a=some r):Call P A f a=some r:=CB.2 ⟨n,VY n h⟩
end
inductive LK where
 | int (k:IntKind)
 | bool
 | str
 | list (e:TypeId)
 | nat
def LK.Ty:LK→Type
 | .int _=>Int
 | .bool=>Bool
 | .str=>List UInt8
 | .list _=>List V
 | .nat=>Nat
def LK.enc:(k:LK)→k.Ty→V
 | .int k,n=> .int k n
 | .bool,b=> .bool b
 | .str,s=> .str s
 | .list e,l=> .list e l
 | .nat,n=>ff n
def LK.dec:(k:LK)→V→k.Ty
 | .int _,v=>v.toInt
 | .bool,v=>v.toBool
 | .str,v=>v.toStr
 | .list _,v=>v.toList
 | .nat,v=>mi v
theorem LK.VZ: ∀(k:LK) (x:k.Ty),k.dec (k.enc x)=x
 | .int _,_=>rfl
 | .bool,_=>rfl
 | .str,_=>rfl
 | .list _,_=>rfl
 | .nat,_=>rfl
def M4:List Nat→List LK
 | []=>[]
 | _::l=> .nat::M4 l
def LS.ks:LS→List LK
 | .int k=>[.int k]
 | .bool=>[.bool]
 | .str=>[.str]
 | .list e=>[.list e]
 | .sub .. =>[.nat,.nat]
 | .ptr _=>[.nat,.nat]
 | .row _ _ cs=>M4 cs
 | .cS _ cs _=> .nat::M4 cs
 | _=>[]
def zb:List LS→List LK
 | []=>[]
 | l::ls=>l.ks++zb ls
def VS.ks:VS→List LK
 | .one l=>l.ks
 | .agg ls=>zb ls
 | .bw ls=>zb ls
 | .fn _ a b=>zb a++zb b
 | .pref _ ls=>zb ls
def V0:List VS→List LK
 | []=>[]
 | l::ls=>l.ks++V0 ls
def BS.ks:BS→List LK
 | .var _ cs=>V0 cs
 | .arr e _=>[.list e]
 | .nest e=>[.list e]
 | .dead=>[]
 | .map t=>[.list t]
def V1:List (Nat × VS)→List LK
 | []=>[]
 | p::l=>p.2.ks++V1 l
def V2:List BS→List LK
 | []=>[]
 | b::l=>b.ks++V2 l
def Shape.ks (S:Shape):List LK:=V1 S.bQ++V2 S.aZ
def M5:List Nat→List V→List V
 | [],_=>[]
 | _::cs,ds=>ff (mi (V.nth ds 0))::M5 cs (ds.drop 1)
def LS.norm:LS→List V→List V
 | .int k,ds=>[.int k (V.nth ds 0).toInt]
 | .bool,ds=>[.bool (V.nth ds 0).toBool]
 | .str,ds=>[.str (V.nth ds 0).toStr]
 | .list e,ds=>[.list e (V.nth ds 0).toList]
 | .sub ..,ds=>[ff (mi (V.nth ds 0)),ff (mi (V.nth ds 1))]
 | .ptr _,ds=>[ff (mi (V.nth ds 0)),ff (mi (V.nth ds 1))]
 | .row _ _ cs,ds=>M5 cs ds
 | .cS _ cs _,ds=>ff (mi (V.nth ds 0))::M5 cs (ds.drop 1)
 | _,_=>[]
def zc:List LS→List V→List V
 | [],_=>[]
 | l::ls,ds=>l.norm ds++zc ls (ds.drop l.size)
def VS.norm:VS→List V→List V
 | .one l,ds=>l.norm ds
 | .agg ls,ds=>zc ls ds
 | .bw ls,ds=>zc ls ds
 | .fn _ a b,ds=>zc a ds++zc b (ds.drop (lH a))
 | .pref _ ls,ds=>zc ls ds
def V3:List VS→List V→List V
 | [],_=>[]
 | l::ls,ds=>l.norm ds++V3 ls (ds.drop l.size)
def BS.norm:BS→List V→List V
 | .var _ cs,ds=>V3 cs ds
 | .arr e _,ds=>[.list e (V.nth ds 0).toList]
 | .nest e,ds=>[.list e (V.nth ds 0).toList]
 | .dead,_=>[]
 | .map t,ds=>[.list t (V.nth ds 0).toList]
def V4:List (Nat × VS)→List V→List V
 | [],_=>[]
 | p::l,ds=>p.2.norm ds++V4 l (ds.drop p.2.size)
def V5:List BS→List V→List V
 | [],_=>[]
 | b::l,ds=>b.norm ds++V5 l (ds.drop b.size)
def Shape.norm (S:Shape) (ds:List V):List V:=V4 S.bQ ds++V5 S.aZ (ds.drop (pK S.bQ))
def wK:LK→List LK→Type
 | k,[]=>k.Ty
 | k,k'::ks=>k.Ty × wK k' ks
def lW:List LK→Type
 | []=>Unit
 | k::ks=>wK k ks
def wL:(k:LK)→(ks:List LK)→wK k ks→List V
 | k,[],x=>[k.enc x]
 | k,k'::ks,x=>k.enc x.1::wL k' ks x.2
def mC:(ks:List LK)→lW ks→List V
 | [],_=>[]
 | k::ks,x=>wL k ks x
def CG:(k:LK)→(ks:List LK)→List V→wK k ks
 | k,[],l=>k.dec (V.nth l 0)
 | k,k'::ks,l=>(k.dec (V.nth l 0),CG k' ks l.tail)
def p9:(ks:List LK)→List V→lW ks
 | [],_=>()
 | k::ks,l=>CG k ks l
theorem V6: ∀(k:LK) (ks:List LK) (x:wK k ks) (r:List V),CG k ks (wL k ks x++r)=x
 | k,[],x,r=>LK.VZ k x
 | k,k'::ks,x,r=>by
  show (k.dec (k.enc x.1),CG k' ks (wL k' ks x.2++r))=x
  rw[LK.VZ,V6 k' ks]
  rfl
def zd:List LK→Type 1→Type 1
 | [],R=>R
 | k::ks,R=>k.Ty→zd ks R
def V7:(k:LK)→(ks:List LK)→{R:Type 1}→zd (k::ks) R→wK k ks→R
 | _,[],_,f,x=>f x
 | _,k'::ks,_,f,x=>V7 k' ks (f x.1) x.2
def wM:(ks:List LK)→{R:Type 1}→zd ks R→lW ks→R
 | [],_,f,_=>f
 | k::ks,_,f,x=>V7 k ks f x
def ze {α:Type} (b:Bool):List Bool→List α→List α
 | [],_=>[]
 | _,[]=>[]
 | c::m,x::l=>bif c==b then x::ze b m l else ze b m l
def merge:List Bool→List V→List V→List V
 | [],_,_=>[]
 | true::m,i,x=>V.nth x 0::merge m i x.tail
 | false::m,i,x=>V.nth i 0::merge m i.tail x
def zf:List Nat→List LK→List LK
 | [],_=>[]
 | _,[]=>[]
 | 0::t,k::ks=>k::zf t ks
 | (_+1)::t,_::ks=>zf t ks
abbrev gI:=List Nat × List LK
def gI.fresh (w:gI):List LK:=zf w.1 w.2
def put:List Nat→List V→List V→List V
 | [],_,_=>[]
 | 0::t,ds,x=>V.nth x 0::put t ds x.tail
 | (j+1)::t,ds,x=>V.nth ds j::put t ds x
def wO:List Nat→List V→List V
 | [],_=>[]
 | 0::t,l=>V.nth l 0::wO t l.tail
 | (_+1)::t,l=>wO t l.tail
def uT:gI→List gI→Type
 | w,[]=>lW w.fresh
 | w,w'::ws=>lW w.fresh ⊕ uT w' ws
def sU:List gI→Type
 | []=>Empty
 | w::ws=>uT w ws
def wN (ds:List V) {β:Type} (k:Nat→List V→Option β):Nat→(w:gI)→(ws:List gI)→uT w ws→Option β
 | j,w,[],r=>k j (put w.1 ds (mC w.fresh r))
 | j,w,w'::ws,r=>dm (fun x=>k j (put w.1 ds (mC w.fresh x))) (fun y=>wN ds k (j+1) w' ws y) r
def wT (ds:List V) {β:Type} (k:Nat→List V→Option β):(ws:List gI)→sU ws→Option β
 | [],r=>Empty.elim r
 | w::ws,r=>wN ds k 0 w ws r
def qa (ds:List V):Nat→(w:gI)→(ws:List gI)→uT w ws→Nat × List V
 | j,w,[],r=>(j,put w.1 ds (mC w.fresh r))
 | j,w,_::_,.inl x=>(j,put w.1 ds (mC w.fresh x))
 | j,_,w'::ws,.inr y=>qa ds (j+1) w' ws y
def zg (ds:List V):(ws:List gI)→sU ws→Nat × List V
 | [],r=>Empty.elim r
 | w::ws,r=>qa ds 0 w ws r
theorem V8 (ds:List V) {β:Type} (k:Nat→List V→Option β): ∀(j:Nat) (w:gI) (ws:List gI) (r:uT w ws),wN ds k j w ws r=k (qa ds j w ws r).1 (qa ds j w ws r).2
 | _,_,[],_=>rfl
 | _,_,_::_,.inl _=>rfl
 | j,_,w'::ws,.inr y=>V8 ds k (j+1) w' ws y
theorem Ij (ds:List V) {β:Type} (k:Nat→List V→Option β): ∀(ws:List gI) (r:sU ws),wT ds k ws r=k (zg ds ws r).1 (zg ds ws r).2
 | [],r=>Empty.elim r
 | w::ws,r=>V8 ds k 0 w ws r
def zh:Nat→(w:gI)→(ws:List gI)→List V→uT w ws
 | _,w,[],l=>p9 w.fresh (wO w.1 l)
 | 0,w,_::_,l=> .inl (p9 w.fresh (wO w.1 l))
 | j+1,_,w'::ws,l=> .inr (zh j w' ws l)
def V9 (j:Nat):(ws:List gI)→List V→Option (sU ws)
 | [],_=>none
 | w::ws,l=>some (zh j w ws l)
def zi:List Nat→List V→List V
 | [],_=>[]
 | 0::t,x=>V.nth x 0::zi t x.tail
 | (_+1)::t,x=>zi t x
theorem M6: ∀(t:List Nat) (ds x:List V),wO t (put t ds x)=zi t x
 | [],_,_=>rfl
 | 0::t,ds,x=>congrArg (V.nth x 0:: ·) (M6 t ds x.tail)
 | (_+1)::t,ds,x=>M6 t ds x
theorem M7: ∀(t:List Nat) (ks:List LK) (k:LK) (qX:List LK),zf t ks=k::qX→∀x:wK k qX,∃r,zi t (wL k qX x)=wL k qX x++r
 | [],_,_,_,h,_=>by cases h
 | _::_,[],_,_,h,_=>by simp[zf] at h
 | 0::t,a::ks,k,qX,h,x=>by
  simp only[zf,xY] at h
  obtain ⟨rfl,h2⟩:=h
  cases qX with
  | nil=>exact ⟨zi t [],rfl⟩
  | cons k' qX=>
   obtain ⟨r,hr⟩:=M7 t ks k' qX h2 x.2
   exact ⟨r,congrArg (a.enc x.1:: ·) hr⟩
 | (_+1)::t,a::ks,k,qX,h,x=>M7 t ks k qX h x
theorem Wa (w:gI) (ds:List V) (x:lW w.fresh):p9 w.fresh (wO w.1 (put w.1 ds (mC w.fresh x)))=x:=by
 rw[M6]
 revert x
 generalize hf:w.fresh=f
 cases f with
 | nil=>intro x;rfl
 | cons k ks=>
  intro x
  obtain ⟨r,hr⟩:=M7 w.1 w.2 k ks hf x
  show CG k ks (zi w.1 (wL k ks x))=x
  rw[hr]
  exact V6 k ks x r
theorem Wb (ds:List V): ∀(j:Nat) (w:gI) (ws:List gI) (r:uT w ws),j≤(qa ds j w ws r).1
 | _,_,[],_=>aE _
 | _,_,_::_,.inl _=>aE _
 | j,_,w'::ws,.inr y=>jH (Nat.le_succ j) (Wb ds (j+1) w' ws y)
theorem afq (w:gI) (l:List V): ∀j,zh j w [] l=p9 w.fresh (wO w.1 l)
 | 0=>rfl
 | _+1=>rfl
theorem Wc (ds:List V): ∀(j:Nat) (w:gI) (ws:List gI) (r:uT w ws),zh ((qa ds j w ws r).1-j) w ws (qa ds j w ws r).2=r
 | j,w,[],r=>(afq w _ _).trans (Wa w ds r)
 | j,w,w'::ws,.inl x=>by
  show zh (j-j) w (w'::ws) (put w.1 ds (mC w.fresh x))= .inl x
  rw[Nat.sub_self]
  exact congrArg Sum.inl (Wa w ds x)
 | j,w,w'::ws,.inr y=>by
  have h1:=Wb ds (j+1) w' ws y
  have h2:=Wc ds (j+1) w' ws y
  show zh ((qa ds (j+1) w' ws y).1-j) w (w'::ws) (qa ds (j+1) w' ws y).2= .inr y
  obtain ⟨d,hd⟩: ∃d,(qa ds (j+1) w' ws y).1=j+1+d:=⟨(qa ds (j+1) w' ws y).1-(j+1),by omega⟩
  rw[hd] at h2⊢
  rw[show j+1+d-(j+1)=d by omega] at h2
  rw[show j+1+d-j=d+1 by omega]
  exact congrArg Sum.inr h2
theorem afr (ds:List V): ∀(ws:List gI) (r:sU ws),V9 (zg ds ws r).1 ws (zg ds ws r).2=some r
 | [],r=>Empty.elim r
 | w::ws,r=>congrArg some (Wc ds 0 w ws r)
section
variable {P:Program} {A:cU} {C:ae} {L:cl} {f n m:Nat}
theorem afs {c:Code} {S:Shape × List (Out × Shape)} (hS:A.iE f (keyOf c+1)=some S) (hL:jr P A C L f n m c) {I X R:Type} (enc:I→X→List V) (og:I→R→Nat × List V)
  (qY:List V→I) (sV:List V→X) (Ik:Nat × List V→Option R) (body:I→X→(β:Type)→(X→Option β)→(R→Option β)→Option β)
  (wJ: ∀ds,bB S.1 (enc (qY ds) (sV ds))=bB S.1 ds) (M8: ∀i x,sV (enc i x)=x) (hdr: ∀i r,Ik (og i r)=some r)
  (e1: ∀i x (β:Type) (k:(List V ⊕ (Nat × List V))→Option β),jq P A C L f n m c (bB S.1 (enc i x)) (fun o st=>(mn m S.1 S.2 (some (o,st))).bind k)=
   body i x β (fun y=>k (.inl (enc i y))) (fun r=>k (.inr (og i r))))
  (hl: ∀(β:Type) ds (k:Nat→List V→Option β),L β (keyOf c+1) ds k=(Loop (fun x=>body (qY ds) x (X ⊕ R) (fun y=>some (.inl y)) (fun r=>some (.inr r))) (sV ds)).bind fun r=>k (og (qY ds) r).1 (og (qY ds) r).2):
  cj P A C L f n m (.loop c):=by
 simp only[cj,hS]
 intro β ds k
 rw[hl]
 have hex: ∀(z:Option (Out × St)),mn m S.1 S.2 z=z.bind fun r=>mn m S.1 S.2 (some (r.1,r.2)):=by
  intro z;cases z<;>rfl
 have hs: ∀i x,stepG P A C f n m S c (enc i x)=(body i x (X ⊕ R) (fun y=>some (.inl y)) (fun r=>some (.inr r))).map fun| .inl y=> .inl (enc i y)| .inr r=> .inr (og i r):=by
  intro i x
  have k1:=e1 i x _ (fun z=>some z)
  have k2:=e1 i x (X ⊕ R) (fun| .inl ds=>some (.inl (sV ds))| .inr e=>(Ik e).map .inr)
  have k3:=e1 i x (List V ⊕ (Nat × List V)) (fun| .inl ds=>some (.inl (enc i (sV ds)))| .inr e=>(Ik e).map fun r=> .inr (og i r))
  simp only[M8,hdr,Option.map_some] at k2 k3
  unfold stepG
  rw[hex]
  rw[GV P A C f n m c hL] at k1 k2 k3
  rw[←k2]
  refine bn ?_ (k1.trans (k3.symm.trans ?_))
  ·congr 1
   funext r
   cases mn m S.1 S.2 (some (r.1,r.2))<;>rfl
  ·cases exec P A C f n m c (bB S.1 (enc i x)) with
   | none=>rfl
   | some r=>
    simp only[Option.bind_some]
    cases mn m S.1 S.2 (some (r.1,r.2)) with
    | none=>rfl
    | some z=>
     cases z with
     | inl _=>rfl
     | inr e=>simp only[Option.bind_some];cases Ik e<;>rfl
 have h0:stepG P A C f n m S c ds=stepG P A C f n m S c (enc (qY ds) (sV ds)):=by
  unfold stepG
  rw[wJ]
 have:Loop (stepG P A C f n m S c) ds=(Loop (fun x=>body (qY ds) x (X ⊕ R) (fun y=>some (.inl y)) (fun r=>some (.inr r))) (sV ds)).map (og (qY ds)):=by
  rw[Gy,h0,←Gy]
  exact acB (enc (qY ds)) (og (qY ds)) (fun x=>hs _ _) (sV ds)
 rw[this]
 cases Loop (fun x=>body (qY ds) x (X ⊕ R) (fun y=>some (.inl y)) (fun r=>some (.inr r))) (sV ds)<;>rfl
abbrev CH (S:Shape) (mk:List Bool):List LK:=ze false mk S.ks
abbrev wP (S:Shape) (mk:List Bool):List LK:=ze true mk S.ks
def sW (ts:List (List Nat)) (W:List (Out × Shape)):List gI:=
 match ts,W with
 | t::ts,w::W=>(t,w.2.ks)::sW ts W
 | _,_=>[]
abbrev CI (S:Shape) (mk:List Bool) (i:lW (CH S mk)) (x:lW (wP S mk)):List V:=merge mk (mC _ i) (mC _ x)
abbrev M9 (S:Shape) (mk:List Bool) (i:lW (CH S mk)):List V:=merge mk (mC _ i) []
abbrev Il (S:Shape) (mk:List Bool) (ds:List V):lW (CH S mk):=p9 _ (ze false mk (S.norm ds))
abbrev Im (S:Shape) (mk:List Bool) (ds:List V):lW (wP S mk):=p9 _ (ze true mk (S.norm ds))
abbrev Wd (X R:Type):Type 1:=(β:Type)→(X→Option β)→(R→Option β)→Option β
abbrev Na (S:Shape × List (Out × Shape)) (mk:List Bool) (ts:List (List Nat)):Type 1:=zd (CH S.1 mk) (zd (wP S.1 mk) (Wd (lW (wP S.1 mk)) (sU (sW ts S.2))))
abbrev Nb (S:Shape × List (Out × Shape)) (mk:List Bool) (ts:List (List Nat)) (b:Na S mk ts) (i:lW (CH S.1 mk)) (x:lW (wP S.1 mk)):Wd (lW (wP S.1 mk)) (sU (sW ts S.2)):=wM _ (wM _ b i) x
noncomputable def bt (S:Shape × List (Out × Shape)) (mk:List Bool) (ts:List (List Nat)) (b:Na S mk ts) {β:Type} (ds:List V) (k:Nat→List V→Option β):Option β:=
 (Loop (fun x=>Nb S mk ts b (Il S.1 mk ds) x (lW (wP S.1 mk) ⊕ sU (sW ts S.2)) (fun y=>some (.inl y)) (fun r=>some (.inr r))) (Im S.1 mk ds)).bind (wT (M9 S.1 mk (Il S.1 mk ds)) k (sW ts S.2))
theorem bA {c:Code} (S:Shape × List (Out × Shape)) (mk:List Bool) (ts:List (List Nat)) (b:Na S mk ts) (hS:A.iE f (keyOf c+1)=some S) (hL:jr P A C L f n m c)
  (wJ: ∀ds,bB S.1 (CI S.1 mk (Il S.1 mk ds) (Im S.1 mk ds))=bB S.1 ds) (M8: ∀i x,Im S.1 mk (CI S.1 mk i x)=x)
  (e1: ∀i x (β:Type) (k:(List V ⊕ (Nat × List V))→Option β),jq P A C L f n m c (bB S.1 (CI S.1 mk i x)) (fun o st=>(mn m S.1 S.2 (some (o,st))).bind k)=
   Nb S mk ts b i x β (fun y=>k (.inl (CI S.1 mk i y))) (wT (M9 S.1 mk i) (fun j l=>k (.inr (j,l))) (sW ts S.2)))
  (hl: ∀(β:Type) ds (k:Nat→List V→Option β),L β (keyOf c+1) ds k=bt S mk ts b ds k):
  cj P A C L f n m (.loop c):=
 afs hS hL (CI S.1 mk) (fun i r=>zg (M9 S.1 mk i) _ r) (Il S.1 mk) (Im S.1 mk) (fun e=>V9 e.1 _ e.2) (Nb S mk ts b) wJ M8 (fun i r=>afr _ _ r)
  (fun i x β k=>by
   rw[e1]
   congr 1
   funext r
   exact Ij _ _ _ r)
  (fun β ds k=>by
   rw[hl]
   unfold bt
   congr 1
   funext r
   exact Ij _ _ _ r)
abbrev We (S:Shape × List (Out × Shape)) (ts:List (List Nat)):Type 1:=zd S.1.ks ((β:Type)→(sU (sW ts S.2)→Option β)→Option β)
noncomputable def jb (S:Shape × List (Out × Shape)) (ts:List (List Nat)) (b:We S ts) {β:Type} (ds:List V) (k:Nat→List V→Option β):Option β:=
 wM S.1.ks b (p9 _ (S.1.norm ds)) β (wT (mC S.1.ks (p9 _ (S.1.norm ds))) k (sW ts S.2))
theorem jy {t:Nat} {x y:Code} (S:Shape × List (Out × Shape)) (ts:List (List Nat)) (b:We S ts) (hS:A.iE f (t*16+15)=some S) (hx:jr P A C L f n m x) (hy:jr P A C L f n m y)
  (wJ: ∀ds,bB S.1 (mC S.1.ks (p9 _ (S.1.norm ds)))=bB S.1 ds)
  (e1: ∀i (β:Type) (k:Nat→List V→Option β),M1 P A C L f n m t S x y (mC S.1.ks i) k=wM S.1.ks b i β (wT (mC S.1.ks i) k (sW ts S.2)))
  (hl: ∀(β:Type) ds (k:Nat→List V→Option β),L β (t*16+15) ds k=jb S ts b ds k):
  cj P A C L f n m (.cond t x y):=
 afm hS hx hy (mC S.1.ks) (fun i r=>zg (mC S.1.ks i) _ r) (fun ds=>p9 _ (S.1.norm ds)) (wM S.1.ks b) wJ
  (fun i β k=>by
   rw[e1]
   exact congrArg (wM S.1.ks b i β) (funext fun r=>Ij _ _ _ r))
  (fun β ds k=>by
   rw[hl]
   exact congrArg (wM S.1.ks b (p9 _ (S.1.norm ds)) β) (funext fun r=>Ij _ _ _ r))
end
def di:cl:=fun _ _ _ _=>none
end Go.AM
