/-
  Functions of the program, lifted to plain data.
-/
import Derived.Conc.MuLone
import Derived.Defers
import Derived.Carry
import Derived.OpenShut
import Derived.Deep.Slices
import Derived.Test.YtppefogdkedaiaaGreatP2
set_option linter.unusedVariables false
set_option linter.unusedSimpArgs false
namespace Go.AM
section
variable {P:Program} {A:cS} {w w':World} {I I' I2:Nat→Prop} {μ β β' cj:Nat→Option Nat} {hp hp' hp0 bu:Nat→Option an} {C:ae} {B:Nat} {M:Nat→Prop} {w0:Start}
structure lq (w:World) (I:Nat→Prop) (β:Nat→Option Nat) (hp:Nat→Option an) (w':World) (I':Nat→Prop) (β':Nat→Option Nat) (hp':Nat→Option an):Prop where
 dC: ∀b,I b→I' b
 cy: ∀b,I b→w'.heap[b]? =w.heap[b]?
 blk: ∀id blk,hp id=some blk→∃blk',hp' id=some blk'∧blk.le blk'∧(blk'≠ .dead→β' id=β id)
 size: ∀id blk blk' b,hp id=some blk→hp' id=some blk'→blk'≠ .dead→β id=some b→bsize w' b=bsize w b
theorem Le.Ff (h:Le P w I β hp w' I' β' hp'):lq w I β hp w' I' β' hp':=⟨h.dC,h.cy,h.blk,h.size⟩
theorem lq.trans {Am:World} {An:Nat→Prop} {Ao:Nat→Option Nat} {Ap:Nat→Option an} (h1:lq w I β hp w' I' β' hp') (U:lq w' I' β' hp' Am An Ao Ap):lq w I β hp Am An Ao Ap:=by
 refine ⟨fun b h=>U.dC b (h1.dC b h),fun b h=>(U.cy b (h1.dC b h)).trans (h1.cy b h),fun id blk h=> ?_,fun id blk uo b h sG hd hb=> ?_⟩
 ·obtain ⟨blk',e',l',b'⟩:=h1.blk id blk h
  obtain ⟨uo,dM,qQ,I8⟩:=U.blk id blk' e'
  refine ⟨uo,dM,an.le_trans l' qQ,fun hd=> ?_⟩
  have eQ:blk'≠ .dead:=fun e=>hd (an.pO (e▸qQ))
  exact (I8 hd).trans (b' eQ)
 ·obtain ⟨blk',e',l',b'⟩:=h1.blk id blk h
  obtain ⟨hG,e3,l3,b3⟩:=U.blk id blk' e'
  obtain rfl:hG=uo:=by rw[e3] at sG;exact dv sG
  have eQ:blk'≠ .dead:=fun e=>hd (an.pO (e▸l3))
  rw[U.size id blk' hG b e' e3 hd ((b' eQ).trans hb),h1.size id blk blk' b h e' eQ hb]
def oW (P:Program) (w:World) (μ:Nat→Option Nat) (hp0:Nat→Option an) (b:Nat):Prop:= ∃j blk,hp0 j=some blk∧bE P w (μ j) blk b
structure aaR (P:Program) (A:cS) (key:Nat) (w:World) (I:Nat→Prop) (μ:Nat→Option Nat) (ds es:List V) (w':World) (v:Value) (I2:Nat→Prop) (cj:Nat→Option Nat):Prop where
 xr:aF P w' I2 cj (bw (A.so key es) (A.lv key es)).hp w.heap.size (oW P w μ (bw (A.sin key) ds).hp) ⟨w,I⟩
 le:lq w I μ (bw (A.sin key) ds).hp w' I2 cj (bw (A.so key es) (A.lv key es)).hp
 res:ao P w' I2 cj (bw (A.so key es) (A.lv key es)).hp v (pM (fq (A.so key es).bZ (A.lv key es)))
def lr (P:Program) (A:cS) (C:ae):Prop:=
 ∀key ds es,C key ds=some es→∃fn c,P.funcs[A.aV key]? =some fn∧fn.body=some c∧
  ∀(w:World) (I:Nat→Prop) (μ:Nat→Option Nat) (vals:List Value),
   um P w I μ (bw (A.sin key) ds).hp w.heap.size (oW P w μ (bw (A.sin key) ds).hp)→gE P A.aE w I→
   vals.length=(A.sin key).bZ.length→(∀(j:Nat) v x,vals[j]? =some v→(fK ((A.sin key).bZ.map (·.2)) ds)[j]? =some x→ao P w I μ (bw (A.sin key) ds).hp v x)→
   Calls P (A.aV key) vals.toArray w fun e w'=> ∃v I2 cj,e= .returned v∧aaR P A key w I μ ds es w' v I2 cj
theorem ek.uR {p:Place} {o:Option Nat} {blk:an} {b:Nat} (h:ek P w β hp p o blk) (ho:bE P w o blk b):
  ∃rp,hp p.id=some rp∧bE P w (β p.id) rp b∧∀e es,rp≠ .arr e es true:=by
 cases h with
 | var h=>exact ⟨_,h,.root (by simp) (ho.flat (by simp)),by simp⟩
 | arr h=>exact ⟨_,h,.root (by simp) (ho.flat (by simp)),by simp⟩
 | map h=>exact ⟨_,h,.root (by simp) (ho.flat (by simp)),by simp⟩
 | nest h=>
  refine ⟨_,h,?_,by simp⟩
  cases ho with
  | root _ hb=>exact .root (by simp) hb
  | row hb ha=>exact .row hb ha
 | row h hb ha _ _ _ _ _=>
  have:=ho.flat (by simp)
  cases this
  exact ⟨_,h,.row hb ha,by simp⟩
theorem aF.aaS (S:aF P w I β hp B M w0) {id b:Nat} {blk:an} (ab:hp id=some blk) (ho:bE P w (β id) blk b) (hf: ∀e es,blk≠ .arr e es true): ¬I b:=by
 have hr:=S.h.rel id blk ab
 generalize β id=o at hr ho
 cases hr with
 | var hb _ _ hI _ _=>have:=ho.flat (by simp);rw[hb] at this;cases this;exact hI
 | dP hb=>have:=ho.flat (by simp);rw[hb] at this;cases this
 | @arr e es fz _ _ _ hb _ _ _ ew _=>
  have:=ho.flat (by simp)
  rw[hb] at this;cases this
  cases fz with
  | true=>exact absurd rfl (hf e es)
  | false=>exact ew rfl
 | dead=>exact absurd rfl ho.alive
 | map _ hb _ _ hI _ _=>have:=ho.flat (by simp);rw[hb] at this;cases this;exact hI
 | nest hb hr _=>
  cases ho with
  | root _ aB=>rw[hb] at aB;cases aB;exact (hr _ _ _ _ .here).nI
  | row aB ha=>rw[hb] at aB;cases aB;exact (hr _ _ _ _ ha).nI
theorem Fg {a b:List Nat} (h:wG a b=false) {x:Nat} (ha:x∈a):x∉b:=by
 intro hb
 unfold wG at h
 rw[List.any_eq_false] at h
 exact h x ha (xb hb)
theorem aaT (S:aF P w I β hp B M w0) {pl:List Place} {upd:List (Nat × an)} {o:Nat→Option Nat} (jg:(pl.map Place.id).Nodup) (Fh:wG (upd.map (·.1)) (pl.map Place.id)=false)
  (hl: ∀j blk,hp0 j=some blk→∃p,et pl j=some p∧ek P w β hp p (o j) blk)
  (cU:(∀j blk,hp0 j=some blk→∀b,bE P w (o j) blk b→¬iZ P w I β hp upd b)→∀j blk,hp0 j=some blk→ei P w (iZ P w I β hp upd) o hp0 (o j) blk) (aO: ∀b,iZ P w I β hp upd b→b<w.heap.size):
  um P w (iZ P w I β hp upd) o hp0 w.heap.size (oW P w o hp0):=by
 have c6: ∀j blk,hp0 j=some blk→∀b,bE P w (o j) blk b→¬iZ P w I β hp upd b:=by
  intro j blk hj b ho hI
  obtain ⟨p,bu,gu⟩:=hl j blk hj
  obtain ⟨rp,k1,k2,k3⟩:=gu.uR ho
  rcases hI with hI|⟨q,hq,ch,q1,q2⟩
  ·exact S.aaS k1 k2 k3 hI
  ·have:=S.h.inj _ _ _ _ b q1 k1 q2 k2
   refine Fg Fh (gG.2 ⟨q,hq,rfl⟩) ?_
   rw[this]
   rw[ma] at bu
   exact gG.2 ⟨p,jJ bu,rfl⟩
 refine ⟨cU c6,fun j1 j2 b1 b2 b h1 U o1 o2=> ?_,fun j blk b h1 o1=> .inl ⟨j,blk,h1,o1⟩,aO⟩
 obtain ⟨p1,q1,q2⟩:=hl j1 b1 h1
 obtain ⟨p2,r1,r2⟩:=hl j2 b2 U
 obtain ⟨c1,x1,x2,_⟩:=q2.uR o1
 obtain ⟨c2,y1,y2,_⟩:=r2.uR o2
 have ab:=S.h.inj _ _ _ _ b x1 y1 x2 y2
 rw[ma] at q1 r1
 have m1:(pl.map Place.id)[j1]? =some p1.id:=by rw[fI,q1];rfl
 have m2:(pl.map Place.id)[j2]? =some p2.id:=by rw[fI,r1];rfl
 rw[←ab] at m2
 obtain ⟨z1,z2⟩:=bD.1 m1
 obtain ⟨z3,z4⟩:=bD.1 m2
 exact (List.getElem_inj jg).1 (z2.trans z4.symm)
def Qs:V→Prop
 | .list .. =>False
 | .pref .. =>False
 | .agg _=>False
 | .bq _=>False
 | .fn .. =>False
 | _=>True
theorem ao.free {v:Value} {x:V} (h:ao P w I β hp v x) (hx:Qs x):ao P w I' β hp v x:=by
 cases h with
 | undef=>exact .undef
 | int=>exact .int
 | bool=>exact .bool
 | str h=>exact .str h
 | list h=>exact hx.elim
 | nilS=>exact .nilS
 | agg=>exact hx.elim
 | bq=>exact hx.elim
 | dB=>exact .dB
 | fn=>exact hx.elim
 | pref=>exact hx.elim
 | eu h=>exact .eu h
 | gp h=>exact .gp h
 | kD h=>exact .kD h
 | dO h hb=>exact .dO h hb
 | whole h hb a b c=>exact .whole h hb a b c
 | eG h hb a b c=>exact .eG h hb a b c
 | ga h hb=>exact .ga h hb
 | sub h hb a b c=>exact .sub h hb a b c
 | ptr h hd hb=>exact .ptr h hd hb
 | jN h ri=>exact .jN h ri
 | jO h ri=>exact .jO h ri
 | row h hb a b c d=>exact .row h hb a b c d
 | cR h hb a b c d e=>exact .cR h hb a b c d e
 | dJ=>exact .dJ
 | iE h=>exact .iE h
 | cG h hb=>exact .cG h hb
theorem AZ {l:LS} {ds:List V} (hs:l.safe=true):Qs (iS l ds):=by
 cases l<;>simp only[LS.safe] at hs<;>first|(cases hs;done)|trivial
theorem A0: ∀{ls:List LS} {ds:List V} {j:Nat} {y:V},(iy ls ds)[j]? =some y→∃l fx,l∈ls∧y=iS l fx
 | [],ds,j,y,h=>by simp[iy] at h
 | l::ls,ds,j,y,h=>by
  simp only[iy] at h
  cases j with
  | zero=>simp at h;exact ⟨l,ds,sm ..,h.symm⟩
  | succ j=>
   obtain ⟨l',fx,h1,U⟩:=A0 (j:=j) (by simpa using h)
   exact ⟨l',fx,lM _ h1,U⟩
theorem Qt: ∀{ls:List VS} {ds:List V} {j:Nat} {y:V},(fK ls ds)[j]? =some y→∃l fx,l∈ls∧y=lg l fx
 | [],ds,j,y,h=>by simp[fK] at h
 | l::ls,ds,j,y,h=>by
  simp only[fK] at h
  cases j with
  | zero=>simp at h;exact ⟨l,ds,sm ..,h.symm⟩
  | succ j=>
   obtain ⟨l',fx,h1,U⟩:=Qt (j:=j) (by simpa using h)
   exact ⟨l',fx,lM _ h1,U⟩
theorem Qu {s:VS} {ds:List V} {v:Value} (h:ao P w I β hp v (lg s ds)) (hs:s.safe=true):ao P w I' β hp v (lg s ds):=by
 cases s with
 | one l=>exact h.free (AZ hs)
 | agg ls=>
  simp only[lg] at h⊢
  obtain ⟨cs,rfl,e1,e2⟩:=h.ll
  refine .agg e1 fun j v x hj hx=> ?_
  obtain ⟨l,fx,k1,rfl⟩:=A0 hx
  exact (e2 j v _ hj hx).free (AZ (fH.1 hs l k1))
 | bq ls=>
  simp only[lg] at h⊢
  obtain ⟨cs,rfl,e1,e2⟩:=h.uy
  refine .bq e1 fun j v x hj hx=> ?_
  obtain ⟨l,fx,k1,rfl⟩:=A0 hx
  exact (e2 j v _ hj hx).free (AZ (fH.1 hs l k1))
 | fn f a b=>
  simp only[VS.safe,aP] at hs
  simp only[lg] at h⊢
  cases h with
  | fn a1 a2 b1 b2=>
   refine .fn a1 (fun j v x hj hx=> ?_) b1 (fun j v x hj hx=> ?_)
   ·obtain ⟨l,fx,k1,rfl⟩:=A0 hx
    exact (a2 j v _ hj hx).free (AZ (fH.1 hs.1 l k1))
   ·obtain ⟨l,fx,k1,rfl⟩:=A0 hx
    exact (b2 j v _ hj hx).free (AZ (fH.1 hs.2 l k1))
 | pref ts ls=>cases hs
theorem Pure.scalar {t:TypeId} {v:Value} {x:V} (h:Pure P w I t v x) (hn: ∀e,P.underlying t≠some (.slice e)):Pure P w I' t v x:=by
 cases h with
 | int h=>exact .int h
 | bool h=>exact .bool h
 | str h hl=>exact .str h hl
 | nil h=>exact absurd h (hn _)
 | emp h=>exact absurd h (hn _)
 | list g h=>exact absurd h (hn _)
theorem aaU {e t:TypeId} {j:Nat} (h:z8 P e=true) (ht:(bc P e)[j]? =some t) (e':TypeId):P.underlying t≠some (.slice e'):=by
 intro hu
 have U:=fH.1 h t (jJ ht)
 rw[hu] at U
 cases U
theorem aaV {o:Option Nat} {b:BS} {ds:List V} (h:ei P w I2 β hp o (fX b ds)) (hs:b.safe P=true) (hi: ∀b,I b→I2 b):ei P w I β hp o (fX b ds):=by
 cases b with
 | dead=>exact .dead
 | var T0 ls=>
  simp only[fX] at h⊢
  cases h with
  | var hb hh bh hI hx gr=>
   refine .var hb hh bh (fun h=>hI (hi _ h)) (fun j v x hj cL=> ?_) gr
   obtain ⟨l,fx,k1,rfl⟩:=Qt cL
   exact Qu (hx j v _ hj cL) (fH.1 hs l k1)
 | arr e fz=>
  simp only[BS.safe,aP,mw] at hs
  obtain ⟨rfl,AY⟩:=hs
  simp only[fX] at h⊢
  generalize (V.nth ds 0).toList=es at h⊢
  cases h with
  | dP hb=>exact .dP hb
  | arr a1 a2 a3 a4 a5 a6 a7=>
   refine .arr a1 a2 a3 a4 (fun h=>by cases h) (fun _ h=>a6 rfl (hi _ h)) fun i j x t' y1 y2 y3=> ?_
   obtain ⟨v,z1,z2⟩:=a7 i j x t' y1 y2 y3
   exact ⟨v,z1,z2.scalar (aaU AY y2)⟩
 | nest e=>
  simp only[fX] at h⊢
  generalize (V.nth ds 0).toList=es at h⊢
  cases h with
  | nest hb cO oQ=>
   refine .nest hb (fun q b' e1 m1 hq=> ?_) oQ
   obtain ⟨ok,⟨Ca,c1,c2,c3⟩,nI⟩:=cO q b' e1 m1 hq
   refine ⟨ok,⟨Ca,c1,c2,fun i j x t' y1 y2 y3=> ?_⟩,fun h=>nI (hi _ h)⟩
   obtain ⟨v,z1,z2⟩:=c3 i j x t' y1 y2 y3
   refine ⟨v,z1,?_⟩
   generalize bU P e1 x j=y at z2⊢
   cases z2 with
   | fZ a p=>
    refine .fZ a (p.scalar fun e hu=> ?_)
    unfold fW at a
    rw[hu] at a
    cases a
   | emp a b=>exact .emp a b
   | row a b c d e=>exact .row a b c d e
 | map t=>
  simp only[fX] at h⊢
  cases h with
  | map a1 a2 a3 a4 a5 a6 a7=>exact .map a1 a2 a3 a4 (fun h=>a5 (hi _ h)) a6 a7
theorem Kf: ∀{l:List BS} {ds:List V} {j:Nat} {y:an},(eP l ds)[j]? =some y→∃b fx,l[j]? =some b∧y=fX b fx
 | [],ds,j,y,h=>by simp[eP] at h
 | b::l,ds,j,y,h=>by
  simp only[eP] at h
  cases j with
  | zero=>simp at h;exact ⟨b,ds,rfl,h.symm⟩
  | succ j=>
   obtain ⟨b',fx,h1,U⟩:=Kf (j:=j) (by simpa using h)
   exact ⟨b',fx,by simpa using h1,U⟩
theorem Qv: ∀{l:List (Nat × VS)} {ds:List V} {q:Nat × V},q∈fq l ds→∃s fx,(q.1,s)∈l∧q.2=lg s fx
 | [],ds,q,h=>by simp[fq] at h
 | (k,s)::l,ds,q,h=>by
  simp only[fq,dG] at h
  rcases h with h|h
  ·subst h;exact ⟨s,ds,sm ..,rfl⟩
  ·obtain ⟨s',fx,h1,U⟩:=Qv h
   exact ⟨s',fx,lM _ h1,U⟩
theorem aaW {S:Shape} {es:List V} (hs:S.safe P=true) (hi: ∀b,I b→I2 b) {N:Nat→Prop} {st:Start} (h:aF P w' I2 cj (bw S es).hp B N st) (h0: ∀b,I b→st.I b):
  aF P w' I cj (bw S es).hp B N st∧∀v,ao P w' I2 cj (bw S es).hp v (pM (fq S.bZ es))→ao P w' I cj (bw S es).hp v (pM (fq S.bZ es)):=by
 unfold Shape.safe at hs
 simp only[aP] at hs
 obtain ⟨iY,nM⟩:=hs
 have one: ∀q∈fq S.bZ es,∀v,ao P w' I2 cj (bw S es).hp v q.2→ao P w' I cj (bw S es).hp v q.2:=by
  intro q hq v hv
  obtain ⟨s,fx,k1,k2⟩:=Qv hq
  rw[k2] at hv⊢
  exact Qu hv (fH.1 iY _ k1)
 refine ⟨⟨⟨fun j blk hj=> ?_,h.h.inj,h.h.own,fun b hb=>h.h.jP b (hi b hb)⟩,h.cy,h.size,fun b hb=> .inl (h0 b hb),h.io⟩,fun v hv=> ?_⟩
 ·have hr:=h.h.rel j blk hj
  have gM:=hj
  simp only[bw,mk,ic] at gM
  obtain ⟨b,fx,k1,rfl⟩:=Kf gM
  exact aaV hr (fH.1 nM _ (jJ k1)) hi
 ·generalize fq S.bZ es=l at one hv⊢
  match l,one,hv with
  | [],_,hv=>
   simp only[pM,fT] at hv⊢
   obtain ⟨cs,rfl,e1,e2⟩:=hv.uy
   exact .bq e1 fun j v x _ hx=>by simp at hx
  | [q],one,hv=>exact one q (eC.2 rfl) v hv
  | q::q2::l,one,hv=>
   simp only[pM] at hv⊢
   obtain ⟨cs,rfl,e1,e2⟩:=hv.uy
   refine .bq e1 fun j v x hj hx=> ?_
   obtain ⟨y,hy,rfl⟩:=gG.1 (jJ hx)
   exact one y hy v (e2 j v _ hj hx)
end
section
variable {P:Program} {A:cS} {w w':World} {I I' I2:Nat→Prop} {μ β β' cj:Nat→Option Nat} {hp hp' hp0 bu:Nat→Option an} {C:ae} {B:Nat} {M:Nat→Prop} {w0:Start}
inductive gz (σ:List Place):an→an→Prop
 | dead:gz σ .dead .dead
 | var {T:TypeId} {cs:List V}:gz σ (.var T cs) (.var T (cs.map (Ee σ)))
 | arr {e:TypeId} {es:List V} {fz:Bool}:gz σ (.arr e es fz) (.arr e es fz)
 | nest {e:TypeId} {es:List V} {v1 v2:List Nat}:gz σ (.nest e es v1) (.nest e es v2)
 | map {t:TypeId} {es:List V}:gz σ (.map t es) (.map t es)
theorem gz.of (σ:List Place) (b:an):gz σ b (ue σ b):=by
 cases b with
 | dead=>exact .dead
 | var T cs=>exact .var
 | arr e es fz=>exact .arr
 | nest e es v=>exact .nest
 | map t es=>exact .map
theorem Qw {σ:List Place}: ∀{pl:List Place} {bs:List an} {acc:List (Nat × an)} {k:List (Nat × an)→Rd R} {r:R} {rd:List Nat},(qI σ pl bs acc k).run C hp=some (r,rd)→
  pl.length≤bs.length∧∃bk e9,(k bk).run C hp=some (r,e9)∧(∀q∈bk,q∈acc∨∃(j:Nat) (b:an),pl[j]? =some (.blk q.1)∧bs[j]? =some b∧gz σ b q.2∧((∃e es v2,q.2= .nest e es v2)→∃e es ar e' aL,hp q.1=some (.nest e es ar)∧q.2= .nest e' aL (ar.map (· +1))))∧
   (∀q∈acc,q∈bk)∧∀(j:Nat) p,pl[j]? =some p→∃id b,p= .blk id∧(id,b)∈bk
 | [],bs,acc,k,r,rd,h=>⟨k0 _,acc,rd,by simpa only[qI] using h,fun q hq=> .inl hq,fun q hq=>hq,fun j p hp=>by simp at hp⟩
 | .row _ _ _::pl,bs,acc,k,r,rd,h=>by
  cases bs<;>(simp only[qI] at h;cases h)
 | .blk id::pl,[],acc,k,r,rd,h=>by simp only[qI] at h;cases h
 | .blk id::pl,b::bs,acc,k,r,rd,h=>by
  have fin: ∀{b2:an} {jC:List Nat},(qI σ pl bs ((id,b2)::acc) k).run C hp=some (r,jC)→gz σ b b2→((∃e es v2,b2= .nest e es v2)→∃e es ar e' aL,hp id=some (.nest e es ar)∧b2= .nest e' aL (ar.map (· +1)))→
    (Place.blk id::pl).length≤(b::bs).length∧∃bk e9,(k bk).run C hp=some (r,e9)∧(∀q∈bk,q∈acc∨∃(j:Nat) (b':an),(Place.blk id::pl)[j]? =some (.blk q.1)∧(b::bs)[j]? =some b'∧gz σ b' q.2∧((∃e es v2,q.2= .nest e es v2)→∃e es ar e' aL,hp q.1=some (.nest e es ar)∧q.2= .nest e' aL (ar.map (· +1))))∧
     (∀q∈acc,q∈bk)∧∀(j:Nat) p,(Place.blk id::pl)[j]? =some p→∃id b,p= .blk id∧(id,b)∈bk:=by
   intro b2 jC h1 hb hn
   obtain ⟨a0,bk,e9,a1,a2,a3,a4⟩:=Qw h1
   refine ⟨by simp only[List.length_cons];omega,bk,e9,a1,fun q hq=> ?_,fun q hq=>a3 q (lM _ hq),fun j p hj=> ?_⟩
   ·rcases a2 q hq with h|⟨j,b',k1,k2,k3,k4⟩
    ·rcases dG.1 h with e|h
     ·subst e;exact .inr ⟨0,b,rfl,rfl,hb,hn⟩
     ·exact .inl h
    ·exact .inr ⟨j+1,b',by simpa using k1,by simpa using k2,k3,k4⟩
   ·cases j with
    | zero=>simp at hj;subst hj;exact ⟨id,b2,rfl,a3 _ (sm ..)⟩
    | succ j=>exact a4 j p (by simpa using hj)
  cases b with
  | nest e es v=>
   simp only[qI] at h
   obtain ⟨l,h⟩:=run_get h
   cases ab:hp id with
   | none=>rw[ab] at h;cases h
   | some blk=>
    rw[ab] at h
    cases blk with
    | nest e0 I9 ar=>exact fin h .nest fun _=>⟨e0,I9,ar,e,es,ab,rfl⟩
    | _=>cases h
  | dead=>exact fin h (.of σ _) fun ⟨_,_,_,h⟩=>by cases h
  | var T cs=>exact fin h (.of σ _) fun ⟨_,_,_,h⟩=>by cases h
  | arr e es fz=>exact fin h (.of σ _) fun ⟨_,_,_,h⟩=>by cases h
  | map t es=>exact fin h (.of σ _) fun ⟨_,_,_,h⟩=>by cases h
theorem Qx {σ:List Place}: ∀{bs:List an} {n:Nat} {q:Nat × an},q∈qJ σ n bs→∃i b,bs[i]? =some b∧q=(n+i,ue σ b)
 | [],n,q,h=>by simp[qJ] at h
 | b::bs,n,q,h=>by
  simp only[qJ,dG] at h
  rcases h with h|h
  ·exact ⟨0,b,rfl,h⟩
  ·obtain ⟨i,b',h1,U⟩:=Qx h
   exact ⟨i+1,b',by simpa using h1,by rw[U];congr 1;omega⟩
theorem Qy {σ:List Place}: ∀{bs:List an} {n i:Nat} {b:an},bs[i]? =some b→(n+i,ue σ b)∈qJ σ n bs
 | [],n,i,b,h=>by simp at h
 | b0::bs,n,i,b,h=>by
  simp only[qJ,dG]
  cases i with
  | zero=>simp at h;subst h;exact .inl rfl
  | succ i=>exact .inr (by rw[show n+(i+1)=n+1+i by omega];exact Qy (by simpa using h))
theorem Fi: ∀{k n i:Nat},i<k→(sE n k)[i]? =some (.blk (n+i))
 | 0,n,i,h=>by omega
 | k+1,n,0,h=>rfl
 | k+1,n,i+1,h=>by
  simp only[sE,List.getElem?_cons_succ]
  rw[Fi (by omega)]
  congr 2
  omega
theorem Kg: ∀{k n:Nat},(sE n k).length=k
 | 0,_=>rfl
 | k+1,n=>by simp[sE,Kg]
theorem Qz: ∀{bs:List (Nat × an)} {k:Rd R} {r:R} {rd:List Nat},(Ef bs k).run C hp=some (r,rd)→(∀q∈bs,hp q.1=none)∧∃e9,k.run C hp=some (r,e9)
 | [],k,r,rd,h=>⟨by simp,rd,h⟩
 | (id,b)::l,k,r,rd,h=>by
  simp only[Ef] at h
  obtain ⟨l1,h⟩:=run_get h
  cases ab:hp id with
  | some blk=>rw[ab] at h;cases h
  | none=>
   rw[ab] at h
   obtain ⟨h1,U⟩:=Qz h
   refine ⟨fun q hq=> ?_,U⟩
   rcases dG.1 hq with e|hq
   ·subst e;exact ab
   ·exact h1 q hq
structure pZ (σ:List Place) (cj:Nat→Option Nat) (bu:Nat→Option an) (β':Nat→Option Nat) (hp':Nat→Option an):Prop where
 blk: ∀j b,bu j=some b→∃id b',et σ j=some (.blk id)∧hp' id=some b'∧gz σ b b'∧(b≠ .dead→β' id=cj j)
 none: ∀j,bu j=none→et σ j=none
 aln: ∀j id ver path,et σ j≠some (.row id ver path)
theorem pZ.leaf {σ:List Place} (T:pZ σ cj bu β' hp') {v:Value} {x:V} (h:ao P w I cj bu v x):ao P w I β' hp' v (kB σ x):=by
 have look: ∀{j b},bu j=some b→∃id b',et σ j=some (.blk id)∧hp' id=some b'∧gz σ b b'∧(b≠ .dead→β' id=cj j):=fun h=>T.blk _ _ h
 cases h with
 | undef=>exact .undef
 | int=>exact .int
 | bool=>exact .bool
 | str h=>exact .str h
 | list h=>exact .list h
 | nilS=>exact .nilS
 | agg=>exact .undef
 | bq=>exact .undef
 | dB=>exact .dB
 | fn=>exact .undef
 | pref a b c=>exact .pref a b c
 | @eu _ e j h=>
  obtain ⟨id,b',k1,k2,k3,k4⟩:=look h
  simp only[kB,k1]
  cases k3
  exact .eu k2
 | @gp _ e j _ _ h=>
  obtain ⟨id,b',k1,k2,k3,k4⟩:=look h
  simp only[kB,k1]
  cases k3
  exact .gp k2
 | @kD _ j _ _ h=>
  obtain ⟨id,b',k1,k2,k3,k4⟩:=look h
  simp only[kB,k1]
  cases k3
  exact .kD k2
 | @dO e j fz _ h hb=>
  obtain ⟨id,b',k1,k2,k3,k4⟩:=look h
  simp only[kB,k1]
  cases k3
  exact .dO k2 ((k4 (by simp)).trans hb)
 | @whole e j es fz b cap h hb a1 a2 a3=>
  obtain ⟨id,b',k1,k2,k3,k4⟩:=look h
  simp only[kB,k1]
  cases k3
  exact .whole k2 ((k4 (by simp)).trans hb) a1 a2 a3
 | @eG e j es ar b cap h hb a1 a2 a3=>
  obtain ⟨id,b',k1,k2,k3,k4⟩:=look h
  simp only[kB,k1]
  cases k3
  exact .eG k2 ((k4 (by simp)).trans hb) a1 a2 a3
 | @ga e j fz _ h hb=>
  obtain ⟨id,b',k1,k2,k3,k4⟩:=look h
  simp only[kB,k1]
  cases k3
  exact .ga k2 ((k4 (by simp)).trans hb)
 | @sub e j off len es fz b o cap h hb a1 a2 a3=>
  obtain ⟨id,b',k1,k2,k3,k4⟩:=look h
  simp only[kB,k1]
  cases k3
  exact .sub k2 ((k4 (by simp)).trans hb) a1 a2 a3
 | @ptr j i c b blk h hd hb=>
  obtain ⟨id,b',k1,k2,k3,k4⟩:=look h
  simp only[kB,k1]
  have hs:blk.sz P=b'.sz P:=by cases k3<;>rfl
  rw[hs]
  exact .ptr k2 (by intro e;subst e;cases k3;exact hd rfl) ((k4 hd).trans hb)
 | jN=>exact .undef
 | jO=>exact .undef
 | row=>exact .undef
 | cR=>exact .undef
 | dJ=>exact .dJ
 | @iE _ t j h=>
  obtain ⟨id,b',k1,k2,k3,k4⟩:=look h
  simp only[kB,k1]
  cases k3
  exact .iE k2
 | @cG t j b es h hb=>
  obtain ⟨id,b',k1,k2,k3,k4⟩:=look h
  simp only[kB,k1]
  cases k3
  exact .cG k2 ((k4 (by simp)).trans hb)
theorem pZ.one {σ:List Place} (T:pZ σ cj bu β' hp') {v:Value} {x:V} (h:ao P w I cj bu v x):ao P w I β' hp' v (IW σ x):=by
 cases x with
 | agg xs=>
  obtain ⟨cs,rfl,e1,e2⟩:=h.ll
  exact .agg (by simpa using e1) fun j v y hj hy=>by
   rw[fI] at hy
   cases hx:xs[j]? with
   | none=>rw[hx] at hy;cases hy
   | some x=>rw[hx] at hy;cases hy;exact T.leaf (e2 j v x hj hx)
 | fn f a b=>
  cases h with
  | fn a1 a2 b1 b2=>
   refine .fn (by simpa using a1) (fun j v y hj hy=> ?_) (by simpa using b1) (fun j v y hj hy=> ?_)
   ·rw[fI] at hy
    cases hx:a[j]? with
    | none=>rw[hx] at hy;cases hy
    | some x=>rw[hx] at hy;cases hy;exact T.leaf (a2 j v x hj hx)
   ·rw[fI] at hy
    cases hx:b[j]? with
    | none=>rw[hx] at hy;cases hy
    | some x=>rw[hx] at hy;cases hy;exact T.leaf (b2 j v x hj hx)
 | _=>exact T.leaf h
theorem pZ.val {σ:List Place} (T:pZ σ cj bu β' hp') {v:Value} {x:V} (h:ao P w I cj bu v x):ao P w I β' hp' v (Ee σ x):=by
 cases x with
 | bq xs=>
  obtain ⟨cs,rfl,e1,e2⟩:=h.uy
  exact .bq (by simpa using e1) fun j v y hj hy=>by
   rw[fI] at hy
   cases hx:xs[j]? with
   | none=>rw[hx] at hy;cases hy
   | some x=>rw[hx] at hy;cases hy;exact T.one (e2 j v x hj hx)
 | _=>exact T.one h
theorem pZ.QA {σ:List Place} (T:pZ σ cj bu β' hp') {o:Option Nat} {b b':an} (h:ei P w I cj bu o b) (hb:gz σ b b'):ei P w I β' hp' o b':=by
 cases hb with
 | dead=>exact .dead
 | var=>
  cases h with
  | var a1 a2 a3 a4 a5 a6=>
   refine .var a1 a2 (by simpa using a3) a4 (fun j v y hj hy=> ?_) a6
   rw[fI] at hy
   cases hx:(_:List V)[j]? with
   | none=>rw[hx] at hy;cases hy
   | some x=>rw[hx] at hy;cases hy;exact T.val (a5 j v x hj hx)
 | arr=>
  cases h with
  | dP hb=>exact .dP hb
  | arr a1 a2 a3 a4 a5 a6 a7=>exact .arr a1 a2 a3 a4 a5 a6 a7
 | nest=>
  cases h with
  | nest a1 a2 a3=>exact .nest a1 a2 a3
 | map=>
  cases h with
  | map a1 a2 a3 a4 a5 a6 a7=>exact .map a1 a2 a3 a4 a5 a6 a7
theorem gz.uR {σ:List Place} {o:Option Nat} {b b':an} (h:gz σ b b') {m:Nat} (ho:bE P w o b' m):bE P w o b m:=by
 cases h with
 | dead=>exact absurd rfl ho.alive
 | var=>exact .root (by simp) (ho.flat (by simp))
 | arr=>exact .root (by simp) (ho.flat (by simp))
 | map=>exact .root (by simp) (ho.flat (by simp))
 | nest=>
  cases ho with
  | root _ hb=>exact .root (by simp) hb
  | row hb ha=>exact .row hb ha
theorem gz.QB {σ:List Place} {b b':an} (h:gz σ b b'):b'≠ .dead→b≠ .dead:=by
 intro h1 U;subst U;cases h;exact h1 rfl
end
section
variable {P:Program} {A:cS} {w w':World} {I I' I2:Nat→Prop} {μ β β' cj:Nat→Option Nat} {hp hp' hp0 bu:Nat→Option an} {C:ae} {B:Nat} {M:Nat→Prop} {w0:Start}
theorem QC: ∀{vs:List Nat} {k:Nat},k<vs.length→bK (vs.map (· +1)) k=bK vs k+1
 | [],k,h=>by simp at h
 | v::vs,0,h=>rfl
 | v::vs,k+1,h=>by simp only[cJ,bK];exact QC (by simpa using h)
theorem QD: ∀{vs:List Nat} {k:Nat},bK vs k≤bK (vs.map (· +1)) k
 | [],k=>by simp[bK]
 | v::vs,0=>by simp[bK]
 | v::vs,k+1=>by simp only[cJ,bK];exact QD
def A1 (hp:Nat→Option an) (q:Nat × an):Prop:=(∃e es v2,q.2= .nest e es v2)→∃e es ar e' aL,hp q.1=some (.nest e es ar)∧q.2= .nest e' aL (ar.map (· +1))
theorem ek.Kh {id:Nat} {o:Option Nat} {blk:an} (h:ek P w β hp (.blk id) o blk):o=β id∧∃b0,hp id=some b0∧b0≠ .dead:=by
 cases h with
 | var h=>exact ⟨rfl,_,h,by simp⟩
 | arr h=>exact ⟨rfl,_,h,by simp⟩
 | nest h=>exact ⟨rfl,_,h,by simp⟩
 | map h=>exact ⟨rfl,_,h,by simp⟩
theorem ek.aaX {id:Nat} {o:Option Nat} {c b b' b0:an} {σ:List Place} (h:ek P w β hp (.blk id) o c) (h0:hp id=some b0) (hle:c.le b) (hb:gz σ b b') (hn:A1 hp (id,b')):b0.le b':=by
 cases h with
 | var h=>
  rw[h] at h0;cases h0
  cases hb with
  | dead=>trivial
  | var=>trivial
  | arr=>exact hle.elim
  | nest=>exact hle.elim
  | map=>exact hle.elim
 | arr h=>
  rw[h] at h0;cases h0
  cases hb with
  | dead=>trivial
  | var=>exact hle.elim
  | arr=>exact hle
  | nest=>exact hle.elim
  | map=>exact hle.elim
 | map h=>
  rw[h] at h0;cases h0
  cases hb with
  | dead=>trivial
  | map=>exact hle
  | _=>exact hle.elim
 | nest h=>
  rw[h] at h0;cases h0
  cases hb with
  | dead=>trivial
  | var=>exact hle.elim
  | arr=>exact hle
  | map=>exact hle.elim
  | @nest e es v1 v2=>
   obtain ⟨e1,cC,uS,e2,cm,k1,k2⟩:=hn ⟨_,_,_,rfl⟩
   cases k2
   change hp id=_ at k1
   rw[h] at k1;cases k1
   exact ⟨hle.1,hle.2.1,by simp,fun k=>QD⟩
theorem ek.other {p:Place} {o:Option Nat} {blk:an} (h:ek P w β hp p o blk) (he:hp' p.id=hp p.id):ek P w β hp' p o blk:=by
 cases h with
 | var h=>exact .var (he.trans h)
 | arr h=>exact .arr (he.trans h)
 | nest h=>exact .nest (he.trans h)
 | map h=>exact .map (he.trans h)
 | row h a b c d e f g=>exact .row (he.trans h) a b c d e f g
open Classical in
theorem QE (S:aF P w I β hp B M w0) {pl:List Place} {o:Nat→Option Nat} {bs:List an} {nb:Nat} {bk fr:List (Nat × an)} {σ:List Place} (rq:σ=pl++sE nb (bs.length-pl.length)) (A3:fr=qJ σ nb (bs.drop pl.length))
  (jg:(pl.map Place.id).Nodup) (qW:pl.length≤bs.length)
  (p5: ∀(j:Nat) p,pl[j]? =some p→∃id b,p= .blk id∧(id,b)∈bk) (Fj: ∀q∈bk,∃(j:Nat) (b:an),pl[j]? =some (.blk q.1)∧bs[j]? =some b∧gz σ b q.2∧A1 hp q)
  (hl: ∀j blk,hp0 j=some blk→∃p,et pl j=some p∧ek P w β hp p (o j) blk) (hd: ∀j,j<pl.length→∃blk,hp0 j=some blk)
  (Sc:aF P w' I2 cj (jL bs) w.heap.size (oW P w o hp0) ⟨w,I⟩) (xt:lq w I o hp0 w' I2 cj (jL bs)) (sW: ∀q∈fr,hp q.1=none):
  ∃β',Le P w I β hp w' I2 β' (bR hp (fr++bk))∧aF P w' I2 β' (bR hp (fr++bk)) B M w0∧pZ σ cj (jL bs) β' (bR hp (fr++bk)):=by
 generalize Ki:bR hp (fr++bk)=gu
 let β':Nat→Option Nat:=fun n=>if∃q∈fr,q.1=n then cj (pl.length+(n-nb)) else β n
 have QF: ∀(j:Nat) id,pl[j]? =some (.blk id)→∃c,hp0 j=some c∧ek P w β hp (.blk id) (o j) c:=by
  intro j id hj
  obtain ⟨c,hc⟩:=hd j (bD.1 hj).1
  obtain ⟨p,h1,U⟩:=hl j c hc
  rw[ma,hj] at h1
  cases h1
  exact ⟨c,hc,U⟩
 have uniq: ∀(j1 j2:Nat) id,pl[j1]? =some (.blk id)→pl[j2]? =some (.blk id)→j1=j2:=by
  intro j1 j2 id h1 U
  have m1:(pl.map Place.id)[j1]? =some id:=by rw[fI,h1];rfl
  have m2:(pl.map Place.id)[j2]? =some id:=by rw[fI,U];rfl
  obtain ⟨z1,z2⟩:=bD.1 m1
  obtain ⟨z3,z4⟩:=bD.1 m2
  exact (List.getElem_inj jg).1 (z2.trans z4.symm)
 have cls: ∀id,(∃i b,id=nb+i∧bs[pl.length+i]? =some b∧gu id=some (ue σ b)∧hp id=none∧β' id=cj (pl.length+i))∨
   (∃(j:Nat) (b b' c b0:an),pl[j]? =some (.blk id)∧bs[j]? =some b∧hp0 j=some c∧ek P w β hp (.blk id) (o j) c∧hp id=some b0∧b0.le b'∧gu id=some b'∧gz σ b b'∧A1 hp (id,b')∧β' id=β id∧c.le b∧(b≠ .dead→cj j=β id))∨
   (gu id=hp id∧(∀j:Nat,pl[j]? ≠some (.blk id))∧β' id=β id):=by
  intro id
  by_cases hm: ∃b,(id,b)∈fr++bk
  ·obtain ⟨b,hm⟩:=hm
   obtain ⟨b',Eu,he⟩:=Ep (hp:=hp) hm
   rw[Ki] at he
   rcases eN.1 Eu with h|h
   ·have h0:=sW _ h
    have oX:β' id=cj (pl.length+(id-nb)):=aj ⟨_,h,rfl⟩
    rw[A3] at h
    obtain ⟨i,b1,k1,k2⟩:=Qx h
    rw[iu] at k1
    cases k2
    exact .inl ⟨i,b1,rfl,k1,he,h0,by rw[oX];congr 2;omega⟩
   ·obtain ⟨j,b1,q1,q2,q3,q4⟩:=Fj _ h
    obtain ⟨c,c1,c2⟩:=QF j id q1
    obtain ⟨c3,b0,c4,c5⟩:=c2.Kh
    obtain ⟨b2,d1,d2,d3⟩:=xt.blk j c c1
    rw[ic,q2] at d1
    cases d1
    refine .inr (.inl ⟨j,b1,b',c,b0,q1,q2,c1,c2,c4,c2.aaX c4 d2 q3 q4,he,q3,q4,ai ?_,d2,fun h=>(d3 h).trans c3⟩)
    rintro ⟨q,hq,hqe⟩
    rw[←hqe,sW q hq] at c4
    cases c4
  ·refine .inr (.inr ⟨?_,fun j hj=> ?_,ai ?_⟩)
   ·rcases uv (hp:=hp) (l:=fr++bk) (id:=id) with h|⟨b,hb,_⟩
    ·rw[Ki] at h;exact h
    ·exact absurd ⟨b,hb⟩ hm
   ·obtain ⟨aD,b,e,hb⟩:=p5 j _ hj
    cases e
    exact hm ⟨b,eN.2 (.inr hb)⟩
   ·rintro ⟨q,hq,rfl⟩
    exact hm ⟨q.2,eN.2 (.inl hq)⟩
 have QG: ∀b,oW P w o hp0 b→∃(j id:Nat) (b1:an),pl[j]? =some (.blk id)∧hp id=some b1∧bE P w (β id) b1 b∧∀e es,b1≠ .arr e es true:=by
  rintro b ⟨j,c,hc,ho⟩
  obtain ⟨p,h1,U⟩:=hl j c hc
  rw[ma] at h1
  obtain ⟨id,b2,rfl,_⟩:=p5 j p h1
  obtain ⟨b1,k1,k2,k3⟩:=U.uR ho
  exact ⟨j,id,b1,h1,k1,k2,k3⟩
 have other: ∀id blk b,hp id=some blk→bE P w (β id) blk b→(∀j:Nat,pl[j]? ≠some (.blk id))→¬oW P w o hp0 b∧w'.heap[b]? =w.heap[b]? ∧(I2 b→I b):=by
  intro id blk b e1 e3 e4
  have mQ: ¬oW P w o hp0 b:=by
   intro hx
   obtain ⟨j,aD,b1,i1,i2,i3,_⟩:=QG b hx
   have:=S.h.inj id aD _ _ b e1 i2 e3 i3
   subst this
   exact e4 j i1
  have aO:=S.h.lt e1 e3
  refine ⟨mQ,Sc.cy b aO mQ,fun h=> ?_⟩
  rcases Sc.new b h with h|h|h
  ·exact h
  ·exact absurd h mQ
  ·omega
 have sQ:pZ σ cj (jL bs) β' gu:=by
  refine ⟨fun j b hj=> ?_,fun j hj=> ?_,fun j id ver path hj=> ?_⟩
  ·rw[ic] at hj
   by_cases cz:j<pl.length
   ·obtain ⟨id,b1,e,l8⟩:=p5 j _ (bG cz)
    have Fk:pl[j]? =some (.blk id):=by rw[bG cz,e]
    have Kj:et σ j=some (.blk id):=by rw[rq];exact oV (by rw[ma];exact Fk)
    rcases cls id with ⟨i,b2,c1,c2,c3,c4,c5⟩|⟨j',b2,b',c,b0,q1,q2,q3,q4,q5,q6,q7,q8,q9,p6,xu,rr⟩|⟨c1,c2,c3⟩
    ·obtain ⟨c,d1,d2⟩:=QF j id Fk
     obtain ⟨_,b0,d3,_⟩:=d2.Kh
     rw[d3] at c4;cases c4
    ·obtain rfl:=uniq _ _ _ q1 Fk
     rw[hj] at q2;cases q2
     exact ⟨id,b',Kj,q7,q8,fun h=>p6.trans (rr h).symm⟩
    ·exact absurd Fk (c2 j)
   ·have QH:=(bD.1 hj).1
    have Kj:et σ j=some (.blk (nb+(j-pl.length))):=by
     rw[rq,ma,iQ (by omega)]
     exact Fi (by omega)
    have hm:(nb+(j-pl.length),ue σ b)∈fr:=by
     rw[A3]
     refine Qy ?_
     rw[iu,show pl.length+(j-pl.length)=j by omega]
     exact hj
    rcases cls (nb+(j-pl.length)) with ⟨i,b2,c1,c2,c3,c4,c5⟩|⟨j',b2,b',c,b0,q1,q2,q3,q4,q5,q6,q7,q8,q9,p6,xu,rr⟩|⟨c1,c2,c3⟩
    ·have hi:i=j-pl.length:=by omega
     subst hi
     rw[show pl.length+(j-pl.length)=j by omega] at c2 c5
     rw[hj] at c2;cases c2
     exact ⟨_,_,Kj,c3,.of σ _,fun _=>c5⟩
    ·rw[sW _ hm] at q5;cases q5
    ·obtain ⟨b',Eu,he⟩:=Ep (hp:=hp) (l:=fr++bk) (eN.2 (.inl hm))
     rw[Ki,c1,sW _ hm] at he
     cases he
  ·rw[ic] at hj
   have:=List.getElem?_eq_none_iff.1 hj
   rw[rq,ma,List.getElem?_eq_none_iff,b9,Kg]
   omega
  ·rw[rq,ma] at hj
   by_cases cz:j<pl.length
   ·rw[iP cz] at hj
    obtain ⟨aD,b1,e,_⟩:=p5 j _ hj
    cases e
   ·have QH:j-pl.length<bs.length-pl.length:=by
     have:=(bD.1 hj).1
     rw[b9,Kg] at this
     omega
    rw[iQ (by omega),Fi QH] at hj
    cases hj
 have hle:Le P w I β hp w' I2 β' gu:=by
  refine ⟨xt.dC,xt.cy,fun id blk ab=> ?_,fun id blk blk' b ab bL ru hb=> ?_,fun id e es ar e' aL vers' b q i c t v e1 l ab bL hb aO hv ht hc=> ?_⟩
  ·rcases cls id with ⟨i,b2,c1,c2,c3,c4,c5⟩|⟨j',b2,b',c,b0,q1,q2,q3,q4,q5,q6,q7,q8,q9,p6,xu,rr⟩|⟨c1,c2,c3⟩
   ·rw[ab] at c4;cases c4
   ·rw[ab] at q5;cases q5
    exact ⟨b',q7,q6,fun _=>p6⟩
   ·exact ⟨blk,c1.trans ab,an.le_refl _,fun _=>c3⟩
  ·rcases cls id with ⟨i,b2,c1,c2,c3,c4,c5⟩|⟨j',b2,b',c,b0,q1,q2,q3,q4,q5,q6,q7,q8,q9,p6,xu,rr⟩|⟨c1,c2,c3⟩
   ·rw[ab] at c4;cases c4
   ·rw[q7] at bL;cases bL
    exact xt.size j' c b2 b q3 (by rw[ic];exact q2) (q8.QB ru) (q4.Kh.1.trans hb)
   ·rw[c1,ab] at bL
    cases bL
    simp only[bsize,(other id blk b ab (.root ru hb) c2).2.1]
  ·rcases cls id with ⟨i2,b2,c1,c2,c3,c4,c5⟩|⟨j',b2,b',c',b0,q1,q2,q3,q4,q5,q6,q7,q8,q9,p6,xu,rr⟩|⟨c1,c2,c3⟩
   ·rw[ab] at c4;cases c4
   ·rw[q7] at bL;cases bL
    obtain ⟨_,_,uS,_,_,k1,k2⟩:=q9 ⟨_,_,_,rfl⟩
    change hp id=_ at k1
    rw[ab] at k1;cases k1
    cases k2
    rw[QC aO] at hv
    omega
   ·rw[c1,ab] at bL
    cases bL
    exact ⟨l,rfl,hc.mono fun _ _ _ _ h=>(other id _ _ ab (.row hb h) c2).2.1⟩
 have place: ∀id blk b,gu id=some blk→bE P w' (β' id) blk b→(∃j c,jL bs j=some c∧bE P w' (cj j) c b∧et σ j=some (.blk id))∨(b<w.heap.size∧¬oW P w o hp0 b∧hp id=some blk∧bE P w (β id) blk b):=by
  intro id blk b e1 e3
  rcases cls id with ⟨i,b2,c1,c2,c3,c4,c5⟩|⟨j',b2,b',c,b0,q1,q2,q3,q4,q5,q6,q7,q8,q9,p6,xu,rr⟩|⟨c1,c2,c3⟩
  ·rw[c3] at e1;cases e1
   rw[c5] at e3
   refine .inl ⟨pl.length+i,b2,by rw[ic];exact c2,(gz.of σ b2).uR e3,?_⟩
   have:=(bD.1 c2).1
   rw[rq,ma,iQ (by omega),Fi (by omega),c1]
   congr 3
   omega
  ·rw[q7] at e1;cases e1
   have ru:b2≠ .dead:=q8.QB e3.alive
   rw[p6,←rr ru] at e3
   exact .inl ⟨j',b2,by rw[ic];exact q2,q8.uR e3,by rw[rq];exact oV (by rw[ma];exact q1)⟩
  ·rw[c1] at e1
   rw[c3] at e3
   have:=e3.mono (w:=w) fun b hb=>(other id blk b e1 hb c2).2.1
   exact .inr ⟨S.h.lt e1 this,(other id blk b e1 this c2).1,e1,this⟩
 have sJ: ∀b,oW P w o hp0 b∨w.heap.size≤b→M b∨B≤b:=by
  rintro b (h|h)
  ·obtain ⟨j,id,b1,i1,i2,i3,_⟩:=QG b h
   exact S.h.own id b1 b i2 i3
  ·exact .inr (lK S.size h)
 have Kk: ∀j c b,jL bs j=some c→bE P w' (cj j) c b→oW P w o hp0 b∨w.heap.size≤b:=fun j c b h1 U=>Sc.h.own j c b h1 U
 refine ⟨β',hle,⟨⟨fun id blk ab=> ?_,fun i1 i2 b1 b2 b e1 e2 f1 f2=> ?_,fun id blk b ab hb=> ?_,Sc.h.jP⟩,fun b hb hM=> ?_,lK S.size Sc.size,fun b hb=> ?_,⟨Sc.io.1.trans S.io.1,Sc.io.2.trans S.io.2⟩⟩,sQ⟩
 ·rcases cls id with ⟨i,b2,c1,c2,c3,c4,c5⟩|⟨j',b2,b',c,b0,q1,q2,q3,q4,q5,q6,q7,q8,q9,p6,xu,rr⟩|⟨c1,c2,c3⟩
  ·rw[c3] at ab;cases ab
   rw[c5]
   exact sQ.QA (Sc.h.rel _ b2 (by rw[ic];exact c2)) (.of σ b2)
  ·rw[q7] at ab;cases ab
   have:=sQ.QA (Sc.h.rel j' b2 (by rw[ic];exact q2)) q8
   by_cases ru:b2= .dead
   ·subst ru
    cases q8
    exact .dead
   ·rw[p6,←rr ru]
    exact this
  ·rw[c1] at ab
   rw[c3]
   exact (S.h.rel id blk ab).mono hle fun b hb=>(other id blk b ab hb c2).2
 ·rcases place i1 b1 b e1 f1 with ⟨j1,c1,g1,g2,g3⟩|⟨g1,g2,g3,g4⟩<;>rcases place i2 b2 b e2 f2 with ⟨j2,c2,k1,k2,k3⟩|⟨k1,k2,k3,k4⟩
  ·have:=Sc.h.inj j1 j2 c1 c2 b g1 k1 g2 k2
   subst this
   rw[g3] at k3
   cases k3
   rfl
  ·rcases Kk j1 c1 b g1 g2 with h|h
   ·exact absurd h k2
   ·omega
  ·rcases Kk j2 c2 b k1 k2 with h|h
   ·exact absurd h g2
   ·omega
  ·exact S.h.inj i1 i2 _ _ b g3 k3 g4 k4
 ·rcases place id blk b ab hb with ⟨j1,c1,g1,g2,g3⟩|⟨g1,g2,g3,g4⟩
  ·exact sJ b (Kk j1 c1 b g1 g2)
  ·exact S.h.own id blk b g3 g4
 ·refine (Sc.cy b (sg hb S.size) fun hx=> ?_).trans (S.cy b hb hM)
  rcases sJ b (.inl hx) with h|h
  ·exact hM h
  ·omega
 ·rcases Sc.new b hb with h|h|h
  ·exact S.new b h
  ·exact .inr (sJ b (.inl h))
  ·exact .inr (sJ b (.inr h))
end
section
variable {P:Program} {A:cS} {w w':World} {I I' I2:Nat→Prop} {μ β β' cj:Nat→Option Nat} {hp hp' hp0 bu:Nat→Option an} {C:ae} {B:Nat} {M:Nat→Prop} {w0:Start}
theorem QI (hp:Nat→Option an): ∀(a b:List (Nat × an)),bR hp (a++b)=bR (bR hp b) a
 | [],b=>rfl
 | (i,x)::a,b=>by simp only[List.cons_append,bR,QI hp a b]
theorem xw {hp:Nat→Option an} {l:List (Nat × an)} {id:Nat} (h: ∀q∈l,q.1≠id):bR hp l id=hp id:=by
 rcases uv (hp:=hp) (l:=l) (id:=id) with h1|⟨b,hb,_⟩
 ·exact h1
 ·exact absurd rfl (h _ hb)
def zH (P : Program) : Prop := ∀ (f : Nat) fn, P.funcs[f]? = some fn → (fn.name == "runtime.NumGoroutine") = false
def QJ (P:Program) (f:FuncId) (e:TypeId):Prop:=
 (∀args w,(callFunc f args).run P w= .ok (.enter f args) w)∧∃t,P.underlying t=some (.slice e)∧
  ∀(s:Value) (w:World) (Q:Ending→World→Prop),(s= .slice none 0 0→Q (.returned (.slice none 0 0)) w)→
   (∀a n c,s= .slice (some a) n c→∃v w',(Builtin.append_ #[t,t] t #[.slice (some ⟨w.heap.size,0,none⟩) 0 0,s]).run P (w.alloc (.cells #[] e))= .ok v w'∧Q (.returned v) w')→
   (s= .slice none 0 0∨∃a n c,s= .slice (some a) n c)→Calls P f #[s] w Q
structure jh (P:Program) (A:cS):Prop where
 count:zH P
 ext: ∀f T,A.ext f=some T→∀(b:Nat) (C:Array Value) (w:World),w.heap[b]? =some (.cells C T (0,0))→C.size=P.cellsOf T→(C[0]? =some (.pointer none)∨C[0]? =some (.pointer (some ⟨b,0,none⟩)))→
  (callFunc f #[.pointer (some ⟨b,0,none⟩)]).run P w= .ok (.enter f #[.pointer (some ⟨b,0,none⟩)]) w∧
  Calls P f #[.pointer (some ⟨b,0,none⟩)] w fun e w'=>e= .returned (.tuple #[])∧(w'=w∨w'=w.setCell ⟨b,0,none⟩ (.pointer (some ⟨b,0,none⟩)))
 idle: ∀f,A.idle f=true→(∀args w,(callFunc f args).run P w= .ok (.enter f args) w)∧
  ∀args w,CallsD P f args .returning w fun e u' w'=>(∃v,e= .returned v)∧u'= .returning∧w'=w
 oG: ∀f e,A.oG f=some e→QJ P f e
theorem jh.here {P:Program} {A:cS} (h:jh P A) (f id:Nat):jh P (A.here f id):=⟨h.count,h.ext,h.idle,h.oG⟩
def A4 (E:FuncId→Bool) (d:Deferred):Prop:= ∃f cap,d.target= .fn (.func f) cap∧E f=true
theorem Kl {P:Program} {A:cS} (hP:jh P A) {fn:Func} {tmps:Array Value} {R:Ending→World→Prop} {w:World} {v:Value} (hv:(results fn tmps).run P w= .ok v w) (hR:R (.returned v) w):
  ∀ds:List Deferred,(∀d∈ds,A4 A.idle d)→Leaves P fn tmps R ds .returning w
 | [],_=>⟨v,hv,hR⟩
 | d::ds,h=>by
  obtain ⟨f,cap,ht,hf⟩:=h d (by simp)
  obtain ⟨k1,k2⟩:=hP.idle f hf
  obtain ⟨t,QK⟩:=d
  simp only at ht
  subst ht
  refine leaves_cons (f:=f) (args:=QK++cap) (by simp) ?_ ?_
  ·simp only[invoke];exact k1 _ w
  ·refine (k2 (QK++cap) w).mono fun e u' w' hr=> ?_
   obtain ⟨⟨v',rfl⟩,rfl,rfl⟩:=hr
   exact Kl hP hv hR ds fun d hd=>h d (lM _ hd)
def A5 (P:Program) (A:cS) (o:Oper) (a:Act) (w:World) (I:Nat→Prop) (β:Nat→Option Nat) (hp:Nat→Option an) (B:Nat) (M:Nat→Prop) (w0:Start) (r:R):Prop:=
 ∀(next:Act→World→Prop) (Q:Exit→Act→World→Prop),
  (∀v w' I' β' ds,Le P w I β hp w' I' β' (bR hp r.upd)→aF P w' I' β' (bR hp r.upd) B M w0→ao P w' I' β' (bR hp r.upd) v r.v→(∀d∈ds,d∈a.defers∨A4 A.idle d)→next ({a with defers:=ds}.put o.dst v) w')→o.wp P a w next Q
theorem pP.step {o:Oper} {a:Act} {r:R} (h:pP P ((execOp a.eval o).run P w) w I β hp B M w0 r):A5 P A o a w I β hp B M w0 r:=by
 obtain ⟨v,w',I',β',h1,U,h3,h4⟩:=h
 intro next Q hn
 unfold Oper.wp
 rcases h1 with h1|⟨h1,rfl⟩
 ·rw[h1];exact hn v w' I' β' a.defers U h3 h4 fun d hd=> .inl hd
 ·rw[h1];exact hn _ w' I' β' a.defers U h3 h4 fun d hd=> .inl hd
theorem QL: ∀(l:List (Nat × VS)),oI l=sD (l.map (·.2))
 | []=>rfl
 | (_,s)::l=>by simp only[oI,cJ,sD,QL l]
theorem aaY (hC:lr P A C) (S:aF P w I β hp B M w0) (hg:gE P A.aE w I) {vals:List Value} {args:List V} {nb key:Nat} {f:FuncId} {r:R} {rd:List Nat} (hlen:vals.length=args.length)
  (cU: ∀(j:Nat) v x,vals[j]? =some v→args[j]? =some x→ao P w I β hp v x) (h:(Af P A nb key f args).run C hp=some (r,rd)):
  ∃fn c,P.funcs[f]? =some fn∧fn.body=some c∧Calls P f vals.toArray w fun e w'=> ∃v I' β',e= .returned v∧Le P w I β hp w' I' β' (bR hp r.upd)∧aF P w' I' β' (bR hp r.upd) B M w0∧ao P w' I' β' (bR hp r.upd) v r.v:=by
 unfold Af at h
 obtain ⟨QM,h0⟩:=aH h
 clear h
 rw[a9] at QM
 subst QM
 obtain ⟨h1,jC,d1,u1,a1,a2,a3,a5,a4⟩:=Kd S h0 hlen cU
 obtain ⟨U,sV,d2,u2,b1,b2,b3,b4⟩:=Qp S a1
 clear h0 a1
 obtain ⟨hc,h3⟩:=aH b1
 clear b1
 simp only[aP,a9,mw] at hc
 obtain ⟨bS,Fh⟩:=hc
 have sX:=a2.trans b2
 have lJ:U.ds=d1++d2:=by have:=sX.ds;simpa using this
 have Fl:U.upd=u1++u2:=by have:=sX.upd;simpa using this
 have jg:(U.pl.map Place.id).Nodup:=sX.nodup (by simp)
 obtain ⟨c1,o,c2,c3⟩:=b4 []
 simp only[c9] at c1 c2 c3
 cases A6:C key U.ds with
 | none=>
  simp only[Rd.run,A6] at h3
  cases h3
 | some es=>
  have qT: ∃e9,(Ae P (A.so key es) nb U (A.lv key es)).run C hp=some (r,e9):=by
   obtain ⟨x,hx,e⟩:=bind_some h3
   rw[A6] at hx
   cases hx
   unfold cS.so cS.lv
   cases cA:A.alt key with
   | none=>rw[cA] at e;exact ⟨_,e⟩
   | some S2=>
    rw[cA] at e
    simp only[Rd.run] at e
    cases hb:(V.nth es 0).toBool<;>(rw[hb] at e;exact ⟨_,e⟩)
  clear h3
  obtain ⟨e9,h3⟩:=qT
  unfold Ae at h3
  simp only at h3
  generalize hO:eP (A.so key es).bj ((A.lv key es).drop (oI (A.so key es).bZ))=bs at h3
  generalize rq:U.pl++sE nb (bs.length-U.pl.length)=σ at h3
  generalize A3:qJ σ nb (bs.drop U.pl.length)=fr at h3
  obtain ⟨p0,bk,rd4,p1,p2,_,p3⟩:=Qw h3
  obtain ⟨sW,rd5,p4⟩:=Qz p1
  obtain rfl:=aR p4
  have qW:U.pl.length≤bs.length:=by rw[ff] at p0;omega
  have Fj: ∀q∈bk,∃(j:Nat) (b:an),U.pl[j]? =some (.blk q.1)∧bs[j]? =some b∧gz σ b q.2∧A1 hp q:=by
   intro q hq
   rcases p2 q hq with hx|⟨j,b,k1,k2,k3,k4⟩
   ·simp at hx
   ·have hj:=(bD.1 k1).1
    rw[fe hj] at k2
    exact ⟨j,b,k1,k2,k3,k4⟩
  obtain ⟨fn,c,hf,hb,Km⟩:=hC key U.ds es A6
  refine ⟨fn,c,hf,hb,?_⟩
  have hmb:eP (A.sin key).bj (U.ds.drop (oI (A.sin key).bZ))=eP (A.sin key).bj d2:=by
   rw[lJ,QL,nO a3]
  have Kn:(bw (A.sin key) U.ds).hp=jL (eP (A.sin key).bj d2):=by
   simp only[bw,mk,hmb]
  have hl: ∀j blk,(bw (A.sin key) U.ds).hp j=some blk→∃p,et U.pl j=some p∧ek P w β hp p (o j) blk:=by
   intro j blk hj
   rw[Kn,ic] at hj
   obtain ⟨p,k1,k2⟩:=c2 j blk hj
   rw[gY] at k1
   exact ⟨p,k1,k2⟩
  have hd: ∀j,j<U.pl.length→∃blk,(bw (A.sin key) U.ds).hp j=some blk:=by
   intro j hj
   rw[Kn,ic]
   exact ⟨_,bG (by rw[c1,←bS];exact hj)⟩
  have QN:AW P w β hp U.pl o (bw (A.sin key) U.ds).hp:=by
   intro j p hj
   obtain ⟨blk,k1⟩:=hd j (by rw[ma] at hj;exact (bD.1 hj).1)
   obtain ⟨p',k2,k3⟩:=hl j blk k1
   rw[hj] at k2
   cases k2
   exact ⟨blk,k1,k3⟩
  obtain ⟨rb,S1⟩:=Av S sX.E9
  rw[←Fl] at rb S1
  have i1: ∀b,I b→iZ P w I β hp U.upd b:=fun b h=> .inl h
  have entry:=aaT (hp0:=(bw (A.sin key) U.ds).hp) S jg Fh hl (fun c6 j blk hj=>by
   have gM:=hj
   rw[Kn,ic] at gM
   exact c3 (iZ P w I β hp U.upd) o _ i1 (fun q hq b hb=> .inr ⟨q,by rw[Fl];exact eN.2 (.inr hq),hb⟩) U.pl [] (by simp) QN j blk gM (c6 j blk hj)) S1.h.jP
  have aaZ:vals.length=(A.sin key).bZ.length:=by rw[hlen,←a5];simp
  have ha:=Km w (iZ P w I β hp U.upd) o vals entry (hg.mono i1 fun _ _=>rfl) aaZ fun j v x hj hx=>by
   rw[lJ] at hx
   exact (((a4.AX b2) (iZ P w I β hp U.upd) o _ i1 (fun q hq b hb=> .inr ⟨q,by rw[Fl];exact hq,hb⟩) U.pl [] (by simp) QN) d2).2 j v x hj hx
  refine ha.mono fun e w' A7=> ?_
  obtain ⟨v,I2,cj,rfl,ha⟩:=A7
  have xx:(bw (A.so key es) (A.lv key es)).hp=jL bs:=by simp only[bw,mk,hO]
  cases aa0:(A.so key es).safe P with
  | true=>
   simp only[cond_true,c9]
   have hZ: ∀b,I b→I2 b:=fun b h=>ha.le.dC b (i1 b h)
   obtain ⟨s1,s2⟩:=aaW aa0 hZ ha.xr i1
   have xt:lq w I o (bw (A.sin key) U.ds).hp w' I cj (jL bs):=by
    rw[←xx]
    exact ⟨fun _ h=>h,fun b h=>ha.le.cy b (i1 b h),ha.le.blk,ha.le.size⟩
   obtain ⟨β',k1,k2,k3⟩:=QE S rq.symm A3.symm jg qW p3 Fj hl hd (by rw[←xx];exact ⟨s1.h,s1.cy,s1.size,fun b h=> .inl h,s1.io⟩) xt sW
   exact ⟨v,I,β',rfl,k1,k2,k3.val (by have:=s2 v ha.res;rw[xx] at this;exact this)⟩
  | false=>
   simp only[cond_false]
   rw[←cF,QI]
   have mQ: ∀p∈U.pl,bR hp U.upd p.id=hp p.id:=fun p hp=>xw fun q hq e=>
    Fg Fh (gG.2 ⟨q,hq,rfl⟩) (e▸gG.2 ⟨p,hp,rfl⟩)
   have aa1: ∀q∈bk,∃(j:Nat) (b:an),U.pl[j]? =some (.blk q.1)∧bs[j]? =some b∧gz σ b q.2∧A1 (bR hp U.upd) q:=by
    intro q hq
    obtain ⟨j,b,k1,k2,k3,k4⟩:=Fj q hq
    refine ⟨j,b,k1,k2,k3,fun hn=> ?_⟩
    have:=mQ _ (jJ k1)
    simp only[Place.id] at this
    rw[this]
    exact k4 hn
   have sH: ∀j blk,(bw (A.sin key) U.ds).hp j=some blk→∃p,et U.pl j=some p∧ek P w β (bR hp U.upd) p (o j) blk:=by
    intro j blk hj
    obtain ⟨p,k1,k2⟩:=hl j blk hj
    exact ⟨p,k1,k2.other (mQ p (by rw[ma] at k1;exact jJ k1))⟩
   have aa2: ∀q∈fr,bR hp U.upd q.1=none:=by
    intro q hq
    rw[xw fun q' A8 e=> ?_]
    ·exact sW q hq
    ·obtain ⟨e1,cC,_,h5⟩:=sX.E9 q' (Fl▸A8)
     rw[e,sW q hq] at h5
     rcases h5 with ⟨_,h5⟩|⟨_,h5⟩<;>cases h5
   obtain ⟨β',k1,k2,k3⟩:=QE S1 rq.symm A3.symm jg qW p3 aa1 sH hd (by rw[←xx];exact ha.xr) (by rw[←xx];exact ha.le) aa2
   exact ⟨v,I2,β',rfl,rb.trans k1,k2,k3.val (by have:=ha.res;rw[xx] at this;exact this)⟩
theorem QO (hC:lr P A C) (hP:jh P A) (S:aF P w I β hp B M w0) (hg:gE P A.aE w I) {a:Act} {nb key:Nat} {o:Oper} {f:FuncId} {vals:List Value} {args:List V} (hlen:vals.length=args.length)
  (cU: ∀(j:Nat) v x,vals[j]? =some v→args[j]? =some x→ao P w I β hp v x) {r:R} {rd:List Nat} (h:(Af P A nb key f args).run C hp=some (r,rd))
  (hex:(execOp a.eval o).run P w=(callFunc f vals.toArray).run P w):A5 P A o a w I β hp B M w0 r:=by
 intro next Q hn
 obtain ⟨fn,c,hf,hb,Km⟩:=aaY hC S hg hlen cU h
 unfold Oper.wp
 rw[hex,MuLone.run_callFunc_enter hf (hP.count f _ hf) hb,Oper.upon_enter]
 refine Km.mono fun e w' A7=> ?_
 obtain ⟨v,I2,cj,rfl,k1,k2,k3⟩:=A7
 exact hn v w' I2 cj a.defers k1 k2 k3 fun d hd=> .inl hd
theorem lj.args {a:Act} {sl:Nat→V} (hs:lj P w I β hp a sl) (hg:gE P A.aE w I) {args:Array Operand} {ts:Array TypeId} (bh:args.size=ts.size):
  (args.map a.eval).toList.length=((args.toList.zip ts.toList).map fun p=>aT P A.aE p.2 sl p.1).length∧
  ∀(j:Nat) v x,(args.map a.eval).toList[j]? =some v→((args.toList.zip ts.toList).map fun p=>aT P A.aE p.2 sl p.1)[j]? =some x→ao P w I β hp v x:=by
 refine ⟨by simp;omega,fun j v x hv hx=> ?_⟩
 simp only[Array.toList_map,fI,List.getElem?_zip_eq_some,zR] at hv hx
 obtain ⟨x1,A9,rfl⟩:=hv
 obtain ⟨⟨y1,t1⟩,⟨QP,_⟩,rfl⟩:=hx
 rw[A9] at QP
 cases QP
 exact hs.ev hg t1 _
theorem QQ {vs us:List Value} {xs ys:List V} (h1:vs.length=xs.length) (U: ∀(j:Nat) v x,vs[j]? =some v→xs[j]? =some x→ao P w I β hp v x)
  (h3: ∀(j:Nat) v x,us[j]? =some v→ys[j]? =some x→ao P w I β hp v x) (j:Nat) (v:Value) (x:V) (hv:(vs++us)[j]? =some v) (hx:(xs++ys)[j]? =some x):ao P w I β hp v x:=by
 by_cases hj:j<vs.length
 ·rw[iP hj] at hv
  rw[iP (by omega)] at hx
  exact U j v x hv hx
 ·rw[iQ (by omega)] at hv
  rw[iQ (by omega)] at hx
  rw[h1] at hv
  exact h3 _ v x hv hx
theorem aa3 (hP:jh P A) (S:aF P w I β hp B M w0) (hg:gE P A.aE w I) {a:Act} {sl:Nat→V} (hs:lj P w I β hp a sl) {dst:Option Tmp} {ty e:TypeId} {pos:String} {after:Array Edge} {guard:Option (Nat × Bool)} {f:FuncId}
  {args:Array Operand} {argTypes:Array TypeId} {nb:Nat} {r:R} {rd:List Nat} (lp:A.oG f=some e)
  (h:((match args.toList with
    | [x]=> .aC (c7 P e) (sB e (aT P A.aE ty sl x) fun xs=> .aC (Nat.ble (xs.length*P.bytesOf e) b6) (jv nb (.arr e xs false) (.whole e nb) []))
    | _=> .fail):Rd R).run C hp=some (r,rd)):A5 P A (Oper.mk dst (.call (Go.Call.mk (.value (.func f)) args argTypes)) ty pos after guard) a w I β hp B M w0 r:=by
 cases ha:args.toList with
 | nil=>rw[ha] at h;cases h
 | cons x l=>
  rw[ha] at h
  cases l with
  | cons _ _=>cases h
  | nil=>
   simp only at h
   have e1:args= #[x]:=by rw[←Array.toArray_toList (xs:=args),ha]
   subst e1
   have hx:=hs.ev hg ty x
   obtain ⟨au,h⟩:=aH h
   have fin: ∀{w1:World} {Fm:Nat→Option Nat},(∀id blk,hp id=some blk→ei P w1 I Fm hp (Fm id) blk)→ao P w1 I Fm hp (a.eval x) (aT P A.aE ty sl x)→∃xs,(((∃a',a.eval x= .slice a' 0 0)∧xs=[])∨∃a' c news,Row P w1 I e (a.eval x) xs a' c news)∧
     xs.length*P.bytesOf e≤b6∧hp nb=none∧r=⟨.whole e nb,[(nb,.arr e xs false)]⟩:=by
    intro w1 Fm h1 U
    obtain ⟨xs,l9,l,h⟩:=ET h1 au U h
    obtain ⟨eb,h⟩:=aH h
    rw[dh] at eb
    obtain ⟨hn,rfl⟩:=nG h
    exact ⟨xs,l9,eb,hn,rfl⟩
   obtain ⟨c1,t,hu,c2⟩:=hP.oG f e lp
   intro next Q xy
   unfold Oper.wp
   have e2:(execOp a.eval ⟨dst,.call ⟨.value (.func f),#[x],argTypes⟩,ty,pos,after,guard⟩).run P w= .ok (.enter f #[a.eval x]) w:=by
    have fa:a.eval (.func f)= .func (.func f) #[] #[]:=rfl
    simpa[execOp,resolve,fa,Deferred.ofValue,invoke] using c1 #[a.eval x] w
   rw[e2,Oper.upon_enter]
   refine c2 _ w _ (fun Ba=> ?_) (fun b n c pT=> ?_) ?_
   ·obtain ⟨xs,l9,eb,hn,rfl⟩:=fin S.h.rel hx
    have gN:xs=[]:=by
     rcases l9 with ⟨_,h⟩|⟨a,c,news,hr⟩
     ·exact h
     ·have:=hr.val.symm.trans Ba
      cases this
    subst gN
    obtain ⟨a1,a2⟩:=Ev S e hn
    exact xy _ w I _ a.defers a1 a2 (.dO (da _ _ _) (da _ _ _)) fun d hd=> .inl hd
   ·obtain ⟨m1,m2⟩:=YT (w':=w.alloc (.cells #[] e)) S (fun b hb=>heap_alloc_old w _ b hb) (by simp) ⟨rfl,rfl⟩
    obtain ⟨xs,l9,eb,hn,rfl⟩:=fin m2.h.rel (hx.mono m1)
    obtain ⟨v,w',β',a1,a2,a3,a4⟩:=JG (ty:=t) (a0:=some ⟨w.heap.size,0,none⟩) m2 hu au hn eb l9
    exact ⟨v,w',a1,xy v w' I β' a.defers (m1.trans a2) a3 a4 fun d hd=> .inl hd⟩
   ·obtain ⟨xs,l9,eb,hn,rfl⟩:=fin S.h.rel hx
    rcases l9 with ⟨⟨b,h⟩,_⟩|⟨b,c,news,hr⟩
    ·rw[h]
     cases b with
     | none=>exact .inl rfl
     | some b=>exact .inr ⟨_,_,_,rfl⟩
    ·exact .inr ⟨_,_,_,hr.val⟩
theorem aa4 (hP:jh P A) (S:aF P w I β hp B M w0) (hg:gE P A.aE w I) {a:Act} {sl:Nat→V} (hs:lj P w I β hp a sl) {dst:Option Tmp} {ty T0:TypeId} {pos:String} {after:Array Edge} {guard:Option (Nat × Bool)} {f:FuncId}
  {args:Array Operand} {argTypes:Array TypeId} {r:R} {rd:List Nat} (Bb:A.ext f=some T0)
  (h:((match args.toList with
   | [x]=>
    match aT P A.aE ty sl x with
    | .ptr id i c=>Rd.get id fun
     | some (.var T cs)=> .aC (Nat.beq T T0&&(pI P T&&(Nat.beq cs.length (P.cellsOf T)&&(Nat.beq i 0&&Nat.beq c 0)))) (.ret ⟨.bq [],[(id,.var T (.undef::cs.tail))]⟩)
     | _=> .fail
    | _=> .fail
   | _=> .fail):Rd R).run C hp=some (r,rd)):A5 P A (Oper.mk dst (.call (Go.Call.mk (.value (.func f)) args argTypes)) ty pos after guard) a w I β hp B M w0 r:=by
 cases ha:args.toList with
 | nil=>rw[ha] at h;cases h
 | cons x l=>
  rw[ha] at h
  cases l with
  | cons _ _=>cases h
  | nil=>
   simp only at h
   have e1:args= #[x]:=by rw[←Array.toArray_toList (xs:=args),ha]
   subst e1
   have hx:=hs.ev hg ty x
   cases fw:aT P A.aE ty sl x<;>rw[fw] at h hx<;>simp only at h<;>first|(cases h;done)|skip
   rename_i id i c
   obtain ⟨l,h1⟩:=run_get h
   cases ab:hp id with
   | none=>rw[ab] at h1;cases h1
   | some blk=>
    rw[ab] at h1
    cases blk<;>simp only at h1<;>first|(cases h1;done)|skip
    rename_i T cs
    obtain ⟨U,h3⟩:=aH h1
    simp only[aP,a9] at U
    obtain ⟨rfl,bX,oY,rfl,rfl⟩:=U
    obtain rfl:=aR h3
    obtain ⟨b,hb,he⟩:=hx.hU ab (by simp)
    have hr:=S.h.rel id _ ab
    rw[hb] at hr
    cases hr with
    | @var _ b' Ca _ aB hh bh hI gN gr=>
     cases aB
     have hY:a.eval x= .pointer (some ⟨b,0,none⟩):=by rw[he];simp[an.sz]
     obtain ⟨q1,q2⟩:=hP.ext f T Bb b Ca w hh (bh.trans oY) (gr bX)
     have h0:0<Ca.size:=by
      rcases gr bX with k|k<;>exact (iv.1 k).1
     have oP:(V.undef::cs.tail).length=cs.length:=by
      cases cs with
      | nil=>rw[bh] at h0;simp at h0
      | cons _ _=>rfl
     have rel: ∀(C':Array Value),(∀j,0<j→C'[j]? =Ca[j]?)→∀(j:Nat) v y,C'[j]? =some v→(V.undef::cs.tail)[j]? =some y→ao P w I β hp v y:=by
      intro C' xg j v y hj hy
      cases j with
      | zero=>simp at hy;subst hy;exact .undef
      | succ j=>
       rw[xg _ (by omega)] at hj
       refine gN (j+1) v y hj ?_
       cases cs with
       | nil=>rw[bh] at h0;simp at h0
       | cons _ _=>simpa using hy
     have fin: ∀w' C',(∀b',b'≠b→w'.heap[b']? =w.heap[b']?)→w'.heap[b]? =some (.cells C' T (0,0))→C'.size=Ca.size→w.heap.size≤w'.heap.size→w'.os=w.os∧w'.output=w.output→
       (∀j,0<j→C'[j]? =Ca[j]?)→(C'[0]? =some (.pointer none)∨C'[0]? =some (.pointer (some ⟨b,0,none⟩)))→
       Le P w I β hp w' I β (aK hp id (some (.var T (V.undef::cs.tail))))∧aF P w' I β (aK hp id (some (.var T (V.undef::cs.tail)))) B M w0:=by
      intro w' C' k1 k2 k3 k4 k5 k6 k7
      exact Ey (w':=w') (blk':= .var T (V.undef::cs.tail)) S ab (by simp) rfl hb hI (by simp) k1 (by rw[nB k2,nB hh,k3]) k4 k5 fun hle=>
       .var rfl k2 (by rw[k3,bh,oP]) hI (fun j v y hj hy=>(rel C' k6 j v y hj hy).mono hle) fun _=>k7
     intro next Q hn
     unfold Oper.wp
     have e2:(execOp a.eval ⟨dst,.call ⟨.value (.func f),#[x],argTypes⟩,ty,pos,after,guard⟩).run P w= .ok (.enter f #[.pointer (some ⟨b,0,none⟩)]) w:=by
      have fa:a.eval (.func f)= .func (.func f) #[] #[]:=rfl
      simpa[execOp,resolve,fa,Deferred.ofValue,invoke,hY] using q1
     rw[e2,Oper.upon_enter]
     refine q2.mono fun e w' A7=> ?_
     obtain ⟨rfl,hw⟩:=A7
     have QR:Le P w I β hp w' I β (aK hp id (some (.var T (V.undef::cs.tail))))∧aF P w' I β (aK hp id (some (.var T (V.undef::cs.tail)))) B M w0:=by
      rcases hw with rfl|rfl
      ·exact fin w' Ca (fun _ _=>rfl) hh rfl (cg _) ⟨rfl,rfl⟩ (fun _ _=>rfl) (gr bX)
      ·refine fin (w.setCell ⟨b,0,none⟩ (.pointer (some ⟨b,0,none⟩))) (Ca.setIfInBounds 0 (.pointer (some ⟨b,0,none⟩))) (fun b' bH=> ?_) ?_ (by simp) (by simp[World.setCell]) ⟨rfl,rfl⟩ (fun j hj=> ?_) (.inr ?_)
       ·simp only[World.setCell,zP]
        rw[ai (fun e=>bH e.symm)]
       ·simp[World.setCell,zP,hh]
       ·rw[DN (by omega)]
       ·rw[IE h0]
     exact hn (.tuple #[]) w' I β a.defers QR.1 QR.2 (.bq rfl fun j v y hj _=>by simp at hj) fun d hd=> .inl hd
theorem aa5 (hC:lr P A C) (hP:jh P A) (S:aF P w I β hp B M w0) (hg:gE P A.aE w I) {a:Act} {sl:Nat→V} (hs:lj P w I β hp a sl) {ix nb:Nat} {o:Oper} {r:R} {rd:List Nat}
  (h:(fL P A sl ix nb o).run C hp=some (r,rd)):A5 P A o a w I β hp B M w0 r:=by
 cases hc:J4 o.op with
 | false=>exact (aaC S hg hs hc h).step
 | true=>
  obtain ⟨dst,op,ty,pos,after,guard⟩:=o
  cases op<;>simp only[J4] at hc<;>first|(cases hc;done)|skip
  case defer c=>
   obtain ⟨callee,args,argTypes⟩:=c
   cases callee with
   | invoke r m=>simp only[fL] at h;cases h
   | builtin b=>simp only[fL] at h;cases h
   | value f=>
   cases f with
   | tmp t=>
    simp only[fL] at h
    cases bX:sl t<;>rw[bX] at h<;>simp only at h<;>first|(cases h;done)|skip
    rename_i f xs ys
    obtain ⟨h1,U⟩:=aH h
    obtain rfl:=aR U
    have hv:=hs t
    rw[bX] at hv
    generalize uL:a.tmps.getD t undef=vt at hv
    cases hv with
    | @fn _ fs cs _ _ q1 q2 q3 q4=>
     intro next Q hn
     unfold Oper.wp
     have fa:a.eval (.tmp t)= .func (.func f) fs cs:=uL
     have e1:(execOp a.eval ⟨dst,.defer ⟨.value (.tmp t),args,argTypes⟩,ty,pos,after,guard⟩).run P w= .ok (.defer {target:= .fn (.func f) cs,args:=fs++args.map a.eval}) w:=by
      simp[execOp,resolve,fa,Deferred.ofValue]
     rw[e1,Oper.upon_defer]
     exact hn undef w I β _ (Le.refl w I β hp) S .undef fun d hd=>by
      rcases dG.1 hd with rfl|hd
      ·exact .inr ⟨f,cs,rfl,h1⟩
      ·exact .inl hd
   | func f=>simp only[fL] at h;cases h
   | const _=>simp only[fL] at h;cases h
   | global _=>simp only[fL] at h;cases h
  rename_i c
  obtain ⟨callee,args,argTypes⟩:=c
  cases callee with
  | invoke r m=>cases hc
  | builtin b=>cases hc
  | value f=>
   cases f with
   | func f=>
    simp only[fL] at h
    cases Bb:A.ext f with
    | some T0=>
     rw[Bb] at h
     simp only at h
     exact aa4 hP S hg hs Bb h
    | none=>
    rw[Bb] at h
    simp only at h
    cases lp:A.oG f with
    | some e0=>
     rw[lp] at h
     simp only at h
     exact aa3 hP S hg hs lp h
    | none=>
    rw[lp] at h
    simp only at h
    obtain ⟨h1,U⟩:=aH h
    rw[a9] at h1
    obtain ⟨k1,k2⟩:=hs.args hg h1
    refine QO hC hP S hg k1 k2 U ?_
    have e1:(args.map a.eval).toList.toArray=args.map a.eval:=Array.toArray_toList
    rw[e1]
    simp[execOp,resolve,Act.eval,Deferred.ofValue,invoke]
   | tmp t=>
    simp only[fL] at h
    cases bX:sl t<;>rw[bX] at h<;>simp only at h<;>first|(cases h;done)|skip
    rename_i f xs ys
    obtain ⟨h1,U⟩:=aH h
    rw[a9] at h1
    obtain ⟨k1,k2⟩:=hs.args hg h1
    have hv:=hs t
    rw[bX] at hv
    generalize uL:a.tmps.getD t undef=vt at hv
    cases hv with
    | @fn _ fs cs _ _ q1 q2 q3 q4=>
     have l1:fs.toList.length=xs.length:=by simpa using q1
     have l3:cs.toList.length=ys.length:=by simpa using q3
     have r1: ∀(j:Nat) v x,fs.toList[j]? =some v→xs[j]? =some x→ao P w I β hp v x:=fun j v x hj hx=>q2 j v x (by simpa using hj) hx
     have r3: ∀(j:Nat) v x,cs.toList[j]? =some v→ys[j]? =some x→ao P w I β hp v x:=fun j v x hj hx=>q4 j v x (by simpa using hj) hx
     refine QO hC hP S hg (vals:=fs.toList++(args.map a.eval).toList++cs.toList) (args:=xs++((args.toList.zip argTypes.toList).map fun p=>aT P A.aE p.2 sl p.1)++ys) (by simp only[b9];omega) ?_ U ?_
     ·exact QQ (by simp only[b9];omega) (QQ l1 r1 k2) r3
     ·have e1:(fs.toList++(args.map a.eval).toList++cs.toList).toArray=fs++args.map a.eval++cs:=by
       apply Array.toList_inj.1;simp
      rw[e1]
      have fa:a.eval (.tmp t)= .func (.func f) fs cs:=uL
      simp[execOp,resolve,fa,Deferred.ofValue,invoke]
   | _=>cases hc
end
section
variable {P:Program} {A:cS} {w w':World} {I I' I2:Nat→Prop} {μ β β':Nat→Option Nat} {hp hp':Nat→Option an} {C:ae} {B:Nat} {M:Nat→Prop} {w0:Start}
structure ji (P:Program) (E:FuncId→Bool) (G:Nat→V) (w:World) (I:Nat→Prop) (β:Nat→Option Nat) (n:Nat) (a:Act) (st:St):Prop where
 sl:lj P w I β st.hp a st.sl
 size:a.tmps.size=n
 defers: ∀d∈a.defers,A4 E d
 aE:gE P G w I
theorem Ko {E:FuncId→Bool} {G:Nat→V} {n:Nat} {a:Act} {st:St} {o:Oper} {v:Value} {x:V} {hp':Nat→Option an} {ds:List Deferred} (h:ji P E G w I β n a st) (hle:Le P w I β st.hp w' I' β' hp') (hd:sF o n=true)
  (hv:ao P w' I' β' hp' v x) (lJ: ∀d∈ds,d∈a.defers∨A4 E d):ji P E G w' I' β' n ({a with defers:=ds}.put o.dst v) ⟨iz st.sl o.dst x,hp',st.nb⟩:=by
 have QS: ∀d∈ds,A4 E d:=fun d hd=>(lJ d hd).elim (h.defers d) id
 cases aa6:o.dst with
 | none=>exact ⟨fun k=>(h.sl k).mono hle,h.size,QS,h.aE.mono hle.dC hle.cy⟩
 | some d=>
  have aO:d<a.tmps.size:=by
   unfold sF at hd
   rw[aa6] at hd
   rw[h.size]
   simpa using hd
  refine ⟨fun k=> ?_,by simp[Act.put,h.size],QS,h.aE.mono hle.dC hle.cy⟩
  simp only[Act.put,iz,aK]
  cases hb:Nat.beq k d with
  | true=>
   rw[a9] at hb
   subst hb
   simpa[aO] using hv
  | false=>
   have bH:d≠k:=fun e=>by rw[e,jI] at hb;cases hb
   have:=(h.sl k).mono hle
   simpa[DN bH] using this
theorem QT {E:FuncId→Bool} {G:Nat→V} {n:Nat} {a:Act} {st:St} {d:Nat} {b:Bool} (h:ji P E G w I β n a st) (hd:st.sl d= .bool b):a.tmps[d]? =some (.bool b):=by
 have:=h.sl d
 rw[hd] at this
 have:=this.kG
 cases ht:a.tmps[d]? with
 | none=>simp[ht] at this;cases this
 | some v=>simp[ht] at this;rw[this]
theorem aa7 {x:V} {b:Bool} (h:lP x=some (some b)):x= .bool b:=by
 cases x with
 | bool c=>simp only[lP] at h;injection h with h;injection h with h;rw[h]
 | bq vs=>cases vs<;>simp[lP] at h
 | _=>simp[lP] at h
theorem aa8 {x:V} (h:lP x=some none):x= .bq []:=by
 cases x with
 | bq vs=>cases vs with
  | nil=>rfl
  | cons _ _=>simp[lP] at h
 | bool c=>simp[lP] at h
 | _=>simp[lP] at h
theorem ao.aa9 {v:Value} (h:ao P w I β hp v (.bq [])):v= .tuple #[]:=by
 cases h with
 | @bq cs _ hs _=>
  have:cs= #[]:=by
   apply Array.eq_empty_of_size_eq_zero
   simpa using hs
  rw[this]
theorem ao.QU:ao P w I β hp Go.undef (.bq []):= .bq (by rfl) (fun j v x _ hx=>by simp at hx)
theorem QV (hC:lr P A C) (hP:jh P A) {ops:Array Oper} {n i nb:Nat} {o:Oper} (ho:ops[i]? =some o) {a:Act} {st st':St} {R W:List Nat} (S:aF P w I β st.hp B M w0) (hA:ji P A.idle A.aE w I β n a st)
  (h:g9 P A C n ops i o nb st=some (st',R,W)) {K:Act→World→Prop} {Q:Exit→Act→World→Prop}
  (hK: ∀a' w' I' β',Le P w I β st.hp w' I' β' st'.hp→aF P w' I' β' st'.hp B M w0→ji P A.idle A.aE w' I' β' n a' st'→K a' w'):wpOp P ops Q i K a w:=by
 unfold g9 at h
 cases hd:sF o n with
 | false=>rw[hd] at h;cases h
 | true=>
  rw[hd] at h
  simp only[cond_true] at h
  have go: ∀{Kp:St} {R W:List Nat},(((fL P A st.sl i (nb+64*i) o).run C st.hp).bind fun r=>some ((⟨iz st.sl o.dst r.1.v,bR st.hp r.1.upd,st.nb⟩:St),qM r.2 r.1.upd,fY st.hp r.1.upd))=some (Kp,R,W)→Kp=st'→
    o.wp P a w K Q:=by
   intro Kp R W h e
   obtain ⟨⟨r,rd⟩,h1,U⟩:=bind_some h
   cases U
   subst e
   exact aa5 hC hP S hA.aE hA.sl h1 K Q fun v w' I' β' ds k1 k2 k3 k4=>hK _ w' I' β' k1 k2 (Ko hA k1 hd k3 k4)
  unfold wpOp
  rw[ho]
  simp only
  cases hg:o.guard with
  | none=>
   rw[hg] at h
   simp only[Region.wanted,hg,cW]
   exact .inl (go h rfl)
  | some gw=>
   obtain ⟨g,want⟩:=gw
   rw[hg] at h
   simp only at h
   cases mc:(ops[g]?).bind (·.dst) with
   | none=>rw[mc] at h;cases h
   | some d=>
    rw[mc] at h
    simp only at h
    cases mR:lP (st.sl d) with
    | none=>rw[mR] at h;cases h
    | some ob=>
    rw[mR] at h
    cases ob with
    | none=>
     have pT:=aa8 mR
     have hy:yielded ops a.tmps g=none:=by
      unfold yielded
      rw[mc]
      have:=hA.sl d
      rw[pT] at this
      have hu:=ao.aa9 this
      simp only[Option.bind_some]
      cases ht:a.tmps[d]? with
      | none=>rfl
      | some v=>simp[ht] at hu;subst hu;rfl
     simp only[Region.wanted,hg,hy]
     injection h with h
     injection h with h3 h4
     subst h3
     have U:((none:Option Bool)==some want)=false:=rfl
     simp only[U,zS,fG]
     exact hK _ w I β (Le.refl w I β st.hp) S (Ko (ds:=a.defers) hA (Le.refl w I β st.hp) hd ao.QU fun d h=> .inl h)
    | some b=>
    simp only at h
    have pT:=aa7 mR
    have hy:yielded ops a.tmps g=some b:=by
     unfold yielded
     rw[mc]
     simp only[Option.bind_some,QT hA pT]
    simp only[Region.wanted,hg,hy]
    by_cases hb:b=want
    ·subst hb
     simp only[zQ,cond_true] at h
     simp only[zQ,cW]
     exact .inl (go h rfl)
    ·have h1:(b==want)=false:=by simp[hb]
     have U:(some b==some want)=false:=by simp[hb]
     rw[h1] at h
     simp only[cond_false] at h
     injection h with h
     injection h with h3 h4
     subst h3
     simp only[U,zS,fG]
     exact hK _ w I β (Le.refl w I β st.hp) S (Ko (ds:=a.defers) hA (Le.refl w I β st.hp) hd ao.QU fun d h=> .inl h)
def uT (hp hp':Nat→Option an) (c:Nat):Prop:=hp' c=hp c∧(KB≤c→gn (hp' (c-KB))=gn (hp (c-KB)))
theorem uT.symm {c:Nat} (h:uT hp hp' c):uT hp' hp c:=⟨h.1.symm,fun hc=>(h.2 hc).symm⟩
theorem sY {α:Type}: ∀{p:Rd α} {r:α} {rd:List Nat},p.run C hp=some (r,rd)→(∀id∈rd,uT hp hp' id)→p.run C hp'=some (r,rd)
 | .ret a,r,rd,h,_=>h
 | .fail,r,rd,h,_=>by cases h
 | .get id k,r,rd,h,he=>by
  obtain ⟨x,h1,U⟩:=bind_some h
  cases U
  have e1:hp' id=hp id:=(he id (by simp)).1
  have:=sY (p:=k (hp id)) (r:=x.1) (rd:=x.2) h1 (fun i hi=>he i (by simp[hi]))
  simp only[Rd.run,e1,this,Option.bind_some]
 | .live id ok k,r,rd,h,he=>by
  simp only[Rd.run] at h⊢
  cases hk:ok (gn (hp id)) with
  | false=>rw[hk] at h;cases h
  | true=>
   rw[hk] at h
   obtain ⟨x,h1,U⟩:=bind_some h
   cases U
   have e1:gn (hp' id)=gn (hp id):=by
    have:=(he (id+KB) (by simp)).2 (Nat.le_add_left _ _)
    rwa [wv] at this
   have:=sY (p:=k) (r:=x.1) (rd:=x.2) h1 (fun i hi=>he i (by simp[hi]))
   rw[e1,hk,this]
   rfl
 | .opt o k,r,rd,h,he=>by
  obtain ⟨x,h1,U⟩:=bind_some h
  simp only[Rd.run,h1,Option.bind_some]
  exact sY U he
 | .aC b k,r,rd,h,he=>by
  obtain ⟨h1,U⟩:=aH h
  simp only[Rd.run,h1,cond_true]
  exact sY U he
 | .call key ds k,r,rd,h,he=>by
  obtain ⟨x,h1,U⟩:=bind_some h
  simp only[Rd.run,h1,Option.bind_some]
  exact sY U he
 | .alt true x y,r,rd,h,he=>sY (p:=x) h he
 | .alt false x y,r,rd,h,he=>sY (p:=y) h he
theorem aba {G:Nat→V} {sl sl':Nat→V} {t:TypeId} {x:Operand} (h: ∀k,x= .tmp k→sl k=sl' k):aT P G t sl x=aT P G t sl' x:=by
 cases x with
 | tmp k=>exact h k rfl
 | _=>rfl
theorem abb {sl sl':Nat→V} {ix nb:Nat} {o:Oper} (h: ∀x∈o.op.operands,∀k,x= .tmp k→sl k=sl' k):fL P A sl ix nb o=fL P A sl' ix nb o:=by
 have fa: ∀t x,x∈o.op.operands→aT P A.aE t sl x=aT P A.aE t sl' x:=fun t x hx=>aba (h x hx)
 obtain ⟨dst,op,ty,pos,after,guard⟩:=o
 have QW: ∀(t:TypeId) (ps:Array (Nat × Operand)),(∀x∈ps.map (·.2),aT P A.aE t sl x=aT P A.aE t sl' x)→
   (ps.toList.map fun p=>(p.1,aT P A.aE t sl p.2))=ps.toList.map fun p=>(p.1,aT P A.aE t sl' p.2):=fun t ps hp=>
  sq fun p hm=>by rw[hp p.2 (Array.mem_map.2 ⟨p,pE.1 hm,rfl⟩)]
 have abc: ∀(t:TypeId) (ps:Array (Nat × Operand)),(∀x∈ps.map (·.2),aT P A.aE t sl x=aT P A.aE t sl' x)→
   (ps.toList.map fun p=>(aT P A.aE t sl p.2).cells)=ps.toList.map fun p=>(aT P A.aE t sl' p.2).cells:=fun t ps hp=>
  sq fun p hm=>by rw[hp p.2 (Array.mem_map.2 ⟨p,pE.1 hm,rfl⟩)]
 cases op<;>simp only[Op.operands] at fa<;>simp only[fL]
 case pick c x y=>rw[fa ty c (by simp),fa ty x (by simp),fa ty y (by simp)]
 case build t ps=>rw[QW ty ps fun x hx=>fa ty x (by simpa using hx),abc ty ps fun x hx=>fa ty x (by simpa using hx)]
 case buildSlice t len ps=>
  split
  ·rename_i e _
   rw[QW e ps fun x hx=>fa e x (by simpa using hx)]
  ·rfl
 case slice t x lo hi mx=>
  cases mx with
  | some m=>
   have e1:lo.map (aT P A.aE 0 sl)=lo.map (aT P A.aE 0 sl'):=by
    cases lo with
    | none=>rfl
    | some l=>simp only[Option.map_some,fa 0 l (by simp)]
   have e2:hi.map (aT P A.aE 0 sl)=hi.map (aT P A.aE 0 sl'):=by
    cases hi with
    | none=>rfl
    | some l=>simp only[Option.map_some,fa 0 l (by simp)]
   have e3:=fa 0 m (by simp)
   simp only[fa ty x (by simp),e1,e2,e3]
  | none=>
   have e1:lo.map (aT P A.aE 0 sl)=lo.map (aT P A.aE 0 sl'):=by
    cases lo with
    | none=>rfl
    | some l=>simp only[Option.map_some,fa 0 l (by simp)]
   have e2:hi.map (aT P A.aE 0 sl)=hi.map (aT P A.aE 0 sl'):=by
    cases hi with
    | none=>rfl
    | some l=>simp only[Option.map_some,fa 0 l (by simp)]
   simp only[fa ty x (by simp),e1,e2]
 case call c=>
  obtain ⟨callee,args,argTypes⟩:=c
  have uU: ∀t x,x∈args→aT P A.aE t sl x=aT P A.aE t sl' x:=fun t x hx=>fa t x (by simp[Call.operands,hx])
  have hl: ∀t (l:List Operand),(∀x∈l,x∈args)→l.map (aT P A.aE t sl)=l.map (aT P A.aE t sl'):=fun t l hl=>sq fun x hx=>uU t x (hl x hx)
  have hz:((args.toList.zip argTypes.toList).map fun p=>aT P A.aE p.2 sl p.1)=(args.toList.zip argTypes.toList).map fun p=>aT P A.aE p.2 sl' p.1:=
   sq fun p hp=>uU p.2 p.1 (pE.1 (List.of_mem_zip hp).1)
  cases callee with
  | invoke r m=>rfl
  | builtin b=>
   have cA: ∀x∈args.toList,∀t,aT P A.aE t sl x=aT P A.aE t sl' x:=fun x hx t=>uU t x (pE.1 hx)
   have Kq: ∀t (l:List Operand),(∀x∈l,∀t,aT P A.aE t sl x=aT P A.aE t sl' x)→l.map (aT P A.aE t sl)=l.map (aT P A.aE t sl'):=fun t l h=>sq fun x hx=>h x hx t
   cases b<;>first|rfl|skip
   case append=>
    dsimp only
    generalize args.toList=al at cA
    match al,cA,argTypes.toList with
    | [s,x],cA,[t,u]=>simp only[cA s (by simp),cA x (by simp)]
    | [],_,_=>rfl
    | [_],_,_=>rfl
    | _::_::_::_,_,_=>rfl
    | [_,_],_,[]=>rfl
    | [_,_],_,[_]=>rfl
    | [_,_],_,_::_::_::_=>rfl
   case copy=>
    dsimp only
    generalize args.toList=al at cA
    match al,cA,argTypes.toList with
    | [s,x],cA,[t,u]=>simp only[cA s (by simp),cA x (by simp)]
    | [],_,_=>rfl
    | [_],_,_=>rfl
    | _::_::_::_,_,_=>rfl
    | [_,_],_,[]=>rfl
    | [_,_],_,[_]=>rfl
    | [_,_],_,_::_::_::_=>rfl
   case len=>
    dsimp only
    generalize args.toList=al at cA
    match al,cA,argTypes.toList with
    | [x],cA,[t]=>simp only[cA x (by simp)]
    | [],_,_=>rfl
    | _::_::_,_,_=>rfl
    | [_],_,[]=>rfl
    | [_],_,_::_::_=>rfl
   case clear=>
    dsimp only
    generalize args.toList=al at cA
    match al,cA,argTypes.toList with
    | [x],cA,[t]=>simp only[cA x (by simp)]
    | [],_,_=>rfl
    | _::_::_,_,_=>rfl
    | [_],_,[]=>rfl
    | [_],_,_::_::_=>rfl
   case unsafeSliceData=>
    dsimp only
    generalize args.toList=al at cA
    match al,cA with
    | [],_=>rfl
    | [x],cA=>simp only[cA x (by simp)]
    | _::_::_,_=>rfl
   case unsafeString=>
    dsimp only
    generalize args.toList=al at cA
    match al,cA,argTypes.toList with
    | [s,x],cA,[t,u]=>simp only[cA s (by simp),cA x (by simp)]
    | [],_,_=>rfl
    | [_],_,_=>rfl
    | _::_::_::_,_,_=>rfl
    | [_,_],_,[]=>rfl
    | [_,_],_,[_]=>rfl
    | [_,_],_,_::_::_::_=>rfl
   case max=>
    dsimp only
    generalize args.toList=al at cA
    match al,cA with
    | [],_=>rfl
    | x::l,cA=>simp only[cA x (by simp),Kq ty l (fun y hy=>cA y (by simp[hy]))]
   case min=>
    dsimp only
    generalize args.toList=al at cA
    match al,cA with
    | [],_=>rfl
    | x::l,cA=>simp only[cA x (by simp),Kq ty l (fun y hy=>cA y (by simp[hy]))]
  | value f=>
   cases f<;>first|rfl|skip
   ·rename_i t
    have ht:sl t=sl' t:=h (.tmp t) (by simp[Op.operands,Call.operands]) t rfl
    simp only[hz,ht]
   ·simp only[hz]
    cases hx:args.toList with
    | nil=>rfl
    | cons x l=>
     cases l with
     | cons _ _=>rfl
     | nil=>simp only[uU ty x (pE.1 (by rw[hx];simp))]
 case defer c=>
  obtain ⟨callee,args,argTypes⟩:=c
  cases callee with
  | invoke r m=>rfl
  | builtin b=>rfl
  | value f=>
   cases f<;>first|rfl|skip
   rename_i t
   have ht:sl t=sl' t:=h (.tmp t) (by simp[Op.operands,Call.operands]) t rfl
   simp only[ht]
 case makeFunc fn a b=>
  cases fn<;>first|rfl|skip
  have e1:a.toList.map (aT P A.aE ty sl)=a.toList.map (aT P A.aE ty sl'):=sq fun x hx=>fa ty x (by simp[pE.1 hx])
  have e2:b.toList.map (aT P A.aE ty sl)=b.toList.map (aT P A.aE ty sl'):=sq fun x hx=>fa ty x (by simp[pE.1 hx])
  dsimp only
  rw[e1,e2]
 case makeMap t r=>cases r<;>rfl
 all_goals first
  | rfl
  | (simp[fa];done)
end
section
variable {P:Program} {A:cS} {w w':World} {I I' I2:Nat→Prop} {μ β β':Nat→Option Nat} {hp hp':Nat→Option an} {C:ae} {B:Nat} {M:Nat→Prop} {w0:Start}
theorem Kr {q:Nat × an} {upd:List (Nat × an)} (h:q∈upd):q.1∈fY hp upd:=by
 unfold fY
 rw[List.mem_flatMap]
 refine ⟨q,h,?_⟩
 cases Nat.beq (gn (hp q.1)) (gn (some q.2))<;>simp
theorem abd {upd:List (Nat × an)} (h: ∀q∈upd,gn (hp' q.1)=gn (hp q.1)):fY hp' upd=fY hp upd:=by
 unfold fY
 induction upd with
 | nil=>rfl
 | cons q l ih=>
  rw[lN,lN,ih fun x hx=>h x (lM _ hx),h q (by simp)]
theorem QX {c:Nat}: ∀{upd:List (Nat × an)},c∉fY hp upd→uT hp (bR hp upd) c:=fun {upd} h=>by
 refine ⟨xw fun q hq e=>h (e▸Kr hq),fun hc=> ?_⟩
 induction upd with
 | nil=>rfl
 | cons q l ih=>
  have hl:c∉fY hp l:=fun hx=>h (by unfold fY at*;rw[lN];exact List.mem_append_right _ hx)
  have hq:gn (hp q.1)=gn (some q.2)∨c≠q.1+KB:=by
   cases hb:Nat.beq (gn (hp q.1)) (gn (some q.2)) with
   | true=>exact .inl (zJ hb)
   | false=>
    refine .inr fun e=>h ?_
    unfold fY
    rw[lN,hb,e]
    simp
  show gn (aK (bR hp l) q.1 (some q.2) (c-KB))=_
  simp only[aK]
  cases hb:Nat.beq (c-KB) q.1 with
  | false=>exact ih hl
  | true=>
   have e:=zJ hb
   rcases hq with hq|hq
   ·rw[cond_true,e];exact hq.symm
   ·exact absurd (by omega) hq
theorem QY {n i nb:Nat} {ops:Array Oper} {o:Oper} {st st':St} {R W:List Nat} (h:g9 P A C n ops i o nb st=some (st',R,W)):
  ∃x upd,st'=⟨iz st.sl o.dst x,bR st.hp upd,st.nb⟩∧W=fY st.hp upd∧∀en:St,(∀d∈o.looksAt ops,en.sl d=st.sl d)→(∀id∈R,uT st.hp en.hp id)→
   g9 P A C n ops i o nb en=some (⟨iz en.sl o.dst x,bR en.hp upd,en.nb⟩,R,W)∧W=fY en.hp upd:=by
 unfold g9 at h
 cases hd:sF o n with
 | false=>rw[hd] at h;cases h
 | true=>
  rw[hd] at h
  simp only[cond_true] at h
  have go:(((fL P A st.sl i (nb+64*i) o).run C st.hp).bind fun r=>some ((⟨iz st.sl o.dst r.1.v,bR st.hp r.1.upd,st.nb⟩:St),qM r.2 r.1.upd,fY st.hp r.1.upd))=some (st',R,W)→
    ∃x upd,st'=⟨iz st.sl o.dst x,bR st.hp upd,st.nb⟩∧W=fY st.hp upd∧∀en:St,(∀d∈o.looksAt ops,en.sl d=st.sl d)→(∀id∈R,uT st.hp en.hp id)→
     (((fL P A en.sl i (nb+64*i) o).run C en.hp).bind fun r=>some ((⟨iz en.sl o.dst r.1.v,bR en.hp r.1.upd,en.nb⟩:St),qM r.2 r.1.upd,fY en.hp r.1.upd))=some (⟨iz en.sl o.dst x,bR en.hp upd,en.nb⟩,R,W)∧W=fY en.hp upd:=by
   intro h
   obtain ⟨⟨r,rd⟩,h1,U⟩:=bind_some h
   cases U
   refine ⟨r.v,r.upd,rfl,rfl,fun en hs hh=> ?_⟩
   have hw:fY en.hp r.upd=fY st.hp r.upd:=abd fun q hq=>by
    have:=(hh (q.1+KB) (List.mem_append_right _ (gG.2 ⟨q,hq,rfl⟩))).2 (Nat.le_add_left _ _)
    rwa [wv] at this
   rw[abb (sl':=st.sl) fun x hx k hk=> ?_,sY h1 fun c hc=>hh c (List.mem_append_left _ hc)]
   ·refine ⟨?_,hw.symm⟩
    rw[Option.bind_some,hw]
   ·subst hk
    exact hs k (List.mem_append_left _ (List.mem_filterMap.2 ⟨.tmp k,by simpa using hx,rfl⟩))
  cases hg:o.guard with
  | none=>
   rw[hg] at h
   obtain ⟨x,upd,e1,e2,e3⟩:=go h
   refine ⟨x,upd,e1,e2,fun en hs hh=> ?_⟩
   unfold g9
   simp only[hd,cond_true,hg]
   exact e3 en hs hh
  | some gw=>
   obtain ⟨g,want⟩:=gw
   rw[hg] at h
   simp only at h
   cases mc:(ops[g]?).bind (·.dst) with
   | none=>rw[mc] at h;cases h
   | some d=>
    rw[mc] at h
    simp only at h
    have Ks:d∈o.looksAt ops:=List.mem_append_right _ (by rw[hg];simp[mc])
    cases mR:lP (st.sl d) with
    | none=>rw[mR] at h;cases h
    | some ob=>
    rw[mR] at h
    cases ob with
    | none=>
     injection h with h
     injection h with h3 h4
     injection h4 with h5 h6
     subst h5;subst h6
     refine ⟨.bq [],[],h3.symm,rfl,fun en hs hh=> ?_⟩
     unfold g9
     simp only[hd,cond_true,hg,mc,hs d Ks,mR]
     exact ⟨rfl,rfl⟩
    | some b=>
    simp only at h
    cases hb:b==want with
    | true=>
     rw[hb] at h
     obtain ⟨x,upd,e1,e2,e3⟩:=go h
     refine ⟨x,upd,e1,e2,fun en hs hh=> ?_⟩
     unfold g9
     simp only[hd,cond_true,hg,mc,hs d Ks,mR,hb]
     exact e3 en hs hh
    | false=>
     rw[hb] at h
     simp only[cond_false] at h
     injection h with h
     injection h with h3 h4
     injection h4 with h5 h6
     subst h5;subst h6
     refine ⟨.bq [],[],h3.symm,rfl,fun en hs hh=> ?_⟩
     unfold g9
     simp only[hd,cond_true,hg,mc,hs d Ks,mR,hb,cond_false]
     exact ⟨rfl,rfl⟩
theorem QZ {sl:Nat→V} {d:Option Nat} {x:V} {k:Nat} (h:d≠some k):iz sl d x k=sl k:=by
 cases d with
 | none=>rfl
 | some d=>exact ey _ _ fun e=>h (by rw[e])
theorem abe {hp:Nat→Option an} {a b:List (Nat × an)} (h: ∀q∈a,∀q'∈b,q.1≠q'.1):bR (bR hp a) b=bR (bR hp b) a:=by
 funext id
 by_cases ha: ∃q∈a,q.1=id
 ·have hb: ∀q∈b,q.1≠id:=by
   obtain ⟨q,hq,rfl⟩:=ha
   exact fun q' A8 e=>h q hq q' A8 e.symm
  rw[xw hb]
  obtain ⟨q,hq,rfl⟩:=ha
  have same: ∀(bu gu:Nat→Option an) (l:List (Nat × an)) (q:Nat × an),q∈l→bR bu l q.1=bR gu l q.1:=by
   intro bu gu l
   induction l with
   | nil=>intro q hq;simp at hq
   | cons p l ih=>
    intro q hq
    simp only[bR,aK]
    cases hb:Nat.beq q.1 p.1 with
    | true=>rfl
    | false=>
     simp only[cond_false]
     refine ih q ((dG.1 hq).resolve_left fun e=> ?_)
     rw[e,jI] at hb;cases hb
  exact same _ _ a q hq
 ·rw[xw (hp:=bR hp b) (l:=a) fun q hq e=>ha ⟨q,hq,e⟩]
  have same: ∀(bu gu:Nat→Option an) (l:List (Nat × an)),bu id=gu id→bR bu l id=bR gu l id:=by
   intro bu gu l he
   induction l with
   | nil=>exact he
   | cons p l ih=>
    simp only[bR,aK]
    cases hb:Nat.beq id p.1 with
    | true=>rfl
    | false=>exact ih
  exact same _ _ b (xw fun q hq e=>ha ⟨q,hq,e⟩)
structure Q0 (ops:Array Oper) (o1 o2:Oper) (R1 W1 R2 W2:List Nat):Prop where
 apart:Oper.apart ops o1 o2=true
 w: ∀id∈W1,id∉R2∧id∉W2
 r: ∀id∈R1,id∉W2
theorem abf {n i j nb:Nat} {ops:Array Oper} {o1 o2:Oper} {st jk en:St} {R1 W1 R2 W2:List Nat} (h1:g9 P A C n ops i o1 nb st=some (jk,R1,W1)) (U:g9 P A C n ops j o2 nb jk=some (en,R2,W2))
  (hi:Q0 ops o1 o2 R1 W1 R2 W2): ∃Fo,g9 P A C n ops j o2 nb st=some (Fo,R2,W2)∧g9 P A C n ops i o1 nb Fo=some (en,R1,W1):=by
 obtain ⟨x1,u1,e1,f1,g1⟩:=QY h1
 obtain ⟨x2,u2,e2,f2,g2⟩:=QY U
 obtain ⟨a1,a2,a3⟩:=Oper.apart_spec hi.apart
 subst e1
 have k2:=g2 st (fun d hd=>by simp only;rw[QZ fun e=>a1 d e hd]) fun c hc=>(QX fun hw=>(hi.w c (by rw[f1];exact hw)).1 hc).symm
 refine ⟨_,k2.1,?_⟩
 rw[(g1 _ (fun d hd=> ?_) (fun c hd=> ?_)).1,e2]
 ·congr 3
  ·funext k
   cases Fp:o1.dst with
   | none=>rfl
   | some d1=>
    cases ja:o2.dst with
    | none=>rfl
    | some d2=>
     have bH:d2≠d1:=fun e=>a2 d1 Fp (by rw[ja,e])
     simp only[iz,aK]
     cases Q1:Nat.beq k d1<;>cases mS:Nat.beq k d2<;>simp only[cond_true,cond_false]
     rw[a9] at Q1 mS
     exact absurd (mS.symm.trans Q1) bH
  ·exact (abe fun q hq q' A8 e=>(hi.w q.1 (by rw[f1];exact Kr hq)).2 (by rw[f2,e];exact Kr A8)).symm
 ·simp only
  rw[QZ fun e=>a3 d e hd]
 ·exact QX fun hw=>hi.r c hd (by rw[k2.2];exact hw)
def xz (P:Program) (A:cS) (C:ae) (n:Nat) (ops:Array Oper) (nb:Nat):List (Nat × Oper × List Nat × List Nat)→St→St→Prop
 | [],st,st'=>st=st'
 | (i,o,R,W)::l,st,st'=> ∃jk,g9 P A C n ops i o nb st=some (jk,R,W)∧xz P A C n ops nb l jk st'
def uV (x:Nat × Oper × List Nat × List Nat):Nat × List Nat × List Nat:=(x.1,x.2.2.1,x.2.2.2)
theorem Q2 {n nb:Nat} {ops:Array Oper}: ∀{l:List (Nat × Oper)} {st st':St} {log Fq:Log},pN P A C n ops nb l st log=some (st',Fq)→
  ∃g,g.map (fun x=>(x.1,x.2.1))=l∧Fq=log++g.map uV∧xz P A C n ops nb g st st'
 | [],st,st',log,Fq,h=>by
  cases h
  exact ⟨[],rfl,by simp,rfl⟩
 | (i,o)::l,st,st',log,Fq,h=>by
  obtain ⟨⟨jk,R,W⟩,h1,U⟩:=bind_some h
  obtain ⟨g,a,b,c⟩:=Q2 U
  exact ⟨(i,o,R,W)::g,by simp[a],by simp[b,uV],jk,h1,c⟩
def Q3 (ops:Array Oper) (x y:Nat × Oper × List Nat × List Nat):Prop:=Q0 ops x.2.1 y.2.1 x.2.2.1 x.2.2.2 y.2.2.1 y.2.2.2
theorem Q4 {n nb:Nat} {ops:Array Oper} {y:Nat × Oper × List Nat × List Nat} {g2:List (Nat × Oper × List Nat × List Nat)}: ∀{g1:List (Nat × Oper × List Nat × List Nat)} {st st':St},
  xz P A C n ops nb (g1++y::g2) st st'→(∀x∈g1,Q3 ops x y)→∃jk,g9 P A C n ops y.1 y.2.1 nb st=some (jk,y.2.2.1,y.2.2.2)∧xz P A C n ops nb (g1++g2) jk st'
 | [],st,st',h,_=>h
 | x::g1,st,st',h,hi=>by
  obtain ⟨jk,h1,U⟩:=h
  obtain ⟨en,h3,h4⟩:=Q4 U fun z hz=>hi z (lM _ hz)
  obtain ⟨Fo,h5,h6⟩:=abf h1 h3 (hi x (by simp))
  exact ⟨Fo,h5,en,h6,h4⟩
theorem Q5 (hC:lr P A C) (hP:jh P A) {n nb:Nat} {ops:Array Oper} {Q:Exit→Act→World→Prop}: ∀{g:List (Nat × Oper × List Nat × List Nat)} {st st':St} {a:Act} {w:World} {I:Nat→Prop} {β:Nat→Option Nat},
  xz P A C n ops nb g st st'→(∀x∈g,ops[x.1]? =some x.2.1)→aF P w I β st.hp B M w0→ji P A.idle A.aE w I β n a st→
  (∀a' w' I' β',Le P w I β st.hp w' I' β' st'.hp→aF P w' I' β' st'.hp B M w0→ji P A.idle A.aE w' I' β' n a' st'→Q .normal a' w')→wpOps P ops Q (g.map (·.1)) a w
 | [],st,st',a,w,I,β,h,_,S,hA,hQ=>by
  cases h
  exact hQ a w I β (Le.refl w I β _) S hA
 | x::g,st,st',a,w,I,β,h,ho,S,hA,hQ=>by
  obtain ⟨jk,h1,U⟩:=h
  rw[cJ,wpOps_cons]
  refine QV hC hP (ho x (by simp)) S hA h1 fun a' w' I' β' k1 k2 k3=> ?_
  exact Q5 hC hP U (fun y hy=>ho y (lM _ hy)) k2 k3 fun a2 w2 I2 cj m1 m2 m3=>hQ a2 w2 I2 cj (k1.trans m1) m2 m3
end
section
variable {P:Program} {A:cS} {w w':World} {I I' I2:Nat→Prop} {μ β β':Nat→Option Nat} {hp hp':Nat→Option an} {C:ae} {B:Nat} {M:Nat→Prop} {w0:Start}
inductive uW (ops:Array Oper):Nat→Nat→Prop
 | Q6 {i x:Nat} {o:Oper} {e:Edge}:ops[i]? =some o→e∈o.after→Region.binds .any e=true→e.on=x→uW ops i x
 | trans {i x:Nat} {o:Oper} {e:Edge}:ops[i]? =some o→e∈o.after→Region.binds .any e=true→uW ops e.on x→uW ops i x
theorem Q7 {acc:Array Nat} {x:Nat}: ∀{l:List Edge} {s:Nat},(l.foldl (fun s e=>if Region.binds .any e then s|||2^e.on|||acc.getD e.on 0 else s) s).testBit x=true→
  s.testBit x=true∨∃e∈l,Region.binds .any e=true∧(e.on=x∨(acc.getD e.on 0).testBit x=true)
 | [],s,h=> .inl h
 | e::l,s,h=>by
  simp only[List.foldl_cons] at h
  rcases Q7 h with h1|⟨e',a,b⟩
  ·by_cases hb:Region.binds .any e=true
   ·rw[aj hb,Nat.testBit_or,Nat.testBit_or,Bool.or_eq_true,Bool.or_eq_true] at h1
    rcases h1 with (h1|h1)|h1
    ·exact .inl h1
    ·rw[Nat.testBit_two_pow] at h1
     exact .inr ⟨e,by simp,hb,.inl (by simpa using h1)⟩
    ·exact .inr ⟨e,by simp,hb,.inr h1⟩
   ·rw[ai hb] at h1
    exact .inl h1
  ·exact .inr ⟨e',lM _ a,b⟩
theorem Q8 {ops:Array Oper} {x:Nat}: ∀{l:List Oper} {acc:Array Nat},(∀j o,l[j]? =some o→ops[acc.size+j]? =some o)→(∀j,(acc.getD j 0).testBit x=true→uW ops j x)→
  ∀j,((l.foldl (fun acc o=>acc.push (o.after.foldl (fun s e=>if Region.binds .any e then s|||2^e.on|||acc.getD e.on 0 else s) 0)) acc).getD j 0).testBit x=true→uW ops j x
 | [],acc,_,Fs,j,h=>Fs j h
 | o::l,acc,hl,Fs,j,h=>by
  simp only[List.foldl_cons] at h
  refine Q8 (l:=l) ?_ ?_ j h
  ·intro j o' hj
   have:=hl (j+1) o' (by simpa using hj)
   rw[Array.size_push]
   rwa [show acc.size+1+j=acc.size+(j+1) by omega]
  ·intro k hk
   simp only[wz,Array.getElem?_push] at hk
   by_cases bd:k=acc.size
   ·rw[aj bd] at hk
    simp only[Option.getD_some] at hk
    rw[←DO] at hk
    have ho:=hl 0 o rfl
    rw[Nat.add_zero] at ho
    rw[bd]
    have mS:(o.after.toList.foldl (fun s e=>if Region.binds .any e then s|||2^e.on|||acc.getD e.on 0 else s) 0).testBit x=true:=by simpa[wz] using hk
    rcases Q7 mS with h0|⟨e,he,hb,h1⟩
    ·simp at h0
    ·rcases h1 with h1|h1
     ·exact .Q6 ho (pE.1 he) hb h1
     ·exact .trans ho (pE.1 he) hb (Fs _ h1)
   ·rw[ai bd] at hk
    exact Fs k (by simpa[wz] using hk)
theorem abg {ops:Array Oper} {i x:Nat} (h:((Region.before ops).getD i 0).testBit x=true):uW ops i x:=by
 unfold Region.before at h
 rw[←DO] at h
 refine Q8 (l:=ops.toList) (acc:= #[]) (fun j o hj=>by simpa using hj) (fun j hj=>by simp at hj) i h
def Q9 (ops:Array Oper) (gd:Array Bool):Prop:= ∀i o,ops[i]? =some o→gd.getD i false=true→∀e∈o.after,Region.binds .any e=true→gd.getD e.on false=true
theorem abh {ops:Array Oper} {gd:Array Bool} (hc:Q9 ops gd) {i x:Nat} (h:uW ops i x) (hi: ∀o,ops[i]? =some o→∀e∈o.after,Region.binds .any e=true→gd.getD e.on false=true):gd.getD x false=true:=by
 induction h with
 | Q6 ho he hb hx=>rw[←hx];exact hi _ ho _ he hb
 | trans ho he hb _ ih=>exact ih fun o' jz e' hY aB=>hc _ o' jz (hi _ ho _ he hb) e' hY aB
theorem Ra: ∀{l:List Oper} {k j:Nat} {o:Oper},Ai k l=true→l[j]? =some o→∀e∈o.after,Region.binds .any e=true→e.on<k+j
 | [],k,j,o,_,h=>by simp at h
 | o'::l,k,j,o,hk,h=>by
  simp only[Ai,aP] at hk
  cases j with
  | zero=>
   simp at h
   subst h
   intro e he hb
   have:=fH.1 hk.1 e (pE.2 he)
   simp[hb] at this
   omega
  | succ j=>
   intro e he hb
   have:=Ra hk.2 (j:=j) (by simpa using h) e he hb
   omega
theorem Rb {ops:Array Oper} {uh:Array Nat}: ∀{l:Log},Eh ops uh l=true→l.Pairwise fun x y=>Ah ops uh x y=true
 | [],_=> .nil
 | x::l,h=>by
  simp only[Eh,aP] at h
  exact .cons (fun y hy=>fH.1 h.1 y hy) (Rb h.2)
theorem Rc {gd:Array Bool} {i:Nat} (h:gd.getD i true=false):i<gd.size∧gd.getD i false=false:=by
 rcases pB i gd.size with h'|h'
 ·refine ⟨h',?_⟩
  simpa[h'] using h
 ·simp[Array.getElem?_eq_none h'] at h
theorem Re (hC:lr P A C) (hP:jh P A) {n nb:Nat} {ops:Array Oper} {Q:Exit→Act→World→Prop} (Ft:Ai 0 ops.toList=true):
  ∀(fuel:Nat) {g:List (Nat × Oper × List Nat × List Nat)} {gd:Array Bool} {st st':St} {a:Act} {w:World} {I:Nat→Prop} {β:Nat→Option Nat},
  g.length=fuel→xz P A C n ops nb g st st'→(∀x∈g,ops[x.1]? =some x.2.1)→(g.map (·.1)).Pairwise (· < ·)→(g.map uV).Pairwise (fun x y=>Ah ops (Region.before ops) x y=true)→
  gd.size=ops.size→(∀i,i<ops.size→(gd.getD i false=false↔i∈g.map (·.1)))→Q9 ops gd→
  aF P w I β st.hp B M w0→ji P A.idle A.aE w I β n a st→
  (∀a' w' I' β',Le P w I β st.hp w' I' β' st'.hp→aF P w' I' β' st'.hp B M w0→ji P A.idle A.aE w' I' β' n a' st'→Q .normal a' w')→wpAny P .any ops Q fuel gd a w
 | 0,g,gd,st,st',a,w,I,β,hf,hr,ho,aO,Fu,bh,uX,lp,S,hA,hQ=>by
  obtain rfl:g=[]:=lL hf
  cases hr
  refine ⟨?_,hQ a w I β (Le.refl w I β _) S hA⟩
  rw[List.eq_nil_iff_forall_not_mem]
  intro i hi
  obtain ⟨h0,_⟩:=mem_ready.1 hi
  obtain ⟨h1,U⟩:=Rc h0
  have:=(uX i (by omega)).1 U
  simp at this
 | fuel+1,g,gd,st,st',a,w,I,β,hf,hr,ho,aO,Fu,bh,uX,lp,S,hA,hQ=>by
  refine ⟨fun Ba=> ?_,fun i hi=> ?_⟩
  ·exfalso
   cases g with
   | nil=>simp at hf
   | cons x g=>
    have hx:=ho x (by simp)
    have gN:x.1<ops.size:=(iv.1 hx).1
    have lZ:x.1∈Region.ready .any ops gd:=by
     rw[mem_ready]
     have h0:=(uX x.1 gN).2 (by simp)
     refine ⟨?_,x.2.1,hx,fun e he hb=> ?_⟩
     ·have hl:x.1<gd.size:=by omega
      simpa[hl] using h0
     ·have JM:=Ra Ft (j:=x.1) (by simpa using hx) e he hb
      rw[gY] at JM
      cases hle:gd.getD e.on false with
      | true=>rfl
      | false=>
       have hm:=(uX e.on (by omega)).1 hle
       simp only[cJ,dG] at hm
       rw[cJ,tW] at aO
       rcases hm with hm|hm
       ·omega
       ·have:=aO.1 _ hm;omega
    rw[Ba] at lZ
    cases lZ
  ·obtain ⟨h0,oi,Bc,Rf⟩:=mem_ready.1 hi
   obtain ⟨h1,U⟩:=Rc h0
   have hig:=(uX i (by omega)).1 U
   obtain ⟨y,hy,hyi⟩:=gG.1 hig
   obtain ⟨g1,g2,rfl⟩:=List.append_of_mem hy
   subst hyi
   have Rg:=ho y hy
   rw[Bc] at Rg
   have Rh:oi=y.2.1:=dv Rg
   have jg:((g1++y::g2).map (·.1)).Nodup:=aO.imp fun h=>Nat.ne_of_lt h
   have abi: ∀x∈g1,Q3 ops x y:=by
    intro x hx
    have hp:Ah ops (Region.before ops) (uV x) (uV y)=true:=by
     rw[eD,cJ,List.pairwise_append] at Fu
     exact Fu.2.2 _ (gG.2 ⟨x,hx,rfl⟩) _ (by simp)
    have Kt:=ho x (eN.2 (.inl hx))
    unfold Ah at hp
    rw[Bool.or_eq_true] at hp
    rcases hp with hp|hp
    ·have hl:=abh lp (abg hp) fun o jz e he hb=>by
      have:o=oi:=by
       have h3:ops[y.1]? =some o:=jz
       rw[Bc] at h3
       exact (dv h3).symm
      subst this
      exact Rf e he hb
     have gN:x.1<ops.size:=(iv.1 Kt).1
     have:=(uX x.1 gN).2 (gG.2 ⟨x,eN.2 (.inl hx),rfl⟩)
     rw[show (uV x).1=x.1 from rfl,this] at hl
     cases hl
    ·simp only[uV,wz,Kt,Bc,Option.getD_some,aP,mw] at hp
     obtain ⟨q1,q2,q3⟩:=hp
     refine ⟨Rh▸q1,fun id ab=> ?_,fun id ab=>Fg q3 ab⟩
     have:=Fg q2 ab
     rw[eN] at this
     exact ⟨fun h=>this (.inl h),fun h=>this (.inr h)⟩
   obtain ⟨jk,iY,nM⟩:=Q4 hr abi
   rw[←Rh] at iY
   refine QV hC hP Bc S hA iY fun a' w' I' β' k1 k2 k3=> ?_
   have kH:List.Sublist (g1++g2) (g1++y::g2):=List.Sublist.append_left (List.sublist_cons_self y g2) g1
   have uj: ∀j,j≠y.1→(gd.setIfInBounds y.1 true).getD j false=gd.getD j false:=fun j hj=>getD_set_ne false (Ne.symm hj)
   refine Re hC hP Ft fuel (g:=g1++g2) (st':=st') ?_ nM (fun x hx=>ho x (kH.subset hx)) (aO.sublist (kH.map _)) (Fu.sublist (kH.map _)) (by simp[bh]) (fun j hj=> ?_) (fun j o Ku cz e he hb=> ?_) k2 k3 fun a2 w2 I2 cj m1 m2 m3=>hQ a2 w2 I2 cj (k1.trans m1) m2 m3
   ·simp at hf⊢;omega
   ·by_cases pV:j=y.1
    ·subst pV
     have hl:y.1<gd.size:=by omega
     simp only[wz,IE hl,Option.getD_some]
     refine ⟨fun h=>(by cases h),fun h=> ?_⟩
     exfalso
     rw[eD,cJ,wA,List.nodup_cons] at jg
     rw[eD,eN] at h
     rcases h with h|h
     ·exact jg.2.2 _ h _ (by simp) rfl
     ·exact jg.2.1.1 h
    ·rw[uj j pV,uX j hj]
     simp only[eD,cJ,eN,dG]
     constructor
     ·rintro (h|h|h)
      ·exact .inl h
      ·exact absurd h pV
      ·exact .inr h
     ·rintro (h|h)
      ·exact .inl h
      ·exact .inr (.inr h)
   ·by_cases pV:j=y.1
    ·subst pV
     rw[Bc] at Ku
     cases Ku
     exact getD_set_true (Rf e he hb)
    ·rw[uj j pV] at cz
     exact getD_set_true (lp j o Ku cz e he hb)
end
section
variable {P:Program} {A:cS} {w w':World} {I I' I2:Nat→Prop} {μ β β':Nat→Option Nat} {hp hp':Nat→Option an} {C:ae} {B:Nat} {M:Nat→Prop} {w0:Start}
theorem Ri: ∀{l:List Oper} {k j:Nat},(oK k l)[j]? =(l[j]?).map fun o=>(k+j,o)
 | [],k,j=>by simp[oK]
 | o::l,k,0=>by simp[oK]
 | o::l,k,j+1=>by
  simp only[oK,List.getElem?_cons_succ,Ri]
  congr 1
  funext o
  rw[show k+1+j=k+(j+1) by omega]
theorem Rj: ∀{l:List Oper} {k:Nat},(oK k l).map (·.1)=List.range' k l.length
 | [],k=>rfl
 | o::l,k=>by simp[oK,Rj,List.range'_succ]
theorem abj (hC:lr P A C) (hP:jh P A) (hm:P.follows .mixedOrders=true) {n id:Nat} {ops:Array Oper} {draw:Bool} {st st':St} {a:Act} {Q:Exit→Act→World→Prop}
  (h:Ak P A C n ops draw st=some st') (S:aF P w I β st.hp B M w0) (hA:ji P A.idle A.aE w I β n a st)
  (hQ: ∀a' w' I' β',Le P w I β st.hp w' I' β' st'.hp→aF P w' I' β' st'.hp B M w0→ji P A.idle A.aE w' I' β' n a' st'→Q .normal a' w'):(Code.region id ops draw).wp P Q a w:=by
 obtain ⟨⟨jk,log⟩,h1,U⟩:=bind_some h
 obtain ⟨g,g1,g2,g3⟩:=Q2 h1
 have Fv:g.map (·.1)=List.range ops.size:=by
  have:g.map (·.1)=(g.map fun x=>(x.1,x.2.1)).map (·.1):=by simp
  rw[this,g1,Rj,List.range_eq_range']
  simp
 have Rk: ∀x∈g,ops[x.1]? =some x.2.1:=by
  intro x hx
  have:(x.1,x.2.1)∈oK 0 ops.toList:=by rw[←g1];exact gG.2 ⟨x,hx,rfl⟩
  obtain ⟨j,hj⟩:=List.mem_iff_getElem?.1 this
  rw[Ri] at hj
  cases ho:ops.toList[j]? with
  | none=>rw[ho] at hj;cases hj
  | some o=>
   rw[ho] at hj
   simp only[Option.map_some,gY,eh,kp] at hj
   rw[←hj.1,←hj.2]
   simpa using ho
 cases draw with
 | false=>
  simp only[tX,Bool.true_or,cond_true] at U
  cases U
  refine wp_region ?_
  rw[←Fv]
  exact Q5 hC hP g3 Rk S hA hQ
 | true=>
  simp only[qA,Bool.false_or] at U
  cases hc:(Region.noSelect ops&&Aj ops log) with
  | false=>rw[hc] at U;cases U
  | true=>
   rw[hc] at U
   cases U
   simp only[aP,Aj] at hc
   obtain ⟨hns,Ft,abk⟩:=hc
   simp only[List.nil_append] at g2
   refine wp_region_any hm ?_
   have hlen:g.length=ops.size:=by
    have:=congrArg List.length Fv
    simpa using this
   refine Re hC hP Ft ops.size (g:=g) (st':=st') hlen g3 Rk (by rw[Fv];exact List.pairwise_lt_range) (by rw[←g2];exact Rb abk) (by simp) (fun i hi=> ?_) (fun i o ho hl=> ?_)
    (w:=w.drew) S.drew ⟨fun k=>(hA.sl k).mono (Le.drew w I β _),hA.size,hA.defers,hA.aE.mono (Le.drew (P:=P) w I β st.hp).dC (Le.drew (P:=P) w I β st.hp).cy⟩ fun a' w' I' β' k1 k2 k3=>hQ a' w' I' β' ((Le.drew w I β _).trans k1) k2 k3
   ·rw[Fv]
    simp[hi]
   ·have hi:=(iv.1 ho).1
    simp[hi] at hl
end
section
variable {P:Program} {A:cS} {E:FuncId→Bool} {G:Nat→V} {w w':World} {I I' I2:Nat→Prop} {μ β β':Nat→Option Nat} {hp hp':Nat→Option an} {C:ae} {B:Nat} {M:Nat→Prop} {w0:Start}
theorem uY: ∀{l:List Nat} {hp:Nat→Option an} {I:Nat→Prop},aF P w I β hp B M w0→∃I',Le P w I β hp w I' β (ug hp l)∧aF P w I' β (ug hp l) B M w0
 | [],hp,I,S=>⟨I,Le.refl w I β hp,S⟩
 | id::l,hp,I,S=>by
  simp only[ug]
  cases ab:hp id with
  | none=>exact uY S
  | some blk=>
   cases blk with
   | dead=>exact uY S
   | var _=>exact uY S
   | map _ _=>exact uY S
   | arr e es fz=>
    obtain ⟨h1,U⟩:=Av S (upd:=[(id,.arr e es true)]) (fun p hp=>by
     simp only[eC] at hp
     subst hp
     exact ⟨e,es,rfl,.inl ⟨fz,ab⟩⟩)
    obtain ⟨I',h3,h4⟩:=uY (l:=l) U
    exact ⟨I',h1.trans h3,h4⟩
   | nest e es ar=>
    obtain ⟨h1,U⟩:=Av S (upd:=[(id,.arr e es true)]) (fun p hp=>by
     simp only[eC] at hp
     subst hp
     exact ⟨e,es,rfl,.inr ⟨ar,ab⟩⟩)
    obtain ⟨I',h3,h4⟩:=uY (l:=l) U
    exact ⟨I',h1.trans h3,h4⟩
theorem Rl {n m:Nat} {pur:List Nat} {a:Act} {st:St} (S:aF P w I β st.hp B M w0) (hA:ji P E G w I β n a st):
  ∃I',Le P w I β st.hp w I' β (freeze m pur st).hp∧aF P w I' β (freeze m pur st).hp B M w0∧ji P E G w I' β n a (freeze m pur st):=by
 obtain ⟨I',h1,U⟩:=uY (l:=(OR st pur).filter fun id=>Nat.ble m id) S
 exact ⟨I',h1,U,fun k=>(hA.sl k).mono h1,hA.size,hA.defers,hA.aE.mono h1.dC h1.cy⟩
structure xA (hp:Nat→Option an) (β:Nat→Option Nat) (ord:List Nat) (hp':Nat→Option an) (β':Nat→Option Nat):Prop where
 arr: ∀(j:Nat) id e es fz,ord[j]? =some id→hp id=some (.arr e es fz)→hp' j=some (.arr e es fz)
 var: ∀(j:Nat) id T cs,ord[j]? =some id→hp id=some (.var T cs)→∃iH,hp' j=some (.var T iH)
 dead: ∀(j:Nat) id,ord[j]? =some id→hp id=some .dead→hp' j=some .dead
 place: ∀(j:Nat) id,ord[j]? =some id→β' j=β id
 nest: ∀(j:Nat) id e es ar,ord[j]? =some id→hp id=some (.nest e es ar)→hp' j=some (.nest e es (ar.map fun _=>0))
 map: ∀(j:Nat) id t es,ord[j]? =some id→hp id=some (.map t es)→hp' j=some (.map t es)
theorem me: ∀{l:List Nat} {n i j:Nat},iA l n i=some j→∃k,j=i+k∧l[k]? =some n
 | [],n,i,j,h=>by cases h
 | a::l,n,i,j,h=>by
  simp only[iA] at h
  cases hb:Nat.beq n a with
  | true=>
   rw[hb] at h
   cases h
   rw[a9] at hb
   exact ⟨0,rfl,by rw[hb];rfl⟩
  | false=>
   rw[hb] at h
   obtain ⟨k,h1,U⟩:=me h
   exact ⟨k+1,by omega,by simpa using U⟩
def lu (hp':Nat→Option an) (β':Nat→Option Nat) (n:Nat) (bs:List an):Prop:=
 ∀(k:Nat) b,bs[k]? =some b→hp' (n+k)=some b∧β' (n+k)=none
theorem Kv: ∀(ar:List Nat) (k:Nat),bK (ar.map fun _=>0) k=0
 | [],_=>rfl
 | _::_,0=>rfl
 | _::vs,k+1=>Kv vs k
theorem Rm {e:TypeId} {es:List V} {ar:List Nat} {path:Path} {ver:Nat} (hc:(Nat.blt 0 path.length&&(Nat.ble path.length ar.length&&Nat.beq (bK ar (path.length-1)) ver))=true)
  (h:(an.nest e es ar).uk path ver):False:=by
 simp only[aP,ko,dh,a9] at hc
 obtain ⟨h1,U,h3⟩:=hc
 rcases h with h|h|h
 ·subst h;simp at h1
 ·omega
 ·omega
theorem Rn (S:aF P w I β hp B M w0) {ord:List Nat} (hR:xA hp β ord hp' β') {v:Value} {x:V} (hv:ao P w I β hp v x):ao P w I β' hp' v (iB hp ord x):=by
 cases hv with
 | undef=>exact .undef
 | int=>exact .int
 | bool=>exact .bool
 | str h=>exact .str h
 | list h=>exact .list h
 | nilS=>exact .nilS
 | agg=>exact .undef
 | bq=>exact .undef
 | dB=>exact .dB
 | fn=>exact .undef
 | pref a b c=>exact .pref a b c
 | @eu _ e id ab=>
  simp only[iB]
  cases bu:iA ord id 0 with
  | none=>simp only[ab];exact .undef
  | some j=>
   obtain ⟨k,rfl,hk⟩:=me bu
   exact .eu (hR.dead _ id (by simpa using hk) ab)
 | @gp _ e id off len ab=>
  simp only[iB]
  cases bu:iA ord id 0 with
  | none=>simp only[ab];exact .undef
  | some j=>
   obtain ⟨k,rfl,hk⟩:=me bu
   exact .gp (hR.dead _ id (by simpa using hk) ab)
 | @kD _ id i c ab=>
  simp only[iB]
  cases bu:iA ord id 0 with
  | none=>exact .undef
  | some j=>
   obtain ⟨k,rfl,hk⟩:=me bu
   exact .kD (hR.dead _ id (by simpa using hk) ab)
 | @dO e id fz _ ab hb=>
  simp only[iB]
  cases bu:iA ord id 0 with
  | none=>
   simp only[ab]
   cases fz with
   | false=>exact .undef
   | true=>simp only[jI,cond_true];exact .list (.any fun _=>rfl)
  | some j=>
   obtain ⟨k,rfl,hk⟩:=me bu
   have dw:ord[0+k]? =some id:=by simpa using hk
   exact .dO (hR.arr _ id _ _ _ dw ab) ((hR.place _ id dw).trans hb)
 | @whole e id es fz b cap ab hb bh cp hm=>
  simp only[iB]
  cases bu:iA ord id 0 with
  | none=>
   simp only[ab]
   cases fz with
   | false=>exact .undef
   | true=>
    simp only[jI,cond_true]
    have hr:=S.h.rel id _ ab
    cases hr with
    | dP aB=>rw[aB] at hb;cases hb
    | arr au aB hh hs hf ew hx=>
     rw[hb] at aB;cases aB
     have:=uu (I':=I) (off:=0) (len:=es.length) (o:=0) hh hx (fN au) (by omega) cp (fun _=>by simp) (fun _ h=>h) (hf rfl)
     exact .list (by simpa using this)
  | some j=>
   obtain ⟨k,rfl,hk⟩:=me bu
   have dw:ord[0+k]? =some id:=by simpa using hk
   exact .whole (hR.arr _ id _ _ _ dw ab) ((hR.place _ id dw).trans hb) bh cp hm
 | @ga e id fz _ ab hb=>
  simp only[iB]
  cases bu:iA ord id 0 with
  | none=>
   simp only[ab]
   cases fz with
   | false=>exact .undef
   | true=>simp only[jI,cond_true];exact .list (by simpa using (iW.any (P:=P) fun _=>rfl))
  | some j=>
   obtain ⟨k,rfl,hk⟩:=me bu
   have dw:ord[0+k]? =some id:=by simpa using hk
   exact .ga (hR.arr _ id _ _ _ dw ab) ((hR.place _ id dw).trans hb)
 | @sub e id off len es fz b o cap ab hb lh cp ho=>
  simp only[iB]
  cases bu:iA ord id 0 with
  | none=>
   simp only[ab]
   cases fz with
   | false=>exact .undef
   | true=>
    simp only[jI,cond_true]
    have hr:=S.h.rel id _ ab
    cases hr with
    | dP aB=>rw[aB] at hb;cases hb
    | arr au aB hh hs hf ew hx=>
     rw[hb] at aB;cases aB
     exact .list (uu (I':=I) hh hx (fN au) lh cp ho (fun _ h=>h) (hf rfl))
  | some j=>
   obtain ⟨k,rfl,hk⟩:=me bu
   have dw:ord[0+k]? =some id:=by simpa using hk
   exact .sub (hR.arr _ id _ _ _ dw ab) ((hR.place _ id dw).trans hb) lh cp ho
 | @ptr id i c b blk ab hd hb=>
  simp only[iB]
  cases bu:iA ord id 0 with
  | none=>exact .undef
  | some j=>
   obtain ⟨k,rfl,hk⟩:=me bu
   have dw:ord[0+k]? =some id:=by simpa using hk
   cases blk with
   | dead=>exact absurd rfl hd
   | var T0 cs=>
    obtain ⟨iH,h'⟩:=hR.var _ id T0 cs dw ab
    exact .ptr (blk:= .var T0 iH) h' (by simp) ((hR.place _ id dw).trans hb)
   | arr e es fz=>exact .ptr (blk:= .arr e es fz) (hR.arr _ id _ _ _ dw ab) (by simp) ((hR.place _ id dw).trans hb)
   | nest e es ar=>exact .ptr (blk:= .nest e es (ar.map fun _=>0)) (hR.nest _ id _ _ _ dw ab) (by simp) ((hR.place _ id dw).trans hb)
   | map t es=>exact .ptr (blk:= .map t es) (hR.map _ id _ _ dw ab) (by simp) ((hR.place _ id dw).trans hb)
 | dJ=>exact .dJ
 | @iE _ t id ab=>
  simp only[iB]
  cases bu:iA ord id 0 with
  | none=>exact .undef
  | some j=>
   obtain ⟨k,rfl,hk⟩:=me bu
   exact .iE (hR.dead _ id (by simpa using hk) ab)
 | @cG t id b es ab hb=>
  simp only[iB]
  cases bu:iA ord id 0 with
  | none=>exact .undef
  | some j=>
   obtain ⟨k,rfl,hk⟩:=me bu
   have dw:ord[0+k]? =some id:=by simpa using hk
   exact .cG (hR.map _ id _ _ dw ab) ((hR.place _ id dw).trans hb)
 | @eG e id es ar b cap ab hb bh cp hm=>
  simp only[iB]
  cases bu:iA ord id 0 with
  | none=>simp only[ab];exact .undef
  | some j=>
   obtain ⟨k,rfl,hk⟩:=me bu
   have dw:ord[0+k]? =some id:=by simpa using hk
   exact .eG (hR.nest _ id _ _ _ dw ab) ((hR.place _ id dw).trans hb) bh cp hm
 | @jN v e id ver path blk ab As=>
  simp only[iB]
  split
  ·rename_i j e1 cC ar h1 U
   rw[ab] at U
   cases U
   cases hc:(Nat.blt 0 path.length&&(Nat.ble path.length ar.length&&Nat.beq (bK ar (path.length-1)) ver)) with
   | false=>exact .undef
   | true=>exact (Rm hc As).elim
  ·exact .undef
 | @jO v id ver i c path blk ab As=>
  simp only[iB]
  split
  ·rename_i j e1 cC ar h1 U
   rw[ab] at U
   cases U
   cases hc:(Nat.blt 0 path.length&&(Nat.ble path.length ar.length&&Nat.beq (bK ar (path.length-1)) ver)) with
   | false=>exact .undef
   | true=>exact (Rm hc As).elim
  ·exact .undef
 | @row v e e0 t id ver b i c q es l ar ab hb hq hv ht hc=>
  simp only[iB]
  split
  ·rename_i j e1 cC uS h1 U
   obtain ⟨k,rfl,hk⟩:=me h1
   have dw:ord[0+k]? =some id:=by simpa using hk
   cases hx:(Nat.blt 0 (q++[(i,c)]).length&&(Nat.ble (q++[(i,c)]).length uS.length&&Nat.beq (bK uS ((q++[(i,c)]).length-1)) ver)) with
   | false=>exact .undef
   | true=>exact .row (hR.nest _ id _ _ _ dw ab) ((hR.place _ id dw).trans hb) (by simpa using hq) (Kv _ _) ht hc
  ·exact .undef
 | @cR e e0 t id ver b b1 len cap i0 c0 i c q es l ar ab hb hq hv ht jQ hc=>
  simp only[iB]
  split
  ·rename_i j e1 cC uS h1 U
   obtain ⟨k,rfl,hk⟩:=me h1
   have dw:ord[0+k]? =some id:=by simpa using hk
   cases hx:(Nat.blt 0 (q++[(i0,c0)]).length&&(Nat.ble (q++[(i0,c0)]).length uS.length&&Nat.beq (bK uS ((q++[(i0,c0)]).length-1)) ver)) with
   | false=>exact .undef
   | true=>exact .cR (hR.nest _ id _ _ _ dw ab) ((hR.place _ id dw).trans hb) (by simpa using hq) (Kv _ _) ht jQ hc
  ·exact .undef
theorem Ro (S:aF P w I β hp B M w0) {ord:List Nat} (hR:xA hp β ord hp' β') {vs:Array Value} {xs:List V} (h: ∀(j:Nat) v x,vs[j]? =some v→xs[j]? =some x→ao P w I β hp v x) (j:Nat) (v:Value) (y:V)
  (hv:vs[j]? =some v) (hy:(xs.map (iB hp ord))[j]? =some y):ao P w I β' hp' v y:=by
 rw[fI] at hy
 cases hx:xs[j]? with
 | none=>rw[hx] at hy;cases hy
 | some x=>rw[hx] at hy;cases hy;exact Rn S hR (h j v x hv hx)
theorem Rp (S:aF P w I β hp B M w0) {ord:List Nat} (hR:xA hp β ord hp' β') {n:Nat} {v:Value} {x:V} (hv:ao P w I β hp v x) (hF:lu hp' β' n (wQ hp ord n x).2):
  ao P w I β' hp' v (wQ hp ord n x).1:=by
 cases x with
 | nilS e=>
  obtain ⟨h1,U⟩:=hF 0 _ rfl
  cases hv with
  | nilS=>exact .dO h1 U
 | fn f a b=>
  cases hv with
  | fn q1 q2 q3 q4=>exact .fn (by simpa using q1) (Ro S hR q2) (by simpa using q3) (Ro S hR q4)
 | _=>exact Rn S hR hv
end
section
variable {P:Program} {A:cS} {w w':World} {I I' I2:Nat→Prop} {μ β β':Nat→Option Nat} {hp hp':Nat→Option an} {C:ae} {B:Nat} {M:Nat→Prop} {w0:Start}
theorem lu.left {n:Nat} {a b:List an} (h:lu hp' β' n (a++b)):lu hp' β' n a:=fun k x hx=>
 h k x (by rw[iP (bD.1 hx).1];exact hx)
theorem lu.right {n:Nat} {a b:List an} (h:lu hp' β' n (a++b)):lu hp' β' (n+a.length) b:=fun k x hx=>by
 have:=h (a.length+k) x (by rw[iQ (by omega),Nat.add_sub_cancel_left];exact hx)
 rwa [←oz] at this
def mT (bs:List an):Prop:= ∀b∈bs,∃e,b= .arr e [] false
theorem mT.app {a b:List an} (h1:mT a) (U:mT b):mT (a++b):=fun x hx=>(eN.1 hx).elim (h1 x) (U x)
theorem mT.nil:mT []:=fun x hx=>by simp at hx
theorem Rq {ord:List Nat} {n:Nat} {x:V}:mT (wQ hp ord n x).2:=by
 cases x<;>simp only[wQ]<;>first|exact .nil|skip
 intro b hb
 simp only[eC] at hb
 exact ⟨_,hb⟩
theorem Kw {ord:List Nat}: ∀{xs:List V} {n:Nat},mT (ny hp ord n xs).2
 | [],n=> .nil
 | x::xs,n=>by
  simp only[ny]
  exact Rq.app Kw
theorem Fw {ord:List Nat}: ∀{xs:List V} {n:Nat},(ny hp ord n xs).1.length=xs.length
 | [],n=>rfl
 | x::xs,n=>by simp only[ny,List.length_cons,Fw]
theorem Fx (S:aF P w I β hp B M w0) {ord:List Nat} (hR:xA hp β ord hp' β'): ∀{xs:List V} {vs:List Value} {n:Nat},(∀(j:Nat) v x,vs[j]? =some v→xs[j]? =some x→ao P w I β hp v x)→
  lu hp' β' n (ny hp ord n xs).2→∀(j:Nat) v y,vs[j]? =some v→(ny hp ord n xs).1[j]? =some y→ao P w I β' hp' v y
 | [],vs,n,h,hF,j,v,y,hv,hy=>by simp[ny] at hy
 | x::xs,vs,n,h,hF,j,v,y,hv,hy=>by
  simp only[ny] at hF hy
  cases j with
  | zero=>
   simp at hy
   subst hy
   exact Rp S hR (h 0 v x hv rfl) hF.left
  | succ j=>
   cases vs with
   | nil=>simp at hv
   | cons v0 vs=>exact Fx S hR (vs:=vs) (fun j v x hj hx=>h (j+1) v x (by simpa using hj) (by simpa using hx)) hF.right j v y (by simpa using hv) (by simpa using hy)
theorem abl {ord:List Nat} {n:Nat} {x:V}:mT (qK hp ord n x).2:=by
 cases x<;>simp only[qK]<;>first|exact Rq|exact Kw
theorem abm (S:aF P w I β hp B M w0) {ord:List Nat} (hR:xA hp β ord hp' β') {n:Nat} {v:Value} {x:V} (hv:ao P w I β hp v x) (hF:lu hp' β' n (qK hp ord n x).2):
  ao P w I β' hp' v (qK hp ord n x).1:=by
 cases x with
 | agg cs=>
  obtain ⟨ds,rfl,h1,U⟩:=hv.ll
  simp only[qK] at hF⊢
  exact .agg (by rw[Fw];exact h1) fun j v y hj hy=>Fx S hR (vs:=ds.toList) (fun j v x hj hx=>U j v x (by simpa using hj) hx) hF j v y (by simpa using hj) hy
 | bq cs=>
  obtain ⟨ds,rfl,h1,U⟩:=hv.uy
  simp only[qK] at hF⊢
  exact .bq (by rw[Fw];exact h1) fun j v y hj hy=>Fx S hR (vs:=ds.toList) (fun j v x hj hx=>U j v x (by simpa using hj) hx) hF j v y (by simpa using hj) hy
 | _=>exact Rp S hR hv hF
theorem Rr {ord:List Nat} {sl:Nat→V}: ∀{l:List Nat} {n:Nat},mT (lT hp ord sl n l).2
 | [],n=> .nil
 | s::l,n=>by
  simp only[lT]
  exact abl.app Rr
theorem Rs {ord:List Nat} {sl:Nat→V} {k:Nat} {y:V}: ∀{l:List Nat} {n:Nat},lu hp' β' n (lT hp ord sl n l).2→dN (lT hp ord sl n l).1 k=some y→
  ∃n',lu hp' β' n' (qK hp ord n' (sl k)).2∧y=(qK hp ord n' (sl k)).1
 | [],n,_,h=>by cases h
 | s::l,n,hF,h=>by
  simp only[lT] at hF h
  simp only[dN] at h
  cases hb:Nat.beq k s with
  | true=>
   rw[hb] at h
   rw[a9] at hb
   subst hb
   cases h
   exact ⟨n,hF.left,rfl⟩
  | false=>
   rw[hb] at h
   exact Rs hF.right h
theorem abn {ord:List Nat} {n id:Nat}:mT (e7 hp ord n id).2:=by
 unfold e7
 split
 ·exact Kw
 ·exact .nil
 ·exact .nil
 ·exact .nil
 ·exact .nil
theorem Rt {ord:List Nat}: ∀{l:List Nat} {n:Nat},mT (fM hp ord n l).2
 | [],n=> .nil
 | s::l,n=>by
  simp only[fM]
  exact abn.app Rt
theorem Ru {ord:List Nat}: ∀{l:List Nat} {n:Nat},(fM hp ord n l).1.length=l.length
 | [],n=>rfl
 | x::xs,n=>by simp only[fM,List.length_cons,Ru]
theorem Rv {ord:List Nat}: ∀{l:List Nat} {n j:Nat} {id:Nat},l[j]? =some id→∃n',(lu hp' β' n (fM hp ord n l).2→lu hp' β' n' (e7 hp ord n' id).2)∧(fM hp ord n l).1[j]? =some (e7 hp ord n' id).1
 | [],n,j,id,h=>by simp at h
 | s::l,n,j,id,h=>by
  simp only[fM]
  cases j with
  | zero=>
   simp at h
   subst h
   exact ⟨n,fun hF=>hF.left,rfl⟩
  | succ j=>
   obtain ⟨n',h1,U⟩:=Rv (n:=n+(e7 hp ord n s).2.length) (j:=j) (by simpa using h)
   exact ⟨n',fun hF=>h1 hF.right,by simpa using U⟩
theorem Fy: ∀{l acc:List Nat},∃t,uf hp acc l=acc++t∧(acc.Nodup→(acc++t).Nodup)
 | [],acc=>⟨[],by simp[uf],by simp⟩
 | id::l,acc=>by
  simp only[uf]
  cases hb:(ku acc id|| !(OQ hp id)) with
  | true=>exact Fy
  | false=>
   obtain ⟨t,h1,U⟩:=Fy (l:=l) (acc:=acc++[id])
   refine ⟨id::t,by simp only[cond_false,h1,cF,List.singleton_append],fun hn=> ?_⟩
   have:acc++id::t=(acc++[id])++t:=by simp
   rw[this]
   refine U ?_
   rw[wA]
   refine ⟨hn,by simp,fun a ha b aB=> ?_⟩
   simp only[eC] at aB
   subst aB
   intro e
   subst e
   rw[xb ha] at hb
   cases hb
theorem Rw: ∀{n:Nat} {l:List Nat},∃t,grow hp n l=l++t∧(l.Nodup→(l++t).Nodup)
 | 0,l=>⟨[],by simp[grow],by simp⟩
 | n+1,l=>by
  simp only[grow]
  obtain ⟨t,h1,U⟩:=Fy (hp:=hp) (acc:=l) (l:=l.flatMap (IY hp))
  rw[h1]
  obtain ⟨t',h3,h4⟩:=Rw (n:=n) (l:=l++t)
  exact ⟨t++t',by rw[h3,cF],fun hn=>by rw[←cF];exact h4 (U hn)⟩
theorem abo {m:Nat} {live:List Nat} {st:St}: ∃t,IZ m live st=List.range m++t∧(List.range m++t).Nodup:=by
 unfold IZ
 obtain ⟨t,h1,U⟩:=Fy (hp:=st.hp) (acc:=List.range m) (l:=live.flatMap fun s=>IX (st.sl s))
 rw[h1]
 obtain ⟨t',h3,h4⟩:=Rw (hp:=st.hp) (n:=3) (l:=List.range m++t)
 exact ⟨t++t',by rw[h3,cF],by rw[←cF];exact h4 (U List.nodup_range)⟩
end
section
variable {P:Program} {A:cS} {E:FuncId→Bool} {G:Nat→V} {w w':World} {I I' I2:Nat→Prop} {μ β β':Nat→Option Nat} {hp hp' hp0:Nat→Option an} {C:ae} {B:Nat} {M:Nat→Prop} {w0:Start}
theorem Rx {n m:Nat} {ord live:List Nat} {a:Act} {st:St} (lW:ord.Nodup) (Bd: ∀id,id<m→ord[id]? =some id∨∃p,ord[id]? =some p∧st.hp p=none) (S:aF P w I β st.hp B M w0) (hA:ji P E G w I β n a st) (hE:lq w0.w w0.I μ hp0 w I β st.hp) (hm: ∀id blk,hp0 id=some blk→id<m) (jD: ∀id e es ar,hp0 id=some (.nest e es ar)→∀k,bK ar k=0):
  ∃β',aF P w I β' (wR ord live st).hp B M w0∧ji P E G w I β' n a (wR ord live st)∧lq w0.w w0.I μ hp0 w I β' (wR ord live st).hp:=by
 have abp:wR ord live st=mk (lT st.hp ord st.sl (ord.length+(fM st.hp ord ord.length ord).2.length) live).1
   ((fM st.hp ord ord.length ord).1++((fM st.hp ord ord.length ord).2++(lT st.hp ord st.sl (ord.length+(fM st.hp ord ord.length ord).2.length) live).2)):=by
  rfl
 rw[abp]
 let hp':=jL ((fM st.hp ord ord.length ord).1++((fM st.hp ord ord.length ord).2++(lT st.hp ord st.sl (ord.length+(fM st.hp ord ord.length ord).2.length) live).2))
 let β':Nat→Option Nat:=fun j=>if j<ord.length then (ord[j]?).bind β else none
 have hlen:(fM st.hp ord ord.length ord).1.length=ord.length:=Ru
 have je: ∀j,j<ord.length→hp' j=(fM st.hp ord ord.length ord).1[j]? :=by
  intro j hj
  simp only[hp',ic]
  rw[iP (by omega)]
 have ib: ∀k,hp' (ord.length+k)=((fM st.hp ord ord.length ord).2++(lT st.hp ord st.sl (ord.length+(fM st.hp ord ord.length ord).2.length) live).2)[k]? :=by
  intro k
  simp only[hp',ic]
  rw[iQ (by omega),hlen,Nat.add_sub_cancel_left]
 have hF:lu hp' β' ord.length ((fM st.hp ord ord.length ord).2++(lT st.hp ord st.sl (ord.length+(fM st.hp ord ord.length ord).2.length) live).2):=by
  intro k b hb
  refine ⟨(ib k).trans hb,?_⟩
  simp only[β']
  rw[ai (by omega)]
 have Ba:mT ((fM st.hp ord ord.length ord).2++(lT st.hp ord st.sl (ord.length+(fM st.hp ord ord.length ord).2.length) live).2):=Rt.app Rr
 have oX: ∀(j:Nat) id,ord[j]? =some id→β' j=β id:=by
  intro j id hj
  simp only[β']
  rw[aj (bD.1 hj).1,hj]
  rfl
 have rv: ∀(j:Nat) id,ord[j]? =some id→∃n',lu hp' β' n' (e7 st.hp ord n' id).2∧hp' j=some (e7 st.hp ord n' id).1:=by
  intro j id hj
  obtain ⟨n',h1,U⟩:=Rv (hp:=st.hp) (hp':=hp') (β':=β') (ord:=ord) (n:=ord.length) hj
  exact ⟨n',h1 hF.left,(je j (bD.1 hj).1).trans U⟩
 have hR:xA st.hp β ord hp' β':=by
  refine ⟨fun j id e es fz hj ab=> ?_,fun j id T cs hj ab=> ?_,fun j id hj ab=> ?_,oX,fun j id e es ar hj ab=> ?_,fun j id t es hj ab=> ?_⟩
  ·obtain ⟨n',_,U⟩:=rv j id hj
   rw[U];simp only[e7,ab]
  ·obtain ⟨n',_,U⟩:=rv j id hj
   rw[U];simp only[e7,ab];exact ⟨_,rfl⟩
  ·obtain ⟨n',_,U⟩:=rv j id hj
   rw[U];simp only[e7,ab]
  ·obtain ⟨n',_,U⟩:=rv j id hj
   rw[U];simp only[e7,ab]
  ·obtain ⟨n',_,U⟩:=rv j id hj
   rw[U];simp only[e7,ab]
 have cls: ∀j blk',hp' j=some blk'→(∃id,ord[j]? =some id∧((blk'= .dead)∨∃blk,st.hp id=some blk∧blk≠ .dead∧∀o b,bE P w o blk' b→bE P w o blk b))∨(∃e,blk'= .arr e [] false∧β' j=none):=by
  intro j blk' hj
  rcases pB j ord.length with h|h
  ·have gM:=bG h
   obtain ⟨n',_,U⟩:=rv j _ gM
   rw[hj] at U
   refine .inl ⟨_,gM,?_⟩
   cases ab:st.hp ord[j] with
   | none=>left;simp only[e7,ab] at U;exact dv U
   | some blk=>
    cases blk with
    | dead=>left;simp only[e7,ab] at U;exact dv U
    | var T0 cs=>exact .inr ⟨_,rfl,by simp,fun o b h=>by simp only[e7,ab] at U;rw[dv U] at h;exact .root (by simp) (h.flat (by simp))⟩
    | arr e es fz=>exact .inr ⟨_,rfl,by simp,fun o b h=>by simp only[e7,ab] at U;rw[dv U] at h;exact .root (by simp) (h.flat (by simp))⟩
    | map t es=>exact .inr ⟨_,rfl,by simp,fun o b h=>by simp only[e7,ab] at U;rw[dv U] at h;exact .root (by simp) (h.flat (by simp))⟩
    | nest e es ar=>
     refine .inr ⟨_,rfl,by simp,fun o b h=> ?_⟩
     simp only[e7,ab] at U
     rw[dv U] at h
     cases h with
     | root _ h=>exact .root (by simp) h
     | row h1 U=>exact .row h1 U
  ·obtain ⟨k,rfl⟩: ∃k,j=ord.length+k:=⟨j-ord.length,by omega⟩
   rw[ib] at hj
   obtain ⟨e,he⟩:=Ba _ (jJ hj)
   exact .inr ⟨e,he,(hF k _ hj).2⟩
 refine ⟨β',⟨⟨fun j blk' hj=> ?_,fun j1 j2 b1 b2 b e1 e2 f1 f2=> ?_,fun j blk b e1 f1=> ?_,S.h.jP⟩,S.cy,S.size,S.new,S.io⟩,⟨fun k=> ?_,hA.size,hA.defers,hA.aE⟩,⟨hE.dC,hE.cy,fun id blk ab=> ?_,fun id blk blk' b ab bL hd hb=> ?_⟩⟩
 ·change hp' j=some blk' at hj
  rcases pB j ord.length with h|h
  ·have gM:=bG h
   obtain ⟨n',Ry,U⟩:=rv j _ gM
   rw[hj] at U
   rw[oX j _ gM]
   cases ab:st.hp ord[j] with
   | none=>simp only[e7,ab] at U;rw[dv U];exact .dead
   | some blk=>
    have hr:=S.h.rel _ _ ab
    generalize β ord[j]=o at hr
    cases hr with
    | dead=>simp only[e7,ab] at U;rw[dv U];exact .dead
    | dP hb=>simp only[e7,ab] at U;rw[dv U];exact .dP hb
    | arr a1 a2 a3 a4 a5 a6 a7=>simp only[e7,ab] at U;rw[dv U];exact .arr a1 a2 a3 a4 a5 a6 a7
    | nest a1 a2 a3=>simp only[e7,ab] at U;rw[dv U];exact .nest a1 a2 a3
    | map a1 a2 a3 a4 a5 a6 a7=>simp only[e7,ab] at U;rw[dv U];exact .map a1 a2 a3 a4 a5 a6 a7
    | @var xs b Ca T hb hh hs c6 hx gr=>
     simp only[e7,ab] at U Ry
     rw[dv U]
     exact .var hb hh (by rw[Fw];exact hs) c6 (fun i v y hi hy=>Fx S hR (vs:=Ca.toList) (fun i v x hi cL=>hx i v x (by simpa using hi) cL) Ry i v y (by simpa using hi) hy) gr
  ·rcases cls j blk' hj with ⟨id,ab,_⟩|⟨e,he,hb⟩
   ·have:=(bD.1 ab).1;omega
   ·rw[he];exact .dP hb
 ·rcases cls j1 b1 e1 with ⟨Kx,o1,x1⟩|⟨e,_,hb⟩
  ·rcases cls j2 b2 e2 with ⟨cN,o2,x2⟩|⟨e,_,hb⟩
   ·obtain ⟨c1,y1,z1,g1⟩:=x1.resolve_left f1.alive
    obtain ⟨c2,y2,z2,g2⟩:=x2.resolve_left f2.alive
    rw[oX _ _ o1] at f1
    rw[oX _ _ o2] at f2
    have:=S.h.inj Kx cN c1 c2 b y1 y2 (g1 _ _ f1) (g2 _ _ f2)
    subst this
    obtain ⟨q1,q2⟩:=bD.1 o1
    obtain ⟨q3,q4⟩:=bD.1 o2
    exact (List.getElem_inj lW).1 (q2.trans q4.symm)
   ·subst ‹b2=_›;have:=f2.flat (by simp);rw[hb] at this;cases this
  ·subst ‹b1=_›;have:=f1.flat (by simp);rw[hb] at this;cases this
 ·rcases cls j blk e1 with ⟨Kx,o1,x1⟩|⟨e,_,hb⟩
  ·obtain ⟨c1,y1,z1,g1⟩:=x1.resolve_left f1.alive
   rw[oX _ _ o1] at f1
   exact S.h.own Kx c1 b y1 (g1 _ _ f1)
  ·subst ‹blk=_›;have:=f1.flat (by simp);rw[hb] at this;cases this
 ·change ao P w I β' hp' (a.tmps.getD k undef) (jw _ k)
  unfold jw
  cases Kb:dN (lT st.hp ord st.sl (ord.length+(fM st.hp ord ord.length ord).2.length) live).1 k with
  | none=>exact .undef
  | some y=>
   obtain ⟨n',h1,U⟩:=Rs hF.right Kb
   simp only[Option.getD_some,U]
   exact abm S hR (hA.sl k) h1
 ·obtain ⟨rp,k1,k2,k3⟩:=hE.blk id blk ab
  rcases Bd id (hm id blk ab) with ho|⟨p,ho,bu⟩
  ·cases rp with
   | dead=>exact ⟨.dead,hR.dead id id ho k1,k2,fun h=>absurd rfl h⟩
   | var T0 cs=>
    obtain ⟨iH,h'⟩:=hR.var id id T0 cs ho k1
    refine ⟨_,h',?_,fun _=>(oX id id ho).trans (k3 (by simp))⟩
    cases blk<;>simp_all [an.le]
   | arr e es fz=>exact ⟨_,hR.arr id id e es fz ho k1,k2,fun _=>(oX id id ho).trans (k3 (by simp))⟩
   | map t es=>exact ⟨_,hR.map id id t es ho k1,k2,fun _=>(oX id id ho).trans (k3 (by simp))⟩
   | nest e es ar=>
    refine ⟨_,hR.nest id id e es ar ho k1,?_,fun _=>(oX id id ho).trans (k3 (by simp))⟩
    obtain ⟨I9,YN,rfl,l1,l2,_⟩:=an.I7 k2
    exact ⟨rfl,l1,by simpa using l2,fun k=>by rw[jD id _ _ _ ab k];exact k0 _⟩
  ·obtain ⟨n',_,U⟩:=rv id p ho
   simp only[e7,bu] at U
   exact ⟨.dead,U,by cases blk<;>trivial,fun h=>absurd rfl h⟩
 ·obtain ⟨rp,k1,k2,k3⟩:=hE.blk id blk ab
  rcases Bd id (hm id blk ab) with ho|⟨p,ho,bu⟩
  ·refine hE.size id blk rp b ab k1 (fun ru=> ?_) hb
   subst ru
   have:=hR.dead id id ho k1
   change hp' id=some blk' at bL
   rw[this] at bL
   exact hd (dv bL).symm
  ·obtain ⟨n',_,U⟩:=rv id p ho
   simp only[e7,bu] at U
   change hp' id=some blk' at bL
   rw[U] at bL
   exact absurd (dv bL).symm hd
theorem abq {n m:Nat} {live:List Nat} {a:Act} {st:St} (S:aF P w I β st.hp B M w0) (hA:ji P E G w I β n a st) (hE:lq w0.w w0.I μ hp0 w I β st.hp) (hm: ∀id blk,hp0 id=some blk→id<m) (jD: ∀id e es ar,hp0 id=some (.nest e es ar)→∀k,bK ar k=0):
  ∃β',aF P w I β' (canon m live st).hp B M w0∧ji P E G w I β' n a (canon m live st)∧lq w0.w w0.I μ hp0 w I β' (canon m live st).hp:=by
 obtain ⟨t,Bd,lW⟩:=abo (m:=m) (live:=live) (st:=st)
 refine Rx (by rw[Bd];exact lW) (fun id aO=> .inl ?_) S hA hE hm jD
 rw[Bd,iP (by simpa using aO)]
 simp[aO]
theorem Rz: ∀{l:List Nat},qL l=true→l.Nodup
 | [],_=> .nil
 | a::l,h=>by
  simp only[qL,aP,mw] at h
  rw[List.nodup_cons]
  exact ⟨fun hm=>Bool.noConfusion ((xb hm).symm.trans h.1),Rz h.2⟩
theorem abr {m:Nat} {mv:List Nat} {id:Nat} (h:id<m):(oJ m mv)[id]? =some id∨(oJ m mv)[id]? =some (m+id):=by
 unfold oJ
 rw[iP (by simpa using h),fI]
 simp only[List.getElem?_range h,Option.map_some]
 cases ku mv id with
 | true=>exact .inr rfl
 | false=>exact .inl rfl
end
section
variable {P:Program} {A:cS} {w w':World} {I I' I2:Nat→Prop} {μ β β':Nat→Option Nat} {hp hp' hp0:Nat→Option an} {C:ae} {B:Nat} {M:Nat→Prop} {w0:Start}
theorem Fz (p:Nat→Prop) (h: ∃n,p n): ∃n,p n∧∀m,p m→n≤m:=by
 obtain ⟨n,hn⟩:=h
 induction n using Nat.strongRecOn with
 | _ n ih=>
  by_cases hx: ∃m,m<n∧p m
  ·obtain ⟨m,hm,hp⟩:=hx
   exact ih m hm hp
  ·exact ⟨n,hn,fun m hm=>Nat.le_of_not_lt fun aO=>hx ⟨m,aO,hm⟩⟩
open Classical in
theorem abt {c:Code} {Q:Exit→Act→World→Prop} (J:Nat→Act→World→Prop) (h0: ∀a w,¬J 0 a w) (round: ∀n a w,J (n+1) a w→c.wp P (Exit.then (J n) Q) a w) {n:Nat} {a:Act} {w:World} (h:J n a w):
  (Code.loop c).wp P Q a w:=by
 refine wp_loop (fun a w=> ∃n,J n a w) (fun a w=>if h: ∃n,J n a w then (Fz _ h).choose else 0) ⟨n,h⟩ fun a w hJ=> ?_
 obtain ⟨h1,U⟩:=(Fz _ hJ).choose_spec
 generalize hk:(Fz _ hJ).choose=k at h1 U
 cases k with
 | zero=>exact absurd h1 (h0 a w)
 | succ k=>
  refine wp_mono (round k a w h1) fun e a' w' he=> ?_
  cases e with
  | normal=>
   have hex: ∃n,J n a' w':=⟨k,he⟩
   refine ⟨hex,?_⟩
   have h3:=(Fz _ hex).choose_spec.2 k he
   rw[sf hex,sf hJ,hk]
   omega
  | _=>exact he
def xB:Out→Exit
 | .norm=> .normal
 | .exit id=> .exit id
 | .ret=> .ret
def Inv (P:Program) (E:FuncId→Bool) (G:Nat→V) (B:Nat) (M:Nat→Prop) (w0:Start) (μ:Nat→Option Nat) (hp0:Nat→Option an) (n:Nat) (a:Act) (w:World) (st:St):Prop:=
 ∃I β,aF P w I β st.hp B M w0∧ji P E G w I β n a st∧lq w0.w w0.I μ hp0 w I β st.hp
theorem Inv.canon {E:FuncId→Bool} {G:Nat→V} {n m:Nat} {a:Act} {st:St} {live:List Nat} (h:Inv P E G B M w0 μ hp0 n a w st) (hm: ∀id blk,hp0 id=some blk→id<m) (jD: ∀id e es ar,hp0 id=some (.nest e es ar)→∀k,bK ar k=0):Inv P E G B M w0 μ hp0 n a w (canon m live st):=by
 obtain ⟨I,β,S,hA,hE⟩:=h
 obtain ⟨β',a,b,c⟩:=abq (live:=live) S hA hE hm jD
 exact ⟨I,β',a,b,c⟩
theorem FA: ∀{l:List BS} {ds:List V},(eP l ds).length=l.length
 | [],_=>rfl
 | b::l,ds=>by simp only[eP,List.length_cons,FA]
theorem Inv.enter {A:cS} {E:FuncId→Bool} {G:Nat→V} {n f:Nat} {ds:List V} {a:Act} (jg:qL (oJ (A.sin f).bj.length (A.mv f))=true) (h:Inv P E G B M w0 μ hp0 n a w (bw (A.sin f) ds)) (hm: ∀id blk,hp0 id=some blk→id<(A.sin f).bj.length)
  (jD: ∀id e es ar,hp0 id=some (.nest e es ar)→∀k,bK ar k=0) (xC: ∀p,(A.sin f).bj.length≤p→(bw (A.sin f) ds).hp p=none):Inv P E G B M w0 μ hp0 n a w (Ej A f ds):=by
 unfold Ej
 split
 ·exact h
 ·obtain ⟨I,β,S,hA,hE⟩:=h
  obtain ⟨β',x,y,z⟩:=Rx (m:=(A.sin f).bj.length) (ord:=oJ (A.sin f).bj.length (A.mv f)) (live:=(A.sin f).bZ.map (·.1)) (Rz jg) (fun id ab=>(abr ab).imp (fun h=>h) fun h=>⟨_,h,xC _ (by omega)⟩) S hA hE hm jD
  exact ⟨I,β',x,y,z⟩
theorem Inv.reshape {E:FuncId→Bool} {G:Nat→V} {n m:Nat} {a:Act} {st:St} {S:Shape} {ds:List V} (h:Inv P E G B M w0 μ hp0 n a w st) (hs:jM m S st=some ds) (hm: ∀id blk,hp0 id=some blk→id<m):Inv P E G B M w0 μ hp0 n a w (bw S ds):=by
 obtain ⟨I,β,S1,hA,hE⟩:=h
 obtain ⟨r1,r2,_,r4⟩:=AM.reshape hs S1
 refine ⟨I,β,r1,⟨fun k=>r2 k _ (hA.sl k),hA.size,hA.defers,hA.aE⟩,⟨hE.dC,hE.cy,fun id blk ab=> ?_,fun id blk blk' b ab bL hd hb=> ?_⟩⟩
 ·obtain ⟨rp,k1,k2,k3⟩:=hE.blk id blk ab
  obtain ⟨_,hle,_⟩:=Qk hs
  have hl:=hm id blk ab
  obtain ⟨ch,U⟩: ∃ch,(bw S ds).hp id=some ch:=by
   simp only[bw,mk,ic]
   exact ⟨_,bG (by rw[FA];omega)⟩
  by_cases hd:ch= .dead
  ·subst hd
   exact ⟨_,U,by cases blk<;>trivial,fun h=>absurd rfl h⟩
  ·obtain ⟨hG,e1,e2,_⟩:=r4 id ch U hd
   rw[k1] at e1;cases e1
   exact ⟨_,U,an.le_trans k2 e2,fun _=>k3 (fun e=>hd (an.pO (e▸e2)))⟩
 ·obtain ⟨hG,e1,e2,_⟩:=r4 id blk' bL hd
  exact hE.size id blk hG b ab e1 (fun e=>hd (an.pO (e▸e2))) hb
theorem lr.here (h:lr P A C) (f:Nat) (id:Nat):lr P (A.here f id) C:=by
 intro key ds es hh
 obtain ⟨fn,c,h1,U,h3⟩:=h key ds es hh
 refine ⟨fn,c,h1,U,fun w I μ vals a g b d=>(h3 w I μ vals a g b d).mono fun e w' hx=> ?_⟩
 obtain ⟨v,I2,cj,q1,q2⟩:=hx
 exact ⟨v,I2,cj,q1,⟨q2.xr,q2.le,q2.res⟩⟩
theorem abu {a b:Out} (h:Ei a b=true):a=b:=by
 cases a<;>cases b<;>simp[Ei] at h<;>first|rfl|(subst h;rfl)
theorem RA {m:Nat} {r:Out × St}: ∀{l:List (Out × Shape)} {j:Nat} {e:Nat × List V},ways m j l r=some e→j≤e.1
 | [],j,e,h=>by cases h
 | (o,S)::l,j,e,h=>by
  simp only[ways] at h
  split at h
  ·cases h;exact cg _
  ·have:=RA h;omega
theorem Ky {m:Nat} {o:Out} {s:St} {out:Out} {st':St}: ∀{l:List (Out × Shape)} {k:Nat} {e:Nat × List V},ways m k l (o,s)=some e→mE k l e.1 e.2 (fun o st=>some (o,st))=some (out,st')→
  out=o∧∃S,jM m S s=some e.2∧st'=bw S e.2
 | [],k,e,h,_=>by cases h
 | (o',S)::l,k,e,h,U=>by
  simp only[ways] at h
  split at h
  ·rename_i ds hx
   cases h
   cases ho:Ei o' o with
   | false=>rw[ho] at hx;cases hx
   | true=>
    rw[ho] at hx
    have:=abu ho
    subst this
    cases l with
    | nil=>
     simp only[mE,eh,kp] at U
     exact ⟨U.1.symm,S,hx,U.2.symm⟩
    | cons p l=>
     simp only[mE,jI,cond_true,eh,kp] at U
     exact ⟨U.1.symm,S,hx,U.2.symm⟩
  ·have pW:=RA h
   cases l with
   | nil=>cases h
   | cons p l=>
    have bH:Nat.beq e.1 k=false:=by
     cases hb:Nat.beq e.1 k with
     | false=>rfl
     | true=>rw[a9] at hb;omega
    simp only[mE,bH,cond_false] at U
    exact Ky h U
theorem abv (hC:lr P A C) (hP:jh P A) (nP:P.follows .mixedOrders=true) {f n m:Nat} (hm: ∀id blk,hp0 id=some blk→id<m) (jD: ∀id e es ar,hp0 id=some (.nest e es ar)→∀k,bK ar k=0):
  ∀(c:Code) {st st':St} {out:Out} {Q:Exit→Act→World→Prop} {a:Act} {w:World},exec P A C f n m c st=some (out,st')→Inv P A.idle A.aE B M w0 μ hp0 n a w st→
   (∀a' w',Inv P A.idle A.aE B M w0 μ hp0 n a' w' st'→Q (xB out) a' w')→c.wp P Q a w:=by
 intro c
 induction c with
 | skip=>
  intro st st' out Q a w h hI hQ
  simp only[exec,eh,kp] at h
  obtain ⟨rfl,rfl⟩:=h
  exact wp_skip (hQ a w hI)
 | exit id=>
  intro st st' out Q a w h hI hQ
  simp only[exec,eh,kp] at h
  obtain ⟨rfl,rfl⟩:=h
  exact wp_exit (hQ a w hI)
 | ret=>
  intro st st' out Q a w h hI hQ
  simp only[exec,eh,kp] at h
  obtain ⟨rfl,rfl⟩:=h
  exact wp_ret (hQ a w hI)
 | region id ops draw=>
  intro st st' out Q a w h hI hQ
  simp only[exec] at h
  obtain ⟨jk,h1,U⟩:=bind_some h
  simp only[eh,kp] at U
  obtain ⟨rfl,rfl⟩:=U
  obtain ⟨I,β,S,hA,hE⟩:=hI
  refine abj (hC.here f id) (hP.here f id) nP h1 S hA fun a' w' I' β' k1 k2 k3=> ?_
  obtain ⟨I2,l1,l2,l3⟩:=Rl (m:=m) (pur:=A.pur f id) k2 k3
  have hE2:=(hE.trans k1.Ff).trans l1.Ff
  exact hQ a' w' (Inv.canon ⟨I2,β',l2,l3,hE2⟩ hm jD)
 | seq x y iT iU=>
  intro st st' out Q a w h hI hQ
  simp only[exec] at h
  obtain ⟨⟨o1,jk⟩,h1,U⟩:=bind_some h
  refine wp_seq (iT h1 hI fun a' w' jW=> ?_)
  cases o1 with
  | norm=>exact iU U jW hQ
  | exit id=>
   simp only[eh,kp] at U
   obtain ⟨rfl,rfl⟩:=U
   exact hQ a' w' jW
  | ret=>
   simp only[eh,kp] at U
   obtain ⟨rfl,rfl⟩:=U
   exact hQ a' w' jW
 | cond c x y iT iU=>
  intro st st' out Q a w h hI hQ
  cases c with
  | tmp t=>
   have go: ∀{st st':St} {out:Out} {Q:Exit→Act→World→Prop} {a:Act} {w:World},(match st.sl t with
     | .bool b=>(bif b then exec P A C f n m x st else exec P A C f n m y st).bind fun r=>
      match r.1 with
      | .norm=>some (.norm,AM.canon m (A.join f t) r.2)
      | _=>some r
     | _=>none)=some (out,st')→Inv P A.idle A.aE B M w0 μ hp0 n a w st→(∀a' w',Inv P A.idle A.aE B M w0 μ hp0 n a' w' st'→Q (xB out) a' w')→(Code.cond (.tmp t) x y).wp P Q a w:=by
    intro st st' out Q a w h hI hQ
    cases hs:st.sl t<;>rw[hs] at h<;>simp only at h<;>first|(cases h;done)|skip
    rename_i b
    obtain ⟨⟨o1,jk⟩,h1,U⟩:=bind_some h
    obtain ⟨I,β,S,hA,hE⟩:=hI
    have fa:a.eval (.tmp t)= .bool b:=by
     have:=QT hA hs
     simp[Act.eval,this]
    have fin: ∀a' w',Inv P A.idle A.aE B M w0 μ hp0 n a' w' jk→Q (xB o1) a' w':=by
     intro a' w' jW
     cases o1 with
     | norm=>
      simp only[eh,kp] at U
      obtain ⟨rfl,rfl⟩:=U
      exact hQ a' w' (jW.canon hm jD)
     | exit id=>
      simp only[eh,kp] at U
      obtain ⟨rfl,rfl⟩:=U
      exact hQ a' w' jW
     | ret=>
      simp only[eh,kp] at U
      obtain ⟨rfl,rfl⟩:=U
      exact hQ a' w' jW
    refine wp_cond fa ?_
    cases b with
    | true=>exact iT h1 ⟨I,β,S,hA,hE⟩ fin
    | false=>exact iU h1 ⟨I,β,S,hA,hE⟩ fin
   simp only[exec] at h
   split at h
   ·exact go h hI hQ
   ·obtain ⟨ds,h1,U⟩:=bind_some h
    obtain ⟨e,h3,h4⟩:=bind_some U
    obtain ⟨⟨o1,s1⟩,h5,h6⟩:=bind_some h3
    obtain ⟨rfl,S',k1,rfl⟩:=Ky h6 h4
    exact go h5 (hI.reshape h1 hm) fun a' w' jW=>hQ a' w' (jW.reshape k1 hm)
  | const v=>
   cases v with
   | bool b=>
    simp only[exec] at h
    refine wp_cond (t:=b) rfl ?_
    cases b with
    | true=>exact iT h hI hQ
    | false=>exact iU h hI hQ
   | _=>simp only[exec] at h;cases h
  | _=>simp only[exec] at h;cases h
 | block id c ih=>
  intro st st' out Q a w h hI hQ
  simp only[exec] at h
  obtain ⟨⟨o1,jk⟩,h1,U⟩:=bind_some h
  refine wp_block (ih h1 hI fun a' w' jW=> ?_)
  cases o1 with
  | norm=>
   simp only[eh,kp] at U
   obtain ⟨rfl,rfl⟩:=U
   exact hQ a' w' (jW.canon hm jD)
  | exit aD=>
   simp only at U
   cases hb:Nat.beq aD id with
   | true=>
    rw[hb] at U
    simp only[cond_true,eh,kp] at U
    obtain ⟨rfl,rfl⟩:=U
    rw[a9] at hb
    simp only[xB,Exit.inBlock,hb,cW]
    exact hQ a' w' (jW.canon hm jD)
   | false=>
    rw[hb] at U
    simp only[cond_false,eh,kp] at U
    obtain ⟨rfl,rfl⟩:=U
    have bH:aD≠id:=fun e=>by rw[e,jI] at hb;cases hb
    simp only[xB,Exit.inBlock,bH,fG]
    exact hQ a' w' jW
  | ret=>
   simp only[eh,kp] at U
   obtain ⟨rfl,rfl⟩:=U
   exact hQ a' w' jW
 | loop c ih=>
  intro st st' out Q a w h hI hQ
  simp only[exec] at h
  split at h
  ·cases h
  ·rename_i S hS
   obtain ⟨ds,h1,U⟩:=bind_some h
   obtain ⟨e,h3,h4⟩:=bind_some U
   obtain ⟨k,hk⟩:=wC h3
   refine abt (J:=fun k a w=> ∃ds,Inv P A.idle A.aE B M w0 μ hp0 n a w (bw S.1 ds)∧fJ (fun ds=>nz m S.1 S.2 (exec P A C f n m c (bw S.1 ds))) k ds=some e) (fun a w ⟨s,_,h⟩=>by cases h) (fun k a w ⟨ds,hs,hk⟩=> ?_) ⟨ds,hI.reshape h1 hm,hk⟩
   simp only[fJ] at hk
   obtain ⟨y,h5,h6⟩:=bind_some hk
   unfold nz at h5
   obtain ⟨⟨o1,s1⟩,h7,h8⟩:=bind_some h5
   refine ih h7 hs fun a' w' jW=> ?_
   have RB: ∀{e':Nat × List V},ways m 0 S.2 (o1,s1)=some e'→e'=e→Q (xB o1) a' w':=by
    intro e' q1 q2
    subst q2
    obtain ⟨rfl,S',k1,rfl⟩:=Ky q1 h4
    exact hQ a' w' (jW.reshape k1 hm)
   cases o1 with
   | norm=>
    obtain ⟨ds2,q1,q2⟩:=bind_some h8
    cases q2
    exact ⟨ds2,jW.reshape q1 hm,h6⟩
   | exit id=>
    obtain ⟨e',q1,q2⟩:=bind_some h8
    cases q2
    cases h6
    exact RB q1 rfl
   | ret=>
    obtain ⟨e',q1,q2⟩:=bind_some h8
    cases q2
    cases h6
    exact RB q1 rfl
 | _=>intro st st' out Q a w h;simp only[exec] at h;cases h
end
section
variable {P:Program} {A:cS} {w w':World} {I I' I2:Nat→Prop} {μ β β' cj:Nat→Option Nat} {hp hp' hp0:Nat→Option an} {C:ae} {B:Nat} {M:Nat→Prop} {w0:Start}
theorem FB (S:aF P w I β hp B M w0) {a:Act} {st:St} (hs:lj P w I β hp a st.sl): ∀{l:List ResultVar} {xs:List V} {rd:List Nat},(ui P st l).run C hp=some (xs,rd)→
  ∃vs:List Value,(l.mapM fun| .tmp t=>Pure.pure (a.tmps.getD t undef)| .cell x t=>do loadVar t (←asAddr (a.tmps.getD x undef)):Sem (List Value)).run P w= .ok vs w∧vs.length=xs.length∧l.length=xs.length∧
   ∀(j:Nat) v x,vs[j]? =some v→xs[j]? =some x→ao P w I β hp v x
 | [],xs,rd,h=>by
  cases h
  exact ⟨[],by simp,rfl,rfl,by simp⟩
 | .tmp t::l,xs,rd,h=>by
  simp only[ui] at h
  obtain ⟨ys,l1,l2,h1,U⟩:=lk h
  have h3:=Jb U
  subst h3
  obtain ⟨vs,a1,a2,a3,a4⟩:=FB S hs h1
  refine ⟨a.tmps.getD t undef::vs,by simp only[List.mapM_cons,Sem.run_bind,Sem.run_pure,Result.andThen_ok,a1],by simp[a2],by simp[a3],fun j v x hj hx=> ?_⟩
  cases j with
  | zero=>simp at hj hx;subst hj;subst hx;have:=hs t;simpa using this
  | succ j=>exact a4 j v x (by simpa using hj) (by simpa using hx)
 | .cell y t::l,xs,rd,h=>by
  simp only[ui] at h
  obtain ⟨r,l1,l2,h1,U⟩:=lk h
  obtain ⟨ys,l3,l4,h3,h4⟩:=lk U
  have h5:=Jb h4
  subst h5
  obtain ⟨v0,b1,b2,b3,ad,b4⟩:=Pb S (hs y) h1
  obtain ⟨vs,a1,a2,a3,a4⟩:=FB S hs h3
  refine ⟨v0::vs,?_,by simp[a2],by simp[a3],fun j v x hj hx=> ?_⟩
  ·have e1:(do loadVar t (←asAddr (a.tmps.getD y undef)):Sem Value).run P w= .ok v0 w:=by
    rw[b4] at b1⊢
    simpa[Instr.loadAt,Instr.sureAddr,asAddr] using b1
   simp only[List.mapM_cons,Sem.run_bind,e1,Result.andThen_ok,a1,Sem.run_pure]
  cases j with
  | zero=>simp at hj hx;subst hj;subst hx;exact b2
  | succ j=>exact a4 j v x (by simpa using hj) (by simpa using hx)
def uZ:List Value→Value
 | [v]=>v
 | l=> .tuple l.toArray
theorem abw {vs:List Value} (h:vs.length≠1):uZ vs= .tuple vs.toArray:=by
 match vs,h with
 | [],_=>rfl
 | [v],h=>simp at h
 | v::v2::l,_=>rfl
theorem abx {fn:Func} {a:Act} {st:St} (S:aF P w I β st.hp B M w0) (hs:lj P w I β st.hp a st.sl) {xs:List V} {rd:List Nat} (h:(ui P st fn.results.toList).run C st.hp=some (xs,rd)):
  ∃vs:List Value,(results fn a.tmps).run P w= .ok (uZ vs) w∧vs.length=xs.length∧
   ∀(j:Nat) v x,vs[j]? =some v→xs[j]? =some x→ao P w I β st.hp v x:=by
 obtain ⟨vs,a1,a2,_,a4⟩:=FB S hs h
 refine ⟨vs,?_,a2,a4⟩
 unfold results
 rw[Array.mapM_eq_mapM_toList]
 simp only[map_eq_pure_bind,bind_assoc,pure_bind,Sem.run_bind]
 refine (congrArg (fun r:Result (List Value)=>r.andThen _) a1).trans ?_
 simp only[Result.andThen_ok,Sem.run_pure]
 match vs with
 | []=>simp[uZ]
 | [v]=>simp[uZ]
 | v::v2::l=>simp[uZ]
theorem RC: ∀{args:List V} {i k:Nat},dN (nA i args) k=if i≤k then args[k-i]? else none
 | [],i,k=>by simp[nA,dN]
 | v::vs,i,k=>by
  simp only[nA,dN]
  cases hb:Nat.beq k i with
  | true=>
   rw[a9] at hb
   subst hb
   simp
  | false=>
   have bH:k≠i:=fun e=>by rw[e,jI] at hb;cases hb
   simp only[cond_false,RC]
   by_cases h:i≤k
   ·rw[aj (by omega),aj h]
    obtain ⟨d,rfl⟩: ∃d,k=i+1+d:=⟨k-(i+1),by omega⟩
    rw[show i+1+d-(i+1)=d by omega,show i+1+d-i=d+1 by omega]
    rfl
   ·rw[ai (by omega),ai h]
theorem Kz: ∀{l:List (Nat × VS)} {ds:List V} {i k:Nat},kC i l=true→dN (fq l ds) k=if i≤k then (fK (l.map (·.2)) ds)[k-i]? else none
 | [],ds,i,k,_=>by simp[fq,fK,dN]
 | (q,s)::l,ds,i,k,h=>by
  simp only[kC,aP,a9] at h
  obtain ⟨rfl,h⟩:=h
  simp only[fq,dN,cJ,fK]
  cases hb:Nat.beq k q with
  | true=>
   rw[a9] at hb
   subst hb
   simp
  | false=>
   have bH:k≠q:=fun e=>by rw[e,jI] at hb;cases hb
   simp only[cond_false]
   rw[Kz h]
   by_cases h:q≤k
   ·rw[aj (by omega),aj h]
    obtain ⟨d,rfl⟩: ∃d,k=q+1+d:=⟨k-(q+1),by omega⟩
    rw[show q+1+d-(q+1)=d by omega,show q+1+d-q=d+1 by omega]
    rfl
   ·rw[ai (by omega),ai h]
theorem RD: ∀{l:List (Nat × VS)} {ds:List V},(fq l ds).map (·.2)=fK (l.map (·.2)) ds
 | [],_=>rfl
 | (q,s)::l,ds=>by simp only[fq,cJ,fK,RD]
theorem KA: ∀{l:List VS} {ds:List V},(fK l ds).length=l.length
 | [],_=>rfl
 | s::l,ds=>by simp only[fK,List.length_cons,KA]
theorem RE: ∀{l:List (Nat × VS)} {ds:List V},(fq l ds).length=l.length
 | [],_=>rfl
 | (q,s)::l,ds=>by simp only[fq,List.length_cons,RE]
theorem aby {vals:List Value} {l:List (Nat × V)} (hl:vals.length=l.length) (h: ∀(j:Nat) v y,vals[j]? =some v→(l.map (·.2))[j]? =some y→ao P w I β hp v y):ao P w I β hp (uZ vals) (pM l):=by
 match l,hl,h with
 | [],hl,h=>
  obtain rfl:vals=[]:=lL hl
  exact .bq rfl fun j v x _ hx=>by simp at hx
 | [(k,y)],hl,h=>
  match vals,hl,h with
  | [v],_,h=>exact h 0 v y rfl rfl
 | a::b::l,hl,h=>
  have bH:vals.length≠1:=by rw[hl];simp
  rw[abw bH]
  simp only[pM]
  exact .bq (by simp[hl]) fun j v y hj hy=>h j v y (by simpa using hj) hy
theorem abz {l:List BS} {ds:List V} {j:Nat} {e:TypeId} {es:List V} {ar:List Nat} (h:(eP l ds)[j]? =some (.nest e es ar)) (k:Nat):bK ar k=0:=by
 obtain ⟨b,fx,_,U⟩:=Kf h
 cases b<;>simp only[fX] at U<;>cases U
 match k with
 | 0=>rfl
 | 1=>rfl
 | 2=>rfl
 | _+3=>rfl
theorem abA {f n m:Nat} {fn:Func} {a:Act} {st:St} {es:List V} {rd:List Nat} (hm: ∀id blk,hp0 id=some blk→id<m) (jD: ∀id e es ar,hp0 id=some (.nest e es ar)→∀k,bK ar k=0)
  (hI:Inv P A.idle A.aE B M w0 μ hp0 n a w st) (mQ:kC 0 (A.gH f).bZ=true) (bh:(A.gH f).bZ.length=fn.results.size) (h:(wU P A f fn m st).run C st.hp=some (es,rd)):
  ∃v I2 cj,(results fn a.tmps).run P w= .ok v w∧aF P w I2 cj (bw (A.so f es) (A.lv f es)).hp B M w0∧lq w0.w w0.I μ hp0 w I2 cj (bw (A.so f es) (A.lv f es)).hp∧ao P w I2 cj (bw (A.so f es) (A.lv f es)).hp v (pM (fq (A.so f es).bZ (A.lv f es))):=by
 unfold wU at h
 obtain ⟨xs,l1,l2,h1,U⟩:=lk h
 obtain ⟨I,β,S,hA,hE⟩:=hI
 obtain ⟨vals,e1,e2,e3⟩:=abx S hA.sl h1
 have e4:fn.results.size=xs.length:=by
  obtain ⟨_,_,_,q,_⟩:=FB S hA.sl h1
  simpa using q
 have fin: ∀(Sx:Shape) (es:List V),kC 0 Sx.bZ=true→Sx.bZ.length=fn.results.size→jM m Sx (canon m (List.range xs.length) (freeze m (A.ub f) ⟨jw (nA 0 xs),st.hp,st.nb⟩))=some es→
   ∃v I2 cj,(results fn a.tmps).run P w= .ok v w∧aF P w I2 cj (bw Sx es).hp B M w0∧lq w0.w w0.I μ hp0 w I2 cj (bw Sx es).hp∧ao P w I2 cj (bw Sx es).hp v (pM (fq Sx.bZ es)):=by
  intro Sx es mQ bh u0
  have hA0:ji P A.idle A.aE w I β vals.length ⟨vals.toArray,[]⟩ ⟨jw (nA 0 xs),st.hp,st.nb⟩:=by
   refine ⟨fun k=> ?_,by simp,by simp,hA.aE⟩
   change ao P w I β st.hp _ (jw (nA 0 xs) k)
   unfold jw
   rw[RC]
   simp only[k0,cW,Nat.sub_zero]
   cases hk:xs[k]? with
   | none=>exact .undef
   | some x=>
    have fv:k<vals.length:=by rw[e2];exact (bD.1 hk).1
    have:=e3 k vals[k] x (bG fv) hk
    have e5:(vals.toArray).getD k undef=vals[k]:=by simp[fv]
    rw[Option.getD_some]
    exact e5▸this
  obtain ⟨I2,k1,k2,k3⟩:=Rl (st:=⟨jw (nA 0 xs),st.hp,st.nb⟩) (m:=m) (pur:=A.ub f) S hA0
  have hI2:Inv P A.idle A.aE B M w0 μ hp0 vals.length ⟨vals.toArray,[]⟩ w (freeze m (A.ub f) ⟨jw (nA 0 xs),st.hp,st.nb⟩):=⟨I2,β,k2,k3,hE.trans k1.Ff⟩
  obtain ⟨I3,RF,q1,q2,q3⟩:=(hI2.canon (live:=List.range xs.length) hm jD).reshape u0 hm
  refine ⟨uZ vals,I3,RF,e1,q1,q3,aby (by rw[RE,bh,e4,e2]) fun j v y hj hy=> ?_⟩
  have hv:=q2.sl j
  have cz:=(bD.1 hj).1
  have e5:(vals.toArray).getD j undef=v:=by
   have:=(bD.1 hj).2
   simp[cz,this]
  change ao P w I3 RF _ ((vals.toArray).getD j undef) (jw (fq Sx.bZ _) j) at hv
  rw[e5] at hv
  unfold jw at hv
  rw[Kz mQ] at hv
  simp only[k0,cW,Nat.sub_zero] at hv
  rw[RD] at hy
  rw[hy] at hv
  exact hv
 unfold cS.so cS.lv
 cases cA:A.alt f with
 | none=>
  rw[cA] at U
  simp only at U⊢
  split at U
  ·rename_i fx u0
   have:=aR U
   subst this
   exact fin _ _ mQ bh u0
  ·cases U
 | some S2=>
  rw[cA] at U
  simp only at U⊢
  split at U
  ·rename_i fx u0
   have:=aR U
   subst this
   exact fin _ _ mQ bh u0
  ·split at U
   ·rename_i fx u0
    obtain ⟨hc,h3⟩:=aH U
    simp only[aP,a9] at hc
    have:=aR h3
    subst this
    exact fin _ _ hc.1 hc.2 u0
   ·cases U
theorem abB (hC:lr P A C) (hP:jh P A) (nP:P.follows .mixedOrders=true):lr P A (qN P A C):=by
 intro f ds es h
 unfold qN at h
 cases hf:P.funcs[A.aV f]? with
 | none=>rw[hf] at h;cases h
 | some fn=>
  rw[hf] at h
  simp only at h
  cases hb:fn.body with
  | none=>rw[hb] at h;cases h
  | some c=>
   rw[hb] at h
   simp only at h
   cases hc:(kC 0 (A.sin f).bZ&&(Nat.ble (A.sin f).bZ.length fn.ntmps&&((A.sin f).ok&&(kC 0 (A.gH f).bZ&&(Nat.beq (A.gH f).bZ.length fn.results.size&&qL (oJ (A.sin f).bj.length (A.mv f))))))) with
   | false=>rw[hc] at h;cases h
   | true=>
    rw[hc] at h
    simp only[cond_true] at h
    simp only[aP,a9,dh] at hc
    obtain ⟨kK,hnt,_,xy,bh,jg⟩:=hc
    obtain ⟨⟨out,st'⟩,h1,U⟩:=bind_some h
    refine ⟨fn,c,rfl,hb,fun w I μ vals hH hgl hl hv=> ?_⟩
    have abC:(∀id,out≠ .exit id)∧∃rd,(wU P A f fn (A.sin f).bj.length st').run C st'.hp=some (es,rd):=by
     cases out with
     | exit id=>cases U
     | norm=>
      refine ⟨by simp,?_⟩
      simp only[zR] at U
      obtain ⟨⟨x,rd⟩,e1,e2⟩:=U
      simp only at e2
      subst e2
      exact ⟨rd,e1⟩
     | ret=>
      refine ⟨by simp,?_⟩
      simp only[zR] at U
      obtain ⟨⟨x,rd⟩,e1,e2⟩:=U
      simp only at e2
      subst e2
      exact ⟨rd,e1⟩
    obtain ⟨bH,rd,J6⟩:=abC
    refine calls_of_wp_defers hf hb ?_
    have hm: ∀id blk,(bw (A.sin f) ds).hp id=some blk→id<(A.sin f).bj.length:=by
     intro id blk ab
     simp only[bw,mk,ic] at ab
     have:=(bD.1 ab).1
     rwa [FA] at this
    have jD: ∀id e es ar,(bw (A.sin f) ds).hp id=some (.nest e es ar)→∀k,bK ar k=0:=by
     intro id e es ar ab k
     simp only[bw,mk,ic] at ab
     exact abz ab k
    refine abv (w0:=⟨w,I⟩) (μ:=μ) (hp0:=(bw (A.sin f) ds).hp) (B:=w.heap.size) (M:=oW P w μ (bw (A.sin f) ds).hp) hC hP nP hm jD c h1 ?_ ?_
    ·refine Inv.enter jg ?_ hm jD fun p hp=>by
      simp only[bw,mk,ic]
      rw[List.getElem?_eq_none_iff,FA]
      exact hp
     refine ⟨I,μ,⟨hH,fun _ _ _=>rfl,cg _,fun b h=> .inl h,⟨rfl,rfl⟩⟩,⟨fun k=> ?_,?_,by simp,hgl⟩,(Le.refl (P:=P) w I μ _).Ff⟩
     ·change ao P w I μ _ _ (jw (fq (A.sin f).bZ ds) k)
      unfold jw
      rw[Kz kK]
      simp only[k0,cW,Nat.sub_zero]
      cases hk:(fK ((A.sin f).bZ.map (·.2)) ds)[k]? with
      | none=>exact .undef
      | some x=>
       have fv:k<vals.length:=by
        have:=(bD.1 hk).1
        rw[KA,aJ] at this
        rw[hl];exact this
       have:=hv k vals[k] x (bG fv) hk
       have e1:(vals.toArray++Array.replicate (fn.ntmps-vals.toArray.size) undef).getD k undef=vals[k]:=by
        simp[Array.getElem?_append,fv]
       rw[Option.getD_some]
       exact e1▸this
     ·simp
      omega
    ·intro a' w' hI
     obtain ⟨v,I2,cj,q1,q2,q3,q4⟩:=abA hm jD hI xy bh J6
     obtain ⟨_,_,_,hA,_⟩:=hI
     cases out with
     | exit id=>exact absurd rfl (bH id)
     | norm=>exact Kl hP q1 ⟨v,I2,cj,rfl,q2,q3,q4⟩ _ hA.defers
     | ret=>exact Kl hP q1 ⟨v,I2,cj,rfl,q2,q3,q4⟩ _ hA.defers
theorem RG (hP:jh P A) (nP:P.follows .mixedOrders=true): ∀n,lr P A (lU P A n)
 | 0=>fun _ _ _ h=>by cases h
 | n+1=>abB (RG hP nP n) hP nP
theorem abD (hP:jh P A) (nP:P.follows .mixedOrders=true):lr P A (Call P A):=by
 intro f ds es h
 have hn: ∃n,lU P A n f ds=some es:=by
  unfold Call at h
  split at h
  ·rename_i hex
   have:=hex.choose_spec.choose_spec
   rw[dv h] at this
   exact ⟨_,this⟩
  ·cases h
 obtain ⟨n,hn⟩:=hn
 exact RG hP nP n f ds es hn
end
section
variable {P:Program} {A:cS} {C:ae} {D:Nat→ae}
def Be (C:ae) (D:Nat→ae):Prop:= ∀f a r,C f a=some r→∃n,∀k,n≤k→D k f a=some r
theorem p7 {α:Type} (h:Be C D) {hp:Nat→Option an}: ∀{p:Rd α} {r:α × List Nat},p.run C hp=some r→∃n,∀k,n≤k→p.run (D k) hp=some r
 | .ret a,r,e=>⟨0,fun _ _=>e⟩
 | .fail,r,e=>by cases e
 | .get id q,r,e=>by
  obtain ⟨x,h1,U⟩:=bind_some e
  obtain ⟨n,hn⟩:=p7 h h1
  exact ⟨n,fun k hk=>by simp only[Rd.run,hn k hk,Option.bind_some];exact U⟩
 | .opt o q,r,e=>by
  obtain ⟨x,h1,U⟩:=bind_some e
  obtain ⟨n,hn⟩:=p7 h U
  exact ⟨n,fun k hk=>by simp only[Rd.run,h1,Option.bind_some];exact hn k hk⟩
 | .live id ok q,r,e=>by
  simp only[Rd.run] at e
  cases hk:ok (gn (hp id)) with
  | false=>rw[hk] at e;cases e
  | true=>
   rw[hk] at e
   obtain ⟨x,h1,U⟩:=bind_some e
   obtain ⟨n,hn⟩:=p7 h h1
   exact ⟨n,fun k mS=>by simp only[Rd.run,hk,cond_true,hn k mS,Option.bind_some];exact U⟩
 | .aC b q,r,e=>by
  obtain ⟨h1,U⟩:=aH e
  obtain ⟨n,hn⟩:=p7 h U
  exact ⟨n,fun k hk=>by simp only[Rd.run,h1,cond_true];exact hn k hk⟩
 | .call f a q,r,e=>by
  obtain ⟨x,h1,U⟩:=bind_some e
  obtain ⟨n1,kK⟩:=h f a x h1
  obtain ⟨n2,xy⟩:=p7 h U
  exact ⟨max n1 n2,fun k hk=>by simp only[Rd.run,kK k (by omega),Option.bind_some];exact xy k (by omega)⟩
 | .alt true x y,r,e=>p7 (p:=x) h e
 | .alt false x y,r,e=>p7 (p:=y) h e
theorem abE (h:Be C D) {n i nb:Nat} {ops:Array Oper} {o:Oper} {st:St} {r:St × List Nat × List Nat} (e:g9 P A C n ops i o nb st=some r): ∃N,∀k,N≤k→g9 P A (D k) n ops i o nb st=some r:=by
 unfold g9 at e
 have go:(((fL P A st.sl i (nb+64*i) o).run C st.hp).bind fun r=>some ((⟨iz st.sl o.dst r.1.v,bR st.hp r.1.upd,st.nb⟩:St),qM r.2 r.1.upd,fY st.hp r.1.upd))=some r→
   ∃N,∀k,N≤k→(((fL P A st.sl i (nb+64*i) o).run (D k) st.hp).bind fun r=>some ((⟨iz st.sl o.dst r.1.v,bR st.hp r.1.upd,st.nb⟩:St),qM r.2 r.1.upd,fY st.hp r.1.upd))=some r:=by
  intro e
  obtain ⟨x,h1,U⟩:=bind_some e
  obtain ⟨N,hN⟩:=p7 h h1
  exact ⟨N,fun k hk=>by rw[hN k hk];exact U⟩
 unfold g9
 cases hd:sF o n with
 | false=>rw[hd] at e;cases e
 | true=>
  rw[hd] at e
  simp only[cond_true] at e⊢
  cases hg:o.guard with
  | none=>rw[hg] at e;exact go e
  | some gw=>
   obtain ⟨g,want⟩:=gw
   rw[hg] at e
   simp only at e⊢
   cases mc:(ops[g]?).bind (·.dst) with
   | none=>rw[mc] at e;cases e
   | some d=>
    rw[mc] at e
    simp only at e⊢
    cases mR:lP (st.sl d) with
    | none=>rw[mR] at e;cases e
    | some ob=>
    rw[mR] at e
    cases ob with
    | none=>exact ⟨0,fun _ _=>e⟩
    | some b=>
    simp only at e⊢
    cases hb:b==want with
    | true=>rw[hb] at e;exact go e
    | false=>rw[hb] at e;exact ⟨0,fun _ _=>e⟩
theorem RH (h:Be C D) {n nb:Nat} {ops:Array Oper}: ∀{l:List (Nat × Oper)} {st:St} {log:Log} {r:St × Log},pN P A C n ops nb l st log=some r→∃N,∀k,N≤k→pN P A (D k) n ops nb l st log=some r
 | [],st,log,r,e=>⟨0,fun _ _=>e⟩
 | (i,o)::l,st,log,r,e=>by
  obtain ⟨x,h1,U⟩:=bind_some e
  obtain ⟨N1,oZ⟩:=abE h h1
  obtain ⟨N2,ry⟩:=RH h U
  exact ⟨max N1 N2,fun k hk=>by simp only[pN,oZ k (by omega),Option.bind_some];exact ry k (by omega)⟩
theorem RI {X R:Type} {step:X→Option (X ⊕ R)} {stepD:Nat→X→Option (X ⊕ R)} (hs: ∀x y,step x=some y→∃N,∀k,N≤k→stepD k x=some y): ∀(n:Nat) (x:X) (r:R),fJ step n x=some r→∃N,∀k,N≤k→fJ (stepD k) n x=some r
 | 0,x,r,e=>by cases e
 | n+1,x,r,e=>by
  simp only[fJ] at e⊢
  obtain ⟨y,h1,U⟩:=bind_some e
  obtain ⟨N1,oZ⟩:=hs x y h1
  cases y with
  | inl z=>
   obtain ⟨N2,ry⟩:=RI hs n z r U
   exact ⟨max N1 N2,fun k hk=>by rw[oZ k (by omega)];exact ry k (by omega)⟩
  | inr q=>exact ⟨N1,fun k hk=>by rw[oZ k hk];exact U⟩
theorem abF (h:Be C D) {f n m:Nat}: ∀(c:Code) {st:St} {r:Out × St},exec P A C f n m c st=some r→∃N,∀k,N≤k→exec P A (D k) f n m c st=some r:=by
 intro c
 induction c with
 | skip=>exact fun e=>⟨0,fun _ _=>e⟩
 | exit id=>exact fun e=>⟨0,fun _ _=>e⟩
 | ret=>exact fun e=>⟨0,fun _ _=>e⟩
 | region id ops draw=>
  intro st r e
  simp only[exec] at e⊢
  obtain ⟨x,h1,U⟩:=bind_some e
  obtain ⟨y,h3,h4⟩:=bind_some h1
  obtain ⟨N,hN⟩:=RH h h3
  refine ⟨N,fun k hk=> ?_⟩
  have:Ak P (A.here f id) (D k) n ops draw st=some x:=by
   unfold Ak
   rw[hN k hk]
   exact h4
  rw[this]
  exact U
 | seq x y iT iU=>
  intro st r e
  simp only[exec] at e⊢
  obtain ⟨⟨o,s1⟩,h1,U⟩:=bind_some e
  obtain ⟨N1,oZ⟩:=iT h1
  cases o with
  | norm=>
   obtain ⟨N2,ry⟩:=iU U
   exact ⟨max N1 N2,fun k hk=>by rw[oZ k (by omega)];exact ry k (by omega)⟩
  | exit id=>exact ⟨N1,fun k hk=>by rw[oZ k hk];exact U⟩
  | ret=>exact ⟨N1,fun k hk=>by rw[oZ k hk];exact U⟩
 | cond c x y iT iU=>
  intro st r e
  cases c with
  | tmp t=>
   have go: ∀{st:St} {r:Out × St},(match st.sl t with
     | .bool b=>(bif b then exec P A C f n m x st else exec P A C f n m y st).bind fun r=>
      match r.1 with
      | .norm=>some (.norm,canon m (A.join f t) r.2)
      | _=>some r
     | _=>none)=some r→∃N,∀k,N≤k→(match st.sl t with
     | .bool b=>(bif b then exec P A (D k) f n m x st else exec P A (D k) f n m y st).bind fun r=>
      match r.1 with
      | .norm=>some (.norm,canon m (A.join f t) r.2)
      | _=>some r
     | _=>none)=some r:=by
    intro st r e
    cases hs:st.sl t<;>rw[hs] at e<;>simp only at e⊢ <;>first|(cases e;done)|skip
    rename_i b
    obtain ⟨x1,h1,U⟩:=bind_some e
    cases b with
    | true=>
     obtain ⟨N,hN⟩:=iT h1
     exact ⟨N,fun k hk=>by simp only[cond_true,hN k hk,Option.bind_some];exact U⟩
    | false=>
     obtain ⟨N,hN⟩:=iU h1
     exact ⟨N,fun k hk=>by simp only[cond_false,hN k hk,Option.bind_some];exact U⟩
   simp only[exec] at e⊢
   split at e
   ·rename_i hS
    obtain ⟨N,hN⟩:=go e
    exact ⟨N,fun k hk=>hN k hk⟩
   ·rename_i S hS
    obtain ⟨ds,h1,U⟩:=bind_some e
    obtain ⟨e',h3,h4⟩:=bind_some U
    obtain ⟨r1,h5,h6⟩:=bind_some h3
    obtain ⟨N,hN⟩:=go h5
    refine ⟨N,fun k hk=> ?_⟩
    try rw[hS]
    simp only[h1,Option.bind_some]
    exact (congrArg (fun z:Option (Out × St)=>(z.bind fun r=>ways m 0 S.2 r).bind fun e=>mE 0 S.2 e.1 e.2 fun o st=>some (o,st)) (hN k hk)).trans (by simp only[Option.bind_some,h6];exact h4)
  | const v=>
   cases v with
   | bool b=>
    simp only[exec] at e⊢
    cases b with
    | true=>exact iT e
    | false=>exact iU e
   | _=>simp only[exec] at e;cases e
  | _=>simp only[exec] at e;cases e
 | block id c ih=>
  intro st r e
  simp only[exec] at e⊢
  obtain ⟨x1,h1,U⟩:=bind_some e
  obtain ⟨N,hN⟩:=ih h1
  exact ⟨N,fun k hk=>by rw[hN k hk];exact U⟩
 | loop c ih=>
  intro st r e
  simp only[exec] at e⊢
  split at e
  ·cases e
  ·rename_i S hS
   obtain ⟨ds,h1,U⟩:=bind_some e
   obtain ⟨e',h3,h4⟩:=bind_some U
   obtain ⟨q,hq⟩:=wC h3
   obtain ⟨N,hN⟩:=RI (stepD:=fun k ds=>nz m S.1 S.2 (exec P A (D k) f n m c (bw S.1 ds))) (fun x y FC=>by
    unfold nz at FC⊢
    obtain ⟨z,h5,h6⟩:=bind_some FC
    obtain ⟨N,hN⟩:=ih h5
    exact ⟨N,fun k hk=>by rw[hN k hk];exact h6⟩) q ds e' hq
   refine ⟨N,fun k hk=> ?_⟩
   try rw[hS]
   simp only[h1,Option.bind_some]
   rw[zX (hN k hk)]
   exact h4
 | _=>intro st r e;simp only[exec] at e;cases e
theorem KC (h:Be C D) {f:Nat} {ds es:List V} (e:qN P A C f ds=some es): ∃N,∀k,N≤k→qN P A (D k) f ds=some es:=by
 unfold qN at e⊢
 cases hf:P.funcs[A.aV f]? with
 | none=>rw[hf] at e;cases e
 | some fn=>
  rw[hf] at e
  simp only at e⊢
  cases hb:fn.body with
  | none=>rw[hb] at e;cases e
  | some c=>
   rw[hb] at e
   simp only at e⊢
   cases hc:(kC 0 (A.sin f).bZ&&(Nat.ble (A.sin f).bZ.length fn.ntmps&&((A.sin f).ok&&(kC 0 (A.gH f).bZ&&(Nat.beq (A.gH f).bZ.length fn.results.size&&qL (oJ (A.sin f).bj.length (A.mv f))))))) with
   | false=>rw[hc] at e;cases e
   | true=>
    rw[hc] at e
    simp only[cond_true] at e⊢
    obtain ⟨⟨o,s1⟩,h1,U⟩:=bind_some e
    obtain ⟨N1,oZ⟩:=abF h c h1
    cases o with
    | exit id=>cases U
    | norm=>
     simp only[zR] at U
     obtain ⟨x,e1,e2⟩:=U
     obtain ⟨N2,ry⟩:=p7 h e1
     exact ⟨max N1 N2,fun k hk=>by rw[oZ k (by omega)];simp only[Option.bind_some,ry k (by omega),Option.map_some,e2]⟩
    | ret=>
     simp only[zR] at U
     obtain ⟨x,e1,e2⟩:=U
     obtain ⟨N2,ry⟩:=p7 h e1
     exact ⟨max N1 N2,fun k hk=>by rw[oZ k (by omega)];simp only[Option.bind_some,ry k (by omega),Option.map_some,e2]⟩
theorem RJ: ∀n f a r,lU P A n f a=some r→lU P A (n+1) f a=some r
 | 0,f,a,r,h=>by cases h
 | n+1,f,a,r,h=>by
  obtain ⟨N,hN⟩:=KC (C:=lU P A n) (D:=fun _=>lU P A (n+1)) (fun f a r h=>⟨0,fun _ _=>RJ n f a r h⟩) h
  exact hN N (cg _)
theorem KD {n k:Nat} (hk:n≤k) {f:Nat} {a r:List V} (h:lU P A n f a=some r):lU P A k f a=some r:=by
 induction hk with
 | refl=>exact h
 | step _ ih=>exact RJ _ _ _ _ ih
theorem FD {f:Nat} {a r:List V}:Call P A f a=some r↔∃n,lU P A n f a=some r:=by
 constructor
 ·intro h
  unfold Call at h
  split at h
  ·rename_i hex
   have:=hex.choose_spec.choose_spec
   rw[dv h] at this
   exact ⟨_,this⟩
  ·cases h
 ·rintro ⟨n,hn⟩
  have hex: ∃n r,lU P A n f a=some r:=⟨n,r,hn⟩
  unfold Call
  rw[sf hex]
  have U:=hex.choose_spec.choose_spec
  have h3:=KD (Nat.le_max_left n hex.choose) hn
  have h4:=KD (Nat.le_max_right n hex.choose) U
  rw[h3] at h4
  exact h4.symm
theorem abG (f:Nat) (a:List V):Call P A f a=qN P A (Call P A) f a:=by
 apply Option.ext
 intro r
 constructor
 ·intro h
  obtain ⟨n,hn⟩:=FD.1 h
  cases n with
  | zero=>cases hn
  | succ n=>
   obtain ⟨N,hN⟩:=KC (C:=lU P A n) (D:=fun _=>Call P A) (fun f a r h=>⟨0,fun _ _=>FD.2 ⟨n,h⟩⟩) hn
   exact hN N (cg _)
 ·intro h
  obtain ⟨N,hN⟩:=KC (C:=Call P A) (D:=lU P A) (fun f a r h=>by
   obtain ⟨n,hn⟩:=FD.1 h
   exact ⟨n,fun k hk=>KD hk hn⟩) h
  exact FD.2 ⟨N+1,hN N (cg _)⟩
end
end Go.AM
namespace Go.AM
open Go.ChangeShapes Go.WideShapes Go.RowKit
section
variable (P:Program)
inductive WT:TypeId→V→Prop
 | int {t:TypeId} {k:IntKind} {n:Int}:P.underlying t=some (.int k)→(Lit.int k n).wf=true→WT t (.int k n)
 | bool {t:TypeId} {b:Bool}:P.underlying t=some .bool→WT t (.bool b)
 | str {t:TypeId} {l:List UInt8}:P.underlying t=some .string→l.length≤maxLen→WT t (.str l)
 | list {t e:TypeId} {es:List V}:P.underlying t=some (.slice e)→es.length≤maxLen→
   (∀(i:Nat) x,es[i]? =some x→bP P e=true→∃xs,x= .agg xs∧xs.length=(bc P e).length)→
   (∀(i j:Nat) x t',es[i]? =some x→(bc P e)[j]? =some t'→WT t' (bU P e x j))→WT t (.list e es)
def iO (t:TypeId) (x:V):Prop:=
 (bP P t=true→∃xs,x= .agg xs∧xs.length=(bc P t).length)∧∀(j:Nat) t',(bc P t)[j]? =some t'→WT P t' (bU P t x j)
def qw:List TypeId→List V→Prop
 | [],[]=>True
 | t::ts,x::xs=>iO P t x∧qw ts xs
 | _,_=>False
def hasB (L:List TypeId) (t:TypeId):Bool:=L.any fun u=>Nat.beq u t
def FE (L:List TypeId):Nat→List Field→Bool
 | _,[]=>true
 | n,f::fs=>hasB L f.type&&(Nat.beq f.offset n&&(Nat.beq (P.cellsOf f.type) (bc P f.type).length&&FE L (n+P.cellsOf f.type) fs))
def Bf:List Nat→List Nat→Bool
 | [],[]=>true
 | a::l,b::m=>Nat.beq a b&&Bf l m
 | _,_=>false
def KE (L:List TypeId) (t:TypeId):Bool:=
 Nat.beq (P.cellsOf t) (bc P t).length&&
 match P.underlying t with
 | some (.int _)=>true
 | some .bool=>true
 | some .string=>true
 | some (.slice e)=>hasB L e&&c7 P e
 | some (.struct fs)=>FE P L 0 fs.toList&&Bf (flat P t) (fs.toList.flatMap fun f=>bc P f.type)
 | some (.array n e)=>hasB L e&&(Nat.beq (P.cellsOf e) (bc P e).length&&Bf (flat P t) (List.replicate n (bc P e)).flatten)
 | _=>false
def Bg (L:List TypeId):Bool:=L.all fun t=>KE P L t
end
theorem FF {L:List TypeId} {t:TypeId} (h:hasB L t=true):t∈L:=by
 obtain ⟨u,hu,U⟩:=oC.1 h
 rw[a9] at U
 exact U▸hu
theorem KF: ∀{l m:List Nat},Bf l m=true→l=m
 | [],[],_=>rfl
 | a::l,b::m,h=>by
  simp only[Bf,aP,a9] at h
  rw[h.1,KF h.2]
 | [],_::_,h=>by cases h
 | _::_,[],h=>by cases h
section
variable {P:Program} {H:Type} {enc:TypeId × Value→H} {w:World} {base:Nat} {spare:Nat→Bool} {held:Bool} {L:List TypeId}
def nQ (w:World):Nat→Prop:=fun b=>b<w.heap.size
def nR (P:Program) (w:World) (ts:List TypeId) (cs:List Value) (xs:List V):Prop:=
 cs.length=ts.length∧xs.length=ts.length∧∀(j:Nat) t',ts[j]? =some t'→∃v y,cs[j]? =some v∧xs[j]? =some y∧Pure P w (nQ w) t' v y∧WT P t' y
theorem nR.app {ts wM:List TypeId} {cs iH:List Value} {xs RK:List V} (h:nR P w ts cs xs) (h':nR P w wM iH RK):nR P w (ts++wM) (cs++iH) (xs++RK):=by
 obtain ⟨a,b,c⟩:=h
 obtain ⟨a',b',c'⟩:=h'
 refine ⟨by simp[a,a'],by simp[b,b'],fun j t' hj=> ?_⟩
 by_cases aO:j<ts.length
 ·rw[iP aO] at hj
  obtain ⟨v,y,e1,e2,e3⟩:=c j t' hj
  exact ⟨v,y,by rw[iP (by omega)];exact e1,by rw[iP (by omega)];exact e2,e3⟩
 ·rw[iQ (by omega)] at hj
  obtain ⟨v,y,e1,e2,e3⟩:=c' _ t' hj
  exact ⟨v,y,by rw[iQ (by omega),a];exact e1,by rw[iQ (by omega),b];exact e2,e3⟩
theorem abH {w:World} {a:Addr} {v:Value} (h:w.cell? a=some v):a.spot=none∧a.block<w.heap.size:=by
 unfold World.cell? at h
 split at h
 ·rename_i hh
  split at h
  ·cases h
  ·rename_i hs
   exact ⟨by simpa using hs,(iv.1 hh).1⟩
 all_goals (first|cases h|skip)
theorem RL {rd:TypeId→List Value→Option (DataW H × List MemPlace)} (cs:List Value)
  (ih: ∀t cs x,t∈L→rd t cs=some x→∃xs,nR P w (bc P t) cs xs): ∀(fs:List Field) (n:Nat),FE P L n fs=true→
  (∀f∈fs,∃x,rd f.type ((cs.drop f.offset).take (P.cellsOf f.type))=some x)→∃m xs,n≤m∧nR P w (fs.flatMap fun f=>bc P f.type) ((cs.drop n).take (m-n)) xs∧m-n=(fs.flatMap fun f=>bc P f.type).length
 | [],n,_,_=>⟨n,[],cg _,⟨by simp,rfl,by simp⟩,by simp⟩
 | f::fs,n,h,hx=>by
  simp only[FE,aP,a9] at h
  obtain ⟨h1,U,h3,h4⟩:=h
  obtain ⟨x,hxf⟩:=hx f (by simp)
  obtain ⟨xs,gN⟩:=ih _ _ _ (FF h1) hxf
  obtain ⟨m,ys,hm,rz,Kq⟩:=RL cs ih fs (n+P.cellsOf f.type) h4 fun g hg=>hx g (by simp[hg])
  refine ⟨m,xs++ys,by omega,?_,by simp only[lN,b9];omega⟩
  have:=gN.app rz
  rw[lN]
  rw[U] at this
  have e:(cs.drop n).take (m-n)=(cs.drop n).take (P.cellsOf f.type)++(cs.drop (n+P.cellsOf f.type)).take (m-(n+P.cellsOf f.type)):=by
   rw[show m-n=P.cellsOf f.type+(m-(n+P.cellsOf f.type)) by omega,List.take_add,qB]
  rw[e]
  exact this
theorem RM {rd:List Value→Option (DataW H × List MemPlace)} (cs:List Value) {e:TypeId} (hs:P.cellsOf e=(bc P e).length)
  (ih: ∀cs x,rd cs=some x→∃xs,nR P w (bc P e) cs xs): ∀(n:Nat),
  (∀i,i<n→∃x,rd ((cs.drop (i*P.cellsOf e)).take (P.cellsOf e))=some x)→∃xs,nR P w (List.replicate n (bc P e)).flatten (cs.take (n*P.cellsOf e)) xs
 | 0,_=>⟨[],by simp,rfl,by simp⟩
 | n+1,hx=>by
  obtain ⟨xs,gN⟩:=RM cs hs ih n fun i hi=>hx i (by omega)
  obtain ⟨x,A9⟩:=hx n (by omega)
  obtain ⟨ys,rz⟩:=ih _ _ A9
  refine ⟨xs++ys,?_⟩
  rw[List.replicate_succ',List.flatten_append]
  have:=gN.app rz
  rw[dF,Nat.one_mul,List.take_add]
  simpa using this
theorem FG (hL:Bg P L=true): ∀(fuel:Nat) (t:TypeId) (cs:List Value) (x:DataW H × List MemPlace),t∈L→DataW.trod enc P w base spare held fuel t cs=some x→
  ∃xs,nR P w (bc P t) cs xs
 | 0,_,_,_,_,h=>by cases h
 | fuel+1,t,cs,x,ht,h=>by
  have hg:=fH.1 hL t ht
  unfold KE at hg
  rw[aP,a9] at hg
  obtain ⟨hc,hg⟩:=hg
  have one:bP P t=false→bc P t=[t]:=fun h=>by simp[bc,h]
  cases hu:P.underlying t with
  | none=>rw[hu] at hg;cases hg
  | some d=>
   rw[hu] at hg
   cases d with
   | int k=>
    obtain ⟨n,rfl,rfl,Bh⟩:=DataW.trod_int hu h
    rw[one (by simp[bP,hu])]
    exact ⟨[.int k n],rfl,rfl,fun j t' hj=>by
     cases j with
     | zero=>cases hj;exact ⟨_,_,rfl,rfl,.int hu,.int hu Bh⟩
     | succ j=>simp at hj⟩
   | bool=>
    obtain ⟨b,rfl,rfl⟩:=DataW.trod_bool hu h
    rw[one (by simp[bP,hu])]
    exact ⟨[.bool b],rfl,rfl,fun j t' hj=>by
     cases j with
     | zero=>cases hj;exact ⟨_,_,rfl,rfl,.bool hu,.bool hu⟩
     | succ j=>simp at hj⟩
   | string=>
    obtain ⟨s,rfl,rfl,hl⟩:=DataW.trod_string hu h
    rw[one (by simp[bP,hu])]
    exact ⟨[.str s.data.toList],rfl,rfl,fun j t' hj=>by
     cases j with
     | zero=>cases hj;exact ⟨_,_,rfl,rfl,.str hu rfl,.str hu (by simpa using hl)⟩
     | succ j=>simp at hj⟩
   | slice e=>
    simp only[aP] at hg
    obtain ⟨he,au⟩:=hg
    rw[one (by simp[bP,hu])]
    have single: ∀v y,cs=[v]→Pure P w (nQ w) t v y→WT P t y→∃xs,nR P w [t] cs xs:=by
     rintro v y rfl a b
     exact ⟨[y],rfl,rfl,fun j t' hj=>by
      cases j with
      | zero=>cases hj;exact ⟨_,_,rfl,rfl,a,b⟩
      | succ j=>simp at hj⟩
    rcases DataW.trod_slice hu h with ⟨rfl,rfl⟩|⟨a,len,cap,elems,rest,n,hn,rfl,rfl,hb,hl,hm,hlen,c8,_,_⟩
    ·exact single _ _ rfl (.nil hu) (.list hu (by simp) (by simp) (by simp))
    ·cases hn
     have gI:=(kF au).2
     have PM:P.cellsOf e=(bc P e).length:=(fN au).symm
     have key: ∀i,i<len→∃iH xs,w.cells? base (a.add (i*P.cellsOf e)) (P.cellsOf e)=some iH∧nR P w (bc P e) iH xs:=by
      intro i hi
      have h1:=c8 i hi
      rw[bG (by omega)] at h1
      obtain ⟨iH,U,h3⟩:=Option.bind_eq_some_iff.1 h1
      obtain ⟨xs,gN⟩:=FG hL fuel e iH _ (FF he) h3
      exact ⟨iH,xs,U,gN⟩
     by_cases h0:len=0
     ·subst h0
      exact single _ _ rfl (.emp hu) (.list hu (by simp) (by simp) (by simp))
     ·have ia:a.spot=none∧a.block<w.heap.size:=by
       obtain ⟨iH,xs,U,_⟩:=key 0 (by omega)
       obtain ⟨_,h3,h4⟩:=World.cells?_some U
       have h5:=h4 0 gI
       rw[bG (by omega)] at h5
       have:=abH h5
       simpa[Addr.add] using this
      have hF: ∃(F:Nat→List Value) (X:Nat→List V),∀i,i<len→w.cells? base (a.add (i*P.cellsOf e)) (P.cellsOf e)=some (F i)∧nR P w (bc P e) (F i) (X i):=by
       refine ⟨fun i=>if hi:i<len then (key i hi).choose else [],fun i=>if hi:i<len then (key i hi).choose_spec.choose else [],fun i hi=> ?_⟩
       simp only[sf hi]
       exact (key i hi).choose_spec.choose_spec
      obtain ⟨F,X,KG⟩:=hF
      have hx: ∀(i j:Nat) y t',((List.range len).map fun i=>cK P e (X i))[i]? =some y→(bc P e)[j]? =some t'→i<len∧∃v,(F i)[j]? =some v∧Pure P w (nQ w) t' v (bU P e y j)∧WT P t' (bU P e y j):=by
       intro i j y t' hy hj
       have hi:i<len:=by
        have:=(bD.1 hy).1
        simpa using this
       refine ⟨hi,?_⟩
       simp[List.getElem?_range hi] at hy
       obtain ⟨c1,c2,c3⟩:=(KG i hi).2
       obtain ⟨v,z,d1,d2,d3,d4⟩:=c3 j t' hj
       have:bU P e y j=z:=by
        rw[←hy]
        unfold bU cK
        cases ha:bP P e with
        | true=>
         simp only[cond_true,V.cell]
         rw[uA _ _ _ d2]
        | false=>
         simp only[cond_false]
         have:bc P e=[e]:=by simp[bc,ha]
         rw[this] at hj
         cases j with
         | zero=>rw[uA _ _ _ d2]
         | succ j=>simp at hj
       rw[this]
       exact ⟨v,d1,d3,d4⟩
      have gq: ∀i j,i<len→j<P.cellsOf e→w.cell? ⟨a.block,a.off+(i*P.cellsOf e+j),none⟩=some ((F i).getD j undef):=by
       intro i j hi hj
       obtain ⟨h1,U⟩:=KG i hi
       obtain ⟨_,h3,h4⟩:=World.cells?_some h1
       have h5:=h4 j hj
       rw[Go.Deep.add_add] at h5
       have e1:a.add (i*P.cellsOf e+j)=⟨a.block,a.off+(i*P.cellsOf e+j),none⟩:=by
        obtain ⟨b,o,s⟩:=a
        simp only at ia
        rw[ia.1]
        exact nE ..
       rw[e1] at h5
       rw[h5,fU,bG (by omega)]
       rfl
      have ha:a=⟨a.block,a.off,none⟩:=by
       obtain ⟨b,o,s⟩:=a
       simp only at ia
       rw[ia.1]
      refine single (.slice (some a) len cap) (.list e ((List.range len).map fun i=>cK P e (X i))) rfl ?_ ?_
      ·rw[ha]
       refine .list (fun i j=>(F i).getD j undef) hu (by simp) hl (fun _=>ia.2) gq ?_
       intro i j y t' hy hj
       obtain ⟨hi,v,d1,d2,_⟩:=hx i j y t' hy hj
       rw[fU,d1]
       exact d2
      ·refine .list hu (by simp;omega) ?_ ?_
       ·intro i y hy FH
        have hi:i<len:=by
         have:=(bD.1 hy).1
         simpa using this
        simp[List.getElem?_range hi] at hy
        rw[←hy]
        exact ⟨X i,by simp[cK,FH],(KG i hi).2.2.1⟩
       ·intro i j y t' hy hj
        obtain ⟨_,v,_,_,d3⟩:=hx i j y t' hy hj
        exact d3
   | struct fs=>
    simp only[aP] at hg
    obtain ⟨xs,n,hn,rfl,hlen,mO,hx⟩:=DataW.trod_struct hu h
    cases hn
    have het:bc P t=fs.toList.flatMap fun f=>bc P f.type:=by
     rw[←KF hg.2]
     simp[bc,bP,hu]
    obtain ⟨m,ys,_,rz,hm⟩:=RL (w:=w) (rd:=fun t cs=>DataW.trod enc P w base spare held fuel t cs) cs (fun t cs x a b=>FG hL fuel t cs x a b) fs.toList 0 hg.1 (by
     intro f hf
     obtain ⟨i,hi⟩:=sj hf
     rw[sk] at hi
     have rj:i<fs.size:=(iv.1 hi).1
     exact ⟨_,(hx i f hi).trans (bG (by omega))⟩)
    rw[het]
    refine ⟨ys,?_⟩
    have:(cs.drop 0).take (m-0)=cs:=by
     rw[jt,hm,←het,←hc,←hlen,qy]
    rw[this] at rz
    exact rz
   | array n e=>
    simp only[aP,a9] at hg
    obtain ⟨xs,m,hn,rfl,hlen,mO,hx⟩:=DataW.trod_array hu h
    cases hn
    have het:bc P t=(List.replicate n (bc P e)).flatten:=by
     rw[←KF hg.2.2]
     simp[bc,bP,hu]
    obtain ⟨ys,rz⟩:=RM (w:=w) (rd:=DataW.trod enc P w base spare held fuel e) cs hg.2.1 (fun cs x b=>FG hL fuel e cs x (FF hg.1) b) n (by
     intro i hi
     exact ⟨_,(hx i hi).trans (bG (by omega))⟩)
    rw[het]
    refine ⟨ys,?_⟩
    have:cs.take (n*P.cellsOf e)=cs:=by
     have:n*P.cellsOf e=cs.length:=by
      rw[hlen,hc,het,hg.2.1]
      simp
     rw[this,qy]
    rw[this] at rz
    exact rz
   | _=>cases hg
end
section
variable {P:Program} {H:Type} {enc:TypeId × Value→H} {w:World} {L:List TypeId}
theorem abI {base KH:Nat} {spare:Nat→Bool} {held:Bool} {r:Reach} {β:Nat→Option Nat} {hp:Nat→Option an} (hL:Bg P L=true) {t:TypeId} {v:Value} {d:DataW H} {ps:List MemPlace} (ht:t∈L) (fc:Value.okWide P w r KH t v)
  (h:DataW.Trod enc P w base spare held t v d ps): ∃x,ao P w (nQ w) β hp v x∧iO P t x:=by
 obtain ⟨fuel,hf⟩:=h
 obtain ⟨xs,c1,c2,c3⟩:=FG hL fuel t _ _ ht hf
 have hg:=fH.1 hL t ht
 unfold KE at hg
 rw[aP,a9] at hg
 obtain ⟨_,hg⟩:=hg
 have FH:bP P t=true→∃x,ao P w (nQ w) β hp v x∧iO P t x:=by
  intro ha
  have hv: ∃cs,v= .agg cs:=by
   unfold Value.okWide at fc
   unfold bP at ha
   split at fc
   ·obtain ⟨cs,e,_⟩:=fc;exact ⟨cs,e⟩
   ·obtain ⟨cs,e,_⟩:=fc;exact ⟨cs,e⟩
   ·split at ha<;>simp_all
  obtain ⟨cs,rfl⟩:=hv
  refine ⟨.agg xs,.agg (by simpa[Value.cells] using c1.trans c2.symm) fun j v x hv hx=> ?_,fun _=>⟨xs,rfl,c2⟩,fun j t' hj=> ?_⟩
  ·have hj:j<(bc P t).length:=by rw[←c2];exact (bD.1 hx).1
   obtain ⟨v',y,e1,e2,e3,_⟩:=c3 j _ (bG hj)
   rw[hx] at e2
   cases e2
   have:cs[j]? =some v':=by simpa[Value.cells] using e1
   rw[hv] at this
   cases this
   exact .qP e3
  ·obtain ⟨v',y,e1,e2,_,e4⟩:=c3 j t' hj
   have:bU P t (.agg xs) j=y:=by
    simp only[bU,ha,cond_true,V.cell]
    exact uA _ _ _ e2
   rw[this]
   exact e4
 have rf:bP P t=false→v.cells= #[v]→∃x,ao P w (nQ w) β hp v x∧iO P t x:=by
  intro ha uG
  have he:bc P t=[t]:=by simp[bc,ha]
  rw[he] at c1 c2 c3
  obtain ⟨v',y,e1,e2,e3,e4⟩:=c3 0 t rfl
  rw[uG] at e1
  cases e1
  refine ⟨y,.qP e3,⟨fun h=>absurd (ha.symm.trans h) (by simp),fun j t' hj=> ?_⟩⟩
  rw[he] at hj
  cases j with
  | succ j=>simp at hj
  | zero=>
   cases hj
   simpa[bU,ha] using e4
 unfold Value.okWide at fc
 cases hu:P.underlying t with
 | none=>rw[hu] at hg;cases hg
 | some dsc=>
  rw[hu] at hg fc
  cases dsc with
  | int k=>
   refine rf (by simp[bP,hu]) ?_
   simp only[Cell.okWide,Cell.ok,hu] at fc
   cases v<;>first|rfl|(simp at fc;done)|exact fc.elim
  | bool=>
   refine rf (by simp[bP,hu]) ?_
   simp only[Cell.okWide,Cell.ok,hu] at fc
   cases v<;>first|rfl|(simp at fc;done)|exact fc.elim
  | string=>
   refine rf (by simp[bP,hu]) ?_
   simp only[Cell.okWide,Cell.ok,hu] at fc
   cases v<;>first|rfl|(simp at fc;done)|exact fc.elim
  | slice e=>
   refine rf (by simp[bP,hu]) ?_
   simp only[Cell.okWide,Cell.ok,hu] at fc
   cases v<;>first|rfl|(simp at fc;done)|exact fc.elim
  | struct fs=>exact FH (by simp[bP,hu])
  | array n e=>exact FH (by simp[bP,hu])
  | _=>cases hg
theorem RN {base KH:Nat} {spare:Nat→Bool} {held:Bool} {r:Reach} {β:Nat→Option Nat} {hp:Nat→Option an} (hL:Bg P L=true): ∀{ts:List TypeId} {vs:List Value} {ds:List (DataW H)} {ps:List MemPlace},
  (∀t∈ts,t∈L)→(∀(j:Nat) t v,ts[j]? =some t→vs[j]? =some v→Value.okWide P w r KH t v)→DataW.TrodAll enc P w base spare held ts vs ds ps→
  ∃xs,vs.length=xs.length∧(∀(j:Nat) v x,vs[j]? =some v→xs[j]? =some x→ao P w (nQ w) β hp v x)∧qw P ts xs
 | [],vs,ds,ps,_,_,h=>by
  obtain ⟨rfl,rfl,rfl⟩:=trodAll_nil h
  exact ⟨[],rfl,by simp,trivial⟩
 | t::ts,vs,ds,ps,hm,fc,h=>by
  obtain ⟨v,Em,d,RO,a,b,rfl,rfl,rfl,h1,U⟩:=trodAll_cons h
  obtain ⟨x,A9,pS⟩:=abI (β:=β) (hp:=hp) hL (hm t (by simp)) (fc 0 t v rfl rfl) h1
  obtain ⟨xs,hl,hr,hw⟩:=RN (β:=β) (hp:=hp) hL (fun t ht=>hm t (by simp[ht])) (fun j t v a b=>fc (j+1) t v (by simpa using a) (by simpa using b)) U
  refine ⟨x::xs,by simp[hl],fun j v' x' hv hx=> ?_,pS,hw⟩
  cases j with
  | zero=>cases hv;cases hx;exact A9
  | succ j=>exact hr j v' x' (by simpa using hv) (by simpa using hx)
theorem RP {base:Nat} {spare:Nat→Bool} {held:Bool}: ∀{ts:List TypeId} {vs:List Value} {ds:List (DataW H)} {ps:List MemPlace},DataW.TrodAll enc P w base spare held ts vs ds ps→ds.length=ts.length
 | [],vs,ds,ps,h=>by obtain ⟨rfl,rfl,rfl⟩:=trodAll_nil h;rfl
 | t::ts,vs,ds,ps,h=>by
  obtain ⟨v,Em,d,RO,a,b,rfl,rfl,rfl,h1,U⟩:=trodAll_cons h
  simp[RP U]
theorem RQ {base:Nat} (hl:laidOutB P=true) {W W':World} {RR:Nat→Bool}: ∀{ts:List TypeId} {vs:List Value} {ds:List (DataW H)} {ps:List MemPlace},(∀t∈ts,P.readableRec t=true∧t<P.types.size)→
  DataW.TrodAll enc P W base (fun _=>true) true ts vs ds ps→(∀p∈ps,W.sameAt W' p)→(∀p∈ps,RR p.block=true)→DataW.TrodAll enc P W' base RR true ts vs ds ps
 | [],vs,ds,ps,_,h,_,_=>by obtain ⟨rfl,rfl,rfl⟩:=trodAll_nil h;exact trodAll_mk0
 | t::ts,vs,ds,ps,hr,h,h1,U=>by
  obtain ⟨v,Em,d,RO,a,b,rfl,rfl,rfl,h3,h4⟩:=trodAll_cons h
  obtain ⟨r1,r2⟩:=hr t (by simp)
  exact trodAll_cons_mk (WideElems.Trod_stays hl r1 r2 h3 (fun p hp=>h1 p (by simp[hp])) (fun p hp=>U p (by simp[hp])))
   (RQ hl (fun t ht=>hr t (by simp[ht])) h4 (fun p hp=>h1 p (by simp[hp])) (fun p hp=>U p (by simp[hp])))
theorem abJ {f:Func} {s:ChangeSpec} {apart fresh handsOn again:Bool} {W W':World} {args:Array Value} {v:Value} {ds gs:List (DataW H)} {before pa pv:List MemPlace}
  (hW:DataW.Whole enc P f.params.toList s.vars apart W args.toList ds gs before)
  (RS: ∀(b:Nat) (sp:Nat→Bool) (hd:Bool),DataW.TrodAll enc P W' b sp hd f.resultTypes.toList (v.resultList f.resultTypes.size) (s.fn H (ds++gs)).results [])
  (uU: ∀sp:Nat→Bool,(∀p∈before,sp p.block=true)→DataW.TrodAll enc P W' 0 sp true f.params.toList args.toList (s.fn H (ds++gs)).args pa)
  (RT: ∀sp:Nat→Bool,(∀p∈before,sp p.block=true)→DataW.TrodVars enc P W' sp s.vars (s.fn H (ds++gs)).vars pv)
  (FI:before=pa++pv) (hk:W.keptBut W' (· ∈before)) (KI: ∀a:Addr,a.block<W.heap.size→W'.frozen? a=W.frozen? a)
  (au: ∀(j:Nat) (t:TypeId) (r:Value),f.resultTypes[j]? =some t→(v.resultList f.resultTypes.size)[j]? =some r→Value.okWide P W' .any 0 t r):
  s.post enc P f apart fresh handsOn again W args v W':=by
 have hold: ∀p∈before,(fun b=>decide (b<W.heap.size)) p.block=true:=fun p hp=>by simpa using hW.lt p hp
 refine ⟨ds,gs,before,[],pa,pv,hW,RS _ _ _,uU _ hold,RT _ hold,World.keptBut_mono (fun p hp=>⟨hp,?_⟩) hk,fun _=> ?_⟩
 ·rw[FI,eN] at hp
  exact Or.inr hp
 ·have aO:=hW.lt
  obtain ⟨_,_,_,_,_,hz,hn⟩:=hW
  refine ⟨au,_,_,([]++pa)++pv,⟨[]++pa,pv,trodAll_append (uU _ (fun _ _=>rfl)) (RS _ _ _),RT _ (fun _ _=>rfl),rfl,?_,?_⟩,?_⟩
  ·intro b off hp
   have hb:MemPlace.cell b off∈before:=by rw[FI];simpa using hp
   rw[KI ⟨b,off,none⟩ (aO _ hb)]
   exact hz b off hb
  ·intro ha
   have:=hn ha
   rw[FI] at this
   simpa using this
  ·intro p hp _
   rw[FI]
   simpa using hp
theorem abK {A:cS} (hP:jh P A) (nP:P.follows .mixedOrders=true) {f key:Nat} {fn:Func} {tb:TypeId} {s:ChangeSpec} {apart fresh handsOn again:Bool}
  (hf:P.funcs[f]? =some fn) (KJ:A.aV key=f) (hL:Bg P L=true) (bS:fn.params.toList.all (fun t=>hasB L t)=true) (FJ:fn.resultTypes= #[tb]) (FK:P.underlying tb=some .bool) (FL:s.vars=[])
  (hs: ∀ds:List (DataW H),ds.length=fn.params.toList.length→s.fn H ds={results:=[.lit (.bool true)],args:=ds})
  (KK:laidOutB P=true) (KL:fn.params.toList.all (fun t=>P.readableRec t&&Nat.blt t P.types.size)=true)
  (lZ:(A.sin key).bj=[]) (au:((A.sin key).bZ.map (·.2)).all (VS.ok 0)=true) (KM:(A.gH key).bZ=[(0,.one .bool)]) (halt:A.alt key=none)
  {W:World} {base:Nat} {args:Array Value} {ds gs:List (DataW H)} {before:List MemPlace}
  (KN:gE P A.aE W (nQ W)) (fc: ∀(j:Nat) t v,fn.params[j]? =some t→args[j]? =some v→Value.okWide P W .any base t v)
  (hW:DataW.Whole enc P fn.params.toList s.vars apart W args.toList ds gs before) (Q:List V→Prop)
  (hQ: ∀xs:List V,qw P fn.params.toList xs→(∀(j:Nat) v x,args.toList[j]? =some v→xs[j]? =some x→ao P W (nQ W) (fun _=>none) (fun _=>none) v x)→Q xs)
  (KO: ∀xs,qw P fn.params.toList xs→Q xs→∃ds,qx ((A.sin key).bZ.map (·.2)) xs=some ds∧Call P A key ds=some [.bool true]):
  Calls P f args W fun e W'=> ∃v,e= .returned v∧s.post enc P fn apart fresh handsOn again W args v W':=by
 have RU:=hW
 obtain ⟨p,q,hA,hV,rfl,KI,jg⟩:=hW
 rw[FL] at hV
 obtain ⟨KP,hq⟩:gs=[]∧q=[]:=by
  cases gs with
  | nil=>exact ⟨rfl,hV⟩
  | cons g gs=>exact hV.elim
 subst KP
 subst hq
 obtain ⟨xs,hl,hr,RV⟩:=RN (β:=fun _=>none) (hp:=fun _=>none) hL (fun t ht=>FF (fH.1 bS t ht)) (fun j t v a b=>fc j t v (by simpa using a) (by simpa using b)) hA
 obtain ⟨ls,hls,A6⟩:=KO xs RV (hQ xs RV hr)
 obtain ⟨fn',c,h1,U,h3⟩:=abD (A:=A) hP nP key ls [.bool true] A6
 rw[KJ] at h1 h3
 rw[hf] at h1
 cases h1
 have xC: ∀j,(bw (A.sin key) ls).hp j=none:=fun j=>by simp[bw,mk,lZ,eP,jL]
 obtain ⟨_,r1,r2⟩:=AV (P:=P) (w:=W) (I:=nQ W) (n:=0) (β:=fun _=>none) (β':=fun _=>none) (hp:=fun _=>none) (hp':=(bw (A.sin key) ls).hp) (fun j hj=>absurd hj (Nat.not_lt_zero j)) hls au
 have hlen:((A.sin key).bZ.map (·.2)).length=xs.length:=by rw[←r1 [],KA]
 have h4:=h3 W (nQ W) (fun _=>none) args.toList ⟨fun id blk h=>(by rw[xC] at h;cases h),fun id aD blk blk' b h=>(by rw[xC] at h;cases h),fun id blk b h=>(by rw[xC] at h;cases h),fun b h=>h⟩ KN
  (by rw[hl,←hlen,aJ]) (fun j v y hv hy=>r2 [] j v y (fun x hx=>hr j v x hv hx) (by rw[c9];exact hy))
 have ea:args.toList.toArray=args:=by simp
 rw[ea] at h4
 refine h4.mono fun e W' ⟨v,I2,cj,he,ha⟩=>⟨v,he,?_⟩
 have uD: ∀b,b<W.heap.size→W'.heap[b]? =W.heap[b]? :=fun b hb=>ha.xr.cy b hb (by rintro ⟨j,blk,hj,_⟩;rw[xC] at hj;cases hj)
 have JQ:=ha.res
 have RW:A.so key [.bool true]=A.gH key∧A.lv key [.bool true]=[.bool true]:=by unfold cS.so cS.lv;rw[halt];exact ⟨rfl,rfl⟩
 rw[RW.1,RW.2,KM] at JQ
 obtain rfl:v= .bool true:=JQ.kG
 have l8:Value.okWide P W' .any 0 tb (.bool true):=by simp[Value.okWide,FK,Cell.okWide,Cell.ok]
 have lJ:ds.length=fn.params.toList.length:=RP hA
 have jf: ∀p'∈p++[],W.sameAt W' p':=by
  intro p' hp'
  have aO:=RU.lt p' hp'
  cases p' with
  | cell b o=>exact World.cell?_of_block (w:=W) (uD b aO)
  | map b=>exact uD b aO
 refine abJ (pa:=p) (pv:=[]) RU ?_ ?_ ?_ rfl ?_ ?_ ?_
 ·intro b sp hd
  rw[c9,hs ds lJ,FJ]
  exact trodAll_mk1 ⟨1,by simp[DataW.trod,Value.cells,FK]⟩
 ·intro sp ia
  rw[c9,hs ds lJ]
  refine RQ KK (fun t ht=> ?_) hA (fun p' hp'=>jf p' (by simpa using hp')) (fun p' hp'=>ia p' (by simpa using hp'))
  have:=fH.1 KL t ht
  simp only[aP] at this
  exact ⟨this.1,by simpa[ko] using this.2⟩
 ·intro sp ia
  rw[FL,c9,hs ds lJ]
  exact rfl
 ·refine ⟨ha.xr.io.1,ha.xr.io.2,fun i hi=> ?_⟩
  rw[uD i hi]
  split<;>simp_all
 ·intro a aO
  exact World.frozen?_of_block (w:=W) (uD a.block aO)
 ·intro j t r hj KQ
  rw[FJ] at hj KQ
  cases j with
  | zero=>
   simp[Value.resultList] at hj KQ
   subst hj
   subst KQ
   exact l8
  | succ j=>simp at hj
theorem YG {A:cS} (hP:jh P A) (nP:P.follows .mixedOrders=true) {f key:Nat} {fn:Func} {tb:TypeId} {s:ChangeSpec} {apart fresh handsOn again:Bool}
  (hf:P.funcs[f]? =some fn) (KJ:A.aV key=f) (hL:Bg P L=true) (bS:fn.params.toList.all (fun t=>hasB L t)=true) (FJ:fn.resultTypes= #[tb]) (FK:P.underlying tb=some .bool) (FL:s.vars=[])
  (hs: ∀ds:List (DataW H),ds.length=fn.params.toList.length→s.fn H ds={results:=[.lit (.bool true)],args:=ds})
  (KK:laidOutB P=true) (KL:fn.params.toList.all (fun t=>P.readableRec t&&Nat.blt t P.types.size)=true)
  (lZ:(A.sin key).bj=[]) (au:((A.sin key).bZ.map (·.2)).all (VS.ok 0)=true) (KM:(A.gH key).bZ=[(0,.one .bool)]) (halt:A.alt key=none)
  (KO: ∀xs,qw P fn.params.toList xs→∃ds,qx ((A.sin key).bZ.map (·.2)) xs=some ds∧Call P A key ds=some [.bool true])
  {W:World} {base:Nat} {args:Array Value} {ds gs:List (DataW H)} {before:List MemPlace}
  (KN:gE P A.aE W (nQ W)) (fc: ∀(j:Nat) t v,fn.params[j]? =some t→args[j]? =some v→Value.okWide P W .any base t v)
  (hW:DataW.Whole enc P fn.params.toList s.vars apart W args.toList ds gs before):
  Calls P f args W fun e W'=> ∃v,e= .returned v∧s.post enc P fn apart fresh handsOn again W args v W':=
 abK hP nP hf KJ hL bS FJ FK FL hs KK KL lZ au KM halt KN fc hW (fun _=>True) (fun _ _ _=>trivial) fun xs h _=>KO xs h
end
end Go.AM
namespace Go.AM
@[simp] theorem V.toInt_int (k:IntKind) (n:Int):V.toInt (.int k n)=n:=by cases k<;>rfl
@[simp] theorem V.dj (b:Bool):V.toBool (.bool b)=b:=by cases b<;>rfl
@[simp] theorem V.FM (s:List UInt8):V.toStr (.str s)=s:=by cases s<;>rfl
@[simp] theorem V.kM (e:TypeId) (es:List V):V.toList (.list e es)=es:=by cases es<;>rfl
@[simp] theorem V.alo (e:TypeId) (es:List V):V.toList (.own e es)=es:=by cases es<;>rfl
@[simp] theorem V.abL (cs:List V) (j:Nat):V.cell (.agg cs) j=V.nth cs j:=by cases cs<;>rfl
@[simp] theorem V.alp (cs:List V) (j:Nat):V.comp (.bq cs) j=V.nth cs j:=by cases cs<;>rfl
@[simp] theorem V.aM (x:V) (l:List V):V.nth (x::l) 0=x:=by cases l<;>rfl
@[simp] theorem V.rA (x:V) (l:List V) (n:Nat):V.nth (x::l) (n+1)=V.nth l n:=by cases l<;>rfl
@[simp] theorem V.alq (x y:V) (l:List V):V.nth (x::y::l) 1=y:=by cases l<;>rfl
@[simp] theorem V.alr (x y z:V) (l:List V):V.nth (x::y::z::l) 2=z:=by cases l<;>rfl
@[simp] theorem V.als (x y z u:V) (l:List V):V.nth (x::y::z::u::l) 3=u:=by cases l<;>rfl
theorem wrap64 {x:Int} (h1: -9223372036854775808≤x) (U:x<9223372036854775808):IntKind.wrap .i64 x=x:=by
 rw[IntKind.wrap_i64];omega
theorem FN {x:Int} (h1:0≤x) (U:x<256):IntKind.wrap .u8 x=x:=by
 rw[IntKind.wrap_u8];omega
theorem abM {es:List V} {i:Int} {n:Nat} (h:i=n):idx es i=es[n]? :=by
 subst h;simp[idx]
@[simp] theorem KR (es:List V) (n:Nat):idx es (n:Int)=es[n]? :=by simp[idx]
@[simp] theorem az {α:Type} (p:Prop) [Decidable p] (a b:α):(bif decide p then a else b)=if p then a else b:=by by_cases h:p<;>simp[h]
@[simp] theorem dq {α:Type} (m n:Int) (a b:α):(bif m==n then a else b)=if m=n then a else b:=by
 by_cases h:m=n
 ·simp[h]
 ·have:(m==n)=false:=by simp[h]
  rw[this,ai h];rfl
@[simp] theorem sZ {α:Type} (m n:Int) (a b:α):(bif m != n then a else b)=if m=n then b else a:=by
 by_cases h:m=n
 ·simp[h]
 ·have:(m != n)=true:=by simp[h]
  rw[this,ai h];rfl
@[simp] theorem ig {α:Type} (c:Bool) (a b:α):(bif !c then a else b)=bif c then b else a:=by cases c<;>rfl
@[simp] theorem Bi {α:Type} (m n:Nat) (a b:α):(bif Nat.ble m n then a else b)=if m≤n then a else b:=by
 cases hb:Nat.ble m n with
 | true=>rw[aj (Nat.le_of_ble_eq_true hb)];rfl
 | false=>
  rw[ai fun h=> ?_]
  ·rfl
  ·rw[Nat.ble_eq_true_of_le h] at hb;cases hb
@[simp] theorem dc {α:Type} (c d:Bool) (a b:α):(bif c&&d then a else b)=bif c then (bif d then a else b) else b:=by cases c<;>rfl
section
variable {P:Program}
def RX (P : Program) : Bool := P.funcs.all fun fn => !(fn.name == "runtime.NumGoroutine")
theorem YA (h:RX P=true):zH P:=by
 intro f fn hf
 unfold RX at h
 have:=(Array.all_eq_true_iff_forall_mem.1 h) fn (Array.mem_of_getElem? hf)
 simpa using this
theorem IC {t:TypeId} {ts:List TypeId} {xs:List V} (h:qw P (t::ts) xs): ∃x ys,xs=x::ys∧iO P t x∧qw P ts ys:=by
 cases xs with
 | nil=>exact h.elim
 | cons x ys=>exact ⟨x,ys,rfl,h.1,h.2⟩
theorem YC {xs:List V} (h:qw P [] xs):xs=[]:=by
 cases xs with
 | nil=>rfl
 | cons x ys=>exact h.elim
theorem iO.one {t:TypeId} {x:V} (ha:bP P t=false) (h:iO P t x):WT P t x:=by
 have he:bc P t=[t]:=by simp[bc,ha]
 have:=h.2 0 t (by rw[he];rfl)
 simpa[bU,ha] using this
theorem WT.dZ {t:TypeId} {k:IntKind} {x:V} (hu:P.underlying t=some (.int k)) (h:WT P t x): ∃n,x= .int k n∧k.min≤n∧n≤k.max:=by
 cases h with
 | int h1 U=>
  rw[hu] at h1
  cases h1
  simp only[Lit.wf,aP,eg] at U
  exact ⟨_,rfl,U⟩
 | bool h1=>rw[hu] at h1;cases h1
 | str h1=>rw[hu] at h1;cases h1
 | list h1=>rw[hu] at h1;cases h1
theorem WT.kG {t:TypeId} {x:V} (hu:P.underlying t=some .bool) (h:WT P t x): ∃b,x= .bool b:=by
 cases h with
 | int h1=>rw[hu] at h1;cases h1
 | bool h1=>exact ⟨_,rfl⟩
 | str h1=>rw[hu] at h1;cases h1
 | list h1=>rw[hu] at h1;cases h1
theorem WT.mH {t:TypeId} {x:V} (hu:P.underlying t=some .string) (h:WT P t x): ∃s,x= .str s∧s.length≤maxLen:=by
 cases h with
 | int h1=>rw[hu] at h1;cases h1
 | bool h1=>rw[hu] at h1;cases h1
 | str h1 U=>exact ⟨_,rfl,U⟩
 | list h1=>rw[hu] at h1;cases h1
theorem WT.RY {t e:TypeId} {x:V} (hu:P.underlying t=some (.slice e)) (h:WT P t x): ∃es,x= .list e es∧es.length≤maxLen∧∀y∈es,iO P e y:=by
 cases h with
 | int h1=>rw[hu] at h1;cases h1
 | bool h1=>rw[hu] at h1;cases h1
 | str h1=>rw[hu] at h1;cases h1
 | list h1 U h3 h4=>
  rw[hu] at h1
  cases h1
  refine ⟨_,rfl,U,fun y hy=> ?_⟩
  obtain ⟨i,hi⟩:=sj hy
  exact ⟨h3 i y hi,fun j t' hj=>h4 i j y t' hi hj⟩
theorem iO.ll {t:TypeId} {x:V} (ha:bP P t=true) (h:iO P t x): ∃xs,x= .agg xs∧xs.length=(bc P t).length∧∀(j:Nat) t' y,(bc P t)[j]? =some t'→xs[j]? =some y→WT P t' y:=by
 obtain ⟨xs,rfl,hl⟩:=h.1 ha
 refine ⟨xs,rfl,hl,fun j t' y hj hy=> ?_⟩
 have:=h.2 j t' hj
 simp only[bU,ha,cond_true,V.abL] at this
 rw[uA _ _ _ hy] at this
 exact this
theorem KS {α:Type} {f:α→V} {p:α→Prop}: ∀{es:List V},(∀y∈es,∃a,y=f a∧p a)→∃l:List α,es=l.map f∧∀a∈l,p a
 | [],_=>⟨[],rfl,by simp⟩
 | y::es,h=>by
  obtain ⟨a,rfl,ha⟩:=h y (by simp)
  obtain ⟨l,rfl,hl⟩:=KS (f:=f) (p:=p) (es:=es) fun z hz=>h z (by simp[hz])
  exact ⟨a::l,rfl,by
   intro b hb
   rcases dG.1 hb with rfl|hb
   ·exact ha
   ·exact hl b hb⟩
theorem iO.int {t:TypeId} {x:V} (hu:P.underlying t=some (.int .i64)) (h:iO P t x): ∃n,x= .int .i64 n∧IntKind.min .i64≤n∧n≤IntKind.max .i64:=
 (h.one (by simp[bP,hu])).dZ hu
theorem iO.str {t:TypeId} {x:V} (hu:P.underlying t=some .string) (h:iO P t x): ∃s,x= .str s∧s.length≤maxLen:=
 (h.one (by simp[bP,hu])).mH hu
end
def un.{u} {A B:Type} {γ:Sort u} (f:A→B→γ) (p:A × B):γ:=f p.1 p.2
def bV {A B γ:Type} (f:A→γ) (g:B→γ):A ⊕ B→γ
 | .inl a=>f a
 | .inr b=>g b
def aw:List Nat→Code→Code
 | [],c=>c
 | 0::p,.seq a _=>aw p a
 | _::p,.seq _ b=>aw p b
 | 0::p,.cond _ a _=>aw p a
 | _::p,.cond _ _ b=>aw p b
 | _::p,.block _ c=>aw p c
 | _::p,.loop c=>aw p c
 | _,c=>c
inductive cq where
 | loop (c:Code)
 | cond (t:Nat) (x y:Code)
section
variable (P:Program) (A:cS) (C:ae) (L:ct) (f n m:Nat)
def p8:Code→List cq
 | .seq a b=>p8 a++p8 b
 | .cond (.tmp t) x y=>
  match A.iw f (t*16+15) with
  | none=>p8 x++p8 y
  | some _=>[.cond t x y]
 | .cond (.const _) x y=>p8 x++p8 y
 | .block _ c=>p8 c
 | .loop c=>[.loop c]
 | _=>[]
def cr:cq→Prop
 | .loop c=>
  match A.iw f (keyOf c+1) with
  | none=>True
  | some S=> ∀(β:Type) ds (k:Nat→List V→Option β),L β (keyOf c+1) ds k=(Loop (stepG P A C f n m S c) ds).bind fun r=>k r.1 r.2
 | .cond t x y=>
  match A.iw f (t*16+15) with
  | none=>True
  | some S=> ∀(β:Type) ds (k:Nat→List V→Option β),L β (t*16+15) ds k=(Al P A C f n m t S x y ds).bind fun r=>k r.1 r.2
def nS:List cq→Prop
 | []=>True
 | b::l=>cr P A C L f n m b∧nS l
variable {P A C L f n m}
theorem nS.left {a b:List cq}:nS P A C L f n m (a++b)→nS P A C L f n m a:=by
 induction a with
 | nil=>exact fun _=>trivial
 | cons x a ih=>exact fun h=>⟨h.1,ih h.2⟩
theorem nS.right {a b:List cq}:nS P A C L f n m (a++b)→nS P A C L f n m b:=by
 induction a with
 | nil=>exact fun h=>h
 | cons x a ih=>exact fun h=>ih h.2
theorem bf: ∀{c:Code} {bs:List cq},p8 A f c=bs→nS P A C L f n m bs→iD P A C L f n m c:=by
 intro c
 induction c with
 | seq a b I4 I5=>
  intro bs h hb
  subst h
  exact ⟨I4 rfl hb.left,I5 rfl hb.right⟩
 | cond c x y iT iU=>
  intro bs h hb
  subst h
  cases c with
  | tmp t=>
   simp only[p8] at hb
   simp only[iD]
   cases hs:A.iw f (t*16+15) with
   | none=>
    rw[hs] at hb
    exact ⟨iT rfl hb.left,iU rfl hb.right⟩
   | some S=>
    rw[hs] at hb
    have:=hb.1
    simp only[cr,hs] at this
    exact this
  | const v=>exact ⟨iT rfl hb.left,iU rfl hb.right⟩
  | _=>trivial
 | block id c ih=>
  intro bs h hb
  subst h
  exact ih rfl hb
 | loop c ih=>
  intro bs h hb
  subst h
  exact hb.1
 | _=>intro bs h hb;trivial
variable (P A C L f n m) in
noncomputable def KT {β:Type} (t:Nat) (S:Shape × List (Out × Shape)) (x y:Code) (ds:List V) (k:Nat→List V→Option β):Option β:=
 let kc:Out→St→Option β:=fun o st=>
  match o with
  | .norm=>(ways m 0 S.2 (.norm,canon m (A.join f t) st)).bind fun e=>k e.1 e.2
  | o=>(ways m 0 S.2 (o,st)).bind fun e=>k e.1 e.2
 match (bw S.1 ds).sl t with
 | .bool b=>bif b then iC P A C L f n m x (bw S.1 ds) kc else iC P A C L f n m y (bw S.1 ds) kc
 | _=>none
theorem abN {t:Nat} {x y:Code} {S:Shape × List (Out × Shape)} (hS:A.iw f (t*16+15)=some S) (hx:iD P A C L f n m x) (hy:iD P A C L f n m y) {I R:Type} (enc:I→List V) (mU:I→R→Nat × List V)
  (de:List V→I) (body:I→(β:Type)→(R→Option β)→Option β) (u3: ∀ds,bw S.1 (enc (de ds))=bw S.1 ds)
  (e1: ∀i (β:Type) (k:Nat→List V→Option β),KT P A C L f n m t S x y (enc i) k=body i β (fun r=>k (mU i r).1 (mU i r).2))
  (hl: ∀(β:Type) ds (k:Nat→List V→Option β),L β (t*16+15) ds k=body (de ds) β (fun r=>k (mU (de ds) r).1 (mU (de ds) r).2)):
  cr P A C L f n m (.cond t x y):=by
 simp only[cr,hS]
 intro β ds k
 rw[hl,←e1]
 unfold KT Al
 rw[u3]
 simp only
 have hk: ∀(z:Option (Out × St)),(z.bind fun r=>(match r.1 with
   | .norm=>(ways m 0 S.2 (.norm,canon m (A.join f t) r.2)).bind fun e=>k e.1 e.2
   | o=>(ways m 0 S.2 (o,r.2)).bind fun e=>k e.1 e.2))=((z.bind fun r=>
   match r.1 with
   | .norm=>some (Out.norm,canon m (A.join f t) r.2)
   | _=>some r).bind fun r=>ways m 0 S.2 r).bind fun r=>k r.1 r.2:=by
  intro z
  cases z with
  | none=>rfl
  | some r=>obtain ⟨o,st⟩:=r;cases o<;>rfl
 cases (bw S.1 ds).sl t with
 | bool b=>
  cases b with
  | true=>simp only[cond_true,Ek P A C f n m x hx];exact hk _
  | false=>simp only[cond_false,Ek P A C f n m y hy];exact hk _
 | _=>rfl
theorem bx {b:cq} {l:List cq} (h:cr P A C L f n m b) (U:nS P A C L f n m l):nS P A C L f n m (b::l):=⟨h,U⟩
theorem av:nS P A C L f n m []:=trivial
theorem aY {key:Nat} {bs:List cq} (hb:p8 A key (cE P (A.aV key))=bs) (ht:nS P A (Call P A) L key (cH P (A.aV key)) (A.sin key).bj.length bs) {ds:List V} {r:Option (List V)}
  (h:I6 P A (Call P A) L key ds=r):Call P A key ds=r:=by
 rw[abG,YM P A (Call P A) key (bf hb ht),h]
end
inductive LK where
 | int (k:IntKind)
 | bool
 | str
 | list (e:TypeId)
 | nat
def LK.Ty:LK→Type
 | .int _=>Int
 | .bool=>Bool
 | .str=>List UInt8
 | .list _=>List V
 | .nat=>Nat
def LK.enc:(k:LK)→k.Ty→V
 | .int k,n=> .int k n
 | .bool,b=> .bool b
 | .str,s=> .str s
 | .list e,l=> .list e l
 | .nat,n=>er n
def LK.dec:(k:LK)→V→k.Ty
 | .int _,v=>v.toInt
 | .bool,v=>v.toBool
 | .str,v=>v.toStr
 | .list _,v=>v.toList
 | .nat,v=>ld v
theorem LK.RZ: ∀(k:LK) (x:k.Ty),k.dec (k.enc x)=x
 | .int _,_=>rfl
 | .bool,_=>rfl
 | .str,_=>rfl
 | .list _,_=>rfl
 | .nat,_=>rfl
def KU:List Nat→List LK
 | []=>[]
 | _::l=> .nat::KU l
def LS.ks:LS→List LK
 | .int k=>[.int k]
 | .bool=>[.bool]
 | .str=>[.str]
 | .list e=>[.list e]
 | .sub .. =>[.nat,.nat]
 | .ptr _=>[.nat,.nat]
 | .row _ _ cs=>KU cs
 | .cR _ cs _=> .nat::KU cs
 | _=>[]
def xD:List LS→List LK
 | []=>[]
 | l::ls=>l.ks++xD ls
def VS.ks:VS→List LK
 | .one l=>l.ks
 | .agg ls=>xD ls
 | .bq ls=>xD ls
 | .fn _ a b=>xD a++xD b
 | .pref _ ls=>xD ls
def R0:List VS→List LK
 | []=>[]
 | l::ls=>l.ks++R0 ls
def BS.ks:BS→List LK
 | .var _ cs=>R0 cs
 | .arr e _=>[.list e]
 | .nest e=>[.list e]
 | .dead=>[]
 | .map t=>[.list t]
def R3:List (Nat × VS)→List LK
 | []=>[]
 | p::l=>p.2.ks++R3 l
def R4:List BS→List LK
 | []=>[]
 | b::l=>b.ks++R4 l
def Shape.ks (S:Shape):List LK:=R3 S.bZ++R4 S.bj
def KV:List Nat→List V→List V
 | [],_=>[]
 | _::cs,ds=>er (ld (V.nth ds 0))::KV cs (ds.drop 1)
def LS.norm:LS→List V→List V
 | .int k,ds=>[.int k (V.nth ds 0).toInt]
 | .bool,ds=>[.bool (V.nth ds 0).toBool]
 | .str,ds=>[.str (V.nth ds 0).toStr]
 | .list e,ds=>[.list e (V.nth ds 0).toList]
 | .sub ..,ds=>[er (ld (V.nth ds 0)),er (ld (V.nth ds 1))]
 | .ptr _,ds=>[er (ld (V.nth ds 0)),er (ld (V.nth ds 1))]
 | .row _ _ cs,ds=>KV cs ds
 | .cR _ cs _,ds=>er (ld (V.nth ds 0))::KV cs (ds.drop 1)
 | _,_=>[]
def xE:List LS→List V→List V
 | [],_=>[]
 | l::ls,ds=>l.norm ds++xE ls (ds.drop l.size)
def VS.norm:VS→List V→List V
 | .one l,ds=>l.norm ds
 | .agg ls,ds=>xE ls ds
 | .bq ls,ds=>xE ls ds
 | .fn _ a b,ds=>xE a ds++xE b (ds.drop (kA a))
 | .pref _ ls,ds=>xE ls ds
def R5:List VS→List V→List V
 | [],_=>[]
 | l::ls,ds=>l.norm ds++R5 ls (ds.drop l.size)
def BS.norm:BS→List V→List V
 | .var _ cs,ds=>R5 cs ds
 | .arr e _,ds=>[.list e (V.nth ds 0).toList]
 | .nest e,ds=>[.list e (V.nth ds 0).toList]
 | .dead,_=>[]
 | .map t,ds=>[.list t (V.nth ds 0).toList]
def R6:List (Nat × VS)→List V→List V
 | [],_=>[]
 | p::l,ds=>p.2.norm ds++R6 l (ds.drop p.2.size)
def R7:List BS→List V→List V
 | [],_=>[]
 | b::l,ds=>b.norm ds++R7 l (ds.drop b.size)
def Shape.norm (S:Shape) (ds:List V):List V:=R6 S.bZ ds++R7 S.bj (ds.drop (oI S.bZ))
def u4:LK→List LK→Type
 | k,[]=>k.Ty
 | k,k'::ks=>k.Ty × u4 k' ks
def kN:List LK→Type
 | []=>Unit
 | k::ks=>u4 k ks
def u5:(k:LK)→(ks:List LK)→u4 k ks→List V
 | k,[],x=>[k.enc x]
 | k,k'::ks,x=>k.enc x.1::u5 k' ks x.2
def ly:(ks:List LK)→kN ks→List V
 | [],_=>[]
 | k::ks,x=>u5 k ks x
def Bj:(k:LK)→(ks:List LK)→List V→u4 k ks
 | k,[],l=>k.dec (V.nth l 0)
 | k,k'::ks,l=>(k.dec (V.nth l 0),Bj k' ks l.tail)
def o0:(ks:List LK)→List V→kN ks
 | [],_=>()
 | k::ks,l=>Bj k ks l
theorem R8: ∀(k:LK) (ks:List LK) (x:u4 k ks) (r:List V),Bj k ks (u5 k ks x++r)=x
 | k,[],x,r=>LK.RZ k x
 | k,k'::ks,x,r=>by
  show (k.dec (k.enc x.1),Bj k' ks (u5 k' ks x.2++r))=x
  rw[LK.RZ,R8 k' ks]
  rfl
def xF:List LK→Type 1→Type 1
 | [],R=>R
 | k::ks,R=>k.Ty→xF ks R
def R9:(k:LK)→(ks:List LK)→{R:Type 1}→xF (k::ks) R→u4 k ks→R
 | _,[],_,f,x=>f x
 | _,k'::ks,_,f,x=>R9 k' ks (f x.1) x.2
def u6:(ks:List LK)→{R:Type 1}→xF ks R→kN ks→R
 | [],_,f,_=>f
 | k::ks,_,f,x=>R9 k ks f x
def xG {α:Type} (b:Bool):List Bool→List α→List α
 | [],_=>[]
 | _,[]=>[]
 | c::m,x::l=>bif c==b then x::xG b m l else xG b m l
def merge:List Bool→List V→List V→List V
 | [],_,_=>[]
 | true::m,i,x=>V.nth x 0::merge m i x.tail
 | false::m,i,x=>V.nth i 0::merge m i.tail x
def xH:List Nat→List LK→List LK
 | [],_=>[]
 | _,[]=>[]
 | 0::t,k::ks=>k::xH t ks
 | (_+1)::t,_::ks=>xH t ks
abbrev fP:=List Nat × List LK
def fP.fresh (w:fP):List LK:=xH w.1 w.2
def put:List Nat→List V→List V→List V
 | [],_,_=>[]
 | 0::t,ds,x=>V.nth x 0::put t ds x.tail
 | (j+1)::t,ds,x=>V.nth ds j::put t ds x
def u7:List Nat→List V→List V
 | [],_=>[]
 | 0::t,l=>V.nth l 0::u7 t l.tail
 | (_+1)::t,l=>u7 t l.tail
def s0:fP→List fP→Type
 | w,[]=>kN w.fresh
 | w,w'::ws=>kN w.fresh ⊕ s0 w' ws
def rB:List fP→Type
 | []=>Empty
 | w::ws=>s0 w ws
def wN (ds:List V) {β:Type} (k:Nat→List V→Option β):Nat→(w:fP)→(ws:List fP)→s0 w ws→Option β
 | j,w,[],r=>k j (put w.1 ds (ly w.fresh r))
 | j,w,w'::ws,r=>bV (fun x=>k j (put w.1 ds (ly w.fresh x))) (fun y=>wN ds k (j+1) w' ws y) r
def wT (ds:List V) {β:Type} (k:Nat→List V→Option β):(ws:List fP)→rB ws→Option β
 | [],r=>Empty.elim r
 | w::ws,r=>wN ds k 0 w ws r
def o4 (ds:List V):Nat→(w:fP)→(ws:List fP)→s0 w ws→Nat × List V
 | j,w,[],r=>(j,put w.1 ds (ly w.fresh r))
 | j,w,_::_,.inl x=>(j,put w.1 ds (ly w.fresh x))
 | j,_,w'::ws,.inr y=>o4 ds (j+1) w' ws y
def xI (ds:List V):(ws:List fP)→rB ws→Nat × List V
 | [],r=>Empty.elim r
 | w::ws,r=>o4 ds 0 w ws r
theorem Sa (ds:List V) {β:Type} (k:Nat→List V→Option β): ∀(j:Nat) (w:fP) (ws:List fP) (r:s0 w ws),wN ds k j w ws r=k (o4 ds j w ws r).1 (o4 ds j w ws r).2
 | _,_,[],_=>rfl
 | _,_,_::_,.inl _=>rfl
 | j,_,w'::ws,.inr y=>Sa ds k (j+1) w' ws y
theorem FO (ds:List V) {β:Type} (k:Nat→List V→Option β): ∀(ws:List fP) (r:rB ws),wT ds k ws r=k (xI ds ws r).1 (xI ds ws r).2
 | [],r=>Empty.elim r
 | w::ws,r=>Sa ds k 0 w ws r
def xJ:Nat→(w:fP)→(ws:List fP)→List V→s0 w ws
 | _,w,[],l=>o0 w.fresh (u7 w.1 l)
 | 0,w,_::_,l=> .inl (o0 w.fresh (u7 w.1 l))
 | j+1,_,w'::ws,l=> .inr (xJ j w' ws l)
def Sb (j:Nat):(ws:List fP)→List V→Option (rB ws)
 | [],_=>none
 | w::ws,l=>some (xJ j w ws l)
def xK:List Nat→List V→List V
 | [],_=>[]
 | 0::t,x=>V.nth x 0::xK t x.tail
 | (_+1)::t,x=>xK t x
theorem KW: ∀(t:List Nat) (ds x:List V),u7 t (put t ds x)=xK t x
 | [],_,_=>rfl
 | 0::t,ds,x=>congrArg (V.nth x 0:: ·) (KW t ds x.tail)
 | (_+1)::t,ds,x=>KW t ds x
theorem KX: ∀(t:List Nat) (ks:List LK) (k:LK) (bW:List LK),xH t ks=k::bW→∀x:u4 k bW,∃r,xK t (u5 k bW x)=u5 k bW x++r
 | [],_,_,_,h,_=>by cases h
 | _::_,[],_,_,h,_=>by simp[xH] at h
 | 0::t,a::ks,k,bW,h,x=>by
  simp only[xH,List.cons.injEq] at h
  obtain ⟨rfl,U⟩:=h
  cases bW with
  | nil=>exact ⟨xK t [],rfl⟩
  | cons k' bW=>
   obtain ⟨r,hr⟩:=KX t ks k' bW U x.2
   exact ⟨r,congrArg (a.enc x.1:: ·) hr⟩
 | (_+1)::t,a::ks,k,bW,h,x=>KX t ks k bW h x
theorem Sd (w:fP) (ds:List V) (x:kN w.fresh):o0 w.fresh (u7 w.1 (put w.1 ds (ly w.fresh x)))=x:=by
 rw[KW]
 revert x
 generalize hf:w.fresh=f
 cases f with
 | nil=>intro x;rfl
 | cons k ks=>
  intro x
  obtain ⟨r,hr⟩:=KX w.1 w.2 k ks hf x
  show Bj k ks (xK w.1 (u5 k ks x))=x
  rw[hr]
  exact R8 k ks x r
theorem Se (ds:List V): ∀(j:Nat) (w:fP) (ws:List fP) (r:s0 w ws),j≤(o4 ds j w ws r).1
 | _,_,[],_=>cg _
 | _,_,_::_,.inl _=>cg _
 | j,_,w'::ws,.inr y=>lK (Nat.le_succ j) (Se ds (j+1) w' ws y)
theorem abO (w:fP) (l:List V): ∀j,xJ j w [] l=o0 w.fresh (u7 w.1 l)
 | 0=>rfl
 | _+1=>rfl
theorem Sf (ds:List V): ∀(j:Nat) (w:fP) (ws:List fP) (r:s0 w ws),xJ ((o4 ds j w ws r).1-j) w ws (o4 ds j w ws r).2=r
 | j,w,[],r=>(abO w _ _).trans (Sd w ds r)
 | j,w,w'::ws,.inl x=>by
  show xJ (j-j) w (w'::ws) (put w.1 ds (ly w.fresh x))= .inl x
  rw[Nat.sub_self]
  exact congrArg Sum.inl (Sd w ds x)
 | j,w,w'::ws,.inr y=>by
  have h1:=Se ds (j+1) w' ws y
  have U:=Sf ds (j+1) w' ws y
  show xJ ((o4 ds (j+1) w' ws y).1-j) w (w'::ws) (o4 ds (j+1) w' ws y).2= .inr y
  obtain ⟨d,hd⟩: ∃d,(o4 ds (j+1) w' ws y).1=j+1+d:=⟨(o4 ds (j+1) w' ws y).1-(j+1),by omega⟩
  rw[hd] at U⊢
  rw[show j+1+d-(j+1)=d by omega] at U
  rw[show j+1+d-j=d+1 by omega]
  exact congrArg Sum.inr U
theorem abP (ds:List V): ∀(ws:List fP) (r:rB ws),Sb (xI ds ws r).1 ws (xI ds ws r).2=some r
 | [],r=>Empty.elim r
 | w::ws,r=>congrArg some (Sf ds 0 w ws r)
section
variable {P:Program} {A:cS} {C:ae} {L:ct} {f n m:Nat}
theorem abQ {c:Code} {S:Shape × List (Out × Shape)} (hS:A.iw f (keyOf c+1)=some S) (hL:iD P A C L f n m c) {I X R:Type} (enc:I→X→List V) (mU:I→R→Nat × List V)
  (p9:List V→I) (rC:List V→X) (FP:Nat × List V→Option R) (body:I→X→(β:Type)→(X→Option β)→(R→Option β)→Option β)
  (u3: ∀ds,bw S.1 (enc (p9 ds) (rC ds))=bw S.1 ds) (KY: ∀i x,rC (enc i x)=x) (hdr: ∀i r,FP (mU i r)=some r)
  (e1: ∀i x (β:Type) (k:(List V ⊕ (Nat × List V))→Option β),iC P A C L f n m c (bw S.1 (enc i x)) (fun o st=>(nz m S.1 S.2 (some (o,st))).bind k)=
   body i x β (fun y=>k (.inl (enc i y))) (fun r=>k (.inr (mU i r))))
  (hl: ∀(β:Type) ds (k:Nat→List V→Option β),L β (keyOf c+1) ds k=(Loop (fun x=>body (p9 ds) x (X ⊕ R) (fun y=>some (.inl y)) (fun r=>some (.inr r))) (rC ds)).bind fun r=>k (mU (p9 ds) r).1 (mU (p9 ds) r).2):
  cr P A C L f n m (.loop c):=by
 simp only[cr,hS]
 intro β ds k
 rw[hl]
 have hex: ∀(z:Option (Out × St)),nz m S.1 S.2 z=z.bind fun r=>nz m S.1 S.2 (some (r.1,r.2)):=by
  intro z;cases z<;>rfl
 have hs: ∀i x,stepG P A C f n m S c (enc i x)=(body i x (X ⊕ R) (fun y=>some (.inl y)) (fun r=>some (.inr r))).map fun| .inl y=> .inl (enc i y)| .inr r=> .inr (mU i r):=by
  intro i x
  have k1:=e1 i x _ (fun z=>some z)
  have k2:=e1 i x (X ⊕ R) (fun| .inl ds=>some (.inl (rC ds))| .inr e=>(FP e).map .inr)
  have k3:=e1 i x (List V ⊕ (Nat × List V)) (fun| .inl ds=>some (.inl (enc i (rC ds)))| .inr e=>(FP e).map fun r=> .inr (mU i r))
  simp only[KY,hdr,Option.map_some] at k2 k3
  unfold stepG
  rw[hex]
  rw[Ek P A C f n m c hL] at k1 k2 k3
  rw[←k2]
  refine aW ?_ (k1.trans (k3.symm.trans ?_))
  ·congr 1
   funext r
   cases nz m S.1 S.2 (some (r.1,r.2))<;>rfl
  ·cases exec P A C f n m c (bw S.1 (enc i x)) with
   | none=>rfl
   | some r=>
    simp only[Option.bind_some]
    cases nz m S.1 S.2 (some (r.1,r.2)) with
    | none=>rfl
    | some z=>
     cases z with
     | inl _=>rfl
     | inr e=>simp only[Option.bind_some];cases FP e<;>rfl
 have h0:stepG P A C f n m S c ds=stepG P A C f n m S c (enc (p9 ds) (rC ds)):=by
  unfold stepG
  rw[u3]
 have:Loop (stepG P A C f n m S c) ds=(Loop (fun x=>body (p9 ds) x (X ⊕ R) (fun y=>some (.inl y)) (fun r=>some (.inr r))) (rC ds)).map (mU (p9 ds)):=by
  rw[DX,h0,←DX]
  exact YK (enc (p9 ds)) (mU (p9 ds)) (fun x=>hs _ _) (rC ds)
 rw[this]
 cases Loop (fun x=>body (p9 ds) x (X ⊕ R) (fun y=>some (.inl y)) (fun r=>some (.inr r))) (rC ds)<;>rfl
abbrev Bk (S:Shape) (mk:List Bool):List LK:=xG false mk S.ks
abbrev u9 (S:Shape) (mk:List Bool):List LK:=xG true mk S.ks
def rD (ts:List (List Nat)) (W:List (Out × Shape)):List fP:=
 match ts,W with
 | t::ts,w::W=>(t,w.2.ks)::rD ts W
 | _,_=>[]
abbrev Bl (S:Shape) (mk:List Bool) (i:kN (Bk S mk)) (x:kN (u9 S mk)):List V:=merge mk (ly _ i) (ly _ x)
abbrev KZ (S:Shape) (mk:List Bool) (i:kN (Bk S mk)):List V:=merge mk (ly _ i) []
abbrev FQ (S:Shape) (mk:List Bool) (ds:List V):kN (Bk S mk):=o0 _ (xG false mk (S.norm ds))
abbrev FR (S:Shape) (mk:List Bool) (ds:List V):kN (u9 S mk):=o0 _ (xG true mk (S.norm ds))
abbrev Sg (X R:Type):Type 1:=(β:Type)→(X→Option β)→(R→Option β)→Option β
abbrev K0 (S:Shape × List (Out × Shape)) (mk:List Bool) (ts:List (List Nat)):Type 1:=xF (Bk S.1 mk) (xF (u9 S.1 mk) (Sg (kN (u9 S.1 mk)) (rB (rD ts S.2))))
abbrev K1 (S:Shape × List (Out × Shape)) (mk:List Bool) (ts:List (List Nat)) (b:K0 S mk ts) (i:kN (Bk S.1 mk)) (x:kN (u9 S.1 mk)):Sg (kN (u9 S.1 mk)) (rB (rD ts S.2)):=u6 _ (u6 _ b i) x
noncomputable def bY (S:Shape × List (Out × Shape)) (mk:List Bool) (ts:List (List Nat)) (b:K0 S mk ts) {β:Type} (ds:List V) (k:Nat→List V→Option β):Option β:=
 (Loop (fun x=>K1 S mk ts b (FQ S.1 mk ds) x (kN (u9 S.1 mk) ⊕ rB (rD ts S.2)) (fun y=>some (.inl y)) (fun r=>some (.inr r))) (FR S.1 mk ds)).bind (wT (KZ S.1 mk (FQ S.1 mk ds)) k (rD ts S.2))
theorem b7 {c:Code} (S:Shape × List (Out × Shape)) (mk:List Bool) (ts:List (List Nat)) (b:K0 S mk ts) (hS:A.iw f (keyOf c+1)=some S) (hL:iD P A C L f n m c)
  (u3: ∀ds,bw S.1 (Bl S.1 mk (FQ S.1 mk ds) (FR S.1 mk ds))=bw S.1 ds) (KY: ∀i x,FR S.1 mk (Bl S.1 mk i x)=x)
  (e1: ∀i x (β:Type) (k:(List V ⊕ (Nat × List V))→Option β),iC P A C L f n m c (bw S.1 (Bl S.1 mk i x)) (fun o st=>(nz m S.1 S.2 (some (o,st))).bind k)=
   K1 S mk ts b i x β (fun y=>k (.inl (Bl S.1 mk i y))) (wT (KZ S.1 mk i) (fun j l=>k (.inr (j,l))) (rD ts S.2)))
  (hl: ∀(β:Type) ds (k:Nat→List V→Option β),L β (keyOf c+1) ds k=bY S mk ts b ds k):
  cr P A C L f n m (.loop c):=
 abQ hS hL (Bl S.1 mk) (fun i r=>xI (KZ S.1 mk i) _ r) (FQ S.1 mk) (FR S.1 mk) (fun e=>Sb e.1 _ e.2) (K1 S mk ts b) u3 KY (fun i r=>abP _ _ r)
  (fun i x β k=>by
   rw[e1]
   congr 1
   funext r
   exact FO _ _ _ r)
  (fun β ds k=>by
   rw[hl]
   unfold bY
   congr 1
   funext r
   exact FO _ _ _ r)
abbrev Sh (S:Shape × List (Out × Shape)) (ts:List (List Nat)):Type 1:=xF S.1.ks ((β:Type)→(rB (rD ts S.2)→Option β)→Option β)
noncomputable def iI (S:Shape × List (Out × Shape)) (ts:List (List Nat)) (b:Sh S ts) {β:Type} (ds:List V) (k:Nat→List V→Option β):Option β:=
 u6 S.1.ks b (o0 _ (S.1.norm ds)) β (wT (ly S.1.ks (o0 _ (S.1.norm ds))) k (rD ts S.2))
theorem jl {t:Nat} {x y:Code} (S:Shape × List (Out × Shape)) (ts:List (List Nat)) (b:Sh S ts) (hS:A.iw f (t*16+15)=some S) (hx:iD P A C L f n m x) (hy:iD P A C L f n m y)
  (u3: ∀ds,bw S.1 (ly S.1.ks (o0 _ (S.1.norm ds)))=bw S.1 ds)
  (e1: ∀i (β:Type) (k:Nat→List V→Option β),KT P A C L f n m t S x y (ly S.1.ks i) k=u6 S.1.ks b i β (wT (ly S.1.ks i) k (rD ts S.2)))
  (hl: ∀(β:Type) ds (k:Nat→List V→Option β),L β (t*16+15) ds k=iI S ts b ds k):
  cr P A C L f n m (.cond t x y):=
 abN hS hx hy (ly S.1.ks) (fun i r=>xI (ly S.1.ks i) _ r) (fun ds=>o0 _ (S.1.norm ds)) (u6 S.1.ks b) u3
  (fun i β k=>by
   rw[e1]
   exact congrArg (u6 S.1.ks b i β) (funext fun r=>FO _ _ _ r))
  (fun β ds k=>by
   rw[hl]
   exact congrArg (u6 S.1.ks b (o0 _ (S.1.norm ds)) β) (funext fun r=>FO _ _ _ r))
end
def cd:ct:=fun _ _ _ _=>none
end Go.AM
