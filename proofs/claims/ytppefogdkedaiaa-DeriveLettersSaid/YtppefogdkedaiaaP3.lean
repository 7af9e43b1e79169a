/-
  Functions of the program, lifted to plain data.
-/
import Derived.Conc.MuLone
import Derived.Defers
import Derived.Carry
import Derived.OpenShut
import Derived.Deep.Slices
import Derived.Test.YtppefogdkedaiaaP2
set_option linter.unusedVariables false
set_option linter.unusedSimpArgs false
namespace Go.AM
section
variable {P:Program} {A:cy} {w w':World} {I I' I2:Nat→Prop} {μ β β' bY:Nat→Option Nat} {hp hp' hp0 bt:Nat→Option an} {C:ag} {B:Nat} {M:Nat→Prop} {w0:Start}
structure kJ (w:World) (I:Nat→Prop) (β:Nat→Option Nat) (hp:Nat→Option an) (w':World) (I':Nat→Prop) (β':Nat→Option Nat) (hp':Nat→Option an):Prop where
 c9: ∀b,I b→I' b
 b8: ∀b,I b→w'.heap[b]? =w.heap[b]?
 blk: ∀id blk,hp id=some blk→∃blk',hp' id=some blk'∧blk.le blk'∧(blk'≠ .dead→β' id=β id)
 size: ∀id blk blk' b,hp id=some blk→hp' id=some blk'→blk'≠ .dead→β id=some b→bsize w' b=bsize w b
theorem Le.Dw (h:Le P w I β hp w' I' β' hp'):kJ w I β hp w' I' β' hp':=⟨h.c9,h.b8,h.blk,h.size⟩
theorem kJ.trans {yR:World} {yS:Nat→Prop} {yT:Nat→Option Nat} {yU:Nat→Option an} (h1:kJ w I β hp w' I' β' hp') (U:kJ w' I' β' hp' yR yS yT yU):kJ w I β hp yR yS yT yU:=by
 refine ⟨fun b h=>U.c9 b (h1.c9 b h),fun b h=>(U.b8 b (h1.c9 b h)).trans (h1.b8 b h),fun id blk h=> ?_,fun id blk s8 b h rB hd hb=> ?_⟩
 ·obtain ⟨blk',e',l',b'⟩:=h1.blk id blk h
  obtain ⟨s8,dv,qa,GP⟩:=U.blk id blk' e'
  refine ⟨s8,dv,an.le_trans l' qa,fun hd=> ?_⟩
  have eC:blk'≠ .dead:=fun e=>hd (an.oZ (e▸qa))
  exact (GP hd).trans (b' eC)
 ·obtain ⟨blk',e',l',b'⟩:=h1.blk id blk h
  obtain ⟨gz,e3,l3,b3⟩:=U.blk id blk' e'
  obtain rfl:gz=s8:=by rw[e3] at rB;exact c6 rB
  have eC:blk'≠ .dead:=fun e=>hd (an.oZ (e▸l3))
  rw[U.size id blk' gz b e' e3 hd ((b' eC).trans hb),h1.size id blk blk' b h e' eC hb]
def oe (P:Program) (w:World) (μ:Nat→Option Nat) (hp0:Nat→Option an) (b:Nat):Prop:= ∃j blk,hp0 j=some blk∧bw P w (μ j) blk b
structure XS (P:Program) (A:cy) (key:Nat) (w:World) (I:Nat→Prop) (μ:Nat→Option Nat) (ds es:List V) (w':World) (v:Value) (I2:Nat→Prop) (bY:Nat→Option Nat):Prop where
 vT:aF P w' I2 bY (br (A.so key es) (A.lv key es)).hp w.heap.size (oe P w μ (br (A.sin key) ds).hp) ⟨w,I⟩
 le:kJ w I μ (br (A.sin key) ds).hp w' I2 bY (br (A.so key es) (A.lv key es)).hp
 res:ao P w' I2 bY (br (A.so key es) (A.lv key es)).hp v (oX (eW (A.so key es).bN (A.lv key es)))
def kK (P:Program) (A:cy) (C:ag):Prop:=
 ∀key ds es,C key ds=some es→∃fn c,P.funcs[A.ba key]? =some fn∧fn.body=some c∧
  ∀(w:World) (I:Nat→Prop) (μ:Nat→Option Nat) (vals:List Value),
   s7 P w I μ (br (A.sin key) ds).hp w.heap.size (oe P w μ (br (A.sin key) ds).hp)→fW P A.aE w I→
   vals.length=(A.sin key).bN.length→(∀(j:Nat) v x,vals[j]? =some v→(fg ((A.sin key).bN.map (·.2)) ds)[j]? =some x→ao P w I μ (br (A.sin key) ds).hp v x)→
   Calls P (A.ba key) vals.toArray w fun e w'=> ∃v I2 bY,e= .returned v∧XS P A key w I μ ds es w' v I2 bY
theorem dP.tG {p:Place} {o:Option Nat} {blk:an} {b:Nat} (h:dP P w β hp p o blk) (ho:bw P w o blk b):
  ∃qv,hp p.id=some qv∧bw P w (β p.id) qv b∧∀e es,qv≠ .arr e es true:=by
 cases h with
 | var h=>exact ⟨_,h,.root (by simp) (ho.flat (by simp)),by simp⟩
 | arr h=>exact ⟨_,h,.root (by simp) (ho.flat (by simp)),by simp⟩
 | map h=>exact ⟨_,h,.root (by simp) (ho.flat (by simp)),by simp⟩
 | nest h=>
  refine ⟨_,h,?_,by simp⟩
  cases ho with
  | root _ hb=>exact .root (by simp) hb
  | row hb ha=>exact .row hb ha
 | row h hb ha _ _ _ _ _=>
  have:=ho.flat (by simp)
  cases this
  exact ⟨_,h,.row hb ha,by simp⟩
theorem aF.XT (S:aF P w I β hp B M w0) {id b:Nat} {blk:an} (ab:hp id=some blk) (ho:bw P w (β id) blk b) (hf: ∀e es,blk≠ .arr e es true): ¬I b:=by
 have hr:=S.h.rel id blk ab
 generalize β id=o at hr ho
 cases hr with
 | var hb _ _ hI _ _=>have:=ho.flat (by simp);rw[hb] at this;cases this;exact hI
 | dy hb=>have:=ho.flat (by simp);rw[hb] at this;cases this
 | @arr e es fz _ _ _ hb _ _ _ eb _=>
  have:=ho.flat (by simp)
  rw[hb] at this;cases this
  cases fz with
  | true=>exact absurd rfl (hf e es)
  | false=>exact eb rfl
 | dead=>exact absurd rfl ho.alive
 | map _ hb _ _ hI _ _=>have:=ho.flat (by simp);rw[hb] at this;cases this;exact hI
 | nest hb hr _=>
  cases ho with
  | root _ aB=>rw[hb] at aB;cases aB;exact (hr _ _ _ _ .here).nI
  | row aB ha=>rw[hb] at aB;cases aB;exact (hr _ _ _ _ ha).nI
theorem Dx {a b:List Nat} (h:vb a b=false) {x:Nat} (ha:x∈a):x∉b:=by
 intro hb
 unfold vb at h
 rw[List.any_eq_false] at h
 exact h x ha (vD hb)
theorem XU (S:aF P w I β hp B M w0) {pl:List Place} {upd:List (Nat × an)} {o:Nat→Option Nat} (j7:(pl.map Place.id).Nodup) (Dy:vb (upd.map (·.1)) (pl.map Place.id)=false)
  (hl: ∀j blk,hp0 j=some blk→∃p,dY pl j=some p∧dP P w β hp p (o j) blk)
  (cA:(∀j blk,hp0 j=some blk→∀b,bw P w (o j) blk b→¬iz P w I β hp upd b)→∀j blk,hp0 j=some blk→dN P w (iz P w I β hp upd) o hp0 (o j) blk) (aO: ∀b,iz P w I β hp upd b→b<w.heap.size):
  s7 P w (iz P w I β hp upd) o hp0 w.heap.size (oe P w o hp0):=by
 have cH: ∀j blk,hp0 j=some blk→∀b,bw P w (o j) blk b→¬iz P w I β hp upd b:=by
  intro j blk hj b ho hI
  obtain ⟨p,bt,gA⟩:=hl j blk hj
  obtain ⟨qv,k1,k2,k3⟩:=gA.tG ho
  rcases hI with hI|⟨q,hq,bX,q1,q2⟩
  ·exact S.XT k1 k2 k3 hI
  ·have:=S.h.inj _ _ _ _ b q1 k1 q2 k2
   refine Dx Dy (fY.2 ⟨q,hq,rfl⟩) ?_
   rw[this]
   rw[lq] at bt
   exact fY.2 ⟨p,jh bt,rfl⟩
 refine ⟨cA cH,fun j1 j2 b1 b2 b h1 U o1 o2=> ?_,fun j blk b h1 o1=> .inl ⟨j,blk,h1,o1⟩,aO⟩
 obtain ⟨p1,q1,q2⟩:=hl j1 b1 h1
 obtain ⟨p2,r1,r2⟩:=hl j2 b2 U
 obtain ⟨c1,x1,x2,_⟩:=q2.tG o1
 obtain ⟨c2,y1,y2,_⟩:=r2.tG o2
 have ab:=S.h.inj _ _ _ _ b x1 y1 x2 y2
 rw[lq] at q1 r1
 have m1:(pl.map Place.id)[j1]? =some p1.id:=by rw[gv,q1];rfl
 have m2:(pl.map Place.id)[j2]? =some p2.id:=by rw[gv,r1];rfl
 rw[←ab] at m2
 obtain ⟨z1,z2⟩:=bu.1 m1
 obtain ⟨z3,z4⟩:=bu.1 m2
 exact (List.getElem_inj j7).1 (z2.trans z4.symm)
def NJ:V→Prop
 | .list .. =>False
 | .pref .. =>False
 | .agg _=>False
 | .bm _=>False
 | .fn .. =>False
 | _=>True
theorem ao.free {v:Value} {x:V} (h:ao P w I β hp v x) (hx:NJ x):ao P w I' β hp v x:=by
 cases h with
 | undef=>exact .undef
 | int=>exact .int
 | bool=>exact .bool
 | str h=>exact .str h
 | list h=>exact hx.elim
 | nilS=>exact .nilS
 | agg=>exact hx.elim
 | bm=>exact hx.elim
 | dh=>exact .dh
 | fn=>exact hx.elim
 | pref=>exact hx.elim
 | dZ h=>exact .dZ h
 | fM h=>exact .fM h
 | jV h=>exact .jV h
 | dx h hb=>exact .dx h hb
 | whole h hb a b c=>exact .whole h hb a b c
 | ei h hb a b c=>exact .ei h hb a b c
 | fA h hb=>exact .fA h hb
 | sub h hb a b c=>exact .sub h hb a b c
 | ptr h hd hb=>exact .ptr h hd hb
 | jm h qp=>exact .jm h qp
 | jn h qp=>exact .jn h qp
 | row h hb a b c d=>exact .row h hb a b c d
 | cx h hb a b c d e=>exact .cx h hb a b c d e
 | dp=>exact .dp
 | g9 h=>exact .g9 h
 | cl h hb=>exact .cl h hb
theorem zx {l:LS} {ds:List V} (hs:l.safe=true):NJ (im l ds):=by
 cases l<;>simp only[LS.safe] at hs<;>first|(cases hs;done)|trivial
theorem zy: ∀{ls:List LS} {ds:List V} {j:Nat} {y:V},(gU ls ds)[j]? =some y→∃l e6,l∈ls∧y=im l e6
 | [],ds,j,y,h=>by simp[gU] at h
 | l::ls,ds,j,y,h=>by
  simp only[gU] at h
  cases j with
  | zero=>simp at h;exact ⟨l,ds,ri ..,h.symm⟩
  | succ j=>
   obtain ⟨l',e6,h1,U⟩:=zy (j:=j) (by simpa using h)
   exact ⟨l',e6,kU _ h1,U⟩
theorem NK: ∀{ls:List VS} {ds:List V} {j:Nat} {y:V},(fg ls ds)[j]? =some y→∃l e6,l∈ls∧y=kC l e6
 | [],ds,j,y,h=>by simp[fg] at h
 | l::ls,ds,j,y,h=>by
  simp only[fg] at h
  cases j with
  | zero=>simp at h;exact ⟨l,ds,ri ..,h.symm⟩
  | succ j=>
   obtain ⟨l',e6,h1,U⟩:=NK (j:=j) (by simpa using h)
   exact ⟨l',e6,kU _ h1,U⟩
theorem NL {s:VS} {ds:List V} {v:Value} (h:ao P w I β hp v (kC s ds)) (hs:s.safe=true):ao P w I' β hp v (kC s ds):=by
 cases s with
 | one l=>exact h.free (zx hs)
 | agg ls=>
  simp only[kC] at h⊢
  obtain ⟨cs,rfl,e1,e2⟩:=h.kG
  refine .agg e1 fun j v x hj hx=> ?_
  obtain ⟨l,e6,k1,rfl⟩:=zy hx
  exact (e2 j v _ hj hx).free (zx (fe.1 hs l k1))
 | bm ls=>
  simp only[kC] at h⊢
  obtain ⟨cs,rfl,e1,e2⟩:=h.th
  refine .bm e1 fun j v x hj hx=> ?_
  obtain ⟨l,e6,k1,rfl⟩:=zy hx
  exact (e2 j v _ hj hx).free (zx (fe.1 hs l k1))
 | fn f a b=>
  simp only[VS.safe,aK] at hs
  simp only[kC] at h⊢
  cases h with
  | fn a1 a2 b1 b2=>
   refine .fn a1 (fun j v x hj hx=> ?_) b1 (fun j v x hj hx=> ?_)
   ·obtain ⟨l,e6,k1,rfl⟩:=zy hx
    exact (a2 j v _ hj hx).free (zx (fe.1 hs.1 l k1))
   ·obtain ⟨l,e6,k1,rfl⟩:=zy hx
    exact (b2 j v _ hj hx).free (zx (fe.1 hs.2 l k1))
 | pref ts ls=>cases hs
theorem Pure.scalar {t:TypeId} {v:Value} {x:V} (h:Pure P w I t v x) (hn: ∀e,P.underlying t≠some (.slice e)):Pure P w I' t v x:=by
 cases h with
 | int h=>exact .int h
 | bool h=>exact .bool h
 | str h hl=>exact .str h hl
 | nil h=>exact absurd h (hn _)
 | emp h=>exact absurd h (hn _)
 | list g h=>exact absurd h (hn _)
theorem XV {e t:TypeId} {j:Nat} (h:yD P e=true) (ht:(aR P e)[j]? =some t) (e':TypeId):P.underlying t≠some (.slice e'):=by
 intro hu
 have U:=fe.1 h t (jh ht)
 rw[hu] at U
 cases U
theorem XW {o:Option Nat} {b:BS} {ds:List V} (h:dN P w I2 β hp o (fw b ds)) (hs:b.safe P=true) (hi: ∀b,I b→I2 b):dN P w I β hp o (fw b ds):=by
 cases b with
 | dead=>exact .dead
 | var T0 ls=>
  simp only[fw] at h⊢
  cases h with
  | var hb hh aT hI hx fO=>
   refine .var hb hh aT (fun h=>hI (hi _ h)) (fun j v x hj cp=> ?_) fO
   obtain ⟨l,e6,k1,rfl⟩:=NK cp
   exact NL (hx j v _ hj cp) (fe.1 hs l k1)
 | arr e fz=>
  simp only[BS.safe,aK,my] at hs
  obtain ⟨rfl,zw⟩:=hs
  simp only[fw] at h⊢
  generalize (V.nth ds 0).toList=es at h⊢
  cases h with
  | dy hb=>exact .dy hb
  | arr a1 a2 a3 a4 a5 a6 a7=>
   refine .arr a1 a2 a3 a4 (fun h=>by cases h) (fun _ h=>a6 rfl (hi _ h)) fun i j x t' y1 y2 y3=> ?_
   obtain ⟨v,z1,z2⟩:=a7 i j x t' y1 y2 y3
   exact ⟨v,z1,z2.scalar (XV zw y2)⟩
 | nest e=>
  simp only[fw] at h⊢
  generalize (V.nth ds 0).toList=es at h⊢
  cases h with
  | nest hb cB nX=>
   refine .nest hb (fun q b' e1 m1 hq=> ?_) nX
   obtain ⟨ok,⟨Ca,c1,c2,c3⟩,nI⟩:=cB q b' e1 m1 hq
   refine ⟨ok,⟨Ca,c1,c2,fun i j x t' y1 y2 y3=> ?_⟩,fun h=>nI (hi _ h)⟩
   obtain ⟨v,z1,z2⟩:=c3 i j x t' y1 y2 y3
   refine ⟨v,z1,?_⟩
   generalize bK P e1 x j=y at z2⊢
   cases z2 with
   | fy a p=>
    refine .fy a (p.scalar fun e hu=> ?_)
    unfold fv at a
    rw[hu] at a
    cases a
   | emp a b=>exact .emp a b
   | row a b c d e=>exact .row a b c d e
 | map t=>
  simp only[fw] at h⊢
  cases h with
  | map a1 a2 a3 a4 a5 a6 a7=>exact .map a1 a2 a3 a4 (fun h=>a5 (hi _ h)) a6 a7
theorem HY: ∀{l:List BS} {ds:List V} {j:Nat} {y:an},(eB l ds)[j]? =some y→∃b e6,l[j]? =some b∧y=fw b e6
 | [],ds,j,y,h=>by simp[eB] at h
 | b::l,ds,j,y,h=>by
  simp only[eB] at h
  cases j with
  | zero=>simp at h;exact ⟨b,ds,rfl,h.symm⟩
  | succ j=>
   obtain ⟨b',e6,h1,U⟩:=HY (j:=j) (by simpa using h)
   exact ⟨b',e6,by simpa using h1,U⟩
theorem NM: ∀{l:List (Nat × VS)} {ds:List V} {q:Nat × V},q∈eW l ds→∃s e6,(q.1,s)∈l∧q.2=kC s e6
 | [],ds,q,h=>by simp[eW] at h
 | (k,s)::l,ds,q,h=>by
  simp only[eW,dg] at h
  rcases h with h|h
  ·subst h;exact ⟨s,ds,ri ..,rfl⟩
  ·obtain ⟨s',e6,h1,U⟩:=NM h
   exact ⟨s',e6,kU _ h1,U⟩
theorem XX {S:Shape} {es:List V} (hs:S.safe P=true) (hi: ∀b,I b→I2 b) {N:Nat→Prop} {st:Start} (h:aF P w' I2 bY (br S es).hp B N st) (h0: ∀b,I b→st.I b):
  aF P w' I bY (br S es).hp B N st∧∀v,ao P w' I2 bY (br S es).hp v (oX (eW S.bN es))→ao P w' I bY (br S es).hp v (oX (eW S.bN es)):=by
 unfold Shape.safe at hs
 simp only[aK] at hs
 obtain ⟨iy,mT⟩:=hs
 have one: ∀q∈eW S.bN es,∀v,ao P w' I2 bY (br S es).hp v q.2→ao P w' I bY (br S es).hp v q.2:=by
  intro q hq v hv
  obtain ⟨s,e6,k1,k2⟩:=NM hq
  rw[k2] at hv⊢
  exact NL hv (fe.1 iy _ k1)
 refine ⟨⟨⟨fun j blk hj=> ?_,h.h.inj,h.h.own,fun b hb=>h.h.jo b (hi b hb)⟩,h.b8,h.size,fun b hb=> .inl (h0 b hb),h.io⟩,fun v hv=> ?_⟩
 ·have hr:=h.h.rel j blk hj
  have gd:=hj
  simp only[br,mk,gI] at gd
  obtain ⟨b,e6,k1,rfl⟩:=HY gd
  exact XW hr (fe.1 mT _ (jh k1)) hi
 ·generalize eW S.bN es=l at one hv⊢
  match l,one,hv with
  | [],_,hv=>
   simp only[oX,fK] at hv⊢
   obtain ⟨cs,rfl,e1,e2⟩:=hv.th
   exact .bm e1 fun j v x _ hx=>by simp at hx
  | [q],one,hv=>exact one q (ef.2 rfl) v hv
  | q::q2::l,one,hv=>
   simp only[oX] at hv⊢
   obtain ⟨cs,rfl,e1,e2⟩:=hv.th
   refine .bm e1 fun j v x hj hx=> ?_
   obtain ⟨y,hy,rfl⟩:=fY.1 (jh hx)
   exact one y hy v (e2 j v _ hj hx)
end
section
variable {P:Program} {A:cy} {w w':World} {I I' I2:Nat→Prop} {μ β β' bY:Nat→Option Nat} {hp hp' hp0 bt:Nat→Option an} {C:ag} {B:Nat} {M:Nat→Prop} {w0:Start}
inductive fS (σ:List Place):an→an→Prop
 | dead:fS σ .dead .dead
 | var {T:TypeId} {cs:List V}:fS σ (.var T cs) (.var T (cs.map (Cu σ)))
 | arr {e:TypeId} {es:List V} {fz:Bool}:fS σ (.arr e es fz) (.arr e es fz)
 | nest {e:TypeId} {es:List V} {v1 v2:List Nat}:fS σ (.nest e es v1) (.nest e es v2)
 | map {t:TypeId} {es:List V}:fS σ (.map t es) (.map t es)
theorem fS.of (σ:List Place) (b:an):fS σ b (sX σ b):=by
 cases b with
 | dead=>exact .dead
 | var T cs=>exact .var
 | arr e es fz=>exact .arr
 | nest e es v=>exact .nest
 | map t es=>exact .map
theorem NN {σ:List Place}: ∀{pl:List Place} {bs:List an} {acc:List (Nat × an)} {k:List (Nat × an)→Rd R} {r:R} {rd:List Nat},(pX σ pl bs acc k).run C hp=some (r,rd)→
  pl.length≤bs.length∧∃bk eK,(k bk).run C hp=some (r,eK)∧(∀q∈bk,q∈acc∨∃(j:Nat) (b:an),pl[j]? =some (.blk q.1)∧bs[j]? =some b∧fS σ b q.2∧((∃e es v2,q.2= .nest e es v2)→∃e es ar e' aL,hp q.1=some (.nest e es ar)∧q.2= .nest e' aL (ar.map (· +1))))∧
   (∀q∈acc,q∈bk)∧∀(j:Nat) p,pl[j]? =some p→∃id b,p= .blk id∧(id,b)∈bk
 | [],bs,acc,k,r,rd,h=>⟨kq _,acc,rd,by simpa only[pX] using h,fun q hq=> .inl hq,fun q hq=>hq,fun j p hp=>by simp at hp⟩
 | .row _ _ _::pl,bs,acc,k,r,rd,h=>by
  cases bs<;>(simp only[pX] at h;cases h)
 | .blk id::pl,[],acc,k,r,rd,h=>by simp only[pX] at h;cases h
 | .blk id::pl,b::bs,acc,k,r,rd,h=>by
  have fin: ∀{b2:an} {iX:List Nat},(pX σ pl bs ((id,b2)::acc) k).run C hp=some (r,iX)→fS σ b b2→((∃e es v2,b2= .nest e es v2)→∃e es ar e' aL,hp id=some (.nest e es ar)∧b2= .nest e' aL (ar.map (· +1)))→
    (Place.blk id::pl).length≤(b::bs).length∧∃bk eK,(k bk).run C hp=some (r,eK)∧(∀q∈bk,q∈acc∨∃(j:Nat) (b':an),(Place.blk id::pl)[j]? =some (.blk q.1)∧(b::bs)[j]? =some b'∧fS σ b' q.2∧((∃e es v2,q.2= .nest e es v2)→∃e es ar e' aL,hp q.1=some (.nest e es ar)∧q.2= .nest e' aL (ar.map (· +1))))∧
     (∀q∈acc,q∈bk)∧∀(j:Nat) p,(Place.blk id::pl)[j]? =some p→∃id b,p= .blk id∧(id,b)∈bk:=by
   intro b2 iX h1 hb hn
   obtain ⟨a0,bk,eK,a1,a2,a3,a4⟩:=NN h1
   refine ⟨by simp only[List.length_cons];omega,bk,eK,a1,fun q hq=> ?_,fun q hq=>a3 q (kU _ hq),fun j p hj=> ?_⟩
   ·rcases a2 q hq with h|⟨j,b',k1,k2,k3,k4⟩
    ·rcases dg.1 h with e|h
     ·subst e;exact .inr ⟨0,b,rfl,rfl,hb,hn⟩
     ·exact .inl h
    ·exact .inr ⟨j+1,b',by simpa using k1,by simpa using k2,k3,k4⟩
   ·cases j with
    | zero=>simp at hj;subst hj;exact ⟨id,b2,rfl,a3 _ (ri ..)⟩
    | succ j=>exact a4 j p (by simpa using hj)
  cases b with
  | nest e es v=>
   simp only[pX] at h
   obtain ⟨l,h⟩:=run_get h
   cases ab:hp id with
   | none=>rw[ab] at h;cases h
   | some blk=>
    rw[ab] at h
    cases blk with
    | nest e0 GQ ar=>exact fin h .nest fun _=>⟨e0,GQ,ar,e,es,ab,rfl⟩
    | _=>cases h
  | dead=>exact fin h (.of σ _) fun ⟨_,_,_,h⟩=>by cases h
  | var T cs=>exact fin h (.of σ _) fun ⟨_,_,_,h⟩=>by cases h
  | arr e es fz=>exact fin h (.of σ _) fun ⟨_,_,_,h⟩=>by cases h
  | map t es=>exact fin h (.of σ _) fun ⟨_,_,_,h⟩=>by cases h
theorem NO {σ:List Place}: ∀{bs:List an} {n:Nat} {q:Nat × an},q∈pY σ n bs→∃i b,bs[i]? =some b∧q=(n+i,sX σ b)
 | [],n,q,h=>by simp[pY] at h
 | b::bs,n,q,h=>by
  simp only[pY,dg] at h
  rcases h with h|h
  ·exact ⟨0,b,rfl,h⟩
  ·obtain ⟨i,b',h1,U⟩:=NO h
   exact ⟨i+1,b',by simpa using h1,by rw[U];congr 1;omega⟩
theorem NP {σ:List Place}: ∀{bs:List an} {n i:Nat} {b:an},bs[i]? =some b→(n+i,sX σ b)∈pY σ n bs
 | [],n,i,b,h=>by simp at h
 | b0::bs,n,i,b,h=>by
  simp only[pY,dg]
  cases i with
  | zero=>simp at h;subst h;exact .inl rfl
  | succ i=>exact .inr (by rw[show n+(i+1)=n+1+i by omega];exact NP (by simpa using h))
theorem Dz: ∀{k n i:Nat},i<k→(rz n k)[i]? =some (.blk (n+i))
 | 0,n,i,h=>by omega
 | k+1,n,0,h=>rfl
 | k+1,n,i+1,h=>by
  simp only[rz,List.getElem?_cons_succ]
  rw[Dz (by omega)]
  congr 2
  omega
theorem HZ: ∀{k n:Nat},(rz n k).length=k
 | 0,_=>rfl
 | k+1,n=>by simp[rz,HZ]
theorem NQ: ∀{bs:List (Nat × an)} {k:Rd R} {r:R} {rd:List Nat},(Cv bs k).run C hp=some (r,rd)→(∀q∈bs,hp q.1=none)∧∃eK,k.run C hp=some (r,eK)
 | [],k,r,rd,h=>⟨by simp,rd,h⟩
 | (id,b)::l,k,r,rd,h=>by
  simp only[Cv] at h
  obtain ⟨l1,h⟩:=run_get h
  cases ab:hp id with
  | some blk=>rw[ab] at h;cases h
  | none=>
   rw[ab] at h
   obtain ⟨h1,U⟩:=NQ h
   refine ⟨fun q hq=> ?_,U⟩
   rcases dg.1 hq with e|hq
   ·subst e;exact ab
   ·exact h1 q hq
structure pe (σ:List Place) (bY:Nat→Option Nat) (bt:Nat→Option an) (β':Nat→Option Nat) (hp':Nat→Option an):Prop where
 blk: ∀j b,bt j=some b→∃id b',dY σ j=some (.blk id)∧hp' id=some b'∧fS σ b b'∧(b≠ .dead→β' id=bY j)
 none: ∀j,bt j=none→dY σ j=none
 ahz: ∀j id ver path,dY σ j≠some (.row id ver path)
theorem pe.leaf {σ:List Place} (T:pe σ bY bt β' hp') {v:Value} {x:V} (h:ao P w I bY bt v x):ao P w I β' hp' v (jT σ x):=by
 have look: ∀{j b},bt j=some b→∃id b',dY σ j=some (.blk id)∧hp' id=some b'∧fS σ b b'∧(b≠ .dead→β' id=bY j):=fun h=>T.blk _ _ h
 cases h with
 | undef=>exact .undef
 | int=>exact .int
 | bool=>exact .bool
 | str h=>exact .str h
 | list h=>exact .list h
 | nilS=>exact .nilS
 | agg=>exact .undef
 | bm=>exact .undef
 | dh=>exact .dh
 | fn=>exact .undef
 | pref a b c=>exact .pref a b c
 | @dZ _ e j h=>
  obtain ⟨id,b',k1,k2,k3,k4⟩:=look h
  simp only[jT,k1]
  cases k3
  exact .dZ k2
 | @fM _ e j _ _ h=>
  obtain ⟨id,b',k1,k2,k3,k4⟩:=look h
  simp only[jT,k1]
  cases k3
  exact .fM k2
 | @jV _ j _ _ h=>
  obtain ⟨id,b',k1,k2,k3,k4⟩:=look h
  simp only[jT,k1]
  cases k3
  exact .jV k2
 | @dx e j fz _ h hb=>
  obtain ⟨id,b',k1,k2,k3,k4⟩:=look h
  simp only[jT,k1]
  cases k3
  exact .dx k2 ((k4 (by simp)).trans hb)
 | @whole e j es fz b cap h hb a1 a2 a3=>
  obtain ⟨id,b',k1,k2,k3,k4⟩:=look h
  simp only[jT,k1]
  cases k3
  exact .whole k2 ((k4 (by simp)).trans hb) a1 a2 a3
 | @ei e j es ar b cap h hb a1 a2 a3=>
  obtain ⟨id,b',k1,k2,k3,k4⟩:=look h
  simp only[jT,k1]
  cases k3
  exact .ei k2 ((k4 (by simp)).trans hb) a1 a2 a3
 | @fA e j fz _ h hb=>
  obtain ⟨id,b',k1,k2,k3,k4⟩:=look h
  simp only[jT,k1]
  cases k3
  exact .fA k2 ((k4 (by simp)).trans hb)
 | @sub e j off len es fz b o cap h hb a1 a2 a3=>
  obtain ⟨id,b',k1,k2,k3,k4⟩:=look h
  simp only[jT,k1]
  cases k3
  exact .sub k2 ((k4 (by simp)).trans hb) a1 a2 a3
 | @ptr j i c b blk h hd hb=>
  obtain ⟨id,b',k1,k2,k3,k4⟩:=look h
  simp only[jT,k1]
  have hs:blk.sz P=b'.sz P:=by cases k3<;>rfl
  rw[hs]
  exact .ptr k2 (by intro e;subst e;cases k3;exact hd rfl) ((k4 hd).trans hb)
 | jm=>exact .undef
 | jn=>exact .undef
 | row=>exact .undef
 | cx=>exact .undef
 | dp=>exact .dp
 | @g9 _ t j h=>
  obtain ⟨id,b',k1,k2,k3,k4⟩:=look h
  simp only[jT,k1]
  cases k3
  exact .g9 k2
 | @cl t j b es h hb=>
  obtain ⟨id,b',k1,k2,k3,k4⟩:=look h
  simp only[jT,k1]
  cases k3
  exact .cl k2 ((k4 (by simp)).trans hb)
theorem pe.one {σ:List Place} (T:pe σ bY bt β' hp') {v:Value} {x:V} (h:ao P w I bY bt v x):ao P w I β' hp' v (GF σ x):=by
 cases x with
 | agg xs=>
  obtain ⟨cs,rfl,e1,e2⟩:=h.kG
  exact .agg (by simpa using e1) fun j v y hj hy=>by
   rw[gv] at hy
   cases hx:xs[j]? with
   | none=>rw[hx] at hy;cases hy
   | some x=>rw[hx] at hy;cases hy;exact T.leaf (e2 j v x hj hx)
 | fn f a b=>
  cases h with
  | fn a1 a2 b1 b2=>
   refine .fn (by simpa using a1) (fun j v y hj hy=> ?_) (by simpa using b1) (fun j v y hj hy=> ?_)
   ·rw[gv] at hy
    cases hx:a[j]? with
    | none=>rw[hx] at hy;cases hy
    | some x=>rw[hx] at hy;cases hy;exact T.leaf (a2 j v x hj hx)
   ·rw[gv] at hy
    cases hx:b[j]? with
    | none=>rw[hx] at hy;cases hy
    | some x=>rw[hx] at hy;cases hy;exact T.leaf (b2 j v x hj hx)
 | _=>exact T.leaf h
theorem pe.val {σ:List Place} (T:pe σ bY bt β' hp') {v:Value} {x:V} (h:ao P w I bY bt v x):ao P w I β' hp' v (Cu σ x):=by
 cases x with
 | bm xs=>
  obtain ⟨cs,rfl,e1,e2⟩:=h.th
  exact .bm (by simpa using e1) fun j v y hj hy=>by
   rw[gv] at hy
   cases hx:xs[j]? with
   | none=>rw[hx] at hy;cases hy
   | some x=>rw[hx] at hy;cases hy;exact T.one (e2 j v x hj hx)
 | _=>exact T.one h
theorem pe.NR {σ:List Place} (T:pe σ bY bt β' hp') {o:Option Nat} {b b':an} (h:dN P w I bY bt o b) (hb:fS σ b b'):dN P w I β' hp' o b':=by
 cases hb with
 | dead=>exact .dead
 | var=>
  cases h with
  | var a1 a2 a3 a4 a5 a6=>
   refine .var a1 a2 (by simpa using a3) a4 (fun j v y hj hy=> ?_) a6
   rw[gv] at hy
   cases hx:(_:List V)[j]? with
   | none=>rw[hx] at hy;cases hy
   | some x=>rw[hx] at hy;cases hy;exact T.val (a5 j v x hj hx)
 | arr=>
  cases h with
  | dy hb=>exact .dy hb
  | arr a1 a2 a3 a4 a5 a6 a7=>exact .arr a1 a2 a3 a4 a5 a6 a7
 | nest=>
  cases h with
  | nest a1 a2 a3=>exact .nest a1 a2 a3
 | map=>
  cases h with
  | map a1 a2 a3 a4 a5 a6 a7=>exact .map a1 a2 a3 a4 a5 a6 a7
theorem fS.tG {σ:List Place} {o:Option Nat} {b b':an} (h:fS σ b b') {m:Nat} (ho:bw P w o b' m):bw P w o b m:=by
 cases h with
 | dead=>exact absurd rfl ho.alive
 | var=>exact .root (by simp) (ho.flat (by simp))
 | arr=>exact .root (by simp) (ho.flat (by simp))
 | map=>exact .root (by simp) (ho.flat (by simp))
 | nest=>
  cases ho with
  | root _ hb=>exact .root (by simp) hb
  | row hb ha=>exact .row hb ha
theorem fS.NS {σ:List Place} {b b':an} (h:fS σ b b'):b'≠ .dead→b≠ .dead:=by
 intro h1 U;subst U;cases h;exact h1 rfl
end
section
variable {P:Program} {A:cy} {w w':World} {I I' I2:Nat→Prop} {μ β β' bY:Nat→Option Nat} {hp hp' hp0 bt:Nat→Option an} {C:ag} {B:Nat} {M:Nat→Prop} {w0:Start}
theorem NT: ∀{vs:List Nat} {k:Nat},k<vs.length→bz (vs.map (· +1)) k=bz vs k+1
 | [],k,h=>by simp at h
 | v::vs,0,h=>rfl
 | v::vs,k+1,h=>by simp only[cw,bz];exact NT (by simpa using h)
theorem NU: ∀{vs:List Nat} {k:Nat},bz vs k≤bz (vs.map (· +1)) k
 | [],k=>by simp[bz]
 | v::vs,0=>by simp[bz]
 | v::vs,k+1=>by simp only[cw,bz];exact NU
def zz (hp:Nat→Option an) (q:Nat × an):Prop:=(∃e es v2,q.2= .nest e es v2)→∃e es ar e' aL,hp q.1=some (.nest e es ar)∧q.2= .nest e' aL (ar.map (· +1))
theorem dP.H0 {id:Nat} {o:Option Nat} {blk:an} (h:dP P w β hp (.blk id) o blk):o=β id∧∃b0,hp id=some b0∧b0≠ .dead:=by
 cases h with
 | var h=>exact ⟨rfl,_,h,by simp⟩
 | arr h=>exact ⟨rfl,_,h,by simp⟩
 | nest h=>exact ⟨rfl,_,h,by simp⟩
 | map h=>exact ⟨rfl,_,h,by simp⟩
theorem dP.XY {id:Nat} {o:Option Nat} {c b b' b0:an} {σ:List Place} (h:dP P w β hp (.blk id) o c) (h0:hp id=some b0) (hle:c.le b) (hb:fS σ b b') (hn:zz hp (id,b')):b0.le b':=by
 cases h with
 | var h=>
  rw[h] at h0;cases h0
  cases hb with
  | dead=>trivial
  | var=>trivial
  | arr=>exact hle.elim
  | nest=>exact hle.elim
  | map=>exact hle.elim
 | arr h=>
  rw[h] at h0;cases h0
  cases hb with
  | dead=>trivial
  | var=>exact hle.elim
  | arr=>exact hle
  | nest=>exact hle.elim
  | map=>exact hle.elim
 | map h=>
  rw[h] at h0;cases h0
  cases hb with
  | dead=>trivial
  | map=>exact hle
  | _=>exact hle.elim
 | nest h=>
  rw[h] at h0;cases h0
  cases hb with
  | dead=>trivial
  | var=>exact hle.elim
  | arr=>exact hle
  | map=>exact hle.elim
  | @nest e es v1 v2=>
   obtain ⟨e1,cg,tH,e2,b6,k1,k2⟩:=hn ⟨_,_,_,rfl⟩
   cases k2
   change hp id=_ at k1
   rw[h] at k1;cases k1
   exact ⟨hle.1,hle.2.1,by simp,fun k=>NU⟩
theorem dP.other {p:Place} {o:Option Nat} {blk:an} (h:dP P w β hp p o blk) (he:hp' p.id=hp p.id):dP P w β hp' p o blk:=by
 cases h with
 | var h=>exact .var (he.trans h)
 | arr h=>exact .arr (he.trans h)
 | nest h=>exact .nest (he.trans h)
 | map h=>exact .map (he.trans h)
 | row h a b c d e f g=>exact .row (he.trans h) a b c d e f g
open Classical in
theorem NV (S:aF P w I β hp B M w0) {pl:List Place} {o:Nat→Option Nat} {bs:List an} {nb:Nat} {bk fr:List (Nat × an)} {σ:List Place} (qw:σ=pl++rz nb (bs.length-pl.length)) (zA:fr=pY σ nb (bs.drop pl.length))
  (j7:(pl.map Place.id).Nodup) (qg:pl.length≤bs.length)
  (pf: ∀(j:Nat) p,pl[j]? =some p→∃id b,p= .blk id∧(id,b)∈bk) (DA: ∀q∈bk,∃(j:Nat) (b:an),pl[j]? =some (.blk q.1)∧bs[j]? =some b∧fS σ b q.2∧zz hp q)
  (hl: ∀j blk,hp0 j=some blk→∃p,dY pl j=some p∧dP P w β hp p (o j) blk) (hd: ∀j,j<pl.length→∃blk,hp0 j=some blk)
  (Sc:aF P w' I2 bY (jk bs) w.heap.size (oe P w o hp0) ⟨w,I⟩) (vU:kJ w I o hp0 w' I2 bY (jk bs)) (rQ: ∀q∈fr,hp q.1=none):
  ∃β',Le P w I β hp w' I2 β' (bJ hp (fr++bk))∧aF P w' I2 β' (bJ hp (fr++bk)) B M w0∧pe σ bY (jk bs) β' (bJ hp (fr++bk)):=by
 generalize H2:bJ hp (fr++bk)=gA
 let β':Nat→Option Nat:=fun n=>if∃q∈fr,q.1=n then bY (pl.length+(n-nb)) else β n
 have NW: ∀(j:Nat) id,pl[j]? =some (.blk id)→∃c,hp0 j=some c∧dP P w β hp (.blk id) (o j) c:=by
  intro j id hj
  obtain ⟨c,hc⟩:=hd j (bu.1 hj).1
  obtain ⟨p,h1,U⟩:=hl j c hc
  rw[lq,hj] at h1
  cases h1
  exact ⟨c,hc,U⟩
 have uniq: ∀(j1 j2:Nat) id,pl[j1]? =some (.blk id)→pl[j2]? =some (.blk id)→j1=j2:=by
  intro j1 j2 id h1 U
  have m1:(pl.map Place.id)[j1]? =some id:=by rw[gv,h1];rfl
  have m2:(pl.map Place.id)[j2]? =some id:=by rw[gv,U];rfl
  obtain ⟨z1,z2⟩:=bu.1 m1
  obtain ⟨z3,z4⟩:=bu.1 m2
  exact (List.getElem_inj j7).1 (z2.trans z4.symm)
 have cls: ∀id,(∃i b,id=nb+i∧bs[pl.length+i]? =some b∧gA id=some (sX σ b)∧hp id=none∧β' id=bY (pl.length+i))∨
   (∃(j:Nat) (b b' c b0:an),pl[j]? =some (.blk id)∧bs[j]? =some b∧hp0 j=some c∧dP P w β hp (.blk id) (o j) c∧hp id=some b0∧b0.le b'∧gA id=some b'∧fS σ b b'∧zz hp (id,b')∧β' id=β id∧c.le b∧(b≠ .dead→bY j=β id))∨
   (gA id=hp id∧(∀j:Nat,pl[j]? ≠some (.blk id))∧β' id=β id):=by
  intro id
  by_cases hm: ∃b,(id,b)∈fr++bk
  ·obtain ⟨b,hm⟩:=hm
   obtain ⟨b',CJ,he⟩:=CG (hp:=hp) hm
   rw[H2] at he
   rcases ey.1 CJ with h|h
   ·have h0:=rQ _ h
    have og:β' id=bY (pl.length+(id-nb)):=aj ⟨_,h,rfl⟩
    rw[zA] at h
    obtain ⟨i,b1,k1,k2⟩:=NO h
    rw[gR] at k1
    cases k2
    exact .inl ⟨i,b1,rfl,k1,he,h0,by rw[og];congr 2;omega⟩
   ·obtain ⟨j,b1,q1,q2,q3,q4⟩:=DA _ h
    obtain ⟨c,c1,c2⟩:=NW j id q1
    obtain ⟨c3,b0,c4,c5⟩:=c2.H0
    obtain ⟨b2,d1,d2,d3⟩:=vU.blk j c c1
    rw[gI,q2] at d1
    cases d1
    refine .inr (.inl ⟨j,b1,b',c,b0,q1,q2,c1,c2,c4,c2.XY c4 d2 q3 q4,he,q3,q4,ai ?_,d2,fun h=>(d3 h).trans c3⟩)
    rintro ⟨q,hq,XZ⟩
    rw[←XZ,rQ q hq] at c4
    cases c4
  ·refine .inr (.inr ⟨?_,fun j hj=> ?_,ai ?_⟩)
   ·rcases td (hp:=hp) (l:=fr++bk) (id:=id) with h|⟨b,hb,_⟩
    ·rw[H2] at h;exact h
    ·exact absurd ⟨b,hb⟩ hm
   ·obtain ⟨aD,b,e,hb⟩:=pf j _ hj
    cases e
    exact hm ⟨b,ey.2 (.inr hb)⟩
   ·rintro ⟨q,hq,rfl⟩
    exact hm ⟨q.2,ey.2 (.inl hq)⟩
 have NX: ∀b,oe P w o hp0 b→∃(j id:Nat) (b1:an),pl[j]? =some (.blk id)∧hp id=some b1∧bw P w (β id) b1 b∧∀e es,b1≠ .arr e es true:=by
  rintro b ⟨j,c,hc,ho⟩
  obtain ⟨p,h1,U⟩:=hl j c hc
  rw[lq] at h1
  obtain ⟨id,b2,rfl,_⟩:=pf j p h1
  obtain ⟨b1,k1,k2,k3⟩:=U.tG ho
  exact ⟨j,id,b1,h1,k1,k2,k3⟩
 have other: ∀id blk b,hp id=some blk→bw P w (β id) blk b→(∀j:Nat,pl[j]? ≠some (.blk id))→¬oe P w o hp0 b∧w'.heap[b]? =w.heap[b]? ∧(I2 b→I b):=by
  intro id blk b e1 e3 e4
  have oh: ¬oe P w o hp0 b:=by
   intro hx
   obtain ⟨j,aD,b1,i1,i2,i3,_⟩:=NX b hx
   have:=S.h.inj id aD _ _ b e1 i2 e3 i3
   subst this
   exact e4 j i1
  have aO:=S.h.lt e1 e3
  refine ⟨oh,Sc.b8 b aO oh,fun h=> ?_⟩
  rcases Sc.new b h with h|h|h
  ·exact h
  ·exact absurd h oh
  ·omega
 have rL:pe σ bY (jk bs) β' gA:=by
  refine ⟨fun j b hj=> ?_,fun j hj=> ?_,fun j id ver path hj=> ?_⟩
  ·rw[gI] at hj
   by_cases b9:j<pl.length
   ·obtain ⟨id,b1,e,ln⟩:=pf j _ (bM b9)
    have DB:pl[j]? =some (.blk id):=by rw[bM b9,e]
    have H3:dY σ j=some (.blk id):=by rw[qw];exact od (by rw[lq];exact DB)
    rcases cls id with ⟨i,b2,c1,c2,c3,c4,c5⟩|⟨j',b2,b',c,b0,q1,q2,q3,q4,q5,q6,q7,q8,q9,pg,vV,qx⟩|⟨c1,c2,c3⟩
    ·obtain ⟨c,d1,d2⟩:=NW j id DB
     obtain ⟨_,b0,d3,_⟩:=d2.H0
     rw[d3] at c4;cases c4
    ·obtain rfl:=uniq _ _ _ q1 DB
     rw[hj] at q2;cases q2
     exact ⟨id,b',H3,q7,q8,fun h=>pg.trans (qx h).symm⟩
    ·exact absurd DB (c2 j)
   ·have NY:=(bu.1 hj).1
    have H3:dY σ j=some (.blk (nb+(j-pl.length))):=by
     rw[qw,lq,ik (by omega)]
     exact Dz (by omega)
    have hm:(nb+(j-pl.length),sX σ b)∈fr:=by
     rw[zA]
     refine NP ?_
     rw[gR,show pl.length+(j-pl.length)=j by omega]
     exact hj
    rcases cls (nb+(j-pl.length)) with ⟨i,b2,c1,c2,c3,c4,c5⟩|⟨j',b2,b',c,b0,q1,q2,q3,q4,q5,q6,q7,q8,q9,pg,vV,qx⟩|⟨c1,c2,c3⟩
    ·have hi:i=j-pl.length:=by omega
     subst hi
     rw[show pl.length+(j-pl.length)=j by omega] at c2 c5
     rw[hj] at c2;cases c2
     exact ⟨_,_,H3,c3,.of σ _,fun _=>c5⟩
    ·rw[rQ _ hm] at q5;cases q5
    ·obtain ⟨b',CJ,he⟩:=CG (hp:=hp) (l:=fr++bk) (ey.2 (.inl hm))
     rw[H2,c1,rQ _ hm] at he
     cases he
  ·rw[gI] at hj
   have:=List.getElem?_eq_none_iff.1 hj
   rw[qw,lq,List.getElem?_eq_none_iff,bU,HZ]
   omega
  ·rw[qw,lq] at hj
   by_cases b9:j<pl.length
   ·rw[ij b9] at hj
    obtain ⟨aD,b1,e,_⟩:=pf j _ hj
    cases e
   ·have NY:j-pl.length<bs.length-pl.length:=by
     have:=(bu.1 hj).1
     rw[bU,HZ] at this
     omega
    rw[ik (by omega),Dz NY] at hj
    cases hj
 have hle:Le P w I β hp w' I2 β' gA:=by
  refine ⟨vU.c9,vU.b8,fun id blk ab=> ?_,fun id blk blk' b ab bB qy hb=> ?_,fun id e es ar e' aL vers' b q i c t v e1 l ab bB hb aO hv ht hc=> ?_⟩
  ·rcases cls id with ⟨i,b2,c1,c2,c3,c4,c5⟩|⟨j',b2,b',c,b0,q1,q2,q3,q4,q5,q6,q7,q8,q9,pg,vV,qx⟩|⟨c1,c2,c3⟩
   ·rw[ab] at c4;cases c4
   ·rw[ab] at q5;cases q5
    exact ⟨b',q7,q6,fun _=>pg⟩
   ·exact ⟨blk,c1.trans ab,an.le_refl _,fun _=>c3⟩
  ·rcases cls id with ⟨i,b2,c1,c2,c3,c4,c5⟩|⟨j',b2,b',c,b0,q1,q2,q3,q4,q5,q6,q7,q8,q9,pg,vV,qx⟩|⟨c1,c2,c3⟩
   ·rw[ab] at c4;cases c4
   ·rw[q7] at bB;cases bB
    exact vU.size j' c b2 b q3 (by rw[gI];exact q2) (q8.NS qy) (q4.H0.1.trans hb)
   ·rw[c1,ab] at bB
    cases bB
    simp only[bsize,(other id blk b ab (.root qy hb) c2).2.1]
  ·rcases cls id with ⟨i2,b2,c1,c2,c3,c4,c5⟩|⟨j',b2,b',c',b0,q1,q2,q3,q4,q5,q6,q7,q8,q9,pg,vV,qx⟩|⟨c1,c2,c3⟩
   ·rw[ab] at c4;cases c4
   ·rw[q7] at bB;cases bB
    obtain ⟨_,_,tH,_,_,k1,k2⟩:=q9 ⟨_,_,_,rfl⟩
    change hp id=_ at k1
    rw[ab] at k1;cases k1
    cases k2
    rw[NT aO] at hv
    omega
   ·rw[c1,ab] at bB
    cases bB
    exact ⟨l,rfl,hc.mono fun _ _ _ _ h=>(other id _ _ ab (.row hb h) c2).2.1⟩
 have place: ∀id blk b,gA id=some blk→bw P w' (β' id) blk b→(∃j c,jk bs j=some c∧bw P w' (bY j) c b∧dY σ j=some (.blk id))∨(b<w.heap.size∧¬oe P w o hp0 b∧hp id=some blk∧bw P w (β id) blk b):=by
  intro id blk b e1 e3
  rcases cls id with ⟨i,b2,c1,c2,c3,c4,c5⟩|⟨j',b2,b',c,b0,q1,q2,q3,q4,q5,q6,q7,q8,q9,pg,vV,qx⟩|⟨c1,c2,c3⟩
  ·rw[c3] at e1;cases e1
   rw[c5] at e3
   refine .inl ⟨pl.length+i,b2,by rw[gI];exact c2,(fS.of σ b2).tG e3,?_⟩
   have:=(bu.1 c2).1
   rw[qw,lq,ik (by omega),Dz (by omega),c1]
   congr 3
   omega
  ·rw[q7] at e1;cases e1
   have qy:b2≠ .dead:=q8.NS e3.alive
   rw[pg,←qx qy] at e3
   exact .inl ⟨j',b2,by rw[gI];exact q2,q8.tG e3,by rw[qw];exact od (by rw[lq];exact q1)⟩
  ·rw[c1] at e1
   rw[c3] at e3
   have:=e3.mono (w:=w) fun b hb=>(other id blk b e1 hb c2).2.1
   exact .inr ⟨S.h.lt e1 this,(other id blk b e1 this c2).1,e1,this⟩
 have rE: ∀b,oe P w o hp0 b∨w.heap.size≤b→M b∨B≤b:=by
  rintro b (h|h)
  ·obtain ⟨j,id,b1,i1,i2,i3,_⟩:=NX b h
   exact S.h.own id b1 b i2 i3
  ·exact .inr (kS S.size h)
 have H4: ∀j c b,jk bs j=some c→bw P w' (bY j) c b→oe P w o hp0 b∨w.heap.size≤b:=fun j c b h1 U=>Sc.h.own j c b h1 U
 refine ⟨β',hle,⟨⟨fun id blk ab=> ?_,fun i1 i2 b1 b2 b e1 e2 f1 f2=> ?_,fun id blk b ab hb=> ?_,Sc.h.jo⟩,fun b hb hM=> ?_,kS S.size Sc.size,fun b hb=> ?_,⟨Sc.io.1.trans S.io.1,Sc.io.2.trans S.io.2⟩⟩,rL⟩
 ·rcases cls id with ⟨i,b2,c1,c2,c3,c4,c5⟩|⟨j',b2,b',c,b0,q1,q2,q3,q4,q5,q6,q7,q8,q9,pg,vV,qx⟩|⟨c1,c2,c3⟩
  ·rw[c3] at ab;cases ab
   rw[c5]
   exact rL.NR (Sc.h.rel _ b2 (by rw[gI];exact c2)) (.of σ b2)
  ·rw[q7] at ab;cases ab
   have:=rL.NR (Sc.h.rel j' b2 (by rw[gI];exact q2)) q8
   by_cases qy:b2= .dead
   ·subst qy
    cases q8
    exact .dead
   ·rw[pg,←qx qy]
    exact this
  ·rw[c1] at ab
   rw[c3]
   exact (S.h.rel id blk ab).mono hle fun b hb=>(other id blk b ab hb c2).2
 ·rcases place i1 b1 b e1 f1 with ⟨j1,c1,g1,g2,g3⟩|⟨g1,g2,g3,g4⟩<;>rcases place i2 b2 b e2 f2 with ⟨j2,c2,k1,k2,k3⟩|⟨k1,k2,k3,k4⟩
  ·have:=Sc.h.inj j1 j2 c1 c2 b g1 k1 g2 k2
   subst this
   rw[g3] at k3
   cases k3
   rfl
  ·rcases H4 j1 c1 b g1 g2 with h|h
   ·exact absurd h k2
   ·omega
  ·rcases H4 j2 c2 b k1 k2 with h|h
   ·exact absurd h g2
   ·omega
  ·exact S.h.inj i1 i2 _ _ b g3 k3 g4 k4
 ·rcases place id blk b ab hb with ⟨j1,c1,g1,g2,g3⟩|⟨g1,g2,g3,g4⟩
  ·exact rE b (H4 j1 c1 b g1 g2)
  ·exact S.h.own id blk b g3 g4
 ·refine (Sc.b8 b (q0 hb S.size) fun hx=> ?_).trans (S.b8 b hb hM)
  rcases rE b (.inl hx) with h|h
  ·exact hM h
  ·omega
 ·rcases Sc.new b hb with h|h|h
  ·exact S.new b h
  ·exact .inr (rE b (.inl h))
  ·exact .inr (rE b (.inr h))
end
section
variable {P:Program} {A:cy} {w w':World} {I I' I2:Nat→Prop} {μ β β' bY:Nat→Option Nat} {hp hp' hp0 bt:Nat→Option an} {C:ag} {B:Nat} {M:Nat→Prop} {w0:Start}
theorem NZ (hp:Nat→Option an): ∀(a b:List (Nat × an)),bJ hp (a++b)=bJ (bJ hp b) a
 | [],b=>rfl
 | (i,x)::a,b=>by simp only[List.cons_append,bJ,NZ hp a b]
theorem vW {hp:Nat→Option an} {l:List (Nat × an)} {id:Nat} (h: ∀q∈l,q.1≠id):bJ hp l id=hp id:=by
 rcases td (hp:=hp) (l:=l) (id:=id) with h1|⟨b,hb,_⟩
 ·exact h1
 ·exact absurd rfl (h _ hb)
def yc (P : Program) : Prop := ∀ (f : Nat) fn, P.funcs[f]? = some fn → (fn.name == "runtime.NumGoroutine") = false
def N0 (P:Program) (f:FuncId) (e:TypeId):Prop:=
 (∀args w,(callFunc f args).run P w= .ok (.enter f args) w)∧∃t,P.underlying t=some (.slice e)∧
  ∀(s:Value) (w:World) (Q:Ending→World→Prop),(s= .slice none 0 0→Q (.returned (.slice none 0 0)) w)→
   (∀a n c,s= .slice (some a) n c→∃v w',(Builtin.append_ #[t,t] t #[.slice (some ⟨w.heap.size,0,none⟩) 0 0,s]).run P (w.alloc (.cells #[] e))= .ok v w'∧Q (.returned v) w')→
   (s= .slice none 0 0∨∃a n c,s= .slice (some a) n c)→Calls P f #[s] w Q
structure iG (P:Program) (A:cy):Prop where
 count:yc P
 ext: ∀f T,A.ext f=some T→∀(b:Nat) (C:Array Value) (w:World),w.heap[b]? =some (.cells C T (0,0))→C.size=P.cellsOf T→(C[0]? =some (.pointer none)∨C[0]? =some (.pointer (some ⟨b,0,none⟩)))→
  (callFunc f #[.pointer (some ⟨b,0,none⟩)]).run P w= .ok (.enter f #[.pointer (some ⟨b,0,none⟩)]) w∧
  Calls P f #[.pointer (some ⟨b,0,none⟩)] w fun e w'=>e= .returned (.tuple #[])∧(w'=w∨w'=w.setCell ⟨b,0,none⟩ (.pointer (some ⟨b,0,none⟩)))
 idle: ∀f,A.idle f=true→(∀args w,(callFunc f args).run P w= .ok (.enter f args) w)∧
  ∀args w,CallsD P f args .returning w fun e u' w'=>(∃v,e= .returned v)∧u'= .returning∧w'=w
 nM: ∀f e,A.nM f=some e→N0 P f e
theorem iG.here {P:Program} {A:cy} (h:iG P A) (f id:Nat):iG P (A.here f id):=⟨h.count,h.ext,h.idle,h.nM⟩
def zB (E:FuncId→Bool) (d:Deferred):Prop:= ∃f cap,d.target= .fn (.func f) cap∧E f=true
theorem H5 {P:Program} {A:cy} (hP:iG P A) {fn:Func} {tmps:Array Value} {R:Ending→World→Prop} {w:World} {v:Value} (hv:(results fn tmps).run P w= .ok v w) (hR:R (.returned v) w):
  ∀ds:List Deferred,(∀d∈ds,zB A.idle d)→Leaves P fn tmps R ds .returning w
 | [],_=>⟨v,hv,hR⟩
 | d::ds,h=>by
  obtain ⟨f,cap,ht,hf⟩:=h d (by simp)
  obtain ⟨k1,k2⟩:=hP.idle f hf
  obtain ⟨t,N3⟩:=d
  simp only at ht
  subst ht
  refine leaves_cons (f:=f) (args:=N3++cap) (by simp) ?_ ?_
  ·simp only[invoke];exact k1 _ w
  ·refine (k2 (N3++cap) w).mono fun e u' w' hr=> ?_
   obtain ⟨⟨v',rfl⟩,rfl,rfl⟩:=hr
   exact H5 hP hv hR ds fun d hd=>h d (kU _ hd)
def zC (P:Program) (A:cy) (o:Oper) (a:Act) (w:World) (I:Nat→Prop) (β:Nat→Option Nat) (hp:Nat→Option an) (B:Nat) (M:Nat→Prop) (w0:Start) (r:R):Prop:=
 ∀(next:Act→World→Prop) (Q:Exit→Act→World→Prop),
  (∀v w' I' β' ds,Le P w I β hp w' I' β' (bJ hp r.upd)→aF P w' I' β' (bJ hp r.upd) B M w0→ao P w' I' β' (bJ hp r.upd) v r.v→(∀d∈ds,d∈a.defers∨zB A.idle d)→next ({a with defers:=ds}.put o.dst v) w')→o.wp P a w next Q
theorem o0.step {o:Oper} {a:Act} {r:R} (h:o0 P ((execOp a.eval o).run P w) w I β hp B M w0 r):zC P A o a w I β hp B M w0 r:=by
 obtain ⟨v,w',I',β',h1,U,h3,h4⟩:=h
 intro next Q hn
 unfold Oper.wp
 rcases h1 with h1|⟨h1,rfl⟩
 ·rw[h1];exact hn v w' I' β' a.defers U h3 h4 fun d hd=> .inl hd
 ·rw[h1];exact hn _ w' I' β' a.defers U h3 h4 fun d hd=> .inl hd
theorem N4: ∀(l:List (Nat × VS)),nP l=ry (l.map (·.2))
 | []=>rfl
 | (_,s)::l=>by simp only[nP,cw,ry,N4 l]
theorem X0 (hC:kK P A C) (S:aF P w I β hp B M w0) (hg:fW P A.aE w I) {vals:List Value} {args:List V} {nb key:Nat} {f:FuncId} {r:R} {rd:List Nat} (hlen:vals.length=args.length)
  (cA: ∀(j:Nat) v x,vals[j]? =some v→args[j]? =some x→ao P w I β hp v x) (h:(yK P A nb key f args).run C hp=some (r,rd)):
  ∃fn c,P.funcs[f]? =some fn∧fn.body=some c∧Calls P f vals.toArray w fun e w'=> ∃v I' β',e= .returned v∧Le P w I β hp w' I' β' (bJ hp r.upd)∧aF P w' I' β' (bJ hp r.upd) B M w0∧ao P w' I' β' (bJ hp r.upd) v r.v:=by
 unfold yK at h
 obtain ⟨N5,h0⟩:=aG h
 clear h
 rw[aQ] at N5
 subst N5
 obtain ⟨h1,iX,d1,u1,a1,a2,a3,a5,a4⟩:=HW S h0 hlen cA
 obtain ⟨U,rP,d2,u2,b1,b2,b3,b4⟩:=NG S a1
 clear h0 a1
 obtain ⟨hc,h3⟩:=aG b1
 clear b1
 simp only[aK,aQ,my] at hc
 obtain ⟨bQ,Dy⟩:=hc
 have rR:=a2.trans b2
 have kR:U.ds=d1++d2:=by have:=rR.ds;simpa using this
 have DC:U.upd=u1++u2:=by have:=rR.upd;simpa using this
 have j7:(U.pl.map Place.id).Nodup:=rR.nodup (by simp)
 obtain ⟨c1,o,c2,c3⟩:=b4 []
 simp only[cU] at c1 c2 c3
 cases zD:C key U.ds with
 | none=>
  simp only[Rd.run,zD] at h3
  cases h3
 | some es=>
  have qd: ∃eK,(yJ P (A.so key es) nb U (A.lv key es)).run C hp=some (r,eK):=by
   obtain ⟨x,hx,e⟩:=bind_some h3
   rw[zD] at hx
   cases hx
   unfold cy.so cy.lv
   cases ca:A.alt key with
   | none=>rw[ca] at e;exact ⟨_,e⟩
   | some S2=>
    rw[ca] at e
    simp only[Rd.run] at e
    cases hb:(V.nth es 0).toBool<;>(rw[hb] at e;exact ⟨_,e⟩)
  clear h3
  obtain ⟨eK,h3⟩:=qd
  unfold yJ at h3
  simp only at h3
  generalize gB:eB (A.so key es).bh ((A.lv key es).drop (nP (A.so key es).bN))=bs at h3
  generalize qw:U.pl++rz nb (bs.length-U.pl.length)=σ at h3
  generalize zA:pY σ nb (bs.drop U.pl.length)=fr at h3
  obtain ⟨p0,bk,rd4,p1,p2,_,p3⟩:=NN h3
  obtain ⟨rQ,rd5,p4⟩:=NQ p1
  obtain rfl:=aM p4
  have qg:U.pl.length≤bs.length:=by rw[eO] at p0;omega
  have DA: ∀q∈bk,∃(j:Nat) (b:an),U.pl[j]? =some (.blk q.1)∧bs[j]? =some b∧fS σ b q.2∧zz hp q:=by
   intro q hq
   rcases p2 q hq with hx|⟨j,b,k1,k2,k3,k4⟩
   ·simp at hx
   ·have hj:=(bu.1 k1).1
    rw[eN hj] at k2
    exact ⟨j,b,k1,k2,k3,k4⟩
  obtain ⟨fn,c,hf,hb,H6⟩:=hC key U.ds es zD
  refine ⟨fn,c,hf,hb,?_⟩
  have X1:eB (A.sin key).bh (U.ds.drop (nP (A.sin key).bN))=eB (A.sin key).bh d2:=by
   rw[kR,N4,mU a3]
  have H7:(br (A.sin key) U.ds).hp=jk (eB (A.sin key).bh d2):=by
   simp only[br,mk,X1]
  have hl: ∀j blk,(br (A.sin key) U.ds).hp j=some blk→∃p,dY U.pl j=some p∧dP P w β hp p (o j) blk:=by
   intro j blk hj
   rw[H7,gI] at hj
   obtain ⟨p,k1,k2⟩:=c2 j blk hj
   rw[gu] at k1
   exact ⟨p,k1,k2⟩
  have hd: ∀j,j<U.pl.length→∃blk,(br (A.sin key) U.ds).hp j=some blk:=by
   intro j hj
   rw[H7,gI]
   exact ⟨_,bM (by rw[c1,←bQ];exact hj)⟩
  have N6:zt P w β hp U.pl o (br (A.sin key) U.ds).hp:=by
   intro j p hj
   obtain ⟨blk,k1⟩:=hd j (by rw[lq] at hj;exact (bu.1 hj).1)
   obtain ⟨p',k2,k3⟩:=hl j blk k1
   rw[hj] at k2
   cases k2
   exact ⟨blk,k1,k3⟩
  obtain ⟨qm,S1⟩:=yZ S rR.Dr
  rw[←DC] at qm S1
  have i1: ∀b,I b→iz P w I β hp U.upd b:=fun b h=> .inl h
  have entry:=XU (hp0:=(br (A.sin key) U.ds).hp) S j7 Dy hl (fun cH j blk hj=>by
   have gd:=hj
   rw[H7,gI] at gd
   exact c3 (iz P w I β hp U.upd) o _ i1 (fun q hq b hb=> .inr ⟨q,by rw[DC];exact ey.2 (.inr hq),hb⟩) U.pl [] (by simp) N6 j blk gd (cH j blk hj)) S1.h.jo
  have X2:vals.length=(A.sin key).bN.length:=by rw[hlen,←a5];simp
  have ha:=H6 w (iz P w I β hp U.upd) o vals entry (hg.mono i1 fun _ _=>rfl) X2 fun j v x hj hx=>by
   rw[kR] at hx
   exact (((a4.zu b2) (iz P w I β hp U.upd) o _ i1 (fun q hq b hb=> .inr ⟨q,by rw[DC];exact hq,hb⟩) U.pl [] (by simp) N6) d2).2 j v x hj hx
  refine ha.mono fun e w' zF=> ?_
  obtain ⟨v,I2,bY,rfl,ha⟩:=zF
  have vX:(br (A.so key es) (A.lv key es)).hp=jk bs:=by simp only[br,mk,gB]
  cases X3:(A.so key es).safe P with
  | true=>
   simp only[cond_true,cU]
   have gF: ∀b,I b→I2 b:=fun b h=>ha.le.c9 b (i1 b h)
   obtain ⟨s1,s2⟩:=XX X3 gF ha.vT i1
   have vU:kJ w I o (br (A.sin key) U.ds).hp w' I bY (jk bs):=by
    rw[←vX]
    exact ⟨fun _ h=>h,fun b h=>ha.le.b8 b (i1 b h),ha.le.blk,ha.le.size⟩
   obtain ⟨β',k1,k2,k3⟩:=NV S qw.symm zA.symm j7 qg p3 DA hl hd (by rw[←vX];exact ⟨s1.h,s1.b8,s1.size,fun b h=> .inl h,s1.io⟩) vU rQ
   exact ⟨v,I,β',rfl,k1,k2,k3.val (by have:=s2 v ha.res;rw[vX] at this;exact this)⟩
  | false=>
   simp only[cond_false]
   rw[←cj,NZ]
   have oh: ∀p∈U.pl,bJ hp U.upd p.id=hp p.id:=fun p hp=>vW fun q hq e=>
    Dx Dy (fY.2 ⟨q,hq,rfl⟩) (e▸fY.2 ⟨p,hp,rfl⟩)
   have X4: ∀q∈bk,∃(j:Nat) (b:an),U.pl[j]? =some (.blk q.1)∧bs[j]? =some b∧fS σ b q.2∧zz (bJ hp U.upd) q:=by
    intro q hq
    obtain ⟨j,b,k1,k2,k3,k4⟩:=DA q hq
    refine ⟨j,b,k1,k2,k3,fun hn=> ?_⟩
    have:=oh _ (jh k1)
    simp only[Place.id] at this
    rw[this]
    exact k4 hn
   have rC: ∀j blk,(br (A.sin key) U.ds).hp j=some blk→∃p,dY U.pl j=some p∧dP P w β (bJ hp U.upd) p (o j) blk:=by
    intro j blk hj
    obtain ⟨p,k1,k2⟩:=hl j blk hj
    exact ⟨p,k1,k2.other (oh p (by rw[lq] at k1;exact jh k1))⟩
   have X5: ∀q∈fr,bJ hp U.upd q.1=none:=by
    intro q hq
    rw[vW fun q' zG e=> ?_]
    ·exact rQ q hq
    ·obtain ⟨e1,cg,_,h5⟩:=rR.Dr q' (DC▸zG)
     rw[e,rQ q hq] at h5
     rcases h5 with ⟨_,h5⟩|⟨_,h5⟩<;>cases h5
   obtain ⟨β',k1,k2,k3⟩:=NV S1 qw.symm zA.symm j7 qg p3 X4 rC hd (by rw[←vX];exact ha.vT) (by rw[←vX];exact ha.le) X5
   exact ⟨v,I2,β',rfl,qm.trans k1,k2,k3.val (by have:=ha.res;rw[vX] at this;exact this)⟩
theorem N7 (hC:kK P A C) (hP:iG P A) (S:aF P w I β hp B M w0) (hg:fW P A.aE w I) {a:Act} {nb key:Nat} {o:Oper} {f:FuncId} {vals:List Value} {args:List V} (hlen:vals.length=args.length)
  (cA: ∀(j:Nat) v x,vals[j]? =some v→args[j]? =some x→ao P w I β hp v x) {r:R} {rd:List Nat} (h:(yK P A nb key f args).run C hp=some (r,rd))
  (hex:(execOp a.eval o).run P w=(callFunc f vals.toArray).run P w):zC P A o a w I β hp B M w0 r:=by
 intro next Q hn
 obtain ⟨fn,c,hf,hb,H6⟩:=X0 hC S hg hlen cA h
 unfold Oper.wp
 rw[hex,MuLone.run_callFunc_enter hf (hP.count f _ hf) hb,Oper.upon_enter]
 refine H6.mono fun e w' zF=> ?_
 obtain ⟨v,I2,bY,rfl,k1,k2,k3⟩:=zF
 exact hn v w' I2 bY a.defers k1 k2 k3 fun d hd=> .inl hd
theorem kE.args {a:Act} {sl:Nat→V} (hs:kE P w I β hp a sl) (hg:fW P A.aE w I) {args:Array Operand} {ts:Array TypeId} (aT:args.size=ts.size):
  (args.map a.eval).toList.length=((args.toList.zip ts.toList).map fun p=>aN P A.aE p.2 sl p.1).length∧
  ∀(j:Nat) v x,(args.map a.eval).toList[j]? =some v→((args.toList.zip ts.toList).map fun p=>aN P A.aE p.2 sl p.1)[j]? =some x→ao P w I β hp v x:=by
 refine ⟨by simp;omega,fun j v x hv hx=> ?_⟩
 simp only[Array.toList_map,gv,List.getElem?_zip_eq_some,yo] at hv hx
 obtain ⟨x1,zH,rfl⟩:=hv
 obtain ⟨⟨y1,t1⟩,⟨N8,_⟩,rfl⟩:=hx
 rw[zH] at N8
 cases N8
 exact hs.ev hg t1 _
theorem N9 {vs us:List Value} {xs ys:List V} (h1:vs.length=xs.length) (U: ∀(j:Nat) v x,vs[j]? =some v→xs[j]? =some x→ao P w I β hp v x)
  (h3: ∀(j:Nat) v x,us[j]? =some v→ys[j]? =some x→ao P w I β hp v x) (j:Nat) (v:Value) (x:V) (hv:(vs++us)[j]? =some v) (hx:(xs++ys)[j]? =some x):ao P w I β hp v x:=by
 by_cases hj:j<vs.length
 ·rw[ij hj] at hv
  rw[ij (by omega)] at hx
  exact U j v x hv hx
 ·rw[ik (by omega)] at hv
  rw[ik (by omega)] at hx
  rw[h1] at hv
  exact h3 _ v x hv hx
theorem X6 (hP:iG P A) (S:aF P w I β hp B M w0) (hg:fW P A.aE w I) {a:Act} {sl:Nat→V} (hs:kE P w I β hp a sl) {dst:Option Tmp} {ty e:TypeId} {pos:String} {after:Array Edge} {guard:Option (Nat × Bool)} {f:FuncId}
  {args:Array Operand} {argTypes:Array TypeId} {nb:Nat} {r:R} {rd:List Nat} (kI:A.nM f=some e)
  (h:((match args.toList with
    | [x]=> .aC (cI P e) (ru e (aN P A.aE ty sl x) fun xs=> .aC (Nat.ble (xs.length*P.bytesOf e) bS) (iQ nb (.arr e xs false) (.whole e nb) []))
    | _=> .fail):Rd R).run C hp=some (r,rd)):zC P A (Oper.mk dst (.call (Go.Call.mk (.value (.func f)) args argTypes)) ty pos after guard) a w I β hp B M w0 r:=by
 cases ha:args.toList with
 | nil=>rw[ha] at h;cases h
 | cons x l=>
  rw[ha] at h
  cases l with
  | cons _ _=>cases h
  | nil=>
   simp only at h
   have e1:args= #[x]:=by rw[←Array.toArray_toList (xs:=args),ha]
   subst e1
   have hx:=hs.ev hg ty x
   obtain ⟨au,h⟩:=aG h
   have fin: ∀{w1:World} {DD:Nat→Option Nat},(∀id blk,hp id=some blk→dN P w1 I DD hp (DD id) blk)→ao P w1 I DD hp (a.eval x) (aN P A.aE ty sl x)→∃xs,(((∃a',a.eval x= .slice a' 0 0)∧xs=[])∨∃a' c news,Row P w1 I e (a.eval x) xs a' c news)∧
     xs.length*P.bytesOf e≤bS∧hp nb=none∧r=⟨.whole e nb,[(nb,.arr e xs false)]⟩:=by
    intro w1 DD h1 U
    obtain ⟨xs,lp,l,h⟩:=C9 h1 au U h
    obtain ⟨dJ,h⟩:=aG h
    rw[dm] at dJ
    obtain ⟨hn,rfl⟩:=mP h
    exact ⟨xs,lp,dJ,hn,rfl⟩
   obtain ⟨c1,t,hu,c2⟩:=hP.nM f e kI
   intro next Q vY
   unfold Oper.wp
   have e2:(execOp a.eval ⟨dst,.call ⟨.value (.func f),#[x],argTypes⟩,ty,pos,after,guard⟩).run P w= .ok (.enter f #[a.eval x]) w:=by
    have eL:a.eval (.func f)= .func (.func f) #[] #[]:=rfl
    simpa[execOp,resolve,eL,Deferred.ofValue,invoke] using c1 #[a.eval x] w
   rw[e2,Oper.upon_enter]
   refine c2 _ w _ (fun zI=> ?_) (fun b n c o7=> ?_) ?_
   ·obtain ⟨xs,lp,dJ,hn,rfl⟩:=fin S.h.rel hx
    have gf:xs=[]:=by
     rcases lp with ⟨_,h⟩|⟨a,c,news,hr⟩
     ·exact h
     ·have:=hr.val.symm.trans zI
      cases this
    subst gf
    obtain ⟨a1,a2⟩:=CK S e hn
    exact vY _ w I _ a.defers a1 a2 (.dx (cM _ _ _) (cM _ _ _)) fun d hd=> .inl hd
   ·obtain ⟨m1,m2⟩:=VD (w':=w.alloc (.cells #[] e)) S (fun b hb=>heap_alloc_old w _ b hb) (by simp) ⟨rfl,rfl⟩
    obtain ⟨xs,lp,dJ,hn,rfl⟩:=fin m2.h.rel (hx.mono m1)
    obtain ⟨v,w',β',a1,a2,a3,a4⟩:=Ho (ty:=t) (a0:=some ⟨w.heap.size,0,none⟩) m2 hu au hn dJ lp
    exact ⟨v,w',a1,vY v w' I β' a.defers (m1.trans a2) a3 a4 fun d hd=> .inl hd⟩
   ·obtain ⟨xs,lp,dJ,hn,rfl⟩:=fin S.h.rel hx
    rcases lp with ⟨⟨b,h⟩,_⟩|⟨b,c,news,hr⟩
    ·rw[h]
     cases b with
     | none=>exact .inl rfl
     | some b=>exact .inr ⟨_,_,_,rfl⟩
    ·exact .inr ⟨_,_,_,hr.val⟩
theorem X7 (hP:iG P A) (S:aF P w I β hp B M w0) (hg:fW P A.aE w I) {a:Act} {sl:Nat→V} (hs:kE P w I β hp a sl) {dst:Option Tmp} {ty T0:TypeId} {pos:String} {after:Array Edge} {guard:Option (Nat × Bool)} {f:FuncId}
  {args:Array Operand} {argTypes:Array TypeId} {r:R} {rd:List Nat} (zJ:A.ext f=some T0)
  (h:((match args.toList with
   | [x]=>
    match aN P A.aE ty sl x with
    | .ptr id i c=>Rd.get id fun
     | some (.var T cs)=> .aC (Nat.beq T T0&&(oT P T&&(Nat.beq cs.length (P.cellsOf T)&&(Nat.beq i 0&&Nat.beq c 0)))) (.ret ⟨.bm [],[(id,.var T (.undef::cs.tail))]⟩)
     | _=> .fail
    | _=> .fail
   | _=> .fail):Rd R).run C hp=some (r,rd)):zC P A (Oper.mk dst (.call (Go.Call.mk (.value (.func f)) args argTypes)) ty pos after guard) a w I β hp B M w0 r:=by
 cases ha:args.toList with
 | nil=>rw[ha] at h;cases h
 | cons x l=>
  rw[ha] at h
  cases l with
  | cons _ _=>cases h
  | nil=>
   simp only at h
   have e1:args= #[x]:=by rw[←Array.toArray_toList (xs:=args),ha]
   subst e1
   have hx:=hs.ev hg ty x
   cases eZ:aN P A.aE ty sl x<;>rw[eZ] at h hx<;>simp only at h<;>first|(cases h;done)|skip
   rename_i id i c
   obtain ⟨l,h1⟩:=run_get h
   cases ab:hp id with
   | none=>rw[ab] at h1;cases h1
   | some blk=>
    rw[ab] at h1
    cases blk<;>simp only at h1<;>first|(cases h1;done)|skip
    rename_i T cs
    obtain ⟨U,h3⟩:=aG h1
    simp only[aK,aQ] at U
    obtain ⟨rfl,bP,oj,rfl,rfl⟩:=U
    obtain rfl:=aM h3
    obtain ⟨b,hb,he⟩:=hx.gC ab (by simp)
    have hr:=S.h.rel id _ ab
    rw[hb] at hr
    cases hr with
    | @var _ b' Ca _ aB hh aT hI gf fO=>
     cases aB
     have gE:a.eval x= .pointer (some ⟨b,0,none⟩):=by rw[he];simp[an.sz]
     obtain ⟨q1,q2⟩:=hP.ext f T zJ b Ca w hh (aT.trans oj) (fO bP)
     have h0:0<Ca.size:=by
      rcases fO bP with k|k<;>exact (gS.1 k).1
     have nW:(V.undef::cs.tail).length=cs.length:=by
      cases cs with
      | nil=>rw[aT] at h0;simp at h0
      | cons _ _=>rfl
     have rel: ∀(C':Array Value),(∀j,0<j→C'[j]? =Ca[j]?)→∀(j:Nat) v y,C'[j]? =some v→(V.undef::cs.tail)[j]? =some y→ao P w I β hp v y:=by
      intro C' vI j v y hj hy
      cases j with
      | zero=>simp at hy;subst hy;exact .undef
      | succ j=>
       rw[vI _ (by omega)] at hj
       refine gf (j+1) v y hj ?_
       cases cs with
       | nil=>rw[aT] at h0;simp at h0
       | cons _ _=>simpa using hy
     have fin: ∀w' C',(∀b',b'≠b→w'.heap[b']? =w.heap[b']?)→w'.heap[b]? =some (.cells C' T (0,0))→C'.size=Ca.size→w.heap.size≤w'.heap.size→w'.os=w.os∧w'.output=w.output→
       (∀j,0<j→C'[j]? =Ca[j]?)→(C'[0]? =some (.pointer none)∨C'[0]? =some (.pointer (some ⟨b,0,none⟩)))→
       Le P w I β hp w' I β (aH hp id (some (.var T (V.undef::cs.tail))))∧aF P w' I β (aH hp id (some (.var T (V.undef::cs.tail)))) B M w0:=by
      intro w' C' k1 k2 k3 k4 k5 k6 k7
      exact CM (w':=w') (blk':= .var T (V.undef::cs.tail)) S ab (by simp) rfl hb hI (by simp) k1 (by rw[mK k2,mK hh,k3]) k4 k5 fun hle=>
       .var rfl k2 (by rw[k3,aT,nW]) hI (fun j v y hj hy=>(rel C' k6 j v y hj hy).mono hle) fun _=>k7
     intro next Q hn
     unfold Oper.wp
     have e2:(execOp a.eval ⟨dst,.call ⟨.value (.func f),#[x],argTypes⟩,ty,pos,after,guard⟩).run P w= .ok (.enter f #[.pointer (some ⟨b,0,none⟩)]) w:=by
      have eL:a.eval (.func f)= .func (.func f) #[] #[]:=rfl
      simpa[execOp,resolve,eL,Deferred.ofValue,invoke,gE] using q1
     rw[e2,Oper.upon_enter]
     refine q2.mono fun e w' zF=> ?_
     obtain ⟨rfl,hw⟩:=zF
     have Oa:Le P w I β hp w' I β (aH hp id (some (.var T (V.undef::cs.tail))))∧aF P w' I β (aH hp id (some (.var T (V.undef::cs.tail)))) B M w0:=by
      rcases hw with rfl|rfl
      ·exact fin w' Ca (fun _ _=>rfl) hh rfl (bZ _) ⟨rfl,rfl⟩ (fun _ _=>rfl) (fO bP)
      ·refine fin (w.setCell ⟨b,0,none⟩ (.pointer (some ⟨b,0,none⟩))) (Ca.setIfInBounds 0 (.pointer (some ⟨b,0,none⟩))) (fun b' bA=> ?_) ?_ (by simp) (by simp[World.setCell]) ⟨rfl,rfl⟩ (fun j hj=> ?_) (.inr ?_)
       ·simp only[World.setCell,ym]
        rw[ai (fun e=>bA e.symm)]
       ·simp[World.setCell,ym,hh]
       ·rw[BY (by omega)]
       ·rw[Gm h0]
     exact hn (.tuple #[]) w' I β a.defers Oa.1 Oa.2 (.bm rfl fun j v y hj _=>by simp at hj) fun d hd=> .inl hd
theorem X8 (hC:kK P A C) (hP:iG P A) (S:aF P w I β hp B M w0) (hg:fW P A.aE w I) {a:Act} {sl:Nat→V} (hs:kE P w I β hp a sl) {ix nb:Nat} {o:Oper} {r:R} {rd:List Nat}
  (h:(fh P A sl ix nb o).run C hp=some (r,rd)):zC P A o a w I β hp B M w0 r:=by
 cases hc:HN o.op with
 | false=>exact (Xy S hg hs hc h).step
 | true=>
  obtain ⟨dst,op,ty,pos,after,guard⟩:=o
  cases op<;>simp only[HN] at hc<;>first|(cases hc;done)|skip
  case defer c=>
   obtain ⟨callee,args,argTypes⟩:=c
   cases callee with
   | invoke r m=>simp only[fh] at h;cases h
   | builtin b=>simp only[fh] at h;cases h
   | value f=>
   cases f with
   | tmp t=>
    simp only[fh] at h
    cases bP:sl t<;>rw[bP] at h<;>simp only at h<;>first|(cases h;done)|skip
    rename_i f xs ys
    obtain ⟨h1,U⟩:=aG h
    obtain rfl:=aM U
    have hv:=hs t
    rw[bP] at hv
    generalize tz:a.tmps.getD t undef=vt at hv
    cases hv with
    | @fn _ fs cs _ _ q1 q2 q3 q4=>
     intro next Q hn
     unfold Oper.wp
     have eL:a.eval (.tmp t)= .func (.func f) fs cs:=tz
     have e1:(execOp a.eval ⟨dst,.defer ⟨.value (.tmp t),args,argTypes⟩,ty,pos,after,guard⟩).run P w= .ok (.defer {target:= .fn (.func f) cs,args:=fs++args.map a.eval}) w:=by
      simp[execOp,resolve,eL,Deferred.ofValue]
     rw[e1,Oper.upon_defer]
     exact hn undef w I β _ (Le.refl w I β hp) S .undef fun d hd=>by
      rcases dg.1 hd with rfl|hd
      ·exact .inr ⟨f,cs,rfl,h1⟩
      ·exact .inl hd
   | func f=>simp only[fh] at h;cases h
   | const _=>simp only[fh] at h;cases h
   | global _=>simp only[fh] at h;cases h
  rename_i c
  obtain ⟨callee,args,argTypes⟩:=c
  cases callee with
  | invoke r m=>cases hc
  | builtin b=>cases hc
  | value f=>
   cases f with
   | func f=>
    simp only[fh] at h
    cases zJ:A.ext f with
    | some T0=>
     rw[zJ] at h
     simp only at h
     exact X7 hP S hg hs zJ h
    | none=>
    rw[zJ] at h
    simp only at h
    cases kI:A.nM f with
    | some e0=>
     rw[kI] at h
     simp only at h
     exact X6 hP S hg hs kI h
    | none=>
    rw[kI] at h
    simp only at h
    obtain ⟨h1,U⟩:=aG h
    rw[aQ] at h1
    obtain ⟨k1,k2⟩:=hs.args hg h1
    refine N7 hC hP S hg k1 k2 U ?_
    have e1:(args.map a.eval).toList.toArray=args.map a.eval:=Array.toArray_toList
    rw[e1]
    simp[execOp,resolve,Act.eval,Deferred.ofValue,invoke]
   | tmp t=>
    simp only[fh] at h
    cases bP:sl t<;>rw[bP] at h<;>simp only at h<;>first|(cases h;done)|skip
    rename_i f xs ys
    obtain ⟨h1,U⟩:=aG h
    rw[aQ] at h1
    obtain ⟨k1,k2⟩:=hs.args hg h1
    have hv:=hs t
    rw[bP] at hv
    generalize tz:a.tmps.getD t undef=vt at hv
    cases hv with
    | @fn _ fs cs _ _ q1 q2 q3 q4=>
     have l1:fs.toList.length=xs.length:=by simpa using q1
     have l3:cs.toList.length=ys.length:=by simpa using q3
     have r1: ∀(j:Nat) v x,fs.toList[j]? =some v→xs[j]? =some x→ao P w I β hp v x:=fun j v x hj hx=>q2 j v x (by simpa using hj) hx
     have r3: ∀(j:Nat) v x,cs.toList[j]? =some v→ys[j]? =some x→ao P w I β hp v x:=fun j v x hj hx=>q4 j v x (by simpa using hj) hx
     refine N7 hC hP S hg (vals:=fs.toList++(args.map a.eval).toList++cs.toList) (args:=xs++((args.toList.zip argTypes.toList).map fun p=>aN P A.aE p.2 sl p.1)++ys) (by simp only[bU];omega) ?_ U ?_
     ·exact N9 (by simp only[bU];omega) (N9 l1 r1 k2) r3
     ·have e1:(fs.toList++(args.map a.eval).toList++cs.toList).toArray=fs++args.map a.eval++cs:=by
       apply Array.toList_inj.1;simp
      rw[e1]
      have eL:a.eval (.tmp t)= .func (.func f) fs cs:=tz
      simp[execOp,resolve,eL,Deferred.ofValue,invoke]
   | _=>cases hc
end
section
variable {P:Program} {A:cy} {w w':World} {I I' I2:Nat→Prop} {μ β β':Nat→Option Nat} {hp hp':Nat→Option an} {C:ag} {B:Nat} {M:Nat→Prop} {w0:Start}
structure iH (P:Program) (E:FuncId→Bool) (G:Nat→V) (w:World) (I:Nat→Prop) (β:Nat→Option Nat) (n:Nat) (a:Act) (st:St):Prop where
 sl:kE P w I β st.hp a st.sl
 size:a.tmps.size=n
 defers: ∀d∈a.defers,zB E d
 aE:fW P G w I
theorem H8 {E:FuncId→Bool} {G:Nat→V} {n:Nat} {a:Act} {st:St} {o:Oper} {v:Value} {x:V} {hp':Nat→Option an} {ds:List Deferred} (h:iH P E G w I β n a st) (hle:Le P w I β st.hp w' I' β' hp') (hd:rA o n=true)
  (hv:ao P w' I' β' hp' v x) (kR: ∀d∈ds,d∈a.defers∨zB E d):iH P E G w' I' β' n ({a with defers:=ds}.put o.dst v) ⟨gV st.sl o.dst x,hp',st.nb⟩:=by
 have Ob: ∀d∈ds,zB E d:=fun d hd=>(kR d hd).elim (h.defers d) id
 cases X9:o.dst with
 | none=>exact ⟨fun k=>(h.sl k).mono hle,h.size,Ob,h.aE.mono hle.c9 hle.b8⟩
 | some d=>
  have aO:d<a.tmps.size:=by
   unfold rA at hd
   rw[X9] at hd
   rw[h.size]
   simpa using hd
  refine ⟨fun k=> ?_,by simp[Act.put,h.size],Ob,h.aE.mono hle.c9 hle.b8⟩
  simp only[Act.put,gV,aH]
  cases hb:Nat.beq k d with
  | true=>
   rw[aQ] at hb
   subst hb
   simpa[aO] using hv
  | false=>
   have bA:d≠k:=fun e=>by rw[e,jg] at hb;cases hb
   have:=(h.sl k).mono hle
   simpa[BY bA] using this
theorem Oc {E:FuncId→Bool} {G:Nat→V} {n:Nat} {a:Act} {st:St} {d:Nat} {b:Bool} (h:iH P E G w I β n a st) (hd:st.sl d= .bool b):a.tmps[d]? =some (.bool b):=by
 have:=h.sl d
 rw[hd] at this
 have:=this.jY
 cases ht:a.tmps[d]? with
 | none=>simp[ht] at this;cases this
 | some v=>simp[ht] at this;rw[this]
theorem Ya {x:V} {b:Bool} (h:kX x=some (some b)):x= .bool b:=by
 cases x with
 | bool c=>simp only[kX] at h;injection h with h;injection h with h;rw[h]
 | bm vs=>cases vs<;>simp[kX] at h
 | _=>simp[kX] at h
theorem Yb {x:V} (h:kX x=some none):x= .bm []:=by
 cases x with
 | bm vs=>cases vs with
  | nil=>rfl
  | cons _ _=>simp[kX] at h
 | bool c=>simp[kX] at h
 | _=>simp[kX] at h
theorem ao.Yc {v:Value} (h:ao P w I β hp v (.bm [])):v= .tuple #[]:=by
 cases h with
 | @bm cs _ hs _=>
  have:cs= #[]:=by
   apply Array.eq_empty_of_size_eq_zero
   simpa using hs
  rw[this]
theorem ao.Od:ao P w I β hp Go.undef (.bm []):= .bm (by rfl) (fun j v x _ hx=>by simp at hx)
theorem Oe (hC:kK P A C) (hP:iG P A) {ops:Array Oper} {n i nb:Nat} {o:Oper} (ho:ops[i]? =some o) {a:Act} {st st':St} {R W:List Nat} (S:aF P w I β st.hp B M w0) (hA:iH P A.idle A.aE w I β n a st)
  (h:gy P A C n ops i o nb st=some (st',R,W)) {K:Act→World→Prop} {Q:Exit→Act→World→Prop}
  (hK: ∀a' w' I' β',Le P w I β st.hp w' I' β' st'.hp→aF P w' I' β' st'.hp B M w0→iH P A.idle A.aE w' I' β' n a' st'→K a' w'):wpOp P ops Q i K a w:=by
 unfold gy at h
 cases hd:rA o n with
 | false=>rw[hd] at h;cases h
 | true=>
  rw[hd] at h
  simp only[cond_true] at h
  have go: ∀{H9:St} {R W:List Nat},(((fh P A st.sl i (nb+64*i) o).run C st.hp).bind fun r=>some ((⟨gV st.sl o.dst r.1.v,bJ st.hp r.1.upd,st.nb⟩:St),p6 r.2 r.1.upd,fx st.hp r.1.upd))=some (H9,R,W)→H9=st'→
    o.wp P a w K Q:=by
   intro H9 R W h e
   obtain ⟨⟨r,rd⟩,h1,U⟩:=bind_some h
   cases U
   subst e
   exact X8 hC hP S hA.aE hA.sl h1 K Q fun v w' I' β' ds k1 k2 k3 k4=>hK _ w' I' β' k1 k2 (H8 hA k1 hd k3 k4)
  unfold wpOp
  rw[ho]
  simp only
  cases hg:o.guard with
  | none=>
   rw[hg] at h
   simp only[Region.wanted,hg,cF]
   exact .inl (go h rfl)
  | some gw=>
   obtain ⟨g,want⟩:=gw
   rw[hg] at h
   simp only at h
   cases lr:(ops[g]?).bind (·.dst) with
   | none=>rw[lr] at h;cases h
   | some d=>
    rw[lr] at h
    simp only at h
    cases lY:kX (st.sl d) with
    | none=>rw[lY] at h;cases h
    | some ob=>
    rw[lY] at h
    cases ob with
    | none=>
     have o7:=Yb lY
     have hy:yielded ops a.tmps g=none:=by
      unfold yielded
      rw[lr]
      have:=hA.sl d
      rw[o7] at this
      have hu:=ao.Yc this
      simp only[Option.bind_some]
      cases ht:a.tmps[d]? with
      | none=>rfl
      | some v=>simp[ht] at hu;subst hu;rfl
     simp only[Region.wanted,hg,hy]
     injection h with h
     injection h with h3 h4
     subst h3
     have U:((none:Option Bool)==some want)=false:=rfl
     simp only[U,yp,fc]
     exact hK _ w I β (Le.refl w I β st.hp) S (H8 (ds:=a.defers) hA (Le.refl w I β st.hp) hd ao.Od fun d h=> .inl h)
    | some b=>
    simp only at h
    have o7:=Ya lY
    have hy:yielded ops a.tmps g=some b:=by
     unfold yielded
     rw[lr]
     simp only[Option.bind_some,Oc hA o7]
    simp only[Region.wanted,hg,hy]
    by_cases hb:b=want
    ·subst hb
     simp only[yn,cond_true] at h
     simp only[yn,cF]
     exact .inl (go h rfl)
    ·have h1:(b==want)=false:=by simp[hb]
     have U:(some b==some want)=false:=by simp[hb]
     rw[h1] at h
     simp only[cond_false] at h
     injection h with h
     injection h with h3 h4
     subst h3
     simp only[U,yp,fc]
     exact hK _ w I β (Le.refl w I β st.hp) S (H8 (ds:=a.defers) hA (Le.refl w I β st.hp) hd ao.Od fun d h=> .inl h)
def tI (hp hp':Nat→Option an) (c:Nat):Prop:=hp' c=hp c∧(KB≤c→fL (hp' (c-KB))=fL (hp (c-KB)))
theorem tI.symm {c:Nat} (h:tI hp hp' c):tI hp' hp c:=⟨h.1.symm,fun hc=>(h.2 hc).symm⟩
theorem rS {α:Type}: ∀{p:Rd α} {r:α} {rd:List Nat},p.run C hp=some (r,rd)→(∀id∈rd,tI hp hp' id)→p.run C hp'=some (r,rd)
 | .ret a,r,rd,h,_=>h
 | .fail,r,rd,h,_=>by cases h
 | .get id k,r,rd,h,he=>by
  obtain ⟨x,h1,U⟩:=bind_some h
  cases U
  have e1:hp' id=hp id:=(he id (by simp)).1
  have:=rS (p:=k (hp id)) (r:=x.1) (rd:=x.2) h1 (fun i hi=>he i (by simp[hi]))
  simp only[Rd.run,e1,this,Option.bind_some]
 | .live id ok k,r,rd,h,he=>by
  simp only[Rd.run] at h⊢
  cases hk:ok (fL (hp id)) with
  | false=>rw[hk] at h;cases h
  | true=>
   rw[hk] at h
   obtain ⟨x,h1,U⟩:=bind_some h
   cases U
   have e1:fL (hp' id)=fL (hp id):=by
    have:=(he (id+KB) (by simp)).2 (Nat.le_add_left _ _)
    rwa [u4] at this
   have:=rS (p:=k) (r:=x.1) (rd:=x.2) h1 (fun i hi=>he i (by simp[hi]))
   rw[e1,hk,this]
   rfl
 | .opt o k,r,rd,h,he=>by
  obtain ⟨x,h1,U⟩:=bind_some h
  simp only[Rd.run,h1,Option.bind_some]
  exact rS U he
 | .aC b k,r,rd,h,he=>by
  obtain ⟨h1,U⟩:=aG h
  simp only[Rd.run,h1,cond_true]
  exact rS U he
 | .call key ds k,r,rd,h,he=>by
  obtain ⟨x,h1,U⟩:=bind_some h
  simp only[Rd.run,h1,Option.bind_some]
  exact rS U he
 | .alt true x y,r,rd,h,he=>rS (p:=x) h he
 | .alt false x y,r,rd,h,he=>rS (p:=y) h he
theorem Yd {G:Nat→V} {sl sl':Nat→V} {t:TypeId} {x:Operand} (h: ∀k,x= .tmp k→sl k=sl' k):aN P G t sl x=aN P G t sl' x:=by
 cases x with
 | tmp k=>exact h k rfl
 | _=>rfl
theorem Ye {sl sl':Nat→V} {ix nb:Nat} {o:Oper} (h: ∀x∈o.op.operands,∀k,x= .tmp k→sl k=sl' k):fh P A sl ix nb o=fh P A sl' ix nb o:=by
 have eL: ∀t x,x∈o.op.operands→aN P A.aE t sl x=aN P A.aE t sl' x:=fun t x hx=>Yd (h x hx)
 obtain ⟨dst,op,ty,pos,after,guard⟩:=o
 have Of: ∀(t:TypeId) (ps:Array (Nat × Operand)),(∀x∈ps.map (·.2),aN P A.aE t sl x=aN P A.aE t sl' x)→
   (ps.toList.map fun p=>(p.1,aN P A.aE t sl p.2))=ps.toList.map fun p=>(p.1,aN P A.aE t sl' p.2):=fun t ps hp=>
  rj fun p hm=>by rw[hp p.2 (Array.mem_map.2 ⟨p,oP.1 hm,rfl⟩)]
 have Yf: ∀(t:TypeId) (ps:Array (Nat × Operand)),(∀x∈ps.map (·.2),aN P A.aE t sl x=aN P A.aE t sl' x)→
   (ps.toList.map fun p=>(aN P A.aE t sl p.2).cells)=ps.toList.map fun p=>(aN P A.aE t sl' p.2).cells:=fun t ps hp=>
  rj fun p hm=>by rw[hp p.2 (Array.mem_map.2 ⟨p,oP.1 hm,rfl⟩)]
 cases op<;>simp only[Op.operands] at eL<;>simp only[fh]
 case pick c x y=>rw[eL ty c (by simp),eL ty x (by simp),eL ty y (by simp)]
 case build t ps=>rw[Of ty ps fun x hx=>eL ty x (by simpa using hx),Yf ty ps fun x hx=>eL ty x (by simpa using hx)]
 case buildSlice t len ps=>
  split
  ·rename_i e _
   rw[Of e ps fun x hx=>eL e x (by simpa using hx)]
  ·rfl
 case slice t x lo hi mx=>
  cases mx with
  | some m=>
   have e1:lo.map (aN P A.aE 0 sl)=lo.map (aN P A.aE 0 sl'):=by
    cases lo with
    | none=>rfl
    | some l=>simp only[Option.map_some,eL 0 l (by simp)]
   have e2:hi.map (aN P A.aE 0 sl)=hi.map (aN P A.aE 0 sl'):=by
    cases hi with
    | none=>rfl
    | some l=>simp only[Option.map_some,eL 0 l (by simp)]
   have e3:=eL 0 m (by simp)
   simp only[eL ty x (by simp),e1,e2,e3]
  | none=>
   have e1:lo.map (aN P A.aE 0 sl)=lo.map (aN P A.aE 0 sl'):=by
    cases lo with
    | none=>rfl
    | some l=>simp only[Option.map_some,eL 0 l (by simp)]
   have e2:hi.map (aN P A.aE 0 sl)=hi.map (aN P A.aE 0 sl'):=by
    cases hi with
    | none=>rfl
    | some l=>simp only[Option.map_some,eL 0 l (by simp)]
   simp only[eL ty x (by simp),e1,e2]
 case call c=>
  obtain ⟨callee,args,argTypes⟩:=c
  have tJ: ∀t x,x∈args→aN P A.aE t sl x=aN P A.aE t sl' x:=fun t x hx=>eL t x (by simp[Call.operands,hx])
  have hl: ∀t (l:List Operand),(∀x∈l,x∈args)→l.map (aN P A.aE t sl)=l.map (aN P A.aE t sl'):=fun t l hl=>rj fun x hx=>tJ t x (hl x hx)
  have hz:((args.toList.zip argTypes.toList).map fun p=>aN P A.aE p.2 sl p.1)=(args.toList.zip argTypes.toList).map fun p=>aN P A.aE p.2 sl' p.1:=
   rj fun p hp=>tJ p.2 p.1 (oP.1 (List.of_mem_zip hp).1)
  cases callee with
  | invoke r m=>rfl
  | builtin b=>
   have ca: ∀x∈args.toList,∀t,aN P A.aE t sl x=aN P A.aE t sl' x:=fun x hx t=>tJ t x (oP.1 hx)
   have Ia: ∀t (l:List Operand),(∀x∈l,∀t,aN P A.aE t sl x=aN P A.aE t sl' x)→l.map (aN P A.aE t sl)=l.map (aN P A.aE t sl'):=fun t l h=>rj fun x hx=>h x hx t
   cases b<;>first|rfl|skip
   case append=>
    dsimp only
    generalize args.toList=al at ca
    match al,ca,argTypes.toList with
    | [s,x],ca,[t,u]=>simp only[ca s (by simp),ca x (by simp)]
    | [],_,_=>rfl
    | [_],_,_=>rfl
    | _::_::_::_,_,_=>rfl
    | [_,_],_,[]=>rfl
    | [_,_],_,[_]=>rfl
    | [_,_],_,_::_::_::_=>rfl
   case copy=>
    dsimp only
    generalize args.toList=al at ca
    match al,ca,argTypes.toList with
    | [s,x],ca,[t,u]=>simp only[ca s (by simp),ca x (by simp)]
    | [],_,_=>rfl
    | [_],_,_=>rfl
    | _::_::_::_,_,_=>rfl
    | [_,_],_,[]=>rfl
    | [_,_],_,[_]=>rfl
    | [_,_],_,_::_::_::_=>rfl
   case len=>
    dsimp only
    generalize args.toList=al at ca
    match al,ca,argTypes.toList with
    | [x],ca,[t]=>simp only[ca x (by simp)]
    | [],_,_=>rfl
    | _::_::_,_,_=>rfl
    | [_],_,[]=>rfl
    | [_],_,_::_::_=>rfl
   case clear=>
    dsimp only
    generalize args.toList=al at ca
    match al,ca,argTypes.toList with
    | [x],ca,[t]=>simp only[ca x (by simp)]
    | [],_,_=>rfl
    | _::_::_,_,_=>rfl
    | [_],_,[]=>rfl
    | [_],_,_::_::_=>rfl
   case unsafeSliceData=>
    dsimp only
    generalize args.toList=al at ca
    match al,ca with
    | [],_=>rfl
    | [x],ca=>simp only[ca x (by simp)]
    | _::_::_,_=>rfl
   case unsafeString=>
    dsimp only
    generalize args.toList=al at ca
    match al,ca,argTypes.toList with
    | [s,x],ca,[t,u]=>simp only[ca s (by simp),ca x (by simp)]
    | [],_,_=>rfl
    | [_],_,_=>rfl
    | _::_::_::_,_,_=>rfl
    | [_,_],_,[]=>rfl
    | [_,_],_,[_]=>rfl
    | [_,_],_,_::_::_::_=>rfl
   case max=>
    dsimp only
    generalize args.toList=al at ca
    match al,ca with
    | [],_=>rfl
    | x::l,ca=>simp only[ca x (by simp),Ia ty l (fun y hy=>ca y (by simp[hy]))]
   case min=>
    dsimp only
    generalize args.toList=al at ca
    match al,ca with
    | [],_=>rfl
    | x::l,ca=>simp only[ca x (by simp),Ia ty l (fun y hy=>ca y (by simp[hy]))]
  | value f=>
   cases f<;>first|rfl|skip
   ·rename_i t
    have ht:sl t=sl' t:=h (.tmp t) (by simp[Op.operands,Call.operands]) t rfl
    simp only[hz,ht]
   ·simp only[hz]
    cases hx:args.toList with
    | nil=>rfl
    | cons x l=>
     cases l with
     | cons _ _=>rfl
     | nil=>simp only[tJ ty x (oP.1 (by rw[hx];simp))]
 case defer c=>
  obtain ⟨callee,args,argTypes⟩:=c
  cases callee with
  | invoke r m=>rfl
  | builtin b=>rfl
  | value f=>
   cases f<;>first|rfl|skip
   rename_i t
   have ht:sl t=sl' t:=h (.tmp t) (by simp[Op.operands,Call.operands]) t rfl
   simp only[ht]
 case makeFunc fn a b=>
  cases fn<;>first|rfl|skip
  have e1:a.toList.map (aN P A.aE ty sl)=a.toList.map (aN P A.aE ty sl'):=rj fun x hx=>eL ty x (by simp[oP.1 hx])
  have e2:b.toList.map (aN P A.aE ty sl)=b.toList.map (aN P A.aE ty sl'):=rj fun x hx=>eL ty x (by simp[oP.1 hx])
  dsimp only
  rw[e1,e2]
 case makeMap t r=>cases r<;>rfl
 all_goals first
  | rfl
  | (simp[eL];done)
end
section
variable {P:Program} {A:cy} {w w':World} {I I' I2:Nat→Prop} {μ β β':Nat→Option Nat} {hp hp':Nat→Option an} {C:ag} {B:Nat} {M:Nat→Prop} {w0:Start}
theorem Ib {q:Nat × an} {upd:List (Nat × an)} (h:q∈upd):q.1∈fx hp upd:=by
 unfold fx
 rw[List.mem_flatMap]
 refine ⟨q,h,?_⟩
 cases Nat.beq (fL (hp q.1)) (fL (some q.2))<;>simp
theorem Yg {upd:List (Nat × an)} (h: ∀q∈upd,fL (hp' q.1)=fL (hp q.1)):fx hp' upd=fx hp upd:=by
 unfold fx
 induction upd with
 | nil=>rfl
 | cons q l ih=>
  rw[kV,kV,ih fun x hx=>h x (kU _ hx),h q (by simp)]
theorem Og {c:Nat}: ∀{upd:List (Nat × an)},c∉fx hp upd→tI hp (bJ hp upd) c:=fun {upd} h=>by
 refine ⟨vW fun q hq e=>h (e▸Ib hq),fun hc=> ?_⟩
 induction upd with
 | nil=>rfl
 | cons q l ih=>
  have hl:c∉fx hp l:=fun hx=>h (by unfold fx at*;rw[kV];exact List.mem_append_right _ hx)
  have hq:fL (hp q.1)=fL (some q.2)∨c≠q.1+KB:=by
   cases hb:Nat.beq (fL (hp q.1)) (fL (some q.2)) with
   | true=>exact .inl (yf hb)
   | false=>
    refine .inr fun e=>h ?_
    unfold fx
    rw[kV,hb,e]
    simp
  show fL (aH (bJ hp l) q.1 (some q.2) (c-KB))=_
  simp only[aH]
  cases hb:Nat.beq (c-KB) q.1 with
  | false=>exact ih hl
  | true=>
   have e:=yf hb
   rcases hq with hq|hq
   ·rw[cond_true,e];exact hq.symm
   ·exact absurd (by omega) hq
theorem Oh {n i nb:Nat} {ops:Array Oper} {o:Oper} {st st':St} {R W:List Nat} (h:gy P A C n ops i o nb st=some (st',R,W)):
  ∃x upd,st'=⟨gV st.sl o.dst x,bJ st.hp upd,st.nb⟩∧W=fx st.hp upd∧∀dQ:St,(∀d∈o.looksAt ops,dQ.sl d=st.sl d)→(∀id∈R,tI st.hp dQ.hp id)→
   gy P A C n ops i o nb dQ=some (⟨gV dQ.sl o.dst x,bJ dQ.hp upd,dQ.nb⟩,R,W)∧W=fx dQ.hp upd:=by
 unfold gy at h
 cases hd:rA o n with
 | false=>rw[hd] at h;cases h
 | true=>
  rw[hd] at h
  simp only[cond_true] at h
  have go:(((fh P A st.sl i (nb+64*i) o).run C st.hp).bind fun r=>some ((⟨gV st.sl o.dst r.1.v,bJ st.hp r.1.upd,st.nb⟩:St),p6 r.2 r.1.upd,fx st.hp r.1.upd))=some (st',R,W)→
    ∃x upd,st'=⟨gV st.sl o.dst x,bJ st.hp upd,st.nb⟩∧W=fx st.hp upd∧∀dQ:St,(∀d∈o.looksAt ops,dQ.sl d=st.sl d)→(∀id∈R,tI st.hp dQ.hp id)→
     (((fh P A dQ.sl i (nb+64*i) o).run C dQ.hp).bind fun r=>some ((⟨gV dQ.sl o.dst r.1.v,bJ dQ.hp r.1.upd,dQ.nb⟩:St),p6 r.2 r.1.upd,fx dQ.hp r.1.upd))=some (⟨gV dQ.sl o.dst x,bJ dQ.hp upd,dQ.nb⟩,R,W)∧W=fx dQ.hp upd:=by
   intro h
   obtain ⟨⟨r,rd⟩,h1,U⟩:=bind_some h
   cases U
   refine ⟨r.v,r.upd,rfl,rfl,fun dQ hs hh=> ?_⟩
   have hw:fx dQ.hp r.upd=fx st.hp r.upd:=Yg fun q hq=>by
    have:=(hh (q.1+KB) (List.mem_append_right _ (fY.2 ⟨q,hq,rfl⟩))).2 (Nat.le_add_left _ _)
    rwa [u4] at this
   rw[Ye (sl':=st.sl) fun x hx k hk=> ?_,rS h1 fun c hc=>hh c (List.mem_append_left _ hc)]
   ·refine ⟨?_,hw.symm⟩
    rw[Option.bind_some,hw]
   ·subst hk
    exact hs k (List.mem_append_left _ (List.mem_filterMap.2 ⟨.tmp k,by simpa using hx,rfl⟩))
  cases hg:o.guard with
  | none=>
   rw[hg] at h
   obtain ⟨x,upd,e1,e2,e3⟩:=go h
   refine ⟨x,upd,e1,e2,fun dQ hs hh=> ?_⟩
   unfold gy
   simp only[hd,cond_true,hg]
   exact e3 dQ hs hh
  | some gw=>
   obtain ⟨g,want⟩:=gw
   rw[hg] at h
   simp only at h
   cases lr:(ops[g]?).bind (·.dst) with
   | none=>rw[lr] at h;cases h
   | some d=>
    rw[lr] at h
    simp only at h
    have Ic:d∈o.looksAt ops:=List.mem_append_right _ (by rw[hg];simp[lr])
    cases lY:kX (st.sl d) with
    | none=>rw[lY] at h;cases h
    | some ob=>
    rw[lY] at h
    cases ob with
    | none=>
     injection h with h
     injection h with h3 h4
     injection h4 with h5 h6
     subst h5;subst h6
     refine ⟨.bm [],[],h3.symm,rfl,fun dQ hs hh=> ?_⟩
     unfold gy
     simp only[hd,cond_true,hg,lr,hs d Ic,lY]
     exact ⟨rfl,rfl⟩
    | some b=>
    simp only at h
    cases hb:b==want with
    | true=>
     rw[hb] at h
     obtain ⟨x,upd,e1,e2,e3⟩:=go h
     refine ⟨x,upd,e1,e2,fun dQ hs hh=> ?_⟩
     unfold gy
     simp only[hd,cond_true,hg,lr,hs d Ic,lY,hb]
     exact e3 dQ hs hh
    | false=>
     rw[hb] at h
     simp only[cond_false] at h
     injection h with h
     injection h with h3 h4
     injection h4 with h5 h6
     subst h5;subst h6
     refine ⟨.bm [],[],h3.symm,rfl,fun dQ hs hh=> ?_⟩
     unfold gy
     simp only[hd,cond_true,hg,lr,hs d Ic,lY,hb,cond_false]
     exact ⟨rfl,rfl⟩
theorem Oi {sl:Nat→V} {d:Option Nat} {x:V} {k:Nat} (h:d≠some k):gV sl d x k=sl k:=by
 cases d with
 | none=>rfl
 | some d=>exact ec _ _ fun e=>h (by rw[e])
theorem Yh {hp:Nat→Option an} {a b:List (Nat × an)} (h: ∀q∈a,∀q'∈b,q.1≠q'.1):bJ (bJ hp a) b=bJ (bJ hp b) a:=by
 funext id
 by_cases ha: ∃q∈a,q.1=id
 ·have hb: ∀q∈b,q.1≠id:=by
   obtain ⟨q,hq,rfl⟩:=ha
   exact fun q' zG e=>h q hq q' zG e.symm
  rw[vW hb]
  obtain ⟨q,hq,rfl⟩:=ha
  have same: ∀(bt gA:Nat→Option an) (l:List (Nat × an)) (q:Nat × an),q∈l→bJ bt l q.1=bJ gA l q.1:=by
   intro bt gA l
   induction l with
   | nil=>intro q hq;simp at hq
   | cons p l ih=>
    intro q hq
    simp only[bJ,aH]
    cases hb:Nat.beq q.1 p.1 with
    | true=>rfl
    | false=>
     simp only[cond_false]
     refine ih q ((dg.1 hq).resolve_left fun e=> ?_)
     rw[e,jg] at hb;cases hb
  exact same _ _ a q hq
 ·rw[vW (hp:=bJ hp b) (l:=a) fun q hq e=>ha ⟨q,hq,e⟩]
  have same: ∀(bt gA:Nat→Option an) (l:List (Nat × an)),bt id=gA id→bJ bt l id=bJ gA l id:=by
   intro bt gA l he
   induction l with
   | nil=>exact he
   | cons p l ih=>
    simp only[bJ,aH]
    cases hb:Nat.beq id p.1 with
    | true=>rfl
    | false=>exact ih
  exact same _ _ b (vW fun q hq e=>ha ⟨q,hq,e⟩)
structure Oj (ops:Array Oper) (o1 o2:Oper) (R1 W1 R2 W2:List Nat):Prop where
 apart:Oper.apart ops o1 o2=true
 w: ∀id∈W1,id∉R2∧id∉W2
 r: ∀id∈R1,id∉W2
theorem Yi {n i j nb:Nat} {ops:Array Oper} {o1 o2:Oper} {st iI dQ:St} {R1 W1 R2 W2:List Nat} (h1:gy P A C n ops i o1 nb st=some (iI,R1,W1)) (U:gy P A C n ops j o2 nb iI=some (dQ,R2,W2))
  (hi:Oj ops o1 o2 R1 W1 R2 W2): ∃DE,gy P A C n ops j o2 nb st=some (DE,R2,W2)∧gy P A C n ops i o1 nb DE=some (dQ,R1,W1):=by
 obtain ⟨x1,u1,e1,f1,g1⟩:=Oh h1
 obtain ⟨x2,u2,e2,f2,g2⟩:=Oh U
 obtain ⟨a1,a2,a3⟩:=Oper.apart_spec hi.apart
 subst e1
 have k2:=g2 st (fun d hd=>by simp only;rw[Oi fun e=>a1 d e hd]) fun c hc=>(Og fun hw=>(hi.w c (by rw[f1];exact hw)).1 hc).symm
 refine ⟨_,k2.1,?_⟩
 rw[(g1 _ (fun d hd=> ?_) (fun c hd=> ?_)).1,e2]
 ·congr 3
  ·funext k
   cases DF:o1.dst with
   | none=>rfl
   | some d1=>
    cases iA:o2.dst with
    | none=>rfl
    | some d2=>
     have bA:d2≠d1:=fun e=>a2 d1 DF (by rw[iA,e])
     simp only[gV,aH]
     cases Ol:Nat.beq k d1<;>cases lZ:Nat.beq k d2<;>simp only[cond_true,cond_false]
     rw[aQ] at Ol lZ
     exact absurd (lZ.symm.trans Ol) bA
  ·exact (Yh fun q hq q' zG e=>(hi.w q.1 (by rw[f1];exact Ib hq)).2 (by rw[f2,e];exact Ib zG)).symm
 ·simp only
  rw[Oi fun e=>a3 d e hd]
 ·exact Og fun hw=>hi.r c hd (by rw[k2.2];exact hw)
def vZ (P:Program) (A:cy) (C:ag) (n:Nat) (ops:Array Oper) (nb:Nat):List (Nat × Oper × List Nat × List Nat)→St→St→Prop
 | [],st,st'=>st=st'
 | (i,o,R,W)::l,st,st'=> ∃iI,gy P A C n ops i o nb st=some (iI,R,W)∧vZ P A C n ops nb l iI st'
def tK (x:Nat × Oper × List Nat × List Nat):Nat × List Nat × List Nat:=(x.1,x.2.2.1,x.2.2.2)
theorem Om {n nb:Nat} {ops:Array Oper}: ∀{l:List (Nat × Oper)} {st st':St} {log DG:Log},oY P A C n ops nb l st log=some (st',DG)→
  ∃g,g.map (fun x=>(x.1,x.2.1))=l∧DG=log++g.map tK∧vZ P A C n ops nb g st st'
 | [],st,st',log,DG,h=>by
  cases h
  exact ⟨[],rfl,by simp,rfl⟩
 | (i,o)::l,st,st',log,DG,h=>by
  obtain ⟨⟨iI,R,W⟩,h1,U⟩:=bind_some h
  obtain ⟨g,a,b,c⟩:=Om U
  exact ⟨(i,o,R,W)::g,by simp[a],by simp[b,tK],iI,h1,c⟩
def On (ops:Array Oper) (x y:Nat × Oper × List Nat × List Nat):Prop:=Oj ops x.2.1 y.2.1 x.2.2.1 x.2.2.2 y.2.2.1 y.2.2.2
theorem Oo {n nb:Nat} {ops:Array Oper} {y:Nat × Oper × List Nat × List Nat} {g2:List (Nat × Oper × List Nat × List Nat)}: ∀{g1:List (Nat × Oper × List Nat × List Nat)} {st st':St},
  vZ P A C n ops nb (g1++y::g2) st st'→(∀x∈g1,On ops x y)→∃iI,gy P A C n ops y.1 y.2.1 nb st=some (iI,y.2.2.1,y.2.2.2)∧vZ P A C n ops nb (g1++g2) iI st'
 | [],st,st',h,_=>h
 | x::g1,st,st',h,hi=>by
  obtain ⟨iI,h1,U⟩:=h
  obtain ⟨dQ,h3,h4⟩:=Oo U fun z hz=>hi z (kU _ hz)
  obtain ⟨DE,h5,h6⟩:=Yi h1 h3 (hi x (by simp))
  exact ⟨DE,h5,dQ,h6,h4⟩
theorem Oq (hC:kK P A C) (hP:iG P A) {n nb:Nat} {ops:Array Oper} {Q:Exit→Act→World→Prop}: ∀{g:List (Nat × Oper × List Nat × List Nat)} {st st':St} {a:Act} {w:World} {I:Nat→Prop} {β:Nat→Option Nat},
  vZ P A C n ops nb g st st'→(∀x∈g,ops[x.1]? =some x.2.1)→aF P w I β st.hp B M w0→iH P A.idle A.aE w I β n a st→
  (∀a' w' I' β',Le P w I β st.hp w' I' β' st'.hp→aF P w' I' β' st'.hp B M w0→iH P A.idle A.aE w' I' β' n a' st'→Q .normal a' w')→wpOps P ops Q (g.map (·.1)) a w
 | [],st,st',a,w,I,β,h,_,S,hA,hQ=>by
  cases h
  exact hQ a w I β (Le.refl w I β _) S hA
 | x::g,st,st',a,w,I,β,h,ho,S,hA,hQ=>by
  obtain ⟨iI,h1,U⟩:=h
  rw[cw,wpOps_cons]
  refine Oe hC hP (ho x (by simp)) S hA h1 fun a' w' I' β' k1 k2 k3=> ?_
  exact Oq hC hP U (fun y hy=>ho y (kU _ hy)) k2 k3 fun a2 w2 I2 bY m1 m2 m3=>hQ a2 w2 I2 bY (k1.trans m1) m2 m3
end
section
variable {P:Program} {A:cy} {w w':World} {I I' I2:Nat→Prop} {μ β β':Nat→Option Nat} {hp hp':Nat→Option an} {C:ag} {B:Nat} {M:Nat→Prop} {w0:Start}
inductive tL (ops:Array Oper):Nat→Nat→Prop
 | Ot {i x:Nat} {o:Oper} {e:Edge}:ops[i]? =some o→e∈o.after→Region.binds .any e=true→e.on=x→tL ops i x
 | trans {i x:Nat} {o:Oper} {e:Edge}:ops[i]? =some o→e∈o.after→Region.binds .any e=true→tL ops e.on x→tL ops i x
theorem Ou {acc:Array Nat} {x:Nat}: ∀{l:List Edge} {s:Nat},(l.foldl (fun s e=>if Region.binds .any e then s|||2^e.on|||acc.getD e.on 0 else s) s).testBit x=true→
  s.testBit x=true∨∃e∈l,Region.binds .any e=true∧(e.on=x∨(acc.getD e.on 0).testBit x=true)
 | [],s,h=> .inl h
 | e::l,s,h=>by
  simp only[List.foldl_cons] at h
  rcases Ou h with h1|⟨e',a,b⟩
  ·by_cases hb:Region.binds .any e=true
   ·rw[aj hb,Nat.testBit_or,Nat.testBit_or,Bool.or_eq_true,Bool.or_eq_true] at h1
    rcases h1 with (h1|h1)|h1
    ·exact .inl h1
    ·rw[Nat.testBit_two_pow] at h1
     exact .inr ⟨e,by simp,hb,.inl (by simpa using h1)⟩
    ·exact .inr ⟨e,by simp,hb,.inr h1⟩
   ·rw[ai hb] at h1
    exact .inl h1
  ·exact .inr ⟨e',kU _ a,b⟩
theorem Ov {ops:Array Oper} {x:Nat}: ∀{l:List Oper} {acc:Array Nat},(∀j o,l[j]? =some o→ops[acc.size+j]? =some o)→(∀j,(acc.getD j 0).testBit x=true→tL ops j x)→
  ∀j,((l.foldl (fun acc o=>acc.push (o.after.foldl (fun s e=>if Region.binds .any e then s|||2^e.on|||acc.getD e.on 0 else s) 0)) acc).getD j 0).testBit x=true→tL ops j x
 | [],acc,_,DH,j,h=>DH j h
 | o::l,acc,hl,DH,j,h=>by
  simp only[List.foldl_cons] at h
  refine Ov (l:=l) ?_ ?_ j h
  ·intro j o' hj
   have:=hl (j+1) o' (by simpa using hj)
   rw[Array.size_push]
   rwa [show acc.size+1+j=acc.size+(j+1) by omega]
  ·intro k hk
   simp only[u5,Array.getElem?_push] at hk
   by_cases aS:k=acc.size
   ·rw[aj aS] at hk
    simp only[Option.getD_some] at hk
    rw[←BZ] at hk
    have ho:=hl 0 o rfl
    rw[Nat.add_zero] at ho
    rw[aS]
    have lZ:(o.after.toList.foldl (fun s e=>if Region.binds .any e then s|||2^e.on|||acc.getD e.on 0 else s) 0).testBit x=true:=by simpa[u5] using hk
    rcases Ou lZ with h0|⟨e,he,hb,h1⟩
    ·simp at h0
    ·rcases h1 with h1|h1
     ·exact .Ot ho (oP.1 he) hb h1
     ·exact .trans ho (oP.1 he) hb (DH _ h1)
   ·rw[ai aS] at hk
    exact DH k (by simpa[u5] using hk)
theorem Yj {ops:Array Oper} {i x:Nat} (h:((Region.before ops).getD i 0).testBit x=true):tL ops i x:=by
 unfold Region.before at h
 rw[←BZ] at h
 refine Ov (l:=ops.toList) (acc:= #[]) (fun j o hj=>by simpa using hj) (fun j hj=>by simp at hj) i h
def Ow (ops:Array Oper) (fC:Array Bool):Prop:= ∀i o,ops[i]? =some o→fC.getD i false=true→∀e∈o.after,Region.binds .any e=true→fC.getD e.on false=true
theorem Yk {ops:Array Oper} {fC:Array Bool} (hc:Ow ops fC) {i x:Nat} (h:tL ops i x) (hi: ∀o,ops[i]? =some o→∀e∈o.after,Region.binds .any e=true→fC.getD e.on false=true):fC.getD x false=true:=by
 induction h with
 | Ot ho he hb hx=>rw[←hx];exact hi _ ho _ he hb
 | trans ho he hb _ ih=>exact ih fun o' iU e' gE aB=>hc _ o' iU (hi _ ho _ he hb) e' gE aB
theorem Ox: ∀{l:List Oper} {k j:Nat} {o:Oper},yN k l=true→l[j]? =some o→∀e∈o.after,Region.binds .any e=true→e.on<k+j
 | [],k,j,o,_,h=>by simp at h
 | o'::l,k,j,o,hk,h=>by
  simp only[yN,aK] at hk
  cases j with
  | zero=>
   simp at h
   subst h
   intro e he hb
   have:=fe.1 hk.1 e (oP.2 he)
   simp[hb] at this
   omega
  | succ j=>
   intro e he hb
   have:=Ox hk.2 (j:=j) (by simpa using h) e he hb
   omega
theorem Oy {ops:Array Oper} {s0:Array Nat}: ∀{l:Log},Cx ops s0 l=true→l.Pairwise fun x y=>yM ops s0 x y=true
 | [],_=> .nil
 | x::l,h=>by
  simp only[Cx,aK] at h
  exact .cons (fun y hy=>fe.1 h.1 y hy) (Oy h.2)
theorem Oz {fC:Array Bool} {i:Nat} (h:fC.getD i true=false):i<fC.size∧fC.getD i false=false:=by
 rcases oN i fC.size with h'|h'
 ·refine ⟨h',?_⟩
  simpa[h'] using h
 ·simp[Array.getElem?_eq_none h'] at h
theorem OA (hC:kK P A C) (hP:iG P A) {n nb:Nat} {ops:Array Oper} {Q:Exit→Act→World→Prop} (DI:yN 0 ops.toList=true):
  ∀(fuel:Nat) {g:List (Nat × Oper × List Nat × List Nat)} {fC:Array Bool} {st st':St} {a:Act} {w:World} {I:Nat→Prop} {β:Nat→Option Nat},
  g.length=fuel→vZ P A C n ops nb g st st'→(∀x∈g,ops[x.1]? =some x.2.1)→(g.map (·.1)).Pairwise (· < ·)→(g.map tK).Pairwise (fun x y=>yM ops (Region.before ops) x y=true)→
  fC.size=ops.size→(∀i,i<ops.size→(fC.getD i false=false↔i∈g.map (·.1)))→Ow ops fC→
  aF P w I β st.hp B M w0→iH P A.idle A.aE w I β n a st→
  (∀a' w' I' β',Le P w I β st.hp w' I' β' st'.hp→aF P w' I' β' st'.hp B M w0→iH P A.idle A.aE w' I' β' n a' st'→Q .normal a' w')→wpAny P .any ops Q fuel fC a w
 | 0,g,fC,st,st',a,w,I,β,hf,hr,ho,aO,DJ,aT,tM,kI,S,hA,hQ=>by
  obtain rfl:g=[]:=kT hf
  cases hr
  refine ⟨?_,hQ a w I β (Le.refl w I β _) S hA⟩
  rw[List.eq_nil_iff_forall_not_mem]
  intro i hi
  obtain ⟨h0,_⟩:=mem_ready.1 hi
  obtain ⟨h1,U⟩:=Oz h0
  have:=(tM i (by omega)).1 U
  simp at this
 | fuel+1,g,fC,st,st',a,w,I,β,hf,hr,ho,aO,DJ,aT,tM,kI,S,hA,hQ=>by
  refine ⟨fun zI=> ?_,fun i hi=> ?_⟩
  ·exfalso
   cases g with
   | nil=>simp at hf
   | cons x g=>
    have hx:=ho x (by simp)
    have gf:x.1<ops.size:=(gS.1 hx).1
    have lj:x.1∈Region.ready .any ops fC:=by
     rw[mem_ready]
     have h0:=(tM x.1 gf).2 (by simp)
     refine ⟨?_,x.2.1,hx,fun e he hb=> ?_⟩
     ·have hl:x.1<fC.size:=by omega
      simpa[hl] using h0
     ·have Hu:=Ox DI (j:=x.1) (by simpa using hx) e he hb
      rw[gu] at Hu
      cases hle:fC.getD e.on false with
      | true=>rfl
      | false=>
       have hm:=(tM e.on (by omega)).1 hle
       simp only[cw,dg] at hm
       rw[cw,sO] at aO
       rcases hm with hm|hm
       ·omega
       ·have:=aO.1 _ hm;omega
    rw[zI] at lj
    cases lj
  ·obtain ⟨h0,oi,zK,OB⟩:=mem_ready.1 hi
   obtain ⟨h1,U⟩:=Oz h0
   have Yl:=(tM i (by omega)).1 U
   obtain ⟨y,hy,Ym⟩:=fY.1 Yl
   obtain ⟨g1,g2,rfl⟩:=List.append_of_mem hy
   subst Ym
   have OC:=ho y hy
   rw[zK] at OC
   have OD:oi=y.2.1:=c6 OC
   have j7:((g1++y::g2).map (·.1)).Nodup:=aO.imp fun h=>Nat.ne_of_lt h
   have Yn: ∀x∈g1,On ops x y:=by
    intro x hx
    have hp:yM ops (Region.before ops) (tK x) (tK y)=true:=by
     rw[eP,cw,List.pairwise_append] at DJ
     exact DJ.2.2 _ (fY.2 ⟨x,hx,rfl⟩) _ (by simp)
    have Ie:=ho x (ey.2 (.inl hx))
    unfold yM at hp
    rw[Bool.or_eq_true] at hp
    rcases hp with hp|hp
    ·have hl:=Yk kI (Yj hp) fun o iU e he hb=>by
      have:o=oi:=by
       have h3:ops[y.1]? =some o:=iU
       rw[zK] at h3
       exact (c6 h3).symm
      subst this
      exact OB e he hb
     have gf:x.1<ops.size:=(gS.1 Ie).1
     have:=(tM x.1 gf).2 (fY.2 ⟨x,ey.2 (.inl hx),rfl⟩)
     rw[show (tK x).1=x.1 from rfl,this] at hl
     cases hl
    ·simp only[tK,u5,Ie,zK,Option.getD_some,aK,my] at hp
     obtain ⟨q1,q2,q3⟩:=hp
     refine ⟨OD▸q1,fun id ab=> ?_,fun id ab=>Dx q3 ab⟩
     have:=Dx q2 ab
     rw[ey] at this
     exact ⟨fun h=>this (.inl h),fun h=>this (.inr h)⟩
   obtain ⟨iI,iy,mT⟩:=Oo hr Yn
   rw[←OD] at iy
   refine Oe hC hP zK S hA iy fun a' w' I' β' k1 k2 k3=> ?_
   have jZ:List.Sublist (g1++g2) (g1++y::g2):=List.Sublist.append_left (List.sublist_cons_self y g2) g1
   have s5: ∀j,j≠y.1→(fC.setIfInBounds y.1 true).getD j false=fC.getD j false:=fun j hj=>getD_set_ne false (Ne.symm hj)
   refine OA hC hP DI fuel (g:=g1++g2) (st':=st') ?_ mT (fun x hx=>ho x (jZ.subset hx)) (aO.sublist (jZ.map _)) (DJ.sublist (jZ.map _)) (by simp[aT]) (fun j hj=> ?_) (fun j o Ig b9 e he hb=> ?_) k2 k3 fun a2 w2 I2 bY m1 m2 m3=>hQ a2 w2 I2 bY (k1.trans m1) m2 m3
   ·simp at hf⊢;omega
   ·by_cases o9:j=y.1
    ·subst o9
     have hl:y.1<fC.size:=by omega
     simp only[u5,Gm hl,Option.getD_some]
     refine ⟨fun h=>(by cases h),fun h=> ?_⟩
     exfalso
     rw[eP,cw,B5,List.nodup_cons] at j7
     rw[eP,ey] at h
     rcases h with h|h
     ·exact j7.2.2 _ h _ (by simp) rfl
     ·exact j7.2.1.1 h
    ·rw[s5 j o9,tM j hj]
     simp only[eP,cw,ey,dg]
     constructor
     ·rintro (h|h|h)
      ·exact .inl h
      ·exact absurd h o9
      ·exact .inr h
     ·rintro (h|h)
      ·exact .inl h
      ·exact .inr (.inr h)
   ·by_cases o9:j=y.1
    ·subst o9
     rw[zK] at Ig
     cases Ig
     exact getD_set_true (OB e he hb)
    ·rw[s5 j o9] at b9
     exact getD_set_true (kI j o Ig b9 e he hb)
end
section
variable {P:Program} {A:cy} {w w':World} {I I' I2:Nat→Prop} {μ β β':Nat→Option Nat} {hp hp':Nat→Option an} {C:ag} {B:Nat} {M:Nat→Prop} {w0:Start}
theorem OE: ∀{l:List Oper} {k j:Nat},(nR k l)[j]? =(l[j]?).map fun o=>(k+j,o)
 | [],k,j=>by simp[nR]
 | o::l,k,0=>by simp[nR]
 | o::l,k,j+1=>by
  simp only[nR,List.getElem?_cons_succ,OE]
  congr 1
  funext o
  rw[show k+1+j=k+(j+1) by omega]
theorem OF: ∀{l:List Oper} {k:Nat},(nR k l).map (·.1)=List.range' k l.length
 | [],k=>rfl
 | o::l,k=>by simp[nR,OF,List.range'_succ]
theorem Yo (hC:kK P A C) (hP:iG P A) (hm:P.follows .mixedOrders=true) {n id:Nat} {ops:Array Oper} {draw:Bool} {st st':St} {a:Act} {Q:Exit→Act→World→Prop}
  (h:yP P A C n ops draw st=some st') (S:aF P w I β st.hp B M w0) (hA:iH P A.idle A.aE w I β n a st)
  (hQ: ∀a' w' I' β',Le P w I β st.hp w' I' β' st'.hp→aF P w' I' β' st'.hp B M w0→iH P A.idle A.aE w' I' β' n a' st'→Q .normal a' w'):(Code.region id ops draw).wp P Q a w:=by
 obtain ⟨⟨iI,log⟩,h1,U⟩:=bind_some h
 obtain ⟨g,g1,g2,g3⟩:=Om h1
 have DK:g.map (·.1)=List.range ops.size:=by
  have:g.map (·.1)=(g.map fun x=>(x.1,x.2.1)).map (·.1):=by simp
  rw[this,g1,OF,List.range_eq_range']
  simp
 have OG: ∀x∈g,ops[x.1]? =some x.2.1:=by
  intro x hx
  have:(x.1,x.2.1)∈nR 0 ops.toList:=by rw[←g1];exact fY.2 ⟨x,hx,rfl⟩
  obtain ⟨j,hj⟩:=List.mem_iff_getElem?.1 this
  rw[OE] at hj
  cases ho:ops.toList[j]? with
  | none=>rw[ho] at hj;cases hj
  | some o=>
   rw[ho] at hj
   simp only[Option.map_some,gu,dL,jN] at hj
   rw[←hj.1,←hj.2]
   simpa using ho
 cases draw with
 | false=>
  simp only[sP,Bool.true_or,cond_true] at U
  cases U
  refine wp_region ?_
  rw[←DK]
  exact Oq hC hP g3 OG S hA hQ
 | true=>
  simp only[pP,Bool.false_or] at U
  cases hc:(Region.noSelect ops&&yO ops log) with
  | false=>rw[hc] at U;cases U
  | true=>
   rw[hc] at U
   cases U
   simp only[aK,yO] at hc
   obtain ⟨hns,DI,Yp⟩:=hc
   simp only[List.nil_append] at g2
   refine wp_region_any hm ?_
   have hlen:g.length=ops.size:=by
    have:=congrArg List.length DK
    simpa using this
   refine OA hC hP DI ops.size (g:=g) (st':=st') hlen g3 OG (by rw[DK];exact List.pairwise_lt_range) (by rw[←g2];exact Oy Yp) (by simp) (fun i hi=> ?_) (fun i o ho hl=> ?_)
    (w:=w.drew) S.drew ⟨fun k=>(hA.sl k).mono (Le.drew w I β _),hA.size,hA.defers,hA.aE.mono (Le.drew (P:=P) w I β st.hp).c9 (Le.drew (P:=P) w I β st.hp).b8⟩ fun a' w' I' β' k1 k2 k3=>hQ a' w' I' β' ((Le.drew w I β _).trans k1) k2 k3
   ·rw[DK]
    simp[hi]
   ·have hi:=(gS.1 ho).1
    simp[hi] at hl
end
section
variable {P:Program} {A:cy} {E:FuncId→Bool} {G:Nat→V} {w w':World} {I I' I2:Nat→Prop} {μ β β':Nat→Option Nat} {hp hp':Nat→Option an} {C:ag} {B:Nat} {M:Nat→Prop} {w0:Start}
theorem tN: ∀{l:List Nat} {hp:Nat→Option an} {I:Nat→Prop},aF P w I β hp B M w0→∃I',Le P w I β hp w I' β (sZ hp l)∧aF P w I' β (sZ hp l) B M w0
 | [],hp,I,S=>⟨I,Le.refl w I β hp,S⟩
 | id::l,hp,I,S=>by
  simp only[sZ]
  cases ab:hp id with
  | none=>exact tN S
  | some blk=>
   cases blk with
   | dead=>exact tN S
   | var _=>exact tN S
   | map _ _=>exact tN S
   | arr e es fz=>
    obtain ⟨h1,U⟩:=yZ S (upd:=[(id,.arr e es true)]) (fun p hp=>by
     simp only[ef] at hp
     subst hp
     exact ⟨e,es,rfl,.inl ⟨fz,ab⟩⟩)
    obtain ⟨I',h3,h4⟩:=tN (l:=l) U
    exact ⟨I',h1.trans h3,h4⟩
   | nest e es ar=>
    obtain ⟨h1,U⟩:=yZ S (upd:=[(id,.arr e es true)]) (fun p hp=>by
     simp only[ef] at hp
     subst hp
     exact ⟨e,es,rfl,.inr ⟨ar,ab⟩⟩)
    obtain ⟨I',h3,h4⟩:=tN (l:=l) U
    exact ⟨I',h1.trans h3,h4⟩
theorem OH {n m:Nat} {pur:List Nat} {a:Act} {st:St} (S:aF P w I β st.hp B M w0) (hA:iH P E G w I β n a st):
  ∃I',Le P w I β st.hp w I' β (freeze m pur st).hp∧aF P w I' β (freeze m pur st).hp B M w0∧iH P E G w I' β n a (freeze m pur st):=by
 obtain ⟨I',h1,U⟩:=tN (l:=(L9 st pur).filter fun id=>Nat.ble m id) S
 exact ⟨I',h1,U,fun k=>(hA.sl k).mono h1,hA.size,hA.defers,hA.aE.mono h1.c9 h1.b8⟩
structure v5 (hp:Nat→Option an) (β:Nat→Option Nat) (ord:List Nat) (hp':Nat→Option an) (β':Nat→Option Nat):Prop where
 arr: ∀(j:Nat) id e es fz,ord[j]? =some id→hp id=some (.arr e es fz)→hp' j=some (.arr e es fz)
 var: ∀(j:Nat) id T cs,ord[j]? =some id→hp id=some (.var T cs)→∃hU,hp' j=some (.var T hU)
 dead: ∀(j:Nat) id,ord[j]? =some id→hp id=some .dead→hp' j=some .dead
 place: ∀(j:Nat) id,ord[j]? =some id→β' j=β id
 nest: ∀(j:Nat) id e es ar,ord[j]? =some id→hp id=some (.nest e es ar)→hp' j=some (.nest e es (ar.map fun _=>0))
 map: ∀(j:Nat) id t es,ord[j]? =some id→hp id=some (.map t es)→hp' j=some (.map t es)
theorem lu: ∀{l:List Nat} {n i j:Nat},gW l n i=some j→∃k,j=i+k∧l[k]? =some n
 | [],n,i,j,h=>by cases h
 | a::l,n,i,j,h=>by
  simp only[gW] at h
  cases hb:Nat.beq n a with
  | true=>
   rw[hb] at h
   cases h
   rw[aQ] at hb
   exact ⟨0,rfl,by rw[hb];rfl⟩
  | false=>
   rw[hb] at h
   obtain ⟨k,h1,U⟩:=lu h
   exact ⟨k+1,by omega,by simpa using U⟩
def kL (hp':Nat→Option an) (β':Nat→Option Nat) (n:Nat) (bs:List an):Prop:=
 ∀(k:Nat) b,bs[k]? =some b→hp' (n+k)=some b∧β' (n+k)=none
theorem Ih: ∀(ar:List Nat) (k:Nat),bz (ar.map fun _=>0) k=0
 | [],_=>rfl
 | _::_,0=>rfl
 | _::vs,k+1=>Ih vs k
theorem OI {e:TypeId} {es:List V} {ar:List Nat} {path:Path} {ver:Nat} (hc:(Nat.blt 0 path.length&&(Nat.ble path.length ar.length&&Nat.beq (bz ar (path.length-1)) ver))=true)
  (h:(an.nest e es ar).s6 path ver):False:=by
 simp only[aK,jM,dm,aQ] at hc
 obtain ⟨h1,U,h3⟩:=hc
 rcases h with h|h|h
 ·subst h;simp at h1
 ·omega
 ·omega
theorem OJ (S:aF P w I β hp B M w0) {ord:List Nat} (hR:v5 hp β ord hp' β') {v:Value} {x:V} (hv:ao P w I β hp v x):ao P w I β' hp' v (gX hp ord x):=by
 cases hv with
 | undef=>exact .undef
 | int=>exact .int
 | bool=>exact .bool
 | str h=>exact .str h
 | list h=>exact .list h
 | nilS=>exact .nilS
 | agg=>exact .undef
 | bm=>exact .undef
 | dh=>exact .dh
 | fn=>exact .undef
 | pref a b c=>exact .pref a b c
 | @dZ _ e id ab=>
  simp only[gX]
  cases bt:gW ord id 0 with
  | none=>simp only[ab];exact .undef
  | some j=>
   obtain ⟨k,rfl,hk⟩:=lu bt
   exact .dZ (hR.dead _ id (by simpa using hk) ab)
 | @fM _ e id off len ab=>
  simp only[gX]
  cases bt:gW ord id 0 with
  | none=>simp only[ab];exact .undef
  | some j=>
   obtain ⟨k,rfl,hk⟩:=lu bt
   exact .fM (hR.dead _ id (by simpa using hk) ab)
 | @jV _ id i c ab=>
  simp only[gX]
  cases bt:gW ord id 0 with
  | none=>exact .undef
  | some j=>
   obtain ⟨k,rfl,hk⟩:=lu bt
   exact .jV (hR.dead _ id (by simpa using hk) ab)
 | @dx e id fz _ ab hb=>
  simp only[gX]
  cases bt:gW ord id 0 with
  | none=>
   simp only[ab]
   cases fz with
   | false=>exact .undef
   | true=>simp only[jg,cond_true];exact .list (.any fun _=>rfl)
  | some j=>
   obtain ⟨k,rfl,hk⟩:=lu bt
   have cZ:ord[0+k]? =some id:=by simpa using hk
   exact .dx (hR.arr _ id _ _ _ cZ ab) ((hR.place _ id cZ).trans hb)
 | @whole e id es fz b cap ab hb aT b7 hm=>
  simp only[gX]
  cases bt:gW ord id 0 with
  | none=>
   simp only[ab]
   cases fz with
   | false=>exact .undef
   | true=>
    simp only[jg,cond_true]
    have hr:=S.h.rel id _ ab
    cases hr with
    | dy aB=>rw[aB] at hb;cases hb
    | arr au aB hh hs hf eb hx=>
     rw[hb] at aB;cases aB
     have:=tc (I':=I) (off:=0) (len:=es.length) (o:=0) hh hx (fj au) (by omega) b7 (fun _=>by simp) (fun _ h=>h) (hf rfl)
     exact .list (by simpa using this)
  | some j=>
   obtain ⟨k,rfl,hk⟩:=lu bt
   have cZ:ord[0+k]? =some id:=by simpa using hk
   exact .whole (hR.arr _ id _ _ _ cZ ab) ((hR.place _ id cZ).trans hb) aT b7 hm
 | @fA e id fz _ ab hb=>
  simp only[gX]
  cases bt:gW ord id 0 with
  | none=>
   simp only[ab]
   cases fz with
   | false=>exact .undef
   | true=>simp only[jg,cond_true];exact .list (by simpa using (iv.any (P:=P) fun _=>rfl))
  | some j=>
   obtain ⟨k,rfl,hk⟩:=lu bt
   have cZ:ord[0+k]? =some id:=by simpa using hk
   exact .fA (hR.arr _ id _ _ _ cZ ab) ((hR.place _ id cZ).trans hb)
 | @sub e id off len es fz b o cap ab hb kD b7 ho=>
  simp only[gX]
  cases bt:gW ord id 0 with
  | none=>
   simp only[ab]
   cases fz with
   | false=>exact .undef
   | true=>
    simp only[jg,cond_true]
    have hr:=S.h.rel id _ ab
    cases hr with
    | dy aB=>rw[aB] at hb;cases hb
    | arr au aB hh hs hf eb hx=>
     rw[hb] at aB;cases aB
     exact .list (tc (I':=I) hh hx (fj au) kD b7 ho (fun _ h=>h) (hf rfl))
  | some j=>
   obtain ⟨k,rfl,hk⟩:=lu bt
   have cZ:ord[0+k]? =some id:=by simpa using hk
   exact .sub (hR.arr _ id _ _ _ cZ ab) ((hR.place _ id cZ).trans hb) kD b7 ho
 | @ptr id i c b blk ab hd hb=>
  simp only[gX]
  cases bt:gW ord id 0 with
  | none=>exact .undef
  | some j=>
   obtain ⟨k,rfl,hk⟩:=lu bt
   have cZ:ord[0+k]? =some id:=by simpa using hk
   cases blk with
   | dead=>exact absurd rfl hd
   | var T0 cs=>
    obtain ⟨hU,h'⟩:=hR.var _ id T0 cs cZ ab
    exact .ptr (blk:= .var T0 hU) h' (by simp) ((hR.place _ id cZ).trans hb)
   | arr e es fz=>exact .ptr (blk:= .arr e es fz) (hR.arr _ id _ _ _ cZ ab) (by simp) ((hR.place _ id cZ).trans hb)
   | nest e es ar=>exact .ptr (blk:= .nest e es (ar.map fun _=>0)) (hR.nest _ id _ _ _ cZ ab) (by simp) ((hR.place _ id cZ).trans hb)
   | map t es=>exact .ptr (blk:= .map t es) (hR.map _ id _ _ cZ ab) (by simp) ((hR.place _ id cZ).trans hb)
 | dp=>exact .dp
 | @g9 _ t id ab=>
  simp only[gX]
  cases bt:gW ord id 0 with
  | none=>exact .undef
  | some j=>
   obtain ⟨k,rfl,hk⟩:=lu bt
   exact .g9 (hR.dead _ id (by simpa using hk) ab)
 | @cl t id b es ab hb=>
  simp only[gX]
  cases bt:gW ord id 0 with
  | none=>exact .undef
  | some j=>
   obtain ⟨k,rfl,hk⟩:=lu bt
   have cZ:ord[0+k]? =some id:=by simpa using hk
   exact .cl (hR.map _ id _ _ cZ ab) ((hR.place _ id cZ).trans hb)
 | @ei e id es ar b cap ab hb aT b7 hm=>
  simp only[gX]
  cases bt:gW ord id 0 with
  | none=>simp only[ab];exact .undef
  | some j=>
   obtain ⟨k,rfl,hk⟩:=lu bt
   have cZ:ord[0+k]? =some id:=by simpa using hk
   exact .ei (hR.nest _ id _ _ _ cZ ab) ((hR.place _ id cZ).trans hb) aT b7 hm
 | @jm v e id ver path blk ab yX=>
  simp only[gX]
  split
  ·rename_i j e1 cg ar h1 U
   rw[ab] at U
   cases U
   cases hc:(Nat.blt 0 path.length&&(Nat.ble path.length ar.length&&Nat.beq (bz ar (path.length-1)) ver)) with
   | false=>exact .undef
   | true=>exact (OI hc yX).elim
  ·exact .undef
 | @jn v id ver i c path blk ab yX=>
  simp only[gX]
  split
  ·rename_i j e1 cg ar h1 U
   rw[ab] at U
   cases U
   cases hc:(Nat.blt 0 path.length&&(Nat.ble path.length ar.length&&Nat.beq (bz ar (path.length-1)) ver)) with
   | false=>exact .undef
   | true=>exact (OI hc yX).elim
  ·exact .undef
 | @row v e e0 t id ver b i c q es l ar ab hb hq hv ht hc=>
  simp only[gX]
  split
  ·rename_i j e1 cg tH h1 U
   obtain ⟨k,rfl,hk⟩:=lu h1
   have cZ:ord[0+k]? =some id:=by simpa using hk
   cases hx:(Nat.blt 0 (q++[(i,c)]).length&&(Nat.ble (q++[(i,c)]).length tH.length&&Nat.beq (bz tH ((q++[(i,c)]).length-1)) ver)) with
   | false=>exact .undef
   | true=>exact .row (hR.nest _ id _ _ _ cZ ab) ((hR.place _ id cZ).trans hb) (by simpa using hq) (Ih _ _) ht hc
  ·exact .undef
 | @cx e e0 t id ver b b1 len cap i0 c0 i c q es l ar ab hb hq hv ht jq hc=>
  simp only[gX]
  split
  ·rename_i j e1 cg tH h1 U
   obtain ⟨k,rfl,hk⟩:=lu h1
   have cZ:ord[0+k]? =some id:=by simpa using hk
   cases hx:(Nat.blt 0 (q++[(i0,c0)]).length&&(Nat.ble (q++[(i0,c0)]).length tH.length&&Nat.beq (bz tH ((q++[(i0,c0)]).length-1)) ver)) with
   | false=>exact .undef
   | true=>exact .cx (hR.nest _ id _ _ _ cZ ab) ((hR.place _ id cZ).trans hb) (by simpa using hq) (Ih _ _) ht jq hc
  ·exact .undef
theorem OK (S:aF P w I β hp B M w0) {ord:List Nat} (hR:v5 hp β ord hp' β') {vs:Array Value} {xs:List V} (h: ∀(j:Nat) v x,vs[j]? =some v→xs[j]? =some x→ao P w I β hp v x) (j:Nat) (v:Value) (y:V)
  (hv:vs[j]? =some v) (hy:(xs.map (gX hp ord))[j]? =some y):ao P w I β' hp' v y:=by
 rw[gv] at hy
 cases hx:xs[j]? with
 | none=>rw[hx] at hy;cases hy
 | some x=>rw[hx] at hy;cases hy;exact OJ S hR (h j v x hv hx)
theorem OL (S:aF P w I β hp B M w0) {ord:List Nat} (hR:v5 hp β ord hp' β') {n:Nat} {v:Value} {x:V} (hv:ao P w I β hp v x) (hF:kL hp' β' n (vk hp ord n x).2):
  ao P w I β' hp' v (vk hp ord n x).1:=by
 cases x with
 | nilS e=>
  obtain ⟨h1,U⟩:=hF 0 _ rfl
  cases hv with
  | nilS=>exact .dx h1 U
 | fn f a b=>
  cases hv with
  | fn q1 q2 q3 q4=>exact .fn (by simpa using q1) (OK S hR q2) (by simpa using q3) (OK S hR q4)
 | _=>exact OJ S hR hv
end
section
variable {P:Program} {A:cy} {w w':World} {I I' I2:Nat→Prop} {μ β β':Nat→Option Nat} {hp hp':Nat→Option an} {C:ag} {B:Nat} {M:Nat→Prop} {w0:Start}
theorem kL.left {n:Nat} {a b:List an} (h:kL hp' β' n (a++b)):kL hp' β' n a:=fun k x hx=>
 h k x (by rw[ij (bu.1 hx).1];exact hx)
theorem kL.right {n:Nat} {a b:List an} (h:kL hp' β' n (a++b)):kL hp' β' (n+a.length) b:=fun k x hx=>by
 have:=h (a.length+k) x (by rw[ik (by omega),Nat.add_sub_cancel_left];exact hx)
 rwa [←nF] at this
def l7 (bs:List an):Prop:= ∀b∈bs,∃e,b= .arr e [] false
theorem l7.app {a b:List an} (h1:l7 a) (U:l7 b):l7 (a++b):=fun x hx=>(ey.1 hx).elim (h1 x) (U x)
theorem l7.nil:l7 []:=fun x hx=>by simp at hx
theorem OM {ord:List Nat} {n:Nat} {x:V}:l7 (vk hp ord n x).2:=by
 cases x<;>simp only[vk]<;>first|exact .nil|skip
 intro b hb
 simp only[ef] at hb
 exact ⟨_,hb⟩
theorem Ii {ord:List Nat}: ∀{xs:List V} {n:Nat},l7 (mH hp ord n xs).2
 | [],n=> .nil
 | x::xs,n=>by
  simp only[mH]
  exact OM.app Ii
theorem DL {ord:List Nat}: ∀{xs:List V} {n:Nat},(mH hp ord n xs).1.length=xs.length
 | [],n=>rfl
 | x::xs,n=>by simp only[mH,List.length_cons,DL]
theorem DM (S:aF P w I β hp B M w0) {ord:List Nat} (hR:v5 hp β ord hp' β'): ∀{xs:List V} {vs:List Value} {n:Nat},(∀(j:Nat) v x,vs[j]? =some v→xs[j]? =some x→ao P w I β hp v x)→
  kL hp' β' n (mH hp ord n xs).2→∀(j:Nat) v y,vs[j]? =some v→(mH hp ord n xs).1[j]? =some y→ao P w I β' hp' v y
 | [],vs,n,h,hF,j,v,y,hv,hy=>by simp[mH] at hy
 | x::xs,vs,n,h,hF,j,v,y,hv,hy=>by
  simp only[mH] at hF hy
  cases j with
  | zero=>
   simp at hy
   subst hy
   exact OL S hR (h 0 v x hv rfl) hF.left
  | succ j=>
   cases vs with
   | nil=>simp at hv
   | cons v0 vs=>exact DM S hR (vs:=vs) (fun j v x hj hx=>h (j+1) v x (by simpa using hj) (by simpa using hx)) hF.right j v y (by simpa using hv) (by simpa using hy)
theorem Yq {ord:List Nat} {n:Nat} {x:V}:l7 (pZ hp ord n x).2:=by
 cases x<;>simp only[pZ]<;>first|exact OM|exact Ii
theorem Yr (S:aF P w I β hp B M w0) {ord:List Nat} (hR:v5 hp β ord hp' β') {n:Nat} {v:Value} {x:V} (hv:ao P w I β hp v x) (hF:kL hp' β' n (pZ hp ord n x).2):
  ao P w I β' hp' v (pZ hp ord n x).1:=by
 cases x with
 | agg cs=>
  obtain ⟨ds,rfl,h1,U⟩:=hv.kG
  simp only[pZ] at hF⊢
  exact .agg (by rw[DL];exact h1) fun j v y hj hy=>DM S hR (vs:=ds.toList) (fun j v x hj hx=>U j v x (by simpa using hj) hx) hF j v y (by simpa using hj) hy
 | bm cs=>
  obtain ⟨ds,rfl,h1,U⟩:=hv.th
  simp only[pZ] at hF⊢
  exact .bm (by rw[DL];exact h1) fun j v y hj hy=>DM S hR (vs:=ds.toList) (fun j v x hj hx=>U j v x (by simpa using hj) hx) hF j v y (by simpa using hj) hy
 | _=>exact OL S hR hv hF
theorem ON {ord:List Nat} {sl:Nat→V}: ∀{l:List Nat} {n:Nat},l7 (k9 hp ord sl n l).2
 | [],n=> .nil
 | s::l,n=>by
  simp only[k9]
  exact Yq.app ON
theorem OO {ord:List Nat} {sl:Nat→V} {k:Nat} {y:V}: ∀{l:List Nat} {n:Nat},kL hp' β' n (k9 hp ord sl n l).2→dw (k9 hp ord sl n l).1 k=some y→
  ∃n',kL hp' β' n' (pZ hp ord n' (sl k)).2∧y=(pZ hp ord n' (sl k)).1
 | [],n,_,h=>by cases h
 | s::l,n,hF,h=>by
  simp only[k9] at hF h
  simp only[dw] at h
  cases hb:Nat.beq k s with
  | true=>
   rw[hb] at h
   rw[aQ] at hb
   subst hb
   cases h
   exact ⟨n,hF.left,rfl⟩
  | false=>
   rw[hb] at h
   exact OO hF.right h
theorem Ys {ord:List Nat} {n id:Nat}:l7 (eI hp ord n id).2:=by
 unfold eI
 split
 ·exact Ii
 ·exact .nil
 ·exact .nil
 ·exact .nil
 ·exact .nil
theorem OP {ord:List Nat}: ∀{l:List Nat} {n:Nat},l7 (fi hp ord n l).2
 | [],n=> .nil
 | s::l,n=>by
  simp only[fi]
  exact Ys.app OP
theorem OQ {ord:List Nat}: ∀{l:List Nat} {n:Nat},(fi hp ord n l).1.length=l.length
 | [],n=>rfl
 | x::xs,n=>by simp only[fi,List.length_cons,OQ]
theorem OR {ord:List Nat}: ∀{l:List Nat} {n j:Nat} {id:Nat},l[j]? =some id→∃n',(kL hp' β' n (fi hp ord n l).2→kL hp' β' n' (eI hp ord n' id).2)∧(fi hp ord n l).1[j]? =some (eI hp ord n' id).1
 | [],n,j,id,h=>by simp at h
 | s::l,n,j,id,h=>by
  simp only[fi]
  cases j with
  | zero=>
   simp at h
   subst h
   exact ⟨n,fun hF=>hF.left,rfl⟩
  | succ j=>
   obtain ⟨n',h1,U⟩:=OR (n:=n+(eI hp ord n s).2.length) (j:=j) (by simpa using h)
   exact ⟨n',fun hF=>h1 hF.right,by simpa using U⟩
theorem DN: ∀{l acc:List Nat},∃t,sY hp acc l=acc++t∧(acc.Nodup→(acc++t).Nodup)
 | [],acc=>⟨[],by simp[sY],by simp⟩
 | id::l,acc=>by
  simp only[sY]
  cases hb:(jP acc id|| !(L8 hp id)) with
  | true=>exact DN
  | false=>
   obtain ⟨t,h1,U⟩:=DN (l:=l) (acc:=acc++[id])
   refine ⟨id::t,by simp only[cond_false,h1,cj,List.singleton_append],fun hn=> ?_⟩
   have:acc++id::t=(acc++[id])++t:=by simp
   rw[this]
   refine U ?_
   rw[B5]
   refine ⟨hn,by simp,fun a ha b aB=> ?_⟩
   simp only[ef] at aB
   subst aB
   intro e
   subst e
   rw[vD ha] at hb
   cases hb
theorem OS: ∀{n:Nat} {l:List Nat},∃t,grow hp n l=l++t∧(l.Nodup→(l++t).Nodup)
 | 0,l=>⟨[],by simp[grow],by simp⟩
 | n+1,l=>by
  simp only[grow]
  obtain ⟨t,h1,U⟩:=DN (hp:=hp) (acc:=l) (l:=l.flatMap (GH hp))
  rw[h1]
  obtain ⟨t',h3,h4⟩:=OS (n:=n) (l:=l++t)
  exact ⟨t++t',by rw[h3,cj],fun hn=>by rw[←cj];exact h4 (U hn)⟩
theorem Yt {m:Nat} {live:List Nat} {st:St}: ∃t,GI m live st=List.range m++t∧(List.range m++t).Nodup:=by
 unfold GI
 obtain ⟨t,h1,U⟩:=DN (hp:=st.hp) (acc:=List.range m) (l:=live.flatMap fun s=>GG (st.sl s))
 rw[h1]
 obtain ⟨t',h3,h4⟩:=OS (hp:=st.hp) (n:=3) (l:=List.range m++t)
 exact ⟨t++t',by rw[h3,cj],by rw[←cj];exact h4 (U List.nodup_range)⟩
end
section
variable {P:Program} {A:cy} {E:FuncId→Bool} {G:Nat→V} {w w':World} {I I' I2:Nat→Prop} {μ β β':Nat→Option Nat} {hp hp' hp0:Nat→Option an} {C:ag} {B:Nat} {M:Nat→Prop} {w0:Start}
theorem OT {n m:Nat} {ord live:List Nat} {a:Act} {st:St} (lf:ord.Nodup) (zL: ∀id,id<m→ord[id]? =some id∨∃p,ord[id]? =some p∧st.hp p=none) (S:aF P w I β st.hp B M w0) (hA:iH P E G w I β n a st) (hE:kJ w0.w w0.I μ hp0 w I β st.hp) (hm: ∀id blk,hp0 id=some blk→id<m) (iY: ∀id e es ar,hp0 id=some (.nest e es ar)→∀k,bz ar k=0):
  ∃β',aF P w I β' (vl ord live st).hp B M w0∧iH P E G w I β' n a (vl ord live st)∧kJ w0.w w0.I μ hp0 w I β' (vl ord live st).hp:=by
 have Yu:vl ord live st=mk (k9 st.hp ord st.sl (ord.length+(fi st.hp ord ord.length ord).2.length) live).1
   ((fi st.hp ord ord.length ord).1++((fi st.hp ord ord.length ord).2++(k9 st.hp ord st.sl (ord.length+(fi st.hp ord ord.length ord).2.length) live).2)):=by
  rfl
 rw[Yu]
 let hp':=jk ((fi st.hp ord ord.length ord).1++((fi st.hp ord ord.length ord).2++(k9 st.hp ord st.sl (ord.length+(fi st.hp ord ord.length ord).2.length) live).2))
 let β':Nat→Option Nat:=fun j=>if j<ord.length then (ord[j]?).bind β else none
 have hlen:(fi st.hp ord ord.length ord).1.length=ord.length:=OQ
 have iE: ∀j,j<ord.length→hp' j=(fi st.hp ord ord.length ord).1[j]? :=by
  intro j hj
  simp only[hp',gI]
  rw[ij (by omega)]
 have gH: ∀k,hp' (ord.length+k)=((fi st.hp ord ord.length ord).2++(k9 st.hp ord st.sl (ord.length+(fi st.hp ord ord.length ord).2.length) live).2)[k]? :=by
  intro k
  simp only[hp',gI]
  rw[ik (by omega),hlen,Nat.add_sub_cancel_left]
 have hF:kL hp' β' ord.length ((fi st.hp ord ord.length ord).2++(k9 st.hp ord st.sl (ord.length+(fi st.hp ord ord.length ord).2.length) live).2):=by
  intro k b hb
  refine ⟨(gH k).trans hb,?_⟩
  simp only[β']
  rw[ai (by omega)]
 have zI:l7 ((fi st.hp ord ord.length ord).2++(k9 st.hp ord st.sl (ord.length+(fi st.hp ord ord.length ord).2.length) live).2):=OP.app ON
 have og: ∀(j:Nat) id,ord[j]? =some id→β' j=β id:=by
  intro j id hj
  simp only[β']
  rw[aj (bu.1 hj).1,hj]
  rfl
 have qz: ∀(j:Nat) id,ord[j]? =some id→∃n',kL hp' β' n' (eI st.hp ord n' id).2∧hp' j=some (eI st.hp ord n' id).1:=by
  intro j id hj
  obtain ⟨n',h1,U⟩:=OR (hp:=st.hp) (hp':=hp') (β':=β') (ord:=ord) (n:=ord.length) hj
  exact ⟨n',h1 hF.left,(iE j (bu.1 hj).1).trans U⟩
 have hR:v5 st.hp β ord hp' β':=by
  refine ⟨fun j id e es fz hj ab=> ?_,fun j id T cs hj ab=> ?_,fun j id hj ab=> ?_,og,fun j id e es ar hj ab=> ?_,fun j id t es hj ab=> ?_⟩
  ·obtain ⟨n',_,U⟩:=qz j id hj
   rw[U];simp only[eI,ab]
  ·obtain ⟨n',_,U⟩:=qz j id hj
   rw[U];simp only[eI,ab];exact ⟨_,rfl⟩
  ·obtain ⟨n',_,U⟩:=qz j id hj
   rw[U];simp only[eI,ab]
  ·obtain ⟨n',_,U⟩:=qz j id hj
   rw[U];simp only[eI,ab]
  ·obtain ⟨n',_,U⟩:=qz j id hj
   rw[U];simp only[eI,ab]
 have cls: ∀j blk',hp' j=some blk'→(∃id,ord[j]? =some id∧((blk'= .dead)∨∃blk,st.hp id=some blk∧blk≠ .dead∧∀o b,bw P w o blk' b→bw P w o blk b))∨(∃e,blk'= .arr e [] false∧β' j=none):=by
  intro j blk' hj
  rcases oN j ord.length with h|h
  ·have gd:=bM h
   obtain ⟨n',_,U⟩:=qz j _ gd
   rw[hj] at U
   refine .inl ⟨_,gd,?_⟩
   cases ab:st.hp ord[j] with
   | none=>left;simp only[eI,ab] at U;exact c6 U
   | some blk=>
    cases blk with
    | dead=>left;simp only[eI,ab] at U;exact c6 U
    | var T0 cs=>exact .inr ⟨_,rfl,by simp,fun o b h=>by simp only[eI,ab] at U;rw[c6 U] at h;exact .root (by simp) (h.flat (by simp))⟩
    | arr e es fz=>exact .inr ⟨_,rfl,by simp,fun o b h=>by simp only[eI,ab] at U;rw[c6 U] at h;exact .root (by simp) (h.flat (by simp))⟩
    | map t es=>exact .inr ⟨_,rfl,by simp,fun o b h=>by simp only[eI,ab] at U;rw[c6 U] at h;exact .root (by simp) (h.flat (by simp))⟩
    | nest e es ar=>
     refine .inr ⟨_,rfl,by simp,fun o b h=> ?_⟩
     simp only[eI,ab] at U
     rw[c6 U] at h
     cases h with
     | root _ h=>exact .root (by simp) h
     | row h1 U=>exact .row h1 U
  ·obtain ⟨k,rfl⟩: ∃k,j=ord.length+k:=⟨j-ord.length,by omega⟩
   rw[gH] at hj
   obtain ⟨e,he⟩:=zI _ (jh hj)
   exact .inr ⟨e,he,(hF k _ hj).2⟩
 refine ⟨β',⟨⟨fun j blk' hj=> ?_,fun j1 j2 b1 b2 b e1 e2 f1 f2=> ?_,fun j blk b e1 f1=> ?_,S.h.jo⟩,S.b8,S.size,S.new,S.io⟩,⟨fun k=> ?_,hA.size,hA.defers,hA.aE⟩,⟨hE.c9,hE.b8,fun id blk ab=> ?_,fun id blk blk' b ab bB hd hb=> ?_⟩⟩
 ·change hp' j=some blk' at hj
  rcases oN j ord.length with h|h
  ·have gd:=bM h
   obtain ⟨n',OU,U⟩:=qz j _ gd
   rw[hj] at U
   rw[og j _ gd]
   cases ab:st.hp ord[j] with
   | none=>simp only[eI,ab] at U;rw[c6 U];exact .dead
   | some blk=>
    have hr:=S.h.rel _ _ ab
    generalize β ord[j]=o at hr
    cases hr with
    | dead=>simp only[eI,ab] at U;rw[c6 U];exact .dead
    | dy hb=>simp only[eI,ab] at U;rw[c6 U];exact .dy hb
    | arr a1 a2 a3 a4 a5 a6 a7=>simp only[eI,ab] at U;rw[c6 U];exact .arr a1 a2 a3 a4 a5 a6 a7
    | nest a1 a2 a3=>simp only[eI,ab] at U;rw[c6 U];exact .nest a1 a2 a3
    | map a1 a2 a3 a4 a5 a6 a7=>simp only[eI,ab] at U;rw[c6 U];exact .map a1 a2 a3 a4 a5 a6 a7
    | @var xs b Ca T hb hh hs cH hx fO=>
     simp only[eI,ab] at U OU
     rw[c6 U]
     exact .var hb hh (by rw[DL];exact hs) cH (fun i v y hi hy=>DM S hR (vs:=Ca.toList) (fun i v x hi cp=>hx i v x (by simpa using hi) cp) OU i v y (by simpa using hi) hy) fO
  ·rcases cls j blk' hj with ⟨id,ab,_⟩|⟨e,he,hb⟩
   ·have:=(bu.1 ab).1;omega
   ·rw[he];exact .dy hb
 ·rcases cls j1 b1 e1 with ⟨Ij,o1,x1⟩|⟨e,_,hb⟩
  ·rcases cls j2 b2 e2 with ⟨cr,o2,x2⟩|⟨e,_,hb⟩
   ·obtain ⟨c1,y1,z1,g1⟩:=x1.resolve_left f1.alive
    obtain ⟨c2,y2,z2,g2⟩:=x2.resolve_left f2.alive
    rw[og _ _ o1] at f1
    rw[og _ _ o2] at f2
    have:=S.h.inj Ij cr c1 c2 b y1 y2 (g1 _ _ f1) (g2 _ _ f2)
    subst this
    obtain ⟨q1,q2⟩:=bu.1 o1
    obtain ⟨q3,q4⟩:=bu.1 o2
    exact (List.getElem_inj lf).1 (q2.trans q4.symm)
   ·subst ‹b2=_›;have:=f2.flat (by simp);rw[hb] at this;cases this
  ·subst ‹b1=_›;have:=f1.flat (by simp);rw[hb] at this;cases this
 ·rcases cls j blk e1 with ⟨Ij,o1,x1⟩|⟨e,_,hb⟩
  ·obtain ⟨c1,y1,z1,g1⟩:=x1.resolve_left f1.alive
   rw[og _ _ o1] at f1
   exact S.h.own Ij c1 b y1 (g1 _ _ f1)
  ·subst ‹blk=_›;have:=f1.flat (by simp);rw[hb] at this;cases this
 ·change ao P w I β' hp' (a.tmps.getD k undef) (iR _ k)
  unfold iR
  cases HU:dw (k9 st.hp ord st.sl (ord.length+(fi st.hp ord ord.length ord).2.length) live).1 k with
  | none=>exact .undef
  | some y=>
   obtain ⟨n',h1,U⟩:=OO hF.right HU
   simp only[Option.getD_some,U]
   exact Yr S hR (hA.sl k) h1
 ·obtain ⟨qv,k1,k2,k3⟩:=hE.blk id blk ab
  rcases zL id (hm id blk ab) with ho|⟨p,ho,bt⟩
  ·cases qv with
   | dead=>exact ⟨.dead,hR.dead id id ho k1,k2,fun h=>absurd rfl h⟩
   | var T0 cs=>
    obtain ⟨hU,h'⟩:=hR.var id id T0 cs ho k1
    refine ⟨_,h',?_,fun _=>(og id id ho).trans (k3 (by simp))⟩
    cases blk<;>simp_all [an.le]
   | arr e es fz=>exact ⟨_,hR.arr id id e es fz ho k1,k2,fun _=>(og id id ho).trans (k3 (by simp))⟩
   | map t es=>exact ⟨_,hR.map id id t es ho k1,k2,fun _=>(og id id ho).trans (k3 (by simp))⟩
   | nest e es ar=>
    refine ⟨_,hR.nest id id e es ar ho k1,?_,fun _=>(og id id ho).trans (k3 (by simp))⟩
    obtain ⟨GQ,Vx,rfl,l1,l2,_⟩:=an.GO k2
    exact ⟨rfl,l1,by simpa using l2,fun k=>by rw[iY id _ _ _ ab k];exact kq _⟩
  ·obtain ⟨n',_,U⟩:=qz id p ho
   simp only[eI,bt] at U
   exact ⟨.dead,U,by cases blk<;>trivial,fun h=>absurd rfl h⟩
 ·obtain ⟨qv,k1,k2,k3⟩:=hE.blk id blk ab
  rcases zL id (hm id blk ab) with ho|⟨p,ho,bt⟩
  ·refine hE.size id blk qv b ab k1 (fun qy=> ?_) hb
   subst qy
   have:=hR.dead id id ho k1
   change hp' id=some blk' at bB
   rw[this] at bB
   exact hd (c6 bB).symm
  ·obtain ⟨n',_,U⟩:=qz id p ho
   simp only[eI,bt] at U
   change hp' id=some blk' at bB
   rw[U] at bB
   exact absurd (c6 bB).symm hd
theorem Yv {n m:Nat} {live:List Nat} {a:Act} {st:St} (S:aF P w I β st.hp B M w0) (hA:iH P E G w I β n a st) (hE:kJ w0.w w0.I μ hp0 w I β st.hp) (hm: ∀id blk,hp0 id=some blk→id<m) (iY: ∀id e es ar,hp0 id=some (.nest e es ar)→∀k,bz ar k=0):
  ∃β',aF P w I β' (canon m live st).hp B M w0∧iH P E G w I β' n a (canon m live st)∧kJ w0.w w0.I μ hp0 w I β' (canon m live st).hp:=by
 obtain ⟨t,zL,lf⟩:=Yt (m:=m) (live:=live) (st:=st)
 refine OT (by rw[zL];exact lf) (fun id aO=> .inl ?_) S hA hE hm iY
 rw[zL,ij (by simpa using aO)]
 simp[aO]
theorem OV: ∀{l:List Nat},p5 l=true→l.Nodup
 | [],_=> .nil
 | a::l,h=>by
  simp only[p5,aK,my] at h
  rw[List.nodup_cons]
  exact ⟨fun hm=>Bool.noConfusion ((vD hm).symm.trans h.1),OV h.2⟩
theorem Yw {m:Nat} {mv:List Nat} {id:Nat} (h:id<m):(nQ m mv)[id]? =some id∨(nQ m mv)[id]? =some (m+id):=by
 unfold nQ
 rw[ij (by simpa using h),gv]
 simp only[List.getElem?_range h,Option.map_some]
 cases jP mv id with
 | true=>exact .inr rfl
 | false=>exact .inl rfl
end
section
variable {P:Program} {A:cy} {w w':World} {I I' I2:Nat→Prop} {μ β β':Nat→Option Nat} {hp hp' hp0:Nat→Option an} {C:ag} {B:Nat} {M:Nat→Prop} {w0:Start}
theorem DO (p:Nat→Prop) (h: ∃n,p n): ∃n,p n∧∀m,p m→n≤m:=by
 obtain ⟨n,hn⟩:=h
 induction n using Nat.strongRecOn with
 | _ n ih=>
  by_cases hx: ∃m,m<n∧p m
  ·obtain ⟨m,hm,hp⟩:=hx
   exact ih m hm hp
  ·exact ⟨n,hn,fun m hm=>Nat.le_of_not_lt fun aO=>hx ⟨m,aO,hm⟩⟩
open Classical in
theorem Yx {c:Code} {Q:Exit→Act→World→Prop} (J:Nat→Act→World→Prop) (h0: ∀a w,¬J 0 a w) (round: ∀n a w,J (n+1) a w→c.wp P (Exit.then (J n) Q) a w) {n:Nat} {a:Act} {w:World} (h:J n a w):
  (Code.loop c).wp P Q a w:=by
 refine wp_loop (fun a w=> ∃n,J n a w) (fun a w=>if h: ∃n,J n a w then (DO _ h).choose else 0) ⟨n,h⟩ fun a w hJ=> ?_
 obtain ⟨h1,U⟩:=(DO _ hJ).choose_spec
 generalize hk:(DO _ hJ).choose=k at h1 U
 cases k with
 | zero=>exact absurd h1 (h0 a w)
 | succ k=>
  refine wp_mono (round k a w h1) fun e a' w' he=> ?_
  cases e with
  | normal=>
   have hex: ∃n,J n a' w':=⟨k,he⟩
   refine ⟨hex,?_⟩
   have h3:=(DO _ hex).choose_spec.2 k he
   rw[qZ hex,qZ hJ,hk]
   omega
  | _=>exact he
def v7:Out→Exit
 | .norm=> .normal
 | .exit id=> .exit id
 | .ret=> .ret
def Inv (P:Program) (E:FuncId→Bool) (G:Nat→V) (B:Nat) (M:Nat→Prop) (w0:Start) (μ:Nat→Option Nat) (hp0:Nat→Option an) (n:Nat) (a:Act) (w:World) (st:St):Prop:=
 ∃I β,aF P w I β st.hp B M w0∧iH P E G w I β n a st∧kJ w0.w w0.I μ hp0 w I β st.hp
theorem Inv.canon {E:FuncId→Bool} {G:Nat→V} {n m:Nat} {a:Act} {st:St} {live:List Nat} (h:Inv P E G B M w0 μ hp0 n a w st) (hm: ∀id blk,hp0 id=some blk→id<m) (iY: ∀id e es ar,hp0 id=some (.nest e es ar)→∀k,bz ar k=0):Inv P E G B M w0 μ hp0 n a w (canon m live st):=by
 obtain ⟨I,β,S,hA,hE⟩:=h
 obtain ⟨β',a,b,c⟩:=Yv (live:=live) S hA hE hm iY
 exact ⟨I,β',a,b,c⟩
theorem DP: ∀{l:List BS} {ds:List V},(eB l ds).length=l.length
 | [],_=>rfl
 | b::l,ds=>by simp only[eB,List.length_cons,DP]
theorem Inv.enter {A:cy} {E:FuncId→Bool} {G:Nat→V} {n f:Nat} {ds:List V} {a:Act} (j7:p5 (nQ (A.sin f).bh.length (A.mv f))=true) (h:Inv P E G B M w0 μ hp0 n a w (br (A.sin f) ds)) (hm: ∀id blk,hp0 id=some blk→id<(A.sin f).bh.length)
  (iY: ∀id e es ar,hp0 id=some (.nest e es ar)→∀k,bz ar k=0) (v8: ∀p,(A.sin f).bh.length≤p→(br (A.sin f) ds).hp p=none):Inv P E G B M w0 μ hp0 n a w (Cz A f ds):=by
 unfold Cz
 split
 ·exact h
 ·obtain ⟨I,β,S,hA,hE⟩:=h
  obtain ⟨β',x,y,z⟩:=OT (m:=(A.sin f).bh.length) (ord:=nQ (A.sin f).bh.length (A.mv f)) (live:=(A.sin f).bN.map (·.1)) (OV j7) (fun id ab=>(Yw ab).imp (fun h=>h) fun h=>⟨_,h,v8 _ (by omega)⟩) S hA hE hm iY
  exact ⟨I,β',x,y,z⟩
theorem Inv.reshape {E:FuncId→Bool} {G:Nat→V} {n m:Nat} {a:Act} {st:St} {S:Shape} {ds:List V} (h:Inv P E G B M w0 μ hp0 n a w st) (hs:jl m S st=some ds) (hm: ∀id blk,hp0 id=some blk→id<m):Inv P E G B M w0 μ hp0 n a w (br S ds):=by
 obtain ⟨I,β,S1,hA,hE⟩:=h
 obtain ⟨r1,r2,_,r4⟩:=AM.reshape hs S1
 refine ⟨I,β,r1,⟨fun k=>r2 k _ (hA.sl k),hA.size,hA.defers,hA.aE⟩,⟨hE.c9,hE.b8,fun id blk ab=> ?_,fun id blk blk' b ab bB hd hb=> ?_⟩⟩
 ·obtain ⟨qv,k1,k2,k3⟩:=hE.blk id blk ab
  obtain ⟨_,hle,_⟩:=NA hs
  have hl:=hm id blk ab
  obtain ⟨bX,U⟩: ∃bX,(br S ds).hp id=some bX:=by
   simp only[br,mk,gI]
   exact ⟨_,bM (by rw[DP];omega)⟩
  by_cases hd:bX= .dead
  ·subst hd
   exact ⟨_,U,by cases blk<;>trivial,fun h=>absurd rfl h⟩
  ·obtain ⟨gz,e1,e2,_⟩:=r4 id bX U hd
   rw[k1] at e1;cases e1
   exact ⟨_,U,an.le_trans k2 e2,fun _=>k3 (fun e=>hd (an.oZ (e▸e2)))⟩
 ·obtain ⟨gz,e1,e2,_⟩:=r4 id blk' bB hd
  exact hE.size id blk gz b ab e1 (fun e=>hd (an.oZ (e▸e2))) hb
theorem kK.here (h:kK P A C) (f:Nat) (id:Nat):kK P (A.here f id) C:=by
 intro key ds es hh
 obtain ⟨fn,c,h1,U,h3⟩:=h key ds es hh
 refine ⟨fn,c,h1,U,fun w I μ vals a g b d=>(h3 w I μ vals a g b d).mono fun e w' hx=> ?_⟩
 obtain ⟨v,I2,bY,q1,q2⟩:=hx
 exact ⟨v,I2,bY,q1,⟨q2.vT,q2.le,q2.res⟩⟩
theorem Yy {a b:Out} (h:Cy a b=true):a=b:=by
 cases a<;>cases b<;>simp[Cy] at h<;>first|rfl|(subst h;rfl)
theorem OW {m:Nat} {r:Out × St}: ∀{l:List (Out × Shape)} {j:Nat} {e:Nat × List V},ways m j l r=some e→j≤e.1
 | [],j,e,h=>by cases h
 | (o,S)::l,j,e,h=>by
  simp only[ways] at h
  split at h
  ·cases h;exact bZ _
  ·have:=OW h;omega
theorem Ik {m:Nat} {o:Out} {s:St} {out:Out} {st':St}: ∀{l:List (Out × Shape)} {k:Nat} {e:Nat × List V},ways m k l (o,s)=some e→lM k l e.1 e.2 (fun o st=>some (o,st))=some (out,st')→
  out=o∧∃S,jl m S s=some e.2∧st'=br S e.2
 | [],k,e,h,_=>by cases h
 | (o',S)::l,k,e,h,U=>by
  simp only[ways] at h
  split at h
  ·rename_i ds hx
   cases h
   cases ho:Cy o' o with
   | false=>rw[ho] at hx;cases hx
   | true=>
    rw[ho] at hx
    have:=Yy ho
    subst this
    cases l with
    | nil=>
     simp only[lM,dL,jN] at U
     exact ⟨U.1.symm,S,hx,U.2.symm⟩
    | cons p l=>
     simp only[lM,jg,cond_true,dL,jN] at U
     exact ⟨U.1.symm,S,hx,U.2.symm⟩
  ·have pb:=OW h
   cases l with
   | nil=>cases h
   | cons p l=>
    have bA:Nat.beq e.1 k=false:=by
     cases hb:Nat.beq e.1 k with
     | false=>rfl
     | true=>rw[aQ] at hb;omega
    simp only[lM,bA,cond_false] at U
    exact Ik h U
theorem Yz (hC:kK P A C) (hP:iG P A) (mV:P.follows .mixedOrders=true) {f n m:Nat} (hm: ∀id blk,hp0 id=some blk→id<m) (iY: ∀id e es ar,hp0 id=some (.nest e es ar)→∀k,bz ar k=0):
  ∀(c:Code) {st st':St} {out:Out} {Q:Exit→Act→World→Prop} {a:Act} {w:World},exec P A C f n m c st=some (out,st')→Inv P A.idle A.aE B M w0 μ hp0 n a w st→
   (∀a' w',Inv P A.idle A.aE B M w0 μ hp0 n a' w' st'→Q (v7 out) a' w')→c.wp P Q a w:=by
 intro c
 induction c with
 | skip=>
  intro st st' out Q a w h hI hQ
  simp only[exec,dL,jN] at h
  obtain ⟨rfl,rfl⟩:=h
  exact wp_skip (hQ a w hI)
 | exit id=>
  intro st st' out Q a w h hI hQ
  simp only[exec,dL,jN] at h
  obtain ⟨rfl,rfl⟩:=h
  exact wp_exit (hQ a w hI)
 | ret=>
  intro st st' out Q a w h hI hQ
  simp only[exec,dL,jN] at h
  obtain ⟨rfl,rfl⟩:=h
  exact wp_ret (hQ a w hI)
 | region id ops draw=>
  intro st st' out Q a w h hI hQ
  simp only[exec] at h
  obtain ⟨iI,h1,U⟩:=bind_some h
  simp only[dL,jN] at U
  obtain ⟨rfl,rfl⟩:=U
  obtain ⟨I,β,S,hA,hE⟩:=hI
  refine Yo (hC.here f id) (hP.here f id) mV h1 S hA fun a' w' I' β' k1 k2 k3=> ?_
  obtain ⟨I2,l1,l2,l3⟩:=OH (m:=m) (pur:=A.pur f id) k2 k3
  have YA:=(hE.trans k1.Dw).trans l1.Dw
  exact hQ a' w' (Inv.canon ⟨I2,β',l2,l3,YA⟩ hm iY)
 | seq x y iq iu=>
  intro st st' out Q a w h hI hQ
  simp only[exec] at h
  obtain ⟨⟨o1,iI⟩,h1,U⟩:=bind_some h
  refine wp_seq (iq h1 hI fun a' w' jw=> ?_)
  cases o1 with
  | norm=>exact iu U jw hQ
  | exit id=>
   simp only[dL,jN] at U
   obtain ⟨rfl,rfl⟩:=U
   exact hQ a' w' jw
  | ret=>
   simp only[dL,jN] at U
   obtain ⟨rfl,rfl⟩:=U
   exact hQ a' w' jw
 | cond c x y iq iu=>
  intro st st' out Q a w h hI hQ
  cases c with
  | tmp t=>
   have go: ∀{st st':St} {out:Out} {Q:Exit→Act→World→Prop} {a:Act} {w:World},(match st.sl t with
     | .bool b=>(bif b then exec P A C f n m x st else exec P A C f n m y st).bind fun r=>
      match r.1 with
      | .norm=>some (.norm,AM.canon m (A.join f t) r.2)
      | _=>some r
     | _=>none)=some (out,st')→Inv P A.idle A.aE B M w0 μ hp0 n a w st→(∀a' w',Inv P A.idle A.aE B M w0 μ hp0 n a' w' st'→Q (v7 out) a' w')→(Code.cond (.tmp t) x y).wp P Q a w:=by
    intro st st' out Q a w h hI hQ
    cases hs:st.sl t<;>rw[hs] at h<;>simp only at h<;>first|(cases h;done)|skip
    rename_i b
    obtain ⟨⟨o1,iI⟩,h1,U⟩:=bind_some h
    obtain ⟨I,β,S,hA,hE⟩:=hI
    have eL:a.eval (.tmp t)= .bool b:=by
     have:=Oc hA hs
     simp[Act.eval,this]
    have fin: ∀a' w',Inv P A.idle A.aE B M w0 μ hp0 n a' w' iI→Q (v7 o1) a' w':=by
     intro a' w' jw
     cases o1 with
     | norm=>
      simp only[dL,jN] at U
      obtain ⟨rfl,rfl⟩:=U
      exact hQ a' w' (jw.canon hm iY)
     | exit id=>
      simp only[dL,jN] at U
      obtain ⟨rfl,rfl⟩:=U
      exact hQ a' w' jw
     | ret=>
      simp only[dL,jN] at U
      obtain ⟨rfl,rfl⟩:=U
      exact hQ a' w' jw
    refine wp_cond eL ?_
    cases b with
    | true=>exact iq h1 ⟨I,β,S,hA,hE⟩ fin
    | false=>exact iu h1 ⟨I,β,S,hA,hE⟩ fin
   simp only[exec] at h
   split at h
   ·exact go h hI hQ
   ·obtain ⟨ds,h1,U⟩:=bind_some h
    obtain ⟨e,h3,h4⟩:=bind_some U
    obtain ⟨⟨o1,s1⟩,h5,h6⟩:=bind_some h3
    obtain ⟨rfl,S',k1,rfl⟩:=Ik h6 h4
    exact go h5 (hI.reshape h1 hm) fun a' w' jw=>hQ a' w' (jw.reshape k1 hm)
  | const v=>
   cases v with
   | bool b=>
    simp only[exec] at h
    refine wp_cond (t:=b) rfl ?_
    cases b with
    | true=>exact iq h hI hQ
    | false=>exact iu h hI hQ
   | _=>simp only[exec] at h;cases h
  | _=>simp only[exec] at h;cases h
 | block id c ih=>
  intro st st' out Q a w h hI hQ
  simp only[exec] at h
  obtain ⟨⟨o1,iI⟩,h1,U⟩:=bind_some h
  refine wp_block (ih h1 hI fun a' w' jw=> ?_)
  cases o1 with
  | norm=>
   simp only[dL,jN] at U
   obtain ⟨rfl,rfl⟩:=U
   exact hQ a' w' (jw.canon hm iY)
  | exit aD=>
   simp only at U
   cases hb:Nat.beq aD id with
   | true=>
    rw[hb] at U
    simp only[cond_true,dL,jN] at U
    obtain ⟨rfl,rfl⟩:=U
    rw[aQ] at hb
    simp only[v7,Exit.inBlock,hb,cF]
    exact hQ a' w' (jw.canon hm iY)
   | false=>
    rw[hb] at U
    simp only[cond_false,dL,jN] at U
    obtain ⟨rfl,rfl⟩:=U
    have bA:aD≠id:=fun e=>by rw[e,jg] at hb;cases hb
    simp only[v7,Exit.inBlock,bA,fc]
    exact hQ a' w' jw
  | ret=>
   simp only[dL,jN] at U
   obtain ⟨rfl,rfl⟩:=U
   exact hQ a' w' jw
 | loop c ih=>
  intro st st' out Q a w h hI hQ
  simp only[exec] at h
  split at h
  ·cases h
  ·rename_i S hS
   obtain ⟨ds,h1,U⟩:=bind_some h
   obtain ⟨e,h3,h4⟩:=bind_some U
   obtain ⟨k,hk⟩:=u7 h3
   refine Yx (J:=fun k a w=> ∃ds,Inv P A.idle A.aE B M w0 μ hp0 n a w (br S.1 ds)∧ff (fun ds=>mI m S.1 S.2 (exec P A C f n m c (br S.1 ds))) k ds=some e) (fun a w ⟨s,_,h⟩=>by cases h) (fun k a w ⟨ds,hs,hk⟩=> ?_) ⟨ds,hI.reshape h1 hm,hk⟩
   simp only[ff] at hk
   obtain ⟨y,h5,h6⟩:=bind_some hk
   unfold mI at h5
   obtain ⟨⟨o1,s1⟩,h7,h8⟩:=bind_some h5
   refine ih h7 hs fun a' w' jw=> ?_
   have OX: ∀{e':Nat × List V},ways m 0 S.2 (o1,s1)=some e'→e'=e→Q (v7 o1) a' w':=by
    intro e' q1 q2
    subst q2
    obtain ⟨rfl,S',k1,rfl⟩:=Ik q1 h4
    exact hQ a' w' (jw.reshape k1 hm)
   cases o1 with
   | norm=>
    obtain ⟨YB,q1,q2⟩:=bind_some h8
    cases q2
    exact ⟨YB,jw.reshape q1 hm,h6⟩
   | exit id=>
    obtain ⟨e',q1,q2⟩:=bind_some h8
    cases q2
    cases h6
    exact OX q1 rfl
   | ret=>
    obtain ⟨e',q1,q2⟩:=bind_some h8
    cases q2
    cases h6
    exact OX q1 rfl
 | _=>intro st st' out Q a w h;simp only[exec] at h;cases h
end
section
variable {P:Program} {A:cy} {w w':World} {I I' I2:Nat→Prop} {μ β β' bY:Nat→Option Nat} {hp hp' hp0:Nat→Option an} {C:ag} {B:Nat} {M:Nat→Prop} {w0:Start}
theorem DQ (S:aF P w I β hp B M w0) {a:Act} {st:St} (hs:kE P w I β hp a st.sl): ∀{l:List ResultVar} {xs:List V} {rd:List Nat},(s4 P st l).run C hp=some (xs,rd)→
  ∃vs:List Value,(l.mapM fun| .tmp t=>Pure.pure (a.tmps.getD t undef)| .cell x t=>do loadVar t (←asAddr (a.tmps.getD x undef)):Sem (List Value)).run P w= .ok vs w∧vs.length=xs.length∧l.length=xs.length∧
   ∀(j:Nat) v x,vs[j]? =some v→xs[j]? =some x→ao P w I β hp v x
 | [],xs,rd,h=>by
  cases h
  exact ⟨[],by simp,rfl,rfl,by simp⟩
 | .tmp t::l,xs,rd,h=>by
  simp only[s4] at h
  obtain ⟨ys,l1,l2,h1,U⟩:=kF h
  have h3:=GS U
  subst h3
  obtain ⟨vs,a1,a2,a3,a4⟩:=DQ S hs h1
  refine ⟨a.tmps.getD t undef::vs,by simp only[List.mapM_cons,Sem.run_bind,Sem.run_pure,Result.andThen_ok,a1],by simp[a2],by simp[a3],fun j v x hj hx=> ?_⟩
  cases j with
  | zero=>simp at hj hx;subst hj;subst hx;have:=hs t;simpa using this
  | succ j=>exact a4 j v x (by simpa using hj) (by simpa using hx)
 | .cell y t::l,xs,rd,h=>by
  simp only[s4] at h
  obtain ⟨r,l1,l2,h1,U⟩:=kF h
  obtain ⟨ys,l3,l4,h3,h4⟩:=kF U
  have h5:=GS h4
  subst h5
  obtain ⟨v0,b1,b2,b3,ad,b4⟩:=Ms S (hs y) h1
  obtain ⟨vs,a1,a2,a3,a4⟩:=DQ S hs h3
  refine ⟨v0::vs,?_,by simp[a2],by simp[a3],fun j v x hj hx=> ?_⟩
  ·have e1:(do loadVar t (←asAddr (a.tmps.getD y undef)):Sem Value).run P w= .ok v0 w:=by
    rw[b4] at b1⊢
    simpa[Instr.loadAt,Instr.sureAddr,asAddr] using b1
   simp only[List.mapM_cons,Sem.run_bind,e1,Result.andThen_ok,a1,Sem.run_pure]
  cases j with
  | zero=>simp at hj hx;subst hj;subst hx;exact b2
  | succ j=>exact a4 j v x (by simpa using hj) (by simpa using hx)
def tO:List Value→Value
 | [v]=>v
 | l=> .tuple l.toArray
theorem YC {vs:List Value} (h:vs.length≠1):tO vs= .tuple vs.toArray:=by
 match vs,h with
 | [],_=>rfl
 | [v],h=>simp at h
 | v::v2::l,_=>rfl
theorem YD {fn:Func} {a:Act} {st:St} (S:aF P w I β st.hp B M w0) (hs:kE P w I β st.hp a st.sl) {xs:List V} {rd:List Nat} (h:(s4 P st fn.results.toList).run C st.hp=some (xs,rd)):
  ∃vs:List Value,(results fn a.tmps).run P w= .ok (tO vs) w∧vs.length=xs.length∧
   ∀(j:Nat) v x,vs[j]? =some v→xs[j]? =some x→ao P w I β st.hp v x:=by
 obtain ⟨vs,a1,a2,_,a4⟩:=DQ S hs h
 refine ⟨vs,?_,a2,a4⟩
 unfold results
 rw[Array.mapM_eq_mapM_toList]
 simp only[map_eq_pure_bind,bind_assoc,pure_bind,Sem.run_bind]
 refine (congrArg (fun r:Result (List Value)=>r.andThen _) a1).trans ?_
 simp only[Result.andThen_ok,Sem.run_pure]
 match vs with
 | []=>simp[tO]
 | [v]=>simp[tO]
 | v::v2::l=>simp[tO]
theorem OY: ∀{args:List V} {i k:Nat},dw (mJ i args) k=if i≤k then args[k-i]? else none
 | [],i,k=>by simp[mJ,dw]
 | v::vs,i,k=>by
  simp only[mJ,dw]
  cases hb:Nat.beq k i with
  | true=>
   rw[aQ] at hb
   subst hb
   simp
  | false=>
   have bA:k≠i:=fun e=>by rw[e,jg] at hb;cases hb
   simp only[cond_false,OY]
   by_cases h:i≤k
   ·rw[aj (by omega),aj h]
    obtain ⟨d,rfl⟩: ∃d,k=i+1+d:=⟨k-(i+1),by omega⟩
    rw[show i+1+d-(i+1)=d by omega,show i+1+d-i=d+1 by omega]
    rfl
   ·rw[ai (by omega),ai h]
theorem Il: ∀{l:List (Nat × VS)} {ds:List V} {i k:Nat},jU i l=true→dw (eW l ds) k=if i≤k then (fg (l.map (·.2)) ds)[k-i]? else none
 | [],ds,i,k,_=>by simp[eW,fg,dw]
 | (q,s)::l,ds,i,k,h=>by
  simp only[jU,aK,aQ] at h
  obtain ⟨rfl,h⟩:=h
  simp only[eW,dw,cw,fg]
  cases hb:Nat.beq k q with
  | true=>
   rw[aQ] at hb
   subst hb
   simp
  | false=>
   have bA:k≠q:=fun e=>by rw[e,jg] at hb;cases hb
   simp only[cond_false]
   rw[Il h]
   by_cases h:q≤k
   ·rw[aj (by omega),aj h]
    obtain ⟨d,rfl⟩: ∃d,k=q+1+d:=⟨k-(q+1),by omega⟩
    rw[show q+1+d-(q+1)=d by omega,show q+1+d-q=d+1 by omega]
    rfl
   ·rw[ai (by omega),ai h]
theorem OZ: ∀{l:List (Nat × VS)} {ds:List V},(eW l ds).map (·.2)=fg (l.map (·.2)) ds
 | [],_=>rfl
 | (q,s)::l,ds=>by simp only[eW,cw,fg,OZ]
theorem Im: ∀{l:List VS} {ds:List V},(fg l ds).length=l.length
 | [],_=>rfl
 | s::l,ds=>by simp only[fg,List.length_cons,Im]
theorem O0: ∀{l:List (Nat × VS)} {ds:List V},(eW l ds).length=l.length
 | [],_=>rfl
 | (q,s)::l,ds=>by simp only[eW,List.length_cons,O0]
theorem YE {vals:List Value} {l:List (Nat × V)} (hl:vals.length=l.length) (h: ∀(j:Nat) v y,vals[j]? =some v→(l.map (·.2))[j]? =some y→ao P w I β hp v y):ao P w I β hp (tO vals) (oX l):=by
 match l,hl,h with
 | [],hl,h=>
  obtain rfl:vals=[]:=kT hl
  exact .bm rfl fun j v x _ hx=>by simp at hx
 | [(k,y)],hl,h=>
  match vals,hl,h with
  | [v],_,h=>exact h 0 v y rfl rfl
 | a::b::l,hl,h=>
  have bA:vals.length≠1:=by rw[hl];simp
  rw[YC bA]
  simp only[oX]
  exact .bm (by simp[hl]) fun j v y hj hy=>h j v y (by simpa using hj) hy
theorem YF {l:List BS} {ds:List V} {j:Nat} {e:TypeId} {es:List V} {ar:List Nat} (h:(eB l ds)[j]? =some (.nest e es ar)) (k:Nat):bz ar k=0:=by
 obtain ⟨b,e6,_,U⟩:=HY h
 cases b<;>simp only[fw] at U<;>cases U
 match k with
 | 0=>rfl
 | 1=>rfl
 | 2=>rfl
 | _+3=>rfl
theorem YG {f n m:Nat} {fn:Func} {a:Act} {st:St} {es:List V} {rd:List Nat} (hm: ∀id blk,hp0 id=some blk→id<m) (iY: ∀id e es ar,hp0 id=some (.nest e es ar)→∀k,bz ar k=0)
  (hI:Inv P A.idle A.aE B M w0 μ hp0 n a w st) (oh:jU 0 (A.fZ f).bN=true) (aT:(A.fZ f).bN.length=fn.results.size) (h:(vn P A f fn m st).run C st.hp=some (es,rd)):
  ∃v I2 bY,(results fn a.tmps).run P w= .ok v w∧aF P w I2 bY (br (A.so f es) (A.lv f es)).hp B M w0∧kJ w0.w w0.I μ hp0 w I2 bY (br (A.so f es) (A.lv f es)).hp∧ao P w I2 bY (br (A.so f es) (A.lv f es)).hp v (oX (eW (A.so f es).bN (A.lv f es))):=by
 unfold vn at h
 obtain ⟨xs,l1,l2,h1,U⟩:=kF h
 obtain ⟨I,β,S,hA,hE⟩:=hI
 obtain ⟨vals,e1,e2,e3⟩:=YD S hA.sl h1
 have e4:fn.results.size=xs.length:=by
  obtain ⟨_,_,_,q,_⟩:=DQ S hA.sl h1
  simpa using q
 have fin: ∀(Sx:Shape) (es:List V),jU 0 Sx.bN=true→Sx.bN.length=fn.results.size→jl m Sx (canon m (List.range xs.length) (freeze m (A.sU f) ⟨iR (mJ 0 xs),st.hp,st.nb⟩))=some es→
   ∃v I2 bY,(results fn a.tmps).run P w= .ok v w∧aF P w I2 bY (br Sx es).hp B M w0∧kJ w0.w w0.I μ hp0 w I2 bY (br Sx es).hp∧ao P w I2 bY (br Sx es).hp v (oX (eW Sx.bN es)):=by
  intro Sx es oh aT tP
  have YH:iH P A.idle A.aE w I β vals.length ⟨vals.toArray,[]⟩ ⟨iR (mJ 0 xs),st.hp,st.nb⟩:=by
   refine ⟨fun k=> ?_,by simp,by simp,hA.aE⟩
   change ao P w I β st.hp _ (iR (mJ 0 xs) k)
   unfold iR
   rw[OY]
   simp only[kq,cF,Nat.sub_zero]
   cases hk:xs[k]? with
   | none=>exact .undef
   | some x=>
    have hX:k<vals.length:=by rw[e2];exact (bu.1 hk).1
    have:=e3 k vals[k] x (bM hX) hk
    have e5:(vals.toArray).getD k undef=vals[k]:=by simp[hX]
    rw[Option.getD_some]
    exact e5▸this
  obtain ⟨I2,k1,k2,k3⟩:=OH (st:=⟨iR (mJ 0 xs),st.hp,st.nb⟩) (m:=m) (pur:=A.sU f) S YH
  have YI:Inv P A.idle A.aE B M w0 μ hp0 vals.length ⟨vals.toArray,[]⟩ w (freeze m (A.sU f) ⟨iR (mJ 0 xs),st.hp,st.nb⟩):=⟨I2,β,k2,k3,hE.trans k1.Dw⟩
  obtain ⟨I3,O1,q1,q2,q3⟩:=(YI.canon (live:=List.range xs.length) hm iY).reshape tP hm
  refine ⟨tO vals,I3,O1,e1,q1,q3,YE (by rw[O0,aT,e4,e2]) fun j v y hj hy=> ?_⟩
  have hv:=q2.sl j
  have b9:=(bu.1 hj).1
  have e5:(vals.toArray).getD j undef=v:=by
   have:=(bu.1 hj).2
   simp[b9,this]
  change ao P w I3 O1 _ ((vals.toArray).getD j undef) (iR (eW Sx.bN _) j) at hv
  rw[e5] at hv
  unfold iR at hv
  rw[Il oh] at hv
  simp only[kq,cF,Nat.sub_zero] at hv
  rw[OZ] at hy
  rw[hy] at hv
  exact hv
 unfold cy.so cy.lv
 cases ca:A.alt f with
 | none=>
  rw[ca] at U
  simp only at U⊢
  split at U
  ·rename_i e6 tP
   have:=aM U
   subst this
   exact fin _ _ oh aT tP
  ·cases U
 | some S2=>
  rw[ca] at U
  simp only at U⊢
  split at U
  ·rename_i e6 tP
   have:=aM U
   subst this
   exact fin _ _ oh aT tP
  ·split at U
   ·rename_i e6 tP
    obtain ⟨hc,h3⟩:=aG U
    simp only[aK,aQ] at hc
    have:=aM h3
    subst this
    exact fin _ _ hc.1 hc.2 tP
   ·cases U
theorem YJ (hC:kK P A C) (hP:iG P A) (mV:P.follows .mixedOrders=true):kK P A (p7 P A C):=by
 intro f ds es h
 unfold p7 at h
 cases hf:P.funcs[A.ba f]? with
 | none=>rw[hf] at h;cases h
 | some fn=>
  rw[hf] at h
  simp only at h
  cases hb:fn.body with
  | none=>rw[hb] at h;cases h
  | some c=>
   rw[hb] at h
   simp only at h
   cases hc:(jU 0 (A.sin f).bN&&(Nat.ble (A.sin f).bN.length fn.ntmps&&((A.sin f).ok&&(jU 0 (A.fZ f).bN&&(Nat.beq (A.fZ f).bN.length fn.results.size&&p5 (nQ (A.sin f).bh.length (A.mv f))))))) with
   | false=>rw[hc] at h;cases h
   | true=>
    rw[hc] at h
    simp only[cond_true] at h
    simp only[aK,aQ,dm] at hc
    obtain ⟨j5,hnt,_,vY,aT,j7⟩:=hc
    obtain ⟨⟨out,st'⟩,h1,U⟩:=bind_some h
    refine ⟨fn,c,rfl,hb,fun w I μ vals hH YK hl hv=> ?_⟩
    have YL:(∀id,out≠ .exit id)∧∃rd,(vn P A f fn (A.sin f).bh.length st').run C st'.hp=some (es,rd):=by
     cases out with
     | exit id=>cases U
     | norm=>
      refine ⟨by simp,?_⟩
      simp only[yo] at U
      obtain ⟨⟨x,rd⟩,e1,e2⟩:=U
      simp only at e2
      subst e2
      exact ⟨rd,e1⟩
     | ret=>
      refine ⟨by simp,?_⟩
      simp only[yo] at U
      obtain ⟨⟨x,rd⟩,e1,e2⟩:=U
      simp only at e2
      subst e2
      exact ⟨rd,e1⟩
    obtain ⟨bA,rd,HP⟩:=YL
    refine calls_of_wp_defers hf hb ?_
    have hm: ∀id blk,(br (A.sin f) ds).hp id=some blk→id<(A.sin f).bh.length:=by
     intro id blk ab
     simp only[br,mk,gI] at ab
     have:=(bu.1 ab).1
     rwa [DP] at this
    have iY: ∀id e es ar,(br (A.sin f) ds).hp id=some (.nest e es ar)→∀k,bz ar k=0:=by
     intro id e es ar ab k
     simp only[br,mk,gI] at ab
     exact YF ab k
    refine Yz (w0:=⟨w,I⟩) (μ:=μ) (hp0:=(br (A.sin f) ds).hp) (B:=w.heap.size) (M:=oe P w μ (br (A.sin f) ds).hp) hC hP mV hm iY c h1 ?_ ?_
    ·refine Inv.enter j7 ?_ hm iY fun p hp=>by
      simp only[br,mk,gI]
      rw[List.getElem?_eq_none_iff,DP]
      exact hp
     refine ⟨I,μ,⟨hH,fun _ _ _=>rfl,bZ _,fun b h=> .inl h,⟨rfl,rfl⟩⟩,⟨fun k=> ?_,?_,by simp,YK⟩,(Le.refl (P:=P) w I μ _).Dw⟩
     ·change ao P w I μ _ _ (iR (eW (A.sin f).bN ds) k)
      unfold iR
      rw[Il j5]
      simp only[kq,cF,Nat.sub_zero]
      cases hk:(fg ((A.sin f).bN.map (·.2)) ds)[k]? with
      | none=>exact .undef
      | some x=>
       have hX:k<vals.length:=by
        have:=(bu.1 hk).1
        rw[Im,aP] at this
        rw[hl];exact this
       have:=hv k vals[k] x (bM hX) hk
       have e1:(vals.toArray++Array.replicate (fn.ntmps-vals.toArray.size) undef).getD k undef=vals[k]:=by
        simp[Array.getElem?_append,hX]
       rw[Option.getD_some]
       exact e1▸this
     ·simp
      omega
    ·intro a' w' hI
     obtain ⟨v,I2,bY,q1,q2,q3,q4⟩:=YG hm iY hI vY aT HP
     obtain ⟨_,_,_,hA,_⟩:=hI
     cases out with
     | exit id=>exact absurd rfl (bA id)
     | norm=>exact H5 hP q1 ⟨v,I2,bY,rfl,q2,q3,q4⟩ _ hA.defers
     | ret=>exact H5 hP q1 ⟨v,I2,bY,rfl,q2,q3,q4⟩ _ hA.defers
theorem O2 (hP:iG P A) (mV:P.follows .mixedOrders=true): ∀n,kK P A (la P A n)
 | 0=>fun _ _ _ h=>by cases h
 | n+1=>YJ (O2 hP mV n) hP mV
theorem YM (hP:iG P A) (mV:P.follows .mixedOrders=true):kK P A (Call P A):=by
 intro f ds es h
 have hn: ∃n,la P A n f ds=some es:=by
  unfold Call at h
  split at h
  ·rename_i hex
   have:=hex.choose_spec.choose_spec
   rw[c6 h] at this
   exact ⟨_,this⟩
  ·cases h
 obtain ⟨n,hn⟩:=hn
 exact O2 hP mV n f ds es hn
end
section
variable {P:Program} {A:cy} {C:ag} {D:Nat→ag}
def zM (C:ag) (D:Nat→ag):Prop:= ∀f a r,C f a=some r→∃n,∀k,n≤k→D k f a=some r
theorem ph {α:Type} (h:zM C D) {hp:Nat→Option an}: ∀{p:Rd α} {r:α × List Nat},p.run C hp=some r→∃n,∀k,n≤k→p.run (D k) hp=some r
 | .ret a,r,e=>⟨0,fun _ _=>e⟩
 | .fail,r,e=>by cases e
 | .get id q,r,e=>by
  obtain ⟨x,h1,U⟩:=bind_some e
  obtain ⟨n,hn⟩:=ph h h1
  exact ⟨n,fun k hk=>by simp only[Rd.run,hn k hk,Option.bind_some];exact U⟩
 | .opt o q,r,e=>by
  obtain ⟨x,h1,U⟩:=bind_some e
  obtain ⟨n,hn⟩:=ph h U
  exact ⟨n,fun k hk=>by simp only[Rd.run,h1,Option.bind_some];exact hn k hk⟩
 | .live id ok q,r,e=>by
  simp only[Rd.run] at e
  cases hk:ok (fL (hp id)) with
  | false=>rw[hk] at e;cases e
  | true=>
   rw[hk] at e
   obtain ⟨x,h1,U⟩:=bind_some e
   obtain ⟨n,hn⟩:=ph h h1
   exact ⟨n,fun k lZ=>by simp only[Rd.run,hk,cond_true,hn k lZ,Option.bind_some];exact U⟩
 | .aC b q,r,e=>by
  obtain ⟨h1,U⟩:=aG e
  obtain ⟨n,hn⟩:=ph h U
  exact ⟨n,fun k hk=>by simp only[Rd.run,h1,cond_true];exact hn k hk⟩
 | .call f a q,r,e=>by
  obtain ⟨x,h1,U⟩:=bind_some e
  obtain ⟨n1,j5⟩:=h f a x h1
  obtain ⟨n2,vY⟩:=ph h U
  exact ⟨max n1 n2,fun k hk=>by simp only[Rd.run,j5 k (by omega),Option.bind_some];exact vY k (by omega)⟩
 | .alt true x y,r,e=>ph (p:=x) h e
 | .alt false x y,r,e=>ph (p:=y) h e
theorem YN (h:zM C D) {n i nb:Nat} {ops:Array Oper} {o:Oper} {st:St} {r:St × List Nat × List Nat} (e:gy P A C n ops i o nb st=some r): ∃N,∀k,N≤k→gy P A (D k) n ops i o nb st=some r:=by
 unfold gy at e
 have go:(((fh P A st.sl i (nb+64*i) o).run C st.hp).bind fun r=>some ((⟨gV st.sl o.dst r.1.v,bJ st.hp r.1.upd,st.nb⟩:St),p6 r.2 r.1.upd,fx st.hp r.1.upd))=some r→
   ∃N,∀k,N≤k→(((fh P A st.sl i (nb+64*i) o).run (D k) st.hp).bind fun r=>some ((⟨gV st.sl o.dst r.1.v,bJ st.hp r.1.upd,st.nb⟩:St),p6 r.2 r.1.upd,fx st.hp r.1.upd))=some r:=by
  intro e
  obtain ⟨x,h1,U⟩:=bind_some e
  obtain ⟨N,hN⟩:=ph h h1
  exact ⟨N,fun k hk=>by rw[hN k hk];exact U⟩
 unfold gy
 cases hd:rA o n with
 | false=>rw[hd] at e;cases e
 | true=>
  rw[hd] at e
  simp only[cond_true] at e⊢
  cases hg:o.guard with
  | none=>rw[hg] at e;exact go e
  | some gw=>
   obtain ⟨g,want⟩:=gw
   rw[hg] at e
   simp only at e⊢
   cases lr:(ops[g]?).bind (·.dst) with
   | none=>rw[lr] at e;cases e
   | some d=>
    rw[lr] at e
    simp only at e⊢
    cases lY:kX (st.sl d) with
    | none=>rw[lY] at e;cases e
    | some ob=>
    rw[lY] at e
    cases ob with
    | none=>exact ⟨0,fun _ _=>e⟩
    | some b=>
    simp only at e⊢
    cases hb:b==want with
    | true=>rw[hb] at e;exact go e
    | false=>rw[hb] at e;exact ⟨0,fun _ _=>e⟩
theorem O3 (h:zM C D) {n nb:Nat} {ops:Array Oper}: ∀{l:List (Nat × Oper)} {st:St} {log:Log} {r:St × Log},oY P A C n ops nb l st log=some r→∃N,∀k,N≤k→oY P A (D k) n ops nb l st log=some r
 | [],st,log,r,e=>⟨0,fun _ _=>e⟩
 | (i,o)::l,st,log,r,e=>by
  obtain ⟨x,h1,U⟩:=bind_some e
  obtain ⟨N1,om⟩:=YN h h1
  obtain ⟨N2,qA⟩:=O3 h U
  exact ⟨max N1 N2,fun k hk=>by simp only[oY,om k (by omega),Option.bind_some];exact qA k (by omega)⟩
theorem O4 {X R:Type} {step:X→Option (X ⊕ R)} {stepD:Nat→X→Option (X ⊕ R)} (hs: ∀x y,step x=some y→∃N,∀k,N≤k→stepD k x=some y): ∀(n:Nat) (x:X) (r:R),ff step n x=some r→∃N,∀k,N≤k→ff (stepD k) n x=some r
 | 0,x,r,e=>by cases e
 | n+1,x,r,e=>by
  simp only[ff] at e⊢
  obtain ⟨y,h1,U⟩:=bind_some e
  obtain ⟨N1,om⟩:=hs x y h1
  cases y with
  | inl z=>
   obtain ⟨N2,qA⟩:=O4 hs n z r U
   exact ⟨max N1 N2,fun k hk=>by rw[om k (by omega)];exact qA k (by omega)⟩
  | inr q=>exact ⟨N1,fun k hk=>by rw[om k hk];exact U⟩
theorem YO (h:zM C D) {f n m:Nat}: ∀(c:Code) {st:St} {r:Out × St},exec P A C f n m c st=some r→∃N,∀k,N≤k→exec P A (D k) f n m c st=some r:=by
 intro c
 induction c with
 | skip=>exact fun e=>⟨0,fun _ _=>e⟩
 | exit id=>exact fun e=>⟨0,fun _ _=>e⟩
 | ret=>exact fun e=>⟨0,fun _ _=>e⟩
 | region id ops draw=>
  intro st r e
  simp only[exec] at e⊢
  obtain ⟨x,h1,U⟩:=bind_some e
  obtain ⟨y,h3,h4⟩:=bind_some h1
  obtain ⟨N,hN⟩:=O3 h h3
  refine ⟨N,fun k hk=> ?_⟩
  have:yP P (A.here f id) (D k) n ops draw st=some x:=by
   unfold yP
   rw[hN k hk]
   exact h4
  rw[this]
  exact U
 | seq x y iq iu=>
  intro st r e
  simp only[exec] at e⊢
  obtain ⟨⟨o,s1⟩,h1,U⟩:=bind_some e
  obtain ⟨N1,om⟩:=iq h1
  cases o with
  | norm=>
   obtain ⟨N2,qA⟩:=iu U
   exact ⟨max N1 N2,fun k hk=>by rw[om k (by omega)];exact qA k (by omega)⟩
  | exit id=>exact ⟨N1,fun k hk=>by rw[om k hk];exact U⟩
  | ret=>exact ⟨N1,fun k hk=>by rw[om k hk];exact U⟩
 | cond c x y iq iu=>
  intro st r e
  cases c with
  | tmp t=>
   have go: ∀{st:St} {r:Out × St},(match st.sl t with
     | .bool b=>(bif b then exec P A C f n m x st else exec P A C f n m y st).bind fun r=>
      match r.1 with
      | .norm=>some (.norm,canon m (A.join f t) r.2)
      | _=>some r
     | _=>none)=some r→∃N,∀k,N≤k→(match st.sl t with
     | .bool b=>(bif b then exec P A (D k) f n m x st else exec P A (D k) f n m y st).bind fun r=>
      match r.1 with
      | .norm=>some (.norm,canon m (A.join f t) r.2)
      | _=>some r
     | _=>none)=some r:=by
    intro st r e
    cases hs:st.sl t<;>rw[hs] at e<;>simp only at e⊢ <;>first|(cases e;done)|skip
    rename_i b
    obtain ⟨x1,h1,U⟩:=bind_some e
    cases b with
    | true=>
     obtain ⟨N,hN⟩:=iq h1
     exact ⟨N,fun k hk=>by simp only[cond_true,hN k hk,Option.bind_some];exact U⟩
    | false=>
     obtain ⟨N,hN⟩:=iu h1
     exact ⟨N,fun k hk=>by simp only[cond_false,hN k hk,Option.bind_some];exact U⟩
   simp only[exec] at e⊢
   split at e
   ·rename_i hS
    obtain ⟨N,hN⟩:=go e
    exact ⟨N,fun k hk=>hN k hk⟩
   ·rename_i S hS
    obtain ⟨ds,h1,U⟩:=bind_some e
    obtain ⟨e',h3,h4⟩:=bind_some U
    obtain ⟨r1,h5,h6⟩:=bind_some h3
    obtain ⟨N,hN⟩:=go h5
    refine ⟨N,fun k hk=> ?_⟩
    try rw[hS]
    simp only[h1,Option.bind_some]
    exact (congrArg (fun z:Option (Out × St)=>(z.bind fun r=>ways m 0 S.2 r).bind fun e=>lM 0 S.2 e.1 e.2 fun o st=>some (o,st)) (hN k hk)).trans (by simp only[Option.bind_some,h6];exact h4)
  | const v=>
   cases v with
   | bool b=>
    simp only[exec] at e⊢
    cases b with
    | true=>exact iq e
    | false=>exact iu e
   | _=>simp only[exec] at e;cases e
  | _=>simp only[exec] at e;cases e
 | block id c ih=>
  intro st r e
  simp only[exec] at e⊢
  obtain ⟨x1,h1,U⟩:=bind_some e
  obtain ⟨N,hN⟩:=ih h1
  exact ⟨N,fun k hk=>by rw[hN k hk];exact U⟩
 | loop c ih=>
  intro st r e
  simp only[exec] at e⊢
  split at e
  ·cases e
  ·rename_i S hS
   obtain ⟨ds,h1,U⟩:=bind_some e
   obtain ⟨e',h3,h4⟩:=bind_some U
   obtain ⟨q,hq⟩:=u7 h3
   obtain ⟨N,hN⟩:=O4 (stepD:=fun k ds=>mI m S.1 S.2 (exec P A (D k) f n m c (br S.1 ds))) (fun x y DR=>by
    unfold mI at DR⊢
    obtain ⟨z,h5,h6⟩:=bind_some DR
    obtain ⟨N,hN⟩:=ih h5
    exact ⟨N,fun k hk=>by rw[hN k hk];exact h6⟩) q ds e' hq
   refine ⟨N,fun k hk=> ?_⟩
   try rw[hS]
   simp only[h1,Option.bind_some]
   rw[yv (hN k hk)]
   exact h4
 | _=>intro st r e;simp only[exec] at e;cases e
theorem Io (h:zM C D) {f:Nat} {ds es:List V} (e:p7 P A C f ds=some es): ∃N,∀k,N≤k→p7 P A (D k) f ds=some es:=by
 unfold p7 at e⊢
 cases hf:P.funcs[A.ba f]? with
 | none=>rw[hf] at e;cases e
 | some fn=>
  rw[hf] at e
  simp only at e⊢
  cases hb:fn.body with
  | none=>rw[hb] at e;cases e
  | some c=>
   rw[hb] at e
   simp only at e⊢
   cases hc:(jU 0 (A.sin f).bN&&(Nat.ble (A.sin f).bN.length fn.ntmps&&((A.sin f).ok&&(jU 0 (A.fZ f).bN&&(Nat.beq (A.fZ f).bN.length fn.results.size&&p5 (nQ (A.sin f).bh.length (A.mv f))))))) with
   | false=>rw[hc] at e;cases e
   | true=>
    rw[hc] at e
    simp only[cond_true] at e⊢
    obtain ⟨⟨o,s1⟩,h1,U⟩:=bind_some e
    obtain ⟨N1,om⟩:=YO h c h1
    cases o with
    | exit id=>cases U
    | norm=>
     simp only[yo] at U
     obtain ⟨x,e1,e2⟩:=U
     obtain ⟨N2,qA⟩:=ph h e1
     exact ⟨max N1 N2,fun k hk=>by rw[om k (by omega)];simp only[Option.bind_some,qA k (by omega),Option.map_some,e2]⟩
    | ret=>
     simp only[yo] at U
     obtain ⟨x,e1,e2⟩:=U
     obtain ⟨N2,qA⟩:=ph h e1
     exact ⟨max N1 N2,fun k hk=>by rw[om k (by omega)];simp only[Option.bind_some,qA k (by omega),Option.map_some,e2]⟩
theorem O5: ∀n f a r,la P A n f a=some r→la P A (n+1) f a=some r
 | 0,f,a,r,h=>by cases h
 | n+1,f,a,r,h=>by
  obtain ⟨N,hN⟩:=Io (C:=la P A n) (D:=fun _=>la P A (n+1)) (fun f a r h=>⟨0,fun _ _=>O5 n f a r h⟩) h
  exact hN N (bZ _)
theorem Ip {n k:Nat} (hk:n≤k) {f:Nat} {a r:List V} (h:la P A n f a=some r):la P A k f a=some r:=by
 induction hk with
 | refl=>exact h
 | step _ ih=>exact O5 _ _ _ _ ih
theorem DS {f:Nat} {a r:List V}:Call P A f a=some r↔∃n,la P A n f a=some r:=by
 constructor
 ·intro h
  unfold Call at h
  split at h
  ·rename_i hex
   have:=hex.choose_spec.choose_spec
   rw[c6 h] at this
   exact ⟨_,this⟩
  ·cases h
 ·rintro ⟨n,hn⟩
  have hex: ∃n r,la P A n f a=some r:=⟨n,r,hn⟩
  unfold Call
  rw[qZ hex]
  have U:=hex.choose_spec.choose_spec
  have h3:=Ip (Nat.le_max_left n hex.choose) hn
  have h4:=Ip (Nat.le_max_right n hex.choose) U
  rw[h3] at h4
  exact h4.symm
theorem YP (f:Nat) (a:List V):Call P A f a=p7 P A (Call P A) f a:=by
 apply Option.ext
 intro r
 constructor
 ·intro h
  obtain ⟨n,hn⟩:=DS.1 h
  cases n with
  | zero=>cases hn
  | succ n=>
   obtain ⟨N,hN⟩:=Io (C:=la P A n) (D:=fun _=>Call P A) (fun f a r h=>⟨0,fun _ _=>DS.2 ⟨n,h⟩⟩) hn
   exact hN N (bZ _)
 ·intro h
  obtain ⟨N,hN⟩:=Io (C:=Call P A) (D:=la P A) (fun f a r h=>by
   obtain ⟨n,hn⟩:=DS.1 h
   exact ⟨n,fun k hk=>Ip hk hn⟩) h
  exact DS.2 ⟨N+1,hN N (bZ _)⟩
end
end Go.AM
namespace Go.AM
open Go.ChangeShapes Go.WideShapes Go.RowKit
section
variable (P:Program)
inductive WT:TypeId→V→Prop
 | int {t:TypeId} {k:IntKind} {n:Int}:P.underlying t=some (.int k)→(Lit.int k n).wf=true→WT t (.int k n)
 | bool {t:TypeId} {b:Bool}:P.underlying t=some .bool→WT t (.bool b)
 | str {t:TypeId} {l:List UInt8}:P.underlying t=some .string→l.length≤maxLen→WT t (.str l)
 | list {t e:TypeId} {es:List V}:P.underlying t=some (.slice e)→es.length≤maxLen→
   (∀(i:Nat) x,es[i]? =some x→bI P e=true→∃xs,x= .agg xs∧xs.length=(aR P e).length)→
   (∀(i j:Nat) x t',es[i]? =some x→(aR P e)[j]? =some t'→WT t' (bK P e x j))→WT t (.list e es)
def jL (t:TypeId) (x:V):Prop:=
 (bI P t=true→∃xs,x= .agg xs∧xs.length=(aR P t).length)∧∀(j:Nat) t',(aR P t)[j]? =some t'→WT P t' (bK P t x j)
def pL:List TypeId→List V→Prop
 | [],[]=>True
 | t::ts,x::xs=>jL P t x∧pL ts xs
 | _,_=>False
def hasB (L:List TypeId) (t:TypeId):Bool:=L.any fun u=>Nat.beq u t
def DT (L:List TypeId):Nat→List Field→Bool
 | _,[]=>true
 | n,f::fs=>hasB L f.type&&(Nat.beq f.offset n&&(Nat.beq (P.cellsOf f.type) (aR P f.type).length&&DT L (n+P.cellsOf f.type) fs))
def zN:List Nat→List Nat→Bool
 | [],[]=>true
 | a::l,b::m=>Nat.beq a b&&zN l m
 | _,_=>false
def Iq (L:List TypeId) (t:TypeId):Bool:=
 Nat.beq (P.cellsOf t) (aR P t).length&&
 match P.underlying t with
 | some (.int _)=>true
 | some .bool=>true
 | some .string=>true
 | some (.slice e)=>hasB L e&&cI P e
 | some (.struct fs)=>DT P L 0 fs.toList&&zN (flat P t) (fs.toList.flatMap fun f=>aR P f.type)
 | some (.array n e)=>hasB L e&&(Nat.beq (P.cellsOf e) (aR P e).length&&zN (flat P t) (List.replicate n (aR P e)).flatten)
 | _=>false
def zO (L:List TypeId):Bool:=L.all fun t=>Iq P L t
end
theorem DU {L:List TypeId} {t:TypeId} (h:hasB L t=true):t∈L:=by
 obtain ⟨u,hu,U⟩:=nJ.1 h
 rw[aQ] at U
 exact U▸hu
theorem Ir: ∀{l m:List Nat},zN l m=true→l=m
 | [],[],_=>rfl
 | a::l,b::m,h=>by
  simp only[zN,aK,aQ] at h
  rw[h.1,Ir h.2]
 | [],_::_,h=>by cases h
 | _::_,[],h=>by cases h
section
variable {P:Program} {H:Type} {enc:TypeId × Value→H} {w:World} {base:Nat} {spare:Nat→Bool} {held:Bool} {L:List TypeId}
def mW (w:World):Nat→Prop:=fun b=>b<w.heap.size
def mX (P:Program) (w:World) (ts:List TypeId) (cs:List Value) (xs:List V):Prop:=
 cs.length=ts.length∧xs.length=ts.length∧∀(j:Nat) t',ts[j]? =some t'→∃v y,cs[j]? =some v∧xs[j]? =some y∧Pure P w (mW w) t' v y∧WT P t' y
theorem mX.app {ts vh:List TypeId} {cs hU:List Value} {xs O6:List V} (h:mX P w ts cs xs) (h':mX P w vh hU O6):mX P w (ts++vh) (cs++hU) (xs++O6):=by
 obtain ⟨a,b,c⟩:=h
 obtain ⟨a',b',c'⟩:=h'
 refine ⟨by simp[a,a'],by simp[b,b'],fun j t' hj=> ?_⟩
 by_cases aO:j<ts.length
 ·rw[ij aO] at hj
  obtain ⟨v,y,e1,e2,e3⟩:=c j t' hj
  exact ⟨v,y,by rw[ij (by omega)];exact e1,by rw[ij (by omega)];exact e2,e3⟩
 ·rw[ik (by omega)] at hj
  obtain ⟨v,y,e1,e2,e3⟩:=c' _ t' hj
  exact ⟨v,y,by rw[ik (by omega),a];exact e1,by rw[ik (by omega),b];exact e2,e3⟩
theorem YQ {w:World} {a:Addr} {v:Value} (h:w.cell? a=some v):a.spot=none∧a.block<w.heap.size:=by
 unfold World.cell? at h
 split at h
 ·rename_i hh
  split at h
  ·cases h
  ·rename_i hs
   exact ⟨by simpa using hs,(gS.1 hh).1⟩
 all_goals (first|cases h|skip)
theorem O7 {rd:TypeId→List Value→Option (DataW H × List MemPlace)} (cs:List Value)
  (ih: ∀t cs x,t∈L→rd t cs=some x→∃xs,mX P w (aR P t) cs xs): ∀(fs:List Field) (n:Nat),DT P L n fs=true→
  (∀f∈fs,∃x,rd f.type ((cs.drop f.offset).take (P.cellsOf f.type))=some x)→∃m xs,n≤m∧mX P w (fs.flatMap fun f=>aR P f.type) ((cs.drop n).take (m-n)) xs∧m-n=(fs.flatMap fun f=>aR P f.type).length
 | [],n,_,_=>⟨n,[],bZ _,⟨by simp,rfl,by simp⟩,by simp⟩
 | f::fs,n,h,hx=>by
  simp only[DT,aK,aQ] at h
  obtain ⟨h1,U,h3,h4⟩:=h
  obtain ⟨x,YR⟩:=hx f (by simp)
  obtain ⟨xs,gf⟩:=ih _ _ _ (DU h1) YR
  obtain ⟨m,ys,hm,qB,Ia⟩:=O7 cs ih fs (n+P.cellsOf f.type) h4 fun g hg=>hx g (by simp[hg])
  refine ⟨m,xs++ys,by omega,?_,by simp only[kV,bU];omega⟩
  have:=gf.app qB
  rw[kV]
  rw[U] at this
  have e:(cs.drop n).take (m-n)=(cs.drop n).take (P.cellsOf f.type)++(cs.drop (n+P.cellsOf f.type)).take (m-(n+P.cellsOf f.type)):=by
   rw[show m-n=P.cellsOf f.type+(m-(n+P.cellsOf f.type)) by omega,List.take_add,pQ]
  rw[e]
  exact this
theorem O8 {rd:List Value→Option (DataW H × List MemPlace)} (cs:List Value) {e:TypeId} (hs:P.cellsOf e=(aR P e).length)
  (ih: ∀cs x,rd cs=some x→∃xs,mX P w (aR P e) cs xs): ∀(n:Nat),
  (∀i,i<n→∃x,rd ((cs.drop (i*P.cellsOf e)).take (P.cellsOf e))=some x)→∃xs,mX P w (List.replicate n (aR P e)).flatten (cs.take (n*P.cellsOf e)) xs
 | 0,_=>⟨[],by simp,rfl,by simp⟩
 | n+1,hx=>by
  obtain ⟨xs,gf⟩:=O8 cs hs ih n fun i hi=>hx i (by omega)
  obtain ⟨x,zH⟩:=hx n (by omega)
  obtain ⟨ys,qB⟩:=ih _ _ zH
  refine ⟨xs++ys,?_⟩
  rw[List.replicate_succ',List.flatten_append]
  have:=gf.app qB
  rw[df,Nat.one_mul,List.take_add]
  simpa using this
theorem DV (hL:zO P L=true): ∀(fuel:Nat) (t:TypeId) (cs:List Value) (x:DataW H × List MemPlace),t∈L→DataW.trod enc P w base spare held fuel t cs=some x→
  ∃xs,mX P w (aR P t) cs xs
 | 0,_,_,_,_,h=>by cases h
 | fuel+1,t,cs,x,ht,h=>by
  have hg:=fe.1 hL t ht
  unfold Iq at hg
  rw[aK,aQ] at hg
  obtain ⟨hc,hg⟩:=hg
  have one:bI P t=false→aR P t=[t]:=fun h=>by simp[aR,h]
  cases hu:P.underlying t with
  | none=>rw[hu] at hg;cases hg
  | some d=>
   rw[hu] at hg
   cases d with
   | int k=>
    obtain ⟨n,rfl,rfl,zP⟩:=DataW.trod_int hu h
    rw[one (by simp[bI,hu])]
    exact ⟨[.int k n],rfl,rfl,fun j t' hj=>by
     cases j with
     | zero=>cases hj;exact ⟨_,_,rfl,rfl,.int hu,.int hu zP⟩
     | succ j=>simp at hj⟩
   | bool=>
    obtain ⟨b,rfl,rfl⟩:=DataW.trod_bool hu h
    rw[one (by simp[bI,hu])]
    exact ⟨[.bool b],rfl,rfl,fun j t' hj=>by
     cases j with
     | zero=>cases hj;exact ⟨_,_,rfl,rfl,.bool hu,.bool hu⟩
     | succ j=>simp at hj⟩
   | string=>
    obtain ⟨s,rfl,rfl,hl⟩:=DataW.trod_string hu h
    rw[one (by simp[bI,hu])]
    exact ⟨[.str s.data.toList],rfl,rfl,fun j t' hj=>by
     cases j with
     | zero=>cases hj;exact ⟨_,_,rfl,rfl,.str hu rfl,.str hu (by simpa using hl)⟩
     | succ j=>simp at hj⟩
   | slice e=>
    simp only[aK] at hg
    obtain ⟨he,au⟩:=hg
    rw[one (by simp[bI,hu])]
    have single: ∀v y,cs=[v]→Pure P w (mW w) t v y→WT P t y→∃xs,mX P w [t] cs xs:=by
     rintro v y rfl a b
     exact ⟨[y],rfl,rfl,fun j t' hj=>by
      cases j with
      | zero=>cases hj;exact ⟨_,_,rfl,rfl,a,b⟩
      | succ j=>simp at hj⟩
    rcases DataW.trod_slice hu h with ⟨rfl,rfl⟩|⟨a,len,cap,elems,rest,n,hn,rfl,rfl,hb,hl,hm,hlen,cK,_,_⟩
    ·exact single _ _ rfl (.nil hu) (.list hu (by simp) (by simp) (by simp))
    ·cases hn
     have lb:=(jX au).2
     have M0:P.cellsOf e=(aR P e).length:=(fj au).symm
     have key: ∀i,i<len→∃hU xs,w.cells? base (a.add (i*P.cellsOf e)) (P.cellsOf e)=some hU∧mX P w (aR P e) hU xs:=by
      intro i hi
      have h1:=cK i hi
      rw[bM (by omega)] at h1
      obtain ⟨hU,U,h3⟩:=Option.bind_eq_some_iff.1 h1
      obtain ⟨xs,gf⟩:=DV hL fuel e hU _ (DU he) h3
      exact ⟨hU,xs,U,gf⟩
     by_cases h0:len=0
     ·subst h0
      exact single _ _ rfl (.emp hu) (.list hu (by simp) (by simp) (by simp))
     ·have gG:a.spot=none∧a.block<w.heap.size:=by
       obtain ⟨hU,xs,U,_⟩:=key 0 (by omega)
       obtain ⟨_,h3,h4⟩:=World.cells?_some U
       have h5:=h4 0 lb
       rw[bM (by omega)] at h5
       have:=YQ h5
       simpa[Addr.add] using this
      have hF: ∃(F:Nat→List Value) (X:Nat→List V),∀i,i<len→w.cells? base (a.add (i*P.cellsOf e)) (P.cellsOf e)=some (F i)∧mX P w (aR P e) (F i) (X i):=by
       refine ⟨fun i=>if hi:i<len then (key i hi).choose else [],fun i=>if hi:i<len then (key i hi).choose_spec.choose else [],fun i hi=> ?_⟩
       simp only[qZ hi]
       exact (key i hi).choose_spec.choose_spec
      obtain ⟨F,X,Is⟩:=hF
      have hx: ∀(i j:Nat) y t',((List.range len).map fun i=>cm P e (X i))[i]? =some y→(aR P e)[j]? =some t'→i<len∧∃v,(F i)[j]? =some v∧Pure P w (mW w) t' v (bK P e y j)∧WT P t' (bK P e y j):=by
       intro i j y t' hy hj
       have hi:i<len:=by
        have:=(bu.1 hy).1
        simpa using this
       refine ⟨hi,?_⟩
       simp[List.getElem?_range hi] at hy
       obtain ⟨c1,c2,c3⟩:=(Is i hi).2
       obtain ⟨v,z,d1,d2,d3,d4⟩:=c3 j t' hj
       have:bK P e y j=z:=by
        rw[←hy]
        unfold bK cm
        cases ha:bI P e with
        | true=>
         simp only[cond_true,V.cell]
         rw[tj _ _ _ d2]
        | false=>
         simp only[cond_false]
         have:aR P e=[e]:=by simp[aR,ha]
         rw[this] at hj
         cases j with
         | zero=>rw[tj _ _ _ d2]
         | succ j=>simp at hj
       rw[this]
       exact ⟨v,d1,d3,d4⟩
      have fN: ∀i j,i<len→j<P.cellsOf e→w.cell? ⟨a.block,a.off+(i*P.cellsOf e+j),none⟩=some ((F i).getD j undef):=by
       intro i j hi hj
       obtain ⟨h1,U⟩:=Is i hi
       obtain ⟨_,h3,h4⟩:=World.cells?_some h1
       have h5:=h4 j hj
       rw[Go.Deep.add_add] at h5
       have e1:a.add (i*P.cellsOf e+j)=⟨a.block,a.off+(i*P.cellsOf e+j),none⟩:=by
        obtain ⟨b,o,s⟩:=a
        simp only at gG
        rw[gG.1]
        exact mN ..
       rw[e1] at h5
       rw[h5,jO,bM (by omega)]
       rfl
      have ha:a=⟨a.block,a.off,none⟩:=by
       obtain ⟨b,o,s⟩:=a
       simp only at gG
       rw[gG.1]
      refine single (.slice (some a) len cap) (.list e ((List.range len).map fun i=>cm P e (X i))) rfl ?_ ?_
      ·rw[ha]
       refine .list (fun i j=>(F i).getD j undef) hu (by simp) hl (fun _=>gG.2) fN ?_
       intro i j y t' hy hj
       obtain ⟨hi,v,d1,d2,_⟩:=hx i j y t' hy hj
       rw[jO,d1]
       exact d2
      ·refine .list hu (by simp;omega) ?_ ?_
       ·intro i y hy DW
        have hi:i<len:=by
         have:=(bu.1 hy).1
         simpa using this
        simp[List.getElem?_range hi] at hy
        rw[←hy]
        exact ⟨X i,by simp[cm,DW],(Is i hi).2.2.1⟩
       ·intro i j y t' hy hj
        obtain ⟨_,v,_,_,d3⟩:=hx i j y t' hy hj
        exact d3
   | struct fs=>
    simp only[aK] at hg
    obtain ⟨xs,n,hn,rfl,hlen,lW,hx⟩:=DataW.trod_struct hu h
    cases hn
    have het:aR P t=fs.toList.flatMap fun f=>aR P f.type:=by
     rw[←Ir hg.2]
     simp[aR,bI,hu]
    obtain ⟨m,ys,_,qB,hm⟩:=O7 (w:=w) (rd:=fun t cs=>DataW.trod enc P w base spare held fuel t cs) cs (fun t cs x a b=>DV hL fuel t cs x a b) fs.toList 0 hg.1 (by
     intro f hf
     obtain ⟨i,hi⟩:=rf hf
     rw[rh] at hi
     have qq:i<fs.size:=(gS.1 hi).1
     exact ⟨_,(hx i f hi).trans (bM (by omega))⟩)
    rw[het]
    refine ⟨ys,?_⟩
    have:(cs.drop 0).take (m-0)=cs:=by
     rw[iO,hm,←het,←hc,←hlen,pN]
    rw[this] at qB
    exact qB
   | array n e=>
    simp only[aK,aQ] at hg
    obtain ⟨xs,m,hn,rfl,hlen,lW,hx⟩:=DataW.trod_array hu h
    cases hn
    have het:aR P t=(List.replicate n (aR P e)).flatten:=by
     rw[←Ir hg.2.2]
     simp[aR,bI,hu]
    obtain ⟨ys,qB⟩:=O8 (w:=w) (rd:=DataW.trod enc P w base spare held fuel e) cs hg.2.1 (fun cs x b=>DV hL fuel e cs x (DU hg.1) b) n (by
     intro i hi
     exact ⟨_,(hx i hi).trans (bM (by omega))⟩)
    rw[het]
    refine ⟨ys,?_⟩
    have:cs.take (n*P.cellsOf e)=cs:=by
     have:n*P.cellsOf e=cs.length:=by
      rw[hlen,hc,het,hg.2.1]
      simp
     rw[this,pN]
    rw[this] at qB
    exact qB
   | _=>cases hg
end
section
variable {P:Program} {H:Type} {enc:TypeId × Value→H} {w:World} {L:List TypeId}
theorem YS {base It:Nat} {spare:Nat→Bool} {held:Bool} {r:Reach} {β:Nat→Option Nat} {hp:Nat→Option an} (hL:zO P L=true) {t:TypeId} {v:Value} {d:DataW H} {ps:List MemPlace} (ht:t∈L) (eM:Value.okWide P w r It t v)
  (h:DataW.Trod enc P w base spare held t v d ps): ∃x,ao P w (mW w) β hp v x∧jL P t x:=by
 obtain ⟨fuel,hf⟩:=h
 obtain ⟨xs,c1,c2,c3⟩:=DV hL fuel t _ _ ht hf
 have hg:=fe.1 hL t ht
 unfold Iq at hg
 rw[aK,aQ] at hg
 obtain ⟨_,hg⟩:=hg
 have DW:bI P t=true→∃x,ao P w (mW w) β hp v x∧jL P t x:=by
  intro ha
  have hv: ∃cs,v= .agg cs:=by
   unfold Value.okWide at eM
   unfold bI at ha
   split at eM
   ·obtain ⟨cs,e,_⟩:=eM;exact ⟨cs,e⟩
   ·obtain ⟨cs,e,_⟩:=eM;exact ⟨cs,e⟩
   ·split at ha<;>simp_all
  obtain ⟨cs,rfl⟩:=hv
  refine ⟨.agg xs,.agg (by simpa[Value.cells] using c1.trans c2.symm) fun j v x hv hx=> ?_,fun _=>⟨xs,rfl,c2⟩,fun j t' hj=> ?_⟩
  ·have hj:j<(aR P t).length:=by rw[←c2];exact (bu.1 hx).1
   obtain ⟨v',y,e1,e2,e3,_⟩:=c3 j _ (bM hj)
   rw[hx] at e2
   cases e2
   have:cs[j]? =some v':=by simpa[Value.cells] using e1
   rw[hv] at this
   cases this
   exact .p9 e3
  ·obtain ⟨v',y,e1,e2,_,e4⟩:=c3 j t' hj
   have:bK P t (.agg xs) j=y:=by
    simp only[bK,ha,cond_true,V.cell]
    exact tj _ _ _ e2
   rw[this]
   exact e4
 have qn:bI P t=false→v.cells= #[v]→∃x,ao P w (mW w) β hp v x∧jL P t x:=by
  intro ha tt
  have he:aR P t=[t]:=by simp[aR,ha]
  rw[he] at c1 c2 c3
  obtain ⟨v',y,e1,e2,e3,e4⟩:=c3 0 t rfl
  rw[tt] at e1
  cases e1
  refine ⟨y,.p9 e3,⟨fun h=>absurd (ha.symm.trans h) (by simp),fun j t' hj=> ?_⟩⟩
  rw[he] at hj
  cases j with
  | succ j=>simp at hj
  | zero=>
   cases hj
   simpa[bK,ha] using e4
 unfold Value.okWide at eM
 cases hu:P.underlying t with
 | none=>rw[hu] at hg;cases hg
 | some YT=>
  rw[hu] at hg eM
  cases YT with
  | int k=>
   refine qn (by simp[bI,hu]) ?_
   simp only[Cell.okWide,Cell.ok,hu] at eM
   cases v<;>first|rfl|(simp at eM;done)|exact eM.elim
  | bool=>
   refine qn (by simp[bI,hu]) ?_
   simp only[Cell.okWide,Cell.ok,hu] at eM
   cases v<;>first|rfl|(simp at eM;done)|exact eM.elim
  | string=>
   refine qn (by simp[bI,hu]) ?_
   simp only[Cell.okWide,Cell.ok,hu] at eM
   cases v<;>first|rfl|(simp at eM;done)|exact eM.elim
  | slice e=>
   refine qn (by simp[bI,hu]) ?_
   simp only[Cell.okWide,Cell.ok,hu] at eM
   cases v<;>first|rfl|(simp at eM;done)|exact eM.elim
  | struct fs=>exact DW (by simp[bI,hu])
  | array n e=>exact DW (by simp[bI,hu])
  | _=>cases hg
theorem O9 {base It:Nat} {spare:Nat→Bool} {held:Bool} {r:Reach} {β:Nat→Option Nat} {hp:Nat→Option an} (hL:zO P L=true): ∀{ts:List TypeId} {vs:List Value} {ds:List (DataW H)} {ps:List MemPlace},
  (∀t∈ts,t∈L)→(∀(j:Nat) t v,ts[j]? =some t→vs[j]? =some v→Value.okWide P w r It t v)→DataW.TrodAll enc P w base spare held ts vs ds ps→
  ∃xs,vs.length=xs.length∧(∀(j:Nat) v x,vs[j]? =some v→xs[j]? =some x→ao P w (mW w) β hp v x)∧pL P ts xs
 | [],vs,ds,ps,_,_,h=>by
  obtain ⟨rfl,rfl,rfl⟩:=trodAll_nil h
  exact ⟨[],rfl,by simp,trivial⟩
 | t::ts,vs,ds,ps,hm,eM,h=>by
  obtain ⟨v,CD,d,Pb,a,b,rfl,rfl,rfl,h1,U⟩:=trodAll_cons h
  obtain ⟨x,zH,o6⟩:=YS (β:=β) (hp:=hp) hL (hm t (by simp)) (eM 0 t v rfl rfl) h1
  obtain ⟨xs,hl,hr,hw⟩:=O9 (β:=β) (hp:=hp) hL (fun t ht=>hm t (by simp[ht])) (fun j t v a b=>eM (j+1) t v (by simpa using a) (by simpa using b)) U
  refine ⟨x::xs,by simp[hl],fun j v' x' hv hx=> ?_,o6,hw⟩
  cases j with
  | zero=>cases hv;cases hx;exact zH
  | succ j=>exact hr j v' x' (by simpa using hv) (by simpa using hx)
theorem Pc {base:Nat} {spare:Nat→Bool} {held:Bool}: ∀{ts:List TypeId} {vs:List Value} {ds:List (DataW H)} {ps:List MemPlace},DataW.TrodAll enc P w base spare held ts vs ds ps→ds.length=ts.length
 | [],vs,ds,ps,h=>by obtain ⟨rfl,rfl,rfl⟩:=trodAll_nil h;rfl
 | t::ts,vs,ds,ps,h=>by
  obtain ⟨v,CD,d,Pb,a,b,rfl,rfl,rfl,h1,U⟩:=trodAll_cons h
  simp[Pc U]
theorem Pd {base:Nat} (hl:laidOutB P=true) {W W':World} {Pe:Nat→Bool}: ∀{ts:List TypeId} {vs:List Value} {ds:List (DataW H)} {ps:List MemPlace},(∀t∈ts,P.readableRec t=true∧t<P.types.size)→
  DataW.TrodAll enc P W base (fun _=>true) true ts vs ds ps→(∀p∈ps,W.sameAt W' p)→(∀p∈ps,Pe p.block=true)→DataW.TrodAll enc P W' base Pe true ts vs ds ps
 | [],vs,ds,ps,_,h,_,_=>by obtain ⟨rfl,rfl,rfl⟩:=trodAll_nil h;exact trodAll_mk0
 | t::ts,vs,ds,ps,hr,h,h1,U=>by
  obtain ⟨v,CD,d,Pb,a,b,rfl,rfl,rfl,h3,h4⟩:=trodAll_cons h
  obtain ⟨r1,r2⟩:=hr t (by simp)
  exact trodAll_cons_mk (WideElems.Trod_stays hl r1 r2 h3 (fun p hp=>h1 p (by simp[hp])) (fun p hp=>U p (by simp[hp])))
   (Pd hl (fun t ht=>hr t (by simp[ht])) h4 (fun p hp=>h1 p (by simp[hp])) (fun p hp=>U p (by simp[hp])))
theorem YU {f:Func} {s:ChangeSpec} {apart fresh handsOn again:Bool} {W W':World} {args:Array Value} {v:Value} {ds gs:List (DataW H)} {before pa pv:List MemPlace}
  (hW:DataW.Whole enc P f.params.toList s.vars apart W args.toList ds gs before)
  (Pf: ∀(b:Nat) (sp:Nat→Bool) (hd:Bool),DataW.TrodAll enc P W' b sp hd f.resultTypes.toList (v.resultList f.resultTypes.size) (s.fn H (ds++gs)).results [])
  (tJ: ∀sp:Nat→Bool,(∀p∈before,sp p.block=true)→DataW.TrodAll enc P W' 0 sp true f.params.toList args.toList (s.fn H (ds++gs)).args pa)
  (Pg: ∀sp:Nat→Bool,(∀p∈before,sp p.block=true)→DataW.TrodVars enc P W' sp s.vars (s.fn H (ds++gs)).vars pv)
  (DX:before=pa++pv) (hk:W.keptBut W' (· ∈before)) (Iu: ∀a:Addr,a.block<W.heap.size→W'.frozen? a=W.frozen? a)
  (au: ∀(j:Nat) (t:TypeId) (r:Value),f.resultTypes[j]? =some t→(v.resultList f.resultTypes.size)[j]? =some r→Value.okWide P W' .any 0 t r):
  s.post enc P f apart fresh handsOn again W args v W':=by
 have hold: ∀p∈before,(fun b=>decide (b<W.heap.size)) p.block=true:=fun p hp=>by simpa using hW.lt p hp
 refine ⟨ds,gs,before,[],pa,pv,hW,Pf _ _ _,tJ _ hold,Pg _ hold,World.keptBut_mono (fun p hp=>⟨hp,?_⟩) hk,fun _=> ?_⟩
 ·rw[DX,ey] at hp
  exact Or.inr hp
 ·have aO:=hW.lt
  obtain ⟨_,_,_,_,_,hz,hn⟩:=hW
  refine ⟨au,_,_,([]++pa)++pv,⟨[]++pa,pv,trodAll_append (tJ _ (fun _ _=>rfl)) (Pf _ _ _),Pg _ (fun _ _=>rfl),rfl,?_,?_⟩,?_⟩
  ·intro b off hp
   have hb:MemPlace.cell b off∈before:=by rw[DX];simpa using hp
   rw[Iu ⟨b,off,none⟩ (aO _ hb)]
   exact hz b off hb
  ·intro ha
   have:=hn ha
   rw[DX] at this
   simpa using this
  ·intro p hp _
   rw[DX]
   simpa using hp
theorem YV {A:cy} (hP:iG P A) (mV:P.follows .mixedOrders=true) {f key:Nat} {fn:Func} {tb:TypeId} {s:ChangeSpec} {apart fresh handsOn again:Bool}
  (hf:P.funcs[f]? =some fn) (Iv:A.ba key=f) (hL:zO P L=true) (bQ:fn.params.toList.all (fun t=>hasB L t)=true) (DY:fn.resultTypes= #[tb]) (DZ:P.underlying tb=some .bool) (D0:s.vars=[])
  (hs: ∀ds:List (DataW H),ds.length=fn.params.toList.length→s.fn H ds={results:=[.lit (.bool true)],args:=ds})
  (Iw:laidOutB P=true) (Ix:fn.params.toList.all (fun t=>P.readableRec t&&Nat.blt t P.types.size)=true)
  (lj:(A.sin key).bh=[]) (au:((A.sin key).bN.map (·.2)).all (VS.ok 0)=true) (Iy:(A.fZ key).bN=[(0,.one .bool)]) (halt:A.alt key=none)
  {W:World} {base:Nat} {args:Array Value} {ds gs:List (DataW H)} {before:List MemPlace}
  (Iz:fW P A.aE W (mW W)) (eM: ∀(j:Nat) t v,fn.params[j]? =some t→args[j]? =some v→Value.okWide P W .any base t v)
  (hW:DataW.Whole enc P fn.params.toList s.vars apart W args.toList ds gs before) (Q:List V→Prop)
  (hQ: ∀xs:List V,pL P fn.params.toList xs→(∀(j:Nat) v x,args.toList[j]? =some v→xs[j]? =some x→ao P W (mW W) (fun _=>none) (fun _=>none) v x)→Q xs)
  (IA: ∀xs,pL P fn.params.toList xs→Q xs→∃ds,pM ((A.sin key).bN.map (·.2)) xs=some ds∧Call P A key ds=some [.bool true]):
  Calls P f args W fun e W'=> ∃v,e= .returned v∧s.post enc P fn apart fresh handsOn again W args v W':=by
 have Ph:=hW
 obtain ⟨p,q,hA,hV,rfl,Iu,j7⟩:=hW
 rw[D0] at hV
 obtain ⟨YW,hq⟩:gs=[]∧q=[]:=by
  cases gs with
  | nil=>exact ⟨rfl,hV⟩
  | cons g gs=>exact hV.elim
 subst YW
 subst hq
 obtain ⟨xs,hl,hr,Pj⟩:=O9 (β:=fun _=>none) (hp:=fun _=>none) hL (fun t ht=>DU (fe.1 bQ t ht)) (fun j t v a b=>eM j t v (by simpa using a) (by simpa using b)) hA
 obtain ⟨ls,YX,zD⟩:=IA xs Pj (hQ xs Pj hr)
 obtain ⟨fn',c,h1,U,h3⟩:=YM (A:=A) hP mV key ls [.bool true] zD
 rw[Iv] at h1 h3
 rw[hf] at h1
 cases h1
 have v8: ∀j,(br (A.sin key) ls).hp j=none:=fun j=>by simp[br,mk,lj,eB,jk]
 obtain ⟨_,r1,r2⟩:=zr (P:=P) (w:=W) (I:=mW W) (n:=0) (β:=fun _=>none) (β':=fun _=>none) (hp:=fun _=>none) (hp':=(br (A.sin key) ls).hp) (fun j hj=>absurd hj (Nat.not_lt_zero j)) YX au
 have hlen:((A.sin key).bN.map (·.2)).length=xs.length:=by rw[←r1 [],Im]
 have h4:=h3 W (mW W) (fun _=>none) args.toList ⟨fun id blk h=>(by rw[v8] at h;cases h),fun id aD blk blk' b h=>(by rw[v8] at h;cases h),fun id blk b h=>(by rw[v8] at h;cases h),fun b h=>h⟩ Iz
  (by rw[hl,←hlen,aP]) (fun j v y hv hy=>r2 [] j v y (fun x hx=>hr j v x hv hx) (by rw[cU];exact hy))
 have ea:args.toList.toArray=args:=by simp
 rw[ea] at h4
 refine h4.mono fun e W' ⟨v,I2,bY,he,ha⟩=>⟨v,he,?_⟩
 have tn: ∀b,b<W.heap.size→W'.heap[b]? =W.heap[b]? :=fun b hb=>ha.vT.b8 b hb (by rintro ⟨j,blk,hj,_⟩;rw[v8] at hj;cases hj)
 have Hz:=ha.res
 have Pk:A.so key [.bool true]=A.fZ key∧A.lv key [.bool true]=[.bool true]:=by unfold cy.so cy.lv;rw[halt];exact ⟨rfl,rfl⟩
 rw[Pk.1,Pk.2,Iy] at Hz
 obtain rfl:v= .bool true:=Hz.jY
 have ln:Value.okWide P W' .any 0 tb (.bool true):=by simp[Value.okWide,DZ,Cell.okWide,Cell.ok]
 have kR:ds.length=fn.params.toList.length:=Pc hA
 have iF: ∀p'∈p++[],W.sameAt W' p':=by
  intro p' hp'
  have aO:=Ph.lt p' hp'
  cases p' with
  | cell b o=>exact World.cell?_of_block (w:=W) (tn b aO)
  | map b=>exact tn b aO
 refine YU (pa:=p) (pv:=[]) Ph ?_ ?_ ?_ rfl ?_ ?_ ?_
 ·intro b sp hd
  rw[cU,hs ds kR,DY]
  exact trodAll_mk1 ⟨1,by simp[DataW.trod,Value.cells,DZ]⟩
 ·intro sp gG
  rw[cU,hs ds kR]
  refine Pd Iw (fun t ht=> ?_) hA (fun p' hp'=>iF p' (by simpa using hp')) (fun p' hp'=>gG p' (by simpa using hp'))
  have:=fe.1 Ix t ht
  simp only[aK] at this
  exact ⟨this.1,by simpa[jM] using this.2⟩
 ·intro sp gG
  rw[D0,cU,hs ds kR]
  exact rfl
 ·refine ⟨ha.vT.io.1,ha.vT.io.2,fun i hi=> ?_⟩
  rw[tn i hi]
  split<;>simp_all
 ·intro a aO
  exact World.frozen?_of_block (w:=W) (tn a.block aO)
 ·intro j t r hj IB
  rw[DY] at hj IB
  cases j with
  | zero=>
   simp[Value.resultList] at hj IB
   subst hj
   subst IB
   exact ln
  | succ j=>simp at hj
theorem Vq {A:cy} (hP:iG P A) (mV:P.follows .mixedOrders=true) {f key:Nat} {fn:Func} {tb:TypeId} {s:ChangeSpec} {apart fresh handsOn again:Bool}
  (hf:P.funcs[f]? =some fn) (Iv:A.ba key=f) (hL:zO P L=true) (bQ:fn.params.toList.all (fun t=>hasB L t)=true) (DY:fn.resultTypes= #[tb]) (DZ:P.underlying tb=some .bool) (D0:s.vars=[])
  (hs: ∀ds:List (DataW H),ds.length=fn.params.toList.length→s.fn H ds={results:=[.lit (.bool true)],args:=ds})
  (Iw:laidOutB P=true) (Ix:fn.params.toList.all (fun t=>P.readableRec t&&Nat.blt t P.types.size)=true)
  (lj:(A.sin key).bh=[]) (au:((A.sin key).bN.map (·.2)).all (VS.ok 0)=true) (Iy:(A.fZ key).bN=[(0,.one .bool)]) (halt:A.alt key=none)
  (IA: ∀xs,pL P fn.params.toList xs→∃ds,pM ((A.sin key).bN.map (·.2)) xs=some ds∧Call P A key ds=some [.bool true])
  {W:World} {base:Nat} {args:Array Value} {ds gs:List (DataW H)} {before:List MemPlace}
  (Iz:fW P A.aE W (mW W)) (eM: ∀(j:Nat) t v,fn.params[j]? =some t→args[j]? =some v→Value.okWide P W .any base t v)
  (hW:DataW.Whole enc P fn.params.toList s.vars apart W args.toList ds gs before):
  Calls P f args W fun e W'=> ∃v,e= .returned v∧s.post enc P fn apart fresh handsOn again W args v W':=
 YV hP mV hf Iv hL bQ DY DZ D0 hs Iw Ix lj au Iy halt Iz eM hW (fun _=>True) (fun _ _ _=>trivial) fun xs h _=>IA xs h
end
end Go.AM
namespace Go.AM
@[simp] theorem V.toInt_int (k:IntKind) (n:Int):V.toInt (.int k n)=n:=by cases k<;>rfl
@[simp] theorem V.ek (b:Bool):V.toBool (.bool b)=b:=by cases b<;>rfl
@[simp] theorem V.D1 (s:List UInt8):V.toStr (.str s)=s:=by cases s<;>rfl
@[simp] theorem V.j8 (e:TypeId) (es:List V):V.toList (.list e es)=es:=by cases es<;>rfl
@[simp] theorem V.ahA (e:TypeId) (es:List V):V.toList (.own e es)=es:=by cases es<;>rfl
@[simp] theorem V.YY (cs:List V) (j:Nat):V.cell (.agg cs) j=V.nth cs j:=by cases cs<;>rfl
@[simp] theorem V.ahB (cs:List V) (j:Nat):V.comp (.bm cs) j=V.nth cs j:=by cases cs<;>rfl
@[simp] theorem V.aU (x:V) (l:List V):V.nth (x::l) 0=x:=by cases l<;>rfl
@[simp] theorem V.qC (x:V) (l:List V) (n:Nat):V.nth (x::l) (n+1)=V.nth l n:=by cases l<;>rfl
@[simp] theorem V.ahC (x y:V) (l:List V):V.nth (x::y::l) 1=y:=by cases l<;>rfl
@[simp] theorem V.ahD (x y z:V) (l:List V):V.nth (x::y::z::l) 2=z:=by cases l<;>rfl
@[simp] theorem V.ahE (x y z u:V) (l:List V):V.nth (x::y::z::u::l) 3=u:=by cases l<;>rfl
theorem wrap64 {x:Int} (h1: -9223372036854775808≤x) (U:x<9223372036854775808):IntKind.wrap .i64 x=x:=by
 rw[IntKind.wrap_i64];omega
theorem D2 {x:Int} (h1:0≤x) (U:x<256):IntKind.wrap .u8 x=x:=by
 rw[IntKind.wrap_u8];omega
@[simp] theorem IC (es:List V) (n:Nat):idx es (n:Int)=es[n]? :=by simp[idx]
@[simp] theorem az {α:Type} (p:Prop) [Decidable p] (a b:α):(bif decide p then a else b)=if p then a else b:=by by_cases h:p<;>simp[h]
@[simp] theorem db {α:Type} (m n:Int) (a b:α):(bif m==n then a else b)=if m=n then a else b:=by
 by_cases h:m=n
 ·simp[h]
 ·have:(m==n)=false:=by simp[h]
  rw[this,ai h];rfl
@[simp] theorem rT {α:Type} (m n:Int) (a b:α):(bif m != n then a else b)=if m=n then b else a:=by
 by_cases h:m=n
 ·simp[h]
 ·have:(m != n)=true:=by simp[h]
  rw[this,ai h];rfl
@[simp] theorem gJ {α:Type} (c:Bool) (a b:α):(bif !c then a else b)=bif c then b else a:=by cases c<;>rfl
@[simp] theorem zQ {α:Type} (m n:Nat) (a b:α):(bif Nat.ble m n then a else b)=if m≤n then a else b:=by
 cases hb:Nat.ble m n with
 | true=>rw[aj (Nat.le_of_ble_eq_true hb)];rfl
 | false=>
  rw[ai fun h=> ?_]
  ·rfl
  ·rw[Nat.ble_eq_true_of_le h] at hb;cases hb
@[simp] theorem cO {α:Type} (c d:Bool) (a b:α):(bif c&&d then a else b)=bif c then (bif d then a else b) else b:=by cases c<;>rfl
section
variable {P:Program}
def Pl (P : Program) : Bool := P.funcs.all fun fn => !(fn.name == "runtime.NumGoroutine")
theorem Vk (h:Pl P=true):yc P:=by
 intro f fn hf
 unfold Pl at h
 have:=(Array.all_eq_true_iff_forall_mem.1 h) fn (Array.mem_of_getElem? hf)
 simpa using this
theorem L0 {t:TypeId} {ts:List TypeId} {xs:List V} (h:pL P (t::ts) xs): ∃x ys,xs=x::ys∧jL P t x∧pL P ts ys:=by
 cases xs with
 | nil=>exact h.elim
 | cons x ys=>exact ⟨x,ys,rfl,h.1,h.2⟩
theorem Vm {xs:List V} (h:pL P [] xs):xs=[]:=by
 cases xs with
 | nil=>rfl
 | cons x ys=>exact h.elim
theorem jL.one {t:TypeId} {x:V} (ha:bI P t=false) (h:jL P t x):WT P t x:=by
 have he:aR P t=[t]:=by simp[aR,ha]
 have:=h.2 0 t (by rw[he];rfl)
 simpa[bK,ha] using this
theorem WT.dI {t:TypeId} {k:IntKind} {x:V} (hu:P.underlying t=some (.int k)) (h:WT P t x): ∃n,x= .int k n∧k.min≤n∧n≤k.max:=by
 cases h with
 | int h1 U=>
  rw[hu] at h1
  cases h1
  simp only[Lit.wf,aK,dW] at U
  exact ⟨_,rfl,U⟩
 | bool h1=>rw[hu] at h1;cases h1
 | str h1=>rw[hu] at h1;cases h1
 | list h1=>rw[hu] at h1;cases h1
theorem WT.jY {t:TypeId} {x:V} (hu:P.underlying t=some .bool) (h:WT P t x): ∃b,x= .bool b:=by
 cases h with
 | int h1=>rw[hu] at h1;cases h1
 | bool h1=>exact ⟨_,rfl⟩
 | str h1=>rw[hu] at h1;cases h1
 | list h1=>rw[hu] at h1;cases h1
theorem WT.lP {t:TypeId} {x:V} (hu:P.underlying t=some .string) (h:WT P t x): ∃s,x= .str s∧s.length≤maxLen:=by
 cases h with
 | int h1=>rw[hu] at h1;cases h1
 | bool h1=>rw[hu] at h1;cases h1
 | str h1 U=>exact ⟨_,rfl,U⟩
 | list h1=>rw[hu] at h1;cases h1
theorem WT.YZ {t e:TypeId} {x:V} (hu:P.underlying t=some (.slice e)) (h:WT P t x): ∃es,x= .list e es∧es.length≤maxLen∧∀y∈es,jL P e y:=by
 cases h with
 | int h1=>rw[hu] at h1;cases h1
 | bool h1=>rw[hu] at h1;cases h1
 | str h1=>rw[hu] at h1;cases h1
 | list h1 U h3 h4=>
  rw[hu] at h1
  cases h1
  refine ⟨_,rfl,U,fun y hy=> ?_⟩
  obtain ⟨i,hi⟩:=rf hy
  exact ⟨h3 i y hi,fun j t' hj=>h4 i j y t' hi hj⟩
theorem jL.kG {t:TypeId} {x:V} (ha:bI P t=true) (h:jL P t x): ∃xs,x= .agg xs∧xs.length=(aR P t).length∧∀(j:Nat) t' y,(aR P t)[j]? =some t'→xs[j]? =some y→WT P t' y:=by
 obtain ⟨xs,rfl,hl⟩:=h.1 ha
 refine ⟨xs,rfl,hl,fun j t' y hj hy=> ?_⟩
 have:=h.2 j t' hj
 simp only[bK,ha,cond_true,V.YY] at this
 rw[tj _ _ _ hy] at this
 exact this
theorem Pm {α:Type} {f:α→V} {p:α→Prop}: ∀{es:List V},(∀y∈es,∃a,y=f a∧p a)→∃l:List α,es=l.map f∧∀a∈l,p a
 | [],_=>⟨[],rfl,by simp⟩
 | y::es,h=>by
  obtain ⟨a,rfl,ha⟩:=h y (by simp)
  obtain ⟨l,rfl,hl⟩:=Pm (f:=f) (p:=p) (es:=es) fun z hz=>h z (by simp[hz])
  exact ⟨a::l,rfl,by
   intro b hb
   rcases dg.1 hb with rfl|hb
   ·exact ha
   ·exact hl b hb⟩
theorem jL.int {t:TypeId} {x:V} (hu:P.underlying t=some (.int .i64)) (h:jL P t x): ∃n,x= .int .i64 n∧IntKind.min .i64≤n∧n≤IntKind.max .i64:=
 (h.one (by simp[bI,hu])).dI hu
theorem jL.str {t:TypeId} {x:V} (hu:P.underlying t=some .string) (h:jL P t x): ∃s,x= .str s∧s.length≤maxLen:=
 (h.one (by simp[bI,hu])).lP hu
end
def un.{u} {A B:Type} {γ:Sort u} (f:A→B→γ) (p:A × B):γ:=f p.1 p.2
def cq {A B γ:Type} (f:A→γ) (g:B→γ):A ⊕ B→γ
 | .inl a=>f a
 | .inr b=>g b
def aw:List Nat→Code→Code
 | [],c=>c
 | 0::p,.seq a _=>aw p a
 | _::p,.seq _ b=>aw p b
 | 0::p,.cond _ a _=>aw p a
 | _::p,.cond _ _ b=>aw p b
 | _::p,.block _ c=>aw p c
 | _::p,.loop c=>aw p c
 | _,c=>c
inductive ct where
 | loop (c:Code)
 | cond (t:Nat) (x y:Code)
section
variable (P:Program) (A:cy) (C:ag) (L:cz) (f n m:Nat)
def pj:Code→List ct
 | .seq a b=>pj a++pj b
 | .cond (.tmp t) x y=>
  match A.gT f (t*16+15) with
  | none=>pj x++pj y
  | some _=>[.cond t x y]
 | .cond (.const _) x y=>pj x++pj y
 | .block _ c=>pj c
 | .loop c=>[.loop c]
 | _=>[]
def cv:ct→Prop
 | .loop c=>
  match A.gT f (keyOf c+1) with
  | none=>True
  | some S=> ∀(β:Type) ds (k:Nat→List V→Option β),L β (keyOf c+1) ds k=(Loop (stepG P A C f n m S c) ds).bind fun r=>k r.1 r.2
 | .cond t x y=>
  match A.gT f (t*16+15) with
  | none=>True
  | some S=> ∀(β:Type) ds (k:Nat→List V→Option β),L β (t*16+15) ds k=(yQ P A C f n m t S x y ds).bind fun r=>k r.1 r.2
def mY:List ct→Prop
 | []=>True
 | b::l=>cv P A C L f n m b∧mY l
variable {P A C L f n m}
theorem mY.left {a b:List ct}:mY P A C L f n m (a++b)→mY P A C L f n m a:=by
 induction a with
 | nil=>exact fun _=>trivial
 | cons x a ih=>exact fun h=>⟨h.1,ih h.2⟩
theorem mY.right {a b:List ct}:mY P A C L f n m (a++b)→mY P A C L f n m b:=by
 induction a with
 | nil=>exact fun h=>h
 | cons x a ih=>exact fun h=>ih h.2
theorem bq: ∀{c:Code} {bs:List ct},pj A f c=bs→mY P A C L f n m bs→gZ P A C L f n m c:=by
 intro c
 induction c with
 | seq a b GL GM=>
  intro bs h hb
  subst h
  exact ⟨GL rfl hb.left,GM rfl hb.right⟩
 | cond c x y iq iu=>
  intro bs h hb
  subst h
  cases c with
  | tmp t=>
   simp only[pj] at hb
   simp only[gZ]
   cases hs:A.gT f (t*16+15) with
   | none=>
    rw[hs] at hb
    exact ⟨iq rfl hb.left,iu rfl hb.right⟩
   | some S=>
    rw[hs] at hb
    have:=hb.1
    simp only[cv,hs] at this
    exact this
  | const v=>exact ⟨iq rfl hb.left,iu rfl hb.right⟩
  | _=>trivial
 | block id c ih=>
  intro bs h hb
  subst h
  exact ih rfl hb
 | loop c ih=>
  intro bs h hb
  subst h
  exact hb.1
 | _=>intro bs h hb;trivial
variable (P A C L f n m) in
noncomputable def ID {β:Type} (t:Nat) (S:Shape × List (Out × Shape)) (x y:Code) (ds:List V) (k:Nat→List V→Option β):Option β:=
 let kc:Out→St→Option β:=fun o st=>
  match o with
  | .norm=>(ways m 0 S.2 (.norm,canon m (A.join f t) st)).bind fun e=>k e.1 e.2
  | o=>(ways m 0 S.2 (o,st)).bind fun e=>k e.1 e.2
 match (br S.1 ds).sl t with
 | .bool b=>bif b then gY P A C L f n m x (br S.1 ds) kc else gY P A C L f n m y (br S.1 ds) kc
 | _=>none
theorem Y0 {t:Nat} {x y:Code} {S:Shape × List (Out × Shape)} (hS:A.gT f (t*16+15)=some S) (hx:gZ P A C L f n m x) (hy:gZ P A C L f n m y) {I R:Type} (enc:I→List V) (l8:I→R→Nat × List V)
  (de:List V→I) (body:I→(β:Type)→(R→Option β)→Option β) (tQ: ∀ds,br S.1 (enc (de ds))=br S.1 ds)
  (e1: ∀i (β:Type) (k:Nat→List V→Option β),ID P A C L f n m t S x y (enc i) k=body i β (fun r=>k (l8 i r).1 (l8 i r).2))
  (hl: ∀(β:Type) ds (k:Nat→List V→Option β),L β (t*16+15) ds k=body (de ds) β (fun r=>k (l8 (de ds) r).1 (l8 (de ds) r).2)):
  cv P A C L f n m (.cond t x y):=by
 simp only[cv,hS]
 intro β ds k
 rw[hl,←e1]
 unfold ID yQ
 rw[tQ]
 simp only
 have hk: ∀(z:Option (Out × St)),(z.bind fun r=>(match r.1 with
   | .norm=>(ways m 0 S.2 (.norm,canon m (A.join f t) r.2)).bind fun e=>k e.1 e.2
   | o=>(ways m 0 S.2 (o,r.2)).bind fun e=>k e.1 e.2))=((z.bind fun r=>
   match r.1 with
   | .norm=>some (Out.norm,canon m (A.join f t) r.2)
   | _=>some r).bind fun r=>ways m 0 S.2 r).bind fun r=>k r.1 r.2:=by
  intro z
  cases z with
  | none=>rfl
  | some r=>obtain ⟨o,st⟩:=r;cases o<;>rfl
 cases (br S.1 ds).sl t with
 | bool b=>
  cases b with
  | true=>simp only[cond_true,CA P A C f n m x hx];exact hk _
  | false=>simp only[cond_false,CA P A C f n m y hy];exact hk _
 | _=>rfl
theorem bD {b:ct} {l:List ct} (h:cv P A C L f n m b) (U:mY P A C L f n m l):mY P A C L f n m (b::l):=⟨h,U⟩
theorem ax:mY P A C L f n m []:=trivial
theorem bc {key:Nat} {bs:List ct} (hb:pj A key (cJ P (A.ba key))=bs) (ht:mY P A (Call P A) L key (cL P (A.ba key)) (A.sin key).bh.length bs) {ds:List V} {r:Option (List V)}
  (h:GN P A (Call P A) L key ds=r):Call P A key ds=r:=by
 rw[YP,Vw P A (Call P A) key (bq hb ht),h]
end
inductive LK where
 | int (k:IntKind)
 | bool
 | str
 | list (e:TypeId)
 | nat
def LK.Ty:LK→Type
 | .int _=>Int
 | .bool=>Bool
 | .str=>List UInt8
 | .list _=>List V
 | .nat=>Nat
def LK.enc:(k:LK)→k.Ty→V
 | .int k,n=> .int k n
 | .bool,b=> .bool b
 | .str,s=> .str s
 | .list e,l=> .list e l
 | .nat,n=>dX n
def LK.dec:(k:LK)→V→k.Ty
 | .int _,v=>v.toInt
 | .bool,v=>v.toBool
 | .str,v=>v.toStr
 | .list _,v=>v.toList
 | .nat,v=>kA v
theorem LK.Pn: ∀(k:LK) (x:k.Ty),k.dec (k.enc x)=x
 | .int _,_=>rfl
 | .bool,_=>rfl
 | .str,_=>rfl
 | .list _,_=>rfl
 | .nat,_=>rfl
def IE:List Nat→List LK
 | []=>[]
 | _::l=> .nat::IE l
def LS.ks:LS→List LK
 | .int k=>[.int k]
 | .bool=>[.bool]
 | .str=>[.str]
 | .list e=>[.list e]
 | .sub .. =>[.nat,.nat]
 | .ptr _=>[.nat,.nat]
 | .row _ _ cs=>IE cs
 | .cx _ cs _=> .nat::IE cs
 | _=>[]
def v9:List LS→List LK
 | []=>[]
 | l::ls=>l.ks++v9 ls
def VS.ks:VS→List LK
 | .one l=>l.ks
 | .agg ls=>v9 ls
 | .bm ls=>v9 ls
 | .fn _ a b=>v9 a++v9 b
 | .pref _ ls=>v9 ls
def Po:List VS→List LK
 | []=>[]
 | l::ls=>l.ks++Po ls
def BS.ks:BS→List LK
 | .var _ cs=>Po cs
 | .arr e _=>[.list e]
 | .nest e=>[.list e]
 | .dead=>[]
 | .map t=>[.list t]
def Pp:List (Nat × VS)→List LK
 | []=>[]
 | p::l=>p.2.ks++Pp l
def Pq:List BS→List LK
 | []=>[]
 | b::l=>b.ks++Pq l
def Shape.ks (S:Shape):List LK:=Pp S.bN++Pq S.bh
def IF:List Nat→List V→List V
 | [],_=>[]
 | _::cs,ds=>dX (kA (V.nth ds 0))::IF cs (ds.drop 1)
def LS.norm:LS→List V→List V
 | .int k,ds=>[.int k (V.nth ds 0).toInt]
 | .bool,ds=>[.bool (V.nth ds 0).toBool]
 | .str,ds=>[.str (V.nth ds 0).toStr]
 | .list e,ds=>[.list e (V.nth ds 0).toList]
 | .sub ..,ds=>[dX (kA (V.nth ds 0)),dX (kA (V.nth ds 1))]
 | .ptr _,ds=>[dX (kA (V.nth ds 0)),dX (kA (V.nth ds 1))]
 | .row _ _ cs,ds=>IF cs ds
 | .cx _ cs _,ds=>dX (kA (V.nth ds 0))::IF cs (ds.drop 1)
 | _,_=>[]
def wa:List LS→List V→List V
 | [],_=>[]
 | l::ls,ds=>l.norm ds++wa ls (ds.drop l.size)
def VS.norm:VS→List V→List V
 | .one l,ds=>l.norm ds
 | .agg ls,ds=>wa ls ds
 | .bm ls,ds=>wa ls ds
 | .fn _ a b,ds=>wa a ds++wa b (ds.drop (jS a))
 | .pref _ ls,ds=>wa ls ds
def Pr:List VS→List V→List V
 | [],_=>[]
 | l::ls,ds=>l.norm ds++Pr ls (ds.drop l.size)
def BS.norm:BS→List V→List V
 | .var _ cs,ds=>Pr cs ds
 | .arr e _,ds=>[.list e (V.nth ds 0).toList]
 | .nest e,ds=>[.list e (V.nth ds 0).toList]
 | .dead,_=>[]
 | .map t,ds=>[.list t (V.nth ds 0).toList]
def Ps:List (Nat × VS)→List V→List V
 | [],_=>[]
 | p::l,ds=>p.2.norm ds++Ps l (ds.drop p.2.size)
def Pt:List BS→List V→List V
 | [],_=>[]
 | b::l,ds=>b.norm ds++Pt l (ds.drop b.size)
def Shape.norm (S:Shape) (ds:List V):List V:=Ps S.bN ds++Pt S.bh (ds.drop (nP S.bN))
def tR:LK→List LK→Type
 | k,[]=>k.Ty
 | k,k'::ks=>k.Ty × tR k' ks
def j9:List LK→Type
 | []=>Unit
 | k::ks=>tR k ks
def tS:(k:LK)→(ks:List LK)→tR k ks→List V
 | k,[],x=>[k.enc x]
 | k,k'::ks,x=>k.enc x.1::tS k' ks x.2
def kM:(ks:List LK)→j9 ks→List V
 | [],_=>[]
 | k::ks,x=>tS k ks x
def zR:(k:LK)→(ks:List LK)→List V→tR k ks
 | k,[],l=>k.dec (V.nth l 0)
 | k,k'::ks,l=>(k.dec (V.nth l 0),zR k' ks l.tail)
def oo:(ks:List LK)→List V→j9 ks
 | [],_=>()
 | k::ks,l=>zR k ks l
theorem Pu: ∀(k:LK) (ks:List LK) (x:tR k ks) (r:List V),zR k ks (tS k ks x++r)=x
 | k,[],x,r=>LK.Pn k x
 | k,k'::ks,x,r=>by
  show (k.dec (k.enc x.1),zR k' ks (tS k' ks x.2++r))=x
  rw[LK.Pn,Pu k' ks]
  rfl
def wc:List LK→Type 1→Type 1
 | [],R=>R
 | k::ks,R=>k.Ty→wc ks R
def Pv:(k:LK)→(ks:List LK)→{R:Type 1}→wc (k::ks) R→tR k ks→R
 | _,[],_,f,x=>f x
 | _,k'::ks,_,f,x=>Pv k' ks (f x.1) x.2
def tT:(ks:List LK)→{R:Type 1}→wc ks R→j9 ks→R
 | [],_,f,_=>f
 | k::ks,_,f,x=>Pv k ks f x
def we {α:Type} (b:Bool):List Bool→List α→List α
 | [],_=>[]
 | _,[]=>[]
 | c::m,x::l=>bif c==b then x::we b m l else we b m l
def merge:List Bool→List V→List V→List V
 | [],_,_=>[]
 | true::m,i,x=>V.nth x 0::merge m i x.tail
 | false::m,i,x=>V.nth i 0::merge m i.tail x
def wg:List Nat→List LK→List LK
 | [],_=>[]
 | _,[]=>[]
 | 0::t,k::ks=>k::wg t ks
 | (_+1)::t,_::ks=>wg t ks
abbrev fl:=List Nat × List LK
def fl.fresh (w:fl):List LK:=wg w.1 w.2
def put:List Nat→List V→List V→List V
 | [],_,_=>[]
 | 0::t,ds,x=>V.nth x 0::put t ds x.tail
 | (j+1)::t,ds,x=>V.nth ds j::put t ds x
def tU:List Nat→List V→List V
 | [],_=>[]
 | 0::t,l=>V.nth l 0::tU t l.tail
 | (_+1)::t,l=>tU t l.tail
def rU:fl→List fl→Type
 | w,[]=>j9 w.fresh
 | w,w'::ws=>j9 w.fresh ⊕ rU w' ws
def qD:List fl→Type
 | []=>Empty
 | w::ws=>rU w ws
def wN (ds:List V) {β:Type} (k:Nat→List V→Option β):Nat→(w:fl)→(ws:List fl)→rU w ws→Option β
 | j,w,[],r=>k j (put w.1 ds (kM w.fresh r))
 | j,w,w'::ws,r=>cq (fun x=>k j (put w.1 ds (kM w.fresh x))) (fun y=>wN ds k (j+1) w' ws y) r
def wT (ds:List V) {β:Type} (k:Nat→List V→Option β):(ws:List fl)→qD ws→Option β
 | [],r=>Empty.elim r
 | w::ws,r=>wN ds k 0 w ws r
def oq (ds:List V):Nat→(w:fl)→(ws:List fl)→rU w ws→Nat × List V
 | j,w,[],r=>(j,put w.1 ds (kM w.fresh r))
 | j,w,_::_,.inl x=>(j,put w.1 ds (kM w.fresh x))
 | j,_,w'::ws,.inr y=>oq ds (j+1) w' ws y
def wh (ds:List V):(ws:List fl)→qD ws→Nat × List V
 | [],r=>Empty.elim r
 | w::ws,r=>oq ds 0 w ws r
theorem Pw (ds:List V) {β:Type} (k:Nat→List V→Option β): ∀(j:Nat) (w:fl) (ws:List fl) (r:rU w ws),wN ds k j w ws r=k (oq ds j w ws r).1 (oq ds j w ws r).2
 | _,_,[],_=>rfl
 | _,_,_::_,.inl _=>rfl
 | j,_,w'::ws,.inr y=>Pw ds k (j+1) w' ws y
theorem D3 (ds:List V) {β:Type} (k:Nat→List V→Option β): ∀(ws:List fl) (r:qD ws),wT ds k ws r=k (wh ds ws r).1 (wh ds ws r).2
 | [],r=>Empty.elim r
 | w::ws,r=>Pw ds k 0 w ws r
def wi:Nat→(w:fl)→(ws:List fl)→List V→rU w ws
 | _,w,[],l=>oo w.fresh (tU w.1 l)
 | 0,w,_::_,l=> .inl (oo w.fresh (tU w.1 l))
 | j+1,_,w'::ws,l=> .inr (wi j w' ws l)
def Px (j:Nat):(ws:List fl)→List V→Option (qD ws)
 | [],_=>none
 | w::ws,l=>some (wi j w ws l)
def wj:List Nat→List V→List V
 | [],_=>[]
 | 0::t,x=>V.nth x 0::wj t x.tail
 | (_+1)::t,x=>wj t x
theorem IG: ∀(t:List Nat) (ds x:List V),tU t (put t ds x)=wj t x
 | [],_,_=>rfl
 | 0::t,ds,x=>congrArg (V.nth x 0:: ·) (IG t ds x.tail)
 | (_+1)::t,ds,x=>IG t ds x
theorem IH: ∀(t:List Nat) (ks:List LK) (k:LK) (bL:List LK),wg t ks=k::bL→∀x:tR k bL,∃r,wj t (tS k bL x)=tS k bL x++r
 | [],_,_,_,h,_=>by cases h
 | _::_,[],_,_,h,_=>by simp[wg] at h
 | 0::t,a::ks,k,bL,h,x=>by
  simp only[wg,List.cons.injEq] at h
  obtain ⟨rfl,U⟩:=h
  cases bL with
  | nil=>exact ⟨wj t [],rfl⟩
  | cons k' bL=>
   obtain ⟨r,hr⟩:=IH t ks k' bL U x.2
   exact ⟨r,congrArg (a.enc x.1:: ·) hr⟩
 | (_+1)::t,a::ks,k,bL,h,x=>IH t ks k bL h x
theorem Py (w:fl) (ds:List V) (x:j9 w.fresh):oo w.fresh (tU w.1 (put w.1 ds (kM w.fresh x)))=x:=by
 rw[IG]
 revert x
 generalize hf:w.fresh=f
 cases f with
 | nil=>intro x;rfl
 | cons k ks=>
  intro x
  obtain ⟨r,hr⟩:=IH w.1 w.2 k ks hf x
  show zR k ks (wj w.1 (tS k ks x))=x
  rw[hr]
  exact Pu k ks x r
theorem Pz (ds:List V): ∀(j:Nat) (w:fl) (ws:List fl) (r:rU w ws),j≤(oq ds j w ws r).1
 | _,_,[],_=>bZ _
 | _,_,_::_,.inl _=>bZ _
 | j,_,w'::ws,.inr y=>kS (Nat.le_succ j) (Pz ds (j+1) w' ws y)
theorem Y1 (w:fl) (l:List V): ∀j,wi j w [] l=oo w.fresh (tU w.1 l)
 | 0=>rfl
 | _+1=>rfl
theorem PA (ds:List V): ∀(j:Nat) (w:fl) (ws:List fl) (r:rU w ws),wi ((oq ds j w ws r).1-j) w ws (oq ds j w ws r).2=r
 | j,w,[],r=>(Y1 w _ _).trans (Py w ds r)
 | j,w,w'::ws,.inl x=>by
  show wi (j-j) w (w'::ws) (put w.1 ds (kM w.fresh x))= .inl x
  rw[Nat.sub_self]
  exact congrArg Sum.inl (Py w ds x)
 | j,w,w'::ws,.inr y=>by
  have h1:=Pz ds (j+1) w' ws y
  have U:=PA ds (j+1) w' ws y
  show wi ((oq ds (j+1) w' ws y).1-j) w (w'::ws) (oq ds (j+1) w' ws y).2= .inr y
  obtain ⟨d,hd⟩: ∃d,(oq ds (j+1) w' ws y).1=j+1+d:=⟨(oq ds (j+1) w' ws y).1-(j+1),by omega⟩
  rw[hd] at U⊢
  rw[show j+1+d-(j+1)=d by omega] at U
  rw[show j+1+d-j=d+1 by omega]
  exact congrArg Sum.inr U
theorem Y2 (ds:List V): ∀(ws:List fl) (r:qD ws),Px (wh ds ws r).1 ws (wh ds ws r).2=some r
 | [],r=>Empty.elim r
 | w::ws,r=>congrArg some (PA ds 0 w ws r)
section
variable {P:Program} {A:cy} {C:ag} {L:cz} {f n m:Nat}
theorem Y3 {c:Code} {S:Shape × List (Out × Shape)} (hS:A.gT f (keyOf c+1)=some S) (hL:gZ P A C L f n m c) {I X R:Type} (enc:I→X→List V) (l8:I→R→Nat × List V)
  (pk:List V→I) (qE:List V→X) (D4:Nat × List V→Option R) (body:I→X→(β:Type)→(X→Option β)→(R→Option β)→Option β)
  (tQ: ∀ds,br S.1 (enc (pk ds) (qE ds))=br S.1 ds) (II: ∀i x,qE (enc i x)=x) (Y4: ∀i r,D4 (l8 i r)=some r)
  (e1: ∀i x (β:Type) (k:(List V ⊕ (Nat × List V))→Option β),gY P A C L f n m c (br S.1 (enc i x)) (fun o st=>(mI m S.1 S.2 (some (o,st))).bind k)=
   body i x β (fun y=>k (.inl (enc i y))) (fun r=>k (.inr (l8 i r))))
  (hl: ∀(β:Type) ds (k:Nat→List V→Option β),L β (keyOf c+1) ds k=(Loop (fun x=>body (pk ds) x (X ⊕ R) (fun y=>some (.inl y)) (fun r=>some (.inr r))) (qE ds)).bind fun r=>k (l8 (pk ds) r).1 (l8 (pk ds) r).2):
  cv P A C L f n m (.loop c):=by
 simp only[cv,hS]
 intro β ds k
 rw[hl]
 have hex: ∀(z:Option (Out × St)),mI m S.1 S.2 z=z.bind fun r=>mI m S.1 S.2 (some (r.1,r.2)):=by
  intro z;cases z<;>rfl
 have hs: ∀i x,stepG P A C f n m S c (enc i x)=(body i x (X ⊕ R) (fun y=>some (.inl y)) (fun r=>some (.inr r))).map fun| .inl y=> .inl (enc i y)| .inr r=> .inr (l8 i r):=by
  intro i x
  have k1:=e1 i x _ (fun z=>some z)
  have k2:=e1 i x (X ⊕ R) (fun| .inl ds=>some (.inl (qE ds))| .inr e=>(D4 e).map .inr)
  have k3:=e1 i x (List V ⊕ (Nat × List V)) (fun| .inl ds=>some (.inl (enc i (qE ds)))| .inr e=>(D4 e).map fun r=> .inr (l8 i r))
  simp only[II,Y4,Option.map_some] at k2 k3
  unfold stepG
  rw[hex]
  rw[CA P A C f n m c hL] at k1 k2 k3
  rw[←k2]
  refine a9 ?_ (k1.trans (k3.symm.trans ?_))
  ·congr 1
   funext r
   cases mI m S.1 S.2 (some (r.1,r.2))<;>rfl
  ·cases exec P A C f n m c (br S.1 (enc i x)) with
   | none=>rfl
   | some r=>
    simp only[Option.bind_some]
    cases mI m S.1 S.2 (some (r.1,r.2)) with
    | none=>rfl
    | some z=>
     cases z with
     | inl _=>rfl
     | inr e=>simp only[Option.bind_some];cases D4 e<;>rfl
 have h0:stepG P A C f n m S c ds=stepG P A C f n m S c (enc (pk ds) (qE ds)):=by
  unfold stepG
  rw[tQ]
 have:Loop (stepG P A C f n m S c) ds=(Loop (fun x=>body (pk ds) x (X ⊕ R) (fun y=>some (.inl y)) (fun r=>some (.inr r))) (qE ds)).map (l8 (pk ds)):=by
  rw[Cc,h0,←Cc]
  exact Vu (enc (pk ds)) (l8 (pk ds)) (fun x=>hs _ _) (qE ds)
 rw[this]
 cases Loop (fun x=>body (pk ds) x (X ⊕ R) (fun y=>some (.inl y)) (fun r=>some (.inr r))) (qE ds)<;>rfl
abbrev zS (S:Shape) (mk:List Bool):List LK:=we false mk S.ks
abbrev tV (S:Shape) (mk:List Bool):List LK:=we true mk S.ks
def qF (ts:List (List Nat)) (W:List (Out × Shape)):List fl:=
 match ts,W with
 | t::ts,w::W=>(t,w.2.ks)::qF ts W
 | _,_=>[]
abbrev zT (S:Shape) (mk:List Bool) (i:j9 (zS S mk)) (x:j9 (tV S mk)):List V:=merge mk (kM _ i) (kM _ x)
abbrev IJ (S:Shape) (mk:List Bool) (i:j9 (zS S mk)):List V:=merge mk (kM _ i) []
abbrev D5 (S:Shape) (mk:List Bool) (ds:List V):j9 (zS S mk):=oo _ (we false mk (S.norm ds))
abbrev D6 (S:Shape) (mk:List Bool) (ds:List V):j9 (tV S mk):=oo _ (we true mk (S.norm ds))
abbrev PB (X R:Type):Type 1:=(β:Type)→(X→Option β)→(R→Option β)→Option β
abbrev IK (S:Shape × List (Out × Shape)) (mk:List Bool) (ts:List (List Nat)):Type 1:=wc (zS S.1 mk) (wc (tV S.1 mk) (PB (j9 (tV S.1 mk)) (qD (qF ts S.2))))
abbrev IL (S:Shape × List (Out × Shape)) (mk:List Bool) (ts:List (List Nat)) (b:IK S mk ts) (i:j9 (zS S.1 mk)) (x:j9 (tV S.1 mk)):PB (j9 (tV S.1 mk)) (qD (qF ts S.2)):=tT _ (tT _ b i) x
noncomputable def cb (S:Shape × List (Out × Shape)) (mk:List Bool) (ts:List (List Nat)) (b:IK S mk ts) {β:Type} (ds:List V) (k:Nat→List V→Option β):Option β:=
 (Loop (fun x=>IL S mk ts b (D5 S.1 mk ds) x (j9 (tV S.1 mk) ⊕ qD (qF ts S.2)) (fun y=>some (.inl y)) (fun r=>some (.inr r))) (D6 S.1 mk ds)).bind (wT (IJ S.1 mk (D5 S.1 mk ds)) k (qF ts S.2))
theorem ch {c:Code} (S:Shape × List (Out × Shape)) (mk:List Bool) (ts:List (List Nat)) (b:IK S mk ts) (hS:A.gT f (keyOf c+1)=some S) (hL:gZ P A C L f n m c)
  (tQ: ∀ds,br S.1 (zT S.1 mk (D5 S.1 mk ds) (D6 S.1 mk ds))=br S.1 ds) (II: ∀i x,D6 S.1 mk (zT S.1 mk i x)=x)
  (e1: ∀i x (β:Type) (k:(List V ⊕ (Nat × List V))→Option β),gY P A C L f n m c (br S.1 (zT S.1 mk i x)) (fun o st=>(mI m S.1 S.2 (some (o,st))).bind k)=
   IL S mk ts b i x β (fun y=>k (.inl (zT S.1 mk i y))) (wT (IJ S.1 mk i) (fun j l=>k (.inr (j,l))) (qF ts S.2)))
  (hl: ∀(β:Type) ds (k:Nat→List V→Option β),L β (keyOf c+1) ds k=cb S mk ts b ds k):
  cv P A C L f n m (.loop c):=
 Y3 hS hL (zT S.1 mk) (fun i r=>wh (IJ S.1 mk i) _ r) (D5 S.1 mk) (D6 S.1 mk) (fun e=>Px e.1 _ e.2) (IL S mk ts b) tQ II (fun i r=>Y2 _ _ r)
  (fun i x β k=>by
   rw[e1]
   congr 1
   funext r
   exact D3 _ _ _ r)
  (fun β ds k=>by
   rw[hl]
   unfold cb
   congr 1
   funext r
   exact D3 _ _ _ r)
abbrev PC (S:Shape × List (Out × Shape)) (ts:List (List Nat)):Type 1:=wc S.1.ks ((β:Type)→(qD (qF ts S.2)→Option β)→Option β)
noncomputable def iJ (S:Shape × List (Out × Shape)) (ts:List (List Nat)) (b:PC S ts) {β:Type} (ds:List V) (k:Nat→List V→Option β):Option β:=
 tT S.1.ks b (oo _ (S.1.norm ds)) β (wT (kM S.1.ks (oo _ (S.1.norm ds))) k (qF ts S.2))
theorem iZ {t:Nat} {x y:Code} (S:Shape × List (Out × Shape)) (ts:List (List Nat)) (b:PC S ts) (hS:A.gT f (t*16+15)=some S) (hx:gZ P A C L f n m x) (hy:gZ P A C L f n m y)
  (tQ: ∀ds,br S.1 (kM S.1.ks (oo _ (S.1.norm ds)))=br S.1 ds)
  (e1: ∀i (β:Type) (k:Nat→List V→Option β),ID P A C L f n m t S x y (kM S.1.ks i) k=tT S.1.ks b i β (wT (kM S.1.ks i) k (qF ts S.2)))
  (hl: ∀(β:Type) ds (k:Nat→List V→Option β),L β (t*16+15) ds k=iJ S ts b ds k):
  cv P A C L f n m (.cond t x y):=
 Y0 hS hx hy (kM S.1.ks) (fun i r=>wh (kM S.1.ks i) _ r) (fun ds=>oo _ (S.1.norm ds)) (tT S.1.ks b) tQ
  (fun i β k=>by
   rw[e1]
   exact congrArg (tT S.1.ks b i β) (funext fun r=>D3 _ _ _ r))
  (fun β ds k=>by
   rw[hl]
   exact congrArg (tT S.1.ks b (oo _ (S.1.norm ds)) β) (funext fun r=>D3 _ _ _ r))
end
def cf:cz:=fun _ _ _ _=>none
end Go.AM
