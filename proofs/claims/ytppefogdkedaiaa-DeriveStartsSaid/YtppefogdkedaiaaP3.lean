/-
  Functions of the program, lifted to plain data.
-/
import Derived.Conc.MuLone
import Derived.Defers
import Derived.Carry
import Derived.OpenShut
import Derived.Deep.Slices
import Derived.Test.YtppefogdkedaiaaP2
set_option linter.unusedVariables false
set_option linter.unusedSimpArgs false
namespace Go.AM
section
variable {P:Program} {A:cx} {w w':World} {I I' I2:Nat→Prop} {μ β β' bV:Nat→Option Nat} {hp hp' hp0 br:Nat→Option an} {C:ag} {B:Nat} {M:Nat→Prop} {w0:Start}
structure kF (w:World) (I:Nat→Prop) (β:Nat→Option Nat) (hp:Nat→Option an) (w':World) (I':Nat→Prop) (β':Nat→Option Nat) (hp':Nat→Option an):Prop where
 c7: ∀b,I b→I' b
 b6: ∀b,I b→w'.heap[b]? =w.heap[b]?
 blk: ∀id blk,hp id=some blk→∃blk',hp' id=some blk'∧blk.le blk'∧(blk'≠ .dead→β' id=β id)
 size: ∀id blk blk' b,hp id=some blk→hp' id=some blk'→blk'≠ .dead→β id=some b→bsize w' b=bsize w b
theorem Le.Du (h:Le P w I β hp w' I' β' hp'):kF w I β hp w' I' β' hp':=⟨h.c7,h.b6,h.blk,h.size⟩
theorem kF.trans {yS:World} {yT:Nat→Prop} {yU:Nat→Option Nat} {yV:Nat→Option an} (h1:kF w I β hp w' I' β' hp') (U:kF w' I' β' hp' yS yT yU yV):kF w I β hp yS yT yU yV:=by
 refine ⟨fun b h=>U.c7 b (h1.c7 b h),fun b h=>(U.b6 b (h1.c7 b h)).trans (h1.b6 b h),fun id blk h=> ?_,fun id blk td b h rD hd hb=> ?_⟩
 ·obtain ⟨blk',e',l',b'⟩:=h1.blk id blk h
  obtain ⟨td,dq,qa,GJ⟩:=U.blk id blk' e'
  refine ⟨td,dq,an.le_trans l' qa,fun hd=> ?_⟩
  have eo:blk'≠ .dead:=fun e=>hd (an.o0 (e▸qa))
  exact (GJ hd).trans (b' eo)
 ·obtain ⟨blk',e',l',b'⟩:=h1.blk id blk h
  obtain ⟨gA,e3,l3,b3⟩:=U.blk id blk' e'
  obtain rfl:gA=td:=by rw[e3] at rD;exact cX rD
  have eo:blk'≠ .dead:=fun e=>hd (an.o0 (e▸l3))
  rw[U.size id blk' gA b e' e3 hd ((b' eo).trans hb),h1.size id blk blk' b h e' eo hb]
def og (P:Program) (w:World) (μ:Nat→Option Nat) (hp0:Nat→Option an) (b:Nat):Prop:= ∃j blk,hp0 j=some blk∧bu P w (μ j) blk b
structure XG (P:Program) (A:cx) (key:Nat) (w:World) (I:Nat→Prop) (μ:Nat→Option Nat) (ds es:List V) (w':World) (v:Value) (I2:Nat→Prop) (bV:Nat→Option Nat):Prop where
 vV:aF P w' I2 bV (bq (A.so key es) (A.lv key es)).hp w.heap.size (og P w μ (bq (A.sin key) ds).hp) ⟨w,I⟩
 le:kF w I μ (bq (A.sin key) ds).hp w' I2 bV (bq (A.so key es) (A.lv key es)).hp
 res:ao P w' I2 bV (bq (A.so key es) (A.lv key es)).hp v (oY (eU (A.so key es).bJ (A.lv key es)))
def kG (P:Program) (A:cx) (C:ag):Prop:=
 ∀key ds es,C key ds=some es→∃fn c,P.funcs[A.aZ key]? =some fn∧fn.body=some c∧
  ∀(w:World) (I:Nat→Prop) (μ:Nat→Option Nat) (vals:List Value),
   tc P w I μ (bq (A.sin key) ds).hp w.heap.size (og P w μ (bq (A.sin key) ds).hp)→ga P A.aE w I→
   vals.length=(A.sin key).bJ.length→(∀(j:Nat) v x,vals[j]? =some v→(fe ((A.sin key).bJ.map (·.2)) ds)[j]? =some x→ao P w I μ (bq (A.sin key) ds).hp v x)→
   Calls P (A.aZ key) vals.toArray w fun e w'=> ∃v I2 bV,e= .returned v∧XG P A key w I μ ds es w' v I2 bV
theorem dK.tK {p:Place} {o:Option Nat} {blk:an} {b:Nat} (h:dK P w β hp p o blk) (ho:bu P w o blk b):
  ∃qw,hp p.id=some qw∧bu P w (β p.id) qw b∧∀e es,qw≠ .arr e es true:=by
 cases h with
 | var h=>exact ⟨_,h,.root (by simp) (ho.flat (by simp)),by simp⟩
 | arr h=>exact ⟨_,h,.root (by simp) (ho.flat (by simp)),by simp⟩
 | map h=>exact ⟨_,h,.root (by simp) (ho.flat (by simp)),by simp⟩
 | nest h=>
  refine ⟨_,h,?_,by simp⟩
  cases ho with
  | root _ hb=>exact .root (by simp) hb
  | row hb ha=>exact .row hb ha
 | row h hb ha _ _ _ _ _=>
  have:=ho.flat (by simp)
  cases this
  exact ⟨_,h,.row hb ha,by simp⟩
theorem aF.XH (S:aF P w I β hp B M w0) {id b:Nat} {blk:an} (ab:hp id=some blk) (ho:bu P w (β id) blk b) (hf: ∀e es,blk≠ .arr e es true): ¬I b:=by
 have hr:=S.h.rel id blk ab
 generalize β id=o at hr ho
 cases hr with
 | var hb _ _ hI _ _=>have:=ho.flat (by simp);rw[hb] at this;cases this;exact hI
 | dv hb=>have:=ho.flat (by simp);rw[hb] at this;cases this
 | @arr e es fz _ _ _ hb _ _ _ dW _=>
  have:=ho.flat (by simp)
  rw[hb] at this;cases this
  cases fz with
  | true=>exact absurd rfl (hf e es)
  | false=>exact dW rfl
 | dead=>exact absurd rfl ho.alive
 | map _ hb _ _ hI _ _=>have:=ho.flat (by simp);rw[hb] at this;cases this;exact hI
 | nest hb hr _=>
  cases ho with
  | root _ aA=>rw[hb] at aA;cases aA;exact (hr _ _ _ _ .here).nI
  | row aA ha=>rw[hb] at aA;cases aA;exact (hr _ _ _ _ ha).nI
theorem Dw {a b:List Nat} (h:vd a b=false) {x:Nat} (ha:x∈a):x∉b:=by
 intro hb
 unfold vd at h
 rw[List.any_eq_false] at h
 exact h x ha (vF hb)
theorem XI (S:aF P w I β hp B M w0) {pl:List Place} {upd:List (Nat × an)} {o:Nat→Option Nat} (jZ:(pl.map Place.id).Nodup) (Dx:vd (upd.map (·.1)) (pl.map Place.id)=false)
  (hl: ∀j blk,hp0 j=some blk→∃p,dU pl j=some p∧dK P w β hp p (o j) blk)
  (cy:(∀j blk,hp0 j=some blk→∀b,bu P w (o j) blk b→¬iz P w I β hp upd b)→∀j blk,hp0 j=some blk→dI P w (iz P w I β hp upd) o hp0 (o j) blk) (aO: ∀b,iz P w I β hp upd b→b<w.heap.size):
  tc P w (iz P w I β hp upd) o hp0 w.heap.size (og P w o hp0):=by
 have cH: ∀j blk,hp0 j=some blk→∀b,bu P w (o j) blk b→¬iz P w I β hp upd b:=by
  intro j blk hj b ho hI
  obtain ⟨p,br,gB⟩:=hl j blk hj
  obtain ⟨qw,k1,k2,k3⟩:=gB.tK ho
  rcases hI with hI|⟨q,hq,bU,q1,q2⟩
  ·exact S.XH k1 k2 k3 hI
  ·have:=S.h.inj _ _ _ _ b q1 k1 q2 k2
   refine Dw Dx (gd.2 ⟨q,hq,rfl⟩) ?_
   rw[this]
   rw[ln] at br
   exact gd.2 ⟨p,jg br,rfl⟩
 refine ⟨cy cH,fun j1 j2 b1 b2 b h1 U o1 o2=> ?_,fun j blk b h1 o1=> .inl ⟨j,blk,h1,o1⟩,aO⟩
 obtain ⟨p1,q1,q2⟩:=hl j1 b1 h1
 obtain ⟨p2,r1,r2⟩:=hl j2 b2 U
 obtain ⟨c1,x1,x2,_⟩:=q2.tK o1
 obtain ⟨c2,y1,y2,_⟩:=r2.tK o2
 have ab:=S.h.inj _ _ _ _ b x1 y1 x2 y2
 rw[ln] at q1 r1
 have m1:(pl.map Place.id)[j1]? =some p1.id:=by rw[gf,q1];rfl
 have m2:(pl.map Place.id)[j2]? =some p2.id:=by rw[gf,r1];rfl
 rw[←ab] at m2
 obtain ⟨z1,z2⟩:=bt.1 m1
 obtain ⟨z3,z4⟩:=bt.1 m2
 exact (List.getElem_inj jZ).1 (z2.trans z4.symm)
def NK:V→Prop
 | .list .. =>False
 | .pref .. =>False
 | .agg _=>False
 | .bd _=>False
 | .fn .. =>False
 | _=>True
theorem ao.free {v:Value} {x:V} (h:ao P w I β hp v x) (hx:NK x):ao P w I' β hp v x:=by
 cases h with
 | undef=>exact .undef
 | int=>exact .int
 | bool=>exact .bool
 | str h=>exact .str h
 | list h=>exact hx.elim
 | nilS=>exact .nilS
 | agg=>exact hx.elim
 | bd=>exact hx.elim
 | df=>exact .df
 | fn=>exact hx.elim
 | pref=>exact hx.elim
 | dV h=>exact .dV h
 | fO h=>exact .fO h
 | jR h=>exact .jR h
 | dt h hb=>exact .dt h hb
 | whole h hb a b c=>exact .whole h hb a b c
 | ee h hb a b c=>exact .ee h hb a b c
 | fy h hb=>exact .fy h hb
 | sub h hb a b c=>exact .sub h hb a b c
 | ptr h hd hb=>exact .ptr h hd hb
 | jl h qq=>exact .jl h qq
 | jm h qq=>exact .jm h qq
 | row h hb a b c d=>exact .row h hb a b c d
 | cw h hb a b c d e=>exact .cw h hb a b c d e
 | dj=>exact .dj
 | gZ h=>exact .gZ h
 | cl h hb=>exact .cl h hb
theorem zy {l:LS} {ds:List V} (hs:l.safe=true):NK (im l ds):=by
 cases l<;>simp only[LS.safe] at hs<;>first|(cases hs;done)|trivial
theorem zz: ∀{ls:List LS} {ds:List V} {j:Nat} {y:V},(gT ls ds)[j]? =some y→∃l eY,l∈ls∧y=im l eY
 | [],ds,j,y,h=>by simp[gT] at h
 | l::ls,ds,j,y,h=>by
  simp only[gT] at h
  cases j with
  | zero=>simp at h;exact ⟨l,ds,rk ..,h.symm⟩
  | succ j=>
   obtain ⟨l',eY,h1,U⟩:=zz (j:=j) (by simpa using h)
   exact ⟨l',eY,kS _ h1,U⟩
theorem NL: ∀{ls:List VS} {ds:List V} {j:Nat} {y:V},(fe ls ds)[j]? =some y→∃l eY,l∈ls∧y=ku l eY
 | [],ds,j,y,h=>by simp[fe] at h
 | l::ls,ds,j,y,h=>by
  simp only[fe] at h
  cases j with
  | zero=>simp at h;exact ⟨l,ds,rk ..,h.symm⟩
  | succ j=>
   obtain ⟨l',eY,h1,U⟩:=NL (j:=j) (by simpa using h)
   exact ⟨l',eY,kS _ h1,U⟩
theorem NM {s:VS} {ds:List V} {v:Value} (h:ao P w I β hp v (ku s ds)) (hs:s.safe=true):ao P w I' β hp v (ku s ds):=by
 cases s with
 | one l=>exact h.free (zy hs)
 | agg ls=>
  simp only[ku] at h⊢
  obtain ⟨cs,rfl,e1,e2⟩:=h.kB
  refine .agg e1 fun j v x hj hx=> ?_
  obtain ⟨l,eY,k1,rfl⟩:=zz hx
  exact (e2 j v _ hj hx).free (zy (fb.1 hs l k1))
 | bd ls=>
  simp only[ku] at h⊢
  obtain ⟨cs,rfl,e1,e2⟩:=h.tm
  refine .bd e1 fun j v x hj hx=> ?_
  obtain ⟨l,eY,k1,rfl⟩:=zz hx
  exact (e2 j v _ hj hx).free (zy (fb.1 hs l k1))
 | fn f a b=>
  simp only[VS.safe,aK] at hs
  simp only[ku] at h⊢
  cases h with
  | fn a1 a2 b1 b2=>
   refine .fn a1 (fun j v x hj hx=> ?_) b1 (fun j v x hj hx=> ?_)
   ·obtain ⟨l,eY,k1,rfl⟩:=zz hx
    exact (a2 j v _ hj hx).free (zy (fb.1 hs.1 l k1))
   ·obtain ⟨l,eY,k1,rfl⟩:=zz hx
    exact (b2 j v _ hj hx).free (zy (fb.1 hs.2 l k1))
 | pref ts ls=>cases hs
theorem Pure.scalar {t:TypeId} {v:Value} {x:V} (h:Pure P w I t v x) (hn: ∀e,P.underlying t≠some (.slice e)):Pure P w I' t v x:=by
 cases h with
 | int h=>exact .int h
 | bool h=>exact .bool h
 | str h hl=>exact .str h hl
 | nil h=>exact absurd h (hn _)
 | emp h=>exact absurd h (hn _)
 | list g h=>exact absurd h (hn _)
theorem XJ {e t:TypeId} {j:Nat} (h:yE P e=true) (ht:(aR P e)[j]? =some t) (e':TypeId):P.underlying t≠some (.slice e'):=by
 intro hu
 have U:=fb.1 h t (jg ht)
 rw[hu] at U
 cases U
theorem XK {o:Option Nat} {b:BS} {ds:List V} (h:dI P w I2 β hp o (fv b ds)) (hs:b.safe P=true) (hi: ∀b,I b→I2 b):dI P w I β hp o (fv b ds):=by
 cases b with
 | dead=>exact .dead
 | var T0 ls=>
  simp only[fv] at h⊢
  cases h with
  | var hb hh aU hI hx fQ=>
   refine .var hb hh aU (fun h=>hI (hi _ h)) (fun j v x hj cp=> ?_) fQ
   obtain ⟨l,eY,k1,rfl⟩:=NL cp
   exact NM (hx j v _ hj cp) (fb.1 hs l k1)
 | arr e fz=>
  simp only[BS.safe,aK,mA] at hs
  obtain ⟨rfl,zx⟩:=hs
  simp only[fv] at h⊢
  generalize (V.nth ds 0).toList=es at h⊢
  cases h with
  | dv hb=>exact .dv hb
  | arr a1 a2 a3 a4 a5 a6 a7=>
   refine .arr a1 a2 a3 a4 (fun h=>by cases h) (fun _ h=>a6 rfl (hi _ h)) fun i j x t' y1 y2 y3=> ?_
   obtain ⟨v,z1,z2⟩:=a7 i j x t' y1 y2 y3
   exact ⟨v,z1,z2.scalar (XJ zx y2)⟩
 | nest e=>
  simp only[fv] at h⊢
  generalize (V.nth ds 0).toList=es at h⊢
  cases h with
  | nest hb cz nY=>
   refine .nest hb (fun q b' e1 m1 hq=> ?_) nY
   obtain ⟨ok,⟨Ca,c1,c2,c3⟩,nI⟩:=cz q b' e1 m1 hq
   refine ⟨ok,⟨Ca,c1,c2,fun i j x t' y1 y2 y3=> ?_⟩,fun h=>nI (hi _ h)⟩
   obtain ⟨v,z1,z2⟩:=c3 i j x t' y1 y2 y3
   refine ⟨v,z1,?_⟩
   generalize bH P e1 x j=y at z2⊢
   cases z2 with
   | fx a p=>
    refine .fx a (p.scalar fun e hu=> ?_)
    unfold fu at a
    rw[hu] at a
    cases a
   | emp a b=>exact .emp a b
   | row a b c d e=>exact .row a b c d e
 | map t=>
  simp only[fv] at h⊢
  cases h with
  | map a1 a2 a3 a4 a5 a6 a7=>exact .map a1 a2 a3 a4 (fun h=>a5 (hi _ h)) a6 a7
theorem HS: ∀{l:List BS} {ds:List V} {j:Nat} {y:an},(en l ds)[j]? =some y→∃b eY,l[j]? =some b∧y=fv b eY
 | [],ds,j,y,h=>by simp[en] at h
 | b::l,ds,j,y,h=>by
  simp only[en] at h
  cases j with
  | zero=>simp at h;exact ⟨b,ds,rfl,h.symm⟩
  | succ j=>
   obtain ⟨b',eY,h1,U⟩:=HS (j:=j) (by simpa using h)
   exact ⟨b',eY,by simpa using h1,U⟩
theorem NN: ∀{l:List (Nat × VS)} {ds:List V} {q:Nat × V},q∈eU l ds→∃s eY,(q.1,s)∈l∧q.2=ku s eY
 | [],ds,q,h=>by simp[eU] at h
 | (k,s)::l,ds,q,h=>by
  simp only[eU,dc] at h
  rcases h with h|h
  ·subst h;exact ⟨s,ds,rk ..,rfl⟩
  ·obtain ⟨s',eY,h1,U⟩:=NN h
   exact ⟨s',eY,kS _ h1,U⟩
theorem XL {S:Shape} {es:List V} (hs:S.safe P=true) (hi: ∀b,I b→I2 b) {N:Nat→Prop} {st:Start} (h:aF P w' I2 bV (bq S es).hp B N st) (h0: ∀b,I b→st.I b):
  aF P w' I bV (bq S es).hp B N st∧∀v,ao P w' I2 bV (bq S es).hp v (oY (eU S.bJ es))→ao P w' I bV (bq S es).hp v (oY (eU S.bJ es)):=by
 unfold Shape.safe at hs
 simp only[aK] at hs
 obtain ⟨iy,mW⟩:=hs
 have one: ∀q∈eU S.bJ es,∀v,ao P w' I2 bV (bq S es).hp v q.2→ao P w' I bV (bq S es).hp v q.2:=by
  intro q hq v hv
  obtain ⟨s,eY,k1,k2⟩:=NN hq
  rw[k2] at hv⊢
  exact NM hv (fb.1 iy _ k1)
 refine ⟨⟨⟨fun j blk hj=> ?_,h.h.inj,h.h.own,fun b hb=>h.h.jn b (hi b hb)⟩,h.b6,h.size,fun b hb=> .inl (h0 b hb),h.io⟩,fun v hv=> ?_⟩
 ·have hr:=h.h.rel j blk hj
  have gj:=hj
  simp only[bq,mk,gI] at gj
  obtain ⟨b,eY,k1,rfl⟩:=HS gj
  exact XK hr (fb.1 mW _ (jg k1)) hi
 ·generalize eU S.bJ es=l at one hv⊢
  match l,one,hv with
  | [],_,hv=>
   simp only[oY,fM] at hv⊢
   obtain ⟨cs,rfl,e1,e2⟩:=hv.tm
   exact .bd e1 fun j v x _ hx=>by simp at hx
  | [q],one,hv=>exact one q (eb.2 rfl) v hv
  | q::q2::l,one,hv=>
   simp only[oY] at hv⊢
   obtain ⟨cs,rfl,e1,e2⟩:=hv.tm
   refine .bd e1 fun j v x hj hx=> ?_
   obtain ⟨y,hy,rfl⟩:=gd.1 (jg hx)
   exact one y hy v (e2 j v _ hj hx)
end
section
variable {P:Program} {A:cx} {w w':World} {I I' I2:Nat→Prop} {μ β β' bV:Nat→Option Nat} {hp hp' hp0 br:Nat→Option an} {C:ag} {B:Nat} {M:Nat→Prop} {w0:Start}
inductive fU (σ:List Place):an→an→Prop
 | dead:fU σ .dead .dead
 | var {T:TypeId} {cs:List V}:fU σ (.var T cs) (.var T (cs.map (Ct σ)))
 | arr {e:TypeId} {es:List V} {fz:Bool}:fU σ (.arr e es fz) (.arr e es fz)
 | nest {e:TypeId} {es:List V} {v1 v2:List Nat}:fU σ (.nest e es v1) (.nest e es v2)
 | map {t:TypeId} {es:List V}:fU σ (.map t es) (.map t es)
theorem fU.of (σ:List Place) (b:an):fU σ b (s4 σ b):=by
 cases b with
 | dead=>exact .dead
 | var T cs=>exact .var
 | arr e es fz=>exact .arr
 | nest e es v=>exact .nest
 | map t es=>exact .map
theorem NO {σ:List Place}: ∀{pl:List Place} {bs:List an} {acc:List (Nat × an)} {k:List (Nat × an)→Rd R} {r:R} {rd:List Nat},(pX σ pl bs acc k).run C hp=some (r,rd)→
  pl.length≤bs.length∧∃bk eF,(k bk).run C hp=some (r,eF)∧(∀q∈bk,q∈acc∨∃(j:Nat) (b:an),pl[j]? =some (.blk q.1)∧bs[j]? =some b∧fU σ b q.2∧((∃e es v2,q.2= .nest e es v2)→∃e es aq e' aI,hp q.1=some (.nest e es aq)∧q.2= .nest e' aI (aq.map (· +1))))∧
   (∀q∈acc,q∈bk)∧∀(j:Nat) p,pl[j]? =some p→∃id b,p= .blk id∧(id,b)∈bk
 | [],bs,acc,k,r,rd,h=>⟨ki _,acc,rd,by simpa only[pX] using h,fun q hq=> .inl hq,fun q hq=>hq,fun j p hp=>by simp at hp⟩
 | .row _ _ _::pl,bs,acc,k,r,rd,h=>by
  cases bs<;>(simp only[pX] at h;cases h)
 | .blk id::pl,[],acc,k,r,rd,h=>by simp only[pX] at h;cases h
 | .blk id::pl,b::bs,acc,k,r,rd,h=>by
  have fin: ∀{b2:an} {iZ:List Nat},(pX σ pl bs ((id,b2)::acc) k).run C hp=some (r,iZ)→fU σ b b2→((∃e es v2,b2= .nest e es v2)→∃e es aq e' aI,hp id=some (.nest e es aq)∧b2= .nest e' aI (aq.map (· +1)))→
    (Place.blk id::pl).length≤(b::bs).length∧∃bk eF,(k bk).run C hp=some (r,eF)∧(∀q∈bk,q∈acc∨∃(j:Nat) (b':an),(Place.blk id::pl)[j]? =some (.blk q.1)∧(b::bs)[j]? =some b'∧fU σ b' q.2∧((∃e es v2,q.2= .nest e es v2)→∃e es aq e' aI,hp q.1=some (.nest e es aq)∧q.2= .nest e' aI (aq.map (· +1))))∧
     (∀q∈acc,q∈bk)∧∀(j:Nat) p,(Place.blk id::pl)[j]? =some p→∃id b,p= .blk id∧(id,b)∈bk:=by
   intro b2 iZ h1 hb hn
   obtain ⟨a0,bk,eF,a1,a2,a3,a4⟩:=NO h1
   refine ⟨by simp only[List.length_cons];omega,bk,eF,a1,fun q hq=> ?_,fun q hq=>a3 q (kS _ hq),fun j p hj=> ?_⟩
   ·rcases a2 q hq with h|⟨j,b',k1,k2,k3,k4⟩
    ·rcases dc.1 h with e|h
     ·subst e;exact .inr ⟨0,b,rfl,rfl,hb,hn⟩
     ·exact .inl h
    ·exact .inr ⟨j+1,b',by simpa using k1,by simpa using k2,k3,k4⟩
   ·cases j with
    | zero=>simp at hj;subst hj;exact ⟨id,b2,rfl,a3 _ (rk ..)⟩
    | succ j=>exact a4 j p (by simpa using hj)
  cases b with
  | nest e es v=>
   simp only[pX] at h
   obtain ⟨l,h⟩:=run_get h
   cases ab:hp id with
   | none=>rw[ab] at h;cases h
   | some blk=>
    rw[ab] at h
    cases blk with
    | nest e0 GK aq=>exact fin h .nest fun _=>⟨e0,GK,aq,e,es,ab,rfl⟩
    | _=>cases h
  | dead=>exact fin h (.of σ _) fun ⟨_,_,_,h⟩=>by cases h
  | var T cs=>exact fin h (.of σ _) fun ⟨_,_,_,h⟩=>by cases h
  | arr e es fz=>exact fin h (.of σ _) fun ⟨_,_,_,h⟩=>by cases h
  | map t es=>exact fin h (.of σ _) fun ⟨_,_,_,h⟩=>by cases h
theorem NP {σ:List Place}: ∀{bs:List an} {n:Nat} {q:Nat × an},q∈pY σ n bs→∃i b,bs[i]? =some b∧q=(n+i,s4 σ b)
 | [],n,q,h=>by simp[pY] at h
 | b::bs,n,q,h=>by
  simp only[pY,dc] at h
  rcases h with h|h
  ·exact ⟨0,b,rfl,h⟩
  ·obtain ⟨i,b',h1,U⟩:=NP h
   exact ⟨i+1,b',by simpa using h1,by rw[U];congr 1;omega⟩
theorem NQ {σ:List Place}: ∀{bs:List an} {n i:Nat} {b:an},bs[i]? =some b→(n+i,s4 σ b)∈pY σ n bs
 | [],n,i,b,h=>by simp at h
 | b0::bs,n,i,b,h=>by
  simp only[pY,dc]
  cases i with
  | zero=>simp at h;subst h;exact .inl rfl
  | succ i=>exact .inr (by rw[show n+(i+1)=n+1+i by omega];exact NQ (by simpa using h))
theorem Dy: ∀{k n i:Nat},i<k→(rB n k)[i]? =some (.blk (n+i))
 | 0,n,i,h=>by omega
 | k+1,n,0,h=>rfl
 | k+1,n,i+1,h=>by
  simp only[rB,List.getElem?_cons_succ]
  rw[Dy (by omega)]
  congr 2
  omega
theorem HT: ∀{k n:Nat},(rB n k).length=k
 | 0,_=>rfl
 | k+1,n=>by simp[rB,HT]
theorem NR: ∀{bs:List (Nat × an)} {k:Rd R} {r:R} {rd:List Nat},(Cu bs k).run C hp=some (r,rd)→(∀q∈bs,hp q.1=none)∧∃eF,k.run C hp=some (r,eF)
 | [],k,r,rd,h=>⟨by simp,rd,h⟩
 | (id,b)::l,k,r,rd,h=>by
  simp only[Cu] at h
  obtain ⟨l1,h⟩:=run_get h
  cases ab:hp id with
  | some blk=>rw[ab] at h;cases h
  | none=>
   rw[ab] at h
   obtain ⟨h1,U⟩:=NR h
   refine ⟨fun q hq=> ?_,U⟩
   rcases dc.1 hq with e|hq
   ·subst e;exact ab
   ·exact h1 q hq
structure pe (σ:List Place) (bV:Nat→Option Nat) (br:Nat→Option an) (β':Nat→Option Nat) (hp':Nat→Option an):Prop where
 blk: ∀j b,br j=some b→∃id b',dU σ j=some (.blk id)∧hp' id=some b'∧fU σ b b'∧(b≠ .dead→β' id=bV j)
 none: ∀j,br j=none→dU σ j=none
 ahm: ∀j id ver path,dU σ j≠some (.row id ver path)
theorem pe.leaf {σ:List Place} (T:pe σ bV br β' hp') {v:Value} {x:V} (h:ao P w I bV br v x):ao P w I β' hp' v (jP σ x):=by
 have look: ∀{j b},br j=some b→∃id b',dU σ j=some (.blk id)∧hp' id=some b'∧fU σ b b'∧(b≠ .dead→β' id=bV j):=fun h=>T.blk _ _ h
 cases h with
 | undef=>exact .undef
 | int=>exact .int
 | bool=>exact .bool
 | str h=>exact .str h
 | list h=>exact .list h
 | nilS=>exact .nilS
 | agg=>exact .undef
 | bd=>exact .undef
 | df=>exact .df
 | fn=>exact .undef
 | pref a b c=>exact .pref a b c
 | @dV _ e j h=>
  obtain ⟨id,b',k1,k2,k3,k4⟩:=look h
  simp only[jP,k1]
  cases k3
  exact .dV k2
 | @fO _ e j _ _ h=>
  obtain ⟨id,b',k1,k2,k3,k4⟩:=look h
  simp only[jP,k1]
  cases k3
  exact .fO k2
 | @jR _ j _ _ h=>
  obtain ⟨id,b',k1,k2,k3,k4⟩:=look h
  simp only[jP,k1]
  cases k3
  exact .jR k2
 | @dt e j fz _ h hb=>
  obtain ⟨id,b',k1,k2,k3,k4⟩:=look h
  simp only[jP,k1]
  cases k3
  exact .dt k2 ((k4 (by simp)).trans hb)
 | @whole e j es fz b cap h hb a1 a2 a3=>
  obtain ⟨id,b',k1,k2,k3,k4⟩:=look h
  simp only[jP,k1]
  cases k3
  exact .whole k2 ((k4 (by simp)).trans hb) a1 a2 a3
 | @ee e j es aq b cap h hb a1 a2 a3=>
  obtain ⟨id,b',k1,k2,k3,k4⟩:=look h
  simp only[jP,k1]
  cases k3
  exact .ee k2 ((k4 (by simp)).trans hb) a1 a2 a3
 | @fy e j fz _ h hb=>
  obtain ⟨id,b',k1,k2,k3,k4⟩:=look h
  simp only[jP,k1]
  cases k3
  exact .fy k2 ((k4 (by simp)).trans hb)
 | @sub e j off len es fz b o cap h hb a1 a2 a3=>
  obtain ⟨id,b',k1,k2,k3,k4⟩:=look h
  simp only[jP,k1]
  cases k3
  exact .sub k2 ((k4 (by simp)).trans hb) a1 a2 a3
 | @ptr j i c b blk h hd hb=>
  obtain ⟨id,b',k1,k2,k3,k4⟩:=look h
  simp only[jP,k1]
  have hs:blk.sz P=b'.sz P:=by cases k3<;>rfl
  rw[hs]
  exact .ptr k2 (by intro e;subst e;cases k3;exact hd rfl) ((k4 hd).trans hb)
 | jl=>exact .undef
 | jm=>exact .undef
 | row=>exact .undef
 | cw=>exact .undef
 | dj=>exact .dj
 | @gZ _ t j h=>
  obtain ⟨id,b',k1,k2,k3,k4⟩:=look h
  simp only[jP,k1]
  cases k3
  exact .gZ k2
 | @cl t j b es h hb=>
  obtain ⟨id,b',k1,k2,k3,k4⟩:=look h
  simp only[jP,k1]
  cases k3
  exact .cl k2 ((k4 (by simp)).trans hb)
theorem pe.one {σ:List Place} (T:pe σ bV br β' hp') {v:Value} {x:V} (h:ao P w I bV br v x):ao P w I β' hp' v (Gy σ x):=by
 cases x with
 | agg xs=>
  obtain ⟨cs,rfl,e1,e2⟩:=h.kB
  exact .agg (by simpa using e1) fun j v y hj hy=>by
   rw[gf] at hy
   cases hx:xs[j]? with
   | none=>rw[hx] at hy;cases hy
   | some x=>rw[hx] at hy;cases hy;exact T.leaf (e2 j v x hj hx)
 | fn f a b=>
  cases h with
  | fn a1 a2 b1 b2=>
   refine .fn (by simpa using a1) (fun j v y hj hy=> ?_) (by simpa using b1) (fun j v y hj hy=> ?_)
   ·rw[gf] at hy
    cases hx:a[j]? with
    | none=>rw[hx] at hy;cases hy
    | some x=>rw[hx] at hy;cases hy;exact T.leaf (a2 j v x hj hx)
   ·rw[gf] at hy
    cases hx:b[j]? with
    | none=>rw[hx] at hy;cases hy
    | some x=>rw[hx] at hy;cases hy;exact T.leaf (b2 j v x hj hx)
 | _=>exact T.leaf h
theorem pe.val {σ:List Place} (T:pe σ bV br β' hp') {v:Value} {x:V} (h:ao P w I bV br v x):ao P w I β' hp' v (Ct σ x):=by
 cases x with
 | bd xs=>
  obtain ⟨cs,rfl,e1,e2⟩:=h.tm
  exact .bd (by simpa using e1) fun j v y hj hy=>by
   rw[gf] at hy
   cases hx:xs[j]? with
   | none=>rw[hx] at hy;cases hy
   | some x=>rw[hx] at hy;cases hy;exact T.one (e2 j v x hj hx)
 | _=>exact T.one h
theorem pe.NS {σ:List Place} (T:pe σ bV br β' hp') {o:Option Nat} {b b':an} (h:dI P w I bV br o b) (hb:fU σ b b'):dI P w I β' hp' o b':=by
 cases hb with
 | dead=>exact .dead
 | var=>
  cases h with
  | var a1 a2 a3 a4 a5 a6=>
   refine .var a1 a2 (by simpa using a3) a4 (fun j v y hj hy=> ?_) a6
   rw[gf] at hy
   cases hx:(_:List V)[j]? with
   | none=>rw[hx] at hy;cases hy
   | some x=>rw[hx] at hy;cases hy;exact T.val (a5 j v x hj hx)
 | arr=>
  cases h with
  | dv hb=>exact .dv hb
  | arr a1 a2 a3 a4 a5 a6 a7=>exact .arr a1 a2 a3 a4 a5 a6 a7
 | nest=>
  cases h with
  | nest a1 a2 a3=>exact .nest a1 a2 a3
 | map=>
  cases h with
  | map a1 a2 a3 a4 a5 a6 a7=>exact .map a1 a2 a3 a4 a5 a6 a7
theorem fU.tK {σ:List Place} {o:Option Nat} {b b':an} (h:fU σ b b') {m:Nat} (ho:bu P w o b' m):bu P w o b m:=by
 cases h with
 | dead=>exact absurd rfl ho.alive
 | var=>exact .root (by simp) (ho.flat (by simp))
 | arr=>exact .root (by simp) (ho.flat (by simp))
 | map=>exact .root (by simp) (ho.flat (by simp))
 | nest=>
  cases ho with
  | root _ hb=>exact .root (by simp) hb
  | row hb ha=>exact .row hb ha
theorem fU.NT {σ:List Place} {b b':an} (h:fU σ b b'):b'≠ .dead→b≠ .dead:=by
 intro h1 U;subst U;cases h;exact h1 rfl
end
section
variable {P:Program} {A:cx} {w w':World} {I I' I2:Nat→Prop} {μ β β' bV:Nat→Option Nat} {hp hp' hp0 br:Nat→Option an} {C:ag} {B:Nat} {M:Nat→Prop} {w0:Start}
theorem NU: ∀{vs:List Nat} {k:Nat},k<vs.length→bx (vs.map (· +1)) k=bx vs k+1
 | [],k,h=>by simp at h
 | v::vs,0,h=>rfl
 | v::vs,k+1,h=>by simp only[cF,bx];exact NU (by simpa using h)
theorem NV: ∀{vs:List Nat} {k:Nat},bx vs k≤bx (vs.map (· +1)) k
 | [],k=>by simp[bx]
 | v::vs,0=>by simp[bx]
 | v::vs,k+1=>by simp only[cF,bx];exact NV
def zA (hp:Nat→Option an) (q:Nat × an):Prop:=(∃e es v2,q.2= .nest e es v2)→∃e es aq e' aI,hp q.1=some (.nest e es aq)∧q.2= .nest e' aI (aq.map (· +1))
theorem dK.HU {id:Nat} {o:Option Nat} {blk:an} (h:dK P w β hp (.blk id) o blk):o=β id∧∃b0,hp id=some b0∧b0≠ .dead:=by
 cases h with
 | var h=>exact ⟨rfl,_,h,by simp⟩
 | arr h=>exact ⟨rfl,_,h,by simp⟩
 | nest h=>exact ⟨rfl,_,h,by simp⟩
 | map h=>exact ⟨rfl,_,h,by simp⟩
theorem dK.XM {id:Nat} {o:Option Nat} {c b b' b0:an} {σ:List Place} (h:dK P w β hp (.blk id) o c) (h0:hp id=some b0) (hle:c.le b) (hb:fU σ b b') (hn:zA hp (id,b')):b0.le b':=by
 cases h with
 | var h=>
  rw[h] at h0;cases h0
  cases hb with
  | dead=>trivial
  | var=>trivial
  | arr=>exact hle.elim
  | nest=>exact hle.elim
  | map=>exact hle.elim
 | arr h=>
  rw[h] at h0;cases h0
  cases hb with
  | dead=>trivial
  | var=>exact hle.elim
  | arr=>exact hle
  | nest=>exact hle.elim
  | map=>exact hle.elim
 | map h=>
  rw[h] at h0;cases h0
  cases hb with
  | dead=>trivial
  | map=>exact hle
  | _=>exact hle.elim
 | nest h=>
  rw[h] at h0;cases h0
  cases hb with
  | dead=>trivial
  | var=>exact hle.elim
  | arr=>exact hle
  | map=>exact hle.elim
  | @nest e es v1 v2=>
   obtain ⟨e1,cf,tL,e2,bX,k1,k2⟩:=hn ⟨_,_,_,rfl⟩
   cases k2
   change hp id=_ at k1
   rw[h] at k1;cases k1
   exact ⟨hle.1,hle.2.1,by simp,fun k=>NV⟩
theorem dK.other {p:Place} {o:Option Nat} {blk:an} (h:dK P w β hp p o blk) (he:hp' p.id=hp p.id):dK P w β hp' p o blk:=by
 cases h with
 | var h=>exact .var (he.trans h)
 | arr h=>exact .arr (he.trans h)
 | nest h=>exact .nest (he.trans h)
 | map h=>exact .map (he.trans h)
 | row h a b c d e f g=>exact .row (he.trans h) a b c d e f g
open Classical in
theorem NW (S:aF P w I β hp B M w0) {pl:List Place} {o:Nat→Option Nat} {bs:List an} {nb:Nat} {bk fr:List (Nat × an)} {σ:List Place} (qx:σ=pl++rB nb (bs.length-pl.length)) (zB:fr=pY σ nb (bs.drop pl.length))
  (jZ:(pl.map Place.id).Nodup) (qg:pl.length≤bs.length)
  (pf: ∀(j:Nat) p,pl[j]? =some p→∃id b,p= .blk id∧(id,b)∈bk) (Dz: ∀q∈bk,∃(j:Nat) (b:an),pl[j]? =some (.blk q.1)∧bs[j]? =some b∧fU σ b q.2∧zA hp q)
  (hl: ∀j blk,hp0 j=some blk→∃p,dU pl j=some p∧dK P w β hp p (o j) blk) (hd: ∀j,j<pl.length→∃blk,hp0 j=some blk)
  (Sc:aF P w' I2 bV (ji bs) w.heap.size (og P w o hp0) ⟨w,I⟩) (vW:kF w I o hp0 w' I2 bV (ji bs)) (rS: ∀q∈fr,hp q.1=none):
  ∃β',Le P w I β hp w' I2 β' (bG hp (fr++bk))∧aF P w' I2 β' (bG hp (fr++bk)) B M w0∧pe σ bV (ji bs) β' (bG hp (fr++bk)):=by
 generalize HV:bG hp (fr++bk)=gB
 let β':Nat→Option Nat:=fun n=>if∃q∈fr,q.1=n then bV (pl.length+(n-nb)) else β n
 have NX: ∀(j:Nat) id,pl[j]? =some (.blk id)→∃c,hp0 j=some c∧dK P w β hp (.blk id) (o j) c:=by
  intro j id hj
  obtain ⟨c,hc⟩:=hd j (bt.1 hj).1
  obtain ⟨p,h1,U⟩:=hl j c hc
  rw[ln,hj] at h1
  cases h1
  exact ⟨c,hc,U⟩
 have uniq: ∀(j1 j2:Nat) id,pl[j1]? =some (.blk id)→pl[j2]? =some (.blk id)→j1=j2:=by
  intro j1 j2 id h1 U
  have m1:(pl.map Place.id)[j1]? =some id:=by rw[gf,h1];rfl
  have m2:(pl.map Place.id)[j2]? =some id:=by rw[gf,U];rfl
  obtain ⟨z1,z2⟩:=bt.1 m1
  obtain ⟨z3,z4⟩:=bt.1 m2
  exact (List.getElem_inj jZ).1 (z2.trans z4.symm)
 have cls: ∀id,(∃i b,id=nb+i∧bs[pl.length+i]? =some b∧gB id=some (s4 σ b)∧hp id=none∧β' id=bV (pl.length+i))∨
   (∃(j:Nat) (b b' c b0:an),pl[j]? =some (.blk id)∧bs[j]? =some b∧hp0 j=some c∧dK P w β hp (.blk id) (o j) c∧hp id=some b0∧b0.le b'∧gB id=some b'∧fU σ b b'∧zA hp (id,b')∧β' id=β id∧c.le b∧(b≠ .dead→bV j=β id))∨
   (gB id=hp id∧(∀j:Nat,pl[j]? ≠some (.blk id))∧β' id=β id):=by
  intro id
  by_cases hm: ∃b,(id,b)∈fr++bk
  ·obtain ⟨b,hm⟩:=hm
   obtain ⟨b',CI,he⟩:=CF (hp:=hp) hm
   rw[HV] at he
   rcases ej.1 CI with h|h
   ·have h0:=rS _ h
    have oh:β' id=bV (pl.length+(id-nb)):=aj ⟨_,h,rfl⟩
    rw[zB] at h
    obtain ⟨i,b1,k1,k2⟩:=NP h
    rw[gP] at k1
    cases k2
    exact .inl ⟨i,b1,rfl,k1,he,h0,by rw[oh];congr 2;omega⟩
   ·obtain ⟨j,b1,q1,q2,q3,q4⟩:=Dz _ h
    obtain ⟨c,c1,c2⟩:=NX j id q1
    obtain ⟨c3,b0,c4,c5⟩:=c2.HU
    obtain ⟨b2,d1,d2,d3⟩:=vW.blk j c c1
    rw[gI,q2] at d1
    cases d1
    refine .inr (.inl ⟨j,b1,b',c,b0,q1,q2,c1,c2,c4,c2.XM c4 d2 q3 q4,he,q3,q4,ai ?_,d2,fun h=>(d3 h).trans c3⟩)
    rintro ⟨q,hq,XN⟩
    rw[←XN,rS q hq] at c4
    cases c4
  ·refine .inr (.inr ⟨?_,fun j hj=> ?_,ai ?_⟩)
   ·rcases ti (hp:=hp) (l:=fr++bk) (id:=id) with h|⟨b,hb,_⟩
    ·rw[HV] at h;exact h
    ·exact absurd ⟨b,hb⟩ hm
   ·obtain ⟨aD,b,e,hb⟩:=pf j _ hj
    cases e
    exact hm ⟨b,ej.2 (.inr hb)⟩
   ·rintro ⟨q,hq,rfl⟩
    exact hm ⟨q.2,ej.2 (.inl hq)⟩
 have NY: ∀b,og P w o hp0 b→∃(j id:Nat) (b1:an),pl[j]? =some (.blk id)∧hp id=some b1∧bu P w (β id) b1 b∧∀e es,b1≠ .arr e es true:=by
  rintro b ⟨j,c,hc,ho⟩
  obtain ⟨p,h1,U⟩:=hl j c hc
  rw[ln] at h1
  obtain ⟨id,b2,rfl,_⟩:=pf j p h1
  obtain ⟨b1,k1,k2,k3⟩:=U.tK ho
  exact ⟨j,id,b1,h1,k1,k2,k3⟩
 have other: ∀id blk b,hp id=some blk→bu P w (β id) blk b→(∀j:Nat,pl[j]? ≠some (.blk id))→¬og P w o hp0 b∧w'.heap[b]? =w.heap[b]? ∧(I2 b→I b):=by
  intro id blk b e1 e3 e4
  have oj: ¬og P w o hp0 b:=by
   intro hx
   obtain ⟨j,aD,b1,i1,i2,i3,_⟩:=NY b hx
   have:=S.h.inj id aD _ _ b e1 i2 e3 i3
   subst this
   exact e4 j i1
  have aO:=S.h.lt e1 e3
  refine ⟨oj,Sc.b6 b aO oj,fun h=> ?_⟩
  rcases Sc.new b h with h|h|h
  ·exact h
  ·exact absurd h oj
  ·omega
 have rN:pe σ bV (ji bs) β' gB:=by
  refine ⟨fun j b hj=> ?_,fun j hj=> ?_,fun j id ver path hj=> ?_⟩
  ·rw[gI] at hj
   by_cases b7:j<pl.length
   ·obtain ⟨id,b1,e,lk⟩:=pf j _ (bB b7)
    have DA:pl[j]? =some (.blk id):=by rw[bB b7,e]
    have HW:dU σ j=some (.blk id):=by rw[qx];exact oe (by rw[ln];exact DA)
    rcases cls id with ⟨i,b2,c1,c2,c3,c4,c5⟩|⟨j',b2,b',c,b0,q1,q2,q3,q4,q5,q6,q7,q8,q9,pg,vX,qy⟩|⟨c1,c2,c3⟩
    ·obtain ⟨c,d1,d2⟩:=NX j id DA
     obtain ⟨_,b0,d3,_⟩:=d2.HU
     rw[d3] at c4;cases c4
    ·obtain rfl:=uniq _ _ _ q1 DA
     rw[hj] at q2;cases q2
     exact ⟨id,b',HW,q7,q8,fun h=>pg.trans (qy h).symm⟩
    ·exact absurd DA (c2 j)
   ·have NZ:=(bt.1 hj).1
    have HW:dU σ j=some (.blk (nb+(j-pl.length))):=by
     rw[qx,ln,ik (by omega)]
     exact Dy (by omega)
    have hm:(nb+(j-pl.length),s4 σ b)∈fr:=by
     rw[zB]
     refine NQ ?_
     rw[gP,show pl.length+(j-pl.length)=j by omega]
     exact hj
    rcases cls (nb+(j-pl.length)) with ⟨i,b2,c1,c2,c3,c4,c5⟩|⟨j',b2,b',c,b0,q1,q2,q3,q4,q5,q6,q7,q8,q9,pg,vX,qy⟩|⟨c1,c2,c3⟩
    ·have hi:i=j-pl.length:=by omega
     subst hi
     rw[show pl.length+(j-pl.length)=j by omega] at c2 c5
     rw[hj] at c2;cases c2
     exact ⟨_,_,HW,c3,.of σ _,fun _=>c5⟩
    ·rw[rS _ hm] at q5;cases q5
    ·obtain ⟨b',CI,he⟩:=CF (hp:=hp) (l:=fr++bk) (ej.2 (.inl hm))
     rw[HV,c1,rS _ hm] at he
     cases he
  ·rw[gI] at hj
   have:=List.getElem?_eq_none_iff.1 hj
   rw[qx,ln,List.getElem?_eq_none_iff,bR,HT]
   omega
  ·rw[qx,ln] at hj
   by_cases b7:j<pl.length
   ·rw[ij b7] at hj
    obtain ⟨aD,b1,e,_⟩:=pf j _ hj
    cases e
   ·have NZ:j-pl.length<bs.length-pl.length:=by
     have:=(bt.1 hj).1
     rw[bR,HT] at this
     omega
    rw[ik (by omega),Dy NZ] at hj
    cases hj
 have hle:Le P w I β hp w' I2 β' gB:=by
  refine ⟨vW.c7,vW.b6,fun id blk ab=> ?_,fun id blk blk' b ab bA qz hb=> ?_,fun id e es aq e' aI vers' b q i c t v e1 l ab bA hb aO hv ht hc=> ?_⟩
  ·rcases cls id with ⟨i,b2,c1,c2,c3,c4,c5⟩|⟨j',b2,b',c,b0,q1,q2,q3,q4,q5,q6,q7,q8,q9,pg,vX,qy⟩|⟨c1,c2,c3⟩
   ·rw[ab] at c4;cases c4
   ·rw[ab] at q5;cases q5
    exact ⟨b',q7,q6,fun _=>pg⟩
   ·exact ⟨blk,c1.trans ab,an.le_refl _,fun _=>c3⟩
  ·rcases cls id with ⟨i,b2,c1,c2,c3,c4,c5⟩|⟨j',b2,b',c,b0,q1,q2,q3,q4,q5,q6,q7,q8,q9,pg,vX,qy⟩|⟨c1,c2,c3⟩
   ·rw[ab] at c4;cases c4
   ·rw[q7] at bA;cases bA
    exact vW.size j' c b2 b q3 (by rw[gI];exact q2) (q8.NT qz) (q4.HU.1.trans hb)
   ·rw[c1,ab] at bA
    cases bA
    simp only[bsize,(other id blk b ab (.root qz hb) c2).2.1]
  ·rcases cls id with ⟨i2,b2,c1,c2,c3,c4,c5⟩|⟨j',b2,b',c',b0,q1,q2,q3,q4,q5,q6,q7,q8,q9,pg,vX,qy⟩|⟨c1,c2,c3⟩
   ·rw[ab] at c4;cases c4
   ·rw[q7] at bA;cases bA
    obtain ⟨_,_,tL,_,_,k1,k2⟩:=q9 ⟨_,_,_,rfl⟩
    change hp id=_ at k1
    rw[ab] at k1;cases k1
    cases k2
    rw[NU aO] at hv
    omega
   ·rw[c1,ab] at bA
    cases bA
    exact ⟨l,rfl,hc.mono fun _ _ _ _ h=>(other id _ _ ab (.row hb h) c2).2.1⟩
 have place: ∀id blk b,gB id=some blk→bu P w' (β' id) blk b→(∃j c,ji bs j=some c∧bu P w' (bV j) c b∧dU σ j=some (.blk id))∨(b<w.heap.size∧¬og P w o hp0 b∧hp id=some blk∧bu P w (β id) blk b):=by
  intro id blk b e1 e3
  rcases cls id with ⟨i,b2,c1,c2,c3,c4,c5⟩|⟨j',b2,b',c,b0,q1,q2,q3,q4,q5,q6,q7,q8,q9,pg,vX,qy⟩|⟨c1,c2,c3⟩
  ·rw[c3] at e1;cases e1
   rw[c5] at e3
   refine .inl ⟨pl.length+i,b2,by rw[gI];exact c2,(fU.of σ b2).tK e3,?_⟩
   have:=(bt.1 c2).1
   rw[qx,ln,ik (by omega),Dy (by omega),c1]
   congr 3
   omega
  ·rw[q7] at e1;cases e1
   have qz:b2≠ .dead:=q8.NT e3.alive
   rw[pg,←qy qz] at e3
   exact .inl ⟨j',b2,by rw[gI];exact q2,q8.tK e3,by rw[qx];exact oe (by rw[ln];exact q1)⟩
  ·rw[c1] at e1
   rw[c3] at e3
   have:=e3.mono (w:=w) fun b hb=>(other id blk b e1 hb c2).2.1
   exact .inr ⟨S.h.lt e1 this,(other id blk b e1 this c2).1,e1,this⟩
 have rG: ∀b,og P w o hp0 b∨w.heap.size≤b→M b∨B≤b:=by
  rintro b (h|h)
  ·obtain ⟨j,id,b1,i1,i2,i3,_⟩:=NY b h
   exact S.h.own id b1 b i2 i3
  ·exact .inr (lH S.size h)
 have HX: ∀j c b,ji bs j=some c→bu P w' (bV j) c b→og P w o hp0 b∨w.heap.size≤b:=fun j c b h1 U=>Sc.h.own j c b h1 U
 refine ⟨β',hle,⟨⟨fun id blk ab=> ?_,fun i1 i2 b1 b2 b e1 e2 f1 f2=> ?_,fun id blk b ab hb=> ?_,Sc.h.jn⟩,fun b hb hM=> ?_,lH S.size Sc.size,fun b hb=> ?_,⟨Sc.io.1.trans S.io.1,Sc.io.2.trans S.io.2⟩⟩,rN⟩
 ·rcases cls id with ⟨i,b2,c1,c2,c3,c4,c5⟩|⟨j',b2,b',c,b0,q1,q2,q3,q4,q5,q6,q7,q8,q9,pg,vX,qy⟩|⟨c1,c2,c3⟩
  ·rw[c3] at ab;cases ab
   rw[c5]
   exact rN.NS (Sc.h.rel _ b2 (by rw[gI];exact c2)) (.of σ b2)
  ·rw[q7] at ab;cases ab
   have:=rN.NS (Sc.h.rel j' b2 (by rw[gI];exact q2)) q8
   by_cases qz:b2= .dead
   ·subst qz
    cases q8
    exact .dead
   ·rw[pg,←qy qz]
    exact this
  ·rw[c1] at ab
   rw[c3]
   exact (S.h.rel id blk ab).mono hle fun b hb=>(other id blk b ab hb c2).2
 ·rcases place i1 b1 b e1 f1 with ⟨j1,c1,g1,g2,g3⟩|⟨g1,g2,g3,g4⟩<;>rcases place i2 b2 b e2 f2 with ⟨j2,c2,k1,k2,k3⟩|⟨k1,k2,k3,k4⟩
  ·have:=Sc.h.inj j1 j2 c1 c2 b g1 k1 g2 k2
   subst this
   rw[g3] at k3
   cases k3
   rfl
  ·rcases HX j1 c1 b g1 g2 with h|h
   ·exact absurd h k2
   ·omega
  ·rcases HX j2 c2 b k1 k2 with h|h
   ·exact absurd h g2
   ·omega
  ·exact S.h.inj i1 i2 _ _ b g3 k3 g4 k4
 ·rcases place id blk b ab hb with ⟨j1,c1,g1,g2,g3⟩|⟨g1,g2,g3,g4⟩
  ·exact rG b (HX j1 c1 b g1 g2)
  ·exact S.h.own id blk b g3 g4
 ·refine (Sc.b6 b (rb hb S.size) fun hx=> ?_).trans (S.b6 b hb hM)
  rcases rG b (.inl hx) with h|h
  ·exact hM h
  ·omega
 ·rcases Sc.new b hb with h|h|h
  ·exact S.new b h
  ·exact .inr (rG b (.inl h))
  ·exact .inr (rG b (.inr h))
end
section
variable {P:Program} {A:cx} {w w':World} {I I' I2:Nat→Prop} {μ β β' bV:Nat→Option Nat} {hp hp' hp0 br:Nat→Option an} {C:ag} {B:Nat} {M:Nat→Prop} {w0:Start}
theorem N0 (hp:Nat→Option an): ∀(a b:List (Nat × an)),bG hp (a++b)=bG (bG hp b) a
 | [],b=>rfl
 | (i,x)::a,b=>by simp only[List.cons_append,bG,N0 hp a b]
theorem vY {hp:Nat→Option an} {l:List (Nat × an)} {id:Nat} (h: ∀q∈l,q.1≠id):bG hp l id=hp id:=by
 rcases ti (hp:=hp) (l:=l) (id:=id) with h1|⟨b,hb,_⟩
 ·exact h1
 ·exact absurd rfl (h _ hb)
def yf (P : Program) : Prop := ∀ (f : Nat) fn, P.funcs[f]? = some fn → (fn.name == "runtime.NumGoroutine") = false
def N3 (P:Program) (f:FuncId) (e:TypeId):Prop:=
 (∀args w,(callFunc f args).run P w= .ok (.enter f args) w)∧∃t,P.underlying t=some (.slice e)∧
  ∀(s:Value) (w:World) (Q:Ending→World→Prop),(s= .slice none 0 0→Q (.returned (.slice none 0 0)) w)→
   (∀a n c,s= .slice (some a) n c→∃v w',(Builtin.append_ #[t,t] t #[.slice (some ⟨w.heap.size,0,none⟩) 0 0,s]).run P (w.alloc (.cells #[] e))= .ok v w'∧Q (.returned v) w')→
   (s= .slice none 0 0∨∃a n c,s= .slice (some a) n c)→Calls P f #[s] w Q
structure iG (P:Program) (A:cx):Prop where
 count:yf P
 ext: ∀f T,A.ext f=some T→∀(b:Nat) (C:Array Value) (w:World),w.heap[b]? =some (.cells C T (0,0))→C.size=P.cellsOf T→(C[0]? =some (.pointer none)∨C[0]? =some (.pointer (some ⟨b,0,none⟩)))→
  (callFunc f #[.pointer (some ⟨b,0,none⟩)]).run P w= .ok (.enter f #[.pointer (some ⟨b,0,none⟩)]) w∧
  Calls P f #[.pointer (some ⟨b,0,none⟩)] w fun e w'=>e= .returned (.tuple #[])∧(w'=w∨w'=w.setCell ⟨b,0,none⟩ (.pointer (some ⟨b,0,none⟩)))
 idle: ∀f,A.idle f=true→(∀args w,(callFunc f args).run P w= .ok (.enter f args) w)∧
  ∀args w,CallsD P f args .returning w fun e u' w'=>(∃v,e= .returned v)∧u'= .returning∧w'=w
 nO: ∀f e,A.nO f=some e→N3 P f e
theorem iG.here {P:Program} {A:cx} (h:iG P A) (f id:Nat):iG P (A.here f id):=⟨h.count,h.ext,h.idle,h.nO⟩
def zC (E:FuncId→Bool) (d:Deferred):Prop:= ∃f cap,d.target= .fn (.func f) cap∧E f=true
theorem HY {P:Program} {A:cx} (hP:iG P A) {fn:Func} {tmps:Array Value} {R:Ending→World→Prop} {w:World} {v:Value} (hv:(results fn tmps).run P w= .ok v w) (hR:R (.returned v) w):
  ∀ds:List Deferred,(∀d∈ds,zC A.idle d)→Leaves P fn tmps R ds .returning w
 | [],_=>⟨v,hv,hR⟩
 | d::ds,h=>by
  obtain ⟨f,cap,ht,hf⟩:=h d (by simp)
  obtain ⟨k1,k2⟩:=hP.idle f hf
  obtain ⟨t,N4⟩:=d
  simp only at ht
  subst ht
  refine leaves_cons (f:=f) (args:=N4++cap) (by simp) ?_ ?_
  ·simp only[invoke];exact k1 _ w
  ·refine (k2 (N4++cap) w).mono fun e u' w' hr=> ?_
   obtain ⟨⟨v',rfl⟩,rfl,rfl⟩:=hr
   exact HY hP hv hR ds fun d hd=>h d (kS _ hd)
def zD (P:Program) (A:cx) (o:Oper) (a:Act) (w:World) (I:Nat→Prop) (β:Nat→Option Nat) (hp:Nat→Option an) (B:Nat) (M:Nat→Prop) (w0:Start) (r:R):Prop:=
 ∀(next:Act→World→Prop) (Q:Exit→Act→World→Prop),
  (∀v w' I' β' ds,Le P w I β hp w' I' β' (bG hp r.upd)→aF P w' I' β' (bG hp r.upd) B M w0→ao P w' I' β' (bG hp r.upd) v r.v→(∀d∈ds,d∈a.defers∨zC A.idle d)→next ({a with defers:=ds}.put o.dst v) w')→o.wp P a w next Q
theorem o4.step {o:Oper} {a:Act} {r:R} (h:o4 P ((execOp a.eval o).run P w) w I β hp B M w0 r):zD P A o a w I β hp B M w0 r:=by
 obtain ⟨v,w',I',β',h1,U,h3,h4⟩:=h
 intro next Q hn
 unfold Oper.wp
 rcases h1 with h1|⟨h1,rfl⟩
 ·rw[h1];exact hn v w' I' β' a.defers U h3 h4 fun d hd=> .inl hd
 ·rw[h1];exact hn _ w' I' β' a.defers U h3 h4 fun d hd=> .inl hd
theorem N5: ∀(l:List (Nat × VS)),nQ l=rA (l.map (·.2))
 | []=>rfl
 | (_,s)::l=>by simp only[nQ,cF,rA,N5 l]
theorem XO (hC:kG P A C) (S:aF P w I β hp B M w0) (hg:ga P A.aE w I) {vals:List Value} {args:List V} {nb key:Nat} {f:FuncId} {r:R} {rd:List Nat} (hlen:vals.length=args.length)
  (cy: ∀(j:Nat) v x,vals[j]? =some v→args[j]? =some x→ao P w I β hp v x) (h:(yL P A nb key f args).run C hp=some (r,rd)):
  ∃fn c,P.funcs[f]? =some fn∧fn.body=some c∧Calls P f vals.toArray w fun e w'=> ∃v I' β',e= .returned v∧Le P w I β hp w' I' β' (bG hp r.upd)∧aF P w' I' β' (bG hp r.upd) B M w0∧ao P w' I' β' (bG hp r.upd) v r.v:=by
 unfold yL at h
 obtain ⟨N6,h0⟩:=aG h
 clear h
 rw[aP] at N6
 subst N6
 obtain ⟨h1,iZ,d1,u1,a1,a2,a3,a5,a4⟩:=HQ S h0 hlen cy
 obtain ⟨U,rR,d2,u2,b1,b2,b3,b4⟩:=NH S a1
 clear h0 a1
 obtain ⟨hc,h3⟩:=aG b1
 clear b1
 simp only[aK,aP,mA] at hc
 obtain ⟨bZ,Dx⟩:=hc
 have rT:=a2.trans b2
 have kQ:U.ds=d1++d2:=by have:=rT.ds;simpa using this
 have DB:U.upd=u1++u2:=by have:=rT.upd;simpa using this
 have jZ:(U.pl.map Place.id).Nodup:=rT.nodup (by simp)
 obtain ⟨c1,o,c2,c3⟩:=b4 []
 simp only[c6] at c1 c2 c3
 cases zF:C key U.ds with
 | none=>
  simp only[Rd.run,zF] at h3
  cases h3
 | some es=>
  have qd: ∃eF,(yK P (A.so key es) nb U (A.lv key es)).run C hp=some (r,eF):=by
   obtain ⟨x,hx,e⟩:=bind_some h3
   rw[zF] at hx
   cases hx
   unfold cx.so cx.lv
   cases b8:A.alt key with
   | none=>rw[b8] at e;exact ⟨_,e⟩
   | some S2=>
    rw[b8] at e
    simp only[Rd.run] at e
    cases hb:(V.nth es 0).toBool<;>(rw[hb] at e;exact ⟨_,e⟩)
  clear h3
  obtain ⟨eF,h3⟩:=qd
  unfold yK at h3
  simp only at h3
  generalize gC:en (A.so key es).ba ((A.lv key es).drop (nQ (A.so key es).bJ))=bs at h3
  generalize qx:U.pl++rB nb (bs.length-U.pl.length)=σ at h3
  generalize zB:pY σ nb (bs.drop U.pl.length)=fr at h3
  obtain ⟨p0,bk,rd4,p1,p2,_,p3⟩:=NO h3
  obtain ⟨rS,rd5,p4⟩:=NR p1
  obtain rfl:=aM p4
  have qg:U.pl.length≤bs.length:=by rw[eL] at p0;omega
  have Dz: ∀q∈bk,∃(j:Nat) (b:an),U.pl[j]? =some (.blk q.1)∧bs[j]? =some b∧fU σ b q.2∧zA hp q:=by
   intro q hq
   rcases p2 q hq with hx|⟨j,b,k1,k2,k3,k4⟩
   ·simp at hx
   ·have hj:=(bt.1 k1).1
    rw[eK hj] at k2
    exact ⟨j,b,k1,k2,k3,k4⟩
  obtain ⟨fn,c,hf,hb,HZ⟩:=hC key U.ds es zF
  refine ⟨fn,c,hf,hb,?_⟩
  have XP:en (A.sin key).ba (U.ds.drop (nQ (A.sin key).bJ))=en (A.sin key).ba d2:=by
   rw[kQ,N5,mX a3]
  have H0:(bq (A.sin key) U.ds).hp=ji (en (A.sin key).ba d2):=by
   simp only[bq,mk,XP]
  have hl: ∀j blk,(bq (A.sin key) U.ds).hp j=some blk→∃p,dU U.pl j=some p∧dK P w β hp p (o j) blk:=by
   intro j blk hj
   rw[H0,gI] at hj
   obtain ⟨p,k1,k2⟩:=c2 j blk hj
   rw[gx] at k1
   exact ⟨p,k1,k2⟩
  have hd: ∀j,j<U.pl.length→∃blk,(bq (A.sin key) U.ds).hp j=some blk:=by
   intro j hj
   rw[H0,gI]
   exact ⟨_,bB (by rw[c1,←bZ];exact hj)⟩
  have N7:zu P w β hp U.pl o (bq (A.sin key) U.ds).hp:=by
   intro j p hj
   obtain ⟨blk,k1⟩:=hd j (by rw[ln] at hj;exact (bt.1 hj).1)
   obtain ⟨p',k2,k3⟩:=hl j blk k1
   rw[hj] at k2
   cases k2
   exact ⟨blk,k1,k3⟩
  obtain ⟨qn,S1⟩:=y4 S rT.Dq
  rw[←DB] at qn S1
  have i1: ∀b,I b→iz P w I β hp U.upd b:=fun b h=> .inl h
  have entry:=XI (hp0:=(bq (A.sin key) U.ds).hp) S jZ Dx hl (fun cH j blk hj=>by
   have gj:=hj
   rw[H0,gI] at gj
   exact c3 (iz P w I β hp U.upd) o _ i1 (fun q hq b hb=> .inr ⟨q,by rw[DB];exact ej.2 (.inr hq),hb⟩) U.pl [] (by simp) N7 j blk gj (cH j blk hj)) S1.h.jn
  have XQ:vals.length=(A.sin key).bJ.length:=by rw[hlen,←a5];simp
  have ha:=HZ w (iz P w I β hp U.upd) o vals entry (hg.mono i1 fun _ _=>rfl) XQ fun j v x hj hx=>by
   rw[kQ] at hx
   exact (((a4.zw b2) (iz P w I β hp U.upd) o _ i1 (fun q hq b hb=> .inr ⟨q,by rw[DB];exact hq,hb⟩) U.pl [] (by simp) N7) d2).2 j v x hj hx
  refine ha.mono fun e w' zG=> ?_
  obtain ⟨v,I2,bV,rfl,ha⟩:=zG
  have vZ:(bq (A.so key es) (A.lv key es)).hp=ji bs:=by simp only[bq,mk,gC]
  cases XR:(A.so key es).safe P with
  | true=>
   simp only[cond_true,c6]
   have gF: ∀b,I b→I2 b:=fun b h=>ha.le.c7 b (i1 b h)
   obtain ⟨s1,s2⟩:=XL XR gF ha.vV i1
   have vW:kF w I o (bq (A.sin key) U.ds).hp w' I bV (ji bs):=by
    rw[←vZ]
    exact ⟨fun _ h=>h,fun b h=>ha.le.b6 b (i1 b h),ha.le.blk,ha.le.size⟩
   obtain ⟨β',k1,k2,k3⟩:=NW S qx.symm zB.symm jZ qg p3 Dz hl hd (by rw[←vZ];exact ⟨s1.h,s1.b6,s1.size,fun b h=> .inl h,s1.io⟩) vW rS
   exact ⟨v,I,β',rfl,k1,k2,k3.val (by have:=s2 v ha.res;rw[vZ] at this;exact this)⟩
  | false=>
   simp only[cond_false]
   rw[←cj,N0]
   have oj: ∀p∈U.pl,bG hp U.upd p.id=hp p.id:=fun p hp=>vY fun q hq e=>
    Dw Dx (gd.2 ⟨q,hq,rfl⟩) (e▸gd.2 ⟨p,hp,rfl⟩)
   have XS: ∀q∈bk,∃(j:Nat) (b:an),U.pl[j]? =some (.blk q.1)∧bs[j]? =some b∧fU σ b q.2∧zA (bG hp U.upd) q:=by
    intro q hq
    obtain ⟨j,b,k1,k2,k3,k4⟩:=Dz q hq
    refine ⟨j,b,k1,k2,k3,fun hn=> ?_⟩
    have:=oj _ (jg k1)
    simp only[Place.id] at this
    rw[this]
    exact k4 hn
   have rE: ∀j blk,(bq (A.sin key) U.ds).hp j=some blk→∃p,dU U.pl j=some p∧dK P w β (bG hp U.upd) p (o j) blk:=by
    intro j blk hj
    obtain ⟨p,k1,k2⟩:=hl j blk hj
    exact ⟨p,k1,k2.other (oj p (by rw[ln] at k1;exact jg k1))⟩
   have XT: ∀q∈fr,bG hp U.upd q.1=none:=by
    intro q hq
    rw[vY fun q' zH e=> ?_]
    ·exact rS q hq
    ·obtain ⟨e1,cf,_,h5⟩:=rT.Dq q' (DB▸zH)
     rw[e,rS q hq] at h5
     rcases h5 with ⟨_,h5⟩|⟨_,h5⟩<;>cases h5
   obtain ⟨β',k1,k2,k3⟩:=NW S1 qx.symm zB.symm jZ qg p3 XS rE hd (by rw[←vZ];exact ha.vV) (by rw[←vZ];exact ha.le) XT
   exact ⟨v,I2,β',rfl,qn.trans k1,k2,k3.val (by have:=ha.res;rw[vZ] at this;exact this)⟩
theorem N8 (hC:kG P A C) (hP:iG P A) (S:aF P w I β hp B M w0) (hg:ga P A.aE w I) {a:Act} {nb key:Nat} {o:Oper} {f:FuncId} {vals:List Value} {args:List V} (hlen:vals.length=args.length)
  (cy: ∀(j:Nat) v x,vals[j]? =some v→args[j]? =some x→ao P w I β hp v x) {r:R} {rd:List Nat} (h:(yL P A nb key f args).run C hp=some (r,rd))
  (hex:(execOp a.eval o).run P w=(callFunc f vals.toArray).run P w):zD P A o a w I β hp B M w0 r:=by
 intro next Q hn
 obtain ⟨fn,c,hf,hb,HZ⟩:=XO hC S hg hlen cy h
 unfold Oper.wp
 rw[hex,MuLone.run_callFunc_enter hf (hP.count f _ hf) hb,Oper.upon_enter]
 refine HZ.mono fun e w' zG=> ?_
 obtain ⟨v,I2,bV,rfl,k1,k2,k3⟩:=zG
 exact hn v w' I2 bV a.defers k1 k2 k3 fun d hd=> .inl hd
theorem kz.args {a:Act} {sl:Nat→V} (hs:kz P w I β hp a sl) (hg:ga P A.aE w I) {args:Array Operand} {ts:Array TypeId} (aU:args.size=ts.size):
  (args.map a.eval).toList.length=((args.toList.zip ts.toList).map fun p=>aN P A.aE p.2 sl p.1).length∧
  ∀(j:Nat) v x,(args.map a.eval).toList[j]? =some v→((args.toList.zip ts.toList).map fun p=>aN P A.aE p.2 sl p.1)[j]? =some x→ao P w I β hp v x:=by
 refine ⟨by simp;omega,fun j v x hv hx=> ?_⟩
 simp only[Array.toList_map,gf,List.getElem?_zip_eq_some,yp] at hv hx
 obtain ⟨x1,zI,rfl⟩:=hv
 obtain ⟨⟨y1,t1⟩,⟨N9,_⟩,rfl⟩:=hx
 rw[zI] at N9
 cases N9
 exact hs.ev hg t1 _
theorem Oa {vs us:List Value} {xs ys:List V} (h1:vs.length=xs.length) (U: ∀(j:Nat) v x,vs[j]? =some v→xs[j]? =some x→ao P w I β hp v x)
  (h3: ∀(j:Nat) v x,us[j]? =some v→ys[j]? =some x→ao P w I β hp v x) (j:Nat) (v:Value) (x:V) (hv:(vs++us)[j]? =some v) (hx:(xs++ys)[j]? =some x):ao P w I β hp v x:=by
 by_cases hj:j<vs.length
 ·rw[ij hj] at hv
  rw[ij (by omega)] at hx
  exact U j v x hv hx
 ·rw[ik (by omega)] at hv
  rw[ik (by omega)] at hx
  rw[h1] at hv
  exact h3 _ v x hv hx
theorem XU (hP:iG P A) (S:aF P w I β hp B M w0) (hg:ga P A.aE w I) {a:Act} {sl:Nat→V} (hs:kz P w I β hp a sl) {dst:Option Tmp} {ty e:TypeId} {pos:String} {after:Array Edge} {guard:Option (Nat × Bool)} {f:FuncId}
  {args:Array Operand} {argTypes:Array TypeId} {nb:Nat} {r:R} {rd:List Nat} (kE:A.nO f=some e)
  (h:((match args.toList with
    | [x]=> .aC (cI P e) (ry e (aN P A.aE ty sl x) fun xs=> .aC (Nat.ble (xs.length*P.bytesOf e) bS) (iS nb (.arr e xs false) (.whole e nb) []))
    | _=> .fail):Rd R).run C hp=some (r,rd)):zD P A (Oper.mk dst (.call (Go.Call.mk (.value (.func f)) args argTypes)) ty pos after guard) a w I β hp B M w0 r:=by
 cases ha:args.toList with
 | nil=>rw[ha] at h;cases h
 | cons x l=>
  rw[ha] at h
  cases l with
  | cons _ _=>cases h
  | nil=>
   simp only at h
   have e1:args= #[x]:=by rw[←Array.toArray_toList (xs:=args),ha]
   subst e1
   have hx:=hs.ev hg ty x
   obtain ⟨au,h⟩:=aG h
   have fin: ∀{w1:World} {DC:Nat→Option Nat},(∀id blk,hp id=some blk→dI P w1 I DC hp (DC id) blk)→ao P w1 I DC hp (a.eval x) (aN P A.aE ty sl x)→∃xs,(((∃a',a.eval x= .slice a' 0 0)∧xs=[])∨∃a' c news,Row P w1 I e (a.eval x) xs a' c news)∧
     xs.length*P.bytesOf e≤bS∧hp nb=none∧r=⟨.whole e nb,[(nb,.arr e xs false)]⟩:=by
    intro w1 DC h1 U
    obtain ⟨xs,ll,l,h⟩:=C8 h1 au U h
    obtain ⟨dF,h⟩:=aG h
    rw[di] at dF
    obtain ⟨hn,rfl⟩:=mS h
    exact ⟨xs,ll,dF,hn,rfl⟩
   obtain ⟨c1,t,hu,c2⟩:=hP.nO f e kE
   intro next Q v5
   unfold Oper.wp
   have e2:(execOp a.eval ⟨dst,.call ⟨.value (.func f),#[x],argTypes⟩,ty,pos,after,guard⟩).run P w= .ok (.enter f #[a.eval x]) w:=by
    have eG:a.eval (.func f)= .func (.func f) #[] #[]:=rfl
    simpa[execOp,resolve,eG,Deferred.ofValue,invoke] using c1 #[a.eval x] w
   rw[e2,Oper.upon_enter]
   refine c2 _ w _ (fun zJ=> ?_) (fun b n c ql=> ?_) ?_
   ·obtain ⟨xs,ll,dF,hn,rfl⟩:=fin S.h.rel hx
    have gk:xs=[]:=by
     rcases ll with ⟨_,h⟩|⟨a,c,news,hr⟩
     ·exact h
     ·have:=hr.val.symm.trans zJ
      cases this
    subst gk
    obtain ⟨a1,a2⟩:=CJ S e hn
    exact v5 _ w I _ a.defers a1 a2 (.dt (cM _ _ _) (cM _ _ _)) fun d hd=> .inl hd
   ·obtain ⟨m1,m2⟩:=Vr (w':=w.alloc (.cells #[] e)) S (fun b hb=>heap_alloc_old w _ b hb) (by simp) ⟨rfl,rfl⟩
    obtain ⟨xs,ll,dF,hn,rfl⟩:=fin m2.h.rel (hx.mono m1)
    obtain ⟨v,w',β',a1,a2,a3,a4⟩:=Hi (ty:=t) (a0:=some ⟨w.heap.size,0,none⟩) m2 hu au hn dF ll
    exact ⟨v,w',a1,v5 v w' I β' a.defers (m1.trans a2) a3 a4 fun d hd=> .inl hd⟩
   ·obtain ⟨xs,ll,dF,hn,rfl⟩:=fin S.h.rel hx
    rcases ll with ⟨⟨b,h⟩,_⟩|⟨b,c,news,hr⟩
    ·rw[h]
     cases b with
     | none=>exact .inl rfl
     | some b=>exact .inr ⟨_,_,_,rfl⟩
    ·exact .inr ⟨_,_,_,hr.val⟩
theorem XV (hP:iG P A) (S:aF P w I β hp B M w0) (hg:ga P A.aE w I) {a:Act} {sl:Nat→V} (hs:kz P w I β hp a sl) {dst:Option Tmp} {ty T0:TypeId} {pos:String} {after:Array Edge} {guard:Option (Nat × Bool)} {f:FuncId}
  {args:Array Operand} {argTypes:Array TypeId} {r:R} {rd:List Nat} (zK:A.ext f=some T0)
  (h:((match args.toList with
   | [x]=>
    match aN P A.aE ty sl x with
    | .ptr id i c=>Rd.get id fun
     | some (.var T cs)=> .aC (Nat.beq T T0&&(oU P T&&(Nat.beq cs.length (P.cellsOf T)&&(Nat.beq i 0&&Nat.beq c 0)))) (.ret ⟨.bd [],[(id,.var T (.undef::cs.tail))]⟩)
     | _=> .fail
    | _=> .fail
   | _=> .fail):Rd R).run C hp=some (r,rd)):zD P A (Oper.mk dst (.call (Go.Call.mk (.value (.func f)) args argTypes)) ty pos after guard) a w I β hp B M w0 r:=by
 cases ha:args.toList with
 | nil=>rw[ha] at h;cases h
 | cons x l=>
  rw[ha] at h
  cases l with
  | cons _ _=>cases h
  | nil=>
   simp only at h
   have e1:args= #[x]:=by rw[←Array.toArray_toList (xs:=args),ha]
   subst e1
   have hx:=hs.ev hg ty x
   cases eX:aN P A.aE ty sl x<;>rw[eX] at h hx<;>simp only at h<;>first|(cases h;done)|skip
   rename_i id i c
   obtain ⟨l,h1⟩:=run_get h
   cases ab:hp id with
   | none=>rw[ab] at h1;cases h1
   | some blk=>
    rw[ab] at h1
    cases blk<;>simp only at h1<;>first|(cases h1;done)|skip
    rename_i T cs
    obtain ⟨U,h3⟩:=aG h1
    simp only[aK,aP] at U
    obtain ⟨rfl,bL,v7,rfl,rfl⟩:=U
    obtain rfl:=aM h3
    obtain ⟨b,hb,he⟩:=hx.gD ab (by simp)
    have hr:=S.h.rel id _ ab
    rw[hb] at hr
    cases hr with
    | @var _ b' Ca _ aA hh aU hI gk fQ=>
     cases aA
     have gE:a.eval x= .pointer (some ⟨b,0,none⟩):=by rw[he];simp[an.sz]
     obtain ⟨q1,q2⟩:=hP.ext f T zK b Ca w hh (aU.trans v7) (fQ bL)
     have h0:0<Ca.size:=by
      rcases fQ bL with k|k<;>exact (gQ.1 k).1
     have nX:(V.undef::cs.tail).length=cs.length:=by
      cases cs with
      | nil=>rw[aU] at h0;simp at h0
      | cons _ _=>rfl
     have rel: ∀(C':Array Value),(∀j,0<j→C'[j]? =Ca[j]?)→∀(j:Nat) v y,C'[j]? =some v→(V.undef::cs.tail)[j]? =some y→ao P w I β hp v y:=by
      intro C' vK j v y hj hy
      cases j with
      | zero=>simp at hy;subst hy;exact .undef
      | succ j=>
       rw[vK _ (by omega)] at hj
       refine gk (j+1) v y hj ?_
       cases cs with
       | nil=>rw[aU] at h0;simp at h0
       | cons _ _=>simpa using hy
     have fin: ∀w' C',(∀b',b'≠b→w'.heap[b']? =w.heap[b']?)→w'.heap[b]? =some (.cells C' T (0,0))→C'.size=Ca.size→w.heap.size≤w'.heap.size→w'.os=w.os∧w'.output=w.output→
       (∀j,0<j→C'[j]? =Ca[j]?)→(C'[0]? =some (.pointer none)∨C'[0]? =some (.pointer (some ⟨b,0,none⟩)))→
       Le P w I β hp w' I β (aH hp id (some (.var T (V.undef::cs.tail))))∧aF P w' I β (aH hp id (some (.var T (V.undef::cs.tail)))) B M w0:=by
      intro w' C' k1 k2 k3 k4 k5 k6 k7
      exact CL (w':=w') (blk':= .var T (V.undef::cs.tail)) S ab (by simp) rfl hb hI (by simp) k1 (by rw[mN k2,mN hh,k3]) k4 k5 fun hle=>
       .var rfl k2 (by rw[k3,aU,nX]) hI (fun j v y hj hy=>(rel C' k6 j v y hj hy).mono hle) fun _=>k7
     intro next Q hn
     unfold Oper.wp
     have e2:(execOp a.eval ⟨dst,.call ⟨.value (.func f),#[x],argTypes⟩,ty,pos,after,guard⟩).run P w= .ok (.enter f #[.pointer (some ⟨b,0,none⟩)]) w:=by
      have eG:a.eval (.func f)= .func (.func f) #[] #[]:=rfl
      simpa[execOp,resolve,eG,Deferred.ofValue,invoke,gE] using q1
     rw[e2,Oper.upon_enter]
     refine q2.mono fun e w' zG=> ?_
     obtain ⟨rfl,hw⟩:=zG
     have Ob:Le P w I β hp w' I β (aH hp id (some (.var T (V.undef::cs.tail))))∧aF P w' I β (aH hp id (some (.var T (V.undef::cs.tail)))) B M w0:=by
      rcases hw with rfl|rfl
      ·exact fin w' Ca (fun _ _=>rfl) hh rfl (bW _) ⟨rfl,rfl⟩ (fun _ _=>rfl) (fQ bL)
      ·refine fin (w.setCell ⟨b,0,none⟩ (.pointer (some ⟨b,0,none⟩))) (Ca.setIfInBounds 0 (.pointer (some ⟨b,0,none⟩))) (fun b' bz=> ?_) ?_ (by simp) (by simp[World.setCell]) ⟨rfl,rfl⟩ (fun j hj=> ?_) (.inr ?_)
       ·simp only[World.setCell,yo]
        rw[ai (fun e=>bz e.symm)]
       ·simp[World.setCell,yo,hh]
       ·rw[BX (by omega)]
       ·rw[Gg h0]
     exact hn (.tuple #[]) w' I β a.defers Ob.1 Ob.2 (.bd rfl fun j v y hj _=>by simp at hj) fun d hd=> .inl hd
theorem XW (hC:kG P A C) (hP:iG P A) (S:aF P w I β hp B M w0) (hg:ga P A.aE w I) {a:Act} {sl:Nat→V} (hs:kz P w I β hp a sl) {ix nb:Nat} {o:Oper} {r:R} {rd:List Nat}
  (h:(ff P A sl ix nb o).run C hp=some (r,rd)):zD P A o a w I β hp B M w0 r:=by
 cases hc:HH o.op with
 | false=>exact (Xm S hg hs hc h).step
 | true=>
  obtain ⟨dst,op,ty,pos,after,guard⟩:=o
  cases op<;>simp only[HH] at hc<;>first|(cases hc;done)|skip
  case defer c=>
   obtain ⟨callee,args,argTypes⟩:=c
   cases callee with
   | invoke r m=>simp only[ff] at h;cases h
   | builtin b=>simp only[ff] at h;cases h
   | value f=>
   cases f with
   | tmp t=>
    simp only[ff] at h
    cases bL:sl t<;>rw[bL] at h<;>simp only at h<;>first|(cases h;done)|skip
    rename_i f xs ys
    obtain ⟨h1,U⟩:=aG h
    obtain rfl:=aM U
    have hv:=hs t
    rw[bL] at hv
    generalize tD:a.tmps.getD t undef=vt at hv
    cases hv with
    | @fn _ fs cs _ _ q1 q2 q3 q4=>
     intro next Q hn
     unfold Oper.wp
     have eG:a.eval (.tmp t)= .func (.func f) fs cs:=tD
     have e1:(execOp a.eval ⟨dst,.defer ⟨.value (.tmp t),args,argTypes⟩,ty,pos,after,guard⟩).run P w= .ok (.defer {target:= .fn (.func f) cs,args:=fs++args.map a.eval}) w:=by
      simp[execOp,resolve,eG,Deferred.ofValue]
     rw[e1,Oper.upon_defer]
     exact hn undef w I β _ (Le.refl w I β hp) S .undef fun d hd=>by
      rcases dc.1 hd with rfl|hd
      ·exact .inr ⟨f,cs,rfl,h1⟩
      ·exact .inl hd
   | func f=>simp only[ff] at h;cases h
   | const _=>simp only[ff] at h;cases h
   | global _=>simp only[ff] at h;cases h
  rename_i c
  obtain ⟨callee,args,argTypes⟩:=c
  cases callee with
  | invoke r m=>cases hc
  | builtin b=>cases hc
  | value f=>
   cases f with
   | func f=>
    simp only[ff] at h
    cases zK:A.ext f with
    | some T0=>
     rw[zK] at h
     simp only at h
     exact XV hP S hg hs zK h
    | none=>
    rw[zK] at h
    simp only at h
    cases kE:A.nO f with
    | some e0=>
     rw[kE] at h
     simp only at h
     exact XU hP S hg hs kE h
    | none=>
    rw[kE] at h
    simp only at h
    obtain ⟨h1,U⟩:=aG h
    rw[aP] at h1
    obtain ⟨k1,k2⟩:=hs.args hg h1
    refine N8 hC hP S hg k1 k2 U ?_
    have e1:(args.map a.eval).toList.toArray=args.map a.eval:=Array.toArray_toList
    rw[e1]
    simp[execOp,resolve,Act.eval,Deferred.ofValue,invoke]
   | tmp t=>
    simp only[ff] at h
    cases bL:sl t<;>rw[bL] at h<;>simp only at h<;>first|(cases h;done)|skip
    rename_i f xs ys
    obtain ⟨h1,U⟩:=aG h
    rw[aP] at h1
    obtain ⟨k1,k2⟩:=hs.args hg h1
    have hv:=hs t
    rw[bL] at hv
    generalize tD:a.tmps.getD t undef=vt at hv
    cases hv with
    | @fn _ fs cs _ _ q1 q2 q3 q4=>
     have l1:fs.toList.length=xs.length:=by simpa using q1
     have l3:cs.toList.length=ys.length:=by simpa using q3
     have r1: ∀(j:Nat) v x,fs.toList[j]? =some v→xs[j]? =some x→ao P w I β hp v x:=fun j v x hj hx=>q2 j v x (by simpa using hj) hx
     have r3: ∀(j:Nat) v x,cs.toList[j]? =some v→ys[j]? =some x→ao P w I β hp v x:=fun j v x hj hx=>q4 j v x (by simpa using hj) hx
     refine N8 hC hP S hg (vals:=fs.toList++(args.map a.eval).toList++cs.toList) (args:=xs++((args.toList.zip argTypes.toList).map fun p=>aN P A.aE p.2 sl p.1)++ys) (by simp only[bR];omega) ?_ U ?_
     ·exact Oa (by simp only[bR];omega) (Oa l1 r1 k2) r3
     ·have e1:(fs.toList++(args.map a.eval).toList++cs.toList).toArray=fs++args.map a.eval++cs:=by
       apply Array.toList_inj.1;simp
      rw[e1]
      have eG:a.eval (.tmp t)= .func (.func f) fs cs:=tD
      simp[execOp,resolve,eG,Deferred.ofValue,invoke]
   | _=>cases hc
end
section
variable {P:Program} {A:cx} {w w':World} {I I' I2:Nat→Prop} {μ β β':Nat→Option Nat} {hp hp':Nat→Option an} {C:ag} {B:Nat} {M:Nat→Prop} {w0:Start}
structure iH (P:Program) (E:FuncId→Bool) (G:Nat→V) (w:World) (I:Nat→Prop) (β:Nat→Option Nat) (n:Nat) (a:Act) (st:St):Prop where
 sl:kz P w I β st.hp a st.sl
 size:a.tmps.size=n
 defers: ∀d∈a.defers,zC E d
 aE:ga P G w I
theorem H2 {E:FuncId→Bool} {G:Nat→V} {n:Nat} {a:Act} {st:St} {o:Oper} {v:Value} {x:V} {hp':Nat→Option an} {ds:List Deferred} (h:iH P E G w I β n a st) (hle:Le P w I β st.hp w' I' β' hp') (hd:rC o n=true)
  (hv:ao P w' I' β' hp' v x) (kQ: ∀d∈ds,d∈a.defers∨zC E d):iH P E G w' I' β' n ({a with defers:=ds}.put o.dst v) ⟨gU st.sl o.dst x,hp',st.nb⟩:=by
 have Oc: ∀d∈ds,zC E d:=fun d hd=>(kQ d hd).elim (h.defers d) id
 cases XX:o.dst with
 | none=>exact ⟨fun k=>(h.sl k).mono hle,h.size,Oc,h.aE.mono hle.c7 hle.b6⟩
 | some d=>
  have aO:d<a.tmps.size:=by
   unfold rC at hd
   rw[XX] at hd
   rw[h.size]
   simpa using hd
  refine ⟨fun k=> ?_,by simp[Act.put,h.size],Oc,h.aE.mono hle.c7 hle.b6⟩
  simp only[Act.put,gU,aH]
  cases hb:Nat.beq k d with
  | true=>
   rw[aP] at hb
   subst hb
   simpa[aO] using hv
  | false=>
   have bz:d≠k:=fun e=>by rw[e,jf] at hb;cases hb
   have:=(h.sl k).mono hle
   simpa[BX bz] using this
theorem Od {E:FuncId→Bool} {G:Nat→V} {n:Nat} {a:Act} {st:St} {d:Nat} {b:Bool} (h:iH P E G w I β n a st) (hd:st.sl d= .bool b):a.tmps[d]? =some (.bool b):=by
 have:=h.sl d
 rw[hd] at this
 have:=this.jU
 cases ht:a.tmps[d]? with
 | none=>simp[ht] at this;cases this
 | some v=>simp[ht] at this;rw[this]
theorem XY {x:V} {b:Bool} (h:kV x=some (some b)):x= .bool b:=by
 cases x with
 | bool c=>simp only[kV] at h;injection h with h;injection h with h;rw[h]
 | bd vs=>cases vs<;>simp[kV] at h
 | _=>simp[kV] at h
theorem XZ {x:V} (h:kV x=some none):x= .bd []:=by
 cases x with
 | bd vs=>cases vs with
  | nil=>rfl
  | cons _ _=>simp[kV] at h
 | bool c=>simp[kV] at h
 | _=>simp[kV] at h
theorem ao.X0 {v:Value} (h:ao P w I β hp v (.bd [])):v= .tuple #[]:=by
 cases h with
 | @bd cs _ hs _=>
  have:cs= #[]:=by
   apply Array.eq_empty_of_size_eq_zero
   simpa using hs
  rw[this]
theorem ao.Oe:ao P w I β hp Go.undef (.bd []):= .bd (by rfl) (fun j v x _ hx=>by simp at hx)
theorem Of (hC:kG P A C) (hP:iG P A) {ops:Array Oper} {n i nb:Nat} {o:Oper} (ho:ops[i]? =some o) {a:Act} {st st':St} {R W:List Nat} (S:aF P w I β st.hp B M w0) (hA:iH P A.idle A.aE w I β n a st)
  (h:gz P A C n ops i o nb st=some (st',R,W)) {K:Act→World→Prop} {Q:Exit→Act→World→Prop}
  (hK: ∀a' w' I' β',Le P w I β st.hp w' I' β' st'.hp→aF P w' I' β' st'.hp B M w0→iH P A.idle A.aE w' I' β' n a' st'→K a' w'):wpOp P ops Q i K a w:=by
 unfold gz at h
 cases hd:rC o n with
 | false=>rw[hd] at h;cases h
 | true=>
  rw[hd] at h
  simp only[cond_true] at h
  have go: ∀{H3:St} {R W:List Nat},(((ff P A st.sl i (nb+64*i) o).run C st.hp).bind fun r=>some ((⟨gU st.sl o.dst r.1.v,bG st.hp r.1.upd,st.nb⟩:St),p6 r.2 r.1.upd,fw st.hp r.1.upd))=some (H3,R,W)→H3=st'→
    o.wp P a w K Q:=by
   intro H3 R W h e
   obtain ⟨⟨r,rd⟩,h1,U⟩:=bind_some h
   cases U
   subst e
   exact XW hC hP S hA.aE hA.sl h1 K Q fun v w' I' β' ds k1 k2 k3 k4=>hK _ w' I' β' k1 k2 (H2 hA k1 hd k3 k4)
  unfold wpOp
  rw[ho]
  simp only
  cases hg:o.guard with
  | none=>
   rw[hg] at h
   simp only[Region.wanted,hg,cE]
   exact .inl (go h rfl)
  | some gw=>
   obtain ⟨g,want⟩:=gw
   rw[hg] at h
   simp only at h
   cases lp:(ops[g]?).bind (·.dst) with
   | none=>rw[lp] at h;cases h
   | some d=>
    rw[lp] at h
    simp only at h
    cases lY:kV (st.sl d) with
    | none=>rw[lY] at h;cases h
    | some ob=>
    rw[lY] at h
    cases ob with
    | none=>
     have ql:=XZ lY
     have hy:yielded ops a.tmps g=none:=by
      unfold yielded
      rw[lp]
      have:=hA.sl d
      rw[ql] at this
      have hu:=ao.X0 this
      simp only[Option.bind_some]
      cases ht:a.tmps[d]? with
      | none=>rfl
      | some v=>simp[ht] at hu;subst hu;rfl
     simp only[Region.wanted,hg,hy]
     injection h with h
     injection h with h3 h4
     subst h3
     have U:((none:Option Bool)==some want)=false:=rfl
     simp only[U,yq,fa]
     exact hK _ w I β (Le.refl w I β st.hp) S (H2 (ds:=a.defers) hA (Le.refl w I β st.hp) hd ao.Oe fun d h=> .inl h)
    | some b=>
    simp only at h
    have ql:=XY lY
    have hy:yielded ops a.tmps g=some b:=by
     unfold yielded
     rw[lp]
     simp only[Option.bind_some,Od hA ql]
    simp only[Region.wanted,hg,hy]
    by_cases hb:b=want
    ·subst hb
     simp only[beq_self_eq_true,cond_true] at h
     simp only[beq_self_eq_true,cE]
     exact .inl (go h rfl)
    ·have h1:(b==want)=false:=by simp[hb]
     have U:(some b==some want)=false:=by simp[hb]
     rw[h1] at h
     simp only[cond_false] at h
     injection h with h
     injection h with h3 h4
     subst h3
     simp only[U,yq,fa]
     exact hK _ w I β (Le.refl w I β st.hp) S (H2 (ds:=a.defers) hA (Le.refl w I β st.hp) hd ao.Oe fun d h=> .inl h)
def tM (hp hp':Nat→Option an) (c:Nat):Prop:=hp' c=hp c∧(KB≤c→fN (hp' (c-KB))=fN (hp (c-KB)))
theorem tM.symm {c:Nat} (h:tM hp hp' c):tM hp' hp c:=⟨h.1.symm,fun hc=>(h.2 hc).symm⟩
theorem rU {α:Type}: ∀{p:Rd α} {r:α} {rd:List Nat},p.run C hp=some (r,rd)→(∀id∈rd,tM hp hp' id)→p.run C hp'=some (r,rd)
 | .ret a,r,rd,h,_=>h
 | .fail,r,rd,h,_=>by cases h
 | .get id k,r,rd,h,he=>by
  obtain ⟨x,h1,U⟩:=bind_some h
  cases U
  have e1:hp' id=hp id:=(he id (by simp)).1
  have:=rU (p:=k (hp id)) (r:=x.1) (rd:=x.2) h1 (fun i hi=>he i (by simp[hi]))
  simp only[Rd.run,e1,this,Option.bind_some]
 | .live id ok k,r,rd,h,he=>by
  simp only[Rd.run] at h⊢
  cases hk:ok (fN (hp id)) with
  | false=>rw[hk] at h;cases h
  | true=>
   rw[hk] at h
   obtain ⟨x,h1,U⟩:=bind_some h
   cases U
   have e1:fN (hp' id)=fN (hp id):=by
    have:=(he (id+KB) (by simp)).2 (Nat.le_add_left _ _)
    rwa [u5] at this
   have:=rU (p:=k) (r:=x.1) (rd:=x.2) h1 (fun i hi=>he i (by simp[hi]))
   rw[e1,hk,this]
   rfl
 | .opt o k,r,rd,h,he=>by
  obtain ⟨x,h1,U⟩:=bind_some h
  simp only[Rd.run,h1,Option.bind_some]
  exact rU U he
 | .aC b k,r,rd,h,he=>by
  obtain ⟨h1,U⟩:=aG h
  simp only[Rd.run,h1,cond_true]
  exact rU U he
 | .call key ds k,r,rd,h,he=>by
  obtain ⟨x,h1,U⟩:=bind_some h
  simp only[Rd.run,h1,Option.bind_some]
  exact rU U he
 | .alt true x y,r,rd,h,he=>rU (p:=x) h he
 | .alt false x y,r,rd,h,he=>rU (p:=y) h he
theorem X1 {G:Nat→V} {sl sl':Nat→V} {t:TypeId} {x:Operand} (h: ∀k,x= .tmp k→sl k=sl' k):aN P G t sl x=aN P G t sl' x:=by
 cases x with
 | tmp k=>exact h k rfl
 | _=>rfl
theorem X2 {sl sl':Nat→V} {ix nb:Nat} {o:Oper} (h: ∀x∈o.op.operands,∀k,x= .tmp k→sl k=sl' k):ff P A sl ix nb o=ff P A sl' ix nb o:=by
 have eG: ∀t x,x∈o.op.operands→aN P A.aE t sl x=aN P A.aE t sl' x:=fun t x hx=>X1 (h x hx)
 obtain ⟨dst,op,ty,pos,after,guard⟩:=o
 have Og: ∀(t:TypeId) (ps:Array (Nat × Operand)),(∀x∈ps.map (·.2),aN P A.aE t sl x=aN P A.aE t sl' x)→
   (ps.toList.map fun p=>(p.1,aN P A.aE t sl p.2))=ps.toList.map fun p=>(p.1,aN P A.aE t sl' p.2):=fun t ps hp=>
  rm fun p hm=>by rw[hp p.2 (Array.mem_map.2 ⟨p,oP.1 hm,rfl⟩)]
 have X3: ∀(t:TypeId) (ps:Array (Nat × Operand)),(∀x∈ps.map (·.2),aN P A.aE t sl x=aN P A.aE t sl' x)→
   (ps.toList.map fun p=>(aN P A.aE t sl p.2).cells)=ps.toList.map fun p=>(aN P A.aE t sl' p.2).cells:=fun t ps hp=>
  rm fun p hm=>by rw[hp p.2 (Array.mem_map.2 ⟨p,oP.1 hm,rfl⟩)]
 cases op<;>simp only[Op.operands] at eG<;>simp only[ff]
 case pick c x y=>rw[eG ty c (by simp),eG ty x (by simp),eG ty y (by simp)]
 case build t ps=>rw[Og ty ps fun x hx=>eG ty x (by simpa using hx),X3 ty ps fun x hx=>eG ty x (by simpa using hx)]
 case buildSlice t len ps=>
  split
  ·rename_i e _
   rw[Og e ps fun x hx=>eG e x (by simpa using hx)]
  ·rfl
 case slice t x lo hi mx=>
  cases mx with
  | some m=>
   have e1:lo.map (aN P A.aE 0 sl)=lo.map (aN P A.aE 0 sl'):=by
    cases lo with
    | none=>rfl
    | some l=>simp only[Option.map_some,eG 0 l (by simp)]
   have e2:hi.map (aN P A.aE 0 sl)=hi.map (aN P A.aE 0 sl'):=by
    cases hi with
    | none=>rfl
    | some l=>simp only[Option.map_some,eG 0 l (by simp)]
   have e3:=eG 0 m (by simp)
   simp only[eG ty x (by simp),e1,e2,e3]
  | none=>
   have e1:lo.map (aN P A.aE 0 sl)=lo.map (aN P A.aE 0 sl'):=by
    cases lo with
    | none=>rfl
    | some l=>simp only[Option.map_some,eG 0 l (by simp)]
   have e2:hi.map (aN P A.aE 0 sl)=hi.map (aN P A.aE 0 sl'):=by
    cases hi with
    | none=>rfl
    | some l=>simp only[Option.map_some,eG 0 l (by simp)]
   simp only[eG ty x (by simp),e1,e2]
 case call c=>
  obtain ⟨callee,args,argTypes⟩:=c
  have tN: ∀t x,x∈args→aN P A.aE t sl x=aN P A.aE t sl' x:=fun t x hx=>eG t x (by simp[Call.operands,hx])
  have hl: ∀t (l:List Operand),(∀x∈l,x∈args)→l.map (aN P A.aE t sl)=l.map (aN P A.aE t sl'):=fun t l hl=>rm fun x hx=>tN t x (hl x hx)
  have hz:((args.toList.zip argTypes.toList).map fun p=>aN P A.aE p.2 sl p.1)=(args.toList.zip argTypes.toList).map fun p=>aN P A.aE p.2 sl' p.1:=
   rm fun p hp=>tN p.2 p.1 (oP.1 (List.of_mem_zip hp).1)
  cases callee with
  | invoke r m=>rfl
  | builtin b=>
   have b8: ∀x∈args.toList,∀t,aN P A.aE t sl x=aN P A.aE t sl' x:=fun x hx t=>tN t x (oP.1 hx)
   have H4: ∀t (l:List Operand),(∀x∈l,∀t,aN P A.aE t sl x=aN P A.aE t sl' x)→l.map (aN P A.aE t sl)=l.map (aN P A.aE t sl'):=fun t l h=>rm fun x hx=>h x hx t
   cases b<;>first|rfl|skip
   case append=>
    dsimp only
    generalize args.toList=al at b8
    match al,b8,argTypes.toList with
    | [s,x],b8,[t,u]=>simp only[b8 s (by simp),b8 x (by simp)]
    | [],_,_=>rfl
    | [_],_,_=>rfl
    | _::_::_::_,_,_=>rfl
    | [_,_],_,[]=>rfl
    | [_,_],_,[_]=>rfl
    | [_,_],_,_::_::_::_=>rfl
   case copy=>
    dsimp only
    generalize args.toList=al at b8
    match al,b8,argTypes.toList with
    | [s,x],b8,[t,u]=>simp only[b8 s (by simp),b8 x (by simp)]
    | [],_,_=>rfl
    | [_],_,_=>rfl
    | _::_::_::_,_,_=>rfl
    | [_,_],_,[]=>rfl
    | [_,_],_,[_]=>rfl
    | [_,_],_,_::_::_::_=>rfl
   case len=>
    dsimp only
    generalize args.toList=al at b8
    match al,b8,argTypes.toList with
    | [x],b8,[t]=>simp only[b8 x (by simp)]
    | [],_,_=>rfl
    | _::_::_,_,_=>rfl
    | [_],_,[]=>rfl
    | [_],_,_::_::_=>rfl
   case clear=>
    dsimp only
    generalize args.toList=al at b8
    match al,b8,argTypes.toList with
    | [x],b8,[t]=>simp only[b8 x (by simp)]
    | [],_,_=>rfl
    | _::_::_,_,_=>rfl
    | [_],_,[]=>rfl
    | [_],_,_::_::_=>rfl
   case unsafeSliceData=>
    dsimp only
    generalize args.toList=al at b8
    match al,b8 with
    | [],_=>rfl
    | [x],b8=>simp only[b8 x (by simp)]
    | _::_::_,_=>rfl
   case unsafeString=>
    dsimp only
    generalize args.toList=al at b8
    match al,b8,argTypes.toList with
    | [s,x],b8,[t,u]=>simp only[b8 s (by simp),b8 x (by simp)]
    | [],_,_=>rfl
    | [_],_,_=>rfl
    | _::_::_::_,_,_=>rfl
    | [_,_],_,[]=>rfl
    | [_,_],_,[_]=>rfl
    | [_,_],_,_::_::_::_=>rfl
   case max=>
    dsimp only
    generalize args.toList=al at b8
    match al,b8 with
    | [],_=>rfl
    | x::l,b8=>simp only[b8 x (by simp),H4 ty l (fun y hy=>b8 y (by simp[hy]))]
   case min=>
    dsimp only
    generalize args.toList=al at b8
    match al,b8 with
    | [],_=>rfl
    | x::l,b8=>simp only[b8 x (by simp),H4 ty l (fun y hy=>b8 y (by simp[hy]))]
  | value f=>
   cases f<;>first|rfl|skip
   ·rename_i t
    have ht:sl t=sl' t:=h (.tmp t) (by simp[Op.operands,Call.operands]) t rfl
    simp only[hz,ht]
   ·simp only[hz]
    cases hx:args.toList with
    | nil=>rfl
    | cons x l=>
     cases l with
     | cons _ _=>rfl
     | nil=>simp only[tN ty x (oP.1 (by rw[hx];simp))]
 case defer c=>
  obtain ⟨callee,args,argTypes⟩:=c
  cases callee with
  | invoke r m=>rfl
  | builtin b=>rfl
  | value f=>
   cases f<;>first|rfl|skip
   rename_i t
   have ht:sl t=sl' t:=h (.tmp t) (by simp[Op.operands,Call.operands]) t rfl
   simp only[ht]
 case makeFunc fn a b=>
  cases fn<;>first|rfl|skip
  have e1:a.toList.map (aN P A.aE ty sl)=a.toList.map (aN P A.aE ty sl'):=rm fun x hx=>eG ty x (by simp[oP.1 hx])
  have e2:b.toList.map (aN P A.aE ty sl)=b.toList.map (aN P A.aE ty sl'):=rm fun x hx=>eG ty x (by simp[oP.1 hx])
  dsimp only
  rw[e1,e2]
 case makeMap t r=>cases r<;>rfl
 all_goals first
  | rfl
  | (simp[eG];done)
end
section
variable {P:Program} {A:cx} {w w':World} {I I' I2:Nat→Prop} {μ β β':Nat→Option Nat} {hp hp':Nat→Option an} {C:ag} {B:Nat} {M:Nat→Prop} {w0:Start}
theorem H5 {q:Nat × an} {upd:List (Nat × an)} (h:q∈upd):q.1∈fw hp upd:=by
 unfold fw
 rw[List.mem_flatMap]
 refine ⟨q,h,?_⟩
 cases Nat.beq (fN (hp q.1)) (fN (some q.2))<;>simp
theorem X4 {upd:List (Nat × an)} (h: ∀q∈upd,fN (hp' q.1)=fN (hp q.1)):fw hp' upd=fw hp upd:=by
 unfold fw
 induction upd with
 | nil=>rfl
 | cons q l ih=>
  rw[kT,kT,ih fun x hx=>h x (kS _ hx),h q (by simp)]
theorem Oh {c:Nat}: ∀{upd:List (Nat × an)},c∉fw hp upd→tM hp (bG hp upd) c:=fun {upd} h=>by
 refine ⟨vY fun q hq e=>h (e▸H5 hq),fun hc=> ?_⟩
 induction upd with
 | nil=>rfl
 | cons q l ih=>
  have hl:c∉fw hp l:=fun hx=>h (by unfold fw at*;rw[kT];exact List.mem_append_right _ hx)
  have hq:fN (hp q.1)=fN (some q.2)∨c≠q.1+KB:=by
   cases hb:Nat.beq (fN (hp q.1)) (fN (some q.2)) with
   | true=>exact .inl (yi hb)
   | false=>
    refine .inr fun e=>h ?_
    unfold fw
    rw[kT,hb,e]
    simp
  show fN (aH (bG hp l) q.1 (some q.2) (c-KB))=_
  simp only[aH]
  cases hb:Nat.beq (c-KB) q.1 with
  | false=>exact ih hl
  | true=>
   have e:=yi hb
   rcases hq with hq|hq
   ·rw[cond_true,e];exact hq.symm
   ·exact absurd (by omega) hq
theorem Oi {n i nb:Nat} {ops:Array Oper} {o:Oper} {st st':St} {R W:List Nat} (h:gz P A C n ops i o nb st=some (st',R,W)):
  ∃x upd,st'=⟨gU st.sl o.dst x,bG st.hp upd,st.nb⟩∧W=fw st.hp upd∧∀dL:St,(∀d∈o.looksAt ops,dL.sl d=st.sl d)→(∀id∈R,tM st.hp dL.hp id)→
   gz P A C n ops i o nb dL=some (⟨gU dL.sl o.dst x,bG dL.hp upd,dL.nb⟩,R,W)∧W=fw dL.hp upd:=by
 unfold gz at h
 cases hd:rC o n with
 | false=>rw[hd] at h;cases h
 | true=>
  rw[hd] at h
  simp only[cond_true] at h
  have go:(((ff P A st.sl i (nb+64*i) o).run C st.hp).bind fun r=>some ((⟨gU st.sl o.dst r.1.v,bG st.hp r.1.upd,st.nb⟩:St),p6 r.2 r.1.upd,fw st.hp r.1.upd))=some (st',R,W)→
    ∃x upd,st'=⟨gU st.sl o.dst x,bG st.hp upd,st.nb⟩∧W=fw st.hp upd∧∀dL:St,(∀d∈o.looksAt ops,dL.sl d=st.sl d)→(∀id∈R,tM st.hp dL.hp id)→
     (((ff P A dL.sl i (nb+64*i) o).run C dL.hp).bind fun r=>some ((⟨gU dL.sl o.dst r.1.v,bG dL.hp r.1.upd,dL.nb⟩:St),p6 r.2 r.1.upd,fw dL.hp r.1.upd))=some (⟨gU dL.sl o.dst x,bG dL.hp upd,dL.nb⟩,R,W)∧W=fw dL.hp upd:=by
   intro h
   obtain ⟨⟨r,rd⟩,h1,U⟩:=bind_some h
   cases U
   refine ⟨r.v,r.upd,rfl,rfl,fun dL hs hh=> ?_⟩
   have hw:fw dL.hp r.upd=fw st.hp r.upd:=X4 fun q hq=>by
    have:=(hh (q.1+KB) (List.mem_append_right _ (gd.2 ⟨q,hq,rfl⟩))).2 (Nat.le_add_left _ _)
    rwa [u5] at this
   rw[X2 (sl':=st.sl) fun x hx k hk=> ?_,rU h1 fun c hc=>hh c (List.mem_append_left _ hc)]
   ·refine ⟨?_,hw.symm⟩
    rw[Option.bind_some,hw]
   ·subst hk
    exact hs k (List.mem_append_left _ (List.mem_filterMap.2 ⟨.tmp k,by simpa using hx,rfl⟩))
  cases hg:o.guard with
  | none=>
   rw[hg] at h
   obtain ⟨x,upd,e1,e2,e3⟩:=go h
   refine ⟨x,upd,e1,e2,fun dL hs hh=> ?_⟩
   unfold gz
   simp only[hd,cond_true,hg]
   exact e3 dL hs hh
  | some gw=>
   obtain ⟨g,want⟩:=gw
   rw[hg] at h
   simp only at h
   cases lp:(ops[g]?).bind (·.dst) with
   | none=>rw[lp] at h;cases h
   | some d=>
    rw[lp] at h
    simp only at h
    have H6:d∈o.looksAt ops:=List.mem_append_right _ (by rw[hg];simp[lp])
    cases lY:kV (st.sl d) with
    | none=>rw[lY] at h;cases h
    | some ob=>
    rw[lY] at h
    cases ob with
    | none=>
     injection h with h
     injection h with h3 h4
     injection h4 with h5 h6
     subst h5;subst h6
     refine ⟨.bd [],[],h3.symm,rfl,fun dL hs hh=> ?_⟩
     unfold gz
     simp only[hd,cond_true,hg,lp,hs d H6,lY]
     exact ⟨rfl,rfl⟩
    | some b=>
    simp only at h
    cases hb:b==want with
    | true=>
     rw[hb] at h
     obtain ⟨x,upd,e1,e2,e3⟩:=go h
     refine ⟨x,upd,e1,e2,fun dL hs hh=> ?_⟩
     unfold gz
     simp only[hd,cond_true,hg,lp,hs d H6,lY,hb]
     exact e3 dL hs hh
    | false=>
     rw[hb] at h
     simp only[cond_false] at h
     injection h with h
     injection h with h3 h4
     injection h4 with h5 h6
     subst h5;subst h6
     refine ⟨.bd [],[],h3.symm,rfl,fun dL hs hh=> ?_⟩
     unfold gz
     simp only[hd,cond_true,hg,lp,hs d H6,lY,hb,cond_false]
     exact ⟨rfl,rfl⟩
theorem Oj {sl:Nat→V} {d:Option Nat} {x:V} {k:Nat} (h:d≠some k):gU sl d x k=sl k:=by
 cases d with
 | none=>rfl
 | some d=>exact dX _ _ fun e=>h (by rw[e])
theorem X5 {hp:Nat→Option an} {a b:List (Nat × an)} (h: ∀q∈a,∀q'∈b,q.1≠q'.1):bG (bG hp a) b=bG (bG hp b) a:=by
 funext id
 by_cases ha: ∃q∈a,q.1=id
 ·have hb: ∀q∈b,q.1≠id:=by
   obtain ⟨q,hq,rfl⟩:=ha
   exact fun q' zH e=>h q hq q' zH e.symm
  rw[vY hb]
  obtain ⟨q,hq,rfl⟩:=ha
  have same: ∀(br gB:Nat→Option an) (l:List (Nat × an)) (q:Nat × an),q∈l→bG br l q.1=bG gB l q.1:=by
   intro br gB l
   induction l with
   | nil=>intro q hq;simp at hq
   | cons p l ih=>
    intro q hq
    simp only[bG,aH]
    cases hb:Nat.beq q.1 p.1 with
    | true=>rfl
    | false=>
     simp only[cond_false]
     refine ih q ((dc.1 hq).resolve_left fun e=> ?_)
     rw[e,jf] at hb;cases hb
  exact same _ _ a q hq
 ·rw[vY (hp:=bG hp b) (l:=a) fun q hq e=>ha ⟨q,hq,e⟩]
  have same: ∀(br gB:Nat→Option an) (l:List (Nat × an)),br id=gB id→bG br l id=bG gB l id:=by
   intro br gB l he
   induction l with
   | nil=>exact he
   | cons p l ih=>
    simp only[bG,aH]
    cases hb:Nat.beq id p.1 with
    | true=>rfl
    | false=>exact ih
  exact same _ _ b (vY fun q hq e=>ha ⟨q,hq,e⟩)
structure Ol (ops:Array Oper) (o1 o2:Oper) (R1 W1 R2 W2:List Nat):Prop where
 apart:Oper.apart ops o1 o2=true
 w: ∀id∈W1,id∉R2∧id∉W2
 r: ∀id∈R1,id∉W2
theorem X6 {n i j nb:Nat} {ops:Array Oper} {o1 o2:Oper} {st iI dL:St} {R1 W1 R2 W2:List Nat} (h1:gz P A C n ops i o1 nb st=some (iI,R1,W1)) (U:gz P A C n ops j o2 nb iI=some (dL,R2,W2))
  (hi:Ol ops o1 o2 R1 W1 R2 W2): ∃DD,gz P A C n ops j o2 nb st=some (DD,R2,W2)∧gz P A C n ops i o1 nb DD=some (dL,R1,W1):=by
 obtain ⟨x1,u1,e1,f1,g1⟩:=Oi h1
 obtain ⟨x2,u2,e2,f2,g2⟩:=Oi U
 obtain ⟨a1,a2,a3⟩:=Oper.apart_spec hi.apart
 subst e1
 have k2:=g2 st (fun d hd=>by simp only;rw[Oj fun e=>a1 d e hd]) fun c hc=>(Oh fun hw=>(hi.w c (by rw[f1];exact hw)).1 hc).symm
 refine ⟨_,k2.1,?_⟩
 rw[(g1 _ (fun d hd=> ?_) (fun c hd=> ?_)).1,e2]
 ·congr 3
  ·funext k
   cases DE:o1.dst with
   | none=>rfl
   | some d1=>
    cases iA:o2.dst with
    | none=>rfl
    | some d2=>
     have bz:d2≠d1:=fun e=>a2 d1 DE (by rw[iA,e])
     simp only[gU,aH]
     cases Om:Nat.beq k d1<;>cases lZ:Nat.beq k d2<;>simp only[cond_true,cond_false]
     rw[aP] at Om lZ
     exact absurd (lZ.symm.trans Om) bz
  ·exact (X5 fun q hq q' zH e=>(hi.w q.1 (by rw[f1];exact H5 hq)).2 (by rw[f2,e];exact H5 zH)).symm
 ·simp only
  rw[Oj fun e=>a3 d e hd]
 ·exact Oh fun hw=>hi.r c hd (by rw[k2.2];exact hw)
def v8 (P:Program) (A:cx) (C:ag) (n:Nat) (ops:Array Oper) (nb:Nat):List (Nat × Oper × List Nat × List Nat)→St→St→Prop
 | [],st,st'=>st=st'
 | (i,o,R,W)::l,st,st'=> ∃iI,gz P A C n ops i o nb st=some (iI,R,W)∧v8 P A C n ops nb l iI st'
def tO (x:Nat × Oper × List Nat × List Nat):Nat × List Nat × List Nat:=(x.1,x.2.2.1,x.2.2.2)
theorem On {n nb:Nat} {ops:Array Oper}: ∀{l:List (Nat × Oper)} {st st':St} {log DF:Log},oZ P A C n ops nb l st log=some (st',DF)→
  ∃g,g.map (fun x=>(x.1,x.2.1))=l∧DF=log++g.map tO∧v8 P A C n ops nb g st st'
 | [],st,st',log,DF,h=>by
  cases h
  exact ⟨[],rfl,by simp,rfl⟩
 | (i,o)::l,st,st',log,DF,h=>by
  obtain ⟨⟨iI,R,W⟩,h1,U⟩:=bind_some h
  obtain ⟨g,a,b,c⟩:=On U
  exact ⟨(i,o,R,W)::g,by simp[a],by simp[b,tO],iI,h1,c⟩
def Oo (ops:Array Oper) (x y:Nat × Oper × List Nat × List Nat):Prop:=Ol ops x.2.1 y.2.1 x.2.2.1 x.2.2.2 y.2.2.1 y.2.2.2
theorem Oq {n nb:Nat} {ops:Array Oper} {y:Nat × Oper × List Nat × List Nat} {g2:List (Nat × Oper × List Nat × List Nat)}: ∀{g1:List (Nat × Oper × List Nat × List Nat)} {st st':St},
  v8 P A C n ops nb (g1++y::g2) st st'→(∀x∈g1,Oo ops x y)→∃iI,gz P A C n ops y.1 y.2.1 nb st=some (iI,y.2.2.1,y.2.2.2)∧v8 P A C n ops nb (g1++g2) iI st'
 | [],st,st',h,_=>h
 | x::g1,st,st',h,hi=>by
  obtain ⟨iI,h1,U⟩:=h
  obtain ⟨dL,h3,h4⟩:=Oq U fun z hz=>hi z (kS _ hz)
  obtain ⟨DD,h5,h6⟩:=X6 h1 h3 (hi x (by simp))
  exact ⟨DD,h5,dL,h6,h4⟩
theorem Ot (hC:kG P A C) (hP:iG P A) {n nb:Nat} {ops:Array Oper} {Q:Exit→Act→World→Prop}: ∀{g:List (Nat × Oper × List Nat × List Nat)} {st st':St} {a:Act} {w:World} {I:Nat→Prop} {β:Nat→Option Nat},
  v8 P A C n ops nb g st st'→(∀x∈g,ops[x.1]? =some x.2.1)→aF P w I β st.hp B M w0→iH P A.idle A.aE w I β n a st→
  (∀a' w' I' β',Le P w I β st.hp w' I' β' st'.hp→aF P w' I' β' st'.hp B M w0→iH P A.idle A.aE w' I' β' n a' st'→Q .normal a' w')→wpOps P ops Q (g.map (·.1)) a w
 | [],st,st',a,w,I,β,h,_,S,hA,hQ=>by
  cases h
  exact hQ a w I β (Le.refl w I β _) S hA
 | x::g,st,st',a,w,I,β,h,ho,S,hA,hQ=>by
  obtain ⟨iI,h1,U⟩:=h
  rw[cF,wpOps_cons]
  refine Of hC hP (ho x (by simp)) S hA h1 fun a' w' I' β' k1 k2 k3=> ?_
  exact Ot hC hP U (fun y hy=>ho y (kS _ hy)) k2 k3 fun a2 w2 I2 bV m1 m2 m3=>hQ a2 w2 I2 bV (k1.trans m1) m2 m3
end
section
variable {P:Program} {A:cx} {w w':World} {I I' I2:Nat→Prop} {μ β β':Nat→Option Nat} {hp hp':Nat→Option an} {C:ag} {B:Nat} {M:Nat→Prop} {w0:Start}
inductive tP (ops:Array Oper):Nat→Nat→Prop
 | Ou {i x:Nat} {o:Oper} {e:Edge}:ops[i]? =some o→e∈o.after→Region.binds .any e=true→e.on=x→tP ops i x
 | trans {i x:Nat} {o:Oper} {e:Edge}:ops[i]? =some o→e∈o.after→Region.binds .any e=true→tP ops e.on x→tP ops i x
theorem Ov {acc:Array Nat} {x:Nat}: ∀{l:List Edge} {s:Nat},(l.foldl (fun s e=>if Region.binds .any e then s|||2^e.on|||acc.getD e.on 0 else s) s).testBit x=true→
  s.testBit x=true∨∃e∈l,Region.binds .any e=true∧(e.on=x∨(acc.getD e.on 0).testBit x=true)
 | [],s,h=> .inl h
 | e::l,s,h=>by
  simp only[List.foldl_cons] at h
  rcases Ov h with h1|⟨e',a,b⟩
  ·by_cases hb:Region.binds .any e=true
   ·rw[aj hb,Nat.testBit_or,Nat.testBit_or,Bool.or_eq_true,Bool.or_eq_true] at h1
    rcases h1 with (h1|h1)|h1
    ·exact .inl h1
    ·rw[Nat.testBit_two_pow] at h1
     exact .inr ⟨e,by simp,hb,.inl (by simpa using h1)⟩
    ·exact .inr ⟨e,by simp,hb,.inr h1⟩
   ·rw[ai hb] at h1
    exact .inl h1
  ·exact .inr ⟨e',kS _ a,b⟩
theorem Ow {ops:Array Oper} {x:Nat}: ∀{l:List Oper} {acc:Array Nat},(∀j o,l[j]? =some o→ops[acc.size+j]? =some o)→(∀j,(acc.getD j 0).testBit x=true→tP ops j x)→
  ∀j,((l.foldl (fun acc o=>acc.push (o.after.foldl (fun s e=>if Region.binds .any e then s|||2^e.on|||acc.getD e.on 0 else s) 0)) acc).getD j 0).testBit x=true→tP ops j x
 | [],acc,_,DG,j,h=>DG j h
 | o::l,acc,hl,DG,j,h=>by
  simp only[List.foldl_cons] at h
  refine Ow (l:=l) ?_ ?_ j h
  ·intro j o' hj
   have:=hl (j+1) o' (by simpa using hj)
   rw[Array.size_push]
   rwa [show acc.size+1+j=acc.size+(j+1) by omega]
  ·intro k hk
   simp only[u6,Array.getElem?_push] at hk
   by_cases aY:k=acc.size
   ·rw[aj aY] at hk
    simp only[Option.getD_some] at hk
    rw[←BY] at hk
    have ho:=hl 0 o rfl
    rw[Nat.add_zero] at ho
    rw[aY]
    have lZ:(o.after.toList.foldl (fun s e=>if Region.binds .any e then s|||2^e.on|||acc.getD e.on 0 else s) 0).testBit x=true:=by simpa[u6] using hk
    rcases Ov lZ with h0|⟨e,he,hb,h1⟩
    ·simp at h0
    ·rcases h1 with h1|h1
     ·exact .Ou ho (oP.1 he) hb h1
     ·exact .trans ho (oP.1 he) hb (DG _ h1)
   ·rw[ai aY] at hk
    exact DG k (by simpa[u6] using hk)
theorem X7 {ops:Array Oper} {i x:Nat} (h:((Region.before ops).getD i 0).testBit x=true):tP ops i x:=by
 unfold Region.before at h
 rw[←BY] at h
 refine Ow (l:=ops.toList) (acc:= #[]) (fun j o hj=>by simpa using hj) (fun j hj=>by simp at hj) i h
def Ox (ops:Array Oper) (fB:Array Bool):Prop:= ∀i o,ops[i]? =some o→fB.getD i false=true→∀e∈o.after,Region.binds .any e=true→fB.getD e.on false=true
theorem X8 {ops:Array Oper} {fB:Array Bool} (hc:Ox ops fB) {i x:Nat} (h:tP ops i x) (hi: ∀o,ops[i]? =some o→∀e∈o.after,Region.binds .any e=true→fB.getD e.on false=true):fB.getD x false=true:=by
 induction h with
 | Ou ho he hb hx=>rw[←hx];exact hi _ ho _ he hb
 | trans ho he hb _ ih=>exact ih fun o' iX e' gE aA=>hc _ o' iX (hi _ ho _ he hb) e' gE aA
theorem Oy: ∀{l:List Oper} {k j:Nat} {o:Oper},yO k l=true→l[j]? =some o→∀e∈o.after,Region.binds .any e=true→e.on<k+j
 | [],k,j,o,_,h=>by simp at h
 | o'::l,k,j,o,hk,h=>by
  simp only[yO,aK] at hk
  cases j with
  | zero=>
   simp at h
   subst h
   intro e he hb
   have:=fb.1 hk.1 e (oP.2 he)
   simp[hb] at this
   omega
  | succ j=>
   intro e he hb
   have:=Oy hk.2 (j:=j) (by simpa using h) e he hb
   omega
theorem Oz {ops:Array Oper} {s7:Array Nat}: ∀{l:Log},Cw ops s7 l=true→l.Pairwise fun x y=>yN ops s7 x y=true
 | [],_=> .nil
 | x::l,h=>by
  simp only[Cw,aK] at h
  exact .cons (fun y hy=>fb.1 h.1 y hy) (Oz h.2)
theorem OA {fB:Array Bool} {i:Nat} (h:fB.getD i true=false):i<fB.size∧fB.getD i false=false:=by
 rcases oN i fB.size with h'|h'
 ·refine ⟨h',?_⟩
  simpa[h'] using h
 ·simp[Array.getElem?_eq_none h'] at h
theorem OB (hC:kG P A C) (hP:iG P A) {n nb:Nat} {ops:Array Oper} {Q:Exit→Act→World→Prop} (DH:yO 0 ops.toList=true):
  ∀(fuel:Nat) {g:List (Nat × Oper × List Nat × List Nat)} {fB:Array Bool} {st st':St} {a:Act} {w:World} {I:Nat→Prop} {β:Nat→Option Nat},
  g.length=fuel→v8 P A C n ops nb g st st'→(∀x∈g,ops[x.1]? =some x.2.1)→(g.map (·.1)).Pairwise (· < ·)→(g.map tO).Pairwise (fun x y=>yN ops (Region.before ops) x y=true)→
  fB.size=ops.size→(∀i,i<ops.size→(fB.getD i false=false↔i∈g.map (·.1)))→Ox ops fB→
  aF P w I β st.hp B M w0→iH P A.idle A.aE w I β n a st→
  (∀a' w' I' β',Le P w I β st.hp w' I' β' st'.hp→aF P w' I' β' st'.hp B M w0→iH P A.idle A.aE w' I' β' n a' st'→Q .normal a' w')→wpAny P .any ops Q fuel fB a w
 | 0,g,fB,st,st',a,w,I,β,hf,hr,ho,aO,DI,aU,tQ,kE,S,hA,hQ=>by
  obtain rfl:g=[]:=kR hf
  cases hr
  refine ⟨?_,hQ a w I β (Le.refl w I β _) S hA⟩
  rw[List.eq_nil_iff_forall_not_mem]
  intro i hi
  obtain ⟨h0,_⟩:=mem_ready.1 hi
  obtain ⟨h1,U⟩:=OA h0
  have:=(tQ i (by omega)).1 U
  simp at this
 | fuel+1,g,fB,st,st',a,w,I,β,hf,hr,ho,aO,DI,aU,tQ,kE,S,hA,hQ=>by
  refine ⟨fun zJ=> ?_,fun i hi=> ?_⟩
  ·exfalso
   cases g with
   | nil=>simp at hf
   | cons x g=>
    have hx:=ho x (by simp)
    have gk:x.1<ops.size:=(gQ.1 hx).1
    have lg:x.1∈Region.ready .any ops fB:=by
     rw[mem_ready]
     have h0:=(tQ x.1 gk).2 (by simp)
     refine ⟨?_,x.2.1,hx,fun e he hb=> ?_⟩
     ·have hl:x.1<fB.size:=by omega
      simpa[hl] using h0
     ·have Ho:=Oy DH (j:=x.1) (by simpa using hx) e he hb
      rw[gx] at Ho
      cases hle:fB.getD e.on false with
      | true=>rfl
      | false=>
       have hm:=(tQ e.on (by omega)).1 hle
       simp only[cF,dc] at hm
       rw[cF,sU] at aO
       rcases hm with hm|hm
       ·omega
       ·have:=aO.1 _ hm;omega
    rw[zJ] at lg
    cases lg
  ·obtain ⟨h0,oi,zL,OC⟩:=mem_ready.1 hi
   obtain ⟨h1,U⟩:=OA h0
   have X9:=(tQ i (by omega)).1 U
   obtain ⟨y,hy,Ya⟩:=gd.1 X9
   obtain ⟨g1,g2,rfl⟩:=List.append_of_mem hy
   subst Ya
   have OD:=ho y hy
   rw[zL] at OD
   have OE:oi=y.2.1:=cX OD
   have jZ:((g1++y::g2).map (·.1)).Nodup:=aO.imp fun h=>Nat.ne_of_lt h
   have Yb: ∀x∈g1,Oo ops x y:=by
    intro x hx
    have hp:yN ops (Region.before ops) (tO x) (tO y)=true:=by
     rw[eS,cF,List.pairwise_append] at DI
     exact DI.2.2 _ (gd.2 ⟨x,hx,rfl⟩) _ (by simp)
    have H7:=ho x (ej.2 (.inl hx))
    unfold yN at hp
    rw[Bool.or_eq_true] at hp
    rcases hp with hp|hp
    ·have hl:=X8 kE (X7 hp) fun o iX e he hb=>by
      have:o=oi:=by
       have h3:ops[y.1]? =some o:=iX
       rw[zL] at h3
       exact (cX h3).symm
      subst this
      exact OC e he hb
     have gk:x.1<ops.size:=(gQ.1 H7).1
     have:=(tQ x.1 gk).2 (gd.2 ⟨x,ej.2 (.inl hx),rfl⟩)
     rw[show (tO x).1=x.1 from rfl,this] at hl
     cases hl
    ·simp only[tO,u6,H7,zL,Option.getD_some,aK,mA] at hp
     obtain ⟨q1,q2,q3⟩:=hp
     refine ⟨OE▸q1,fun id ab=> ?_,fun id ab=>Dw q3 ab⟩
     have:=Dw q2 ab
     rw[ej] at this
     exact ⟨fun h=>this (.inl h),fun h=>this (.inr h)⟩
   obtain ⟨iI,iy,mW⟩:=Oq hr Yb
   rw[←OE] at iy
   refine Of hC hP zL S hA iy fun a' w' I' β' k1 k2 k3=> ?_
   have jV:List.Sublist (g1++g2) (g1++y::g2):=List.Sublist.append_left (List.sublist_cons_self y g2) g1
   have s9: ∀j,j≠y.1→(fB.setIfInBounds y.1 true).getD j false=fB.getD j false:=fun j hj=>getD_set_ne false (Ne.symm hj)
   refine OB hC hP DH fuel (g:=g1++g2) (st':=st') ?_ mW (fun x hx=>ho x (jV.subset hx)) (aO.sublist (jV.map _)) (DI.sublist (jV.map _)) (by simp[aU]) (fun j hj=> ?_) (fun j o H8 b7 e he hb=> ?_) k2 k3 fun a2 w2 I2 bV m1 m2 m3=>hQ a2 w2 I2 bV (k1.trans m1) m2 m3
   ·simp at hf⊢;omega
   ·by_cases o9:j=y.1
    ·subst o9
     have hl:y.1<fB.size:=by omega
     simp only[u6,Gg hl,Option.getD_some]
     refine ⟨fun h=>(by cases h),fun h=> ?_⟩
     exfalso
     rw[eS,cF,B4,List.nodup_cons] at jZ
     rw[eS,ej] at h
     rcases h with h|h
     ·exact jZ.2.2 _ h _ (by simp) rfl
     ·exact jZ.2.1.1 h
    ·rw[s9 j o9,tQ j hj]
     simp only[eS,cF,ej,dc]
     constructor
     ·rintro (h|h|h)
      ·exact .inl h
      ·exact absurd h o9
      ·exact .inr h
     ·rintro (h|h)
      ·exact .inl h
      ·exact .inr (.inr h)
   ·by_cases o9:j=y.1
    ·subst o9
     rw[zL] at H8
     cases H8
     exact getD_set_true (OC e he hb)
    ·rw[s9 j o9] at b7
     exact getD_set_true (kE j o H8 b7 e he hb)
end
section
variable {P:Program} {A:cx} {w w':World} {I I' I2:Nat→Prop} {μ β β':Nat→Option Nat} {hp hp':Nat→Option an} {C:ag} {B:Nat} {M:Nat→Prop} {w0:Start}
theorem OF: ∀{l:List Oper} {k j:Nat},(nS k l)[j]? =(l[j]?).map fun o=>(k+j,o)
 | [],k,j=>by simp[nS]
 | o::l,k,0=>by simp[nS]
 | o::l,k,j+1=>by
  simp only[nS,List.getElem?_cons_succ,OF]
  congr 1
  funext o
  rw[show k+1+j=k+(j+1) by omega]
theorem OG: ∀{l:List Oper} {k:Nat},(nS k l).map (·.1)=List.range' k l.length
 | [],k=>rfl
 | o::l,k=>by simp[nS,OG,List.range'_succ]
theorem Yc (hC:kG P A C) (hP:iG P A) (hm:P.follows .mixedOrders=true) {n id:Nat} {ops:Array Oper} {draw:Bool} {st st':St} {a:Act} {Q:Exit→Act→World→Prop}
  (h:yQ P A C n ops draw st=some st') (S:aF P w I β st.hp B M w0) (hA:iH P A.idle A.aE w I β n a st)
  (hQ: ∀a' w' I' β',Le P w I β st.hp w' I' β' st'.hp→aF P w' I' β' st'.hp B M w0→iH P A.idle A.aE w' I' β' n a' st'→Q .normal a' w'):(Code.region id ops draw).wp P Q a w:=by
 obtain ⟨⟨iI,log⟩,h1,U⟩:=bind_some h
 obtain ⟨g,g1,g2,g3⟩:=On h1
 have DJ:g.map (·.1)=List.range ops.size:=by
  have:g.map (·.1)=(g.map fun x=>(x.1,x.2.1)).map (·.1):=by simp
  rw[this,g1,OG,List.range_eq_range']
  simp
 have OH: ∀x∈g,ops[x.1]? =some x.2.1:=by
  intro x hx
  have:(x.1,x.2.1)∈nS 0 ops.toList:=by rw[←g1];exact gd.2 ⟨x,hx,rfl⟩
  obtain ⟨j,hj⟩:=List.mem_iff_getElem?.1 this
  rw[OF] at hj
  cases ho:ops.toList[j]? with
  | none=>rw[ho] at hj;cases hj
  | some o=>
   rw[ho] at hj
   simp only[Option.map_some,gx,dH,jK] at hj
   rw[←hj.1,←hj.2]
   simpa using ho
 cases draw with
 | false=>
  simp only[sV,Bool.true_or,cond_true] at U
  cases U
  refine wp_region ?_
  rw[←DJ]
  exact Ot hC hP g3 OH S hA hQ
 | true=>
  simp only[pP,Bool.false_or] at U
  cases hc:(Region.noSelect ops&&yP ops log) with
  | false=>rw[hc] at U;cases U
  | true=>
   rw[hc] at U
   cases U
   simp only[aK,yP] at hc
   obtain ⟨hns,DH,Yd⟩:=hc
   simp only[List.nil_append] at g2
   refine wp_region_any hm ?_
   have hlen:g.length=ops.size:=by
    have:=congrArg List.length DJ
    simpa using this
   refine OB hC hP DH ops.size (g:=g) (st':=st') hlen g3 OH (by rw[DJ];exact List.pairwise_lt_range) (by rw[←g2];exact Oz Yd) (by simp) (fun i hi=> ?_) (fun i o ho hl=> ?_)
    (w:=w.drew) S.drew ⟨fun k=>(hA.sl k).mono (Le.drew w I β _),hA.size,hA.defers,hA.aE.mono (Le.drew (P:=P) w I β st.hp).c7 (Le.drew (P:=P) w I β st.hp).b6⟩ fun a' w' I' β' k1 k2 k3=>hQ a' w' I' β' ((Le.drew w I β _).trans k1) k2 k3
   ·rw[DJ]
    simp[hi]
   ·have hi:=(gQ.1 ho).1
    simp[hi] at hl
end
section
variable {P:Program} {A:cx} {E:FuncId→Bool} {G:Nat→V} {w w':World} {I I' I2:Nat→Prop} {μ β β':Nat→Option Nat} {hp hp':Nat→Option an} {C:ag} {B:Nat} {M:Nat→Prop} {w0:Start}
theorem tR: ∀{l:List Nat} {hp:Nat→Option an} {I:Nat→Prop},aF P w I β hp B M w0→∃I',Le P w I β hp w I' β (s6 hp l)∧aF P w I' β (s6 hp l) B M w0
 | [],hp,I,S=>⟨I,Le.refl w I β hp,S⟩
 | id::l,hp,I,S=>by
  simp only[s6]
  cases ab:hp id with
  | none=>exact tR S
  | some blk=>
   cases blk with
   | dead=>exact tR S
   | var _=>exact tR S
   | map _ _=>exact tR S
   | arr e es fz=>
    obtain ⟨h1,U⟩:=y4 S (upd:=[(id,.arr e es true)]) (fun p hp=>by
     simp only[eb] at hp
     subst hp
     exact ⟨e,es,rfl,.inl ⟨fz,ab⟩⟩)
    obtain ⟨I',h3,h4⟩:=tR (l:=l) U
    exact ⟨I',h1.trans h3,h4⟩
   | nest e es aq=>
    obtain ⟨h1,U⟩:=y4 S (upd:=[(id,.arr e es true)]) (fun p hp=>by
     simp only[eb] at hp
     subst hp
     exact ⟨e,es,rfl,.inr ⟨aq,ab⟩⟩)
    obtain ⟨I',h3,h4⟩:=tR (l:=l) U
    exact ⟨I',h1.trans h3,h4⟩
theorem OI {n m:Nat} {pur:List Nat} {a:Act} {st:St} (S:aF P w I β st.hp B M w0) (hA:iH P E G w I β n a st):
  ∃I',Le P w I β st.hp w I' β (freeze m pur st).hp∧aF P w I' β (freeze m pur st).hp B M w0∧iH P E G w I' β n a (freeze m pur st):=by
 obtain ⟨I',h1,U⟩:=tR (l:=(Ma st pur).filter fun id=>Nat.ble m id) S
 exact ⟨I',h1,U,fun k=>(hA.sl k).mono h1,hA.size,hA.defers,hA.aE.mono h1.c7 h1.b6⟩
structure v9 (hp:Nat→Option an) (β:Nat→Option Nat) (ord:List Nat) (hp':Nat→Option an) (β':Nat→Option Nat):Prop where
 arr: ∀(j:Nat) id e es fz,ord[j]? =some id→hp id=some (.arr e es fz)→hp' j=some (.arr e es fz)
 var: ∀(j:Nat) id T cs,ord[j]? =some id→hp id=some (.var T cs)→∃hO,hp' j=some (.var T hO)
 dead: ∀(j:Nat) id,ord[j]? =some id→hp id=some .dead→hp' j=some .dead
 place: ∀(j:Nat) id,ord[j]? =some id→β' j=β id
 nest: ∀(j:Nat) id e es aq,ord[j]? =some id→hp id=some (.nest e es aq)→hp' j=some (.nest e es (aq.map fun _=>0))
 map: ∀(j:Nat) id t es,ord[j]? =some id→hp id=some (.map t es)→hp' j=some (.map t es)
theorem lq: ∀{l:List Nat} {n i j:Nat},gV l n i=some j→∃k,j=i+k∧l[k]? =some n
 | [],n,i,j,h=>by cases h
 | a::l,n,i,j,h=>by
  simp only[gV] at h
  cases hb:Nat.beq n a with
  | true=>
   rw[hb] at h
   cases h
   rw[aP] at hb
   exact ⟨0,rfl,by rw[hb];rfl⟩
  | false=>
   rw[hb] at h
   obtain ⟨k,h1,U⟩:=lq h
   exact ⟨k+1,by omega,by simpa using U⟩
def kH (hp':Nat→Option an) (β':Nat→Option Nat) (n:Nat) (bs:List an):Prop:=
 ∀(k:Nat) b,bs[k]? =some b→hp' (n+k)=some b∧β' (n+k)=none
theorem H9: ∀(aq:List Nat) (k:Nat),bx (aq.map fun _=>0) k=0
 | [],_=>rfl
 | _::_,0=>rfl
 | _::vs,k+1=>H9 vs k
theorem OJ {e:TypeId} {es:List V} {aq:List Nat} {path:Path} {ver:Nat} (hc:(Nat.blt 0 path.length&&(Nat.ble path.length aq.length&&Nat.beq (bx aq (path.length-1)) ver))=true)
  (h:(an.nest e es aq).ta path ver):False:=by
 simp only[aK,jJ,di,aP] at hc
 obtain ⟨h1,U,h3⟩:=hc
 rcases h with h|h|h
 ·subst h;simp at h1
 ·omega
 ·omega
theorem OK (S:aF P w I β hp B M w0) {ord:List Nat} (hR:v9 hp β ord hp' β') {v:Value} {x:V} (hv:ao P w I β hp v x):ao P w I β' hp' v (gW hp ord x):=by
 cases hv with
 | undef=>exact .undef
 | int=>exact .int
 | bool=>exact .bool
 | str h=>exact .str h
 | list h=>exact .list h
 | nilS=>exact .nilS
 | agg=>exact .undef
 | bd=>exact .undef
 | df=>exact .df
 | fn=>exact .undef
 | pref a b c=>exact .pref a b c
 | @dV _ e id ab=>
  simp only[gW]
  cases br:gV ord id 0 with
  | none=>simp only[ab];exact .undef
  | some j=>
   obtain ⟨k,rfl,hk⟩:=lq br
   exact .dV (hR.dead _ id (by simpa using hk) ab)
 | @fO _ e id off len ab=>
  simp only[gW]
  cases br:gV ord id 0 with
  | none=>simp only[ab];exact .undef
  | some j=>
   obtain ⟨k,rfl,hk⟩:=lq br
   exact .fO (hR.dead _ id (by simpa using hk) ab)
 | @jR _ id i c ab=>
  simp only[gW]
  cases br:gV ord id 0 with
  | none=>exact .undef
  | some j=>
   obtain ⟨k,rfl,hk⟩:=lq br
   exact .jR (hR.dead _ id (by simpa using hk) ab)
 | @dt e id fz _ ab hb=>
  simp only[gW]
  cases br:gV ord id 0 with
  | none=>
   simp only[ab]
   cases fz with
   | false=>exact .undef
   | true=>simp only[jf,cond_true];exact .list (.any fun _=>rfl)
  | some j=>
   obtain ⟨k,rfl,hk⟩:=lq br
   have cW:ord[0+k]? =some id:=by simpa using hk
   exact .dt (hR.arr _ id _ _ _ cW ab) ((hR.place _ id cW).trans hb)
 | @whole e id es fz b cap ab hb aU bY hm=>
  simp only[gW]
  cases br:gV ord id 0 with
  | none=>
   simp only[ab]
   cases fz with
   | false=>exact .undef
   | true=>
    simp only[jf,cond_true]
    have hr:=S.h.rel id _ ab
    cases hr with
    | dv aA=>rw[aA] at hb;cases hb
    | arr au aA hh hs hf dW hx=>
     rw[hb] at aA;cases aA
     have:=th (I':=I) (off:=0) (len:=es.length) (o:=0) hh hx (fh au) (by omega) bY (fun _=>by simp) (fun _ h=>h) (hf rfl)
     exact .list (by simpa using this)
  | some j=>
   obtain ⟨k,rfl,hk⟩:=lq br
   have cW:ord[0+k]? =some id:=by simpa using hk
   exact .whole (hR.arr _ id _ _ _ cW ab) ((hR.place _ id cW).trans hb) aU bY hm
 | @fy e id fz _ ab hb=>
  simp only[gW]
  cases br:gV ord id 0 with
  | none=>
   simp only[ab]
   cases fz with
   | false=>exact .undef
   | true=>simp only[jf,cond_true];exact .list (by simpa using (iv.any (P:=P) fun _=>rfl))
  | some j=>
   obtain ⟨k,rfl,hk⟩:=lq br
   have cW:ord[0+k]? =some id:=by simpa using hk
   exact .fy (hR.arr _ id _ _ _ cW ab) ((hR.place _ id cW).trans hb)
 | @sub e id off len es fz b o cap ab hb ky bY ho=>
  simp only[gW]
  cases br:gV ord id 0 with
  | none=>
   simp only[ab]
   cases fz with
   | false=>exact .undef
   | true=>
    simp only[jf,cond_true]
    have hr:=S.h.rel id _ ab
    cases hr with
    | dv aA=>rw[aA] at hb;cases hb
    | arr au aA hh hs hf dW hx=>
     rw[hb] at aA;cases aA
     exact .list (th (I':=I) hh hx (fh au) ky bY ho (fun _ h=>h) (hf rfl))
  | some j=>
   obtain ⟨k,rfl,hk⟩:=lq br
   have cW:ord[0+k]? =some id:=by simpa using hk
   exact .sub (hR.arr _ id _ _ _ cW ab) ((hR.place _ id cW).trans hb) ky bY ho
 | @ptr id i c b blk ab hd hb=>
  simp only[gW]
  cases br:gV ord id 0 with
  | none=>exact .undef
  | some j=>
   obtain ⟨k,rfl,hk⟩:=lq br
   have cW:ord[0+k]? =some id:=by simpa using hk
   cases blk with
   | dead=>exact absurd rfl hd
   | var T0 cs=>
    obtain ⟨hO,h'⟩:=hR.var _ id T0 cs cW ab
    exact .ptr (blk:= .var T0 hO) h' (by simp) ((hR.place _ id cW).trans hb)
   | arr e es fz=>exact .ptr (blk:= .arr e es fz) (hR.arr _ id _ _ _ cW ab) (by simp) ((hR.place _ id cW).trans hb)
   | nest e es aq=>exact .ptr (blk:= .nest e es (aq.map fun _=>0)) (hR.nest _ id _ _ _ cW ab) (by simp) ((hR.place _ id cW).trans hb)
   | map t es=>exact .ptr (blk:= .map t es) (hR.map _ id _ _ cW ab) (by simp) ((hR.place _ id cW).trans hb)
 | dj=>exact .dj
 | @gZ _ t id ab=>
  simp only[gW]
  cases br:gV ord id 0 with
  | none=>exact .undef
  | some j=>
   obtain ⟨k,rfl,hk⟩:=lq br
   exact .gZ (hR.dead _ id (by simpa using hk) ab)
 | @cl t id b es ab hb=>
  simp only[gW]
  cases br:gV ord id 0 with
  | none=>exact .undef
  | some j=>
   obtain ⟨k,rfl,hk⟩:=lq br
   have cW:ord[0+k]? =some id:=by simpa using hk
   exact .cl (hR.map _ id _ _ cW ab) ((hR.place _ id cW).trans hb)
 | @ee e id es aq b cap ab hb aU bY hm=>
  simp only[gW]
  cases br:gV ord id 0 with
  | none=>simp only[ab];exact .undef
  | some j=>
   obtain ⟨k,rfl,hk⟩:=lq br
   have cW:ord[0+k]? =some id:=by simpa using hk
   exact .ee (hR.nest _ id _ _ _ cW ab) ((hR.place _ id cW).trans hb) aU bY hm
 | @jl v e id ver path blk ab yY=>
  simp only[gW]
  split
  ·rename_i j e1 cf aq h1 U
   rw[ab] at U
   cases U
   cases hc:(Nat.blt 0 path.length&&(Nat.ble path.length aq.length&&Nat.beq (bx aq (path.length-1)) ver)) with
   | false=>exact .undef
   | true=>exact (OJ hc yY).elim
  ·exact .undef
 | @jm v id ver i c path blk ab yY=>
  simp only[gW]
  split
  ·rename_i j e1 cf aq h1 U
   rw[ab] at U
   cases U
   cases hc:(Nat.blt 0 path.length&&(Nat.ble path.length aq.length&&Nat.beq (bx aq (path.length-1)) ver)) with
   | false=>exact .undef
   | true=>exact (OJ hc yY).elim
  ·exact .undef
 | @row v e e0 t id ver b i c q es l aq ab hb hq hv ht hc=>
  simp only[gW]
  split
  ·rename_i j e1 cf tL h1 U
   obtain ⟨k,rfl,hk⟩:=lq h1
   have cW:ord[0+k]? =some id:=by simpa using hk
   cases hx:(Nat.blt 0 (q++[(i,c)]).length&&(Nat.ble (q++[(i,c)]).length tL.length&&Nat.beq (bx tL ((q++[(i,c)]).length-1)) ver)) with
   | false=>exact .undef
   | true=>exact .row (hR.nest _ id _ _ _ cW ab) ((hR.place _ id cW).trans hb) (by simpa using hq) (H9 _ _) ht hc
  ·exact .undef
 | @cw e e0 t id ver b b1 len cap i0 c0 i c q es l aq ab hb hq hv ht jo hc=>
  simp only[gW]
  split
  ·rename_i j e1 cf tL h1 U
   obtain ⟨k,rfl,hk⟩:=lq h1
   have cW:ord[0+k]? =some id:=by simpa using hk
   cases hx:(Nat.blt 0 (q++[(i0,c0)]).length&&(Nat.ble (q++[(i0,c0)]).length tL.length&&Nat.beq (bx tL ((q++[(i0,c0)]).length-1)) ver)) with
   | false=>exact .undef
   | true=>exact .cw (hR.nest _ id _ _ _ cW ab) ((hR.place _ id cW).trans hb) (by simpa using hq) (H9 _ _) ht jo hc
  ·exact .undef
theorem OL (S:aF P w I β hp B M w0) {ord:List Nat} (hR:v9 hp β ord hp' β') {vs:Array Value} {xs:List V} (h: ∀(j:Nat) v x,vs[j]? =some v→xs[j]? =some x→ao P w I β hp v x) (j:Nat) (v:Value) (y:V)
  (hv:vs[j]? =some v) (hy:(xs.map (gW hp ord))[j]? =some y):ao P w I β' hp' v y:=by
 rw[gf] at hy
 cases hx:xs[j]? with
 | none=>rw[hx] at hy;cases hy
 | some x=>rw[hx] at hy;cases hy;exact OK S hR (h j v x hv hx)
theorem OM (S:aF P w I β hp B M w0) {ord:List Nat} (hR:v9 hp β ord hp' β') {n:Nat} {v:Value} {x:V} (hv:ao P w I β hp v x) (hF:kH hp' β' n (vm hp ord n x).2):
  ao P w I β' hp' v (vm hp ord n x).1:=by
 cases x with
 | nilS e=>
  obtain ⟨h1,U⟩:=hF 0 _ rfl
  cases hv with
  | nilS=>exact .dt h1 U
 | fn f a b=>
  cases hv with
  | fn q1 q2 q3 q4=>exact .fn (by simpa using q1) (OL S hR q2) (by simpa using q3) (OL S hR q4)
 | _=>exact OK S hR hv
end
section
variable {P:Program} {A:cx} {w w':World} {I I' I2:Nat→Prop} {μ β β':Nat→Option Nat} {hp hp':Nat→Option an} {C:ag} {B:Nat} {M:Nat→Prop} {w0:Start}
theorem kH.left {n:Nat} {a b:List an} (h:kH hp' β' n (a++b)):kH hp' β' n a:=fun k x hx=>
 h k x (by rw[ij (bt.1 hx).1];exact hx)
theorem kH.right {n:Nat} {a b:List an} (h:kH hp' β' n (a++b)):kH hp' β' (n+a.length) b:=fun k x hx=>by
 have:=h (a.length+k) x (by rw[ik (by omega),Nat.add_sub_cancel_left];exact hx)
 rwa [←nG] at this
def l7 (bs:List an):Prop:= ∀b∈bs,∃e,b= .arr e [] false
theorem l7.app {a b:List an} (h1:l7 a) (U:l7 b):l7 (a++b):=fun x hx=>(ej.1 hx).elim (h1 x) (U x)
theorem l7.nil:l7 []:=fun x hx=>by simp at hx
theorem ON {ord:List Nat} {n:Nat} {x:V}:l7 (vm hp ord n x).2:=by
 cases x<;>simp only[vm]<;>first|exact .nil|skip
 intro b hb
 simp only[eb] at hb
 exact ⟨_,hb⟩
theorem Ia {ord:List Nat}: ∀{xs:List V} {n:Nat},l7 (mK hp ord n xs).2
 | [],n=> .nil
 | x::xs,n=>by
  simp only[mK]
  exact ON.app Ia
theorem DK {ord:List Nat}: ∀{xs:List V} {n:Nat},(mK hp ord n xs).1.length=xs.length
 | [],n=>rfl
 | x::xs,n=>by simp only[mK,List.length_cons,DK]
theorem DL (S:aF P w I β hp B M w0) {ord:List Nat} (hR:v9 hp β ord hp' β'): ∀{xs:List V} {vs:List Value} {n:Nat},(∀(j:Nat) v x,vs[j]? =some v→xs[j]? =some x→ao P w I β hp v x)→
  kH hp' β' n (mK hp ord n xs).2→∀(j:Nat) v y,vs[j]? =some v→(mK hp ord n xs).1[j]? =some y→ao P w I β' hp' v y
 | [],vs,n,h,hF,j,v,y,hv,hy=>by simp[mK] at hy
 | x::xs,vs,n,h,hF,j,v,y,hv,hy=>by
  simp only[mK] at hF hy
  cases j with
  | zero=>
   simp at hy
   subst hy
   exact OM S hR (h 0 v x hv rfl) hF.left
  | succ j=>
   cases vs with
   | nil=>simp at hv
   | cons v0 vs=>exact DL S hR (vs:=vs) (fun j v x hj hx=>h (j+1) v x (by simpa using hj) (by simpa using hx)) hF.right j v y (by simpa using hv) (by simpa using hy)
theorem Ye {ord:List Nat} {n:Nat} {x:V}:l7 (pZ hp ord n x).2:=by
 cases x<;>simp only[pZ]<;>first|exact ON|exact Ia
theorem Yf (S:aF P w I β hp B M w0) {ord:List Nat} (hR:v9 hp β ord hp' β') {n:Nat} {v:Value} {x:V} (hv:ao P w I β hp v x) (hF:kH hp' β' n (pZ hp ord n x).2):
  ao P w I β' hp' v (pZ hp ord n x).1:=by
 cases x with
 | agg cs=>
  obtain ⟨ds,rfl,h1,U⟩:=hv.kB
  simp only[pZ] at hF⊢
  exact .agg (by rw[DK];exact h1) fun j v y hj hy=>DL S hR (vs:=ds.toList) (fun j v x hj hx=>U j v x (by simpa using hj) hx) hF j v y (by simpa using hj) hy
 | bd cs=>
  obtain ⟨ds,rfl,h1,U⟩:=hv.tm
  simp only[pZ] at hF⊢
  exact .bd (by rw[DK];exact h1) fun j v y hj hy=>DL S hR (vs:=ds.toList) (fun j v x hj hx=>U j v x (by simpa using hj) hx) hF j v y (by simpa using hj) hy
 | _=>exact OM S hR hv hF
theorem OO {ord:List Nat} {sl:Nat→V}: ∀{l:List Nat} {n:Nat},l7 (kZ hp ord sl n l).2
 | [],n=> .nil
 | s::l,n=>by
  simp only[kZ]
  exact Ye.app OO
theorem OP {ord:List Nat} {sl:Nat→V} {k:Nat} {y:V}: ∀{l:List Nat} {n:Nat},kH hp' β' n (kZ hp ord sl n l).2→dr (kZ hp ord sl n l).1 k=some y→
  ∃n',kH hp' β' n' (pZ hp ord n' (sl k)).2∧y=(pZ hp ord n' (sl k)).1
 | [],n,_,h=>by cases h
 | s::l,n,hF,h=>by
  simp only[kZ] at hF h
  simp only[dr] at h
  cases hb:Nat.beq k s with
  | true=>
   rw[hb] at h
   rw[aP] at hb
   subst hb
   cases h
   exact ⟨n,hF.left,rfl⟩
  | false=>
   rw[hb] at h
   exact OP hF.right h
theorem Yg {ord:List Nat} {n id:Nat}:l7 (eD hp ord n id).2:=by
 unfold eD
 split
 ·exact Ia
 ·exact .nil
 ·exact .nil
 ·exact .nil
 ·exact .nil
theorem OQ {ord:List Nat}: ∀{l:List Nat} {n:Nat},l7 (fg hp ord n l).2
 | [],n=> .nil
 | s::l,n=>by
  simp only[fg]
  exact Yg.app OQ
theorem OR {ord:List Nat}: ∀{l:List Nat} {n:Nat},(fg hp ord n l).1.length=l.length
 | [],n=>rfl
 | x::xs,n=>by simp only[fg,List.length_cons,OR]
theorem OS {ord:List Nat}: ∀{l:List Nat} {n j:Nat} {id:Nat},l[j]? =some id→∃n',(kH hp' β' n (fg hp ord n l).2→kH hp' β' n' (eD hp ord n' id).2)∧(fg hp ord n l).1[j]? =some (eD hp ord n' id).1
 | [],n,j,id,h=>by simp at h
 | s::l,n,j,id,h=>by
  simp only[fg]
  cases j with
  | zero=>
   simp at h
   subst h
   exact ⟨n,fun hF=>hF.left,rfl⟩
  | succ j=>
   obtain ⟨n',h1,U⟩:=OS (n:=n+(eD hp ord n s).2.length) (j:=j) (by simpa using h)
   exact ⟨n',fun hF=>h1 hF.right,by simpa using U⟩
theorem DM: ∀{l acc:List Nat},∃t,s5 hp acc l=acc++t∧(acc.Nodup→(acc++t).Nodup)
 | [],acc=>⟨[],by simp[s5],by simp⟩
 | id::l,acc=>by
  simp only[s5]
  cases hb:(jL acc id|| !(L9 hp id)) with
  | true=>exact DM
  | false=>
   obtain ⟨t,h1,U⟩:=DM (l:=l) (acc:=acc++[id])
   refine ⟨id::t,by simp only[cond_false,h1,cj,List.singleton_append],fun hn=> ?_⟩
   have:acc++id::t=(acc++[id])++t:=by simp
   rw[this]
   refine U ?_
   rw[B4]
   refine ⟨hn,by simp,fun a ha b aA=> ?_⟩
   simp only[eb] at aA
   subst aA
   intro e
   subst e
   rw[vF ha] at hb
   cases hb
theorem OT: ∀{n:Nat} {l:List Nat},∃t,grow hp n l=l++t∧(l.Nodup→(l++t).Nodup)
 | 0,l=>⟨[],by simp[grow],by simp⟩
 | n+1,l=>by
  simp only[grow]
  obtain ⟨t,h1,U⟩:=DM (hp:=hp) (acc:=l) (l:=l.flatMap (GA hp))
  rw[h1]
  obtain ⟨t',h3,h4⟩:=OT (n:=n) (l:=l++t)
  exact ⟨t++t',by rw[h3,cj],fun hn=>by rw[←cj];exact h4 (U hn)⟩
theorem Yh {m:Nat} {live:List Nat} {st:St}: ∃t,GB m live st=List.range m++t∧(List.range m++t).Nodup:=by
 unfold GB
 obtain ⟨t,h1,U⟩:=DM (hp:=st.hp) (acc:=List.range m) (l:=live.flatMap fun s=>Gz (st.sl s))
 rw[h1]
 obtain ⟨t',h3,h4⟩:=OT (hp:=st.hp) (n:=3) (l:=List.range m++t)
 exact ⟨t++t',by rw[h3,cj],by rw[←cj];exact h4 (U List.nodup_range)⟩
end
section
variable {P:Program} {A:cx} {E:FuncId→Bool} {G:Nat→V} {w w':World} {I I' I2:Nat→Prop} {μ β β':Nat→Option Nat} {hp hp' hp0:Nat→Option an} {C:ag} {B:Nat} {M:Nat→Prop} {w0:Start}
theorem OU {n m:Nat} {ord live:List Nat} {a:Act} {st:St} (lb:ord.Nodup) (zM: ∀id,id<m→ord[id]? =some id∨∃p,ord[id]? =some p∧st.hp p=none) (S:aF P w I β st.hp B M w0) (hA:iH P E G w I β n a st) (hE:kF w0.w w0.I μ hp0 w I β st.hp) (hm: ∀id blk,hp0 id=some blk→id<m) (ja: ∀id e es aq,hp0 id=some (.nest e es aq)→∀k,bx aq k=0):
  ∃β',aF P w I β' (vn ord live st).hp B M w0∧iH P E G w I β' n a (vn ord live st)∧kF w0.w w0.I μ hp0 w I β' (vn ord live st).hp:=by
 have Yi:vn ord live st=mk (kZ st.hp ord st.sl (ord.length+(fg st.hp ord ord.length ord).2.length) live).1
   ((fg st.hp ord ord.length ord).1++((fg st.hp ord ord.length ord).2++(kZ st.hp ord st.sl (ord.length+(fg st.hp ord ord.length ord).2.length) live).2)):=by
  rfl
 rw[Yi]
 let hp':=ji ((fg st.hp ord ord.length ord).1++((fg st.hp ord ord.length ord).2++(kZ st.hp ord st.sl (ord.length+(fg st.hp ord ord.length ord).2.length) live).2))
 let β':Nat→Option Nat:=fun j=>if j<ord.length then (ord[j]?).bind β else none
 have hlen:(fg st.hp ord ord.length ord).1.length=ord.length:=OR
 have iE: ∀j,j<ord.length→hp' j=(fg st.hp ord ord.length ord).1[j]? :=by
  intro j hj
  simp only[hp',gI]
  rw[ij (by omega)]
 have gH: ∀k,hp' (ord.length+k)=((fg st.hp ord ord.length ord).2++(kZ st.hp ord st.sl (ord.length+(fg st.hp ord ord.length ord).2.length) live).2)[k]? :=by
  intro k
  simp only[hp',gI]
  rw[ik (by omega),hlen,Nat.add_sub_cancel_left]
 have hF:kH hp' β' ord.length ((fg st.hp ord ord.length ord).2++(kZ st.hp ord st.sl (ord.length+(fg st.hp ord ord.length ord).2.length) live).2):=by
  intro k b hb
  refine ⟨(gH k).trans hb,?_⟩
  simp only[β']
  rw[ai (by omega)]
 have zJ:l7 ((fg st.hp ord ord.length ord).2++(kZ st.hp ord st.sl (ord.length+(fg st.hp ord ord.length ord).2.length) live).2):=OQ.app OO
 have oh: ∀(j:Nat) id,ord[j]? =some id→β' j=β id:=by
  intro j id hj
  simp only[β']
  rw[aj (bt.1 hj).1,hj]
  rfl
 have qA: ∀(j:Nat) id,ord[j]? =some id→∃n',kH hp' β' n' (eD st.hp ord n' id).2∧hp' j=some (eD st.hp ord n' id).1:=by
  intro j id hj
  obtain ⟨n',h1,U⟩:=OS (hp:=st.hp) (hp':=hp') (β':=β') (ord:=ord) (n:=ord.length) hj
  exact ⟨n',h1 hF.left,(iE j (bt.1 hj).1).trans U⟩
 have hR:v9 st.hp β ord hp' β':=by
  refine ⟨fun j id e es fz hj ab=> ?_,fun j id T cs hj ab=> ?_,fun j id hj ab=> ?_,oh,fun j id e es aq hj ab=> ?_,fun j id t es hj ab=> ?_⟩
  ·obtain ⟨n',_,U⟩:=qA j id hj
   rw[U];simp only[eD,ab]
  ·obtain ⟨n',_,U⟩:=qA j id hj
   rw[U];simp only[eD,ab];exact ⟨_,rfl⟩
  ·obtain ⟨n',_,U⟩:=qA j id hj
   rw[U];simp only[eD,ab]
  ·obtain ⟨n',_,U⟩:=qA j id hj
   rw[U];simp only[eD,ab]
  ·obtain ⟨n',_,U⟩:=qA j id hj
   rw[U];simp only[eD,ab]
 have cls: ∀j blk',hp' j=some blk'→(∃id,ord[j]? =some id∧((blk'= .dead)∨∃blk,st.hp id=some blk∧blk≠ .dead∧∀o b,bu P w o blk' b→bu P w o blk b))∨(∃e,blk'= .arr e [] false∧β' j=none):=by
  intro j blk' hj
  rcases oN j ord.length with h|h
  ·have gj:=bB h
   obtain ⟨n',_,U⟩:=qA j _ gj
   rw[hj] at U
   refine .inl ⟨_,gj,?_⟩
   cases ab:st.hp ord[j] with
   | none=>left;simp only[eD,ab] at U;exact cX U
   | some blk=>
    cases blk with
    | dead=>left;simp only[eD,ab] at U;exact cX U
    | var T0 cs=>exact .inr ⟨_,rfl,by simp,fun o b h=>by simp only[eD,ab] at U;rw[cX U] at h;exact .root (by simp) (h.flat (by simp))⟩
    | arr e es fz=>exact .inr ⟨_,rfl,by simp,fun o b h=>by simp only[eD,ab] at U;rw[cX U] at h;exact .root (by simp) (h.flat (by simp))⟩
    | map t es=>exact .inr ⟨_,rfl,by simp,fun o b h=>by simp only[eD,ab] at U;rw[cX U] at h;exact .root (by simp) (h.flat (by simp))⟩
    | nest e es aq=>
     refine .inr ⟨_,rfl,by simp,fun o b h=> ?_⟩
     simp only[eD,ab] at U
     rw[cX U] at h
     cases h with
     | root _ h=>exact .root (by simp) h
     | row h1 U=>exact .row h1 U
  ·obtain ⟨k,rfl⟩: ∃k,j=ord.length+k:=⟨j-ord.length,by omega⟩
   rw[gH] at hj
   obtain ⟨e,he⟩:=zJ _ (jg hj)
   exact .inr ⟨e,he,(hF k _ hj).2⟩
 refine ⟨β',⟨⟨fun j blk' hj=> ?_,fun j1 j2 b1 b2 b e1 e2 f1 f2=> ?_,fun j blk b e1 f1=> ?_,S.h.jn⟩,S.b6,S.size,S.new,S.io⟩,⟨fun k=> ?_,hA.size,hA.defers,hA.aE⟩,⟨hE.c7,hE.b6,fun id blk ab=> ?_,fun id blk blk' b ab bA hd hb=> ?_⟩⟩
 ·change hp' j=some blk' at hj
  rcases oN j ord.length with h|h
  ·have gj:=bB h
   obtain ⟨n',OV,U⟩:=qA j _ gj
   rw[hj] at U
   rw[oh j _ gj]
   cases ab:st.hp ord[j] with
   | none=>simp only[eD,ab] at U;rw[cX U];exact .dead
   | some blk=>
    have hr:=S.h.rel _ _ ab
    generalize β ord[j]=o at hr
    cases hr with
    | dead=>simp only[eD,ab] at U;rw[cX U];exact .dead
    | dv hb=>simp only[eD,ab] at U;rw[cX U];exact .dv hb
    | arr a1 a2 a3 a4 a5 a6 a7=>simp only[eD,ab] at U;rw[cX U];exact .arr a1 a2 a3 a4 a5 a6 a7
    | nest a1 a2 a3=>simp only[eD,ab] at U;rw[cX U];exact .nest a1 a2 a3
    | map a1 a2 a3 a4 a5 a6 a7=>simp only[eD,ab] at U;rw[cX U];exact .map a1 a2 a3 a4 a5 a6 a7
    | @var xs b Ca T hb hh hs cH hx fQ=>
     simp only[eD,ab] at U OV
     rw[cX U]
     exact .var hb hh (by rw[DK];exact hs) cH (fun i v y hi hy=>DL S hR (vs:=Ca.toList) (fun i v x hi cp=>hx i v x (by simpa using hi) cp) OV i v y (by simpa using hi) hy) fQ
  ·rcases cls j blk' hj with ⟨id,ab,_⟩|⟨e,he,hb⟩
   ·have:=(bt.1 ab).1;omega
   ·rw[he];exact .dv hb
 ·rcases cls j1 b1 e1 with ⟨Ib,o1,x1⟩|⟨e,_,hb⟩
  ·rcases cls j2 b2 e2 with ⟨cv,o2,x2⟩|⟨e,_,hb⟩
   ·obtain ⟨c1,y1,z1,g1⟩:=x1.resolve_left f1.alive
    obtain ⟨c2,y2,z2,g2⟩:=x2.resolve_left f2.alive
    rw[oh _ _ o1] at f1
    rw[oh _ _ o2] at f2
    have:=S.h.inj Ib cv c1 c2 b y1 y2 (g1 _ _ f1) (g2 _ _ f2)
    subst this
    obtain ⟨q1,q2⟩:=bt.1 o1
    obtain ⟨q3,q4⟩:=bt.1 o2
    exact (List.getElem_inj lb).1 (q2.trans q4.symm)
   ·subst ‹b2=_›;have:=f2.flat (by simp);rw[hb] at this;cases this
  ·subst ‹b1=_›;have:=f1.flat (by simp);rw[hb] at this;cases this
 ·rcases cls j blk e1 with ⟨Ib,o1,x1⟩|⟨e,_,hb⟩
  ·obtain ⟨c1,y1,z1,g1⟩:=x1.resolve_left f1.alive
   rw[oh _ _ o1] at f1
   exact S.h.own Ib c1 b y1 (g1 _ _ f1)
  ·subst ‹blk=_›;have:=f1.flat (by simp);rw[hb] at this;cases this
 ·change ao P w I β' hp' (a.tmps.getD k undef) (iT _ k)
  unfold iT
  cases HO:dr (kZ st.hp ord st.sl (ord.length+(fg st.hp ord ord.length ord).2.length) live).1 k with
  | none=>exact .undef
  | some y=>
   obtain ⟨n',h1,U⟩:=OP hF.right HO
   simp only[Option.getD_some,U]
   exact Yf S hR (hA.sl k) h1
 ·obtain ⟨qw,k1,k2,k3⟩:=hE.blk id blk ab
  rcases zM id (hm id blk ab) with ho|⟨p,ho,br⟩
  ·cases qw with
   | dead=>exact ⟨.dead,hR.dead id id ho k1,k2,fun h=>absurd rfl h⟩
   | var T0 cs=>
    obtain ⟨hO,h'⟩:=hR.var id id T0 cs ho k1
    refine ⟨_,h',?_,fun _=>(oh id id ho).trans (k3 (by simp))⟩
    cases blk<;>simp_all [an.le]
   | arr e es fz=>exact ⟨_,hR.arr id id e es fz ho k1,k2,fun _=>(oh id id ho).trans (k3 (by simp))⟩
   | map t es=>exact ⟨_,hR.map id id t es ho k1,k2,fun _=>(oh id id ho).trans (k3 (by simp))⟩
   | nest e es aq=>
    refine ⟨_,hR.nest id id e es aq ho k1,?_,fun _=>(oh id id ho).trans (k3 (by simp))⟩
    obtain ⟨GK,Vl,rfl,l1,l2,_⟩:=an.GI k2
    exact ⟨rfl,l1,by simpa using l2,fun k=>by rw[ja id _ _ _ ab k];exact ki _⟩
  ·obtain ⟨n',_,U⟩:=qA id p ho
   simp only[eD,br] at U
   exact ⟨.dead,U,by cases blk<;>trivial,fun h=>absurd rfl h⟩
 ·obtain ⟨qw,k1,k2,k3⟩:=hE.blk id blk ab
  rcases zM id (hm id blk ab) with ho|⟨p,ho,br⟩
  ·refine hE.size id blk qw b ab k1 (fun qz=> ?_) hb
   subst qz
   have:=hR.dead id id ho k1
   change hp' id=some blk' at bA
   rw[this] at bA
   exact hd (cX bA).symm
  ·obtain ⟨n',_,U⟩:=qA id p ho
   simp only[eD,br] at U
   change hp' id=some blk' at bA
   rw[U] at bA
   exact absurd (cX bA).symm hd
theorem Yj {n m:Nat} {live:List Nat} {a:Act} {st:St} (S:aF P w I β st.hp B M w0) (hA:iH P E G w I β n a st) (hE:kF w0.w w0.I μ hp0 w I β st.hp) (hm: ∀id blk,hp0 id=some blk→id<m) (ja: ∀id e es aq,hp0 id=some (.nest e es aq)→∀k,bx aq k=0):
  ∃β',aF P w I β' (canon m live st).hp B M w0∧iH P E G w I β' n a (canon m live st)∧kF w0.w w0.I μ hp0 w I β' (canon m live st).hp:=by
 obtain ⟨t,zM,lb⟩:=Yh (m:=m) (live:=live) (st:=st)
 refine OU (by rw[zM];exact lb) (fun id aO=> .inl ?_) S hA hE hm ja
 rw[zM,ij (by simpa using aO)]
 simp[aO]
theorem OW: ∀{l:List Nat},p5 l=true→l.Nodup
 | [],_=> .nil
 | a::l,h=>by
  simp only[p5,aK,mA] at h
  rw[List.nodup_cons]
  exact ⟨fun hm=>Bool.noConfusion ((vF hm).symm.trans h.1),OW h.2⟩
theorem Yk {m:Nat} {mv:List Nat} {id:Nat} (h:id<m):(nR m mv)[id]? =some id∨(nR m mv)[id]? =some (m+id):=by
 unfold nR
 rw[ij (by simpa using h),gf]
 simp only[List.getElem?_range h,Option.map_some]
 cases jL mv id with
 | true=>exact .inr rfl
 | false=>exact .inl rfl
end
section
variable {P:Program} {A:cx} {w w':World} {I I' I2:Nat→Prop} {μ β β':Nat→Option Nat} {hp hp' hp0:Nat→Option an} {C:ag} {B:Nat} {M:Nat→Prop} {w0:Start}
theorem DN (p:Nat→Prop) (h: ∃n,p n): ∃n,p n∧∀m,p m→n≤m:=by
 obtain ⟨n,hn⟩:=h
 induction n using Nat.strongRecOn with
 | _ n ih=>
  by_cases hx: ∃m,m<n∧p m
  ·obtain ⟨m,hm,hp⟩:=hx
   exact ih m hm hp
  ·exact ⟨n,hn,fun m hm=>Nat.le_of_not_lt fun aO=>hx ⟨m,aO,hm⟩⟩
open Classical in
theorem Yl {c:Code} {Q:Exit→Act→World→Prop} (J:Nat→Act→World→Prop) (h0: ∀a w,¬J 0 a w) (round: ∀n a w,J (n+1) a w→c.wp P (Exit.then (J n) Q) a w) {n:Nat} {a:Act} {w:World} (h:J n a w):
  (Code.loop c).wp P Q a w:=by
 refine wp_loop (fun a w=> ∃n,J n a w) (fun a w=>if h: ∃n,J n a w then (DN _ h).choose else 0) ⟨n,h⟩ fun a w hJ=> ?_
 obtain ⟨h1,U⟩:=(DN _ hJ).choose_spec
 generalize hk:(DN _ hJ).choose=k at h1 U
 cases k with
 | zero=>exact absurd h1 (h0 a w)
 | succ k=>
  refine wp_mono (round k a w h1) fun e a' w' he=> ?_
  cases e with
  | normal=>
   have hex: ∃n,J n a' w':=⟨k,he⟩
   refine ⟨hex,?_⟩
   have h3:=(DN _ hex).choose_spec.2 k he
   rw[ra hex,ra hJ,hk]
   omega
  | _=>exact he
def wa:Out→Exit
 | .norm=> .normal
 | .exit id=> .exit id
 | .ret=> .ret
def Inv (P:Program) (E:FuncId→Bool) (G:Nat→V) (B:Nat) (M:Nat→Prop) (w0:Start) (μ:Nat→Option Nat) (hp0:Nat→Option an) (n:Nat) (a:Act) (w:World) (st:St):Prop:=
 ∃I β,aF P w I β st.hp B M w0∧iH P E G w I β n a st∧kF w0.w w0.I μ hp0 w I β st.hp
theorem Inv.canon {E:FuncId→Bool} {G:Nat→V} {n m:Nat} {a:Act} {st:St} {live:List Nat} (h:Inv P E G B M w0 μ hp0 n a w st) (hm: ∀id blk,hp0 id=some blk→id<m) (ja: ∀id e es aq,hp0 id=some (.nest e es aq)→∀k,bx aq k=0):Inv P E G B M w0 μ hp0 n a w (canon m live st):=by
 obtain ⟨I,β,S,hA,hE⟩:=h
 obtain ⟨β',a,b,c⟩:=Yj (live:=live) S hA hE hm ja
 exact ⟨I,β',a,b,c⟩
theorem DO: ∀{l:List BS} {ds:List V},(en l ds).length=l.length
 | [],_=>rfl
 | b::l,ds=>by simp only[en,List.length_cons,DO]
theorem Inv.enter {A:cx} {E:FuncId→Bool} {G:Nat→V} {n f:Nat} {ds:List V} {a:Act} (jZ:p5 (nR (A.sin f).ba.length (A.mv f))=true) (h:Inv P E G B M w0 μ hp0 n a w (bq (A.sin f) ds)) (hm: ∀id blk,hp0 id=some blk→id<(A.sin f).ba.length)
  (ja: ∀id e es aq,hp0 id=some (.nest e es aq)→∀k,bx aq k=0) (wc: ∀p,(A.sin f).ba.length≤p→(bq (A.sin f) ds).hp p=none):Inv P E G B M w0 μ hp0 n a w (Cy A f ds):=by
 unfold Cy
 split
 ·exact h
 ·obtain ⟨I,β,S,hA,hE⟩:=h
  obtain ⟨β',x,y,z⟩:=OU (m:=(A.sin f).ba.length) (ord:=nR (A.sin f).ba.length (A.mv f)) (live:=(A.sin f).bJ.map (·.1)) (OW jZ) (fun id ab=>(Yk ab).imp (fun h=>h) fun h=>⟨_,h,wc _ (by omega)⟩) S hA hE hm ja
  exact ⟨I,β',x,y,z⟩
theorem Inv.reshape {E:FuncId→Bool} {G:Nat→V} {n m:Nat} {a:Act} {st:St} {S:Shape} {ds:List V} (h:Inv P E G B M w0 μ hp0 n a w st) (hs:jk m S st=some ds) (hm: ∀id blk,hp0 id=some blk→id<m):Inv P E G B M w0 μ hp0 n a w (bq S ds):=by
 obtain ⟨I,β,S1,hA,hE⟩:=h
 obtain ⟨r1,r2,_,r4⟩:=AM.reshape hs S1
 refine ⟨I,β,r1,⟨fun k=>r2 k _ (hA.sl k),hA.size,hA.defers,hA.aE⟩,⟨hE.c7,hE.b6,fun id blk ab=> ?_,fun id blk blk' b ab bA hd hb=> ?_⟩⟩
 ·obtain ⟨qw,k1,k2,k3⟩:=hE.blk id blk ab
  obtain ⟨_,hle,_⟩:=NB hs
  have hl:=hm id blk ab
  obtain ⟨bU,U⟩: ∃bU,(bq S ds).hp id=some bU:=by
   simp only[bq,mk,gI]
   exact ⟨_,bB (by rw[DO];omega)⟩
  by_cases hd:bU= .dead
  ·subst hd
   exact ⟨_,U,by cases blk<;>trivial,fun h=>absurd rfl h⟩
  ·obtain ⟨gA,e1,e2,_⟩:=r4 id bU U hd
   rw[k1] at e1;cases e1
   exact ⟨_,U,an.le_trans k2 e2,fun _=>k3 (fun e=>hd (an.o0 (e▸e2)))⟩
 ·obtain ⟨gA,e1,e2,_⟩:=r4 id blk' bA hd
  exact hE.size id blk gA b ab e1 (fun e=>hd (an.o0 (e▸e2))) hb
theorem kG.here (h:kG P A C) (f:Nat) (id:Nat):kG P (A.here f id) C:=by
 intro key ds es hh
 obtain ⟨fn,c,h1,U,h3⟩:=h key ds es hh
 refine ⟨fn,c,h1,U,fun w I μ vals a g b d=>(h3 w I μ vals a g b d).mono fun e w' hx=> ?_⟩
 obtain ⟨v,I2,bV,q1,q2⟩:=hx
 exact ⟨v,I2,bV,q1,⟨q2.vV,q2.le,q2.res⟩⟩
theorem Ym {a b:Out} (h:Cx a b=true):a=b:=by
 cases a<;>cases b<;>simp[Cx] at h<;>first|rfl|(subst h;rfl)
theorem OX {m:Nat} {r:Out × St}: ∀{l:List (Out × Shape)} {j:Nat} {e:Nat × List V},ways m j l r=some e→j≤e.1
 | [],j,e,h=>by cases h
 | (o,S)::l,j,e,h=>by
  simp only[ways] at h
  split at h
  ·cases h;exact bW _
  ·have:=OX h;omega
theorem Ic {m:Nat} {o:Out} {s:St} {out:Out} {st':St}: ∀{l:List (Out × Shape)} {k:Nat} {e:Nat × List V},ways m k l (o,s)=some e→lM k l e.1 e.2 (fun o st=>some (o,st))=some (out,st')→
  out=o∧∃S,jk m S s=some e.2∧st'=bq S e.2
 | [],k,e,h,_=>by cases h
 | (o',S)::l,k,e,h,U=>by
  simp only[ways] at h
  split at h
  ·rename_i ds hx
   cases h
   cases ho:Cx o' o with
   | false=>rw[ho] at hx;cases hx
   | true=>
    rw[ho] at hx
    have:=Ym ho
    subst this
    cases l with
    | nil=>
     simp only[lM,dH,jK] at U
     exact ⟨U.1.symm,S,hx,U.2.symm⟩
    | cons p l=>
     simp only[lM,jf,cond_true,dH,jK] at U
     exact ⟨U.1.symm,S,hx,U.2.symm⟩
  ·have pb:=OX h
   cases l with
   | nil=>cases h
   | cons p l=>
    have bz:Nat.beq e.1 k=false:=by
     cases hb:Nat.beq e.1 k with
     | false=>rfl
     | true=>rw[aP] at hb;omega
    simp only[lM,bz,cond_false] at U
    exact Ic h U
theorem Yn (hC:kG P A C) (hP:iG P A) (mY:P.follows .mixedOrders=true) {f n m:Nat} (hm: ∀id blk,hp0 id=some blk→id<m) (ja: ∀id e es aq,hp0 id=some (.nest e es aq)→∀k,bx aq k=0):
  ∀(c:Code) {st st':St} {out:Out} {Q:Exit→Act→World→Prop} {a:Act} {w:World},exec P A C f n m c st=some (out,st')→Inv P A.idle A.aE B M w0 μ hp0 n a w st→
   (∀a' w',Inv P A.idle A.aE B M w0 μ hp0 n a' w' st'→Q (wa out) a' w')→c.wp P Q a w:=by
 intro c
 induction c with
 | skip=>
  intro st st' out Q a w h hI hQ
  simp only[exec,dH,jK] at h
  obtain ⟨rfl,rfl⟩:=h
  exact wp_skip (hQ a w hI)
 | exit id=>
  intro st st' out Q a w h hI hQ
  simp only[exec,dH,jK] at h
  obtain ⟨rfl,rfl⟩:=h
  exact wp_exit (hQ a w hI)
 | ret=>
  intro st st' out Q a w h hI hQ
  simp only[exec,dH,jK] at h
  obtain ⟨rfl,rfl⟩:=h
  exact wp_ret (hQ a w hI)
 | region id ops draw=>
  intro st st' out Q a w h hI hQ
  simp only[exec] at h
  obtain ⟨iI,h1,U⟩:=bind_some h
  simp only[dH,jK] at U
  obtain ⟨rfl,rfl⟩:=U
  obtain ⟨I,β,S,hA,hE⟩:=hI
  refine Yc (hC.here f id) (hP.here f id) mY h1 S hA fun a' w' I' β' k1 k2 k3=> ?_
  obtain ⟨I2,l1,l2,l3⟩:=OI (m:=m) (pur:=A.pur f id) k2 k3
  have Yo:=(hE.trans k1.Du).trans l1.Du
  exact hQ a' w' (Inv.canon ⟨I2,β',l2,l3,Yo⟩ hm ja)
 | seq x y iq iu=>
  intro st st' out Q a w h hI hQ
  simp only[exec] at h
  obtain ⟨⟨o1,iI⟩,h1,U⟩:=bind_some h
  refine wp_seq (iq h1 hI fun a' w' jv=> ?_)
  cases o1 with
  | norm=>exact iu U jv hQ
  | exit id=>
   simp only[dH,jK] at U
   obtain ⟨rfl,rfl⟩:=U
   exact hQ a' w' jv
  | ret=>
   simp only[dH,jK] at U
   obtain ⟨rfl,rfl⟩:=U
   exact hQ a' w' jv
 | cond c x y iq iu=>
  intro st st' out Q a w h hI hQ
  cases c with
  | tmp t=>
   have go: ∀{st st':St} {out:Out} {Q:Exit→Act→World→Prop} {a:Act} {w:World},(match st.sl t with
     | .bool b=>(bif b then exec P A C f n m x st else exec P A C f n m y st).bind fun r=>
      match r.1 with
      | .norm=>some (.norm,AM.canon m (A.join f t) r.2)
      | _=>some r
     | _=>none)=some (out,st')→Inv P A.idle A.aE B M w0 μ hp0 n a w st→(∀a' w',Inv P A.idle A.aE B M w0 μ hp0 n a' w' st'→Q (wa out) a' w')→(Code.cond (.tmp t) x y).wp P Q a w:=by
    intro st st' out Q a w h hI hQ
    cases hs:st.sl t<;>rw[hs] at h<;>simp only at h<;>first|(cases h;done)|skip
    rename_i b
    obtain ⟨⟨o1,iI⟩,h1,U⟩:=bind_some h
    obtain ⟨I,β,S,hA,hE⟩:=hI
    have eG:a.eval (.tmp t)= .bool b:=by
     have:=Od hA hs
     simp[Act.eval,this]
    have fin: ∀a' w',Inv P A.idle A.aE B M w0 μ hp0 n a' w' iI→Q (wa o1) a' w':=by
     intro a' w' jv
     cases o1 with
     | norm=>
      simp only[dH,jK] at U
      obtain ⟨rfl,rfl⟩:=U
      exact hQ a' w' (jv.canon hm ja)
     | exit id=>
      simp only[dH,jK] at U
      obtain ⟨rfl,rfl⟩:=U
      exact hQ a' w' jv
     | ret=>
      simp only[dH,jK] at U
      obtain ⟨rfl,rfl⟩:=U
      exact hQ a' w' jv
    refine wp_cond eG ?_
    cases b with
    | true=>exact iq h1 ⟨I,β,S,hA,hE⟩ fin
    | false=>exact iu h1 ⟨I,β,S,hA,hE⟩ fin
   simp only[exec] at h
   split at h
   ·exact go h hI hQ
   ·obtain ⟨ds,h1,U⟩:=bind_some h
    obtain ⟨e,h3,h4⟩:=bind_some U
    obtain ⟨⟨o1,s1⟩,h5,h6⟩:=bind_some h3
    obtain ⟨rfl,S',k1,rfl⟩:=Ic h6 h4
    exact go h5 (hI.reshape h1 hm) fun a' w' jv=>hQ a' w' (jv.reshape k1 hm)
  | const v=>
   cases v with
   | bool b=>
    simp only[exec] at h
    refine wp_cond (t:=b) rfl ?_
    cases b with
    | true=>exact iq h hI hQ
    | false=>exact iu h hI hQ
   | _=>simp only[exec] at h;cases h
  | _=>simp only[exec] at h;cases h
 | block id c ih=>
  intro st st' out Q a w h hI hQ
  simp only[exec] at h
  obtain ⟨⟨o1,iI⟩,h1,U⟩:=bind_some h
  refine wp_block (ih h1 hI fun a' w' jv=> ?_)
  cases o1 with
  | norm=>
   simp only[dH,jK] at U
   obtain ⟨rfl,rfl⟩:=U
   exact hQ a' w' (jv.canon hm ja)
  | exit aD=>
   simp only at U
   cases hb:Nat.beq aD id with
   | true=>
    rw[hb] at U
    simp only[cond_true,dH,jK] at U
    obtain ⟨rfl,rfl⟩:=U
    rw[aP] at hb
    simp only[wa,Exit.inBlock,hb,cE]
    exact hQ a' w' (jv.canon hm ja)
   | false=>
    rw[hb] at U
    simp only[cond_false,dH,jK] at U
    obtain ⟨rfl,rfl⟩:=U
    have bz:aD≠id:=fun e=>by rw[e,jf] at hb;cases hb
    simp only[wa,Exit.inBlock,bz,fa]
    exact hQ a' w' jv
  | ret=>
   simp only[dH,jK] at U
   obtain ⟨rfl,rfl⟩:=U
   exact hQ a' w' jv
 | loop c ih=>
  intro st st' out Q a w h hI hQ
  simp only[exec] at h
  split at h
  ·cases h
  ·rename_i S hS
   obtain ⟨ds,h1,U⟩:=bind_some h
   obtain ⟨e,h3,h4⟩:=bind_some U
   obtain ⟨k,hk⟩:=va h3
   refine Yl (J:=fun k a w=> ∃ds,Inv P A.idle A.aE B M w0 μ hp0 n a w (bq S.1 ds)∧fc (fun ds=>mL m S.1 S.2 (exec P A C f n m c (bq S.1 ds))) k ds=some e) (fun a w ⟨s,_,h⟩=>by cases h) (fun k a w ⟨ds,hs,hk⟩=> ?_) ⟨ds,hI.reshape h1 hm,hk⟩
   simp only[fc] at hk
   obtain ⟨y,h5,h6⟩:=bind_some hk
   unfold mL at h5
   obtain ⟨⟨o1,s1⟩,h7,h8⟩:=bind_some h5
   refine ih h7 hs fun a' w' jv=> ?_
   have OY: ∀{e':Nat × List V},ways m 0 S.2 (o1,s1)=some e'→e'=e→Q (wa o1) a' w':=by
    intro e' q1 q2
    subst q2
    obtain ⟨rfl,S',k1,rfl⟩:=Ic q1 h4
    exact hQ a' w' (jv.reshape k1 hm)
   cases o1 with
   | norm=>
    obtain ⟨Yp,q1,q2⟩:=bind_some h8
    cases q2
    exact ⟨Yp,jv.reshape q1 hm,h6⟩
   | exit id=>
    obtain ⟨e',q1,q2⟩:=bind_some h8
    cases q2
    cases h6
    exact OY q1 rfl
   | ret=>
    obtain ⟨e',q1,q2⟩:=bind_some h8
    cases q2
    cases h6
    exact OY q1 rfl
 | _=>intro st st' out Q a w h;simp only[exec] at h;cases h
end
section
variable {P:Program} {A:cx} {w w':World} {I I' I2:Nat→Prop} {μ β β' bV:Nat→Option Nat} {hp hp' hp0:Nat→Option an} {C:ag} {B:Nat} {M:Nat→Prop} {w0:Start}
theorem DP (S:aF P w I β hp B M w0) {a:Act} {st:St} (hs:kz P w I β hp a st.sl): ∀{l:List ResultVar} {xs:List V} {rd:List Nat},(s8 P st l).run C hp=some (xs,rd)→
  ∃vs:List Value,(l.mapM fun| .tmp t=>Pure.pure (a.tmps.getD t undef)| .cell x t=>do loadVar t (←asAddr (a.tmps.getD x undef)):Sem (List Value)).run P w= .ok vs w∧vs.length=xs.length∧l.length=xs.length∧
   ∀(j:Nat) v x,vs[j]? =some v→xs[j]? =some x→ao P w I β hp v x
 | [],xs,rd,h=>by
  cases h
  exact ⟨[],by simp,rfl,rfl,by simp⟩
 | .tmp t::l,xs,rd,h=>by
  simp only[s8] at h
  obtain ⟨ys,l1,l2,h1,U⟩:=kA h
  have h3:=GM U
  subst h3
  obtain ⟨vs,a1,a2,a3,a4⟩:=DP S hs h1
  refine ⟨a.tmps.getD t undef::vs,by simp only[List.mapM_cons,Sem.run_bind,Sem.run_pure,Result.andThen_ok,a1],by simp[a2],by simp[a3],fun j v x hj hx=> ?_⟩
  cases j with
  | zero=>simp at hj hx;subst hj;subst hx;have:=hs t;simpa using this
  | succ j=>exact a4 j v x (by simpa using hj) (by simpa using hx)
 | .cell y t::l,xs,rd,h=>by
  simp only[s8] at h
  obtain ⟨r,l1,l2,h1,U⟩:=kA h
  obtain ⟨ys,l3,l4,h3,h4⟩:=kA U
  have h5:=GM h4
  subst h5
  obtain ⟨v0,b1,b2,b3,ad,b4⟩:=Mt S (hs y) h1
  obtain ⟨vs,a1,a2,a3,a4⟩:=DP S hs h3
  refine ⟨v0::vs,?_,by simp[a2],by simp[a3],fun j v x hj hx=> ?_⟩
  ·have e1:(do loadVar t (←asAddr (a.tmps.getD y undef)):Sem Value).run P w= .ok v0 w:=by
    rw[b4] at b1⊢
    simpa[Instr.loadAt,Instr.sureAddr,asAddr] using b1
   simp only[List.mapM_cons,Sem.run_bind,e1,Result.andThen_ok,a1,Sem.run_pure]
  cases j with
  | zero=>simp at hj hx;subst hj;subst hx;exact b2
  | succ j=>exact a4 j v x (by simpa using hj) (by simpa using hx)
def tS:List Value→Value
 | [v]=>v
 | l=> .tuple l.toArray
theorem Yq {vs:List Value} (h:vs.length≠1):tS vs= .tuple vs.toArray:=by
 match vs,h with
 | [],_=>rfl
 | [v],h=>simp at h
 | v::v2::l,_=>rfl
theorem Yr {fn:Func} {a:Act} {st:St} (S:aF P w I β st.hp B M w0) (hs:kz P w I β st.hp a st.sl) {xs:List V} {rd:List Nat} (h:(s8 P st fn.results.toList).run C st.hp=some (xs,rd)):
  ∃vs:List Value,(results fn a.tmps).run P w= .ok (tS vs) w∧vs.length=xs.length∧
   ∀(j:Nat) v x,vs[j]? =some v→xs[j]? =some x→ao P w I β st.hp v x:=by
 obtain ⟨vs,a1,a2,_,a4⟩:=DP S hs h
 refine ⟨vs,?_,a2,a4⟩
 unfold results
 rw[Array.mapM_eq_mapM_toList]
 simp only[map_eq_pure_bind,bind_assoc,pure_bind,Sem.run_bind]
 refine (congrArg (fun r:Result (List Value)=>r.andThen _) a1).trans ?_
 simp only[Result.andThen_ok,Sem.run_pure]
 match vs with
 | []=>simp[tS]
 | [v]=>simp[tS]
 | v::v2::l=>simp[tS]
theorem OZ: ∀{args:List V} {i k:Nat},dr (mM i args) k=if i≤k then args[k-i]? else none
 | [],i,k=>by simp[mM,dr]
 | v::vs,i,k=>by
  simp only[mM,dr]
  cases hb:Nat.beq k i with
  | true=>
   rw[aP] at hb
   subst hb
   simp
  | false=>
   have bz:k≠i:=fun e=>by rw[e,jf] at hb;cases hb
   simp only[cond_false,OZ]
   by_cases h:i≤k
   ·rw[aj (by omega),aj h]
    obtain ⟨d,rfl⟩: ∃d,k=i+1+d:=⟨k-(i+1),by omega⟩
    rw[show i+1+d-(i+1)=d by omega,show i+1+d-i=d+1 by omega]
    rfl
   ·rw[ai (by omega),ai h]
theorem Ie: ∀{l:List (Nat × VS)} {ds:List V} {i k:Nat},jQ i l=true→dr (eU l ds) k=if i≤k then (fe (l.map (·.2)) ds)[k-i]? else none
 | [],ds,i,k,_=>by simp[eU,fe,dr]
 | (q,s)::l,ds,i,k,h=>by
  simp only[jQ,aK,aP] at h
  obtain ⟨rfl,h⟩:=h
  simp only[eU,dr,cF,fe]
  cases hb:Nat.beq k q with
  | true=>
   rw[aP] at hb
   subst hb
   simp
  | false=>
   have bz:k≠q:=fun e=>by rw[e,jf] at hb;cases hb
   simp only[cond_false]
   rw[Ie h]
   by_cases h:q≤k
   ·rw[aj (by omega),aj h]
    obtain ⟨d,rfl⟩: ∃d,k=q+1+d:=⟨k-(q+1),by omega⟩
    rw[show q+1+d-(q+1)=d by omega,show q+1+d-q=d+1 by omega]
    rfl
   ·rw[ai (by omega),ai h]
theorem O0: ∀{l:List (Nat × VS)} {ds:List V},(eU l ds).map (·.2)=fe (l.map (·.2)) ds
 | [],_=>rfl
 | (q,s)::l,ds=>by simp only[eU,cF,fe,O0]
theorem Ig: ∀{l:List VS} {ds:List V},(fe l ds).length=l.length
 | [],_=>rfl
 | s::l,ds=>by simp only[fe,List.length_cons,Ig]
theorem O1: ∀{l:List (Nat × VS)} {ds:List V},(eU l ds).length=l.length
 | [],_=>rfl
 | (q,s)::l,ds=>by simp only[eU,List.length_cons,O1]
theorem Ys {vals:List Value} {l:List (Nat × V)} (hl:vals.length=l.length) (h: ∀(j:Nat) v y,vals[j]? =some v→(l.map (·.2))[j]? =some y→ao P w I β hp v y):ao P w I β hp (tS vals) (oY l):=by
 match l,hl,h with
 | [],hl,h=>
  obtain rfl:vals=[]:=kR hl
  exact .bd rfl fun j v x _ hx=>by simp at hx
 | [(k,y)],hl,h=>
  match vals,hl,h with
  | [v],_,h=>exact h 0 v y rfl rfl
 | a::b::l,hl,h=>
  have bz:vals.length≠1:=by rw[hl];simp
  rw[Yq bz]
  simp only[oY]
  exact .bd (by simp[hl]) fun j v y hj hy=>h j v y (by simpa using hj) hy
theorem Yt {l:List BS} {ds:List V} {j:Nat} {e:TypeId} {es:List V} {aq:List Nat} (h:(en l ds)[j]? =some (.nest e es aq)) (k:Nat):bx aq k=0:=by
 obtain ⟨b,eY,_,U⟩:=HS h
 cases b<;>simp only[fv] at U<;>cases U
 match k with
 | 0=>rfl
 | 1=>rfl
 | 2=>rfl
 | _+3=>rfl
theorem Yu {f n m:Nat} {fn:Func} {a:Act} {st:St} {es:List V} {rd:List Nat} (hm: ∀id blk,hp0 id=some blk→id<m) (ja: ∀id e es aq,hp0 id=some (.nest e es aq)→∀k,bx aq k=0)
  (hI:Inv P A.idle A.aE B M w0 μ hp0 n a w st) (oj:jQ 0 (A.gg f).bJ=true) (aU:(A.gg f).bJ.length=fn.results.size) (h:(vp P A f fn m st).run C st.hp=some (es,rd)):
  ∃v I2 bV,(results fn a.tmps).run P w= .ok v w∧aF P w I2 bV (bq (A.so f es) (A.lv f es)).hp B M w0∧kF w0.w w0.I μ hp0 w I2 bV (bq (A.so f es) (A.lv f es)).hp∧ao P w I2 bV (bq (A.so f es) (A.lv f es)).hp v (oY (eU (A.so f es).bJ (A.lv f es))):=by
 unfold vp at h
 obtain ⟨xs,l1,l2,h1,U⟩:=kA h
 obtain ⟨I,β,S,hA,hE⟩:=hI
 obtain ⟨vals,e1,e2,e3⟩:=Yr S hA.sl h1
 have e4:fn.results.size=xs.length:=by
  obtain ⟨_,_,_,q,_⟩:=DP S hA.sl h1
  simpa using q
 have fin: ∀(Sx:Shape) (es:List V),jQ 0 Sx.bJ=true→Sx.bJ.length=fn.results.size→jk m Sx (canon m (List.range xs.length) (freeze m (A.sY f) ⟨iT (mM 0 xs),st.hp,st.nb⟩))=some es→
   ∃v I2 bV,(results fn a.tmps).run P w= .ok v w∧aF P w I2 bV (bq Sx es).hp B M w0∧kF w0.w w0.I μ hp0 w I2 bV (bq Sx es).hp∧ao P w I2 bV (bq Sx es).hp v (oY (eU Sx.bJ es)):=by
  intro Sx es oj aU tT
  have Yv:iH P A.idle A.aE w I β vals.length ⟨vals.toArray,[]⟩ ⟨iT (mM 0 xs),st.hp,st.nb⟩:=by
   refine ⟨fun k=> ?_,by simp,by simp,hA.aE⟩
   change ao P w I β st.hp _ (iT (mM 0 xs) k)
   unfold iT
   rw[OZ]
   simp only[ki,cE,Nat.sub_zero]
   cases hk:xs[k]? with
   | none=>exact .undef
   | some x=>
    have hU:k<vals.length:=by rw[e2];exact (bt.1 hk).1
    have:=e3 k vals[k] x (bB hU) hk
    have e5:(vals.toArray).getD k undef=vals[k]:=by simp[hU]
    rw[Option.getD_some]
    exact e5▸this
  obtain ⟨I2,k1,k2,k3⟩:=OI (st:=⟨iT (mM 0 xs),st.hp,st.nb⟩) (m:=m) (pur:=A.sY f) S Yv
  have Yw:Inv P A.idle A.aE B M w0 μ hp0 vals.length ⟨vals.toArray,[]⟩ w (freeze m (A.sY f) ⟨iT (mM 0 xs),st.hp,st.nb⟩):=⟨I2,β,k2,k3,hE.trans k1.Du⟩
  obtain ⟨I3,O2,q1,q2,q3⟩:=(Yw.canon (live:=List.range xs.length) hm ja).reshape tT hm
  refine ⟨tS vals,I3,O2,e1,q1,q3,Ys (by rw[O1,aU,e4,e2]) fun j v y hj hy=> ?_⟩
  have hv:=q2.sl j
  have b7:=(bt.1 hj).1
  have e5:(vals.toArray).getD j undef=v:=by
   have:=(bt.1 hj).2
   simp[b7,this]
  change ao P w I3 O2 _ ((vals.toArray).getD j undef) (iT (eU Sx.bJ _) j) at hv
  rw[e5] at hv
  unfold iT at hv
  rw[Ie oj] at hv
  simp only[ki,cE,Nat.sub_zero] at hv
  rw[O0] at hy
  rw[hy] at hv
  exact hv
 unfold cx.so cx.lv
 cases b8:A.alt f with
 | none=>
  rw[b8] at U
  simp only at U⊢
  split at U
  ·rename_i eY tT
   have:=aM U
   subst this
   exact fin _ _ oj aU tT
  ·cases U
 | some S2=>
  rw[b8] at U
  simp only at U⊢
  split at U
  ·rename_i eY tT
   have:=aM U
   subst this
   exact fin _ _ oj aU tT
  ·split at U
   ·rename_i eY tT
    obtain ⟨hc,h3⟩:=aG U
    simp only[aK,aP] at hc
    have:=aM h3
    subst this
    exact fin _ _ hc.1 hc.2 tT
   ·cases U
theorem Yx (hC:kG P A C) (hP:iG P A) (mY:P.follows .mixedOrders=true):kG P A (p7 P A C):=by
 intro f ds es h
 unfold p7 at h
 cases hf:P.funcs[A.aZ f]? with
 | none=>rw[hf] at h;cases h
 | some fn=>
  rw[hf] at h
  simp only at h
  cases hb:fn.body with
  | none=>rw[hb] at h;cases h
  | some c=>
   rw[hb] at h
   simp only at h
   cases hc:(jQ 0 (A.sin f).bJ&&(Nat.ble (A.sin f).bJ.length fn.ntmps&&((A.sin f).ok&&(jQ 0 (A.gg f).bJ&&(Nat.beq (A.gg f).bJ.length fn.results.size&&p5 (nR (A.sin f).ba.length (A.mv f))))))) with
   | false=>rw[hc] at h;cases h
   | true=>
    rw[hc] at h
    simp only[cond_true] at h
    simp only[aK,aP,di] at hc
    obtain ⟨jX,hnt,_,v5,aU,jZ⟩:=hc
    obtain ⟨⟨out,st'⟩,h1,U⟩:=bind_some h
    refine ⟨fn,c,rfl,hb,fun w I μ vals hH Yy hl hv=> ?_⟩
    have Yz:(∀id,out≠ .exit id)∧∃rd,(vp P A f fn (A.sin f).ba.length st').run C st'.hp=some (es,rd):=by
     cases out with
     | exit id=>cases U
     | norm=>
      refine ⟨by simp,?_⟩
      simp only[yp] at U
      obtain ⟨⟨x,rd⟩,e1,e2⟩:=U
      simp only at e2
      subst e2
      exact ⟨rd,e1⟩
     | ret=>
      refine ⟨by simp,?_⟩
      simp only[yp] at U
      obtain ⟨⟨x,rd⟩,e1,e2⟩:=U
      simp only at e2
      subst e2
      exact ⟨rd,e1⟩
    obtain ⟨bz,rd,HJ⟩:=Yz
    refine calls_of_wp_defers hf hb ?_
    have hm: ∀id blk,(bq (A.sin f) ds).hp id=some blk→id<(A.sin f).ba.length:=by
     intro id blk ab
     simp only[bq,mk,gI] at ab
     have:=(bt.1 ab).1
     rwa [DO] at this
    have ja: ∀id e es aq,(bq (A.sin f) ds).hp id=some (.nest e es aq)→∀k,bx aq k=0:=by
     intro id e es aq ab k
     simp only[bq,mk,gI] at ab
     exact Yt ab k
    refine Yn (w0:=⟨w,I⟩) (μ:=μ) (hp0:=(bq (A.sin f) ds).hp) (B:=w.heap.size) (M:=og P w μ (bq (A.sin f) ds).hp) hC hP mY hm ja c h1 ?_ ?_
    ·refine Inv.enter jZ ?_ hm ja fun p hp=>by
      simp only[bq,mk,gI]
      rw[List.getElem?_eq_none_iff,DO]
      exact hp
     refine ⟨I,μ,⟨hH,fun _ _ _=>rfl,bW _,fun b h=> .inl h,⟨rfl,rfl⟩⟩,⟨fun k=> ?_,?_,by simp,Yy⟩,(Le.refl (P:=P) w I μ _).Du⟩
     ·change ao P w I μ _ _ (iT (eU (A.sin f).bJ ds) k)
      unfold iT
      rw[Ie jX]
      simp only[ki,cE,Nat.sub_zero]
      cases hk:(fe ((A.sin f).bJ.map (·.2)) ds)[k]? with
      | none=>exact .undef
      | some x=>
       have hU:k<vals.length:=by
        have:=(bt.1 hk).1
        rw[Ig,aQ] at this
        rw[hl];exact this
       have:=hv k vals[k] x (bB hU) hk
       have e1:(vals.toArray++Array.replicate (fn.ntmps-vals.toArray.size) undef).getD k undef=vals[k]:=by
        simp[Array.getElem?_append,hU]
       rw[Option.getD_some]
       exact e1▸this
     ·simp
      omega
    ·intro a' w' hI
     obtain ⟨v,I2,bV,q1,q2,q3,q4⟩:=Yu hm ja hI v5 aU HJ
     obtain ⟨_,_,_,hA,_⟩:=hI
     cases out with
     | exit id=>exact absurd rfl (bz id)
     | norm=>exact HY hP q1 ⟨v,I2,bV,rfl,q2,q3,q4⟩ _ hA.defers
     | ret=>exact HY hP q1 ⟨v,I2,bV,rfl,q2,q3,q4⟩ _ hA.defers
theorem O3 (hP:iG P A) (mY:P.follows .mixedOrders=true): ∀n,kG P A (k0 P A n)
 | 0=>fun _ _ _ h=>by cases h
 | n+1=>Yx (O3 hP mY n) hP mY
theorem YA (hP:iG P A) (mY:P.follows .mixedOrders=true):kG P A (Call P A):=by
 intro f ds es h
 have hn: ∃n,k0 P A n f ds=some es:=by
  unfold Call at h
  split at h
  ·rename_i hex
   have:=hex.choose_spec.choose_spec
   rw[cX h] at this
   exact ⟨_,this⟩
  ·cases h
 obtain ⟨n,hn⟩:=hn
 exact O3 hP mY n f ds es hn
end
section
variable {P:Program} {A:cx} {C:ag} {D:Nat→ag}
def zN (C:ag) (D:Nat→ag):Prop:= ∀f a r,C f a=some r→∃n,∀k,n≤k→D k f a=some r
theorem ph {α:Type} (h:zN C D) {hp:Nat→Option an}: ∀{p:Rd α} {r:α × List Nat},p.run C hp=some r→∃n,∀k,n≤k→p.run (D k) hp=some r
 | .ret a,r,e=>⟨0,fun _ _=>e⟩
 | .fail,r,e=>by cases e
 | .get id q,r,e=>by
  obtain ⟨x,h1,U⟩:=bind_some e
  obtain ⟨n,hn⟩:=ph h h1
  exact ⟨n,fun k hk=>by simp only[Rd.run,hn k hk,Option.bind_some];exact U⟩
 | .opt o q,r,e=>by
  obtain ⟨x,h1,U⟩:=bind_some e
  obtain ⟨n,hn⟩:=ph h U
  exact ⟨n,fun k hk=>by simp only[Rd.run,h1,Option.bind_some];exact hn k hk⟩
 | .live id ok q,r,e=>by
  simp only[Rd.run] at e
  cases hk:ok (fN (hp id)) with
  | false=>rw[hk] at e;cases e
  | true=>
   rw[hk] at e
   obtain ⟨x,h1,U⟩:=bind_some e
   obtain ⟨n,hn⟩:=ph h h1
   exact ⟨n,fun k lZ=>by simp only[Rd.run,hk,cond_true,hn k lZ,Option.bind_some];exact U⟩
 | .aC b q,r,e=>by
  obtain ⟨h1,U⟩:=aG e
  obtain ⟨n,hn⟩:=ph h U
  exact ⟨n,fun k hk=>by simp only[Rd.run,h1,cond_true];exact hn k hk⟩
 | .call f a q,r,e=>by
  obtain ⟨x,h1,U⟩:=bind_some e
  obtain ⟨n1,jX⟩:=h f a x h1
  obtain ⟨n2,v5⟩:=ph h U
  exact ⟨max n1 n2,fun k hk=>by simp only[Rd.run,jX k (by omega),Option.bind_some];exact v5 k (by omega)⟩
 | .alt true x y,r,e=>ph (p:=x) h e
 | .alt false x y,r,e=>ph (p:=y) h e
theorem YB (h:zN C D) {n i nb:Nat} {ops:Array Oper} {o:Oper} {st:St} {r:St × List Nat × List Nat} (e:gz P A C n ops i o nb st=some r): ∃N,∀k,N≤k→gz P A (D k) n ops i o nb st=some r:=by
 unfold gz at e
 have go:(((ff P A st.sl i (nb+64*i) o).run C st.hp).bind fun r=>some ((⟨gU st.sl o.dst r.1.v,bG st.hp r.1.upd,st.nb⟩:St),p6 r.2 r.1.upd,fw st.hp r.1.upd))=some r→
   ∃N,∀k,N≤k→(((ff P A st.sl i (nb+64*i) o).run (D k) st.hp).bind fun r=>some ((⟨gU st.sl o.dst r.1.v,bG st.hp r.1.upd,st.nb⟩:St),p6 r.2 r.1.upd,fw st.hp r.1.upd))=some r:=by
  intro e
  obtain ⟨x,h1,U⟩:=bind_some e
  obtain ⟨N,hN⟩:=ph h h1
  exact ⟨N,fun k hk=>by rw[hN k hk];exact U⟩
 unfold gz
 cases hd:rC o n with
 | false=>rw[hd] at e;cases e
 | true=>
  rw[hd] at e
  simp only[cond_true] at e⊢
  cases hg:o.guard with
  | none=>rw[hg] at e;exact go e
  | some gw=>
   obtain ⟨g,want⟩:=gw
   rw[hg] at e
   simp only at e⊢
   cases lp:(ops[g]?).bind (·.dst) with
   | none=>rw[lp] at e;cases e
   | some d=>
    rw[lp] at e
    simp only at e⊢
    cases lY:kV (st.sl d) with
    | none=>rw[lY] at e;cases e
    | some ob=>
    rw[lY] at e
    cases ob with
    | none=>exact ⟨0,fun _ _=>e⟩
    | some b=>
    simp only at e⊢
    cases hb:b==want with
    | true=>rw[hb] at e;exact go e
    | false=>rw[hb] at e;exact ⟨0,fun _ _=>e⟩
theorem O4 (h:zN C D) {n nb:Nat} {ops:Array Oper}: ∀{l:List (Nat × Oper)} {st:St} {log:Log} {r:St × Log},oZ P A C n ops nb l st log=some r→∃N,∀k,N≤k→oZ P A (D k) n ops nb l st log=some r
 | [],st,log,r,e=>⟨0,fun _ _=>e⟩
 | (i,o)::l,st,log,r,e=>by
  obtain ⟨x,h1,U⟩:=bind_some e
  obtain ⟨N1,om⟩:=YB h h1
  obtain ⟨N2,qB⟩:=O4 h U
  exact ⟨max N1 N2,fun k hk=>by simp only[oZ,om k (by omega),Option.bind_some];exact qB k (by omega)⟩
theorem O5 {X R:Type} {step:X→Option (X ⊕ R)} {stepD:Nat→X→Option (X ⊕ R)} (hs: ∀x y,step x=some y→∃N,∀k,N≤k→stepD k x=some y): ∀(n:Nat) (x:X) (r:R),fc step n x=some r→∃N,∀k,N≤k→fc (stepD k) n x=some r
 | 0,x,r,e=>by cases e
 | n+1,x,r,e=>by
  simp only[fc] at e⊢
  obtain ⟨y,h1,U⟩:=bind_some e
  obtain ⟨N1,om⟩:=hs x y h1
  cases y with
  | inl z=>
   obtain ⟨N2,qB⟩:=O5 hs n z r U
   exact ⟨max N1 N2,fun k hk=>by rw[om k (by omega)];exact qB k (by omega)⟩
  | inr q=>exact ⟨N1,fun k hk=>by rw[om k hk];exact U⟩
theorem YC (h:zN C D) {f n m:Nat}: ∀(c:Code) {st:St} {r:Out × St},exec P A C f n m c st=some r→∃N,∀k,N≤k→exec P A (D k) f n m c st=some r:=by
 intro c
 induction c with
 | skip=>exact fun e=>⟨0,fun _ _=>e⟩
 | exit id=>exact fun e=>⟨0,fun _ _=>e⟩
 | ret=>exact fun e=>⟨0,fun _ _=>e⟩
 | region id ops draw=>
  intro st r e
  simp only[exec] at e⊢
  obtain ⟨x,h1,U⟩:=bind_some e
  obtain ⟨y,h3,h4⟩:=bind_some h1
  obtain ⟨N,hN⟩:=O4 h h3
  refine ⟨N,fun k hk=> ?_⟩
  have:yQ P (A.here f id) (D k) n ops draw st=some x:=by
   unfold yQ
   rw[hN k hk]
   exact h4
  rw[this]
  exact U
 | seq x y iq iu=>
  intro st r e
  simp only[exec] at e⊢
  obtain ⟨⟨o,s1⟩,h1,U⟩:=bind_some e
  obtain ⟨N1,om⟩:=iq h1
  cases o with
  | norm=>
   obtain ⟨N2,qB⟩:=iu U
   exact ⟨max N1 N2,fun k hk=>by rw[om k (by omega)];exact qB k (by omega)⟩
  | exit id=>exact ⟨N1,fun k hk=>by rw[om k hk];exact U⟩
  | ret=>exact ⟨N1,fun k hk=>by rw[om k hk];exact U⟩
 | cond c x y iq iu=>
  intro st r e
  cases c with
  | tmp t=>
   have go: ∀{st:St} {r:Out × St},(match st.sl t with
     | .bool b=>(bif b then exec P A C f n m x st else exec P A C f n m y st).bind fun r=>
      match r.1 with
      | .norm=>some (.norm,canon m (A.join f t) r.2)
      | _=>some r
     | _=>none)=some r→∃N,∀k,N≤k→(match st.sl t with
     | .bool b=>(bif b then exec P A (D k) f n m x st else exec P A (D k) f n m y st).bind fun r=>
      match r.1 with
      | .norm=>some (.norm,canon m (A.join f t) r.2)
      | _=>some r
     | _=>none)=some r:=by
    intro st r e
    cases hs:st.sl t<;>rw[hs] at e<;>simp only at e⊢ <;>first|(cases e;done)|skip
    rename_i b
    obtain ⟨x1,h1,U⟩:=bind_some e
    cases b with
    | true=>
     obtain ⟨N,hN⟩:=iq h1
     exact ⟨N,fun k hk=>by simp only[cond_true,hN k hk,Option.bind_some];exact U⟩
    | false=>
     obtain ⟨N,hN⟩:=iu h1
     exact ⟨N,fun k hk=>by simp only[cond_false,hN k hk,Option.bind_some];exact U⟩
   simp only[exec] at e⊢
   split at e
   ·rename_i hS
    obtain ⟨N,hN⟩:=go e
    exact ⟨N,fun k hk=>hN k hk⟩
   ·rename_i S hS
    obtain ⟨ds,h1,U⟩:=bind_some e
    obtain ⟨e',h3,h4⟩:=bind_some U
    obtain ⟨r1,h5,h6⟩:=bind_some h3
    obtain ⟨N,hN⟩:=go h5
    refine ⟨N,fun k hk=> ?_⟩
    try rw[hS]
    simp only[h1,Option.bind_some]
    exact (congrArg (fun z:Option (Out × St)=>(z.bind fun r=>ways m 0 S.2 r).bind fun e=>lM 0 S.2 e.1 e.2 fun o st=>some (o,st)) (hN k hk)).trans (by simp only[Option.bind_some,h6];exact h4)
  | const v=>
   cases v with
   | bool b=>
    simp only[exec] at e⊢
    cases b with
    | true=>exact iq e
    | false=>exact iu e
   | _=>simp only[exec] at e;cases e
  | _=>simp only[exec] at e;cases e
 | block id c ih=>
  intro st r e
  simp only[exec] at e⊢
  obtain ⟨x1,h1,U⟩:=bind_some e
  obtain ⟨N,hN⟩:=ih h1
  exact ⟨N,fun k hk=>by rw[hN k hk];exact U⟩
 | loop c ih=>
  intro st r e
  simp only[exec] at e⊢
  split at e
  ·cases e
  ·rename_i S hS
   obtain ⟨ds,h1,U⟩:=bind_some e
   obtain ⟨e',h3,h4⟩:=bind_some U
   obtain ⟨q,hq⟩:=va h3
   obtain ⟨N,hN⟩:=O5 (stepD:=fun k ds=>mL m S.1 S.2 (exec P A (D k) f n m c (bq S.1 ds))) (fun x y DQ=>by
    unfold mL at DQ⊢
    obtain ⟨z,h5,h6⟩:=bind_some DQ
    obtain ⟨N,hN⟩:=ih h5
    exact ⟨N,fun k hk=>by rw[hN k hk];exact h6⟩) q ds e' hq
   refine ⟨N,fun k hk=> ?_⟩
   try rw[hS]
   simp only[h1,Option.bind_some]
   rw[yw (hN k hk)]
   exact h4
 | _=>intro st r e;simp only[exec] at e;cases e
theorem Ih (h:zN C D) {f:Nat} {ds es:List V} (e:p7 P A C f ds=some es): ∃N,∀k,N≤k→p7 P A (D k) f ds=some es:=by
 unfold p7 at e⊢
 cases hf:P.funcs[A.aZ f]? with
 | none=>rw[hf] at e;cases e
 | some fn=>
  rw[hf] at e
  simp only at e⊢
  cases hb:fn.body with
  | none=>rw[hb] at e;cases e
  | some c=>
   rw[hb] at e
   simp only at e⊢
   cases hc:(jQ 0 (A.sin f).bJ&&(Nat.ble (A.sin f).bJ.length fn.ntmps&&((A.sin f).ok&&(jQ 0 (A.gg f).bJ&&(Nat.beq (A.gg f).bJ.length fn.results.size&&p5 (nR (A.sin f).ba.length (A.mv f))))))) with
   | false=>rw[hc] at e;cases e
   | true=>
    rw[hc] at e
    simp only[cond_true] at e⊢
    obtain ⟨⟨o,s1⟩,h1,U⟩:=bind_some e
    obtain ⟨N1,om⟩:=YC h c h1
    cases o with
    | exit id=>cases U
    | norm=>
     simp only[yp] at U
     obtain ⟨x,e1,e2⟩:=U
     obtain ⟨N2,qB⟩:=ph h e1
     exact ⟨max N1 N2,fun k hk=>by rw[om k (by omega)];simp only[Option.bind_some,qB k (by omega),Option.map_some,e2]⟩
    | ret=>
     simp only[yp] at U
     obtain ⟨x,e1,e2⟩:=U
     obtain ⟨N2,qB⟩:=ph h e1
     exact ⟨max N1 N2,fun k hk=>by rw[om k (by omega)];simp only[Option.bind_some,qB k (by omega),Option.map_some,e2]⟩
theorem O6: ∀n f a r,k0 P A n f a=some r→k0 P A (n+1) f a=some r
 | 0,f,a,r,h=>by cases h
 | n+1,f,a,r,h=>by
  obtain ⟨N,hN⟩:=Ih (C:=k0 P A n) (D:=fun _=>k0 P A (n+1)) (fun f a r h=>⟨0,fun _ _=>O6 n f a r h⟩) h
  exact hN N (bW _)
theorem Ii {n k:Nat} (hk:n≤k) {f:Nat} {a r:List V} (h:k0 P A n f a=some r):k0 P A k f a=some r:=by
 induction hk with
 | refl=>exact h
 | step _ ih=>exact O6 _ _ _ _ ih
theorem DR {f:Nat} {a r:List V}:Call P A f a=some r↔∃n,k0 P A n f a=some r:=by
 constructor
 ·intro h
  unfold Call at h
  split at h
  ·rename_i hex
   have:=hex.choose_spec.choose_spec
   rw[cX h] at this
   exact ⟨_,this⟩
  ·cases h
 ·rintro ⟨n,hn⟩
  have hex: ∃n r,k0 P A n f a=some r:=⟨n,r,hn⟩
  unfold Call
  rw[ra hex]
  have U:=hex.choose_spec.choose_spec
  have h3:=Ii (Nat.le_max_left n hex.choose) hn
  have h4:=Ii (Nat.le_max_right n hex.choose) U
  rw[h3] at h4
  exact h4.symm
theorem YD (f:Nat) (a:List V):Call P A f a=p7 P A (Call P A) f a:=by
 apply Option.ext
 intro r
 constructor
 ·intro h
  obtain ⟨n,hn⟩:=DR.1 h
  cases n with
  | zero=>cases hn
  | succ n=>
   obtain ⟨N,hN⟩:=Ih (C:=k0 P A n) (D:=fun _=>Call P A) (fun f a r h=>⟨0,fun _ _=>DR.2 ⟨n,h⟩⟩) hn
   exact hN N (bW _)
 ·intro h
  obtain ⟨N,hN⟩:=Ih (C:=Call P A) (D:=k0 P A) (fun f a r h=>by
   obtain ⟨n,hn⟩:=DR.1 h
   exact ⟨n,fun k hk=>Ii hk hn⟩) h
  exact DR.2 ⟨N+1,hN N (bW _)⟩
end
end Go.AM
namespace Go.AM
open Go.ChangeShapes Go.WideShapes Go.RowKit
section
variable (P:Program)
inductive WT:TypeId→V→Prop
 | int {t:TypeId} {k:IntKind} {n:Int}:P.underlying t=some (.int k)→(Lit.int k n).wf=true→WT t (.int k n)
 | bool {t:TypeId} {b:Bool}:P.underlying t=some .bool→WT t (.bool b)
 | str {t:TypeId} {l:List UInt8}:P.underlying t=some .string→l.length≤maxLen→WT t (.str l)
 | list {t e:TypeId} {es:List V}:P.underlying t=some (.slice e)→es.length≤maxLen→
   (∀(i:Nat) x,es[i]? =some x→bE P e=true→∃xs,x= .agg xs∧xs.length=(aR P e).length)→
   (∀(i j:Nat) x t',es[i]? =some x→(aR P e)[j]? =some t'→WT t' (bH P e x j))→WT t (.list e es)
def jI (t:TypeId) (x:V):Prop:=
 (bE P t=true→∃xs,x= .agg xs∧xs.length=(aR P t).length)∧∀(j:Nat) t',(aR P t)[j]? =some t'→WT P t' (bH P t x j)
def pL:List TypeId→List V→Prop
 | [],[]=>True
 | t::ts,x::xs=>jI P t x∧pL ts xs
 | _,_=>False
def hasB (L:List TypeId) (t:TypeId):Bool:=L.any fun u=>Nat.beq u t
def DS (L:List TypeId):Nat→List Field→Bool
 | _,[]=>true
 | n,f::fs=>hasB L f.type&&(Nat.beq f.offset n&&(Nat.beq (P.cellsOf f.type) (aR P f.type).length&&DS L (n+P.cellsOf f.type) fs))
def zO:List Nat→List Nat→Bool
 | [],[]=>true
 | a::l,b::m=>Nat.beq a b&&zO l m
 | _,_=>false
def Ij (L:List TypeId) (t:TypeId):Bool:=
 Nat.beq (P.cellsOf t) (aR P t).length&&
 match P.underlying t with
 | some (.int _)=>true
 | some .bool=>true
 | some .string=>true
 | some (.slice e)=>hasB L e&&cI P e
 | some (.struct fs)=>DS P L 0 fs.toList&&zO (flat P t) (fs.toList.flatMap fun f=>aR P f.type)
 | some (.array n e)=>hasB L e&&(Nat.beq (P.cellsOf e) (aR P e).length&&zO (flat P t) (List.replicate n (aR P e)).flatten)
 | _=>false
def zP (L:List TypeId):Bool:=L.all fun t=>Ij P L t
end
theorem DT {L:List TypeId} {t:TypeId} (h:hasB L t=true):t∈L:=by
 obtain ⟨u,hu,U⟩:=nK.1 h
 rw[aP] at U
 exact U▸hu
theorem Ik: ∀{l m:List Nat},zO l m=true→l=m
 | [],[],_=>rfl
 | a::l,b::m,h=>by
  simp only[zO,aK,aP] at h
  rw[h.1,Ik h.2]
 | [],_::_,h=>by cases h
 | _::_,[],h=>by cases h
section
variable {P:Program} {H:Type} {enc:TypeId × Value→H} {w:World} {base:Nat} {spare:Nat→Bool} {held:Bool} {L:List TypeId}
def mZ (w:World):Nat→Prop:=fun b=>b<w.heap.size
def m7 (P:Program) (w:World) (ts:List TypeId) (cs:List Value) (xs:List V):Prop:=
 cs.length=ts.length∧xs.length=ts.length∧∀(j:Nat) t',ts[j]? =some t'→∃v y,cs[j]? =some v∧xs[j]? =some y∧Pure P w (mZ w) t' v y∧WT P t' y
theorem m7.app {ts vj:List TypeId} {cs hO:List Value} {xs O7:List V} (h:m7 P w ts cs xs) (h':m7 P w vj hO O7):m7 P w (ts++vj) (cs++hO) (xs++O7):=by
 obtain ⟨a,b,c⟩:=h
 obtain ⟨a',b',c'⟩:=h'
 refine ⟨by simp[a,a'],by simp[b,b'],fun j t' hj=> ?_⟩
 by_cases aO:j<ts.length
 ·rw[ij aO] at hj
  obtain ⟨v,y,e1,e2,e3⟩:=c j t' hj
  exact ⟨v,y,by rw[ij (by omega)];exact e1,by rw[ij (by omega)];exact e2,e3⟩
 ·rw[ik (by omega)] at hj
  obtain ⟨v,y,e1,e2,e3⟩:=c' _ t' hj
  exact ⟨v,y,by rw[ik (by omega),a];exact e1,by rw[ik (by omega),b];exact e2,e3⟩
theorem YE {w:World} {a:Addr} {v:Value} (h:w.cell? a=some v):a.spot=none∧a.block<w.heap.size:=by
 unfold World.cell? at h
 split at h
 ·rename_i hh
  split at h
  ·cases h
  ·rename_i hs
   exact ⟨by simpa using hs,(gQ.1 hh).1⟩
 all_goals (first|cases h|skip)
theorem O8 {rd:TypeId→List Value→Option (DataW H × List MemPlace)} (cs:List Value)
  (ih: ∀t cs x,t∈L→rd t cs=some x→∃xs,m7 P w (aR P t) cs xs): ∀(fs:List Field) (n:Nat),DS P L n fs=true→
  (∀f∈fs,∃x,rd f.type ((cs.drop f.offset).take (P.cellsOf f.type))=some x)→∃m xs,n≤m∧m7 P w (fs.flatMap fun f=>aR P f.type) ((cs.drop n).take (m-n)) xs∧m-n=(fs.flatMap fun f=>aR P f.type).length
 | [],n,_,_=>⟨n,[],bW _,⟨by simp,rfl,by simp⟩,by simp⟩
 | f::fs,n,h,hx=>by
  simp only[DS,aK,aP] at h
  obtain ⟨h1,U,h3,h4⟩:=h
  obtain ⟨x,YF⟩:=hx f (by simp)
  obtain ⟨xs,gk⟩:=ih _ _ _ (DT h1) YF
  obtain ⟨m,ys,hm,qC,H4⟩:=O8 cs ih fs (n+P.cellsOf f.type) h4 fun g hg=>hx g (by simp[hg])
  refine ⟨m,xs++ys,by omega,?_,by simp only[kT,bR];omega⟩
  have:=gk.app qC
  rw[kT]
  rw[U] at this
  have e:(cs.drop n).take (m-n)=(cs.drop n).take (P.cellsOf f.type)++(cs.drop (n+P.cellsOf f.type)).take (m-(n+P.cellsOf f.type)):=by
   rw[show m-n=P.cellsOf f.type+(m-(n+P.cellsOf f.type)) by omega,List.take_add,pQ]
  rw[e]
  exact this
theorem O9 {rd:List Value→Option (DataW H × List MemPlace)} (cs:List Value) {e:TypeId} (hs:P.cellsOf e=(aR P e).length)
  (ih: ∀cs x,rd cs=some x→∃xs,m7 P w (aR P e) cs xs): ∀(n:Nat),
  (∀i,i<n→∃x,rd ((cs.drop (i*P.cellsOf e)).take (P.cellsOf e))=some x)→∃xs,m7 P w (List.replicate n (aR P e)).flatten (cs.take (n*P.cellsOf e)) xs
 | 0,_=>⟨[],by simp,rfl,by simp⟩
 | n+1,hx=>by
  obtain ⟨xs,gk⟩:=O9 cs hs ih n fun i hi=>hx i (by omega)
  obtain ⟨x,zI⟩:=hx n (by omega)
  obtain ⟨ys,qC⟩:=ih _ _ zI
  refine ⟨xs++ys,?_⟩
  rw[List.replicate_succ',List.flatten_append]
  have:=gk.app qC
  rw[db,Nat.one_mul,List.take_add]
  simpa using this
theorem DU (hL:zP P L=true): ∀(fuel:Nat) (t:TypeId) (cs:List Value) (x:DataW H × List MemPlace),t∈L→DataW.trod enc P w base spare held fuel t cs=some x→
  ∃xs,m7 P w (aR P t) cs xs
 | 0,_,_,_,_,h=>by cases h
 | fuel+1,t,cs,x,ht,h=>by
  have hg:=fb.1 hL t ht
  unfold Ij at hg
  rw[aK,aP] at hg
  obtain ⟨hc,hg⟩:=hg
  have one:bE P t=false→aR P t=[t]:=fun h=>by simp[aR,h]
  cases hu:P.underlying t with
  | none=>rw[hu] at hg;cases hg
  | some d=>
   rw[hu] at hg
   cases d with
   | int k=>
    obtain ⟨n,rfl,rfl,zQ⟩:=DataW.trod_int hu h
    rw[one (by simp[bE,hu])]
    exact ⟨[.int k n],rfl,rfl,fun j t' hj=>by
     cases j with
     | zero=>cases hj;exact ⟨_,_,rfl,rfl,.int hu,.int hu zQ⟩
     | succ j=>simp at hj⟩
   | bool=>
    obtain ⟨b,rfl,rfl⟩:=DataW.trod_bool hu h
    rw[one (by simp[bE,hu])]
    exact ⟨[.bool b],rfl,rfl,fun j t' hj=>by
     cases j with
     | zero=>cases hj;exact ⟨_,_,rfl,rfl,.bool hu,.bool hu⟩
     | succ j=>simp at hj⟩
   | string=>
    obtain ⟨s,rfl,rfl,hl⟩:=DataW.trod_string hu h
    rw[one (by simp[bE,hu])]
    exact ⟨[.str s.data.toList],rfl,rfl,fun j t' hj=>by
     cases j with
     | zero=>cases hj;exact ⟨_,_,rfl,rfl,.str hu rfl,.str hu (by simpa using hl)⟩
     | succ j=>simp at hj⟩
   | slice e=>
    simp only[aK] at hg
    obtain ⟨he,au⟩:=hg
    rw[one (by simp[bE,hu])]
    have single: ∀v y,cs=[v]→Pure P w (mZ w) t v y→WT P t y→∃xs,m7 P w [t] cs xs:=by
     rintro v y rfl a b
     exact ⟨[y],rfl,rfl,fun j t' hj=>by
      cases j with
      | zero=>cases hj;exact ⟨_,_,rfl,rfl,a,b⟩
      | succ j=>simp at hj⟩
    rcases DataW.trod_slice hu h with ⟨rfl,rfl⟩|⟨a,len,cap,elems,rest,n,hn,rfl,rfl,hb,hl,hm,hlen,cJ,_,_⟩
    ·exact single _ _ rfl (.nil hu) (.list hu (by simp) (by simp) (by simp))
    ·cases hn
     have k9:=(jT au).2
     have M1:P.cellsOf e=(aR P e).length:=(fh au).symm
     have key: ∀i,i<len→∃hO xs,w.cells? base (a.add (i*P.cellsOf e)) (P.cellsOf e)=some hO∧m7 P w (aR P e) hO xs:=by
      intro i hi
      have h1:=cJ i hi
      rw[bB (by omega)] at h1
      obtain ⟨hO,U,h3⟩:=Option.bind_eq_some_iff.1 h1
      obtain ⟨xs,gk⟩:=DU hL fuel e hO _ (DT he) h3
      exact ⟨hO,xs,U,gk⟩
     by_cases h0:len=0
     ·subst h0
      exact single _ _ rfl (.emp hu) (.list hu (by simp) (by simp) (by simp))
     ·have gG:a.spot=none∧a.block<w.heap.size:=by
       obtain ⟨hO,xs,U,_⟩:=key 0 (by omega)
       obtain ⟨_,h3,h4⟩:=World.cells?_some U
       have h5:=h4 0 k9
       rw[bB (by omega)] at h5
       have:=YE h5
       simpa[Addr.add] using this
      have hF: ∃(F:Nat→List Value) (X:Nat→List V),∀i,i<len→w.cells? base (a.add (i*P.cellsOf e)) (P.cellsOf e)=some (F i)∧m7 P w (aR P e) (F i) (X i):=by
       refine ⟨fun i=>if hi:i<len then (key i hi).choose else [],fun i=>if hi:i<len then (key i hi).choose_spec.choose else [],fun i hi=> ?_⟩
       simp only[ra hi]
       exact (key i hi).choose_spec.choose_spec
      obtain ⟨F,X,Il⟩:=hF
      have hx: ∀(i j:Nat) y t',((List.range len).map fun i=>cm P e (X i))[i]? =some y→(aR P e)[j]? =some t'→i<len∧∃v,(F i)[j]? =some v∧Pure P w (mZ w) t' v (bH P e y j)∧WT P t' (bH P e y j):=by
       intro i j y t' hy hj
       have hi:i<len:=by
        have:=(bt.1 hy).1
        simpa using this
       refine ⟨hi,?_⟩
       simp[List.getElem?_range hi] at hy
       obtain ⟨c1,c2,c3⟩:=(Il i hi).2
       obtain ⟨v,z,d1,d2,d3,d4⟩:=c3 j t' hj
       have:bH P e y j=z:=by
        rw[←hy]
        unfold bH cm
        cases ha:bE P e with
        | true=>
         simp only[cond_true,V.cell]
         rw[tp _ _ _ d2]
        | false=>
         simp only[cond_false]
         have:aR P e=[e]:=by simp[aR,ha]
         rw[this] at hj
         cases j with
         | zero=>rw[tp _ _ _ d2]
         | succ j=>simp at hj
       rw[this]
       exact ⟨v,d1,d3,d4⟩
      have fP: ∀i j,i<len→j<P.cellsOf e→w.cell? ⟨a.block,a.off+(i*P.cellsOf e+j),none⟩=some ((F i).getD j undef):=by
       intro i j hi hj
       obtain ⟨h1,U⟩:=Il i hi
       obtain ⟨_,h3,h4⟩:=World.cells?_some h1
       have h5:=h4 j hj
       rw[Go.Deep.add_add] at h5
       have e1:a.add (i*P.cellsOf e+j)=⟨a.block,a.off+(i*P.cellsOf e+j),none⟩:=by
        obtain ⟨b,o,s⟩:=a
        simp only at gG
        rw[gG.1]
        exact mQ ..
       rw[e1] at h5
       rw[h5,gR,bB (by omega)]
       rfl
      have ha:a=⟨a.block,a.off,none⟩:=by
       obtain ⟨b,o,s⟩:=a
       simp only at gG
       rw[gG.1]
      refine single (.slice (some a) len cap) (.list e ((List.range len).map fun i=>cm P e (X i))) rfl ?_ ?_
      ·rw[ha]
       refine .list (fun i j=>(F i).getD j undef) hu (by simp) hl (fun _=>gG.2) fP ?_
       intro i j y t' hy hj
       obtain ⟨hi,v,d1,d2,_⟩:=hx i j y t' hy hj
       rw[gR,d1]
       exact d2
      ·refine .list hu (by simp;omega) ?_ ?_
       ·intro i y hy DV
        have hi:i<len:=by
         have:=(bt.1 hy).1
         simpa using this
        simp[List.getElem?_range hi] at hy
        rw[←hy]
        exact ⟨X i,by simp[cm,DV],(Il i hi).2.2.1⟩
       ·intro i j y t' hy hj
        obtain ⟨_,v,_,_,d3⟩:=hx i j y t' hy hj
        exact d3
   | struct fs=>
    simp only[aK] at hg
    obtain ⟨xs,n,hn,rfl,hlen,lW,hx⟩:=DataW.trod_struct hu h
    cases hn
    have het:aR P t=fs.toList.flatMap fun f=>aR P f.type:=by
     rw[←Ik hg.2]
     simp[aR,bE,hu]
    obtain ⟨m,ys,_,qC,hm⟩:=O8 (w:=w) (rd:=fun t cs=>DataW.trod enc P w base spare held fuel t cs) cs (fun t cs x a b=>DU hL fuel t cs x a b) fs.toList 0 hg.1 (by
     intro f hf
     obtain ⟨i,hi⟩:=ri hf
     rw[rj] at hi
     have qs:i<fs.size:=(gQ.1 hi).1
     exact ⟨_,(hx i f hi).trans (bB (by omega))⟩)
    rw[het]
    refine ⟨ys,?_⟩
    have:(cs.drop 0).take (m-0)=cs:=by
     rw[iQ,hm,←het,←hc,←hlen,pN]
    rw[this] at qC
    exact qC
   | array n e=>
    simp only[aK,aP] at hg
    obtain ⟨xs,m,hn,rfl,hlen,lW,hx⟩:=DataW.trod_array hu h
    cases hn
    have het:aR P t=(List.replicate n (aR P e)).flatten:=by
     rw[←Ik hg.2.2]
     simp[aR,bE,hu]
    obtain ⟨ys,qC⟩:=O9 (w:=w) (rd:=DataW.trod enc P w base spare held fuel e) cs hg.2.1 (fun cs x b=>DU hL fuel e cs x (DT hg.1) b) n (by
     intro i hi
     exact ⟨_,(hx i hi).trans (bB (by omega))⟩)
    rw[het]
    refine ⟨ys,?_⟩
    have:cs.take (n*P.cellsOf e)=cs:=by
     have:n*P.cellsOf e=cs.length:=by
      rw[hlen,hc,het,hg.2.1]
      simp
     rw[this,pN]
    rw[this] at qC
    exact qC
   | _=>cases hg
end
section
variable {P:Program} {H:Type} {enc:TypeId × Value→H} {w:World} {L:List TypeId}
theorem YG {base Im:Nat} {spare:Nat→Bool} {held:Bool} {r:Reach} {β:Nat→Option Nat} {hp:Nat→Option an} (hL:zP P L=true) {t:TypeId} {v:Value} {d:DataW H} {ps:List MemPlace} (ht:t∈L) (eJ:Value.okWide P w r Im t v)
  (h:DataW.Trod enc P w base spare held t v d ps): ∃x,ao P w (mZ w) β hp v x∧jI P t x:=by
 obtain ⟨fuel,hf⟩:=h
 obtain ⟨xs,c1,c2,c3⟩:=DU hL fuel t _ _ ht hf
 have hg:=fb.1 hL t ht
 unfold Ij at hg
 rw[aK,aP] at hg
 obtain ⟨_,hg⟩:=hg
 have DV:bE P t=true→∃x,ao P w (mZ w) β hp v x∧jI P t x:=by
  intro ha
  have hv: ∃cs,v= .agg cs:=by
   unfold Value.okWide at eJ
   unfold bE at ha
   split at eJ
   ·obtain ⟨cs,e,_⟩:=eJ;exact ⟨cs,e⟩
   ·obtain ⟨cs,e,_⟩:=eJ;exact ⟨cs,e⟩
   ·split at ha<;>simp_all
  obtain ⟨cs,rfl⟩:=hv
  refine ⟨.agg xs,.agg (by simpa[Value.cells] using c1.trans c2.symm) fun j v x hv hx=> ?_,fun _=>⟨xs,rfl,c2⟩,fun j t' hj=> ?_⟩
  ·have hj:j<(aR P t).length:=by rw[←c2];exact (bt.1 hx).1
   obtain ⟨v',y,e1,e2,e3,_⟩:=c3 j _ (bB hj)
   rw[hx] at e2
   cases e2
   have:cs[j]? =some v':=by simpa[Value.cells] using e1
   rw[hv] at this
   cases this
   exact .p9 e3
  ·obtain ⟨v',y,e1,e2,_,e4⟩:=c3 j t' hj
   have:bH P t (.agg xs) j=y:=by
    simp only[bH,ha,cond_true,V.cell]
    exact tp _ _ _ e2
   rw[this]
   exact e4
 have qo:bE P t=false→v.cells= #[v]→∃x,ao P w (mZ w) β hp v x∧jI P t x:=by
  intro ha tx
  have he:aR P t=[t]:=by simp[aR,ha]
  rw[he] at c1 c2 c3
  obtain ⟨v',y,e1,e2,e3,e4⟩:=c3 0 t rfl
  rw[tx] at e1
  cases e1
  refine ⟨y,.p9 e3,⟨fun h=>absurd (ha.symm.trans h) (by simp),fun j t' hj=> ?_⟩⟩
  rw[he] at hj
  cases j with
  | succ j=>simp at hj
  | zero=>
   cases hj
   simpa[bH,ha] using e4
 unfold Value.okWide at eJ
 cases hu:P.underlying t with
 | none=>rw[hu] at hg;cases hg
 | some YH=>
  rw[hu] at hg eJ
  cases YH with
  | int k=>
   refine qo (by simp[bE,hu]) ?_
   simp only[Cell.okWide,Cell.ok,hu] at eJ
   cases v<;>first|rfl|(simp at eJ;done)|exact eJ.elim
  | bool=>
   refine qo (by simp[bE,hu]) ?_
   simp only[Cell.okWide,Cell.ok,hu] at eJ
   cases v<;>first|rfl|(simp at eJ;done)|exact eJ.elim
  | string=>
   refine qo (by simp[bE,hu]) ?_
   simp only[Cell.okWide,Cell.ok,hu] at eJ
   cases v<;>first|rfl|(simp at eJ;done)|exact eJ.elim
  | slice e=>
   refine qo (by simp[bE,hu]) ?_
   simp only[Cell.okWide,Cell.ok,hu] at eJ
   cases v<;>first|rfl|(simp at eJ;done)|exact eJ.elim
  | struct fs=>exact DV (by simp[bE,hu])
  | array n e=>exact DV (by simp[bE,hu])
  | _=>cases hg
theorem Pb {base Im:Nat} {spare:Nat→Bool} {held:Bool} {r:Reach} {β:Nat→Option Nat} {hp:Nat→Option an} (hL:zP P L=true): ∀{ts:List TypeId} {vs:List Value} {ds:List (DataW H)} {ps:List MemPlace},
  (∀t∈ts,t∈L)→(∀(j:Nat) t v,ts[j]? =some t→vs[j]? =some v→Value.okWide P w r Im t v)→DataW.TrodAll enc P w base spare held ts vs ds ps→
  ∃xs,vs.length=xs.length∧(∀(j:Nat) v x,vs[j]? =some v→xs[j]? =some x→ao P w (mZ w) β hp v x)∧pL P ts xs
 | [],vs,ds,ps,_,_,h=>by
  obtain ⟨rfl,rfl,rfl⟩:=trodAll_nil h
  exact ⟨[],rfl,by simp,trivial⟩
 | t::ts,vs,ds,ps,hm,eJ,h=>by
  obtain ⟨v,CB,d,Pc,a,b,rfl,rfl,rfl,h1,U⟩:=trodAll_cons h
  obtain ⟨x,zI,o7⟩:=YG (β:=β) (hp:=hp) hL (hm t (by simp)) (eJ 0 t v rfl rfl) h1
  obtain ⟨xs,hl,hr,hw⟩:=Pb (β:=β) (hp:=hp) hL (fun t ht=>hm t (by simp[ht])) (fun j t v a b=>eJ (j+1) t v (by simpa using a) (by simpa using b)) U
  refine ⟨x::xs,by simp[hl],fun j v' x' hv hx=> ?_,o7,hw⟩
  cases j with
  | zero=>cases hv;cases hx;exact zI
  | succ j=>exact hr j v' x' (by simpa using hv) (by simpa using hx)
theorem Pd {base:Nat} {spare:Nat→Bool} {held:Bool}: ∀{ts:List TypeId} {vs:List Value} {ds:List (DataW H)} {ps:List MemPlace},DataW.TrodAll enc P w base spare held ts vs ds ps→ds.length=ts.length
 | [],vs,ds,ps,h=>by obtain ⟨rfl,rfl,rfl⟩:=trodAll_nil h;rfl
 | t::ts,vs,ds,ps,h=>by
  obtain ⟨v,CB,d,Pc,a,b,rfl,rfl,rfl,h1,U⟩:=trodAll_cons h
  simp[Pd U]
theorem Pe {base:Nat} (hl:laidOutB P=true) {W W':World} {Pf:Nat→Bool}: ∀{ts:List TypeId} {vs:List Value} {ds:List (DataW H)} {ps:List MemPlace},(∀t∈ts,P.readableRec t=true∧t<P.types.size)→
  DataW.TrodAll enc P W base (fun _=>true) true ts vs ds ps→(∀p∈ps,W.sameAt W' p)→(∀p∈ps,Pf p.block=true)→DataW.TrodAll enc P W' base Pf true ts vs ds ps
 | [],vs,ds,ps,_,h,_,_=>by obtain ⟨rfl,rfl,rfl⟩:=trodAll_nil h;exact trodAll_mk0
 | t::ts,vs,ds,ps,hr,h,h1,U=>by
  obtain ⟨v,CB,d,Pc,a,b,rfl,rfl,rfl,h3,h4⟩:=trodAll_cons h
  obtain ⟨r1,r2⟩:=hr t (by simp)
  exact trodAll_cons_mk (WideElems.Trod_stays hl r1 r2 h3 (fun p hp=>h1 p (by simp[hp])) (fun p hp=>U p (by simp[hp])))
   (Pe hl (fun t ht=>hr t (by simp[ht])) h4 (fun p hp=>h1 p (by simp[hp])) (fun p hp=>U p (by simp[hp])))
theorem YI {f:Func} {s:ChangeSpec} {apart fresh handsOn again:Bool} {W W':World} {args:Array Value} {v:Value} {ds gs:List (DataW H)} {before pa pv:List MemPlace}
  (hW:DataW.Whole enc P f.params.toList s.vars apart W args.toList ds gs before)
  (Pg: ∀(b:Nat) (sp:Nat→Bool) (hd:Bool),DataW.TrodAll enc P W' b sp hd f.resultTypes.toList (v.resultList f.resultTypes.size) (s.fn H (ds++gs)).results [])
  (tN: ∀sp:Nat→Bool,(∀p∈before,sp p.block=true)→DataW.TrodAll enc P W' 0 sp true f.params.toList args.toList (s.fn H (ds++gs)).args pa)
  (Ph: ∀sp:Nat→Bool,(∀p∈before,sp p.block=true)→DataW.TrodVars enc P W' sp s.vars (s.fn H (ds++gs)).vars pv)
  (DW:before=pa++pv) (hk:W.keptBut W' (· ∈before)) (Io: ∀a:Addr,a.block<W.heap.size→W'.frozen? a=W.frozen? a)
  (au: ∀(j:Nat) (t:TypeId) (r:Value),f.resultTypes[j]? =some t→(v.resultList f.resultTypes.size)[j]? =some r→Value.okWide P W' .any 0 t r):
  s.post enc P f apart fresh handsOn again W args v W':=by
 have hold: ∀p∈before,(fun b=>decide (b<W.heap.size)) p.block=true:=fun p hp=>by simpa using hW.lt p hp
 refine ⟨ds,gs,before,[],pa,pv,hW,Pg _ _ _,tN _ hold,Ph _ hold,World.keptBut_mono (fun p hp=>⟨hp,?_⟩) hk,fun _=> ?_⟩
 ·rw[DW,ej] at hp
  exact Or.inr hp
 ·have aO:=hW.lt
  obtain ⟨_,_,_,_,_,hz,hn⟩:=hW
  refine ⟨au,_,_,([]++pa)++pv,⟨[]++pa,pv,trodAll_append (tN _ (fun _ _=>rfl)) (Pg _ _ _),Ph _ (fun _ _=>rfl),rfl,?_,?_⟩,?_⟩
  ·intro b off hp
   have hb:MemPlace.cell b off∈before:=by rw[DW];simpa using hp
   rw[Io ⟨b,off,none⟩ (aO _ hb)]
   exact hz b off hb
  ·intro ha
   have:=hn ha
   rw[DW] at this
   simpa using this
  ·intro p hp _
   rw[DW]
   simpa using hp
theorem YJ {A:cx} (hP:iG P A) (mY:P.follows .mixedOrders=true) {f key:Nat} {fn:Func} {tb:TypeId} {s:ChangeSpec} {apart fresh handsOn again:Bool}
  (hf:P.funcs[f]? =some fn) (Ip:A.aZ key=f) (hL:zP P L=true) (bZ:fn.params.toList.all (fun t=>hasB L t)=true) (DX:fn.resultTypes= #[tb]) (DY:P.underlying tb=some .bool) (DZ:s.vars=[])
  (hs: ∀ds:List (DataW H),ds.length=fn.params.toList.length→s.fn H ds={results:=[.lit (.bool true)],args:=ds})
  (Iq:laidOutB P=true) (Ir:fn.params.toList.all (fun t=>P.readableRec t&&Nat.blt t P.types.size)=true)
  (lg:(A.sin key).ba=[]) (au:((A.sin key).bJ.map (·.2)).all (VS.ok 0)=true) (Is:(A.gg key).bJ=[(0,.one .bool)]) (halt:A.alt key=none)
  {W:World} {base:Nat} {args:Array Value} {ds gs:List (DataW H)} {before:List MemPlace}
  (It:ga P A.aE W (mZ W)) (eJ: ∀(j:Nat) t v,fn.params[j]? =some t→args[j]? =some v→Value.okWide P W .any base t v)
  (hW:DataW.Whole enc P fn.params.toList s.vars apart W args.toList ds gs before) (Q:List V→Prop)
  (hQ: ∀xs:List V,pL P fn.params.toList xs→(∀(j:Nat) v x,args.toList[j]? =some v→xs[j]? =some x→ao P W (mZ W) (fun _=>none) (fun _=>none) v x)→Q xs)
  (Iu: ∀xs,pL P fn.params.toList xs→Q xs→∃ds,pM ((A.sin key).bJ.map (·.2)) xs=some ds∧Call P A key ds=some [.bool true]):
  Calls P f args W fun e W'=> ∃v,e= .returned v∧s.post enc P fn apart fresh handsOn again W args v W':=by
 have Pj:=hW
 obtain ⟨p,q,hA,hV,rfl,Io,jZ⟩:=hW
 rw[DZ] at hV
 obtain ⟨YK,hq⟩:gs=[]∧q=[]:=by
  cases gs with
  | nil=>exact ⟨rfl,hV⟩
  | cons g gs=>exact hV.elim
 subst YK
 subst hq
 obtain ⟨xs,hl,hr,Pk⟩:=Pb (β:=fun _=>none) (hp:=fun _=>none) hL (fun t ht=>DT (fb.1 bZ t ht)) (fun j t v a b=>eJ j t v (by simpa using a) (by simpa using b)) hA
 obtain ⟨ls,YL,zF⟩:=Iu xs Pk (hQ xs Pk hr)
 obtain ⟨fn',c,h1,U,h3⟩:=YA (A:=A) hP mY key ls [.bool true] zF
 rw[Ip] at h1 h3
 rw[hf] at h1
 cases h1
 have wc: ∀j,(bq (A.sin key) ls).hp j=none:=fun j=>by simp[bq,mk,lg,en,ji]
 obtain ⟨_,r1,r2⟩:=zt (P:=P) (w:=W) (I:=mZ W) (n:=0) (β:=fun _=>none) (β':=fun _=>none) (hp:=fun _=>none) (hp':=(bq (A.sin key) ls).hp) (fun j hj=>absurd hj (Nat.not_lt_zero j)) YL au
 have hlen:((A.sin key).bJ.map (·.2)).length=xs.length:=by rw[←r1 [],Ig]
 have h4:=h3 W (mZ W) (fun _=>none) args.toList ⟨fun id blk h=>(by rw[wc] at h;cases h),fun id aD blk blk' b h=>(by rw[wc] at h;cases h),fun id blk b h=>(by rw[wc] at h;cases h),fun b h=>h⟩ It
  (by rw[hl,←hlen,aQ]) (fun j v y hv hy=>r2 [] j v y (fun x hx=>hr j v x hv hx) (by rw[c6];exact hy))
 have ea:args.toList.toArray=args:=by simp
 rw[ea] at h4
 refine h4.mono fun e W' ⟨v,I2,bV,he,ha⟩=>⟨v,he,?_⟩
 have tu: ∀b,b<W.heap.size→W'.heap[b]? =W.heap[b]? :=fun b hb=>ha.vV.b6 b hb (by rintro ⟨j,blk,hj,_⟩;rw[wc] at hj;cases hj)
 have Hs:=ha.res
 have Pl:A.so key [.bool true]=A.gg key∧A.lv key [.bool true]=[.bool true]:=by unfold cx.so cx.lv;rw[halt];exact ⟨rfl,rfl⟩
 rw[Pl.1,Pl.2,Is] at Hs
 obtain rfl:v= .bool true:=Hs.jU
 have lk:Value.okWide P W' .any 0 tb (.bool true):=by simp[Value.okWide,DY,Cell.okWide,Cell.ok]
 have kQ:ds.length=fn.params.toList.length:=Pd hA
 have iF: ∀p'∈p++[],W.sameAt W' p':=by
  intro p' hp'
  have aO:=Pj.lt p' hp'
  cases p' with
  | cell b o=>exact World.cell?_of_block (w:=W) (tu b aO)
  | map b=>exact tu b aO
 refine YI (pa:=p) (pv:=[]) Pj ?_ ?_ ?_ rfl ?_ ?_ ?_
 ·intro b sp hd
  rw[c6,hs ds kQ,DX]
  exact trodAll_mk1 ⟨1,by simp[DataW.trod,Value.cells,DY]⟩
 ·intro sp gG
  rw[c6,hs ds kQ]
  refine Pe Iq (fun t ht=> ?_) hA (fun p' hp'=>iF p' (by simpa using hp')) (fun p' hp'=>gG p' (by simpa using hp'))
  have:=fb.1 Ir t ht
  simp only[aK] at this
  exact ⟨this.1,by simpa[jJ] using this.2⟩
 ·intro sp gG
  rw[DZ,c6,hs ds kQ]
  exact rfl
 ·refine ⟨ha.vV.io.1,ha.vV.io.2,fun i hi=> ?_⟩
  rw[tu i hi]
  split<;>simp_all
 ·intro a aO
  exact World.frozen?_of_block (w:=W) (tu a.block aO)
 ·intro j t r hj Iv
  rw[DX] at hj Iv
  cases j with
  | zero=>
   simp[Value.resultList] at hj Iv
   subst hj
   subst Iv
   exact lk
  | succ j=>simp at hj
theorem Ve {A:cx} (hP:iG P A) (mY:P.follows .mixedOrders=true) {f key:Nat} {fn:Func} {tb:TypeId} {s:ChangeSpec} {apart fresh handsOn again:Bool}
  (hf:P.funcs[f]? =some fn) (Ip:A.aZ key=f) (hL:zP P L=true) (bZ:fn.params.toList.all (fun t=>hasB L t)=true) (DX:fn.resultTypes= #[tb]) (DY:P.underlying tb=some .bool) (DZ:s.vars=[])
  (hs: ∀ds:List (DataW H),ds.length=fn.params.toList.length→s.fn H ds={results:=[.lit (.bool true)],args:=ds})
  (Iq:laidOutB P=true) (Ir:fn.params.toList.all (fun t=>P.readableRec t&&Nat.blt t P.types.size)=true)
  (lg:(A.sin key).ba=[]) (au:((A.sin key).bJ.map (·.2)).all (VS.ok 0)=true) (Is:(A.gg key).bJ=[(0,.one .bool)]) (halt:A.alt key=none)
  (Iu: ∀xs,pL P fn.params.toList xs→∃ds,pM ((A.sin key).bJ.map (·.2)) xs=some ds∧Call P A key ds=some [.bool true])
  {W:World} {base:Nat} {args:Array Value} {ds gs:List (DataW H)} {before:List MemPlace}
  (It:ga P A.aE W (mZ W)) (eJ: ∀(j:Nat) t v,fn.params[j]? =some t→args[j]? =some v→Value.okWide P W .any base t v)
  (hW:DataW.Whole enc P fn.params.toList s.vars apart W args.toList ds gs before):
  Calls P f args W fun e W'=> ∃v,e= .returned v∧s.post enc P fn apart fresh handsOn again W args v W':=
 YJ hP mY hf Ip hL bZ DX DY DZ hs Iq Ir lg au Is halt It eJ hW (fun _=>True) (fun _ _ _=>trivial) fun xs h _=>Iu xs h
end
end Go.AM
namespace Go.AM
@[simp] theorem V.toInt_int (k:IntKind) (n:Int):V.toInt (.int k n)=n:=by cases k<;>rfl
@[simp] theorem V.er (b:Bool):V.toBool (.bool b)=b:=by cases b<;>rfl
@[simp] theorem V.D0 (s:List UInt8):V.toStr (.str s)=s:=by cases s<;>rfl
@[simp] theorem V.j4 (e:TypeId) (es:List V):V.toList (.list e es)=es:=by cases es<;>rfl
@[simp] theorem V.ahn (e:TypeId) (es:List V):V.toList (.own e es)=es:=by cases es<;>rfl
@[simp] theorem V.YM (cs:List V) (j:Nat):V.cell (.agg cs) j=V.nth cs j:=by cases cs<;>rfl
@[simp] theorem V.aho (cs:List V) (j:Nat):V.comp (.bd cs) j=V.nth cs j:=by cases cs<;>rfl
@[simp] theorem V.aT (x:V) (l:List V):V.nth (x::l) 0=x:=by cases l<;>rfl
@[simp] theorem V.qD (x:V) (l:List V) (n:Nat):V.nth (x::l) (n+1)=V.nth l n:=by cases l<;>rfl
@[simp] theorem V.ahp (x y:V) (l:List V):V.nth (x::y::l) 1=y:=by cases l<;>rfl
@[simp] theorem V.ahq (x y z:V) (l:List V):V.nth (x::y::z::l) 2=z:=by cases l<;>rfl
@[simp] theorem V.ahr (x y z u:V) (l:List V):V.nth (x::y::z::u::l) 3=u:=by cases l<;>rfl
theorem wrap64 {x:Int} (h1: -9223372036854775808≤x) (U:x<9223372036854775808):IntKind.wrap .i64 x=x:=by
 rw[IntKind.wrap_i64];omega
theorem D1 {x:Int} (h1:0≤x) (U:x<256):IntKind.wrap .u8 x=x:=by
 rw[IntKind.wrap_u8];omega
theorem YN {es:List V} {i:Int} {n:Nat} (h:i=n):idx es i=es[n]? :=by
 subst h;simp[idx]
@[simp] theorem Iw (es:List V) (n:Nat):idx es (n:Int)=es[n]? :=by simp[idx]
@[simp] theorem ay {α:Type} (p:Prop) [Decidable p] (a b:α):(bif decide p then a else b)=if p then a else b:=by by_cases h:p<;>simp[h]
@[simp] theorem c9 {α:Type} (m n:Int) (a b:α):(bif m==n then a else b)=if m=n then a else b:=by
 by_cases h:m=n
 ·simp[h]
 ·have:(m==n)=false:=by simp[h]
  rw[this,ai h];rfl
@[simp] theorem rV {α:Type} (m n:Int) (a b:α):(bif m != n then a else b)=if m=n then b else a:=by
 by_cases h:m=n
 ·simp[h]
 ·have:(m != n)=true:=by simp[h]
  rw[this,ai h];rfl
@[simp] theorem gJ {α:Type} (c:Bool) (a b:α):(bif !c then a else b)=bif c then b else a:=by cases c<;>rfl
@[simp] theorem zR {α:Type} (m n:Nat) (a b:α):(bif Nat.ble m n then a else b)=if m≤n then a else b:=by
 cases hb:Nat.ble m n with
 | true=>rw[aj (Nat.le_of_ble_eq_true hb)];rfl
 | false=>
  rw[ai fun h=> ?_]
  ·rfl
  ·rw[Nat.ble_eq_true_of_le h] at hb;cases hb
@[simp] theorem cO {α:Type} (c d:Bool) (a b:α):(bif c&&d then a else b)=bif c then (bif d then a else b) else b:=by cases c<;>rfl
section
variable {P:Program}
def Pm (P : Program) : Bool := P.funcs.all fun fn => !(fn.name == "runtime.NumGoroutine")
theorem U8 (h:Pm P=true):yf P:=by
 intro f fn hf
 unfold Pm at h
 have:=(Array.all_eq_true_iff_forall_mem.1 h) fn (Array.mem_of_getElem? hf)
 simpa using this
theorem L1 {t:TypeId} {ts:List TypeId} {xs:List V} (h:pL P (t::ts) xs): ∃x ys,xs=x::ys∧jI P t x∧pL P ts ys:=by
 cases xs with
 | nil=>exact h.elim
 | cons x ys=>exact ⟨x,ys,rfl,h.1,h.2⟩
theorem Va {xs:List V} (h:pL P [] xs):xs=[]:=by
 cases xs with
 | nil=>rfl
 | cons x ys=>exact h.elim
theorem jI.one {t:TypeId} {x:V} (ha:bE P t=false) (h:jI P t x):WT P t x:=by
 have he:aR P t=[t]:=by simp[aR,ha]
 have:=h.2 0 t (by rw[he];rfl)
 simpa[bH,ha] using this
theorem WT.dE {t:TypeId} {k:IntKind} {x:V} (hu:P.underlying t=some (.int k)) (h:WT P t x): ∃n,x= .int k n∧k.min≤n∧n≤k.max:=by
 cases h with
 | int h1 U=>
  rw[hu] at h1
  cases h1
  simp only[Lit.wf,aK,dR] at U
  exact ⟨_,rfl,U⟩
 | bool h1=>rw[hu] at h1;cases h1
 | str h1=>rw[hu] at h1;cases h1
 | list h1=>rw[hu] at h1;cases h1
theorem WT.jU {t:TypeId} {x:V} (hu:P.underlying t=some .bool) (h:WT P t x): ∃b,x= .bool b:=by
 cases h with
 | int h1=>rw[hu] at h1;cases h1
 | bool h1=>exact ⟨_,rfl⟩
 | str h1=>rw[hu] at h1;cases h1
 | list h1=>rw[hu] at h1;cases h1
theorem WT.lP {t:TypeId} {x:V} (hu:P.underlying t=some .string) (h:WT P t x): ∃s,x= .str s∧s.length≤maxLen:=by
 cases h with
 | int h1=>rw[hu] at h1;cases h1
 | bool h1=>rw[hu] at h1;cases h1
 | str h1 U=>exact ⟨_,rfl,U⟩
 | list h1=>rw[hu] at h1;cases h1
theorem WT.YO {t e:TypeId} {x:V} (hu:P.underlying t=some (.slice e)) (h:WT P t x): ∃es,x= .list e es∧es.length≤maxLen∧∀y∈es,jI P e y:=by
 cases h with
 | int h1=>rw[hu] at h1;cases h1
 | bool h1=>rw[hu] at h1;cases h1
 | str h1=>rw[hu] at h1;cases h1
 | list h1 U h3 h4=>
  rw[hu] at h1
  cases h1
  refine ⟨_,rfl,U,fun y hy=> ?_⟩
  obtain ⟨i,hi⟩:=ri hy
  exact ⟨h3 i y hi,fun j t' hj=>h4 i j y t' hi hj⟩
theorem jI.kB {t:TypeId} {x:V} (ha:bE P t=true) (h:jI P t x): ∃xs,x= .agg xs∧xs.length=(aR P t).length∧∀(j:Nat) t' y,(aR P t)[j]? =some t'→xs[j]? =some y→WT P t' y:=by
 obtain ⟨xs,rfl,hl⟩:=h.1 ha
 refine ⟨xs,rfl,hl,fun j t' y hj hy=> ?_⟩
 have:=h.2 j t' hj
 simp only[bH,ha,cond_true,V.YM] at this
 rw[tp _ _ _ hy] at this
 exact this
theorem Pn {α:Type} {f:α→V} {p:α→Prop}: ∀{es:List V},(∀y∈es,∃a,y=f a∧p a)→∃l:List α,es=l.map f∧∀a∈l,p a
 | [],_=>⟨[],rfl,by simp⟩
 | y::es,h=>by
  obtain ⟨a,rfl,ha⟩:=h y (by simp)
  obtain ⟨l,rfl,hl⟩:=Pn (f:=f) (p:=p) (es:=es) fun z hz=>h z (by simp[hz])
  exact ⟨a::l,rfl,by
   intro b hb
   rcases dc.1 hb with rfl|hb
   ·exact ha
   ·exact hl b hb⟩
theorem jI.int {t:TypeId} {x:V} (hu:P.underlying t=some (.int .i64)) (h:jI P t x): ∃n,x= .int .i64 n∧IntKind.min .i64≤n∧n≤IntKind.max .i64:=
 (h.one (by simp[bE,hu])).dE hu
theorem jI.str {t:TypeId} {x:V} (hu:P.underlying t=some .string) (h:jI P t x): ∃s,x= .str s∧s.length≤maxLen:=
 (h.one (by simp[bE,hu])).lP hu
end
def un.{u} {A B:Type} {γ:Sort u} (f:A→B→γ) (p:A × B):γ:=f p.1 p.2
def b9 {A B γ:Type} (f:A→γ) (g:B→γ):A ⊕ B→γ
 | .inl a=>f a
 | .inr b=>g b
def av:List Nat→Code→Code
 | [],c=>c
 | 0::p,.seq a _=>av p a
 | _::p,.seq _ b=>av p b
 | 0::p,.cond _ a _=>av p a
 | _::p,.cond _ _ b=>av p b
 | _::p,.block _ c=>av p c
 | _::p,.loop c=>av p c
 | _,c=>c
inductive cA where
 | loop (c:Code)
 | cond (t:Nat) (x y:Code)
section
variable (P:Program) (A:cx) (C:ag) (L:cD) (f n m:Nat)
def pj:Code→List cA
 | .seq a b=>pj a++pj b
 | .cond (.tmp t) x y=>
  match A.gS f (t*16+15) with
  | none=>pj x++pj y
  | some _=>[.cond t x y]
 | .cond (.const _) x y=>pj x++pj y
 | .block _ c=>pj c
 | .loop c=>[.loop c]
 | _=>[]
def cB:cA→Prop
 | .loop c=>
  match A.gS f (keyOf c+1) with
  | none=>True
  | some S=> ∀(β:Type) ds (k:Nat→List V→Option β),L β (keyOf c+1) ds k=(Loop (stepG P A C f n m S c) ds).bind fun r=>k r.1 r.2
 | .cond t x y=>
  match A.gS f (t*16+15) with
  | none=>True
  | some S=> ∀(β:Type) ds (k:Nat→List V→Option β),L β (t*16+15) ds k=(yR P A C f n m t S x y ds).bind fun r=>k r.1 r.2
def m8:List cA→Prop
 | []=>True
 | b::l=>cB P A C L f n m b∧m8 l
variable {P A C L f n m}
theorem m8.left {a b:List cA}:m8 P A C L f n m (a++b)→m8 P A C L f n m a:=by
 induction a with
 | nil=>exact fun _=>trivial
 | cons x a ih=>exact fun h=>⟨h.1,ih h.2⟩
theorem m8.right {a b:List cA}:m8 P A C L f n m (a++b)→m8 P A C L f n m b:=by
 induction a with
 | nil=>exact fun h=>h
 | cons x a ih=>exact fun h=>ih h.2
theorem bm: ∀{c:Code} {bs:List cA},pj A f c=bs→m8 P A C L f n m bs→gY P A C L f n m c:=by
 intro c
 induction c with
 | seq a b GF GG=>
  intro bs h hb
  subst h
  exact ⟨GF rfl hb.left,GG rfl hb.right⟩
 | cond c x y iq iu=>
  intro bs h hb
  subst h
  cases c with
  | tmp t=>
   simp only[pj] at hb
   simp only[gY]
   cases hs:A.gS f (t*16+15) with
   | none=>
    rw[hs] at hb
    exact ⟨iq rfl hb.left,iu rfl hb.right⟩
   | some S=>
    rw[hs] at hb
    have:=hb.1
    simp only[cB,hs] at this
    exact this
  | const v=>exact ⟨iq rfl hb.left,iu rfl hb.right⟩
  | _=>trivial
 | block id c ih=>
  intro bs h hb
  subst h
  exact ih rfl hb
 | loop c ih=>
  intro bs h hb
  subst h
  exact hb.1
 | _=>intro bs h hb;trivial
variable (P A C L f n m) in
noncomputable def Ix {β:Type} (t:Nat) (S:Shape × List (Out × Shape)) (x y:Code) (ds:List V) (k:Nat→List V→Option β):Option β:=
 let kc:Out→St→Option β:=fun o st=>
  match o with
  | .norm=>(ways m 0 S.2 (.norm,canon m (A.join f t) st)).bind fun e=>k e.1 e.2
  | o=>(ways m 0 S.2 (o,st)).bind fun e=>k e.1 e.2
 match (bq S.1 ds).sl t with
 | .bool b=>bif b then gX P A C L f n m x (bq S.1 ds) kc else gX P A C L f n m y (bq S.1 ds) kc
 | _=>none
theorem YP {t:Nat} {x y:Code} {S:Shape × List (Out × Shape)} (hS:A.gS f (t*16+15)=some S) (hx:gY P A C L f n m x) (hy:gY P A C L f n m y) {I R:Type} (enc:I→List V) (l8:I→R→Nat × List V)
  (de:List V→I) (body:I→(β:Type)→(R→Option β)→Option β) (tU: ∀ds,bq S.1 (enc (de ds))=bq S.1 ds)
  (e1: ∀i (β:Type) (k:Nat→List V→Option β),Ix P A C L f n m t S x y (enc i) k=body i β (fun r=>k (l8 i r).1 (l8 i r).2))
  (hl: ∀(β:Type) ds (k:Nat→List V→Option β),L β (t*16+15) ds k=body (de ds) β (fun r=>k (l8 (de ds) r).1 (l8 (de ds) r).2)):
  cB P A C L f n m (.cond t x y):=by
 simp only[cB,hS]
 intro β ds k
 rw[hl,←e1]
 unfold Ix yR
 rw[tU]
 simp only
 have hk: ∀(z:Option (Out × St)),(z.bind fun r=>(match r.1 with
   | .norm=>(ways m 0 S.2 (.norm,canon m (A.join f t) r.2)).bind fun e=>k e.1 e.2
   | o=>(ways m 0 S.2 (o,r.2)).bind fun e=>k e.1 e.2))=((z.bind fun r=>
   match r.1 with
   | .norm=>some (Out.norm,canon m (A.join f t) r.2)
   | _=>some r).bind fun r=>ways m 0 S.2 r).bind fun r=>k r.1 r.2:=by
  intro z
  cases z with
  | none=>rfl
  | some r=>obtain ⟨o,st⟩:=r;cases o<;>rfl
 cases (bq S.1 ds).sl t with
 | bool b=>
  cases b with
  | true=>simp only[cond_true,Cz P A C f n m x hx];exact hk _
  | false=>simp only[cond_false,Cz P A C f n m y hy];exact hk _
 | _=>rfl
theorem bD {b:cA} {l:List cA} (h:cB P A C L f n m b) (U:m8 P A C L f n m l):m8 P A C L f n m (b::l):=⟨h,U⟩
theorem aw:m8 P A C L f n m []:=trivial
theorem bn {key:Nat} {bs:List cA} (hb:pj A key (cL P (A.aZ key))=bs) (ht:m8 P A (Call P A) L key (cQ P (A.aZ key)) (A.sin key).ba.length bs) {ds:List V} {r:Option (List V)}
  (h:GH P A (Call P A) L key ds=r):Call P A key ds=r:=by
 rw[YD,Vk P A (Call P A) key (bm hb ht),h]
end
inductive LK where
 | int (k:IntKind)
 | bool
 | str
 | list (e:TypeId)
 | nat
def LK.Ty:LK→Type
 | .int _=>Int
 | .bool=>Bool
 | .str=>List UInt8
 | .list _=>List V
 | .nat=>Nat
def LK.enc:(k:LK)→k.Ty→V
 | .int k,n=> .int k n
 | .bool,b=> .bool b
 | .str,s=> .str s
 | .list e,l=> .list e l
 | .nat,n=>dS n
def LK.dec:(k:LK)→V→k.Ty
 | .int _,v=>v.toInt
 | .bool,v=>v.toBool
 | .str,v=>v.toStr
 | .list _,v=>v.toList
 | .nat,v=>kp v
theorem LK.Po: ∀(k:LK) (x:k.Ty),k.dec (k.enc x)=x
 | .int _,_=>rfl
 | .bool,_=>rfl
 | .str,_=>rfl
 | .list _,_=>rfl
 | .nat,_=>rfl
def Iy:List Nat→List LK
 | []=>[]
 | _::l=> .nat::Iy l
def LS.ks:LS→List LK
 | .int k=>[.int k]
 | .bool=>[.bool]
 | .str=>[.str]
 | .list e=>[.list e]
 | .sub .. =>[.nat,.nat]
 | .ptr _=>[.nat,.nat]
 | .row _ _ cs=>Iy cs
 | .cw _ cs _=> .nat::Iy cs
 | _=>[]
def we:List LS→List LK
 | []=>[]
 | l::ls=>l.ks++we ls
def VS.ks:VS→List LK
 | .one l=>l.ks
 | .agg ls=>we ls
 | .bd ls=>we ls
 | .fn _ a b=>we a++we b
 | .pref _ ls=>we ls
def Pp:List VS→List LK
 | []=>[]
 | l::ls=>l.ks++Pp ls
def BS.ks:BS→List LK
 | .var _ cs=>Pp cs
 | .arr e _=>[.list e]
 | .nest e=>[.list e]
 | .dead=>[]
 | .map t=>[.list t]
def Pq:List (Nat × VS)→List LK
 | []=>[]
 | p::l=>p.2.ks++Pq l
def Pr:List BS→List LK
 | []=>[]
 | b::l=>b.ks++Pr l
def Shape.ks (S:Shape):List LK:=Pq S.bJ++Pr S.ba
def Iz:List Nat→List V→List V
 | [],_=>[]
 | _::cs,ds=>dS (kp (V.nth ds 0))::Iz cs (ds.drop 1)
def LS.norm:LS→List V→List V
 | .int k,ds=>[.int k (V.nth ds 0).toInt]
 | .bool,ds=>[.bool (V.nth ds 0).toBool]
 | .str,ds=>[.str (V.nth ds 0).toStr]
 | .list e,ds=>[.list e (V.nth ds 0).toList]
 | .sub ..,ds=>[dS (kp (V.nth ds 0)),dS (kp (V.nth ds 1))]
 | .ptr _,ds=>[dS (kp (V.nth ds 0)),dS (kp (V.nth ds 1))]
 | .row _ _ cs,ds=>Iz cs ds
 | .cw _ cs _,ds=>dS (kp (V.nth ds 0))::Iz cs (ds.drop 1)
 | _,_=>[]
def wg:List LS→List V→List V
 | [],_=>[]
 | l::ls,ds=>l.norm ds++wg ls (ds.drop l.size)
def VS.norm:VS→List V→List V
 | .one l,ds=>l.norm ds
 | .agg ls,ds=>wg ls ds
 | .bd ls,ds=>wg ls ds
 | .fn _ a b,ds=>wg a ds++wg b (ds.drop (jO a))
 | .pref _ ls,ds=>wg ls ds
def Ps:List VS→List V→List V
 | [],_=>[]
 | l::ls,ds=>l.norm ds++Ps ls (ds.drop l.size)
def BS.norm:BS→List V→List V
 | .var _ cs,ds=>Ps cs ds
 | .arr e _,ds=>[.list e (V.nth ds 0).toList]
 | .nest e,ds=>[.list e (V.nth ds 0).toList]
 | .dead,_=>[]
 | .map t,ds=>[.list t (V.nth ds 0).toList]
def Pt:List (Nat × VS)→List V→List V
 | [],_=>[]
 | p::l,ds=>p.2.norm ds++Pt l (ds.drop p.2.size)
def Pu:List BS→List V→List V
 | [],_=>[]
 | b::l,ds=>b.norm ds++Pu l (ds.drop b.size)
def Shape.norm (S:Shape) (ds:List V):List V:=Pt S.bJ ds++Pu S.ba (ds.drop (nQ S.bJ))
def tV:LK→List LK→Type
 | k,[]=>k.Ty
 | k,k'::ks=>k.Ty × tV k' ks
def j5:List LK→Type
 | []=>Unit
 | k::ks=>tV k ks
def tW:(k:LK)→(ks:List LK)→tV k ks→List V
 | k,[],x=>[k.enc x]
 | k,k'::ks,x=>k.enc x.1::tW k' ks x.2
def kI:(ks:List LK)→j5 ks→List V
 | [],_=>[]
 | k::ks,x=>tW k ks x
def zS:(k:LK)→(ks:List LK)→List V→tV k ks
 | k,[],l=>k.dec (V.nth l 0)
 | k,k'::ks,l=>(k.dec (V.nth l 0),zS k' ks l.tail)
def oo:(ks:List LK)→List V→j5 ks
 | [],_=>()
 | k::ks,l=>zS k ks l
theorem Pv: ∀(k:LK) (ks:List LK) (x:tV k ks) (r:List V),zS k ks (tW k ks x++r)=x
 | k,[],x,r=>LK.Po k x
 | k,k'::ks,x,r=>by
  show (k.dec (k.enc x.1),zS k' ks (tW k' ks x.2++r))=x
  rw[LK.Po,Pv k' ks]
  rfl
def wh:List LK→Type 1→Type 1
 | [],R=>R
 | k::ks,R=>k.Ty→wh ks R
def Pw:(k:LK)→(ks:List LK)→{R:Type 1}→wh (k::ks) R→tV k ks→R
 | _,[],_,f,x=>f x
 | _,k'::ks,_,f,x=>Pw k' ks (f x.1) x.2
def tX:(ks:List LK)→{R:Type 1}→wh ks R→j5 ks→R
 | [],_,f,_=>f
 | k::ks,_,f,x=>Pw k ks f x
def wi {α:Type} (b:Bool):List Bool→List α→List α
 | [],_=>[]
 | _,[]=>[]
 | c::m,x::l=>bif c==b then x::wi b m l else wi b m l
def merge:List Bool→List V→List V→List V
 | [],_,_=>[]
 | true::m,i,x=>V.nth x 0::merge m i x.tail
 | false::m,i,x=>V.nth i 0::merge m i.tail x
def wj:List Nat→List LK→List LK
 | [],_=>[]
 | _,[]=>[]
 | 0::t,k::ks=>k::wj t ks
 | (_+1)::t,_::ks=>wj t ks
abbrev fj:=List Nat × List LK
def fj.fresh (w:fj):List LK:=wj w.1 w.2
def put:List Nat→List V→List V→List V
 | [],_,_=>[]
 | 0::t,ds,x=>V.nth x 0::put t ds x.tail
 | (j+1)::t,ds,x=>V.nth ds j::put t ds x
def tY:List Nat→List V→List V
 | [],_=>[]
 | 0::t,l=>V.nth l 0::tY t l.tail
 | (_+1)::t,l=>tY t l.tail
def rW:fj→List fj→Type
 | w,[]=>j5 w.fresh
 | w,w'::ws=>j5 w.fresh ⊕ rW w' ws
def qE:List fj→Type
 | []=>Empty
 | w::ws=>rW w ws
def wN (ds:List V) {β:Type} (k:Nat→List V→Option β):Nat→(w:fj)→(ws:List fj)→rW w ws→Option β
 | j,w,[],r=>k j (put w.1 ds (kI w.fresh r))
 | j,w,w'::ws,r=>b9 (fun x=>k j (put w.1 ds (kI w.fresh x))) (fun y=>wN ds k (j+1) w' ws y) r
def wT (ds:List V) {β:Type} (k:Nat→List V→Option β):(ws:List fj)→qE ws→Option β
 | [],r=>Empty.elim r
 | w::ws,r=>wN ds k 0 w ws r
def oq (ds:List V):Nat→(w:fj)→(ws:List fj)→rW w ws→Nat × List V
 | j,w,[],r=>(j,put w.1 ds (kI w.fresh r))
 | j,w,_::_,.inl x=>(j,put w.1 ds (kI w.fresh x))
 | j,_,w'::ws,.inr y=>oq ds (j+1) w' ws y
def wk (ds:List V):(ws:List fj)→qE ws→Nat × List V
 | [],r=>Empty.elim r
 | w::ws,r=>oq ds 0 w ws r
theorem Px (ds:List V) {β:Type} (k:Nat→List V→Option β): ∀(j:Nat) (w:fj) (ws:List fj) (r:rW w ws),wN ds k j w ws r=k (oq ds j w ws r).1 (oq ds j w ws r).2
 | _,_,[],_=>rfl
 | _,_,_::_,.inl _=>rfl
 | j,_,w'::ws,.inr y=>Px ds k (j+1) w' ws y
theorem D2 (ds:List V) {β:Type} (k:Nat→List V→Option β): ∀(ws:List fj) (r:qE ws),wT ds k ws r=k (wk ds ws r).1 (wk ds ws r).2
 | [],r=>Empty.elim r
 | w::ws,r=>Px ds k 0 w ws r
def wm:Nat→(w:fj)→(ws:List fj)→List V→rW w ws
 | _,w,[],l=>oo w.fresh (tY w.1 l)
 | 0,w,_::_,l=> .inl (oo w.fresh (tY w.1 l))
 | j+1,_,w'::ws,l=> .inr (wm j w' ws l)
def Py (j:Nat):(ws:List fj)→List V→Option (qE ws)
 | [],_=>none
 | w::ws,l=>some (wm j w ws l)
def wo:List Nat→List V→List V
 | [],_=>[]
 | 0::t,x=>V.nth x 0::wo t x.tail
 | (_+1)::t,x=>wo t x
theorem IA: ∀(t:List Nat) (ds x:List V),tY t (put t ds x)=wo t x
 | [],_,_=>rfl
 | 0::t,ds,x=>congrArg (V.nth x 0:: ·) (IA t ds x.tail)
 | (_+1)::t,ds,x=>IA t ds x
theorem IB: ∀(t:List Nat) (ks:List LK) (k:LK) (bI:List LK),wj t ks=k::bI→∀x:tV k bI,∃r,wo t (tW k bI x)=tW k bI x++r
 | [],_,_,_,h,_=>by cases h
 | _::_,[],_,_,h,_=>by simp[wj] at h
 | 0::t,a::ks,k,bI,h,x=>by
  simp only[wj,List.cons.injEq] at h
  obtain ⟨rfl,U⟩:=h
  cases bI with
  | nil=>exact ⟨wo t [],rfl⟩
  | cons k' bI=>
   obtain ⟨r,hr⟩:=IB t ks k' bI U x.2
   exact ⟨r,congrArg (a.enc x.1:: ·) hr⟩
 | (_+1)::t,a::ks,k,bI,h,x=>IB t ks k bI h x
theorem Pz (w:fj) (ds:List V) (x:j5 w.fresh):oo w.fresh (tY w.1 (put w.1 ds (kI w.fresh x)))=x:=by
 rw[IA]
 revert x
 generalize hf:w.fresh=f
 cases f with
 | nil=>intro x;rfl
 | cons k ks=>
  intro x
  obtain ⟨r,hr⟩:=IB w.1 w.2 k ks hf x
  show zS k ks (wo w.1 (tW k ks x))=x
  rw[hr]
  exact Pv k ks x r
theorem PA (ds:List V): ∀(j:Nat) (w:fj) (ws:List fj) (r:rW w ws),j≤(oq ds j w ws r).1
 | _,_,[],_=>bW _
 | _,_,_::_,.inl _=>bW _
 | j,_,w'::ws,.inr y=>lH (Nat.le_succ j) (PA ds (j+1) w' ws y)
theorem YQ (w:fj) (l:List V): ∀j,wm j w [] l=oo w.fresh (tY w.1 l)
 | 0=>rfl
 | _+1=>rfl
theorem PB (ds:List V): ∀(j:Nat) (w:fj) (ws:List fj) (r:rW w ws),wm ((oq ds j w ws r).1-j) w ws (oq ds j w ws r).2=r
 | j,w,[],r=>(YQ w _ _).trans (Pz w ds r)
 | j,w,w'::ws,.inl x=>by
  show wm (j-j) w (w'::ws) (put w.1 ds (kI w.fresh x))= .inl x
  rw[Nat.sub_self]
  exact congrArg Sum.inl (Pz w ds x)
 | j,w,w'::ws,.inr y=>by
  have h1:=PA ds (j+1) w' ws y
  have U:=PB ds (j+1) w' ws y
  show wm ((oq ds (j+1) w' ws y).1-j) w (w'::ws) (oq ds (j+1) w' ws y).2= .inr y
  obtain ⟨d,hd⟩: ∃d,(oq ds (j+1) w' ws y).1=j+1+d:=⟨(oq ds (j+1) w' ws y).1-(j+1),by omega⟩
  rw[hd] at U⊢
  rw[show j+1+d-(j+1)=d by omega] at U
  rw[show j+1+d-j=d+1 by omega]
  exact congrArg Sum.inr U
theorem YR (ds:List V): ∀(ws:List fj) (r:qE ws),Py (wk ds ws r).1 ws (wk ds ws r).2=some r
 | [],r=>Empty.elim r
 | w::ws,r=>congrArg some (PB ds 0 w ws r)
section
variable {P:Program} {A:cx} {C:ag} {L:cD} {f n m:Nat}
theorem YS {c:Code} {S:Shape × List (Out × Shape)} (hS:A.gS f (keyOf c+1)=some S) (hL:gY P A C L f n m c) {I X R:Type} (enc:I→X→List V) (l8:I→R→Nat × List V)
  (pk:List V→I) (qF:List V→X) (D3:Nat × List V→Option R) (body:I→X→(β:Type)→(X→Option β)→(R→Option β)→Option β)
  (tU: ∀ds,bq S.1 (enc (pk ds) (qF ds))=bq S.1 ds) (IC: ∀i x,qF (enc i x)=x) (YT: ∀i r,D3 (l8 i r)=some r)
  (e1: ∀i x (β:Type) (k:(List V ⊕ (Nat × List V))→Option β),gX P A C L f n m c (bq S.1 (enc i x)) (fun o st=>(mL m S.1 S.2 (some (o,st))).bind k)=
   body i x β (fun y=>k (.inl (enc i y))) (fun r=>k (.inr (l8 i r))))
  (hl: ∀(β:Type) ds (k:Nat→List V→Option β),L β (keyOf c+1) ds k=(Loop (fun x=>body (pk ds) x (X ⊕ R) (fun y=>some (.inl y)) (fun r=>some (.inr r))) (qF ds)).bind fun r=>k (l8 (pk ds) r).1 (l8 (pk ds) r).2):
  cB P A C L f n m (.loop c):=by
 simp only[cB,hS]
 intro β ds k
 rw[hl]
 have hex: ∀(z:Option (Out × St)),mL m S.1 S.2 z=z.bind fun r=>mL m S.1 S.2 (some (r.1,r.2)):=by
  intro z;cases z<;>rfl
 have hs: ∀i x,stepG P A C f n m S c (enc i x)=(body i x (X ⊕ R) (fun y=>some (.inl y)) (fun r=>some (.inr r))).map fun| .inl y=> .inl (enc i y)| .inr r=> .inr (l8 i r):=by
  intro i x
  have k1:=e1 i x _ (fun z=>some z)
  have k2:=e1 i x (X ⊕ R) (fun| .inl ds=>some (.inl (qF ds))| .inr e=>(D3 e).map .inr)
  have k3:=e1 i x (List V ⊕ (Nat × List V)) (fun| .inl ds=>some (.inl (enc i (qF ds)))| .inr e=>(D3 e).map fun r=> .inr (l8 i r))
  simp only[IC,YT,Option.map_some] at k2 k3
  unfold stepG
  rw[hex]
  rw[Cz P A C f n m c hL] at k1 k2 k3
  rw[←k2]
  refine bc ?_ (k1.trans (k3.symm.trans ?_))
  ·congr 1
   funext r
   cases mL m S.1 S.2 (some (r.1,r.2))<;>rfl
  ·cases exec P A C f n m c (bq S.1 (enc i x)) with
   | none=>rfl
   | some r=>
    simp only[Option.bind_some]
    cases mL m S.1 S.2 (some (r.1,r.2)) with
    | none=>rfl
    | some z=>
     cases z with
     | inl _=>rfl
     | inr e=>simp only[Option.bind_some];cases D3 e<;>rfl
 have h0:stepG P A C f n m S c ds=stepG P A C f n m S c (enc (pk ds) (qF ds)):=by
  unfold stepG
  rw[tU]
 have:Loop (stepG P A C f n m S c) ds=(Loop (fun x=>body (pk ds) x (X ⊕ R) (fun y=>some (.inl y)) (fun r=>some (.inr r))) (qF ds)).map (l8 (pk ds)):=by
  rw[B9,h0,←B9]
  exact Vi (enc (pk ds)) (l8 (pk ds)) (fun x=>hs _ _) (qF ds)
 rw[this]
 cases Loop (fun x=>body (pk ds) x (X ⊕ R) (fun y=>some (.inl y)) (fun r=>some (.inr r))) (qF ds)<;>rfl
abbrev zT (S:Shape) (mk:List Bool):List LK:=wi false mk S.ks
abbrev tZ (S:Shape) (mk:List Bool):List LK:=wi true mk S.ks
def qG (ts:List (List Nat)) (W:List (Out × Shape)):List fj:=
 match ts,W with
 | t::ts,w::W=>(t,w.2.ks)::qG ts W
 | _,_=>[]
abbrev zU (S:Shape) (mk:List Bool) (i:j5 (zT S mk)) (x:j5 (tZ S mk)):List V:=merge mk (kI _ i) (kI _ x)
abbrev ID (S:Shape) (mk:List Bool) (i:j5 (zT S mk)):List V:=merge mk (kI _ i) []
abbrev D4 (S:Shape) (mk:List Bool) (ds:List V):j5 (zT S mk):=oo _ (wi false mk (S.norm ds))
abbrev D5 (S:Shape) (mk:List Bool) (ds:List V):j5 (tZ S mk):=oo _ (wi true mk (S.norm ds))
abbrev PC (X R:Type):Type 1:=(β:Type)→(X→Option β)→(R→Option β)→Option β
abbrev IE (S:Shape × List (Out × Shape)) (mk:List Bool) (ts:List (List Nat)):Type 1:=wh (zT S.1 mk) (wh (tZ S.1 mk) (PC (j5 (tZ S.1 mk)) (qE (qG ts S.2))))
abbrev IF (S:Shape × List (Out × Shape)) (mk:List Bool) (ts:List (List Nat)) (b:IE S mk ts) (i:j5 (zT S.1 mk)) (x:j5 (tZ S.1 mk)):PC (j5 (tZ S.1 mk)) (qE (qG ts S.2)):=tX _ (tX _ b i) x
noncomputable def ca (S:Shape × List (Out × Shape)) (mk:List Bool) (ts:List (List Nat)) (b:IE S mk ts) {β:Type} (ds:List V) (k:Nat→List V→Option β):Option β:=
 (Loop (fun x=>IF S mk ts b (D4 S.1 mk ds) x (j5 (tZ S.1 mk) ⊕ qE (qG ts S.2)) (fun y=>some (.inl y)) (fun r=>some (.inr r))) (D5 S.1 mk ds)).bind (wT (ID S.1 mk (D4 S.1 mk ds)) k (qG ts S.2))
theorem cg {c:Code} (S:Shape × List (Out × Shape)) (mk:List Bool) (ts:List (List Nat)) (b:IE S mk ts) (hS:A.gS f (keyOf c+1)=some S) (hL:gY P A C L f n m c)
  (tU: ∀ds,bq S.1 (zU S.1 mk (D4 S.1 mk ds) (D5 S.1 mk ds))=bq S.1 ds) (IC: ∀i x,D5 S.1 mk (zU S.1 mk i x)=x)
  (e1: ∀i x (β:Type) (k:(List V ⊕ (Nat × List V))→Option β),gX P A C L f n m c (bq S.1 (zU S.1 mk i x)) (fun o st=>(mL m S.1 S.2 (some (o,st))).bind k)=
   IF S mk ts b i x β (fun y=>k (.inl (zU S.1 mk i y))) (wT (ID S.1 mk i) (fun j l=>k (.inr (j,l))) (qG ts S.2)))
  (hl: ∀(β:Type) ds (k:Nat→List V→Option β),L β (keyOf c+1) ds k=ca S mk ts b ds k):
  cB P A C L f n m (.loop c):=
 YS hS hL (zU S.1 mk) (fun i r=>wk (ID S.1 mk i) _ r) (D4 S.1 mk) (D5 S.1 mk) (fun e=>Py e.1 _ e.2) (IF S mk ts b) tU IC (fun i r=>YR _ _ r)
  (fun i x β k=>by
   rw[e1]
   congr 1
   funext r
   exact D2 _ _ _ r)
  (fun β ds k=>by
   rw[hl]
   unfold ca
   congr 1
   funext r
   exact D2 _ _ _ r)
abbrev PD (S:Shape × List (Out × Shape)) (ts:List (List Nat)):Type 1:=wh S.1.ks ((β:Type)→(qE (qG ts S.2)→Option β)→Option β)
noncomputable def iJ (S:Shape × List (Out × Shape)) (ts:List (List Nat)) (b:PD S ts) {β:Type} (ds:List V) (k:Nat→List V→Option β):Option β:=
 tX S.1.ks b (oo _ (S.1.norm ds)) β (wT (kI S.1.ks (oo _ (S.1.norm ds))) k (qG ts S.2))
theorem jb {t:Nat} {x y:Code} (S:Shape × List (Out × Shape)) (ts:List (List Nat)) (b:PD S ts) (hS:A.gS f (t*16+15)=some S) (hx:gY P A C L f n m x) (hy:gY P A C L f n m y)
  (tU: ∀ds,bq S.1 (kI S.1.ks (oo _ (S.1.norm ds)))=bq S.1 ds)
  (e1: ∀i (β:Type) (k:Nat→List V→Option β),Ix P A C L f n m t S x y (kI S.1.ks i) k=tX S.1.ks b i β (wT (kI S.1.ks i) k (qG ts S.2)))
  (hl: ∀(β:Type) ds (k:Nat→List V→Option β),L β (t*16+15) ds k=iJ S ts b ds k):
  cB P A C L f n m (.cond t x y):=
 YP hS hx hy (kI S.1.ks) (fun i r=>wk (kI S.1.ks i) _ r) (fun ds=>oo _ (S.1.norm ds)) (tX S.1.ks b) tU
  (fun i β k=>by
   rw[e1]
   exact congrArg (tX S.1.ks b i β) (funext fun r=>D2 _ _ _ r))
  (fun β ds k=>by
   rw[hl]
   exact congrArg (tX S.1.ks b (oo _ (S.1.norm ds)) β) (funext fun r=>D2 _ _ _ r))
end
def cq:cD:=fun _ _ _ _=>none
end Go.AM
