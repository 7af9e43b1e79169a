/-
  Functions of vr program, lifted to plain data.
-/
import Derived.Conc.MuLone
import Derived.Defers
import Derived.Carry
import Derived.OpenShut
import Derived.Deep.Slices
import Derived.Test.YtmcdbnalaobmpaaDoorP2
set_option linter.unusedVariables false
set_option linter.unusedSimpArgs false
namespace Go.AM
section
variable {P:Program} {A:cH} {w w':World} {I I' I2:Nat→Prop} {μ β an b9:Nat→Option Nat} {hp hp' hp0 bx:Nat→Option ag} {C:ae} {B:Nat} {M:Nat→Prop} {w0:Start}
structure kF (w:World) (I:Nat→Prop) (β:Nat→Option Nat) (hp:Nat→Option ag) (w':World) (I':Nat→Prop) (an:Nat→Option Nat) (hp':Nat→Option ag):Prop where
 dz: ∀b,I b→I' b
 cg: ∀b,I b→w'.heap[b]? =w.heap[b]?
 blk: ∀id blk,hp id=some blk→∃blk',hp' id=some blk'∧blk.le blk'∧(blk'≠ .dead→an id=β id)
 size: ∀id blk blk' b,hp id=some blk→hp' id=some blk'→blk'≠ .dead→β id=some b→bsize w' b=bsize w b
theorem Le.Ea (h:Le P w I β hp w' I' an hp'):kF w I β hp w' I' an hp':=⟨h.dz,h.cg,h.blk,h.size⟩
theorem kF.trans {yz:World} {yA:Nat→Prop} {yB:Nat→Option Nat} {yC:Nat→Option ag} (h1:kF w I β hp w' I' an hp') (h2:kF w' I' an hp' yz yA yB yC):kF w I β hp yz yA yB yC:=by
 refine ⟨fun b h=>h2.dz b (h1.dz b h),fun b h=>(h2.cg b (h1.dz b h)).trans (h1.cg b h),fun id blk h=> ?_,fun id blk tv b h rU hd hb=> ?_⟩
 ·obtain ⟨blk',e',l',b'⟩:=h1.blk id blk h
  obtain ⟨tv,dR,yD,HX⟩:=h2.blk id blk' e'
  refine ⟨tv,dR,ag.le_trans l' yD,fun hd=> ?_⟩
  have eW:blk'≠ .dead:=fun e=>hd (ag.o9 (e▸yD))
  exact (HX hd).trans (b' eW)
 ·obtain ⟨blk',e',l',b'⟩:=h1.blk id blk h
  obtain ⟨gK,e3,l3,b3⟩:=h2.blk id blk' e'
  obtain rfl:gK=tv:=by rw[e3] at rU;exact Option.some.inj rU
  have eW:blk'≠ .dead:=fun e=>hd (ag.o9 (e▸l3))
  rw[h2.size id blk' gK b e' e3 hd ((b' eW).trans hb),h1.size id blk blk' b h e' eW hb]
def ov (P:Program) (w:World) (μ:Nat→Option Nat) (hp0:Nat→Option ag) (b:Nat):Prop:= ∃j blk,hp0 j=some blk∧bA P w (μ j) blk b
structure aaD (P:Program) (A:cH) (key:Nat) (w:World) (I:Nat→Prop) (μ:Nat→Option Nat) (ds es:List V) (w':World) (v:Value) (I2:Nat→Prop) (b9:Nat→Option Nat):Prop where
 wq:aD P w' I2 b9 (bq (A.so key es) (A.lv key es)).hp w.heap.size (ov P w μ (bq (A.sin key) ds).hp) ⟨w,I⟩
 le:kF w I μ (bq (A.sin key) ds).hp w' I2 b9 (bq (A.so key es) (A.lv key es)).hp
 res:ah P w' I2 b9 (bq (A.so key es) (A.lv key es)).hp v (o7 (fq (A.so key es).bI (A.lv key es)))
def kG (P:Program) (A:cH) (C:ae):Prop:=
 ∀key ds es,C key ds=some es→∃fn c,P.funcs[A.aW key]? =some fn∧fn.body=some c∧
  ∀(w:World) (I:Nat→Prop) (μ:Nat→Option Nat) (vals:List Value),
   tu P w I μ (bq (A.sin key) ds).hp w.heap.size (ov P w μ (bq (A.sin key) ds).hp)→gL P A.aC w I→
   vals.length=(A.sin key).bI.length→(∀(j:Nat) v x,vals[j]? =some v→(fD ((A.sin key).bI.map (·.2)) ds)[j]? =some x→ah P w I μ (bq (A.sin key) ds).hp v x)→
   Calls P (A.aW key) vals.toArray w fun e w'=> ∃v I2 b9,e= .returned v∧aaD P A key w I μ ds es w' v I2 b9
theorem eo.tX {p:Place} {o:Option Nat} {blk:ag} {b:Nat} (h:eo P w β hp p o blk) (ho:bA P w o blk b):
  ∃qz,hp p.id=some qz∧bA P w (β p.id) qz b∧∀e es,qz≠ .arr e es true:=by
 cases h with
 | var h=>exact ⟨_,h,.root (by simp) (ho.flat (by simp)),by simp⟩
 | arr h=>exact ⟨_,h,.root (by simp) (ho.flat (by simp)),by simp⟩
 | map h=>exact ⟨_,h,.root (by simp) (ho.flat (by simp)),by simp⟩
 | nest h=>
  refine ⟨_,h,?_,by simp⟩
  cases ho with
  | root _ hb=>exact .root (by simp) hb
  | row hb ha=>exact .row hb ha
 | row h hb ha _ _ _ _ _=>
  have:=ho.flat (by simp)
  cases this
  exact ⟨_,h,.row hb ha,by simp⟩
theorem aD.aaE (S:aD P w I β hp B M w0) {id b:Nat} {blk:ag} (ab:hp id=some blk) (ho:bA P w (β id) blk b) (hf: ∀e es,blk≠ .arr e es true): ¬I b:=by
 have hr:=S.h.rel id blk ab
 generalize β id=o at hr ho
 cases hr with
 | var hb _ _ hI _ _=>have:=ho.flat (by simp);rw[hb] at this;cases this;exact hI
 | dV hb=>have:=ho.flat (by simp);rw[hb] at this;cases this
 | @arr e es fz _ _ _ hb _ _ _ ez _=>
  have:=ho.flat (by simp)
  rw[hb] at this;cases this
  cases fz with
  | true=>exact absurd rfl (hf e es)
  | false=>exact ez rfl
 | dead=>exact absurd rfl ho.alive
 | map _ hb _ _ hI _ _=>have:=ho.flat (by simp);rw[hb] at this;cases this;exact hI
 | nest hb hr _=>
  cases ho with
  | root _ ax=>rw[hb] at ax;cases ax;exact (hr _ _ _ _ .here).nI
  | row ax ha=>rw[hb] at ax;cases ax;exact (hr _ _ _ _ ha).nI
theorem Eb {a b:List Nat} (h:vB a b=false) {x:Nat} (ha:x∈a):x∉b:=by
 intro hb
 unfold vB at h
 rw[List.any_eq_false] at h
 exact h x ha (vX hb)
theorem aaF (S:aD P w I β hp B M w0) {pl:List Place} {upd:List (Nat × ag)} {o:Nat→Option Nat} (j4:(pl.map Place.id).Nodup) (ow:vB (upd.map (·.1)) (pl.map Place.id)=false)
  (hl: ∀j blk,hp0 j=some blk→∃p,ew pl j=some p∧eo P w β hp p (o j) blk)
  (cJ:(∀j blk,hp0 j=some blk→∀b,bA P w (o j) blk b→¬iI P w I β hp upd b)→∀j blk,hp0 j=some blk→eh P w (iI P w I β hp upd) o hp0 (o j) blk) (aR: ∀b,iI P w I β hp upd b→b<w.heap.size):
  tu P w (iI P w I β hp upd) o hp0 w.heap.size (ov P w o hp0):=by
 have cW: ∀j blk,hp0 j=some blk→∀b,bA P w (o j) blk b→¬iI P w I β hp upd b:=by
  intro j blk hj b ho hI
  obtain ⟨p,bx,gM⟩:=hl j blk hj
  obtain ⟨qz,k1,k2,k3⟩:=gM.tX ho
  rcases hI with hI|⟨q,hq,b8,q1,q2⟩
  ·exact S.aaE k1 k2 k3 hI
  ·have:=S.h.inj _ _ _ _ b q1 k1 q2 k2
   refine Eb ow (List.mem_map.2 ⟨q,hq,rfl⟩) ?_
   rw[this]
   rw[lk] at bx
   exact List.mem_map.2 ⟨p,List.mem_of_getElem? bx,rfl⟩
 refine ⟨cJ cW,fun j1 j2 b1 b2 b h1 h2 o1 o2=> ?_,fun j blk b h1 o1=> .inl ⟨j,blk,h1,o1⟩,aR⟩
 obtain ⟨p1,q1,q2⟩:=hl j1 b1 h1
 obtain ⟨p2,r1,r2⟩:=hl j2 b2 h2
 obtain ⟨c1,x1,x2,_⟩:=q2.tX o1
 obtain ⟨c2,y1,y2,_⟩:=r2.tX o2
 have ab:=S.h.inj _ _ _ _ b x1 y1 x2 y2
 rw[lk] at q1 r1
 have m1:(pl.map Place.id)[j1]? =some p1.id:=by rw[List.getElem?_map,q1];rfl
 have m2:(pl.map Place.id)[j2]? =some p2.id:=by rw[List.getElem?_map,r1];rfl
 rw[←ab] at m2
 obtain ⟨z1,z2⟩:=List.getElem?_eq_some_iff.1 m1
 obtain ⟨z3,z4⟩:=List.getElem?_eq_some_iff.1 m2
 exact (List.getElem_inj j4).1 (z2.trans z4.symm)
def PQ:V→Prop
 | .list .. =>False
 | .pref .. =>False
 | .agg _=>False
 | .bh _=>False
 | .fn .. =>False
 | _=>True
theorem ah.free {v:Value} {x:V} (h:ah P w I β hp v x) (hx:PQ x):ah P w I' β hp v x:=by
 cases h with
 | undef=>exact .undef
 | int=>exact .int
 | bool=>exact .bool
 | str h=>exact .str h
 | list h=>exact hx.elim
 | nilS=>exact .nilS
 | agg=>exact hx.elim
 | bh=>exact hx.elim
 | dE=>exact .dE
 | fn=>exact hx.elim
 | pref=>exact hx.elim
 | ey h=>exact .ey h
 | gk h=>exact .gk h
 | jT h=>exact .jT h
 | dU h hb=>exact .dU h hb
 | whole h hb a b c=>exact .whole h hb a b c
 | eH h hb a b c=>exact .eH h hb a b c
 | fT h hb=>exact .fT h hb
 | sub h hb a b c=>exact .sub h hb a b c
 | ptr h hd hb=>exact .ptr h hd hb
 | jr h qu=>exact .jr h qu
 | js h qu=>exact .js h qu
 | row h hb a b c d=>exact .row h hb a b c d
 | cG h hb a b c d e=>exact .cG h hb a b c d e
 | dF=>exact .dF
 | ic h=>exact .ic h
 | bX h hb=>exact .bX h hb
theorem zf {l:LS} {ds:List V} (hs:l.safe=true):PQ (iE l ds):=by
 cases l<;>simp only[LS.safe] at hs<;>first|(cases hs;done)|trivial
theorem zg: ∀{ls:List LS} {ds:List V} {j:Nat} {y:V},(gZ ls ds)[j]? =some y→∃l fw,l∈ls∧y=iE l fw
 | [],ds,j,y,h=>by simp[gZ] at h
 | l::ls,ds,j,y,h=>by
  simp only[gZ] at h
  cases j with
  | zero=>simp at h;exact ⟨l,ds,List.mem_cons_self ..,h.symm⟩
  | succ j=>
   obtain ⟨l',fw,h1,h2⟩:=zg (j:=j) (by simpa using h)
   exact ⟨l',fw,List.mem_cons_of_mem _ h1,h2⟩
theorem PR: ∀{ls:List VS} {ds:List V} {j:Nat} {y:V},(fD ls ds)[j]? =some y→∃l fw,l∈ls∧y=ku l fw
 | [],ds,j,y,h=>by simp[fD] at h
 | l::ls,ds,j,y,h=>by
  simp only[fD] at h
  cases j with
  | zero=>simp at h;exact ⟨l,ds,List.mem_cons_self ..,h.symm⟩
  | succ j=>
   obtain ⟨l',fw,h1,h2⟩:=PR (j:=j) (by simpa using h)
   exact ⟨l',fw,List.mem_cons_of_mem _ h1,h2⟩
theorem PS {s:VS} {ds:List V} {v:Value} (h:ah P w I β hp v (ku s ds)) (hs:s.safe=true):ah P w I' β hp v (ku s ds):=by
 cases s with
 | one l=>exact h.free (zf hs)
 | agg ls=>
  simp only[ku] at h⊢
  obtain ⟨cs,rfl,e1,e2⟩:=h.kB
  refine .agg e1 fun j v x hj hx=> ?_
  obtain ⟨l,fw,k1,rfl⟩:=zg hx
  exact (e2 j v _ hj hx).free (zf (List.all_eq_true.1 hs l k1))
 | bh ls=>
  simp only[ku] at h⊢
  obtain ⟨cs,rfl,e1,e2⟩:=h.tD
  refine .bh e1 fun j v x hj hx=> ?_
  obtain ⟨l,fw,k1,rfl⟩:=zg hx
  exact (e2 j v _ hj hx).free (zf (List.all_eq_true.1 hs l k1))
 | fn f a b=>
  simp only[VS.safe,Bool.and_eq_true] at hs
  simp only[ku] at h⊢
  cases h with
  | fn a1 a2 b1 b2=>
   refine .fn a1 (fun j v x hj hx=> ?_) b1 (fun j v x hj hx=> ?_)
   ·obtain ⟨l,fw,k1,rfl⟩:=zg hx
    exact (a2 j v _ hj hx).free (zf (List.all_eq_true.1 hs.1 l k1))
   ·obtain ⟨l,fw,k1,rfl⟩:=zg hx
    exact (b2 j v _ hj hx).free (zf (List.all_eq_true.1 hs.2 l k1))
 | pref ts ls=>cases hs
theorem Pure.scalar {t:TypeId} {v:Value} {x:V} (h:Pure P w I t v x) (hn: ∀e,P.underlying t≠some (.slice e)):Pure P w I' t v x:=by
 cases h with
 | int h=>exact .int h
 | bool h=>exact .bool h
 | str h hl=>exact .str h hl
 | nil h=>exact absurd h (hn _)
 | emp h=>exact absurd h (hn _)
 | list g h=>exact absurd h (hn _)
theorem aaG {e t:TypeId} {j:Nat} (h:yh P e=true) (ht:(aU P e)[j]? =some t) (e':TypeId):P.underlying t≠some (.slice e'):=by
 intro hu
 have h2:=List.all_eq_true.1 h t (List.mem_of_getElem? ht)
 rw[hu] at h2
 cases h2
theorem aaH {o:Option Nat} {b:BS} {ds:List V} (h:eh P w I2 β hp o (fP b ds)) (hs:b.safe P=true) (hi: ∀b,I b→I2 b):eh P w I β hp o (fP b ds):=by
 cases b with
 | dead=>exact .dead
 | var T0 ls=>
  simp only[fP] at h⊢
  cases h with
  | var hb hh aZ hI hx gm=>
   refine .var hb hh aZ (fun h=>hI (hi _ h)) (fun j v x hj cC=> ?_) gm
   obtain ⟨l,fw,k1,rfl⟩:=PR cC
   exact PS (hx j v _ hj cC) (List.all_eq_true.1 hs l k1)
 | arr e fz=>
  simp only[BS.safe,Bool.and_eq_true,Bool.not_eq_true'] at hs
  obtain ⟨rfl,ze⟩:=hs
  simp only[fP] at h⊢
  generalize (V.nth ds 0).toList=es at h⊢
  cases h with
  | dV hb=>exact .dV hb
  | arr a1 a2 a3 a4 a5 a6 a7=>
   refine .arr a1 a2 a3 a4 (fun h=>by cases h) (fun _ h=>a6 rfl (hi _ h)) fun i j x t' y1 y2 y3=> ?_
   obtain ⟨v,z1,z2⟩:=a7 i j x t' y1 y2 y3
   exact ⟨v,z1,z2.scalar (aaG ze y2)⟩
 | nest e=>
  simp only[fP] at h⊢
  generalize (V.nth ds 0).toList=es at h⊢
  cases h with
  | nest hb cq oh=>
   refine .nest hb (fun q b' e1 m1 hq=> ?_) oh
   obtain ⟨ok,⟨Ca,c1,c2,c3⟩,nI⟩:=cq q b' e1 m1 hq
   refine ⟨ok,⟨Ca,c1,c2,fun i j x t' y1 y2 y3=> ?_⟩,fun h=>nI (hi _ h)⟩
   obtain ⟨v,z1,z2⟩:=c3 i j x t' y1 y2 y3
   refine ⟨v,z1,?_⟩
   generalize bK P e1 x j=y at z2⊢
   cases z2 with
   | fS a p=>
    refine .fS a (p.scalar fun e hu=> ?_)
    unfold fO at a
    rw[hu] at a
    cases a
   | emp a b=>exact .emp a b
   | row a b c d e=>exact .row a b c d e
 | map t=>
  simp only[fP] at h⊢
  cases h with
  | map a1 a2 a3 a4 a5 a6 a7=>exact .map a1 a2 a3 a4 (fun h=>a5 (hi _ h)) a6 a7
theorem I9: ∀{l:List BS} {ds:List V} {j:Nat} {y:ag},(eV l ds)[j]? =some y→∃b fw,l[j]? =some b∧y=fP b fw
 | [],ds,j,y,h=>by simp[eV] at h
 | b::l,ds,j,y,h=>by
  simp only[eV] at h
  cases j with
  | zero=>simp at h;exact ⟨b,ds,rfl,h.symm⟩
  | succ j=>
   obtain ⟨b',fw,h1,h2⟩:=I9 (j:=j) (by simpa using h)
   exact ⟨b',fw,by simpa using h1,h2⟩
theorem PT: ∀{l:List (Nat × VS)} {ds:List V} {q:Nat × V},q∈fq l ds→∃s fw,(q.1,s)∈l∧q.2=ku s fw
 | [],ds,q,h=>by simp[fq] at h
 | (k,s)::l,ds,q,h=>by
  simp only[fq,List.mem_cons] at h
  rcases h with h|h
  ·subst h;exact ⟨s,ds,List.mem_cons_self ..,rfl⟩
  ·obtain ⟨s',fw,h1,h2⟩:=PT h
   exact ⟨s',fw,List.mem_cons_of_mem _ h1,h2⟩
theorem aaI {S:Shape} {es:List V} (hs:S.safe P=true) (hi: ∀b,I b→I2 b) {N:Nat→Prop} {st:Start} (h:aD P w' I2 b9 (bq S es).hp B N st) (h0: ∀b,I b→st.I b):
  aD P w' I b9 (bq S es).hp B N st∧∀v,ah P w' I2 b9 (bq S es).hp v (o7 (fq S.bI es))→ah P w' I b9 (bq S es).hp v (o7 (fq S.bI es)):=by
 unfold Shape.safe at hs
 simp only[Bool.and_eq_true] at hs
 obtain ⟨jv,jA⟩:=hs
 have one: ∀q∈fq S.bI es,∀v,ah P w' I2 b9 (bq S es).hp v q.2→ah P w' I b9 (bq S es).hp v q.2:=by
  intro q hq v hv
  obtain ⟨s,fw,k1,k2⟩:=PT hq
  rw[k2] at hv⊢
  exact PS hv (List.all_eq_true.1 jv _ k1)
 refine ⟨⟨⟨fun j blk hj=> ?_,h.h.inj,h.h.own,fun b hb=>h.h.jt b (hi b hb)⟩,h.cg,h.size,fun b hb=> .inl (h0 b hb),h.io⟩,fun v hv=> ?_⟩
 ·have hr:=h.h.rel j blk hj
  have gA:=hj
  simp only[bq,mk,gQ] at gA
  obtain ⟨b,fw,k1,rfl⟩:=I9 gA
  exact aaH hr (List.all_eq_true.1 jA _ (List.mem_of_getElem? k1)) hi
 ·generalize fq S.bI es=l at one hv⊢
  match l,one,hv with
  | [],_,hv=>
   simp only[o7,List.map_nil] at hv⊢
   obtain ⟨cs,rfl,e1,e2⟩:=hv.tD
   exact .bh e1 fun j v x _ hx=>by simp at hx
  | [q],one,hv=>exact one q (List.mem_singleton.2 rfl) v hv
  | q::q2::l,one,hv=>
   simp only[o7] at hv⊢
   obtain ⟨cs,rfl,e1,e2⟩:=hv.tD
   refine .bh e1 fun j v x hj hx=> ?_
   obtain ⟨y,hy,rfl⟩:=List.mem_map.1 (List.mem_of_getElem? hx)
   exact one y hy v (e2 j v _ hj hx)
end
section
variable {P:Program} {A:cH} {w w':World} {I I' I2:Nat→Prop} {μ β an b9:Nat→Option Nat} {hp hp' hp0 bx:Nat→Option ag} {C:ae} {B:Nat} {M:Nat→Prop} {w0:Start}
inductive gq (σ:List Place):ag→ag→Prop
 | dead:gq σ .dead .dead
 | var {T:TypeId} {cs:List V}:gq σ (.var T cs) (.var T (cs.map (Dg σ)))
 | arr {e:TypeId} {es:List V} {fz:Bool}:gq σ (.arr e es fz) (.arr e es fz)
 | nest {e:TypeId} {es:List V} {v1 v2:List Nat}:gq σ (.nest e es v1) (.nest e es v2)
 | map {t:TypeId} {es:List V}:gq σ (.map t es) (.map t es)
theorem gq.of (σ:List Place) (b:ag):gq σ b (tj σ b):=by
 cases b with
 | dead=>exact .dead
 | var T cs=>exact .var
 | arr e es fz=>exact .arr
 | nest e es v=>exact .nest
 | map t es=>exact .map
theorem PU {σ:List Place}: ∀{pl:List Place} {bs:List ag} {acc:List (Nat × ag)} {k:List (Nat × ag)→Rd R} {r:R} {rd:List Nat},(qb σ pl bs acc k).run C hp=some (r,rd)→
  pl.length≤bs.length∧∃bk fc,(k bk).run C hp=some (r,fc)∧(∀q∈bk,q∈acc∨∃(j:Nat) (b:ag),pl[j]? =some (.blk q.1)∧bs[j]? =some b∧gq σ b q.2∧((∃e es v2,q.2= .nest e es v2)→∃e es ai e' aH,hp q.1=some (.nest e es ai)∧q.2= .nest e' aH (ai.map (· +1))))∧
   (∀q∈acc,q∈bk)∧∀(j:Nat) p,pl[j]? =some p→∃id b,p= .blk id∧(id,b)∈bk
 | [],bs,acc,k,r,rd,h=>⟨Nat.zero_le _,acc,rd,by simpa only[qb] using h,fun q hq=> .inl hq,fun q hq=>hq,fun j p hp=>by simp at hp⟩
 | .row _ _ _::pl,bs,acc,k,r,rd,h=>by
  cases bs<;>(simp only[qb] at h;cases h)
 | .blk id::pl,[],acc,k,r,rd,h=>by simp only[qb] at h;cases h
 | .blk id::pl,b::bs,acc,k,r,rd,h=>by
  have fin: ∀{b2:ag} {jg:List Nat},(qb σ pl bs ((id,b2)::acc) k).run C hp=some (r,jg)→gq σ b b2→((∃e es v2,b2= .nest e es v2)→∃e es ai e' aH,hp id=some (.nest e es ai)∧b2= .nest e' aH (ai.map (· +1)))→
    (Place.blk id::pl).length≤(b::bs).length∧∃bk fc,(k bk).run C hp=some (r,fc)∧(∀q∈bk,q∈acc∨∃(j:Nat) (b':ag),(Place.blk id::pl)[j]? =some (.blk q.1)∧(b::bs)[j]? =some b'∧gq σ b' q.2∧((∃e es v2,q.2= .nest e es v2)→∃e es ai e' aH,hp q.1=some (.nest e es ai)∧q.2= .nest e' aH (ai.map (· +1))))∧
     (∀q∈acc,q∈bk)∧∀(j:Nat) p,(Place.blk id::pl)[j]? =some p→∃id b,p= .blk id∧(id,b)∈bk:=by
   intro b2 jg h1 hb hn
   obtain ⟨a0,bk,fc,a1,a2,a3,a4⟩:=PU h1
   refine ⟨by simp only[List.length_cons];omega,bk,fc,a1,fun q hq=> ?_,fun q hq=>a3 q (List.mem_cons_of_mem _ hq),fun j p hj=> ?_⟩
   ·rcases a2 q hq with h|⟨j,b',k1,k2,k3,k4⟩
    ·rcases List.mem_cons.1 h with e|h
     ·subst e;exact .inr ⟨0,b,rfl,rfl,hb,hn⟩
     ·exact .inl h
    ·exact .inr ⟨j+1,b',by simpa using k1,by simpa using k2,k3,k4⟩
   ·cases j with
    | zero=>simp at hj;subst hj;exact ⟨id,b2,rfl,a3 _ (List.mem_cons_self ..)⟩
    | succ j=>exact a4 j p (by simpa using hj)
  cases b with
  | nest e es v=>
   simp only[qb] at h
   obtain ⟨l,h⟩:=run_get h
   cases ab:hp id with
   | none=>rw[ab] at h;cases h
   | some blk=>
    rw[ab] at h
    cases blk with
    | nest e0 HY ai=>exact fin h .nest fun _=>⟨e0,HY,ai,e,es,ab,rfl⟩
    | _=>cases h
  | dead=>exact fin h (.of σ _) fun ⟨_,_,_,h⟩=>by cases h
  | var T cs=>exact fin h (.of σ _) fun ⟨_,_,_,h⟩=>by cases h
  | arr e es fz=>exact fin h (.of σ _) fun ⟨_,_,_,h⟩=>by cases h
  | map t es=>exact fin h (.of σ _) fun ⟨_,_,_,h⟩=>by cases h
theorem PV {σ:List Place}: ∀{bs:List ag} {n:Nat} {q:Nat × ag},q∈qc σ n bs→∃i b,bs[i]? =some b∧q=(n+i,tj σ b)
 | [],n,q,h=>by simp[qc] at h
 | b::bs,n,q,h=>by
  simp only[qc,List.mem_cons] at h
  rcases h with h|h
  ·exact ⟨0,b,rfl,h⟩
  ·obtain ⟨i,b',h1,h2⟩:=PV h
   exact ⟨i+1,b',by simpa using h1,by rw[h2];congr 1;omega⟩
theorem PW {σ:List Place}: ∀{bs:List ag} {n i:Nat} {b:ag},bs[i]? =some b→(n+i,tj σ b)∈qc σ n bs
 | [],n,i,b,h=>by simp at h
 | b0::bs,n,i,b,h=>by
  simp only[qc,List.mem_cons]
  cases i with
  | zero=>simp at h;subst h;exact .inl rfl
  | succ i=>exact .inr (by rw[show n+(i+1)=n+1+i by omega];exact PW (by simpa using h))
theorem Ec: ∀{k n i:Nat},i<k→(rS n k)[i]? =some (.blk (n+i))
 | 0,n,i,h=>by omega
 | k+1,n,0,h=>rfl
 | k+1,n,i+1,h=>by
  simp only[rS,List.getElem?_cons_succ]
  rw[Ec (by omega)]
  congr 2
  omega
theorem Ja: ∀{k n:Nat},(rS n k).length=k
 | 0,_=>rfl
 | k+1,n=>by simp[rS,Ja]
theorem PX: ∀{bs:List (Nat × ag)} {k:Rd R} {r:R} {rd:List Nat},(Dh bs k).run C hp=some (r,rd)→(∀q∈bs,hp q.1=none)∧∃fc,k.run C hp=some (r,fc)
 | [],k,r,rd,h=>⟨by simp,rd,h⟩
 | (id,b)::l,k,r,rd,h=>by
  simp only[Dh] at h
  obtain ⟨l1,h⟩:=run_get h
  cases ab:hp id with
  | some blk=>rw[ab] at h;cases h
  | none=>
   rw[ab] at h
   obtain ⟨h1,h2⟩:=PX h
   refine ⟨fun q hq=> ?_,h2⟩
   rcases List.mem_cons.1 hq with e|hq
   ·subst e;exact ab
   ·exact h1 q hq
structure pr (σ:List Place) (b9:Nat→Option Nat) (bx:Nat→Option ag) (an:Nat→Option Nat) (hp':Nat→Option ag):Prop where
 blk: ∀j b,bx j=some b→∃id b',ew σ j=some (.blk id)∧hp' id=some b'∧gq σ b b'∧(b≠ .dead→an id=b9 j)
 none: ∀j,bx j=none→ew σ j=none
 akR: ∀j id ver path,ew σ j≠some (.row id ver path)
theorem pr.leaf {σ:List Place} (T:pr σ b9 bx an hp') {v:Value} {x:V} (h:ah P w I b9 bx v x):ah P w I an hp' v (jQ σ x):=by
 have look: ∀{j b},bx j=some b→∃id b',ew σ j=some (.blk id)∧hp' id=some b'∧gq σ b b'∧(b≠ .dead→an id=b9 j):=fun h=>T.blk _ _ h
 cases h with
 | undef=>exact .undef
 | int=>exact .int
 | bool=>exact .bool
 | str h=>exact .str h
 | list h=>exact .list h
 | nilS=>exact .nilS
 | agg=>exact .undef
 | bh=>exact .undef
 | dE=>exact .dE
 | fn=>exact .undef
 | pref a b c=>exact .pref a b c
 | @ey _ e j h=>
  obtain ⟨id,b',k1,k2,k3,k4⟩:=look h
  simp only[jQ,k1]
  cases k3
  exact .ey k2
 | @gk _ e j _ _ h=>
  obtain ⟨id,b',k1,k2,k3,k4⟩:=look h
  simp only[jQ,k1]
  cases k3
  exact .gk k2
 | @jT _ j _ _ h=>
  obtain ⟨id,b',k1,k2,k3,k4⟩:=look h
  simp only[jQ,k1]
  cases k3
  exact .jT k2
 | @dU e j fz _ h hb=>
  obtain ⟨id,b',k1,k2,k3,k4⟩:=look h
  simp only[jQ,k1]
  cases k3
  exact .dU k2 ((k4 (by simp)).trans hb)
 | @whole e j es fz b cap h hb a1 a2 a3=>
  obtain ⟨id,b',k1,k2,k3,k4⟩:=look h
  simp only[jQ,k1]
  cases k3
  exact .whole k2 ((k4 (by simp)).trans hb) a1 a2 a3
 | @eH e j es ai b cap h hb a1 a2 a3=>
  obtain ⟨id,b',k1,k2,k3,k4⟩:=look h
  simp only[jQ,k1]
  cases k3
  exact .eH k2 ((k4 (by simp)).trans hb) a1 a2 a3
 | @fT e j fz _ h hb=>
  obtain ⟨id,b',k1,k2,k3,k4⟩:=look h
  simp only[jQ,k1]
  cases k3
  exact .fT k2 ((k4 (by simp)).trans hb)
 | @sub e j off len es fz b o cap h hb a1 a2 a3=>
  obtain ⟨id,b',k1,k2,k3,k4⟩:=look h
  simp only[jQ,k1]
  cases k3
  exact .sub k2 ((k4 (by simp)).trans hb) a1 a2 a3
 | @ptr j i c b blk h hd hb=>
  obtain ⟨id,b',k1,k2,k3,k4⟩:=look h
  simp only[jQ,k1]
  have hs:blk.sz P=b'.sz P:=by cases k3<;>rfl
  rw[hs]
  exact .ptr k2 (by intro e;subst e;cases k3;exact hd rfl) ((k4 hd).trans hb)
 | jr=>exact .undef
 | js=>exact .undef
 | row=>exact .undef
 | cG=>exact .undef
 | dF=>exact .dF
 | @ic _ t j h=>
  obtain ⟨id,b',k1,k2,k3,k4⟩:=look h
  simp only[jQ,k1]
  cases k3
  exact .ic k2
 | @bX t j b es h hb=>
  obtain ⟨id,b',k1,k2,k3,k4⟩:=look h
  simp only[jQ,k1]
  cases k3
  exact .bX k2 ((k4 (by simp)).trans hb)
theorem pr.one {σ:List Place} (T:pr σ b9 bx an hp') {v:Value} {x:V} (h:ah P w I b9 bx v x):ah P w I an hp' v (HL σ x):=by
 cases x with
 | agg xs=>
  obtain ⟨cs,rfl,e1,e2⟩:=h.kB
  exact .agg (by simpa using e1) fun j v y hj hy=>by
   rw[List.getElem?_map] at hy
   cases hx:xs[j]? with
   | none=>rw[hx] at hy;cases hy
   | some x=>rw[hx] at hy;cases hy;exact T.leaf (e2 j v x hj hx)
 | fn f a b=>
  cases h with
  | fn a1 a2 b1 b2=>
   refine .fn (by simpa using a1) (fun j v y hj hy=> ?_) (by simpa using b1) (fun j v y hj hy=> ?_)
   ·rw[List.getElem?_map] at hy
    cases hx:a[j]? with
    | none=>rw[hx] at hy;cases hy
    | some x=>rw[hx] at hy;cases hy;exact T.leaf (a2 j v x hj hx)
   ·rw[List.getElem?_map] at hy
    cases hx:b[j]? with
    | none=>rw[hx] at hy;cases hy
    | some x=>rw[hx] at hy;cases hy;exact T.leaf (b2 j v x hj hx)
 | _=>exact T.leaf h
theorem pr.val {σ:List Place} (T:pr σ b9 bx an hp') {v:Value} {x:V} (h:ah P w I b9 bx v x):ah P w I an hp' v (Dg σ x):=by
 cases x with
 | bh xs=>
  obtain ⟨cs,rfl,e1,e2⟩:=h.tD
  exact .bh (by simpa using e1) fun j v y hj hy=>by
   rw[List.getElem?_map] at hy
   cases hx:xs[j]? with
   | none=>rw[hx] at hy;cases hy
   | some x=>rw[hx] at hy;cases hy;exact T.one (e2 j v x hj hx)
 | _=>exact T.one h
theorem pr.PY {σ:List Place} (T:pr σ b9 bx an hp') {o:Option Nat} {b b':ag} (h:eh P w I b9 bx o b) (hb:gq σ b b'):eh P w I an hp' o b':=by
 cases hb with
 | dead=>exact .dead
 | var=>
  cases h with
  | var a1 a2 a3 a4 a5 a6=>
   refine .var a1 a2 (by simpa using a3) a4 (fun j v y hj hy=> ?_) a6
   rw[List.getElem?_map] at hy
   cases hx:(_:List V)[j]? with
   | none=>rw[hx] at hy;cases hy
   | some x=>rw[hx] at hy;cases hy;exact T.val (a5 j v x hj hx)
 | arr=>
  cases h with
  | dV hb=>exact .dV hb
  | arr a1 a2 a3 a4 a5 a6 a7=>exact .arr a1 a2 a3 a4 a5 a6 a7
 | nest=>
  cases h with
  | nest a1 a2 a3=>exact .nest a1 a2 a3
 | map=>
  cases h with
  | map a1 a2 a3 a4 a5 a6 a7=>exact .map a1 a2 a3 a4 a5 a6 a7
theorem gq.tX {σ:List Place} {o:Option Nat} {b b':ag} (h:gq σ b b') {m:Nat} (ho:bA P w o b' m):bA P w o b m:=by
 cases h with
 | dead=>exact absurd rfl ho.alive
 | var=>exact .root (by simp) (ho.flat (by simp))
 | arr=>exact .root (by simp) (ho.flat (by simp))
 | map=>exact .root (by simp) (ho.flat (by simp))
 | nest=>
  cases ho with
  | root _ hb=>exact .root (by simp) hb
  | row hb ha=>exact .row hb ha
theorem gq.PZ {σ:List Place} {b b':ag} (h:gq σ b b'):b'≠ .dead→b≠ .dead:=by
 intro h1 h2;subst h2;cases h;exact h1 rfl
end
section
variable {P:Program} {A:cH} {w w':World} {I I' I2:Nat→Prop} {μ β an b9:Nat→Option Nat} {hp hp' hp0 bx:Nat→Option ag} {C:ae} {B:Nat} {M:Nat→Prop} {w0:Start}
theorem P0: ∀{vs:List Nat} {k:Nat},k<vs.length→bD (vs.map (· +1)) k=bD vs k+1
 | [],k,h=>by simp at h
 | v::vs,0,h=>rfl
 | v::vs,k+1,h=>by simp only[List.map_cons,bD];exact P0 (by simpa using h)
theorem P1: ∀{vs:List Nat} {k:Nat},bD vs k≤bD (vs.map (· +1)) k
 | [],k=>by simp[bD]
 | v::vs,0=>by simp[bD]
 | v::vs,k+1=>by simp only[List.map_cons,bD];exact P1
def zh (hp:Nat→Option ag) (q:Nat × ag):Prop:=(∃e es v2,q.2= .nest e es v2)→∃e es ai e' aH,hp q.1=some (.nest e es ai)∧q.2= .nest e' aH (ai.map (· +1))
theorem eo.Jb {id:Nat} {o:Option Nat} {blk:ag} (h:eo P w β hp (.blk id) o blk):o=β id∧∃b0,hp id=some b0∧b0≠ .dead:=by
 cases h with
 | var h=>exact ⟨rfl,_,h,by simp⟩
 | arr h=>exact ⟨rfl,_,h,by simp⟩
 | nest h=>exact ⟨rfl,_,h,by simp⟩
 | map h=>exact ⟨rfl,_,h,by simp⟩
theorem eo.aaJ {id:Nat} {o:Option Nat} {c b b' b0:ag} {σ:List Place} (h:eo P w β hp (.blk id) o c) (h0:hp id=some b0) (hle:c.le b) (hb:gq σ b b') (hn:zh hp (id,b')):b0.le b':=by
 cases h with
 | var h=>
  rw[h] at h0;cases h0
  cases hb with
  | dead=>trivial
  | var=>trivial
  | arr=>exact hle.elim
  | nest=>exact hle.elim
  | map=>exact hle.elim
 | arr h=>
  rw[h] at h0;cases h0
  cases hb with
  | dead=>trivial
  | var=>exact hle.elim
  | arr=>exact hle
  | nest=>exact hle.elim
  | map=>exact hle.elim
 | map h=>
  rw[h] at h0;cases h0
  cases hb with
  | dead=>trivial
  | map=>exact hle
  | _=>exact hle.elim
 | nest h=>
  rw[h] at h0;cases h0
  cases hb with
  | dead=>trivial
  | var=>exact hle.elim
  | arr=>exact hle
  | map=>exact hle.elim
  | @nest e es v1 v2=>
   obtain ⟨e1,cm,tY,e2,cb,k1,k2⟩:=hn ⟨_,_,_,rfl⟩
   cases k2
   change hp id=_ at k1
   rw[h] at k1;cases k1
   exact ⟨hle.1,hle.2.1,by simp,fun k=>P1⟩
theorem eo.other {p:Place} {o:Option Nat} {blk:ag} (h:eo P w β hp p o blk) (he:hp' p.id=hp p.id):eo P w β hp' p o blk:=by
 cases h with
 | var h=>exact .var (he.trans h)
 | arr h=>exact .arr (he.trans h)
 | nest h=>exact .nest (he.trans h)
 | map h=>exact .map (he.trans h)
 | row h a b c d e f g=>exact .row (he.trans h) a b c d e f g
open Classical in
theorem P2 (S:aD P w I β hp B M w0) {pl:List Place} {o:Nat→Option Nat} {bs:List ag} {nb:Nat} {bk fr:List (Nat × ag)} {σ:List Place} (qA:σ=pl++rS nb (bs.length-pl.length)) (zi:fr=qc σ nb (bs.drop pl.length))
  (j4:(pl.map Place.id).Nodup) (qk:pl.length≤bs.length)
  (Ee: ∀(j:Nat) p,pl[j]? =some p→∃id b,p= .blk id∧(id,b)∈bk) (Ef: ∀q∈bk,∃(j:Nat) (b:ag),pl[j]? =some (.blk q.1)∧bs[j]? =some b∧gq σ b q.2∧zh hp q)
  (hl: ∀j blk,hp0 j=some blk→∃p,ew pl j=some p∧eo P w β hp p (o j) blk) (hd: ∀j,j<pl.length→∃blk,hp0 j=some blk)
  (Sc:aD P w' I2 b9 (jq bs) w.heap.size (ov P w o hp0) ⟨w,I⟩) (wu:kF w I o hp0 w' I2 b9 (jq bs)) (sm: ∀q∈fr,hp q.1=none):
  ∃an,Le P w I β hp w' I2 an (bN hp (fr++bk))∧aD P w' I2 an (bN hp (fr++bk)) B M w0∧pr σ b9 (jq bs) an (bN hp (fr++bk)):=by
 generalize Jc:bN hp (fr++bk)=gM
 let an:Nat→Option Nat:=fun n=>if∃q∈fr,q.1=n then b9 (pl.length+(n-nb)) else β n
 have P4: ∀(j:Nat) id,pl[j]? =some (.blk id)→∃c,hp0 j=some c∧eo P w β hp (.blk id) (o j) c:=by
  intro j id hj
  obtain ⟨c,hc⟩:=hd j (List.getElem?_eq_some_iff.1 hj).1
  obtain ⟨p,h1,h2⟩:=hl j c hc
  rw[lk,hj] at h1
  cases h1
  exact ⟨c,hc,h2⟩
 have uniq: ∀(j1 j2:Nat) id,pl[j1]? =some (.blk id)→pl[j2]? =some (.blk id)→j1=j2:=by
  intro j1 j2 id h1 h2
  have m1:(pl.map Place.id)[j1]? =some id:=by rw[List.getElem?_map,h1];rfl
  have m2:(pl.map Place.id)[j2]? =some id:=by rw[List.getElem?_map,h2];rfl
  obtain ⟨z1,z2⟩:=List.getElem?_eq_some_iff.1 m1
  obtain ⟨z3,z4⟩:=List.getElem?_eq_some_iff.1 m2
  exact (List.getElem_inj j4).1 (z2.trans z4.symm)
 have cls: ∀id,(∃i b,id=nb+i∧bs[pl.length+i]? =some b∧gM id=some (tj σ b)∧hp id=none∧an id=b9 (pl.length+i))∨
   (∃(j:Nat) (b b' c b0:ag),pl[j]? =some (.blk id)∧bs[j]? =some b∧hp0 j=some c∧eo P w β hp (.blk id) (o j) c∧hp id=some b0∧b0.le b'∧gM id=some b'∧gq σ b b'∧zh hp (id,b')∧an id=β id∧c.le b∧(b≠ .dead→b9 j=β id))∨
   (gM id=hp id∧(∀j:Nat,pl[j]? ≠some (.blk id))∧an id=β id):=by
  intro id
  by_cases hm: ∃b,(id,b)∈fr++bk
  ·obtain ⟨b,hm⟩:=hm
   obtain ⟨b',yK,he⟩:=Dr (hp:=hp) hm
   rw[Jc] at he
   rcases List.mem_append.1 yK with h|h
   ·have h0:=sm _ h
    have ox:an id=b9 (pl.length+(id-nb)):=if_pos ⟨_,h,rfl⟩
    rw[zi] at h
    obtain ⟨i,b1,k1,k2⟩:=PV h
    rw[List.getElem?_drop] at k1
    cases k2
    exact .inl ⟨i,b1,rfl,k1,he,h0,by rw[ox];congr 2;omega⟩
   ·obtain ⟨j,b1,q1,q2,q3,q4⟩:=Ef _ h
    obtain ⟨c,c1,c2⟩:=P4 j id q1
    obtain ⟨c3,b0,c4,c5⟩:=c2.Jb
    obtain ⟨b2,d1,d2,d3⟩:=wu.blk j c c1
    rw[gQ,q2] at d1
    cases d1
    refine .inr (.inl ⟨j,b1,b',c,b0,q1,q2,c1,c2,c4,c2.aaJ c4 d2 q3 q4,he,q3,q4,if_neg ?_,d2,fun h=>(d3 h).trans c3⟩)
    rintro ⟨q,hq,hqe⟩
    rw[←hqe,sm q hq] at c4
    cases c4
  ·refine .inr (.inr ⟨?_,fun j hj=> ?_,if_neg ?_⟩)
   ·rcases tA (hp:=hp) (l:=fr++bk) (id:=id) with h|⟨b,hb,_⟩
    ·rw[Jc] at h;exact h
    ·exact absurd ⟨b,hb⟩ hm
   ·obtain ⟨aB,b,e,hb⟩:=Ee j _ hj
    cases e
    exact hm ⟨b,List.mem_append.2 (.inr hb)⟩
   ·rintro ⟨q,hq,rfl⟩
    exact hm ⟨q.2,List.mem_append.2 (.inl hq)⟩
 have P5: ∀b,ov P w o hp0 b→∃(j id:Nat) (b1:ag),pl[j]? =some (.blk id)∧hp id=some b1∧bA P w (β id) b1 b∧∀e es,b1≠ .arr e es true:=by
  rintro b ⟨j,c,hc,ho⟩
  obtain ⟨p,h1,h2⟩:=hl j c hc
  rw[lk] at h1
  obtain ⟨id,b2,rfl,_⟩:=Ee j p h1
  obtain ⟨b1,k1,k2,k3⟩:=h2.tX ho
  exact ⟨j,id,b1,h1,k1,k2,k3⟩
 have other: ∀id blk b,hp id=some blk→bA P w (β id) blk b→(∀j:Nat,pl[j]? ≠some (.blk id))→¬ov P w o hp0 b∧w'.heap[b]? =w.heap[b]? ∧(I2 b→I b):=by
  intro id blk b e1 e3 e4
  have oy: ¬ov P w o hp0 b:=by
   intro hx
   obtain ⟨j,aB,b1,i1,i2,i3,_⟩:=P5 b hx
   have:=S.h.inj id aB _ _ b e1 i2 e3 i3
   subst this
   exact e4 j i1
  have aR:=S.h.lt e1 e3
  refine ⟨oy,Sc.cg b aR oy,fun h=> ?_⟩
  rcases Sc.new b h with h|h|h
  ·exact h
  ·exact absurd h oy
  ·omega
 have sd:pr σ b9 (jq bs) an gM:=by
  refine ⟨fun j b hj=> ?_,fun j hj=> ?_,fun j id ver path hj=> ?_⟩
  ·rw[gQ] at hj
   by_cases dg:j<pl.length
   ·obtain ⟨id,b1,e,lg⟩:=Ee j _ (List.getElem?_eq_getElem dg)
    have Eg:pl[j]? =some (.blk id):=by rw[List.getElem?_eq_getElem dg,e]
    have Jd:ew σ j=some (.blk id):=by rw[qA];exact ot (by rw[lk];exact Eg)
    rcases cls id with ⟨i,b2,c1,c2,c3,c4,c5⟩|⟨j',b2,b',c,b0,q1,q2,q3,q4,q5,q6,q7,q8,q9,pt,wv,qB⟩|⟨c1,c2,c3⟩
    ·obtain ⟨c,d1,d2⟩:=P4 j id Eg
     obtain ⟨_,b0,d3,_⟩:=d2.Jb
     rw[d3] at c4;cases c4
    ·obtain rfl:=uniq _ _ _ q1 Eg
     rw[hj] at q2;cases q2
     exact ⟨id,b',Jd,q7,q8,fun h=>pt.trans (qB h).symm⟩
    ·exact absurd Eg (c2 j)
   ·have P6:=(List.getElem?_eq_some_iff.1 hj).1
    have Jd:ew σ j=some (.blk (nb+(j-pl.length))):=by
     rw[qA,lk,List.getElem?_append_right (by omega)]
     exact Ec (by omega)
    have hm:(nb+(j-pl.length),tj σ b)∈fr:=by
     rw[zi]
     refine PW ?_
     rw[List.getElem?_drop,show pl.length+(j-pl.length)=j by omega]
     exact hj
    rcases cls (nb+(j-pl.length)) with ⟨i,b2,c1,c2,c3,c4,c5⟩|⟨j',b2,b',c,b0,q1,q2,q3,q4,q5,q6,q7,q8,q9,pt,wv,qB⟩|⟨c1,c2,c3⟩
    ·have hi:i=j-pl.length:=by omega
     subst hi
     rw[show pl.length+(j-pl.length)=j by omega] at c2 c5
     rw[hj] at c2;cases c2
     exact ⟨_,_,Jd,c3,.of σ _,fun _=>c5⟩
    ·rw[sm _ hm] at q5;cases q5
    ·obtain ⟨b',yK,he⟩:=Dr (hp:=hp) (l:=fr++bk) (List.mem_append.2 (.inl hm))
     rw[Jc,c1,sm _ hm] at he
     cases he
  ·rw[gQ] at hj
   have:=List.getElem?_eq_none_iff.1 hj
   rw[qA,lk,List.getElem?_eq_none_iff,List.length_append,Ja]
   omega
  ·rw[qA,lk] at hj
   by_cases dg:j<pl.length
   ·rw[List.getElem?_append_left dg] at hj
    obtain ⟨aB,b1,e,_⟩:=Ee j _ hj
    cases e
   ·have P6:j-pl.length<bs.length-pl.length:=by
     have:=(List.getElem?_eq_some_iff.1 hj).1
     rw[List.length_append,Ja] at this
     omega
    rw[List.getElem?_append_right (by omega),Ec P6] at hj
    cases hj
 have hle:Le P w I β hp w' I2 an gM:=by
  refine ⟨wu.dz,wu.cg,fun id blk ab=> ?_,fun id blk blk' b ab bE qC hb=> ?_,fun id e es ai e' aH vers' b q i c t v e1 l ab bE hb aR hv ht hc=> ?_⟩
  ·rcases cls id with ⟨i,b2,c1,c2,c3,c4,c5⟩|⟨j',b2,b',c,b0,q1,q2,q3,q4,q5,q6,q7,q8,q9,pt,wv,qB⟩|⟨c1,c2,c3⟩
   ·rw[ab] at c4;cases c4
   ·rw[ab] at q5;cases q5
    exact ⟨b',q7,q6,fun _=>pt⟩
   ·exact ⟨blk,c1.trans ab,ag.le_refl _,fun _=>c3⟩
  ·rcases cls id with ⟨i,b2,c1,c2,c3,c4,c5⟩|⟨j',b2,b',c,b0,q1,q2,q3,q4,q5,q6,q7,q8,q9,pt,wv,qB⟩|⟨c1,c2,c3⟩
   ·rw[ab] at c4;cases c4
   ·rw[q7] at bE;cases bE
    exact wu.size j' c b2 b q3 (by rw[gQ];exact q2) (q8.PZ qC) (q4.Jb.1.trans hb)
   ·rw[c1,ab] at bE
    cases bE
    simp only[bsize,(other id blk b ab (.root qC hb) c2).2.1]
  ·rcases cls id with ⟨i2,b2,c1,c2,c3,c4,c5⟩|⟨j',b2,b',c',b0,q1,q2,q3,q4,q5,q6,q7,q8,q9,pt,wv,qB⟩|⟨c1,c2,c3⟩
   ·rw[ab] at c4;cases c4
   ·rw[q7] at bE;cases bE
    obtain ⟨_,_,tY,_,_,k1,k2⟩:=q9 ⟨_,_,_,rfl⟩
    change hp id=_ at k1
    rw[ab] at k1;cases k1
    cases k2
    rw[P0 aR] at hv
    omega
   ·rw[c1,ab] at bE
    cases bE
    exact ⟨l,rfl,hc.mono fun _ _ _ _ h=>(other id _ _ ab (.row hb h) c2).2.1⟩
 have place: ∀id blk b,gM id=some blk→bA P w' (an id) blk b→(∃j c,jq bs j=some c∧bA P w' (b9 j) c b∧ew σ j=some (.blk id))∨(b<w.heap.size∧¬ov P w o hp0 b∧hp id=some blk∧bA P w (β id) blk b):=by
  intro id blk b e1 e3
  rcases cls id with ⟨i,b2,c1,c2,c3,c4,c5⟩|⟨j',b2,b',c,b0,q1,q2,q3,q4,q5,q6,q7,q8,q9,pt,wv,qB⟩|⟨c1,c2,c3⟩
  ·rw[c3] at e1;cases e1
   rw[c5] at e3
   refine .inl ⟨pl.length+i,b2,by rw[gQ];exact c2,(gq.of σ b2).tX e3,?_⟩
   have:=(List.getElem?_eq_some_iff.1 c2).1
   rw[qA,lk,List.getElem?_append_right (by omega),Ec (by omega),c1]
   congr 3
   omega
  ·rw[q7] at e1;cases e1
   have qC:b2≠ .dead:=q8.PZ e3.alive
   rw[pt,←qB qC] at e3
   exact .inl ⟨j',b2,by rw[gQ];exact q2,q8.tX e3,by rw[qA];exact ot (by rw[lk];exact q1)⟩
  ·rw[c1] at e1
   rw[c3] at e3
   have:=e3.mono (w:=w) fun b hb=>(other id blk b e1 hb c2).2.1
   exact .inr ⟨S.h.lt e1 this,(other id blk b e1 this c2).1,e1,this⟩
 have rW: ∀b,ov P w o hp0 b∨w.heap.size≤b→M b∨B≤b:=by
  rintro b (h|h)
  ·obtain ⟨j,id,b1,i1,i2,i3,_⟩:=P5 b h
   exact S.h.own id b1 b i2 i3
  ·exact .inr (Nat.le_trans S.size h)
 have Je: ∀j c b,jq bs j=some c→bA P w' (b9 j) c b→ov P w o hp0 b∨w.heap.size≤b:=fun j c b h1 h2=>Sc.h.own j c b h1 h2
 refine ⟨an,hle,⟨⟨fun id blk ab=> ?_,fun i1 i2 b1 b2 b e1 e2 f1 f2=> ?_,fun id blk b ab hb=> ?_,Sc.h.jt⟩,fun b hb hM=> ?_,Nat.le_trans S.size Sc.size,fun b hb=> ?_,⟨Sc.io.1.trans S.io.1,Sc.io.2.trans S.io.2⟩⟩,sd⟩
 ·rcases cls id with ⟨i,b2,c1,c2,c3,c4,c5⟩|⟨j',b2,b',c,b0,q1,q2,q3,q4,q5,q6,q7,q8,q9,pt,wv,qB⟩|⟨c1,c2,c3⟩
  ·rw[c3] at ab;cases ab
   rw[c5]
   exact sd.PY (Sc.h.rel _ b2 (by rw[gQ];exact c2)) (.of σ b2)
  ·rw[q7] at ab;cases ab
   have:=sd.PY (Sc.h.rel j' b2 (by rw[gQ];exact q2)) q8
   by_cases qC:b2= .dead
   ·subst qC
    cases q8
    exact .dead
   ·rw[pt,←qB qC]
    exact this
  ·rw[c1] at ab
   rw[c3]
   exact (S.h.rel id blk ab).mono hle fun b hb=>(other id blk b ab hb c2).2
 ·rcases place i1 b1 b e1 f1 with ⟨j1,c1,g1,g2,g3⟩|⟨g1,g2,g3,g4⟩<;>rcases place i2 b2 b e2 f2 with ⟨j2,c2,k1,k2,k3⟩|⟨k1,k2,k3,k4⟩
  ·have:=Sc.h.inj j1 j2 c1 c2 b g1 k1 g2 k2
   subst this
   rw[g3] at k3
   cases k3
   rfl
  ·rcases Je j1 c1 b g1 g2 with h|h
   ·exact absurd h k2
   ·omega
  ·rcases Je j2 c2 b k1 k2 with h|h
   ·exact absurd h g2
   ·omega
  ·exact S.h.inj i1 i2 _ _ b g3 k3 g4 k4
 ·rcases place id blk b ab hb with ⟨j1,c1,g1,g2,g3⟩|⟨g1,g2,g3,g4⟩
  ·exact rW b (Je j1 c1 b g1 g2)
  ·exact S.h.own id blk b g3 g4
 ·refine (Sc.cg b (Nat.lt_of_lt_of_le hb S.size) fun hx=> ?_).trans (S.cg b hb hM)
  rcases rW b (.inl hx) with h|h
  ·exact hM h
  ·omega
 ·rcases Sc.new b hb with h|h|h
  ·exact S.new b h
  ·exact .inr (rW b (.inl h))
  ·exact .inr (rW b (.inr h))
end
section
variable {P:Program} {A:cH} {w w':World} {I I' I2:Nat→Prop} {μ β an b9:Nat→Option Nat} {hp hp' hp0 bx:Nat→Option ag} {C:ae} {B:Nat} {M:Nat→Prop} {w0:Start}
theorem P7 (hp:Nat→Option ag): ∀(a b:List (Nat × ag)),bN hp (a++b)=bN (bN hp b) a
 | [],b=>rfl
 | (i,x)::a,b=>by simp only[List.cons_append,bN,P7 hp a b]
theorem tZ {hp:Nat→Option ag} {l:List (Nat × ag)} {id:Nat} (h: ∀q∈l,q.1≠id):bN hp l id=hp id:=by
 rcases tA (hp:=hp) (l:=l) (id:=id) with h1|⟨b,hb,_⟩
 ·exact h1
 ·exact absurd rfl (h _ hb)
def wx (P : Program) : Prop := ∀ (f : Nat) fn, P.funcs[f]? = some fn → (fn.name == "runtime.NumGoroutine") = false
def Eh (P:Program) (f:FuncId) (e:TypeId):Prop:=
 (∀args w,(callFunc f args).run P w= .ok (.enter f args) w)∧∃t,P.underlying t=some (.slice e)∧
  ∀(s:Value) (w:World) (Q:Ending→World→Prop),(s= .slice none 0 0→Q (.returned (.slice none 0 0)) w)→
   (∀a n c,s= .slice (some a) n c→∃v w',(Builtin.append_ #[t,t] t #[.slice (some ⟨w.heap.size,0,none⟩) 0 0,s]).run P (w.alloc (.cells #[] e))= .ok v w'∧Q (.returned v) w')→
   (s= .slice none 0 0∨∃a n c,s= .slice (some a) n c)→Calls P f #[s] w Q
structure jh (P:Program) (A:cH):Prop where
 count:wx P
 ext: ∀f T,A.ext f=some T→∀(b:Nat) (C:Array Value) (w:World),w.heap[b]? =some (.cells C T (0,0))→C.size=P.cellsOf T→(C[0]? =some (.pointer none)∨C[0]? =some (.pointer (some ⟨b,0,none⟩)))→
  (callFunc f #[.pointer (some ⟨b,0,none⟩)]).run P w= .ok (.enter f #[.pointer (some ⟨b,0,none⟩)]) w∧
  Calls P f #[.pointer (some ⟨b,0,none⟩)] w fun e w'=>e= .returned (.tuple #[])∧(w'=w∨w'=w.setCell ⟨b,0,none⟩ (.pointer (some ⟨b,0,none⟩)))
 idle: ∀f,A.idle f=true→(∀args w,(callFunc f args).run P w= .ok (.enter f args) w)∧
  ∀args w,CallsD P f args .returning w fun e u' w'=>(∃v,e= .returned v)∧u'= .returning∧w'=w
 nX: ∀f e,A.nX f=some e→Eh P f e
theorem jh.here {P:Program} {A:cH} (h:jh P A) (f id:Nat):jh P (A.here f id):=⟨h.count,h.ext,h.idle,h.nX⟩
def zj (E:FuncId→Bool) (d:Deferred):Prop:= ∃f cap,d.target= .fn (.func f) cap∧E f=true
theorem Jf {P:Program} {A:cH} (hP:jh P A) {fn:Func} {tmps:Array Value} {R:Ending→World→Prop} {w:World} {v:Value} (hv:(results fn tmps).run P w= .ok v w) (hR:R (.returned v) w):
  ∀ds:List Deferred,(∀d∈ds,zj A.idle d)→Leaves P fn tmps R ds .returning w
 | [],_=>⟨v,hv,hR⟩
 | d::ds,h=>by
  obtain ⟨f,cap,ht,hf⟩:=h d (by simp)
  obtain ⟨k1,k2⟩:=hP.idle f hf
  obtain ⟨t,P8⟩:=d
  simp only at ht
  subst ht
  refine leaves_cons (f:=f) (args:=P8++cap) (by simp) ?_ ?_
  ·simp only[invoke];exact k1 _ w
  ·refine (k2 (P8++cap) w).mono fun e u' w' hr=> ?_
   obtain ⟨⟨v',rfl⟩,rfl,rfl⟩:=hr
   exact Jf hP hv hR ds fun d hd=>h d (List.mem_cons_of_mem _ hd)
def zk (P:Program) (A:cH) (o:Oper) (a:Act) (w:World) (I:Nat→Prop) (β:Nat→Option Nat) (hp:Nat→Option ag) (B:Nat) (M:Nat→Prop) (w0:Start) (r:R):Prop:=
 ∀(next:Act→World→Prop) (Q:Exit→Act→World→Prop),
  (∀v w' I' an ds,Le P w I β hp w' I' an (bN hp r.upd)→aD P w' I' an (bN hp r.upd) B M w0→ah P w' I' an (bN hp r.upd) v r.v→(∀d∈ds,d∈a.defers∨zj A.idle d)→next ({a with defers:=ds}.put o.dst v) w')→o.wp P a w next Q
theorem pb.step {o:Oper} {a:Act} {r:R} (h:pb P ((execOp a.eval o).run P w) w I β hp B M w0 r):zk P A o a w I β hp B M w0 r:=by
 obtain ⟨v,w',I',an,h1,h2,h3,h4⟩:=h
 intro next Q hn
 unfold Oper.wp
 rcases h1 with h1|⟨h1,rfl⟩
 ·rw[h1];exact hn v w' I' an a.defers h2 h3 h4 fun d hd=> .inl hd
 ·rw[h1];exact hn _ w' I' an a.defers h2 h3 h4 fun d hd=> .inl hd
theorem P9: ∀(l:List (Nat × VS)),nZ l=rR (l.map (·.2))
 | []=>rfl
 | (_,s)::l=>by simp only[nZ,List.map_cons,rR,P9 l]
theorem aaK (hC:kG P A C) (S:aD P w I β hp B M w0) (hg:gL P A.aC w I) {vals:List Value} {args:List V} {nb key:Nat} {f:FuncId} {r:R} {rd:List Nat} (hlen:vals.length=args.length)
  (cJ: ∀(j:Nat) v x,vals[j]? =some v→args[j]? =some x→ah P w I β hp v x) (h:(yo P A nb key f args).run C hp=some (r,rd)):
  ∃fn c,P.funcs[f]? =some fn∧fn.body=some c∧Calls P f vals.toArray w fun e w'=> ∃v I' an,e= .returned v∧Le P w I β hp w' I' an (bN hp r.upd)∧aD P w' I' an (bN hp r.upd) B M w0∧ah P w' I' an (bN hp r.upd) v r.v:=by
 unfold yo at h
 obtain ⟨Qa,h0⟩:=aE h
 clear h
 rw[Nat.beq_eq] at Qa
 subst Qa
 obtain ⟨h1,jg,d1,u1,a1,a2,a3,a5,a4⟩:=I7 S h0 hlen cJ
 obtain ⟨h2,sk,d2,u2,b1,b2,b3,b4⟩:=PM S a1
 clear h0 a1
 obtain ⟨hc,h3⟩:=aE b1
 clear b1
 simp only[Bool.and_eq_true,Nat.beq_eq,Bool.not_eq_true'] at hc
 obtain ⟨fa,ow⟩:=hc
 have sq:=a2.trans b2
 have kU:h2.ds=d1++d2:=by have:=sq.ds;simpa using this
 have Ei:h2.upd=u1++u2:=by have:=sq.upd;simpa using this
 have j4:(h2.pl.map Place.id).Nodup:=sq.nodup (by simp)
 obtain ⟨c1,o,c2,c3⟩:=b4 []
 simp only[List.append_nil] at c1 c2 c3
 cases zl:C key h2.ds with
 | none=>
  simp only[Rd.run,zl] at h3
  cases h3
 | some es=>
  have qh: ∃fc,(yn P (A.so key es) nb h2 (A.lv key es)).run C hp=some (r,fc):=by
   obtain ⟨x,hx,e⟩:=bind_some h3
   rw[zl] at hx
   cases hx
   unfold cH.so cH.lv
   cases ch:A.alt key with
   | none=>rw[ch] at e;exact ⟨_,e⟩
   | some S2=>
    rw[ch] at e
    simp only[Rd.run] at e
    cases hb:(V.nth es 0).toBool<;>(rw[hb] at e;exact ⟨_,e⟩)
  clear h3
  obtain ⟨fc,h3⟩:=qh
  unfold yn at h3
  simp only at h3
  generalize gN:eV (A.so key es).a8 ((A.lv key es).drop (nZ (A.so key es).bI))=bs at h3
  generalize qA:h2.pl++rS nb (bs.length-h2.pl.length)=σ at h3
  generalize zi:qc σ nb (bs.drop h2.pl.length)=fr at h3
  obtain ⟨p0,bk,rd4,p1,p2,_,p3⟩:=PU h3
  obtain ⟨sm,rd5,p4⟩:=PX p1
  obtain rfl:=aI p4
  have qk:h2.pl.length≤bs.length:=by rw[List.length_take] at p0;omega
  have Ef: ∀q∈bk,∃(j:Nat) (b:ag),h2.pl[j]? =some (.blk q.1)∧bs[j]? =some b∧gq σ b q.2∧zh hp q:=by
   intro q hq
   rcases p2 q hq with hx|⟨j,b,k1,k2,k3,k4⟩
   ·simp at hx
   ·have hj:=(List.getElem?_eq_some_iff.1 k1).1
    rw[List.getElem?_take_of_lt hj] at k2
    exact ⟨j,b,k1,k2,k3,k4⟩
  obtain ⟨fn,c,hf,hb,Jg⟩:=hC key h2.ds es zl
  refine ⟨fn,c,hf,hb,?_⟩
  have hmb:eV (A.sin key).a8 (h2.ds.drop (nZ (A.sin key).bI))=eV (A.sin key).a8 d2:=by
   rw[kU,P9,m8 a3]
  have Jh:(bq (A.sin key) h2.ds).hp=jq (eV (A.sin key).a8 d2):=by
   simp only[bq,mk,hmb]
  have hl: ∀j blk,(bq (A.sin key) h2.ds).hp j=some blk→∃p,ew h2.pl j=some p∧eo P w β hp p (o j) blk:=by
   intro j blk hj
   rw[Jh,gQ] at hj
   obtain ⟨p,k1,k2⟩:=c2 j blk hj
   rw[Nat.zero_add] at k1
   exact ⟨p,k1,k2⟩
  have hd: ∀j,j<h2.pl.length→∃blk,(bq (A.sin key) h2.ds).hp j=some blk:=by
   intro j hj
   rw[Jh,gQ]
   exact ⟨_,List.getElem?_eq_getElem (by rw[c1,←fa];exact hj)⟩
  have Qb:zd P w β hp h2.pl o (bq (A.sin key) h2.ds).hp:=by
   intro j p hj
   obtain ⟨blk,k1⟩:=hd j (by rw[lk] at hj;exact (List.getElem?_eq_some_iff.1 hj).1)
   obtain ⟨p',k2,k3⟩:=hl j blk k1
   rw[hj] at k2
   cases k2
   exact ⟨blk,k1,k3⟩
  obtain ⟨qq,S1⟩:=yJ S sq.D6
  rw[←Ei] at qq S1
  have i1: ∀b,I b→iI P w I β hp h2.upd b:=fun b h=> .inl h
  have entry:=aaF (hp0:=(bq (A.sin key) h2.ds).hp) S j4 ow hl (fun cW j blk hj=>by
   have gA:=hj
   rw[Jh,gQ] at gA
   exact c3 (iI P w I β hp h2.upd) o _ i1 (fun q hq b hb=> .inr ⟨q,by rw[Ei];exact List.mem_append.2 (.inr hq),hb⟩) h2.pl [] (by simp) Qb j blk gA (cW j blk hj)) S1.h.jt
  have aaL:vals.length=(A.sin key).bI.length:=by rw[hlen,←a5];simp
  have ha:=Jg w (iI P w I β hp h2.upd) o vals entry (hg.mono i1 fun _ _=>rfl) aaL fun j v x hj hx=>by
   rw[kU] at hx
   exact (((a4.later b2) (iI P w I β hp h2.upd) o _ i1 (fun q hq b hb=> .inr ⟨q,by rw[Ei];exact hq,hb⟩) h2.pl [] (by simp) Qb) d2).2 j v x hj hx
  refine ha.mono fun e w' zm=> ?_
  obtain ⟨v,I2,b9,rfl,ha⟩:=zm
  have wy:(bq (A.so key es) (A.lv key es)).hp=jq bs:=by simp only[bq,mk,gN]
  cases aaM:(A.so key es).safe P with
  | true=>
   simp only[cond_true,List.append_nil]
   have jf: ∀b,I b→I2 b:=fun b h=>ha.le.dz b (i1 b h)
   obtain ⟨s1,s2⟩:=aaI aaM jf ha.wq i1
   have wu:kF w I o (bq (A.sin key) h2.ds).hp w' I b9 (jq bs):=by
    rw[←wy]
    exact ⟨fun _ h=>h,fun b h=>ha.le.cg b (i1 b h),ha.le.blk,ha.le.size⟩
   obtain ⟨an,k1,k2,k3⟩:=P2 S qA.symm zi.symm j4 qk p3 Ef hl hd (by rw[←wy];exact ⟨s1.h,s1.cg,s1.size,fun b h=> .inl h,s1.io⟩) wu sm
   exact ⟨v,I,an,rfl,k1,k2,k3.val (by have:=s2 v ha.res;rw[wy] at this;exact this)⟩
  | false=>
   simp only[cond_false]
   rw[←List.append_assoc,P7]
   have oy: ∀p∈h2.pl,bN hp h2.upd p.id=hp p.id:=fun p hp=>tZ fun q hq e=>
    Eb ow (List.mem_map.2 ⟨q,hq,rfl⟩) (e▸List.mem_map.2 ⟨p,hp,rfl⟩)
   have aaN: ∀q∈bk,∃(j:Nat) (b:ag),h2.pl[j]? =some (.blk q.1)∧bs[j]? =some b∧gq σ b q.2∧zh (bN hp h2.upd) q:=by
    intro q hq
    obtain ⟨j,b,k1,k2,k3,k4⟩:=Ef q hq
    refine ⟨j,b,k1,k2,k3,fun hn=> ?_⟩
    have:=oy _ (List.mem_of_getElem? k1)
    simp only[Place.id] at this
    rw[this]
    exact k4 hn
   have vM: ∀j blk,(bq (A.sin key) h2.ds).hp j=some blk→∃p,ew h2.pl j=some p∧eo P w β (bN hp h2.upd) p (o j) blk:=by
    intro j blk hj
    obtain ⟨p,k1,k2⟩:=hl j blk hj
    exact ⟨p,k1,k2.other (oy p (by rw[lk] at k1;exact List.mem_of_getElem? k1))⟩
   have aaO: ∀q∈fr,bN hp h2.upd q.1=none:=by
    intro q hq
    rw[tZ fun q' ca e=> ?_]
    ·exact sm q hq
    ·obtain ⟨e1,cm,_,h5⟩:=sq.D6 q' (Ei▸ca)
     rw[e,sm q hq] at h5
     rcases h5 with ⟨_,h5⟩|⟨_,h5⟩<;>cases h5
   obtain ⟨an,k1,k2,k3⟩:=P2 S1 qA.symm zi.symm j4 qk p3 aaN vM hd (by rw[←wy];exact ha.wq) (by rw[←wy];exact ha.le) aaO
   exact ⟨v,I2,an,rfl,qq.trans k1,k2,k3.val (by have:=ha.res;rw[wy] at this;exact this)⟩
theorem Qc (hC:kG P A C) (hP:jh P A) (S:aD P w I β hp B M w0) (hg:gL P A.aC w I) {a:Act} {nb key:Nat} {o:Oper} {f:FuncId} {vals:List Value} {args:List V} (hlen:vals.length=args.length)
  (cJ: ∀(j:Nat) v x,vals[j]? =some v→args[j]? =some x→ah P w I β hp v x) {r:R} {rd:List Nat} (h:(yo P A nb key f args).run C hp=some (r,rd))
  (hex:(execOp a.eval o).run P w=(callFunc f vals.toArray).run P w):zk P A o a w I β hp B M w0 r:=by
 intro next Q hn
 obtain ⟨fn,c,hf,hb,Jg⟩:=aaK hC S hg hlen cJ h
 unfold Oper.wp
 rw[hex,MuLone.run_callFunc_enter hf (hP.count f _ hf) hb,Oper.upon_enter]
 refine Jg.mono fun e w' zm=> ?_
 obtain ⟨v,I2,b9,rfl,k1,k2,k3⟩:=zm
 exact hn v w' I2 b9 a.defers k1 k2 k3 fun d hd=> .inl hd
theorem kz.args {a:Act} {sl:Nat→V} (hs:kz P w I β hp a sl) (hg:gL P A.aC w I) {args:Array Operand} {ts:Array TypeId} (aZ:args.size=ts.size):
  (args.map a.eval).toList.length=((args.toList.zip ts.toList).map fun p=>aJ P A.aC p.2 sl p.1).length∧
  ∀(j:Nat) v x,(args.map a.eval).toList[j]? =some v→((args.toList.zip ts.toList).map fun p=>aJ P A.aC p.2 sl p.1)[j]? =some x→ah P w I β hp v x:=by
 refine ⟨by simp;omega,fun j v x hv hx=> ?_⟩
 simp only[Array.toList_map,List.getElem?_map,List.getElem?_zip_eq_some,Option.map_eq_some_iff] at hv hx
 obtain ⟨x1,zn,rfl⟩:=hv
 obtain ⟨⟨y1,t1⟩,⟨Ji,_⟩,rfl⟩:=hx
 rw[zn] at Ji
 cases Ji
 exact hs.ev hg t1 _
theorem Qd {vs us:List Value} {xs ys:List V} (h1:vs.length=xs.length) (h2: ∀(j:Nat) v x,vs[j]? =some v→xs[j]? =some x→ah P w I β hp v x)
  (h3: ∀(j:Nat) v x,us[j]? =some v→ys[j]? =some x→ah P w I β hp v x) (j:Nat) (v:Value) (x:V) (hv:(vs++us)[j]? =some v) (hx:(xs++ys)[j]? =some x):ah P w I β hp v x:=by
 by_cases hj:j<vs.length
 ·rw[List.getElem?_append_left hj] at hv
  rw[List.getElem?_append_left (by omega)] at hx
  exact h2 j v x hv hx
 ·rw[List.getElem?_append_right (by omega)] at hv
  rw[List.getElem?_append_right (by omega)] at hx
  rw[h1] at hv
  exact h3 _ v x hv hx
theorem aaP (hP:jh P A) (S:aD P w I β hp B M w0) (hg:gL P A.aC w I) {a:Act} {sl:Nat→V} (hs:kz P w I β hp a sl) {dst:Option Tmp} {ty e:TypeId} {pos:String} {after:Array Edge} {guard:Option (Nat × Bool)} {f:FuncId}
  {args:Array Operand} {argTypes:Array TypeId} {nb:Nat} {r:R} {rd:List Nat} (jY:A.nX f=some e)
  (h:((match args.toList with
    | [x]=> .aA (cY P e) (rP e (aJ P A.aC ty sl x) fun xs=> .aA (Nat.ble (xs.length*P.bytesOf e) bC) (iX nb (.arr e xs false) (.whole e nb) []))
    | _=> .fail):Rd R).run C hp=some (r,rd)):zk P A (Oper.mk dst (.call (Go.Call.mk (.value (.func f)) args argTypes)) ty pos after guard) a w I β hp B M w0 r:=by
 cases ha:args.toList with
 | nil=>rw[ha] at h;cases h
 | cons x l=>
  rw[ha] at h
  cases l with
  | cons _ _=>cases h
  | nil=>
   simp only at h
   have e1:args= #[x]:=by rw[←Array.toArray_toList (xs:=args),ha]
   subst e1
   have hx:=hs.ev hg ty x
   obtain ⟨au,h⟩:=aE h
   have fin: ∀{w1:World} {Ej:Nat→Option Nat},(∀id blk,hp id=some blk→eh P w1 I Ej hp (Ej id) blk)→ah P w1 I Ej hp (a.eval x) (aJ P A.aC ty sl x)→∃xs,(((∃a',a.eval x= .slice a' 0 0)∧xs=[])∨∃a' c news,Row P w1 I e (a.eval x) xs a' c news)∧
     xs.length*P.bytesOf e≤bC∧hp nb=none∧r=⟨.whole e nb,[(nb,.arr e xs false)]⟩:=by
    intro w1 Ej h1 h2
    obtain ⟨xs,lj,l,h⟩:=DP h1 au h2 h
    obtain ⟨eP,h⟩:=aE h
    rw[Nat.ble_eq] at eP
    obtain ⟨hn,rfl⟩:=mY h
    exact ⟨xs,lj,eP,hn,rfl⟩
   obtain ⟨c1,t,hu,c2⟩:=hP.nX f e jY
   intro next Q sr
   unfold Oper.wp
   have e2:(execOp a.eval ⟨dst,.call ⟨.value (.func f),#[x],argTypes⟩,ty,pos,after,guard⟩).run P w= .ok (.enter f #[a.eval x]) w:=by
    have fe:a.eval (.func f)= .func (.func f) #[] #[]:=rfl
    simpa[execOp,resolve,fe,Deferred.ofValue,invoke] using c1 #[a.eval x] w
   rw[e2,Oper.upon_enter]
   refine c2 _ w _ (fun zo=> ?_) (fun b n c v5=> ?_) ?_
   ·obtain ⟨xs,lj,eP,hn,rfl⟩:=fin S.h.rel hx
    have gB:xs=[]:=by
     rcases lj with ⟨_,h⟩|⟨a,c,news,hr⟩
     ·exact h
     ·have:=hr.val.symm.trans zo
      cases this
    subst gB
    obtain ⟨a1,a2⟩:=Du S e hn
    exact sr _ w I _ a.defers a1 a2 (.dU (dd _ _ _) (dd _ _ _)) fun d hd=> .inl hd
   ·obtain ⟨m1,m2⟩:=YC (w':=w.alloc (.cells #[] e)) S (fun b hb=>heap_alloc_old w _ b hb) (by simp) ⟨rfl,rfl⟩
    obtain ⟨xs,lj,eP,hn,rfl⟩:=fin m2.h.rel (hx.mono m1)
    obtain ⟨v,w',an,a1,a2,a3,a4⟩:=Iz (ty:=t) (a0:=some ⟨w.heap.size,0,none⟩) m2 hu au hn eP lj
    exact ⟨v,w',a1,sr v w' I an a.defers (m1.trans a2) a3 a4 fun d hd=> .inl hd⟩
   ·obtain ⟨xs,lj,eP,hn,rfl⟩:=fin S.h.rel hx
    rcases lj with ⟨⟨b,h⟩,_⟩|⟨b,c,news,hr⟩
    ·rw[h]
     cases b with
     | none=>exact .inl rfl
     | some b=>exact .inr ⟨_,_,_,rfl⟩
    ·exact .inr ⟨_,_,_,hr.val⟩
theorem aaQ (hP:jh P A) (S:aD P w I β hp B M w0) (hg:gL P A.aC w I) {a:Act} {sl:Nat→V} (hs:kz P w I β hp a sl) {dst:Option Tmp} {ty T0:TypeId} {pos:String} {after:Array Edge} {guard:Option (Nat × Bool)} {f:FuncId}
  {args:Array Operand} {argTypes:Array TypeId} {r:R} {rd:List Nat} (zp:A.ext f=some T0)
  (h:((match args.toList with
   | [x]=>
    match aJ P A.aC ty sl x with
    | .ptr id i c=>Rd.get id fun
     | some (.var T cs)=> .aA (Nat.beq T T0&&(oZ P T&&(Nat.beq cs.length (P.cellsOf T)&&(Nat.beq i 0&&Nat.beq c 0)))) (.ret ⟨.bh [],[(id,.var T (.undef::cs.tail))]⟩)
     | _=> .fail
    | _=> .fail
   | _=> .fail):Rd R).run C hp=some (r,rd)):zk P A (Oper.mk dst (.call (Go.Call.mk (.value (.func f)) args argTypes)) ty pos after guard) a w I β hp B M w0 r:=by
 cases ha:args.toList with
 | nil=>rw[ha] at h;cases h
 | cons x l=>
  rw[ha] at h
  cases l with
  | cons _ _=>cases h
  | nil=>
   simp only at h
   have e1:args= #[x]:=by rw[←Array.toArray_toList (xs:=args),ha]
   subst e1
   have hx:=hs.ev hg ty x
   cases fv:aJ P A.aC ty sl x<;>rw[fv] at h hx<;>simp only at h<;>first|(cases h;done)|skip
   rename_i id i c
   obtain ⟨l,h1⟩:=run_get h
   cases ab:hp id with
   | none=>rw[ab] at h1;cases h1
   | some blk=>
    rw[ab] at h1
    cases blk<;>simp only at h1<;>first|(cases h1;done)|skip
    rename_i T cs
    obtain ⟨h2,h3⟩:=aE h1
    simp only[Bool.and_eq_true,Nat.beq_eq] at h2
    obtain ⟨rfl,bP,hlc,rfl,rfl⟩:=h2
    obtain rfl:=aI h3
    obtain ⟨b,hb,he⟩:=hx.gO ab (by simp)
    have hr:=S.h.rel id _ ab
    rw[hb] at hr
    cases hr with
    | @var _ b' Ca _ ax hh aZ hI gB gm=>
     cases ax
     have tN:a.eval x= .pointer (some ⟨b,0,none⟩):=by rw[he];simp[ag.sz]
     obtain ⟨q1,q2⟩:=hP.ext f T zp b Ca w hh (aZ.trans hlc) (gm bP)
     have h0:0<Ca.size:=by
      rcases gm bP with k|k<;>exact (Array.getElem?_eq_some_iff.1 k).1
     have og:(V.undef::cs.tail).length=cs.length:=by
      cases cs with
      | nil=>rw[aZ] at h0;simp at h0
      | cons _ _=>rfl
     have rel: ∀(C':Array Value),(∀j,0<j→C'[j]? =Ca[j]?)→∀(j:Nat) v y,C'[j]? =some v→(V.undef::cs.tail)[j]? =some y→ah P w I β hp v y:=by
      intro C' v9 j v y hj hy
      cases j with
      | zero=>simp at hy;subst hy;exact .undef
      | succ j=>
       rw[v9 _ (by omega)] at hj
       refine gB (j+1) v y hj ?_
       cases cs with
       | nil=>rw[aZ] at h0;simp at h0
       | cons _ _=>simpa using hy
     have fin: ∀w' C',(∀b',b'≠b→w'.heap[b']? =w.heap[b']?)→w'.heap[b]? =some (.cells C' T (0,0))→C'.size=Ca.size→w.heap.size≤w'.heap.size→w'.os=w.os∧w'.output=w.output→
       (∀j,0<j→C'[j]? =Ca[j]?)→(C'[0]? =some (.pointer none)∨C'[0]? =some (.pointer (some ⟨b,0,none⟩)))→
       Le P w I β hp w' I β (aG hp id (some (.var T (V.undef::cs.tail))))∧aD P w' I β (aG hp id (some (.var T (V.undef::cs.tail)))) B M w0:=by
      intro w' C' k1 k2 k3 k4 k5 k6 k7
      exact Dw (w':=w') (blk':= .var T (V.undef::cs.tail)) S ab (by simp) rfl hb hI (by simp) k1 (by rw[mP k2,mP hh,k3]) k4 k5 fun hle=>
       .var rfl k2 (by rw[k3,aZ,og]) hI (fun j v y hj hy=>(rel C' k6 j v y hj hy).mono hle) fun _=>k7
     intro next Q hn
     unfold Oper.wp
     have e2:(execOp a.eval ⟨dst,.call ⟨.value (.func f),#[x],argTypes⟩,ty,pos,after,guard⟩).run P w= .ok (.enter f #[.pointer (some ⟨b,0,none⟩)]) w:=by
      have fe:a.eval (.func f)= .func (.func f) #[] #[]:=rfl
      simpa[execOp,resolve,fe,Deferred.ofValue,invoke,tN] using q1
     rw[e2,Oper.upon_enter]
     refine q2.mono fun e w' zm=> ?_
     obtain ⟨rfl,hw⟩:=zm
     have Qe:Le P w I β hp w' I β (aG hp id (some (.var T (V.undef::cs.tail))))∧aD P w' I β (aG hp id (some (.var T (V.undef::cs.tail)))) B M w0:=by
      rcases hw with rfl|rfl
      ·exact fin w' Ca (fun _ _=>rfl) hh rfl (Nat.le_refl _) ⟨rfl,rfl⟩ (fun _ _=>rfl) (gm bP)
      ·refine fin (w.setCell ⟨b,0,none⟩ (.pointer (some ⟨b,0,none⟩))) (Ca.setIfInBounds 0 (.pointer (some ⟨b,0,none⟩))) (fun b' bO=> ?_) ?_ (by simp) (by simp[World.setCell]) ⟨rfl,rfl⟩ (fun j hj=> ?_) (.inr ?_)
       ·simp only[World.setCell,Array.getElem?_modify]
        rw[if_neg (fun e=>bO e.symm)]
       ·simp[World.setCell,Array.getElem?_modify,hh]
       ·rw[Array.getElem?_setIfInBounds_ne (by omega)]
       ·rw[Array.getElem?_setIfInBounds_self_of_lt h0]
     exact hn (.tuple #[]) w' I β a.defers Qe.1 Qe.2 (.bh rfl fun j v y hj _=>by simp at hj) fun d hd=> .inl hd
theorem aaR (hC:kG P A C) (hP:jh P A) (S:aD P w I β hp B M w0) (hg:gL P A.aC w I) {a:Act} {sl:Nat→V} (hs:kz P w I β hp a sl) {ix nb:Nat} {o:Oper} {r:R} {rd:List Nat}
  (h:(fE P A sl ix nb o).run C hp=some (r,rd)):zk P A o a w I β hp B M w0 r:=by
 cases hc:IW o.op with
 | false=>exact (aao S hg hs hc h).step
 | true=>
  obtain ⟨dst,op,ty,pos,after,guard⟩:=o
  cases op<;>simp only[IW] at hc<;>first|(cases hc;done)|skip
  case defer c=>
   obtain ⟨callee,args,argTypes⟩:=c
   cases callee with
   | invoke r m=>simp only[fE] at h;cases h
   | builtin b=>simp only[fE] at h;cases h
   | value f=>
   cases f with
   | tmp t=>
    simp only[fE] at h
    cases bP:sl t<;>rw[bP] at h<;>simp only at h<;>first|(cases h;done)|skip
    rename_i f xs ys
    obtain ⟨h1,h2⟩:=aE h
    obtain rfl:=aI h2
    have hv:=hs t
    rw[bP] at hv
    generalize tR:a.tmps.getD t undef=vt at hv
    cases hv with
    | @fn _ fs cs _ _ q1 q2 q3 q4=>
     intro next Q hn
     unfold Oper.wp
     have fe:a.eval (.tmp t)= .func (.func f) fs cs:=tR
     have e1:(execOp a.eval ⟨dst,.defer ⟨.value (.tmp t),args,argTypes⟩,ty,pos,after,guard⟩).run P w= .ok (.defer {target:= .fn (.func f) cs,args:=fs++args.map a.eval}) w:=by
      simp[execOp,resolve,fe,Deferred.ofValue]
     rw[e1,Oper.upon_defer]
     exact hn undef w I β _ (Le.refl w I β hp) S .undef fun d hd=>by
      rcases List.mem_cons.1 hd with rfl|hd
      ·exact .inr ⟨f,cs,rfl,h1⟩
      ·exact .inl hd
   | func f=>simp only[fE] at h;cases h
   | const _=>simp only[fE] at h;cases h
   | global _=>simp only[fE] at h;cases h
  rename_i c
  obtain ⟨callee,args,argTypes⟩:=c
  cases callee with
  | invoke r m=>cases hc
  | builtin b=>cases hc
  | value f=>
   cases f with
   | func f=>
    simp only[fE] at h
    cases zp:A.ext f with
    | some T0=>
     rw[zp] at h
     simp only at h
     exact aaQ hP S hg hs zp h
    | none=>
    rw[zp] at h
    simp only at h
    cases jY:A.nX f with
    | some e0=>
     rw[jY] at h
     simp only at h
     exact aaP hP S hg hs jY h
    | none=>
    rw[jY] at h
    simp only at h
    obtain ⟨h1,h2⟩:=aE h
    rw[Nat.beq_eq] at h1
    obtain ⟨k1,k2⟩:=hs.args hg h1
    refine Qc hC hP S hg k1 k2 h2 ?_
    have e1:(args.map a.eval).toList.toArray=args.map a.eval:=Array.toArray_toList
    rw[e1]
    simp[execOp,resolve,Act.eval,Deferred.ofValue,invoke]
   | tmp t=>
    simp only[fE] at h
    cases bP:sl t<;>rw[bP] at h<;>simp only at h<;>first|(cases h;done)|skip
    rename_i f xs ys
    obtain ⟨h1,h2⟩:=aE h
    rw[Nat.beq_eq] at h1
    obtain ⟨k1,k2⟩:=hs.args hg h1
    have hv:=hs t
    rw[bP] at hv
    generalize tR:a.tmps.getD t undef=vt at hv
    cases hv with
    | @fn _ fs cs _ _ q1 q2 q3 q4=>
     have l1:fs.toList.length=xs.length:=by simpa using q1
     have l3:cs.toList.length=ys.length:=by simpa using q3
     have r1: ∀(j:Nat) v x,fs.toList[j]? =some v→xs[j]? =some x→ah P w I β hp v x:=fun j v x hj hx=>q2 j v x (by simpa using hj) hx
     have r3: ∀(j:Nat) v x,cs.toList[j]? =some v→ys[j]? =some x→ah P w I β hp v x:=fun j v x hj hx=>q4 j v x (by simpa using hj) hx
     refine Qc hC hP S hg (vals:=fs.toList++(args.map a.eval).toList++cs.toList) (args:=xs++((args.toList.zip argTypes.toList).map fun p=>aJ P A.aC p.2 sl p.1)++ys) (by simp only[List.length_append];omega) ?_ h2 ?_
     ·exact Qd (by simp only[List.length_append];omega) (Qd l1 r1 k2) r3
     ·have e1:(fs.toList++(args.map a.eval).toList++cs.toList).toArray=fs++args.map a.eval++cs:=by
       apply Array.toList_inj.1;simp
      rw[e1]
      have fe:a.eval (.tmp t)= .func (.func f) fs cs:=tR
      simp[execOp,resolve,fe,Deferred.ofValue,invoke]
   | _=>cases hc
end
section
variable {P:Program} {A:cH} {w w':World} {I I' I2:Nat→Prop} {μ β an:Nat→Option Nat} {hp hp':Nat→Option ag} {C:ae} {B:Nat} {M:Nat→Prop} {w0:Start}
structure iO (P:Program) (E:FuncId→Bool) (G:Nat→V) (w:World) (I:Nat→Prop) (β:Nat→Option Nat) (n:Nat) (a:Act) (st:St):Prop where
 sl:kz P w I β st.hp a st.sl
 size:a.tmps.size=n
 defers: ∀d∈a.defers,zj E d
 aC:gL P G w I
theorem Jj {E:FuncId→Bool} {G:Nat→V} {n:Nat} {a:Act} {st:St} {o:Oper} {v:Value} {x:V} {hp':Nat→Option ag} {ds:List Deferred} (h:iO P E G w I β n a st) (hle:Le P w I β st.hp w' I' an hp') (hd:rT o n=true)
  (hv:ah P w' I' an hp' v x) (kU: ∀d∈ds,d∈a.defers∨zj E d):iO P E G w' I' an n ({a with defers:=ds}.put o.dst v) ⟨g9 st.sl o.dst x,hp',st.nb⟩:=by
 have Qf: ∀d∈ds,zj E d:=fun d hd=>(kU d hd).elim (h.defers d) id
 cases aaS:o.dst with
 | none=>exact ⟨fun k=>(h.sl k).mono hle,h.size,Qf,h.aC.mono hle.dz hle.cg⟩
 | some d=>
  have aR:d<a.tmps.size:=by
   unfold rT at hd
   rw[aaS] at hd
   rw[h.size]
   simpa using hd
  refine ⟨fun k=> ?_,by simp[Act.put,h.size],Qf,h.aC.mono hle.dz hle.cg⟩
  simp only[Act.put,g9,aG]
  cases hb:Nat.beq k d with
  | true=>
   rw[Nat.beq_eq] at hb
   subst hb
   simpa[aR] using hv
  | false=>
   have bO:d≠k:=fun e=>by rw[e,Nat.beq_refl] at hb;cases hb
   have:=(h.sl k).mono hle
   simpa[Array.getElem?_setIfInBounds_ne bO] using this
theorem Qg {E:FuncId→Bool} {G:Nat→V} {n:Nat} {a:Act} {st:St} {d:Nat} {b:Bool} (h:iO P E G w I β n a st) (hd:st.sl d= .bool b):a.tmps[d]? =some (.bool b):=by
 have:=h.sl d
 rw[hd] at this
 have:=this.jw
 cases ht:a.tmps[d]? with
 | none=>simp[ht] at this;cases this
 | some v=>simp[ht] at this;rw[this]
theorem aaT {x:V} {b:Bool} (h:kV x=some (some b)):x= .bool b:=by
 cases x with
 | bool c=>simp only[kV] at h;injection h with h;injection h with h;rw[h]
 | bh vs=>cases vs<;>simp[kV] at h
 | _=>simp[kV] at h
theorem aaU {x:V} (h:kV x=some none):x= .bh []:=by
 cases x with
 | bh vs=>cases vs with
  | nil=>rfl
  | cons _ _=>simp[kV] at h
 | bool c=>simp[kV] at h
 | _=>simp[kV] at h
theorem ah.aaV {v:Value} (h:ah P w I β hp v (.bh [])):v= .tuple #[]:=by
 cases h with
 | @bh cs _ hs _=>
  have:cs= #[]:=by
   apply Array.eq_empty_of_size_eq_zero
   simpa using hs
  rw[this]
theorem ah.Qh:ah P w I β hp Go.undef (.bh []):= .bh (by rfl) (fun j v x _ hx=>by simp at hx)
theorem Qi (hC:kG P A C) (hP:jh P A) {ops:Array Oper} {n i nb:Nat} {o:Oper} (ho:ops[i]? =some o) {a:Act} {st st':St} {R W:List Nat} (S:aD P w I β st.hp B M w0) (hA:iO P A.idle A.aC w I β n a st)
  (h:gJ P A C n ops i o nb st=some (st',R,W)) {K:Act→World→Prop} {Q:Exit→Act→World→Prop}
  (hK: ∀a' w' I' an,Le P w I β st.hp w' I' an st'.hp→aD P w' I' an st'.hp B M w0→iO P A.idle A.aC w' I' an n a' st'→K a' w'):wpOp P ops Q i K a w:=by
 unfold gJ at h
 cases hd:rT o n with
 | false=>rw[hd] at h;cases h
 | true=>
  rw[hd] at h
  simp only[cond_true] at h
  have go: ∀{Jk:St} {R W:List Nat},(((fE P A st.sl i (nb+64*i) o).run C st.hp).bind fun r=>some ((⟨g9 st.sl o.dst r.1.v,bN st.hp r.1.upd,st.nb⟩:St),r.2,r.1.upd.map (·.1)))=some (Jk,R,W)→Jk=st'→
    o.wp P a w K Q:=by
   intro Jk R W h e
   obtain ⟨⟨r,rd⟩,h1,h2⟩:=bind_some h
   cases h2
   subst e
   exact aaR hC hP S hA.aC hA.sl h1 K Q fun v w' I' an ds k1 k2 k3 k4=>hK _ w' I' an k1 k2 (Jj hA k1 hd k3 k4)
  unfold wpOp
  rw[ho]
  simp only
  cases hg:o.guard with
  | none=>
   rw[hg] at h
   simp only[Region.wanted,hg,if_true]
   exact .inl (go h rfl)
  | some gw=>
   obtain ⟨g,want⟩:=gw
   rw[hg] at h
   simp only at h
   cases ll:(ops[g]?).bind (·.dst) with
   | none=>rw[ll] at h;cases h
   | some d=>
    rw[ll] at h
    simp only at h
    cases mf:kV (st.sl d) with
    | none=>rw[mf] at h;cases h
    | some ob=>
    rw[mf] at h
    cases ob with
    | none=>
     have v5:=aaU mf
     have hy:yielded ops a.tmps g=none:=by
      unfold yielded
      rw[ll]
      have:=hA.sl d
      rw[v5] at this
      have hu:=ah.aaV this
      simp only[Option.bind_some]
      cases ht:a.tmps[d]? with
      | none=>rfl
      | some v=>simp[ht] at hu;subst hu;rfl
     simp only[Region.wanted,hg,hy]
     injection h with h
     injection h with h3 h4
     subst h3
     have h2:((none:Option Bool)==some want)=false:=rfl
     simp only[h2,Bool.false_eq_true,if_false]
     exact hK _ w I β (Le.refl w I β st.hp) S (Jj (ds:=a.defers) hA (Le.refl w I β st.hp) hd ah.Qh fun d h=> .inl h)
    | some b=>
    simp only at h
    have v5:=aaT mf
    have hy:yielded ops a.tmps g=some b:=by
     unfold yielded
     rw[ll]
     simp only[Option.bind_some,Qg hA v5]
    simp only[Region.wanted,hg,hy]
    by_cases hb:b=want
    ·subst hb
     simp only[beq_self_eq_true,cond_true] at h
     simp only[beq_self_eq_true,if_true]
     exact .inl (go h rfl)
    ·have h1:(b==want)=false:=by simp[hb]
     have h2:(some b==some want)=false:=by simp[hb]
     rw[h1] at h
     simp only[cond_false] at h
     injection h with h
     injection h with h3 h4
     subst h3
     simp only[h2,Bool.false_eq_true,if_false]
     exact hK _ w I β (Le.refl w I β st.hp) S (Jj (ds:=a.defers) hA (Le.refl w I β st.hp) hd ah.Qh fun d h=> .inl h)
theorem ua {α:Type}: ∀{p:Rd α} {r:α} {rd:List Nat},p.run C hp=some (r,rd)→(∀id∈rd,hp' id=hp id)→p.run C hp'=some (r,rd)
 | .ret a,r,rd,h,_=>h
 | .fail,r,rd,h,_=>by cases h
 | .get id k,r,rd,h,he=>by
  obtain ⟨x,h1,h2⟩:=bind_some h
  cases h2
  have e1:hp' id=hp id:=he id (by simp)
  have:=ua (p:=k (hp id)) (r:=x.1) (rd:=x.2) h1 (fun i hi=>he i (by simp[hi]))
  simp only[Rd.run,e1,this,Option.bind_some]
 | .opt o k,r,rd,h,he=>by
  obtain ⟨x,h1,h2⟩:=bind_some h
  simp only[Rd.run,h1,Option.bind_some]
  exact ua h2 he
 | .aA b k,r,rd,h,he=>by
  obtain ⟨h1,h2⟩:=aE h
  simp only[Rd.run,h1,cond_true]
  exact ua h2 he
 | .call key ds k,r,rd,h,he=>by
  obtain ⟨x,h1,h2⟩:=bind_some h
  simp only[Rd.run,h1,Option.bind_some]
  exact ua h2 he
 | .alt true x y,r,rd,h,he=>ua (p:=x) h he
 | .alt false x y,r,rd,h,he=>ua (p:=y) h he
theorem aaW {G:Nat→V} {sl sl':Nat→V} {t:TypeId} {x:Operand} (h: ∀k,x= .tmp k→sl k=sl' k):aJ P G t sl x=aJ P G t sl' x:=by
 cases x with
 | tmp k=>exact h k rfl
 | _=>rfl
theorem aaX {sl sl':Nat→V} {ix nb:Nat} {o:Oper} (h: ∀x∈o.op.operands,∀k,x= .tmp k→sl k=sl' k):fE P A sl ix nb o=fE P A sl' ix nb o:=by
 have fe: ∀t x,x∈o.op.operands→aJ P A.aC t sl x=aJ P A.aC t sl' x:=fun t x hx=>aaW (h x hx)
 obtain ⟨dst,op,ty,pos,after,guard⟩:=o
 have Qj: ∀(t:TypeId) (ps:Array (Nat × Operand)),(∀x∈ps.map (·.2),aJ P A.aC t sl x=aJ P A.aC t sl' x)→
   (ps.toList.map fun p=>(p.1,aJ P A.aC t sl p.2))=ps.toList.map fun p=>(p.1,aJ P A.aC t sl' p.2):=fun t ps hp=>
  List.map_congr_left fun p hm=>by rw[hp p.2 (Array.mem_map.2 ⟨p,Array.mem_toList_iff.1 hm,rfl⟩)]
 have aaY: ∀(t:TypeId) (ps:Array (Nat × Operand)),(∀x∈ps.map (·.2),aJ P A.aC t sl x=aJ P A.aC t sl' x)→
   (ps.toList.map fun p=>(aJ P A.aC t sl p.2).cells)=ps.toList.map fun p=>(aJ P A.aC t sl' p.2).cells:=fun t ps hp=>
  List.map_congr_left fun p hm=>by rw[hp p.2 (Array.mem_map.2 ⟨p,Array.mem_toList_iff.1 hm,rfl⟩)]
 cases op<;>simp only[Op.operands] at fe<;>simp only[fE]
 case pick c x y=>rw[fe ty c (by simp),fe ty x (by simp),fe ty y (by simp)]
 case build t ps=>rw[Qj ty ps fun x hx=>fe ty x (by simpa using hx),aaY ty ps fun x hx=>fe ty x (by simpa using hx)]
 case buildSlice t len ps=>
  split
  ·rename_i e _
   rw[Qj e ps fun x hx=>fe e x (by simpa using hx)]
  ·rfl
 case slice t x lo hi mx=>
  cases mx with
  | some m=>
   have e1:lo.map (aJ P A.aC 0 sl)=lo.map (aJ P A.aC 0 sl'):=by
    cases lo with
    | none=>rfl
    | some l=>simp only[Option.map_some,fe 0 l (by simp)]
   have e2:hi.map (aJ P A.aC 0 sl)=hi.map (aJ P A.aC 0 sl'):=by
    cases hi with
    | none=>rfl
    | some l=>simp only[Option.map_some,fe 0 l (by simp)]
   have e3:=fe 0 m (by simp)
   simp only[fe ty x (by simp),e1,e2,e3]
  | none=>
   have e1:lo.map (aJ P A.aC 0 sl)=lo.map (aJ P A.aC 0 sl'):=by
    cases lo with
    | none=>rfl
    | some l=>simp only[Option.map_some,fe 0 l (by simp)]
   have e2:hi.map (aJ P A.aC 0 sl)=hi.map (aJ P A.aC 0 sl'):=by
    cases hi with
    | none=>rfl
    | some l=>simp only[Option.map_some,fe 0 l (by simp)]
   simp only[fe ty x (by simp),e1,e2]
 case call c=>
  obtain ⟨callee,args,argTypes⟩:=c
  have ub: ∀t x,x∈args→aJ P A.aC t sl x=aJ P A.aC t sl' x:=fun t x hx=>fe t x (by simp[Call.operands,hx])
  have hl: ∀t (l:List Operand),(∀x∈l,x∈args)→l.map (aJ P A.aC t sl)=l.map (aJ P A.aC t sl'):=fun t l hl=>List.map_congr_left fun x hx=>ub t x (hl x hx)
  have hz:((args.toList.zip argTypes.toList).map fun p=>aJ P A.aC p.2 sl p.1)=(args.toList.zip argTypes.toList).map fun p=>aJ P A.aC p.2 sl' p.1:=
   List.map_congr_left fun p hp=>ub p.2 p.1 (Array.mem_toList_iff.1 (List.of_mem_zip hp).1)
  cases callee with
  | invoke r m=>rfl
  | builtin b=>
   have ch: ∀x∈args.toList,∀t,aJ P A.aC t sl x=aJ P A.aC t sl' x:=fun x hx t=>ub t x (Array.mem_toList_iff.1 hx)
   have Ek: ∀t (l:List Operand),(∀x∈l,∀t,aJ P A.aC t sl x=aJ P A.aC t sl' x)→l.map (aJ P A.aC t sl)=l.map (aJ P A.aC t sl'):=fun t l h=>List.map_congr_left fun x hx=>h x hx t
   cases b<;>first|rfl|skip
   case append=>
    dsimp only
    generalize args.toList=al at ch
    match al,ch,argTypes.toList with
    | [s,x],ch,[t,u]=>simp only[ch s (by simp),ch x (by simp)]
    | [],_,_=>rfl
    | [_],_,_=>rfl
    | _::_::_::_,_,_=>rfl
    | [_,_],_,[]=>rfl
    | [_,_],_,[_]=>rfl
    | [_,_],_,_::_::_::_=>rfl
   case copy=>
    dsimp only
    generalize args.toList=al at ch
    match al,ch,argTypes.toList with
    | [s,x],ch,[t,u]=>simp only[ch s (by simp),ch x (by simp)]
    | [],_,_=>rfl
    | [_],_,_=>rfl
    | _::_::_::_,_,_=>rfl
    | [_,_],_,[]=>rfl
    | [_,_],_,[_]=>rfl
    | [_,_],_,_::_::_::_=>rfl
   case len=>
    dsimp only
    generalize args.toList=al at ch
    match al,ch,argTypes.toList with
    | [x],ch,[t]=>simp only[ch x (by simp)]
    | [],_,_=>rfl
    | _::_::_,_,_=>rfl
    | [_],_,[]=>rfl
    | [_],_,_::_::_=>rfl
   case clear=>
    dsimp only
    generalize args.toList=al at ch
    match al,ch,argTypes.toList with
    | [x],ch,[t]=>simp only[ch x (by simp)]
    | [],_,_=>rfl
    | _::_::_,_,_=>rfl
    | [_],_,[]=>rfl
    | [_],_,_::_::_=>rfl
   case unsafeSliceData=>
    dsimp only
    generalize args.toList=al at ch
    match al,ch with
    | [],_=>rfl
    | [x],ch=>simp only[ch x (by simp)]
    | _::_::_,_=>rfl
   case unsafeString=>
    dsimp only
    generalize args.toList=al at ch
    match al,ch,argTypes.toList with
    | [s,x],ch,[t,u]=>simp only[ch s (by simp),ch x (by simp)]
    | [],_,_=>rfl
    | [_],_,_=>rfl
    | _::_::_::_,_,_=>rfl
    | [_,_],_,[]=>rfl
    | [_,_],_,[_]=>rfl
    | [_,_],_,_::_::_::_=>rfl
   case max=>
    dsimp only
    generalize args.toList=al at ch
    match al,ch with
    | [],_=>rfl
    | x::l,ch=>simp only[ch x (by simp),Ek ty l (fun y hy=>ch y (by simp[hy]))]
   case min=>
    dsimp only
    generalize args.toList=al at ch
    match al,ch with
    | [],_=>rfl
    | x::l,ch=>simp only[ch x (by simp),Ek ty l (fun y hy=>ch y (by simp[hy]))]
  | value f=>
   cases f<;>first|rfl|skip
   ·rename_i t
    have ht:sl t=sl' t:=h (.tmp t) (by simp[Op.operands,Call.operands]) t rfl
    simp only[hz,ht]
   ·simp only[hz]
    cases hx:args.toList with
    | nil=>rfl
    | cons x l=>
     cases l with
     | cons _ _=>rfl
     | nil=>simp only[ub ty x (Array.mem_toList_iff.1 (by rw[hx];simp))]
 case defer c=>
  obtain ⟨callee,args,argTypes⟩:=c
  cases callee with
  | invoke r m=>rfl
  | builtin b=>rfl
  | value f=>
   cases f<;>first|rfl|skip
   rename_i t
   have ht:sl t=sl' t:=h (.tmp t) (by simp[Op.operands,Call.operands]) t rfl
   simp only[ht]
 case makeFunc fn a b=>
  cases fn<;>first|rfl|skip
  have e1:a.toList.map (aJ P A.aC ty sl)=a.toList.map (aJ P A.aC ty sl'):=List.map_congr_left fun x hx=>fe ty x (by simp[Array.mem_toList_iff.1 hx])
  have e2:b.toList.map (aJ P A.aC ty sl)=b.toList.map (aJ P A.aC ty sl'):=List.map_congr_left fun x hx=>fe ty x (by simp[Array.mem_toList_iff.1 hx])
  dsimp only
  rw[e1,e2]
 case makeMap t r=>cases r<;>rfl
 all_goals first
  | rfl
  | (simp[fe];done)
end
section
variable {P:Program} {A:cH} {w w':World} {I I' I2:Nat→Prop} {μ β an:Nat→Option Nat} {hp hp':Nat→Option ag} {C:ae} {B:Nat} {M:Nat→Prop} {w0:Start}
theorem Qk {n i nb:Nat} {ops:Array Oper} {o:Oper} {st st':St} {R W:List Nat} (h:gJ P A C n ops i o nb st=some (st',R,W)):
  ∃x upd,st'=⟨g9 st.sl o.dst x,bN st.hp upd,st.nb⟩∧W=upd.map (·.1)∧∀eY:St,(∀d∈o.looksAt ops,eY.sl d=st.sl d)→(∀id∈R,eY.hp id=st.hp id)→
   gJ P A C n ops i o nb eY=some (⟨g9 eY.sl o.dst x,bN eY.hp upd,eY.nb⟩,R,W):=by
 unfold gJ at h
 cases hd:rT o n with
 | false=>rw[hd] at h;cases h
 | true=>
  rw[hd] at h
  simp only[cond_true] at h
  have go:(((fE P A st.sl i (nb+64*i) o).run C st.hp).bind fun r=>some ((⟨g9 st.sl o.dst r.1.v,bN st.hp r.1.upd,st.nb⟩:St),r.2,r.1.upd.map (·.1)))=some (st',R,W)→
    ∃x upd,st'=⟨g9 st.sl o.dst x,bN st.hp upd,st.nb⟩∧W=upd.map (·.1)∧∀eY:St,(∀d∈o.looksAt ops,eY.sl d=st.sl d)→(∀id∈R,eY.hp id=st.hp id)→
     (((fE P A eY.sl i (nb+64*i) o).run C eY.hp).bind fun r=>some ((⟨g9 eY.sl o.dst r.1.v,bN eY.hp r.1.upd,eY.nb⟩:St),r.2,r.1.upd.map (·.1)))=some (⟨g9 eY.sl o.dst x,bN eY.hp upd,eY.nb⟩,R,W):=by
   intro h
   obtain ⟨⟨r,rd⟩,h1,h2⟩:=bind_some h
   cases h2
   refine ⟨r.v,r.upd,rfl,rfl,fun eY hs hh=> ?_⟩
   rw[aaX (sl':=st.sl) fun x hx k hk=> ?_,ua h1 hh]
   ·rfl
   ·subst hk
    exact hs k (List.mem_append_left _ (List.mem_filterMap.2 ⟨.tmp k,by simpa using hx,rfl⟩))
  cases hg:o.guard with
  | none=>
   rw[hg] at h
   obtain ⟨x,upd,e1,e2,e3⟩:=go h
   refine ⟨x,upd,e1,e2,fun eY hs hh=> ?_⟩
   unfold gJ
   simp only[hd,cond_true,hg]
   exact e3 eY hs hh
  | some gw=>
   obtain ⟨g,want⟩:=gw
   rw[hg] at h
   simp only at h
   cases ll:(ops[g]?).bind (·.dst) with
   | none=>rw[ll] at h;cases h
   | some d=>
    rw[ll] at h
    simp only at h
    have Jl:d∈o.looksAt ops:=List.mem_append_right _ (by rw[hg];simp[ll])
    cases mf:kV (st.sl d) with
    | none=>rw[mf] at h;cases h
    | some ob=>
    rw[mf] at h
    cases ob with
    | none=>
     injection h with h
     injection h with h3 h4
     injection h4 with h5 h6
     subst h5;subst h6
     refine ⟨.bh [],[],h3.symm,rfl,fun eY hs hh=> ?_⟩
     unfold gJ
     simp only[hd,cond_true,hg,ll,hs d Jl,mf]
     rfl
    | some b=>
    simp only at h
    cases hb:b==want with
    | true=>
     rw[hb] at h
     obtain ⟨x,upd,e1,e2,e3⟩:=go h
     refine ⟨x,upd,e1,e2,fun eY hs hh=> ?_⟩
     unfold gJ
     simp only[hd,cond_true,hg,ll,hs d Jl,mf,hb]
     exact e3 eY hs hh
    | false=>
     rw[hb] at h
     simp only[cond_false] at h
     injection h with h
     injection h with h3 h4
     injection h4 with h5 h6
     subst h5;subst h6
     refine ⟨.bh [],[],h3.symm,rfl,fun eY hs hh=> ?_⟩
     unfold gJ
     simp only[hd,cond_true,hg,ll,hs d Jl,mf,hb,cond_false]
     rfl
theorem Ql {sl:Nat→V} {d:Option Nat} {x:V} {k:Nat} (h:d≠some k):g9 sl d x k=sl k:=by
 cases d with
 | none=>rfl
 | some d=>exact eB _ _ fun e=>h (by rw[e])
theorem aaZ {hp:Nat→Option ag} {a b:List (Nat × ag)} (h: ∀q∈a,∀q'∈b,q.1≠q'.1):bN (bN hp a) b=bN (bN hp b) a:=by
 funext id
 by_cases ha: ∃q∈a,q.1=id
 ·have hb: ∀q∈b,q.1≠id:=by
   obtain ⟨q,hq,rfl⟩:=ha
   exact fun q' ca e=>h q hq q' ca e.symm
  rw[tZ hb]
  obtain ⟨q,hq,rfl⟩:=ha
  have same: ∀(bx gM:Nat→Option ag) (l:List (Nat × ag)) (q:Nat × ag),q∈l→bN bx l q.1=bN gM l q.1:=by
   intro bx gM l
   induction l with
   | nil=>intro q hq;simp at hq
   | cons p l ih=>
    intro q hq
    simp only[bN,aG]
    cases hb:Nat.beq q.1 p.1 with
    | true=>rfl
    | false=>
     simp only[cond_false]
     refine ih q ((List.mem_cons.1 hq).resolve_left fun e=> ?_)
     rw[e,Nat.beq_refl] at hb;cases hb
  exact same _ _ a q hq
 ·rw[tZ (hp:=bN hp b) (l:=a) fun q hq e=>ha ⟨q,hq,e⟩]
  have same: ∀(bx gM:Nat→Option ag) (l:List (Nat × ag)),bx id=gM id→bN bx l id=bN gM l id:=by
   intro bx gM l he
   induction l with
   | nil=>exact he
   | cons p l ih=>
    simp only[bN,aG]
    cases hb:Nat.beq id p.1 with
    | true=>rfl
    | false=>exact ih
  exact same _ _ b (tZ fun q hq e=>ha ⟨q,hq,e⟩)
structure Qm (ops:Array Oper) (o1 o2:Oper) (R1 W1 R2 W2:List Nat):Prop where
 apart:Oper.apart ops o1 o2=true
 w: ∀id∈W1,id∉R2∧id∉W2
 r: ∀id∈R1,id∉W2
theorem aa0 {n i j nb:Nat} {ops:Array Oper} {o1 o2:Oper} {st iP eY:St} {R1 W1 R2 W2:List Nat} (h1:gJ P A C n ops i o1 nb st=some (iP,R1,W1)) (h2:gJ P A C n ops j o2 nb iP=some (eY,R2,W2))
  (hi:Qm ops o1 o2 R1 W1 R2 W2): ∃El,gJ P A C n ops j o2 nb st=some (El,R2,W2)∧gJ P A C n ops i o1 nb El=some (eY,R1,W1):=by
 obtain ⟨x1,u1,e1,f1,g1⟩:=Qk h1
 obtain ⟨x2,u2,e2,f2,g2⟩:=Qk h2
 obtain ⟨a1,a2,a3⟩:=Oper.apart_spec hi.apart
 subst e1
 refine ⟨_,g2 st (fun d hd=> ?_) (fun id hd=> ?_),?_⟩
 ·simp only
  rw[Ql fun e=>a1 d e hd]
 ·simp only
  rw[tZ fun q hq e=>(hi.w id (by rw[f1];exact List.mem_map.2 ⟨q,hq,e⟩)).1 hd]
 ·rw[g1 _ (fun d hd=> ?_) (fun id hd=> ?_),e2]
  ·congr 3
   ·funext k
    cases hd1:o1.dst with
    | none=>rfl
    | some d1=>
     cases mU:o2.dst with
     | none=>rfl
     | some d2=>
      have bO:d2≠d1:=fun e=>a2 d1 hd1 (by rw[mU,e])
      simp only[g9,aG]
      cases Qn:Nat.beq k d1<;>cases su:Nat.beq k d2<;>simp only[cond_true,cond_false]
      rw[Nat.beq_eq] at Qn su
      exact absurd (su.symm.trans Qn) bO
   ·exact (aaZ fun q hq q' ca e=>(hi.w q.1 (by rw[f1];exact List.mem_map.2 ⟨q,hq,rfl⟩)).2 (by rw[f2];exact List.mem_map.2 ⟨q',ca,e.symm⟩)).symm
  ·simp only
   rw[Ql fun e=>a3 d e hd]
  ·simp only
   rw[tZ fun q hq e=>hi.r id hd (by rw[f2];exact List.mem_map.2 ⟨q,hq,e⟩)]
def wz (P:Program) (A:cH) (C:ae) (n:Nat) (ops:Array Oper) (nb:Nat):List (Nat × Oper × List Nat × List Nat)→St→St→Prop
 | [],st,st'=>st=st'
 | (i,o,R,W)::l,st,st'=> ∃iP,gJ P A C n ops i o nb st=some (iP,R,W)∧wz P A C n ops nb l iP st'
def uc (x:Nat × Oper × List Nat × List Nat):Nat × List Nat × List Nat:=(x.1,x.2.2.1,x.2.2.2)
theorem Qo {n nb:Nat} {ops:Array Oper}: ∀{l:List (Nat × Oper)} {st st':St} {log Em:Log},o8 P A C n ops nb l st log=some (st',Em)→
  ∃g,g.map (fun x=>(x.1,x.2.1))=l∧Em=log++g.map uc∧wz P A C n ops nb g st st'
 | [],st,st',log,Em,h=>by
  cases h
  exact ⟨[],rfl,by simp,rfl⟩
 | (i,o)::l,st,st',log,Em,h=>by
  obtain ⟨⟨iP,R,W⟩,h1,h2⟩:=bind_some h
  obtain ⟨g,a,b,c⟩:=Qo h2
  exact ⟨(i,o,R,W)::g,by simp[a],by simp[b,uc],iP,h1,c⟩
def Qp (ops:Array Oper) (x y:Nat × Oper × List Nat × List Nat):Prop:=Qm ops x.2.1 y.2.1 x.2.2.1 x.2.2.2 y.2.2.1 y.2.2.2
theorem Qq {n nb:Nat} {ops:Array Oper} {y:Nat × Oper × List Nat × List Nat} {g2:List (Nat × Oper × List Nat × List Nat)}: ∀{g1:List (Nat × Oper × List Nat × List Nat)} {st st':St},
  wz P A C n ops nb (g1++y::g2) st st'→(∀x∈g1,Qp ops x y)→∃iP,gJ P A C n ops y.1 y.2.1 nb st=some (iP,y.2.2.1,y.2.2.2)∧wz P A C n ops nb (g1++g2) iP st'
 | [],st,st',h,_=>h
 | x::g1,st,st',h,hi=>by
  obtain ⟨iP,h1,h2⟩:=h
  obtain ⟨eY,h3,h4⟩:=Qq h2 fun z hz=>hi z (List.mem_cons_of_mem _ hz)
  obtain ⟨El,h5,h6⟩:=aa0 h1 h3 (hi x (by simp))
  exact ⟨El,h5,eY,h6,h4⟩
theorem Qr (hC:kG P A C) (hP:jh P A) {n nb:Nat} {ops:Array Oper} {Q:Exit→Act→World→Prop}: ∀{g:List (Nat × Oper × List Nat × List Nat)} {st st':St} {a:Act} {w:World} {I:Nat→Prop} {β:Nat→Option Nat},
  wz P A C n ops nb g st st'→(∀x∈g,ops[x.1]? =some x.2.1)→aD P w I β st.hp B M w0→iO P A.idle A.aC w I β n a st→
  (∀a' w' I' an,Le P w I β st.hp w' I' an st'.hp→aD P w' I' an st'.hp B M w0→iO P A.idle A.aC w' I' an n a' st'→Q .normal a' w')→wpOps P ops Q (g.map (·.1)) a w
 | [],st,st',a,w,I,β,h,_,S,hA,hQ=>by
  cases h
  exact hQ a w I β (Le.refl w I β _) S hA
 | x::g,st,st',a,w,I,β,h,ho,S,hA,hQ=>by
  obtain ⟨iP,h1,h2⟩:=h
  rw[List.map_cons,wpOps_cons]
  refine Qi hC hP (ho x (by simp)) S hA h1 fun a' w' I' an k1 k2 k3=> ?_
  exact Qr hC hP h2 (fun y hy=>ho y (List.mem_cons_of_mem _ hy)) k2 k3 fun a2 w2 I2 b9 m1 m2 m3=>hQ a2 w2 I2 b9 (k1.trans m1) m2 m3
end
section
variable {P:Program} {A:cH} {w w':World} {I I' I2:Nat→Prop} {μ β an:Nat→Option Nat} {hp hp':Nat→Option ag} {C:ae} {B:Nat} {M:Nat→Prop} {w0:Start}
inductive ud (ops:Array Oper):Nat→Nat→Prop
 | Qs {i x:Nat} {o:Oper} {e:Edge}:ops[i]? =some o→e∈o.after→Region.binds .any e=true→e.on=x→ud ops i x
 | trans {i x:Nat} {o:Oper} {e:Edge}:ops[i]? =some o→e∈o.after→Region.binds .any e=true→ud ops e.on x→ud ops i x
theorem Qt {acc:Array Nat} {x:Nat}: ∀{l:List Edge} {s:Nat},(l.foldl (fun s e=>if Region.binds .any e then s|||2^e.on|||acc.getD e.on 0 else s) s).testBit x=true→
  s.testBit x=true∨∃e∈l,Region.binds .any e=true∧(e.on=x∨(acc.getD e.on 0).testBit x=true)
 | [],s,h=> .inl h
 | e::l,s,h=>by
  simp only[List.foldl_cons] at h
  rcases Qt h with h1|⟨e',a,b⟩
  ·by_cases hb:Region.binds .any e=true
   ·rw[if_pos hb,Nat.testBit_or,Nat.testBit_or,Bool.or_eq_true,Bool.or_eq_true] at h1
    rcases h1 with (h1|h1)|h1
    ·exact .inl h1
    ·rw[Nat.testBit_two_pow] at h1
     exact .inr ⟨e,by simp,hb,.inl (by simpa using h1)⟩
    ·exact .inr ⟨e,by simp,hb,.inr h1⟩
   ·rw[if_neg hb] at h1
    exact .inl h1
  ·exact .inr ⟨e',List.mem_cons_of_mem _ a,b⟩
theorem Qu {ops:Array Oper} {x:Nat}: ∀{l:List Oper} {acc:Array Nat},(∀j o,l[j]? =some o→ops[acc.size+j]? =some o)→(∀j,(acc.getD j 0).testBit x=true→ud ops j x)→
  ∀j,((l.foldl (fun acc o=>acc.push (o.after.foldl (fun s e=>if Region.binds .any e then s|||2^e.on|||acc.getD e.on 0 else s) 0)) acc).getD j 0).testBit x=true→ud ops j x
 | [],acc,_,En,j,h=>En j h
 | o::l,acc,hl,En,j,h=>by
  simp only[List.foldl_cons] at h
  refine Qu (l:=l) ?_ ?_ j h
  ·intro j o' hj
   have:=hl (j+1) o' (by simpa using hj)
   rw[Array.size_push]
   rwa [show acc.size+1+j=acc.size+(j+1) by omega]
  ·intro k hk
   simp only[Array.getD_eq_getD_getElem?,Array.getElem?_push] at hk
   by_cases Jm:k=acc.size
   ·rw[if_pos Jm] at hk
    simp only[Option.getD_some] at hk
    rw[←Array.foldl_toList] at hk
    have ho:=hl 0 o rfl
    rw[Nat.add_zero] at ho
    rw[Jm]
    have su:(o.after.toList.foldl (fun s e=>if Region.binds .any e then s|||2^e.on|||acc.getD e.on 0 else s) 0).testBit x=true:=by simpa[Array.getD_eq_getD_getElem?] using hk
    rcases Qt su with h0|⟨e,he,hb,h1⟩
    ·simp at h0
    ·rcases h1 with h1|h1
     ·exact .Qs ho (Array.mem_toList_iff.1 he) hb h1
     ·exact .trans ho (Array.mem_toList_iff.1 he) hb (En _ h1)
   ·rw[if_neg Jm] at hk
    exact En k (by simpa[Array.getD_eq_getD_getElem?] using hk)
theorem aa1 {ops:Array Oper} {i x:Nat} (h:((Region.before ops).getD i 0).testBit x=true):ud ops i x:=by
 unfold Region.before at h
 rw[←Array.foldl_toList] at h
 refine Qu (l:=ops.toList) (acc:= #[]) (fun j o hj=>by simpa using hj) (fun j hj=>by simp at hj) i h
def Qv (ops:Array Oper) (listed:Array Bool):Prop:= ∀i o,ops[i]? =some o→listed.getD i false=true→∀e∈o.after,Region.binds .any e=true→listed.getD e.on false=true
theorem aa2 {ops:Array Oper} {listed:Array Bool} (hc:Qv ops listed) {i x:Nat} (h:ud ops i x) (hi: ∀o,ops[i]? =some o→∀e∈o.after,Region.binds .any e=true→listed.getD e.on false=true):listed.getD x false=true:=by
 induction h with
 | Qs ho he hb hx=>rw[←hx];exact hi _ ho _ he hb
 | trans ho he hb _ ih=>exact ih fun o' lV e' tN ax=>hc _ o' lV (hi _ ho _ he hb) e' tN ax
theorem Qw: ∀{l:List Oper} {k j:Nat} {o:Oper},yu k l=true→l[j]? =some o→∀e∈o.after,Region.binds .any e=true→e.on<k+j
 | [],k,j,o,_,h=>by simp at h
 | o'::l,k,j,o,hk,h=>by
  simp only[yu,Bool.and_eq_true] at hk
  cases j with
  | zero=>
   simp at h
   subst h
   intro e he hb
   have:=List.all_eq_true.1 hk.1 e (Array.mem_toList_iff.2 he)
   simp[hb] at this
   omega
  | succ j=>
   intro e he hb
   have:=Qw hk.2 (j:=j) (by simpa using h) e he hb
   omega
theorem Qx {ops:Array Oper} {tn:Array Nat}: ∀{l:Log},Dj ops tn l=true→l.Pairwise fun x y=>yr ops tn x y=true
 | [],_=> .nil
 | x::l,h=>by
  simp only[Dj,Bool.and_eq_true] at h
  exact .cons (fun y hy=>List.all_eq_true.1 h.1 y hy) (Qx h.2)
theorem Qy {listed:Array Bool} {i:Nat} (h:listed.getD i true=false):i<listed.size∧listed.getD i false=false:=by
 rcases Nat.lt_or_ge i listed.size with h'|h'
 ·refine ⟨h',?_⟩
  simpa[h'] using h
 ·simp[Array.getElem?_eq_none h'] at h
theorem Qz (hC:kG P A C) (hP:jh P A) {n nb:Nat} {ops:Array Oper} {Q:Exit→Act→World→Prop} (Eo:yu 0 ops.toList=true):
  ∀(fuel:Nat) {g:List (Nat × Oper × List Nat × List Nat)} {listed:Array Bool} {st st':St} {a:Act} {w:World} {I:Nat→Prop} {β:Nat→Option Nat},
  g.length=fuel→wz P A C n ops nb g st st'→(∀x∈g,ops[x.1]? =some x.2.1)→(g.map (·.1)).Pairwise (· < ·)→(g.map uc).Pairwise (fun x y=>yr ops (Region.before ops) x y=true)→
  listed.size=ops.size→(∀i,i<ops.size→(listed.getD i false=false↔i∈g.map (·.1)))→Qv ops listed→
  aD P w I β st.hp B M w0→iO P A.idle A.aC w I β n a st→
  (∀a' w' I' an,Le P w I β st.hp w' I' an st'.hp→aD P w' I' an st'.hp B M w0→iO P A.idle A.aC w' I' an n a' st'→Q .normal a' w')→wpAny P .any ops Q fuel listed a w
 | 0,g,listed,st,st',a,w,I,β,hf,hr,ho,aR,Ep,aZ,ue,jY,S,hA,hQ=>by
  obtain rfl:g=[]:=List.eq_nil_of_length_eq_zero hf
  cases hr
  refine ⟨?_,hQ a w I β (Le.refl w I β _) S hA⟩
  rw[List.eq_nil_iff_forall_not_mem]
  intro i hi
  obtain ⟨h0,_⟩:=mem_ready.1 hi
  obtain ⟨h1,h2⟩:=Qy h0
  have:=(ue i (by omega)).1 h2
  simp at this
 | fuel+1,g,listed,st,st',a,w,I,β,hf,hr,ho,aR,Ep,aZ,ue,jY,S,hA,hQ=>by
  refine ⟨fun zo=> ?_,fun i hi=> ?_⟩
  ·exfalso
   cases g with
   | nil=>simp at hf
   | cons x g=>
    have hx:=ho x (by simp)
    have gB:x.1<ops.size:=(Array.getElem?_eq_some_iff.1 hx).1
    have dX:x.1∈Region.ready .any ops listed:=by
     rw[mem_ready]
     have h0:=(ue x.1 gB).2 (by simp)
     refine ⟨?_,x.2.1,hx,fun e he hb=> ?_⟩
     ·have hl:x.1<listed.size:=by omega
      simpa[hl] using h0
     ·have IE:=Qw Eo (j:=x.1) (by simpa using hx) e he hb
      rw[Nat.zero_add] at IE
      cases hle:listed.getD e.on false with
      | true=>rfl
      | false=>
       have hm:=(ue e.on (by omega)).1 hle
       simp only[List.map_cons,List.mem_cons] at hm
       rw[List.map_cons,List.pairwise_cons] at aR
       rcases hm with hm|hm
       ·omega
       ·have:=aR.1 _ hm;omega
    rw[zo] at dX
    cases dX
  ·obtain ⟨h0,oi,zq,QA⟩:=mem_ready.1 hi
   obtain ⟨h1,h2⟩:=Qy h0
   have hig:=(ue i (by omega)).1 h2
   obtain ⟨y,hy,hyi⟩:=List.mem_map.1 hig
   obtain ⟨g1,g2,rfl⟩:=List.append_of_mem hy
   subst hyi
   have QB:=ho y hy
   rw[zq] at QB
   have QC:oi=y.2.1:=Option.some.inj QB
   have j4:((g1++y::g2).map (·.1)).Nodup:=aR.imp fun h=>Nat.ne_of_lt h
   have aa3: ∀x∈g1,Qp ops x y:=by
    intro x hx
    have hp:yr ops (Region.before ops) (uc x) (uc y)=true:=by
     rw[List.map_append,List.map_cons,List.pairwise_append] at Ep
     exact Ep.2.2 _ (List.mem_map.2 ⟨x,hx,rfl⟩) _ (by simp)
    have QD:=ho x (List.mem_append.2 (.inl hx))
    unfold yr at hp
    rw[Bool.or_eq_true] at hp
    rcases hp with hp|hp
    ·have hl:=aa2 jY (aa1 hp) fun o lV e he hb=>by
      have:o=oi:=by
       have h3:ops[y.1]? =some o:=lV
       rw[zq] at h3
       exact (Option.some.inj h3).symm
      subst this
      exact QA e he hb
     have gB:x.1<ops.size:=(Array.getElem?_eq_some_iff.1 QD).1
     have:=(ue x.1 gB).2 (List.mem_map.2 ⟨x,List.mem_append.2 (.inl hx),rfl⟩)
     rw[show (uc x).1=x.1 from rfl,this] at hl
     cases hl
    ·simp only[uc,Array.getD_eq_getD_getElem?,QD,zq,Option.getD_some,Bool.and_eq_true,Bool.not_eq_true'] at hp
     obtain ⟨q1,q2,q3⟩:=hp
     refine ⟨QC▸q1,fun id ab=> ?_,fun id ab=>Eb q3 ab⟩
     have:=Eb q2 ab
     rw[List.mem_append] at this
     exact ⟨fun h=>this (.inl h),fun h=>this (.inr h)⟩
   obtain ⟨iP,jv,jA⟩:=Qq hr aa3
   rw[←QC] at jv
   refine Qi hC hP zq S hA jv fun a' w' I' an k1 k2 k3=> ?_
   have il:List.Sublist (g1++g2) (g1++y::g2):=List.Sublist.append_left (List.sublist_cons_self y g2) g1
   have n9: ∀j,j≠y.1→(listed.setIfInBounds y.1 true).getD j false=listed.getD j false:=fun j hj=>getD_set_ne false (Ne.symm hj)
   refine Qz hC hP Eo fuel (g:=g1++g2) (st':=st') ?_ jA (fun x hx=>ho x (il.subset hx)) (aR.sublist (il.map _)) (Ep.sublist (il.map _)) (by simp[aZ]) (fun j hj=> ?_) (fun j o Jn dg e he hb=> ?_) k2 k3 fun a2 w2 I2 b9 m1 m2 m3=>hQ a2 w2 I2 b9 (k1.trans m1) m2 m3
   ·simp at hf⊢;omega
   ·by_cases pg:j=y.1
    ·subst pg
     have hl:y.1<listed.size:=by omega
     simp only[Array.getD_eq_getD_getElem?,Array.getElem?_setIfInBounds_self_of_lt hl,Option.getD_some]
     refine ⟨fun h=>(by cases h),fun h=> ?_⟩
     exfalso
     rw[List.map_append,List.map_cons,List.nodup_append,List.nodup_cons] at j4
     rw[List.map_append,List.mem_append] at h
     rcases h with h|h
     ·exact j4.2.2 _ h _ (by simp) rfl
     ·exact j4.2.1.1 h
    ·rw[n9 j pg,ue j hj]
     simp only[List.map_append,List.map_cons,List.mem_append,List.mem_cons]
     constructor
     ·rintro (h|h|h)
      ·exact .inl h
      ·exact absurd h pg
      ·exact .inr h
     ·rintro (h|h)
      ·exact .inl h
      ·exact .inr (.inr h)
   ·by_cases pg:j=y.1
    ·subst pg
     rw[zq] at Jn
     cases Jn
     exact getD_set_true (QA e he hb)
    ·rw[n9 j pg] at dg
     exact getD_set_true (jY j o Jn dg e he hb)
end
section
variable {P:Program} {A:cH} {w w':World} {I I' I2:Nat→Prop} {μ β an:Nat→Option Nat} {hp hp':Nat→Option ag} {C:ae} {B:Nat} {M:Nat→Prop} {w0:Start}
theorem QE: ∀{l:List Oper} {k j:Nat},(n7 k l)[j]? =(l[j]?).map fun o=>(k+j,o)
 | [],k,j=>by simp[n7]
 | o::l,k,0=>by simp[n7]
 | o::l,k,j+1=>by
  simp only[n7,List.getElem?_cons_succ,QE]
  congr 1
  funext o
  rw[show k+1+j=k+(j+1) by omega]
theorem QF: ∀{l:List Oper} {k:Nat},(n7 k l).map (·.1)=List.range' k l.length
 | [],k=>rfl
 | o::l,k=>by simp[n7,QF,List.range'_succ]
theorem aa4 (hC:kG P A C) (hP:jh P A) (hm:P.follows .mixedOrders=true) {n id:Nat} {ops:Array Oper} {draw:Bool} {st st':St} {a:Act} {Q:Exit→Act→World→Prop}
  (h:vK P A C n ops draw st=some st') (S:aD P w I β st.hp B M w0) (hA:iO P A.idle A.aC w I β n a st)
  (hQ: ∀a' w' I' an,Le P w I β st.hp w' I' an st'.hp→aD P w' I' an st'.hp B M w0→iO P A.idle A.aC w' I' an n a' st'→Q .normal a' w'):(Code.region id ops draw).wp P Q a w:=by
 obtain ⟨⟨iP,log⟩,h1,h2⟩:=bind_some h
 obtain ⟨g,g1,g2,g3⟩:=Qo h1
 have Er:g.map (·.1)=List.range ops.size:=by
  have:g.map (·.1)=(g.map fun x=>(x.1,x.2.1)).map (·.1):=by simp
  rw[this,g1,QF,List.range_eq_range']
  simp
 have QG: ∀x∈g,ops[x.1]? =some x.2.1:=by
  intro x hx
  have:(x.1,x.2.1)∈n7 0 ops.toList:=by rw[←g1];exact List.mem_map.2 ⟨x,hx,rfl⟩
  obtain ⟨j,hj⟩:=List.mem_iff_getElem?.1 this
  rw[QE] at hj
  cases ho:ops.toList[j]? with
  | none=>rw[ho] at hj;cases hj
  | some o=>
   rw[ho] at hj
   simp only[Option.map_some,Nat.zero_add,Option.some.injEq,Prod.mk.injEq] at hj
   rw[←hj.1,←hj.2]
   simpa using ho
 cases draw with
 | false=>
  simp only[Bool.not_false,Bool.true_or,cond_true] at h2
  cases h2
  refine wp_region ?_
  rw[←Er]
  exact Qr hC hP g3 QG S hA hQ
 | true=>
  simp only[Bool.not_true,Bool.false_or] at h2
  cases hc:(Region.noSelect ops&&yv ops log) with
  | false=>rw[hc] at h2;cases h2
  | true=>
   rw[hc] at h2
   cases h2
   simp only[Bool.and_eq_true,yv] at hc
   obtain ⟨hns,Eo,aa5⟩:=hc
   simp only[List.nil_append] at g2
   refine wp_region_any hm ?_
   have hlen:g.length=ops.size:=by
    have:=congrArg List.length Er
    simpa using this
   refine Qz hC hP Eo ops.size (g:=g) (st':=st') hlen g3 QG (by rw[Er];exact List.pairwise_lt_range) (by rw[←g2];exact Qx aa5) (by simp) (fun i hi=> ?_) (fun i o ho hl=> ?_)
    (w:=w.drew) S.drew ⟨fun k=>(hA.sl k).mono (Le.drew w I β _),hA.size,hA.defers,hA.aC.mono (Le.drew (P:=P) w I β st.hp).dz (Le.drew (P:=P) w I β st.hp).cg⟩ fun a' w' I' an k1 k2 k3=>hQ a' w' I' an ((Le.drew w I β _).trans k1) k2 k3
   ·rw[Er]
    simp[hi]
   ·have hi:=(Array.getElem?_eq_some_iff.1 ho).1
    simp[hi] at hl
end
section
variable {P:Program} {A:cH} {E:FuncId→Bool} {G:Nat→V} {w w':World} {I I' I2:Nat→Prop} {μ β an:Nat→Option Nat} {hp hp':Nat→Option ag} {C:ae} {B:Nat} {M:Nat→Prop} {w0:Start}
theorem uf: ∀{l:List Nat} {hp:Nat→Option ag} {I:Nat→Prop},aD P w I β hp B M w0→∃I',Le P w I β hp w I' β (tm hp l)∧aD P w I' β (tm hp l) B M w0
 | [],hp,I,S=>⟨I,Le.refl w I β hp,S⟩
 | id::l,hp,I,S=>by
  simp only[tm]
  cases ab:hp id with
  | none=>exact uf S
  | some blk=>
   cases blk with
   | dead=>exact uf S
   | var _=>exact uf S
   | map _ _=>exact uf S
   | arr e es fz=>
    obtain ⟨h1,h2⟩:=yJ S (upd:=[(id,.arr e es true)]) (fun p hp=>by
     simp only[List.mem_singleton] at hp
     subst hp
     exact ⟨e,es,rfl,.inl ⟨fz,ab⟩⟩)
    obtain ⟨I',h3,h4⟩:=uf (l:=l) h2
    exact ⟨I',h1.trans h3,h4⟩
   | nest e es ai=>
    obtain ⟨h1,h2⟩:=yJ S (upd:=[(id,.arr e es true)]) (fun p hp=>by
     simp only[List.mem_singleton] at hp
     subst hp
     exact ⟨e,es,rfl,.inr ⟨ai,ab⟩⟩)
    obtain ⟨I',h3,h4⟩:=uf (l:=l) h2
    exact ⟨I',h1.trans h3,h4⟩
theorem QH {n m:Nat} {pur:List Nat} {a:Act} {st:St} (S:aD P w I β st.hp B M w0) (hA:iO P E G w I β n a st):
  ∃I',Le P w I β st.hp w I' β (freeze m pur st).hp∧aD P w I' β (freeze m pur st).hp B M w0∧iO P E G w I' β n a (freeze m pur st):=by
 obtain ⟨I',h1,h2⟩:=uf (l:=(Od st pur).filter fun id=>Nat.ble m id) S
 exact ⟨I',h1,h2,fun k=>(hA.sl k).mono h1,hA.size,hA.defers,hA.aC.mono h1.dz h1.cg⟩
structure wA (hp:Nat→Option ag) (β:Nat→Option Nat) (ord:List Nat) (hp':Nat→Option ag) (an:Nat→Option Nat):Prop where
 arr: ∀(j:Nat) id e es fz,ord[j]? =some id→hp id=some (.arr e es fz)→hp' j=some (.arr e es fz)
 var: ∀(j:Nat) id T cs,ord[j]? =some id→hp id=some (.var T cs)→∃ik,hp' j=some (.var T ik)
 dead: ∀(j:Nat) id,ord[j]? =some id→hp id=some .dead→hp' j=some .dead
 place: ∀(j:Nat) id,ord[j]? =some id→an j=β id
 nest: ∀(j:Nat) id e es ai,ord[j]? =some id→hp id=some (.nest e es ai)→hp' j=some (.nest e es (ai.map fun _=>0))
 map: ∀(j:Nat) id t es,ord[j]? =some id→hp id=some (.map t es)→hp' j=some (.map t es)
theorem ln: ∀{l:List Nat} {n i j:Nat},hO l n i=some j→∃k,j=i+k∧l[k]? =some n
 | [],n,i,j,h=>by cases h
 | a::l,n,i,j,h=>by
  simp only[hO] at h
  cases hb:Nat.beq n a with
  | true=>
   rw[hb] at h
   cases h
   rw[Nat.beq_eq] at hb
   exact ⟨0,rfl,by rw[hb];rfl⟩
  | false=>
   rw[hb] at h
   obtain ⟨k,h1,h2⟩:=ln h
   exact ⟨k+1,by omega,by simpa using h2⟩
def kH (hp':Nat→Option ag) (an:Nat→Option Nat) (n:Nat) (bs:List ag):Prop:=
 ∀(k:Nat) b,bs[k]? =some b→hp' (n+k)=some b∧an (n+k)=none
theorem Jo: ∀(ai:List Nat) (k:Nat),bD (ai.map fun _=>0) k=0
 | [],_=>rfl
 | _::_,0=>rfl
 | _::vs,k+1=>Jo vs k
theorem QI {e:TypeId} {es:List V} {ai:List Nat} {path:Path} {ver:Nat} (hc:(Nat.blt 0 path.length&&(Nat.ble path.length ai.length&&Nat.beq (bD ai (path.length-1)) ver))=true)
  (h:(ag.nest e es ai).tt path ver):False:=by
 simp only[Bool.and_eq_true,Nat.blt_eq,Nat.ble_eq,Nat.beq_eq] at hc
 obtain ⟨h1,h2,h3⟩:=hc
 rcases h with h|h|h
 ·subst h;simp at h1
 ·omega
 ·omega
theorem QJ (S:aD P w I β hp B M w0) {ord:List Nat} (hR:wA hp β ord hp' an) {v:Value} {x:V} (hv:ah P w I β hp v x):ah P w I an hp' v (hY hp ord x):=by
 cases hv with
 | undef=>exact .undef
 | int=>exact .int
 | bool=>exact .bool
 | str h=>exact .str h
 | list h=>exact .list h
 | nilS=>exact .nilS
 | agg=>exact .undef
 | bh=>exact .undef
 | dE=>exact .dE
 | fn=>exact .undef
 | pref a b c=>exact .pref a b c
 | @ey _ e id ab=>
  simp only[hY]
  cases bx:hO ord id 0 with
  | none=>simp only[ab];exact .undef
  | some j=>
   obtain ⟨k,rfl,hk⟩:=ln bx
   exact .ey (hR.dead _ id (by simpa using hk) ab)
 | @gk _ e id off len ab=>
  simp only[hY]
  cases bx:hO ord id 0 with
  | none=>simp only[ab];exact .undef
  | some j=>
   obtain ⟨k,rfl,hk⟩:=ln bx
   exact .gk (hR.dead _ id (by simpa using hk) ab)
 | @jT _ id i c ab=>
  simp only[hY]
  cases bx:hO ord id 0 with
  | none=>exact .undef
  | some j=>
   obtain ⟨k,rfl,hk⟩:=ln bx
   exact .jT (hR.dead _ id (by simpa using hk) ab)
 | @dU e id fz _ ab hb=>
  simp only[hY]
  cases bx:hO ord id 0 with
  | none=>
   simp only[ab]
   cases fz with
   | false=>exact .undef
   | true=>simp only[Nat.beq_refl,cond_true];exact .list (.any fun _=>rfl)
  | some j=>
   obtain ⟨k,rfl,hk⟩:=ln bx
   have dJ:ord[0+k]? =some id:=by simpa using hk
   exact .dU (hR.arr _ id _ _ _ dJ ab) ((hR.place _ id dJ).trans hb)
 | @whole e id es fz b cap ab hb aZ cd hm=>
  simp only[hY]
  cases bx:hO ord id 0 with
  | none=>
   simp only[ab]
   cases fz with
   | false=>exact .undef
   | true=>
    simp only[Nat.beq_refl,cond_true]
    have hr:=S.h.rel id _ ab
    cases hr with
    | dV ax=>rw[ax] at hb;cases hb
    | arr au ax hh hs hf ez hx=>
     rw[hb] at ax;cases ax
     have:=tz (I':=I) (off:=0) (len:=es.length) (o:=0) hh hx (fG au) (by omega) cd (fun _=>by simp) (fun _ h=>h) (hf rfl)
     exact .list (by simpa using this)
  | some j=>
   obtain ⟨k,rfl,hk⟩:=ln bx
   have dJ:ord[0+k]? =some id:=by simpa using hk
   exact .whole (hR.arr _ id _ _ _ dJ ab) ((hR.place _ id dJ).trans hb) aZ cd hm
 | @fT e id fz _ ab hb=>
  simp only[hY]
  cases bx:hO ord id 0 with
  | none=>
   simp only[ab]
   cases fz with
   | false=>exact .undef
   | true=>simp only[Nat.beq_refl,cond_true];exact .list (by simpa using (iG.any (P:=P) fun _=>rfl))
  | some j=>
   obtain ⟨k,rfl,hk⟩:=ln bx
   have dJ:ord[0+k]? =some id:=by simpa using hk
   exact .fT (hR.arr _ id _ _ _ dJ ab) ((hR.place _ id dJ).trans hb)
 | @sub e id off len es fz b o cap ab hb jc cd ho=>
  simp only[hY]
  cases bx:hO ord id 0 with
  | none=>
   simp only[ab]
   cases fz with
   | false=>exact .undef
   | true=>
    simp only[Nat.beq_refl,cond_true]
    have hr:=S.h.rel id _ ab
    cases hr with
    | dV ax=>rw[ax] at hb;cases hb
    | arr au ax hh hs hf ez hx=>
     rw[hb] at ax;cases ax
     exact .list (tz (I':=I) hh hx (fG au) jc cd ho (fun _ h=>h) (hf rfl))
  | some j=>
   obtain ⟨k,rfl,hk⟩:=ln bx
   have dJ:ord[0+k]? =some id:=by simpa using hk
   exact .sub (hR.arr _ id _ _ _ dJ ab) ((hR.place _ id dJ).trans hb) jc cd ho
 | @ptr id i c b blk ab hd hb=>
  simp only[hY]
  cases bx:hO ord id 0 with
  | none=>exact .undef
  | some j=>
   obtain ⟨k,rfl,hk⟩:=ln bx
   have dJ:ord[0+k]? =some id:=by simpa using hk
   cases blk with
   | dead=>exact absurd rfl hd
   | var T0 cs=>
    obtain ⟨ik,h'⟩:=hR.var _ id T0 cs dJ ab
    exact .ptr (blk:= .var T0 ik) h' (by simp) ((hR.place _ id dJ).trans hb)
   | arr e es fz=>exact .ptr (blk:= .arr e es fz) (hR.arr _ id _ _ _ dJ ab) (by simp) ((hR.place _ id dJ).trans hb)
   | nest e es ai=>exact .ptr (blk:= .nest e es (ai.map fun _=>0)) (hR.nest _ id _ _ _ dJ ab) (by simp) ((hR.place _ id dJ).trans hb)
   | map t es=>exact .ptr (blk:= .map t es) (hR.map _ id _ _ dJ ab) (by simp) ((hR.place _ id dJ).trans hb)
 | dF=>exact .dF
 | @ic _ t id ab=>
  simp only[hY]
  cases bx:hO ord id 0 with
  | none=>exact .undef
  | some j=>
   obtain ⟨k,rfl,hk⟩:=ln bx
   exact .ic (hR.dead _ id (by simpa using hk) ab)
 | @bX t id b es ab hb=>
  simp only[hY]
  cases bx:hO ord id 0 with
  | none=>exact .undef
  | some j=>
   obtain ⟨k,rfl,hk⟩:=ln bx
   have dJ:ord[0+k]? =some id:=by simpa using hk
   exact .bX (hR.map _ id _ _ dJ ab) ((hR.place _ id dJ).trans hb)
 | @eH e id es ai b cap ab hb aZ cd hm=>
  simp only[hY]
  cases bx:hO ord id 0 with
  | none=>simp only[ab];exact .undef
  | some j=>
   obtain ⟨k,rfl,hk⟩:=ln bx
   have dJ:ord[0+k]? =some id:=by simpa using hk
   exact .eH (hR.nest _ id _ _ _ dJ ab) ((hR.place _ id dJ).trans hb) aZ cd hm
 | @jr v e id ver path blk ab yH=>
  simp only[hY]
  split
  ·rename_i j e1 cm ai h1 h2
   rw[ab] at h2
   cases h2
   cases hc:(Nat.blt 0 path.length&&(Nat.ble path.length ai.length&&Nat.beq (bD ai (path.length-1)) ver)) with
   | false=>exact .undef
   | true=>exact (QI hc yH).elim
  ·exact .undef
 | @js v id ver i c path blk ab yH=>
  simp only[hY]
  split
  ·rename_i j e1 cm ai h1 h2
   rw[ab] at h2
   cases h2
   cases hc:(Nat.blt 0 path.length&&(Nat.ble path.length ai.length&&Nat.beq (bD ai (path.length-1)) ver)) with
   | false=>exact .undef
   | true=>exact (QI hc yH).elim
  ·exact .undef
 | @row v e e0 t id ver b i c q es l ai ab hb hq hv ht hc=>
  simp only[hY]
  split
  ·rename_i j e1 cm tY h1 h2
   obtain ⟨k,rfl,hk⟩:=ln h1
   have dJ:ord[0+k]? =some id:=by simpa using hk
   cases hx:(Nat.blt 0 (q++[(i,c)]).length&&(Nat.ble (q++[(i,c)]).length tY.length&&Nat.beq (bD tY ((q++[(i,c)]).length-1)) ver)) with
   | false=>exact .undef
   | true=>exact .row (hR.nest _ id _ _ _ dJ ab) ((hR.place _ id dJ).trans hb) (by simpa using hq) (Jo _ _) ht hc
  ·exact .undef
 | @cG e e0 t id ver b b1 len cap i0 c0 i c q es l ai ab hb hq hv ht lU hc=>
  simp only[hY]
  split
  ·rename_i j e1 cm tY h1 h2
   obtain ⟨k,rfl,hk⟩:=ln h1
   have dJ:ord[0+k]? =some id:=by simpa using hk
   cases hx:(Nat.blt 0 (q++[(i0,c0)]).length&&(Nat.ble (q++[(i0,c0)]).length tY.length&&Nat.beq (bD tY ((q++[(i0,c0)]).length-1)) ver)) with
   | false=>exact .undef
   | true=>exact .cG (hR.nest _ id _ _ _ dJ ab) ((hR.place _ id dJ).trans hb) (by simpa using hq) (Jo _ _) ht lU hc
  ·exact .undef
theorem QK (S:aD P w I β hp B M w0) {ord:List Nat} (hR:wA hp β ord hp' an) {vs:Array Value} {xs:List V} (h: ∀(j:Nat) v x,vs[j]? =some v→xs[j]? =some x→ah P w I β hp v x) (j:Nat) (v:Value) (y:V)
  (hv:vs[j]? =some v) (hy:(xs.map (hY hp ord))[j]? =some y):ah P w I an hp' v y:=by
 rw[List.getElem?_map] at hy
 cases hx:xs[j]? with
 | none=>rw[hx] at hy;cases hy
 | some x=>rw[hx] at hy;cases hy;exact QJ S hR (h j v x hv hx)
theorem QL (S:aD P w I β hp B M w0) {ord:List Nat} (hR:wA hp β ord hp' an) {n:Nat} {v:Value} {x:V} (hv:ah P w I β hp v x) (hF:kH hp' an n (vI hp ord n x).2):
  ah P w I an hp' v (vI hp ord n x).1:=by
 cases x with
 | nilS e=>
  obtain ⟨h1,h2⟩:=hF 0 _ rfl
  cases hv with
  | nilS=>exact .dU h1 h2
 | fn f a b=>
  cases hv with
  | fn q1 q2 q3 q4=>exact .fn (by simpa using q1) (QK S hR q2) (by simpa using q3) (QK S hR q4)
 | _=>exact QJ S hR hv
end
section
variable {P:Program} {A:cH} {w w':World} {I I' I2:Nat→Prop} {μ β an:Nat→Option Nat} {hp hp':Nat→Option ag} {C:ae} {B:Nat} {M:Nat→Prop} {w0:Start}
theorem kH.left {n:Nat} {a b:List ag} (h:kH hp' an n (a++b)):kH hp' an n a:=fun k x hx=>
 h k x (by rw[List.getElem?_append_left (List.getElem?_eq_some_iff.1 hx).1];exact hx)
theorem kH.right {n:Nat} {a b:List ag} (h:kH hp' an n (a++b)):kH hp' an (n+a.length) b:=fun k x hx=>by
 have:=h (a.length+k) x (by rw[List.getElem?_append_right (by omega),Nat.add_sub_cancel_left];exact hx)
 rwa [←Nat.add_assoc] at this
def mg (bs:List ag):Prop:= ∀b∈bs,∃e,b= .arr e [] false
theorem mg.app {a b:List ag} (h1:mg a) (h2:mg b):mg (a++b):=fun x hx=>(List.mem_append.1 hx).elim (h1 x) (h2 x)
theorem mg.nil:mg []:=fun x hx=>by simp at hx
theorem QM {ord:List Nat} {n:Nat} {x:V}:mg (vI hp ord n x).2:=by
 cases x<;>simp only[vI]<;>first|exact .nil|skip
 intro b hb
 simp only[List.mem_singleton] at hb
 exact ⟨_,hb⟩
theorem Jp {ord:List Nat}: ∀{xs:List V} {n:Nat},mg (mN hp ord n xs).2
 | [],n=> .nil
 | x::xs,n=>by
  simp only[mN]
  exact QM.app Jp
theorem Es {ord:List Nat}: ∀{xs:List V} {n:Nat},(mN hp ord n xs).1.length=xs.length
 | [],n=>rfl
 | x::xs,n=>by simp only[mN,List.length_cons,Es]
theorem Et (S:aD P w I β hp B M w0) {ord:List Nat} (hR:wA hp β ord hp' an): ∀{xs:List V} {vs:List Value} {n:Nat},(∀(j:Nat) v x,vs[j]? =some v→xs[j]? =some x→ah P w I β hp v x)→
  kH hp' an n (mN hp ord n xs).2→∀(j:Nat) v y,vs[j]? =some v→(mN hp ord n xs).1[j]? =some y→ah P w I an hp' v y
 | [],vs,n,h,hF,j,v,y,hv,hy=>by simp[mN] at hy
 | x::xs,vs,n,h,hF,j,v,y,hv,hy=>by
  simp only[mN] at hF hy
  cases j with
  | zero=>
   simp at hy
   subst hy
   exact QL S hR (h 0 v x hv rfl) hF.left
  | succ j=>
   cases vs with
   | nil=>simp at hv
   | cons v0 vs=>exact Et S hR (vs:=vs) (fun j v x hj hx=>h (j+1) v x (by simpa using hj) (by simpa using hx)) hF.right j v y (by simpa using hv) (by simpa using hy)
theorem aa6 {ord:List Nat} {n:Nat} {x:V}:mg (qd hp ord n x).2:=by
 cases x<;>simp only[qd]<;>first|exact QM|exact Jp
theorem aa7 (S:aD P w I β hp B M w0) {ord:List Nat} (hR:wA hp β ord hp' an) {n:Nat} {v:Value} {x:V} (hv:ah P w I β hp v x) (hF:kH hp' an n (qd hp ord n x).2):
  ah P w I an hp' v (qd hp ord n x).1:=by
 cases x with
 | agg cs=>
  obtain ⟨ds,rfl,h1,h2⟩:=hv.kB
  simp only[qd] at hF⊢
  exact .agg (by rw[Es];exact h1) fun j v y hj hy=>Et S hR (vs:=ds.toList) (fun j v x hj hx=>h2 j v x (by simpa using hj) hx) hF j v y (by simpa using hj) hy
 | bh cs=>
  obtain ⟨ds,rfl,h1,h2⟩:=hv.tD
  simp only[qd] at hF⊢
  exact .bh (by rw[Es];exact h1) fun j v y hj hy=>Et S hR (vs:=ds.toList) (fun j v x hj hx=>h2 j v x (by simpa using hj) hx) hF j v y (by simpa using hj) hy
 | _=>exact QL S hR hv hF
theorem QN {ord:List Nat} {sl:Nat→V}: ∀{l:List Nat} {n:Nat},mg (kY hp ord sl n l).2
 | [],n=> .nil
 | s::l,n=>by
  simp only[kY]
  exact aa6.app QN
theorem QO {ord:List Nat} {sl:Nat→V} {k:Nat} {y:V}: ∀{l:List Nat} {n:Nat},kH hp' an n (kY hp ord sl n l).2→dS (kY hp ord sl n l).1 k=some y→
  ∃n',kH hp' an n' (qd hp ord n' (sl k)).2∧y=(qd hp ord n' (sl k)).1
 | [],n,_,h=>by cases h
 | s::l,n,hF,h=>by
  simp only[kY] at hF h
  simp only[dS] at h
  cases hb:Nat.beq k s with
  | true=>
   rw[hb] at h
   rw[Nat.beq_eq] at hb
   subst hb
   cases h
   exact ⟨n,hF.left,rfl⟩
  | false=>
   rw[hb] at h
   exact QO hF.right h
theorem aa8 {ord:List Nat} {n id:Nat}:mg (e9 hp ord n id).2:=by
 unfold e9
 split
 ·exact Jp
 ·exact .nil
 ·exact .nil
 ·exact .nil
 ·exact .nil
theorem QP {ord:List Nat}: ∀{l:List Nat} {n:Nat},mg (fF hp ord n l).2
 | [],n=> .nil
 | s::l,n=>by
  simp only[fF]
  exact aa8.app QP
theorem QQ {ord:List Nat}: ∀{l:List Nat} {n:Nat},(fF hp ord n l).1.length=l.length
 | [],n=>rfl
 | x::xs,n=>by simp only[fF,List.length_cons,QQ]
theorem QR {ord:List Nat}: ∀{l:List Nat} {n j:Nat} {id:Nat},l[j]? =some id→∃n',(kH hp' an n (fF hp ord n l).2→kH hp' an n' (e9 hp ord n' id).2)∧(fF hp ord n l).1[j]? =some (e9 hp ord n' id).1
 | [],n,j,id,h=>by simp at h
 | s::l,n,j,id,h=>by
  simp only[fF]
  cases j with
  | zero=>
   simp at h
   subst h
   exact ⟨n,fun hF=>hF.left,rfl⟩
  | succ j=>
   obtain ⟨n',h1,h2⟩:=QR (n:=n+(e9 hp ord n s).2.length) (j:=j) (by simpa using h)
   exact ⟨n',fun hF=>h1 hF.right,by simpa using h2⟩
theorem Eu: ∀{l acc:List Nat},∃t,tk hp acc l=acc++t∧(acc.Nodup→(acc++t).Nodup)
 | [],acc=>⟨[],by simp[tk],by simp⟩
 | id::l,acc=>by
  simp only[tk]
  cases hb:(jM acc id|| !(HO hp id)) with
  | true=>exact Eu
  | false=>
   obtain ⟨t,h1,h2⟩:=Eu (l:=l) (acc:=acc++[id])
   refine ⟨id::t,by simp only[cond_false,h1,List.append_assoc,List.singleton_append],fun hn=> ?_⟩
   have:acc++id::t=(acc++[id])++t:=by simp
   rw[this]
   refine h2 ?_
   rw[List.nodup_append]
   refine ⟨hn,by simp,fun a ha b ax=> ?_⟩
   simp only[List.mem_singleton] at ax
   subst ax
   intro e
   subst e
   rw[vX ha] at hb
   cases hb
theorem QS: ∀{n:Nat} {l:List Nat},∃t,grow hp n l=l++t∧(l.Nodup→(l++t).Nodup)
 | 0,l=>⟨[],by simp[grow],by simp⟩
 | n+1,l=>by
  simp only[grow]
  obtain ⟨t,h1,h2⟩:=Eu (hp:=hp) (acc:=l) (l:=l.flatMap (HP hp))
  rw[h1]
  obtain ⟨t',h3,h4⟩:=QS (n:=n) (l:=l++t)
  exact ⟨t++t',by rw[h3,List.append_assoc],fun hn=>by rw[←List.append_assoc];exact h4 (h2 hn)⟩
theorem aa9 {m:Nat} {live:List Nat} {st:St}: ∃t,HQ m live st=List.range m++t∧(List.range m++t).Nodup:=by
 unfold HQ
 obtain ⟨t,h1,h2⟩:=Eu (hp:=st.hp) (acc:=List.range m) (l:=live.flatMap fun s=>HN (st.sl s))
 rw[h1]
 obtain ⟨t',h3,h4⟩:=QS (hp:=st.hp) (n:=3) (l:=List.range m++t)
 exact ⟨t++t',by rw[h3,List.append_assoc],by rw[←List.append_assoc];exact h4 (h2 List.nodup_range)⟩
end
section
variable {P:Program} {A:cH} {E:FuncId→Bool} {G:Nat→V} {w w':World} {I I' I2:Nat→Prop} {μ β an:Nat→Option Nat} {hp hp' hp0:Nat→Option ag} {C:ae} {B:Nat} {M:Nat→Prop} {w0:Start}
theorem QT {n m:Nat} {ord live:List Nat} {a:Act} {st:St} (mT:ord.Nodup) (zr: ∀id,id<m→ord[id]? =some id∨∃p,ord[id]? =some p∧st.hp p=none) (S:aD P w I β st.hp B M w0) (hA:iO P E G w I β n a st) (hE:kF w0.w w0.I μ hp0 w I β st.hp) (hm: ∀id blk,hp0 id=some blk→id<m) (ji: ∀id e es ai,hp0 id=some (.nest e es ai)→∀k,bD ai k=0):
  ∃an,aD P w I an (vJ ord live st).hp B M w0∧iO P E G w I an n a (vJ ord live st)∧kF w0.w w0.I μ hp0 w I an (vJ ord live st).hp:=by
 have aba:vJ ord live st=mk (kY st.hp ord st.sl (ord.length+(fF st.hp ord ord.length ord).2.length) live).1
   ((fF st.hp ord ord.length ord).1++((fF st.hp ord ord.length ord).2++(kY st.hp ord st.sl (ord.length+(fF st.hp ord ord.length ord).2.length) live).2)):=by
  rfl
 rw[aba]
 let hp':=jq ((fF st.hp ord ord.length ord).1++((fF st.hp ord ord.length ord).2++(kY st.hp ord st.sl (ord.length+(fF st.hp ord ord.length ord).2.length) live).2))
 let an:Nat→Option Nat:=fun j=>if j<ord.length then (ord[j]?).bind β else none
 have hlen:(fF st.hp ord ord.length ord).1.length=ord.length:=QQ
 have iM: ∀j,j<ord.length→hp' j=(fF st.hp ord ord.length ord).1[j]? :=by
  intro j hj
  simp only[hp',gQ]
  rw[List.getElem?_append_left (by omega)]
 have gP: ∀k,hp' (ord.length+k)=((fF st.hp ord ord.length ord).2++(kY st.hp ord st.sl (ord.length+(fF st.hp ord ord.length ord).2.length) live).2)[k]? :=by
  intro k
  simp only[hp',gQ]
  rw[List.getElem?_append_right (by omega),hlen,Nat.add_sub_cancel_left]
 have hF:kH hp' an ord.length ((fF st.hp ord ord.length ord).2++(kY st.hp ord st.sl (ord.length+(fF st.hp ord ord.length ord).2.length) live).2):=by
  intro k b hb
  refine ⟨(gP k).trans hb,?_⟩
  simp only[an]
  rw[if_neg (by omega)]
 have zo:mg ((fF st.hp ord ord.length ord).2++(kY st.hp ord st.sl (ord.length+(fF st.hp ord ord.length ord).2.length) live).2):=QP.app QN
 have ox: ∀(j:Nat) id,ord[j]? =some id→an j=β id:=by
  intro j id hj
  simp only[an]
  rw[if_pos (List.getElem?_eq_some_iff.1 hj).1,hj]
  rfl
 have qD: ∀(j:Nat) id,ord[j]? =some id→∃n',kH hp' an n' (e9 st.hp ord n' id).2∧hp' j=some (e9 st.hp ord n' id).1:=by
  intro j id hj
  obtain ⟨n',h1,h2⟩:=QR (hp:=st.hp) (hp':=hp') (an:=an) (ord:=ord) (n:=ord.length) hj
  exact ⟨n',h1 hF.left,(iM j (List.getElem?_eq_some_iff.1 hj).1).trans h2⟩
 have hR:wA st.hp β ord hp' an:=by
  refine ⟨fun j id e es fz hj ab=> ?_,fun j id T cs hj ab=> ?_,fun j id hj ab=> ?_,ox,fun j id e es ai hj ab=> ?_,fun j id t es hj ab=> ?_⟩
  ·obtain ⟨n',_,h2⟩:=qD j id hj
   rw[h2];simp only[e9,ab]
  ·obtain ⟨n',_,h2⟩:=qD j id hj
   rw[h2];simp only[e9,ab];exact ⟨_,rfl⟩
  ·obtain ⟨n',_,h2⟩:=qD j id hj
   rw[h2];simp only[e9,ab]
  ·obtain ⟨n',_,h2⟩:=qD j id hj
   rw[h2];simp only[e9,ab]
  ·obtain ⟨n',_,h2⟩:=qD j id hj
   rw[h2];simp only[e9,ab]
 have cls: ∀j blk',hp' j=some blk'→(∃id,ord[j]? =some id∧((blk'= .dead)∨∃blk,st.hp id=some blk∧blk≠ .dead∧∀o b,bA P w o blk' b→bA P w o blk b))∨(∃e,blk'= .arr e [] false∧an j=none):=by
  intro j blk' hj
  rcases Nat.lt_or_ge j ord.length with h|h
  ·have gA:=List.getElem?_eq_getElem h
   obtain ⟨n',_,h2⟩:=qD j _ gA
   rw[hj] at h2
   refine .inl ⟨_,gA,?_⟩
   cases ab:st.hp ord[j] with
   | none=>left;simp only[e9,ab] at h2;exact Option.some.inj h2
   | some blk=>
    cases blk with
    | dead=>left;simp only[e9,ab] at h2;exact Option.some.inj h2
    | var T0 cs=>exact .inr ⟨_,rfl,by simp,fun o b h=>by simp only[e9,ab] at h2;rw[Option.some.inj h2] at h;exact .root (by simp) (h.flat (by simp))⟩
    | arr e es fz=>exact .inr ⟨_,rfl,by simp,fun o b h=>by simp only[e9,ab] at h2;rw[Option.some.inj h2] at h;exact .root (by simp) (h.flat (by simp))⟩
    | map t es=>exact .inr ⟨_,rfl,by simp,fun o b h=>by simp only[e9,ab] at h2;rw[Option.some.inj h2] at h;exact .root (by simp) (h.flat (by simp))⟩
    | nest e es ai=>
     refine .inr ⟨_,rfl,by simp,fun o b h=> ?_⟩
     simp only[e9,ab] at h2
     rw[Option.some.inj h2] at h
     cases h with
     | root _ h=>exact .root (by simp) h
     | row h1 h2=>exact .row h1 h2
  ·obtain ⟨k,rfl⟩: ∃k,j=ord.length+k:=⟨j-ord.length,by omega⟩
   rw[gP] at hj
   obtain ⟨e,he⟩:=zo _ (List.mem_of_getElem? hj)
   exact .inr ⟨e,he,(hF k _ hj).2⟩
 refine ⟨an,⟨⟨fun j blk' hj=> ?_,fun j1 j2 b1 b2 b e1 e2 f1 f2=> ?_,fun j blk b e1 f1=> ?_,S.h.jt⟩,S.cg,S.size,S.new,S.io⟩,⟨fun k=> ?_,hA.size,hA.defers,hA.aC⟩,⟨hE.dz,hE.cg,fun id blk ab=> ?_,fun id blk blk' b ab bE hd hb=> ?_⟩⟩
 ·change hp' j=some blk' at hj
  rcases Nat.lt_or_ge j ord.length with h|h
  ·have gA:=List.getElem?_eq_getElem h
   obtain ⟨n',QU,h2⟩:=qD j _ gA
   rw[hj] at h2
   rw[ox j _ gA]
   cases ab:st.hp ord[j] with
   | none=>simp only[e9,ab] at h2;rw[Option.some.inj h2];exact .dead
   | some blk=>
    have hr:=S.h.rel _ _ ab
    generalize β ord[j]=o at hr
    cases hr with
    | dead=>simp only[e9,ab] at h2;rw[Option.some.inj h2];exact .dead
    | dV hb=>simp only[e9,ab] at h2;rw[Option.some.inj h2];exact .dV hb
    | arr a1 a2 a3 a4 a5 a6 a7=>simp only[e9,ab] at h2;rw[Option.some.inj h2];exact .arr a1 a2 a3 a4 a5 a6 a7
    | nest a1 a2 a3=>simp only[e9,ab] at h2;rw[Option.some.inj h2];exact .nest a1 a2 a3
    | map a1 a2 a3 a4 a5 a6 a7=>simp only[e9,ab] at h2;rw[Option.some.inj h2];exact .map a1 a2 a3 a4 a5 a6 a7
    | @var xs b Ca T hb hh hs cW hx gm=>
     simp only[e9,ab] at h2 QU
     rw[Option.some.inj h2]
     exact .var hb hh (by rw[Es];exact hs) cW (fun i v y hi hy=>Et S hR (vs:=Ca.toList) (fun i v x hi cC=>hx i v x (by simpa using hi) cC) QU i v y (by simpa using hi) hy) gm
  ·rcases cls j blk' hj with ⟨id,ab,_⟩|⟨e,he,hb⟩
   ·have:=(List.getElem?_eq_some_iff.1 ab).1;omega
   ·rw[he];exact .dV hb
 ·rcases cls j1 b1 e1 with ⟨Jq,o1,x1⟩|⟨e,_,hb⟩
  ·rcases cls j2 b2 e2 with ⟨cF,o2,x2⟩|⟨e,_,hb⟩
   ·obtain ⟨c1,y1,z1,g1⟩:=x1.resolve_left f1.alive
    obtain ⟨c2,y2,z2,g2⟩:=x2.resolve_left f2.alive
    rw[ox _ _ o1] at f1
    rw[ox _ _ o2] at f2
    have:=S.h.inj Jq cF c1 c2 b y1 y2 (g1 _ _ f1) (g2 _ _ f2)
    subst this
    obtain ⟨q1,q2⟩:=List.getElem?_eq_some_iff.1 o1
    obtain ⟨q3,q4⟩:=List.getElem?_eq_some_iff.1 o2
    exact (List.getElem_inj mT).1 (q2.trans q4.symm)
   ·subst ‹b2=_›;have:=f2.flat (by simp);rw[hb] at this;cases this
  ·subst ‹b1=_›;have:=f1.flat (by simp);rw[hb] at this;cases this
 ·rcases cls j blk e1 with ⟨Jq,o1,x1⟩|⟨e,_,hb⟩
  ·obtain ⟨c1,y1,z1,g1⟩:=x1.resolve_left f1.alive
   rw[ox _ _ o1] at f1
   exact S.h.own Jq c1 b y1 (g1 _ _ f1)
  ·subst ‹blk=_›;have:=f1.flat (by simp);rw[hb] at this;cases this
 ·change ah P w I an hp' (a.tmps.getD k undef) (iZ _ k)
  unfold iZ
  cases I5:dS (kY st.hp ord st.sl (ord.length+(fF st.hp ord ord.length ord).2.length) live).1 k with
  | none=>exact .undef
  | some y=>
   obtain ⟨n',h1,h2⟩:=QO hF.right I5
   simp only[Option.getD_some,h2]
   exact aa7 S hR (hA.sl k) h1
 ·obtain ⟨qz,k1,k2,k3⟩:=hE.blk id blk ab
  rcases zr id (hm id blk ab) with ho|⟨p,ho,bx⟩
  ·cases qz with
   | dead=>exact ⟨.dead,hR.dead id id ho k1,k2,fun h=>absurd rfl h⟩
   | var T0 cs=>
    obtain ⟨ik,h'⟩:=hR.var id id T0 cs ho k1
    refine ⟨_,h',?_,fun _=>(ox id id ho).trans (k3 (by simp))⟩
    cases blk<;>simp_all [ag.le]
   | arr e es fz=>exact ⟨_,hR.arr id id e es fz ho k1,k2,fun _=>(ox id id ho).trans (k3 (by simp))⟩
   | map t es=>exact ⟨_,hR.map id id t es ho k1,k2,fun _=>(ox id id ho).trans (k3 (by simp))⟩
   | nest e es ai=>
    refine ⟨_,hR.nest id id e es ai ho k1,?_,fun _=>(ox id id ho).trans (k3 (by simp))⟩
    obtain ⟨HY,Yv,rfl,l1,l2,_⟩:=ag.HW k2
    exact ⟨rfl,l1,by simpa using l2,fun k=>by rw[ji id _ _ _ ab k];exact Nat.zero_le _⟩
  ·obtain ⟨n',_,h2⟩:=qD id p ho
   simp only[e9,bx] at h2
   exact ⟨.dead,h2,by cases blk<;>trivial,fun h=>absurd rfl h⟩
 ·obtain ⟨qz,k1,k2,k3⟩:=hE.blk id blk ab
  rcases zr id (hm id blk ab) with ho|⟨p,ho,bx⟩
  ·refine hE.size id blk qz b ab k1 (fun qC=> ?_) hb
   subst qC
   have:=hR.dead id id ho k1
   change hp' id=some blk' at bE
   rw[this] at bE
   exact hd (Option.some.inj bE).symm
  ·obtain ⟨n',_,h2⟩:=qD id p ho
   simp only[e9,bx] at h2
   change hp' id=some blk' at bE
   rw[h2] at bE
   exact absurd (Option.some.inj bE).symm hd
theorem abb {n m:Nat} {live:List Nat} {a:Act} {st:St} (S:aD P w I β st.hp B M w0) (hA:iO P E G w I β n a st) (hE:kF w0.w w0.I μ hp0 w I β st.hp) (hm: ∀id blk,hp0 id=some blk→id<m) (ji: ∀id e es ai,hp0 id=some (.nest e es ai)→∀k,bD ai k=0):
  ∃an,aD P w I an (canon m live st).hp B M w0∧iO P E G w I an n a (canon m live st)∧kF w0.w w0.I μ hp0 w I an (canon m live st).hp:=by
 obtain ⟨t,zr,mT⟩:=aa9 (m:=m) (live:=live) (st:=st)
 refine QT (by rw[zr];exact mT) (fun id aR=> .inl ?_) S hA hE hm ji
 rw[zr,List.getElem?_append_left (by simpa using aR)]
 simp[aR]
theorem QV: ∀{l:List Nat},n0 l=true→l.Nodup
 | [],_=> .nil
 | a::l,h=>by
  simp only[n0,Bool.and_eq_true,Bool.not_eq_true'] at h
  rw[List.nodup_cons]
  exact ⟨fun hm=>Bool.noConfusion ((vX hm).symm.trans h.1),QV h.2⟩
theorem abc {m:Nat} {mv:List Nat} {id:Nat} (h:id<m):(lR m mv)[id]? =some id∨(lR m mv)[id]? =some (m+id):=by
 unfold lR
 rw[List.getElem?_append_left (by simpa using h),List.getElem?_map]
 simp only[List.getElem?_range h,Option.map_some]
 cases jM mv id with
 | true=>exact .inr rfl
 | false=>exact .inl rfl
end
section
variable {P:Program} {A:cH} {w w':World} {I I' I2:Nat→Prop} {μ β an:Nat→Option Nat} {hp hp' hp0:Nat→Option ag} {C:ae} {B:Nat} {M:Nat→Prop} {w0:Start}
theorem Ev (p:Nat→Prop) (h: ∃n,p n): ∃n,p n∧∀m,p m→n≤m:=by
 obtain ⟨n,hn⟩:=h
 induction n using Nat.strongRecOn with
 | _ n ih=>
  by_cases hx: ∃m,m<n∧p m
  ·obtain ⟨m,hm,hp⟩:=hx
   exact ih m hm hp
  ·exact ⟨n,hn,fun m hm=>Nat.le_of_not_lt fun aR=>hx ⟨m,aR,hm⟩⟩
open Classical in
theorem abd {c:Code} {Q:Exit→Act→World→Prop} (J:Nat→Act→World→Prop) (h0: ∀a w,¬J 0 a w) (round: ∀n a w,J (n+1) a w→c.wp P (Exit.then (J n) Q) a w) {n:Nat} {a:Act} {w:World} (h:J n a w):
  (Code.loop c).wp P Q a w:=by
 refine wp_loop (fun a w=> ∃n,J n a w) (fun a w=>if h: ∃n,J n a w then (Ev _ h).choose else 0) ⟨n,h⟩ fun a w hJ=> ?_
 obtain ⟨h1,h2⟩:=(Ev _ hJ).choose_spec
 generalize hk:(Ev _ hJ).choose=k at h1 h2
 cases k with
 | zero=>exact absurd h1 (h0 a w)
 | succ k=>
  refine wp_mono (round k a w h1) fun e a' w' he=> ?_
  cases e with
  | normal=>
   have hex: ∃n,J n a' w':=⟨k,he⟩
   refine ⟨hex,?_⟩
   have h3:=(Ev _ hex).choose_spec.2 k he
   rw[dif_pos hex,dif_pos hJ,hk]
   omega
  | _=>exact he
def wB:Out→Exit
 | .norm=> .normal
 | .exit id=> .exit id
 | .ret=> .ret
def Inv (P:Program) (E:FuncId→Bool) (G:Nat→V) (B:Nat) (M:Nat→Prop) (w0:Start) (μ:Nat→Option Nat) (hp0:Nat→Option ag) (n:Nat) (a:Act) (w:World) (st:St):Prop:=
 ∃I β,aD P w I β st.hp B M w0∧iO P E G w I β n a st∧kF w0.w w0.I μ hp0 w I β st.hp
theorem Inv.canon {E:FuncId→Bool} {G:Nat→V} {n m:Nat} {a:Act} {st:St} {live:List Nat} (h:Inv P E G B M w0 μ hp0 n a w st) (hm: ∀id blk,hp0 id=some blk→id<m) (ji: ∀id e es ai,hp0 id=some (.nest e es ai)→∀k,bD ai k=0):Inv P E G B M w0 μ hp0 n a w (canon m live st):=by
 obtain ⟨I,β,S,hA,hE⟩:=h
 obtain ⟨an,a,b,c⟩:=abb (live:=live) S hA hE hm ji
 exact ⟨I,an,a,b,c⟩
theorem Ew: ∀{l:List BS} {ds:List V},(eV l ds).length=l.length
 | [],_=>rfl
 | b::l,ds=>by simp only[eV,List.length_cons,Ew]
theorem Inv.enter {A:cH} {E:FuncId→Bool} {G:Nat→V} {n f:Nat} {ds:List V} {a:Act} (j4:n0 (lR (A.sin f).a8.length (A.mv f))=true) (h:Inv P E G B M w0 μ hp0 n a w (bq (A.sin f) ds)) (hm: ∀id blk,hp0 id=some blk→id<(A.sin f).a8.length)
  (ji: ∀id e es ai,hp0 id=some (.nest e es ai)→∀k,bD ai k=0) (wC: ∀p,(A.sin f).a8.length≤p→(bq (A.sin f) ds).hp p=none):Inv P E G B M w0 μ hp0 n a w (yw A f ds):=by
 unfold yw
 split
 ·exact h
 ·obtain ⟨I,β,S,hA,hE⟩:=h
  obtain ⟨an,x,y,z⟩:=QT (m:=(A.sin f).a8.length) (ord:=lR (A.sin f).a8.length (A.mv f)) (live:=(A.sin f).bI.map (·.1)) (QV j4) (fun id ab=>(abc ab).imp (fun h=>h) fun h=>⟨_,h,wC _ (by omega)⟩) S hA hE hm ji
  exact ⟨I,an,x,y,z⟩
theorem Inv.reshape {E:FuncId→Bool} {G:Nat→V} {n m:Nat} {a:Act} {st:St} {S:Shape} {ds:List V} (h:Inv P E G B M w0 μ hp0 n a w st) (hs:iF m S st=some ds) (hm: ∀id blk,hp0 id=some blk→id<m):Inv P E G B M w0 μ hp0 n a w (bq S ds):=by
 obtain ⟨I,β,S1,hA,hE⟩:=h
 obtain ⟨r1,r2,_,r4⟩:=AM.reshape hs S1
 refine ⟨I,β,r1,⟨fun k=>r2 k _ (hA.sl k),hA.size,hA.defers,hA.aC⟩,⟨hE.dz,hE.cg,fun id blk ab=> ?_,fun id blk blk' b ab bE hd hb=> ?_⟩⟩
 ·obtain ⟨qz,k1,k2,k3⟩:=hE.blk id blk ab
  obtain ⟨_,hle,_⟩:=PH hs
  have hl:=hm id blk ab
  obtain ⟨b8,h2⟩: ∃b8,(bq S ds).hp id=some b8:=by
   simp only[bq,mk,gQ]
   exact ⟨_,List.getElem?_eq_getElem (by rw[Ew];omega)⟩
  by_cases hd:b8= .dead
  ·subst hd
   exact ⟨_,h2,by cases blk<;>trivial,fun h=>absurd rfl h⟩
  ·obtain ⟨gK,e1,e2,_⟩:=r4 id b8 h2 hd
   rw[k1] at e1;cases e1
   exact ⟨_,h2,ag.le_trans k2 e2,fun _=>k3 (fun e=>hd (ag.o9 (e▸e2)))⟩
 ·obtain ⟨gK,e1,e2,_⟩:=r4 id blk' bE hd
  exact hE.size id blk gK b ab e1 (fun e=>hd (ag.o9 (e▸e2))) hb
theorem kG.here (h:kG P A C) (f:Nat) (id:Nat):kG P (A.here f id) C:=by
 intro key ds es hh
 obtain ⟨fn,c,h1,h2,h3⟩:=h key ds es hh
 refine ⟨fn,c,h1,h2,fun w I μ vals a g b d=>(h3 w I μ vals a g b d).mono fun e w' hx=> ?_⟩
 obtain ⟨v,I2,b9,q1,q2⟩:=hx
 exact ⟨v,I2,b9,q1,⟨q2.wq,q2.le,q2.res⟩⟩
theorem abe {a b:Out} (h:Dk a b=true):a=b:=by
 cases a<;>cases b<;>simp[Dk] at h<;>first|rfl|(subst h;rfl)
theorem QW {m:Nat} {r:Out × St}: ∀{l:List (Out × Shape)} {j:Nat} {e:Nat × List V},ways m j l r=some e→j≤e.1
 | [],j,e,h=>by cases h
 | (o,S)::l,j,e,h=>by
  simp only[ways] at h
  split at h
  ·cases h;exact Nat.le_refl _
  ·have:=QW h;omega
theorem Jr {m:Nat} {o:Out} {s:St} {out:Out} {st':St}: ∀{l:List (Out × Shape)} {k:Nat} {e:Nat × List V},ways m k l (o,s)=some e→jR k l e.1 e.2 (fun o st=>some (o,st))=some (out,st')→
  out=o∧∃S,iF m S s=some e.2∧st'=bq S e.2
 | [],k,e,h,_=>by cases h
 | (o',S)::l,k,e,h,h2=>by
  simp only[ways] at h
  split at h
  ·rename_i ds hx
   cases h
   cases ho:Dk o' o with
   | false=>rw[ho] at hx;cases hx
   | true=>
    rw[ho] at hx
    have:=abe ho
    subst this
    cases l with
    | nil=>
     simp only[jR,Option.some.injEq,Prod.mk.injEq] at h2
     exact ⟨h2.1.symm,S,hx,h2.2.symm⟩
    | cons p l=>
     simp only[jR,Nat.beq_refl,cond_true,Option.some.injEq,Prod.mk.injEq] at h2
     exact ⟨h2.1.symm,S,hx,h2.2.symm⟩
  ·have ph:=QW h
   cases l with
   | nil=>cases h
   | cons p l=>
    have bO:Nat.beq e.1 k=false:=by
     cases hb:Nat.beq e.1 k with
     | false=>rfl
     | true=>rw[Nat.beq_eq] at hb;omega
    simp only[jR,bO,cond_false] at h2
    exact Jr h h2
theorem abf (hC:kG P A C) (hP:jh P A) (pw:P.follows .mixedOrders=true) {f n m:Nat} (hm: ∀id blk,hp0 id=some blk→id<m) (ji: ∀id e es ai,hp0 id=some (.nest e es ai)→∀k,bD ai k=0):
  ∀(c:Code) {st st':St} {out:Out} {Q:Exit→Act→World→Prop} {a:Act} {w:World},exec P A C f n m c st=some (out,st')→Inv P A.idle A.aC B M w0 μ hp0 n a w st→
   (∀a' w',Inv P A.idle A.aC B M w0 μ hp0 n a' w' st'→Q (wB out) a' w')→c.wp P Q a w:=by
 intro c
 induction c with
 | skip=>
  intro st st' out Q a w h hI hQ
  simp only[exec,Option.some.injEq,Prod.mk.injEq] at h
  obtain ⟨rfl,rfl⟩:=h
  exact wp_skip (hQ a w hI)
 | exit id=>
  intro st st' out Q a w h hI hQ
  simp only[exec,Option.some.injEq,Prod.mk.injEq] at h
  obtain ⟨rfl,rfl⟩:=h
  exact wp_exit (hQ a w hI)
 | ret=>
  intro st st' out Q a w h hI hQ
  simp only[exec,Option.some.injEq,Prod.mk.injEq] at h
  obtain ⟨rfl,rfl⟩:=h
  exact wp_ret (hQ a w hI)
 | region id ops draw=>
  intro st st' out Q a w h hI hQ
  simp only[exec] at h
  obtain ⟨iP,h1,h2⟩:=bind_some h
  simp only[Option.some.injEq,Prod.mk.injEq] at h2
  obtain ⟨rfl,rfl⟩:=h2
  obtain ⟨I,β,S,hA,hE⟩:=hI
  refine aa4 (hC.here f id) (hP.here f id) pw h1 S hA fun a' w' I' an k1 k2 k3=> ?_
  obtain ⟨I2,l1,l2,l3⟩:=QH (m:=m) (pur:=A.pur f id) k2 k3
  have hE2:=(hE.trans k1.Ea).trans l1.Ea
  exact hQ a' w' (Inv.canon ⟨I2,an,l2,l3,hE2⟩ hm ji)
 | seq x y fQ fR=>
  intro st st' out Q a w h hI hQ
  simp only[exec] at h
  obtain ⟨⟨o1,iP⟩,h1,h2⟩:=bind_some h
  refine wp_seq (fQ h1 hI fun a' w' jD=> ?_)
  cases o1 with
  | norm=>exact fR h2 jD hQ
  | exit id=>
   simp only[Option.some.injEq,Prod.mk.injEq] at h2
   obtain ⟨rfl,rfl⟩:=h2
   exact hQ a' w' jD
  | ret=>
   simp only[Option.some.injEq,Prod.mk.injEq] at h2
   obtain ⟨rfl,rfl⟩:=h2
   exact hQ a' w' jD
 | cond c x y fQ fR=>
  intro st st' out Q a w h hI hQ
  cases c with
  | tmp t=>
   have go: ∀{st st':St} {out:Out} {Q:Exit→Act→World→Prop} {a:Act} {w:World},(match st.sl t with
     | .bool b=>(bif b then exec P A C f n m x st else exec P A C f n m y st).bind fun r=>
      match r.1 with
      | .norm=>some (.norm,AM.canon m (A.join f t) r.2)
      | _=>some r
     | _=>none)=some (out,st')→Inv P A.idle A.aC B M w0 μ hp0 n a w st→(∀a' w',Inv P A.idle A.aC B M w0 μ hp0 n a' w' st'→Q (wB out) a' w')→(Code.cond (.tmp t) x y).wp P Q a w:=by
    intro st st' out Q a w h hI hQ
    cases hs:st.sl t<;>rw[hs] at h<;>simp only at h<;>first|(cases h;done)|skip
    rename_i b
    obtain ⟨⟨o1,iP⟩,h1,h2⟩:=bind_some h
    obtain ⟨I,β,S,hA,hE⟩:=hI
    have fe:a.eval (.tmp t)= .bool b:=by
     have:=Qg hA hs
     simp[Act.eval,this]
    have fin: ∀a' w',Inv P A.idle A.aC B M w0 μ hp0 n a' w' iP→Q (wB o1) a' w':=by
     intro a' w' jD
     cases o1 with
     | norm=>
      simp only[Option.some.injEq,Prod.mk.injEq] at h2
      obtain ⟨rfl,rfl⟩:=h2
      exact hQ a' w' (jD.canon hm ji)
     | exit id=>
      simp only[Option.some.injEq,Prod.mk.injEq] at h2
      obtain ⟨rfl,rfl⟩:=h2
      exact hQ a' w' jD
     | ret=>
      simp only[Option.some.injEq,Prod.mk.injEq] at h2
      obtain ⟨rfl,rfl⟩:=h2
      exact hQ a' w' jD
    refine wp_cond fe ?_
    cases b with
    | true=>exact fQ h1 ⟨I,β,S,hA,hE⟩ fin
    | false=>exact fR h1 ⟨I,β,S,hA,hE⟩ fin
   simp only[exec] at h
   split at h
   ·exact go h hI hQ
   ·obtain ⟨ds,h1,h2⟩:=bind_some h
    obtain ⟨e,h3,h4⟩:=bind_some h2
    obtain ⟨⟨o1,s1⟩,h5,h6⟩:=bind_some h3
    obtain ⟨rfl,S',k1,rfl⟩:=Jr h6 h4
    exact go h5 (hI.reshape h1 hm) fun a' w' jD=>hQ a' w' (jD.reshape k1 hm)
  | const v=>
   cases v with
   | bool b=>
    simp only[exec] at h
    refine wp_cond (t:=b) rfl ?_
    cases b with
    | true=>exact fQ h hI hQ
    | false=>exact fR h hI hQ
   | _=>simp only[exec] at h;cases h
  | _=>simp only[exec] at h;cases h
 | block id c ih=>
  intro st st' out Q a w h hI hQ
  simp only[exec] at h
  obtain ⟨⟨o1,iP⟩,h1,h2⟩:=bind_some h
  refine wp_block (ih h1 hI fun a' w' jD=> ?_)
  cases o1 with
  | norm=>
   simp only[Option.some.injEq,Prod.mk.injEq] at h2
   obtain ⟨rfl,rfl⟩:=h2
   exact hQ a' w' (jD.canon hm ji)
  | exit aB=>
   simp only at h2
   cases hb:Nat.beq aB id with
   | true=>
    rw[hb] at h2
    simp only[cond_true,Option.some.injEq,Prod.mk.injEq] at h2
    obtain ⟨rfl,rfl⟩:=h2
    rw[Nat.beq_eq] at hb
    simp only[wB,Exit.inBlock,hb,if_true]
    exact hQ a' w' (jD.canon hm ji)
   | false=>
    rw[hb] at h2
    simp only[cond_false,Option.some.injEq,Prod.mk.injEq] at h2
    obtain ⟨rfl,rfl⟩:=h2
    have bO:aB≠id:=fun e=>by rw[e,Nat.beq_refl] at hb;cases hb
    simp only[wB,Exit.inBlock,bO,if_false]
    exact hQ a' w' jD
  | ret=>
   simp only[Option.some.injEq,Prod.mk.injEq] at h2
   obtain ⟨rfl,rfl⟩:=h2
   exact hQ a' w' jD
 | loop c ih=>
  intro st st' out Q a w h hI hQ
  simp only[exec] at h
  split at h
  ·cases h
  ·rename_i S hS
   obtain ⟨ds,h1,h2⟩:=bind_some h
   obtain ⟨e,h3,h4⟩:=bind_some h2
   obtain ⟨k,hk⟩:=vw h3
   refine abd (J:=fun k a w=> ∃ds,Inv P A.idle A.aC B M w0 μ hp0 n a w (bq S.1 ds)∧eT (fun ds=>ky m S.1 S.2 (exec P A C f n m c (bq S.1 ds))) k ds=some e) (fun a w ⟨s,_,h⟩=>by cases h) (fun k a w ⟨ds,hs,hk⟩=> ?_) ⟨ds,hI.reshape h1 hm,hk⟩
   simp only[eT] at hk
   obtain ⟨y,h5,h6⟩:=bind_some hk
   unfold ky at h5
   obtain ⟨⟨o1,s1⟩,h7,h8⟩:=bind_some h5
   refine ih h7 hs fun a' w' jD=> ?_
   have QX: ∀{e':Nat × List V},ways m 0 S.2 (o1,s1)=some e'→e'=e→Q (wB o1) a' w':=by
    intro e' q1 q2
    subst q2
    obtain ⟨rfl,S',k1,rfl⟩:=Jr q1 h4
    exact hQ a' w' (jD.reshape k1 hm)
   cases o1 with
   | norm=>
    obtain ⟨ds2,q1,q2⟩:=bind_some h8
    cases q2
    exact ⟨ds2,jD.reshape q1 hm,h6⟩
   | exit id=>
    obtain ⟨e',q1,q2⟩:=bind_some h8
    cases q2
    cases h6
    exact QX q1 rfl
   | ret=>
    obtain ⟨e',q1,q2⟩:=bind_some h8
    cases q2
    cases h6
    exact QX q1 rfl
 | _=>intro st st' out Q a w h;simp only[exec] at h;cases h
end
section
variable {P:Program} {A:cH} {w w':World} {I I' I2:Nat→Prop} {μ β an b9:Nat→Option Nat} {hp hp' hp0:Nat→Option ag} {C:ae} {B:Nat} {M:Nat→Prop} {w0:Start}
theorem Ex (S:aD P w I β hp B M w0) {a:Act} {st:St} (hs:kz P w I β hp a st.sl): ∀{l:List ResultVar} {xs:List V} {rd:List Nat},(tp P st l).run C hp=some (xs,rd)→
  ∃vs:List Value,(l.mapM fun| .tmp t=>Pure.pure (a.tmps.getD t undef)| .cell x t=>do loadVar t (←asAddr (a.tmps.getD x undef)):Sem (List Value)).run P w= .ok vs w∧vs.length=xs.length∧l.length=xs.length∧
   ∀(j:Nat) v x,vs[j]? =some v→xs[j]? =some x→ah P w I β hp v x
 | [],xs,rd,h=>by
  cases h
  exact ⟨[],by simp,rfl,rfl,by simp⟩
 | .tmp t::l,xs,rd,h=>by
  simp only[tp] at h
  obtain ⟨ys,l1,l2,h1,h2⟩:=kA h
  have h3:=H0 h2
  subst h3
  obtain ⟨vs,a1,a2,a3,a4⟩:=Ex S hs h1
  refine ⟨a.tmps.getD t undef::vs,by simp only[List.mapM_cons,Sem.run_bind,Sem.run_pure,Result.andThen_ok,a1],by simp[a2],by simp[a3],fun j v x hj hx=> ?_⟩
  cases j with
  | zero=>simp at hj hx;subst hj;subst hx;have:=hs t;simpa using this
  | succ j=>exact a4 j v x (by simpa using hj) (by simpa using hx)
 | .cell y t::l,xs,rd,h=>by
  simp only[tp] at h
  obtain ⟨r,l1,l2,h1,h2⟩:=kA h
  obtain ⟨ys,l3,l4,h3,h4⟩:=kA h2
  have h5:=H0 h4
  subst h5
  obtain ⟨v0,b1,b2,b3,ad,b4⟩:=OA S (hs y) h1
  obtain ⟨vs,a1,a2,a3,a4⟩:=Ex S hs h3
  refine ⟨v0::vs,?_,by simp[a2],by simp[a3],fun j v x hj hx=> ?_⟩
  ·have e1:(do loadVar t (←asAddr (a.tmps.getD y undef)):Sem Value).run P w= .ok v0 w:=by
    rw[b4] at b1⊢
    simpa[Instr.loadAt,Instr.sureAddr,asAddr] using b1
   simp only[List.mapM_cons,Sem.run_bind,e1,Result.andThen_ok,a1,Sem.run_pure]
  cases j with
  | zero=>simp at hj hx;subst hj;subst hx;exact b2
  | succ j=>exact a4 j v x (by simpa using hj) (by simpa using hx)
def ug:List Value→Value
 | [v]=>v
 | l=> .tuple l.toArray
theorem abg {vs:List Value} (h:vs.length≠1):ug vs= .tuple vs.toArray:=by
 match vs,h with
 | [],_=>rfl
 | [v],h=>simp at h
 | v::v2::l,_=>rfl
theorem abh {fn:Func} {a:Act} {st:St} (S:aD P w I β st.hp B M w0) (hs:kz P w I β st.hp a st.sl) {xs:List V} {rd:List Nat} (h:(tp P st fn.results.toList).run C st.hp=some (xs,rd)):
  ∃vs:List Value,(results fn a.tmps).run P w= .ok (ug vs) w∧vs.length=xs.length∧
   ∀(j:Nat) v x,vs[j]? =some v→xs[j]? =some x→ah P w I β st.hp v x:=by
 obtain ⟨vs,a1,a2,_,a4⟩:=Ex S hs h
 refine ⟨vs,?_,a2,a4⟩
 unfold results
 rw[Array.mapM_eq_mapM_toList]
 simp only[map_eq_pure_bind,bind_assoc,pure_bind,Sem.run_bind]
 refine (congrArg (fun r:Result (List Value)=>r.andThen _) a1).trans ?_
 simp only[Result.andThen_ok,Sem.run_pure]
 match vs with
 | []=>simp[ug]
 | [v]=>simp[ug]
 | v::v2::l=>simp[ug]
theorem QY: ∀{args:List V} {i k:Nat},dS (mO i args) k=if i≤k then args[k-i]? else none
 | [],i,k=>by simp[mO,dS]
 | v::vs,i,k=>by
  simp only[mO,dS]
  cases hb:Nat.beq k i with
  | true=>
   rw[Nat.beq_eq] at hb
   subst hb
   simp
  | false=>
   have bO:k≠i:=fun e=>by rw[e,Nat.beq_refl] at hb;cases hb
   simp only[cond_false,QY]
   by_cases h:i≤k
   ·rw[if_pos (by omega),if_pos h]
    obtain ⟨d,rfl⟩: ∃d,k=i+1+d:=⟨k-(i+1),by omega⟩
    rw[show i+1+d-(i+1)=d by omega,show i+1+d-i=d+1 by omega]
    rfl
   ·rw[if_neg (by omega),if_neg h]
theorem Js: ∀{l:List (Nat × VS)} {ds:List V} {i k:Nat},hZ i l=true→dS (fq l ds) k=if i≤k then (fD (l.map (·.2)) ds)[k-i]? else none
 | [],ds,i,k,_=>by simp[fq,fD,dS]
 | (q,s)::l,ds,i,k,h=>by
  simp only[hZ,Bool.and_eq_true,Nat.beq_eq] at h
  obtain ⟨rfl,h⟩:=h
  simp only[fq,dS,List.map_cons,fD]
  cases hb:Nat.beq k q with
  | true=>
   rw[Nat.beq_eq] at hb
   subst hb
   simp
  | false=>
   have bO:k≠q:=fun e=>by rw[e,Nat.beq_refl] at hb;cases hb
   simp only[cond_false]
   rw[Js h]
   by_cases h:q≤k
   ·rw[if_pos (by omega),if_pos h]
    obtain ⟨d,rfl⟩: ∃d,k=q+1+d:=⟨k-(q+1),by omega⟩
    rw[show q+1+d-(q+1)=d by omega,show q+1+d-q=d+1 by omega]
    rfl
   ·rw[if_neg (by omega),if_neg h]
theorem QZ: ∀{l:List (Nat × VS)} {ds:List V},(fq l ds).map (·.2)=fD (l.map (·.2)) ds
 | [],_=>rfl
 | (q,s)::l,ds=>by simp only[fq,List.map_cons,fD,QZ]
theorem Jt: ∀{l:List VS} {ds:List V},(fD l ds).length=l.length
 | [],_=>rfl
 | s::l,ds=>by simp only[fD,List.length_cons,Jt]
theorem Q0: ∀{l:List (Nat × VS)} {ds:List V},(fq l ds).length=l.length
 | [],_=>rfl
 | (q,s)::l,ds=>by simp only[fq,List.length_cons,Q0]
theorem abi {vals:List Value} {l:List (Nat × V)} (hl:vals.length=l.length) (h: ∀(j:Nat) v y,vals[j]? =some v→(l.map (·.2))[j]? =some y→ah P w I β hp v y):ah P w I β hp (ug vals) (o7 l):=by
 match l,hl,h with
 | [],hl,h=>
  obtain rfl:vals=[]:=List.eq_nil_of_length_eq_zero hl
  exact .bh rfl fun j v x _ hx=>by simp at hx
 | [(k,y)],hl,h=>
  match vals,hl,h with
  | [v],_,h=>exact h 0 v y rfl rfl
 | a::b::l,hl,h=>
  have bO:vals.length≠1:=by rw[hl];simp
  rw[abg bO]
  simp only[o7]
  exact .bh (by simp[hl]) fun j v y hj hy=>h j v y (by simpa using hj) hy
theorem abj {l:List BS} {ds:List V} {j:Nat} {e:TypeId} {es:List V} {ai:List Nat} (h:(eV l ds)[j]? =some (.nest e es ai)) (k:Nat):bD ai k=0:=by
 obtain ⟨b,fw,_,h2⟩:=I9 h
 cases b<;>simp only[fP] at h2<;>cases h2
 match k with
 | 0=>rfl
 | 1=>rfl
 | 2=>rfl
 | _+3=>rfl
theorem abk {f n m:Nat} {fn:Func} {a:Act} {st:St} {es:List V} {rd:List Nat} (hm: ∀id blk,hp0 id=some blk→id<m) (ji: ∀id e es ai,hp0 id=some (.nest e es ai)→∀k,bD ai k=0)
  (hI:Inv P A.idle A.aC B M w0 μ hp0 n a w st) (oy:hZ 0 (A.fB f).bI=true) (aZ:(A.fB f).bI.length=fn.results.size) (h:(tq P A f fn m st).run C st.hp=some (es,rd)):
  ∃v I2 b9,(results fn a.tmps).run P w= .ok v w∧aD P w I2 b9 (bq (A.so f es) (A.lv f es)).hp B M w0∧kF w0.w w0.I μ hp0 w I2 b9 (bq (A.so f es) (A.lv f es)).hp∧ah P w I2 b9 (bq (A.so f es) (A.lv f es)).hp v (o7 (fq (A.so f es).bI (A.lv f es))):=by
 unfold tq at h
 obtain ⟨xs,l1,l2,h1,h2⟩:=kA h
 obtain ⟨I,β,S,hA,hE⟩:=hI
 obtain ⟨vals,e1,e2,e3⟩:=abh S hA.sl h1
 have e4:fn.results.size=xs.length:=by
  obtain ⟨_,_,_,q,_⟩:=Ex S hA.sl h1
  simpa using q
 have fin: ∀(Sx:Shape) (es:List V),hZ 0 Sx.bI=true→Sx.bI.length=fn.results.size→iF m Sx (canon m (List.range xs.length) (freeze m (A.tf f) ⟨iZ (mO 0 xs),st.hp,st.nb⟩))=some es→
   ∃v I2 b9,(results fn a.tmps).run P w= .ok v w∧aD P w I2 b9 (bq Sx es).hp B M w0∧kF w0.w w0.I μ hp0 w I2 b9 (bq Sx es).hp∧ah P w I2 b9 (bq Sx es).hp v (o7 (fq Sx.bI es)):=by
  intro Sx es oy aZ uh
  have hA0:iO P A.idle A.aC w I β vals.length ⟨vals.toArray,[]⟩ ⟨iZ (mO 0 xs),st.hp,st.nb⟩:=by
   refine ⟨fun k=> ?_,by simp,by simp,hA.aC⟩
   change ah P w I β st.hp _ (iZ (mO 0 xs) k)
   unfold iZ
   rw[QY]
   simp only[Nat.zero_le,if_true,Nat.sub_zero]
   cases hk:xs[k]? with
   | none=>exact .undef
   | some x=>
    have lh:k<vals.length:=by rw[e2];exact (List.getElem?_eq_some_iff.1 hk).1
    have:=e3 k vals[k] x (List.getElem?_eq_getElem lh) hk
    have e5:(vals.toArray).getD k undef=vals[k]:=by simp[lh]
    rw[Option.getD_some]
    exact e5▸this
  obtain ⟨I2,k1,k2,k3⟩:=QH (st:=⟨iZ (mO 0 xs),st.hp,st.nb⟩) (m:=m) (pur:=A.tf f) S hA0
  have hI2:Inv P A.idle A.aC B M w0 μ hp0 vals.length ⟨vals.toArray,[]⟩ w (freeze m (A.tf f) ⟨iZ (mO 0 xs),st.hp,st.nb⟩):=⟨I2,β,k2,k3,hE.trans k1.Ea⟩
  obtain ⟨I3,Q1,q1,q2,q3⟩:=(hI2.canon (live:=List.range xs.length) hm ji).reshape uh hm
  refine ⟨ug vals,I3,Q1,e1,q1,q3,abi (by rw[Q0,aZ,e4,e2]) fun j v y hj hy=> ?_⟩
  have hv:=q2.sl j
  have dg:=(List.getElem?_eq_some_iff.1 hj).1
  have e5:(vals.toArray).getD j undef=v:=by
   have:=(List.getElem?_eq_some_iff.1 hj).2
   simp[dg,this]
  change ah P w I3 Q1 _ ((vals.toArray).getD j undef) (iZ (fq Sx.bI _) j) at hv
  rw[e5] at hv
  unfold iZ at hv
  rw[Js oy] at hv
  simp only[Nat.zero_le,if_true,Nat.sub_zero] at hv
  rw[QZ] at hy
  rw[hy] at hv
  exact hv
 unfold cH.so cH.lv
 cases ch:A.alt f with
 | none=>
  rw[ch] at h2
  simp only at h2⊢
  split at h2
  ·rename_i fw uh
   have:=aI h2
   subst this
   exact fin _ _ oy aZ uh
  ·cases h2
 | some S2=>
  rw[ch] at h2
  simp only at h2⊢
  split at h2
  ·rename_i fw uh
   have:=aI h2
   subst this
   exact fin _ _ oy aZ uh
  ·split at h2
   ·rename_i fw uh
    obtain ⟨hc,h3⟩:=aE h2
    simp only[Bool.and_eq_true,Nat.beq_eq] at hc
    have:=aI h3
    subst this
    exact fin _ _ hc.1 hc.2 uh
   ·cases h2
theorem abl (hC:kG P A C) (hP:jh P A) (pw:P.follows .mixedOrders=true):kG P A (n8 P A C):=by
 intro f ds es h
 unfold n8 at h
 cases hf:P.funcs[A.aW f]? with
 | none=>rw[hf] at h;cases h
 | some fn=>
  rw[hf] at h
  simp only at h
  cases hb:fn.body with
  | none=>rw[hb] at h;cases h
  | some c=>
   rw[hb] at h
   simp only at h
   cases hc:(hZ 0 (A.sin f).bI&&(Nat.ble (A.sin f).bI.length fn.ntmps&&((A.sin f).ok&&(hZ 0 (A.fB f).bI&&(Nat.beq (A.fB f).bI.length fn.results.size&&n0 (lR (A.sin f).a8.length (A.mv f))))))) with
   | false=>rw[hc] at h;cases h
   | true=>
    rw[hc] at h
    simp only[cond_true] at h
    simp only[Bool.and_eq_true,Nat.beq_eq,Nat.ble_eq] at hc
    obtain ⟨je,hnt,_,sr,aZ,j4⟩:=hc
    obtain ⟨⟨out,st'⟩,h1,h2⟩:=bind_some h
    refine ⟨fn,c,rfl,hb,fun w I μ vals hH hgl hl hv=> ?_⟩
    have abm:(∀id,out≠ .exit id)∧∃rd,(tq P A f fn (A.sin f).a8.length st').run C st'.hp=some (es,rd):=by
     cases out with
     | exit id=>cases h2
     | norm=>
      refine ⟨by simp,?_⟩
      simp only[Option.map_eq_some_iff] at h2
      obtain ⟨⟨x,rd⟩,e1,e2⟩:=h2
      simp only at e2
      subst e2
      exact ⟨rd,e1⟩
     | ret=>
      refine ⟨by simp,?_⟩
      simp only[Option.map_eq_some_iff] at h2
      obtain ⟨⟨x,rd⟩,e1,e2⟩:=h2
      simp only at e2
      subst e2
      exact ⟨rd,e1⟩
    obtain ⟨bO,rd,IY⟩:=abm
    refine calls_of_wp_defers hf hb ?_
    have hm: ∀id blk,(bq (A.sin f) ds).hp id=some blk→id<(A.sin f).a8.length:=by
     intro id blk ab
     simp only[bq,mk,gQ] at ab
     have:=(List.getElem?_eq_some_iff.1 ab).1
     rwa [Ew] at this
    have ji: ∀id e es ai,(bq (A.sin f) ds).hp id=some (.nest e es ai)→∀k,bD ai k=0:=by
     intro id e es ai ab k
     simp only[bq,mk,gQ] at ab
     exact abj ab k
    refine abf (w0:=⟨w,I⟩) (μ:=μ) (hp0:=(bq (A.sin f) ds).hp) (B:=w.heap.size) (M:=ov P w μ (bq (A.sin f) ds).hp) hC hP pw hm ji c h1 ?_ ?_
    ·refine Inv.enter j4 ?_ hm ji fun p hp=>by
      simp only[bq,mk,gQ]
      rw[List.getElem?_eq_none_iff,Ew]
      exact hp
     refine ⟨I,μ,⟨hH,fun _ _ _=>rfl,Nat.le_refl _,fun b h=> .inl h,⟨rfl,rfl⟩⟩,⟨fun k=> ?_,?_,by simp,hgl⟩,(Le.refl (P:=P) w I μ _).Ea⟩
     ·change ah P w I μ _ _ (iZ (fq (A.sin f).bI ds) k)
      unfold iZ
      rw[Js je]
      simp only[Nat.zero_le,if_true,Nat.sub_zero]
      cases hk:(fD ((A.sin f).bI.map (·.2)) ds)[k]? with
      | none=>exact .undef
      | some x=>
       have lh:k<vals.length:=by
        have:=(List.getElem?_eq_some_iff.1 hk).1
        rw[Jt,List.length_map] at this
        rw[hl];exact this
       have:=hv k vals[k] x (List.getElem?_eq_getElem lh) hk
       have e1:(vals.toArray++Array.replicate (fn.ntmps-vals.toArray.size) undef).getD k undef=vals[k]:=by
        simp[Array.getElem?_append,lh]
       rw[Option.getD_some]
       exact e1▸this
     ·simp
      omega
    ·intro a' w' hI
     obtain ⟨v,I2,b9,q1,q2,q3,q4⟩:=abk hm ji hI sr aZ IY
     obtain ⟨_,_,_,hA,_⟩:=hI
     cases out with
     | exit id=>exact absurd rfl (bO id)
     | norm=>exact Jf hP q1 ⟨v,I2,b9,rfl,q2,q3,q4⟩ _ hA.defers
     | ret=>exact Jf hP q1 ⟨v,I2,b9,rfl,q2,q3,q4⟩ _ hA.defers
theorem Q2 (hP:jh P A) (pw:P.follows .mixedOrders=true): ∀n,kG P A (jS P A n)
 | 0=>fun _ _ _ h=>by cases h
 | n+1=>abl (Q2 hP pw n) hP pw
theorem abn (hP:jh P A) (pw:P.follows .mixedOrders=true):kG P A (Call P A):=by
 intro f ds es h
 have hn: ∃n,jS P A n f ds=some es:=by
  unfold Call at h
  split at h
  ·rename_i hex
   have:=hex.choose_spec.choose_spec
   rw[Option.some.inj h] at this
   exact ⟨_,this⟩
  ·cases h
 obtain ⟨n,hn⟩:=hn
 exact Q2 hP pw n f ds es hn
end
section
variable {P:Program} {A:cH} {C:ae} {D:Nat→ae}
def zt (C:ae) (D:Nat→ae):Prop:= ∀f a r,C f a=some r→∃n,∀k,n≤k→D k f a=some r
theorem qE {α:Type} (h:zt C D) {hp:Nat→Option ag}: ∀{p:Rd α} {r:α × List Nat},p.run C hp=some r→∃n,∀k,n≤k→p.run (D k) hp=some r
 | .ret a,r,e=>⟨0,fun _ _=>e⟩
 | .fail,r,e=>by cases e
 | .get id q,r,e=>by
  obtain ⟨x,h1,h2⟩:=bind_some e
  obtain ⟨n,hn⟩:=qE h h1
  exact ⟨n,fun k hk=>by simp only[Rd.run,hn k hk,Option.bind_some];exact h2⟩
 | .opt o q,r,e=>by
  obtain ⟨x,h1,h2⟩:=bind_some e
  obtain ⟨n,hn⟩:=qE h h2
  exact ⟨n,fun k hk=>by simp only[Rd.run,h1,Option.bind_some];exact hn k hk⟩
 | .aA b q,r,e=>by
  obtain ⟨h1,h2⟩:=aE e
  obtain ⟨n,hn⟩:=qE h h2
  exact ⟨n,fun k hk=>by simp only[Rd.run,h1,cond_true];exact hn k hk⟩
 | .call f a q,r,e=>by
  obtain ⟨x,h1,h2⟩:=bind_some e
  obtain ⟨n1,je⟩:=h f a x h1
  obtain ⟨n2,sr⟩:=qE h h2
  exact ⟨max n1 n2,fun k hk=>by simp only[Rd.run,je k (by omega),Option.bind_some];exact sr k (by omega)⟩
 | .alt true x y,r,e=>qE (p:=x) h e
 | .alt false x y,r,e=>qE (p:=y) h e
theorem abo (h:zt C D) {n i nb:Nat} {ops:Array Oper} {o:Oper} {st:St} {r:St × List Nat × List Nat} (e:gJ P A C n ops i o nb st=some r): ∃N,∀k,N≤k→gJ P A (D k) n ops i o nb st=some r:=by
 unfold gJ at e
 have go:(((fE P A st.sl i (nb+64*i) o).run C st.hp).bind fun r=>some ((⟨g9 st.sl o.dst r.1.v,bN st.hp r.1.upd,st.nb⟩:St),r.2,r.1.upd.map (·.1)))=some r→
   ∃N,∀k,N≤k→(((fE P A st.sl i (nb+64*i) o).run (D k) st.hp).bind fun r=>some ((⟨g9 st.sl o.dst r.1.v,bN st.hp r.1.upd,st.nb⟩:St),r.2,r.1.upd.map (·.1)))=some r:=by
  intro e
  obtain ⟨x,h1,h2⟩:=bind_some e
  obtain ⟨N,hN⟩:=qE h h1
  exact ⟨N,fun k hk=>by rw[hN k hk];exact h2⟩
 unfold gJ
 cases hd:rT o n with
 | false=>rw[hd] at e;cases e
 | true=>
  rw[hd] at e
  simp only[cond_true] at e⊢
  cases hg:o.guard with
  | none=>rw[hg] at e;exact go e
  | some gw=>
   obtain ⟨g,want⟩:=gw
   rw[hg] at e
   simp only at e⊢
   cases ll:(ops[g]?).bind (·.dst) with
   | none=>rw[ll] at e;cases e
   | some d=>
    rw[ll] at e
    simp only at e⊢
    cases mf:kV (st.sl d) with
    | none=>rw[mf] at e;cases e
    | some ob=>
    rw[mf] at e
    cases ob with
    | none=>exact ⟨0,fun _ _=>e⟩
    | some b=>
    simp only at e⊢
    cases hb:b==want with
    | true=>rw[hb] at e;exact go e
    | false=>rw[hb] at e;exact ⟨0,fun _ _=>e⟩
theorem Q3 (h:zt C D) {n nb:Nat} {ops:Array Oper}: ∀{l:List (Nat × Oper)} {st:St} {log:Log} {r:St × Log},o8 P A C n ops nb l st log=some r→∃N,∀k,N≤k→o8 P A (D k) n ops nb l st log=some r
 | [],st,log,r,e=>⟨0,fun _ _=>e⟩
 | (i,o)::l,st,log,r,e=>by
  obtain ⟨x,h1,h2⟩:=bind_some e
  obtain ⟨N1,oz⟩:=abo h h1
  obtain ⟨N2,qG⟩:=Q3 h h2
  exact ⟨max N1 N2,fun k hk=>by simp only[o8,oz k (by omega),Option.bind_some];exact qG k (by omega)⟩
theorem Q4 {X R:Type} {step:X→Option (X ⊕ R)} {stepD:Nat→X→Option (X ⊕ R)} (hs: ∀x y,step x=some y→∃N,∀k,N≤k→stepD k x=some y): ∀(n:Nat) (x:X) (r:R),eT step n x=some r→∃N,∀k,N≤k→eT (stepD k) n x=some r
 | 0,x,r,e=>by cases e
 | n+1,x,r,e=>by
  simp only[eT] at e⊢
  obtain ⟨y,h1,h2⟩:=bind_some e
  obtain ⟨N1,oz⟩:=hs x y h1
  cases y with
  | inl z=>
   obtain ⟨N2,qG⟩:=Q4 hs n z r h2
   exact ⟨max N1 N2,fun k hk=>by rw[oz k (by omega)];exact qG k (by omega)⟩
  | inr q=>exact ⟨N1,fun k hk=>by rw[oz k hk];exact h2⟩
theorem abp (h:zt C D) {f n m:Nat}: ∀(c:Code) {st:St} {r:Out × St},exec P A C f n m c st=some r→∃N,∀k,N≤k→exec P A (D k) f n m c st=some r:=by
 intro c
 induction c with
 | skip=>exact fun e=>⟨0,fun _ _=>e⟩
 | exit id=>exact fun e=>⟨0,fun _ _=>e⟩
 | ret=>exact fun e=>⟨0,fun _ _=>e⟩
 | region id ops draw=>
  intro st r e
  simp only[exec] at e⊢
  obtain ⟨x,h1,h2⟩:=bind_some e
  obtain ⟨y,h3,h4⟩:=bind_some h1
  obtain ⟨N,hN⟩:=Q3 h h3
  refine ⟨N,fun k hk=> ?_⟩
  have:vK P (A.here f id) (D k) n ops draw st=some x:=by
   unfold vK
   rw[hN k hk]
   exact h4
  rw[this]
  exact h2
 | seq x y fQ fR=>
  intro st r e
  simp only[exec] at e⊢
  obtain ⟨⟨o,s1⟩,h1,h2⟩:=bind_some e
  obtain ⟨N1,oz⟩:=fQ h1
  cases o with
  | norm=>
   obtain ⟨N2,qG⟩:=fR h2
   exact ⟨max N1 N2,fun k hk=>by rw[oz k (by omega)];exact qG k (by omega)⟩
  | exit id=>exact ⟨N1,fun k hk=>by rw[oz k hk];exact h2⟩
  | ret=>exact ⟨N1,fun k hk=>by rw[oz k hk];exact h2⟩
 | cond c x y fQ fR=>
  intro st r e
  cases c with
  | tmp t=>
   have go: ∀{st:St} {r:Out × St},(match st.sl t with
     | .bool b=>(bif b then exec P A C f n m x st else exec P A C f n m y st).bind fun r=>
      match r.1 with
      | .norm=>some (.norm,canon m (A.join f t) r.2)
      | _=>some r
     | _=>none)=some r→∃N,∀k,N≤k→(match st.sl t with
     | .bool b=>(bif b then exec P A (D k) f n m x st else exec P A (D k) f n m y st).bind fun r=>
      match r.1 with
      | .norm=>some (.norm,canon m (A.join f t) r.2)
      | _=>some r
     | _=>none)=some r:=by
    intro st r e
    cases hs:st.sl t<;>rw[hs] at e<;>simp only at e⊢ <;>first|(cases e;done)|skip
    rename_i b
    obtain ⟨x1,h1,h2⟩:=bind_some e
    cases b with
    | true=>
     obtain ⟨N,hN⟩:=fQ h1
     exact ⟨N,fun k hk=>by simp only[cond_true,hN k hk,Option.bind_some];exact h2⟩
    | false=>
     obtain ⟨N,hN⟩:=fR h1
     exact ⟨N,fun k hk=>by simp only[cond_false,hN k hk,Option.bind_some];exact h2⟩
   simp only[exec] at e⊢
   split at e
   ·rename_i hS
    obtain ⟨N,hN⟩:=go e
    exact ⟨N,fun k hk=>hN k hk⟩
   ·rename_i S hS
    obtain ⟨ds,h1,h2⟩:=bind_some e
    obtain ⟨e',h3,h4⟩:=bind_some h2
    obtain ⟨r1,h5,h6⟩:=bind_some h3
    obtain ⟨N,hN⟩:=go h5
    refine ⟨N,fun k hk=> ?_⟩
    try rw[hS]
    simp only[h1,Option.bind_some]
    exact (congrArg (fun z:Option (Out × St)=>(z.bind fun r=>ways m 0 S.2 r).bind fun e=>jR 0 S.2 e.1 e.2 fun o st=>some (o,st)) (hN k hk)).trans (by simp only[Option.bind_some,h6];exact h4)
  | const v=>
   cases v with
   | bool b=>
    simp only[exec] at e⊢
    cases b with
    | true=>exact fQ e
    | false=>exact fR e
   | _=>simp only[exec] at e;cases e
  | _=>simp only[exec] at e;cases e
 | block id c ih=>
  intro st r e
  simp only[exec] at e⊢
  obtain ⟨x1,h1,h2⟩:=bind_some e
  obtain ⟨N,hN⟩:=ih h1
  exact ⟨N,fun k hk=>by rw[hN k hk];exact h2⟩
 | loop c ih=>
  intro st r e
  simp only[exec] at e⊢
  split at e
  ·cases e
  ·rename_i S hS
   obtain ⟨ds,h1,h2⟩:=bind_some e
   obtain ⟨e',h3,h4⟩:=bind_some h2
   obtain ⟨q,hq⟩:=vw h3
   obtain ⟨N,hN⟩:=Q4 (stepD:=fun k ds=>ky m S.1 S.2 (exec P A (D k) f n m c (bq S.1 ds))) (fun x y zu=>by
    unfold ky at zu⊢
    obtain ⟨z,h5,h6⟩:=bind_some zu
    obtain ⟨N,hN⟩:=ih h5
    exact ⟨N,fun k hk=>by rw[hN k hk];exact h6⟩) q ds e' hq
   refine ⟨N,fun k hk=> ?_⟩
   try rw[hS]
   simp only[h1,Option.bind_some]
   rw[vu (hN k hk)]
   exact h4
 | _=>intro st r e;simp only[exec] at e;cases e
theorem Ey (h:zt C D) {f:Nat} {ds es:List V} (e:n8 P A C f ds=some es): ∃N,∀k,N≤k→n8 P A (D k) f ds=some es:=by
 unfold n8 at e⊢
 cases hf:P.funcs[A.aW f]? with
 | none=>rw[hf] at e;cases e
 | some fn=>
  rw[hf] at e
  simp only at e⊢
  cases hb:fn.body with
  | none=>rw[hb] at e;cases e
  | some c=>
   rw[hb] at e
   simp only at e⊢
   cases hc:(hZ 0 (A.sin f).bI&&(Nat.ble (A.sin f).bI.length fn.ntmps&&((A.sin f).ok&&(hZ 0 (A.fB f).bI&&(Nat.beq (A.fB f).bI.length fn.results.size&&n0 (lR (A.sin f).a8.length (A.mv f))))))) with
   | false=>rw[hc] at e;cases e
   | true=>
    rw[hc] at e
    simp only[cond_true] at e⊢
    obtain ⟨⟨o,s1⟩,h1,h2⟩:=bind_some e
    obtain ⟨N1,oz⟩:=abp h c h1
    cases o with
    | exit id=>cases h2
    | norm=>
     simp only[Option.map_eq_some_iff] at h2
     obtain ⟨x,e1,e2⟩:=h2
     obtain ⟨N2,qG⟩:=qE h e1
     exact ⟨max N1 N2,fun k hk=>by rw[oz k (by omega)];simp only[Option.bind_some,qG k (by omega),Option.map_some,e2]⟩
    | ret=>
     simp only[Option.map_eq_some_iff] at h2
     obtain ⟨x,e1,e2⟩:=h2
     obtain ⟨N2,qG⟩:=qE h e1
     exact ⟨max N1 N2,fun k hk=>by rw[oz k (by omega)];simp only[Option.bind_some,qG k (by omega),Option.map_some,e2]⟩
theorem Q5: ∀n f a r,jS P A n f a=some r→jS P A (n+1) f a=some r
 | 0,f,a,r,h=>by cases h
 | n+1,f,a,r,h=>by
  obtain ⟨N,hN⟩:=Ey (C:=jS P A n) (D:=fun _=>jS P A (n+1)) (fun f a r h=>⟨0,fun _ _=>Q5 n f a r h⟩) h
  exact hN N (Nat.le_refl _)
theorem Ju {n k:Nat} (hk:n≤k) {f:Nat} {a r:List V} (h:jS P A n f a=some r):jS P A k f a=some r:=by
 induction hk with
 | refl=>exact h
 | step _ ih=>exact Q5 _ _ _ _ ih
theorem zw {f:Nat} {a r:List V}:Call P A f a=some r↔∃n,jS P A n f a=some r:=by
 constructor
 ·intro h
  unfold Call at h
  split at h
  ·rename_i hex
   have:=hex.choose_spec.choose_spec
   rw[Option.some.inj h] at this
   exact ⟨_,this⟩
  ·cases h
 ·rintro ⟨n,hn⟩
  have hex: ∃n r,jS P A n f a=some r:=⟨n,r,hn⟩
  unfold Call
  rw[dif_pos hex]
  have h2:=hex.choose_spec.choose_spec
  have h3:=Ju (Nat.le_max_left n hex.choose) hn
  have h4:=Ju (Nat.le_max_right n hex.choose) h2
  rw[h3] at h4
  exact h4.symm
theorem abq (f:Nat) (a:List V):Call P A f a=n8 P A (Call P A) f a:=by
 apply Option.ext
 intro r
 constructor
 ·intro h
  obtain ⟨n,hn⟩:=zw.1 h
  cases n with
  | zero=>cases hn
  | succ n=>
   obtain ⟨N,hN⟩:=Ey (C:=jS P A n) (D:=fun _=>Call P A) (fun f a r h=>⟨0,fun _ _=>zw.2 ⟨n,h⟩⟩) hn
   exact hN N (Nat.le_refl _)
 ·intro h
  obtain ⟨N,hN⟩:=Ey (C:=Call P A) (D:=jS P A) (fun f a r h=>by
   obtain ⟨n,hn⟩:=zw.1 h
   exact ⟨n,fun k hk=>Ju hk hn⟩) h
  exact zw.2 ⟨N+1,hN N (Nat.le_refl _)⟩
end
end Go.AM
namespace Go.AM
open Go.ChangeShapes Go.WideShapes Go.RowKit
section
variable (P:Program)
inductive WT:TypeId→V→Prop
 | int {t:TypeId} {k:IntKind} {n:Int}:P.underlying t=some (.int k)→(Lit.int k n).wf=true→WT t (.int k n)
 | bool {t:TypeId} {b:Bool}:P.underlying t=some .bool→WT t (.bool b)
 | str {t:TypeId} {l:List UInt8}:P.underlying t=some .string→l.length≤maxLen→WT t (.str l)
 | list {t e:TypeId} {es:List V}:P.underlying t=some (.slice e)→es.length≤maxLen→
   (∀(i:Nat) x,es[i]? =some x→bH P e=true→∃xs,x= .agg xs∧xs.length=(aU P e).length)→
   (∀(i j:Nat) x t',es[i]? =some x→(aU P e)[j]? =some t'→WT t' (bK P e x j))→WT t (.list e es)
def im (t:TypeId) (x:V):Prop:=
 (bH P t=true→∃xs,x= .agg xs∧xs.length=(aU P t).length)∧∀(j:Nat) t',(aU P t)[j]? =some t'→WT P t' (bK P t x j)
def td:List TypeId→List V→Prop
 | [],[]=>True
 | t::ts,x::xs=>im P t x∧td ts xs
 | _,_=>False
def hasB (L:List TypeId) (t:TypeId):Bool:=L.any fun u=>Nat.beq u t
def Ez (L:List TypeId):Nat→List Field→Bool
 | _,[]=>true
 | n,f::fs=>hasB L f.type&&(Nat.beq f.offset n&&(Nat.beq (P.cellsOf f.type) (aU P f.type).length&&Ez L (n+P.cellsOf f.type) fs))
def zx:List Nat→List Nat→Bool
 | [],[]=>true
 | a::l,b::m=>Nat.beq a b&&zx l m
 | _,_=>false
def Jv (L:List TypeId) (t:TypeId):Bool:=
 Nat.beq (P.cellsOf t) (aU P t).length&&
 match P.underlying t with
 | some (.int _)=>true
 | some .bool=>true
 | some .string=>true
 | some (.slice e)=>hasB L e&&cY P e
 | some (.struct fs)=>Ez P L 0 fs.toList&&zx (flat P t) (fs.toList.flatMap fun f=>aU P f.type)
 | some (.array n e)=>hasB L e&&(Nat.beq (P.cellsOf e) (aU P e).length&&zx (flat P t) (List.replicate n (aU P e)).flatten)
 | _=>false
def EA (L:List TypeId):Bool:=L.all fun t=>Jv P L t
end
theorem EB {L:List TypeId} {t:TypeId} (h:hasB L t=true):t∈L:=by
 obtain ⟨u,hu,h2⟩:=List.any_eq_true.1 h
 rw[Nat.beq_eq] at h2
 exact h2▸hu
theorem Jw: ∀{l m:List Nat},zx l m=true→l=m
 | [],[],_=>rfl
 | a::l,b::m,h=>by
  simp only[zx,Bool.and_eq_true,Nat.beq_eq] at h
  rw[h.1,Jw h.2]
 | [],_::_,h=>by cases h
 | _::_,[],h=>by cases h
section
variable {P:Program} {H:Type} {enc:TypeId × Value→H} {w:World} {base:Nat} {spare:Nat→Bool} {held:Bool} {L:List TypeId}
def m9 (w:World):Nat→Prop:=fun b=>b<w.heap.size
def na (P:Program) (w:World) (ts:List TypeId) (cs:List Value) (xs:List V):Prop:=
 cs.length=ts.length∧xs.length=ts.length∧∀(j:Nat) t',ts[j]? =some t'→∃v y,cs[j]? =some v∧xs[j]? =some y∧Pure P w (m9 w) t' v y∧WT P t' y
theorem na.app {ts vG:List TypeId} {cs ik:List Value} {xs Q6:List V} (h:na P w ts cs xs) (h':na P w vG ik Q6):na P w (ts++vG) (cs++ik) (xs++Q6):=by
 obtain ⟨a,b,c⟩:=h
 obtain ⟨a',b',c'⟩:=h'
 refine ⟨by simp[a,a'],by simp[b,b'],fun j t' hj=> ?_⟩
 by_cases aR:j<ts.length
 ·rw[List.getElem?_append_left aR] at hj
  obtain ⟨v,y,e1,e2,e3⟩:=c j t' hj
  exact ⟨v,y,by rw[List.getElem?_append_left (by omega)];exact e1,by rw[List.getElem?_append_left (by omega)];exact e2,e3⟩
 ·rw[List.getElem?_append_right (by omega)] at hj
  obtain ⟨v,y,e1,e2,e3⟩:=c' _ t' hj
  exact ⟨v,y,by rw[List.getElem?_append_right (by omega),a];exact e1,by rw[List.getElem?_append_right (by omega),b];exact e2,e3⟩
theorem abr {w:World} {a:Addr} {v:Value} (h:w.cell? a=some v):a.spot=none∧a.block<w.heap.size:=by
 unfold World.cell? at h
 split at h
 ·rename_i hh
  split at h
  ·cases h
  ·rename_i hs
   exact ⟨by simpa using hs,(Array.getElem?_eq_some_iff.1 hh).1⟩
 all_goals (first|cases h|skip)
theorem Q7 {rd:TypeId→List Value→Option (DataW H × List MemPlace)} (cs:List Value)
  (ih: ∀t cs x,t∈L→rd t cs=some x→∃xs,na P w (aU P t) cs xs): ∀(fs:List Field) (n:Nat),Ez P L n fs=true→
  (∀f∈fs,∃x,rd f.type ((cs.drop f.offset).take (P.cellsOf f.type))=some x)→∃m xs,n≤m∧na P w (fs.flatMap fun f=>aU P f.type) ((cs.drop n).take (m-n)) xs∧m-n=(fs.flatMap fun f=>aU P f.type).length
 | [],n,_,_=>⟨n,[],Nat.le_refl _,⟨by simp,rfl,by simp⟩,by simp⟩
 | f::fs,n,h,hx=>by
  simp only[Ez,Bool.and_eq_true,Nat.beq_eq] at h
  obtain ⟨h1,h2,h3,h4⟩:=h
  obtain ⟨x,hxf⟩:=hx f (by simp)
  obtain ⟨xs,gB⟩:=ih _ _ _ (EB h1) hxf
  obtain ⟨m,ys,hm,qH,Ek⟩:=Q7 cs ih fs (n+P.cellsOf f.type) h4 fun g hg=>hx g (by simp[hg])
  refine ⟨m,xs++ys,by omega,?_,by simp only[List.flatMap_cons,List.length_append];omega⟩
  have:=gB.app qH
  rw[List.flatMap_cons]
  rw[h2] at this
  have e:(cs.drop n).take (m-n)=(cs.drop n).take (P.cellsOf f.type)++(cs.drop (n+P.cellsOf f.type)).take (m-(n+P.cellsOf f.type)):=by
   rw[show m-n=P.cellsOf f.type+(m-(n+P.cellsOf f.type)) by omega,List.take_add,List.drop_drop]
  rw[e]
  exact this
theorem Q8 {rd:List Value→Option (DataW H × List MemPlace)} (cs:List Value) {e:TypeId} (hs:P.cellsOf e=(aU P e).length)
  (ih: ∀cs x,rd cs=some x→∃xs,na P w (aU P e) cs xs): ∀(n:Nat),
  (∀i,i<n→∃x,rd ((cs.drop (i*P.cellsOf e)).take (P.cellsOf e))=some x)→∃xs,na P w (List.replicate n (aU P e)).flatten (cs.take (n*P.cellsOf e)) xs
 | 0,_=>⟨[],by simp,rfl,by simp⟩
 | n+1,hx=>by
  obtain ⟨xs,gB⟩:=Q8 cs hs ih n fun i hi=>hx i (by omega)
  obtain ⟨x,zn⟩:=hx n (by omega)
  obtain ⟨ys,qH⟩:=ih _ _ zn
  refine ⟨xs++ys,?_⟩
  rw[List.replicate_succ',List.flatten_append]
  have:=gB.app qH
  rw[Nat.add_mul,Nat.one_mul,List.take_add]
  simpa using this
theorem EC (hL:EA P L=true): ∀(fuel:Nat) (t:TypeId) (cs:List Value) (x:DataW H × List MemPlace),t∈L→DataW.trod enc P w base spare held fuel t cs=some x→
  ∃xs,na P w (aU P t) cs xs
 | 0,_,_,_,_,h=>by cases h
 | fuel+1,t,cs,x,ht,h=>by
  have hg:=List.all_eq_true.1 hL t ht
  unfold Jv at hg
  rw[Bool.and_eq_true,Nat.beq_eq] at hg
  obtain ⟨hc,hg⟩:=hg
  have one:bH P t=false→aU P t=[t]:=fun h=>by simp[aU,h]
  cases hu:P.underlying t with
  | none=>rw[hu] at hg;cases hg
  | some d=>
   rw[hu] at hg
   cases d with
   | int k=>
    obtain ⟨n,rfl,rfl,hwf⟩:=DataW.trod_int hu h
    rw[one (by simp[bH,hu])]
    exact ⟨[.int k n],rfl,rfl,fun j t' hj=>by
     cases j with
     | zero=>cases hj;exact ⟨_,_,rfl,rfl,.int hu,.int hu hwf⟩
     | succ j=>simp at hj⟩
   | bool=>
    obtain ⟨b,rfl,rfl⟩:=DataW.trod_bool hu h
    rw[one (by simp[bH,hu])]
    exact ⟨[.bool b],rfl,rfl,fun j t' hj=>by
     cases j with
     | zero=>cases hj;exact ⟨_,_,rfl,rfl,.bool hu,.bool hu⟩
     | succ j=>simp at hj⟩
   | string=>
    obtain ⟨s,rfl,rfl,hl⟩:=DataW.trod_string hu h
    rw[one (by simp[bH,hu])]
    exact ⟨[.str s.data.toList],rfl,rfl,fun j t' hj=>by
     cases j with
     | zero=>cases hj;exact ⟨_,_,rfl,rfl,.str hu rfl,.str hu (by simpa using hl)⟩
     | succ j=>simp at hj⟩
   | slice e=>
    simp only[Bool.and_eq_true] at hg
    obtain ⟨he,au⟩:=hg
    rw[one (by simp[bH,hu])]
    have single: ∀v y,cs=[v]→Pure P w (m9 w) t v y→WT P t y→∃xs,na P w [t] cs xs:=by
     rintro v y rfl a b
     exact ⟨[y],rfl,rfl,fun j t' hj=>by
      cases j with
      | zero=>cases hj;exact ⟨_,_,rfl,rfl,a,b⟩
      | succ j=>simp at hj⟩
    rcases DataW.trod_slice hu h with ⟨rfl,rfl⟩|⟨a,len,cap,elems,rest,n,hn,rfl,rfl,hb,hl,hm,hlen,da,_,_⟩
    ·exact single _ _ rfl (.nil hu) (.list hu (by simp) (by simp) (by simp))
    ·cases hn
     have iH:=(jV au).2
     have O8:P.cellsOf e=(aU P e).length:=(fG au).symm
     have key: ∀i,i<len→∃ik xs,w.cells? base (a.add (i*P.cellsOf e)) (P.cellsOf e)=some ik∧na P w (aU P e) ik xs:=by
      intro i hi
      have h1:=da i hi
      rw[List.getElem?_eq_getElem (by omega)] at h1
      obtain ⟨ik,h2,h3⟩:=Option.bind_eq_some_iff.1 h1
      obtain ⟨xs,gB⟩:=EC hL fuel e ik _ (EB he) h3
      exact ⟨ik,xs,h2,gB⟩
     by_cases h0:len=0
     ·subst h0
      exact single _ _ rfl (.emp hu) (.list hu (by simp) (by simp) (by simp))
     ·have kE:a.spot=none∧a.block<w.heap.size:=by
       obtain ⟨ik,xs,h2,_⟩:=key 0 (by omega)
       obtain ⟨_,h3,h4⟩:=World.cells?_some h2
       have h5:=h4 0 iH
       rw[List.getElem?_eq_getElem (by omega)] at h5
       have:=abr h5
       simpa[Addr.add] using this
      have hF: ∃(F:Nat→List Value) (X:Nat→List V),∀i,i<len→w.cells? base (a.add (i*P.cellsOf e)) (P.cellsOf e)=some (F i)∧na P w (aU P e) (F i) (X i):=by
       refine ⟨fun i=>if hi:i<len then (key i hi).choose else [],fun i=>if hi:i<len then (key i hi).choose_spec.choose else [],fun i hi=> ?_⟩
       simp only[dif_pos hi]
       exact (key i hi).choose_spec.choose_spec
      obtain ⟨F,X,Jx⟩:=hF
      have hx: ∀(i j:Nat) y t',((List.range len).map fun i=>cx P e (X i))[i]? =some y→(aU P e)[j]? =some t'→i<len∧∃v,(F i)[j]? =some v∧Pure P w (m9 w) t' v (bK P e y j)∧WT P t' (bK P e y j):=by
       intro i j y t' hy hj
       have hi:i<len:=by
        have:=(List.getElem?_eq_some_iff.1 hy).1
        simpa using this
       refine ⟨hi,?_⟩
       simp[List.getElem?_range hi] at hy
       obtain ⟨c1,c2,c3⟩:=(Jx i hi).2
       obtain ⟨v,z,d1,d2,d3,d4⟩:=c3 j t' hj
       have:bK P e y j=z:=by
        rw[←hy]
        unfold bK cx
        cases ha:bH P e with
        | true=>
         simp only[cond_true,V.cell]
         rw[tF _ _ _ d2]
        | false=>
         simp only[cond_false]
         have:aU P e=[e]:=by simp[aU,ha]
         rw[this] at hj
         cases j with
         | zero=>rw[tF _ _ _ d2]
         | succ j=>simp at hj
       rw[this]
       exact ⟨v,d1,d3,d4⟩
      have gl: ∀i j,i<len→j<P.cellsOf e→w.cell? ⟨a.block,a.off+(i*P.cellsOf e+j),none⟩=some ((F i).getD j undef):=by
       intro i j hi hj
       obtain ⟨h1,h2⟩:=Jx i hi
       obtain ⟨_,h3,h4⟩:=World.cells?_some h1
       have h5:=h4 j hj
       rw[Go.Deep.add_add] at h5
       have e1:a.add (i*P.cellsOf e+j)=⟨a.block,a.off+(i*P.cellsOf e+j),none⟩:=by
        obtain ⟨b,o,s⟩:=a
        simp only at kE
        rw[kE.1]
        exact mV ..
       rw[e1] at h5
       rw[h5,List.getD_eq_getElem?_getD,List.getElem?_eq_getElem (by omega)]
       rfl
      have ha:a=⟨a.block,a.off,none⟩:=by
       obtain ⟨b,o,s⟩:=a
       simp only at kE
       rw[kE.1]
      refine single (.slice (some a) len cap) (.list e ((List.range len).map fun i=>cx P e (X i))) rfl ?_ ?_
      ·rw[ha]
       refine .list (fun i j=>(F i).getD j undef) hu (by simp) hl (fun _=>kE.2) gl ?_
       intro i j y t' hy hj
       obtain ⟨hi,v,d1,d2,_⟩:=hx i j y t' hy hj
       rw[List.getD_eq_getElem?_getD,d1]
       exact d2
      ·refine .list hu (by simp;omega) ?_ ?_
       ·intro i y hy ED
        have hi:i<len:=by
         have:=(List.getElem?_eq_some_iff.1 hy).1
         simpa using this
        simp[List.getElem?_range hi] at hy
        rw[←hy]
        exact ⟨X i,by simp[cx,ED],(Jx i hi).2.2.1⟩
       ·intro i j y t' hy hj
        obtain ⟨_,v,_,_,d3⟩:=hx i j y t' hy hj
        exact d3
   | struct fs=>
    simp only[Bool.and_eq_true] at hg
    obtain ⟨xs,n,hn,rfl,hlen,jZ,hx⟩:=DataW.trod_struct hu h
    cases hn
    have het:aU P t=fs.toList.flatMap fun f=>aU P f.type:=by
     rw[←Jw hg.2]
     simp[aU,bH,hu]
    obtain ⟨m,ys,_,qH,hm⟩:=Q7 (w:=w) (rd:=fun t cs=>DataW.trod enc P w base spare held fuel t cs) cs (fun t cs x a b=>EC hL fuel t cs x a b) fs.toList 0 hg.1 (by
     intro f hf
     obtain ⟨i,hi⟩:=List.getElem?_of_mem hf
     rw[Array.getElem?_toList] at hi
     have qv:i<fs.size:=(Array.getElem?_eq_some_iff.1 hi).1
     exact ⟨_,(hx i f hi).trans (List.getElem?_eq_getElem (by omega))⟩)
    rw[het]
    refine ⟨ys,?_⟩
    have:(cs.drop 0).take (m-0)=cs:=by
     rw[List.drop_zero,hm,←het,←hc,←hlen,List.take_length]
    rw[this] at qH
    exact qH
   | array n e=>
    simp only[Bool.and_eq_true,Nat.beq_eq] at hg
    obtain ⟨xs,m,hn,rfl,hlen,jZ,hx⟩:=DataW.trod_array hu h
    cases hn
    have het:aU P t=(List.replicate n (aU P e)).flatten:=by
     rw[←Jw hg.2.2]
     simp[aU,bH,hu]
    obtain ⟨ys,qH⟩:=Q8 (w:=w) (rd:=DataW.trod enc P w base spare held fuel e) cs hg.2.1 (fun cs x b=>EC hL fuel e cs x (EB hg.1) b) n (by
     intro i hi
     exact ⟨_,(hx i hi).trans (List.getElem?_eq_getElem (by omega))⟩)
    rw[het]
    refine ⟨ys,?_⟩
    have:cs.take (n*P.cellsOf e)=cs:=by
     have:n*P.cellsOf e=cs.length:=by
      rw[hlen,hc,het,hg.2.1]
      simp
     rw[this,List.take_length]
    rw[this] at qH
    exact qH
   | _=>cases hg
end
section
variable {P:Program} {H:Type} {enc:TypeId × Value→H} {w:World} {L:List TypeId}
theorem abt {base Jy:Nat} {spare:Nat→Bool} {held:Bool} {r:Reach} {β:Nat→Option Nat} {hp:Nat→Option ag} (hL:EA P L=true) {t:TypeId} {v:Value} {d:DataW H} {ps:List MemPlace} (ht:t∈L) (fA:Value.okWide P w r Jy t v)
  (h:DataW.Trod enc P w base spare held t v d ps): ∃x,ah P w (m9 w) β hp v x∧im P t x:=by
 obtain ⟨fuel,hf⟩:=h
 obtain ⟨xs,c1,c2,c3⟩:=EC hL fuel t _ _ ht hf
 have hg:=List.all_eq_true.1 hL t ht
 unfold Jv at hg
 rw[Bool.and_eq_true,Nat.beq_eq] at hg
 obtain ⟨_,hg⟩:=hg
 have ED:bH P t=true→∃x,ah P w (m9 w) β hp v x∧im P t x:=by
  intro ha
  have hv: ∃cs,v= .agg cs:=by
   unfold Value.okWide at fA
   unfold bH at ha
   split at fA
   ·obtain ⟨cs,e,_⟩:=fA;exact ⟨cs,e⟩
   ·obtain ⟨cs,e,_⟩:=fA;exact ⟨cs,e⟩
   ·split at ha<;>simp_all
  obtain ⟨cs,rfl⟩:=hv
  refine ⟨.agg xs,.agg (by simpa[Value.cells] using c1.trans c2.symm) fun j v x hv hx=> ?_,fun _=>⟨xs,rfl,c2⟩,fun j t' hj=> ?_⟩
  ·have hj:j<(aU P t).length:=by rw[←c2];exact (List.getElem?_eq_some_iff.1 hx).1
   obtain ⟨v',y,e1,e2,e3,_⟩:=c3 j _ (List.getElem?_eq_getElem hj)
   rw[hx] at e2
   cases e2
   have:cs[j]? =some v':=by simpa[Value.cells] using e1
   rw[hv] at this
   cases this
   exact .qf e3
  ·obtain ⟨v',y,e1,e2,_,e4⟩:=c3 j t' hj
   have:bK P t (.agg xs) j=y:=by
    simp only[bK,ha,cond_true,V.cell]
    exact tF _ _ _ e2
   rw[this]
   exact e4
 have qs:bH P t=false→v.cells= #[v]→∃x,ah P w (m9 w) β hp v x∧im P t x:=by
  intro ha tL
  have he:aU P t=[t]:=by simp[aU,ha]
  rw[he] at c1 c2 c3
  obtain ⟨v',y,e1,e2,e3,e4⟩:=c3 0 t rfl
  rw[tL] at e1
  cases e1
  refine ⟨y,.qf e3,⟨fun h=>absurd (ha.symm.trans h) (by simp),fun j t' hj=> ?_⟩⟩
  rw[he] at hj
  cases j with
  | succ j=>simp at hj
  | zero=>
   cases hj
   simpa[bK,ha] using e4
 unfold Value.okWide at fA
 cases hu:P.underlying t with
 | none=>rw[hu] at hg;cases hg
 | some dsc=>
  rw[hu] at hg fA
  cases dsc with
  | int k=>
   refine qs (by simp[bH,hu]) ?_
   simp only[Cell.okWide,Cell.ok,hu] at fA
   cases v<;>first|rfl|(simp at fA;done)|exact fA.elim
  | bool=>
   refine qs (by simp[bH,hu]) ?_
   simp only[Cell.okWide,Cell.ok,hu] at fA
   cases v<;>first|rfl|(simp at fA;done)|exact fA.elim
  | string=>
   refine qs (by simp[bH,hu]) ?_
   simp only[Cell.okWide,Cell.ok,hu] at fA
   cases v<;>first|rfl|(simp at fA;done)|exact fA.elim
  | slice e=>
   refine qs (by simp[bH,hu]) ?_
   simp only[Cell.okWide,Cell.ok,hu] at fA
   cases v<;>first|rfl|(simp at fA;done)|exact fA.elim
  | struct fs=>exact ED (by simp[bH,hu])
  | array n e=>exact ED (by simp[bH,hu])
  | _=>cases hg
theorem Q9 {base Jy:Nat} {spare:Nat→Bool} {held:Bool} {r:Reach} {β:Nat→Option Nat} {hp:Nat→Option ag} (hL:EA P L=true): ∀{ts:List TypeId} {vs:List Value} {ds:List (DataW H)} {ps:List MemPlace},
  (∀t∈ts,t∈L)→(∀(j:Nat) t v,ts[j]? =some t→vs[j]? =some v→Value.okWide P w r Jy t v)→DataW.TrodAll enc P w base spare held ts vs ds ps→
  ∃xs,vs.length=xs.length∧(∀(j:Nat) v x,vs[j]? =some v→xs[j]? =some x→ah P w (m9 w) β hp v x)∧td P ts xs
 | [],vs,ds,ps,_,_,h=>by
  obtain ⟨rfl,rfl,rfl⟩:=trodAll_nil h
  exact ⟨[],rfl,by simp,trivial⟩
 | t::ts,vs,ds,ps,hm,fA,h=>by
  obtain ⟨v,Dn,d,Ra,a,b,rfl,rfl,rfl,h1,h2⟩:=trodAll_cons h
  obtain ⟨x,zn,mX⟩:=abt (β:=β) (hp:=hp) hL (hm t (by simp)) (fA 0 t v rfl rfl) h1
  obtain ⟨xs,hl,hr,hw⟩:=Q9 (β:=β) (hp:=hp) hL (fun t ht=>hm t (by simp[ht])) (fun j t v a b=>fA (j+1) t v (by simpa using a) (by simpa using b)) h2
  refine ⟨x::xs,by simp[hl],fun j v' x' hv hx=> ?_,mX,hw⟩
  cases j with
  | zero=>cases hv;cases hx;exact zn
  | succ j=>exact hr j v' x' (by simpa using hv) (by simpa using hx)
theorem Rb {base:Nat} {spare:Nat→Bool} {held:Bool}: ∀{ts:List TypeId} {vs:List Value} {ds:List (DataW H)} {ps:List MemPlace},DataW.TrodAll enc P w base spare held ts vs ds ps→ds.length=ts.length
 | [],vs,ds,ps,h=>by obtain ⟨rfl,rfl,rfl⟩:=trodAll_nil h;rfl
 | t::ts,vs,ds,ps,h=>by
  obtain ⟨v,Dn,d,Ra,a,b,rfl,rfl,rfl,h1,h2⟩:=trodAll_cons h
  simp[Rb h2]
theorem Rc {base:Nat} (hl:laidOutB P=true) {W W':World} {Re:Nat→Bool}: ∀{ts:List TypeId} {vs:List Value} {ds:List (DataW H)} {ps:List MemPlace},(∀t∈ts,P.readableRec t=true∧t<P.types.size)→
  DataW.TrodAll enc P W base (fun _=>true) true ts vs ds ps→(∀p∈ps,W.sameAt W' p)→(∀p∈ps,Re p.block=true)→DataW.TrodAll enc P W' base Re true ts vs ds ps
 | [],vs,ds,ps,_,h,_,_=>by obtain ⟨rfl,rfl,rfl⟩:=trodAll_nil h;exact trodAll_mk0
 | t::ts,vs,ds,ps,hr,h,h1,h2=>by
  obtain ⟨v,Dn,d,Ra,a,b,rfl,rfl,rfl,h3,h4⟩:=trodAll_cons h
  obtain ⟨r1,r2⟩:=hr t (by simp)
  exact trodAll_cons_mk (WideElems.Trod_stays hl r1 r2 h3 (fun p hp=>h1 p (by simp[hp])) (fun p hp=>h2 p (by simp[hp])))
   (Rc hl (fun t ht=>hr t (by simp[ht])) h4 (fun p hp=>h1 p (by simp[hp])) (fun p hp=>h2 p (by simp[hp])))
theorem abu {f:Func} {s:ChangeSpec} {apart fresh handsOn again:Bool} {W W':World} {args:Array Value} {v:Value} {ds gs:List (DataW H)} {before pa pv:List MemPlace}
  (hW:DataW.Whole enc P f.params.toList s.vars apart W args.toList ds gs before)
  (Rf: ∀(b:Nat) (sp:Nat→Bool) (hd:Bool),DataW.TrodAll enc P W' b sp hd f.resultTypes.toList (v.resultList f.resultTypes.size) (s.fn H (ds++gs)).results [])
  (ub: ∀sp:Nat→Bool,(∀p∈before,sp p.block=true)→DataW.TrodAll enc P W' 0 sp true f.params.toList args.toList (s.fn H (ds++gs)).args pa)
  (Rg: ∀sp:Nat→Bool,(∀p∈before,sp p.block=true)→DataW.TrodVars enc P W' sp s.vars (s.fn H (ds++gs)).vars pv)
  (EE:before=pa++pv) (hk:W.keptBut W' (· ∈before)) (Rh: ∀a:Addr,a.block<W.heap.size→W'.frozen? a=W.frozen? a)
  (au: ∀(j:Nat) (t:TypeId) (r:Value),f.resultTypes[j]? =some t→(v.resultList f.resultTypes.size)[j]? =some r→Value.okWide P W' .any 0 t r):
  s.post enc P f apart fresh handsOn again W args v W':=by
 have hold: ∀p∈before,(fun b=>decide (b<W.heap.size)) p.block=true:=fun p hp=>by simpa using hW.lt p hp
 refine ⟨ds,gs,before,[],pa,pv,hW,Rf _ _ _,ub _ hold,Rg _ hold,World.keptBut_mono (fun p hp=>⟨hp,?_⟩) hk,fun _=> ?_⟩
 ·rw[EE,List.mem_append] at hp
  exact Or.inr hp
 ·have aR:=hW.lt
  obtain ⟨_,_,_,_,_,hz,hn⟩:=hW
  refine ⟨au,_,_,([]++pa)++pv,⟨[]++pa,pv,trodAll_append (ub _ (fun _ _=>rfl)) (Rf _ _ _),Rg _ (fun _ _=>rfl),rfl,?_,?_⟩,?_⟩
  ·intro b off hp
   have hb:MemPlace.cell b off∈before:=by rw[EE];simpa using hp
   rw[Rh ⟨b,off,none⟩ (aR _ hb)]
   exact hz b off hb
  ·intro ha
   have:=hn ha
   rw[EE] at this
   simpa using this
  ·intro p hp _
   rw[EE]
   simpa using hp
theorem Yl {A:cH} (hP:jh P A) (pw:P.follows .mixedOrders=true) {f key:Nat} {fn:Func} {tb:TypeId} {s:ChangeSpec} {apart fresh handsOn again:Bool}
  (hf:P.funcs[f]? =some fn) (abv:A.aW key=f) (hL:EA P L=true) (fa:fn.params.toList.all (fun t=>hasB L t)=true) (Ri:fn.resultTypes= #[tb]) (Rj:P.underlying tb=some .bool) (Rk:s.vars=[])
  (hs: ∀ds:List (DataW H),ds.length=fn.params.toList.length→s.fn H ds={results:=[.lit (.bool true)],args:=ds})
  (abw:laidOutB P=true) (abx:fn.params.toList.all (fun t=>P.readableRec t&&Nat.blt t P.types.size)=true)
  (dX:(A.sin key).a8=[]) (au:((A.sin key).bI.map (·.2)).all (VS.ok 0)=true) (aby:(A.fB key).bI=[(0,.one .bool)]) (halt:A.alt key=none)
  (abz: ∀xs,td P fn.params.toList xs→∃ds,rH ((A.sin key).bI.map (·.2)) xs=some ds∧Call P A key ds=some [.bool true])
  {W:World} {base:Nat} {args:Array Value} {ds gs:List (DataW H)} {before:List MemPlace}
  (abA:gL P A.aC W (m9 W)) (fA: ∀(j:Nat) t v,fn.params[j]? =some t→args[j]? =some v→Value.okWide P W .any base t v)
  (hW:DataW.Whole enc P fn.params.toList s.vars apart W args.toList ds gs before):
  Calls P f args W fun e W'=> ∃v,e= .returned v∧s.post enc P fn apart fresh handsOn again W args v W':=by
 have Rl:=hW
 obtain ⟨p,q,hA,hV,rfl,Rh,j4⟩:=hW
 rw[Rk] at hV
 obtain ⟨hgs,hq⟩:gs=[]∧q=[]:=by
  cases gs with
  | nil=>exact ⟨rfl,hV⟩
  | cons g gs=>exact hV.elim
 subst hgs
 subst hq
 obtain ⟨xs,hl,hr,hwt⟩:=Q9 (β:=fun _=>none) (hp:=fun _=>none) hL (fun t ht=>EB (List.all_eq_true.1 fa t ht)) (fun j t v a b=>fA j t v (by simpa using a) (by simpa using b)) hA
 obtain ⟨ls,hls,zl⟩:=abz xs hwt
 obtain ⟨fn',c,h1,h2,h3⟩:=abn (A:=A) hP pw key ls [.bool true] zl
 rw[abv] at h1 h3
 rw[hf] at h1
 cases h1
 have wC: ∀j,(bq (A.sin key) ls).hp j=none:=fun j=>by simp[bq,mk,dX,eV,jq]
 obtain ⟨_,r1,r2⟩:=zc (P:=P) (w:=W) (I:=m9 W) (n:=0) (β:=fun _=>none) (an:=fun _=>none) (hp:=fun _=>none) (hp':=(bq (A.sin key) ls).hp) (fun j hj=>absurd hj (Nat.not_lt_zero j)) hls au
 have hlen:((A.sin key).bI.map (·.2)).length=xs.length:=by rw[←r1 [],Jt]
 have h4:=h3 W (m9 W) (fun _=>none) args.toList ⟨fun id blk h=>(by rw[wC] at h;cases h),fun id aB blk blk' b h=>(by rw[wC] at h;cases h),fun id blk b h=>(by rw[wC] at h;cases h),fun b h=>h⟩ abA
  (by rw[hl,←hlen,List.length_map]) (fun j v y hv hy=>r2 [] j v y (fun x hx=>hr j v x hv hx) (by rw[List.append_nil];exact hy))
 have ea:args.toList.toArray=args:=by simp
 rw[ea] at h4
 refine h4.mono fun e W' ⟨v,I2,b9,he,ha⟩=>⟨v,he,?_⟩
 have tI: ∀b,b<W.heap.size→W'.heap[b]? =W.heap[b]? :=fun b hb=>ha.wq.cg b hb (by rintro ⟨j,blk,hj,_⟩;rw[wC] at hj;cases hj)
 have II:=ha.res
 have Rm:A.so key [.bool true]=A.fB key∧A.lv key [.bool true]=[.bool true]:=by unfold cH.so cH.lv;rw[halt];exact ⟨rfl,rfl⟩
 rw[Rm.1,Rm.2,aby] at II
 obtain rfl:v= .bool true:=II.jw
 have lg:Value.okWide P W' .any 0 tb (.bool true):=by simp[Value.okWide,Rj,Cell.okWide,Cell.ok]
 have kU:ds.length=fn.params.toList.length:=Rb hA
 have iN: ∀p'∈p++[],W.sameAt W' p':=by
  intro p' hp'
  have aR:=Rl.lt p' hp'
  cases p' with
  | cell b o=>exact World.cell?_of_block (w:=W) (tI b aR)
  | map b=>exact tI b aR
 refine abu (pa:=p) (pv:=[]) Rl ?_ ?_ ?_ rfl ?_ ?_ ?_
 ·intro b sp hd
  rw[List.append_nil,hs ds kU,Ri]
  exact trodAll_mk1 ⟨1,by simp[DataW.trod,Value.cells,Rj]⟩
 ·intro sp kE
  rw[List.append_nil,hs ds kU]
  refine Rc abw (fun t ht=> ?_) hA (fun p' hp'=>iN p' (by simpa using hp')) (fun p' hp'=>kE p' (by simpa using hp'))
  have:=List.all_eq_true.1 abx t ht
  simp only[Bool.and_eq_true] at this
  exact ⟨this.1,by simpa[Nat.blt_eq] using this.2⟩
 ·intro sp kE
  rw[Rk,List.append_nil,hs ds kU]
  exact rfl
 ·refine ⟨ha.wq.io.1,ha.wq.io.2,fun i hi=> ?_⟩
  rw[tI i hi]
  split<;>simp_all
 ·intro a aR
  exact World.frozen?_of_block (w:=W) (tI a.block aR)
 ·intro j t r hj Jz
  rw[Ri] at hj Jz
  cases j with
  | zero=>
   simp[Value.resultList] at hj Jz
   subst hj
   subst Jz
   exact lg
  | succ j=>simp at hj
end
end Go.AM
namespace Go.AM
@[simp] theorem V.toInt_int (k:IntKind) (n:Int):V.toInt (.int k n)=n:=by cases k<;>rfl
@[simp] theorem V.j5 (b:Bool):V.toBool (.bool b)=b:=by cases b<;>rfl
@[simp] theorem V.akS (s:List UInt8):V.toStr (.str s)=s:=by cases s<;>rfl
@[simp] theorem V.nc (e:TypeId) (es:List V):V.toList (.list e es)=es:=by cases es<;>rfl
@[simp] theorem V.akT (e:TypeId) (es:List V):V.toList (.own e es)=es:=by cases es<;>rfl
@[simp] theorem V.abB (cs:List V) (j:Nat):V.cell (.agg cs) j=V.nth cs j:=by cases cs<;>rfl
@[simp] theorem V.akU (cs:List V) (j:Nat):V.comp (.bh cs) j=V.nth cs j:=by cases cs<;>rfl
@[simp] theorem V.bU (x:V) (l:List V):V.nth (x::l) 0=x:=by cases l<;>rfl
@[simp] theorem V.qI (x:V) (l:List V) (n:Nat):V.nth (x::l) (n+1)=V.nth l n:=by cases l<;>rfl
@[simp] theorem V.akV (x y:V) (l:List V):V.nth (x::y::l) 1=y:=by cases l<;>rfl
@[simp] theorem V.akW (x y z:V) (l:List V):V.nth (x::y::z::l) 2=z:=by cases l<;>rfl
@[simp] theorem V.akX (x y z u:V) (l:List V):V.nth (x::y::z::u::l) 3=u:=by cases l<;>rfl
theorem wrap64 {x:Int} (h1: -9223372036854775808≤x) (h2:x<9223372036854775808):IntKind.wrap .i64 x=x:=by
 rw[IntKind.wrap_i64];omega
theorem JA {x:Int} (h1:0≤x) (h2:x<256):IntKind.wrap .u8 x=x:=by
 rw[IntKind.wrap_u8];omega
theorem JB {es:List V} {i:Int} {n:Nat} (h:i=n):idx es i=es[n]? :=by
 subst h;simp[idx]
theorem abC {α:Type} {f:α→V} {l:List α} {i:Int} {n:Nat} (h:i=n) (hn:n<l.length):idx (l.map f) i=some (f l[n]):=by
 rw[JB h];simp[hn]
@[simp] theorem EF (es:List V) (n:Nat):idx es (n:Int)=es[n]? :=by simp[idx]
section
variable {X R:Type} {step:X→Option (X ⊕ R)}
theorem Rn (Inv:X→Prop) (μ:X→Nat) (Q:R→Prop)
  (h: ∀x,Inv x→(∃y,step x=some (.inl y)∧Inv y∧μ y<μ x)∨∃r,step x=some (.inr r)∧Q r):
  ∀x,Inv x→∃r,Loop step x=some r∧Q r:=by
 intro x
 induction hm:μ x using Nat.strongRecOn generalizing x with
 | ind m ih=>
  intro hx
  rcases h x hx with ⟨y,h1,h2,h3⟩|⟨r,h1,h2⟩
  ·obtain ⟨r,h4,h5⟩:=ih (μ y) (by omega) y rfl h2
   exact ⟨r,(ee h1).trans h4,h5⟩
  ·exact ⟨r,bZ h1,h2⟩
theorem zy (s:Nat→X) (n:Nat) {r:R} (h: ∀i,i<n→step (s i)=some (.inl (s (i+1)))) (he:step (s n)=some (.inr r)):Loop step (s 0)=some r:=by
 induction n generalizing s with
 | zero=>exact bZ he
 | succ n ih=>
  rw[ee (h 0 (by omega))]
  exact ih (fun i=>s (i+1)) (fun i hi=>h (i+1) (by omega)) he
theorem abD (s:Nat→X) (k:Nat) {r:R} (h: ∀i,i<k→step (s i)=some (.inl (s (i+1)))) (he:step (s k)=some (.inr r)):Loop step (s 0)=some r:=zy s k h he
end
@[simp] theorem az {α:Type} (p:Prop) [Decidable p] (a b:α):(bif decide p then a else b)=if p then a else b:=by by_cases h:p<;>simp[h]
@[simp] theorem nd {α:Type} (m n:Int) (a b:α):(bif m==n then a else b)=if m=n then a else b:=by
 by_cases h:m=n
 ·simp[h]
 ·have:(m==n)=false:=by simp[h]
  rw[this,if_neg h];rfl
@[simp] theorem py {α:Type} (m n:Int) (a b:α):(bif m != n then a else b)=if m=n then b else a:=by
 by_cases h:m=n
 ·simp[h]
 ·have:(m != n)=true:=by simp[h]
  rw[this,if_neg h];rfl
@[simp] theorem gr {α:Type} (c:Bool) (a b:α):(bif !c then a else b)=bif c then b else a:=by cases c<;>rfl
@[simp] theorem qJ {α:Type} (m n:Nat) (a b:α):(bif Nat.ble m n then a else b)=if m≤n then a else b:=by
 cases hb:Nat.ble m n with
 | true=>rw[if_pos (Nat.le_of_ble_eq_true hb)];rfl
 | false=>
  rw[if_neg fun h=> ?_]
  ·rfl
  ·rw[Nat.ble_eq_true_of_le h] at hb;cases hb
@[simp] theorem dB {α:Type} (c d:Bool) (a b:α):(bif c&&d then a else b)=bif c then (bif d then a else b) else b:=by cases c<;>rfl
section
variable {P:Program}
def Ro (P : Program) : Bool := P.funcs.all fun fn => !(fn.name == "runtime.NumGoroutine")
theorem abE (h:Ro P=true):wx P:=by
 intro f fn hf
 unfold Ro at h
 have:=(Array.all_eq_true_iff_forall_mem.1 h) fn (Array.mem_of_getElem? hf)
 simpa using this
theorem N4 {t:TypeId} {ts:List TypeId} {xs:List V} (h:td P (t::ts) xs): ∃x ys,xs=x::ys∧im P t x∧td P ts ys:=by
 cases xs with
 | nil=>exact h.elim
 | cons x ys=>exact ⟨x,ys,rfl,h.1,h.2⟩
theorem Yh {xs:List V} (h:td P [] xs):xs=[]:=by
 cases xs with
 | nil=>rfl
 | cons x ys=>exact h.elim
theorem im.one {t:TypeId} {x:V} (ha:bH P t=false) (h:im P t x):WT P t x:=by
 have he:aU P t=[t]:=by simp[aU,ha]
 have:=h.2 0 t (by rw[he];rfl)
 simpa[bK,ha] using this
theorem WT.eI {t:TypeId} {k:IntKind} {x:V} (hu:P.underlying t=some (.int k)) (h:WT P t x): ∃n,x= .int k n∧k.min≤n∧n≤k.max:=by
 cases h with
 | int h1 h2=>
  rw[hu] at h1
  cases h1
  simp only[Lit.wf,Bool.and_eq_true,decide_eq_true_eq] at h2
  exact ⟨_,rfl,h2⟩
 | bool h1=>rw[hu] at h1;cases h1
 | str h1=>rw[hu] at h1;cases h1
 | list h1=>rw[hu] at h1;cases h1
theorem WT.jw {t:TypeId} {x:V} (hu:P.underlying t=some .bool) (h:WT P t x): ∃b,x= .bool b:=by
 cases h with
 | int h1=>rw[hu] at h1;cases h1
 | bool h1=>exact ⟨_,rfl⟩
 | str h1=>rw[hu] at h1;cases h1
 | list h1=>rw[hu] at h1;cases h1
theorem WT.lW {t:TypeId} {x:V} (hu:P.underlying t=some .string) (h:WT P t x): ∃s,x= .str s∧s.length≤maxLen:=by
 cases h with
 | int h1=>rw[hu] at h1;cases h1
 | bool h1=>rw[hu] at h1;cases h1
 | str h1 h2=>exact ⟨_,rfl,h2⟩
 | list h1=>rw[hu] at h1;cases h1
theorem WT.JC {t e:TypeId} {x:V} (hu:P.underlying t=some (.slice e)) (h:WT P t x): ∃es,x= .list e es∧es.length≤maxLen∧∀y∈es,im P e y:=by
 cases h with
 | int h1=>rw[hu] at h1;cases h1
 | bool h1=>rw[hu] at h1;cases h1
 | str h1=>rw[hu] at h1;cases h1
 | list h1 h2 h3 h4=>
  rw[hu] at h1
  cases h1
  refine ⟨_,rfl,h2,fun y hy=> ?_⟩
  obtain ⟨i,hi⟩:=List.getElem?_of_mem hy
  exact ⟨h3 i y hi,fun j t' hj=>h4 i j y t' hi hj⟩
theorem im.kB {t:TypeId} {x:V} (ha:bH P t=true) (h:im P t x): ∃xs,x= .agg xs∧xs.length=(aU P t).length∧∀(j:Nat) t' y,(aU P t)[j]? =some t'→xs[j]? =some y→WT P t' y:=by
 obtain ⟨xs,rfl,hl⟩:=h.1 ha
 refine ⟨xs,rfl,hl,fun j t' y hj hy=> ?_⟩
 have:=h.2 j t' hj
 simp only[bK,ha,cond_true,V.abB] at this
 rw[tF _ _ _ hy] at this
 exact this
theorem Rp {α:Type} {f:α→V}: ∀{es:List V},(∀y∈es,∃a,y=f a)→∃l:List α,es=l.map f
 | [],_=>⟨[],rfl⟩
 | y::es,h=>by
  obtain ⟨a,rfl⟩:=h y (by simp)
  obtain ⟨l,rfl⟩:=Rp (f:=f) (es:=es) fun z hz=>h z (by simp[hz])
  exact ⟨a::l,rfl⟩
theorem JD {α:Type} {f:α→V} {p:α→Prop}: ∀{es:List V},(∀y∈es,∃a,y=f a∧p a)→∃l:List α,es=l.map f∧∀a∈l,p a
 | [],_=>⟨[],rfl,by simp⟩
 | y::es,h=>by
  obtain ⟨a,rfl,ha⟩:=h y (by simp)
  obtain ⟨l,rfl,hl⟩:=JD (f:=f) (p:=p) (es:=es) fun z hz=>h z (by simp[hz])
  exact ⟨a::l,rfl,by
   intro b hb
   rcases List.mem_cons.1 hb with rfl|hb
   ·exact ha
   ·exact hl b hb⟩
theorem im.int {t:TypeId} {x:V} (hu:P.underlying t=some (.int .i64)) (h:im P t x): ∃n,x= .int .i64 n∧IntKind.min .i64≤n∧n≤IntKind.max .i64:=
 (h.one (by simp[bH,hu])).eI hu
theorem im.str {t:TypeId} {x:V} (hu:P.underlying t=some .string) (h:im P t x): ∃s,x= .str s∧s.length≤maxLen:=
 (h.one (by simp[bH,hu])).lW hu
end
def un.{u} {A B:Type} {γ:Sort u} (f:A→B→γ) (p:A × B):γ:=f p.1 p.2
def di {A B γ:Type} (f:A→γ) (g:B→γ):A ⊕ B→γ
 | .inl a=>f a
 | .inr b=>g b
def ak:List Nat→Code→Code
 | [],c=>c
 | 0::p,.seq a _=>ak p a
 | _::p,.seq _ b=>ak p b
 | 0::p,.cond _ a _=>ak p a
 | _::p,.cond _ _ b=>ak p b
 | _::p,.block _ c=>ak p c
 | _::p,.loop c=>ak p c
 | _,c=>c
inductive ct where
 | loop (c:Code)
 | cond (t:Nat) (x y:Code)
section
variable (P:Program) (A:cH) (C:ae) (L:cy) (f n m:Nat)
def pz:Code→List ct
 | .seq a b=>pz a++pz b
 | .cond (.tmp t) x y=>
  match A.gx f (t*16+15) with
  | none=>pz x++pz y
  | some _=>[.cond t x y]
 | .cond (.const _) x y=>pz x++pz y
 | .block _ c=>pz c
 | .loop c=>[.loop c]
 | _=>[]
def cu:ct→Prop
 | .loop c=>
  match A.gx f (keyOf c+1) with
  | none=>True
  | some S=> ∀(β:Type) ds (k:Nat→List V→Option β),L β (keyOf c+1) ds k=(Loop (stepG P A C f n m S c) ds).bind fun r=>k r.1 r.2
 | .cond t x y=>
  match A.gx f (t*16+15) with
  | none=>True
  | some S=> ∀(β:Type) ds (k:Nat→List V→Option β),L β (t*16+15) ds k=(yx P A C f n m t S x y ds).bind fun r=>k r.1 r.2
def nf:List ct→Prop
 | []=>True
 | b::l=>cu P A C L f n m b∧nf l
variable {P A C L f n m}
theorem nf.left {a b:List ct}:nf P A C L f n m (a++b)→nf P A C L f n m a:=by
 induction a with
 | nil=>exact fun _=>trivial
 | cons x a ih=>exact fun h=>⟨h.1,ih h.2⟩
theorem nf.right {a b:List ct}:nf P A C L f n m (a++b)→nf P A C L f n m b:=by
 induction a with
 | nil=>exact fun h=>h
 | cons x a ih=>exact fun h=>ih h.2
theorem aS: ∀{c:Code} {bs:List ct},pz A f c=bs→nf P A C L f n m bs→ib P A C L f n m c:=by
 intro c
 induction c with
 | seq a b HT HU=>
  intro bs h hb
  subst h
  exact ⟨HT rfl hb.left,HU rfl hb.right⟩
 | cond c x y fQ fR=>
  intro bs h hb
  subst h
  cases c with
  | tmp t=>
   simp only[pz] at hb
   simp only[ib]
   cases hs:A.gx f (t*16+15) with
   | none=>
    rw[hs] at hb
    exact ⟨fQ rfl hb.left,fR rfl hb.right⟩
   | some S=>
    rw[hs] at hb
    have:=hb.1
    simp only[cu,hs] at this
    exact this
  | const v=>exact ⟨fQ rfl hb.left,fR rfl hb.right⟩
  | _=>trivial
 | block id c ih=>
  intro bs h hb
  subst h
  exact ih rfl hb
 | loop c ih=>
  intro bs h hb
  subst h
  exact hb.1
 | _=>intro bs h hb;trivial
variable (P A C L f n m) in
noncomputable def JE {β:Type} (t:Nat) (S:Shape × List (Out × Shape)) (x y:Code) (ds:List V) (k:Nat→List V→Option β):Option β:=
 let kc:Out→St→Option β:=fun o st=>
  match o with
  | .norm=>(ways m 0 S.2 (.norm,canon m (A.join f t) st)).bind fun e=>k e.1 e.2
  | o=>(ways m 0 S.2 (o,st)).bind fun e=>k e.1 e.2
 match (bq S.1 ds).sl t with
 | .bool b=>bif b then ia P A C L f n m x (bq S.1 ds) kc else ia P A C L f n m y (bq S.1 ds) kc
 | _=>none
theorem abF {t:Nat} {x y:Code} {S:Shape × List (Out × Shape)} (hS:A.gx f (t*16+15)=some S) (hx:ib P A C L f n m x) (hy:ib P A C L f n m y) {I R:Type} (enc:I→List V) (mh:I→R→Nat × List V)
  (de:List V→I) (body:I→(β:Type)→(R→Option β)→Option β) (ui: ∀ds,bq S.1 (enc (de ds))=bq S.1 ds)
  (e1: ∀i (β:Type) (k:Nat→List V→Option β),JE P A C L f n m t S x y (enc i) k=body i β (fun r=>k (mh i r).1 (mh i r).2))
  (hl: ∀(β:Type) ds (k:Nat→List V→Option β),L β (t*16+15) ds k=body (de ds) β (fun r=>k (mh (de ds) r).1 (mh (de ds) r).2)):
  cu P A C L f n m (.cond t x y):=by
 simp only[cu,hS]
 intro β ds k
 rw[hl,←e1]
 unfold JE yx
 rw[ui]
 simp only
 have hk: ∀(z:Option (Out × St)),(z.bind fun r=>(match r.1 with
   | .norm=>(ways m 0 S.2 (.norm,canon m (A.join f t) r.2)).bind fun e=>k e.1 e.2
   | o=>(ways m 0 S.2 (o,r.2)).bind fun e=>k e.1 e.2))=((z.bind fun r=>
   match r.1 with
   | .norm=>some (Out.norm,canon m (A.join f t) r.2)
   | _=>some r).bind fun r=>ways m 0 S.2 r).bind fun r=>k r.1 r.2:=by
  intro z
  cases z with
  | none=>rfl
  | some r=>obtain ⟨o,st⟩:=r;cases o<;>rfl
 cases (bq S.1 ds).sl t with
 | bool b=>
  cases b with
  | true=>simp only[cond_true,Dl P A C f n m x hx];exact hk _
  | false=>simp only[cond_false,Dl P A C f n m y hy];exact hk _
 | _=>rfl
theorem bd {b:ct} {l:List ct} (h:cu P A C L f n m b) (h2:nf P A C L f n m l):nf P A C L f n m (b::l):=⟨h,h2⟩
theorem ao:nf P A C L f n m []:=trivial
theorem bn {key:Nat} {bs:List ct} (hb:pz A key (cI P (A.aW key))=bs) (ht:nf P A (Call P A) L key (cP P (A.aW key)) (A.sin key).a8.length bs) {ds:List V} {r:Option (List V)}
  (h:HV P A (Call P A) L key ds=r):Call P A key ds=r:=by
 rw[abq,Yu P A (Call P A) key (aS hb ht),h]
end
section
variable (P:Program) (A:cH)
def iq (C:ae) (N f n m:Nat):Code→St→Option (Out × St)
 | .skip,st=>some (.norm,st)
 | .region id ops draw,st=>(vK P (A.here f id) C n ops draw st).bind fun st'=>some (.norm,canon m (A.live f id) (freeze m (A.pur f id) st'))
 | .seq a b,st=>(iq C N f n m a st).bind fun r=>
  match r.1 with
  | .norm=>iq C N f n m b r.2
  | _=>some r
 | .cond (.tmp t) x y,st=>
  let go (st:St):Option (Out × St):=
   match st.sl t with
   | .bool b=>(bif b then iq C N f n m x st else iq C N f n m y st).bind fun r=>
    match r.1 with
    | .norm=>some (.norm,canon m (A.join f t) r.2)
    | _=>some r
   | _=>none
  match A.gx f (t*16+15) with
  | none=>go st
  | some S=>(iF m S.1 st).bind fun ds=>((go (bq S.1 ds)).bind fun r=>ways m 0 S.2 r).bind fun e=>jR 0 S.2 e.1 e.2 fun o st=>some (o,st)
 | .cond (.const (.bool b)) x y,st=>bif b then iq C N f n m x st else iq C N f n m y st
 | .block id c,st=>(iq C N f n m c st).bind fun r=>
  match r.1 with
  | .norm=>some (.norm,canon m (A.blk f id) r.2)
  | .exit aB=>bif Nat.beq aB id then some (.norm,canon m (A.blk f id) r.2) else some r
  | .ret=>some r
 | .loop c,st=>
  match A.gx f (keyOf c+1) with
  | none=>none
  | some S=>(iF m S.1 st).bind fun ds=>(eT (fun ds=>ky m S.1 S.2 (iq C N f n m c (bq S.1 ds))) N ds).bind fun e=>jR 0 S.2 e.1 e.2 fun o st=>some (o,st)
 | .exit id,st=>some (.exit id,st)
 | .ret,st=>some (.ret,st)
 | _,_=>none
def JF (C:ae) (N f:Nat) (ds:List V):Option (List V):=
 match P.funcs[A.aW f]? with
 | none=>none
 | some fn=>
  match fn.body with
  | none=>none
  | some c=>bif hZ 0 (A.sin f).bI&&(Nat.ble (A.sin f).bI.length fn.ntmps&&((A.sin f).ok&&(hZ 0 (A.fB f).bI&&(Nat.beq (A.fB f).bI.length fn.results.size&&n0 (lR (A.sin f).a8.length (A.mv f)))))) then
    (iq P A C N f fn.ntmps (A.sin f).a8.length c (yw A f ds)).bind fun r=>
     match r.1 with
     | .exit _=>none
     | _=>((tq P A f fn (A.sin f).a8.length r.2).run C r.2.hp).map (·.1)
   else none
def EG (N:Nat):Nat→ae
 | 0=>fun _ _=>none
 | n+1=>JF P A (EG N n) N
variable {P A}
theorem Rq {X R:Type} {s1 s2:X→Option (X ⊕ R)} (h: ∀x y,s1 x=some y→s2 x=some y): ∀(n:Nat) (x:X) (r:R),eT s1 n x=some r→eT s2 n x=some r
 | 0,x,r,e=>by cases e
 | n+1,x,r,e=>by
  simp only[eT] at e⊢
  obtain ⟨y,h1,h2⟩:=bind_some e
  rw[h x y h1]
  cases y with
  | inl z=>exact Rq h n z r h2
  | inr q=>exact h2
theorem abG {C:ae} {N f n m:Nat}: ∀(c:Code) {st:St} {r:Out × St},iq P A C N f n m c st=some r→exec P A C f n m c st=some r:=by
 intro c
 induction c with
 | skip=>exact fun e=>e
 | exit id=>exact fun e=>e
 | ret=>exact fun e=>e
 | region id ops draw=>exact fun e=>e
 | seq x y fQ fR=>
  intro st r e
  simp only[iq,exec] at e⊢
  obtain ⟨⟨o,s1⟩,h1,h2⟩:=bind_some e
  rw[fQ h1]
  cases o with
  | norm=>exact fR h2
  | exit id=>exact h2
  | ret=>exact h2
 | cond c x y fQ fR=>
  intro st r e
  cases c with
  | tmp t=>
   have go: ∀{st:St} {r:Out × St},(match st.sl t with
     | .bool b=>(bif b then iq P A C N f n m x st else iq P A C N f n m y st).bind fun r=>
      match r.1 with
      | .norm=>some (.norm,canon m (A.join f t) r.2)
      | _=>some r
     | _=>none)=some r→(match st.sl t with
     | .bool b=>(bif b then exec P A C f n m x st else exec P A C f n m y st).bind fun r=>
      match r.1 with
      | .norm=>some (.norm,canon m (A.join f t) r.2)
      | _=>some r
     | _=>none)=some r:=by
    intro st r e
    cases hs:st.sl t<;>rw[hs] at e<;>simp only at e⊢ <;>first|(cases e;done)|skip
    rename_i b
    obtain ⟨x1,h1,h2⟩:=bind_some e
    cases b with
    | true=>simp only[cond_true,fQ h1,Option.bind_some];exact h2
    | false=>simp only[cond_false,fR h1,Option.bind_some];exact h2
   simp only[iq,exec] at e⊢
   split at e
   ·rename_i hS
    try rw[hS]
    exact go e
   ·rename_i S hS
    obtain ⟨ds,h1,h2⟩:=bind_some e
    obtain ⟨e',h3,h4⟩:=bind_some h2
    obtain ⟨r1,h5,h6⟩:=bind_some h3
    try rw[hS]
    simp only[h1,Option.bind_some]
    exact (congrArg (fun z:Option (Out × St)=>(z.bind fun r=>ways m 0 S.2 r).bind fun e=>jR 0 S.2 e.1 e.2 fun o st=>some (o,st)) (go h5)).trans (by simp only[Option.bind_some,h6];exact h4)
  | const v=>
   cases v with
   | bool b=>
    simp only[iq,exec] at e⊢
    cases b with
    | true=>exact fQ e
    | false=>exact fR e
   | _=>simp only[iq] at e;cases e
  | _=>simp only[iq] at e;cases e
 | block id c ih=>
  intro st r e
  simp only[iq,exec] at e⊢
  obtain ⟨x1,h1,h2⟩:=bind_some e
  rw[ih h1]
  exact h2
 | loop c ih=>
  intro st r e
  simp only[iq,exec] at e⊢
  split at e
  ·cases e
  ·rename_i S hS
   obtain ⟨ds,h1,h2⟩:=bind_some e
   obtain ⟨e',h3,h4⟩:=bind_some h2
   try rw[hS]
   simp only[h1,Option.bind_some]
   rw[vu (Rq (s2:=fun ds=>ky m S.1 S.2 (exec P A C f n m c (bq S.1 ds))) (fun x y zu=>by
    unfold ky at zu⊢
    obtain ⟨z,h5,h6⟩:=bind_some zu
    rw[ih h5]
    exact h6) N ds e' h3)]
   exact h4
 | _=>intro st r e;simp only[iq] at e;cases e
theorem abH {C:ae} {N f:Nat} {ds es:List V} (e:JF P A C N f ds=some es):n8 P A C f ds=some es:=by
 unfold JF at e
 unfold n8
 cases hf:P.funcs[A.aW f]? with
 | none=>rw[hf] at e;cases e
 | some fn=>
  rw[hf] at e
  simp only at e⊢
  cases hb:fn.body with
  | none=>rw[hb] at e;cases e
  | some c=>
   rw[hb] at e
   simp only at e⊢
   cases hc:(hZ 0 (A.sin f).bI&&(Nat.ble (A.sin f).bI.length fn.ntmps&&((A.sin f).ok&&(hZ 0 (A.fB f).bI&&(Nat.beq (A.fB f).bI.length fn.results.size&&n0 (lR (A.sin f).a8.length (A.mv f))))))) with
   | false=>rw[hc] at e;cases e
   | true=>
    rw[hc] at e
    simp only[cond_true] at e⊢
    obtain ⟨x,h1,h2⟩:=bind_some e
    rw[abG c h1]
    exact h2
theorem Rr {N:Nat}: ∀n {f:Nat} {a r:List V},EG P A N n f a=some r→jS P A n f a=some r
 | 0,f,a,r,h=>by cases h
 | n+1,f,a,r,h=>by
  obtain ⟨M,hM⟩:=Ey (C:=EG P A N n) (D:=fun _=>jS P A n) (fun f a r h=>⟨0,fun _ _=>Rr n h⟩) (abH h)
  exact hM M (Nat.le_refl _)
theorem abI {N n f:Nat} {a r:List V} (h:EG P A N n f a=some r):Call P A f a=some r:=zw.2 ⟨n,Rr n h⟩
end
inductive LK where
 | int (k:IntKind)
 | bool
 | str
 | list (e:TypeId)
 | nat
def LK.Ty:LK→Type
 | .int _=>Int
 | .bool=>Bool
 | .str=>List UInt8
 | .list _=>List V
 | .nat=>Nat
def LK.enc:(k:LK)→k.Ty→V
 | .int k,n=> .int k n
 | .bool,b=> .bool b
 | .str,s=> .str s
 | .list e,l=> .list e l
 | .nat,n=>eu n
def LK.dec:(k:LK)→V→k.Ty
 | .int _,v=>v.toInt
 | .bool,v=>v.toBool
 | .str,v=>v.toStr
 | .list _,v=>v.toList
 | .nat,v=>kp v
theorem LK.Rs: ∀(k:LK) (x:k.Ty),k.dec (k.enc x)=x
 | .int _,_=>rfl
 | .bool,_=>rfl
 | .str,_=>rfl
 | .list _,_=>rfl
 | .nat,_=>rfl
def JG:List Nat→List LK
 | []=>[]
 | _::l=> .nat::JG l
def LS.ks:LS→List LK
 | .int k=>[.int k]
 | .bool=>[.bool]
 | .str=>[.str]
 | .list e=>[.list e]
 | .sub .. =>[.nat,.nat]
 | .ptr _=>[.nat,.nat]
 | .row _ _ cs=>JG cs
 | .cG _ cs _=> .nat::JG cs
 | _=>[]
def wD:List LS→List LK
 | []=>[]
 | l::ls=>l.ks++wD ls
def VS.ks:VS→List LK
 | .one l=>l.ks
 | .agg ls=>wD ls
 | .bh ls=>wD ls
 | .fn _ a b=>wD a++wD b
 | .pref _ ls=>wD ls
def Rt:List VS→List LK
 | []=>[]
 | l::ls=>l.ks++Rt ls
def BS.ks:BS→List LK
 | .var _ cs=>Rt cs
 | .arr e _=>[.list e]
 | .nest e=>[.list e]
 | .dead=>[]
 | .map t=>[.list t]
def Ru:List (Nat × VS)→List LK
 | []=>[]
 | p::l=>p.2.ks++Ru l
def Rv:List BS→List LK
 | []=>[]
 | b::l=>b.ks++Rv l
def Shape.ks (S:Shape):List LK:=Ru S.bI++Rv S.a8
def JH:List Nat→List V→List V
 | [],_=>[]
 | _::cs,ds=>eu (kp (V.nth ds 0))::JH cs (ds.drop 1)
def LS.norm:LS→List V→List V
 | .int k,ds=>[.int k (V.nth ds 0).toInt]
 | .bool,ds=>[.bool (V.nth ds 0).toBool]
 | .str,ds=>[.str (V.nth ds 0).toStr]
 | .list e,ds=>[.list e (V.nth ds 0).toList]
 | .sub ..,ds=>[eu (kp (V.nth ds 0)),eu (kp (V.nth ds 1))]
 | .ptr _,ds=>[eu (kp (V.nth ds 0)),eu (kp (V.nth ds 1))]
 | .row _ _ cs,ds=>JH cs ds
 | .cG _ cs _,ds=>eu (kp (V.nth ds 0))::JH cs (ds.drop 1)
 | _,_=>[]
def wE:List LS→List V→List V
 | [],_=>[]
 | l::ls,ds=>l.norm ds++wE ls (ds.drop l.size)
def VS.norm:VS→List V→List V
 | .one l,ds=>l.norm ds
 | .agg ls,ds=>wE ls ds
 | .bh ls,ds=>wE ls ds
 | .fn _ a b,ds=>wE a ds++wE b (ds.drop (jP a))
 | .pref _ ls,ds=>wE ls ds
def Rw:List VS→List V→List V
 | [],_=>[]
 | l::ls,ds=>l.norm ds++Rw ls (ds.drop l.size)
def BS.norm:BS→List V→List V
 | .var _ cs,ds=>Rw cs ds
 | .arr e _,ds=>[.list e (V.nth ds 0).toList]
 | .nest e,ds=>[.list e (V.nth ds 0).toList]
 | .dead,_=>[]
 | .map t,ds=>[.list t (V.nth ds 0).toList]
def Rx:List (Nat × VS)→List V→List V
 | [],_=>[]
 | p::l,ds=>p.2.norm ds++Rx l (ds.drop p.2.size)
def Ry:List BS→List V→List V
 | [],_=>[]
 | b::l,ds=>b.norm ds++Ry l (ds.drop b.size)
def Shape.norm (S:Shape) (ds:List V):List V:=Rx S.bI ds++Ry S.a8 (ds.drop (nZ S.bI))
def uj:LK→List LK→Type
 | k,[]=>k.Ty
 | k,k'::ks=>k.Ty × uj k' ks
def j6:List LK→Type
 | []=>Unit
 | k::ks=>uj k ks
def uk:(k:LK)→(ks:List LK)→uj k ks→List V
 | k,[],x=>[k.enc x]
 | k,k'::ks,x=>k.enc x.1::uk k' ks x.2
def kI:(ks:List LK)→j6 ks→List V
 | [],_=>[]
 | k::ks,x=>uk k ks x
def zz:(k:LK)→(ks:List LK)→List V→uj k ks
 | k,[],l=>k.dec (V.nth l 0)
 | k,k'::ks,l=>(k.dec (V.nth l 0),zz k' ks l.tail)
def oA:(ks:List LK)→List V→j6 ks
 | [],_=>()
 | k::ks,l=>zz k ks l
theorem Rz: ∀(k:LK) (ks:List LK) (x:uj k ks) (r:List V),zz k ks (uk k ks x++r)=x
 | k,[],x,r=>LK.Rs k x
 | k,k'::ks,x,r=>by
  show (k.dec (k.enc x.1),zz k' ks (uk k' ks x.2++r))=x
  rw[LK.Rs,Rz k' ks]
  rfl
def wF:List LK→Type 1→Type 1
 | [],R=>R
 | k::ks,R=>k.Ty→wF ks R
def RA:(k:LK)→(ks:List LK)→{R:Type 1}→wF (k::ks) R→uj k ks→R
 | _,[],_,f,x=>f x
 | _,k'::ks,_,f,x=>RA k' ks (f x.1) x.2
def um:(ks:List LK)→{R:Type 1}→wF ks R→j6 ks→R
 | [],_,f,_=>f
 | k::ks,_,f,x=>RA k ks f x
def wG {α:Type} (b:Bool):List Bool→List α→List α
 | [],_=>[]
 | _,[]=>[]
 | c::m,x::l=>bif c==b then x::wG b m l else wG b m l
def merge:List Bool→List V→List V→List V
 | [],_,_=>[]
 | true::m,i,x=>V.nth x 0::merge m i x.tail
 | false::m,i,x=>V.nth i 0::merge m i.tail x
def wH:List Nat→List LK→List LK
 | [],_=>[]
 | _,[]=>[]
 | 0::t,k::ks=>k::wH t ks
 | (_+1)::t,_::ks=>wH t ks
abbrev fI:=List Nat × List LK
def fI.fresh (w:fI):List LK:=wH w.1 w.2
def put:List Nat→List V→List V→List V
 | [],_,_=>[]
 | 0::t,ds,x=>V.nth x 0::put t ds x.tail
 | (j+1)::t,ds,x=>V.nth ds j::put t ds x
def uo:List Nat→List V→List V
 | [],_=>[]
 | 0::t,l=>V.nth l 0::uo t l.tail
 | (_+1)::t,l=>uo t l.tail
def sw:fI→List fI→Type
 | w,[]=>j6 w.fresh
 | w,w'::ws=>j6 w.fresh ⊕ sw w' ws
def qK:List fI→Type
 | []=>Empty
 | w::ws=>sw w ws
def wN (ds:List V) {β:Type} (k:Nat→List V→Option β):Nat→(w:fI)→(ws:List fI)→sw w ws→Option β
 | j,w,[],r=>k j (put w.1 ds (kI w.fresh r))
 | j,w,w'::ws,r=>di (fun x=>k j (put w.1 ds (kI w.fresh x))) (fun y=>wN ds k (j+1) w' ws y) r
def wT (ds:List V) {β:Type} (k:Nat→List V→Option β):(ws:List fI)→qK ws→Option β
 | [],r=>Empty.elim r
 | w::ws,r=>wN ds k 0 w ws r
def oB (ds:List V):Nat→(w:fI)→(ws:List fI)→sw w ws→Nat × List V
 | j,w,[],r=>(j,put w.1 ds (kI w.fresh r))
 | j,w,_::_,.inl x=>(j,put w.1 ds (kI w.fresh x))
 | j,_,w'::ws,.inr y=>oB ds (j+1) w' ws y
def wI (ds:List V):(ws:List fI)→qK ws→Nat × List V
 | [],r=>Empty.elim r
 | w::ws,r=>oB ds 0 w ws r
theorem RB (ds:List V) {β:Type} (k:Nat→List V→Option β): ∀(j:Nat) (w:fI) (ws:List fI) (r:sw w ws),wN ds k j w ws r=k (oB ds j w ws r).1 (oB ds j w ws r).2
 | _,_,[],_=>rfl
 | _,_,_::_,.inl _=>rfl
 | j,_,w'::ws,.inr y=>RB ds k (j+1) w' ws y
theorem EH (ds:List V) {β:Type} (k:Nat→List V→Option β): ∀(ws:List fI) (r:qK ws),wT ds k ws r=k (wI ds ws r).1 (wI ds ws r).2
 | [],r=>Empty.elim r
 | w::ws,r=>RB ds k 0 w ws r
def wJ:Nat→(w:fI)→(ws:List fI)→List V→sw w ws
 | _,w,[],l=>oA w.fresh (uo w.1 l)
 | 0,w,_::_,l=> .inl (oA w.fresh (uo w.1 l))
 | j+1,_,w'::ws,l=> .inr (wJ j w' ws l)
def RC (j:Nat):(ws:List fI)→List V→Option (qK ws)
 | [],_=>none
 | w::ws,l=>some (wJ j w ws l)
def wK:List Nat→List V→List V
 | [],_=>[]
 | 0::t,x=>V.nth x 0::wK t x.tail
 | (_+1)::t,x=>wK t x
theorem JI: ∀(t:List Nat) (ds x:List V),uo t (put t ds x)=wK t x
 | [],_,_=>rfl
 | 0::t,ds,x=>congrArg (V.nth x 0:: ·) (JI t ds x.tail)
 | (_+1)::t,ds,x=>JI t ds x
theorem JJ: ∀(t:List Nat) (ks:List LK) (k:LK) (pA:List LK),wH t ks=k::pA→∀x:uj k pA,∃r,wK t (uk k pA x)=uk k pA x++r
 | [],_,_,_,h,_=>by cases h
 | _::_,[],_,_,h,_=>by simp[wH] at h
 | 0::t,a::ks,k,pA,h,x=>by
  simp only[wH,List.cons.injEq] at h
  obtain ⟨rfl,h2⟩:=h
  cases pA with
  | nil=>exact ⟨wK t [],rfl⟩
  | cons k' pA=>
   obtain ⟨r,hr⟩:=JJ t ks k' pA h2 x.2
   exact ⟨r,congrArg (a.enc x.1:: ·) hr⟩
 | (_+1)::t,a::ks,k,pA,h,x=>JJ t ks k pA h x
theorem RD (w:fI) (ds:List V) (x:j6 w.fresh):oA w.fresh (uo w.1 (put w.1 ds (kI w.fresh x)))=x:=by
 rw[JI]
 revert x
 generalize hf:w.fresh=f
 cases f with
 | nil=>intro x;rfl
 | cons k ks=>
  intro x
  obtain ⟨r,hr⟩:=JJ w.1 w.2 k ks hf x
  show zz k ks (wK w.1 (uk k ks x))=x
  rw[hr]
  exact Rz k ks x r
theorem RE (ds:List V): ∀(j:Nat) (w:fI) (ws:List fI) (r:sw w ws),j≤(oB ds j w ws r).1
 | _,_,[],_=>Nat.le_refl _
 | _,_,_::_,.inl _=>Nat.le_refl _
 | j,_,w'::ws,.inr y=>Nat.le_trans (Nat.le_succ j) (RE ds (j+1) w' ws y)
theorem abJ (w:fI) (l:List V): ∀j,wJ j w [] l=oA w.fresh (uo w.1 l)
 | 0=>rfl
 | _+1=>rfl
theorem RF (ds:List V): ∀(j:Nat) (w:fI) (ws:List fI) (r:sw w ws),wJ ((oB ds j w ws r).1-j) w ws (oB ds j w ws r).2=r
 | j,w,[],r=>(abJ w _ _).trans (RD w ds r)
 | j,w,w'::ws,.inl x=>by
  show wJ (j-j) w (w'::ws) (put w.1 ds (kI w.fresh x))= .inl x
  rw[Nat.sub_self]
  exact congrArg Sum.inl (RD w ds x)
 | j,w,w'::ws,.inr y=>by
  have h1:=RE ds (j+1) w' ws y
  have h2:=RF ds (j+1) w' ws y
  show wJ ((oB ds (j+1) w' ws y).1-j) w (w'::ws) (oB ds (j+1) w' ws y).2= .inr y
  obtain ⟨d,hd⟩: ∃d,(oB ds (j+1) w' ws y).1=j+1+d:=⟨(oB ds (j+1) w' ws y).1-(j+1),by omega⟩
  rw[hd] at h2⊢
  rw[show j+1+d-(j+1)=d by omega] at h2
  rw[show j+1+d-j=d+1 by omega]
  exact congrArg Sum.inr h2
theorem abK (ds:List V): ∀(ws:List fI) (r:qK ws),RC (wI ds ws r).1 ws (wI ds ws r).2=some r
 | [],r=>Empty.elim r
 | w::ws,r=>congrArg some (RF ds 0 w ws r)
section
variable {P:Program} {A:cH} {C:ae} {L:cy} {f n m:Nat}
theorem abL {c:Code} {S:Shape × List (Out × Shape)} (hS:A.gx f (keyOf c+1)=some S) (hL:ib P A C L f n m c) {I X R:Type} (enc:I→X→List V) (mh:I→R→Nat × List V)
  (pB:List V→I) (qL:List V→X) (EI:Nat × List V→Option R) (body:I→X→(β:Type)→(X→Option β)→(R→Option β)→Option β)
  (ui: ∀ds,bq S.1 (enc (pB ds) (qL ds))=bq S.1 ds) (JK: ∀i x,qL (enc i x)=x) (hdr: ∀i r,EI (mh i r)=some r)
  (e1: ∀i x (β:Type) (k:(List V ⊕ (Nat × List V))→Option β),ia P A C L f n m c (bq S.1 (enc i x)) (fun o st=>(ky m S.1 S.2 (some (o,st))).bind k)=
   body i x β (fun y=>k (.inl (enc i y))) (fun r=>k (.inr (mh i r))))
  (hl: ∀(β:Type) ds (k:Nat→List V→Option β),L β (keyOf c+1) ds k=(Loop (fun x=>body (pB ds) x (X ⊕ R) (fun y=>some (.inl y)) (fun r=>some (.inr r))) (qL ds)).bind fun r=>k (mh (pB ds) r).1 (mh (pB ds) r).2):
  cu P A C L f n m (.loop c):=by
 simp only[cu,hS]
 intro β ds k
 rw[hl]
 have hex: ∀(z:Option (Out × St)),ky m S.1 S.2 z=z.bind fun r=>ky m S.1 S.2 (some (r.1,r.2)):=by
  intro z;cases z<;>rfl
 have hs: ∀i x,stepG P A C f n m S c (enc i x)=(body i x (X ⊕ R) (fun y=>some (.inl y)) (fun r=>some (.inr r))).map fun| .inl y=> .inl (enc i y)| .inr r=> .inr (mh i r):=by
  intro i x
  have k1:=e1 i x _ (fun z=>some z)
  have k2:=e1 i x (X ⊕ R) (fun| .inl ds=>some (.inl (qL ds))| .inr e=>(EI e).map .inr)
  have k3:=e1 i x (List V ⊕ (Nat × List V)) (fun| .inl ds=>some (.inl (enc i (qL ds)))| .inr e=>(EI e).map fun r=> .inr (mh i r))
  simp only[JK,hdr,Option.map_some] at k2 k3
  unfold stepG
  rw[hex]
  rw[Dl P A C f n m c hL] at k1 k2 k3
  rw[←k2]
  refine Eq.trans ?_ (k1.trans (k3.symm.trans ?_))
  ·congr 1
   funext r
   cases ky m S.1 S.2 (some (r.1,r.2))<;>rfl
  ·cases exec P A C f n m c (bq S.1 (enc i x)) with
   | none=>rfl
   | some r=>
    simp only[Option.bind_some]
    cases ky m S.1 S.2 (some (r.1,r.2)) with
    | none=>rfl
    | some z=>
     cases z with
     | inl _=>rfl
     | inr e=>simp only[Option.bind_some];cases EI e<;>rfl
 have h0:stepG P A C f n m S c ds=stepG P A C f n m S c (enc (pB ds) (qL ds)):=by
  unfold stepG
  rw[ui]
 have:Loop (stepG P A C f n m S c) ds=(Loop (fun x=>body (pB ds) x (X ⊕ R) (fun y=>some (.inl y)) (fun r=>some (.inr r))) (qL ds)).map (mh (pB ds)):=by
  rw[CV,h0,←CV]
  exact Ys (enc (pB ds)) (mh (pB ds)) (fun x=>hs _ _) (qL ds)
 rw[this]
 cases Loop (fun x=>body (pB ds) x (X ⊕ R) (fun y=>some (.inl y)) (fun r=>some (.inr r))) (qL ds)<;>rfl
abbrev zA (S:Shape) (mk:List Bool):List LK:=wG false mk S.ks
abbrev uq (S:Shape) (mk:List Bool):List LK:=wG true mk S.ks
def qM (ts:List (List Nat)) (W:List (Out × Shape)):List fI:=
 match ts,W with
 | t::ts,w::W=>(t,w.2.ks)::qM ts W
 | _,_=>[]
abbrev zB (S:Shape) (mk:List Bool) (i:j6 (zA S mk)) (x:j6 (uq S mk)):List V:=merge mk (kI _ i) (kI _ x)
abbrev JL (S:Shape) (mk:List Bool) (i:j6 (zA S mk)):List V:=merge mk (kI _ i) []
abbrev EJ (S:Shape) (mk:List Bool) (ds:List V):j6 (zA S mk):=oA _ (wG false mk (S.norm ds))
abbrev EK (S:Shape) (mk:List Bool) (ds:List V):j6 (uq S mk):=oA _ (wG true mk (S.norm ds))
abbrev RG (X R:Type):Type 1:=(β:Type)→(X→Option β)→(R→Option β)→Option β
abbrev JM (S:Shape × List (Out × Shape)) (mk:List Bool) (ts:List (List Nat)):Type 1:=wF (zA S.1 mk) (wF (uq S.1 mk) (RG (j6 (uq S.1 mk)) (qK (qM ts S.2))))
abbrev JN (S:Shape × List (Out × Shape)) (mk:List Bool) (ts:List (List Nat)) (b:JM S mk ts) (i:j6 (zA S.1 mk)) (x:j6 (uq S.1 mk)):RG (j6 (uq S.1 mk)) (qK (qM ts S.2)):=um _ (um _ b i) x
noncomputable def bu (S:Shape × List (Out × Shape)) (mk:List Bool) (ts:List (List Nat)) (b:JM S mk ts) {β:Type} (ds:List V) (k:Nat→List V→Option β):Option β:=
 (Loop (fun x=>JN S mk ts b (EJ S.1 mk ds) x (j6 (uq S.1 mk) ⊕ qK (qM ts S.2)) (fun y=>some (.inl y)) (fun r=>some (.inr r))) (EK S.1 mk ds)).bind (wT (JL S.1 mk (EJ S.1 mk ds)) k (qM ts S.2))
theorem bz {c:Code} (S:Shape × List (Out × Shape)) (mk:List Bool) (ts:List (List Nat)) (b:JM S mk ts) (hS:A.gx f (keyOf c+1)=some S) (hL:ib P A C L f n m c)
  (ui: ∀ds,bq S.1 (zB S.1 mk (EJ S.1 mk ds) (EK S.1 mk ds))=bq S.1 ds) (JK: ∀i x,EK S.1 mk (zB S.1 mk i x)=x)
  (e1: ∀i x (β:Type) (k:(List V ⊕ (Nat × List V))→Option β),ia P A C L f n m c (bq S.1 (zB S.1 mk i x)) (fun o st=>(ky m S.1 S.2 (some (o,st))).bind k)=
   JN S mk ts b i x β (fun y=>k (.inl (zB S.1 mk i y))) (wT (JL S.1 mk i) (fun j l=>k (.inr (j,l))) (qM ts S.2)))
  (hl: ∀(β:Type) ds (k:Nat→List V→Option β),L β (keyOf c+1) ds k=bu S mk ts b ds k):
  cu P A C L f n m (.loop c):=
 abL hS hL (zB S.1 mk) (fun i r=>wI (JL S.1 mk i) _ r) (EJ S.1 mk) (EK S.1 mk) (fun e=>RC e.1 _ e.2) (JN S mk ts b) ui JK (fun i r=>abK _ _ r)
  (fun i x β k=>by
   rw[e1]
   congr 1
   funext r
   exact EH _ _ _ r)
  (fun β ds k=>by
   rw[hl]
   unfold bu
   congr 1
   funext r
   exact EH _ _ _ r)
abbrev RH (S:Shape × List (Out × Shape)) (ts:List (List Nat)):Type 1:=wF S.1.ks ((β:Type)→(qK (qM ts S.2)→Option β)→Option β)
noncomputable def mi (S:Shape × List (Out × Shape)) (ts:List (List Nat)) (b:RH S ts) {β:Type} (ds:List V) (k:Nat→List V→Option β):Option β:=
 um S.1.ks b (oA _ (S.1.norm ds)) β (wT (kI S.1.ks (oA _ (S.1.norm ds))) k (qM ts S.2))
theorem ng {t:Nat} {x y:Code} (S:Shape × List (Out × Shape)) (ts:List (List Nat)) (b:RH S ts) (hS:A.gx f (t*16+15)=some S) (hx:ib P A C L f n m x) (hy:ib P A C L f n m y)
  (ui: ∀ds,bq S.1 (kI S.1.ks (oA _ (S.1.norm ds)))=bq S.1 ds)
  (e1: ∀i (β:Type) (k:Nat→List V→Option β),JE P A C L f n m t S x y (kI S.1.ks i) k=um S.1.ks b i β (wT (kI S.1.ks i) k (qM ts S.2)))
  (hl: ∀(β:Type) ds (k:Nat→List V→Option β),L β (t*16+15) ds k=mi S ts b ds k):
  cu P A C L f n m (.cond t x y):=
 abF hS hx hy (kI S.1.ks) (fun i r=>wI (kI S.1.ks i) _ r) (fun ds=>oA _ (S.1.norm ds)) (um S.1.ks b) ui
  (fun i β k=>by
   rw[e1]
   exact congrArg (um S.1.ks b i β) (funext fun r=>EH _ _ _ r))
  (fun β ds k=>by
   rw[hl]
   exact congrArg (um S.1.ks b (oA _ (S.1.norm ds)) β) (funext fun r=>EH _ _ _ r))
end
def db:cy:=fun _ _ _ _=>none
end Go.AM
