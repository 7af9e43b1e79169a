/-
  Functions of the program, lifted to plain data.
-/
import Derived.Conc.MuLone
import Derived.Defers
import Derived.Carry
import Derived.OpenShut
import Derived.Deep.Slices
import Derived.Test.YtmcdbnalaobmpaaDoorP2
set_option linter.unusedVariables false
set_option linter.unusedSimpArgs false
namespace Go.AM
section
variable {P:Program} {A:cF} {w w':World} {I I' I2:Nat→Prop} {μ β ao b8:Nat→Option Nat} {hp hp' hp0 bn:Nat→Option ag} {C:ae} {B:Nat} {M:Nat→Prop} {w0:Start}
structure kM (w:World) (I:Nat→Prop) (β:Nat→Option Nat) (hp:Nat→Option ag) (w':World) (I':Nat→Prop) (ao:Nat→Option Nat) (hp':Nat→Option ag):Prop where
 dp: ∀b,I b→I' b
 cf: ∀b,I b→w'.heap[b]? =w.heap[b]?
 blk: ∀id blk,hp id=some blk→∃blk',hp' id=some blk'∧blk.le blk'∧(blk'≠ .dead→ao id=β id)
 size: ∀id blk blk' b,hp id=some blk→hp' id=some blk'→blk'≠ .dead→β id=some b→bsize w' b=bsize w b
theorem Le.EA (h:Le P w I β hp w' I' ao hp'):kM w I β hp w' I' ao hp':=⟨h.dp,h.cf,h.blk,h.size⟩
theorem kM.trans {zl:World} {zm:Nat→Prop} {zn:Nat→Option Nat} {zo:Nat→Option ag} (h1:kM w I β hp w' I' ao hp') (h2:kM w' I' ao hp' zl zm zn zo):kM w I β hp zl zm zn zo:=by
 refine ⟨fun b h=>h2.dp b (h1.dp b h),fun b h=>(h2.cf b (h1.dp b h)).trans (h1.cf b h),fun id blk h=> ?_,fun id blk tT b h sA hd hb=> ?_⟩
 ·obtain ⟨blk',e',l',b'⟩:=h1.blk id blk h
  obtain ⟨tT,dN,zp,IH⟩:=h2.blk id blk' e'
  refine ⟨tT,dN,ag.le_trans l' zp,fun hd=> ?_⟩
  have eS:blk'≠ .dead:=fun e=>hd (ag.pc (e▸zp))
  exact (IH hd).trans (b' eS)
 ·obtain ⟨blk',e',l',b'⟩:=h1.blk id blk h
  obtain ⟨gL,e3,l3,b3⟩:=h2.blk id blk' e'
  obtain rfl:gL=tT:=by rw[e3] at sA;exact Option.some.inj sA
  have eS:blk'≠ .dead:=fun e=>hd (ag.pc (e▸l3))
  rw[h2.size id blk' gL b e' e3 hd ((b' eS).trans hb),h1.size id blk blk' b h e' eS hb]
def oC (P:Program) (w:World) (μ:Nat→Option Nat) (hp0:Nat→Option ag) (b:Nat):Prop:= ∃j blk,hp0 j=some blk∧bt P w (μ j) blk b
structure aaY (P:Program) (A:cF) (key:Nat) (w:World) (I:Nat→Prop) (μ:Nat→Option Nat) (ds es:List V) (w':World) (v:Value) (I2:Nat→Prop) (b8:Nat→Option Nat):Prop where
 wZ:aC P w' I2 b8 (bd (A.so key es) (A.lv key es)).hp w.heap.size (oC P w μ (bd (A.sin key) ds).hp) ⟨w,I⟩
 le:kM w I μ (bd (A.sin key) ds).hp w' I2 b8 (bd (A.so key es) (A.lv key es)).hp
 res:ah P w' I2 b8 (bd (A.so key es) (A.lv key es)).hp v (o9 (fu (A.so key es).bG (A.lv key es)))
def kN (P:Program) (A:cF) (C:ae):Prop:=
 ∀key ds es,C key ds=some es→∃fn c,P.funcs[A.aT key]? =some fn∧fn.body=some c∧
  ∀(w:World) (I:Nat→Prop) (μ:Nat→Option Nat) (vals:List Value),
   tS P w I μ (bd (A.sin key) ds).hp w.heap.size (oC P w μ (bd (A.sin key) ds).hp)→gM P A.aB w I→
   vals.length=(A.sin key).bG.length→(∀(j:Nat) v x,vals[j]? =some v→(fI ((A.sin key).bG.map (·.2)) ds)[j]? =some x→ah P w I μ (bd (A.sin key) ds).hp v x)→
   Calls P (A.aT key) vals.toArray w fun e w'=> ∃v I2 b8,e= .returned v∧aaY P A key w I μ ds es w' v I2 b8
theorem eb.uz {p:Place} {o:Option Nat} {blk:ag} {b:Nat} (h:eb P w β hp p o blk) (ho:bt P w o blk b):
  ∃qI,hp p.id=some qI∧bt P w (β p.id) qI b∧∀e es,qI≠ .arr e es true:=by
 cases h with
 | var h=>exact ⟨_,h,.root (by simp) (ho.flat (by simp)),by simp⟩
 | arr h=>exact ⟨_,h,.root (by simp) (ho.flat (by simp)),by simp⟩
 | map h=>exact ⟨_,h,.root (by simp) (ho.flat (by simp)),by simp⟩
 | nest h=>
  refine ⟨_,h,?_,by simp⟩
  cases ho with
  | root _ hb=>exact .root (by simp) hb
  | row hb ha=>exact .row hb ha
 | row h hb ha _ _ _ _ _=>
  have:=ho.flat (by simp)
  cases this
  exact ⟨_,h,.row hb ha,by simp⟩
theorem aC.aaZ (S:aC P w I β hp B M w0) {id b:Nat} {blk:ag} (aa:hp id=some blk) (ho:bt P w (β id) blk b) (hf: ∀e es,blk≠ .arr e es true): ¬I b:=by
 have hr:=S.h.rel id blk aa
 generalize β id=o at hr ho
 cases hr with
 | var hb _ _ hI _ _=>have:=ho.flat (by simp);rw[hb] at this;cases this;exact hI
 | dQ hb=>have:=ho.flat (by simp);rw[hb] at this;cases this
 | @arr e es fz _ _ _ hb _ _ _ eo _=>
  have:=ho.flat (by simp)
  rw[hb] at this;cases this
  cases fz with
  | true=>exact absurd rfl (hf e es)
  | false=>exact eo rfl
 | dead=>exact absurd rfl ho.alive
 | map _ hb _ _ hI _ _=>have:=ho.flat (by simp);rw[hb] at this;cases this;exact hI
 | nest hb hr _=>
  cases ho with
  | root _ ay=>rw[hb] at ay;cases ay;exact (hr _ _ _ _ .here).nI
  | row ay ha=>rw[hb] at ay;cases ay;exact (hr _ _ _ _ ha).nI
theorem EB {a b:List Nat} (h:wa a b=false) {x:Nat} (ha:x∈a):x∉b:=by
 intro hb
 unfold wa at h
 rw[List.any_eq_false] at h
 exact h x ha (wG hb)
theorem aa0 (S:aC P w I β hp B M w0) {pl:List Place} {upd:List (Nat × ag)} {o:Nat→Option Nat} (kf:(pl.map Place.id).Nodup) (pz:wa (upd.map (·.1)) (pl.map Place.id)=false)
  (hl: ∀j blk,hp0 j=some blk→∃p,ei pl j=some p∧eb P w β hp p (o j) blk)
  (cG:(∀j blk,hp0 j=some blk→∀b,bt P w (o j) blk b→¬iF P w I β hp upd b)→∀j blk,hp0 j=some blk→dY P w (iF P w I β hp upd) o hp0 (o j) blk) (aM: ∀b,iF P w I β hp upd b→b<w.heap.size):
  tS P w (iF P w I β hp upd) o hp0 w.heap.size (oC P w o hp0):=by
 have cS: ∀j blk,hp0 j=some blk→∀b,bt P w (o j) blk b→¬iF P w I β hp upd b:=by
  intro j blk hj b ho hI
  obtain ⟨p,bn,gN⟩:=hl j blk hj
  obtain ⟨qI,k1,k2,k3⟩:=gN.uz ho
  rcases hI with hI|⟨q,hq,b7,q1,q2⟩
  ·exact S.aaZ k1 k2 k3 hI
  ·have:=S.h.inj _ _ _ _ b q1 k1 q2 k2
   refine EB pz (List.mem_map.2 ⟨q,hq,rfl⟩) ?_
   rw[this]
   rw[ly] at bn
   exact List.mem_map.2 ⟨p,List.mem_of_getElem? bn,rfl⟩
 refine ⟨cG cS,fun j1 j2 b1 b2 b h1 h2 o1 o2=> ?_,fun j blk b h1 o1=> .inl ⟨j,blk,h1,o1⟩,aM⟩
 obtain ⟨p1,q1,q2⟩:=hl j1 b1 h1
 obtain ⟨p2,r1,r2⟩:=hl j2 b2 h2
 obtain ⟨c1,x1,x2,_⟩:=q2.uz o1
 obtain ⟨c2,y1,y2,_⟩:=r2.uz o2
 have aa:=S.h.inj _ _ _ _ b x1 y1 x2 y2
 rw[ly] at q1 r1
 have m1:(pl.map Place.id)[j1]? =some p1.id:=by rw[List.getElem?_map,q1];rfl
 have m2:(pl.map Place.id)[j2]? =some p2.id:=by rw[List.getElem?_map,r1];rfl
 rw[←aa] at m2
 obtain ⟨z1,z2⟩:=List.getElem?_eq_some_iff.1 m1
 obtain ⟨z3,z4⟩:=List.getElem?_eq_some_iff.1 m2
 exact (List.getElem_inj kf).1 (z2.trans z4.symm)
def Qw:V→Prop
 | .list .. =>False
 | .pref .. =>False
 | .agg _=>False
 | .a8 _=>False
 | .fn .. =>False
 | _=>True
theorem ah.free {v:Value} {x:V} (h:ah P w I β hp v x) (hx:Qw x):ah P w I' β hp v x:=by
 cases h with
 | undef=>exact .undef
 | int=>exact .int
 | bool=>exact .bool
 | str h=>exact .str h
 | list h=>exact hx.elim
 | nilS=>exact .nilS
 | agg=>exact hx.elim
 | a8=>exact hx.elim
 | dw=>exact .dw
 | fn=>exact hx.elim
 | pref=>exact hx.elim
 | ej h=>exact .ej h
 | gm h=>exact .gm h
 | j4 h=>exact .j4 h
 | dP h hb=>exact .dP h hb
 | whole h hb a b c=>exact .whole h hb a b c
 | eB h hb a b c=>exact .eB h hb a b c
 | fY h hb=>exact .fY h hb
 | sub h hb a b c=>exact .sub h hb a b c
 | ptr h hd hb=>exact .ptr h hd hb
 | jw h qC=>exact .jw h qC
 | jx h qC=>exact .jx h qC
 | row h hb a b c d=>exact .row h hb a b c d
 | cE h hb a b c d e=>exact .cE h hb a b c d e
 | dm=>exact .dm
 | ib h=>exact .ib h
 | bL h hb=>exact .bL h hb
theorem z0 {l:LS} {ds:List V} (hs:l.safe=true):Qw (iB l ds):=by
 cases l<;>simp only[LS.safe] at hs<;>first|(cases hs;done)|trivial
theorem z5: ∀{ls:List LS} {ds:List V} {j:Nat} {y:V},(gZ ls ds)[j]? =some y→∃l fx,l∈ls∧y=iB l fx
 | [],ds,j,y,h=>by simp[gZ] at h
 | l::ls,ds,j,y,h=>by
  simp only[gZ] at h
  cases j with
  | zero=>simp at h;exact ⟨l,ds,List.mem_cons_self ..,h.symm⟩
  | succ j=>
   obtain ⟨l',fx,h1,h2⟩:=z5 (j:=j) (by simpa using h)
   exact ⟨l',fx,List.mem_cons_of_mem _ h1,h2⟩
theorem Qx: ∀{ls:List VS} {ds:List V} {j:Nat} {y:V},(fI ls ds)[j]? =some y→∃l fx,l∈ls∧y=kD l fx
 | [],ds,j,y,h=>by simp[fI] at h
 | l::ls,ds,j,y,h=>by
  simp only[fI] at h
  cases j with
  | zero=>simp at h;exact ⟨l,ds,List.mem_cons_self ..,h.symm⟩
  | succ j=>
   obtain ⟨l',fx,h1,h2⟩:=Qx (j:=j) (by simpa using h)
   exact ⟨l',fx,List.mem_cons_of_mem _ h1,h2⟩
theorem Qy {s:VS} {ds:List V} {v:Value} (h:ah P w I β hp v (kD s ds)) (hs:s.safe=true):ah P w I' β hp v (kD s ds):=by
 cases s with
 | one l=>exact h.free (z0 hs)
 | agg ls=>
  simp only[kD] at h⊢
  obtain ⟨cs,rfl,e1,e2⟩:=h.kH
  refine .agg e1 fun j v x hj hx=> ?_
  obtain ⟨l,fx,k1,rfl⟩:=z5 hx
  exact (e2 j v _ hj hx).free (z0 (List.all_eq_true.1 hs l k1))
 | a8 ls=>
  simp only[kD] at h⊢
  obtain ⟨cs,rfl,e1,e2⟩:=h.ub
  refine .a8 e1 fun j v x hj hx=> ?_
  obtain ⟨l,fx,k1,rfl⟩:=z5 hx
  exact (e2 j v _ hj hx).free (z0 (List.all_eq_true.1 hs l k1))
 | fn f a b=>
  simp only[VS.safe,Bool.and_eq_true] at hs
  simp only[kD] at h⊢
  cases h with
  | fn a1 a2 b1 b2=>
   refine .fn a1 (fun j v x hj hx=> ?_) b1 (fun j v x hj hx=> ?_)
   ·obtain ⟨l,fx,k1,rfl⟩:=z5 hx
    exact (a2 j v _ hj hx).free (z0 (List.all_eq_true.1 hs.1 l k1))
   ·obtain ⟨l,fx,k1,rfl⟩:=z5 hx
    exact (b2 j v _ hj hx).free (z0 (List.all_eq_true.1 hs.2 l k1))
 | pref ts ls=>cases hs
theorem Pure.scalar {t:TypeId} {v:Value} {x:V} (h:Pure P w I t v x) (hn: ∀e,P.underlying t≠some (.slice e)):Pure P w I' t v x:=by
 cases h with
 | int h=>exact .int h
 | bool h=>exact .bool h
 | str h hl=>exact .str h hl
 | nil h=>exact absurd h (hn _)
 | emp h=>exact absurd h (hn _)
 | list g h=>exact absurd h (hn _)
theorem aa1 {e t:TypeId} {j:Nat} (h:y6 P e=true) (ht:(aO P e)[j]? =some t) (e':TypeId):P.underlying t≠some (.slice e'):=by
 intro hu
 have h2:=List.all_eq_true.1 h t (List.mem_of_getElem? ht)
 rw[hu] at h2
 cases h2
theorem aa2 {o:Option Nat} {b:BS} {ds:List V} (h:dY P w I2 β hp o (fU b ds)) (hs:b.safe P=true) (hi: ∀b,I b→I2 b):dY P w I β hp o (fU b ds):=by
 cases b with
 | dead=>exact .dead
 | var T0 ls=>
  simp only[fU] at h⊢
  cases h with
  | var hb hh aU hI hx gp=>
   refine .var hb hh aU (fun h=>hI (hi _ h)) (fun j v x hj cz=> ?_) gp
   obtain ⟨l,fx,k1,rfl⟩:=Qx cz
   exact Qy (hx j v _ hj cz) (List.all_eq_true.1 hs l k1)
 | arr e fz=>
  simp only[BS.safe,Bool.and_eq_true,Bool.not_eq_true'] at hs
  obtain ⟨rfl,zZ⟩:=hs
  simp only[fU] at h⊢
  generalize (V.nth ds 0).toList=es at h⊢
  cases h with
  | dQ hb=>exact .dQ hb
  | arr a1 a2 a3 a4 a5 a6 a7=>
   refine .arr a1 a2 a3 a4 (fun h=>by cases h) (fun _ h=>a6 rfl (hi _ h)) fun i j x t' y1 y2 y3=> ?_
   obtain ⟨v,z1,z2⟩:=a7 i j x t' y1 y2 y3
   exact ⟨v,z1,z2.scalar (aa1 zZ y2)⟩
 | nest e=>
  simp only[fU] at h⊢
  generalize (V.nth ds 0).toList=es at h⊢
  cases h with
  | nest hb cq ov=>
   refine .nest hb (fun q b' e1 m1 hq=> ?_) ov
   obtain ⟨ok,⟨Ca,c1,c2,c3⟩,nI⟩:=cq q b' e1 m1 hq
   refine ⟨ok,⟨Ca,c1,c2,fun i j x t' y1 y2 y3=> ?_⟩,fun h=>nI (hi _ h)⟩
   obtain ⟨v,z1,z2⟩:=c3 i j x t' y1 y2 y3
   refine ⟨v,z1,?_⟩
   generalize bI P e1 x j=y at z2⊢
   cases z2 with
   | fX a p=>
    refine .fX a (p.scalar fun e hu=> ?_)
    unfold fT at a
    rw[hu] at a
    cases a
   | emp a b=>exact .emp a b
   | row a b c d e=>exact .row a b c d e
 | map t=>
  simp only[fU] at h⊢
  cases h with
  | map a1 a2 a3 a4 a5 a6 a7=>exact .map a1 a2 a3 a4 (fun h=>a5 (hi _ h)) a6 a7
theorem JQ: ∀{l:List BS} {ds:List V} {j:Nat} {y:ag},(eR l ds)[j]? =some y→∃b fx,l[j]? =some b∧y=fU b fx
 | [],ds,j,y,h=>by simp[eR] at h
 | b::l,ds,j,y,h=>by
  simp only[eR] at h
  cases j with
  | zero=>simp at h;exact ⟨b,ds,rfl,h.symm⟩
  | succ j=>
   obtain ⟨b',fx,h1,h2⟩:=JQ (j:=j) (by simpa using h)
   exact ⟨b',fx,by simpa using h1,h2⟩
theorem Qz: ∀{l:List (Nat × VS)} {ds:List V} {q:Nat × V},q∈fu l ds→∃s fx,(q.1,s)∈l∧q.2=kD s fx
 | [],ds,q,h=>by simp[fu] at h
 | (k,s)::l,ds,q,h=>by
  simp only[fu,List.mem_cons] at h
  rcases h with h|h
  ·subst h;exact ⟨s,ds,List.mem_cons_self ..,rfl⟩
  ·obtain ⟨s',fx,h1,h2⟩:=Qz h
   exact ⟨s',fx,List.mem_cons_of_mem _ h1,h2⟩
theorem aa3 {S:Shape} {es:List V} (hs:S.safe P=true) (hi: ∀b,I b→I2 b) {N:Nat→Prop} {st:Start} (h:aC P w' I2 b8 (bd S es).hp B N st) (h0: ∀b,I b→st.I b):
  aC P w' I b8 (bd S es).hp B N st∧∀v,ah P w' I2 b8 (bd S es).hp v (o9 (fu S.bG es))→ah P w' I b8 (bd S es).hp v (o9 (fu S.bG es)):=by
 unfold Shape.safe at hs
 simp only[Bool.and_eq_true] at hs
 obtain ⟨jA,mC⟩:=hs
 have one: ∀q∈fu S.bG es,∀v,ah P w' I2 b8 (bd S es).hp v q.2→ah P w' I b8 (bd S es).hp v q.2:=by
  intro q hq v hv
  obtain ⟨s,fx,k1,k2⟩:=Qz hq
  rw[k2] at hv⊢
  exact Qy hv (List.all_eq_true.1 jA _ k1)
 refine ⟨⟨⟨fun j blk hj=> ?_,h.h.inj,h.h.own,fun b hb=>h.h.jy b (hi b hb)⟩,h.cf,h.size,fun b hb=> .inl (h0 b hb),h.io⟩,fun v hv=> ?_⟩
 ·have hr:=h.h.rel j blk hj
  have gA:=hj
  simp only[bd,mk,gR] at gA
  obtain ⟨b,fx,k1,rfl⟩:=JQ gA
  exact aa2 hr (List.all_eq_true.1 mC _ (List.mem_of_getElem? k1)) hi
 ·generalize fu S.bG es=l at one hv⊢
  match l,one,hv with
  | [],_,hv=>
   simp only[o9,List.map_nil] at hv⊢
   obtain ⟨cs,rfl,e1,e2⟩:=hv.ub
   exact .a8 e1 fun j v x _ hx=>by simp at hx
  | [q],one,hv=>exact one q (List.mem_singleton.2 rfl) v hv
  | q::q2::l,one,hv=>
   simp only[o9] at hv⊢
   obtain ⟨cs,rfl,e1,e2⟩:=hv.ub
   refine .a8 e1 fun j v x hj hx=> ?_
   obtain ⟨y,hy,rfl⟩:=List.mem_map.1 (List.mem_of_getElem? hx)
   exact one y hy v (e2 j v _ hj hx)
end
section
variable {P:Program} {A:cF} {w w':World} {I I' I2:Nat→Prop} {μ β ao b8:Nat→Option Nat} {hp hp' hp0 bn:Nat→Option ag} {C:ae} {B:Nat} {M:Nat→Prop} {w0:Start}
inductive gv (σ:List Place):ag→ag→Prop
 | dead:gv σ .dead .dead
 | var {T:TypeId} {cs:List V}:gv σ (.var T cs) (.var T (cs.map (DF σ)))
 | arr {e:TypeId} {es:List V} {fz:Bool}:gv σ (.arr e es fz) (.arr e es fz)
 | nest {e:TypeId} {es:List V} {v1 v2:List Nat}:gv σ (.nest e es v1) (.nest e es v2)
 | map {t:TypeId} {es:List V}:gv σ (.map t es) (.map t es)
theorem gv.of (σ:List Place) (b:ag):gv σ b (tK σ b):=by
 cases b with
 | dead=>exact .dead
 | var T cs=>exact .var
 | arr e es fz=>exact .arr
 | nest e es v=>exact .nest
 | map t es=>exact .map
theorem QA {σ:List Place}: ∀{pl:List Place} {bs:List ag} {acc:List (Nat × ag)} {k:List (Nat × ag)→Rd R} {r:R} {rd:List Nat},(qi σ pl bs acc k).run C hp=some (r,rd)→
  pl.length≤bs.length∧∃bk fc,(k bk).run C hp=some (r,fc)∧(∀q∈bk,q∈acc∨∃(j:Nat) (b:ag),pl[j]? =some (.blk q.1)∧bs[j]? =some b∧gv σ b q.2∧((∃e es v2,q.2= .nest e es v2)→∃e es ai e' aH,hp q.1=some (.nest e es ai)∧q.2= .nest e' aH (ai.map (· +1))))∧
   (∀q∈acc,q∈bk)∧∀(j:Nat) p,pl[j]? =some p→∃id b,p= .blk id∧(id,b)∈bk
 | [],bs,acc,k,r,rd,h=>⟨Nat.zero_le _,acc,rd,by simpa only[qi] using h,fun q hq=> .inl hq,fun q hq=>hq,fun j p hp=>by simp at hp⟩
 | .row _ _ _::pl,bs,acc,k,r,rd,h=>by
  cases bs<;>(simp only[qi] at h;cases h)
 | .blk id::pl,[],acc,k,r,rd,h=>by simp only[qi] at h;cases h
 | .blk id::pl,b::bs,acc,k,r,rd,h=>by
  have fin: ∀{b2:ag} {ji:List Nat},(qi σ pl bs ((id,b2)::acc) k).run C hp=some (r,ji)→gv σ b b2→((∃e es v2,b2= .nest e es v2)→∃e es ai e' aH,hp id=some (.nest e es ai)∧b2= .nest e' aH (ai.map (· +1)))→
    (Place.blk id::pl).length≤(b::bs).length∧∃bk fc,(k bk).run C hp=some (r,fc)∧(∀q∈bk,q∈acc∨∃(j:Nat) (b':ag),(Place.blk id::pl)[j]? =some (.blk q.1)∧(b::bs)[j]? =some b'∧gv σ b' q.2∧((∃e es v2,q.2= .nest e es v2)→∃e es ai e' aH,hp q.1=some (.nest e es ai)∧q.2= .nest e' aH (ai.map (· +1))))∧
     (∀q∈acc,q∈bk)∧∀(j:Nat) p,(Place.blk id::pl)[j]? =some p→∃id b,p= .blk id∧(id,b)∈bk:=by
   intro b2 ji h1 hb hn
   obtain ⟨a0,bk,fc,a1,a2,a3,a4⟩:=QA h1
   refine ⟨by simp only[List.length_cons];omega,bk,fc,a1,fun q hq=> ?_,fun q hq=>a3 q (List.mem_cons_of_mem _ hq),fun j p hj=> ?_⟩
   ·rcases a2 q hq with h|⟨j,b',k1,k2,k3,k4⟩
    ·rcases List.mem_cons.1 h with e|h
     ·subst e;exact .inr ⟨0,b,rfl,rfl,hb,hn⟩
     ·exact .inl h
    ·exact .inr ⟨j+1,b',by simpa using k1,by simpa using k2,k3,k4⟩
   ·cases j with
    | zero=>simp at hj;subst hj;exact ⟨id,b2,rfl,a3 _ (List.mem_cons_self ..)⟩
    | succ j=>exact a4 j p (by simpa using hj)
  cases b with
  | nest e es v=>
   simp only[qi] at h
   obtain ⟨l,h⟩:=run_get h
   cases aa:hp id with
   | none=>rw[aa] at h;cases h
   | some blk=>
    rw[aa] at h
    cases blk with
    | nest e0 II ai=>exact fin h .nest fun _=>⟨e0,II,ai,e,es,aa,rfl⟩
    | _=>cases h
  | dead=>exact fin h (.of σ _) fun ⟨_,_,_,h⟩=>by cases h
  | var T cs=>exact fin h (.of σ _) fun ⟨_,_,_,h⟩=>by cases h
  | arr e es fz=>exact fin h (.of σ _) fun ⟨_,_,_,h⟩=>by cases h
  | map t es=>exact fin h (.of σ _) fun ⟨_,_,_,h⟩=>by cases h
theorem QB {σ:List Place}: ∀{bs:List ag} {n:Nat} {q:Nat × ag},q∈qj σ n bs→∃i b,bs[i]? =some b∧q=(n+i,tK σ b)
 | [],n,q,h=>by simp[qj] at h
 | b::bs,n,q,h=>by
  simp only[qj,List.mem_cons] at h
  rcases h with h|h
  ·exact ⟨0,b,rfl,h⟩
  ·obtain ⟨i,b',h1,h2⟩:=QB h
   exact ⟨i+1,b',by simpa using h1,by rw[h2];congr 1;omega⟩
theorem QC {σ:List Place}: ∀{bs:List ag} {n i:Nat} {b:ag},bs[i]? =some b→(n+i,tK σ b)∈qj σ n bs
 | [],n,i,b,h=>by simp at h
 | b0::bs,n,i,b,h=>by
  simp only[qj,List.mem_cons]
  cases i with
  | zero=>simp at h;subst h;exact .inl rfl
  | succ i=>exact .inr (by rw[show n+(i+1)=n+1+i by omega];exact QC (by simpa using h))
theorem EC: ∀{k n i:Nat},i<k→(sx n k)[i]? =some (.blk (n+i))
 | 0,n,i,h=>by omega
 | k+1,n,0,h=>rfl
 | k+1,n,i+1,h=>by
  simp only[sx,List.getElem?_cons_succ]
  rw[EC (by omega)]
  congr 2
  omega
theorem JR: ∀{k n:Nat},(sx n k).length=k
 | 0,_=>rfl
 | k+1,n=>by simp[sx,JR]
theorem QD: ∀{bs:List (Nat × ag)} {k:Rd R} {r:R} {rd:List Nat},(DG bs k).run C hp=some (r,rd)→(∀q∈bs,hp q.1=none)∧∃fc,k.run C hp=some (r,fc)
 | [],k,r,rd,h=>⟨by simp,rd,h⟩
 | (id,b)::l,k,r,rd,h=>by
  simp only[DG] at h
  obtain ⟨l1,h⟩:=run_get h
  cases aa:hp id with
  | some blk=>rw[aa] at h;cases h
  | none=>
   rw[aa] at h
   obtain ⟨h1,h2⟩:=QD h
   refine ⟨fun q hq=> ?_,h2⟩
   rcases List.mem_cons.1 hq with e|hq
   ·subst e;exact aa
   ·exact h1 q hq
structure pA (σ:List Place) (b8:Nat→Option Nat) (bn:Nat→Option ag) (ao:Nat→Option Nat) (hp':Nat→Option ag):Prop where
 blk: ∀j b,bn j=some b→∃id b',ei σ j=some (.blk id)∧hp' id=some b'∧gv σ b b'∧(b≠ .dead→ao id=b8 j)
 none: ∀j,bn j=none→ei σ j=none
 akW: ∀j id ver path,ei σ j≠some (.row id ver path)
theorem pA.leaf {σ:List Place} (T:pA σ b8 bn ao hp') {v:Value} {x:V} (h:ah P w I b8 bn v x):ah P w I ao hp' v (jX σ x):=by
 have look: ∀{j b},bn j=some b→∃id b',ei σ j=some (.blk id)∧hp' id=some b'∧gv σ b b'∧(b≠ .dead→ao id=b8 j):=fun h=>T.blk _ _ h
 cases h with
 | undef=>exact .undef
 | int=>exact .int
 | bool=>exact .bool
 | str h=>exact .str h
 | list h=>exact .list h
 | nilS=>exact .nilS
 | agg=>exact .undef
 | a8=>exact .undef
 | dw=>exact .dw
 | fn=>exact .undef
 | pref a b c=>exact .pref a b c
 | @ej _ e j h=>
  obtain ⟨id,b',k1,k2,k3,k4⟩:=look h
  simp only[jX,k1]
  cases k3
  exact .ej k2
 | @gm _ e j _ _ h=>
  obtain ⟨id,b',k1,k2,k3,k4⟩:=look h
  simp only[jX,k1]
  cases k3
  exact .gm k2
 | @j4 _ j _ _ h=>
  obtain ⟨id,b',k1,k2,k3,k4⟩:=look h
  simp only[jX,k1]
  cases k3
  exact .j4 k2
 | @dP e j fz _ h hb=>
  obtain ⟨id,b',k1,k2,k3,k4⟩:=look h
  simp only[jX,k1]
  cases k3
  exact .dP k2 ((k4 (by simp)).trans hb)
 | @whole e j es fz b cap h hb a1 a2 a3=>
  obtain ⟨id,b',k1,k2,k3,k4⟩:=look h
  simp only[jX,k1]
  cases k3
  exact .whole k2 ((k4 (by simp)).trans hb) a1 a2 a3
 | @eB e j es ai b cap h hb a1 a2 a3=>
  obtain ⟨id,b',k1,k2,k3,k4⟩:=look h
  simp only[jX,k1]
  cases k3
  exact .eB k2 ((k4 (by simp)).trans hb) a1 a2 a3
 | @fY e j fz _ h hb=>
  obtain ⟨id,b',k1,k2,k3,k4⟩:=look h
  simp only[jX,k1]
  cases k3
  exact .fY k2 ((k4 (by simp)).trans hb)
 | @sub e j off len es fz b o cap h hb a1 a2 a3=>
  obtain ⟨id,b',k1,k2,k3,k4⟩:=look h
  simp only[jX,k1]
  cases k3
  exact .sub k2 ((k4 (by simp)).trans hb) a1 a2 a3
 | @ptr j i c b blk h hd hb=>
  obtain ⟨id,b',k1,k2,k3,k4⟩:=look h
  simp only[jX,k1]
  have hs:blk.sz P=b'.sz P:=by cases k3<;>rfl
  rw[hs]
  exact .ptr k2 (by intro e;subst e;cases k3;exact hd rfl) ((k4 hd).trans hb)
 | jw=>exact .undef
 | jx=>exact .undef
 | row=>exact .undef
 | cE=>exact .undef
 | dm=>exact .dm
 | @ib _ t j h=>
  obtain ⟨id,b',k1,k2,k3,k4⟩:=look h
  simp only[jX,k1]
  cases k3
  exact .ib k2
 | @bL t j b es h hb=>
  obtain ⟨id,b',k1,k2,k3,k4⟩:=look h
  simp only[jX,k1]
  cases k3
  exact .bL k2 ((k4 (by simp)).trans hb)
theorem pA.one {σ:List Place} (T:pA σ b8 bn ao hp') {v:Value} {x:V} (h:ah P w I b8 bn v x):ah P w I ao hp' v (Iv σ x):=by
 cases x with
 | agg xs=>
  obtain ⟨cs,rfl,e1,e2⟩:=h.kH
  exact .agg (by simpa using e1) fun j v y hj hy=>by
   rw[List.getElem?_map] at hy
   cases hx:xs[j]? with
   | none=>rw[hx] at hy;cases hy
   | some x=>rw[hx] at hy;cases hy;exact T.leaf (e2 j v x hj hx)
 | fn f a b=>
  cases h with
  | fn a1 a2 b1 b2=>
   refine .fn (by simpa using a1) (fun j v y hj hy=> ?_) (by simpa using b1) (fun j v y hj hy=> ?_)
   ·rw[List.getElem?_map] at hy
    cases hx:a[j]? with
    | none=>rw[hx] at hy;cases hy
    | some x=>rw[hx] at hy;cases hy;exact T.leaf (a2 j v x hj hx)
   ·rw[List.getElem?_map] at hy
    cases hx:b[j]? with
    | none=>rw[hx] at hy;cases hy
    | some x=>rw[hx] at hy;cases hy;exact T.leaf (b2 j v x hj hx)
 | _=>exact T.leaf h
theorem pA.val {σ:List Place} (T:pA σ b8 bn ao hp') {v:Value} {x:V} (h:ah P w I b8 bn v x):ah P w I ao hp' v (DF σ x):=by
 cases x with
 | a8 xs=>
  obtain ⟨cs,rfl,e1,e2⟩:=h.ub
  exact .a8 (by simpa using e1) fun j v y hj hy=>by
   rw[List.getElem?_map] at hy
   cases hx:xs[j]? with
   | none=>rw[hx] at hy;cases hy
   | some x=>rw[hx] at hy;cases hy;exact T.one (e2 j v x hj hx)
 | _=>exact T.one h
theorem pA.QE {σ:List Place} (T:pA σ b8 bn ao hp') {o:Option Nat} {b b':ag} (h:dY P w I b8 bn o b) (hb:gv σ b b'):dY P w I ao hp' o b':=by
 cases hb with
 | dead=>exact .dead
 | var=>
  cases h with
  | var a1 a2 a3 a4 a5 a6=>
   refine .var a1 a2 (by simpa using a3) a4 (fun j v y hj hy=> ?_) a6
   rw[List.getElem?_map] at hy
   cases hx:(_:List V)[j]? with
   | none=>rw[hx] at hy;cases hy
   | some x=>rw[hx] at hy;cases hy;exact T.val (a5 j v x hj hx)
 | arr=>
  cases h with
  | dQ hb=>exact .dQ hb
  | arr a1 a2 a3 a4 a5 a6 a7=>exact .arr a1 a2 a3 a4 a5 a6 a7
 | nest=>
  cases h with
  | nest a1 a2 a3=>exact .nest a1 a2 a3
 | map=>
  cases h with
  | map a1 a2 a3 a4 a5 a6 a7=>exact .map a1 a2 a3 a4 a5 a6 a7
theorem gv.uz {σ:List Place} {o:Option Nat} {b b':ag} (h:gv σ b b') {m:Nat} (ho:bt P w o b' m):bt P w o b m:=by
 cases h with
 | dead=>exact absurd rfl ho.alive
 | var=>exact .root (by simp) (ho.flat (by simp))
 | arr=>exact .root (by simp) (ho.flat (by simp))
 | map=>exact .root (by simp) (ho.flat (by simp))
 | nest=>
  cases ho with
  | root _ hb=>exact .root (by simp) hb
  | row hb ha=>exact .row hb ha
theorem gv.QF {σ:List Place} {b b':ag} (h:gv σ b b'):b'≠ .dead→b≠ .dead:=by
 intro h1 h2;subst h2;cases h;exact h1 rfl
end
section
variable {P:Program} {A:cF} {w w':World} {I I' I2:Nat→Prop} {μ β ao b8:Nat→Option Nat} {hp hp' hp0 bn:Nat→Option ag} {C:ae} {B:Nat} {M:Nat→Prop} {w0:Start}
theorem QG: ∀{vs:List Nat} {k:Nat},k<vs.length→bA (vs.map (· +1)) k=bA vs k+1
 | [],k,h=>by simp at h
 | v::vs,0,h=>rfl
 | v::vs,k+1,h=>by simp only[List.map_cons,bA];exact QG (by simpa using h)
theorem QH: ∀{vs:List Nat} {k:Nat},bA vs k≤bA (vs.map (· +1)) k
 | [],k=>by simp[bA]
 | v::vs,0=>by simp[bA]
 | v::vs,k+1=>by simp only[List.map_cons,bA];exact QH
def z6 (hp:Nat→Option ag) (q:Nat × ag):Prop:=(∃e es v2,q.2= .nest e es v2)→∃e es ai e' aH,hp q.1=some (.nest e es ai)∧q.2= .nest e' aH (ai.map (· +1))
theorem eb.JS {id:Nat} {o:Option Nat} {blk:ag} (h:eb P w β hp (.blk id) o blk):o=β id∧∃b0,hp id=some b0∧b0≠ .dead:=by
 cases h with
 | var h=>exact ⟨rfl,_,h,by simp⟩
 | arr h=>exact ⟨rfl,_,h,by simp⟩
 | nest h=>exact ⟨rfl,_,h,by simp⟩
 | map h=>exact ⟨rfl,_,h,by simp⟩
theorem eb.aa4 {id:Nat} {o:Option Nat} {c b b' b0:ag} {σ:List Place} (h:eb P w β hp (.blk id) o c) (h0:hp id=some b0) (hle:c.le b) (hb:gv σ b b') (hn:z6 hp (id,b')):b0.le b':=by
 cases h with
 | var h=>
  rw[h] at h0;cases h0
  cases hb with
  | dead=>trivial
  | var=>trivial
  | arr=>exact hle.elim
  | nest=>exact hle.elim
  | map=>exact hle.elim
 | arr h=>
  rw[h] at h0;cases h0
  cases hb with
  | dead=>trivial
  | var=>exact hle.elim
  | arr=>exact hle
  | nest=>exact hle.elim
  | map=>exact hle.elim
 | map h=>
  rw[h] at h0;cases h0
  cases hb with
  | dead=>trivial
  | map=>exact hle
  | _=>exact hle.elim
 | nest h=>
  rw[h] at h0;cases h0
  cases hb with
  | dead=>trivial
  | var=>exact hle.elim
  | arr=>exact hle
  | map=>exact hle.elim
  | @nest e es v1 v2=>
   obtain ⟨e1,cm,uA,e2,cb,k1,k2⟩:=hn ⟨_,_,_,rfl⟩
   cases k2
   change hp id=_ at k1
   rw[h] at k1;cases k1
   exact ⟨hle.1,hle.2.1,by simp,fun k=>QH⟩
theorem eb.other {p:Place} {o:Option Nat} {blk:ag} (h:eb P w β hp p o blk) (he:hp' p.id=hp p.id):eb P w β hp' p o blk:=by
 cases h with
 | var h=>exact .var (he.trans h)
 | arr h=>exact .arr (he.trans h)
 | nest h=>exact .nest (he.trans h)
 | map h=>exact .map (he.trans h)
 | row h a b c d e f g=>exact .row (he.trans h) a b c d e f g
open Classical in
theorem QI (S:aC P w I β hp B M w0) {pl:List Place} {o:Nat→Option Nat} {bs:List ag} {nb:Nat} {bk fr:List (Nat × ag)} {σ:List Place} (qJ:σ=pl++sx nb (bs.length-pl.length)) (z7:fr=qj σ nb (bs.drop pl.length))
  (kf:(pl.map Place.id).Nodup) (qt:pl.length≤bs.length)
  (ED: ∀(j:Nat) p,pl[j]? =some p→∃id b,p= .blk id∧(id,b)∈bk) (EE: ∀q∈bk,∃(j:Nat) (b:ag),pl[j]? =some (.blk q.1)∧bs[j]? =some b∧gv σ b q.2∧z6 hp q)
  (hl: ∀j blk,hp0 j=some blk→∃p,ei pl j=some p∧eb P w β hp p (o j) blk) (hd: ∀j,j<pl.length→∃blk,hp0 j=some blk)
  (Sc:aC P w' I2 b8 (jv bs) w.heap.size (oC P w o hp0) ⟨w,I⟩) (w4:kM w I o hp0 w' I2 b8 (jv bs)) (sQ: ∀q∈fr,hp q.1=none):
  ∃ao,Le P w I β hp w' I2 ao (bM hp (fr++bk))∧aC P w' I2 ao (bM hp (fr++bk)) B M w0∧pA σ b8 (jv bs) ao (bM hp (fr++bk)):=by
 generalize JT:bM hp (fr++bk)=gN
 let ao:Nat→Option Nat:=fun n=>if∃q∈fr,q.1=n then b8 (pl.length+(n-nb)) else β n
 have QJ: ∀(j:Nat) id,pl[j]? =some (.blk id)→∃c,hp0 j=some c∧eb P w β hp (.blk id) (o j) c:=by
  intro j id hj
  obtain ⟨c,hc⟩:=hd j (List.getElem?_eq_some_iff.1 hj).1
  obtain ⟨p,h1,h2⟩:=hl j c hc
  rw[ly,hj] at h1
  cases h1
  exact ⟨c,hc,h2⟩
 have uniq: ∀(j1 j2:Nat) id,pl[j1]? =some (.blk id)→pl[j2]? =some (.blk id)→j1=j2:=by
  intro j1 j2 id h1 h2
  have m1:(pl.map Place.id)[j1]? =some id:=by rw[List.getElem?_map,h1];rfl
  have m2:(pl.map Place.id)[j2]? =some id:=by rw[List.getElem?_map,h2];rfl
  obtain ⟨z1,z2⟩:=List.getElem?_eq_some_iff.1 m1
  obtain ⟨z3,z4⟩:=List.getElem?_eq_some_iff.1 m2
  exact (List.getElem_inj kf).1 (z2.trans z4.symm)
 have cls: ∀id,(∃i b,id=nb+i∧bs[pl.length+i]? =some b∧gN id=some (tK σ b)∧hp id=none∧ao id=b8 (pl.length+i))∨
   (∃(j:Nat) (b b' c b0:ag),pl[j]? =some (.blk id)∧bs[j]? =some b∧hp0 j=some c∧eb P w β hp (.blk id) (o j) c∧hp id=some b0∧b0.le b'∧gN id=some b'∧gv σ b b'∧z6 hp (id,b')∧ao id=β id∧c.le b∧(b≠ .dead→b8 j=β id))∨
   (gN id=hp id∧(∀j:Nat,pl[j]? ≠some (.blk id))∧ao id=β id):=by
  intro id
  by_cases hm: ∃b,(id,b)∈fr++bk
  ·obtain ⟨b,hm⟩:=hm
   obtain ⟨b',zy,he⟩:=DP (hp:=hp) hm
   rw[JT] at he
   rcases List.mem_append.1 zy with h|h
   ·have h0:=sQ _ h
    have oD:ao id=b8 (pl.length+(id-nb)):=if_pos ⟨_,h,rfl⟩
    rw[z7] at h
    obtain ⟨i,b1,k1,k2⟩:=QB h
    rw[List.getElem?_drop] at k1
    cases k2
    exact .inl ⟨i,b1,rfl,k1,he,h0,by rw[oD];congr 2;omega⟩
   ·obtain ⟨j,b1,q1,q2,q3,q4⟩:=EE _ h
    obtain ⟨c,c1,c2⟩:=QJ j id q1
    obtain ⟨c3,b0,c4,c5⟩:=c2.JS
    obtain ⟨b2,d1,d2,d3⟩:=w4.blk j c c1
    rw[gR,q2] at d1
    cases d1
    refine .inr (.inl ⟨j,b1,b',c,b0,q1,q2,c1,c2,c4,c2.aa4 c4 d2 q3 q4,he,q3,q4,if_neg ?_,d2,fun h=>(d3 h).trans c3⟩)
    rintro ⟨q,hq,hqe⟩
    rw[←hqe,sQ q hq] at c4
    cases c4
  ·refine .inr (.inr ⟨?_,fun j hj=> ?_,if_neg ?_⟩)
   ·rcases tY (hp:=hp) (l:=fr++bk) (id:=id) with h|⟨b,hb,_⟩
    ·rw[JT] at h;exact h
    ·exact absurd ⟨b,hb⟩ hm
   ·obtain ⟨aA,b,e,hb⟩:=ED j _ hj
    cases e
    exact hm ⟨b,List.mem_append.2 (.inr hb)⟩
   ·rintro ⟨q,hq,rfl⟩
    exact hm ⟨q.2,List.mem_append.2 (.inl hq)⟩
 have QK: ∀b,oC P w o hp0 b→∃(j id:Nat) (b1:ag),pl[j]? =some (.blk id)∧hp id=some b1∧bt P w (β id) b1 b∧∀e es,b1≠ .arr e es true:=by
  rintro b ⟨j,c,hc,ho⟩
  obtain ⟨p,h1,h2⟩:=hl j c hc
  rw[ly] at h1
  obtain ⟨id,b2,rfl,_⟩:=ED j p h1
  obtain ⟨b1,k1,k2,k3⟩:=h2.uz ho
  exact ⟨j,id,b1,h1,k1,k2,k3⟩
 have other: ∀id blk b,hp id=some blk→bt P w (β id) blk b→(∀j:Nat,pl[j]? ≠some (.blk id))→¬oC P w o hp0 b∧w'.heap[b]? =w.heap[b]? ∧(I2 b→I b):=by
  intro id blk b e1 e3 e4
  have oE: ¬oC P w o hp0 b:=by
   intro hx
   obtain ⟨j,aA,b1,i1,i2,i3,_⟩:=QK b hx
   have:=S.h.inj id aA _ _ b e1 i2 e3 i3
   subst this
   exact e4 j i1
  have aM:=S.h.lt e1 e3
  refine ⟨oE,Sc.cf b aM oE,fun h=> ?_⟩
  rcases Sc.new b h with h|h|h
  ·exact h
  ·exact absurd h oE
  ·omega
 have sJ:pA σ b8 (jv bs) ao gN:=by
  refine ⟨fun j b hj=> ?_,fun j hj=> ?_,fun j id ver path hj=> ?_⟩
  ·rw[gR] at hj
   by_cases cZ:j<pl.length
   ·obtain ⟨id,b1,e,lr⟩:=ED j _ (List.getElem?_eq_getElem cZ)
    have EF:pl[j]? =some (.blk id):=by rw[List.getElem?_eq_getElem cZ,e]
    have JU:ei σ j=some (.blk id):=by rw[qJ];exact oA (by rw[ly];exact EF)
    rcases cls id with ⟨i,b2,c1,c2,c3,c4,c5⟩|⟨j',b2,b',c,b0,q1,q2,q3,q4,q5,q6,q7,q8,q9,pB,w5,qK⟩|⟨c1,c2,c3⟩
    ·obtain ⟨c,d1,d2⟩:=QJ j id EF
     obtain ⟨_,b0,d3,_⟩:=d2.JS
     rw[d3] at c4;cases c4
    ·obtain rfl:=uniq _ _ _ q1 EF
     rw[hj] at q2;cases q2
     exact ⟨id,b',JU,q7,q8,fun h=>pB.trans (qK h).symm⟩
    ·exact absurd EF (c2 j)
   ·have QL:=(List.getElem?_eq_some_iff.1 hj).1
    have JU:ei σ j=some (.blk (nb+(j-pl.length))):=by
     rw[qJ,ly,List.getElem?_append_right (by omega)]
     exact EC (by omega)
    have hm:(nb+(j-pl.length),tK σ b)∈fr:=by
     rw[z7]
     refine QC ?_
     rw[List.getElem?_drop,show pl.length+(j-pl.length)=j by omega]
     exact hj
    rcases cls (nb+(j-pl.length)) with ⟨i,b2,c1,c2,c3,c4,c5⟩|⟨j',b2,b',c,b0,q1,q2,q3,q4,q5,q6,q7,q8,q9,pB,w5,qK⟩|⟨c1,c2,c3⟩
    ·have hi:i=j-pl.length:=by omega
     subst hi
     rw[show pl.length+(j-pl.length)=j by omega] at c2 c5
     rw[hj] at c2;cases c2
     exact ⟨_,_,JU,c3,.of σ _,fun _=>c5⟩
    ·rw[sQ _ hm] at q5;cases q5
    ·obtain ⟨b',zy,he⟩:=DP (hp:=hp) (l:=fr++bk) (List.mem_append.2 (.inl hm))
     rw[JT,c1,sQ _ hm] at he
     cases he
  ·rw[gR] at hj
   have:=List.getElem?_eq_none_iff.1 hj
   rw[qJ,ly,List.getElem?_eq_none_iff,List.length_append,JR]
   omega
  ·rw[qJ,ly] at hj
   by_cases cZ:j<pl.length
   ·rw[List.getElem?_append_left cZ] at hj
    obtain ⟨aA,b1,e,_⟩:=ED j _ hj
    cases e
   ·have QL:j-pl.length<bs.length-pl.length:=by
     have:=(List.getElem?_eq_some_iff.1 hj).1
     rw[List.length_append,JR] at this
     omega
    rw[List.getElem?_append_right (by omega),EC QL] at hj
    cases hj
 have hle:Le P w I β hp w' I2 ao gN:=by
  refine ⟨w4.dp,w4.cf,fun id blk aa=> ?_,fun id blk blk' b aa bB qL hb=> ?_,fun id e es ai e' aH vers' b q i c t v e1 l aa bB hb aM hv ht hc=> ?_⟩
  ·rcases cls id with ⟨i,b2,c1,c2,c3,c4,c5⟩|⟨j',b2,b',c,b0,q1,q2,q3,q4,q5,q6,q7,q8,q9,pB,w5,qK⟩|⟨c1,c2,c3⟩
   ·rw[aa] at c4;cases c4
   ·rw[aa] at q5;cases q5
    exact ⟨b',q7,q6,fun _=>pB⟩
   ·exact ⟨blk,c1.trans aa,ag.le_refl _,fun _=>c3⟩
  ·rcases cls id with ⟨i,b2,c1,c2,c3,c4,c5⟩|⟨j',b2,b',c,b0,q1,q2,q3,q4,q5,q6,q7,q8,q9,pB,w5,qK⟩|⟨c1,c2,c3⟩
   ·rw[aa] at c4;cases c4
   ·rw[q7] at bB;cases bB
    exact w4.size j' c b2 b q3 (by rw[gR];exact q2) (q8.QF qL) (q4.JS.1.trans hb)
   ·rw[c1,aa] at bB
    cases bB
    simp only[bsize,(other id blk b aa (.root qL hb) c2).2.1]
  ·rcases cls id with ⟨i2,b2,c1,c2,c3,c4,c5⟩|⟨j',b2,b',c',b0,q1,q2,q3,q4,q5,q6,q7,q8,q9,pB,w5,qK⟩|⟨c1,c2,c3⟩
   ·rw[aa] at c4;cases c4
   ·rw[q7] at bB;cases bB
    obtain ⟨_,_,uA,_,_,k1,k2⟩:=q9 ⟨_,_,_,rfl⟩
    change hp id=_ at k1
    rw[aa] at k1;cases k1
    cases k2
    rw[QG aM] at hv
    omega
   ·rw[c1,aa] at bB
    cases bB
    exact ⟨l,rfl,hc.mono fun _ _ _ _ h=>(other id _ _ aa (.row hb h) c2).2.1⟩
 have place: ∀id blk b,gN id=some blk→bt P w' (ao id) blk b→(∃j c,jv bs j=some c∧bt P w' (b8 j) c b∧ei σ j=some (.blk id))∨(b<w.heap.size∧¬oC P w o hp0 b∧hp id=some blk∧bt P w (β id) blk b):=by
  intro id blk b e1 e3
  rcases cls id with ⟨i,b2,c1,c2,c3,c4,c5⟩|⟨j',b2,b',c,b0,q1,q2,q3,q4,q5,q6,q7,q8,q9,pB,w5,qK⟩|⟨c1,c2,c3⟩
  ·rw[c3] at e1;cases e1
   rw[c5] at e3
   refine .inl ⟨pl.length+i,b2,by rw[gR];exact c2,(gv.of σ b2).uz e3,?_⟩
   have:=(List.getElem?_eq_some_iff.1 c2).1
   rw[qJ,ly,List.getElem?_append_right (by omega),EC (by omega),c1]
   congr 3
   omega
  ·rw[q7] at e1;cases e1
   have qL:b2≠ .dead:=q8.QF e3.alive
   rw[pB,←qK qL] at e3
   exact .inl ⟨j',b2,by rw[gR];exact q2,q8.uz e3,by rw[qJ];exact oA (by rw[ly];exact q1)⟩
  ·rw[c1] at e1
   rw[c3] at e3
   have:=e3.mono (w:=w) fun b hb=>(other id blk b e1 hb c2).2.1
   exact .inr ⟨S.h.lt e1 this,(other id blk b e1 this c2).1,e1,this⟩
 have sC: ∀b,oC P w o hp0 b∨w.heap.size≤b→M b∨B≤b:=by
  rintro b (h|h)
  ·obtain ⟨j,id,b1,i1,i2,i3,_⟩:=QK b h
   exact S.h.own id b1 b i2 i3
  ·exact .inr (Nat.le_trans S.size h)
 have JV: ∀j c b,jv bs j=some c→bt P w' (b8 j) c b→oC P w o hp0 b∨w.heap.size≤b:=fun j c b h1 h2=>Sc.h.own j c b h1 h2
 refine ⟨ao,hle,⟨⟨fun id blk aa=> ?_,fun i1 i2 b1 b2 b e1 e2 f1 f2=> ?_,fun id blk b aa hb=> ?_,Sc.h.jy⟩,fun b hb hM=> ?_,Nat.le_trans S.size Sc.size,fun b hb=> ?_,⟨Sc.io.1.trans S.io.1,Sc.io.2.trans S.io.2⟩⟩,sJ⟩
 ·rcases cls id with ⟨i,b2,c1,c2,c3,c4,c5⟩|⟨j',b2,b',c,b0,q1,q2,q3,q4,q5,q6,q7,q8,q9,pB,w5,qK⟩|⟨c1,c2,c3⟩
  ·rw[c3] at aa;cases aa
   rw[c5]
   exact sJ.QE (Sc.h.rel _ b2 (by rw[gR];exact c2)) (.of σ b2)
  ·rw[q7] at aa;cases aa
   have:=sJ.QE (Sc.h.rel j' b2 (by rw[gR];exact q2)) q8
   by_cases qL:b2= .dead
   ·subst qL
    cases q8
    exact .dead
   ·rw[pB,←qK qL]
    exact this
  ·rw[c1] at aa
   rw[c3]
   exact (S.h.rel id blk aa).mono hle fun b hb=>(other id blk b aa hb c2).2
 ·rcases place i1 b1 b e1 f1 with ⟨j1,c1,g1,g2,g3⟩|⟨g1,g2,g3,g4⟩<;>rcases place i2 b2 b e2 f2 with ⟨j2,c2,k1,k2,k3⟩|⟨k1,k2,k3,k4⟩
  ·have:=Sc.h.inj j1 j2 c1 c2 b g1 k1 g2 k2
   subst this
   rw[g3] at k3
   cases k3
   rfl
  ·rcases JV j1 c1 b g1 g2 with h|h
   ·exact absurd h k2
   ·omega
  ·rcases JV j2 c2 b k1 k2 with h|h
   ·exact absurd h g2
   ·omega
  ·exact S.h.inj i1 i2 _ _ b g3 k3 g4 k4
 ·rcases place id blk b aa hb with ⟨j1,c1,g1,g2,g3⟩|⟨g1,g2,g3,g4⟩
  ·exact sC b (JV j1 c1 b g1 g2)
  ·exact S.h.own id blk b g3 g4
 ·refine (Sc.cf b (Nat.lt_of_lt_of_le hb S.size) fun hx=> ?_).trans (S.cf b hb hM)
  rcases sC b (.inl hx) with h|h
  ·exact hM h
  ·omega
 ·rcases Sc.new b hb with h|h|h
  ·exact S.new b h
  ·exact .inr (sC b (.inl h))
  ·exact .inr (sC b (.inr h))
end
section
variable {P:Program} {A:cF} {w w':World} {I I' I2:Nat→Prop} {μ β ao b8:Nat→Option Nat} {hp hp' hp0 bn:Nat→Option ag} {C:ae} {B:Nat} {M:Nat→Prop} {w0:Start}
theorem QM (hp:Nat→Option ag): ∀(a b:List (Nat × ag)),bM hp (a++b)=bM (bM hp b) a
 | [],b=>rfl
 | (i,x)::a,b=>by simp only[List.cons_append,bM,QM hp a b]
theorem uB {hp:Nat→Option ag} {l:List (Nat × ag)} {id:Nat} (h: ∀q∈l,q.1≠id):bM hp l id=hp id:=by
 rcases tY (hp:=hp) (l:=l) (id:=id) with h1|⟨b,hb,_⟩
 ·exact h1
 ·exact absurd rfl (h _ hb)
def w6 (P : Program) : Prop := ∀ (f : Nat) fn, P.funcs[f]? = some fn → (fn.name == "runtime.NumGoroutine") = false
def EG (P:Program) (f:FuncId) (e:TypeId):Prop:=
 (∀args w,(callFunc f args).run P w= .ok (.enter f args) w)∧∃t,P.underlying t=some (.slice e)∧
  ∀(s:Value) (w:World) (Q:Ending→World→Prop),(s= .slice none 0 0→Q (.returned (.slice none 0 0)) w)→
   (∀a n c,s= .slice (some a) n c→∃v w',(Builtin.append_ #[t,t] t #[.slice (some ⟨w.heap.size,0,none⟩) 0 0,s]).run P (w.alloc (.cells #[] e))= .ok v w'∧Q (.returned v) w')→
   (s= .slice none 0 0∨∃a n c,s= .slice (some a) n c)→Calls P f #[s] w Q
structure jk (P:Program) (A:cF):Prop where
 count:w6 P
 ext: ∀f T,A.ext f=some T→∀(b:Nat) (C:Array Value) (w:World),w.heap[b]? =some (.cells C T (0,0))→C.size=P.cellsOf T→(C[0]? =some (.pointer none)∨C[0]? =some (.pointer (some ⟨b,0,none⟩)))→
  (callFunc f #[.pointer (some ⟨b,0,none⟩)]).run P w= .ok (.enter f #[.pointer (some ⟨b,0,none⟩)]) w∧
  Calls P f #[.pointer (some ⟨b,0,none⟩)] w fun e w'=>e= .returned (.tuple #[])∧(w'=w∨w'=w.setCell ⟨b,0,none⟩ (.pointer (some ⟨b,0,none⟩)))
 idle: ∀f,A.idle f=true→(∀args w,(callFunc f args).run P w= .ok (.enter f args) w)∧
  ∀args w,CallsD P f args .returning w fun e u' w'=>(∃v,e= .returned v)∧u'= .returning∧w'=w
 oa: ∀f e,A.oa f=some e→EG P f e
theorem jk.here {P:Program} {A:cF} (h:jk P A) (f id:Nat):jk P (A.here f id):=⟨h.count,h.ext,h.idle,h.oa⟩
def z8 (E:FuncId→Bool) (d:Deferred):Prop:= ∃f cap,d.target= .fn (.func f) cap∧E f=true
theorem JW {P:Program} {A:cF} (hP:jk P A) {fn:Func} {tmps:Array Value} {R:Ending→World→Prop} {w:World} {v:Value} (hv:(results fn tmps).run P w= .ok v w) (hR:R (.returned v) w):
  ∀ds:List Deferred,(∀d∈ds,z8 A.idle d)→Leaves P fn tmps R ds .returning w
 | [],_=>⟨v,hv,hR⟩
 | d::ds,h=>by
  obtain ⟨f,cap,ht,hf⟩:=h d (by simp)
  obtain ⟨k1,k2⟩:=hP.idle f hf
  obtain ⟨t,QN⟩:=d
  simp only at ht
  subst ht
  refine leaves_cons (f:=f) (args:=QN++cap) (by simp) ?_ ?_
  ·simp only[invoke];exact k1 _ w
  ·refine (k2 (QN++cap) w).mono fun e u' w' hr=> ?_
   obtain ⟨⟨v',rfl⟩,rfl,rfl⟩:=hr
   exact JW hP hv hR ds fun d hd=>h d (List.mem_cons_of_mem _ hd)
def z9 (P:Program) (A:cF) (o:Oper) (a:Act) (w:World) (I:Nat→Prop) (β:Nat→Option Nat) (hp:Nat→Option ag) (B:Nat) (M:Nat→Prop) (w0:Start) (r:R):Prop:=
 ∀(next:Act→World→Prop) (Q:Exit→Act→World→Prop),
  (∀v w' I' ao ds,Le P w I β hp w' I' ao (bM hp r.upd)→aC P w' I' ao (bM hp r.upd) B M w0→ah P w' I' ao (bM hp r.upd) v r.v→(∀d∈ds,d∈a.defers∨z8 A.idle d)→next ({a with defers:=ds}.put o.dst v) w')→o.wp P a w next Q
theorem pd.step {o:Oper} {a:Act} {r:R} (h:pd P ((execOp a.eval o).run P w) w I β hp B M w0 r):z9 P A o a w I β hp B M w0 r:=by
 obtain ⟨v,w',I',ao,h1,h2,h3,h4⟩:=h
 intro next Q hn
 unfold Oper.wp
 rcases h1 with h1|⟨h1,rfl⟩
 ·rw[h1];exact hn v w' I' ao a.defers h2 h3 h4 fun d hd=> .inl hd
 ·rw[h1];exact hn _ w' I' ao a.defers h2 h3 h4 fun d hd=> .inl hd
theorem QO: ∀(l:List (Nat × VS)),oe l=sw (l.map (·.2))
 | []=>rfl
 | (_,s)::l=>by simp only[oe,List.map_cons,sw,QO l]
theorem aa5 (hC:kN P A C) (S:aC P w I β hp B M w0) (hg:gM P A.aB w I) {vals:List Value} {args:List V} {nb key:Nat} {f:FuncId} {r:R} {rd:List Nat} (hlen:vals.length=args.length)
  (cG: ∀(j:Nat) v x,vals[j]? =some v→args[j]? =some x→ah P w I β hp v x) (h:(zd P A nb key f args).run C hp=some (r,rd)):
  ∃fn c,P.funcs[f]? =some fn∧fn.body=some c∧Calls P f vals.toArray w fun e w'=> ∃v I' ao,e= .returned v∧Le P w I β hp w' I' ao (bM hp r.upd)∧aC P w' I' ao (bM hp r.upd) B M w0∧ah P w' I' ao (bM hp r.upd) v r.v:=by
 unfold zd at h
 obtain ⟨QP,h0⟩:=aD h
 clear h
 rw[Nat.beq_eq] at QP
 subst QP
 obtain ⟨h1,ji,d1,u1,a1,a2,a3,a5,a4⟩:=JO S h0 hlen cG
 obtain ⟨h2,sP,d2,u2,b1,b2,b3,b4⟩:=Qt S a1
 clear h0 a1
 obtain ⟨hc,h3⟩:=aD b1
 clear b1
 simp only[Bool.and_eq_true,Nat.beq_eq,Bool.not_eq_true'] at hc
 obtain ⟨fM,pz⟩:=hc
 have sR:=a2.trans b2
 have lf:h2.ds=d1++d2:=by have:=sR.ds;simpa using this
 have EH:h2.upd=u1++u2:=by have:=sR.upd;simpa using this
 have kf:(h2.pl.map Place.id).Nodup:=sR.nodup (by simp)
 obtain ⟨c1,o,c2,c3⟩:=b4 []
 simp only[List.append_nil] at c1 c2 c3
 cases Aa:C key h2.ds with
 | none=>
  simp only[Rd.run,Aa] at h3
  cases h3
 | some es=>
  have qo: ∃fc,(zc P (A.so key es) nb h2 (A.lv key es)).run C hp=some (r,fc):=by
   obtain ⟨x,hx,e⟩:=bind_some h3
   rw[Aa] at hx
   cases hx
   unfold cF.so cF.lv
   cases cg:A.alt key with
   | none=>rw[cg] at e;exact ⟨_,e⟩
   | some S2=>
    rw[cg] at e
    simp only[Rd.run] at e
    cases hb:(V.nth es 0).toBool<;>(rw[hb] at e;exact ⟨_,e⟩)
  clear h3
  obtain ⟨fc,h3⟩:=qo
  unfold zc at h3
  simp only at h3
  generalize gO:eR (A.so key es).aX ((A.lv key es).drop (oe (A.so key es).bG))=bs at h3
  generalize qJ:h2.pl++sx nb (bs.length-h2.pl.length)=σ at h3
  generalize z7:qj σ nb (bs.drop h2.pl.length)=fr at h3
  obtain ⟨p0,bk,rd4,p1,p2,_,p3⟩:=QA h3
  obtain ⟨sQ,rd5,p4⟩:=QD p1
  obtain rfl:=aI p4
  have qt:h2.pl.length≤bs.length:=by rw[List.length_take] at p0;omega
  have EE: ∀q∈bk,∃(j:Nat) (b:ag),h2.pl[j]? =some (.blk q.1)∧bs[j]? =some b∧gv σ b q.2∧z6 hp q:=by
   intro q hq
   rcases p2 q hq with hx|⟨j,b,k1,k2,k3,k4⟩
   ·simp at hx
   ·have hj:=(List.getElem?_eq_some_iff.1 k1).1
    rw[List.getElem?_take_of_lt hj] at k2
    exact ⟨j,b,k1,k2,k3,k4⟩
  obtain ⟨fn,c,hf,hb,JX⟩:=hC key h2.ds es Aa
  refine ⟨fn,c,hf,hb,?_⟩
  have EI:eR (A.sin key).aX (h2.ds.drop (oe (A.sin key).bG))=eR (A.sin key).aX d2:=by
   rw[lf,QO,nv a3]
  have JY:(bd (A.sin key) h2.ds).hp=jv (eR (A.sin key).aX d2):=by
   simp only[bd,mk,EI]
  have hl: ∀j blk,(bd (A.sin key) h2.ds).hp j=some blk→∃p,ei h2.pl j=some p∧eb P w β hp p (o j) blk:=by
   intro j blk hj
   rw[JY,gR] at hj
   obtain ⟨p,k1,k2⟩:=c2 j blk hj
   rw[Nat.zero_add] at k1
   exact ⟨p,k1,k2⟩
  have hd: ∀j,j<h2.pl.length→∃blk,(bd (A.sin key) h2.ds).hp j=some blk:=by
   intro j hj
   rw[JY,gR]
   exact ⟨_,List.getElem?_eq_getElem (by rw[c1,←fM];exact hj)⟩
  have QQ:zY P w β hp h2.pl o (bd (A.sin key) h2.ds).hp:=by
   intro j p hj
   obtain ⟨blk,k1⟩:=hd j (by rw[ly] at hj;exact (List.getElem?_eq_some_iff.1 hj).1)
   obtain ⟨p',k2,k3⟩:=hl j blk k1
   rw[hj] at k2
   cases k2
   exact ⟨blk,k1,k3⟩
  obtain ⟨qz,S1⟩:=zx S sR.Ew
  rw[←EH] at qz S1
  have i1: ∀b,I b→iF P w I β hp h2.upd b:=fun b h=> .inl h
  have entry:=aa0 (hp0:=(bd (A.sin key) h2.ds).hp) S kf pz hl (fun cS j blk hj=>by
   have gA:=hj
   rw[JY,gR] at gA
   exact c3 (iF P w I β hp h2.upd) o _ i1 (fun q hq b hb=> .inr ⟨q,by rw[EH];exact List.mem_append.2 (.inr hq),hb⟩) h2.pl [] (by simp) QQ j blk gA (cS j blk hj)) S1.h.jy
  have aa6:vals.length=(A.sin key).bG.length:=by rw[hlen,←a5];simp
  have ha:=JX w (iF P w I β hp h2.upd) o vals entry (hg.mono i1 fun _ _=>rfl) aa6 fun j v x hj hx=>by
   rw[lf] at hx
   exact (((a4.later b2) (iF P w I β hp h2.upd) o _ i1 (fun q hq b hb=> .inr ⟨q,by rw[EH];exact hq,hb⟩) h2.pl [] (by simp) QQ) d2).2 j v x hj hx
  refine ha.mono fun e w' Ab=> ?_
  obtain ⟨v,I2,b8,rfl,ha⟩:=Ab
  have w7:(bd (A.so key es) (A.lv key es)).hp=jv bs:=by simp only[bd,mk,gO]
  cases aa7:(A.so key es).safe P with
  | true=>
   simp only[cond_true,List.append_nil]
   have kK: ∀b,I b→I2 b:=fun b h=>ha.le.dp b (i1 b h)
   obtain ⟨s1,s2⟩:=aa3 aa7 kK ha.wZ i1
   have w4:kM w I o (bd (A.sin key) h2.ds).hp w' I b8 (jv bs):=by
    rw[←w7]
    exact ⟨fun _ h=>h,fun b h=>ha.le.cf b (i1 b h),ha.le.blk,ha.le.size⟩
   obtain ⟨ao,k1,k2,k3⟩:=QI S qJ.symm z7.symm kf qt p3 EE hl hd (by rw[←w7];exact ⟨s1.h,s1.cf,s1.size,fun b h=> .inl h,s1.io⟩) w4 sQ
   exact ⟨v,I,ao,rfl,k1,k2,k3.val (by have:=s2 v ha.res;rw[w7] at this;exact this)⟩
  | false=>
   simp only[cond_false]
   rw[←List.append_assoc,QM]
   have oE: ∀p∈h2.pl,bM hp h2.upd p.id=hp p.id:=fun p hp=>uB fun q hq e=>
    EB pz (List.mem_map.2 ⟨q,hq,rfl⟩) (e▸List.mem_map.2 ⟨p,hp,rfl⟩)
   have aa8: ∀q∈bk,∃(j:Nat) (b:ag),h2.pl[j]? =some (.blk q.1)∧bs[j]? =some b∧gv σ b q.2∧z6 (bM hp h2.upd) q:=by
    intro q hq
    obtain ⟨j,b,k1,k2,k3,k4⟩:=EE q hq
    refine ⟨j,b,k1,k2,k3,fun hn=> ?_⟩
    have:=oE _ (List.mem_of_getElem? k1)
    simp only[Place.id] at this
    rw[this]
    exact k4 hn
   have wu: ∀j blk,(bd (A.sin key) h2.ds).hp j=some blk→∃p,ei h2.pl j=some p∧eb P w β (bM hp h2.upd) p (o j) blk:=by
    intro j blk hj
    obtain ⟨p,k1,k2⟩:=hl j blk hj
    exact ⟨p,k1,k2.other (oE p (by rw[ly] at k1;exact List.mem_of_getElem? k1))⟩
   have aa9: ∀q∈fr,bM hp h2.upd q.1=none:=by
    intro q hq
    rw[uB fun q' b9 e=> ?_]
    ·exact sQ q hq
    ·obtain ⟨e1,cm,_,h5⟩:=sR.Ew q' (EH▸b9)
     rw[e,sQ q hq] at h5
     rcases h5 with ⟨_,h5⟩|⟨_,h5⟩<;>cases h5
   obtain ⟨ao,k1,k2,k3⟩:=QI S1 qJ.symm z7.symm kf qt p3 aa8 wu hd (by rw[←w7];exact ha.wZ) (by rw[←w7];exact ha.le) aa9
   exact ⟨v,I2,ao,rfl,qz.trans k1,k2,k3.val (by have:=ha.res;rw[w7] at this;exact this)⟩
theorem QR (hC:kN P A C) (hP:jk P A) (S:aC P w I β hp B M w0) (hg:gM P A.aB w I) {a:Act} {nb key:Nat} {o:Oper} {f:FuncId} {vals:List Value} {args:List V} (hlen:vals.length=args.length)
  (cG: ∀(j:Nat) v x,vals[j]? =some v→args[j]? =some x→ah P w I β hp v x) {r:R} {rd:List Nat} (h:(zd P A nb key f args).run C hp=some (r,rd))
  (hex:(execOp a.eval o).run P w=(callFunc f vals.toArray).run P w):z9 P A o a w I β hp B M w0 r:=by
 intro next Q hn
 obtain ⟨fn,c,hf,hb,JX⟩:=aa5 hC S hg hlen cG h
 unfold Oper.wp
 rw[hex,MuLone.run_callFunc_enter hf (hP.count f _ hf) hb,Oper.upon_enter]
 refine JX.mono fun e w' Ab=> ?_
 obtain ⟨v,I2,b8,rfl,k1,k2,k3⟩:=Ab
 exact hn v w' I2 b8 a.defers k1 k2 k3 fun d hd=> .inl hd
theorem kF.args {a:Act} {sl:Nat→V} (hs:kF P w I β hp a sl) (hg:gM P A.aB w I) {args:Array Operand} {ts:Array TypeId} (aU:args.size=ts.size):
  (args.map a.eval).toList.length=((args.toList.zip ts.toList).map fun p=>aJ P A.aB p.2 sl p.1).length∧
  ∀(j:Nat) v x,(args.map a.eval).toList[j]? =some v→((args.toList.zip ts.toList).map fun p=>aJ P A.aB p.2 sl p.1)[j]? =some x→ah P w I β hp v x:=by
 refine ⟨by simp;omega,fun j v x hv hx=> ?_⟩
 simp only[Array.toList_map,List.getElem?_map,List.getElem?_zip_eq_some,Option.map_eq_some_iff] at hv hx
 obtain ⟨x1,Ac,rfl⟩:=hv
 obtain ⟨⟨y1,t1⟩,⟨QS,_⟩,rfl⟩:=hx
 rw[Ac] at QS
 cases QS
 exact hs.ev hg t1 _
theorem QT {vs us:List Value} {xs ys:List V} (h1:vs.length=xs.length) (h2: ∀(j:Nat) v x,vs[j]? =some v→xs[j]? =some x→ah P w I β hp v x)
  (h3: ∀(j:Nat) v x,us[j]? =some v→ys[j]? =some x→ah P w I β hp v x) (j:Nat) (v:Value) (x:V) (hv:(vs++us)[j]? =some v) (hx:(xs++ys)[j]? =some x):ah P w I β hp v x:=by
 by_cases hj:j<vs.length
 ·rw[List.getElem?_append_left hj] at hv
  rw[List.getElem?_append_left (by omega)] at hx
  exact h2 j v x hv hx
 ·rw[List.getElem?_append_right (by omega)] at hv
  rw[List.getElem?_append_right (by omega)] at hx
  rw[h1] at hv
  exact h3 _ v x hv hx
theorem aba (hP:jk P A) (S:aC P w I β hp B M w0) (hg:gM P A.aB w I) {a:Act} {sl:Nat→V} (hs:kF P w I β hp a sl) {dst:Option Tmp} {ty e:TypeId} {pos:String} {after:Array Edge} {guard:Option (Nat × Bool)} {f:FuncId}
  {args:Array Operand} {argTypes:Array TypeId} {nb:Nat} {r:R} {rd:List Nat} (ka:A.oa f=some e)
  (h:((match args.toList with
    | [x]=> .az (cW P e) (sr e (aJ P A.aB ty sl x) fun xs=> .az (Nat.ble (xs.length*P.bytesOf e) bH) (ja nb (.arr e xs false) (.whole e nb) []))
    | _=> .fail):Rd R).run C hp=some (r,rd)):z9 P A (Oper.mk dst (.call (Go.Call.mk (.value (.func f)) args argTypes)) ty pos after guard) a w I β hp B M w0 r:=by
 cases ha:args.toList with
 | nil=>rw[ha] at h;cases h
 | cons x l=>
  rw[ha] at h
  cases l with
  | cons _ _=>cases h
  | nil=>
   simp only at h
   have e1:args= #[x]:=by rw[←Array.toArray_toList (xs:=args),ha]
   subst e1
   have hx:=hs.ev hg ty x
   obtain ⟨aw,h⟩:=aD h
   have fin: ∀{w1:World} {EJ:Nat→Option Nat},(∀id blk,hp id=some blk→dY P w1 I EJ hp (EJ id) blk)→ah P w1 I EJ hp (a.eval x) (aJ P A.aB ty sl x)→∃xs,(((∃a',a.eval x= .slice a' 0 0)∧xs=[])∨∃a' c news,Row P w1 I e (a.eval x) xs a' c news)∧
     xs.length*P.bytesOf e≤bH∧hp nb=none∧r=⟨.whole e nb,[(nb,.arr e xs false)]⟩:=by
    intro w1 EJ h1 h2
    obtain ⟨xs,lx,l,h⟩:=Ee h1 aw h2 h
    obtain ⟨eM,h⟩:=aD h
    rw[Nat.ble_eq] at eM
    obtain ⟨hn,rfl⟩:=nr h
    exact ⟨xs,lx,eM,hn,rfl⟩
   obtain ⟨c1,t,hu,c2⟩:=hP.oa f e ka
   intro next Q w8
   unfold Oper.wp
   have e2:(execOp a.eval ⟨dst,.call ⟨.value (.func f),#[x],argTypes⟩,ty,pos,after,guard⟩).run P w= .ok (.enter f #[a.eval x]) w:=by
    have fe:a.eval (.func f)= .func (.func f) #[] #[]:=rfl
    simpa[execOp,resolve,fe,Deferred.ofValue,invoke] using c1 #[a.eval x] w
   rw[e2,Oper.upon_enter]
   refine c2 _ w _ (fun Ad=> ?_) (fun b n c wJ=> ?_) ?_
   ·obtain ⟨xs,lx,eM,hn,rfl⟩:=fin S.h.rel hx
    have gB:xs=[]:=by
     rcases lx with ⟨_,h⟩|⟨a,c,news,hr⟩
     ·exact h
     ·have:=hr.val.symm.trans Ad
      cases this
    subst gB
    obtain ⟨a1,a2⟩:=DS S e hn
    exact w8 _ w I _ a.defers a1 a2 (.dP (cY _ _ _) (cY _ _ _)) fun d hd=> .inl hd
   ·obtain ⟨m1,m2⟩:=Za (w':=w.alloc (.cells #[] e)) S (fun b hb=>heap_alloc_old w _ b hb) (by simp) ⟨rfl,rfl⟩
    obtain ⟨xs,lx,eM,hn,rfl⟩:=fin m2.h.rel (hx.mono m1)
    obtain ⟨v,w',ao,a1,a2,a3,a4⟩:=Jj (ty:=t) (a0:=some ⟨w.heap.size,0,none⟩) m2 hu aw hn eM lx
    exact ⟨v,w',a1,w8 v w' I ao a.defers (m1.trans a2) a3 a4 fun d hd=> .inl hd⟩
   ·obtain ⟨xs,lx,eM,hn,rfl⟩:=fin S.h.rel hx
    rcases lx with ⟨⟨b,h⟩,_⟩|⟨b,c,news,hr⟩
    ·rw[h]
     cases b with
     | none=>exact .inl rfl
     | some b=>exact .inr ⟨_,_,_,rfl⟩
    ·exact .inr ⟨_,_,_,hr.val⟩
theorem abb (hP:jk P A) (S:aC P w I β hp B M w0) (hg:gM P A.aB w I) {a:Act} {sl:Nat→V} (hs:kF P w I β hp a sl) {dst:Option Tmp} {ty T0:TypeId} {pos:String} {after:Array Edge} {guard:Option (Nat × Bool)} {f:FuncId}
  {args:Array Operand} {argTypes:Array TypeId} {r:R} {rd:List Nat} (Ae:A.ext f=some T0)
  (h:((match args.toList with
   | [x]=>
    match aJ P A.aB ty sl x with
    | .ptr id i c=>Rd.get id fun
     | some (.var T cs)=> .az (Nat.beq T T0&&(o5 P T&&(Nat.beq cs.length (P.cellsOf T)&&(Nat.beq i 0&&Nat.beq c 0)))) (.ret ⟨.a8 [],[(id,.var T (.undef::cs.tail))]⟩)
     | _=> .fail
    | _=> .fail
   | _=> .fail):Rd R).run C hp=some (r,rd)):z9 P A (Oper.mk dst (.call (Go.Call.mk (.value (.func f)) args argTypes)) ty pos after guard) a w I β hp B M w0 r:=by
 cases ha:args.toList with
 | nil=>rw[ha] at h;cases h
 | cons x l=>
  rw[ha] at h
  cases l with
  | cons _ _=>cases h
  | nil=>
   simp only at h
   have e1:args= #[x]:=by rw[←Array.toArray_toList (xs:=args),ha]
   subst e1
   have hx:=hs.ev hg ty x
   cases fw:aJ P A.aB ty sl x<;>rw[fw] at h hx<;>simp only at h<;>first|(cases h;done)|skip
   rename_i id i c
   obtain ⟨l,h1⟩:=run_get h
   cases aa:hp id with
   | none=>rw[aa] at h1;cases h1
   | some blk=>
    rw[aa] at h1
    cases blk<;>simp only at h1<;>first|(cases h1;done)|skip
    rename_i T cs
    obtain ⟨h2,h3⟩:=aD h1
    simp only[Bool.and_eq_true,Nat.beq_eq] at h2
    obtain ⟨rfl,bP,hlc,rfl,rfl⟩:=h2
    obtain rfl:=aI h3
    obtain ⟨b,hb,he⟩:=hx.gP aa (by simp)
    have hr:=S.h.rel id _ aa
    rw[hb] at hr
    cases hr with
    | @var _ b' Ca _ ay hh aU hI gB gp=>
     cases ay
     have um:a.eval x= .pointer (some ⟨b,0,none⟩):=by rw[he];simp[ag.sz]
     obtain ⟨q1,q2⟩:=hP.ext f T Ae b Ca w hh (aU.trans hlc) (gp bP)
     have h0:0<Ca.size:=by
      rcases gp bP with k|k<;>exact (Array.getElem?_eq_some_iff.1 k).1
     have ou:(V.undef::cs.tail).length=cs.length:=by
      cases cs with
      | nil=>rw[aU] at h0;simp at h0
      | cons _ _=>rfl
     have rel: ∀(C':Array Value),(∀j,0<j→C'[j]? =Ca[j]?)→∀(j:Nat) v y,C'[j]? =some v→(V.undef::cs.tail)[j]? =some y→ah P w I β hp v y:=by
      intro C' wM j v y hj hy
      cases j with
      | zero=>simp at hy;subst hy;exact .undef
      | succ j=>
       rw[wM _ (by omega)] at hj
       refine gB (j+1) v y hj ?_
       cases cs with
       | nil=>rw[aU] at h0;simp at h0
       | cons _ _=>simpa using hy
     have fin: ∀w' C',(∀b',b'≠b→w'.heap[b']? =w.heap[b']?)→w'.heap[b]? =some (.cells C' T (0,0))→C'.size=Ca.size→w.heap.size≤w'.heap.size→w'.os=w.os∧w'.output=w.output→
       (∀j,0<j→C'[j]? =Ca[j]?)→(C'[0]? =some (.pointer none)∨C'[0]? =some (.pointer (some ⟨b,0,none⟩)))→
       Le P w I β hp w' I β (aG hp id (some (.var T (V.undef::cs.tail))))∧aC P w' I β (aG hp id (some (.var T (V.undef::cs.tail)))) B M w0:=by
      intro w' C' k1 k2 k3 k4 k5 k6 k7
      exact DU (w':=w') (blk':= .var T (V.undef::cs.tail)) S aa (by simp) rfl hb hI (by simp) k1 (by rw[ng k2,ng hh,k3]) k4 k5 fun hle=>
       .var rfl k2 (by rw[k3,aU,ou]) hI (fun j v y hj hy=>(rel C' k6 j v y hj hy).mono hle) fun _=>k7
     intro next Q hn
     unfold Oper.wp
     have e2:(execOp a.eval ⟨dst,.call ⟨.value (.func f),#[x],argTypes⟩,ty,pos,after,guard⟩).run P w= .ok (.enter f #[.pointer (some ⟨b,0,none⟩)]) w:=by
      have fe:a.eval (.func f)= .func (.func f) #[] #[]:=rfl
      simpa[execOp,resolve,fe,Deferred.ofValue,invoke,um] using q1
     rw[e2,Oper.upon_enter]
     refine q2.mono fun e w' Ab=> ?_
     obtain ⟨rfl,hw⟩:=Ab
     have QU:Le P w I β hp w' I β (aG hp id (some (.var T (V.undef::cs.tail))))∧aC P w' I β (aG hp id (some (.var T (V.undef::cs.tail)))) B M w0:=by
      rcases hw with rfl|rfl
      ·exact fin w' Ca (fun _ _=>rfl) hh rfl (Nat.le_refl _) ⟨rfl,rfl⟩ (fun _ _=>rfl) (gp bP)
      ·refine fin (w.setCell ⟨b,0,none⟩ (.pointer (some ⟨b,0,none⟩))) (Ca.setIfInBounds 0 (.pointer (some ⟨b,0,none⟩))) (fun b' bN=> ?_) ?_ (by simp) (by simp[World.setCell]) ⟨rfl,rfl⟩ (fun j hj=> ?_) (.inr ?_)
       ·simp only[World.setCell,Array.getElem?_modify]
        rw[if_neg (fun e=>bN e.symm)]
       ·simp[World.setCell,Array.getElem?_modify,hh]
       ·rw[Array.getElem?_setIfInBounds_ne (by omega)]
       ·rw[Array.getElem?_setIfInBounds_self_of_lt h0]
     exact hn (.tuple #[]) w' I β a.defers QU.1 QU.2 (.a8 rfl fun j v y hj _=>by simp at hj) fun d hd=> .inl hd
theorem abc (hC:kN P A C) (hP:jk P A) (S:aC P w I β hp B M w0) (hg:gM P A.aB w I) {a:Act} {sl:Nat→V} (hs:kF P w I β hp a sl) {ix nb:Nat} {o:Oper} {r:R} {rd:List Nat}
  (h:(fJ P A sl ix nb o).run C hp=some (r,rd)):z9 P A o a w I β hp B M w0 r:=by
 cases hc:JF o.op with
 | false=>exact (aaJ S hg hs hc h).step
 | true=>
  obtain ⟨dst,op,ty,pos,after,guard⟩:=o
  cases op<;>simp only[JF] at hc<;>first|(cases hc;done)|skip
  case defer c=>
   obtain ⟨callee,args,argTypes⟩:=c
   cases callee with
   | invoke r m=>simp only[fJ] at h;cases h
   | builtin b=>simp only[fJ] at h;cases h
   | value f=>
   cases f with
   | tmp t=>
    simp only[fJ] at h
    cases bP:sl t<;>rw[bP] at h<;>simp only at h<;>first|(cases h;done)|skip
    rename_i f xs ys
    obtain ⟨h1,h2⟩:=aD h
    obtain rfl:=aI h2
    have hv:=hs t
    rw[bP] at hv
    generalize uu:a.tmps.getD t undef=vt at hv
    cases hv with
    | @fn _ fs cs _ _ q1 q2 q3 q4=>
     intro next Q hn
     unfold Oper.wp
     have fe:a.eval (.tmp t)= .func (.func f) fs cs:=uu
     have e1:(execOp a.eval ⟨dst,.defer ⟨.value (.tmp t),args,argTypes⟩,ty,pos,after,guard⟩).run P w= .ok (.defer {target:= .fn (.func f) cs,args:=fs++args.map a.eval}) w:=by
      simp[execOp,resolve,fe,Deferred.ofValue]
     rw[e1,Oper.upon_defer]
     exact hn undef w I β _ (Le.refl w I β hp) S .undef fun d hd=>by
      rcases List.mem_cons.1 hd with rfl|hd
      ·exact .inr ⟨f,cs,rfl,h1⟩
      ·exact .inl hd
   | func f=>simp only[fJ] at h;cases h
   | const _=>simp only[fJ] at h;cases h
   | global _=>simp only[fJ] at h;cases h
  rename_i c
  obtain ⟨callee,args,argTypes⟩:=c
  cases callee with
  | invoke r m=>cases hc
  | builtin b=>cases hc
  | value f=>
   cases f with
   | func f=>
    simp only[fJ] at h
    cases Ae:A.ext f with
    | some T0=>
     rw[Ae] at h
     simp only at h
     exact abb hP S hg hs Ae h
    | none=>
    rw[Ae] at h
    simp only at h
    cases ka:A.oa f with
    | some e0=>
     rw[ka] at h
     simp only at h
     exact aba hP S hg hs ka h
    | none=>
    rw[ka] at h
    simp only at h
    obtain ⟨h1,h2⟩:=aD h
    rw[Nat.beq_eq] at h1
    obtain ⟨k1,k2⟩:=hs.args hg h1
    refine QR hC hP S hg k1 k2 h2 ?_
    have e1:(args.map a.eval).toList.toArray=args.map a.eval:=Array.toArray_toList
    rw[e1]
    simp[execOp,resolve,Act.eval,Deferred.ofValue,invoke]
   | tmp t=>
    simp only[fJ] at h
    cases bP:sl t<;>rw[bP] at h<;>simp only at h<;>first|(cases h;done)|skip
    rename_i f xs ys
    obtain ⟨h1,h2⟩:=aD h
    rw[Nat.beq_eq] at h1
    obtain ⟨k1,k2⟩:=hs.args hg h1
    have hv:=hs t
    rw[bP] at hv
    generalize uu:a.tmps.getD t undef=vt at hv
    cases hv with
    | @fn _ fs cs _ _ q1 q2 q3 q4=>
     have l1:fs.toList.length=xs.length:=by simpa using q1
     have l3:cs.toList.length=ys.length:=by simpa using q3
     have r1: ∀(j:Nat) v x,fs.toList[j]? =some v→xs[j]? =some x→ah P w I β hp v x:=fun j v x hj hx=>q2 j v x (by simpa using hj) hx
     have r3: ∀(j:Nat) v x,cs.toList[j]? =some v→ys[j]? =some x→ah P w I β hp v x:=fun j v x hj hx=>q4 j v x (by simpa using hj) hx
     refine QR hC hP S hg (vals:=fs.toList++(args.map a.eval).toList++cs.toList) (args:=xs++((args.toList.zip argTypes.toList).map fun p=>aJ P A.aB p.2 sl p.1)++ys) (by simp only[List.length_append];omega) ?_ h2 ?_
     ·exact QT (by simp only[List.length_append];omega) (QT l1 r1 k2) r3
     ·have e1:(fs.toList++(args.map a.eval).toList++cs.toList).toArray=fs++args.map a.eval++cs:=by
       apply Array.toList_inj.1;simp
      rw[e1]
      have fe:a.eval (.tmp t)= .func (.func f) fs cs:=uu
      simp[execOp,resolve,fe,Deferred.ofValue,invoke]
   | _=>cases hc
end
section
variable {P:Program} {A:cF} {w w':World} {I I' I2:Nat→Prop} {μ β ao:Nat→Option Nat} {hp hp':Nat→Option ag} {C:ae} {B:Nat} {M:Nat→Prop} {w0:Start}
structure iL (P:Program) (E:FuncId→Bool) (G:Nat→V) (w:World) (I:Nat→Prop) (β:Nat→Option Nat) (n:Nat) (a:Act) (st:St):Prop where
 sl:kF P w I β st.hp a st.sl
 size:a.tmps.size=n
 defers: ∀d∈a.defers,z8 E d
 aB:gM P G w I
theorem JZ {E:FuncId→Bool} {G:Nat→V} {n:Nat} {a:Act} {st:St} {o:Oper} {v:Value} {x:V} {hp':Nat→Option ag} {ds:List Deferred} (h:iL P E G w I β n a st) (hle:Le P w I β st.hp w' I' ao hp') (hd:sy o n=true)
  (hv:ah P w' I' ao hp' v x) (lf: ∀d∈ds,d∈a.defers∨z8 E d):iL P E G w' I' ao n ({a with defers:=ds}.put o.dst v) ⟨g9 st.sl o.dst x,hp',st.nb⟩:=by
 have QV: ∀d∈ds,z8 E d:=fun d hd=>(lf d hd).elim (h.defers d) id
 cases abd:o.dst with
 | none=>exact ⟨fun k=>(h.sl k).mono hle,h.size,QV,h.aB.mono hle.dp hle.cf⟩
 | some d=>
  have aM:d<a.tmps.size:=by
   unfold sy at hd
   rw[abd] at hd
   rw[h.size]
   simpa using hd
  refine ⟨fun k=> ?_,by simp[Act.put,h.size],QV,h.aB.mono hle.dp hle.cf⟩
  simp only[Act.put,g9,aG]
  cases hb:Nat.beq k d with
  | true=>
   rw[Nat.beq_eq] at hb
   subst hb
   simpa[aM] using hv
  | false=>
   have bN:d≠k:=fun e=>by rw[e,Nat.beq_refl] at hb;cases hb
   have:=(h.sl k).mono hle
   simpa[Array.getElem?_setIfInBounds_ne bN] using this
theorem QW {E:FuncId→Bool} {G:Nat→V} {n:Nat} {a:Act} {st:St} {d:Nat} {b:Bool} (h:iL P E G w I β n a st) (hd:st.sl d= .bool b):a.tmps[d]? =some (.bool b):=by
 have:=h.sl d
 rw[hd] at this
 have:=this.jB
 cases ht:a.tmps[d]? with
 | none=>simp[ht] at this;cases this
 | some v=>simp[ht] at this;rw[this]
theorem abe {x:V} {b:Bool} (h:lg x=some (some b)):x= .bool b:=by
 cases x with
 | bool c=>simp only[lg] at h;injection h with h;injection h with h;rw[h]
 | a8 vs=>cases vs<;>simp[lg] at h
 | _=>simp[lg] at h
theorem abf {x:V} (h:lg x=some none):x= .a8 []:=by
 cases x with
 | a8 vs=>cases vs with
  | nil=>rfl
  | cons _ _=>simp[lg] at h
 | bool c=>simp[lg] at h
 | _=>simp[lg] at h
theorem ah.abg {v:Value} (h:ah P w I β hp v (.a8 [])):v= .tuple #[]:=by
 cases h with
 | @a8 cs _ hs _=>
  have:cs= #[]:=by
   apply Array.eq_empty_of_size_eq_zero
   simpa using hs
  rw[this]
theorem ah.QX:ah P w I β hp Go.undef (.a8 []):= .a8 (by rfl) (fun j v x _ hx=>by simp at hx)
theorem QY (hC:kN P A C) (hP:jk P A) {ops:Array Oper} {n i nb:Nat} {o:Oper} (ho:ops[i]? =some o) {a:Act} {st st':St} {R W:List Nat} (S:aC P w I β st.hp B M w0) (hA:iL P A.idle A.aB w I β n a st)
  (h:gK P A C n ops i o nb st=some (st',R,W)) {K:Act→World→Prop} {Q:Exit→Act→World→Prop}
  (hK: ∀a' w' I' ao,Le P w I β st.hp w' I' ao st'.hp→aC P w' I' ao st'.hp B M w0→iL P A.idle A.aB w' I' ao n a' st'→K a' w'):wpOp P ops Q i K a w:=by
 unfold gK at h
 cases hd:sy o n with
 | false=>rw[hd] at h;cases h
 | true=>
  rw[hd] at h
  simp only[cond_true] at h
  have go: ∀{J0:St} {R W:List Nat},(((fJ P A st.sl i (nb+64*i) o).run C st.hp).bind fun r=>some ((⟨g9 st.sl o.dst r.1.v,bM st.hp r.1.upd,st.nb⟩:St),r.2,r.1.upd.map (·.1)))=some (J0,R,W)→J0=st'→
    o.wp P a w K Q:=by
   intro J0 R W h e
   obtain ⟨⟨r,rd⟩,h1,h2⟩:=bind_some h
   cases h2
   subst e
   exact abc hC hP S hA.aB hA.sl h1 K Q fun v w' I' ao ds k1 k2 k3 k4=>hK _ w' I' ao k1 k2 (JZ hA k1 hd k3 k4)
  unfold wpOp
  rw[ho]
  simp only
  cases hg:o.guard with
  | none=>
   rw[hg] at h
   simp only[Region.wanted,hg,if_true]
   exact .inl (go h rfl)
  | some gw=>
   obtain ⟨g,want⟩:=gw
   rw[hg] at h
   simp only at h
   cases lz:(ops[g]?).bind (·.dst) with
   | none=>rw[lz] at h;cases h
   | some d=>
    rw[lz] at h
    simp only at h
    cases mE:lg (st.sl d) with
    | none=>rw[mE] at h;cases h
    | some ob=>
    rw[mE] at h
    cases ob with
    | none=>
     have wJ:=abf mE
     have hy:yielded ops a.tmps g=none:=by
      unfold yielded
      rw[lz]
      have:=hA.sl d
      rw[wJ] at this
      have hu:=ah.abg this
      simp only[Option.bind_some]
      cases ht:a.tmps[d]? with
      | none=>rfl
      | some v=>simp[ht] at hu;subst hu;rfl
     simp only[Region.wanted,hg,hy]
     injection h with h
     injection h with h3 h4
     subst h3
     have h2:((none:Option Bool)==some want)=false:=rfl
     simp only[h2,Bool.false_eq_true,if_false]
     exact hK _ w I β (Le.refl w I β st.hp) S (JZ (ds:=a.defers) hA (Le.refl w I β st.hp) hd ah.QX fun d h=> .inl h)
    | some b=>
    simp only at h
    have wJ:=abe mE
    have hy:yielded ops a.tmps g=some b:=by
     unfold yielded
     rw[lz]
     simp only[Option.bind_some,QW hA wJ]
    simp only[Region.wanted,hg,hy]
    by_cases hb:b=want
    ·subst hb
     simp only[beq_self_eq_true,cond_true] at h
     simp only[beq_self_eq_true,if_true]
     exact .inl (go h rfl)
    ·have h1:(b==want)=false:=by simp[hb]
     have h2:(some b==some want)=false:=by simp[hb]
     rw[h1] at h
     simp only[cond_false] at h
     injection h with h
     injection h with h3 h4
     subst h3
     simp only[h2,Bool.false_eq_true,if_false]
     exact hK _ w I β (Le.refl w I β st.hp) S (JZ (ds:=a.defers) hA (Le.refl w I β st.hp) hd ah.QX fun d h=> .inl h)
theorem uC {α:Type}: ∀{p:Rd α} {r:α} {rd:List Nat},p.run C hp=some (r,rd)→(∀id∈rd,hp' id=hp id)→p.run C hp'=some (r,rd)
 | .ret a,r,rd,h,_=>h
 | .fail,r,rd,h,_=>by cases h
 | .get id k,r,rd,h,he=>by
  obtain ⟨x,h1,h2⟩:=bind_some h
  cases h2
  have e1:hp' id=hp id:=he id (by simp)
  have:=uC (p:=k (hp id)) (r:=x.1) (rd:=x.2) h1 (fun i hi=>he i (by simp[hi]))
  simp only[Rd.run,e1,this,Option.bind_some]
 | .opt o k,r,rd,h,he=>by
  obtain ⟨x,h1,h2⟩:=bind_some h
  simp only[Rd.run,h1,Option.bind_some]
  exact uC h2 he
 | .az b k,r,rd,h,he=>by
  obtain ⟨h1,h2⟩:=aD h
  simp only[Rd.run,h1,cond_true]
  exact uC h2 he
 | .call key ds k,r,rd,h,he=>by
  obtain ⟨x,h1,h2⟩:=bind_some h
  simp only[Rd.run,h1,Option.bind_some]
  exact uC h2 he
 | .alt true x y,r,rd,h,he=>uC (p:=x) h he
 | .alt false x y,r,rd,h,he=>uC (p:=y) h he
theorem abh {G:Nat→V} {sl sl':Nat→V} {t:TypeId} {x:Operand} (h: ∀k,x= .tmp k→sl k=sl' k):aJ P G t sl x=aJ P G t sl' x:=by
 cases x with
 | tmp k=>exact h k rfl
 | _=>rfl
theorem abi {sl sl':Nat→V} {ix nb:Nat} {o:Oper} (h: ∀x∈o.op.operands,∀k,x= .tmp k→sl k=sl' k):fJ P A sl ix nb o=fJ P A sl' ix nb o:=by
 have fe: ∀t x,x∈o.op.operands→aJ P A.aB t sl x=aJ P A.aB t sl' x:=fun t x hx=>abh (h x hx)
 obtain ⟨dst,op,ty,pos,after,guard⟩:=o
 have QZ: ∀(t:TypeId) (ps:Array (Nat × Operand)),(∀x∈ps.map (·.2),aJ P A.aB t sl x=aJ P A.aB t sl' x)→
   (ps.toList.map fun p=>(p.1,aJ P A.aB t sl p.2))=ps.toList.map fun p=>(p.1,aJ P A.aB t sl' p.2):=fun t ps hp=>
  List.map_congr_left fun p hm=>by rw[hp p.2 (Array.mem_map.2 ⟨p,Array.mem_toList_iff.1 hm,rfl⟩)]
 have abj: ∀(t:TypeId) (ps:Array (Nat × Operand)),(∀x∈ps.map (·.2),aJ P A.aB t sl x=aJ P A.aB t sl' x)→
   (ps.toList.map fun p=>(aJ P A.aB t sl p.2).cells)=ps.toList.map fun p=>(aJ P A.aB t sl' p.2).cells:=fun t ps hp=>
  List.map_congr_left fun p hm=>by rw[hp p.2 (Array.mem_map.2 ⟨p,Array.mem_toList_iff.1 hm,rfl⟩)]
 cases op<;>simp only[Op.operands] at fe<;>simp only[fJ]
 case pick c x y=>rw[fe ty c (by simp),fe ty x (by simp),fe ty y (by simp)]
 case build t ps=>rw[QZ ty ps fun x hx=>fe ty x (by simpa using hx),abj ty ps fun x hx=>fe ty x (by simpa using hx)]
 case buildSlice t len ps=>
  split
  ·rename_i e _
   rw[QZ e ps fun x hx=>fe e x (by simpa using hx)]
  ·rfl
 case slice t x lo hi mx=>
  cases mx with
  | some m=>
   have e1:lo.map (aJ P A.aB 0 sl)=lo.map (aJ P A.aB 0 sl'):=by
    cases lo with
    | none=>rfl
    | some l=>simp only[Option.map_some,fe 0 l (by simp)]
   have e2:hi.map (aJ P A.aB 0 sl)=hi.map (aJ P A.aB 0 sl'):=by
    cases hi with
    | none=>rfl
    | some l=>simp only[Option.map_some,fe 0 l (by simp)]
   have e3:=fe 0 m (by simp)
   simp only[fe ty x (by simp),e1,e2,e3]
  | none=>
   have e1:lo.map (aJ P A.aB 0 sl)=lo.map (aJ P A.aB 0 sl'):=by
    cases lo with
    | none=>rfl
    | some l=>simp only[Option.map_some,fe 0 l (by simp)]
   have e2:hi.map (aJ P A.aB 0 sl)=hi.map (aJ P A.aB 0 sl'):=by
    cases hi with
    | none=>rfl
    | some l=>simp only[Option.map_some,fe 0 l (by simp)]
   simp only[fe ty x (by simp),e1,e2]
 case call c=>
  obtain ⟨callee,args,argTypes⟩:=c
  have uD: ∀t x,x∈args→aJ P A.aB t sl x=aJ P A.aB t sl' x:=fun t x hx=>fe t x (by simp[Call.operands,hx])
  have hl: ∀t (l:List Operand),(∀x∈l,x∈args)→l.map (aJ P A.aB t sl)=l.map (aJ P A.aB t sl'):=fun t l hl=>List.map_congr_left fun x hx=>uD t x (hl x hx)
  have hz:((args.toList.zip argTypes.toList).map fun p=>aJ P A.aB p.2 sl p.1)=(args.toList.zip argTypes.toList).map fun p=>aJ P A.aB p.2 sl' p.1:=
   List.map_congr_left fun p hp=>uD p.2 p.1 (Array.mem_toList_iff.1 (List.of_mem_zip hp).1)
  cases callee with
  | invoke r m=>rfl
  | builtin b=>
   have cg: ∀x∈args.toList,∀t,aJ P A.aB t sl x=aJ P A.aB t sl' x:=fun x hx t=>uD t x (Array.mem_toList_iff.1 hx)
   have EK: ∀t (l:List Operand),(∀x∈l,∀t,aJ P A.aB t sl x=aJ P A.aB t sl' x)→l.map (aJ P A.aB t sl)=l.map (aJ P A.aB t sl'):=fun t l h=>List.map_congr_left fun x hx=>h x hx t
   cases b<;>first|rfl|skip
   case append=>
    dsimp only
    generalize args.toList=al at cg
    match al,cg,argTypes.toList with
    | [s,x],cg,[t,u]=>simp only[cg s (by simp),cg x (by simp)]
    | [],_,_=>rfl
    | [_],_,_=>rfl
    | _::_::_::_,_,_=>rfl
    | [_,_],_,[]=>rfl
    | [_,_],_,[_]=>rfl
    | [_,_],_,_::_::_::_=>rfl
   case copy=>
    dsimp only
    generalize args.toList=al at cg
    match al,cg,argTypes.toList with
    | [s,x],cg,[t,u]=>simp only[cg s (by simp),cg x (by simp)]
    | [],_,_=>rfl
    | [_],_,_=>rfl
    | _::_::_::_,_,_=>rfl
    | [_,_],_,[]=>rfl
    | [_,_],_,[_]=>rfl
    | [_,_],_,_::_::_::_=>rfl
   case len=>
    dsimp only
    generalize args.toList=al at cg
    match al,cg,argTypes.toList with
    | [x],cg,[t]=>simp only[cg x (by simp)]
    | [],_,_=>rfl
    | _::_::_,_,_=>rfl
    | [_],_,[]=>rfl
    | [_],_,_::_::_=>rfl
   case clear=>
    dsimp only
    generalize args.toList=al at cg
    match al,cg,argTypes.toList with
    | [x],cg,[t]=>simp only[cg x (by simp)]
    | [],_,_=>rfl
    | _::_::_,_,_=>rfl
    | [_],_,[]=>rfl
    | [_],_,_::_::_=>rfl
   case unsafeSliceData=>
    dsimp only
    generalize args.toList=al at cg
    match al,cg with
    | [],_=>rfl
    | [x],cg=>simp only[cg x (by simp)]
    | _::_::_,_=>rfl
   case unsafeString=>
    dsimp only
    generalize args.toList=al at cg
    match al,cg,argTypes.toList with
    | [s,x],cg,[t,u]=>simp only[cg s (by simp),cg x (by simp)]
    | [],_,_=>rfl
    | [_],_,_=>rfl
    | _::_::_::_,_,_=>rfl
    | [_,_],_,[]=>rfl
    | [_,_],_,[_]=>rfl
    | [_,_],_,_::_::_::_=>rfl
   case max=>
    dsimp only
    generalize args.toList=al at cg
    match al,cg with
    | [],_=>rfl
    | x::l,cg=>simp only[cg x (by simp),EK ty l (fun y hy=>cg y (by simp[hy]))]
   case min=>
    dsimp only
    generalize args.toList=al at cg
    match al,cg with
    | [],_=>rfl
    | x::l,cg=>simp only[cg x (by simp),EK ty l (fun y hy=>cg y (by simp[hy]))]
  | value f=>
   cases f<;>first|rfl|skip
   ·rename_i t
    have ht:sl t=sl' t:=h (.tmp t) (by simp[Op.operands,Call.operands]) t rfl
    simp only[hz,ht]
   ·simp only[hz]
    cases hx:args.toList with
    | nil=>rfl
    | cons x l=>
     cases l with
     | cons _ _=>rfl
     | nil=>simp only[uD ty x (Array.mem_toList_iff.1 (by rw[hx];simp))]
 case defer c=>
  obtain ⟨callee,args,argTypes⟩:=c
  cases callee with
  | invoke r m=>rfl
  | builtin b=>rfl
  | value f=>
   cases f<;>first|rfl|skip
   rename_i t
   have ht:sl t=sl' t:=h (.tmp t) (by simp[Op.operands,Call.operands]) t rfl
   simp only[ht]
 case makeFunc fn a b=>
  cases fn<;>first|rfl|skip
  have e1:a.toList.map (aJ P A.aB ty sl)=a.toList.map (aJ P A.aB ty sl'):=List.map_congr_left fun x hx=>fe ty x (by simp[Array.mem_toList_iff.1 hx])
  have e2:b.toList.map (aJ P A.aB ty sl)=b.toList.map (aJ P A.aB ty sl'):=List.map_congr_left fun x hx=>fe ty x (by simp[Array.mem_toList_iff.1 hx])
  dsimp only
  rw[e1,e2]
 case makeMap t r=>cases r<;>rfl
 all_goals first
  | rfl
  | (simp[fe];done)
end
section
variable {P:Program} {A:cF} {w w':World} {I I' I2:Nat→Prop} {μ β ao:Nat→Option Nat} {hp hp':Nat→Option ag} {C:ae} {B:Nat} {M:Nat→Prop} {w0:Start}
theorem Q0 {n i nb:Nat} {ops:Array Oper} {o:Oper} {st st':St} {R W:List Nat} (h:gK P A C n ops i o nb st=some (st',R,W)):
  ∃x upd,st'=⟨g9 st.sl o.dst x,bM st.hp upd,st.nb⟩∧W=upd.map (·.1)∧∀eU:St,(∀d∈o.looksAt ops,eU.sl d=st.sl d)→(∀id∈R,eU.hp id=st.hp id)→
   gK P A C n ops i o nb eU=some (⟨g9 eU.sl o.dst x,bM eU.hp upd,eU.nb⟩,R,W):=by
 unfold gK at h
 cases hd:sy o n with
 | false=>rw[hd] at h;cases h
 | true=>
  rw[hd] at h
  simp only[cond_true] at h
  have go:(((fJ P A st.sl i (nb+64*i) o).run C st.hp).bind fun r=>some ((⟨g9 st.sl o.dst r.1.v,bM st.hp r.1.upd,st.nb⟩:St),r.2,r.1.upd.map (·.1)))=some (st',R,W)→
    ∃x upd,st'=⟨g9 st.sl o.dst x,bM st.hp upd,st.nb⟩∧W=upd.map (·.1)∧∀eU:St,(∀d∈o.looksAt ops,eU.sl d=st.sl d)→(∀id∈R,eU.hp id=st.hp id)→
     (((fJ P A eU.sl i (nb+64*i) o).run C eU.hp).bind fun r=>some ((⟨g9 eU.sl o.dst r.1.v,bM eU.hp r.1.upd,eU.nb⟩:St),r.2,r.1.upd.map (·.1)))=some (⟨g9 eU.sl o.dst x,bM eU.hp upd,eU.nb⟩,R,W):=by
   intro h
   obtain ⟨⟨r,rd⟩,h1,h2⟩:=bind_some h
   cases h2
   refine ⟨r.v,r.upd,rfl,rfl,fun eU hs hh=> ?_⟩
   rw[abi (sl':=st.sl) fun x hx k hk=> ?_,uC h1 hh]
   ·rfl
   ·subst hk
    exact hs k (List.mem_append_left _ (List.mem_filterMap.2 ⟨.tmp k,by simpa using hx,rfl⟩))
  cases hg:o.guard with
  | none=>
   rw[hg] at h
   obtain ⟨x,upd,e1,e2,e3⟩:=go h
   refine ⟨x,upd,e1,e2,fun eU hs hh=> ?_⟩
   unfold gK
   simp only[hd,cond_true,hg]
   exact e3 eU hs hh
  | some gw=>
   obtain ⟨g,want⟩:=gw
   rw[hg] at h
   simp only at h
   cases lz:(ops[g]?).bind (·.dst) with
   | none=>rw[lz] at h;cases h
   | some d=>
    rw[lz] at h
    simp only at h
    have J1:d∈o.looksAt ops:=List.mem_append_right _ (by rw[hg];simp[lz])
    cases mE:lg (st.sl d) with
    | none=>rw[mE] at h;cases h
    | some ob=>
    rw[mE] at h
    cases ob with
    | none=>
     injection h with h
     injection h with h3 h4
     injection h4 with h5 h6
     subst h5;subst h6
     refine ⟨.a8 [],[],h3.symm,rfl,fun eU hs hh=> ?_⟩
     unfold gK
     simp only[hd,cond_true,hg,lz,hs d J1,mE]
     rfl
    | some b=>
    simp only at h
    cases hb:b==want with
    | true=>
     rw[hb] at h
     obtain ⟨x,upd,e1,e2,e3⟩:=go h
     refine ⟨x,upd,e1,e2,fun eU hs hh=> ?_⟩
     unfold gK
     simp only[hd,cond_true,hg,lz,hs d J1,mE,hb]
     exact e3 eU hs hh
    | false=>
     rw[hb] at h
     simp only[cond_false] at h
     injection h with h
     injection h with h3 h4
     injection h4 with h5 h6
     subst h5;subst h6
     refine ⟨.a8 [],[],h3.symm,rfl,fun eU hs hh=> ?_⟩
     unfold gK
     simp only[hd,cond_true,hg,lz,hs d J1,mE,hb,cond_false]
     rfl
theorem Q1 {sl:Nat→V} {d:Option Nat} {x:V} {k:Nat} (h:d≠some k):g9 sl d x k=sl k:=by
 cases d with
 | none=>rfl
 | some d=>exact ep _ _ fun e=>h (by rw[e])
theorem abk {hp:Nat→Option ag} {a b:List (Nat × ag)} (h: ∀q∈a,∀q'∈b,q.1≠q'.1):bM (bM hp a) b=bM (bM hp b) a:=by
 funext id
 by_cases ha: ∃q∈a,q.1=id
 ·have hb: ∀q∈b,q.1≠id:=by
   obtain ⟨q,hq,rfl⟩:=ha
   exact fun q' b9 e=>h q hq q' b9 e.symm
  rw[uB hb]
  obtain ⟨q,hq,rfl⟩:=ha
  have same: ∀(bn gN:Nat→Option ag) (l:List (Nat × ag)) (q:Nat × ag),q∈l→bM bn l q.1=bM gN l q.1:=by
   intro bn gN l
   induction l with
   | nil=>intro q hq;simp at hq
   | cons p l ih=>
    intro q hq
    simp only[bM,aG]
    cases hb:Nat.beq q.1 p.1 with
    | true=>rfl
    | false=>
     simp only[cond_false]
     refine ih q ((List.mem_cons.1 hq).resolve_left fun e=> ?_)
     rw[e,Nat.beq_refl] at hb;cases hb
  exact same _ _ a q hq
 ·rw[uB (hp:=bM hp b) (l:=a) fun q hq e=>ha ⟨q,hq,e⟩]
  have same: ∀(bn gN:Nat→Option ag) (l:List (Nat × ag)),bn id=gN id→bM bn l id=bM gN l id:=by
   intro bn gN l he
   induction l with
   | nil=>exact he
   | cons p l ih=>
    simp only[bM,aG]
    cases hb:Nat.beq id p.1 with
    | true=>rfl
    | false=>exact ih
  exact same _ _ b (uB fun q hq e=>ha ⟨q,hq,e⟩)
structure Q2 (ops:Array Oper) (o1 o2:Oper) (R1 W1 R2 W2:List Nat):Prop where
 apart:Oper.apart ops o1 o2=true
 w: ∀id∈W1,id∉R2∧id∉W2
 r: ∀id∈R1,id∉W2
theorem abl {n i j nb:Nat} {ops:Array Oper} {o1 o2:Oper} {st iM eU:St} {R1 W1 R2 W2:List Nat} (h1:gK P A C n ops i o1 nb st=some (iM,R1,W1)) (h2:gK P A C n ops j o2 nb iM=some (eU,R2,W2))
  (hi:Q2 ops o1 o2 R1 W1 R2 W2): ∃EL,gK P A C n ops j o2 nb st=some (EL,R2,W2)∧gK P A C n ops i o1 nb EL=some (eU,R1,W1):=by
 obtain ⟨x1,u1,e1,f1,g1⟩:=Q0 h1
 obtain ⟨x2,u2,e2,f2,g2⟩:=Q0 h2
 obtain ⟨a1,a2,a3⟩:=Oper.apart_spec hi.apart
 subst e1
 refine ⟨_,g2 st (fun d hd=> ?_) (fun id hd=> ?_),?_⟩
 ·simp only
  rw[Q1 fun e=>a1 d e hd]
 ·simp only
  rw[uB fun q hq e=>(hi.w id (by rw[f1];exact List.mem_map.2 ⟨q,hq,e⟩)).1 hd]
 ·rw[g1 _ (fun d hd=> ?_) (fun id hd=> ?_),e2]
  ·congr 3
   ·funext k
    cases hd1:o1.dst with
    | none=>rfl
    | some d1=>
     cases nk:o2.dst with
     | none=>rfl
     | some d2=>
      have bN:d2≠d1:=fun e=>a2 d1 hd1 (by rw[nk,e])
      simp only[g9,aG]
      cases Q3:Nat.beq k d1<;>cases sU:Nat.beq k d2<;>simp only[cond_true,cond_false]
      rw[Nat.beq_eq] at Q3 sU
      exact absurd (sU.symm.trans Q3) bN
   ·exact (abk fun q hq q' b9 e=>(hi.w q.1 (by rw[f1];exact List.mem_map.2 ⟨q,hq,rfl⟩)).2 (by rw[f2];exact List.mem_map.2 ⟨q',b9,e.symm⟩)).symm
  ·simp only
   rw[Q1 fun e=>a3 d e hd]
  ·simp only
   rw[uB fun q hq e=>hi.r id hd (by rw[f2];exact List.mem_map.2 ⟨q,hq,e⟩)]
def w9 (P:Program) (A:cF) (C:ae) (n:Nat) (ops:Array Oper) (nb:Nat):List (Nat × Oper × List Nat × List Nat)→St→St→Prop
 | [],st,st'=>st=st'
 | (i,o,R,W)::l,st,st'=> ∃iM,gK P A C n ops i o nb st=some (iM,R,W)∧w9 P A C n ops nb l iM st'
def uE (x:Nat × Oper × List Nat × List Nat):Nat × List Nat × List Nat:=(x.1,x.2.2.1,x.2.2.2)
theorem Q4 {n nb:Nat} {ops:Array Oper}: ∀{l:List (Nat × Oper)} {st st':St} {log EM:Log},pb P A C n ops nb l st log=some (st',EM)→
  ∃g,g.map (fun x=>(x.1,x.2.1))=l∧EM=log++g.map uE∧w9 P A C n ops nb g st st'
 | [],st,st',log,EM,h=>by
  cases h
  exact ⟨[],rfl,by simp,rfl⟩
 | (i,o)::l,st,st',log,EM,h=>by
  obtain ⟨⟨iM,R,W⟩,h1,h2⟩:=bind_some h
  obtain ⟨g,a,b,c⟩:=Q4 h2
  exact ⟨(i,o,R,W)::g,by simp[a],by simp[b,uE],iM,h1,c⟩
def Q5 (ops:Array Oper) (x y:Nat × Oper × List Nat × List Nat):Prop:=Q2 ops x.2.1 y.2.1 x.2.2.1 x.2.2.2 y.2.2.1 y.2.2.2
theorem Q6 {n nb:Nat} {ops:Array Oper} {y:Nat × Oper × List Nat × List Nat} {g2:List (Nat × Oper × List Nat × List Nat)}: ∀{g1:List (Nat × Oper × List Nat × List Nat)} {st st':St},
  w9 P A C n ops nb (g1++y::g2) st st'→(∀x∈g1,Q5 ops x y)→∃iM,gK P A C n ops y.1 y.2.1 nb st=some (iM,y.2.2.1,y.2.2.2)∧w9 P A C n ops nb (g1++g2) iM st'
 | [],st,st',h,_=>h
 | x::g1,st,st',h,hi=>by
  obtain ⟨iM,h1,h2⟩:=h
  obtain ⟨eU,h3,h4⟩:=Q6 h2 fun z hz=>hi z (List.mem_cons_of_mem _ hz)
  obtain ⟨EL,h5,h6⟩:=abl h1 h3 (hi x (by simp))
  exact ⟨EL,h5,eU,h6,h4⟩
theorem Q7 (hC:kN P A C) (hP:jk P A) {n nb:Nat} {ops:Array Oper} {Q:Exit→Act→World→Prop}: ∀{g:List (Nat × Oper × List Nat × List Nat)} {st st':St} {a:Act} {w:World} {I:Nat→Prop} {β:Nat→Option Nat},
  w9 P A C n ops nb g st st'→(∀x∈g,ops[x.1]? =some x.2.1)→aC P w I β st.hp B M w0→iL P A.idle A.aB w I β n a st→
  (∀a' w' I' ao,Le P w I β st.hp w' I' ao st'.hp→aC P w' I' ao st'.hp B M w0→iL P A.idle A.aB w' I' ao n a' st'→Q .normal a' w')→wpOps P ops Q (g.map (·.1)) a w
 | [],st,st',a,w,I,β,h,_,S,hA,hQ=>by
  cases h
  exact hQ a w I β (Le.refl w I β _) S hA
 | x::g,st,st',a,w,I,β,h,ho,S,hA,hQ=>by
  obtain ⟨iM,h1,h2⟩:=h
  rw[List.map_cons,wpOps_cons]
  refine QY hC hP (ho x (by simp)) S hA h1 fun a' w' I' ao k1 k2 k3=> ?_
  exact Q7 hC hP h2 (fun y hy=>ho y (List.mem_cons_of_mem _ hy)) k2 k3 fun a2 w2 I2 b8 m1 m2 m3=>hQ a2 w2 I2 b8 (k1.trans m1) m2 m3
end
section
variable {P:Program} {A:cF} {w w':World} {I I' I2:Nat→Prop} {μ β ao:Nat→Option Nat} {hp hp':Nat→Option ag} {C:ae} {B:Nat} {M:Nat→Prop} {w0:Start}
inductive uF (ops:Array Oper):Nat→Nat→Prop
 | Q8 {i x:Nat} {o:Oper} {e:Edge}:ops[i]? =some o→e∈o.after→Region.binds .any e=true→e.on=x→uF ops i x
 | trans {i x:Nat} {o:Oper} {e:Edge}:ops[i]? =some o→e∈o.after→Region.binds .any e=true→uF ops e.on x→uF ops i x
theorem Q9 {acc:Array Nat} {x:Nat}: ∀{l:List Edge} {s:Nat},(l.foldl (fun s e=>if Region.binds .any e then s|||2^e.on|||acc.getD e.on 0 else s) s).testBit x=true→
  s.testBit x=true∨∃e∈l,Region.binds .any e=true∧(e.on=x∨(acc.getD e.on 0).testBit x=true)
 | [],s,h=> .inl h
 | e::l,s,h=>by
  simp only[List.foldl_cons] at h
  rcases Q9 h with h1|⟨e',a,b⟩
  ·by_cases hb:Region.binds .any e=true
   ·rw[if_pos hb,Nat.testBit_or,Nat.testBit_or,Bool.or_eq_true,Bool.or_eq_true] at h1
    rcases h1 with (h1|h1)|h1
    ·exact .inl h1
    ·rw[Nat.testBit_two_pow] at h1
     exact .inr ⟨e,by simp,hb,.inl (by simpa using h1)⟩
    ·exact .inr ⟨e,by simp,hb,.inr h1⟩
   ·rw[if_neg hb] at h1
    exact .inl h1
  ·exact .inr ⟨e',List.mem_cons_of_mem _ a,b⟩
theorem Ra {ops:Array Oper} {x:Nat}: ∀{l:List Oper} {acc:Array Nat},(∀j o,l[j]? =some o→ops[acc.size+j]? =some o)→(∀j,(acc.getD j 0).testBit x=true→uF ops j x)→
  ∀j,((l.foldl (fun acc o=>acc.push (o.after.foldl (fun s e=>if Region.binds .any e then s|||2^e.on|||acc.getD e.on 0 else s) 0)) acc).getD j 0).testBit x=true→uF ops j x
 | [],acc,_,EN,j,h=>EN j h
 | o::l,acc,hl,EN,j,h=>by
  simp only[List.foldl_cons] at h
  refine Ra (l:=l) ?_ ?_ j h
  ·intro j o' hj
   have:=hl (j+1) o' (by simpa using hj)
   rw[Array.size_push]
   rwa [show acc.size+1+j=acc.size+(j+1) by omega]
  ·intro k hk
   simp only[Array.getD_eq_getD_getElem?,Array.getElem?_push] at hk
   by_cases uG:k=acc.size
   ·rw[if_pos uG] at hk
    simp only[Option.getD_some] at hk
    rw[←Array.foldl_toList] at hk
    have ho:=hl 0 o rfl
    rw[Nat.add_zero] at ho
    rw[uG]
    have sU:(o.after.toList.foldl (fun s e=>if Region.binds .any e then s|||2^e.on|||acc.getD e.on 0 else s) 0).testBit x=true:=by simpa[Array.getD_eq_getD_getElem?] using hk
    rcases Q9 sU with h0|⟨e,he,hb,h1⟩
    ·simp at h0
    ·rcases h1 with h1|h1
     ·exact .Q8 ho (Array.mem_toList_iff.1 he) hb h1
     ·exact .trans ho (Array.mem_toList_iff.1 he) hb (EN _ h1)
   ·rw[if_neg uG] at hk
    exact EN k (by simpa[Array.getD_eq_getD_getElem?] using hk)
theorem abm {ops:Array Oper} {i x:Nat} (h:((Region.before ops).getD i 0).testBit x=true):uF ops i x:=by
 unfold Region.before at h
 rw[←Array.foldl_toList] at h
 refine Ra (l:=ops.toList) (acc:= #[]) (fun j o hj=>by simpa using hj) (fun j hj=>by simp at hj) i h
def Rb (ops:Array Oper) (listed:Array Bool):Prop:= ∀i o,ops[i]? =some o→listed.getD i false=true→∀e∈o.after,Region.binds .any e=true→listed.getD e.on false=true
theorem abn {ops:Array Oper} {listed:Array Bool} (hc:Rb ops listed) {i x:Nat} (h:uF ops i x) (hi: ∀o,ops[i]? =some o→∀e∈o.after,Region.binds .any e=true→listed.getD e.on false=true):listed.getD x false=true:=by
 induction h with
 | Q8 ho he hb hx=>rw[←hx];exact hi _ ho _ he hb
 | trans ho he hb _ ih=>exact ih fun o' mq e' um ay=>hc _ o' mq (hi _ ho _ he hb) e' um ay
theorem Rc: ∀{l:List Oper} {k j:Nat} {o:Oper},zh k l=true→l[j]? =some o→∀e∈o.after,Region.binds .any e=true→e.on<k+j
 | [],k,j,o,_,h=>by simp at h
 | o'::l,k,j,o,hk,h=>by
  simp only[zh,Bool.and_eq_true] at hk
  cases j with
  | zero=>
   simp at h
   subst h
   intro e he hb
   have:=List.all_eq_true.1 hk.1 e (Array.mem_toList_iff.2 he)
   simp[hb] at this
   omega
  | succ j=>
   intro e he hb
   have:=Rc hk.2 (j:=j) (by simpa using h) e he hb
   omega
theorem Re {ops:Array Oper} {tN:Array Nat}: ∀{l:Log},DI ops tN l=true→l.Pairwise fun x y=>zg ops tN x y=true
 | [],_=> .nil
 | x::l,h=>by
  simp only[DI,Bool.and_eq_true] at h
  exact .cons (fun y hy=>List.all_eq_true.1 h.1 y hy) (Re h.2)
theorem Rf {listed:Array Bool} {i:Nat} (h:listed.getD i true=false):i<listed.size∧listed.getD i false=false:=by
 rcases Nat.lt_or_ge i listed.size with h'|h'
 ·refine ⟨h',?_⟩
  simpa[h'] using h
 ·simp[Array.getElem?_eq_none h'] at h
theorem Rg (hC:kN P A C) (hP:jk P A) {n nb:Nat} {ops:Array Oper} {Q:Exit→Act→World→Prop} (EO:zh 0 ops.toList=true):
  ∀(fuel:Nat) {g:List (Nat × Oper × List Nat × List Nat)} {listed:Array Bool} {st st':St} {a:Act} {w:World} {I:Nat→Prop} {β:Nat→Option Nat},
  g.length=fuel→w9 P A C n ops nb g st st'→(∀x∈g,ops[x.1]? =some x.2.1)→(g.map (·.1)).Pairwise (· < ·)→(g.map uE).Pairwise (fun x y=>zg ops (Region.before ops) x y=true)→
  listed.size=ops.size→(∀i,i<ops.size→(listed.getD i false=false↔i∈g.map (·.1)))→Rb ops listed→
  aC P w I β st.hp B M w0→iL P A.idle A.aB w I β n a st→
  (∀a' w' I' ao,Le P w I β st.hp w' I' ao st'.hp→aC P w' I' ao st'.hp B M w0→iL P A.idle A.aB w' I' ao n a' st'→Q .normal a' w')→wpAny P .any ops Q fuel listed a w
 | 0,g,listed,st,st',a,w,I,β,hf,hr,ho,aM,EP,aU,uH,ka,S,hA,hQ=>by
  obtain rfl:g=[]:=List.eq_nil_of_length_eq_zero hf
  cases hr
  refine ⟨?_,hQ a w I β (Le.refl w I β _) S hA⟩
  rw[List.eq_nil_iff_forall_not_mem]
  intro i hi
  obtain ⟨h0,_⟩:=mem_ready.1 hi
  obtain ⟨h1,h2⟩:=Rf h0
  have:=(uH i (by omega)).1 h2
  simp at this
 | fuel+1,g,listed,st,st',a,w,I,β,hf,hr,ho,aM,EP,aU,uH,ka,S,hA,hQ=>by
  refine ⟨fun Ad=> ?_,fun i hi=> ?_⟩
  ·exfalso
   cases g with
   | nil=>simp at hf
   | cons x g=>
    have hx:=ho x (by simp)
    have gB:x.1<ops.size:=(Array.getElem?_eq_some_iff.1 hx).1
    have fj:x.1∈Region.ready .any ops listed:=by
     rw[mem_ready]
     have h0:=(uH x.1 gB).2 (by simp)
     refine ⟨?_,x.2.1,hx,fun e he hb=> ?_⟩
     ·have hl:x.1<listed.size:=by omega
      simpa[hl] using h0
     ·have Jp:=Rc EO (j:=x.1) (by simpa using hx) e he hb
      rw[Nat.zero_add] at Jp
      cases hle:listed.getD e.on false with
      | true=>rfl
      | false=>
       have hm:=(uH e.on (by omega)).1 hle
       simp only[List.map_cons,List.mem_cons] at hm
       rw[List.map_cons,List.pairwise_cons] at aM
       rcases hm with hm|hm
       ·omega
       ·have:=aM.1 _ hm;omega
    rw[Ad] at fj
    cases fj
  ·obtain ⟨h0,oi,Af,Rh⟩:=mem_ready.1 hi
   obtain ⟨h1,h2⟩:=Rf h0
   have hig:=(uH i (by omega)).1 h2
   obtain ⟨y,hy,hyi⟩:=List.mem_map.1 hig
   obtain ⟨g1,g2,rfl⟩:=List.append_of_mem hy
   subst hyi
   have Ri:=ho y hy
   rw[Af] at Ri
   have Rj:oi=y.2.1:=Option.some.inj Ri
   have kf:((g1++y::g2).map (·.1)).Nodup:=aM.imp fun h=>Nat.ne_of_lt h
   have abo: ∀x∈g1,Q5 ops x y:=by
    intro x hx
    have hp:zg ops (Region.before ops) (uE x) (uE y)=true:=by
     rw[List.map_append,List.map_cons,List.pairwise_append] at EP
     exact EP.2.2 _ (List.mem_map.2 ⟨x,hx,rfl⟩) _ (by simp)
    have Rk:=ho x (List.mem_append.2 (.inl hx))
    unfold zg at hp
    rw[Bool.or_eq_true] at hp
    rcases hp with hp|hp
    ·have hl:=abn ka (abm hp) fun o mq e he hb=>by
      have:o=oi:=by
       have h3:ops[y.1]? =some o:=mq
       rw[Af] at h3
       exact (Option.some.inj h3).symm
      subst this
      exact Rh e he hb
     have gB:x.1<ops.size:=(Array.getElem?_eq_some_iff.1 Rk).1
     have:=(uH x.1 gB).2 (List.mem_map.2 ⟨x,List.mem_append.2 (.inl hx),rfl⟩)
     rw[show (uE x).1=x.1 from rfl,this] at hl
     cases hl
    ·simp only[uE,Array.getD_eq_getD_getElem?,Rk,Af,Option.getD_some,Bool.and_eq_true,Bool.not_eq_true'] at hp
     obtain ⟨q1,q2,q3⟩:=hp
     refine ⟨Rj▸q1,fun id aa=> ?_,fun id aa=>EB q3 aa⟩
     have:=EB q2 aa
     rw[List.mem_append] at this
     exact ⟨fun h=>this (.inl h),fun h=>this (.inr h)⟩
   obtain ⟨iM,jA,mC⟩:=Q6 hr abo
   rw[←Rj] at jA
   refine QY hC hP Af S hA jA fun a' w' I' ao k1 k2 k3=> ?_
   have ij:List.Sublist (g1++g2) (g1++y::g2):=List.Sublist.append_left (List.sublist_cons_self y g2) g1
   have tQ: ∀j,j≠y.1→(listed.setIfInBounds y.1 true).getD j false=listed.getD j false:=fun j hj=>getD_set_ne false (Ne.symm hj)
   refine Rg hC hP EO fuel (g:=g1++g2) (st':=st') ?_ mC (fun x hx=>ho x (ij.subset hx)) (aM.sublist (ij.map _)) (EP.sublist (ij.map _)) (by simp[aU]) (fun j hj=> ?_) (fun j o J2 cZ e he hb=> ?_) k2 k3 fun a2 w2 I2 b8 m1 m2 m3=>hQ a2 w2 I2 b8 (k1.trans m1) m2 m3
   ·simp at hf⊢;omega
   ·by_cases pk:j=y.1
    ·subst pk
     have hl:y.1<listed.size:=by omega
     simp only[Array.getD_eq_getD_getElem?,Array.getElem?_setIfInBounds_self_of_lt hl,Option.getD_some]
     refine ⟨fun h=>(by cases h),fun h=> ?_⟩
     exfalso
     rw[List.map_append,List.map_cons,List.nodup_append,List.nodup_cons] at kf
     rw[List.map_append,List.mem_append] at h
     rcases h with h|h
     ·exact kf.2.2 _ h _ (by simp) rfl
     ·exact kf.2.1.1 h
    ·rw[tQ j pk,uH j hj]
     simp only[List.map_append,List.map_cons,List.mem_append,List.mem_cons]
     constructor
     ·rintro (h|h|h)
      ·exact .inl h
      ·exact absurd h pk
      ·exact .inr h
     ·rintro (h|h)
      ·exact .inl h
      ·exact .inr (.inr h)
   ·by_cases pk:j=y.1
    ·subst pk
     rw[Af] at J2
     cases J2
     exact getD_set_true (Rh e he hb)
    ·rw[tQ j pk] at cZ
     exact getD_set_true (ka j o J2 cZ e he hb)
end
section
variable {P:Program} {A:cF} {w w':World} {I I' I2:Nat→Prop} {μ β ao:Nat→Option Nat} {hp hp':Nat→Option ag} {C:ae} {B:Nat} {M:Nat→Prop} {w0:Start}
theorem Rl: ∀{l:List Oper} {k j:Nat},(oh k l)[j]? =(l[j]?).map fun o=>(k+j,o)
 | [],k,j=>by simp[oh]
 | o::l,k,0=>by simp[oh]
 | o::l,k,j+1=>by
  simp only[oh,List.getElem?_cons_succ,Rl]
  congr 1
  funext o
  rw[show k+1+j=k+(j+1) by omega]
theorem Rm: ∀{l:List Oper} {k:Nat},(oh k l).map (·.1)=List.range' k l.length
 | [],k=>rfl
 | o::l,k=>by simp[oh,Rm,List.range'_succ]
theorem abp (hC:kN P A C) (hP:jk P A) (hm:P.follows .mixedOrders=true) {n id:Nat} {ops:Array Oper} {draw:Bool} {st st':St} {a:Act} {Q:Exit→Act→World→Prop}
  (h:wo P A C n ops draw st=some st') (S:aC P w I β st.hp B M w0) (hA:iL P A.idle A.aB w I β n a st)
  (hQ: ∀a' w' I' ao,Le P w I β st.hp w' I' ao st'.hp→aC P w' I' ao st'.hp B M w0→iL P A.idle A.aB w' I' ao n a' st'→Q .normal a' w'):(Code.region id ops draw).wp P Q a w:=by
 obtain ⟨⟨iM,log⟩,h1,h2⟩:=bind_some h
 obtain ⟨g,g1,g2,g3⟩:=Q4 h1
 have ER:g.map (·.1)=List.range ops.size:=by
  have:g.map (·.1)=(g.map fun x=>(x.1,x.2.1)).map (·.1):=by simp
  rw[this,g1,Rm,List.range_eq_range']
  simp
 have Rn: ∀x∈g,ops[x.1]? =some x.2.1:=by
  intro x hx
  have:(x.1,x.2.1)∈oh 0 ops.toList:=by rw[←g1];exact List.mem_map.2 ⟨x,hx,rfl⟩
  obtain ⟨j,hj⟩:=List.mem_iff_getElem?.1 this
  rw[Rl] at hj
  cases ho:ops.toList[j]? with
  | none=>rw[ho] at hj;cases hj
  | some o=>
   rw[ho] at hj
   simp only[Option.map_some,Nat.zero_add,Option.some.injEq,Prod.mk.injEq] at hj
   rw[←hj.1,←hj.2]
   simpa using ho
 cases draw with
 | false=>
  simp only[Bool.not_false,Bool.true_or,cond_true] at h2
  cases h2
  refine wp_region ?_
  rw[←ER]
  exact Q7 hC hP g3 Rn S hA hQ
 | true=>
  simp only[Bool.not_true,Bool.false_or] at h2
  cases hc:(Region.noSelect ops&&zi ops log) with
  | false=>rw[hc] at h2;cases h2
  | true=>
   rw[hc] at h2
   cases h2
   simp only[Bool.and_eq_true,zi] at hc
   obtain ⟨hns,EO,abq⟩:=hc
   simp only[List.nil_append] at g2
   refine wp_region_any hm ?_
   have hlen:g.length=ops.size:=by
    have:=congrArg List.length ER
    simpa using this
   refine Rg hC hP EO ops.size (g:=g) (st':=st') hlen g3 Rn (by rw[ER];exact List.pairwise_lt_range) (by rw[←g2];exact Re abq) (by simp) (fun i hi=> ?_) (fun i o ho hl=> ?_)
    (w:=w.drew) S.drew ⟨fun k=>(hA.sl k).mono (Le.drew w I β _),hA.size,hA.defers,hA.aB.mono (Le.drew (P:=P) w I β st.hp).dp (Le.drew (P:=P) w I β st.hp).cf⟩ fun a' w' I' ao k1 k2 k3=>hQ a' w' I' ao ((Le.drew w I β _).trans k1) k2 k3
   ·rw[ER]
    simp[hi]
   ·have hi:=(Array.getElem?_eq_some_iff.1 ho).1
    simp[hi] at hl
end
section
variable {P:Program} {A:cF} {E:FuncId→Bool} {G:Nat→V} {w w':World} {I I' I2:Nat→Prop} {μ β ao:Nat→Option Nat} {hp hp':Nat→Option ag} {C:ae} {B:Nat} {M:Nat→Prop} {w0:Start}
theorem uI: ∀{l:List Nat} {hp:Nat→Option ag} {I:Nat→Prop},aC P w I β hp B M w0→∃I',Le P w I β hp w I' β (tM hp l)∧aC P w I' β (tM hp l) B M w0
 | [],hp,I,S=>⟨I,Le.refl w I β hp,S⟩
 | id::l,hp,I,S=>by
  simp only[tM]
  cases aa:hp id with
  | none=>exact uI S
  | some blk=>
   cases blk with
   | dead=>exact uI S
   | var _=>exact uI S
   | map _ _=>exact uI S
   | arr e es fz=>
    obtain ⟨h1,h2⟩:=zx S (upd:=[(id,.arr e es true)]) (fun p hp=>by
     simp only[List.mem_singleton] at hp
     subst hp
     exact ⟨e,es,rfl,.inl ⟨fz,aa⟩⟩)
    obtain ⟨I',h3,h4⟩:=uI (l:=l) h2
    exact ⟨I',h1.trans h3,h4⟩
   | nest e es ai=>
    obtain ⟨h1,h2⟩:=zx S (upd:=[(id,.arr e es true)]) (fun p hp=>by
     simp only[List.mem_singleton] at hp
     subst hp
     exact ⟨e,es,rfl,.inr ⟨ai,aa⟩⟩)
    obtain ⟨I',h3,h4⟩:=uI (l:=l) h2
    exact ⟨I',h1.trans h3,h4⟩
theorem Ro {n m:Nat} {pur:List Nat} {a:Act} {st:St} (S:aC P w I β st.hp B M w0) (hA:iL P E G w I β n a st):
  ∃I',Le P w I β st.hp w I' β (freeze m pur st).hp∧aC P w I' β (freeze m pur st).hp B M w0∧iL P E G w I' β n a (freeze m pur st):=by
 obtain ⟨I',h1,h2⟩:=uI (l:=(OU st pur).filter fun id=>Nat.ble m id) S
 exact ⟨I',h1,h2,fun k=>(hA.sl k).mono h1,hA.size,hA.defers,hA.aB.mono h1.dp h1.cf⟩
structure xb (hp:Nat→Option ag) (β:Nat→Option Nat) (ord:List Nat) (hp':Nat→Option ag) (ao:Nat→Option Nat):Prop where
 arr: ∀(j:Nat) id e es fz,ord[j]? =some id→hp id=some (.arr e es fz)→hp' j=some (.arr e es fz)
 var: ∀(j:Nat) id T cs,ord[j]? =some id→hp id=some (.var T cs)→∃ig,hp' j=some (.var T ig)
 dead: ∀(j:Nat) id,ord[j]? =some id→hp id=some .dead→hp' j=some .dead
 place: ∀(j:Nat) id,ord[j]? =some id→ao j=β id
 nest: ∀(j:Nat) id e es ai,ord[j]? =some id→hp id=some (.nest e es ai)→hp' j=some (.nest e es (ai.map fun _=>0))
 map: ∀(j:Nat) id t es,ord[j]? =some id→hp id=some (.map t es)→hp' j=some (.map t es)
theorem lA: ∀{l:List Nat} {n i j:Nat},hG l n i=some j→∃k,j=i+k∧l[k]? =some n
 | [],n,i,j,h=>by cases h
 | a::l,n,i,j,h=>by
  simp only[hG] at h
  cases hb:Nat.beq n a with
  | true=>
   rw[hb] at h
   cases h
   rw[Nat.beq_eq] at hb
   exact ⟨0,rfl,by rw[hb];rfl⟩
  | false=>
   rw[hb] at h
   obtain ⟨k,h1,h2⟩:=lA h
   exact ⟨k+1,by omega,by simpa using h2⟩
def kO (hp':Nat→Option ag) (ao:Nat→Option Nat) (n:Nat) (bs:List ag):Prop:=
 ∀(k:Nat) b,bs[k]? =some b→hp' (n+k)=some b∧ao (n+k)=none
theorem J3: ∀(ai:List Nat) (k:Nat),bA (ai.map fun _=>0) k=0
 | [],_=>rfl
 | _::_,0=>rfl
 | _::vs,k+1=>J3 vs k
theorem Rp {e:TypeId} {es:List V} {ai:List Nat} {path:Path} {ver:Nat} (hc:(Nat.blt 0 path.length&&(Nat.ble path.length ai.length&&Nat.beq (bA ai (path.length-1)) ver))=true)
  (h:(ag.nest e es ai).tR path ver):False:=by
 simp only[Bool.and_eq_true,Nat.blt_eq,Nat.ble_eq,Nat.beq_eq] at hc
 obtain ⟨h1,h2,h3⟩:=hc
 rcases h with h|h|h
 ·subst h;simp at h1
 ·omega
 ·omega
theorem Rq (S:aC P w I β hp B M w0) {ord:List Nat} (hR:xb hp β ord hp' ao) {v:Value} {x:V} (hv:ah P w I β hp v x):ah P w I ao hp' v (hO hp ord x):=by
 cases hv with
 | undef=>exact .undef
 | int=>exact .int
 | bool=>exact .bool
 | str h=>exact .str h
 | list h=>exact .list h
 | nilS=>exact .nilS
 | agg=>exact .undef
 | a8=>exact .undef
 | dw=>exact .dw
 | fn=>exact .undef
 | pref a b c=>exact .pref a b c
 | @ej _ e id aa=>
  simp only[hO]
  cases bn:hG ord id 0 with
  | none=>simp only[aa];exact .undef
  | some j=>
   obtain ⟨k,rfl,hk⟩:=lA bn
   exact .ej (hR.dead _ id (by simpa using hk) aa)
 | @gm _ e id off len aa=>
  simp only[hO]
  cases bn:hG ord id 0 with
  | none=>simp only[aa];exact .undef
  | some j=>
   obtain ⟨k,rfl,hk⟩:=lA bn
   exact .gm (hR.dead _ id (by simpa using hk) aa)
 | @j4 _ id i c aa=>
  simp only[hO]
  cases bn:hG ord id 0 with
  | none=>exact .undef
  | some j=>
   obtain ⟨k,rfl,hk⟩:=lA bn
   exact .j4 (hR.dead _ id (by simpa using hk) aa)
 | @dP e id fz _ aa hb=>
  simp only[hO]
  cases bn:hG ord id 0 with
  | none=>
   simp only[aa]
   cases fz with
   | false=>exact .undef
   | true=>simp only[Nat.beq_refl,cond_true];exact .list (.any fun _=>rfl)
  | some j=>
   obtain ⟨k,rfl,hk⟩:=lA bn
   have dy:ord[0+k]? =some id:=by simpa using hk
   exact .dP (hR.arr _ id _ _ _ dy aa) ((hR.place _ id dy).trans hb)
 | @whole e id es fz b cap aa hb aU cd hm=>
  simp only[hO]
  cases bn:hG ord id 0 with
  | none=>
   simp only[aa]
   cases fz with
   | false=>exact .undef
   | true=>
    simp only[Nat.beq_refl,cond_true]
    have hr:=S.h.rel id _ aa
    cases hr with
    | dQ ay=>rw[ay] at hb;cases hb
    | arr aw ay hh hs hf eo hx=>
     rw[hb] at ay;cases ay
     have:=tX (I':=I) (off:=0) (len:=es.length) (o:=0) hh hx (fL aw) (by omega) cd (fun _=>by simp) (fun _ h=>h) (hf rfl)
     exact .list (by simpa using this)
  | some j=>
   obtain ⟨k,rfl,hk⟩:=lA bn
   have dy:ord[0+k]? =some id:=by simpa using hk
   exact .whole (hR.arr _ id _ _ _ dy aa) ((hR.place _ id dy).trans hb) aU cd hm
 | @fY e id fz _ aa hb=>
  simp only[hO]
  cases bn:hG ord id 0 with
  | none=>
   simp only[aa]
   cases fz with
   | false=>exact .undef
   | true=>simp only[Nat.beq_refl,cond_true];exact .list (by simpa using (iD.any (P:=P) fun _=>rfl))
  | some j=>
   obtain ⟨k,rfl,hk⟩:=lA bn
   have dy:ord[0+k]? =some id:=by simpa using hk
   exact .fY (hR.arr _ id _ _ _ dy aa) ((hR.place _ id dy).trans hb)
 | @sub e id off len es fz b o cap aa hb jf cd ho=>
  simp only[hO]
  cases bn:hG ord id 0 with
  | none=>
   simp only[aa]
   cases fz with
   | false=>exact .undef
   | true=>
    simp only[Nat.beq_refl,cond_true]
    have hr:=S.h.rel id _ aa
    cases hr with
    | dQ ay=>rw[ay] at hb;cases hb
    | arr aw ay hh hs hf eo hx=>
     rw[hb] at ay;cases ay
     exact .list (tX (I':=I) hh hx (fL aw) jf cd ho (fun _ h=>h) (hf rfl))
  | some j=>
   obtain ⟨k,rfl,hk⟩:=lA bn
   have dy:ord[0+k]? =some id:=by simpa using hk
   exact .sub (hR.arr _ id _ _ _ dy aa) ((hR.place _ id dy).trans hb) jf cd ho
 | @ptr id i c b blk aa hd hb=>
  simp only[hO]
  cases bn:hG ord id 0 with
  | none=>exact .undef
  | some j=>
   obtain ⟨k,rfl,hk⟩:=lA bn
   have dy:ord[0+k]? =some id:=by simpa using hk
   cases blk with
   | dead=>exact absurd rfl hd
   | var T0 cs=>
    obtain ⟨ig,h'⟩:=hR.var _ id T0 cs dy aa
    exact .ptr (blk:= .var T0 ig) h' (by simp) ((hR.place _ id dy).trans hb)
   | arr e es fz=>exact .ptr (blk:= .arr e es fz) (hR.arr _ id _ _ _ dy aa) (by simp) ((hR.place _ id dy).trans hb)
   | nest e es ai=>exact .ptr (blk:= .nest e es (ai.map fun _=>0)) (hR.nest _ id _ _ _ dy aa) (by simp) ((hR.place _ id dy).trans hb)
   | map t es=>exact .ptr (blk:= .map t es) (hR.map _ id _ _ dy aa) (by simp) ((hR.place _ id dy).trans hb)
 | dm=>exact .dm
 | @ib _ t id aa=>
  simp only[hO]
  cases bn:hG ord id 0 with
  | none=>exact .undef
  | some j=>
   obtain ⟨k,rfl,hk⟩:=lA bn
   exact .ib (hR.dead _ id (by simpa using hk) aa)
 | @bL t id b es aa hb=>
  simp only[hO]
  cases bn:hG ord id 0 with
  | none=>exact .undef
  | some j=>
   obtain ⟨k,rfl,hk⟩:=lA bn
   have dy:ord[0+k]? =some id:=by simpa using hk
   exact .bL (hR.map _ id _ _ dy aa) ((hR.place _ id dy).trans hb)
 | @eB e id es ai b cap aa hb aU cd hm=>
  simp only[hO]
  cases bn:hG ord id 0 with
  | none=>simp only[aa];exact .undef
  | some j=>
   obtain ⟨k,rfl,hk⟩:=lA bn
   have dy:ord[0+k]? =some id:=by simpa using hk
   exact .eB (hR.nest _ id _ _ _ dy aa) ((hR.place _ id dy).trans hb) aU cd hm
 | @jw v e id ver path blk aa zu=>
  simp only[hO]
  split
  ·rename_i j e1 cm ai h1 h2
   rw[aa] at h2
   cases h2
   cases hc:(Nat.blt 0 path.length&&(Nat.ble path.length ai.length&&Nat.beq (bA ai (path.length-1)) ver)) with
   | false=>exact .undef
   | true=>exact (Rp hc zu).elim
  ·exact .undef
 | @jx v id ver i c path blk aa zu=>
  simp only[hO]
  split
  ·rename_i j e1 cm ai h1 h2
   rw[aa] at h2
   cases h2
   cases hc:(Nat.blt 0 path.length&&(Nat.ble path.length ai.length&&Nat.beq (bA ai (path.length-1)) ver)) with
   | false=>exact .undef
   | true=>exact (Rp hc zu).elim
  ·exact .undef
 | @row v e e0 t id ver b i c q es l ai aa hb hq hv ht hc=>
  simp only[hO]
  split
  ·rename_i j e1 cm uA h1 h2
   obtain ⟨k,rfl,hk⟩:=lA h1
   have dy:ord[0+k]? =some id:=by simpa using hk
   cases hx:(Nat.blt 0 (q++[(i,c)]).length&&(Nat.ble (q++[(i,c)]).length uA.length&&Nat.beq (bA uA ((q++[(i,c)]).length-1)) ver)) with
   | false=>exact .undef
   | true=>exact .row (hR.nest _ id _ _ _ dy aa) ((hR.place _ id dy).trans hb) (by simpa using hq) (J3 _ _) ht hc
  ·exact .undef
 | @cE e e0 t id ver b b1 len cap i0 c0 i c q es l ai aa hb hq hv ht mo hc=>
  simp only[hO]
  split
  ·rename_i j e1 cm uA h1 h2
   obtain ⟨k,rfl,hk⟩:=lA h1
   have dy:ord[0+k]? =some id:=by simpa using hk
   cases hx:(Nat.blt 0 (q++[(i0,c0)]).length&&(Nat.ble (q++[(i0,c0)]).length uA.length&&Nat.beq (bA uA ((q++[(i0,c0)]).length-1)) ver)) with
   | false=>exact .undef
   | true=>exact .cE (hR.nest _ id _ _ _ dy aa) ((hR.place _ id dy).trans hb) (by simpa using hq) (J3 _ _) ht mo hc
  ·exact .undef
theorem Rr (S:aC P w I β hp B M w0) {ord:List Nat} (hR:xb hp β ord hp' ao) {vs:Array Value} {xs:List V} (h: ∀(j:Nat) v x,vs[j]? =some v→xs[j]? =some x→ah P w I β hp v x) (j:Nat) (v:Value) (y:V)
  (hv:vs[j]? =some v) (hy:(xs.map (hO hp ord))[j]? =some y):ah P w I ao hp' v y:=by
 rw[List.getElem?_map] at hy
 cases hx:xs[j]? with
 | none=>rw[hx] at hy;cases hy
 | some x=>rw[hx] at hy;cases hy;exact Rq S hR (h j v x hv hx)
theorem Rs (S:aC P w I β hp B M w0) {ord:List Nat} (hR:xb hp β ord hp' ao) {n:Nat} {v:Value} {x:V} (hv:ah P w I β hp v x) (hF:kO hp' ao n (wk hp ord n x).2):
  ah P w I ao hp' v (wk hp ord n x).1:=by
 cases x with
 | nilS e=>
  obtain ⟨h1,h2⟩:=hF 0 _ rfl
  cases hv with
  | nilS=>exact .dP h1 h2
 | fn f a b=>
  cases hv with
  | fn q1 q2 q3 q4=>exact .fn (by simpa using q1) (Rr S hR q2) (by simpa using q3) (Rr S hR q4)
 | _=>exact Rq S hR hv
end
section
variable {P:Program} {A:cF} {w w':World} {I I' I2:Nat→Prop} {μ β ao:Nat→Option Nat} {hp hp':Nat→Option ag} {C:ae} {B:Nat} {M:Nat→Prop} {w0:Start}
theorem kO.left {n:Nat} {a b:List ag} (h:kO hp' ao n (a++b)):kO hp' ao n a:=fun k x hx=>
 h k x (by rw[List.getElem?_append_left (List.getElem?_eq_some_iff.1 hx).1];exact hx)
theorem kO.right {n:Nat} {a b:List ag} (h:kO hp' ao n (a++b)):kO hp' ao (n+a.length) b:=fun k x hx=>by
 have:=h (a.length+k) x (by rw[List.getElem?_append_right (by omega),Nat.add_sub_cancel_left];exact hx)
 rwa [←Nat.add_assoc] at this
def mF (bs:List ag):Prop:= ∀b∈bs,∃e,b= .arr e [] false
theorem mF.app {a b:List ag} (h1:mF a) (h2:mF b):mF (a++b):=fun x hx=>(List.mem_append.1 hx).elim (h1 x) (h2 x)
theorem mF.nil:mF []:=fun x hx=>by simp at hx
theorem Rt {ord:List Nat} {n:Nat} {x:V}:mF (wk hp ord n x).2:=by
 cases x<;>simp only[wk]<;>first|exact .nil|skip
 intro b hb
 simp only[List.mem_singleton] at hb
 exact ⟨_,hb⟩
theorem J4 {ord:List Nat}: ∀{xs:List V} {n:Nat},mF (nd hp ord n xs).2
 | [],n=> .nil
 | x::xs,n=>by
  simp only[nd]
  exact Rt.app J4
theorem ES {ord:List Nat}: ∀{xs:List V} {n:Nat},(nd hp ord n xs).1.length=xs.length
 | [],n=>rfl
 | x::xs,n=>by simp only[nd,List.length_cons,ES]
theorem ET (S:aC P w I β hp B M w0) {ord:List Nat} (hR:xb hp β ord hp' ao): ∀{xs:List V} {vs:List Value} {n:Nat},(∀(j:Nat) v x,vs[j]? =some v→xs[j]? =some x→ah P w I β hp v x)→
  kO hp' ao n (nd hp ord n xs).2→∀(j:Nat) v y,vs[j]? =some v→(nd hp ord n xs).1[j]? =some y→ah P w I ao hp' v y
 | [],vs,n,h,hF,j,v,y,hv,hy=>by simp[nd] at hy
 | x::xs,vs,n,h,hF,j,v,y,hv,hy=>by
  simp only[nd] at hF hy
  cases j with
  | zero=>
   simp at hy
   subst hy
   exact Rs S hR (h 0 v x hv rfl) hF.left
  | succ j=>
   cases vs with
   | nil=>simp at hv
   | cons v0 vs=>exact ET S hR (vs:=vs) (fun j v x hj hx=>h (j+1) v x (by simpa using hj) (by simpa using hx)) hF.right j v y (by simpa using hv) (by simpa using hy)
theorem abr {ord:List Nat} {n:Nat} {x:V}:mF (qk hp ord n x).2:=by
 cases x<;>simp only[qk]<;>first|exact Rt|exact J4
theorem abt (S:aC P w I β hp B M w0) {ord:List Nat} (hR:xb hp β ord hp' ao) {n:Nat} {v:Value} {x:V} (hv:ah P w I β hp v x) (hF:kO hp' ao n (qk hp ord n x).2):
  ah P w I ao hp' v (qk hp ord n x).1:=by
 cases x with
 | agg cs=>
  obtain ⟨ds,rfl,h1,h2⟩:=hv.kH
  simp only[qk] at hF⊢
  exact .agg (by rw[ES];exact h1) fun j v y hj hy=>ET S hR (vs:=ds.toList) (fun j v x hj hx=>h2 j v x (by simpa using hj) hx) hF j v y (by simpa using hj) hy
 | a8 cs=>
  obtain ⟨ds,rfl,h1,h2⟩:=hv.ub
  simp only[qk] at hF⊢
  exact .a8 (by rw[ES];exact h1) fun j v y hj hy=>ET S hR (vs:=ds.toList) (fun j v x hj hx=>h2 j v x (by simpa using hj) hx) hF j v y (by simpa using hj) hy
 | _=>exact Rs S hR hv hF
theorem Ru {ord:List Nat} {sl:Nat→V}: ∀{l:List Nat} {n:Nat},mF (lk hp ord sl n l).2
 | [],n=> .nil
 | s::l,n=>by
  simp only[lk]
  exact abr.app Ru
theorem Rv {ord:List Nat} {sl:Nat→V} {k:Nat} {y:V}: ∀{l:List Nat} {n:Nat},kO hp' ao n (lk hp ord sl n l).2→dO (lk hp ord sl n l).1 k=some y→
  ∃n',kO hp' ao n' (qk hp ord n' (sl k)).2∧y=(qk hp ord n' (sl k)).1
 | [],n,_,h=>by cases h
 | s::l,n,hF,h=>by
  simp only[lk] at hF h
  simp only[dO] at h
  cases hb:Nat.beq k s with
  | true=>
   rw[hb] at h
   rw[Nat.beq_eq] at hb
   subst hb
   cases h
   exact ⟨n,hF.left,rfl⟩
  | false=>
   rw[hb] at h
   exact Rv hF.right h
theorem abu {ord:List Nat} {n id:Nat}:mF (fa hp ord n id).2:=by
 unfold fa
 split
 ·exact J4
 ·exact .nil
 ·exact .nil
 ·exact .nil
 ·exact .nil
theorem Rw {ord:List Nat}: ∀{l:List Nat} {n:Nat},mF (fK hp ord n l).2
 | [],n=> .nil
 | s::l,n=>by
  simp only[fK]
  exact abu.app Rw
theorem Rx {ord:List Nat}: ∀{l:List Nat} {n:Nat},(fK hp ord n l).1.length=l.length
 | [],n=>rfl
 | x::xs,n=>by simp only[fK,List.length_cons,Rx]
theorem Ry {ord:List Nat}: ∀{l:List Nat} {n j:Nat} {id:Nat},l[j]? =some id→∃n',(kO hp' ao n (fK hp ord n l).2→kO hp' ao n' (fa hp ord n' id).2)∧(fK hp ord n l).1[j]? =some (fa hp ord n' id).1
 | [],n,j,id,h=>by simp at h
 | s::l,n,j,id,h=>by
  simp only[fK]
  cases j with
  | zero=>
   simp at h
   subst h
   exact ⟨n,fun hF=>hF.left,rfl⟩
  | succ j=>
   obtain ⟨n',h1,h2⟩:=Ry (n:=n+(fa hp ord n s).2.length) (j:=j) (by simpa using h)
   exact ⟨n',fun hF=>h1 hF.right,by simpa using h2⟩
theorem EU: ∀{l acc:List Nat},∃t,tL hp acc l=acc++t∧(acc.Nodup→(acc++t).Nodup)
 | [],acc=>⟨[],by simp[tL],by simp⟩
 | id::l,acc=>by
  simp only[tL]
  cases hb:(jT acc id|| !(Iy hp id)) with
  | true=>exact EU
  | false=>
   obtain ⟨t,h1,h2⟩:=EU (l:=l) (acc:=acc++[id])
   refine ⟨id::t,by simp only[cond_false,h1,List.append_assoc,List.singleton_append],fun hn=> ?_⟩
   have:acc++id::t=(acc++[id])++t:=by simp
   rw[this]
   refine h2 ?_
   rw[List.nodup_append]
   refine ⟨hn,by simp,fun a ha b ay=> ?_⟩
   simp only[List.mem_singleton] at ay
   subst ay
   intro e
   subst e
   rw[wG ha] at hb
   cases hb
theorem Rz: ∀{n:Nat} {l:List Nat},∃t,grow hp n l=l++t∧(l.Nodup→(l++t).Nodup)
 | 0,l=>⟨[],by simp[grow],by simp⟩
 | n+1,l=>by
  simp only[grow]
  obtain ⟨t,h1,h2⟩:=EU (hp:=hp) (acc:=l) (l:=l.flatMap (Iz hp))
  rw[h1]
  obtain ⟨t',h3,h4⟩:=Rz (n:=n) (l:=l++t)
  exact ⟨t++t',by rw[h3,List.append_assoc],fun hn=>by rw[←List.append_assoc];exact h4 (h2 hn)⟩
theorem abv {m:Nat} {live:List Nat} {st:St}: ∃t,IA m live st=List.range m++t∧(List.range m++t).Nodup:=by
 unfold IA
 obtain ⟨t,h1,h2⟩:=EU (hp:=st.hp) (acc:=List.range m) (l:=live.flatMap fun s=>Ix (st.sl s))
 rw[h1]
 obtain ⟨t',h3,h4⟩:=Rz (hp:=st.hp) (n:=3) (l:=List.range m++t)
 exact ⟨t++t',by rw[h3,List.append_assoc],by rw[←List.append_assoc];exact h4 (h2 List.nodup_range)⟩
end
section
variable {P:Program} {A:cF} {E:FuncId→Bool} {G:Nat→V} {w w':World} {I I' I2:Nat→Prop} {μ β ao:Nat→Option Nat} {hp hp' hp0:Nat→Option ag} {C:ae} {B:Nat} {M:Nat→Prop} {w0:Start}
theorem RA {n m:Nat} {ord live:List Nat} {a:Act} {st:St} (nj:ord.Nodup) (Ag: ∀id,id<m→ord[id]? =some id∨∃p,ord[id]? =some p∧st.hp p=none) (S:aC P w I β st.hp B M w0) (hA:iL P E G w I β n a st) (hE:kM w0.w w0.I μ hp0 w I β st.hp) (hm: ∀id blk,hp0 id=some blk→id<m) (jl: ∀id e es ai,hp0 id=some (.nest e es ai)→∀k,bA ai k=0):
  ∃ao,aC P w I ao (wm ord live st).hp B M w0∧iL P E G w I ao n a (wm ord live st)∧kM w0.w w0.I μ hp0 w I ao (wm ord live st).hp:=by
 have abw:wm ord live st=mk (lk st.hp ord st.sl (ord.length+(fK st.hp ord ord.length ord).2.length) live).1
   ((fK st.hp ord ord.length ord).1++((fK st.hp ord ord.length ord).2++(lk st.hp ord st.sl (ord.length+(fK st.hp ord ord.length ord).2.length) live).2)):=by
  rfl
 rw[abw]
 let hp':=jv ((fK st.hp ord ord.length ord).1++((fK st.hp ord ord.length ord).2++(lk st.hp ord st.sl (ord.length+(fK st.hp ord ord.length ord).2.length) live).2))
 let ao:Nat→Option Nat:=fun j=>if j<ord.length then (ord[j]?).bind β else none
 have hlen:(fK st.hp ord ord.length ord).1.length=ord.length:=Rx
 have iJ: ∀j,j<ord.length→hp' j=(fK st.hp ord ord.length ord).1[j]? :=by
  intro j hj
  simp only[hp',gR]
  rw[List.getElem?_append_left (by omega)]
 have gQ: ∀k,hp' (ord.length+k)=((fK st.hp ord ord.length ord).2++(lk st.hp ord st.sl (ord.length+(fK st.hp ord ord.length ord).2.length) live).2)[k]? :=by
  intro k
  simp only[hp',gR]
  rw[List.getElem?_append_right (by omega),hlen,Nat.add_sub_cancel_left]
 have hF:kO hp' ao ord.length ((fK st.hp ord ord.length ord).2++(lk st.hp ord st.sl (ord.length+(fK st.hp ord ord.length ord).2.length) live).2):=by
  intro k b hb
  refine ⟨(gQ k).trans hb,?_⟩
  simp only[ao]
  rw[if_neg (by omega)]
 have Ad:mF ((fK st.hp ord ord.length ord).2++(lk st.hp ord st.sl (ord.length+(fK st.hp ord ord.length ord).2.length) live).2):=Rw.app Ru
 have oD: ∀(j:Nat) id,ord[j]? =some id→ao j=β id:=by
  intro j id hj
  simp only[ao]
  rw[if_pos (List.getElem?_eq_some_iff.1 hj).1,hj]
  rfl
 have qM: ∀(j:Nat) id,ord[j]? =some id→∃n',kO hp' ao n' (fa st.hp ord n' id).2∧hp' j=some (fa st.hp ord n' id).1:=by
  intro j id hj
  obtain ⟨n',h1,h2⟩:=Ry (hp:=st.hp) (hp':=hp') (ao:=ao) (ord:=ord) (n:=ord.length) hj
  exact ⟨n',h1 hF.left,(iJ j (List.getElem?_eq_some_iff.1 hj).1).trans h2⟩
 have hR:xb st.hp β ord hp' ao:=by
  refine ⟨fun j id e es fz hj aa=> ?_,fun j id T cs hj aa=> ?_,fun j id hj aa=> ?_,oD,fun j id e es ai hj aa=> ?_,fun j id t es hj aa=> ?_⟩
  ·obtain ⟨n',_,h2⟩:=qM j id hj
   rw[h2];simp only[fa,aa]
  ·obtain ⟨n',_,h2⟩:=qM j id hj
   rw[h2];simp only[fa,aa];exact ⟨_,rfl⟩
  ·obtain ⟨n',_,h2⟩:=qM j id hj
   rw[h2];simp only[fa,aa]
  ·obtain ⟨n',_,h2⟩:=qM j id hj
   rw[h2];simp only[fa,aa]
  ·obtain ⟨n',_,h2⟩:=qM j id hj
   rw[h2];simp only[fa,aa]
 have cls: ∀j blk',hp' j=some blk'→(∃id,ord[j]? =some id∧((blk'= .dead)∨∃blk,st.hp id=some blk∧blk≠ .dead∧∀o b,bt P w o blk' b→bt P w o blk b))∨(∃e,blk'= .arr e [] false∧ao j=none):=by
  intro j blk' hj
  rcases Nat.lt_or_ge j ord.length with h|h
  ·have gA:=List.getElem?_eq_getElem h
   obtain ⟨n',_,h2⟩:=qM j _ gA
   rw[hj] at h2
   refine .inl ⟨_,gA,?_⟩
   cases aa:st.hp ord[j] with
   | none=>left;simp only[fa,aa] at h2;exact Option.some.inj h2
   | some blk=>
    cases blk with
    | dead=>left;simp only[fa,aa] at h2;exact Option.some.inj h2
    | var T0 cs=>exact .inr ⟨_,rfl,by simp,fun o b h=>by simp only[fa,aa] at h2;rw[Option.some.inj h2] at h;exact .root (by simp) (h.flat (by simp))⟩
    | arr e es fz=>exact .inr ⟨_,rfl,by simp,fun o b h=>by simp only[fa,aa] at h2;rw[Option.some.inj h2] at h;exact .root (by simp) (h.flat (by simp))⟩
    | map t es=>exact .inr ⟨_,rfl,by simp,fun o b h=>by simp only[fa,aa] at h2;rw[Option.some.inj h2] at h;exact .root (by simp) (h.flat (by simp))⟩
    | nest e es ai=>
     refine .inr ⟨_,rfl,by simp,fun o b h=> ?_⟩
     simp only[fa,aa] at h2
     rw[Option.some.inj h2] at h
     cases h with
     | root _ h=>exact .root (by simp) h
     | row h1 h2=>exact .row h1 h2
  ·obtain ⟨k,rfl⟩: ∃k,j=ord.length+k:=⟨j-ord.length,by omega⟩
   rw[gQ] at hj
   obtain ⟨e,he⟩:=Ad _ (List.mem_of_getElem? hj)
   exact .inr ⟨e,he,(hF k _ hj).2⟩
 refine ⟨ao,⟨⟨fun j blk' hj=> ?_,fun j1 j2 b1 b2 b e1 e2 f1 f2=> ?_,fun j blk b e1 f1=> ?_,S.h.jy⟩,S.cf,S.size,S.new,S.io⟩,⟨fun k=> ?_,hA.size,hA.defers,hA.aB⟩,⟨hE.dp,hE.cf,fun id blk aa=> ?_,fun id blk blk' b aa bB hd hb=> ?_⟩⟩
 ·change hp' j=some blk' at hj
  rcases Nat.lt_or_ge j ord.length with h|h
  ·have gA:=List.getElem?_eq_getElem h
   obtain ⟨n',RB,h2⟩:=qM j _ gA
   rw[hj] at h2
   rw[oD j _ gA]
   cases aa:st.hp ord[j] with
   | none=>simp only[fa,aa] at h2;rw[Option.some.inj h2];exact .dead
   | some blk=>
    have hr:=S.h.rel _ _ aa
    generalize β ord[j]=o at hr
    cases hr with
    | dead=>simp only[fa,aa] at h2;rw[Option.some.inj h2];exact .dead
    | dQ hb=>simp only[fa,aa] at h2;rw[Option.some.inj h2];exact .dQ hb
    | arr a1 a2 a3 a4 a5 a6 a7=>simp only[fa,aa] at h2;rw[Option.some.inj h2];exact .arr a1 a2 a3 a4 a5 a6 a7
    | nest a1 a2 a3=>simp only[fa,aa] at h2;rw[Option.some.inj h2];exact .nest a1 a2 a3
    | map a1 a2 a3 a4 a5 a6 a7=>simp only[fa,aa] at h2;rw[Option.some.inj h2];exact .map a1 a2 a3 a4 a5 a6 a7
    | @var xs b Ca T hb hh hs cS hx gp=>
     simp only[fa,aa] at h2 RB
     rw[Option.some.inj h2]
     exact .var hb hh (by rw[ES];exact hs) cS (fun i v y hi hy=>ET S hR (vs:=Ca.toList) (fun i v x hi cz=>hx i v x (by simpa using hi) cz) RB i v y (by simpa using hi) hy) gp
  ·rcases cls j blk' hj with ⟨id,aa,_⟩|⟨e,he,hb⟩
   ·have:=(List.getElem?_eq_some_iff.1 aa).1;omega
   ·rw[he];exact .dQ hb
 ·rcases cls j1 b1 e1 with ⟨J5,o1,x1⟩|⟨e,_,hb⟩
  ·rcases cls j2 b2 e2 with ⟨cB,o2,x2⟩|⟨e,_,hb⟩
   ·obtain ⟨c1,y1,z1,g1⟩:=x1.resolve_left f1.alive
    obtain ⟨c2,y2,z2,g2⟩:=x2.resolve_left f2.alive
    rw[oD _ _ o1] at f1
    rw[oD _ _ o2] at f2
    have:=S.h.inj J5 cB c1 c2 b y1 y2 (g1 _ _ f1) (g2 _ _ f2)
    subst this
    obtain ⟨q1,q2⟩:=List.getElem?_eq_some_iff.1 o1
    obtain ⟨q3,q4⟩:=List.getElem?_eq_some_iff.1 o2
    exact (List.getElem_inj nj).1 (q2.trans q4.symm)
   ·subst ‹b2=_›;have:=f2.flat (by simp);rw[hb] at this;cases this
  ·subst ‹b1=_›;have:=f1.flat (by simp);rw[hb] at this;cases this
 ·rcases cls j blk e1 with ⟨J5,o1,x1⟩|⟨e,_,hb⟩
  ·obtain ⟨c1,y1,z1,g1⟩:=x1.resolve_left f1.alive
   rw[oD _ _ o1] at f1
   exact S.h.own J5 c1 b y1 (g1 _ _ f1)
  ·subst ‹blk=_›;have:=f1.flat (by simp);rw[hb] at this;cases this
 ·change ah P w I ao hp' (a.tmps.getD k undef) (jc _ k)
  unfold jc
  cases JM:dO (lk st.hp ord st.sl (ord.length+(fK st.hp ord ord.length ord).2.length) live).1 k with
  | none=>exact .undef
  | some y=>
   obtain ⟨n',h1,h2⟩:=Rv hF.right JM
   simp only[Option.getD_some,h2]
   exact abt S hR (hA.sl k) h1
 ·obtain ⟨qI,k1,k2,k3⟩:=hE.blk id blk aa
  rcases Ag id (hm id blk aa) with ho|⟨p,ho,bn⟩
  ·cases qI with
   | dead=>exact ⟨.dead,hR.dead id id ho k1,k2,fun h=>absurd rfl h⟩
   | var T0 cs=>
    obtain ⟨ig,h'⟩:=hR.var id id T0 cs ho k1
    refine ⟨_,h',?_,fun _=>(oD id id ho).trans (k3 (by simp))⟩
    cases blk<;>simp_all [ag.le]
   | arr e es fz=>exact ⟨_,hR.arr id id e es fz ho k1,k2,fun _=>(oD id id ho).trans (k3 (by simp))⟩
   | map t es=>exact ⟨_,hR.map id id t es ho k1,k2,fun _=>(oD id id ho).trans (k3 (by simp))⟩
   | nest e es ai=>
    refine ⟨_,hR.nest id id e es ai ho k1,?_,fun _=>(oD id id ho).trans (k3 (by simp))⟩
    obtain ⟨II,Y3,rfl,l1,l2,_⟩:=ag.IG k2
    exact ⟨rfl,l1,by simpa using l2,fun k=>by rw[jl id _ _ _ aa k];exact Nat.zero_le _⟩
  ·obtain ⟨n',_,h2⟩:=qM id p ho
   simp only[fa,bn] at h2
   exact ⟨.dead,h2,by cases blk<;>trivial,fun h=>absurd rfl h⟩
 ·obtain ⟨qI,k1,k2,k3⟩:=hE.blk id blk aa
  rcases Ag id (hm id blk aa) with ho|⟨p,ho,bn⟩
  ·refine hE.size id blk qI b aa k1 (fun qL=> ?_) hb
   subst qL
   have:=hR.dead id id ho k1
   change hp' id=some blk' at bB
   rw[this] at bB
   exact hd (Option.some.inj bB).symm
  ·obtain ⟨n',_,h2⟩:=qM id p ho
   simp only[fa,bn] at h2
   change hp' id=some blk' at bB
   rw[h2] at bB
   exact absurd (Option.some.inj bB).symm hd
theorem abx {n m:Nat} {live:List Nat} {a:Act} {st:St} (S:aC P w I β st.hp B M w0) (hA:iL P E G w I β n a st) (hE:kM w0.w w0.I μ hp0 w I β st.hp) (hm: ∀id blk,hp0 id=some blk→id<m) (jl: ∀id e es ai,hp0 id=some (.nest e es ai)→∀k,bA ai k=0):
  ∃ao,aC P w I ao (canon m live st).hp B M w0∧iL P E G w I ao n a (canon m live st)∧kM w0.w w0.I μ hp0 w I ao (canon m live st).hp:=by
 obtain ⟨t,Ag,nj⟩:=abv (m:=m) (live:=live) (st:=st)
 refine RA (by rw[Ag];exact nj) (fun id aM=> .inl ?_) S hA hE hm jl
 rw[Ag,List.getElem?_append_left (by simpa using aM)]
 simp[aM]
theorem RC: ∀{l:List Nat},og l=true→l.Nodup
 | [],_=> .nil
 | a::l,h=>by
  simp only[og,Bool.and_eq_true,Bool.not_eq_true'] at h
  rw[List.nodup_cons]
  exact ⟨fun hm=>Bool.noConfusion ((wG hm).symm.trans h.1),RC h.2⟩
theorem aby {m:Nat} {mv:List Nat} {id:Nat} (h:id<m):(mj m mv)[id]? =some id∨(mj m mv)[id]? =some (m+id):=by
 unfold mj
 rw[List.getElem?_append_left (by simpa using h),List.getElem?_map]
 simp only[List.getElem?_range h,Option.map_some]
 cases jT mv id with
 | true=>exact .inr rfl
 | false=>exact .inl rfl
end
section
variable {P:Program} {A:cF} {w w':World} {I I' I2:Nat→Prop} {μ β ao:Nat→Option Nat} {hp hp' hp0:Nat→Option ag} {C:ae} {B:Nat} {M:Nat→Prop} {w0:Start}
theorem EV (p:Nat→Prop) (h: ∃n,p n): ∃n,p n∧∀m,p m→n≤m:=by
 obtain ⟨n,hn⟩:=h
 induction n using Nat.strongRecOn with
 | _ n ih=>
  by_cases hx: ∃m,m<n∧p m
  ·obtain ⟨m,hm,hp⟩:=hx
   exact ih m hm hp
  ·exact ⟨n,hn,fun m hm=>Nat.le_of_not_lt fun aM=>hx ⟨m,aM,hm⟩⟩
open Classical in
theorem abz {c:Code} {Q:Exit→Act→World→Prop} (J:Nat→Act→World→Prop) (h0: ∀a w,¬J 0 a w) (round: ∀n a w,J (n+1) a w→c.wp P (Exit.then (J n) Q) a w) {n:Nat} {a:Act} {w:World} (h:J n a w):
  (Code.loop c).wp P Q a w:=by
 refine wp_loop (fun a w=> ∃n,J n a w) (fun a w=>if h: ∃n,J n a w then (EV _ h).choose else 0) ⟨n,h⟩ fun a w hJ=> ?_
 obtain ⟨h1,h2⟩:=(EV _ hJ).choose_spec
 generalize hk:(EV _ hJ).choose=k at h1 h2
 cases k with
 | zero=>exact absurd h1 (h0 a w)
 | succ k=>
  refine wp_mono (round k a w h1) fun e a' w' he=> ?_
  cases e with
  | normal=>
   have hex: ∃n,J n a' w':=⟨k,he⟩
   refine ⟨hex,?_⟩
   have h3:=(EV _ hex).choose_spec.2 k he
   rw[dif_pos hex,dif_pos hJ,hk]
   omega
  | _=>exact he
def xc:Out→Exit
 | .norm=> .normal
 | .exit id=> .exit id
 | .ret=> .ret
def Inv (P:Program) (E:FuncId→Bool) (G:Nat→V) (B:Nat) (M:Nat→Prop) (w0:Start) (μ:Nat→Option Nat) (hp0:Nat→Option ag) (n:Nat) (a:Act) (w:World) (st:St):Prop:=
 ∃I β,aC P w I β st.hp B M w0∧iL P E G w I β n a st∧kM w0.w w0.I μ hp0 w I β st.hp
theorem Inv.canon {E:FuncId→Bool} {G:Nat→V} {n m:Nat} {a:Act} {st:St} {live:List Nat} (h:Inv P E G B M w0 μ hp0 n a w st) (hm: ∀id blk,hp0 id=some blk→id<m) (jl: ∀id e es ai,hp0 id=some (.nest e es ai)→∀k,bA ai k=0):Inv P E G B M w0 μ hp0 n a w (canon m live st):=by
 obtain ⟨I,β,S,hA,hE⟩:=h
 obtain ⟨ao,a,b,c⟩:=abx (live:=live) S hA hE hm jl
 exact ⟨I,ao,a,b,c⟩
theorem EW: ∀{l:List BS} {ds:List V},(eR l ds).length=l.length
 | [],_=>rfl
 | b::l,ds=>by simp only[eR,List.length_cons,EW]
theorem Inv.enter {A:cF} {E:FuncId→Bool} {G:Nat→V} {n f:Nat} {ds:List V} {a:Act} (kf:og (mj (A.sin f).aX.length (A.mv f))=true) (h:Inv P E G B M w0 μ hp0 n a w (bd (A.sin f) ds)) (hm: ∀id blk,hp0 id=some blk→id<(A.sin f).aX.length)
  (jl: ∀id e es ai,hp0 id=some (.nest e es ai)→∀k,bA ai k=0) (xd: ∀p,(A.sin f).aX.length≤p→(bd (A.sin f) ds).hp p=none):Inv P E G B M w0 μ hp0 n a w (zj A f ds):=by
 unfold zj
 split
 ·exact h
 ·obtain ⟨I,β,S,hA,hE⟩:=h
  obtain ⟨ao,x,y,z⟩:=RA (m:=(A.sin f).aX.length) (ord:=mj (A.sin f).aX.length (A.mv f)) (live:=(A.sin f).bG.map (·.1)) (RC kf) (fun id aa=>(aby aa).imp (fun h=>h) fun h=>⟨_,h,xd _ (by omega)⟩) S hA hE hm jl
  exact ⟨I,ao,x,y,z⟩
theorem Inv.reshape {E:FuncId→Bool} {G:Nat→V} {n m:Nat} {a:Act} {st:St} {S:Shape} {ds:List V} (h:Inv P E G B M w0 μ hp0 n a w st) (hs:iC m S st=some ds) (hm: ∀id blk,hp0 id=some blk→id<m):Inv P E G B M w0 μ hp0 n a w (bd S ds):=by
 obtain ⟨I,β,S1,hA,hE⟩:=h
 obtain ⟨r1,r2,_,r4⟩:=AM.reshape hs S1
 refine ⟨I,β,r1,⟨fun k=>r2 k _ (hA.sl k),hA.size,hA.defers,hA.aB⟩,⟨hE.dp,hE.cf,fun id blk aa=> ?_,fun id blk blk' b aa bB hd hb=> ?_⟩⟩
 ·obtain ⟨qI,k1,k2,k3⟩:=hE.blk id blk aa
  obtain ⟨_,hle,_⟩:=Qo hs
  have hl:=hm id blk aa
  obtain ⟨b7,h2⟩: ∃b7,(bd S ds).hp id=some b7:=by
   simp only[bd,mk,gR]
   exact ⟨_,List.getElem?_eq_getElem (by rw[EW];omega)⟩
  by_cases hd:b7= .dead
  ·subst hd
   exact ⟨_,h2,by cases blk<;>trivial,fun h=>absurd rfl h⟩
  ·obtain ⟨gL,e1,e2,_⟩:=r4 id b7 h2 hd
   rw[k1] at e1;cases e1
   exact ⟨_,h2,ag.le_trans k2 e2,fun _=>k3 (fun e=>hd (ag.pc (e▸e2)))⟩
 ·obtain ⟨gL,e1,e2,_⟩:=r4 id blk' bB hd
  exact hE.size id blk gL b aa e1 (fun e=>hd (ag.pc (e▸e2))) hb
theorem kN.here (h:kN P A C) (f:Nat) (id:Nat):kN P (A.here f id) C:=by
 intro key ds es hh
 obtain ⟨fn,c,h1,h2,h3⟩:=h key ds es hh
 refine ⟨fn,c,h1,h2,fun w I μ vals a g b d=>(h3 w I μ vals a g b d).mono fun e w' hx=> ?_⟩
 obtain ⟨v,I2,b8,q1,q2⟩:=hx
 exact ⟨v,I2,b8,q1,⟨q2.wZ,q2.le,q2.res⟩⟩
theorem abA {a b:Out} (h:DJ a b=true):a=b:=by
 cases a<;>cases b<;>simp[DJ] at h<;>first|rfl|(subst h;rfl)
theorem RD {m:Nat} {r:Out × St}: ∀{l:List (Out × Shape)} {j:Nat} {e:Nat × List V},ways m j l r=some e→j≤e.1
 | [],j,e,h=>by cases h
 | (o,S)::l,j,e,h=>by
  simp only[ways] at h
  split at h
  ·cases h;exact Nat.le_refl _
  ·have:=RD h;omega
theorem J6 {m:Nat} {o:Out} {s:St} {out:Out} {st':St}: ∀{l:List (Out × Shape)} {k:Nat} {e:Nat × List V},ways m k l (o,s)=some e→jY k l e.1 e.2 (fun o st=>some (o,st))=some (out,st')→
  out=o∧∃S,iC m S s=some e.2∧st'=bd S e.2
 | [],k,e,h,_=>by cases h
 | (o',S)::l,k,e,h,h2=>by
  simp only[ways] at h
  split at h
  ·rename_i ds hx
   cases h
   cases ho:DJ o' o with
   | false=>rw[ho] at hx;cases hx
   | true=>
    rw[ho] at hx
    have:=abA ho
    subst this
    cases l with
    | nil=>
     simp only[jY,Option.some.injEq,Prod.mk.injEq] at h2
     exact ⟨h2.1.symm,S,hx,h2.2.symm⟩
    | cons p l=>
     simp only[jY,Nat.beq_refl,cond_true,Option.some.injEq,Prod.mk.injEq] at h2
     exact ⟨h2.1.symm,S,hx,h2.2.symm⟩
  ·have po:=RD h
   cases l with
   | nil=>cases h
   | cons p l=>
    have bN:Nat.beq e.1 k=false:=by
     cases hb:Nat.beq e.1 k with
     | false=>rfl
     | true=>rw[Nat.beq_eq] at hb;omega
    simp only[jY,bN,cond_false] at h2
    exact J6 h h2
theorem abB (hC:kN P A C) (hP:jk P A) (pC:P.follows .mixedOrders=true) {f n m:Nat} (hm: ∀id blk,hp0 id=some blk→id<m) (jl: ∀id e es ai,hp0 id=some (.nest e es ai)→∀k,bA ai k=0):
  ∀(c:Code) {st st':St} {out:Out} {Q:Exit→Act→World→Prop} {a:Act} {w:World},exec P A C f n m c st=some (out,st')→Inv P A.idle A.aB B M w0 μ hp0 n a w st→
   (∀a' w',Inv P A.idle A.aB B M w0 μ hp0 n a' w' st'→Q (xc out) a' w')→c.wp P Q a w:=by
 intro c
 induction c with
 | skip=>
  intro st st' out Q a w h hI hQ
  simp only[exec,Option.some.injEq,Prod.mk.injEq] at h
  obtain ⟨rfl,rfl⟩:=h
  exact wp_skip (hQ a w hI)
 | exit id=>
  intro st st' out Q a w h hI hQ
  simp only[exec,Option.some.injEq,Prod.mk.injEq] at h
  obtain ⟨rfl,rfl⟩:=h
  exact wp_exit (hQ a w hI)
 | ret=>
  intro st st' out Q a w h hI hQ
  simp only[exec,Option.some.injEq,Prod.mk.injEq] at h
  obtain ⟨rfl,rfl⟩:=h
  exact wp_ret (hQ a w hI)
 | region id ops draw=>
  intro st st' out Q a w h hI hQ
  simp only[exec] at h
  obtain ⟨iM,h1,h2⟩:=bind_some h
  simp only[Option.some.injEq,Prod.mk.injEq] at h2
  obtain ⟨rfl,rfl⟩:=h2
  obtain ⟨I,β,S,hA,hE⟩:=hI
  refine abp (hC.here f id) (hP.here f id) pC h1 S hA fun a' w' I' ao k1 k2 k3=> ?_
  obtain ⟨I2,l1,l2,l3⟩:=Ro (m:=m) (pur:=A.pur f id) k2 k3
  have hE2:=(hE.trans k1.EA).trans l1.EA
  exact hQ a' w' (Inv.canon ⟨I2,ao,l2,l3,hE2⟩ hm jl)
 | seq x y fV fW=>
  intro st st' out Q a w h hI hQ
  simp only[exec] at h
  obtain ⟨⟨o1,iM⟩,h1,h2⟩:=bind_some h
  refine wp_seq (fV h1 hI fun a' w' jH=> ?_)
  cases o1 with
  | norm=>exact fW h2 jH hQ
  | exit id=>
   simp only[Option.some.injEq,Prod.mk.injEq] at h2
   obtain ⟨rfl,rfl⟩:=h2
   exact hQ a' w' jH
  | ret=>
   simp only[Option.some.injEq,Prod.mk.injEq] at h2
   obtain ⟨rfl,rfl⟩:=h2
   exact hQ a' w' jH
 | cond c x y fV fW=>
  intro st st' out Q a w h hI hQ
  cases c with
  | tmp t=>
   have go: ∀{st st':St} {out:Out} {Q:Exit→Act→World→Prop} {a:Act} {w:World},(match st.sl t with
     | .bool b=>(bif b then exec P A C f n m x st else exec P A C f n m y st).bind fun r=>
      match r.1 with
      | .norm=>some (.norm,AM.canon m (A.join f t) r.2)
      | _=>some r
     | _=>none)=some (out,st')→Inv P A.idle A.aB B M w0 μ hp0 n a w st→(∀a' w',Inv P A.idle A.aB B M w0 μ hp0 n a' w' st'→Q (xc out) a' w')→(Code.cond (.tmp t) x y).wp P Q a w:=by
    intro st st' out Q a w h hI hQ
    cases hs:st.sl t<;>rw[hs] at h<;>simp only at h<;>first|(cases h;done)|skip
    rename_i b
    obtain ⟨⟨o1,iM⟩,h1,h2⟩:=bind_some h
    obtain ⟨I,β,S,hA,hE⟩:=hI
    have fe:a.eval (.tmp t)= .bool b:=by
     have:=QW hA hs
     simp[Act.eval,this]
    have fin: ∀a' w',Inv P A.idle A.aB B M w0 μ hp0 n a' w' iM→Q (xc o1) a' w':=by
     intro a' w' jH
     cases o1 with
     | norm=>
      simp only[Option.some.injEq,Prod.mk.injEq] at h2
      obtain ⟨rfl,rfl⟩:=h2
      exact hQ a' w' (jH.canon hm jl)
     | exit id=>
      simp only[Option.some.injEq,Prod.mk.injEq] at h2
      obtain ⟨rfl,rfl⟩:=h2
      exact hQ a' w' jH
     | ret=>
      simp only[Option.some.injEq,Prod.mk.injEq] at h2
      obtain ⟨rfl,rfl⟩:=h2
      exact hQ a' w' jH
    refine wp_cond fe ?_
    cases b with
    | true=>exact fV h1 ⟨I,β,S,hA,hE⟩ fin
    | false=>exact fW h1 ⟨I,β,S,hA,hE⟩ fin
   simp only[exec] at h
   split at h
   ·exact go h hI hQ
   ·obtain ⟨ds,h1,h2⟩:=bind_some h
    obtain ⟨e,h3,h4⟩:=bind_some h2
    obtain ⟨⟨o1,s1⟩,h5,h6⟩:=bind_some h3
    obtain ⟨rfl,S',k1,rfl⟩:=J6 h6 h4
    exact go h5 (hI.reshape h1 hm) fun a' w' jH=>hQ a' w' (jH.reshape k1 hm)
  | const v=>
   cases v with
   | bool b=>
    simp only[exec] at h
    refine wp_cond (t:=b) rfl ?_
    cases b with
    | true=>exact fV h hI hQ
    | false=>exact fW h hI hQ
   | _=>simp only[exec] at h;cases h
  | _=>simp only[exec] at h;cases h
 | block id c ih=>
  intro st st' out Q a w h hI hQ
  simp only[exec] at h
  obtain ⟨⟨o1,iM⟩,h1,h2⟩:=bind_some h
  refine wp_block (ih h1 hI fun a' w' jH=> ?_)
  cases o1 with
  | norm=>
   simp only[Option.some.injEq,Prod.mk.injEq] at h2
   obtain ⟨rfl,rfl⟩:=h2
   exact hQ a' w' (jH.canon hm jl)
  | exit aA=>
   simp only at h2
   cases hb:Nat.beq aA id with
   | true=>
    rw[hb] at h2
    simp only[cond_true,Option.some.injEq,Prod.mk.injEq] at h2
    obtain ⟨rfl,rfl⟩:=h2
    rw[Nat.beq_eq] at hb
    simp only[xc,Exit.inBlock,hb,if_true]
    exact hQ a' w' (jH.canon hm jl)
   | false=>
    rw[hb] at h2
    simp only[cond_false,Option.some.injEq,Prod.mk.injEq] at h2
    obtain ⟨rfl,rfl⟩:=h2
    have bN:aA≠id:=fun e=>by rw[e,Nat.beq_refl] at hb;cases hb
    simp only[xc,Exit.inBlock,bN,if_false]
    exact hQ a' w' jH
  | ret=>
   simp only[Option.some.injEq,Prod.mk.injEq] at h2
   obtain ⟨rfl,rfl⟩:=h2
   exact hQ a' w' jH
 | loop c ih=>
  intro st st' out Q a w h hI hQ
  simp only[exec] at h
  split at h
  ·cases h
  ·rename_i S hS
   obtain ⟨ds,h1,h2⟩:=bind_some h
   obtain ⟨e,h3,h4⟩:=bind_some h2
   obtain ⟨k,hk⟩:=v5 h3
   refine abz (J:=fun k a w=> ∃ds,Inv P A.idle A.aB B M w0 μ hp0 n a w (bd S.1 ds)∧eP (fun ds=>kE m S.1 S.2 (exec P A C f n m c (bd S.1 ds))) k ds=some e) (fun a w ⟨s,_,h⟩=>by cases h) (fun k a w ⟨ds,hs,hk⟩=> ?_) ⟨ds,hI.reshape h1 hm,hk⟩
   simp only[eP] at hk
   obtain ⟨y,h5,h6⟩:=bind_some hk
   unfold kE at h5
   obtain ⟨⟨o1,s1⟩,h7,h8⟩:=bind_some h5
   refine ih h7 hs fun a' w' jH=> ?_
   have RE: ∀{e':Nat × List V},ways m 0 S.2 (o1,s1)=some e'→e'=e→Q (xc o1) a' w':=by
    intro e' q1 q2
    subst q2
    obtain ⟨rfl,S',k1,rfl⟩:=J6 q1 h4
    exact hQ a' w' (jH.reshape k1 hm)
   cases o1 with
   | norm=>
    obtain ⟨ds2,q1,q2⟩:=bind_some h8
    cases q2
    exact ⟨ds2,jH.reshape q1 hm,h6⟩
   | exit id=>
    obtain ⟨e',q1,q2⟩:=bind_some h8
    cases q2
    cases h6
    exact RE q1 rfl
   | ret=>
    obtain ⟨e',q1,q2⟩:=bind_some h8
    cases q2
    cases h6
    exact RE q1 rfl
 | _=>intro st st' out Q a w h;simp only[exec] at h;cases h
end
section
variable {P:Program} {A:cF} {w w':World} {I I' I2:Nat→Prop} {μ β ao b8:Nat→Option Nat} {hp hp' hp0:Nat→Option ag} {C:ae} {B:Nat} {M:Nat→Prop} {w0:Start}
theorem EX (S:aC P w I β hp B M w0) {a:Act} {st:St} (hs:kF P w I β hp a st.sl): ∀{l:List ResultVar} {xs:List V} {rd:List Nat},(tO P st l).run C hp=some (xs,rd)→
  ∃vs:List Value,(l.mapM fun| .tmp t=>Pure.pure (a.tmps.getD t undef)| .cell x t=>do loadVar t (←asAddr (a.tmps.getD x undef)):Sem (List Value)).run P w= .ok vs w∧vs.length=xs.length∧l.length=xs.length∧
   ∀(j:Nat) v x,vs[j]? =some v→xs[j]? =some x→ah P w I β hp v x
 | [],xs,rd,h=>by
  cases h
  exact ⟨[],by simp,rfl,rfl,by simp⟩
 | .tmp t::l,xs,rd,h=>by
  simp only[tO] at h
  obtain ⟨ys,l1,l2,h1,h2⟩:=kG h
  have h3:=IK h2
  subst h3
  obtain ⟨vs,a1,a2,a3,a4⟩:=EX S hs h1
  refine ⟨a.tmps.getD t undef::vs,by simp only[List.mapM_cons,Sem.run_bind,Sem.run_pure,Result.andThen_ok,a1],by simp[a2],by simp[a3],fun j v x hj hx=> ?_⟩
  cases j with
  | zero=>simp at hj hx;subst hj;subst hx;have:=hs t;simpa using this
  | succ j=>exact a4 j v x (by simpa using hj) (by simpa using hx)
 | .cell y t::l,xs,rd,h=>by
  simp only[tO] at h
  obtain ⟨r,l1,l2,h1,h2⟩:=kG h
  obtain ⟨ys,l3,l4,h3,h4⟩:=kG h2
  have h5:=IK h4
  subst h5
  obtain ⟨v0,b1,b2,b3,ad,b4⟩:=Pe S (hs y) h1
  obtain ⟨vs,a1,a2,a3,a4⟩:=EX S hs h3
  refine ⟨v0::vs,?_,by simp[a2],by simp[a3],fun j v x hj hx=> ?_⟩
  ·have e1:(do loadVar t (←asAddr (a.tmps.getD y undef)):Sem Value).run P w= .ok v0 w:=by
    rw[b4] at b1⊢
    simpa[Instr.loadAt,Instr.sureAddr,asAddr] using b1
   simp only[List.mapM_cons,Sem.run_bind,e1,Result.andThen_ok,a1,Sem.run_pure]
  cases j with
  | zero=>simp at hj hx;subst hj;subst hx;exact b2
  | succ j=>exact a4 j v x (by simpa using hj) (by simpa using hx)
def uJ:List Value→Value
 | [v]=>v
 | l=> .tuple l.toArray
theorem abC {vs:List Value} (h:vs.length≠1):uJ vs= .tuple vs.toArray:=by
 match vs,h with
 | [],_=>rfl
 | [v],h=>simp at h
 | v::v2::l,_=>rfl
theorem abD {fn:Func} {a:Act} {st:St} (S:aC P w I β st.hp B M w0) (hs:kF P w I β st.hp a st.sl) {xs:List V} {rd:List Nat} (h:(tO P st fn.results.toList).run C st.hp=some (xs,rd)):
  ∃vs:List Value,(results fn a.tmps).run P w= .ok (uJ vs) w∧vs.length=xs.length∧
   ∀(j:Nat) v x,vs[j]? =some v→xs[j]? =some x→ah P w I β st.hp v x:=by
 obtain ⟨vs,a1,a2,_,a4⟩:=EX S hs h
 refine ⟨vs,?_,a2,a4⟩
 unfold results
 rw[Array.mapM_eq_mapM_toList]
 simp only[map_eq_pure_bind,bind_assoc,pure_bind,Sem.run_bind]
 refine (congrArg (fun r:Result (List Value)=>r.andThen _) a1).trans ?_
 simp only[Result.andThen_ok,Sem.run_pure]
 match vs with
 | []=>simp[uJ]
 | [v]=>simp[uJ]
 | v::v2::l=>simp[uJ]
theorem RF: ∀{args:List V} {i k:Nat},dO (nf i args) k=if i≤k then args[k-i]? else none
 | [],i,k=>by simp[nf,dO]
 | v::vs,i,k=>by
  simp only[nf,dO]
  cases hb:Nat.beq k i with
  | true=>
   rw[Nat.beq_eq] at hb
   subst hb
   simp
  | false=>
   have bN:k≠i:=fun e=>by rw[e,Nat.beq_refl] at hb;cases hb
   simp only[cond_false,RF]
   by_cases h:i≤k
   ·rw[if_pos (by omega),if_pos h]
    obtain ⟨d,rfl⟩: ∃d,k=i+1+d:=⟨k-(i+1),by omega⟩
    rw[show i+1+d-(i+1)=d by omega,show i+1+d-i=d+1 by omega]
    rfl
   ·rw[if_neg (by omega),if_neg h]
theorem J7: ∀{l:List (Nat × VS)} {ds:List V} {i k:Nat},hY i l=true→dO (fu l ds) k=if i≤k then (fI (l.map (·.2)) ds)[k-i]? else none
 | [],ds,i,k,_=>by simp[fu,fI,dO]
 | (q,s)::l,ds,i,k,h=>by
  simp only[hY,Bool.and_eq_true,Nat.beq_eq] at h
  obtain ⟨rfl,h⟩:=h
  simp only[fu,dO,List.map_cons,fI]
  cases hb:Nat.beq k q with
  | true=>
   rw[Nat.beq_eq] at hb
   subst hb
   simp
  | false=>
   have bN:k≠q:=fun e=>by rw[e,Nat.beq_refl] at hb;cases hb
   simp only[cond_false]
   rw[J7 h]
   by_cases h:q≤k
   ·rw[if_pos (by omega),if_pos h]
    obtain ⟨d,rfl⟩: ∃d,k=q+1+d:=⟨k-(q+1),by omega⟩
    rw[show q+1+d-(q+1)=d by omega,show q+1+d-q=d+1 by omega]
    rfl
   ·rw[if_neg (by omega),if_neg h]
theorem RG: ∀{l:List (Nat × VS)} {ds:List V},(fu l ds).map (·.2)=fI (l.map (·.2)) ds
 | [],_=>rfl
 | (q,s)::l,ds=>by simp only[fu,List.map_cons,fI,RG]
theorem J8: ∀{l:List VS} {ds:List V},(fI l ds).length=l.length
 | [],_=>rfl
 | s::l,ds=>by simp only[fI,List.length_cons,J8]
theorem RH: ∀{l:List (Nat × VS)} {ds:List V},(fu l ds).length=l.length
 | [],_=>rfl
 | (q,s)::l,ds=>by simp only[fu,List.length_cons,RH]
theorem abE {vals:List Value} {l:List (Nat × V)} (hl:vals.length=l.length) (h: ∀(j:Nat) v y,vals[j]? =some v→(l.map (·.2))[j]? =some y→ah P w I β hp v y):ah P w I β hp (uJ vals) (o9 l):=by
 match l,hl,h with
 | [],hl,h=>
  obtain rfl:vals=[]:=List.eq_nil_of_length_eq_zero hl
  exact .a8 rfl fun j v x _ hx=>by simp at hx
 | [(k,y)],hl,h=>
  match vals,hl,h with
  | [v],_,h=>exact h 0 v y rfl rfl
 | a::b::l,hl,h=>
  have bN:vals.length≠1:=by rw[hl];simp
  rw[abC bN]
  simp only[o9]
  exact .a8 (by simp[hl]) fun j v y hj hy=>h j v y (by simpa using hj) hy
theorem abF {l:List BS} {ds:List V} {j:Nat} {e:TypeId} {es:List V} {ai:List Nat} (h:(eR l ds)[j]? =some (.nest e es ai)) (k:Nat):bA ai k=0:=by
 obtain ⟨b,fx,_,h2⟩:=JQ h
 cases b<;>simp only[fU] at h2<;>cases h2
 match k with
 | 0=>rfl
 | 1=>rfl
 | 2=>rfl
 | _+3=>rfl
theorem abG {f n m:Nat} {fn:Func} {a:Act} {st:St} {es:List V} {rd:List Nat} (hm: ∀id blk,hp0 id=some blk→id<m) (jl: ∀id e es ai,hp0 id=some (.nest e es ai)→∀k,bA ai k=0)
  (hI:Inv P A.idle A.aB B M w0 μ hp0 n a w st) (oE:hY 0 (A.fG f).bG=true) (aU:(A.fG f).bG.length=fn.results.size) (h:(tP P A f fn m st).run C st.hp=some (es,rd)):
  ∃v I2 b8,(results fn a.tmps).run P w= .ok v w∧aC P w I2 b8 (bd (A.so f es) (A.lv f es)).hp B M w0∧kM w0.w w0.I μ hp0 w I2 b8 (bd (A.so f es) (A.lv f es)).hp∧ah P w I2 b8 (bd (A.so f es) (A.lv f es)).hp v (o9 (fu (A.so f es).bG (A.lv f es))):=by
 unfold tP at h
 obtain ⟨xs,l1,l2,h1,h2⟩:=kG h
 obtain ⟨I,β,S,hA,hE⟩:=hI
 obtain ⟨vals,e1,e2,e3⟩:=abD S hA.sl h1
 have e4:fn.results.size=xs.length:=by
  obtain ⟨_,_,_,q,_⟩:=EX S hA.sl h1
  simpa using q
 have fin: ∀(Sx:Shape) (es:List V),hY 0 Sx.bG=true→Sx.bG.length=fn.results.size→iC m Sx (canon m (List.range xs.length) (freeze m (A.tH f) ⟨jc (nf 0 xs),st.hp,st.nb⟩))=some es→
   ∃v I2 b8,(results fn a.tmps).run P w= .ok v w∧aC P w I2 b8 (bd Sx es).hp B M w0∧kM w0.w w0.I μ hp0 w I2 b8 (bd Sx es).hp∧ah P w I2 b8 (bd Sx es).hp v (o9 (fu Sx.bG es)):=by
  intro Sx es oE aU uK
  have hA0:iL P A.idle A.aB w I β vals.length ⟨vals.toArray,[]⟩ ⟨jc (nf 0 xs),st.hp,st.nb⟩:=by
   refine ⟨fun k=> ?_,by simp,by simp,hA.aB⟩
   change ah P w I β st.hp _ (jc (nf 0 xs) k)
   unfold jc
   rw[RF]
   simp only[Nat.zero_le,if_true,Nat.sub_zero]
   cases hk:xs[k]? with
   | none=>exact .undef
   | some x=>
    have lu:k<vals.length:=by rw[e2];exact (List.getElem?_eq_some_iff.1 hk).1
    have:=e3 k vals[k] x (List.getElem?_eq_getElem lu) hk
    have e5:(vals.toArray).getD k undef=vals[k]:=by simp[lu]
    rw[Option.getD_some]
    exact e5▸this
  obtain ⟨I2,k1,k2,k3⟩:=Ro (st:=⟨jc (nf 0 xs),st.hp,st.nb⟩) (m:=m) (pur:=A.tH f) S hA0
  have hI2:Inv P A.idle A.aB B M w0 μ hp0 vals.length ⟨vals.toArray,[]⟩ w (freeze m (A.tH f) ⟨jc (nf 0 xs),st.hp,st.nb⟩):=⟨I2,β,k2,k3,hE.trans k1.EA⟩
  obtain ⟨I3,RI,q1,q2,q3⟩:=(hI2.canon (live:=List.range xs.length) hm jl).reshape uK hm
  refine ⟨uJ vals,I3,RI,e1,q1,q3,abE (by rw[RH,aU,e4,e2]) fun j v y hj hy=> ?_⟩
  have hv:=q2.sl j
  have cZ:=(List.getElem?_eq_some_iff.1 hj).1
  have e5:(vals.toArray).getD j undef=v:=by
   have:=(List.getElem?_eq_some_iff.1 hj).2
   simp[cZ,this]
  change ah P w I3 RI _ ((vals.toArray).getD j undef) (jc (fu Sx.bG _) j) at hv
  rw[e5] at hv
  unfold jc at hv
  rw[J7 oE] at hv
  simp only[Nat.zero_le,if_true,Nat.sub_zero] at hv
  rw[RG] at hy
  rw[hy] at hv
  exact hv
 unfold cF.so cF.lv
 cases cg:A.alt f with
 | none=>
  rw[cg] at h2
  simp only at h2⊢
  split at h2
  ·rename_i fx uK
   have:=aI h2
   subst this
   exact fin _ _ oE aU uK
  ·cases h2
 | some S2=>
  rw[cg] at h2
  simp only at h2⊢
  split at h2
  ·rename_i fx uK
   have:=aI h2
   subst this
   exact fin _ _ oE aU uK
  ·split at h2
   ·rename_i fx uK
    obtain ⟨hc,h3⟩:=aD h2
    simp only[Bool.and_eq_true,Nat.beq_eq] at hc
    have:=aI h3
    subst this
    exact fin _ _ hc.1 hc.2 uK
   ·cases h2
theorem abH (hC:kN P A C) (hP:jk P A) (pC:P.follows .mixedOrders=true):kN P A (oj P A C):=by
 intro f ds es h
 unfold oj at h
 cases hf:P.funcs[A.aT f]? with
 | none=>rw[hf] at h;cases h
 | some fn=>
  rw[hf] at h
  simp only at h
  cases hb:fn.body with
  | none=>rw[hb] at h;cases h
  | some c=>
   rw[hb] at h
   simp only at h
   cases hc:(hY 0 (A.sin f).bG&&(Nat.ble (A.sin f).bG.length fn.ntmps&&((A.sin f).ok&&(hY 0 (A.fG f).bG&&(Nat.beq (A.fG f).bG.length fn.results.size&&og (mj (A.sin f).aX.length (A.mv f))))))) with
   | false=>rw[hc] at h;cases h
   | true=>
    rw[hc] at h
    simp only[cond_true] at h
    simp only[Bool.and_eq_true,Nat.beq_eq,Nat.ble_eq] at hc
    obtain ⟨j9,hnt,_,w8,aU,kf⟩:=hc
    obtain ⟨⟨out,st'⟩,h1,h2⟩:=bind_some h
    refine ⟨fn,c,rfl,hb,fun w I μ vals hH hgl hl hv=> ?_⟩
    have abI:(∀id,out≠ .exit id)∧∃rd,(tP P A f fn (A.sin f).aX.length st').run C st'.hp=some (es,rd):=by
     cases out with
     | exit id=>cases h2
     | norm=>
      refine ⟨by simp,?_⟩
      simp only[Option.map_eq_some_iff] at h2
      obtain ⟨⟨x,rd⟩,e1,e2⟩:=h2
      simp only at e2
      subst e2
      exact ⟨rd,e1⟩
     | ret=>
      refine ⟨by simp,?_⟩
      simp only[Option.map_eq_some_iff] at h2
      obtain ⟨⟨x,rd⟩,e1,e2⟩:=h2
      simp only at e2
      subst e2
      exact ⟨rd,e1⟩
    obtain ⟨bN,rd,JH⟩:=abI
    refine calls_of_wp_defers hf hb ?_
    have hm: ∀id blk,(bd (A.sin f) ds).hp id=some blk→id<(A.sin f).aX.length:=by
     intro id blk aa
     simp only[bd,mk,gR] at aa
     have:=(List.getElem?_eq_some_iff.1 aa).1
     rwa [EW] at this
    have jl: ∀id e es ai,(bd (A.sin f) ds).hp id=some (.nest e es ai)→∀k,bA ai k=0:=by
     intro id e es ai aa k
     simp only[bd,mk,gR] at aa
     exact abF aa k
    refine abB (w0:=⟨w,I⟩) (μ:=μ) (hp0:=(bd (A.sin f) ds).hp) (B:=w.heap.size) (M:=oC P w μ (bd (A.sin f) ds).hp) hC hP pC hm jl c h1 ?_ ?_
    ·refine Inv.enter kf ?_ hm jl fun p hp=>by
      simp only[bd,mk,gR]
      rw[List.getElem?_eq_none_iff,EW]
      exact hp
     refine ⟨I,μ,⟨hH,fun _ _ _=>rfl,Nat.le_refl _,fun b h=> .inl h,⟨rfl,rfl⟩⟩,⟨fun k=> ?_,?_,by simp,hgl⟩,(Le.refl (P:=P) w I μ _).EA⟩
     ·change ah P w I μ _ _ (jc (fu (A.sin f).bG ds) k)
      unfold jc
      rw[J7 j9]
      simp only[Nat.zero_le,if_true,Nat.sub_zero]
      cases hk:(fI ((A.sin f).bG.map (·.2)) ds)[k]? with
      | none=>exact .undef
      | some x=>
       have lu:k<vals.length:=by
        have:=(List.getElem?_eq_some_iff.1 hk).1
        rw[J8,List.length_map] at this
        rw[hl];exact this
       have:=hv k vals[k] x (List.getElem?_eq_getElem lu) hk
       have e1:(vals.toArray++Array.replicate (fn.ntmps-vals.toArray.size) undef).getD k undef=vals[k]:=by
        simp[Array.getElem?_append,lu]
       rw[Option.getD_some]
       exact e1▸this
     ·simp
      omega
    ·intro a' w' hI
     obtain ⟨v,I2,b8,q1,q2,q3,q4⟩:=abG hm jl hI w8 aU JH
     obtain ⟨_,_,_,hA,_⟩:=hI
     cases out with
     | exit id=>exact absurd rfl (bN id)
     | norm=>exact JW hP q1 ⟨v,I2,b8,rfl,q2,q3,q4⟩ _ hA.defers
     | ret=>exact JW hP q1 ⟨v,I2,b8,rfl,q2,q3,q4⟩ _ hA.defers
theorem RJ (hP:jk P A) (pC:P.follows .mixedOrders=true): ∀n,kN P A (jZ P A n)
 | 0=>fun _ _ _ h=>by cases h
 | n+1=>abH (RJ hP pC n) hP pC
theorem abJ (hP:jk P A) (pC:P.follows .mixedOrders=true):kN P A (Call P A):=by
 intro f ds es h
 have hn: ∃n,jZ P A n f ds=some es:=by
  unfold Call at h
  split at h
  ·rename_i hex
   have:=hex.choose_spec.choose_spec
   rw[Option.some.inj h] at this
   exact ⟨_,this⟩
  ·cases h
 obtain ⟨n,hn⟩:=hn
 exact RJ hP pC n f ds es hn
end
section
variable {P:Program} {A:cF} {C:ae} {D:Nat→ae}
def Ah (C:ae) (D:Nat→ae):Prop:= ∀f a r,C f a=some r→∃n,∀k,n≤k→D k f a=some r
theorem qO {α:Type} (h:Ah C D) {hp:Nat→Option ag}: ∀{p:Rd α} {r:α × List Nat},p.run C hp=some r→∃n,∀k,n≤k→p.run (D k) hp=some r
 | .ret a,r,e=>⟨0,fun _ _=>e⟩
 | .fail,r,e=>by cases e
 | .get id q,r,e=>by
  obtain ⟨x,h1,h2⟩:=bind_some e
  obtain ⟨n,hn⟩:=qO h h1
  exact ⟨n,fun k hk=>by simp only[Rd.run,hn k hk,Option.bind_some];exact h2⟩
 | .opt o q,r,e=>by
  obtain ⟨x,h1,h2⟩:=bind_some e
  obtain ⟨n,hn⟩:=qO h h2
  exact ⟨n,fun k hk=>by simp only[Rd.run,h1,Option.bind_some];exact hn k hk⟩
 | .az b q,r,e=>by
  obtain ⟨h1,h2⟩:=aD e
  obtain ⟨n,hn⟩:=qO h h2
  exact ⟨n,fun k hk=>by simp only[Rd.run,h1,cond_true];exact hn k hk⟩
 | .call f a q,r,e=>by
  obtain ⟨x,h1,h2⟩:=bind_some e
  obtain ⟨n1,j9⟩:=h f a x h1
  obtain ⟨n2,w8⟩:=qO h h2
  exact ⟨max n1 n2,fun k hk=>by simp only[Rd.run,j9 k (by omega),Option.bind_some];exact w8 k (by omega)⟩
 | .alt true x y,r,e=>qO (p:=x) h e
 | .alt false x y,r,e=>qO (p:=y) h e
theorem abK (h:Ah C D) {n i nb:Nat} {ops:Array Oper} {o:Oper} {st:St} {r:St × List Nat × List Nat} (e:gK P A C n ops i o nb st=some r): ∃N,∀k,N≤k→gK P A (D k) n ops i o nb st=some r:=by
 unfold gK at e
 have go:(((fJ P A st.sl i (nb+64*i) o).run C st.hp).bind fun r=>some ((⟨g9 st.sl o.dst r.1.v,bM st.hp r.1.upd,st.nb⟩:St),r.2,r.1.upd.map (·.1)))=some r→
   ∃N,∀k,N≤k→(((fJ P A st.sl i (nb+64*i) o).run (D k) st.hp).bind fun r=>some ((⟨g9 st.sl o.dst r.1.v,bM st.hp r.1.upd,st.nb⟩:St),r.2,r.1.upd.map (·.1)))=some r:=by
  intro e
  obtain ⟨x,h1,h2⟩:=bind_some e
  obtain ⟨N,hN⟩:=qO h h1
  exact ⟨N,fun k hk=>by rw[hN k hk];exact h2⟩
 unfold gK
 cases hd:sy o n with
 | false=>rw[hd] at e;cases e
 | true=>
  rw[hd] at e
  simp only[cond_true] at e⊢
  cases hg:o.guard with
  | none=>rw[hg] at e;exact go e
  | some gw=>
   obtain ⟨g,want⟩:=gw
   rw[hg] at e
   simp only at e⊢
   cases lz:(ops[g]?).bind (·.dst) with
   | none=>rw[lz] at e;cases e
   | some d=>
    rw[lz] at e
    simp only at e⊢
    cases mE:lg (st.sl d) with
    | none=>rw[mE] at e;cases e
    | some ob=>
    rw[mE] at e
    cases ob with
    | none=>exact ⟨0,fun _ _=>e⟩
    | some b=>
    simp only at e⊢
    cases hb:b==want with
    | true=>rw[hb] at e;exact go e
    | false=>rw[hb] at e;exact ⟨0,fun _ _=>e⟩
theorem RK (h:Ah C D) {n nb:Nat} {ops:Array Oper}: ∀{l:List (Nat × Oper)} {st:St} {log:Log} {r:St × Log},pb P A C n ops nb l st log=some r→∃N,∀k,N≤k→pb P A (D k) n ops nb l st log=some r
 | [],st,log,r,e=>⟨0,fun _ _=>e⟩
 | (i,o)::l,st,log,r,e=>by
  obtain ⟨x,h1,h2⟩:=bind_some e
  obtain ⟨N1,oF⟩:=abK h h1
  obtain ⟨N2,qP⟩:=RK h h2
  exact ⟨max N1 N2,fun k hk=>by simp only[pb,oF k (by omega),Option.bind_some];exact qP k (by omega)⟩
theorem RL {X R:Type} {step:X→Option (X ⊕ R)} {stepD:Nat→X→Option (X ⊕ R)} (hs: ∀x y,step x=some y→∃N,∀k,N≤k→stepD k x=some y): ∀(n:Nat) (x:X) (r:R),eP step n x=some r→∃N,∀k,N≤k→eP (stepD k) n x=some r
 | 0,x,r,e=>by cases e
 | n+1,x,r,e=>by
  simp only[eP] at e⊢
  obtain ⟨y,h1,h2⟩:=bind_some e
  obtain ⟨N1,oF⟩:=hs x y h1
  cases y with
  | inl z=>
   obtain ⟨N2,qP⟩:=RL hs n z r h2
   exact ⟨max N1 N2,fun k hk=>by rw[oF k (by omega)];exact qP k (by omega)⟩
  | inr q=>exact ⟨N1,fun k hk=>by rw[oF k hk];exact h2⟩
theorem abL (h:Ah C D) {f n m:Nat}: ∀(c:Code) {st:St} {r:Out × St},exec P A C f n m c st=some r→∃N,∀k,N≤k→exec P A (D k) f n m c st=some r:=by
 intro c
 induction c with
 | skip=>exact fun e=>⟨0,fun _ _=>e⟩
 | exit id=>exact fun e=>⟨0,fun _ _=>e⟩
 | ret=>exact fun e=>⟨0,fun _ _=>e⟩
 | region id ops draw=>
  intro st r e
  simp only[exec] at e⊢
  obtain ⟨x,h1,h2⟩:=bind_some e
  obtain ⟨y,h3,h4⟩:=bind_some h1
  obtain ⟨N,hN⟩:=RK h h3
  refine ⟨N,fun k hk=> ?_⟩
  have:wo P (A.here f id) (D k) n ops draw st=some x:=by
   unfold wo
   rw[hN k hk]
   exact h4
  rw[this]
  exact h2
 | seq x y fV fW=>
  intro st r e
  simp only[exec] at e⊢
  obtain ⟨⟨o,s1⟩,h1,h2⟩:=bind_some e
  obtain ⟨N1,oF⟩:=fV h1
  cases o with
  | norm=>
   obtain ⟨N2,qP⟩:=fW h2
   exact ⟨max N1 N2,fun k hk=>by rw[oF k (by omega)];exact qP k (by omega)⟩
  | exit id=>exact ⟨N1,fun k hk=>by rw[oF k hk];exact h2⟩
  | ret=>exact ⟨N1,fun k hk=>by rw[oF k hk];exact h2⟩
 | cond c x y fV fW=>
  intro st r e
  cases c with
  | tmp t=>
   have go: ∀{st:St} {r:Out × St},(match st.sl t with
     | .bool b=>(bif b then exec P A C f n m x st else exec P A C f n m y st).bind fun r=>
      match r.1 with
      | .norm=>some (.norm,canon m (A.join f t) r.2)
      | _=>some r
     | _=>none)=some r→∃N,∀k,N≤k→(match st.sl t with
     | .bool b=>(bif b then exec P A (D k) f n m x st else exec P A (D k) f n m y st).bind fun r=>
      match r.1 with
      | .norm=>some (.norm,canon m (A.join f t) r.2)
      | _=>some r
     | _=>none)=some r:=by
    intro st r e
    cases hs:st.sl t<;>rw[hs] at e<;>simp only at e⊢ <;>first|(cases e;done)|skip
    rename_i b
    obtain ⟨x1,h1,h2⟩:=bind_some e
    cases b with
    | true=>
     obtain ⟨N,hN⟩:=fV h1
     exact ⟨N,fun k hk=>by simp only[cond_true,hN k hk,Option.bind_some];exact h2⟩
    | false=>
     obtain ⟨N,hN⟩:=fW h1
     exact ⟨N,fun k hk=>by simp only[cond_false,hN k hk,Option.bind_some];exact h2⟩
   simp only[exec] at e⊢
   split at e
   ·rename_i hS
    obtain ⟨N,hN⟩:=go e
    exact ⟨N,fun k hk=>hN k hk⟩
   ·rename_i S hS
    obtain ⟨ds,h1,h2⟩:=bind_some e
    obtain ⟨e',h3,h4⟩:=bind_some h2
    obtain ⟨r1,h5,h6⟩:=bind_some h3
    obtain ⟨N,hN⟩:=go h5
    refine ⟨N,fun k hk=> ?_⟩
    try rw[hS]
    simp only[h1,Option.bind_some]
    exact (congrArg (fun z:Option (Out × St)=>(z.bind fun r=>ways m 0 S.2 r).bind fun e=>jY 0 S.2 e.1 e.2 fun o st=>some (o,st)) (hN k hk)).trans (by simp only[Option.bind_some,h6];exact h4)
  | const v=>
   cases v with
   | bool b=>
    simp only[exec] at e⊢
    cases b with
    | true=>exact fV e
    | false=>exact fW e
   | _=>simp only[exec] at e;cases e
  | _=>simp only[exec] at e;cases e
 | block id c ih=>
  intro st r e
  simp only[exec] at e⊢
  obtain ⟨x1,h1,h2⟩:=bind_some e
  obtain ⟨N,hN⟩:=ih h1
  exact ⟨N,fun k hk=>by rw[hN k hk];exact h2⟩
 | loop c ih=>
  intro st r e
  simp only[exec] at e⊢
  split at e
  ·cases e
  ·rename_i S hS
   obtain ⟨ds,h1,h2⟩:=bind_some e
   obtain ⟨e',h3,h4⟩:=bind_some h2
   obtain ⟨q,hq⟩:=v5 h3
   obtain ⟨N,hN⟩:=RL (stepD:=fun k ds=>kE m S.1 S.2 (exec P A (D k) f n m c (bd S.1 ds))) (fun x y Ai=>by
    unfold kE at Ai⊢
    obtain ⟨z,h5,h6⟩:=bind_some Ai
    obtain ⟨N,hN⟩:=ih h5
    exact ⟨N,fun k hk=>by rw[hN k hk];exact h6⟩) q ds e' hq
   refine ⟨N,fun k hk=> ?_⟩
   try rw[hS]
   simp only[h1,Option.bind_some]
   rw[vZ (hN k hk)]
   exact h4
 | _=>intro st r e;simp only[exec] at e;cases e
theorem EY (h:Ah C D) {f:Nat} {ds es:List V} (e:oj P A C f ds=some es): ∃N,∀k,N≤k→oj P A (D k) f ds=some es:=by
 unfold oj at e⊢
 cases hf:P.funcs[A.aT f]? with
 | none=>rw[hf] at e;cases e
 | some fn=>
  rw[hf] at e
  simp only at e⊢
  cases hb:fn.body with
  | none=>rw[hb] at e;cases e
  | some c=>
   rw[hb] at e
   simp only at e⊢
   cases hc:(hY 0 (A.sin f).bG&&(Nat.ble (A.sin f).bG.length fn.ntmps&&((A.sin f).ok&&(hY 0 (A.fG f).bG&&(Nat.beq (A.fG f).bG.length fn.results.size&&og (mj (A.sin f).aX.length (A.mv f))))))) with
   | false=>rw[hc] at e;cases e
   | true=>
    rw[hc] at e
    simp only[cond_true] at e⊢
    obtain ⟨⟨o,s1⟩,h1,h2⟩:=bind_some e
    obtain ⟨N1,oF⟩:=abL h c h1
    cases o with
    | exit id=>cases h2
    | norm=>
     simp only[Option.map_eq_some_iff] at h2
     obtain ⟨x,e1,e2⟩:=h2
     obtain ⟨N2,qP⟩:=qO h e1
     exact ⟨max N1 N2,fun k hk=>by rw[oF k (by omega)];simp only[Option.bind_some,qP k (by omega),Option.map_some,e2]⟩
    | ret=>
     simp only[Option.map_eq_some_iff] at h2
     obtain ⟨x,e1,e2⟩:=h2
     obtain ⟨N2,qP⟩:=qO h e1
     exact ⟨max N1 N2,fun k hk=>by rw[oF k (by omega)];simp only[Option.bind_some,qP k (by omega),Option.map_some,e2]⟩
theorem RM: ∀n f a r,jZ P A n f a=some r→jZ P A (n+1) f a=some r
 | 0,f,a,r,h=>by cases h
 | n+1,f,a,r,h=>by
  obtain ⟨N,hN⟩:=EY (C:=jZ P A n) (D:=fun _=>jZ P A (n+1)) (fun f a r h=>⟨0,fun _ _=>RM n f a r h⟩) h
  exact hN N (Nat.le_refl _)
theorem J9 {n k:Nat} (hk:n≤k) {f:Nat} {a r:List V} (h:jZ P A n f a=some r):jZ P A k f a=some r:=by
 induction hk with
 | refl=>exact h
 | step _ ih=>exact RM _ _ _ _ ih
theorem Aj {f:Nat} {a r:List V}:Call P A f a=some r↔∃n,jZ P A n f a=some r:=by
 constructor
 ·intro h
  unfold Call at h
  split at h
  ·rename_i hex
   have:=hex.choose_spec.choose_spec
   rw[Option.some.inj h] at this
   exact ⟨_,this⟩
  ·cases h
 ·rintro ⟨n,hn⟩
  have hex: ∃n r,jZ P A n f a=some r:=⟨n,r,hn⟩
  unfold Call
  rw[dif_pos hex]
  have h2:=hex.choose_spec.choose_spec
  have h3:=J9 (Nat.le_max_left n hex.choose) hn
  have h4:=J9 (Nat.le_max_right n hex.choose) h2
  rw[h3] at h4
  exact h4.symm
theorem abM (f:Nat) (a:List V):Call P A f a=oj P A (Call P A) f a:=by
 apply Option.ext
 intro r
 constructor
 ·intro h
  obtain ⟨n,hn⟩:=Aj.1 h
  cases n with
  | zero=>cases hn
  | succ n=>
   obtain ⟨N,hN⟩:=EY (C:=jZ P A n) (D:=fun _=>Call P A) (fun f a r h=>⟨0,fun _ _=>Aj.2 ⟨n,h⟩⟩) hn
   exact hN N (Nat.le_refl _)
 ·intro h
  obtain ⟨N,hN⟩:=EY (C:=Call P A) (D:=jZ P A) (fun f a r h=>by
   obtain ⟨n,hn⟩:=Aj.1 h
   exact ⟨n,fun k hk=>J9 hk hn⟩) h
  exact Aj.2 ⟨N+1,hN N (Nat.le_refl _)⟩
end
end Go.AM
namespace Go.AM
open Go.ChangeShapes Go.WideShapes Go.RowKit
section
variable (P:Program)
inductive WT:TypeId→V→Prop
 | int {t:TypeId} {k:IntKind} {n:Int}:P.underlying t=some (.int k)→(Lit.int k n).wf=true→WT t (.int k n)
 | bool {t:TypeId} {b:Bool}:P.underlying t=some .bool→WT t (.bool b)
 | str {t:TypeId} {l:List UInt8}:P.underlying t=some .string→l.length≤maxLen→WT t (.str l)
 | list {t e:TypeId} {es:List V}:P.underlying t=some (.slice e)→es.length≤maxLen→
   (∀(i:Nat) x,es[i]? =some x→bE P e=true→∃xs,x= .agg xs∧xs.length=(aO P e).length)→
   (∀(i j:Nat) x t',es[i]? =some x→(aO P e)[j]? =some t'→WT t' (bI P e x j))→WT t (.list e es)
def ik (t:TypeId) (x:V):Prop:=
 (bE P t=true→∃xs,x= .agg xs∧xs.length=(aO P t).length)∧∀(j:Nat) t',(aO P t)[j]? =some t'→WT P t' (bI P t x j)
def tF:List TypeId→List V→Prop
 | [],[]=>True
 | t::ts,x::xs=>ik P t x∧tF ts xs
 | _,_=>False
def hasB (L:List TypeId) (t:TypeId):Bool:=L.any fun u=>Nat.beq u t
def EZ (L:List TypeId):Nat→List Field→Bool
 | _,[]=>true
 | n,f::fs=>hasB L f.type&&(Nat.beq f.offset n&&(Nat.beq (P.cellsOf f.type) (aO P f.type).length&&EZ L (n+P.cellsOf f.type) fs))
def Ak:List Nat→List Nat→Bool
 | [],[]=>true
 | a::l,b::m=>Nat.beq a b&&Ak l m
 | _,_=>false
def Ka (L:List TypeId) (t:TypeId):Bool:=
 Nat.beq (P.cellsOf t) (aO P t).length&&
 match P.underlying t with
 | some (.int _)=>true
 | some .bool=>true
 | some .string=>true
 | some (.slice e)=>hasB L e&&cW P e
 | some (.struct fs)=>EZ P L 0 fs.toList&&Ak (flat P t) (fs.toList.flatMap fun f=>aO P f.type)
 | some (.array n e)=>hasB L e&&(Nat.beq (P.cellsOf e) (aO P e).length&&Ak (flat P t) (List.replicate n (aO P e)).flatten)
 | _=>false
def E0 (L:List TypeId):Bool:=L.all fun t=>Ka P L t
end
theorem E1 {L:List TypeId} {t:TypeId} (h:hasB L t=true):t∈L:=by
 obtain ⟨u,hu,h2⟩:=List.any_eq_true.1 h
 rw[Nat.beq_eq] at h2
 exact h2▸hu
theorem Kb: ∀{l m:List Nat},Ak l m=true→l=m
 | [],[],_=>rfl
 | a::l,b::m,h=>by
  simp only[Ak,Bool.and_eq_true,Nat.beq_eq] at h
  rw[h.1,Kb h.2]
 | [],_::_,h=>by cases h
 | _::_,[],h=>by cases h
section
variable {P:Program} {H:Type} {enc:TypeId × Value→H} {w:World} {base:Nat} {spare:Nat→Bool} {held:Bool} {L:List TypeId}
def nw (w:World):Nat→Prop:=fun b=>b<w.heap.size
def ny (P:Program) (w:World) (ts:List TypeId) (cs:List Value) (xs:List V):Prop:=
 cs.length=ts.length∧xs.length=ts.length∧∀(j:Nat) t',ts[j]? =some t'→∃v y,cs[j]? =some v∧xs[j]? =some y∧Pure P w (nw w) t' v y∧WT P t' y
theorem ny.app {ts wi:List TypeId} {cs ig:List Value} {xs RN:List V} (h:ny P w ts cs xs) (h':ny P w wi ig RN):ny P w (ts++wi) (cs++ig) (xs++RN):=by
 obtain ⟨a,b,c⟩:=h
 obtain ⟨a',b',c'⟩:=h'
 refine ⟨by simp[a,a'],by simp[b,b'],fun j t' hj=> ?_⟩
 by_cases aM:j<ts.length
 ·rw[List.getElem?_append_left aM] at hj
  obtain ⟨v,y,e1,e2,e3⟩:=c j t' hj
  exact ⟨v,y,by rw[List.getElem?_append_left (by omega)];exact e1,by rw[List.getElem?_append_left (by omega)];exact e2,e3⟩
 ·rw[List.getElem?_append_right (by omega)] at hj
  obtain ⟨v,y,e1,e2,e3⟩:=c' _ t' hj
  exact ⟨v,y,by rw[List.getElem?_append_right (by omega),a];exact e1,by rw[List.getElem?_append_right (by omega),b];exact e2,e3⟩
theorem abN {w:World} {a:Addr} {v:Value} (h:w.cell? a=some v):a.spot=none∧a.block<w.heap.size:=by
 unfold World.cell? at h
 split at h
 ·rename_i hh
  split at h
  ·cases h
  ·rename_i hs
   exact ⟨by simpa using hs,(Array.getElem?_eq_some_iff.1 hh).1⟩
 all_goals (first|cases h|skip)
theorem RO {rd:TypeId→List Value→Option (DataW H × List MemPlace)} (cs:List Value)
  (ih: ∀t cs x,t∈L→rd t cs=some x→∃xs,ny P w (aO P t) cs xs): ∀(fs:List Field) (n:Nat),EZ P L n fs=true→
  (∀f∈fs,∃x,rd f.type ((cs.drop f.offset).take (P.cellsOf f.type))=some x)→∃m xs,n≤m∧ny P w (fs.flatMap fun f=>aO P f.type) ((cs.drop n).take (m-n)) xs∧m-n=(fs.flatMap fun f=>aO P f.type).length
 | [],n,_,_=>⟨n,[],Nat.le_refl _,⟨by simp,rfl,by simp⟩,by simp⟩
 | f::fs,n,h,hx=>by
  simp only[EZ,Bool.and_eq_true,Nat.beq_eq] at h
  obtain ⟨h1,h2,h3,h4⟩:=h
  obtain ⟨x,hxf⟩:=hx f (by simp)
  obtain ⟨xs,gB⟩:=ih _ _ _ (E1 h1) hxf
  obtain ⟨m,ys,hm,qQ,EK⟩:=RO cs ih fs (n+P.cellsOf f.type) h4 fun g hg=>hx g (by simp[hg])
  refine ⟨m,xs++ys,by omega,?_,by simp only[List.flatMap_cons,List.length_append];omega⟩
  have:=gB.app qQ
  rw[List.flatMap_cons]
  rw[h2] at this
  have e:(cs.drop n).take (m-n)=(cs.drop n).take (P.cellsOf f.type)++(cs.drop (n+P.cellsOf f.type)).take (m-(n+P.cellsOf f.type)):=by
   rw[show m-n=P.cellsOf f.type+(m-(n+P.cellsOf f.type)) by omega,List.take_add,List.drop_drop]
  rw[e]
  exact this
theorem RP {rd:List Value→Option (DataW H × List MemPlace)} (cs:List Value) {e:TypeId} (hs:P.cellsOf e=(aO P e).length)
  (ih: ∀cs x,rd cs=some x→∃xs,ny P w (aO P e) cs xs): ∀(n:Nat),
  (∀i,i<n→∃x,rd ((cs.drop (i*P.cellsOf e)).take (P.cellsOf e))=some x)→∃xs,ny P w (List.replicate n (aO P e)).flatten (cs.take (n*P.cellsOf e)) xs
 | 0,_=>⟨[],by simp,rfl,by simp⟩
 | n+1,hx=>by
  obtain ⟨xs,gB⟩:=RP cs hs ih n fun i hi=>hx i (by omega)
  obtain ⟨x,Ac⟩:=hx n (by omega)
  obtain ⟨ys,qQ⟩:=ih _ _ Ac
  refine ⟨xs++ys,?_⟩
  rw[List.replicate_succ',List.flatten_append]
  have:=gB.app qQ
  rw[Nat.add_mul,Nat.one_mul,List.take_add]
  simpa using this
theorem E2 (hL:E0 P L=true): ∀(fuel:Nat) (t:TypeId) (cs:List Value) (x:DataW H × List MemPlace),t∈L→DataW.trod enc P w base spare held fuel t cs=some x→
  ∃xs,ny P w (aO P t) cs xs
 | 0,_,_,_,_,h=>by cases h
 | fuel+1,t,cs,x,ht,h=>by
  have hg:=List.all_eq_true.1 hL t ht
  unfold Ka at hg
  rw[Bool.and_eq_true,Nat.beq_eq] at hg
  obtain ⟨hc,hg⟩:=hg
  have one:bE P t=false→aO P t=[t]:=fun h=>by simp[aO,h]
  cases hu:P.underlying t with
  | none=>rw[hu] at hg;cases hg
  | some d=>
   rw[hu] at hg
   cases d with
   | int k=>
    obtain ⟨n,rfl,rfl,hwf⟩:=DataW.trod_int hu h
    rw[one (by simp[bE,hu])]
    exact ⟨[.int k n],rfl,rfl,fun j t' hj=>by
     cases j with
     | zero=>cases hj;exact ⟨_,_,rfl,rfl,.int hu,.int hu hwf⟩
     | succ j=>simp at hj⟩
   | bool=>
    obtain ⟨b,rfl,rfl⟩:=DataW.trod_bool hu h
    rw[one (by simp[bE,hu])]
    exact ⟨[.bool b],rfl,rfl,fun j t' hj=>by
     cases j with
     | zero=>cases hj;exact ⟨_,_,rfl,rfl,.bool hu,.bool hu⟩
     | succ j=>simp at hj⟩
   | string=>
    obtain ⟨s,rfl,rfl,hl⟩:=DataW.trod_string hu h
    rw[one (by simp[bE,hu])]
    exact ⟨[.str s.data.toList],rfl,rfl,fun j t' hj=>by
     cases j with
     | zero=>cases hj;exact ⟨_,_,rfl,rfl,.str hu rfl,.str hu (by simpa using hl)⟩
     | succ j=>simp at hj⟩
   | slice e=>
    simp only[Bool.and_eq_true] at hg
    obtain ⟨he,aw⟩:=hg
    rw[one (by simp[bE,hu])]
    have single: ∀v y,cs=[v]→Pure P w (nw w) t v y→WT P t y→∃xs,ny P w [t] cs xs:=by
     rintro v y rfl a b
     exact ⟨[y],rfl,rfl,fun j t' hj=>by
      cases j with
      | zero=>cases hj;exact ⟨_,_,rfl,rfl,a,b⟩
      | succ j=>simp at hj⟩
    rcases DataW.trod_slice hu h with ⟨rfl,rfl⟩|⟨a,len,cap,elems,rest,n,hn,rfl,rfl,hb,hl,hm,hlen,cX,_,_⟩
    ·exact single _ _ rfl (.nil hu) (.list hu (by simp) (by simp) (by simp))
    ·cases hn
     have iE:=(j6 aw).2
     have PQ:P.cellsOf e=(aO P e).length:=(fL aw).symm
     have key: ∀i,i<len→∃ig xs,w.cells? base (a.add (i*P.cellsOf e)) (P.cellsOf e)=some ig∧ny P w (aO P e) ig xs:=by
      intro i hi
      have h1:=cX i hi
      rw[List.getElem?_eq_getElem (by omega)] at h1
      obtain ⟨ig,h2,h3⟩:=Option.bind_eq_some_iff.1 h1
      obtain ⟨xs,gB⟩:=E2 hL fuel e ig _ (E1 he) h3
      exact ⟨ig,xs,h2,gB⟩
     by_cases h0:len=0
     ·subst h0
      exact single _ _ rfl (.emp hu) (.list hu (by simp) (by simp) (by simp))
     ·have kL:a.spot=none∧a.block<w.heap.size:=by
       obtain ⟨ig,xs,h2,_⟩:=key 0 (by omega)
       obtain ⟨_,h3,h4⟩:=World.cells?_some h2
       have h5:=h4 0 iE
       rw[List.getElem?_eq_getElem (by omega)] at h5
       have:=abN h5
       simpa[Addr.add] using this
      have hF: ∃(F:Nat→List Value) (X:Nat→List V),∀i,i<len→w.cells? base (a.add (i*P.cellsOf e)) (P.cellsOf e)=some (F i)∧ny P w (aO P e) (F i) (X i):=by
       refine ⟨fun i=>if hi:i<len then (key i hi).choose else [],fun i=>if hi:i<len then (key i hi).choose_spec.choose else [],fun i hi=> ?_⟩
       simp only[dif_pos hi]
       exact (key i hi).choose_spec.choose_spec
      obtain ⟨F,X,Kc⟩:=hF
      have hx: ∀(i j:Nat) y t',((List.range len).map fun i=>ct P e (X i))[i]? =some y→(aO P e)[j]? =some t'→i<len∧∃v,(F i)[j]? =some v∧Pure P w (nw w) t' v (bI P e y j)∧WT P t' (bI P e y j):=by
       intro i j y t' hy hj
       have hi:i<len:=by
        have:=(List.getElem?_eq_some_iff.1 hy).1
        simpa using this
       refine ⟨hi,?_⟩
       simp[List.getElem?_range hi] at hy
       obtain ⟨c1,c2,c3⟩:=(Kc i hi).2
       obtain ⟨v,z,d1,d2,d3,d4⟩:=c3 j t' hj
       have:bI P e y j=z:=by
        rw[←hy]
        unfold bI ct
        cases ha:bE P e with
        | true=>
         simp only[cond_true,V.cell]
         rw[ud _ _ _ d2]
        | false=>
         simp only[cond_false]
         have:aO P e=[e]:=by simp[aO,ha]
         rw[this] at hj
         cases j with
         | zero=>rw[ud _ _ _ d2]
         | succ j=>simp at hj
       rw[this]
       exact ⟨v,d1,d3,d4⟩
      have gn: ∀i j,i<len→j<P.cellsOf e→w.cell? ⟨a.block,a.off+(i*P.cellsOf e+j),none⟩=some ((F i).getD j undef):=by
       intro i j hi hj
       obtain ⟨h1,h2⟩:=Kc i hi
       obtain ⟨_,h3,h4⟩:=World.cells?_some h1
       have h5:=h4 j hj
       rw[Go.Deep.add_add] at h5
       have e1:a.add (i*P.cellsOf e+j)=⟨a.block,a.off+(i*P.cellsOf e+j),none⟩:=by
        obtain ⟨b,o,s⟩:=a
        simp only at kL
        rw[kL.1]
        exact nn ..
       rw[e1] at h5
       rw[h5,List.getD_eq_getElem?_getD,List.getElem?_eq_getElem (by omega)]
       rfl
      have ha:a=⟨a.block,a.off,none⟩:=by
       obtain ⟨b,o,s⟩:=a
       simp only at kL
       rw[kL.1]
      refine single (.slice (some a) len cap) (.list e ((List.range len).map fun i=>ct P e (X i))) rfl ?_ ?_
      ·rw[ha]
       refine .list (fun i j=>(F i).getD j undef) hu (by simp) hl (fun _=>kL.2) gn ?_
       intro i j y t' hy hj
       obtain ⟨hi,v,d1,d2,_⟩:=hx i j y t' hy hj
       rw[List.getD_eq_getElem?_getD,d1]
       exact d2
      ·refine .list hu (by simp;omega) ?_ ?_
       ·intro i y hy E3
        have hi:i<len:=by
         have:=(List.getElem?_eq_some_iff.1 hy).1
         simpa using this
        simp[List.getElem?_range hi] at hy
        rw[←hy]
        exact ⟨X i,by simp[ct,E3],(Kc i hi).2.2.1⟩
       ·intro i j y t' hy hj
        obtain ⟨_,v,_,_,d3⟩:=hx i j y t' hy hj
        exact d3
   | struct fs=>
    simp only[Bool.and_eq_true] at hg
    obtain ⟨xs,n,hn,rfl,hlen,kb,hx⟩:=DataW.trod_struct hu h
    cases hn
    have het:aO P t=fs.toList.flatMap fun f=>aO P f.type:=by
     rw[←Kb hg.2]
     simp[aO,bE,hu]
    obtain ⟨m,ys,_,qQ,hm⟩:=RO (w:=w) (rd:=fun t cs=>DataW.trod enc P w base spare held fuel t cs) cs (fun t cs x a b=>E2 hL fuel t cs x a b) fs.toList 0 hg.1 (by
     intro f hf
     obtain ⟨i,hi⟩:=List.getElem?_of_mem hf
     rw[Array.getElem?_toList] at hi
     have qD:i<fs.size:=(Array.getElem?_eq_some_iff.1 hi).1
     exact ⟨_,(hx i f hi).trans (List.getElem?_eq_getElem (by omega))⟩)
    rw[het]
    refine ⟨ys,?_⟩
    have:(cs.drop 0).take (m-0)=cs:=by
     rw[List.drop_zero,hm,←het,←hc,←hlen,List.take_length]
    rw[this] at qQ
    exact qQ
   | array n e=>
    simp only[Bool.and_eq_true,Nat.beq_eq] at hg
    obtain ⟨xs,m,hn,rfl,hlen,kb,hx⟩:=DataW.trod_array hu h
    cases hn
    have het:aO P t=(List.replicate n (aO P e)).flatten:=by
     rw[←Kb hg.2.2]
     simp[aO,bE,hu]
    obtain ⟨ys,qQ⟩:=RP (w:=w) (rd:=DataW.trod enc P w base spare held fuel e) cs hg.2.1 (fun cs x b=>E2 hL fuel e cs x (E1 hg.1) b) n (by
     intro i hi
     exact ⟨_,(hx i hi).trans (List.getElem?_eq_getElem (by omega))⟩)
    rw[het]
    refine ⟨ys,?_⟩
    have:cs.take (n*P.cellsOf e)=cs:=by
     have:n*P.cellsOf e=cs.length:=by
      rw[hlen,hc,het,hg.2.1]
      simp
     rw[this,List.take_length]
    rw[this] at qQ
    exact qQ
   | _=>cases hg
end
section
variable {P:Program} {H:Type} {enc:TypeId × Value→H} {w:World} {L:List TypeId}
theorem abO {base Kd:Nat} {spare:Nat→Bool} {held:Bool} {r:Reach} {β:Nat→Option Nat} {hp:Nat→Option ag} (hL:E0 P L=true) {t:TypeId} {v:Value} {d:DataW H} {ps:List MemPlace} (ht:t∈L) (fF:Value.okWide P w r Kd t v)
  (h:DataW.Trod enc P w base spare held t v d ps): ∃x,ah P w (nw w) β hp v x∧ik P t x:=by
 obtain ⟨fuel,hf⟩:=h
 obtain ⟨xs,c1,c2,c3⟩:=E2 hL fuel t _ _ ht hf
 have hg:=List.all_eq_true.1 hL t ht
 unfold Ka at hg
 rw[Bool.and_eq_true,Nat.beq_eq] at hg
 obtain ⟨_,hg⟩:=hg
 have E3:bE P t=true→∃x,ah P w (nw w) β hp v x∧ik P t x:=by
  intro ha
  have hv: ∃cs,v= .agg cs:=by
   unfold Value.okWide at fF
   unfold bE at ha
   split at fF
   ·obtain ⟨cs,e,_⟩:=fF;exact ⟨cs,e⟩
   ·obtain ⟨cs,e,_⟩:=fF;exact ⟨cs,e⟩
   ·split at ha<;>simp_all
  obtain ⟨cs,rfl⟩:=hv
  refine ⟨.agg xs,.agg (by simpa[Value.cells] using c1.trans c2.symm) fun j v x hv hx=> ?_,fun _=>⟨xs,rfl,c2⟩,fun j t' hj=> ?_⟩
  ·have hj:j<(aO P t).length:=by rw[←c2];exact (List.getElem?_eq_some_iff.1 hx).1
   obtain ⟨v',y,e1,e2,e3,_⟩:=c3 j _ (List.getElem?_eq_getElem hj)
   rw[hx] at e2
   cases e2
   have:cs[j]? =some v':=by simpa[Value.cells] using e1
   rw[hv] at this
   cases this
   exact .qm e3
  ·obtain ⟨v',y,e1,e2,_,e4⟩:=c3 j t' hj
   have:bI P t (.agg xs) j=y:=by
    simp only[bI,ha,cond_true,V.cell]
    exact ud _ _ _ e2
   rw[this]
   exact e4
 have qA:bE P t=false→v.cells= #[v]→∃x,ah P w (nw w) β hp v x∧ik P t x:=by
  intro ha uj
  have he:aO P t=[t]:=by simp[aO,ha]
  rw[he] at c1 c2 c3
  obtain ⟨v',y,e1,e2,e3,e4⟩:=c3 0 t rfl
  rw[uj] at e1
  cases e1
  refine ⟨y,.qm e3,⟨fun h=>absurd (ha.symm.trans h) (by simp),fun j t' hj=> ?_⟩⟩
  rw[he] at hj
  cases j with
  | succ j=>simp at hj
  | zero=>
   cases hj
   simpa[bI,ha] using e4
 unfold Value.okWide at fF
 cases hu:P.underlying t with
 | none=>rw[hu] at hg;cases hg
 | some dsc=>
  rw[hu] at hg fF
  cases dsc with
  | int k=>
   refine qA (by simp[bE,hu]) ?_
   simp only[Cell.okWide,Cell.ok,hu] at fF
   cases v<;>first|rfl|(simp at fF;done)|exact fF.elim
  | bool=>
   refine qA (by simp[bE,hu]) ?_
   simp only[Cell.okWide,Cell.ok,hu] at fF
   cases v<;>first|rfl|(simp at fF;done)|exact fF.elim
  | string=>
   refine qA (by simp[bE,hu]) ?_
   simp only[Cell.okWide,Cell.ok,hu] at fF
   cases v<;>first|rfl|(simp at fF;done)|exact fF.elim
  | slice e=>
   refine qA (by simp[bE,hu]) ?_
   simp only[Cell.okWide,Cell.ok,hu] at fF
   cases v<;>first|rfl|(simp at fF;done)|exact fF.elim
  | struct fs=>exact E3 (by simp[bE,hu])
  | array n e=>exact E3 (by simp[bE,hu])
  | _=>cases hg
theorem RQ {base Kd:Nat} {spare:Nat→Bool} {held:Bool} {r:Reach} {β:Nat→Option Nat} {hp:Nat→Option ag} (hL:E0 P L=true): ∀{ts:List TypeId} {vs:List Value} {ds:List (DataW H)} {ps:List MemPlace},
  (∀t∈ts,t∈L)→(∀(j:Nat) t v,ts[j]? =some t→vs[j]? =some v→Value.okWide P w r Kd t v)→DataW.TrodAll enc P w base spare held ts vs ds ps→
  ∃xs,vs.length=xs.length∧(∀(j:Nat) v x,vs[j]? =some v→xs[j]? =some x→ah P w (nw w) β hp v x)∧tF P ts xs
 | [],vs,ds,ps,_,_,h=>by
  obtain ⟨rfl,rfl,rfl⟩:=trodAll_nil h
  exact ⟨[],rfl,by simp,trivial⟩
 | t::ts,vs,ds,ps,hm,fF,h=>by
  obtain ⟨v,DM,d,RR,a,b,rfl,rfl,rfl,h1,h2⟩:=trodAll_cons h
  obtain ⟨x,Ac,nq⟩:=abO (β:=β) (hp:=hp) hL (hm t (by simp)) (fF 0 t v rfl rfl) h1
  obtain ⟨xs,hl,hr,hw⟩:=RQ (β:=β) (hp:=hp) hL (fun t ht=>hm t (by simp[ht])) (fun j t v a b=>fF (j+1) t v (by simpa using a) (by simpa using b)) h2
  refine ⟨x::xs,by simp[hl],fun j v' x' hv hx=> ?_,nq,hw⟩
  cases j with
  | zero=>cases hv;cases hx;exact Ac
  | succ j=>exact hr j v' x' (by simpa using hv) (by simpa using hx)
theorem RS {base:Nat} {spare:Nat→Bool} {held:Bool}: ∀{ts:List TypeId} {vs:List Value} {ds:List (DataW H)} {ps:List MemPlace},DataW.TrodAll enc P w base spare held ts vs ds ps→ds.length=ts.length
 | [],vs,ds,ps,h=>by obtain ⟨rfl,rfl,rfl⟩:=trodAll_nil h;rfl
 | t::ts,vs,ds,ps,h=>by
  obtain ⟨v,DM,d,RR,a,b,rfl,rfl,rfl,h1,h2⟩:=trodAll_cons h
  simp[RS h2]
theorem RT {base:Nat} (hl:laidOutB P=true) {W W':World} {RU:Nat→Bool}: ∀{ts:List TypeId} {vs:List Value} {ds:List (DataW H)} {ps:List MemPlace},(∀t∈ts,P.readableRec t=true∧t<P.types.size)→
  DataW.TrodAll enc P W base (fun _=>true) true ts vs ds ps→(∀p∈ps,W.sameAt W' p)→(∀p∈ps,RU p.block=true)→DataW.TrodAll enc P W' base RU true ts vs ds ps
 | [],vs,ds,ps,_,h,_,_=>by obtain ⟨rfl,rfl,rfl⟩:=trodAll_nil h;exact trodAll_mk0
 | t::ts,vs,ds,ps,hr,h,h1,h2=>by
  obtain ⟨v,DM,d,RR,a,b,rfl,rfl,rfl,h3,h4⟩:=trodAll_cons h
  obtain ⟨r1,r2⟩:=hr t (by simp)
  exact trodAll_cons_mk (WideElems.Trod_stays hl r1 r2 h3 (fun p hp=>h1 p (by simp[hp])) (fun p hp=>h2 p (by simp[hp])))
   (RT hl (fun t ht=>hr t (by simp[ht])) h4 (fun p hp=>h1 p (by simp[hp])) (fun p hp=>h2 p (by simp[hp])))
theorem abP {f:Func} {s:ChangeSpec} {apart fresh handsOn again:Bool} {W W':World} {args:Array Value} {v:Value} {ds gs:List (DataW H)} {before pa pv:List MemPlace}
  (hW:DataW.Whole enc P f.params.toList s.vars apart W args.toList ds gs before)
  (RV: ∀(b:Nat) (sp:Nat→Bool) (hd:Bool),DataW.TrodAll enc P W' b sp hd f.resultTypes.toList (v.resultList f.resultTypes.size) (s.fn H (ds++gs)).results [])
  (uD: ∀sp:Nat→Bool,(∀p∈before,sp p.block=true)→DataW.TrodAll enc P W' 0 sp true f.params.toList args.toList (s.fn H (ds++gs)).args pa)
  (RW: ∀sp:Nat→Bool,(∀p∈before,sp p.block=true)→DataW.TrodVars enc P W' sp s.vars (s.fn H (ds++gs)).vars pv)
  (E4:before=pa++pv) (hk:W.keptBut W' (· ∈before)) (RX: ∀a:Addr,a.block<W.heap.size→W'.frozen? a=W.frozen? a)
  (aw: ∀(j:Nat) (t:TypeId) (r:Value),f.resultTypes[j]? =some t→(v.resultList f.resultTypes.size)[j]? =some r→Value.okWide P W' .any 0 t r):
  s.post enc P f apart fresh handsOn again W args v W':=by
 have hold: ∀p∈before,(fun b=>decide (b<W.heap.size)) p.block=true:=fun p hp=>by simpa using hW.lt p hp
 refine ⟨ds,gs,before,[],pa,pv,hW,RV _ _ _,uD _ hold,RW _ hold,World.keptBut_mono (fun p hp=>⟨hp,?_⟩) hk,fun _=> ?_⟩
 ·rw[E4,List.mem_append] at hp
  exact Or.inr hp
 ·have aM:=hW.lt
  obtain ⟨_,_,_,_,_,hz,hn⟩:=hW
  refine ⟨aw,_,_,([]++pa)++pv,⟨[]++pa,pv,trodAll_append (uD _ (fun _ _=>rfl)) (RV _ _ _),RW _ (fun _ _=>rfl),rfl,?_,?_⟩,?_⟩
  ·intro b off hp
   have hb:MemPlace.cell b off∈before:=by rw[E4];simpa using hp
   rw[RX ⟨b,off,none⟩ (aM _ hb)]
   exact hz b off hb
  ·intro ha
   have:=hn ha
   rw[E4] at this
   simpa using this
  ·intro p hp _
   rw[E4]
   simpa using hp
theorem YT {A:cF} (hP:jk P A) (pC:P.follows .mixedOrders=true) {f key:Nat} {fn:Func} {tb:TypeId} {s:ChangeSpec} {apart fresh handsOn again:Bool}
  (hf:P.funcs[f]? =some fn) (abQ:A.aT key=f) (hL:E0 P L=true) (fM:fn.params.toList.all (fun t=>hasB L t)=true) (RY:fn.resultTypes= #[tb]) (RZ:P.underlying tb=some .bool) (R0:s.vars=[])
  (hs: ∀ds:List (DataW H),ds.length=fn.params.toList.length→s.fn H ds={results:=[.lit (.bool true)],args:=ds})
  (abR:laidOutB P=true) (abS:fn.params.toList.all (fun t=>P.readableRec t&&Nat.blt t P.types.size)=true)
  (fj:(A.sin key).aX=[]) (aw:((A.sin key).bG.map (·.2)).all (VS.ok 0)=true) (abT:(A.fG key).bG=[(0,.one .bool)]) (halt:A.alt key=none)
  (abU: ∀xs,tF P fn.params.toList xs→∃ds,sg ((A.sin key).bG.map (·.2)) xs=some ds∧Call P A key ds=some [.bool true])
  {W:World} {base:Nat} {args:Array Value} {ds gs:List (DataW H)} {before:List MemPlace}
  (abV:gM P A.aB W (nw W)) (fF: ∀(j:Nat) t v,fn.params[j]? =some t→args[j]? =some v→Value.okWide P W .any base t v)
  (hW:DataW.Whole enc P fn.params.toList s.vars apart W args.toList ds gs before):
  Calls P f args W fun e W'=> ∃v,e= .returned v∧s.post enc P fn apart fresh handsOn again W args v W':=by
 have R3:=hW
 obtain ⟨p,q,hA,hV,rfl,RX,kf⟩:=hW
 rw[R0] at hV
 obtain ⟨hgs,hq⟩:gs=[]∧q=[]:=by
  cases gs with
  | nil=>exact ⟨rfl,hV⟩
  | cons g gs=>exact hV.elim
 subst hgs
 subst hq
 obtain ⟨xs,hl,hr,hwt⟩:=RQ (β:=fun _=>none) (hp:=fun _=>none) hL (fun t ht=>E1 (List.all_eq_true.1 fM t ht)) (fun j t v a b=>fF j t v (by simpa using a) (by simpa using b)) hA
 obtain ⟨ls,hls,Aa⟩:=abU xs hwt
 obtain ⟨fn',c,h1,h2,h3⟩:=abJ (A:=A) hP pC key ls [.bool true] Aa
 rw[abQ] at h1 h3
 rw[hf] at h1
 cases h1
 have xd: ∀j,(bd (A.sin key) ls).hp j=none:=fun j=>by simp[bd,mk,fj,eR,jv]
 obtain ⟨_,r1,r2⟩:=zX (P:=P) (w:=W) (I:=nw W) (n:=0) (β:=fun _=>none) (ao:=fun _=>none) (hp:=fun _=>none) (hp':=(bd (A.sin key) ls).hp) (fun j hj=>absurd hj (Nat.not_lt_zero j)) hls aw
 have hlen:((A.sin key).bG.map (·.2)).length=xs.length:=by rw[←r1 [],J8]
 have h4:=h3 W (nw W) (fun _=>none) args.toList ⟨fun id blk h=>(by rw[xd] at h;cases h),fun id aA blk blk' b h=>(by rw[xd] at h;cases h),fun id blk b h=>(by rw[xd] at h;cases h),fun b h=>h⟩ abV
  (by rw[hl,←hlen,List.length_map]) (fun j v y hv hy=>r2 [] j v y (fun x hx=>hr j v x hv hx) (by rw[List.append_nil];exact hy))
 have ea:args.toList.toArray=args:=by simp
 rw[ea] at h4
 refine h4.mono fun e W' ⟨v,I2,b8,he,ha⟩=>⟨v,he,?_⟩
 have ug: ∀b,b<W.heap.size→W'.heap[b]? =W.heap[b]? :=fun b hb=>ha.wZ.cf b hb (by rintro ⟨j,blk,hj,_⟩;rw[xd] at hj;cases hj)
 have Jt:=ha.res
 have R4:A.so key [.bool true]=A.fG key∧A.lv key [.bool true]=[.bool true]:=by unfold cF.so cF.lv;rw[halt];exact ⟨rfl,rfl⟩
 rw[R4.1,R4.2,abT] at Jt
 obtain rfl:v= .bool true:=Jt.jB
 have lr:Value.okWide P W' .any 0 tb (.bool true):=by simp[Value.okWide,RZ,Cell.okWide,Cell.ok]
 have lf:ds.length=fn.params.toList.length:=RS hA
 have iK: ∀p'∈p++[],W.sameAt W' p':=by
  intro p' hp'
  have aM:=R3.lt p' hp'
  cases p' with
  | cell b o=>exact World.cell?_of_block (w:=W) (ug b aM)
  | map b=>exact ug b aM
 refine abP (pa:=p) (pv:=[]) R3 ?_ ?_ ?_ rfl ?_ ?_ ?_
 ·intro b sp hd
  rw[List.append_nil,hs ds lf,RY]
  exact trodAll_mk1 ⟨1,by simp[DataW.trod,Value.cells,RZ]⟩
 ·intro sp kL
  rw[List.append_nil,hs ds lf]
  refine RT abR (fun t ht=> ?_) hA (fun p' hp'=>iK p' (by simpa using hp')) (fun p' hp'=>kL p' (by simpa using hp'))
  have:=List.all_eq_true.1 abS t ht
  simp only[Bool.and_eq_true] at this
  exact ⟨this.1,by simpa[Nat.blt_eq] using this.2⟩
 ·intro sp kL
  rw[R0,List.append_nil,hs ds lf]
  exact rfl
 ·refine ⟨ha.wZ.io.1,ha.wZ.io.2,fun i hi=> ?_⟩
  rw[ug i hi]
  split<;>simp_all
 ·intro a aM
  exact World.frozen?_of_block (w:=W) (ug a.block aM)
 ·intro j t r hj Ke
  rw[RY] at hj Ke
  cases j with
  | zero=>
   simp[Value.resultList] at hj Ke
   subst hj
   subst Ke
   exact lr
  | succ j=>simp at hj
end
end Go.AM
namespace Go.AM
@[simp] theorem V.toInt_int (k:IntKind) (n:Int):V.toInt (.int k n)=n:=by cases k<;>rfl
@[simp] theorem V.oG (b:Bool):V.toBool (.bool b)=b:=by cases b<;>rfl
@[simp] theorem V.akX (s:List UInt8):V.toStr (.str s)=s:=by cases s<;>rfl
@[simp] theorem V.pD (e:TypeId) (es:List V):V.toList (.list e es)=es:=by cases es<;>rfl
@[simp] theorem V.akY (e:TypeId) (es:List V):V.toList (.own e es)=es:=by cases es<;>rfl
@[simp] theorem V.abW (cs:List V) (j:Nat):V.cell (.agg cs) j=V.nth cs j:=by cases cs<;>rfl
@[simp] theorem V.akZ (cs:List V) (j:Nat):V.comp (.a8 cs) j=V.nth cs j:=by cases cs<;>rfl
@[simp] theorem V.cu (x:V) (l:List V):V.nth (x::l) 0=x:=by cases l<;>rfl
@[simp] theorem V.qR (x:V) (l:List V) (n:Nat):V.nth (x::l) (n+1)=V.nth l n:=by cases l<;>rfl
@[simp] theorem V.ak0 (x y:V) (l:List V):V.nth (x::y::l) 1=y:=by cases l<;>rfl
@[simp] theorem V.ak1 (x y z:V) (l:List V):V.nth (x::y::z::l) 2=z:=by cases l<;>rfl
@[simp] theorem V.ak2 (x y z u:V) (l:List V):V.nth (x::y::z::u::l) 3=u:=by cases l<;>rfl
theorem wrap64 {x:Int} (h1: -9223372036854775808≤x) (h2:x<9223372036854775808):IntKind.wrap .i64 x=x:=by
 rw[IntKind.wrap_i64];omega
theorem Kf {x:Int} (h1:0≤x) (h2:x<256):IntKind.wrap .u8 x=x:=by
 rw[IntKind.wrap_u8];omega
theorem Kg {es:List V} {i:Int} {n:Nat} (h:i=n):idx es i=es[n]? :=by
 subst h;simp[idx]
theorem abX {α:Type} {f:α→V} {l:List α} {i:Int} {n:Nat} (h:i=n) (hn:n<l.length):idx (l.map f) i=some (f l[n]):=by
 rw[Kg h];simp[hn]
@[simp] theorem E5 (es:List V) (n:Nat):idx es (n:Int)=es[n]? :=by simp[idx]
section
variable {X R:Type} {step:X→Option (X ⊕ R)}
theorem R5 (Inv:X→Prop) (μ:X→Nat) (Q:R→Prop)
  (h: ∀x,Inv x→(∃y,step x=some (.inl y)∧Inv y∧μ y<μ x)∨∃r,step x=some (.inr r)∧Q r):
  ∀x,Inv x→∃r,Loop step x=some r∧Q r:=by
 intro x
 induction hm:μ x using Nat.strongRecOn generalizing x with
 | ind m ih=>
  intro hx
  rcases h x hx with ⟨y,h1,h2,h3⟩|⟨r,h1,h2⟩
  ·obtain ⟨r,h4,h5⟩:=ih (μ y) (by omega) y rfl h2
   exact ⟨r,(eg h1).trans h4,h5⟩
  ·exact ⟨r,ca h1,h2⟩
theorem E6 (s:Nat→X) (n:Nat) {r:R} (h: ∀i,i<n→step (s i)=some (.inl (s (i+1)))) (he:step (s n)=some (.inr r)):Loop step (s 0)=some r:=by
 induction n generalizing s with
 | zero=>exact ca he
 | succ n ih=>
  rw[eg (h 0 (by omega))]
  exact ih (fun i=>s (i+1)) (fun i hi=>h (i+1) (by omega)) he
end
@[simp] theorem aE {α:Type} (p:Prop) [Decidable p] (a b:α):(bif decide p then a else b)=if p then a else b:=by by_cases h:p<;>simp[h]
@[simp] theorem qS {α:Type} (m n:Int) (a b:α):(bif m==n then a else b)=if m=n then a else b:=by
 by_cases h:m=n
 ·simp[h]
 ·have:(m==n)=false:=by simp[h]
  rw[this,if_neg h];rfl
@[simp] theorem sV {α:Type} (m n:Int) (a b:α):(bif m != n then a else b)=if m=n then b else a:=by
 by_cases h:m=n
 ·simp[h]
 ·have:(m != n)=true:=by simp[h]
  rw[this,if_neg h];rfl
@[simp] theorem gS {α:Type} (c:Bool) (a b:α):(bif !c then a else b)=bif c then b else a:=by cases c<;>rfl
@[simp] theorem Kh {α:Type} (m n:Nat) (a b:α):(bif Nat.ble m n then a else b)=if m≤n then a else b:=by
 cases hb:Nat.ble m n with
 | true=>rw[if_pos (Nat.le_of_ble_eq_true hb)];rfl
 | false=>
  rw[if_neg fun h=> ?_]
  ·rfl
  ·rw[Nat.ble_eq_true_of_le h] at hb;cases hb
@[simp] theorem ed {α:Type} (c d:Bool) (a b:α):(bif c&&d then a else b)=bif c then (bif d then a else b) else b:=by cases c<;>rfl
section
variable {P:Program}
def R6 (P : Program) : Bool := P.funcs.all fun fn => !(fn.name == "runtime.NumGoroutine")
theorem abY (h:R6 P=true):w6 P:=by
 intro f fn hf
 unfold R6 at h
 have:=(Array.all_eq_true_iff_forall_mem.1 h) fn (Array.mem_of_getElem? hf)
 simpa using this
theorem Ie {t:TypeId} {ts:List TypeId} {xs:List V} (h:tF P (t::ts) xs): ∃x ys,xs=x::ys∧ik P t x∧tF P ts ys:=by
 cases xs with
 | nil=>exact h.elim
 | cons x ys=>exact ⟨x,ys,rfl,h.1,h.2⟩
theorem YP {xs:List V} (h:tF P [] xs):xs=[]:=by
 cases xs with
 | nil=>rfl
 | cons x ys=>exact h.elim
theorem ik.one {t:TypeId} {x:V} (ha:bE P t=false) (h:ik P t x):WT P t x:=by
 have he:aO P t=[t]:=by simp[aO,ha]
 have:=h.2 0 t (by rw[he];rfl)
 simpa[bI,ha] using this
theorem WT.eC {t:TypeId} {k:IntKind} {x:V} (hu:P.underlying t=some (.int k)) (h:WT P t x): ∃n,x= .int k n∧k.min≤n∧n≤k.max:=by
 cases h with
 | int h1 h2=>
  rw[hu] at h1
  cases h1
  simp only[Lit.wf,Bool.and_eq_true,decide_eq_true_eq] at h2
  exact ⟨_,rfl,h2⟩
 | bool h1=>rw[hu] at h1;cases h1
 | str h1=>rw[hu] at h1;cases h1
 | list h1=>rw[hu] at h1;cases h1
theorem WT.jB {t:TypeId} {x:V} (hu:P.underlying t=some .bool) (h:WT P t x): ∃b,x= .bool b:=by
 cases h with
 | int h1=>rw[hu] at h1;cases h1
 | bool h1=>exact ⟨_,rfl⟩
 | str h1=>rw[hu] at h1;cases h1
 | list h1=>rw[hu] at h1;cases h1
theorem WT.mr {t:TypeId} {x:V} (hu:P.underlying t=some .string) (h:WT P t x): ∃s,x= .str s∧s.length≤maxLen:=by
 cases h with
 | int h1=>rw[hu] at h1;cases h1
 | bool h1=>rw[hu] at h1;cases h1
 | str h1 h2=>exact ⟨_,rfl,h2⟩
 | list h1=>rw[hu] at h1;cases h1
theorem WT.Ki {t e:TypeId} {x:V} (hu:P.underlying t=some (.slice e)) (h:WT P t x): ∃es,x= .list e es∧es.length≤maxLen∧∀y∈es,ik P e y:=by
 cases h with
 | int h1=>rw[hu] at h1;cases h1
 | bool h1=>rw[hu] at h1;cases h1
 | str h1=>rw[hu] at h1;cases h1
 | list h1 h2 h3 h4=>
  rw[hu] at h1
  cases h1
  refine ⟨_,rfl,h2,fun y hy=> ?_⟩
  obtain ⟨i,hi⟩:=List.getElem?_of_mem hy
  exact ⟨h3 i y hi,fun j t' hj=>h4 i j y t' hi hj⟩
theorem ik.kH {t:TypeId} {x:V} (ha:bE P t=true) (h:ik P t x): ∃xs,x= .agg xs∧xs.length=(aO P t).length∧∀(j:Nat) t' y,(aO P t)[j]? =some t'→xs[j]? =some y→WT P t' y:=by
 obtain ⟨xs,rfl,hl⟩:=h.1 ha
 refine ⟨xs,rfl,hl,fun j t' y hj hy=> ?_⟩
 have:=h.2 j t' hj
 simp only[bI,ha,cond_true,V.abW] at this
 rw[ud _ _ _ hy] at this
 exact this
theorem R7 {α:Type} {f:α→V}: ∀{es:List V},(∀y∈es,∃a,y=f a)→∃l:List α,es=l.map f
 | [],_=>⟨[],rfl⟩
 | y::es,h=>by
  obtain ⟨a,rfl⟩:=h y (by simp)
  obtain ⟨l,rfl⟩:=R7 (f:=f) (es:=es) fun z hz=>h z (by simp[hz])
  exact ⟨a::l,rfl⟩
theorem Kj {α:Type} {f:α→V} {p:α→Prop}: ∀{es:List V},(∀y∈es,∃a,y=f a∧p a)→∃l:List α,es=l.map f∧∀a∈l,p a
 | [],_=>⟨[],rfl,by simp⟩
 | y::es,h=>by
  obtain ⟨a,rfl,ha⟩:=h y (by simp)
  obtain ⟨l,rfl,hl⟩:=Kj (f:=f) (p:=p) (es:=es) fun z hz=>h z (by simp[hz])
  exact ⟨a::l,rfl,by
   intro b hb
   rcases List.mem_cons.1 hb with rfl|hb
   ·exact ha
   ·exact hl b hb⟩
theorem ik.int {t:TypeId} {x:V} (hu:P.underlying t=some (.int .i64)) (h:ik P t x): ∃n,x= .int .i64 n∧IntKind.min .i64≤n∧n≤IntKind.max .i64:=
 (h.one (by simp[bE,hu])).eC hu
theorem ik.str {t:TypeId} {x:V} (hu:P.underlying t=some .string) (h:ik P t x): ∃s,x= .str s∧s.length≤maxLen:=
 (h.one (by simp[bE,hu])).mr hu
end
def un.{u} {A B:Type} {γ:Sort u} (f:A→B→γ) (p:A × B):γ:=f p.1 p.2
def dA {A B γ:Type} (f:A→γ) (g:B→γ):A ⊕ B→γ
 | .inl a=>f a
 | .inr b=>g b
def aq:List Nat→Code→Code
 | [],c=>c
 | 0::p,.seq a _=>aq p a
 | _::p,.seq _ b=>aq p b
 | 0::p,.cond _ a _=>aq p a
 | _::p,.cond _ _ b=>aq p b
 | _::p,.block _ c=>aq p c
 | _::p,.loop c=>aq p c
 | _,c=>c
inductive cv where
 | loop (c:Code)
 | cond (t:Nat) (x y:Code)
section
variable (P:Program) (A:cF) (C:ae) (L:cy) (f n m:Nat)
def pE:Code→List cv
 | .seq a b=>pE a++pE b
 | .cond (.tmp t) x y=>
  match A.gx f (t*16+15) with
  | none=>pE x++pE y
  | some _=>[.cond t x y]
 | .cond (.const _) x y=>pE x++pE y
 | .block _ c=>pE c
 | .loop c=>[.loop c]
 | _=>[]
def cw:cv→Prop
 | .loop c=>
  match A.gx f (keyOf c+1) with
  | none=>True
  | some S=> ∀(β:Type) ds (k:Nat→List V→Option β),L β (keyOf c+1) ds k=(Loop (stepG P A C f n m S c) ds).bind fun r=>k r.1 r.2
 | .cond t x y=>
  match A.gx f (t*16+15) with
  | none=>True
  | some S=> ∀(β:Type) ds (k:Nat→List V→Option β),L β (t*16+15) ds k=(zk P A C f n m t S x y ds).bind fun r=>k r.1 r.2
def nz:List cv→Prop
 | []=>True
 | b::l=>cw P A C L f n m b∧nz l
variable {P A C L f n m}
theorem nz.left {a b:List cv}:nz P A C L f n m (a++b)→nz P A C L f n m a:=by
 induction a with
 | nil=>exact fun _=>trivial
 | cons x a ih=>exact fun h=>⟨h.1,ih h.2⟩
theorem nz.right {a b:List cv}:nz P A C L f n m (a++b)→nz P A C L f n m b:=by
 induction a with
 | nil=>exact fun h=>h
 | cons x a ih=>exact fun h=>ih h.2
theorem aV: ∀{c:Code} {bs:List cv},pE A f c=bs→nz P A C L f n m bs→ia P A C L f n m c:=by
 intro c
 induction c with
 | seq a b ID IE=>
  intro bs h hb
  subst h
  exact ⟨ID rfl hb.left,IE rfl hb.right⟩
 | cond c x y fV fW=>
  intro bs h hb
  subst h
  cases c with
  | tmp t=>
   simp only[pE] at hb
   simp only[ia]
   cases hs:A.gx f (t*16+15) with
   | none=>
    rw[hs] at hb
    exact ⟨fV rfl hb.left,fW rfl hb.right⟩
   | some S=>
    rw[hs] at hb
    have:=hb.1
    simp only[cw,hs] at this
    exact this
  | const v=>exact ⟨fV rfl hb.left,fW rfl hb.right⟩
  | _=>trivial
 | block id c ih=>
  intro bs h hb
  subst h
  exact ih rfl hb
 | loop c ih=>
  intro bs h hb
  subst h
  exact hb.1
 | _=>intro bs h hb;trivial
variable (P A C L f n m) in
noncomputable def Kk {β:Type} (t:Nat) (S:Shape × List (Out × Shape)) (x y:Code) (ds:List V) (k:Nat→List V→Option β):Option β:=
 let kc:Out→St→Option β:=fun o st=>
  match o with
  | .norm=>(ways m 0 S.2 (.norm,canon m (A.join f t) st)).bind fun e=>k e.1 e.2
  | o=>(ways m 0 S.2 (o,st)).bind fun e=>k e.1 e.2
 match (bd S.1 ds).sl t with
 | .bool b=>bif b then hZ P A C L f n m x (bd S.1 ds) kc else hZ P A C L f n m y (bd S.1 ds) kc
 | _=>none
theorem abZ {t:Nat} {x y:Code} {S:Shape × List (Out × Shape)} (hS:A.gx f (t*16+15)=some S) (hx:ia P A C L f n m x) (hy:ia P A C L f n m y) {I R:Type} (enc:I→List V) (mG:I→R→Nat × List V)
  (de:List V→I) (body:I→(β:Type)→(R→Option β)→Option β) (uL: ∀ds,bd S.1 (enc (de ds))=bd S.1 ds)
  (e1: ∀i (β:Type) (k:Nat→List V→Option β),Kk P A C L f n m t S x y (enc i) k=body i β (fun r=>k (mG i r).1 (mG i r).2))
  (hl: ∀(β:Type) ds (k:Nat→List V→Option β),L β (t*16+15) ds k=body (de ds) β (fun r=>k (mG (de ds) r).1 (mG (de ds) r).2)):
  cw P A C L f n m (.cond t x y):=by
 simp only[cw,hS]
 intro β ds k
 rw[hl,←e1]
 unfold Kk zk
 rw[uL]
 simp only
 have hk: ∀(z:Option (Out × St)),(z.bind fun r=>(match r.1 with
   | .norm=>(ways m 0 S.2 (.norm,canon m (A.join f t) r.2)).bind fun e=>k e.1 e.2
   | o=>(ways m 0 S.2 (o,r.2)).bind fun e=>k e.1 e.2))=((z.bind fun r=>
   match r.1 with
   | .norm=>some (Out.norm,canon m (A.join f t) r.2)
   | _=>some r).bind fun r=>ways m 0 S.2 r).bind fun r=>k r.1 r.2:=by
  intro z
  cases z with
  | none=>rfl
  | some r=>obtain ⟨o,st⟩:=r;cases o<;>rfl
 cases (bd S.1 ds).sl t with
 | bool b=>
  cases b with
  | true=>simp only[cond_true,DK P A C f n m x hx];exact hk _
  | false=>simp only[cond_false,DK P A C f n m y hy];exact hk _
 | _=>rfl
theorem bf {b:cv} {l:List cv} (h:cw P A C L f n m b) (h2:nz P A C L f n m l):nz P A C L f n m (b::l):=⟨h,h2⟩
theorem au:nz P A C L f n m []:=trivial
theorem bh {key:Nat} {bs:List cv} (hb:pE A key (cL P (A.aT key))=bs) (ht:nz P A (Call P A) L key (cR P (A.aT key)) (A.sin key).aX.length bs) {ds:List V} {r:Option (List V)}
  (h:IF P A (Call P A) L key ds=r):Call P A key ds=r:=by
 rw[abM,Y2 P A (Call P A) key (aV hb ht),h]
end
section
variable (P:Program) (A:cF)
def il (C:ae) (N f n m:Nat):Code→St→Option (Out × St)
 | .skip,st=>some (.norm,st)
 | .region id ops draw,st=>(wo P (A.here f id) C n ops draw st).bind fun st'=>some (.norm,canon m (A.live f id) (freeze m (A.pur f id) st'))
 | .seq a b,st=>(il C N f n m a st).bind fun r=>
  match r.1 with
  | .norm=>il C N f n m b r.2
  | _=>some r
 | .cond (.tmp t) x y,st=>
  let go (st:St):Option (Out × St):=
   match st.sl t with
   | .bool b=>(bif b then il C N f n m x st else il C N f n m y st).bind fun r=>
    match r.1 with
    | .norm=>some (.norm,canon m (A.join f t) r.2)
    | _=>some r
   | _=>none
  match A.gx f (t*16+15) with
  | none=>go st
  | some S=>(iC m S.1 st).bind fun ds=>((go (bd S.1 ds)).bind fun r=>ways m 0 S.2 r).bind fun e=>jY 0 S.2 e.1 e.2 fun o st=>some (o,st)
 | .cond (.const (.bool b)) x y,st=>bif b then il C N f n m x st else il C N f n m y st
 | .block id c,st=>(il C N f n m c st).bind fun r=>
  match r.1 with
  | .norm=>some (.norm,canon m (A.blk f id) r.2)
  | .exit aA=>bif Nat.beq aA id then some (.norm,canon m (A.blk f id) r.2) else some r
  | .ret=>some r
 | .loop c,st=>
  match A.gx f (keyOf c+1) with
  | none=>none
  | some S=>(iC m S.1 st).bind fun ds=>(eP (fun ds=>kE m S.1 S.2 (il C N f n m c (bd S.1 ds))) N ds).bind fun e=>jY 0 S.2 e.1 e.2 fun o st=>some (o,st)
 | .exit id,st=>some (.exit id,st)
 | .ret,st=>some (.ret,st)
 | _,_=>none
def Kl (C:ae) (N f:Nat) (ds:List V):Option (List V):=
 match P.funcs[A.aT f]? with
 | none=>none
 | some fn=>
  match fn.body with
  | none=>none
  | some c=>bif hY 0 (A.sin f).bG&&(Nat.ble (A.sin f).bG.length fn.ntmps&&((A.sin f).ok&&(hY 0 (A.fG f).bG&&(Nat.beq (A.fG f).bG.length fn.results.size&&og (mj (A.sin f).aX.length (A.mv f)))))) then
    (il P A C N f fn.ntmps (A.sin f).aX.length c (zj A f ds)).bind fun r=>
     match r.1 with
     | .exit _=>none
     | _=>((tP P A f fn (A.sin f).aX.length r.2).run C r.2.hp).map (·.1)
   else none
def E7 (N:Nat):Nat→ae
 | 0=>fun _ _=>none
 | n+1=>Kl P A (E7 N n) N
variable {P A}
theorem R8 {X R:Type} {s1 s2:X→Option (X ⊕ R)} (h: ∀x y,s1 x=some y→s2 x=some y): ∀(n:Nat) (x:X) (r:R),eP s1 n x=some r→eP s2 n x=some r
 | 0,x,r,e=>by cases e
 | n+1,x,r,e=>by
  simp only[eP] at e⊢
  obtain ⟨y,h1,h2⟩:=bind_some e
  rw[h x y h1]
  cases y with
  | inl z=>exact R8 h n z r h2
  | inr q=>exact h2
theorem ab0 {C:ae} {N f n m:Nat}: ∀(c:Code) {st:St} {r:Out × St},il P A C N f n m c st=some r→exec P A C f n m c st=some r:=by
 intro c
 induction c with
 | skip=>exact fun e=>e
 | exit id=>exact fun e=>e
 | ret=>exact fun e=>e
 | region id ops draw=>exact fun e=>e
 | seq x y fV fW=>
  intro st r e
  simp only[il,exec] at e⊢
  obtain ⟨⟨o,s1⟩,h1,h2⟩:=bind_some e
  rw[fV h1]
  cases o with
  | norm=>exact fW h2
  | exit id=>exact h2
  | ret=>exact h2
 | cond c x y fV fW=>
  intro st r e
  cases c with
  | tmp t=>
   have go: ∀{st:St} {r:Out × St},(match st.sl t with
     | .bool b=>(bif b then il P A C N f n m x st else il P A C N f n m y st).bind fun r=>
      match r.1 with
      | .norm=>some (.norm,canon m (A.join f t) r.2)
      | _=>some r
     | _=>none)=some r→(match st.sl t with
     | .bool b=>(bif b then exec P A C f n m x st else exec P A C f n m y st).bind fun r=>
      match r.1 with
      | .norm=>some (.norm,canon m (A.join f t) r.2)
      | _=>some r
     | _=>none)=some r:=by
    intro st r e
    cases hs:st.sl t<;>rw[hs] at e<;>simp only at e⊢ <;>first|(cases e;done)|skip
    rename_i b
    obtain ⟨x1,h1,h2⟩:=bind_some e
    cases b with
    | true=>simp only[cond_true,fV h1,Option.bind_some];exact h2
    | false=>simp only[cond_false,fW h1,Option.bind_some];exact h2
   simp only[il,exec] at e⊢
   split at e
   ·rename_i hS
    try rw[hS]
    exact go e
   ·rename_i S hS
    obtain ⟨ds,h1,h2⟩:=bind_some e
    obtain ⟨e',h3,h4⟩:=bind_some h2
    obtain ⟨r1,h5,h6⟩:=bind_some h3
    try rw[hS]
    simp only[h1,Option.bind_some]
    exact (congrArg (fun z:Option (Out × St)=>(z.bind fun r=>ways m 0 S.2 r).bind fun e=>jY 0 S.2 e.1 e.2 fun o st=>some (o,st)) (go h5)).trans (by simp only[Option.bind_some,h6];exact h4)
  | const v=>
   cases v with
   | bool b=>
    simp only[il,exec] at e⊢
    cases b with
    | true=>exact fV e
    | false=>exact fW e
   | _=>simp only[il] at e;cases e
  | _=>simp only[il] at e;cases e
 | block id c ih=>
  intro st r e
  simp only[il,exec] at e⊢
  obtain ⟨x1,h1,h2⟩:=bind_some e
  rw[ih h1]
  exact h2
 | loop c ih=>
  intro st r e
  simp only[il,exec] at e⊢
  split at e
  ·cases e
  ·rename_i S hS
   obtain ⟨ds,h1,h2⟩:=bind_some e
   obtain ⟨e',h3,h4⟩:=bind_some h2
   try rw[hS]
   simp only[h1,Option.bind_some]
   rw[vZ (R8 (s2:=fun ds=>kE m S.1 S.2 (exec P A C f n m c (bd S.1 ds))) (fun x y Ai=>by
    unfold kE at Ai⊢
    obtain ⟨z,h5,h6⟩:=bind_some Ai
    rw[ih h5]
    exact h6) N ds e' h3)]
   exact h4
 | _=>intro st r e;simp only[il] at e;cases e
theorem ab1 {C:ae} {N f:Nat} {ds es:List V} (e:Kl P A C N f ds=some es):oj P A C f ds=some es:=by
 unfold Kl at e
 unfold oj
 cases hf:P.funcs[A.aT f]? with
 | none=>rw[hf] at e;cases e
 | some fn=>
  rw[hf] at e
  simp only at e⊢
  cases hb:fn.body with
  | none=>rw[hb] at e;cases e
  | some c=>
   rw[hb] at e
   simp only at e⊢
   cases hc:(hY 0 (A.sin f).bG&&(Nat.ble (A.sin f).bG.length fn.ntmps&&((A.sin f).ok&&(hY 0 (A.fG f).bG&&(Nat.beq (A.fG f).bG.length fn.results.size&&og (mj (A.sin f).aX.length (A.mv f))))))) with
   | false=>rw[hc] at e;cases e
   | true=>
    rw[hc] at e
    simp only[cond_true] at e⊢
    obtain ⟨x,h1,h2⟩:=bind_some e
    rw[ab0 c h1]
    exact h2
theorem R9 {N:Nat}: ∀n {f:Nat} {a r:List V},E7 P A N n f a=some r→jZ P A n f a=some r
 | 0,f,a,r,h=>by cases h
 | n+1,f,a,r,h=>by
  obtain ⟨M,hM⟩:=EY (C:=E7 P A N n) (D:=fun _=>jZ P A n) (fun f a r h=>⟨0,fun _ _=>R9 n h⟩) (ab1 h)
  exact hM M (Nat.le_refl _)
theorem ab2 {N n f:Nat} {a r:List V} (h:E7 P A N n f a=some r):Call P A f a=some r:=Aj.2 ⟨n,R9 n h⟩
end
inductive LK where
 | int (k:IntKind)
 | bool
 | str
 | list (e:TypeId)
 | nat
def LK.Ty:LK→Type
 | .int _=>Int
 | .bool=>Bool
 | .str=>List UInt8
 | .list _=>List V
 | .nat=>Nat
def LK.enc:(k:LK)→k.Ty→V
 | .int k,n=> .int k n
 | .bool,b=> .bool b
 | .str,s=> .str s
 | .list e,l=> .list e l
 | .nat,n=>eh n
def LK.dec:(k:LK)→V→k.Ty
 | .int _,v=>v.toInt
 | .bool,v=>v.toBool
 | .str,v=>v.toStr
 | .list _,v=>v.toList
 | .nat,v=>kA v
theorem LK.Sa: ∀(k:LK) (x:k.Ty),k.dec (k.enc x)=x
 | .int _,_=>rfl
 | .bool,_=>rfl
 | .str,_=>rfl
 | .list _,_=>rfl
 | .nat,_=>rfl
def Km:List Nat→List LK
 | []=>[]
 | _::l=> .nat::Km l
def LS.ks:LS→List LK
 | .int k=>[.int k]
 | .bool=>[.bool]
 | .str=>[.str]
 | .list e=>[.list e]
 | .sub .. =>[.nat,.nat]
 | .ptr _=>[.nat,.nat]
 | .row _ _ cs=>Km cs
 | .cE _ cs _=> .nat::Km cs
 | _=>[]
def xe:List LS→List LK
 | []=>[]
 | l::ls=>l.ks++xe ls
def VS.ks:VS→List LK
 | .one l=>l.ks
 | .agg ls=>xe ls
 | .a8 ls=>xe ls
 | .fn _ a b=>xe a++xe b
 | .pref _ ls=>xe ls
def Sb:List VS→List LK
 | []=>[]
 | l::ls=>l.ks++Sb ls
def BS.ks:BS→List LK
 | .var _ cs=>Sb cs
 | .arr e _=>[.list e]
 | .nest e=>[.list e]
 | .dead=>[]
 | .map t=>[.list t]
def Sd:List (Nat × VS)→List LK
 | []=>[]
 | p::l=>p.2.ks++Sd l
def Se:List BS→List LK
 | []=>[]
 | b::l=>b.ks++Se l
def Shape.ks (S:Shape):List LK:=Sd S.bG++Se S.aX
def Kn:List Nat→List V→List V
 | [],_=>[]
 | _::cs,ds=>eh (kA (V.nth ds 0))::Kn cs (ds.drop 1)
def LS.norm:LS→List V→List V
 | .int k,ds=>[.int k (V.nth ds 0).toInt]
 | .bool,ds=>[.bool (V.nth ds 0).toBool]
 | .str,ds=>[.str (V.nth ds 0).toStr]
 | .list e,ds=>[.list e (V.nth ds 0).toList]
 | .sub ..,ds=>[eh (kA (V.nth ds 0)),eh (kA (V.nth ds 1))]
 | .ptr _,ds=>[eh (kA (V.nth ds 0)),eh (kA (V.nth ds 1))]
 | .row _ _ cs,ds=>Kn cs ds
 | .cE _ cs _,ds=>eh (kA (V.nth ds 0))::Kn cs (ds.drop 1)
 | _,_=>[]
def xf:List LS→List V→List V
 | [],_=>[]
 | l::ls,ds=>l.norm ds++xf ls (ds.drop l.size)
def VS.norm:VS→List V→List V
 | .one l,ds=>l.norm ds
 | .agg ls,ds=>xf ls ds
 | .a8 ls,ds=>xf ls ds
 | .fn _ a b,ds=>xf a ds++xf b (ds.drop (jW a))
 | .pref _ ls,ds=>xf ls ds
def Sf:List VS→List V→List V
 | [],_=>[]
 | l::ls,ds=>l.norm ds++Sf ls (ds.drop l.size)
def BS.norm:BS→List V→List V
 | .var _ cs,ds=>Sf cs ds
 | .arr e _,ds=>[.list e (V.nth ds 0).toList]
 | .nest e,ds=>[.list e (V.nth ds 0).toList]
 | .dead,_=>[]
 | .map t,ds=>[.list t (V.nth ds 0).toList]
def Sg:List (Nat × VS)→List V→List V
 | [],_=>[]
 | p::l,ds=>p.2.norm ds++Sg l (ds.drop p.2.size)
def Sh:List BS→List V→List V
 | [],_=>[]
 | b::l,ds=>b.norm ds++Sh l (ds.drop b.size)
def Shape.norm (S:Shape) (ds:List V):List V:=Sg S.bG ds++Sh S.aX (ds.drop (oe S.bG))
def uN:LK→List LK→Type
 | k,[]=>k.Ty
 | k,k'::ks=>k.Ty × uN k' ks
def kg:List LK→Type
 | []=>Unit
 | k::ks=>uN k ks
def uO:(k:LK)→(ks:List LK)→uN k ks→List V
 | k,[],x=>[k.enc x]
 | k,k'::ks,x=>k.enc x.1::uO k' ks x.2
def kP:(ks:List LK)→kg ks→List V
 | [],_=>[]
 | k::ks,x=>uO k ks x
def Al:(k:LK)→(ks:List LK)→List V→uN k ks
 | k,[],l=>k.dec (V.nth l 0)
 | k,k'::ks,l=>(k.dec (V.nth l 0),Al k' ks l.tail)
def oH:(ks:List LK)→List V→kg ks
 | [],_=>()
 | k::ks,l=>Al k ks l
theorem Si: ∀(k:LK) (ks:List LK) (x:uN k ks) (r:List V),Al k ks (uO k ks x++r)=x
 | k,[],x,r=>LK.Sa k x
 | k,k'::ks,x,r=>by
  show (k.dec (k.enc x.1),Al k' ks (uO k' ks x.2++r))=x
  rw[LK.Sa,Si k' ks]
  rfl
def xg:List LK→Type 1→Type 1
 | [],R=>R
 | k::ks,R=>k.Ty→xg ks R
def Sj:(k:LK)→(ks:List LK)→{R:Type 1}→xg (k::ks) R→uN k ks→R
 | _,[],_,f,x=>f x
 | _,k'::ks,_,f,x=>Sj k' ks (f x.1) x.2
def uP:(ks:List LK)→{R:Type 1}→xg ks R→kg ks→R
 | [],_,f,_=>f
 | k::ks,_,f,x=>Sj k ks f x
def xh {α:Type} (b:Bool):List Bool→List α→List α
 | [],_=>[]
 | _,[]=>[]
 | c::m,x::l=>bif c==b then x::xh b m l else xh b m l
def merge:List Bool→List V→List V→List V
 | [],_,_=>[]
 | true::m,i,x=>V.nth x 0::merge m i x.tail
 | false::m,i,x=>V.nth i 0::merge m i.tail x
def xi:List Nat→List LK→List LK
 | [],_=>[]
 | _,[]=>[]
 | 0::t,k::ks=>k::xi t ks
 | (_+1)::t,_::ks=>xi t ks
abbrev fO:=List Nat × List LK
def fO.fresh (w:fO):List LK:=xi w.1 w.2
def put:List Nat→List V→List V→List V
 | [],_,_=>[]
 | 0::t,ds,x=>V.nth x 0::put t ds x.tail
 | (j+1)::t,ds,x=>V.nth ds j::put t ds x
def uQ:List Nat→List V→List V
 | [],_=>[]
 | 0::t,l=>V.nth l 0::uQ t l.tail
 | (_+1)::t,l=>uQ t l.tail
def sW:fO→List fO→Type
 | w,[]=>kg w.fresh
 | w,w'::ws=>kg w.fresh ⊕ sW w' ws
def qT:List fO→Type
 | []=>Empty
 | w::ws=>sW w ws
def wN (ds:List V) {β:Type} (k:Nat→List V→Option β):Nat→(w:fO)→(ws:List fO)→sW w ws→Option β
 | j,w,[],r=>k j (put w.1 ds (kP w.fresh r))
 | j,w,w'::ws,r=>dA (fun x=>k j (put w.1 ds (kP w.fresh x))) (fun y=>wN ds k (j+1) w' ws y) r
def wT (ds:List V) {β:Type} (k:Nat→List V→Option β):(ws:List fO)→qT ws→Option β
 | [],r=>Empty.elim r
 | w::ws,r=>wN ds k 0 w ws r
def oI (ds:List V):Nat→(w:fO)→(ws:List fO)→sW w ws→Nat × List V
 | j,w,[],r=>(j,put w.1 ds (kP w.fresh r))
 | j,w,_::_,.inl x=>(j,put w.1 ds (kP w.fresh x))
 | j,_,w'::ws,.inr y=>oI ds (j+1) w' ws y
def xj (ds:List V):(ws:List fO)→qT ws→Nat × List V
 | [],r=>Empty.elim r
 | w::ws,r=>oI ds 0 w ws r
theorem Sk (ds:List V) {β:Type} (k:Nat→List V→Option β): ∀(j:Nat) (w:fO) (ws:List fO) (r:sW w ws),wN ds k j w ws r=k (oI ds j w ws r).1 (oI ds j w ws r).2
 | _,_,[],_=>rfl
 | _,_,_::_,.inl _=>rfl
 | j,_,w'::ws,.inr y=>Sk ds k (j+1) w' ws y
theorem E8 (ds:List V) {β:Type} (k:Nat→List V→Option β): ∀(ws:List fO) (r:qT ws),wT ds k ws r=k (xj ds ws r).1 (xj ds ws r).2
 | [],r=>Empty.elim r
 | w::ws,r=>Sk ds k 0 w ws r
def xk:Nat→(w:fO)→(ws:List fO)→List V→sW w ws
 | _,w,[],l=>oH w.fresh (uQ w.1 l)
 | 0,w,_::_,l=> .inl (oH w.fresh (uQ w.1 l))
 | j+1,_,w'::ws,l=> .inr (xk j w' ws l)
def Sl (j:Nat):(ws:List fO)→List V→Option (qT ws)
 | [],_=>none
 | w::ws,l=>some (xk j w ws l)
def xl:List Nat→List V→List V
 | [],_=>[]
 | 0::t,x=>V.nth x 0::xl t x.tail
 | (_+1)::t,x=>xl t x
theorem Ko: ∀(t:List Nat) (ds x:List V),uQ t (put t ds x)=xl t x
 | [],_,_=>rfl
 | 0::t,ds,x=>congrArg (V.nth x 0:: ·) (Ko t ds x.tail)
 | (_+1)::t,ds,x=>Ko t ds x
theorem Kp: ∀(t:List Nat) (ks:List LK) (k:LK) (pF:List LK),xi t ks=k::pF→∀x:uN k pF,∃r,xl t (uO k pF x)=uO k pF x++r
 | [],_,_,_,h,_=>by cases h
 | _::_,[],_,_,h,_=>by simp[xi] at h
 | 0::t,a::ks,k,pF,h,x=>by
  simp only[xi,List.cons.injEq] at h
  obtain ⟨rfl,h2⟩:=h
  cases pF with
  | nil=>exact ⟨xl t [],rfl⟩
  | cons k' pF=>
   obtain ⟨r,hr⟩:=Kp t ks k' pF h2 x.2
   exact ⟨r,congrArg (a.enc x.1:: ·) hr⟩
 | (_+1)::t,a::ks,k,pF,h,x=>Kp t ks k pF h x
theorem Sm (w:fO) (ds:List V) (x:kg w.fresh):oH w.fresh (uQ w.1 (put w.1 ds (kP w.fresh x)))=x:=by
 rw[Ko]
 revert x
 generalize hf:w.fresh=f
 cases f with
 | nil=>intro x;rfl
 | cons k ks=>
  intro x
  obtain ⟨r,hr⟩:=Kp w.1 w.2 k ks hf x
  show Al k ks (xl w.1 (uO k ks x))=x
  rw[hr]
  exact Si k ks x r
theorem Sn (ds:List V): ∀(j:Nat) (w:fO) (ws:List fO) (r:sW w ws),j≤(oI ds j w ws r).1
 | _,_,[],_=>Nat.le_refl _
 | _,_,_::_,.inl _=>Nat.le_refl _
 | j,_,w'::ws,.inr y=>Nat.le_trans (Nat.le_succ j) (Sn ds (j+1) w' ws y)
theorem ab3 (w:fO) (l:List V): ∀j,xk j w [] l=oH w.fresh (uQ w.1 l)
 | 0=>rfl
 | _+1=>rfl
theorem So (ds:List V): ∀(j:Nat) (w:fO) (ws:List fO) (r:sW w ws),xk ((oI ds j w ws r).1-j) w ws (oI ds j w ws r).2=r
 | j,w,[],r=>(ab3 w _ _).trans (Sm w ds r)
 | j,w,w'::ws,.inl x=>by
  show xk (j-j) w (w'::ws) (put w.1 ds (kP w.fresh x))= .inl x
  rw[Nat.sub_self]
  exact congrArg Sum.inl (Sm w ds x)
 | j,w,w'::ws,.inr y=>by
  have h1:=Sn ds (j+1) w' ws y
  have h2:=So ds (j+1) w' ws y
  show xk ((oI ds (j+1) w' ws y).1-j) w (w'::ws) (oI ds (j+1) w' ws y).2= .inr y
  obtain ⟨d,hd⟩: ∃d,(oI ds (j+1) w' ws y).1=j+1+d:=⟨(oI ds (j+1) w' ws y).1-(j+1),by omega⟩
  rw[hd] at h2⊢
  rw[show j+1+d-(j+1)=d by omega] at h2
  rw[show j+1+d-j=d+1 by omega]
  exact congrArg Sum.inr h2
theorem ab4 (ds:List V): ∀(ws:List fO) (r:qT ws),Sl (xj ds ws r).1 ws (xj ds ws r).2=some r
 | [],r=>Empty.elim r
 | w::ws,r=>congrArg some (So ds 0 w ws r)
section
variable {P:Program} {A:cF} {C:ae} {L:cy} {f n m:Nat}
theorem ab5 {c:Code} {S:Shape × List (Out × Shape)} (hS:A.gx f (keyOf c+1)=some S) (hL:ia P A C L f n m c) {I X R:Type} (enc:I→X→List V) (mG:I→R→Nat × List V)
  (pG:List V→I) (qU:List V→X) (E9:Nat × List V→Option R) (body:I→X→(β:Type)→(X→Option β)→(R→Option β)→Option β)
  (uL: ∀ds,bd S.1 (enc (pG ds) (qU ds))=bd S.1 ds) (Kq: ∀i x,qU (enc i x)=x) (hdr: ∀i r,E9 (mG i r)=some r)
  (e1: ∀i x (β:Type) (k:(List V ⊕ (Nat × List V))→Option β),hZ P A C L f n m c (bd S.1 (enc i x)) (fun o st=>(kE m S.1 S.2 (some (o,st))).bind k)=
   body i x β (fun y=>k (.inl (enc i y))) (fun r=>k (.inr (mG i r))))
  (hl: ∀(β:Type) ds (k:Nat→List V→Option β),L β (keyOf c+1) ds k=(Loop (fun x=>body (pG ds) x (X ⊕ R) (fun y=>some (.inl y)) (fun r=>some (.inr r))) (qU ds)).bind fun r=>k (mG (pG ds) r).1 (mG (pG ds) r).2):
  cw P A C L f n m (.loop c):=by
 simp only[cw,hS]
 intro β ds k
 rw[hl]
 have hex: ∀(z:Option (Out × St)),kE m S.1 S.2 z=z.bind fun r=>kE m S.1 S.2 (some (r.1,r.2)):=by
  intro z;cases z<;>rfl
 have hs: ∀i x,stepG P A C f n m S c (enc i x)=(body i x (X ⊕ R) (fun y=>some (.inl y)) (fun r=>some (.inr r))).map fun| .inl y=> .inl (enc i y)| .inr r=> .inr (mG i r):=by
  intro i x
  have k1:=e1 i x _ (fun z=>some z)
  have k2:=e1 i x (X ⊕ R) (fun| .inl ds=>some (.inl (qU ds))| .inr e=>(E9 e).map .inr)
  have k3:=e1 i x (List V ⊕ (Nat × List V)) (fun| .inl ds=>some (.inl (enc i (qU ds)))| .inr e=>(E9 e).map fun r=> .inr (mG i r))
  simp only[Kq,hdr,Option.map_some] at k2 k3
  unfold stepG
  rw[hex]
  rw[DK P A C f n m c hL] at k1 k2 k3
  rw[←k2]
  refine Eq.trans ?_ (k1.trans (k3.symm.trans ?_))
  ·congr 1
   funext r
   cases kE m S.1 S.2 (some (r.1,r.2))<;>rfl
  ·cases exec P A C f n m c (bd S.1 (enc i x)) with
   | none=>rfl
   | some r=>
    simp only[Option.bind_some]
    cases kE m S.1 S.2 (some (r.1,r.2)) with
    | none=>rfl
    | some z=>
     cases z with
     | inl _=>rfl
     | inr e=>simp only[Option.bind_some];cases E9 e<;>rfl
 have h0:stepG P A C f n m S c ds=stepG P A C f n m S c (enc (pG ds) (qU ds)):=by
  unfold stepG
  rw[uL]
 have:Loop (stepG P A C f n m S c) ds=(Loop (fun x=>body (pG ds) x (X ⊕ R) (fun y=>some (.inl y)) (fun r=>some (.inr r))) (qU ds)).map (mG (pG ds)):=by
  rw[Dp,h0,←Dp]
  exact Y0 (enc (pG ds)) (mG (pG ds)) (fun x=>hs _ _) (qU ds)
 rw[this]
 cases Loop (fun x=>body (pG ds) x (X ⊕ R) (fun y=>some (.inl y)) (fun r=>some (.inr r))) (qU ds)<;>rfl
abbrev Am (S:Shape) (mk:List Bool):List LK:=xh false mk S.ks
abbrev uR (S:Shape) (mk:List Bool):List LK:=xh true mk S.ks
def qV (ts:List (List Nat)) (W:List (Out × Shape)):List fO:=
 match ts,W with
 | t::ts,w::W=>(t,w.2.ks)::qV ts W
 | _,_=>[]
abbrev An (S:Shape) (mk:List Bool) (i:kg (Am S mk)) (x:kg (uR S mk)):List V:=merge mk (kP _ i) (kP _ x)
abbrev Kr (S:Shape) (mk:List Bool) (i:kg (Am S mk)):List V:=merge mk (kP _ i) []
abbrev Fa (S:Shape) (mk:List Bool) (ds:List V):kg (Am S mk):=oH _ (xh false mk (S.norm ds))
abbrev Fb (S:Shape) (mk:List Bool) (ds:List V):kg (uR S mk):=oH _ (xh true mk (S.norm ds))
abbrev Sp (X R:Type):Type 1:=(β:Type)→(X→Option β)→(R→Option β)→Option β
abbrev Ks (S:Shape × List (Out × Shape)) (mk:List Bool) (ts:List (List Nat)):Type 1:=xg (Am S.1 mk) (xg (uR S.1 mk) (Sp (kg (uR S.1 mk)) (qT (qV ts S.2))))
abbrev Kt (S:Shape × List (Out × Shape)) (mk:List Bool) (ts:List (List Nat)) (b:Ks S mk ts) (i:kg (Am S.1 mk)) (x:kg (uR S.1 mk)):Sp (kg (uR S.1 mk)) (qT (qV ts S.2)):=uP _ (uP _ b i) x
noncomputable def bw (S:Shape × List (Out × Shape)) (mk:List Bool) (ts:List (List Nat)) (b:Ks S mk ts) {β:Type} (ds:List V) (k:Nat→List V→Option β):Option β:=
 (Loop (fun x=>Kt S mk ts b (Fa S.1 mk ds) x (kg (uR S.1 mk) ⊕ qT (qV ts S.2)) (fun y=>some (.inl y)) (fun r=>some (.inr r))) (Fb S.1 mk ds)).bind (wT (Kr S.1 mk (Fa S.1 mk ds)) k (qV ts S.2))
theorem bC {c:Code} (S:Shape × List (Out × Shape)) (mk:List Bool) (ts:List (List Nat)) (b:Ks S mk ts) (hS:A.gx f (keyOf c+1)=some S) (hL:ia P A C L f n m c)
  (uL: ∀ds,bd S.1 (An S.1 mk (Fa S.1 mk ds) (Fb S.1 mk ds))=bd S.1 ds) (Kq: ∀i x,Fb S.1 mk (An S.1 mk i x)=x)
  (e1: ∀i x (β:Type) (k:(List V ⊕ (Nat × List V))→Option β),hZ P A C L f n m c (bd S.1 (An S.1 mk i x)) (fun o st=>(kE m S.1 S.2 (some (o,st))).bind k)=
   Kt S mk ts b i x β (fun y=>k (.inl (An S.1 mk i y))) (wT (Kr S.1 mk i) (fun j l=>k (.inr (j,l))) (qV ts S.2)))
  (hl: ∀(β:Type) ds (k:Nat→List V→Option β),L β (keyOf c+1) ds k=bw S mk ts b ds k):
  cw P A C L f n m (.loop c):=
 ab5 hS hL (An S.1 mk) (fun i r=>xj (Kr S.1 mk i) _ r) (Fa S.1 mk) (Fb S.1 mk) (fun e=>Sl e.1 _ e.2) (Kt S mk ts b) uL Kq (fun i r=>ab4 _ _ r)
  (fun i x β k=>by
   rw[e1]
   congr 1
   funext r
   exact E8 _ _ _ r)
  (fun β ds k=>by
   rw[hl]
   unfold bw
   congr 1
   funext r
   exact E8 _ _ _ r)
abbrev Sq (S:Shape × List (Out × Shape)) (ts:List (List Nat)):Type 1:=xg S.1.ks ((β:Type)→(qT (qV ts S.2)→Option β)→Option β)
noncomputable def mH (S:Shape × List (Out × Shape)) (ts:List (List Nat)) (b:Sq S ts) {β:Type} (ds:List V) (k:Nat→List V→Option β):Option β:=
 uP S.1.ks b (oH _ (S.1.norm ds)) β (wT (kP S.1.ks (oH _ (S.1.norm ds))) k (qV ts S.2))
theorem nA {t:Nat} {x y:Code} (S:Shape × List (Out × Shape)) (ts:List (List Nat)) (b:Sq S ts) (hS:A.gx f (t*16+15)=some S) (hx:ia P A C L f n m x) (hy:ia P A C L f n m y)
  (uL: ∀ds,bd S.1 (kP S.1.ks (oH _ (S.1.norm ds)))=bd S.1 ds)
  (e1: ∀i (β:Type) (k:Nat→List V→Option β),Kk P A C L f n m t S x y (kP S.1.ks i) k=uP S.1.ks b i β (wT (kP S.1.ks i) k (qV ts S.2)))
  (hl: ∀(β:Type) ds (k:Nat→List V→Option β),L β (t*16+15) ds k=mH S ts b ds k):
  cw P A C L f n m (.cond t x y):=
 abZ hS hx hy (kP S.1.ks) (fun i r=>xj (kP S.1.ks i) _ r) (fun ds=>oH _ (S.1.norm ds)) (uP S.1.ks b) uL
  (fun i β k=>by
   rw[e1]
   exact congrArg (uP S.1.ks b i β) (funext fun r=>E8 _ _ _ r))
  (fun β ds k=>by
   rw[hl]
   exact congrArg (uP S.1.ks b (oH _ (S.1.norm ds)) β) (funext fun r=>E8 _ _ _ r))
end
def db:cy:=fun _ _ _ _=>none
end Go.AM
