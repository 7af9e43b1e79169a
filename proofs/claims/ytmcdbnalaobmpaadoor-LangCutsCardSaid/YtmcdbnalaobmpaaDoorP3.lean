/-
  Functions of wX program, lifted to plain data.
-/
import Derived.Conc.MuLone
import Derived.Defers
import Derived.Carry
import Derived.OpenShut
import Derived.Deep.Slices
import Derived.Test.YtmcdbnalaobmpaaDoorP2
set_option linter.unusedVariables false
set_option linter.unusedSimpArgs false
namespace Go.AM
section
variable {P:Program} {A:ch} {w w':World} {I I' I2:Nat→Prop} {μ β aj bL:Nat→Option Nat} {hp hp' hp0 aY:Nat→Option ag} {C:ae} {B:Nat} {M:Nat→Prop} {w0:Start}
structure jR (w:World) (I:Nat→Prop) (β:Nat→Option Nat) (hp:Nat→Option ag) (w':World) (I':Nat→Prop) (aj:Nat→Option Nat) (hp':Nat→Option ag):Prop where
 cM: ∀b,I b→I' b
 bU: ∀b,I b→w'.heap[b]? =w.heap[b]?
 blk: ∀id blk,hp id=some blk→∃blk',hp' id=some blk'∧blk.le blk'∧(blk'≠ .dead→aj id=β id)
 size: ∀id blk blk' b,hp id=some blk→hp' id=some blk'→blk'≠ .dead→β id=some b→bsize w' b=bsize w b
theorem Le.CH (h:Le P w I β hp w' I' aj hp'):jR w I β hp w' I' aj hp':=⟨h.cM,h.bU,h.blk,h.size⟩
theorem jR.trans {xq:World} {xr:Nat→Prop} {xt:Nat→Option Nat} {xu:Nat→Option ag} (h1:jR w I β hp w' I' aj hp') (h2:jR w' I' aj hp' xq xr xt xu):jR w I β hp xq xr xt xu:=by
 refine ⟨fun b h=>h2.cM b (h1.cM b h),fun b h=>(h2.bU b (h1.cM b h)).trans (h1.bU b h),fun id blk h=> ?_,fun id blk sd b h qL hd hb=> ?_⟩
 ·obtain ⟨blk',e',l',b'⟩:=h1.blk id blk h
  obtain ⟨sd,dm,xw,Gr⟩:=h2.blk id blk' e'
  refine ⟨sd,dm,ag.le_trans l' xw,fun hd=> ?_⟩
  have ew:blk'≠ .dead:=fun e=>hd (ag.nY (e▸xw))
  exact (Gr hd).trans (b' ew)
 ·obtain ⟨blk',e',l',b'⟩:=h1.blk id blk h
  obtain ⟨gj,e3,l3,b3⟩:=h2.blk id blk' e'
  obtain rfl:gj=sd:=by rw[e3] at qL;exact Option.some.inj qL
  have ew:blk'≠ .dead:=fun e=>hd (ag.nY (e▸l3))
  rw[h2.size id blk' gj b e' e3 hd ((b' ew).trans hb),h1.size id blk blk' b h e' ew hb]
def nk (P:Program) (w:World) (μ:Nat→Option Nat) (hp0:Nat→Option ag) (b:Nat):Prop:= ∃j blk,hp0 j=some blk∧bf P w (μ j) blk b
structure X3 (P:Program) (A:ch) (key:Nat) (w:World) (I:Nat→Prop) (μ:Nat→Option Nat) (ds es:List V) (w':World) (v:Value) (I2:Nat→Prop) (bL:Nat→Option Nat):Prop where
 va:aC P w' I2 bL (aV (A.so key es) (A.lv key es)).hp w.heap.size (nk P w μ (aV (A.sin key) ds).hp) ⟨w,I⟩
 le:jR w I μ (aV (A.sin key) ds).hp w' I2 bL (aV (A.so key es) (A.lv key es)).hp
 res:ah P w' I2 bL (aV (A.so key es) (A.lv key es)).hp v (nW (eQ (A.so key es).bu (A.lv key es)))
def jS (P:Program) (A:ch) (C:ae):Prop:=
 ∀key ds es,C key ds=some es→∃fn c,P.funcs[A.aP key]? =some fn∧fn.body=some c∧
  ∀(w:World) (I:Nat→Prop) (μ:Nat→Option Nat) (vals:List Value),
   sc P w I μ (aV (A.sin key) ds).hp w.heap.size (nk P w μ (aV (A.sin key) ds).hp)→gk P A.aB w I→
   vals.length=(A.sin key).bu.length→(∀(j:Nat) v x,vals[j]? =some v→(e8 ((A.sin key).bu.map (·.2)) ds)[j]? =some x→ah P w I μ (aV (A.sin key) ds).hp v x)→
   Calls P (A.aP key) vals.toArray w fun e w'=> ∃v I2 bL,e= .returned v∧X3 P A key w I μ ds es w' v I2 bL
theorem dF.sN {p:Place} {o:Option Nat} {blk:ag} {b:Nat} (h:dF P w β hp p o blk) (ho:bf P w o blk b):
  ∃pA,hp p.id=some pA∧bf P w (β p.id) pA b∧∀e es,pA≠ .arr e es true:=by
 cases h with
 | var h=>exact ⟨_,h,.root (by simp) (ho.flat (by simp)),by simp⟩
 | arr h=>exact ⟨_,h,.root (by simp) (ho.flat (by simp)),by simp⟩
 | map h=>exact ⟨_,h,.root (by simp) (ho.flat (by simp)),by simp⟩
 | nest h=>
  refine ⟨_,h,?_,by simp⟩
  cases ho with
  | root _ hb=>exact .root (by simp) hb
  | row hb ha=>exact .row hb ha
 | row h hb ha _ _ _ _ _=>
  have:=ho.flat (by simp)
  cases this
  exact ⟨_,h,.row hb ha,by simp⟩
theorem aC.X4 (S:aC P w I β hp B M w0) {id b:Nat} {blk:ag} (aa:hp id=some blk) (ho:bf P w (β id) blk b) (hf: ∀e es,blk≠ .arr e es true): ¬I b:=by
 have hr:=S.h.rel id blk aa
 generalize β id=o at hr ho
 cases hr with
 | var hb _ _ hI _ _=>have:=ho.flat (by simp);rw[hb] at this;cases this;exact hI
 | dr hb=>have:=ho.flat (by simp);rw[hb] at this;cases this
 | @arr e es fz _ _ _ hb _ _ _ dM _=>
  have:=ho.flat (by simp)
  rw[hb] at this;cases this
  cases fz with
  | true=>exact absurd rfl (hf e es)
  | false=>exact dM rfl
 | dead=>exact absurd rfl ho.alive
 | map _ hb _ _ hI _ _=>have:=ho.flat (by simp);rw[hb] at this;cases this;exact hI
 | nest hb hr _=>
  cases ho with
  | root _ aw=>rw[hb] at aw;cases aw;exact (hr _ _ _ _ .here).nI
  | row aw ha=>rw[hb] at aw;cases aw;exact (hr _ _ _ _ ha).nI
theorem CI {a b:List Nat} (h:ur a b=false) {x:Nat} (ha:x∈a):x∉b:=by
 intro hb
 unfold ur at h
 rw[List.any_eq_false] at h
 exact h x ha (uQ hb)
theorem X5 (S:aC P w I β hp B M w0) {pl:List Place} {upd:List (Nat × ag)} {o:Nat→Option Nat} (jy:(pl.map Place.id).Nodup) (sO:ur (upd.map (·.1)) (pl.map Place.id)=false)
  (hl: ∀j blk,hp0 j=some blk→∃p,dK pl j=some p∧dF P w β hp p (o j) blk)
  (cj:(∀j blk,hp0 j=some blk→∀b,bf P w (o j) blk b→¬gU P w I β hp upd b)→∀j blk,hp0 j=some blk→dD P w (gU P w I β hp upd) o hp0 (o j) blk) (aK: ∀b,gU P w I β hp upd b→b<w.heap.size):
  sc P w (gU P w I β hp upd) o hp0 w.heap.size (nk P w o hp0):=by
 have cw: ∀j blk,hp0 j=some blk→∀b,bf P w (o j) blk b→¬gU P w I β hp upd b:=by
  intro j blk hj b ho hI
  obtain ⟨p,aY,gl⟩:=hl j blk hj
  obtain ⟨pA,k1,k2,k3⟩:=gl.sN ho
  rcases hI with hI|⟨q,hq,bK,q1,q2⟩
  ·exact S.X4 k1 k2 k3 hI
  ·have:=S.h.inj _ _ _ _ b q1 k1 q2 k2
   refine CI sO (List.mem_map.2 ⟨q,hq,rfl⟩) ?_
   rw[this]
   rw[ky] at aY
   exact List.mem_map.2 ⟨p,List.mem_of_getElem? aY,rfl⟩
 refine ⟨cj cw,fun j1 j2 b1 b2 b h1 h2 o1 o2=> ?_,fun j blk b h1 o1=> .inl ⟨j,blk,h1,o1⟩,aK⟩
 obtain ⟨p1,q1,q2⟩:=hl j1 b1 h1
 obtain ⟨p2,r1,r2⟩:=hl j2 b2 h2
 obtain ⟨c1,x1,x2,_⟩:=q2.sN o1
 obtain ⟨c2,y1,y2,_⟩:=r2.sN o2
 have aa:=S.h.inj _ _ _ _ b x1 y1 x2 y2
 rw[ky] at q1 r1
 have m1:(pl.map Place.id)[j1]? =some p1.id:=by rw[List.getElem?_map,q1];rfl
 have m2:(pl.map Place.id)[j2]? =some p2.id:=by rw[List.getElem?_map,r1];rfl
 rw[←aa] at m2
 obtain ⟨z1,z2⟩:=List.getElem?_eq_some_iff.1 m1
 obtain ⟨z3,z4⟩:=List.getElem?_eq_some_iff.1 m2
 exact (List.getElem_inj jy).1 (z2.trans z4.symm)
def ND:V→Prop
 | .list .. =>False
 | .pref .. =>False
 | .agg _=>False
 | .aS _=>False
 | .fn .. =>False
 | _=>True
theorem ah.free {v:Value} {x:V} (h:ah P w I β hp v x) (hx:ND x):ah P w I' β hp v x:=by
 cases h with
 | undef=>exact .undef
 | int=>exact .int
 | bool=>exact .bool
 | str h=>exact .str h
 | list h=>exact hx.elim
 | nilS=>exact .nilS
 | agg=>exact hx.elim
 | aS=>exact hx.elim
 | cW=>exact .cW
 | fn=>exact hx.elim
 | pref=>exact hx.elim
 | dL h=>exact .dL h
 | fH h=>exact .fH h
 | jr h=>exact .jr h
 | dq h hb=>exact .dq h hb
 | whole h hb a b c=>exact .whole h hb a b c
 | dU h hb a b c=>exact .dU h hb a b c
 | fu h hb=>exact .fu h hb
 | sub h hb a b c=>exact .sub h hb a b c
 | ptr h hd hb=>exact .ptr h hd hb
 | iM h pr=>exact .iM h pr
 | iN h pr=>exact .iN h pr
 | row h hb a b c d=>exact .row h hb a b c d
 | cg h hb a b c d e=>exact .cg h hb a b c d e
 | cX=>exact .cX
 | gE h=>exact .gE h
 | bH h hb=>exact .bH h hb
theorem yf {l:LS} {ds:List V} (hs:l.safe=true):ND (gQ l ds):=by
 cases l<;>simp only[LS.safe] at hs<;>first|(cases hs;done)|trivial
theorem yg: ∀{ls:List LS} {ds:List V} {j:Nat} {y:V},(gx ls ds)[j]? =some y→∃l eT,l∈ls∧y=gQ l eT
 | [],ds,j,y,h=>by simp[gx] at h
 | l::ls,ds,j,y,h=>by
  simp only[gx] at h
  cases j with
  | zero=>simp at h;exact ⟨l,ds,List.mem_cons_self ..,h.symm⟩
  | succ j=>
   obtain ⟨l',eT,h1,h2⟩:=yg (j:=j) (by simpa using h)
   exact ⟨l',eT,List.mem_cons_of_mem _ h1,h2⟩
theorem NF: ∀{ls:List VS} {ds:List V} {j:Nat} {y:V},(e8 ls ds)[j]? =some y→∃l eT,l∈ls∧y=jK l eT
 | [],ds,j,y,h=>by simp[e8] at h
 | l::ls,ds,j,y,h=>by
  simp only[e8] at h
  cases j with
  | zero=>simp at h;exact ⟨l,ds,List.mem_cons_self ..,h.symm⟩
  | succ j=>
   obtain ⟨l',eT,h1,h2⟩:=NF (j:=j) (by simpa using h)
   exact ⟨l',eT,List.mem_cons_of_mem _ h1,h2⟩
theorem NG {s:VS} {ds:List V} {v:Value} (h:ah P w I β hp v (jK s ds)) (hs:s.safe=true):ah P w I' β hp v (jK s ds):=by
 cases s with
 | one l=>exact h.free (yf hs)
 | agg ls=>
  simp only[jK] at h⊢
  obtain ⟨cs,rfl,e1,e2⟩:=h.jO
  refine .agg e1 fun j v x hj hx=> ?_
  obtain ⟨l,eT,k1,rfl⟩:=yg hx
  exact (e2 j v _ hj hx).free (yf (List.all_eq_true.1 hs l k1))
 | aS ls=>
  simp only[jK] at h⊢
  obtain ⟨cs,rfl,e1,e2⟩:=h.sq
  refine .aS e1 fun j v x hj hx=> ?_
  obtain ⟨l,eT,k1,rfl⟩:=yg hx
  exact (e2 j v _ hj hx).free (yf (List.all_eq_true.1 hs l k1))
 | fn f a b=>
  simp only[VS.safe,Bool.and_eq_true] at hs
  simp only[jK] at h⊢
  cases h with
  | fn a1 a2 b1 b2=>
   refine .fn a1 (fun j v x hj hx=> ?_) b1 (fun j v x hj hx=> ?_)
   ·obtain ⟨l,eT,k1,rfl⟩:=yg hx
    exact (a2 j v _ hj hx).free (yf (List.all_eq_true.1 hs.1 l k1))
   ·obtain ⟨l,eT,k1,rfl⟩:=yg hx
    exact (b2 j v _ hj hx).free (yf (List.all_eq_true.1 hs.2 l k1))
 | pref ts ls=>cases hs
theorem Pure.scalar {t:TypeId} {v:Value} {x:V} (h:Pure P w I t v x) (hn: ∀e,P.underlying t≠some (.slice e)):Pure P w I' t v x:=by
 cases h with
 | int h=>exact .int h
 | bool h=>exact .bool h
 | str h hl=>exact .str h hl
 | nil h=>exact absurd h (hn _)
 | emp h=>exact absurd h (hn _)
 | list g h=>exact absurd h (hn _)
theorem X6 {e t:TypeId} {j:Nat} (h:xb P e=true) (ht:(aL P e)[j]? =some t) (e':TypeId):P.underlying t≠some (.slice e'):=by
 intro hu
 have h2:=List.all_eq_true.1 h t (List.mem_of_getElem? ht)
 rw[hu] at h2
 cases h2
theorem X7 {o:Option Nat} {b:BS} {ds:List V} (h:dD P w I2 β hp o (fo b ds)) (hs:b.safe P=true) (hi: ∀b,I b→I2 b):dD P w I β hp o (fo b ds):=by
 cases b with
 | dead=>exact .dead
 | var T0 ls=>
  simp only[fo] at h⊢
  cases h with
  | var hb hh aM hI hx fJ=>
   refine .var hb hh aM (fun h=>hI (hi _ h)) (fun j v x hj cd=> ?_) fJ
   obtain ⟨l,eT,k1,rfl⟩:=NF cd
   exact NG (hx j v _ hj cd) (List.all_eq_true.1 hs l k1)
 | arr e fz=>
  simp only[BS.safe,Bool.and_eq_true,Bool.not_eq_true'] at hs
  obtain ⟨rfl,ye⟩:=hs
  simp only[fo] at h⊢
  generalize (V.nth ds 0).toList=es at h⊢
  cases h with
  | dr hb=>exact .dr hb
  | arr a1 a2 a3 a4 a5 a6 a7=>
   refine .arr a1 a2 a3 a4 (fun h=>by cases h) (fun _ h=>a6 rfl (hi _ h)) fun i j x t' y1 y2 y3=> ?_
   obtain ⟨v,z1,z2⟩:=a7 i j x t' y1 y2 y3
   exact ⟨v,z1,z2.scalar (X6 ye y2)⟩
 | nest e=>
  simp only[fo] at h⊢
  generalize (V.nth ds 0).toList=es at h⊢
  cases h with
  | nest hb ca nc=>
   refine .nest hb (fun q b' e1 m1 hq=> ?_) nc
   obtain ⟨ok,⟨Ca,c1,c2,c3⟩,nI⟩:=ca q b' e1 m1 hq
   refine ⟨ok,⟨Ca,c1,c2,fun i j x t' y1 y2 y3=> ?_⟩,fun h=>nI (hi _ h)⟩
   obtain ⟨v,z1,z2⟩:=c3 i j x t' y1 y2 y3
   refine ⟨v,z1,?_⟩
   generalize bz P e1 x j=y at z2⊢
   cases z2 with
   | ft a p=>
    refine .ft a (p.scalar fun e hu=> ?_)
    unfold fl at a
    rw[hu] at a
    cases a
   | emp a b=>exact .emp a b
   | row a b c d e=>exact .row a b c d e
 | map t=>
  simp only[fo] at h⊢
  cases h with
  | map a1 a2 a3 a4 a5 a6 a7=>exact .map a1 a2 a3 a4 (fun h=>a5 (hi _ h)) a6 a7
theorem Hy: ∀{l:List BS} {ds:List V} {j:Nat} {y:ag},(eu l ds)[j]? =some y→∃b eT,l[j]? =some b∧y=fo b eT
 | [],ds,j,y,h=>by simp[eu] at h
 | b::l,ds,j,y,h=>by
  simp only[eu] at h
  cases j with
  | zero=>simp at h;exact ⟨b,ds,rfl,h.symm⟩
  | succ j=>
   obtain ⟨b',eT,h1,h2⟩:=Hy (j:=j) (by simpa using h)
   exact ⟨b',eT,by simpa using h1,h2⟩
theorem NH: ∀{l:List (Nat × VS)} {ds:List V} {q:Nat × V},q∈eQ l ds→∃s eT,(q.1,s)∈l∧q.2=jK s eT
 | [],ds,q,h=>by simp[eQ] at h
 | (k,s)::l,ds,q,h=>by
  simp only[eQ,List.mem_cons] at h
  rcases h with h|h
  ·subst h;exact ⟨s,ds,List.mem_cons_self ..,rfl⟩
  ·obtain ⟨s',eT,h1,h2⟩:=NH h
   exact ⟨s',eT,List.mem_cons_of_mem _ h1,h2⟩
theorem X8 {S:Shape} {es:List V} (hs:S.safe P=true) (hi: ∀b,I b→I2 b) {N:Nat→Prop} {st:Start} (h:aC P w' I2 bL (aV S es).hp B N st) (h0: ∀b,I b→st.I b):
  aC P w' I bL (aV S es).hp B N st∧∀v,ah P w' I2 bL (aV S es).hp v (nW (eQ S.bu es))→ah P w' I bL (aV S es).hp v (nW (eQ S.bu es)):=by
 unfold Shape.safe at hs
 simp only[Bool.and_eq_true] at hs
 obtain ⟨iQ,ln⟩:=hs
 have one: ∀q∈eQ S.bu es,∀v,ah P w' I2 bL (aV S es).hp v q.2→ah P w' I bL (aV S es).hp v q.2:=by
  intro q hq v hv
  obtain ⟨s,eT,k1,k2⟩:=NH hq
  rw[k2] at hv⊢
  exact NG hv (List.all_eq_true.1 iQ _ k1)
 refine ⟨⟨⟨fun j blk hj=> ?_,h.h.inj,h.h.own,fun b hb=>h.h.iO b (hi b hb)⟩,h.bU,h.size,fun b hb=> .inl (h0 b hb),h.io⟩,fun v hv=> ?_⟩
 ·have hr:=h.h.rel j blk hj
  have fU:=hj
  simp only[aV,mk,gq] at fU
  obtain ⟨b,eT,k1,rfl⟩:=Hy fU
  exact X7 hr (List.all_eq_true.1 ln _ (List.mem_of_getElem? k1)) hi
 ·generalize eQ S.bu es=l at one hv⊢
  match l,one,hv with
  | [],_,hv=>
   simp only[nW,List.map_nil] at hv⊢
   obtain ⟨cs,rfl,e1,e2⟩:=hv.sq
   exact .aS e1 fun j v x _ hx=>by simp at hx
  | [q],one,hv=>exact one q (List.mem_singleton.2 rfl) v hv
  | q::q2::l,one,hv=>
   simp only[nW] at hv⊢
   obtain ⟨cs,rfl,e1,e2⟩:=hv.sq
   refine .aS e1 fun j v x hj hx=> ?_
   obtain ⟨y,hy,rfl⟩:=List.mem_map.1 (List.mem_of_getElem? hx)
   exact one y hy v (e2 j v _ hj hx)
end
end Go.AM
namespace Go.AM
section
variable {P:Program} {A:ch} {w w':World} {I I' I2:Nat→Prop} {μ β aj bL:Nat→Option Nat} {hp hp' hp0 aY:Nat→Option ag} {C:ae} {B:Nat} {M:Nat→Prop} {w0:Start}
inductive fM (σ:List Place):ag→ag→Prop
 | dead:fM σ .dead .dead
 | var {T:TypeId} {cs:List V}:fM σ (.var T cs) (.var T (cs.map (BG σ)))
 | arr {e:TypeId} {es:List V} {fz:Bool}:fM σ (.arr e es fz) (.arr e es fz)
 | nest {e:TypeId} {es:List V} {v1 v2:List Nat}:fM σ (.nest e es v1) (.nest e es v2)
 | map {t:TypeId} {es:List V}:fM σ (.map t es) (.map t es)
theorem fM.of (σ:List Place) (b:ag):fM σ b (rU σ b):=by
 cases b with
 | dead=>exact .dead
 | var T cs=>exact .var
 | arr e es fz=>exact .arr
 | nest e es v=>exact .nest
 | map t es=>exact .map
theorem NI {σ:List Place}: ∀{pl:List Place} {bs:List ag} {acc:List (Nat × ag)} {k:List (Nat × ag)→Rd R} {r:R} {rd:List Nat},(o0 σ pl bs acc k).run C hp=some (r,rd)→
  pl.length≤bs.length∧∃bk eG,(k bk).run C hp=some (r,eG)∧(∀q∈bk,q∈acc∨∃(j:Nat) (b:ag),pl[j]? =some (.blk q.1)∧bs[j]? =some b∧fM σ b q.2∧((∃e es v2,q.2= .nest e es v2)→∃e es ai e' aG,hp q.1=some (.nest e es ai)∧q.2= .nest e' aG (ai.map (· +1))))∧
   (∀q∈acc,q∈bk)∧∀(j:Nat) p,pl[j]? =some p→∃id b,p= .blk id∧(id,b)∈bk
 | [],bs,acc,k,r,rd,h=>⟨Nat.zero_le _,acc,rd,by simpa only[o0] using h,fun q hq=> .inl hq,fun q hq=>hq,fun j p hp=>by simp at hp⟩
 | .row _ _ _::pl,bs,acc,k,r,rd,h=>by
  cases bs<;>(simp only[o0] at h;cases h)
 | .blk id::pl,[],acc,k,r,rd,h=>by simp only[o0] at h;cases h
 | .blk id::pl,b::bs,acc,k,r,rd,h=>by
  have fin: ∀{b2:ag} {iB:List Nat},(o0 σ pl bs ((id,b2)::acc) k).run C hp=some (r,iB)→fM σ b b2→((∃e es v2,b2= .nest e es v2)→∃e es ai e' aG,hp id=some (.nest e es ai)∧b2= .nest e' aG (ai.map (· +1)))→
    (Place.blk id::pl).length≤(b::bs).length∧∃bk eG,(k bk).run C hp=some (r,eG)∧(∀q∈bk,q∈acc∨∃(j:Nat) (b':ag),(Place.blk id::pl)[j]? =some (.blk q.1)∧(b::bs)[j]? =some b'∧fM σ b' q.2∧((∃e es v2,q.2= .nest e es v2)→∃e es ai e' aG,hp q.1=some (.nest e es ai)∧q.2= .nest e' aG (ai.map (· +1))))∧
     (∀q∈acc,q∈bk)∧∀(j:Nat) p,(Place.blk id::pl)[j]? =some p→∃id b,p= .blk id∧(id,b)∈bk:=by
   intro b2 iB h1 hb hn
   obtain ⟨a0,bk,eG,a1,a2,a3,a4⟩:=NI h1
   refine ⟨by simp only[List.length_cons];omega,bk,eG,a1,fun q hq=> ?_,fun q hq=>a3 q (List.mem_cons_of_mem _ hq),fun j p hj=> ?_⟩
   ·rcases a2 q hq with h|⟨j,b',k1,k2,k3,k4⟩
    ·rcases List.mem_cons.1 h with e|h
     ·subst e;exact .inr ⟨0,b,rfl,rfl,hb,hn⟩
     ·exact .inl h
    ·exact .inr ⟨j+1,b',by simpa using k1,by simpa using k2,k3,k4⟩
   ·cases j with
    | zero=>simp at hj;subst hj;exact ⟨id,b2,rfl,a3 _ (List.mem_cons_self ..)⟩
    | succ j=>exact a4 j p (by simpa using hj)
  cases b with
  | nest e es v=>
   simp only[o0] at h
   obtain ⟨l,h⟩:=run_get h
   cases aa:hp id with
   | none=>rw[aa] at h;cases h
   | some blk=>
    rw[aa] at h
    cases blk with
    | nest e0 Gs ai=>exact fin h .nest fun _=>⟨e0,Gs,ai,e,es,aa,rfl⟩
    | _=>cases h
  | dead=>exact fin h (.of σ _) fun ⟨_,_,_,h⟩=>by cases h
  | var T cs=>exact fin h (.of σ _) fun ⟨_,_,_,h⟩=>by cases h
  | arr e es fz=>exact fin h (.of σ _) fun ⟨_,_,_,h⟩=>by cases h
  | map t es=>exact fin h (.of σ _) fun ⟨_,_,_,h⟩=>by cases h
theorem NJ {σ:List Place}: ∀{bs:List ag} {n:Nat} {q:Nat × ag},q∈o4 σ n bs→∃i b,bs[i]? =some b∧q=(n+i,rU σ b)
 | [],n,q,h=>by simp[o4] at h
 | b::bs,n,q,h=>by
  simp only[o4,List.mem_cons] at h
  rcases h with h|h
  ·exact ⟨0,b,rfl,h⟩
  ·obtain ⟨i,b',h1,h2⟩:=NJ h
   exact ⟨i+1,b',by simpa using h1,by rw[h2];congr 1;omega⟩
theorem NK {σ:List Place}: ∀{bs:List ag} {n i:Nat} {b:ag},bs[i]? =some b→(n+i,rU σ b)∈o4 σ n bs
 | [],n,i,b,h=>by simp at h
 | b0::bs,n,i,b,h=>by
  simp only[o4,List.mem_cons]
  cases i with
  | zero=>simp at h;subst h;exact .inl rfl
  | succ i=>exact .inr (by rw[show n+(i+1)=n+1+i by omega];exact NK (by simpa using h))
theorem CJ: ∀{k n i:Nat},i<k→(qJ n k)[i]? =some (.blk (n+i))
 | 0,n,i,h=>by omega
 | k+1,n,0,h=>rfl
 | k+1,n,i+1,h=>by
  simp only[qJ,List.getElem?_cons_succ]
  rw[CJ (by omega)]
  congr 2
  omega
theorem Hz: ∀{k n:Nat},(qJ n k).length=k
 | 0,_=>rfl
 | k+1,n=>by simp[qJ,Hz]
theorem NL: ∀{bs:List (Nat × ag)} {k:Rd R} {r:R} {rd:List Nat},(BH bs k).run C hp=some (r,rd)→(∀q∈bs,hp q.1=none)∧∃eG,k.run C hp=some (r,eG)
 | [],k,r,rd,h=>⟨by simp,rd,h⟩
 | (id,b)::l,k,r,rd,h=>by
  simp only[BH] at h
  obtain ⟨l1,h⟩:=run_get h
  cases aa:hp id with
  | some blk=>rw[aa] at h;cases h
  | none=>
   rw[aa] at h
   obtain ⟨h1,h2⟩:=NL h
   refine ⟨fun q hq=> ?_,h2⟩
   rcases List.mem_cons.1 hq with e|hq
   ·subst e;exact aa
   ·exact h1 q hq
structure oo (σ:List Place) (bL:Nat→Option Nat) (aY:Nat→Option ag) (aj:Nat→Option Nat) (hp':Nat→Option ag):Prop where
 blk: ∀j b,aY j=some b→∃id b',dK σ j=some (.blk id)∧hp' id=some b'∧fM σ b b'∧(b≠ .dead→aj id=bL j)
 none: ∀j,aY j=none→dK σ j=none
 ahv: ∀j id ver path,dK σ j≠some (.row id ver path)
theorem oo.leaf {σ:List Place} (T:oo σ bL aY aj hp') {v:Value} {x:V} (h:ah P w I bL aY v x):ah P w I aj hp' v (jn σ x):=by
 have look: ∀{j b},aY j=some b→∃id b',dK σ j=some (.blk id)∧hp' id=some b'∧fM σ b b'∧(b≠ .dead→aj id=bL j):=fun h=>T.blk _ _ h
 cases h with
 | undef=>exact .undef
 | int=>exact .int
 | bool=>exact .bool
 | str h=>exact .str h
 | list h=>exact .list h
 | nilS=>exact .nilS
 | agg=>exact .undef
 | aS=>exact .undef
 | cW=>exact .cW
 | fn=>exact .undef
 | pref a b c=>exact .pref a b c
 | @dL _ e j h=>
  obtain ⟨id,b',k1,k2,k3,k4⟩:=look h
  simp only[jn,k1]
  cases k3
  exact .dL k2
 | @fH _ e j _ _ h=>
  obtain ⟨id,b',k1,k2,k3,k4⟩:=look h
  simp only[jn,k1]
  cases k3
  exact .fH k2
 | @jr _ j _ _ h=>
  obtain ⟨id,b',k1,k2,k3,k4⟩:=look h
  simp only[jn,k1]
  cases k3
  exact .jr k2
 | @dq e j fz _ h hb=>
  obtain ⟨id,b',k1,k2,k3,k4⟩:=look h
  simp only[jn,k1]
  cases k3
  exact .dq k2 ((k4 (by simp)).trans hb)
 | @whole e j es fz b cap h hb a1 a2 a3=>
  obtain ⟨id,b',k1,k2,k3,k4⟩:=look h
  simp only[jn,k1]
  cases k3
  exact .whole k2 ((k4 (by simp)).trans hb) a1 a2 a3
 | @dU e j es ai b cap h hb a1 a2 a3=>
  obtain ⟨id,b',k1,k2,k3,k4⟩:=look h
  simp only[jn,k1]
  cases k3
  exact .dU k2 ((k4 (by simp)).trans hb) a1 a2 a3
 | @fu e j fz _ h hb=>
  obtain ⟨id,b',k1,k2,k3,k4⟩:=look h
  simp only[jn,k1]
  cases k3
  exact .fu k2 ((k4 (by simp)).trans hb)
 | @sub e j off len es fz b o cap h hb a1 a2 a3=>
  obtain ⟨id,b',k1,k2,k3,k4⟩:=look h
  simp only[jn,k1]
  cases k3
  exact .sub k2 ((k4 (by simp)).trans hb) a1 a2 a3
 | @ptr j i c b blk h hd hb=>
  obtain ⟨id,b',k1,k2,k3,k4⟩:=look h
  simp only[jn,k1]
  have hs:blk.sz P=b'.sz P:=by cases k3<;>rfl
  rw[hs]
  exact .ptr k2 (by intro e;subst e;cases k3;exact hd rfl) ((k4 hd).trans hb)
 | iM=>exact .undef
 | iN=>exact .undef
 | row=>exact .undef
 | cg=>exact .undef
 | cX=>exact .cX
 | @gE _ t j h=>
  obtain ⟨id,b',k1,k2,k3,k4⟩:=look h
  simp only[jn,k1]
  cases k3
  exact .gE k2
 | @bH t j b es h hb=>
  obtain ⟨id,b',k1,k2,k3,k4⟩:=look h
  simp only[jn,k1]
  cases k3
  exact .bH k2 ((k4 (by simp)).trans hb)
theorem oo.one {σ:List Place} (T:oo σ bL aY aj hp') {v:Value} {x:V} (h:ah P w I bL aY v x):ah P w I aj hp' v (Ge σ x):=by
 cases x with
 | agg xs=>
  obtain ⟨cs,rfl,e1,e2⟩:=h.jO
  exact .agg (by simpa using e1) fun j v y hj hy=>by
   rw[List.getElem?_map] at hy
   cases hx:xs[j]? with
   | none=>rw[hx] at hy;cases hy
   | some x=>rw[hx] at hy;cases hy;exact T.leaf (e2 j v x hj hx)
 | fn f a b=>
  cases h with
  | fn a1 a2 b1 b2=>
   refine .fn (by simpa using a1) (fun j v y hj hy=> ?_) (by simpa using b1) (fun j v y hj hy=> ?_)
   ·rw[List.getElem?_map] at hy
    cases hx:a[j]? with
    | none=>rw[hx] at hy;cases hy
    | some x=>rw[hx] at hy;cases hy;exact T.leaf (a2 j v x hj hx)
   ·rw[List.getElem?_map] at hy
    cases hx:b[j]? with
    | none=>rw[hx] at hy;cases hy
    | some x=>rw[hx] at hy;cases hy;exact T.leaf (b2 j v x hj hx)
 | _=>exact T.leaf h
theorem oo.val {σ:List Place} (T:oo σ bL aY aj hp') {v:Value} {x:V} (h:ah P w I bL aY v x):ah P w I aj hp' v (BG σ x):=by
 cases x with
 | aS xs=>
  obtain ⟨cs,rfl,e1,e2⟩:=h.sq
  exact .aS (by simpa using e1) fun j v y hj hy=>by
   rw[List.getElem?_map] at hy
   cases hx:xs[j]? with
   | none=>rw[hx] at hy;cases hy
   | some x=>rw[hx] at hy;cases hy;exact T.one (e2 j v x hj hx)
 | _=>exact T.one h
theorem oo.NM {σ:List Place} (T:oo σ bL aY aj hp') {o:Option Nat} {b b':ag} (h:dD P w I bL aY o b) (hb:fM σ b b'):dD P w I aj hp' o b':=by
 cases hb with
 | dead=>exact .dead
 | var=>
  cases h with
  | var a1 a2 a3 a4 a5 a6=>
   refine .var a1 a2 (by simpa using a3) a4 (fun j v y hj hy=> ?_) a6
   rw[List.getElem?_map] at hy
   cases hx:(_:List V)[j]? with
   | none=>rw[hx] at hy;cases hy
   | some x=>rw[hx] at hy;cases hy;exact T.val (a5 j v x hj hx)
 | arr=>
  cases h with
  | dr hb=>exact .dr hb
  | arr a1 a2 a3 a4 a5 a6 a7=>exact .arr a1 a2 a3 a4 a5 a6 a7
 | nest=>
  cases h with
  | nest a1 a2 a3=>exact .nest a1 a2 a3
 | map=>
  cases h with
  | map a1 a2 a3 a4 a5 a6 a7=>exact .map a1 a2 a3 a4 a5 a6 a7
theorem fM.sN {σ:List Place} {o:Option Nat} {b b':ag} (h:fM σ b b') {m:Nat} (ho:bf P w o b' m):bf P w o b m:=by
 cases h with
 | dead=>exact absurd rfl ho.alive
 | var=>exact .root (by simp) (ho.flat (by simp))
 | arr=>exact .root (by simp) (ho.flat (by simp))
 | map=>exact .root (by simp) (ho.flat (by simp))
 | nest=>
  cases ho with
  | root _ hb=>exact .root (by simp) hb
  | row hb ha=>exact .row hb ha
theorem fM.NN {σ:List Place} {b b':ag} (h:fM σ b b'):b'≠ .dead→b≠ .dead:=by
 intro h1 h2;subst h2;cases h;exact h1 rfl
end
end Go.AM
namespace Go.AM
section
variable {P:Program} {A:ch} {w w':World} {I I' I2:Nat→Prop} {μ β aj bL:Nat→Option Nat} {hp hp' hp0 aY:Nat→Option ag} {C:ae} {B:Nat} {M:Nat→Prop} {w0:Start}
theorem NO: ∀{vs:List Nat} {k:Nat},k<vs.length→bq (vs.map (· +1)) k=bq vs k+1
 | [],k,h=>by simp at h
 | v::vs,0,h=>rfl
 | v::vs,k+1,h=>by simp only[List.map_cons,bq];exact NO (by simpa using h)
theorem NQ: ∀{vs:List Nat} {k:Nat},bq vs k≤bq (vs.map (· +1)) k
 | [],k=>by simp[bq]
 | v::vs,0=>by simp[bq]
 | v::vs,k+1=>by simp only[List.map_cons,bq];exact NQ
def yh (hp:Nat→Option ag) (q:Nat × ag):Prop:=(∃e es v2,q.2= .nest e es v2)→∃e es ai e' aG,hp q.1=some (.nest e es ai)∧q.2= .nest e' aG (ai.map (· +1))
theorem dF.HA {id:Nat} {o:Option Nat} {blk:ag} (h:dF P w β hp (.blk id) o blk):o=β id∧∃b0,hp id=some b0∧b0≠ .dead:=by
 cases h with
 | var h=>exact ⟨rfl,_,h,by simp⟩
 | arr h=>exact ⟨rfl,_,h,by simp⟩
 | nest h=>exact ⟨rfl,_,h,by simp⟩
 | map h=>exact ⟨rfl,_,h,by simp⟩
theorem dF.X9 {id:Nat} {o:Option Nat} {c b b' b0:ag} {σ:List Place} (h:dF P w β hp (.blk id) o c) (h0:hp id=some b0) (hle:c.le b) (hb:fM σ b b') (hn:yh hp (id,b')):b0.le b':=by
 cases h with
 | var h=>
  rw[h] at h0;cases h0
  cases hb with
  | dead=>trivial
  | var=>trivial
  | arr=>exact hle.elim
  | nest=>exact hle.elim
  | map=>exact hle.elim
 | arr h=>
  rw[h] at h0;cases h0
  cases hb with
  | dead=>trivial
  | var=>exact hle.elim
  | arr=>exact hle
  | nest=>exact hle.elim
  | map=>exact hle.elim
 | map h=>
  rw[h] at h0;cases h0
  cases hb with
  | dead=>trivial
  | map=>exact hle
  | _=>exact hle.elim
 | nest h=>
  rw[h] at h0;cases h0
  cases hb with
  | dead=>trivial
  | var=>exact hle.elim
  | arr=>exact hle
  | map=>exact hle.elim
  | @nest e es v1 v2=>
   obtain ⟨e1,b6,sP,e2,bP,k1,k2⟩:=hn ⟨_,_,_,rfl⟩
   cases k2
   change hp id=_ at k1
   rw[h] at k1;cases k1
   exact ⟨hle.1,hle.2.1,by simp,fun k=>NQ⟩
theorem dF.other {p:Place} {o:Option Nat} {blk:ag} (h:dF P w β hp p o blk) (he:hp' p.id=hp p.id):dF P w β hp' p o blk:=by
 cases h with
 | var h=>exact .var (he.trans h)
 | arr h=>exact .arr (he.trans h)
 | nest h=>exact .nest (he.trans h)
 | map h=>exact .map (he.trans h)
 | row h a b c d e f g=>exact .row (he.trans h) a b c d e f g
open Classical in
theorem NR (S:aC P w I β hp B M w0) {pl:List Place} {o:Nat→Option Nat} {bs:List ag} {nb:Nat} {bk fr:List (Nat × ag)} {σ:List Place} (pB:σ=pl++qJ nb (bs.length-pl.length)) (yi:fr=o4 σ nb (bs.drop pl.length))
  (jy:(pl.map Place.id).Nodup) (pe:pl.length≤bs.length)
  (CK: ∀(j:Nat) p,pl[j]? =some p→∃id b,p= .blk id∧(id,b)∈bk) (CL: ∀q∈bk,∃(j:Nat) (b:ag),pl[j]? =some (.blk q.1)∧bs[j]? =some b∧fM σ b q.2∧yh hp q)
  (hl: ∀j blk,hp0 j=some blk→∃p,dK pl j=some p∧dF P w β hp p (o j) blk) (hd: ∀j,j<pl.length→∃blk,hp0 j=some blk)
  (Sc:aC P w' I2 bL (iL bs) w.heap.size (nk P w o hp0) ⟨w,I⟩) (vb:jR w I o hp0 w' I2 bL (iL bs)) (ra: ∀q∈fr,hp q.1=none):
  ∃aj,Le P w I β hp w' I2 aj (bB hp (fr++bk))∧aC P w' I2 aj (bB hp (fr++bk)) B M w0∧oo σ bL (iL bs) aj (bB hp (fr++bk)):=by
 generalize HB:bB hp (fr++bk)=gl
 let aj:Nat→Option Nat:=fun n=>if∃q∈fr,q.1=n then bL (pl.length+(n-nb)) else β n
 have NS: ∀(j:Nat) id,pl[j]? =some (.blk id)→∃c,hp0 j=some c∧dF P w β hp (.blk id) (o j) c:=by
  intro j id hj
  obtain ⟨c,hc⟩:=hd j (List.getElem?_eq_some_iff.1 hj).1
  obtain ⟨p,h1,h2⟩:=hl j c hc
  rw[ky,hj] at h1
  cases h1
  exact ⟨c,hc,h2⟩
 have uniq: ∀(j1 j2:Nat) id,pl[j1]? =some (.blk id)→pl[j2]? =some (.blk id)→j1=j2:=by
  intro j1 j2 id h1 h2
  have m1:(pl.map Place.id)[j1]? =some id:=by rw[List.getElem?_map,h1];rfl
  have m2:(pl.map Place.id)[j2]? =some id:=by rw[List.getElem?_map,h2];rfl
  obtain ⟨z1,z2⟩:=List.getElem?_eq_some_iff.1 m1
  obtain ⟨z3,z4⟩:=List.getElem?_eq_some_iff.1 m2
  exact (List.getElem_inj jy).1 (z2.trans z4.symm)
 have cls: ∀id,(∃i b,id=nb+i∧bs[pl.length+i]? =some b∧gl id=some (rU σ b)∧hp id=none∧aj id=bL (pl.length+i))∨
   (∃(j:Nat) (b b' c b0:ag),pl[j]? =some (.blk id)∧bs[j]? =some b∧hp0 j=some c∧dF P w β hp (.blk id) (o j) c∧hp id=some b0∧b0.le b'∧gl id=some b'∧fM σ b b'∧yh hp (id,b')∧aj id=β id∧c.le b∧(b≠ .dead→bL j=β id))∨
   (gl id=hp id∧(∀j:Nat,pl[j]? ≠some (.blk id))∧aj id=β id):=by
  intro id
  by_cases hm: ∃b,(id,b)∈fr++bk
  ·obtain ⟨b,hm⟩:=hm
   obtain ⟨b',xD,he⟩:=BQ (hp:=hp) hm
   rw[HB] at he
   rcases List.mem_append.1 xD with h|h
   ·have h0:=ra _ h
    have nn:aj id=bL (pl.length+(id-nb)):=if_pos ⟨_,h,rfl⟩
    rw[yi] at h
    obtain ⟨i,b1,k1,k2⟩:=NJ h
    rw[List.getElem?_drop] at k1
    cases k2
    exact .inl ⟨i,b1,rfl,k1,he,h0,by rw[nn];congr 2;omega⟩
   ·obtain ⟨j,b1,q1,q2,q3,q4⟩:=CL _ h
    obtain ⟨c,c1,c2⟩:=NS j id q1
    obtain ⟨c3,b0,c4,c5⟩:=c2.HA
    obtain ⟨b2,d1,d2,d3⟩:=vb.blk j c c1
    rw[gq,q2] at d1
    cases d1
    refine .inr (.inl ⟨j,b1,b',c,b0,q1,q2,c1,c2,c4,c2.X9 c4 d2 q3 q4,he,q3,q4,if_neg ?_,d2,fun h=>(d3 h).trans c3⟩)
    rintro ⟨q,hq,Ya⟩
    rw[←Ya,ra q hq] at c4
    cases c4
  ·refine .inr (.inr ⟨?_,fun j hj=> ?_,if_neg ?_⟩)
   ·rcases si (hp:=hp) (l:=fr++bk) (id:=id) with h|⟨b,hb,_⟩
    ·rw[HB] at h;exact h
    ·exact absurd ⟨b,hb⟩ hm
   ·obtain ⟨az,b,e,hb⟩:=CK j _ hj
    cases e
    exact hm ⟨b,List.mem_append.2 (.inr hb)⟩
   ·rintro ⟨q,hq,rfl⟩
    exact hm ⟨q.2,List.mem_append.2 (.inl hq)⟩
 have NT: ∀b,nk P w o hp0 b→∃(j id:Nat) (b1:ag),pl[j]? =some (.blk id)∧hp id=some b1∧bf P w (β id) b1 b∧∀e es,b1≠ .arr e es true:=by
  rintro b ⟨j,c,hc,ho⟩
  obtain ⟨p,h1,h2⟩:=hl j c hc
  rw[ky] at h1
  obtain ⟨id,b2,rfl,_⟩:=CK j p h1
  obtain ⟨b1,k1,k2,k3⟩:=h2.sN ho
  exact ⟨j,id,b1,h1,k1,k2,k3⟩
 have other: ∀id blk b,hp id=some blk→bf P w (β id) blk b→(∀j:Nat,pl[j]? ≠some (.blk id))→¬nk P w o hp0 b∧w'.heap[b]? =w.heap[b]? ∧(I2 b→I b):=by
  intro id blk b e1 e3 e4
  have np: ¬nk P w o hp0 b:=by
   intro hx
   obtain ⟨j,az,b1,i1,i2,i3,_⟩:=NT b hx
   have:=S.h.inj id az _ _ b e1 i2 e3 i3
   subst this
   exact e4 j i1
  have aK:=S.h.lt e1 e3
  refine ⟨np,Sc.bU b aK np,fun h=> ?_⟩
  rcases Sc.new b h with h|h|h
  ·exact h
  ·exact absurd h np
  ·omega
 have qV:oo σ bL (iL bs) aj gl:=by
  refine ⟨fun j b hj=> ?_,fun j hj=> ?_,fun j id ver path hj=> ?_⟩
  ·rw[gq] at hj
   by_cases cB:j<pl.length
   ·obtain ⟨id,b1,e,ko⟩:=CK j _ (List.getElem?_eq_getElem cB)
    have CM:pl[j]? =some (.blk id):=by rw[List.getElem?_eq_getElem cB,e]
    have HC:dK σ j=some (.blk id):=by rw[pB];exact ni (by rw[ky];exact CM)
    rcases cls id with ⟨i,b2,c1,c2,c3,c4,c5⟩|⟨j',b2,b',c,b0,q1,q2,q3,q4,q5,q6,q7,q8,q9,oq,vc,pC⟩|⟨c1,c2,c3⟩
    ·obtain ⟨c,d1,d2⟩:=NS j id CM
     obtain ⟨_,b0,d3,_⟩:=d2.HA
     rw[d3] at c4;cases c4
    ·obtain rfl:=uniq _ _ _ q1 CM
     rw[hj] at q2;cases q2
     exact ⟨id,b',HC,q7,q8,fun h=>oq.trans (pC h).symm⟩
    ·exact absurd CM (c2 j)
   ·have NU:=(List.getElem?_eq_some_iff.1 hj).1
    have HC:dK σ j=some (.blk (nb+(j-pl.length))):=by
     rw[pB,ky,List.getElem?_append_right (by omega)]
     exact CJ (by omega)
    have hm:(nb+(j-pl.length),rU σ b)∈fr:=by
     rw[yi]
     refine NK ?_
     rw[List.getElem?_drop,show pl.length+(j-pl.length)=j by omega]
     exact hj
    rcases cls (nb+(j-pl.length)) with ⟨i,b2,c1,c2,c3,c4,c5⟩|⟨j',b2,b',c,b0,q1,q2,q3,q4,q5,q6,q7,q8,q9,oq,vc,pC⟩|⟨c1,c2,c3⟩
    ·have hi:i=j-pl.length:=by omega
     subst hi
     rw[show pl.length+(j-pl.length)=j by omega] at c2 c5
     rw[hj] at c2;cases c2
     exact ⟨_,_,HC,c3,.of σ _,fun _=>c5⟩
    ·rw[ra _ hm] at q5;cases q5
    ·obtain ⟨b',xD,he⟩:=BQ (hp:=hp) (l:=fr++bk) (List.mem_append.2 (.inl hm))
     rw[HB,c1,ra _ hm] at he
     cases he
  ·rw[gq] at hj
   have:=List.getElem?_eq_none_iff.1 hj
   rw[pB,ky,List.getElem?_eq_none_iff,List.length_append,Hz]
   omega
  ·rw[pB,ky] at hj
   by_cases cB:j<pl.length
   ·rw[List.getElem?_append_left cB] at hj
    obtain ⟨az,b1,e,_⟩:=CK j _ hj
    cases e
   ·have NU:j-pl.length<bs.length-pl.length:=by
     have:=(List.getElem?_eq_some_iff.1 hj).1
     rw[List.length_append,Hz] at this
     omega
    rw[List.getElem?_append_right (by omega),CJ NU] at hj
    cases hj
 have hle:Le P w I β hp w' I2 aj gl:=by
  refine ⟨vb.cM,vb.bU,fun id blk aa=> ?_,fun id blk blk' b aa br pD hb=> ?_,fun id e es ai e' aG vers' b q i c t v e1 l aa br hb aK hv ht hc=> ?_⟩
  ·rcases cls id with ⟨i,b2,c1,c2,c3,c4,c5⟩|⟨j',b2,b',c,b0,q1,q2,q3,q4,q5,q6,q7,q8,q9,oq,vc,pC⟩|⟨c1,c2,c3⟩
   ·rw[aa] at c4;cases c4
   ·rw[aa] at q5;cases q5
    exact ⟨b',q7,q6,fun _=>oq⟩
   ·exact ⟨blk,c1.trans aa,ag.le_refl _,fun _=>c3⟩
  ·rcases cls id with ⟨i,b2,c1,c2,c3,c4,c5⟩|⟨j',b2,b',c,b0,q1,q2,q3,q4,q5,q6,q7,q8,q9,oq,vc,pC⟩|⟨c1,c2,c3⟩
   ·rw[aa] at c4;cases c4
   ·rw[q7] at br;cases br
    exact vb.size j' c b2 b q3 (by rw[gq];exact q2) (q8.NN pD) (q4.HA.1.trans hb)
   ·rw[c1,aa] at br
    cases br
    simp only[bsize,(other id blk b aa (.root pD hb) c2).2.1]
  ·rcases cls id with ⟨i2,b2,c1,c2,c3,c4,c5⟩|⟨j',b2,b',c',b0,q1,q2,q3,q4,q5,q6,q7,q8,q9,oq,vc,pC⟩|⟨c1,c2,c3⟩
   ·rw[aa] at c4;cases c4
   ·rw[q7] at br;cases br
    obtain ⟨_,_,sP,_,_,k1,k2⟩:=q9 ⟨_,_,_,rfl⟩
    change hp id=_ at k1
    rw[aa] at k1;cases k1
    cases k2
    rw[NO aK] at hv
    omega
   ·rw[c1,aa] at br
    cases br
    exact ⟨l,rfl,hc.mono fun _ _ _ _ h=>(other id _ _ aa (.row hb h) c2).2.1⟩
 have place: ∀id blk b,gl id=some blk→bf P w' (aj id) blk b→(∃j c,iL bs j=some c∧bf P w' (bL j) c b∧dK σ j=some (.blk id))∨(b<w.heap.size∧¬nk P w o hp0 b∧hp id=some blk∧bf P w (β id) blk b):=by
  intro id blk b e1 e3
  rcases cls id with ⟨i,b2,c1,c2,c3,c4,c5⟩|⟨j',b2,b',c,b0,q1,q2,q3,q4,q5,q6,q7,q8,q9,oq,vc,pC⟩|⟨c1,c2,c3⟩
  ·rw[c3] at e1;cases e1
   rw[c5] at e3
   refine .inl ⟨pl.length+i,b2,by rw[gq];exact c2,(fM.of σ b2).sN e3,?_⟩
   have:=(List.getElem?_eq_some_iff.1 c2).1
   rw[pB,ky,List.getElem?_append_right (by omega),CJ (by omega),c1]
   congr 3
   omega
  ·rw[q7] at e1;cases e1
   have pD:b2≠ .dead:=q8.NN e3.alive
   rw[oq,←pC pD] at e3
   exact .inl ⟨j',b2,by rw[gq];exact q2,q8.sN e3,by rw[pB];exact ni (by rw[ky];exact q1)⟩
  ·rw[c1] at e1
   rw[c3] at e3
   have:=e3.mono (w:=w) fun b hb=>(other id blk b e1 hb c2).2.1
   exact .inr ⟨S.h.lt e1 this,(other id blk b e1 this c2).1,e1,this⟩
 have qO: ∀b,nk P w o hp0 b∨w.heap.size≤b→M b∨B≤b:=by
  rintro b (h|h)
  ·obtain ⟨j,id,b1,i1,i2,i3,_⟩:=NT b h
   exact S.h.own id b1 b i2 i3
  ·exact .inr (Nat.le_trans S.size h)
 have HD: ∀j c b,iL bs j=some c→bf P w' (bL j) c b→nk P w o hp0 b∨w.heap.size≤b:=fun j c b h1 h2=>Sc.h.own j c b h1 h2
 refine ⟨aj,hle,⟨⟨fun id blk aa=> ?_,fun i1 i2 b1 b2 b e1 e2 f1 f2=> ?_,fun id blk b aa hb=> ?_,Sc.h.iO⟩,fun b hb hM=> ?_,Nat.le_trans S.size Sc.size,fun b hb=> ?_,⟨Sc.io.1.trans S.io.1,Sc.io.2.trans S.io.2⟩⟩,qV⟩
 ·rcases cls id with ⟨i,b2,c1,c2,c3,c4,c5⟩|⟨j',b2,b',c,b0,q1,q2,q3,q4,q5,q6,q7,q8,q9,oq,vc,pC⟩|⟨c1,c2,c3⟩
  ·rw[c3] at aa;cases aa
   rw[c5]
   exact qV.NM (Sc.h.rel _ b2 (by rw[gq];exact c2)) (.of σ b2)
  ·rw[q7] at aa;cases aa
   have:=qV.NM (Sc.h.rel j' b2 (by rw[gq];exact q2)) q8
   by_cases pD:b2= .dead
   ·subst pD
    cases q8
    exact .dead
   ·rw[oq,←pC pD]
    exact this
  ·rw[c1] at aa
   rw[c3]
   exact (S.h.rel id blk aa).mono hle fun b hb=>(other id blk b aa hb c2).2
 ·rcases place i1 b1 b e1 f1 with ⟨j1,c1,g1,g2,g3⟩|⟨g1,g2,g3,g4⟩<;>rcases place i2 b2 b e2 f2 with ⟨j2,c2,k1,k2,k3⟩|⟨k1,k2,k3,k4⟩
  ·have:=Sc.h.inj j1 j2 c1 c2 b g1 k1 g2 k2
   subst this
   rw[g3] at k3
   cases k3
   rfl
  ·rcases HD j1 c1 b g1 g2 with h|h
   ·exact absurd h k2
   ·omega
  ·rcases HD j2 c2 b k1 k2 with h|h
   ·exact absurd h g2
   ·omega
  ·exact S.h.inj i1 i2 _ _ b g3 k3 g4 k4
 ·rcases place id blk b aa hb with ⟨j1,c1,g1,g2,g3⟩|⟨g1,g2,g3,g4⟩
  ·exact qO b (HD j1 c1 b g1 g2)
  ·exact S.h.own id blk b g3 g4
 ·refine (Sc.bU b (Nat.lt_of_lt_of_le hb S.size) fun hx=> ?_).trans (S.bU b hb hM)
  rcases qO b (.inl hx) with h|h
  ·exact hM h
  ·omega
 ·rcases Sc.new b hb with h|h|h
  ·exact S.new b h
  ·exact .inr (qO b (.inl h))
  ·exact .inr (qO b (.inr h))
end
end Go.AM
namespace Go.AM
section
variable {P:Program} {A:ch} {w w':World} {I I' I2:Nat→Prop} {μ β aj bL:Nat→Option Nat} {hp hp' hp0 aY:Nat→Option ag} {C:ae} {B:Nat} {M:Nat→Prop} {w0:Start}
theorem NV (hp:Nat→Option ag): ∀(a b:List (Nat × ag)),bB hp (a++b)=bB (bB hp b) a
 | [],b=>rfl
 | (i,x)::a,b=>by simp only[List.cons_append,bB,NV hp a b]
theorem sQ {hp:Nat→Option ag} {l:List (Nat × ag)} {id:Nat} (h: ∀q∈l,q.1≠id):bB hp l id=hp id:=by
 rcases si (hp:=hp) (l:=l) (id:=id) with h1|⟨b,hb,_⟩
 ·exact h1
 ·exact absurd rfl (h _ hb)
def vd (P : Program) : Prop := ∀ (f : Nat) fn, P.funcs[f]? = some fn → (fn.name == "runtime.NumGoroutine") = false
def CN (P:Program) (f:FuncId) (e:TypeId):Prop:=
 (∀args w,(callFunc f args).run P w= .ok (.enter f args) w)∧∃t,P.underlying t=some (.slice e)∧
  ∀(s:Value) (w:World) (Q:Ending→World→Prop),(s= .slice none 0 0→Q (.returned (.slice none 0 0)) w)→
   (∀a n c,s= .slice (some a) n c→∃v w',(Builtin.append_ #[t,t] t #[.slice (some ⟨w.heap.size,0,none⟩) 0 0,s]).run P (w.alloc (.cells #[] e))= .ok v w'∧Q (.returned v) w')→
   (s= .slice none 0 0∨∃a n c,s= .slice (some a) n c)→Calls P f #[s] w Q
structure iC (P:Program) (A:ch):Prop where
 count:vd P
 ext: ∀f T,A.ext f=some T→∀(b:Nat) (C:Array Value) (w:World),w.heap[b]? =some (.cells C T (0,0))→C.size=P.cellsOf T→(C[0]? =some (.pointer none)∨C[0]? =some (.pointer (some ⟨b,0,none⟩)))→
  (callFunc f #[.pointer (some ⟨b,0,none⟩)]).run P w= .ok (.enter f #[.pointer (some ⟨b,0,none⟩)]) w∧
  Calls P f #[.pointer (some ⟨b,0,none⟩)] w fun e w'=>e= .returned (.tuple #[])∧(w'=w∨w'=w.setCell ⟨b,0,none⟩ (.pointer (some ⟨b,0,none⟩)))
 idle: ∀f,A.idle f=true→(∀args w,(callFunc f args).run P w= .ok (.enter f args) w)∧
  ∀args w,CallsD P f args .returning w fun e u' w'=>(∃v,e= .returned v)∧u'= .returning∧w'=w
 mU: ∀f e,A.mU f=some e→CN P f e
theorem iC.here {P:Program} {A:ch} (h:iC P A) (f id:Nat):iC P (A.here f id):=⟨h.count,h.ext,h.idle,h.mU⟩
def yj (E:FuncId→Bool) (d:Deferred):Prop:= ∃f cap,d.target= .fn (.func f) cap∧E f=true
theorem HE {P:Program} {A:ch} (hP:iC P A) {fn:Func} {tmps:Array Value} {R:Ending→World→Prop} {w:World} {v:Value} (hv:(results fn tmps).run P w= .ok v w) (hR:R (.returned v) w):
  ∀ds:List Deferred,(∀d∈ds,yj A.idle d)→Leaves P fn tmps R ds .returning w
 | [],_=>⟨v,hv,hR⟩
 | d::ds,h=>by
  obtain ⟨f,cap,ht,hf⟩:=h d (by simp)
  obtain ⟨k1,k2⟩:=hP.idle f hf
  obtain ⟨t,NW⟩:=d
  simp only at ht
  subst ht
  refine leaves_cons (f:=f) (args:=NW++cap) (by simp) ?_ ?_
  ·simp only[invoke];exact k1 _ w
  ·refine (k2 (NW++cap) w).mono fun e u' w' hr=> ?_
   obtain ⟨⟨v',rfl⟩,rfl,rfl⟩:=hr
   exact HE hP hv hR ds fun d hd=>h d (List.mem_cons_of_mem _ hd)
def yk (P:Program) (A:ch) (o:Oper) (a:Act) (w:World) (I:Nat→Prop) (β:Nat→Option Nat) (hp:Nat→Option ag) (B:Nat) (M:Nat→Prop) (w0:Start) (r:R):Prop:=
 ∀(next:Act→World→Prop) (Q:Exit→Act→World→Prop),
  (∀v w' I' aj ds,Le P w I β hp w' I' aj (bB hp r.upd)→aC P w' I' aj (bB hp r.upd) B M w0→ah P w' I' aj (bB hp r.upd) v r.v→(∀d∈ds,d∈a.defers∨yj A.idle d)→next ({a with defers:=ds}.put o.dst v) w')→o.wp P a w next Q
theorem nZ.step {o:Oper} {a:Act} {r:R} (h:nZ P ((execOp a.eval o).run P w) w I β hp B M w0 r):yk P A o a w I β hp B M w0 r:=by
 obtain ⟨v,w',I',aj,h1,h2,h3,h4⟩:=h
 intro next Q hn
 unfold Oper.wp
 rcases h1 with h1|⟨h1,rfl⟩
 ·rw[h1];exact hn v w' I' aj a.defers h2 h3 h4 fun d hd=> .inl hd
 ·rw[h1];exact hn _ w' I' aj a.defers h2 h3 h4 fun d hd=> .inl hd
theorem NX: ∀(l:List (Nat × VS)),mW l=qI (l.map (·.2))
 | []=>rfl
 | (_,s)::l=>by simp only[mW,List.map_cons,qI,NX l]
theorem Yb (hC:jS P A C) (S:aC P w I β hp B M w0) (hg:gk P A.aB w I) {vals:List Value} {args:List V} {nb key:Nat} {f:FuncId} {r:R} {rd:List Nat} (hlen:vals.length=args.length)
  (cj: ∀(j:Nat) v x,vals[j]? =some v→args[j]? =some x→ah P w I β hp v x) (h:(xi P A nb key f args).run C hp=some (r,rd)):
  ∃fn c,P.funcs[f]? =some fn∧fn.body=some c∧Calls P f vals.toArray w fun e w'=> ∃v I' aj,e= .returned v∧Le P w I β hp w' I' aj (bB hp r.upd)∧aC P w' I' aj (bB hp r.upd) B M w0∧ah P w' I' aj (bB hp r.upd) v r.v:=by
 unfold xi at h
 obtain ⟨NY,h0⟩:=aD h
 clear h
 rw[Nat.beq_eq] at NY
 subst NY
 obtain ⟨h1,iB,d1,u1,a1,a2,a3,a5,a4⟩:=Hv S h0 hlen cj
 obtain ⟨h2,q0,d2,u2,b1,b2,b3,b4⟩:=NA S a1
 clear h0 a1
 obtain ⟨hc,h3⟩:=aD b1
 clear b1
 simp only[Bool.and_eq_true,Nat.beq_eq,Bool.not_eq_true'] at hc
 obtain ⟨fc,sO⟩:=hc
 have rb:=a2.trans b2
 have ka:h2.ds=d1++d2:=by have:=rb.ds;simpa using this
 have CO:h2.upd=u1++u2:=by have:=rb.upd;simpa using this
 have jy:(h2.pl.map Place.id).Nodup:=rb.nodup (by simp)
 obtain ⟨c1,o,c2,c3⟩:=b4 []
 simp only[List.append_nil] at c1 c2 c3
 cases yl:C key h2.ds with
 | none=>
  simp only[Rd.run,yl] at h3
  cases h3
 | some es=>
  have o9: ∃eG,(xh P (A.so key es) nb h2 (A.lv key es)).run C hp=some (r,eG):=by
   obtain ⟨x,hx,e⟩:=bind_some h3
   rw[yl] at hx
   cases hx
   unfold ch.so ch.lv
   cases bX:A.alt key with
   | none=>rw[bX] at e;exact ⟨_,e⟩
   | some S2=>
    rw[bX] at e
    simp only[Rd.run] at e
    cases hb:(V.nth es 0).toBool<;>(rw[hb] at e;exact ⟨_,e⟩)
  clear h3
  obtain ⟨eG,h3⟩:=o9
  unfold xh at h3
  simp only at h3
  generalize gm:eu (A.so key es).aO ((A.lv key es).drop (mW (A.so key es).bu))=bs at h3
  generalize pB:h2.pl++qJ nb (bs.length-h2.pl.length)=σ at h3
  generalize yi:o4 σ nb (bs.drop h2.pl.length)=fr at h3
  obtain ⟨p0,bk,rd4,p1,p2,_,p3⟩:=NI h3
  obtain ⟨ra,rd5,p4⟩:=NL p1
  obtain rfl:=aH p4
  have pe:h2.pl.length≤bs.length:=by rw[List.length_take] at p0;omega
  have CL: ∀q∈bk,∃(j:Nat) (b:ag),h2.pl[j]? =some (.blk q.1)∧bs[j]? =some b∧fM σ b q.2∧yh hp q:=by
   intro q hq
   rcases p2 q hq with hx|⟨j,b,k1,k2,k3,k4⟩
   ·simp at hx
   ·have hj:=(List.getElem?_eq_some_iff.1 k1).1
    rw[List.getElem?_take_of_lt hj] at k2
    exact ⟨j,b,k1,k2,k3,k4⟩
  obtain ⟨fn,c,hf,hb,HF⟩:=hC key h2.ds es yl
  refine ⟨fn,c,hf,hb,?_⟩
  have Yc:eu (A.sin key).aO (h2.ds.drop (mW (A.sin key).bu))=eu (A.sin key).aO d2:=by
   rw[ka,NX,mj a3]
  have HG:(aV (A.sin key) h2.ds).hp=iL (eu (A.sin key).aO d2):=by
   simp only[aV,mk,Yc]
  have hl: ∀j blk,(aV (A.sin key) h2.ds).hp j=some blk→∃p,dK h2.pl j=some p∧dF P w β hp p (o j) blk:=by
   intro j blk hj
   rw[HG,gq] at hj
   obtain ⟨p,k1,k2⟩:=c2 j blk hj
   rw[Nat.zero_add] at k1
   exact ⟨p,k1,k2⟩
  have hd: ∀j,j<h2.pl.length→∃blk,(aV (A.sin key) h2.ds).hp j=some blk:=by
   intro j hj
   rw[HG,gq]
   exact ⟨_,List.getElem?_eq_getElem (by rw[c1,←fc];exact hj)⟩
  have NZ:yd P w β hp h2.pl o (aV (A.sin key) h2.ds).hp:=by
   intro j p hj
   obtain ⟨blk,k1⟩:=hd j (by rw[ky] at hj;exact (List.getElem?_eq_some_iff.1 hj).1)
   obtain ⟨p',k2,k3⟩:=hl j blk k1
   rw[hj] at k2
   cases k2
   exact ⟨blk,k1,k3⟩
  obtain ⟨pn,S1⟩:=xC S rb.CD
  rw[←CO] at pn S1
  have i1: ∀b,I b→gU P w I β hp h2.upd b:=fun b h=> .inl h
  have entry:=X5 (hp0:=(aV (A.sin key) h2.ds).hp) S jy sO hl (fun cw j blk hj=>by
   have fU:=hj
   rw[HG,gq] at fU
   exact c3 (gU P w I β hp h2.upd) o _ i1 (fun q hq b hb=> .inr ⟨q,by rw[CO];exact List.mem_append.2 (.inr hq),hb⟩) h2.pl [] (by simp) NZ j blk fU (cw j blk hj)) S1.h.iO
  have Yd:vals.length=(A.sin key).bu.length:=by rw[hlen,←a5];simp
  have ha:=HF w (gU P w I β hp h2.upd) o vals entry (hg.mono i1 fun _ _=>rfl) Yd fun j v x hj hx=>by
   rw[ka] at hx
   exact (((a4.later b2) (gU P w I β hp h2.upd) o _ i1 (fun q hq b hb=> .inr ⟨q,by rw[CO];exact hq,hb⟩) h2.pl [] (by simp) NZ) d2).2 j v x hj hx
  refine ha.mono fun e w' ym=> ?_
  obtain ⟨v,I2,bL,rfl,ha⟩:=ym
  have ve:(aV (A.so key es) (A.lv key es)).hp=iL bs:=by simp only[aV,mk,gm]
  cases Ye:(A.so key es).safe P with
  | true=>
   simp only[cond_true,List.append_nil]
   have mg: ∀b,I b→I2 b:=fun b h=>ha.le.cM b (i1 b h)
   obtain ⟨s1,s2⟩:=X8 Ye mg ha.va i1
   have vb:jR w I o (aV (A.sin key) h2.ds).hp w' I bL (iL bs):=by
    rw[←ve]
    exact ⟨fun _ h=>h,fun b h=>ha.le.bU b (i1 b h),ha.le.blk,ha.le.size⟩
   obtain ⟨aj,k1,k2,k3⟩:=NR S pB.symm yi.symm jy pe p3 CL hl hd (by rw[←ve];exact ⟨s1.h,s1.bU,s1.size,fun b h=> .inl h,s1.io⟩) vb ra
   exact ⟨v,I,aj,rfl,k1,k2,k3.val (by have:=s2 v ha.res;rw[ve] at this;exact this)⟩
  | false=>
   simp only[cond_false]
   rw[←List.append_assoc,NV]
   have np: ∀p∈h2.pl,bB hp h2.upd p.id=hp p.id:=fun p hp=>sQ fun q hq e=>
    CI sO (List.mem_map.2 ⟨q,hq,rfl⟩) (e▸List.mem_map.2 ⟨p,hp,rfl⟩)
   have Yf: ∀q∈bk,∃(j:Nat) (b:ag),h2.pl[j]? =some (.blk q.1)∧bs[j]? =some b∧fM σ b q.2∧yh (bB hp h2.upd) q:=by
    intro q hq
    obtain ⟨j,b,k1,k2,k3,k4⟩:=CL q hq
    refine ⟨j,b,k1,k2,k3,fun hn=> ?_⟩
    have:=np _ (List.mem_of_getElem? k1)
    simp only[Place.id] at this
    rw[this]
    exact k4 hn
   have uE: ∀j blk,(aV (A.sin key) h2.ds).hp j=some blk→∃p,dK h2.pl j=some p∧dF P w β (bB hp h2.upd) p (o j) blk:=by
    intro j blk hj
    obtain ⟨p,k1,k2⟩:=hl j blk hj
    exact ⟨p,k1,k2.other (np p (by rw[ky] at k1;exact List.mem_of_getElem? k1))⟩
   have Yg: ∀q∈fr,bB hp h2.upd q.1=none:=by
    intro q hq
    rw[sQ fun q' bM e=> ?_]
    ·exact ra q hq
    ·obtain ⟨e1,b6,_,h5⟩:=rb.CD q' (CO▸bM)
     rw[e,ra q hq] at h5
     rcases h5 with ⟨_,h5⟩|⟨_,h5⟩<;>cases h5
   obtain ⟨aj,k1,k2,k3⟩:=NR S1 pB.symm yi.symm jy pe p3 Yf uE hd (by rw[←ve];exact ha.va) (by rw[←ve];exact ha.le) Yg
   exact ⟨v,I2,aj,rfl,pn.trans k1,k2,k3.val (by have:=ha.res;rw[ve] at this;exact this)⟩
theorem N0 (hC:jS P A C) (hP:iC P A) (S:aC P w I β hp B M w0) (hg:gk P A.aB w I) {a:Act} {nb key:Nat} {o:Oper} {f:FuncId} {vals:List Value} {args:List V} (hlen:vals.length=args.length)
  (cj: ∀(j:Nat) v x,vals[j]? =some v→args[j]? =some x→ah P w I β hp v x) {r:R} {rd:List Nat} (h:(xi P A nb key f args).run C hp=some (r,rd))
  (hex:(execOp a.eval o).run P w=(callFunc f vals.toArray).run P w):yk P A o a w I β hp B M w0 r:=by
 intro next Q hn
 obtain ⟨fn,c,hf,hb,HF⟩:=Yb hC S hg hlen cj h
 unfold Oper.wp
 rw[hex,MuLone.run_callFunc_enter hf (hP.count f _ hf) hb,Oper.upon_enter]
 refine HF.mono fun e w' ym=> ?_
 obtain ⟨v,I2,bL,rfl,k1,k2,k3⟩:=ym
 exact hn v w' I2 bL a.defers k1 k2 k3 fun d hd=> .inl hd
theorem jM.args {a:Act} {sl:Nat→V} (hs:jM P w I β hp a sl) (hg:gk P A.aB w I) {args:Array Operand} {ts:Array TypeId} (aM:args.size=ts.size):
  (args.map a.eval).toList.length=((args.toList.zip ts.toList).map fun p=>aI P A.aB p.2 sl p.1).length∧
  ∀(j:Nat) v x,(args.map a.eval).toList[j]? =some v→((args.toList.zip ts.toList).map fun p=>aI P A.aB p.2 sl p.1)[j]? =some x→ah P w I β hp v x:=by
 refine ⟨by simp;omega,fun j v x hv hx=> ?_⟩
 simp only[Array.toList_map,List.getElem?_map,List.getElem?_zip_eq_some,Option.map_eq_some_iff] at hv hx
 obtain ⟨x1,yn,rfl⟩:=hv
 obtain ⟨⟨y1,t1⟩,⟨N3,_⟩,rfl⟩:=hx
 rw[yn] at N3
 cases N3
 exact hs.ev hg t1 _
theorem N4 {vs us:List Value} {xs ys:List V} (h1:vs.length=xs.length) (h2: ∀(j:Nat) v x,vs[j]? =some v→xs[j]? =some x→ah P w I β hp v x)
  (h3: ∀(j:Nat) v x,us[j]? =some v→ys[j]? =some x→ah P w I β hp v x) (j:Nat) (v:Value) (x:V) (hv:(vs++us)[j]? =some v) (hx:(xs++ys)[j]? =some x):ah P w I β hp v x:=by
 by_cases hj:j<vs.length
 ·rw[List.getElem?_append_left hj] at hv
  rw[List.getElem?_append_left (by omega)] at hx
  exact h2 j v x hv hx
 ·rw[List.getElem?_append_right (by omega)] at hv
  rw[List.getElem?_append_right (by omega)] at hx
  rw[h1] at hv
  exact h3 _ v x hv hx
theorem Yh (hP:iC P A) (S:aC P w I β hp B M w0) (hg:gk P A.aB w I) {a:Act} {sl:Nat→V} (hs:jM P w I β hp a sl) {dst:Option Tmp} {ty e:TypeId} {pos:String} {after:Array Edge} {guard:Option (Nat × Bool)} {f:FuncId}
  {args:Array Operand} {argTypes:Array TypeId} {nb:Nat} {r:R} {rd:List Nat} (ku:A.mU f=some e)
  (h:((match args.toList with
    | [x]=> .ay (cx P e) (qG e (aI P A.aB ty sl x) fun xs=> .ay (Nat.ble (xs.length*P.bytesOf e) b9) (iq nb (.arr e xs false) (.whole e nb) []))
    | _=> .fail):Rd R).run C hp=some (r,rd)):yk P A (Oper.mk dst (.call (Go.Call.mk (.value (.func f)) args argTypes)) ty pos after guard) a w I β hp B M w0 r:=by
 cases ha:args.toList with
 | nil=>rw[ha] at h;cases h
 | cons x l=>
  rw[ha] at h
  cases l with
  | cons _ _=>cases h
  | nil=>
   simp only at h
   have e1:args= #[x]:=by rw[←Array.toArray_toList (xs:=args),ha]
   subst e1
   have hx:=hs.ev hg ty x
   obtain ⟨aq,h⟩:=aD h
   have fin: ∀{w1:World} {CP:Nat→Option Nat},(∀id blk,hp id=some blk→dD P w1 I CP hp (CP id) blk)→ah P w1 I CP hp (a.eval x) (aI P A.aB ty sl x)→∃xs,(((∃a',a.eval x= .slice a' 0 0)∧xs=[])∨∃a' c news,Row P w1 I e (a.eval x) xs a' c news)∧
     xs.length*P.bytesOf e≤b9∧hp nb=none∧r=⟨.whole e nb,[(nb,.arr e xs false)]⟩:=by
    intro w1 CP h1 h2
    obtain ⟨xs,kq,l,h⟩:=Ck h1 aq h2 h
    obtain ⟨eb,h⟩:=aD h
    rw[Nat.ble_eq] at eb
    obtain ⟨hn,rfl⟩:=mf h
    exact ⟨xs,kq,eb,hn,rfl⟩
   obtain ⟨c1,t,hu,c2⟩:=hP.mU f e ku
   intro next Q vf
   unfold Oper.wp
   have e2:(execOp a.eval ⟨dst,.call ⟨.value (.func f),#[x],argTypes⟩,ty,pos,after,guard⟩).run P w= .ok (.enter f #[a.eval x]) w:=by
    have eH:a.eval (.func f)= .func (.func f) #[] #[]:=rfl
    simpa[execOp,resolve,eH,Deferred.ofValue,invoke] using c1 #[a.eval x] w
   rw[e2,Oper.upon_enter]
   refine c2 _ w _ (fun yo=> ?_) (fun b n c uT=> ?_) ?_
   ·obtain ⟨xs,kq,eb,hn,rfl⟩:=fin S.h.rel hx
    have fV:xs=[]:=by
     rcases kq with ⟨_,h⟩|⟨a,c,news,hr⟩
     ·exact h
     ·have:=hr.val.symm.trans yo
      cases this
    subst fV
    obtain ⟨a1,a2⟩:=BU S e hn
    exact vf _ w I _ a.defers a1 a2 (.dq (cA _ _ _) (cA _ _ _)) fun d hd=> .inl hd
   ·obtain ⟨m1,m2⟩:=VT (w':=w.alloc (.cells #[] e)) S (fun b hb=>heap_alloc_old w _ b hb) (by simp) ⟨rfl,rfl⟩
    obtain ⟨xs,kq,eb,hn,rfl⟩:=fin m2.h.rel (hx.mono m1)
    obtain ⟨v,w',aj,a1,a2,a3,a4⟩:=G1 (ty:=t) (a0:=some ⟨w.heap.size,0,none⟩) m2 hu aq hn eb kq
    exact ⟨v,w',a1,vf v w' I aj a.defers (m1.trans a2) a3 a4 fun d hd=> .inl hd⟩
   ·obtain ⟨xs,kq,eb,hn,rfl⟩:=fin S.h.rel hx
    rcases kq with ⟨⟨b,h⟩,_⟩|⟨b,c,news,hr⟩
    ·rw[h]
     cases b with
     | none=>exact .inl rfl
     | some b=>exact .inr ⟨_,_,_,rfl⟩
    ·exact .inr ⟨_,_,_,hr.val⟩
theorem Yi (hP:iC P A) (S:aC P w I β hp B M w0) (hg:gk P A.aB w I) {a:Act} {sl:Nat→V} (hs:jM P w I β hp a sl) {dst:Option Tmp} {ty T0:TypeId} {pos:String} {after:Array Edge} {guard:Option (Nat × Bool)} {f:FuncId}
  {args:Array Operand} {argTypes:Array TypeId} {r:R} {rd:List Nat} (yp:A.ext f=some T0)
  (h:((match args.toList with
   | [x]=>
    match aI P A.aB ty sl x with
    | .ptr id i c=>Rd.get id fun
     | some (.var T cs)=> .ay (Nat.beq T T0&&(nP P T&&(Nat.beq cs.length (P.cellsOf T)&&(Nat.beq i 0&&Nat.beq c 0)))) (.ret ⟨.aS [],[(id,.var T (.undef::cs.tail))]⟩)
     | _=> .fail
    | _=> .fail
   | _=> .fail):Rd R).run C hp=some (r,rd)):yk P A (Oper.mk dst (.call (Go.Call.mk (.value (.func f)) args argTypes)) ty pos after guard) a w I β hp B M w0 r:=by
 cases ha:args.toList with
 | nil=>rw[ha] at h;cases h
 | cons x l=>
  rw[ha] at h
  cases l with
  | cons _ _=>cases h
  | nil=>
   simp only at h
   have e1:args= #[x]:=by rw[←Array.toArray_toList (xs:=args),ha]
   subst e1
   have hx:=hs.ev hg ty x
   cases eS:aI P A.aB ty sl x<;>rw[eS] at h hx<;>simp only at h<;>first|(cases h;done)|skip
   rename_i id i c
   obtain ⟨l,h1⟩:=run_get h
   cases aa:hp id with
   | none=>rw[aa] at h1;cases h1
   | some blk=>
    rw[aa] at h1
    cases blk<;>simp only at h1<;>first|(cases h1;done)|skip
    rename_i T cs
    obtain ⟨h2,h3⟩:=aD h1
    simp only[Bool.and_eq_true,Nat.beq_eq] at h2
    obtain ⟨rfl,b7,Yj,rfl,rfl⟩:=h2
    obtain rfl:=aH h3
    obtain ⟨b,hb,he⟩:=hx.gn aa (by simp)
    have hr:=S.h.rel id _ aa
    rw[hb] at hr
    cases hr with
    | @var _ b' Ca _ aw hh aM hI fV fJ=>
     cases aw
     have sE:a.eval x= .pointer (some ⟨b,0,none⟩):=by rw[he];simp[ag.sz]
     obtain ⟨q1,q2⟩:=hP.ext f T yp b Ca w hh (aM.trans Yj) (fJ b7)
     have h0:0<Ca.size:=by
      rcases fJ b7 with k|k<;>exact (Array.getElem?_eq_some_iff.1 k).1
     have na:(V.undef::cs.tail).length=cs.length:=by
      cases cs with
      | nil=>rw[aM] at h0;simp at h0
      | cons _ _=>rfl
     have rel: ∀(C':Array Value),(∀j,0<j→C'[j]? =Ca[j]?)→∀(j:Nat) v y,C'[j]? =some v→(V.undef::cs.tail)[j]? =some y→ah P w I β hp v y:=by
      intro C' uX j v y hj hy
      cases j with
      | zero=>simp at hy;subst hy;exact .undef
      | succ j=>
       rw[uX _ (by omega)] at hj
       refine fV (j+1) v y hj ?_
       cases cs with
       | nil=>rw[aM] at h0;simp at h0
       | cons _ _=>simpa using hy
     have fin: ∀w' C',(∀b',b'≠b→w'.heap[b']? =w.heap[b']?)→w'.heap[b]? =some (.cells C' T (0,0))→C'.size=Ca.size→w.heap.size≤w'.heap.size→w'.os=w.os∧w'.output=w.output→
       (∀j,0<j→C'[j]? =Ca[j]?)→(C'[0]? =some (.pointer none)∨C'[0]? =some (.pointer (some ⟨b,0,none⟩)))→
       Le P w I β hp w' I β (aF hp id (some (.var T (V.undef::cs.tail))))∧aC P w' I β (aF hp id (some (.var T (V.undef::cs.tail)))) B M w0:=by
      intro w' C' k1 k2 k3 k4 k5 k6 k7
      exact BW (w':=w') (blk':= .var T (V.undef::cs.tail)) S aa (by simp) rfl hb hI (by simp) k1 (by rw[lW k2,lW hh,k3]) k4 k5 fun hle=>
       .var rfl k2 (by rw[k3,aM,na]) hI (fun j v y hj hy=>(rel C' k6 j v y hj hy).mono hle) fun _=>k7
     intro next Q hn
     unfold Oper.wp
     have e2:(execOp a.eval ⟨dst,.call ⟨.value (.func f),#[x],argTypes⟩,ty,pos,after,guard⟩).run P w= .ok (.enter f #[.pointer (some ⟨b,0,none⟩)]) w:=by
      have eH:a.eval (.func f)= .func (.func f) #[] #[]:=rfl
      simpa[execOp,resolve,eH,Deferred.ofValue,invoke,sE] using q1
     rw[e2,Oper.upon_enter]
     refine q2.mono fun e w' ym=> ?_
     obtain ⟨rfl,hw⟩:=ym
     have N5:Le P w I β hp w' I β (aF hp id (some (.var T (V.undef::cs.tail))))∧aC P w' I β (aF hp id (some (.var T (V.undef::cs.tail)))) B M w0:=by
      rcases hw with rfl|rfl
      ·exact fin w' Ca (fun _ _=>rfl) hh rfl (Nat.le_refl _) ⟨rfl,rfl⟩ (fun _ _=>rfl) (fJ b7)
      ·refine fin (w.setCell ⟨b,0,none⟩ (.pointer (some ⟨b,0,none⟩))) (Ca.setIfInBounds 0 (.pointer (some ⟨b,0,none⟩))) (fun b' bC=> ?_) ?_ (by simp) (by simp[World.setCell]) ⟨rfl,rfl⟩ (fun j hj=> ?_) (.inr ?_)
       ·simp only[World.setCell,Array.getElem?_modify]
        rw[if_neg (fun e=>bC e.symm)]
       ·simp[World.setCell,Array.getElem?_modify,hh]
       ·rw[Array.getElem?_setIfInBounds_ne (by omega)]
       ·rw[Array.getElem?_setIfInBounds_self_of_lt h0]
     exact hn (.tuple #[]) w' I β a.defers N5.1 N5.2 (.aS rfl fun j v y hj _=>by simp at hj) fun d hd=> .inl hd
theorem Yk (hC:jS P A C) (hP:iC P A) (S:aC P w I β hp B M w0) (hg:gk P A.aB w I) {a:Act} {sl:Nat→V} (hs:jM P w I β hp a sl) {ix nb:Nat} {o:Oper} {r:R} {rd:List Nat}
  (h:(e9 P A sl ix nb o).run C hp=some (r,rd)):yk P A o a w I β hp B M w0 r:=by
 cases hc:Hm o.op with
 | false=>exact (XK S hg hs hc h).step
 | true=>
  obtain ⟨dst,op,ty,pos,after,guard⟩:=o
  cases op<;>simp only[Hm] at hc<;>first|(cases hc;done)|skip
  case defer c=>
   obtain ⟨callee,args,argTypes⟩:=c
   cases callee with
   | invoke r m=>simp only[e9] at h;cases h
   | builtin b=>simp only[e9] at h;cases h
   | value f=>
   cases f with
   | tmp t=>
    simp only[e9] at h
    cases b7:sl t<;>rw[b7] at h<;>simp only at h<;>first|(cases h;done)|skip
    rename_i f xs ys
    obtain ⟨h1,h2⟩:=aD h
    obtain rfl:=aH h2
    have hv:=hs t
    rw[b7] at hv
    generalize sI:a.tmps.getD t undef=vt at hv
    cases hv with
    | @fn _ fs cs _ _ q1 q2 q3 q4=>
     intro next Q hn
     unfold Oper.wp
     have eH:a.eval (.tmp t)= .func (.func f) fs cs:=sI
     have e1:(execOp a.eval ⟨dst,.defer ⟨.value (.tmp t),args,argTypes⟩,ty,pos,after,guard⟩).run P w= .ok (.defer {target:= .fn (.func f) cs,args:=fs++args.map a.eval}) w:=by
      simp[execOp,resolve,eH,Deferred.ofValue]
     rw[e1,Oper.upon_defer]
     exact hn undef w I β _ (Le.refl w I β hp) S .undef fun d hd=>by
      rcases List.mem_cons.1 hd with rfl|hd
      ·exact .inr ⟨f,cs,rfl,h1⟩
      ·exact .inl hd
   | func f=>simp only[e9] at h;cases h
   | const _=>simp only[e9] at h;cases h
   | global _=>simp only[e9] at h;cases h
  rename_i c
  obtain ⟨callee,args,argTypes⟩:=c
  cases callee with
  | invoke r m=>cases hc
  | builtin b=>cases hc
  | value f=>
   cases f with
   | func f=>
    simp only[e9] at h
    cases yp:A.ext f with
    | some T0=>
     rw[yp] at h
     simp only at h
     exact Yi hP S hg hs yp h
    | none=>
    rw[yp] at h
    simp only at h
    cases ku:A.mU f with
    | some e0=>
     rw[ku] at h
     simp only at h
     exact Yh hP S hg hs ku h
    | none=>
    rw[ku] at h
    simp only at h
    obtain ⟨h1,h2⟩:=aD h
    rw[Nat.beq_eq] at h1
    obtain ⟨k1,k2⟩:=hs.args hg h1
    refine N0 hC hP S hg k1 k2 h2 ?_
    have e1:(args.map a.eval).toList.toArray=args.map a.eval:=Array.toArray_toList
    rw[e1]
    simp[execOp,resolve,Act.eval,Deferred.ofValue,invoke]
   | tmp t=>
    simp only[e9] at h
    cases b7:sl t<;>rw[b7] at h<;>simp only at h<;>first|(cases h;done)|skip
    rename_i f xs ys
    obtain ⟨h1,h2⟩:=aD h
    rw[Nat.beq_eq] at h1
    obtain ⟨k1,k2⟩:=hs.args hg h1
    have hv:=hs t
    rw[b7] at hv
    generalize sI:a.tmps.getD t undef=vt at hv
    cases hv with
    | @fn _ fs cs _ _ q1 q2 q3 q4=>
     have l1:fs.toList.length=xs.length:=by simpa using q1
     have l3:cs.toList.length=ys.length:=by simpa using q3
     have r1: ∀(j:Nat) v x,fs.toList[j]? =some v→xs[j]? =some x→ah P w I β hp v x:=fun j v x hj hx=>q2 j v x (by simpa using hj) hx
     have r3: ∀(j:Nat) v x,cs.toList[j]? =some v→ys[j]? =some x→ah P w I β hp v x:=fun j v x hj hx=>q4 j v x (by simpa using hj) hx
     refine N0 hC hP S hg (vals:=fs.toList++(args.map a.eval).toList++cs.toList) (args:=xs++((args.toList.zip argTypes.toList).map fun p=>aI P A.aB p.2 sl p.1)++ys) (by simp only[List.length_append];omega) ?_ h2 ?_
     ·exact N4 (by simp only[List.length_append];omega) (N4 l1 r1 k2) r3
     ·have e1:(fs.toList++(args.map a.eval).toList++cs.toList).toArray=fs++args.map a.eval++cs:=by
       apply Array.toList_inj.1;simp
      rw[e1]
      have eH:a.eval (.tmp t)= .func (.func f) fs cs:=sI
      simp[execOp,resolve,eH,Deferred.ofValue,invoke]
   | _=>cases hc
end
end Go.AM
namespace Go.AM
section
variable {P:Program} {A:ch} {w w':World} {I I' I2:Nat→Prop} {μ β aj:Nat→Option Nat} {hp hp':Nat→Option ag} {C:ae} {B:Nat} {M:Nat→Prop} {w0:Start}
structure g9 (P:Program) (E:FuncId→Bool) (G:Nat→V) (w:World) (I:Nat→Prop) (β:Nat→Option Nat) (n:Nat) (a:Act) (st:St):Prop where
 sl:jM P w I β st.hp a st.sl
 size:a.tmps.size=n
 defers: ∀d∈a.defers,yj E d
 aB:gk P G w I
theorem HH {E:FuncId→Bool} {G:Nat→V} {n:Nat} {a:Act} {st:St} {o:Oper} {v:Value} {x:V} {hp':Nat→Option ag} {ds:List Deferred} (h:g9 P E G w I β n a st) (hle:Le P w I β st.hp w' I' aj hp') (hd:qK o n=true)
  (hv:ah P w' I' aj hp' v x) (ka: ∀d∈ds,d∈a.defers∨yj E d):g9 P E G w' I' aj n ({a with defers:=ds}.put o.dst v) ⟨gy st.sl o.dst x,hp',st.nb⟩:=by
 have N6: ∀d∈ds,yj E d:=fun d hd=>(ka d hd).elim (h.defers d) id
 cases Yl:o.dst with
 | none=>exact ⟨fun k=>(h.sl k).mono hle,h.size,N6,h.aB.mono hle.cM hle.bU⟩
 | some d=>
  have aK:d<a.tmps.size:=by
   unfold qK at hd
   rw[Yl] at hd
   rw[h.size]
   simpa using hd
  refine ⟨fun k=> ?_,by simp[Act.put,h.size],N6,h.aB.mono hle.cM hle.bU⟩
  simp only[Act.put,gy,aF]
  cases hb:Nat.beq k d with
  | true=>
   rw[Nat.beq_eq] at hb
   subst hb
   simpa[aK] using hv
  | false=>
   have bC:d≠k:=fun e=>by rw[e,Nat.beq_refl] at hb;cases hb
   have:=(h.sl k).mono hle
   simpa[Array.getElem?_setIfInBounds_ne bC] using this
theorem N7 {E:FuncId→Bool} {G:Nat→V} {n:Nat} {a:Act} {st:St} {d:Nat} {b:Bool} (h:g9 P E G w I β n a st) (hd:st.sl d= .bool b):a.tmps[d]? =some (.bool b):=by
 have:=h.sl d
 rw[hd] at this
 have:=this.iR
 cases ht:a.tmps[d]? with
 | none=>simp[ht] at this;cases this
 | some v=>simp[ht] at this;rw[this]
theorem Ym {x:V} {b:Bool} (h:kb x=some (some b)):x= .bool b:=by
 cases x with
 | bool c=>simp only[kb] at h;injection h with h;injection h with h;rw[h]
 | aS vs=>cases vs<;>simp[kb] at h
 | _=>simp[kb] at h
theorem Yn {x:V} (h:kb x=some none):x= .aS []:=by
 cases x with
 | aS vs=>cases vs with
  | nil=>rfl
  | cons _ _=>simp[kb] at h
 | bool c=>simp[kb] at h
 | _=>simp[kb] at h
theorem ah.Yo {v:Value} (h:ah P w I β hp v (.aS [])):v= .tuple #[]:=by
 cases h with
 | @aS cs _ hs _=>
  have:cs= #[]:=by
   apply Array.eq_empty_of_size_eq_zero
   simpa using hs
  rw[this]
theorem ah.N8:ah P w I β hp Go.undef (.aS []):= .aS (by rfl) (fun j v x _ hx=>by simp at hx)
theorem N9 (hC:jS P A C) (hP:iC P A) {ops:Array Oper} {n i nb:Nat} {o:Oper} (ho:ops[i]? =some o) {a:Act} {st st':St} {R W:List Nat} (S:aC P w I β st.hp B M w0) (hA:g9 P A.idle A.aB w I β n a st)
  (h:gi P A C n ops i o nb st=some (st',R,W)) {K:Act→World→Prop} {Q:Exit→Act→World→Prop}
  (hK: ∀a' w' I' aj,Le P w I β st.hp w' I' aj st'.hp→aC P w' I' aj st'.hp B M w0→g9 P A.idle A.aB w' I' aj n a' st'→K a' w'):wpOp P ops Q i K a w:=by
 unfold gi at h
 cases hd:qK o n with
 | false=>rw[hd] at h;cases h
 | true=>
  rw[hd] at h
  simp only[cond_true] at h
  have go: ∀{HI:St} {R W:List Nat},(((e9 P A st.sl i (nb+64*i) o).run C st.hp).bind fun r=>some ((⟨gy st.sl o.dst r.1.v,bB st.hp r.1.upd,st.nb⟩:St),r.2,r.1.upd.map (·.1)))=some (HI,R,W)→HI=st'→
    o.wp P a w K Q:=by
   intro HI R W h e
   obtain ⟨⟨r,rd⟩,h1,h2⟩:=bind_some h
   cases h2
   subst e
   exact Yk hC hP S hA.aB hA.sl h1 K Q fun v w' I' aj ds k1 k2 k3 k4=>hK _ w' I' aj k1 k2 (HH hA k1 hd k3 k4)
  unfold wpOp
  rw[ho]
  simp only
  cases hg:o.guard with
  | none=>
   rw[hg] at h
   simp only[Region.wanted,hg,if_true]
   exact .inl (go h rfl)
  | some gw=>
   obtain ⟨g,want⟩:=gw
   rw[hg] at h
   simp only at h
   cases kz:(ops[g]?).bind (·.dst) with
   | none=>rw[kz] at h;cases h
   | some d=>
    rw[kz] at h
    simp only at h
    cases lq:kb (st.sl d) with
    | none=>rw[lq] at h;cases h
    | some ob=>
    rw[lq] at h
    cases ob with
    | none=>
     have uT:=Yn lq
     have hy:yielded ops a.tmps g=none:=by
      unfold yielded
      rw[kz]
      have:=hA.sl d
      rw[uT] at this
      have hu:=ah.Yo this
      simp only[Option.bind_some]
      cases ht:a.tmps[d]? with
      | none=>rfl
      | some v=>simp[ht] at hu;subst hu;rfl
     simp only[Region.wanted,hg,hy]
     injection h with h
     injection h with h3 h4
     subst h3
     have h2:((none:Option Bool)==some want)=false:=rfl
     simp only[h2,Bool.false_eq_true,if_false]
     exact hK _ w I β (Le.refl w I β st.hp) S (HH (ds:=a.defers) hA (Le.refl w I β st.hp) hd ah.N8 fun d h=> .inl h)
    | some b=>
    simp only at h
    have uT:=Ym lq
    have hy:yielded ops a.tmps g=some b:=by
     unfold yielded
     rw[kz]
     simp only[Option.bind_some,N7 hA uT]
    simp only[Region.wanted,hg,hy]
    by_cases hb:b=want
    ·subst hb
     simp only[beq_self_eq_true,cond_true] at h
     simp only[beq_self_eq_true,if_true]
     exact .inl (go h rfl)
    ·have h1:(b==want)=false:=by simp[hb]
     have h2:(some b==some want)=false:=by simp[hb]
     rw[h1] at h
     simp only[cond_false] at h
     injection h with h
     injection h with h3 h4
     subst h3
     simp only[h2,Bool.false_eq_true,if_false]
     exact hK _ w I β (Le.refl w I β st.hp) S (HH (ds:=a.defers) hA (Le.refl w I β st.hp) hd ah.N8 fun d h=> .inl h)
theorem sR {α:Type}: ∀{p:Rd α} {r:α} {rd:List Nat},p.run C hp=some (r,rd)→(∀id∈rd,hp' id=hp id)→p.run C hp'=some (r,rd)
 | .ret a,r,rd,h,_=>h
 | .fail,r,rd,h,_=>by cases h
 | .get id k,r,rd,h,he=>by
  obtain ⟨x,h1,h2⟩:=bind_some h
  cases h2
  have e1:hp' id=hp id:=he id (by simp)
  have:=sR (p:=k (hp id)) (r:=x.1) (rd:=x.2) h1 (fun i hi=>he i (by simp[hi]))
  simp only[Rd.run,e1,this,Option.bind_some]
 | .opt o k,r,rd,h,he=>by
  obtain ⟨x,h1,h2⟩:=bind_some h
  simp only[Rd.run,h1,Option.bind_some]
  exact sR h2 he
 | .ay b k,r,rd,h,he=>by
  obtain ⟨h1,h2⟩:=aD h
  simp only[Rd.run,h1,cond_true]
  exact sR h2 he
 | .call key ds k,r,rd,h,he=>by
  obtain ⟨x,h1,h2⟩:=bind_some h
  simp only[Rd.run,h1,Option.bind_some]
  exact sR h2 he
 | .alt true x y,r,rd,h,he=>sR (p:=x) h he
 | .alt false x y,r,rd,h,he=>sR (p:=y) h he
theorem Yp {G:Nat→V} {sl sl':Nat→V} {t:TypeId} {x:Operand} (h: ∀k,x= .tmp k→sl k=sl' k):aI P G t sl x=aI P G t sl' x:=by
 cases x with
 | tmp k=>exact h k rfl
 | _=>rfl
theorem Yq {sl sl':Nat→V} {ix nb:Nat} {o:Oper} (h: ∀x∈o.op.operands,∀k,x= .tmp k→sl k=sl' k):e9 P A sl ix nb o=e9 P A sl' ix nb o:=by
 have eH: ∀t x,x∈o.op.operands→aI P A.aB t sl x=aI P A.aB t sl' x:=fun t x hx=>Yp (h x hx)
 obtain ⟨dst,op,ty,pos,after,guard⟩:=o
 have Oa: ∀(t:TypeId) (ps:Array (Nat × Operand)),(∀x∈ps.map (·.2),aI P A.aB t sl x=aI P A.aB t sl' x)→
   (ps.toList.map fun p=>(p.1,aI P A.aB t sl p.2))=ps.toList.map fun p=>(p.1,aI P A.aB t sl' p.2):=fun t ps hp=>
  List.map_congr_left fun p hm=>by rw[hp p.2 (Array.mem_map.2 ⟨p,Array.mem_toList_iff.1 hm,rfl⟩)]
 have Yr: ∀(t:TypeId) (ps:Array (Nat × Operand)),(∀x∈ps.map (·.2),aI P A.aB t sl x=aI P A.aB t sl' x)→
   (ps.toList.map fun p=>(aI P A.aB t sl p.2).cells)=ps.toList.map fun p=>(aI P A.aB t sl' p.2).cells:=fun t ps hp=>
  List.map_congr_left fun p hm=>by rw[hp p.2 (Array.mem_map.2 ⟨p,Array.mem_toList_iff.1 hm,rfl⟩)]
 cases op<;>simp only[Op.operands] at eH<;>simp only[e9]
 case pick c x y=>rw[eH ty c (by simp),eH ty x (by simp),eH ty y (by simp)]
 case build t ps=>rw[Oa ty ps fun x hx=>eH ty x (by simpa using hx),Yr ty ps fun x hx=>eH ty x (by simpa using hx)]
 case buildSlice t len ps=>
  split
  ·rename_i e _
   rw[Oa e ps fun x hx=>eH e x (by simpa using hx)]
  ·rfl
 case slice t x lo hi mx=>
  cases mx with
  | some m=>
   have e1:lo.map (aI P A.aB 0 sl)=lo.map (aI P A.aB 0 sl'):=by
    cases lo with
    | none=>rfl
    | some l=>simp only[Option.map_some,eH 0 l (by simp)]
   have e2:hi.map (aI P A.aB 0 sl)=hi.map (aI P A.aB 0 sl'):=by
    cases hi with
    | none=>rfl
    | some l=>simp only[Option.map_some,eH 0 l (by simp)]
   have e3:=eH 0 m (by simp)
   simp only[eH ty x (by simp),e1,e2,e3]
  | none=>
   have e1:lo.map (aI P A.aB 0 sl)=lo.map (aI P A.aB 0 sl'):=by
    cases lo with
    | none=>rfl
    | some l=>simp only[Option.map_some,eH 0 l (by simp)]
   have e2:hi.map (aI P A.aB 0 sl)=hi.map (aI P A.aB 0 sl'):=by
    cases hi with
    | none=>rfl
    | some l=>simp only[Option.map_some,eH 0 l (by simp)]
   simp only[eH ty x (by simp),e1,e2]
 case call c=>
  obtain ⟨callee,args,argTypes⟩:=c
  have sU: ∀t x,x∈args→aI P A.aB t sl x=aI P A.aB t sl' x:=fun t x hx=>eH t x (by simp[Call.operands,hx])
  have hl: ∀t (l:List Operand),(∀x∈l,x∈args)→l.map (aI P A.aB t sl)=l.map (aI P A.aB t sl'):=fun t l hl=>List.map_congr_left fun x hx=>sU t x (hl x hx)
  have hz:((args.toList.zip argTypes.toList).map fun p=>aI P A.aB p.2 sl p.1)=(args.toList.zip argTypes.toList).map fun p=>aI P A.aB p.2 sl' p.1:=
   List.map_congr_left fun p hp=>sU p.2 p.1 (Array.mem_toList_iff.1 (List.of_mem_zip hp).1)
  cases callee with
  | invoke r m=>rfl
  | builtin b=>
   have bX: ∀x∈args.toList,∀t,aI P A.aB t sl x=aI P A.aB t sl' x:=fun x hx t=>sU t x (Array.mem_toList_iff.1 hx)
   have CQ: ∀t (l:List Operand),(∀x∈l,∀t,aI P A.aB t sl x=aI P A.aB t sl' x)→l.map (aI P A.aB t sl)=l.map (aI P A.aB t sl'):=fun t l h=>List.map_congr_left fun x hx=>h x hx t
   cases b<;>first|rfl|skip
   case append=>
    dsimp only
    generalize args.toList=al at bX
    match al,bX,argTypes.toList with
    | [s,x],bX,[t,u]=>simp only[bX s (by simp),bX x (by simp)]
    | [],_,_=>rfl
    | [_],_,_=>rfl
    | _::_::_::_,_,_=>rfl
    | [_,_],_,[]=>rfl
    | [_,_],_,[_]=>rfl
    | [_,_],_,_::_::_::_=>rfl
   case copy=>
    dsimp only
    generalize args.toList=al at bX
    match al,bX,argTypes.toList with
    | [s,x],bX,[t,u]=>simp only[bX s (by simp),bX x (by simp)]
    | [],_,_=>rfl
    | [_],_,_=>rfl
    | _::_::_::_,_,_=>rfl
    | [_,_],_,[]=>rfl
    | [_,_],_,[_]=>rfl
    | [_,_],_,_::_::_::_=>rfl
   case len=>
    dsimp only
    generalize args.toList=al at bX
    match al,bX,argTypes.toList with
    | [x],bX,[t]=>simp only[bX x (by simp)]
    | [],_,_=>rfl
    | _::_::_,_,_=>rfl
    | [_],_,[]=>rfl
    | [_],_,_::_::_=>rfl
   case clear=>
    dsimp only
    generalize args.toList=al at bX
    match al,bX,argTypes.toList with
    | [x],bX,[t]=>simp only[bX x (by simp)]
    | [],_,_=>rfl
    | _::_::_,_,_=>rfl
    | [_],_,[]=>rfl
    | [_],_,_::_::_=>rfl
   case unsafeSliceData=>
    dsimp only
    generalize args.toList=al at bX
    match al,bX with
    | [],_=>rfl
    | [x],bX=>simp only[bX x (by simp)]
    | _::_::_,_=>rfl
   case unsafeString=>
    dsimp only
    generalize args.toList=al at bX
    match al,bX,argTypes.toList with
    | [s,x],bX,[t,u]=>simp only[bX s (by simp),bX x (by simp)]
    | [],_,_=>rfl
    | [_],_,_=>rfl
    | _::_::_::_,_,_=>rfl
    | [_,_],_,[]=>rfl
    | [_,_],_,[_]=>rfl
    | [_,_],_,_::_::_::_=>rfl
   case max=>
    dsimp only
    generalize args.toList=al at bX
    match al,bX with
    | [],_=>rfl
    | x::l,bX=>simp only[bX x (by simp),CQ ty l (fun y hy=>bX y (by simp[hy]))]
   case min=>
    dsimp only
    generalize args.toList=al at bX
    match al,bX with
    | [],_=>rfl
    | x::l,bX=>simp only[bX x (by simp),CQ ty l (fun y hy=>bX y (by simp[hy]))]
  | value f=>
   cases f<;>first|rfl|skip
   ·rename_i t
    have ht:sl t=sl' t:=h (.tmp t) (by simp[Op.operands,Call.operands]) t rfl
    simp only[hz,ht]
   ·simp only[hz]
    cases hx:args.toList with
    | nil=>rfl
    | cons x l=>
     cases l with
     | cons _ _=>rfl
     | nil=>simp only[sU ty x (Array.mem_toList_iff.1 (by rw[hx];simp))]
 case defer c=>
  obtain ⟨callee,args,argTypes⟩:=c
  cases callee with
  | invoke r m=>rfl
  | builtin b=>rfl
  | value f=>
   cases f<;>first|rfl|skip
   rename_i t
   have ht:sl t=sl' t:=h (.tmp t) (by simp[Op.operands,Call.operands]) t rfl
   simp only[ht]
 case makeFunc fn a b=>
  cases fn<;>first|rfl|skip
  have e1:a.toList.map (aI P A.aB ty sl)=a.toList.map (aI P A.aB ty sl'):=List.map_congr_left fun x hx=>eH ty x (by simp[Array.mem_toList_iff.1 hx])
  have e2:b.toList.map (aI P A.aB ty sl)=b.toList.map (aI P A.aB ty sl'):=List.map_congr_left fun x hx=>eH ty x (by simp[Array.mem_toList_iff.1 hx])
  dsimp only
  rw[e1,e2]
 case makeMap t r=>cases r<;>rfl
 all_goals first
  | rfl
  | (simp[eH];done)
end
end Go.AM
namespace Go.AM
section
variable {P:Program} {A:ch} {w w':World} {I I' I2:Nat→Prop} {μ β aj:Nat→Option Nat} {hp hp':Nat→Option ag} {C:ae} {B:Nat} {M:Nat→Prop} {w0:Start}
theorem Ob {n i nb:Nat} {ops:Array Oper} {o:Oper} {st st':St} {R W:List Nat} (h:gi P A C n ops i o nb st=some (st',R,W)):
  ∃x upd,st'=⟨gy st.sl o.dst x,bB st.hp upd,st.nb⟩∧W=upd.map (·.1)∧∀ez:St,(∀d∈o.looksAt ops,ez.sl d=st.sl d)→(∀id∈R,ez.hp id=st.hp id)→
   gi P A C n ops i o nb ez=some (⟨gy ez.sl o.dst x,bB ez.hp upd,ez.nb⟩,R,W):=by
 unfold gi at h
 cases hd:qK o n with
 | false=>rw[hd] at h;cases h
 | true=>
  rw[hd] at h
  simp only[cond_true] at h
  have go:(((e9 P A st.sl i (nb+64*i) o).run C st.hp).bind fun r=>some ((⟨gy st.sl o.dst r.1.v,bB st.hp r.1.upd,st.nb⟩:St),r.2,r.1.upd.map (·.1)))=some (st',R,W)→
    ∃x upd,st'=⟨gy st.sl o.dst x,bB st.hp upd,st.nb⟩∧W=upd.map (·.1)∧∀ez:St,(∀d∈o.looksAt ops,ez.sl d=st.sl d)→(∀id∈R,ez.hp id=st.hp id)→
     (((e9 P A ez.sl i (nb+64*i) o).run C ez.hp).bind fun r=>some ((⟨gy ez.sl o.dst r.1.v,bB ez.hp r.1.upd,ez.nb⟩:St),r.2,r.1.upd.map (·.1)))=some (⟨gy ez.sl o.dst x,bB ez.hp upd,ez.nb⟩,R,W):=by
   intro h
   obtain ⟨⟨r,rd⟩,h1,h2⟩:=bind_some h
   cases h2
   refine ⟨r.v,r.upd,rfl,rfl,fun ez hs hh=> ?_⟩
   rw[Yq (sl':=st.sl) fun x hx k hk=> ?_,sR h1 hh]
   ·rfl
   ·subst hk
    exact hs k (List.mem_append_left _ (List.mem_filterMap.2 ⟨.tmp k,by simpa using hx,rfl⟩))
  cases hg:o.guard with
  | none=>
   rw[hg] at h
   obtain ⟨x,upd,e1,e2,e3⟩:=go h
   refine ⟨x,upd,e1,e2,fun ez hs hh=> ?_⟩
   unfold gi
   simp only[hd,cond_true,hg]
   exact e3 ez hs hh
  | some gw=>
   obtain ⟨g,want⟩:=gw
   rw[hg] at h
   simp only at h
   cases kz:(ops[g]?).bind (·.dst) with
   | none=>rw[kz] at h;cases h
   | some d=>
    rw[kz] at h
    simp only at h
    have HJ:d∈o.looksAt ops:=List.mem_append_right _ (by rw[hg];simp[kz])
    cases lq:kb (st.sl d) with
    | none=>rw[lq] at h;cases h
    | some ob=>
    rw[lq] at h
    cases ob with
    | none=>
     injection h with h
     injection h with h3 h4
     injection h4 with h5 h6
     subst h5;subst h6
     refine ⟨.aS [],[],h3.symm,rfl,fun ez hs hh=> ?_⟩
     unfold gi
     simp only[hd,cond_true,hg,kz,hs d HJ,lq]
     rfl
    | some b=>
    simp only at h
    cases hb:b==want with
    | true=>
     rw[hb] at h
     obtain ⟨x,upd,e1,e2,e3⟩:=go h
     refine ⟨x,upd,e1,e2,fun ez hs hh=> ?_⟩
     unfold gi
     simp only[hd,cond_true,hg,kz,hs d HJ,lq,hb]
     exact e3 ez hs hh
    | false=>
     rw[hb] at h
     simp only[cond_false] at h
     injection h with h
     injection h with h3 h4
     injection h4 with h5 h6
     subst h5;subst h6
     refine ⟨.aS [],[],h3.symm,rfl,fun ez hs hh=> ?_⟩
     unfold gi
     simp only[hd,cond_true,hg,kz,hs d HJ,lq,hb,cond_false]
     rfl
theorem Oc {sl:Nat→V} {d:Option Nat} {x:V} {k:Nat} (h:d≠some k):gy sl d x k=sl k:=by
 cases d with
 | none=>rfl
 | some d=>exact dN _ _ fun e=>h (by rw[e])
theorem Ys {hp:Nat→Option ag} {a b:List (Nat × ag)} (h: ∀q∈a,∀q'∈b,q.1≠q'.1):bB (bB hp a) b=bB (bB hp b) a:=by
 funext id
 by_cases ha: ∃q∈a,q.1=id
 ·have hb: ∀q∈b,q.1≠id:=by
   obtain ⟨q,hq,rfl⟩:=ha
   exact fun q' bM e=>h q hq q' bM e.symm
  rw[sQ hb]
  obtain ⟨q,hq,rfl⟩:=ha
  have same: ∀(aY gl:Nat→Option ag) (l:List (Nat × ag)) (q:Nat × ag),q∈l→bB aY l q.1=bB gl l q.1:=by
   intro aY gl l
   induction l with
   | nil=>intro q hq;simp at hq
   | cons p l ih=>
    intro q hq
    simp only[bB,aF]
    cases hb:Nat.beq q.1 p.1 with
    | true=>rfl
    | false=>
     simp only[cond_false]
     refine ih q ((List.mem_cons.1 hq).resolve_left fun e=> ?_)
     rw[e,Nat.beq_refl] at hb;cases hb
  exact same _ _ a q hq
 ·rw[sQ (hp:=bB hp b) (l:=a) fun q hq e=>ha ⟨q,hq,e⟩]
  have same: ∀(aY gl:Nat→Option ag) (l:List (Nat × ag)),aY id=gl id→bB aY l id=bB gl l id:=by
   intro aY gl l he
   induction l with
   | nil=>exact he
   | cons p l ih=>
    simp only[bB,aF]
    cases hb:Nat.beq id p.1 with
    | true=>rfl
    | false=>exact ih
  exact same _ _ b (sQ fun q hq e=>ha ⟨q,hq,e⟩)
structure Od (ops:Array Oper) (o1 o2:Oper) (R1 W1 R2 W2:List Nat):Prop where
 apart:Oper.apart ops o1 o2=true
 w: ∀id∈W1,id∉R2∧id∉W2
 r: ∀id∈R1,id∉W2
theorem Yt {n i j nb:Nat} {ops:Array Oper} {o1 o2:Oper} {st hG ez:St} {R1 W1 R2 W2:List Nat} (h1:gi P A C n ops i o1 nb st=some (hG,R1,W1)) (h2:gi P A C n ops j o2 nb hG=some (ez,R2,W2))
  (hi:Od ops o1 o2 R1 W1 R2 W2): ∃CR,gi P A C n ops j o2 nb st=some (CR,R2,W2)∧gi P A C n ops i o1 nb CR=some (ez,R1,W1):=by
 obtain ⟨x1,u1,e1,f1,g1⟩:=Ob h1
 obtain ⟨x2,u2,e2,f2,g2⟩:=Ob h2
 obtain ⟨a1,a2,a3⟩:=Oper.apart_spec hi.apart
 subst e1
 refine ⟨_,g2 st (fun d hd=> ?_) (fun id hd=> ?_),?_⟩
 ·simp only
  rw[Oc fun e=>a1 d e hd]
 ·simp only
  rw[sQ fun q hq e=>(hi.w id (by rw[f1];exact List.mem_map.2 ⟨q,hq,e⟩)).1 hd]
 ·rw[g1 _ (fun d hd=> ?_) (fun id hd=> ?_),e2]
  ·congr 3
   ·funext k
    cases Yu:o1.dst with
    | none=>rfl
    | some d1=>
     cases ma:o2.dst with
     | none=>rfl
     | some d2=>
      have bC:d2≠d1:=fun e=>a2 d1 Yu (by rw[ma,e])
      simp only[gy,aF]
      cases Oe:Nat.beq k d1<;>cases rf:Nat.beq k d2<;>simp only[cond_true,cond_false]
      rw[Nat.beq_eq] at Oe rf
      exact absurd (rf.symm.trans Oe) bC
   ·exact (Ys fun q hq q' bM e=>(hi.w q.1 (by rw[f1];exact List.mem_map.2 ⟨q,hq,rfl⟩)).2 (by rw[f2];exact List.mem_map.2 ⟨q',bM,e.symm⟩)).symm
  ·simp only
   rw[Oc fun e=>a3 d e hd]
  ·simp only
   rw[sQ fun q hq e=>hi.r id hd (by rw[f2];exact List.mem_map.2 ⟨q,hq,e⟩)]
def vg (P:Program) (A:ch) (C:ae) (n:Nat) (ops:Array Oper) (nb:Nat):List (Nat × Oper × List Nat × List Nat)→St→St→Prop
 | [],st,st'=>st=st'
 | (i,o,R,W)::l,st,st'=> ∃hG,gi P A C n ops i o nb st=some (hG,R,W)∧vg P A C n ops nb l hG st'
def sV (x:Nat × Oper × List Nat × List Nat):Nat × List Nat × List Nat:=(x.1,x.2.2.1,x.2.2.2)
theorem Of {n nb:Nat} {ops:Array Oper}: ∀{l:List (Nat × Oper)} {st st':St} {log CS:Log},nX P A C n ops nb l st log=some (st',CS)→
  ∃g,g.map (fun x=>(x.1,x.2.1))=l∧CS=log++g.map sV∧vg P A C n ops nb g st st'
 | [],st,st',log,CS,h=>by
  cases h
  exact ⟨[],rfl,by simp,rfl⟩
 | (i,o)::l,st,st',log,CS,h=>by
  obtain ⟨⟨hG,R,W⟩,h1,h2⟩:=bind_some h
  obtain ⟨g,a,b,c⟩:=Of h2
  exact ⟨(i,o,R,W)::g,by simp[a],by simp[b,sV],hG,h1,c⟩
def Og (ops:Array Oper) (x y:Nat × Oper × List Nat × List Nat):Prop:=Od ops x.2.1 y.2.1 x.2.2.1 x.2.2.2 y.2.2.1 y.2.2.2
theorem Oh {n nb:Nat} {ops:Array Oper} {y:Nat × Oper × List Nat × List Nat} {g2:List (Nat × Oper × List Nat × List Nat)}: ∀{g1:List (Nat × Oper × List Nat × List Nat)} {st st':St},
  vg P A C n ops nb (g1++y::g2) st st'→(∀x∈g1,Og ops x y)→∃hG,gi P A C n ops y.1 y.2.1 nb st=some (hG,y.2.2.1,y.2.2.2)∧vg P A C n ops nb (g1++g2) hG st'
 | [],st,st',h,_=>h
 | x::g1,st,st',h,hi=>by
  obtain ⟨hG,h1,h2⟩:=h
  obtain ⟨ez,h3,h4⟩:=Oh h2 fun z hz=>hi z (List.mem_cons_of_mem _ hz)
  obtain ⟨CR,h5,h6⟩:=Yt h1 h3 (hi x (by simp))
  exact ⟨CR,h5,ez,h6,h4⟩
theorem Oi (hC:jS P A C) (hP:iC P A) {n nb:Nat} {ops:Array Oper} {Q:Exit→Act→World→Prop}: ∀{g:List (Nat × Oper × List Nat × List Nat)} {st st':St} {a:Act} {w:World} {I:Nat→Prop} {β:Nat→Option Nat},
  vg P A C n ops nb g st st'→(∀x∈g,ops[x.1]? =some x.2.1)→aC P w I β st.hp B M w0→g9 P A.idle A.aB w I β n a st→
  (∀a' w' I' aj,Le P w I β st.hp w' I' aj st'.hp→aC P w' I' aj st'.hp B M w0→g9 P A.idle A.aB w' I' aj n a' st'→Q .normal a' w')→wpOps P ops Q (g.map (·.1)) a w
 | [],st,st',a,w,I,β,h,_,S,hA,hQ=>by
  cases h
  exact hQ a w I β (Le.refl w I β _) S hA
 | x::g,st,st',a,w,I,β,h,ho,S,hA,hQ=>by
  obtain ⟨hG,h1,h2⟩:=h
  rw[List.map_cons,wpOps_cons]
  refine N9 hC hP (ho x (by simp)) S hA h1 fun a' w' I' aj k1 k2 k3=> ?_
  exact Oi hC hP h2 (fun y hy=>ho y (List.mem_cons_of_mem _ hy)) k2 k3 fun a2 w2 I2 bL m1 m2 m3=>hQ a2 w2 I2 bL (k1.trans m1) m2 m3
end
end Go.AM
namespace Go.AM
section
variable {P:Program} {A:ch} {w w':World} {I I' I2:Nat→Prop} {μ β aj:Nat→Option Nat} {hp hp':Nat→Option ag} {C:ae} {B:Nat} {M:Nat→Prop} {w0:Start}
inductive sW (ops:Array Oper):Nat→Nat→Prop
 | Oj {i x:Nat} {o:Oper} {e:Edge}:ops[i]? =some o→e∈o.after→Region.binds .any e=true→e.on=x→sW ops i x
 | trans {i x:Nat} {o:Oper} {e:Edge}:ops[i]? =some o→e∈o.after→Region.binds .any e=true→sW ops e.on x→sW ops i x
theorem Ol {acc:Array Nat} {x:Nat}: ∀{l:List Edge} {s:Nat},(l.foldl (fun s e=>if Region.binds .any e then s|||2^e.on|||acc.getD e.on 0 else s) s).testBit x=true→
  s.testBit x=true∨∃e∈l,Region.binds .any e=true∧(e.on=x∨(acc.getD e.on 0).testBit x=true)
 | [],s,h=> .inl h
 | e::l,s,h=>by
  simp only[List.foldl_cons] at h
  rcases Ol h with h1|⟨e',a,b⟩
  ·by_cases hb:Region.binds .any e=true
   ·rw[if_pos hb,Nat.testBit_or,Nat.testBit_or,Bool.or_eq_true,Bool.or_eq_true] at h1
    rcases h1 with (h1|h1)|h1
    ·exact .inl h1
    ·rw[Nat.testBit_two_pow] at h1
     exact .inr ⟨e,by simp,hb,.inl (by simpa using h1)⟩
    ·exact .inr ⟨e,by simp,hb,.inr h1⟩
   ·rw[if_neg hb] at h1
    exact .inl h1
  ·exact .inr ⟨e',List.mem_cons_of_mem _ a,b⟩
theorem Om {ops:Array Oper} {x:Nat}: ∀{l:List Oper} {acc:Array Nat},(∀j o,l[j]? =some o→ops[acc.size+j]? =some o)→(∀j,(acc.getD j 0).testBit x=true→sW ops j x)→
  ∀j,((l.foldl (fun acc o=>acc.push (o.after.foldl (fun s e=>if Region.binds .any e then s|||2^e.on|||acc.getD e.on 0 else s) 0)) acc).getD j 0).testBit x=true→sW ops j x
 | [],acc,_,CT,j,h=>CT j h
 | o::l,acc,hl,CT,j,h=>by
  simp only[List.foldl_cons] at h
  refine Om (l:=l) ?_ ?_ j h
  ·intro j o' hj
   have:=hl (j+1) o' (by simpa using hj)
   rw[Array.size_push]
   rwa [show acc.size+1+j=acc.size+(j+1) by omega]
  ·intro k hk
   simp only[Array.getD_eq_getD_getElem?,Array.getElem?_push] at hk
   by_cases sX:k=acc.size
   ·rw[if_pos sX] at hk
    simp only[Option.getD_some] at hk
    rw[←Array.foldl_toList] at hk
    have ho:=hl 0 o rfl
    rw[Nat.add_zero] at ho
    rw[sX]
    have rf:(o.after.toList.foldl (fun s e=>if Region.binds .any e then s|||2^e.on|||acc.getD e.on 0 else s) 0).testBit x=true:=by simpa[Array.getD_eq_getD_getElem?] using hk
    rcases Ol rf with h0|⟨e,he,hb,h1⟩
    ·simp at h0
    ·rcases h1 with h1|h1
     ·exact .Oj ho (Array.mem_toList_iff.1 he) hb h1
     ·exact .trans ho (Array.mem_toList_iff.1 he) hb (CT _ h1)
   ·rw[if_neg sX] at hk
    exact CT k (by simpa[Array.getD_eq_getD_getElem?] using hk)
theorem Yv {ops:Array Oper} {i x:Nat} (h:((Region.before ops).getD i 0).testBit x=true):sW ops i x:=by
 unfold Region.before at h
 rw[←Array.foldl_toList] at h
 refine Om (l:=ops.toList) (acc:= #[]) (fun j o hj=>by simpa using hj) (fun j hj=>by simp at hj) i h
def On (ops:Array Oper) (listed:Array Bool):Prop:= ∀i o,ops[i]? =some o→listed.getD i false=true→∀e∈o.after,Region.binds .any e=true→listed.getD e.on false=true
theorem Yw {ops:Array Oper} {listed:Array Bool} (hc:On ops listed) {i x:Nat} (h:sW ops i x) (hi: ∀o,ops[i]? =some o→∀e∈o.after,Region.binds .any e=true→listed.getD e.on false=true):listed.getD x false=true:=by
 induction h with
 | Oj ho he hb hx=>rw[←hx];exact hi _ ho _ he hb
 | trans ho he hb _ ih=>exact ih fun o' kZ e' sE aw=>hc _ o' kZ (hi _ ho _ he hb) e' sE aw
theorem Oo: ∀{l:List Oper} {k j:Nat} {o:Oper},xm k l=true→l[j]? =some o→∀e∈o.after,Region.binds .any e=true→e.on<k+j
 | [],k,j,o,_,h=>by simp at h
 | o'::l,k,j,o,hk,h=>by
  simp only[xm,Bool.and_eq_true] at hk
  cases j with
  | zero=>
   simp at h
   subst h
   intro e he hb
   have:=List.all_eq_true.1 hk.1 e (Array.mem_toList_iff.2 he)
   simp[hb] at this
   omega
  | succ j=>
   intro e he hb
   have:=Oo hk.2 (j:=j) (by simpa using h) e he hb
   omega
theorem Oq {ops:Array Oper} {rX:Array Nat}: ∀{l:Log},BJ ops rX l=true→l.Pairwise fun x y=>xl ops rX x y=true
 | [],_=> .nil
 | x::l,h=>by
  simp only[BJ,Bool.and_eq_true] at h
  exact .cons (fun y hy=>List.all_eq_true.1 h.1 y hy) (Oq h.2)
theorem Ot {listed:Array Bool} {i:Nat} (h:listed.getD i true=false):i<listed.size∧listed.getD i false=false:=by
 rcases Nat.lt_or_ge i listed.size with h'|h'
 ·refine ⟨h',?_⟩
  simpa[h'] using h
 ·simp[Array.getElem?_eq_none h'] at h
theorem Ou (hC:jS P A C) (hP:iC P A) {n nb:Nat} {ops:Array Oper} {Q:Exit→Act→World→Prop} (CU:xm 0 ops.toList=true):
  ∀(fuel:Nat) {g:List (Nat × Oper × List Nat × List Nat)} {listed:Array Bool} {st st':St} {a:Act} {w:World} {I:Nat→Prop} {β:Nat→Option Nat},
  g.length=fuel→vg P A C n ops nb g st st'→(∀x∈g,ops[x.1]? =some x.2.1)→(g.map (·.1)).Pairwise (· < ·)→(g.map sV).Pairwise (fun x y=>xl ops (Region.before ops) x y=true)→
  listed.size=ops.size→(∀i,i<ops.size→(listed.getD i false=false↔i∈g.map (·.1)))→On ops listed→
  aC P w I β st.hp B M w0→g9 P A.idle A.aB w I β n a st→
  (∀a' w' I' aj,Le P w I β st.hp w' I' aj st'.hp→aC P w' I' aj st'.hp B M w0→g9 P A.idle A.aB w' I' aj n a' st'→Q .normal a' w')→wpAny P .any ops Q fuel listed a w
 | 0,g,listed,st,st',a,w,I,β,hf,hr,ho,aK,CV,aM,sY,ku,S,hA,hQ=>by
  obtain rfl:g=[]:=List.eq_nil_of_length_eq_zero hf
  cases hr
  refine ⟨?_,hQ a w I β (Le.refl w I β _) S hA⟩
  rw[List.eq_nil_iff_forall_not_mem]
  intro i hi
  obtain ⟨h0,_⟩:=mem_ready.1 hi
  obtain ⟨h1,h2⟩:=Ot h0
  have:=(sY i (by omega)).1 h2
  simp at this
 | fuel+1,g,listed,st,st',a,w,I,β,hf,hr,ho,aK,CV,aM,sY,ku,S,hA,hQ=>by
  refine ⟨fun yo=> ?_,fun i hi=> ?_⟩
  ·exfalso
   cases g with
   | nil=>simp at hf
   | cons x g=>
    have hx:=ho x (by simp)
    have fV:x.1<ops.size:=(Array.getElem?_eq_some_iff.1 hx).1
    have eM:x.1∈Region.ready .any ops listed:=by
     rw[mem_ready]
     have h0:=(sY x.1 fV).2 (by simp)
     refine ⟨?_,x.2.1,hx,fun e he hb=> ?_⟩
     ·have hl:x.1<listed.size:=by omega
      simpa[hl] using h0
     ·have G6:=Oo CU (j:=x.1) (by simpa using hx) e he hb
      rw[Nat.zero_add] at G6
      cases hle:listed.getD e.on false with
      | true=>rfl
      | false=>
       have hm:=(sY e.on (by omega)).1 hle
       simp only[List.map_cons,List.mem_cons] at hm
       rw[List.map_cons,List.pairwise_cons] at aK
       rcases hm with hm|hm
       ·omega
       ·have:=aK.1 _ hm;omega
    rw[yo] at eM
    cases eM
  ·obtain ⟨h0,oi,yq,Ov⟩:=mem_ready.1 hi
   obtain ⟨h1,h2⟩:=Ot h0
   have Yx:=(sY i (by omega)).1 h2
   obtain ⟨y,hy,Yy⟩:=List.mem_map.1 Yx
   obtain ⟨g1,g2,rfl⟩:=List.append_of_mem hy
   subst Yy
   have Ow:=ho y hy
   rw[yq] at Ow
   have Ox:oi=y.2.1:=Option.some.inj Ow
   have jy:((g1++y::g2).map (·.1)).Nodup:=aK.imp fun h=>Nat.ne_of_lt h
   have Yz: ∀x∈g1,Og ops x y:=by
    intro x hx
    have hp:xl ops (Region.before ops) (sV x) (sV y)=true:=by
     rw[List.map_append,List.map_cons,List.pairwise_append] at CV
     exact CV.2.2 _ (List.mem_map.2 ⟨x,hx,rfl⟩) _ (by simp)
    have Oy:=ho x (List.mem_append.2 (.inl hx))
    unfold xl at hp
    rw[Bool.or_eq_true] at hp
    rcases hp with hp|hp
    ·have hl:=Yw ku (Yv hp) fun o kZ e he hb=>by
      have:o=oi:=by
       have h3:ops[y.1]? =some o:=kZ
       rw[yq] at h3
       exact (Option.some.inj h3).symm
      subst this
      exact Ov e he hb
     have fV:x.1<ops.size:=(Array.getElem?_eq_some_iff.1 Oy).1
     have:=(sY x.1 fV).2 (List.mem_map.2 ⟨x,List.mem_append.2 (.inl hx),rfl⟩)
     rw[show (sV x).1=x.1 from rfl,this] at hl
     cases hl
    ·simp only[sV,Array.getD_eq_getD_getElem?,Oy,yq,Option.getD_some,Bool.and_eq_true,Bool.not_eq_true'] at hp
     obtain ⟨q1,q2,q3⟩:=hp
     refine ⟨Ox▸q1,fun id aa=> ?_,fun id aa=>CI q3 aa⟩
     have:=CI q2 aa
     rw[List.mem_append] at this
     exact ⟨fun h=>this (.inl h),fun h=>this (.inr h)⟩
   obtain ⟨hG,iQ,ln⟩:=Oh hr Yz
   rw[←Ox] at iQ
   refine N9 hC hP yq S hA iQ fun a' w' I' aj k1 k2 k3=> ?_
   have gH:List.Sublist (g1++g2) (g1++y::g2):=List.Sublist.append_left (List.sublist_cons_self y g2) g1
   have sa: ∀j,j≠y.1→(listed.setIfInBounds y.1 true).getD j false=listed.getD j false:=fun j hj=>getD_set_ne false (Ne.symm hj)
   refine Ou hC hP CU fuel (g:=g1++g2) (st':=st') ?_ ln (fun x hx=>ho x (gH.subset hx)) (aK.sublist (gH.map _)) (CV.sublist (gH.map _)) (by simp[aM]) (fun j hj=> ?_) (fun j o HK cB e he hb=> ?_) k2 k3 fun a2 w2 I2 bL m1 m2 m3=>hQ a2 w2 I2 bL (k1.trans m1) m2 m3
   ·simp at hf⊢;omega
   ·by_cases oc:j=y.1
    ·subst oc
     have hl:y.1<listed.size:=by omega
     simp only[Array.getD_eq_getD_getElem?,Array.getElem?_setIfInBounds_self_of_lt hl,Option.getD_some]
     refine ⟨fun h=>(by cases h),fun h=> ?_⟩
     exfalso
     rw[List.map_append,List.map_cons,List.nodup_append,List.nodup_cons] at jy
     rw[List.map_append,List.mem_append] at h
     rcases h with h|h
     ·exact jy.2.2 _ h _ (by simp) rfl
     ·exact jy.2.1.1 h
    ·rw[sa j oc,sY j hj]
     simp only[List.map_append,List.map_cons,List.mem_append,List.mem_cons]
     constructor
     ·rintro (h|h|h)
      ·exact .inl h
      ·exact absurd h oc
      ·exact .inr h
     ·rintro (h|h)
      ·exact .inl h
      ·exact .inr (.inr h)
   ·by_cases oc:j=y.1
    ·subst oc
     rw[yq] at HK
     cases HK
     exact getD_set_true (Ov e he hb)
    ·rw[sa j oc] at cB
     exact getD_set_true (ku j o HK cB e he hb)
end
end Go.AM
namespace Go.AM
section
variable {P:Program} {A:ch} {w w':World} {I I' I2:Nat→Prop} {μ β aj:Nat→Option Nat} {hp hp':Nat→Option ag} {C:ae} {B:Nat} {M:Nat→Prop} {w0:Start}
theorem Oz: ∀{l:List Oper} {k j:Nat},(mY k l)[j]? =(l[j]?).map fun o=>(k+j,o)
 | [],k,j=>by simp[mY]
 | o::l,k,0=>by simp[mY]
 | o::l,k,j+1=>by
  simp only[mY,List.getElem?_cons_succ,Oz]
  congr 1
  funext o
  rw[show k+1+j=k+(j+1) by omega]
theorem OA: ∀{l:List Oper} {k:Nat},(mY k l).map (·.1)=List.range' k l.length
 | [],k=>rfl
 | o::l,k=>by simp[mY,OA,List.range'_succ]
theorem YA (hC:jS P A C) (hP:iC P A) (hm:P.follows .mixedOrders=true) {n id:Nat} {ops:Array Oper} {draw:Bool} {st st':St} {a:Act} {Q:Exit→Act→World→Prop}
  (h:uC P A C n ops draw st=some st') (S:aC P w I β st.hp B M w0) (hA:g9 P A.idle A.aB w I β n a st)
  (hQ: ∀a' w' I' aj,Le P w I β st.hp w' I' aj st'.hp→aC P w' I' aj st'.hp B M w0→g9 P A.idle A.aB w' I' aj n a' st'→Q .normal a' w'):(Code.region id ops draw).wp P Q a w:=by
 obtain ⟨⟨hG,log⟩,h1,h2⟩:=bind_some h
 obtain ⟨g,g1,g2,g3⟩:=Of h1
 have CW:g.map (·.1)=List.range ops.size:=by
  have:g.map (·.1)=(g.map fun x=>(x.1,x.2.1)).map (·.1):=by simp
  rw[this,g1,OA,List.range_eq_range']
  simp
 have OB: ∀x∈g,ops[x.1]? =some x.2.1:=by
  intro x hx
  have:(x.1,x.2.1)∈mY 0 ops.toList:=by rw[←g1];exact List.mem_map.2 ⟨x,hx,rfl⟩
  obtain ⟨j,hj⟩:=List.mem_iff_getElem?.1 this
  rw[Oz] at hj
  cases ho:ops.toList[j]? with
  | none=>rw[ho] at hj;cases hj
  | some o=>
   rw[ho] at hj
   simp only[Option.map_some,Nat.zero_add,Option.some.injEq,Prod.mk.injEq] at hj
   rw[←hj.1,←hj.2]
   simpa using ho
 cases draw with
 | false=>
  simp only[Bool.not_false,Bool.true_or,cond_true] at h2
  cases h2
  refine wp_region ?_
  rw[←CW]
  exact Oi hC hP g3 OB S hA hQ
 | true=>
  simp only[Bool.not_true,Bool.false_or] at h2
  cases hc:(Region.noSelect ops&&xn ops log) with
  | false=>rw[hc] at h2;cases h2
  | true=>
   rw[hc] at h2
   cases h2
   simp only[Bool.and_eq_true,xn] at hc
   obtain ⟨hns,CU,YB⟩:=hc
   simp only[List.nil_append] at g2
   refine wp_region_any hm ?_
   have hlen:g.length=ops.size:=by
    have:=congrArg List.length CW
    simpa using this
   refine Ou hC hP CU ops.size (g:=g) (st':=st') hlen g3 OB (by rw[CW];exact List.pairwise_lt_range) (by rw[←g2];exact Oq YB) (by simp) (fun i hi=> ?_) (fun i o ho hl=> ?_)
    (w:=w.drew) S.drew ⟨fun k=>(hA.sl k).mono (Le.drew w I β _),hA.size,hA.defers,hA.aB.mono (Le.drew (P:=P) w I β st.hp).cM (Le.drew (P:=P) w I β st.hp).bU⟩ fun a' w' I' aj k1 k2 k3=>hQ a' w' I' aj ((Le.drew w I β _).trans k1) k2 k3
   ·rw[CW]
    simp[hi]
   ·have hi:=(Array.getElem?_eq_some_iff.1 ho).1
    simp[hi] at hl
end
end Go.AM
namespace Go.AM
section
variable {P:Program} {A:ch} {E:FuncId→Bool} {G:Nat→V} {w w':World} {I I' I2:Nat→Prop} {μ β aj:Nat→Option Nat} {hp hp':Nat→Option ag} {C:ae} {B:Nat} {M:Nat→Prop} {w0:Start}
theorem sZ: ∀{l:List Nat} {hp:Nat→Option ag} {I:Nat→Prop},aC P w I β hp B M w0→∃I',Le P w I β hp w I' β (rW hp l)∧aC P w I' β (rW hp l) B M w0
 | [],hp,I,S=>⟨I,Le.refl w I β hp,S⟩
 | id::l,hp,I,S=>by
  simp only[rW]
  cases aa:hp id with
  | none=>exact sZ S
  | some blk=>
   cases blk with
   | dead=>exact sZ S
   | var _=>exact sZ S
   | map _ _=>exact sZ S
   | arr e es fz=>
    obtain ⟨h1,h2⟩:=xC S (upd:=[(id,.arr e es true)]) (fun p hp=>by
     simp only[List.mem_singleton] at hp
     subst hp
     exact ⟨e,es,rfl,.inl ⟨fz,aa⟩⟩)
    obtain ⟨I',h3,h4⟩:=sZ (l:=l) h2
    exact ⟨I',h1.trans h3,h4⟩
   | nest e es ai=>
    obtain ⟨h1,h2⟩:=xC S (upd:=[(id,.arr e es true)]) (fun p hp=>by
     simp only[List.mem_singleton] at hp
     subst hp
     exact ⟨e,es,rfl,.inr ⟨ai,aa⟩⟩)
    obtain ⟨I',h3,h4⟩:=sZ (l:=l) h2
    exact ⟨I',h1.trans h3,h4⟩
theorem OC {n m:Nat} {pur:List Nat} {a:Act} {st:St} (S:aC P w I β st.hp B M w0) (hA:g9 P E G w I β n a st):
  ∃I',Le P w I β st.hp w I' β (freeze m pur st).hp∧aC P w I' β (freeze m pur st).hp B M w0∧g9 P E G w I' β n a (freeze m pur st):=by
 obtain ⟨I',h1,h2⟩:=sZ (l:=(L3 st pur).filter fun id=>Nat.ble m id) S
 exact ⟨I',h1,h2,fun k=>(hA.sl k).mono h1,hA.size,hA.defers,hA.aB.mono h1.cM h1.bU⟩
structure vh (hp:Nat→Option ag) (β:Nat→Option Nat) (ord:List Nat) (hp':Nat→Option ag) (aj:Nat→Option Nat):Prop where
 arr: ∀(j:Nat) id e es fz,ord[j]? =some id→hp id=some (.arr e es fz)→hp' j=some (.arr e es fz)
 var: ∀(j:Nat) id T cs,ord[j]? =some id→hp id=some (.var T cs)→∃gG,hp' j=some (.var T gG)
 dead: ∀(j:Nat) id,ord[j]? =some id→hp id=some .dead→hp' j=some .dead
 place: ∀(j:Nat) id,ord[j]? =some id→aj j=β id
 nest: ∀(j:Nat) id e es ai,ord[j]? =some id→hp id=some (.nest e es ai)→hp' j=some (.nest e es (ai.map fun _=>0))
 map: ∀(j:Nat) id t es,ord[j]? =some id→hp id=some (.map t es)→hp' j=some (.map t es)
theorem kA: ∀{l:List Nat} {n i j:Nat},gz l n i=some j→∃k,j=i+k∧l[k]? =some n
 | [],n,i,j,h=>by cases h
 | a::l,n,i,j,h=>by
  simp only[gz] at h
  cases hb:Nat.beq n a with
  | true=>
   rw[hb] at h
   cases h
   rw[Nat.beq_eq] at hb
   exact ⟨0,rfl,by rw[hb];rfl⟩
  | false=>
   rw[hb] at h
   obtain ⟨k,h1,h2⟩:=kA h
   exact ⟨k+1,by omega,by simpa using h2⟩
def jT (hp':Nat→Option ag) (aj:Nat→Option Nat) (n:Nat) (bs:List ag):Prop:=
 ∀(k:Nat) b,bs[k]? =some b→hp' (n+k)=some b∧aj (n+k)=none
theorem HL: ∀(ai:List Nat) (k:Nat),bq (ai.map fun _=>0) k=0
 | [],_=>rfl
 | _::_,0=>rfl
 | _::vs,k+1=>HL vs k
theorem OD {e:TypeId} {es:List V} {ai:List Nat} {path:Path} {ver:Nat} (hc:(Nat.blt 0 path.length&&(Nat.ble path.length ai.length&&Nat.beq (bq ai (path.length-1)) ver))=true)
  (h:(ag.nest e es ai).sb path ver):False:=by
 simp only[Bool.and_eq_true,Nat.blt_eq,Nat.ble_eq,Nat.beq_eq] at hc
 obtain ⟨h1,h2,h3⟩:=hc
 rcases h with h|h|h
 ·subst h;simp at h1
 ·omega
 ·omega
theorem OE (S:aC P w I β hp B M w0) {ord:List Nat} (hR:vh hp β ord hp' aj) {v:Value} {x:V} (hv:ah P w I β hp v x):ah P w I aj hp' v (gA hp ord x):=by
 cases hv with
 | undef=>exact .undef
 | int=>exact .int
 | bool=>exact .bool
 | str h=>exact .str h
 | list h=>exact .list h
 | nilS=>exact .nilS
 | agg=>exact .undef
 | aS=>exact .undef
 | cW=>exact .cW
 | fn=>exact .undef
 | pref a b c=>exact .pref a b c
 | @dL _ e id aa=>
  simp only[gA]
  cases aY:gz ord id 0 with
  | none=>simp only[aa];exact .undef
  | some j=>
   obtain ⟨k,rfl,hk⟩:=kA aY
   exact .dL (hR.dead _ id (by simpa using hk) aa)
 | @fH _ e id off len aa=>
  simp only[gA]
  cases aY:gz ord id 0 with
  | none=>simp only[aa];exact .undef
  | some j=>
   obtain ⟨k,rfl,hk⟩:=kA aY
   exact .fH (hR.dead _ id (by simpa using hk) aa)
 | @jr _ id i c aa=>
  simp only[gA]
  cases aY:gz ord id 0 with
  | none=>exact .undef
  | some j=>
   obtain ⟨k,rfl,hk⟩:=kA aY
   exact .jr (hR.dead _ id (by simpa using hk) aa)
 | @dq e id fz _ aa hb=>
  simp only[gA]
  cases aY:gz ord id 0 with
  | none=>
   simp only[aa]
   cases fz with
   | false=>exact .undef
   | true=>simp only[Nat.beq_refl,cond_true];exact .list (.any fun _=>rfl)
  | some j=>
   obtain ⟨k,rfl,hk⟩:=kA aY
   have c6:ord[0+k]? =some id:=by simpa using hk
   exact .dq (hR.arr _ id _ _ _ c6 aa) ((hR.place _ id c6).trans hb)
 | @whole e id es fz b cap aa hb aM bQ hm=>
  simp only[gA]
  cases aY:gz ord id 0 with
  | none=>
   simp only[aa]
   cases fz with
   | false=>exact .undef
   | true=>
    simp only[Nat.beq_refl,cond_true]
    have hr:=S.h.rel id _ aa
    cases hr with
    | dr aw=>rw[aw] at hb;cases hb
    | arr aq aw hh hs hf dM hx=>
     rw[hb] at aw;cases aw
     have:=sh (I':=I) (off:=0) (len:=es.length) (o:=0) hh hx (fb aq) (by omega) bQ (fun _=>by simp) (fun _ h=>h) (hf rfl)
     exact .list (by simpa using this)
  | some j=>
   obtain ⟨k,rfl,hk⟩:=kA aY
   have c6:ord[0+k]? =some id:=by simpa using hk
   exact .whole (hR.arr _ id _ _ _ c6 aa) ((hR.place _ id c6).trans hb) aM bQ hm
 | @fu e id fz _ aa hb=>
  simp only[gA]
  cases aY:gz ord id 0 with
  | none=>
   simp only[aa]
   cases fz with
   | false=>exact .undef
   | true=>simp only[Nat.beq_refl,cond_true];exact .list (by simpa using (gS.any (P:=P) fun _=>rfl))
  | some j=>
   obtain ⟨k,rfl,hk⟩:=kA aY
   have c6:ord[0+k]? =some id:=by simpa using hk
   exact .fu (hR.arr _ id _ _ _ c6 aa) ((hR.place _ id c6).trans hb)
 | @sub e id off len es fz b o cap aa hb iy bQ ho=>
  simp only[gA]
  cases aY:gz ord id 0 with
  | none=>
   simp only[aa]
   cases fz with
   | false=>exact .undef
   | true=>
    simp only[Nat.beq_refl,cond_true]
    have hr:=S.h.rel id _ aa
    cases hr with
    | dr aw=>rw[aw] at hb;cases hb
    | arr aq aw hh hs hf dM hx=>
     rw[hb] at aw;cases aw
     exact .list (sh (I':=I) hh hx (fb aq) iy bQ ho (fun _ h=>h) (hf rfl))
  | some j=>
   obtain ⟨k,rfl,hk⟩:=kA aY
   have c6:ord[0+k]? =some id:=by simpa using hk
   exact .sub (hR.arr _ id _ _ _ c6 aa) ((hR.place _ id c6).trans hb) iy bQ ho
 | @ptr id i c b blk aa hd hb=>
  simp only[gA]
  cases aY:gz ord id 0 with
  | none=>exact .undef
  | some j=>
   obtain ⟨k,rfl,hk⟩:=kA aY
   have c6:ord[0+k]? =some id:=by simpa using hk
   cases blk with
   | dead=>exact absurd rfl hd
   | var T0 cs=>
    obtain ⟨gG,h'⟩:=hR.var _ id T0 cs c6 aa
    exact .ptr (blk:= .var T0 gG) h' (by simp) ((hR.place _ id c6).trans hb)
   | arr e es fz=>exact .ptr (blk:= .arr e es fz) (hR.arr _ id _ _ _ c6 aa) (by simp) ((hR.place _ id c6).trans hb)
   | nest e es ai=>exact .ptr (blk:= .nest e es (ai.map fun _=>0)) (hR.nest _ id _ _ _ c6 aa) (by simp) ((hR.place _ id c6).trans hb)
   | map t es=>exact .ptr (blk:= .map t es) (hR.map _ id _ _ c6 aa) (by simp) ((hR.place _ id c6).trans hb)
 | cX=>exact .cX
 | @gE _ t id aa=>
  simp only[gA]
  cases aY:gz ord id 0 with
  | none=>exact .undef
  | some j=>
   obtain ⟨k,rfl,hk⟩:=kA aY
   exact .gE (hR.dead _ id (by simpa using hk) aa)
 | @bH t id b es aa hb=>
  simp only[gA]
  cases aY:gz ord id 0 with
  | none=>exact .undef
  | some j=>
   obtain ⟨k,rfl,hk⟩:=kA aY
   have c6:ord[0+k]? =some id:=by simpa using hk
   exact .bH (hR.map _ id _ _ c6 aa) ((hR.place _ id c6).trans hb)
 | @dU e id es ai b cap aa hb aM bQ hm=>
  simp only[gA]
  cases aY:gz ord id 0 with
  | none=>simp only[aa];exact .undef
  | some j=>
   obtain ⟨k,rfl,hk⟩:=kA aY
   have c6:ord[0+k]? =some id:=by simpa using hk
   exact .dU (hR.nest _ id _ _ _ c6 aa) ((hR.place _ id c6).trans hb) aM bQ hm
 | @iM v e id ver path blk aa xA=>
  simp only[gA]
  split
  ·rename_i j e1 b6 ai h1 h2
   rw[aa] at h2
   cases h2
   cases hc:(Nat.blt 0 path.length&&(Nat.ble path.length ai.length&&Nat.beq (bq ai (path.length-1)) ver)) with
   | false=>exact .undef
   | true=>exact (OD hc xA).elim
  ·exact .undef
 | @iN v id ver i c path blk aa xA=>
  simp only[gA]
  split
  ·rename_i j e1 b6 ai h1 h2
   rw[aa] at h2
   cases h2
   cases hc:(Nat.blt 0 path.length&&(Nat.ble path.length ai.length&&Nat.beq (bq ai (path.length-1)) ver)) with
   | false=>exact .undef
   | true=>exact (OD hc xA).elim
  ·exact .undef
 | @row v e e0 t id ver b i c q es l ai aa hb hq hv ht hc=>
  simp only[gA]
  split
  ·rename_i j e1 b6 sP h1 h2
   obtain ⟨k,rfl,hk⟩:=kA h1
   have c6:ord[0+k]? =some id:=by simpa using hk
   cases hx:(Nat.blt 0 (q++[(i,c)]).length&&(Nat.ble (q++[(i,c)]).length sP.length&&Nat.beq (bq sP ((q++[(i,c)]).length-1)) ver)) with
   | false=>exact .undef
   | true=>exact .row (hR.nest _ id _ _ _ c6 aa) ((hR.place _ id c6).trans hb) (by simpa using hq) (HL _ _) ht hc
  ·exact .undef
 | @cg e e0 t id ver b b1 len cap i0 c0 i c q es l ai aa hb hq hv ht kY hc=>
  simp only[gA]
  split
  ·rename_i j e1 b6 sP h1 h2
   obtain ⟨k,rfl,hk⟩:=kA h1
   have c6:ord[0+k]? =some id:=by simpa using hk
   cases hx:(Nat.blt 0 (q++[(i0,c0)]).length&&(Nat.ble (q++[(i0,c0)]).length sP.length&&Nat.beq (bq sP ((q++[(i0,c0)]).length-1)) ver)) with
   | false=>exact .undef
   | true=>exact .cg (hR.nest _ id _ _ _ c6 aa) ((hR.place _ id c6).trans hb) (by simpa using hq) (HL _ _) ht kY hc
  ·exact .undef
theorem OF (S:aC P w I β hp B M w0) {ord:List Nat} (hR:vh hp β ord hp' aj) {vs:Array Value} {xs:List V} (h: ∀(j:Nat) v x,vs[j]? =some v→xs[j]? =some x→ah P w I β hp v x) (j:Nat) (v:Value) (y:V)
  (hv:vs[j]? =some v) (hy:(xs.map (gA hp ord))[j]? =some y):ah P w I aj hp' v y:=by
 rw[List.getElem?_map] at hy
 cases hx:xs[j]? with
 | none=>rw[hx] at hy;cases hy
 | some x=>rw[hx] at hy;cases hy;exact OE S hR (h j v x hv hx)
theorem OG (S:aC P w I β hp B M w0) {ord:List Nat} (hR:vh hp β ord hp' aj) {n:Nat} {v:Value} {x:V} (hv:ah P w I β hp v x) (hF:jT hp' aj n (uA hp ord n x).2):
  ah P w I aj hp' v (uA hp ord n x).1:=by
 cases x with
 | nilS e=>
  obtain ⟨h1,h2⟩:=hF 0 _ rfl
  cases hv with
  | nilS=>exact .dq h1 h2
 | fn f a b=>
  cases hv with
  | fn q1 q2 q3 q4=>exact .fn (by simpa using q1) (OF S hR q2) (by simpa using q3) (OF S hR q4)
 | _=>exact OE S hR hv
end
end Go.AM
namespace Go.AM
section
variable {P:Program} {A:ch} {w w':World} {I I' I2:Nat→Prop} {μ β aj:Nat→Option Nat} {hp hp':Nat→Option ag} {C:ae} {B:Nat} {M:Nat→Prop} {w0:Start}
theorem jT.left {n:Nat} {a b:List ag} (h:jT hp' aj n (a++b)):jT hp' aj n a:=fun k x hx=>
 h k x (by rw[List.getElem?_append_left (List.getElem?_eq_some_iff.1 hx).1];exact hx)
theorem jT.right {n:Nat} {a b:List ag} (h:jT hp' aj n (a++b)):jT hp' aj (n+a.length) b:=fun k x hx=>by
 have:=h (a.length+k) x (by rw[List.getElem?_append_right (by omega),Nat.add_sub_cancel_left];exact hx)
 rwa [←Nat.add_assoc] at this
def lr (bs:List ag):Prop:= ∀b∈bs,∃e,b= .arr e [] false
theorem lr.app {a b:List ag} (h1:lr a) (h2:lr b):lr (a++b):=fun x hx=>(List.mem_append.1 hx).elim (h1 x) (h2 x)
theorem lr.nil:lr []:=fun x hx=>by simp at hx
theorem OH {ord:List Nat} {n:Nat} {x:V}:lr (uA hp ord n x).2:=by
 cases x<;>simp only[uA]<;>first|exact .nil|skip
 intro b hb
 simp only[List.mem_singleton] at hb
 exact ⟨_,hb⟩
theorem HM {ord:List Nat}: ∀{xs:List V} {n:Nat},lr (lU hp ord n xs).2
 | [],n=> .nil
 | x::xs,n=>by
  simp only[lU]
  exact OH.app HM
theorem CX {ord:List Nat}: ∀{xs:List V} {n:Nat},(lU hp ord n xs).1.length=xs.length
 | [],n=>rfl
 | x::xs,n=>by simp only[lU,List.length_cons,CX]
theorem CY (S:aC P w I β hp B M w0) {ord:List Nat} (hR:vh hp β ord hp' aj): ∀{xs:List V} {vs:List Value} {n:Nat},(∀(j:Nat) v x,vs[j]? =some v→xs[j]? =some x→ah P w I β hp v x)→
  jT hp' aj n (lU hp ord n xs).2→∀(j:Nat) v y,vs[j]? =some v→(lU hp ord n xs).1[j]? =some y→ah P w I aj hp' v y
 | [],vs,n,h,hF,j,v,y,hv,hy=>by simp[lU] at hy
 | x::xs,vs,n,h,hF,j,v,y,hv,hy=>by
  simp only[lU] at hF hy
  cases j with
  | zero=>
   simp at hy
   subst hy
   exact OG S hR (h 0 v x hv rfl) hF.left
  | succ j=>
   cases vs with
   | nil=>simp at hv
   | cons v0 vs=>exact CY S hR (vs:=vs) (fun j v x hj hx=>h (j+1) v x (by simpa using hj) (by simpa using hx)) hF.right j v y (by simpa using hv) (by simpa using hy)
theorem YC {ord:List Nat} {n:Nat} {x:V}:lr (o5 hp ord n x).2:=by
 cases x<;>simp only[o5]<;>first|exact OH|exact HM
theorem YD (S:aC P w I β hp B M w0) {ord:List Nat} (hR:vh hp β ord hp' aj) {n:Nat} {v:Value} {x:V} (hv:ah P w I β hp v x) (hF:jT hp' aj n (o5 hp ord n x).2):
  ah P w I aj hp' v (o5 hp ord n x).1:=by
 cases x with
 | agg cs=>
  obtain ⟨ds,rfl,h1,h2⟩:=hv.jO
  simp only[o5] at hF⊢
  exact .agg (by rw[CX];exact h1) fun j v y hj hy=>CY S hR (vs:=ds.toList) (fun j v x hj hx=>h2 j v x (by simpa using hj) hx) hF j v y (by simpa using hj) hy
 | aS cs=>
  obtain ⟨ds,rfl,h1,h2⟩:=hv.sq
  simp only[o5] at hF⊢
  exact .aS (by rw[CX];exact h1) fun j v y hj hy=>CY S hR (vs:=ds.toList) (fun j v x hj hx=>h2 j v x (by simpa using hj) hx) hF j v y (by simpa using hj) hy
 | _=>exact OG S hR hv hF
theorem OI {ord:List Nat} {sl:Nat→V}: ∀{l:List Nat} {n:Nat},lr (kh hp ord sl n l).2
 | [],n=> .nil
 | s::l,n=>by
  simp only[kh]
  exact YC.app OI
theorem OJ {ord:List Nat} {sl:Nat→V} {k:Nat} {y:V}: ∀{l:List Nat} {n:Nat},jT hp' aj n (kh hp ord sl n l).2→dp (kh hp ord sl n l).1 k=some y→
  ∃n',jT hp' aj n' (o5 hp ord n' (sl k)).2∧y=(o5 hp ord n' (sl k)).1
 | [],n,_,h=>by cases h
 | s::l,n,hF,h=>by
  simp only[kh] at hF h
  simp only[dp] at h
  cases hb:Nat.beq k s with
  | true=>
   rw[hb] at h
   rw[Nat.beq_eq] at hb
   subst hb
   cases h
   exact ⟨n,hF.left,rfl⟩
  | false=>
   rw[hb] at h
   exact OJ hF.right h
theorem YE {ord:List Nat} {n id:Nat}:lr (eE hp ord n id).2:=by
 unfold eE
 split
 ·exact HM
 ·exact .nil
 ·exact .nil
 ·exact .nil
 ·exact .nil
theorem OK {ord:List Nat}: ∀{l:List Nat} {n:Nat},lr (fa hp ord n l).2
 | [],n=> .nil
 | s::l,n=>by
  simp only[fa]
  exact YE.app OK
theorem OL {ord:List Nat}: ∀{l:List Nat} {n:Nat},(fa hp ord n l).1.length=l.length
 | [],n=>rfl
 | x::xs,n=>by simp only[fa,List.length_cons,OL]
theorem OM {ord:List Nat}: ∀{l:List Nat} {n j:Nat} {id:Nat},l[j]? =some id→∃n',(jT hp' aj n (fa hp ord n l).2→jT hp' aj n' (eE hp ord n' id).2)∧(fa hp ord n l).1[j]? =some (eE hp ord n' id).1
 | [],n,j,id,h=>by simp at h
 | s::l,n,j,id,h=>by
  simp only[fa]
  cases j with
  | zero=>
   simp at h
   subst h
   exact ⟨n,fun hF=>hF.left,rfl⟩
  | succ j=>
   obtain ⟨n',h1,h2⟩:=OM (n:=n+(eE hp ord n s).2.length) (j:=j) (by simpa using h)
   exact ⟨n',fun hF=>h1 hF.right,by simpa using h2⟩
theorem CZ: ∀{l acc:List Nat},∃t,rV hp acc l=acc++t∧(acc.Nodup→(acc++t).Nodup)
 | [],acc=>⟨[],by simp[rV],by simp⟩
 | id::l,acc=>by
  simp only[rV]
  cases hb:(ji acc id|| !(Gh hp id)) with
  | true=>exact CZ
  | false=>
   obtain ⟨t,h1,h2⟩:=CZ (l:=l) (acc:=acc++[id])
   refine ⟨id::t,by simp only[cond_false,h1,List.append_assoc,List.singleton_append],fun hn=> ?_⟩
   have:acc++id::t=(acc++[id])++t:=by simp
   rw[this]
   refine h2 ?_
   rw[List.nodup_append]
   refine ⟨hn,by simp,fun a ha b aw=> ?_⟩
   simp only[List.mem_singleton] at aw
   subst aw
   intro e
   subst e
   rw[uQ ha] at hb
   cases hb
theorem ON: ∀{n:Nat} {l:List Nat},∃t,grow hp n l=l++t∧(l.Nodup→(l++t).Nodup)
 | 0,l=>⟨[],by simp[grow],by simp⟩
 | n+1,l=>by
  simp only[grow]
  obtain ⟨t,h1,h2⟩:=CZ (hp:=hp) (acc:=l) (l:=l.flatMap (Gi hp))
  rw[h1]
  obtain ⟨t',h3,h4⟩:=ON (n:=n) (l:=l++t)
  exact ⟨t++t',by rw[h3,List.append_assoc],fun hn=>by rw[←List.append_assoc];exact h4 (h2 hn)⟩
theorem YF {m:Nat} {live:List Nat} {st:St}: ∃t,Gj m live st=List.range m++t∧(List.range m++t).Nodup:=by
 unfold Gj
 obtain ⟨t,h1,h2⟩:=CZ (hp:=st.hp) (acc:=List.range m) (l:=live.flatMap fun s=>Gg (st.sl s))
 rw[h1]
 obtain ⟨t',h3,h4⟩:=ON (hp:=st.hp) (n:=3) (l:=List.range m++t)
 exact ⟨t++t',by rw[h3,List.append_assoc],by rw[←List.append_assoc];exact h4 (h2 List.nodup_range)⟩
end
end Go.AM
namespace Go.AM
section
variable {P:Program} {A:ch} {E:FuncId→Bool} {G:Nat→V} {w w':World} {I I' I2:Nat→Prop} {μ β aj:Nat→Option Nat} {hp hp' hp0:Nat→Option ag} {C:ae} {B:Nat} {M:Nat→Prop} {w0:Start}
theorem OO {n m:Nat} {ord live:List Nat} {a:Act} {st:St} (lZ:ord.Nodup) (yr: ∀id,id<m→ord[id]? =some id∨∃p,ord[id]? =some p∧st.hp p=none) (S:aC P w I β st.hp B M w0) (hA:g9 P E G w I β n a st) (hE:jR w0.w w0.I μ hp0 w I β st.hp) (hm: ∀id blk,hp0 id=some blk→id<m) (iD: ∀id e es ai,hp0 id=some (.nest e es ai)→∀k,bq ai k=0):
  ∃aj,aC P w I aj (uB ord live st).hp B M w0∧g9 P E G w I aj n a (uB ord live st)∧jR w0.w w0.I μ hp0 w I aj (uB ord live st).hp:=by
 have YG:uB ord live st=mk (kh st.hp ord st.sl (ord.length+(fa st.hp ord ord.length ord).2.length) live).1
   ((fa st.hp ord ord.length ord).1++((fa st.hp ord ord.length ord).2++(kh st.hp ord st.sl (ord.length+(fa st.hp ord ord.length ord).2.length) live).2)):=by
  rfl
 rw[YG]
 let hp':=iL ((fa st.hp ord ord.length ord).1++((fa st.hp ord ord.length ord).2++(kh st.hp ord st.sl (ord.length+(fa st.hp ord ord.length ord).2.length) live).2))
 let aj:Nat→Option Nat:=fun j=>if j<ord.length then (ord[j]?).bind β else none
 have hlen:(fa st.hp ord ord.length ord).1.length=ord.length:=OL
 have gY: ∀j,j<ord.length→hp' j=(fa st.hp ord ord.length ord).1[j]? :=by
  intro j hj
  simp only[hp',gq]
  rw[List.getElem?_append_left (by omega)]
 have gp: ∀k,hp' (ord.length+k)=((fa st.hp ord ord.length ord).2++(kh st.hp ord st.sl (ord.length+(fa st.hp ord ord.length ord).2.length) live).2)[k]? :=by
  intro k
  simp only[hp',gq]
  rw[List.getElem?_append_right (by omega),hlen,Nat.add_sub_cancel_left]
 have hF:jT hp' aj ord.length ((fa st.hp ord ord.length ord).2++(kh st.hp ord st.sl (ord.length+(fa st.hp ord ord.length ord).2.length) live).2):=by
  intro k b hb
  refine ⟨(gp k).trans hb,?_⟩
  simp only[aj]
  rw[if_neg (by omega)]
 have yo:lr ((fa st.hp ord ord.length ord).2++(kh st.hp ord st.sl (ord.length+(fa st.hp ord ord.length ord).2.length) live).2):=OK.app OI
 have nn: ∀(j:Nat) id,ord[j]? =some id→aj j=β id:=by
  intro j id hj
  simp only[aj]
  rw[if_pos (List.getElem?_eq_some_iff.1 hj).1,hj]
  rfl
 have pE: ∀(j:Nat) id,ord[j]? =some id→∃n',jT hp' aj n' (eE st.hp ord n' id).2∧hp' j=some (eE st.hp ord n' id).1:=by
  intro j id hj
  obtain ⟨n',h1,h2⟩:=OM (hp:=st.hp) (hp':=hp') (aj:=aj) (ord:=ord) (n:=ord.length) hj
  exact ⟨n',h1 hF.left,(gY j (List.getElem?_eq_some_iff.1 hj).1).trans h2⟩
 have hR:vh st.hp β ord hp' aj:=by
  refine ⟨fun j id e es fz hj aa=> ?_,fun j id T cs hj aa=> ?_,fun j id hj aa=> ?_,nn,fun j id e es ai hj aa=> ?_,fun j id t es hj aa=> ?_⟩
  ·obtain ⟨n',_,h2⟩:=pE j id hj
   rw[h2];simp only[eE,aa]
  ·obtain ⟨n',_,h2⟩:=pE j id hj
   rw[h2];simp only[eE,aa];exact ⟨_,rfl⟩
  ·obtain ⟨n',_,h2⟩:=pE j id hj
   rw[h2];simp only[eE,aa]
  ·obtain ⟨n',_,h2⟩:=pE j id hj
   rw[h2];simp only[eE,aa]
  ·obtain ⟨n',_,h2⟩:=pE j id hj
   rw[h2];simp only[eE,aa]
 have cls: ∀j blk',hp' j=some blk'→(∃id,ord[j]? =some id∧((blk'= .dead)∨∃blk,st.hp id=some blk∧blk≠ .dead∧∀o b,bf P w o blk' b→bf P w o blk b))∨(∃e,blk'= .arr e [] false∧aj j=none):=by
  intro j blk' hj
  rcases Nat.lt_or_ge j ord.length with h|h
  ·have fU:=List.getElem?_eq_getElem h
   obtain ⟨n',_,h2⟩:=pE j _ fU
   rw[hj] at h2
   refine .inl ⟨_,fU,?_⟩
   cases aa:st.hp ord[j] with
   | none=>left;simp only[eE,aa] at h2;exact Option.some.inj h2
   | some blk=>
    cases blk with
    | dead=>left;simp only[eE,aa] at h2;exact Option.some.inj h2
    | var T0 cs=>exact .inr ⟨_,rfl,by simp,fun o b h=>by simp only[eE,aa] at h2;rw[Option.some.inj h2] at h;exact .root (by simp) (h.flat (by simp))⟩
    | arr e es fz=>exact .inr ⟨_,rfl,by simp,fun o b h=>by simp only[eE,aa] at h2;rw[Option.some.inj h2] at h;exact .root (by simp) (h.flat (by simp))⟩
    | map t es=>exact .inr ⟨_,rfl,by simp,fun o b h=>by simp only[eE,aa] at h2;rw[Option.some.inj h2] at h;exact .root (by simp) (h.flat (by simp))⟩
    | nest e es ai=>
     refine .inr ⟨_,rfl,by simp,fun o b h=> ?_⟩
     simp only[eE,aa] at h2
     rw[Option.some.inj h2] at h
     cases h with
     | root _ h=>exact .root (by simp) h
     | row h1 h2=>exact .row h1 h2
  ·obtain ⟨k,rfl⟩: ∃k,j=ord.length+k:=⟨j-ord.length,by omega⟩
   rw[gp] at hj
   obtain ⟨e,he⟩:=yo _ (List.mem_of_getElem? hj)
   exact .inr ⟨e,he,(hF k _ hj).2⟩
 refine ⟨aj,⟨⟨fun j blk' hj=> ?_,fun j1 j2 b1 b2 b e1 e2 f1 f2=> ?_,fun j blk b e1 f1=> ?_,S.h.iO⟩,S.bU,S.size,S.new,S.io⟩,⟨fun k=> ?_,hA.size,hA.defers,hA.aB⟩,⟨hE.cM,hE.bU,fun id blk aa=> ?_,fun id blk blk' b aa br hd hb=> ?_⟩⟩
 ·change hp' j=some blk' at hj
  rcases Nat.lt_or_ge j ord.length with h|h
  ·have fU:=List.getElem?_eq_getElem h
   obtain ⟨n',OP,h2⟩:=pE j _ fU
   rw[hj] at h2
   rw[nn j _ fU]
   cases aa:st.hp ord[j] with
   | none=>simp only[eE,aa] at h2;rw[Option.some.inj h2];exact .dead
   | some blk=>
    have hr:=S.h.rel _ _ aa
    generalize β ord[j]=o at hr
    cases hr with
    | dead=>simp only[eE,aa] at h2;rw[Option.some.inj h2];exact .dead
    | dr hb=>simp only[eE,aa] at h2;rw[Option.some.inj h2];exact .dr hb
    | arr a1 a2 a3 a4 a5 a6 a7=>simp only[eE,aa] at h2;rw[Option.some.inj h2];exact .arr a1 a2 a3 a4 a5 a6 a7
    | nest a1 a2 a3=>simp only[eE,aa] at h2;rw[Option.some.inj h2];exact .nest a1 a2 a3
    | map a1 a2 a3 a4 a5 a6 a7=>simp only[eE,aa] at h2;rw[Option.some.inj h2];exact .map a1 a2 a3 a4 a5 a6 a7
    | @var xs b Ca T hb hh hs cw hx fJ=>
     simp only[eE,aa] at h2 OP
     rw[Option.some.inj h2]
     exact .var hb hh (by rw[CX];exact hs) cw (fun i v y hi hy=>CY S hR (vs:=Ca.toList) (fun i v x hi cd=>hx i v x (by simpa using hi) cd) OP i v y (by simpa using hi) hy) fJ
  ·rcases cls j blk' hj with ⟨id,aa,_⟩|⟨e,he,hb⟩
   ·have:=(List.getElem?_eq_some_iff.1 aa).1;omega
   ·rw[he];exact .dr hb
 ·rcases cls j1 b1 e1 with ⟨HN,o1,x1⟩|⟨e,_,hb⟩
  ·rcases cls j2 b2 e2 with ⟨cf,o2,x2⟩|⟨e,_,hb⟩
   ·obtain ⟨c1,y1,z1,g1⟩:=x1.resolve_left f1.alive
    obtain ⟨c2,y2,z2,g2⟩:=x2.resolve_left f2.alive
    rw[nn _ _ o1] at f1
    rw[nn _ _ o2] at f2
    have:=S.h.inj HN cf c1 c2 b y1 y2 (g1 _ _ f1) (g2 _ _ f2)
    subst this
    obtain ⟨q1,q2⟩:=List.getElem?_eq_some_iff.1 o1
    obtain ⟨q3,q4⟩:=List.getElem?_eq_some_iff.1 o2
    exact (List.getElem_inj lZ).1 (q2.trans q4.symm)
   ·subst ‹b2=_›;have:=f2.flat (by simp);rw[hb] at this;cases this
  ·subst ‹b1=_›;have:=f1.flat (by simp);rw[hb] at this;cases this
 ·rcases cls j blk e1 with ⟨HN,o1,x1⟩|⟨e,_,hb⟩
  ·obtain ⟨c1,y1,z1,g1⟩:=x1.resolve_left f1.alive
   rw[nn _ _ o1] at f1
   exact S.h.own HN c1 b y1 (g1 _ _ f1)
  ·subst ‹blk=_›;have:=f1.flat (by simp);rw[hb] at this;cases this
 ·change ah P w I aj hp' (a.tmps.getD k undef) (iu _ k)
  unfold iu
  cases Ht:dp (kh st.hp ord st.sl (ord.length+(fa st.hp ord ord.length ord).2.length) live).1 k with
  | none=>exact .undef
  | some y=>
   obtain ⟨n',h1,h2⟩:=OJ hF.right Ht
   simp only[Option.getD_some,h2]
   exact YD S hR (hA.sl k) h1
 ·obtain ⟨pA,k1,k2,k3⟩:=hE.blk id blk aa
  rcases yr id (hm id blk aa) with ho|⟨p,ho,aY⟩
  ·cases pA with
   | dead=>exact ⟨.dead,hR.dead id id ho k1,k2,fun h=>absurd rfl h⟩
   | var T0 cs=>
    obtain ⟨gG,h'⟩:=hR.var id id T0 cs ho k1
    refine ⟨_,h',?_,fun _=>(nn id id ho).trans (k3 (by simp))⟩
    cases blk<;>simp_all [ag.le]
   | arr e es fz=>exact ⟨_,hR.arr id id e es fz ho k1,k2,fun _=>(nn id id ho).trans (k3 (by simp))⟩
   | map t es=>exact ⟨_,hR.map id id t es ho k1,k2,fun _=>(nn id id ho).trans (k3 (by simp))⟩
   | nest e es ai=>
    refine ⟨_,hR.nest id id e es ai ho k1,?_,fun _=>(nn id id ho).trans (k3 (by simp))⟩
    obtain ⟨Gs,VL,rfl,l1,l2,_⟩:=ag.Gq k2
    exact ⟨rfl,l1,by simpa using l2,fun k=>by rw[iD id _ _ _ aa k];exact Nat.zero_le _⟩
  ·obtain ⟨n',_,h2⟩:=pE id p ho
   simp only[eE,aY] at h2
   exact ⟨.dead,h2,by cases blk<;>trivial,fun h=>absurd rfl h⟩
 ·obtain ⟨pA,k1,k2,k3⟩:=hE.blk id blk aa
  rcases yr id (hm id blk aa) with ho|⟨p,ho,aY⟩
  ·refine hE.size id blk pA b aa k1 (fun pD=> ?_) hb
   subst pD
   have:=hR.dead id id ho k1
   change hp' id=some blk' at br
   rw[this] at br
   exact hd (Option.some.inj br).symm
  ·obtain ⟨n',_,h2⟩:=pE id p ho
   simp only[eE,aY] at h2
   change hp' id=some blk' at br
   rw[h2] at br
   exact absurd (Option.some.inj br).symm hd
theorem YH {n m:Nat} {live:List Nat} {a:Act} {st:St} (S:aC P w I β st.hp B M w0) (hA:g9 P E G w I β n a st) (hE:jR w0.w w0.I μ hp0 w I β st.hp) (hm: ∀id blk,hp0 id=some blk→id<m) (iD: ∀id e es ai,hp0 id=some (.nest e es ai)→∀k,bq ai k=0):
  ∃aj,aC P w I aj (canon m live st).hp B M w0∧g9 P E G w I aj n a (canon m live st)∧jR w0.w w0.I μ hp0 w I aj (canon m live st).hp:=by
 obtain ⟨t,yr,lZ⟩:=YF (m:=m) (live:=live) (st:=st)
 refine OO (by rw[yr];exact lZ) (fun id aK=> .inl ?_) S hA hE hm iD
 rw[yr,List.getElem?_append_left (by simpa using aK)]
 simp[aK]
theorem OQ: ∀{l:List Nat},mX l=true→l.Nodup
 | [],_=> .nil
 | a::l,h=>by
  simp only[mX,Bool.and_eq_true,Bool.not_eq_true'] at h
  rw[List.nodup_cons]
  exact ⟨fun hm=>Bool.noConfusion ((uQ hm).symm.trans h.1),OQ h.2⟩
theorem YI {m:Nat} {mv:List Nat} {id:Nat} (h:id<m):(kV m mv)[id]? =some id∨(kV m mv)[id]? =some (m+id):=by
 unfold kV
 rw[List.getElem?_append_left (by simpa using h),List.getElem?_map]
 simp only[List.getElem?_range h,Option.map_some]
 cases ji mv id with
 | true=>exact .inr rfl
 | false=>exact .inl rfl
end
end Go.AM
namespace Go.AM
section
variable {P:Program} {A:ch} {w w':World} {I I' I2:Nat→Prop} {μ β aj:Nat→Option Nat} {hp hp' hp0:Nat→Option ag} {C:ae} {B:Nat} {M:Nat→Prop} {w0:Start}
theorem C2 (p:Nat→Prop) (h: ∃n,p n): ∃n,p n∧∀m,p m→n≤m:=by
 obtain ⟨n,hn⟩:=h
 induction n using Nat.strongRecOn with
 | _ n ih=>
  by_cases hx: ∃m,m<n∧p m
  ·obtain ⟨m,hm,hp⟩:=hx
   exact ih m hm hp
  ·exact ⟨n,hn,fun m hm=>Nat.le_of_not_lt fun aK=>hx ⟨m,aK,hm⟩⟩
open Classical in
theorem YJ {c:Code} {Q:Exit→Act→World→Prop} (J:Nat→Act→World→Prop) (h0: ∀a w,¬J 0 a w) (round: ∀n a w,J (n+1) a w→c.wp P (Exit.then (J n) Q) a w) {n:Nat} {a:Act} {w:World} (h:J n a w):
  (Code.loop c).wp P Q a w:=by
 refine wp_loop (fun a w=> ∃n,J n a w) (fun a w=>if h: ∃n,J n a w then (C2 _ h).choose else 0) ⟨n,h⟩ fun a w hJ=> ?_
 obtain ⟨h1,h2⟩:=(C2 _ hJ).choose_spec
 generalize hk:(C2 _ hJ).choose=k at h1 h2
 cases k with
 | zero=>exact absurd h1 (h0 a w)
 | succ k=>
  refine wp_mono (round k a w h1) fun e a' w' he=> ?_
  cases e with
  | normal=>
   have hex: ∃n,J n a' w':=⟨k,he⟩
   refine ⟨hex,?_⟩
   have h3:=(C2 _ hex).choose_spec.2 k he
   rw[dif_pos hex,dif_pos hJ,hk]
   omega
  | _=>exact he
def vi:Out→Exit
 | .norm=> .normal
 | .exit id=> .exit id
 | .ret=> .ret
def Inv (P:Program) (E:FuncId→Bool) (G:Nat→V) (B:Nat) (M:Nat→Prop) (w0:Start) (μ:Nat→Option Nat) (hp0:Nat→Option ag) (n:Nat) (a:Act) (w:World) (st:St):Prop:=
 ∃I β,aC P w I β st.hp B M w0∧g9 P E G w I β n a st∧jR w0.w w0.I μ hp0 w I β st.hp
theorem Inv.canon {E:FuncId→Bool} {G:Nat→V} {n m:Nat} {a:Act} {st:St} {live:List Nat} (h:Inv P E G B M w0 μ hp0 n a w st) (hm: ∀id blk,hp0 id=some blk→id<m) (iD: ∀id e es ai,hp0 id=some (.nest e es ai)→∀k,bq ai k=0):Inv P E G B M w0 μ hp0 n a w (canon m live st):=by
 obtain ⟨I,β,S,hA,hE⟩:=h
 obtain ⟨aj,a,b,c⟩:=YH (live:=live) S hA hE hm iD
 exact ⟨I,aj,a,b,c⟩
theorem C3: ∀{l:List BS} {ds:List V},(eu l ds).length=l.length
 | [],_=>rfl
 | b::l,ds=>by simp only[eu,List.length_cons,C3]
theorem Inv.enter {A:ch} {E:FuncId→Bool} {G:Nat→V} {n f:Nat} {ds:List V} {a:Act} (jy:mX (kV (A.sin f).aO.length (A.mv f))=true) (h:Inv P E G B M w0 μ hp0 n a w (aV (A.sin f) ds)) (hm: ∀id blk,hp0 id=some blk→id<(A.sin f).aO.length)
  (iD: ∀id e es ai,hp0 id=some (.nest e es ai)→∀k,bq ai k=0) (vj: ∀p,(A.sin f).aO.length≤p→(aV (A.sin f) ds).hp p=none):Inv P E G B M w0 μ hp0 n a w (xo A f ds):=by
 unfold xo
 split
 ·exact h
 ·obtain ⟨I,β,S,hA,hE⟩:=h
  obtain ⟨aj,x,y,z⟩:=OO (m:=(A.sin f).aO.length) (ord:=kV (A.sin f).aO.length (A.mv f)) (live:=(A.sin f).bu.map (·.1)) (OQ jy) (fun id aa=>(YI aa).imp (fun h=>h) fun h=>⟨_,h,vj _ (by omega)⟩) S hA hE hm iD
  exact ⟨I,aj,x,y,z⟩
theorem Inv.reshape {E:FuncId→Bool} {G:Nat→V} {n m:Nat} {a:Act} {st:St} {S:Shape} {ds:List V} (h:Inv P E G B M w0 μ hp0 n a w st) (hs:gR m S st=some ds) (hm: ∀id blk,hp0 id=some blk→id<m):Inv P E G B M w0 μ hp0 n a w (aV S ds):=by
 obtain ⟨I,β,S1,hA,hE⟩:=h
 obtain ⟨r1,r2,_,r4⟩:=AM.reshape hs S1
 refine ⟨I,β,r1,⟨fun k=>r2 k _ (hA.sl k),hA.size,hA.defers,hA.aB⟩,⟨hE.cM,hE.bU,fun id blk aa=> ?_,fun id blk blk' b aa br hd hb=> ?_⟩⟩
 ·obtain ⟨pA,k1,k2,k3⟩:=hE.blk id blk aa
  obtain ⟨_,hle,_⟩:=Nv hs
  have hl:=hm id blk aa
  obtain ⟨bK,h2⟩: ∃bK,(aV S ds).hp id=some bK:=by
   simp only[aV,mk,gq]
   exact ⟨_,List.getElem?_eq_getElem (by rw[C3];omega)⟩
  by_cases hd:bK= .dead
  ·subst hd
   exact ⟨_,h2,by cases blk<;>trivial,fun h=>absurd rfl h⟩
  ·obtain ⟨gj,e1,e2,_⟩:=r4 id bK h2 hd
   rw[k1] at e1;cases e1
   exact ⟨_,h2,ag.le_trans k2 e2,fun _=>k3 (fun e=>hd (ag.nY (e▸e2)))⟩
 ·obtain ⟨gj,e1,e2,_⟩:=r4 id blk' br hd
  exact hE.size id blk gj b aa e1 (fun e=>hd (ag.nY (e▸e2))) hb
theorem jS.here (h:jS P A C) (f:Nat) (id:Nat):jS P (A.here f id) C:=by
 intro key ds es hh
 obtain ⟨fn,c,h1,h2,h3⟩:=h key ds es hh
 refine ⟨fn,c,h1,h2,fun w I μ vals a g b d=>(h3 w I μ vals a g b d).mono fun e w' hx=> ?_⟩
 obtain ⟨v,I2,bL,q1,q2⟩:=hx
 exact ⟨v,I2,bL,q1,⟨q2.va,q2.le,q2.res⟩⟩
theorem YK {a b:Out} (h:BK a b=true):a=b:=by
 cases a<;>cases b<;>simp[BK] at h<;>first|rfl|(subst h;rfl)
theorem OR {m:Nat} {r:Out × St}: ∀{l:List (Out × Shape)} {j:Nat} {e:Nat × List V},ways m j l r=some e→j≤e.1
 | [],j,e,h=>by cases h
 | (o,S)::l,j,e,h=>by
  simp only[ways] at h
  split at h
  ·cases h;exact Nat.le_refl _
  ·have:=OR h;omega
theorem HO {m:Nat} {o:Out} {s:St} {out:Out} {st':St}: ∀{l:List (Out × Shape)} {k:Nat} {e:Nat × List V},ways m k l (o,s)=some e→jo k l e.1 e.2 (fun o st=>some (o,st))=some (out,st')→
  out=o∧∃S,gR m S s=some e.2∧st'=aV S e.2
 | [],k,e,h,_=>by cases h
 | (o',S)::l,k,e,h,h2=>by
  simp only[ways] at h
  split at h
  ·rename_i ds hx
   cases h
   cases ho:BK o' o with
   | false=>rw[ho] at hx;cases hx
   | true=>
    rw[ho] at hx
    have:=YK ho
    subst this
    cases l with
    | nil=>
     simp only[jo,Option.some.injEq,Prod.mk.injEq] at h2
     exact ⟨h2.1.symm,S,hx,h2.2.symm⟩
    | cons p l=>
     simp only[jo,Nat.beq_refl,cond_true,Option.some.injEq,Prod.mk.injEq] at h2
     exact ⟨h2.1.symm,S,hx,h2.2.symm⟩
  ·have od:=OR h
   cases l with
   | nil=>cases h
   | cons p l=>
    have bC:Nat.beq e.1 k=false:=by
     cases hb:Nat.beq e.1 k with
     | false=>rfl
     | true=>rw[Nat.beq_eq] at hb;omega
    simp only[jo,bC,cond_false] at h2
    exact HO h h2
theorem YL (hC:jS P A C) (hP:iC P A) (ot:P.follows .mixedOrders=true) {f n m:Nat} (hm: ∀id blk,hp0 id=some blk→id<m) (iD: ∀id e es ai,hp0 id=some (.nest e es ai)→∀k,bq ai k=0):
  ∀(c:Code) {st st':St} {out:Out} {Q:Exit→Act→World→Prop} {a:Act} {w:World},exec P A C f n m c st=some (out,st')→Inv P A.idle A.aB B M w0 μ hp0 n a w st→
   (∀a' w',Inv P A.idle A.aB B M w0 μ hp0 n a' w' st'→Q (vi out) a' w')→c.wp P Q a w:=by
 intro c
 induction c with
 | skip=>
  intro st st' out Q a w h hI hQ
  simp only[exec,Option.some.injEq,Prod.mk.injEq] at h
  obtain ⟨rfl,rfl⟩:=h
  exact wp_skip (hQ a w hI)
 | exit id=>
  intro st st' out Q a w h hI hQ
  simp only[exec,Option.some.injEq,Prod.mk.injEq] at h
  obtain ⟨rfl,rfl⟩:=h
  exact wp_exit (hQ a w hI)
 | ret=>
  intro st st' out Q a w h hI hQ
  simp only[exec,Option.some.injEq,Prod.mk.injEq] at h
  obtain ⟨rfl,rfl⟩:=h
  exact wp_ret (hQ a w hI)
 | region id ops draw=>
  intro st st' out Q a w h hI hQ
  simp only[exec] at h
  obtain ⟨hG,h1,h2⟩:=bind_some h
  simp only[Option.some.injEq,Prod.mk.injEq] at h2
  obtain ⟨rfl,rfl⟩:=h2
  obtain ⟨I,β,S,hA,hE⟩:=hI
  refine YA (hC.here f id) (hP.here f id) ot h1 S hA fun a' w' I' aj k1 k2 k3=> ?_
  obtain ⟨I2,l1,l2,l3⟩:=OC (m:=m) (pur:=A.pur f id) k2 k3
  have YM:=(hE.trans k1.CH).trans l1.CH
  exact hQ a' w' (Inv.canon ⟨I2,aj,l2,l3,YM⟩ hm iD)
 | seq x y fp fq=>
  intro st st' out Q a w h hI hQ
  simp only[exec] at h
  obtain ⟨⟨o1,hG⟩,h1,h2⟩:=bind_some h
  refine wp_seq (fp h1 hI fun a' w' iX=> ?_)
  cases o1 with
  | norm=>exact fq h2 iX hQ
  | exit id=>
   simp only[Option.some.injEq,Prod.mk.injEq] at h2
   obtain ⟨rfl,rfl⟩:=h2
   exact hQ a' w' iX
  | ret=>
   simp only[Option.some.injEq,Prod.mk.injEq] at h2
   obtain ⟨rfl,rfl⟩:=h2
   exact hQ a' w' iX
 | cond c x y fp fq=>
  intro st st' out Q a w h hI hQ
  cases c with
  | tmp t=>
   have go: ∀{st st':St} {out:Out} {Q:Exit→Act→World→Prop} {a:Act} {w:World},(match st.sl t with
     | .bool b=>(bif b then exec P A C f n m x st else exec P A C f n m y st).bind fun r=>
      match r.1 with
      | .norm=>some (.norm,AM.canon m (A.join f t) r.2)
      | _=>some r
     | _=>none)=some (out,st')→Inv P A.idle A.aB B M w0 μ hp0 n a w st→(∀a' w',Inv P A.idle A.aB B M w0 μ hp0 n a' w' st'→Q (vi out) a' w')→(Code.cond (.tmp t) x y).wp P Q a w:=by
    intro st st' out Q a w h hI hQ
    cases hs:st.sl t<;>rw[hs] at h<;>simp only at h<;>first|(cases h;done)|skip
    rename_i b
    obtain ⟨⟨o1,hG⟩,h1,h2⟩:=bind_some h
    obtain ⟨I,β,S,hA,hE⟩:=hI
    have eH:a.eval (.tmp t)= .bool b:=by
     have:=N7 hA hs
     simp[Act.eval,this]
    have fin: ∀a' w',Inv P A.idle A.aB B M w0 μ hp0 n a' w' hG→Q (vi o1) a' w':=by
     intro a' w' iX
     cases o1 with
     | norm=>
      simp only[Option.some.injEq,Prod.mk.injEq] at h2
      obtain ⟨rfl,rfl⟩:=h2
      exact hQ a' w' (iX.canon hm iD)
     | exit id=>
      simp only[Option.some.injEq,Prod.mk.injEq] at h2
      obtain ⟨rfl,rfl⟩:=h2
      exact hQ a' w' iX
     | ret=>
      simp only[Option.some.injEq,Prod.mk.injEq] at h2
      obtain ⟨rfl,rfl⟩:=h2
      exact hQ a' w' iX
    refine wp_cond eH ?_
    cases b with
    | true=>exact fp h1 ⟨I,β,S,hA,hE⟩ fin
    | false=>exact fq h1 ⟨I,β,S,hA,hE⟩ fin
   simp only[exec] at h
   split at h
   ·exact go h hI hQ
   ·obtain ⟨ds,h1,h2⟩:=bind_some h
    obtain ⟨e,h3,h4⟩:=bind_some h2
    obtain ⟨⟨o1,s1⟩,h5,h6⟩:=bind_some h3
    obtain ⟨rfl,S',k1,rfl⟩:=HO h6 h4
    exact go h5 (hI.reshape h1 hm) fun a' w' iX=>hQ a' w' (iX.reshape k1 hm)
  | const v=>
   cases v with
   | bool b=>
    simp only[exec] at h
    refine wp_cond (t:=b) rfl ?_
    cases b with
    | true=>exact fp h hI hQ
    | false=>exact fq h hI hQ
   | _=>simp only[exec] at h;cases h
  | _=>simp only[exec] at h;cases h
 | block id c ih=>
  intro st st' out Q a w h hI hQ
  simp only[exec] at h
  obtain ⟨⟨o1,hG⟩,h1,h2⟩:=bind_some h
  refine wp_block (ih h1 hI fun a' w' iX=> ?_)
  cases o1 with
  | norm=>
   simp only[Option.some.injEq,Prod.mk.injEq] at h2
   obtain ⟨rfl,rfl⟩:=h2
   exact hQ a' w' (iX.canon hm iD)
  | exit az=>
   simp only at h2
   cases hb:Nat.beq az id with
   | true=>
    rw[hb] at h2
    simp only[cond_true,Option.some.injEq,Prod.mk.injEq] at h2
    obtain ⟨rfl,rfl⟩:=h2
    rw[Nat.beq_eq] at hb
    simp only[vi,Exit.inBlock,hb,if_true]
    exact hQ a' w' (iX.canon hm iD)
   | false=>
    rw[hb] at h2
    simp only[cond_false,Option.some.injEq,Prod.mk.injEq] at h2
    obtain ⟨rfl,rfl⟩:=h2
    have bC:az≠id:=fun e=>by rw[e,Nat.beq_refl] at hb;cases hb
    simp only[vi,Exit.inBlock,bC,if_false]
    exact hQ a' w' iX
  | ret=>
   simp only[Option.some.injEq,Prod.mk.injEq] at h2
   obtain ⟨rfl,rfl⟩:=h2
   exact hQ a' w' iX
 | loop c ih=>
  intro st st' out Q a w h hI hQ
  simp only[exec] at h
  split at h
  ·cases h
  ·rename_i S hS
   obtain ⟨ds,h1,h2⟩:=bind_some h
   obtain ⟨e,h3,h4⟩:=bind_some h2
   obtain ⟨k,hk⟩:=uk h3
   refine YJ (J:=fun k a w=> ∃ds,Inv P A.idle A.aB B M w0 μ hp0 n a w (aV S.1 ds)∧ep (fun ds=>jL m S.1 S.2 (exec P A C f n m c (aV S.1 ds))) k ds=some e) (fun a w ⟨s,_,h⟩=>by cases h) (fun k a w ⟨ds,hs,hk⟩=> ?_) ⟨ds,hI.reshape h1 hm,hk⟩
   simp only[ep] at hk
   obtain ⟨y,h5,h6⟩:=bind_some hk
   unfold jL at h5
   obtain ⟨⟨o1,s1⟩,h7,h8⟩:=bind_some h5
   refine ih h7 hs fun a' w' iX=> ?_
   have OS: ∀{e':Nat × List V},ways m 0 S.2 (o1,s1)=some e'→e'=e→Q (vi o1) a' w':=by
    intro e' q1 q2
    subst q2
    obtain ⟨rfl,S',k1,rfl⟩:=HO q1 h4
    exact hQ a' w' (iX.reshape k1 hm)
   cases o1 with
   | norm=>
    obtain ⟨YN,q1,q2⟩:=bind_some h8
    cases q2
    exact ⟨YN,iX.reshape q1 hm,h6⟩
   | exit id=>
    obtain ⟨e',q1,q2⟩:=bind_some h8
    cases q2
    cases h6
    exact OS q1 rfl
   | ret=>
    obtain ⟨e',q1,q2⟩:=bind_some h8
    cases q2
    cases h6
    exact OS q1 rfl
 | _=>intro st st' out Q a w h;simp only[exec] at h;cases h
end
end Go.AM
namespace Go.AM
section
variable {P:Program} {A:ch} {w w':World} {I I' I2:Nat→Prop} {μ β aj bL:Nat→Option Nat} {hp hp' hp0:Nat→Option ag} {C:ae} {B:Nat} {M:Nat→Prop} {w0:Start}
theorem C4 (S:aC P w I β hp B M w0) {a:Act} {st:St} (hs:jM P w I β hp a st.sl): ∀{l:List ResultVar} {xs:List V} {rd:List Nat},(rY P st l).run C hp=some (xs,rd)→
  ∃vs:List Value,(l.mapM fun| .tmp t=>Pure.pure (a.tmps.getD t undef)| .cell x t=>do loadVar t (←asAddr (a.tmps.getD x undef)):Sem (List Value)).run P w= .ok vs w∧vs.length=xs.length∧l.length=xs.length∧
   ∀(j:Nat) v x,vs[j]? =some v→xs[j]? =some x→ah P w I β hp v x
 | [],xs,rd,h=>by
  cases h
  exact ⟨[],by simp,rfl,rfl,by simp⟩
 | .tmp t::l,xs,rd,h=>by
  simp only[rY] at h
  obtain ⟨ys,l1,l2,h1,h2⟩:=jN h
  have h3:=Gu h2
  subst h3
  obtain ⟨vs,a1,a2,a3,a4⟩:=C4 S hs h1
  refine ⟨a.tmps.getD t undef::vs,by simp only[List.mapM_cons,Sem.run_bind,Sem.run_pure,Result.andThen_ok,a1],by simp[a2],by simp[a3],fun j v x hj hx=> ?_⟩
  cases j with
  | zero=>simp at hj hx;subst hj;subst hx;have:=hs t;simpa using this
  | succ j=>exact a4 j v x (by simpa using hj) (by simpa using hx)
 | .cell y t::l,xs,rd,h=>by
  simp only[rY] at h
  obtain ⟨r,l1,l2,h1,h2⟩:=jN h
  obtain ⟨ys,l3,l4,h3,h4⟩:=jN h2
  have h5:=Gu h4
  subst h5
  obtain ⟨v0,b1,b2,b3,ad,b4⟩:=Mn S (hs y) h1
  obtain ⟨vs,a1,a2,a3,a4⟩:=C4 S hs h3
  refine ⟨v0::vs,?_,by simp[a2],by simp[a3],fun j v x hj hx=> ?_⟩
  ·have e1:(do loadVar t (←asAddr (a.tmps.getD y undef)):Sem Value).run P w= .ok v0 w:=by
    rw[b4] at b1⊢
    simpa[Instr.loadAt,Instr.sureAddr,asAddr] using b1
   simp only[List.mapM_cons,Sem.run_bind,e1,Result.andThen_ok,a1,Sem.run_pure]
  cases j with
  | zero=>simp at hj hx;subst hj;subst hx;exact b2
  | succ j=>exact a4 j v x (by simpa using hj) (by simpa using hx)
def s6:List Value→Value
 | [v]=>v
 | l=> .tuple l.toArray
theorem YO {vs:List Value} (h:vs.length≠1):s6 vs= .tuple vs.toArray:=by
 match vs,h with
 | [],_=>rfl
 | [v],h=>simp at h
 | v::v2::l,_=>rfl
theorem YP {fn:Func} {a:Act} {st:St} (S:aC P w I β st.hp B M w0) (hs:jM P w I β st.hp a st.sl) {xs:List V} {rd:List Nat} (h:(rY P st fn.results.toList).run C st.hp=some (xs,rd)):
  ∃vs:List Value,(results fn a.tmps).run P w= .ok (s6 vs) w∧vs.length=xs.length∧
   ∀(j:Nat) v x,vs[j]? =some v→xs[j]? =some x→ah P w I β st.hp v x:=by
 obtain ⟨vs,a1,a2,_,a4⟩:=C4 S hs h
 refine ⟨vs,?_,a2,a4⟩
 unfold results
 rw[Array.mapM_eq_mapM_toList]
 simp only[map_eq_pure_bind,bind_assoc,pure_bind,Sem.run_bind]
 refine (congrArg (fun r:Result (List Value)=>r.andThen _) a1).trans ?_
 simp only[Result.andThen_ok,Sem.run_pure]
 match vs with
 | []=>simp[s6]
 | [v]=>simp[s6]
 | v::v2::l=>simp[s6]
theorem OT: ∀{args:List V} {i k:Nat},dp (lV i args) k=if i≤k then args[k-i]? else none
 | [],i,k=>by simp[lV,dp]
 | v::vs,i,k=>by
  simp only[lV,dp]
  cases hb:Nat.beq k i with
  | true=>
   rw[Nat.beq_eq] at hb
   subst hb
   simp
  | false=>
   have bC:k≠i:=fun e=>by rw[e,Nat.beq_refl] at hb;cases hb
   simp only[cond_false,OT]
   by_cases h:i≤k
   ·rw[if_pos (by omega),if_pos h]
    obtain ⟨d,rfl⟩: ∃d,k=i+1+d:=⟨k-(i+1),by omega⟩
    rw[show i+1+d-(i+1)=d by omega,show i+1+d-i=d+1 by omega]
    rfl
   ·rw[if_neg (by omega),if_neg h]
theorem HP: ∀{l:List (Nat × VS)} {ds:List V} {i k:Nat},gB i l=true→dp (eQ l ds) k=if i≤k then (e8 (l.map (·.2)) ds)[k-i]? else none
 | [],ds,i,k,_=>by simp[eQ,e8,dp]
 | (q,s)::l,ds,i,k,h=>by
  simp only[gB,Bool.and_eq_true,Nat.beq_eq] at h
  obtain ⟨rfl,h⟩:=h
  simp only[eQ,dp,List.map_cons,e8]
  cases hb:Nat.beq k q with
  | true=>
   rw[Nat.beq_eq] at hb
   subst hb
   simp
  | false=>
   have bC:k≠q:=fun e=>by rw[e,Nat.beq_refl] at hb;cases hb
   simp only[cond_false]
   rw[HP h]
   by_cases h:q≤k
   ·rw[if_pos (by omega),if_pos h]
    obtain ⟨d,rfl⟩: ∃d,k=q+1+d:=⟨k-(q+1),by omega⟩
    rw[show q+1+d-(q+1)=d by omega,show q+1+d-q=d+1 by omega]
    rfl
   ·rw[if_neg (by omega),if_neg h]
theorem OU: ∀{l:List (Nat × VS)} {ds:List V},(eQ l ds).map (·.2)=e8 (l.map (·.2)) ds
 | [],_=>rfl
 | (q,s)::l,ds=>by simp only[eQ,List.map_cons,e8,OU]
theorem HQ: ∀{l:List VS} {ds:List V},(e8 l ds).length=l.length
 | [],_=>rfl
 | s::l,ds=>by simp only[e8,List.length_cons,HQ]
theorem OV: ∀{l:List (Nat × VS)} {ds:List V},(eQ l ds).length=l.length
 | [],_=>rfl
 | (q,s)::l,ds=>by simp only[eQ,List.length_cons,OV]
theorem YQ {vals:List Value} {l:List (Nat × V)} (hl:vals.length=l.length) (h: ∀(j:Nat) v y,vals[j]? =some v→(l.map (·.2))[j]? =some y→ah P w I β hp v y):ah P w I β hp (s6 vals) (nW l):=by
 match l,hl,h with
 | [],hl,h=>
  obtain rfl:vals=[]:=List.eq_nil_of_length_eq_zero hl
  exact .aS rfl fun j v x _ hx=>by simp at hx
 | [(k,y)],hl,h=>
  match vals,hl,h with
  | [v],_,h=>exact h 0 v y rfl rfl
 | a::b::l,hl,h=>
  have bC:vals.length≠1:=by rw[hl];simp
  rw[YO bC]
  simp only[nW]
  exact .aS (by simp[hl]) fun j v y hj hy=>h j v y (by simpa using hj) hy
theorem YR {l:List BS} {ds:List V} {j:Nat} {e:TypeId} {es:List V} {ai:List Nat} (h:(eu l ds)[j]? =some (.nest e es ai)) (k:Nat):bq ai k=0:=by
 obtain ⟨b,eT,_,h2⟩:=Hy h
 cases b<;>simp only[fo] at h2<;>cases h2
 match k with
 | 0=>rfl
 | 1=>rfl
 | 2=>rfl
 | _+3=>rfl
theorem YS {f n m:Nat} {fn:Func} {a:Act} {st:St} {es:List V} {rd:List Nat} (hm: ∀id blk,hp0 id=some blk→id<m) (iD: ∀id e es ai,hp0 id=some (.nest e es ai)→∀k,bq ai k=0)
  (hI:Inv P A.idle A.aB B M w0 μ hp0 n a w st) (np:gB 0 (A.e6 f).bu=true) (aM:(A.e6 f).bu.length=fn.results.size) (h:(rZ P A f fn m st).run C st.hp=some (es,rd)):
  ∃v I2 bL,(results fn a.tmps).run P w= .ok v w∧aC P w I2 bL (aV (A.so f es) (A.lv f es)).hp B M w0∧jR w0.w w0.I μ hp0 w I2 bL (aV (A.so f es) (A.lv f es)).hp∧ah P w I2 bL (aV (A.so f es) (A.lv f es)).hp v (nW (eQ (A.so f es).bu (A.lv f es))):=by
 unfold rZ at h
 obtain ⟨xs,l1,l2,h1,h2⟩:=jN h
 obtain ⟨I,β,S,hA,hE⟩:=hI
 obtain ⟨vals,e1,e2,e3⟩:=YP S hA.sl h1
 have e4:fn.results.size=xs.length:=by
  obtain ⟨_,_,_,q,_⟩:=C4 S hA.sl h1
  simpa using q
 have fin: ∀(Sx:Shape) (es:List V),gB 0 Sx.bu=true→Sx.bu.length=fn.results.size→gR m Sx (canon m (List.range xs.length) (freeze m (A.rS f) ⟨iu (lV 0 xs),st.hp,st.nb⟩))=some es→
   ∃v I2 bL,(results fn a.tmps).run P w= .ok v w∧aC P w I2 bL (aV Sx es).hp B M w0∧jR w0.w w0.I μ hp0 w I2 bL (aV Sx es).hp∧ah P w I2 bL (aV Sx es).hp v (nW (eQ Sx.bu es)):=by
  intro Sx es np aM s7
  have YT:g9 P A.idle A.aB w I β vals.length ⟨vals.toArray,[]⟩ ⟨iu (lV 0 xs),st.hp,st.nb⟩:=by
   refine ⟨fun k=> ?_,by simp,by simp,hA.aB⟩
   change ah P w I β st.hp _ (iu (lV 0 xs) k)
   unfold iu
   rw[OT]
   simp only[Nat.zero_le,if_true,Nat.sub_zero]
   cases hk:xs[k]? with
   | none=>exact .undef
   | some x=>
    have kp:k<vals.length:=by rw[e2];exact (List.getElem?_eq_some_iff.1 hk).1
    have:=e3 k vals[k] x (List.getElem?_eq_getElem kp) hk
    have e5:(vals.toArray).getD k undef=vals[k]:=by simp[kp]
    rw[Option.getD_some]
    exact e5▸this
  obtain ⟨I2,k1,k2,k3⟩:=OC (st:=⟨iu (lV 0 xs),st.hp,st.nb⟩) (m:=m) (pur:=A.rS f) S YT
  have YU:Inv P A.idle A.aB B M w0 μ hp0 vals.length ⟨vals.toArray,[]⟩ w (freeze m (A.rS f) ⟨iu (lV 0 xs),st.hp,st.nb⟩):=⟨I2,β,k2,k3,hE.trans k1.CH⟩
  obtain ⟨I3,OW,q1,q2,q3⟩:=(YU.canon (live:=List.range xs.length) hm iD).reshape s7 hm
  refine ⟨s6 vals,I3,OW,e1,q1,q3,YQ (by rw[OV,aM,e4,e2]) fun j v y hj hy=> ?_⟩
  have hv:=q2.sl j
  have cB:=(List.getElem?_eq_some_iff.1 hj).1
  have e5:(vals.toArray).getD j undef=v:=by
   have:=(List.getElem?_eq_some_iff.1 hj).2
   simp[cB,this]
  change ah P w I3 OW _ ((vals.toArray).getD j undef) (iu (eQ Sx.bu _) j) at hv
  rw[e5] at hv
  unfold iu at hv
  rw[HP np] at hv
  simp only[Nat.zero_le,if_true,Nat.sub_zero] at hv
  rw[OU] at hy
  rw[hy] at hv
  exact hv
 unfold ch.so ch.lv
 cases bX:A.alt f with
 | none=>
  rw[bX] at h2
  simp only at h2⊢
  split at h2
  ·rename_i eT s7
   have:=aH h2
   subst this
   exact fin _ _ np aM s7
  ·cases h2
 | some S2=>
  rw[bX] at h2
  simp only at h2⊢
  split at h2
  ·rename_i eT s7
   have:=aH h2
   subst this
   exact fin _ _ np aM s7
  ·split at h2
   ·rename_i eT s7
    obtain ⟨hc,h3⟩:=aD h2
    simp only[Bool.and_eq_true,Nat.beq_eq] at hc
    have:=aH h3
    subst this
    exact fin _ _ hc.1 hc.2 s7
   ·cases h2
theorem YV (hC:jS P A C) (hP:iC P A) (ot:P.follows .mixedOrders=true):jS P A (mZ P A C):=by
 intro f ds es h
 unfold mZ at h
 cases hf:P.funcs[A.aP f]? with
 | none=>rw[hf] at h;cases h
 | some fn=>
  rw[hf] at h
  simp only at h
  cases hb:fn.body with
  | none=>rw[hb] at h;cases h
  | some c=>
   rw[hb] at h
   simp only at h
   cases hc:(gB 0 (A.sin f).bu&&(Nat.ble (A.sin f).bu.length fn.ntmps&&((A.sin f).ok&&(gB 0 (A.e6 f).bu&&(Nat.beq (A.e6 f).bu.length fn.results.size&&mX (kV (A.sin f).aO.length (A.mv f))))))) with
   | false=>rw[hc] at h;cases h
   | true=>
    rw[hc] at h
    simp only[cond_true] at h
    simp only[Bool.and_eq_true,Nat.beq_eq,Nat.ble_eq] at hc
    obtain ⟨jw,hnt,_,vf,aM,jy⟩:=hc
    obtain ⟨⟨out,st'⟩,h1,h2⟩:=bind_some h
    refine ⟨fn,c,rfl,hb,fun w I μ vals hH YW hl hv=> ?_⟩
    have YX:(∀id,out≠ .exit id)∧∃rd,(rZ P A f fn (A.sin f).aO.length st').run C st'.hp=some (es,rd):=by
     cases out with
     | exit id=>cases h2
     | norm=>
      refine ⟨by simp,?_⟩
      simp only[Option.map_eq_some_iff] at h2
      obtain ⟨⟨x,rd⟩,e1,e2⟩:=h2
      simp only at e2
      subst e2
      exact ⟨rd,e1⟩
     | ret=>
      refine ⟨by simp,?_⟩
      simp only[Option.map_eq_some_iff] at h2
      obtain ⟨⟨x,rd⟩,e1,e2⟩:=h2
      simp only at e2
      subst e2
      exact ⟨rd,e1⟩
    obtain ⟨bC,rd,Ho⟩:=YX
    refine calls_of_wp_defers hf hb ?_
    have hm: ∀id blk,(aV (A.sin f) ds).hp id=some blk→id<(A.sin f).aO.length:=by
     intro id blk aa
     simp only[aV,mk,gq] at aa
     have:=(List.getElem?_eq_some_iff.1 aa).1
     rwa [C3] at this
    have iD: ∀id e es ai,(aV (A.sin f) ds).hp id=some (.nest e es ai)→∀k,bq ai k=0:=by
     intro id e es ai aa k
     simp only[aV,mk,gq] at aa
     exact YR aa k
    refine YL (w0:=⟨w,I⟩) (μ:=μ) (hp0:=(aV (A.sin f) ds).hp) (B:=w.heap.size) (M:=nk P w μ (aV (A.sin f) ds).hp) hC hP ot hm iD c h1 ?_ ?_
    ·refine Inv.enter jy ?_ hm iD fun p hp=>by
      simp only[aV,mk,gq]
      rw[List.getElem?_eq_none_iff,C3]
      exact hp
     refine ⟨I,μ,⟨hH,fun _ _ _=>rfl,Nat.le_refl _,fun b h=> .inl h,⟨rfl,rfl⟩⟩,⟨fun k=> ?_,?_,by simp,YW⟩,(Le.refl (P:=P) w I μ _).CH⟩
     ·change ah P w I μ _ _ (iu (eQ (A.sin f).bu ds) k)
      unfold iu
      rw[HP jw]
      simp only[Nat.zero_le,if_true,Nat.sub_zero]
      cases hk:(e8 ((A.sin f).bu.map (·.2)) ds)[k]? with
      | none=>exact .undef
      | some x=>
       have kp:k<vals.length:=by
        have:=(List.getElem?_eq_some_iff.1 hk).1
        rw[HQ,List.length_map] at this
        rw[hl];exact this
       have:=hv k vals[k] x (List.getElem?_eq_getElem kp) hk
       have e1:(vals.toArray++Array.replicate (fn.ntmps-vals.toArray.size) undef).getD k undef=vals[k]:=by
        simp[Array.getElem?_append,kp]
       rw[Option.getD_some]
       exact e1▸this
     ·simp
      omega
    ·intro a' w' hI
     obtain ⟨v,I2,bL,q1,q2,q3,q4⟩:=YS hm iD hI vf aM Ho
     obtain ⟨_,_,_,hA,_⟩:=hI
     cases out with
     | exit id=>exact absurd rfl (bC id)
     | norm=>exact HE hP q1 ⟨v,I2,bL,rfl,q2,q3,q4⟩ _ hA.defers
     | ret=>exact HE hP q1 ⟨v,I2,bL,rfl,q2,q3,q4⟩ _ hA.defers
theorem OX (hP:iC P A) (ot:P.follows .mixedOrders=true): ∀n,jS P A (jq P A n)
 | 0=>fun _ _ _ h=>by cases h
 | n+1=>YV (OX hP ot n) hP ot
theorem YY (hP:iC P A) (ot:P.follows .mixedOrders=true):jS P A (Call P A):=by
 intro f ds es h
 have hn: ∃n,jq P A n f ds=some es:=by
  unfold Call at h
  split at h
  ·rename_i hex
   have:=hex.choose_spec.choose_spec
   rw[Option.some.inj h] at this
   exact ⟨_,this⟩
  ·cases h
 obtain ⟨n,hn⟩:=hn
 exact OX hP ot n f ds es hn
end
end Go.AM
namespace Go.AM
section
variable {P:Program} {A:ch} {C:ae} {D:Nat→ae}
def yu (C:ae) (D:Nat→ae):Prop:= ∀f a r,C f a=some r→∃n,∀k,n≤k→D k f a=some r
theorem pF {α:Type} (h:yu C D) {hp:Nat→Option ag}: ∀{p:Rd α} {r:α × List Nat},p.run C hp=some r→∃n,∀k,n≤k→p.run (D k) hp=some r
 | .ret a,r,e=>⟨0,fun _ _=>e⟩
 | .fail,r,e=>by cases e
 | .get id q,r,e=>by
  obtain ⟨x,h1,h2⟩:=bind_some e
  obtain ⟨n,hn⟩:=pF h h1
  exact ⟨n,fun k hk=>by simp only[Rd.run,hn k hk,Option.bind_some];exact h2⟩
 | .opt o q,r,e=>by
  obtain ⟨x,h1,h2⟩:=bind_some e
  obtain ⟨n,hn⟩:=pF h h2
  exact ⟨n,fun k hk=>by simp only[Rd.run,h1,Option.bind_some];exact hn k hk⟩
 | .ay b q,r,e=>by
  obtain ⟨h1,h2⟩:=aD e
  obtain ⟨n,hn⟩:=pF h h2
  exact ⟨n,fun k hk=>by simp only[Rd.run,h1,cond_true];exact hn k hk⟩
 | .call f a q,r,e=>by
  obtain ⟨x,h1,h2⟩:=bind_some e
  obtain ⟨n1,jw⟩:=h f a x h1
  obtain ⟨n2,vf⟩:=pF h h2
  exact ⟨max n1 n2,fun k hk=>by simp only[Rd.run,jw k (by omega),Option.bind_some];exact vf k (by omega)⟩
 | .alt true x y,r,e=>pF (p:=x) h e
 | .alt false x y,r,e=>pF (p:=y) h e
theorem YZ (h:yu C D) {n i nb:Nat} {ops:Array Oper} {o:Oper} {st:St} {r:St × List Nat × List Nat} (e:gi P A C n ops i o nb st=some r): ∃N,∀k,N≤k→gi P A (D k) n ops i o nb st=some r:=by
 unfold gi at e
 have go:(((e9 P A st.sl i (nb+64*i) o).run C st.hp).bind fun r=>some ((⟨gy st.sl o.dst r.1.v,bB st.hp r.1.upd,st.nb⟩:St),r.2,r.1.upd.map (·.1)))=some r→
   ∃N,∀k,N≤k→(((e9 P A st.sl i (nb+64*i) o).run (D k) st.hp).bind fun r=>some ((⟨gy st.sl o.dst r.1.v,bB st.hp r.1.upd,st.nb⟩:St),r.2,r.1.upd.map (·.1)))=some r:=by
  intro e
  obtain ⟨x,h1,h2⟩:=bind_some e
  obtain ⟨N,hN⟩:=pF h h1
  exact ⟨N,fun k hk=>by rw[hN k hk];exact h2⟩
 unfold gi
 cases hd:qK o n with
 | false=>rw[hd] at e;cases e
 | true=>
  rw[hd] at e
  simp only[cond_true] at e⊢
  cases hg:o.guard with
  | none=>rw[hg] at e;exact go e
  | some gw=>
   obtain ⟨g,want⟩:=gw
   rw[hg] at e
   simp only at e⊢
   cases kz:(ops[g]?).bind (·.dst) with
   | none=>rw[kz] at e;cases e
   | some d=>
    rw[kz] at e
    simp only at e⊢
    cases lq:kb (st.sl d) with
    | none=>rw[lq] at e;cases e
    | some ob=>
    rw[lq] at e
    cases ob with
    | none=>exact ⟨0,fun _ _=>e⟩
    | some b=>
    simp only at e⊢
    cases hb:b==want with
    | true=>rw[hb] at e;exact go e
    | false=>rw[hb] at e;exact ⟨0,fun _ _=>e⟩
theorem OY (h:yu C D) {n nb:Nat} {ops:Array Oper}: ∀{l:List (Nat × Oper)} {st:St} {log:Log} {r:St × Log},nX P A C n ops nb l st log=some r→∃N,∀k,N≤k→nX P A (D k) n ops nb l st log=some r
 | [],st,log,r,e=>⟨0,fun _ _=>e⟩
 | (i,o)::l,st,log,r,e=>by
  obtain ⟨x,h1,h2⟩:=bind_some e
  obtain ⟨N1,nq⟩:=YZ h h1
  obtain ⟨N2,pG⟩:=OY h h2
  exact ⟨max N1 N2,fun k hk=>by simp only[nX,nq k (by omega),Option.bind_some];exact pG k (by omega)⟩
theorem OZ {X R:Type} {step:X→Option (X ⊕ R)} {stepD:Nat→X→Option (X ⊕ R)} (hs: ∀x y,step x=some y→∃N,∀k,N≤k→stepD k x=some y): ∀(n:Nat) (x:X) (r:R),ep step n x=some r→∃N,∀k,N≤k→ep (stepD k) n x=some r
 | 0,x,r,e=>by cases e
 | n+1,x,r,e=>by
  simp only[ep] at e⊢
  obtain ⟨y,h1,h2⟩:=bind_some e
  obtain ⟨N1,nq⟩:=hs x y h1
  cases y with
  | inl z=>
   obtain ⟨N2,pG⟩:=OZ hs n z r h2
   exact ⟨max N1 N2,fun k hk=>by rw[nq k (by omega)];exact pG k (by omega)⟩
  | inr q=>exact ⟨N1,fun k hk=>by rw[nq k hk];exact h2⟩
theorem Y0 (h:yu C D) {f n m:Nat}: ∀(c:Code) {st:St} {r:Out × St},exec P A C f n m c st=some r→∃N,∀k,N≤k→exec P A (D k) f n m c st=some r:=by
 intro c
 induction c with
 | skip=>exact fun e=>⟨0,fun _ _=>e⟩
 | exit id=>exact fun e=>⟨0,fun _ _=>e⟩
 | ret=>exact fun e=>⟨0,fun _ _=>e⟩
 | region id ops draw=>
  intro st r e
  simp only[exec] at e⊢
  obtain ⟨x,h1,h2⟩:=bind_some e
  obtain ⟨y,h3,h4⟩:=bind_some h1
  obtain ⟨N,hN⟩:=OY h h3
  refine ⟨N,fun k hk=> ?_⟩
  have:uC P (A.here f id) (D k) n ops draw st=some x:=by
   unfold uC
   rw[hN k hk]
   exact h4
  rw[this]
  exact h2
 | seq x y fp fq=>
  intro st r e
  simp only[exec] at e⊢
  obtain ⟨⟨o,s1⟩,h1,h2⟩:=bind_some e
  obtain ⟨N1,nq⟩:=fp h1
  cases o with
  | norm=>
   obtain ⟨N2,pG⟩:=fq h2
   exact ⟨max N1 N2,fun k hk=>by rw[nq k (by omega)];exact pG k (by omega)⟩
  | exit id=>exact ⟨N1,fun k hk=>by rw[nq k hk];exact h2⟩
  | ret=>exact ⟨N1,fun k hk=>by rw[nq k hk];exact h2⟩
 | cond c x y fp fq=>
  intro st r e
  cases c with
  | tmp t=>
   have go: ∀{st:St} {r:Out × St},(match st.sl t with
     | .bool b=>(bif b then exec P A C f n m x st else exec P A C f n m y st).bind fun r=>
      match r.1 with
      | .norm=>some (.norm,canon m (A.join f t) r.2)
      | _=>some r
     | _=>none)=some r→∃N,∀k,N≤k→(match st.sl t with
     | .bool b=>(bif b then exec P A (D k) f n m x st else exec P A (D k) f n m y st).bind fun r=>
      match r.1 with
      | .norm=>some (.norm,canon m (A.join f t) r.2)
      | _=>some r
     | _=>none)=some r:=by
    intro st r e
    cases hs:st.sl t<;>rw[hs] at e<;>simp only at e⊢ <;>first|(cases e;done)|skip
    rename_i b
    obtain ⟨x1,h1,h2⟩:=bind_some e
    cases b with
    | true=>
     obtain ⟨N,hN⟩:=fp h1
     exact ⟨N,fun k hk=>by simp only[cond_true,hN k hk,Option.bind_some];exact h2⟩
    | false=>
     obtain ⟨N,hN⟩:=fq h1
     exact ⟨N,fun k hk=>by simp only[cond_false,hN k hk,Option.bind_some];exact h2⟩
   simp only[exec] at e⊢
   split at e
   ·rename_i hS
    obtain ⟨N,hN⟩:=go e
    exact ⟨N,fun k hk=>hN k hk⟩
   ·rename_i S hS
    obtain ⟨ds,h1,h2⟩:=bind_some e
    obtain ⟨e',h3,h4⟩:=bind_some h2
    obtain ⟨r1,h5,h6⟩:=bind_some h3
    obtain ⟨N,hN⟩:=go h5
    refine ⟨N,fun k hk=> ?_⟩
    try rw[hS]
    simp only[h1,Option.bind_some]
    exact (congrArg (fun z:Option (Out × St)=>(z.bind fun r=>ways m 0 S.2 r).bind fun e=>jo 0 S.2 e.1 e.2 fun o st=>some (o,st)) (hN k hk)).trans (by simp only[Option.bind_some,h6];exact h4)
  | const v=>
   cases v with
   | bool b=>
    simp only[exec] at e⊢
    cases b with
    | true=>exact fp e
    | false=>exact fq e
   | _=>simp only[exec] at e;cases e
  | _=>simp only[exec] at e;cases e
 | block id c ih=>
  intro st r e
  simp only[exec] at e⊢
  obtain ⟨x1,h1,h2⟩:=bind_some e
  obtain ⟨N,hN⟩:=ih h1
  exact ⟨N,fun k hk=>by rw[hN k hk];exact h2⟩
 | loop c ih=>
  intro st r e
  simp only[exec] at e⊢
  split at e
  ·cases e
  ·rename_i S hS
   obtain ⟨ds,h1,h2⟩:=bind_some e
   obtain ⟨e',h3,h4⟩:=bind_some h2
   obtain ⟨q,hq⟩:=uk h3
   obtain ⟨N,hN⟩:=OZ (stepD:=fun k ds=>jL m S.1 S.2 (exec P A (D k) f n m c (aV S.1 ds))) (fun x y yv=>by
    unfold jL at yv⊢
    obtain ⟨z,h5,h6⟩:=bind_some yv
    obtain ⟨N,hN⟩:=ih h5
    exact ⟨N,fun k hk=>by rw[hN k hk];exact h6⟩) q ds e' hq
   refine ⟨N,fun k hk=> ?_⟩
   try rw[hS]
   simp only[h1,Option.bind_some]
   rw[uj (hN k hk)]
   exact h4
 | _=>intro st r e;simp only[exec] at e;cases e
theorem C6 (h:yu C D) {f:Nat} {ds es:List V} (e:mZ P A C f ds=some es): ∃N,∀k,N≤k→mZ P A (D k) f ds=some es:=by
 unfold mZ at e⊢
 cases hf:P.funcs[A.aP f]? with
 | none=>rw[hf] at e;cases e
 | some fn=>
  rw[hf] at e
  simp only at e⊢
  cases hb:fn.body with
  | none=>rw[hb] at e;cases e
  | some c=>
   rw[hb] at e
   simp only at e⊢
   cases hc:(gB 0 (A.sin f).bu&&(Nat.ble (A.sin f).bu.length fn.ntmps&&((A.sin f).ok&&(gB 0 (A.e6 f).bu&&(Nat.beq (A.e6 f).bu.length fn.results.size&&mX (kV (A.sin f).aO.length (A.mv f))))))) with
   | false=>rw[hc] at e;cases e
   | true=>
    rw[hc] at e
    simp only[cond_true] at e⊢
    obtain ⟨⟨o,s1⟩,h1,h2⟩:=bind_some e
    obtain ⟨N1,nq⟩:=Y0 h c h1
    cases o with
    | exit id=>cases h2
    | norm=>
     simp only[Option.map_eq_some_iff] at h2
     obtain ⟨x,e1,e2⟩:=h2
     obtain ⟨N2,pG⟩:=pF h e1
     exact ⟨max N1 N2,fun k hk=>by rw[nq k (by omega)];simp only[Option.bind_some,pG k (by omega),Option.map_some,e2]⟩
    | ret=>
     simp only[Option.map_eq_some_iff] at h2
     obtain ⟨x,e1,e2⟩:=h2
     obtain ⟨N2,pG⟩:=pF h e1
     exact ⟨max N1 N2,fun k hk=>by rw[nq k (by omega)];simp only[Option.bind_some,pG k (by omega),Option.map_some,e2]⟩
theorem O0: ∀n f a r,jq P A n f a=some r→jq P A (n+1) f a=some r
 | 0,f,a,r,h=>by cases h
 | n+1,f,a,r,h=>by
  obtain ⟨N,hN⟩:=C6 (C:=jq P A n) (D:=fun _=>jq P A (n+1)) (fun f a r h=>⟨0,fun _ _=>O0 n f a r h⟩) h
  exact hN N (Nat.le_refl _)
theorem HR {n k:Nat} (hk:n≤k) {f:Nat} {a r:List V} (h:jq P A n f a=some r):jq P A k f a=some r:=by
 induction hk with
 | refl=>exact h
 | step _ ih=>exact O0 _ _ _ _ ih
theorem yw {f:Nat} {a r:List V}:Call P A f a=some r↔∃n,jq P A n f a=some r:=by
 constructor
 ·intro h
  unfold Call at h
  split at h
  ·rename_i hex
   have:=hex.choose_spec.choose_spec
   rw[Option.some.inj h] at this
   exact ⟨_,this⟩
  ·cases h
 ·rintro ⟨n,hn⟩
  have hex: ∃n r,jq P A n f a=some r:=⟨n,r,hn⟩
  unfold Call
  rw[dif_pos hex]
  have h2:=hex.choose_spec.choose_spec
  have h3:=HR (Nat.le_max_left n hex.choose) hn
  have h4:=HR (Nat.le_max_right n hex.choose) h2
  rw[h3] at h4
  exact h4.symm
theorem Y1 (f:Nat) (a:List V):Call P A f a=mZ P A (Call P A) f a:=by
 apply Option.ext
 intro r
 constructor
 ·intro h
  obtain ⟨n,hn⟩:=yw.1 h
  cases n with
  | zero=>cases hn
  | succ n=>
   obtain ⟨N,hN⟩:=C6 (C:=jq P A n) (D:=fun _=>Call P A) (fun f a r h=>⟨0,fun _ _=>yw.2 ⟨n,h⟩⟩) hn
   exact hN N (Nat.le_refl _)
 ·intro h
  obtain ⟨N,hN⟩:=C6 (C:=Call P A) (D:=jq P A) (fun f a r h=>by
   obtain ⟨n,hn⟩:=yw.1 h
   exact ⟨n,fun k hk=>HR hk hn⟩) h
  exact yw.2 ⟨N+1,hN N (Nat.le_refl _)⟩
end
end Go.AM
namespace Go.AM
open Go.ChangeShapes Go.WideShapes Go.RowKit
section
variable (P:Program)
inductive WT:TypeId→V→Prop
 | int {t:TypeId} {k:IntKind} {n:Int}:P.underlying t=some (.int k)→(Lit.int k n).wf=true→WT t (.int k n)
 | bool {t:TypeId} {b:Bool}:P.underlying t=some .bool→WT t (.bool b)
 | str {t:TypeId} {l:List UInt8}:P.underlying t=some .string→l.length≤maxLen→WT t (.str l)
 | list {t e:TypeId} {es:List V}:P.underlying t=some (.slice e)→es.length≤maxLen→
   (∀(i:Nat) x,es[i]? =some x→bt P e=true→∃xs,x= .agg xs∧xs.length=(aL P e).length)→
   (∀(i j:Nat) x t',es[i]? =some x→(aL P e)[j]? =some t'→WT t' (bz P e x j))→WT t (.list e es)
def gh (t:TypeId) (x:V):Prop:=
 (bt P t=true→∃xs,x= .agg xs∧xs.length=(aL P t).length)∧∀(j:Nat) t',(aL P t)[j]? =some t'→WT P t' (bz P t x j)
def rQ:List TypeId→List V→Prop
 | [],[]=>True
 | t::ts,x::xs=>gh P t x∧rQ ts xs
 | _,_=>False
def hasB (L:List TypeId) (t:TypeId):Bool:=L.any fun u=>Nat.beq u t
def C7 (L:List TypeId):Nat→List Field→Bool
 | _,[]=>true
 | n,f::fs=>hasB L f.type&&(Nat.beq f.offset n&&(Nat.beq (P.cellsOf f.type) (aL P f.type).length&&C7 L (n+P.cellsOf f.type) fs))
def yx:List Nat→List Nat→Bool
 | [],[]=>true
 | a::l,b::m=>Nat.beq a b&&yx l m
 | _,_=>false
def HS (L:List TypeId) (t:TypeId):Bool:=
 Nat.beq (P.cellsOf t) (aL P t).length&&
 match P.underlying t with
 | some (.int _)=>true
 | some .bool=>true
 | some .string=>true
 | some (.slice e)=>hasB L e&&cx P e
 | some (.struct fs)=>C7 P L 0 fs.toList&&yx (flat P t) (fs.toList.flatMap fun f=>aL P f.type)
 | some (.array n e)=>hasB L e&&(Nat.beq (P.cellsOf e) (aL P e).length&&yx (flat P t) (List.replicate n (aL P e)).flatten)
 | _=>false
def C8 (L:List TypeId):Bool:=L.all fun t=>HS P L t
end
theorem C9 {L:List TypeId} {t:TypeId} (h:hasB L t=true):t∈L:=by
 obtain ⟨u,hu,h2⟩:=List.any_eq_true.1 h
 rw[Nat.beq_eq] at h2
 exact h2▸hu
theorem HT: ∀{l m:List Nat},yx l m=true→l=m
 | [],[],_=>rfl
 | a::l,b::m,h=>by
  simp only[yx,Bool.and_eq_true,Nat.beq_eq] at h
  rw[h.1,HT h.2]
 | [],_::_,h=>by cases h
 | _::_,[],h=>by cases h
section
variable {P:Program} {H:Type} {enc:TypeId × Value→H} {w:World} {base:Nat} {spare:Nat→Bool} {held:Bool} {L:List TypeId}
def ml (w:World):Nat→Prop:=fun b=>b<w.heap.size
def mn (P:Program) (w:World) (ts:List TypeId) (cs:List Value) (xs:List V):Prop:=
 cs.length=ts.length∧xs.length=ts.length∧∀(j:Nat) t',ts[j]? =some t'→∃v y,cs[j]? =some v∧xs[j]? =some y∧Pure P w (ml w) t' v y∧WT P t' y
theorem mn.app {ts uy:List TypeId} {cs gG:List Value} {xs O1:List V} (h:mn P w ts cs xs) (h':mn P w uy gG O1):mn P w (ts++uy) (cs++gG) (xs++O1):=by
 obtain ⟨a,b,c⟩:=h
 obtain ⟨a',b',c'⟩:=h'
 refine ⟨by simp[a,a'],by simp[b,b'],fun j t' hj=> ?_⟩
 by_cases aK:j<ts.length
 ·rw[List.getElem?_append_left aK] at hj
  obtain ⟨v,y,e1,e2,e3⟩:=c j t' hj
  exact ⟨v,y,by rw[List.getElem?_append_left (by omega)];exact e1,by rw[List.getElem?_append_left (by omega)];exact e2,e3⟩
 ·rw[List.getElem?_append_right (by omega)] at hj
  obtain ⟨v,y,e1,e2,e3⟩:=c' _ t' hj
  exact ⟨v,y,by rw[List.getElem?_append_right (by omega),a];exact e1,by rw[List.getElem?_append_right (by omega),b];exact e2,e3⟩
theorem Y2 {w:World} {a:Addr} {v:Value} (h:w.cell? a=some v):a.spot=none∧a.block<w.heap.size:=by
 unfold World.cell? at h
 split at h
 ·rename_i hh
  split at h
  ·cases h
  ·rename_i hs
   exact ⟨by simpa using hs,(Array.getElem?_eq_some_iff.1 hh).1⟩
 all_goals (first|cases h|skip)
theorem O2 {rd:TypeId→List Value→Option (DataW H × List MemPlace)} (cs:List Value)
  (ih: ∀t cs x,t∈L→rd t cs=some x→∃xs,mn P w (aL P t) cs xs): ∀(fs:List Field) (n:Nat),C7 P L n fs=true→
  (∀f∈fs,∃x,rd f.type ((cs.drop f.offset).take (P.cellsOf f.type))=some x)→∃m xs,n≤m∧mn P w (fs.flatMap fun f=>aL P f.type) ((cs.drop n).take (m-n)) xs∧m-n=(fs.flatMap fun f=>aL P f.type).length
 | [],n,_,_=>⟨n,[],Nat.le_refl _,⟨by simp,rfl,by simp⟩,by simp⟩
 | f::fs,n,h,hx=>by
  simp only[C7,Bool.and_eq_true,Nat.beq_eq] at h
  obtain ⟨h1,h2,h3,h4⟩:=h
  obtain ⟨x,Y3⟩:=hx f (by simp)
  obtain ⟨xs,fV⟩:=ih _ _ _ (C9 h1) Y3
  obtain ⟨m,ys,hm,pH,CQ⟩:=O2 cs ih fs (n+P.cellsOf f.type) h4 fun g hg=>hx g (by simp[hg])
  refine ⟨m,xs++ys,by omega,?_,by simp only[List.flatMap_cons,List.length_append];omega⟩
  have:=fV.app pH
  rw[List.flatMap_cons]
  rw[h2] at this
  have e:(cs.drop n).take (m-n)=(cs.drop n).take (P.cellsOf f.type)++(cs.drop (n+P.cellsOf f.type)).take (m-(n+P.cellsOf f.type)):=by
   rw[show m-n=P.cellsOf f.type+(m-(n+P.cellsOf f.type)) by omega,List.take_add,List.drop_drop]
  rw[e]
  exact this
theorem O3 {rd:List Value→Option (DataW H × List MemPlace)} (cs:List Value) {e:TypeId} (hs:P.cellsOf e=(aL P e).length)
  (ih: ∀cs x,rd cs=some x→∃xs,mn P w (aL P e) cs xs): ∀(n:Nat),
  (∀i,i<n→∃x,rd ((cs.drop (i*P.cellsOf e)).take (P.cellsOf e))=some x)→∃xs,mn P w (List.replicate n (aL P e)).flatten (cs.take (n*P.cellsOf e)) xs
 | 0,_=>⟨[],by simp,rfl,by simp⟩
 | n+1,hx=>by
  obtain ⟨xs,fV⟩:=O3 cs hs ih n fun i hi=>hx i (by omega)
  obtain ⟨x,yn⟩:=hx n (by omega)
  obtain ⟨ys,pH⟩:=ih _ _ yn
  refine ⟨xs++ys,?_⟩
  rw[List.replicate_succ',List.flatten_append]
  have:=fV.app pH
  rw[Nat.add_mul,Nat.one_mul,List.take_add]
  simpa using this
theorem Db (hL:C8 P L=true): ∀(fuel:Nat) (t:TypeId) (cs:List Value) (x:DataW H × List MemPlace),t∈L→DataW.trod enc P w base spare held fuel t cs=some x→
  ∃xs,mn P w (aL P t) cs xs
 | 0,_,_,_,_,h=>by cases h
 | fuel+1,t,cs,x,ht,h=>by
  have hg:=List.all_eq_true.1 hL t ht
  unfold HS at hg
  rw[Bool.and_eq_true,Nat.beq_eq] at hg
  obtain ⟨hc,hg⟩:=hg
  have one:bt P t=false→aL P t=[t]:=fun h=>by simp[aL,h]
  cases hu:P.underlying t with
  | none=>rw[hu] at hg;cases hg
  | some d=>
   rw[hu] at hg
   cases d with
   | int k=>
    obtain ⟨n,rfl,rfl,Y4⟩:=DataW.trod_int hu h
    rw[one (by simp[bt,hu])]
    exact ⟨[.int k n],rfl,rfl,fun j t' hj=>by
     cases j with
     | zero=>cases hj;exact ⟨_,_,rfl,rfl,.int hu,.int hu Y4⟩
     | succ j=>simp at hj⟩
   | bool=>
    obtain ⟨b,rfl,rfl⟩:=DataW.trod_bool hu h
    rw[one (by simp[bt,hu])]
    exact ⟨[.bool b],rfl,rfl,fun j t' hj=>by
     cases j with
     | zero=>cases hj;exact ⟨_,_,rfl,rfl,.bool hu,.bool hu⟩
     | succ j=>simp at hj⟩
   | string=>
    obtain ⟨s,rfl,rfl,hl⟩:=DataW.trod_string hu h
    rw[one (by simp[bt,hu])]
    exact ⟨[.str s.data.toList],rfl,rfl,fun j t' hj=>by
     cases j with
     | zero=>cases hj;exact ⟨_,_,rfl,rfl,.str hu rfl,.str hu (by simpa using hl)⟩
     | succ j=>simp at hj⟩
   | slice e=>
    simp only[Bool.and_eq_true] at hg
    obtain ⟨he,aq⟩:=hg
    rw[one (by simp[bt,hu])]
    have single: ∀v y,cs=[v]→Pure P w (ml w) t v y→WT P t y→∃xs,mn P w [t] cs xs:=by
     rintro v y rfl a b
     exact ⟨[y],rfl,rfl,fun j t' hj=>by
      cases j with
      | zero=>cases hj;exact ⟨_,_,rfl,rfl,a,b⟩
      | succ j=>simp at hj⟩
    rcases DataW.trod_slice hu h with ⟨rfl,rfl⟩|⟨a,len,cap,elems,rest,n,hn,rfl,rfl,hb,hl,hm,hlen,cz,_,_⟩
    ·exact single _ _ rfl (.nil hu) (.list hu (by simp) (by simp) (by simp))
    ·cases hn
     have gT:=(jt aq).2
     have MV:P.cellsOf e=(aL P e).length:=(fb aq).symm
     have key: ∀i,i<len→∃gG xs,w.cells? base (a.add (i*P.cellsOf e)) (P.cellsOf e)=some gG∧mn P w (aL P e) gG xs:=by
      intro i hi
      have h1:=cz i hi
      rw[List.getElem?_eq_getElem (by omega)] at h1
      obtain ⟨gG,h2,h3⟩:=Option.bind_eq_some_iff.1 h1
      obtain ⟨xs,fV⟩:=Db hL fuel e gG _ (C9 he) h3
      exact ⟨gG,xs,h2,fV⟩
     by_cases h0:len=0
     ·subst h0
      exact single _ _ rfl (.emp hu) (.list hu (by simp) (by simp) (by simp))
     ·have jQ:a.spot=none∧a.block<w.heap.size:=by
       obtain ⟨gG,xs,h2,_⟩:=key 0 (by omega)
       obtain ⟨_,h3,h4⟩:=World.cells?_some h2
       have h5:=h4 0 gT
       rw[List.getElem?_eq_getElem (by omega)] at h5
       have:=Y2 h5
       simpa[Addr.add] using this
      have hF: ∃(F:Nat→List Value) (X:Nat→List V),∀i,i<len→w.cells? base (a.add (i*P.cellsOf e)) (P.cellsOf e)=some (F i)∧mn P w (aL P e) (F i) (X i):=by
       refine ⟨fun i=>if hi:i<len then (key i hi).choose else [],fun i=>if hi:i<len then (key i hi).choose_spec.choose else [],fun i hi=> ?_⟩
       simp only[dif_pos hi]
       exact (key i hi).choose_spec.choose_spec
      obtain ⟨F,X,HU⟩:=hF
      have hx: ∀(i j:Nat) y t',((List.range len).map fun i=>cb P e (X i))[i]? =some y→(aL P e)[j]? =some t'→i<len∧∃v,(F i)[j]? =some v∧Pure P w (ml w) t' v (bz P e y j)∧WT P t' (bz P e y j):=by
       intro i j y t' hy hj
       have hi:i<len:=by
        have:=(List.getElem?_eq_some_iff.1 hy).1
        simpa using this
       refine ⟨hi,?_⟩
       simp[List.getElem?_range hi] at hy
       obtain ⟨c1,c2,c3⟩:=(HU i hi).2
       obtain ⟨v,z,d1,d2,d3,d4⟩:=c3 j t' hj
       have:bz P e y j=z:=by
        rw[←hy]
        unfold bz cb
        cases ha:bt P e with
        | true=>
         simp only[cond_true,V.cell]
         rw[su _ _ _ d2]
        | false=>
         simp only[cond_false]
         have:aL P e=[e]:=by simp[aL,ha]
         rw[this] at hj
         cases j with
         | zero=>rw[su _ _ _ d2]
         | succ j=>simp at hj
       rw[this]
       exact ⟨v,d1,d3,d4⟩
      have fI: ∀i j,i<len→j<P.cellsOf e→w.cell? ⟨a.block,a.off+(i*P.cellsOf e+j),none⟩=some ((F i).getD j undef):=by
       intro i j hi hj
       obtain ⟨h1,h2⟩:=HU i hi
       obtain ⟨_,h3,h4⟩:=World.cells?_some h1
       have h5:=h4 j hj
       rw[Go.Deep.add_add] at h5
       have e1:a.add (i*P.cellsOf e+j)=⟨a.block,a.off+(i*P.cellsOf e+j),none⟩:=by
        obtain ⟨b,o,s⟩:=a
        simp only at jQ
        rw[jQ.1]
        exact mb ..
       rw[e1] at h5
       rw[h5,List.getD_eq_getElem?_getD,List.getElem?_eq_getElem (by omega)]
       rfl
      have ha:a=⟨a.block,a.off,none⟩:=by
       obtain ⟨b,o,s⟩:=a
       simp only at jQ
       rw[jQ.1]
      refine single (.slice (some a) len cap) (.list e ((List.range len).map fun i=>cb P e (X i))) rfl ?_ ?_
      ·rw[ha]
       refine .list (fun i j=>(F i).getD j undef) hu (by simp) hl (fun _=>jQ.2) fI ?_
       intro i j y t' hy hj
       obtain ⟨hi,v,d1,d2,_⟩:=hx i j y t' hy hj
       rw[List.getD_eq_getElem?_getD,d1]
       exact d2
      ·refine .list hu (by simp;omega) ?_ ?_
       ·intro i y hy Dc
        have hi:i<len:=by
         have:=(List.getElem?_eq_some_iff.1 hy).1
         simpa using this
        simp[List.getElem?_range hi] at hy
        rw[←hy]
        exact ⟨X i,by simp[cb,Dc],(HU i hi).2.2.1⟩
       ·intro i j y t' hy hj
        obtain ⟨_,v,_,_,d3⟩:=hx i j y t' hy hj
        exact d3
   | struct fs=>
    simp only[Bool.and_eq_true] at hg
    obtain ⟨xs,n,hn,rfl,hlen,jx,hx⟩:=DataW.trod_struct hu h
    cases hn
    have het:aL P t=fs.toList.flatMap fun f=>aL P f.type:=by
     rw[←HT hg.2]
     simp[aL,bt,hu]
    obtain ⟨m,ys,_,pH,hm⟩:=O2 (w:=w) (rd:=fun t cs=>DataW.trod enc P w base spare held fuel t cs) cs (fun t cs x a b=>Db hL fuel t cs x a b) fs.toList 0 hg.1 (by
     intro f hf
     obtain ⟨i,hi⟩:=List.getElem?_of_mem hf
     rw[Array.getElem?_toList] at hi
     have pt:i<fs.size:=(Array.getElem?_eq_some_iff.1 hi).1
     exact ⟨_,(hx i f hi).trans (List.getElem?_eq_getElem (by omega))⟩)
    rw[het]
    refine ⟨ys,?_⟩
    have:(cs.drop 0).take (m-0)=cs:=by
     rw[List.drop_zero,hm,←het,←hc,←hlen,List.take_length]
    rw[this] at pH
    exact pH
   | array n e=>
    simp only[Bool.and_eq_true,Nat.beq_eq] at hg
    obtain ⟨xs,m,hn,rfl,hlen,jx,hx⟩:=DataW.trod_array hu h
    cases hn
    have het:aL P t=(List.replicate n (aL P e)).flatten:=by
     rw[←HT hg.2.2]
     simp[aL,bt,hu]
    obtain ⟨ys,pH⟩:=O3 (w:=w) (rd:=DataW.trod enc P w base spare held fuel e) cs hg.2.1 (fun cs x b=>Db hL fuel e cs x (C9 hg.1) b) n (by
     intro i hi
     exact ⟨_,(hx i hi).trans (List.getElem?_eq_getElem (by omega))⟩)
    rw[het]
    refine ⟨ys,?_⟩
    have:cs.take (n*P.cellsOf e)=cs:=by
     have:n*P.cellsOf e=cs.length:=by
      rw[hlen,hc,het,hg.2.1]
      simp
     rw[this,List.take_length]
    rw[this] at pH
    exact pH
   | _=>cases hg
end
end Go.AM
namespace Go.AM
open Go.ChangeShapes Go.WideShapes Go.RowKit
section
variable {P:Program} {H:Type} {enc:TypeId × Value→H} {w:World} {L:List TypeId}
theorem Y5 {base HV:Nat} {spare:Nat→Bool} {held:Bool} {r:Reach} {β:Nat→Option Nat} {hp:Nat→Option ag} (hL:C8 P L=true) {t:TypeId} {v:Value} {d:DataW H} {ps:List MemPlace} (ht:t∈L) (eZ:Value.okWide P w r HV t v)
  (h:DataW.Trod enc P w base spare held t v d ps): ∃x,ah P w (ml w) β hp v x∧gh P t x:=by
 obtain ⟨fuel,hf⟩:=h
 obtain ⟨xs,c1,c2,c3⟩:=Db hL fuel t _ _ ht hf
 have hg:=List.all_eq_true.1 hL t ht
 unfold HS at hg
 rw[Bool.and_eq_true,Nat.beq_eq] at hg
 obtain ⟨_,hg⟩:=hg
 have Dc:bt P t=true→∃x,ah P w (ml w) β hp v x∧gh P t x:=by
  intro ha
  have hv: ∃cs,v= .agg cs:=by
   unfold Value.okWide at eZ
   unfold bt at ha
   split at eZ
   ·obtain ⟨cs,e,_⟩:=eZ;exact ⟨cs,e⟩
   ·obtain ⟨cs,e,_⟩:=eZ;exact ⟨cs,e⟩
   ·split at ha<;>simp_all
  obtain ⟨cs,rfl⟩:=hv
  refine ⟨.agg xs,.agg (by simpa[Value.cells] using c1.trans c2.symm) fun j v x hv hx=> ?_,fun _=>⟨xs,rfl,c2⟩,fun j t' hj=> ?_⟩
  ·have hj:j<(aL P t).length:=by rw[←c2];exact (List.getElem?_eq_some_iff.1 hx).1
   obtain ⟨v',y,e1,e2,e3,_⟩:=c3 j _ (List.getElem?_eq_getElem hj)
   rw[hx] at e2
   cases e2
   have:cs[j]? =some v':=by simpa[Value.cells] using e1
   rw[hv] at this
   cases this
   exact .o7 e3
  ·obtain ⟨v',y,e1,e2,_,e4⟩:=c3 j t' hj
   have:bz P t (.agg xs) j=y:=by
    simp only[bz,ha,cond_true,V.cell]
    exact su _ _ _ e2
   rw[this]
   exact e4
 have po:bt P t=false→v.cells= #[v]→∃x,ah P w (ml w) β hp v x∧gh P t x:=by
  intro ha sC
  have he:aL P t=[t]:=by simp[aL,ha]
  rw[he] at c1 c2 c3
  obtain ⟨v',y,e1,e2,e3,e4⟩:=c3 0 t rfl
  rw[sC] at e1
  cases e1
  refine ⟨y,.o7 e3,⟨fun h=>absurd (ha.symm.trans h) (by simp),fun j t' hj=> ?_⟩⟩
  rw[he] at hj
  cases j with
  | succ j=>simp at hj
  | zero=>
   cases hj
   simpa[bz,ha] using e4
 unfold Value.okWide at eZ
 cases hu:P.underlying t with
 | none=>rw[hu] at hg;cases hg
 | some Y6=>
  rw[hu] at hg eZ
  cases Y6 with
  | int k=>
   refine po (by simp[bt,hu]) ?_
   simp only[Cell.okWide,Cell.ok,hu] at eZ
   cases v<;>first|rfl|(simp at eZ;done)|exact eZ.elim
  | bool=>
   refine po (by simp[bt,hu]) ?_
   simp only[Cell.okWide,Cell.ok,hu] at eZ
   cases v<;>first|rfl|(simp at eZ;done)|exact eZ.elim
  | string=>
   refine po (by simp[bt,hu]) ?_
   simp only[Cell.okWide,Cell.ok,hu] at eZ
   cases v<;>first|rfl|(simp at eZ;done)|exact eZ.elim
  | slice e=>
   refine po (by simp[bt,hu]) ?_
   simp only[Cell.okWide,Cell.ok,hu] at eZ
   cases v<;>first|rfl|(simp at eZ;done)|exact eZ.elim
  | struct fs=>exact Dc (by simp[bt,hu])
  | array n e=>exact Dc (by simp[bt,hu])
  | _=>cases hg
theorem O4 {base HV:Nat} {spare:Nat→Bool} {held:Bool} {r:Reach} {β:Nat→Option Nat} {hp:Nat→Option ag} (hL:C8 P L=true): ∀{ts:List TypeId} {vs:List Value} {ds:List (DataW H)} {ps:List MemPlace},
  (∀t∈ts,t∈L)→(∀(j:Nat) t v,ts[j]? =some t→vs[j]? =some v→Value.okWide P w r HV t v)→DataW.TrodAll enc P w base spare held ts vs ds ps→
  ∃xs,vs.length=xs.length∧(∀(j:Nat) v x,vs[j]? =some v→xs[j]? =some x→ah P w (ml w) β hp v x)∧rQ P ts xs
 | [],vs,ds,ps,_,_,h=>by
  obtain ⟨rfl,rfl,rfl⟩:=trodAll_nil h
  exact ⟨[],rfl,by simp,trivial⟩
 | t::ts,vs,ds,ps,hm,eZ,h=>by
  obtain ⟨v,BN,d,O5,a,b,rfl,rfl,rfl,h1,h2⟩:=trodAll_cons h
  obtain ⟨x,yn,me⟩:=Y5 (β:=β) (hp:=hp) hL (hm t (by simp)) (eZ 0 t v rfl rfl) h1
  obtain ⟨xs,hl,hr,hw⟩:=O4 (β:=β) (hp:=hp) hL (fun t ht=>hm t (by simp[ht])) (fun j t v a b=>eZ (j+1) t v (by simpa using a) (by simpa using b)) h2
  refine ⟨x::xs,by simp[hl],fun j v' x' hv hx=> ?_,me,hw⟩
  cases j with
  | zero=>cases hv;cases hx;exact yn
  | succ j=>exact hr j v' x' (by simpa using hv) (by simpa using hx)
theorem O6 {base:Nat} {spare:Nat→Bool} {held:Bool}: ∀{ts:List TypeId} {vs:List Value} {ds:List (DataW H)} {ps:List MemPlace},DataW.TrodAll enc P w base spare held ts vs ds ps→ds.length=ts.length
 | [],vs,ds,ps,h=>by obtain ⟨rfl,rfl,rfl⟩:=trodAll_nil h;rfl
 | t::ts,vs,ds,ps,h=>by
  obtain ⟨v,BN,d,O5,a,b,rfl,rfl,rfl,h1,h2⟩:=trodAll_cons h
  simp[O6 h2]
theorem O7 {base:Nat} (hl:laidOutB P=true) {W W':World} {O8:Nat→Bool}: ∀{ts:List TypeId} {vs:List Value} {ds:List (DataW H)} {ps:List MemPlace},(∀t∈ts,P.readableRec t=true∧t<P.types.size)→
  DataW.TrodAll enc P W base (fun _=>true) true ts vs ds ps→(∀p∈ps,W.sameAt W' p)→(∀p∈ps,O8 p.block=true)→DataW.TrodAll enc P W' base O8 true ts vs ds ps
 | [],vs,ds,ps,_,h,_,_=>by obtain ⟨rfl,rfl,rfl⟩:=trodAll_nil h;exact trodAll_mk0
 | t::ts,vs,ds,ps,hr,h,h1,h2=>by
  obtain ⟨v,BN,d,O5,a,b,rfl,rfl,rfl,h3,h4⟩:=trodAll_cons h
  obtain ⟨r1,r2⟩:=hr t (by simp)
  exact trodAll_cons_mk (WideElems.Trod_stays hl r1 r2 h3 (fun p hp=>h1 p (by simp[hp])) (fun p hp=>h2 p (by simp[hp])))
   (O7 hl (fun t ht=>hr t (by simp[ht])) h4 (fun p hp=>h1 p (by simp[hp])) (fun p hp=>h2 p (by simp[hp])))
theorem Y7 {f:Func} {s:ChangeSpec} {apart fresh handsOn again:Bool} {W W':World} {args:Array Value} {v:Value} {ds gs:List (DataW H)} {before pa pv:List MemPlace}
  (hW:DataW.Whole enc P f.params.toList s.vars apart W args.toList ds gs before)
  (O9: ∀(b:Nat) (sp:Nat→Bool) (hd:Bool),DataW.TrodAll enc P W' b sp hd f.resultTypes.toList (v.resultList f.resultTypes.size) (s.fn H (ds++gs)).results [])
  (sU: ∀sp:Nat→Bool,(∀p∈before,sp p.block=true)→DataW.TrodAll enc P W' 0 sp true f.params.toList args.toList (s.fn H (ds++gs)).args pa)
  (Pb: ∀sp:Nat→Bool,(∀p∈before,sp p.block=true)→DataW.TrodVars enc P W' sp s.vars (s.fn H (ds++gs)).vars pv)
  (Dd:before=pa++pv) (hk:W.keptBut W' (· ∈before)) (Pc: ∀a:Addr,a.block<W.heap.size→W'.frozen? a=W.frozen? a)
  (aq: ∀(j:Nat) (t:TypeId) (r:Value),f.resultTypes[j]? =some t→(v.resultList f.resultTypes.size)[j]? =some r→Value.okWide P W' .any 0 t r):
  s.post enc P f apart fresh handsOn again W args v W':=by
 have hold: ∀p∈before,(fun b=>decide (b<W.heap.size)) p.block=true:=fun p hp=>by simpa using hW.lt p hp
 refine ⟨ds,gs,before,[],pa,pv,hW,O9 _ _ _,sU _ hold,Pb _ hold,World.keptBut_mono (fun p hp=>⟨hp,?_⟩) hk,fun _=> ?_⟩
 ·rw[Dd,List.mem_append] at hp
  exact Or.inr hp
 ·have aK:=hW.lt
  obtain ⟨_,_,_,_,_,hz,hn⟩:=hW
  refine ⟨aq,_,_,([]++pa)++pv,⟨[]++pa,pv,trodAll_append (sU _ (fun _ _=>rfl)) (O9 _ _ _),Pb _ (fun _ _=>rfl),rfl,?_,?_⟩,?_⟩
  ·intro b off hp
   have hb:MemPlace.cell b off∈before:=by rw[Dd];simpa using hp
   rw[Pc ⟨b,off,none⟩ (aK _ hb)]
   exact hz b off hb
  ·intro ha
   have:=hn ha
   rw[Dd] at this
   simpa using this
  ·intro p hp _
   rw[Dd]
   simpa using hp
theorem VB {A:ch} (hP:iC P A) (ot:P.follows .mixedOrders=true) {f key:Nat} {fn:Func} {tb:TypeId} {s:ChangeSpec} {apart fresh handsOn again:Bool}
  (hf:P.funcs[f]? =some fn) (Y8:A.aP key=f) (hL:C8 P L=true) (fc:fn.params.toList.all (fun t=>hasB L t)=true) (Pd:fn.resultTypes= #[tb]) (Pe:P.underlying tb=some .bool) (Pf:s.vars=[])
  (hs: ∀ds:List (DataW H),ds.length=fn.params.toList.length→s.fn H ds={results:=[.lit (.bool true)],args:=ds})
  (Y9:laidOutB P=true) (Za:fn.params.toList.all (fun t=>P.readableRec t&&Nat.blt t P.types.size)=true)
  (eM:(A.sin key).aO=[]) (aq:((A.sin key).bu.map (·.2)).all (VS.ok 0)=true) (Zb:(A.e6 key).bu=[(0,.one .bool)]) (halt:A.alt key=none)
  (Zc: ∀xs,rQ P fn.params.toList xs→∃ds,qx ((A.sin key).bu.map (·.2)) xs=some ds∧Call P A key ds=some [.bool true])
  {W:World} {base:Nat} {args:Array Value} {ds gs:List (DataW H)} {before:List MemPlace}
  (Zd:gk P A.aB W (ml W)) (eZ: ∀(j:Nat) t v,fn.params[j]? =some t→args[j]? =some v→Value.okWide P W .any base t v)
  (hW:DataW.Whole enc P fn.params.toList s.vars apart W args.toList ds gs before):
  Calls P f args W fun e W'=> ∃v,e= .returned v∧s.post enc P fn apart fresh handsOn again W args v W':=by
 have Pg:=hW
 obtain ⟨p,q,hA,hV,rfl,Pc,jy⟩:=hW
 rw[Pf] at hV
 obtain ⟨Ze,hq⟩:gs=[]∧q=[]:=by
  cases gs with
  | nil=>exact ⟨rfl,hV⟩
  | cons g gs=>exact hV.elim
 subst Ze
 subst hq
 obtain ⟨xs,hl,hr,Zf⟩:=O4 (β:=fun _=>none) (hp:=fun _=>none) hL (fun t ht=>C9 (List.all_eq_true.1 fc t ht)) (fun j t v a b=>eZ j t v (by simpa using a) (by simpa using b)) hA
 obtain ⟨ls,Zg,yl⟩:=Zc xs Zf
 obtain ⟨fn',c,h1,h2,h3⟩:=YY (A:=A) hP ot key ls [.bool true] yl
 rw[Y8] at h1 h3
 rw[hf] at h1
 cases h1
 have vj: ∀j,(aV (A.sin key) ls).hp j=none:=fun j=>by simp[aV,mk,eM,eu,iL]
 obtain ⟨_,r1,r2⟩:=yc (P:=P) (w:=W) (I:=ml W) (n:=0) (β:=fun _=>none) (aj:=fun _=>none) (hp:=fun _=>none) (hp':=(aV (A.sin key) ls).hp) (fun j hj=>absurd hj (Nat.not_lt_zero j)) Zg aq
 have hlen:((A.sin key).bu.map (·.2)).length=xs.length:=by rw[←r1 [],HQ]
 have h4:=h3 W (ml W) (fun _=>none) args.toList ⟨fun id blk h=>(by rw[vj] at h;cases h),fun id az blk blk' b h=>(by rw[vj] at h;cases h),fun id blk b h=>(by rw[vj] at h;cases h),fun b h=>h⟩ Zd
  (by rw[hl,←hlen,List.length_map]) (fun j v y hv hy=>r2 [] j v y (fun x hx=>hr j v x hv hx) (by rw[List.append_nil];exact hy))
 have ea:args.toList.toArray=args:=by simp
 rw[ea] at h4
 refine h4.mono fun e W' ⟨v,I2,bL,he,ha⟩=>⟨v,he,?_⟩
 have sy: ∀b,b<W.heap.size→W'.heap[b]? =W.heap[b]? :=fun b hb=>ha.va.bU b hb (by rintro ⟨j,blk,hj,_⟩;rw[vj] at hj;cases hj)
 have Ha:=ha.res
 have Ph:A.so key [.bool true]=A.e6 key∧A.lv key [.bool true]=[.bool true]:=by unfold ch.so ch.lv;rw[halt];exact ⟨rfl,rfl⟩
 rw[Ph.1,Ph.2,Zb] at Ha
 obtain rfl:v= .bool true:=Ha.iR
 have ko:Value.okWide P W' .any 0 tb (.bool true):=by simp[Value.okWide,Pe,Cell.okWide,Cell.ok]
 have ka:ds.length=fn.params.toList.length:=O6 hA
 have gZ: ∀p'∈p++[],W.sameAt W' p':=by
  intro p' hp'
  have aK:=Pg.lt p' hp'
  cases p' with
  | cell b o=>exact World.cell?_of_block (w:=W) (sy b aK)
  | map b=>exact sy b aK
 refine Y7 (pa:=p) (pv:=[]) Pg ?_ ?_ ?_ rfl ?_ ?_ ?_
 ·intro b sp hd
  rw[List.append_nil,hs ds ka,Pd]
  exact trodAll_mk1 ⟨1,by simp[DataW.trod,Value.cells,Pe]⟩
 ·intro sp jQ
  rw[List.append_nil,hs ds ka]
  refine O7 Y9 (fun t ht=> ?_) hA (fun p' hp'=>gZ p' (by simpa using hp')) (fun p' hp'=>jQ p' (by simpa using hp'))
  have:=List.all_eq_true.1 Za t ht
  simp only[Bool.and_eq_true] at this
  exact ⟨this.1,by simpa[Nat.blt_eq] using this.2⟩
 ·intro sp jQ
  rw[Pf,List.append_nil,hs ds ka]
  exact rfl
 ·refine ⟨ha.va.io.1,ha.va.io.2,fun i hi=> ?_⟩
  rw[sy i hi]
  split<;>simp_all
 ·intro a aK
  exact World.frozen?_of_block (w:=W) (sy a.block aK)
 ·intro j t r hj HW
  rw[Pd] at hj HW
  cases j with
  | zero=>
   simp[Value.resultList] at hj HW
   subst hj
   subst HW
   exact ko
  | succ j=>simp at hj
end
end Go.AM
namespace Go.AM
@[simp] theorem V.toInt_int (k:IntKind) (n:Int):V.toInt (.int k n)=n:=by cases k<;>rfl
@[simp] theorem V.lu (b:Bool):V.toBool (.bool b)=b:=by cases b<;>rfl
@[simp] theorem V.ahw (s:List UInt8):V.toStr (.str s)=s:=by cases s<;>rfl
@[simp] theorem V.ou (e:TypeId) (es:List V):V.toList (.list e es)=es:=by cases es<;>rfl
@[simp] theorem V.ahx (e:TypeId) (es:List V):V.toList (.own e es)=es:=by cases es<;>rfl
@[simp] theorem V.Zh (cs:List V) (j:Nat):V.cell (.agg cs) j=V.nth cs j:=by cases cs<;>rfl
@[simp] theorem V.ahy (cs:List V) (j:Nat):V.comp (.aS cs) j=V.nth cs j:=by cases cs<;>rfl
@[simp] theorem V.bS (x:V) (l:List V):V.nth (x::l) 0=x:=by cases l<;>rfl
@[simp] theorem V.pI (x:V) (l:List V) (n:Nat):V.nth (x::l) (n+1)=V.nth l n:=by cases l<;>rfl
@[simp] theorem V.ahz (x y:V) (l:List V):V.nth (x::y::l) 1=y:=by cases l<;>rfl
@[simp] theorem V.ahA (x y z:V) (l:List V):V.nth (x::y::z::l) 2=z:=by cases l<;>rfl
@[simp] theorem V.ahB (x y z u:V) (l:List V):V.nth (x::y::z::u::l) 3=u:=by cases l<;>rfl
theorem wrap64 {x:Int} (h1: -9223372036854775808≤x) (h2:x<9223372036854775808):IntKind.wrap .i64 x=x:=by
 rw[IntKind.wrap_i64];omega
theorem HX {x:Int} (h1:0≤x) (h2:x<256):IntKind.wrap .u8 x=x:=by
 rw[IntKind.wrap_u8];omega
theorem HY {es:List V} {i:Int} {n:Nat} (h:i=n):idx es i=es[n]? :=by
 subst h;simp[idx]
theorem Zi {α:Type} {f:α→V} {l:List α} {i:Int} {n:Nat} (h:i=n) (hn:n<l.length):idx (l.map f) i=some (f l[n]):=by
 rw[HY h];simp[hn]
@[simp] theorem De (es:List V) (n:Nat):idx es (n:Int)=es[n]? :=by simp[idx]
section
variable {X R:Type} {step:X→Option (X ⊕ R)}
theorem Pj (Inv:X→Prop) (μ:X→Nat) (Q:R→Prop)
  (h: ∀x,Inv x→(∃y,step x=some (.inl y)∧Inv y∧μ y<μ x)∨∃r,step x=some (.inr r)∧Q r):
  ∀x,Inv x→∃r,Loop step x=some r∧Q r:=by
 intro x
 induction hm:μ x using Nat.strongRecOn generalizing x with
 | ind m ih=>
  intro hx
  rcases h x hx with ⟨y,h1,h2,h3⟩|⟨r,h1,h2⟩
  ·obtain ⟨r,h4,h5⟩:=ih (μ y) (by omega) y rfl h2
   exact ⟨r,(dI h1).trans h4,h5⟩
  ·exact ⟨r,bO h1,h2⟩
theorem Dg (s:Nat→X) (n:Nat) {r:R} (h: ∀i,i<n→step (s i)=some (.inl (s (i+1)))) (he:step (s n)=some (.inr r)):Loop step (s 0)=some r:=by
 induction n generalizing s with
 | zero=>exact bO he
 | succ n ih=>
  rw[dI (h 0 (by omega))]
  exact ih (fun i=>s (i+1)) (fun i hi=>h (i+1) (by omega)) he
end
@[simp] theorem aE {α:Type} (p:Prop) [Decidable p] (a b:α):(bif decide p then a else b)=if p then a else b:=by by_cases h:p<;>simp[h]
@[simp] theorem pJ {α:Type} (m n:Int) (a b:α):(bif m==n then a else b)=if m=n then a else b:=by
 by_cases h:m=n
 ·simp[h]
 ·have:(m==n)=false:=by simp[h]
  rw[this,if_neg h];rfl
@[simp] theorem rh {α:Type} (m n:Int) (a b:α):(bif m != n then a else b)=if m=n then b else a:=by
 by_cases h:m=n
 ·simp[h]
 ·have:(m != n)=true:=by simp[h]
  rw[this,if_neg h];rfl
@[simp] theorem fX {α:Type} (c:Bool) (a b:α):(bif !c then a else b)=bif c then b else a:=by cases c<;>rfl
@[simp] theorem HZ {α:Type} (m n:Nat) (a b:α):(bif Nat.ble m n then a else b)=if m≤n then a else b:=by
 cases hb:Nat.ble m n with
 | true=>rw[if_pos (Nat.le_of_ble_eq_true hb)];rfl
 | false=>
  rw[if_neg fun h=> ?_]
  ·rfl
  ·rw[Nat.ble_eq_true_of_le h] at hb;cases hb
@[simp] theorem dG {α:Type} (c d:Bool) (a b:α):(bif c&&d then a else b)=bif c then (bif d then a else b) else b:=by cases c<;>rfl
end Go.AM
namespace Go.AM
section
variable {P:Program}
def Pk (P : Program) : Bool := P.funcs.all fun fn => !(fn.name == "runtime.NumGoroutine")
theorem Zj (h:Pk P=true):vd P:=by
 intro f fn hf
 unfold Pk at h
 have:=(Array.all_eq_true_iff_forall_mem.1 h) fn (Array.mem_of_getElem? hf)
 simpa using this
theorem FY {t:TypeId} {ts:List TypeId} {xs:List V} (h:rQ P (t::ts) xs): ∃x ys,xs=x::ys∧gh P t x∧rQ P ts ys:=by
 cases xs with
 | nil=>exact h.elim
 | cons x ys=>exact ⟨x,ys,rfl,h.1,h.2⟩
theorem Vx {xs:List V} (h:rQ P [] xs):xs=[]:=by
 cases xs with
 | nil=>rfl
 | cons x ys=>exact h.elim
theorem gh.one {t:TypeId} {x:V} (ha:bt P t=false) (h:gh P t x):WT P t x:=by
 have he:aL P t=[t]:=by simp[aL,ha]
 have:=h.2 0 t (by rw[he];rfl)
 simpa[bz,ha] using this
theorem WT.dV {t:TypeId} {k:IntKind} {x:V} (hu:P.underlying t=some (.int k)) (h:WT P t x): ∃n,x= .int k n∧k.min≤n∧n≤k.max:=by
 cases h with
 | int h1 h2=>
  rw[hu] at h1
  cases h1
  simp only[Lit.wf,Bool.and_eq_true,decide_eq_true_eq] at h2
  exact ⟨_,rfl,h2⟩
 | bool h1=>rw[hu] at h1;cases h1
 | str h1=>rw[hu] at h1;cases h1
 | list h1=>rw[hu] at h1;cases h1
theorem WT.iR {t:TypeId} {x:V} (hu:P.underlying t=some .bool) (h:WT P t x): ∃b,x= .bool b:=by
 cases h with
 | int h1=>rw[hu] at h1;cases h1
 | bool h1=>exact ⟨_,rfl⟩
 | str h1=>rw[hu] at h1;cases h1
 | list h1=>rw[hu] at h1;cases h1
theorem WT.lb {t:TypeId} {x:V} (hu:P.underlying t=some .string) (h:WT P t x): ∃s,x= .str s∧s.length≤maxLen:=by
 cases h with
 | int h1=>rw[hu] at h1;cases h1
 | bool h1=>rw[hu] at h1;cases h1
 | str h1 h2=>exact ⟨_,rfl,h2⟩
 | list h1=>rw[hu] at h1;cases h1
theorem WT.H0 {t e:TypeId} {x:V} (hu:P.underlying t=some (.slice e)) (h:WT P t x): ∃es,x= .list e es∧es.length≤maxLen∧∀y∈es,gh P e y:=by
 cases h with
 | int h1=>rw[hu] at h1;cases h1
 | bool h1=>rw[hu] at h1;cases h1
 | str h1=>rw[hu] at h1;cases h1
 | list h1 h2 h3 h4=>
  rw[hu] at h1
  cases h1
  refine ⟨_,rfl,h2,fun y hy=> ?_⟩
  obtain ⟨i,hi⟩:=List.getElem?_of_mem hy
  exact ⟨h3 i y hi,fun j t' hj=>h4 i j y t' hi hj⟩
theorem gh.jO {t:TypeId} {x:V} (ha:bt P t=true) (h:gh P t x): ∃xs,x= .agg xs∧xs.length=(aL P t).length∧∀(j:Nat) t' y,(aL P t)[j]? =some t'→xs[j]? =some y→WT P t' y:=by
 obtain ⟨xs,rfl,hl⟩:=h.1 ha
 refine ⟨xs,rfl,hl,fun j t' y hj hy=> ?_⟩
 have:=h.2 j t' hj
 simp only[bz,ha,cond_true,V.Zh] at this
 rw[su _ _ _ hy] at this
 exact this
theorem Pl {α:Type} {f:α→V}: ∀{es:List V},(∀y∈es,∃a,y=f a)→∃l:List α,es=l.map f
 | [],_=>⟨[],rfl⟩
 | y::es,h=>by
  obtain ⟨a,rfl⟩:=h y (by simp)
  obtain ⟨l,rfl⟩:=Pl (f:=f) (es:=es) fun z hz=>h z (by simp[hz])
  exact ⟨a::l,rfl⟩
theorem H2 {α:Type} {f:α→V} {p:α→Prop}: ∀{es:List V},(∀y∈es,∃a,y=f a∧p a)→∃l:List α,es=l.map f∧∀a∈l,p a
 | [],_=>⟨[],rfl,by simp⟩
 | y::es,h=>by
  obtain ⟨a,rfl,ha⟩:=h y (by simp)
  obtain ⟨l,rfl,hl⟩:=H2 (f:=f) (p:=p) (es:=es) fun z hz=>h z (by simp[hz])
  exact ⟨a::l,rfl,by
   intro b hb
   rcases List.mem_cons.1 hb with rfl|hb
   ·exact ha
   ·exact hl b hb⟩
theorem gh.int {t:TypeId} {x:V} (hu:P.underlying t=some (.int .i64)) (h:gh P t x): ∃n,x= .int .i64 n∧IntKind.min .i64≤n∧n≤IntKind.max .i64:=
 (h.one (by simp[bt,hu])).dV hu
theorem gh.str {t:TypeId} {x:V} (hu:P.underlying t=some .string) (h:gh P t x): ∃s,x= .str s∧s.length≤maxLen:=
 (h.one (by simp[bt,hu])).lb hu
end
end Go.AM
namespace Go.AM
def un.{u} {A B:Type} {γ:Sort u} (f:A→B→γ) (p:A × B):γ:=f p.1 p.2
def cO {A B γ:Type} (f:A→γ) (g:B→γ):A ⊕ B→γ
 | .inl a=>f a
 | .inr b=>g b
def ao:List Nat→Code→Code
 | [],c=>c
 | 0::p,.seq a _=>ao p a
 | _::p,.seq _ b=>ao p b
 | 0::p,.cond _ a _=>ao p a
 | _::p,.cond _ _ b=>ao p b
 | _::p,.block _ c=>ao p c
 | _::p,.loop c=>ao p c
 | _,c=>c
inductive cl where
 | loop (c:Code)
 | cond (t:Nat) (x y:Code)
section
variable (P:Program) (A:ch) (C:ae) (L:cq) (f n m:Nat)
def ov:Code→List cl
 | .seq a b=>ov a++ov b
 | .cond (.tmp t) x y=>
  match A.fQ f (t*16+15) with
  | none=>ov x++ov y
  | some _=>[.cond t x y]
 | .cond (.const _) x y=>ov x++ov y
 | .block _ c=>ov c
 | .loop c=>[.loop c]
 | _=>[]
def cm:cl→Prop
 | .loop c=>
  match A.fQ f (keyOf c+1) with
  | none=>True
  | some S=> ∀(β:Type) ds (k:Nat→List V→Option β),L β (keyOf c+1) ds k=(Loop (stepG P A C f n m S c) ds).bind fun r=>k r.1 r.2
 | .cond t x y=>
  match A.fQ f (t*16+15) with
  | none=>True
  | some S=> ∀(β:Type) ds (k:Nat→List V→Option β),L β (t*16+15) ds k=(xp P A C f n m t S x y ds).bind fun r=>k r.1 r.2
def mo:List cl→Prop
 | []=>True
 | b::l=>cm P A C L f n m b∧mo l
variable {P A C L f n m}
theorem mo.left {a b:List cl}:mo P A C L f n m (a++b)→mo P A C L f n m a:=by
 induction a with
 | nil=>exact fun _=>trivial
 | cons x a ih=>exact fun h=>⟨h.1,ih h.2⟩
theorem mo.right {a b:List cl}:mo P A C L f n m (a++b)→mo P A C L f n m b:=by
 induction a with
 | nil=>exact fun h=>h
 | cons x a ih=>exact fun h=>ih h.2
theorem aT: ∀{c:Code} {bs:List cl},ov A f c=bs→mo P A C L f n m bs→gD P A C L f n m c:=by
 intro c
 induction c with
 | seq a b Gm Gn=>
  intro bs h hb
  subst h
  exact ⟨Gm rfl hb.left,Gn rfl hb.right⟩
 | cond c x y fp fq=>
  intro bs h hb
  subst h
  cases c with
  | tmp t=>
   simp only[ov] at hb
   simp only[gD]
   cases hs:A.fQ f (t*16+15) with
   | none=>
    rw[hs] at hb
    exact ⟨fp rfl hb.left,fq rfl hb.right⟩
   | some S=>
    rw[hs] at hb
    have:=hb.1
    simp only[cm,hs] at this
    exact this
  | const v=>exact ⟨fp rfl hb.left,fq rfl hb.right⟩
  | _=>trivial
 | block id c ih=>
  intro bs h hb
  subst h
  exact ih rfl hb
 | loop c ih=>
  intro bs h hb
  subst h
  exact hb.1
 | _=>intro bs h hb;trivial
variable (P A C L f n m) in
noncomputable def H3 {β:Type} (t:Nat) (S:Shape × List (Out × Shape)) (x y:Code) (ds:List V) (k:Nat→List V→Option β):Option β:=
 let kc:Out→St→Option β:=fun o st=>
  match o with
  | .norm=>(ways m 0 S.2 (.norm,canon m (A.join f t) st)).bind fun e=>k e.1 e.2
  | o=>(ways m 0 S.2 (o,st)).bind fun e=>k e.1 e.2
 match (aV S.1 ds).sl t with
 | .bool b=>bif b then gC P A C L f n m x (aV S.1 ds) kc else gC P A C L f n m y (aV S.1 ds) kc
 | _=>none
theorem Zk {t:Nat} {x y:Code} {S:Shape × List (Out × Shape)} (hS:A.fQ f (t*16+15)=some S) (hx:gD P A C L f n m x) (hy:gD P A C L f n m y) {I R:Type} (enc:I→List V) (lx:I→R→Nat × List V)
  (de:List V→I) (body:I→(β:Type)→(R→Option β)→Option β) (s8: ∀ds,aV S.1 (enc (de ds))=aV S.1 ds)
  (e1: ∀i (β:Type) (k:Nat→List V→Option β),H3 P A C L f n m t S x y (enc i) k=body i β (fun r=>k (lx i r).1 (lx i r).2))
  (hl: ∀(β:Type) ds (k:Nat→List V→Option β),L β (t*16+15) ds k=body (de ds) β (fun r=>k (lx (de ds) r).1 (lx (de ds) r).2)):
  cm P A C L f n m (.cond t x y):=by
 simp only[cm,hS]
 intro β ds k
 rw[hl,←e1]
 unfold H3 xp
 rw[s8]
 simp only
 have hk: ∀(z:Option (Out × St)),(z.bind fun r=>(match r.1 with
   | .norm=>(ways m 0 S.2 (.norm,canon m (A.join f t) r.2)).bind fun e=>k e.1 e.2
   | o=>(ways m 0 S.2 (o,r.2)).bind fun e=>k e.1 e.2))=((z.bind fun r=>
   match r.1 with
   | .norm=>some (Out.norm,canon m (A.join f t) r.2)
   | _=>some r).bind fun r=>ways m 0 S.2 r).bind fun r=>k r.1 r.2:=by
  intro z
  cases z with
  | none=>rfl
  | some r=>obtain ⟨o,st⟩:=r;cases o<;>rfl
 cases (aV S.1 ds).sl t with
 | bool b=>
  cases b with
  | true=>simp only[cond_true,BL P A C f n m x hx];exact hk _
  | false=>simp only[cond_false,BL P A C f n m y hy];exact hk _
 | _=>rfl
theorem bm {b:cl} {l:List cl} (h:cm P A C L f n m b) (h2:mo P A C L f n m l):mo P A C L f n m (b::l):=⟨h,h2⟩
theorem au:mo P A C L f n m []:=trivial
theorem bj {key:Nat} {bs:List cl} (hb:ov A key (cy P (A.aP key))=bs) (ht:mo P A (Call P A) L key (cE P (A.aP key)) (A.sin key).aO.length bs) {ds:List V} {r:Option (List V)}
  (h:Gp P A (Call P A) L key ds=r):Call P A key ds=r:=by
 rw[Y1,VK P A (Call P A) key (aT hb ht),h]
end
end Go.AM
namespace Go.AM
section
variable (P:Program) (A:ch)
def gI (C:ae) (N f n m:Nat):Code→St→Option (Out × St)
 | .skip,st=>some (.norm,st)
 | .region id ops draw,st=>(uC P (A.here f id) C n ops draw st).bind fun st'=>some (.norm,canon m (A.live f id) (freeze m (A.pur f id) st'))
 | .seq a b,st=>(gI C N f n m a st).bind fun r=>
  match r.1 with
  | .norm=>gI C N f n m b r.2
  | _=>some r
 | .cond (.tmp t) x y,st=>
  let go (st:St):Option (Out × St):=
   match st.sl t with
   | .bool b=>(bif b then gI C N f n m x st else gI C N f n m y st).bind fun r=>
    match r.1 with
    | .norm=>some (.norm,canon m (A.join f t) r.2)
    | _=>some r
   | _=>none
  match A.fQ f (t*16+15) with
  | none=>go st
  | some S=>(gR m S.1 st).bind fun ds=>((go (aV S.1 ds)).bind fun r=>ways m 0 S.2 r).bind fun e=>jo 0 S.2 e.1 e.2 fun o st=>some (o,st)
 | .cond (.const (.bool b)) x y,st=>bif b then gI C N f n m x st else gI C N f n m y st
 | .block id c,st=>(gI C N f n m c st).bind fun r=>
  match r.1 with
  | .norm=>some (.norm,canon m (A.blk f id) r.2)
  | .exit az=>bif Nat.beq az id then some (.norm,canon m (A.blk f id) r.2) else some r
  | .ret=>some r
 | .loop c,st=>
  match A.fQ f (keyOf c+1) with
  | none=>none
  | some S=>(gR m S.1 st).bind fun ds=>(ep (fun ds=>jL m S.1 S.2 (gI C N f n m c (aV S.1 ds))) N ds).bind fun e=>jo 0 S.2 e.1 e.2 fun o st=>some (o,st)
 | .exit id,st=>some (.exit id,st)
 | .ret,st=>some (.ret,st)
 | _,_=>none
def H4 (C:ae) (N f:Nat) (ds:List V):Option (List V):=
 match P.funcs[A.aP f]? with
 | none=>none
 | some fn=>
  match fn.body with
  | none=>none
  | some c=>bif gB 0 (A.sin f).bu&&(Nat.ble (A.sin f).bu.length fn.ntmps&&((A.sin f).ok&&(gB 0 (A.e6 f).bu&&(Nat.beq (A.e6 f).bu.length fn.results.size&&mX (kV (A.sin f).aO.length (A.mv f)))))) then
    (gI P A C N f fn.ntmps (A.sin f).aO.length c (xo A f ds)).bind fun r=>
     match r.1 with
     | .exit _=>none
     | _=>((rZ P A f fn (A.sin f).aO.length r.2).run C r.2.hp).map (·.1)
   else none
def Dh (N:Nat):Nat→ae
 | 0=>fun _ _=>none
 | n+1=>H4 P A (Dh N n) N
variable {P A}
theorem Pm {X R:Type} {s1 s2:X→Option (X ⊕ R)} (h: ∀x y,s1 x=some y→s2 x=some y): ∀(n:Nat) (x:X) (r:R),ep s1 n x=some r→ep s2 n x=some r
 | 0,x,r,e=>by cases e
 | n+1,x,r,e=>by
  simp only[ep] at e⊢
  obtain ⟨y,h1,h2⟩:=bind_some e
  rw[h x y h1]
  cases y with
  | inl z=>exact Pm h n z r h2
  | inr q=>exact h2
theorem Zl {C:ae} {N f n m:Nat}: ∀(c:Code) {st:St} {r:Out × St},gI P A C N f n m c st=some r→exec P A C f n m c st=some r:=by
 intro c
 induction c with
 | skip=>exact fun e=>e
 | exit id=>exact fun e=>e
 | ret=>exact fun e=>e
 | region id ops draw=>exact fun e=>e
 | seq x y fp fq=>
  intro st r e
  simp only[gI,exec] at e⊢
  obtain ⟨⟨o,s1⟩,h1,h2⟩:=bind_some e
  rw[fp h1]
  cases o with
  | norm=>exact fq h2
  | exit id=>exact h2
  | ret=>exact h2
 | cond c x y fp fq=>
  intro st r e
  cases c with
  | tmp t=>
   have go: ∀{st:St} {r:Out × St},(match st.sl t with
     | .bool b=>(bif b then gI P A C N f n m x st else gI P A C N f n m y st).bind fun r=>
      match r.1 with
      | .norm=>some (.norm,canon m (A.join f t) r.2)
      | _=>some r
     | _=>none)=some r→(match st.sl t with
     | .bool b=>(bif b then exec P A C f n m x st else exec P A C f n m y st).bind fun r=>
      match r.1 with
      | .norm=>some (.norm,canon m (A.join f t) r.2)
      | _=>some r
     | _=>none)=some r:=by
    intro st r e
    cases hs:st.sl t<;>rw[hs] at e<;>simp only at e⊢ <;>first|(cases e;done)|skip
    rename_i b
    obtain ⟨x1,h1,h2⟩:=bind_some e
    cases b with
    | true=>simp only[cond_true,fp h1,Option.bind_some];exact h2
    | false=>simp only[cond_false,fq h1,Option.bind_some];exact h2
   simp only[gI,exec] at e⊢
   split at e
   ·rename_i hS
    try rw[hS]
    exact go e
   ·rename_i S hS
    obtain ⟨ds,h1,h2⟩:=bind_some e
    obtain ⟨e',h3,h4⟩:=bind_some h2
    obtain ⟨r1,h5,h6⟩:=bind_some h3
    try rw[hS]
    simp only[h1,Option.bind_some]
    exact (congrArg (fun z:Option (Out × St)=>(z.bind fun r=>ways m 0 S.2 r).bind fun e=>jo 0 S.2 e.1 e.2 fun o st=>some (o,st)) (go h5)).trans (by simp only[Option.bind_some,h6];exact h4)
  | const v=>
   cases v with
   | bool b=>
    simp only[gI,exec] at e⊢
    cases b with
    | true=>exact fp e
    | false=>exact fq e
   | _=>simp only[gI] at e;cases e
  | _=>simp only[gI] at e;cases e
 | block id c ih=>
  intro st r e
  simp only[gI,exec] at e⊢
  obtain ⟨x1,h1,h2⟩:=bind_some e
  rw[ih h1]
  exact h2
 | loop c ih=>
  intro st r e
  simp only[gI,exec] at e⊢
  split at e
  ·cases e
  ·rename_i S hS
   obtain ⟨ds,h1,h2⟩:=bind_some e
   obtain ⟨e',h3,h4⟩:=bind_some h2
   try rw[hS]
   simp only[h1,Option.bind_some]
   rw[uj (Pm (s2:=fun ds=>jL m S.1 S.2 (exec P A C f n m c (aV S.1 ds))) (fun x y yv=>by
    unfold jL at yv⊢
    obtain ⟨z,h5,h6⟩:=bind_some yv
    rw[ih h5]
    exact h6) N ds e' h3)]
   exact h4
 | _=>intro st r e;simp only[gI] at e;cases e
theorem Zm {C:ae} {N f:Nat} {ds es:List V} (e:H4 P A C N f ds=some es):mZ P A C f ds=some es:=by
 unfold H4 at e
 unfold mZ
 cases hf:P.funcs[A.aP f]? with
 | none=>rw[hf] at e;cases e
 | some fn=>
  rw[hf] at e
  simp only at e⊢
  cases hb:fn.body with
  | none=>rw[hb] at e;cases e
  | some c=>
   rw[hb] at e
   simp only at e⊢
   cases hc:(gB 0 (A.sin f).bu&&(Nat.ble (A.sin f).bu.length fn.ntmps&&((A.sin f).ok&&(gB 0 (A.e6 f).bu&&(Nat.beq (A.e6 f).bu.length fn.results.size&&mX (kV (A.sin f).aO.length (A.mv f))))))) with
   | false=>rw[hc] at e;cases e
   | true=>
    rw[hc] at e
    simp only[cond_true] at e⊢
    obtain ⟨x,h1,h2⟩:=bind_some e
    rw[Zl c h1]
    exact h2
theorem Pn {N:Nat}: ∀n {f:Nat} {a r:List V},Dh P A N n f a=some r→jq P A n f a=some r
 | 0,f,a,r,h=>by cases h
 | n+1,f,a,r,h=>by
  obtain ⟨M,hM⟩:=C6 (C:=Dh P A N n) (D:=fun _=>jq P A n) (fun f a r h=>⟨0,fun _ _=>Pn n h⟩) (Zm h)
  exact hM M (Nat.le_refl _)
theorem Zn {N n f:Nat} {a r:List V} (h:Dh P A N n f a=some r):Call P A f a=some r:=yw.2 ⟨n,Pn n h⟩
end
end Go.AM
namespace Go.AM
inductive LK where
 | int (k:IntKind)
 | bool
 | str
 | list (e:TypeId)
 | nat
def LK.Ty:LK→Type
 | .int _=>Int
 | .bool=>Bool
 | .str=>List UInt8
 | .list _=>List V
 | .nat=>Nat
def LK.enc:(k:LK)→k.Ty→V
 | .int k,n=> .int k n
 | .bool,b=> .bool b
 | .str,s=> .str s
 | .list e,l=> .list e l
 | .nat,n=>dJ n
def LK.dec:(k:LK)→V→k.Ty
 | .int _,v=>v.toInt
 | .bool,v=>v.toBool
 | .str,v=>v.toStr
 | .list _,v=>v.toList
 | .nat,v=>jI v
theorem LK.Po: ∀(k:LK) (x:k.Ty),k.dec (k.enc x)=x
 | .int _,_=>rfl
 | .bool,_=>rfl
 | .str,_=>rfl
 | .list _,_=>rfl
 | .nat,_=>rfl
def H5:List Nat→List LK
 | []=>[]
 | _::l=> .nat::H5 l
def LS.ks:LS→List LK
 | .int k=>[.int k]
 | .bool=>[.bool]
 | .str=>[.str]
 | .list e=>[.list e]
 | .sub .. =>[.nat,.nat]
 | .ptr _=>[.nat,.nat]
 | .row _ _ cs=>H5 cs
 | .cg _ cs _=> .nat::H5 cs
 | _=>[]
def vk:List LS→List LK
 | []=>[]
 | l::ls=>l.ks++vk ls
def VS.ks:VS→List LK
 | .one l=>l.ks
 | .agg ls=>vk ls
 | .aS ls=>vk ls
 | .fn _ a b=>vk a++vk b
 | .pref _ ls=>vk ls
def Pp:List VS→List LK
 | []=>[]
 | l::ls=>l.ks++Pp ls
def BS.ks:BS→List LK
 | .var _ cs=>Pp cs
 | .arr e _=>[.list e]
 | .nest e=>[.list e]
 | .dead=>[]
 | .map t=>[.list t]
def Pq:List (Nat × VS)→List LK
 | []=>[]
 | p::l=>p.2.ks++Pq l
def Pr:List BS→List LK
 | []=>[]
 | b::l=>b.ks++Pr l
def Shape.ks (S:Shape):List LK:=Pq S.bu++Pr S.aO
def H6:List Nat→List V→List V
 | [],_=>[]
 | _::cs,ds=>dJ (jI (V.nth ds 0))::H6 cs (ds.drop 1)
def LS.norm:LS→List V→List V
 | .int k,ds=>[.int k (V.nth ds 0).toInt]
 | .bool,ds=>[.bool (V.nth ds 0).toBool]
 | .str,ds=>[.str (V.nth ds 0).toStr]
 | .list e,ds=>[.list e (V.nth ds 0).toList]
 | .sub ..,ds=>[dJ (jI (V.nth ds 0)),dJ (jI (V.nth ds 1))]
 | .ptr _,ds=>[dJ (jI (V.nth ds 0)),dJ (jI (V.nth ds 1))]
 | .row _ _ cs,ds=>H6 cs ds
 | .cg _ cs _,ds=>dJ (jI (V.nth ds 0))::H6 cs (ds.drop 1)
 | _,_=>[]
def vl:List LS→List V→List V
 | [],_=>[]
 | l::ls,ds=>l.norm ds++vl ls (ds.drop l.size)
def VS.norm:VS→List V→List V
 | .one l,ds=>l.norm ds
 | .agg ls,ds=>vl ls ds
 | .aS ls,ds=>vl ls ds
 | .fn _ a b,ds=>vl a ds++vl b (ds.drop (jm a))
 | .pref _ ls,ds=>vl ls ds
def Ps:List VS→List V→List V
 | [],_=>[]
 | l::ls,ds=>l.norm ds++Ps ls (ds.drop l.size)
def BS.norm:BS→List V→List V
 | .var _ cs,ds=>Ps cs ds
 | .arr e _,ds=>[.list e (V.nth ds 0).toList]
 | .nest e,ds=>[.list e (V.nth ds 0).toList]
 | .dead,_=>[]
 | .map t,ds=>[.list t (V.nth ds 0).toList]
def Pt:List (Nat × VS)→List V→List V
 | [],_=>[]
 | p::l,ds=>p.2.norm ds++Pt l (ds.drop p.2.size)
def Pu:List BS→List V→List V
 | [],_=>[]
 | b::l,ds=>b.norm ds++Pu l (ds.drop b.size)
def Shape.norm (S:Shape) (ds:List V):List V:=Pt S.bu ds++Pu S.aO (ds.drop (mW S.bu))
def s9:LK→List LK→Type
 | k,[]=>k.Ty
 | k,k'::ks=>k.Ty × s9 k' ks
def jz:List LK→Type
 | []=>Unit
 | k::ks=>s9 k ks
def ta:(k:LK)→(ks:List LK)→s9 k ks→List V
 | k,[],x=>[k.enc x]
 | k,k'::ks,x=>k.enc x.1::ta k' ks x.2
def jU:(ks:List LK)→jz ks→List V
 | [],_=>[]
 | k::ks,x=>ta k ks x
def yz:(k:LK)→(ks:List LK)→List V→s9 k ks
 | k,[],l=>k.dec (V.nth l 0)
 | k,k'::ks,l=>(k.dec (V.nth l 0),yz k' ks l.tail)
def nr:(ks:List LK)→List V→jz ks
 | [],_=>()
 | k::ks,l=>yz k ks l
theorem Pv: ∀(k:LK) (ks:List LK) (x:s9 k ks) (r:List V),yz k ks (ta k ks x++r)=x
 | k,[],x,r=>LK.Po k x
 | k,k'::ks,x,r=>by
  show (k.dec (k.enc x.1),yz k' ks (ta k' ks x.2++r))=x
  rw[LK.Po,Pv k' ks]
  rfl
def vm:List LK→Type 1→Type 1
 | [],R=>R
 | k::ks,R=>k.Ty→vm ks R
def Pw:(k:LK)→(ks:List LK)→{R:Type 1}→vm (k::ks) R→s9 k ks→R
 | _,[],_,f,x=>f x
 | _,k'::ks,_,f,x=>Pw k' ks (f x.1) x.2
def tc:(ks:List LK)→{R:Type 1}→vm ks R→jz ks→R
 | [],_,f,_=>f
 | k::ks,_,f,x=>Pw k ks f x
def vn {α:Type} (b:Bool):List Bool→List α→List α
 | [],_=>[]
 | _,[]=>[]
 | c::m,x::l=>bif c==b then x::vn b m l else vn b m l
def merge:List Bool→List V→List V→List V
 | [],_,_=>[]
 | true::m,i,x=>V.nth x 0::merge m i x.tail
 | false::m,i,x=>V.nth i 0::merge m i.tail x
def vo:List Nat→List LK→List LK
 | [],_=>[]
 | _,[]=>[]
 | 0::t,k::ks=>k::vo t ks
 | (_+1)::t,_::ks=>vo t ks
abbrev ff:=List Nat × List LK
def ff.fresh (w:ff):List LK:=vo w.1 w.2
def put:List Nat→List V→List V→List V
 | [],_,_=>[]
 | 0::t,ds,x=>V.nth x 0::put t ds x.tail
 | (j+1)::t,ds,x=>V.nth ds j::put t ds x
def td:List Nat→List V→List V
 | [],_=>[]
 | 0::t,l=>V.nth l 0::td t l.tail
 | (_+1)::t,l=>td t l.tail
def ri:ff→List ff→Type
 | w,[]=>jz w.fresh
 | w,w'::ws=>jz w.fresh ⊕ ri w' ws
def pK:List ff→Type
 | []=>Empty
 | w::ws=>ri w ws
def wN (ds:List V) {β:Type} (k:Nat→List V→Option β):Nat→(w:ff)→(ws:List ff)→ri w ws→Option β
 | j,w,[],r=>k j (put w.1 ds (jU w.fresh r))
 | j,w,w'::ws,r=>cO (fun x=>k j (put w.1 ds (jU w.fresh x))) (fun y=>wN ds k (j+1) w' ws y) r
def wT (ds:List V) {β:Type} (k:Nat→List V→Option β):(ws:List ff)→pK ws→Option β
 | [],r=>Empty.elim r
 | w::ws,r=>wN ds k 0 w ws r
def nt (ds:List V):Nat→(w:ff)→(ws:List ff)→ri w ws→Nat × List V
 | j,w,[],r=>(j,put w.1 ds (jU w.fresh r))
 | j,w,_::_,.inl x=>(j,put w.1 ds (jU w.fresh x))
 | j,_,w'::ws,.inr y=>nt ds (j+1) w' ws y
def vp (ds:List V):(ws:List ff)→pK ws→Nat × List V
 | [],r=>Empty.elim r
 | w::ws,r=>nt ds 0 w ws r
theorem Px (ds:List V) {β:Type} (k:Nat→List V→Option β): ∀(j:Nat) (w:ff) (ws:List ff) (r:ri w ws),wN ds k j w ws r=k (nt ds j w ws r).1 (nt ds j w ws r).2
 | _,_,[],_=>rfl
 | _,_,_::_,.inl _=>rfl
 | j,_,w'::ws,.inr y=>Px ds k (j+1) w' ws y
theorem Di (ds:List V) {β:Type} (k:Nat→List V→Option β): ∀(ws:List ff) (r:pK ws),wT ds k ws r=k (vp ds ws r).1 (vp ds ws r).2
 | [],r=>Empty.elim r
 | w::ws,r=>Px ds k 0 w ws r
def vq:Nat→(w:ff)→(ws:List ff)→List V→ri w ws
 | _,w,[],l=>nr w.fresh (td w.1 l)
 | 0,w,_::_,l=> .inl (nr w.fresh (td w.1 l))
 | j+1,_,w'::ws,l=> .inr (vq j w' ws l)
def Py (j:Nat):(ws:List ff)→List V→Option (pK ws)
 | [],_=>none
 | w::ws,l=>some (vq j w ws l)
def vr:List Nat→List V→List V
 | [],_=>[]
 | 0::t,x=>V.nth x 0::vr t x.tail
 | (_+1)::t,x=>vr t x
theorem H7: ∀(t:List Nat) (ds x:List V),td t (put t ds x)=vr t x
 | [],_,_=>rfl
 | 0::t,ds,x=>congrArg (V.nth x 0:: ·) (H7 t ds x.tail)
 | (_+1)::t,ds,x=>H7 t ds x
theorem H8: ∀(t:List Nat) (ks:List LK) (k:LK) (ow:List LK),vo t ks=k::ow→∀x:s9 k ow,∃r,vr t (ta k ow x)=ta k ow x++r
 | [],_,_,_,h,_=>by cases h
 | _::_,[],_,_,h,_=>by simp[vo] at h
 | 0::t,a::ks,k,ow,h,x=>by
  simp only[vo,List.cons.injEq] at h
  obtain ⟨rfl,h2⟩:=h
  cases ow with
  | nil=>exact ⟨vr t [],rfl⟩
  | cons k' ow=>
   obtain ⟨r,hr⟩:=H8 t ks k' ow h2 x.2
   exact ⟨r,congrArg (a.enc x.1:: ·) hr⟩
 | (_+1)::t,a::ks,k,ow,h,x=>H8 t ks k ow h x
theorem Pz (w:ff) (ds:List V) (x:jz w.fresh):nr w.fresh (td w.1 (put w.1 ds (jU w.fresh x)))=x:=by
 rw[H7]
 revert x
 generalize hf:w.fresh=f
 cases f with
 | nil=>intro x;rfl
 | cons k ks=>
  intro x
  obtain ⟨r,hr⟩:=H8 w.1 w.2 k ks hf x
  show yz k ks (vr w.1 (ta k ks x))=x
  rw[hr]
  exact Pv k ks x r
theorem PA (ds:List V): ∀(j:Nat) (w:ff) (ws:List ff) (r:ri w ws),j≤(nt ds j w ws r).1
 | _,_,[],_=>Nat.le_refl _
 | _,_,_::_,.inl _=>Nat.le_refl _
 | j,_,w'::ws,.inr y=>Nat.le_trans (Nat.le_succ j) (PA ds (j+1) w' ws y)
theorem Zo (w:ff) (l:List V): ∀j,vq j w [] l=nr w.fresh (td w.1 l)
 | 0=>rfl
 | _+1=>rfl
theorem PB (ds:List V): ∀(j:Nat) (w:ff) (ws:List ff) (r:ri w ws),vq ((nt ds j w ws r).1-j) w ws (nt ds j w ws r).2=r
 | j,w,[],r=>(Zo w _ _).trans (Pz w ds r)
 | j,w,w'::ws,.inl x=>by
  show vq (j-j) w (w'::ws) (put w.1 ds (jU w.fresh x))= .inl x
  rw[Nat.sub_self]
  exact congrArg Sum.inl (Pz w ds x)
 | j,w,w'::ws,.inr y=>by
  have h1:=PA ds (j+1) w' ws y
  have h2:=PB ds (j+1) w' ws y
  show vq ((nt ds (j+1) w' ws y).1-j) w (w'::ws) (nt ds (j+1) w' ws y).2= .inr y
  obtain ⟨d,hd⟩: ∃d,(nt ds (j+1) w' ws y).1=j+1+d:=⟨(nt ds (j+1) w' ws y).1-(j+1),by omega⟩
  rw[hd] at h2⊢
  rw[show j+1+d-(j+1)=d by omega] at h2
  rw[show j+1+d-j=d+1 by omega]
  exact congrArg Sum.inr h2
theorem Zp (ds:List V): ∀(ws:List ff) (r:pK ws),Py (vp ds ws r).1 ws (vp ds ws r).2=some r
 | [],r=>Empty.elim r
 | w::ws,r=>congrArg some (PB ds 0 w ws r)
section
variable {P:Program} {A:ch} {C:ae} {L:cq} {f n m:Nat}
theorem Zq {c:Code} {S:Shape × List (Out × Shape)} (hS:A.fQ f (keyOf c+1)=some S) (hL:gD P A C L f n m c) {I X R:Type} (enc:I→X→List V) (lx:I→R→Nat × List V)
  (ox:List V→I) (pL:List V→X) (Dj:Nat × List V→Option R) (body:I→X→(β:Type)→(X→Option β)→(R→Option β)→Option β)
  (s8: ∀ds,aV S.1 (enc (ox ds) (pL ds))=aV S.1 ds) (H9: ∀i x,pL (enc i x)=x) (Zr: ∀i r,Dj (lx i r)=some r)
  (e1: ∀i x (β:Type) (k:(List V ⊕ (Nat × List V))→Option β),gC P A C L f n m c (aV S.1 (enc i x)) (fun o st=>(jL m S.1 S.2 (some (o,st))).bind k)=
   body i x β (fun y=>k (.inl (enc i y))) (fun r=>k (.inr (lx i r))))
  (hl: ∀(β:Type) ds (k:Nat→List V→Option β),L β (keyOf c+1) ds k=(Loop (fun x=>body (ox ds) x (X ⊕ R) (fun y=>some (.inl y)) (fun r=>some (.inr r))) (pL ds)).bind fun r=>k (lx (ox ds) r).1 (lx (ox ds) r).2):
  cm P A C L f n m (.loop c):=by
 simp only[cm,hS]
 intro β ds k
 rw[hl]
 have hex: ∀(z:Option (Out × St)),jL m S.1 S.2 z=z.bind fun r=>jL m S.1 S.2 (some (r.1,r.2)):=by
  intro z;cases z<;>rfl
 have hs: ∀i x,stepG P A C f n m S c (enc i x)=(body i x (X ⊕ R) (fun y=>some (.inl y)) (fun r=>some (.inr r))).map fun| .inl y=> .inl (enc i y)| .inr r=> .inr (lx i r):=by
  intro i x
  have k1:=e1 i x _ (fun z=>some z)
  have k2:=e1 i x (X ⊕ R) (fun| .inl ds=>some (.inl (pL ds))| .inr e=>(Dj e).map .inr)
  have k3:=e1 i x (List V ⊕ (Nat × List V)) (fun| .inl ds=>some (.inl (enc i (pL ds)))| .inr e=>(Dj e).map fun r=> .inr (lx i r))
  simp only[H9,Zr,Option.map_some] at k2 k3
  unfold stepG
  rw[hex]
  rw[BL P A C f n m c hL] at k1 k2 k3
  rw[←k2]
  refine Eq.trans ?_ (k1.trans (k3.symm.trans ?_))
  ·congr 1
   funext r
   cases jL m S.1 S.2 (some (r.1,r.2))<;>rfl
  ·cases exec P A C f n m c (aV S.1 (enc i x)) with
   | none=>rfl
   | some r=>
    simp only[Option.bind_some]
    cases jL m S.1 S.2 (some (r.1,r.2)) with
    | none=>rfl
    | some z=>
     cases z with
     | inl _=>rfl
     | inr e=>simp only[Option.bind_some];cases Dj e<;>rfl
 have h0:stepG P A C f n m S c ds=stepG P A C f n m S c (enc (ox ds) (pL ds)):=by
  unfold stepG
  rw[s8]
 have:Loop (stepG P A C f n m S c) ds=(Loop (fun x=>body (ox ds) x (X ⊕ R) (fun y=>some (.inl y)) (fun r=>some (.inr r))) (pL ds)).map (lx (ox ds)):=by
  rw[Bq,h0,←Bq]
  exact VI (enc (ox ds)) (lx (ox ds)) (fun x=>hs _ _) (pL ds)
 rw[this]
 cases Loop (fun x=>body (ox ds) x (X ⊕ R) (fun y=>some (.inl y)) (fun r=>some (.inr r))) (pL ds)<;>rfl
abbrev yA (S:Shape) (mk:List Bool):List LK:=vn false mk S.ks
abbrev te (S:Shape) (mk:List Bool):List LK:=vn true mk S.ks
def pM (ts:List (List Nat)) (W:List (Out × Shape)):List ff:=
 match ts,W with
 | t::ts,w::W=>(t,w.2.ks)::pM ts W
 | _,_=>[]
abbrev yB (S:Shape) (mk:List Bool) (i:jz (yA S mk)) (x:jz (te S mk)):List V:=merge mk (jU _ i) (jU _ x)
abbrev Ia (S:Shape) (mk:List Bool) (i:jz (yA S mk)):List V:=merge mk (jU _ i) []
abbrev Dk (S:Shape) (mk:List Bool) (ds:List V):jz (yA S mk):=nr _ (vn false mk (S.norm ds))
abbrev Dl (S:Shape) (mk:List Bool) (ds:List V):jz (te S mk):=nr _ (vn true mk (S.norm ds))
abbrev PC (X R:Type):Type 1:=(β:Type)→(X→Option β)→(R→Option β)→Option β
abbrev Ib (S:Shape × List (Out × Shape)) (mk:List Bool) (ts:List (List Nat)):Type 1:=vm (yA S.1 mk) (vm (te S.1 mk) (PC (jz (te S.1 mk)) (pK (pM ts S.2))))
abbrev Ic (S:Shape × List (Out × Shape)) (mk:List Bool) (ts:List (List Nat)) (b:Ib S mk ts) (i:jz (yA S.1 mk)) (x:jz (te S.1 mk)):PC (jz (te S.1 mk)) (pK (pM ts S.2)):=tc _ (tc _ b i) x
noncomputable def bA (S:Shape × List (Out × Shape)) (mk:List Bool) (ts:List (List Nat)) (b:Ib S mk ts) {β:Type} (ds:List V) (k:Nat→List V→Option β):Option β:=
 (Loop (fun x=>Ic S mk ts b (Dk S.1 mk ds) x (jz (te S.1 mk) ⊕ pK (pM ts S.2)) (fun y=>some (.inl y)) (fun r=>some (.inr r))) (Dl S.1 mk ds)).bind (wT (Ia S.1 mk (Dk S.1 mk ds)) k (pM ts S.2))
theorem bD {c:Code} (S:Shape × List (Out × Shape)) (mk:List Bool) (ts:List (List Nat)) (b:Ib S mk ts) (hS:A.fQ f (keyOf c+1)=some S) (hL:gD P A C L f n m c)
  (s8: ∀ds,aV S.1 (yB S.1 mk (Dk S.1 mk ds) (Dl S.1 mk ds))=aV S.1 ds) (H9: ∀i x,Dl S.1 mk (yB S.1 mk i x)=x)
  (e1: ∀i x (β:Type) (k:(List V ⊕ (Nat × List V))→Option β),gC P A C L f n m c (aV S.1 (yB S.1 mk i x)) (fun o st=>(jL m S.1 S.2 (some (o,st))).bind k)=
   Ic S mk ts b i x β (fun y=>k (.inl (yB S.1 mk i y))) (wT (Ia S.1 mk i) (fun j l=>k (.inr (j,l))) (pM ts S.2)))
  (hl: ∀(β:Type) ds (k:Nat→List V→Option β),L β (keyOf c+1) ds k=bA S mk ts b ds k):
  cm P A C L f n m (.loop c):=
 Zq hS hL (yB S.1 mk) (fun i r=>vp (Ia S.1 mk i) _ r) (Dk S.1 mk) (Dl S.1 mk) (fun e=>Py e.1 _ e.2) (Ic S mk ts b) s8 H9 (fun i r=>Zp _ _ r)
  (fun i x β k=>by
   rw[e1]
   congr 1
   funext r
   exact Di _ _ _ r)
  (fun β ds k=>by
   rw[hl]
   unfold bA
   congr 1
   funext r
   exact Di _ _ _ r)
abbrev PD (S:Shape × List (Out × Shape)) (ts:List (List Nat)):Type 1:=vm S.1.ks ((β:Type)→(pK (pM ts S.2)→Option β)→Option β)
noncomputable def mq (S:Shape × List (Out × Shape)) (ts:List (List Nat)) (b:PD S ts) {β:Type} (ds:List V) (k:Nat→List V→Option β):Option β:=
 tc S.1.ks b (nr _ (S.1.norm ds)) β (wT (jU S.1.ks (nr _ (S.1.norm ds))) k (pM ts S.2))
theorem nu {t:Nat} {x y:Code} (S:Shape × List (Out × Shape)) (ts:List (List Nat)) (b:PD S ts) (hS:A.fQ f (t*16+15)=some S) (hx:gD P A C L f n m x) (hy:gD P A C L f n m y)
  (s8: ∀ds,aV S.1 (jU S.1.ks (nr _ (S.1.norm ds)))=aV S.1 ds)
  (e1: ∀i (β:Type) (k:Nat→List V→Option β),H3 P A C L f n m t S x y (jU S.1.ks i) k=tc S.1.ks b i β (wT (jU S.1.ks i) k (pM ts S.2)))
  (hl: ∀(β:Type) ds (k:Nat→List V→Option β),L β (t*16+15) ds k=mq S ts b ds k):
  cm P A C L f n m (.cond t x y):=
 Zk hS hx hy (jU S.1.ks) (fun i r=>vp (jU S.1.ks i) _ r) (fun ds=>nr _ (S.1.norm ds)) (tc S.1.ks b) s8
  (fun i β k=>by
   rw[e1]
   exact congrArg (tc S.1.ks b i β) (funext fun r=>Di _ _ _ r))
  (fun β ds k=>by
   rw[hl]
   exact congrArg (tc S.1.ks b (nr _ (S.1.norm ds)) β) (funext fun r=>Di _ _ _ r))
end
def cP:cq:=fun _ _ _ _=>none
end Go.AM
