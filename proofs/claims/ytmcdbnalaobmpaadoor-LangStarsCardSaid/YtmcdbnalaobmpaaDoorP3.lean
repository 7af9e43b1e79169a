/-
  Functions of wW program, lifted to plain data.
-/
import Derived.Conc.MuLone
import Derived.Defers
import Derived.Carry
import Derived.OpenShut
import Derived.Deep.Slices
import Derived.Test.YtmcdbnalaobmpaaDoorP2
set_option linter.unusedVariables false
set_option linter.unusedSimpArgs false
namespace Go.AM
section
variable {P:Program} {A:ch} {w w':World} {I I' I2:Nat→Prop} {μ β aj bL:Nat→Option Nat} {hp hp' hp0 a9:Nat→Option ag} {C:ae} {B:Nat} {M:Nat→Prop} {w0:Start}
structure jO (w:World) (I:Nat→Prop) (β:Nat→Option Nat) (hp:Nat→Option ag) (w':World) (I':Nat→Prop) (aj:Nat→Option Nat) (hp':Nat→Option ag):Prop where
 cM: ∀b,I b→I' b
 bR: ∀b,I b→w'.heap[b]? =w.heap[b]?
 blk: ∀id blk,hp id=some blk→∃blk',hp' id=some blk'∧blk.le blk'∧(blk'≠ .dead→aj id=β id)
 size: ∀id blk blk' b,hp id=some blk→hp' id=some blk'→blk'≠ .dead→β id=some b→bsize w' b=bsize w b
theorem Le.CE (h:Le P w I β hp w' I' aj hp'):jO w I β hp w' I' aj hp':=⟨h.cM,h.bR,h.blk,h.size⟩
theorem jO.trans {xp:World} {xq:Nat→Prop} {xr:Nat→Option Nat} {xt:Nat→Option ag} (h1:jO w I β hp w' I' aj hp') (h2:jO w' I' aj hp' xp xq xr xt):jO w I β hp xp xq xr xt:=by
 refine ⟨fun b h=>h2.cM b (h1.cM b h),fun b h=>(h2.bR b (h1.cM b h)).trans (h1.bR b h),fun id blk h=> ?_,fun id blk se b h qL hd hb=> ?_⟩
 ·obtain ⟨blk',e',l',b'⟩:=h1.blk id blk h
  obtain ⟨se,dc,xu,Gh⟩:=h2.blk id blk' e'
  refine ⟨se,dc,ag.le_trans l' xu,fun hd=> ?_⟩
  have ed:blk'≠ .dead:=fun e=>hd (ag.nQ (e▸xu))
  exact (Gh hd).trans (b' ed)
 ·obtain ⟨blk',e',l',b'⟩:=h1.blk id blk h
  obtain ⟨ga,e3,l3,b3⟩:=h2.blk id blk' e'
  obtain rfl:ga=se:=by rw[e3] at qL;exact Option.some.inj qL
  have ed:blk'≠ .dead:=fun e=>hd (ag.nQ (e▸l3))
  rw[h2.size id blk' ga b e' e3 hd ((b' ed).trans hb),h1.size id blk blk' b h e' ed hb]
def nd (P:Program) (w:World) (μ:Nat→Option Nat) (hp0:Nat→Option ag) (b:Nat):Prop:= ∃j blk,hp0 j=some blk∧bj P w (μ j) blk b
structure XC (P:Program) (A:ch) (key:Nat) (w:World) (I:Nat→Prop) (μ:Nat→Option Nat) (ds es:List V) (w':World) (v:Value) (I2:Nat→Prop) (bL:Nat→Option Nat):Prop where
 vd:aC P w' I2 bL (aX (A.so key es) (A.lv key es)).hp w.heap.size (nd P w μ (aX (A.sin key) ds).hp) ⟨w,I⟩
 le:jO w I μ (aX (A.sin key) ds).hp w' I2 bL (aX (A.so key es) (A.lv key es)).hp
 res:ah P w' I2 bL (aX (A.so key es) (A.lv key es)).hp v (nO (eK (A.so key es).bu (A.lv key es)))
def jP (P:Program) (A:ch) (C:ae):Prop:=
 ∀key ds es,C key ds=some es→∃fn c,P.funcs[A.aR key]? =some fn∧fn.body=some c∧
  ∀(w:World) (I:Nat→Prop) (μ:Nat→Option Nat) (vals:List Value),
   sd P w I μ (aX (A.sin key) ds).hp w.heap.size (nd P w μ (aX (A.sin key) ds).hp)→gb P A.aA w I→
   vals.length=(A.sin key).bu.length→(∀(j:Nat) v x,vals[j]? =some v→(eY ((A.sin key).bu.map (·.2)) ds)[j]? =some x→ah P w I μ (aX (A.sin key) ds).hp v x)→
   Calls P (A.aR key) vals.toArray w fun e w'=> ∃v I2 bL,e= .returned v∧XC P A key w I μ ds es w' v I2 bL
theorem dw.sO {p:Place} {o:Option Nat} {blk:ag} {b:Nat} (h:dw P w β hp p o blk) (ho:bj P w o blk b):
  ∃pt,hp p.id=some pt∧bj P w (β p.id) pt b∧∀e es,pt≠ .arr e es true:=by
 cases h with
 | var h=>exact ⟨_,h,.root (by simp) (ho.flat (by simp)),by simp⟩
 | arr h=>exact ⟨_,h,.root (by simp) (ho.flat (by simp)),by simp⟩
 | map h=>exact ⟨_,h,.root (by simp) (ho.flat (by simp)),by simp⟩
 | nest h=>
  refine ⟨_,h,?_,by simp⟩
  cases ho with
  | root _ hb=>exact .root (by simp) hb
  | row hb ha=>exact .row hb ha
 | row h hb ha _ _ _ _ _=>
  have:=ho.flat (by simp)
  cases this
  exact ⟨_,h,.row hb ha,by simp⟩
theorem aC.XD (S:aC P w I β hp B M w0) {id b:Nat} {blk:ag} (aa:hp id=some blk) (ho:bj P w (β id) blk b) (hf: ∀e es,blk≠ .arr e es true): ¬I b:=by
 have hr:=S.h.rel id blk aa
 generalize β id=o at hr ho
 cases hr with
 | var hb _ _ hI _ _=>have:=ho.flat (by simp);rw[hb] at this;cases this;exact hI
 | dh hb=>have:=ho.flat (by simp);rw[hb] at this;cases this
 | @arr e es fz _ _ _ hb _ _ _ dE _=>
  have:=ho.flat (by simp)
  rw[hb] at this;cases this
  cases fz with
  | true=>exact absurd rfl (hf e es)
  | false=>exact dE rfl
 | dead=>exact absurd rfl ho.alive
 | map _ hb _ _ hI _ _=>have:=ho.flat (by simp);rw[hb] at this;cases this;exact hI
 | nest hb hr _=>
  cases ho with
  | root _ au=>rw[hb] at au;cases au;exact (hr _ _ _ _ .here).nI
  | row au ha=>rw[hb] at au;cases au;exact (hr _ _ _ _ ha).nI
theorem CF {a b:List Nat} (h:uw a b=false) {x:Nat} (ha:x∈a):x∉b:=by
 intro hb
 unfold uw at h
 rw[List.any_eq_false] at h
 exact h x ha (uT hb)
theorem XE (S:aC P w I β hp B M w0) {pl:List Place} {upd:List (Nat × ag)} {o:Nat→Option Nat} (jx:(pl.map Place.id).Nodup) (sP:uw (upd.map (·.1)) (pl.map Place.id)=false)
  (hl: ∀j blk,hp0 j=some blk→∃p,dC pl j=some p∧dw P w β hp p (o j) blk)
  (cj:(∀j blk,hp0 j=some blk→∀b,bj P w (o j) blk b→¬gS P w I β hp upd b)→∀j blk,hp0 j=some blk→dt P w (gS P w I β hp upd) o hp0 (o j) blk) (aK: ∀b,gS P w I β hp upd b→b<w.heap.size):
  sd P w (gS P w I β hp upd) o hp0 w.heap.size (nd P w o hp0):=by
 have cu: ∀j blk,hp0 j=some blk→∀b,bj P w (o j) blk b→¬gS P w I β hp upd b:=by
  intro j blk hj b ho hI
  obtain ⟨p,a9,gd⟩:=hl j blk hj
  obtain ⟨pt,k1,k2,k3⟩:=gd.sO ho
  rcases hI with hI|⟨q,hq,bK,q1,q2⟩
  ·exact S.XD k1 k2 k3 hI
  ·have:=S.h.inj _ _ _ _ b q1 k1 q2 k2
   refine CF sP (List.mem_map.2 ⟨q,hq,rfl⟩) ?_
   rw[this]
   rw[ko] at a9
   exact List.mem_map.2 ⟨p,List.mem_of_getElem? a9,rfl⟩
 refine ⟨cj cu,fun j1 j2 b1 b2 b h1 h2 o1 o2=> ?_,fun j blk b h1 o1=> .inl ⟨j,blk,h1,o1⟩,aK⟩
 obtain ⟨p1,q1,q2⟩:=hl j1 b1 h1
 obtain ⟨p2,r1,r2⟩:=hl j2 b2 h2
 obtain ⟨c1,x1,x2,_⟩:=q2.sO o1
 obtain ⟨c2,y1,y2,_⟩:=r2.sO o2
 have aa:=S.h.inj _ _ _ _ b x1 y1 x2 y2
 rw[ko] at q1 r1
 have m1:(pl.map Place.id)[j1]? =some p1.id:=by rw[List.getElem?_map,q1];rfl
 have m2:(pl.map Place.id)[j2]? =some p2.id:=by rw[List.getElem?_map,r1];rfl
 rw[←aa] at m2
 obtain ⟨z1,z2⟩:=List.getElem?_eq_some_iff.1 m1
 obtain ⟨z3,z4⟩:=List.getElem?_eq_some_iff.1 m2
 exact (List.getElem_inj jx).1 (z2.trans z4.symm)
def Nl:V→Prop
 | .list .. =>False
 | .pref .. =>False
 | .agg _=>False
 | .aQ _=>False
 | .fn .. =>False
 | _=>True
theorem ah.free {v:Value} {x:V} (h:ah P w I β hp v x) (hx:Nl x):ah P w I' β hp v x:=by
 cases h with
 | undef=>exact .undef
 | int=>exact .int
 | bool=>exact .bool
 | str h=>exact .str h
 | list h=>exact hx.elim
 | nilS=>exact .nilS
 | agg=>exact hx.elim
 | aQ=>exact hx.elim
 | cP=>exact .cP
 | fn=>exact hx.elim
 | pref=>exact hx.elim
 | dD h=>exact .dD h
 | fD h=>exact .fD h
 | jq h=>exact .jq h
 | dg h hb=>exact .dg h hb
 | whole h hb a b c=>exact .whole h hb a b c
 | dJ h hb a b c=>exact .dJ h hb a b c
 | fl h hb=>exact .fl h hb
 | sub h hb a b c=>exact .sub h hb a b c
 | ptr h hd hb=>exact .ptr h hd hb
 | iI h pk=>exact .iI h pk
 | iJ h pk=>exact .iJ h pk
 | row h hb a b c d=>exact .row h hb a b c d
 | cg h hb a b c d e=>exact .cg h hb a b c d e
 | cQ=>exact .cQ
 | gz h=>exact .gz h
 | bG h hb=>exact .bG h hb
theorem ye {l:LS} {ds:List V} (hs:l.safe=true):Nl (gO l ds):=by
 cases l<;>simp only[LS.safe] at hs<;>first|(cases hs;done)|trivial
theorem yf: ∀{ls:List LS} {ds:List V} {j:Nat} {y:V},(gp ls ds)[j]? =some y→∃l eN,l∈ls∧y=gO l eN
 | [],ds,j,y,h=>by simp[gp] at h
 | l::ls,ds,j,y,h=>by
  simp only[gp] at h
  cases j with
  | zero=>simp at h;exact ⟨l,ds,List.mem_cons_self ..,h.symm⟩
  | succ j=>
   obtain ⟨l',eN,h1,h2⟩:=yf (j:=j) (by simpa using h)
   exact ⟨l',eN,List.mem_cons_of_mem _ h1,h2⟩
theorem Nm: ∀{ls:List VS} {ds:List V} {j:Nat} {y:V},(eY ls ds)[j]? =some y→∃l eN,l∈ls∧y=jH l eN
 | [],ds,j,y,h=>by simp[eY] at h
 | l::ls,ds,j,y,h=>by
  simp only[eY] at h
  cases j with
  | zero=>simp at h;exact ⟨l,ds,List.mem_cons_self ..,h.symm⟩
  | succ j=>
   obtain ⟨l',eN,h1,h2⟩:=Nm (j:=j) (by simpa using h)
   exact ⟨l',eN,List.mem_cons_of_mem _ h1,h2⟩
theorem Nn {s:VS} {ds:List V} {v:Value} (h:ah P w I β hp v (jH s ds)) (hs:s.safe=true):ah P w I' β hp v (jH s ds):=by
 cases s with
 | one l=>exact h.free (ye hs)
 | agg ls=>
  simp only[jH] at h⊢
  obtain ⟨cs,rfl,e1,e2⟩:=h.jL
  refine .agg e1 fun j v x hj hx=> ?_
  obtain ⟨l,eN,k1,rfl⟩:=yf hx
  exact (e2 j v _ hj hx).free (ye (List.all_eq_true.1 hs l k1))
 | aQ ls=>
  simp only[jH] at h⊢
  obtain ⟨cs,rfl,e1,e2⟩:=h.sr
  refine .aQ e1 fun j v x hj hx=> ?_
  obtain ⟨l,eN,k1,rfl⟩:=yf hx
  exact (e2 j v _ hj hx).free (ye (List.all_eq_true.1 hs l k1))
 | fn f a b=>
  simp only[VS.safe,Bool.and_eq_true] at hs
  simp only[jH] at h⊢
  cases h with
  | fn a1 a2 b1 b2=>
   refine .fn a1 (fun j v x hj hx=> ?_) b1 (fun j v x hj hx=> ?_)
   ·obtain ⟨l,eN,k1,rfl⟩:=yf hx
    exact (a2 j v _ hj hx).free (ye (List.all_eq_true.1 hs.1 l k1))
   ·obtain ⟨l,eN,k1,rfl⟩:=yf hx
    exact (b2 j v _ hj hx).free (ye (List.all_eq_true.1 hs.2 l k1))
 | pref ts ls=>cases hs
theorem Pure.scalar {t:TypeId} {v:Value} {x:V} (h:Pure P w I t v x) (hn: ∀e,P.underlying t≠some (.slice e)):Pure P w I' t v x:=by
 cases h with
 | int h=>exact .int h
 | bool h=>exact .bool h
 | str h hl=>exact .str h hl
 | nil h=>exact absurd h (hn _)
 | emp h=>exact absurd h (hn _)
 | list g h=>exact absurd h (hn _)
theorem XF {e t:TypeId} {j:Nat} (h:w9 P e=true) (ht:(aM P e)[j]? =some t) (e':TypeId):P.underlying t≠some (.slice e'):=by
 intro hu
 have h2:=List.all_eq_true.1 h t (List.mem_of_getElem? ht)
 rw[hu] at h2
 cases h2
theorem XG {o:Option Nat} {b:BS} {ds:List V} (h:dt P w I2 β hp o (fh b ds)) (hs:b.safe P=true) (hi: ∀b,I b→I2 b):dt P w I β hp o (fh b ds):=by
 cases b with
 | dead=>exact .dead
 | var T0 ls=>
  simp only[fh] at h⊢
  cases h with
  | var hb hh aO hI hx fF=>
   refine .var hb hh aO (fun h=>hI (hi _ h)) (fun j v x hj cd=> ?_) fF
   obtain ⟨l,eN,k1,rfl⟩:=Nm cd
   exact Nn (hx j v _ hj cd) (List.all_eq_true.1 hs l k1)
 | arr e fz=>
  simp only[BS.safe,Bool.and_eq_true,Bool.not_eq_true'] at hs
  obtain ⟨rfl,yd⟩:=hs
  simp only[fh] at h⊢
  generalize (V.nth ds 0).toList=es at h⊢
  cases h with
  | dh hb=>exact .dh hb
  | arr a1 a2 a3 a4 a5 a6 a7=>
   refine .arr a1 a2 a3 a4 (fun h=>by cases h) (fun _ h=>a6 rfl (hi _ h)) fun i j x t' y1 y2 y3=> ?_
   obtain ⟨v,z1,z2⟩:=a7 i j x t' y1 y2 y3
   exact ⟨v,z1,z2.scalar (XF yd y2)⟩
 | nest e=>
  simp only[fh] at h⊢
  generalize (V.nth ds 0).toList=es at h⊢
  cases h with
  | nest hb b8 mY=>
   refine .nest hb (fun q b' e1 m1 hq=> ?_) mY
   obtain ⟨ok,⟨Ca,c1,c2,c3⟩,nI⟩:=b8 q b' e1 m1 hq
   refine ⟨ok,⟨Ca,c1,c2,fun i j x t' y1 y2 y3=> ?_⟩,fun h=>nI (hi _ h)⟩
   obtain ⟨v,z1,z2⟩:=c3 i j x t' y1 y2 y3
   refine ⟨v,z1,?_⟩
   generalize bx P e1 x j=y at z2⊢
   cases z2 with
   | fk a p=>
    refine .fk a (p.scalar fun e hu=> ?_)
    unfold fg at a
    rw[hu] at a
    cases a
   | emp a b=>exact .emp a b
   | row a b c d e=>exact .row a b c d e
 | map t=>
  simp only[fh] at h⊢
  cases h with
  | map a1 a2 a3 a4 a5 a6 a7=>exact .map a1 a2 a3 a4 (fun h=>a5 (hi _ h)) a6 a7
theorem Ho: ∀{l:List BS} {ds:List V} {j:Nat} {y:ag},(eb l ds)[j]? =some y→∃b eN,l[j]? =some b∧y=fh b eN
 | [],ds,j,y,h=>by simp[eb] at h
 | b::l,ds,j,y,h=>by
  simp only[eb] at h
  cases j with
  | zero=>simp at h;exact ⟨b,ds,rfl,h.symm⟩
  | succ j=>
   obtain ⟨b',eN,h1,h2⟩:=Ho (j:=j) (by simpa using h)
   exact ⟨b',eN,by simpa using h1,h2⟩
theorem No: ∀{l:List (Nat × VS)} {ds:List V} {q:Nat × V},q∈eK l ds→∃s eN,(q.1,s)∈l∧q.2=jH s eN
 | [],ds,q,h=>by simp[eK] at h
 | (k,s)::l,ds,q,h=>by
  simp only[eK,List.mem_cons] at h
  rcases h with h|h
  ·subst h;exact ⟨s,ds,List.mem_cons_self ..,rfl⟩
  ·obtain ⟨s',eN,h1,h2⟩:=No h
   exact ⟨s',eN,List.mem_cons_of_mem _ h1,h2⟩
theorem XH {S:Shape} {es:List V} (hs:S.safe P=true) (hi: ∀b,I b→I2 b) {N:Nat→Prop} {st:Start} (h:aC P w' I2 bL (aX S es).hp B N st) (h0: ∀b,I b→st.I b):
  aC P w' I bL (aX S es).hp B N st∧∀v,ah P w' I2 bL (aX S es).hp v (nO (eK S.bu es))→ah P w' I bL (aX S es).hp v (nO (eK S.bu es)):=by
 unfold Shape.safe at hs
 simp only[Bool.and_eq_true] at hs
 obtain ⟨iM,lh⟩:=hs
 have one: ∀q∈eK S.bu es,∀v,ah P w' I2 bL (aX S es).hp v q.2→ah P w' I bL (aX S es).hp v q.2:=by
  intro q hq v hv
  obtain ⟨s,eN,k1,k2⟩:=No hq
  rw[k2] at hv⊢
  exact Nn hv (List.all_eq_true.1 iM _ k1)
 refine ⟨⟨⟨fun j blk hj=> ?_,h.h.inj,h.h.own,fun b hb=>h.h.iK b (hi b hb)⟩,h.bR,h.size,fun b hb=> .inl (h0 b hb),h.io⟩,fun v hv=> ?_⟩
 ·have hr:=h.h.rel j blk hj
  have fP:=hj
  simp only[aX,mk,gi] at fP
  obtain ⟨b,eN,k1,rfl⟩:=Ho fP
  exact XG hr (List.all_eq_true.1 lh _ (List.mem_of_getElem? k1)) hi
 ·generalize eK S.bu es=l at one hv⊢
  match l,one,hv with
  | [],_,hv=>
   simp only[nO,List.map_nil] at hv⊢
   obtain ⟨cs,rfl,e1,e2⟩:=hv.sr
   exact .aQ e1 fun j v x _ hx=>by simp at hx
  | [q],one,hv=>exact one q (List.mem_singleton.2 rfl) v hv
  | q::q2::l,one,hv=>
   simp only[nO] at hv⊢
   obtain ⟨cs,rfl,e1,e2⟩:=hv.sr
   refine .aQ e1 fun j v x hj hx=> ?_
   obtain ⟨y,hy,rfl⟩:=List.mem_map.1 (List.mem_of_getElem? hx)
   exact one y hy v (e2 j v _ hj hx)
end
section
variable {P:Program} {A:ch} {w w':World} {I I' I2:Nat→Prop} {μ β aj bL:Nat→Option Nat} {hp hp' hp0 a9:Nat→Option ag} {C:ae} {B:Nat} {M:Nat→Prop} {w0:Start}
inductive fI (σ:List Place):ag→ag→Prop
 | dead:fI σ .dead .dead
 | var {T:TypeId} {cs:List V}:fI σ (.var T cs) (.var T (cs.map (BD σ)))
 | arr {e:TypeId} {es:List V} {fz:Bool}:fI σ (.arr e es fz) (.arr e es fz)
 | nest {e:TypeId} {es:List V} {v1 v2:List Nat}:fI σ (.nest e es v1) (.nest e es v2)
 | map {t:TypeId} {es:List V}:fI σ (.map t es) (.map t es)
theorem fI.of (σ:List Place) (b:ag):fI σ b (rT σ b):=by
 cases b with
 | dead=>exact .dead
 | var T cs=>exact .var
 | arr e es fz=>exact .arr
 | nest e es v=>exact .nest
 | map t es=>exact .map
theorem Np {σ:List Place}: ∀{pl:List Place} {bs:List ag} {acc:List (Nat × ag)} {k:List (Nat × ag)→Rd R} {r:R} {rd:List Nat},(oW σ pl bs acc k).run C hp=some (r,rd)→
  pl.length≤bs.length∧∃bk eu,(k bk).run C hp=some (r,eu)∧(∀q∈bk,q∈acc∨∃(j:Nat) (b:ag),pl[j]? =some (.blk q.1)∧bs[j]? =some b∧fI σ b q.2∧((∃e es v2,q.2= .nest e es v2)→∃e es ai e' aG,hp q.1=some (.nest e es ai)∧q.2= .nest e' aG (ai.map (· +1))))∧
   (∀q∈acc,q∈bk)∧∀(j:Nat) p,pl[j]? =some p→∃id b,p= .blk id∧(id,b)∈bk
 | [],bs,acc,k,r,rd,h=>⟨Nat.zero_le _,acc,rd,by simpa only[oW] using h,fun q hq=> .inl hq,fun q hq=>hq,fun j p hp=>by simp at hp⟩
 | .row _ _ _::pl,bs,acc,k,r,rd,h=>by
  cases bs<;>(simp only[oW] at h;cases h)
 | .blk id::pl,[],acc,k,r,rd,h=>by simp only[oW] at h;cases h
 | .blk id::pl,b::bs,acc,k,r,rd,h=>by
  have fin: ∀{b2:ag} {iv:List Nat},(oW σ pl bs ((id,b2)::acc) k).run C hp=some (r,iv)→fI σ b b2→((∃e es v2,b2= .nest e es v2)→∃e es ai e' aG,hp id=some (.nest e es ai)∧b2= .nest e' aG (ai.map (· +1)))→
    (Place.blk id::pl).length≤(b::bs).length∧∃bk eu,(k bk).run C hp=some (r,eu)∧(∀q∈bk,q∈acc∨∃(j:Nat) (b':ag),(Place.blk id::pl)[j]? =some (.blk q.1)∧(b::bs)[j]? =some b'∧fI σ b' q.2∧((∃e es v2,q.2= .nest e es v2)→∃e es ai e' aG,hp q.1=some (.nest e es ai)∧q.2= .nest e' aG (ai.map (· +1))))∧
     (∀q∈acc,q∈bk)∧∀(j:Nat) p,(Place.blk id::pl)[j]? =some p→∃id b,p= .blk id∧(id,b)∈bk:=by
   intro b2 iv h1 hb hn
   obtain ⟨a0,bk,eu,a1,a2,a3,a4⟩:=Np h1
   refine ⟨by simp only[List.length_cons];omega,bk,eu,a1,fun q hq=> ?_,fun q hq=>a3 q (List.mem_cons_of_mem _ hq),fun j p hj=> ?_⟩
   ·rcases a2 q hq with h|⟨j,b',k1,k2,k3,k4⟩
    ·rcases List.mem_cons.1 h with e|h
     ·subst e;exact .inr ⟨0,b,rfl,rfl,hb,hn⟩
     ·exact .inl h
    ·exact .inr ⟨j+1,b',by simpa using k1,by simpa using k2,k3,k4⟩
   ·cases j with
    | zero=>simp at hj;subst hj;exact ⟨id,b2,rfl,a3 _ (List.mem_cons_self ..)⟩
    | succ j=>exact a4 j p (by simpa using hj)
  cases b with
  | nest e es v=>
   simp only[oW] at h
   obtain ⟨l,h⟩:=run_get h
   cases aa:hp id with
   | none=>rw[aa] at h;cases h
   | some blk=>
    rw[aa] at h
    cases blk with
    | nest e0 Gi ai=>exact fin h .nest fun _=>⟨e0,Gi,ai,e,es,aa,rfl⟩
    | _=>cases h
  | dead=>exact fin h (.of σ _) fun ⟨_,_,_,h⟩=>by cases h
  | var T cs=>exact fin h (.of σ _) fun ⟨_,_,_,h⟩=>by cases h
  | arr e es fz=>exact fin h (.of σ _) fun ⟨_,_,_,h⟩=>by cases h
  | map t es=>exact fin h (.of σ _) fun ⟨_,_,_,h⟩=>by cases h
theorem Nq {σ:List Place}: ∀{bs:List ag} {n:Nat} {q:Nat × ag},q∈oX σ n bs→∃i b,bs[i]? =some b∧q=(n+i,rT σ b)
 | [],n,q,h=>by simp[oX] at h
 | b::bs,n,q,h=>by
  simp only[oX,List.mem_cons] at h
  rcases h with h|h
  ·exact ⟨0,b,rfl,h⟩
  ·obtain ⟨i,b',h1,h2⟩:=Nq h
   exact ⟨i+1,b',by simpa using h1,by rw[h2];congr 1;omega⟩
theorem Nr {σ:List Place}: ∀{bs:List ag} {n i:Nat} {b:ag},bs[i]? =some b→(n+i,rT σ b)∈oX σ n bs
 | [],n,i,b,h=>by simp at h
 | b0::bs,n,i,b,h=>by
  simp only[oX,List.mem_cons]
  cases i with
  | zero=>simp at h;subst h;exact .inl rfl
  | succ i=>exact .inr (by rw[show n+(i+1)=n+1+i by omega];exact Nr (by simpa using h))
theorem CG: ∀{k n i:Nat},i<k→(qJ n k)[i]? =some (.blk (n+i))
 | 0,n,i,h=>by omega
 | k+1,n,0,h=>rfl
 | k+1,n,i+1,h=>by
  simp only[qJ,List.getElem?_cons_succ]
  rw[CG (by omega)]
  congr 2
  omega
theorem Hp: ∀{k n:Nat},(qJ n k).length=k
 | 0,_=>rfl
 | k+1,n=>by simp[qJ,Hp]
theorem Ns: ∀{bs:List (Nat × ag)} {k:Rd R} {r:R} {rd:List Nat},(BE bs k).run C hp=some (r,rd)→(∀q∈bs,hp q.1=none)∧∃eu,k.run C hp=some (r,eu)
 | [],k,r,rd,h=>⟨by simp,rd,h⟩
 | (id,b)::l,k,r,rd,h=>by
  simp only[BE] at h
  obtain ⟨l1,h⟩:=run_get h
  cases aa:hp id with
  | some blk=>rw[aa] at h;cases h
  | none=>
   rw[aa] at h
   obtain ⟨h1,h2⟩:=Ns h
   refine ⟨fun q hq=> ?_,h2⟩
   rcases List.mem_cons.1 hq with e|hq
   ·subst e;exact aa
   ·exact h1 q hq
structure od (σ:List Place) (bL:Nat→Option Nat) (a9:Nat→Option ag) (aj:Nat→Option Nat) (hp':Nat→Option ag):Prop where
 blk: ∀j b,a9 j=some b→∃id b',dC σ j=some (.blk id)∧hp' id=some b'∧fI σ b b'∧(b≠ .dead→aj id=bL j)
 none: ∀j,a9 j=none→dC σ j=none
 agQ: ∀j id ver path,dC σ j≠some (.row id ver path)
theorem od.leaf {σ:List Place} (T:od σ bL a9 aj hp') {v:Value} {x:V} (h:ah P w I bL a9 v x):ah P w I aj hp' v (jm σ x):=by
 have look: ∀{j b},a9 j=some b→∃id b',dC σ j=some (.blk id)∧hp' id=some b'∧fI σ b b'∧(b≠ .dead→aj id=bL j):=fun h=>T.blk _ _ h
 cases h with
 | undef=>exact .undef
 | int=>exact .int
 | bool=>exact .bool
 | str h=>exact .str h
 | list h=>exact .list h
 | nilS=>exact .nilS
 | agg=>exact .undef
 | aQ=>exact .undef
 | cP=>exact .cP
 | fn=>exact .undef
 | pref a b c=>exact .pref a b c
 | @dD _ e j h=>
  obtain ⟨id,b',k1,k2,k3,k4⟩:=look h
  simp only[jm,k1]
  cases k3
  exact .dD k2
 | @fD _ e j _ _ h=>
  obtain ⟨id,b',k1,k2,k3,k4⟩:=look h
  simp only[jm,k1]
  cases k3
  exact .fD k2
 | @jq _ j _ _ h=>
  obtain ⟨id,b',k1,k2,k3,k4⟩:=look h
  simp only[jm,k1]
  cases k3
  exact .jq k2
 | @dg e j fz _ h hb=>
  obtain ⟨id,b',k1,k2,k3,k4⟩:=look h
  simp only[jm,k1]
  cases k3
  exact .dg k2 ((k4 (by simp)).trans hb)
 | @whole e j es fz b cap h hb a1 a2 a3=>
  obtain ⟨id,b',k1,k2,k3,k4⟩:=look h
  simp only[jm,k1]
  cases k3
  exact .whole k2 ((k4 (by simp)).trans hb) a1 a2 a3
 | @dJ e j es ai b cap h hb a1 a2 a3=>
  obtain ⟨id,b',k1,k2,k3,k4⟩:=look h
  simp only[jm,k1]
  cases k3
  exact .dJ k2 ((k4 (by simp)).trans hb) a1 a2 a3
 | @fl e j fz _ h hb=>
  obtain ⟨id,b',k1,k2,k3,k4⟩:=look h
  simp only[jm,k1]
  cases k3
  exact .fl k2 ((k4 (by simp)).trans hb)
 | @sub e j off len es fz b o cap h hb a1 a2 a3=>
  obtain ⟨id,b',k1,k2,k3,k4⟩:=look h
  simp only[jm,k1]
  cases k3
  exact .sub k2 ((k4 (by simp)).trans hb) a1 a2 a3
 | @ptr j i c b blk h hd hb=>
  obtain ⟨id,b',k1,k2,k3,k4⟩:=look h
  simp only[jm,k1]
  have hs:blk.sz P=b'.sz P:=by cases k3<;>rfl
  rw[hs]
  exact .ptr k2 (by intro e;subst e;cases k3;exact hd rfl) ((k4 hd).trans hb)
 | iI=>exact .undef
 | iJ=>exact .undef
 | row=>exact .undef
 | cg=>exact .undef
 | cQ=>exact .cQ
 | @gz _ t j h=>
  obtain ⟨id,b',k1,k2,k3,k4⟩:=look h
  simp only[jm,k1]
  cases k3
  exact .gz k2
 | @bG t j b es h hb=>
  obtain ⟨id,b',k1,k2,k3,k4⟩:=look h
  simp only[jm,k1]
  cases k3
  exact .bG k2 ((k4 (by simp)).trans hb)
theorem od.one {σ:List Place} (T:od σ bL a9 aj hp') {v:Value} {x:V} (h:ah P w I bL a9 v x):ah P w I aj hp' v (F5 σ x):=by
 cases x with
 | agg xs=>
  obtain ⟨cs,rfl,e1,e2⟩:=h.jL
  exact .agg (by simpa using e1) fun j v y hj hy=>by
   rw[List.getElem?_map] at hy
   cases hx:xs[j]? with
   | none=>rw[hx] at hy;cases hy
   | some x=>rw[hx] at hy;cases hy;exact T.leaf (e2 j v x hj hx)
 | fn f a b=>
  cases h with
  | fn a1 a2 b1 b2=>
   refine .fn (by simpa using a1) (fun j v y hj hy=> ?_) (by simpa using b1) (fun j v y hj hy=> ?_)
   ·rw[List.getElem?_map] at hy
    cases hx:a[j]? with
    | none=>rw[hx] at hy;cases hy
    | some x=>rw[hx] at hy;cases hy;exact T.leaf (a2 j v x hj hx)
   ·rw[List.getElem?_map] at hy
    cases hx:b[j]? with
    | none=>rw[hx] at hy;cases hy
    | some x=>rw[hx] at hy;cases hy;exact T.leaf (b2 j v x hj hx)
 | _=>exact T.leaf h
theorem od.val {σ:List Place} (T:od σ bL a9 aj hp') {v:Value} {x:V} (h:ah P w I bL a9 v x):ah P w I aj hp' v (BD σ x):=by
 cases x with
 | aQ xs=>
  obtain ⟨cs,rfl,e1,e2⟩:=h.sr
  exact .aQ (by simpa using e1) fun j v y hj hy=>by
   rw[List.getElem?_map] at hy
   cases hx:xs[j]? with
   | none=>rw[hx] at hy;cases hy
   | some x=>rw[hx] at hy;cases hy;exact T.one (e2 j v x hj hx)
 | _=>exact T.one h
theorem od.Nt {σ:List Place} (T:od σ bL a9 aj hp') {o:Option Nat} {b b':ag} (h:dt P w I bL a9 o b) (hb:fI σ b b'):dt P w I aj hp' o b':=by
 cases hb with
 | dead=>exact .dead
 | var=>
  cases h with
  | var a1 a2 a3 a4 a5 a6=>
   refine .var a1 a2 (by simpa using a3) a4 (fun j v y hj hy=> ?_) a6
   rw[List.getElem?_map] at hy
   cases hx:(_:List V)[j]? with
   | none=>rw[hx] at hy;cases hy
   | some x=>rw[hx] at hy;cases hy;exact T.val (a5 j v x hj hx)
 | arr=>
  cases h with
  | dh hb=>exact .dh hb
  | arr a1 a2 a3 a4 a5 a6 a7=>exact .arr a1 a2 a3 a4 a5 a6 a7
 | nest=>
  cases h with
  | nest a1 a2 a3=>exact .nest a1 a2 a3
 | map=>
  cases h with
  | map a1 a2 a3 a4 a5 a6 a7=>exact .map a1 a2 a3 a4 a5 a6 a7
theorem fI.sO {σ:List Place} {o:Option Nat} {b b':ag} (h:fI σ b b') {m:Nat} (ho:bj P w o b' m):bj P w o b m:=by
 cases h with
 | dead=>exact absurd rfl ho.alive
 | var=>exact .root (by simp) (ho.flat (by simp))
 | arr=>exact .root (by simp) (ho.flat (by simp))
 | map=>exact .root (by simp) (ho.flat (by simp))
 | nest=>
  cases ho with
  | root _ hb=>exact .root (by simp) hb
  | row hb ha=>exact .row hb ha
theorem fI.Nu {σ:List Place} {b b':ag} (h:fI σ b b'):b'≠ .dead→b≠ .dead:=by
 intro h1 h2;subst h2;cases h;exact h1 rfl
end
section
variable {P:Program} {A:ch} {w w':World} {I I' I2:Nat→Prop} {μ β aj bL:Nat→Option Nat} {hp hp' hp0 a9:Nat→Option ag} {C:ae} {B:Nat} {M:Nat→Prop} {w0:Start}
theorem Nv: ∀{vs:List Nat} {k:Nat},k<vs.length→bq (vs.map (· +1)) k=bq vs k+1
 | [],k,h=>by simp at h
 | v::vs,0,h=>rfl
 | v::vs,k+1,h=>by simp only[List.map_cons,bq];exact Nv (by simpa using h)
theorem Nw: ∀{vs:List Nat} {k:Nat},bq vs k≤bq (vs.map (· +1)) k
 | [],k=>by simp[bq]
 | v::vs,0=>by simp[bq]
 | v::vs,k+1=>by simp only[List.map_cons,bq];exact Nw
def yg (hp:Nat→Option ag) (q:Nat × ag):Prop:=(∃e es v2,q.2= .nest e es v2)→∃e es ai e' aG,hp q.1=some (.nest e es ai)∧q.2= .nest e' aG (ai.map (· +1))
theorem dw.Hq {id:Nat} {o:Option Nat} {blk:ag} (h:dw P w β hp (.blk id) o blk):o=β id∧∃b0,hp id=some b0∧b0≠ .dead:=by
 cases h with
 | var h=>exact ⟨rfl,_,h,by simp⟩
 | arr h=>exact ⟨rfl,_,h,by simp⟩
 | nest h=>exact ⟨rfl,_,h,by simp⟩
 | map h=>exact ⟨rfl,_,h,by simp⟩
theorem dw.XI {id:Nat} {o:Option Nat} {c b b' b0:ag} {σ:List Place} (h:dw P w β hp (.blk id) o c) (h0:hp id=some b0) (hle:c.le b) (hb:fI σ b b') (hn:yg hp (id,b')):b0.le b':=by
 cases h with
 | var h=>
  rw[h] at h0;cases h0
  cases hb with
  | dead=>trivial
  | var=>trivial
  | arr=>exact hle.elim
  | nest=>exact hle.elim
  | map=>exact hle.elim
 | arr h=>
  rw[h] at h0;cases h0
  cases hb with
  | dead=>trivial
  | var=>exact hle.elim
  | arr=>exact hle
  | nest=>exact hle.elim
  | map=>exact hle.elim
 | map h=>
  rw[h] at h0;cases h0
  cases hb with
  | dead=>trivial
  | map=>exact hle
  | _=>exact hle.elim
 | nest h=>
  rw[h] at h0;cases h0
  cases hb with
  | dead=>trivial
  | var=>exact hle.elim
  | arr=>exact hle
  | map=>exact hle.elim
  | @nest e es v1 v2=>
   obtain ⟨e1,bY,sQ,e2,bP,k1,k2⟩:=hn ⟨_,_,_,rfl⟩
   cases k2
   change hp id=_ at k1
   rw[h] at k1;cases k1
   exact ⟨hle.1,hle.2.1,by simp,fun k=>Nw⟩
theorem dw.other {p:Place} {o:Option Nat} {blk:ag} (h:dw P w β hp p o blk) (he:hp' p.id=hp p.id):dw P w β hp' p o blk:=by
 cases h with
 | var h=>exact .var (he.trans h)
 | arr h=>exact .arr (he.trans h)
 | nest h=>exact .nest (he.trans h)
 | map h=>exact .map (he.trans h)
 | row h a b c d e f g=>exact .row (he.trans h) a b c d e f g
open Classical in
theorem Nx (S:aC P w I β hp B M w0) {pl:List Place} {o:Nat→Option Nat} {bs:List ag} {nb:Nat} {bk fr:List (Nat × ag)} {σ:List Place} (pw:σ=pl++qJ nb (bs.length-pl.length)) (yh:fr=oX σ nb (bs.drop pl.length))
  (jx:(pl.map Place.id).Nodup) (o9:pl.length≤bs.length)
  (CH: ∀(j:Nat) p,pl[j]? =some p→∃id b,p= .blk id∧(id,b)∈bk) (CI: ∀q∈bk,∃(j:Nat) (b:ag),pl[j]? =some (.blk q.1)∧bs[j]? =some b∧fI σ b q.2∧yg hp q)
  (hl: ∀j blk,hp0 j=some blk→∃p,dC pl j=some p∧dw P w β hp p (o j) blk) (hd: ∀j,j<pl.length→∃blk,hp0 j=some blk)
  (Sc:aC P w' I2 bL (iH bs) w.heap.size (nd P w o hp0) ⟨w,I⟩) (ve:jO w I o hp0 w' I2 bL (iH bs)) (ra: ∀q∈fr,hp q.1=none):
  ∃aj,Le P w I β hp w' I2 aj (bz hp (fr++bk))∧aC P w' I2 aj (bz hp (fr++bk)) B M w0∧od σ bL (iH bs) aj (bz hp (fr++bk)):=by
 generalize Hr:bz hp (fr++bk)=gd
 let aj:Nat→Option Nat:=fun n=>if∃q∈fr,q.1=n then bL (pl.length+(n-nb)) else β n
 have Ny: ∀(j:Nat) id,pl[j]? =some (.blk id)→∃c,hp0 j=some c∧dw P w β hp (.blk id) (o j) c:=by
  intro j id hj
  obtain ⟨c,hc⟩:=hd j (List.getElem?_eq_some_iff.1 hj).1
  obtain ⟨p,h1,h2⟩:=hl j c hc
  rw[ko,hj] at h1
  cases h1
  exact ⟨c,hc,h2⟩
 have uniq: ∀(j1 j2:Nat) id,pl[j1]? =some (.blk id)→pl[j2]? =some (.blk id)→j1=j2:=by
  intro j1 j2 id h1 h2
  have m1:(pl.map Place.id)[j1]? =some id:=by rw[List.getElem?_map,h1];rfl
  have m2:(pl.map Place.id)[j2]? =some id:=by rw[List.getElem?_map,h2];rfl
  obtain ⟨z1,z2⟩:=List.getElem?_eq_some_iff.1 m1
  obtain ⟨z3,z4⟩:=List.getElem?_eq_some_iff.1 m2
  exact (List.getElem_inj jx).1 (z2.trans z4.symm)
 have cls: ∀id,(∃i b,id=nb+i∧bs[pl.length+i]? =some b∧gd id=some (rT σ b)∧hp id=none∧aj id=bL (pl.length+i))∨
   (∃(j:Nat) (b b' c b0:ag),pl[j]? =some (.blk id)∧bs[j]? =some b∧hp0 j=some c∧dw P w β hp (.blk id) (o j) c∧hp id=some b0∧b0.le b'∧gd id=some b'∧fI σ b b'∧yg hp (id,b')∧aj id=β id∧c.le b∧(b≠ .dead→bL j=β id))∨
   (gd id=hp id∧(∀j:Nat,pl[j]? ≠some (.blk id))∧aj id=β id):=by
  intro id
  by_cases hm: ∃b,(id,b)∈fr++bk
  ·obtain ⟨b,hm⟩:=hm
   obtain ⟨b',xC,he⟩:=BN (hp:=hp) hm
   rw[Hr] at he
   rcases List.mem_append.1 xC with h|h
   ·have h0:=ra _ h
    have nf:aj id=bL (pl.length+(id-nb)):=if_pos ⟨_,h,rfl⟩
    rw[yh] at h
    obtain ⟨i,b1,k1,k2⟩:=Nq h
    rw[List.getElem?_drop] at k1
    cases k2
    exact .inl ⟨i,b1,rfl,k1,he,h0,by rw[nf];congr 2;omega⟩
   ·obtain ⟨j,b1,q1,q2,q3,q4⟩:=CI _ h
    obtain ⟨c,c1,c2⟩:=Ny j id q1
    obtain ⟨c3,b0,c4,c5⟩:=c2.Hq
    obtain ⟨b2,d1,d2,d3⟩:=ve.blk j c c1
    rw[gi,q2] at d1
    cases d1
    refine .inr (.inl ⟨j,b1,b',c,b0,q1,q2,c1,c2,c4,c2.XI c4 d2 q3 q4,he,q3,q4,if_neg ?_,d2,fun h=>(d3 h).trans c3⟩)
    rintro ⟨q,hq,XJ⟩
    rw[←XJ,ra q hq] at c4
    cases c4
  ·refine .inr (.inr ⟨?_,fun j hj=> ?_,if_neg ?_⟩)
   ·rcases sj (hp:=hp) (l:=fr++bk) (id:=id) with h|⟨b,hb,_⟩
    ·rw[Hr] at h;exact h
    ·exact absurd ⟨b,hb⟩ hm
   ·obtain ⟨az,b,e,hb⟩:=CH j _ hj
    cases e
    exact hm ⟨b,List.mem_append.2 (.inr hb)⟩
   ·rintro ⟨q,hq,rfl⟩
    exact hm ⟨q.2,List.mem_append.2 (.inl hq)⟩
 have Nz: ∀b,nd P w o hp0 b→∃(j id:Nat) (b1:ag),pl[j]? =some (.blk id)∧hp id=some b1∧bj P w (β id) b1 b∧∀e es,b1≠ .arr e es true:=by
  rintro b ⟨j,c,hc,ho⟩
  obtain ⟨p,h1,h2⟩:=hl j c hc
  rw[ko] at h1
  obtain ⟨id,b2,rfl,_⟩:=CH j p h1
  obtain ⟨b1,k1,k2,k3⟩:=h2.sO ho
  exact ⟨j,id,b1,h1,k1,k2,k3⟩
 have other: ∀id blk b,hp id=some blk→bj P w (β id) blk b→(∀j:Nat,pl[j]? ≠some (.blk id))→¬nd P w o hp0 b∧w'.heap[b]? =w.heap[b]? ∧(I2 b→I b):=by
  intro id blk b e1 e3 e4
  have ng: ¬nd P w o hp0 b:=by
   intro hx
   obtain ⟨j,az,b1,i1,i2,i3,_⟩:=Nz b hx
   have:=S.h.inj id az _ _ b e1 i2 e3 i3
   subst this
   exact e4 j i1
  have aK:=S.h.lt e1 e3
  refine ⟨ng,Sc.bR b aK ng,fun h=> ?_⟩
  rcases Sc.new b h with h|h|h
  ·exact h
  ·exact absurd h ng
  ·omega
 have qV:od σ bL (iH bs) aj gd:=by
  refine ⟨fun j b hj=> ?_,fun j hj=> ?_,fun j id ver path hj=> ?_⟩
  ·rw[gi] at hj
   by_cases cz:j<pl.length
   ·obtain ⟨id,b1,e,kh⟩:=CH j _ (List.getElem?_eq_getElem cz)
    have CJ:pl[j]? =some (.blk id):=by rw[List.getElem?_eq_getElem cz,e]
    have Hs:dC σ j=some (.blk id):=by rw[pw];exact na (by rw[ko];exact CJ)
    rcases cls id with ⟨i,b2,c1,c2,c3,c4,c5⟩|⟨j',b2,b',c,b0,q1,q2,q3,q4,q5,q6,q7,q8,q9,oe,vf,py⟩|⟨c1,c2,c3⟩
    ·obtain ⟨c,d1,d2⟩:=Ny j id CJ
     obtain ⟨_,b0,d3,_⟩:=d2.Hq
     rw[d3] at c4;cases c4
    ·obtain rfl:=uniq _ _ _ q1 CJ
     rw[hj] at q2;cases q2
     exact ⟨id,b',Hs,q7,q8,fun h=>oe.trans (py h).symm⟩
    ·exact absurd CJ (c2 j)
   ·have NA:=(List.getElem?_eq_some_iff.1 hj).1
    have Hs:dC σ j=some (.blk (nb+(j-pl.length))):=by
     rw[pw,ko,List.getElem?_append_right (by omega)]
     exact CG (by omega)
    have hm:(nb+(j-pl.length),rT σ b)∈fr:=by
     rw[yh]
     refine Nr ?_
     rw[List.getElem?_drop,show pl.length+(j-pl.length)=j by omega]
     exact hj
    rcases cls (nb+(j-pl.length)) with ⟨i,b2,c1,c2,c3,c4,c5⟩|⟨j',b2,b',c,b0,q1,q2,q3,q4,q5,q6,q7,q8,q9,oe,vf,py⟩|⟨c1,c2,c3⟩
    ·have hi:i=j-pl.length:=by omega
     subst hi
     rw[show pl.length+(j-pl.length)=j by omega] at c2 c5
     rw[hj] at c2;cases c2
     exact ⟨_,_,Hs,c3,.of σ _,fun _=>c5⟩
    ·rw[ra _ hm] at q5;cases q5
    ·obtain ⟨b',xC,he⟩:=BN (hp:=hp) (l:=fr++bk) (List.mem_append.2 (.inl hm))
     rw[Hr,c1,ra _ hm] at he
     cases he
  ·rw[gi] at hj
   have:=List.getElem?_eq_none_iff.1 hj
   rw[pw,ko,List.getElem?_eq_none_iff,List.length_append,Hp]
   omega
  ·rw[pw,ko] at hj
   by_cases cz:j<pl.length
   ·rw[List.getElem?_append_left cz] at hj
    obtain ⟨az,b1,e,_⟩:=CH j _ hj
    cases e
   ·have NA:j-pl.length<bs.length-pl.length:=by
     have:=(List.getElem?_eq_some_iff.1 hj).1
     rw[List.length_append,Hp] at this
     omega
    rw[List.getElem?_append_right (by omega),CG NA] at hj
    cases hj
 have hle:Le P w I β hp w' I2 aj gd:=by
  refine ⟨ve.cM,ve.bR,fun id blk aa=> ?_,fun id blk blk' b aa br pz hb=> ?_,fun id e es ai e' aG vers' b q i c t v e1 l aa br hb aK hv ht hc=> ?_⟩
  ·rcases cls id with ⟨i,b2,c1,c2,c3,c4,c5⟩|⟨j',b2,b',c,b0,q1,q2,q3,q4,q5,q6,q7,q8,q9,oe,vf,py⟩|⟨c1,c2,c3⟩
   ·rw[aa] at c4;cases c4
   ·rw[aa] at q5;cases q5
    exact ⟨b',q7,q6,fun _=>oe⟩
   ·exact ⟨blk,c1.trans aa,ag.le_refl _,fun _=>c3⟩
  ·rcases cls id with ⟨i,b2,c1,c2,c3,c4,c5⟩|⟨j',b2,b',c,b0,q1,q2,q3,q4,q5,q6,q7,q8,q9,oe,vf,py⟩|⟨c1,c2,c3⟩
   ·rw[aa] at c4;cases c4
   ·rw[q7] at br;cases br
    exact ve.size j' c b2 b q3 (by rw[gi];exact q2) (q8.Nu pz) (q4.Hq.1.trans hb)
   ·rw[c1,aa] at br
    cases br
    simp only[bsize,(other id blk b aa (.root pz hb) c2).2.1]
  ·rcases cls id with ⟨i2,b2,c1,c2,c3,c4,c5⟩|⟨j',b2,b',c',b0,q1,q2,q3,q4,q5,q6,q7,q8,q9,oe,vf,py⟩|⟨c1,c2,c3⟩
   ·rw[aa] at c4;cases c4
   ·rw[q7] at br;cases br
    obtain ⟨_,_,sQ,_,_,k1,k2⟩:=q9 ⟨_,_,_,rfl⟩
    change hp id=_ at k1
    rw[aa] at k1;cases k1
    cases k2
    rw[Nv aK] at hv
    omega
   ·rw[c1,aa] at br
    cases br
    exact ⟨l,rfl,hc.mono fun _ _ _ _ h=>(other id _ _ aa (.row hb h) c2).2.1⟩
 have place: ∀id blk b,gd id=some blk→bj P w' (aj id) blk b→(∃j c,iH bs j=some c∧bj P w' (bL j) c b∧dC σ j=some (.blk id))∨(b<w.heap.size∧¬nd P w o hp0 b∧hp id=some blk∧bj P w (β id) blk b):=by
  intro id blk b e1 e3
  rcases cls id with ⟨i,b2,c1,c2,c3,c4,c5⟩|⟨j',b2,b',c,b0,q1,q2,q3,q4,q5,q6,q7,q8,q9,oe,vf,py⟩|⟨c1,c2,c3⟩
  ·rw[c3] at e1;cases e1
   rw[c5] at e3
   refine .inl ⟨pl.length+i,b2,by rw[gi];exact c2,(fI.of σ b2).sO e3,?_⟩
   have:=(List.getElem?_eq_some_iff.1 c2).1
   rw[pw,ko,List.getElem?_append_right (by omega),CG (by omega),c1]
   congr 3
   omega
  ·rw[q7] at e1;cases e1
   have pz:b2≠ .dead:=q8.Nu e3.alive
   rw[oe,←py pz] at e3
   exact .inl ⟨j',b2,by rw[gi];exact q2,q8.sO e3,by rw[pw];exact na (by rw[ko];exact q1)⟩
  ·rw[c1] at e1
   rw[c3] at e3
   have:=e3.mono (w:=w) fun b hb=>(other id blk b e1 hb c2).2.1
   exact .inr ⟨S.h.lt e1 this,(other id blk b e1 this c2).1,e1,this⟩
 have qO: ∀b,nd P w o hp0 b∨w.heap.size≤b→M b∨B≤b:=by
  rintro b (h|h)
  ·obtain ⟨j,id,b1,i1,i2,i3,_⟩:=Nz b h
   exact S.h.own id b1 b i2 i3
  ·exact .inr (Nat.le_trans S.size h)
 have Ht: ∀j c b,iH bs j=some c→bj P w' (bL j) c b→nd P w o hp0 b∨w.heap.size≤b:=fun j c b h1 h2=>Sc.h.own j c b h1 h2
 refine ⟨aj,hle,⟨⟨fun id blk aa=> ?_,fun i1 i2 b1 b2 b e1 e2 f1 f2=> ?_,fun id blk b aa hb=> ?_,Sc.h.iK⟩,fun b hb hM=> ?_,Nat.le_trans S.size Sc.size,fun b hb=> ?_,⟨Sc.io.1.trans S.io.1,Sc.io.2.trans S.io.2⟩⟩,qV⟩
 ·rcases cls id with ⟨i,b2,c1,c2,c3,c4,c5⟩|⟨j',b2,b',c,b0,q1,q2,q3,q4,q5,q6,q7,q8,q9,oe,vf,py⟩|⟨c1,c2,c3⟩
  ·rw[c3] at aa;cases aa
   rw[c5]
   exact qV.Nt (Sc.h.rel _ b2 (by rw[gi];exact c2)) (.of σ b2)
  ·rw[q7] at aa;cases aa
   have:=qV.Nt (Sc.h.rel j' b2 (by rw[gi];exact q2)) q8
   by_cases pz:b2= .dead
   ·subst pz
    cases q8
    exact .dead
   ·rw[oe,←py pz]
    exact this
  ·rw[c1] at aa
   rw[c3]
   exact (S.h.rel id blk aa).mono hle fun b hb=>(other id blk b aa hb c2).2
 ·rcases place i1 b1 b e1 f1 with ⟨j1,c1,g1,g2,g3⟩|⟨g1,g2,g3,g4⟩<;>rcases place i2 b2 b e2 f2 with ⟨j2,c2,k1,k2,k3⟩|⟨k1,k2,k3,k4⟩
  ·have:=Sc.h.inj j1 j2 c1 c2 b g1 k1 g2 k2
   subst this
   rw[g3] at k3
   cases k3
   rfl
  ·rcases Ht j1 c1 b g1 g2 with h|h
   ·exact absurd h k2
   ·omega
  ·rcases Ht j2 c2 b k1 k2 with h|h
   ·exact absurd h g2
   ·omega
  ·exact S.h.inj i1 i2 _ _ b g3 k3 g4 k4
 ·rcases place id blk b aa hb with ⟨j1,c1,g1,g2,g3⟩|⟨g1,g2,g3,g4⟩
  ·exact qO b (Ht j1 c1 b g1 g2)
  ·exact S.h.own id blk b g3 g4
 ·refine (Sc.bR b (Nat.lt_of_lt_of_le hb S.size) fun hx=> ?_).trans (S.bR b hb hM)
  rcases qO b (.inl hx) with h|h
  ·exact hM h
  ·omega
 ·rcases Sc.new b hb with h|h|h
  ·exact S.new b h
  ·exact .inr (qO b (.inl h))
  ·exact .inr (qO b (.inr h))
end
section
variable {P:Program} {A:ch} {w w':World} {I I' I2:Nat→Prop} {μ β aj bL:Nat→Option Nat} {hp hp' hp0 a9:Nat→Option ag} {C:ae} {B:Nat} {M:Nat→Prop} {w0:Start}
theorem NB (hp:Nat→Option ag): ∀(a b:List (Nat × ag)),bz hp (a++b)=bz (bz hp b) a
 | [],b=>rfl
 | (i,x)::a,b=>by simp only[List.cons_append,bz,NB hp a b]
theorem sR {hp:Nat→Option ag} {l:List (Nat × ag)} {id:Nat} (h: ∀q∈l,q.1≠id):bz hp l id=hp id:=by
 rcases sj (hp:=hp) (l:=l) (id:=id) with h1|⟨b,hb,_⟩
 ·exact h1
 ·exact absurd rfl (h _ hb)
def vg (P : Program) : Prop := ∀ (f : Nat) fn, P.funcs[f]? = some fn → (fn.name == "runtime.NumGoroutine") = false
def CK (P:Program) (f:FuncId) (e:TypeId):Prop:=
 (∀args w,(callFunc f args).run P w= .ok (.enter f args) w)∧∃t,P.underlying t=some (.slice e)∧
  ∀(s:Value) (w:World) (Q:Ending→World→Prop),(s= .slice none 0 0→Q (.returned (.slice none 0 0)) w)→
   (∀a n c,s= .slice (some a) n c→∃v w',(Builtin.append_ #[t,t] t #[.slice (some ⟨w.heap.size,0,none⟩) 0 0,s]).run P (w.alloc (.cells #[] e))= .ok v w'∧Q (.returned v) w')→
   (s= .slice none 0 0∨∃a n c,s= .slice (some a) n c)→Calls P f #[s] w Q
structure iw (P:Program) (A:ch):Prop where
 count:vg P
 ext: ∀f T,A.ext f=some T→∀(b:Nat) (C:Array Value) (w:World),w.heap[b]? =some (.cells C T (0,0))→C.size=P.cellsOf T→(C[0]? =some (.pointer none)∨C[0]? =some (.pointer (some ⟨b,0,none⟩)))→
  (callFunc f #[.pointer (some ⟨b,0,none⟩)]).run P w= .ok (.enter f #[.pointer (some ⟨b,0,none⟩)]) w∧
  Calls P f #[.pointer (some ⟨b,0,none⟩)] w fun e w'=>e= .returned (.tuple #[])∧(w'=w∨w'=w.setCell ⟨b,0,none⟩ (.pointer (some ⟨b,0,none⟩)))
 idle: ∀f,A.idle f=true→(∀args w,(callFunc f args).run P w= .ok (.enter f args) w)∧
  ∀args w,CallsD P f args .returning w fun e u' w'=>(∃v,e= .returned v)∧u'= .returning∧w'=w
 mN: ∀f e,A.mN f=some e→CK P f e
theorem iw.here {P:Program} {A:ch} (h:iw P A) (f id:Nat):iw P (A.here f id):=⟨h.count,h.ext,h.idle,h.mN⟩
def yi (E:FuncId→Bool) (d:Deferred):Prop:= ∃f cap,d.target= .fn (.func f) cap∧E f=true
theorem Hu {P:Program} {A:ch} (hP:iw P A) {fn:Func} {tmps:Array Value} {R:Ending→World→Prop} {w:World} {v:Value} (hv:(results fn tmps).run P w= .ok v w) (hR:R (.returned v) w):
  ∀ds:List Deferred,(∀d∈ds,yi A.idle d)→Leaves P fn tmps R ds .returning w
 | [],_=>⟨v,hv,hR⟩
 | d::ds,h=>by
  obtain ⟨f,cap,ht,hf⟩:=h d (by simp)
  obtain ⟨k1,k2⟩:=hP.idle f hf
  obtain ⟨t,NC⟩:=d
  simp only at ht
  subst ht
  refine leaves_cons (f:=f) (args:=NC++cap) (by simp) ?_ ?_
  ·simp only[invoke];exact k1 _ w
  ·refine (k2 (NC++cap) w).mono fun e u' w' hr=> ?_
   obtain ⟨⟨v',rfl⟩,rfl,rfl⟩:=hr
   exact Hu hP hv hR ds fun d hd=>h d (List.mem_cons_of_mem _ hd)
def yj (P:Program) (A:ch) (o:Oper) (a:Act) (w:World) (I:Nat→Prop) (β:Nat→Option Nat) (hp:Nat→Option ag) (B:Nat) (M:Nat→Prop) (w0:Start) (r:R):Prop:=
 ∀(next:Act→World→Prop) (Q:Exit→Act→World→Prop),
  (∀v w' I' aj ds,Le P w I β hp w' I' aj (bz hp r.upd)→aC P w' I' aj (bz hp r.upd) B M w0→ah P w' I' aj (bz hp r.upd) v r.v→(∀d∈ds,d∈a.defers∨yi A.idle d)→next ({a with defers:=ds}.put o.dst v) w')→o.wp P a w next Q
theorem nR.step {o:Oper} {a:Act} {r:R} (h:nR P ((execOp a.eval o).run P w) w I β hp B M w0 r):yj P A o a w I β hp B M w0 r:=by
 obtain ⟨v,w',I',aj,h1,h2,h3,h4⟩:=h
 intro next Q hn
 unfold Oper.wp
 rcases h1 with h1|⟨h1,rfl⟩
 ·rw[h1];exact hn v w' I' aj a.defers h2 h3 h4 fun d hd=> .inl hd
 ·rw[h1];exact hn _ w' I' aj a.defers h2 h3 h4 fun d hd=> .inl hd
theorem ND: ∀(l:List (Nat × VS)),mP l=qI (l.map (·.2))
 | []=>rfl
 | (_,s)::l=>by simp only[mP,List.map_cons,qI,ND l]
theorem XK (hC:jP P A C) (S:aC P w I β hp B M w0) (hg:gb P A.aA w I) {vals:List Value} {args:List V} {nb key:Nat} {f:FuncId} {r:R} {rd:List Nat} (hlen:vals.length=args.length)
  (cj: ∀(j:Nat) v x,vals[j]? =some v→args[j]? =some x→ah P w I β hp v x) (h:(xh P A nb key f args).run C hp=some (r,rd)):
  ∃fn c,P.funcs[f]? =some fn∧fn.body=some c∧Calls P f vals.toArray w fun e w'=> ∃v I' aj,e= .returned v∧Le P w I β hp w' I' aj (bz hp r.upd)∧aC P w' I' aj (bz hp r.upd) B M w0∧ah P w' I' aj (bz hp r.upd) v r.v:=by
 unfold xh at h
 obtain ⟨NF,h0⟩:=aD h
 clear h
 rw[Nat.beq_eq] at NF
 subst NF
 obtain ⟨h1,iv,d1,u1,a1,a2,a3,a5,a4⟩:=Hm S h0 hlen cj
 obtain ⟨h2,q0,d2,u2,b1,b2,b3,b4⟩:=Ni S a1
 clear h0 a1
 obtain ⟨hc,h3⟩:=aD b1
 clear b1
 simp only[Bool.and_eq_true,Nat.beq_eq,Bool.not_eq_true'] at hc
 obtain ⟨e8,sP⟩:=hc
 have rb:=a2.trans b2
 have j5:h2.ds=d1++d2:=by have:=rb.ds;simpa using this
 have CL:h2.upd=u1++u2:=by have:=rb.upd;simpa using this
 have jx:(h2.pl.map Place.id).Nodup:=rb.nodup (by simp)
 obtain ⟨c1,o,c2,c3⟩:=b4 []
 simp only[List.append_nil] at c1 c2 c3
 cases yk:C key h2.ds with
 | none=>
  simp only[Rd.run,yk] at h3
  cases h3
 | some es=>
  have o5: ∃eu,(xg P (A.so key es) nb h2 (A.lv key es)).run C hp=some (r,eu):=by
   obtain ⟨x,hx,e⟩:=bind_some h3
   rw[yk] at hx
   cases hx
   unfold ch.so ch.lv
   cases bU:A.alt key with
   | none=>rw[bU] at e;exact ⟨_,e⟩
   | some S2=>
    rw[bU] at e
    simp only[Rd.run] at e
    cases hb:(V.nth es 0).toBool<;>(rw[hb] at e;exact ⟨_,e⟩)
  clear h3
  obtain ⟨eu,h3⟩:=o5
  unfold xg at h3
  simp only at h3
  generalize gf:eb (A.so key es).aP ((A.lv key es).drop (mP (A.so key es).bu))=bs at h3
  generalize pw:h2.pl++qJ nb (bs.length-h2.pl.length)=σ at h3
  generalize yh:oX σ nb (bs.drop h2.pl.length)=fr at h3
  obtain ⟨p0,bk,rd4,p1,p2,_,p3⟩:=Np h3
  obtain ⟨ra,rd5,p4⟩:=Ns p1
  obtain rfl:=aH p4
  have o9:h2.pl.length≤bs.length:=by rw[List.length_take] at p0;omega
  have CI: ∀q∈bk,∃(j:Nat) (b:ag),h2.pl[j]? =some (.blk q.1)∧bs[j]? =some b∧fI σ b q.2∧yg hp q:=by
   intro q hq
   rcases p2 q hq with hx|⟨j,b,k1,k2,k3,k4⟩
   ·simp at hx
   ·have hj:=(List.getElem?_eq_some_iff.1 k1).1
    rw[List.getElem?_take_of_lt hj] at k2
    exact ⟨j,b,k1,k2,k3,k4⟩
  obtain ⟨fn,c,hf,hb,Hv⟩:=hC key h2.ds es yk
  refine ⟨fn,c,hf,hb,?_⟩
  have XL:eb (A.sin key).aP (h2.ds.drop (mP (A.sin key).bu))=eb (A.sin key).aP d2:=by
   rw[j5,ND,me a3]
  have Hw:(aX (A.sin key) h2.ds).hp=iH (eb (A.sin key).aP d2):=by
   simp only[aX,mk,XL]
  have hl: ∀j blk,(aX (A.sin key) h2.ds).hp j=some blk→∃p,dC h2.pl j=some p∧dw P w β hp p (o j) blk:=by
   intro j blk hj
   rw[Hw,gi] at hj
   obtain ⟨p,k1,k2⟩:=c2 j blk hj
   rw[Nat.zero_add] at k1
   exact ⟨p,k1,k2⟩
  have hd: ∀j,j<h2.pl.length→∃blk,(aX (A.sin key) h2.ds).hp j=some blk:=by
   intro j hj
   rw[Hw,gi]
   exact ⟨_,List.getElem?_eq_getElem (by rw[c1,←e8];exact hj)⟩
  have NG:yc P w β hp h2.pl o (aX (A.sin key) h2.ds).hp:=by
   intro j p hj
   obtain ⟨blk,k1⟩:=hd j (by rw[ko] at hj;exact (List.getElem?_eq_some_iff.1 hj).1)
   obtain ⟨p',k2,k3⟩:=hl j blk k1
   rw[hj] at k2
   cases k2
   exact ⟨blk,k1,k3⟩
  obtain ⟨pg,S1⟩:=xB S rb.Cz
  rw[←CL] at pg S1
  have i1: ∀b,I b→gS P w I β hp h2.upd b:=fun b h=> .inl h
  have entry:=XE (hp0:=(aX (A.sin key) h2.ds).hp) S jx sP hl (fun cu j blk hj=>by
   have fP:=hj
   rw[Hw,gi] at fP
   exact c3 (gS P w I β hp h2.upd) o _ i1 (fun q hq b hb=> .inr ⟨q,by rw[CL];exact List.mem_append.2 (.inr hq),hb⟩) h2.pl [] (by simp) NG j blk fP (cu j blk hj)) S1.h.iK
  have XM:vals.length=(A.sin key).bu.length:=by rw[hlen,←a5];simp
  have ha:=Hv w (gS P w I β hp h2.upd) o vals entry (hg.mono i1 fun _ _=>rfl) XM fun j v x hj hx=>by
   rw[j5] at hx
   exact (((a4.later b2) (gS P w I β hp h2.upd) o _ i1 (fun q hq b hb=> .inr ⟨q,by rw[CL];exact hq,hb⟩) h2.pl [] (by simp) NG) d2).2 j v x hj hx
  refine ha.mono fun e w' yl=> ?_
  obtain ⟨v,I2,bL,rfl,ha⟩:=yl
  have vh:(aX (A.so key es) (A.lv key es)).hp=iH bs:=by simp only[aX,mk,gf]
  cases XN:(A.so key es).safe P with
  | true=>
   simp only[cond_true,List.append_nil]
   have ma: ∀b,I b→I2 b:=fun b h=>ha.le.cM b (i1 b h)
   obtain ⟨s1,s2⟩:=XH XN ma ha.vd i1
   have ve:jO w I o (aX (A.sin key) h2.ds).hp w' I bL (iH bs):=by
    rw[←vh]
    exact ⟨fun _ h=>h,fun b h=>ha.le.bR b (i1 b h),ha.le.blk,ha.le.size⟩
   obtain ⟨aj,k1,k2,k3⟩:=Nx S pw.symm yh.symm jx o9 p3 CI hl hd (by rw[←vh];exact ⟨s1.h,s1.bR,s1.size,fun b h=> .inl h,s1.io⟩) ve ra
   exact ⟨v,I,aj,rfl,k1,k2,k3.val (by have:=s2 v ha.res;rw[vh] at this;exact this)⟩
  | false=>
   simp only[cond_false]
   rw[←List.append_assoc,NB]
   have ng: ∀p∈h2.pl,bz hp h2.upd p.id=hp p.id:=fun p hp=>sR fun q hq e=>
    CF sP (List.mem_map.2 ⟨q,hq,rfl⟩) (e▸List.mem_map.2 ⟨p,hp,rfl⟩)
   have XO: ∀q∈bk,∃(j:Nat) (b:ag),h2.pl[j]? =some (.blk q.1)∧bs[j]? =some b∧fI σ b q.2∧yg (bz hp h2.upd) q:=by
    intro q hq
    obtain ⟨j,b,k1,k2,k3,k4⟩:=CI q hq
    refine ⟨j,b,k1,k2,k3,fun hn=> ?_⟩
    have:=ng _ (List.mem_of_getElem? k1)
    simp only[Place.id] at this
    rw[this]
    exact k4 hn
   have uH: ∀j blk,(aX (A.sin key) h2.ds).hp j=some blk→∃p,dC h2.pl j=some p∧dw P w β (bz hp h2.upd) p (o j) blk:=by
    intro j blk hj
    obtain ⟨p,k1,k2⟩:=hl j blk hj
    exact ⟨p,k1,k2.other (ng p (by rw[ko] at k1;exact List.mem_of_getElem? k1))⟩
   have XP: ∀q∈fr,bz hp h2.upd q.1=none:=by
    intro q hq
    rw[sR fun q' bM e=> ?_]
    ·exact ra q hq
    ·obtain ⟨e1,bY,_,h5⟩:=rb.Cz q' (CL▸bM)
     rw[e,ra q hq] at h5
     rcases h5 with ⟨_,h5⟩|⟨_,h5⟩<;>cases h5
   obtain ⟨aj,k1,k2,k3⟩:=Nx S1 pw.symm yh.symm jx o9 p3 XO uH hd (by rw[←vh];exact ha.vd) (by rw[←vh];exact ha.le) XP
   exact ⟨v,I2,aj,rfl,pg.trans k1,k2,k3.val (by have:=ha.res;rw[vh] at this;exact this)⟩
theorem NH (hC:jP P A C) (hP:iw P A) (S:aC P w I β hp B M w0) (hg:gb P A.aA w I) {a:Act} {nb key:Nat} {o:Oper} {f:FuncId} {vals:List Value} {args:List V} (hlen:vals.length=args.length)
  (cj: ∀(j:Nat) v x,vals[j]? =some v→args[j]? =some x→ah P w I β hp v x) {r:R} {rd:List Nat} (h:(xh P A nb key f args).run C hp=some (r,rd))
  (hex:(execOp a.eval o).run P w=(callFunc f vals.toArray).run P w):yj P A o a w I β hp B M w0 r:=by
 intro next Q hn
 obtain ⟨fn,c,hf,hb,Hv⟩:=XK hC S hg hlen cj h
 unfold Oper.wp
 rw[hex,MuLone.run_callFunc_enter hf (hP.count f _ hf) hb,Oper.upon_enter]
 refine Hv.mono fun e w' yl=> ?_
 obtain ⟨v,I2,bL,rfl,k1,k2,k3⟩:=yl
 exact hn v w' I2 bL a.defers k1 k2 k3 fun d hd=> .inl hd
theorem jJ.args {a:Act} {sl:Nat→V} (hs:jJ P w I β hp a sl) (hg:gb P A.aA w I) {args:Array Operand} {ts:Array TypeId} (aO:args.size=ts.size):
  (args.map a.eval).toList.length=((args.toList.zip ts.toList).map fun p=>aI P A.aA p.2 sl p.1).length∧
  ∀(j:Nat) v x,(args.map a.eval).toList[j]? =some v→((args.toList.zip ts.toList).map fun p=>aI P A.aA p.2 sl p.1)[j]? =some x→ah P w I β hp v x:=by
 refine ⟨by simp;omega,fun j v x hv hx=> ?_⟩
 simp only[Array.toList_map,List.getElem?_map,List.getElem?_zip_eq_some,Option.map_eq_some_iff] at hv hx
 obtain ⟨x1,ym,rfl⟩:=hv
 obtain ⟨⟨y1,t1⟩,⟨NI,_⟩,rfl⟩:=hx
 rw[ym] at NI
 cases NI
 exact hs.ev hg t1 _
theorem NJ {vs us:List Value} {xs ys:List V} (h1:vs.length=xs.length) (h2: ∀(j:Nat) v x,vs[j]? =some v→xs[j]? =some x→ah P w I β hp v x)
  (h3: ∀(j:Nat) v x,us[j]? =some v→ys[j]? =some x→ah P w I β hp v x) (j:Nat) (v:Value) (x:V) (hv:(vs++us)[j]? =some v) (hx:(xs++ys)[j]? =some x):ah P w I β hp v x:=by
 by_cases hj:j<vs.length
 ·rw[List.getElem?_append_left hj] at hv
  rw[List.getElem?_append_left (by omega)] at hx
  exact h2 j v x hv hx
 ·rw[List.getElem?_append_right (by omega)] at hv
  rw[List.getElem?_append_right (by omega)] at hx
  rw[h1] at hv
  exact h3 _ v x hv hx
theorem XQ (hP:iw P A) (S:aC P w I β hp B M w0) (hg:gb P A.aA w I) {a:Act} {sl:Nat→V} (hs:jJ P w I β hp a sl) {dst:Option Tmp} {ty e:TypeId} {pos:String} {after:Array Edge} {guard:Option (Nat × Bool)} {f:FuncId}
  {args:Array Operand} {argTypes:Array TypeId} {nb:Nat} {r:R} {rd:List Nat} (km:A.mN f=some e)
  (h:((match args.toList with
    | [x]=> .ay (cw P e) (qG e (aI P A.aA ty sl x) fun xs=> .ay (Nat.ble (xs.length*P.bytesOf e) b7) (ij nb (.arr e xs false) (.whole e nb) []))
    | _=> .fail):Rd R).run C hp=some (r,rd)):yj P A (Oper.mk dst (.call (Go.Call.mk (.value (.func f)) args argTypes)) ty pos after guard) a w I β hp B M w0 r:=by
 cases ha:args.toList with
 | nil=>rw[ha] at h;cases h
 | cons x l=>
  rw[ha] at h
  cases l with
  | cons _ _=>cases h
  | nil=>
   simp only at h
   have e1:args= #[x]:=by rw[←Array.toArray_toList (xs:=args),ha]
   subst e1
   have hx:=hs.ev hg ty x
   obtain ⟨aq,h⟩:=aD h
   have fin: ∀{w1:World} {CM:Nat→Option Nat},(∀id blk,hp id=some blk→dt P w1 I CM hp (CM id) blk)→ah P w1 I CM hp (a.eval x) (aI P A.aA ty sl x)→∃xs,(((∃a',a.eval x= .slice a' 0 0)∧xs=[])∨∃a' c news,Row P w1 I e (a.eval x) xs a' c news)∧
     xs.length*P.bytesOf e≤b7∧hp nb=none∧r=⟨.whole e nb,[(nb,.arr e xs false)]⟩:=by
    intro w1 CM h1 h2
    obtain ⟨xs,kj,l,h⟩:=Ch h1 aq h2 h
    obtain ⟨dO,h⟩:=aD h
    rw[Nat.ble_eq] at dO
    obtain ⟨hn,rfl⟩:=lZ h
    exact ⟨xs,kj,dO,hn,rfl⟩
   obtain ⟨c1,t,hu,c2⟩:=hP.mN f e km
   intro next Q vi
   unfold Oper.wp
   have e2:(execOp a.eval ⟨dst,.call ⟨.value (.func f),#[x],argTypes⟩,ty,pos,after,guard⟩).run P w= .ok (.enter f #[a.eval x]) w:=by
    have ew:a.eval (.func f)= .func (.func f) #[] #[]:=rfl
    simpa[execOp,resolve,ew,Deferred.ofValue,invoke] using c1 #[a.eval x] w
   rw[e2,Oper.upon_enter]
   refine c2 _ w _ (fun yn=> ?_) (fun b n c uX=> ?_) ?_
   ·obtain ⟨xs,kj,dO,hn,rfl⟩:=fin S.h.rel hx
    have fQ:xs=[]:=by
     rcases kj with ⟨_,h⟩|⟨a,c,news,hr⟩
     ·exact h
     ·have:=hr.val.symm.trans yn
      cases this
    subst fQ
    obtain ⟨a1,a2⟩:=BQ S e hn
    exact vi _ w I _ a.defers a1 a2 (.dg (cy _ _ _) (cy _ _ _)) fun d hd=> .inl hd
   ·obtain ⟨m1,m2⟩:=Vr (w':=w.alloc (.cells #[] e)) S (fun b hb=>heap_alloc_old w _ b hb) (by simp) ⟨rfl,rfl⟩
    obtain ⟨xs,kj,dO,hn,rfl⟩:=fin m2.h.rel (hx.mono m1)
    obtain ⟨v,w',aj,a1,a2,a3,a4⟩:=GR (ty:=t) (a0:=some ⟨w.heap.size,0,none⟩) m2 hu aq hn dO kj
    exact ⟨v,w',a1,vi v w' I aj a.defers (m1.trans a2) a3 a4 fun d hd=> .inl hd⟩
   ·obtain ⟨xs,kj,dO,hn,rfl⟩:=fin S.h.rel hx
    rcases kj with ⟨⟨b,h⟩,_⟩|⟨b,c,news,hr⟩
    ·rw[h]
     cases b with
     | none=>exact .inl rfl
     | some b=>exact .inr ⟨_,_,_,rfl⟩
    ·exact .inr ⟨_,_,_,hr.val⟩
theorem XR (hP:iw P A) (S:aC P w I β hp B M w0) (hg:gb P A.aA w I) {a:Act} {sl:Nat→V} (hs:jJ P w I β hp a sl) {dst:Option Tmp} {ty T0:TypeId} {pos:String} {after:Array Edge} {guard:Option (Nat × Bool)} {f:FuncId}
  {args:Array Operand} {argTypes:Array TypeId} {r:R} {rd:List Nat} (yo:A.ext f=some T0)
  (h:((match args.toList with
   | [x]=>
    match aI P A.aA ty sl x with
    | .ptr id i c=>Rd.get id fun
     | some (.var T cs)=> .ay (Nat.beq T T0&&(nH P T&&(Nat.beq cs.length (P.cellsOf T)&&(Nat.beq i 0&&Nat.beq c 0)))) (.ret ⟨.aQ [],[(id,.var T (.undef::cs.tail))]⟩)
     | _=> .fail
    | _=> .fail
   | _=> .fail):Rd R).run C hp=some (r,rd)):yj P A (Oper.mk dst (.call (Go.Call.mk (.value (.func f)) args argTypes)) ty pos after guard) a w I β hp B M w0 r:=by
 cases ha:args.toList with
 | nil=>rw[ha] at h;cases h
 | cons x l=>
  rw[ha] at h
  cases l with
  | cons _ _=>cases h
  | nil=>
   simp only at h
   have e1:args= #[x]:=by rw[←Array.toArray_toList (xs:=args),ha]
   subst e1
   have hx:=hs.ev hg ty x
   cases eM:aI P A.aA ty sl x<;>rw[eM] at h hx<;>simp only at h<;>first|(cases h;done)|skip
   rename_i id i c
   obtain ⟨l,h1⟩:=run_get h
   cases aa:hp id with
   | none=>rw[aa] at h1;cases h1
   | some blk=>
    rw[aa] at h1
    cases blk<;>simp only at h1<;>first|(cases h1;done)|skip
    rename_i T cs
    obtain ⟨h2,h3⟩:=aD h1
    simp only[Bool.and_eq_true,Nat.beq_eq] at h2
    obtain ⟨rfl,bZ,XS,rfl,rfl⟩:=h2
    obtain rfl:=aH h3
    obtain ⟨b,hb,he⟩:=hx.gg aa (by simp)
    have hr:=S.h.rel id _ aa
    rw[hb] at hr
    cases hr with
    | @var _ b' Ca _ au hh aO hI fQ fF=>
     cases au
     have sF:a.eval x= .pointer (some ⟨b,0,none⟩):=by rw[he];simp[ag.sz]
     obtain ⟨q1,q2⟩:=hP.ext f T yo b Ca w hh (aO.trans XS) (fF bZ)
     have h0:0<Ca.size:=by
      rcases fF bZ with k|k<;>exact (Array.getElem?_eq_some_iff.1 k).1
     have mX:(V.undef::cs.tail).length=cs.length:=by
      cases cs with
      | nil=>rw[aO] at h0;simp at h0
      | cons _ _=>rfl
     have rel: ∀(C':Array Value),(∀j,0<j→C'[j]? =Ca[j]?)→∀(j:Nat) v y,C'[j]? =some v→(V.undef::cs.tail)[j]? =some y→ah P w I β hp v y:=by
      intro C' u0 j v y hj hy
      cases j with
      | zero=>simp at hy;subst hy;exact .undef
      | succ j=>
       rw[u0 _ (by omega)] at hj
       refine fQ (j+1) v y hj ?_
       cases cs with
       | nil=>rw[aO] at h0;simp at h0
       | cons _ _=>simpa using hy
     have fin: ∀w' C',(∀b',b'≠b→w'.heap[b']? =w.heap[b']?)→w'.heap[b]? =some (.cells C' T (0,0))→C'.size=Ca.size→w.heap.size≤w'.heap.size→w'.os=w.os∧w'.output=w.output→
       (∀j,0<j→C'[j]? =Ca[j]?)→(C'[0]? =some (.pointer none)∨C'[0]? =some (.pointer (some ⟨b,0,none⟩)))→
       Le P w I β hp w' I β (aF hp id (some (.var T (V.undef::cs.tail))))∧aC P w' I β (aF hp id (some (.var T (V.undef::cs.tail)))) B M w0:=by
      intro w' C' k1 k2 k3 k4 k5 k6 k7
      exact BT (w':=w') (blk':= .var T (V.undef::cs.tail)) S aa (by simp) rfl hb hI (by simp) k1 (by rw[lR k2,lR hh,k3]) k4 k5 fun hle=>
       .var rfl k2 (by rw[k3,aO,mX]) hI (fun j v y hj hy=>(rel C' k6 j v y hj hy).mono hle) fun _=>k7
     intro next Q hn
     unfold Oper.wp
     have e2:(execOp a.eval ⟨dst,.call ⟨.value (.func f),#[x],argTypes⟩,ty,pos,after,guard⟩).run P w= .ok (.enter f #[.pointer (some ⟨b,0,none⟩)]) w:=by
      have ew:a.eval (.func f)= .func (.func f) #[] #[]:=rfl
      simpa[execOp,resolve,ew,Deferred.ofValue,invoke,sF] using q1
     rw[e2,Oper.upon_enter]
     refine q2.mono fun e w' yl=> ?_
     obtain ⟨rfl,hw⟩:=yl
     have NK:Le P w I β hp w' I β (aF hp id (some (.var T (V.undef::cs.tail))))∧aC P w' I β (aF hp id (some (.var T (V.undef::cs.tail)))) B M w0:=by
      rcases hw with rfl|rfl
      ·exact fin w' Ca (fun _ _=>rfl) hh rfl (Nat.le_refl _) ⟨rfl,rfl⟩ (fun _ _=>rfl) (fF bZ)
      ·refine fin (w.setCell ⟨b,0,none⟩ (.pointer (some ⟨b,0,none⟩))) (Ca.setIfInBounds 0 (.pointer (some ⟨b,0,none⟩))) (fun b' bA=> ?_) ?_ (by simp) (by simp[World.setCell]) ⟨rfl,rfl⟩ (fun j hj=> ?_) (.inr ?_)
       ·simp only[World.setCell,Array.getElem?_modify]
        rw[if_neg (fun e=>bA e.symm)]
       ·simp[World.setCell,Array.getElem?_modify,hh]
       ·rw[Array.getElem?_setIfInBounds_ne (by omega)]
       ·rw[Array.getElem?_setIfInBounds_self_of_lt h0]
     exact hn (.tuple #[]) w' I β a.defers NK.1 NK.2 (.aQ rfl fun j v y hj _=>by simp at hj) fun d hd=> .inl hd
theorem XT (hC:jP P A C) (hP:iw P A) (S:aC P w I β hp B M w0) (hg:gb P A.aA w I) {a:Act} {sl:Nat→V} (hs:jJ P w I β hp a sl) {ix nb:Nat} {o:Oper} {r:R} {rd:List Nat}
  (h:(eZ P A sl ix nb o).run C hp=some (r,rd)):yj P A o a w I β hp B M w0 r:=by
 cases hc:Hd o.op with
 | false=>exact (Xj S hg hs hc h).step
 | true=>
  obtain ⟨dst,op,ty,pos,after,guard⟩:=o
  cases op<;>simp only[Hd] at hc<;>first|(cases hc;done)|skip
  case defer c=>
   obtain ⟨callee,args,argTypes⟩:=c
   cases callee with
   | invoke r m=>simp only[eZ] at h;cases h
   | builtin b=>simp only[eZ] at h;cases h
   | value f=>
   cases f with
   | tmp t=>
    simp only[eZ] at h
    cases bZ:sl t<;>rw[bZ] at h<;>simp only at h<;>first|(cases h;done)|skip
    rename_i f xs ys
    obtain ⟨h1,h2⟩:=aD h
    obtain rfl:=aH h2
    have hv:=hs t
    rw[bZ] at hv
    generalize sJ:a.tmps.getD t undef=vt at hv
    cases hv with
    | @fn _ fs cs _ _ q1 q2 q3 q4=>
     intro next Q hn
     unfold Oper.wp
     have ew:a.eval (.tmp t)= .func (.func f) fs cs:=sJ
     have e1:(execOp a.eval ⟨dst,.defer ⟨.value (.tmp t),args,argTypes⟩,ty,pos,after,guard⟩).run P w= .ok (.defer {target:= .fn (.func f) cs,args:=fs++args.map a.eval}) w:=by
      simp[execOp,resolve,ew,Deferred.ofValue]
     rw[e1,Oper.upon_defer]
     exact hn undef w I β _ (Le.refl w I β hp) S .undef fun d hd=>by
      rcases List.mem_cons.1 hd with rfl|hd
      ·exact .inr ⟨f,cs,rfl,h1⟩
      ·exact .inl hd
   | func f=>simp only[eZ] at h;cases h
   | const _=>simp only[eZ] at h;cases h
   | global _=>simp only[eZ] at h;cases h
  rename_i c
  obtain ⟨callee,args,argTypes⟩:=c
  cases callee with
  | invoke r m=>cases hc
  | builtin b=>cases hc
  | value f=>
   cases f with
   | func f=>
    simp only[eZ] at h
    cases yo:A.ext f with
    | some T0=>
     rw[yo] at h
     simp only at h
     exact XR hP S hg hs yo h
    | none=>
    rw[yo] at h
    simp only at h
    cases km:A.mN f with
    | some e0=>
     rw[km] at h
     simp only at h
     exact XQ hP S hg hs km h
    | none=>
    rw[km] at h
    simp only at h
    obtain ⟨h1,h2⟩:=aD h
    rw[Nat.beq_eq] at h1
    obtain ⟨k1,k2⟩:=hs.args hg h1
    refine NH hC hP S hg k1 k2 h2 ?_
    have e1:(args.map a.eval).toList.toArray=args.map a.eval:=Array.toArray_toList
    rw[e1]
    simp[execOp,resolve,Act.eval,Deferred.ofValue,invoke]
   | tmp t=>
    simp only[eZ] at h
    cases bZ:sl t<;>rw[bZ] at h<;>simp only at h<;>first|(cases h;done)|skip
    rename_i f xs ys
    obtain ⟨h1,h2⟩:=aD h
    rw[Nat.beq_eq] at h1
    obtain ⟨k1,k2⟩:=hs.args hg h1
    have hv:=hs t
    rw[bZ] at hv
    generalize sJ:a.tmps.getD t undef=vt at hv
    cases hv with
    | @fn _ fs cs _ _ q1 q2 q3 q4=>
     have l1:fs.toList.length=xs.length:=by simpa using q1
     have l3:cs.toList.length=ys.length:=by simpa using q3
     have r1: ∀(j:Nat) v x,fs.toList[j]? =some v→xs[j]? =some x→ah P w I β hp v x:=fun j v x hj hx=>q2 j v x (by simpa using hj) hx
     have r3: ∀(j:Nat) v x,cs.toList[j]? =some v→ys[j]? =some x→ah P w I β hp v x:=fun j v x hj hx=>q4 j v x (by simpa using hj) hx
     refine NH hC hP S hg (vals:=fs.toList++(args.map a.eval).toList++cs.toList) (args:=xs++((args.toList.zip argTypes.toList).map fun p=>aI P A.aA p.2 sl p.1)++ys) (by simp only[List.length_append];omega) ?_ h2 ?_
     ·exact NJ (by simp only[List.length_append];omega) (NJ l1 r1 k2) r3
     ·have e1:(fs.toList++(args.map a.eval).toList++cs.toList).toArray=fs++args.map a.eval++cs:=by
       apply Array.toList_inj.1;simp
      rw[e1]
      have ew:a.eval (.tmp t)= .func (.func f) fs cs:=sJ
      simp[execOp,resolve,ew,Deferred.ofValue,invoke]
   | _=>cases hc
end
section
variable {P:Program} {A:ch} {w w':World} {I I' I2:Nat→Prop} {μ β aj:Nat→Option Nat} {hp hp':Nat→Option ag} {C:ae} {B:Nat} {M:Nat→Prop} {w0:Start}
structure gY (P:Program) (E:FuncId→Bool) (G:Nat→V) (w:World) (I:Nat→Prop) (β:Nat→Option Nat) (n:Nat) (a:Act) (st:St):Prop where
 sl:jJ P w I β st.hp a st.sl
 size:a.tmps.size=n
 defers: ∀d∈a.defers,yi E d
 aA:gb P G w I
theorem Hy {E:FuncId→Bool} {G:Nat→V} {n:Nat} {a:Act} {st:St} {o:Oper} {v:Value} {x:V} {hp':Nat→Option ag} {ds:List Deferred} (h:gY P E G w I β n a st) (hle:Le P w I β st.hp w' I' aj hp') (hd:qK o n=true)
  (hv:ah P w' I' aj hp' v x) (j5: ∀d∈ds,d∈a.defers∨yi E d):gY P E G w' I' aj n ({a with defers:=ds}.put o.dst v) ⟨gq st.sl o.dst x,hp',st.nb⟩:=by
 have NL: ∀d∈ds,yi E d:=fun d hd=>(j5 d hd).elim (h.defers d) id
 cases XU:o.dst with
 | none=>exact ⟨fun k=>(h.sl k).mono hle,h.size,NL,h.aA.mono hle.cM hle.bR⟩
 | some d=>
  have aK:d<a.tmps.size:=by
   unfold qK at hd
   rw[XU] at hd
   rw[h.size]
   simpa using hd
  refine ⟨fun k=> ?_,by simp[Act.put,h.size],NL,h.aA.mono hle.cM hle.bR⟩
  simp only[Act.put,gq,aF]
  cases hb:Nat.beq k d with
  | true=>
   rw[Nat.beq_eq] at hb
   subst hb
   simpa[aK] using hv
  | false=>
   have bA:d≠k:=fun e=>by rw[e,Nat.beq_refl] at hb;cases hb
   have:=(h.sl k).mono hle
   simpa[Array.getElem?_setIfInBounds_ne bA] using this
theorem NM {E:FuncId→Bool} {G:Nat→V} {n:Nat} {a:Act} {st:St} {d:Nat} {b:Bool} (h:gY P E G w I β n a st) (hd:st.sl d= .bool b):a.tmps[d]? =some (.bool b):=by
 have:=h.sl d
 rw[hd] at this
 have:=this.iN
 cases ht:a.tmps[d]? with
 | none=>simp[ht] at this;cases this
 | some v=>simp[ht] at this;rw[this]
theorem XV {x:V} {b:Bool} (h:j6 x=some (some b)):x= .bool b:=by
 cases x with
 | bool c=>simp only[j6] at h;injection h with h;injection h with h;rw[h]
 | aQ vs=>cases vs<;>simp[j6] at h
 | _=>simp[j6] at h
theorem XW {x:V} (h:j6 x=some none):x= .aQ []:=by
 cases x with
 | aQ vs=>cases vs with
  | nil=>rfl
  | cons _ _=>simp[j6] at h
 | bool c=>simp[j6] at h
 | _=>simp[j6] at h
theorem ah.XX {v:Value} (h:ah P w I β hp v (.aQ [])):v= .tuple #[]:=by
 cases h with
 | @aQ cs _ hs _=>
  have:cs= #[]:=by
   apply Array.eq_empty_of_size_eq_zero
   simpa using hs
  rw[this]
theorem ah.NN:ah P w I β hp Go.undef (.aQ []):= .aQ (by rfl) (fun j v x _ hx=>by simp at hx)
theorem NO (hC:jP P A C) (hP:iw P A) {ops:Array Oper} {n i nb:Nat} {o:Oper} (ho:ops[i]? =some o) {a:Act} {st st':St} {R W:List Nat} (S:aC P w I β st.hp B M w0) (hA:gY P A.idle A.aA w I β n a st)
  (h:fZ P A C n ops i o nb st=some (st',R,W)) {K:Act→World→Prop} {Q:Exit→Act→World→Prop}
  (hK: ∀a' w' I' aj,Le P w I β st.hp w' I' aj st'.hp→aC P w' I' aj st'.hp B M w0→gY P A.idle A.aA w' I' aj n a' st'→K a' w'):wpOp P ops Q i K a w:=by
 unfold fZ at h
 cases hd:qK o n with
 | false=>rw[hd] at h;cases h
 | true=>
  rw[hd] at h
  simp only[cond_true] at h
  have go: ∀{Hz:St} {R W:List Nat},(((eZ P A st.sl i (nb+64*i) o).run C st.hp).bind fun r=>some ((⟨gq st.sl o.dst r.1.v,bz st.hp r.1.upd,st.nb⟩:St),r.2,r.1.upd.map (·.1)))=some (Hz,R,W)→Hz=st'→
    o.wp P a w K Q:=by
   intro Hz R W h e
   obtain ⟨⟨r,rd⟩,h1,h2⟩:=bind_some h
   cases h2
   subst e
   exact XT hC hP S hA.aA hA.sl h1 K Q fun v w' I' aj ds k1 k2 k3 k4=>hK _ w' I' aj k1 k2 (Hy hA k1 hd k3 k4)
  unfold wpOp
  rw[ho]
  simp only
  cases hg:o.guard with
  | none=>
   rw[hg] at h
   simp only[Region.wanted,hg,if_true]
   exact .inl (go h rfl)
  | some gw=>
   obtain ⟨g,want⟩:=gw
   rw[hg] at h
   simp only at h
   cases kp:(ops[g]?).bind (·.dst) with
   | none=>rw[kp] at h;cases h
   | some d=>
    rw[kp] at h
    simp only at h
    cases lk:j6 (st.sl d) with
    | none=>rw[lk] at h;cases h
    | some ob=>
    rw[lk] at h
    cases ob with
    | none=>
     have uX:=XW lk
     have hy:yielded ops a.tmps g=none:=by
      unfold yielded
      rw[kp]
      have:=hA.sl d
      rw[uX] at this
      have hu:=ah.XX this
      simp only[Option.bind_some]
      cases ht:a.tmps[d]? with
      | none=>rfl
      | some v=>simp[ht] at hu;subst hu;rfl
     simp only[Region.wanted,hg,hy]
     injection h with h
     injection h with h3 h4
     subst h3
     have h2:((none:Option Bool)==some want)=false:=rfl
     simp only[h2,Bool.false_eq_true,if_false]
     exact hK _ w I β (Le.refl w I β st.hp) S (Hy (ds:=a.defers) hA (Le.refl w I β st.hp) hd ah.NN fun d h=> .inl h)
    | some b=>
    simp only at h
    have uX:=XV lk
    have hy:yielded ops a.tmps g=some b:=by
     unfold yielded
     rw[kp]
     simp only[Option.bind_some,NM hA uX]
    simp only[Region.wanted,hg,hy]
    by_cases hb:b=want
    ·subst hb
     simp only[beq_self_eq_true,cond_true] at h
     simp only[beq_self_eq_true,if_true]
     exact .inl (go h rfl)
    ·have h1:(b==want)=false:=by simp[hb]
     have h2:(some b==some want)=false:=by simp[hb]
     rw[h1] at h
     simp only[cond_false] at h
     injection h with h
     injection h with h3 h4
     subst h3
     simp only[h2,Bool.false_eq_true,if_false]
     exact hK _ w I β (Le.refl w I β st.hp) S (Hy (ds:=a.defers) hA (Le.refl w I β st.hp) hd ah.NN fun d h=> .inl h)
theorem sU {α:Type}: ∀{p:Rd α} {r:α} {rd:List Nat},p.run C hp=some (r,rd)→(∀id∈rd,hp' id=hp id)→p.run C hp'=some (r,rd)
 | .ret a,r,rd,h,_=>h
 | .fail,r,rd,h,_=>by cases h
 | .get id k,r,rd,h,he=>by
  obtain ⟨x,h1,h2⟩:=bind_some h
  cases h2
  have e1:hp' id=hp id:=he id (by simp)
  have:=sU (p:=k (hp id)) (r:=x.1) (rd:=x.2) h1 (fun i hi=>he i (by simp[hi]))
  simp only[Rd.run,e1,this,Option.bind_some]
 | .opt o k,r,rd,h,he=>by
  obtain ⟨x,h1,h2⟩:=bind_some h
  simp only[Rd.run,h1,Option.bind_some]
  exact sU h2 he
 | .ay b k,r,rd,h,he=>by
  obtain ⟨h1,h2⟩:=aD h
  simp only[Rd.run,h1,cond_true]
  exact sU h2 he
 | .call key ds k,r,rd,h,he=>by
  obtain ⟨x,h1,h2⟩:=bind_some h
  simp only[Rd.run,h1,Option.bind_some]
  exact sU h2 he
 | .alt true x y,r,rd,h,he=>sU (p:=x) h he
 | .alt false x y,r,rd,h,he=>sU (p:=y) h he
theorem XY {G:Nat→V} {sl sl':Nat→V} {t:TypeId} {x:Operand} (h: ∀k,x= .tmp k→sl k=sl' k):aI P G t sl x=aI P G t sl' x:=by
 cases x with
 | tmp k=>exact h k rfl
 | _=>rfl
theorem XZ {sl sl':Nat→V} {ix nb:Nat} {o:Oper} (h: ∀x∈o.op.operands,∀k,x= .tmp k→sl k=sl' k):eZ P A sl ix nb o=eZ P A sl' ix nb o:=by
 have ew: ∀t x,x∈o.op.operands→aI P A.aA t sl x=aI P A.aA t sl' x:=fun t x hx=>XY (h x hx)
 obtain ⟨dst,op,ty,pos,after,guard⟩:=o
 have NQ: ∀(t:TypeId) (ps:Array (Nat × Operand)),(∀x∈ps.map (·.2),aI P A.aA t sl x=aI P A.aA t sl' x)→
   (ps.toList.map fun p=>(p.1,aI P A.aA t sl p.2))=ps.toList.map fun p=>(p.1,aI P A.aA t sl' p.2):=fun t ps hp=>
  List.map_congr_left fun p hm=>by rw[hp p.2 (Array.mem_map.2 ⟨p,Array.mem_toList_iff.1 hm,rfl⟩)]
 have X0: ∀(t:TypeId) (ps:Array (Nat × Operand)),(∀x∈ps.map (·.2),aI P A.aA t sl x=aI P A.aA t sl' x)→
   (ps.toList.map fun p=>(aI P A.aA t sl p.2).cells)=ps.toList.map fun p=>(aI P A.aA t sl' p.2).cells:=fun t ps hp=>
  List.map_congr_left fun p hm=>by rw[hp p.2 (Array.mem_map.2 ⟨p,Array.mem_toList_iff.1 hm,rfl⟩)]
 cases op<;>simp only[Op.operands] at ew<;>simp only[eZ]
 case pick c x y=>rw[ew ty c (by simp),ew ty x (by simp),ew ty y (by simp)]
 case build t ps=>rw[NQ ty ps fun x hx=>ew ty x (by simpa using hx),X0 ty ps fun x hx=>ew ty x (by simpa using hx)]
 case buildSlice t len ps=>
  split
  ·rename_i e _
   rw[NQ e ps fun x hx=>ew e x (by simpa using hx)]
  ·rfl
 case slice t x lo hi mx=>
  cases mx with
  | some m=>
   have e1:lo.map (aI P A.aA 0 sl)=lo.map (aI P A.aA 0 sl'):=by
    cases lo with
    | none=>rfl
    | some l=>simp only[Option.map_some,ew 0 l (by simp)]
   have e2:hi.map (aI P A.aA 0 sl)=hi.map (aI P A.aA 0 sl'):=by
    cases hi with
    | none=>rfl
    | some l=>simp only[Option.map_some,ew 0 l (by simp)]
   have e3:=ew 0 m (by simp)
   simp only[ew ty x (by simp),e1,e2,e3]
  | none=>
   have e1:lo.map (aI P A.aA 0 sl)=lo.map (aI P A.aA 0 sl'):=by
    cases lo with
    | none=>rfl
    | some l=>simp only[Option.map_some,ew 0 l (by simp)]
   have e2:hi.map (aI P A.aA 0 sl)=hi.map (aI P A.aA 0 sl'):=by
    cases hi with
    | none=>rfl
    | some l=>simp only[Option.map_some,ew 0 l (by simp)]
   simp only[ew ty x (by simp),e1,e2]
 case call c=>
  obtain ⟨callee,args,argTypes⟩:=c
  have sV: ∀t x,x∈args→aI P A.aA t sl x=aI P A.aA t sl' x:=fun t x hx=>ew t x (by simp[Call.operands,hx])
  have hl: ∀t (l:List Operand),(∀x∈l,x∈args)→l.map (aI P A.aA t sl)=l.map (aI P A.aA t sl'):=fun t l hl=>List.map_congr_left fun x hx=>sV t x (hl x hx)
  have hz:((args.toList.zip argTypes.toList).map fun p=>aI P A.aA p.2 sl p.1)=(args.toList.zip argTypes.toList).map fun p=>aI P A.aA p.2 sl' p.1:=
   List.map_congr_left fun p hp=>sV p.2 p.1 (Array.mem_toList_iff.1 (List.of_mem_zip hp).1)
  cases callee with
  | invoke r m=>rfl
  | builtin b=>
   have bU: ∀x∈args.toList,∀t,aI P A.aA t sl x=aI P A.aA t sl' x:=fun x hx t=>sV t x (Array.mem_toList_iff.1 hx)
   have CN: ∀t (l:List Operand),(∀x∈l,∀t,aI P A.aA t sl x=aI P A.aA t sl' x)→l.map (aI P A.aA t sl)=l.map (aI P A.aA t sl'):=fun t l h=>List.map_congr_left fun x hx=>h x hx t
   cases b<;>first|rfl|skip
   case append=>
    dsimp only
    generalize args.toList=al at bU
    match al,bU,argTypes.toList with
    | [s,x],bU,[t,u]=>simp only[bU s (by simp),bU x (by simp)]
    | [],_,_=>rfl
    | [_],_,_=>rfl
    | _::_::_::_,_,_=>rfl
    | [_,_],_,[]=>rfl
    | [_,_],_,[_]=>rfl
    | [_,_],_,_::_::_::_=>rfl
   case copy=>
    dsimp only
    generalize args.toList=al at bU
    match al,bU,argTypes.toList with
    | [s,x],bU,[t,u]=>simp only[bU s (by simp),bU x (by simp)]
    | [],_,_=>rfl
    | [_],_,_=>rfl
    | _::_::_::_,_,_=>rfl
    | [_,_],_,[]=>rfl
    | [_,_],_,[_]=>rfl
    | [_,_],_,_::_::_::_=>rfl
   case len=>
    dsimp only
    generalize args.toList=al at bU
    match al,bU,argTypes.toList with
    | [x],bU,[t]=>simp only[bU x (by simp)]
    | [],_,_=>rfl
    | _::_::_,_,_=>rfl
    | [_],_,[]=>rfl
    | [_],_,_::_::_=>rfl
   case clear=>
    dsimp only
    generalize args.toList=al at bU
    match al,bU,argTypes.toList with
    | [x],bU,[t]=>simp only[bU x (by simp)]
    | [],_,_=>rfl
    | _::_::_,_,_=>rfl
    | [_],_,[]=>rfl
    | [_],_,_::_::_=>rfl
   case unsafeSliceData=>
    dsimp only
    generalize args.toList=al at bU
    match al,bU with
    | [],_=>rfl
    | [x],bU=>simp only[bU x (by simp)]
    | _::_::_,_=>rfl
   case unsafeString=>
    dsimp only
    generalize args.toList=al at bU
    match al,bU,argTypes.toList with
    | [s,x],bU,[t,u]=>simp only[bU s (by simp),bU x (by simp)]
    | [],_,_=>rfl
    | [_],_,_=>rfl
    | _::_::_::_,_,_=>rfl
    | [_,_],_,[]=>rfl
    | [_,_],_,[_]=>rfl
    | [_,_],_,_::_::_::_=>rfl
   case max=>
    dsimp only
    generalize args.toList=al at bU
    match al,bU with
    | [],_=>rfl
    | x::l,bU=>simp only[bU x (by simp),CN ty l (fun y hy=>bU y (by simp[hy]))]
   case min=>
    dsimp only
    generalize args.toList=al at bU
    match al,bU with
    | [],_=>rfl
    | x::l,bU=>simp only[bU x (by simp),CN ty l (fun y hy=>bU y (by simp[hy]))]
  | value f=>
   cases f<;>first|rfl|skip
   ·rename_i t
    have ht:sl t=sl' t:=h (.tmp t) (by simp[Op.operands,Call.operands]) t rfl
    simp only[hz,ht]
   ·simp only[hz]
    cases hx:args.toList with
    | nil=>rfl
    | cons x l=>
     cases l with
     | cons _ _=>rfl
     | nil=>simp only[sV ty x (Array.mem_toList_iff.1 (by rw[hx];simp))]
 case defer c=>
  obtain ⟨callee,args,argTypes⟩:=c
  cases callee with
  | invoke r m=>rfl
  | builtin b=>rfl
  | value f=>
   cases f<;>first|rfl|skip
   rename_i t
   have ht:sl t=sl' t:=h (.tmp t) (by simp[Op.operands,Call.operands]) t rfl
   simp only[ht]
 case makeFunc fn a b=>
  cases fn<;>first|rfl|skip
  have e1:a.toList.map (aI P A.aA ty sl)=a.toList.map (aI P A.aA ty sl'):=List.map_congr_left fun x hx=>ew ty x (by simp[Array.mem_toList_iff.1 hx])
  have e2:b.toList.map (aI P A.aA ty sl)=b.toList.map (aI P A.aA ty sl'):=List.map_congr_left fun x hx=>ew ty x (by simp[Array.mem_toList_iff.1 hx])
  dsimp only
  rw[e1,e2]
 case makeMap t r=>cases r<;>rfl
 all_goals first
  | rfl
  | (simp[ew];done)
end
section
variable {P:Program} {A:ch} {w w':World} {I I' I2:Nat→Prop} {μ β aj:Nat→Option Nat} {hp hp':Nat→Option ag} {C:ae} {B:Nat} {M:Nat→Prop} {w0:Start}
theorem NR {n i nb:Nat} {ops:Array Oper} {o:Oper} {st st':St} {R W:List Nat} (h:fZ P A C n ops i o nb st=some (st',R,W)):
  ∃x upd,st'=⟨gq st.sl o.dst x,bz st.hp upd,st.nb⟩∧W=upd.map (·.1)∧∀eg:St,(∀d∈o.looksAt ops,eg.sl d=st.sl d)→(∀id∈R,eg.hp id=st.hp id)→
   fZ P A C n ops i o nb eg=some (⟨gq eg.sl o.dst x,bz eg.hp upd,eg.nb⟩,R,W):=by
 unfold fZ at h
 cases hd:qK o n with
 | false=>rw[hd] at h;cases h
 | true=>
  rw[hd] at h
  simp only[cond_true] at h
  have go:(((eZ P A st.sl i (nb+64*i) o).run C st.hp).bind fun r=>some ((⟨gq st.sl o.dst r.1.v,bz st.hp r.1.upd,st.nb⟩:St),r.2,r.1.upd.map (·.1)))=some (st',R,W)→
    ∃x upd,st'=⟨gq st.sl o.dst x,bz st.hp upd,st.nb⟩∧W=upd.map (·.1)∧∀eg:St,(∀d∈o.looksAt ops,eg.sl d=st.sl d)→(∀id∈R,eg.hp id=st.hp id)→
     (((eZ P A eg.sl i (nb+64*i) o).run C eg.hp).bind fun r=>some ((⟨gq eg.sl o.dst r.1.v,bz eg.hp r.1.upd,eg.nb⟩:St),r.2,r.1.upd.map (·.1)))=some (⟨gq eg.sl o.dst x,bz eg.hp upd,eg.nb⟩,R,W):=by
   intro h
   obtain ⟨⟨r,rd⟩,h1,h2⟩:=bind_some h
   cases h2
   refine ⟨r.v,r.upd,rfl,rfl,fun eg hs hh=> ?_⟩
   rw[XZ (sl':=st.sl) fun x hx k hk=> ?_,sU h1 hh]
   ·rfl
   ·subst hk
    exact hs k (List.mem_append_left _ (List.mem_filterMap.2 ⟨.tmp k,by simpa using hx,rfl⟩))
  cases hg:o.guard with
  | none=>
   rw[hg] at h
   obtain ⟨x,upd,e1,e2,e3⟩:=go h
   refine ⟨x,upd,e1,e2,fun eg hs hh=> ?_⟩
   unfold fZ
   simp only[hd,cond_true,hg]
   exact e3 eg hs hh
  | some gw=>
   obtain ⟨g,want⟩:=gw
   rw[hg] at h
   simp only at h
   cases kp:(ops[g]?).bind (·.dst) with
   | none=>rw[kp] at h;cases h
   | some d=>
    rw[kp] at h
    simp only at h
    have HA:d∈o.looksAt ops:=List.mem_append_right _ (by rw[hg];simp[kp])
    cases lk:j6 (st.sl d) with
    | none=>rw[lk] at h;cases h
    | some ob=>
    rw[lk] at h
    cases ob with
    | none=>
     injection h with h
     injection h with h3 h4
     injection h4 with h5 h6
     subst h5;subst h6
     refine ⟨.aQ [],[],h3.symm,rfl,fun eg hs hh=> ?_⟩
     unfold fZ
     simp only[hd,cond_true,hg,kp,hs d HA,lk]
     rfl
    | some b=>
    simp only at h
    cases hb:b==want with
    | true=>
     rw[hb] at h
     obtain ⟨x,upd,e1,e2,e3⟩:=go h
     refine ⟨x,upd,e1,e2,fun eg hs hh=> ?_⟩
     unfold fZ
     simp only[hd,cond_true,hg,kp,hs d HA,lk,hb]
     exact e3 eg hs hh
    | false=>
     rw[hb] at h
     simp only[cond_false] at h
     injection h with h
     injection h with h3 h4
     injection h4 with h5 h6
     subst h5;subst h6
     refine ⟨.aQ [],[],h3.symm,rfl,fun eg hs hh=> ?_⟩
     unfold fZ
     simp only[hd,cond_true,hg,kp,hs d HA,lk,hb,cond_false]
     rfl
theorem NS {sl:Nat→V} {d:Option Nat} {x:V} {k:Nat} (h:d≠some k):gq sl d x k=sl k:=by
 cases d with
 | none=>rfl
 | some d=>exact dF _ _ fun e=>h (by rw[e])
theorem X1 {hp:Nat→Option ag} {a b:List (Nat × ag)} (h: ∀q∈a,∀q'∈b,q.1≠q'.1):bz (bz hp a) b=bz (bz hp b) a:=by
 funext id
 by_cases ha: ∃q∈a,q.1=id
 ·have hb: ∀q∈b,q.1≠id:=by
   obtain ⟨q,hq,rfl⟩:=ha
   exact fun q' bM e=>h q hq q' bM e.symm
  rw[sR hb]
  obtain ⟨q,hq,rfl⟩:=ha
  have same: ∀(a9 gd:Nat→Option ag) (l:List (Nat × ag)) (q:Nat × ag),q∈l→bz a9 l q.1=bz gd l q.1:=by
   intro a9 gd l
   induction l with
   | nil=>intro q hq;simp at hq
   | cons p l ih=>
    intro q hq
    simp only[bz,aF]
    cases hb:Nat.beq q.1 p.1 with
    | true=>rfl
    | false=>
     simp only[cond_false]
     refine ih q ((List.mem_cons.1 hq).resolve_left fun e=> ?_)
     rw[e,Nat.beq_refl] at hb;cases hb
  exact same _ _ a q hq
 ·rw[sR (hp:=bz hp b) (l:=a) fun q hq e=>ha ⟨q,hq,e⟩]
  have same: ∀(a9 gd:Nat→Option ag) (l:List (Nat × ag)),a9 id=gd id→bz a9 l id=bz gd l id:=by
   intro a9 gd l he
   induction l with
   | nil=>exact he
   | cons p l ih=>
    simp only[bz,aF]
    cases hb:Nat.beq id p.1 with
    | true=>rfl
    | false=>exact ih
  exact same _ _ b (sR fun q hq e=>ha ⟨q,hq,e⟩)
structure NT (ops:Array Oper) (o1 o2:Oper) (R1 W1 R2 W2:List Nat):Prop where
 apart:Oper.apart ops o1 o2=true
 w: ∀id∈W1,id∉R2∧id∉W2
 r: ∀id∈R1,id∉W2
theorem X2 {n i j nb:Nat} {ops:Array Oper} {o1 o2:Oper} {st gZ eg:St} {R1 W1 R2 W2:List Nat} (h1:fZ P A C n ops i o1 nb st=some (gZ,R1,W1)) (h2:fZ P A C n ops j o2 nb gZ=some (eg,R2,W2))
  (hi:NT ops o1 o2 R1 W1 R2 W2): ∃CO,fZ P A C n ops j o2 nb st=some (CO,R2,W2)∧fZ P A C n ops i o1 nb CO=some (eg,R1,W1):=by
 obtain ⟨x1,u1,e1,f1,g1⟩:=NR h1
 obtain ⟨x2,u2,e2,f2,g2⟩:=NR h2
 obtain ⟨a1,a2,a3⟩:=Oper.apart_spec hi.apart
 subst e1
 refine ⟨_,g2 st (fun d hd=> ?_) (fun id hd=> ?_),?_⟩
 ·simp only
  rw[NS fun e=>a1 d e hd]
 ·simp only
  rw[sR fun q hq e=>(hi.w id (by rw[f1];exact List.mem_map.2 ⟨q,hq,e⟩)).1 hd]
 ·rw[g1 _ (fun d hd=> ?_) (fun id hd=> ?_),e2]
  ·congr 3
   ·funext k
    cases X3:o1.dst with
    | none=>rfl
    | some d1=>
     cases lV:o2.dst with
     | none=>rfl
     | some d2=>
      have bA:d2≠d1:=fun e=>a2 d1 X3 (by rw[lV,e])
      simp only[gq,aF]
      cases NU:Nat.beq k d1<;>cases rf:Nat.beq k d2<;>simp only[cond_true,cond_false]
      rw[Nat.beq_eq] at NU rf
      exact absurd (rf.symm.trans NU) bA
   ·exact (X1 fun q hq q' bM e=>(hi.w q.1 (by rw[f1];exact List.mem_map.2 ⟨q,hq,rfl⟩)).2 (by rw[f2];exact List.mem_map.2 ⟨q',bM,e.symm⟩)).symm
  ·simp only
   rw[NS fun e=>a3 d e hd]
  ·simp only
   rw[sR fun q hq e=>hi.r id hd (by rw[f2];exact List.mem_map.2 ⟨q,hq,e⟩)]
def vj (P:Program) (A:ch) (C:ae) (n:Nat) (ops:Array Oper) (nb:Nat):List (Nat × Oper × List Nat × List Nat)→St→St→Prop
 | [],st,st'=>st=st'
 | (i,o,R,W)::l,st,st'=> ∃gZ,fZ P A C n ops i o nb st=some (gZ,R,W)∧vj P A C n ops nb l gZ st'
def sW (x:Nat × Oper × List Nat × List Nat):Nat × List Nat × List Nat:=(x.1,x.2.2.1,x.2.2.2)
theorem NV {n nb:Nat} {ops:Array Oper}: ∀{l:List (Nat × Oper)} {st st':St} {log CP:Log},nP P A C n ops nb l st log=some (st',CP)→
  ∃g,g.map (fun x=>(x.1,x.2.1))=l∧CP=log++g.map sW∧vj P A C n ops nb g st st'
 | [],st,st',log,CP,h=>by
  cases h
  exact ⟨[],rfl,by simp,rfl⟩
 | (i,o)::l,st,st',log,CP,h=>by
  obtain ⟨⟨gZ,R,W⟩,h1,h2⟩:=bind_some h
  obtain ⟨g,a,b,c⟩:=NV h2
  exact ⟨(i,o,R,W)::g,by simp[a],by simp[b,sW],gZ,h1,c⟩
def NW (ops:Array Oper) (x y:Nat × Oper × List Nat × List Nat):Prop:=NT ops x.2.1 y.2.1 x.2.2.1 x.2.2.2 y.2.2.1 y.2.2.2
theorem NX {n nb:Nat} {ops:Array Oper} {y:Nat × Oper × List Nat × List Nat} {g2:List (Nat × Oper × List Nat × List Nat)}: ∀{g1:List (Nat × Oper × List Nat × List Nat)} {st st':St},
  vj P A C n ops nb (g1++y::g2) st st'→(∀x∈g1,NW ops x y)→∃gZ,fZ P A C n ops y.1 y.2.1 nb st=some (gZ,y.2.2.1,y.2.2.2)∧vj P A C n ops nb (g1++g2) gZ st'
 | [],st,st',h,_=>h
 | x::g1,st,st',h,hi=>by
  obtain ⟨gZ,h1,h2⟩:=h
  obtain ⟨eg,h3,h4⟩:=NX h2 fun z hz=>hi z (List.mem_cons_of_mem _ hz)
  obtain ⟨CO,h5,h6⟩:=X2 h1 h3 (hi x (by simp))
  exact ⟨CO,h5,eg,h6,h4⟩
theorem NY (hC:jP P A C) (hP:iw P A) {n nb:Nat} {ops:Array Oper} {Q:Exit→Act→World→Prop}: ∀{g:List (Nat × Oper × List Nat × List Nat)} {st st':St} {a:Act} {w:World} {I:Nat→Prop} {β:Nat→Option Nat},
  vj P A C n ops nb g st st'→(∀x∈g,ops[x.1]? =some x.2.1)→aC P w I β st.hp B M w0→gY P A.idle A.aA w I β n a st→
  (∀a' w' I' aj,Le P w I β st.hp w' I' aj st'.hp→aC P w' I' aj st'.hp B M w0→gY P A.idle A.aA w' I' aj n a' st'→Q .normal a' w')→wpOps P ops Q (g.map (·.1)) a w
 | [],st,st',a,w,I,β,h,_,S,hA,hQ=>by
  cases h
  exact hQ a w I β (Le.refl w I β _) S hA
 | x::g,st,st',a,w,I,β,h,ho,S,hA,hQ=>by
  obtain ⟨gZ,h1,h2⟩:=h
  rw[List.map_cons,wpOps_cons]
  refine NO hC hP (ho x (by simp)) S hA h1 fun a' w' I' aj k1 k2 k3=> ?_
  exact NY hC hP h2 (fun y hy=>ho y (List.mem_cons_of_mem _ hy)) k2 k3 fun a2 w2 I2 bL m1 m2 m3=>hQ a2 w2 I2 bL (k1.trans m1) m2 m3
end
section
variable {P:Program} {A:ch} {w w':World} {I I' I2:Nat→Prop} {μ β aj:Nat→Option Nat} {hp hp':Nat→Option ag} {C:ae} {B:Nat} {M:Nat→Prop} {w0:Start}
inductive sX (ops:Array Oper):Nat→Nat→Prop
 | NZ {i x:Nat} {o:Oper} {e:Edge}:ops[i]? =some o→e∈o.after→Region.binds .any e=true→e.on=x→sX ops i x
 | trans {i x:Nat} {o:Oper} {e:Edge}:ops[i]? =some o→e∈o.after→Region.binds .any e=true→sX ops e.on x→sX ops i x
theorem N0 {acc:Array Nat} {x:Nat}: ∀{l:List Edge} {s:Nat},(l.foldl (fun s e=>if Region.binds .any e then s|||2^e.on|||acc.getD e.on 0 else s) s).testBit x=true→
  s.testBit x=true∨∃e∈l,Region.binds .any e=true∧(e.on=x∨(acc.getD e.on 0).testBit x=true)
 | [],s,h=> .inl h
 | e::l,s,h=>by
  simp only[List.foldl_cons] at h
  rcases N0 h with h1|⟨e',a,b⟩
  ·by_cases hb:Region.binds .any e=true
   ·rw[if_pos hb,Nat.testBit_or,Nat.testBit_or,Bool.or_eq_true,Bool.or_eq_true] at h1
    rcases h1 with (h1|h1)|h1
    ·exact .inl h1
    ·rw[Nat.testBit_two_pow] at h1
     exact .inr ⟨e,by simp,hb,.inl (by simpa using h1)⟩
    ·exact .inr ⟨e,by simp,hb,.inr h1⟩
   ·rw[if_neg hb] at h1
    exact .inl h1
  ·exact .inr ⟨e',List.mem_cons_of_mem _ a,b⟩
theorem N3 {ops:Array Oper} {x:Nat}: ∀{l:List Oper} {acc:Array Nat},(∀j o,l[j]? =some o→ops[acc.size+j]? =some o)→(∀j,(acc.getD j 0).testBit x=true→sX ops j x)→
  ∀j,((l.foldl (fun acc o=>acc.push (o.after.foldl (fun s e=>if Region.binds .any e then s|||2^e.on|||acc.getD e.on 0 else s) 0)) acc).getD j 0).testBit x=true→sX ops j x
 | [],acc,_,CQ,j,h=>CQ j h
 | o::l,acc,hl,CQ,j,h=>by
  simp only[List.foldl_cons] at h
  refine N3 (l:=l) ?_ ?_ j h
  ·intro j o' hj
   have:=hl (j+1) o' (by simpa using hj)
   rw[Array.size_push]
   rwa [show acc.size+1+j=acc.size+(j+1) by omega]
  ·intro k hk
   simp only[Array.getD_eq_getD_getElem?,Array.getElem?_push] at hk
   by_cases sY:k=acc.size
   ·rw[if_pos sY] at hk
    simp only[Option.getD_some] at hk
    rw[←Array.foldl_toList] at hk
    have ho:=hl 0 o rfl
    rw[Nat.add_zero] at ho
    rw[sY]
    have rf:(o.after.toList.foldl (fun s e=>if Region.binds .any e then s|||2^e.on|||acc.getD e.on 0 else s) 0).testBit x=true:=by simpa[Array.getD_eq_getD_getElem?] using hk
    rcases N0 rf with h0|⟨e,he,hb,h1⟩
    ·simp at h0
    ·rcases h1 with h1|h1
     ·exact .NZ ho (Array.mem_toList_iff.1 he) hb h1
     ·exact .trans ho (Array.mem_toList_iff.1 he) hb (CQ _ h1)
   ·rw[if_neg sY] at hk
    exact CQ k (by simpa[Array.getD_eq_getD_getElem?] using hk)
theorem X4 {ops:Array Oper} {i x:Nat} (h:((Region.before ops).getD i 0).testBit x=true):sX ops i x:=by
 unfold Region.before at h
 rw[←Array.foldl_toList] at h
 refine N3 (l:=ops.toList) (acc:= #[]) (fun j o hj=>by simpa using hj) (fun j hj=>by simp at hj) i h
def N4 (ops:Array Oper) (listed:Array Bool):Prop:= ∀i o,ops[i]? =some o→listed.getD i false=true→∀e∈o.after,Region.binds .any e=true→listed.getD e.on false=true
theorem X5 {ops:Array Oper} {listed:Array Bool} (hc:N4 ops listed) {i x:Nat} (h:sX ops i x) (hi: ∀o,ops[i]? =some o→∀e∈o.after,Region.binds .any e=true→listed.getD e.on false=true):listed.getD x false=true:=by
 induction h with
 | NZ ho he hb hx=>rw[←hx];exact hi _ ho _ he hb
 | trans ho he hb _ ih=>exact ih fun o' kV e' sF au=>hc _ o' kV (hi _ ho _ he hb) e' sF au
theorem N5: ∀{l:List Oper} {k j:Nat} {o:Oper},xl k l=true→l[j]? =some o→∀e∈o.after,Region.binds .any e=true→e.on<k+j
 | [],k,j,o,_,h=>by simp at h
 | o'::l,k,j,o,hk,h=>by
  simp only[xl,Bool.and_eq_true] at hk
  cases j with
  | zero=>
   simp at h
   subst h
   intro e he hb
   have:=List.all_eq_true.1 hk.1 e (Array.mem_toList_iff.2 he)
   simp[hb] at this
   omega
  | succ j=>
   intro e he hb
   have:=N5 hk.2 (j:=j) (by simpa using h) e he hb
   omega
theorem N6 {ops:Array Oper} {rW:Array Nat}: ∀{l:Log},BG ops rW l=true→l.Pairwise fun x y=>xk ops rW x y=true
 | [],_=> .nil
 | x::l,h=>by
  simp only[BG,Bool.and_eq_true] at h
  exact .cons (fun y hy=>List.all_eq_true.1 h.1 y hy) (N6 h.2)
theorem N7 {listed:Array Bool} {i:Nat} (h:listed.getD i true=false):i<listed.size∧listed.getD i false=false:=by
 rcases Nat.lt_or_ge i listed.size with h'|h'
 ·refine ⟨h',?_⟩
  simpa[h'] using h
 ·simp[Array.getElem?_eq_none h'] at h
theorem N8 (hC:jP P A C) (hP:iw P A) {n nb:Nat} {ops:Array Oper} {Q:Exit→Act→World→Prop} (CR:xl 0 ops.toList=true):
  ∀(fuel:Nat) {g:List (Nat × Oper × List Nat × List Nat)} {listed:Array Bool} {st st':St} {a:Act} {w:World} {I:Nat→Prop} {β:Nat→Option Nat},
  g.length=fuel→vj P A C n ops nb g st st'→(∀x∈g,ops[x.1]? =some x.2.1)→(g.map (·.1)).Pairwise (· < ·)→(g.map sW).Pairwise (fun x y=>xk ops (Region.before ops) x y=true)→
  listed.size=ops.size→(∀i,i<ops.size→(listed.getD i false=false↔i∈g.map (·.1)))→N4 ops listed→
  aC P w I β st.hp B M w0→gY P A.idle A.aA w I β n a st→
  (∀a' w' I' aj,Le P w I β st.hp w' I' aj st'.hp→aC P w' I' aj st'.hp B M w0→gY P A.idle A.aA w' I' aj n a' st'→Q .normal a' w')→wpAny P .any ops Q fuel listed a w
 | 0,g,listed,st,st',a,w,I,β,hf,hr,ho,aK,CS,aO,sZ,km,S,hA,hQ=>by
  obtain rfl:g=[]:=List.eq_nil_of_length_eq_zero hf
  cases hr
  refine ⟨?_,hQ a w I β (Le.refl w I β _) S hA⟩
  rw[List.eq_nil_iff_forall_not_mem]
  intro i hi
  obtain ⟨h0,_⟩:=mem_ready.1 hi
  obtain ⟨h1,h2⟩:=N7 h0
  have:=(sZ i (by omega)).1 h2
  simp at this
 | fuel+1,g,listed,st,st',a,w,I,β,hf,hr,ho,aK,CS,aO,sZ,km,S,hA,hQ=>by
  refine ⟨fun yn=> ?_,fun i hi=> ?_⟩
  ·exfalso
   cases g with
   | nil=>simp at hf
   | cons x g=>
    have hx:=ho x (by simp)
    have fQ:x.1<ops.size:=(Array.getElem?_eq_some_iff.1 hx).1
    have eF:x.1∈Region.ready .any ops listed:=by
     rw[mem_ready]
     have h0:=(sZ x.1 fQ).2 (by simp)
     refine ⟨?_,x.2.1,hx,fun e he hb=> ?_⟩
     ·have hl:x.1<listed.size:=by omega
      simpa[hl] using h0
     ·have GX:=N5 CR (j:=x.1) (by simpa using hx) e he hb
      rw[Nat.zero_add] at GX
      cases hle:listed.getD e.on false with
      | true=>rfl
      | false=>
       have hm:=(sZ e.on (by omega)).1 hle
       simp only[List.map_cons,List.mem_cons] at hm
       rw[List.map_cons,List.pairwise_cons] at aK
       rcases hm with hm|hm
       ·omega
       ·have:=aK.1 _ hm;omega
    rw[yn] at eF
    cases eF
  ·obtain ⟨h0,oi,yp,N9⟩:=mem_ready.1 hi
   obtain ⟨h1,h2⟩:=N7 h0
   have X6:=(sZ i (by omega)).1 h2
   obtain ⟨y,hy,X7⟩:=List.mem_map.1 X6
   obtain ⟨g1,g2,rfl⟩:=List.append_of_mem hy
   subst X7
   have Oa:=ho y hy
   rw[yp] at Oa
   have Ob:oi=y.2.1:=Option.some.inj Oa
   have jx:((g1++y::g2).map (·.1)).Nodup:=aK.imp fun h=>Nat.ne_of_lt h
   have X8: ∀x∈g1,NW ops x y:=by
    intro x hx
    have hp:xk ops (Region.before ops) (sW x) (sW y)=true:=by
     rw[List.map_append,List.map_cons,List.pairwise_append] at CS
     exact CS.2.2 _ (List.mem_map.2 ⟨x,hx,rfl⟩) _ (by simp)
    have Oc:=ho x (List.mem_append.2 (.inl hx))
    unfold xk at hp
    rw[Bool.or_eq_true] at hp
    rcases hp with hp|hp
    ·have hl:=X5 km (X4 hp) fun o kV e he hb=>by
      have:o=oi:=by
       have h3:ops[y.1]? =some o:=kV
       rw[yp] at h3
       exact (Option.some.inj h3).symm
      subst this
      exact N9 e he hb
     have fQ:x.1<ops.size:=(Array.getElem?_eq_some_iff.1 Oc).1
     have:=(sZ x.1 fQ).2 (List.mem_map.2 ⟨x,List.mem_append.2 (.inl hx),rfl⟩)
     rw[show (sW x).1=x.1 from rfl,this] at hl
     cases hl
    ·simp only[sW,Array.getD_eq_getD_getElem?,Oc,yp,Option.getD_some,Bool.and_eq_true,Bool.not_eq_true'] at hp
     obtain ⟨q1,q2,q3⟩:=hp
     refine ⟨Ob▸q1,fun id aa=> ?_,fun id aa=>CF q3 aa⟩
     have:=CF q2 aa
     rw[List.mem_append] at this
     exact ⟨fun h=>this (.inl h),fun h=>this (.inr h)⟩
   obtain ⟨gZ,iM,lh⟩:=NX hr X8
   rw[←Ob] at iM
   refine NO hC hP yp S hA iM fun a' w' I' aj k1 k2 k3=> ?_
   have gC:List.Sublist (g1++g2) (g1++y::g2):=List.Sublist.append_left (List.sublist_cons_self y g2) g1
   have sb: ∀j,j≠y.1→(listed.setIfInBounds y.1 true).getD j false=listed.getD j false:=fun j hj=>getD_set_ne false (Ne.symm hj)
   refine N8 hC hP CR fuel (g:=g1++g2) (st':=st') ?_ lh (fun x hx=>ho x (gC.subset hx)) (aK.sublist (gC.map _)) (CS.sublist (gC.map _)) (by simp[aO]) (fun j hj=> ?_) (fun j o HB cz e he hb=> ?_) k2 k3 fun a2 w2 I2 bL m1 m2 m3=>hQ a2 w2 I2 bL (k1.trans m1) m2 m3
   ·simp at hf⊢;omega
   ·by_cases nZ:j=y.1
    ·subst nZ
     have hl:y.1<listed.size:=by omega
     simp only[Array.getD_eq_getD_getElem?,Array.getElem?_setIfInBounds_self_of_lt hl,Option.getD_some]
     refine ⟨fun h=>(by cases h),fun h=> ?_⟩
     exfalso
     rw[List.map_append,List.map_cons,List.nodup_append,List.nodup_cons] at jx
     rw[List.map_append,List.mem_append] at h
     rcases h with h|h
     ·exact jx.2.2 _ h _ (by simp) rfl
     ·exact jx.2.1.1 h
    ·rw[sb j nZ,sZ j hj]
     simp only[List.map_append,List.map_cons,List.mem_append,List.mem_cons]
     constructor
     ·rintro (h|h|h)
      ·exact .inl h
      ·exact absurd h nZ
      ·exact .inr h
     ·rintro (h|h)
      ·exact .inl h
      ·exact .inr (.inr h)
   ·by_cases nZ:j=y.1
    ·subst nZ
     rw[yp] at HB
     cases HB
     exact getD_set_true (N9 e he hb)
    ·rw[sb j nZ] at cz
     exact getD_set_true (km j o HB cz e he hb)
end
section
variable {P:Program} {A:ch} {w w':World} {I I' I2:Nat→Prop} {μ β aj:Nat→Option Nat} {hp hp':Nat→Option ag} {C:ae} {B:Nat} {M:Nat→Prop} {w0:Start}
theorem Od: ∀{l:List Oper} {k j:Nat},(mR k l)[j]? =(l[j]?).map fun o=>(k+j,o)
 | [],k,j=>by simp[mR]
 | o::l,k,0=>by simp[mR]
 | o::l,k,j+1=>by
  simp only[mR,List.getElem?_cons_succ,Od]
  congr 1
  funext o
  rw[show k+1+j=k+(j+1) by omega]
theorem Oe: ∀{l:List Oper} {k:Nat},(mR k l).map (·.1)=List.range' k l.length
 | [],k=>rfl
 | o::l,k=>by simp[mR,Oe,List.range'_succ]
theorem X9 (hC:jP P A C) (hP:iw P A) (hm:P.follows .mixedOrders=true) {n id:Nat} {ops:Array Oper} {draw:Bool} {st st':St} {a:Act} {Q:Exit→Act→World→Prop}
  (h:uF P A C n ops draw st=some st') (S:aC P w I β st.hp B M w0) (hA:gY P A.idle A.aA w I β n a st)
  (hQ: ∀a' w' I' aj,Le P w I β st.hp w' I' aj st'.hp→aC P w' I' aj st'.hp B M w0→gY P A.idle A.aA w' I' aj n a' st'→Q .normal a' w'):(Code.region id ops draw).wp P Q a w:=by
 obtain ⟨⟨gZ,log⟩,h1,h2⟩:=bind_some h
 obtain ⟨g,g1,g2,g3⟩:=NV h1
 have CT:g.map (·.1)=List.range ops.size:=by
  have:g.map (·.1)=(g.map fun x=>(x.1,x.2.1)).map (·.1):=by simp
  rw[this,g1,Oe,List.range_eq_range']
  simp
 have Of: ∀x∈g,ops[x.1]? =some x.2.1:=by
  intro x hx
  have:(x.1,x.2.1)∈mR 0 ops.toList:=by rw[←g1];exact List.mem_map.2 ⟨x,hx,rfl⟩
  obtain ⟨j,hj⟩:=List.mem_iff_getElem?.1 this
  rw[Od] at hj
  cases ho:ops.toList[j]? with
  | none=>rw[ho] at hj;cases hj
  | some o=>
   rw[ho] at hj
   simp only[Option.map_some,Nat.zero_add,Option.some.injEq,Prod.mk.injEq] at hj
   rw[←hj.1,←hj.2]
   simpa using ho
 cases draw with
 | false=>
  simp only[Bool.not_false,Bool.true_or,cond_true] at h2
  cases h2
  refine wp_region ?_
  rw[←CT]
  exact NY hC hP g3 Of S hA hQ
 | true=>
  simp only[Bool.not_true,Bool.false_or] at h2
  cases hc:(Region.noSelect ops&&xm ops log) with
  | false=>rw[hc] at h2;cases h2
  | true=>
   rw[hc] at h2
   cases h2
   simp only[Bool.and_eq_true,xm] at hc
   obtain ⟨hns,CR,Ya⟩:=hc
   simp only[List.nil_append] at g2
   refine wp_region_any hm ?_
   have hlen:g.length=ops.size:=by
    have:=congrArg List.length CT
    simpa using this
   refine N8 hC hP CR ops.size (g:=g) (st':=st') hlen g3 Of (by rw[CT];exact List.pairwise_lt_range) (by rw[←g2];exact N6 Ya) (by simp) (fun i hi=> ?_) (fun i o ho hl=> ?_)
    (w:=w.drew) S.drew ⟨fun k=>(hA.sl k).mono (Le.drew w I β _),hA.size,hA.defers,hA.aA.mono (Le.drew (P:=P) w I β st.hp).cM (Le.drew (P:=P) w I β st.hp).bR⟩ fun a' w' I' aj k1 k2 k3=>hQ a' w' I' aj ((Le.drew w I β _).trans k1) k2 k3
   ·rw[CT]
    simp[hi]
   ·have hi:=(Array.getElem?_eq_some_iff.1 ho).1
    simp[hi] at hl
end
section
variable {P:Program} {A:ch} {E:FuncId→Bool} {G:Nat→V} {w w':World} {I I' I2:Nat→Prop} {μ β aj:Nat→Option Nat} {hp hp':Nat→Option ag} {C:ae} {B:Nat} {M:Nat→Prop} {w0:Start}
theorem s6: ∀{l:List Nat} {hp:Nat→Option ag} {I:Nat→Prop},aC P w I β hp B M w0→∃I',Le P w I β hp w I' β (rV hp l)∧aC P w I' β (rV hp l) B M w0
 | [],hp,I,S=>⟨I,Le.refl w I β hp,S⟩
 | id::l,hp,I,S=>by
  simp only[rV]
  cases aa:hp id with
  | none=>exact s6 S
  | some blk=>
   cases blk with
   | dead=>exact s6 S
   | var _=>exact s6 S
   | map _ _=>exact s6 S
   | arr e es fz=>
    obtain ⟨h1,h2⟩:=xB S (upd:=[(id,.arr e es true)]) (fun p hp=>by
     simp only[List.mem_singleton] at hp
     subst hp
     exact ⟨e,es,rfl,.inl ⟨fz,aa⟩⟩)
    obtain ⟨I',h3,h4⟩:=s6 (l:=l) h2
    exact ⟨I',h1.trans h3,h4⟩
   | nest e es ai=>
    obtain ⟨h1,h2⟩:=xB S (upd:=[(id,.arr e es true)]) (fun p hp=>by
     simp only[List.mem_singleton] at hp
     subst hp
     exact ⟨e,es,rfl,.inr ⟨ai,aa⟩⟩)
    obtain ⟨I',h3,h4⟩:=s6 (l:=l) h2
    exact ⟨I',h1.trans h3,h4⟩
theorem Og {n m:Nat} {pur:List Nat} {a:Act} {st:St} (S:aC P w I β st.hp B M w0) (hA:gY P E G w I β n a st):
  ∃I',Le P w I β st.hp w I' β (freeze m pur st).hp∧aC P w I' β (freeze m pur st).hp B M w0∧gY P E G w I' β n a (freeze m pur st):=by
 obtain ⟨I',h1,h2⟩:=s6 (l:=(LG st pur).filter fun id=>Nat.ble m id) S
 exact ⟨I',h1,h2,fun k=>(hA.sl k).mono h1,hA.size,hA.defers,hA.aA.mono h1.cM h1.bR⟩
structure vk (hp:Nat→Option ag) (β:Nat→Option Nat) (ord:List Nat) (hp':Nat→Option ag) (aj:Nat→Option Nat):Prop where
 arr: ∀(j:Nat) id e es fz,ord[j]? =some id→hp id=some (.arr e es fz)→hp' j=some (.arr e es fz)
 var: ∀(j:Nat) id T cs,ord[j]? =some id→hp id=some (.var T cs)→∃gB,hp' j=some (.var T gB)
 dead: ∀(j:Nat) id,ord[j]? =some id→hp id=some .dead→hp' j=some .dead
 place: ∀(j:Nat) id,ord[j]? =some id→aj j=β id
 nest: ∀(j:Nat) id e es ai,ord[j]? =some id→hp id=some (.nest e es ai)→hp' j=some (.nest e es (ai.map fun _=>0))
 map: ∀(j:Nat) id t es,ord[j]? =some id→hp id=some (.map t es)→hp' j=some (.map t es)
theorem kq: ∀{l:List Nat} {n i j:Nat},gr l n i=some j→∃k,j=i+k∧l[k]? =some n
 | [],n,i,j,h=>by cases h
 | a::l,n,i,j,h=>by
  simp only[gr] at h
  cases hb:Nat.beq n a with
  | true=>
   rw[hb] at h
   cases h
   rw[Nat.beq_eq] at hb
   exact ⟨0,rfl,by rw[hb];rfl⟩
  | false=>
   rw[hb] at h
   obtain ⟨k,h1,h2⟩:=kq h
   exact ⟨k+1,by omega,by simpa using h2⟩
def jQ (hp':Nat→Option ag) (aj:Nat→Option Nat) (n:Nat) (bs:List ag):Prop:=
 ∀(k:Nat) b,bs[k]? =some b→hp' (n+k)=some b∧aj (n+k)=none
theorem HC: ∀(ai:List Nat) (k:Nat),bq (ai.map fun _=>0) k=0
 | [],_=>rfl
 | _::_,0=>rfl
 | _::vs,k+1=>HC vs k
theorem Oh {e:TypeId} {es:List V} {ai:List Nat} {path:Path} {ver:Nat} (hc:(Nat.blt 0 path.length&&(Nat.ble path.length ai.length&&Nat.beq (bq ai (path.length-1)) ver))=true)
  (h:(ag.nest e es ai).sc path ver):False:=by
 simp only[Bool.and_eq_true,Nat.blt_eq,Nat.ble_eq,Nat.beq_eq] at hc
 obtain ⟨h1,h2,h3⟩:=hc
 rcases h with h|h|h
 ·subst h;simp at h1
 ·omega
 ·omega
theorem Oi (S:aC P w I β hp B M w0) {ord:List Nat} (hR:vk hp β ord hp' aj) {v:Value} {x:V} (hv:ah P w I β hp v x):ah P w I aj hp' v (gu hp ord x):=by
 cases hv with
 | undef=>exact .undef
 | int=>exact .int
 | bool=>exact .bool
 | str h=>exact .str h
 | list h=>exact .list h
 | nilS=>exact .nilS
 | agg=>exact .undef
 | aQ=>exact .undef
 | cP=>exact .cP
 | fn=>exact .undef
 | pref a b c=>exact .pref a b c
 | @dD _ e id aa=>
  simp only[gu]
  cases a9:gr ord id 0 with
  | none=>simp only[aa];exact .undef
  | some j=>
   obtain ⟨k,rfl,hk⟩:=kq a9
   exact .dD (hR.dead _ id (by simpa using hk) aa)
 | @fD _ e id off len aa=>
  simp only[gu]
  cases a9:gr ord id 0 with
  | none=>simp only[aa];exact .undef
  | some j=>
   obtain ⟨k,rfl,hk⟩:=kq a9
   exact .fD (hR.dead _ id (by simpa using hk) aa)
 | @jq _ id i c aa=>
  simp only[gu]
  cases a9:gr ord id 0 with
  | none=>exact .undef
  | some j=>
   obtain ⟨k,rfl,hk⟩:=kq a9
   exact .jq (hR.dead _ id (by simpa using hk) aa)
 | @dg e id fz _ aa hb=>
  simp only[gu]
  cases a9:gr ord id 0 with
  | none=>
   simp only[aa]
   cases fz with
   | false=>exact .undef
   | true=>simp only[Nat.beq_refl,cond_true];exact .list (.any fun _=>rfl)
  | some j=>
   obtain ⟨k,rfl,hk⟩:=kq a9
   have cU:ord[0+k]? =some id:=by simpa using hk
   exact .dg (hR.arr _ id _ _ _ cU aa) ((hR.place _ id cU).trans hb)
 | @whole e id es fz b cap aa hb aO bQ hm=>
  simp only[gu]
  cases a9:gr ord id 0 with
  | none=>
   simp only[aa]
   cases fz with
   | false=>exact .undef
   | true=>
    simp only[Nat.beq_refl,cond_true]
    have hr:=S.h.rel id _ aa
    cases hr with
    | dh au=>rw[au] at hb;cases hb
    | arr aq au hh hs hf dE hx=>
     rw[hb] at au;cases au
     have:=si (I':=I) (off:=0) (len:=es.length) (o:=0) hh hx (e7 aq) (by omega) bQ (fun _=>by simp) (fun _ h=>h) (hf rfl)
     exact .list (by simpa using this)
  | some j=>
   obtain ⟨k,rfl,hk⟩:=kq a9
   have cU:ord[0+k]? =some id:=by simpa using hk
   exact .whole (hR.arr _ id _ _ _ cU aa) ((hR.place _ id cU).trans hb) aO bQ hm
 | @fl e id fz _ aa hb=>
  simp only[gu]
  cases a9:gr ord id 0 with
  | none=>
   simp only[aa]
   cases fz with
   | false=>exact .undef
   | true=>simp only[Nat.beq_refl,cond_true];exact .list (by simpa using (gQ.any (P:=P) fun _=>rfl))
  | some j=>
   obtain ⟨k,rfl,hk⟩:=kq a9
   have cU:ord[0+k]? =some id:=by simpa using hk
   exact .fl (hR.arr _ id _ _ _ cU aa) ((hR.place _ id cU).trans hb)
 | @sub e id off len es fz b o cap aa hb iq bQ ho=>
  simp only[gu]
  cases a9:gr ord id 0 with
  | none=>
   simp only[aa]
   cases fz with
   | false=>exact .undef
   | true=>
    simp only[Nat.beq_refl,cond_true]
    have hr:=S.h.rel id _ aa
    cases hr with
    | dh au=>rw[au] at hb;cases hb
    | arr aq au hh hs hf dE hx=>
     rw[hb] at au;cases au
     exact .list (si (I':=I) hh hx (e7 aq) iq bQ ho (fun _ h=>h) (hf rfl))
  | some j=>
   obtain ⟨k,rfl,hk⟩:=kq a9
   have cU:ord[0+k]? =some id:=by simpa using hk
   exact .sub (hR.arr _ id _ _ _ cU aa) ((hR.place _ id cU).trans hb) iq bQ ho
 | @ptr id i c b blk aa hd hb=>
  simp only[gu]
  cases a9:gr ord id 0 with
  | none=>exact .undef
  | some j=>
   obtain ⟨k,rfl,hk⟩:=kq a9
   have cU:ord[0+k]? =some id:=by simpa using hk
   cases blk with
   | dead=>exact absurd rfl hd
   | var T0 cs=>
    obtain ⟨gB,h'⟩:=hR.var _ id T0 cs cU aa
    exact .ptr (blk:= .var T0 gB) h' (by simp) ((hR.place _ id cU).trans hb)
   | arr e es fz=>exact .ptr (blk:= .arr e es fz) (hR.arr _ id _ _ _ cU aa) (by simp) ((hR.place _ id cU).trans hb)
   | nest e es ai=>exact .ptr (blk:= .nest e es (ai.map fun _=>0)) (hR.nest _ id _ _ _ cU aa) (by simp) ((hR.place _ id cU).trans hb)
   | map t es=>exact .ptr (blk:= .map t es) (hR.map _ id _ _ cU aa) (by simp) ((hR.place _ id cU).trans hb)
 | cQ=>exact .cQ
 | @gz _ t id aa=>
  simp only[gu]
  cases a9:gr ord id 0 with
  | none=>exact .undef
  | some j=>
   obtain ⟨k,rfl,hk⟩:=kq a9
   exact .gz (hR.dead _ id (by simpa using hk) aa)
 | @bG t id b es aa hb=>
  simp only[gu]
  cases a9:gr ord id 0 with
  | none=>exact .undef
  | some j=>
   obtain ⟨k,rfl,hk⟩:=kq a9
   have cU:ord[0+k]? =some id:=by simpa using hk
   exact .bG (hR.map _ id _ _ cU aa) ((hR.place _ id cU).trans hb)
 | @dJ e id es ai b cap aa hb aO bQ hm=>
  simp only[gu]
  cases a9:gr ord id 0 with
  | none=>simp only[aa];exact .undef
  | some j=>
   obtain ⟨k,rfl,hk⟩:=kq a9
   have cU:ord[0+k]? =some id:=by simpa using hk
   exact .dJ (hR.nest _ id _ _ _ cU aa) ((hR.place _ id cU).trans hb) aO bQ hm
 | @iI v e id ver path blk aa xz=>
  simp only[gu]
  split
  ·rename_i j e1 bY ai h1 h2
   rw[aa] at h2
   cases h2
   cases hc:(Nat.blt 0 path.length&&(Nat.ble path.length ai.length&&Nat.beq (bq ai (path.length-1)) ver)) with
   | false=>exact .undef
   | true=>exact (Oh hc xz).elim
  ·exact .undef
 | @iJ v id ver i c path blk aa xz=>
  simp only[gu]
  split
  ·rename_i j e1 bY ai h1 h2
   rw[aa] at h2
   cases h2
   cases hc:(Nat.blt 0 path.length&&(Nat.ble path.length ai.length&&Nat.beq (bq ai (path.length-1)) ver)) with
   | false=>exact .undef
   | true=>exact (Oh hc xz).elim
  ·exact .undef
 | @row v e e0 t id ver b i c q es l ai aa hb hq hv ht hc=>
  simp only[gu]
  split
  ·rename_i j e1 bY sQ h1 h2
   obtain ⟨k,rfl,hk⟩:=kq h1
   have cU:ord[0+k]? =some id:=by simpa using hk
   cases hx:(Nat.blt 0 (q++[(i,c)]).length&&(Nat.ble (q++[(i,c)]).length sQ.length&&Nat.beq (bq sQ ((q++[(i,c)]).length-1)) ver)) with
   | false=>exact .undef
   | true=>exact .row (hR.nest _ id _ _ _ cU aa) ((hR.place _ id cU).trans hb) (by simpa using hq) (HC _ _) ht hc
  ·exact .undef
 | @cg e e0 t id ver b b1 len cap i0 c0 i c q es l ai aa hb hq hv ht kU hc=>
  simp only[gu]
  split
  ·rename_i j e1 bY sQ h1 h2
   obtain ⟨k,rfl,hk⟩:=kq h1
   have cU:ord[0+k]? =some id:=by simpa using hk
   cases hx:(Nat.blt 0 (q++[(i0,c0)]).length&&(Nat.ble (q++[(i0,c0)]).length sQ.length&&Nat.beq (bq sQ ((q++[(i0,c0)]).length-1)) ver)) with
   | false=>exact .undef
   | true=>exact .cg (hR.nest _ id _ _ _ cU aa) ((hR.place _ id cU).trans hb) (by simpa using hq) (HC _ _) ht kU hc
  ·exact .undef
theorem Oj (S:aC P w I β hp B M w0) {ord:List Nat} (hR:vk hp β ord hp' aj) {vs:Array Value} {xs:List V} (h: ∀(j:Nat) v x,vs[j]? =some v→xs[j]? =some x→ah P w I β hp v x) (j:Nat) (v:Value) (y:V)
  (hv:vs[j]? =some v) (hy:(xs.map (gu hp ord))[j]? =some y):ah P w I aj hp' v y:=by
 rw[List.getElem?_map] at hy
 cases hx:xs[j]? with
 | none=>rw[hx] at hy;cases hy
 | some x=>rw[hx] at hy;cases hy;exact Oi S hR (h j v x hv hx)
theorem Ol (S:aC P w I β hp B M w0) {ord:List Nat} (hR:vk hp β ord hp' aj) {n:Nat} {v:Value} {x:V} (hv:ah P w I β hp v x) (hF:jQ hp' aj n (uD hp ord n x).2):
  ah P w I aj hp' v (uD hp ord n x).1:=by
 cases x with
 | nilS e=>
  obtain ⟨h1,h2⟩:=hF 0 _ rfl
  cases hv with
  | nilS=>exact .dg h1 h2
 | fn f a b=>
  cases hv with
  | fn q1 q2 q3 q4=>exact .fn (by simpa using q1) (Oj S hR q2) (by simpa using q3) (Oj S hR q4)
 | _=>exact Oi S hR hv
end
section
variable {P:Program} {A:ch} {w w':World} {I I' I2:Nat→Prop} {μ β aj:Nat→Option Nat} {hp hp':Nat→Option ag} {C:ae} {B:Nat} {M:Nat→Prop} {w0:Start}
theorem jQ.left {n:Nat} {a b:List ag} (h:jQ hp' aj n (a++b)):jQ hp' aj n a:=fun k x hx=>
 h k x (by rw[List.getElem?_append_left (List.getElem?_eq_some_iff.1 hx).1];exact hx)
theorem jQ.right {n:Nat} {a b:List ag} (h:jQ hp' aj n (a++b)):jQ hp' aj (n+a.length) b:=fun k x hx=>by
 have:=h (a.length+k) x (by rw[List.getElem?_append_right (by omega),Nat.add_sub_cancel_left];exact hx)
 rwa [←Nat.add_assoc] at this
def ll (bs:List ag):Prop:= ∀b∈bs,∃e,b= .arr e [] false
theorem ll.app {a b:List ag} (h1:ll a) (h2:ll b):ll (a++b):=fun x hx=>(List.mem_append.1 hx).elim (h1 x) (h2 x)
theorem ll.nil:ll []:=fun x hx=>by simp at hx
theorem Om {ord:List Nat} {n:Nat} {x:V}:ll (uD hp ord n x).2:=by
 cases x<;>simp only[uD]<;>first|exact .nil|skip
 intro b hb
 simp only[List.mem_singleton] at hb
 exact ⟨_,hb⟩
theorem HD {ord:List Nat}: ∀{xs:List V} {n:Nat},ll (lP hp ord n xs).2
 | [],n=> .nil
 | x::xs,n=>by
  simp only[lP]
  exact Om.app HD
theorem CU {ord:List Nat}: ∀{xs:List V} {n:Nat},(lP hp ord n xs).1.length=xs.length
 | [],n=>rfl
 | x::xs,n=>by simp only[lP,List.length_cons,CU]
theorem CV (S:aC P w I β hp B M w0) {ord:List Nat} (hR:vk hp β ord hp' aj): ∀{xs:List V} {vs:List Value} {n:Nat},(∀(j:Nat) v x,vs[j]? =some v→xs[j]? =some x→ah P w I β hp v x)→
  jQ hp' aj n (lP hp ord n xs).2→∀(j:Nat) v y,vs[j]? =some v→(lP hp ord n xs).1[j]? =some y→ah P w I aj hp' v y
 | [],vs,n,h,hF,j,v,y,hv,hy=>by simp[lP] at hy
 | x::xs,vs,n,h,hF,j,v,y,hv,hy=>by
  simp only[lP] at hF hy
  cases j with
  | zero=>
   simp at hy
   subst hy
   exact Ol S hR (h 0 v x hv rfl) hF.left
  | succ j=>
   cases vs with
   | nil=>simp at hv
   | cons v0 vs=>exact CV S hR (vs:=vs) (fun j v x hj hx=>h (j+1) v x (by simpa using hj) (by simpa using hx)) hF.right j v y (by simpa using hv) (by simpa using hy)
theorem Yb {ord:List Nat} {n:Nat} {x:V}:ll (oY hp ord n x).2:=by
 cases x<;>simp only[oY]<;>first|exact Om|exact HD
theorem Yc (S:aC P w I β hp B M w0) {ord:List Nat} (hR:vk hp β ord hp' aj) {n:Nat} {v:Value} {x:V} (hv:ah P w I β hp v x) (hF:jQ hp' aj n (oY hp ord n x).2):
  ah P w I aj hp' v (oY hp ord n x).1:=by
 cases x with
 | agg cs=>
  obtain ⟨ds,rfl,h1,h2⟩:=hv.jL
  simp only[oY] at hF⊢
  exact .agg (by rw[CU];exact h1) fun j v y hj hy=>CV S hR (vs:=ds.toList) (fun j v x hj hx=>h2 j v x (by simpa using hj) hx) hF j v y (by simpa using hj) hy
 | aQ cs=>
  obtain ⟨ds,rfl,h1,h2⟩:=hv.sr
  simp only[oY] at hF⊢
  exact .aQ (by rw[CU];exact h1) fun j v y hj hy=>CV S hR (vs:=ds.toList) (fun j v x hj hx=>h2 j v x (by simpa using hj) hx) hF j v y (by simpa using hj) hy
 | _=>exact Ol S hR hv hF
theorem On {ord:List Nat} {sl:Nat→V}: ∀{l:List Nat} {n:Nat},ll (j9 hp ord sl n l).2
 | [],n=> .nil
 | s::l,n=>by
  simp only[j9]
  exact Yb.app On
theorem Oo {ord:List Nat} {sl:Nat→V} {k:Nat} {y:V}: ∀{l:List Nat} {n:Nat},jQ hp' aj n (j9 hp ord sl n l).2→dd (j9 hp ord sl n l).1 k=some y→
  ∃n',jQ hp' aj n' (oY hp ord n' (sl k)).2∧y=(oY hp ord n' (sl k)).1
 | [],n,_,h=>by cases h
 | s::l,n,hF,h=>by
  simp only[j9] at hF h
  simp only[dd] at h
  cases hb:Nat.beq k s with
  | true=>
   rw[hb] at h
   rw[Nat.beq_eq] at hb
   subst hb
   cases h
   exact ⟨n,hF.left,rfl⟩
  | false=>
   rw[hb] at h
   exact Oo hF.right h
theorem Yd {ord:List Nat} {n id:Nat}:ll (ep hp ord n id).2:=by
 unfold ep
 split
 ·exact HD
 ·exact .nil
 ·exact .nil
 ·exact .nil
 ·exact .nil
theorem Oq {ord:List Nat}: ∀{l:List Nat} {n:Nat},ll (e6 hp ord n l).2
 | [],n=> .nil
 | s::l,n=>by
  simp only[e6]
  exact Yd.app Oq
theorem Ot {ord:List Nat}: ∀{l:List Nat} {n:Nat},(e6 hp ord n l).1.length=l.length
 | [],n=>rfl
 | x::xs,n=>by simp only[e6,List.length_cons,Ot]
theorem Ou {ord:List Nat}: ∀{l:List Nat} {n j:Nat} {id:Nat},l[j]? =some id→∃n',(jQ hp' aj n (e6 hp ord n l).2→jQ hp' aj n' (ep hp ord n' id).2)∧(e6 hp ord n l).1[j]? =some (ep hp ord n' id).1
 | [],n,j,id,h=>by simp at h
 | s::l,n,j,id,h=>by
  simp only[e6]
  cases j with
  | zero=>
   simp at h
   subst h
   exact ⟨n,fun hF=>hF.left,rfl⟩
  | succ j=>
   obtain ⟨n',h1,h2⟩:=Ou (n:=n+(ep hp ord n s).2.length) (j:=j) (by simpa using h)
   exact ⟨n',fun hF=>h1 hF.right,by simpa using h2⟩
theorem CW: ∀{l acc:List Nat},∃t,rU hp acc l=acc++t∧(acc.Nodup→(acc++t).Nodup)
 | [],acc=>⟨[],by simp[rU],by simp⟩
 | id::l,acc=>by
  simp only[rU]
  cases hb:(jh acc id|| !(F8 hp id)) with
  | true=>exact CW
  | false=>
   obtain ⟨t,h1,h2⟩:=CW (l:=l) (acc:=acc++[id])
   refine ⟨id::t,by simp only[cond_false,h1,List.append_assoc,List.singleton_append],fun hn=> ?_⟩
   have:acc++id::t=(acc++[id])++t:=by simp
   rw[this]
   refine h2 ?_
   rw[List.nodup_append]
   refine ⟨hn,by simp,fun a ha b au=> ?_⟩
   simp only[List.mem_singleton] at au
   subst au
   intro e
   subst e
   rw[uT ha] at hb
   cases hb
theorem Ov: ∀{n:Nat} {l:List Nat},∃t,grow hp n l=l++t∧(l.Nodup→(l++t).Nodup)
 | 0,l=>⟨[],by simp[grow],by simp⟩
 | n+1,l=>by
  simp only[grow]
  obtain ⟨t,h1,h2⟩:=CW (hp:=hp) (acc:=l) (l:=l.flatMap (F9 hp))
  rw[h1]
  obtain ⟨t',h3,h4⟩:=Ov (n:=n) (l:=l++t)
  exact ⟨t++t',by rw[h3,List.append_assoc],fun hn=>by rw[←List.append_assoc];exact h4 (h2 hn)⟩
theorem Ye {m:Nat} {live:List Nat} {st:St}: ∃t,Ga m live st=List.range m++t∧(List.range m++t).Nodup:=by
 unfold Ga
 obtain ⟨t,h1,h2⟩:=CW (hp:=st.hp) (acc:=List.range m) (l:=live.flatMap fun s=>F7 (st.sl s))
 rw[h1]
 obtain ⟨t',h3,h4⟩:=Ov (hp:=st.hp) (n:=3) (l:=List.range m++t)
 exact ⟨t++t',by rw[h3,List.append_assoc],by rw[←List.append_assoc];exact h4 (h2 List.nodup_range)⟩
end
section
variable {P:Program} {A:ch} {E:FuncId→Bool} {G:Nat→V} {w w':World} {I I' I2:Nat→Prop} {μ β aj:Nat→Option Nat} {hp hp' hp0:Nat→Option ag} {C:ae} {B:Nat} {M:Nat→Prop} {w0:Start}
theorem Ow {n m:Nat} {ord live:List Nat} {a:Act} {st:St} (lU:ord.Nodup) (yq: ∀id,id<m→ord[id]? =some id∨∃p,ord[id]? =some p∧st.hp p=none) (S:aC P w I β st.hp B M w0) (hA:gY P E G w I β n a st) (hE:jO w0.w w0.I μ hp0 w I β st.hp) (hm: ∀id blk,hp0 id=some blk→id<m) (iy: ∀id e es ai,hp0 id=some (.nest e es ai)→∀k,bq ai k=0):
  ∃aj,aC P w I aj (uE ord live st).hp B M w0∧gY P E G w I aj n a (uE ord live st)∧jO w0.w w0.I μ hp0 w I aj (uE ord live st).hp:=by
 have Yf:uE ord live st=mk (j9 st.hp ord st.sl (ord.length+(e6 st.hp ord ord.length ord).2.length) live).1
   ((e6 st.hp ord ord.length ord).1++((e6 st.hp ord ord.length ord).2++(j9 st.hp ord st.sl (ord.length+(e6 st.hp ord ord.length ord).2.length) live).2)):=by
  rfl
 rw[Yf]
 let hp':=iH ((e6 st.hp ord ord.length ord).1++((e6 st.hp ord ord.length ord).2++(j9 st.hp ord st.sl (ord.length+(e6 st.hp ord ord.length ord).2.length) live).2))
 let aj:Nat→Option Nat:=fun j=>if j<ord.length then (ord[j]?).bind β else none
 have hlen:(e6 st.hp ord ord.length ord).1.length=ord.length:=Ot
 have gW: ∀j,j<ord.length→hp' j=(e6 st.hp ord ord.length ord).1[j]? :=by
  intro j hj
  simp only[hp',gi]
  rw[List.getElem?_append_left (by omega)]
 have gh: ∀k,hp' (ord.length+k)=((e6 st.hp ord ord.length ord).2++(j9 st.hp ord st.sl (ord.length+(e6 st.hp ord ord.length ord).2.length) live).2)[k]? :=by
  intro k
  simp only[hp',gi]
  rw[List.getElem?_append_right (by omega),hlen,Nat.add_sub_cancel_left]
 have hF:jQ hp' aj ord.length ((e6 st.hp ord ord.length ord).2++(j9 st.hp ord st.sl (ord.length+(e6 st.hp ord ord.length ord).2.length) live).2):=by
  intro k b hb
  refine ⟨(gh k).trans hb,?_⟩
  simp only[aj]
  rw[if_neg (by omega)]
 have yn:ll ((e6 st.hp ord ord.length ord).2++(j9 st.hp ord st.sl (ord.length+(e6 st.hp ord ord.length ord).2.length) live).2):=Oq.app On
 have nf: ∀(j:Nat) id,ord[j]? =some id→aj j=β id:=by
  intro j id hj
  simp only[aj]
  rw[if_pos (List.getElem?_eq_some_iff.1 hj).1,hj]
  rfl
 have pA: ∀(j:Nat) id,ord[j]? =some id→∃n',jQ hp' aj n' (ep st.hp ord n' id).2∧hp' j=some (ep st.hp ord n' id).1:=by
  intro j id hj
  obtain ⟨n',h1,h2⟩:=Ou (hp:=st.hp) (hp':=hp') (aj:=aj) (ord:=ord) (n:=ord.length) hj
  exact ⟨n',h1 hF.left,(gW j (List.getElem?_eq_some_iff.1 hj).1).trans h2⟩
 have hR:vk st.hp β ord hp' aj:=by
  refine ⟨fun j id e es fz hj aa=> ?_,fun j id T cs hj aa=> ?_,fun j id hj aa=> ?_,nf,fun j id e es ai hj aa=> ?_,fun j id t es hj aa=> ?_⟩
  ·obtain ⟨n',_,h2⟩:=pA j id hj
   rw[h2];simp only[ep,aa]
  ·obtain ⟨n',_,h2⟩:=pA j id hj
   rw[h2];simp only[ep,aa];exact ⟨_,rfl⟩
  ·obtain ⟨n',_,h2⟩:=pA j id hj
   rw[h2];simp only[ep,aa]
  ·obtain ⟨n',_,h2⟩:=pA j id hj
   rw[h2];simp only[ep,aa]
  ·obtain ⟨n',_,h2⟩:=pA j id hj
   rw[h2];simp only[ep,aa]
 have cls: ∀j blk',hp' j=some blk'→(∃id,ord[j]? =some id∧((blk'= .dead)∨∃blk,st.hp id=some blk∧blk≠ .dead∧∀o b,bj P w o blk' b→bj P w o blk b))∨(∃e,blk'= .arr e [] false∧aj j=none):=by
  intro j blk' hj
  rcases Nat.lt_or_ge j ord.length with h|h
  ·have fP:=List.getElem?_eq_getElem h
   obtain ⟨n',_,h2⟩:=pA j _ fP
   rw[hj] at h2
   refine .inl ⟨_,fP,?_⟩
   cases aa:st.hp ord[j] with
   | none=>left;simp only[ep,aa] at h2;exact Option.some.inj h2
   | some blk=>
    cases blk with
    | dead=>left;simp only[ep,aa] at h2;exact Option.some.inj h2
    | var T0 cs=>exact .inr ⟨_,rfl,by simp,fun o b h=>by simp only[ep,aa] at h2;rw[Option.some.inj h2] at h;exact .root (by simp) (h.flat (by simp))⟩
    | arr e es fz=>exact .inr ⟨_,rfl,by simp,fun o b h=>by simp only[ep,aa] at h2;rw[Option.some.inj h2] at h;exact .root (by simp) (h.flat (by simp))⟩
    | map t es=>exact .inr ⟨_,rfl,by simp,fun o b h=>by simp only[ep,aa] at h2;rw[Option.some.inj h2] at h;exact .root (by simp) (h.flat (by simp))⟩
    | nest e es ai=>
     refine .inr ⟨_,rfl,by simp,fun o b h=> ?_⟩
     simp only[ep,aa] at h2
     rw[Option.some.inj h2] at h
     cases h with
     | root _ h=>exact .root (by simp) h
     | row h1 h2=>exact .row h1 h2
  ·obtain ⟨k,rfl⟩: ∃k,j=ord.length+k:=⟨j-ord.length,by omega⟩
   rw[gh] at hj
   obtain ⟨e,he⟩:=yn _ (List.mem_of_getElem? hj)
   exact .inr ⟨e,he,(hF k _ hj).2⟩
 refine ⟨aj,⟨⟨fun j blk' hj=> ?_,fun j1 j2 b1 b2 b e1 e2 f1 f2=> ?_,fun j blk b e1 f1=> ?_,S.h.iK⟩,S.bR,S.size,S.new,S.io⟩,⟨fun k=> ?_,hA.size,hA.defers,hA.aA⟩,⟨hE.cM,hE.bR,fun id blk aa=> ?_,fun id blk blk' b aa br hd hb=> ?_⟩⟩
 ·change hp' j=some blk' at hj
  rcases Nat.lt_or_ge j ord.length with h|h
  ·have fP:=List.getElem?_eq_getElem h
   obtain ⟨n',Ox,h2⟩:=pA j _ fP
   rw[hj] at h2
   rw[nf j _ fP]
   cases aa:st.hp ord[j] with
   | none=>simp only[ep,aa] at h2;rw[Option.some.inj h2];exact .dead
   | some blk=>
    have hr:=S.h.rel _ _ aa
    generalize β ord[j]=o at hr
    cases hr with
    | dead=>simp only[ep,aa] at h2;rw[Option.some.inj h2];exact .dead
    | dh hb=>simp only[ep,aa] at h2;rw[Option.some.inj h2];exact .dh hb
    | arr a1 a2 a3 a4 a5 a6 a7=>simp only[ep,aa] at h2;rw[Option.some.inj h2];exact .arr a1 a2 a3 a4 a5 a6 a7
    | nest a1 a2 a3=>simp only[ep,aa] at h2;rw[Option.some.inj h2];exact .nest a1 a2 a3
    | map a1 a2 a3 a4 a5 a6 a7=>simp only[ep,aa] at h2;rw[Option.some.inj h2];exact .map a1 a2 a3 a4 a5 a6 a7
    | @var xs b Ca T hb hh hs cu hx fF=>
     simp only[ep,aa] at h2 Ox
     rw[Option.some.inj h2]
     exact .var hb hh (by rw[CU];exact hs) cu (fun i v y hi hy=>CV S hR (vs:=Ca.toList) (fun i v x hi cd=>hx i v x (by simpa using hi) cd) Ox i v y (by simpa using hi) hy) fF
  ·rcases cls j blk' hj with ⟨id,aa,_⟩|⟨e,he,hb⟩
   ·have:=(List.getElem?_eq_some_iff.1 aa).1;omega
   ·rw[he];exact .dh hb
 ·rcases cls j1 b1 e1 with ⟨HE,o1,x1⟩|⟨e,_,hb⟩
  ·rcases cls j2 b2 e2 with ⟨cf,o2,x2⟩|⟨e,_,hb⟩
   ·obtain ⟨c1,y1,z1,g1⟩:=x1.resolve_left f1.alive
    obtain ⟨c2,y2,z2,g2⟩:=x2.resolve_left f2.alive
    rw[nf _ _ o1] at f1
    rw[nf _ _ o2] at f2
    have:=S.h.inj HE cf c1 c2 b y1 y2 (g1 _ _ f1) (g2 _ _ f2)
    subst this
    obtain ⟨q1,q2⟩:=List.getElem?_eq_some_iff.1 o1
    obtain ⟨q3,q4⟩:=List.getElem?_eq_some_iff.1 o2
    exact (List.getElem_inj lU).1 (q2.trans q4.symm)
   ·subst ‹b2=_›;have:=f2.flat (by simp);rw[hb] at this;cases this
  ·subst ‹b1=_›;have:=f1.flat (by simp);rw[hb] at this;cases this
 ·rcases cls j blk e1 with ⟨HE,o1,x1⟩|⟨e,_,hb⟩
  ·obtain ⟨c1,y1,z1,g1⟩:=x1.resolve_left f1.alive
   rw[nf _ _ o1] at f1
   exact S.h.own HE c1 b y1 (g1 _ _ f1)
  ·subst ‹blk=_›;have:=f1.flat (by simp);rw[hb] at this;cases this
 ·change ah P w I aj hp' (a.tmps.getD k undef) (ik _ k)
  unfold ik
  cases Hk:dd (j9 st.hp ord st.sl (ord.length+(e6 st.hp ord ord.length ord).2.length) live).1 k with
  | none=>exact .undef
  | some y=>
   obtain ⟨n',h1,h2⟩:=Oo hF.right Hk
   simp only[Option.getD_some,h2]
   exact Yc S hR (hA.sl k) h1
 ·obtain ⟨pt,k1,k2,k3⟩:=hE.blk id blk aa
  rcases yq id (hm id blk aa) with ho|⟨p,ho,a9⟩
  ·cases pt with
   | dead=>exact ⟨.dead,hR.dead id id ho k1,k2,fun h=>absurd rfl h⟩
   | var T0 cs=>
    obtain ⟨gB,h'⟩:=hR.var id id T0 cs ho k1
    refine ⟨_,h',?_,fun _=>(nf id id ho).trans (k3 (by simp))⟩
    cases blk<;>simp_all [ag.le]
   | arr e es fz=>exact ⟨_,hR.arr id id e es fz ho k1,k2,fun _=>(nf id id ho).trans (k3 (by simp))⟩
   | map t es=>exact ⟨_,hR.map id id t es ho k1,k2,fun _=>(nf id id ho).trans (k3 (by simp))⟩
   | nest e es ai=>
    refine ⟨_,hR.nest id id e es ai ho k1,?_,fun _=>(nf id id ho).trans (k3 (by simp))⟩
    obtain ⟨Gi,Vk,rfl,l1,l2,_⟩:=ag.Gg k2
    exact ⟨rfl,l1,by simpa using l2,fun k=>by rw[iy id _ _ _ aa k];exact Nat.zero_le _⟩
  ·obtain ⟨n',_,h2⟩:=pA id p ho
   simp only[ep,a9] at h2
   exact ⟨.dead,h2,by cases blk<;>trivial,fun h=>absurd rfl h⟩
 ·obtain ⟨pt,k1,k2,k3⟩:=hE.blk id blk aa
  rcases yq id (hm id blk aa) with ho|⟨p,ho,a9⟩
  ·refine hE.size id blk pt b aa k1 (fun pz=> ?_) hb
   subst pz
   have:=hR.dead id id ho k1
   change hp' id=some blk' at br
   rw[this] at br
   exact hd (Option.some.inj br).symm
  ·obtain ⟨n',_,h2⟩:=pA id p ho
   simp only[ep,a9] at h2
   change hp' id=some blk' at br
   rw[h2] at br
   exact absurd (Option.some.inj br).symm hd
theorem Yg {n m:Nat} {live:List Nat} {a:Act} {st:St} (S:aC P w I β st.hp B M w0) (hA:gY P E G w I β n a st) (hE:jO w0.w w0.I μ hp0 w I β st.hp) (hm: ∀id blk,hp0 id=some blk→id<m) (iy: ∀id e es ai,hp0 id=some (.nest e es ai)→∀k,bq ai k=0):
  ∃aj,aC P w I aj (canon m live st).hp B M w0∧gY P E G w I aj n a (canon m live st)∧jO w0.w w0.I μ hp0 w I aj (canon m live st).hp:=by
 obtain ⟨t,yq,lU⟩:=Ye (m:=m) (live:=live) (st:=st)
 refine Ow (by rw[yq];exact lU) (fun id aK=> .inl ?_) S hA hE hm iy
 rw[yq,List.getElem?_append_left (by simpa using aK)]
 simp[aK]
theorem Oy: ∀{l:List Nat},mQ l=true→l.Nodup
 | [],_=> .nil
 | a::l,h=>by
  simp only[mQ,Bool.and_eq_true,Bool.not_eq_true'] at h
  rw[List.nodup_cons]
  exact ⟨fun hm=>Bool.noConfusion ((uT hm).symm.trans h.1),Oy h.2⟩
theorem Yh {m:Nat} {mv:List Nat} {id:Nat} (h:id<m):(kR m mv)[id]? =some id∨(kR m mv)[id]? =some (m+id):=by
 unfold kR
 rw[List.getElem?_append_left (by simpa using h),List.getElem?_map]
 simp only[List.getElem?_range h,Option.map_some]
 cases jh mv id with
 | true=>exact .inr rfl
 | false=>exact .inl rfl
end
section
variable {P:Program} {A:ch} {w w':World} {I I' I2:Nat→Prop} {μ β aj:Nat→Option Nat} {hp hp' hp0:Nat→Option ag} {C:ae} {B:Nat} {M:Nat→Prop} {w0:Start}
theorem CX (p:Nat→Prop) (h: ∃n,p n): ∃n,p n∧∀m,p m→n≤m:=by
 obtain ⟨n,hn⟩:=h
 induction n using Nat.strongRecOn with
 | _ n ih=>
  by_cases hx: ∃m,m<n∧p m
  ·obtain ⟨m,hm,hp⟩:=hx
   exact ih m hm hp
  ·exact ⟨n,hn,fun m hm=>Nat.le_of_not_lt fun aK=>hx ⟨m,aK,hm⟩⟩
open Classical in
theorem Yi {c:Code} {Q:Exit→Act→World→Prop} (J:Nat→Act→World→Prop) (h0: ∀a w,¬J 0 a w) (round: ∀n a w,J (n+1) a w→c.wp P (Exit.then (J n) Q) a w) {n:Nat} {a:Act} {w:World} (h:J n a w):
  (Code.loop c).wp P Q a w:=by
 refine wp_loop (fun a w=> ∃n,J n a w) (fun a w=>if h: ∃n,J n a w then (CX _ h).choose else 0) ⟨n,h⟩ fun a w hJ=> ?_
 obtain ⟨h1,h2⟩:=(CX _ hJ).choose_spec
 generalize hk:(CX _ hJ).choose=k at h1 h2
 cases k with
 | zero=>exact absurd h1 (h0 a w)
 | succ k=>
  refine wp_mono (round k a w h1) fun e a' w' he=> ?_
  cases e with
  | normal=>
   have hex: ∃n,J n a' w':=⟨k,he⟩
   refine ⟨hex,?_⟩
   have h3:=(CX _ hex).choose_spec.2 k he
   rw[dif_pos hex,dif_pos hJ,hk]
   omega
  | _=>exact he
def vl:Out→Exit
 | .norm=> .normal
 | .exit id=> .exit id
 | .ret=> .ret
def Inv (P:Program) (E:FuncId→Bool) (G:Nat→V) (B:Nat) (M:Nat→Prop) (w0:Start) (μ:Nat→Option Nat) (hp0:Nat→Option ag) (n:Nat) (a:Act) (w:World) (st:St):Prop:=
 ∃I β,aC P w I β st.hp B M w0∧gY P E G w I β n a st∧jO w0.w w0.I μ hp0 w I β st.hp
theorem Inv.canon {E:FuncId→Bool} {G:Nat→V} {n m:Nat} {a:Act} {st:St} {live:List Nat} (h:Inv P E G B M w0 μ hp0 n a w st) (hm: ∀id blk,hp0 id=some blk→id<m) (iy: ∀id e es ai,hp0 id=some (.nest e es ai)→∀k,bq ai k=0):Inv P E G B M w0 μ hp0 n a w (canon m live st):=by
 obtain ⟨I,β,S,hA,hE⟩:=h
 obtain ⟨aj,a,b,c⟩:=Yg (live:=live) S hA hE hm iy
 exact ⟨I,aj,a,b,c⟩
theorem CY: ∀{l:List BS} {ds:List V},(eb l ds).length=l.length
 | [],_=>rfl
 | b::l,ds=>by simp only[eb,List.length_cons,CY]
theorem Inv.enter {A:ch} {E:FuncId→Bool} {G:Nat→V} {n f:Nat} {ds:List V} {a:Act} (jx:mQ (kR (A.sin f).aP.length (A.mv f))=true) (h:Inv P E G B M w0 μ hp0 n a w (aX (A.sin f) ds)) (hm: ∀id blk,hp0 id=some blk→id<(A.sin f).aP.length)
  (iy: ∀id e es ai,hp0 id=some (.nest e es ai)→∀k,bq ai k=0) (vm: ∀p,(A.sin f).aP.length≤p→(aX (A.sin f) ds).hp p=none):Inv P E G B M w0 μ hp0 n a w (xn A f ds):=by
 unfold xn
 split
 ·exact h
 ·obtain ⟨I,β,S,hA,hE⟩:=h
  obtain ⟨aj,x,y,z⟩:=Ow (m:=(A.sin f).aP.length) (ord:=kR (A.sin f).aP.length (A.mv f)) (live:=(A.sin f).bu.map (·.1)) (Oy jx) (fun id aa=>(Yh aa).imp (fun h=>h) fun h=>⟨_,h,vm _ (by omega)⟩) S hA hE hm iy
  exact ⟨I,aj,x,y,z⟩
theorem Inv.reshape {E:FuncId→Bool} {G:Nat→V} {n m:Nat} {a:Act} {st:St} {S:Shape} {ds:List V} (h:Inv P E G B M w0 μ hp0 n a w st) (hs:gP m S st=some ds) (hm: ∀id blk,hp0 id=some blk→id<m):Inv P E G B M w0 μ hp0 n a w (aX S ds):=by
 obtain ⟨I,β,S1,hA,hE⟩:=h
 obtain ⟨r1,r2,_,r4⟩:=AM.reshape hs S1
 refine ⟨I,β,r1,⟨fun k=>r2 k _ (hA.sl k),hA.size,hA.defers,hA.aA⟩,⟨hE.cM,hE.bR,fun id blk aa=> ?_,fun id blk blk' b aa br hd hb=> ?_⟩⟩
 ·obtain ⟨pt,k1,k2,k3⟩:=hE.blk id blk aa
  obtain ⟨_,hle,_⟩:=Nb hs
  have hl:=hm id blk aa
  obtain ⟨bK,h2⟩: ∃bK,(aX S ds).hp id=some bK:=by
   simp only[aX,mk,gi]
   exact ⟨_,List.getElem?_eq_getElem (by rw[CY];omega)⟩
  by_cases hd:bK= .dead
  ·subst hd
   exact ⟨_,h2,by cases blk<;>trivial,fun h=>absurd rfl h⟩
  ·obtain ⟨ga,e1,e2,_⟩:=r4 id bK h2 hd
   rw[k1] at e1;cases e1
   exact ⟨_,h2,ag.le_trans k2 e2,fun _=>k3 (fun e=>hd (ag.nQ (e▸e2)))⟩
 ·obtain ⟨ga,e1,e2,_⟩:=r4 id blk' br hd
  exact hE.size id blk ga b aa e1 (fun e=>hd (ag.nQ (e▸e2))) hb
theorem jP.here (h:jP P A C) (f:Nat) (id:Nat):jP P (A.here f id) C:=by
 intro key ds es hh
 obtain ⟨fn,c,h1,h2,h3⟩:=h key ds es hh
 refine ⟨fn,c,h1,h2,fun w I μ vals a g b d=>(h3 w I μ vals a g b d).mono fun e w' hx=> ?_⟩
 obtain ⟨v,I2,bL,q1,q2⟩:=hx
 exact ⟨v,I2,bL,q1,⟨q2.vd,q2.le,q2.res⟩⟩
theorem Yj {a b:Out} (h:BH a b=true):a=b:=by
 cases a<;>cases b<;>simp[BH] at h<;>first|rfl|(subst h;rfl)
theorem Oz {m:Nat} {r:Out × St}: ∀{l:List (Out × Shape)} {j:Nat} {e:Nat × List V},ways m j l r=some e→j≤e.1
 | [],j,e,h=>by cases h
 | (o,S)::l,j,e,h=>by
  simp only[ways] at h
  split at h
  ·cases h;exact Nat.le_refl _
  ·have:=Oz h;omega
theorem HF {m:Nat} {o:Out} {s:St} {out:Out} {st':St}: ∀{l:List (Out × Shape)} {k:Nat} {e:Nat × List V},ways m k l (o,s)=some e→jn k l e.1 e.2 (fun o st=>some (o,st))=some (out,st')→
  out=o∧∃S,gP m S s=some e.2∧st'=aX S e.2
 | [],k,e,h,_=>by cases h
 | (o',S)::l,k,e,h,h2=>by
  simp only[ways] at h
  split at h
  ·rename_i ds hx
   cases h
   cases ho:BH o' o with
   | false=>rw[ho] at hx;cases hx
   | true=>
    rw[ho] at hx
    have:=Yj ho
    subst this
    cases l with
    | nil=>
     simp only[jn,Option.some.injEq,Prod.mk.injEq] at h2
     exact ⟨h2.1.symm,S,hx,h2.2.symm⟩
    | cons p l=>
     simp only[jn,Nat.beq_refl,cond_true,Option.some.injEq,Prod.mk.injEq] at h2
     exact ⟨h2.1.symm,S,hx,h2.2.symm⟩
  ·have n0:=Oz h
   cases l with
   | nil=>cases h
   | cons p l=>
    have bA:Nat.beq e.1 k=false:=by
     cases hb:Nat.beq e.1 k with
     | false=>rfl
     | true=>rw[Nat.beq_eq] at hb;omega
    simp only[jn,bA,cond_false] at h2
    exact HF h h2
theorem Yk (hC:jP P A C) (hP:iw P A) (og:P.follows .mixedOrders=true) {f n m:Nat} (hm: ∀id blk,hp0 id=some blk→id<m) (iy: ∀id e es ai,hp0 id=some (.nest e es ai)→∀k,bq ai k=0):
  ∀(c:Code) {st st':St} {out:Out} {Q:Exit→Act→World→Prop} {a:Act} {w:World},exec P A C f n m c st=some (out,st')→Inv P A.idle A.aA B M w0 μ hp0 n a w st→
   (∀a' w',Inv P A.idle A.aA B M w0 μ hp0 n a' w' st'→Q (vl out) a' w')→c.wp P Q a w:=by
 intro c
 induction c with
 | skip=>
  intro st st' out Q a w h hI hQ
  simp only[exec,Option.some.injEq,Prod.mk.injEq] at h
  obtain ⟨rfl,rfl⟩:=h
  exact wp_skip (hQ a w hI)
 | exit id=>
  intro st st' out Q a w h hI hQ
  simp only[exec,Option.some.injEq,Prod.mk.injEq] at h
  obtain ⟨rfl,rfl⟩:=h
  exact wp_exit (hQ a w hI)
 | ret=>
  intro st st' out Q a w h hI hQ
  simp only[exec,Option.some.injEq,Prod.mk.injEq] at h
  obtain ⟨rfl,rfl⟩:=h
  exact wp_ret (hQ a w hI)
 | region id ops draw=>
  intro st st' out Q a w h hI hQ
  simp only[exec] at h
  obtain ⟨gZ,h1,h2⟩:=bind_some h
  simp only[Option.some.injEq,Prod.mk.injEq] at h2
  obtain ⟨rfl,rfl⟩:=h2
  obtain ⟨I,β,S,hA,hE⟩:=hI
  refine X9 (hC.here f id) (hP.here f id) og h1 S hA fun a' w' I' aj k1 k2 k3=> ?_
  obtain ⟨I2,l1,l2,l3⟩:=Og (m:=m) (pur:=A.pur f id) k2 k3
  have Yl:=(hE.trans k1.CE).trans l1.CE
  exact hQ a' w' (Inv.canon ⟨I2,aj,l2,l3,Yl⟩ hm iy)
 | seq x y fi fj=>
  intro st st' out Q a w h hI hQ
  simp only[exec] at h
  obtain ⟨⟨o1,gZ⟩,h1,h2⟩:=bind_some h
  refine wp_seq (fi h1 hI fun a' w' iS=> ?_)
  cases o1 with
  | norm=>exact fj h2 iS hQ
  | exit id=>
   simp only[Option.some.injEq,Prod.mk.injEq] at h2
   obtain ⟨rfl,rfl⟩:=h2
   exact hQ a' w' iS
  | ret=>
   simp only[Option.some.injEq,Prod.mk.injEq] at h2
   obtain ⟨rfl,rfl⟩:=h2
   exact hQ a' w' iS
 | cond c x y fi fj=>
  intro st st' out Q a w h hI hQ
  cases c with
  | tmp t=>
   have go: ∀{st st':St} {out:Out} {Q:Exit→Act→World→Prop} {a:Act} {w:World},(match st.sl t with
     | .bool b=>(bif b then exec P A C f n m x st else exec P A C f n m y st).bind fun r=>
      match r.1 with
      | .norm=>some (.norm,AM.canon m (A.join f t) r.2)
      | _=>some r
     | _=>none)=some (out,st')→Inv P A.idle A.aA B M w0 μ hp0 n a w st→(∀a' w',Inv P A.idle A.aA B M w0 μ hp0 n a' w' st'→Q (vl out) a' w')→(Code.cond (.tmp t) x y).wp P Q a w:=by
    intro st st' out Q a w h hI hQ
    cases hs:st.sl t<;>rw[hs] at h<;>simp only at h<;>first|(cases h;done)|skip
    rename_i b
    obtain ⟨⟨o1,gZ⟩,h1,h2⟩:=bind_some h
    obtain ⟨I,β,S,hA,hE⟩:=hI
    have ew:a.eval (.tmp t)= .bool b:=by
     have:=NM hA hs
     simp[Act.eval,this]
    have fin: ∀a' w',Inv P A.idle A.aA B M w0 μ hp0 n a' w' gZ→Q (vl o1) a' w':=by
     intro a' w' iS
     cases o1 with
     | norm=>
      simp only[Option.some.injEq,Prod.mk.injEq] at h2
      obtain ⟨rfl,rfl⟩:=h2
      exact hQ a' w' (iS.canon hm iy)
     | exit id=>
      simp only[Option.some.injEq,Prod.mk.injEq] at h2
      obtain ⟨rfl,rfl⟩:=h2
      exact hQ a' w' iS
     | ret=>
      simp only[Option.some.injEq,Prod.mk.injEq] at h2
      obtain ⟨rfl,rfl⟩:=h2
      exact hQ a' w' iS
    refine wp_cond ew ?_
    cases b with
    | true=>exact fi h1 ⟨I,β,S,hA,hE⟩ fin
    | false=>exact fj h1 ⟨I,β,S,hA,hE⟩ fin
   simp only[exec] at h
   split at h
   ·exact go h hI hQ
   ·obtain ⟨ds,h1,h2⟩:=bind_some h
    obtain ⟨e,h3,h4⟩:=bind_some h2
    obtain ⟨⟨o1,s1⟩,h5,h6⟩:=bind_some h3
    obtain ⟨rfl,S',k1,rfl⟩:=HF h6 h4
    exact go h5 (hI.reshape h1 hm) fun a' w' iS=>hQ a' w' (iS.reshape k1 hm)
  | const v=>
   cases v with
   | bool b=>
    simp only[exec] at h
    refine wp_cond (t:=b) rfl ?_
    cases b with
    | true=>exact fi h hI hQ
    | false=>exact fj h hI hQ
   | _=>simp only[exec] at h;cases h
  | _=>simp only[exec] at h;cases h
 | block id c ih=>
  intro st st' out Q a w h hI hQ
  simp only[exec] at h
  obtain ⟨⟨o1,gZ⟩,h1,h2⟩:=bind_some h
  refine wp_block (ih h1 hI fun a' w' iS=> ?_)
  cases o1 with
  | norm=>
   simp only[Option.some.injEq,Prod.mk.injEq] at h2
   obtain ⟨rfl,rfl⟩:=h2
   exact hQ a' w' (iS.canon hm iy)
  | exit az=>
   simp only at h2
   cases hb:Nat.beq az id with
   | true=>
    rw[hb] at h2
    simp only[cond_true,Option.some.injEq,Prod.mk.injEq] at h2
    obtain ⟨rfl,rfl⟩:=h2
    rw[Nat.beq_eq] at hb
    simp only[vl,Exit.inBlock,hb,if_true]
    exact hQ a' w' (iS.canon hm iy)
   | false=>
    rw[hb] at h2
    simp only[cond_false,Option.some.injEq,Prod.mk.injEq] at h2
    obtain ⟨rfl,rfl⟩:=h2
    have bA:az≠id:=fun e=>by rw[e,Nat.beq_refl] at hb;cases hb
    simp only[vl,Exit.inBlock,bA,if_false]
    exact hQ a' w' iS
  | ret=>
   simp only[Option.some.injEq,Prod.mk.injEq] at h2
   obtain ⟨rfl,rfl⟩:=h2
   exact hQ a' w' iS
 | loop c ih=>
  intro st st' out Q a w h hI hQ
  simp only[exec] at h
  split at h
  ·cases h
  ·rename_i S hS
   obtain ⟨ds,h1,h2⟩:=bind_some h
   obtain ⟨e,h3,h4⟩:=bind_some h2
   obtain ⟨k,hk⟩:=uq h3
   refine Yi (J:=fun k a w=> ∃ds,Inv P A.idle A.aA B M w0 μ hp0 n a w (aX S.1 ds)∧dY (fun ds=>jI m S.1 S.2 (exec P A C f n m c (aX S.1 ds))) k ds=some e) (fun a w ⟨s,_,h⟩=>by cases h) (fun k a w ⟨ds,hs,hk⟩=> ?_) ⟨ds,hI.reshape h1 hm,hk⟩
   simp only[dY] at hk
   obtain ⟨y,h5,h6⟩:=bind_some hk
   unfold jI at h5
   obtain ⟨⟨o1,s1⟩,h7,h8⟩:=bind_some h5
   refine ih h7 hs fun a' w' iS=> ?_
   have OA: ∀{e':Nat × List V},ways m 0 S.2 (o1,s1)=some e'→e'=e→Q (vl o1) a' w':=by
    intro e' q1 q2
    subst q2
    obtain ⟨rfl,S',k1,rfl⟩:=HF q1 h4
    exact hQ a' w' (iS.reshape k1 hm)
   cases o1 with
   | norm=>
    obtain ⟨Ym,q1,q2⟩:=bind_some h8
    cases q2
    exact ⟨Ym,iS.reshape q1 hm,h6⟩
   | exit id=>
    obtain ⟨e',q1,q2⟩:=bind_some h8
    cases q2
    cases h6
    exact OA q1 rfl
   | ret=>
    obtain ⟨e',q1,q2⟩:=bind_some h8
    cases q2
    cases h6
    exact OA q1 rfl
 | _=>intro st st' out Q a w h;simp only[exec] at h;cases h
end
section
variable {P:Program} {A:ch} {w w':World} {I I' I2:Nat→Prop} {μ β aj bL:Nat→Option Nat} {hp hp' hp0:Nat→Option ag} {C:ae} {B:Nat} {M:Nat→Prop} {w0:Start}
theorem CZ (S:aC P w I β hp B M w0) {a:Act} {st:St} (hs:jJ P w I β hp a st.sl): ∀{l:List ResultVar} {xs:List V} {rd:List Nat},(rZ P st l).run C hp=some (xs,rd)→
  ∃vs:List Value,(l.mapM fun| .tmp t=>Pure.pure (a.tmps.getD t undef)| .cell x t=>do loadVar t (←asAddr (a.tmps.getD x undef)):Sem (List Value)).run P w= .ok vs w∧vs.length=xs.length∧l.length=xs.length∧
   ∀(j:Nat) v x,vs[j]? =some v→xs[j]? =some x→ah P w I β hp v x
 | [],xs,rd,h=>by
  cases h
  exact ⟨[],by simp,rfl,rfl,by simp⟩
 | .tmp t::l,xs,rd,h=>by
  simp only[rZ] at h
  obtain ⟨ys,l1,l2,h1,h2⟩:=jK h
  have h3:=Gk h2
  subst h3
  obtain ⟨vs,a1,a2,a3,a4⟩:=CZ S hs h1
  refine ⟨a.tmps.getD t undef::vs,by simp only[List.mapM_cons,Sem.run_bind,Sem.run_pure,Result.andThen_ok,a1],by simp[a2],by simp[a3],fun j v x hj hx=> ?_⟩
  cases j with
  | zero=>simp at hj hx;subst hj;subst hx;have:=hs t;simpa using this
  | succ j=>exact a4 j v x (by simpa using hj) (by simpa using hx)
 | .cell y t::l,xs,rd,h=>by
  simp only[rZ] at h
  obtain ⟨r,l1,l2,h1,h2⟩:=jK h
  obtain ⟨ys,l3,l4,h3,h4⟩:=jK h2
  have h5:=Gk h4
  subst h5
  obtain ⟨v0,b1,b2,b3,ad,b4⟩:=L4 S (hs y) h1
  obtain ⟨vs,a1,a2,a3,a4⟩:=CZ S hs h3
  refine ⟨v0::vs,?_,by simp[a2],by simp[a3],fun j v x hj hx=> ?_⟩
  ·have e1:(do loadVar t (←asAddr (a.tmps.getD y undef)):Sem Value).run P w= .ok v0 w:=by
    rw[b4] at b1⊢
    simpa[Instr.loadAt,Instr.sureAddr,asAddr] using b1
   simp only[List.mapM_cons,Sem.run_bind,e1,Result.andThen_ok,a1,Sem.run_pure]
  cases j with
  | zero=>simp at hj hx;subst hj;subst hx;exact b2
  | succ j=>exact a4 j v x (by simpa using hj) (by simpa using hx)
def s7:List Value→Value
 | [v]=>v
 | l=> .tuple l.toArray
theorem Yn {vs:List Value} (h:vs.length≠1):s7 vs= .tuple vs.toArray:=by
 match vs,h with
 | [],_=>rfl
 | [v],h=>simp at h
 | v::v2::l,_=>rfl
theorem Yo {fn:Func} {a:Act} {st:St} (S:aC P w I β st.hp B M w0) (hs:jJ P w I β st.hp a st.sl) {xs:List V} {rd:List Nat} (h:(rZ P st fn.results.toList).run C st.hp=some (xs,rd)):
  ∃vs:List Value,(results fn a.tmps).run P w= .ok (s7 vs) w∧vs.length=xs.length∧
   ∀(j:Nat) v x,vs[j]? =some v→xs[j]? =some x→ah P w I β st.hp v x:=by
 obtain ⟨vs,a1,a2,_,a4⟩:=CZ S hs h
 refine ⟨vs,?_,a2,a4⟩
 unfold results
 rw[Array.mapM_eq_mapM_toList]
 simp only[map_eq_pure_bind,bind_assoc,pure_bind,Sem.run_bind]
 refine (congrArg (fun r:Result (List Value)=>r.andThen _) a1).trans ?_
 simp only[Result.andThen_ok,Sem.run_pure]
 match vs with
 | []=>simp[s7]
 | [v]=>simp[s7]
 | v::v2::l=>simp[s7]
theorem OB: ∀{args:List V} {i k:Nat},dd (lQ i args) k=if i≤k then args[k-i]? else none
 | [],i,k=>by simp[lQ,dd]
 | v::vs,i,k=>by
  simp only[lQ,dd]
  cases hb:Nat.beq k i with
  | true=>
   rw[Nat.beq_eq] at hb
   subst hb
   simp
  | false=>
   have bA:k≠i:=fun e=>by rw[e,Nat.beq_refl] at hb;cases hb
   simp only[cond_false,OB]
   by_cases h:i≤k
   ·rw[if_pos (by omega),if_pos h]
    obtain ⟨d,rfl⟩: ∃d,k=i+1+d:=⟨k-(i+1),by omega⟩
    rw[show i+1+d-(i+1)=d by omega,show i+1+d-i=d+1 by omega]
    rfl
   ·rw[if_neg (by omega),if_neg h]
theorem HG: ∀{l:List (Nat × VS)} {ds:List V} {i k:Nat},gv i l=true→dd (eK l ds) k=if i≤k then (eY (l.map (·.2)) ds)[k-i]? else none
 | [],ds,i,k,_=>by simp[eK,eY,dd]
 | (q,s)::l,ds,i,k,h=>by
  simp only[gv,Bool.and_eq_true,Nat.beq_eq] at h
  obtain ⟨rfl,h⟩:=h
  simp only[eK,dd,List.map_cons,eY]
  cases hb:Nat.beq k q with
  | true=>
   rw[Nat.beq_eq] at hb
   subst hb
   simp
  | false=>
   have bA:k≠q:=fun e=>by rw[e,Nat.beq_refl] at hb;cases hb
   simp only[cond_false]
   rw[HG h]
   by_cases h:q≤k
   ·rw[if_pos (by omega),if_pos h]
    obtain ⟨d,rfl⟩: ∃d,k=q+1+d:=⟨k-(q+1),by omega⟩
    rw[show q+1+d-(q+1)=d by omega,show q+1+d-q=d+1 by omega]
    rfl
   ·rw[if_neg (by omega),if_neg h]
theorem OC: ∀{l:List (Nat × VS)} {ds:List V},(eK l ds).map (·.2)=eY (l.map (·.2)) ds
 | [],_=>rfl
 | (q,s)::l,ds=>by simp only[eK,List.map_cons,eY,OC]
theorem HH: ∀{l:List VS} {ds:List V},(eY l ds).length=l.length
 | [],_=>rfl
 | s::l,ds=>by simp only[eY,List.length_cons,HH]
theorem OD: ∀{l:List (Nat × VS)} {ds:List V},(eK l ds).length=l.length
 | [],_=>rfl
 | (q,s)::l,ds=>by simp only[eK,List.length_cons,OD]
theorem Yp {vals:List Value} {l:List (Nat × V)} (hl:vals.length=l.length) (h: ∀(j:Nat) v y,vals[j]? =some v→(l.map (·.2))[j]? =some y→ah P w I β hp v y):ah P w I β hp (s7 vals) (nO l):=by
 match l,hl,h with
 | [],hl,h=>
  obtain rfl:vals=[]:=List.eq_nil_of_length_eq_zero hl
  exact .aQ rfl fun j v x _ hx=>by simp at hx
 | [(k,y)],hl,h=>
  match vals,hl,h with
  | [v],_,h=>exact h 0 v y rfl rfl
 | a::b::l,hl,h=>
  have bA:vals.length≠1:=by rw[hl];simp
  rw[Yn bA]
  simp only[nO]
  exact .aQ (by simp[hl]) fun j v y hj hy=>h j v y (by simpa using hj) hy
theorem Yq {l:List BS} {ds:List V} {j:Nat} {e:TypeId} {es:List V} {ai:List Nat} (h:(eb l ds)[j]? =some (.nest e es ai)) (k:Nat):bq ai k=0:=by
 obtain ⟨b,eN,_,h2⟩:=Ho h
 cases b<;>simp only[fh] at h2<;>cases h2
 match k with
 | 0=>rfl
 | 1=>rfl
 | 2=>rfl
 | _+3=>rfl
theorem Yr {f n m:Nat} {fn:Func} {a:Act} {st:St} {es:List V} {rd:List Nat} (hm: ∀id blk,hp0 id=some blk→id<m) (iy: ∀id e es ai,hp0 id=some (.nest e es ai)→∀k,bq ai k=0)
  (hI:Inv P A.idle A.aA B M w0 μ hp0 n a w st) (ng:gv 0 (A.eW f).bu=true) (aO:(A.eW f).bu.length=fn.results.size) (h:(sa P A f fn m st).run C st.hp=some (es,rd)):
  ∃v I2 bL,(results fn a.tmps).run P w= .ok v w∧aC P w I2 bL (aX (A.so f es) (A.lv f es)).hp B M w0∧jO w0.w w0.I μ hp0 w I2 bL (aX (A.so f es) (A.lv f es)).hp∧ah P w I2 bL (aX (A.so f es) (A.lv f es)).hp v (nO (eK (A.so f es).bu (A.lv f es))):=by
 unfold sa at h
 obtain ⟨xs,l1,l2,h1,h2⟩:=jK h
 obtain ⟨I,β,S,hA,hE⟩:=hI
 obtain ⟨vals,e1,e2,e3⟩:=Yo S hA.sl h1
 have e4:fn.results.size=xs.length:=by
  obtain ⟨_,_,_,q,_⟩:=CZ S hA.sl h1
  simpa using q
 have fin: ∀(Sx:Shape) (es:List V),gv 0 Sx.bu=true→Sx.bu.length=fn.results.size→gP m Sx (canon m (List.range xs.length) (freeze m (A.rR f) ⟨ik (lQ 0 xs),st.hp,st.nb⟩))=some es→
   ∃v I2 bL,(results fn a.tmps).run P w= .ok v w∧aC P w I2 bL (aX Sx es).hp B M w0∧jO w0.w w0.I μ hp0 w I2 bL (aX Sx es).hp∧ah P w I2 bL (aX Sx es).hp v (nO (eK Sx.bu es)):=by
  intro Sx es ng aO s8
  have Ys:gY P A.idle A.aA w I β vals.length ⟨vals.toArray,[]⟩ ⟨ik (lQ 0 xs),st.hp,st.nb⟩:=by
   refine ⟨fun k=> ?_,by simp,by simp,hA.aA⟩
   change ah P w I β st.hp _ (ik (lQ 0 xs) k)
   unfold ik
   rw[OB]
   simp only[Nat.zero_le,if_true,Nat.sub_zero]
   cases hk:xs[k]? with
   | none=>exact .undef
   | some x=>
    have ki:k<vals.length:=by rw[e2];exact (List.getElem?_eq_some_iff.1 hk).1
    have:=e3 k vals[k] x (List.getElem?_eq_getElem ki) hk
    have e5:(vals.toArray).getD k undef=vals[k]:=by simp[ki]
    rw[Option.getD_some]
    exact e5▸this
  obtain ⟨I2,k1,k2,k3⟩:=Og (st:=⟨ik (lQ 0 xs),st.hp,st.nb⟩) (m:=m) (pur:=A.rR f) S Ys
  have Yt:Inv P A.idle A.aA B M w0 μ hp0 vals.length ⟨vals.toArray,[]⟩ w (freeze m (A.rR f) ⟨ik (lQ 0 xs),st.hp,st.nb⟩):=⟨I2,β,k2,k3,hE.trans k1.CE⟩
  obtain ⟨I3,OE,q1,q2,q3⟩:=(Yt.canon (live:=List.range xs.length) hm iy).reshape s8 hm
  refine ⟨s7 vals,I3,OE,e1,q1,q3,Yp (by rw[OD,aO,e4,e2]) fun j v y hj hy=> ?_⟩
  have hv:=q2.sl j
  have cz:=(List.getElem?_eq_some_iff.1 hj).1
  have e5:(vals.toArray).getD j undef=v:=by
   have:=(List.getElem?_eq_some_iff.1 hj).2
   simp[cz,this]
  change ah P w I3 OE _ ((vals.toArray).getD j undef) (ik (eK Sx.bu _) j) at hv
  rw[e5] at hv
  unfold ik at hv
  rw[HG ng] at hv
  simp only[Nat.zero_le,if_true,Nat.sub_zero] at hv
  rw[OC] at hy
  rw[hy] at hv
  exact hv
 unfold ch.so ch.lv
 cases bU:A.alt f with
 | none=>
  rw[bU] at h2
  simp only at h2⊢
  split at h2
  ·rename_i eN s8
   have:=aH h2
   subst this
   exact fin _ _ ng aO s8
  ·cases h2
 | some S2=>
  rw[bU] at h2
  simp only at h2⊢
  split at h2
  ·rename_i eN s8
   have:=aH h2
   subst this
   exact fin _ _ ng aO s8
  ·split at h2
   ·rename_i eN s8
    obtain ⟨hc,h3⟩:=aD h2
    simp only[Bool.and_eq_true,Nat.beq_eq] at hc
    have:=aH h3
    subst this
    exact fin _ _ hc.1 hc.2 s8
   ·cases h2
theorem Yu (hC:jP P A C) (hP:iw P A) (og:P.follows .mixedOrders=true):jP P A (mT P A C):=by
 intro f ds es h
 unfold mT at h
 cases hf:P.funcs[A.aR f]? with
 | none=>rw[hf] at h;cases h
 | some fn=>
  rw[hf] at h
  simp only at h
  cases hb:fn.body with
  | none=>rw[hb] at h;cases h
  | some c=>
   rw[hb] at h
   simp only at h
   cases hc:(gv 0 (A.sin f).bu&&(Nat.ble (A.sin f).bu.length fn.ntmps&&((A.sin f).ok&&(gv 0 (A.eW f).bu&&(Nat.beq (A.eW f).bu.length fn.results.size&&mQ (kR (A.sin f).aP.length (A.mv f))))))) with
   | false=>rw[hc] at h;cases h
   | true=>
    rw[hc] at h
    simp only[cond_true] at h
    simp only[Bool.and_eq_true,Nat.beq_eq,Nat.ble_eq] at hc
    obtain ⟨jv,hnt,_,vi,aO,jx⟩:=hc
    obtain ⟨⟨out,st'⟩,h1,h2⟩:=bind_some h
    refine ⟨fn,c,rfl,hb,fun w I μ vals hH Yv hl hv=> ?_⟩
    have Yw:(∀id,out≠ .exit id)∧∃rd,(sa P A f fn (A.sin f).aP.length st').run C st'.hp=some (es,rd):=by
     cases out with
     | exit id=>cases h2
     | norm=>
      refine ⟨by simp,?_⟩
      simp only[Option.map_eq_some_iff] at h2
      obtain ⟨⟨x,rd⟩,e1,e2⟩:=h2
      simp only at e2
      subst e2
      exact ⟨rd,e1⟩
     | ret=>
      refine ⟨by simp,?_⟩
      simp only[Option.map_eq_some_iff] at h2
      obtain ⟨⟨x,rd⟩,e1,e2⟩:=h2
      simp only at e2
      subst e2
      exact ⟨rd,e1⟩
    obtain ⟨bA,rd,Hf⟩:=Yw
    refine calls_of_wp_defers hf hb ?_
    have hm: ∀id blk,(aX (A.sin f) ds).hp id=some blk→id<(A.sin f).aP.length:=by
     intro id blk aa
     simp only[aX,mk,gi] at aa
     have:=(List.getElem?_eq_some_iff.1 aa).1
     rwa [CY] at this
    have iy: ∀id e es ai,(aX (A.sin f) ds).hp id=some (.nest e es ai)→∀k,bq ai k=0:=by
     intro id e es ai aa k
     simp only[aX,mk,gi] at aa
     exact Yq aa k
    refine Yk (w0:=⟨w,I⟩) (μ:=μ) (hp0:=(aX (A.sin f) ds).hp) (B:=w.heap.size) (M:=nd P w μ (aX (A.sin f) ds).hp) hC hP og hm iy c h1 ?_ ?_
    ·refine Inv.enter jx ?_ hm iy fun p hp=>by
      simp only[aX,mk,gi]
      rw[List.getElem?_eq_none_iff,CY]
      exact hp
     refine ⟨I,μ,⟨hH,fun _ _ _=>rfl,Nat.le_refl _,fun b h=> .inl h,⟨rfl,rfl⟩⟩,⟨fun k=> ?_,?_,by simp,Yv⟩,(Le.refl (P:=P) w I μ _).CE⟩
     ·change ah P w I μ _ _ (ik (eK (A.sin f).bu ds) k)
      unfold ik
      rw[HG jv]
      simp only[Nat.zero_le,if_true,Nat.sub_zero]
      cases hk:(eY ((A.sin f).bu.map (·.2)) ds)[k]? with
      | none=>exact .undef
      | some x=>
       have ki:k<vals.length:=by
        have:=(List.getElem?_eq_some_iff.1 hk).1
        rw[HH,List.length_map] at this
        rw[hl];exact this
       have:=hv k vals[k] x (List.getElem?_eq_getElem ki) hk
       have e1:(vals.toArray++Array.replicate (fn.ntmps-vals.toArray.size) undef).getD k undef=vals[k]:=by
        simp[Array.getElem?_append,ki]
       rw[Option.getD_some]
       exact e1▸this
     ·simp
      omega
    ·intro a' w' hI
     obtain ⟨v,I2,bL,q1,q2,q3,q4⟩:=Yr hm iy hI vi aO Hf
     obtain ⟨_,_,_,hA,_⟩:=hI
     cases out with
     | exit id=>exact absurd rfl (bA id)
     | norm=>exact Hu hP q1 ⟨v,I2,bL,rfl,q2,q3,q4⟩ _ hA.defers
     | ret=>exact Hu hP q1 ⟨v,I2,bL,rfl,q2,q3,q4⟩ _ hA.defers
theorem OF (hP:iw P A) (og:P.follows .mixedOrders=true): ∀n,jP P A (jo P A n)
 | 0=>fun _ _ _ h=>by cases h
 | n+1=>Yu (OF hP og n) hP og
theorem Yx (hP:iw P A) (og:P.follows .mixedOrders=true):jP P A (Call P A):=by
 intro f ds es h
 have hn: ∃n,jo P A n f ds=some es:=by
  unfold Call at h
  split at h
  ·rename_i hex
   have:=hex.choose_spec.choose_spec
   rw[Option.some.inj h] at this
   exact ⟨_,this⟩
  ·cases h
 obtain ⟨n,hn⟩:=hn
 exact OF hP og n f ds es hn
end
section
variable {P:Program} {A:ch} {C:ae} {D:Nat→ae}
def yr (C:ae) (D:Nat→ae):Prop:= ∀f a r,C f a=some r→∃n,∀k,n≤k→D k f a=some r
theorem pB {α:Type} (h:yr C D) {hp:Nat→Option ag}: ∀{p:Rd α} {r:α × List Nat},p.run C hp=some r→∃n,∀k,n≤k→p.run (D k) hp=some r
 | .ret a,r,e=>⟨0,fun _ _=>e⟩
 | .fail,r,e=>by cases e
 | .get id q,r,e=>by
  obtain ⟨x,h1,h2⟩:=bind_some e
  obtain ⟨n,hn⟩:=pB h h1
  exact ⟨n,fun k hk=>by simp only[Rd.run,hn k hk,Option.bind_some];exact h2⟩
 | .opt o q,r,e=>by
  obtain ⟨x,h1,h2⟩:=bind_some e
  obtain ⟨n,hn⟩:=pB h h2
  exact ⟨n,fun k hk=>by simp only[Rd.run,h1,Option.bind_some];exact hn k hk⟩
 | .ay b q,r,e=>by
  obtain ⟨h1,h2⟩:=aD e
  obtain ⟨n,hn⟩:=pB h h2
  exact ⟨n,fun k hk=>by simp only[Rd.run,h1,cond_true];exact hn k hk⟩
 | .call f a q,r,e=>by
  obtain ⟨x,h1,h2⟩:=bind_some e
  obtain ⟨n1,jv⟩:=h f a x h1
  obtain ⟨n2,vi⟩:=pB h h2
  exact ⟨max n1 n2,fun k hk=>by simp only[Rd.run,jv k (by omega),Option.bind_some];exact vi k (by omega)⟩
 | .alt true x y,r,e=>pB (p:=x) h e
 | .alt false x y,r,e=>pB (p:=y) h e
theorem Yy (h:yr C D) {n i nb:Nat} {ops:Array Oper} {o:Oper} {st:St} {r:St × List Nat × List Nat} (e:fZ P A C n ops i o nb st=some r): ∃N,∀k,N≤k→fZ P A (D k) n ops i o nb st=some r:=by
 unfold fZ at e
 have go:(((eZ P A st.sl i (nb+64*i) o).run C st.hp).bind fun r=>some ((⟨gq st.sl o.dst r.1.v,bz st.hp r.1.upd,st.nb⟩:St),r.2,r.1.upd.map (·.1)))=some r→
   ∃N,∀k,N≤k→(((eZ P A st.sl i (nb+64*i) o).run (D k) st.hp).bind fun r=>some ((⟨gq st.sl o.dst r.1.v,bz st.hp r.1.upd,st.nb⟩:St),r.2,r.1.upd.map (·.1)))=some r:=by
  intro e
  obtain ⟨x,h1,h2⟩:=bind_some e
  obtain ⟨N,hN⟩:=pB h h1
  exact ⟨N,fun k hk=>by rw[hN k hk];exact h2⟩
 unfold fZ
 cases hd:qK o n with
 | false=>rw[hd] at e;cases e
 | true=>
  rw[hd] at e
  simp only[cond_true] at e⊢
  cases hg:o.guard with
  | none=>rw[hg] at e;exact go e
  | some gw=>
   obtain ⟨g,want⟩:=gw
   rw[hg] at e
   simp only at e⊢
   cases kp:(ops[g]?).bind (·.dst) with
   | none=>rw[kp] at e;cases e
   | some d=>
    rw[kp] at e
    simp only at e⊢
    cases lk:j6 (st.sl d) with
    | none=>rw[lk] at e;cases e
    | some ob=>
    rw[lk] at e
    cases ob with
    | none=>exact ⟨0,fun _ _=>e⟩
    | some b=>
    simp only at e⊢
    cases hb:b==want with
    | true=>rw[hb] at e;exact go e
    | false=>rw[hb] at e;exact ⟨0,fun _ _=>e⟩
theorem OG (h:yr C D) {n nb:Nat} {ops:Array Oper}: ∀{l:List (Nat × Oper)} {st:St} {log:Log} {r:St × Log},nP P A C n ops nb l st log=some r→∃N,∀k,N≤k→nP P A (D k) n ops nb l st log=some r
 | [],st,log,r,e=>⟨0,fun _ _=>e⟩
 | (i,o)::l,st,log,r,e=>by
  obtain ⟨x,h1,h2⟩:=bind_some e
  obtain ⟨N1,nh⟩:=Yy h h1
  obtain ⟨N2,pC⟩:=OG h h2
  exact ⟨max N1 N2,fun k hk=>by simp only[nP,nh k (by omega),Option.bind_some];exact pC k (by omega)⟩
theorem OH {X R:Type} {step:X→Option (X ⊕ R)} {stepD:Nat→X→Option (X ⊕ R)} (hs: ∀x y,step x=some y→∃N,∀k,N≤k→stepD k x=some y): ∀(n:Nat) (x:X) (r:R),dY step n x=some r→∃N,∀k,N≤k→dY (stepD k) n x=some r
 | 0,x,r,e=>by cases e
 | n+1,x,r,e=>by
  simp only[dY] at e⊢
  obtain ⟨y,h1,h2⟩:=bind_some e
  obtain ⟨N1,nh⟩:=hs x y h1
  cases y with
  | inl z=>
   obtain ⟨N2,pC⟩:=OH hs n z r h2
   exact ⟨max N1 N2,fun k hk=>by rw[nh k (by omega)];exact pC k (by omega)⟩
  | inr q=>exact ⟨N1,fun k hk=>by rw[nh k hk];exact h2⟩
theorem Yz (h:yr C D) {f n m:Nat}: ∀(c:Code) {st:St} {r:Out × St},exec P A C f n m c st=some r→∃N,∀k,N≤k→exec P A (D k) f n m c st=some r:=by
 intro c
 induction c with
 | skip=>exact fun e=>⟨0,fun _ _=>e⟩
 | exit id=>exact fun e=>⟨0,fun _ _=>e⟩
 | ret=>exact fun e=>⟨0,fun _ _=>e⟩
 | region id ops draw=>
  intro st r e
  simp only[exec] at e⊢
  obtain ⟨x,h1,h2⟩:=bind_some e
  obtain ⟨y,h3,h4⟩:=bind_some h1
  obtain ⟨N,hN⟩:=OG h h3
  refine ⟨N,fun k hk=> ?_⟩
  have:uF P (A.here f id) (D k) n ops draw st=some x:=by
   unfold uF
   rw[hN k hk]
   exact h4
  rw[this]
  exact h2
 | seq x y fi fj=>
  intro st r e
  simp only[exec] at e⊢
  obtain ⟨⟨o,s1⟩,h1,h2⟩:=bind_some e
  obtain ⟨N1,nh⟩:=fi h1
  cases o with
  | norm=>
   obtain ⟨N2,pC⟩:=fj h2
   exact ⟨max N1 N2,fun k hk=>by rw[nh k (by omega)];exact pC k (by omega)⟩
  | exit id=>exact ⟨N1,fun k hk=>by rw[nh k hk];exact h2⟩
  | ret=>exact ⟨N1,fun k hk=>by rw[nh k hk];exact h2⟩
 | cond c x y fi fj=>
  intro st r e
  cases c with
  | tmp t=>
   have go: ∀{st:St} {r:Out × St},(match st.sl t with
     | .bool b=>(bif b then exec P A C f n m x st else exec P A C f n m y st).bind fun r=>
      match r.1 with
      | .norm=>some (.norm,canon m (A.join f t) r.2)
      | _=>some r
     | _=>none)=some r→∃N,∀k,N≤k→(match st.sl t with
     | .bool b=>(bif b then exec P A (D k) f n m x st else exec P A (D k) f n m y st).bind fun r=>
      match r.1 with
      | .norm=>some (.norm,canon m (A.join f t) r.2)
      | _=>some r
     | _=>none)=some r:=by
    intro st r e
    cases hs:st.sl t<;>rw[hs] at e<;>simp only at e⊢ <;>first|(cases e;done)|skip
    rename_i b
    obtain ⟨x1,h1,h2⟩:=bind_some e
    cases b with
    | true=>
     obtain ⟨N,hN⟩:=fi h1
     exact ⟨N,fun k hk=>by simp only[cond_true,hN k hk,Option.bind_some];exact h2⟩
    | false=>
     obtain ⟨N,hN⟩:=fj h1
     exact ⟨N,fun k hk=>by simp only[cond_false,hN k hk,Option.bind_some];exact h2⟩
   simp only[exec] at e⊢
   split at e
   ·rename_i hS
    obtain ⟨N,hN⟩:=go e
    exact ⟨N,fun k hk=>hN k hk⟩
   ·rename_i S hS
    obtain ⟨ds,h1,h2⟩:=bind_some e
    obtain ⟨e',h3,h4⟩:=bind_some h2
    obtain ⟨r1,h5,h6⟩:=bind_some h3
    obtain ⟨N,hN⟩:=go h5
    refine ⟨N,fun k hk=> ?_⟩
    try rw[hS]
    simp only[h1,Option.bind_some]
    exact (congrArg (fun z:Option (Out × St)=>(z.bind fun r=>ways m 0 S.2 r).bind fun e=>jn 0 S.2 e.1 e.2 fun o st=>some (o,st)) (hN k hk)).trans (by simp only[Option.bind_some,h6];exact h4)
  | const v=>
   cases v with
   | bool b=>
    simp only[exec] at e⊢
    cases b with
    | true=>exact fi e
    | false=>exact fj e
   | _=>simp only[exec] at e;cases e
  | _=>simp only[exec] at e;cases e
 | block id c ih=>
  intro st r e
  simp only[exec] at e⊢
  obtain ⟨x1,h1,h2⟩:=bind_some e
  obtain ⟨N,hN⟩:=ih h1
  exact ⟨N,fun k hk=>by rw[hN k hk];exact h2⟩
 | loop c ih=>
  intro st r e
  simp only[exec] at e⊢
  split at e
  ·cases e
  ·rename_i S hS
   obtain ⟨ds,h1,h2⟩:=bind_some e
   obtain ⟨e',h3,h4⟩:=bind_some h2
   obtain ⟨q,hq⟩:=uq h3
   obtain ⟨N,hN⟩:=OH (stepD:=fun k ds=>jI m S.1 S.2 (exec P A (D k) f n m c (aX S.1 ds))) (fun x y yu=>by
    unfold jI at yu⊢
    obtain ⟨z,h5,h6⟩:=bind_some yu
    obtain ⟨N,hN⟩:=ih h5
    exact ⟨N,fun k hk=>by rw[hN k hk];exact h6⟩) q ds e' hq
   refine ⟨N,fun k hk=> ?_⟩
   try rw[hS]
   simp only[h1,Option.bind_some]
   rw[uo (hN k hk)]
   exact h4
 | _=>intro st r e;simp only[exec] at e;cases e
theorem C2 (h:yr C D) {f:Nat} {ds es:List V} (e:mT P A C f ds=some es): ∃N,∀k,N≤k→mT P A (D k) f ds=some es:=by
 unfold mT at e⊢
 cases hf:P.funcs[A.aR f]? with
 | none=>rw[hf] at e;cases e
 | some fn=>
  rw[hf] at e
  simp only at e⊢
  cases hb:fn.body with
  | none=>rw[hb] at e;cases e
  | some c=>
   rw[hb] at e
   simp only at e⊢
   cases hc:(gv 0 (A.sin f).bu&&(Nat.ble (A.sin f).bu.length fn.ntmps&&((A.sin f).ok&&(gv 0 (A.eW f).bu&&(Nat.beq (A.eW f).bu.length fn.results.size&&mQ (kR (A.sin f).aP.length (A.mv f))))))) with
   | false=>rw[hc] at e;cases e
   | true=>
    rw[hc] at e
    simp only[cond_true] at e⊢
    obtain ⟨⟨o,s1⟩,h1,h2⟩:=bind_some e
    obtain ⟨N1,nh⟩:=Yz h c h1
    cases o with
    | exit id=>cases h2
    | norm=>
     simp only[Option.map_eq_some_iff] at h2
     obtain ⟨x,e1,e2⟩:=h2
     obtain ⟨N2,pC⟩:=pB h e1
     exact ⟨max N1 N2,fun k hk=>by rw[nh k (by omega)];simp only[Option.bind_some,pC k (by omega),Option.map_some,e2]⟩
    | ret=>
     simp only[Option.map_eq_some_iff] at h2
     obtain ⟨x,e1,e2⟩:=h2
     obtain ⟨N2,pC⟩:=pB h e1
     exact ⟨max N1 N2,fun k hk=>by rw[nh k (by omega)];simp only[Option.bind_some,pC k (by omega),Option.map_some,e2]⟩
theorem OI: ∀n f a r,jo P A n f a=some r→jo P A (n+1) f a=some r
 | 0,f,a,r,h=>by cases h
 | n+1,f,a,r,h=>by
  obtain ⟨N,hN⟩:=C2 (C:=jo P A n) (D:=fun _=>jo P A (n+1)) (fun f a r h=>⟨0,fun _ _=>OI n f a r h⟩) h
  exact hN N (Nat.le_refl _)
theorem HI {n k:Nat} (hk:n≤k) {f:Nat} {a r:List V} (h:jo P A n f a=some r):jo P A k f a=some r:=by
 induction hk with
 | refl=>exact h
 | step _ ih=>exact OI _ _ _ _ ih
theorem yv {f:Nat} {a r:List V}:Call P A f a=some r↔∃n,jo P A n f a=some r:=by
 constructor
 ·intro h
  unfold Call at h
  split at h
  ·rename_i hex
   have:=hex.choose_spec.choose_spec
   rw[Option.some.inj h] at this
   exact ⟨_,this⟩
  ·cases h
 ·rintro ⟨n,hn⟩
  have hex: ∃n r,jo P A n f a=some r:=⟨n,r,hn⟩
  unfold Call
  rw[dif_pos hex]
  have h2:=hex.choose_spec.choose_spec
  have h3:=HI (Nat.le_max_left n hex.choose) hn
  have h4:=HI (Nat.le_max_right n hex.choose) h2
  rw[h3] at h4
  exact h4.symm
theorem YA (f:Nat) (a:List V):Call P A f a=mT P A (Call P A) f a:=by
 apply Option.ext
 intro r
 constructor
 ·intro h
  obtain ⟨n,hn⟩:=yv.1 h
  cases n with
  | zero=>cases hn
  | succ n=>
   obtain ⟨N,hN⟩:=C2 (C:=jo P A n) (D:=fun _=>Call P A) (fun f a r h=>⟨0,fun _ _=>yv.2 ⟨n,h⟩⟩) hn
   exact hN N (Nat.le_refl _)
 ·intro h
  obtain ⟨N,hN⟩:=C2 (C:=Call P A) (D:=jo P A) (fun f a r h=>by
   obtain ⟨n,hn⟩:=yv.1 h
   exact ⟨n,fun k hk=>HI hk hn⟩) h
  exact yv.2 ⟨N+1,hN N (Nat.le_refl _)⟩
end
end Go.AM
namespace Go.AM
open Go.ChangeShapes Go.WideShapes Go.RowKit
section
variable (P:Program)
inductive WT:TypeId→V→Prop
 | int {t:TypeId} {k:IntKind} {n:Int}:P.underlying t=some (.int k)→(Lit.int k n).wf=true→WT t (.int k n)
 | bool {t:TypeId} {b:Bool}:P.underlying t=some .bool→WT t (.bool b)
 | str {t:TypeId} {l:List UInt8}:P.underlying t=some .string→l.length≤maxLen→WT t (.str l)
 | list {t e:TypeId} {es:List V}:P.underlying t=some (.slice e)→es.length≤maxLen→
   (∀(i:Nat) x,es[i]? =some x→bt P e=true→∃xs,x= .agg xs∧xs.length=(aM P e).length)→
   (∀(i j:Nat) x t',es[i]? =some x→(aM P e)[j]? =some t'→WT t' (bx P e x j))→WT t (.list e es)
def gD (t:TypeId) (x:V):Prop:=
 (bt P t=true→∃xs,x= .agg xs∧xs.length=(aM P t).length)∧∀(j:Nat) t',(aM P t)[j]? =some t'→WT P t' (bx P t x j)
def rP:List TypeId→List V→Prop
 | [],[]=>True
 | t::ts,x::xs=>gD P t x∧rP ts xs
 | _,_=>False
def hasB (L:List TypeId) (t:TypeId):Bool:=L.any fun u=>Nat.beq u t
def C3 (L:List TypeId):Nat→List Field→Bool
 | _,[]=>true
 | n,f::fs=>hasB L f.type&&(Nat.beq f.offset n&&(Nat.beq (P.cellsOf f.type) (aM P f.type).length&&C3 L (n+P.cellsOf f.type) fs))
def yw:List Nat→List Nat→Bool
 | [],[]=>true
 | a::l,b::m=>Nat.beq a b&&yw l m
 | _,_=>false
def HJ (L:List TypeId) (t:TypeId):Bool:=
 Nat.beq (P.cellsOf t) (aM P t).length&&
 match P.underlying t with
 | some (.int _)=>true
 | some .bool=>true
 | some .string=>true
 | some (.slice e)=>hasB L e&&cw P e
 | some (.struct fs)=>C3 P L 0 fs.toList&&yw (flat P t) (fs.toList.flatMap fun f=>aM P f.type)
 | some (.array n e)=>hasB L e&&(Nat.beq (P.cellsOf e) (aM P e).length&&yw (flat P t) (List.replicate n (aM P e)).flatten)
 | _=>false
def C4 (L:List TypeId):Bool:=L.all fun t=>HJ P L t
end
theorem C6 {L:List TypeId} {t:TypeId} (h:hasB L t=true):t∈L:=by
 obtain ⟨u,hu,h2⟩:=List.any_eq_true.1 h
 rw[Nat.beq_eq] at h2
 exact h2▸hu
theorem HK: ∀{l m:List Nat},yw l m=true→l=m
 | [],[],_=>rfl
 | a::l,b::m,h=>by
  simp only[yw,Bool.and_eq_true,Nat.beq_eq] at h
  rw[h.1,HK h.2]
 | [],_::_,h=>by cases h
 | _::_,[],h=>by cases h
section
variable {P:Program} {H:Type} {enc:TypeId × Value→H} {w:World} {base:Nat} {spare:Nat→Bool} {held:Bool} {L:List TypeId}
def mf (w:World):Nat→Prop:=fun b=>b<w.heap.size
def mg (P:Program) (w:World) (ts:List TypeId) (cs:List Value) (xs:List V):Prop:=
 cs.length=ts.length∧xs.length=ts.length∧∀(j:Nat) t',ts[j]? =some t'→∃v y,cs[j]? =some v∧xs[j]? =some y∧Pure P w (mf w) t' v y∧WT P t' y
theorem mg.app {ts uB:List TypeId} {cs gB:List Value} {xs OJ:List V} (h:mg P w ts cs xs) (h':mg P w uB gB OJ):mg P w (ts++uB) (cs++gB) (xs++OJ):=by
 obtain ⟨a,b,c⟩:=h
 obtain ⟨a',b',c'⟩:=h'
 refine ⟨by simp[a,a'],by simp[b,b'],fun j t' hj=> ?_⟩
 by_cases aK:j<ts.length
 ·rw[List.getElem?_append_left aK] at hj
  obtain ⟨v,y,e1,e2,e3⟩:=c j t' hj
  exact ⟨v,y,by rw[List.getElem?_append_left (by omega)];exact e1,by rw[List.getElem?_append_left (by omega)];exact e2,e3⟩
 ·rw[List.getElem?_append_right (by omega)] at hj
  obtain ⟨v,y,e1,e2,e3⟩:=c' _ t' hj
  exact ⟨v,y,by rw[List.getElem?_append_right (by omega),a];exact e1,by rw[List.getElem?_append_right (by omega),b];exact e2,e3⟩
theorem YB {w:World} {a:Addr} {v:Value} (h:w.cell? a=some v):a.spot=none∧a.block<w.heap.size:=by
 unfold World.cell? at h
 split at h
 ·rename_i hh
  split at h
  ·cases h
  ·rename_i hs
   exact ⟨by simpa using hs,(Array.getElem?_eq_some_iff.1 hh).1⟩
 all_goals (first|cases h|skip)
theorem OK {rd:TypeId→List Value→Option (DataW H × List MemPlace)} (cs:List Value)
  (ih: ∀t cs x,t∈L→rd t cs=some x→∃xs,mg P w (aM P t) cs xs): ∀(fs:List Field) (n:Nat),C3 P L n fs=true→
  (∀f∈fs,∃x,rd f.type ((cs.drop f.offset).take (P.cellsOf f.type))=some x)→∃m xs,n≤m∧mg P w (fs.flatMap fun f=>aM P f.type) ((cs.drop n).take (m-n)) xs∧m-n=(fs.flatMap fun f=>aM P f.type).length
 | [],n,_,_=>⟨n,[],Nat.le_refl _,⟨by simp,rfl,by simp⟩,by simp⟩
 | f::fs,n,h,hx=>by
  simp only[C3,Bool.and_eq_true,Nat.beq_eq] at h
  obtain ⟨h1,h2,h3,h4⟩:=h
  obtain ⟨x,YC⟩:=hx f (by simp)
  obtain ⟨xs,fQ⟩:=ih _ _ _ (C6 h1) YC
  obtain ⟨m,ys,hm,pD,CN⟩:=OK cs ih fs (n+P.cellsOf f.type) h4 fun g hg=>hx g (by simp[hg])
  refine ⟨m,xs++ys,by omega,?_,by simp only[List.flatMap_cons,List.length_append];omega⟩
  have:=fQ.app pD
  rw[List.flatMap_cons]
  rw[h2] at this
  have e:(cs.drop n).take (m-n)=(cs.drop n).take (P.cellsOf f.type)++(cs.drop (n+P.cellsOf f.type)).take (m-(n+P.cellsOf f.type)):=by
   rw[show m-n=P.cellsOf f.type+(m-(n+P.cellsOf f.type)) by omega,List.take_add,List.drop_drop]
  rw[e]
  exact this
theorem OL {rd:List Value→Option (DataW H × List MemPlace)} (cs:List Value) {e:TypeId} (hs:P.cellsOf e=(aM P e).length)
  (ih: ∀cs x,rd cs=some x→∃xs,mg P w (aM P e) cs xs): ∀(n:Nat),
  (∀i,i<n→∃x,rd ((cs.drop (i*P.cellsOf e)).take (P.cellsOf e))=some x)→∃xs,mg P w (List.replicate n (aM P e)).flatten (cs.take (n*P.cellsOf e)) xs
 | 0,_=>⟨[],by simp,rfl,by simp⟩
 | n+1,hx=>by
  obtain ⟨xs,fQ⟩:=OL cs hs ih n fun i hi=>hx i (by omega)
  obtain ⟨x,ym⟩:=hx n (by omega)
  obtain ⟨ys,pD⟩:=ih _ _ ym
  refine ⟨xs++ys,?_⟩
  rw[List.replicate_succ',List.flatten_append]
  have:=fQ.app pD
  rw[Nat.add_mul,Nat.one_mul,List.take_add]
  simpa using this
theorem C7 (hL:C4 P L=true): ∀(fuel:Nat) (t:TypeId) (cs:List Value) (x:DataW H × List MemPlace),t∈L→DataW.trod enc P w base spare held fuel t cs=some x→
  ∃xs,mg P w (aM P t) cs xs
 | 0,_,_,_,_,h=>by cases h
 | fuel+1,t,cs,x,ht,h=>by
  have hg:=List.all_eq_true.1 hL t ht
  unfold HJ at hg
  rw[Bool.and_eq_true,Nat.beq_eq] at hg
  obtain ⟨hc,hg⟩:=hg
  have one:bt P t=false→aM P t=[t]:=fun h=>by simp[aM,h]
  cases hu:P.underlying t with
  | none=>rw[hu] at hg;cases hg
  | some d=>
   rw[hu] at hg
   cases d with
   | int k=>
    obtain ⟨n,rfl,rfl,YD⟩:=DataW.trod_int hu h
    rw[one (by simp[bt,hu])]
    exact ⟨[.int k n],rfl,rfl,fun j t' hj=>by
     cases j with
     | zero=>cases hj;exact ⟨_,_,rfl,rfl,.int hu,.int hu YD⟩
     | succ j=>simp at hj⟩
   | bool=>
    obtain ⟨b,rfl,rfl⟩:=DataW.trod_bool hu h
    rw[one (by simp[bt,hu])]
    exact ⟨[.bool b],rfl,rfl,fun j t' hj=>by
     cases j with
     | zero=>cases hj;exact ⟨_,_,rfl,rfl,.bool hu,.bool hu⟩
     | succ j=>simp at hj⟩
   | string=>
    obtain ⟨s,rfl,rfl,hl⟩:=DataW.trod_string hu h
    rw[one (by simp[bt,hu])]
    exact ⟨[.str s.data.toList],rfl,rfl,fun j t' hj=>by
     cases j with
     | zero=>cases hj;exact ⟨_,_,rfl,rfl,.str hu rfl,.str hu (by simpa using hl)⟩
     | succ j=>simp at hj⟩
   | slice e=>
    simp only[Bool.and_eq_true] at hg
    obtain ⟨he,aq⟩:=hg
    rw[one (by simp[bt,hu])]
    have single: ∀v y,cs=[v]→Pure P w (mf w) t v y→WT P t y→∃xs,mg P w [t] cs xs:=by
     rintro v y rfl a b
     exact ⟨[y],rfl,rfl,fun j t' hj=>by
      cases j with
      | zero=>cases hj;exact ⟨_,_,rfl,rfl,a,b⟩
      | succ j=>simp at hj⟩
    rcases DataW.trod_slice hu h with ⟨rfl,rfl⟩|⟨a,len,cap,elems,rest,n,hn,rfl,rfl,hb,hl,hm,hlen,cx,_,_⟩
    ·exact single _ _ rfl (.nil hu) (.list hu (by simp) (by simp) (by simp))
    ·cases hn
     have gR:=(js aq).2
     have MD:P.cellsOf e=(aM P e).length:=(e7 aq).symm
     have key: ∀i,i<len→∃gB xs,w.cells? base (a.add (i*P.cellsOf e)) (P.cellsOf e)=some gB∧mg P w (aM P e) gB xs:=by
      intro i hi
      have h1:=cx i hi
      rw[List.getElem?_eq_getElem (by omega)] at h1
      obtain ⟨gB,h2,h3⟩:=Option.bind_eq_some_iff.1 h1
      obtain ⟨xs,fQ⟩:=C7 hL fuel e gB _ (C6 he) h3
      exact ⟨gB,xs,h2,fQ⟩
     by_cases h0:len=0
     ·subst h0
      exact single _ _ rfl (.emp hu) (.list hu (by simp) (by simp) (by simp))
     ·have jN:a.spot=none∧a.block<w.heap.size:=by
       obtain ⟨gB,xs,h2,_⟩:=key 0 (by omega)
       obtain ⟨_,h3,h4⟩:=World.cells?_some h2
       have h5:=h4 0 gR
       rw[List.getElem?_eq_getElem (by omega)] at h5
       have:=YB h5
       simpa[Addr.add] using this
      have hF: ∃(F:Nat→List Value) (X:Nat→List V),∀i,i<len→w.cells? base (a.add (i*P.cellsOf e)) (P.cellsOf e)=some (F i)∧mg P w (aM P e) (F i) (X i):=by
       refine ⟨fun i=>if hi:i<len then (key i hi).choose else [],fun i=>if hi:i<len then (key i hi).choose_spec.choose else [],fun i hi=> ?_⟩
       simp only[dif_pos hi]
       exact (key i hi).choose_spec.choose_spec
      obtain ⟨F,X,HL⟩:=hF
      have hx: ∀(i j:Nat) y t',((List.range len).map fun i=>b9 P e (X i))[i]? =some y→(aM P e)[j]? =some t'→i<len∧∃v,(F i)[j]? =some v∧Pure P w (mf w) t' v (bx P e y j)∧WT P t' (bx P e y j):=by
       intro i j y t' hy hj
       have hi:i<len:=by
        have:=(List.getElem?_eq_some_iff.1 hy).1
        simpa using this
       refine ⟨hi,?_⟩
       simp[List.getElem?_range hi] at hy
       obtain ⟨c1,c2,c3⟩:=(HL i hi).2
       obtain ⟨v,z,d1,d2,d3,d4⟩:=c3 j t' hj
       have:bx P e y j=z:=by
        rw[←hy]
        unfold bx b9
        cases ha:bt P e with
        | true=>
         simp only[cond_true,V.cell]
         rw[sw _ _ _ d2]
        | false=>
         simp only[cond_false]
         have:aM P e=[e]:=by simp[aM,ha]
         rw[this] at hj
         cases j with
         | zero=>rw[sw _ _ _ d2]
         | succ j=>simp at hj
       rw[this]
       exact ⟨v,d1,d3,d4⟩
      have fE: ∀i j,i<len→j<P.cellsOf e→w.cell? ⟨a.block,a.off+(i*P.cellsOf e+j),none⟩=some ((F i).getD j undef):=by
       intro i j hi hj
       obtain ⟨h1,h2⟩:=HL i hi
       obtain ⟨_,h3,h4⟩:=World.cells?_some h1
       have h5:=h4 j hj
       rw[Go.Deep.add_add] at h5
       have e1:a.add (i*P.cellsOf e+j)=⟨a.block,a.off+(i*P.cellsOf e+j),none⟩:=by
        obtain ⟨b,o,s⟩:=a
        simp only at jN
        rw[jN.1]
        exact lW ..
       rw[e1] at h5
       rw[h5,List.getD_eq_getElem?_getD,List.getElem?_eq_getElem (by omega)]
       rfl
      have ha:a=⟨a.block,a.off,none⟩:=by
       obtain ⟨b,o,s⟩:=a
       simp only at jN
       rw[jN.1]
      refine single (.slice (some a) len cap) (.list e ((List.range len).map fun i=>b9 P e (X i))) rfl ?_ ?_
      ·rw[ha]
       refine .list (fun i j=>(F i).getD j undef) hu (by simp) hl (fun _=>jN.2) fE ?_
       intro i j y t' hy hj
       obtain ⟨hi,v,d1,d2,_⟩:=hx i j y t' hy hj
       rw[List.getD_eq_getElem?_getD,d1]
       exact d2
      ·refine .list hu (by simp;omega) ?_ ?_
       ·intro i y hy C8
        have hi:i<len:=by
         have:=(List.getElem?_eq_some_iff.1 hy).1
         simpa using this
        simp[List.getElem?_range hi] at hy
        rw[←hy]
        exact ⟨X i,by simp[b9,C8],(HL i hi).2.2.1⟩
       ·intro i j y t' hy hj
        obtain ⟨_,v,_,_,d3⟩:=hx i j y t' hy hj
        exact d3
   | struct fs=>
    simp only[Bool.and_eq_true] at hg
    obtain ⟨xs,n,hn,rfl,hlen,jw,hx⟩:=DataW.trod_struct hu h
    cases hn
    have het:aM P t=fs.toList.flatMap fun f=>aM P f.type:=by
     rw[←HK hg.2]
     simp[aM,bt,hu]
    obtain ⟨m,ys,_,pD,hm⟩:=OK (w:=w) (rd:=fun t cs=>DataW.trod enc P w base spare held fuel t cs) cs (fun t cs x a b=>C7 hL fuel t cs x a b) fs.toList 0 hg.1 (by
     intro f hf
     obtain ⟨i,hi⟩:=List.getElem?_of_mem hf
     rw[Array.getElem?_toList] at hi
     have pn:i<fs.size:=(Array.getElem?_eq_some_iff.1 hi).1
     exact ⟨_,(hx i f hi).trans (List.getElem?_eq_getElem (by omega))⟩)
    rw[het]
    refine ⟨ys,?_⟩
    have:(cs.drop 0).take (m-0)=cs:=by
     rw[List.drop_zero,hm,←het,←hc,←hlen,List.take_length]
    rw[this] at pD
    exact pD
   | array n e=>
    simp only[Bool.and_eq_true,Nat.beq_eq] at hg
    obtain ⟨xs,m,hn,rfl,hlen,jw,hx⟩:=DataW.trod_array hu h
    cases hn
    have het:aM P t=(List.replicate n (aM P e)).flatten:=by
     rw[←HK hg.2.2]
     simp[aM,bt,hu]
    obtain ⟨ys,pD⟩:=OL (w:=w) (rd:=DataW.trod enc P w base spare held fuel e) cs hg.2.1 (fun cs x b=>C7 hL fuel e cs x (C6 hg.1) b) n (by
     intro i hi
     exact ⟨_,(hx i hi).trans (List.getElem?_eq_getElem (by omega))⟩)
    rw[het]
    refine ⟨ys,?_⟩
    have:cs.take (n*P.cellsOf e)=cs:=by
     have:n*P.cellsOf e=cs.length:=by
      rw[hlen,hc,het,hg.2.1]
      simp
     rw[this,List.take_length]
    rw[this] at pD
    exact pD
   | _=>cases hg
end
section
variable {P:Program} {H:Type} {enc:TypeId × Value→H} {w:World} {L:List TypeId}
theorem YE {base HM:Nat} {spare:Nat→Bool} {held:Bool} {r:Reach} {β:Nat→Option Nat} {hp:Nat→Option ag} (hL:C4 P L=true) {t:TypeId} {v:Value} {d:DataW H} {ps:List MemPlace} (ht:t∈L) (eV:Value.okWide P w r HM t v)
  (h:DataW.Trod enc P w base spare held t v d ps): ∃x,ah P w (mf w) β hp v x∧gD P t x:=by
 obtain ⟨fuel,hf⟩:=h
 obtain ⟨xs,c1,c2,c3⟩:=C7 hL fuel t _ _ ht hf
 have hg:=List.all_eq_true.1 hL t ht
 unfold HJ at hg
 rw[Bool.and_eq_true,Nat.beq_eq] at hg
 obtain ⟨_,hg⟩:=hg
 have C8:bt P t=true→∃x,ah P w (mf w) β hp v x∧gD P t x:=by
  intro ha
  have hv: ∃cs,v= .agg cs:=by
   unfold Value.okWide at eV
   unfold bt at ha
   split at eV
   ·obtain ⟨cs,e,_⟩:=eV;exact ⟨cs,e⟩
   ·obtain ⟨cs,e,_⟩:=eV;exact ⟨cs,e⟩
   ·split at ha<;>simp_all
  obtain ⟨cs,rfl⟩:=hv
  refine ⟨.agg xs,.agg (by simpa[Value.cells] using c1.trans c2.symm) fun j v x hv hx=> ?_,fun _=>⟨xs,rfl,c2⟩,fun j t' hj=> ?_⟩
  ·have hj:j<(aM P t).length:=by rw[←c2];exact (List.getElem?_eq_some_iff.1 hx).1
   obtain ⟨v',y,e1,e2,e3,_⟩:=c3 j _ (List.getElem?_eq_getElem hj)
   rw[hx] at e2
   cases e2
   have:cs[j]? =some v':=by simpa[Value.cells] using e1
   rw[hv] at this
   cases this
   exact .o0 e3
  ·obtain ⟨v',y,e1,e2,_,e4⟩:=c3 j t' hj
   have:bx P t (.agg xs) j=y:=by
    simp only[bx,ha,cond_true,V.cell]
    exact sw _ _ _ e2
   rw[this]
   exact e4
 have ph:bt P t=false→v.cells= #[v]→∃x,ah P w (mf w) β hp v x∧gD P t x:=by
  intro ha sD
  have he:aM P t=[t]:=by simp[aM,ha]
  rw[he] at c1 c2 c3
  obtain ⟨v',y,e1,e2,e3,e4⟩:=c3 0 t rfl
  rw[sD] at e1
  cases e1
  refine ⟨y,.o0 e3,⟨fun h=>absurd (ha.symm.trans h) (by simp),fun j t' hj=> ?_⟩⟩
  rw[he] at hj
  cases j with
  | succ j=>simp at hj
  | zero=>
   cases hj
   simpa[bx,ha] using e4
 unfold Value.okWide at eV
 cases hu:P.underlying t with
 | none=>rw[hu] at hg;cases hg
 | some YF=>
  rw[hu] at hg eV
  cases YF with
  | int k=>
   refine ph (by simp[bt,hu]) ?_
   simp only[Cell.okWide,Cell.ok,hu] at eV
   cases v<;>first|rfl|(simp at eV;done)|exact eV.elim
  | bool=>
   refine ph (by simp[bt,hu]) ?_
   simp only[Cell.okWide,Cell.ok,hu] at eV
   cases v<;>first|rfl|(simp at eV;done)|exact eV.elim
  | string=>
   refine ph (by simp[bt,hu]) ?_
   simp only[Cell.okWide,Cell.ok,hu] at eV
   cases v<;>first|rfl|(simp at eV;done)|exact eV.elim
  | slice e=>
   refine ph (by simp[bt,hu]) ?_
   simp only[Cell.okWide,Cell.ok,hu] at eV
   cases v<;>first|rfl|(simp at eV;done)|exact eV.elim
  | struct fs=>exact C8 (by simp[bt,hu])
  | array n e=>exact C8 (by simp[bt,hu])
  | _=>cases hg
theorem OM {base HM:Nat} {spare:Nat→Bool} {held:Bool} {r:Reach} {β:Nat→Option Nat} {hp:Nat→Option ag} (hL:C4 P L=true): ∀{ts:List TypeId} {vs:List Value} {ds:List (DataW H)} {ps:List MemPlace},
  (∀t∈ts,t∈L)→(∀(j:Nat) t v,ts[j]? =some t→vs[j]? =some v→Value.okWide P w r HM t v)→DataW.TrodAll enc P w base spare held ts vs ds ps→
  ∃xs,vs.length=xs.length∧(∀(j:Nat) v x,vs[j]? =some v→xs[j]? =some x→ah P w (mf w) β hp v x)∧rP P ts xs
 | [],vs,ds,ps,_,_,h=>by
  obtain ⟨rfl,rfl,rfl⟩:=trodAll_nil h
  exact ⟨[],rfl,by simp,trivial⟩
 | t::ts,vs,ds,ps,hm,eV,h=>by
  obtain ⟨v,BK,d,ON,a,b,rfl,rfl,rfl,h1,h2⟩:=trodAll_cons h
  obtain ⟨x,ym,lY⟩:=YE (β:=β) (hp:=hp) hL (hm t (by simp)) (eV 0 t v rfl rfl) h1
  obtain ⟨xs,hl,hr,hw⟩:=OM (β:=β) (hp:=hp) hL (fun t ht=>hm t (by simp[ht])) (fun j t v a b=>eV (j+1) t v (by simpa using a) (by simpa using b)) h2
  refine ⟨x::xs,by simp[hl],fun j v' x' hv hx=> ?_,lY,hw⟩
  cases j with
  | zero=>cases hv;cases hx;exact ym
  | succ j=>exact hr j v' x' (by simpa using hv) (by simpa using hx)
theorem OO {base:Nat} {spare:Nat→Bool} {held:Bool}: ∀{ts:List TypeId} {vs:List Value} {ds:List (DataW H)} {ps:List MemPlace},DataW.TrodAll enc P w base spare held ts vs ds ps→ds.length=ts.length
 | [],vs,ds,ps,h=>by obtain ⟨rfl,rfl,rfl⟩:=trodAll_nil h;rfl
 | t::ts,vs,ds,ps,h=>by
  obtain ⟨v,BK,d,ON,a,b,rfl,rfl,rfl,h1,h2⟩:=trodAll_cons h
  simp[OO h2]
theorem OP {base:Nat} (hl:laidOutB P=true) {W W':World} {OQ:Nat→Bool}: ∀{ts:List TypeId} {vs:List Value} {ds:List (DataW H)} {ps:List MemPlace},(∀t∈ts,P.readableRec t=true∧t<P.types.size)→
  DataW.TrodAll enc P W base (fun _=>true) true ts vs ds ps→(∀p∈ps,W.sameAt W' p)→(∀p∈ps,OQ p.block=true)→DataW.TrodAll enc P W' base OQ true ts vs ds ps
 | [],vs,ds,ps,_,h,_,_=>by obtain ⟨rfl,rfl,rfl⟩:=trodAll_nil h;exact trodAll_mk0
 | t::ts,vs,ds,ps,hr,h,h1,h2=>by
  obtain ⟨v,BK,d,ON,a,b,rfl,rfl,rfl,h3,h4⟩:=trodAll_cons h
  obtain ⟨r1,r2⟩:=hr t (by simp)
  exact trodAll_cons_mk (WideElems.Trod_stays hl r1 r2 h3 (fun p hp=>h1 p (by simp[hp])) (fun p hp=>h2 p (by simp[hp])))
   (OP hl (fun t ht=>hr t (by simp[ht])) h4 (fun p hp=>h1 p (by simp[hp])) (fun p hp=>h2 p (by simp[hp])))
theorem YG {f:Func} {s:ChangeSpec} {apart fresh handsOn again:Bool} {W W':World} {args:Array Value} {v:Value} {ds gs:List (DataW H)} {before pa pv:List MemPlace}
  (hW:DataW.Whole enc P f.params.toList s.vars apart W args.toList ds gs before)
  (OR: ∀(b:Nat) (sp:Nat→Bool) (hd:Bool),DataW.TrodAll enc P W' b sp hd f.resultTypes.toList (v.resultList f.resultTypes.size) (s.fn H (ds++gs)).results [])
  (sV: ∀sp:Nat→Bool,(∀p∈before,sp p.block=true)→DataW.TrodAll enc P W' 0 sp true f.params.toList args.toList (s.fn H (ds++gs)).args pa)
  (OS: ∀sp:Nat→Bool,(∀p∈before,sp p.block=true)→DataW.TrodVars enc P W' sp s.vars (s.fn H (ds++gs)).vars pv)
  (C9:before=pa++pv) (hk:W.keptBut W' (· ∈before)) (OT: ∀a:Addr,a.block<W.heap.size→W'.frozen? a=W.frozen? a)
  (aq: ∀(j:Nat) (t:TypeId) (r:Value),f.resultTypes[j]? =some t→(v.resultList f.resultTypes.size)[j]? =some r→Value.okWide P W' .any 0 t r):
  s.post enc P f apart fresh handsOn again W args v W':=by
 have hold: ∀p∈before,(fun b=>decide (b<W.heap.size)) p.block=true:=fun p hp=>by simpa using hW.lt p hp
 refine ⟨ds,gs,before,[],pa,pv,hW,OR _ _ _,sV _ hold,OS _ hold,World.keptBut_mono (fun p hp=>⟨hp,?_⟩) hk,fun _=> ?_⟩
 ·rw[C9,List.mem_append] at hp
  exact Or.inr hp
 ·have aK:=hW.lt
  obtain ⟨_,_,_,_,_,hz,hn⟩:=hW
  refine ⟨aq,_,_,([]++pa)++pv,⟨[]++pa,pv,trodAll_append (sV _ (fun _ _=>rfl)) (OR _ _ _),OS _ (fun _ _=>rfl),rfl,?_,?_⟩,?_⟩
  ·intro b off hp
   have hb:MemPlace.cell b off∈before:=by rw[C9];simpa using hp
   rw[OT ⟨b,off,none⟩ (aK _ hb)]
   exact hz b off hb
  ·intro ha
   have:=hn ha
   rw[C9] at this
   simpa using this
  ·intro p hp _
   rw[C9]
   simpa using hp
theorem Va {A:ch} (hP:iw P A) (og:P.follows .mixedOrders=true) {f key:Nat} {fn:Func} {tb:TypeId} {s:ChangeSpec} {apart fresh handsOn again:Bool}
  (hf:P.funcs[f]? =some fn) (YH:A.aR key=f) (hL:C4 P L=true) (e8:fn.params.toList.all (fun t=>hasB L t)=true) (OU:fn.resultTypes= #[tb]) (OV:P.underlying tb=some .bool) (OW:s.vars=[])
  (hs: ∀ds:List (DataW H),ds.length=fn.params.toList.length→s.fn H ds={results:=[.lit (.bool true)],args:=ds})
  (YI:laidOutB P=true) (YJ:fn.params.toList.all (fun t=>P.readableRec t&&Nat.blt t P.types.size)=true)
  (eF:(A.sin key).aP=[]) (aq:((A.sin key).bu.map (·.2)).all (VS.ok 0)=true) (YK:(A.eW key).bu=[(0,.one .bool)]) (halt:A.alt key=none)
  (YL: ∀xs,rP P fn.params.toList xs→∃ds,qw ((A.sin key).bu.map (·.2)) xs=some ds∧Call P A key ds=some [.bool true])
  {W:World} {base:Nat} {args:Array Value} {ds gs:List (DataW H)} {before:List MemPlace}
  (YM:gb P A.aA W (mf W)) (eV: ∀(j:Nat) t v,fn.params[j]? =some t→args[j]? =some v→Value.okWide P W .any base t v)
  (hW:DataW.Whole enc P fn.params.toList s.vars apart W args.toList ds gs before):
  Calls P f args W fun e W'=> ∃v,e= .returned v∧s.post enc P fn apart fresh handsOn again W args v W':=by
 have OX:=hW
 obtain ⟨p,q,hA,hV,rfl,OT,jx⟩:=hW
 rw[OW] at hV
 obtain ⟨YN,hq⟩:gs=[]∧q=[]:=by
  cases gs with
  | nil=>exact ⟨rfl,hV⟩
  | cons g gs=>exact hV.elim
 subst YN
 subst hq
 obtain ⟨xs,hl,hr,YO⟩:=OM (β:=fun _=>none) (hp:=fun _=>none) hL (fun t ht=>C6 (List.all_eq_true.1 e8 t ht)) (fun j t v a b=>eV j t v (by simpa using a) (by simpa using b)) hA
 obtain ⟨ls,YP,yk⟩:=YL xs YO
 obtain ⟨fn',c,h1,h2,h3⟩:=Yx (A:=A) hP og key ls [.bool true] yk
 rw[YH] at h1 h3
 rw[hf] at h1
 cases h1
 have vm: ∀j,(aX (A.sin key) ls).hp j=none:=fun j=>by simp[aX,mk,eF,eb,iH]
 obtain ⟨_,r1,r2⟩:=yb (P:=P) (w:=W) (I:=mf W) (n:=0) (β:=fun _=>none) (aj:=fun _=>none) (hp:=fun _=>none) (hp':=(aX (A.sin key) ls).hp) (fun j hj=>absurd hj (Nat.not_lt_zero j)) YP aq
 have hlen:((A.sin key).bu.map (·.2)).length=xs.length:=by rw[←r1 [],HH]
 have h4:=h3 W (mf W) (fun _=>none) args.toList ⟨fun id blk h=>(by rw[vm] at h;cases h),fun id az blk blk' b h=>(by rw[vm] at h;cases h),fun id blk b h=>(by rw[vm] at h;cases h),fun b h=>h⟩ YM
  (by rw[hl,←hlen,List.length_map]) (fun j v y hv hy=>r2 [] j v y (fun x hx=>hr j v x hv hx) (by rw[List.append_nil];exact hy))
 have ea:args.toList.toArray=args:=by simp
 rw[ea] at h4
 refine h4.mono fun e W' ⟨v,I2,bL,he,ha⟩=>⟨v,he,?_⟩
 have sA: ∀b,b<W.heap.size→W'.heap[b]? =W.heap[b]? :=fun b hb=>ha.vd.bR b hb (by rintro ⟨j,blk,hj,_⟩;rw[vm] at hj;cases hj)
 have G1:=ha.res
 have OY:A.so key [.bool true]=A.eW key∧A.lv key [.bool true]=[.bool true]:=by unfold ch.so ch.lv;rw[halt];exact ⟨rfl,rfl⟩
 rw[OY.1,OY.2,YK] at G1
 obtain rfl:v= .bool true:=G1.iN
 have kh:Value.okWide P W' .any 0 tb (.bool true):=by simp[Value.okWide,OV,Cell.okWide,Cell.ok]
 have j5:ds.length=fn.params.toList.length:=OO hA
 have gX: ∀p'∈p++[],W.sameAt W' p':=by
  intro p' hp'
  have aK:=OX.lt p' hp'
  cases p' with
  | cell b o=>exact World.cell?_of_block (w:=W) (sA b aK)
  | map b=>exact sA b aK
 refine YG (pa:=p) (pv:=[]) OX ?_ ?_ ?_ rfl ?_ ?_ ?_
 ·intro b sp hd
  rw[List.append_nil,hs ds j5,OU]
  exact trodAll_mk1 ⟨1,by simp[DataW.trod,Value.cells,OV]⟩
 ·intro sp jN
  rw[List.append_nil,hs ds j5]
  refine OP YI (fun t ht=> ?_) hA (fun p' hp'=>gX p' (by simpa using hp')) (fun p' hp'=>jN p' (by simpa using hp'))
  have:=List.all_eq_true.1 YJ t ht
  simp only[Bool.and_eq_true] at this
  exact ⟨this.1,by simpa[Nat.blt_eq] using this.2⟩
 ·intro sp jN
  rw[OW,List.append_nil,hs ds j5]
  exact rfl
 ·refine ⟨ha.vd.io.1,ha.vd.io.2,fun i hi=> ?_⟩
  rw[sA i hi]
  split<;>simp_all
 ·intro a aK
  exact World.frozen?_of_block (w:=W) (sA a.block aK)
 ·intro j t r hj HN
  rw[OU] at hj HN
  cases j with
  | zero=>
   simp[Value.resultList] at hj HN
   subst hj
   subst HN
   exact kh
  | succ j=>simp at hj
end
end Go.AM
namespace Go.AM
@[simp] theorem V.toInt_int (k:IntKind) (n:Int):V.toInt (.int k n)=n:=by cases k<;>rfl
@[simp] theorem V.pE (b:Bool):V.toBool (.bool b)=b:=by cases b<;>rfl
@[simp] theorem V.agR (s:List UInt8):V.toStr (.str s)=s:=by cases s<;>rfl
@[simp] theorem V.oh (e:TypeId) (es:List V):V.toList (.list e es)=es:=by cases es<;>rfl
@[simp] theorem V.agS (e:TypeId) (es:List V):V.toList (.own e es)=es:=by cases es<;>rfl
@[simp] theorem V.YQ (cs:List V) (j:Nat):V.cell (.agg cs) j=V.nth cs j:=by cases cs<;>rfl
@[simp] theorem V.agT (cs:List V) (j:Nat):V.comp (.aQ cs) j=V.nth cs j:=by cases cs<;>rfl
@[simp] theorem V.ca (x:V) (l:List V):V.nth (x::l) 0=x:=by cases l<;>rfl
@[simp] theorem V.pF (x:V) (l:List V) (n:Nat):V.nth (x::l) (n+1)=V.nth l n:=by cases l<;>rfl
@[simp] theorem V.agU (x y:V) (l:List V):V.nth (x::y::l) 1=y:=by cases l<;>rfl
@[simp] theorem V.agV (x y z:V) (l:List V):V.nth (x::y::z::l) 2=z:=by cases l<;>rfl
@[simp] theorem V.agW (x y z u:V) (l:List V):V.nth (x::y::z::u::l) 3=u:=by cases l<;>rfl
theorem wrap64 {x:Int} (h1: -9223372036854775808≤x) (h2:x<9223372036854775808):IntKind.wrap .i64 x=x:=by
 rw[IntKind.wrap_i64];omega
theorem HO {x:Int} (h1:0≤x) (h2:x<256):IntKind.wrap .u8 x=x:=by
 rw[IntKind.wrap_u8];omega
theorem HP {es:List V} {i:Int} {n:Nat} (h:i=n):idx es i=es[n]? :=by
 subst h;simp[idx]
theorem YR {α:Type} {f:α→V} {l:List α} {i:Int} {n:Nat} (h:i=n) (hn:n<l.length):idx (l.map f) i=some (f l[n]):=by
 rw[HP h];simp[hn]
@[simp] theorem Db (es:List V) (n:Nat):idx es (n:Int)=es[n]? :=by simp[idx]
section
variable {X R:Type} {step:X→Option (X ⊕ R)}
theorem OZ (Inv:X→Prop) (μ:X→Nat) (Q:R→Prop)
  (h: ∀x,Inv x→(∃y,step x=some (.inl y)∧Inv y∧μ y<μ x)∨∃r,step x=some (.inr r)∧Q r):
  ∀x,Inv x→∃r,Loop step x=some r∧Q r:=by
 intro x
 induction hm:μ x using Nat.strongRecOn generalizing x with
 | ind m ih=>
  intro hx
  rcases h x hx with ⟨y,h1,h2,h3⟩|⟨r,h1,h2⟩
  ·obtain ⟨r,h4,h5⟩:=ih (μ y) (by omega) y rfl h2
   exact ⟨r,(dA h1).trans h4,h5⟩
  ·exact ⟨r,bO h1,h2⟩
theorem Dc (s:Nat→X) (n:Nat) {r:R} (h: ∀i,i<n→step (s i)=some (.inl (s (i+1)))) (he:step (s n)=some (.inr r)):Loop step (s 0)=some r:=by
 induction n generalizing s with
 | zero=>exact bO he
 | succ n ih=>
  rw[dA (h 0 (by omega))]
  exact ih (fun i=>s (i+1)) (fun i hi=>h (i+1) (by omega)) he
end
@[simp] theorem aE {α:Type} (p:Prop) [Decidable p] (a b:α):(bif decide p then a else b)=if p then a else b:=by by_cases h:p<;>simp[h]
@[simp] theorem pG {α:Type} (m n:Int) (a b:α):(bif m==n then a else b)=if m=n then a else b:=by
 by_cases h:m=n
 ·simp[h]
 ·have:(m==n)=false:=by simp[h]
  rw[this,if_neg h];rfl
@[simp] theorem rh {α:Type} (m n:Int) (a b:α):(bif m != n then a else b)=if m=n then b else a:=by
 by_cases h:m=n
 ·simp[h]
 ·have:(m != n)=true:=by simp[h]
  rw[this,if_neg h];rfl
@[simp] theorem gj {α:Type} (c:Bool) (a b:α):(bif !c then a else b)=bif c then b else a:=by cases c<;>rfl
@[simp] theorem HQ {α:Type} (m n:Nat) (a b:α):(bif Nat.ble m n then a else b)=if m≤n then a else b:=by
 cases hb:Nat.ble m n with
 | true=>rw[if_pos (Nat.le_of_ble_eq_true hb)];rfl
 | false=>
  rw[if_neg fun h=> ?_]
  ·rfl
  ·rw[Nat.ble_eq_true_of_le h] at hb;cases hb
@[simp] theorem dx {α:Type} (c d:Bool) (a b:α):(bif c&&d then a else b)=bif c then (bif d then a else b) else b:=by cases c<;>rfl
section
variable {P:Program}
def O0 (P : Program) : Bool := P.funcs.all fun fn => !(fn.name == "runtime.NumGoroutine")
theorem YS (h:O0 P=true):vg P:=by
 intro f fn hf
 unfold O0 at h
 have:=(Array.all_eq_true_iff_forall_mem.1 h) fn (Array.mem_of_getElem? hf)
 simpa using this
theorem U4 {t:TypeId} {ts:List TypeId} {xs:List V} (h:rP P (t::ts) xs): ∃x ys,xs=x::ys∧gD P t x∧rP P ts ys:=by
 cases xs with
 | nil=>exact h.elim
 | cons x ys=>exact ⟨x,ys,rfl,h.1,h.2⟩
theorem U5 {xs:List V} (h:rP P [] xs):xs=[]:=by
 cases xs with
 | nil=>rfl
 | cons x ys=>exact h.elim
theorem gD.one {t:TypeId} {x:V} (ha:bt P t=false) (h:gD P t x):WT P t x:=by
 have he:aM P t=[t]:=by simp[aM,ha]
 have:=h.2 0 t (by rw[he];rfl)
 simpa[bx,ha] using this
theorem WT.dK {t:TypeId} {k:IntKind} {x:V} (hu:P.underlying t=some (.int k)) (h:WT P t x): ∃n,x= .int k n∧k.min≤n∧n≤k.max:=by
 cases h with
 | int h1 h2=>
  rw[hu] at h1
  cases h1
  simp only[Lit.wf,Bool.and_eq_true,decide_eq_true_eq] at h2
  exact ⟨_,rfl,h2⟩
 | bool h1=>rw[hu] at h1;cases h1
 | str h1=>rw[hu] at h1;cases h1
 | list h1=>rw[hu] at h1;cases h1
theorem WT.iN {t:TypeId} {x:V} (hu:P.underlying t=some .bool) (h:WT P t x): ∃b,x= .bool b:=by
 cases h with
 | int h1=>rw[hu] at h1;cases h1
 | bool h1=>exact ⟨_,rfl⟩
 | str h1=>rw[hu] at h1;cases h1
 | list h1=>rw[hu] at h1;cases h1
theorem WT.kX {t:TypeId} {x:V} (hu:P.underlying t=some .string) (h:WT P t x): ∃s,x= .str s∧s.length≤maxLen:=by
 cases h with
 | int h1=>rw[hu] at h1;cases h1
 | bool h1=>rw[hu] at h1;cases h1
 | str h1 h2=>exact ⟨_,rfl,h2⟩
 | list h1=>rw[hu] at h1;cases h1
theorem WT.HR {t e:TypeId} {x:V} (hu:P.underlying t=some (.slice e)) (h:WT P t x): ∃es,x= .list e es∧es.length≤maxLen∧∀y∈es,gD P e y:=by
 cases h with
 | int h1=>rw[hu] at h1;cases h1
 | bool h1=>rw[hu] at h1;cases h1
 | str h1=>rw[hu] at h1;cases h1
 | list h1 h2 h3 h4=>
  rw[hu] at h1
  cases h1
  refine ⟨_,rfl,h2,fun y hy=> ?_⟩
  obtain ⟨i,hi⟩:=List.getElem?_of_mem hy
  exact ⟨h3 i y hi,fun j t' hj=>h4 i j y t' hi hj⟩
theorem gD.jL {t:TypeId} {x:V} (ha:bt P t=true) (h:gD P t x): ∃xs,x= .agg xs∧xs.length=(aM P t).length∧∀(j:Nat) t' y,(aM P t)[j]? =some t'→xs[j]? =some y→WT P t' y:=by
 obtain ⟨xs,rfl,hl⟩:=h.1 ha
 refine ⟨xs,rfl,hl,fun j t' y hj hy=> ?_⟩
 have:=h.2 j t' hj
 simp only[bx,ha,cond_true,V.YQ] at this
 rw[sw _ _ _ hy] at this
 exact this
theorem O1 {α:Type} {f:α→V}: ∀{es:List V},(∀y∈es,∃a,y=f a)→∃l:List α,es=l.map f
 | [],_=>⟨[],rfl⟩
 | y::es,h=>by
  obtain ⟨a,rfl⟩:=h y (by simp)
  obtain ⟨l,rfl⟩:=O1 (f:=f) (es:=es) fun z hz=>h z (by simp[hz])
  exact ⟨a::l,rfl⟩
theorem HS {α:Type} {f:α→V} {p:α→Prop}: ∀{es:List V},(∀y∈es,∃a,y=f a∧p a)→∃l:List α,es=l.map f∧∀a∈l,p a
 | [],_=>⟨[],rfl,by simp⟩
 | y::es,h=>by
  obtain ⟨a,rfl,ha⟩:=h y (by simp)
  obtain ⟨l,rfl,hl⟩:=HS (f:=f) (p:=p) (es:=es) fun z hz=>h z (by simp[hz])
  exact ⟨a::l,rfl,by
   intro b hb
   rcases List.mem_cons.1 hb with rfl|hb
   ·exact ha
   ·exact hl b hb⟩
theorem gD.int {t:TypeId} {x:V} (hu:P.underlying t=some (.int .i64)) (h:gD P t x): ∃n,x= .int .i64 n∧IntKind.min .i64≤n∧n≤IntKind.max .i64:=
 (h.one (by simp[bt,hu])).dK hu
theorem gD.str {t:TypeId} {x:V} (hu:P.underlying t=some .string) (h:gD P t x): ∃s,x= .str s∧s.length≤maxLen:=
 (h.one (by simp[bt,hu])).kX hu
end
def un.{u} {A B:Type} {γ:Sort u} (f:A→B→γ) (p:A × B):γ:=f p.1 p.2
def c8 {A B γ:Type} (f:A→γ) (g:B→γ):A ⊕ B→γ
 | .inl a=>f a
 | .inr b=>g b
def ao:List Nat→Code→Code
 | [],c=>c
 | 0::p,.seq a _=>ao p a
 | _::p,.seq _ b=>ao p b
 | 0::p,.cond _ a _=>ao p a
 | _::p,.cond _ _ b=>ao p b
 | _::p,.block _ c=>ao p c
 | _::p,.loop c=>ao p c
 | _,c=>c
inductive cm where
 | loop (c:Code)
 | cond (t:Nat) (x y:Code)
section
variable (P:Program) (A:ch) (C:ae) (L:ct) (f n m:Nat)
def oj:Code→List cm
 | .seq a b=>oj a++oj b
 | .cond (.tmp t) x y=>
  match A.fL f (t*16+15) with
  | none=>oj x++oj y
  | some _=>[.cond t x y]
 | .cond (.const _) x y=>oj x++oj y
 | .block _ c=>oj c
 | .loop c=>[.loop c]
 | _=>[]
def cp:cm→Prop
 | .loop c=>
  match A.fL f (keyOf c+1) with
  | none=>True
  | some S=> ∀(β:Type) ds (k:Nat→List V→Option β),L β (keyOf c+1) ds k=(Loop (stepG P A C f n m S c) ds).bind fun r=>k r.1 r.2
 | .cond t x y=>
  match A.fL f (t*16+15) with
  | none=>True
  | some S=> ∀(β:Type) ds (k:Nat→List V→Option β),L β (t*16+15) ds k=(xo P A C f n m t S x y ds).bind fun r=>k r.1 r.2
def mh:List cm→Prop
 | []=>True
 | b::l=>cp P A C L f n m b∧mh l
variable {P A C L f n m}
theorem mh.left {a b:List cm}:mh P A C L f n m (a++b)→mh P A C L f n m a:=by
 induction a with
 | nil=>exact fun _=>trivial
 | cons x a ih=>exact fun h=>⟨h.1,ih h.2⟩
theorem mh.right {a b:List cm}:mh P A C L f n m (a++b)→mh P A C L f n m b:=by
 induction a with
 | nil=>exact fun h=>h
 | cons x a ih=>exact fun h=>ih h.2
theorem aY: ∀{c:Code} {bs:List cm},oj A f c=bs→mh P A C L f n m bs→gy P A C L f n m c:=by
 intro c
 induction c with
 | seq a b Gd Ge=>
  intro bs h hb
  subst h
  exact ⟨Gd rfl hb.left,Ge rfl hb.right⟩
 | cond c x y fi fj=>
  intro bs h hb
  subst h
  cases c with
  | tmp t=>
   simp only[oj] at hb
   simp only[gy]
   cases hs:A.fL f (t*16+15) with
   | none=>
    rw[hs] at hb
    exact ⟨fi rfl hb.left,fj rfl hb.right⟩
   | some S=>
    rw[hs] at hb
    have:=hb.1
    simp only[cp,hs] at this
    exact this
  | const v=>exact ⟨fi rfl hb.left,fj rfl hb.right⟩
  | _=>trivial
 | block id c ih=>
  intro bs h hb
  subst h
  exact ih rfl hb
 | loop c ih=>
  intro bs h hb
  subst h
  exact hb.1
 | _=>intro bs h hb;trivial
variable (P A C L f n m) in
noncomputable def HT {β:Type} (t:Nat) (S:Shape × List (Out × Shape)) (x y:Code) (ds:List V) (k:Nat→List V→Option β):Option β:=
 let kc:Out→St→Option β:=fun o st=>
  match o with
  | .norm=>(ways m 0 S.2 (.norm,canon m (A.join f t) st)).bind fun e=>k e.1 e.2
  | o=>(ways m 0 S.2 (o,st)).bind fun e=>k e.1 e.2
 match (aX S.1 ds).sl t with
 | .bool b=>bif b then gx P A C L f n m x (aX S.1 ds) kc else gx P A C L f n m y (aX S.1 ds) kc
 | _=>none
theorem YT {t:Nat} {x y:Code} {S:Shape × List (Out × Shape)} (hS:A.fL f (t*16+15)=some S) (hx:gy P A C L f n m x) (hy:gy P A C L f n m y) {I R:Type} (enc:I→List V) (ln:I→R→Nat × List V)
  (de:List V→I) (body:I→(β:Type)→(R→Option β)→Option β) (s9: ∀ds,aX S.1 (enc (de ds))=aX S.1 ds)
  (e1: ∀i (β:Type) (k:Nat→List V→Option β),HT P A C L f n m t S x y (enc i) k=body i β (fun r=>k (ln i r).1 (ln i r).2))
  (hl: ∀(β:Type) ds (k:Nat→List V→Option β),L β (t*16+15) ds k=body (de ds) β (fun r=>k (ln (de ds) r).1 (ln (de ds) r).2)):
  cp P A C L f n m (.cond t x y):=by
 simp only[cp,hS]
 intro β ds k
 rw[hl,←e1]
 unfold HT xo
 rw[s9]
 simp only
 have hk: ∀(z:Option (Out × St)),(z.bind fun r=>(match r.1 with
   | .norm=>(ways m 0 S.2 (.norm,canon m (A.join f t) r.2)).bind fun e=>k e.1 e.2
   | o=>(ways m 0 S.2 (o,r.2)).bind fun e=>k e.1 e.2))=((z.bind fun r=>
   match r.1 with
   | .norm=>some (Out.norm,canon m (A.join f t) r.2)
   | _=>some r).bind fun r=>ways m 0 S.2 r).bind fun r=>k r.1 r.2:=by
  intro z
  cases z with
  | none=>rfl
  | some r=>obtain ⟨o,st⟩:=r;cases o<;>rfl
 cases (aX S.1 ds).sl t with
 | bool b=>
  cases b with
  | true=>simp only[cond_true,BI P A C f n m x hx];exact hk _
  | false=>simp only[cond_false,BI P A C f n m y hy];exact hk _
 | _=>rfl
theorem bn {b:cm} {l:List cm} (h:cp P A C L f n m b) (h2:mh P A C L f n m l):mh P A C L f n m (b::l):=⟨h,h2⟩
theorem aw:mh P A C L f n m []:=trivial
theorem bp {key:Nat} {bs:List cm} (hb:oj A key (cB P (A.aR key))=bs) (ht:mh P A (Call P A) L key (cI P (A.aR key)) (A.sin key).aP.length bs) {ds:List V} {r:Option (List V)}
  (h:Gf P A (Call P A) L key ds=r):Call P A key ds=r:=by
 rw[YA,Vj P A (Call P A) key (aY hb ht),h]
end
section
variable (P:Program) (A:ch)
def gE (C:ae) (N f n m:Nat):Code→St→Option (Out × St)
 | .skip,st=>some (.norm,st)
 | .region id ops draw,st=>(uF P (A.here f id) C n ops draw st).bind fun st'=>some (.norm,canon m (A.live f id) (freeze m (A.pur f id) st'))
 | .seq a b,st=>(gE C N f n m a st).bind fun r=>
  match r.1 with
  | .norm=>gE C N f n m b r.2
  | _=>some r
 | .cond (.tmp t) x y,st=>
  let go (st:St):Option (Out × St):=
   match st.sl t with
   | .bool b=>(bif b then gE C N f n m x st else gE C N f n m y st).bind fun r=>
    match r.1 with
    | .norm=>some (.norm,canon m (A.join f t) r.2)
    | _=>some r
   | _=>none
  match A.fL f (t*16+15) with
  | none=>go st
  | some S=>(gP m S.1 st).bind fun ds=>((go (aX S.1 ds)).bind fun r=>ways m 0 S.2 r).bind fun e=>jn 0 S.2 e.1 e.2 fun o st=>some (o,st)
 | .cond (.const (.bool b)) x y,st=>bif b then gE C N f n m x st else gE C N f n m y st
 | .block id c,st=>(gE C N f n m c st).bind fun r=>
  match r.1 with
  | .norm=>some (.norm,canon m (A.blk f id) r.2)
  | .exit az=>bif Nat.beq az id then some (.norm,canon m (A.blk f id) r.2) else some r
  | .ret=>some r
 | .loop c,st=>
  match A.fL f (keyOf c+1) with
  | none=>none
  | some S=>(gP m S.1 st).bind fun ds=>(dY (fun ds=>jI m S.1 S.2 (gE C N f n m c (aX S.1 ds))) N ds).bind fun e=>jn 0 S.2 e.1 e.2 fun o st=>some (o,st)
 | .exit id,st=>some (.exit id,st)
 | .ret,st=>some (.ret,st)
 | _,_=>none
def HU (C:ae) (N f:Nat) (ds:List V):Option (List V):=
 match P.funcs[A.aR f]? with
 | none=>none
 | some fn=>
  match fn.body with
  | none=>none
  | some c=>bif gv 0 (A.sin f).bu&&(Nat.ble (A.sin f).bu.length fn.ntmps&&((A.sin f).ok&&(gv 0 (A.eW f).bu&&(Nat.beq (A.eW f).bu.length fn.results.size&&mQ (kR (A.sin f).aP.length (A.mv f)))))) then
    (gE P A C N f fn.ntmps (A.sin f).aP.length c (xn A f ds)).bind fun r=>
     match r.1 with
     | .exit _=>none
     | _=>((sa P A f fn (A.sin f).aP.length r.2).run C r.2.hp).map (·.1)
   else none
def Dd (N:Nat):Nat→ae
 | 0=>fun _ _=>none
 | n+1=>HU P A (Dd N n) N
variable {P A}
theorem O2 {X R:Type} {s1 s2:X→Option (X ⊕ R)} (h: ∀x y,s1 x=some y→s2 x=some y): ∀(n:Nat) (x:X) (r:R),dY s1 n x=some r→dY s2 n x=some r
 | 0,x,r,e=>by cases e
 | n+1,x,r,e=>by
  simp only[dY] at e⊢
  obtain ⟨y,h1,h2⟩:=bind_some e
  rw[h x y h1]
  cases y with
  | inl z=>exact O2 h n z r h2
  | inr q=>exact h2
theorem YU {C:ae} {N f n m:Nat}: ∀(c:Code) {st:St} {r:Out × St},gE P A C N f n m c st=some r→exec P A C f n m c st=some r:=by
 intro c
 induction c with
 | skip=>exact fun e=>e
 | exit id=>exact fun e=>e
 | ret=>exact fun e=>e
 | region id ops draw=>exact fun e=>e
 | seq x y fi fj=>
  intro st r e
  simp only[gE,exec] at e⊢
  obtain ⟨⟨o,s1⟩,h1,h2⟩:=bind_some e
  rw[fi h1]
  cases o with
  | norm=>exact fj h2
  | exit id=>exact h2
  | ret=>exact h2
 | cond c x y fi fj=>
  intro st r e
  cases c with
  | tmp t=>
   have go: ∀{st:St} {r:Out × St},(match st.sl t with
     | .bool b=>(bif b then gE P A C N f n m x st else gE P A C N f n m y st).bind fun r=>
      match r.1 with
      | .norm=>some (.norm,canon m (A.join f t) r.2)
      | _=>some r
     | _=>none)=some r→(match st.sl t with
     | .bool b=>(bif b then exec P A C f n m x st else exec P A C f n m y st).bind fun r=>
      match r.1 with
      | .norm=>some (.norm,canon m (A.join f t) r.2)
      | _=>some r
     | _=>none)=some r:=by
    intro st r e
    cases hs:st.sl t<;>rw[hs] at e<;>simp only at e⊢ <;>first|(cases e;done)|skip
    rename_i b
    obtain ⟨x1,h1,h2⟩:=bind_some e
    cases b with
    | true=>simp only[cond_true,fi h1,Option.bind_some];exact h2
    | false=>simp only[cond_false,fj h1,Option.bind_some];exact h2
   simp only[gE,exec] at e⊢
   split at e
   ·rename_i hS
    try rw[hS]
    exact go e
   ·rename_i S hS
    obtain ⟨ds,h1,h2⟩:=bind_some e
    obtain ⟨e',h3,h4⟩:=bind_some h2
    obtain ⟨r1,h5,h6⟩:=bind_some h3
    try rw[hS]
    simp only[h1,Option.bind_some]
    exact (congrArg (fun z:Option (Out × St)=>(z.bind fun r=>ways m 0 S.2 r).bind fun e=>jn 0 S.2 e.1 e.2 fun o st=>some (o,st)) (go h5)).trans (by simp only[Option.bind_some,h6];exact h4)
  | const v=>
   cases v with
   | bool b=>
    simp only[gE,exec] at e⊢
    cases b with
    | true=>exact fi e
    | false=>exact fj e
   | _=>simp only[gE] at e;cases e
  | _=>simp only[gE] at e;cases e
 | block id c ih=>
  intro st r e
  simp only[gE,exec] at e⊢
  obtain ⟨x1,h1,h2⟩:=bind_some e
  rw[ih h1]
  exact h2
 | loop c ih=>
  intro st r e
  simp only[gE,exec] at e⊢
  split at e
  ·cases e
  ·rename_i S hS
   obtain ⟨ds,h1,h2⟩:=bind_some e
   obtain ⟨e',h3,h4⟩:=bind_some h2
   try rw[hS]
   simp only[h1,Option.bind_some]
   rw[uo (O2 (s2:=fun ds=>jI m S.1 S.2 (exec P A C f n m c (aX S.1 ds))) (fun x y yu=>by
    unfold jI at yu⊢
    obtain ⟨z,h5,h6⟩:=bind_some yu
    rw[ih h5]
    exact h6) N ds e' h3)]
   exact h4
 | _=>intro st r e;simp only[gE] at e;cases e
theorem YV {C:ae} {N f:Nat} {ds es:List V} (e:HU P A C N f ds=some es):mT P A C f ds=some es:=by
 unfold HU at e
 unfold mT
 cases hf:P.funcs[A.aR f]? with
 | none=>rw[hf] at e;cases e
 | some fn=>
  rw[hf] at e
  simp only at e⊢
  cases hb:fn.body with
  | none=>rw[hb] at e;cases e
  | some c=>
   rw[hb] at e
   simp only at e⊢
   cases hc:(gv 0 (A.sin f).bu&&(Nat.ble (A.sin f).bu.length fn.ntmps&&((A.sin f).ok&&(gv 0 (A.eW f).bu&&(Nat.beq (A.eW f).bu.length fn.results.size&&mQ (kR (A.sin f).aP.length (A.mv f))))))) with
   | false=>rw[hc] at e;cases e
   | true=>
    rw[hc] at e
    simp only[cond_true] at e⊢
    obtain ⟨x,h1,h2⟩:=bind_some e
    rw[YU c h1]
    exact h2
theorem O3 {N:Nat}: ∀n {f:Nat} {a r:List V},Dd P A N n f a=some r→jo P A n f a=some r
 | 0,f,a,r,h=>by cases h
 | n+1,f,a,r,h=>by
  obtain ⟨M,hM⟩:=C2 (C:=Dd P A N n) (D:=fun _=>jo P A n) (fun f a r h=>⟨0,fun _ _=>O3 n h⟩) (YV h)
  exact hM M (Nat.le_refl _)
theorem YW {N n f:Nat} {a r:List V} (h:Dd P A N n f a=some r):Call P A f a=some r:=yv.2 ⟨n,O3 n h⟩
end
inductive LK where
 | int (k:IntKind)
 | bool
 | str
 | list (e:TypeId)
 | nat
def LK.Ty:LK→Type
 | .int _=>Int
 | .bool=>Bool
 | .str=>List UInt8
 | .list _=>List V
 | .nat=>Nat
def LK.enc:(k:LK)→k.Ty→V
 | .int k,n=> .int k n
 | .bool,b=> .bool b
 | .str,s=> .str s
 | .list e,l=> .list e l
 | .nat,n=>dB n
def LK.dec:(k:LK)→V→k.Ty
 | .int _,v=>v.toInt
 | .bool,v=>v.toBool
 | .str,v=>v.toStr
 | .list _,v=>v.toList
 | .nat,v=>jF v
theorem LK.O4: ∀(k:LK) (x:k.Ty),k.dec (k.enc x)=x
 | .int _,_=>rfl
 | .bool,_=>rfl
 | .str,_=>rfl
 | .list _,_=>rfl
 | .nat,_=>rfl
def HV:List Nat→List LK
 | []=>[]
 | _::l=> .nat::HV l
def LS.ks:LS→List LK
 | .int k=>[.int k]
 | .bool=>[.bool]
 | .str=>[.str]
 | .list e=>[.list e]
 | .sub .. =>[.nat,.nat]
 | .ptr _=>[.nat,.nat]
 | .row _ _ cs=>HV cs
 | .cg _ cs _=> .nat::HV cs
 | _=>[]
def vn:List LS→List LK
 | []=>[]
 | l::ls=>l.ks++vn ls
def VS.ks:VS→List LK
 | .one l=>l.ks
 | .agg ls=>vn ls
 | .aQ ls=>vn ls
 | .fn _ a b=>vn a++vn b
 | .pref _ ls=>vn ls
def O5:List VS→List LK
 | []=>[]
 | l::ls=>l.ks++O5 ls
def BS.ks:BS→List LK
 | .var _ cs=>O5 cs
 | .arr e _=>[.list e]
 | .nest e=>[.list e]
 | .dead=>[]
 | .map t=>[.list t]
def O6:List (Nat × VS)→List LK
 | []=>[]
 | p::l=>p.2.ks++O6 l
def O7:List BS→List LK
 | []=>[]
 | b::l=>b.ks++O7 l
def Shape.ks (S:Shape):List LK:=O6 S.bu++O7 S.aP
def HW:List Nat→List V→List V
 | [],_=>[]
 | _::cs,ds=>dB (jF (V.nth ds 0))::HW cs (ds.drop 1)
def LS.norm:LS→List V→List V
 | .int k,ds=>[.int k (V.nth ds 0).toInt]
 | .bool,ds=>[.bool (V.nth ds 0).toBool]
 | .str,ds=>[.str (V.nth ds 0).toStr]
 | .list e,ds=>[.list e (V.nth ds 0).toList]
 | .sub ..,ds=>[dB (jF (V.nth ds 0)),dB (jF (V.nth ds 1))]
 | .ptr _,ds=>[dB (jF (V.nth ds 0)),dB (jF (V.nth ds 1))]
 | .row _ _ cs,ds=>HW cs ds
 | .cg _ cs _,ds=>dB (jF (V.nth ds 0))::HW cs (ds.drop 1)
 | _,_=>[]
def vo:List LS→List V→List V
 | [],_=>[]
 | l::ls,ds=>l.norm ds++vo ls (ds.drop l.size)
def VS.norm:VS→List V→List V
 | .one l,ds=>l.norm ds
 | .agg ls,ds=>vo ls ds
 | .aQ ls,ds=>vo ls ds
 | .fn _ a b,ds=>vo a ds++vo b (ds.drop (jl a))
 | .pref _ ls,ds=>vo ls ds
def O8:List VS→List V→List V
 | [],_=>[]
 | l::ls,ds=>l.norm ds++O8 ls (ds.drop l.size)
def BS.norm:BS→List V→List V
 | .var _ cs,ds=>O8 cs ds
 | .arr e _,ds=>[.list e (V.nth ds 0).toList]
 | .nest e,ds=>[.list e (V.nth ds 0).toList]
 | .dead,_=>[]
 | .map t,ds=>[.list t (V.nth ds 0).toList]
def O9:List (Nat × VS)→List V→List V
 | [],_=>[]
 | p::l,ds=>p.2.norm ds++O9 l (ds.drop p.2.size)
def Pb:List BS→List V→List V
 | [],_=>[]
 | b::l,ds=>b.norm ds++Pb l (ds.drop b.size)
def Shape.norm (S:Shape) (ds:List V):List V:=O9 S.bu ds++Pb S.aP (ds.drop (mP S.bu))
def ta:LK→List LK→Type
 | k,[]=>k.Ty
 | k,k'::ks=>k.Ty × ta k' ks
def jy:List LK→Type
 | []=>Unit
 | k::ks=>ta k ks
def tc:(k:LK)→(ks:List LK)→ta k ks→List V
 | k,[],x=>[k.enc x]
 | k,k'::ks,x=>k.enc x.1::tc k' ks x.2
def jR:(ks:List LK)→jy ks→List V
 | [],_=>[]
 | k::ks,x=>tc k ks x
def yx:(k:LK)→(ks:List LK)→List V→ta k ks
 | k,[],l=>k.dec (V.nth l 0)
 | k,k'::ks,l=>(k.dec (V.nth l 0),yx k' ks l.tail)
def ni:(ks:List LK)→List V→jy ks
 | [],_=>()
 | k::ks,l=>yx k ks l
theorem Pc: ∀(k:LK) (ks:List LK) (x:ta k ks) (r:List V),yx k ks (tc k ks x++r)=x
 | k,[],x,r=>LK.O4 k x
 | k,k'::ks,x,r=>by
  show (k.dec (k.enc x.1),yx k' ks (tc k' ks x.2++r))=x
  rw[LK.O4,Pc k' ks]
  rfl
def vp:List LK→Type 1→Type 1
 | [],R=>R
 | k::ks,R=>k.Ty→vp ks R
def Pd:(k:LK)→(ks:List LK)→{R:Type 1}→vp (k::ks) R→ta k ks→R
 | _,[],_,f,x=>f x
 | _,k'::ks,_,f,x=>Pd k' ks (f x.1) x.2
def td:(ks:List LK)→{R:Type 1}→vp ks R→jy ks→R
 | [],_,f,_=>f
 | k::ks,_,f,x=>Pd k ks f x
def vq {α:Type} (b:Bool):List Bool→List α→List α
 | [],_=>[]
 | _,[]=>[]
 | c::m,x::l=>bif c==b then x::vq b m l else vq b m l
def merge:List Bool→List V→List V→List V
 | [],_,_=>[]
 | true::m,i,x=>V.nth x 0::merge m i x.tail
 | false::m,i,x=>V.nth i 0::merge m i.tail x
def vr:List Nat→List LK→List LK
 | [],_=>[]
 | _,[]=>[]
 | 0::t,k::ks=>k::vr t ks
 | (_+1)::t,_::ks=>vr t ks
abbrev fa:=List Nat × List LK
def fa.fresh (w:fa):List LK:=vr w.1 w.2
def put:List Nat→List V→List V→List V
 | [],_,_=>[]
 | 0::t,ds,x=>V.nth x 0::put t ds x.tail
 | (j+1)::t,ds,x=>V.nth ds j::put t ds x
def te:List Nat→List V→List V
 | [],_=>[]
 | 0::t,l=>V.nth l 0::te t l.tail
 | (_+1)::t,l=>te t l.tail
def ri:fa→List fa→Type
 | w,[]=>jy w.fresh
 | w,w'::ws=>jy w.fresh ⊕ ri w' ws
def pH:List fa→Type
 | []=>Empty
 | w::ws=>ri w ws
def wN (ds:List V) {β:Type} (k:Nat→List V→Option β):Nat→(w:fa)→(ws:List fa)→ri w ws→Option β
 | j,w,[],r=>k j (put w.1 ds (jR w.fresh r))
 | j,w,w'::ws,r=>c8 (fun x=>k j (put w.1 ds (jR w.fresh x))) (fun y=>wN ds k (j+1) w' ws y) r
def wT (ds:List V) {β:Type} (k:Nat→List V→Option β):(ws:List fa)→pH ws→Option β
 | [],r=>Empty.elim r
 | w::ws,r=>wN ds k 0 w ws r
def nj (ds:List V):Nat→(w:fa)→(ws:List fa)→ri w ws→Nat × List V
 | j,w,[],r=>(j,put w.1 ds (jR w.fresh r))
 | j,w,_::_,.inl x=>(j,put w.1 ds (jR w.fresh x))
 | j,_,w'::ws,.inr y=>nj ds (j+1) w' ws y
def vu (ds:List V):(ws:List fa)→pH ws→Nat × List V
 | [],r=>Empty.elim r
 | w::ws,r=>nj ds 0 w ws r
theorem Pe (ds:List V) {β:Type} (k:Nat→List V→Option β): ∀(j:Nat) (w:fa) (ws:List fa) (r:ri w ws),wN ds k j w ws r=k (nj ds j w ws r).1 (nj ds j w ws r).2
 | _,_,[],_=>rfl
 | _,_,_::_,.inl _=>rfl
 | j,_,w'::ws,.inr y=>Pe ds k (j+1) w' ws y
theorem De (ds:List V) {β:Type} (k:Nat→List V→Option β): ∀(ws:List fa) (r:pH ws),wT ds k ws r=k (vu ds ws r).1 (vu ds ws r).2
 | [],r=>Empty.elim r
 | w::ws,r=>Pe ds k 0 w ws r
def vw:Nat→(w:fa)→(ws:List fa)→List V→ri w ws
 | _,w,[],l=>ni w.fresh (te w.1 l)
 | 0,w,_::_,l=> .inl (ni w.fresh (te w.1 l))
 | j+1,_,w'::ws,l=> .inr (vw j w' ws l)
def Pf (j:Nat):(ws:List fa)→List V→Option (pH ws)
 | [],_=>none
 | w::ws,l=>some (vw j w ws l)
def vy:List Nat→List V→List V
 | [],_=>[]
 | 0::t,x=>V.nth x 0::vy t x.tail
 | (_+1)::t,x=>vy t x
theorem HX: ∀(t:List Nat) (ds x:List V),te t (put t ds x)=vy t x
 | [],_,_=>rfl
 | 0::t,ds,x=>congrArg (V.nth x 0:: ·) (HX t ds x.tail)
 | (_+1)::t,ds,x=>HX t ds x
theorem HY: ∀(t:List Nat) (ks:List LK) (k:LK) (om:List LK),vr t ks=k::om→∀x:ta k om,∃r,vy t (tc k om x)=tc k om x++r
 | [],_,_,_,h,_=>by cases h
 | _::_,[],_,_,h,_=>by simp[vr] at h
 | 0::t,a::ks,k,om,h,x=>by
  simp only[vr,List.cons.injEq] at h
  obtain ⟨rfl,h2⟩:=h
  cases om with
  | nil=>exact ⟨vy t [],rfl⟩
  | cons k' om=>
   obtain ⟨r,hr⟩:=HY t ks k' om h2 x.2
   exact ⟨r,congrArg (a.enc x.1:: ·) hr⟩
 | (_+1)::t,a::ks,k,om,h,x=>HY t ks k om h x
theorem Pg (w:fa) (ds:List V) (x:jy w.fresh):ni w.fresh (te w.1 (put w.1 ds (jR w.fresh x)))=x:=by
 rw[HX]
 revert x
 generalize hf:w.fresh=f
 cases f with
 | nil=>intro x;rfl
 | cons k ks=>
  intro x
  obtain ⟨r,hr⟩:=HY w.1 w.2 k ks hf x
  show yx k ks (vy w.1 (tc k ks x))=x
  rw[hr]
  exact Pc k ks x r
theorem Ph (ds:List V): ∀(j:Nat) (w:fa) (ws:List fa) (r:ri w ws),j≤(nj ds j w ws r).1
 | _,_,[],_=>Nat.le_refl _
 | _,_,_::_,.inl _=>Nat.le_refl _
 | j,_,w'::ws,.inr y=>Nat.le_trans (Nat.le_succ j) (Ph ds (j+1) w' ws y)
theorem YX (w:fa) (l:List V): ∀j,vw j w [] l=ni w.fresh (te w.1 l)
 | 0=>rfl
 | _+1=>rfl
theorem Pj (ds:List V): ∀(j:Nat) (w:fa) (ws:List fa) (r:ri w ws),vw ((nj ds j w ws r).1-j) w ws (nj ds j w ws r).2=r
 | j,w,[],r=>(YX w _ _).trans (Pg w ds r)
 | j,w,w'::ws,.inl x=>by
  show vw (j-j) w (w'::ws) (put w.1 ds (jR w.fresh x))= .inl x
  rw[Nat.sub_self]
  exact congrArg Sum.inl (Pg w ds x)
 | j,w,w'::ws,.inr y=>by
  have h1:=Ph ds (j+1) w' ws y
  have h2:=Pj ds (j+1) w' ws y
  show vw ((nj ds (j+1) w' ws y).1-j) w (w'::ws) (nj ds (j+1) w' ws y).2= .inr y
  obtain ⟨d,hd⟩: ∃d,(nj ds (j+1) w' ws y).1=j+1+d:=⟨(nj ds (j+1) w' ws y).1-(j+1),by omega⟩
  rw[hd] at h2⊢
  rw[show j+1+d-(j+1)=d by omega] at h2
  rw[show j+1+d-j=d+1 by omega]
  exact congrArg Sum.inr h2
theorem YY (ds:List V): ∀(ws:List fa) (r:pH ws),Pf (vu ds ws r).1 ws (vu ds ws r).2=some r
 | [],r=>Empty.elim r
 | w::ws,r=>congrArg some (Pj ds 0 w ws r)
section
variable {P:Program} {A:ch} {C:ae} {L:ct} {f n m:Nat}
theorem YZ {c:Code} {S:Shape × List (Out × Shape)} (hS:A.fL f (keyOf c+1)=some S) (hL:gy P A C L f n m c) {I X R:Type} (enc:I→X→List V) (ln:I→R→Nat × List V)
  (oo:List V→I) (pI:List V→X) (Dg:Nat × List V→Option R) (body:I→X→(β:Type)→(X→Option β)→(R→Option β)→Option β)
  (s9: ∀ds,aX S.1 (enc (oo ds) (pI ds))=aX S.1 ds) (HZ: ∀i x,pI (enc i x)=x) (Y0: ∀i r,Dg (ln i r)=some r)
  (e1: ∀i x (β:Type) (k:(List V ⊕ (Nat × List V))→Option β),gx P A C L f n m c (aX S.1 (enc i x)) (fun o st=>(jI m S.1 S.2 (some (o,st))).bind k)=
   body i x β (fun y=>k (.inl (enc i y))) (fun r=>k (.inr (ln i r))))
  (hl: ∀(β:Type) ds (k:Nat→List V→Option β),L β (keyOf c+1) ds k=(Loop (fun x=>body (oo ds) x (X ⊕ R) (fun y=>some (.inl y)) (fun r=>some (.inr r))) (pI ds)).bind fun r=>k (ln (oo ds) r).1 (ln (oo ds) r).2):
  cp P A C L f n m (.loop c):=by
 simp only[cp,hS]
 intro β ds k
 rw[hl]
 have hex: ∀(z:Option (Out × St)),jI m S.1 S.2 z=z.bind fun r=>jI m S.1 S.2 (some (r.1,r.2)):=by
  intro z;cases z<;>rfl
 have hs: ∀i x,stepG P A C f n m S c (enc i x)=(body i x (X ⊕ R) (fun y=>some (.inl y)) (fun r=>some (.inr r))).map fun| .inl y=> .inl (enc i y)| .inr r=> .inr (ln i r):=by
  intro i x
  have k1:=e1 i x _ (fun z=>some z)
  have k2:=e1 i x (X ⊕ R) (fun| .inl ds=>some (.inl (pI ds))| .inr e=>(Dg e).map .inr)
  have k3:=e1 i x (List V ⊕ (Nat × List V)) (fun| .inl ds=>some (.inl (enc i (pI ds)))| .inr e=>(Dg e).map fun r=> .inr (ln i r))
  simp only[HZ,Y0,Option.map_some] at k2 k3
  unfold stepG
  rw[hex]
  rw[BI P A C f n m c hL] at k1 k2 k3
  rw[←k2]
  refine Eq.trans ?_ (k1.trans (k3.symm.trans ?_))
  ·congr 1
   funext r
   cases jI m S.1 S.2 (some (r.1,r.2))<;>rfl
  ·cases exec P A C f n m c (aX S.1 (enc i x)) with
   | none=>rfl
   | some r=>
    simp only[Option.bind_some]
    cases jI m S.1 S.2 (some (r.1,r.2)) with
    | none=>rfl
    | some z=>
     cases z with
     | inl _=>rfl
     | inr e=>simp only[Option.bind_some];cases Dg e<;>rfl
 have h0:stepG P A C f n m S c ds=stepG P A C f n m S c (enc (oo ds) (pI ds)):=by
  unfold stepG
  rw[s9]
 have:Loop (stepG P A C f n m S c) ds=(Loop (fun x=>body (oo ds) x (X ⊕ R) (fun y=>some (.inl y)) (fun r=>some (.inr r))) (pI ds)).map (ln (oo ds)):=by
  rw[Bn,h0,←Bn]
  exact Vh (enc (oo ds)) (ln (oo ds)) (fun x=>hs _ _) (pI ds)
 rw[this]
 cases Loop (fun x=>body (oo ds) x (X ⊕ R) (fun y=>some (.inl y)) (fun r=>some (.inr r))) (pI ds)<;>rfl
abbrev yz (S:Shape) (mk:List Bool):List LK:=vq false mk S.ks
abbrev tf (S:Shape) (mk:List Bool):List LK:=vq true mk S.ks
def pJ (ts:List (List Nat)) (W:List (Out × Shape)):List fa:=
 match ts,W with
 | t::ts,w::W=>(t,w.2.ks)::pJ ts W
 | _,_=>[]
abbrev yA (S:Shape) (mk:List Bool) (i:jy (yz S mk)) (x:jy (tf S mk)):List V:=merge mk (jR _ i) (jR _ x)
abbrev H0 (S:Shape) (mk:List Bool) (i:jy (yz S mk)):List V:=merge mk (jR _ i) []
abbrev Dh (S:Shape) (mk:List Bool) (ds:List V):jy (yz S mk):=ni _ (vq false mk (S.norm ds))
abbrev Di (S:Shape) (mk:List Bool) (ds:List V):jy (tf S mk):=ni _ (vq true mk (S.norm ds))
abbrev Pk (X R:Type):Type 1:=(β:Type)→(X→Option β)→(R→Option β)→Option β
abbrev H2 (S:Shape × List (Out × Shape)) (mk:List Bool) (ts:List (List Nat)):Type 1:=vp (yz S.1 mk) (vp (tf S.1 mk) (Pk (jy (tf S.1 mk)) (pH (pJ ts S.2))))
abbrev H3 (S:Shape × List (Out × Shape)) (mk:List Bool) (ts:List (List Nat)) (b:H2 S mk ts) (i:jy (yz S.1 mk)) (x:jy (tf S.1 mk)):Pk (jy (tf S.1 mk)) (pH (pJ ts S.2)):=td _ (td _ b i) x
noncomputable def bB (S:Shape × List (Out × Shape)) (mk:List Bool) (ts:List (List Nat)) (b:H2 S mk ts) {β:Type} (ds:List V) (k:Nat→List V→Option β):Option β:=
 (Loop (fun x=>H3 S mk ts b (Dh S.1 mk ds) x (jy (tf S.1 mk) ⊕ pH (pJ ts S.2)) (fun y=>some (.inl y)) (fun r=>some (.inr r))) (Di S.1 mk ds)).bind (wT (H0 S.1 mk (Dh S.1 mk ds)) k (pJ ts S.2))
theorem bE {c:Code} (S:Shape × List (Out × Shape)) (mk:List Bool) (ts:List (List Nat)) (b:H2 S mk ts) (hS:A.fL f (keyOf c+1)=some S) (hL:gy P A C L f n m c)
  (s9: ∀ds,aX S.1 (yA S.1 mk (Dh S.1 mk ds) (Di S.1 mk ds))=aX S.1 ds) (HZ: ∀i x,Di S.1 mk (yA S.1 mk i x)=x)
  (e1: ∀i x (β:Type) (k:(List V ⊕ (Nat × List V))→Option β),gx P A C L f n m c (aX S.1 (yA S.1 mk i x)) (fun o st=>(jI m S.1 S.2 (some (o,st))).bind k)=
   H3 S mk ts b i x β (fun y=>k (.inl (yA S.1 mk i y))) (wT (H0 S.1 mk i) (fun j l=>k (.inr (j,l))) (pJ ts S.2)))
  (hl: ∀(β:Type) ds (k:Nat→List V→Option β),L β (keyOf c+1) ds k=bB S mk ts b ds k):
  cp P A C L f n m (.loop c):=
 YZ hS hL (yA S.1 mk) (fun i r=>vu (H0 S.1 mk i) _ r) (Dh S.1 mk) (Di S.1 mk) (fun e=>Pf e.1 _ e.2) (H3 S mk ts b) s9 HZ (fun i r=>YY _ _ r)
  (fun i x β k=>by
   rw[e1]
   congr 1
   funext r
   exact De _ _ _ r)
  (fun β ds k=>by
   rw[hl]
   unfold bB
   congr 1
   funext r
   exact De _ _ _ r)
abbrev Pl (S:Shape × List (Out × Shape)) (ts:List (List Nat)):Type 1:=vp S.1.ks ((β:Type)→(pH (pJ ts S.2)→Option β)→Option β)
noncomputable def mi (S:Shape × List (Out × Shape)) (ts:List (List Nat)) (b:Pl S ts) {β:Type} (ds:List V) (k:Nat→List V→Option β):Option β:=
 td S.1.ks b (ni _ (S.1.norm ds)) β (wT (jR S.1.ks (ni _ (S.1.norm ds))) k (pJ ts S.2))
theorem nk {t:Nat} {x y:Code} (S:Shape × List (Out × Shape)) (ts:List (List Nat)) (b:Pl S ts) (hS:A.fL f (t*16+15)=some S) (hx:gy P A C L f n m x) (hy:gy P A C L f n m y)
  (s9: ∀ds,aX S.1 (jR S.1.ks (ni _ (S.1.norm ds)))=aX S.1 ds)
  (e1: ∀i (β:Type) (k:Nat→List V→Option β),HT P A C L f n m t S x y (jR S.1.ks i) k=td S.1.ks b i β (wT (jR S.1.ks i) k (pJ ts S.2)))
  (hl: ∀(β:Type) ds (k:Nat→List V→Option β),L β (t*16+15) ds k=mi S ts b ds k):
  cp P A C L f n m (.cond t x y):=
 YT hS hx hy (jR S.1.ks) (fun i r=>vu (jR S.1.ks i) _ r) (fun ds=>ni _ (S.1.norm ds)) (td S.1.ks b) s9
  (fun i β k=>by
   rw[e1]
   exact congrArg (td S.1.ks b i β) (funext fun r=>De _ _ _ r))
  (fun β ds k=>by
   rw[hl]
   exact congrArg (td S.1.ks b (ni _ (S.1.norm ds)) β) (funext fun r=>De _ _ _ r))
end
def cR:ct:=fun _ _ _ _=>none
end Go.AM
