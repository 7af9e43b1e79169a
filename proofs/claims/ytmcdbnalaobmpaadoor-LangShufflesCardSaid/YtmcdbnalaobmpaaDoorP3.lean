/-
  Functions of uC program, lifted to plain data.
-/
import Derived.Conc.MuLone
import Derived.Defers
import Derived.Carry
import Derived.OpenShut
import Derived.Deep.Slices
import Derived.Test.YtmcdbnalaobmpaaDoorP2
set_option linter.unusedVariables false
set_option linter.unusedSimpArgs false
namespace Go.AM
section
variable {P:Program} {A:cB} {w w':World} {I I' I2:Nat→Prop} {μ β au bX:Nat→Option Nat} {hp hp' hp0 bx:Nat→Option aj} {C:af} {B:Nat} {M:Nat→Prop} {w0:Start}
structure kb (w:World) (I:Nat→Prop) (β:Nat→Option Nat) (hp:Nat→Option aj) (w':World) (I':Nat→Prop) (au:Nat→Option Nat) (hp':Nat→Option aj):Prop where
 dr: ∀b,I b→I' b
 b8: ∀b,I b→w'.heap[b]? =w.heap[b]?
 blk: ∀id blk,hp id=some blk→∃blk',hp' id=some blk'∧blk.le blk'∧(blk'≠ .dead→au id=β id)
 size: ∀id blk blk' b,hp id=some blk→hp' id=some blk'→blk'≠ .dead→β id=some b→bsize w' b=bsize w b
theorem Le.Dd (h:Le P w I β hp w' I' au hp'):kb w I β hp w' I' au hp':=⟨h.dr,h.b8,h.blk,h.size⟩
theorem kb.trans {xz:World} {xA:Nat→Prop} {xB:Nat→Option Nat} {xC:Nat→Option aj} (h1:kb w I β hp w' I' au hp') (h2:kb w' I' au hp' xz xA xB xC):kb w I β hp xz xA xB xC:=by
 refine ⟨fun b h=>h2.dr b (h1.dr b h),fun b h=>(h2.b8 b (h1.dr b h)).trans (h1.b8 b h),fun id blk h=> ?_,fun id blk sF b h rf hd hb=> ?_⟩
 ·obtain ⟨blk',e',l',b'⟩:=h1.blk id blk h
  obtain ⟨sF,dJ,xD,GN⟩:=h2.blk id blk' e'
  refine ⟨sF,dJ,aj.le_trans l' xD,fun hd=> ?_⟩
  have eM:blk'≠ .dead:=fun e=>hd (aj.oE (e▸xD))
  exact (GN hd).trans (b' eM)
 ·obtain ⟨blk',e',l',b'⟩:=h1.blk id blk h
  obtain ⟨gx,e3,l3,b3⟩:=h2.blk id blk' e'
  obtain rfl:gx=sF:=by rw[e3] at rf;exact Option.some.inj rf
  have eM:blk'≠ .dead:=fun e=>hd (aj.oE (e▸l3))
  rw[h2.size id blk' gx b e' e3 hd ((b' eM).trans hb),h1.size id blk blk' b h e' eM hb]
def nO (P:Program) (w:World) (μ:Nat→Option Nat) (hp0:Nat→Option aj) (b:Nat):Prop:= ∃j blk,hp0 j=some blk∧bA P w (μ j) blk b
structure X9 (P:Program) (A:cB) (key:Nat) (w:World) (I:Nat→Prop) (μ:Nat→Option Nat) (ds es:List V) (w':World) (v:Value) (I2:Nat→Prop) (bX:Nat→Option Nat):Prop where
 vq:aE P w' I2 bX (bq (A.so key es) (A.lv key es)).hp w.heap.size (nO P w μ (bq (A.sin key) ds).hp) ⟨w,I⟩
 le:kb w I μ (bq (A.sin key) ds).hp w' I2 bX (bq (A.so key es) (A.lv key es)).hp
 res:an P w' I2 bX (bq (A.so key es) (A.lv key es)).hp v (oC (fc (A.so key es).bI (A.lv key es)))
def kf (P:Program) (A:cB) (C:af):Prop:=
 ∀key ds es,C key ds=some es→∃fn c,P.funcs[A.aW key]? =some fn∧fn.body=some c∧
  ∀(w:World) (I:Nat→Prop) (μ:Nat→Option Nat) (vals:List Value),
   sE P w I μ (bq (A.sin key) ds).hp w.heap.size (nO P w μ (bq (A.sin key) ds).hp)→gy P A.aD w I→
   vals.length=(A.sin key).bI.length→(∀(j:Nat) v x,vals[j]? =some v→(fp ((A.sin key).bI.map (·.2)) ds)[j]? =some x→an P w I μ (bq (A.sin key) ds).hp v x)→
   Calls P (A.aW key) vals.toArray w fun e w'=> ∃v I2 bX,e= .returned v∧X9 P A key w I μ ds es w' v I2 bX
theorem dY.te {p:Place} {o:Option Nat} {blk:aj} {b:Nat} (h:dY P w β hp p o blk) (ho:bA P w o blk b):
  ∃pX,hp p.id=some pX∧bA P w (β p.id) pX b∧∀e es,pX≠ .arr e es true:=by
 cases h with
 | var h=>exact ⟨_,h,.root (by simp) (ho.flat (by simp)),by simp⟩
 | arr h=>exact ⟨_,h,.root (by simp) (ho.flat (by simp)),by simp⟩
 | map h=>exact ⟨_,h,.root (by simp) (ho.flat (by simp)),by simp⟩
 | nest h=>
  refine ⟨_,h,?_,by simp⟩
  cases ho with
  | root _ hb=>exact .root (by simp) hb
  | row hb ha=>exact .row hb ha
 | row h hb ha _ _ _ _ _=>
  have:=ho.flat (by simp)
  cases this
  exact ⟨_,h,.row hb ha,by simp⟩
theorem aE.Ya (S:aE P w I β hp B M w0) {id b:Nat} {blk:aj} (ae:hp id=some blk) (ho:bA P w (β id) blk b) (hf: ∀e es,blk≠ .arr e es true): ¬I b:=by
 have hr:=S.h.rel id blk ae
 generalize β id=o at hr ho
 cases hr with
 | var hb _ _ hI _ _=>have:=ho.flat (by simp);rw[hb] at this;cases this;exact hI
 | dM hb=>have:=ho.flat (by simp);rw[hb] at this;cases this
 | @arr e es fz _ _ _ hb _ _ _ ee _=>
  have:=ho.flat (by simp)
  rw[hb] at this;cases this
  cases fz with
  | true=>exact absurd rfl (hf e es)
  | false=>exact ee rfl
 | dead=>exact absurd rfl ho.alive
 | map _ hb _ _ hI _ _=>have:=ho.flat (by simp);rw[hb] at this;cases this;exact hI
 | nest hb hr _=>
  cases ho with
  | root _ az=>rw[hb] at az;cases az;exact (hr _ _ _ _ .here).nI
  | row az ha=>rw[hb] at az;cases az;exact (hr _ _ _ _ ha).nI
theorem De {a b:List Nat} (h:uI a b=false) {x:Nat} (ha:x∈a):x∉b:=by
 intro hb
 unfold uI at h
 rw[List.any_eq_false] at h
 exact h x ha (u9 hb)
theorem Yb (S:aE P w I β hp B M w0) {pl:List Place} {upd:List (Nat × aj)} {o:Nat→Option Nat} (jK:(pl.map Place.id).Nodup) (nP:uI (upd.map (·.1)) (pl.map Place.id)=false)
  (hl: ∀j blk,hp0 j=some blk→∃p,eb pl j=some p∧dY P w β hp p (o j) blk)
  (cD:(∀j blk,hp0 j=some blk→∀b,bA P w (o j) blk b→¬im P w I β hp upd b)→∀j blk,hp0 j=some blk→dW P w (im P w I β hp upd) o hp0 (o j) blk) (aR: ∀b,im P w I β hp upd b→b<w.heap.size):
  sE P w (im P w I β hp upd) o hp0 w.heap.size (nO P w o hp0):=by
 have cO: ∀j blk,hp0 j=some blk→∀b,bA P w (o j) blk b→¬im P w I β hp upd b:=by
  intro j blk hj b ho hI
  obtain ⟨p,bx,gz⟩:=hl j blk hj
  obtain ⟨pX,k1,k2,k3⟩:=gz.te ho
  rcases hI with hI|⟨q,hq,bW,q1,q2⟩
  ·exact S.Ya k1 k2 k3 hI
  ·have:=S.h.inj _ _ _ _ b q1 k1 q2 k2
   refine De nP (List.mem_map.2 ⟨q,hq,rfl⟩) ?_
   rw[this]
   rw[kO] at bx
   exact List.mem_map.2 ⟨p,List.mem_of_getElem? bx,rfl⟩
 refine ⟨cD cO,fun j1 j2 b1 b2 b h1 h2 o1 o2=> ?_,fun j blk b h1 o1=> .inl ⟨j,blk,h1,o1⟩,aR⟩
 obtain ⟨p1,q1,q2⟩:=hl j1 b1 h1
 obtain ⟨p2,r1,r2⟩:=hl j2 b2 h2
 obtain ⟨c1,x1,x2,_⟩:=q2.te o1
 obtain ⟨c2,y1,y2,_⟩:=r2.te o2
 have ae:=S.h.inj _ _ _ _ b x1 y1 x2 y2
 rw[kO] at q1 r1
 have m1:(pl.map Place.id)[j1]? =some p1.id:=by rw[List.getElem?_map,q1];rfl
 have m2:(pl.map Place.id)[j2]? =some p2.id:=by rw[List.getElem?_map,r1];rfl
 rw[←ae] at m2
 obtain ⟨z1,z2⟩:=List.getElem?_eq_some_iff.1 m1
 obtain ⟨z3,z4⟩:=List.getElem?_eq_some_iff.1 m2
 exact (List.getElem_inj jK).1 (z2.trans z4.symm)
def Oo:V→Prop
 | .list .. =>False
 | .pref .. =>False
 | .agg _=>False
 | .bh _=>False
 | .fn .. =>False
 | _=>True
theorem an.free {v:Value} {x:V} (h:an P w I β hp v x) (hx:Oo x):an P w I' β hp v x:=by
 cases h with
 | undef=>exact .undef
 | int=>exact .int
 | bool=>exact .bool
 | str h=>exact .str h
 | list h=>exact hx.elim
 | nilS=>exact .nilS
 | agg=>exact hx.elim
 | bh=>exact hx.elim
 | dx=>exact .dx
 | fn=>exact hx.elim
 | pref=>exact hx.elim
 | ed h=>exact .ed h
 | fV h=>exact .fV h
 | jD h=>exact .jD h
 | dL h hb=>exact .dL h hb
 | whole h hb a b c=>exact .whole h hb a b c
 | eu h hb a b c=>exact .eu h hb a b c
 | fI h hb=>exact .fI h hb
 | sub h hb a b c=>exact .sub h hb a b c
 | ptr h hd hb=>exact .ptr h hd hb
 | iZ h pS=>exact .iZ h pS
 | ja h pS=>exact .ja h pS
 | row h hb a b c d=>exact .row h hb a b c d
 | cA h hb a b c d e=>exact .cA h hb a b c d e
 | dy=>exact .dy
 | gS h=>exact .gS h
 | bC h hb=>exact .bC h hb
theorem yl {l:LS} {ds:List V} (hs:l.safe=true):Oo (ig l ds):=by
 cases l<;>simp only[LS.safe] at hs<;>first|(cases hs;done)|trivial
theorem ym: ∀{ls:List LS} {ds:List V} {j:Nat} {y:V},(gL ls ds)[j]? =some y→∃l fh,l∈ls∧y=ig l fh
 | [],ds,j,y,h=>by simp[gL] at h
 | l::ls,ds,j,y,h=>by
  simp only[gL] at h
  cases j with
  | zero=>simp at h;exact ⟨l,ds,List.mem_cons_self ..,h.symm⟩
  | succ j=>
   obtain ⟨l',fh,h1,h2⟩:=ym (j:=j) (by simpa using h)
   exact ⟨l',fh,List.mem_cons_of_mem _ h1,h2⟩
theorem Oq: ∀{ls:List VS} {ds:List V} {j:Nat} {y:V},(fp ls ds)[j]? =some y→∃l fh,l∈ls∧y=jZ l fh
 | [],ds,j,y,h=>by simp[fp] at h
 | l::ls,ds,j,y,h=>by
  simp only[fp] at h
  cases j with
  | zero=>simp at h;exact ⟨l,ds,List.mem_cons_self ..,h.symm⟩
  | succ j=>
   obtain ⟨l',fh,h1,h2⟩:=Oq (j:=j) (by simpa using h)
   exact ⟨l',fh,List.mem_cons_of_mem _ h1,h2⟩
theorem Ot {s:VS} {ds:List V} {v:Value} (h:an P w I β hp v (jZ s ds)) (hs:s.safe=true):an P w I' β hp v (jZ s ds):=by
 cases s with
 | one l=>exact h.free (yl hs)
 | agg ls=>
  simp only[jZ] at h⊢
  obtain ⟨cs,rfl,e1,e2⟩:=h.j7
  refine .agg e1 fun j v x hj hx=> ?_
  obtain ⟨l,fh,k1,rfl⟩:=ym hx
  exact (e2 j v _ hj hx).free (yl (List.all_eq_true.1 hs l k1))
 | bh ls=>
  simp only[jZ] at h⊢
  obtain ⟨cs,rfl,e1,e2⟩:=h.sM
  refine .bh e1 fun j v x hj hx=> ?_
  obtain ⟨l,fh,k1,rfl⟩:=ym hx
  exact (e2 j v _ hj hx).free (yl (List.all_eq_true.1 hs l k1))
 | fn f a b=>
  simp only[VS.safe,Bool.and_eq_true] at hs
  simp only[jZ] at h⊢
  cases h with
  | fn a1 a2 b1 b2=>
   refine .fn a1 (fun j v x hj hx=> ?_) b1 (fun j v x hj hx=> ?_)
   ·obtain ⟨l,fh,k1,rfl⟩:=ym hx
    exact (a2 j v _ hj hx).free (yl (List.all_eq_true.1 hs.1 l k1))
   ·obtain ⟨l,fh,k1,rfl⟩:=ym hx
    exact (b2 j v _ hj hx).free (yl (List.all_eq_true.1 hs.2 l k1))
 | pref ts ls=>cases hs
theorem Pure.scalar {t:TypeId} {v:Value} {x:V} (h:Pure P w I t v x) (hn: ∀e,P.underlying t≠some (.slice e)):Pure P w I' t v x:=by
 cases h with
 | int h=>exact .int h
 | bool h=>exact .bool h
 | str h hl=>exact .str h hl
 | nil h=>exact absurd h (hn _)
 | emp h=>exact absurd h (hn _)
 | list g h=>exact absurd h (hn _)
theorem Yc {e t:TypeId} {j:Nat} (h:xi P e=true) (ht:(aU P e)[j]? =some t) (e':TypeId):P.underlying t≠some (.slice e'):=by
 intro hu
 have h2:=List.all_eq_true.1 h t (List.mem_of_getElem? ht)
 rw[hu] at h2
 cases h2
theorem Yd {o:Option Nat} {b:BS} {ds:List V} (h:dW P w I2 β hp o (fE b ds)) (hs:b.safe P=true) (hi: ∀b,I b→I2 b):dW P w I β hp o (fE b ds):=by
 cases b with
 | dead=>exact .dead
 | var T0 ls=>
  simp only[fE] at h⊢
  cases h with
  | var hb hh aZ hI hx fX=>
   refine .var hb hh aZ (fun h=>hI (hi _ h)) (fun j v x hj cw=> ?_) fX
   obtain ⟨l,fh,k1,rfl⟩:=Oq cw
   exact Ot (hx j v _ hj cw) (List.all_eq_true.1 hs l k1)
 | arr e fz=>
  simp only[BS.safe,Bool.and_eq_true,Bool.not_eq_true'] at hs
  obtain ⟨rfl,yk⟩:=hs
  simp only[fE] at h⊢
  generalize (V.nth ds 0).toList=es at h⊢
  cases h with
  | dM hb=>exact .dM hb
  | arr a1 a2 a3 a4 a5 a6 a7=>
   refine .arr a1 a2 a3 a4 (fun h=>by cases h) (fun _ h=>a6 rfl (hi _ h)) fun i j x t' y1 y2 y3=> ?_
   obtain ⟨v,z1,z2⟩:=a7 i j x t' y1 y2 y3
   exact ⟨v,z1,z2.scalar (Yc yk y2)⟩
 | nest e=>
  simp only[fE] at h⊢
  generalize (V.nth ds 0).toList=es at h⊢
  cases h with
  | nest hb cg nF=>
   refine .nest hb (fun q b' e1 m1 hq=> ?_) nF
   obtain ⟨ok,⟨Ca,c1,c2,c3⟩,nI⟩:=cg q b' e1 m1 hq
   refine ⟨ok,⟨Ca,c1,c2,fun i j x t' y1 y2 y3=> ?_⟩,fun h=>nI (hi _ h)⟩
   obtain ⟨v,z1,z2⟩:=c3 i j x t' y1 y2 y3
   refine ⟨v,z1,?_⟩
   generalize bJ P e1 x j=y at z2⊢
   cases z2 with
   | fH a p=>
    refine .fH a (p.scalar fun e hu=> ?_)
    unfold fD at a
    rw[hu] at a
    cases a
   | emp a b=>exact .emp a b
   | row a b c d e=>exact .row a b c d e
 | map t=>
  simp only[fE] at h⊢
  cases h with
  | map a1 a2 a3 a4 a5 a6 a7=>exact .map a1 a2 a3 a4 (fun h=>a5 (hi _ h)) a6 a7
theorem HT: ∀{l:List BS} {ds:List V} {j:Nat} {y:aj},(eK l ds)[j]? =some y→∃b fh,l[j]? =some b∧y=fE b fh
 | [],ds,j,y,h=>by simp[eK] at h
 | b::l,ds,j,y,h=>by
  simp only[eK] at h
  cases j with
  | zero=>simp at h;exact ⟨b,ds,rfl,h.symm⟩
  | succ j=>
   obtain ⟨b',fh,h1,h2⟩:=HT (j:=j) (by simpa using h)
   exact ⟨b',fh,by simpa using h1,h2⟩
theorem Ou: ∀{l:List (Nat × VS)} {ds:List V} {q:Nat × V},q∈fc l ds→∃s fh,(q.1,s)∈l∧q.2=jZ s fh
 | [],ds,q,h=>by simp[fc] at h
 | (k,s)::l,ds,q,h=>by
  simp only[fc,List.mem_cons] at h
  rcases h with h|h
  ·subst h;exact ⟨s,ds,List.mem_cons_self ..,rfl⟩
  ·obtain ⟨s',fh,h1,h2⟩:=Ou h
   exact ⟨s',fh,List.mem_cons_of_mem _ h1,h2⟩
theorem Ye {S:Shape} {es:List V} (hs:S.safe P=true) (hi: ∀b,I b→I2 b) {N:Nat→Prop} {st:Start} (h:aE P w' I2 bX (bq S es).hp B N st) (h0: ∀b,I b→st.I b):
  aE P w' I bX (bq S es).hp B N st∧∀v,an P w' I2 bX (bq S es).hp v (oC (fc S.bI es))→an P w' I bX (bq S es).hp v (oC (fc S.bI es)):=by
 unfold Shape.safe at hs
 simp only[Bool.and_eq_true] at hs
 obtain ⟨jd,ji⟩:=hs
 have one: ∀q∈fc S.bI es,∀v,an P w' I2 bX (bq S es).hp v q.2→an P w' I bX (bq S es).hp v q.2:=by
  intro q hq v hv
  obtain ⟨s,fh,k1,k2⟩:=Ou hq
  rw[k2] at hv⊢
  exact Ot hv (List.all_eq_true.1 jd _ k1)
 refine ⟨⟨⟨fun j blk hj=> ?_,h.h.inj,h.h.own,fun b hb=>h.h.jb b (hi b hb)⟩,h.b8,h.size,fun b hb=> .inl (h0 b hb),h.io⟩,fun v hv=> ?_⟩
 ·have hr:=h.h.rel j blk hj
  have gj:=hj
  simp only[bq,mk,gD] at gj
  obtain ⟨b,fh,k1,rfl⟩:=HT gj
  exact Yd hr (List.all_eq_true.1 ji _ (List.mem_of_getElem? k1)) hi
 ·generalize fc S.bI es=l at one hv⊢
  match l,one,hv with
  | [],_,hv=>
   simp only[oC,List.map_nil] at hv⊢
   obtain ⟨cs,rfl,e1,e2⟩:=hv.sM
   exact .bh e1 fun j v x _ hx=>by simp at hx
  | [q],one,hv=>exact one q (List.mem_singleton.2 rfl) v hv
  | q::q2::l,one,hv=>
   simp only[oC] at hv⊢
   obtain ⟨cs,rfl,e1,e2⟩:=hv.sM
   refine .bh e1 fun j v x hj hx=> ?_
   obtain ⟨y,hy,rfl⟩:=List.mem_map.1 (List.mem_of_getElem? hx)
   exact one y hy v (e2 j v _ hj hx)
end
end Go.AM
namespace Go.AM
section
variable {P:Program} {A:cB} {w w':World} {I I' I2:Nat→Prop} {μ β au bX:Nat→Option Nat} {hp hp' hp0 bx:Nat→Option aj} {C:af} {B:Nat} {M:Nat→Prop} {w0:Start}
inductive ga (σ:List Place):aj→aj→Prop
 | dead:ga σ .dead .dead
 | var {T:TypeId} {cs:List V}:ga σ (.var T cs) (.var T (cs.map (Cf σ)))
 | arr {e:TypeId} {es:List V} {fz:Bool}:ga σ (.arr e es fz) (.arr e es fz)
 | nest {e:TypeId} {es:List V} {v1 v2:List Nat}:ga σ (.nest e es v1) (.nest e es v2)
 | map {t:TypeId} {es:List V}:ga σ (.map t es) (.map t es)
theorem ga.of (σ:List Place) (b:aj):ga σ b (sw σ b):=by
 cases b with
 | dead=>exact .dead
 | var T cs=>exact .var
 | arr e es fz=>exact .arr
 | nest e es v=>exact .nest
 | map t es=>exact .map
theorem Ov {σ:List Place}: ∀{pl:List Place} {bs:List aj} {acc:List (Nat × aj)} {k:List (Nat × aj)→Rd R} {r:R} {rd:List Nat},(pA σ pl bs acc k).run C hp=some (r,rd)→
  pl.length≤bs.length∧∃bk eW,(k bk).run C hp=some (r,eW)∧(∀q∈bk,q∈acc∨∃(j:Nat) (b:aj),pl[j]? =some (.blk q.1)∧bs[j]? =some b∧ga σ b q.2∧((∃e es v2,q.2= .nest e es v2)→∃e es ao e' aI,hp q.1=some (.nest e es ao)∧q.2= .nest e' aI (ao.map (· +1))))∧
   (∀q∈acc,q∈bk)∧∀(j:Nat) p,pl[j]? =some p→∃id b,p= .blk id∧(id,b)∈bk
 | [],bs,acc,k,r,rd,h=>⟨Nat.zero_le _,acc,rd,by simpa only[pA] using h,fun q hq=> .inl hq,fun q hq=>hq,fun j p hp=>by simp at hp⟩
 | .row _ _ _::pl,bs,acc,k,r,rd,h=>by
  cases bs<;>(simp only[pA] at h;cases h)
 | .blk id::pl,[],acc,k,r,rd,h=>by simp only[pA] at h;cases h
 | .blk id::pl,b::bs,acc,k,r,rd,h=>by
  have fin: ∀{b2:aj} {iQ:List Nat},(pA σ pl bs ((id,b2)::acc) k).run C hp=some (r,iQ)→ga σ b b2→((∃e es v2,b2= .nest e es v2)→∃e es ao e' aI,hp id=some (.nest e es ao)∧b2= .nest e' aI (ao.map (· +1)))→
    (Place.blk id::pl).length≤(b::bs).length∧∃bk eW,(k bk).run C hp=some (r,eW)∧(∀q∈bk,q∈acc∨∃(j:Nat) (b':aj),(Place.blk id::pl)[j]? =some (.blk q.1)∧(b::bs)[j]? =some b'∧ga σ b' q.2∧((∃e es v2,q.2= .nest e es v2)→∃e es ao e' aI,hp q.1=some (.nest e es ao)∧q.2= .nest e' aI (ao.map (· +1))))∧
     (∀q∈acc,q∈bk)∧∀(j:Nat) p,(Place.blk id::pl)[j]? =some p→∃id b,p= .blk id∧(id,b)∈bk:=by
   intro b2 iQ h1 hb hn
   obtain ⟨a0,bk,eW,a1,a2,a3,a4⟩:=Ov h1
   refine ⟨by simp only[List.length_cons];omega,bk,eW,a1,fun q hq=> ?_,fun q hq=>a3 q (List.mem_cons_of_mem _ hq),fun j p hj=> ?_⟩
   ·rcases a2 q hq with h|⟨j,b',k1,k2,k3,k4⟩
    ·rcases List.mem_cons.1 h with e|h
     ·subst e;exact .inr ⟨0,b,rfl,rfl,hb,hn⟩
     ·exact .inl h
    ·exact .inr ⟨j+1,b',by simpa using k1,by simpa using k2,k3,k4⟩
   ·cases j with
    | zero=>simp at hj;subst hj;exact ⟨id,b2,rfl,a3 _ (List.mem_cons_self ..)⟩
    | succ j=>exact a4 j p (by simpa using hj)
  cases b with
  | nest e es v=>
   simp only[pA] at h
   obtain ⟨l,h⟩:=run_get h
   cases ae:hp id with
   | none=>rw[ae] at h;cases h
   | some blk=>
    rw[ae] at h
    cases blk with
    | nest e0 GO ao=>exact fin h .nest fun _=>⟨e0,GO,ao,e,es,ae,rfl⟩
    | _=>cases h
  | dead=>exact fin h (.of σ _) fun ⟨_,_,_,h⟩=>by cases h
  | var T cs=>exact fin h (.of σ _) fun ⟨_,_,_,h⟩=>by cases h
  | arr e es fz=>exact fin h (.of σ _) fun ⟨_,_,_,h⟩=>by cases h
  | map t es=>exact fin h (.of σ _) fun ⟨_,_,_,h⟩=>by cases h
theorem Ow {σ:List Place}: ∀{bs:List aj} {n:Nat} {q:Nat × aj},q∈pB σ n bs→∃i b,bs[i]? =some b∧q=(n+i,sw σ b)
 | [],n,q,h=>by simp[pB] at h
 | b::bs,n,q,h=>by
  simp only[pB,List.mem_cons] at h
  rcases h with h|h
  ·exact ⟨0,b,rfl,h⟩
  ·obtain ⟨i,b',h1,h2⟩:=Ow h
   exact ⟨i+1,b',by simpa using h1,by rw[h2];congr 1;omega⟩
theorem Ox {σ:List Place}: ∀{bs:List aj} {n i:Nat} {b:aj},bs[i]? =some b→(n+i,sw σ b)∈pB σ n bs
 | [],n,i,b,h=>by simp at h
 | b0::bs,n,i,b,h=>by
  simp only[pB,List.mem_cons]
  cases i with
  | zero=>simp at h;subst h;exact .inl rfl
  | succ i=>exact .inr (by rw[show n+(i+1)=n+1+i by omega];exact Ox (by simpa using h))
theorem Dg: ∀{k n i:Nat},i<k→(ra n k)[i]? =some (.blk (n+i))
 | 0,n,i,h=>by omega
 | k+1,n,0,h=>rfl
 | k+1,n,i+1,h=>by
  simp only[ra,List.getElem?_cons_succ]
  rw[Dg (by omega)]
  congr 2
  omega
theorem HU: ∀{k n:Nat},(ra n k).length=k
 | 0,_=>rfl
 | k+1,n=>by simp[ra,HU]
theorem Oy: ∀{bs:List (Nat × aj)} {k:Rd R} {r:R} {rd:List Nat},(Cg bs k).run C hp=some (r,rd)→(∀q∈bs,hp q.1=none)∧∃eW,k.run C hp=some (r,eW)
 | [],k,r,rd,h=>⟨by simp,rd,h⟩
 | (id,b)::l,k,r,rd,h=>by
  simp only[Cg] at h
  obtain ⟨l1,h⟩:=run_get h
  cases ae:hp id with
  | some blk=>rw[ae] at h;cases h
  | none=>
   rw[ae] at h
   obtain ⟨h1,h2⟩:=Oy h
   refine ⟨fun q hq=> ?_,h2⟩
   rcases List.mem_cons.1 hq with e|hq
   ·subst e;exact ae
   ·exact h1 q hq
structure oR (σ:List Place) (bX:Nat→Option Nat) (bx:Nat→Option aj) (au:Nat→Option Nat) (hp':Nat→Option aj):Prop where
 blk: ∀j b,bx j=some b→∃id b',eb σ j=some (.blk id)∧hp' id=some b'∧ga σ b b'∧(b≠ .dead→au id=bX j)
 none: ∀j,bx j=none→eb σ j=none
 aic: ∀j id ver path,eb σ j≠some (.row id ver path)
theorem oR.leaf {σ:List Place} (T:oR σ bX bx au hp') {v:Value} {x:V} (h:an P w I bX bx v x):an P w I au hp' v (jA σ x):=by
 have look: ∀{j b},bx j=some b→∃id b',eb σ j=some (.blk id)∧hp' id=some b'∧ga σ b b'∧(b≠ .dead→au id=bX j):=fun h=>T.blk _ _ h
 cases h with
 | undef=>exact .undef
 | int=>exact .int
 | bool=>exact .bool
 | str h=>exact .str h
 | list h=>exact .list h
 | nilS=>exact .nilS
 | agg=>exact .undef
 | bh=>exact .undef
 | dx=>exact .dx
 | fn=>exact .undef
 | pref a b c=>exact .pref a b c
 | @ed _ e j h=>
  obtain ⟨id,b',k1,k2,k3,k4⟩:=look h
  simp only[jA,k1]
  cases k3
  exact .ed k2
 | @fV _ e j _ _ h=>
  obtain ⟨id,b',k1,k2,k3,k4⟩:=look h
  simp only[jA,k1]
  cases k3
  exact .fV k2
 | @jD _ j _ _ h=>
  obtain ⟨id,b',k1,k2,k3,k4⟩:=look h
  simp only[jA,k1]
  cases k3
  exact .jD k2
 | @dL e j fz _ h hb=>
  obtain ⟨id,b',k1,k2,k3,k4⟩:=look h
  simp only[jA,k1]
  cases k3
  exact .dL k2 ((k4 (by simp)).trans hb)
 | @whole e j es fz b cap h hb a1 a2 a3=>
  obtain ⟨id,b',k1,k2,k3,k4⟩:=look h
  simp only[jA,k1]
  cases k3
  exact .whole k2 ((k4 (by simp)).trans hb) a1 a2 a3
 | @eu e j es ao b cap h hb a1 a2 a3=>
  obtain ⟨id,b',k1,k2,k3,k4⟩:=look h
  simp only[jA,k1]
  cases k3
  exact .eu k2 ((k4 (by simp)).trans hb) a1 a2 a3
 | @fI e j fz _ h hb=>
  obtain ⟨id,b',k1,k2,k3,k4⟩:=look h
  simp only[jA,k1]
  cases k3
  exact .fI k2 ((k4 (by simp)).trans hb)
 | @sub e j off len es fz b o cap h hb a1 a2 a3=>
  obtain ⟨id,b',k1,k2,k3,k4⟩:=look h
  simp only[jA,k1]
  cases k3
  exact .sub k2 ((k4 (by simp)).trans hb) a1 a2 a3
 | @ptr j i c b blk h hd hb=>
  obtain ⟨id,b',k1,k2,k3,k4⟩:=look h
  simp only[jA,k1]
  have hs:blk.sz P=b'.sz P:=by cases k3<;>rfl
  rw[hs]
  exact .ptr k2 (by intro e;subst e;cases k3;exact hd rfl) ((k4 hd).trans hb)
 | iZ=>exact .undef
 | ja=>exact .undef
 | row=>exact .undef
 | cA=>exact .undef
 | dy=>exact .dy
 | @gS _ t j h=>
  obtain ⟨id,b',k1,k2,k3,k4⟩:=look h
  simp only[jA,k1]
  cases k3
  exact .gS k2
 | @bC t j b es h hb=>
  obtain ⟨id,b',k1,k2,k3,k4⟩:=look h
  simp only[jA,k1]
  cases k3
  exact .bC k2 ((k4 (by simp)).trans hb)
theorem oR.one {σ:List Place} (T:oR σ bX bx au hp') {v:Value} {x:V} (h:an P w I bX bx v x):an P w I au hp' v (GA σ x):=by
 cases x with
 | agg xs=>
  obtain ⟨cs,rfl,e1,e2⟩:=h.j7
  exact .agg (by simpa using e1) fun j v y hj hy=>by
   rw[List.getElem?_map] at hy
   cases hx:xs[j]? with
   | none=>rw[hx] at hy;cases hy
   | some x=>rw[hx] at hy;cases hy;exact T.leaf (e2 j v x hj hx)
 | fn f a b=>
  cases h with
  | fn a1 a2 b1 b2=>
   refine .fn (by simpa using a1) (fun j v y hj hy=> ?_) (by simpa using b1) (fun j v y hj hy=> ?_)
   ·rw[List.getElem?_map] at hy
    cases hx:a[j]? with
    | none=>rw[hx] at hy;cases hy
    | some x=>rw[hx] at hy;cases hy;exact T.leaf (a2 j v x hj hx)
   ·rw[List.getElem?_map] at hy
    cases hx:b[j]? with
    | none=>rw[hx] at hy;cases hy
    | some x=>rw[hx] at hy;cases hy;exact T.leaf (b2 j v x hj hx)
 | _=>exact T.leaf h
theorem oR.val {σ:List Place} (T:oR σ bX bx au hp') {v:Value} {x:V} (h:an P w I bX bx v x):an P w I au hp' v (Cf σ x):=by
 cases x with
 | bh xs=>
  obtain ⟨cs,rfl,e1,e2⟩:=h.sM
  exact .bh (by simpa using e1) fun j v y hj hy=>by
   rw[List.getElem?_map] at hy
   cases hx:xs[j]? with
   | none=>rw[hx] at hy;cases hy
   | some x=>rw[hx] at hy;cases hy;exact T.one (e2 j v x hj hx)
 | _=>exact T.one h
theorem oR.Oz {σ:List Place} (T:oR σ bX bx au hp') {o:Option Nat} {b b':aj} (h:dW P w I bX bx o b) (hb:ga σ b b'):dW P w I au hp' o b':=by
 cases hb with
 | dead=>exact .dead
 | var=>
  cases h with
  | var a1 a2 a3 a4 a5 a6=>
   refine .var a1 a2 (by simpa using a3) a4 (fun j v y hj hy=> ?_) a6
   rw[List.getElem?_map] at hy
   cases hx:(_:List V)[j]? with
   | none=>rw[hx] at hy;cases hy
   | some x=>rw[hx] at hy;cases hy;exact T.val (a5 j v x hj hx)
 | arr=>
  cases h with
  | dM hb=>exact .dM hb
  | arr a1 a2 a3 a4 a5 a6 a7=>exact .arr a1 a2 a3 a4 a5 a6 a7
 | nest=>
  cases h with
  | nest a1 a2 a3=>exact .nest a1 a2 a3
 | map=>
  cases h with
  | map a1 a2 a3 a4 a5 a6 a7=>exact .map a1 a2 a3 a4 a5 a6 a7
theorem ga.te {σ:List Place} {o:Option Nat} {b b':aj} (h:ga σ b b') {m:Nat} (ho:bA P w o b' m):bA P w o b m:=by
 cases h with
 | dead=>exact absurd rfl ho.alive
 | var=>exact .root (by simp) (ho.flat (by simp))
 | arr=>exact .root (by simp) (ho.flat (by simp))
 | map=>exact .root (by simp) (ho.flat (by simp))
 | nest=>
  cases ho with
  | root _ hb=>exact .root (by simp) hb
  | row hb ha=>exact .row hb ha
theorem ga.OA {σ:List Place} {b b':aj} (h:ga σ b b'):b'≠ .dead→b≠ .dead:=by
 intro h1 h2;subst h2;cases h;exact h1 rfl
end
end Go.AM
namespace Go.AM
section
variable {P:Program} {A:cB} {w w':World} {I I' I2:Nat→Prop} {μ β au bX:Nat→Option Nat} {hp hp' hp0 bx:Nat→Option aj} {C:af} {B:Nat} {M:Nat→Prop} {w0:Start}
theorem OB: ∀{vs:List Nat} {k:Nat},k<vs.length→bD (vs.map (· +1)) k=bD vs k+1
 | [],k,h=>by simp at h
 | v::vs,0,h=>rfl
 | v::vs,k+1,h=>by simp only[List.map_cons,bD];exact OB (by simpa using h)
theorem OC: ∀{vs:List Nat} {k:Nat},bD vs k≤bD (vs.map (· +1)) k
 | [],k=>by simp[bD]
 | v::vs,0=>by simp[bD]
 | v::vs,k+1=>by simp only[List.map_cons,bD];exact OC
def yn (hp:Nat→Option aj) (q:Nat × aj):Prop:=(∃e es v2,q.2= .nest e es v2)→∃e es ao e' aI,hp q.1=some (.nest e es ao)∧q.2= .nest e' aI (ao.map (· +1))
theorem dY.HV {id:Nat} {o:Option Nat} {blk:aj} (h:dY P w β hp (.blk id) o blk):o=β id∧∃b0,hp id=some b0∧b0≠ .dead:=by
 cases h with
 | var h=>exact ⟨rfl,_,h,by simp⟩
 | arr h=>exact ⟨rfl,_,h,by simp⟩
 | nest h=>exact ⟨rfl,_,h,by simp⟩
 | map h=>exact ⟨rfl,_,h,by simp⟩
theorem dY.Yf {id:Nat} {o:Option Nat} {c b b' b0:aj} {σ:List Place} (h:dY P w β hp (.blk id) o c) (h0:hp id=some b0) (hle:c.le b) (hb:ga σ b b') (hn:yn hp (id,b')):b0.le b':=by
 cases h with
 | var h=>
  rw[h] at h0;cases h0
  cases hb with
  | dead=>trivial
  | var=>trivial
  | arr=>exact hle.elim
  | nest=>exact hle.elim
  | map=>exact hle.elim
 | arr h=>
  rw[h] at h0;cases h0
  cases hb with
  | dead=>trivial
  | var=>exact hle.elim
  | arr=>exact hle
  | nest=>exact hle.elim
  | map=>exact hle.elim
 | map h=>
  rw[h] at h0;cases h0
  cases hb with
  | dead=>trivial
  | map=>exact hle
  | _=>exact hle.elim
 | nest h=>
  rw[h] at h0;cases h0
  cases hb with
  | dead=>trivial
  | var=>exact hle.elim
  | arr=>exact hle
  | map=>exact hle.elim
  | @nest e es v1 v2=>
   obtain ⟨e1,cd,tf,e2,bZ,k1,k2⟩:=hn ⟨_,_,_,rfl⟩
   cases k2
   change hp id=_ at k1
   rw[h] at k1;cases k1
   exact ⟨hle.1,hle.2.1,by simp,fun k=>OC⟩
theorem dY.other {p:Place} {o:Option Nat} {blk:aj} (h:dY P w β hp p o blk) (he:hp' p.id=hp p.id):dY P w β hp' p o blk:=by
 cases h with
 | var h=>exact .var (he.trans h)
 | arr h=>exact .arr (he.trans h)
 | nest h=>exact .nest (he.trans h)
 | map h=>exact .map (he.trans h)
 | row h a b c d e f g=>exact .row (he.trans h) a b c d e f g
open Classical in
theorem OD (S:aE P w I β hp B M w0) {pl:List Place} {o:Nat→Option Nat} {bs:List aj} {nb:Nat} {bk fr:List (Nat × aj)} {σ:List Place} (pY:σ=pl++ra nb (bs.length-pl.length)) (yo:fr=pB σ nb (bs.drop pl.length))
  (jK:(pl.map Place.id).Nodup) (pJ:pl.length≤bs.length)
  (Dh: ∀(j:Nat) p,pl[j]? =some p→∃id b,p= .blk id∧(id,b)∈bk) (Di: ∀q∈bk,∃(j:Nat) (b:aj),pl[j]? =some (.blk q.1)∧bs[j]? =some b∧ga σ b q.2∧yn hp q)
  (hl: ∀j blk,hp0 j=some blk→∃p,eb pl j=some p∧dY P w β hp p (o j) blk) (hd: ∀j,j<pl.length→∃blk,hp0 j=some blk)
  (Sc:aE P w' I2 bX (iY bs) w.heap.size (nO P w o hp0) ⟨w,I⟩) (vr:kb w I o hp0 w' I2 bX (iY bs)) (rB: ∀q∈fr,hp q.1=none):
  ∃au,Le P w I β hp w' I2 au (bL hp (fr++bk))∧aE P w' I2 au (bL hp (fr++bk)) B M w0∧oR σ bX (iY bs) au (bL hp (fr++bk)):=by
 generalize HW:bL hp (fr++bk)=gz
 let au:Nat→Option Nat:=fun n=>if∃q∈fr,q.1=n then bX (pl.length+(n-nb)) else β n
 have OE: ∀(j:Nat) id,pl[j]? =some (.blk id)→∃c,hp0 j=some c∧dY P w β hp (.blk id) (o j) c:=by
  intro j id hj
  obtain ⟨c,hc⟩:=hd j (List.getElem?_eq_some_iff.1 hj).1
  obtain ⟨p,h1,h2⟩:=hl j c hc
  rw[kO,hj] at h1
  cases h1
  exact ⟨c,hc,h2⟩
 have uniq: ∀(j1 j2:Nat) id,pl[j1]? =some (.blk id)→pl[j2]? =some (.blk id)→j1=j2:=by
  intro j1 j2 id h1 h2
  have m1:(pl.map Place.id)[j1]? =some id:=by rw[List.getElem?_map,h1];rfl
  have m2:(pl.map Place.id)[j2]? =some id:=by rw[List.getElem?_map,h2];rfl
  obtain ⟨z1,z2⟩:=List.getElem?_eq_some_iff.1 m1
  obtain ⟨z3,z4⟩:=List.getElem?_eq_some_iff.1 m2
  exact (List.getElem_inj jK).1 (z2.trans z4.symm)
 have cls: ∀id,(∃i b,id=nb+i∧bs[pl.length+i]? =some b∧gz id=some (sw σ b)∧hp id=none∧au id=bX (pl.length+i))∨
   (∃(j:Nat) (b b' c b0:aj),pl[j]? =some (.blk id)∧bs[j]? =some b∧hp0 j=some c∧dY P w β hp (.blk id) (o j) c∧hp id=some b0∧b0.le b'∧gz id=some b'∧ga σ b b'∧yn hp (id,b')∧au id=β id∧c.le b∧(b≠ .dead→bX j=β id))∨
   (gz id=hp id∧(∀j:Nat,pl[j]? ≠some (.blk id))∧au id=β id):=by
  intro id
  by_cases hm: ∃b,(id,b)∈fr++bk
  ·obtain ⟨b,hm⟩:=hm
   obtain ⟨b',xK,he⟩:=Cp (hp:=hp) hm
   rw[HW] at he
   rcases List.mem_append.1 xK with h|h
   ·have h0:=rB _ h
    have nQ:au id=bX (pl.length+(id-nb)):=if_pos ⟨_,h,rfl⟩
    rw[yo] at h
    obtain ⟨i,b1,k1,k2⟩:=Ow h
    rw[List.getElem?_drop] at k1
    cases k2
    exact .inl ⟨i,b1,rfl,k1,he,h0,by rw[nQ];congr 2;omega⟩
   ·obtain ⟨j,b1,q1,q2,q3,q4⟩:=Di _ h
    obtain ⟨c,c1,c2⟩:=OE j id q1
    obtain ⟨c3,b0,c4,c5⟩:=c2.HV
    obtain ⟨b2,d1,d2,d3⟩:=vr.blk j c c1
    rw[gD,q2] at d1
    cases d1
    refine .inr (.inl ⟨j,b1,b',c,b0,q1,q2,c1,c2,c4,c2.Yf c4 d2 q3 q4,he,q3,q4,if_neg ?_,d2,fun h=>(d3 h).trans c3⟩)
    rintro ⟨q,hq,Yg⟩
    rw[←Yg,rB q hq] at c4
    cases c4
  ·refine .inr (.inr ⟨?_,fun j hj=> ?_,if_neg ?_⟩)
   ·rcases sJ (hp:=hp) (l:=fr++bk) (id:=id) with h|⟨b,hb,_⟩
    ·rw[HW] at h;exact h
    ·exact absurd ⟨b,hb⟩ hm
   ·obtain ⟨aC,b,e,hb⟩:=Dh j _ hj
    cases e
    exact hm ⟨b,List.mem_append.2 (.inr hb)⟩
   ·rintro ⟨q,hq,rfl⟩
    exact hm ⟨q.2,List.mem_append.2 (.inl hq)⟩
 have OF: ∀b,nO P w o hp0 b→∃(j id:Nat) (b1:aj),pl[j]? =some (.blk id)∧hp id=some b1∧bA P w (β id) b1 b∧∀e es,b1≠ .arr e es true:=by
  rintro b ⟨j,c,hc,ho⟩
  obtain ⟨p,h1,h2⟩:=hl j c hc
  rw[kO] at h1
  obtain ⟨id,b2,rfl,_⟩:=Dh j p h1
  obtain ⟨b1,k1,k2,k3⟩:=h2.te ho
  exact ⟨j,id,b1,h1,k1,k2,k3⟩
 have other: ∀id blk b,hp id=some blk→bA P w (β id) blk b→(∀j:Nat,pl[j]? ≠some (.blk id))→¬nO P w o hp0 b∧w'.heap[b]? =w.heap[b]? ∧(I2 b→I b):=by
  intro id blk b e1 e3 e4
  have nR: ¬nO P w o hp0 b:=by
   intro hx
   obtain ⟨j,aC,b1,i1,i2,i3,_⟩:=OF b hx
   have:=S.h.inj id aC _ _ b e1 i2 e3 i3
   subst this
   exact e4 j i1
  have aR:=S.h.lt e1 e3
  refine ⟨nR,Sc.b8 b aR nR,fun h=> ?_⟩
  rcases Sc.new b h with h|h|h
  ·exact h
  ·exact absurd h nR
  ·omega
 have rq:oR σ bX (iY bs) au gz:=by
  refine ⟨fun j b hj=> ?_,fun j hj=> ?_,fun j id ver path hj=> ?_⟩
  ·rw[gD] at hj
   by_cases cX:j<pl.length
   ·obtain ⟨id,b1,e,kL⟩:=Dh j _ (List.getElem?_eq_getElem cX)
    have Dj:pl[j]? =some (.blk id):=by rw[List.getElem?_eq_getElem cX,e]
    have HX:eb σ j=some (.blk id):=by rw[pY];exact nL (by rw[kO];exact Dj)
    rcases cls id with ⟨i,b2,c1,c2,c3,c4,c5⟩|⟨j',b2,b',c,b0,q1,q2,q3,q4,q5,q6,q7,q8,q9,oS,vu,pZ⟩|⟨c1,c2,c3⟩
    ·obtain ⟨c,d1,d2⟩:=OE j id Dj
     obtain ⟨_,b0,d3,_⟩:=d2.HV
     rw[d3] at c4;cases c4
    ·obtain rfl:=uniq _ _ _ q1 Dj
     rw[hj] at q2;cases q2
     exact ⟨id,b',HX,q7,q8,fun h=>oS.trans (pZ h).symm⟩
    ·exact absurd Dj (c2 j)
   ·have OG:=(List.getElem?_eq_some_iff.1 hj).1
    have HX:eb σ j=some (.blk (nb+(j-pl.length))):=by
     rw[pY,kO,List.getElem?_append_right (by omega)]
     exact Dg (by omega)
    have hm:(nb+(j-pl.length),sw σ b)∈fr:=by
     rw[yo]
     refine Ox ?_
     rw[List.getElem?_drop,show pl.length+(j-pl.length)=j by omega]
     exact hj
    rcases cls (nb+(j-pl.length)) with ⟨i,b2,c1,c2,c3,c4,c5⟩|⟨j',b2,b',c,b0,q1,q2,q3,q4,q5,q6,q7,q8,q9,oS,vu,pZ⟩|⟨c1,c2,c3⟩
    ·have hi:i=j-pl.length:=by omega
     subst hi
     rw[show pl.length+(j-pl.length)=j by omega] at c2 c5
     rw[hj] at c2;cases c2
     exact ⟨_,_,HX,c3,.of σ _,fun _=>c5⟩
    ·rw[rB _ hm] at q5;cases q5
    ·obtain ⟨b',xK,he⟩:=Cp (hp:=hp) (l:=fr++bk) (List.mem_append.2 (.inl hm))
     rw[HW,c1,rB _ hm] at he
     cases he
  ·rw[gD] at hj
   have:=List.getElem?_eq_none_iff.1 hj
   rw[pY,kO,List.getElem?_eq_none_iff,List.length_append,HU]
   omega
  ·rw[pY,kO] at hj
   by_cases cX:j<pl.length
   ·rw[List.getElem?_append_left cX] at hj
    obtain ⟨aC,b1,e,_⟩:=Dh j _ hj
    cases e
   ·have OG:j-pl.length<bs.length-pl.length:=by
     have:=(List.getElem?_eq_some_iff.1 hj).1
     rw[List.length_append,HU] at this
     omega
    rw[List.getElem?_append_right (by omega),Dg OG] at hj
    cases hj
 have hle:Le P w I β hp w' I2 au gz:=by
  refine ⟨vr.dr,vr.b8,fun id blk ae=> ?_,fun id blk blk' b ae bE p5 hb=> ?_,fun id e es ao e' aI vers' b q i c t v e1 l ae bE hb aR hv ht hc=> ?_⟩
  ·rcases cls id with ⟨i,b2,c1,c2,c3,c4,c5⟩|⟨j',b2,b',c,b0,q1,q2,q3,q4,q5,q6,q7,q8,q9,oS,vu,pZ⟩|⟨c1,c2,c3⟩
   ·rw[ae] at c4;cases c4
   ·rw[ae] at q5;cases q5
    exact ⟨b',q7,q6,fun _=>oS⟩
   ·exact ⟨blk,c1.trans ae,aj.le_refl _,fun _=>c3⟩
  ·rcases cls id with ⟨i,b2,c1,c2,c3,c4,c5⟩|⟨j',b2,b',c,b0,q1,q2,q3,q4,q5,q6,q7,q8,q9,oS,vu,pZ⟩|⟨c1,c2,c3⟩
   ·rw[ae] at c4;cases c4
   ·rw[q7] at bE;cases bE
    exact vr.size j' c b2 b q3 (by rw[gD];exact q2) (q8.OA p5) (q4.HV.1.trans hb)
   ·rw[c1,ae] at bE
    cases bE
    simp only[bsize,(other id blk b ae (.root p5 hb) c2).2.1]
  ·rcases cls id with ⟨i2,b2,c1,c2,c3,c4,c5⟩|⟨j',b2,b',c',b0,q1,q2,q3,q4,q5,q6,q7,q8,q9,oS,vu,pZ⟩|⟨c1,c2,c3⟩
   ·rw[ae] at c4;cases c4
   ·rw[q7] at bE;cases bE
    obtain ⟨_,_,tf,_,_,k1,k2⟩:=q9 ⟨_,_,_,rfl⟩
    change hp id=_ at k1
    rw[ae] at k1;cases k1
    cases k2
    rw[OB aR] at hv
    omega
   ·rw[c1,ae] at bE
    cases bE
    exact ⟨l,rfl,hc.mono fun _ _ _ _ h=>(other id _ _ ae (.row hb h) c2).2.1⟩
 have place: ∀id blk b,gz id=some blk→bA P w' (au id) blk b→(∃j c,iY bs j=some c∧bA P w' (bX j) c b∧eb σ j=some (.blk id))∨(b<w.heap.size∧¬nO P w o hp0 b∧hp id=some blk∧bA P w (β id) blk b):=by
  intro id blk b e1 e3
  rcases cls id with ⟨i,b2,c1,c2,c3,c4,c5⟩|⟨j',b2,b',c,b0,q1,q2,q3,q4,q5,q6,q7,q8,q9,oS,vu,pZ⟩|⟨c1,c2,c3⟩
  ·rw[c3] at e1;cases e1
   rw[c5] at e3
   refine .inl ⟨pl.length+i,b2,by rw[gD];exact c2,(ga.of σ b2).te e3,?_⟩
   have:=(List.getElem?_eq_some_iff.1 c2).1
   rw[pY,kO,List.getElem?_append_right (by omega),Dg (by omega),c1]
   congr 3
   omega
  ·rw[q7] at e1;cases e1
   have p5:b2≠ .dead:=q8.OA e3.alive
   rw[oS,←pZ p5] at e3
   exact .inl ⟨j',b2,by rw[gD];exact q2,q8.te e3,by rw[pY];exact nL (by rw[kO];exact q1)⟩
  ·rw[c1] at e1
   rw[c3] at e3
   have:=e3.mono (w:=w) fun b hb=>(other id blk b e1 hb c2).2.1
   exact .inr ⟨S.h.lt e1 this,(other id blk b e1 this c2).1,e1,this⟩
 have ri: ∀b,nO P w o hp0 b∨w.heap.size≤b→M b∨B≤b:=by
  rintro b (h|h)
  ·obtain ⟨j,id,b1,i1,i2,i3,_⟩:=OF b h
   exact S.h.own id b1 b i2 i3
  ·exact .inr (Nat.le_trans S.size h)
 have HY: ∀j c b,iY bs j=some c→bA P w' (bX j) c b→nO P w o hp0 b∨w.heap.size≤b:=fun j c b h1 h2=>Sc.h.own j c b h1 h2
 refine ⟨au,hle,⟨⟨fun id blk ae=> ?_,fun i1 i2 b1 b2 b e1 e2 f1 f2=> ?_,fun id blk b ae hb=> ?_,Sc.h.jb⟩,fun b hb hM=> ?_,Nat.le_trans S.size Sc.size,fun b hb=> ?_,⟨Sc.io.1.trans S.io.1,Sc.io.2.trans S.io.2⟩⟩,rq⟩
 ·rcases cls id with ⟨i,b2,c1,c2,c3,c4,c5⟩|⟨j',b2,b',c,b0,q1,q2,q3,q4,q5,q6,q7,q8,q9,oS,vu,pZ⟩|⟨c1,c2,c3⟩
  ·rw[c3] at ae;cases ae
   rw[c5]
   exact rq.Oz (Sc.h.rel _ b2 (by rw[gD];exact c2)) (.of σ b2)
  ·rw[q7] at ae;cases ae
   have:=rq.Oz (Sc.h.rel j' b2 (by rw[gD];exact q2)) q8
   by_cases p5:b2= .dead
   ·subst p5
    cases q8
    exact .dead
   ·rw[oS,←pZ p5]
    exact this
  ·rw[c1] at ae
   rw[c3]
   exact (S.h.rel id blk ae).mono hle fun b hb=>(other id blk b ae hb c2).2
 ·rcases place i1 b1 b e1 f1 with ⟨j1,c1,g1,g2,g3⟩|⟨g1,g2,g3,g4⟩<;>rcases place i2 b2 b e2 f2 with ⟨j2,c2,k1,k2,k3⟩|⟨k1,k2,k3,k4⟩
  ·have:=Sc.h.inj j1 j2 c1 c2 b g1 k1 g2 k2
   subst this
   rw[g3] at k3
   cases k3
   rfl
  ·rcases HY j1 c1 b g1 g2 with h|h
   ·exact absurd h k2
   ·omega
  ·rcases HY j2 c2 b k1 k2 with h|h
   ·exact absurd h g2
   ·omega
  ·exact S.h.inj i1 i2 _ _ b g3 k3 g4 k4
 ·rcases place id blk b ae hb with ⟨j1,c1,g1,g2,g3⟩|⟨g1,g2,g3,g4⟩
  ·exact ri b (HY j1 c1 b g1 g2)
  ·exact S.h.own id blk b g3 g4
 ·refine (Sc.b8 b (Nat.lt_of_lt_of_le hb S.size) fun hx=> ?_).trans (S.b8 b hb hM)
  rcases ri b (.inl hx) with h|h
  ·exact hM h
  ·omega
 ·rcases Sc.new b hb with h|h|h
  ·exact S.new b h
  ·exact .inr (ri b (.inl h))
  ·exact .inr (ri b (.inr h))
end
end Go.AM
namespace Go.AM
section
variable {P:Program} {A:cB} {w w':World} {I I' I2:Nat→Prop} {μ β au bX:Nat→Option Nat} {hp hp' hp0 bx:Nat→Option aj} {C:af} {B:Nat} {M:Nat→Prop} {w0:Start}
theorem OH (hp:Nat→Option aj): ∀(a b:List (Nat × aj)),bL hp (a++b)=bL (bL hp b) a
 | [],b=>rfl
 | (i,x)::a,b=>by simp only[List.cons_append,bL,OH hp a b]
theorem th {hp:Nat→Option aj} {l:List (Nat × aj)} {id:Nat} (h: ∀q∈l,q.1≠id):bL hp l id=hp id:=by
 rcases sJ (hp:=hp) (l:=l) (id:=id) with h1|⟨b,hb,_⟩
 ·exact h1
 ·exact absurd rfl (h _ hb)
def vw (P : Program) : Prop := ∀ (f : Nat) fn, P.funcs[f]? = some fn → (fn.name == "runtime.NumGoroutine") = false
def Dk (P:Program) (f:FuncId) (e:TypeId):Prop:=
 (∀args w,(callFunc f args).run P w= .ok (.enter f args) w)∧∃t,P.underlying t=some (.slice e)∧
  ∀(s:Value) (w:World) (Q:Ending→World→Prop),(s= .slice none 0 0→Q (.returned (.slice none 0 0)) w)→
   (∀a n c,s= .slice (some a) n c→∃v w',(Builtin.append_ #[t,t] t #[.slice (some ⟨w.heap.size,0,none⟩) 0 0,s]).run P (w.alloc (.cells #[] e))= .ok v w'∧Q (.returned v) w')→
   (s= .slice none 0 0∨∃a n c,s= .slice (some a) n c)→Calls P f #[s] w Q
structure iR (P:Program) (A:cB):Prop where
 count:vw P
 ext: ∀f T,A.ext f=some T→∀(b:Nat) (C:Array Value) (w:World),w.heap[b]? =some (.cells C T (0,0))→C.size=P.cellsOf T→(C[0]? =some (.pointer none)∨C[0]? =some (.pointer (some ⟨b,0,none⟩)))→
  (callFunc f #[.pointer (some ⟨b,0,none⟩)]).run P w= .ok (.enter f #[.pointer (some ⟨b,0,none⟩)]) w∧
  Calls P f #[.pointer (some ⟨b,0,none⟩)] w fun e w'=>e= .returned (.tuple #[])∧(w'=w∨w'=w.setCell ⟨b,0,none⟩ (.pointer (some ⟨b,0,none⟩)))
 idle: ∀f,A.idle f=true→(∀args w,(callFunc f args).run P w= .ok (.enter f args) w)∧
  ∀args w,CallsD P f args .returning w fun e u' w'=>(∃v,e= .returned v)∧u'= .returning∧w'=w
 nr: ∀f e,A.nr f=some e→Dk P f e
theorem iR.here {P:Program} {A:cB} (h:iR P A) (f id:Nat):iR P (A.here f id):=⟨h.count,h.ext,h.idle,h.nr⟩
def yp (E:FuncId→Bool) (d:Deferred):Prop:= ∃f cap,d.target= .fn (.func f) cap∧E f=true
theorem HZ {P:Program} {A:cB} (hP:iR P A) {fn:Func} {tmps:Array Value} {R:Ending→World→Prop} {w:World} {v:Value} (hv:(results fn tmps).run P w= .ok v w) (hR:R (.returned v) w):
  ∀ds:List Deferred,(∀d∈ds,yp A.idle d)→Leaves P fn tmps R ds .returning w
 | [],_=>⟨v,hv,hR⟩
 | d::ds,h=>by
  obtain ⟨f,cap,ht,hf⟩:=h d (by simp)
  obtain ⟨k1,k2⟩:=hP.idle f hf
  obtain ⟨t,OI⟩:=d
  simp only at ht
  subst ht
  refine leaves_cons (f:=f) (args:=OI++cap) (by simp) ?_ ?_
  ·simp only[invoke];exact k1 _ w
  ·refine (k2 (OI++cap) w).mono fun e u' w' hr=> ?_
   obtain ⟨⟨v',rfl⟩,rfl,rfl⟩:=hr
   exact HZ hP hv hR ds fun d hd=>h d (List.mem_cons_of_mem _ hd)
def yq (P:Program) (A:cB) (o:Oper) (a:Act) (w:World) (I:Nat→Prop) (β:Nat→Option Nat) (hp:Nat→Option aj) (B:Nat) (M:Nat→Prop) (w0:Start) (r:R):Prop:=
 ∀(next:Act→World→Prop) (Q:Exit→Act→World→Prop),
  (∀v w' I' au ds,Le P w I β hp w' I' au (bL hp r.upd)→aE P w' I' au (bL hp r.upd) B M w0→an P w' I' au (bL hp r.upd) v r.v→(∀d∈ds,d∈a.defers∨yp A.idle d)→next ({a with defers:=ds}.put o.dst v) w')→o.wp P a w next Q
theorem oF.step {o:Oper} {a:Act} {r:R} (h:oF P ((execOp a.eval o).run P w) w I β hp B M w0 r):yq P A o a w I β hp B M w0 r:=by
 obtain ⟨v,w',I',au,h1,h2,h3,h4⟩:=h
 intro next Q hn
 unfold Oper.wp
 rcases h1 with h1|⟨h1,rfl⟩
 ·rw[h1];exact hn v w' I' au a.defers h2 h3 h4 fun d hd=> .inl hd
 ·rw[h1];exact hn _ w' I' au a.defers h2 h3 h4 fun d hd=> .inl hd
theorem OJ: ∀(l:List (Nat × VS)),nu l=q0 (l.map (·.2))
 | []=>rfl
 | (_,s)::l=>by simp only[nu,List.map_cons,q0,OJ l]
theorem Yh (hC:kf P A C) (S:aE P w I β hp B M w0) (hg:gy P A.aD w I) {vals:List Value} {args:List V} {nb key:Nat} {f:FuncId} {r:R} {rd:List Nat} (hlen:vals.length=args.length)
  (cD: ∀(j:Nat) v x,vals[j]? =some v→args[j]? =some x→an P w I β hp v x) (h:(xp P A nb key f args).run C hp=some (r,rd)):
  ∃fn c,P.funcs[f]? =some fn∧fn.body=some c∧Calls P f vals.toArray w fun e w'=> ∃v I' au,e= .returned v∧Le P w I β hp w' I' au (bL hp r.upd)∧aE P w' I' au (bL hp r.upd) B M w0∧an P w' I' au (bL hp r.upd) v r.v:=by
 unfold xp at h
 obtain ⟨OK,h0⟩:=aF h
 clear h
 rw[Nat.beq_eq] at OK
 subst OK
 obtain ⟨h1,iQ,d1,u1,a1,a2,a3,a5,a4⟩:=HR S h0 hlen cD
 obtain ⟨h2,rA,d2,u2,b1,b2,b3,b4⟩:=Ol S a1
 clear h0 a1
 obtain ⟨hc,h3⟩:=aF b1
 clear b1
 simp only[Bool.and_eq_true,Nat.beq_eq,Bool.not_eq_true'] at hc
 obtain ⟨eU,nP⟩:=hc
 have rC:=a2.trans b2
 have kB:h2.ds=d1++d2:=by have:=rC.ds;simpa using this
 have Dl:h2.upd=u1++u2:=by have:=rC.upd;simpa using this
 have jK:(h2.pl.map Place.id).Nodup:=rC.nodup (by simp)
 obtain ⟨c1,o,c2,c3⟩:=b4 []
 simp only[List.append_nil] at c1 c2 c3
 cases yr:C key h2.ds with
 | none=>
  simp only[Rd.run,yr] at h3
  cases h3
 | some es=>
  have pG: ∃eW,(xo P (A.so key es) nb h2 (A.lv key es)).run C hp=some (r,eW):=by
   obtain ⟨x,hx,e⟩:=bind_some h3
   rw[yr] at hx
   cases hx
   unfold cB.so cB.lv
   cases b9:A.alt key with
   | none=>rw[b9] at e;exact ⟨_,e⟩
   | some S2=>
    rw[b9] at e
    simp only[Rd.run] at e
    cases hb:(V.nth es 0).toBool<;>(rw[hb] at e;exact ⟨_,e⟩)
  clear h3
  obtain ⟨eW,h3⟩:=pG
  unfold xo at h3
  simp only at h3
  generalize gA:eK (A.so key es).a8 ((A.lv key es).drop (nu (A.so key es).bI))=bs at h3
  generalize pY:h2.pl++ra nb (bs.length-h2.pl.length)=σ at h3
  generalize yo:pB σ nb (bs.drop h2.pl.length)=fr at h3
  obtain ⟨p0,bk,rd4,p1,p2,_,p3⟩:=Ov h3
  obtain ⟨rB,rd5,p4⟩:=Oy p1
  obtain rfl:=aJ p4
  have pJ:h2.pl.length≤bs.length:=by rw[List.length_take] at p0;omega
  have Di: ∀q∈bk,∃(j:Nat) (b:aj),h2.pl[j]? =some (.blk q.1)∧bs[j]? =some b∧ga σ b q.2∧yn hp q:=by
   intro q hq
   rcases p2 q hq with hx|⟨j,b,k1,k2,k3,k4⟩
   ·simp at hx
   ·have hj:=(List.getElem?_eq_some_iff.1 k1).1
    rw[List.getElem?_take_of_lt hj] at k2
    exact ⟨j,b,k1,k2,k3,k4⟩
  obtain ⟨fn,c,hf,hb,H0⟩:=hC key h2.ds es yr
  refine ⟨fn,c,hf,hb,?_⟩
  have Yi:eK (A.sin key).a8 (h2.ds.drop (nu (A.sin key).bI))=eK (A.sin key).a8 d2:=by
   rw[kB,OJ,mE a3]
  have H2:(bq (A.sin key) h2.ds).hp=iY (eK (A.sin key).a8 d2):=by
   simp only[bq,mk,Yi]
  have hl: ∀j blk,(bq (A.sin key) h2.ds).hp j=some blk→∃p,eb h2.pl j=some p∧dY P w β hp p (o j) blk:=by
   intro j blk hj
   rw[H2,gD] at hj
   obtain ⟨p,k1,k2⟩:=c2 j blk hj
   rw[Nat.zero_add] at k1
   exact ⟨p,k1,k2⟩
  have hd: ∀j,j<h2.pl.length→∃blk,(bq (A.sin key) h2.ds).hp j=some blk:=by
   intro j hj
   rw[H2,gD]
   exact ⟨_,List.getElem?_eq_getElem (by rw[c1,←eU];exact hj)⟩
  have OL:yj P w β hp h2.pl o (bq (A.sin key) h2.ds).hp:=by
   intro j p hj
   obtain ⟨blk,k1⟩:=hd j (by rw[kO] at hj;exact (List.getElem?_eq_some_iff.1 hj).1)
   obtain ⟨p',k2,k3⟩:=hl j blk k1
   rw[hj] at k2
   cases k2
   exact ⟨blk,k1,k3⟩
  obtain ⟨pP,S1⟩:=xJ S rC.C8
  rw[←Dl] at pP S1
  have i1: ∀b,I b→im P w I β hp h2.upd b:=fun b h=> .inl h
  have entry:=Yb (hp0:=(bq (A.sin key) h2.ds).hp) S jK nP hl (fun cO j blk hj=>by
   have gj:=hj
   rw[H2,gD] at gj
   exact c3 (im P w I β hp h2.upd) o _ i1 (fun q hq b hb=> .inr ⟨q,by rw[Dl];exact List.mem_append.2 (.inr hq),hb⟩) h2.pl [] (by simp) OL j blk gj (cO j blk hj)) S1.h.jb
  have Yj:vals.length=(A.sin key).bI.length:=by rw[hlen,←a5];simp
  have ha:=H0 w (im P w I β hp h2.upd) o vals entry (hg.mono i1 fun _ _=>rfl) Yj fun j v x hj hx=>by
   rw[kB] at hx
   exact (((a4.later b2) (im P w I β hp h2.upd) o _ i1 (fun q hq b hb=> .inr ⟨q,by rw[Dl];exact hq,hb⟩) h2.pl [] (by simp) OL) d2).2 j v x hj hx
  refine ha.mono fun e w' yu=> ?_
  obtain ⟨v,I2,bX,rfl,ha⟩:=yu
  have vy:(bq (A.so key es) (A.lv key es)).hp=iY bs:=by simp only[bq,mk,gA]
  cases Yk:(A.so key es).safe P with
  | true=>
   simp only[cond_true,List.append_nil]
   have iP: ∀b,I b→I2 b:=fun b h=>ha.le.dr b (i1 b h)
   obtain ⟨s1,s2⟩:=Ye Yk iP ha.vq i1
   have vr:kb w I o (bq (A.sin key) h2.ds).hp w' I bX (iY bs):=by
    rw[←vy]
    exact ⟨fun _ h=>h,fun b h=>ha.le.b8 b (i1 b h),ha.le.blk,ha.le.size⟩
   obtain ⟨au,k1,k2,k3⟩:=OD S pY.symm yo.symm jK pJ p3 Di hl hd (by rw[←vy];exact ⟨s1.h,s1.b8,s1.size,fun b h=> .inl h,s1.io⟩) vr rB
   exact ⟨v,I,au,rfl,k1,k2,k3.val (by have:=s2 v ha.res;rw[vy] at this;exact this)⟩
  | false=>
   simp only[cond_false]
   rw[←List.append_assoc,OH]
   have nR: ∀p∈h2.pl,bL hp h2.upd p.id=hp p.id:=fun p hp=>th fun q hq e=>
    De nP (List.mem_map.2 ⟨q,hq,rfl⟩) (e▸List.mem_map.2 ⟨p,hp,rfl⟩)
   have Yl: ∀q∈bk,∃(j:Nat) (b:aj),h2.pl[j]? =some (.blk q.1)∧bs[j]? =some b∧ga σ b q.2∧yn (bL hp h2.upd) q:=by
    intro q hq
    obtain ⟨j,b,k1,k2,k3,k4⟩:=Di q hq
    refine ⟨j,b,k1,k2,k3,fun hn=> ?_⟩
    have:=nR _ (List.mem_of_getElem? k1)
    simp only[Place.id] at this
    rw[this]
    exact k4 hn
   have uU: ∀j blk,(bq (A.sin key) h2.ds).hp j=some blk→∃p,eb h2.pl j=some p∧dY P w β (bL hp h2.upd) p (o j) blk:=by
    intro j blk hj
    obtain ⟨p,k1,k2⟩:=hl j blk hj
    exact ⟨p,k1,k2.other (nR p (by rw[kO] at k1;exact List.mem_of_getElem? k1))⟩
   have Ym: ∀q∈fr,bL hp h2.upd q.1=none:=by
    intro q hq
    rw[th fun q' bY e=> ?_]
    ·exact rB q hq
    ·obtain ⟨e1,cd,_,h5⟩:=rC.C8 q' (Dl▸bY)
     rw[e,rB q hq] at h5
     rcases h5 with ⟨_,h5⟩|⟨_,h5⟩<;>cases h5
   obtain ⟨au,k1,k2,k3⟩:=OD S1 pY.symm yo.symm jK pJ p3 Yl uU hd (by rw[←vy];exact ha.vq) (by rw[←vy];exact ha.le) Ym
   exact ⟨v,I2,au,rfl,pP.trans k1,k2,k3.val (by have:=ha.res;rw[vy] at this;exact this)⟩
theorem OM (hC:kf P A C) (hP:iR P A) (S:aE P w I β hp B M w0) (hg:gy P A.aD w I) {a:Act} {nb key:Nat} {o:Oper} {f:FuncId} {vals:List Value} {args:List V} (hlen:vals.length=args.length)
  (cD: ∀(j:Nat) v x,vals[j]? =some v→args[j]? =some x→an P w I β hp v x) {r:R} {rd:List Nat} (h:(xp P A nb key f args).run C hp=some (r,rd))
  (hex:(execOp a.eval o).run P w=(callFunc f vals.toArray).run P w):yq P A o a w I β hp B M w0 r:=by
 intro next Q hn
 obtain ⟨fn,c,hf,hb,H0⟩:=Yh hC S hg hlen cD h
 unfold Oper.wp
 rw[hex,MuLone.run_callFunc_enter hf (hP.count f _ hf) hb,Oper.upon_enter]
 refine H0.mono fun e w' yu=> ?_
 obtain ⟨v,I2,bX,rfl,k1,k2,k3⟩:=yu
 exact hn v w' I2 bX a.defers k1 k2 k3 fun d hd=> .inl hd
theorem j5.args {a:Act} {sl:Nat→V} (hs:j5 P w I β hp a sl) (hg:gy P A.aD w I) {args:Array Operand} {ts:Array TypeId} (aZ:args.size=ts.size):
  (args.map a.eval).toList.length=((args.toList.zip ts.toList).map fun p=>aK P A.aD p.2 sl p.1).length∧
  ∀(j:Nat) v x,(args.map a.eval).toList[j]? =some v→((args.toList.zip ts.toList).map fun p=>aK P A.aD p.2 sl p.1)[j]? =some x→an P w I β hp v x:=by
 refine ⟨by simp;omega,fun j v x hv hx=> ?_⟩
 simp only[Array.toList_map,List.getElem?_map,List.getElem?_zip_eq_some,Option.map_eq_some_iff] at hv hx
 obtain ⟨x1,yv,rfl⟩:=hv
 obtain ⟨⟨y1,t1⟩,⟨H3,_⟩,rfl⟩:=hx
 rw[yv] at H3
 cases H3
 exact hs.ev hg t1 _
theorem ON {vs us:List Value} {xs ys:List V} (h1:vs.length=xs.length) (h2: ∀(j:Nat) v x,vs[j]? =some v→xs[j]? =some x→an P w I β hp v x)
  (h3: ∀(j:Nat) v x,us[j]? =some v→ys[j]? =some x→an P w I β hp v x) (j:Nat) (v:Value) (x:V) (hv:(vs++us)[j]? =some v) (hx:(xs++ys)[j]? =some x):an P w I β hp v x:=by
 by_cases hj:j<vs.length
 ·rw[List.getElem?_append_left hj] at hv
  rw[List.getElem?_append_left (by omega)] at hx
  exact h2 j v x hv hx
 ·rw[List.getElem?_append_right (by omega)] at hv
  rw[List.getElem?_append_right (by omega)] at hx
  rw[h1] at hv
  exact h3 _ v x hv hx
theorem Yn (hP:iR P A) (S:aE P w I β hp B M w0) (hg:gy P A.aD w I) {a:Act} {sl:Nat→V} (hs:j5 P w I β hp a sl) {dst:Option Tmp} {ty e:TypeId} {pos:String} {after:Array Edge} {guard:Option (Nat × Bool)} {f:FuncId}
  {args:Array Operand} {argTypes:Array TypeId} {nb:Nat} {r:R} {rd:List Nat} (jI:A.nr f=some e)
  (h:((match args.toList with
    | [x]=> .aB (cQ P e) (qY e (aK P A.aD ty sl x) fun xs=> .aB (Nat.ble (xs.length*P.bytesOf e) bB) (iH nb (.arr e xs false) (.whole e nb) []))
    | _=> .fail):Rd R).run C hp=some (r,rd)):yq P A (Oper.mk dst (.call (Go.Call.mk (.value (.func f)) args argTypes)) ty pos after guard) a w I β hp B M w0 r:=by
 cases ha:args.toList with
 | nil=>rw[ha] at h;cases h
 | cons x l=>
  rw[ha] at h
  cases l with
  | cons _ _=>cases h
  | nil=>
   simp only at h
   have e1:args= #[x]:=by rw[←Array.toArray_toList (xs:=args),ha]
   subst e1
   have hx:=hs.ev hg ty x
   obtain ⟨ax,h⟩:=aF h
   have fin: ∀{w1:World} {Dm:Nat→Option Nat},(∀id blk,hp id=some blk→dW P w1 I Dm hp (Dm id) blk)→an P w1 I Dm hp (a.eval x) (aK P A.aD ty sl x)→∃xs,(((∃a',a.eval x= .slice a' 0 0)∧xs=[])∨∃a' c news,Row P w1 I e (a.eval x) xs a' c news)∧
     xs.length*P.bytesOf e≤bB∧hp nb=none∧r=⟨.whole e nb,[(nb,.arr e xs false)]⟩:=by
    intro w1 Dm h1 h2
    obtain ⟨xs,kN,l,h⟩:=CO h1 ax h2 h
    obtain ⟨eE,h⟩:=aF h
    rw[Nat.ble_eq] at eE
    obtain ⟨hn,rfl⟩:=mB h
    exact ⟨xs,kN,eE,hn,rfl⟩
   obtain ⟨c1,t,hu,c2⟩:=hP.nr f e jI
   intro next Q rD
   unfold Oper.wp
   have e2:(execOp a.eval ⟨dst,.call ⟨.value (.func f),#[x],argTypes⟩,ty,pos,after,guard⟩).run P w= .ok (.enter f #[a.eval x]) w:=by
    have eX:a.eval (.func f)= .func (.func f) #[] #[]:=rfl
    simpa[execOp,resolve,eX,Deferred.ofValue,invoke] using c1 #[a.eval x] w
   rw[e2,Oper.upon_enter]
   refine c2 _ w _ (fun yw=> ?_) (fun b n c vc=> ?_) ?_
   ·obtain ⟨xs,kN,eE,hn,rfl⟩:=fin S.h.rel hx
    have gk:xs=[]:=by
     rcases kN with ⟨_,h⟩|⟨a,c,news,hr⟩
     ·exact h
     ·have:=hr.val.symm.trans yw
      cases this
    subst gk
    obtain ⟨a1,a2⟩:=Cs S e hn
    exact rD _ w I _ a.defers a1 a2 (.dL (cW _ _ _) (cW _ _ _)) fun d hd=> .inl hd
   ·obtain ⟨m1,m2⟩:=VY (w':=w.alloc (.cells #[] e)) S (fun b hb=>heap_alloc_old w _ b hb) (by simp) ⟨rfl,rfl⟩
    obtain ⟨xs,kN,eE,hn,rfl⟩:=fin m2.h.rel (hx.mono m1)
    obtain ⟨v,w',au,a1,a2,a3,a4⟩:=Hm (ty:=t) (a0:=some ⟨w.heap.size,0,none⟩) m2 hu ax hn eE kN
    exact ⟨v,w',a1,rD v w' I au a.defers (m1.trans a2) a3 a4 fun d hd=> .inl hd⟩
   ·obtain ⟨xs,kN,eE,hn,rfl⟩:=fin S.h.rel hx
    rcases kN with ⟨⟨b,h⟩,_⟩|⟨b,c,news,hr⟩
    ·rw[h]
     cases b with
     | none=>exact .inl rfl
     | some b=>exact .inr ⟨_,_,_,rfl⟩
    ·exact .inr ⟨_,_,_,hr.val⟩
theorem Yo (hP:iR P A) (S:aE P w I β hp B M w0) (hg:gy P A.aD w I) {a:Act} {sl:Nat→V} (hs:j5 P w I β hp a sl) {dst:Option Tmp} {ty T0:TypeId} {pos:String} {after:Array Edge} {guard:Option (Nat × Bool)} {f:FuncId}
  {args:Array Operand} {argTypes:Array TypeId} {r:R} {rd:List Nat} (yx:A.ext f=some T0)
  (h:((match args.toList with
   | [x]=>
    match aK P A.aD ty sl x with
    | .ptr id i c=>Rd.get id fun
     | some (.var T cs)=> .aB (Nat.beq T T0&&(ox P T&&(Nat.beq cs.length (P.cellsOf T)&&(Nat.beq i 0&&Nat.beq c 0)))) (.ret ⟨.bh [],[(id,.var T (.undef::cs.tail))]⟩)
     | _=> .fail
    | _=> .fail
   | _=> .fail):Rd R).run C hp=some (r,rd)):yq P A (Oper.mk dst (.call (Go.Call.mk (.value (.func f)) args argTypes)) ty pos after guard) a w I β hp B M w0 r:=by
 cases ha:args.toList with
 | nil=>rw[ha] at h;cases h
 | cons x l=>
  rw[ha] at h
  cases l with
  | cons _ _=>cases h
  | nil=>
   simp only at h
   have e1:args= #[x]:=by rw[←Array.toArray_toList (xs:=args),ha]
   subst e1
   have hx:=hs.ev hg ty x
   cases fg:aK P A.aD ty sl x<;>rw[fg] at h hx<;>simp only at h<;>first|(cases h;done)|skip
   rename_i id i c
   obtain ⟨l,h1⟩:=run_get h
   cases ae:hp id with
   | none=>rw[ae] at h1;cases h1
   | some blk=>
    rw[ae] at h1
    cases blk<;>simp only at h1<;>first|(cases h1;done)|skip
    rename_i T cs
    obtain ⟨h2,h3⟩:=aF h1
    simp only[Bool.and_eq_true,Nat.beq_eq] at h2
    obtain ⟨rfl,bN,Yp,rfl,rfl⟩:=h2
    obtain rfl:=aJ h3
    obtain ⟨b,hb,he⟩:=hx.gB ae (by simp)
    have hr:=S.h.rel id _ ae
    rw[hb] at hr
    cases hr with
    | @var _ b' Ca _ az hh aZ hI gk fX=>
     cases az
     have sY:a.eval x= .pointer (some ⟨b,0,none⟩):=by rw[he];simp[aj.sz]
     obtain ⟨q1,q2⟩:=hP.ext f T yx b Ca w hh (aZ.trans Yp) (fX bN)
     have h0:0<Ca.size:=by
      rcases fX bN with k|k<;>exact (Array.getElem?_eq_some_iff.1 k).1
     have nE:(V.undef::cs.tail).length=cs.length:=by
      cases cs with
      | nil=>rw[aZ] at h0;simp at h0
      | cons _ _=>rfl
     have rel: ∀(C':Array Value),(∀j,0<j→C'[j]? =Ca[j]?)→∀(j:Nat) v y,C'[j]? =some v→(V.undef::cs.tail)[j]? =some y→an P w I β hp v y:=by
      intro C' vf j v y hj hy
      cases j with
      | zero=>simp at hy;subst hy;exact .undef
      | succ j=>
       rw[vf _ (by omega)] at hj
       refine gk (j+1) v y hj ?_
       cases cs with
       | nil=>rw[aZ] at h0;simp at h0
       | cons _ _=>simpa using hy
     have fin: ∀w' C',(∀b',b'≠b→w'.heap[b']? =w.heap[b']?)→w'.heap[b]? =some (.cells C' T (0,0))→C'.size=Ca.size→w.heap.size≤w'.heap.size→w'.os=w.os∧w'.output=w.output→
       (∀j,0<j→C'[j]? =Ca[j]?)→(C'[0]? =some (.pointer none)∨C'[0]? =some (.pointer (some ⟨b,0,none⟩)))→
       Le P w I β hp w' I β (aH hp id (some (.var T (V.undef::cs.tail))))∧aE P w' I β (aH hp id (some (.var T (V.undef::cs.tail)))) B M w0:=by
      intro w' C' k1 k2 k3 k4 k5 k6 k7
      exact Cu (w':=w') (blk':= .var T (V.undef::cs.tail)) S ae (by simp) rfl hb hI (by simp) k1 (by rw[mo k2,mo hh,k3]) k4 k5 fun hle=>
       .var rfl k2 (by rw[k3,aZ,nE]) hI (fun j v y hj hy=>(rel C' k6 j v y hj hy).mono hle) fun _=>k7
     intro next Q hn
     unfold Oper.wp
     have e2:(execOp a.eval ⟨dst,.call ⟨.value (.func f),#[x],argTypes⟩,ty,pos,after,guard⟩).run P w= .ok (.enter f #[.pointer (some ⟨b,0,none⟩)]) w:=by
      have eX:a.eval (.func f)= .func (.func f) #[] #[]:=rfl
      simpa[execOp,resolve,eX,Deferred.ofValue,invoke,sY] using q1
     rw[e2,Oper.upon_enter]
     refine q2.mono fun e w' yu=> ?_
     obtain ⟨rfl,hw⟩:=yu
     have OO:Le P w I β hp w' I β (aH hp id (some (.var T (V.undef::cs.tail))))∧aE P w' I β (aH hp id (some (.var T (V.undef::cs.tail)))) B M w0:=by
      rcases hw with rfl|rfl
      ·exact fin w' Ca (fun _ _=>rfl) hh rfl (Nat.le_refl _) ⟨rfl,rfl⟩ (fun _ _=>rfl) (fX bN)
      ·refine fin (w.setCell ⟨b,0,none⟩ (.pointer (some ⟨b,0,none⟩))) (Ca.setIfInBounds 0 (.pointer (some ⟨b,0,none⟩))) (fun b' bM=> ?_) ?_ (by simp) (by simp[World.setCell]) ⟨rfl,rfl⟩ (fun j hj=> ?_) (.inr ?_)
       ·simp only[World.setCell,Array.getElem?_modify]
        rw[if_neg (fun e=>bM e.symm)]
       ·simp[World.setCell,Array.getElem?_modify,hh]
       ·rw[Array.getElem?_setIfInBounds_ne (by omega)]
       ·rw[Array.getElem?_setIfInBounds_self_of_lt h0]
     exact hn (.tuple #[]) w' I β a.defers OO.1 OO.2 (.bh rfl fun j v y hj _=>by simp at hj) fun d hd=> .inl hd
theorem Yq (hC:kf P A C) (hP:iR P A) (S:aE P w I β hp B M w0) (hg:gy P A.aD w I) {a:Act} {sl:Nat→V} (hs:j5 P w I β hp a sl) {ix nb:Nat} {o:Oper} {r:R} {rd:List Nat}
  (h:(fq P A sl ix nb o).run C hp=some (r,rd)):yq P A o a w I β hp B M w0 r:=by
 cases hc:HI o.op with
 | false=>exact (XQ S hg hs hc h).step
 | true=>
  obtain ⟨dst,op,ty,pos,after,guard⟩:=o
  cases op<;>simp only[HI] at hc<;>first|(cases hc;done)|skip
  case defer c=>
   obtain ⟨callee,args,argTypes⟩:=c
   cases callee with
   | invoke r m=>simp only[fq] at h;cases h
   | builtin b=>simp only[fq] at h;cases h
   | value f=>
   cases f with
   | tmp t=>
    simp only[fq] at h
    cases bN:sl t<;>rw[bN] at h<;>simp only at h<;>first|(cases h;done)|skip
    rename_i f xs ys
    obtain ⟨h1,h2⟩:=aF h
    obtain rfl:=aJ h2
    have hv:=hs t
    rw[bN] at hv
    generalize s8:a.tmps.getD t undef=vt at hv
    cases hv with
    | @fn _ fs cs _ _ q1 q2 q3 q4=>
     intro next Q hn
     unfold Oper.wp
     have eX:a.eval (.tmp t)= .func (.func f) fs cs:=s8
     have e1:(execOp a.eval ⟨dst,.defer ⟨.value (.tmp t),args,argTypes⟩,ty,pos,after,guard⟩).run P w= .ok (.defer {target:= .fn (.func f) cs,args:=fs++args.map a.eval}) w:=by
      simp[execOp,resolve,eX,Deferred.ofValue]
     rw[e1,Oper.upon_defer]
     exact hn undef w I β _ (Le.refl w I β hp) S .undef fun d hd=>by
      rcases List.mem_cons.1 hd with rfl|hd
      ·exact .inr ⟨f,cs,rfl,h1⟩
      ·exact .inl hd
   | func f=>simp only[fq] at h;cases h
   | const _=>simp only[fq] at h;cases h
   | global _=>simp only[fq] at h;cases h
  rename_i c
  obtain ⟨callee,args,argTypes⟩:=c
  cases callee with
  | invoke r m=>cases hc
  | builtin b=>cases hc
  | value f=>
   cases f with
   | func f=>
    simp only[fq] at h
    cases yx:A.ext f with
    | some T0=>
     rw[yx] at h
     simp only at h
     exact Yo hP S hg hs yx h
    | none=>
    rw[yx] at h
    simp only at h
    cases jI:A.nr f with
    | some e0=>
     rw[jI] at h
     simp only at h
     exact Yn hP S hg hs jI h
    | none=>
    rw[jI] at h
    simp only at h
    obtain ⟨h1,h2⟩:=aF h
    rw[Nat.beq_eq] at h1
    obtain ⟨k1,k2⟩:=hs.args hg h1
    refine OM hC hP S hg k1 k2 h2 ?_
    have e1:(args.map a.eval).toList.toArray=args.map a.eval:=Array.toArray_toList
    rw[e1]
    simp[execOp,resolve,Act.eval,Deferred.ofValue,invoke]
   | tmp t=>
    simp only[fq] at h
    cases bN:sl t<;>rw[bN] at h<;>simp only at h<;>first|(cases h;done)|skip
    rename_i f xs ys
    obtain ⟨h1,h2⟩:=aF h
    rw[Nat.beq_eq] at h1
    obtain ⟨k1,k2⟩:=hs.args hg h1
    have hv:=hs t
    rw[bN] at hv
    generalize s8:a.tmps.getD t undef=vt at hv
    cases hv with
    | @fn _ fs cs _ _ q1 q2 q3 q4=>
     have l1:fs.toList.length=xs.length:=by simpa using q1
     have l3:cs.toList.length=ys.length:=by simpa using q3
     have r1: ∀(j:Nat) v x,fs.toList[j]? =some v→xs[j]? =some x→an P w I β hp v x:=fun j v x hj hx=>q2 j v x (by simpa using hj) hx
     have r3: ∀(j:Nat) v x,cs.toList[j]? =some v→ys[j]? =some x→an P w I β hp v x:=fun j v x hj hx=>q4 j v x (by simpa using hj) hx
     refine OM hC hP S hg (vals:=fs.toList++(args.map a.eval).toList++cs.toList) (args:=xs++((args.toList.zip argTypes.toList).map fun p=>aK P A.aD p.2 sl p.1)++ys) (by simp only[List.length_append];omega) ?_ h2 ?_
     ·exact ON (by simp only[List.length_append];omega) (ON l1 r1 k2) r3
     ·have e1:(fs.toList++(args.map a.eval).toList++cs.toList).toArray=fs++args.map a.eval++cs:=by
       apply Array.toList_inj.1;simp
      rw[e1]
      have eX:a.eval (.tmp t)= .func (.func f) fs cs:=s8
      simp[execOp,resolve,eX,Deferred.ofValue,invoke]
   | _=>cases hc
end
end Go.AM
namespace Go.AM
section
variable {P:Program} {A:cB} {w w':World} {I I' I2:Nat→Prop} {μ β au:Nat→Option Nat} {hp hp':Nat→Option aj} {C:af} {B:Nat} {M:Nat→Prop} {w0:Start}
structure iz (P:Program) (E:FuncId→Bool) (G:Nat→V) (w:World) (I:Nat→Prop) (β:Nat→Option Nat) (n:Nat) (a:Act) (st:St):Prop where
 sl:j5 P w I β st.hp a st.sl
 size:a.tmps.size=n
 defers: ∀d∈a.defers,yp E d
 aD:gy P G w I
theorem H4 {E:FuncId→Bool} {G:Nat→V} {n:Nat} {a:Act} {st:St} {o:Oper} {v:Value} {x:V} {hp':Nat→Option aj} {ds:List Deferred} (h:iz P E G w I β n a st) (hle:Le P w I β st.hp w' I' au hp') (hd:rb o n=true)
  (hv:an P w' I' au hp' v x) (kB: ∀d∈ds,d∈a.defers∨yp E d):iz P E G w' I' au n ({a with defers:=ds}.put o.dst v) ⟨gM st.sl o.dst x,hp',st.nb⟩:=by
 have OP: ∀d∈ds,yp E d:=fun d hd=>(kB d hd).elim (h.defers d) id
 cases Yr:o.dst with
 | none=>exact ⟨fun k=>(h.sl k).mono hle,h.size,OP,h.aD.mono hle.dr hle.b8⟩
 | some d=>
  have aR:d<a.tmps.size:=by
   unfold rb at hd
   rw[Yr] at hd
   rw[h.size]
   simpa using hd
  refine ⟨fun k=> ?_,by simp[Act.put,h.size],OP,h.aD.mono hle.dr hle.b8⟩
  simp only[Act.put,gM,aH]
  cases hb:Nat.beq k d with
  | true=>
   rw[Nat.beq_eq] at hb
   subst hb
   simpa[aR] using hv
  | false=>
   have bM:d≠k:=fun e=>by rw[e,Nat.beq_refl] at hb;cases hb
   have:=(h.sl k).mono hle
   simpa[Array.getElem?_setIfInBounds_ne bM] using this
theorem OQ {E:FuncId→Bool} {G:Nat→V} {n:Nat} {a:Act} {st:St} {d:Nat} {b:Bool} (h:iz P E G w I β n a st) (hd:st.sl d= .bool b):a.tmps[d]? =some (.bool b):=by
 have:=h.sl d
 rw[hd] at this
 have:=this.je
 cases ht:a.tmps[d]? with
 | none=>simp[ht] at this;cases this
 | some v=>simp[ht] at this;rw[this]
theorem Ys {x:V} {b:Bool} (h:kC x=some (some b)):x= .bool b:=by
 cases x with
 | bool c=>simp only[kC] at h;injection h with h;injection h with h;rw[h]
 | bh vs=>cases vs<;>simp[kC] at h
 | _=>simp[kC] at h
theorem Yt {x:V} (h:kC x=some none):x= .bh []:=by
 cases x with
 | bh vs=>cases vs with
  | nil=>rfl
  | cons _ _=>simp[kC] at h
 | bool c=>simp[kC] at h
 | _=>simp[kC] at h
theorem an.Yu {v:Value} (h:an P w I β hp v (.bh [])):v= .tuple #[]:=by
 cases h with
 | @bh cs _ hs _=>
  have:cs= #[]:=by
   apply Array.eq_empty_of_size_eq_zero
   simpa using hs
  rw[this]
theorem an.OR:an P w I β hp Go.undef (.bh []):= .bh (by rfl) (fun j v x _ hx=>by simp at hx)
theorem OS (hC:kf P A C) (hP:iR P A) {ops:Array Oper} {n i nb:Nat} {o:Oper} (ho:ops[i]? =some o) {a:Act} {st st':St} {R W:List Nat} (S:aE P w I β st.hp B M w0) (hA:iz P A.idle A.aD w I β n a st)
  (h:gv P A C n ops i o nb st=some (st',R,W)) {K:Act→World→Prop} {Q:Exit→Act→World→Prop}
  (hK: ∀a' w' I' au,Le P w I β st.hp w' I' au st'.hp→aE P w' I' au st'.hp B M w0→iz P A.idle A.aD w' I' au n a' st'→K a' w'):wpOp P ops Q i K a w:=by
 unfold gv at h
 cases hd:rb o n with
 | false=>rw[hd] at h;cases h
 | true=>
  rw[hd] at h
  simp only[cond_true] at h
  have go: ∀{H5:St} {R W:List Nat},(((fq P A st.sl i (nb+64*i) o).run C st.hp).bind fun r=>some ((⟨gM st.sl o.dst r.1.v,bL st.hp r.1.upd,st.nb⟩:St),r.2,r.1.upd.map (·.1)))=some (H5,R,W)→H5=st'→
    o.wp P a w K Q:=by
   intro H5 R W h e
   obtain ⟨⟨r,rd⟩,h1,h2⟩:=bind_some h
   cases h2
   subst e
   exact Yq hC hP S hA.aD hA.sl h1 K Q fun v w' I' au ds k1 k2 k3 k4=>hK _ w' I' au k1 k2 (H4 hA k1 hd k3 k4)
  unfold wpOp
  rw[ho]
  simp only
  cases hg:o.guard with
  | none=>
   rw[hg] at h
   simp only[Region.wanted,hg,if_true]
   exact .inl (go h rfl)
  | some gw=>
   obtain ⟨g,want⟩:=gw
   rw[hg] at h
   simp only at h
   cases kP:(ops[g]?).bind (·.dst) with
   | none=>rw[kP] at h;cases h
   | some d=>
    rw[kP] at h
    simp only at h
    cases lK:kC (st.sl d) with
    | none=>rw[lK] at h;cases h
    | some ob=>
    rw[lK] at h
    cases ob with
    | none=>
     have vc:=Yt lK
     have hy:yielded ops a.tmps g=none:=by
      unfold yielded
      rw[kP]
      have:=hA.sl d
      rw[vc] at this
      have hu:=an.Yu this
      simp only[Option.bind_some]
      cases ht:a.tmps[d]? with
      | none=>rfl
      | some v=>simp[ht] at hu;subst hu;rfl
     simp only[Region.wanted,hg,hy]
     injection h with h
     injection h with h3 h4
     subst h3
     have h2:((none:Option Bool)==some want)=false:=rfl
     simp only[h2,Bool.false_eq_true,if_false]
     exact hK _ w I β (Le.refl w I β st.hp) S (H4 (ds:=a.defers) hA (Le.refl w I β st.hp) hd an.OR fun d h=> .inl h)
    | some b=>
    simp only at h
    have vc:=Ys lK
    have hy:yielded ops a.tmps g=some b:=by
     unfold yielded
     rw[kP]
     simp only[Option.bind_some,OQ hA vc]
    simp only[Region.wanted,hg,hy]
    by_cases hb:b=want
    ·subst hb
     simp only[beq_self_eq_true,cond_true] at h
     simp only[beq_self_eq_true,if_true]
     exact .inl (go h rfl)
    ·have h1:(b==want)=false:=by simp[hb]
     have h2:(some b==some want)=false:=by simp[hb]
     rw[h1] at h
     simp only[cond_false] at h
     injection h with h
     injection h with h3 h4
     subst h3
     simp only[h2,Bool.false_eq_true,if_false]
     exact hK _ w I β (Le.refl w I β st.hp) S (H4 (ds:=a.defers) hA (Le.refl w I β st.hp) hd an.OR fun d h=> .inl h)
theorem ti {α:Type}: ∀{p:Rd α} {r:α} {rd:List Nat},p.run C hp=some (r,rd)→(∀id∈rd,hp' id=hp id)→p.run C hp'=some (r,rd)
 | .ret a,r,rd,h,_=>h
 | .fail,r,rd,h,_=>by cases h
 | .get id k,r,rd,h,he=>by
  obtain ⟨x,h1,h2⟩:=bind_some h
  cases h2
  have e1:hp' id=hp id:=he id (by simp)
  have:=ti (p:=k (hp id)) (r:=x.1) (rd:=x.2) h1 (fun i hi=>he i (by simp[hi]))
  simp only[Rd.run,e1,this,Option.bind_some]
 | .opt o k,r,rd,h,he=>by
  obtain ⟨x,h1,h2⟩:=bind_some h
  simp only[Rd.run,h1,Option.bind_some]
  exact ti h2 he
 | .aB b k,r,rd,h,he=>by
  obtain ⟨h1,h2⟩:=aF h
  simp only[Rd.run,h1,cond_true]
  exact ti h2 he
 | .call key ds k,r,rd,h,he=>by
  obtain ⟨x,h1,h2⟩:=bind_some h
  simp only[Rd.run,h1,Option.bind_some]
  exact ti h2 he
 | .alt true x y,r,rd,h,he=>ti (p:=x) h he
 | .alt false x y,r,rd,h,he=>ti (p:=y) h he
theorem Yv {G:Nat→V} {sl sl':Nat→V} {t:TypeId} {x:Operand} (h: ∀k,x= .tmp k→sl k=sl' k):aK P G t sl x=aK P G t sl' x:=by
 cases x with
 | tmp k=>exact h k rfl
 | _=>rfl
theorem Yw {sl sl':Nat→V} {ix nb:Nat} {o:Oper} (h: ∀x∈o.op.operands,∀k,x= .tmp k→sl k=sl' k):fq P A sl ix nb o=fq P A sl' ix nb o:=by
 have eX: ∀t x,x∈o.op.operands→aK P A.aD t sl x=aK P A.aD t sl' x:=fun t x hx=>Yv (h x hx)
 obtain ⟨dst,op,ty,pos,after,guard⟩:=o
 have OT: ∀(t:TypeId) (ps:Array (Nat × Operand)),(∀x∈ps.map (·.2),aK P A.aD t sl x=aK P A.aD t sl' x)→
   (ps.toList.map fun p=>(p.1,aK P A.aD t sl p.2))=ps.toList.map fun p=>(p.1,aK P A.aD t sl' p.2):=fun t ps hp=>
  List.map_congr_left fun p hm=>by rw[hp p.2 (Array.mem_map.2 ⟨p,Array.mem_toList_iff.1 hm,rfl⟩)]
 have Yx: ∀(t:TypeId) (ps:Array (Nat × Operand)),(∀x∈ps.map (·.2),aK P A.aD t sl x=aK P A.aD t sl' x)→
   (ps.toList.map fun p=>(aK P A.aD t sl p.2).cells)=ps.toList.map fun p=>(aK P A.aD t sl' p.2).cells:=fun t ps hp=>
  List.map_congr_left fun p hm=>by rw[hp p.2 (Array.mem_map.2 ⟨p,Array.mem_toList_iff.1 hm,rfl⟩)]
 cases op<;>simp only[Op.operands] at eX<;>simp only[fq]
 case pick c x y=>rw[eX ty c (by simp),eX ty x (by simp),eX ty y (by simp)]
 case build t ps=>rw[OT ty ps fun x hx=>eX ty x (by simpa using hx),Yx ty ps fun x hx=>eX ty x (by simpa using hx)]
 case buildSlice t len ps=>
  split
  ·rename_i e _
   rw[OT e ps fun x hx=>eX e x (by simpa using hx)]
  ·rfl
 case slice t x lo hi mx=>
  cases mx with
  | some m=>
   have e1:lo.map (aK P A.aD 0 sl)=lo.map (aK P A.aD 0 sl'):=by
    cases lo with
    | none=>rfl
    | some l=>simp only[Option.map_some,eX 0 l (by simp)]
   have e2:hi.map (aK P A.aD 0 sl)=hi.map (aK P A.aD 0 sl'):=by
    cases hi with
    | none=>rfl
    | some l=>simp only[Option.map_some,eX 0 l (by simp)]
   have e3:=eX 0 m (by simp)
   simp only[eX ty x (by simp),e1,e2,e3]
  | none=>
   have e1:lo.map (aK P A.aD 0 sl)=lo.map (aK P A.aD 0 sl'):=by
    cases lo with
    | none=>rfl
    | some l=>simp only[Option.map_some,eX 0 l (by simp)]
   have e2:hi.map (aK P A.aD 0 sl)=hi.map (aK P A.aD 0 sl'):=by
    cases hi with
    | none=>rfl
    | some l=>simp only[Option.map_some,eX 0 l (by simp)]
   simp only[eX ty x (by simp),e1,e2]
 case call c=>
  obtain ⟨callee,args,argTypes⟩:=c
  have tj: ∀t x,x∈args→aK P A.aD t sl x=aK P A.aD t sl' x:=fun t x hx=>eX t x (by simp[Call.operands,hx])
  have hl: ∀t (l:List Operand),(∀x∈l,x∈args)→l.map (aK P A.aD t sl)=l.map (aK P A.aD t sl'):=fun t l hl=>List.map_congr_left fun x hx=>tj t x (hl x hx)
  have hz:((args.toList.zip argTypes.toList).map fun p=>aK P A.aD p.2 sl p.1)=(args.toList.zip argTypes.toList).map fun p=>aK P A.aD p.2 sl' p.1:=
   List.map_congr_left fun p hp=>tj p.2 p.1 (Array.mem_toList_iff.1 (List.of_mem_zip hp).1)
  cases callee with
  | invoke r m=>rfl
  | builtin b=>
   have b9: ∀x∈args.toList,∀t,aK P A.aD t sl x=aK P A.aD t sl' x:=fun x hx t=>tj t x (Array.mem_toList_iff.1 hx)
   have Dn: ∀t (l:List Operand),(∀x∈l,∀t,aK P A.aD t sl x=aK P A.aD t sl' x)→l.map (aK P A.aD t sl)=l.map (aK P A.aD t sl'):=fun t l h=>List.map_congr_left fun x hx=>h x hx t
   cases b<;>first|rfl|skip
   case append=>
    dsimp only
    generalize args.toList=al at b9
    match al,b9,argTypes.toList with
    | [s,x],b9,[t,u]=>simp only[b9 s (by simp),b9 x (by simp)]
    | [],_,_=>rfl
    | [_],_,_=>rfl
    | _::_::_::_,_,_=>rfl
    | [_,_],_,[]=>rfl
    | [_,_],_,[_]=>rfl
    | [_,_],_,_::_::_::_=>rfl
   case copy=>
    dsimp only
    generalize args.toList=al at b9
    match al,b9,argTypes.toList with
    | [s,x],b9,[t,u]=>simp only[b9 s (by simp),b9 x (by simp)]
    | [],_,_=>rfl
    | [_],_,_=>rfl
    | _::_::_::_,_,_=>rfl
    | [_,_],_,[]=>rfl
    | [_,_],_,[_]=>rfl
    | [_,_],_,_::_::_::_=>rfl
   case len=>
    dsimp only
    generalize args.toList=al at b9
    match al,b9,argTypes.toList with
    | [x],b9,[t]=>simp only[b9 x (by simp)]
    | [],_,_=>rfl
    | _::_::_,_,_=>rfl
    | [_],_,[]=>rfl
    | [_],_,_::_::_=>rfl
   case clear=>
    dsimp only
    generalize args.toList=al at b9
    match al,b9,argTypes.toList with
    | [x],b9,[t]=>simp only[b9 x (by simp)]
    | [],_,_=>rfl
    | _::_::_,_,_=>rfl
    | [_],_,[]=>rfl
    | [_],_,_::_::_=>rfl
   case unsafeSliceData=>
    dsimp only
    generalize args.toList=al at b9
    match al,b9 with
    | [],_=>rfl
    | [x],b9=>simp only[b9 x (by simp)]
    | _::_::_,_=>rfl
   case unsafeString=>
    dsimp only
    generalize args.toList=al at b9
    match al,b9,argTypes.toList with
    | [s,x],b9,[t,u]=>simp only[b9 s (by simp),b9 x (by simp)]
    | [],_,_=>rfl
    | [_],_,_=>rfl
    | _::_::_::_,_,_=>rfl
    | [_,_],_,[]=>rfl
    | [_,_],_,[_]=>rfl
    | [_,_],_,_::_::_::_=>rfl
   case max=>
    dsimp only
    generalize args.toList=al at b9
    match al,b9 with
    | [],_=>rfl
    | x::l,b9=>simp only[b9 x (by simp),Dn ty l (fun y hy=>b9 y (by simp[hy]))]
   case min=>
    dsimp only
    generalize args.toList=al at b9
    match al,b9 with
    | [],_=>rfl
    | x::l,b9=>simp only[b9 x (by simp),Dn ty l (fun y hy=>b9 y (by simp[hy]))]
  | value f=>
   cases f<;>first|rfl|skip
   ·rename_i t
    have ht:sl t=sl' t:=h (.tmp t) (by simp[Op.operands,Call.operands]) t rfl
    simp only[hz,ht]
   ·simp only[hz]
    cases hx:args.toList with
    | nil=>rfl
    | cons x l=>
     cases l with
     | cons _ _=>rfl
     | nil=>simp only[tj ty x (Array.mem_toList_iff.1 (by rw[hx];simp))]
 case defer c=>
  obtain ⟨callee,args,argTypes⟩:=c
  cases callee with
  | invoke r m=>rfl
  | builtin b=>rfl
  | value f=>
   cases f<;>first|rfl|skip
   rename_i t
   have ht:sl t=sl' t:=h (.tmp t) (by simp[Op.operands,Call.operands]) t rfl
   simp only[ht]
 case makeFunc fn a b=>
  cases fn<;>first|rfl|skip
  have e1:a.toList.map (aK P A.aD ty sl)=a.toList.map (aK P A.aD ty sl'):=List.map_congr_left fun x hx=>eX ty x (by simp[Array.mem_toList_iff.1 hx])
  have e2:b.toList.map (aK P A.aD ty sl)=b.toList.map (aK P A.aD ty sl'):=List.map_congr_left fun x hx=>eX ty x (by simp[Array.mem_toList_iff.1 hx])
  dsimp only
  rw[e1,e2]
 case makeMap t r=>cases r<;>rfl
 all_goals first
  | rfl
  | (simp[eX];done)
end
end Go.AM
namespace Go.AM
section
variable {P:Program} {A:cB} {w w':World} {I I' I2:Nat→Prop} {μ β au:Nat→Option Nat} {hp hp':Nat→Option aj} {C:af} {B:Nat} {M:Nat→Prop} {w0:Start}
theorem OU {n i nb:Nat} {ops:Array Oper} {o:Oper} {st st':St} {R W:List Nat} (h:gv P A C n ops i o nb st=some (st',R,W)):
  ∃x upd,st'=⟨gM st.sl o.dst x,bL st.hp upd,st.nb⟩∧W=upd.map (·.1)∧∀eO:St,(∀d∈o.looksAt ops,eO.sl d=st.sl d)→(∀id∈R,eO.hp id=st.hp id)→
   gv P A C n ops i o nb eO=some (⟨gM eO.sl o.dst x,bL eO.hp upd,eO.nb⟩,R,W):=by
 unfold gv at h
 cases hd:rb o n with
 | false=>rw[hd] at h;cases h
 | true=>
  rw[hd] at h
  simp only[cond_true] at h
  have go:(((fq P A st.sl i (nb+64*i) o).run C st.hp).bind fun r=>some ((⟨gM st.sl o.dst r.1.v,bL st.hp r.1.upd,st.nb⟩:St),r.2,r.1.upd.map (·.1)))=some (st',R,W)→
    ∃x upd,st'=⟨gM st.sl o.dst x,bL st.hp upd,st.nb⟩∧W=upd.map (·.1)∧∀eO:St,(∀d∈o.looksAt ops,eO.sl d=st.sl d)→(∀id∈R,eO.hp id=st.hp id)→
     (((fq P A eO.sl i (nb+64*i) o).run C eO.hp).bind fun r=>some ((⟨gM eO.sl o.dst r.1.v,bL eO.hp r.1.upd,eO.nb⟩:St),r.2,r.1.upd.map (·.1)))=some (⟨gM eO.sl o.dst x,bL eO.hp upd,eO.nb⟩,R,W):=by
   intro h
   obtain ⟨⟨r,rd⟩,h1,h2⟩:=bind_some h
   cases h2
   refine ⟨r.v,r.upd,rfl,rfl,fun eO hs hh=> ?_⟩
   rw[Yw (sl':=st.sl) fun x hx k hk=> ?_,ti h1 hh]
   ·rfl
   ·subst hk
    exact hs k (List.mem_append_left _ (List.mem_filterMap.2 ⟨.tmp k,by simpa using hx,rfl⟩))
  cases hg:o.guard with
  | none=>
   rw[hg] at h
   obtain ⟨x,upd,e1,e2,e3⟩:=go h
   refine ⟨x,upd,e1,e2,fun eO hs hh=> ?_⟩
   unfold gv
   simp only[hd,cond_true,hg]
   exact e3 eO hs hh
  | some gw=>
   obtain ⟨g,want⟩:=gw
   rw[hg] at h
   simp only at h
   cases kP:(ops[g]?).bind (·.dst) with
   | none=>rw[kP] at h;cases h
   | some d=>
    rw[kP] at h
    simp only at h
    have H6:d∈o.looksAt ops:=List.mem_append_right _ (by rw[hg];simp[kP])
    cases lK:kC (st.sl d) with
    | none=>rw[lK] at h;cases h
    | some ob=>
    rw[lK] at h
    cases ob with
    | none=>
     injection h with h
     injection h with h3 h4
     injection h4 with h5 h6
     subst h5;subst h6
     refine ⟨.bh [],[],h3.symm,rfl,fun eO hs hh=> ?_⟩
     unfold gv
     simp only[hd,cond_true,hg,kP,hs d H6,lK]
     rfl
    | some b=>
    simp only at h
    cases hb:b==want with
    | true=>
     rw[hb] at h
     obtain ⟨x,upd,e1,e2,e3⟩:=go h
     refine ⟨x,upd,e1,e2,fun eO hs hh=> ?_⟩
     unfold gv
     simp only[hd,cond_true,hg,kP,hs d H6,lK,hb]
     exact e3 eO hs hh
    | false=>
     rw[hb] at h
     simp only[cond_false] at h
     injection h with h
     injection h with h3 h4
     injection h4 with h5 h6
     subst h5;subst h6
     refine ⟨.bh [],[],h3.symm,rfl,fun eO hs hh=> ?_⟩
     unfold gv
     simp only[hd,cond_true,hg,kP,hs d H6,lK,hb,cond_false]
     rfl
theorem OV {sl:Nat→V} {d:Option Nat} {x:V} {k:Nat} (h:d≠some k):gM sl d x k=sl k:=by
 cases d with
 | none=>rfl
 | some d=>exact eg _ _ fun e=>h (by rw[e])
theorem Yy {hp:Nat→Option aj} {a b:List (Nat × aj)} (h: ∀q∈a,∀q'∈b,q.1≠q'.1):bL (bL hp a) b=bL (bL hp b) a:=by
 funext id
 by_cases ha: ∃q∈a,q.1=id
 ·have hb: ∀q∈b,q.1≠id:=by
   obtain ⟨q,hq,rfl⟩:=ha
   exact fun q' bY e=>h q hq q' bY e.symm
  rw[th hb]
  obtain ⟨q,hq,rfl⟩:=ha
  have same: ∀(bx gz:Nat→Option aj) (l:List (Nat × aj)) (q:Nat × aj),q∈l→bL bx l q.1=bL gz l q.1:=by
   intro bx gz l
   induction l with
   | nil=>intro q hq;simp at hq
   | cons p l ih=>
    intro q hq
    simp only[bL,aH]
    cases hb:Nat.beq q.1 p.1 with
    | true=>rfl
    | false=>
     simp only[cond_false]
     refine ih q ((List.mem_cons.1 hq).resolve_left fun e=> ?_)
     rw[e,Nat.beq_refl] at hb;cases hb
  exact same _ _ a q hq
 ·rw[th (hp:=bL hp b) (l:=a) fun q hq e=>ha ⟨q,hq,e⟩]
  have same: ∀(bx gz:Nat→Option aj) (l:List (Nat × aj)),bx id=gz id→bL bx l id=bL gz l id:=by
   intro bx gz l he
   induction l with
   | nil=>exact he
   | cons p l ih=>
    simp only[bL,aH]
    cases hb:Nat.beq id p.1 with
    | true=>rfl
    | false=>exact ih
  exact same _ _ b (th fun q hq e=>ha ⟨q,hq,e⟩)
structure OW (ops:Array Oper) (o1 o2:Oper) (R1 W1 R2 W2:List Nat):Prop where
 apart:Oper.apart ops o1 o2=true
 w: ∀id∈W1,id∉R2∧id∉W2
 r: ∀id∈R1,id∉W2
theorem Yz {n i j nb:Nat} {ops:Array Oper} {o1 o2:Oper} {st iA eO:St} {R1 W1 R2 W2:List Nat} (h1:gv P A C n ops i o1 nb st=some (iA,R1,W1)) (h2:gv P A C n ops j o2 nb iA=some (eO,R2,W2))
  (hi:OW ops o1 o2 R1 W1 R2 W2): ∃Dp,gv P A C n ops j o2 nb st=some (Dp,R2,W2)∧gv P A C n ops i o1 nb Dp=some (eO,R1,W1):=by
 obtain ⟨x1,u1,e1,f1,g1⟩:=OU h1
 obtain ⟨x2,u2,e2,f2,g2⟩:=OU h2
 obtain ⟨a1,a2,a3⟩:=Oper.apart_spec hi.apart
 subst e1
 refine ⟨_,g2 st (fun d hd=> ?_) (fun id hd=> ?_),?_⟩
 ·simp only
  rw[OV fun e=>a1 d e hd]
 ·simp only
  rw[th fun q hq e=>(hi.w id (by rw[f1];exact List.mem_map.2 ⟨q,hq,e⟩)).1 hd]
 ·rw[g1 _ (fun d hd=> ?_) (fun id hd=> ?_),e2]
  ·congr 3
   ·funext k
    cases YA:o1.dst with
    | none=>rfl
    | some d1=>
     cases mw:o2.dst with
     | none=>rfl
     | some d2=>
      have bM:d2≠d1:=fun e=>a2 d1 YA (by rw[mw,e])
      simp only[gM,aH]
      cases OX:Nat.beq k d1<;>cases rE:Nat.beq k d2<;>simp only[cond_true,cond_false]
      rw[Nat.beq_eq] at OX rE
      exact absurd (rE.symm.trans OX) bM
   ·exact (Yy fun q hq q' bY e=>(hi.w q.1 (by rw[f1];exact List.mem_map.2 ⟨q,hq,rfl⟩)).2 (by rw[f2];exact List.mem_map.2 ⟨q',bY,e.symm⟩)).symm
  ·simp only
   rw[OV fun e=>a3 d e hd]
  ·simp only
   rw[th fun q hq e=>hi.r id hd (by rw[f2];exact List.mem_map.2 ⟨q,hq,e⟩)]
def vz (P:Program) (A:cB) (C:af) (n:Nat) (ops:Array Oper) (nb:Nat):List (Nat × Oper × List Nat × List Nat)→St→St→Prop
 | [],st,st'=>st=st'
 | (i,o,R,W)::l,st,st'=> ∃iA,gv P A C n ops i o nb st=some (iA,R,W)∧vz P A C n ops nb l iA st'
def tk (x:Nat × Oper × List Nat × List Nat):Nat × List Nat × List Nat:=(x.1,x.2.2.1,x.2.2.2)
theorem OY {n nb:Nat} {ops:Array Oper}: ∀{l:List (Nat × Oper)} {st st':St} {log Dq:Log},oD P A C n ops nb l st log=some (st',Dq)→
  ∃g,g.map (fun x=>(x.1,x.2.1))=l∧Dq=log++g.map tk∧vz P A C n ops nb g st st'
 | [],st,st',log,Dq,h=>by
  cases h
  exact ⟨[],rfl,by simp,rfl⟩
 | (i,o)::l,st,st',log,Dq,h=>by
  obtain ⟨⟨iA,R,W⟩,h1,h2⟩:=bind_some h
  obtain ⟨g,a,b,c⟩:=OY h2
  exact ⟨(i,o,R,W)::g,by simp[a],by simp[b,tk],iA,h1,c⟩
def OZ (ops:Array Oper) (x y:Nat × Oper × List Nat × List Nat):Prop:=OW ops x.2.1 y.2.1 x.2.2.1 x.2.2.2 y.2.2.1 y.2.2.2
theorem O0 {n nb:Nat} {ops:Array Oper} {y:Nat × Oper × List Nat × List Nat} {g2:List (Nat × Oper × List Nat × List Nat)}: ∀{g1:List (Nat × Oper × List Nat × List Nat)} {st st':St},
  vz P A C n ops nb (g1++y::g2) st st'→(∀x∈g1,OZ ops x y)→∃iA,gv P A C n ops y.1 y.2.1 nb st=some (iA,y.2.2.1,y.2.2.2)∧vz P A C n ops nb (g1++g2) iA st'
 | [],st,st',h,_=>h
 | x::g1,st,st',h,hi=>by
  obtain ⟨iA,h1,h2⟩:=h
  obtain ⟨eO,h3,h4⟩:=O0 h2 fun z hz=>hi z (List.mem_cons_of_mem _ hz)
  obtain ⟨Dp,h5,h6⟩:=Yz h1 h3 (hi x (by simp))
  exact ⟨Dp,h5,eO,h6,h4⟩
theorem O1 (hC:kf P A C) (hP:iR P A) {n nb:Nat} {ops:Array Oper} {Q:Exit→Act→World→Prop}: ∀{g:List (Nat × Oper × List Nat × List Nat)} {st st':St} {a:Act} {w:World} {I:Nat→Prop} {β:Nat→Option Nat},
  vz P A C n ops nb g st st'→(∀x∈g,ops[x.1]? =some x.2.1)→aE P w I β st.hp B M w0→iz P A.idle A.aD w I β n a st→
  (∀a' w' I' au,Le P w I β st.hp w' I' au st'.hp→aE P w' I' au st'.hp B M w0→iz P A.idle A.aD w' I' au n a' st'→Q .normal a' w')→wpOps P ops Q (g.map (·.1)) a w
 | [],st,st',a,w,I,β,h,_,S,hA,hQ=>by
  cases h
  exact hQ a w I β (Le.refl w I β _) S hA
 | x::g,st,st',a,w,I,β,h,ho,S,hA,hQ=>by
  obtain ⟨iA,h1,h2⟩:=h
  rw[List.map_cons,wpOps_cons]
  refine OS hC hP (ho x (by simp)) S hA h1 fun a' w' I' au k1 k2 k3=> ?_
  exact O1 hC hP h2 (fun y hy=>ho y (List.mem_cons_of_mem _ hy)) k2 k3 fun a2 w2 I2 bX m1 m2 m3=>hQ a2 w2 I2 bX (k1.trans m1) m2 m3
end
end Go.AM
namespace Go.AM
section
variable {P:Program} {A:cB} {w w':World} {I I' I2:Nat→Prop} {μ β au:Nat→Option Nat} {hp hp':Nat→Option aj} {C:af} {B:Nat} {M:Nat→Prop} {w0:Start}
inductive tm (ops:Array Oper):Nat→Nat→Prop
 | O2 {i x:Nat} {o:Oper} {e:Edge}:ops[i]? =some o→e∈o.after→Region.binds .any e=true→e.on=x→tm ops i x
 | trans {i x:Nat} {o:Oper} {e:Edge}:ops[i]? =some o→e∈o.after→Region.binds .any e=true→tm ops e.on x→tm ops i x
theorem O3 {acc:Array Nat} {x:Nat}: ∀{l:List Edge} {s:Nat},(l.foldl (fun s e=>if Region.binds .any e then s|||2^e.on|||acc.getD e.on 0 else s) s).testBit x=true→
  s.testBit x=true∨∃e∈l,Region.binds .any e=true∧(e.on=x∨(acc.getD e.on 0).testBit x=true)
 | [],s,h=> .inl h
 | e::l,s,h=>by
  simp only[List.foldl_cons] at h
  rcases O3 h with h1|⟨e',a,b⟩
  ·by_cases hb:Region.binds .any e=true
   ·rw[if_pos hb,Nat.testBit_or,Nat.testBit_or,Bool.or_eq_true,Bool.or_eq_true] at h1
    rcases h1 with (h1|h1)|h1
    ·exact .inl h1
    ·rw[Nat.testBit_two_pow] at h1
     exact .inr ⟨e,by simp,hb,.inl (by simpa using h1)⟩
    ·exact .inr ⟨e,by simp,hb,.inr h1⟩
   ·rw[if_neg hb] at h1
    exact .inl h1
  ·exact .inr ⟨e',List.mem_cons_of_mem _ a,b⟩
theorem O4 {ops:Array Oper} {x:Nat}: ∀{l:List Oper} {acc:Array Nat},(∀j o,l[j]? =some o→ops[acc.size+j]? =some o)→(∀j,(acc.getD j 0).testBit x=true→tm ops j x)→
  ∀j,((l.foldl (fun acc o=>acc.push (o.after.foldl (fun s e=>if Region.binds .any e then s|||2^e.on|||acc.getD e.on 0 else s) 0)) acc).getD j 0).testBit x=true→tm ops j x
 | [],acc,_,Dr,j,h=>Dr j h
 | o::l,acc,hl,Dr,j,h=>by
  simp only[List.foldl_cons] at h
  refine O4 (l:=l) ?_ ?_ j h
  ·intro j o' hj
   have:=hl (j+1) o' (by simpa using hj)
   rw[Array.size_push]
   rwa [show acc.size+1+j=acc.size+(j+1) by omega]
  ·intro k hk
   simp only[Array.getD_eq_getD_getElem?,Array.getElem?_push] at hk
   by_cases H7:k=acc.size
   ·rw[if_pos H7] at hk
    simp only[Option.getD_some] at hk
    rw[←Array.foldl_toList] at hk
    have ho:=hl 0 o rfl
    rw[Nat.add_zero] at ho
    rw[H7]
    have rE:(o.after.toList.foldl (fun s e=>if Region.binds .any e then s|||2^e.on|||acc.getD e.on 0 else s) 0).testBit x=true:=by simpa[Array.getD_eq_getD_getElem?] using hk
    rcases O3 rE with h0|⟨e,he,hb,h1⟩
    ·simp at h0
    ·rcases h1 with h1|h1
     ·exact .O2 ho (Array.mem_toList_iff.1 he) hb h1
     ·exact .trans ho (Array.mem_toList_iff.1 he) hb (Dr _ h1)
   ·rw[if_neg H7] at hk
    exact Dr k (by simpa[Array.getD_eq_getD_getElem?] using hk)
theorem YB {ops:Array Oper} {i x:Nat} (h:((Region.before ops).getD i 0).testBit x=true):tm ops i x:=by
 unfold Region.before at h
 rw[←Array.foldl_toList] at h
 refine O4 (l:=ops.toList) (acc:= #[]) (fun j o hj=>by simpa using hj) (fun j hj=>by simp at hj) i h
def O5 (ops:Array Oper) (listed:Array Bool):Prop:= ∀i o,ops[i]? =some o→listed.getD i false=true→∀e∈o.after,Region.binds .any e=true→listed.getD e.on false=true
theorem YC {ops:Array Oper} {listed:Array Bool} (hc:O5 ops listed) {i x:Nat} (h:tm ops i x) (hi: ∀o,ops[i]? =some o→∀e∈o.after,Region.binds .any e=true→listed.getD e.on false=true):listed.getD x false=true:=by
 induction h with
 | O2 ho he hb hx=>rw[←hx];exact hi _ ho _ he hb
 | trans ho he hb _ ih=>exact ih fun o' lB e' sY az=>hc _ o' lB (hi _ ho _ he hb) e' sY az
theorem O6: ∀{l:List Oper} {k j:Nat} {o:Oper},xu k l=true→l[j]? =some o→∀e∈o.after,Region.binds .any e=true→e.on<k+j
 | [],k,j,o,_,h=>by simp at h
 | o'::l,k,j,o,hk,h=>by
  simp only[xu,Bool.and_eq_true] at hk
  cases j with
  | zero=>
   simp at h
   subst h
   intro e he hb
   have:=List.all_eq_true.1 hk.1 e (Array.mem_toList_iff.2 he)
   simp[hb] at this
   omega
  | succ j=>
   intro e he hb
   have:=O6 hk.2 (j:=j) (by simpa using h) e he hb
   omega
theorem O7 {ops:Array Oper} {sA:Array Nat}: ∀{l:Log},Ci ops sA l=true→l.Pairwise fun x y=>xt ops sA x y=true
 | [],_=> .nil
 | x::l,h=>by
  simp only[Ci,Bool.and_eq_true] at h
  exact .cons (fun y hy=>List.all_eq_true.1 h.1 y hy) (O7 h.2)
theorem O8 {listed:Array Bool} {i:Nat} (h:listed.getD i true=false):i<listed.size∧listed.getD i false=false:=by
 rcases Nat.lt_or_ge i listed.size with h'|h'
 ·refine ⟨h',?_⟩
  simpa[h'] using h
 ·simp[Array.getElem?_eq_none h'] at h
theorem O9 (hC:kf P A C) (hP:iR P A) {n nb:Nat} {ops:Array Oper} {Q:Exit→Act→World→Prop} (Ds:xu 0 ops.toList=true):
  ∀(fuel:Nat) {g:List (Nat × Oper × List Nat × List Nat)} {listed:Array Bool} {st st':St} {a:Act} {w:World} {I:Nat→Prop} {β:Nat→Option Nat},
  g.length=fuel→vz P A C n ops nb g st st'→(∀x∈g,ops[x.1]? =some x.2.1)→(g.map (·.1)).Pairwise (· < ·)→(g.map tk).Pairwise (fun x y=>xt ops (Region.before ops) x y=true)→
  listed.size=ops.size→(∀i,i<ops.size→(listed.getD i false=false↔i∈g.map (·.1)))→O5 ops listed→
  aE P w I β st.hp B M w0→iz P A.idle A.aD w I β n a st→
  (∀a' w' I' au,Le P w I β st.hp w' I' au st'.hp→aE P w' I' au st'.hp B M w0→iz P A.idle A.aD w' I' au n a' st'→Q .normal a' w')→wpAny P .any ops Q fuel listed a w
 | 0,g,listed,st,st',a,w,I,β,hf,hr,ho,aR,Dt,aZ,tn,jI,S,hA,hQ=>by
  obtain rfl:g=[]:=List.eq_nil_of_length_eq_zero hf
  cases hr
  refine ⟨?_,hQ a w I β (Le.refl w I β _) S hA⟩
  rw[List.eq_nil_iff_forall_not_mem]
  intro i hi
  obtain ⟨h0,_⟩:=mem_ready.1 hi
  obtain ⟨h1,h2⟩:=O8 h0
  have:=(tn i (by omega)).1 h2
  simp at this
 | fuel+1,g,listed,st,st',a,w,I,β,hf,hr,ho,aR,Dt,aZ,tn,jI,S,hA,hQ=>by
  refine ⟨fun yw=> ?_,fun i hi=> ?_⟩
  ·exfalso
   cases g with
   | nil=>simp at hf
   | cons x g=>
    have hx:=ho x (by simp)
    have gk:x.1<ops.size:=(Array.getElem?_eq_some_iff.1 hx).1
    have dO:x.1∈Region.ready .any ops listed:=by
     rw[mem_ready]
     have h0:=(tn x.1 gk).2 (by simp)
     refine ⟨?_,x.2.1,hx,fun e he hb=> ?_⟩
     ·have hl:x.1<listed.size:=by omega
      simpa[hl] using h0
     ·have Hr:=O6 Ds (j:=x.1) (by simpa using hx) e he hb
      rw[Nat.zero_add] at Hr
      cases hle:listed.getD e.on false with
      | true=>rfl
      | false=>
       have hm:=(tn e.on (by omega)).1 hle
       simp only[List.map_cons,List.mem_cons] at hm
       rw[List.map_cons,List.pairwise_cons] at aR
       rcases hm with hm|hm
       ·omega
       ·have:=aR.1 _ hm;omega
    rw[yw] at dO
    cases dO
  ·obtain ⟨h0,oi,yz,Pb⟩:=mem_ready.1 hi
   obtain ⟨h1,h2⟩:=O8 h0
   have YD:=(tn i (by omega)).1 h2
   obtain ⟨y,hy,YE⟩:=List.mem_map.1 YD
   obtain ⟨g1,g2,rfl⟩:=List.append_of_mem hy
   subst YE
   have Pc:=ho y hy
   rw[yz] at Pc
   have Pd:oi=y.2.1:=Option.some.inj Pc
   have jK:((g1++y::g2).map (·.1)).Nodup:=aR.imp fun h=>Nat.ne_of_lt h
   have YF: ∀x∈g1,OZ ops x y:=by
    intro x hx
    have hp:xt ops (Region.before ops) (tk x) (tk y)=true:=by
     rw[List.map_append,List.map_cons,List.pairwise_append] at Dt
     exact Dt.2.2 _ (List.mem_map.2 ⟨x,hx,rfl⟩) _ (by simp)
    have Pe:=ho x (List.mem_append.2 (.inl hx))
    unfold xt at hp
    rw[Bool.or_eq_true] at hp
    rcases hp with hp|hp
    ·have hl:=YC jI (YB hp) fun o lB e he hb=>by
      have:o=oi:=by
       have h3:ops[y.1]? =some o:=lB
       rw[yz] at h3
       exact (Option.some.inj h3).symm
      subst this
      exact Pb e he hb
     have gk:x.1<ops.size:=(Array.getElem?_eq_some_iff.1 Pe).1
     have:=(tn x.1 gk).2 (List.mem_map.2 ⟨x,List.mem_append.2 (.inl hx),rfl⟩)
     rw[show (tk x).1=x.1 from rfl,this] at hl
     cases hl
    ·simp only[tk,Array.getD_eq_getD_getElem?,Pe,yz,Option.getD_some,Bool.and_eq_true,Bool.not_eq_true'] at hp
     obtain ⟨q1,q2,q3⟩:=hp
     refine ⟨Pd▸q1,fun id ae=> ?_,fun id ae=>De q3 ae⟩
     have:=De q2 ae
     rw[List.mem_append] at this
     exact ⟨fun h=>this (.inl h),fun h=>this (.inr h)⟩
   obtain ⟨iA,jd,ji⟩:=O0 hr YF
   rw[←Pd] at jd
   refine OS hC hP yz S hA jd fun a' w' I' au k1 k2 k3=> ?_
   have gW:List.Sublist (g1++g2) (g1++y::g2):=List.Sublist.append_left (List.sublist_cons_self y g2) g1
   have nz: ∀j,j≠y.1→(listed.setIfInBounds y.1 true).getD j false=listed.getD j false:=fun j hj=>getD_set_ne false (Ne.symm hj)
   refine O9 hC hP Ds fuel (g:=g1++g2) (st':=st') ?_ ji (fun x hx=>ho x (gW.subset hx)) (aR.sublist (gW.map _)) (Dt.sublist (gW.map _)) (by simp[aZ]) (fun j hj=> ?_) (fun j o H8 cX e he hb=> ?_) k2 k3 fun a2 w2 I2 bX m1 m2 m3=>hQ a2 w2 I2 bX (k1.trans m1) m2 m3
   ·simp at hf⊢;omega
   ·by_cases oK:j=y.1
    ·subst oK
     have hl:y.1<listed.size:=by omega
     simp only[Array.getD_eq_getD_getElem?,Array.getElem?_setIfInBounds_self_of_lt hl,Option.getD_some]
     refine ⟨fun h=>(by cases h),fun h=> ?_⟩
     exfalso
     rw[List.map_append,List.map_cons,List.nodup_append,List.nodup_cons] at jK
     rw[List.map_append,List.mem_append] at h
     rcases h with h|h
     ·exact jK.2.2 _ h _ (by simp) rfl
     ·exact jK.2.1.1 h
    ·rw[nz j oK,tn j hj]
     simp only[List.map_append,List.map_cons,List.mem_append,List.mem_cons]
     constructor
     ·rintro (h|h|h)
      ·exact .inl h
      ·exact absurd h oK
      ·exact .inr h
     ·rintro (h|h)
      ·exact .inl h
      ·exact .inr (.inr h)
   ·by_cases oK:j=y.1
    ·subst oK
     rw[yz] at H8
     cases H8
     exact getD_set_true (Pb e he hb)
    ·rw[nz j oK] at cX
     exact getD_set_true (jI j o H8 cX e he hb)
end
end Go.AM
namespace Go.AM
section
variable {P:Program} {A:cB} {w w':World} {I I' I2:Nat→Prop} {μ β au:Nat→Option Nat} {hp hp':Nat→Option aj} {C:af} {B:Nat} {M:Nat→Prop} {w0:Start}
theorem Pf: ∀{l:List Oper} {k j:Nat},(nw k l)[j]? =(l[j]?).map fun o=>(k+j,o)
 | [],k,j=>by simp[nw]
 | o::l,k,0=>by simp[nw]
 | o::l,k,j+1=>by
  simp only[nw,List.getElem?_cons_succ,Pf]
  congr 1
  funext o
  rw[show k+1+j=k+(j+1) by omega]
theorem Pg: ∀{l:List Oper} {k:Nat},(nw k l).map (·.1)=List.range' k l.length
 | [],k=>rfl
 | o::l,k=>by simp[nw,Pg,List.range'_succ]
theorem YG (hC:kf P A C) (hP:iR P A) (hm:P.follows .mixedOrders=true) {n id:Nat} {ops:Array Oper} {draw:Bool} {st st':St} {a:Act} {Q:Exit→Act→World→Prop}
  (h:uS P A C n ops draw st=some st') (S:aE P w I β st.hp B M w0) (hA:iz P A.idle A.aD w I β n a st)
  (hQ: ∀a' w' I' au,Le P w I β st.hp w' I' au st'.hp→aE P w' I' au st'.hp B M w0→iz P A.idle A.aD w' I' au n a' st'→Q .normal a' w'):(Code.region id ops draw).wp P Q a w:=by
 obtain ⟨⟨iA,log⟩,h1,h2⟩:=bind_some h
 obtain ⟨g,g1,g2,g3⟩:=OY h1
 have Du:g.map (·.1)=List.range ops.size:=by
  have:g.map (·.1)=(g.map fun x=>(x.1,x.2.1)).map (·.1):=by simp
  rw[this,g1,Pg,List.range_eq_range']
  simp
 have Ph: ∀x∈g,ops[x.1]? =some x.2.1:=by
  intro x hx
  have:(x.1,x.2.1)∈nw 0 ops.toList:=by rw[←g1];exact List.mem_map.2 ⟨x,hx,rfl⟩
  obtain ⟨j,hj⟩:=List.mem_iff_getElem?.1 this
  rw[Pf] at hj
  cases ho:ops.toList[j]? with
  | none=>rw[ho] at hj;cases hj
  | some o=>
   rw[ho] at hj
   simp only[Option.map_some,Nat.zero_add,Option.some.injEq,Prod.mk.injEq] at hj
   rw[←hj.1,←hj.2]
   simpa using ho
 cases draw with
 | false=>
  simp only[Bool.not_false,Bool.true_or,cond_true] at h2
  cases h2
  refine wp_region ?_
  rw[←Du]
  exact O1 hC hP g3 Ph S hA hQ
 | true=>
  simp only[Bool.not_true,Bool.false_or] at h2
  cases hc:(Region.noSelect ops&&xw ops log) with
  | false=>rw[hc] at h2;cases h2
  | true=>
   rw[hc] at h2
   cases h2
   simp only[Bool.and_eq_true,xw] at hc
   obtain ⟨hns,Ds,YH⟩:=hc
   simp only[List.nil_append] at g2
   refine wp_region_any hm ?_
   have hlen:g.length=ops.size:=by
    have:=congrArg List.length Du
    simpa using this
   refine O9 hC hP Ds ops.size (g:=g) (st':=st') hlen g3 Ph (by rw[Du];exact List.pairwise_lt_range) (by rw[←g2];exact O7 YH) (by simp) (fun i hi=> ?_) (fun i o ho hl=> ?_)
    (w:=w.drew) S.drew ⟨fun k=>(hA.sl k).mono (Le.drew w I β _),hA.size,hA.defers,hA.aD.mono (Le.drew (P:=P) w I β st.hp).dr (Le.drew (P:=P) w I β st.hp).b8⟩ fun a' w' I' au k1 k2 k3=>hQ a' w' I' au ((Le.drew w I β _).trans k1) k2 k3
   ·rw[Du]
    simp[hi]
   ·have hi:=(Array.getElem?_eq_some_iff.1 ho).1
    simp[hi] at hl
end
end Go.AM
namespace Go.AM
section
variable {P:Program} {A:cB} {E:FuncId→Bool} {G:Nat→V} {w w':World} {I I' I2:Nat→Prop} {μ β au:Nat→Option Nat} {hp hp':Nat→Option aj} {C:af} {B:Nat} {M:Nat→Prop} {w0:Start}
theorem tp: ∀{l:List Nat} {hp:Nat→Option aj} {I:Nat→Prop},aE P w I β hp B M w0→∃I',Le P w I β hp w I' β (sy hp l)∧aE P w I' β (sy hp l) B M w0
 | [],hp,I,S=>⟨I,Le.refl w I β hp,S⟩
 | id::l,hp,I,S=>by
  simp only[sy]
  cases ae:hp id with
  | none=>exact tp S
  | some blk=>
   cases blk with
   | dead=>exact tp S
   | var _=>exact tp S
   | map _ _=>exact tp S
   | arr e es fz=>
    obtain ⟨h1,h2⟩:=xJ S (upd:=[(id,.arr e es true)]) (fun p hp=>by
     simp only[List.mem_singleton] at hp
     subst hp
     exact ⟨e,es,rfl,.inl ⟨fz,ae⟩⟩)
    obtain ⟨I',h3,h4⟩:=tp (l:=l) h2
    exact ⟨I',h1.trans h3,h4⟩
   | nest e es ao=>
    obtain ⟨h1,h2⟩:=xJ S (upd:=[(id,.arr e es true)]) (fun p hp=>by
     simp only[List.mem_singleton] at hp
     subst hp
     exact ⟨e,es,rfl,.inr ⟨ao,ae⟩⟩)
    obtain ⟨I',h3,h4⟩:=tp (l:=l) h2
    exact ⟨I',h1.trans h3,h4⟩
theorem Pj {n m:Nat} {pur:List Nat} {a:Act} {st:St} (S:aE P w I β st.hp B M w0) (hA:iz P E G w I β n a st):
  ∃I',Le P w I β st.hp w I' β (freeze m pur st).hp∧aE P w I' β (freeze m pur st).hp B M w0∧iz P E G w I' β n a (freeze m pur st):=by
 obtain ⟨I',h1,h2⟩:=tp (l:=(ML st pur).filter fun id=>Nat.ble m id) S
 exact ⟨I',h1,h2,fun k=>(hA.sl k).mono h1,hA.size,hA.defers,hA.aD.mono h1.dr h1.b8⟩
structure vA (hp:Nat→Option aj) (β:Nat→Option Nat) (ord:List Nat) (hp':Nat→Option aj) (au:Nat→Option Nat):Prop where
 arr: ∀(j:Nat) id e es fz,ord[j]? =some id→hp id=some (.arr e es fz)→hp' j=some (.arr e es fz)
 var: ∀(j:Nat) id T cs,ord[j]? =some id→hp id=some (.var T cs)→∃gV,hp' j=some (.var T gV)
 dead: ∀(j:Nat) id,ord[j]? =some id→hp id=some .dead→hp' j=some .dead
 place: ∀(j:Nat) id,ord[j]? =some id→au j=β id
 nest: ∀(j:Nat) id e es ao,ord[j]? =some id→hp id=some (.nest e es ao)→hp' j=some (.nest e es (ao.map fun _=>0))
 map: ∀(j:Nat) id t es,ord[j]? =some id→hp id=some (.map t es)→hp' j=some (.map t es)
theorem kQ: ∀{l:List Nat} {n i j:Nat},gN l n i=some j→∃k,j=i+k∧l[k]? =some n
 | [],n,i,j,h=>by cases h
 | a::l,n,i,j,h=>by
  simp only[gN] at h
  cases hb:Nat.beq n a with
  | true=>
   rw[hb] at h
   cases h
   rw[Nat.beq_eq] at hb
   exact ⟨0,rfl,by rw[hb];rfl⟩
  | false=>
   rw[hb] at h
   obtain ⟨k,h1,h2⟩:=kQ h
   exact ⟨k+1,by omega,by simpa using h2⟩
def kg (hp':Nat→Option aj) (au:Nat→Option Nat) (n:Nat) (bs:List aj):Prop:=
 ∀(k:Nat) b,bs[k]? =some b→hp' (n+k)=some b∧au (n+k)=none
theorem H9: ∀(ao:List Nat) (k:Nat),bD (ao.map fun _=>0) k=0
 | [],_=>rfl
 | _::_,0=>rfl
 | _::vs,k+1=>H9 vs k
theorem Pk {e:TypeId} {es:List V} {ao:List Nat} {path:Path} {ver:Nat} (hc:(Nat.blt 0 path.length&&(Nat.ble path.length ao.length&&Nat.beq (bD ao (path.length-1)) ver))=true)
  (h:(aj.nest e es ao).sD path ver):False:=by
 simp only[Bool.and_eq_true,Nat.blt_eq,Nat.ble_eq,Nat.beq_eq] at hc
 obtain ⟨h1,h2,h3⟩:=hc
 rcases h with h|h|h
 ·subst h;simp at h1
 ·omega
 ·omega
theorem Pl (S:aE P w I β hp B M w0) {ord:List Nat} (hR:vA hp β ord hp' au) {v:Value} {x:V} (hv:an P w I β hp v x):an P w I au hp' v (gO hp ord x):=by
 cases hv with
 | undef=>exact .undef
 | int=>exact .int
 | bool=>exact .bool
 | str h=>exact .str h
 | list h=>exact .list h
 | nilS=>exact .nilS
 | agg=>exact .undef
 | bh=>exact .undef
 | dx=>exact .dx
 | fn=>exact .undef
 | pref a b c=>exact .pref a b c
 | @ed _ e id ae=>
  simp only[gO]
  cases bx:gN ord id 0 with
  | none=>simp only[ae];exact .undef
  | some j=>
   obtain ⟨k,rfl,hk⟩:=kQ bx
   exact .ed (hR.dead _ id (by simpa using hk) ae)
 | @fV _ e id off len ae=>
  simp only[gO]
  cases bx:gN ord id 0 with
  | none=>simp only[ae];exact .undef
  | some j=>
   obtain ⟨k,rfl,hk⟩:=kQ bx
   exact .fV (hR.dead _ id (by simpa using hk) ae)
 | @jD _ id i c ae=>
  simp only[gO]
  cases bx:gN ord id 0 with
  | none=>exact .undef
  | some j=>
   obtain ⟨k,rfl,hk⟩:=kQ bx
   exact .jD (hR.dead _ id (by simpa using hk) ae)
 | @dL e id fz _ ae hb=>
  simp only[gO]
  cases bx:gN ord id 0 with
  | none=>
   simp only[ae]
   cases fz with
   | false=>exact .undef
   | true=>simp only[Nat.beq_refl,cond_true];exact .list (.any fun _=>rfl)
  | some j=>
   obtain ⟨k,rfl,hk⟩:=kQ bx
   have dC:ord[0+k]? =some id:=by simpa using hk
   exact .dL (hR.arr _ id _ _ _ dC ae) ((hR.place _ id dC).trans hb)
 | @whole e id es fz b cap ae hb aZ b6 hm=>
  simp only[gO]
  cases bx:gN ord id 0 with
  | none=>
   simp only[ae]
   cases fz with
   | false=>exact .undef
   | true=>
    simp only[Nat.beq_refl,cond_true]
    have hr:=S.h.rel id _ ae
    cases hr with
    | dM az=>rw[az] at hb;cases hb
    | arr ax az hh hs hf ee hx=>
     rw[hb] at az;cases az
     have:=sI (I':=I) (off:=0) (len:=es.length) (o:=0) hh hx (fu ax) (by omega) b6 (fun _=>by simp) (fun _ h=>h) (hf rfl)
     exact .list (by simpa using this)
  | some j=>
   obtain ⟨k,rfl,hk⟩:=kQ bx
   have dC:ord[0+k]? =some id:=by simpa using hk
   exact .whole (hR.arr _ id _ _ _ dC ae) ((hR.place _ id dC).trans hb) aZ b6 hm
 | @fI e id fz _ ae hb=>
  simp only[gO]
  cases bx:gN ord id 0 with
  | none=>
   simp only[ae]
   cases fz with
   | false=>exact .undef
   | true=>simp only[Nat.beq_refl,cond_true];exact .list (by simpa using (ik.any (P:=P) fun _=>rfl))
  | some j=>
   obtain ⟨k,rfl,hk⟩:=kQ bx
   have dC:ord[0+k]? =some id:=by simpa using hk
   exact .fI (hR.arr _ id _ _ _ dC ae) ((hR.place _ id dC).trans hb)
 | @sub e id off len es fz b o cap ae hb iM b6 ho=>
  simp only[gO]
  cases bx:gN ord id 0 with
  | none=>
   simp only[ae]
   cases fz with
   | false=>exact .undef
   | true=>
    simp only[Nat.beq_refl,cond_true]
    have hr:=S.h.rel id _ ae
    cases hr with
    | dM az=>rw[az] at hb;cases hb
    | arr ax az hh hs hf ee hx=>
     rw[hb] at az;cases az
     exact .list (sI (I':=I) hh hx (fu ax) iM b6 ho (fun _ h=>h) (hf rfl))
  | some j=>
   obtain ⟨k,rfl,hk⟩:=kQ bx
   have dC:ord[0+k]? =some id:=by simpa using hk
   exact .sub (hR.arr _ id _ _ _ dC ae) ((hR.place _ id dC).trans hb) iM b6 ho
 | @ptr id i c b blk ae hd hb=>
  simp only[gO]
  cases bx:gN ord id 0 with
  | none=>exact .undef
  | some j=>
   obtain ⟨k,rfl,hk⟩:=kQ bx
   have dC:ord[0+k]? =some id:=by simpa using hk
   cases blk with
   | dead=>exact absurd rfl hd
   | var T0 cs=>
    obtain ⟨gV,h'⟩:=hR.var _ id T0 cs dC ae
    exact .ptr (blk:= .var T0 gV) h' (by simp) ((hR.place _ id dC).trans hb)
   | arr e es fz=>exact .ptr (blk:= .arr e es fz) (hR.arr _ id _ _ _ dC ae) (by simp) ((hR.place _ id dC).trans hb)
   | nest e es ao=>exact .ptr (blk:= .nest e es (ao.map fun _=>0)) (hR.nest _ id _ _ _ dC ae) (by simp) ((hR.place _ id dC).trans hb)
   | map t es=>exact .ptr (blk:= .map t es) (hR.map _ id _ _ dC ae) (by simp) ((hR.place _ id dC).trans hb)
 | dy=>exact .dy
 | @gS _ t id ae=>
  simp only[gO]
  cases bx:gN ord id 0 with
  | none=>exact .undef
  | some j=>
   obtain ⟨k,rfl,hk⟩:=kQ bx
   exact .gS (hR.dead _ id (by simpa using hk) ae)
 | @bC t id b es ae hb=>
  simp only[gO]
  cases bx:gN ord id 0 with
  | none=>exact .undef
  | some j=>
   obtain ⟨k,rfl,hk⟩:=kQ bx
   have dC:ord[0+k]? =some id:=by simpa using hk
   exact .bC (hR.map _ id _ _ dC ae) ((hR.place _ id dC).trans hb)
 | @eu e id es ao b cap ae hb aZ b6 hm=>
  simp only[gO]
  cases bx:gN ord id 0 with
  | none=>simp only[ae];exact .undef
  | some j=>
   obtain ⟨k,rfl,hk⟩:=kQ bx
   have dC:ord[0+k]? =some id:=by simpa using hk
   exact .eu (hR.nest _ id _ _ _ dC ae) ((hR.place _ id dC).trans hb) aZ b6 hm
 | @iZ v e id ver path blk ae xH=>
  simp only[gO]
  split
  ·rename_i j e1 cd ao h1 h2
   rw[ae] at h2
   cases h2
   cases hc:(Nat.blt 0 path.length&&(Nat.ble path.length ao.length&&Nat.beq (bD ao (path.length-1)) ver)) with
   | false=>exact .undef
   | true=>exact (Pk hc xH).elim
  ·exact .undef
 | @ja v id ver i c path blk ae xH=>
  simp only[gO]
  split
  ·rename_i j e1 cd ao h1 h2
   rw[ae] at h2
   cases h2
   cases hc:(Nat.blt 0 path.length&&(Nat.ble path.length ao.length&&Nat.beq (bD ao (path.length-1)) ver)) with
   | false=>exact .undef
   | true=>exact (Pk hc xH).elim
  ·exact .undef
 | @row v e e0 t id ver b i c q es l ao ae hb hq hv ht hc=>
  simp only[gO]
  split
  ·rename_i j e1 cd tf h1 h2
   obtain ⟨k,rfl,hk⟩:=kQ h1
   have dC:ord[0+k]? =some id:=by simpa using hk
   cases hx:(Nat.blt 0 (q++[(i,c)]).length&&(Nat.ble (q++[(i,c)]).length tf.length&&Nat.beq (bD tf ((q++[(i,c)]).length-1)) ver)) with
   | false=>exact .undef
   | true=>exact .row (hR.nest _ id _ _ _ dC ae) ((hR.place _ id dC).trans hb) (by simpa using hq) (H9 _ _) ht hc
  ·exact .undef
 | @cA e e0 t id ver b b1 len cap i0 c0 i c q es l ao ae hb hq hv ht lA hc=>
  simp only[gO]
  split
  ·rename_i j e1 cd tf h1 h2
   obtain ⟨k,rfl,hk⟩:=kQ h1
   have dC:ord[0+k]? =some id:=by simpa using hk
   cases hx:(Nat.blt 0 (q++[(i0,c0)]).length&&(Nat.ble (q++[(i0,c0)]).length tf.length&&Nat.beq (bD tf ((q++[(i0,c0)]).length-1)) ver)) with
   | false=>exact .undef
   | true=>exact .cA (hR.nest _ id _ _ _ dC ae) ((hR.place _ id dC).trans hb) (by simpa using hq) (H9 _ _) ht lA hc
  ·exact .undef
theorem Pm (S:aE P w I β hp B M w0) {ord:List Nat} (hR:vA hp β ord hp' au) {vs:Array Value} {xs:List V} (h: ∀(j:Nat) v x,vs[j]? =some v→xs[j]? =some x→an P w I β hp v x) (j:Nat) (v:Value) (y:V)
  (hv:vs[j]? =some v) (hy:(xs.map (gO hp ord))[j]? =some y):an P w I au hp' v y:=by
 rw[List.getElem?_map] at hy
 cases hx:xs[j]? with
 | none=>rw[hx] at hy;cases hy
 | some x=>rw[hx] at hy;cases hy;exact Pl S hR (h j v x hv hx)
theorem Pn (S:aE P w I β hp B M w0) {ord:List Nat} (hR:vA hp β ord hp' au) {n:Nat} {v:Value} {x:V} (hv:an P w I β hp v x) (hF:kg hp' au n (uQ hp ord n x).2):
  an P w I au hp' v (uQ hp ord n x).1:=by
 cases x with
 | nilS e=>
  obtain ⟨h1,h2⟩:=hF 0 _ rfl
  cases hv with
  | nilS=>exact .dL h1 h2
 | fn f a b=>
  cases hv with
  | fn q1 q2 q3 q4=>exact .fn (by simpa using q1) (Pm S hR q2) (by simpa using q3) (Pm S hR q4)
 | _=>exact Pl S hR hv
end
end Go.AM
namespace Go.AM
section
variable {P:Program} {A:cB} {w w':World} {I I' I2:Nat→Prop} {μ β au:Nat→Option Nat} {hp hp':Nat→Option aj} {C:af} {B:Nat} {M:Nat→Prop} {w0:Start}
theorem kg.left {n:Nat} {a b:List aj} (h:kg hp' au n (a++b)):kg hp' au n a:=fun k x hx=>
 h k x (by rw[List.getElem?_append_left (List.getElem?_eq_some_iff.1 hx).1];exact hx)
theorem kg.right {n:Nat} {a b:List aj} (h:kg hp' au n (a++b)):kg hp' au (n+a.length) b:=fun k x hx=>by
 have:=h (a.length+k) x (by rw[List.getElem?_append_right (by omega),Nat.add_sub_cancel_left];exact hx)
 rwa [←Nat.add_assoc] at this
def lM (bs:List aj):Prop:= ∀b∈bs,∃e,b= .arr e [] false
theorem lM.app {a b:List aj} (h1:lM a) (h2:lM b):lM (a++b):=fun x hx=>(List.mem_append.1 hx).elim (h1 x) (h2 x)
theorem lM.nil:lM []:=fun x hx=>by simp at hx
theorem Po {ord:List Nat} {n:Nat} {x:V}:lM (uQ hp ord n x).2:=by
 cases x<;>simp only[uQ]<;>first|exact .nil|skip
 intro b hb
 simp only[List.mem_singleton] at hb
 exact ⟨_,hb⟩
theorem Ia {ord:List Nat}: ∀{xs:List V} {n:Nat},lM (ml hp ord n xs).2
 | [],n=> .nil
 | x::xs,n=>by
  simp only[ml]
  exact Po.app Ia
theorem Dv {ord:List Nat}: ∀{xs:List V} {n:Nat},(ml hp ord n xs).1.length=xs.length
 | [],n=>rfl
 | x::xs,n=>by simp only[ml,List.length_cons,Dv]
theorem Dw (S:aE P w I β hp B M w0) {ord:List Nat} (hR:vA hp β ord hp' au): ∀{xs:List V} {vs:List Value} {n:Nat},(∀(j:Nat) v x,vs[j]? =some v→xs[j]? =some x→an P w I β hp v x)→
  kg hp' au n (ml hp ord n xs).2→∀(j:Nat) v y,vs[j]? =some v→(ml hp ord n xs).1[j]? =some y→an P w I au hp' v y
 | [],vs,n,h,hF,j,v,y,hv,hy=>by simp[ml] at hy
 | x::xs,vs,n,h,hF,j,v,y,hv,hy=>by
  simp only[ml] at hF hy
  cases j with
  | zero=>
   simp at hy
   subst hy
   exact Pn S hR (h 0 v x hv rfl) hF.left
  | succ j=>
   cases vs with
   | nil=>simp at hv
   | cons v0 vs=>exact Dw S hR (vs:=vs) (fun j v x hj hx=>h (j+1) v x (by simpa using hj) (by simpa using hx)) hF.right j v y (by simpa using hv) (by simpa using hy)
theorem YI {ord:List Nat} {n:Nat} {x:V}:lM (pC hp ord n x).2:=by
 cases x<;>simp only[pC]<;>first|exact Po|exact Ia
theorem YJ (S:aE P w I β hp B M w0) {ord:List Nat} (hR:vA hp β ord hp' au) {n:Nat} {v:Value} {x:V} (hv:an P w I β hp v x) (hF:kg hp' au n (pC hp ord n x).2):
  an P w I au hp' v (pC hp ord n x).1:=by
 cases x with
 | agg cs=>
  obtain ⟨ds,rfl,h1,h2⟩:=hv.j7
  simp only[pC] at hF⊢
  exact .agg (by rw[Dv];exact h1) fun j v y hj hy=>Dw S hR (vs:=ds.toList) (fun j v x hj hx=>h2 j v x (by simpa using hj) hx) hF j v y (by simpa using hj) hy
 | bh cs=>
  obtain ⟨ds,rfl,h1,h2⟩:=hv.sM
  simp only[pC] at hF⊢
  exact .bh (by rw[Dv];exact h1) fun j v y hj hy=>Dw S hR (vs:=ds.toList) (fun j v x hj hx=>h2 j v x (by simpa using hj) hx) hF j v y (by simpa using hj) hy
 | _=>exact Pn S hR hv hF
theorem Pp {ord:List Nat} {sl:Nat→V}: ∀{l:List Nat} {n:Nat},lM (kF hp ord sl n l).2
 | [],n=> .nil
 | s::l,n=>by
  simp only[kF]
  exact YI.app Pp
theorem Pq {ord:List Nat} {sl:Nat→V} {k:Nat} {y:V}: ∀{l:List Nat} {n:Nat},kg hp' au n (kF hp ord sl n l).2→dK (kF hp ord sl n l).1 k=some y→
  ∃n',kg hp' au n' (pC hp ord n' (sl k)).2∧y=(pC hp ord n' (sl k)).1
 | [],n,_,h=>by cases h
 | s::l,n,hF,h=>by
  simp only[kF] at hF h
  simp only[dK] at h
  cases hb:Nat.beq k s with
  | true=>
   rw[hb] at h
   rw[Nat.beq_eq] at hb
   subst hb
   cases h
   exact ⟨n,hF.left,rfl⟩
  | false=>
   rw[hb] at h
   exact Pq hF.right h
theorem YK {ord:List Nat} {n id:Nat}:lM (eT hp ord n id).2:=by
 unfold eT
 split
 ·exact Ia
 ·exact .nil
 ·exact .nil
 ·exact .nil
 ·exact .nil
theorem Pr {ord:List Nat}: ∀{l:List Nat} {n:Nat},lM (ft hp ord n l).2
 | [],n=> .nil
 | s::l,n=>by
  simp only[ft]
  exact YK.app Pr
theorem Ps {ord:List Nat}: ∀{l:List Nat} {n:Nat},(ft hp ord n l).1.length=l.length
 | [],n=>rfl
 | x::xs,n=>by simp only[ft,List.length_cons,Ps]
theorem Pt {ord:List Nat}: ∀{l:List Nat} {n j:Nat} {id:Nat},l[j]? =some id→∃n',(kg hp' au n (ft hp ord n l).2→kg hp' au n' (eT hp ord n' id).2)∧(ft hp ord n l).1[j]? =some (eT hp ord n' id).1
 | [],n,j,id,h=>by simp at h
 | s::l,n,j,id,h=>by
  simp only[ft]
  cases j with
  | zero=>
   simp at h
   subst h
   exact ⟨n,fun hF=>hF.left,rfl⟩
  | succ j=>
   obtain ⟨n',h1,h2⟩:=Pt (n:=n+(eT hp ord n s).2.length) (j:=j) (by simpa using h)
   exact ⟨n',fun hF=>h1 hF.right,by simpa using h2⟩
theorem Dx: ∀{l acc:List Nat},∃t,sx hp acc l=acc++t∧(acc.Nodup→(acc++t).Nodup)
 | [],acc=>⟨[],by simp[sx],by simp⟩
 | id::l,acc=>by
  simp only[sx]
  cases hb:(jw acc id|| !(GD hp id)) with
  | true=>exact Dx
  | false=>
   obtain ⟨t,h1,h2⟩:=Dx (l:=l) (acc:=acc++[id])
   refine ⟨id::t,by simp only[cond_false,h1,List.append_assoc,List.singleton_append],fun hn=> ?_⟩
   have:acc++id::t=(acc++[id])++t:=by simp
   rw[this]
   refine h2 ?_
   rw[List.nodup_append]
   refine ⟨hn,by simp,fun a ha b az=> ?_⟩
   simp only[List.mem_singleton] at az
   subst az
   intro e
   subst e
   rw[u9 ha] at hb
   cases hb
theorem Pu: ∀{n:Nat} {l:List Nat},∃t,grow hp n l=l++t∧(l.Nodup→(l++t).Nodup)
 | 0,l=>⟨[],by simp[grow],by simp⟩
 | n+1,l=>by
  simp only[grow]
  obtain ⟨t,h1,h2⟩:=Dx (hp:=hp) (acc:=l) (l:=l.flatMap (GF hp))
  rw[h1]
  obtain ⟨t',h3,h4⟩:=Pu (n:=n) (l:=l++t)
  exact ⟨t++t',by rw[h3,List.append_assoc],fun hn=>by rw[←List.append_assoc];exact h4 (h2 hn)⟩
theorem YL {m:Nat} {live:List Nat} {st:St}: ∃t,GG m live st=List.range m++t∧(List.range m++t).Nodup:=by
 unfold GG
 obtain ⟨t,h1,h2⟩:=Dx (hp:=st.hp) (acc:=List.range m) (l:=live.flatMap fun s=>GC (st.sl s))
 rw[h1]
 obtain ⟨t',h3,h4⟩:=Pu (hp:=st.hp) (n:=3) (l:=List.range m++t)
 exact ⟨t++t',by rw[h3,List.append_assoc],by rw[←List.append_assoc];exact h4 (h2 List.nodup_range)⟩
end
end Go.AM
namespace Go.AM
section
variable {P:Program} {A:cB} {E:FuncId→Bool} {G:Nat→V} {w w':World} {I I' I2:Nat→Prop} {μ β au:Nat→Option Nat} {hp hp' hp0:Nat→Option aj} {C:af} {B:Nat} {M:Nat→Prop} {w0:Start}
theorem Pv {n m:Nat} {ord live:List Nat} {a:Act} {st:St} (mu:ord.Nodup) (yA: ∀id,id<m→ord[id]? =some id∨∃p,ord[id]? =some p∧st.hp p=none) (S:aE P w I β st.hp B M w0) (hA:iz P E G w I β n a st) (hE:kb w0.w w0.I μ hp0 w I β st.hp) (hm: ∀id blk,hp0 id=some blk→id<m) (iS: ∀id e es ao,hp0 id=some (.nest e es ao)→∀k,bD ao k=0):
  ∃au,aE P w I au (uR ord live st).hp B M w0∧iz P E G w I au n a (uR ord live st)∧kb w0.w w0.I μ hp0 w I au (uR ord live st).hp:=by
 have YM:uR ord live st=mk (kF st.hp ord st.sl (ord.length+(ft st.hp ord ord.length ord).2.length) live).1
   ((ft st.hp ord ord.length ord).1++((ft st.hp ord ord.length ord).2++(kF st.hp ord st.sl (ord.length+(ft st.hp ord ord.length ord).2.length) live).2)):=by
  rfl
 rw[YM]
 let hp':=iY ((ft st.hp ord ord.length ord).1++((ft st.hp ord ord.length ord).2++(kF st.hp ord st.sl (ord.length+(ft st.hp ord ord.length ord).2.length) live).2))
 let au:Nat→Option Nat:=fun j=>if j<ord.length then (ord[j]?).bind β else none
 have hlen:(ft st.hp ord ord.length ord).1.length=ord.length:=Ps
 have iw: ∀j,j<ord.length→hp' j=(ft st.hp ord ord.length ord).1[j]? :=by
  intro j hj
  simp only[hp',gD]
  rw[List.getElem?_append_left (by omega)]
 have gC: ∀k,hp' (ord.length+k)=((ft st.hp ord ord.length ord).2++(kF st.hp ord st.sl (ord.length+(ft st.hp ord ord.length ord).2.length) live).2)[k]? :=by
  intro k
  simp only[hp',gD]
  rw[List.getElem?_append_right (by omega),hlen,Nat.add_sub_cancel_left]
 have hF:kg hp' au ord.length ((ft st.hp ord ord.length ord).2++(kF st.hp ord st.sl (ord.length+(ft st.hp ord ord.length ord).2.length) live).2):=by
  intro k b hb
  refine ⟨(gC k).trans hb,?_⟩
  simp only[au]
  rw[if_neg (by omega)]
 have yw:lM ((ft st.hp ord ord.length ord).2++(kF st.hp ord st.sl (ord.length+(ft st.hp ord ord.length ord).2.length) live).2):=Pr.app Pp
 have nQ: ∀(j:Nat) id,ord[j]? =some id→au j=β id:=by
  intro j id hj
  simp only[au]
  rw[if_pos (List.getElem?_eq_some_iff.1 hj).1,hj]
  rfl
 have p6: ∀(j:Nat) id,ord[j]? =some id→∃n',kg hp' au n' (eT st.hp ord n' id).2∧hp' j=some (eT st.hp ord n' id).1:=by
  intro j id hj
  obtain ⟨n',h1,h2⟩:=Pt (hp:=st.hp) (hp':=hp') (au:=au) (ord:=ord) (n:=ord.length) hj
  exact ⟨n',h1 hF.left,(iw j (List.getElem?_eq_some_iff.1 hj).1).trans h2⟩
 have hR:vA st.hp β ord hp' au:=by
  refine ⟨fun j id e es fz hj ae=> ?_,fun j id T cs hj ae=> ?_,fun j id hj ae=> ?_,nQ,fun j id e es ao hj ae=> ?_,fun j id t es hj ae=> ?_⟩
  ·obtain ⟨n',_,h2⟩:=p6 j id hj
   rw[h2];simp only[eT,ae]
  ·obtain ⟨n',_,h2⟩:=p6 j id hj
   rw[h2];simp only[eT,ae];exact ⟨_,rfl⟩
  ·obtain ⟨n',_,h2⟩:=p6 j id hj
   rw[h2];simp only[eT,ae]
  ·obtain ⟨n',_,h2⟩:=p6 j id hj
   rw[h2];simp only[eT,ae]
  ·obtain ⟨n',_,h2⟩:=p6 j id hj
   rw[h2];simp only[eT,ae]
 have cls: ∀j blk',hp' j=some blk'→(∃id,ord[j]? =some id∧((blk'= .dead)∨∃blk,st.hp id=some blk∧blk≠ .dead∧∀o b,bA P w o blk' b→bA P w o blk b))∨(∃e,blk'= .arr e [] false∧au j=none):=by
  intro j blk' hj
  rcases Nat.lt_or_ge j ord.length with h|h
  ·have gj:=List.getElem?_eq_getElem h
   obtain ⟨n',_,h2⟩:=p6 j _ gj
   rw[hj] at h2
   refine .inl ⟨_,gj,?_⟩
   cases ae:st.hp ord[j] with
   | none=>left;simp only[eT,ae] at h2;exact Option.some.inj h2
   | some blk=>
    cases blk with
    | dead=>left;simp only[eT,ae] at h2;exact Option.some.inj h2
    | var T0 cs=>exact .inr ⟨_,rfl,by simp,fun o b h=>by simp only[eT,ae] at h2;rw[Option.some.inj h2] at h;exact .root (by simp) (h.flat (by simp))⟩
    | arr e es fz=>exact .inr ⟨_,rfl,by simp,fun o b h=>by simp only[eT,ae] at h2;rw[Option.some.inj h2] at h;exact .root (by simp) (h.flat (by simp))⟩
    | map t es=>exact .inr ⟨_,rfl,by simp,fun o b h=>by simp only[eT,ae] at h2;rw[Option.some.inj h2] at h;exact .root (by simp) (h.flat (by simp))⟩
    | nest e es ao=>
     refine .inr ⟨_,rfl,by simp,fun o b h=> ?_⟩
     simp only[eT,ae] at h2
     rw[Option.some.inj h2] at h
     cases h with
     | root _ h=>exact .root (by simp) h
     | row h1 h2=>exact .row h1 h2
  ·obtain ⟨k,rfl⟩: ∃k,j=ord.length+k:=⟨j-ord.length,by omega⟩
   rw[gC] at hj
   obtain ⟨e,he⟩:=yw _ (List.mem_of_getElem? hj)
   exact .inr ⟨e,he,(hF k _ hj).2⟩
 refine ⟨au,⟨⟨fun j blk' hj=> ?_,fun j1 j2 b1 b2 b e1 e2 f1 f2=> ?_,fun j blk b e1 f1=> ?_,S.h.jb⟩,S.b8,S.size,S.new,S.io⟩,⟨fun k=> ?_,hA.size,hA.defers,hA.aD⟩,⟨hE.dr,hE.b8,fun id blk ae=> ?_,fun id blk blk' b ae bE hd hb=> ?_⟩⟩
 ·change hp' j=some blk' at hj
  rcases Nat.lt_or_ge j ord.length with h|h
  ·have gj:=List.getElem?_eq_getElem h
   obtain ⟨n',Pw,h2⟩:=p6 j _ gj
   rw[hj] at h2
   rw[nQ j _ gj]
   cases ae:st.hp ord[j] with
   | none=>simp only[eT,ae] at h2;rw[Option.some.inj h2];exact .dead
   | some blk=>
    have hr:=S.h.rel _ _ ae
    generalize β ord[j]=o at hr
    cases hr with
    | dead=>simp only[eT,ae] at h2;rw[Option.some.inj h2];exact .dead
    | dM hb=>simp only[eT,ae] at h2;rw[Option.some.inj h2];exact .dM hb
    | arr a1 a2 a3 a4 a5 a6 a7=>simp only[eT,ae] at h2;rw[Option.some.inj h2];exact .arr a1 a2 a3 a4 a5 a6 a7
    | nest a1 a2 a3=>simp only[eT,ae] at h2;rw[Option.some.inj h2];exact .nest a1 a2 a3
    | map a1 a2 a3 a4 a5 a6 a7=>simp only[eT,ae] at h2;rw[Option.some.inj h2];exact .map a1 a2 a3 a4 a5 a6 a7
    | @var xs b Ca T hb hh hs cO hx fX=>
     simp only[eT,ae] at h2 Pw
     rw[Option.some.inj h2]
     exact .var hb hh (by rw[Dv];exact hs) cO (fun i v y hi hy=>Dw S hR (vs:=Ca.toList) (fun i v x hi cw=>hx i v x (by simpa using hi) cw) Pw i v y (by simpa using hi) hy) fX
  ·rcases cls j blk' hj with ⟨id,ae,_⟩|⟨e,he,hb⟩
   ·have:=(List.getElem?_eq_some_iff.1 ae).1;omega
   ·rw[he];exact .dM hb
 ·rcases cls j1 b1 e1 with ⟨Ib,o1,x1⟩|⟨e,_,hb⟩
  ·rcases cls j2 b2 e2 with ⟨cz,o2,x2⟩|⟨e,_,hb⟩
   ·obtain ⟨c1,y1,z1,g1⟩:=x1.resolve_left f1.alive
    obtain ⟨c2,y2,z2,g2⟩:=x2.resolve_left f2.alive
    rw[nQ _ _ o1] at f1
    rw[nQ _ _ o2] at f2
    have:=S.h.inj Ib cz c1 c2 b y1 y2 (g1 _ _ f1) (g2 _ _ f2)
    subst this
    obtain ⟨q1,q2⟩:=List.getElem?_eq_some_iff.1 o1
    obtain ⟨q3,q4⟩:=List.getElem?_eq_some_iff.1 o2
    exact (List.getElem_inj mu).1 (q2.trans q4.symm)
   ·subst ‹b2=_›;have:=f2.flat (by simp);rw[hb] at this;cases this
  ·subst ‹b1=_›;have:=f1.flat (by simp);rw[hb] at this;cases this
 ·rcases cls j blk e1 with ⟨Ib,o1,x1⟩|⟨e,_,hb⟩
  ·obtain ⟨c1,y1,z1,g1⟩:=x1.resolve_left f1.alive
   rw[nQ _ _ o1] at f1
   exact S.h.own Ib c1 b y1 (g1 _ _ f1)
  ·subst ‹blk=_›;have:=f1.flat (by simp);rw[hb] at this;cases this
 ·change an P w I au hp' (a.tmps.getD k undef) (iJ _ k)
  unfold iJ
  cases HP:dK (kF st.hp ord st.sl (ord.length+(ft st.hp ord ord.length ord).2.length) live).1 k with
  | none=>exact .undef
  | some y=>
   obtain ⟨n',h1,h2⟩:=Pq hF.right HP
   simp only[Option.getD_some,h2]
   exact YJ S hR (hA.sl k) h1
 ·obtain ⟨pX,k1,k2,k3⟩:=hE.blk id blk ae
  rcases yA id (hm id blk ae) with ho|⟨p,ho,bx⟩
  ·cases pX with
   | dead=>exact ⟨.dead,hR.dead id id ho k1,k2,fun h=>absurd rfl h⟩
   | var T0 cs=>
    obtain ⟨gV,h'⟩:=hR.var id id T0 cs ho k1
    refine ⟨_,h',?_,fun _=>(nQ id id ho).trans (k3 (by simp))⟩
    cases blk<;>simp_all [aj.le]
   | arr e es fz=>exact ⟨_,hR.arr id id e es fz ho k1,k2,fun _=>(nQ id id ho).trans (k3 (by simp))⟩
   | map t es=>exact ⟨_,hR.map id id t es ho k1,k2,fun _=>(nQ id id ho).trans (k3 (by simp))⟩
   | nest e es ao=>
    refine ⟨_,hR.nest id id e es ao ho k1,?_,fun _=>(nQ id id ho).trans (k3 (by simp))⟩
    obtain ⟨GO,VQ,rfl,l1,l2,_⟩:=aj.GM k2
    exact ⟨rfl,l1,by simpa using l2,fun k=>by rw[iS id _ _ _ ae k];exact Nat.zero_le _⟩
  ·obtain ⟨n',_,h2⟩:=p6 id p ho
   simp only[eT,bx] at h2
   exact ⟨.dead,h2,by cases blk<;>trivial,fun h=>absurd rfl h⟩
 ·obtain ⟨pX,k1,k2,k3⟩:=hE.blk id blk ae
  rcases yA id (hm id blk ae) with ho|⟨p,ho,bx⟩
  ·refine hE.size id blk pX b ae k1 (fun p5=> ?_) hb
   subst p5
   have:=hR.dead id id ho k1
   change hp' id=some blk' at bE
   rw[this] at bE
   exact hd (Option.some.inj bE).symm
  ·obtain ⟨n',_,h2⟩:=p6 id p ho
   simp only[eT,bx] at h2
   change hp' id=some blk' at bE
   rw[h2] at bE
   exact absurd (Option.some.inj bE).symm hd
theorem YN {n m:Nat} {live:List Nat} {a:Act} {st:St} (S:aE P w I β st.hp B M w0) (hA:iz P E G w I β n a st) (hE:kb w0.w w0.I μ hp0 w I β st.hp) (hm: ∀id blk,hp0 id=some blk→id<m) (iS: ∀id e es ao,hp0 id=some (.nest e es ao)→∀k,bD ao k=0):
  ∃au,aE P w I au (canon m live st).hp B M w0∧iz P E G w I au n a (canon m live st)∧kb w0.w w0.I μ hp0 w I au (canon m live st).hp:=by
 obtain ⟨t,yA,mu⟩:=YL (m:=m) (live:=live) (st:=st)
 refine Pv (by rw[yA];exact mu) (fun id aR=> .inl ?_) S hA hE hm iS
 rw[yA,List.getElem?_append_left (by simpa using aR)]
 simp[aR]
theorem Px: ∀{l:List Nat},nv l=true→l.Nodup
 | [],_=> .nil
 | a::l,h=>by
  simp only[nv,Bool.and_eq_true,Bool.not_eq_true'] at h
  rw[List.nodup_cons]
  exact ⟨fun hm=>Bool.noConfusion ((u9 hm).symm.trans h.1),Px h.2⟩
theorem YO {m:Nat} {mv:List Nat} {id:Nat} (h:id<m):(lx m mv)[id]? =some id∨(lx m mv)[id]? =some (m+id):=by
 unfold lx
 rw[List.getElem?_append_left (by simpa using h),List.getElem?_map]
 simp only[List.getElem?_range h,Option.map_some]
 cases jw mv id with
 | true=>exact .inr rfl
 | false=>exact .inl rfl
end
end Go.AM
namespace Go.AM
section
variable {P:Program} {A:cB} {w w':World} {I I' I2:Nat→Prop} {μ β au:Nat→Option Nat} {hp hp' hp0:Nat→Option aj} {C:af} {B:Nat} {M:Nat→Prop} {w0:Start}
theorem Dy (p:Nat→Prop) (h: ∃n,p n): ∃n,p n∧∀m,p m→n≤m:=by
 obtain ⟨n,hn⟩:=h
 induction n using Nat.strongRecOn with
 | _ n ih=>
  by_cases hx: ∃m,m<n∧p m
  ·obtain ⟨m,hm,hp⟩:=hx
   exact ih m hm hp
  ·exact ⟨n,hn,fun m hm=>Nat.le_of_not_lt fun aR=>hx ⟨m,aR,hm⟩⟩
open Classical in
theorem YP {c:Code} {Q:Exit→Act→World→Prop} (J:Nat→Act→World→Prop) (h0: ∀a w,¬J 0 a w) (round: ∀n a w,J (n+1) a w→c.wp P (Exit.then (J n) Q) a w) {n:Nat} {a:Act} {w:World} (h:J n a w):
  (Code.loop c).wp P Q a w:=by
 refine wp_loop (fun a w=> ∃n,J n a w) (fun a w=>if h: ∃n,J n a w then (Dy _ h).choose else 0) ⟨n,h⟩ fun a w hJ=> ?_
 obtain ⟨h1,h2⟩:=(Dy _ hJ).choose_spec
 generalize hk:(Dy _ hJ).choose=k at h1 h2
 cases k with
 | zero=>exact absurd h1 (h0 a w)
 | succ k=>
  refine wp_mono (round k a w h1) fun e a' w' he=> ?_
  cases e with
  | normal=>
   have hex: ∃n,J n a' w':=⟨k,he⟩
   refine ⟨hex,?_⟩
   have h3:=(Dy _ hex).choose_spec.2 k he
   rw[dif_pos hex,dif_pos hJ,hk]
   omega
  | _=>exact he
def vB:Out→Exit
 | .norm=> .normal
 | .exit id=> .exit id
 | .ret=> .ret
def Inv (P:Program) (E:FuncId→Bool) (G:Nat→V) (B:Nat) (M:Nat→Prop) (w0:Start) (μ:Nat→Option Nat) (hp0:Nat→Option aj) (n:Nat) (a:Act) (w:World) (st:St):Prop:=
 ∃I β,aE P w I β st.hp B M w0∧iz P E G w I β n a st∧kb w0.w w0.I μ hp0 w I β st.hp
theorem Inv.canon {E:FuncId→Bool} {G:Nat→V} {n m:Nat} {a:Act} {st:St} {live:List Nat} (h:Inv P E G B M w0 μ hp0 n a w st) (hm: ∀id blk,hp0 id=some blk→id<m) (iS: ∀id e es ao,hp0 id=some (.nest e es ao)→∀k,bD ao k=0):Inv P E G B M w0 μ hp0 n a w (canon m live st):=by
 obtain ⟨I,β,S,hA,hE⟩:=h
 obtain ⟨au,a,b,c⟩:=YN (live:=live) S hA hE hm iS
 exact ⟨I,au,a,b,c⟩
theorem Dz: ∀{l:List BS} {ds:List V},(eK l ds).length=l.length
 | [],_=>rfl
 | b::l,ds=>by simp only[eK,List.length_cons,Dz]
theorem Inv.enter {A:cB} {E:FuncId→Bool} {G:Nat→V} {n f:Nat} {ds:List V} {a:Act} (jK:nv (lx (A.sin f).a8.length (A.mv f))=true) (h:Inv P E G B M w0 μ hp0 n a w (bq (A.sin f) ds)) (hm: ∀id blk,hp0 id=some blk→id<(A.sin f).a8.length)
  (iS: ∀id e es ao,hp0 id=some (.nest e es ao)→∀k,bD ao k=0) (vC: ∀p,(A.sin f).a8.length≤p→(bq (A.sin f) ds).hp p=none):Inv P E G B M w0 μ hp0 n a w (xx A f ds):=by
 unfold xx
 split
 ·exact h
 ·obtain ⟨I,β,S,hA,hE⟩:=h
  obtain ⟨au,x,y,z⟩:=Pv (m:=(A.sin f).a8.length) (ord:=lx (A.sin f).a8.length (A.mv f)) (live:=(A.sin f).bI.map (·.1)) (Px jK) (fun id ae=>(YO ae).imp (fun h=>h) fun h=>⟨_,h,vC _ (by omega)⟩) S hA hE hm iS
  exact ⟨I,au,x,y,z⟩
theorem Inv.reshape {E:FuncId→Bool} {G:Nat→V} {n m:Nat} {a:Act} {st:St} {S:Shape} {ds:List V} (h:Inv P E G B M w0 μ hp0 n a w st) (hs:ij m S st=some ds) (hm: ∀id blk,hp0 id=some blk→id<m):Inv P E G B M w0 μ hp0 n a w (bq S ds):=by
 obtain ⟨I,β,S1,hA,hE⟩:=h
 obtain ⟨r1,r2,_,r4⟩:=AM.reshape hs S1
 refine ⟨I,β,r1,⟨fun k=>r2 k _ (hA.sl k),hA.size,hA.defers,hA.aD⟩,⟨hE.dr,hE.b8,fun id blk ae=> ?_,fun id blk blk' b ae bE hd hb=> ?_⟩⟩
 ·obtain ⟨pX,k1,k2,k3⟩:=hE.blk id blk ae
  obtain ⟨_,hle,_⟩:=Of hs
  have hl:=hm id blk ae
  obtain ⟨bW,h2⟩: ∃bW,(bq S ds).hp id=some bW:=by
   simp only[bq,mk,gD]
   exact ⟨_,List.getElem?_eq_getElem (by rw[Dz];omega)⟩
  by_cases hd:bW= .dead
  ·subst hd
   exact ⟨_,h2,by cases blk<;>trivial,fun h=>absurd rfl h⟩
  ·obtain ⟨gx,e1,e2,_⟩:=r4 id bW h2 hd
   rw[k1] at e1;cases e1
   exact ⟨_,h2,aj.le_trans k2 e2,fun _=>k3 (fun e=>hd (aj.oE (e▸e2)))⟩
 ·obtain ⟨gx,e1,e2,_⟩:=r4 id blk' bE hd
  exact hE.size id blk gx b ae e1 (fun e=>hd (aj.oE (e▸e2))) hb
theorem kf.here (h:kf P A C) (f:Nat) (id:Nat):kf P (A.here f id) C:=by
 intro key ds es hh
 obtain ⟨fn,c,h1,h2,h3⟩:=h key ds es hh
 refine ⟨fn,c,h1,h2,fun w I μ vals a g b d=>(h3 w I μ vals a g b d).mono fun e w' hx=> ?_⟩
 obtain ⟨v,I2,bX,q1,q2⟩:=hx
 exact ⟨v,I2,bX,q1,⟨q2.vq,q2.le,q2.res⟩⟩
theorem YQ {a b:Out} (h:Cj a b=true):a=b:=by
 cases a<;>cases b<;>simp[Cj] at h<;>first|rfl|(subst h;rfl)
theorem Py {m:Nat} {r:Out × St}: ∀{l:List (Out × Shape)} {j:Nat} {e:Nat × List V},ways m j l r=some e→j≤e.1
 | [],j,e,h=>by cases h
 | (o,S)::l,j,e,h=>by
  simp only[ways] at h
  split at h
  ·cases h;exact Nat.le_refl _
  ·have:=Py h;omega
theorem Ic {m:Nat} {o:Out} {s:St} {out:Out} {st':St}: ∀{l:List (Out × Shape)} {k:Nat} {e:Nat × List V},ways m k l (o,s)=some e→jB k l e.1 e.2 (fun o st=>some (o,st))=some (out,st')→
  out=o∧∃S,ij m S s=some e.2∧st'=bq S e.2
 | [],k,e,h,_=>by cases h
 | (o',S)::l,k,e,h,h2=>by
  simp only[ways] at h
  split at h
  ·rename_i ds hx
   cases h
   cases ho:Cj o' o with
   | false=>rw[ho] at hx;cases hx
   | true=>
    rw[ho] at hx
    have:=YQ ho
    subst this
    cases l with
    | nil=>
     simp only[jB,Option.some.injEq,Prod.mk.injEq] at h2
     exact ⟨h2.1.symm,S,hx,h2.2.symm⟩
    | cons p l=>
     simp only[jB,Nat.beq_refl,cond_true,Option.some.injEq,Prod.mk.injEq] at h2
     exact ⟨h2.1.symm,S,hx,h2.2.symm⟩
  ·have oL:=Py h
   cases l with
   | nil=>cases h
   | cons p l=>
    have bM:Nat.beq e.1 k=false:=by
     cases hb:Nat.beq e.1 k with
     | false=>rfl
     | true=>rw[Nat.beq_eq] at hb;omega
    simp only[jB,bM,cond_false] at h2
    exact Ic h h2
theorem YR (hC:kf P A C) (hP:iR P A) (oT:P.follows .mixedOrders=true) {f n m:Nat} (hm: ∀id blk,hp0 id=some blk→id<m) (iS: ∀id e es ao,hp0 id=some (.nest e es ao)→∀k,bD ao k=0):
  ∀(c:Code) {st st':St} {out:Out} {Q:Exit→Act→World→Prop} {a:Act} {w:World},exec P A C f n m c st=some (out,st')→Inv P A.idle A.aD B M w0 μ hp0 n a w st→
   (∀a' w',Inv P A.idle A.aD B M w0 μ hp0 n a' w' st'→Q (vB out) a' w')→c.wp P Q a w:=by
 intro c
 induction c with
 | skip=>
  intro st st' out Q a w h hI hQ
  simp only[exec,Option.some.injEq,Prod.mk.injEq] at h
  obtain ⟨rfl,rfl⟩:=h
  exact wp_skip (hQ a w hI)
 | exit id=>
  intro st st' out Q a w h hI hQ
  simp only[exec,Option.some.injEq,Prod.mk.injEq] at h
  obtain ⟨rfl,rfl⟩:=h
  exact wp_exit (hQ a w hI)
 | ret=>
  intro st st' out Q a w h hI hQ
  simp only[exec,Option.some.injEq,Prod.mk.injEq] at h
  obtain ⟨rfl,rfl⟩:=h
  exact wp_ret (hQ a w hI)
 | region id ops draw=>
  intro st st' out Q a w h hI hQ
  simp only[exec] at h
  obtain ⟨iA,h1,h2⟩:=bind_some h
  simp only[Option.some.injEq,Prod.mk.injEq] at h2
  obtain ⟨rfl,rfl⟩:=h2
  obtain ⟨I,β,S,hA,hE⟩:=hI
  refine YG (hC.here f id) (hP.here f id) oT h1 S hA fun a' w' I' au k1 k2 k3=> ?_
  obtain ⟨I2,l1,l2,l3⟩:=Pj (m:=m) (pur:=A.pur f id) k2 k3
  have YS:=(hE.trans k1.Dd).trans l1.Dd
  exact hQ a' w' (Inv.canon ⟨I2,au,l2,l3,YS⟩ hm iS)
 | seq x y fF fG=>
  intro st st' out Q a w h hI hQ
  simp only[exec] at h
  obtain ⟨⟨o1,iA⟩,h1,h2⟩:=bind_some h
  refine wp_seq (fF h1 hI fun a' w' jm=> ?_)
  cases o1 with
  | norm=>exact fG h2 jm hQ
  | exit id=>
   simp only[Option.some.injEq,Prod.mk.injEq] at h2
   obtain ⟨rfl,rfl⟩:=h2
   exact hQ a' w' jm
  | ret=>
   simp only[Option.some.injEq,Prod.mk.injEq] at h2
   obtain ⟨rfl,rfl⟩:=h2
   exact hQ a' w' jm
 | cond c x y fF fG=>
  intro st st' out Q a w h hI hQ
  cases c with
  | tmp t=>
   have go: ∀{st st':St} {out:Out} {Q:Exit→Act→World→Prop} {a:Act} {w:World},(match st.sl t with
     | .bool b=>(bif b then exec P A C f n m x st else exec P A C f n m y st).bind fun r=>
      match r.1 with
      | .norm=>some (.norm,AM.canon m (A.join f t) r.2)
      | _=>some r
     | _=>none)=some (out,st')→Inv P A.idle A.aD B M w0 μ hp0 n a w st→(∀a' w',Inv P A.idle A.aD B M w0 μ hp0 n a' w' st'→Q (vB out) a' w')→(Code.cond (.tmp t) x y).wp P Q a w:=by
    intro st st' out Q a w h hI hQ
    cases hs:st.sl t<;>rw[hs] at h<;>simp only at h<;>first|(cases h;done)|skip
    rename_i b
    obtain ⟨⟨o1,iA⟩,h1,h2⟩:=bind_some h
    obtain ⟨I,β,S,hA,hE⟩:=hI
    have eX:a.eval (.tmp t)= .bool b:=by
     have:=OQ hA hs
     simp[Act.eval,this]
    have fin: ∀a' w',Inv P A.idle A.aD B M w0 μ hp0 n a' w' iA→Q (vB o1) a' w':=by
     intro a' w' jm
     cases o1 with
     | norm=>
      simp only[Option.some.injEq,Prod.mk.injEq] at h2
      obtain ⟨rfl,rfl⟩:=h2
      exact hQ a' w' (jm.canon hm iS)
     | exit id=>
      simp only[Option.some.injEq,Prod.mk.injEq] at h2
      obtain ⟨rfl,rfl⟩:=h2
      exact hQ a' w' jm
     | ret=>
      simp only[Option.some.injEq,Prod.mk.injEq] at h2
      obtain ⟨rfl,rfl⟩:=h2
      exact hQ a' w' jm
    refine wp_cond eX ?_
    cases b with
    | true=>exact fF h1 ⟨I,β,S,hA,hE⟩ fin
    | false=>exact fG h1 ⟨I,β,S,hA,hE⟩ fin
   simp only[exec] at h
   split at h
   ·exact go h hI hQ
   ·obtain ⟨ds,h1,h2⟩:=bind_some h
    obtain ⟨e,h3,h4⟩:=bind_some h2
    obtain ⟨⟨o1,s1⟩,h5,h6⟩:=bind_some h3
    obtain ⟨rfl,S',k1,rfl⟩:=Ic h6 h4
    exact go h5 (hI.reshape h1 hm) fun a' w' jm=>hQ a' w' (jm.reshape k1 hm)
  | const v=>
   cases v with
   | bool b=>
    simp only[exec] at h
    refine wp_cond (t:=b) rfl ?_
    cases b with
    | true=>exact fF h hI hQ
    | false=>exact fG h hI hQ
   | _=>simp only[exec] at h;cases h
  | _=>simp only[exec] at h;cases h
 | block id c ih=>
  intro st st' out Q a w h hI hQ
  simp only[exec] at h
  obtain ⟨⟨o1,iA⟩,h1,h2⟩:=bind_some h
  refine wp_block (ih h1 hI fun a' w' jm=> ?_)
  cases o1 with
  | norm=>
   simp only[Option.some.injEq,Prod.mk.injEq] at h2
   obtain ⟨rfl,rfl⟩:=h2
   exact hQ a' w' (jm.canon hm iS)
  | exit aC=>
   simp only at h2
   cases hb:Nat.beq aC id with
   | true=>
    rw[hb] at h2
    simp only[cond_true,Option.some.injEq,Prod.mk.injEq] at h2
    obtain ⟨rfl,rfl⟩:=h2
    rw[Nat.beq_eq] at hb
    simp only[vB,Exit.inBlock,hb,if_true]
    exact hQ a' w' (jm.canon hm iS)
   | false=>
    rw[hb] at h2
    simp only[cond_false,Option.some.injEq,Prod.mk.injEq] at h2
    obtain ⟨rfl,rfl⟩:=h2
    have bM:aC≠id:=fun e=>by rw[e,Nat.beq_refl] at hb;cases hb
    simp only[vB,Exit.inBlock,bM,if_false]
    exact hQ a' w' jm
  | ret=>
   simp only[Option.some.injEq,Prod.mk.injEq] at h2
   obtain ⟨rfl,rfl⟩:=h2
   exact hQ a' w' jm
 | loop c ih=>
  intro st st' out Q a w h hI hQ
  simp only[exec] at h
  split at h
  ·cases h
  ·rename_i S hS
   obtain ⟨ds,h1,h2⟩:=bind_some h
   obtain ⟨e,h3,h4⟩:=bind_some h2
   obtain ⟨k,hk⟩:=uE h3
   refine YP (J:=fun k a w=> ∃ds,Inv P A.idle A.aD B M w0 μ hp0 n a w (bq S.1 ds)∧eI (fun ds=>j4 m S.1 S.2 (exec P A C f n m c (bq S.1 ds))) k ds=some e) (fun a w ⟨s,_,h⟩=>by cases h) (fun k a w ⟨ds,hs,hk⟩=> ?_) ⟨ds,hI.reshape h1 hm,hk⟩
   simp only[eI] at hk
   obtain ⟨y,h5,h6⟩:=bind_some hk
   unfold j4 at h5
   obtain ⟨⟨o1,s1⟩,h7,h8⟩:=bind_some h5
   refine ih h7 hs fun a' w' jm=> ?_
   have Pz: ∀{e':Nat × List V},ways m 0 S.2 (o1,s1)=some e'→e'=e→Q (vB o1) a' w':=by
    intro e' q1 q2
    subst q2
    obtain ⟨rfl,S',k1,rfl⟩:=Ic q1 h4
    exact hQ a' w' (jm.reshape k1 hm)
   cases o1 with
   | norm=>
    obtain ⟨YT,q1,q2⟩:=bind_some h8
    cases q2
    exact ⟨YT,jm.reshape q1 hm,h6⟩
   | exit id=>
    obtain ⟨e',q1,q2⟩:=bind_some h8
    cases q2
    cases h6
    exact Pz q1 rfl
   | ret=>
    obtain ⟨e',q1,q2⟩:=bind_some h8
    cases q2
    cases h6
    exact Pz q1 rfl
 | _=>intro st st' out Q a w h;simp only[exec] at h;cases h
end
end Go.AM
namespace Go.AM
section
variable {P:Program} {A:cB} {w w':World} {I I' I2:Nat→Prop} {μ β au bX:Nat→Option Nat} {hp hp' hp0:Nat→Option aj} {C:af} {B:Nat} {M:Nat→Prop} {w0:Start}
theorem DA (S:aE P w I β hp B M w0) {a:Act} {st:St} (hs:j5 P w I β hp a st.sl): ∀{l:List ResultVar} {xs:List V} {rd:List Nat},(sB P st l).run C hp=some (xs,rd)→
  ∃vs:List Value,(l.mapM fun| .tmp t=>Pure.pure (a.tmps.getD t undef)| .cell x t=>do loadVar t (←asAddr (a.tmps.getD x undef)):Sem (List Value)).run P w= .ok vs w∧vs.length=xs.length∧l.length=xs.length∧
   ∀(j:Nat) v x,vs[j]? =some v→xs[j]? =some x→an P w I β hp v x
 | [],xs,rd,h=>by
  cases h
  exact ⟨[],by simp,rfl,rfl,by simp⟩
 | .tmp t::l,xs,rd,h=>by
  simp only[sB] at h
  obtain ⟨ys,l1,l2,h1,h2⟩:=j6 h
  have h3:=GQ h2
  subst h3
  obtain ⟨vs,a1,a2,a3,a4⟩:=DA S hs h1
  refine ⟨a.tmps.getD t undef::vs,by simp only[List.mapM_cons,Sem.run_bind,Sem.run_pure,Result.andThen_ok,a1],by simp[a2],by simp[a3],fun j v x hj hx=> ?_⟩
  cases j with
  | zero=>simp at hj hx;subst hj;subst hx;have:=hs t;simpa using this
  | succ j=>exact a4 j v x (by simpa using hj) (by simpa using hx)
 | .cell y t::l,xs,rd,h=>by
  simp only[sB] at h
  obtain ⟨r,l1,l2,h1,h2⟩:=j6 h
  obtain ⟨ys,l3,l4,h3,h4⟩:=j6 h2
  have h5:=GQ h4
  subst h5
  obtain ⟨v0,b1,b2,b3,ad,b4⟩:=M5 S (hs y) h1
  obtain ⟨vs,a1,a2,a3,a4⟩:=DA S hs h3
  refine ⟨v0::vs,?_,by simp[a2],by simp[a3],fun j v x hj hx=> ?_⟩
  ·have e1:(do loadVar t (←asAddr (a.tmps.getD y undef)):Sem Value).run P w= .ok v0 w:=by
    rw[b4] at b1⊢
    simpa[Instr.loadAt,Instr.sureAddr,asAddr] using b1
   simp only[List.mapM_cons,Sem.run_bind,e1,Result.andThen_ok,a1,Sem.run_pure]
  cases j with
  | zero=>simp at hj hx;subst hj;subst hx;exact b2
  | succ j=>exact a4 j v x (by simpa using hj) (by simpa using hx)
def tq:List Value→Value
 | [v]=>v
 | l=> .tuple l.toArray
theorem YU {vs:List Value} (h:vs.length≠1):tq vs= .tuple vs.toArray:=by
 match vs,h with
 | [],_=>rfl
 | [v],h=>simp at h
 | v::v2::l,_=>rfl
theorem YV {fn:Func} {a:Act} {st:St} (S:aE P w I β st.hp B M w0) (hs:j5 P w I β st.hp a st.sl) {xs:List V} {rd:List Nat} (h:(sB P st fn.results.toList).run C st.hp=some (xs,rd)):
  ∃vs:List Value,(results fn a.tmps).run P w= .ok (tq vs) w∧vs.length=xs.length∧
   ∀(j:Nat) v x,vs[j]? =some v→xs[j]? =some x→an P w I β st.hp v x:=by
 obtain ⟨vs,a1,a2,_,a4⟩:=DA S hs h
 refine ⟨vs,?_,a2,a4⟩
 unfold results
 rw[Array.mapM_eq_mapM_toList]
 simp only[map_eq_pure_bind,bind_assoc,pure_bind,Sem.run_bind]
 refine (congrArg (fun r:Result (List Value)=>r.andThen _) a1).trans ?_
 simp only[Result.andThen_ok,Sem.run_pure]
 match vs with
 | []=>simp[tq]
 | [v]=>simp[tq]
 | v::v2::l=>simp[tq]
theorem PA: ∀{args:List V} {i k:Nat},dK (mn i args) k=if i≤k then args[k-i]? else none
 | [],i,k=>by simp[mn,dK]
 | v::vs,i,k=>by
  simp only[mn,dK]
  cases hb:Nat.beq k i with
  | true=>
   rw[Nat.beq_eq] at hb
   subst hb
   simp
  | false=>
   have bM:k≠i:=fun e=>by rw[e,Nat.beq_refl] at hb;cases hb
   simp only[cond_false,PA]
   by_cases h:i≤k
   ·rw[if_pos (by omega),if_pos h]
    obtain ⟨d,rfl⟩: ∃d,k=i+1+d:=⟨k-(i+1),by omega⟩
    rw[show i+1+d-(i+1)=d by omega,show i+1+d-i=d+1 by omega]
    rfl
   ·rw[if_neg (by omega),if_neg h]
theorem Ie: ∀{l:List (Nat × VS)} {ds:List V} {i k:Nat},gP i l=true→dK (fc l ds) k=if i≤k then (fp (l.map (·.2)) ds)[k-i]? else none
 | [],ds,i,k,_=>by simp[fc,fp,dK]
 | (q,s)::l,ds,i,k,h=>by
  simp only[gP,Bool.and_eq_true,Nat.beq_eq] at h
  obtain ⟨rfl,h⟩:=h
  simp only[fc,dK,List.map_cons,fp]
  cases hb:Nat.beq k q with
  | true=>
   rw[Nat.beq_eq] at hb
   subst hb
   simp
  | false=>
   have bM:k≠q:=fun e=>by rw[e,Nat.beq_refl] at hb;cases hb
   simp only[cond_false]
   rw[Ie h]
   by_cases h:q≤k
   ·rw[if_pos (by omega),if_pos h]
    obtain ⟨d,rfl⟩: ∃d,k=q+1+d:=⟨k-(q+1),by omega⟩
    rw[show q+1+d-(q+1)=d by omega,show q+1+d-q=d+1 by omega]
    rfl
   ·rw[if_neg (by omega),if_neg h]
theorem PB: ∀{l:List (Nat × VS)} {ds:List V},(fc l ds).map (·.2)=fp (l.map (·.2)) ds
 | [],_=>rfl
 | (q,s)::l,ds=>by simp only[fc,List.map_cons,fp,PB]
theorem Ig: ∀{l:List VS} {ds:List V},(fp l ds).length=l.length
 | [],_=>rfl
 | s::l,ds=>by simp only[fp,List.length_cons,Ig]
theorem PC: ∀{l:List (Nat × VS)} {ds:List V},(fc l ds).length=l.length
 | [],_=>rfl
 | (q,s)::l,ds=>by simp only[fc,List.length_cons,PC]
theorem YW {vals:List Value} {l:List (Nat × V)} (hl:vals.length=l.length) (h: ∀(j:Nat) v y,vals[j]? =some v→(l.map (·.2))[j]? =some y→an P w I β hp v y):an P w I β hp (tq vals) (oC l):=by
 match l,hl,h with
 | [],hl,h=>
  obtain rfl:vals=[]:=List.eq_nil_of_length_eq_zero hl
  exact .bh rfl fun j v x _ hx=>by simp at hx
 | [(k,y)],hl,h=>
  match vals,hl,h with
  | [v],_,h=>exact h 0 v y rfl rfl
 | a::b::l,hl,h=>
  have bM:vals.length≠1:=by rw[hl];simp
  rw[YU bM]
  simp only[oC]
  exact .bh (by simp[hl]) fun j v y hj hy=>h j v y (by simpa using hj) hy
theorem YX {l:List BS} {ds:List V} {j:Nat} {e:TypeId} {es:List V} {ao:List Nat} (h:(eK l ds)[j]? =some (.nest e es ao)) (k:Nat):bD ao k=0:=by
 obtain ⟨b,fh,_,h2⟩:=HT h
 cases b<;>simp only[fE] at h2<;>cases h2
 match k with
 | 0=>rfl
 | 1=>rfl
 | 2=>rfl
 | _+3=>rfl
theorem YY {f n m:Nat} {fn:Func} {a:Act} {st:St} {es:List V} {rd:List Nat} (hm: ∀id blk,hp0 id=some blk→id<m) (iS: ∀id e es ao,hp0 id=some (.nest e es ao)→∀k,bD ao k=0)
  (hI:Inv P A.idle A.aD B M w0 μ hp0 n a w st) (nR:gP 0 (A.fl f).bI=true) (aZ:(A.fl f).bI.length=fn.results.size) (h:(sC P A f fn m st).run C st.hp=some (es,rd)):
  ∃v I2 bX,(results fn a.tmps).run P w= .ok v w∧aE P w I2 bX (bq (A.so f es) (A.lv f es)).hp B M w0∧kb w0.w w0.I μ hp0 w I2 bX (bq (A.so f es) (A.lv f es)).hp∧an P w I2 bX (bq (A.so f es) (A.lv f es)).hp v (oC (fc (A.so f es).bI (A.lv f es))):=by
 unfold sC at h
 obtain ⟨xs,l1,l2,h1,h2⟩:=j6 h
 obtain ⟨I,β,S,hA,hE⟩:=hI
 obtain ⟨vals,e1,e2,e3⟩:=YV S hA.sl h1
 have e4:fn.results.size=xs.length:=by
  obtain ⟨_,_,_,q,_⟩:=DA S hA.sl h1
  simpa using q
 have fin: ∀(Sx:Shape) (es:List V),gP 0 Sx.bI=true→Sx.bI.length=fn.results.size→ij m Sx (canon m (List.range xs.length) (freeze m (A.sq f) ⟨iJ (mn 0 xs),st.hp,st.nb⟩))=some es→
   ∃v I2 bX,(results fn a.tmps).run P w= .ok v w∧aE P w I2 bX (bq Sx es).hp B M w0∧kb w0.w w0.I μ hp0 w I2 bX (bq Sx es).hp∧an P w I2 bX (bq Sx es).hp v (oC (fc Sx.bI es)):=by
  intro Sx es nR aZ tt
  have YZ:iz P A.idle A.aD w I β vals.length ⟨vals.toArray,[]⟩ ⟨iJ (mn 0 xs),st.hp,st.nb⟩:=by
   refine ⟨fun k=> ?_,by simp,by simp,hA.aD⟩
   change an P w I β st.hp _ (iJ (mn 0 xs) k)
   unfold iJ
   rw[PA]
   simp only[Nat.zero_le,if_true,Nat.sub_zero]
   cases hk:xs[k]? with
   | none=>exact .undef
   | some x=>
    have kM:k<vals.length:=by rw[e2];exact (List.getElem?_eq_some_iff.1 hk).1
    have:=e3 k vals[k] x (List.getElem?_eq_getElem kM) hk
    have e5:(vals.toArray).getD k undef=vals[k]:=by simp[kM]
    rw[Option.getD_some]
    exact e5▸this
  obtain ⟨I2,k1,k2,k3⟩:=Pj (st:=⟨iJ (mn 0 xs),st.hp,st.nb⟩) (m:=m) (pur:=A.sq f) S YZ
  have Y0:Inv P A.idle A.aD B M w0 μ hp0 vals.length ⟨vals.toArray,[]⟩ w (freeze m (A.sq f) ⟨iJ (mn 0 xs),st.hp,st.nb⟩):=⟨I2,β,k2,k3,hE.trans k1.Dd⟩
  obtain ⟨I3,PD,q1,q2,q3⟩:=(Y0.canon (live:=List.range xs.length) hm iS).reshape tt hm
  refine ⟨tq vals,I3,PD,e1,q1,q3,YW (by rw[PC,aZ,e4,e2]) fun j v y hj hy=> ?_⟩
  have hv:=q2.sl j
  have cX:=(List.getElem?_eq_some_iff.1 hj).1
  have e5:(vals.toArray).getD j undef=v:=by
   have:=(List.getElem?_eq_some_iff.1 hj).2
   simp[cX,this]
  change an P w I3 PD _ ((vals.toArray).getD j undef) (iJ (fc Sx.bI _) j) at hv
  rw[e5] at hv
  unfold iJ at hv
  rw[Ie nR] at hv
  simp only[Nat.zero_le,if_true,Nat.sub_zero] at hv
  rw[PB] at hy
  rw[hy] at hv
  exact hv
 unfold cB.so cB.lv
 cases b9:A.alt f with
 | none=>
  rw[b9] at h2
  simp only at h2⊢
  split at h2
  ·rename_i fh tt
   have:=aJ h2
   subst this
   exact fin _ _ nR aZ tt
  ·cases h2
 | some S2=>
  rw[b9] at h2
  simp only at h2⊢
  split at h2
  ·rename_i fh tt
   have:=aJ h2
   subst this
   exact fin _ _ nR aZ tt
  ·split at h2
   ·rename_i fh tt
    obtain ⟨hc,h3⟩:=aF h2
    simp only[Bool.and_eq_true,Nat.beq_eq] at hc
    have:=aJ h3
    subst this
    exact fin _ _ hc.1 hc.2 tt
   ·cases h2
theorem Y1 (hC:kf P A C) (hP:iR P A) (oT:P.follows .mixedOrders=true):kf P A (ny P A C):=by
 intro f ds es h
 unfold ny at h
 cases hf:P.funcs[A.aW f]? with
 | none=>rw[hf] at h;cases h
 | some fn=>
  rw[hf] at h
  simp only at h
  cases hb:fn.body with
  | none=>rw[hb] at h;cases h
  | some c=>
   rw[hb] at h
   simp only at h
   cases hc:(gP 0 (A.sin f).bI&&(Nat.ble (A.sin f).bI.length fn.ntmps&&((A.sin f).ok&&(gP 0 (A.fl f).bI&&(Nat.beq (A.fl f).bI.length fn.results.size&&nv (lx (A.sin f).a8.length (A.mv f))))))) with
   | false=>rw[hc] at h;cases h
   | true=>
    rw[hc] at h
    simp only[cond_true] at h
    simp only[Bool.and_eq_true,Nat.beq_eq,Nat.ble_eq] at hc
    obtain ⟨iO,hnt,_,rD,aZ,jK⟩:=hc
    obtain ⟨⟨out,st'⟩,h1,h2⟩:=bind_some h
    refine ⟨fn,c,rfl,hb,fun w I μ vals hH Y2 hl hv=> ?_⟩
    have Y3:(∀id,out≠ .exit id)∧∃rd,(sC P A f fn (A.sin f).a8.length st').run C st'.hp=some (es,rd):=by
     cases out with
     | exit id=>cases h2
     | norm=>
      refine ⟨by simp,?_⟩
      simp only[Option.map_eq_some_iff] at h2
      obtain ⟨⟨x,rd⟩,e1,e2⟩:=h2
      simp only at e2
      subst e2
      exact ⟨rd,e1⟩
     | ret=>
      refine ⟨by simp,?_⟩
      simp only[Option.map_eq_some_iff] at h2
      obtain ⟨⟨x,rd⟩,e1,e2⟩:=h2
      simp only at e2
      subst e2
      exact ⟨rd,e1⟩
    obtain ⟨bM,rd,HK⟩:=Y3
    refine calls_of_wp_defers hf hb ?_
    have hm: ∀id blk,(bq (A.sin f) ds).hp id=some blk→id<(A.sin f).a8.length:=by
     intro id blk ae
     simp only[bq,mk,gD] at ae
     have:=(List.getElem?_eq_some_iff.1 ae).1
     rwa [Dz] at this
    have iS: ∀id e es ao,(bq (A.sin f) ds).hp id=some (.nest e es ao)→∀k,bD ao k=0:=by
     intro id e es ao ae k
     simp only[bq,mk,gD] at ae
     exact YX ae k
    refine YR (w0:=⟨w,I⟩) (μ:=μ) (hp0:=(bq (A.sin f) ds).hp) (B:=w.heap.size) (M:=nO P w μ (bq (A.sin f) ds).hp) hC hP oT hm iS c h1 ?_ ?_
    ·refine Inv.enter jK ?_ hm iS fun p hp=>by
      simp only[bq,mk,gD]
      rw[List.getElem?_eq_none_iff,Dz]
      exact hp
     refine ⟨I,μ,⟨hH,fun _ _ _=>rfl,Nat.le_refl _,fun b h=> .inl h,⟨rfl,rfl⟩⟩,⟨fun k=> ?_,?_,by simp,Y2⟩,(Le.refl (P:=P) w I μ _).Dd⟩
     ·change an P w I μ _ _ (iJ (fc (A.sin f).bI ds) k)
      unfold iJ
      rw[Ie iO]
      simp only[Nat.zero_le,if_true,Nat.sub_zero]
      cases hk:(fp ((A.sin f).bI.map (·.2)) ds)[k]? with
      | none=>exact .undef
      | some x=>
       have kM:k<vals.length:=by
        have:=(List.getElem?_eq_some_iff.1 hk).1
        rw[Ig,List.length_map] at this
        rw[hl];exact this
       have:=hv k vals[k] x (List.getElem?_eq_getElem kM) hk
       have e1:(vals.toArray++Array.replicate (fn.ntmps-vals.toArray.size) undef).getD k undef=vals[k]:=by
        simp[Array.getElem?_append,kM]
       rw[Option.getD_some]
       exact e1▸this
     ·simp
      omega
    ·intro a' w' hI
     obtain ⟨v,I2,bX,q1,q2,q3,q4⟩:=YY hm iS hI rD aZ HK
     obtain ⟨_,_,_,hA,_⟩:=hI
     cases out with
     | exit id=>exact absurd rfl (bM id)
     | norm=>exact HZ hP q1 ⟨v,I2,bX,rfl,q2,q3,q4⟩ _ hA.defers
     | ret=>exact HZ hP q1 ⟨v,I2,bX,rfl,q2,q3,q4⟩ _ hA.defers
theorem PE (hP:iR P A) (oT:P.follows .mixedOrders=true): ∀n,kf P A (jC P A n)
 | 0=>fun _ _ _ h=>by cases h
 | n+1=>Y1 (PE hP oT n) hP oT
theorem Y4 (hP:iR P A) (oT:P.follows .mixedOrders=true):kf P A (Call P A):=by
 intro f ds es h
 have hn: ∃n,jC P A n f ds=some es:=by
  unfold Call at h
  split at h
  ·rename_i hex
   have:=hex.choose_spec.choose_spec
   rw[Option.some.inj h] at this
   exact ⟨_,this⟩
  ·cases h
 obtain ⟨n,hn⟩:=hn
 exact PE hP oT n f ds es hn
end
end Go.AM
namespace Go.AM
section
variable {P:Program} {A:cB} {C:af} {D:Nat→af}
def yB (C:af) (D:Nat→af):Prop:= ∀f a r,C f a=some r→∃n,∀k,n≤k→D k f a=some r
theorem p7 {α:Type} (h:yB C D) {hp:Nat→Option aj}: ∀{p:Rd α} {r:α × List Nat},p.run C hp=some r→∃n,∀k,n≤k→p.run (D k) hp=some r
 | .ret a,r,e=>⟨0,fun _ _=>e⟩
 | .fail,r,e=>by cases e
 | .get id q,r,e=>by
  obtain ⟨x,h1,h2⟩:=bind_some e
  obtain ⟨n,hn⟩:=p7 h h1
  exact ⟨n,fun k hk=>by simp only[Rd.run,hn k hk,Option.bind_some];exact h2⟩
 | .opt o q,r,e=>by
  obtain ⟨x,h1,h2⟩:=bind_some e
  obtain ⟨n,hn⟩:=p7 h h2
  exact ⟨n,fun k hk=>by simp only[Rd.run,h1,Option.bind_some];exact hn k hk⟩
 | .aB b q,r,e=>by
  obtain ⟨h1,h2⟩:=aF e
  obtain ⟨n,hn⟩:=p7 h h2
  exact ⟨n,fun k hk=>by simp only[Rd.run,h1,cond_true];exact hn k hk⟩
 | .call f a q,r,e=>by
  obtain ⟨x,h1,h2⟩:=bind_some e
  obtain ⟨n1,iO⟩:=h f a x h1
  obtain ⟨n2,rD⟩:=p7 h h2
  exact ⟨max n1 n2,fun k hk=>by simp only[Rd.run,iO k (by omega),Option.bind_some];exact rD k (by omega)⟩
 | .alt true x y,r,e=>p7 (p:=x) h e
 | .alt false x y,r,e=>p7 (p:=y) h e
theorem Y5 (h:yB C D) {n i nb:Nat} {ops:Array Oper} {o:Oper} {st:St} {r:St × List Nat × List Nat} (e:gv P A C n ops i o nb st=some r): ∃N,∀k,N≤k→gv P A (D k) n ops i o nb st=some r:=by
 unfold gv at e
 have go:(((fq P A st.sl i (nb+64*i) o).run C st.hp).bind fun r=>some ((⟨gM st.sl o.dst r.1.v,bL st.hp r.1.upd,st.nb⟩:St),r.2,r.1.upd.map (·.1)))=some r→
   ∃N,∀k,N≤k→(((fq P A st.sl i (nb+64*i) o).run (D k) st.hp).bind fun r=>some ((⟨gM st.sl o.dst r.1.v,bL st.hp r.1.upd,st.nb⟩:St),r.2,r.1.upd.map (·.1)))=some r:=by
  intro e
  obtain ⟨x,h1,h2⟩:=bind_some e
  obtain ⟨N,hN⟩:=p7 h h1
  exact ⟨N,fun k hk=>by rw[hN k hk];exact h2⟩
 unfold gv
 cases hd:rb o n with
 | false=>rw[hd] at e;cases e
 | true=>
  rw[hd] at e
  simp only[cond_true] at e⊢
  cases hg:o.guard with
  | none=>rw[hg] at e;exact go e
  | some gw=>
   obtain ⟨g,want⟩:=gw
   rw[hg] at e
   simp only at e⊢
   cases kP:(ops[g]?).bind (·.dst) with
   | none=>rw[kP] at e;cases e
   | some d=>
    rw[kP] at e
    simp only at e⊢
    cases lK:kC (st.sl d) with
    | none=>rw[lK] at e;cases e
    | some ob=>
    rw[lK] at e
    cases ob with
    | none=>exact ⟨0,fun _ _=>e⟩
    | some b=>
    simp only at e⊢
    cases hb:b==want with
    | true=>rw[hb] at e;exact go e
    | false=>rw[hb] at e;exact ⟨0,fun _ _=>e⟩
theorem PF (h:yB C D) {n nb:Nat} {ops:Array Oper}: ∀{l:List (Nat × Oper)} {st:St} {log:Log} {r:St × Log},oD P A C n ops nb l st log=some r→∃N,∀k,N≤k→oD P A (D k) n ops nb l st log=some r
 | [],st,log,r,e=>⟨0,fun _ _=>e⟩
 | (i,o)::l,st,log,r,e=>by
  obtain ⟨x,h1,h2⟩:=bind_some e
  obtain ⟨N1,nT⟩:=Y5 h h1
  obtain ⟨N2,p8⟩:=PF h h2
  exact ⟨max N1 N2,fun k hk=>by simp only[oD,nT k (by omega),Option.bind_some];exact p8 k (by omega)⟩
theorem PH {X R:Type} {step:X→Option (X ⊕ R)} {stepD:Nat→X→Option (X ⊕ R)} (hs: ∀x y,step x=some y→∃N,∀k,N≤k→stepD k x=some y): ∀(n:Nat) (x:X) (r:R),eI step n x=some r→∃N,∀k,N≤k→eI (stepD k) n x=some r
 | 0,x,r,e=>by cases e
 | n+1,x,r,e=>by
  simp only[eI] at e⊢
  obtain ⟨y,h1,h2⟩:=bind_some e
  obtain ⟨N1,nT⟩:=hs x y h1
  cases y with
  | inl z=>
   obtain ⟨N2,p8⟩:=PH hs n z r h2
   exact ⟨max N1 N2,fun k hk=>by rw[nT k (by omega)];exact p8 k (by omega)⟩
  | inr q=>exact ⟨N1,fun k hk=>by rw[nT k hk];exact h2⟩
theorem Y6 (h:yB C D) {f n m:Nat}: ∀(c:Code) {st:St} {r:Out × St},exec P A C f n m c st=some r→∃N,∀k,N≤k→exec P A (D k) f n m c st=some r:=by
 intro c
 induction c with
 | skip=>exact fun e=>⟨0,fun _ _=>e⟩
 | exit id=>exact fun e=>⟨0,fun _ _=>e⟩
 | ret=>exact fun e=>⟨0,fun _ _=>e⟩
 | region id ops draw=>
  intro st r e
  simp only[exec] at e⊢
  obtain ⟨x,h1,h2⟩:=bind_some e
  obtain ⟨y,h3,h4⟩:=bind_some h1
  obtain ⟨N,hN⟩:=PF h h3
  refine ⟨N,fun k hk=> ?_⟩
  have:uS P (A.here f id) (D k) n ops draw st=some x:=by
   unfold uS
   rw[hN k hk]
   exact h4
  rw[this]
  exact h2
 | seq x y fF fG=>
  intro st r e
  simp only[exec] at e⊢
  obtain ⟨⟨o,s1⟩,h1,h2⟩:=bind_some e
  obtain ⟨N1,nT⟩:=fF h1
  cases o with
  | norm=>
   obtain ⟨N2,p8⟩:=fG h2
   exact ⟨max N1 N2,fun k hk=>by rw[nT k (by omega)];exact p8 k (by omega)⟩
  | exit id=>exact ⟨N1,fun k hk=>by rw[nT k hk];exact h2⟩
  | ret=>exact ⟨N1,fun k hk=>by rw[nT k hk];exact h2⟩
 | cond c x y fF fG=>
  intro st r e
  cases c with
  | tmp t=>
   have go: ∀{st:St} {r:Out × St},(match st.sl t with
     | .bool b=>(bif b then exec P A C f n m x st else exec P A C f n m y st).bind fun r=>
      match r.1 with
      | .norm=>some (.norm,canon m (A.join f t) r.2)
      | _=>some r
     | _=>none)=some r→∃N,∀k,N≤k→(match st.sl t with
     | .bool b=>(bif b then exec P A (D k) f n m x st else exec P A (D k) f n m y st).bind fun r=>
      match r.1 with
      | .norm=>some (.norm,canon m (A.join f t) r.2)
      | _=>some r
     | _=>none)=some r:=by
    intro st r e
    cases hs:st.sl t<;>rw[hs] at e<;>simp only at e⊢ <;>first|(cases e;done)|skip
    rename_i b
    obtain ⟨x1,h1,h2⟩:=bind_some e
    cases b with
    | true=>
     obtain ⟨N,hN⟩:=fF h1
     exact ⟨N,fun k hk=>by simp only[cond_true,hN k hk,Option.bind_some];exact h2⟩
    | false=>
     obtain ⟨N,hN⟩:=fG h1
     exact ⟨N,fun k hk=>by simp only[cond_false,hN k hk,Option.bind_some];exact h2⟩
   simp only[exec] at e⊢
   split at e
   ·rename_i hS
    obtain ⟨N,hN⟩:=go e
    exact ⟨N,fun k hk=>hN k hk⟩
   ·rename_i S hS
    obtain ⟨ds,h1,h2⟩:=bind_some e
    obtain ⟨e',h3,h4⟩:=bind_some h2
    obtain ⟨r1,h5,h6⟩:=bind_some h3
    obtain ⟨N,hN⟩:=go h5
    refine ⟨N,fun k hk=> ?_⟩
    try rw[hS]
    simp only[h1,Option.bind_some]
    exact (congrArg (fun z:Option (Out × St)=>(z.bind fun r=>ways m 0 S.2 r).bind fun e=>jB 0 S.2 e.1 e.2 fun o st=>some (o,st)) (hN k hk)).trans (by simp only[Option.bind_some,h6];exact h4)
  | const v=>
   cases v with
   | bool b=>
    simp only[exec] at e⊢
    cases b with
    | true=>exact fF e
    | false=>exact fG e
   | _=>simp only[exec] at e;cases e
  | _=>simp only[exec] at e;cases e
 | block id c ih=>
  intro st r e
  simp only[exec] at e⊢
  obtain ⟨x1,h1,h2⟩:=bind_some e
  obtain ⟨N,hN⟩:=ih h1
  exact ⟨N,fun k hk=>by rw[hN k hk];exact h2⟩
 | loop c ih=>
  intro st r e
  simp only[exec] at e⊢
  split at e
  ·cases e
  ·rename_i S hS
   obtain ⟨ds,h1,h2⟩:=bind_some e
   obtain ⟨e',h3,h4⟩:=bind_some h2
   obtain ⟨q,hq⟩:=uE h3
   obtain ⟨N,hN⟩:=PH (stepD:=fun k ds=>j4 m S.1 S.2 (exec P A (D k) f n m c (bq S.1 ds))) (fun x y yC=>by
    unfold j4 at yC⊢
    obtain ⟨z,h5,h6⟩:=bind_some yC
    obtain ⟨N,hN⟩:=ih h5
    exact ⟨N,fun k hk=>by rw[hN k hk];exact h6⟩) q ds e' hq
   refine ⟨N,fun k hk=> ?_⟩
   try rw[hS]
   simp only[h1,Option.bind_some]
   rw[uD (hN k hk)]
   exact h4
 | _=>intro st r e;simp only[exec] at e;cases e
theorem DB (h:yB C D) {f:Nat} {ds es:List V} (e:ny P A C f ds=some es): ∃N,∀k,N≤k→ny P A (D k) f ds=some es:=by
 unfold ny at e⊢
 cases hf:P.funcs[A.aW f]? with
 | none=>rw[hf] at e;cases e
 | some fn=>
  rw[hf] at e
  simp only at e⊢
  cases hb:fn.body with
  | none=>rw[hb] at e;cases e
  | some c=>
   rw[hb] at e
   simp only at e⊢
   cases hc:(gP 0 (A.sin f).bI&&(Nat.ble (A.sin f).bI.length fn.ntmps&&((A.sin f).ok&&(gP 0 (A.fl f).bI&&(Nat.beq (A.fl f).bI.length fn.results.size&&nv (lx (A.sin f).a8.length (A.mv f))))))) with
   | false=>rw[hc] at e;cases e
   | true=>
    rw[hc] at e
    simp only[cond_true] at e⊢
    obtain ⟨⟨o,s1⟩,h1,h2⟩:=bind_some e
    obtain ⟨N1,nT⟩:=Y6 h c h1
    cases o with
    | exit id=>cases h2
    | norm=>
     simp only[Option.map_eq_some_iff] at h2
     obtain ⟨x,e1,e2⟩:=h2
     obtain ⟨N2,p8⟩:=p7 h e1
     exact ⟨max N1 N2,fun k hk=>by rw[nT k (by omega)];simp only[Option.bind_some,p8 k (by omega),Option.map_some,e2]⟩
    | ret=>
     simp only[Option.map_eq_some_iff] at h2
     obtain ⟨x,e1,e2⟩:=h2
     obtain ⟨N2,p8⟩:=p7 h e1
     exact ⟨max N1 N2,fun k hk=>by rw[nT k (by omega)];simp only[Option.bind_some,p8 k (by omega),Option.map_some,e2]⟩
theorem PI: ∀n f a r,jC P A n f a=some r→jC P A (n+1) f a=some r
 | 0,f,a,r,h=>by cases h
 | n+1,f,a,r,h=>by
  obtain ⟨N,hN⟩:=DB (C:=jC P A n) (D:=fun _=>jC P A (n+1)) (fun f a r h=>⟨0,fun _ _=>PI n f a r h⟩) h
  exact hN N (Nat.le_refl _)
theorem Ih {n k:Nat} (hk:n≤k) {f:Nat} {a r:List V} (h:jC P A n f a=some r):jC P A k f a=some r:=by
 induction hk with
 | refl=>exact h
 | step _ ih=>exact PI _ _ _ _ ih
theorem yD {f:Nat} {a r:List V}:Call P A f a=some r↔∃n,jC P A n f a=some r:=by
 constructor
 ·intro h
  unfold Call at h
  split at h
  ·rename_i hex
   have:=hex.choose_spec.choose_spec
   rw[Option.some.inj h] at this
   exact ⟨_,this⟩
  ·cases h
 ·rintro ⟨n,hn⟩
  have hex: ∃n r,jC P A n f a=some r:=⟨n,r,hn⟩
  unfold Call
  rw[dif_pos hex]
  have h2:=hex.choose_spec.choose_spec
  have h3:=Ih (Nat.le_max_left n hex.choose) hn
  have h4:=Ih (Nat.le_max_right n hex.choose) h2
  rw[h3] at h4
  exact h4.symm
theorem Y7 (f:Nat) (a:List V):Call P A f a=ny P A (Call P A) f a:=by
 apply Option.ext
 intro r
 constructor
 ·intro h
  obtain ⟨n,hn⟩:=yD.1 h
  cases n with
  | zero=>cases hn
  | succ n=>
   obtain ⟨N,hN⟩:=DB (C:=jC P A n) (D:=fun _=>Call P A) (fun f a r h=>⟨0,fun _ _=>yD.2 ⟨n,h⟩⟩) hn
   exact hN N (Nat.le_refl _)
 ·intro h
  obtain ⟨N,hN⟩:=DB (C:=Call P A) (D:=jC P A) (fun f a r h=>by
   obtain ⟨n,hn⟩:=yD.1 h
   exact ⟨n,fun k hk=>Ih hk hn⟩) h
  exact yD.2 ⟨N+1,hN N (Nat.le_refl _)⟩
end
end Go.AM
namespace Go.AM
open Go.ChangeShapes Go.WideShapes Go.RowKit
section
variable (P:Program)
inductive WT:TypeId→V→Prop
 | int {t:TypeId} {k:IntKind} {n:Int}:P.underlying t=some (.int k)→(Lit.int k n).wf=true→WT t (.int k n)
 | bool {t:TypeId} {b:Bool}:P.underlying t=some .bool→WT t (.bool b)
 | str {t:TypeId} {l:List UInt8}:P.underlying t=some .string→l.length≤maxLen→WT t (.str l)
 | list {t e:TypeId} {es:List V}:P.underlying t=some (.slice e)→es.length≤maxLen→
   (∀(i:Nat) x,es[i]? =some x→bH P e=true→∃xs,x= .agg xs∧xs.length=(aU P e).length)→
   (∀(i j:Nat) x t',es[i]? =some x→(aU P e)[j]? =some t'→WT t' (bJ P e x j))→WT t (.list e es)
def gX (t:TypeId) (x:V):Prop:=
 (bH P t=true→∃xs,x= .agg xs∧xs.length=(aU P t).length)∧∀(j:Nat) t',(aU P t)[j]? =some t'→WT P t' (bJ P t x j)
def sk:List TypeId→List V→Prop
 | [],[]=>True
 | t::ts,x::xs=>gX P t x∧sk ts xs
 | _,_=>False
def hasB (L:List TypeId) (t:TypeId):Bool:=L.any fun u=>Nat.beq u t
def DC (L:List TypeId):Nat→List Field→Bool
 | _,[]=>true
 | n,f::fs=>hasB L f.type&&(Nat.beq f.offset n&&(Nat.beq (P.cellsOf f.type) (aU P f.type).length&&DC L (n+P.cellsOf f.type) fs))
def yE:List Nat→List Nat→Bool
 | [],[]=>true
 | a::l,b::m=>Nat.beq a b&&yE l m
 | _,_=>false
def Ii (L:List TypeId) (t:TypeId):Bool:=
 Nat.beq (P.cellsOf t) (aU P t).length&&
 match P.underlying t with
 | some (.int _)=>true
 | some .bool=>true
 | some .string=>true
 | some (.slice e)=>hasB L e&&cQ P e
 | some (.struct fs)=>DC P L 0 fs.toList&&yE (flat P t) (fs.toList.flatMap fun f=>aU P f.type)
 | some (.array n e)=>hasB L e&&(Nat.beq (P.cellsOf e) (aU P e).length&&yE (flat P t) (List.replicate n (aU P e)).flatten)
 | _=>false
def DD (L:List TypeId):Bool:=L.all fun t=>Ii P L t
end
theorem DE {L:List TypeId} {t:TypeId} (h:hasB L t=true):t∈L:=by
 obtain ⟨u,hu,h2⟩:=List.any_eq_true.1 h
 rw[Nat.beq_eq] at h2
 exact h2▸hu
theorem Ij: ∀{l m:List Nat},yE l m=true→l=m
 | [],[],_=>rfl
 | a::l,b::m,h=>by
  simp only[yE,Bool.and_eq_true,Nat.beq_eq] at h
  rw[h.1,Ij h.2]
 | [],_::_,h=>by cases h
 | _::_,[],h=>by cases h
section
variable {P:Program} {H:Type} {enc:TypeId × Value→H} {w:World} {base:Nat} {spare:Nat→Bool} {held:Bool} {L:List TypeId}
def mF (w:World):Nat→Prop:=fun b=>b<w.heap.size
def mG (P:Program) (w:World) (ts:List TypeId) (cs:List Value) (xs:List V):Prop:=
 cs.length=ts.length∧xs.length=ts.length∧∀(j:Nat) t',ts[j]? =some t'→∃v y,cs[j]? =some v∧xs[j]? =some y∧Pure P w (mF w) t' v y∧WT P t' y
theorem mG.app {ts uO:List TypeId} {cs gV:List Value} {xs PJ:List V} (h:mG P w ts cs xs) (h':mG P w uO gV PJ):mG P w (ts++uO) (cs++gV) (xs++PJ):=by
 obtain ⟨a,b,c⟩:=h
 obtain ⟨a',b',c'⟩:=h'
 refine ⟨by simp[a,a'],by simp[b,b'],fun j t' hj=> ?_⟩
 by_cases aR:j<ts.length
 ·rw[List.getElem?_append_left aR] at hj
  obtain ⟨v,y,e1,e2,e3⟩:=c j t' hj
  exact ⟨v,y,by rw[List.getElem?_append_left (by omega)];exact e1,by rw[List.getElem?_append_left (by omega)];exact e2,e3⟩
 ·rw[List.getElem?_append_right (by omega)] at hj
  obtain ⟨v,y,e1,e2,e3⟩:=c' _ t' hj
  exact ⟨v,y,by rw[List.getElem?_append_right (by omega),a];exact e1,by rw[List.getElem?_append_right (by omega),b];exact e2,e3⟩
theorem Y8 {w:World} {a:Addr} {v:Value} (h:w.cell? a=some v):a.spot=none∧a.block<w.heap.size:=by
 unfold World.cell? at h
 split at h
 ·rename_i hh
  split at h
  ·cases h
  ·rename_i hs
   exact ⟨by simpa using hs,(Array.getElem?_eq_some_iff.1 hh).1⟩
 all_goals (first|cases h|skip)
theorem PK {rd:TypeId→List Value→Option (DataW H × List MemPlace)} (cs:List Value)
  (ih: ∀t cs x,t∈L→rd t cs=some x→∃xs,mG P w (aU P t) cs xs): ∀(fs:List Field) (n:Nat),DC P L n fs=true→
  (∀f∈fs,∃x,rd f.type ((cs.drop f.offset).take (P.cellsOf f.type))=some x)→∃m xs,n≤m∧mG P w (fs.flatMap fun f=>aU P f.type) ((cs.drop n).take (m-n)) xs∧m-n=(fs.flatMap fun f=>aU P f.type).length
 | [],n,_,_=>⟨n,[],Nat.le_refl _,⟨by simp,rfl,by simp⟩,by simp⟩
 | f::fs,n,h,hx=>by
  simp only[DC,Bool.and_eq_true,Nat.beq_eq] at h
  obtain ⟨h1,h2,h3,h4⟩:=h
  obtain ⟨x,Y9⟩:=hx f (by simp)
  obtain ⟨xs,gk⟩:=ih _ _ _ (DE h1) Y9
  obtain ⟨m,ys,hm,p9,Dn⟩:=PK cs ih fs (n+P.cellsOf f.type) h4 fun g hg=>hx g (by simp[hg])
  refine ⟨m,xs++ys,by omega,?_,by simp only[List.flatMap_cons,List.length_append];omega⟩
  have:=gk.app p9
  rw[List.flatMap_cons]
  rw[h2] at this
  have e:(cs.drop n).take (m-n)=(cs.drop n).take (P.cellsOf f.type)++(cs.drop (n+P.cellsOf f.type)).take (m-(n+P.cellsOf f.type)):=by
   rw[show m-n=P.cellsOf f.type+(m-(n+P.cellsOf f.type)) by omega,List.take_add,List.drop_drop]
  rw[e]
  exact this
theorem PL {rd:List Value→Option (DataW H × List MemPlace)} (cs:List Value) {e:TypeId} (hs:P.cellsOf e=(aU P e).length)
  (ih: ∀cs x,rd cs=some x→∃xs,mG P w (aU P e) cs xs): ∀(n:Nat),
  (∀i,i<n→∃x,rd ((cs.drop (i*P.cellsOf e)).take (P.cellsOf e))=some x)→∃xs,mG P w (List.replicate n (aU P e)).flatten (cs.take (n*P.cellsOf e)) xs
 | 0,_=>⟨[],by simp,rfl,by simp⟩
 | n+1,hx=>by
  obtain ⟨xs,gk⟩:=PL cs hs ih n fun i hi=>hx i (by omega)
  obtain ⟨x,yv⟩:=hx n (by omega)
  obtain ⟨ys,p9⟩:=ih _ _ yv
  refine ⟨xs++ys,?_⟩
  rw[List.replicate_succ',List.flatten_append]
  have:=gk.app p9
  rw[Nat.add_mul,Nat.one_mul,List.take_add]
  simpa using this
theorem DF (hL:DD P L=true): ∀(fuel:Nat) (t:TypeId) (cs:List Value) (x:DataW H × List MemPlace),t∈L→DataW.trod enc P w base spare held fuel t cs=some x→
  ∃xs,mG P w (aU P t) cs xs
 | 0,_,_,_,_,h=>by cases h
 | fuel+1,t,cs,x,ht,h=>by
  have hg:=List.all_eq_true.1 hL t ht
  unfold Ii at hg
  rw[Bool.and_eq_true,Nat.beq_eq] at hg
  obtain ⟨hc,hg⟩:=hg
  have one:bH P t=false→aU P t=[t]:=fun h=>by simp[aU,h]
  cases hu:P.underlying t with
  | none=>rw[hu] at hg;cases hg
  | some d=>
   rw[hu] at hg
   cases d with
   | int k=>
    obtain ⟨n,rfl,rfl,Za⟩:=DataW.trod_int hu h
    rw[one (by simp[bH,hu])]
    exact ⟨[.int k n],rfl,rfl,fun j t' hj=>by
     cases j with
     | zero=>cases hj;exact ⟨_,_,rfl,rfl,.int hu,.int hu Za⟩
     | succ j=>simp at hj⟩
   | bool=>
    obtain ⟨b,rfl,rfl⟩:=DataW.trod_bool hu h
    rw[one (by simp[bH,hu])]
    exact ⟨[.bool b],rfl,rfl,fun j t' hj=>by
     cases j with
     | zero=>cases hj;exact ⟨_,_,rfl,rfl,.bool hu,.bool hu⟩
     | succ j=>simp at hj⟩
   | string=>
    obtain ⟨s,rfl,rfl,hl⟩:=DataW.trod_string hu h
    rw[one (by simp[bH,hu])]
    exact ⟨[.str s.data.toList],rfl,rfl,fun j t' hj=>by
     cases j with
     | zero=>cases hj;exact ⟨_,_,rfl,rfl,.str hu rfl,.str hu (by simpa using hl)⟩
     | succ j=>simp at hj⟩
   | slice e=>
    simp only[Bool.and_eq_true] at hg
    obtain ⟨he,ax⟩:=hg
    rw[one (by simp[bH,hu])]
    have single: ∀v y,cs=[v]→Pure P w (mF w) t v y→WT P t y→∃xs,mG P w [t] cs xs:=by
     rintro v y rfl a b
     exact ⟨[y],rfl,rfl,fun j t' hj=>by
      cases j with
      | zero=>cases hj;exact ⟨_,_,rfl,rfl,a,b⟩
      | succ j=>simp at hj⟩
    rcases DataW.trod_slice hu h with ⟨rfl,rfl⟩|⟨a,len,cap,elems,rest,n,hn,rfl,rfl,hb,hl,hm,hlen,cS,_,_⟩
    ·exact single _ _ rfl (.nil hu) (.list hu (by simp) (by simp) (by simp))
    ·cases hn
     have il:=(jF ax).2
     have NG:P.cellsOf e=(aU P e).length:=(fu ax).symm
     have key: ∀i,i<len→∃gV xs,w.cells? base (a.add (i*P.cellsOf e)) (P.cellsOf e)=some gV∧mG P w (aU P e) gV xs:=by
      intro i hi
      have h1:=cS i hi
      rw[List.getElem?_eq_getElem (by omega)] at h1
      obtain ⟨gV,h2,h3⟩:=Option.bind_eq_some_iff.1 h1
      obtain ⟨xs,gk⟩:=DF hL fuel e gV _ (DE he) h3
      exact ⟨gV,xs,h2,gk⟩
     by_cases h0:len=0
     ·subst h0
      exact single _ _ rfl (.emp hu) (.list hu (by simp) (by simp) (by simp))
     ·have ka:a.spot=none∧a.block<w.heap.size:=by
       obtain ⟨gV,xs,h2,_⟩:=key 0 (by omega)
       obtain ⟨_,h3,h4⟩:=World.cells?_some h2
       have h5:=h4 0 il
       rw[List.getElem?_eq_getElem (by omega)] at h5
       have:=Y8 h5
       simpa[Addr.add] using this
      have hF: ∃(F:Nat→List Value) (X:Nat→List V),∀i,i<len→w.cells? base (a.add (i*P.cellsOf e)) (P.cellsOf e)=some (F i)∧mG P w (aU P e) (F i) (X i):=by
       refine ⟨fun i=>if hi:i<len then (key i hi).choose else [],fun i=>if hi:i<len then (key i hi).choose_spec.choose else [],fun i hi=> ?_⟩
       simp only[dif_pos hi]
       exact (key i hi).choose_spec.choose_spec
      obtain ⟨F,X,Ik⟩:=hF
      have hx: ∀(i j:Nat) y t',((List.range len).map fun i=>cp P e (X i))[i]? =some y→(aU P e)[j]? =some t'→i<len∧∃v,(F i)[j]? =some v∧Pure P w (mF w) t' v (bJ P e y j)∧WT P t' (bJ P e y j):=by
       intro i j y t' hy hj
       have hi:i<len:=by
        have:=(List.getElem?_eq_some_iff.1 hy).1
        simpa using this
       refine ⟨hi,?_⟩
       simp[List.getElem?_range hi] at hy
       obtain ⟨c1,c2,c3⟩:=(Ik i hi).2
       obtain ⟨v,z,d1,d2,d3,d4⟩:=c3 j t' hj
       have:bJ P e y j=z:=by
        rw[←hy]
        unfold bJ cp
        cases ha:bH P e with
        | true=>
         simp only[cond_true,V.cell]
         rw[sO _ _ _ d2]
        | false=>
         simp only[cond_false]
         have:aU P e=[e]:=by simp[aU,ha]
         rw[this] at hj
         cases j with
         | zero=>rw[sO _ _ _ d2]
         | succ j=>simp at hj
       rw[this]
       exact ⟨v,d1,d3,d4⟩
      have fW: ∀i j,i<len→j<P.cellsOf e→w.cell? ⟨a.block,a.off+(i*P.cellsOf e+j),none⟩=some ((F i).getD j undef):=by
       intro i j hi hj
       obtain ⟨h1,h2⟩:=Ik i hi
       obtain ⟨_,h3,h4⟩:=World.cells?_some h1
       have h5:=h4 j hj
       rw[Go.Deep.add_add] at h5
       have e1:a.add (i*P.cellsOf e+j)=⟨a.block,a.off+(i*P.cellsOf e+j),none⟩:=by
        obtain ⟨b,o,s⟩:=a
        simp only at ka
        rw[ka.1]
        exact my ..
       rw[e1] at h5
       rw[h5,List.getD_eq_getElem?_getD,List.getElem?_eq_getElem (by omega)]
       rfl
      have ha:a=⟨a.block,a.off,none⟩:=by
       obtain ⟨b,o,s⟩:=a
       simp only at ka
       rw[ka.1]
      refine single (.slice (some a) len cap) (.list e ((List.range len).map fun i=>cp P e (X i))) rfl ?_ ?_
      ·rw[ha]
       refine .list (fun i j=>(F i).getD j undef) hu (by simp) hl (fun _=>ka.2) fW ?_
       intro i j y t' hy hj
       obtain ⟨hi,v,d1,d2,_⟩:=hx i j y t' hy hj
       rw[List.getD_eq_getElem?_getD,d1]
       exact d2
      ·refine .list hu (by simp;omega) ?_ ?_
       ·intro i y hy DG
        have hi:i<len:=by
         have:=(List.getElem?_eq_some_iff.1 hy).1
         simpa using this
        simp[List.getElem?_range hi] at hy
        rw[←hy]
        exact ⟨X i,by simp[cp,DG],(Ik i hi).2.2.1⟩
       ·intro i j y t' hy hj
        obtain ⟨_,v,_,_,d3⟩:=hx i j y t' hy hj
        exact d3
   | struct fs=>
    simp only[Bool.and_eq_true] at hg
    obtain ⟨xs,n,hn,rfl,hlen,jJ,hx⟩:=DataW.trod_struct hu h
    cases hn
    have het:aU P t=fs.toList.flatMap fun f=>aU P f.type:=by
     rw[←Ij hg.2]
     simp[aU,bH,hu]
    obtain ⟨m,ys,_,p9,hm⟩:=PK (w:=w) (rd:=fun t cs=>DataW.trod enc P w base spare held fuel t cs) cs (fun t cs x a b=>DF hL fuel t cs x a b) fs.toList 0 hg.1 (by
     intro f hf
     obtain ⟨i,hi⟩:=List.getElem?_of_mem hf
     rw[Array.getElem?_toList] at hi
     have pT:i<fs.size:=(Array.getElem?_eq_some_iff.1 hi).1
     exact ⟨_,(hx i f hi).trans (List.getElem?_eq_getElem (by omega))⟩)
    rw[het]
    refine ⟨ys,?_⟩
    have:(cs.drop 0).take (m-0)=cs:=by
     rw[List.drop_zero,hm,←het,←hc,←hlen,List.take_length]
    rw[this] at p9
    exact p9
   | array n e=>
    simp only[Bool.and_eq_true,Nat.beq_eq] at hg
    obtain ⟨xs,m,hn,rfl,hlen,jJ,hx⟩:=DataW.trod_array hu h
    cases hn
    have het:aU P t=(List.replicate n (aU P e)).flatten:=by
     rw[←Ij hg.2.2]
     simp[aU,bH,hu]
    obtain ⟨ys,p9⟩:=PL (w:=w) (rd:=DataW.trod enc P w base spare held fuel e) cs hg.2.1 (fun cs x b=>DF hL fuel e cs x (DE hg.1) b) n (by
     intro i hi
     exact ⟨_,(hx i hi).trans (List.getElem?_eq_getElem (by omega))⟩)
    rw[het]
    refine ⟨ys,?_⟩
    have:cs.take (n*P.cellsOf e)=cs:=by
     have:n*P.cellsOf e=cs.length:=by
      rw[hlen,hc,het,hg.2.1]
      simp
     rw[this,List.take_length]
    rw[this] at p9
    exact p9
   | _=>cases hg
end
end Go.AM
namespace Go.AM
open Go.ChangeShapes Go.WideShapes Go.RowKit
section
variable {P:Program} {H:Type} {enc:TypeId × Value→H} {w:World} {L:List TypeId}
theorem Zb {base Il:Nat} {spare:Nat→Bool} {held:Bool} {r:Reach} {β:Nat→Option Nat} {hp:Nat→Option aj} (hL:DD P L=true) {t:TypeId} {v:Value} {d:DataW H} {ps:List MemPlace} (ht:t∈L) (fk:Value.okWide P w r Il t v)
  (h:DataW.Trod enc P w base spare held t v d ps): ∃x,an P w (mF w) β hp v x∧gX P t x:=by
 obtain ⟨fuel,hf⟩:=h
 obtain ⟨xs,c1,c2,c3⟩:=DF hL fuel t _ _ ht hf
 have hg:=List.all_eq_true.1 hL t ht
 unfold Ii at hg
 rw[Bool.and_eq_true,Nat.beq_eq] at hg
 obtain ⟨_,hg⟩:=hg
 have DG:bH P t=true→∃x,an P w (mF w) β hp v x∧gX P t x:=by
  intro ha
  have hv: ∃cs,v= .agg cs:=by
   unfold Value.okWide at fk
   unfold bH at ha
   split at fk
   ·obtain ⟨cs,e,_⟩:=fk;exact ⟨cs,e⟩
   ·obtain ⟨cs,e,_⟩:=fk;exact ⟨cs,e⟩
   ·split at ha<;>simp_all
  obtain ⟨cs,rfl⟩:=hv
  refine ⟨.agg xs,.agg (by simpa[Value.cells] using c1.trans c2.symm) fun j v x hv hx=> ?_,fun _=>⟨xs,rfl,c2⟩,fun j t' hj=> ?_⟩
  ·have hj:j<(aU P t).length:=by rw[←c2];exact (List.getElem?_eq_some_iff.1 hx).1
   obtain ⟨v',y,e1,e2,e3,_⟩:=c3 j _ (List.getElem?_eq_getElem hj)
   rw[hx] at e2
   cases e2
   have:cs[j]? =some v':=by simpa[Value.cells] using e1
   rw[hv] at this
   cases this
   exact .pE e3
  ·obtain ⟨v',y,e1,e2,_,e4⟩:=c3 j t' hj
   have:bJ P t (.agg xs) j=y:=by
    simp only[bJ,ha,cond_true,V.cell]
    exact sO _ _ _ e2
   rw[this]
   exact e4
 have pQ:bH P t=false→v.cells= #[v]→∃x,an P w (mF w) β hp v x∧gX P t x:=by
  intro ha sW
  have he:aU P t=[t]:=by simp[aU,ha]
  rw[he] at c1 c2 c3
  obtain ⟨v',y,e1,e2,e3,e4⟩:=c3 0 t rfl
  rw[sW] at e1
  cases e1
  refine ⟨y,.pE e3,⟨fun h=>absurd (ha.symm.trans h) (by simp),fun j t' hj=> ?_⟩⟩
  rw[he] at hj
  cases j with
  | succ j=>simp at hj
  | zero=>
   cases hj
   simpa[bJ,ha] using e4
 unfold Value.okWide at fk
 cases hu:P.underlying t with
 | none=>rw[hu] at hg;cases hg
 | some Zc=>
  rw[hu] at hg fk
  cases Zc with
  | int k=>
   refine pQ (by simp[bH,hu]) ?_
   simp only[Cell.okWide,Cell.ok,hu] at fk
   cases v<;>first|rfl|(simp at fk;done)|exact fk.elim
  | bool=>
   refine pQ (by simp[bH,hu]) ?_
   simp only[Cell.okWide,Cell.ok,hu] at fk
   cases v<;>first|rfl|(simp at fk;done)|exact fk.elim
  | string=>
   refine pQ (by simp[bH,hu]) ?_
   simp only[Cell.okWide,Cell.ok,hu] at fk
   cases v<;>first|rfl|(simp at fk;done)|exact fk.elim
  | slice e=>
   refine pQ (by simp[bH,hu]) ?_
   simp only[Cell.okWide,Cell.ok,hu] at fk
   cases v<;>first|rfl|(simp at fk;done)|exact fk.elim
  | struct fs=>exact DG (by simp[bH,hu])
  | array n e=>exact DG (by simp[bH,hu])
  | _=>cases hg
theorem PM {base Il:Nat} {spare:Nat→Bool} {held:Bool} {r:Reach} {β:Nat→Option Nat} {hp:Nat→Option aj} (hL:DD P L=true): ∀{ts:List TypeId} {vs:List Value} {ds:List (DataW H)} {ps:List MemPlace},
  (∀t∈ts,t∈L)→(∀(j:Nat) t v,ts[j]? =some t→vs[j]? =some v→Value.okWide P w r Il t v)→DataW.TrodAll enc P w base spare held ts vs ds ps→
  ∃xs,vs.length=xs.length∧(∀(j:Nat) v x,vs[j]? =some v→xs[j]? =some x→an P w (mF w) β hp v x)∧sk P ts xs
 | [],vs,ds,ps,_,_,h=>by
  obtain ⟨rfl,rfl,rfl⟩:=trodAll_nil h
  exact ⟨[],rfl,by simp,trivial⟩
 | t::ts,vs,ds,ps,hm,fk,h=>by
  obtain ⟨v,Cm,d,PN,a,b,rfl,rfl,rfl,h1,h2⟩:=trodAll_cons h
  obtain ⟨x,yv,mA⟩:=Zb (β:=β) (hp:=hp) hL (hm t (by simp)) (fk 0 t v rfl rfl) h1
  obtain ⟨xs,hl,hr,hw⟩:=PM (β:=β) (hp:=hp) hL (fun t ht=>hm t (by simp[ht])) (fun j t v a b=>fk (j+1) t v (by simpa using a) (by simpa using b)) h2
  refine ⟨x::xs,by simp[hl],fun j v' x' hv hx=> ?_,mA,hw⟩
  cases j with
  | zero=>cases hv;cases hx;exact yv
  | succ j=>exact hr j v' x' (by simpa using hv) (by simpa using hx)
theorem PO {base:Nat} {spare:Nat→Bool} {held:Bool}: ∀{ts:List TypeId} {vs:List Value} {ds:List (DataW H)} {ps:List MemPlace},DataW.TrodAll enc P w base spare held ts vs ds ps→ds.length=ts.length
 | [],vs,ds,ps,h=>by obtain ⟨rfl,rfl,rfl⟩:=trodAll_nil h;rfl
 | t::ts,vs,ds,ps,h=>by
  obtain ⟨v,Cm,d,PN,a,b,rfl,rfl,rfl,h1,h2⟩:=trodAll_cons h
  simp[PO h2]
theorem PQ {base:Nat} (hl:laidOutB P=true) {W W':World} {PR:Nat→Bool}: ∀{ts:List TypeId} {vs:List Value} {ds:List (DataW H)} {ps:List MemPlace},(∀t∈ts,P.readableRec t=true∧t<P.types.size)→
  DataW.TrodAll enc P W base (fun _=>true) true ts vs ds ps→(∀p∈ps,W.sameAt W' p)→(∀p∈ps,PR p.block=true)→DataW.TrodAll enc P W' base PR true ts vs ds ps
 | [],vs,ds,ps,_,h,_,_=>by obtain ⟨rfl,rfl,rfl⟩:=trodAll_nil h;exact trodAll_mk0
 | t::ts,vs,ds,ps,hr,h,h1,h2=>by
  obtain ⟨v,Cm,d,PN,a,b,rfl,rfl,rfl,h3,h4⟩:=trodAll_cons h
  obtain ⟨r1,r2⟩:=hr t (by simp)
  exact trodAll_cons_mk (WideElems.Trod_stays hl r1 r2 h3 (fun p hp=>h1 p (by simp[hp])) (fun p hp=>h2 p (by simp[hp])))
   (PQ hl (fun t ht=>hr t (by simp[ht])) h4 (fun p hp=>h1 p (by simp[hp])) (fun p hp=>h2 p (by simp[hp])))
theorem Zd {f:Func} {s:ChangeSpec} {apart fresh handsOn again:Bool} {W W':World} {args:Array Value} {v:Value} {ds gs:List (DataW H)} {before pa pv:List MemPlace}
  (hW:DataW.Whole enc P f.params.toList s.vars apart W args.toList ds gs before)
  (PS: ∀(b:Nat) (sp:Nat→Bool) (hd:Bool),DataW.TrodAll enc P W' b sp hd f.resultTypes.toList (v.resultList f.resultTypes.size) (s.fn H (ds++gs)).results [])
  (tj: ∀sp:Nat→Bool,(∀p∈before,sp p.block=true)→DataW.TrodAll enc P W' 0 sp true f.params.toList args.toList (s.fn H (ds++gs)).args pa)
  (PT: ∀sp:Nat→Bool,(∀p∈before,sp p.block=true)→DataW.TrodVars enc P W' sp s.vars (s.fn H (ds++gs)).vars pv)
  (DH:before=pa++pv) (hk:W.keptBut W' (· ∈before)) (PU: ∀a:Addr,a.block<W.heap.size→W'.frozen? a=W.frozen? a)
  (ax: ∀(j:Nat) (t:TypeId) (r:Value),f.resultTypes[j]? =some t→(v.resultList f.resultTypes.size)[j]? =some r→Value.okWide P W' .any 0 t r):
  s.post enc P f apart fresh handsOn again W args v W':=by
 have hold: ∀p∈before,(fun b=>decide (b<W.heap.size)) p.block=true:=fun p hp=>by simpa using hW.lt p hp
 refine ⟨ds,gs,before,[],pa,pv,hW,PS _ _ _,tj _ hold,PT _ hold,World.keptBut_mono (fun p hp=>⟨hp,?_⟩) hk,fun _=> ?_⟩
 ·rw[DH,List.mem_append] at hp
  exact Or.inr hp
 ·have aR:=hW.lt
  obtain ⟨_,_,_,_,_,hz,hn⟩:=hW
  refine ⟨ax,_,_,([]++pa)++pv,⟨[]++pa,pv,trodAll_append (tj _ (fun _ _=>rfl)) (PS _ _ _),PT _ (fun _ _=>rfl),rfl,?_,?_⟩,?_⟩
  ·intro b off hp
   have hb:MemPlace.cell b off∈before:=by rw[DH];simpa using hp
   rw[PU ⟨b,off,none⟩ (aR _ hb)]
   exact hz b off hb
  ·intro ha
   have:=hn ha
   rw[DH] at this
   simpa using this
  ·intro p hp _
   rw[DH]
   simpa using hp
theorem VG {A:cB} (hP:iR P A) (oT:P.follows .mixedOrders=true) {f key:Nat} {fn:Func} {tb:TypeId} {s:ChangeSpec} {apart fresh handsOn again:Bool}
  (hf:P.funcs[f]? =some fn) (Ze:A.aW key=f) (hL:DD P L=true) (eU:fn.params.toList.all (fun t=>hasB L t)=true) (PV:fn.resultTypes= #[tb]) (PW:P.underlying tb=some .bool) (PX:s.vars=[])
  (hs: ∀ds:List (DataW H),ds.length=fn.params.toList.length→s.fn H ds={results:=[.lit (.bool true)],args:=ds})
  (Zf:laidOutB P=true) (Zg:fn.params.toList.all (fun t=>P.readableRec t&&Nat.blt t P.types.size)=true)
  (dO:(A.sin key).a8=[]) (ax:((A.sin key).bI.map (·.2)).all (VS.ok 0)=true) (Zh:(A.fl key).bI=[(0,.one .bool)]) (halt:A.alt key=none)
  (Zi: ∀xs,sk P fn.params.toList xs→∃ds,qQ ((A.sin key).bI.map (·.2)) xs=some ds∧Call P A key ds=some [.bool true])
  {W:World} {base:Nat} {args:Array Value} {ds gs:List (DataW H)} {before:List MemPlace}
  (Zj:gy P A.aD W (mF W)) (fk: ∀(j:Nat) t v,fn.params[j]? =some t→args[j]? =some v→Value.okWide P W .any base t v)
  (hW:DataW.Whole enc P fn.params.toList s.vars apart W args.toList ds gs before):
  Calls P f args W fun e W'=> ∃v,e= .returned v∧s.post enc P fn apart fresh handsOn again W args v W':=by
 have PY:=hW
 obtain ⟨p,q,hA,hV,rfl,PU,jK⟩:=hW
 rw[PX] at hV
 obtain ⟨Zk,hq⟩:gs=[]∧q=[]:=by
  cases gs with
  | nil=>exact ⟨rfl,hV⟩
  | cons g gs=>exact hV.elim
 subst Zk
 subst hq
 obtain ⟨xs,hl,hr,Zl⟩:=PM (β:=fun _=>none) (hp:=fun _=>none) hL (fun t ht=>DE (List.all_eq_true.1 eU t ht)) (fun j t v a b=>fk j t v (by simpa using a) (by simpa using b)) hA
 obtain ⟨ls,Zm,yr⟩:=Zi xs Zl
 obtain ⟨fn',c,h1,h2,h3⟩:=Y4 (A:=A) hP oT key ls [.bool true] yr
 rw[Ze] at h1 h3
 rw[hf] at h1
 cases h1
 have vC: ∀j,(bq (A.sin key) ls).hp j=none:=fun j=>by simp[bq,mk,dO,eK,iY]
 obtain ⟨_,r1,r2⟩:=yi (P:=P) (w:=W) (I:=mF W) (n:=0) (β:=fun _=>none) (au:=fun _=>none) (hp:=fun _=>none) (hp':=(bq (A.sin key) ls).hp) (fun j hj=>absurd hj (Nat.not_lt_zero j)) Zm ax
 have hlen:((A.sin key).bI.map (·.2)).length=xs.length:=by rw[←r1 [],Ig]
 have h4:=h3 W (mF W) (fun _=>none) args.toList ⟨fun id blk h=>(by rw[vC] at h;cases h),fun id aC blk blk' b h=>(by rw[vC] at h;cases h),fun id blk b h=>(by rw[vC] at h;cases h),fun b h=>h⟩ Zj
  (by rw[hl,←hlen,List.length_map]) (fun j v y hv hy=>r2 [] j v y (fun x hx=>hr j v x hv hx) (by rw[List.append_nil];exact hy))
 have ea:args.toList.toArray=args:=by simp
 rw[ea] at h4
 refine h4.mono fun e W' ⟨v,I2,bX,he,ha⟩=>⟨v,he,?_⟩
 have sR: ∀b,b<W.heap.size→W'.heap[b]? =W.heap[b]? :=fun b hb=>ha.vq.b8 b hb (by rintro ⟨j,blk,hj,_⟩;rw[vC] at hj;cases hj)
 have Hv:=ha.res
 have PZ:A.so key [.bool true]=A.fl key∧A.lv key [.bool true]=[.bool true]:=by unfold cB.so cB.lv;rw[halt];exact ⟨rfl,rfl⟩
 rw[PZ.1,PZ.2,Zh] at Hv
 obtain rfl:v= .bool true:=Hv.je
 have kL:Value.okWide P W' .any 0 tb (.bool true):=by simp[Value.okWide,PW,Cell.okWide,Cell.ok]
 have kB:ds.length=fn.params.toList.length:=PO hA
 have iy: ∀p'∈p++[],W.sameAt W' p':=by
  intro p' hp'
  have aR:=PY.lt p' hp'
  cases p' with
  | cell b o=>exact World.cell?_of_block (w:=W) (sR b aR)
  | map b=>exact sR b aR
 refine Zd (pa:=p) (pv:=[]) PY ?_ ?_ ?_ rfl ?_ ?_ ?_
 ·intro b sp hd
  rw[List.append_nil,hs ds kB,PV]
  exact trodAll_mk1 ⟨1,by simp[DataW.trod,Value.cells,PW]⟩
 ·intro sp ka
  rw[List.append_nil,hs ds kB]
  refine PQ Zf (fun t ht=> ?_) hA (fun p' hp'=>iy p' (by simpa using hp')) (fun p' hp'=>ka p' (by simpa using hp'))
  have:=List.all_eq_true.1 Zg t ht
  simp only[Bool.and_eq_true] at this
  exact ⟨this.1,by simpa[Nat.blt_eq] using this.2⟩
 ·intro sp ka
  rw[PX,List.append_nil,hs ds kB]
  exact rfl
 ·refine ⟨ha.vq.io.1,ha.vq.io.2,fun i hi=> ?_⟩
  rw[sR i hi]
  split<;>simp_all
 ·intro a aR
  exact World.frozen?_of_block (w:=W) (sR a.block aR)
 ·intro j t r hj Im
  rw[PV] at hj Im
  cases j with
  | zero=>
   simp[Value.resultList] at hj Im
   subst hj
   subst Im
   exact kL
  | succ j=>simp at hj
end
end Go.AM
namespace Go.AM
@[simp] theorem V.toInt_int (k:IntKind) (n:Int):V.toInt (.int k n)=n:=by cases k<;>rfl
@[simp] theorem V.jL (b:Bool):V.toBool (.bool b)=b:=by cases b<;>rfl
@[simp] theorem V.aid (s:List UInt8):V.toStr (.str s)=s:=by cases s<;>rfl
@[simp] theorem V.mH (e:TypeId) (es:List V):V.toList (.list e es)=es:=by cases es<;>rfl
@[simp] theorem V.aie (e:TypeId) (es:List V):V.toList (.own e es)=es:=by cases es<;>rfl
@[simp] theorem V.Zn (cs:List V) (j:Nat):V.cell (.agg cs) j=V.nth cs j:=by cases cs<;>rfl
@[simp] theorem V.aif (cs:List V) (j:Nat):V.comp (.bh cs) j=V.nth cs j:=by cases cs<;>rfl
@[simp] theorem V.bQ (x:V) (l:List V):V.nth (x::l) 0=x:=by cases l<;>rfl
@[simp] theorem V.qa (x:V) (l:List V) (n:Nat):V.nth (x::l) (n+1)=V.nth l n:=by cases l<;>rfl
@[simp] theorem V.aih (x y:V) (l:List V):V.nth (x::y::l) 1=y:=by cases l<;>rfl
@[simp] theorem V.aii (x y z:V) (l:List V):V.nth (x::y::z::l) 2=z:=by cases l<;>rfl
@[simp] theorem V.aij (x y z u:V) (l:List V):V.nth (x::y::z::u::l) 3=u:=by cases l<;>rfl
theorem wrap64 {x:Int} (h1: -9223372036854775808≤x) (h2:x<9223372036854775808):IntKind.wrap .i64 x=x:=by
 rw[IntKind.wrap_i64];omega
theorem Io {x:Int} (h1:0≤x) (h2:x<256):IntKind.wrap .u8 x=x:=by
 rw[IntKind.wrap_u8];omega
theorem Ip {es:List V} {i:Int} {n:Nat} (h:i=n):idx es i=es[n]? :=by
 subst h;simp[idx]
theorem Zo {α:Type} {f:α→V} {l:List α} {i:Int} {n:Nat} (h:i=n) (hn:n<l.length):idx (l.map f) i=some (f l[n]):=by
 rw[Ip h];simp[hn]
@[simp] theorem DI (es:List V) (n:Nat):idx es (n:Int)=es[n]? :=by simp[idx]
section
variable {X R:Type} {step:X→Option (X ⊕ R)}
theorem P0 (Inv:X→Prop) (μ:X→Nat) (Q:R→Prop)
  (h: ∀x,Inv x→(∃y,step x=some (.inl y)∧Inv y∧μ y<μ x)∨∃r,step x=some (.inr r)∧Q r):
  ∀x,Inv x→∃r,Loop step x=some r∧Q r:=by
 intro x
 induction hm:μ x using Nat.strongRecOn generalizing x with
 | ind m ih=>
  intro hx
  rcases h x hx with ⟨y,h1,h2,h3⟩|⟨r,h1,h2⟩
  ·obtain ⟨r,h4,h5⟩:=ih (μ y) (by omega) y rfl h2
   exact ⟨r,(dV h1).trans h4,h5⟩
  ·exact ⟨r,bS h1,h2⟩
theorem yF (s:Nat→X) (n:Nat) {r:R} (h: ∀i,i<n→step (s i)=some (.inl (s (i+1)))) (he:step (s n)=some (.inr r)):Loop step (s 0)=some r:=by
 induction n generalizing s with
 | zero=>exact bS he
 | succ n ih=>
  rw[dV (h 0 (by omega))]
  exact ih (fun i=>s (i+1)) (fun i hi=>h (i+1) (by omega)) he
theorem Zp (s:Nat→X) (k:Nat) {r:R} (h: ∀i,i<k→step (s i)=some (.inl (s (i+1)))) (he:step (s k)=some (.inr r)):Loop step (s 0)=some r:=yF s k h he
end
@[simp] theorem aA {α:Type} (p:Prop) [Decidable p] (a b:α):(bif decide p then a else b)=if p then a else b:=by by_cases h:p<;>simp[h]
@[simp] theorem mI {α:Type} (m n:Int) (a b:α):(bif m==n then a else b)=if m=n then a else b:=by
 by_cases h:m=n
 ·simp[h]
 ·have:(m==n)=false:=by simp[h]
  rw[this,if_neg h];rfl
@[simp] theorem oU {α:Type} (m n:Int) (a b:α):(bif m != n then a else b)=if m=n then b else a:=by
 by_cases h:m=n
 ·simp[h]
 ·have:(m != n)=true:=by simp[h]
  rw[this,if_neg h];rfl
@[simp] theorem gb {α:Type} (c:Bool) (a b:α):(bif !c then a else b)=bif c then b else a:=by cases c<;>rfl
@[simp] theorem qb {α:Type} (m n:Nat) (a b:α):(bif Nat.ble m n then a else b)=if m≤n then a else b:=by
 cases hb:Nat.ble m n with
 | true=>rw[if_pos (Nat.le_of_ble_eq_true hb)];rfl
 | false=>
  rw[if_neg fun h=> ?_]
  ·rfl
  ·rw[Nat.ble_eq_true_of_le h] at hb;cases hb
@[simp] theorem dv {α:Type} (c d:Bool) (a b:α):(bif c&&d then a else b)=bif c then (bif d then a else b) else b:=by cases c<;>rfl
end Go.AM
namespace Go.AM
section
variable {P:Program}
def P1 (P : Program) : Bool := P.funcs.all fun fn => !(fn.name == "runtime.NumGoroutine")
theorem Zq (h:P1 P=true):vw P:=by
 intro f fn hf
 unfold P1 at h
 have:=(Array.all_eq_true_iff_forall_mem.1 h) fn (Array.mem_of_getElem? hf)
 simpa using this
theorem MC {t:TypeId} {ts:List TypeId} {xs:List V} (h:sk P (t::ts) xs): ∃x ys,xs=x::ys∧gX P t x∧sk P ts ys:=by
 cases xs with
 | nil=>exact h.elim
 | cons x ys=>exact ⟨x,ys,rfl,h.1,h.2⟩
theorem VC {xs:List V} (h:sk P [] xs):xs=[]:=by
 cases xs with
 | nil=>rfl
 | cons x ys=>exact h.elim
theorem gX.one {t:TypeId} {x:V} (ha:bH P t=false) (h:gX P t x):WT P t x:=by
 have he:aU P t=[t]:=by simp[aU,ha]
 have:=h.2 0 t (by rw[he];rfl)
 simpa[bJ,ha] using this
theorem WT.ew {t:TypeId} {k:IntKind} {x:V} (hu:P.underlying t=some (.int k)) (h:WT P t x): ∃n,x= .int k n∧k.min≤n∧n≤k.max:=by
 cases h with
 | int h1 h2=>
  rw[hu] at h1
  cases h1
  simp only[Lit.wf,Bool.and_eq_true,decide_eq_true_eq] at h2
  exact ⟨_,rfl,h2⟩
 | bool h1=>rw[hu] at h1;cases h1
 | str h1=>rw[hu] at h1;cases h1
 | list h1=>rw[hu] at h1;cases h1
theorem WT.je {t:TypeId} {x:V} (hu:P.underlying t=some .bool) (h:WT P t x): ∃b,x= .bool b:=by
 cases h with
 | int h1=>rw[hu] at h1;cases h1
 | bool h1=>exact ⟨_,rfl⟩
 | str h1=>rw[hu] at h1;cases h1
 | list h1=>rw[hu] at h1;cases h1
theorem WT.lC {t:TypeId} {x:V} (hu:P.underlying t=some .string) (h:WT P t x): ∃s,x= .str s∧s.length≤maxLen:=by
 cases h with
 | int h1=>rw[hu] at h1;cases h1
 | bool h1=>rw[hu] at h1;cases h1
 | str h1 h2=>exact ⟨_,rfl,h2⟩
 | list h1=>rw[hu] at h1;cases h1
theorem WT.Iq {t e:TypeId} {x:V} (hu:P.underlying t=some (.slice e)) (h:WT P t x): ∃es,x= .list e es∧es.length≤maxLen∧∀y∈es,gX P e y:=by
 cases h with
 | int h1=>rw[hu] at h1;cases h1
 | bool h1=>rw[hu] at h1;cases h1
 | str h1=>rw[hu] at h1;cases h1
 | list h1 h2 h3 h4=>
  rw[hu] at h1
  cases h1
  refine ⟨_,rfl,h2,fun y hy=> ?_⟩
  obtain ⟨i,hi⟩:=List.getElem?_of_mem hy
  exact ⟨h3 i y hi,fun j t' hj=>h4 i j y t' hi hj⟩
theorem gX.j7 {t:TypeId} {x:V} (ha:bH P t=true) (h:gX P t x): ∃xs,x= .agg xs∧xs.length=(aU P t).length∧∀(j:Nat) t' y,(aU P t)[j]? =some t'→xs[j]? =some y→WT P t' y:=by
 obtain ⟨xs,rfl,hl⟩:=h.1 ha
 refine ⟨xs,rfl,hl,fun j t' y hj hy=> ?_⟩
 have:=h.2 j t' hj
 simp only[bJ,ha,cond_true,V.Zn] at this
 rw[sO _ _ _ hy] at this
 exact this
theorem P2 {α:Type} {f:α→V}: ∀{es:List V},(∀y∈es,∃a,y=f a)→∃l:List α,es=l.map f
 | [],_=>⟨[],rfl⟩
 | y::es,h=>by
  obtain ⟨a,rfl⟩:=h y (by simp)
  obtain ⟨l,rfl⟩:=P2 (f:=f) (es:=es) fun z hz=>h z (by simp[hz])
  exact ⟨a::l,rfl⟩
theorem Ir {α:Type} {f:α→V} {p:α→Prop}: ∀{es:List V},(∀y∈es,∃a,y=f a∧p a)→∃l:List α,es=l.map f∧∀a∈l,p a
 | [],_=>⟨[],rfl,by simp⟩
 | y::es,h=>by
  obtain ⟨a,rfl,ha⟩:=h y (by simp)
  obtain ⟨l,rfl,hl⟩:=Ir (f:=f) (p:=p) (es:=es) fun z hz=>h z (by simp[hz])
  exact ⟨a::l,rfl,by
   intro b hb
   rcases List.mem_cons.1 hb with rfl|hb
   ·exact ha
   ·exact hl b hb⟩
theorem gX.int {t:TypeId} {x:V} (hu:P.underlying t=some (.int .i64)) (h:gX P t x): ∃n,x= .int .i64 n∧IntKind.min .i64≤n∧n≤IntKind.max .i64:=
 (h.one (by simp[bH,hu])).ew hu
theorem gX.str {t:TypeId} {x:V} (hu:P.underlying t=some .string) (h:gX P t x): ∃s,x= .str s∧s.length≤maxLen:=
 (h.one (by simp[bH,hu])).lC hu
end
end Go.AM
namespace Go.AM
def un.{u} {A B:Type} {γ:Sort u} (f:A→B→γ) (p:A × B):γ:=f p.1 p.2
def cZ {A B γ:Type} (f:A→γ) (g:B→γ):A ⊕ B→γ
 | .inl a=>f a
 | .inr b=>g b
def ar:List Nat→Code→Code
 | [],c=>c
 | 0::p,.seq a _=>ar p a
 | _::p,.seq _ b=>ar p b
 | 0::p,.cond _ a _=>ar p a
 | _::p,.cond _ _ b=>ar p b
 | _::p,.block _ c=>ar p c
 | _::p,.loop c=>ar p c
 | _,c=>c
inductive ch where
 | loop (c:Code)
 | cond (t:Nat) (x y:Code)
section
variable (P:Program) (A:cB) (C:af) (L:cq) (f n m:Nat)
def oV:Code→List ch
 | .seq a b=>oV a++oV b
 | .cond (.tmp t) x y=>
  match A.gg f (t*16+15) with
  | none=>oV x++oV y
  | some _=>[.cond t x y]
 | .cond (.const _) x y=>oV x++oV y
 | .block _ c=>oV c
 | .loop c=>[.loop c]
 | _=>[]
def cj:ch→Prop
 | .loop c=>
  match A.gg f (keyOf c+1) with
  | none=>True
  | some S=> ∀(β:Type) ds (k:Nat→List V→Option β),L β (keyOf c+1) ds k=(Loop (stepG P A C f n m S c) ds).bind fun r=>k r.1 r.2
 | .cond t x y=>
  match A.gg f (t*16+15) with
  | none=>True
  | some S=> ∀(β:Type) ds (k:Nat→List V→Option β),L β (t*16+15) ds k=(xy P A C f n m t S x y ds).bind fun r=>k r.1 r.2
def mJ:List ch→Prop
 | []=>True
 | b::l=>cj P A C L f n m b∧mJ l
variable {P A C L f n m}
theorem mJ.left {a b:List ch}:mJ P A C L f n m (a++b)→mJ P A C L f n m a:=by
 induction a with
 | nil=>exact fun _=>trivial
 | cons x a ih=>exact fun h=>⟨h.1,ih h.2⟩
theorem mJ.right {a b:List ch}:mJ P A C L f n m (a++b)→mJ P A C L f n m b:=by
 induction a with
 | nil=>exact fun h=>h
 | cons x a ih=>exact fun h=>ih h.2
theorem aS: ∀{c:Code} {bs:List ch},oV A f c=bs→mJ P A C L f n m bs→gR P A C L f n m c:=by
 intro c
 induction c with
 | seq a b GJ GK=>
  intro bs h hb
  subst h
  exact ⟨GJ rfl hb.left,GK rfl hb.right⟩
 | cond c x y fF fG=>
  intro bs h hb
  subst h
  cases c with
  | tmp t=>
   simp only[oV] at hb
   simp only[gR]
   cases hs:A.gg f (t*16+15) with
   | none=>
    rw[hs] at hb
    exact ⟨fF rfl hb.left,fG rfl hb.right⟩
   | some S=>
    rw[hs] at hb
    have:=hb.1
    simp only[cj,hs] at this
    exact this
  | const v=>exact ⟨fF rfl hb.left,fG rfl hb.right⟩
  | _=>trivial
 | block id c ih=>
  intro bs h hb
  subst h
  exact ih rfl hb
 | loop c ih=>
  intro bs h hb
  subst h
  exact hb.1
 | _=>intro bs h hb;trivial
variable (P A C L f n m) in
noncomputable def Is {β:Type} (t:Nat) (S:Shape × List (Out × Shape)) (x y:Code) (ds:List V) (k:Nat→List V→Option β):Option β:=
 let kc:Out→St→Option β:=fun o st=>
  match o with
  | .norm=>(ways m 0 S.2 (.norm,canon m (A.join f t) st)).bind fun e=>k e.1 e.2
  | o=>(ways m 0 S.2 (o,st)).bind fun e=>k e.1 e.2
 match (bq S.1 ds).sl t with
 | .bool b=>bif b then gQ P A C L f n m x (bq S.1 ds) kc else gQ P A C L f n m y (bq S.1 ds) kc
 | _=>none
theorem Zr {t:Nat} {x y:Code} {S:Shape × List (Out × Shape)} (hS:A.gg f (t*16+15)=some S) (hx:gR P A C L f n m x) (hy:gR P A C L f n m y) {I R:Type} (enc:I→List V) (lN:I→R→Nat × List V)
  (de:List V→I) (body:I→(β:Type)→(R→Option β)→Option β) (tu: ∀ds,bq S.1 (enc (de ds))=bq S.1 ds)
  (e1: ∀i (β:Type) (k:Nat→List V→Option β),Is P A C L f n m t S x y (enc i) k=body i β (fun r=>k (lN i r).1 (lN i r).2))
  (hl: ∀(β:Type) ds (k:Nat→List V→Option β),L β (t*16+15) ds k=body (de ds) β (fun r=>k (lN (de ds) r).1 (lN (de ds) r).2)):
  cj P A C L f n m (.cond t x y):=by
 simp only[cj,hS]
 intro β ds k
 rw[hl,←e1]
 unfold Is xy
 rw[tu]
 simp only
 have hk: ∀(z:Option (Out × St)),(z.bind fun r=>(match r.1 with
   | .norm=>(ways m 0 S.2 (.norm,canon m (A.join f t) r.2)).bind fun e=>k e.1 e.2
   | o=>(ways m 0 S.2 (o,r.2)).bind fun e=>k e.1 e.2))=((z.bind fun r=>
   match r.1 with
   | .norm=>some (Out.norm,canon m (A.join f t) r.2)
   | _=>some r).bind fun r=>ways m 0 S.2 r).bind fun r=>k r.1 r.2:=by
  intro z
  cases z with
  | none=>rfl
  | some r=>obtain ⟨o,st⟩:=r;cases o<;>rfl
 cases (bq S.1 ds).sl t with
 | bool b=>
  cases b with
  | true=>simp only[cond_true,Ck P A C f n m x hx];exact hk _
  | false=>simp only[cond_false,Ck P A C f n m y hy];exact hk _
 | _=>rfl
theorem bf {b:ch} {l:List ch} (h:cj P A C L f n m b) (h2:mJ P A C L f n m l):mJ P A C L f n m (b::l):=⟨h,h2⟩
theorem av:mJ P A C L f n m []:=trivial
theorem bn {key:Nat} {bs:List ch} (hb:oV A key (cC P (A.aW key))=bs) (ht:mJ P A (Call P A) L key (cJ P (A.aW key)) (A.sin key).a8.length bs) {ds:List V} {r:Option (List V)}
  (h:GL P A (Call P A) L key ds=r):Call P A key ds=r:=by
 rw[Y7,VP P A (Call P A) key (aS hb ht),h]
end
end Go.AM
namespace Go.AM
section
variable (P:Program) (A:cB)
def gY (C:af) (N f n m:Nat):Code→St→Option (Out × St)
 | .skip,st=>some (.norm,st)
 | .region id ops draw,st=>(uS P (A.here f id) C n ops draw st).bind fun st'=>some (.norm,canon m (A.live f id) (freeze m (A.pur f id) st'))
 | .seq a b,st=>(gY C N f n m a st).bind fun r=>
  match r.1 with
  | .norm=>gY C N f n m b r.2
  | _=>some r
 | .cond (.tmp t) x y,st=>
  let go (st:St):Option (Out × St):=
   match st.sl t with
   | .bool b=>(bif b then gY C N f n m x st else gY C N f n m y st).bind fun r=>
    match r.1 with
    | .norm=>some (.norm,canon m (A.join f t) r.2)
    | _=>some r
   | _=>none
  match A.gg f (t*16+15) with
  | none=>go st
  | some S=>(ij m S.1 st).bind fun ds=>((go (bq S.1 ds)).bind fun r=>ways m 0 S.2 r).bind fun e=>jB 0 S.2 e.1 e.2 fun o st=>some (o,st)
 | .cond (.const (.bool b)) x y,st=>bif b then gY C N f n m x st else gY C N f n m y st
 | .block id c,st=>(gY C N f n m c st).bind fun r=>
  match r.1 with
  | .norm=>some (.norm,canon m (A.blk f id) r.2)
  | .exit aC=>bif Nat.beq aC id then some (.norm,canon m (A.blk f id) r.2) else some r
  | .ret=>some r
 | .loop c,st=>
  match A.gg f (keyOf c+1) with
  | none=>none
  | some S=>(ij m S.1 st).bind fun ds=>(eI (fun ds=>j4 m S.1 S.2 (gY C N f n m c (bq S.1 ds))) N ds).bind fun e=>jB 0 S.2 e.1 e.2 fun o st=>some (o,st)
 | .exit id,st=>some (.exit id,st)
 | .ret,st=>some (.ret,st)
 | _,_=>none
def It (C:af) (N f:Nat) (ds:List V):Option (List V):=
 match P.funcs[A.aW f]? with
 | none=>none
 | some fn=>
  match fn.body with
  | none=>none
  | some c=>bif gP 0 (A.sin f).bI&&(Nat.ble (A.sin f).bI.length fn.ntmps&&((A.sin f).ok&&(gP 0 (A.fl f).bI&&(Nat.beq (A.fl f).bI.length fn.results.size&&nv (lx (A.sin f).a8.length (A.mv f)))))) then
    (gY P A C N f fn.ntmps (A.sin f).a8.length c (xx A f ds)).bind fun r=>
     match r.1 with
     | .exit _=>none
     | _=>((sC P A f fn (A.sin f).a8.length r.2).run C r.2.hp).map (·.1)
   else none
def DJ (N:Nat):Nat→af
 | 0=>fun _ _=>none
 | n+1=>It P A (DJ N n) N
variable {P A}
theorem P4 {X R:Type} {s1 s2:X→Option (X ⊕ R)} (h: ∀x y,s1 x=some y→s2 x=some y): ∀(n:Nat) (x:X) (r:R),eI s1 n x=some r→eI s2 n x=some r
 | 0,x,r,e=>by cases e
 | n+1,x,r,e=>by
  simp only[eI] at e⊢
  obtain ⟨y,h1,h2⟩:=bind_some e
  rw[h x y h1]
  cases y with
  | inl z=>exact P4 h n z r h2
  | inr q=>exact h2
theorem Zs {C:af} {N f n m:Nat}: ∀(c:Code) {st:St} {r:Out × St},gY P A C N f n m c st=some r→exec P A C f n m c st=some r:=by
 intro c
 induction c with
 | skip=>exact fun e=>e
 | exit id=>exact fun e=>e
 | ret=>exact fun e=>e
 | region id ops draw=>exact fun e=>e
 | seq x y fF fG=>
  intro st r e
  simp only[gY,exec] at e⊢
  obtain ⟨⟨o,s1⟩,h1,h2⟩:=bind_some e
  rw[fF h1]
  cases o with
  | norm=>exact fG h2
  | exit id=>exact h2
  | ret=>exact h2
 | cond c x y fF fG=>
  intro st r e
  cases c with
  | tmp t=>
   have go: ∀{st:St} {r:Out × St},(match st.sl t with
     | .bool b=>(bif b then gY P A C N f n m x st else gY P A C N f n m y st).bind fun r=>
      match r.1 with
      | .norm=>some (.norm,canon m (A.join f t) r.2)
      | _=>some r
     | _=>none)=some r→(match st.sl t with
     | .bool b=>(bif b then exec P A C f n m x st else exec P A C f n m y st).bind fun r=>
      match r.1 with
      | .norm=>some (.norm,canon m (A.join f t) r.2)
      | _=>some r
     | _=>none)=some r:=by
    intro st r e
    cases hs:st.sl t<;>rw[hs] at e<;>simp only at e⊢ <;>first|(cases e;done)|skip
    rename_i b
    obtain ⟨x1,h1,h2⟩:=bind_some e
    cases b with
    | true=>simp only[cond_true,fF h1,Option.bind_some];exact h2
    | false=>simp only[cond_false,fG h1,Option.bind_some];exact h2
   simp only[gY,exec] at e⊢
   split at e
   ·rename_i hS
    try rw[hS]
    exact go e
   ·rename_i S hS
    obtain ⟨ds,h1,h2⟩:=bind_some e
    obtain ⟨e',h3,h4⟩:=bind_some h2
    obtain ⟨r1,h5,h6⟩:=bind_some h3
    try rw[hS]
    simp only[h1,Option.bind_some]
    exact (congrArg (fun z:Option (Out × St)=>(z.bind fun r=>ways m 0 S.2 r).bind fun e=>jB 0 S.2 e.1 e.2 fun o st=>some (o,st)) (go h5)).trans (by simp only[Option.bind_some,h6];exact h4)
  | const v=>
   cases v with
   | bool b=>
    simp only[gY,exec] at e⊢
    cases b with
    | true=>exact fF e
    | false=>exact fG e
   | _=>simp only[gY] at e;cases e
  | _=>simp only[gY] at e;cases e
 | block id c ih=>
  intro st r e
  simp only[gY,exec] at e⊢
  obtain ⟨x1,h1,h2⟩:=bind_some e
  rw[ih h1]
  exact h2
 | loop c ih=>
  intro st r e
  simp only[gY,exec] at e⊢
  split at e
  ·cases e
  ·rename_i S hS
   obtain ⟨ds,h1,h2⟩:=bind_some e
   obtain ⟨e',h3,h4⟩:=bind_some h2
   try rw[hS]
   simp only[h1,Option.bind_some]
   rw[uD (P4 (s2:=fun ds=>j4 m S.1 S.2 (exec P A C f n m c (bq S.1 ds))) (fun x y yC=>by
    unfold j4 at yC⊢
    obtain ⟨z,h5,h6⟩:=bind_some yC
    rw[ih h5]
    exact h6) N ds e' h3)]
   exact h4
 | _=>intro st r e;simp only[gY] at e;cases e
theorem Zt {C:af} {N f:Nat} {ds es:List V} (e:It P A C N f ds=some es):ny P A C f ds=some es:=by
 unfold It at e
 unfold ny
 cases hf:P.funcs[A.aW f]? with
 | none=>rw[hf] at e;cases e
 | some fn=>
  rw[hf] at e
  simp only at e⊢
  cases hb:fn.body with
  | none=>rw[hb] at e;cases e
  | some c=>
   rw[hb] at e
   simp only at e⊢
   cases hc:(gP 0 (A.sin f).bI&&(Nat.ble (A.sin f).bI.length fn.ntmps&&((A.sin f).ok&&(gP 0 (A.fl f).bI&&(Nat.beq (A.fl f).bI.length fn.results.size&&nv (lx (A.sin f).a8.length (A.mv f))))))) with
   | false=>rw[hc] at e;cases e
   | true=>
    rw[hc] at e
    simp only[cond_true] at e⊢
    obtain ⟨x,h1,h2⟩:=bind_some e
    rw[Zs c h1]
    exact h2
theorem P5 {N:Nat}: ∀n {f:Nat} {a r:List V},DJ P A N n f a=some r→jC P A n f a=some r
 | 0,f,a,r,h=>by cases h
 | n+1,f,a,r,h=>by
  obtain ⟨M,hM⟩:=DB (C:=DJ P A N n) (D:=fun _=>jC P A n) (fun f a r h=>⟨0,fun _ _=>P5 n h⟩) (Zt h)
  exact hM M (Nat.le_refl _)
theorem Zu {N n f:Nat} {a r:List V} (h:DJ P A N n f a=some r):Call P A f a=some r:=yD.2 ⟨n,P5 n h⟩
end
end Go.AM
namespace Go.AM
inductive LK where
 | int (k:IntKind)
 | bool
 | str
 | list (e:TypeId)
 | nat
def LK.Ty:LK→Type
 | .int _=>Int
 | .bool=>Bool
 | .str=>List UInt8
 | .list _=>List V
 | .nat=>Nat
def LK.enc:(k:LK)→k.Ty→V
 | .int k,n=> .int k n
 | .bool,b=> .bool b
 | .str,s=> .str s
 | .list e,l=> .list e l
 | .nat,n=>dZ n
def LK.dec:(k:LK)→V→k.Ty
 | .int _,v=>v.toInt
 | .bool,v=>v.toBool
 | .str,v=>v.toStr
 | .list _,v=>v.toList
 | .nat,v=>jX v
theorem LK.P6: ∀(k:LK) (x:k.Ty),k.dec (k.enc x)=x
 | .int _,_=>rfl
 | .bool,_=>rfl
 | .str,_=>rfl
 | .list _,_=>rfl
 | .nat,_=>rfl
def Iu:List Nat→List LK
 | []=>[]
 | _::l=> .nat::Iu l
def LS.ks:LS→List LK
 | .int k=>[.int k]
 | .bool=>[.bool]
 | .str=>[.str]
 | .list e=>[.list e]
 | .sub .. =>[.nat,.nat]
 | .ptr _=>[.nat,.nat]
 | .row _ _ cs=>Iu cs
 | .cA _ cs _=> .nat::Iu cs
 | _=>[]
def vD:List LS→List LK
 | []=>[]
 | l::ls=>l.ks++vD ls
def VS.ks:VS→List LK
 | .one l=>l.ks
 | .agg ls=>vD ls
 | .bh ls=>vD ls
 | .fn _ a b=>vD a++vD b
 | .pref _ ls=>vD ls
def P7:List VS→List LK
 | []=>[]
 | l::ls=>l.ks++P7 ls
def BS.ks:BS→List LK
 | .var _ cs=>P7 cs
 | .arr e _=>[.list e]
 | .nest e=>[.list e]
 | .dead=>[]
 | .map t=>[.list t]
def P8:List (Nat × VS)→List LK
 | []=>[]
 | p::l=>p.2.ks++P8 l
def P9:List BS→List LK
 | []=>[]
 | b::l=>b.ks++P9 l
def Shape.ks (S:Shape):List LK:=P8 S.bI++P9 S.a8
def Iv:List Nat→List V→List V
 | [],_=>[]
 | _::cs,ds=>dZ (jX (V.nth ds 0))::Iv cs (ds.drop 1)
def LS.norm:LS→List V→List V
 | .int k,ds=>[.int k (V.nth ds 0).toInt]
 | .bool,ds=>[.bool (V.nth ds 0).toBool]
 | .str,ds=>[.str (V.nth ds 0).toStr]
 | .list e,ds=>[.list e (V.nth ds 0).toList]
 | .sub ..,ds=>[dZ (jX (V.nth ds 0)),dZ (jX (V.nth ds 1))]
 | .ptr _,ds=>[dZ (jX (V.nth ds 0)),dZ (jX (V.nth ds 1))]
 | .row _ _ cs,ds=>Iv cs ds
 | .cA _ cs _,ds=>dZ (jX (V.nth ds 0))::Iv cs (ds.drop 1)
 | _,_=>[]
def vE:List LS→List V→List V
 | [],_=>[]
 | l::ls,ds=>l.norm ds++vE ls (ds.drop l.size)
def VS.norm:VS→List V→List V
 | .one l,ds=>l.norm ds
 | .agg ls,ds=>vE ls ds
 | .bh ls,ds=>vE ls ds
 | .fn _ a b,ds=>vE a ds++vE b (ds.drop (jz a))
 | .pref _ ls,ds=>vE ls ds
def Qa:List VS→List V→List V
 | [],_=>[]
 | l::ls,ds=>l.norm ds++Qa ls (ds.drop l.size)
def BS.norm:BS→List V→List V
 | .var _ cs,ds=>Qa cs ds
 | .arr e _,ds=>[.list e (V.nth ds 0).toList]
 | .nest e,ds=>[.list e (V.nth ds 0).toList]
 | .dead,_=>[]
 | .map t,ds=>[.list t (V.nth ds 0).toList]
def Qb:List (Nat × VS)→List V→List V
 | [],_=>[]
 | p::l,ds=>p.2.norm ds++Qb l (ds.drop p.2.size)
def Qc:List BS→List V→List V
 | [],_=>[]
 | b::l,ds=>b.norm ds++Qc l (ds.drop b.size)
def Shape.norm (S:Shape) (ds:List V):List V:=Qb S.bI ds++Qc S.a8 (ds.drop (nu S.bI))
def tv:LK→List LK→Type
 | k,[]=>k.Ty
 | k,k'::ks=>k.Ty × tv k' ks
def jM:List LK→Type
 | []=>Unit
 | k::ks=>tv k ks
def tw:(k:LK)→(ks:List LK)→tv k ks→List V
 | k,[],x=>[k.enc x]
 | k,k'::ks,x=>k.enc x.1::tw k' ks x.2
def kh:(ks:List LK)→jM ks→List V
 | [],_=>[]
 | k::ks,x=>tw k ks x
def yG:(k:LK)→(ks:List LK)→List V→tv k ks
 | k,[],l=>k.dec (V.nth l 0)
 | k,k'::ks,l=>(k.dec (V.nth l 0),yG k' ks l.tail)
def nU:(ks:List LK)→List V→jM ks
 | [],_=>()
 | k::ks,l=>yG k ks l
theorem Qd: ∀(k:LK) (ks:List LK) (x:tv k ks) (r:List V),yG k ks (tw k ks x++r)=x
 | k,[],x,r=>LK.P6 k x
 | k,k'::ks,x,r=>by
  show (k.dec (k.enc x.1),yG k' ks (tw k' ks x.2++r))=x
  rw[LK.P6,Qd k' ks]
  rfl
def vF:List LK→Type 1→Type 1
 | [],R=>R
 | k::ks,R=>k.Ty→vF ks R
def Qe:(k:LK)→(ks:List LK)→{R:Type 1}→vF (k::ks) R→tv k ks→R
 | _,[],_,f,x=>f x
 | _,k'::ks,_,f,x=>Qe k' ks (f x.1) x.2
def tx:(ks:List LK)→{R:Type 1}→vF ks R→jM ks→R
 | [],_,f,_=>f
 | k::ks,_,f,x=>Qe k ks f x
def vG {α:Type} (b:Bool):List Bool→List α→List α
 | [],_=>[]
 | _,[]=>[]
 | c::m,x::l=>bif c==b then x::vG b m l else vG b m l
def merge:List Bool→List V→List V→List V
 | [],_,_=>[]
 | true::m,i,x=>V.nth x 0::merge m i x.tail
 | false::m,i,x=>V.nth i 0::merge m i.tail x
def vH:List Nat→List LK→List LK
 | [],_=>[]
 | _,[]=>[]
 | 0::t,k::ks=>k::vH t ks
 | (_+1)::t,_::ks=>vH t ks
abbrev fw:=List Nat × List LK
def fw.fresh (w:fw):List LK:=vH w.1 w.2
def put:List Nat→List V→List V→List V
 | [],_,_=>[]
 | 0::t,ds,x=>V.nth x 0::put t ds x.tail
 | (j+1)::t,ds,x=>V.nth ds j::put t ds x
def tz:List Nat→List V→List V
 | [],_=>[]
 | 0::t,l=>V.nth l 0::tz t l.tail
 | (_+1)::t,l=>tz t l.tail
def rF:fw→List fw→Type
 | w,[]=>jM w.fresh
 | w,w'::ws=>jM w.fresh ⊕ rF w' ws
def qc:List fw→Type
 | []=>Empty
 | w::ws=>rF w ws
def wN (ds:List V) {β:Type} (k:Nat→List V→Option β):Nat→(w:fw)→(ws:List fw)→rF w ws→Option β
 | j,w,[],r=>k j (put w.1 ds (kh w.fresh r))
 | j,w,w'::ws,r=>cZ (fun x=>k j (put w.1 ds (kh w.fresh x))) (fun y=>wN ds k (j+1) w' ws y) r
def wT (ds:List V) {β:Type} (k:Nat→List V→Option β):(ws:List fw)→qc ws→Option β
 | [],r=>Empty.elim r
 | w::ws,r=>wN ds k 0 w ws r
def nW (ds:List V):Nat→(w:fw)→(ws:List fw)→rF w ws→Nat × List V
 | j,w,[],r=>(j,put w.1 ds (kh w.fresh r))
 | j,w,_::_,.inl x=>(j,put w.1 ds (kh w.fresh x))
 | j,_,w'::ws,.inr y=>nW ds (j+1) w' ws y
def vI (ds:List V):(ws:List fw)→qc ws→Nat × List V
 | [],r=>Empty.elim r
 | w::ws,r=>nW ds 0 w ws r
theorem Qf (ds:List V) {β:Type} (k:Nat→List V→Option β): ∀(j:Nat) (w:fw) (ws:List fw) (r:rF w ws),wN ds k j w ws r=k (nW ds j w ws r).1 (nW ds j w ws r).2
 | _,_,[],_=>rfl
 | _,_,_::_,.inl _=>rfl
 | j,_,w'::ws,.inr y=>Qf ds k (j+1) w' ws y
theorem DK (ds:List V) {β:Type} (k:Nat→List V→Option β): ∀(ws:List fw) (r:qc ws),wT ds k ws r=k (vI ds ws r).1 (vI ds ws r).2
 | [],r=>Empty.elim r
 | w::ws,r=>Qf ds k 0 w ws r
def vJ:Nat→(w:fw)→(ws:List fw)→List V→rF w ws
 | _,w,[],l=>nU w.fresh (tz w.1 l)
 | 0,w,_::_,l=> .inl (nU w.fresh (tz w.1 l))
 | j+1,_,w'::ws,l=> .inr (vJ j w' ws l)
def Qg (j:Nat):(ws:List fw)→List V→Option (qc ws)
 | [],_=>none
 | w::ws,l=>some (vJ j w ws l)
def vK:List Nat→List V→List V
 | [],_=>[]
 | 0::t,x=>V.nth x 0::vK t x.tail
 | (_+1)::t,x=>vK t x
theorem Iw: ∀(t:List Nat) (ds x:List V),tz t (put t ds x)=vK t x
 | [],_,_=>rfl
 | 0::t,ds,x=>congrArg (V.nth x 0:: ·) (Iw t ds x.tail)
 | (_+1)::t,ds,x=>Iw t ds x
theorem Ix: ∀(t:List Nat) (ks:List LK) (k:LK) (oW:List LK),vH t ks=k::oW→∀x:tv k oW,∃r,vK t (tw k oW x)=tw k oW x++r
 | [],_,_,_,h,_=>by cases h
 | _::_,[],_,_,h,_=>by simp[vH] at h
 | 0::t,a::ks,k,oW,h,x=>by
  simp only[vH,List.cons.injEq] at h
  obtain ⟨rfl,h2⟩:=h
  cases oW with
  | nil=>exact ⟨vK t [],rfl⟩
  | cons k' oW=>
   obtain ⟨r,hr⟩:=Ix t ks k' oW h2 x.2
   exact ⟨r,congrArg (a.enc x.1:: ·) hr⟩
 | (_+1)::t,a::ks,k,oW,h,x=>Ix t ks k oW h x
theorem Qh (w:fw) (ds:List V) (x:jM w.fresh):nU w.fresh (tz w.1 (put w.1 ds (kh w.fresh x)))=x:=by
 rw[Iw]
 revert x
 generalize hf:w.fresh=f
 cases f with
 | nil=>intro x;rfl
 | cons k ks=>
  intro x
  obtain ⟨r,hr⟩:=Ix w.1 w.2 k ks hf x
  show yG k ks (vK w.1 (tw k ks x))=x
  rw[hr]
  exact Qd k ks x r
theorem Qi (ds:List V): ∀(j:Nat) (w:fw) (ws:List fw) (r:rF w ws),j≤(nW ds j w ws r).1
 | _,_,[],_=>Nat.le_refl _
 | _,_,_::_,.inl _=>Nat.le_refl _
 | j,_,w'::ws,.inr y=>Nat.le_trans (Nat.le_succ j) (Qi ds (j+1) w' ws y)
theorem Zv (w:fw) (l:List V): ∀j,vJ j w [] l=nU w.fresh (tz w.1 l)
 | 0=>rfl
 | _+1=>rfl
theorem Qj (ds:List V): ∀(j:Nat) (w:fw) (ws:List fw) (r:rF w ws),vJ ((nW ds j w ws r).1-j) w ws (nW ds j w ws r).2=r
 | j,w,[],r=>(Zv w _ _).trans (Qh w ds r)
 | j,w,w'::ws,.inl x=>by
  show vJ (j-j) w (w'::ws) (put w.1 ds (kh w.fresh x))= .inl x
  rw[Nat.sub_self]
  exact congrArg Sum.inl (Qh w ds x)
 | j,w,w'::ws,.inr y=>by
  have h1:=Qi ds (j+1) w' ws y
  have h2:=Qj ds (j+1) w' ws y
  show vJ ((nW ds (j+1) w' ws y).1-j) w (w'::ws) (nW ds (j+1) w' ws y).2= .inr y
  obtain ⟨d,hd⟩: ∃d,(nW ds (j+1) w' ws y).1=j+1+d:=⟨(nW ds (j+1) w' ws y).1-(j+1),by omega⟩
  rw[hd] at h2⊢
  rw[show j+1+d-(j+1)=d by omega] at h2
  rw[show j+1+d-j=d+1 by omega]
  exact congrArg Sum.inr h2
theorem Zw (ds:List V): ∀(ws:List fw) (r:qc ws),Qg (vI ds ws r).1 ws (vI ds ws r).2=some r
 | [],r=>Empty.elim r
 | w::ws,r=>congrArg some (Qj ds 0 w ws r)
section
variable {P:Program} {A:cB} {C:af} {L:cq} {f n m:Nat}
theorem Zx {c:Code} {S:Shape × List (Out × Shape)} (hS:A.gg f (keyOf c+1)=some S) (hL:gR P A C L f n m c) {I X R:Type} (enc:I→X→List V) (lN:I→R→Nat × List V)
  (oX:List V→I) (qd:List V→X) (DL:Nat × List V→Option R) (body:I→X→(β:Type)→(X→Option β)→(R→Option β)→Option β)
  (tu: ∀ds,bq S.1 (enc (oX ds) (qd ds))=bq S.1 ds) (Iy: ∀i x,qd (enc i x)=x) (Zy: ∀i r,DL (lN i r)=some r)
  (e1: ∀i x (β:Type) (k:(List V ⊕ (Nat × List V))→Option β),gQ P A C L f n m c (bq S.1 (enc i x)) (fun o st=>(j4 m S.1 S.2 (some (o,st))).bind k)=
   body i x β (fun y=>k (.inl (enc i y))) (fun r=>k (.inr (lN i r))))
  (hl: ∀(β:Type) ds (k:Nat→List V→Option β),L β (keyOf c+1) ds k=(Loop (fun x=>body (oX ds) x (X ⊕ R) (fun y=>some (.inl y)) (fun r=>some (.inr r))) (qd ds)).bind fun r=>k (lN (oX ds) r).1 (lN (oX ds) r).2):
  cj P A C L f n m (.loop c):=by
 simp only[cj,hS]
 intro β ds k
 rw[hl]
 have hex: ∀(z:Option (Out × St)),j4 m S.1 S.2 z=z.bind fun r=>j4 m S.1 S.2 (some (r.1,r.2)):=by
  intro z;cases z<;>rfl
 have hs: ∀i x,stepG P A C f n m S c (enc i x)=(body i x (X ⊕ R) (fun y=>some (.inl y)) (fun r=>some (.inr r))).map fun| .inl y=> .inl (enc i y)| .inr r=> .inr (lN i r):=by
  intro i x
  have k1:=e1 i x _ (fun z=>some z)
  have k2:=e1 i x (X ⊕ R) (fun| .inl ds=>some (.inl (qd ds))| .inr e=>(DL e).map .inr)
  have k3:=e1 i x (List V ⊕ (Nat × List V)) (fun| .inl ds=>some (.inl (enc i (qd ds)))| .inr e=>(DL e).map fun r=> .inr (lN i r))
  simp only[Iy,Zy,Option.map_some] at k2 k3
  unfold stepG
  rw[hex]
  rw[Ck P A C f n m c hL] at k1 k2 k3
  rw[←k2]
  refine Eq.trans ?_ (k1.trans (k3.symm.trans ?_))
  ·congr 1
   funext r
   cases j4 m S.1 S.2 (some (r.1,r.2))<;>rfl
  ·cases exec P A C f n m c (bq S.1 (enc i x)) with
   | none=>rfl
   | some r=>
    simp only[Option.bind_some]
    cases j4 m S.1 S.2 (some (r.1,r.2)) with
    | none=>rfl
    | some z=>
     cases z with
     | inl _=>rfl
     | inr e=>simp only[Option.bind_some];cases DL e<;>rfl
 have h0:stepG P A C f n m S c ds=stepG P A C f n m S c (enc (oX ds) (qd ds)):=by
  unfold stepG
  rw[tu]
 have:Loop (stepG P A C f n m S c) ds=(Loop (fun x=>body (oX ds) x (X ⊕ R) (fun y=>some (.inl y)) (fun r=>some (.inr r))) (qd ds)).map (lN (oX ds)):=by
  rw[BV,h0,←BV]
  exact VN (enc (oX ds)) (lN (oX ds)) (fun x=>hs _ _) (qd ds)
 rw[this]
 cases Loop (fun x=>body (oX ds) x (X ⊕ R) (fun y=>some (.inl y)) (fun r=>some (.inr r))) (qd ds)<;>rfl
abbrev yH (S:Shape) (mk:List Bool):List LK:=vG false mk S.ks
abbrev tA (S:Shape) (mk:List Bool):List LK:=vG true mk S.ks
def qe (ts:List (List Nat)) (W:List (Out × Shape)):List fw:=
 match ts,W with
 | t::ts,w::W=>(t,w.2.ks)::qe ts W
 | _,_=>[]
abbrev yI (S:Shape) (mk:List Bool) (i:jM (yH S mk)) (x:jM (tA S mk)):List V:=merge mk (kh _ i) (kh _ x)
abbrev Iz (S:Shape) (mk:List Bool) (i:jM (yH S mk)):List V:=merge mk (kh _ i) []
abbrev DM (S:Shape) (mk:List Bool) (ds:List V):jM (yH S mk):=nU _ (vG false mk (S.norm ds))
abbrev DN (S:Shape) (mk:List Bool) (ds:List V):jM (tA S mk):=nU _ (vG true mk (S.norm ds))
abbrev Qk (X R:Type):Type 1:=(β:Type)→(X→Option β)→(R→Option β)→Option β
abbrev IA (S:Shape × List (Out × Shape)) (mk:List Bool) (ts:List (List Nat)):Type 1:=vF (yH S.1 mk) (vF (tA S.1 mk) (Qk (jM (tA S.1 mk)) (qc (qe ts S.2))))
abbrev IB (S:Shape × List (Out × Shape)) (mk:List Bool) (ts:List (List Nat)) (b:IA S mk ts) (i:jM (yH S.1 mk)) (x:jM (tA S.1 mk)):Qk (jM (tA S.1 mk)) (qc (qe ts S.2)):=tx _ (tx _ b i) x
noncomputable def bu (S:Shape × List (Out × Shape)) (mk:List Bool) (ts:List (List Nat)) (b:IA S mk ts) {β:Type} (ds:List V) (k:Nat→List V→Option β):Option β:=
 (Loop (fun x=>IB S mk ts b (DM S.1 mk ds) x (jM (tA S.1 mk) ⊕ qc (qe ts S.2)) (fun y=>some (.inl y)) (fun r=>some (.inr r))) (DN S.1 mk ds)).bind (wT (Iz S.1 mk (DM S.1 mk ds)) k (qe ts S.2))
theorem bz {c:Code} (S:Shape × List (Out × Shape)) (mk:List Bool) (ts:List (List Nat)) (b:IA S mk ts) (hS:A.gg f (keyOf c+1)=some S) (hL:gR P A C L f n m c)
  (tu: ∀ds,bq S.1 (yI S.1 mk (DM S.1 mk ds) (DN S.1 mk ds))=bq S.1 ds) (Iy: ∀i x,DN S.1 mk (yI S.1 mk i x)=x)
  (e1: ∀i x (β:Type) (k:(List V ⊕ (Nat × List V))→Option β),gQ P A C L f n m c (bq S.1 (yI S.1 mk i x)) (fun o st=>(j4 m S.1 S.2 (some (o,st))).bind k)=
   IB S mk ts b i x β (fun y=>k (.inl (yI S.1 mk i y))) (wT (Iz S.1 mk i) (fun j l=>k (.inr (j,l))) (qe ts S.2)))
  (hl: ∀(β:Type) ds (k:Nat→List V→Option β),L β (keyOf c+1) ds k=bu S mk ts b ds k):
  cj P A C L f n m (.loop c):=
 Zx hS hL (yI S.1 mk) (fun i r=>vI (Iz S.1 mk i) _ r) (DM S.1 mk) (DN S.1 mk) (fun e=>Qg e.1 _ e.2) (IB S mk ts b) tu Iy (fun i r=>Zw _ _ r)
  (fun i x β k=>by
   rw[e1]
   congr 1
   funext r
   exact DK _ _ _ r)
  (fun β ds k=>by
   rw[hl]
   unfold bu
   congr 1
   funext r
   exact DK _ _ _ r)
abbrev Ql (S:Shape × List (Out × Shape)) (ts:List (List Nat)):Type 1:=vF S.1.ks ((β:Type)→(qc (qe ts S.2)→Option β)→Option β)
noncomputable def lO (S:Shape × List (Out × Shape)) (ts:List (List Nat)) (b:Ql S ts) {β:Type} (ds:List V) (k:Nat→List V→Option β):Option β:=
 tx S.1.ks b (nU _ (S.1.norm ds)) β (wT (kh S.1.ks (nU _ (S.1.norm ds))) k (qe ts S.2))
theorem mK {t:Nat} {x y:Code} (S:Shape × List (Out × Shape)) (ts:List (List Nat)) (b:Ql S ts) (hS:A.gg f (t*16+15)=some S) (hx:gR P A C L f n m x) (hy:gR P A C L f n m y)
  (tu: ∀ds,bq S.1 (kh S.1.ks (nU _ (S.1.norm ds)))=bq S.1 ds)
  (e1: ∀i (β:Type) (k:Nat→List V→Option β),Is P A C L f n m t S x y (kh S.1.ks i) k=tx S.1.ks b i β (wT (kh S.1.ks i) k (qe ts S.2)))
  (hl: ∀(β:Type) ds (k:Nat→List V→Option β),L β (t*16+15) ds k=lO S ts b ds k):
  cj P A C L f n m (.cond t x y):=
 Zr hS hx hy (kh S.1.ks) (fun i r=>vI (kh S.1.ks i) _ r) (fun ds=>nU _ (S.1.norm ds)) (tx S.1.ks b) tu
  (fun i β k=>by
   rw[e1]
   exact congrArg (tx S.1.ks b i β) (funext fun r=>DK _ _ _ r))
  (fun β ds k=>by
   rw[hl]
   exact congrArg (tx S.1.ks b (nU _ (S.1.norm ds)) β) (funext fun r=>DK _ _ _ r))
end
def cT:cq:=fun _ _ _ _=>none
end Go.AM
