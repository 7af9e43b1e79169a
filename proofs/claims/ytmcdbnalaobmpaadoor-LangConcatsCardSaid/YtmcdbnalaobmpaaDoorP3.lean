/-
  Functions of uA program, lifted to plain data.
-/
import Derived.Conc.MuLone
import Derived.Defers
import Derived.Carry
import Derived.OpenShut
import Derived.Deep.Slices
import Derived.Test.YtmcdbnalaobmpaaDoorP2
set_option linter.unusedVariables false
set_option linter.unusedSimpArgs false
namespace Go.AM
section
variable {P:Program} {A:cF} {w w':World} {I I' I2:Nat→Prop} {μ β au bX:Nat→Option Nat} {hp hp' hp0 bt:Nat→Option aj} {C:ag} {B:Nat} {M:Nat→Prop} {w0:Start}
structure kh (w:World) (I:Nat→Prop) (β:Nat→Option Nat) (hp:Nat→Option aj) (w':World) (I':Nat→Prop) (au:Nat→Option Nat) (hp':Nat→Option aj):Prop where
 dq: ∀b,I b→I' b
 b9: ∀b,I b→w'.heap[b]? =w.heap[b]?
 blk: ∀id blk,hp id=some blk→∃blk',hp' id=some blk'∧blk.le blk'∧(blk'≠ .dead→au id=β id)
 size: ∀id blk blk' b,hp id=some blk→hp' id=some blk'→blk'≠ .dead→β id=some b→bsize w' b=bsize w b
theorem Le.Dc (h:Le P w I β hp w' I' au hp'):kh w I β hp w' I' au hp':=⟨h.dq,h.b9,h.blk,h.size⟩
theorem kh.trans {xD:World} {xE:Nat→Prop} {xF:Nat→Option Nat} {xG:Nat→Option aj} (h1:kh w I β hp w' I' au hp') (h2:kh w' I' au hp' xD xE xF xG):kh w I β hp xD xE xF xG:=by
 refine ⟨fun b h=>h2.dq b (h1.dq b h),fun b h=>(h2.b9 b (h1.dq b h)).trans (h1.b9 b h),fun id blk h=> ?_,fun id blk sF b h rb hd hb=> ?_⟩
 ·obtain ⟨blk',e',l',b'⟩:=h1.blk id blk h
  obtain ⟨sF,dI,xH,GS⟩:=h2.blk id blk' e'
  refine ⟨sF,dI,aj.le_trans l' xH,fun hd=> ?_⟩
  have eK:blk'≠ .dead:=fun e=>hd (aj.oQ (e▸xH))
  exact (GS hd).trans (b' eK)
 ·obtain ⟨blk',e',l',b'⟩:=h1.blk id blk h
  obtain ⟨gy,e3,l3,b3⟩:=h2.blk id blk' e'
  obtain rfl:gy=sF:=by rw[e3] at rb;exact Option.some.inj rb
  have eK:blk'≠ .dead:=fun e=>hd (aj.oQ (e▸l3))
  rw[h2.size id blk' gy b e' e3 hd ((b' eK).trans hb),h1.size id blk blk' b h e' eK hb]
def nX (P:Program) (w:World) (μ:Nat→Option Nat) (hp0:Nat→Option aj) (b:Nat):Prop:= ∃j blk,hp0 j=some blk∧bz P w (μ j) blk b
structure Yp (P:Program) (A:cF) (key:Nat) (w:World) (I:Nat→Prop) (μ:Nat→Option Nat) (ds es:List V) (w':World) (v:Value) (I2:Nat→Prop) (bX:Nat→Option Nat):Prop where
 vo:aE P w' I2 bX (bn (A.so key es) (A.lv key es)).hp w.heap.size (nX P w μ (bn (A.sin key) ds).hp) ⟨w,I⟩
 le:kh w I μ (bn (A.sin key) ds).hp w' I2 bX (bn (A.so key es) (A.lv key es)).hp
 res:an P w' I2 bX (bn (A.so key es) (A.lv key es)).hp v (oO (fh (A.so key es).bI (A.lv key es)))
def ki (P:Program) (A:cF) (C:ag):Prop:=
 ∀key ds es,C key ds=some es→∃fn c,P.funcs[A.aU key]? =some fn∧fn.body=some c∧
  ∀(w:World) (I:Nat→Prop) (μ:Nat→Option Nat) (vals:List Value),
   sE P w I μ (bn (A.sin key) ds).hp w.heap.size (nX P w μ (bn (A.sin key) ds).hp)→gz P A.aD w I→
   vals.length=(A.sin key).bI.length→(∀(j:Nat) v x,vals[j]? =some v→(fv ((A.sin key).bI.map (·.2)) ds)[j]? =some x→an P w I μ (bn (A.sin key) ds).hp v x)→
   Calls P (A.aU key) vals.toArray w fun e w'=> ∃v I2 bX,e= .returned v∧Yp P A key w I μ ds es w' v I2 bX
theorem dX.te {p:Place} {o:Option Nat} {blk:aj} {b:Nat} (h:dX P w β hp p o blk) (ho:bz P w o blk b):
  ∃p7,hp p.id=some p7∧bz P w (β p.id) p7 b∧∀e es,p7≠ .arr e es true:=by
 cases h with
 | var h=>exact ⟨_,h,.root (by simp) (ho.flat (by simp)),by simp⟩
 | arr h=>exact ⟨_,h,.root (by simp) (ho.flat (by simp)),by simp⟩
 | map h=>exact ⟨_,h,.root (by simp) (ho.flat (by simp)),by simp⟩
 | nest h=>
  refine ⟨_,h,?_,by simp⟩
  cases ho with
  | root _ hb=>exact .root (by simp) hb
  | row hb ha=>exact .row hb ha
 | row h hb ha _ _ _ _ _=>
  have:=ho.flat (by simp)
  cases this
  exact ⟨_,h,.row hb ha,by simp⟩
theorem aE.Yq (S:aE P w I β hp B M w0) {id b:Nat} {blk:aj} (aa:hp id=some blk) (ho:bz P w (β id) blk b) (hf: ∀e es,blk≠ .arr e es true): ¬I b:=by
 have hr:=S.h.rel id blk aa
 generalize β id=o at hr ho
 cases hr with
 | var hb _ _ hI _ _=>have:=ho.flat (by simp);rw[hb] at this;cases this;exact hI
 | dL hb=>have:=ho.flat (by simp);rw[hb] at this;cases this
 | @arr e es fz _ _ _ hb _ _ _ ee _=>
  have:=ho.flat (by simp)
  rw[hb] at this;cases this
  cases fz with
  | true=>exact absurd rfl (hf e es)
  | false=>exact ee rfl
 | dead=>exact absurd rfl ho.alive
 | map _ hb _ _ hI _ _=>have:=ho.flat (by simp);rw[hb] at this;cases this;exact hI
 | nest hb hr _=>
  cases ho with
  | root _ az=>rw[hb] at az;cases az;exact (hr _ _ _ _ .here).nI
  | row az ha=>rw[hb] at az;cases az;exact (hr _ _ _ _ ha).nI
theorem Dd {a b:List Nat} (h:uG a b=false) {x:Nat} (ha:x∈a):x∉b:=by
 intro hb
 unfold uG at h
 rw[List.any_eq_false] at h
 exact h x ha (u6 hb)
theorem Yr (S:aE P w I β hp B M w0) {pl:List Place} {upd:List (Nat × aj)} {o:Nat→Option Nat} (jO:(pl.map Place.id).Nodup) (nY:uG (upd.map (·.1)) (pl.map Place.id)=false)
  (hl: ∀j blk,hp0 j=some blk→∃p,dZ pl j=some p∧dX P w β hp p (o j) blk)
  (cH:(∀j blk,hp0 j=some blk→∀b,bz P w (o j) blk b→¬iw P w I β hp upd b)→∀j blk,hp0 j=some blk→dV P w (iw P w I β hp upd) o hp0 (o j) blk) (aS: ∀b,iw P w I β hp upd b→b<w.heap.size):
  sE P w (iw P w I β hp upd) o hp0 w.heap.size (nX P w o hp0):=by
 have cP: ∀j blk,hp0 j=some blk→∀b,bz P w (o j) blk b→¬iw P w I β hp upd b:=by
  intro j blk hj b ho hI
  obtain ⟨p,bt,gA⟩:=hl j blk hj
  obtain ⟨p7,k1,k2,k3⟩:=gA.te ho
  rcases hI with hI|⟨q,hq,bW,q1,q2⟩
  ·exact S.Yq k1 k2 k3 hI
  ·have:=S.h.inj _ _ _ _ b q1 k1 q2 k2
   refine Dd nY (List.mem_map.2 ⟨q,hq,rfl⟩) ?_
   rw[this]
   rw[kS] at bt
   exact List.mem_map.2 ⟨p,List.mem_of_getElem? bt,rfl⟩
 refine ⟨cH cP,fun j1 j2 b1 b2 b h1 h2 o1 o2=> ?_,fun j blk b h1 o1=> .inl ⟨j,blk,h1,o1⟩,aS⟩
 obtain ⟨p1,q1,q2⟩:=hl j1 b1 h1
 obtain ⟨p2,r1,r2⟩:=hl j2 b2 h2
 obtain ⟨c1,x1,x2,_⟩:=q2.te o1
 obtain ⟨c2,y1,y2,_⟩:=r2.te o2
 have aa:=S.h.inj _ _ _ _ b x1 y1 x2 y2
 rw[kS] at q1 r1
 have m1:(pl.map Place.id)[j1]? =some p1.id:=by rw[List.getElem?_map,q1];rfl
 have m2:(pl.map Place.id)[j2]? =some p2.id:=by rw[List.getElem?_map,r1];rfl
 rw[←aa] at m2
 obtain ⟨z1,z2⟩:=List.getElem?_eq_some_iff.1 m1
 obtain ⟨z3,z4⟩:=List.getElem?_eq_some_iff.1 m2
 exact (List.getElem_inj jO).1 (z2.trans z4.symm)
def Oy:V→Prop
 | .list .. =>False
 | .pref .. =>False
 | .agg _=>False
 | .bf _=>False
 | .fn .. =>False
 | _=>True
theorem an.free {v:Value} {x:V} (h:an P w I β hp v x) (hx:Oy x):an P w I' β hp v x:=by
 cases h with
 | undef=>exact .undef
 | int=>exact .int
 | bool=>exact .bool
 | str h=>exact .str h
 | list h=>exact hx.elim
 | nilS=>exact .nilS
 | agg=>exact hx.elim
 | bf=>exact hx.elim
 | dx=>exact .dx
 | fn=>exact hx.elim
 | pref=>exact hx.elim
 | ed h=>exact .ed h
 | fW h=>exact .fW h
 | jG h=>exact .jG h
 | dK h hb=>exact .dK h hb
 | whole h hb a b c=>exact .whole h hb a b c
 | ep h hb a b c=>exact .ep h hb a b c
 | fJ h hb=>exact .fJ h hb
 | sub h hb a b c=>exact .sub h hb a b c
 | ptr h hd hb=>exact .ptr h hd hb
 | jd h pX=>exact .jd h pX
 | je h pX=>exact .je h pX
 | row h hb a b c d=>exact .row h hb a b c d
 | cE h hb a b c d e=>exact .cE h hb a b c d e
 | dy=>exact .dy
 | gT h=>exact .gT h
 | bD h hb=>exact .bD h hb
theorem yp {l:LS} {ds:List V} (hs:l.safe=true):Oy (im l ds):=by
 cases l<;>simp only[LS.safe] at hs<;>first|(cases hs;done)|trivial
theorem yq: ∀{ls:List LS} {ds:List V} {j:Nat} {y:V},(gM ls ds)[j]? =some y→∃l fl,l∈ls∧y=im l fl
 | [],ds,j,y,h=>by simp[gM] at h
 | l::ls,ds,j,y,h=>by
  simp only[gM] at h
  cases j with
  | zero=>simp at h;exact ⟨l,ds,List.mem_cons_self ..,h.symm⟩
  | succ j=>
   obtain ⟨l',fl,h1,h2⟩:=yq (j:=j) (by simpa using h)
   exact ⟨l',fl,List.mem_cons_of_mem _ h1,h2⟩
theorem Oz: ∀{ls:List VS} {ds:List V} {j:Nat} {y:V},(fv ls ds)[j]? =some y→∃l fl,l∈ls∧y=j6 l fl
 | [],ds,j,y,h=>by simp[fv] at h
 | l::ls,ds,j,y,h=>by
  simp only[fv] at h
  cases j with
  | zero=>simp at h;exact ⟨l,ds,List.mem_cons_self ..,h.symm⟩
  | succ j=>
   obtain ⟨l',fl,h1,h2⟩:=Oz (j:=j) (by simpa using h)
   exact ⟨l',fl,List.mem_cons_of_mem _ h1,h2⟩
theorem OA {s:VS} {ds:List V} {v:Value} (h:an P w I β hp v (j6 s ds)) (hs:s.safe=true):an P w I' β hp v (j6 s ds):=by
 cases s with
 | one l=>exact h.free (yp hs)
 | agg ls=>
  simp only[j6] at h⊢
  obtain ⟨cs,rfl,e1,e2⟩:=h.ka
  refine .agg e1 fun j v x hj hx=> ?_
  obtain ⟨l,fl,k1,rfl⟩:=yq hx
  exact (e2 j v _ hj hx).free (yp (List.all_eq_true.1 hs l k1))
 | bf ls=>
  simp only[j6] at h⊢
  obtain ⟨cs,rfl,e1,e2⟩:=h.sM
  refine .bf e1 fun j v x hj hx=> ?_
  obtain ⟨l,fl,k1,rfl⟩:=yq hx
  exact (e2 j v _ hj hx).free (yp (List.all_eq_true.1 hs l k1))
 | fn f a b=>
  simp only[VS.safe,Bool.and_eq_true] at hs
  simp only[j6] at h⊢
  cases h with
  | fn a1 a2 b1 b2=>
   refine .fn a1 (fun j v x hj hx=> ?_) b1 (fun j v x hj hx=> ?_)
   ·obtain ⟨l,fl,k1,rfl⟩:=yq hx
    exact (a2 j v _ hj hx).free (yp (List.all_eq_true.1 hs.1 l k1))
   ·obtain ⟨l,fl,k1,rfl⟩:=yq hx
    exact (b2 j v _ hj hx).free (yp (List.all_eq_true.1 hs.2 l k1))
 | pref ts ls=>cases hs
theorem Pure.scalar {t:TypeId} {v:Value} {x:V} (h:Pure P w I t v x) (hn: ∀e,P.underlying t≠some (.slice e)):Pure P w I' t v x:=by
 cases h with
 | int h=>exact .int h
 | bool h=>exact .bool h
 | str h hl=>exact .str h hl
 | nil h=>exact absurd h (hn _)
 | emp h=>exact absurd h (hn _)
 | list g h=>exact absurd h (hn _)
theorem Ys {e t:TypeId} {j:Nat} (h:xm P e=true) (ht:(aV P e)[j]? =some t) (e':TypeId):P.underlying t≠some (.slice e'):=by
 intro hu
 have h2:=List.all_eq_true.1 h t (List.mem_of_getElem? ht)
 rw[hu] at h2
 cases h2
theorem Yt {o:Option Nat} {b:BS} {ds:List V} (h:dV P w I2 β hp o (fF b ds)) (hs:b.safe P=true) (hi: ∀b,I b→I2 b):dV P w I β hp o (fF b ds):=by
 cases b with
 | dead=>exact .dead
 | var T0 ls=>
  simp only[fF] at h⊢
  cases h with
  | var hb hh a8 hI hx fY=>
   refine .var hb hh a8 (fun h=>hI (hi _ h)) (fun j v x hj cy=> ?_) fY
   obtain ⟨l,fl,k1,rfl⟩:=Oz cy
   exact OA (hx j v _ hj cy) (List.all_eq_true.1 hs l k1)
 | arr e fz=>
  simp only[BS.safe,Bool.and_eq_true,Bool.not_eq_true'] at hs
  obtain ⟨rfl,yo⟩:=hs
  simp only[fF] at h⊢
  generalize (V.nth ds 0).toList=es at h⊢
  cases h with
  | dL hb=>exact .dL hb
  | arr a1 a2 a3 a4 a5 a6 a7=>
   refine .arr a1 a2 a3 a4 (fun h=>by cases h) (fun _ h=>a6 rfl (hi _ h)) fun i j x t' y1 y2 y3=> ?_
   obtain ⟨v,z1,z2⟩:=a7 i j x t' y1 y2 y3
   exact ⟨v,z1,z2.scalar (Ys yo y2)⟩
 | nest e=>
  simp only[fF] at h⊢
  generalize (V.nth ds 0).toList=es at h⊢
  cases h with
  | nest hb cm nO=>
   refine .nest hb (fun q b' e1 m1 hq=> ?_) nO
   obtain ⟨ok,⟨Ca,c1,c2,c3⟩,nI⟩:=cm q b' e1 m1 hq
   refine ⟨ok,⟨Ca,c1,c2,fun i j x t' y1 y2 y3=> ?_⟩,fun h=>nI (hi _ h)⟩
   obtain ⟨v,z1,z2⟩:=c3 i j x t' y1 y2 y3
   refine ⟨v,z1,?_⟩
   generalize bK P e1 x j=y at z2⊢
   cases z2 with
   | fI a p=>
    refine .fI a (p.scalar fun e hu=> ?_)
    unfold fE at a
    rw[hu] at a
    cases a
   | emp a b=>exact .emp a b
   | row a b c d e=>exact .row a b c d e
 | map t=>
  simp only[fF] at h⊢
  cases h with
  | map a1 a2 a3 a4 a5 a6 a7=>exact .map a1 a2 a3 a4 (fun h=>a5 (hi _ h)) a6 a7
theorem HY: ∀{l:List BS} {ds:List V} {j:Nat} {y:aj},(eJ l ds)[j]? =some y→∃b fl,l[j]? =some b∧y=fF b fl
 | [],ds,j,y,h=>by simp[eJ] at h
 | b::l,ds,j,y,h=>by
  simp only[eJ] at h
  cases j with
  | zero=>simp at h;exact ⟨b,ds,rfl,h.symm⟩
  | succ j=>
   obtain ⟨b',fl,h1,h2⟩:=HY (j:=j) (by simpa using h)
   exact ⟨b',fl,by simpa using h1,h2⟩
theorem OB: ∀{l:List (Nat × VS)} {ds:List V} {q:Nat × V},q∈fh l ds→∃s fl,(q.1,s)∈l∧q.2=j6 s fl
 | [],ds,q,h=>by simp[fh] at h
 | (k,s)::l,ds,q,h=>by
  simp only[fh,List.mem_cons] at h
  rcases h with h|h
  ·subst h;exact ⟨s,ds,List.mem_cons_self ..,rfl⟩
  ·obtain ⟨s',fl,h1,h2⟩:=OB h
   exact ⟨s',fl,List.mem_cons_of_mem _ h1,h2⟩
theorem Yu {S:Shape} {es:List V} (hs:S.safe P=true) (hi: ∀b,I b→I2 b) {N:Nat→Prop} {st:Start} (h:aE P w' I2 bX (bn S es).hp B N st) (h0: ∀b,I b→st.I b):
  aE P w' I bX (bn S es).hp B N st∧∀v,an P w' I2 bX (bn S es).hp v (oO (fh S.bI es))→an P w' I bX (bn S es).hp v (oO (fh S.bI es)):=by
 unfold Shape.safe at hs
 simp only[Bool.and_eq_true] at hs
 obtain ⟨jh,iT⟩:=hs
 have one: ∀q∈fh S.bI es,∀v,an P w' I2 bX (bn S es).hp v q.2→an P w' I bX (bn S es).hp v q.2:=by
  intro q hq v hv
  obtain ⟨s,fl,k1,k2⟩:=OB hq
  rw[k2] at hv⊢
  exact OA hv (List.all_eq_true.1 jh _ k1)
 refine ⟨⟨⟨fun j blk hj=> ?_,h.h.inj,h.h.own,fun b hb=>h.h.jf b (hi b hb)⟩,h.b9,h.size,fun b hb=> .inl (h0 b hb),h.io⟩,fun v hv=> ?_⟩
 ·have hr:=h.h.rel j blk hj
  have gk:=hj
  simp only[bn,mk,gE] at gk
  obtain ⟨b,fl,k1,rfl⟩:=HY gk
  exact Yt hr (List.all_eq_true.1 iT _ (List.mem_of_getElem? k1)) hi
 ·generalize fh S.bI es=l at one hv⊢
  match l,one,hv with
  | [],_,hv=>
   simp only[oO,List.map_nil] at hv⊢
   obtain ⟨cs,rfl,e1,e2⟩:=hv.sM
   exact .bf e1 fun j v x _ hx=>by simp at hx
  | [q],one,hv=>exact one q (List.mem_singleton.2 rfl) v hv
  | q::q2::l,one,hv=>
   simp only[oO] at hv⊢
   obtain ⟨cs,rfl,e1,e2⟩:=hv.sM
   refine .bf e1 fun j v x hj hx=> ?_
   obtain ⟨y,hy,rfl⟩:=List.mem_map.1 (List.mem_of_getElem? hx)
   exact one y hy v (e2 j v _ hj hx)
end
end Go.AM
namespace Go.AM
section
variable {P:Program} {A:cF} {w w':World} {I I' I2:Nat→Prop} {μ β au bX:Nat→Option Nat} {hp hp' hp0 bt:Nat→Option aj} {C:ag} {B:Nat} {M:Nat→Prop} {w0:Start}
inductive gb (σ:List Place):aj→aj→Prop
 | dead:gb σ .dead .dead
 | var {T:TypeId} {cs:List V}:gb σ (.var T cs) (.var T (cs.map (Ce σ)))
 | arr {e:TypeId} {es:List V} {fz:Bool}:gb σ (.arr e es fz) (.arr e es fz)
 | nest {e:TypeId} {es:List V} {v1 v2:List Nat}:gb σ (.nest e es v1) (.nest e es v2)
 | map {t:TypeId} {es:List V}:gb σ (.map t es) (.map t es)
theorem gb.of (σ:List Place) (b:aj):gb σ b (sw σ b):=by
 cases b with
 | dead=>exact .dead
 | var T cs=>exact .var
 | arr e es fz=>exact .arr
 | nest e es v=>exact .nest
 | map t es=>exact .map
theorem OC {σ:List Place}: ∀{pl:List Place} {bs:List aj} {acc:List (Nat × aj)} {k:List (Nat × aj)→Rd R} {r:R} {rd:List Nat},(pG σ pl bs acc k).run C hp=some (r,rd)→
  pl.length≤bs.length∧∃bk eW,(k bk).run C hp=some (r,eW)∧(∀q∈bk,q∈acc∨∃(j:Nat) (b:aj),pl[j]? =some (.blk q.1)∧bs[j]? =some b∧gb σ b q.2∧((∃e es v2,q.2= .nest e es v2)→∃e es ao e' aI,hp q.1=some (.nest e es ao)∧q.2= .nest e' aI (ao.map (· +1))))∧
   (∀q∈acc,q∈bk)∧∀(j:Nat) p,pl[j]? =some p→∃id b,p= .blk id∧(id,b)∈bk
 | [],bs,acc,k,r,rd,h=>⟨Nat.zero_le _,acc,rd,by simpa only[pG] using h,fun q hq=> .inl hq,fun q hq=>hq,fun j p hp=>by simp at hp⟩
 | .row _ _ _::pl,bs,acc,k,r,rd,h=>by
  cases bs<;>(simp only[pG] at h;cases h)
 | .blk id::pl,[],acc,k,r,rd,h=>by simp only[pG] at h;cases h
 | .blk id::pl,b::bs,acc,k,r,rd,h=>by
  have fin: ∀{b2:aj} {iU:List Nat},(pG σ pl bs ((id,b2)::acc) k).run C hp=some (r,iU)→gb σ b b2→((∃e es v2,b2= .nest e es v2)→∃e es ao e' aI,hp id=some (.nest e es ao)∧b2= .nest e' aI (ao.map (· +1)))→
    (Place.blk id::pl).length≤(b::bs).length∧∃bk eW,(k bk).run C hp=some (r,eW)∧(∀q∈bk,q∈acc∨∃(j:Nat) (b':aj),(Place.blk id::pl)[j]? =some (.blk q.1)∧(b::bs)[j]? =some b'∧gb σ b' q.2∧((∃e es v2,q.2= .nest e es v2)→∃e es ao e' aI,hp q.1=some (.nest e es ao)∧q.2= .nest e' aI (ao.map (· +1))))∧
     (∀q∈acc,q∈bk)∧∀(j:Nat) p,(Place.blk id::pl)[j]? =some p→∃id b,p= .blk id∧(id,b)∈bk:=by
   intro b2 iU h1 hb hn
   obtain ⟨a0,bk,eW,a1,a2,a3,a4⟩:=OC h1
   refine ⟨by simp only[List.length_cons];omega,bk,eW,a1,fun q hq=> ?_,fun q hq=>a3 q (List.mem_cons_of_mem _ hq),fun j p hj=> ?_⟩
   ·rcases a2 q hq with h|⟨j,b',k1,k2,k3,k4⟩
    ·rcases List.mem_cons.1 h with e|h
     ·subst e;exact .inr ⟨0,b,rfl,rfl,hb,hn⟩
     ·exact .inl h
    ·exact .inr ⟨j+1,b',by simpa using k1,by simpa using k2,k3,k4⟩
   ·cases j with
    | zero=>simp at hj;subst hj;exact ⟨id,b2,rfl,a3 _ (List.mem_cons_self ..)⟩
    | succ j=>exact a4 j p (by simpa using hj)
  cases b with
  | nest e es v=>
   simp only[pG] at h
   obtain ⟨l,h⟩:=run_get h
   cases aa:hp id with
   | none=>rw[aa] at h;cases h
   | some blk=>
    rw[aa] at h
    cases blk with
    | nest e0 GU ao=>exact fin h .nest fun _=>⟨e0,GU,ao,e,es,aa,rfl⟩
    | _=>cases h
  | dead=>exact fin h (.of σ _) fun ⟨_,_,_,h⟩=>by cases h
  | var T cs=>exact fin h (.of σ _) fun ⟨_,_,_,h⟩=>by cases h
  | arr e es fz=>exact fin h (.of σ _) fun ⟨_,_,_,h⟩=>by cases h
  | map t es=>exact fin h (.of σ _) fun ⟨_,_,_,h⟩=>by cases h
theorem OD {σ:List Place}: ∀{bs:List aj} {n:Nat} {q:Nat × aj},q∈pH σ n bs→∃i b,bs[i]? =some b∧q=(n+i,sw σ b)
 | [],n,q,h=>by simp[pH] at h
 | b::bs,n,q,h=>by
  simp only[pH,List.mem_cons] at h
  rcases h with h|h
  ·exact ⟨0,b,rfl,h⟩
  ·obtain ⟨i,b',h1,h2⟩:=OD h
   exact ⟨i+1,b',by simpa using h1,by rw[h2];congr 1;omega⟩
theorem OE {σ:List Place}: ∀{bs:List aj} {n i:Nat} {b:aj},bs[i]? =some b→(n+i,sw σ b)∈pH σ n bs
 | [],n,i,b,h=>by simp at h
 | b0::bs,n,i,b,h=>by
  simp only[pH,List.mem_cons]
  cases i with
  | zero=>simp at h;subst h;exact .inl rfl
  | succ i=>exact .inr (by rw[show n+(i+1)=n+1+i by omega];exact OE (by simpa using h))
theorem De: ∀{k n i:Nat},i<k→(q0 n k)[i]? =some (.blk (n+i))
 | 0,n,i,h=>by omega
 | k+1,n,0,h=>rfl
 | k+1,n,i+1,h=>by
  simp only[q0,List.getElem?_cons_succ]
  rw[De (by omega)]
  congr 2
  omega
theorem HZ: ∀{k n:Nat},(q0 n k).length=k
 | 0,_=>rfl
 | k+1,n=>by simp[q0,HZ]
theorem OF: ∀{bs:List (Nat × aj)} {k:Rd R} {r:R} {rd:List Nat},(Cf bs k).run C hp=some (r,rd)→(∀q∈bs,hp q.1=none)∧∃eW,k.run C hp=some (r,eW)
 | [],k,r,rd,h=>⟨by simp,rd,h⟩
 | (id,b)::l,k,r,rd,h=>by
  simp only[Cf] at h
  obtain ⟨l1,h⟩:=run_get h
  cases aa:hp id with
  | some blk=>rw[aa] at h;cases h
  | none=>
   rw[aa] at h
   obtain ⟨h1,h2⟩:=OF h
   refine ⟨fun q hq=> ?_,h2⟩
   rcases List.mem_cons.1 hq with e|hq
   ·subst e;exact aa
   ·exact h1 q hq
structure o6 (σ:List Place) (bX:Nat→Option Nat) (bt:Nat→Option aj) (au:Nat→Option Nat) (hp':Nat→Option aj):Prop where
 blk: ∀j b,bt j=some b→∃id b',dZ σ j=some (.blk id)∧hp' id=some b'∧gb σ b b'∧(b≠ .dead→au id=bX j)
 none: ∀j,bt j=none→dZ σ j=none
 ain: ∀j id ver path,dZ σ j≠some (.row id ver path)
theorem o6.leaf {σ:List Place} (T:o6 σ bX bt au hp') {v:Value} {x:V} (h:an P w I bX bt v x):an P w I au hp' v (jD σ x):=by
 have look: ∀{j b},bt j=some b→∃id b',dZ σ j=some (.blk id)∧hp' id=some b'∧gb σ b b'∧(b≠ .dead→au id=bX j):=fun h=>T.blk _ _ h
 cases h with
 | undef=>exact .undef
 | int=>exact .int
 | bool=>exact .bool
 | str h=>exact .str h
 | list h=>exact .list h
 | nilS=>exact .nilS
 | agg=>exact .undef
 | bf=>exact .undef
 | dx=>exact .dx
 | fn=>exact .undef
 | pref a b c=>exact .pref a b c
 | @ed _ e j h=>
  obtain ⟨id,b',k1,k2,k3,k4⟩:=look h
  simp only[jD,k1]
  cases k3
  exact .ed k2
 | @fW _ e j _ _ h=>
  obtain ⟨id,b',k1,k2,k3,k4⟩:=look h
  simp only[jD,k1]
  cases k3
  exact .fW k2
 | @jG _ j _ _ h=>
  obtain ⟨id,b',k1,k2,k3,k4⟩:=look h
  simp only[jD,k1]
  cases k3
  exact .jG k2
 | @dK e j fz _ h hb=>
  obtain ⟨id,b',k1,k2,k3,k4⟩:=look h
  simp only[jD,k1]
  cases k3
  exact .dK k2 ((k4 (by simp)).trans hb)
 | @whole e j es fz b cap h hb a1 a2 a3=>
  obtain ⟨id,b',k1,k2,k3,k4⟩:=look h
  simp only[jD,k1]
  cases k3
  exact .whole k2 ((k4 (by simp)).trans hb) a1 a2 a3
 | @ep e j es ao b cap h hb a1 a2 a3=>
  obtain ⟨id,b',k1,k2,k3,k4⟩:=look h
  simp only[jD,k1]
  cases k3
  exact .ep k2 ((k4 (by simp)).trans hb) a1 a2 a3
 | @fJ e j fz _ h hb=>
  obtain ⟨id,b',k1,k2,k3,k4⟩:=look h
  simp only[jD,k1]
  cases k3
  exact .fJ k2 ((k4 (by simp)).trans hb)
 | @sub e j off len es fz b o cap h hb a1 a2 a3=>
  obtain ⟨id,b',k1,k2,k3,k4⟩:=look h
  simp only[jD,k1]
  cases k3
  exact .sub k2 ((k4 (by simp)).trans hb) a1 a2 a3
 | @ptr j i c b blk h hd hb=>
  obtain ⟨id,b',k1,k2,k3,k4⟩:=look h
  simp only[jD,k1]
  have hs:blk.sz P=b'.sz P:=by cases k3<;>rfl
  rw[hs]
  exact .ptr k2 (by intro e;subst e;cases k3;exact hd rfl) ((k4 hd).trans hb)
 | jd=>exact .undef
 | je=>exact .undef
 | row=>exact .undef
 | cE=>exact .undef
 | dy=>exact .dy
 | @gT _ t j h=>
  obtain ⟨id,b',k1,k2,k3,k4⟩:=look h
  simp only[jD,k1]
  cases k3
  exact .gT k2
 | @bD t j b es h hb=>
  obtain ⟨id,b',k1,k2,k3,k4⟩:=look h
  simp only[jD,k1]
  cases k3
  exact .bD k2 ((k4 (by simp)).trans hb)
theorem o6.one {σ:List Place} (T:o6 σ bX bt au hp') {v:Value} {x:V} (h:an P w I bX bt v x):an P w I au hp' v (GG σ x):=by
 cases x with
 | agg xs=>
  obtain ⟨cs,rfl,e1,e2⟩:=h.ka
  exact .agg (by simpa using e1) fun j v y hj hy=>by
   rw[List.getElem?_map] at hy
   cases hx:xs[j]? with
   | none=>rw[hx] at hy;cases hy
   | some x=>rw[hx] at hy;cases hy;exact T.leaf (e2 j v x hj hx)
 | fn f a b=>
  cases h with
  | fn a1 a2 b1 b2=>
   refine .fn (by simpa using a1) (fun j v y hj hy=> ?_) (by simpa using b1) (fun j v y hj hy=> ?_)
   ·rw[List.getElem?_map] at hy
    cases hx:a[j]? with
    | none=>rw[hx] at hy;cases hy
    | some x=>rw[hx] at hy;cases hy;exact T.leaf (a2 j v x hj hx)
   ·rw[List.getElem?_map] at hy
    cases hx:b[j]? with
    | none=>rw[hx] at hy;cases hy
    | some x=>rw[hx] at hy;cases hy;exact T.leaf (b2 j v x hj hx)
 | _=>exact T.leaf h
theorem o6.val {σ:List Place} (T:o6 σ bX bt au hp') {v:Value} {x:V} (h:an P w I bX bt v x):an P w I au hp' v (Ce σ x):=by
 cases x with
 | bf xs=>
  obtain ⟨cs,rfl,e1,e2⟩:=h.sM
  exact .bf (by simpa using e1) fun j v y hj hy=>by
   rw[List.getElem?_map] at hy
   cases hx:xs[j]? with
   | none=>rw[hx] at hy;cases hy
   | some x=>rw[hx] at hy;cases hy;exact T.one (e2 j v x hj hx)
 | _=>exact T.one h
theorem o6.OG {σ:List Place} (T:o6 σ bX bt au hp') {o:Option Nat} {b b':aj} (h:dV P w I bX bt o b) (hb:gb σ b b'):dV P w I au hp' o b':=by
 cases hb with
 | dead=>exact .dead
 | var=>
  cases h with
  | var a1 a2 a3 a4 a5 a6=>
   refine .var a1 a2 (by simpa using a3) a4 (fun j v y hj hy=> ?_) a6
   rw[List.getElem?_map] at hy
   cases hx:(_:List V)[j]? with
   | none=>rw[hx] at hy;cases hy
   | some x=>rw[hx] at hy;cases hy;exact T.val (a5 j v x hj hx)
 | arr=>
  cases h with
  | dL hb=>exact .dL hb
  | arr a1 a2 a3 a4 a5 a6 a7=>exact .arr a1 a2 a3 a4 a5 a6 a7
 | nest=>
  cases h with
  | nest a1 a2 a3=>exact .nest a1 a2 a3
 | map=>
  cases h with
  | map a1 a2 a3 a4 a5 a6 a7=>exact .map a1 a2 a3 a4 a5 a6 a7
theorem gb.te {σ:List Place} {o:Option Nat} {b b':aj} (h:gb σ b b') {m:Nat} (ho:bz P w o b' m):bz P w o b m:=by
 cases h with
 | dead=>exact absurd rfl ho.alive
 | var=>exact .root (by simp) (ho.flat (by simp))
 | arr=>exact .root (by simp) (ho.flat (by simp))
 | map=>exact .root (by simp) (ho.flat (by simp))
 | nest=>
  cases ho with
  | root _ hb=>exact .root (by simp) hb
  | row hb ha=>exact .row hb ha
theorem gb.OH {σ:List Place} {b b':aj} (h:gb σ b b'):b'≠ .dead→b≠ .dead:=by
 intro h1 h2;subst h2;cases h;exact h1 rfl
end
end Go.AM
namespace Go.AM
section
variable {P:Program} {A:cF} {w w':World} {I I' I2:Nat→Prop} {μ β au bX:Nat→Option Nat} {hp hp' hp0 bt:Nat→Option aj} {C:ag} {B:Nat} {M:Nat→Prop} {w0:Start}
theorem OI: ∀{vs:List Nat} {k:Nat},k<vs.length→bE (vs.map (· +1)) k=bE vs k+1
 | [],k,h=>by simp at h
 | v::vs,0,h=>rfl
 | v::vs,k+1,h=>by simp only[List.map_cons,bE];exact OI (by simpa using h)
theorem OJ: ∀{vs:List Nat} {k:Nat},bE vs k≤bE (vs.map (· +1)) k
 | [],k=>by simp[bE]
 | v::vs,0=>by simp[bE]
 | v::vs,k+1=>by simp only[List.map_cons,bE];exact OJ
def yr (hp:Nat→Option aj) (q:Nat × aj):Prop:=(∃e es v2,q.2= .nest e es v2)→∃e es ao e' aI,hp q.1=some (.nest e es ao)∧q.2= .nest e' aI (ao.map (· +1))
theorem dX.H0 {id:Nat} {o:Option Nat} {blk:aj} (h:dX P w β hp (.blk id) o blk):o=β id∧∃b0,hp id=some b0∧b0≠ .dead:=by
 cases h with
 | var h=>exact ⟨rfl,_,h,by simp⟩
 | arr h=>exact ⟨rfl,_,h,by simp⟩
 | nest h=>exact ⟨rfl,_,h,by simp⟩
 | map h=>exact ⟨rfl,_,h,by simp⟩
theorem dX.Yv {id:Nat} {o:Option Nat} {c b b' b0:aj} {σ:List Place} (h:dX P w β hp (.blk id) o c) (h0:hp id=some b0) (hle:c.le b) (hb:gb σ b b') (hn:yr hp (id,b')):b0.le b':=by
 cases h with
 | var h=>
  rw[h] at h0;cases h0
  cases hb with
  | dead=>trivial
  | var=>trivial
  | arr=>exact hle.elim
  | nest=>exact hle.elim
  | map=>exact hle.elim
 | arr h=>
  rw[h] at h0;cases h0
  cases hb with
  | dead=>trivial
  | var=>exact hle.elim
  | arr=>exact hle
  | nest=>exact hle.elim
  | map=>exact hle.elim
 | map h=>
  rw[h] at h0;cases h0
  cases hb with
  | dead=>trivial
  | map=>exact hle
  | _=>exact hle.elim
 | nest h=>
  rw[h] at h0;cases h0
  cases hb with
  | dead=>trivial
  | var=>exact hle.elim
  | arr=>exact hle
  | map=>exact hle.elim
  | @nest e es v1 v2=>
   obtain ⟨e1,cj,tf,e2,b6,k1,k2⟩:=hn ⟨_,_,_,rfl⟩
   cases k2
   change hp id=_ at k1
   rw[h] at k1;cases k1
   exact ⟨hle.1,hle.2.1,by simp,fun k=>OJ⟩
theorem dX.other {p:Place} {o:Option Nat} {blk:aj} (h:dX P w β hp p o blk) (he:hp' p.id=hp p.id):dX P w β hp' p o blk:=by
 cases h with
 | var h=>exact .var (he.trans h)
 | arr h=>exact .arr (he.trans h)
 | nest h=>exact .nest (he.trans h)
 | map h=>exact .map (he.trans h)
 | row h a b c d e f g=>exact .row (he.trans h) a b c d e f g
open Classical in
theorem OK (S:aE P w I β hp B M w0) {pl:List Place} {o:Nat→Option Nat} {bs:List aj} {nb:Nat} {bk fr:List (Nat × aj)} {σ:List Place} (p8:σ=pl++q0 nb (bs.length-pl.length)) (yu:fr=pH σ nb (bs.drop pl.length))
  (jO:(pl.map Place.id).Nodup) (pO:pl.length≤bs.length)
  (Dg: ∀(j:Nat) p,pl[j]? =some p→∃id b,p= .blk id∧(id,b)∈bk) (Dh: ∀q∈bk,∃(j:Nat) (b:aj),pl[j]? =some (.blk q.1)∧bs[j]? =some b∧gb σ b q.2∧yr hp q)
  (hl: ∀j blk,hp0 j=some blk→∃p,dZ pl j=some p∧dX P w β hp p (o j) blk) (hd: ∀j,j<pl.length→∃blk,hp0 j=some blk)
  (Sc:aE P w' I2 bX (jc bs) w.heap.size (nX P w o hp0) ⟨w,I⟩) (vp:kh w I o hp0 w' I2 bX (jc bs)) (rA: ∀q∈fr,hp q.1=none):
  ∃au,Le P w I β hp w' I2 au (bL hp (fr++bk))∧aE P w' I2 au (bL hp (fr++bk)) B M w0∧o6 σ bX (jc bs) au (bL hp (fr++bk)):=by
 generalize H2:bL hp (fr++bk)=gA
 let au:Nat→Option Nat:=fun n=>if∃q∈fr,q.1=n then bX (pl.length+(n-nb)) else β n
 have OL: ∀(j:Nat) id,pl[j]? =some (.blk id)→∃c,hp0 j=some c∧dX P w β hp (.blk id) (o j) c:=by
  intro j id hj
  obtain ⟨c,hc⟩:=hd j (List.getElem?_eq_some_iff.1 hj).1
  obtain ⟨p,h1,h2⟩:=hl j c hc
  rw[kS,hj] at h1
  cases h1
  exact ⟨c,hc,h2⟩
 have uniq: ∀(j1 j2:Nat) id,pl[j1]? =some (.blk id)→pl[j2]? =some (.blk id)→j1=j2:=by
  intro j1 j2 id h1 h2
  have m1:(pl.map Place.id)[j1]? =some id:=by rw[List.getElem?_map,h1];rfl
  have m2:(pl.map Place.id)[j2]? =some id:=by rw[List.getElem?_map,h2];rfl
  obtain ⟨z1,z2⟩:=List.getElem?_eq_some_iff.1 m1
  obtain ⟨z3,z4⟩:=List.getElem?_eq_some_iff.1 m2
  exact (List.getElem_inj jO).1 (z2.trans z4.symm)
 have cls: ∀id,(∃i b,id=nb+i∧bs[pl.length+i]? =some b∧gA id=some (sw σ b)∧hp id=none∧au id=bX (pl.length+i))∨
   (∃(j:Nat) (b b' c b0:aj),pl[j]? =some (.blk id)∧bs[j]? =some b∧hp0 j=some c∧dX P w β hp (.blk id) (o j) c∧hp id=some b0∧b0.le b'∧gA id=some b'∧gb σ b b'∧yr hp (id,b')∧au id=β id∧c.le b∧(b≠ .dead→bX j=β id))∨
   (gA id=hp id∧(∀j:Nat,pl[j]? ≠some (.blk id))∧au id=β id):=by
  intro id
  by_cases hm: ∃b,(id,b)∈fr++bk
  ·obtain ⟨b,hm⟩:=hm
   obtain ⟨b',xO,he⟩:=Co (hp:=hp) hm
   rw[H2] at he
   rcases List.mem_append.1 xO with h|h
   ·have h0:=rA _ h
    have nZ:au id=bX (pl.length+(id-nb)):=if_pos ⟨_,h,rfl⟩
    rw[yu] at h
    obtain ⟨i,b1,k1,k2⟩:=OD h
    rw[List.getElem?_drop] at k1
    cases k2
    exact .inl ⟨i,b1,rfl,k1,he,h0,by rw[nZ];congr 2;omega⟩
   ·obtain ⟨j,b1,q1,q2,q3,q4⟩:=Dh _ h
    obtain ⟨c,c1,c2⟩:=OL j id q1
    obtain ⟨c3,b0,c4,c5⟩:=c2.H0
    obtain ⟨b2,d1,d2,d3⟩:=vp.blk j c c1
    rw[gE,q2] at d1
    cases d1
    refine .inr (.inl ⟨j,b1,b',c,b0,q1,q2,c1,c2,c4,c2.Yv c4 d2 q3 q4,he,q3,q4,if_neg ?_,d2,fun h=>(d3 h).trans c3⟩)
    rintro ⟨q,hq,Yw⟩
    rw[←Yw,rA q hq] at c4
    cases c4
  ·refine .inr (.inr ⟨?_,fun j hj=> ?_,if_neg ?_⟩)
   ·rcases sJ (hp:=hp) (l:=fr++bk) (id:=id) with h|⟨b,hb,_⟩
    ·rw[H2] at h;exact h
    ·exact absurd ⟨b,hb⟩ hm
   ·obtain ⟨aC,b,e,hb⟩:=Dg j _ hj
    cases e
    exact hm ⟨b,List.mem_append.2 (.inr hb)⟩
   ·rintro ⟨q,hq,rfl⟩
    exact hm ⟨q.2,List.mem_append.2 (.inl hq)⟩
 have OM: ∀b,nX P w o hp0 b→∃(j id:Nat) (b1:aj),pl[j]? =some (.blk id)∧hp id=some b1∧bz P w (β id) b1 b∧∀e es,b1≠ .arr e es true:=by
  rintro b ⟨j,c,hc,ho⟩
  obtain ⟨p,h1,h2⟩:=hl j c hc
  rw[kS] at h1
  obtain ⟨id,b2,rfl,_⟩:=Dg j p h1
  obtain ⟨b1,k1,k2,k3⟩:=h2.te ho
  exact ⟨j,id,b1,h1,k1,k2,k3⟩
 have other: ∀id blk b,hp id=some blk→bz P w (β id) blk b→(∀j:Nat,pl[j]? ≠some (.blk id))→¬nX P w o hp0 b∧w'.heap[b]? =w.heap[b]? ∧(I2 b→I b):=by
  intro id blk b e1 e3 e4
  have n0: ¬nX P w o hp0 b:=by
   intro hx
   obtain ⟨j,aC,b1,i1,i2,i3,_⟩:=OM b hx
   have:=S.h.inj id aC _ _ b e1 i2 e3 i3
   subst this
   exact e4 j i1
  have aS:=S.h.lt e1 e3
  refine ⟨n0,Sc.b9 b aS n0,fun h=> ?_⟩
  rcases Sc.new b h with h|h|h
  ·exact h
  ·exact absurd h n0
  ·omega
 have rp:o6 σ bX (jc bs) au gA:=by
  refine ⟨fun j b hj=> ?_,fun j hj=> ?_,fun j id ver path hj=> ?_⟩
  ·rw[gE] at hj
   by_cases cW:j<pl.length
   ·obtain ⟨id,b1,e,kP⟩:=Dg j _ (List.getElem?_eq_getElem cW)
    have Di:pl[j]? =some (.blk id):=by rw[List.getElem?_eq_getElem cW,e]
    have H3:dZ σ j=some (.blk id):=by rw[p8];exact nU (by rw[kS];exact Di)
    rcases cls id with ⟨i,b2,c1,c2,c3,c4,c5⟩|⟨j',b2,b',c,b0,q1,q2,q3,q4,q5,q6,q7,q8,q9,o7,vq,p9⟩|⟨c1,c2,c3⟩
    ·obtain ⟨c,d1,d2⟩:=OL j id Di
     obtain ⟨_,b0,d3,_⟩:=d2.H0
     rw[d3] at c4;cases c4
    ·obtain rfl:=uniq _ _ _ q1 Di
     rw[hj] at q2;cases q2
     exact ⟨id,b',H3,q7,q8,fun h=>o7.trans (p9 h).symm⟩
    ·exact absurd Di (c2 j)
   ·have ON:=(List.getElem?_eq_some_iff.1 hj).1
    have H3:dZ σ j=some (.blk (nb+(j-pl.length))):=by
     rw[p8,kS,List.getElem?_append_right (by omega)]
     exact De (by omega)
    have hm:(nb+(j-pl.length),sw σ b)∈fr:=by
     rw[yu]
     refine OE ?_
     rw[List.getElem?_drop,show pl.length+(j-pl.length)=j by omega]
     exact hj
    rcases cls (nb+(j-pl.length)) with ⟨i,b2,c1,c2,c3,c4,c5⟩|⟨j',b2,b',c,b0,q1,q2,q3,q4,q5,q6,q7,q8,q9,o7,vq,p9⟩|⟨c1,c2,c3⟩
    ·have hi:i=j-pl.length:=by omega
     subst hi
     rw[show pl.length+(j-pl.length)=j by omega] at c2 c5
     rw[hj] at c2;cases c2
     exact ⟨_,_,H3,c3,.of σ _,fun _=>c5⟩
    ·rw[rA _ hm] at q5;cases q5
    ·obtain ⟨b',xO,he⟩:=Co (hp:=hp) (l:=fr++bk) (List.mem_append.2 (.inl hm))
     rw[H2,c1,rA _ hm] at he
     cases he
  ·rw[gE] at hj
   have:=List.getElem?_eq_none_iff.1 hj
   rw[p8,kS,List.getElem?_eq_none_iff,List.length_append,HZ]
   omega
  ·rw[p8,kS] at hj
   by_cases cW:j<pl.length
   ·rw[List.getElem?_append_left cW] at hj
    obtain ⟨aC,b1,e,_⟩:=Dg j _ hj
    cases e
   ·have ON:j-pl.length<bs.length-pl.length:=by
     have:=(List.getElem?_eq_some_iff.1 hj).1
     rw[List.length_append,HZ] at this
     omega
    rw[List.getElem?_append_right (by omega),De ON] at hj
    cases hj
 have hle:Le P w I β hp w' I2 au gA:=by
  refine ⟨vp.dq,vp.b9,fun id blk aa=> ?_,fun id blk blk' b aa bG qa hb=> ?_,fun id e es ao e' aI vers' b q i c t v e1 l aa bG hb aS hv ht hc=> ?_⟩
  ·rcases cls id with ⟨i,b2,c1,c2,c3,c4,c5⟩|⟨j',b2,b',c,b0,q1,q2,q3,q4,q5,q6,q7,q8,q9,o7,vq,p9⟩|⟨c1,c2,c3⟩
   ·rw[aa] at c4;cases c4
   ·rw[aa] at q5;cases q5
    exact ⟨b',q7,q6,fun _=>o7⟩
   ·exact ⟨blk,c1.trans aa,aj.le_refl _,fun _=>c3⟩
  ·rcases cls id with ⟨i,b2,c1,c2,c3,c4,c5⟩|⟨j',b2,b',c,b0,q1,q2,q3,q4,q5,q6,q7,q8,q9,o7,vq,p9⟩|⟨c1,c2,c3⟩
   ·rw[aa] at c4;cases c4
   ·rw[q7] at bG;cases bG
    exact vp.size j' c b2 b q3 (by rw[gE];exact q2) (q8.OH qa) (q4.H0.1.trans hb)
   ·rw[c1,aa] at bG
    cases bG
    simp only[bsize,(other id blk b aa (.root qa hb) c2).2.1]
  ·rcases cls id with ⟨i2,b2,c1,c2,c3,c4,c5⟩|⟨j',b2,b',c',b0,q1,q2,q3,q4,q5,q6,q7,q8,q9,o7,vq,p9⟩|⟨c1,c2,c3⟩
   ·rw[aa] at c4;cases c4
   ·rw[q7] at bG;cases bG
    obtain ⟨_,_,tf,_,_,k1,k2⟩:=q9 ⟨_,_,_,rfl⟩
    change hp id=_ at k1
    rw[aa] at k1;cases k1
    cases k2
    rw[OI aS] at hv
    omega
   ·rw[c1,aa] at bG
    cases bG
    exact ⟨l,rfl,hc.mono fun _ _ _ _ h=>(other id _ _ aa (.row hb h) c2).2.1⟩
 have place: ∀id blk b,gA id=some blk→bz P w' (au id) blk b→(∃j c,jc bs j=some c∧bz P w' (bX j) c b∧dZ σ j=some (.blk id))∨(b<w.heap.size∧¬nX P w o hp0 b∧hp id=some blk∧bz P w (β id) blk b):=by
  intro id blk b e1 e3
  rcases cls id with ⟨i,b2,c1,c2,c3,c4,c5⟩|⟨j',b2,b',c,b0,q1,q2,q3,q4,q5,q6,q7,q8,q9,o7,vq,p9⟩|⟨c1,c2,c3⟩
  ·rw[c3] at e1;cases e1
   rw[c5] at e3
   refine .inl ⟨pl.length+i,b2,by rw[gE];exact c2,(gb.of σ b2).te e3,?_⟩
   have:=(List.getElem?_eq_some_iff.1 c2).1
   rw[p8,kS,List.getElem?_append_right (by omega),De (by omega),c1]
   congr 3
   omega
  ·rw[q7] at e1;cases e1
   have qa:b2≠ .dead:=q8.OH e3.alive
   rw[o7,←p9 qa] at e3
   exact .inl ⟨j',b2,by rw[gE];exact q2,q8.te e3,by rw[p8];exact nU (by rw[kS];exact q1)⟩
  ·rw[c1] at e1
   rw[c3] at e3
   have:=e3.mono (w:=w) fun b hb=>(other id blk b e1 hb c2).2.1
   exact .inr ⟨S.h.lt e1 this,(other id blk b e1 this c2).1,e1,this⟩
 have rh: ∀b,nX P w o hp0 b∨w.heap.size≤b→M b∨B≤b:=by
  rintro b (h|h)
  ·obtain ⟨j,id,b1,i1,i2,i3,_⟩:=OM b h
   exact S.h.own id b1 b i2 i3
  ·exact .inr (Nat.le_trans S.size h)
 have H4: ∀j c b,jc bs j=some c→bz P w' (bX j) c b→nX P w o hp0 b∨w.heap.size≤b:=fun j c b h1 h2=>Sc.h.own j c b h1 h2
 refine ⟨au,hle,⟨⟨fun id blk aa=> ?_,fun i1 i2 b1 b2 b e1 e2 f1 f2=> ?_,fun id blk b aa hb=> ?_,Sc.h.jf⟩,fun b hb hM=> ?_,Nat.le_trans S.size Sc.size,fun b hb=> ?_,⟨Sc.io.1.trans S.io.1,Sc.io.2.trans S.io.2⟩⟩,rp⟩
 ·rcases cls id with ⟨i,b2,c1,c2,c3,c4,c5⟩|⟨j',b2,b',c,b0,q1,q2,q3,q4,q5,q6,q7,q8,q9,o7,vq,p9⟩|⟨c1,c2,c3⟩
  ·rw[c3] at aa;cases aa
   rw[c5]
   exact rp.OG (Sc.h.rel _ b2 (by rw[gE];exact c2)) (.of σ b2)
  ·rw[q7] at aa;cases aa
   have:=rp.OG (Sc.h.rel j' b2 (by rw[gE];exact q2)) q8
   by_cases qa:b2= .dead
   ·subst qa
    cases q8
    exact .dead
   ·rw[o7,←p9 qa]
    exact this
  ·rw[c1] at aa
   rw[c3]
   exact (S.h.rel id blk aa).mono hle fun b hb=>(other id blk b aa hb c2).2
 ·rcases place i1 b1 b e1 f1 with ⟨j1,c1,g1,g2,g3⟩|⟨g1,g2,g3,g4⟩<;>rcases place i2 b2 b e2 f2 with ⟨j2,c2,k1,k2,k3⟩|⟨k1,k2,k3,k4⟩
  ·have:=Sc.h.inj j1 j2 c1 c2 b g1 k1 g2 k2
   subst this
   rw[g3] at k3
   cases k3
   rfl
  ·rcases H4 j1 c1 b g1 g2 with h|h
   ·exact absurd h k2
   ·omega
  ·rcases H4 j2 c2 b k1 k2 with h|h
   ·exact absurd h g2
   ·omega
  ·exact S.h.inj i1 i2 _ _ b g3 k3 g4 k4
 ·rcases place id blk b aa hb with ⟨j1,c1,g1,g2,g3⟩|⟨g1,g2,g3,g4⟩
  ·exact rh b (H4 j1 c1 b g1 g2)
  ·exact S.h.own id blk b g3 g4
 ·refine (Sc.b9 b (Nat.lt_of_lt_of_le hb S.size) fun hx=> ?_).trans (S.b9 b hb hM)
  rcases rh b (.inl hx) with h|h
  ·exact hM h
  ·omega
 ·rcases Sc.new b hb with h|h|h
  ·exact S.new b h
  ·exact .inr (rh b (.inl h))
  ·exact .inr (rh b (.inr h))
end
end Go.AM
namespace Go.AM
section
variable {P:Program} {A:cF} {w w':World} {I I' I2:Nat→Prop} {μ β au bX:Nat→Option Nat} {hp hp' hp0 bt:Nat→Option aj} {C:ag} {B:Nat} {M:Nat→Prop} {w0:Start}
theorem OO (hp:Nat→Option aj): ∀(a b:List (Nat × aj)),bL hp (a++b)=bL (bL hp b) a
 | [],b=>rfl
 | (i,x)::a,b=>by simp only[List.cons_append,bL,OO hp a b]
theorem th {hp:Nat→Option aj} {l:List (Nat × aj)} {id:Nat} (h: ∀q∈l,q.1≠id):bL hp l id=hp id:=by
 rcases sJ (hp:=hp) (l:=l) (id:=id) with h1|⟨b,hb,_⟩
 ·exact h1
 ·exact absurd rfl (h _ hb)
def vr (P : Program) : Prop := ∀ (f : Nat) fn, P.funcs[f]? = some fn → (fn.name == "runtime.NumGoroutine") = false
def Dj (P:Program) (f:FuncId) (e:TypeId):Prop:=
 (∀args w,(callFunc f args).run P w= .ok (.enter f args) w)∧∃t,P.underlying t=some (.slice e)∧
  ∀(s:Value) (w:World) (Q:Ending→World→Prop),(s= .slice none 0 0→Q (.returned (.slice none 0 0)) w)→
   (∀a n c,s= .slice (some a) n c→∃v w',(Builtin.append_ #[t,t] t #[.slice (some ⟨w.heap.size,0,none⟩) 0 0,s]).run P (w.alloc (.cells #[] e))= .ok v w'∧Q (.returned v) w')→
   (s= .slice none 0 0∨∃a n c,s= .slice (some a) n c)→Calls P f #[s] w Q
structure iW (P:Program) (A:cF):Prop where
 count:vr P
 ext: ∀f T,A.ext f=some T→∀(b:Nat) (C:Array Value) (w:World),w.heap[b]? =some (.cells C T (0,0))→C.size=P.cellsOf T→(C[0]? =some (.pointer none)∨C[0]? =some (.pointer (some ⟨b,0,none⟩)))→
  (callFunc f #[.pointer (some ⟨b,0,none⟩)]).run P w= .ok (.enter f #[.pointer (some ⟨b,0,none⟩)]) w∧
  Calls P f #[.pointer (some ⟨b,0,none⟩)] w fun e w'=>e= .returned (.tuple #[])∧(w'=w∨w'=w.setCell ⟨b,0,none⟩ (.pointer (some ⟨b,0,none⟩)))
 idle: ∀f,A.idle f=true→(∀args w,(callFunc f args).run P w= .ok (.enter f args) w)∧
  ∀args w,CallsD P f args .returning w fun e u' w'=>(∃v,e= .returned v)∧u'= .returning∧w'=w
 nz: ∀f e,A.nz f=some e→Dj P f e
theorem iW.here {P:Program} {A:cF} (h:iW P A) (f id:Nat):iW P (A.here f id):=⟨h.count,h.ext,h.idle,h.nz⟩
def yv (E:FuncId→Bool) (d:Deferred):Prop:= ∃f cap,d.target= .fn (.func f) cap∧E f=true
theorem H5 {P:Program} {A:cF} (hP:iW P A) {fn:Func} {tmps:Array Value} {R:Ending→World→Prop} {w:World} {v:Value} (hv:(results fn tmps).run P w= .ok v w) (hR:R (.returned v) w):
  ∀ds:List Deferred,(∀d∈ds,yv A.idle d)→Leaves P fn tmps R ds .returning w
 | [],_=>⟨v,hv,hR⟩
 | d::ds,h=>by
  obtain ⟨f,cap,ht,hf⟩:=h d (by simp)
  obtain ⟨k1,k2⟩:=hP.idle f hf
  obtain ⟨t,OP⟩:=d
  simp only at ht
  subst ht
  refine leaves_cons (f:=f) (args:=OP++cap) (by simp) ?_ ?_
  ·simp only[invoke];exact k1 _ w
  ·refine (k2 (OP++cap) w).mono fun e u' w' hr=> ?_
   obtain ⟨⟨v',rfl⟩,rfl,rfl⟩:=hr
   exact H5 hP hv hR ds fun d hd=>h d (List.mem_cons_of_mem _ hd)
def yw (P:Program) (A:cF) (o:Oper) (a:Act) (w:World) (I:Nat→Prop) (β:Nat→Option Nat) (hp:Nat→Option aj) (B:Nat) (M:Nat→Prop) (w0:Start) (r:R):Prop:=
 ∀(next:Act→World→Prop) (Q:Exit→Act→World→Prop),
  (∀v w' I' au ds,Le P w I β hp w' I' au (bL hp r.upd)→aE P w' I' au (bL hp r.upd) B M w0→an P w' I' au (bL hp r.upd) v r.v→(∀d∈ds,d∈a.defers∨yv A.idle d)→next ({a with defers:=ds}.put o.dst v) w')→o.wp P a w next Q
theorem oR.step {o:Oper} {a:Act} {r:R} (h:oR P ((execOp a.eval o).run P w) w I β hp B M w0 r):yw P A o a w I β hp B M w0 r:=by
 obtain ⟨v,w',I',au,h1,h2,h3,h4⟩:=h
 intro next Q hn
 unfold Oper.wp
 rcases h1 with h1|⟨h1,rfl⟩
 ·rw[h1];exact hn v w' I' au a.defers h2 h3 h4 fun d hd=> .inl hd
 ·rw[h1];exact hn _ w' I' au a.defers h2 h3 h4 fun d hd=> .inl hd
theorem OQ: ∀(l:List (Nat × VS)),nB l=qZ (l.map (·.2))
 | []=>rfl
 | (_,s)::l=>by simp only[nB,List.map_cons,qZ,OQ l]
theorem Yx (hC:ki P A C) (S:aE P w I β hp B M w0) (hg:gz P A.aD w I) {vals:List Value} {args:List V} {nb key:Nat} {f:FuncId} {r:R} {rd:List Nat} (hlen:vals.length=args.length)
  (cH: ∀(j:Nat) v x,vals[j]? =some v→args[j]? =some x→an P w I β hp v x) (h:(xu P A nb key f args).run C hp=some (r,rd)):
  ∃fn c,P.funcs[f]? =some fn∧fn.body=some c∧Calls P f vals.toArray w fun e w'=> ∃v I' au,e= .returned v∧Le P w I β hp w' I' au (bL hp r.upd)∧aE P w' I' au (bL hp r.upd) B M w0∧an P w' I' au (bL hp r.upd) v r.v:=by
 unfold xu at h
 obtain ⟨OR,h0⟩:=aF h
 clear h
 rw[Nat.beq_eq] at OR
 subst OR
 obtain ⟨h1,iU,d1,u1,a1,a2,a3,a5,a4⟩:=HW S h0 hlen cH
 obtain ⟨h2,rz,d2,u2,b1,b2,b3,b4⟩:=Ov S a1
 clear h0 a1
 obtain ⟨hc,h3⟩:=aF b1
 clear b1
 simp only[Bool.and_eq_true,Nat.beq_eq,Bool.not_eq_true'] at hc
 obtain ⟨eU,nY⟩:=hc
 have rB:=a2.trans b2
 have kF:h2.ds=d1++d2:=by have:=rB.ds;simpa using this
 have Dk:h2.upd=u1++u2:=by have:=rB.upd;simpa using this
 have jO:(h2.pl.map Place.id).Nodup:=rB.nodup (by simp)
 obtain ⟨c1,o,c2,c3⟩:=b4 []
 simp only[List.append_nil] at c1 c2 c3
 cases yx:C key h2.ds with
 | none=>
  simp only[Rd.run,yx] at h3
  cases h3
 | some es=>
  have nH: ∃eW,(xt P (A.so key es) nb h2 (A.lv key es)).run C hp=some (r,eW):=by
   obtain ⟨x,hx,e⟩:=bind_some h3
   rw[yx] at hx
   cases hx
   unfold cF.so cF.lv
   cases ca:A.alt key with
   | none=>rw[ca] at e;exact ⟨_,e⟩
   | some S2=>
    rw[ca] at e
    simp only[Rd.run] at e
    cases hb:(V.nth es 0).toBool<;>(rw[hb] at e;exact ⟨_,e⟩)
  clear h3
  obtain ⟨eW,h3⟩:=nH
  unfold xt at h3
  simp only at h3
  generalize gB:eJ (A.so key es).aZ ((A.lv key es).drop (nB (A.so key es).bI))=bs at h3
  generalize p8:h2.pl++q0 nb (bs.length-h2.pl.length)=σ at h3
  generalize yu:pH σ nb (bs.drop h2.pl.length)=fr at h3
  obtain ⟨p0,bk,rd4,p1,p2,_,p3⟩:=OC h3
  obtain ⟨rA,rd5,p4⟩:=OF p1
  obtain rfl:=aK p4
  have pO:h2.pl.length≤bs.length:=by rw[List.length_take] at p0;omega
  have Dh: ∀q∈bk,∃(j:Nat) (b:aj),h2.pl[j]? =some (.blk q.1)∧bs[j]? =some b∧gb σ b q.2∧yr hp q:=by
   intro q hq
   rcases p2 q hq with hx|⟨j,b,k1,k2,k3,k4⟩
   ·simp at hx
   ·have hj:=(List.getElem?_eq_some_iff.1 k1).1
    rw[List.getElem?_take_of_lt hj] at k2
    exact ⟨j,b,k1,k2,k3,k4⟩
  obtain ⟨fn,c,hf,hb,H6⟩:=hC key h2.ds es yx
  refine ⟨fn,c,hf,hb,?_⟩
  have Yy:eJ (A.sin key).aZ (h2.ds.drop (nB (A.sin key).bI))=eJ (A.sin key).aZ d2:=by
   rw[kF,OQ,mM a3]
  have H7:(bn (A.sin key) h2.ds).hp=jc (eJ (A.sin key).aZ d2):=by
   simp only[bn,mk,Yy]
  have hl: ∀j blk,(bn (A.sin key) h2.ds).hp j=some blk→∃p,dZ h2.pl j=some p∧dX P w β hp p (o j) blk:=by
   intro j blk hj
   rw[H7,gE] at hj
   obtain ⟨p,k1,k2⟩:=c2 j blk hj
   rw[Nat.zero_add] at k1
   exact ⟨p,k1,k2⟩
  have hd: ∀j,j<h2.pl.length→∃blk,(bn (A.sin key) h2.ds).hp j=some blk:=by
   intro j hj
   rw[H7,gE]
   exact ⟨_,List.getElem?_eq_getElem (by rw[c1,←eU];exact hj)⟩
  have OS:yn P w β hp h2.pl o (bn (A.sin key) h2.ds).hp:=by
   intro j p hj
   obtain ⟨blk,k1⟩:=hd j (by rw[kS] at hj;exact (List.getElem?_eq_some_iff.1 hj).1)
   obtain ⟨p',k2,k3⟩:=hl j blk k1
   rw[hj] at k2
   cases k2
   exact ⟨blk,k1,k3⟩
  obtain ⟨pU,S1⟩:=xN S rB.C7
  rw[←Dk] at pU S1
  have i1: ∀b,I b→iw P w I β hp h2.upd b:=fun b h=> .inl h
  have entry:=Yr (hp0:=(bn (A.sin key) h2.ds).hp) S jO nY hl (fun cP j blk hj=>by
   have gk:=hj
   rw[H7,gE] at gk
   exact c3 (iw P w I β hp h2.upd) o _ i1 (fun q hq b hb=> .inr ⟨q,by rw[Dk];exact List.mem_append.2 (.inr hq),hb⟩) h2.pl [] (by simp) OS j blk gk (cP j blk hj)) S1.h.jf
  have Yz:vals.length=(A.sin key).bI.length:=by rw[hlen,←a5];simp
  have ha:=H6 w (iw P w I β hp h2.upd) o vals entry (hg.mono i1 fun _ _=>rfl) Yz fun j v x hj hx=>by
   rw[kF] at hx
   exact (((a4.later b2) (iw P w I β hp h2.upd) o _ i1 (fun q hq b hb=> .inr ⟨q,by rw[Dk];exact hq,hb⟩) h2.pl [] (by simp) OS) d2).2 j v x hj hx
  refine ha.mono fun e w' yz=> ?_
  obtain ⟨v,I2,bX,rfl,ha⟩:=yz
  have vu:(bn (A.so key es) (A.lv key es)).hp=jc bs:=by simp only[bn,mk,gB]
  cases YA:(A.so key es).safe P with
  | true=>
   simp only[cond_true,List.append_nil]
   have iS: ∀b,I b→I2 b:=fun b h=>ha.le.dq b (i1 b h)
   obtain ⟨s1,s2⟩:=Yu YA iS ha.vo i1
   have vp:kh w I o (bn (A.sin key) h2.ds).hp w' I bX (jc bs):=by
    rw[←vu]
    exact ⟨fun _ h=>h,fun b h=>ha.le.b9 b (i1 b h),ha.le.blk,ha.le.size⟩
   obtain ⟨au,k1,k2,k3⟩:=OK S p8.symm yu.symm jO pO p3 Dh hl hd (by rw[←vu];exact ⟨s1.h,s1.b9,s1.size,fun b h=> .inl h,s1.io⟩) vp rA
   exact ⟨v,I,au,rfl,k1,k2,k3.val (by have:=s2 v ha.res;rw[vu] at this;exact this)⟩
  | false=>
   simp only[cond_false]
   rw[←List.append_assoc,OO]
   have n0: ∀p∈h2.pl,bL hp h2.upd p.id=hp p.id:=fun p hp=>th fun q hq e=>
    Dd nY (List.mem_map.2 ⟨q,hq,rfl⟩) (e▸List.mem_map.2 ⟨p,hp,rfl⟩)
   have YB: ∀q∈bk,∃(j:Nat) (b:aj),h2.pl[j]? =some (.blk q.1)∧bs[j]? =some b∧gb σ b q.2∧yr (bL hp h2.upd) q:=by
    intro q hq
    obtain ⟨j,b,k1,k2,k3,k4⟩:=Dh q hq
    refine ⟨j,b,k1,k2,k3,fun hn=> ?_⟩
    have:=n0 _ (List.mem_of_getElem? k1)
    simp only[Place.id] at this
    rw[this]
    exact k4 hn
   have uS: ∀j blk,(bn (A.sin key) h2.ds).hp j=some blk→∃p,dZ h2.pl j=some p∧dX P w β (bL hp h2.upd) p (o j) blk:=by
    intro j blk hj
    obtain ⟨p,k1,k2⟩:=hl j blk hj
    exact ⟨p,k1,k2.other (n0 p (by rw[kS] at k1;exact List.mem_of_getElem? k1))⟩
   have YC: ∀q∈fr,bL hp h2.upd q.1=none:=by
    intro q hq
    rw[th fun q' bY e=> ?_]
    ·exact rA q hq
    ·obtain ⟨e1,cj,_,h5⟩:=rB.C7 q' (Dk▸bY)
     rw[e,rA q hq] at h5
     rcases h5 with ⟨_,h5⟩|⟨_,h5⟩<;>cases h5
   obtain ⟨au,k1,k2,k3⟩:=OK S1 p8.symm yu.symm jO pO p3 YB uS hd (by rw[←vu];exact ha.vo) (by rw[←vu];exact ha.le) YC
   exact ⟨v,I2,au,rfl,pU.trans k1,k2,k3.val (by have:=ha.res;rw[vu] at this;exact this)⟩
theorem OT (hC:ki P A C) (hP:iW P A) (S:aE P w I β hp B M w0) (hg:gz P A.aD w I) {a:Act} {nb key:Nat} {o:Oper} {f:FuncId} {vals:List Value} {args:List V} (hlen:vals.length=args.length)
  (cH: ∀(j:Nat) v x,vals[j]? =some v→args[j]? =some x→an P w I β hp v x) {r:R} {rd:List Nat} (h:(xu P A nb key f args).run C hp=some (r,rd))
  (hex:(execOp a.eval o).run P w=(callFunc f vals.toArray).run P w):yw P A o a w I β hp B M w0 r:=by
 intro next Q hn
 obtain ⟨fn,c,hf,hb,H6⟩:=Yx hC S hg hlen cH h
 unfold Oper.wp
 rw[hex,MuLone.run_callFunc_enter hf (hP.count f _ hf) hb,Oper.upon_enter]
 refine H6.mono fun e w' yz=> ?_
 obtain ⟨v,I2,bX,rfl,k1,k2,k3⟩:=yz
 exact hn v w' I2 bX a.defers k1 k2 k3 fun d hd=> .inl hd
theorem j8.args {a:Act} {sl:Nat→V} (hs:j8 P w I β hp a sl) (hg:gz P A.aD w I) {args:Array Operand} {ts:Array TypeId} (a8:args.size=ts.size):
  (args.map a.eval).toList.length=((args.toList.zip ts.toList).map fun p=>aL P A.aD p.2 sl p.1).length∧
  ∀(j:Nat) v x,(args.map a.eval).toList[j]? =some v→((args.toList.zip ts.toList).map fun p=>aL P A.aD p.2 sl p.1)[j]? =some x→an P w I β hp v x:=by
 refine ⟨by simp;omega,fun j v x hv hx=> ?_⟩
 simp only[Array.toList_map,List.getElem?_map,List.getElem?_zip_eq_some,Option.map_eq_some_iff] at hv hx
 obtain ⟨x1,yA,rfl⟩:=hv
 obtain ⟨⟨y1,t1⟩,⟨H8,_⟩,rfl⟩:=hx
 rw[yA] at H8
 cases H8
 exact hs.ev hg t1 _
theorem OU {vs us:List Value} {xs ys:List V} (h1:vs.length=xs.length) (h2: ∀(j:Nat) v x,vs[j]? =some v→xs[j]? =some x→an P w I β hp v x)
  (h3: ∀(j:Nat) v x,us[j]? =some v→ys[j]? =some x→an P w I β hp v x) (j:Nat) (v:Value) (x:V) (hv:(vs++us)[j]? =some v) (hx:(xs++ys)[j]? =some x):an P w I β hp v x:=by
 by_cases hj:j<vs.length
 ·rw[List.getElem?_append_left hj] at hv
  rw[List.getElem?_append_left (by omega)] at hx
  exact h2 j v x hv hx
 ·rw[List.getElem?_append_right (by omega)] at hv
  rw[List.getElem?_append_right (by omega)] at hx
  rw[h1] at hv
  exact h3 _ v x hv hx
theorem YD (hP:iW P A) (S:aE P w I β hp B M w0) (hg:gz P A.aD w I) {a:Act} {sl:Nat→V} (hs:j8 P w I β hp a sl) {dst:Option Tmp} {ty e:TypeId} {pos:String} {after:Array Edge} {guard:Option (Nat × Bool)} {f:FuncId}
  {args:Array Operand} {argTypes:Array TypeId} {nb:Nat} {r:R} {rd:List Nat} (jM:A.nz f=some e)
  (h:((match args.toList with
    | [x]=> .aB (cQ P e) (qX e (aL P A.aD ty sl x) fun xs=> .aB (Nat.ble (xs.length*P.bytesOf e) bA) (iL nb (.arr e xs false) (.whole e nb) []))
    | _=> .fail):Rd R).run C hp=some (r,rd)):yw P A (Oper.mk dst (.call (Go.Call.mk (.value (.func f)) args argTypes)) ty pos after guard) a w I β hp B M w0 r:=by
 cases ha:args.toList with
 | nil=>rw[ha] at h;cases h
 | cons x l=>
  rw[ha] at h
  cases l with
  | cons _ _=>cases h
  | nil=>
   simp only at h
   have e1:args= #[x]:=by rw[←Array.toArray_toList (xs:=args),ha]
   subst e1
   have hx:=hs.ev hg ty x
   obtain ⟨ax,h⟩:=aF h
   have fin: ∀{w1:World} {Dl:Nat→Option Nat},(∀id blk,hp id=some blk→dV P w1 I Dl hp (Dl id) blk)→an P w1 I Dl hp (a.eval x) (aL P A.aD ty sl x)→∃xs,(((∃a',a.eval x= .slice a' 0 0)∧xs=[])∨∃a' c news,Row P w1 I e (a.eval x) xs a' c news)∧
     xs.length*P.bytesOf e≤bA∧hp nb=none∧r=⟨.whole e nb,[(nb,.arr e xs false)]⟩:=by
    intro w1 Dl h1 h2
    obtain ⟨xs,kR,l,h⟩:=CN h1 ax h2 h
    obtain ⟨eD,h⟩:=aF h
    rw[Nat.ble_eq] at eD
    obtain ⟨hn,rfl⟩:=mJ h
    exact ⟨xs,kR,eD,hn,rfl⟩
   obtain ⟨c1,t,hu,c2⟩:=hP.nz f e jM
   intro next Q vw
   unfold Oper.wp
   have e2:(execOp a.eval ⟨dst,.call ⟨.value (.func f),#[x],argTypes⟩,ty,pos,after,guard⟩).run P w= .ok (.enter f #[a.eval x]) w:=by
    have eX:a.eval (.func f)= .func (.func f) #[] #[]:=rfl
    simpa[execOp,resolve,eX,Deferred.ofValue,invoke] using c1 #[a.eval x] w
   rw[e2,Oper.upon_enter]
   refine c2 _ w _ (fun yB=> ?_) (fun b n c va=> ?_) ?_
   ·obtain ⟨xs,kR,eD,hn,rfl⟩:=fin S.h.rel hx
    have gl:xs=[]:=by
     rcases kR with ⟨_,h⟩|⟨a,c,news,hr⟩
     ·exact h
     ·have:=hr.val.symm.trans yB
      cases this
    subst gl
    obtain ⟨a1,a2⟩:=Cr S e hn
    exact vw _ w I _ a.defers a1 a2 (.dK (cU _ _ _) (cU _ _ _)) fun d hd=> .inl hd
   ·obtain ⟨m1,m2⟩:=Wf (w':=w.alloc (.cells #[] e)) S (fun b hb=>heap_alloc_old w _ b hb) (by simp) ⟨rfl,rfl⟩
    obtain ⟨xs,kR,eD,hn,rfl⟩:=fin m2.h.rel (hx.mono m1)
    obtain ⟨v,w',au,a1,a2,a3,a4⟩:=Hr (ty:=t) (a0:=some ⟨w.heap.size,0,none⟩) m2 hu ax hn eD kR
    exact ⟨v,w',a1,vw v w' I au a.defers (m1.trans a2) a3 a4 fun d hd=> .inl hd⟩
   ·obtain ⟨xs,kR,eD,hn,rfl⟩:=fin S.h.rel hx
    rcases kR with ⟨⟨b,h⟩,_⟩|⟨b,c,news,hr⟩
    ·rw[h]
     cases b with
     | none=>exact .inl rfl
     | some b=>exact .inr ⟨_,_,_,rfl⟩
    ·exact .inr ⟨_,_,_,hr.val⟩
theorem YE (hP:iW P A) (S:aE P w I β hp B M w0) (hg:gz P A.aD w I) {a:Act} {sl:Nat→V} (hs:j8 P w I β hp a sl) {dst:Option Tmp} {ty T0:TypeId} {pos:String} {after:Array Edge} {guard:Option (Nat × Bool)} {f:FuncId}
  {args:Array Operand} {argTypes:Array TypeId} {r:R} {rd:List Nat} (yC:A.ext f=some T0)
  (h:((match args.toList with
   | [x]=>
    match aL P A.aD ty sl x with
    | .ptr id i c=>Rd.get id fun
     | some (.var T cs)=> .aB (Nat.beq T T0&&(oJ P T&&(Nat.beq cs.length (P.cellsOf T)&&(Nat.beq i 0&&Nat.beq c 0)))) (.ret ⟨.bf [],[(id,.var T (.undef::cs.tail))]⟩)
     | _=> .fail
    | _=> .fail
   | _=> .fail):Rd R).run C hp=some (r,rd)):yw P A (Oper.mk dst (.call (Go.Call.mk (.value (.func f)) args argTypes)) ty pos after guard) a w I β hp B M w0 r:=by
 cases ha:args.toList with
 | nil=>rw[ha] at h;cases h
 | cons x l=>
  rw[ha] at h
  cases l with
  | cons _ _=>cases h
  | nil=>
   simp only at h
   have e1:args= #[x]:=by rw[←Array.toArray_toList (xs:=args),ha]
   subst e1
   have hx:=hs.ev hg ty x
   cases fk:aL P A.aD ty sl x<;>rw[fk] at h hx<;>simp only at h<;>first|(cases h;done)|skip
   rename_i id i c
   obtain ⟨l,h1⟩:=run_get h
   cases aa:hp id with
   | none=>rw[aa] at h1;cases h1
   | some blk=>
    rw[aa] at h1
    cases blk<;>simp only at h1<;>first|(cases h1;done)|skip
    rename_i T cs
    obtain ⟨h2,h3⟩:=aF h1
    simp only[Bool.and_eq_true,Nat.beq_eq] at h2
    obtain ⟨rfl,bJ,YF,rfl,rfl⟩:=h2
    obtain rfl:=aK h3
    obtain ⟨b,hb,he⟩:=hx.gC aa (by simp)
    have hr:=S.h.rel id _ aa
    rw[hb] at hr
    cases hr with
    | @var _ b' Ca _ az hh a8 hI gl fY=>
     cases az
     have sY:a.eval x= .pointer (some ⟨b,0,none⟩):=by rw[he];simp[aj.sz]
     obtain ⟨q1,q2⟩:=hP.ext f T yC b Ca w hh (a8.trans YF) (fY bJ)
     have h0:0<Ca.size:=by
      rcases fY bJ with k|k<;>exact (Array.getElem?_eq_some_iff.1 k).1
     have nM:(V.undef::cs.tail).length=cs.length:=by
      cases cs with
      | nil=>rw[a8] at h0;simp at h0
      | cons _ _=>rfl
     have rel: ∀(C':Array Value),(∀j,0<j→C'[j]? =Ca[j]?)→∀(j:Nat) v y,C'[j]? =some v→(V.undef::cs.tail)[j]? =some y→an P w I β hp v y:=by
      intro C' vd j v y hj hy
      cases j with
      | zero=>simp at hy;subst hy;exact .undef
      | succ j=>
       rw[vd _ (by omega)] at hj
       refine gl (j+1) v y hj ?_
       cases cs with
       | nil=>rw[a8] at h0;simp at h0
       | cons _ _=>simpa using hy
     have fin: ∀w' C',(∀b',b'≠b→w'.heap[b']? =w.heap[b']?)→w'.heap[b]? =some (.cells C' T (0,0))→C'.size=Ca.size→w.heap.size≤w'.heap.size→w'.os=w.os∧w'.output=w.output→
       (∀j,0<j→C'[j]? =Ca[j]?)→(C'[0]? =some (.pointer none)∨C'[0]? =some (.pointer (some ⟨b,0,none⟩)))→
       Le P w I β hp w' I β (aH hp id (some (.var T (V.undef::cs.tail))))∧aE P w' I β (aH hp id (some (.var T (V.undef::cs.tail)))) B M w0:=by
      intro w' C' k1 k2 k3 k4 k5 k6 k7
      exact Ct (w':=w') (blk':= .var T (V.undef::cs.tail)) S aa (by simp) rfl hb hI (by simp) k1 (by rw[mB k2,mB hh,k3]) k4 k5 fun hle=>
       .var rfl k2 (by rw[k3,a8,nM]) hI (fun j v y hj hy=>(rel C' k6 j v y hj hy).mono hle) fun _=>k7
     intro next Q hn
     unfold Oper.wp
     have e2:(execOp a.eval ⟨dst,.call ⟨.value (.func f),#[x],argTypes⟩,ty,pos,after,guard⟩).run P w= .ok (.enter f #[.pointer (some ⟨b,0,none⟩)]) w:=by
      have eX:a.eval (.func f)= .func (.func f) #[] #[]:=rfl
      simpa[execOp,resolve,eX,Deferred.ofValue,invoke,sY] using q1
     rw[e2,Oper.upon_enter]
     refine q2.mono fun e w' yz=> ?_
     obtain ⟨rfl,hw⟩:=yz
     have OV:Le P w I β hp w' I β (aH hp id (some (.var T (V.undef::cs.tail))))∧aE P w' I β (aH hp id (some (.var T (V.undef::cs.tail)))) B M w0:=by
      rcases hw with rfl|rfl
      ·exact fin w' Ca (fun _ _=>rfl) hh rfl (Nat.le_refl _) ⟨rfl,rfl⟩ (fun _ _=>rfl) (fY bJ)
      ·refine fin (w.setCell ⟨b,0,none⟩ (.pointer (some ⟨b,0,none⟩))) (Ca.setIfInBounds 0 (.pointer (some ⟨b,0,none⟩))) (fun b' bM=> ?_) ?_ (by simp) (by simp[World.setCell]) ⟨rfl,rfl⟩ (fun j hj=> ?_) (.inr ?_)
       ·simp only[World.setCell,Array.getElem?_modify]
        rw[if_neg (fun e=>bM e.symm)]
       ·simp[World.setCell,Array.getElem?_modify,hh]
       ·rw[Array.getElem?_setIfInBounds_ne (by omega)]
       ·rw[Array.getElem?_setIfInBounds_self_of_lt h0]
     exact hn (.tuple #[]) w' I β a.defers OV.1 OV.2 (.bf rfl fun j v y hj _=>by simp at hj) fun d hd=> .inl hd
theorem YG (hC:ki P A C) (hP:iW P A) (S:aE P w I β hp B M w0) (hg:gz P A.aD w I) {a:Act} {sl:Nat→V} (hs:j8 P w I β hp a sl) {ix nb:Nat} {o:Oper} {r:R} {rd:List Nat}
  (h:(fw P A sl ix nb o).run C hp=some (r,rd)):yw P A o a w I β hp B M w0 r:=by
 cases hc:HN o.op with
 | false=>exact (X6 S hg hs hc h).step
 | true=>
  obtain ⟨dst,op,ty,pos,after,guard⟩:=o
  cases op<;>simp only[HN] at hc<;>first|(cases hc;done)|skip
  case defer c=>
   obtain ⟨callee,args,argTypes⟩:=c
   cases callee with
   | invoke r m=>simp only[fw] at h;cases h
   | builtin b=>simp only[fw] at h;cases h
   | value f=>
   cases f with
   | tmp t=>
    simp only[fw] at h
    cases bJ:sl t<;>rw[bJ] at h<;>simp only at h<;>first|(cases h;done)|skip
    rename_i f xs ys
    obtain ⟨h1,h2⟩:=aF h
    obtain rfl:=aK h2
    have hv:=hs t
    rw[bJ] at hv
    generalize s8:a.tmps.getD t undef=vt at hv
    cases hv with
    | @fn _ fs cs _ _ q1 q2 q3 q4=>
     intro next Q hn
     unfold Oper.wp
     have eX:a.eval (.tmp t)= .func (.func f) fs cs:=s8
     have e1:(execOp a.eval ⟨dst,.defer ⟨.value (.tmp t),args,argTypes⟩,ty,pos,after,guard⟩).run P w= .ok (.defer {target:= .fn (.func f) cs,args:=fs++args.map a.eval}) w:=by
      simp[execOp,resolve,eX,Deferred.ofValue]
     rw[e1,Oper.upon_defer]
     exact hn undef w I β _ (Le.refl w I β hp) S .undef fun d hd=>by
      rcases List.mem_cons.1 hd with rfl|hd
      ·exact .inr ⟨f,cs,rfl,h1⟩
      ·exact .inl hd
   | func f=>simp only[fw] at h;cases h
   | const _=>simp only[fw] at h;cases h
   | global _=>simp only[fw] at h;cases h
  rename_i c
  obtain ⟨callee,args,argTypes⟩:=c
  cases callee with
  | invoke r m=>cases hc
  | builtin b=>cases hc
  | value f=>
   cases f with
   | func f=>
    simp only[fw] at h
    cases yC:A.ext f with
    | some T0=>
     rw[yC] at h
     simp only at h
     exact YE hP S hg hs yC h
    | none=>
    rw[yC] at h
    simp only at h
    cases jM:A.nz f with
    | some e0=>
     rw[jM] at h
     simp only at h
     exact YD hP S hg hs jM h
    | none=>
    rw[jM] at h
    simp only at h
    obtain ⟨h1,h2⟩:=aF h
    rw[Nat.beq_eq] at h1
    obtain ⟨k1,k2⟩:=hs.args hg h1
    refine OT hC hP S hg k1 k2 h2 ?_
    have e1:(args.map a.eval).toList.toArray=args.map a.eval:=Array.toArray_toList
    rw[e1]
    simp[execOp,resolve,Act.eval,Deferred.ofValue,invoke]
   | tmp t=>
    simp only[fw] at h
    cases bJ:sl t<;>rw[bJ] at h<;>simp only at h<;>first|(cases h;done)|skip
    rename_i f xs ys
    obtain ⟨h1,h2⟩:=aF h
    rw[Nat.beq_eq] at h1
    obtain ⟨k1,k2⟩:=hs.args hg h1
    have hv:=hs t
    rw[bJ] at hv
    generalize s8:a.tmps.getD t undef=vt at hv
    cases hv with
    | @fn _ fs cs _ _ q1 q2 q3 q4=>
     have l1:fs.toList.length=xs.length:=by simpa using q1
     have l3:cs.toList.length=ys.length:=by simpa using q3
     have r1: ∀(j:Nat) v x,fs.toList[j]? =some v→xs[j]? =some x→an P w I β hp v x:=fun j v x hj hx=>q2 j v x (by simpa using hj) hx
     have r3: ∀(j:Nat) v x,cs.toList[j]? =some v→ys[j]? =some x→an P w I β hp v x:=fun j v x hj hx=>q4 j v x (by simpa using hj) hx
     refine OT hC hP S hg (vals:=fs.toList++(args.map a.eval).toList++cs.toList) (args:=xs++((args.toList.zip argTypes.toList).map fun p=>aL P A.aD p.2 sl p.1)++ys) (by simp only[List.length_append];omega) ?_ h2 ?_
     ·exact OU (by simp only[List.length_append];omega) (OU l1 r1 k2) r3
     ·have e1:(fs.toList++(args.map a.eval).toList++cs.toList).toArray=fs++args.map a.eval++cs:=by
       apply Array.toList_inj.1;simp
      rw[e1]
      have eX:a.eval (.tmp t)= .func (.func f) fs cs:=s8
      simp[execOp,resolve,eX,Deferred.ofValue,invoke]
   | _=>cases hc
end
end Go.AM
namespace Go.AM
section
variable {P:Program} {A:cF} {w w':World} {I I' I2:Nat→Prop} {μ β au:Nat→Option Nat} {hp hp':Nat→Option aj} {C:ag} {B:Nat} {M:Nat→Prop} {w0:Start}
structure iD (P:Program) (E:FuncId→Bool) (G:Nat→V) (w:World) (I:Nat→Prop) (β:Nat→Option Nat) (n:Nat) (a:Act) (st:St):Prop where
 sl:j8 P w I β st.hp a st.sl
 size:a.tmps.size=n
 defers: ∀d∈a.defers,yv E d
 aD:gz P G w I
theorem H9 {E:FuncId→Bool} {G:Nat→V} {n:Nat} {a:Act} {st:St} {o:Oper} {v:Value} {x:V} {hp':Nat→Option aj} {ds:List Deferred} (h:iD P E G w I β n a st) (hle:Le P w I β st.hp w' I' au hp') (hd:ra o n=true)
  (hv:an P w' I' au hp' v x) (kF: ∀d∈ds,d∈a.defers∨yv E d):iD P E G w' I' au n ({a with defers:=ds}.put o.dst v) ⟨gN st.sl o.dst x,hp',st.nb⟩:=by
 have OW: ∀d∈ds,yv E d:=fun d hd=>(kF d hd).elim (h.defers d) id
 cases YH:o.dst with
 | none=>exact ⟨fun k=>(h.sl k).mono hle,h.size,OW,h.aD.mono hle.dq hle.b9⟩
 | some d=>
  have aS:d<a.tmps.size:=by
   unfold ra at hd
   rw[YH] at hd
   rw[h.size]
   simpa using hd
  refine ⟨fun k=> ?_,by simp[Act.put,h.size],OW,h.aD.mono hle.dq hle.b9⟩
  simp only[Act.put,gN,aH]
  cases hb:Nat.beq k d with
  | true=>
   rw[Nat.beq_eq] at hb
   subst hb
   simpa[aS] using hv
  | false=>
   have bM:d≠k:=fun e=>by rw[e,Nat.beq_refl] at hb;cases hb
   have:=(h.sl k).mono hle
   simpa[Array.getElem?_setIfInBounds_ne bM] using this
theorem OX {E:FuncId→Bool} {G:Nat→V} {n:Nat} {a:Act} {st:St} {d:Nat} {b:Bool} (h:iD P E G w I β n a st) (hd:st.sl d= .bool b):a.tmps[d]? =some (.bool b):=by
 have:=h.sl d
 rw[hd] at this
 have:=this.ji
 cases ht:a.tmps[d]? with
 | none=>simp[ht] at this;cases this
 | some v=>simp[ht] at this;rw[this]
theorem YI {x:V} {b:Bool} (h:kG x=some (some b)):x= .bool b:=by
 cases x with
 | bool c=>simp only[kG] at h;injection h with h;injection h with h;rw[h]
 | bf vs=>cases vs<;>simp[kG] at h
 | _=>simp[kG] at h
theorem YJ {x:V} (h:kG x=some none):x= .bf []:=by
 cases x with
 | bf vs=>cases vs with
  | nil=>rfl
  | cons _ _=>simp[kG] at h
 | bool c=>simp[kG] at h
 | _=>simp[kG] at h
theorem an.YK {v:Value} (h:an P w I β hp v (.bf [])):v= .tuple #[]:=by
 cases h with
 | @bf cs _ hs _=>
  have:cs= #[]:=by
   apply Array.eq_empty_of_size_eq_zero
   simpa using hs
  rw[this]
theorem an.OY:an P w I β hp Go.undef (.bf []):= .bf (by rfl) (fun j v x _ hx=>by simp at hx)
theorem OZ (hC:ki P A C) (hP:iW P A) {ops:Array Oper} {n i nb:Nat} {o:Oper} (ho:ops[i]? =some o) {a:Act} {st st':St} {R W:List Nat} (S:aE P w I β st.hp B M w0) (hA:iD P A.idle A.aD w I β n a st)
  (h:gx P A C n ops i o nb st=some (st',R,W)) {K:Act→World→Prop} {Q:Exit→Act→World→Prop}
  (hK: ∀a' w' I' au,Le P w I β st.hp w' I' au st'.hp→aE P w' I' au st'.hp B M w0→iD P A.idle A.aD w' I' au n a' st'→K a' w'):wpOp P ops Q i K a w:=by
 unfold gx at h
 cases hd:ra o n with
 | false=>rw[hd] at h;cases h
 | true=>
  rw[hd] at h
  simp only[cond_true] at h
  have go: ∀{Ia:St} {R W:List Nat},(((fw P A st.sl i (nb+64*i) o).run C st.hp).bind fun r=>some ((⟨gN st.sl o.dst r.1.v,bL st.hp r.1.upd,st.nb⟩:St),r.2,r.1.upd.map (·.1)))=some (Ia,R,W)→Ia=st'→
    o.wp P a w K Q:=by
   intro Ia R W h e
   obtain ⟨⟨r,rd⟩,h1,h2⟩:=bind_some h
   cases h2
   subst e
   exact YG hC hP S hA.aD hA.sl h1 K Q fun v w' I' au ds k1 k2 k3 k4=>hK _ w' I' au k1 k2 (H9 hA k1 hd k3 k4)
  unfold wpOp
  rw[ho]
  simp only
  cases hg:o.guard with
  | none=>
   rw[hg] at h
   simp only[Region.wanted,hg,if_true]
   exact .inl (go h rfl)
  | some gw=>
   obtain ⟨g,want⟩:=gw
   rw[hg] at h
   simp only at h
   cases kT:(ops[g]?).bind (·.dst) with
   | none=>rw[kT] at h;cases h
   | some d=>
    rw[kT] at h
    simp only at h
    cases lS:kG (st.sl d) with
    | none=>rw[lS] at h;cases h
    | some ob=>
    rw[lS] at h
    cases ob with
    | none=>
     have va:=YJ lS
     have hy:yielded ops a.tmps g=none:=by
      unfold yielded
      rw[kT]
      have:=hA.sl d
      rw[va] at this
      have hu:=an.YK this
      simp only[Option.bind_some]
      cases ht:a.tmps[d]? with
      | none=>rfl
      | some v=>simp[ht] at hu;subst hu;rfl
     simp only[Region.wanted,hg,hy]
     injection h with h
     injection h with h3 h4
     subst h3
     have h2:((none:Option Bool)==some want)=false:=rfl
     simp only[h2,Bool.false_eq_true,if_false]
     exact hK _ w I β (Le.refl w I β st.hp) S (H9 (ds:=a.defers) hA (Le.refl w I β st.hp) hd an.OY fun d h=> .inl h)
    | some b=>
    simp only at h
    have va:=YI lS
    have hy:yielded ops a.tmps g=some b:=by
     unfold yielded
     rw[kT]
     simp only[Option.bind_some,OX hA va]
    simp only[Region.wanted,hg,hy]
    by_cases hb:b=want
    ·subst hb
     simp only[beq_self_eq_true,cond_true] at h
     simp only[beq_self_eq_true,if_true]
     exact .inl (go h rfl)
    ·have h1:(b==want)=false:=by simp[hb]
     have h2:(some b==some want)=false:=by simp[hb]
     rw[h1] at h
     simp only[cond_false] at h
     injection h with h
     injection h with h3 h4
     subst h3
     simp only[h2,Bool.false_eq_true,if_false]
     exact hK _ w I β (Le.refl w I β st.hp) S (H9 (ds:=a.defers) hA (Le.refl w I β st.hp) hd an.OY fun d h=> .inl h)
theorem ti {α:Type}: ∀{p:Rd α} {r:α} {rd:List Nat},p.run C hp=some (r,rd)→(∀id∈rd,hp' id=hp id)→p.run C hp'=some (r,rd)
 | .ret a,r,rd,h,_=>h
 | .fail,r,rd,h,_=>by cases h
 | .get id k,r,rd,h,he=>by
  obtain ⟨x,h1,h2⟩:=bind_some h
  cases h2
  have e1:hp' id=hp id:=he id (by simp)
  have:=ti (p:=k (hp id)) (r:=x.1) (rd:=x.2) h1 (fun i hi=>he i (by simp[hi]))
  simp only[Rd.run,e1,this,Option.bind_some]
 | .opt o k,r,rd,h,he=>by
  obtain ⟨x,h1,h2⟩:=bind_some h
  simp only[Rd.run,h1,Option.bind_some]
  exact ti h2 he
 | .aB b k,r,rd,h,he=>by
  obtain ⟨h1,h2⟩:=aF h
  simp only[Rd.run,h1,cond_true]
  exact ti h2 he
 | .call key ds k,r,rd,h,he=>by
  obtain ⟨x,h1,h2⟩:=bind_some h
  simp only[Rd.run,h1,Option.bind_some]
  exact ti h2 he
 | .alt true x y,r,rd,h,he=>ti (p:=x) h he
 | .alt false x y,r,rd,h,he=>ti (p:=y) h he
theorem YL {G:Nat→V} {sl sl':Nat→V} {t:TypeId} {x:Operand} (h: ∀k,x= .tmp k→sl k=sl' k):aL P G t sl x=aL P G t sl' x:=by
 cases x with
 | tmp k=>exact h k rfl
 | _=>rfl
theorem YM {sl sl':Nat→V} {ix nb:Nat} {o:Oper} (h: ∀x∈o.op.operands,∀k,x= .tmp k→sl k=sl' k):fw P A sl ix nb o=fw P A sl' ix nb o:=by
 have eX: ∀t x,x∈o.op.operands→aL P A.aD t sl x=aL P A.aD t sl' x:=fun t x hx=>YL (h x hx)
 obtain ⟨dst,op,ty,pos,after,guard⟩:=o
 have O0: ∀(t:TypeId) (ps:Array (Nat × Operand)),(∀x∈ps.map (·.2),aL P A.aD t sl x=aL P A.aD t sl' x)→
   (ps.toList.map fun p=>(p.1,aL P A.aD t sl p.2))=ps.toList.map fun p=>(p.1,aL P A.aD t sl' p.2):=fun t ps hp=>
  List.map_congr_left fun p hm=>by rw[hp p.2 (Array.mem_map.2 ⟨p,Array.mem_toList_iff.1 hm,rfl⟩)]
 have YN: ∀(t:TypeId) (ps:Array (Nat × Operand)),(∀x∈ps.map (·.2),aL P A.aD t sl x=aL P A.aD t sl' x)→
   (ps.toList.map fun p=>(aL P A.aD t sl p.2).cells)=ps.toList.map fun p=>(aL P A.aD t sl' p.2).cells:=fun t ps hp=>
  List.map_congr_left fun p hm=>by rw[hp p.2 (Array.mem_map.2 ⟨p,Array.mem_toList_iff.1 hm,rfl⟩)]
 cases op<;>simp only[Op.operands] at eX<;>simp only[fw]
 case pick c x y=>rw[eX ty c (by simp),eX ty x (by simp),eX ty y (by simp)]
 case build t ps=>rw[O0 ty ps fun x hx=>eX ty x (by simpa using hx),YN ty ps fun x hx=>eX ty x (by simpa using hx)]
 case buildSlice t len ps=>
  split
  ·rename_i e _
   rw[O0 e ps fun x hx=>eX e x (by simpa using hx)]
  ·rfl
 case slice t x lo hi mx=>
  cases mx with
  | some m=>
   have e1:lo.map (aL P A.aD 0 sl)=lo.map (aL P A.aD 0 sl'):=by
    cases lo with
    | none=>rfl
    | some l=>simp only[Option.map_some,eX 0 l (by simp)]
   have e2:hi.map (aL P A.aD 0 sl)=hi.map (aL P A.aD 0 sl'):=by
    cases hi with
    | none=>rfl
    | some l=>simp only[Option.map_some,eX 0 l (by simp)]
   have e3:=eX 0 m (by simp)
   simp only[eX ty x (by simp),e1,e2,e3]
  | none=>
   have e1:lo.map (aL P A.aD 0 sl)=lo.map (aL P A.aD 0 sl'):=by
    cases lo with
    | none=>rfl
    | some l=>simp only[Option.map_some,eX 0 l (by simp)]
   have e2:hi.map (aL P A.aD 0 sl)=hi.map (aL P A.aD 0 sl'):=by
    cases hi with
    | none=>rfl
    | some l=>simp only[Option.map_some,eX 0 l (by simp)]
   simp only[eX ty x (by simp),e1,e2]
 case call c=>
  obtain ⟨callee,args,argTypes⟩:=c
  have tj: ∀t x,x∈args→aL P A.aD t sl x=aL P A.aD t sl' x:=fun t x hx=>eX t x (by simp[Call.operands,hx])
  have hl: ∀t (l:List Operand),(∀x∈l,x∈args)→l.map (aL P A.aD t sl)=l.map (aL P A.aD t sl'):=fun t l hl=>List.map_congr_left fun x hx=>tj t x (hl x hx)
  have hz:((args.toList.zip argTypes.toList).map fun p=>aL P A.aD p.2 sl p.1)=(args.toList.zip argTypes.toList).map fun p=>aL P A.aD p.2 sl' p.1:=
   List.map_congr_left fun p hp=>tj p.2 p.1 (Array.mem_toList_iff.1 (List.of_mem_zip hp).1)
  cases callee with
  | invoke r m=>rfl
  | builtin b=>
   have ca: ∀x∈args.toList,∀t,aL P A.aD t sl x=aL P A.aD t sl' x:=fun x hx t=>tj t x (Array.mem_toList_iff.1 hx)
   have Dm: ∀t (l:List Operand),(∀x∈l,∀t,aL P A.aD t sl x=aL P A.aD t sl' x)→l.map (aL P A.aD t sl)=l.map (aL P A.aD t sl'):=fun t l h=>List.map_congr_left fun x hx=>h x hx t
   cases b<;>first|rfl|skip
   case append=>
    dsimp only
    generalize args.toList=al at ca
    match al,ca,argTypes.toList with
    | [s,x],ca,[t,u]=>simp only[ca s (by simp),ca x (by simp)]
    | [],_,_=>rfl
    | [_],_,_=>rfl
    | _::_::_::_,_,_=>rfl
    | [_,_],_,[]=>rfl
    | [_,_],_,[_]=>rfl
    | [_,_],_,_::_::_::_=>rfl
   case copy=>
    dsimp only
    generalize args.toList=al at ca
    match al,ca,argTypes.toList with
    | [s,x],ca,[t,u]=>simp only[ca s (by simp),ca x (by simp)]
    | [],_,_=>rfl
    | [_],_,_=>rfl
    | _::_::_::_,_,_=>rfl
    | [_,_],_,[]=>rfl
    | [_,_],_,[_]=>rfl
    | [_,_],_,_::_::_::_=>rfl
   case len=>
    dsimp only
    generalize args.toList=al at ca
    match al,ca,argTypes.toList with
    | [x],ca,[t]=>simp only[ca x (by simp)]
    | [],_,_=>rfl
    | _::_::_,_,_=>rfl
    | [_],_,[]=>rfl
    | [_],_,_::_::_=>rfl
   case clear=>
    dsimp only
    generalize args.toList=al at ca
    match al,ca,argTypes.toList with
    | [x],ca,[t]=>simp only[ca x (by simp)]
    | [],_,_=>rfl
    | _::_::_,_,_=>rfl
    | [_],_,[]=>rfl
    | [_],_,_::_::_=>rfl
   case unsafeSliceData=>
    dsimp only
    generalize args.toList=al at ca
    match al,ca with
    | [],_=>rfl
    | [x],ca=>simp only[ca x (by simp)]
    | _::_::_,_=>rfl
   case unsafeString=>
    dsimp only
    generalize args.toList=al at ca
    match al,ca,argTypes.toList with
    | [s,x],ca,[t,u]=>simp only[ca s (by simp),ca x (by simp)]
    | [],_,_=>rfl
    | [_],_,_=>rfl
    | _::_::_::_,_,_=>rfl
    | [_,_],_,[]=>rfl
    | [_,_],_,[_]=>rfl
    | [_,_],_,_::_::_::_=>rfl
   case max=>
    dsimp only
    generalize args.toList=al at ca
    match al,ca with
    | [],_=>rfl
    | x::l,ca=>simp only[ca x (by simp),Dm ty l (fun y hy=>ca y (by simp[hy]))]
   case min=>
    dsimp only
    generalize args.toList=al at ca
    match al,ca with
    | [],_=>rfl
    | x::l,ca=>simp only[ca x (by simp),Dm ty l (fun y hy=>ca y (by simp[hy]))]
  | value f=>
   cases f<;>first|rfl|skip
   ·rename_i t
    have ht:sl t=sl' t:=h (.tmp t) (by simp[Op.operands,Call.operands]) t rfl
    simp only[hz,ht]
   ·simp only[hz]
    cases hx:args.toList with
    | nil=>rfl
    | cons x l=>
     cases l with
     | cons _ _=>rfl
     | nil=>simp only[tj ty x (Array.mem_toList_iff.1 (by rw[hx];simp))]
 case defer c=>
  obtain ⟨callee,args,argTypes⟩:=c
  cases callee with
  | invoke r m=>rfl
  | builtin b=>rfl
  | value f=>
   cases f<;>first|rfl|skip
   rename_i t
   have ht:sl t=sl' t:=h (.tmp t) (by simp[Op.operands,Call.operands]) t rfl
   simp only[ht]
 case makeFunc fn a b=>
  cases fn<;>first|rfl|skip
  have e1:a.toList.map (aL P A.aD ty sl)=a.toList.map (aL P A.aD ty sl'):=List.map_congr_left fun x hx=>eX ty x (by simp[Array.mem_toList_iff.1 hx])
  have e2:b.toList.map (aL P A.aD ty sl)=b.toList.map (aL P A.aD ty sl'):=List.map_congr_left fun x hx=>eX ty x (by simp[Array.mem_toList_iff.1 hx])
  dsimp only
  rw[e1,e2]
 case makeMap t r=>cases r<;>rfl
 all_goals first
  | rfl
  | (simp[eX];done)
end
end Go.AM
namespace Go.AM
section
variable {P:Program} {A:cF} {w w':World} {I I' I2:Nat→Prop} {μ β au:Nat→Option Nat} {hp hp':Nat→Option aj} {C:ag} {B:Nat} {M:Nat→Prop} {w0:Start}
theorem O1 {n i nb:Nat} {ops:Array Oper} {o:Oper} {st st':St} {R W:List Nat} (h:gx P A C n ops i o nb st=some (st',R,W)):
  ∃x upd,st'=⟨gN st.sl o.dst x,bL st.hp upd,st.nb⟩∧W=upd.map (·.1)∧∀eN:St,(∀d∈o.looksAt ops,eN.sl d=st.sl d)→(∀id∈R,eN.hp id=st.hp id)→
   gx P A C n ops i o nb eN=some (⟨gN eN.sl o.dst x,bL eN.hp upd,eN.nb⟩,R,W):=by
 unfold gx at h
 cases hd:ra o n with
 | false=>rw[hd] at h;cases h
 | true=>
  rw[hd] at h
  simp only[cond_true] at h
  have go:(((fw P A st.sl i (nb+64*i) o).run C st.hp).bind fun r=>some ((⟨gN st.sl o.dst r.1.v,bL st.hp r.1.upd,st.nb⟩:St),r.2,r.1.upd.map (·.1)))=some (st',R,W)→
    ∃x upd,st'=⟨gN st.sl o.dst x,bL st.hp upd,st.nb⟩∧W=upd.map (·.1)∧∀eN:St,(∀d∈o.looksAt ops,eN.sl d=st.sl d)→(∀id∈R,eN.hp id=st.hp id)→
     (((fw P A eN.sl i (nb+64*i) o).run C eN.hp).bind fun r=>some ((⟨gN eN.sl o.dst r.1.v,bL eN.hp r.1.upd,eN.nb⟩:St),r.2,r.1.upd.map (·.1)))=some (⟨gN eN.sl o.dst x,bL eN.hp upd,eN.nb⟩,R,W):=by
   intro h
   obtain ⟨⟨r,rd⟩,h1,h2⟩:=bind_some h
   cases h2
   refine ⟨r.v,r.upd,rfl,rfl,fun eN hs hh=> ?_⟩
   rw[YM (sl':=st.sl) fun x hx k hk=> ?_,ti h1 hh]
   ·rfl
   ·subst hk
    exact hs k (List.mem_append_left _ (List.mem_filterMap.2 ⟨.tmp k,by simpa using hx,rfl⟩))
  cases hg:o.guard with
  | none=>
   rw[hg] at h
   obtain ⟨x,upd,e1,e2,e3⟩:=go h
   refine ⟨x,upd,e1,e2,fun eN hs hh=> ?_⟩
   unfold gx
   simp only[hd,cond_true,hg]
   exact e3 eN hs hh
  | some gw=>
   obtain ⟨g,want⟩:=gw
   rw[hg] at h
   simp only at h
   cases kT:(ops[g]?).bind (·.dst) with
   | none=>rw[kT] at h;cases h
   | some d=>
    rw[kT] at h
    simp only at h
    have Ib:d∈o.looksAt ops:=List.mem_append_right _ (by rw[hg];simp[kT])
    cases lS:kG (st.sl d) with
    | none=>rw[lS] at h;cases h
    | some ob=>
    rw[lS] at h
    cases ob with
    | none=>
     injection h with h
     injection h with h3 h4
     injection h4 with h5 h6
     subst h5;subst h6
     refine ⟨.bf [],[],h3.symm,rfl,fun eN hs hh=> ?_⟩
     unfold gx
     simp only[hd,cond_true,hg,kT,hs d Ib,lS]
     rfl
    | some b=>
    simp only at h
    cases hb:b==want with
    | true=>
     rw[hb] at h
     obtain ⟨x,upd,e1,e2,e3⟩:=go h
     refine ⟨x,upd,e1,e2,fun eN hs hh=> ?_⟩
     unfold gx
     simp only[hd,cond_true,hg,kT,hs d Ib,lS,hb]
     exact e3 eN hs hh
    | false=>
     rw[hb] at h
     simp only[cond_false] at h
     injection h with h
     injection h with h3 h4
     injection h4 with h5 h6
     subst h5;subst h6
     refine ⟨.bf [],[],h3.symm,rfl,fun eN hs hh=> ?_⟩
     unfold gx
     simp only[hd,cond_true,hg,kT,hs d Ib,lS,hb,cond_false]
     rfl
theorem O2 {sl:Nat→V} {d:Option Nat} {x:V} {k:Nat} (h:d≠some k):gN sl d x k=sl k:=by
 cases d with
 | none=>rfl
 | some d=>exact eg _ _ fun e=>h (by rw[e])
theorem YO {hp:Nat→Option aj} {a b:List (Nat × aj)} (h: ∀q∈a,∀q'∈b,q.1≠q'.1):bL (bL hp a) b=bL (bL hp b) a:=by
 funext id
 by_cases ha: ∃q∈a,q.1=id
 ·have hb: ∀q∈b,q.1≠id:=by
   obtain ⟨q,hq,rfl⟩:=ha
   exact fun q' bY e=>h q hq q' bY e.symm
  rw[th hb]
  obtain ⟨q,hq,rfl⟩:=ha
  have same: ∀(bt gA:Nat→Option aj) (l:List (Nat × aj)) (q:Nat × aj),q∈l→bL bt l q.1=bL gA l q.1:=by
   intro bt gA l
   induction l with
   | nil=>intro q hq;simp at hq
   | cons p l ih=>
    intro q hq
    simp only[bL,aH]
    cases hb:Nat.beq q.1 p.1 with
    | true=>rfl
    | false=>
     simp only[cond_false]
     refine ih q ((List.mem_cons.1 hq).resolve_left fun e=> ?_)
     rw[e,Nat.beq_refl] at hb;cases hb
  exact same _ _ a q hq
 ·rw[th (hp:=bL hp b) (l:=a) fun q hq e=>ha ⟨q,hq,e⟩]
  have same: ∀(bt gA:Nat→Option aj) (l:List (Nat × aj)),bt id=gA id→bL bt l id=bL gA l id:=by
   intro bt gA l he
   induction l with
   | nil=>exact he
   | cons p l ih=>
    simp only[bL,aH]
    cases hb:Nat.beq id p.1 with
    | true=>rfl
    | false=>exact ih
  exact same _ _ b (th fun q hq e=>ha ⟨q,hq,e⟩)
structure O3 (ops:Array Oper) (o1 o2:Oper) (R1 W1 R2 W2:List Nat):Prop where
 apart:Oper.apart ops o1 o2=true
 w: ∀id∈W1,id∉R2∧id∉W2
 r: ∀id∈R1,id∉W2
theorem YP {n i j nb:Nat} {ops:Array Oper} {o1 o2:Oper} {st iE eN:St} {R1 W1 R2 W2:List Nat} (h1:gx P A C n ops i o1 nb st=some (iE,R1,W1)) (h2:gx P A C n ops j o2 nb iE=some (eN,R2,W2))
  (hi:O3 ops o1 o2 R1 W1 R2 W2): ∃Dn,gx P A C n ops j o2 nb st=some (Dn,R2,W2)∧gx P A C n ops i o1 nb Dn=some (eN,R1,W1):=by
 obtain ⟨x1,u1,e1,f1,g1⟩:=O1 h1
 obtain ⟨x2,u2,e2,f2,g2⟩:=O1 h2
 obtain ⟨a1,a2,a3⟩:=Oper.apart_spec hi.apart
 subst e1
 refine ⟨_,g2 st (fun d hd=> ?_) (fun id hd=> ?_),?_⟩
 ·simp only
  rw[O2 fun e=>a1 d e hd]
 ·simp only
  rw[th fun q hq e=>(hi.w id (by rw[f1];exact List.mem_map.2 ⟨q,hq,e⟩)).1 hd]
 ·rw[g1 _ (fun d hd=> ?_) (fun id hd=> ?_),e2]
  ·congr 3
   ·funext k
    cases YQ:o1.dst with
    | none=>rfl
    | some d1=>
     cases mF:o2.dst with
     | none=>rfl
     | some d2=>
      have bM:d2≠d1:=fun e=>a2 d1 YQ (by rw[mF,e])
      simp only[gN,aH]
      cases O4:Nat.beq k d1<;>cases rC:Nat.beq k d2<;>simp only[cond_true,cond_false]
      rw[Nat.beq_eq] at O4 rC
      exact absurd (rC.symm.trans O4) bM
   ·exact (YO fun q hq q' bY e=>(hi.w q.1 (by rw[f1];exact List.mem_map.2 ⟨q,hq,rfl⟩)).2 (by rw[f2];exact List.mem_map.2 ⟨q',bY,e.symm⟩)).symm
  ·simp only
   rw[O2 fun e=>a3 d e hd]
  ·simp only
   rw[th fun q hq e=>hi.r id hd (by rw[f2];exact List.mem_map.2 ⟨q,hq,e⟩)]
def vy (P:Program) (A:cF) (C:ag) (n:Nat) (ops:Array Oper) (nb:Nat):List (Nat × Oper × List Nat × List Nat)→St→St→Prop
 | [],st,st'=>st=st'
 | (i,o,R,W)::l,st,st'=> ∃iE,gx P A C n ops i o nb st=some (iE,R,W)∧vy P A C n ops nb l iE st'
def tk (x:Nat × Oper × List Nat × List Nat):Nat × List Nat × List Nat:=(x.1,x.2.2.1,x.2.2.2)
theorem O5 {n nb:Nat} {ops:Array Oper}: ∀{l:List (Nat × Oper)} {st st':St} {log Dp:Log},oP P A C n ops nb l st log=some (st',Dp)→
  ∃g,g.map (fun x=>(x.1,x.2.1))=l∧Dp=log++g.map tk∧vy P A C n ops nb g st st'
 | [],st,st',log,Dp,h=>by
  cases h
  exact ⟨[],rfl,by simp,rfl⟩
 | (i,o)::l,st,st',log,Dp,h=>by
  obtain ⟨⟨iE,R,W⟩,h1,h2⟩:=bind_some h
  obtain ⟨g,a,b,c⟩:=O5 h2
  exact ⟨(i,o,R,W)::g,by simp[a],by simp[b,tk],iE,h1,c⟩
def O6 (ops:Array Oper) (x y:Nat × Oper × List Nat × List Nat):Prop:=O3 ops x.2.1 y.2.1 x.2.2.1 x.2.2.2 y.2.2.1 y.2.2.2
theorem O7 {n nb:Nat} {ops:Array Oper} {y:Nat × Oper × List Nat × List Nat} {g2:List (Nat × Oper × List Nat × List Nat)}: ∀{g1:List (Nat × Oper × List Nat × List Nat)} {st st':St},
  vy P A C n ops nb (g1++y::g2) st st'→(∀x∈g1,O6 ops x y)→∃iE,gx P A C n ops y.1 y.2.1 nb st=some (iE,y.2.2.1,y.2.2.2)∧vy P A C n ops nb (g1++g2) iE st'
 | [],st,st',h,_=>h
 | x::g1,st,st',h,hi=>by
  obtain ⟨iE,h1,h2⟩:=h
  obtain ⟨eN,h3,h4⟩:=O7 h2 fun z hz=>hi z (List.mem_cons_of_mem _ hz)
  obtain ⟨Dn,h5,h6⟩:=YP h1 h3 (hi x (by simp))
  exact ⟨Dn,h5,eN,h6,h4⟩
theorem O8 (hC:ki P A C) (hP:iW P A) {n nb:Nat} {ops:Array Oper} {Q:Exit→Act→World→Prop}: ∀{g:List (Nat × Oper × List Nat × List Nat)} {st st':St} {a:Act} {w:World} {I:Nat→Prop} {β:Nat→Option Nat},
  vy P A C n ops nb g st st'→(∀x∈g,ops[x.1]? =some x.2.1)→aE P w I β st.hp B M w0→iD P A.idle A.aD w I β n a st→
  (∀a' w' I' au,Le P w I β st.hp w' I' au st'.hp→aE P w' I' au st'.hp B M w0→iD P A.idle A.aD w' I' au n a' st'→Q .normal a' w')→wpOps P ops Q (g.map (·.1)) a w
 | [],st,st',a,w,I,β,h,_,S,hA,hQ=>by
  cases h
  exact hQ a w I β (Le.refl w I β _) S hA
 | x::g,st,st',a,w,I,β,h,ho,S,hA,hQ=>by
  obtain ⟨iE,h1,h2⟩:=h
  rw[List.map_cons,wpOps_cons]
  refine OZ hC hP (ho x (by simp)) S hA h1 fun a' w' I' au k1 k2 k3=> ?_
  exact O8 hC hP h2 (fun y hy=>ho y (List.mem_cons_of_mem _ hy)) k2 k3 fun a2 w2 I2 bX m1 m2 m3=>hQ a2 w2 I2 bX (k1.trans m1) m2 m3
end
end Go.AM
namespace Go.AM
section
variable {P:Program} {A:cF} {w w':World} {I I' I2:Nat→Prop} {μ β au:Nat→Option Nat} {hp hp':Nat→Option aj} {C:ag} {B:Nat} {M:Nat→Prop} {w0:Start}
inductive tm (ops:Array Oper):Nat→Nat→Prop
 | O9 {i x:Nat} {o:Oper} {e:Edge}:ops[i]? =some o→e∈o.after→Region.binds .any e=true→e.on=x→tm ops i x
 | trans {i x:Nat} {o:Oper} {e:Edge}:ops[i]? =some o→e∈o.after→Region.binds .any e=true→tm ops e.on x→tm ops i x
theorem Pb {acc:Array Nat} {x:Nat}: ∀{l:List Edge} {s:Nat},(l.foldl (fun s e=>if Region.binds .any e then s|||2^e.on|||acc.getD e.on 0 else s) s).testBit x=true→
  s.testBit x=true∨∃e∈l,Region.binds .any e=true∧(e.on=x∨(acc.getD e.on 0).testBit x=true)
 | [],s,h=> .inl h
 | e::l,s,h=>by
  simp only[List.foldl_cons] at h
  rcases Pb h with h1|⟨e',a,b⟩
  ·by_cases hb:Region.binds .any e=true
   ·rw[if_pos hb,Nat.testBit_or,Nat.testBit_or,Bool.or_eq_true,Bool.or_eq_true] at h1
    rcases h1 with (h1|h1)|h1
    ·exact .inl h1
    ·rw[Nat.testBit_two_pow] at h1
     exact .inr ⟨e,by simp,hb,.inl (by simpa using h1)⟩
    ·exact .inr ⟨e,by simp,hb,.inr h1⟩
   ·rw[if_neg hb] at h1
    exact .inl h1
  ·exact .inr ⟨e',List.mem_cons_of_mem _ a,b⟩
theorem Pc {ops:Array Oper} {x:Nat}: ∀{l:List Oper} {acc:Array Nat},(∀j o,l[j]? =some o→ops[acc.size+j]? =some o)→(∀j,(acc.getD j 0).testBit x=true→tm ops j x)→
  ∀j,((l.foldl (fun acc o=>acc.push (o.after.foldl (fun s e=>if Region.binds .any e then s|||2^e.on|||acc.getD e.on 0 else s) 0)) acc).getD j 0).testBit x=true→tm ops j x
 | [],acc,_,Dq,j,h=>Dq j h
 | o::l,acc,hl,Dq,j,h=>by
  simp only[List.foldl_cons] at h
  refine Pc (l:=l) ?_ ?_ j h
  ·intro j o' hj
   have:=hl (j+1) o' (by simpa using hj)
   rw[Array.size_push]
   rwa [show acc.size+1+j=acc.size+(j+1) by omega]
  ·intro k hk
   simp only[Array.getD_eq_getD_getElem?,Array.getElem?_push] at hk
   by_cases Ic:k=acc.size
   ·rw[if_pos Ic] at hk
    simp only[Option.getD_some] at hk
    rw[←Array.foldl_toList] at hk
    have ho:=hl 0 o rfl
    rw[Nat.add_zero] at ho
    rw[Ic]
    have rC:(o.after.toList.foldl (fun s e=>if Region.binds .any e then s|||2^e.on|||acc.getD e.on 0 else s) 0).testBit x=true:=by simpa[Array.getD_eq_getD_getElem?] using hk
    rcases Pb rC with h0|⟨e,he,hb,h1⟩
    ·simp at h0
    ·rcases h1 with h1|h1
     ·exact .O9 ho (Array.mem_toList_iff.1 he) hb h1
     ·exact .trans ho (Array.mem_toList_iff.1 he) hb (Dq _ h1)
   ·rw[if_neg Ic] at hk
    exact Dq k (by simpa[Array.getD_eq_getD_getElem?] using hk)
theorem YR {ops:Array Oper} {i x:Nat} (h:((Region.before ops).getD i 0).testBit x=true):tm ops i x:=by
 unfold Region.before at h
 rw[←Array.foldl_toList] at h
 refine Pc (l:=ops.toList) (acc:= #[]) (fun j o hj=>by simpa using hj) (fun j hj=>by simp at hj) i h
def Pd (ops:Array Oper) (listed:Array Bool):Prop:= ∀i o,ops[i]? =some o→listed.getD i false=true→∀e∈o.after,Region.binds .any e=true→listed.getD e.on false=true
theorem YS {ops:Array Oper} {listed:Array Bool} (hc:Pd ops listed) {i x:Nat} (h:tm ops i x) (hi: ∀o,ops[i]? =some o→∀e∈o.after,Region.binds .any e=true→listed.getD e.on false=true):listed.getD x false=true:=by
 induction h with
 | O9 ho he hb hx=>rw[←hx];exact hi _ ho _ he hb
 | trans ho he hb _ ih=>exact ih fun o' lI e' sY az=>hc _ o' lI (hi _ ho _ he hb) e' sY az
theorem Pe: ∀{l:List Oper} {k j:Nat} {o:Oper},xz k l=true→l[j]? =some o→∀e∈o.after,Region.binds .any e=true→e.on<k+j
 | [],k,j,o,_,h=>by simp at h
 | o'::l,k,j,o,hk,h=>by
  simp only[xz,Bool.and_eq_true] at hk
  cases j with
  | zero=>
   simp at h
   subst h
   intro e he hb
   have:=List.all_eq_true.1 hk.1 e (Array.mem_toList_iff.2 he)
   simp[hb] at this
   omega
  | succ j=>
   intro e he hb
   have:=Pe hk.2 (j:=j) (by simpa using h) e he hb
   omega
theorem Pf {ops:Array Oper} {sA:Array Nat}: ∀{l:Log},Ch ops sA l=true→l.Pairwise fun x y=>xy ops sA x y=true
 | [],_=> .nil
 | x::l,h=>by
  simp only[Ch,Bool.and_eq_true] at h
  exact .cons (fun y hy=>List.all_eq_true.1 h.1 y hy) (Pf h.2)
theorem Pg {listed:Array Bool} {i:Nat} (h:listed.getD i true=false):i<listed.size∧listed.getD i false=false:=by
 rcases Nat.lt_or_ge i listed.size with h'|h'
 ·refine ⟨h',?_⟩
  simpa[h'] using h
 ·simp[Array.getElem?_eq_none h'] at h
theorem Ph (hC:ki P A C) (hP:iW P A) {n nb:Nat} {ops:Array Oper} {Q:Exit→Act→World→Prop} (Dr:xz 0 ops.toList=true):
  ∀(fuel:Nat) {g:List (Nat × Oper × List Nat × List Nat)} {listed:Array Bool} {st st':St} {a:Act} {w:World} {I:Nat→Prop} {β:Nat→Option Nat},
  g.length=fuel→vy P A C n ops nb g st st'→(∀x∈g,ops[x.1]? =some x.2.1)→(g.map (·.1)).Pairwise (· < ·)→(g.map tk).Pairwise (fun x y=>xy ops (Region.before ops) x y=true)→
  listed.size=ops.size→(∀i,i<ops.size→(listed.getD i false=false↔i∈g.map (·.1)))→Pd ops listed→
  aE P w I β st.hp B M w0→iD P A.idle A.aD w I β n a st→
  (∀a' w' I' au,Le P w I β st.hp w' I' au st'.hp→aE P w' I' au st'.hp B M w0→iD P A.idle A.aD w' I' au n a' st'→Q .normal a' w')→wpAny P .any ops Q fuel listed a w
 | 0,g,listed,st,st',a,w,I,β,hf,hr,ho,aS,Ds,a8,tn,jM,S,hA,hQ=>by
  obtain rfl:g=[]:=List.eq_nil_of_length_eq_zero hf
  cases hr
  refine ⟨?_,hQ a w I β (Le.refl w I β _) S hA⟩
  rw[List.eq_nil_iff_forall_not_mem]
  intro i hi
  obtain ⟨h0,_⟩:=mem_ready.1 hi
  obtain ⟨h1,h2⟩:=Pg h0
  have:=(tn i (by omega)).1 h2
  simp at this
 | fuel+1,g,listed,st,st',a,w,I,β,hf,hr,ho,aS,Ds,a8,tn,jM,S,hA,hQ=>by
  refine ⟨fun yB=> ?_,fun i hi=> ?_⟩
  ·exfalso
   cases g with
   | nil=>simp at hf
   | cons x g=>
    have hx:=ho x (by simp)
    have gl:x.1<ops.size:=(Array.getElem?_eq_some_iff.1 hx).1
    have dN:x.1∈Region.ready .any ops listed:=by
     rw[mem_ready]
     have h0:=(tn x.1 gl).2 (by simp)
     refine ⟨?_,x.2.1,hx,fun e he hb=> ?_⟩
     ·have hl:x.1<listed.size:=by omega
      simpa[hl] using h0
     ·have Hw:=Pe Dr (j:=x.1) (by simpa using hx) e he hb
      rw[Nat.zero_add] at Hw
      cases hle:listed.getD e.on false with
      | true=>rfl
      | false=>
       have hm:=(tn e.on (by omega)).1 hle
       simp only[List.map_cons,List.mem_cons] at hm
       rw[List.map_cons,List.pairwise_cons] at aS
       rcases hm with hm|hm
       ·omega
       ·have:=aS.1 _ hm;omega
    rw[yB] at dN
    cases dN
  ·obtain ⟨h0,oi,yD,Pj⟩:=mem_ready.1 hi
   obtain ⟨h1,h2⟩:=Pg h0
   have YT:=(tn i (by omega)).1 h2
   obtain ⟨y,hy,YU⟩:=List.mem_map.1 YT
   obtain ⟨g1,g2,rfl⟩:=List.append_of_mem hy
   subst YU
   have Pk:=ho y hy
   rw[yD] at Pk
   have Pl:oi=y.2.1:=Option.some.inj Pk
   have jO:((g1++y::g2).map (·.1)).Nodup:=aS.imp fun h=>Nat.ne_of_lt h
   have YV: ∀x∈g1,O6 ops x y:=by
    intro x hx
    have hp:xy ops (Region.before ops) (tk x) (tk y)=true:=by
     rw[List.map_append,List.map_cons,List.pairwise_append] at Ds
     exact Ds.2.2 _ (List.mem_map.2 ⟨x,hx,rfl⟩) _ (by simp)
    have Pm:=ho x (List.mem_append.2 (.inl hx))
    unfold xy at hp
    rw[Bool.or_eq_true] at hp
    rcases hp with hp|hp
    ·have hl:=YS jM (YR hp) fun o lI e he hb=>by
      have:o=oi:=by
       have h3:ops[y.1]? =some o:=lI
       rw[yD] at h3
       exact (Option.some.inj h3).symm
      subst this
      exact Pj e he hb
     have gl:x.1<ops.size:=(Array.getElem?_eq_some_iff.1 Pm).1
     have:=(tn x.1 gl).2 (List.mem_map.2 ⟨x,List.mem_append.2 (.inl hx),rfl⟩)
     rw[show (tk x).1=x.1 from rfl,this] at hl
     cases hl
    ·simp only[tk,Array.getD_eq_getD_getElem?,Pm,yD,Option.getD_some,Bool.and_eq_true,Bool.not_eq_true'] at hp
     obtain ⟨q1,q2,q3⟩:=hp
     refine ⟨Pl▸q1,fun id aa=> ?_,fun id aa=>Dd q3 aa⟩
     have:=Dd q2 aa
     rw[List.mem_append] at this
     exact ⟨fun h=>this (.inl h),fun h=>this (.inr h)⟩
   obtain ⟨iE,jh,iT⟩:=O7 hr YV
   rw[←Pl] at jh
   refine OZ hC hP yD S hA jh fun a' w' I' au k1 k2 k3=> ?_
   have gX:List.Sublist (g1++g2) (g1++y::g2):=List.Sublist.append_left (List.sublist_cons_self y g2) g1
   have nF: ∀j,j≠y.1→(listed.setIfInBounds y.1 true).getD j false=listed.getD j false:=fun j hj=>getD_set_ne false (Ne.symm hj)
   refine Ph hC hP Dr fuel (g:=g1++g2) (st':=st') ?_ iT (fun x hx=>ho x (gX.subset hx)) (aS.sublist (gX.map _)) (Ds.sublist (gX.map _)) (by simp[a8]) (fun j hj=> ?_) (fun j o Ie cW e he hb=> ?_) k2 k3 fun a2 w2 I2 bX m1 m2 m3=>hQ a2 w2 I2 bX (k1.trans m1) m2 m3
   ·simp at hf⊢;omega
   ·by_cases oW:j=y.1
    ·subst oW
     have hl:y.1<listed.size:=by omega
     simp only[Array.getD_eq_getD_getElem?,Array.getElem?_setIfInBounds_self_of_lt hl,Option.getD_some]
     refine ⟨fun h=>(by cases h),fun h=> ?_⟩
     exfalso
     rw[List.map_append,List.map_cons,List.nodup_append,List.nodup_cons] at jO
     rw[List.map_append,List.mem_append] at h
     rcases h with h|h
     ·exact jO.2.2 _ h _ (by simp) rfl
     ·exact jO.2.1.1 h
    ·rw[nF j oW,tn j hj]
     simp only[List.map_append,List.map_cons,List.mem_append,List.mem_cons]
     constructor
     ·rintro (h|h|h)
      ·exact .inl h
      ·exact absurd h oW
      ·exact .inr h
     ·rintro (h|h)
      ·exact .inl h
      ·exact .inr (.inr h)
   ·by_cases oW:j=y.1
    ·subst oW
     rw[yD] at Ie
     cases Ie
     exact getD_set_true (Pj e he hb)
    ·rw[nF j oW] at cW
     exact getD_set_true (jM j o Ie cW e he hb)
end
end Go.AM
namespace Go.AM
section
variable {P:Program} {A:cF} {w w':World} {I I' I2:Nat→Prop} {μ β au:Nat→Option Nat} {hp hp':Nat→Option aj} {C:ag} {B:Nat} {M:Nat→Prop} {w0:Start}
theorem Pn: ∀{l:List Oper} {k j:Nat},(nD k l)[j]? =(l[j]?).map fun o=>(k+j,o)
 | [],k,j=>by simp[nD]
 | o::l,k,0=>by simp[nD]
 | o::l,k,j+1=>by
  simp only[nD,List.getElem?_cons_succ,Pn]
  congr 1
  funext o
  rw[show k+1+j=k+(j+1) by omega]
theorem Po: ∀{l:List Oper} {k:Nat},(nD k l).map (·.1)=List.range' k l.length
 | [],k=>rfl
 | o::l,k=>by simp[nD,Po,List.range'_succ]
theorem YW (hC:ki P A C) (hP:iW P A) (hm:P.follows .mixedOrders=true) {n id:Nat} {ops:Array Oper} {draw:Bool} {st st':St} {a:Act} {Q:Exit→Act→World→Prop}
  (h:uQ P A C n ops draw st=some st') (S:aE P w I β st.hp B M w0) (hA:iD P A.idle A.aD w I β n a st)
  (hQ: ∀a' w' I' au,Le P w I β st.hp w' I' au st'.hp→aE P w' I' au st'.hp B M w0→iD P A.idle A.aD w' I' au n a' st'→Q .normal a' w'):(Code.region id ops draw).wp P Q a w:=by
 obtain ⟨⟨iE,log⟩,h1,h2⟩:=bind_some h
 obtain ⟨g,g1,g2,g3⟩:=O5 h1
 have Dt:g.map (·.1)=List.range ops.size:=by
  have:g.map (·.1)=(g.map fun x=>(x.1,x.2.1)).map (·.1):=by simp
  rw[this,g1,Po,List.range_eq_range']
  simp
 have Pp: ∀x∈g,ops[x.1]? =some x.2.1:=by
  intro x hx
  have:(x.1,x.2.1)∈nD 0 ops.toList:=by rw[←g1];exact List.mem_map.2 ⟨x,hx,rfl⟩
  obtain ⟨j,hj⟩:=List.mem_iff_getElem?.1 this
  rw[Pn] at hj
  cases ho:ops.toList[j]? with
  | none=>rw[ho] at hj;cases hj
  | some o=>
   rw[ho] at hj
   simp only[Option.map_some,Nat.zero_add,Option.some.injEq,Prod.mk.injEq] at hj
   rw[←hj.1,←hj.2]
   simpa using ho
 cases draw with
 | false=>
  simp only[Bool.not_false,Bool.true_or,cond_true] at h2
  cases h2
  refine wp_region ?_
  rw[←Dt]
  exact O8 hC hP g3 Pp S hA hQ
 | true=>
  simp only[Bool.not_true,Bool.false_or] at h2
  cases hc:(Region.noSelect ops&&xA ops log) with
  | false=>rw[hc] at h2;cases h2
  | true=>
   rw[hc] at h2
   cases h2
   simp only[Bool.and_eq_true,xA] at hc
   obtain ⟨hns,Dr,YX⟩:=hc
   simp only[List.nil_append] at g2
   refine wp_region_any hm ?_
   have hlen:g.length=ops.size:=by
    have:=congrArg List.length Dt
    simpa using this
   refine Ph hC hP Dr ops.size (g:=g) (st':=st') hlen g3 Pp (by rw[Dt];exact List.pairwise_lt_range) (by rw[←g2];exact Pf YX) (by simp) (fun i hi=> ?_) (fun i o ho hl=> ?_)
    (w:=w.drew) S.drew ⟨fun k=>(hA.sl k).mono (Le.drew w I β _),hA.size,hA.defers,hA.aD.mono (Le.drew (P:=P) w I β st.hp).dq (Le.drew (P:=P) w I β st.hp).b9⟩ fun a' w' I' au k1 k2 k3=>hQ a' w' I' au ((Le.drew w I β _).trans k1) k2 k3
   ·rw[Dt]
    simp[hi]
   ·have hi:=(Array.getElem?_eq_some_iff.1 ho).1
    simp[hi] at hl
end
end Go.AM
namespace Go.AM
section
variable {P:Program} {A:cF} {E:FuncId→Bool} {G:Nat→V} {w w':World} {I I' I2:Nat→Prop} {μ β au:Nat→Option Nat} {hp hp':Nat→Option aj} {C:ag} {B:Nat} {M:Nat→Prop} {w0:Start}
theorem tp: ∀{l:List Nat} {hp:Nat→Option aj} {I:Nat→Prop},aE P w I β hp B M w0→∃I',Le P w I β hp w I' β (sy hp l)∧aE P w I' β (sy hp l) B M w0
 | [],hp,I,S=>⟨I,Le.refl w I β hp,S⟩
 | id::l,hp,I,S=>by
  simp only[sy]
  cases aa:hp id with
  | none=>exact tp S
  | some blk=>
   cases blk with
   | dead=>exact tp S
   | var _=>exact tp S
   | map _ _=>exact tp S
   | arr e es fz=>
    obtain ⟨h1,h2⟩:=xN S (upd:=[(id,.arr e es true)]) (fun p hp=>by
     simp only[List.mem_singleton] at hp
     subst hp
     exact ⟨e,es,rfl,.inl ⟨fz,aa⟩⟩)
    obtain ⟨I',h3,h4⟩:=tp (l:=l) h2
    exact ⟨I',h1.trans h3,h4⟩
   | nest e es ao=>
    obtain ⟨h1,h2⟩:=xN S (upd:=[(id,.arr e es true)]) (fun p hp=>by
     simp only[List.mem_singleton] at hp
     subst hp
     exact ⟨e,es,rfl,.inr ⟨ao,aa⟩⟩)
    obtain ⟨I',h3,h4⟩:=tp (l:=l) h2
    exact ⟨I',h1.trans h3,h4⟩
theorem Pq {n m:Nat} {pur:List Nat} {a:Act} {st:St} (S:aE P w I β st.hp B M w0) (hA:iD P E G w I β n a st):
  ∃I',Le P w I β st.hp w I' β (freeze m pur st).hp∧aE P w I' β (freeze m pur st).hp B M w0∧iD P E G w I' β n a (freeze m pur st):=by
 obtain ⟨I',h1,h2⟩:=tp (l:=(MR st pur).filter fun id=>Nat.ble m id) S
 exact ⟨I',h1,h2,fun k=>(hA.sl k).mono h1,hA.size,hA.defers,hA.aD.mono h1.dq h1.b9⟩
structure vz (hp:Nat→Option aj) (β:Nat→Option Nat) (ord:List Nat) (hp':Nat→Option aj) (au:Nat→Option Nat):Prop where
 arr: ∀(j:Nat) id e es fz,ord[j]? =some id→hp id=some (.arr e es fz)→hp' j=some (.arr e es fz)
 var: ∀(j:Nat) id T cs,ord[j]? =some id→hp id=some (.var T cs)→∃gW,hp' j=some (.var T gW)
 dead: ∀(j:Nat) id,ord[j]? =some id→hp id=some .dead→hp' j=some .dead
 place: ∀(j:Nat) id,ord[j]? =some id→au j=β id
 nest: ∀(j:Nat) id e es ao,ord[j]? =some id→hp id=some (.nest e es ao)→hp' j=some (.nest e es (ao.map fun _=>0))
 map: ∀(j:Nat) id t es,ord[j]? =some id→hp id=some (.map t es)→hp' j=some (.map t es)
theorem kU: ∀{l:List Nat} {n i j:Nat},gO l n i=some j→∃k,j=i+k∧l[k]? =some n
 | [],n,i,j,h=>by cases h
 | a::l,n,i,j,h=>by
  simp only[gO] at h
  cases hb:Nat.beq n a with
  | true=>
   rw[hb] at h
   cases h
   rw[Nat.beq_eq] at hb
   exact ⟨0,rfl,by rw[hb];rfl⟩
  | false=>
   rw[hb] at h
   obtain ⟨k,h1,h2⟩:=kU h
   exact ⟨k+1,by omega,by simpa using h2⟩
def kj (hp':Nat→Option aj) (au:Nat→Option Nat) (n:Nat) (bs:List aj):Prop:=
 ∀(k:Nat) b,bs[k]? =some b→hp' (n+k)=some b∧au (n+k)=none
theorem Ig: ∀(ao:List Nat) (k:Nat),bE (ao.map fun _=>0) k=0
 | [],_=>rfl
 | _::_,0=>rfl
 | _::vs,k+1=>Ig vs k
theorem Pr {e:TypeId} {es:List V} {ao:List Nat} {path:Path} {ver:Nat} (hc:(Nat.blt 0 path.length&&(Nat.ble path.length ao.length&&Nat.beq (bE ao (path.length-1)) ver))=true)
  (h:(aj.nest e es ao).sD path ver):False:=by
 simp only[Bool.and_eq_true,Nat.blt_eq,Nat.ble_eq,Nat.beq_eq] at hc
 obtain ⟨h1,h2,h3⟩:=hc
 rcases h with h|h|h
 ·subst h;simp at h1
 ·omega
 ·omega
theorem Ps (S:aE P w I β hp B M w0) {ord:List Nat} (hR:vz hp β ord hp' au) {v:Value} {x:V} (hv:an P w I β hp v x):an P w I au hp' v (gP hp ord x):=by
 cases hv with
 | undef=>exact .undef
 | int=>exact .int
 | bool=>exact .bool
 | str h=>exact .str h
 | list h=>exact .list h
 | nilS=>exact .nilS
 | agg=>exact .undef
 | bf=>exact .undef
 | dx=>exact .dx
 | fn=>exact .undef
 | pref a b c=>exact .pref a b c
 | @ed _ e id aa=>
  simp only[gP]
  cases bt:gO ord id 0 with
  | none=>simp only[aa];exact .undef
  | some j=>
   obtain ⟨k,rfl,hk⟩:=kU bt
   exact .ed (hR.dead _ id (by simpa using hk) aa)
 | @fW _ e id off len aa=>
  simp only[gP]
  cases bt:gO ord id 0 with
  | none=>simp only[aa];exact .undef
  | some j=>
   obtain ⟨k,rfl,hk⟩:=kU bt
   exact .fW (hR.dead _ id (by simpa using hk) aa)
 | @jG _ id i c aa=>
  simp only[gP]
  cases bt:gO ord id 0 with
  | none=>exact .undef
  | some j=>
   obtain ⟨k,rfl,hk⟩:=kU bt
   exact .jG (hR.dead _ id (by simpa using hk) aa)
 | @dK e id fz _ aa hb=>
  simp only[gP]
  cases bt:gO ord id 0 with
  | none=>
   simp only[aa]
   cases fz with
   | false=>exact .undef
   | true=>simp only[Nat.beq_refl,cond_true];exact .list (.any fun _=>rfl)
  | some j=>
   obtain ⟨k,rfl,hk⟩:=kU bt
   have dC:ord[0+k]? =some id:=by simpa using hk
   exact .dK (hR.arr _ id _ _ _ dC aa) ((hR.place _ id dC).trans hb)
 | @whole e id es fz b cap aa hb a8 b7 hm=>
  simp only[gP]
  cases bt:gO ord id 0 with
  | none=>
   simp only[aa]
   cases fz with
   | false=>exact .undef
   | true=>
    simp only[Nat.beq_refl,cond_true]
    have hr:=S.h.rel id _ aa
    cases hr with
    | dL az=>rw[az] at hb;cases hb
    | arr ax az hh hs hf ee hx=>
     rw[hb] at az;cases az
     have:=sI (I':=I) (off:=0) (len:=es.length) (o:=0) hh hx (fy ax) (by omega) b7 (fun _=>by simp) (fun _ h=>h) (hf rfl)
     exact .list (by simpa using this)
  | some j=>
   obtain ⟨k,rfl,hk⟩:=kU bt
   have dC:ord[0+k]? =some id:=by simpa using hk
   exact .whole (hR.arr _ id _ _ _ dC aa) ((hR.place _ id dC).trans hb) a8 b7 hm
 | @fJ e id fz _ aa hb=>
  simp only[gP]
  cases bt:gO ord id 0 with
  | none=>
   simp only[aa]
   cases fz with
   | false=>exact .undef
   | true=>simp only[Nat.beq_refl,cond_true];exact .list (by simpa using (iu.any (P:=P) fun _=>rfl))
  | some j=>
   obtain ⟨k,rfl,hk⟩:=kU bt
   have dC:ord[0+k]? =some id:=by simpa using hk
   exact .fJ (hR.arr _ id _ _ _ dC aa) ((hR.place _ id dC).trans hb)
 | @sub e id off len es fz b o cap aa hb iQ b7 ho=>
  simp only[gP]
  cases bt:gO ord id 0 with
  | none=>
   simp only[aa]
   cases fz with
   | false=>exact .undef
   | true=>
    simp only[Nat.beq_refl,cond_true]
    have hr:=S.h.rel id _ aa
    cases hr with
    | dL az=>rw[az] at hb;cases hb
    | arr ax az hh hs hf ee hx=>
     rw[hb] at az;cases az
     exact .list (sI (I':=I) hh hx (fy ax) iQ b7 ho (fun _ h=>h) (hf rfl))
  | some j=>
   obtain ⟨k,rfl,hk⟩:=kU bt
   have dC:ord[0+k]? =some id:=by simpa using hk
   exact .sub (hR.arr _ id _ _ _ dC aa) ((hR.place _ id dC).trans hb) iQ b7 ho
 | @ptr id i c b blk aa hd hb=>
  simp only[gP]
  cases bt:gO ord id 0 with
  | none=>exact .undef
  | some j=>
   obtain ⟨k,rfl,hk⟩:=kU bt
   have dC:ord[0+k]? =some id:=by simpa using hk
   cases blk with
   | dead=>exact absurd rfl hd
   | var T0 cs=>
    obtain ⟨gW,h'⟩:=hR.var _ id T0 cs dC aa
    exact .ptr (blk:= .var T0 gW) h' (by simp) ((hR.place _ id dC).trans hb)
   | arr e es fz=>exact .ptr (blk:= .arr e es fz) (hR.arr _ id _ _ _ dC aa) (by simp) ((hR.place _ id dC).trans hb)
   | nest e es ao=>exact .ptr (blk:= .nest e es (ao.map fun _=>0)) (hR.nest _ id _ _ _ dC aa) (by simp) ((hR.place _ id dC).trans hb)
   | map t es=>exact .ptr (blk:= .map t es) (hR.map _ id _ _ dC aa) (by simp) ((hR.place _ id dC).trans hb)
 | dy=>exact .dy
 | @gT _ t id aa=>
  simp only[gP]
  cases bt:gO ord id 0 with
  | none=>exact .undef
  | some j=>
   obtain ⟨k,rfl,hk⟩:=kU bt
   exact .gT (hR.dead _ id (by simpa using hk) aa)
 | @bD t id b es aa hb=>
  simp only[gP]
  cases bt:gO ord id 0 with
  | none=>exact .undef
  | some j=>
   obtain ⟨k,rfl,hk⟩:=kU bt
   have dC:ord[0+k]? =some id:=by simpa using hk
   exact .bD (hR.map _ id _ _ dC aa) ((hR.place _ id dC).trans hb)
 | @ep e id es ao b cap aa hb a8 b7 hm=>
  simp only[gP]
  cases bt:gO ord id 0 with
  | none=>simp only[aa];exact .undef
  | some j=>
   obtain ⟨k,rfl,hk⟩:=kU bt
   have dC:ord[0+k]? =some id:=by simpa using hk
   exact .ep (hR.nest _ id _ _ _ dC aa) ((hR.place _ id dC).trans hb) a8 b7 hm
 | @jd v e id ver path blk aa xL=>
  simp only[gP]
  split
  ·rename_i j e1 cj ao h1 h2
   rw[aa] at h2
   cases h2
   cases hc:(Nat.blt 0 path.length&&(Nat.ble path.length ao.length&&Nat.beq (bE ao (path.length-1)) ver)) with
   | false=>exact .undef
   | true=>exact (Pr hc xL).elim
  ·exact .undef
 | @je v id ver i c path blk aa xL=>
  simp only[gP]
  split
  ·rename_i j e1 cj ao h1 h2
   rw[aa] at h2
   cases h2
   cases hc:(Nat.blt 0 path.length&&(Nat.ble path.length ao.length&&Nat.beq (bE ao (path.length-1)) ver)) with
   | false=>exact .undef
   | true=>exact (Pr hc xL).elim
  ·exact .undef
 | @row v e e0 t id ver b i c q es l ao aa hb hq hv ht hc=>
  simp only[gP]
  split
  ·rename_i j e1 cj tf h1 h2
   obtain ⟨k,rfl,hk⟩:=kU h1
   have dC:ord[0+k]? =some id:=by simpa using hk
   cases hx:(Nat.blt 0 (q++[(i,c)]).length&&(Nat.ble (q++[(i,c)]).length tf.length&&Nat.beq (bE tf ((q++[(i,c)]).length-1)) ver)) with
   | false=>exact .undef
   | true=>exact .row (hR.nest _ id _ _ _ dC aa) ((hR.place _ id dC).trans hb) (by simpa using hq) (Ig _ _) ht hc
  ·exact .undef
 | @cE e e0 t id ver b b1 len cap i0 c0 i c q es l ao aa hb hq hv ht lH hc=>
  simp only[gP]
  split
  ·rename_i j e1 cj tf h1 h2
   obtain ⟨k,rfl,hk⟩:=kU h1
   have dC:ord[0+k]? =some id:=by simpa using hk
   cases hx:(Nat.blt 0 (q++[(i0,c0)]).length&&(Nat.ble (q++[(i0,c0)]).length tf.length&&Nat.beq (bE tf ((q++[(i0,c0)]).length-1)) ver)) with
   | false=>exact .undef
   | true=>exact .cE (hR.nest _ id _ _ _ dC aa) ((hR.place _ id dC).trans hb) (by simpa using hq) (Ig _ _) ht lH hc
  ·exact .undef
theorem Pt (S:aE P w I β hp B M w0) {ord:List Nat} (hR:vz hp β ord hp' au) {vs:Array Value} {xs:List V} (h: ∀(j:Nat) v x,vs[j]? =some v→xs[j]? =some x→an P w I β hp v x) (j:Nat) (v:Value) (y:V)
  (hv:vs[j]? =some v) (hy:(xs.map (gP hp ord))[j]? =some y):an P w I au hp' v y:=by
 rw[List.getElem?_map] at hy
 cases hx:xs[j]? with
 | none=>rw[hx] at hy;cases hy
 | some x=>rw[hx] at hy;cases hy;exact Ps S hR (h j v x hv hx)
theorem Pu (S:aE P w I β hp B M w0) {ord:List Nat} (hR:vz hp β ord hp' au) {n:Nat} {v:Value} {x:V} (hv:an P w I β hp v x) (hF:kj hp' au n (uO hp ord n x).2):
  an P w I au hp' v (uO hp ord n x).1:=by
 cases x with
 | nilS e=>
  obtain ⟨h1,h2⟩:=hF 0 _ rfl
  cases hv with
  | nilS=>exact .dK h1 h2
 | fn f a b=>
  cases hv with
  | fn q1 q2 q3 q4=>exact .fn (by simpa using q1) (Pt S hR q2) (by simpa using q3) (Pt S hR q4)
 | _=>exact Ps S hR hv
end
end Go.AM
namespace Go.AM
section
variable {P:Program} {A:cF} {w w':World} {I I' I2:Nat→Prop} {μ β au:Nat→Option Nat} {hp hp':Nat→Option aj} {C:ag} {B:Nat} {M:Nat→Prop} {w0:Start}
theorem kj.left {n:Nat} {a b:List aj} (h:kj hp' au n (a++b)):kj hp' au n a:=fun k x hx=>
 h k x (by rw[List.getElem?_append_left (List.getElem?_eq_some_iff.1 hx).1];exact hx)
theorem kj.right {n:Nat} {a b:List aj} (h:kj hp' au n (a++b)):kj hp' au (n+a.length) b:=fun k x hx=>by
 have:=h (a.length+k) x (by rw[List.getElem?_append_right (by omega),Nat.add_sub_cancel_left];exact hx)
 rwa [←Nat.add_assoc] at this
def lT (bs:List aj):Prop:= ∀b∈bs,∃e,b= .arr e [] false
theorem lT.app {a b:List aj} (h1:lT a) (h2:lT b):lT (a++b):=fun x hx=>(List.mem_append.1 hx).elim (h1 x) (h2 x)
theorem lT.nil:lT []:=fun x hx=>by simp at hx
theorem Pv {ord:List Nat} {n:Nat} {x:V}:lT (uO hp ord n x).2:=by
 cases x<;>simp only[uO]<;>first|exact .nil|skip
 intro b hb
 simp only[List.mem_singleton] at hb
 exact ⟨_,hb⟩
theorem Ih {ord:List Nat}: ∀{xs:List V} {n:Nat},lT (mz hp ord n xs).2
 | [],n=> .nil
 | x::xs,n=>by
  simp only[mz]
  exact Pv.app Ih
theorem Du {ord:List Nat}: ∀{xs:List V} {n:Nat},(mz hp ord n xs).1.length=xs.length
 | [],n=>rfl
 | x::xs,n=>by simp only[mz,List.length_cons,Du]
theorem Dv (S:aE P w I β hp B M w0) {ord:List Nat} (hR:vz hp β ord hp' au): ∀{xs:List V} {vs:List Value} {n:Nat},(∀(j:Nat) v x,vs[j]? =some v→xs[j]? =some x→an P w I β hp v x)→
  kj hp' au n (mz hp ord n xs).2→∀(j:Nat) v y,vs[j]? =some v→(mz hp ord n xs).1[j]? =some y→an P w I au hp' v y
 | [],vs,n,h,hF,j,v,y,hv,hy=>by simp[mz] at hy
 | x::xs,vs,n,h,hF,j,v,y,hv,hy=>by
  simp only[mz] at hF hy
  cases j with
  | zero=>
   simp at hy
   subst hy
   exact Pu S hR (h 0 v x hv rfl) hF.left
  | succ j=>
   cases vs with
   | nil=>simp at hv
   | cons v0 vs=>exact Dv S hR (vs:=vs) (fun j v x hj hx=>h (j+1) v x (by simpa using hj) (by simpa using hx)) hF.right j v y (by simpa using hv) (by simpa using hy)
theorem YY {ord:List Nat} {n:Nat} {x:V}:lT (pI hp ord n x).2:=by
 cases x<;>simp only[pI]<;>first|exact Pv|exact Ih
theorem YZ (S:aE P w I β hp B M w0) {ord:List Nat} (hR:vz hp β ord hp' au) {n:Nat} {v:Value} {x:V} (hv:an P w I β hp v x) (hF:kj hp' au n (pI hp ord n x).2):
  an P w I au hp' v (pI hp ord n x).1:=by
 cases x with
 | agg cs=>
  obtain ⟨ds,rfl,h1,h2⟩:=hv.ka
  simp only[pI] at hF⊢
  exact .agg (by rw[Du];exact h1) fun j v y hj hy=>Dv S hR (vs:=ds.toList) (fun j v x hj hx=>h2 j v x (by simpa using hj) hx) hF j v y (by simpa using hj) hy
 | bf cs=>
  obtain ⟨ds,rfl,h1,h2⟩:=hv.sM
  simp only[pI] at hF⊢
  exact .bf (by rw[Du];exact h1) fun j v y hj hy=>Dv S hR (vs:=ds.toList) (fun j v x hj hx=>h2 j v x (by simpa using hj) hx) hF j v y (by simpa using hj) hy
 | _=>exact Pu S hR hv hF
theorem Pw {ord:List Nat} {sl:Nat→V}: ∀{l:List Nat} {n:Nat},lT (kJ hp ord sl n l).2
 | [],n=> .nil
 | s::l,n=>by
  simp only[kJ]
  exact YY.app Pw
theorem Px {ord:List Nat} {sl:Nat→V} {k:Nat} {y:V}: ∀{l:List Nat} {n:Nat},kj hp' au n (kJ hp ord sl n l).2→dJ (kJ hp ord sl n l).1 k=some y→
  ∃n',kj hp' au n' (pI hp ord n' (sl k)).2∧y=(pI hp ord n' (sl k)).1
 | [],n,_,h=>by cases h
 | s::l,n,hF,h=>by
  simp only[kJ] at hF h
  simp only[dJ] at h
  cases hb:Nat.beq k s with
  | true=>
   rw[hb] at h
   rw[Nat.beq_eq] at hb
   subst hb
   cases h
   exact ⟨n,hF.left,rfl⟩
  | false=>
   rw[hb] at h
   exact Px hF.right h
theorem Y0 {ord:List Nat} {n id:Nat}:lT (eT hp ord n id).2:=by
 unfold eT
 split
 ·exact Ih
 ·exact .nil
 ·exact .nil
 ·exact .nil
 ·exact .nil
theorem Py {ord:List Nat}: ∀{l:List Nat} {n:Nat},lT (fx hp ord n l).2
 | [],n=> .nil
 | s::l,n=>by
  simp only[fx]
  exact Y0.app Py
theorem Pz {ord:List Nat}: ∀{l:List Nat} {n:Nat},(fx hp ord n l).1.length=l.length
 | [],n=>rfl
 | x::xs,n=>by simp only[fx,List.length_cons,Pz]
theorem PA {ord:List Nat}: ∀{l:List Nat} {n j:Nat} {id:Nat},l[j]? =some id→∃n',(kj hp' au n (fx hp ord n l).2→kj hp' au n' (eT hp ord n' id).2)∧(fx hp ord n l).1[j]? =some (eT hp ord n' id).1
 | [],n,j,id,h=>by simp at h
 | s::l,n,j,id,h=>by
  simp only[fx]
  cases j with
  | zero=>
   simp at h
   subst h
   exact ⟨n,fun hF=>hF.left,rfl⟩
  | succ j=>
   obtain ⟨n',h1,h2⟩:=PA (n:=n+(eT hp ord n s).2.length) (j:=j) (by simpa using h)
   exact ⟨n',fun hF=>h1 hF.right,by simpa using h2⟩
theorem Dw: ∀{l acc:List Nat},∃t,sx hp acc l=acc++t∧(acc.Nodup→(acc++t).Nodup)
 | [],acc=>⟨[],by simp[sx],by simp⟩
 | id::l,acc=>by
  simp only[sx]
  cases hb:(jz acc id|| !(GJ hp id)) with
  | true=>exact Dw
  | false=>
   obtain ⟨t,h1,h2⟩:=Dw (l:=l) (acc:=acc++[id])
   refine ⟨id::t,by simp only[cond_false,h1,List.append_assoc,List.singleton_append],fun hn=> ?_⟩
   have:acc++id::t=(acc++[id])++t:=by simp
   rw[this]
   refine h2 ?_
   rw[List.nodup_append]
   refine ⟨hn,by simp,fun a ha b az=> ?_⟩
   simp only[List.mem_singleton] at az
   subst az
   intro e
   subst e
   rw[u6 ha] at hb
   cases hb
theorem PB: ∀{n:Nat} {l:List Nat},∃t,grow hp n l=l++t∧(l.Nodup→(l++t).Nodup)
 | 0,l=>⟨[],by simp[grow],by simp⟩
 | n+1,l=>by
  simp only[grow]
  obtain ⟨t,h1,h2⟩:=Dw (hp:=hp) (acc:=l) (l:=l.flatMap (GK hp))
  rw[h1]
  obtain ⟨t',h3,h4⟩:=PB (n:=n) (l:=l++t)
  exact ⟨t++t',by rw[h3,List.append_assoc],fun hn=>by rw[←List.append_assoc];exact h4 (h2 hn)⟩
theorem Y1 {m:Nat} {live:List Nat} {st:St}: ∃t,GL m live st=List.range m++t∧(List.range m++t).Nodup:=by
 unfold GL
 obtain ⟨t,h1,h2⟩:=Dw (hp:=st.hp) (acc:=List.range m) (l:=live.flatMap fun s=>GI (st.sl s))
 rw[h1]
 obtain ⟨t',h3,h4⟩:=PB (hp:=st.hp) (n:=3) (l:=List.range m++t)
 exact ⟨t++t',by rw[h3,List.append_assoc],by rw[←List.append_assoc];exact h4 (h2 List.nodup_range)⟩
end
end Go.AM
namespace Go.AM
section
variable {P:Program} {A:cF} {E:FuncId→Bool} {G:Nat→V} {w w':World} {I I' I2:Nat→Prop} {μ β au:Nat→Option Nat} {hp hp' hp0:Nat→Option aj} {C:ag} {B:Nat} {M:Nat→Prop} {w0:Start}
theorem PC {n m:Nat} {ord live:List Nat} {a:Act} {st:St} (mE:ord.Nodup) (yE: ∀id,id<m→ord[id]? =some id∨∃p,ord[id]? =some p∧st.hp p=none) (S:aE P w I β st.hp B M w0) (hA:iD P E G w I β n a st) (hE:kh w0.w w0.I μ hp0 w I β st.hp) (hm: ∀id blk,hp0 id=some blk→id<m) (iX: ∀id e es ao,hp0 id=some (.nest e es ao)→∀k,bE ao k=0):
  ∃au,aE P w I au (uP ord live st).hp B M w0∧iD P E G w I au n a (uP ord live st)∧kh w0.w w0.I μ hp0 w I au (uP ord live st).hp:=by
 have Y2:uP ord live st=mk (kJ st.hp ord st.sl (ord.length+(fx st.hp ord ord.length ord).2.length) live).1
   ((fx st.hp ord ord.length ord).1++((fx st.hp ord ord.length ord).2++(kJ st.hp ord st.sl (ord.length+(fx st.hp ord ord.length ord).2.length) live).2)):=by
  rfl
 rw[Y2]
 let hp':=jc ((fx st.hp ord ord.length ord).1++((fx st.hp ord ord.length ord).2++(kJ st.hp ord st.sl (ord.length+(fx st.hp ord ord.length ord).2.length) live).2))
 let au:Nat→Option Nat:=fun j=>if j<ord.length then (ord[j]?).bind β else none
 have hlen:(fx st.hp ord ord.length ord).1.length=ord.length:=Pz
 have iB: ∀j,j<ord.length→hp' j=(fx st.hp ord ord.length ord).1[j]? :=by
  intro j hj
  simp only[hp',gE]
  rw[List.getElem?_append_left (by omega)]
 have gD: ∀k,hp' (ord.length+k)=((fx st.hp ord ord.length ord).2++(kJ st.hp ord st.sl (ord.length+(fx st.hp ord ord.length ord).2.length) live).2)[k]? :=by
  intro k
  simp only[hp',gE]
  rw[List.getElem?_append_right (by omega),hlen,Nat.add_sub_cancel_left]
 have hF:kj hp' au ord.length ((fx st.hp ord ord.length ord).2++(kJ st.hp ord st.sl (ord.length+(fx st.hp ord ord.length ord).2.length) live).2):=by
  intro k b hb
  refine ⟨(gD k).trans hb,?_⟩
  simp only[au]
  rw[if_neg (by omega)]
 have yB:lT ((fx st.hp ord ord.length ord).2++(kJ st.hp ord st.sl (ord.length+(fx st.hp ord ord.length ord).2.length) live).2):=Py.app Pw
 have nZ: ∀(j:Nat) id,ord[j]? =some id→au j=β id:=by
  intro j id hj
  simp only[au]
  rw[if_pos (List.getElem?_eq_some_iff.1 hj).1,hj]
  rfl
 have qb: ∀(j:Nat) id,ord[j]? =some id→∃n',kj hp' au n' (eT st.hp ord n' id).2∧hp' j=some (eT st.hp ord n' id).1:=by
  intro j id hj
  obtain ⟨n',h1,h2⟩:=PA (hp:=st.hp) (hp':=hp') (au:=au) (ord:=ord) (n:=ord.length) hj
  exact ⟨n',h1 hF.left,(iB j (List.getElem?_eq_some_iff.1 hj).1).trans h2⟩
 have hR:vz st.hp β ord hp' au:=by
  refine ⟨fun j id e es fz hj aa=> ?_,fun j id T cs hj aa=> ?_,fun j id hj aa=> ?_,nZ,fun j id e es ao hj aa=> ?_,fun j id t es hj aa=> ?_⟩
  ·obtain ⟨n',_,h2⟩:=qb j id hj
   rw[h2];simp only[eT,aa]
  ·obtain ⟨n',_,h2⟩:=qb j id hj
   rw[h2];simp only[eT,aa];exact ⟨_,rfl⟩
  ·obtain ⟨n',_,h2⟩:=qb j id hj
   rw[h2];simp only[eT,aa]
  ·obtain ⟨n',_,h2⟩:=qb j id hj
   rw[h2];simp only[eT,aa]
  ·obtain ⟨n',_,h2⟩:=qb j id hj
   rw[h2];simp only[eT,aa]
 have cls: ∀j blk',hp' j=some blk'→(∃id,ord[j]? =some id∧((blk'= .dead)∨∃blk,st.hp id=some blk∧blk≠ .dead∧∀o b,bz P w o blk' b→bz P w o blk b))∨(∃e,blk'= .arr e [] false∧au j=none):=by
  intro j blk' hj
  rcases Nat.lt_or_ge j ord.length with h|h
  ·have gk:=List.getElem?_eq_getElem h
   obtain ⟨n',_,h2⟩:=qb j _ gk
   rw[hj] at h2
   refine .inl ⟨_,gk,?_⟩
   cases aa:st.hp ord[j] with
   | none=>left;simp only[eT,aa] at h2;exact Option.some.inj h2
   | some blk=>
    cases blk with
    | dead=>left;simp only[eT,aa] at h2;exact Option.some.inj h2
    | var T0 cs=>exact .inr ⟨_,rfl,by simp,fun o b h=>by simp only[eT,aa] at h2;rw[Option.some.inj h2] at h;exact .root (by simp) (h.flat (by simp))⟩
    | arr e es fz=>exact .inr ⟨_,rfl,by simp,fun o b h=>by simp only[eT,aa] at h2;rw[Option.some.inj h2] at h;exact .root (by simp) (h.flat (by simp))⟩
    | map t es=>exact .inr ⟨_,rfl,by simp,fun o b h=>by simp only[eT,aa] at h2;rw[Option.some.inj h2] at h;exact .root (by simp) (h.flat (by simp))⟩
    | nest e es ao=>
     refine .inr ⟨_,rfl,by simp,fun o b h=> ?_⟩
     simp only[eT,aa] at h2
     rw[Option.some.inj h2] at h
     cases h with
     | root _ h=>exact .root (by simp) h
     | row h1 h2=>exact .row h1 h2
  ·obtain ⟨k,rfl⟩: ∃k,j=ord.length+k:=⟨j-ord.length,by omega⟩
   rw[gD] at hj
   obtain ⟨e,he⟩:=yB _ (List.mem_of_getElem? hj)
   exact .inr ⟨e,he,(hF k _ hj).2⟩
 refine ⟨au,⟨⟨fun j blk' hj=> ?_,fun j1 j2 b1 b2 b e1 e2 f1 f2=> ?_,fun j blk b e1 f1=> ?_,S.h.jf⟩,S.b9,S.size,S.new,S.io⟩,⟨fun k=> ?_,hA.size,hA.defers,hA.aD⟩,⟨hE.dq,hE.b9,fun id blk aa=> ?_,fun id blk blk' b aa bG hd hb=> ?_⟩⟩
 ·change hp' j=some blk' at hj
  rcases Nat.lt_or_ge j ord.length with h|h
  ·have gk:=List.getElem?_eq_getElem h
   obtain ⟨n',PD,h2⟩:=qb j _ gk
   rw[hj] at h2
   rw[nZ j _ gk]
   cases aa:st.hp ord[j] with
   | none=>simp only[eT,aa] at h2;rw[Option.some.inj h2];exact .dead
   | some blk=>
    have hr:=S.h.rel _ _ aa
    generalize β ord[j]=o at hr
    cases hr with
    | dead=>simp only[eT,aa] at h2;rw[Option.some.inj h2];exact .dead
    | dL hb=>simp only[eT,aa] at h2;rw[Option.some.inj h2];exact .dL hb
    | arr a1 a2 a3 a4 a5 a6 a7=>simp only[eT,aa] at h2;rw[Option.some.inj h2];exact .arr a1 a2 a3 a4 a5 a6 a7
    | nest a1 a2 a3=>simp only[eT,aa] at h2;rw[Option.some.inj h2];exact .nest a1 a2 a3
    | map a1 a2 a3 a4 a5 a6 a7=>simp only[eT,aa] at h2;rw[Option.some.inj h2];exact .map a1 a2 a3 a4 a5 a6 a7
    | @var xs b Ca T hb hh hs cP hx fY=>
     simp only[eT,aa] at h2 PD
     rw[Option.some.inj h2]
     exact .var hb hh (by rw[Du];exact hs) cP (fun i v y hi hy=>Dv S hR (vs:=Ca.toList) (fun i v x hi cy=>hx i v x (by simpa using hi) cy) PD i v y (by simpa using hi) hy) fY
  ·rcases cls j blk' hj with ⟨id,aa,_⟩|⟨e,he,hb⟩
   ·have:=(List.getElem?_eq_some_iff.1 aa).1;omega
   ·rw[he];exact .dL hb
 ·rcases cls j1 b1 e1 with ⟨Ii,o1,x1⟩|⟨e,_,hb⟩
  ·rcases cls j2 b2 e2 with ⟨cB,o2,x2⟩|⟨e,_,hb⟩
   ·obtain ⟨c1,y1,z1,g1⟩:=x1.resolve_left f1.alive
    obtain ⟨c2,y2,z2,g2⟩:=x2.resolve_left f2.alive
    rw[nZ _ _ o1] at f1
    rw[nZ _ _ o2] at f2
    have:=S.h.inj Ii cB c1 c2 b y1 y2 (g1 _ _ f1) (g2 _ _ f2)
    subst this
    obtain ⟨q1,q2⟩:=List.getElem?_eq_some_iff.1 o1
    obtain ⟨q3,q4⟩:=List.getElem?_eq_some_iff.1 o2
    exact (List.getElem_inj mE).1 (q2.trans q4.symm)
   ·subst ‹b2=_›;have:=f2.flat (by simp);rw[hb] at this;cases this
  ·subst ‹b1=_›;have:=f1.flat (by simp);rw[hb] at this;cases this
 ·rcases cls j blk e1 with ⟨Ii,o1,x1⟩|⟨e,_,hb⟩
  ·obtain ⟨c1,y1,z1,g1⟩:=x1.resolve_left f1.alive
   rw[nZ _ _ o1] at f1
   exact S.h.own Ii c1 b y1 (g1 _ _ f1)
  ·subst ‹blk=_›;have:=f1.flat (by simp);rw[hb] at this;cases this
 ·change an P w I au hp' (a.tmps.getD k undef) (iN _ k)
  unfold iN
  cases HU:dJ (kJ st.hp ord st.sl (ord.length+(fx st.hp ord ord.length ord).2.length) live).1 k with
  | none=>exact .undef
  | some y=>
   obtain ⟨n',h1,h2⟩:=Px hF.right HU
   simp only[Option.getD_some,h2]
   exact YZ S hR (hA.sl k) h1
 ·obtain ⟨p7,k1,k2,k3⟩:=hE.blk id blk aa
  rcases yE id (hm id blk aa) with ho|⟨p,ho,bt⟩
  ·cases p7 with
   | dead=>exact ⟨.dead,hR.dead id id ho k1,k2,fun h=>absurd rfl h⟩
   | var T0 cs=>
    obtain ⟨gW,h'⟩:=hR.var id id T0 cs ho k1
    refine ⟨_,h',?_,fun _=>(nZ id id ho).trans (k3 (by simp))⟩
    cases blk<;>simp_all [aj.le]
   | arr e es fz=>exact ⟨_,hR.arr id id e es fz ho k1,k2,fun _=>(nZ id id ho).trans (k3 (by simp))⟩
   | map t es=>exact ⟨_,hR.map id id t es ho k1,k2,fun _=>(nZ id id ho).trans (k3 (by simp))⟩
   | nest e es ao=>
    refine ⟨_,hR.nest id id e es ao ho k1,?_,fun _=>(nZ id id ho).trans (k3 (by simp))⟩
    obtain ⟨GU,V8,rfl,l1,l2,_⟩:=aj.GR k2
    exact ⟨rfl,l1,by simpa using l2,fun k=>by rw[iX id _ _ _ aa k];exact Nat.zero_le _⟩
  ·obtain ⟨n',_,h2⟩:=qb id p ho
   simp only[eT,bt] at h2
   exact ⟨.dead,h2,by cases blk<;>trivial,fun h=>absurd rfl h⟩
 ·obtain ⟨p7,k1,k2,k3⟩:=hE.blk id blk aa
  rcases yE id (hm id blk aa) with ho|⟨p,ho,bt⟩
  ·refine hE.size id blk p7 b aa k1 (fun qa=> ?_) hb
   subst qa
   have:=hR.dead id id ho k1
   change hp' id=some blk' at bG
   rw[this] at bG
   exact hd (Option.some.inj bG).symm
  ·obtain ⟨n',_,h2⟩:=qb id p ho
   simp only[eT,bt] at h2
   change hp' id=some blk' at bG
   rw[h2] at bG
   exact absurd (Option.some.inj bG).symm hd
theorem Y3 {n m:Nat} {live:List Nat} {a:Act} {st:St} (S:aE P w I β st.hp B M w0) (hA:iD P E G w I β n a st) (hE:kh w0.w w0.I μ hp0 w I β st.hp) (hm: ∀id blk,hp0 id=some blk→id<m) (iX: ∀id e es ao,hp0 id=some (.nest e es ao)→∀k,bE ao k=0):
  ∃au,aE P w I au (canon m live st).hp B M w0∧iD P E G w I au n a (canon m live st)∧kh w0.w w0.I μ hp0 w I au (canon m live st).hp:=by
 obtain ⟨t,yE,mE⟩:=Y1 (m:=m) (live:=live) (st:=st)
 refine PC (by rw[yE];exact mE) (fun id aS=> .inl ?_) S hA hE hm iX
 rw[yE,List.getElem?_append_left (by simpa using aS)]
 simp[aS]
theorem PE: ∀{l:List Nat},nC l=true→l.Nodup
 | [],_=> .nil
 | a::l,h=>by
  simp only[nC,Bool.and_eq_true,Bool.not_eq_true'] at h
  rw[List.nodup_cons]
  exact ⟨fun hm=>Bool.noConfusion ((u6 hm).symm.trans h.1),PE h.2⟩
theorem Y4 {m:Nat} {mv:List Nat} {id:Nat} (h:id<m):(lE m mv)[id]? =some id∨(lE m mv)[id]? =some (m+id):=by
 unfold lE
 rw[List.getElem?_append_left (by simpa using h),List.getElem?_map]
 simp only[List.getElem?_range h,Option.map_some]
 cases jz mv id with
 | true=>exact .inr rfl
 | false=>exact .inl rfl
end
end Go.AM
namespace Go.AM
section
variable {P:Program} {A:cF} {w w':World} {I I' I2:Nat→Prop} {μ β au:Nat→Option Nat} {hp hp' hp0:Nat→Option aj} {C:ag} {B:Nat} {M:Nat→Prop} {w0:Start}
theorem Dx (p:Nat→Prop) (h: ∃n,p n): ∃n,p n∧∀m,p m→n≤m:=by
 obtain ⟨n,hn⟩:=h
 induction n using Nat.strongRecOn with
 | _ n ih=>
  by_cases hx: ∃m,m<n∧p m
  ·obtain ⟨m,hm,hp⟩:=hx
   exact ih m hm hp
  ·exact ⟨n,hn,fun m hm=>Nat.le_of_not_lt fun aS=>hx ⟨m,aS,hm⟩⟩
open Classical in
theorem Y5 {c:Code} {Q:Exit→Act→World→Prop} (J:Nat→Act→World→Prop) (h0: ∀a w,¬J 0 a w) (round: ∀n a w,J (n+1) a w→c.wp P (Exit.then (J n) Q) a w) {n:Nat} {a:Act} {w:World} (h:J n a w):
  (Code.loop c).wp P Q a w:=by
 refine wp_loop (fun a w=> ∃n,J n a w) (fun a w=>if h: ∃n,J n a w then (Dx _ h).choose else 0) ⟨n,h⟩ fun a w hJ=> ?_
 obtain ⟨h1,h2⟩:=(Dx _ hJ).choose_spec
 generalize hk:(Dx _ hJ).choose=k at h1 h2
 cases k with
 | zero=>exact absurd h1 (h0 a w)
 | succ k=>
  refine wp_mono (round k a w h1) fun e a' w' he=> ?_
  cases e with
  | normal=>
   have hex: ∃n,J n a' w':=⟨k,he⟩
   refine ⟨hex,?_⟩
   have h3:=(Dx _ hex).choose_spec.2 k he
   rw[dif_pos hex,dif_pos hJ,hk]
   omega
  | _=>exact he
def vA:Out→Exit
 | .norm=> .normal
 | .exit id=> .exit id
 | .ret=> .ret
def Inv (P:Program) (E:FuncId→Bool) (G:Nat→V) (B:Nat) (M:Nat→Prop) (w0:Start) (μ:Nat→Option Nat) (hp0:Nat→Option aj) (n:Nat) (a:Act) (w:World) (st:St):Prop:=
 ∃I β,aE P w I β st.hp B M w0∧iD P E G w I β n a st∧kh w0.w w0.I μ hp0 w I β st.hp
theorem Inv.canon {E:FuncId→Bool} {G:Nat→V} {n m:Nat} {a:Act} {st:St} {live:List Nat} (h:Inv P E G B M w0 μ hp0 n a w st) (hm: ∀id blk,hp0 id=some blk→id<m) (iX: ∀id e es ao,hp0 id=some (.nest e es ao)→∀k,bE ao k=0):Inv P E G B M w0 μ hp0 n a w (canon m live st):=by
 obtain ⟨I,β,S,hA,hE⟩:=h
 obtain ⟨au,a,b,c⟩:=Y3 (live:=live) S hA hE hm iX
 exact ⟨I,au,a,b,c⟩
theorem Dy: ∀{l:List BS} {ds:List V},(eJ l ds).length=l.length
 | [],_=>rfl
 | b::l,ds=>by simp only[eJ,List.length_cons,Dy]
theorem Inv.enter {A:cF} {E:FuncId→Bool} {G:Nat→V} {n f:Nat} {ds:List V} {a:Act} (jO:nC (lE (A.sin f).aZ.length (A.mv f))=true) (h:Inv P E G B M w0 μ hp0 n a w (bn (A.sin f) ds)) (hm: ∀id blk,hp0 id=some blk→id<(A.sin f).aZ.length)
  (iX: ∀id e es ao,hp0 id=some (.nest e es ao)→∀k,bE ao k=0) (vB: ∀p,(A.sin f).aZ.length≤p→(bn (A.sin f) ds).hp p=none):Inv P E G B M w0 μ hp0 n a w (xB A f ds):=by
 unfold xB
 split
 ·exact h
 ·obtain ⟨I,β,S,hA,hE⟩:=h
  obtain ⟨au,x,y,z⟩:=PC (m:=(A.sin f).aZ.length) (ord:=lE (A.sin f).aZ.length (A.mv f)) (live:=(A.sin f).bI.map (·.1)) (PE jO) (fun id aa=>(Y4 aa).imp (fun h=>h) fun h=>⟨_,h,vB _ (by omega)⟩) S hA hE hm iX
  exact ⟨I,au,x,y,z⟩
theorem Inv.reshape {E:FuncId→Bool} {G:Nat→V} {n m:Nat} {a:Act} {st:St} {S:Shape} {ds:List V} (h:Inv P E G B M w0 μ hp0 n a w st) (hs:iq m S st=some ds) (hm: ∀id blk,hp0 id=some blk→id<m):Inv P E G B M w0 μ hp0 n a w (bn S ds):=by
 obtain ⟨I,β,S1,hA,hE⟩:=h
 obtain ⟨r1,r2,_,r4⟩:=AM.reshape hs S1
 refine ⟨I,β,r1,⟨fun k=>r2 k _ (hA.sl k),hA.size,hA.defers,hA.aD⟩,⟨hE.dq,hE.b9,fun id blk aa=> ?_,fun id blk blk' b aa bG hd hb=> ?_⟩⟩
 ·obtain ⟨p7,k1,k2,k3⟩:=hE.blk id blk aa
  obtain ⟨_,hle,_⟩:=On hs
  have hl:=hm id blk aa
  obtain ⟨bW,h2⟩: ∃bW,(bn S ds).hp id=some bW:=by
   simp only[bn,mk,gE]
   exact ⟨_,List.getElem?_eq_getElem (by rw[Dy];omega)⟩
  by_cases hd:bW= .dead
  ·subst hd
   exact ⟨_,h2,by cases blk<;>trivial,fun h=>absurd rfl h⟩
  ·obtain ⟨gy,e1,e2,_⟩:=r4 id bW h2 hd
   rw[k1] at e1;cases e1
   exact ⟨_,h2,aj.le_trans k2 e2,fun _=>k3 (fun e=>hd (aj.oQ (e▸e2)))⟩
 ·obtain ⟨gy,e1,e2,_⟩:=r4 id blk' bG hd
  exact hE.size id blk gy b aa e1 (fun e=>hd (aj.oQ (e▸e2))) hb
theorem ki.here (h:ki P A C) (f:Nat) (id:Nat):ki P (A.here f id) C:=by
 intro key ds es hh
 obtain ⟨fn,c,h1,h2,h3⟩:=h key ds es hh
 refine ⟨fn,c,h1,h2,fun w I μ vals a g b d=>(h3 w I μ vals a g b d).mono fun e w' hx=> ?_⟩
 obtain ⟨v,I2,bX,q1,q2⟩:=hx
 exact ⟨v,I2,bX,q1,⟨q2.vo,q2.le,q2.res⟩⟩
theorem Y6 {a b:Out} (h:Ci a b=true):a=b:=by
 cases a<;>cases b<;>simp[Ci] at h<;>first|rfl|(subst h;rfl)
theorem PF {m:Nat} {r:Out × St}: ∀{l:List (Out × Shape)} {j:Nat} {e:Nat × List V},ways m j l r=some e→j≤e.1
 | [],j,e,h=>by cases h
 | (o,S)::l,j,e,h=>by
  simp only[ways] at h
  split at h
  ·cases h;exact Nat.le_refl _
  ·have:=PF h;omega
theorem Ij {m:Nat} {o:Out} {s:St} {out:Out} {st':St}: ∀{l:List (Out × Shape)} {k:Nat} {e:Nat × List V},ways m k l (o,s)=some e→jE k l e.1 e.2 (fun o st=>some (o,st))=some (out,st')→
  out=o∧∃S,iq m S s=some e.2∧st'=bn S e.2
 | [],k,e,h,_=>by cases h
 | (o',S)::l,k,e,h,h2=>by
  simp only[ways] at h
  split at h
  ·rename_i ds hx
   cases h
   cases ho:Ci o' o with
   | false=>rw[ho] at hx;cases hx
   | true=>
    rw[ho] at hx
    have:=Y6 ho
    subst this
    cases l with
    | nil=>
     simp only[jE,Option.some.injEq,Prod.mk.injEq] at h2
     exact ⟨h2.1.symm,S,hx,h2.2.symm⟩
    | cons p l=>
     simp only[jE,Nat.beq_refl,cond_true,Option.some.injEq,Prod.mk.injEq] at h2
     exact ⟨h2.1.symm,S,hx,h2.2.symm⟩
  ·have oX:=PF h
   cases l with
   | nil=>cases h
   | cons p l=>
    have bM:Nat.beq e.1 k=false:=by
     cases hb:Nat.beq e.1 k with
     | false=>rfl
     | true=>rw[Nat.beq_eq] at hb;omega
    simp only[jE,bM,cond_false] at h2
    exact Ij h h2
theorem Y7 (hC:ki P A C) (hP:iW P A) (o8:P.follows .mixedOrders=true) {f n m:Nat} (hm: ∀id blk,hp0 id=some blk→id<m) (iX: ∀id e es ao,hp0 id=some (.nest e es ao)→∀k,bE ao k=0):
  ∀(c:Code) {st st':St} {out:Out} {Q:Exit→Act→World→Prop} {a:Act} {w:World},exec P A C f n m c st=some (out,st')→Inv P A.idle A.aD B M w0 μ hp0 n a w st→
   (∀a' w',Inv P A.idle A.aD B M w0 μ hp0 n a' w' st'→Q (vA out) a' w')→c.wp P Q a w:=by
 intro c
 induction c with
 | skip=>
  intro st st' out Q a w h hI hQ
  simp only[exec,Option.some.injEq,Prod.mk.injEq] at h
  obtain ⟨rfl,rfl⟩:=h
  exact wp_skip (hQ a w hI)
 | exit id=>
  intro st st' out Q a w h hI hQ
  simp only[exec,Option.some.injEq,Prod.mk.injEq] at h
  obtain ⟨rfl,rfl⟩:=h
  exact wp_exit (hQ a w hI)
 | ret=>
  intro st st' out Q a w h hI hQ
  simp only[exec,Option.some.injEq,Prod.mk.injEq] at h
  obtain ⟨rfl,rfl⟩:=h
  exact wp_ret (hQ a w hI)
 | region id ops draw=>
  intro st st' out Q a w h hI hQ
  simp only[exec] at h
  obtain ⟨iE,h1,h2⟩:=bind_some h
  simp only[Option.some.injEq,Prod.mk.injEq] at h2
  obtain ⟨rfl,rfl⟩:=h2
  obtain ⟨I,β,S,hA,hE⟩:=hI
  refine YW (hC.here f id) (hP.here f id) o8 h1 S hA fun a' w' I' au k1 k2 k3=> ?_
  obtain ⟨I2,l1,l2,l3⟩:=Pq (m:=m) (pur:=A.pur f id) k2 k3
  have Y8:=(hE.trans k1.Dc).trans l1.Dc
  exact hQ a' w' (Inv.canon ⟨I2,au,l2,l3,Y8⟩ hm iX)
 | seq x y fG fH=>
  intro st st' out Q a w h hI hQ
  simp only[exec] at h
  obtain ⟨⟨o1,iE⟩,h1,h2⟩:=bind_some h
  refine wp_seq (fG h1 hI fun a' w' jq=> ?_)
  cases o1 with
  | norm=>exact fH h2 jq hQ
  | exit id=>
   simp only[Option.some.injEq,Prod.mk.injEq] at h2
   obtain ⟨rfl,rfl⟩:=h2
   exact hQ a' w' jq
  | ret=>
   simp only[Option.some.injEq,Prod.mk.injEq] at h2
   obtain ⟨rfl,rfl⟩:=h2
   exact hQ a' w' jq
 | cond c x y fG fH=>
  intro st st' out Q a w h hI hQ
  cases c with
  | tmp t=>
   have go: ∀{st st':St} {out:Out} {Q:Exit→Act→World→Prop} {a:Act} {w:World},(match st.sl t with
     | .bool b=>(bif b then exec P A C f n m x st else exec P A C f n m y st).bind fun r=>
      match r.1 with
      | .norm=>some (.norm,AM.canon m (A.join f t) r.2)
      | _=>some r
     | _=>none)=some (out,st')→Inv P A.idle A.aD B M w0 μ hp0 n a w st→(∀a' w',Inv P A.idle A.aD B M w0 μ hp0 n a' w' st'→Q (vA out) a' w')→(Code.cond (.tmp t) x y).wp P Q a w:=by
    intro st st' out Q a w h hI hQ
    cases hs:st.sl t<;>rw[hs] at h<;>simp only at h<;>first|(cases h;done)|skip
    rename_i b
    obtain ⟨⟨o1,iE⟩,h1,h2⟩:=bind_some h
    obtain ⟨I,β,S,hA,hE⟩:=hI
    have eX:a.eval (.tmp t)= .bool b:=by
     have:=OX hA hs
     simp[Act.eval,this]
    have fin: ∀a' w',Inv P A.idle A.aD B M w0 μ hp0 n a' w' iE→Q (vA o1) a' w':=by
     intro a' w' jq
     cases o1 with
     | norm=>
      simp only[Option.some.injEq,Prod.mk.injEq] at h2
      obtain ⟨rfl,rfl⟩:=h2
      exact hQ a' w' (jq.canon hm iX)
     | exit id=>
      simp only[Option.some.injEq,Prod.mk.injEq] at h2
      obtain ⟨rfl,rfl⟩:=h2
      exact hQ a' w' jq
     | ret=>
      simp only[Option.some.injEq,Prod.mk.injEq] at h2
      obtain ⟨rfl,rfl⟩:=h2
      exact hQ a' w' jq
    refine wp_cond eX ?_
    cases b with
    | true=>exact fG h1 ⟨I,β,S,hA,hE⟩ fin
    | false=>exact fH h1 ⟨I,β,S,hA,hE⟩ fin
   simp only[exec] at h
   split at h
   ·exact go h hI hQ
   ·obtain ⟨ds,h1,h2⟩:=bind_some h
    obtain ⟨e,h3,h4⟩:=bind_some h2
    obtain ⟨⟨o1,s1⟩,h5,h6⟩:=bind_some h3
    obtain ⟨rfl,S',k1,rfl⟩:=Ij h6 h4
    exact go h5 (hI.reshape h1 hm) fun a' w' jq=>hQ a' w' (jq.reshape k1 hm)
  | const v=>
   cases v with
   | bool b=>
    simp only[exec] at h
    refine wp_cond (t:=b) rfl ?_
    cases b with
    | true=>exact fG h hI hQ
    | false=>exact fH h hI hQ
   | _=>simp only[exec] at h;cases h
  | _=>simp only[exec] at h;cases h
 | block id c ih=>
  intro st st' out Q a w h hI hQ
  simp only[exec] at h
  obtain ⟨⟨o1,iE⟩,h1,h2⟩:=bind_some h
  refine wp_block (ih h1 hI fun a' w' jq=> ?_)
  cases o1 with
  | norm=>
   simp only[Option.some.injEq,Prod.mk.injEq] at h2
   obtain ⟨rfl,rfl⟩:=h2
   exact hQ a' w' (jq.canon hm iX)
  | exit aC=>
   simp only at h2
   cases hb:Nat.beq aC id with
   | true=>
    rw[hb] at h2
    simp only[cond_true,Option.some.injEq,Prod.mk.injEq] at h2
    obtain ⟨rfl,rfl⟩:=h2
    rw[Nat.beq_eq] at hb
    simp only[vA,Exit.inBlock,hb,if_true]
    exact hQ a' w' (jq.canon hm iX)
   | false=>
    rw[hb] at h2
    simp only[cond_false,Option.some.injEq,Prod.mk.injEq] at h2
    obtain ⟨rfl,rfl⟩:=h2
    have bM:aC≠id:=fun e=>by rw[e,Nat.beq_refl] at hb;cases hb
    simp only[vA,Exit.inBlock,bM,if_false]
    exact hQ a' w' jq
  | ret=>
   simp only[Option.some.injEq,Prod.mk.injEq] at h2
   obtain ⟨rfl,rfl⟩:=h2
   exact hQ a' w' jq
 | loop c ih=>
  intro st st' out Q a w h hI hQ
  simp only[exec] at h
  split at h
  ·cases h
  ·rename_i S hS
   obtain ⟨ds,h1,h2⟩:=bind_some h
   obtain ⟨e,h3,h4⟩:=bind_some h2
   obtain ⟨k,hk⟩:=uC h3
   refine Y5 (J:=fun k a w=> ∃ds,Inv P A.idle A.aD B M w0 μ hp0 n a w (bn S.1 ds)∧eH (fun ds=>j7 m S.1 S.2 (exec P A C f n m c (bn S.1 ds))) k ds=some e) (fun a w ⟨s,_,h⟩=>by cases h) (fun k a w ⟨ds,hs,hk⟩=> ?_) ⟨ds,hI.reshape h1 hm,hk⟩
   simp only[eH] at hk
   obtain ⟨y,h5,h6⟩:=bind_some hk
   unfold j7 at h5
   obtain ⟨⟨o1,s1⟩,h7,h8⟩:=bind_some h5
   refine ih h7 hs fun a' w' jq=> ?_
   have PH: ∀{e':Nat × List V},ways m 0 S.2 (o1,s1)=some e'→e'=e→Q (vA o1) a' w':=by
    intro e' q1 q2
    subst q2
    obtain ⟨rfl,S',k1,rfl⟩:=Ij q1 h4
    exact hQ a' w' (jq.reshape k1 hm)
   cases o1 with
   | norm=>
    obtain ⟨Y9,q1,q2⟩:=bind_some h8
    cases q2
    exact ⟨Y9,jq.reshape q1 hm,h6⟩
   | exit id=>
    obtain ⟨e',q1,q2⟩:=bind_some h8
    cases q2
    cases h6
    exact PH q1 rfl
   | ret=>
    obtain ⟨e',q1,q2⟩:=bind_some h8
    cases q2
    cases h6
    exact PH q1 rfl
 | _=>intro st st' out Q a w h;simp only[exec] at h;cases h
end
end Go.AM
namespace Go.AM
section
variable {P:Program} {A:cF} {w w':World} {I I' I2:Nat→Prop} {μ β au bX:Nat→Option Nat} {hp hp' hp0:Nat→Option aj} {C:ag} {B:Nat} {M:Nat→Prop} {w0:Start}
theorem Dz (S:aE P w I β hp B M w0) {a:Act} {st:St} (hs:j8 P w I β hp a st.sl): ∀{l:List ResultVar} {xs:List V} {rd:List Nat},(sB P st l).run C hp=some (xs,rd)→
  ∃vs:List Value,(l.mapM fun| .tmp t=>Pure.pure (a.tmps.getD t undef)| .cell x t=>do loadVar t (←asAddr (a.tmps.getD x undef)):Sem (List Value)).run P w= .ok vs w∧vs.length=xs.length∧l.length=xs.length∧
   ∀(j:Nat) v x,vs[j]? =some v→xs[j]? =some x→an P w I β hp v x
 | [],xs,rd,h=>by
  cases h
  exact ⟨[],by simp,rfl,rfl,by simp⟩
 | .tmp t::l,xs,rd,h=>by
  simp only[sB] at h
  obtain ⟨ys,l1,l2,h1,h2⟩:=j9 h
  have h3:=GW h2
  subst h3
  obtain ⟨vs,a1,a2,a3,a4⟩:=Dz S hs h1
  refine ⟨a.tmps.getD t undef::vs,by simp only[List.mapM_cons,Sem.run_bind,Sem.run_pure,Result.andThen_ok,a1],by simp[a2],by simp[a3],fun j v x hj hx=> ?_⟩
  cases j with
  | zero=>simp at hj hx;subst hj;subst hx;have:=hs t;simpa using this
  | succ j=>exact a4 j v x (by simpa using hj) (by simpa using hx)
 | .cell y t::l,xs,rd,h=>by
  simp only[sB] at h
  obtain ⟨r,l1,l2,h1,h2⟩:=j9 h
  obtain ⟨ys,l3,l4,h3,h4⟩:=j9 h2
  have h5:=GW h4
  subst h5
  obtain ⟨v0,b1,b2,b3,ad,b4⟩:=Nb S (hs y) h1
  obtain ⟨vs,a1,a2,a3,a4⟩:=Dz S hs h3
  refine ⟨v0::vs,?_,by simp[a2],by simp[a3],fun j v x hj hx=> ?_⟩
  ·have e1:(do loadVar t (←asAddr (a.tmps.getD y undef)):Sem Value).run P w= .ok v0 w:=by
    rw[b4] at b1⊢
    simpa[Instr.loadAt,Instr.sureAddr,asAddr] using b1
   simp only[List.mapM_cons,Sem.run_bind,e1,Result.andThen_ok,a1,Sem.run_pure]
  cases j with
  | zero=>simp at hj hx;subst hj;subst hx;exact b2
  | succ j=>exact a4 j v x (by simpa using hj) (by simpa using hx)
def tq:List Value→Value
 | [v]=>v
 | l=> .tuple l.toArray
theorem Za {vs:List Value} (h:vs.length≠1):tq vs= .tuple vs.toArray:=by
 match vs,h with
 | [],_=>rfl
 | [v],h=>simp at h
 | v::v2::l,_=>rfl
theorem Zb {fn:Func} {a:Act} {st:St} (S:aE P w I β st.hp B M w0) (hs:j8 P w I β st.hp a st.sl) {xs:List V} {rd:List Nat} (h:(sB P st fn.results.toList).run C st.hp=some (xs,rd)):
  ∃vs:List Value,(results fn a.tmps).run P w= .ok (tq vs) w∧vs.length=xs.length∧
   ∀(j:Nat) v x,vs[j]? =some v→xs[j]? =some x→an P w I β st.hp v x:=by
 obtain ⟨vs,a1,a2,_,a4⟩:=Dz S hs h
 refine ⟨vs,?_,a2,a4⟩
 unfold results
 rw[Array.mapM_eq_mapM_toList]
 simp only[map_eq_pure_bind,bind_assoc,pure_bind,Sem.run_bind]
 refine (congrArg (fun r:Result (List Value)=>r.andThen _) a1).trans ?_
 simp only[Result.andThen_ok,Sem.run_pure]
 match vs with
 | []=>simp[tq]
 | [v]=>simp[tq]
 | v::v2::l=>simp[tq]
theorem PI: ∀{args:List V} {i k:Nat},dJ (mA i args) k=if i≤k then args[k-i]? else none
 | [],i,k=>by simp[mA,dJ]
 | v::vs,i,k=>by
  simp only[mA,dJ]
  cases hb:Nat.beq k i with
  | true=>
   rw[Nat.beq_eq] at hb
   subst hb
   simp
  | false=>
   have bM:k≠i:=fun e=>by rw[e,Nat.beq_refl] at hb;cases hb
   simp only[cond_false,PI]
   by_cases h:i≤k
   ·rw[if_pos (by omega),if_pos h]
    obtain ⟨d,rfl⟩: ∃d,k=i+1+d:=⟨k-(i+1),by omega⟩
    rw[show i+1+d-(i+1)=d by omega,show i+1+d-i=d+1 by omega]
    rfl
   ·rw[if_neg (by omega),if_neg h]
theorem Ik: ∀{l:List (Nat × VS)} {ds:List V} {i k:Nat},gQ i l=true→dJ (fh l ds) k=if i≤k then (fv (l.map (·.2)) ds)[k-i]? else none
 | [],ds,i,k,_=>by simp[fh,fv,dJ]
 | (q,s)::l,ds,i,k,h=>by
  simp only[gQ,Bool.and_eq_true,Nat.beq_eq] at h
  obtain ⟨rfl,h⟩:=h
  simp only[fh,dJ,List.map_cons,fv]
  cases hb:Nat.beq k q with
  | true=>
   rw[Nat.beq_eq] at hb
   subst hb
   simp
  | false=>
   have bM:k≠q:=fun e=>by rw[e,Nat.beq_refl] at hb;cases hb
   simp only[cond_false]
   rw[Ik h]
   by_cases h:q≤k
   ·rw[if_pos (by omega),if_pos h]
    obtain ⟨d,rfl⟩: ∃d,k=q+1+d:=⟨k-(q+1),by omega⟩
    rw[show q+1+d-(q+1)=d by omega,show q+1+d-q=d+1 by omega]
    rfl
   ·rw[if_neg (by omega),if_neg h]
theorem PJ: ∀{l:List (Nat × VS)} {ds:List V},(fh l ds).map (·.2)=fv (l.map (·.2)) ds
 | [],_=>rfl
 | (q,s)::l,ds=>by simp only[fh,List.map_cons,fv,PJ]
theorem Il: ∀{l:List VS} {ds:List V},(fv l ds).length=l.length
 | [],_=>rfl
 | s::l,ds=>by simp only[fv,List.length_cons,Il]
theorem PK: ∀{l:List (Nat × VS)} {ds:List V},(fh l ds).length=l.length
 | [],_=>rfl
 | (q,s)::l,ds=>by simp only[fh,List.length_cons,PK]
theorem Zc {vals:List Value} {l:List (Nat × V)} (hl:vals.length=l.length) (h: ∀(j:Nat) v y,vals[j]? =some v→(l.map (·.2))[j]? =some y→an P w I β hp v y):an P w I β hp (tq vals) (oO l):=by
 match l,hl,h with
 | [],hl,h=>
  obtain rfl:vals=[]:=List.eq_nil_of_length_eq_zero hl
  exact .bf rfl fun j v x _ hx=>by simp at hx
 | [(k,y)],hl,h=>
  match vals,hl,h with
  | [v],_,h=>exact h 0 v y rfl rfl
 | a::b::l,hl,h=>
  have bM:vals.length≠1:=by rw[hl];simp
  rw[Za bM]
  simp only[oO]
  exact .bf (by simp[hl]) fun j v y hj hy=>h j v y (by simpa using hj) hy
theorem Zd {l:List BS} {ds:List V} {j:Nat} {e:TypeId} {es:List V} {ao:List Nat} (h:(eJ l ds)[j]? =some (.nest e es ao)) (k:Nat):bE ao k=0:=by
 obtain ⟨b,fl,_,h2⟩:=HY h
 cases b<;>simp only[fF] at h2<;>cases h2
 match k with
 | 0=>rfl
 | 1=>rfl
 | 2=>rfl
 | _+3=>rfl
theorem Ze {f n m:Nat} {fn:Func} {a:Act} {st:St} {es:List V} {rd:List Nat} (hm: ∀id blk,hp0 id=some blk→id<m) (iX: ∀id e es ao,hp0 id=some (.nest e es ao)→∀k,bE ao k=0)
  (hI:Inv P A.idle A.aD B M w0 μ hp0 n a w st) (n0:gQ 0 (A.ft f).bI=true) (a8:(A.ft f).bI.length=fn.results.size) (h:(sC P A f fn m st).run C st.hp=some (es,rd)):
  ∃v I2 bX,(results fn a.tmps).run P w= .ok v w∧aE P w I2 bX (bn (A.so f es) (A.lv f es)).hp B M w0∧kh w0.w w0.I μ hp0 w I2 bX (bn (A.so f es) (A.lv f es)).hp∧an P w I2 bX (bn (A.so f es) (A.lv f es)).hp v (oO (fh (A.so f es).bI (A.lv f es))):=by
 unfold sC at h
 obtain ⟨xs,l1,l2,h1,h2⟩:=j9 h
 obtain ⟨I,β,S,hA,hE⟩:=hI
 obtain ⟨vals,e1,e2,e3⟩:=Zb S hA.sl h1
 have e4:fn.results.size=xs.length:=by
  obtain ⟨_,_,_,q,_⟩:=Dz S hA.sl h1
  simpa using q
 have fin: ∀(Sx:Shape) (es:List V),gQ 0 Sx.bI=true→Sx.bI.length=fn.results.size→iq m Sx (canon m (List.range xs.length) (freeze m (A.sq f) ⟨iN (mA 0 xs),st.hp,st.nb⟩))=some es→
   ∃v I2 bX,(results fn a.tmps).run P w= .ok v w∧aE P w I2 bX (bn Sx es).hp B M w0∧kh w0.w w0.I μ hp0 w I2 bX (bn Sx es).hp∧an P w I2 bX (bn Sx es).hp v (oO (fh Sx.bI es)):=by
  intro Sx es n0 a8 tt
  have Zf:iD P A.idle A.aD w I β vals.length ⟨vals.toArray,[]⟩ ⟨iN (mA 0 xs),st.hp,st.nb⟩:=by
   refine ⟨fun k=> ?_,by simp,by simp,hA.aD⟩
   change an P w I β st.hp _ (iN (mA 0 xs) k)
   unfold iN
   rw[PI]
   simp only[Nat.zero_le,if_true,Nat.sub_zero]
   cases hk:xs[k]? with
   | none=>exact .undef
   | some x=>
    have kQ:k<vals.length:=by rw[e2];exact (List.getElem?_eq_some_iff.1 hk).1
    have:=e3 k vals[k] x (List.getElem?_eq_getElem kQ) hk
    have e5:(vals.toArray).getD k undef=vals[k]:=by simp[kQ]
    rw[Option.getD_some]
    exact e5▸this
  obtain ⟨I2,k1,k2,k3⟩:=Pq (st:=⟨iN (mA 0 xs),st.hp,st.nb⟩) (m:=m) (pur:=A.sq f) S Zf
  have Zg:Inv P A.idle A.aD B M w0 μ hp0 vals.length ⟨vals.toArray,[]⟩ w (freeze m (A.sq f) ⟨iN (mA 0 xs),st.hp,st.nb⟩):=⟨I2,β,k2,k3,hE.trans k1.Dc⟩
  obtain ⟨I3,PL,q1,q2,q3⟩:=(Zg.canon (live:=List.range xs.length) hm iX).reshape tt hm
  refine ⟨tq vals,I3,PL,e1,q1,q3,Zc (by rw[PK,a8,e4,e2]) fun j v y hj hy=> ?_⟩
  have hv:=q2.sl j
  have cW:=(List.getElem?_eq_some_iff.1 hj).1
  have e5:(vals.toArray).getD j undef=v:=by
   have:=(List.getElem?_eq_some_iff.1 hj).2
   simp[cW,this]
  change an P w I3 PL _ ((vals.toArray).getD j undef) (iN (fh Sx.bI _) j) at hv
  rw[e5] at hv
  unfold iN at hv
  rw[Ik n0] at hv
  simp only[Nat.zero_le,if_true,Nat.sub_zero] at hv
  rw[PJ] at hy
  rw[hy] at hv
  exact hv
 unfold cF.so cF.lv
 cases ca:A.alt f with
 | none=>
  rw[ca] at h2
  simp only at h2⊢
  split at h2
  ·rename_i fl tt
   have:=aK h2
   subst this
   exact fin _ _ n0 a8 tt
  ·cases h2
 | some S2=>
  rw[ca] at h2
  simp only at h2⊢
  split at h2
  ·rename_i fl tt
   have:=aK h2
   subst this
   exact fin _ _ n0 a8 tt
  ·split at h2
   ·rename_i fl tt
    obtain ⟨hc,h3⟩:=aF h2
    simp only[Bool.and_eq_true,Nat.beq_eq] at hc
    have:=aK h3
    subst this
    exact fin _ _ hc.1 hc.2 tt
   ·cases h2
theorem Zh (hC:ki P A C) (hP:iW P A) (o8:P.follows .mixedOrders=true):ki P A (nE P A C):=by
 intro f ds es h
 unfold nE at h
 cases hf:P.funcs[A.aU f]? with
 | none=>rw[hf] at h;cases h
 | some fn=>
  rw[hf] at h
  simp only at h
  cases hb:fn.body with
  | none=>rw[hb] at h;cases h
  | some c=>
   rw[hb] at h
   simp only at h
   cases hc:(gQ 0 (A.sin f).bI&&(Nat.ble (A.sin f).bI.length fn.ntmps&&((A.sin f).ok&&(gQ 0 (A.ft f).bI&&(Nat.beq (A.ft f).bI.length fn.results.size&&nC (lE (A.sin f).aZ.length (A.mv f))))))) with
   | false=>rw[hc] at h;cases h
   | true=>
    rw[hc] at h
    simp only[cond_true] at h
    simp only[Bool.and_eq_true,Nat.beq_eq,Nat.ble_eq] at hc
    obtain ⟨jL,hnt,_,vw,a8,jO⟩:=hc
    obtain ⟨⟨out,st'⟩,h1,h2⟩:=bind_some h
    refine ⟨fn,c,rfl,hb,fun w I μ vals hH Zi hl hv=> ?_⟩
    have Zj:(∀id,out≠ .exit id)∧∃rd,(sC P A f fn (A.sin f).aZ.length st').run C st'.hp=some (es,rd):=by
     cases out with
     | exit id=>cases h2
     | norm=>
      refine ⟨by simp,?_⟩
      simp only[Option.map_eq_some_iff] at h2
      obtain ⟨⟨x,rd⟩,e1,e2⟩:=h2
      simp only at e2
      subst e2
      exact ⟨rd,e1⟩
     | ret=>
      refine ⟨by simp,?_⟩
      simp only[Option.map_eq_some_iff] at h2
      obtain ⟨⟨x,rd⟩,e1,e2⟩:=h2
      simp only at e2
      subst e2
      exact ⟨rd,e1⟩
    obtain ⟨bM,rd,HP⟩:=Zj
    refine calls_of_wp_defers hf hb ?_
    have hm: ∀id blk,(bn (A.sin f) ds).hp id=some blk→id<(A.sin f).aZ.length:=by
     intro id blk aa
     simp only[bn,mk,gE] at aa
     have:=(List.getElem?_eq_some_iff.1 aa).1
     rwa [Dy] at this
    have iX: ∀id e es ao,(bn (A.sin f) ds).hp id=some (.nest e es ao)→∀k,bE ao k=0:=by
     intro id e es ao aa k
     simp only[bn,mk,gE] at aa
     exact Zd aa k
    refine Y7 (w0:=⟨w,I⟩) (μ:=μ) (hp0:=(bn (A.sin f) ds).hp) (B:=w.heap.size) (M:=nX P w μ (bn (A.sin f) ds).hp) hC hP o8 hm iX c h1 ?_ ?_
    ·refine Inv.enter jO ?_ hm iX fun p hp=>by
      simp only[bn,mk,gE]
      rw[List.getElem?_eq_none_iff,Dy]
      exact hp
     refine ⟨I,μ,⟨hH,fun _ _ _=>rfl,Nat.le_refl _,fun b h=> .inl h,⟨rfl,rfl⟩⟩,⟨fun k=> ?_,?_,by simp,Zi⟩,(Le.refl (P:=P) w I μ _).Dc⟩
     ·change an P w I μ _ _ (iN (fh (A.sin f).bI ds) k)
      unfold iN
      rw[Ik jL]
      simp only[Nat.zero_le,if_true,Nat.sub_zero]
      cases hk:(fv ((A.sin f).bI.map (·.2)) ds)[k]? with
      | none=>exact .undef
      | some x=>
       have kQ:k<vals.length:=by
        have:=(List.getElem?_eq_some_iff.1 hk).1
        rw[Il,List.length_map] at this
        rw[hl];exact this
       have:=hv k vals[k] x (List.getElem?_eq_getElem kQ) hk
       have e1:(vals.toArray++Array.replicate (fn.ntmps-vals.toArray.size) undef).getD k undef=vals[k]:=by
        simp[Array.getElem?_append,kQ]
       rw[Option.getD_some]
       exact e1▸this
     ·simp
      omega
    ·intro a' w' hI
     obtain ⟨v,I2,bX,q1,q2,q3,q4⟩:=Ze hm iX hI vw a8 HP
     obtain ⟨_,_,_,hA,_⟩:=hI
     cases out with
     | exit id=>exact absurd rfl (bM id)
     | norm=>exact H5 hP q1 ⟨v,I2,bX,rfl,q2,q3,q4⟩ _ hA.defers
     | ret=>exact H5 hP q1 ⟨v,I2,bX,rfl,q2,q3,q4⟩ _ hA.defers
theorem PM (hP:iW P A) (o8:P.follows .mixedOrders=true): ∀n,ki P A (jF P A n)
 | 0=>fun _ _ _ h=>by cases h
 | n+1=>Zh (PM hP o8 n) hP o8
theorem Zk (hP:iW P A) (o8:P.follows .mixedOrders=true):ki P A (Call P A):=by
 intro f ds es h
 have hn: ∃n,jF P A n f ds=some es:=by
  unfold Call at h
  split at h
  ·rename_i hex
   have:=hex.choose_spec.choose_spec
   rw[Option.some.inj h] at this
   exact ⟨_,this⟩
  ·cases h
 obtain ⟨n,hn⟩:=hn
 exact PM hP o8 n f ds es hn
end
end Go.AM
namespace Go.AM
section
variable {P:Program} {A:cF} {C:ag} {D:Nat→ag}
def yF (C:ag) (D:Nat→ag):Prop:= ∀f a r,C f a=some r→∃n,∀k,n≤k→D k f a=some r
theorem qc {α:Type} (h:yF C D) {hp:Nat→Option aj}: ∀{p:Rd α} {r:α × List Nat},p.run C hp=some r→∃n,∀k,n≤k→p.run (D k) hp=some r
 | .ret a,r,e=>⟨0,fun _ _=>e⟩
 | .fail,r,e=>by cases e
 | .get id q,r,e=>by
  obtain ⟨x,h1,h2⟩:=bind_some e
  obtain ⟨n,hn⟩:=qc h h1
  exact ⟨n,fun k hk=>by simp only[Rd.run,hn k hk,Option.bind_some];exact h2⟩
 | .opt o q,r,e=>by
  obtain ⟨x,h1,h2⟩:=bind_some e
  obtain ⟨n,hn⟩:=qc h h2
  exact ⟨n,fun k hk=>by simp only[Rd.run,h1,Option.bind_some];exact hn k hk⟩
 | .aB b q,r,e=>by
  obtain ⟨h1,h2⟩:=aF e
  obtain ⟨n,hn⟩:=qc h h2
  exact ⟨n,fun k hk=>by simp only[Rd.run,h1,cond_true];exact hn k hk⟩
 | .call f a q,r,e=>by
  obtain ⟨x,h1,h2⟩:=bind_some e
  obtain ⟨n1,jL⟩:=h f a x h1
  obtain ⟨n2,vw⟩:=qc h h2
  exact ⟨max n1 n2,fun k hk=>by simp only[Rd.run,jL k (by omega),Option.bind_some];exact vw k (by omega)⟩
 | .alt true x y,r,e=>qc (p:=x) h e
 | .alt false x y,r,e=>qc (p:=y) h e
theorem Zl (h:yF C D) {n i nb:Nat} {ops:Array Oper} {o:Oper} {st:St} {r:St × List Nat × List Nat} (e:gx P A C n ops i o nb st=some r): ∃N,∀k,N≤k→gx P A (D k) n ops i o nb st=some r:=by
 unfold gx at e
 have go:(((fw P A st.sl i (nb+64*i) o).run C st.hp).bind fun r=>some ((⟨gN st.sl o.dst r.1.v,bL st.hp r.1.upd,st.nb⟩:St),r.2,r.1.upd.map (·.1)))=some r→
   ∃N,∀k,N≤k→(((fw P A st.sl i (nb+64*i) o).run (D k) st.hp).bind fun r=>some ((⟨gN st.sl o.dst r.1.v,bL st.hp r.1.upd,st.nb⟩:St),r.2,r.1.upd.map (·.1)))=some r:=by
  intro e
  obtain ⟨x,h1,h2⟩:=bind_some e
  obtain ⟨N,hN⟩:=qc h h1
  exact ⟨N,fun k hk=>by rw[hN k hk];exact h2⟩
 unfold gx
 cases hd:ra o n with
 | false=>rw[hd] at e;cases e
 | true=>
  rw[hd] at e
  simp only[cond_true] at e⊢
  cases hg:o.guard with
  | none=>rw[hg] at e;exact go e
  | some gw=>
   obtain ⟨g,want⟩:=gw
   rw[hg] at e
   simp only at e⊢
   cases kT:(ops[g]?).bind (·.dst) with
   | none=>rw[kT] at e;cases e
   | some d=>
    rw[kT] at e
    simp only at e⊢
    cases lS:kG (st.sl d) with
    | none=>rw[lS] at e;cases e
    | some ob=>
    rw[lS] at e
    cases ob with
    | none=>exact ⟨0,fun _ _=>e⟩
    | some b=>
    simp only at e⊢
    cases hb:b==want with
    | true=>rw[hb] at e;exact go e
    | false=>rw[hb] at e;exact ⟨0,fun _ _=>e⟩
theorem PN (h:yF C D) {n nb:Nat} {ops:Array Oper}: ∀{l:List (Nat × Oper)} {st:St} {log:Log} {r:St × Log},oP P A C n ops nb l st log=some r→∃N,∀k,N≤k→oP P A (D k) n ops nb l st log=some r
 | [],st,log,r,e=>⟨0,fun _ _=>e⟩
 | (i,o)::l,st,log,r,e=>by
  obtain ⟨x,h1,h2⟩:=bind_some e
  obtain ⟨N1,n7⟩:=Zl h h1
  obtain ⟨N2,qd⟩:=PN h h2
  exact ⟨max N1 N2,fun k hk=>by simp only[oP,n7 k (by omega),Option.bind_some];exact qd k (by omega)⟩
theorem PO {X R:Type} {step:X→Option (X ⊕ R)} {stepD:Nat→X→Option (X ⊕ R)} (hs: ∀x y,step x=some y→∃N,∀k,N≤k→stepD k x=some y): ∀(n:Nat) (x:X) (r:R),eH step n x=some r→∃N,∀k,N≤k→eH (stepD k) n x=some r
 | 0,x,r,e=>by cases e
 | n+1,x,r,e=>by
  simp only[eH] at e⊢
  obtain ⟨y,h1,h2⟩:=bind_some e
  obtain ⟨N1,n7⟩:=hs x y h1
  cases y with
  | inl z=>
   obtain ⟨N2,qd⟩:=PO hs n z r h2
   exact ⟨max N1 N2,fun k hk=>by rw[n7 k (by omega)];exact qd k (by omega)⟩
  | inr q=>exact ⟨N1,fun k hk=>by rw[n7 k hk];exact h2⟩
theorem Zm (h:yF C D) {f n m:Nat}: ∀(c:Code) {st:St} {r:Out × St},exec P A C f n m c st=some r→∃N,∀k,N≤k→exec P A (D k) f n m c st=some r:=by
 intro c
 induction c with
 | skip=>exact fun e=>⟨0,fun _ _=>e⟩
 | exit id=>exact fun e=>⟨0,fun _ _=>e⟩
 | ret=>exact fun e=>⟨0,fun _ _=>e⟩
 | region id ops draw=>
  intro st r e
  simp only[exec] at e⊢
  obtain ⟨x,h1,h2⟩:=bind_some e
  obtain ⟨y,h3,h4⟩:=bind_some h1
  obtain ⟨N,hN⟩:=PN h h3
  refine ⟨N,fun k hk=> ?_⟩
  have:uQ P (A.here f id) (D k) n ops draw st=some x:=by
   unfold uQ
   rw[hN k hk]
   exact h4
  rw[this]
  exact h2
 | seq x y fG fH=>
  intro st r e
  simp only[exec] at e⊢
  obtain ⟨⟨o,s1⟩,h1,h2⟩:=bind_some e
  obtain ⟨N1,n7⟩:=fG h1
  cases o with
  | norm=>
   obtain ⟨N2,qd⟩:=fH h2
   exact ⟨max N1 N2,fun k hk=>by rw[n7 k (by omega)];exact qd k (by omega)⟩
  | exit id=>exact ⟨N1,fun k hk=>by rw[n7 k hk];exact h2⟩
  | ret=>exact ⟨N1,fun k hk=>by rw[n7 k hk];exact h2⟩
 | cond c x y fG fH=>
  intro st r e
  cases c with
  | tmp t=>
   have go: ∀{st:St} {r:Out × St},(match st.sl t with
     | .bool b=>(bif b then exec P A C f n m x st else exec P A C f n m y st).bind fun r=>
      match r.1 with
      | .norm=>some (.norm,canon m (A.join f t) r.2)
      | _=>some r
     | _=>none)=some r→∃N,∀k,N≤k→(match st.sl t with
     | .bool b=>(bif b then exec P A (D k) f n m x st else exec P A (D k) f n m y st).bind fun r=>
      match r.1 with
      | .norm=>some (.norm,canon m (A.join f t) r.2)
      | _=>some r
     | _=>none)=some r:=by
    intro st r e
    cases hs:st.sl t<;>rw[hs] at e<;>simp only at e⊢ <;>first|(cases e;done)|skip
    rename_i b
    obtain ⟨x1,h1,h2⟩:=bind_some e
    cases b with
    | true=>
     obtain ⟨N,hN⟩:=fG h1
     exact ⟨N,fun k hk=>by simp only[cond_true,hN k hk,Option.bind_some];exact h2⟩
    | false=>
     obtain ⟨N,hN⟩:=fH h1
     exact ⟨N,fun k hk=>by simp only[cond_false,hN k hk,Option.bind_some];exact h2⟩
   simp only[exec] at e⊢
   split at e
   ·rename_i hS
    obtain ⟨N,hN⟩:=go e
    exact ⟨N,fun k hk=>hN k hk⟩
   ·rename_i S hS
    obtain ⟨ds,h1,h2⟩:=bind_some e
    obtain ⟨e',h3,h4⟩:=bind_some h2
    obtain ⟨r1,h5,h6⟩:=bind_some h3
    obtain ⟨N,hN⟩:=go h5
    refine ⟨N,fun k hk=> ?_⟩
    try rw[hS]
    simp only[h1,Option.bind_some]
    exact (congrArg (fun z:Option (Out × St)=>(z.bind fun r=>ways m 0 S.2 r).bind fun e=>jE 0 S.2 e.1 e.2 fun o st=>some (o,st)) (hN k hk)).trans (by simp only[Option.bind_some,h6];exact h4)
  | const v=>
   cases v with
   | bool b=>
    simp only[exec] at e⊢
    cases b with
    | true=>exact fG e
    | false=>exact fH e
   | _=>simp only[exec] at e;cases e
  | _=>simp only[exec] at e;cases e
 | block id c ih=>
  intro st r e
  simp only[exec] at e⊢
  obtain ⟨x1,h1,h2⟩:=bind_some e
  obtain ⟨N,hN⟩:=ih h1
  exact ⟨N,fun k hk=>by rw[hN k hk];exact h2⟩
 | loop c ih=>
  intro st r e
  simp only[exec] at e⊢
  split at e
  ·cases e
  ·rename_i S hS
   obtain ⟨ds,h1,h2⟩:=bind_some e
   obtain ⟨e',h3,h4⟩:=bind_some h2
   obtain ⟨q,hq⟩:=uC h3
   obtain ⟨N,hN⟩:=PO (stepD:=fun k ds=>j7 m S.1 S.2 (exec P A (D k) f n m c (bn S.1 ds))) (fun x y yG=>by
    unfold j7 at yG⊢
    obtain ⟨z,h5,h6⟩:=bind_some yG
    obtain ⟨N,hN⟩:=ih h5
    exact ⟨N,fun k hk=>by rw[hN k hk];exact h6⟩) q ds e' hq
   refine ⟨N,fun k hk=> ?_⟩
   try rw[hS]
   simp only[h1,Option.bind_some]
   rw[uB (hN k hk)]
   exact h4
 | _=>intro st r e;simp only[exec] at e;cases e
theorem DA (h:yF C D) {f:Nat} {ds es:List V} (e:nE P A C f ds=some es): ∃N,∀k,N≤k→nE P A (D k) f ds=some es:=by
 unfold nE at e⊢
 cases hf:P.funcs[A.aU f]? with
 | none=>rw[hf] at e;cases e
 | some fn=>
  rw[hf] at e
  simp only at e⊢
  cases hb:fn.body with
  | none=>rw[hb] at e;cases e
  | some c=>
   rw[hb] at e
   simp only at e⊢
   cases hc:(gQ 0 (A.sin f).bI&&(Nat.ble (A.sin f).bI.length fn.ntmps&&((A.sin f).ok&&(gQ 0 (A.ft f).bI&&(Nat.beq (A.ft f).bI.length fn.results.size&&nC (lE (A.sin f).aZ.length (A.mv f))))))) with
   | false=>rw[hc] at e;cases e
   | true=>
    rw[hc] at e
    simp only[cond_true] at e⊢
    obtain ⟨⟨o,s1⟩,h1,h2⟩:=bind_some e
    obtain ⟨N1,n7⟩:=Zm h c h1
    cases o with
    | exit id=>cases h2
    | norm=>
     simp only[Option.map_eq_some_iff] at h2
     obtain ⟨x,e1,e2⟩:=h2
     obtain ⟨N2,qd⟩:=qc h e1
     exact ⟨max N1 N2,fun k hk=>by rw[n7 k (by omega)];simp only[Option.bind_some,qd k (by omega),Option.map_some,e2]⟩
    | ret=>
     simp only[Option.map_eq_some_iff] at h2
     obtain ⟨x,e1,e2⟩:=h2
     obtain ⟨N2,qd⟩:=qc h e1
     exact ⟨max N1 N2,fun k hk=>by rw[n7 k (by omega)];simp only[Option.bind_some,qd k (by omega),Option.map_some,e2]⟩
theorem PQ: ∀n f a r,jF P A n f a=some r→jF P A (n+1) f a=some r
 | 0,f,a,r,h=>by cases h
 | n+1,f,a,r,h=>by
  obtain ⟨N,hN⟩:=DA (C:=jF P A n) (D:=fun _=>jF P A (n+1)) (fun f a r h=>⟨0,fun _ _=>PQ n f a r h⟩) h
  exact hN N (Nat.le_refl _)
theorem Im {n k:Nat} (hk:n≤k) {f:Nat} {a r:List V} (h:jF P A n f a=some r):jF P A k f a=some r:=by
 induction hk with
 | refl=>exact h
 | step _ ih=>exact PQ _ _ _ _ ih
theorem yH {f:Nat} {a r:List V}:Call P A f a=some r↔∃n,jF P A n f a=some r:=by
 constructor
 ·intro h
  unfold Call at h
  split at h
  ·rename_i hex
   have:=hex.choose_spec.choose_spec
   rw[Option.some.inj h] at this
   exact ⟨_,this⟩
  ·cases h
 ·rintro ⟨n,hn⟩
  have hex: ∃n r,jF P A n f a=some r:=⟨n,r,hn⟩
  unfold Call
  rw[dif_pos hex]
  have h2:=hex.choose_spec.choose_spec
  have h3:=Im (Nat.le_max_left n hex.choose) hn
  have h4:=Im (Nat.le_max_right n hex.choose) h2
  rw[h3] at h4
  exact h4.symm
theorem Zn (f:Nat) (a:List V):Call P A f a=nE P A (Call P A) f a:=by
 apply Option.ext
 intro r
 constructor
 ·intro h
  obtain ⟨n,hn⟩:=yH.1 h
  cases n with
  | zero=>cases hn
  | succ n=>
   obtain ⟨N,hN⟩:=DA (C:=jF P A n) (D:=fun _=>Call P A) (fun f a r h=>⟨0,fun _ _=>yH.2 ⟨n,h⟩⟩) hn
   exact hN N (Nat.le_refl _)
 ·intro h
  obtain ⟨N,hN⟩:=DA (C:=Call P A) (D:=jF P A) (fun f a r h=>by
   obtain ⟨n,hn⟩:=yH.1 h
   exact ⟨n,fun k hk=>Im hk hn⟩) h
  exact yH.2 ⟨N+1,hN N (Nat.le_refl _)⟩
end
end Go.AM
namespace Go.AM
open Go.ChangeShapes Go.WideShapes Go.RowKit
section
variable (P:Program)
inductive WT:TypeId→V→Prop
 | int {t:TypeId} {k:IntKind} {n:Int}:P.underlying t=some (.int k)→(Lit.int k n).wf=true→WT t (.int k n)
 | bool {t:TypeId} {b:Bool}:P.underlying t=some .bool→WT t (.bool b)
 | str {t:TypeId} {l:List UInt8}:P.underlying t=some .string→l.length≤maxLen→WT t (.str l)
 | list {t e:TypeId} {es:List V}:P.underlying t=some (.slice e)→es.length≤maxLen→
   (∀(i:Nat) x,es[i]? =some x→bH P e=true→∃xs,x= .agg xs∧xs.length=(aV P e).length)→
   (∀(i j:Nat) x t',es[i]? =some x→(aV P e)[j]? =some t'→WT t' (bK P e x j))→WT t (.list e es)
def gY (t:TypeId) (x:V):Prop:=
 (bH P t=true→∃xs,x= .agg xs∧xs.length=(aV P t).length)∧∀(j:Nat) t',(aV P t)[j]? =some t'→WT P t' (bK P t x j)
def sm:List TypeId→List V→Prop
 | [],[]=>True
 | t::ts,x::xs=>gY P t x∧sm ts xs
 | _,_=>False
def hasB (L:List TypeId) (t:TypeId):Bool:=L.any fun u=>Nat.beq u t
def DB (L:List TypeId):Nat→List Field→Bool
 | _,[]=>true
 | n,f::fs=>hasB L f.type&&(Nat.beq f.offset n&&(Nat.beq (P.cellsOf f.type) (aV P f.type).length&&DB L (n+P.cellsOf f.type) fs))
def yI:List Nat→List Nat→Bool
 | [],[]=>true
 | a::l,b::m=>Nat.beq a b&&yI l m
 | _,_=>false
def Io (L:List TypeId) (t:TypeId):Bool:=
 Nat.beq (P.cellsOf t) (aV P t).length&&
 match P.underlying t with
 | some (.int _)=>true
 | some .bool=>true
 | some .string=>true
 | some (.slice e)=>hasB L e&&cQ P e
 | some (.struct fs)=>DB P L 0 fs.toList&&yI (flat P t) (fs.toList.flatMap fun f=>aV P f.type)
 | some (.array n e)=>hasB L e&&(Nat.beq (P.cellsOf e) (aV P e).length&&yI (flat P t) (List.replicate n (aV P e)).flatten)
 | _=>false
def DC (L:List TypeId):Bool:=L.all fun t=>Io P L t
end
theorem DD {L:List TypeId} {t:TypeId} (h:hasB L t=true):t∈L:=by
 obtain ⟨u,hu,h2⟩:=List.any_eq_true.1 h
 rw[Nat.beq_eq] at h2
 exact h2▸hu
theorem Ip: ∀{l m:List Nat},yI l m=true→l=m
 | [],[],_=>rfl
 | a::l,b::m,h=>by
  simp only[yI,Bool.and_eq_true,Nat.beq_eq] at h
  rw[h.1,Ip h.2]
 | [],_::_,h=>by cases h
 | _::_,[],h=>by cases h
section
variable {P:Program} {H:Type} {enc:TypeId × Value→H} {w:World} {base:Nat} {spare:Nat→Bool} {held:Bool} {L:List TypeId}
def mN (w:World):Nat→Prop:=fun b=>b<w.heap.size
def mO (P:Program) (w:World) (ts:List TypeId) (cs:List Value) (xs:List V):Prop:=
 cs.length=ts.length∧xs.length=ts.length∧∀(j:Nat) t',ts[j]? =some t'→∃v y,cs[j]? =some v∧xs[j]? =some y∧Pure P w (mN w) t' v y∧WT P t' y
theorem mO.app {ts uL:List TypeId} {cs gW:List Value} {xs PR:List V} (h:mO P w ts cs xs) (h':mO P w uL gW PR):mO P w (ts++uL) (cs++gW) (xs++PR):=by
 obtain ⟨a,b,c⟩:=h
 obtain ⟨a',b',c'⟩:=h'
 refine ⟨by simp[a,a'],by simp[b,b'],fun j t' hj=> ?_⟩
 by_cases aS:j<ts.length
 ·rw[List.getElem?_append_left aS] at hj
  obtain ⟨v,y,e1,e2,e3⟩:=c j t' hj
  exact ⟨v,y,by rw[List.getElem?_append_left (by omega)];exact e1,by rw[List.getElem?_append_left (by omega)];exact e2,e3⟩
 ·rw[List.getElem?_append_right (by omega)] at hj
  obtain ⟨v,y,e1,e2,e3⟩:=c' _ t' hj
  exact ⟨v,y,by rw[List.getElem?_append_right (by omega),a];exact e1,by rw[List.getElem?_append_right (by omega),b];exact e2,e3⟩
theorem Zo {w:World} {a:Addr} {v:Value} (h:w.cell? a=some v):a.spot=none∧a.block<w.heap.size:=by
 unfold World.cell? at h
 split at h
 ·rename_i hh
  split at h
  ·cases h
  ·rename_i hs
   exact ⟨by simpa using hs,(Array.getElem?_eq_some_iff.1 hh).1⟩
 all_goals (first|cases h|skip)
theorem PS {rd:TypeId→List Value→Option (DataW H × List MemPlace)} (cs:List Value)
  (ih: ∀t cs x,t∈L→rd t cs=some x→∃xs,mO P w (aV P t) cs xs): ∀(fs:List Field) (n:Nat),DB P L n fs=true→
  (∀f∈fs,∃x,rd f.type ((cs.drop f.offset).take (P.cellsOf f.type))=some x)→∃m xs,n≤m∧mO P w (fs.flatMap fun f=>aV P f.type) ((cs.drop n).take (m-n)) xs∧m-n=(fs.flatMap fun f=>aV P f.type).length
 | [],n,_,_=>⟨n,[],Nat.le_refl _,⟨by simp,rfl,by simp⟩,by simp⟩
 | f::fs,n,h,hx=>by
  simp only[DB,Bool.and_eq_true,Nat.beq_eq] at h
  obtain ⟨h1,h2,h3,h4⟩:=h
  obtain ⟨x,Zp⟩:=hx f (by simp)
  obtain ⟨xs,gl⟩:=ih _ _ _ (DD h1) Zp
  obtain ⟨m,ys,hm,qe,Dm⟩:=PS cs ih fs (n+P.cellsOf f.type) h4 fun g hg=>hx g (by simp[hg])
  refine ⟨m,xs++ys,by omega,?_,by simp only[List.flatMap_cons,List.length_append];omega⟩
  have:=gl.app qe
  rw[List.flatMap_cons]
  rw[h2] at this
  have e:(cs.drop n).take (m-n)=(cs.drop n).take (P.cellsOf f.type)++(cs.drop (n+P.cellsOf f.type)).take (m-(n+P.cellsOf f.type)):=by
   rw[show m-n=P.cellsOf f.type+(m-(n+P.cellsOf f.type)) by omega,List.take_add,List.drop_drop]
  rw[e]
  exact this
theorem PT {rd:List Value→Option (DataW H × List MemPlace)} (cs:List Value) {e:TypeId} (hs:P.cellsOf e=(aV P e).length)
  (ih: ∀cs x,rd cs=some x→∃xs,mO P w (aV P e) cs xs): ∀(n:Nat),
  (∀i,i<n→∃x,rd ((cs.drop (i*P.cellsOf e)).take (P.cellsOf e))=some x)→∃xs,mO P w (List.replicate n (aV P e)).flatten (cs.take (n*P.cellsOf e)) xs
 | 0,_=>⟨[],by simp,rfl,by simp⟩
 | n+1,hx=>by
  obtain ⟨xs,gl⟩:=PT cs hs ih n fun i hi=>hx i (by omega)
  obtain ⟨x,yA⟩:=hx n (by omega)
  obtain ⟨ys,qe⟩:=ih _ _ yA
  refine ⟨xs++ys,?_⟩
  rw[List.replicate_succ',List.flatten_append]
  have:=gl.app qe
  rw[Nat.add_mul,Nat.one_mul,List.take_add]
  simpa using this
theorem DE (hL:DC P L=true): ∀(fuel:Nat) (t:TypeId) (cs:List Value) (x:DataW H × List MemPlace),t∈L→DataW.trod enc P w base spare held fuel t cs=some x→
  ∃xs,mO P w (aV P t) cs xs
 | 0,_,_,_,_,h=>by cases h
 | fuel+1,t,cs,x,ht,h=>by
  have hg:=List.all_eq_true.1 hL t ht
  unfold Io at hg
  rw[Bool.and_eq_true,Nat.beq_eq] at hg
  obtain ⟨hc,hg⟩:=hg
  have one:bH P t=false→aV P t=[t]:=fun h=>by simp[aV,h]
  cases hu:P.underlying t with
  | none=>rw[hu] at hg;cases hg
  | some d=>
   rw[hu] at hg
   cases d with
   | int k=>
    obtain ⟨n,rfl,rfl,Zq⟩:=DataW.trod_int hu h
    rw[one (by simp[bH,hu])]
    exact ⟨[.int k n],rfl,rfl,fun j t' hj=>by
     cases j with
     | zero=>cases hj;exact ⟨_,_,rfl,rfl,.int hu,.int hu Zq⟩
     | succ j=>simp at hj⟩
   | bool=>
    obtain ⟨b,rfl,rfl⟩:=DataW.trod_bool hu h
    rw[one (by simp[bH,hu])]
    exact ⟨[.bool b],rfl,rfl,fun j t' hj=>by
     cases j with
     | zero=>cases hj;exact ⟨_,_,rfl,rfl,.bool hu,.bool hu⟩
     | succ j=>simp at hj⟩
   | string=>
    obtain ⟨s,rfl,rfl,hl⟩:=DataW.trod_string hu h
    rw[one (by simp[bH,hu])]
    exact ⟨[.str s.data.toList],rfl,rfl,fun j t' hj=>by
     cases j with
     | zero=>cases hj;exact ⟨_,_,rfl,rfl,.str hu rfl,.str hu (by simpa using hl)⟩
     | succ j=>simp at hj⟩
   | slice e=>
    simp only[Bool.and_eq_true] at hg
    obtain ⟨he,ax⟩:=hg
    rw[one (by simp[bH,hu])]
    have single: ∀v y,cs=[v]→Pure P w (mN w) t v y→WT P t y→∃xs,mO P w [t] cs xs:=by
     rintro v y rfl a b
     exact ⟨[y],rfl,rfl,fun j t' hj=>by
      cases j with
      | zero=>cases hj;exact ⟨_,_,rfl,rfl,a,b⟩
      | succ j=>simp at hj⟩
    rcases DataW.trod_slice hu h with ⟨rfl,rfl⟩|⟨a,len,cap,elems,rest,n,hn,rfl,rfl,hb,hl,hm,hlen,cS,_,_⟩
    ·exact single _ _ rfl (.nil hu) (.list hu (by simp) (by simp) (by simp))
    ·cases hn
     have iv:=(jI ax).2
     have NM:P.cellsOf e=(aV P e).length:=(fy ax).symm
     have key: ∀i,i<len→∃gW xs,w.cells? base (a.add (i*P.cellsOf e)) (P.cellsOf e)=some gW∧mO P w (aV P e) gW xs:=by
      intro i hi
      have h1:=cS i hi
      rw[List.getElem?_eq_getElem (by omega)] at h1
      obtain ⟨gW,h2,h3⟩:=Option.bind_eq_some_iff.1 h1
      obtain ⟨xs,gl⟩:=DE hL fuel e gW _ (DD he) h3
      exact ⟨gW,xs,h2,gl⟩
     by_cases h0:len=0
     ·subst h0
      exact single _ _ rfl (.emp hu) (.list hu (by simp) (by simp) (by simp))
     ·have kg:a.spot=none∧a.block<w.heap.size:=by
       obtain ⟨gW,xs,h2,_⟩:=key 0 (by omega)
       obtain ⟨_,h3,h4⟩:=World.cells?_some h2
       have h5:=h4 0 iv
       rw[List.getElem?_eq_getElem (by omega)] at h5
       have:=Zo h5
       simpa[Addr.add] using this
      have hF: ∃(F:Nat→List Value) (X:Nat→List V),∀i,i<len→w.cells? base (a.add (i*P.cellsOf e)) (P.cellsOf e)=some (F i)∧mO P w (aV P e) (F i) (X i):=by
       refine ⟨fun i=>if hi:i<len then (key i hi).choose else [],fun i=>if hi:i<len then (key i hi).choose_spec.choose else [],fun i hi=> ?_⟩
       simp only[dif_pos hi]
       exact (key i hi).choose_spec.choose_spec
      obtain ⟨F,X,Iq⟩:=hF
      have hx: ∀(i j:Nat) y t',((List.range len).map fun i=>cu P e (X i))[i]? =some y→(aV P e)[j]? =some t'→i<len∧∃v,(F i)[j]? =some v∧Pure P w (mN w) t' v (bK P e y j)∧WT P t' (bK P e y j):=by
       intro i j y t' hy hj
       have hi:i<len:=by
        have:=(List.getElem?_eq_some_iff.1 hy).1
        simpa using this
       refine ⟨hi,?_⟩
       simp[List.getElem?_range hi] at hy
       obtain ⟨c1,c2,c3⟩:=(Iq i hi).2
       obtain ⟨v,z,d1,d2,d3,d4⟩:=c3 j t' hj
       have:bK P e y j=z:=by
        rw[←hy]
        unfold bK cu
        cases ha:bH P e with
        | true=>
         simp only[cond_true,V.cell]
         rw[sO _ _ _ d2]
        | false=>
         simp only[cond_false]
         have:aV P e=[e]:=by simp[aV,ha]
         rw[this] at hj
         cases j with
         | zero=>rw[sO _ _ _ d2]
         | succ j=>simp at hj
       rw[this]
       exact ⟨v,d1,d3,d4⟩
      have fX: ∀i j,i<len→j<P.cellsOf e→w.cell? ⟨a.block,a.off+(i*P.cellsOf e+j),none⟩=some ((F i).getD j undef):=by
       intro i j hi hj
       obtain ⟨h1,h2⟩:=Iq i hi
       obtain ⟨_,h3,h4⟩:=World.cells?_some h1
       have h5:=h4 j hj
       rw[Go.Deep.add_add] at h5
       have e1:a.add (i*P.cellsOf e+j)=⟨a.block,a.off+(i*P.cellsOf e+j),none⟩:=by
        obtain ⟨b,o,s⟩:=a
        simp only at kg
        rw[kg.1]
        exact mG ..
       rw[e1] at h5
       rw[h5,List.getD_eq_getElem?_getD,List.getElem?_eq_getElem (by omega)]
       rfl
      have ha:a=⟨a.block,a.off,none⟩:=by
       obtain ⟨b,o,s⟩:=a
       simp only at kg
       rw[kg.1]
      refine single (.slice (some a) len cap) (.list e ((List.range len).map fun i=>cu P e (X i))) rfl ?_ ?_
      ·rw[ha]
       refine .list (fun i j=>(F i).getD j undef) hu (by simp) hl (fun _=>kg.2) fX ?_
       intro i j y t' hy hj
       obtain ⟨hi,v,d1,d2,_⟩:=hx i j y t' hy hj
       rw[List.getD_eq_getElem?_getD,d1]
       exact d2
      ·refine .list hu (by simp;omega) ?_ ?_
       ·intro i y hy DF
        have hi:i<len:=by
         have:=(List.getElem?_eq_some_iff.1 hy).1
         simpa using this
        simp[List.getElem?_range hi] at hy
        rw[←hy]
        exact ⟨X i,by simp[cu,DF],(Iq i hi).2.2.1⟩
       ·intro i j y t' hy hj
        obtain ⟨_,v,_,_,d3⟩:=hx i j y t' hy hj
        exact d3
   | struct fs=>
    simp only[Bool.and_eq_true] at hg
    obtain ⟨xs,n,hn,rfl,hlen,jN,hx⟩:=DataW.trod_struct hu h
    cases hn
    have het:aV P t=fs.toList.flatMap fun f=>aV P f.type:=by
     rw[←Ip hg.2]
     simp[aV,bH,hu]
    obtain ⟨m,ys,_,qe,hm⟩:=PS (w:=w) (rd:=fun t cs=>DataW.trod enc P w base spare held fuel t cs) cs (fun t cs x a b=>DE hL fuel t cs x a b) fs.toList 0 hg.1 (by
     intro f hf
     obtain ⟨i,hi⟩:=List.getElem?_of_mem hf
     rw[Array.getElem?_toList] at hi
     have pY:i<fs.size:=(Array.getElem?_eq_some_iff.1 hi).1
     exact ⟨_,(hx i f hi).trans (List.getElem?_eq_getElem (by omega))⟩)
    rw[het]
    refine ⟨ys,?_⟩
    have:(cs.drop 0).take (m-0)=cs:=by
     rw[List.drop_zero,hm,←het,←hc,←hlen,List.take_length]
    rw[this] at qe
    exact qe
   | array n e=>
    simp only[Bool.and_eq_true,Nat.beq_eq] at hg
    obtain ⟨xs,m,hn,rfl,hlen,jN,hx⟩:=DataW.trod_array hu h
    cases hn
    have het:aV P t=(List.replicate n (aV P e)).flatten:=by
     rw[←Ip hg.2.2]
     simp[aV,bH,hu]
    obtain ⟨ys,qe⟩:=PT (w:=w) (rd:=DataW.trod enc P w base spare held fuel e) cs hg.2.1 (fun cs x b=>DE hL fuel e cs x (DD hg.1) b) n (by
     intro i hi
     exact ⟨_,(hx i hi).trans (List.getElem?_eq_getElem (by omega))⟩)
    rw[het]
    refine ⟨ys,?_⟩
    have:cs.take (n*P.cellsOf e)=cs:=by
     have:n*P.cellsOf e=cs.length:=by
      rw[hlen,hc,het,hg.2.1]
      simp
     rw[this,List.take_length]
    rw[this] at qe
    exact qe
   | _=>cases hg
end
end Go.AM
namespace Go.AM
open Go.ChangeShapes Go.WideShapes Go.RowKit
section
variable {P:Program} {H:Type} {enc:TypeId × Value→H} {w:World} {L:List TypeId}
theorem Zr {base Ir:Nat} {spare:Nat→Bool} {held:Bool} {r:Reach} {β:Nat→Option Nat} {hp:Nat→Option aj} (hL:DC P L=true) {t:TypeId} {v:Value} {d:DataW H} {ps:List MemPlace} (ht:t∈L) (fq:Value.okWide P w r Ir t v)
  (h:DataW.Trod enc P w base spare held t v d ps): ∃x,an P w (mN w) β hp v x∧gY P t x:=by
 obtain ⟨fuel,hf⟩:=h
 obtain ⟨xs,c1,c2,c3⟩:=DE hL fuel t _ _ ht hf
 have hg:=List.all_eq_true.1 hL t ht
 unfold Io at hg
 rw[Bool.and_eq_true,Nat.beq_eq] at hg
 obtain ⟨_,hg⟩:=hg
 have DF:bH P t=true→∃x,an P w (mN w) β hp v x∧gY P t x:=by
  intro ha
  have hv: ∃cs,v= .agg cs:=by
   unfold Value.okWide at fq
   unfold bH at ha
   split at fq
   ·obtain ⟨cs,e,_⟩:=fq;exact ⟨cs,e⟩
   ·obtain ⟨cs,e,_⟩:=fq;exact ⟨cs,e⟩
   ·split at ha<;>simp_all
  obtain ⟨cs,rfl⟩:=hv
  refine ⟨.agg xs,.agg (by simpa[Value.cells] using c1.trans c2.symm) fun j v x hv hx=> ?_,fun _=>⟨xs,rfl,c2⟩,fun j t' hj=> ?_⟩
  ·have hj:j<(aV P t).length:=by rw[←c2];exact (List.getElem?_eq_some_iff.1 hx).1
   obtain ⟨v',y,e1,e2,e3,_⟩:=c3 j _ (List.getElem?_eq_getElem hj)
   rw[hx] at e2
   cases e2
   have:cs[j]? =some v':=by simpa[Value.cells] using e1
   rw[hv] at this
   cases this
   exact .pK e3
  ·obtain ⟨v',y,e1,e2,_,e4⟩:=c3 j t' hj
   have:bK P t (.agg xs) j=y:=by
    simp only[bK,ha,cond_true,V.cell]
    exact sO _ _ _ e2
   rw[this]
   exact e4
 have pV:bH P t=false→v.cells= #[v]→∃x,an P w (mN w) β hp v x∧gY P t x:=by
  intro ha sW
  have he:aV P t=[t]:=by simp[aV,ha]
  rw[he] at c1 c2 c3
  obtain ⟨v',y,e1,e2,e3,e4⟩:=c3 0 t rfl
  rw[sW] at e1
  cases e1
  refine ⟨y,.pK e3,⟨fun h=>absurd (ha.symm.trans h) (by simp),fun j t' hj=> ?_⟩⟩
  rw[he] at hj
  cases j with
  | succ j=>simp at hj
  | zero=>
   cases hj
   simpa[bK,ha] using e4
 unfold Value.okWide at fq
 cases hu:P.underlying t with
 | none=>rw[hu] at hg;cases hg
 | some Zs=>
  rw[hu] at hg fq
  cases Zs with
  | int k=>
   refine pV (by simp[bH,hu]) ?_
   simp only[Cell.okWide,Cell.ok,hu] at fq
   cases v<;>first|rfl|(simp at fq;done)|exact fq.elim
  | bool=>
   refine pV (by simp[bH,hu]) ?_
   simp only[Cell.okWide,Cell.ok,hu] at fq
   cases v<;>first|rfl|(simp at fq;done)|exact fq.elim
  | string=>
   refine pV (by simp[bH,hu]) ?_
   simp only[Cell.okWide,Cell.ok,hu] at fq
   cases v<;>first|rfl|(simp at fq;done)|exact fq.elim
  | slice e=>
   refine pV (by simp[bH,hu]) ?_
   simp only[Cell.okWide,Cell.ok,hu] at fq
   cases v<;>first|rfl|(simp at fq;done)|exact fq.elim
  | struct fs=>exact DF (by simp[bH,hu])
  | array n e=>exact DF (by simp[bH,hu])
  | _=>cases hg
theorem PU {base Ir:Nat} {spare:Nat→Bool} {held:Bool} {r:Reach} {β:Nat→Option Nat} {hp:Nat→Option aj} (hL:DC P L=true): ∀{ts:List TypeId} {vs:List Value} {ds:List (DataW H)} {ps:List MemPlace},
  (∀t∈ts,t∈L)→(∀(j:Nat) t v,ts[j]? =some t→vs[j]? =some v→Value.okWide P w r Ir t v)→DataW.TrodAll enc P w base spare held ts vs ds ps→
  ∃xs,vs.length=xs.length∧(∀(j:Nat) v x,vs[j]? =some v→xs[j]? =some x→an P w (mN w) β hp v x)∧sm P ts xs
 | [],vs,ds,ps,_,_,h=>by
  obtain ⟨rfl,rfl,rfl⟩:=trodAll_nil h
  exact ⟨[],rfl,by simp,trivial⟩
 | t::ts,vs,ds,ps,hm,fq,h=>by
  obtain ⟨v,Cl,d,PV,a,b,rfl,rfl,rfl,h1,h2⟩:=trodAll_cons h
  obtain ⟨x,yA,mI⟩:=Zr (β:=β) (hp:=hp) hL (hm t (by simp)) (fq 0 t v rfl rfl) h1
  obtain ⟨xs,hl,hr,hw⟩:=PU (β:=β) (hp:=hp) hL (fun t ht=>hm t (by simp[ht])) (fun j t v a b=>fq (j+1) t v (by simpa using a) (by simpa using b)) h2
  refine ⟨x::xs,by simp[hl],fun j v' x' hv hx=> ?_,mI,hw⟩
  cases j with
  | zero=>cases hv;cases hx;exact yA
  | succ j=>exact hr j v' x' (by simpa using hv) (by simpa using hx)
theorem PW {base:Nat} {spare:Nat→Bool} {held:Bool}: ∀{ts:List TypeId} {vs:List Value} {ds:List (DataW H)} {ps:List MemPlace},DataW.TrodAll enc P w base spare held ts vs ds ps→ds.length=ts.length
 | [],vs,ds,ps,h=>by obtain ⟨rfl,rfl,rfl⟩:=trodAll_nil h;rfl
 | t::ts,vs,ds,ps,h=>by
  obtain ⟨v,Cl,d,PV,a,b,rfl,rfl,rfl,h1,h2⟩:=trodAll_cons h
  simp[PW h2]
theorem PX {base:Nat} (hl:laidOutB P=true) {W W':World} {PY:Nat→Bool}: ∀{ts:List TypeId} {vs:List Value} {ds:List (DataW H)} {ps:List MemPlace},(∀t∈ts,P.readableRec t=true∧t<P.types.size)→
  DataW.TrodAll enc P W base (fun _=>true) true ts vs ds ps→(∀p∈ps,W.sameAt W' p)→(∀p∈ps,PY p.block=true)→DataW.TrodAll enc P W' base PY true ts vs ds ps
 | [],vs,ds,ps,_,h,_,_=>by obtain ⟨rfl,rfl,rfl⟩:=trodAll_nil h;exact trodAll_mk0
 | t::ts,vs,ds,ps,hr,h,h1,h2=>by
  obtain ⟨v,Cl,d,PV,a,b,rfl,rfl,rfl,h3,h4⟩:=trodAll_cons h
  obtain ⟨r1,r2⟩:=hr t (by simp)
  exact trodAll_cons_mk (WideElems.Trod_stays hl r1 r2 h3 (fun p hp=>h1 p (by simp[hp])) (fun p hp=>h2 p (by simp[hp])))
   (PX hl (fun t ht=>hr t (by simp[ht])) h4 (fun p hp=>h1 p (by simp[hp])) (fun p hp=>h2 p (by simp[hp])))
theorem Zt {f:Func} {s:ChangeSpec} {apart fresh handsOn again:Bool} {W W':World} {args:Array Value} {v:Value} {ds gs:List (DataW H)} {before pa pv:List MemPlace}
  (hW:DataW.Whole enc P f.params.toList s.vars apart W args.toList ds gs before)
  (PZ: ∀(b:Nat) (sp:Nat→Bool) (hd:Bool),DataW.TrodAll enc P W' b sp hd f.resultTypes.toList (v.resultList f.resultTypes.size) (s.fn H (ds++gs)).results [])
  (tj: ∀sp:Nat→Bool,(∀p∈before,sp p.block=true)→DataW.TrodAll enc P W' 0 sp true f.params.toList args.toList (s.fn H (ds++gs)).args pa)
  (P0: ∀sp:Nat→Bool,(∀p∈before,sp p.block=true)→DataW.TrodVars enc P W' sp s.vars (s.fn H (ds++gs)).vars pv)
  (DG:before=pa++pv) (hk:W.keptBut W' (· ∈before)) (P1: ∀a:Addr,a.block<W.heap.size→W'.frozen? a=W.frozen? a)
  (ax: ∀(j:Nat) (t:TypeId) (r:Value),f.resultTypes[j]? =some t→(v.resultList f.resultTypes.size)[j]? =some r→Value.okWide P W' .any 0 t r):
  s.post enc P f apart fresh handsOn again W args v W':=by
 have hold: ∀p∈before,(fun b=>decide (b<W.heap.size)) p.block=true:=fun p hp=>by simpa using hW.lt p hp
 refine ⟨ds,gs,before,[],pa,pv,hW,PZ _ _ _,tj _ hold,P0 _ hold,World.keptBut_mono (fun p hp=>⟨hp,?_⟩) hk,fun _=> ?_⟩
 ·rw[DG,List.mem_append] at hp
  exact Or.inr hp
 ·have aS:=hW.lt
  obtain ⟨_,_,_,_,_,hz,hn⟩:=hW
  refine ⟨ax,_,_,([]++pa)++pv,⟨[]++pa,pv,trodAll_append (tj _ (fun _ _=>rfl)) (PZ _ _ _),P0 _ (fun _ _=>rfl),rfl,?_,?_⟩,?_⟩
  ·intro b off hp
   have hb:MemPlace.cell b off∈before:=by rw[DG];simpa using hp
   rw[P1 ⟨b,off,none⟩ (aS _ hb)]
   exact hz b off hb
  ·intro ha
   have:=hn ha
   rw[DG] at this
   simpa using this
  ·intro p hp _
   rw[DG]
   simpa using hp
theorem VY {A:cF} (hP:iW P A) (o8:P.follows .mixedOrders=true) {f key:Nat} {fn:Func} {tb:TypeId} {s:ChangeSpec} {apart fresh handsOn again:Bool}
  (hf:P.funcs[f]? =some fn) (Zu:A.aU key=f) (hL:DC P L=true) (eU:fn.params.toList.all (fun t=>hasB L t)=true) (P2:fn.resultTypes= #[tb]) (P4:P.underlying tb=some .bool) (P5:s.vars=[])
  (hs: ∀ds:List (DataW H),ds.length=fn.params.toList.length→s.fn H ds={results:=[.lit (.bool true)],args:=ds})
  (Zv:laidOutB P=true) (Zw:fn.params.toList.all (fun t=>P.readableRec t&&Nat.blt t P.types.size)=true)
  (dN:(A.sin key).aZ=[]) (ax:((A.sin key).bI.map (·.2)).all (VS.ok 0)=true) (Zx:(A.ft key).bI=[(0,.one .bool)]) (halt:A.alt key=none)
  (Zy: ∀xs,sm P fn.params.toList xs→∃ds,qO ((A.sin key).bI.map (·.2)) xs=some ds∧Call P A key ds=some [.bool true])
  {W:World} {base:Nat} {args:Array Value} {ds gs:List (DataW H)} {before:List MemPlace}
  (Zz:gz P A.aD W (mN W)) (fq: ∀(j:Nat) t v,fn.params[j]? =some t→args[j]? =some v→Value.okWide P W .any base t v)
  (hW:DataW.Whole enc P fn.params.toList s.vars apart W args.toList ds gs before):
  Calls P f args W fun e W'=> ∃v,e= .returned v∧s.post enc P fn apart fresh handsOn again W args v W':=by
 have P6:=hW
 obtain ⟨p,q,hA,hV,rfl,P1,jO⟩:=hW
 rw[P5] at hV
 obtain ⟨ZA,hq⟩:gs=[]∧q=[]:=by
  cases gs with
  | nil=>exact ⟨rfl,hV⟩
  | cons g gs=>exact hV.elim
 subst ZA
 subst hq
 obtain ⟨xs,hl,hr,ZB⟩:=PU (β:=fun _=>none) (hp:=fun _=>none) hL (fun t ht=>DD (List.all_eq_true.1 eU t ht)) (fun j t v a b=>fq j t v (by simpa using a) (by simpa using b)) hA
 obtain ⟨ls,ZC,yx⟩:=Zy xs ZB
 obtain ⟨fn',c,h1,h2,h3⟩:=Zk (A:=A) hP o8 key ls [.bool true] yx
 rw[Zu] at h1 h3
 rw[hf] at h1
 cases h1
 have vB: ∀j,(bn (A.sin key) ls).hp j=none:=fun j=>by simp[bn,mk,dN,eJ,jc]
 obtain ⟨_,r1,r2⟩:=ym (P:=P) (w:=W) (I:=mN W) (n:=0) (β:=fun _=>none) (au:=fun _=>none) (hp:=fun _=>none) (hp':=(bn (A.sin key) ls).hp) (fun j hj=>absurd hj (Nat.not_lt_zero j)) ZC ax
 have hlen:((A.sin key).bI.map (·.2)).length=xs.length:=by rw[←r1 [],Il]
 have h4:=h3 W (mN W) (fun _=>none) args.toList ⟨fun id blk h=>(by rw[vB] at h;cases h),fun id aC blk blk' b h=>(by rw[vB] at h;cases h),fun id blk b h=>(by rw[vB] at h;cases h),fun b h=>h⟩ Zz
  (by rw[hl,←hlen,List.length_map]) (fun j v y hv hy=>r2 [] j v y (fun x hx=>hr j v x hv hx) (by rw[List.append_nil];exact hy))
 have ea:args.toList.toArray=args:=by simp
 rw[ea] at h4
 refine h4.mono fun e W' ⟨v,I2,bX,he,ha⟩=>⟨v,he,?_⟩
 have sR: ∀b,b<W.heap.size→W'.heap[b]? =W.heap[b]? :=fun b hb=>ha.vo.b9 b hb (by rintro ⟨j,blk,hj,_⟩;rw[vB] at hj;cases hj)
 have HB:=ha.res
 have P7:A.so key [.bool true]=A.ft key∧A.lv key [.bool true]=[.bool true]:=by unfold cF.so cF.lv;rw[halt];exact ⟨rfl,rfl⟩
 rw[P7.1,P7.2,Zx] at HB
 obtain rfl:v= .bool true:=HB.ji
 have kP:Value.okWide P W' .any 0 tb (.bool true):=by simp[Value.okWide,P4,Cell.okWide,Cell.ok]
 have kF:ds.length=fn.params.toList.length:=PW hA
 have iC: ∀p'∈p++[],W.sameAt W' p':=by
  intro p' hp'
  have aS:=P6.lt p' hp'
  cases p' with
  | cell b o=>exact World.cell?_of_block (w:=W) (sR b aS)
  | map b=>exact sR b aS
 refine Zt (pa:=p) (pv:=[]) P6 ?_ ?_ ?_ rfl ?_ ?_ ?_
 ·intro b sp hd
  rw[List.append_nil,hs ds kF,P2]
  exact trodAll_mk1 ⟨1,by simp[DataW.trod,Value.cells,P4]⟩
 ·intro sp kg
  rw[List.append_nil,hs ds kF]
  refine PX Zv (fun t ht=> ?_) hA (fun p' hp'=>iC p' (by simpa using hp')) (fun p' hp'=>kg p' (by simpa using hp'))
  have:=List.all_eq_true.1 Zw t ht
  simp only[Bool.and_eq_true] at this
  exact ⟨this.1,by simpa[Nat.blt_eq] using this.2⟩
 ·intro sp kg
  rw[P5,List.append_nil,hs ds kF]
  exact rfl
 ·refine ⟨ha.vo.io.1,ha.vo.io.2,fun i hi=> ?_⟩
  rw[sR i hi]
  split<;>simp_all
 ·intro a aS
  exact World.frozen?_of_block (w:=W) (sR a.block aS)
 ·intro j t r hj Is
  rw[P2] at hj Is
  cases j with
  | zero=>
   simp[Value.resultList] at hj Is
   subst hj
   subst Is
   exact kP
  | succ j=>simp at hj
end
end Go.AM
namespace Go.AM
@[simp] theorem V.toInt_int (k:IntKind) (n:Int):V.toInt (.int k n)=n:=by cases k<;>rfl
@[simp] theorem V.mP (b:Bool):V.toBool (.bool b)=b:=by cases b<;>rfl
@[simp] theorem V.aio (s:List UInt8):V.toStr (.str s)=s:=by cases s<;>rfl
@[simp] theorem V.n8 (e:TypeId) (es:List V):V.toList (.list e es)=es:=by cases es<;>rfl
@[simp] theorem V.aip (e:TypeId) (es:List V):V.toList (.own e es)=es:=by cases es<;>rfl
@[simp] theorem V.ZD (cs:List V) (j:Nat):V.cell (.agg cs) j=V.nth cs j:=by cases cs<;>rfl
@[simp] theorem V.aiq (cs:List V) (j:Nat):V.comp (.bf cs) j=V.nth cs j:=by cases cs<;>rfl
@[simp] theorem V.bQ (x:V) (l:List V):V.nth (x::l) 0=x:=by cases l<;>rfl
@[simp] theorem V.qf (x:V) (l:List V) (n:Nat):V.nth (x::l) (n+1)=V.nth l n:=by cases l<;>rfl
@[simp] theorem V.air (x y:V) (l:List V):V.nth (x::y::l) 1=y:=by cases l<;>rfl
@[simp] theorem V.ais (x y z:V) (l:List V):V.nth (x::y::z::l) 2=z:=by cases l<;>rfl
@[simp] theorem V.ait (x y z u:V) (l:List V):V.nth (x::y::z::u::l) 3=u:=by cases l<;>rfl
theorem wrap64 {x:Int} (h1: -9223372036854775808≤x) (h2:x<9223372036854775808):IntKind.wrap .i64 x=x:=by
 rw[IntKind.wrap_i64];omega
theorem It {x:Int} (h1:0≤x) (h2:x<256):IntKind.wrap .u8 x=x:=by
 rw[IntKind.wrap_u8];omega
theorem Iu {es:List V} {i:Int} {n:Nat} (h:i=n):idx es i=es[n]? :=by
 subst h;simp[idx]
theorem ZE {α:Type} {f:α→V} {l:List α} {i:Int} {n:Nat} (h:i=n) (hn:n<l.length):idx (l.map f) i=some (f l[n]):=by
 rw[Iu h];simp[hn]
@[simp] theorem DH (es:List V) (n:Nat):idx es (n:Int)=es[n]? :=by simp[idx]
section
variable {X R:Type} {step:X→Option (X ⊕ R)}
theorem P8 (Inv:X→Prop) (μ:X→Nat) (Q:R→Prop)
  (h: ∀x,Inv x→(∃y,step x=some (.inl y)∧Inv y∧μ y<μ x)∨∃r,step x=some (.inr r)∧Q r):
  ∀x,Inv x→∃r,Loop step x=some r∧Q r:=by
 intro x
 induction hm:μ x using Nat.strongRecOn generalizing x with
 | ind m ih=>
  intro hx
  rcases h x hx with ⟨y,h1,h2,h3⟩|⟨r,h1,h2⟩
  ·obtain ⟨r,h4,h5⟩:=ih (μ y) (by omega) y rfl h2
   exact ⟨r,(dU h1).trans h4,h5⟩
  ·exact ⟨r,bS h1,h2⟩
theorem yJ (s:Nat→X) (n:Nat) {r:R} (h: ∀i,i<n→step (s i)=some (.inl (s (i+1)))) (he:step (s n)=some (.inr r)):Loop step (s 0)=some r:=by
 induction n generalizing s with
 | zero=>exact bS he
 | succ n ih=>
  rw[dU (h 0 (by omega))]
  exact ih (fun i=>s (i+1)) (fun i hi=>h (i+1) (by omega)) he
theorem ZF (s:Nat→X) (k:Nat) {r:R} (h: ∀i,i<k→step (s i)=some (.inl (s (i+1)))) (he:step (s k)=some (.inr r)):Loop step (s 0)=some r:=yJ s k h he
end
@[simp] theorem aA {α:Type} (p:Prop) [Decidable p] (a b:α):(bif decide p then a else b)=if p then a else b:=by by_cases h:p<;>simp[h]
@[simp] theorem mQ {α:Type} (m n:Int) (a b:α):(bif m==n then a else b)=if m=n then a else b:=by
 by_cases h:m=n
 ·simp[h]
 ·have:(m==n)=false:=by simp[h]
  rw[this,if_neg h];rfl
@[simp] theorem o9 {α:Type} (m n:Int) (a b:α):(bif m != n then a else b)=if m=n then b else a:=by
 by_cases h:m=n
 ·simp[h]
 ·have:(m != n)=true:=by simp[h]
  rw[this,if_neg h];rfl
@[simp] theorem gd {α:Type} (c:Bool) (a b:α):(bif !c then a else b)=bif c then b else a:=by cases c<;>rfl
@[simp] theorem qg {α:Type} (m n:Nat) (a b:α):(bif Nat.ble m n then a else b)=if m≤n then a else b:=by
 cases hb:Nat.ble m n with
 | true=>rw[if_pos (Nat.le_of_ble_eq_true hb)];rfl
 | false=>
  rw[if_neg fun h=> ?_]
  ·rfl
  ·rw[Nat.ble_eq_true_of_le h] at hb;cases hb
@[simp] theorem dt {α:Type} (c d:Bool) (a b:α):(bif c&&d then a else b)=bif c then (bif d then a else b) else b:=by cases c<;>rfl
end Go.AM
namespace Go.AM
section
variable {P:Program}
def P9 (P : Program) : Bool := P.funcs.all fun fn => !(fn.name == "runtime.NumGoroutine")
theorem ZG (h:P9 P=true):vr P:=by
 intro f fn hf
 unfold P9 at h
 have:=(Array.all_eq_true_iff_forall_mem.1 h) fn (Array.mem_of_getElem? hf)
 simpa using this
theorem MI {t:TypeId} {ts:List TypeId} {xs:List V} (h:sm P (t::ts) xs): ∃x ys,xs=x::ys∧gY P t x∧sm P ts ys:=by
 cases xs with
 | nil=>exact h.elim
 | cons x ys=>exact ⟨x,ys,rfl,h.1,h.2⟩
theorem VU {xs:List V} (h:sm P [] xs):xs=[]:=by
 cases xs with
 | nil=>rfl
 | cons x ys=>exact h.elim
theorem gY.one {t:TypeId} {x:V} (ha:bH P t=false) (h:gY P t x):WT P t x:=by
 have he:aV P t=[t]:=by simp[aV,ha]
 have:=h.2 0 t (by rw[he];rfl)
 simpa[bK,ha] using this
theorem WT.eu {t:TypeId} {k:IntKind} {x:V} (hu:P.underlying t=some (.int k)) (h:WT P t x): ∃n,x= .int k n∧k.min≤n∧n≤k.max:=by
 cases h with
 | int h1 h2=>
  rw[hu] at h1
  cases h1
  simp only[Lit.wf,Bool.and_eq_true,decide_eq_true_eq] at h2
  exact ⟨_,rfl,h2⟩
 | bool h1=>rw[hu] at h1;cases h1
 | str h1=>rw[hu] at h1;cases h1
 | list h1=>rw[hu] at h1;cases h1
theorem WT.ji {t:TypeId} {x:V} (hu:P.underlying t=some .bool) (h:WT P t x): ∃b,x= .bool b:=by
 cases h with
 | int h1=>rw[hu] at h1;cases h1
 | bool h1=>exact ⟨_,rfl⟩
 | str h1=>rw[hu] at h1;cases h1
 | list h1=>rw[hu] at h1;cases h1
theorem WT.lJ {t:TypeId} {x:V} (hu:P.underlying t=some .string) (h:WT P t x): ∃s,x= .str s∧s.length≤maxLen:=by
 cases h with
 | int h1=>rw[hu] at h1;cases h1
 | bool h1=>rw[hu] at h1;cases h1
 | str h1 h2=>exact ⟨_,rfl,h2⟩
 | list h1=>rw[hu] at h1;cases h1
theorem WT.Iv {t e:TypeId} {x:V} (hu:P.underlying t=some (.slice e)) (h:WT P t x): ∃es,x= .list e es∧es.length≤maxLen∧∀y∈es,gY P e y:=by
 cases h with
 | int h1=>rw[hu] at h1;cases h1
 | bool h1=>rw[hu] at h1;cases h1
 | str h1=>rw[hu] at h1;cases h1
 | list h1 h2 h3 h4=>
  rw[hu] at h1
  cases h1
  refine ⟨_,rfl,h2,fun y hy=> ?_⟩
  obtain ⟨i,hi⟩:=List.getElem?_of_mem hy
  exact ⟨h3 i y hi,fun j t' hj=>h4 i j y t' hi hj⟩
theorem gY.ka {t:TypeId} {x:V} (ha:bH P t=true) (h:gY P t x): ∃xs,x= .agg xs∧xs.length=(aV P t).length∧∀(j:Nat) t' y,(aV P t)[j]? =some t'→xs[j]? =some y→WT P t' y:=by
 obtain ⟨xs,rfl,hl⟩:=h.1 ha
 refine ⟨xs,rfl,hl,fun j t' y hj hy=> ?_⟩
 have:=h.2 j t' hj
 simp only[bK,ha,cond_true,V.ZD] at this
 rw[sO _ _ _ hy] at this
 exact this
theorem Qa {α:Type} {f:α→V}: ∀{es:List V},(∀y∈es,∃a,y=f a)→∃l:List α,es=l.map f
 | [],_=>⟨[],rfl⟩
 | y::es,h=>by
  obtain ⟨a,rfl⟩:=h y (by simp)
  obtain ⟨l,rfl⟩:=Qa (f:=f) (es:=es) fun z hz=>h z (by simp[hz])
  exact ⟨a::l,rfl⟩
theorem Iw {α:Type} {f:α→V} {p:α→Prop}: ∀{es:List V},(∀y∈es,∃a,y=f a∧p a)→∃l:List α,es=l.map f∧∀a∈l,p a
 | [],_=>⟨[],rfl,by simp⟩
 | y::es,h=>by
  obtain ⟨a,rfl,ha⟩:=h y (by simp)
  obtain ⟨l,rfl,hl⟩:=Iw (f:=f) (p:=p) (es:=es) fun z hz=>h z (by simp[hz])
  exact ⟨a::l,rfl,by
   intro b hb
   rcases List.mem_cons.1 hb with rfl|hb
   ·exact ha
   ·exact hl b hb⟩
theorem gY.int {t:TypeId} {x:V} (hu:P.underlying t=some (.int .i64)) (h:gY P t x): ∃n,x= .int .i64 n∧IntKind.min .i64≤n∧n≤IntKind.max .i64:=
 (h.one (by simp[bH,hu])).eu hu
theorem gY.str {t:TypeId} {x:V} (hu:P.underlying t=some .string) (h:gY P t x): ∃s,x= .str s∧s.length≤maxLen:=
 (h.one (by simp[bH,hu])).lJ hu
end
end Go.AM
namespace Go.AM
def un.{u} {A B:Type} {γ:Sort u} (f:A→B→γ) (p:A × B):γ:=f p.1 p.2
def cY {A B γ:Type} (f:A→γ) (g:B→γ):A ⊕ B→γ
 | .inl a=>f a
 | .inr b=>g b
def ar:List Nat→Code→Code
 | [],c=>c
 | 0::p,.seq a _=>ar p a
 | _::p,.seq _ b=>ar p b
 | 0::p,.cond _ a _=>ar p a
 | _::p,.cond _ _ b=>ar p b
 | _::p,.block _ c=>ar p c
 | _::p,.loop c=>ar p c
 | _,c=>c
inductive cd where
 | loop (c:Code)
 | cond (t:Nat) (x y:Code)
section
variable (P:Program) (A:cF) (C:ag) (L:ch) (f n m:Nat)
def pb:Code→List cd
 | .seq a b=>pb a++pb b
 | .cond (.tmp t) x y=>
  match A.gh f (t*16+15) with
  | none=>pb x++pb y
  | some _=>[.cond t x y]
 | .cond (.const _) x y=>pb x++pb y
 | .block _ c=>pb c
 | .loop c=>[.loop c]
 | _=>[]
def cf:cd→Prop
 | .loop c=>
  match A.gh f (keyOf c+1) with
  | none=>True
  | some S=> ∀(β:Type) ds (k:Nat→List V→Option β),L β (keyOf c+1) ds k=(Loop (stepG P A C f n m S c) ds).bind fun r=>k r.1 r.2
 | .cond t x y=>
  match A.gh f (t*16+15) with
  | none=>True
  | some S=> ∀(β:Type) ds (k:Nat→List V→Option β),L β (t*16+15) ds k=(xC P A C f n m t S x y ds).bind fun r=>k r.1 r.2
def mR:List cd→Prop
 | []=>True
 | b::l=>cf P A C L f n m b∧mR l
variable {P A C L f n m}
theorem mR.left {a b:List cd}:mR P A C L f n m (a++b)→mR P A C L f n m a:=by
 induction a with
 | nil=>exact fun _=>trivial
 | cons x a ih=>exact fun h=>⟨h.1,ih h.2⟩
theorem mR.right {a b:List cd}:mR P A C L f n m (a++b)→mR P A C L f n m b:=by
 induction a with
 | nil=>exact fun h=>h
 | cons x a ih=>exact fun h=>ih h.2
theorem aR: ∀{c:Code} {bs:List cd},pb A f c=bs→mR P A C L f n m bs→gS P A C L f n m c:=by
 intro c
 induction c with
 | seq a b GO GP=>
  intro bs h hb
  subst h
  exact ⟨GO rfl hb.left,GP rfl hb.right⟩
 | cond c x y fG fH=>
  intro bs h hb
  subst h
  cases c with
  | tmp t=>
   simp only[pb] at hb
   simp only[gS]
   cases hs:A.gh f (t*16+15) with
   | none=>
    rw[hs] at hb
    exact ⟨fG rfl hb.left,fH rfl hb.right⟩
   | some S=>
    rw[hs] at hb
    have:=hb.1
    simp only[cf,hs] at this
    exact this
  | const v=>exact ⟨fG rfl hb.left,fH rfl hb.right⟩
  | _=>trivial
 | block id c ih=>
  intro bs h hb
  subst h
  exact ih rfl hb
 | loop c ih=>
  intro bs h hb
  subst h
  exact hb.1
 | _=>intro bs h hb;trivial
variable (P A C L f n m) in
noncomputable def Ix {β:Type} (t:Nat) (S:Shape × List (Out × Shape)) (x y:Code) (ds:List V) (k:Nat→List V→Option β):Option β:=
 let kc:Out→St→Option β:=fun o st=>
  match o with
  | .norm=>(ways m 0 S.2 (.norm,canon m (A.join f t) st)).bind fun e=>k e.1 e.2
  | o=>(ways m 0 S.2 (o,st)).bind fun e=>k e.1 e.2
 match (bn S.1 ds).sl t with
 | .bool b=>bif b then gR P A C L f n m x (bn S.1 ds) kc else gR P A C L f n m y (bn S.1 ds) kc
 | _=>none
theorem ZH {t:Nat} {x y:Code} {S:Shape × List (Out × Shape)} (hS:A.gh f (t*16+15)=some S) (hx:gS P A C L f n m x) (hy:gS P A C L f n m y) {I R:Type} (enc:I→List V) (lU:I→R→Nat × List V)
  (de:List V→I) (body:I→(β:Type)→(R→Option β)→Option β) (tu: ∀ds,bn S.1 (enc (de ds))=bn S.1 ds)
  (e1: ∀i (β:Type) (k:Nat→List V→Option β),Ix P A C L f n m t S x y (enc i) k=body i β (fun r=>k (lU i r).1 (lU i r).2))
  (hl: ∀(β:Type) ds (k:Nat→List V→Option β),L β (t*16+15) ds k=body (de ds) β (fun r=>k (lU (de ds) r).1 (lU (de ds) r).2)):
  cf P A C L f n m (.cond t x y):=by
 simp only[cf,hS]
 intro β ds k
 rw[hl,←e1]
 unfold Ix xC
 rw[tu]
 simp only
 have hk: ∀(z:Option (Out × St)),(z.bind fun r=>(match r.1 with
   | .norm=>(ways m 0 S.2 (.norm,canon m (A.join f t) r.2)).bind fun e=>k e.1 e.2
   | o=>(ways m 0 S.2 (o,r.2)).bind fun e=>k e.1 e.2))=((z.bind fun r=>
   match r.1 with
   | .norm=>some (Out.norm,canon m (A.join f t) r.2)
   | _=>some r).bind fun r=>ways m 0 S.2 r).bind fun r=>k r.1 r.2:=by
  intro z
  cases z with
  | none=>rfl
  | some r=>obtain ⟨o,st⟩:=r;cases o<;>rfl
 cases (bn S.1 ds).sl t with
 | bool b=>
  cases b with
  | true=>simp only[cond_true,Cj P A C f n m x hx];exact hk _
  | false=>simp only[cond_false,Cj P A C f n m y hy];exact hk _
 | _=>rfl
theorem bd {b:cd} {l:List cd} (h:cf P A C L f n m b) (h2:mR P A C L f n m l):mR P A C L f n m (b::l):=⟨h,h2⟩
theorem av:mR P A C L f n m []:=trivial
theorem bj {key:Nat} {bs:List cd} (hb:pb A key (cx P (A.aU key))=bs) (ht:mR P A (Call P A) L key (cG P (A.aU key)) (A.sin key).aZ.length bs) {ds:List V} {r:Option (List V)}
  (h:GQ P A (Call P A) L key ds=r):Call P A key ds=r:=by
 rw[Zn,V7 P A (Call P A) key (aR hb ht),h]
end
end Go.AM
namespace Go.AM
section
variable (P:Program) (A:cF)
def gZ (C:ag) (N f n m:Nat):Code→St→Option (Out × St)
 | .skip,st=>some (.norm,st)
 | .region id ops draw,st=>(uQ P (A.here f id) C n ops draw st).bind fun st'=>some (.norm,canon m (A.live f id) (freeze m (A.pur f id) st'))
 | .seq a b,st=>(gZ C N f n m a st).bind fun r=>
  match r.1 with
  | .norm=>gZ C N f n m b r.2
  | _=>some r
 | .cond (.tmp t) x y,st=>
  let go (st:St):Option (Out × St):=
   match st.sl t with
   | .bool b=>(bif b then gZ C N f n m x st else gZ C N f n m y st).bind fun r=>
    match r.1 with
    | .norm=>some (.norm,canon m (A.join f t) r.2)
    | _=>some r
   | _=>none
  match A.gh f (t*16+15) with
  | none=>go st
  | some S=>(iq m S.1 st).bind fun ds=>((go (bn S.1 ds)).bind fun r=>ways m 0 S.2 r).bind fun e=>jE 0 S.2 e.1 e.2 fun o st=>some (o,st)
 | .cond (.const (.bool b)) x y,st=>bif b then gZ C N f n m x st else gZ C N f n m y st
 | .block id c,st=>(gZ C N f n m c st).bind fun r=>
  match r.1 with
  | .norm=>some (.norm,canon m (A.blk f id) r.2)
  | .exit aC=>bif Nat.beq aC id then some (.norm,canon m (A.blk f id) r.2) else some r
  | .ret=>some r
 | .loop c,st=>
  match A.gh f (keyOf c+1) with
  | none=>none
  | some S=>(iq m S.1 st).bind fun ds=>(eH (fun ds=>j7 m S.1 S.2 (gZ C N f n m c (bn S.1 ds))) N ds).bind fun e=>jE 0 S.2 e.1 e.2 fun o st=>some (o,st)
 | .exit id,st=>some (.exit id,st)
 | .ret,st=>some (.ret,st)
 | _,_=>none
def Iy (C:ag) (N f:Nat) (ds:List V):Option (List V):=
 match P.funcs[A.aU f]? with
 | none=>none
 | some fn=>
  match fn.body with
  | none=>none
  | some c=>bif gQ 0 (A.sin f).bI&&(Nat.ble (A.sin f).bI.length fn.ntmps&&((A.sin f).ok&&(gQ 0 (A.ft f).bI&&(Nat.beq (A.ft f).bI.length fn.results.size&&nC (lE (A.sin f).aZ.length (A.mv f)))))) then
    (gZ P A C N f fn.ntmps (A.sin f).aZ.length c (xB A f ds)).bind fun r=>
     match r.1 with
     | .exit _=>none
     | _=>((sC P A f fn (A.sin f).aZ.length r.2).run C r.2.hp).map (·.1)
   else none
def DI (N:Nat):Nat→ag
 | 0=>fun _ _=>none
 | n+1=>Iy P A (DI N n) N
variable {P A}
theorem Qb {X R:Type} {s1 s2:X→Option (X ⊕ R)} (h: ∀x y,s1 x=some y→s2 x=some y): ∀(n:Nat) (x:X) (r:R),eH s1 n x=some r→eH s2 n x=some r
 | 0,x,r,e=>by cases e
 | n+1,x,r,e=>by
  simp only[eH] at e⊢
  obtain ⟨y,h1,h2⟩:=bind_some e
  rw[h x y h1]
  cases y with
  | inl z=>exact Qb h n z r h2
  | inr q=>exact h2
theorem ZI {C:ag} {N f n m:Nat}: ∀(c:Code) {st:St} {r:Out × St},gZ P A C N f n m c st=some r→exec P A C f n m c st=some r:=by
 intro c
 induction c with
 | skip=>exact fun e=>e
 | exit id=>exact fun e=>e
 | ret=>exact fun e=>e
 | region id ops draw=>exact fun e=>e
 | seq x y fG fH=>
  intro st r e
  simp only[gZ,exec] at e⊢
  obtain ⟨⟨o,s1⟩,h1,h2⟩:=bind_some e
  rw[fG h1]
  cases o with
  | norm=>exact fH h2
  | exit id=>exact h2
  | ret=>exact h2
 | cond c x y fG fH=>
  intro st r e
  cases c with
  | tmp t=>
   have go: ∀{st:St} {r:Out × St},(match st.sl t with
     | .bool b=>(bif b then gZ P A C N f n m x st else gZ P A C N f n m y st).bind fun r=>
      match r.1 with
      | .norm=>some (.norm,canon m (A.join f t) r.2)
      | _=>some r
     | _=>none)=some r→(match st.sl t with
     | .bool b=>(bif b then exec P A C f n m x st else exec P A C f n m y st).bind fun r=>
      match r.1 with
      | .norm=>some (.norm,canon m (A.join f t) r.2)
      | _=>some r
     | _=>none)=some r:=by
    intro st r e
    cases hs:st.sl t<;>rw[hs] at e<;>simp only at e⊢ <;>first|(cases e;done)|skip
    rename_i b
    obtain ⟨x1,h1,h2⟩:=bind_some e
    cases b with
    | true=>simp only[cond_true,fG h1,Option.bind_some];exact h2
    | false=>simp only[cond_false,fH h1,Option.bind_some];exact h2
   simp only[gZ,exec] at e⊢
   split at e
   ·rename_i hS
    try rw[hS]
    exact go e
   ·rename_i S hS
    obtain ⟨ds,h1,h2⟩:=bind_some e
    obtain ⟨e',h3,h4⟩:=bind_some h2
    obtain ⟨r1,h5,h6⟩:=bind_some h3
    try rw[hS]
    simp only[h1,Option.bind_some]
    exact (congrArg (fun z:Option (Out × St)=>(z.bind fun r=>ways m 0 S.2 r).bind fun e=>jE 0 S.2 e.1 e.2 fun o st=>some (o,st)) (go h5)).trans (by simp only[Option.bind_some,h6];exact h4)
  | const v=>
   cases v with
   | bool b=>
    simp only[gZ,exec] at e⊢
    cases b with
    | true=>exact fG e
    | false=>exact fH e
   | _=>simp only[gZ] at e;cases e
  | _=>simp only[gZ] at e;cases e
 | block id c ih=>
  intro st r e
  simp only[gZ,exec] at e⊢
  obtain ⟨x1,h1,h2⟩:=bind_some e
  rw[ih h1]
  exact h2
 | loop c ih=>
  intro st r e
  simp only[gZ,exec] at e⊢
  split at e
  ·cases e
  ·rename_i S hS
   obtain ⟨ds,h1,h2⟩:=bind_some e
   obtain ⟨e',h3,h4⟩:=bind_some h2
   try rw[hS]
   simp only[h1,Option.bind_some]
   rw[uB (Qb (s2:=fun ds=>j7 m S.1 S.2 (exec P A C f n m c (bn S.1 ds))) (fun x y yG=>by
    unfold j7 at yG⊢
    obtain ⟨z,h5,h6⟩:=bind_some yG
    rw[ih h5]
    exact h6) N ds e' h3)]
   exact h4
 | _=>intro st r e;simp only[gZ] at e;cases e
theorem ZJ {C:ag} {N f:Nat} {ds es:List V} (e:Iy P A C N f ds=some es):nE P A C f ds=some es:=by
 unfold Iy at e
 unfold nE
 cases hf:P.funcs[A.aU f]? with
 | none=>rw[hf] at e;cases e
 | some fn=>
  rw[hf] at e
  simp only at e⊢
  cases hb:fn.body with
  | none=>rw[hb] at e;cases e
  | some c=>
   rw[hb] at e
   simp only at e⊢
   cases hc:(gQ 0 (A.sin f).bI&&(Nat.ble (A.sin f).bI.length fn.ntmps&&((A.sin f).ok&&(gQ 0 (A.ft f).bI&&(Nat.beq (A.ft f).bI.length fn.results.size&&nC (lE (A.sin f).aZ.length (A.mv f))))))) with
   | false=>rw[hc] at e;cases e
   | true=>
    rw[hc] at e
    simp only[cond_true] at e⊢
    obtain ⟨x,h1,h2⟩:=bind_some e
    rw[ZI c h1]
    exact h2
theorem Qc {N:Nat}: ∀n {f:Nat} {a r:List V},DI P A N n f a=some r→jF P A n f a=some r
 | 0,f,a,r,h=>by cases h
 | n+1,f,a,r,h=>by
  obtain ⟨M,hM⟩:=DA (C:=DI P A N n) (D:=fun _=>jF P A n) (fun f a r h=>⟨0,fun _ _=>Qc n h⟩) (ZJ h)
  exact hM M (Nat.le_refl _)
theorem ZK {N n f:Nat} {a r:List V} (h:DI P A N n f a=some r):Call P A f a=some r:=yH.2 ⟨n,Qc n h⟩
end
end Go.AM
namespace Go.AM
inductive LK where
 | int (k:IntKind)
 | bool
 | str
 | list (e:TypeId)
 | nat
def LK.Ty:LK→Type
 | .int _=>Int
 | .bool=>Bool
 | .str=>List UInt8
 | .list _=>List V
 | .nat=>Nat
def LK.enc:(k:LK)→k.Ty→V
 | .int k,n=> .int k n
 | .bool,b=> .bool b
 | .str,s=> .str s
 | .list e,l=> .list e l
 | .nat,n=>dY n
def LK.dec:(k:LK)→V→k.Ty
 | .int _,v=>v.toInt
 | .bool,v=>v.toBool
 | .str,v=>v.toStr
 | .list _,v=>v.toList
 | .nat,v=>j4 v
theorem LK.Qd: ∀(k:LK) (x:k.Ty),k.dec (k.enc x)=x
 | .int _,_=>rfl
 | .bool,_=>rfl
 | .str,_=>rfl
 | .list _,_=>rfl
 | .nat,_=>rfl
def Iz:List Nat→List LK
 | []=>[]
 | _::l=> .nat::Iz l
def LS.ks:LS→List LK
 | .int k=>[.int k]
 | .bool=>[.bool]
 | .str=>[.str]
 | .list e=>[.list e]
 | .sub .. =>[.nat,.nat]
 | .ptr _=>[.nat,.nat]
 | .row _ _ cs=>Iz cs
 | .cE _ cs _=> .nat::Iz cs
 | _=>[]
def vC:List LS→List LK
 | []=>[]
 | l::ls=>l.ks++vC ls
def VS.ks:VS→List LK
 | .one l=>l.ks
 | .agg ls=>vC ls
 | .bf ls=>vC ls
 | .fn _ a b=>vC a++vC b
 | .pref _ ls=>vC ls
def Qe:List VS→List LK
 | []=>[]
 | l::ls=>l.ks++Qe ls
def BS.ks:BS→List LK
 | .var _ cs=>Qe cs
 | .arr e _=>[.list e]
 | .nest e=>[.list e]
 | .dead=>[]
 | .map t=>[.list t]
def Qf:List (Nat × VS)→List LK
 | []=>[]
 | p::l=>p.2.ks++Qf l
def Qg:List BS→List LK
 | []=>[]
 | b::l=>b.ks++Qg l
def Shape.ks (S:Shape):List LK:=Qf S.bI++Qg S.aZ
def IA:List Nat→List V→List V
 | [],_=>[]
 | _::cs,ds=>dY (j4 (V.nth ds 0))::IA cs (ds.drop 1)
def LS.norm:LS→List V→List V
 | .int k,ds=>[.int k (V.nth ds 0).toInt]
 | .bool,ds=>[.bool (V.nth ds 0).toBool]
 | .str,ds=>[.str (V.nth ds 0).toStr]
 | .list e,ds=>[.list e (V.nth ds 0).toList]
 | .sub ..,ds=>[dY (j4 (V.nth ds 0)),dY (j4 (V.nth ds 1))]
 | .ptr _,ds=>[dY (j4 (V.nth ds 0)),dY (j4 (V.nth ds 1))]
 | .row _ _ cs,ds=>IA cs ds
 | .cE _ cs _,ds=>dY (j4 (V.nth ds 0))::IA cs (ds.drop 1)
 | _,_=>[]
def vD:List LS→List V→List V
 | [],_=>[]
 | l::ls,ds=>l.norm ds++vD ls (ds.drop l.size)
def VS.norm:VS→List V→List V
 | .one l,ds=>l.norm ds
 | .agg ls,ds=>vD ls ds
 | .bf ls,ds=>vD ls ds
 | .fn _ a b,ds=>vD a ds++vD b (ds.drop (jC a))
 | .pref _ ls,ds=>vD ls ds
def Qh:List VS→List V→List V
 | [],_=>[]
 | l::ls,ds=>l.norm ds++Qh ls (ds.drop l.size)
def BS.norm:BS→List V→List V
 | .var _ cs,ds=>Qh cs ds
 | .arr e _,ds=>[.list e (V.nth ds 0).toList]
 | .nest e,ds=>[.list e (V.nth ds 0).toList]
 | .dead,_=>[]
 | .map t,ds=>[.list t (V.nth ds 0).toList]
def Qi:List (Nat × VS)→List V→List V
 | [],_=>[]
 | p::l,ds=>p.2.norm ds++Qi l (ds.drop p.2.size)
def Qj:List BS→List V→List V
 | [],_=>[]
 | b::l,ds=>b.norm ds++Qj l (ds.drop b.size)
def Shape.norm (S:Shape) (ds:List V):List V:=Qi S.bI ds++Qj S.aZ (ds.drop (nB S.bI))
def tv:LK→List LK→Type
 | k,[]=>k.Ty
 | k,k'::ks=>k.Ty × tv k' ks
def jP:List LK→Type
 | []=>Unit
 | k::ks=>tv k ks
def tw:(k:LK)→(ks:List LK)→tv k ks→List V
 | k,[],x=>[k.enc x]
 | k,k'::ks,x=>k.enc x.1::tw k' ks x.2
def km:(ks:List LK)→jP ks→List V
 | [],_=>[]
 | k::ks,x=>tw k ks x
def yK:(k:LK)→(ks:List LK)→List V→tv k ks
 | k,[],l=>k.dec (V.nth l 0)
 | k,k'::ks,l=>(k.dec (V.nth l 0),yK k' ks l.tail)
def n9:(ks:List LK)→List V→jP ks
 | [],_=>()
 | k::ks,l=>yK k ks l
theorem Qk: ∀(k:LK) (ks:List LK) (x:tv k ks) (r:List V),yK k ks (tw k ks x++r)=x
 | k,[],x,r=>LK.Qd k x
 | k,k'::ks,x,r=>by
  show (k.dec (k.enc x.1),yK k' ks (tw k' ks x.2++r))=x
  rw[LK.Qd,Qk k' ks]
  rfl
def vE:List LK→Type 1→Type 1
 | [],R=>R
 | k::ks,R=>k.Ty→vE ks R
def Ql:(k:LK)→(ks:List LK)→{R:Type 1}→vE (k::ks) R→tv k ks→R
 | _,[],_,f,x=>f x
 | _,k'::ks,_,f,x=>Ql k' ks (f x.1) x.2
def tx:(ks:List LK)→{R:Type 1}→vE ks R→jP ks→R
 | [],_,f,_=>f
 | k::ks,_,f,x=>Ql k ks f x
def vF {α:Type} (b:Bool):List Bool→List α→List α
 | [],_=>[]
 | _,[]=>[]
 | c::m,x::l=>bif c==b then x::vF b m l else vF b m l
def merge:List Bool→List V→List V→List V
 | [],_,_=>[]
 | true::m,i,x=>V.nth x 0::merge m i x.tail
 | false::m,i,x=>V.nth i 0::merge m i.tail x
def vG:List Nat→List LK→List LK
 | [],_=>[]
 | _,[]=>[]
 | 0::t,k::ks=>k::vG t ks
 | (_+1)::t,_::ks=>vG t ks
abbrev fB:=List Nat × List LK
def fB.fresh (w:fB):List LK:=vG w.1 w.2
def put:List Nat→List V→List V→List V
 | [],_,_=>[]
 | 0::t,ds,x=>V.nth x 0::put t ds x.tail
 | (j+1)::t,ds,x=>V.nth ds j::put t ds x
def tz:List Nat→List V→List V
 | [],_=>[]
 | 0::t,l=>V.nth l 0::tz t l.tail
 | (_+1)::t,l=>tz t l.tail
def rD:fB→List fB→Type
 | w,[]=>jP w.fresh
 | w,w'::ws=>jP w.fresh ⊕ rD w' ws
def qh:List fB→Type
 | []=>Empty
 | w::ws=>rD w ws
def wN (ds:List V) {β:Type} (k:Nat→List V→Option β):Nat→(w:fB)→(ws:List fB)→rD w ws→Option β
 | j,w,[],r=>k j (put w.1 ds (km w.fresh r))
 | j,w,w'::ws,r=>cY (fun x=>k j (put w.1 ds (km w.fresh x))) (fun y=>wN ds k (j+1) w' ws y) r
def wT (ds:List V) {β:Type} (k:Nat→List V→Option β):(ws:List fB)→qh ws→Option β
 | [],r=>Empty.elim r
 | w::ws,r=>wN ds k 0 w ws r
def oa (ds:List V):Nat→(w:fB)→(ws:List fB)→rD w ws→Nat × List V
 | j,w,[],r=>(j,put w.1 ds (km w.fresh r))
 | j,w,_::_,.inl x=>(j,put w.1 ds (km w.fresh x))
 | j,_,w'::ws,.inr y=>oa ds (j+1) w' ws y
def vH (ds:List V):(ws:List fB)→qh ws→Nat × List V
 | [],r=>Empty.elim r
 | w::ws,r=>oa ds 0 w ws r
theorem Qm (ds:List V) {β:Type} (k:Nat→List V→Option β): ∀(j:Nat) (w:fB) (ws:List fB) (r:rD w ws),wN ds k j w ws r=k (oa ds j w ws r).1 (oa ds j w ws r).2
 | _,_,[],_=>rfl
 | _,_,_::_,.inl _=>rfl
 | j,_,w'::ws,.inr y=>Qm ds k (j+1) w' ws y
theorem DJ (ds:List V) {β:Type} (k:Nat→List V→Option β): ∀(ws:List fB) (r:qh ws),wT ds k ws r=k (vH ds ws r).1 (vH ds ws r).2
 | [],r=>Empty.elim r
 | w::ws,r=>Qm ds k 0 w ws r
def vI:Nat→(w:fB)→(ws:List fB)→List V→rD w ws
 | _,w,[],l=>n9 w.fresh (tz w.1 l)
 | 0,w,_::_,l=> .inl (n9 w.fresh (tz w.1 l))
 | j+1,_,w'::ws,l=> .inr (vI j w' ws l)
def Qn (j:Nat):(ws:List fB)→List V→Option (qh ws)
 | [],_=>none
 | w::ws,l=>some (vI j w ws l)
def vJ:List Nat→List V→List V
 | [],_=>[]
 | 0::t,x=>V.nth x 0::vJ t x.tail
 | (_+1)::t,x=>vJ t x
theorem IB: ∀(t:List Nat) (ds x:List V),tz t (put t ds x)=vJ t x
 | [],_,_=>rfl
 | 0::t,ds,x=>congrArg (V.nth x 0:: ·) (IB t ds x.tail)
 | (_+1)::t,ds,x=>IB t ds x
theorem IC: ∀(t:List Nat) (ks:List LK) (k:LK) (pc:List LK),vG t ks=k::pc→∀x:tv k pc,∃r,vJ t (tw k pc x)=tw k pc x++r
 | [],_,_,_,h,_=>by cases h
 | _::_,[],_,_,h,_=>by simp[vG] at h
 | 0::t,a::ks,k,pc,h,x=>by
  simp only[vG,List.cons.injEq] at h
  obtain ⟨rfl,h2⟩:=h
  cases pc with
  | nil=>exact ⟨vJ t [],rfl⟩
  | cons k' pc=>
   obtain ⟨r,hr⟩:=IC t ks k' pc h2 x.2
   exact ⟨r,congrArg (a.enc x.1:: ·) hr⟩
 | (_+1)::t,a::ks,k,pc,h,x=>IC t ks k pc h x
theorem Qo (w:fB) (ds:List V) (x:jP w.fresh):n9 w.fresh (tz w.1 (put w.1 ds (km w.fresh x)))=x:=by
 rw[IB]
 revert x
 generalize hf:w.fresh=f
 cases f with
 | nil=>intro x;rfl
 | cons k ks=>
  intro x
  obtain ⟨r,hr⟩:=IC w.1 w.2 k ks hf x
  show yK k ks (vJ w.1 (tw k ks x))=x
  rw[hr]
  exact Qk k ks x r
theorem Qp (ds:List V): ∀(j:Nat) (w:fB) (ws:List fB) (r:rD w ws),j≤(oa ds j w ws r).1
 | _,_,[],_=>Nat.le_refl _
 | _,_,_::_,.inl _=>Nat.le_refl _
 | j,_,w'::ws,.inr y=>Nat.le_trans (Nat.le_succ j) (Qp ds (j+1) w' ws y)
theorem ZL (w:fB) (l:List V): ∀j,vI j w [] l=n9 w.fresh (tz w.1 l)
 | 0=>rfl
 | _+1=>rfl
theorem Qq (ds:List V): ∀(j:Nat) (w:fB) (ws:List fB) (r:rD w ws),vI ((oa ds j w ws r).1-j) w ws (oa ds j w ws r).2=r
 | j,w,[],r=>(ZL w _ _).trans (Qo w ds r)
 | j,w,w'::ws,.inl x=>by
  show vI (j-j) w (w'::ws) (put w.1 ds (km w.fresh x))= .inl x
  rw[Nat.sub_self]
  exact congrArg Sum.inl (Qo w ds x)
 | j,w,w'::ws,.inr y=>by
  have h1:=Qp ds (j+1) w' ws y
  have h2:=Qq ds (j+1) w' ws y
  show vI ((oa ds (j+1) w' ws y).1-j) w (w'::ws) (oa ds (j+1) w' ws y).2= .inr y
  obtain ⟨d,hd⟩: ∃d,(oa ds (j+1) w' ws y).1=j+1+d:=⟨(oa ds (j+1) w' ws y).1-(j+1),by omega⟩
  rw[hd] at h2⊢
  rw[show j+1+d-(j+1)=d by omega] at h2
  rw[show j+1+d-j=d+1 by omega]
  exact congrArg Sum.inr h2
theorem ZM (ds:List V): ∀(ws:List fB) (r:qh ws),Qn (vH ds ws r).1 ws (vH ds ws r).2=some r
 | [],r=>Empty.elim r
 | w::ws,r=>congrArg some (Qq ds 0 w ws r)
section
variable {P:Program} {A:cF} {C:ag} {L:ch} {f n m:Nat}
theorem ZN {c:Code} {S:Shape × List (Out × Shape)} (hS:A.gh f (keyOf c+1)=some S) (hL:gS P A C L f n m c) {I X R:Type} (enc:I→X→List V) (lU:I→R→Nat × List V)
  (pd:List V→I) (qi:List V→X) (DK:Nat × List V→Option R) (body:I→X→(β:Type)→(X→Option β)→(R→Option β)→Option β)
  (tu: ∀ds,bn S.1 (enc (pd ds) (qi ds))=bn S.1 ds) (ID: ∀i x,qi (enc i x)=x) (ZO: ∀i r,DK (lU i r)=some r)
  (e1: ∀i x (β:Type) (k:(List V ⊕ (Nat × List V))→Option β),gR P A C L f n m c (bn S.1 (enc i x)) (fun o st=>(j7 m S.1 S.2 (some (o,st))).bind k)=
   body i x β (fun y=>k (.inl (enc i y))) (fun r=>k (.inr (lU i r))))
  (hl: ∀(β:Type) ds (k:Nat→List V→Option β),L β (keyOf c+1) ds k=(Loop (fun x=>body (pd ds) x (X ⊕ R) (fun y=>some (.inl y)) (fun r=>some (.inr r))) (qi ds)).bind fun r=>k (lU (pd ds) r).1 (lU (pd ds) r).2):
  cf P A C L f n m (.loop c):=by
 simp only[cf,hS]
 intro β ds k
 rw[hl]
 have hex: ∀(z:Option (Out × St)),j7 m S.1 S.2 z=z.bind fun r=>j7 m S.1 S.2 (some (r.1,r.2)):=by
  intro z;cases z<;>rfl
 have hs: ∀i x,stepG P A C f n m S c (enc i x)=(body i x (X ⊕ R) (fun y=>some (.inl y)) (fun r=>some (.inr r))).map fun| .inl y=> .inl (enc i y)| .inr r=> .inr (lU i r):=by
  intro i x
  have k1:=e1 i x _ (fun z=>some z)
  have k2:=e1 i x (X ⊕ R) (fun| .inl ds=>some (.inl (qi ds))| .inr e=>(DK e).map .inr)
  have k3:=e1 i x (List V ⊕ (Nat × List V)) (fun| .inl ds=>some (.inl (enc i (qi ds)))| .inr e=>(DK e).map fun r=> .inr (lU i r))
  simp only[ID,ZO,Option.map_some] at k2 k3
  unfold stepG
  rw[hex]
  rw[Cj P A C f n m c hL] at k1 k2 k3
  rw[←k2]
  refine Eq.trans ?_ (k1.trans (k3.symm.trans ?_))
  ·congr 1
   funext r
   cases j7 m S.1 S.2 (some (r.1,r.2))<;>rfl
  ·cases exec P A C f n m c (bn S.1 (enc i x)) with
   | none=>rfl
   | some r=>
    simp only[Option.bind_some]
    cases j7 m S.1 S.2 (some (r.1,r.2)) with
    | none=>rfl
    | some z=>
     cases z with
     | inl _=>rfl
     | inr e=>simp only[Option.bind_some];cases DK e<;>rfl
 have h0:stepG P A C f n m S c ds=stepG P A C f n m S c (enc (pd ds) (qi ds)):=by
  unfold stepG
  rw[tu]
 have:Loop (stepG P A C f n m S c) ds=(Loop (fun x=>body (pd ds) x (X ⊕ R) (fun y=>some (.inl y)) (fun r=>some (.inr r))) (qi ds)).map (lU (pd ds)):=by
  rw[BU,h0,←BU]
  exact V5 (enc (pd ds)) (lU (pd ds)) (fun x=>hs _ _) (qi ds)
 rw[this]
 cases Loop (fun x=>body (pd ds) x (X ⊕ R) (fun y=>some (.inl y)) (fun r=>some (.inr r))) (qi ds)<;>rfl
abbrev yL (S:Shape) (mk:List Bool):List LK:=vF false mk S.ks
abbrev tA (S:Shape) (mk:List Bool):List LK:=vF true mk S.ks
def qj (ts:List (List Nat)) (W:List (Out × Shape)):List fB:=
 match ts,W with
 | t::ts,w::W=>(t,w.2.ks)::qj ts W
 | _,_=>[]
abbrev yM (S:Shape) (mk:List Bool) (i:jP (yL S mk)) (x:jP (tA S mk)):List V:=merge mk (km _ i) (km _ x)
abbrev IE (S:Shape) (mk:List Bool) (i:jP (yL S mk)):List V:=merge mk (km _ i) []
abbrev DL (S:Shape) (mk:List Bool) (ds:List V):jP (yL S mk):=n9 _ (vF false mk (S.norm ds))
abbrev DM (S:Shape) (mk:List Bool) (ds:List V):jP (tA S mk):=n9 _ (vF true mk (S.norm ds))
abbrev Qr (X R:Type):Type 1:=(β:Type)→(X→Option β)→(R→Option β)→Option β
abbrev IF (S:Shape × List (Out × Shape)) (mk:List Bool) (ts:List (List Nat)):Type 1:=vE (yL S.1 mk) (vE (tA S.1 mk) (Qr (jP (tA S.1 mk)) (qh (qj ts S.2))))
abbrev IG (S:Shape × List (Out × Shape)) (mk:List Bool) (ts:List (List Nat)) (b:IF S mk ts) (i:jP (yL S.1 mk)) (x:jP (tA S.1 mk)):Qr (jP (tA S.1 mk)) (qh (qj ts S.2)):=tx _ (tx _ b i) x
noncomputable def bq (S:Shape × List (Out × Shape)) (mk:List Bool) (ts:List (List Nat)) (b:IF S mk ts) {β:Type} (ds:List V) (k:Nat→List V→Option β):Option β:=
 (Loop (fun x=>IG S mk ts b (DL S.1 mk ds) x (jP (tA S.1 mk) ⊕ qh (qj ts S.2)) (fun y=>some (.inl y)) (fun r=>some (.inr r))) (DM S.1 mk ds)).bind (wT (IE S.1 mk (DL S.1 mk ds)) k (qj ts S.2))
theorem bu {c:Code} (S:Shape × List (Out × Shape)) (mk:List Bool) (ts:List (List Nat)) (b:IF S mk ts) (hS:A.gh f (keyOf c+1)=some S) (hL:gS P A C L f n m c)
  (tu: ∀ds,bn S.1 (yM S.1 mk (DL S.1 mk ds) (DM S.1 mk ds))=bn S.1 ds) (ID: ∀i x,DM S.1 mk (yM S.1 mk i x)=x)
  (e1: ∀i x (β:Type) (k:(List V ⊕ (Nat × List V))→Option β),gR P A C L f n m c (bn S.1 (yM S.1 mk i x)) (fun o st=>(j7 m S.1 S.2 (some (o,st))).bind k)=
   IG S mk ts b i x β (fun y=>k (.inl (yM S.1 mk i y))) (wT (IE S.1 mk i) (fun j l=>k (.inr (j,l))) (qj ts S.2)))
  (hl: ∀(β:Type) ds (k:Nat→List V→Option β),L β (keyOf c+1) ds k=bq S mk ts b ds k):
  cf P A C L f n m (.loop c):=
 ZN hS hL (yM S.1 mk) (fun i r=>vH (IE S.1 mk i) _ r) (DL S.1 mk) (DM S.1 mk) (fun e=>Qn e.1 _ e.2) (IG S mk ts b) tu ID (fun i r=>ZM _ _ r)
  (fun i x β k=>by
   rw[e1]
   congr 1
   funext r
   exact DJ _ _ _ r)
  (fun β ds k=>by
   rw[hl]
   unfold bq
   congr 1
   funext r
   exact DJ _ _ _ r)
abbrev Qs (S:Shape × List (Out × Shape)) (ts:List (List Nat)):Type 1:=vE S.1.ks ((β:Type)→(qh (qj ts S.2)→Option β)→Option β)
noncomputable def ko (S:Shape × List (Out × Shape)) (ts:List (List Nat)) (b:Qs S ts) {β:Type} (ds:List V) (k:Nat→List V→Option β):Option β:=
 tx S.1.ks b (n9 _ (S.1.norm ds)) β (wT (km S.1.ks (n9 _ (S.1.norm ds))) k (qj ts S.2))
theorem kV {t:Nat} {x y:Code} (S:Shape × List (Out × Shape)) (ts:List (List Nat)) (b:Qs S ts) (hS:A.gh f (t*16+15)=some S) (hx:gS P A C L f n m x) (hy:gS P A C L f n m y)
  (tu: ∀ds,bn S.1 (km S.1.ks (n9 _ (S.1.norm ds)))=bn S.1 ds)
  (e1: ∀i (β:Type) (k:Nat→List V→Option β),Ix P A C L f n m t S x y (km S.1.ks i) k=tx S.1.ks b i β (wT (km S.1.ks i) k (qj ts S.2)))
  (hl: ∀(β:Type) ds (k:Nat→List V→Option β),L β (t*16+15) ds k=ko S ts b ds k):
  cf P A C L f n m (.cond t x y):=
 ZH hS hx hy (km S.1.ks) (fun i r=>vH (km S.1.ks i) _ r) (fun ds=>n9 _ (S.1.norm ds)) (tx S.1.ks b) tu
  (fun i β k=>by
   rw[e1]
   exact congrArg (tx S.1.ks b i β) (funext fun r=>DJ _ _ _ r))
  (fun β ds k=>by
   rw[hl]
   exact congrArg (tx S.1.ks b (n9 _ (S.1.norm ds)) β) (funext fun r=>DJ _ _ _ r))
end
def cT:ch:=fun _ _ _ _=>none
end Go.AM
