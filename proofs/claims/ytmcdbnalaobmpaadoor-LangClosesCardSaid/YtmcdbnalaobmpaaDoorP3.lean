/-
  Functions of the program, lifted to plain data.
-/
import Derived.Conc.MuLone
import Derived.Defers
import Derived.Carry
import Derived.OpenShut
import Derived.Deep.Slices
import Derived.Test.YtmcdbnalaobmpaaDoorP2
set_option linter.unusedVariables false
set_option linter.unusedSimpArgs false
namespace Go.AM
section
variable {P:Program} {A:cJ} {w w':World} {I I' I2:Nat→Prop} {μ β au ch:Nat→Option Nat} {hp hp' hp0 bB:Nat→Option ak} {C:ae} {B:Nat} {M:Nat→Prop} {w0:Start}
structure lp (w:World) (I:Nat→Prop) (β:Nat→Option Nat) (hp:Nat→Option ak) (w':World) (I':Nat→Prop) (au:Nat→Option Nat) (hp':Nat→Option ak):Prop where
 dw: ∀b,I b→I' b
 cu: ∀b,I b→w'.heap[b]? =w.heap[b]?
 blk: ∀id blk,hp id=some blk→∃blk',hp' id=some blk'∧blk.le blk'∧(blk'≠ .dead→au id=β id)
 size: ∀id blk blk' b,hp id=some blk→hp' id=some blk'→blk'≠ .dead→β id=some b→bsize w' b=bsize w b
theorem Le.Gm (h:Le P w I β hp w' I' au hp'):lp w I β hp w' I' au hp':=⟨h.dw,h.cu,h.blk,h.size⟩
theorem lp.trans {Aw:World} {Ax:Nat→Prop} {Ay:Nat→Option Nat} {Az:Nat→Option ak} (h1:lp w I β hp w' I' au hp') (h2:lp w' I' au hp' Aw Ax Ay Az):lp w I β hp Aw Ax Ay Az:=by
 refine ⟨fun b h=>h2.dw b (h1.dw b h),fun b h=>(h2.cu b (h1.dw b h)).trans (h1.cu b h),fun id blk h=> ?_,fun id blk uW b h tu hd hb=> ?_⟩
 ·obtain ⟨blk',e',l',b'⟩:=h1.blk id blk h
  obtain ⟨uW,dW,AA,J1⟩:=h2.blk id blk' e'
  refine ⟨uW,dW,ak.le_trans l' AA,fun hd=> ?_⟩
  have eZ:blk'≠ .dead:=fun e=>hd (ak.pX (e▸AA))
  exact (J1 hd).trans (b' eZ)
 ·obtain ⟨blk',e',l',b'⟩:=h1.blk id blk h
  obtain ⟨hO,e3,l3,b3⟩:=h2.blk id blk' e'
  obtain rfl:hO=uW:=by rw[e3] at tu;exact cX tu
  have eZ:blk'≠ .dead:=fun e=>hd (ak.pX (e▸l3))
  rw[h2.size id blk' hO b e' e3 hd ((b' eZ).trans hb),h1.size id blk blk' b h e' eZ hb]
def o8 (P:Program) (w:World) (μ:Nat→Option Nat) (hp0:Nat→Option ak) (b:Nat):Prop:= ∃j blk,hp0 j=some blk∧bG P w (μ j) blk b
structure ab7 (P:Program) (A:cJ) (key:Nat) (w:World) (I:Nat→Prop) (μ:Nat→Option Nat) (ds es:List V) (w':World) (v:Value) (I2:Nat→Prop) (ch:Nat→Option Nat):Prop where
 xL:aP P w' I2 ch (bu (A.so key es) (A.lv key es)).hp w.heap.size (o8 P w μ (bu (A.sin key) ds).hp) ⟨w,I⟩
 le:lp w I μ (bu (A.sin key) ds).hp w' I2 ch (bu (A.so key es) (A.lv key es)).hp
 res:an P w' I2 ch (bu (A.so key es) (A.lv key es)).hp v (pV (fE (A.so key es).bQ (A.lv key es)))
def lq (P:Program) (A:cJ) (C:ae):Prop:=
 ∀key ds es,C key ds=some es→∃fn c,P.funcs[A.bd key]? =some fn∧fn.body=some c∧
  ∀(w:World) (I:Nat→Prop) (μ:Nat→Option Nat) (vals:List Value),
   uU P w I μ (bu (A.sin key) ds).hp w.heap.size (o8 P w μ (bu (A.sin key) ds).hp)→hY P A.aM w I→
   vals.length=(A.sin key).bQ.length→(∀(j:Nat) v x,vals[j]? =some v→(fR ((A.sin key).bQ.map (·.2)) ds)[j]? =some x→an P w I μ (bu (A.sin key) ds).hp v x)→
   Calls P (A.bd key) vals.toArray w fun e w'=> ∃v I2 ch,e= .returned v∧ab7 P A key w I μ ds es w' v I2 ch
theorem en.vr {p:Place} {o:Option Nat} {blk:ak} {b:Nat} (h:en P w β hp p o blk) (ho:bG P w o blk b):
  ∃rI,hp p.id=some rI∧bG P w (β p.id) rI b∧∀e es,rI≠ .arr e es true:=by
 cases h with
 | var h=>exact ⟨_,h,.root (by simp) (ho.flat (by simp)),by simp⟩
 | arr h=>exact ⟨_,h,.root (by simp) (ho.flat (by simp)),by simp⟩
 | map h=>exact ⟨_,h,.root (by simp) (ho.flat (by simp)),by simp⟩
 | nest h=>
  refine ⟨_,h,?_,by simp⟩
  cases ho with
  | root _ hb=>exact .root (by simp) hb
  | row hb ha=>exact .row hb ha
 | row h hb ha _ _ _ _ _=>
  have:=ho.flat (by simp)
  cases this
  exact ⟨_,h,.row hb ha,by simp⟩
theorem aP.ab8 (S:aP P w I β hp B M w0) {id b:Nat} {blk:ak} (aa:hp id=some blk) (ho:bG P w (β id) blk b) (hf: ∀e es,blk≠ .arr e es true): ¬I b:=by
 have hr:=S.h.rel id blk aa
 generalize β id=o at hr ho
 cases hr with
 | var hb _ _ hI _ _=>have:=ho.flat (by simp);rw[hb] at this;cases this;exact hI
 | dZ hb=>have:=ho.flat (by simp);rw[hb] at this;cases this
 | @arr e es fz _ _ _ hb _ _ _ eB _=>
  have:=ho.flat (by simp)
  rw[hb] at this;cases this
  cases fz with
  | true=>exact absurd rfl (hf e es)
  | false=>exact eB rfl
 | dead=>exact absurd rfl ho.alive
 | map _ hb _ _ hI _ _=>have:=ho.flat (by simp);rw[hb] at this;cases this;exact hI
 | nest hb hr _=>
  cases ho with
  | root _ aH=>rw[hb] at aH;cases aH;exact (hr _ _ _ _ .here).nI
  | row aH ha=>rw[hb] at aH;cases aH;exact (hr _ _ _ _ ha).nI
theorem Gn {a b:List Nat} (h:w6 a b=false) {x:Nat} (ha:x∈a):x∉b:=by
 intro hb
 unfold w6 at h
 rw[List.any_eq_false] at h
 exact h x ha (xu hb)
theorem ab9 (S:aP P w I β hp B M w0) {pl:List Place} {upd:List (Nat × ak)} {o:Nat→Option Nat} (kP:(pl.map Place.id).Nodup) (vu:w6 (upd.map (·.1)) (pl.map Place.id)=false)
  (hl: ∀j blk,hp0 j=some blk→∃p,ey pl j=some p∧en P w β hp p (o j) blk)
  (cK:(∀j blk,hp0 j=some blk→∀b,bG P w (o j) blk b→¬jb P w I β hp upd b)→∀j blk,hp0 j=some blk→ej P w (jb P w I β hp upd) o hp0 (o j) blk) (aY: ∀b,jb P w I β hp upd b→b<w.heap.size):
  uU P w (jb P w I β hp upd) o hp0 w.heap.size (o8 P w o hp0):=by
 have cO: ∀j blk,hp0 j=some blk→∀b,bG P w (o j) blk b→¬jb P w I β hp upd b:=by
  intro j blk hj b ho hI
  obtain ⟨p,bB,hZ⟩:=hl j blk hj
  obtain ⟨rI,k1,k2,k3⟩:=hZ.vr ho
  rcases hI with hI|⟨q,hq,cg,q1,q2⟩
  ·exact S.ab8 k1 k2 k3 hI
  ·have:=S.h.inj _ _ _ _ b q1 k1 q2 k2
   refine Gn vu (fg.2 ⟨q,hq,rfl⟩) ?_
   rw[this]
   rw[lX] at bB
   exact fg.2 ⟨p,jv bB,rfl⟩
 refine ⟨cK cO,fun j1 j2 b1 b2 b h1 h2 o1 o2=> ?_,fun j blk b h1 o1=> .inl ⟨j,blk,h1,o1⟩,aY⟩
 obtain ⟨p1,q1,q2⟩:=hl j1 b1 h1
 obtain ⟨p2,r1,r2⟩:=hl j2 b2 h2
 obtain ⟨c1,x1,x2,_⟩:=q2.vr o1
 obtain ⟨c2,y1,y2,_⟩:=r2.vr o2
 have aa:=S.h.inj _ _ _ _ b x1 y1 x2 y2
 rw[lX] at q1 r1
 have m1:(pl.map Place.id)[j1]? =some p1.id:=by rw[eM,q1];rfl
 have m2:(pl.map Place.id)[j2]? =some p2.id:=by rw[eM,r1];rfl
 rw[←aa] at m2
 obtain ⟨z1,z2⟩:=bA.1 m1
 obtain ⟨z3,z4⟩:=bA.1 m2
 exact (List.getElem_inj kP).1 (z2.trans z4.symm)
def RT:V→Prop
 | .list .. =>False
 | .pref .. =>False
 | .agg _=>False
 | .bm _=>False
 | .fn .. =>False
 | _=>True
theorem an.free {v:Value} {x:V} (h:an P w I β hp v x) (hx:RT x):an P w I' β hp v x:=by
 cases h with
 | undef=>exact .undef
 | int=>exact .int
 | bool=>exact .bool
 | str h=>exact .str h
 | list h=>exact hx.elim
 | nilS=>exact .nilS
 | agg=>exact hx.elim
 | bm=>exact hx.elim
 | dF=>exact .dF
 | fn=>exact hx.elim
 | pref=>exact hx.elim
 | ez h=>exact .ez h
 | gH h=>exact .gH h
 | kI h=>exact .kI h
 | dY h hb=>exact .dY h hb
 | whole h hb a b c=>exact .whole h hb a b c
 | eH h hb a b c=>exact .eH h hb a b c
 | gp h hb=>exact .gp h hb
 | sub h hb a b c=>exact .sub h hb a b c
 | ptr h hd hb=>exact .ptr h hd hb
 | jT h rD=>exact .jT h rD
 | jU h rD=>exact .jU h rD
 | row h hb a b c d=>exact .row h hb a b c d
 | cI h hb a b c d e=>exact .cI h hb a b c d e
 | dG=>exact .dG
 | iE h=>exact .iE h
 | cd h hb=>exact .cd h hb
theorem Bg {l:LS} {ds:List V} (hs:l.safe=true):RT (iW l ds):=by
 cases l<;>simp only[LS.safe] at hs<;>first|(cases hs;done)|trivial
theorem Bh: ∀{ls:List LS} {ds:List V} {j:Nat} {y:V},(iw ls ds)[j]? =some y→∃l fH,l∈ls∧y=iW l fH
 | [],ds,j,y,h=>by simp[iw] at h
 | l::ls,ds,j,y,h=>by
  simp only[iw] at h
  cases j with
  | zero=>simp at h;exact ⟨l,ds,s7 ..,h.symm⟩
  | succ j=>
   obtain ⟨l',fH,h1,h2⟩:=Bh (j:=j) (by simpa using h)
   exact ⟨l',fH,mD _ h1,h2⟩
theorem RU: ∀{ls:List VS} {ds:List V} {j:Nat} {y:V},(fR ls ds)[j]? =some y→∃l fH,l∈ls∧y=ld l fH
 | [],ds,j,y,h=>by simp[fR] at h
 | l::ls,ds,j,y,h=>by
  simp only[fR] at h
  cases j with
  | zero=>simp at h;exact ⟨l,ds,s7 ..,h.symm⟩
  | succ j=>
   obtain ⟨l',fH,h1,h2⟩:=RU (j:=j) (by simpa using h)
   exact ⟨l',fH,mD _ h1,h2⟩
theorem RV {s:VS} {ds:List V} {v:Value} (h:an P w I β hp v (ld s ds)) (hs:s.safe=true):an P w I' β hp v (ld s ds):=by
 cases s with
 | one l=>exact h.free (Bg hs)
 | agg ls=>
  simp only[ld] at h⊢
  obtain ⟨cs,rfl,e1,e2⟩:=h.lj
  refine .agg e1 fun j v x hj hx=> ?_
  obtain ⟨l,fH,k1,rfl⟩:=Bh hx
  exact (e2 j v _ hj hx).free (Bg (fO.1 hs l k1))
 | bm ls=>
  simp only[ld] at h⊢
  obtain ⟨cs,rfl,e1,e2⟩:=h.u7
  refine .bm e1 fun j v x hj hx=> ?_
  obtain ⟨l,fH,k1,rfl⟩:=Bh hx
  exact (e2 j v _ hj hx).free (Bg (fO.1 hs l k1))
 | fn f a b=>
  simp only[VS.safe,aS] at hs
  simp only[ld] at h⊢
  cases h with
  | fn a1 a2 b1 b2=>
   refine .fn a1 (fun j v x hj hx=> ?_) b1 (fun j v x hj hx=> ?_)
   ·obtain ⟨l,fH,k1,rfl⟩:=Bh hx
    exact (a2 j v _ hj hx).free (Bg (fO.1 hs.1 l k1))
   ·obtain ⟨l,fH,k1,rfl⟩:=Bh hx
    exact (b2 j v _ hj hx).free (Bg (fO.1 hs.2 l k1))
 | pref ts ls=>cases hs
theorem Pure.scalar {t:TypeId} {v:Value} {x:V} (h:Pure P w I t v x) (hn: ∀e,P.underlying t≠some (.slice e)):Pure P w I' t v x:=by
 cases h with
 | int h=>exact .int h
 | bool h=>exact .bool h
 | str h hl=>exact .str h hl
 | nil h=>exact absurd h (hn _)
 | emp h=>exact absurd h (hn _)
 | list g h=>exact absurd h (hn _)
theorem aca {e t:TypeId} {j:Nat} (h:Ag P e=true) (ht:(a9 P e)[j]? =some t) (e':TypeId):P.underlying t≠some (.slice e'):=by
 intro hu
 have h2:=fO.1 h t (jv ht)
 rw[hu] at h2
 cases h2
theorem acb {o:Option Nat} {b:BS} {ds:List V} (h:ej P w I2 β hp o (gk b ds)) (hs:b.safe P=true) (hi: ∀b,I b→I2 b):ej P w I β hp o (gk b ds):=by
 cases b with
 | dead=>exact .dead
 | var T0 ls=>
  simp only[gk] at h⊢
  cases h with
  | var hb hh ba hI hx gJ=>
   refine .var hb hh ba (fun h=>hI (hi _ h)) (fun j v x hj cD=> ?_) gJ
   obtain ⟨l,fH,k1,rfl⟩:=RU cD
   exact RV (hx j v _ hj cD) (fO.1 hs l k1)
 | arr e fz=>
  simp only[BS.safe,aS,nB] at hs
  obtain ⟨rfl,Bf⟩:=hs
  simp only[gk] at h⊢
  generalize (V.nth ds 0).toList=es at h⊢
  cases h with
  | dZ hb=>exact .dZ hb
  | arr a1 a2 a3 a4 a5 a6 a7=>
   refine .arr a1 a2 a3 a4 (fun h=>by cases h) (fun _ h=>a6 rfl (hi _ h)) fun i j x t' y1 y2 y3=> ?_
   obtain ⟨v,z1,z2⟩:=a7 i j x t' y1 y2 y3
   exact ⟨v,z1,z2.scalar (aca Bf y2)⟩
 | nest e=>
  simp only[gk] at h⊢
  generalize (V.nth ds 0).toList=es at h⊢
  cases h with
  | nest hb cA oY=>
   refine .nest hb (fun q b' e1 m1 hq=> ?_) oY
   obtain ⟨ok,⟨Ca,c1,c2,c3⟩,nI⟩:=cA q b' e1 m1 hq
   refine ⟨ok,⟨Ca,c1,c2,fun i j x t' y1 y2 y3=> ?_⟩,fun h=>nI (hi _ h)⟩
   obtain ⟨v,z1,z2⟩:=c3 i j x t' y1 y2 y3
   refine ⟨v,z1,?_⟩
   generalize bS P e1 x j=y at z2⊢
   cases z2 with
   | gn a p=>
    refine .gn a (p.scalar fun e hu=> ?_)
    unfold gj at a
    rw[hu] at a
    cases a
   | emp a b=>exact .emp a b
   | row a b c d e=>exact .row a b c d e
 | map t=>
  simp only[gk] at h⊢
  cases h with
  | map a1 a2 a3 a4 a5 a6 a7=>exact .map a1 a2 a3 a4 (fun h=>a5 (hi _ h)) a6 a7
theorem K6: ∀{l:List BS} {ds:List V} {j:Nat} {y:ak},(eX l ds)[j]? =some y→∃b fH,l[j]? =some b∧y=gk b fH
 | [],ds,j,y,h=>by simp[eX] at h
 | b::l,ds,j,y,h=>by
  simp only[eX] at h
  cases j with
  | zero=>simp at h;exact ⟨b,ds,rfl,h.symm⟩
  | succ j=>
   obtain ⟨b',fH,h1,h2⟩:=K6 (j:=j) (by simpa using h)
   exact ⟨b',fH,by simpa using h1,h2⟩
theorem RW: ∀{l:List (Nat × VS)} {ds:List V} {q:Nat × V},q∈fE l ds→∃s fH,(q.1,s)∈l∧q.2=ld s fH
 | [],ds,q,h=>by simp[fE] at h
 | (k,s)::l,ds,q,h=>by
  simp only[fE,gh] at h
  rcases h with h|h
  ·subst h;exact ⟨s,ds,s7 ..,rfl⟩
  ·obtain ⟨s',fH,h1,h2⟩:=RW h
   exact ⟨s',fH,mD _ h1,h2⟩
theorem acd {S:Shape} {es:List V} (hs:S.safe P=true) (hi: ∀b,I b→I2 b) {N:Nat→Prop} {st:Start} (h:aP P w' I2 ch (bu S es).hp B N st) (h0: ∀b,I b→st.I b):
  aP P w' I ch (bu S es).hp B N st∧∀v,an P w' I2 ch (bu S es).hp v (pV (fE S.bQ es))→an P w' I ch (bu S es).hp v (pV (fE S.bQ es)):=by
 unfold Shape.safe at hs
 simp only[aS] at hs
 obtain ⟨jW,n8⟩:=hs
 have one: ∀q∈fE S.bQ es,∀v,an P w' I2 ch (bu S es).hp v q.2→an P w' I ch (bu S es).hp v q.2:=by
  intro q hq v hv
  obtain ⟨s,fH,k1,k2⟩:=RW hq
  rw[k2] at hv⊢
  exact RV hv (fO.1 jW _ k1)
 refine ⟨⟨⟨fun j blk hj=> ?_,h.h.inj,h.h.own,fun b hb=>h.h.jV b (hi b hb)⟩,h.cu,h.size,fun b hb=> .inl (h0 b hb),h.io⟩,fun v hv=> ?_⟩
 ·have hr:=h.h.rel j blk hj
  have gR:=hj
  simp only[bu,mk,ij] at gR
  obtain ⟨b,fH,k1,rfl⟩:=K6 gR
  exact acb hr (fO.1 n8 _ (jv k1)) hi
 ·generalize fE S.bQ es=l at one hv⊢
  match l,one,hv with
  | [],_,hv=>
   simp only[pV,List.map_nil] at hv⊢
   obtain ⟨cs,rfl,e1,e2⟩:=hv.u7
   exact .bm e1 fun j v x _ hx=>by simp at hx
  | [q],one,hv=>exact one q (gY.2 rfl) v hv
  | q::q2::l,one,hv=>
   simp only[pV] at hv⊢
   obtain ⟨cs,rfl,e1,e2⟩:=hv.u7
   refine .bm e1 fun j v x hj hx=> ?_
   obtain ⟨y,hy,rfl⟩:=fg.1 (jv hx)
   exact one y hy v (e2 j v _ hj hx)
end
section
variable {P:Program} {A:cJ} {w w':World} {I I' I2:Nat→Prop} {μ β au ch:Nat→Option Nat} {hp hp' hp0 bB:Nat→Option ak} {C:ae} {B:Nat} {M:Nat→Prop} {w0:Start}
inductive gM (σ:List Place):ak→ak→Prop
 | dead:gM σ .dead .dead
 | var {T:TypeId} {cs:List V}:gM σ (.var T cs) (.var T (cs.map (Fl σ)))
 | arr {e:TypeId} {es:List V} {fz:Bool}:gM σ (.arr e es fz) (.arr e es fz)
 | nest {e:TypeId} {es:List V} {v1 v2:List Nat}:gM σ (.nest e es v1) (.nest e es v2)
 | map {t:TypeId} {es:List V}:gM σ (.map t es) (.map t es)
theorem gM.of (σ:List Place) (b:ak):gM σ b (uL σ b):=by
 cases b with
 | dead=>exact .dead
 | var T cs=>exact .var
 | arr e es fz=>exact .arr
 | nest e es v=>exact .nest
 | map t es=>exact .map
theorem RX {σ:List Place}: ∀{pl:List Place} {bs:List ak} {acc:List (Nat × ak)} {k:List (Nat × ak)→Rd R} {r:R} {rd:List Nat},(qZ σ pl bs acc k).run C hp=some (r,rd)→
  pl.length≤bs.length∧∃bk fk,(k bk).run C hp=some (r,fk)∧(∀q∈bk,q∈acc∨∃(j:Nat) (b:ak),pl[j]? =some (.blk q.1)∧bs[j]? =some b∧gM σ b q.2∧((∃e es v2,q.2= .nest e es v2)→∃e es aq e' aT,hp q.1=some (.nest e es aq)∧q.2= .nest e' aT (aq.map (· +1))))∧
   (∀q∈acc,q∈bk)∧∀(j:Nat) p,pl[j]? =some p→∃id b,p= .blk id∧(id,b)∈bk
 | [],bs,acc,k,r,rd,h=>⟨ju _,acc,rd,by simpa only[qZ] using h,fun q hq=> .inl hq,fun q hq=>hq,fun j p hp=>by simp at hp⟩
 | .row _ _ _::pl,bs,acc,k,r,rd,h=>by
  cases bs<;>(simp only[qZ] at h;cases h)
 | .blk id::pl,[],acc,k,r,rd,h=>by simp only[qZ] at h;cases h
 | .blk id::pl,b::bs,acc,k,r,rd,h=>by
  have fin: ∀{b2:ak} {jH:List Nat},(qZ σ pl bs ((id,b2)::acc) k).run C hp=some (r,jH)→gM σ b b2→((∃e es v2,b2= .nest e es v2)→∃e es aq e' aT,hp id=some (.nest e es aq)∧b2= .nest e' aT (aq.map (· +1)))→
    (Place.blk id::pl).length≤(b::bs).length∧∃bk fk,(k bk).run C hp=some (r,fk)∧(∀q∈bk,q∈acc∨∃(j:Nat) (b':ak),(Place.blk id::pl)[j]? =some (.blk q.1)∧(b::bs)[j]? =some b'∧gM σ b' q.2∧((∃e es v2,q.2= .nest e es v2)→∃e es aq e' aT,hp q.1=some (.nest e es aq)∧q.2= .nest e' aT (aq.map (· +1))))∧
     (∀q∈acc,q∈bk)∧∀(j:Nat) p,(Place.blk id::pl)[j]? =some p→∃id b,p= .blk id∧(id,b)∈bk:=by
   intro b2 jH h1 hb hn
   obtain ⟨a0,bk,fk,a1,a2,a3,a4⟩:=RX h1
   refine ⟨by simp only[List.length_cons];omega,bk,fk,a1,fun q hq=> ?_,fun q hq=>a3 q (mD _ hq),fun j p hj=> ?_⟩
   ·rcases a2 q hq with h|⟨j,b',k1,k2,k3,k4⟩
    ·rcases gh.1 h with e|h
     ·subst e;exact .inr ⟨0,b,rfl,rfl,hb,hn⟩
     ·exact .inl h
    ·exact .inr ⟨j+1,b',by simpa using k1,by simpa using k2,k3,k4⟩
   ·cases j with
    | zero=>simp at hj;subst hj;exact ⟨id,b2,rfl,a3 _ (s7 ..)⟩
    | succ j=>exact a4 j p (by simpa using hj)
  cases b with
  | nest e es v=>
   simp only[qZ] at h
   obtain ⟨l,h⟩:=run_get h
   cases aa:hp id with
   | none=>rw[aa] at h;cases h
   | some blk=>
    rw[aa] at h
    cases blk with
    | nest e0 J2 aq=>exact fin h .nest fun _=>⟨e0,J2,aq,e,es,aa,rfl⟩
    | _=>cases h
  | dead=>exact fin h (.of σ _) fun ⟨_,_,_,h⟩=>by cases h
  | var T cs=>exact fin h (.of σ _) fun ⟨_,_,_,h⟩=>by cases h
  | arr e es fz=>exact fin h (.of σ _) fun ⟨_,_,_,h⟩=>by cases h
  | map t es=>exact fin h (.of σ _) fun ⟨_,_,_,h⟩=>by cases h
theorem RY {σ:List Place}: ∀{bs:List ak} {n:Nat} {q:Nat × ak},q∈q0 σ n bs→∃i b,bs[i]? =some b∧q=(n+i,uL σ b)
 | [],n,q,h=>by simp[q0] at h
 | b::bs,n,q,h=>by
  simp only[q0,gh] at h
  rcases h with h|h
  ·exact ⟨0,b,rfl,h⟩
  ·obtain ⟨i,b',h1,h2⟩:=RY h
   exact ⟨i+1,b',by simpa using h1,by rw[h2];congr 1;omega⟩
theorem RZ {σ:List Place}: ∀{bs:List ak} {n i:Nat} {b:ak},bs[i]? =some b→(n+i,uL σ b)∈q0 σ n bs
 | [],n,i,b,h=>by simp at h
 | b0::bs,n,i,b,h=>by
  simp only[q0,gh]
  cases i with
  | zero=>simp at h;subst h;exact .inl rfl
  | succ i=>exact .inr (by rw[show n+(i+1)=n+1+i by omega];exact RZ (by simpa using h))
theorem Gp: ∀{k n i:Nat},i<k→(tq n k)[i]? =some (.blk (n+i))
 | 0,n,i,h=>by omega
 | k+1,n,0,h=>rfl
 | k+1,n,i+1,h=>by
  simp only[tq,List.getElem?_cons_succ]
  rw[Gp (by omega)]
  congr 2
  omega
theorem K7: ∀{k n:Nat},(tq n k).length=k
 | 0,_=>rfl
 | k+1,n=>by simp[tq,K7]
theorem R0: ∀{bs:List (Nat × ak)} {k:Rd R} {r:R} {rd:List Nat},(Fm bs k).run C hp=some (r,rd)→(∀q∈bs,hp q.1=none)∧∃fk,k.run C hp=some (r,fk)
 | [],k,r,rd,h=>⟨by simp,rd,h⟩
 | (id,b)::l,k,r,rd,h=>by
  simp only[Fm] at h
  obtain ⟨l1,h⟩:=run_get h
  cases aa:hp id with
  | some blk=>rw[aa] at h;cases h
  | none=>
   rw[aa] at h
   obtain ⟨h1,h2⟩:=R0 h
   refine ⟨fun q hq=> ?_,h2⟩
   rcases gh.1 hq with e|hq
   ·subst e;exact aa
   ·exact h1 q hq
structure qf (σ:List Place) (ch:Nat→Option Nat) (bB:Nat→Option ak) (au:Nat→Option Nat) (hp':Nat→Option ak):Prop where
 blk: ∀j b,bB j=some b→∃id b',ey σ j=some (.blk id)∧hp' id=some b'∧gM σ b b'∧(b≠ .dead→au id=ch j)
 none: ∀j,bB j=none→ey σ j=none
 ap4: ∀j id ver path,ey σ j≠some (.row id ver path)
theorem qf.leaf {σ:List Place} (T:qf σ ch bB au hp') {v:Value} {x:V} (h:an P w I ch bB v x):an P w I au hp' v (kF σ x):=by
 have look: ∀{j b},bB j=some b→∃id b',ey σ j=some (.blk id)∧hp' id=some b'∧gM σ b b'∧(b≠ .dead→au id=ch j):=fun h=>T.blk _ _ h
 cases h with
 | undef=>exact .undef
 | int=>exact .int
 | bool=>exact .bool
 | str h=>exact .str h
 | list h=>exact .list h
 | nilS=>exact .nilS
 | agg=>exact .undef
 | bm=>exact .undef
 | dF=>exact .dF
 | fn=>exact .undef
 | pref a b c=>exact .pref a b c
 | @ez _ e j h=>
  obtain ⟨id,b',k1,k2,k3,k4⟩:=look h
  simp only[kF,k1]
  cases k3
  exact .ez k2
 | @gH _ e j _ _ h=>
  obtain ⟨id,b',k1,k2,k3,k4⟩:=look h
  simp only[kF,k1]
  cases k3
  exact .gH k2
 | @kI _ j _ _ h=>
  obtain ⟨id,b',k1,k2,k3,k4⟩:=look h
  simp only[kF,k1]
  cases k3
  exact .kI k2
 | @dY e j fz _ h hb=>
  obtain ⟨id,b',k1,k2,k3,k4⟩:=look h
  simp only[kF,k1]
  cases k3
  exact .dY k2 ((k4 (by simp)).trans hb)
 | @whole e j es fz b cap h hb a1 a2 a3=>
  obtain ⟨id,b',k1,k2,k3,k4⟩:=look h
  simp only[kF,k1]
  cases k3
  exact .whole k2 ((k4 (by simp)).trans hb) a1 a2 a3
 | @eH e j es aq b cap h hb a1 a2 a3=>
  obtain ⟨id,b',k1,k2,k3,k4⟩:=look h
  simp only[kF,k1]
  cases k3
  exact .eH k2 ((k4 (by simp)).trans hb) a1 a2 a3
 | @gp e j fz _ h hb=>
  obtain ⟨id,b',k1,k2,k3,k4⟩:=look h
  simp only[kF,k1]
  cases k3
  exact .gp k2 ((k4 (by simp)).trans hb)
 | @sub e j off len es fz b o cap h hb a1 a2 a3=>
  obtain ⟨id,b',k1,k2,k3,k4⟩:=look h
  simp only[kF,k1]
  cases k3
  exact .sub k2 ((k4 (by simp)).trans hb) a1 a2 a3
 | @ptr j i c b blk h hd hb=>
  obtain ⟨id,b',k1,k2,k3,k4⟩:=look h
  simp only[kF,k1]
  have hs:blk.sz P=b'.sz P:=by cases k3<;>rfl
  rw[hs]
  exact .ptr k2 (by intro e;subst e;cases k3;exact hd rfl) ((k4 hd).trans hb)
 | jT=>exact .undef
 | jU=>exact .undef
 | row=>exact .undef
 | cI=>exact .undef
 | dG=>exact .dG
 | @iE _ t j h=>
  obtain ⟨id,b',k1,k2,k3,k4⟩:=look h
  simp only[kF,k1]
  cases k3
  exact .iE k2
 | @cd t j b es h hb=>
  obtain ⟨id,b',k1,k2,k3,k4⟩:=look h
  simp only[kF,k1]
  cases k3
  exact .cd k2 ((k4 (by simp)).trans hb)
theorem qf.one {σ:List Place} (T:qf σ ch bB au hp') {v:Value} {x:V} (h:an P w I ch bB v x):an P w I au hp' v (JQ σ x):=by
 cases x with
 | agg xs=>
  obtain ⟨cs,rfl,e1,e2⟩:=h.lj
  exact .agg (by simpa using e1) fun j v y hj hy=>by
   rw[eM] at hy
   cases hx:xs[j]? with
   | none=>rw[hx] at hy;cases hy
   | some x=>rw[hx] at hy;cases hy;exact T.leaf (e2 j v x hj hx)
 | fn f a b=>
  cases h with
  | fn a1 a2 b1 b2=>
   refine .fn (by simpa using a1) (fun j v y hj hy=> ?_) (by simpa using b1) (fun j v y hj hy=> ?_)
   ·rw[eM] at hy
    cases hx:a[j]? with
    | none=>rw[hx] at hy;cases hy
    | some x=>rw[hx] at hy;cases hy;exact T.leaf (a2 j v x hj hx)
   ·rw[eM] at hy
    cases hx:b[j]? with
    | none=>rw[hx] at hy;cases hy
    | some x=>rw[hx] at hy;cases hy;exact T.leaf (b2 j v x hj hx)
 | _=>exact T.leaf h
theorem qf.val {σ:List Place} (T:qf σ ch bB au hp') {v:Value} {x:V} (h:an P w I ch bB v x):an P w I au hp' v (Fl σ x):=by
 cases x with
 | bm xs=>
  obtain ⟨cs,rfl,e1,e2⟩:=h.u7
  exact .bm (by simpa using e1) fun j v y hj hy=>by
   rw[eM] at hy
   cases hx:xs[j]? with
   | none=>rw[hx] at hy;cases hy
   | some x=>rw[hx] at hy;cases hy;exact T.one (e2 j v x hj hx)
 | _=>exact T.one h
theorem qf.R3 {σ:List Place} (T:qf σ ch bB au hp') {o:Option Nat} {b b':ak} (h:ej P w I ch bB o b) (hb:gM σ b b'):ej P w I au hp' o b':=by
 cases hb with
 | dead=>exact .dead
 | var=>
  cases h with
  | var a1 a2 a3 a4 a5 a6=>
   refine .var a1 a2 (by simpa using a3) a4 (fun j v y hj hy=> ?_) a6
   rw[eM] at hy
   cases hx:(_:List V)[j]? with
   | none=>rw[hx] at hy;cases hy
   | some x=>rw[hx] at hy;cases hy;exact T.val (a5 j v x hj hx)
 | arr=>
  cases h with
  | dZ hb=>exact .dZ hb
  | arr a1 a2 a3 a4 a5 a6 a7=>exact .arr a1 a2 a3 a4 a5 a6 a7
 | nest=>
  cases h with
  | nest a1 a2 a3=>exact .nest a1 a2 a3
 | map=>
  cases h with
  | map a1 a2 a3 a4 a5 a6 a7=>exact .map a1 a2 a3 a4 a5 a6 a7
theorem gM.vr {σ:List Place} {o:Option Nat} {b b':ak} (h:gM σ b b') {m:Nat} (ho:bG P w o b' m):bG P w o b m:=by
 cases h with
 | dead=>exact absurd rfl ho.alive
 | var=>exact .root (by simp) (ho.flat (by simp))
 | arr=>exact .root (by simp) (ho.flat (by simp))
 | map=>exact .root (by simp) (ho.flat (by simp))
 | nest=>
  cases ho with
  | root _ hb=>exact .root (by simp) hb
  | row hb ha=>exact .row hb ha
theorem gM.R4 {σ:List Place} {b b':ak} (h:gM σ b b'):b'≠ .dead→b≠ .dead:=by
 intro h1 h2;subst h2;cases h;exact h1 rfl
end
section
variable {P:Program} {A:cJ} {w w':World} {I I' I2:Nat→Prop} {μ β au ch:Nat→Option Nat} {hp hp' hp0 bB:Nat→Option ak} {C:ae} {B:Nat} {M:Nat→Prop} {w0:Start}
theorem R5: ∀{vs:List Nat} {k:Nat},k<vs.length→bL (vs.map (· +1)) k=bL vs k+1
 | [],k,h=>by simp at h
 | v::vs,0,h=>rfl
 | v::vs,k+1,h=>by simp only[jw,bL];exact R5 (by simpa using h)
theorem R6: ∀{vs:List Nat} {k:Nat},bL vs k≤bL (vs.map (· +1)) k
 | [],k=>by simp[bL]
 | v::vs,0=>by simp[bL]
 | v::vs,k+1=>by simp only[jw,bL];exact R6
def Bi (hp:Nat→Option ak) (q:Nat × ak):Prop:=(∃e es v2,q.2= .nest e es v2)→∃e es aq e' aT,hp q.1=some (.nest e es aq)∧q.2= .nest e' aT (aq.map (· +1))
theorem en.K8 {id:Nat} {o:Option Nat} {blk:ak} (h:en P w β hp (.blk id) o blk):o=β id∧∃b0,hp id=some b0∧b0≠ .dead:=by
 cases h with
 | var h=>exact ⟨rfl,_,h,by simp⟩
 | arr h=>exact ⟨rfl,_,h,by simp⟩
 | nest h=>exact ⟨rfl,_,h,by simp⟩
 | map h=>exact ⟨rfl,_,h,by simp⟩
theorem en.ace {id:Nat} {o:Option Nat} {c b b' b0:ak} {σ:List Place} (h:en P w β hp (.blk id) o c) (h0:hp id=some b0) (hle:c.le b) (hb:gM σ b b') (hn:Bi hp (id,b')):b0.le b':=by
 cases h with
 | var h=>
  rw[h] at h0;cases h0
  cases hb with
  | dead=>trivial
  | var=>trivial
  | arr=>exact hle.elim
  | nest=>exact hle.elim
  | map=>exact hle.elim
 | arr h=>
  rw[h] at h0;cases h0
  cases hb with
  | dead=>trivial
  | var=>exact hle.elim
  | arr=>exact hle
  | nest=>exact hle.elim
  | map=>exact hle.elim
 | map h=>
  rw[h] at h0;cases h0
  cases hb with
  | dead=>trivial
  | map=>exact hle
  | _=>exact hle.elim
 | nest h=>
  rw[h] at h0;cases h0
  cases hb with
  | dead=>trivial
  | var=>exact hle.elim
  | arr=>exact hle
  | map=>exact hle.elim
  | @nest e es v1 v2=>
   obtain ⟨e1,cy,vw,e2,cm,k1,k2⟩:=hn ⟨_,_,_,rfl⟩
   cases k2
   change hp id=_ at k1
   rw[h] at k1;cases k1
   exact ⟨hle.1,hle.2.1,by simp,fun k=>R6⟩
theorem en.other {p:Place} {o:Option Nat} {blk:ak} (h:en P w β hp p o blk) (he:hp' p.id=hp p.id):en P w β hp' p o blk:=by
 cases h with
 | var h=>exact .var (he.trans h)
 | arr h=>exact .arr (he.trans h)
 | nest h=>exact .nest (he.trans h)
 | map h=>exact .map (he.trans h)
 | row h a b c d e f g=>exact .row (he.trans h) a b c d e f g
open Classical in
theorem R7 (S:aP P w I β hp B M w0) {pl:List Place} {o:Nat→Option Nat} {bs:List ak} {nb:Nat} {bk fr:List (Nat × ak)} {σ:List Place} (rJ:σ=pl++tq nb (bs.length-pl.length)) (Bj:fr=q0 σ nb (bs.drop pl.length))
  (kP:(pl.map Place.id).Nodup) (rq:pl.length≤bs.length)
  (Gq: ∀(j:Nat) p,pl[j]? =some p→∃id b,p= .blk id∧(id,b)∈bk) (Gr: ∀q∈bk,∃(j:Nat) (b:ak),pl[j]? =some (.blk q.1)∧bs[j]? =some b∧gM σ b q.2∧Bi hp q)
  (hl: ∀j blk,hp0 j=some blk→∃p,ey pl j=some p∧en P w β hp p (o j) blk) (hd: ∀j,j<pl.length→∃blk,hp0 j=some blk)
  (Sc:aP P w' I2 ch (jS bs) w.heap.size (o8 P w o hp0) ⟨w,I⟩) (xM:lp w I o hp0 w' I2 ch (jS bs)) (tK: ∀q∈fr,hp q.1=none):
  ∃au,Le P w I β hp w' I2 au (bX hp (fr++bk))∧aP P w' I2 au (bX hp (fr++bk)) B M w0∧qf σ ch (jS bs) au (bX hp (fr++bk)):=by
 generalize K9:bX hp (fr++bk)=hZ
 let au:Nat→Option Nat:=fun n=>if∃q∈fr,q.1=n then ch (pl.length+(n-nb)) else β n
 have R8: ∀(j:Nat) id,pl[j]? =some (.blk id)→∃c,hp0 j=some c∧en P w β hp (.blk id) (o j) c:=by
  intro j id hj
  obtain ⟨c,hc⟩:=hd j (bA.1 hj).1
  obtain ⟨p,h1,h2⟩:=hl j c hc
  rw[lX,hj] at h1
  cases h1
  exact ⟨c,hc,h2⟩
 have uniq: ∀(j1 j2:Nat) id,pl[j1]? =some (.blk id)→pl[j2]? =some (.blk id)→j1=j2:=by
  intro j1 j2 id h1 h2
  have m1:(pl.map Place.id)[j1]? =some id:=by rw[eM,h1];rfl
  have m2:(pl.map Place.id)[j2]? =some id:=by rw[eM,h2];rfl
  obtain ⟨z1,z2⟩:=bA.1 m1
  obtain ⟨z3,z4⟩:=bA.1 m2
  exact (List.getElem_inj kP).1 (z2.trans z4.symm)
 have cls: ∀id,(∃i b,id=nb+i∧bs[pl.length+i]? =some b∧hZ id=some (uL σ b)∧hp id=none∧au id=ch (pl.length+i))∨
   (∃(j:Nat) (b b' c b0:ak),pl[j]? =some (.blk id)∧bs[j]? =some b∧hp0 j=some c∧en P w β hp (.blk id) (o j) c∧hp id=some b0∧b0.le b'∧hZ id=some b'∧gM σ b b'∧Bi hp (id,b')∧au id=β id∧c.le b∧(b≠ .dead→ch j=β id))∨
   (hZ id=hp id∧(∀j:Nat,pl[j]? ≠some (.blk id))∧au id=β id):=by
  intro id
  by_cases hm: ∃b,(id,b)∈fr++bk
  ·obtain ⟨b,hm⟩:=hm
   obtain ⟨b',rn,he⟩:=Fx (hp:=hp) hm
   rw[K9] at he
   rcases er.1 rn with h|h
   ·have h0:=tK _ h
    have o9:au id=ch (pl.length+(id-nb)):=af ⟨_,h,rfl⟩
    rw[Bj] at h
    obtain ⟨i,b1,k1,k2⟩:=RY h
    rw[iq] at k1
    cases k2
    exact .inl ⟨i,b1,rfl,k1,he,h0,by rw[o9];congr 2;omega⟩
   ·obtain ⟨j,b1,q1,q2,q3,q4⟩:=Gr _ h
    obtain ⟨c,c1,c2⟩:=R8 j id q1
    obtain ⟨c3,b0,c4,c5⟩:=c2.K8
    obtain ⟨b2,d1,d2,d3⟩:=xM.blk j c c1
    rw[ij,q2] at d1
    cases d1
    refine .inr (.inl ⟨j,b1,b',c,b0,q1,q2,c1,c2,c4,c2.ace c4 d2 q3 q4,he,q3,q4,ah ?_,d2,fun h=>(d3 h).trans c3⟩)
    rintro ⟨q,hq,hqe⟩
    rw[←hqe,tK q hq] at c4
    cases c4
  ·refine .inr (.inr ⟨?_,fun j hj=> ?_,ah ?_⟩)
   ·rcases u3 (hp:=hp) (l:=fr++bk) (id:=id) with h|⟨b,hb,_⟩
    ·rw[K9] at h;exact h
    ·exact absurd ⟨b,hb⟩ hm
   ·obtain ⟨aL,b,e,hb⟩:=Gq j _ hj
    cases e
    exact hm ⟨b,er.2 (.inr hb)⟩
   ·rintro ⟨q,hq,rfl⟩
    exact hm ⟨q.2,er.2 (.inl hq)⟩
 have R9: ∀b,o8 P w o hp0 b→∃(j id:Nat) (b1:ak),pl[j]? =some (.blk id)∧hp id=some b1∧bG P w (β id) b1 b∧∀e es,b1≠ .arr e es true:=by
  rintro b ⟨j,c,hc,ho⟩
  obtain ⟨p,h1,h2⟩:=hl j c hc
  rw[lX] at h1
  obtain ⟨id,b2,rfl,_⟩:=Gq j p h1
  obtain ⟨b1,k1,k2,k3⟩:=h2.vr ho
  exact ⟨j,id,b1,h1,k1,k2,k3⟩
 have other: ∀id blk b,hp id=some blk→bG P w (β id) blk b→(∀j:Nat,pl[j]? ≠some (.blk id))→¬o8 P w o hp0 b∧w'.heap[b]? =w.heap[b]? ∧(I2 b→I b):=by
  intro id blk b e1 e3 e4
  have pb: ¬o8 P w o hp0 b:=by
   intro hx
   obtain ⟨j,aL,b1,i1,i2,i3,_⟩:=R9 b hx
   have:=S.h.inj id aL _ _ b e1 i2 e3 i3
   subst this
   exact e4 j i1
  have aY:=S.h.lt e1 e3
  refine ⟨pb,Sc.cu b aY pb,fun h=> ?_⟩
  rcases Sc.new b h with h|h|h
  ·exact h
  ·exact absurd h pb
  ·omega
 have tE:qf σ ch (jS bs) au hZ:=by
  refine ⟨fun j b hj=> ?_,fun j hj=> ?_,fun j id ver path hj=> ?_⟩
  ·rw[ij] at hj
   by_cases c6:j<pl.length
   ·obtain ⟨id,b1,e,jZ⟩:=Gq j _ (bI c6)
    have Gs:pl[j]? =some (.blk id):=by rw[bI c6,e]
    have La:ey σ j=some (.blk id):=by rw[rJ];exact o6 (by rw[lX];exact Gs)
    rcases cls id with ⟨i,b2,c1,c2,c3,c4,c5⟩|⟨j',b2,b',c,b0,q1,q2,q3,q4,q5,q6,q7,q8,q9,qg,xN,rK⟩|⟨c1,c2,c3⟩
    ·obtain ⟨c,d1,d2⟩:=R8 j id Gs
     obtain ⟨_,b0,d3,_⟩:=d2.K8
     rw[d3] at c4;cases c4
    ·obtain rfl:=uniq _ _ _ q1 Gs
     rw[hj] at q2;cases q2
     exact ⟨id,b',La,q7,q8,fun h=>qg.trans (rK h).symm⟩
    ·exact absurd Gs (c2 j)
   ·have Sa:=(bA.1 hj).1
    have La:ey σ j=some (.blk (nb+(j-pl.length))):=by
     rw[rJ,lX,jR (by omega)]
     exact Gp (by omega)
    have hm:(nb+(j-pl.length),uL σ b)∈fr:=by
     rw[Bj]
     refine RZ ?_
     rw[iq,show pl.length+(j-pl.length)=j by omega]
     exact hj
    rcases cls (nb+(j-pl.length)) with ⟨i,b2,c1,c2,c3,c4,c5⟩|⟨j',b2,b',c,b0,q1,q2,q3,q4,q5,q6,q7,q8,q9,qg,xN,rK⟩|⟨c1,c2,c3⟩
    ·have hi:i=j-pl.length:=by omega
     subst hi
     rw[show pl.length+(j-pl.length)=j by omega] at c2 c5
     rw[hj] at c2;cases c2
     exact ⟨_,_,La,c3,.of σ _,fun _=>c5⟩
    ·rw[tK _ hm] at q5;cases q5
    ·obtain ⟨b',rn,he⟩:=Fx (hp:=hp) (l:=fr++bk) (er.2 (.inl hm))
     rw[K9,c1,tK _ hm] at he
     cases he
  ·rw[ij] at hj
   have:=List.getElem?_eq_none_iff.1 hj
   rw[rJ,lX,List.getElem?_eq_none_iff,dD,K7]
   omega
  ·rw[rJ,lX] at hj
   by_cases c6:j<pl.length
   ·rw[kz c6] at hj
    obtain ⟨aL,b1,e,_⟩:=Gq j _ hj
    cases e
   ·have Sa:j-pl.length<bs.length-pl.length:=by
     have:=(bA.1 hj).1
     rw[dD,K7] at this
     omega
    rw[jR (by omega),Gp Sa] at hj
    cases hj
 have hle:Le P w I β hp w' I2 au hZ:=by
  refine ⟨xM.dw,xM.cu,fun id blk aa=> ?_,fun id blk blk' b aa bM rL hb=> ?_,fun id e es aq e' aT vers' b q i c t v e1 l aa bM hb aY hv ht hc=> ?_⟩
  ·rcases cls id with ⟨i,b2,c1,c2,c3,c4,c5⟩|⟨j',b2,b',c,b0,q1,q2,q3,q4,q5,q6,q7,q8,q9,qg,xN,rK⟩|⟨c1,c2,c3⟩
   ·rw[aa] at c4;cases c4
   ·rw[aa] at q5;cases q5
    exact ⟨b',q7,q6,fun _=>qg⟩
   ·exact ⟨blk,c1.trans aa,ak.le_refl _,fun _=>c3⟩
  ·rcases cls id with ⟨i,b2,c1,c2,c3,c4,c5⟩|⟨j',b2,b',c,b0,q1,q2,q3,q4,q5,q6,q7,q8,q9,qg,xN,rK⟩|⟨c1,c2,c3⟩
   ·rw[aa] at c4;cases c4
   ·rw[q7] at bM;cases bM
    exact xM.size j' c b2 b q3 (by rw[ij];exact q2) (q8.R4 rL) (q4.K8.1.trans hb)
   ·rw[c1,aa] at bM
    cases bM
    simp only[bsize,(other id blk b aa (.root rL hb) c2).2.1]
  ·rcases cls id with ⟨i2,b2,c1,c2,c3,c4,c5⟩|⟨j',b2,b',c',b0,q1,q2,q3,q4,q5,q6,q7,q8,q9,qg,xN,rK⟩|⟨c1,c2,c3⟩
   ·rw[aa] at c4;cases c4
   ·rw[q7] at bM;cases bM
    obtain ⟨_,_,vw,_,_,k1,k2⟩:=q9 ⟨_,_,_,rfl⟩
    change hp id=_ at k1
    rw[aa] at k1;cases k1
    cases k2
    rw[R5 aY] at hv
    omega
   ·rw[c1,aa] at bM
    cases bM
    exact ⟨l,rfl,hc.mono fun _ _ _ _ h=>(other id _ _ aa (.row hb h) c2).2.1⟩
 have place: ∀id blk b,hZ id=some blk→bG P w' (au id) blk b→(∃j c,jS bs j=some c∧bG P w' (ch j) c b∧ey σ j=some (.blk id))∨(b<w.heap.size∧¬o8 P w o hp0 b∧hp id=some blk∧bG P w (β id) blk b):=by
  intro id blk b e1 e3
  rcases cls id with ⟨i,b2,c1,c2,c3,c4,c5⟩|⟨j',b2,b',c,b0,q1,q2,q3,q4,q5,q6,q7,q8,q9,qg,xN,rK⟩|⟨c1,c2,c3⟩
  ·rw[c3] at e1;cases e1
   rw[c5] at e3
   refine .inl ⟨pl.length+i,b2,by rw[ij];exact c2,(gM.of σ b2).vr e3,?_⟩
   have:=(bA.1 c2).1
   rw[rJ,lX,jR (by omega),Gp (by omega),c1]
   congr 3
   omega
  ·rw[q7] at e1;cases e1
   have rL:b2≠ .dead:=q8.R4 e3.alive
   rw[qg,←rK rL] at e3
   exact .inl ⟨j',b2,by rw[ij];exact q2,q8.vr e3,by rw[rJ];exact o6 (by rw[lX];exact q1)⟩
  ·rw[c1] at e1
   rw[c3] at e3
   have:=e3.mono (w:=w) fun b hb=>(other id blk b e1 hb c2).2.1
   exact .inr ⟨S.h.lt e1 this,(other id blk b e1 this c2).1,e1,this⟩
 have tw: ∀b,o8 P w o hp0 b∨w.heap.size≤b→M b∨B≤b:=by
  rintro b (h|h)
  ·obtain ⟨j,id,b1,i1,i2,i3,_⟩:=R9 b h
   exact S.h.own id b1 b i2 i3
  ·exact .inr (kp S.size h)
 have Lb: ∀j c b,jS bs j=some c→bG P w' (ch j) c b→o8 P w o hp0 b∨w.heap.size≤b:=fun j c b h1 h2=>Sc.h.own j c b h1 h2
 refine ⟨au,hle,⟨⟨fun id blk aa=> ?_,fun i1 i2 b1 b2 b e1 e2 f1 f2=> ?_,fun id blk b aa hb=> ?_,Sc.h.jV⟩,fun b hb hM=> ?_,kp S.size Sc.size,fun b hb=> ?_,⟨Sc.io.1.trans S.io.1,Sc.io.2.trans S.io.2⟩⟩,tE⟩
 ·rcases cls id with ⟨i,b2,c1,c2,c3,c4,c5⟩|⟨j',b2,b',c,b0,q1,q2,q3,q4,q5,q6,q7,q8,q9,qg,xN,rK⟩|⟨c1,c2,c3⟩
  ·rw[c3] at aa;cases aa
   rw[c5]
   exact tE.R3 (Sc.h.rel _ b2 (by rw[ij];exact c2)) (.of σ b2)
  ·rw[q7] at aa;cases aa
   have:=tE.R3 (Sc.h.rel j' b2 (by rw[ij];exact q2)) q8
   by_cases rL:b2= .dead
   ·subst rL
    cases q8
    exact .dead
   ·rw[qg,←rK rL]
    exact this
  ·rw[c1] at aa
   rw[c3]
   exact (S.h.rel id blk aa).mono hle fun b hb=>(other id blk b aa hb c2).2
 ·rcases place i1 b1 b e1 f1 with ⟨j1,c1,g1,g2,g3⟩|⟨g1,g2,g3,g4⟩<;>rcases place i2 b2 b e2 f2 with ⟨j2,c2,k1,k2,k3⟩|⟨k1,k2,k3,k4⟩
  ·have:=Sc.h.inj j1 j2 c1 c2 b g1 k1 g2 k2
   subst this
   rw[g3] at k3
   cases k3
   rfl
  ·rcases Lb j1 c1 b g1 g2 with h|h
   ·exact absurd h k2
   ·omega
  ·rcases Lb j2 c2 b k1 k2 with h|h
   ·exact absurd h g2
   ·omega
  ·exact S.h.inj i1 i2 _ _ b g3 k3 g4 k4
 ·rcases place id blk b aa hb with ⟨j1,c1,g1,g2,g3⟩|⟨g1,g2,g3,g4⟩
  ·exact tw b (Lb j1 c1 b g1 g2)
  ·exact S.h.own id blk b g3 g4
 ·refine (Sc.cu b (kq hb S.size) fun hx=> ?_).trans (S.cu b hb hM)
  rcases tw b (.inl hx) with h|h
  ·exact hM h
  ·omega
 ·rcases Sc.new b hb with h|h|h
  ·exact S.new b h
  ·exact .inr (tw b (.inl h))
  ·exact .inr (tw b (.inr h))
end
section
variable {P:Program} {A:cJ} {w w':World} {I I' I2:Nat→Prop} {μ β au ch:Nat→Option Nat} {hp hp' hp0 bB:Nat→Option ak} {C:ae} {B:Nat} {M:Nat→Prop} {w0:Start}
theorem Sb (hp:Nat→Option ak): ∀(a b:List (Nat × ak)),bX hp (a++b)=bX (bX hp b) a
 | [],b=>rfl
 | (i,x)::a,b=>by simp only[List.cons_append,bX,Sb hp a b]
theorem vy {hp:Nat→Option ak} {l:List (Nat × ak)} {id:Nat} (h: ∀q∈l,q.1≠id):bX hp l id=hp id:=by
 rcases u3 (hp:=hp) (l:=l) (id:=id) with h1|⟨b,hb,_⟩
 ·exact h1
 ·exact absurd rfl (h _ hb)
def xO (P : Program) : Prop := ∀ (f : Nat) fn, P.funcs[f]? = some fn → (fn.name == "runtime.NumGoroutine") = false
def Gt (P:Program) (f:FuncId) (e:TypeId):Prop:=
 (∀args w,(callFunc f args).run P w= .ok (.enter f args) w)∧∃t,P.underlying t=some (.slice e)∧
  ∀(s:Value) (w:World) (Q:Ending→World→Prop),(s= .slice none 0 0→Q (.returned (.slice none 0 0)) w)→
   (∀a n c,s= .slice (some a) n c→∃v w',(Builtin.append_ #[t,t] t #[.slice (some ⟨w.heap.size,0,none⟩) 0 0,s]).run P (w.alloc (.cells #[] e))= .ok v w'∧Q (.returned v) w')→
   (s= .slice none 0 0∨∃a n c,s= .slice (some a) n c)→Calls P f #[s] w Q
structure jI (P:Program) (A:cJ):Prop where
 count:xO P
 ext: ∀f T,A.ext f=some T→∀(b:Nat) (C:Array Value) (w:World),w.heap[b]? =some (.cells C T (0,0))→C.size=P.cellsOf T→(C[0]? =some (.pointer none)∨C[0]? =some (.pointer (some ⟨b,0,none⟩)))→
  (callFunc f #[.pointer (some ⟨b,0,none⟩)]).run P w= .ok (.enter f #[.pointer (some ⟨b,0,none⟩)]) w∧
  Calls P f #[.pointer (some ⟨b,0,none⟩)] w fun e w'=>e= .returned (.tuple #[])∧(w'=w∨w'=w.setCell ⟨b,0,none⟩ (.pointer (some ⟨b,0,none⟩)))
 idle: ∀f,A.idle f=true→(∀args w,(callFunc f args).run P w= .ok (.enter f args) w)∧
  ∀args w,CallsD P f args .returning w fun e u' w'=>(∃v,e= .returned v)∧u'= .returning∧w'=w
 oO: ∀f e,A.oO f=some e→Gt P f e
theorem jI.here {P:Program} {A:cJ} (h:jI P A) (f id:Nat):jI P (A.here f id):=⟨h.count,h.ext,h.idle,h.oO⟩
def Bk (E:FuncId→Bool) (d:Deferred):Prop:= ∃f cap,d.target= .fn (.func f) cap∧E f=true
theorem Lc {P:Program} {A:cJ} (hP:jI P A) {fn:Func} {tmps:Array Value} {R:Ending→World→Prop} {w:World} {v:Value} (hv:(results fn tmps).run P w= .ok v w) (hR:R (.returned v) w):
  ∀ds:List Deferred,(∀d∈ds,Bk A.idle d)→Leaves P fn tmps R ds .returning w
 | [],_=>⟨v,hv,hR⟩
 | d::ds,h=>by
  obtain ⟨f,cap,ht,hf⟩:=h d (by simp)
  obtain ⟨k1,k2⟩:=hP.idle f hf
  obtain ⟨t,Sd⟩:=d
  simp only at ht
  subst ht
  refine leaves_cons (f:=f) (args:=Sd++cap) (by simp) ?_ ?_
  ·simp only[invoke];exact k1 _ w
  ·refine (k2 (Sd++cap) w).mono fun e u' w' hr=> ?_
   obtain ⟨⟨v',rfl⟩,rfl,rfl⟩:=hr
   exact Lc hP hv hR ds fun d hd=>h d (mD _ hd)
def Bl (P:Program) (A:cJ) (o:Oper) (a:Act) (w:World) (I:Nat→Prop) (β:Nat→Option Nat) (hp:Nat→Option ak) (B:Nat) (M:Nat→Prop) (w0:Start) (r:R):Prop:=
 ∀(next:Act→World→Prop) (Q:Exit→Act→World→Prop),
  (∀v w' I' au ds,Le P w I β hp w' I' au (bX hp r.upd)→aP P w' I' au (bX hp r.upd) B M w0→an P w' I' au (bX hp r.upd) v r.v→(∀d∈ds,d∈a.defers∨Bk A.idle d)→next ({a with defers:=ds}.put o.dst v) w')→o.wp P a w next Q
theorem pY.step {o:Oper} {a:Act} {r:R} (h:pY P ((execOp a.eval o).run P w) w I β hp B M w0 r):Bl P A o a w I β hp B M w0 r:=by
 obtain ⟨v,w',I',au,h1,h2,h3,h4⟩:=h
 intro next Q hn
 unfold Oper.wp
 rcases h1 with h1|⟨h1,rfl⟩
 ·rw[h1];exact hn v w' I' au a.defers h2 h3 h4 fun d hd=> .inl hd
 ·rw[h1];exact hn _ w' I' au a.defers h2 h3 h4 fun d hd=> .inl hd
theorem Se: ∀(l:List (Nat × VS)),oQ l=tp (l.map (·.2))
 | []=>rfl
 | (_,s)::l=>by simp only[oQ,jw,tp,Se l]
theorem acf (hC:lq P A C) (S:aP P w I β hp B M w0) (hg:hY P A.aM w I) {vals:List Value} {args:List V} {nb key:Nat} {f:FuncId} {r:R} {rd:List Nat} (hlen:vals.length=args.length)
  (cK: ∀(j:Nat) v x,vals[j]? =some v→args[j]? =some x→an P w I β hp v x) (h:(An P A nb key f args).run C hp=some (r,rd)):
  ∃fn c,P.funcs[f]? =some fn∧fn.body=some c∧Calls P f vals.toArray w fun e w'=> ∃v I' au,e= .returned v∧Le P w I β hp w' I' au (bX hp r.upd)∧aP P w' I' au (bX hp r.upd) B M w0∧an P w' I' au (bX hp r.upd) v r.v:=by
 unfold An at h
 obtain ⟨Sf,h0⟩:=aQ h
 clear h
 rw[aX] at Sf
 subst Sf
 obtain ⟨h1,jH,d1,u1,a1,a2,a3,a5,a4⟩:=K4 S h0 hlen cK
 obtain ⟨h2,tJ,d2,u2,b1,b2,b3,b4⟩:=RQ S a1
 clear h0 a1
 obtain ⟨hc,h3⟩:=aQ b1
 clear b1
 simp only[aS,aX,nB] at hc
 obtain ⟨fV,vu⟩:=hc
 have oa:=a2.trans b2
 have lK:h2.ds=d1++d2:=by have:=oa.ds;simpa using this
 have Gu:h2.upd=u1++u2:=by have:=oa.upd;simpa using this
 have kP:(h2.pl.map Place.id).Nodup:=oa.nodup (by simp)
 obtain ⟨c1,o,c2,c3⟩:=b4 []
 simp only[iS] at c1 c2 c3
 cases Bm:C key h2.ds with
 | none=>
  simp only[Rd.run,Bm] at h3
  cases h3
 | some es=>
  have rj: ∃fk,(Am P (A.so key es) nb h2 (A.lv key es)).run C hp=some (r,fk):=by
   obtain ⟨x,hx,e⟩:=bind_some h3
   rw[Bm] at hx
   cases hx
   unfold cJ.so cJ.lv
   cases cw:A.alt key with
   | none=>rw[cw] at e;exact ⟨_,e⟩
   | some S2=>
    rw[cw] at e
    simp only[Rd.run] at e
    cases hb:(V.nth es 0).toBool<;>(rw[hb] at e;exact ⟨_,e⟩)
  clear h3
  obtain ⟨fk,h3⟩:=rj
  unfold Am at h3
  simp only at h3
  generalize ib:eX (A.so key es).bf ((A.lv key es).drop (oQ (A.so key es).bQ))=bs at h3
  generalize rJ:h2.pl++tq nb (bs.length-h2.pl.length)=σ at h3
  generalize Bj:q0 σ nb (bs.drop h2.pl.length)=fr at h3
  obtain ⟨p0,bk,rd4,p1,p2,_,p3⟩:=RX h3
  obtain ⟨tK,rd5,p4⟩:=R0 p1
  obtain rfl:=aU p4
  have rq:h2.pl.length≤bs.length:=by rw[iT] at p0;omega
  have Gr: ∀q∈bk,∃(j:Nat) (b:ak),h2.pl[j]? =some (.blk q.1)∧bs[j]? =some b∧gM σ b q.2∧Bi hp q:=by
   intro q hq
   rcases p2 q hq with hx|⟨j,b,k1,k2,k3,k4⟩
   ·simp at hx
   ·have hj:=(bA.1 k1).1
    rw[fv hj] at k2
    exact ⟨j,b,k1,k2,k3,k4⟩
  obtain ⟨fn,c,hf,hb,Ld⟩:=hC key h2.ds es Bm
  refine ⟨fn,c,hf,hb,?_⟩
  have hmb:eX (A.sin key).bf (h2.ds.drop (oQ (A.sin key).bQ))=eX (A.sin key).bf d2:=by
   rw[lK,Se,n9 a3]
  have Lf:(bu (A.sin key) h2.ds).hp=jS (eX (A.sin key).bf d2):=by
   simp only[bu,mk,hmb]
  have hl: ∀j blk,(bu (A.sin key) h2.ds).hp j=some blk→∃p,ey h2.pl j=some p∧en P w β hp p (o j) blk:=by
   intro j blk hj
   rw[Lf,ij] at hj
   obtain ⟨p,k1,k2⟩:=c2 j blk hj
   rw[dV] at k1
   exact ⟨p,k1,k2⟩
  have hd: ∀j,j<h2.pl.length→∃blk,(bu (A.sin key) h2.ds).hp j=some blk:=by
   intro j hj
   rw[Lf,ij]
   exact ⟨_,bI (by rw[c1,←fV];exact hj)⟩
  have Sg:Be P w β hp h2.pl o (bu (A.sin key) h2.ds).hp:=by
   intro j p hj
   obtain ⟨blk,k1⟩:=hd j (by rw[lX] at hj;exact (bA.1 hj).1)
   obtain ⟨p',k2,k3⟩:=hl j blk k1
   rw[hj] at k2
   cases k2
   exact ⟨blk,k1,k3⟩
  obtain ⟨rA,S1⟩:=AH S oa.Gi
  rw[←Gu] at rA S1
  have i1: ∀b,I b→jb P w I β hp h2.upd b:=fun b h=> .inl h
  have entry:=ab9 (hp0:=(bu (A.sin key) h2.ds).hp) S kP vu hl (fun cO j blk hj=>by
   have gR:=hj
   rw[Lf,ij] at gR
   exact c3 (jb P w I β hp h2.upd) o _ i1 (fun q hq b hb=> .inr ⟨q,by rw[Gu];exact er.2 (.inr hq),hb⟩) h2.pl [] (by simp) Sg j blk gR (cO j blk hj)) S1.h.jV
  have acg:vals.length=(A.sin key).bQ.length:=by rw[hlen,←a5];simp
  have ha:=Ld w (jb P w I β hp h2.upd) o vals entry (hg.mono i1 fun _ _=>rfl) acg fun j v x hj hx=>by
   rw[lK] at hx
   exact (((a4.later b2) (jb P w I β hp h2.upd) o _ i1 (fun q hq b hb=> .inr ⟨q,by rw[Gu];exact hq,hb⟩) h2.pl [] (by simp) Sg) d2).2 j v x hj hx
  refine ha.mono fun e w' Bn=> ?_
  obtain ⟨v,I2,ch,rfl,ha⟩:=Bn
  have xP:(bu (A.so key es) (A.lv key es)).hp=jS bs:=by simp only[bu,mk,ib]
  cases ach:(A.so key es).safe P with
  | true=>
   simp only[cond_true,iS]
   have nZ: ∀b,I b→I2 b:=fun b h=>ha.le.dw b (i1 b h)
   obtain ⟨s1,s2⟩:=acd ach nZ ha.xL i1
   have xM:lp w I o (bu (A.sin key) h2.ds).hp w' I ch (jS bs):=by
    rw[←xP]
    exact ⟨fun _ h=>h,fun b h=>ha.le.cu b (i1 b h),ha.le.blk,ha.le.size⟩
   obtain ⟨au,k1,k2,k3⟩:=R7 S rJ.symm Bj.symm kP rq p3 Gr hl hd (by rw[←xP];exact ⟨s1.h,s1.cu,s1.size,fun b h=> .inl h,s1.io⟩) xM tK
   exact ⟨v,I,au,rfl,k1,k2,k3.val (by have:=s2 v ha.res;rw[xP] at this;exact this)⟩
  | false=>
   simp only[cond_false]
   rw[←cY,Sb]
   have pb: ∀p∈h2.pl,bX hp h2.upd p.id=hp p.id:=fun p hp=>vy fun q hq e=>
    Gn vu (fg.2 ⟨q,hq,rfl⟩) (e▸fg.2 ⟨p,hp,rfl⟩)
   have aci: ∀q∈bk,∃(j:Nat) (b:ak),h2.pl[j]? =some (.blk q.1)∧bs[j]? =some b∧gM σ b q.2∧Bi (bX hp h2.upd) q:=by
    intro q hq
    obtain ⟨j,b,k1,k2,k3,k4⟩:=Gr q hq
    refine ⟨j,b,k1,k2,k3,fun hn=> ?_⟩
    have:=pb _ (jv k1)
    simp only[Place.id] at this
    rw[this]
    exact k4 hn
   have xi: ∀j blk,(bu (A.sin key) h2.ds).hp j=some blk→∃p,ey h2.pl j=some p∧en P w β (bX hp h2.upd) p (o j) blk:=by
    intro j blk hj
    obtain ⟨p,k1,k2⟩:=hl j blk hj
    exact ⟨p,k1,k2.other (pb p (by rw[lX] at k1;exact jv k1))⟩
   have acj: ∀q∈fr,bX hp h2.upd q.1=none:=by
    intro q hq
    rw[vy fun q' cj e=> ?_]
    ·exact tK q hq
    ·obtain ⟨e1,cy,_,h5⟩:=oa.Gi q' (Gu▸cj)
     rw[e,tK q hq] at h5
     rcases h5 with ⟨_,h5⟩|⟨_,h5⟩<;>cases h5
   obtain ⟨au,k1,k2,k3⟩:=R7 S1 rJ.symm Bj.symm kP rq p3 aci xi hd (by rw[←xP];exact ha.xL) (by rw[←xP];exact ha.le) acj
   exact ⟨v,I2,au,rfl,rA.trans k1,k2,k3.val (by have:=ha.res;rw[xP] at this;exact this)⟩
theorem Sh (hC:lq P A C) (hP:jI P A) (S:aP P w I β hp B M w0) (hg:hY P A.aM w I) {a:Act} {nb key:Nat} {o:Oper} {f:FuncId} {vals:List Value} {args:List V} (hlen:vals.length=args.length)
  (cK: ∀(j:Nat) v x,vals[j]? =some v→args[j]? =some x→an P w I β hp v x) {r:R} {rd:List Nat} (h:(An P A nb key f args).run C hp=some (r,rd))
  (hex:(execOp a.eval o).run P w=(callFunc f vals.toArray).run P w):Bl P A o a w I β hp B M w0 r:=by
 intro next Q hn
 obtain ⟨fn,c,hf,hb,Ld⟩:=acf hC S hg hlen cK h
 unfold Oper.wp
 rw[hex,MuLone.run_callFunc_enter hf (hP.count f _ hf) hb,Oper.upon_enter]
 refine Ld.mono fun e w' Bn=> ?_
 obtain ⟨v,I2,ch,rfl,k1,k2,k3⟩:=Bn
 exact hn v w' I2 ch a.defers k1 k2 k3 fun d hd=> .inl hd
theorem lg.args {a:Act} {sl:Nat→V} (hs:lg P w I β hp a sl) (hg:hY P A.aM w I) {args:Array Operand} {ts:Array TypeId} (ba:args.size=ts.size):
  (args.map a.eval).toList.length=((args.toList.zip ts.toList).map fun p=>aV P A.aM p.2 sl p.1).length∧
  ∀(j:Nat) v x,(args.map a.eval).toList[j]? =some v→((args.toList.zip ts.toList).map fun p=>aV P A.aM p.2 sl p.1)[j]? =some x→an P w I β hp v x:=by
 refine ⟨by simp;omega,fun j v x hv hx=> ?_⟩
 simp only[Array.toList_map,eM,List.getElem?_zip_eq_some,zZ] at hv hx
 obtain ⟨x1,Bo,rfl⟩:=hv
 obtain ⟨⟨y1,t1⟩,⟨Si,_⟩,rfl⟩:=hx
 rw[Bo] at Si
 cases Si
 exact hs.ev hg t1 _
theorem Sj {vs us:List Value} {xs ys:List V} (h1:vs.length=xs.length) (h2: ∀(j:Nat) v x,vs[j]? =some v→xs[j]? =some x→an P w I β hp v x)
  (h3: ∀(j:Nat) v x,us[j]? =some v→ys[j]? =some x→an P w I β hp v x) (j:Nat) (v:Value) (x:V) (hv:(vs++us)[j]? =some v) (hx:(xs++ys)[j]? =some x):an P w I β hp v x:=by
 by_cases hj:j<vs.length
 ·rw[kz hj] at hv
  rw[kz (by omega)] at hx
  exact h2 j v x hv hx
 ·rw[jR (by omega)] at hv
  rw[jR (by omega)] at hx
  rw[h1] at hv
  exact h3 _ v x hv hx
theorem ack (hP:jI P A) (S:aP P w I β hp B M w0) (hg:hY P A.aM w I) {a:Act} {sl:Nat→V} (hs:lg P w I β hp a sl) {dst:Option Tmp} {ty e:TypeId} {pos:String} {after:Array Edge} {guard:Option (Nat × Bool)} {f:FuncId}
  {args:Array Operand} {argTypes:Array TypeId} {nb:Nat} {r:R} {rd:List Nat} (fa:A.oO f=some e)
  (h:((match args.toList with
    | [x]=> .aK (cP P e) (tm e (aV P A.aM ty sl x) fun xs=> .aK (Nat.ble (xs.length*P.bytesOf e) ct) (jB nb (.arr e xs false) (.whole e nb) []))
    | _=> .fail):Rd R).run C hp=some (r,rd)):Bl P A (Oper.mk dst (.call (Go.Call.mk (.value (.func f)) args argTypes)) ty pos after guard) a w I β hp B M w0 r:=by
 cases ha:args.toList with
 | nil=>rw[ha] at h;cases h
 | cons x l=>
  rw[ha] at h
  cases l with
  | cons _ _=>cases h
  | nil=>
   simp only at h
   have e1:args= #[x]:=by rw[←Array.toArray_toList (xs:=args),ha]
   subst e1
   have hx:=hs.ev hg ty x
   obtain ⟨aE,h⟩:=aQ h
   have fin: ∀{w1:World} {Gv:Nat→Option Nat},(∀id blk,hp id=some blk→ej P w1 I Gv hp (Gv id) blk)→an P w1 I Gv hp (a.eval x) (aV P A.aM ty sl x)→∃xs,(((∃a',a.eval x= .slice a' 0 0)∧xs=[])∨∃a' c news,Row P w1 I e (a.eval x) xs a' c news)∧
     xs.length*P.bytesOf e≤ct∧hp nb=none∧r=⟨.whole e nb,[(nb,.arr e xs false)]⟩:=by
    intro w1 Gv h1 h2
    obtain ⟨xs,lW,l,h⟩:=FW h1 aE h2 h
    obtain ⟨eP,h⟩:=aQ h
    rw[eL] at eP
    obtain ⟨hn,rfl⟩:=nY h
    exact ⟨xs,lW,eP,hn,rfl⟩
   obtain ⟨c1,t,hu,c2⟩:=hP.oO f e fa
   intro next Q xQ
   unfold Oper.wp
   have e2:(execOp a.eval ⟨dst,.call ⟨.value (.func f),#[x],argTypes⟩,ty,pos,after,guard⟩).run P w= .ok (.enter f #[a.eval x]) w:=by
    have fl:a.eval (.func f)= .func (.func f) #[] #[]:=rfl
    simpa[execOp,resolve,fl,Deferred.ofValue,invoke] using c1 #[a.eval x] w
   rw[e2,Oper.upon_enter]
   refine c2 _ w _ (fun Bp=> ?_) (fun b n c xy=> ?_) ?_
   ·obtain ⟨xs,lW,eP,hn,rfl⟩:=fin S.h.rel hx
    have gS:xs=[]:=by
     rcases lW with ⟨_,h⟩|⟨a,c,news,hr⟩
     ·exact h
     ·have:=hr.val.symm.trans Bp
      cases this
    subst gS
    obtain ⟨a1,a2⟩:=FA S e hn
    exact xQ _ w I _ a.defers a1 a2 (.dY (cZ _ _ _) (cZ _ _ _)) fun d hd=> .inl hd
   ·obtain ⟨m1,m2⟩:=aat (w':=w.alloc (.cells #[] e)) S (fun b hb=>heap_alloc_old w _ b hb) (by simp) ⟨rfl,rfl⟩
    obtain ⟨xs,lW,eP,hn,rfl⟩:=fin m2.h.rel (hx.mono m1)
    obtain ⟨v,w',au,a1,a2,a3,a4⟩:=Kz (ty:=t) (a0:=some ⟨w.heap.size,0,none⟩) m2 hu aE hn eP lW
    exact ⟨v,w',a1,xQ v w' I au a.defers (m1.trans a2) a3 a4 fun d hd=> .inl hd⟩
   ·obtain ⟨xs,lW,eP,hn,rfl⟩:=fin S.h.rel hx
    rcases lW with ⟨⟨b,h⟩,_⟩|⟨b,c,news,hr⟩
    ·rw[h]
     cases b with
     | none=>exact .inl rfl
     | some b=>exact .inr ⟨_,_,_,rfl⟩
    ·exact .inr ⟨_,_,_,hr.val⟩
theorem acm (hP:jI P A) (S:aP P w I β hp B M w0) (hg:hY P A.aM w I) {a:Act} {sl:Nat→V} (hs:lg P w I β hp a sl) {dst:Option Tmp} {ty T0:TypeId} {pos:String} {after:Array Edge} {guard:Option (Nat × Bool)} {f:FuncId}
  {args:Array Operand} {argTypes:Array TypeId} {r:R} {rd:List Nat} (Bq:A.ext f=some T0)
  (h:((match args.toList with
   | [x]=>
    match aV P A.aM ty sl x with
    | .ptr id i c=>Rd.get id fun
     | some (.var T cs)=> .aK (Nat.beq T T0&&(pQ P T&&(Nat.beq cs.length (P.cellsOf T)&&(Nat.beq i 0&&Nat.beq c 0)))) (.ret ⟨.bm [],[(id,.var T (.undef::cs.tail))]⟩)
     | _=> .fail
    | _=> .fail
   | _=> .fail):Rd R).run C hp=some (r,rd)):Bl P A (Oper.mk dst (.call (Go.Call.mk (.value (.func f)) args argTypes)) ty pos after guard) a w I β hp B M w0 r:=by
 cases ha:args.toList with
 | nil=>rw[ha] at h;cases h
 | cons x l=>
  rw[ha] at h
  cases l with
  | cons _ _=>cases h
  | nil=>
   simp only at h
   have e1:args= #[x]:=by rw[←Array.toArray_toList (xs:=args),ha]
   subst e1
   have hx:=hs.ev hg ty x
   cases fG:aV P A.aM ty sl x<;>rw[fG] at h hx<;>simp only at h<;>first|(cases h;done)|skip
   rename_i id i c
   obtain ⟨l,h1⟩:=run_get h
   cases aa:hp id with
   | none=>rw[aa] at h1;cases h1
   | some blk=>
    rw[aa] at h1
    cases blk<;>simp only at h1<;>first|(cases h1;done)|skip
    rename_i T cs
    obtain ⟨h2,h3⟩:=aQ h1
    simp only[aS,aX] at h2
    obtain ⟨rfl,b6,hlc,rfl,rfl⟩:=h2
    obtain rfl:=aU h3
    obtain ⟨b,hb,he⟩:=hx.ic aa (by simp)
    have hr:=S.h.rel id _ aa
    rw[hb] at hr
    cases hr with
    | @var _ b' Ca _ aH hh ba hI gS gJ=>
     cases aH
     have vi:a.eval x= .pointer (some ⟨b,0,none⟩):=by rw[he];simp[ak.sz]
     obtain ⟨q1,q2⟩:=hP.ext f T Bq b Ca w hh (ba.trans hlc) (gJ b6)
     have h0:0<Ca.size:=by
      rcases gJ b6 with k|k<;>exact (iu.1 k).1
     have oX:(V.undef::cs.tail).length=cs.length:=by
      cases cs with
      | nil=>rw[ba] at h0;simp at h0
      | cons _ _=>rfl
     have rel: ∀(C':Array Value),(∀j,0<j→C'[j]? =Ca[j]?)→∀(j:Nat) v y,C'[j]? =some v→(V.undef::cs.tail)[j]? =some y→an P w I β hp v y:=by
      intro C' xB j v y hj hy
      cases j with
      | zero=>simp at hy;subst hy;exact .undef
      | succ j=>
       rw[xB _ (by omega)] at hj
       refine gS (j+1) v y hj ?_
       cases cs with
       | nil=>rw[ba] at h0;simp at h0
       | cons _ _=>simpa using hy
     have fin: ∀w' C',(∀b',b'≠b→w'.heap[b']? =w.heap[b']?)→w'.heap[b]? =some (.cells C' T (0,0))→C'.size=Ca.size→w.heap.size≤w'.heap.size→w'.os=w.os∧w'.output=w.output→
       (∀j,0<j→C'[j]? =Ca[j]?)→(C'[0]? =some (.pointer none)∨C'[0]? =some (.pointer (some ⟨b,0,none⟩)))→
       Le P w I β hp w' I β (aR hp id (some (.var T (V.undef::cs.tail))))∧aP P w' I β (aR hp id (some (.var T (V.undef::cs.tail)))) B M w0:=by
      intro w' C' k1 k2 k3 k4 k5 k6 k7
      exact FC (w':=w') (blk':= .var T (V.undef::cs.tail)) S aa (by simp) rfl hb hI (by simp) k1 (by rw[nO k2,nO hh,k3]) k4 k5 fun hle=>
       .var rfl k2 (by rw[k3,ba,oX]) hI (fun j v y hj hy=>(rel C' k6 j v y hj hy).mono hle) fun _=>k7
     intro next Q hn
     unfold Oper.wp
     have e2:(execOp a.eval ⟨dst,.call ⟨.value (.func f),#[x],argTypes⟩,ty,pos,after,guard⟩).run P w= .ok (.enter f #[.pointer (some ⟨b,0,none⟩)]) w:=by
      have fl:a.eval (.func f)= .func (.func f) #[] #[]:=rfl
      simpa[execOp,resolve,fl,Deferred.ofValue,invoke,vi] using q1
     rw[e2,Oper.upon_enter]
     refine q2.mono fun e w' Bn=> ?_
     obtain ⟨rfl,hw⟩:=Bn
     have Sk:Le P w I β hp w' I β (aR hp id (some (.var T (V.undef::cs.tail))))∧aP P w' I β (aR hp id (some (.var T (V.undef::cs.tail)))) B M w0:=by
      rcases hw with rfl|rfl
      ·exact fin w' Ca (fun _ _=>rfl) hh rfl (aI _) ⟨rfl,rfl⟩ (fun _ _=>rfl) (gJ b6)
      ·refine fin (w.setCell ⟨b,0,none⟩ (.pointer (some ⟨b,0,none⟩))) (Ca.setIfInBounds 0 (.pointer (some ⟨b,0,none⟩))) (fun b' bY=> ?_) ?_ (by simp) (by simp[World.setCell]) ⟨rfl,rfl⟩ (fun j hj=> ?_) (.inr ?_)
       ·simp only[World.setCell,zX]
        rw[ah (fun e=>bY e.symm)]
       ·simp[World.setCell,zX,hh]
       ·rw[EV (by omega)]
       ·rw[JC h0]
     exact hn (.tuple #[]) w' I β a.defers Sk.1 Sk.2 (.bm rfl fun j v y hj _=>by simp at hj) fun d hd=> .inl hd
theorem acn (hC:lq P A C) (hP:jI P A) (S:aP P w I β hp B M w0) (hg:hY P A.aM w I) {a:Act} {sl:Nat→V} (hs:lg P w I β hp a sl) {ix nb:Nat} {o:Oper} {r:R} {rd:List Nat}
  (h:(fS P A sl ix nb o).run C hp=some (r,rd)):Bl P A o a w I β hp B M w0 r:=by
 cases hc:KU o.op with
 | false=>exact (abS S hg hs hc h).step
 | true=>
  obtain ⟨dst,op,ty,pos,after,guard⟩:=o
  cases op<;>simp only[KU] at hc<;>first|(cases hc;done)|skip
  case defer c=>
   obtain ⟨callee,args,argTypes⟩:=c
   cases callee with
   | invoke r m=>simp only[fS] at h;cases h
   | builtin b=>simp only[fS] at h;cases h
   | value f=>
   cases f with
   | tmp t=>
    simp only[fS] at h
    cases b6:sl t<;>rw[b6] at h<;>simp only at h<;>first|(cases h;done)|skip
    rename_i f xs ys
    obtain ⟨h1,h2⟩:=aQ h
    obtain rfl:=aU h2
    have hv:=hs t
    rw[b6] at hv
    generalize vm:a.tmps.getD t undef=vt at hv
    cases hv with
    | @fn _ fs cs _ _ q1 q2 q3 q4=>
     intro next Q hn
     unfold Oper.wp
     have fl:a.eval (.tmp t)= .func (.func f) fs cs:=vm
     have e1:(execOp a.eval ⟨dst,.defer ⟨.value (.tmp t),args,argTypes⟩,ty,pos,after,guard⟩).run P w= .ok (.defer {target:= .fn (.func f) cs,args:=fs++args.map a.eval}) w:=by
      simp[execOp,resolve,fl,Deferred.ofValue]
     rw[e1,Oper.upon_defer]
     exact hn undef w I β _ (Le.refl w I β hp) S .undef fun d hd=>by
      rcases gh.1 hd with rfl|hd
      ·exact .inr ⟨f,cs,rfl,h1⟩
      ·exact .inl hd
   | func f=>simp only[fS] at h;cases h
   | const _=>simp only[fS] at h;cases h
   | global _=>simp only[fS] at h;cases h
  rename_i c
  obtain ⟨callee,args,argTypes⟩:=c
  cases callee with
  | invoke r m=>cases hc
  | builtin b=>cases hc
  | value f=>
   cases f with
   | func f=>
    simp only[fS] at h
    cases Bq:A.ext f with
    | some T0=>
     rw[Bq] at h
     simp only at h
     exact acm hP S hg hs Bq h
    | none=>
    rw[Bq] at h
    simp only at h
    cases fa:A.oO f with
    | some e0=>
     rw[fa] at h
     simp only at h
     exact ack hP S hg hs fa h
    | none=>
    rw[fa] at h
    simp only at h
    obtain ⟨h1,h2⟩:=aQ h
    rw[aX] at h1
    obtain ⟨k1,k2⟩:=hs.args hg h1
    refine Sh hC hP S hg k1 k2 h2 ?_
    have e1:(args.map a.eval).toList.toArray=args.map a.eval:=Array.toArray_toList
    rw[e1]
    simp[execOp,resolve,Act.eval,Deferred.ofValue,invoke]
   | tmp t=>
    simp only[fS] at h
    cases b6:sl t<;>rw[b6] at h<;>simp only at h<;>first|(cases h;done)|skip
    rename_i f xs ys
    obtain ⟨h1,h2⟩:=aQ h
    rw[aX] at h1
    obtain ⟨k1,k2⟩:=hs.args hg h1
    have hv:=hs t
    rw[b6] at hv
    generalize vm:a.tmps.getD t undef=vt at hv
    cases hv with
    | @fn _ fs cs _ _ q1 q2 q3 q4=>
     have l1:fs.toList.length=xs.length:=by simpa using q1
     have l3:cs.toList.length=ys.length:=by simpa using q3
     have r1: ∀(j:Nat) v x,fs.toList[j]? =some v→xs[j]? =some x→an P w I β hp v x:=fun j v x hj hx=>q2 j v x (by simpa using hj) hx
     have r3: ∀(j:Nat) v x,cs.toList[j]? =some v→ys[j]? =some x→an P w I β hp v x:=fun j v x hj hx=>q4 j v x (by simpa using hj) hx
     refine Sh hC hP S hg (vals:=fs.toList++(args.map a.eval).toList++cs.toList) (args:=xs++((args.toList.zip argTypes.toList).map fun p=>aV P A.aM p.2 sl p.1)++ys) (by simp only[dD];omega) ?_ h2 ?_
     ·exact Sj (by simp only[dD];omega) (Sj l1 r1 k2) r3
     ·have e1:(fs.toList++(args.map a.eval).toList++cs.toList).toArray=fs++args.map a.eval++cs:=by
       apply Array.toList_inj.1;simp
      rw[e1]
      have fl:a.eval (.tmp t)= .func (.func f) fs cs:=vm
      simp[execOp,resolve,fl,Deferred.ofValue,invoke]
   | _=>cases hc
end
section
variable {P:Program} {A:cJ} {w w':World} {I I' I2:Nat→Prop} {μ β au:Nat→Option Nat} {hp hp':Nat→Option ak} {C:ae} {B:Nat} {M:Nat→Prop} {w0:Start}
structure jg (P:Program) (E:FuncId→Bool) (G:Nat→V) (w:World) (I:Nat→Prop) (β:Nat→Option Nat) (n:Nat) (a:Act) (st:St):Prop where
 sl:lg P w I β st.hp a st.sl
 size:a.tmps.size=n
 defers: ∀d∈a.defers,Bk E d
 aM:hY P G w I
theorem Lg {E:FuncId→Bool} {G:Nat→V} {n:Nat} {a:Act} {st:St} {o:Oper} {v:Value} {x:V} {hp':Nat→Option ak} {ds:List Deferred} (h:jg P E G w I β n a st) (hle:Le P w I β st.hp w' I' au hp') (hd:tt o n=true)
  (hv:an P w' I' au hp' v x) (lK: ∀d∈ds,d∈a.defers∨Bk E d):jg P E G w' I' au n ({a with defers:=ds}.put o.dst v) ⟨iy st.sl o.dst x,hp',st.nb⟩:=by
 have Sl: ∀d∈ds,Bk E d:=fun d hd=>(lK d hd).elim (h.defers d) id
 cases aco:o.dst with
 | none=>exact ⟨fun k=>(h.sl k).mono hle,h.size,Sl,h.aM.mono hle.dw hle.cu⟩
 | some d=>
  have aY:d<a.tmps.size:=by
   unfold tt at hd
   rw[aco] at hd
   rw[h.size]
   simpa using hd
  refine ⟨fun k=> ?_,by simp[Act.put,h.size],Sl,h.aM.mono hle.dw hle.cu⟩
  simp only[Act.put,iy,aR]
  cases hb:Nat.beq k d with
  | true=>
   rw[aX] at hb
   subst hb
   simpa[aY] using hv
  | false=>
   have bY:d≠k:=fun e=>by rw[e,jP] at hb;cases hb
   have:=(h.sl k).mono hle
   simpa[EV bY] using this
theorem Sm {E:FuncId→Bool} {G:Nat→V} {n:Nat} {a:Act} {st:St} {d:Nat} {b:Bool} (h:jg P E G w I β n a st) (hd:st.sl d= .bool b):a.tmps[d]? =some (.bool b):=by
 have:=h.sl d
 rw[hd] at this
 have:=this.jX
 cases ht:a.tmps[d]? with
 | none=>simp[ht] at this;cases this
 | some v=>simp[ht] at this;rw[this]
theorem acp {x:V} {b:Bool} (h:lN x=some (some b)):x= .bool b:=by
 cases x with
 | bool c=>simp only[lN] at h;injection h with h;injection h with h;rw[h]
 | bm vs=>cases vs<;>simp[lN] at h
 | _=>simp[lN] at h
theorem acq {x:V} (h:lN x=some none):x= .bm []:=by
 cases x with
 | bm vs=>cases vs with
  | nil=>rfl
  | cons _ _=>simp[lN] at h
 | bool c=>simp[lN] at h
 | _=>simp[lN] at h
theorem an.acr {v:Value} (h:an P w I β hp v (.bm [])):v= .tuple #[]:=by
 cases h with
 | @bm cs _ hs _=>
  have:cs= #[]:=by
   apply Array.eq_empty_of_size_eq_zero
   simpa using hs
  rw[this]
theorem an.Sn:an P w I β hp Go.undef (.bm []):= .bm (by rfl) (fun j v x _ hx=>by simp at hx)
theorem So (hC:lq P A C) (hP:jI P A) {ops:Array Oper} {n i nb:Nat} {o:Oper} (ho:ops[i]? =some o) {a:Act} {st st':St} {R W:List Nat} (S:aP P w I β st.hp B M w0) (hA:jg P A.idle A.aM w I β n a st)
  (h:hG P A C n ops i o nb st=some (st',R,W)) {K:Act→World→Prop} {Q:Exit→Act→World→Prop}
  (hK: ∀a' w' I' au,Le P w I β st.hp w' I' au st'.hp→aP P w' I' au st'.hp B M w0→jg P A.idle A.aM w' I' au n a' st'→K a' w'):wpOp P ops Q i K a w:=by
 unfold hG at h
 cases hd:tt o n with
 | false=>rw[hd] at h;cases h
 | true=>
  rw[hd] at h
  simp only[cond_true] at h
  have go: ∀{Lh:St} {R W:List Nat},(((fS P A st.sl i (nb+64*i) o).run C st.hp).bind fun r=>some ((⟨iy st.sl o.dst r.1.v,bX st.hp r.1.upd,st.nb⟩:St),r.2,r.1.upd.map (·.1)))=some (Lh,R,W)→Lh=st'→
    o.wp P a w K Q:=by
   intro Lh R W h e
   obtain ⟨⟨r,rd⟩,h1,h2⟩:=bind_some h
   cases h2
   subst e
   exact acn hC hP S hA.aM hA.sl h1 K Q fun v w' I' au ds k1 k2 k3 k4=>hK _ w' I' au k1 k2 (Lg hA k1 hd k3 k4)
  unfold wpOp
  rw[ho]
  simp only
  cases hg:o.guard with
  | none=>
   rw[hg] at h
   simp only[Region.wanted,hg,iR]
   exact .inl (go h rfl)
  | some gw=>
   obtain ⟨g,want⟩:=gw
   rw[hg] at h
   simp only at h
   cases lY:(ops[g]?).bind (·.dst) with
   | none=>rw[lY] at h;cases h
   | some d=>
    rw[lY] at h
    simp only at h
    cases mW:lN (st.sl d) with
    | none=>rw[mW] at h;cases h
    | some ob=>
    rw[mW] at h
    cases ob with
    | none=>
     have xy:=acq mW
     have hy:yielded ops a.tmps g=none:=by
      unfold yielded
      rw[lY]
      have:=hA.sl d
      rw[xy] at this
      have hu:=an.acr this
      simp only[Option.bind_some]
      cases ht:a.tmps[d]? with
      | none=>rfl
      | some v=>simp[ht] at hu;subst hu;rfl
     simp only[Region.wanted,hg,hy]
     injection h with h
     injection h with h3 h4
     subst h3
     have h2:((none:Option Bool)==some want)=false:=rfl
     simp only[h2,Bool.false_eq_true,ky]
     exact hK _ w I β (Le.refl w I β st.hp) S (Lg (ds:=a.defers) hA (Le.refl w I β st.hp) hd an.Sn fun d h=> .inl h)
    | some b=>
    simp only at h
    have xy:=acp mW
    have hy:yielded ops a.tmps g=some b:=by
     unfold yielded
     rw[lY]
     simp only[Option.bind_some,Sm hA xy]
    simp only[Region.wanted,hg,hy]
    by_cases hb:b=want
    ·subst hb
     simp only[beq_self_eq_true,cond_true] at h
     simp only[beq_self_eq_true,iR]
     exact .inl (go h rfl)
    ·have h1:(b==want)=false:=by simp[hb]
     have h2:(some b==some want)=false:=by simp[hb]
     rw[h1] at h
     simp only[cond_false] at h
     injection h with h
     injection h with h3 h4
     subst h3
     simp only[h2,Bool.false_eq_true,ky]
     exact hK _ w I β (Le.refl w I β st.hp) S (Lg (ds:=a.defers) hA (Le.refl w I β st.hp) hd an.Sn fun d h=> .inl h)
theorem vz {α:Type}: ∀{p:Rd α} {r:α} {rd:List Nat},p.run C hp=some (r,rd)→(∀id∈rd,hp' id=hp id)→p.run C hp'=some (r,rd)
 | .ret a,r,rd,h,_=>h
 | .fail,r,rd,h,_=>by cases h
 | .get id k,r,rd,h,he=>by
  obtain ⟨x,h1,h2⟩:=bind_some h
  cases h2
  have e1:hp' id=hp id:=he id (by simp)
  have:=vz (p:=k (hp id)) (r:=x.1) (rd:=x.2) h1 (fun i hi=>he i (by simp[hi]))
  simp only[Rd.run,e1,this,Option.bind_some]
 | .opt o k,r,rd,h,he=>by
  obtain ⟨x,h1,h2⟩:=bind_some h
  simp only[Rd.run,h1,Option.bind_some]
  exact vz h2 he
 | .aK b k,r,rd,h,he=>by
  obtain ⟨h1,h2⟩:=aQ h
  simp only[Rd.run,h1,cond_true]
  exact vz h2 he
 | .call key ds k,r,rd,h,he=>by
  obtain ⟨x,h1,h2⟩:=bind_some h
  simp only[Rd.run,h1,Option.bind_some]
  exact vz h2 he
 | .alt true x y,r,rd,h,he=>vz (p:=x) h he
 | .alt false x y,r,rd,h,he=>vz (p:=y) h he
theorem acs {G:Nat→V} {sl sl':Nat→V} {t:TypeId} {x:Operand} (h: ∀k,x= .tmp k→sl k=sl' k):aV P G t sl x=aV P G t sl' x:=by
 cases x with
 | tmp k=>exact h k rfl
 | _=>rfl
theorem acu {sl sl':Nat→V} {ix nb:Nat} {o:Oper} (h: ∀x∈o.op.operands,∀k,x= .tmp k→sl k=sl' k):fS P A sl ix nb o=fS P A sl' ix nb o:=by
 have fl: ∀t x,x∈o.op.operands→aV P A.aM t sl x=aV P A.aM t sl' x:=fun t x hx=>acs (h x hx)
 obtain ⟨dst,op,ty,pos,after,guard⟩:=o
 have Sp: ∀(t:TypeId) (ps:Array (Nat × Operand)),(∀x∈ps.map (·.2),aV P A.aM t sl x=aV P A.aM t sl' x)→
   (ps.toList.map fun p=>(p.1,aV P A.aM t sl p.2))=ps.toList.map fun p=>(p.1,aV P A.aM t sl' p.2):=fun t ps hp=>
  nE fun p hm=>by rw[hp p.2 (Array.mem_map.2 ⟨p,pL.1 hm,rfl⟩)]
 have acv: ∀(t:TypeId) (ps:Array (Nat × Operand)),(∀x∈ps.map (·.2),aV P A.aM t sl x=aV P A.aM t sl' x)→
   (ps.toList.map fun p=>(aV P A.aM t sl p.2).cells)=ps.toList.map fun p=>(aV P A.aM t sl' p.2).cells:=fun t ps hp=>
  nE fun p hm=>by rw[hp p.2 (Array.mem_map.2 ⟨p,pL.1 hm,rfl⟩)]
 cases op<;>simp only[Op.operands] at fl<;>simp only[fS]
 case pick c x y=>rw[fl ty c (by simp),fl ty x (by simp),fl ty y (by simp)]
 case build t ps=>rw[Sp ty ps fun x hx=>fl ty x (by simpa using hx),acv ty ps fun x hx=>fl ty x (by simpa using hx)]
 case buildSlice t len ps=>
  split
  ·rename_i e _
   rw[Sp e ps fun x hx=>fl e x (by simpa using hx)]
  ·rfl
 case slice t x lo hi mx=>
  cases mx with
  | some m=>
   have e1:lo.map (aV P A.aM 0 sl)=lo.map (aV P A.aM 0 sl'):=by
    cases lo with
    | none=>rfl
    | some l=>simp only[Option.map_some,fl 0 l (by simp)]
   have e2:hi.map (aV P A.aM 0 sl)=hi.map (aV P A.aM 0 sl'):=by
    cases hi with
    | none=>rfl
    | some l=>simp only[Option.map_some,fl 0 l (by simp)]
   have e3:=fl 0 m (by simp)
   simp only[fl ty x (by simp),e1,e2,e3]
  | none=>
   have e1:lo.map (aV P A.aM 0 sl)=lo.map (aV P A.aM 0 sl'):=by
    cases lo with
    | none=>rfl
    | some l=>simp only[Option.map_some,fl 0 l (by simp)]
   have e2:hi.map (aV P A.aM 0 sl)=hi.map (aV P A.aM 0 sl'):=by
    cases hi with
    | none=>rfl
    | some l=>simp only[Option.map_some,fl 0 l (by simp)]
   simp only[fl ty x (by simp),e1,e2]
 case call c=>
  obtain ⟨callee,args,argTypes⟩:=c
  have vA: ∀t x,x∈args→aV P A.aM t sl x=aV P A.aM t sl' x:=fun t x hx=>fl t x (by simp[Call.operands,hx])
  have hl: ∀t (l:List Operand),(∀x∈l,x∈args)→l.map (aV P A.aM t sl)=l.map (aV P A.aM t sl'):=fun t l hl=>nE fun x hx=>vA t x (hl x hx)
  have hz:((args.toList.zip argTypes.toList).map fun p=>aV P A.aM p.2 sl p.1)=(args.toList.zip argTypes.toList).map fun p=>aV P A.aM p.2 sl' p.1:=
   nE fun p hp=>vA p.2 p.1 (pL.1 (List.of_mem_zip hp).1)
  cases callee with
  | invoke r m=>rfl
  | builtin b=>
   have cw: ∀x∈args.toList,∀t,aV P A.aM t sl x=aV P A.aM t sl' x:=fun x hx t=>vA t x (pL.1 hx)
   have tL: ∀t (l:List Operand),(∀x∈l,∀t,aV P A.aM t sl x=aV P A.aM t sl' x)→l.map (aV P A.aM t sl)=l.map (aV P A.aM t sl'):=fun t l h=>nE fun x hx=>h x hx t
   cases b<;>first|rfl|skip
   case append=>
    dsimp only
    generalize args.toList=al at cw
    match al,cw,argTypes.toList with
    | [s,x],cw,[t,u]=>simp only[cw s (by simp),cw x (by simp)]
    | [],_,_=>rfl
    | [_],_,_=>rfl
    | _::_::_::_,_,_=>rfl
    | [_,_],_,[]=>rfl
    | [_,_],_,[_]=>rfl
    | [_,_],_,_::_::_::_=>rfl
   case copy=>
    dsimp only
    generalize args.toList=al at cw
    match al,cw,argTypes.toList with
    | [s,x],cw,[t,u]=>simp only[cw s (by simp),cw x (by simp)]
    | [],_,_=>rfl
    | [_],_,_=>rfl
    | _::_::_::_,_,_=>rfl
    | [_,_],_,[]=>rfl
    | [_,_],_,[_]=>rfl
    | [_,_],_,_::_::_::_=>rfl
   case len=>
    dsimp only
    generalize args.toList=al at cw
    match al,cw,argTypes.toList with
    | [x],cw,[t]=>simp only[cw x (by simp)]
    | [],_,_=>rfl
    | _::_::_,_,_=>rfl
    | [_],_,[]=>rfl
    | [_],_,_::_::_=>rfl
   case clear=>
    dsimp only
    generalize args.toList=al at cw
    match al,cw,argTypes.toList with
    | [x],cw,[t]=>simp only[cw x (by simp)]
    | [],_,_=>rfl
    | _::_::_,_,_=>rfl
    | [_],_,[]=>rfl
    | [_],_,_::_::_=>rfl
   case unsafeSliceData=>
    dsimp only
    generalize args.toList=al at cw
    match al,cw with
    | [],_=>rfl
    | [x],cw=>simp only[cw x (by simp)]
    | _::_::_,_=>rfl
   case unsafeString=>
    dsimp only
    generalize args.toList=al at cw
    match al,cw,argTypes.toList with
    | [s,x],cw,[t,u]=>simp only[cw s (by simp),cw x (by simp)]
    | [],_,_=>rfl
    | [_],_,_=>rfl
    | _::_::_::_,_,_=>rfl
    | [_,_],_,[]=>rfl
    | [_,_],_,[_]=>rfl
    | [_,_],_,_::_::_::_=>rfl
   case max=>
    dsimp only
    generalize args.toList=al at cw
    match al,cw with
    | [],_=>rfl
    | x::l,cw=>simp only[cw x (by simp),tL ty l (fun y hy=>cw y (by simp[hy]))]
   case min=>
    dsimp only
    generalize args.toList=al at cw
    match al,cw with
    | [],_=>rfl
    | x::l,cw=>simp only[cw x (by simp),tL ty l (fun y hy=>cw y (by simp[hy]))]
  | value f=>
   cases f<;>first|rfl|skip
   ·rename_i t
    have ht:sl t=sl' t:=h (.tmp t) (by simp[Op.operands,Call.operands]) t rfl
    simp only[hz,ht]
   ·simp only[hz]
    cases hx:args.toList with
    | nil=>rfl
    | cons x l=>
     cases l with
     | cons _ _=>rfl
     | nil=>simp only[vA ty x (pL.1 (by rw[hx];simp))]
 case defer c=>
  obtain ⟨callee,args,argTypes⟩:=c
  cases callee with
  | invoke r m=>rfl
  | builtin b=>rfl
  | value f=>
   cases f<;>first|rfl|skip
   rename_i t
   have ht:sl t=sl' t:=h (.tmp t) (by simp[Op.operands,Call.operands]) t rfl
   simp only[ht]
 case makeFunc fn a b=>
  cases fn<;>first|rfl|skip
  have e1:a.toList.map (aV P A.aM ty sl)=a.toList.map (aV P A.aM ty sl'):=nE fun x hx=>fl ty x (by simp[pL.1 hx])
  have e2:b.toList.map (aV P A.aM ty sl)=b.toList.map (aV P A.aM ty sl'):=nE fun x hx=>fl ty x (by simp[pL.1 hx])
  dsimp only
  rw[e1,e2]
 case makeMap t r=>cases r<;>rfl
 all_goals first
  | rfl
  | (simp[fl];done)
end
section
variable {P:Program} {A:cJ} {w w':World} {I I' I2:Nat→Prop} {μ β au:Nat→Option Nat} {hp hp':Nat→Option ak} {C:ae} {B:Nat} {M:Nat→Prop} {w0:Start}
theorem Sq {n i nb:Nat} {ops:Array Oper} {o:Oper} {st st':St} {R W:List Nat} (h:hG P A C n ops i o nb st=some (st',R,W)):
  ∃x upd,st'=⟨iy st.sl o.dst x,bX st.hp upd,st.nb⟩∧W=upd.map (·.1)∧∀fc:St,(∀d∈o.looksAt ops,fc.sl d=st.sl d)→(∀id∈R,fc.hp id=st.hp id)→
   hG P A C n ops i o nb fc=some (⟨iy fc.sl o.dst x,bX fc.hp upd,fc.nb⟩,R,W):=by
 unfold hG at h
 cases hd:tt o n with
 | false=>rw[hd] at h;cases h
 | true=>
  rw[hd] at h
  simp only[cond_true] at h
  have go:(((fS P A st.sl i (nb+64*i) o).run C st.hp).bind fun r=>some ((⟨iy st.sl o.dst r.1.v,bX st.hp r.1.upd,st.nb⟩:St),r.2,r.1.upd.map (·.1)))=some (st',R,W)→
    ∃x upd,st'=⟨iy st.sl o.dst x,bX st.hp upd,st.nb⟩∧W=upd.map (·.1)∧∀fc:St,(∀d∈o.looksAt ops,fc.sl d=st.sl d)→(∀id∈R,fc.hp id=st.hp id)→
     (((fS P A fc.sl i (nb+64*i) o).run C fc.hp).bind fun r=>some ((⟨iy fc.sl o.dst r.1.v,bX fc.hp r.1.upd,fc.nb⟩:St),r.2,r.1.upd.map (·.1)))=some (⟨iy fc.sl o.dst x,bX fc.hp upd,fc.nb⟩,R,W):=by
   intro h
   obtain ⟨⟨r,rd⟩,h1,h2⟩:=bind_some h
   cases h2
   refine ⟨r.v,r.upd,rfl,rfl,fun fc hs hh=> ?_⟩
   rw[acu (sl':=st.sl) fun x hx k hk=> ?_,vz h1 hh]
   ·rfl
   ·subst hk
    exact hs k (List.mem_append_left _ (List.mem_filterMap.2 ⟨.tmp k,by simpa using hx,rfl⟩))
  cases hg:o.guard with
  | none=>
   rw[hg] at h
   obtain ⟨x,upd,e1,e2,e3⟩:=go h
   refine ⟨x,upd,e1,e2,fun fc hs hh=> ?_⟩
   unfold hG
   simp only[hd,cond_true,hg]
   exact e3 fc hs hh
  | some gw=>
   obtain ⟨g,want⟩:=gw
   rw[hg] at h
   simp only at h
   cases lY:(ops[g]?).bind (·.dst) with
   | none=>rw[lY] at h;cases h
   | some d=>
    rw[lY] at h
    simp only at h
    have Br:d∈o.looksAt ops:=List.mem_append_right _ (by rw[hg];simp[lY])
    cases mW:lN (st.sl d) with
    | none=>rw[mW] at h;cases h
    | some ob=>
    rw[mW] at h
    cases ob with
    | none=>
     injection h with h
     injection h with h3 h4
     injection h4 with h5 h6
     subst h5;subst h6
     refine ⟨.bm [],[],h3.symm,rfl,fun fc hs hh=> ?_⟩
     unfold hG
     simp only[hd,cond_true,hg,lY,hs d Br,mW]
     rfl
    | some b=>
    simp only at h
    cases hb:b==want with
    | true=>
     rw[hb] at h
     obtain ⟨x,upd,e1,e2,e3⟩:=go h
     refine ⟨x,upd,e1,e2,fun fc hs hh=> ?_⟩
     unfold hG
     simp only[hd,cond_true,hg,lY,hs d Br,mW,hb]
     exact e3 fc hs hh
    | false=>
     rw[hb] at h
     simp only[cond_false] at h
     injection h with h
     injection h with h3 h4
     injection h4 with h5 h6
     subst h5;subst h6
     refine ⟨.bm [],[],h3.symm,rfl,fun fc hs hh=> ?_⟩
     unfold hG
     simp only[hd,cond_true,hg,lY,hs d Br,mW,hb,cond_false]
     rfl
theorem Sr {sl:Nat→V} {d:Option Nat} {x:V} {k:Nat} (h:d≠some k):iy sl d x k=sl k:=by
 cases d with
 | none=>rfl
 | some d=>exact eC _ _ fun e=>h (by rw[e])
theorem acw {hp:Nat→Option ak} {a b:List (Nat × ak)} (h: ∀q∈a,∀q'∈b,q.1≠q'.1):bX (bX hp a) b=bX (bX hp b) a:=by
 funext id
 by_cases ha: ∃q∈a,q.1=id
 ·have hb: ∀q∈b,q.1≠id:=by
   obtain ⟨q,hq,rfl⟩:=ha
   exact fun q' cj e=>h q hq q' cj e.symm
  rw[vy hb]
  obtain ⟨q,hq,rfl⟩:=ha
  have same: ∀(bB hZ:Nat→Option ak) (l:List (Nat × ak)) (q:Nat × ak),q∈l→bX bB l q.1=bX hZ l q.1:=by
   intro bB hZ l
   induction l with
   | nil=>intro q hq;simp at hq
   | cons p l ih=>
    intro q hq
    simp only[bX,aR]
    cases hb:Nat.beq q.1 p.1 with
    | true=>rfl
    | false=>
     simp only[cond_false]
     refine ih q ((gh.1 hq).resolve_left fun e=> ?_)
     rw[e,jP] at hb;cases hb
  exact same _ _ a q hq
 ·rw[vy (hp:=bX hp b) (l:=a) fun q hq e=>ha ⟨q,hq,e⟩]
  have same: ∀(bB hZ:Nat→Option ak) (l:List (Nat × ak)),bB id=hZ id→bX bB l id=bX hZ l id:=by
   intro bB hZ l he
   induction l with
   | nil=>exact he
   | cons p l ih=>
    simp only[bX,aR]
    cases hb:Nat.beq id p.1 with
    | true=>rfl
    | false=>exact ih
  exact same _ _ b (vy fun q hq e=>ha ⟨q,hq,e⟩)
structure Ss (ops:Array Oper) (o1 o2:Oper) (R1 W1 R2 W2:List Nat):Prop where
 apart:Oper.apart ops o1 o2=true
 w: ∀id∈W1,id∉R2∧id∉W2
 r: ∀id∈R1,id∉W2
theorem acx {n i j nb:Nat} {ops:Array Oper} {o1 o2:Oper} {st jh fc:St} {R1 W1 R2 W2:List Nat} (h1:hG P A C n ops i o1 nb st=some (jh,R1,W1)) (h2:hG P A C n ops j o2 nb jh=some (fc,R2,W2))
  (hi:Ss ops o1 o2 R1 W1 R2 W2): ∃Gw,hG P A C n ops j o2 nb st=some (Gw,R2,W2)∧hG P A C n ops i o1 nb Gw=some (fc,R1,W1):=by
 obtain ⟨x1,u1,e1,f1,g1⟩:=Sq h1
 obtain ⟨x2,u2,e2,f2,g2⟩:=Sq h2
 obtain ⟨a1,a2,a3⟩:=Oper.apart_spec hi.apart
 subst e1
 refine ⟨_,g2 st (fun d hd=> ?_) (fun id hd=> ?_),?_⟩
 ·simp only
  rw[Sr fun e=>a1 d e hd]
 ·simp only
  rw[vy fun q hq e=>(hi.w id (by rw[f1];exact fg.2 ⟨q,hq,e⟩)).1 hd]
 ·rw[g1 _ (fun d hd=> ?_) (fun id hd=> ?_),e2]
  ·congr 3
   ·funext k
    cases hd1:o1.dst with
    | none=>rfl
    | some d1=>
     cases lS:o2.dst with
     | none=>rfl
     | some d2=>
      have bY:d2≠d1:=fun e=>a2 d1 hd1 (by rw[lS,e])
      simp only[iy,aR]
      cases Su:Nat.beq k d1<;>cases tM:Nat.beq k d2<;>simp only[cond_true,cond_false]
      rw[aX] at Su tM
      exact absurd (tM.symm.trans Su) bY
   ·exact (acw fun q hq q' cj e=>(hi.w q.1 (by rw[f1];exact fg.2 ⟨q,hq,rfl⟩)).2 (by rw[f2];exact fg.2 ⟨q',cj,e.symm⟩)).symm
  ·simp only
   rw[Sr fun e=>a3 d e hd]
  ·simp only
   rw[vy fun q hq e=>hi.r id hd (by rw[f2];exact fg.2 ⟨q,hq,e⟩)]
def xR (P:Program) (A:cJ) (C:ae) (n:Nat) (ops:Array Oper) (nb:Nat):List (Nat × Oper × List Nat × List Nat)→St→St→Prop
 | [],st,st'=>st=st'
 | (i,o,R,W)::l,st,st'=> ∃jh,hG P A C n ops i o nb st=some (jh,R,W)∧xR P A C n ops nb l jh st'
def vB (x:Nat × Oper × List Nat × List Nat):Nat × List Nat × List Nat:=(x.1,x.2.2.1,x.2.2.2)
theorem Sv {n nb:Nat} {ops:Array Oper}: ∀{l:List (Nat × Oper)} {st st':St} {log Gx:Log},pW P A C n ops nb l st log=some (st',Gx)→
  ∃g,g.map (fun x=>(x.1,x.2.1))=l∧Gx=log++g.map vB∧xR P A C n ops nb g st st'
 | [],st,st',log,Gx,h=>by
  cases h
  exact ⟨[],rfl,by simp,rfl⟩
 | (i,o)::l,st,st',log,Gx,h=>by
  obtain ⟨⟨jh,R,W⟩,h1,h2⟩:=bind_some h
  obtain ⟨g,a,b,c⟩:=Sv h2
  exact ⟨(i,o,R,W)::g,by simp[a],by simp[b,vB],jh,h1,c⟩
def Sw (ops:Array Oper) (x y:Nat × Oper × List Nat × List Nat):Prop:=Ss ops x.2.1 y.2.1 x.2.2.1 x.2.2.2 y.2.2.1 y.2.2.2
theorem Sy {n nb:Nat} {ops:Array Oper} {y:Nat × Oper × List Nat × List Nat} {g2:List (Nat × Oper × List Nat × List Nat)}: ∀{g1:List (Nat × Oper × List Nat × List Nat)} {st st':St},
  xR P A C n ops nb (g1++y::g2) st st'→(∀x∈g1,Sw ops x y)→∃jh,hG P A C n ops y.1 y.2.1 nb st=some (jh,y.2.2.1,y.2.2.2)∧xR P A C n ops nb (g1++g2) jh st'
 | [],st,st',h,_=>h
 | x::g1,st,st',h,hi=>by
  obtain ⟨jh,h1,h2⟩:=h
  obtain ⟨fc,h3,h4⟩:=Sy h2 fun z hz=>hi z (mD _ hz)
  obtain ⟨Gw,h5,h6⟩:=acx h1 h3 (hi x (by simp))
  exact ⟨Gw,h5,fc,h6,h4⟩
theorem Sz (hC:lq P A C) (hP:jI P A) {n nb:Nat} {ops:Array Oper} {Q:Exit→Act→World→Prop}: ∀{g:List (Nat × Oper × List Nat × List Nat)} {st st':St} {a:Act} {w:World} {I:Nat→Prop} {β:Nat→Option Nat},
  xR P A C n ops nb g st st'→(∀x∈g,ops[x.1]? =some x.2.1)→aP P w I β st.hp B M w0→jg P A.idle A.aM w I β n a st→
  (∀a' w' I' au,Le P w I β st.hp w' I' au st'.hp→aP P w' I' au st'.hp B M w0→jg P A.idle A.aM w' I' au n a' st'→Q .normal a' w')→wpOps P ops Q (g.map (·.1)) a w
 | [],st,st',a,w,I,β,h,_,S,hA,hQ=>by
  cases h
  exact hQ a w I β (Le.refl w I β _) S hA
 | x::g,st,st',a,w,I,β,h,ho,S,hA,hQ=>by
  obtain ⟨jh,h1,h2⟩:=h
  rw[jw,wpOps_cons]
  refine So hC hP (ho x (by simp)) S hA h1 fun a' w' I' au k1 k2 k3=> ?_
  exact Sz hC hP h2 (fun y hy=>ho y (mD _ hy)) k2 k3 fun a2 w2 I2 ch m1 m2 m3=>hQ a2 w2 I2 ch (k1.trans m1) m2 m3
end
section
variable {P:Program} {A:cJ} {w w':World} {I I' I2:Nat→Prop} {μ β au:Nat→Option Nat} {hp hp':Nat→Option ak} {C:ae} {B:Nat} {M:Nat→Prop} {w0:Start}
inductive vC (ops:Array Oper):Nat→Nat→Prop
 | SA {i x:Nat} {o:Oper} {e:Edge}:ops[i]? =some o→e∈o.after→Region.binds .any e=true→e.on=x→vC ops i x
 | trans {i x:Nat} {o:Oper} {e:Edge}:ops[i]? =some o→e∈o.after→Region.binds .any e=true→vC ops e.on x→vC ops i x
theorem SB {acc:Array Nat} {x:Nat}: ∀{l:List Edge} {s:Nat},(l.foldl (fun s e=>if Region.binds .any e then s|||2^e.on|||acc.getD e.on 0 else s) s).testBit x=true→
  s.testBit x=true∨∃e∈l,Region.binds .any e=true∧(e.on=x∨(acc.getD e.on 0).testBit x=true)
 | [],s,h=> .inl h
 | e::l,s,h=>by
  simp only[List.foldl_cons] at h
  rcases SB h with h1|⟨e',a,b⟩
  ·by_cases hb:Region.binds .any e=true
   ·rw[af hb,pM,pM,oK,oK] at h1
    rcases h1 with (h1|h1)|h1
    ·exact .inl h1
    ·rw[oL] at h1
     exact .inr ⟨e,by simp,hb,.inl (by simpa using h1)⟩
    ·exact .inr ⟨e,by simp,hb,.inr h1⟩
   ·rw[ah hb] at h1
    exact .inl h1
  ·exact .inr ⟨e',mD _ a,b⟩
theorem SC {ops:Array Oper} {x:Nat}: ∀{l:List Oper} {acc:Array Nat},(∀j o,l[j]? =some o→ops[acc.size+j]? =some o)→(∀j,(acc.getD j 0).testBit x=true→vC ops j x)→
  ∀j,((l.foldl (fun acc o=>acc.push (o.after.foldl (fun s e=>if Region.binds .any e then s|||2^e.on|||acc.getD e.on 0 else s) 0)) acc).getD j 0).testBit x=true→vC ops j x
 | [],acc,_,Gy,j,h=>Gy j h
 | o::l,acc,hl,Gy,j,h=>by
  simp only[List.foldl_cons] at h
  refine SC (l:=l) ?_ ?_ j h
  ·intro j o' hj
   have:=hl (j+1) o' (by simpa using hj)
   rw[Array.size_push]
   rwa [show acc.size+1+j=acc.size+(j+1) by omega]
  ·intro k hk
   simp only[wS,Array.getElem?_push] at hk
   by_cases Li:k=acc.size
   ·rw[af Li] at hk
    simp only[Option.getD_some] at hk
    rw[←EW] at hk
    have ho:=hl 0 o rfl
    rw[Nat.add_zero] at ho
    rw[Li]
    have tM:(o.after.toList.foldl (fun s e=>if Region.binds .any e then s|||2^e.on|||acc.getD e.on 0 else s) 0).testBit x=true:=by simpa[wS] using hk
    rcases SB tM with h0|⟨e,he,hb,h1⟩
    ·simp at h0
    ·rcases h1 with h1|h1
     ·exact .SA ho (pL.1 he) hb h1
     ·exact .trans ho (pL.1 he) hb (Gy _ h1)
   ·rw[ah Li] at hk
    exact Gy k (by simpa[wS] using hk)
theorem acy {ops:Array Oper} {i x:Nat} (h:((Region.before ops).getD i 0).testBit x=true):vC ops i x:=by
 unfold Region.before at h
 rw[←EW] at h
 refine SC (l:=ops.toList) (acc:= #[]) (fun j o hj=>by simpa using hj) (fun j hj=>by simp at hj) i h
def SD (ops:Array Oper) (listed:Array Bool):Prop:= ∀i o,ops[i]? =some o→listed.getD i false=true→∀e∈o.after,Region.binds .any e=true→listed.getD e.on false=true
theorem acz {ops:Array Oper} {listed:Array Bool} (hc:SD ops listed) {i x:Nat} (h:vC ops i x) (hi: ∀o,ops[i]? =some o→∀e∈o.after,Region.binds .any e=true→listed.getD e.on false=true):listed.getD x false=true:=by
 induction h with
 | SA ho he hb hx=>rw[←hx];exact hi _ ho _ he hb
 | trans ho he hb _ ih=>exact ih fun o' mK e' vi aH=>hc _ o' mK (hi _ ho _ he hb) e' vi aH
theorem SE: ∀{l:List Oper} {k j:Nat} {o:Oper},Ar k l=true→l[j]? =some o→∀e∈o.after,Region.binds .any e=true→e.on<k+j
 | [],k,j,o,_,h=>by simp at h
 | o'::l,k,j,o,hk,h=>by
  simp only[Ar,aS] at hk
  cases j with
  | zero=>
   simp at h
   subst h
   intro e he hb
   have:=fO.1 hk.1 e (pL.2 he)
   simp[hb] at this
   omega
  | succ j=>
   intro e he hb
   have:=SE hk.2 (j:=j) (by simpa using h) e he hb
   omega
theorem SF {ops:Array Oper} {uP:Array Nat}: ∀{l:Log},Fp ops uP l=true→l.Pairwise fun x y=>Aq ops uP x y=true
 | [],_=> .nil
 | x::l,h=>by
  simp only[Fp,aS] at h
  exact .cons (fun y hy=>fO.1 h.1 y hy) (SF h.2)
theorem SG {listed:Array Bool} {i:Nat} (h:listed.getD i true=false):i<listed.size∧listed.getD i false=false:=by
 rcases eg i listed.size with h'|h'
 ·refine ⟨h',?_⟩
  simpa[h'] using h
 ·simp[Array.getElem?_eq_none h'] at h
theorem SH (hC:lq P A C) (hP:jI P A) {n nb:Nat} {ops:Array Oper} {Q:Exit→Act→World→Prop} (Gz:Ar 0 ops.toList=true):
  ∀(fuel:Nat) {g:List (Nat × Oper × List Nat × List Nat)} {listed:Array Bool} {st st':St} {a:Act} {w:World} {I:Nat→Prop} {β:Nat→Option Nat},
  g.length=fuel→xR P A C n ops nb g st st'→(∀x∈g,ops[x.1]? =some x.2.1)→(g.map (·.1)).Pairwise (· < ·)→(g.map vB).Pairwise (fun x y=>Aq ops (Region.before ops) x y=true)→
  listed.size=ops.size→(∀i,i<ops.size→(listed.getD i false=false↔i∈g.map (·.1)))→SD ops listed→
  aP P w I β st.hp B M w0→jg P A.idle A.aM w I β n a st→
  (∀a' w' I' au,Le P w I β st.hp w' I' au st'.hp→aP P w' I' au st'.hp B M w0→jg P A.idle A.aM w' I' au n a' st'→Q .normal a' w')→wpAny P .any ops Q fuel listed a w
 | 0,g,listed,st,st',a,w,I,β,hf,hr,ho,aY,GA,ba,vD,fa,S,hA,hQ=>by
  obtain rfl:g=[]:=nA hf
  cases hr
  refine ⟨?_,hQ a w I β (Le.refl w I β _) S hA⟩
  rw[List.eq_nil_iff_forall_not_mem]
  intro i hi
  obtain ⟨h0,_⟩:=mem_ready.1 hi
  obtain ⟨h1,h2⟩:=SG h0
  have:=(vD i (by omega)).1 h2
  simp at this
 | fuel+1,g,listed,st,st',a,w,I,β,hf,hr,ho,aY,GA,ba,vD,fa,S,hA,hQ=>by
  refine ⟨fun Bp=> ?_,fun i hi=> ?_⟩
  ·exfalso
   cases g with
   | nil=>simp at hf
   | cons x g=>
    have hx:=ho x (by simp)
    have gS:x.1<ops.size:=(iu.1 hx).1
    have fw:x.1∈Region.ready .any ops listed:=by
     rw[mem_ready]
     have h0:=(vD x.1 gS).2 (by simp)
     refine ⟨?_,x.2.1,hx,fun e he hb=> ?_⟩
     ·have hl:x.1<listed.size:=by omega
      simpa[hl] using h0
     ·have KE:=SE Gz (j:=x.1) (by simpa using hx) e he hb
      rw[dV] at KE
      cases hle:listed.getD e.on false with
      | true=>rfl
      | false=>
       have hm:=(vD e.on (by omega)).1 hle
       simp only[jw,gh] at hm
       rw[jw,uC] at aY
       rcases hm with hm|hm
       ·omega
       ·have:=aY.1 _ hm;omega
    rw[Bp] at fw
    cases fw
  ·obtain ⟨h0,oi,Bs,SI⟩:=mem_ready.1 hi
   obtain ⟨h1,h2⟩:=SG h0
   have hig:=(vD i (by omega)).1 h2
   obtain ⟨y,hy,hyi⟩:=fg.1 hig
   obtain ⟨g1,g2,rfl⟩:=List.append_of_mem hy
   subst hyi
   have SJ:=ho y hy
   rw[Bs] at SJ
   have SK:oi=y.2.1:=cX SJ
   have kP:((g1++y::g2).map (·.1)).Nodup:=aY.imp fun h=>Nat.ne_of_lt h
   have acA: ∀x∈g1,Sw ops x y:=by
    intro x hx
    have hp:Aq ops (Region.before ops) (vB x) (vB y)=true:=by
     rw[s8,jw,List.pairwise_append] at GA
     exact GA.2.2 _ (fg.2 ⟨x,hx,rfl⟩) _ (by simp)
    have SM:=ho x (er.2 (.inl hx))
    unfold Aq at hp
    rw[oK] at hp
    rcases hp with hp|hp
    ·have hl:=acz fa (acy hp) fun o mK e he hb=>by
      have:o=oi:=by
       have h3:ops[y.1]? =some o:=mK
       rw[Bs] at h3
       exact (cX h3).symm
      subst this
      exact SI e he hb
     have gS:x.1<ops.size:=(iu.1 SM).1
     have:=(vD x.1 gS).2 (fg.2 ⟨x,er.2 (.inl hx),rfl⟩)
     rw[show (vB x).1=x.1 from rfl,this] at hl
     cases hl
    ·simp only[vB,wS,SM,Bs,Option.getD_some,aS,nB] at hp
     obtain ⟨q1,q2,q3⟩:=hp
     refine ⟨SK▸q1,fun id aa=> ?_,fun id aa=>Gn q3 aa⟩
     have:=Gn q2 aa
     rw[er] at this
     exact ⟨fun h=>this (.inl h),fun h=>this (.inr h)⟩
   obtain ⟨jh,jW,n8⟩:=Sy hr acA
   rw[←SK] at jW
   refine So hC hP Bs S hA jW fun a' w' I' au k1 k2 k3=> ?_
   have iI:List.Sublist (g1++g2) (g1++y::g2):=List.Sublist.append_left (List.sublist_cons_self y g2) g1
   have uS: ∀j,j≠y.1→(listed.setIfInBounds y.1 true).getD j false=listed.getD j false:=fun j hj=>getD_set_ne false (Ne.symm hj)
   refine SH hC hP Gz fuel (g:=g1++g2) (st':=st') ?_ n8 (fun x hx=>ho x (iI.subset hx)) (aY.sublist (iI.map _)) (GA.sublist (iI.map _)) (by simp[ba]) (fun j hj=> ?_) (fun j o Lj c6 e he hb=> ?_) k2 k3 fun a2 w2 I2 ch m1 m2 m3=>hQ a2 w2 I2 ch (k1.trans m1) m2 m3
   ·simp at hf⊢;omega
   ·by_cases p8:j=y.1
    ·subst p8
     have hl:y.1<listed.size:=by omega
     simp only[wS,JC hl,Option.getD_some]
     refine ⟨fun h=>(by cases h),fun h=> ?_⟩
     exfalso
     rw[s8,jw,EZ,List.nodup_cons] at kP
     rw[s8,er] at h
     rcases h with h|h
     ·exact kP.2.2 _ h _ (by simp) rfl
     ·exact kP.2.1.1 h
    ·rw[uS j p8,vD j hj]
     simp only[s8,jw,er,gh]
     constructor
     ·rintro (h|h|h)
      ·exact .inl h
      ·exact absurd h p8
      ·exact .inr h
     ·rintro (h|h)
      ·exact .inl h
      ·exact .inr (.inr h)
   ·by_cases p8:j=y.1
    ·subst p8
     rw[Bs] at Lj
     cases Lj
     exact getD_set_true (SI e he hb)
    ·rw[uS j p8] at c6
     exact getD_set_true (fa j o Lj c6 e he hb)
end
section
variable {P:Program} {A:cJ} {w w':World} {I I' I2:Nat→Prop} {μ β au:Nat→Option Nat} {hp hp':Nat→Option ak} {C:ae} {B:Nat} {M:Nat→Prop} {w0:Start}
theorem SN: ∀{l:List Oper} {k j:Nat},(oS k l)[j]? =(l[j]?).map fun o=>(k+j,o)
 | [],k,j=>by simp[oS]
 | o::l,k,0=>by simp[oS]
 | o::l,k,j+1=>by
  simp only[oS,List.getElem?_cons_succ,SN]
  congr 1
  funext o
  rw[show k+1+j=k+(j+1) by omega]
theorem SO: ∀{l:List Oper} {k:Nat},(oS k l).map (·.1)=List.range' k l.length
 | [],k=>rfl
 | o::l,k=>by simp[oS,SO,List.range'_succ]
theorem acB (hC:lq P A C) (hP:jI P A) (hm:P.follows .mixedOrders=true) {n id:Nat} {ops:Array Oper} {draw:Bool} {st st':St} {a:Act} {Q:Exit→Act→World→Prop}
  (h:xg P A C n ops draw st=some st') (S:aP P w I β st.hp B M w0) (hA:jg P A.idle A.aM w I β n a st)
  (hQ: ∀a' w' I' au,Le P w I β st.hp w' I' au st'.hp→aP P w' I' au st'.hp B M w0→jg P A.idle A.aM w' I' au n a' st'→Q .normal a' w'):(Code.region id ops draw).wp P Q a w:=by
 obtain ⟨⟨jh,log⟩,h1,h2⟩:=bind_some h
 obtain ⟨g,g1,g2,g3⟩:=Sv h1
 have GB:g.map (·.1)=List.range ops.size:=by
  have:g.map (·.1)=(g.map fun x=>(x.1,x.2.1)).map (·.1):=by simp
  rw[this,g1,SO,List.range_eq_range']
  simp
 have SP: ∀x∈g,ops[x.1]? =some x.2.1:=by
  intro x hx
  have:(x.1,x.2.1)∈oS 0 ops.toList:=by rw[←g1];exact fg.2 ⟨x,hx,rfl⟩
  obtain ⟨j,hj⟩:=List.mem_iff_getElem?.1 this
  rw[SN] at hj
  cases ho:ops.toList[j]? with
  | none=>rw[ho] at hj;cases hj
  | some o=>
   rw[ho] at hj
   simp only[Option.map_some,dV,dO,kA] at hj
   rw[←hj.1,←hj.2]
   simpa using ho
 cases draw with
 | false=>
  simp only[Bool.not_false,Bool.true_or,cond_true] at h2
  cases h2
  refine wp_region ?_
  rw[←GB]
  exact Sz hC hP g3 SP S hA hQ
 | true=>
  simp only[zP,Bool.false_or] at h2
  cases hc:(Region.noSelect ops&&As ops log) with
  | false=>rw[hc] at h2;cases h2
  | true=>
   rw[hc] at h2
   cases h2
   simp only[aS,As] at hc
   obtain ⟨hns,Gz,acC⟩:=hc
   simp only[List.nil_append] at g2
   refine wp_region_any hm ?_
   have hlen:g.length=ops.size:=by
    have:=congrArg List.length GB
    simpa using this
   refine SH hC hP Gz ops.size (g:=g) (st':=st') hlen g3 SP (by rw[GB];exact List.pairwise_lt_range) (by rw[←g2];exact SF acC) (by simp) (fun i hi=> ?_) (fun i o ho hl=> ?_)
    (w:=w.drew) S.drew ⟨fun k=>(hA.sl k).mono (Le.drew w I β _),hA.size,hA.defers,hA.aM.mono (Le.drew (P:=P) w I β st.hp).dw (Le.drew (P:=P) w I β st.hp).cu⟩ fun a' w' I' au k1 k2 k3=>hQ a' w' I' au ((Le.drew w I β _).trans k1) k2 k3
   ·rw[GB]
    simp[hi]
   ·have hi:=(iu.1 ho).1
    simp[hi] at hl
end
section
variable {P:Program} {A:cJ} {E:FuncId→Bool} {G:Nat→V} {w w':World} {I I' I2:Nat→Prop} {μ β au:Nat→Option Nat} {hp hp':Nat→Option ak} {C:ae} {B:Nat} {M:Nat→Prop} {w0:Start}
theorem vE: ∀{l:List Nat} {hp:Nat→Option ak} {I:Nat→Prop},aP P w I β hp B M w0→∃I',Le P w I β hp w I' β (uO hp l)∧aP P w I' β (uO hp l) B M w0
 | [],hp,I,S=>⟨I,Le.refl w I β hp,S⟩
 | id::l,hp,I,S=>by
  simp only[uO]
  cases aa:hp id with
  | none=>exact vE S
  | some blk=>
   cases blk with
   | dead=>exact vE S
   | var _=>exact vE S
   | map _ _=>exact vE S
   | arr e es fz=>
    obtain ⟨h1,h2⟩:=AH S (upd:=[(id,.arr e es true)]) (fun p hp=>by
     simp only[gY] at hp
     subst hp
     exact ⟨e,es,rfl,.inl ⟨fz,aa⟩⟩)
    obtain ⟨I',h3,h4⟩:=vE (l:=l) h2
    exact ⟨I',h1.trans h3,h4⟩
   | nest e es aq=>
    obtain ⟨h1,h2⟩:=AH S (upd:=[(id,.arr e es true)]) (fun p hp=>by
     simp only[gY] at hp
     subst hp
     exact ⟨e,es,rfl,.inr ⟨aq,aa⟩⟩)
    obtain ⟨I',h3,h4⟩:=vE (l:=l) h2
    exact ⟨I',h1.trans h3,h4⟩
theorem SQ {n m:Nat} {pur:List Nat} {a:Act} {st:St} (S:aP P w I β st.hp B M w0) (hA:jg P E G w I β n a st):
  ∃I',Le P w I β st.hp w I' β (freeze m pur st).hp∧aP P w I' β (freeze m pur st).hp B M w0∧jg P E G w I' β n a (freeze m pur st):=by
 obtain ⟨I',h1,h2⟩:=vE (l:=(Qo st pur).filter fun id=>Nat.ble m id) S
 exact ⟨I',h1,h2,fun k=>(hA.sl k).mono h1,hA.size,hA.defers,hA.aM.mono h1.dw h1.cu⟩
structure xS (hp:Nat→Option ak) (β:Nat→Option Nat) (ord:List Nat) (hp':Nat→Option ak) (au:Nat→Option Nat):Prop where
 arr: ∀(j:Nat) id e es fz,ord[j]? =some id→hp id=some (.arr e es fz)→hp' j=some (.arr e es fz)
 var: ∀(j:Nat) id T cs,ord[j]? =some id→hp id=some (.var T cs)→∃iH,hp' j=some (.var T iH)
 dead: ∀(j:Nat) id,ord[j]? =some id→hp id=some .dead→hp' j=some .dead
 place: ∀(j:Nat) id,ord[j]? =some id→au j=β id
 nest: ∀(j:Nat) id e es aq,ord[j]? =some id→hp id=some (.nest e es aq)→hp' j=some (.nest e es (aq.map fun _=>0))
 map: ∀(j:Nat) id t es,ord[j]? =some id→hp id=some (.map t es)→hp' j=some (.map t es)
theorem lZ: ∀{l:List Nat} {n i j:Nat},iz l n i=some j→∃k,j=i+k∧l[k]? =some n
 | [],n,i,j,h=>by cases h
 | a::l,n,i,j,h=>by
  simp only[iz] at h
  cases hb:Nat.beq n a with
  | true=>
   rw[hb] at h
   cases h
   rw[aX] at hb
   exact ⟨0,rfl,by rw[hb];rfl⟩
  | false=>
   rw[hb] at h
   obtain ⟨k,h1,h2⟩:=lZ h
   exact ⟨k+1,by omega,by simpa using h2⟩
def lr (hp':Nat→Option ak) (au:Nat→Option Nat) (n:Nat) (bs:List ak):Prop:=
 ∀(k:Nat) b,bs[k]? =some b→hp' (n+k)=some b∧au (n+k)=none
theorem Lk: ∀(aq:List Nat) (k:Nat),bL (aq.map fun _=>0) k=0
 | [],_=>rfl
 | _::_,0=>rfl
 | _::vs,k+1=>Lk vs k
theorem SR {e:TypeId} {es:List V} {aq:List Nat} {path:Path} {ver:Nat} (hc:(Nat.blt 0 path.length&&(Nat.ble path.length aq.length&&Nat.beq (bL aq (path.length-1)) ver))=true)
  (h:(ak.nest e es aq).uT path ver):False:=by
 simp only[aS,ku,eL,aX] at hc
 obtain ⟨h1,h2,h3⟩:=hc
 rcases h with h|h|h
 ·subst h;simp at h1
 ·omega
 ·omega
theorem SS (S:aP P w I β hp B M w0) {ord:List Nat} (hR:xS hp β ord hp' au) {v:Value} {x:V} (hv:an P w I β hp v x):an P w I au hp' v (iA hp ord x):=by
 cases hv with
 | undef=>exact .undef
 | int=>exact .int
 | bool=>exact .bool
 | str h=>exact .str h
 | list h=>exact .list h
 | nilS=>exact .nilS
 | agg=>exact .undef
 | bm=>exact .undef
 | dF=>exact .dF
 | fn=>exact .undef
 | pref a b c=>exact .pref a b c
 | @ez _ e id aa=>
  simp only[iA]
  cases bB:iz ord id 0 with
  | none=>simp only[aa];exact .undef
  | some j=>
   obtain ⟨k,rfl,hk⟩:=lZ bB
   exact .ez (hR.dead _ id (by simpa using hk) aa)
 | @gH _ e id off len aa=>
  simp only[iA]
  cases bB:iz ord id 0 with
  | none=>simp only[aa];exact .undef
  | some j=>
   obtain ⟨k,rfl,hk⟩:=lZ bB
   exact .gH (hR.dead _ id (by simpa using hk) aa)
 | @kI _ id i c aa=>
  simp only[iA]
  cases bB:iz ord id 0 with
  | none=>exact .undef
  | some j=>
   obtain ⟨k,rfl,hk⟩:=lZ bB
   exact .kI (hR.dead _ id (by simpa using hk) aa)
 | @dY e id fz _ aa hb=>
  simp only[iA]
  cases bB:iz ord id 0 with
  | none=>
   simp only[aa]
   cases fz with
   | false=>exact .undef
   | true=>simp only[jP,cond_true];exact .list (.any fun _=>rfl)
  | some j=>
   obtain ⟨k,rfl,hk⟩:=lZ bB
   have dK:ord[0+k]? =some id:=by simpa using hk
   exact .dY (hR.arr _ id _ _ _ dK aa) ((hR.place _ id dK).trans hb)
 | @whole e id es fz b cap aa hb ba cp hm=>
  simp only[iA]
  cases bB:iz ord id 0 with
  | none=>
   simp only[aa]
   cases fz with
   | false=>exact .undef
   | true=>
    simp only[jP,cond_true]
    have hr:=S.h.rel id _ aa
    cases hr with
    | dZ aH=>rw[aH] at hb;cases hb
    | arr aE aH hh hs hf eB hx=>
     rw[hb] at aH;cases aH
     have:=uZ (I':=I) (off:=0) (len:=es.length) (o:=0) hh hx (fU aE) (by omega) cp (fun _=>by simp) (fun _ h=>h) (hf rfl)
     exact .list (by simpa using this)
  | some j=>
   obtain ⟨k,rfl,hk⟩:=lZ bB
   have dK:ord[0+k]? =some id:=by simpa using hk
   exact .whole (hR.arr _ id _ _ _ dK aa) ((hR.place _ id dK).trans hb) ba cp hm
 | @gp e id fz _ aa hb=>
  simp only[iA]
  cases bB:iz ord id 0 with
  | none=>
   simp only[aa]
   cases fz with
   | false=>exact .undef
   | true=>simp only[jP,cond_true];exact .list (by simpa using (iY.any (P:=P) fun _=>rfl))
  | some j=>
   obtain ⟨k,rfl,hk⟩:=lZ bB
   have dK:ord[0+k]? =some id:=by simpa using hk
   exact .gp (hR.arr _ id _ _ _ dK aa) ((hR.place _ id dK).trans hb)
 | @sub e id off len es fz b o cap aa hb jF cp ho=>
  simp only[iA]
  cases bB:iz ord id 0 with
  | none=>
   simp only[aa]
   cases fz with
   | false=>exact .undef
   | true=>
    simp only[jP,cond_true]
    have hr:=S.h.rel id _ aa
    cases hr with
    | dZ aH=>rw[aH] at hb;cases hb
    | arr aE aH hh hs hf eB hx=>
     rw[hb] at aH;cases aH
     exact .list (uZ (I':=I) hh hx (fU aE) jF cp ho (fun _ h=>h) (hf rfl))
  | some j=>
   obtain ⟨k,rfl,hk⟩:=lZ bB
   have dK:ord[0+k]? =some id:=by simpa using hk
   exact .sub (hR.arr _ id _ _ _ dK aa) ((hR.place _ id dK).trans hb) jF cp ho
 | @ptr id i c b blk aa hd hb=>
  simp only[iA]
  cases bB:iz ord id 0 with
  | none=>exact .undef
  | some j=>
   obtain ⟨k,rfl,hk⟩:=lZ bB
   have dK:ord[0+k]? =some id:=by simpa using hk
   cases blk with
   | dead=>exact absurd rfl hd
   | var T0 cs=>
    obtain ⟨iH,h'⟩:=hR.var _ id T0 cs dK aa
    exact .ptr (blk:= .var T0 iH) h' (by simp) ((hR.place _ id dK).trans hb)
   | arr e es fz=>exact .ptr (blk:= .arr e es fz) (hR.arr _ id _ _ _ dK aa) (by simp) ((hR.place _ id dK).trans hb)
   | nest e es aq=>exact .ptr (blk:= .nest e es (aq.map fun _=>0)) (hR.nest _ id _ _ _ dK aa) (by simp) ((hR.place _ id dK).trans hb)
   | map t es=>exact .ptr (blk:= .map t es) (hR.map _ id _ _ dK aa) (by simp) ((hR.place _ id dK).trans hb)
 | dG=>exact .dG
 | @iE _ t id aa=>
  simp only[iA]
  cases bB:iz ord id 0 with
  | none=>exact .undef
  | some j=>
   obtain ⟨k,rfl,hk⟩:=lZ bB
   exact .iE (hR.dead _ id (by simpa using hk) aa)
 | @cd t id b es aa hb=>
  simp only[iA]
  cases bB:iz ord id 0 with
  | none=>exact .undef
  | some j=>
   obtain ⟨k,rfl,hk⟩:=lZ bB
   have dK:ord[0+k]? =some id:=by simpa using hk
   exact .cd (hR.map _ id _ _ dK aa) ((hR.place _ id dK).trans hb)
 | @eH e id es aq b cap aa hb ba cp hm=>
  simp only[iA]
  cases bB:iz ord id 0 with
  | none=>simp only[aa];exact .undef
  | some j=>
   obtain ⟨k,rfl,hk⟩:=lZ bB
   have dK:ord[0+k]? =some id:=by simpa using hk
   exact .eH (hR.nest _ id _ _ _ dK aa) ((hR.place _ id dK).trans hb) ba cp hm
 | @jT v e id ver path blk aa AF=>
  simp only[iA]
  split
  ·rename_i j e1 cy aq h1 h2
   rw[aa] at h2
   cases h2
   cases hc:(Nat.blt 0 path.length&&(Nat.ble path.length aq.length&&Nat.beq (bL aq (path.length-1)) ver)) with
   | false=>exact .undef
   | true=>exact (SR hc AF).elim
  ·exact .undef
 | @jU v id ver i c path blk aa AF=>
  simp only[iA]
  split
  ·rename_i j e1 cy aq h1 h2
   rw[aa] at h2
   cases h2
   cases hc:(Nat.blt 0 path.length&&(Nat.ble path.length aq.length&&Nat.beq (bL aq (path.length-1)) ver)) with
   | false=>exact .undef
   | true=>exact (SR hc AF).elim
  ·exact .undef
 | @row v e e0 t id ver b i c q es l aq aa hb hq hv ht hc=>
  simp only[iA]
  split
  ·rename_i j e1 cy vw h1 h2
   obtain ⟨k,rfl,hk⟩:=lZ h1
   have dK:ord[0+k]? =some id:=by simpa using hk
   cases hx:(Nat.blt 0 (q++[(i,c)]).length&&(Nat.ble (q++[(i,c)]).length vw.length&&Nat.beq (bL vw ((q++[(i,c)]).length-1)) ver)) with
   | false=>exact .undef
   | true=>exact .row (hR.nest _ id _ _ _ dK aa) ((hR.place _ id dK).trans hb) (by simpa using hq) (Lk _ _) ht hc
  ·exact .undef
 | @cI e e0 t id ver b b1 len cap i0 c0 i c q es l aq aa hb hq hv ht mJ hc=>
  simp only[iA]
  split
  ·rename_i j e1 cy vw h1 h2
   obtain ⟨k,rfl,hk⟩:=lZ h1
   have dK:ord[0+k]? =some id:=by simpa using hk
   cases hx:(Nat.blt 0 (q++[(i0,c0)]).length&&(Nat.ble (q++[(i0,c0)]).length vw.length&&Nat.beq (bL vw ((q++[(i0,c0)]).length-1)) ver)) with
   | false=>exact .undef
   | true=>exact .cI (hR.nest _ id _ _ _ dK aa) ((hR.place _ id dK).trans hb) (by simpa using hq) (Lk _ _) ht mJ hc
  ·exact .undef
theorem SU (S:aP P w I β hp B M w0) {ord:List Nat} (hR:xS hp β ord hp' au) {vs:Array Value} {xs:List V} (h: ∀(j:Nat) v x,vs[j]? =some v→xs[j]? =some x→an P w I β hp v x) (j:Nat) (v:Value) (y:V)
  (hv:vs[j]? =some v) (hy:(xs.map (iA hp ord))[j]? =some y):an P w I au hp' v y:=by
 rw[eM] at hy
 cases hx:xs[j]? with
 | none=>rw[hx] at hy;cases hy
 | some x=>rw[hx] at hy;cases hy;exact SS S hR (h j v x hv hx)
theorem SV (S:aP P w I β hp B M w0) {ord:List Nat} (hR:xS hp β ord hp' au) {n:Nat} {v:Value} {x:V} (hv:an P w I β hp v x) (hF:lr hp' au n (xe hp ord n x).2):
  an P w I au hp' v (xe hp ord n x).1:=by
 cases x with
 | nilS e=>
  obtain ⟨h1,h2⟩:=hF 0 _ rfl
  cases hv with
  | nilS=>exact .dY h1 h2
 | fn f a b=>
  cases hv with
  | fn q1 q2 q3 q4=>exact .fn (by simpa using q1) (SU S hR q2) (by simpa using q3) (SU S hR q4)
 | _=>exact SS S hR hv
end
section
variable {P:Program} {A:cJ} {w w':World} {I I' I2:Nat→Prop} {μ β au:Nat→Option Nat} {hp hp':Nat→Option ak} {C:ae} {B:Nat} {M:Nat→Prop} {w0:Start}
theorem lr.left {n:Nat} {a b:List ak} (h:lr hp' au n (a++b)):lr hp' au n a:=fun k x hx=>
 h k x (by rw[kz (bA.1 hx).1];exact hx)
theorem lr.right {n:Nat} {a b:List ak} (h:lr hp' au n (a++b)):lr hp' au (n+a.length) b:=fun k x hx=>by
 have:=h (a.length+k) x (by rw[jR (by omega),Nat.add_sub_cancel_left];exact hx)
 rwa [←oJ] at this
def mX (bs:List ak):Prop:= ∀b∈bs,∃e,b= .arr e [] false
theorem mX.app {a b:List ak} (h1:mX a) (h2:mX b):mX (a++b):=fun x hx=>(er.1 hx).elim (h1 x) (h2 x)
theorem mX.nil:mX []:=fun x hx=>by simp at hx
theorem SW {ord:List Nat} {n:Nat} {x:V}:mX (xe hp ord n x).2:=by
 cases x<;>simp only[xe]<;>first|exact .nil|skip
 intro b hb
 simp only[gY] at hb
 exact ⟨_,hb⟩
theorem Ll {ord:List Nat}: ∀{xs:List V} {n:Nat},mX (nL hp ord n xs).2
 | [],n=> .nil
 | x::xs,n=>by
  simp only[nL]
  exact SW.app Ll
theorem GC {ord:List Nat}: ∀{xs:List V} {n:Nat},(nL hp ord n xs).1.length=xs.length
 | [],n=>rfl
 | x::xs,n=>by simp only[nL,List.length_cons,GC]
theorem GD (S:aP P w I β hp B M w0) {ord:List Nat} (hR:xS hp β ord hp' au): ∀{xs:List V} {vs:List Value} {n:Nat},(∀(j:Nat) v x,vs[j]? =some v→xs[j]? =some x→an P w I β hp v x)→
  lr hp' au n (nL hp ord n xs).2→∀(j:Nat) v y,vs[j]? =some v→(nL hp ord n xs).1[j]? =some y→an P w I au hp' v y
 | [],vs,n,h,hF,j,v,y,hv,hy=>by simp[nL] at hy
 | x::xs,vs,n,h,hF,j,v,y,hv,hy=>by
  simp only[nL] at hF hy
  cases j with
  | zero=>
   simp at hy
   subst hy
   exact SV S hR (h 0 v x hv rfl) hF.left
  | succ j=>
   cases vs with
   | nil=>simp at hv
   | cons v0 vs=>exact GD S hR (vs:=vs) (fun j v x hj hx=>h (j+1) v x (by simpa using hj) (by simpa using hx)) hF.right j v y (by simpa using hv) (by simpa using hy)
theorem acD {ord:List Nat} {n:Nat} {x:V}:mX (ra hp ord n x).2:=by
 cases x<;>simp only[ra]<;>first|exact SW|exact Ll
theorem acE (S:aP P w I β hp B M w0) {ord:List Nat} (hR:xS hp β ord hp' au) {n:Nat} {v:Value} {x:V} (hv:an P w I β hp v x) (hF:lr hp' au n (ra hp ord n x).2):
  an P w I au hp' v (ra hp ord n x).1:=by
 cases x with
 | agg cs=>
  obtain ⟨ds,rfl,h1,h2⟩:=hv.lj
  simp only[ra] at hF⊢
  exact .agg (by rw[GC];exact h1) fun j v y hj hy=>GD S hR (vs:=ds.toList) (fun j v x hj hx=>h2 j v x (by simpa using hj) hx) hF j v y (by simpa using hj) hy
 | bm cs=>
  obtain ⟨ds,rfl,h1,h2⟩:=hv.u7
  simp only[ra] at hF⊢
  exact .bm (by rw[GC];exact h1) fun j v y hj hy=>GD S hR (vs:=ds.toList) (fun j v x hj hx=>h2 j v x (by simpa using hj) hx) hF j v y (by simpa using hj) hy
 | _=>exact SV S hR hv hF
theorem SX {ord:List Nat} {sl:Nat→V}: ∀{l:List Nat} {n:Nat},mX (lQ hp ord sl n l).2
 | [],n=> .nil
 | s::l,n=>by
  simp only[lQ]
  exact acD.app SX
theorem SY {ord:List Nat} {sl:Nat→V} {k:Nat} {y:V}: ∀{l:List Nat} {n:Nat},lr hp' au n (lQ hp ord sl n l).2→dX (lQ hp ord sl n l).1 k=some y→
  ∃n',lr hp' au n' (ra hp ord n' (sl k)).2∧y=(ra hp ord n' (sl k)).1
 | [],n,_,h=>by cases h
 | s::l,n,hF,h=>by
  simp only[lQ] at hF h
  simp only[dX] at h
  cases hb:Nat.beq k s with
  | true=>
   rw[hb] at h
   rw[aX] at hb
   subst hb
   cases h
   exact ⟨n,hF.left,rfl⟩
  | false=>
   rw[hb] at h
   exact SY hF.right h
theorem acF {ord:List Nat} {n id:Nat}:mX (fi hp ord n id).2:=by
 unfold fi
 split
 ·exact Ll
 ·exact .nil
 ·exact .nil
 ·exact .nil
 ·exact .nil
theorem SZ {ord:List Nat}: ∀{l:List Nat} {n:Nat},mX (fT hp ord n l).2
 | [],n=> .nil
 | s::l,n=>by
  simp only[fT]
  exact acF.app SZ
theorem S3 {ord:List Nat}: ∀{l:List Nat} {n:Nat},(fT hp ord n l).1.length=l.length
 | [],n=>rfl
 | x::xs,n=>by simp only[fT,List.length_cons,S3]
theorem S4 {ord:List Nat}: ∀{l:List Nat} {n j:Nat} {id:Nat},l[j]? =some id→∃n',(lr hp' au n (fT hp ord n l).2→lr hp' au n' (fi hp ord n' id).2)∧(fT hp ord n l).1[j]? =some (fi hp ord n' id).1
 | [],n,j,id,h=>by simp at h
 | s::l,n,j,id,h=>by
  simp only[fT]
  cases j with
  | zero=>
   simp at h
   subst h
   exact ⟨n,fun hF=>hF.left,rfl⟩
  | succ j=>
   obtain ⟨n',h1,h2⟩:=S4 (n:=n+(fi hp ord n s).2.length) (j:=j) (by simpa using h)
   exact ⟨n',fun hF=>h1 hF.right,by simpa using h2⟩
theorem GF: ∀{l acc:List Nat},∃t,uN hp acc l=acc++t∧(acc.Nodup→(acc++t).Nodup)
 | [],acc=>⟨[],by simp[uN],by simp⟩
 | id::l,acc=>by
  simp only[uN]
  cases hb:(kB acc id|| !(eY hp id)) with
  | true=>exact GF
  | false=>
   obtain ⟨t,h1,h2⟩:=GF (l:=l) (acc:=acc++[id])
   refine ⟨id::t,by simp only[cond_false,h1,cY,List.singleton_append],fun hn=> ?_⟩
   have:acc++id::t=(acc++[id])++t:=by simp
   rw[this]
   refine h2 ?_
   rw[EZ]
   refine ⟨hn,by simp,fun a ha b aH=> ?_⟩
   simp only[gY] at aH
   subst aH
   intro e
   subst e
   rw[xu ha] at hb
   cases hb
theorem S5: ∀{n:Nat} {l:List Nat},∃t,grow hp n l=l++t∧(l.Nodup→(l++t).Nodup)
 | 0,l=>⟨[],by simp[grow],by simp⟩
 | n+1,l=>by
  simp only[grow]
  obtain ⟨t,h1,h2⟩:=GF (hp:=hp) (acc:=l) (l:=l.flatMap (JT hp))
  rw[h1]
  obtain ⟨t',h3,h4⟩:=S5 (n:=n) (l:=l++t)
  exact ⟨t++t',by rw[h3,cY],fun hn=>by rw[←cY];exact h4 (h2 hn)⟩
theorem acG {m:Nat} {live:List Nat} {st:St}: ∃t,JU m live st=List.range m++t∧(List.range m++t).Nodup:=by
 unfold JU
 obtain ⟨t,h1,h2⟩:=GF (hp:=st.hp) (acc:=List.range m) (l:=live.flatMap fun s=>JS (st.sl s))
 rw[h1]
 obtain ⟨t',h3,h4⟩:=S5 (hp:=st.hp) (n:=3) (l:=List.range m++t)
 exact ⟨t++t',by rw[h3,cY],by rw[←cY];exact h4 (h2 List.nodup_range)⟩
end
section
variable {P:Program} {A:cJ} {E:FuncId→Bool} {G:Nat→V} {w w':World} {I I' I2:Nat→Prop} {μ β au:Nat→Option Nat} {hp hp' hp0:Nat→Option ak} {C:ae} {B:Nat} {M:Nat→Prop} {w0:Start}
theorem S6 {n m:Nat} {ord live:List Nat} {a:Act} {st:St} (nR:ord.Nodup) (Bu: ∀id,id<m→ord[id]? =some id∨∃p,ord[id]? =some p∧st.hp p=none) (S:aP P w I β st.hp B M w0) (hA:jg P E G w I β n a st) (hE:lp w0.w w0.I μ hp0 w I β st.hp) (hm: ∀id blk,hp0 id=some blk→id<m) (jJ: ∀id e es aq,hp0 id=some (.nest e es aq)→∀k,bL aq k=0):
  ∃au,aP P w I au (xf ord live st).hp B M w0∧jg P E G w I au n a (xf ord live st)∧lp w0.w w0.I μ hp0 w I au (xf ord live st).hp:=by
 have acH:xf ord live st=mk (lQ st.hp ord st.sl (ord.length+(fT st.hp ord ord.length ord).2.length) live).1
   ((fT st.hp ord ord.length ord).1++((fT st.hp ord ord.length ord).2++(lQ st.hp ord st.sl (ord.length+(fT st.hp ord ord.length ord).2.length) live).2)):=by
  rfl
 rw[acH]
 let hp':=jS ((fT st.hp ord ord.length ord).1++((fT st.hp ord ord.length ord).2++(lQ st.hp ord st.sl (ord.length+(fT st.hp ord ord.length ord).2.length) live).2))
 let au:Nat→Option Nat:=fun j=>if j<ord.length then (ord[j]?).bind β else none
 have hlen:(fT st.hp ord ord.length ord).1.length=ord.length:=S3
 have je: ∀j,j<ord.length→hp' j=(fT st.hp ord ord.length ord).1[j]? :=by
  intro j hj
  simp only[hp',ij]
  rw[kz (by omega)]
 have ig: ∀k,hp' (ord.length+k)=((fT st.hp ord ord.length ord).2++(lQ st.hp ord st.sl (ord.length+(fT st.hp ord ord.length ord).2.length) live).2)[k]? :=by
  intro k
  simp only[hp',ij]
  rw[jR (by omega),hlen,Nat.add_sub_cancel_left]
 have hF:lr hp' au ord.length ((fT st.hp ord ord.length ord).2++(lQ st.hp ord st.sl (ord.length+(fT st.hp ord ord.length ord).2.length) live).2):=by
  intro k b hb
  refine ⟨(ig k).trans hb,?_⟩
  simp only[au]
  rw[ah (by omega)]
 have Bp:mX ((fT st.hp ord ord.length ord).2++(lQ st.hp ord st.sl (ord.length+(fT st.hp ord ord.length ord).2.length) live).2):=SZ.app SX
 have o9: ∀(j:Nat) id,ord[j]? =some id→au j=β id:=by
  intro j id hj
  simp only[au]
  rw[af (bA.1 hj).1,hj]
  rfl
 have rM: ∀(j:Nat) id,ord[j]? =some id→∃n',lr hp' au n' (fi st.hp ord n' id).2∧hp' j=some (fi st.hp ord n' id).1:=by
  intro j id hj
  obtain ⟨n',h1,h2⟩:=S4 (hp:=st.hp) (hp':=hp') (au:=au) (ord:=ord) (n:=ord.length) hj
  exact ⟨n',h1 hF.left,(je j (bA.1 hj).1).trans h2⟩
 have hR:xS st.hp β ord hp' au:=by
  refine ⟨fun j id e es fz hj aa=> ?_,fun j id T cs hj aa=> ?_,fun j id hj aa=> ?_,o9,fun j id e es aq hj aa=> ?_,fun j id t es hj aa=> ?_⟩
  ·obtain ⟨n',_,h2⟩:=rM j id hj
   rw[h2];simp only[fi,aa]
  ·obtain ⟨n',_,h2⟩:=rM j id hj
   rw[h2];simp only[fi,aa];exact ⟨_,rfl⟩
  ·obtain ⟨n',_,h2⟩:=rM j id hj
   rw[h2];simp only[fi,aa]
  ·obtain ⟨n',_,h2⟩:=rM j id hj
   rw[h2];simp only[fi,aa]
  ·obtain ⟨n',_,h2⟩:=rM j id hj
   rw[h2];simp only[fi,aa]
 have cls: ∀j blk',hp' j=some blk'→(∃id,ord[j]? =some id∧((blk'= .dead)∨∃blk,st.hp id=some blk∧blk≠ .dead∧∀o b,bG P w o blk' b→bG P w o blk b))∨(∃e,blk'= .arr e [] false∧au j=none):=by
  intro j blk' hj
  rcases eg j ord.length with h|h
  ·have gR:=bI h
   obtain ⟨n',_,h2⟩:=rM j _ gR
   rw[hj] at h2
   refine .inl ⟨_,gR,?_⟩
   cases aa:st.hp ord[j] with
   | none=>left;simp only[fi,aa] at h2;exact cX h2
   | some blk=>
    cases blk with
    | dead=>left;simp only[fi,aa] at h2;exact cX h2
    | var T0 cs=>exact .inr ⟨_,rfl,by simp,fun o b h=>by simp only[fi,aa] at h2;rw[cX h2] at h;exact .root (by simp) (h.flat (by simp))⟩
    | arr e es fz=>exact .inr ⟨_,rfl,by simp,fun o b h=>by simp only[fi,aa] at h2;rw[cX h2] at h;exact .root (by simp) (h.flat (by simp))⟩
    | map t es=>exact .inr ⟨_,rfl,by simp,fun o b h=>by simp only[fi,aa] at h2;rw[cX h2] at h;exact .root (by simp) (h.flat (by simp))⟩
    | nest e es aq=>
     refine .inr ⟨_,rfl,by simp,fun o b h=> ?_⟩
     simp only[fi,aa] at h2
     rw[cX h2] at h
     cases h with
     | root _ h=>exact .root (by simp) h
     | row h1 h2=>exact .row h1 h2
  ·obtain ⟨k,rfl⟩: ∃k,j=ord.length+k:=⟨j-ord.length,by omega⟩
   rw[ig] at hj
   obtain ⟨e,he⟩:=Bp _ (jv hj)
   exact .inr ⟨e,he,(hF k _ hj).2⟩
 refine ⟨au,⟨⟨fun j blk' hj=> ?_,fun j1 j2 b1 b2 b e1 e2 f1 f2=> ?_,fun j blk b e1 f1=> ?_,S.h.jV⟩,S.cu,S.size,S.new,S.io⟩,⟨fun k=> ?_,hA.size,hA.defers,hA.aM⟩,⟨hE.dw,hE.cu,fun id blk aa=> ?_,fun id blk blk' b aa bM hd hb=> ?_⟩⟩
 ·change hp' j=some blk' at hj
  rcases eg j ord.length with h|h
  ·have gR:=bI h
   obtain ⟨n',S7,h2⟩:=rM j _ gR
   rw[hj] at h2
   rw[o9 j _ gR]
   cases aa:st.hp ord[j] with
   | none=>simp only[fi,aa] at h2;rw[cX h2];exact .dead
   | some blk=>
    have hr:=S.h.rel _ _ aa
    generalize β ord[j]=o at hr
    cases hr with
    | dead=>simp only[fi,aa] at h2;rw[cX h2];exact .dead
    | dZ hb=>simp only[fi,aa] at h2;rw[cX h2];exact .dZ hb
    | arr a1 a2 a3 a4 a5 a6 a7=>simp only[fi,aa] at h2;rw[cX h2];exact .arr a1 a2 a3 a4 a5 a6 a7
    | nest a1 a2 a3=>simp only[fi,aa] at h2;rw[cX h2];exact .nest a1 a2 a3
    | map a1 a2 a3 a4 a5 a6 a7=>simp only[fi,aa] at h2;rw[cX h2];exact .map a1 a2 a3 a4 a5 a6 a7
    | @var xs b Ca T hb hh hs cO hx gJ=>
     simp only[fi,aa] at h2 S7
     rw[cX h2]
     exact .var hb hh (by rw[GC];exact hs) cO (fun i v y hi hy=>GD S hR (vs:=Ca.toList) (fun i v x hi cD=>hx i v x (by simpa using hi) cD) S7 i v y (by simpa using hi) hy) gJ
  ·rcases cls j blk' hj with ⟨id,aa,_⟩|⟨e,he,hb⟩
   ·have:=(bA.1 aa).1;omega
   ·rw[he];exact .dZ hb
 ·rcases cls j1 b1 e1 with ⟨Lm,o1,x1⟩|⟨e,_,hb⟩
  ·rcases cls j2 b2 e2 with ⟨cG,o2,x2⟩|⟨e,_,hb⟩
   ·obtain ⟨c1,y1,z1,g1⟩:=x1.resolve_left f1.alive
    obtain ⟨c2,y2,z2,g2⟩:=x2.resolve_left f2.alive
    rw[o9 _ _ o1] at f1
    rw[o9 _ _ o2] at f2
    have:=S.h.inj Lm cG c1 c2 b y1 y2 (g1 _ _ f1) (g2 _ _ f2)
    subst this
    obtain ⟨q1,q2⟩:=bA.1 o1
    obtain ⟨q3,q4⟩:=bA.1 o2
    exact (List.getElem_inj nR).1 (q2.trans q4.symm)
   ·subst ‹b2=_›;have:=f2.flat (by simp);rw[hb] at this;cases this
  ·subst ‹b1=_›;have:=f1.flat (by simp);rw[hb] at this;cases this
 ·rcases cls j blk e1 with ⟨Lm,o1,x1⟩|⟨e,_,hb⟩
  ·obtain ⟨c1,y1,z1,g1⟩:=x1.resolve_left f1.alive
   rw[o9 _ _ o1] at f1
   exact S.h.own Lm c1 b y1 (g1 _ _ f1)
  ·subst ‹blk=_›;have:=f1.flat (by simp);rw[hb] at this;cases this
 ·change an P w I au hp' (a.tmps.getD k undef) (jC _ k)
  unfold jC
  cases K1:dX (lQ st.hp ord st.sl (ord.length+(fT st.hp ord ord.length ord).2.length) live).1 k with
  | none=>exact .undef
  | some y=>
   obtain ⟨n',h1,h2⟩:=SY hF.right K1
   simp only[Option.getD_some,h2]
   exact acE S hR (hA.sl k) h1
 ·obtain ⟨rI,k1,k2,k3⟩:=hE.blk id blk aa
  rcases Bu id (hm id blk aa) with ho|⟨p,ho,bB⟩
  ·cases rI with
   | dead=>exact ⟨.dead,hR.dead id id ho k1,k2,fun h=>absurd rfl h⟩
   | var T0 cs=>
    obtain ⟨iH,h'⟩:=hR.var id id T0 cs ho k1
    refine ⟨_,h',?_,fun _=>(o9 id id ho).trans (k3 (by simp))⟩
    cases blk<;>simp_all [ak.le]
   | arr e es fz=>exact ⟨_,hR.arr id id e es fz ho k1,k2,fun _=>(o9 id id ho).trans (k3 (by simp))⟩
   | map t es=>exact ⟨_,hR.map id id t es ho k1,k2,fun _=>(o9 id id ho).trans (k3 (by simp))⟩
   | nest e es aq=>
    refine ⟨_,hR.nest id id e es aq ho k1,?_,fun _=>(o9 id id ho).trans (k3 (by simp))⟩
    obtain ⟨J2,aap,rfl,l1,l2,_⟩:=ak.J0 k2
    exact ⟨rfl,l1,by simpa using l2,fun k=>by rw[jJ id _ _ _ aa k];exact ju _⟩
  ·obtain ⟨n',_,h2⟩:=rM id p ho
   simp only[fi,bB] at h2
   exact ⟨.dead,h2,by cases blk<;>trivial,fun h=>absurd rfl h⟩
 ·obtain ⟨rI,k1,k2,k3⟩:=hE.blk id blk aa
  rcases Bu id (hm id blk aa) with ho|⟨p,ho,bB⟩
  ·refine hE.size id blk rI b aa k1 (fun rL=> ?_) hb
   subst rL
   have:=hR.dead id id ho k1
   change hp' id=some blk' at bM
   rw[this] at bM
   exact hd (cX bM).symm
  ·obtain ⟨n',_,h2⟩:=rM id p ho
   simp only[fi,bB] at h2
   change hp' id=some blk' at bM
   rw[h2] at bM
   exact absurd (cX bM).symm hd
theorem acI {n m:Nat} {live:List Nat} {a:Act} {st:St} (S:aP P w I β st.hp B M w0) (hA:jg P E G w I β n a st) (hE:lp w0.w w0.I μ hp0 w I β st.hp) (hm: ∀id blk,hp0 id=some blk→id<m) (jJ: ∀id e es aq,hp0 id=some (.nest e es aq)→∀k,bL aq k=0):
  ∃au,aP P w I au (canon m live st).hp B M w0∧jg P E G w I au n a (canon m live st)∧lp w0.w w0.I μ hp0 w I au (canon m live st).hp:=by
 obtain ⟨t,Bu,nR⟩:=acG (m:=m) (live:=live) (st:=st)
 refine S6 (by rw[Bu];exact nR) (fun id aY=> .inl ?_) S hA hE hm jJ
 rw[Bu,kz (by simpa using aY)]
 simp[aY]
theorem S8: ∀{l:List Nat},oR l=true→l.Nodup
 | [],_=> .nil
 | a::l,h=>by
  simp only[oR,aS,nB] at h
  rw[List.nodup_cons]
  exact ⟨fun hm=>Bool.noConfusion ((xu hm).symm.trans h.1),S8 h.2⟩
theorem acJ {m:Nat} {mv:List Nat} {id:Nat} (h:id<m):(mG m mv)[id]? =some id∨(mG m mv)[id]? =some (m+id):=by
 unfold mG
 rw[kz (by simpa using h),eM]
 simp only[z0 h,Option.map_some]
 cases kB mv id with
 | true=>exact .inr rfl
 | false=>exact .inl rfl
end
section
variable {P:Program} {A:cJ} {w w':World} {I I' I2:Nat→Prop} {μ β au:Nat→Option Nat} {hp hp' hp0:Nat→Option ak} {C:ae} {B:Nat} {M:Nat→Prop} {w0:Start}
theorem GG (p:Nat→Prop) (h: ∃n,p n): ∃n,p n∧∀m,p m→n≤m:=by
 obtain ⟨n,hn⟩:=h
 induction n using Nat.strongRecOn with
 | _ n ih=>
  by_cases hx: ∃m,m<n∧p m
  ·obtain ⟨m,hm,hp⟩:=hx
   exact ih m hm hp
  ·exact ⟨n,hn,fun m hm=>Nat.le_of_not_lt fun aY=>hx ⟨m,aY,hm⟩⟩
open Classical in
theorem acK {c:Code} {Q:Exit→Act→World→Prop} (J:Nat→Act→World→Prop) (h0: ∀a w,¬J 0 a w) (round: ∀n a w,J (n+1) a w→c.wp P (Exit.then (J n) Q) a w) {n:Nat} {a:Act} {w:World} (h:J n a w):
  (Code.loop c).wp P Q a w:=by
 refine wp_loop (fun a w=> ∃n,J n a w) (fun a w=>if h: ∃n,J n a w then (GG _ h).choose else 0) ⟨n,h⟩ fun a w hJ=> ?_
 obtain ⟨h1,h2⟩:=(GG _ hJ).choose_spec
 generalize hk:(GG _ hJ).choose=k at h1 h2
 cases k with
 | zero=>exact absurd h1 (h0 a w)
 | succ k=>
  refine wp_mono (round k a w h1) fun e a' w' he=> ?_
  cases e with
  | normal=>
   have hex: ∃n,J n a' w':=⟨k,he⟩
   refine ⟨hex,?_⟩
   have h3:=(GG _ hex).choose_spec.2 k he
   rw[oI hex,oI hJ,hk]
   omega
  | _=>exact he
def xT:Out→Exit
 | .norm=> .normal
 | .exit id=> .exit id
 | .ret=> .ret
def Inv (P:Program) (E:FuncId→Bool) (G:Nat→V) (B:Nat) (M:Nat→Prop) (w0:Start) (μ:Nat→Option Nat) (hp0:Nat→Option ak) (n:Nat) (a:Act) (w:World) (st:St):Prop:=
 ∃I β,aP P w I β st.hp B M w0∧jg P E G w I β n a st∧lp w0.w w0.I μ hp0 w I β st.hp
theorem Inv.canon {E:FuncId→Bool} {G:Nat→V} {n m:Nat} {a:Act} {st:St} {live:List Nat} (h:Inv P E G B M w0 μ hp0 n a w st) (hm: ∀id blk,hp0 id=some blk→id<m) (jJ: ∀id e es aq,hp0 id=some (.nest e es aq)→∀k,bL aq k=0):Inv P E G B M w0 μ hp0 n a w (canon m live st):=by
 obtain ⟨I,β,S,hA,hE⟩:=h
 obtain ⟨au,a,b,c⟩:=acI (live:=live) S hA hE hm jJ
 exact ⟨I,au,a,b,c⟩
theorem GH: ∀{l:List BS} {ds:List V},(eX l ds).length=l.length
 | [],_=>rfl
 | b::l,ds=>by simp only[eX,List.length_cons,GH]
theorem Inv.enter {A:cJ} {E:FuncId→Bool} {G:Nat→V} {n f:Nat} {ds:List V} {a:Act} (kP:oR (mG (A.sin f).bf.length (A.mv f))=true) (h:Inv P E G B M w0 μ hp0 n a w (bu (A.sin f) ds)) (hm: ∀id blk,hp0 id=some blk→id<(A.sin f).bf.length)
  (jJ: ∀id e es aq,hp0 id=some (.nest e es aq)→∀k,bL aq k=0) (xU: ∀p,(A.sin f).bf.length≤p→(bu (A.sin f) ds).hp p=none):Inv P E G B M w0 μ hp0 n a w (Au A f ds):=by
 unfold Au
 split
 ·exact h
 ·obtain ⟨I,β,S,hA,hE⟩:=h
  obtain ⟨au,x,y,z⟩:=S6 (m:=(A.sin f).bf.length) (ord:=mG (A.sin f).bf.length (A.mv f)) (live:=(A.sin f).bQ.map (·.1)) (S8 kP) (fun id aa=>(acJ aa).imp (fun h=>h) fun h=>⟨_,h,xU _ (by omega)⟩) S hA hE hm jJ
  exact ⟨I,au,x,y,z⟩
theorem Inv.reshape {E:FuncId→Bool} {G:Nat→V} {n m:Nat} {a:Act} {st:St} {S:Shape} {ds:List V} (h:Inv P E G B M w0 μ hp0 n a w st) (hs:iX m S st=some ds) (hm: ∀id blk,hp0 id=some blk→id<m):Inv P E G B M w0 μ hp0 n a w (bu S ds):=by
 obtain ⟨I,β,S1,hA,hE⟩:=h
 obtain ⟨r1,r2,_,r4⟩:=AM.reshape hs S1
 refine ⟨I,β,r1,⟨fun k=>r2 k _ (hA.sl k),hA.size,hA.defers,hA.aM⟩,⟨hE.dw,hE.cu,fun id blk aa=> ?_,fun id blk blk' b aa bM hd hb=> ?_⟩⟩
 ·obtain ⟨rI,k1,k2,k3⟩:=hE.blk id blk aa
  obtain ⟨_,hle,_⟩:=RL hs
  have hl:=hm id blk aa
  obtain ⟨cg,h2⟩: ∃cg,(bu S ds).hp id=some cg:=by
   simp only[bu,mk,ij]
   exact ⟨_,bI (by rw[GH];omega)⟩
  by_cases hd:cg= .dead
  ·subst hd
   exact ⟨_,h2,by cases blk<;>trivial,fun h=>absurd rfl h⟩
  ·obtain ⟨hO,e1,e2,_⟩:=r4 id cg h2 hd
   rw[k1] at e1;cases e1
   exact ⟨_,h2,ak.le_trans k2 e2,fun _=>k3 (fun e=>hd (ak.pX (e▸e2)))⟩
 ·obtain ⟨hO,e1,e2,_⟩:=r4 id blk' bM hd
  exact hE.size id blk hO b aa e1 (fun e=>hd (ak.pX (e▸e2))) hb
theorem lq.here (h:lq P A C) (f:Nat) (id:Nat):lq P (A.here f id) C:=by
 intro key ds es hh
 obtain ⟨fn,c,h1,h2,h3⟩:=h key ds es hh
 refine ⟨fn,c,h1,h2,fun w I μ vals a g b d=>(h3 w I μ vals a g b d).mono fun e w' hx=> ?_⟩
 obtain ⟨v,I2,ch,q1,q2⟩:=hx
 exact ⟨v,I2,ch,q1,⟨q2.xL,q2.le,q2.res⟩⟩
theorem acL {a b:Out} (h:Fq a b=true):a=b:=by
 cases a<;>cases b<;>simp[Fq] at h<;>first|rfl|(subst h;rfl)
theorem S9 {m:Nat} {r:Out × St}: ∀{l:List (Out × Shape)} {j:Nat} {e:Nat × List V},ways m j l r=some e→j≤e.1
 | [],j,e,h=>by cases h
 | (o,S)::l,j,e,h=>by
  simp only[ways] at h
  split at h
  ·cases h;exact aI _
  ·have:=S9 h;omega
theorem Ln {m:Nat} {o:Out} {s:St} {out:Out} {st':St}: ∀{l:List (Out × Shape)} {k:Nat} {e:Nat × List V},ways m k l (o,s)=some e→kG k l e.1 e.2 (fun o st=>some (o,st))=some (out,st')→
  out=o∧∃S,iX m S s=some e.2∧st'=bu S e.2
 | [],k,e,h,_=>by cases h
 | (o',S)::l,k,e,h,h2=>by
  simp only[ways] at h
  split at h
  ·rename_i ds hx
   cases h
   cases ho:Fq o' o with
   | false=>rw[ho] at hx;cases hx
   | true=>
    rw[ho] at hx
    have:=acL ho
    subst this
    cases l with
    | nil=>
     simp only[kG,dO,kA] at h2
     exact ⟨h2.1.symm,S,hx,h2.2.symm⟩
    | cons p l=>
     simp only[kG,jP,cond_true,dO,kA] at h2
     exact ⟨h2.1.symm,S,hx,h2.2.symm⟩
  ·have p9:=S9 h
   cases l with
   | nil=>cases h
   | cons p l=>
    have bY:Nat.beq e.1 k=false:=by
     cases hb:Nat.beq e.1 k with
     | false=>rfl
     | true=>rw[aX] at hb;omega
    simp only[kG,bY,cond_false] at h2
    exact Ln h h2
theorem acM (hC:lq P A C) (hP:jI P A) (qh:P.follows .mixedOrders=true) {f n m:Nat} (hm: ∀id blk,hp0 id=some blk→id<m) (jJ: ∀id e es aq,hp0 id=some (.nest e es aq)→∀k,bL aq k=0):
  ∀(c:Code) {st st':St} {out:Out} {Q:Exit→Act→World→Prop} {a:Act} {w:World},exec P A C f n m c st=some (out,st')→Inv P A.idle A.aM B M w0 μ hp0 n a w st→
   (∀a' w',Inv P A.idle A.aM B M w0 μ hp0 n a' w' st'→Q (xT out) a' w')→c.wp P Q a w:=by
 intro c
 induction c with
 | skip=>
  intro st st' out Q a w h hI hQ
  simp only[exec,dO,kA] at h
  obtain ⟨rfl,rfl⟩:=h
  exact wp_skip (hQ a w hI)
 | exit id=>
  intro st st' out Q a w h hI hQ
  simp only[exec,dO,kA] at h
  obtain ⟨rfl,rfl⟩:=h
  exact wp_exit (hQ a w hI)
 | ret=>
  intro st st' out Q a w h hI hQ
  simp only[exec,dO,kA] at h
  obtain ⟨rfl,rfl⟩:=h
  exact wp_ret (hQ a w hI)
 | region id ops draw=>
  intro st st' out Q a w h hI hQ
  simp only[exec] at h
  obtain ⟨jh,h1,h2⟩:=bind_some h
  simp only[dO,kA] at h2
  obtain ⟨rfl,rfl⟩:=h2
  obtain ⟨I,β,S,hA,hE⟩:=hI
  refine acB (hC.here f id) (hP.here f id) qh h1 S hA fun a' w' I' au k1 k2 k3=> ?_
  obtain ⟨I2,l1,l2,l3⟩:=SQ (m:=m) (pur:=A.pur f id) k2 k3
  have hE2:=(hE.trans k1.Gm).trans l1.Gm
  exact hQ a' w' (Inv.canon ⟨I2,au,l2,l3,hE2⟩ hm jJ)
 | seq x y gl gm=>
  intro st st' out Q a w h hI hQ
  simp only[exec] at h
  obtain ⟨⟨o1,jh⟩,h1,h2⟩:=bind_some h
  refine wp_seq (gl h1 hI fun a' w' j7=> ?_)
  cases o1 with
  | norm=>exact gm h2 j7 hQ
  | exit id=>
   simp only[dO,kA] at h2
   obtain ⟨rfl,rfl⟩:=h2
   exact hQ a' w' j7
  | ret=>
   simp only[dO,kA] at h2
   obtain ⟨rfl,rfl⟩:=h2
   exact hQ a' w' j7
 | cond c x y gl gm=>
  intro st st' out Q a w h hI hQ
  cases c with
  | tmp t=>
   have go: ∀{st st':St} {out:Out} {Q:Exit→Act→World→Prop} {a:Act} {w:World},(match st.sl t with
     | .bool b=>(bif b then exec P A C f n m x st else exec P A C f n m y st).bind fun r=>
      match r.1 with
      | .norm=>some (.norm,AM.canon m (A.join f t) r.2)
      | _=>some r
     | _=>none)=some (out,st')→Inv P A.idle A.aM B M w0 μ hp0 n a w st→(∀a' w',Inv P A.idle A.aM B M w0 μ hp0 n a' w' st'→Q (xT out) a' w')→(Code.cond (.tmp t) x y).wp P Q a w:=by
    intro st st' out Q a w h hI hQ
    cases hs:st.sl t<;>rw[hs] at h<;>simp only at h<;>first|(cases h;done)|skip
    rename_i b
    obtain ⟨⟨o1,jh⟩,h1,h2⟩:=bind_some h
    obtain ⟨I,β,S,hA,hE⟩:=hI
    have fl:a.eval (.tmp t)= .bool b:=by
     have:=Sm hA hs
     simp[Act.eval,this]
    have fin: ∀a' w',Inv P A.idle A.aM B M w0 μ hp0 n a' w' jh→Q (xT o1) a' w':=by
     intro a' w' j7
     cases o1 with
     | norm=>
      simp only[dO,kA] at h2
      obtain ⟨rfl,rfl⟩:=h2
      exact hQ a' w' (j7.canon hm jJ)
     | exit id=>
      simp only[dO,kA] at h2
      obtain ⟨rfl,rfl⟩:=h2
      exact hQ a' w' j7
     | ret=>
      simp only[dO,kA] at h2
      obtain ⟨rfl,rfl⟩:=h2
      exact hQ a' w' j7
    refine wp_cond fl ?_
    cases b with
    | true=>exact gl h1 ⟨I,β,S,hA,hE⟩ fin
    | false=>exact gm h1 ⟨I,β,S,hA,hE⟩ fin
   simp only[exec] at h
   split at h
   ·exact go h hI hQ
   ·obtain ⟨ds,h1,h2⟩:=bind_some h
    obtain ⟨e,h3,h4⟩:=bind_some h2
    obtain ⟨⟨o1,s1⟩,h5,h6⟩:=bind_some h3
    obtain ⟨rfl,S',k1,rfl⟩:=Ln h6 h4
    exact go h5 (hI.reshape h1 hm) fun a' w' j7=>hQ a' w' (j7.reshape k1 hm)
  | const v=>
   cases v with
   | bool b=>
    simp only[exec] at h
    refine wp_cond (t:=b) rfl ?_
    cases b with
    | true=>exact gl h hI hQ
    | false=>exact gm h hI hQ
   | _=>simp only[exec] at h;cases h
  | _=>simp only[exec] at h;cases h
 | block id c ih=>
  intro st st' out Q a w h hI hQ
  simp only[exec] at h
  obtain ⟨⟨o1,jh⟩,h1,h2⟩:=bind_some h
  refine wp_block (ih h1 hI fun a' w' j7=> ?_)
  cases o1 with
  | norm=>
   simp only[dO,kA] at h2
   obtain ⟨rfl,rfl⟩:=h2
   exact hQ a' w' (j7.canon hm jJ)
  | exit aL=>
   simp only at h2
   cases hb:Nat.beq aL id with
   | true=>
    rw[hb] at h2
    simp only[cond_true,dO,kA] at h2
    obtain ⟨rfl,rfl⟩:=h2
    rw[aX] at hb
    simp only[xT,Exit.inBlock,hb,iR]
    exact hQ a' w' (j7.canon hm jJ)
   | false=>
    rw[hb] at h2
    simp only[cond_false,dO,kA] at h2
    obtain ⟨rfl,rfl⟩:=h2
    have bY:aL≠id:=fun e=>by rw[e,jP] at hb;cases hb
    simp only[xT,Exit.inBlock,bY,ky]
    exact hQ a' w' j7
  | ret=>
   simp only[dO,kA] at h2
   obtain ⟨rfl,rfl⟩:=h2
   exact hQ a' w' j7
 | loop c ih=>
  intro st st' out Q a w h hI hQ
  simp only[exec] at h
  split at h
  ·cases h
  ·rename_i S hS
   obtain ⟨ds,h1,h2⟩:=bind_some h
   obtain ⟨e,h3,h4⟩:=bind_some h2
   obtain ⟨k,hk⟩:=wY h3
   refine acK (J:=fun k a w=> ∃ds,Inv P A.idle A.aM B M w0 μ hp0 n a w (bu S.1 ds)∧eV (fun ds=>lf m S.1 S.2 (exec P A C f n m c (bu S.1 ds))) k ds=some e) (fun a w ⟨s,_,h⟩=>by cases h) (fun k a w ⟨ds,hs,hk⟩=> ?_) ⟨ds,hI.reshape h1 hm,hk⟩
   simp only[eV] at hk
   obtain ⟨y,h5,h6⟩:=bind_some hk
   unfold lf at h5
   obtain ⟨⟨o1,s1⟩,h7,h8⟩:=bind_some h5
   refine ih h7 hs fun a' w' j7=> ?_
   have Ta: ∀{e':Nat × List V},ways m 0 S.2 (o1,s1)=some e'→e'=e→Q (xT o1) a' w':=by
    intro e' q1 q2
    subst q2
    obtain ⟨rfl,S',k1,rfl⟩:=Ln q1 h4
    exact hQ a' w' (j7.reshape k1 hm)
   cases o1 with
   | norm=>
    obtain ⟨ds2,q1,q2⟩:=bind_some h8
    cases q2
    exact ⟨ds2,j7.reshape q1 hm,h6⟩
   | exit id=>
    obtain ⟨e',q1,q2⟩:=bind_some h8
    cases q2
    cases h6
    exact Ta q1 rfl
   | ret=>
    obtain ⟨e',q1,q2⟩:=bind_some h8
    cases q2
    cases h6
    exact Ta q1 rfl
 | _=>intro st st' out Q a w h;simp only[exec] at h;cases h
end
section
variable {P:Program} {A:cJ} {w w':World} {I I' I2:Nat→Prop} {μ β au ch:Nat→Option Nat} {hp hp' hp0:Nat→Option ak} {C:ae} {B:Nat} {M:Nat→Prop} {w0:Start}
theorem GI (S:aP P w I β hp B M w0) {a:Act} {st:St} (hs:lg P w I β hp a st.sl): ∀{l:List ResultVar} {xs:List V} {rd:List Nat},(uQ P st l).run C hp=some (xs,rd)→
  ∃vs:List Value,(l.mapM fun| .tmp t=>Pure.pure (a.tmps.getD t undef)| .cell x t=>do loadVar t (←asAddr (a.tmps.getD x undef)):Sem (List Value)).run P w= .ok vs w∧vs.length=xs.length∧l.length=xs.length∧
   ∀(j:Nat) v x,vs[j]? =some v→xs[j]? =some x→an P w I β hp v x
 | [],xs,rd,h=>by
  cases h
  exact ⟨[],by simp,rfl,rfl,by simp⟩
 | .tmp t::l,xs,rd,h=>by
  simp only[uQ] at h
  obtain ⟨ys,l1,l2,h1,h2⟩:=lh h
  have h3:=J4 h2
  subst h3
  obtain ⟨vs,a1,a2,a3,a4⟩:=GI S hs h1
  refine ⟨a.tmps.getD t undef::vs,by simp only[List.mapM_cons,Sem.run_bind,Sem.run_pure,Result.andThen_ok,a1],by simp[a2],by simp[a3],fun j v x hj hx=> ?_⟩
  cases j with
  | zero=>simp at hj hx;subst hj;subst hx;have:=hs t;simpa using this
  | succ j=>exact a4 j v x (by simpa using hj) (by simpa using hx)
 | .cell y t::l,xs,rd,h=>by
  simp only[uQ] at h
  obtain ⟨r,l1,l2,h1,h2⟩:=lh h
  obtain ⟨ys,l3,l4,h3,h4⟩:=lh h2
  have h5:=J4 h4
  subst h5
  obtain ⟨v0,b1,b2,b3,ad,b4⟩:=QH S (hs y) h1
  obtain ⟨vs,a1,a2,a3,a4⟩:=GI S hs h3
  refine ⟨v0::vs,?_,by simp[a2],by simp[a3],fun j v x hj hx=> ?_⟩
  ·have e1:(do loadVar t (←asAddr (a.tmps.getD y undef)):Sem Value).run P w= .ok v0 w:=by
    rw[b4] at b1⊢
    simpa[Instr.loadAt,Instr.sureAddr,asAddr] using b1
   simp only[List.mapM_cons,Sem.run_bind,e1,Result.andThen_ok,a1,Sem.run_pure]
  cases j with
  | zero=>simp at hj hx;subst hj;subst hx;exact b2
  | succ j=>exact a4 j v x (by simpa using hj) (by simpa using hx)
def vF:List Value→Value
 | [v]=>v
 | l=> .tuple l.toArray
theorem acN {vs:List Value} (h:vs.length≠1):vF vs= .tuple vs.toArray:=by
 match vs,h with
 | [],_=>rfl
 | [v],h=>simp at h
 | v::v2::l,_=>rfl
theorem acO {fn:Func} {a:Act} {st:St} (S:aP P w I β st.hp B M w0) (hs:lg P w I β st.hp a st.sl) {xs:List V} {rd:List Nat} (h:(uQ P st fn.results.toList).run C st.hp=some (xs,rd)):
  ∃vs:List Value,(results fn a.tmps).run P w= .ok (vF vs) w∧vs.length=xs.length∧
   ∀(j:Nat) v x,vs[j]? =some v→xs[j]? =some x→an P w I β st.hp v x:=by
 obtain ⟨vs,a1,a2,_,a4⟩:=GI S hs h
 refine ⟨vs,?_,a2,a4⟩
 unfold results
 rw[Array.mapM_eq_mapM_toList]
 simp only[map_eq_pure_bind,bind_assoc,pure_bind,Sem.run_bind]
 refine (congrArg (fun r:Result (List Value)=>r.andThen _) a1).trans ?_
 simp only[Result.andThen_ok,Sem.run_pure]
 match vs with
 | []=>simp[vF]
 | [v]=>simp[vF]
 | v::v2::l=>simp[vF]
theorem Tb: ∀{args:List V} {i k:Nat},dX (nM i args) k=if i≤k then args[k-i]? else none
 | [],i,k=>by simp[nM,dX]
 | v::vs,i,k=>by
  simp only[nM,dX]
  cases hb:Nat.beq k i with
  | true=>
   rw[aX] at hb
   subst hb
   simp
  | false=>
   have bY:k≠i:=fun e=>by rw[e,jP] at hb;cases hb
   simp only[cond_false,Tb]
   by_cases h:i≤k
   ·rw[af (by omega),af h]
    obtain ⟨d,rfl⟩: ∃d,k=i+1+d:=⟨k-(i+1),by omega⟩
    rw[show i+1+d-(i+1)=d by omega,show i+1+d-i=d+1 by omega]
    rfl
   ·rw[ah (by omega),ah h]
theorem Lo: ∀{l:List (Nat × VS)} {ds:List V} {i k:Nat},iB i l=true→dX (fE l ds) k=if i≤k then (fR (l.map (·.2)) ds)[k-i]? else none
 | [],ds,i,k,_=>by simp[fE,fR,dX]
 | (q,s)::l,ds,i,k,h=>by
  simp only[iB,aS,aX] at h
  obtain ⟨rfl,h⟩:=h
  simp only[fE,dX,jw,fR]
  cases hb:Nat.beq k q with
  | true=>
   rw[aX] at hb
   subst hb
   simp
  | false=>
   have bY:k≠q:=fun e=>by rw[e,jP] at hb;cases hb
   simp only[cond_false]
   rw[Lo h]
   by_cases h:q≤k
   ·rw[af (by omega),af h]
    obtain ⟨d,rfl⟩: ∃d,k=q+1+d:=⟨k-(q+1),by omega⟩
    rw[show q+1+d-(q+1)=d by omega,show q+1+d-q=d+1 by omega]
    rfl
   ·rw[ah (by omega),ah h]
theorem Tc: ∀{l:List (Nat × VS)} {ds:List V},(fE l ds).map (·.2)=fR (l.map (·.2)) ds
 | [],_=>rfl
 | (q,s)::l,ds=>by simp only[fE,jw,fR,Tc]
theorem Lp: ∀{l:List VS} {ds:List V},(fR l ds).length=l.length
 | [],_=>rfl
 | s::l,ds=>by simp only[fR,List.length_cons,Lp]
theorem Td: ∀{l:List (Nat × VS)} {ds:List V},(fE l ds).length=l.length
 | [],_=>rfl
 | (q,s)::l,ds=>by simp only[fE,List.length_cons,Td]
theorem acP {vals:List Value} {l:List (Nat × V)} (hl:vals.length=l.length) (h: ∀(j:Nat) v y,vals[j]? =some v→(l.map (·.2))[j]? =some y→an P w I β hp v y):an P w I β hp (vF vals) (pV l):=by
 match l,hl,h with
 | [],hl,h=>
  obtain rfl:vals=[]:=nA hl
  exact .bm rfl fun j v x _ hx=>by simp at hx
 | [(k,y)],hl,h=>
  match vals,hl,h with
  | [v],_,h=>exact h 0 v y rfl rfl
 | a::b::l,hl,h=>
  have bY:vals.length≠1:=by rw[hl];simp
  rw[acN bY]
  simp only[pV]
  exact .bm (by simp[hl]) fun j v y hj hy=>h j v y (by simpa using hj) hy
theorem acQ {l:List BS} {ds:List V} {j:Nat} {e:TypeId} {es:List V} {aq:List Nat} (h:(eX l ds)[j]? =some (.nest e es aq)) (k:Nat):bL aq k=0:=by
 obtain ⟨b,fH,_,h2⟩:=K6 h
 cases b<;>simp only[gk] at h2<;>cases h2
 match k with
 | 0=>rfl
 | 1=>rfl
 | 2=>rfl
 | _+3=>rfl
theorem acR {f n m:Nat} {fn:Func} {a:Act} {st:St} {es:List V} {rd:List Nat} (hm: ∀id blk,hp0 id=some blk→id<m) (jJ: ∀id e es aq,hp0 id=some (.nest e es aq)→∀k,bL aq k=0)
  (hI:Inv P A.idle A.aM B M w0 μ hp0 n a w st) (pb:iB 0 (A.fP f).bQ=true) (ba:(A.fP f).bQ.length=fn.results.size) (h:(uR P A f fn m st).run C st.hp=some (es,rd)):
  ∃v I2 ch,(results fn a.tmps).run P w= .ok v w∧aP P w I2 ch (bu (A.so f es) (A.lv f es)).hp B M w0∧lp w0.w w0.I μ hp0 w I2 ch (bu (A.so f es) (A.lv f es)).hp∧an P w I2 ch (bu (A.so f es) (A.lv f es)).hp v (pV (fE (A.so f es).bQ (A.lv f es))):=by
 unfold uR at h
 obtain ⟨xs,l1,l2,h1,h2⟩:=lh h
 obtain ⟨I,β,S,hA,hE⟩:=hI
 obtain ⟨vals,e1,e2,e3⟩:=acO S hA.sl h1
 have e4:fn.results.size=xs.length:=by
  obtain ⟨_,_,_,q,_⟩:=GI S hA.sl h1
  simpa using q
 have fin: ∀(Sx:Shape) (es:List V),iB 0 Sx.bQ=true→Sx.bQ.length=fn.results.size→iX m Sx (canon m (List.range xs.length) (freeze m (A.uJ f) ⟨jC (nM 0 xs),st.hp,st.nb⟩))=some es→
   ∃v I2 ch,(results fn a.tmps).run P w= .ok v w∧aP P w I2 ch (bu Sx es).hp B M w0∧lp w0.w w0.I μ hp0 w I2 ch (bu Sx es).hp∧an P w I2 ch (bu Sx es).hp v (pV (fE Sx.bQ es)):=by
  intro Sx es pb ba vG
  have hA0:jg P A.idle A.aM w I β vals.length ⟨vals.toArray,[]⟩ ⟨jC (nM 0 xs),st.hp,st.nb⟩:=by
   refine ⟨fun k=> ?_,by simp,by simp,hA.aM⟩
   change an P w I β st.hp _ (jC (nM 0 xs) k)
   unfold jC
   rw[Tb]
   simp only[ju,iR,Nat.sub_zero]
   cases hk:xs[k]? with
   | none=>exact .undef
   | some x=>
    have lV:k<vals.length:=by rw[e2];exact (bA.1 hk).1
    have:=e3 k vals[k] x (bI lV) hk
    have e5:(vals.toArray).getD k undef=vals[k]:=by simp[lV]
    rw[Option.getD_some]
    exact e5▸this
  obtain ⟨I2,k1,k2,k3⟩:=SQ (st:=⟨jC (nM 0 xs),st.hp,st.nb⟩) (m:=m) (pur:=A.uJ f) S hA0
  have hI2:Inv P A.idle A.aM B M w0 μ hp0 vals.length ⟨vals.toArray,[]⟩ w (freeze m (A.uJ f) ⟨jC (nM 0 xs),st.hp,st.nb⟩):=⟨I2,β,k2,k3,hE.trans k1.Gm⟩
  obtain ⟨I3,Te,q1,q2,q3⟩:=(hI2.canon (live:=List.range xs.length) hm jJ).reshape vG hm
  refine ⟨vF vals,I3,Te,e1,q1,q3,acP (by rw[Td,ba,e4,e2]) fun j v y hj hy=> ?_⟩
  have hv:=q2.sl j
  have c6:=(bA.1 hj).1
  have e5:(vals.toArray).getD j undef=v:=by
   have:=(bA.1 hj).2
   simp[c6,this]
  change an P w I3 Te _ ((vals.toArray).getD j undef) (jC (fE Sx.bQ _) j) at hv
  rw[e5] at hv
  unfold jC at hv
  rw[Lo pb] at hv
  simp only[ju,iR,Nat.sub_zero] at hv
  rw[Tc] at hy
  rw[hy] at hv
  exact hv
 unfold cJ.so cJ.lv
 cases cw:A.alt f with
 | none=>
  rw[cw] at h2
  simp only at h2⊢
  split at h2
  ·rename_i fH vG
   have:=aU h2
   subst this
   exact fin _ _ pb ba vG
  ·cases h2
 | some S2=>
  rw[cw] at h2
  simp only at h2⊢
  split at h2
  ·rename_i fH vG
   have:=aU h2
   subst this
   exact fin _ _ pb ba vG
  ·split at h2
   ·rename_i fH vG
    obtain ⟨hc,h3⟩:=aQ h2
    simp only[aS,aX] at hc
    have:=aU h3
    subst this
    exact fin _ _ hc.1 hc.2 vG
   ·cases h2
theorem acS (hC:lq P A C) (hP:jI P A) (qh:P.follows .mixedOrders=true):lq P A (oT P A C):=by
 intro f ds es h
 unfold oT at h
 cases hf:P.funcs[A.bd f]? with
 | none=>rw[hf] at h;cases h
 | some fn=>
  rw[hf] at h
  simp only at h
  cases hb:fn.body with
  | none=>rw[hb] at h;cases h
  | some c=>
   rw[hb] at h
   simp only at h
   cases hc:(iB 0 (A.sin f).bQ&&(Nat.ble (A.sin f).bQ.length fn.ntmps&&((A.sin f).ok&&(iB 0 (A.fP f).bQ&&(Nat.beq (A.fP f).bQ.length fn.results.size&&oR (mG (A.sin f).bf.length (A.mv f))))))) with
   | false=>rw[hc] at h;cases h
   | true=>
    rw[hc] at h
    simp only[cond_true] at h
    simp only[aS,aX,eL] at hc
    obtain ⟨kN,hnt,_,xQ,ba,kP⟩:=hc
    obtain ⟨⟨out,st'⟩,h1,h2⟩:=bind_some h
    refine ⟨fn,c,rfl,hb,fun w I μ vals hH hgl hl hv=> ?_⟩
    have acT:(∀id,out≠ .exit id)∧∃rd,(uR P A f fn (A.sin f).bf.length st').run C st'.hp=some (es,rd):=by
     cases out with
     | exit id=>cases h2
     | norm=>
      refine ⟨by simp,?_⟩
      simp only[zZ] at h2
      obtain ⟨⟨x,rd⟩,e1,e2⟩:=h2
      simp only at e2
      subst e2
      exact ⟨rd,e1⟩
     | ret=>
      refine ⟨by simp,?_⟩
      simp only[zZ] at h2
      obtain ⟨⟨x,rd⟩,e1,e2⟩:=h2
      simp only at e2
      subst e2
      exact ⟨rd,e1⟩
    obtain ⟨bY,rd,KW⟩:=acT
    refine calls_of_wp_defers hf hb ?_
    have hm: ∀id blk,(bu (A.sin f) ds).hp id=some blk→id<(A.sin f).bf.length:=by
     intro id blk aa
     simp only[bu,mk,ij] at aa
     have:=(bA.1 aa).1
     rwa [GH] at this
    have jJ: ∀id e es aq,(bu (A.sin f) ds).hp id=some (.nest e es aq)→∀k,bL aq k=0:=by
     intro id e es aq aa k
     simp only[bu,mk,ij] at aa
     exact acQ aa k
    refine acM (w0:=⟨w,I⟩) (μ:=μ) (hp0:=(bu (A.sin f) ds).hp) (B:=w.heap.size) (M:=o8 P w μ (bu (A.sin f) ds).hp) hC hP qh hm jJ c h1 ?_ ?_
    ·refine Inv.enter kP ?_ hm jJ fun p hp=>by
      simp only[bu,mk,ij]
      rw[List.getElem?_eq_none_iff,GH]
      exact hp
     refine ⟨I,μ,⟨hH,fun _ _ _=>rfl,aI _,fun b h=> .inl h,⟨rfl,rfl⟩⟩,⟨fun k=> ?_,?_,by simp,hgl⟩,(Le.refl (P:=P) w I μ _).Gm⟩
     ·change an P w I μ _ _ (jC (fE (A.sin f).bQ ds) k)
      unfold jC
      rw[Lo kN]
      simp only[ju,iR,Nat.sub_zero]
      cases hk:(fR ((A.sin f).bQ.map (·.2)) ds)[k]? with
      | none=>exact .undef
      | some x=>
       have lV:k<vals.length:=by
        have:=(bA.1 hk).1
        rw[Lp,cM] at this
        rw[hl];exact this
       have:=hv k vals[k] x (bI lV) hk
       have e1:(vals.toArray++Array.replicate (fn.ntmps-vals.toArray.size) undef).getD k undef=vals[k]:=by
        simp[Array.getElem?_append,lV]
       rw[Option.getD_some]
       exact e1▸this
     ·simp
      omega
    ·intro a' w' hI
     obtain ⟨v,I2,ch,q1,q2,q3,q4⟩:=acR hm jJ hI xQ ba KW
     obtain ⟨_,_,_,hA,_⟩:=hI
     cases out with
     | exit id=>exact absurd rfl (bY id)
     | norm=>exact Lc hP q1 ⟨v,I2,ch,rfl,q2,q3,q4⟩ _ hA.defers
     | ret=>exact Lc hP q1 ⟨v,I2,ch,rfl,q2,q3,q4⟩ _ hA.defers
theorem Tf (hP:jI P A) (qh:P.follows .mixedOrders=true): ∀n,lq P A (kH P A n)
 | 0=>fun _ _ _ h=>by cases h
 | n+1=>acS (Tf hP qh n) hP qh
theorem acU (hP:jI P A) (qh:P.follows .mixedOrders=true):lq P A (Call P A):=by
 intro f ds es h
 have hn: ∃n,kH P A n f ds=some es:=by
  unfold Call at h
  split at h
  ·rename_i hex
   have:=hex.choose_spec.choose_spec
   rw[cX h] at this
   exact ⟨_,this⟩
  ·cases h
 obtain ⟨n,hn⟩:=hn
 exact Tf hP qh n f ds es hn
end
section
variable {P:Program} {A:cJ} {C:ae} {D:Nat→ae}
def Bv (C:ae) (D:Nat→ae):Prop:= ∀f a r,C f a=some r→∃n,∀k,n≤k→D k f a=some r
theorem rN {α:Type} (h:Bv C D) {hp:Nat→Option ak}: ∀{p:Rd α} {r:α × List Nat},p.run C hp=some r→∃n,∀k,n≤k→p.run (D k) hp=some r
 | .ret a,r,e=>⟨0,fun _ _=>e⟩
 | .fail,r,e=>by cases e
 | .get id q,r,e=>by
  obtain ⟨x,h1,h2⟩:=bind_some e
  obtain ⟨n,hn⟩:=rN h h1
  exact ⟨n,fun k hk=>by simp only[Rd.run,hn k hk,Option.bind_some];exact h2⟩
 | .opt o q,r,e=>by
  obtain ⟨x,h1,h2⟩:=bind_some e
  obtain ⟨n,hn⟩:=rN h h2
  exact ⟨n,fun k hk=>by simp only[Rd.run,h1,Option.bind_some];exact hn k hk⟩
 | .aK b q,r,e=>by
  obtain ⟨h1,h2⟩:=aQ e
  obtain ⟨n,hn⟩:=rN h h2
  exact ⟨n,fun k hk=>by simp only[Rd.run,h1,cond_true];exact hn k hk⟩
 | .call f a q,r,e=>by
  obtain ⟨x,h1,h2⟩:=bind_some e
  obtain ⟨n1,kN⟩:=h f a x h1
  obtain ⟨n2,xQ⟩:=rN h h2
  exact ⟨max n1 n2,fun k hk=>by simp only[Rd.run,kN k (by omega),Option.bind_some];exact xQ k (by omega)⟩
 | .alt true x y,r,e=>rN (p:=x) h e
 | .alt false x y,r,e=>rN (p:=y) h e
theorem acV (h:Bv C D) {n i nb:Nat} {ops:Array Oper} {o:Oper} {st:St} {r:St × List Nat × List Nat} (e:hG P A C n ops i o nb st=some r): ∃N,∀k,N≤k→hG P A (D k) n ops i o nb st=some r:=by
 unfold hG at e
 have go:(((fS P A st.sl i (nb+64*i) o).run C st.hp).bind fun r=>some ((⟨iy st.sl o.dst r.1.v,bX st.hp r.1.upd,st.nb⟩:St),r.2,r.1.upd.map (·.1)))=some r→
   ∃N,∀k,N≤k→(((fS P A st.sl i (nb+64*i) o).run (D k) st.hp).bind fun r=>some ((⟨iy st.sl o.dst r.1.v,bX st.hp r.1.upd,st.nb⟩:St),r.2,r.1.upd.map (·.1)))=some r:=by
  intro e
  obtain ⟨x,h1,h2⟩:=bind_some e
  obtain ⟨N,hN⟩:=rN h h1
  exact ⟨N,fun k hk=>by rw[hN k hk];exact h2⟩
 unfold hG
 cases hd:tt o n with
 | false=>rw[hd] at e;cases e
 | true=>
  rw[hd] at e
  simp only[cond_true] at e⊢
  cases hg:o.guard with
  | none=>rw[hg] at e;exact go e
  | some gw=>
   obtain ⟨g,want⟩:=gw
   rw[hg] at e
   simp only at e⊢
   cases lY:(ops[g]?).bind (·.dst) with
   | none=>rw[lY] at e;cases e
   | some d=>
    rw[lY] at e
    simp only at e⊢
    cases mW:lN (st.sl d) with
    | none=>rw[mW] at e;cases e
    | some ob=>
    rw[mW] at e
    cases ob with
    | none=>exact ⟨0,fun _ _=>e⟩
    | some b=>
    simp only at e⊢
    cases hb:b==want with
    | true=>rw[hb] at e;exact go e
    | false=>rw[hb] at e;exact ⟨0,fun _ _=>e⟩
theorem Tg (h:Bv C D) {n nb:Nat} {ops:Array Oper}: ∀{l:List (Nat × Oper)} {st:St} {log:Log} {r:St × Log},pW P A C n ops nb l st log=some r→∃N,∀k,N≤k→pW P A (D k) n ops nb l st log=some r
 | [],st,log,r,e=>⟨0,fun _ _=>e⟩
 | (i,o)::l,st,log,r,e=>by
  obtain ⟨x,h1,h2⟩:=bind_some e
  obtain ⟨N1,pc⟩:=acV h h1
  obtain ⟨N2,rO⟩:=Tg h h2
  exact ⟨max N1 N2,fun k hk=>by simp only[pW,pc k (by omega),Option.bind_some];exact rO k (by omega)⟩
theorem Th {X R:Type} {step:X→Option (X ⊕ R)} {stepD:Nat→X→Option (X ⊕ R)} (hs: ∀x y,step x=some y→∃N,∀k,N≤k→stepD k x=some y): ∀(n:Nat) (x:X) (r:R),eV step n x=some r→∃N,∀k,N≤k→eV (stepD k) n x=some r
 | 0,x,r,e=>by cases e
 | n+1,x,r,e=>by
  simp only[eV] at e⊢
  obtain ⟨y,h1,h2⟩:=bind_some e
  obtain ⟨N1,pc⟩:=hs x y h1
  cases y with
  | inl z=>
   obtain ⟨N2,rO⟩:=Th hs n z r h2
   exact ⟨max N1 N2,fun k hk=>by rw[pc k (by omega)];exact rO k (by omega)⟩
  | inr q=>exact ⟨N1,fun k hk=>by rw[pc k hk];exact h2⟩
theorem acW (h:Bv C D) {f n m:Nat}: ∀(c:Code) {st:St} {r:Out × St},exec P A C f n m c st=some r→∃N,∀k,N≤k→exec P A (D k) f n m c st=some r:=by
 intro c
 induction c with
 | skip=>exact fun e=>⟨0,fun _ _=>e⟩
 | exit id=>exact fun e=>⟨0,fun _ _=>e⟩
 | ret=>exact fun e=>⟨0,fun _ _=>e⟩
 | region id ops draw=>
  intro st r e
  simp only[exec] at e⊢
  obtain ⟨x,h1,h2⟩:=bind_some e
  obtain ⟨y,h3,h4⟩:=bind_some h1
  obtain ⟨N,hN⟩:=Tg h h3
  refine ⟨N,fun k hk=> ?_⟩
  have:xg P (A.here f id) (D k) n ops draw st=some x:=by
   unfold xg
   rw[hN k hk]
   exact h4
  rw[this]
  exact h2
 | seq x y gl gm=>
  intro st r e
  simp only[exec] at e⊢
  obtain ⟨⟨o,s1⟩,h1,h2⟩:=bind_some e
  obtain ⟨N1,pc⟩:=gl h1
  cases o with
  | norm=>
   obtain ⟨N2,rO⟩:=gm h2
   exact ⟨max N1 N2,fun k hk=>by rw[pc k (by omega)];exact rO k (by omega)⟩
  | exit id=>exact ⟨N1,fun k hk=>by rw[pc k hk];exact h2⟩
  | ret=>exact ⟨N1,fun k hk=>by rw[pc k hk];exact h2⟩
 | cond c x y gl gm=>
  intro st r e
  cases c with
  | tmp t=>
   have go: ∀{st:St} {r:Out × St},(match st.sl t with
     | .bool b=>(bif b then exec P A C f n m x st else exec P A C f n m y st).bind fun r=>
      match r.1 with
      | .norm=>some (.norm,canon m (A.join f t) r.2)
      | _=>some r
     | _=>none)=some r→∃N,∀k,N≤k→(match st.sl t with
     | .bool b=>(bif b then exec P A (D k) f n m x st else exec P A (D k) f n m y st).bind fun r=>
      match r.1 with
      | .norm=>some (.norm,canon m (A.join f t) r.2)
      | _=>some r
     | _=>none)=some r:=by
    intro st r e
    cases hs:st.sl t<;>rw[hs] at e<;>simp only at e⊢ <;>first|(cases e;done)|skip
    rename_i b
    obtain ⟨x1,h1,h2⟩:=bind_some e
    cases b with
    | true=>
     obtain ⟨N,hN⟩:=gl h1
     exact ⟨N,fun k hk=>by simp only[cond_true,hN k hk,Option.bind_some];exact h2⟩
    | false=>
     obtain ⟨N,hN⟩:=gm h1
     exact ⟨N,fun k hk=>by simp only[cond_false,hN k hk,Option.bind_some];exact h2⟩
   simp only[exec] at e⊢
   split at e
   ·rename_i hS
    obtain ⟨N,hN⟩:=go e
    exact ⟨N,fun k hk=>hN k hk⟩
   ·rename_i S hS
    obtain ⟨ds,h1,h2⟩:=bind_some e
    obtain ⟨e',h3,h4⟩:=bind_some h2
    obtain ⟨r1,h5,h6⟩:=bind_some h3
    obtain ⟨N,hN⟩:=go h5
    refine ⟨N,fun k hk=> ?_⟩
    try rw[hS]
    simp only[h1,Option.bind_some]
    exact (congrArg (fun z:Option (Out × St)=>(z.bind fun r=>ways m 0 S.2 r).bind fun e=>kG 0 S.2 e.1 e.2 fun o st=>some (o,st)) (hN k hk)).trans (by simp only[Option.bind_some,h6];exact h4)
  | const v=>
   cases v with
   | bool b=>
    simp only[exec] at e⊢
    cases b with
    | true=>exact gl e
    | false=>exact gm e
   | _=>simp only[exec] at e;cases e
  | _=>simp only[exec] at e;cases e
 | block id c ih=>
  intro st r e
  simp only[exec] at e⊢
  obtain ⟨x1,h1,h2⟩:=bind_some e
  obtain ⟨N,hN⟩:=ih h1
  exact ⟨N,fun k hk=>by rw[hN k hk];exact h2⟩
 | loop c ih=>
  intro st r e
  simp only[exec] at e⊢
  split at e
  ·cases e
  ·rename_i S hS
   obtain ⟨ds,h1,h2⟩:=bind_some e
   obtain ⟨e',h3,h4⟩:=bind_some h2
   obtain ⟨q,hq⟩:=wY h3
   obtain ⟨N,hN⟩:=Th (stepD:=fun k ds=>lf m S.1 S.2 (exec P A (D k) f n m c (bu S.1 ds))) (fun x y Bw=>by
    unfold lf at Bw⊢
    obtain ⟨z,h5,h6⟩:=bind_some Bw
    obtain ⟨N,hN⟩:=ih h5
    exact ⟨N,fun k hk=>by rw[hN k hk];exact h6⟩) q ds e' hq
   refine ⟨N,fun k hk=> ?_⟩
   try rw[hS]
   simp only[h1,Option.bind_some]
   rw[wX (hN k hk)]
   exact h4
 | _=>intro st r e;simp only[exec] at e;cases e
theorem GJ (h:Bv C D) {f:Nat} {ds es:List V} (e:oT P A C f ds=some es): ∃N,∀k,N≤k→oT P A (D k) f ds=some es:=by
 unfold oT at e⊢
 cases hf:P.funcs[A.bd f]? with
 | none=>rw[hf] at e;cases e
 | some fn=>
  rw[hf] at e
  simp only at e⊢
  cases hb:fn.body with
  | none=>rw[hb] at e;cases e
  | some c=>
   rw[hb] at e
   simp only at e⊢
   cases hc:(iB 0 (A.sin f).bQ&&(Nat.ble (A.sin f).bQ.length fn.ntmps&&((A.sin f).ok&&(iB 0 (A.fP f).bQ&&(Nat.beq (A.fP f).bQ.length fn.results.size&&oR (mG (A.sin f).bf.length (A.mv f))))))) with
   | false=>rw[hc] at e;cases e
   | true=>
    rw[hc] at e
    simp only[cond_true] at e⊢
    obtain ⟨⟨o,s1⟩,h1,h2⟩:=bind_some e
    obtain ⟨N1,pc⟩:=acW h c h1
    cases o with
    | exit id=>cases h2
    | norm=>
     simp only[zZ] at h2
     obtain ⟨x,e1,e2⟩:=h2
     obtain ⟨N2,rO⟩:=rN h e1
     exact ⟨max N1 N2,fun k hk=>by rw[pc k (by omega)];simp only[Option.bind_some,rO k (by omega),Option.map_some,e2]⟩
    | ret=>
     simp only[zZ] at h2
     obtain ⟨x,e1,e2⟩:=h2
     obtain ⟨N2,rO⟩:=rN h e1
     exact ⟨max N1 N2,fun k hk=>by rw[pc k (by omega)];simp only[Option.bind_some,rO k (by omega),Option.map_some,e2]⟩
theorem Ti: ∀n f a r,kH P A n f a=some r→kH P A (n+1) f a=some r
 | 0,f,a,r,h=>by cases h
 | n+1,f,a,r,h=>by
  obtain ⟨N,hN⟩:=GJ (C:=kH P A n) (D:=fun _=>kH P A (n+1)) (fun f a r h=>⟨0,fun _ _=>Ti n f a r h⟩) h
  exact hN N (aI _)
theorem Lq {n k:Nat} (hk:n≤k) {f:Nat} {a r:List V} (h:kH P A n f a=some r):kH P A k f a=some r:=by
 induction hk with
 | refl=>exact h
 | step _ ih=>exact Ti _ _ _ _ ih
theorem Bx {f:Nat} {a r:List V}:Call P A f a=some r↔∃n,kH P A n f a=some r:=by
 constructor
 ·intro h
  unfold Call at h
  split at h
  ·rename_i hex
   have:=hex.choose_spec.choose_spec
   rw[cX h] at this
   exact ⟨_,this⟩
  ·cases h
 ·rintro ⟨n,hn⟩
  have hex: ∃n r,kH P A n f a=some r:=⟨n,r,hn⟩
  unfold Call
  rw[oI hex]
  have h2:=hex.choose_spec.choose_spec
  have h3:=Lq (Nat.le_max_left n hex.choose) hn
  have h4:=Lq (Nat.le_max_right n hex.choose) h2
  rw[h3] at h4
  exact h4.symm
theorem acX (f:Nat) (a:List V):Call P A f a=oT P A (Call P A) f a:=by
 apply Option.ext
 intro r
 constructor
 ·intro h
  obtain ⟨n,hn⟩:=Bx.1 h
  cases n with
  | zero=>cases hn
  | succ n=>
   obtain ⟨N,hN⟩:=GJ (C:=kH P A n) (D:=fun _=>Call P A) (fun f a r h=>⟨0,fun _ _=>Bx.2 ⟨n,h⟩⟩) hn
   exact hN N (aI _)
 ·intro h
  obtain ⟨N,hN⟩:=GJ (C:=Call P A) (D:=kH P A) (fun f a r h=>by
   obtain ⟨n,hn⟩:=Bx.1 h
   exact ⟨n,fun k hk=>Lq hk hn⟩) h
  exact Bx.2 ⟨N+1,hN N (aI _)⟩
end
end Go.AM
namespace Go.AM
open Go.ChangeShapes Go.WideShapes Go.RowKit
section
variable (P:Program)
inductive WT:TypeId→V→Prop
 | int {t:TypeId} {k:IntKind} {n:Int}:P.underlying t=some (.int k)→(Lit.int k n).wf=true→WT t (.int k n)
 | bool {t:TypeId} {b:Bool}:P.underlying t=some .bool→WT t (.bool b)
 | str {t:TypeId} {l:List UInt8}:P.underlying t=some .string→l.length≤maxLen→WT t (.str l)
 | list {t e:TypeId} {es:List V}:P.underlying t=some (.slice e)→es.length≤maxLen→
   (∀(i:Nat) x,es[i]? =some x→bP P e=true→∃xs,x= .agg xs∧xs.length=(a9 P e).length)→
   (∀(i j:Nat) x t',es[i]? =some x→(a9 P e)[j]? =some t'→WT t' (bS P e x j))→WT t (.list e es)
def gF (t:TypeId) (x:V):Prop:=
 (bP P t=true→∃xs,x= .agg xs∧xs.length=(a9 P t).length)∧∀(j:Nat) t',(a9 P t)[j]? =some t'→WT P t' (bS P t x j)
def uw:List TypeId→List V→Prop
 | [],[]=>True
 | t::ts,x::xs=>gF P t x∧uw ts xs
 | _,_=>False
def hasB (L:List TypeId) (t:TypeId):Bool:=L.any fun u=>Nat.beq u t
def GK (L:List TypeId):Nat→List Field→Bool
 | _,[]=>true
 | n,f::fs=>hasB L f.type&&(Nat.beq f.offset n&&(Nat.beq (P.cellsOf f.type) (a9 P f.type).length&&GK L (n+P.cellsOf f.type) fs))
def By:List Nat→List Nat→Bool
 | [],[]=>true
 | a::l,b::m=>Nat.beq a b&&By l m
 | _,_=>false
def Lr (L:List TypeId) (t:TypeId):Bool:=
 Nat.beq (P.cellsOf t) (a9 P t).length&&
 match P.underlying t with
 | some (.int _)=>true
 | some .bool=>true
 | some .string=>true
 | some (.slice e)=>hasB L e&&cP P e
 | some (.struct fs)=>GK P L 0 fs.toList&&By (flat P t) (fs.toList.flatMap fun f=>a9 P f.type)
 | some (.array n e)=>hasB L e&&(Nat.beq (P.cellsOf e) (a9 P e).length&&By (flat P t) (List.replicate n (a9 P e)).flatten)
 | _=>false
def GL (L:List TypeId):Bool:=L.all fun t=>Lr P L t
end
theorem GM {L:List TypeId} {t:TypeId} (h:hasB L t=true):t∈L:=by
 obtain ⟨u,hu,h2⟩:=qT.1 h
 rw[aX] at h2
 exact h2▸hu
theorem Ls: ∀{l m:List Nat},By l m=true→l=m
 | [],[],_=>rfl
 | a::l,b::m,h=>by
  simp only[By,aS,aX] at h
  rw[h.1,Ls h.2]
 | [],_::_,h=>by cases h
 | _::_,[],h=>by cases h
section
variable {P:Program} {H:Type} {enc:TypeId × Value→H} {w:World} {base:Nat} {spare:Nat→Bool} {held:Bool} {L:List TypeId}
def oc (w:World):Nat→Prop:=fun b=>b<w.heap.size
def od (P:Program) (w:World) (ts:List TypeId) (cs:List Value) (xs:List V):Prop:=
 cs.length=ts.length∧xs.length=ts.length∧∀(j:Nat) t',ts[j]? =some t'→∃v y,cs[j]? =some v∧xs[j]? =some y∧Pure P w (oc w) t' v y∧WT P t' y
theorem od.app {ts xc:List TypeId} {cs iH:List Value} {xs Tj:List V} (h:od P w ts cs xs) (h':od P w xc iH Tj):od P w (ts++xc) (cs++iH) (xs++Tj):=by
 obtain ⟨a,b,c⟩:=h
 obtain ⟨a',b',c'⟩:=h'
 refine ⟨by simp[a,a'],by simp[b,b'],fun j t' hj=> ?_⟩
 by_cases aY:j<ts.length
 ·rw[kz aY] at hj
  obtain ⟨v,y,e1,e2,e3⟩:=c j t' hj
  exact ⟨v,y,by rw[kz (by omega)];exact e1,by rw[kz (by omega)];exact e2,e3⟩
 ·rw[jR (by omega)] at hj
  obtain ⟨v,y,e1,e2,e3⟩:=c' _ t' hj
  exact ⟨v,y,by rw[jR (by omega),a];exact e1,by rw[jR (by omega),b];exact e2,e3⟩
theorem acY {w:World} {a:Addr} {v:Value} (h:w.cell? a=some v):a.spot=none∧a.block<w.heap.size:=by
 unfold World.cell? at h
 split at h
 ·rename_i hh
  split at h
  ·cases h
  ·rename_i hs
   exact ⟨by simpa using hs,(iu.1 hh).1⟩
 all_goals (first|cases h|skip)
theorem Tk {rd:TypeId→List Value→Option (DataW H × List MemPlace)} (cs:List Value)
  (ih: ∀t cs x,t∈L→rd t cs=some x→∃xs,od P w (a9 P t) cs xs): ∀(fs:List Field) (n:Nat),GK P L n fs=true→
  (∀f∈fs,∃x,rd f.type ((cs.drop f.offset).take (P.cellsOf f.type))=some x)→∃m xs,n≤m∧od P w (fs.flatMap fun f=>a9 P f.type) ((cs.drop n).take (m-n)) xs∧m-n=(fs.flatMap fun f=>a9 P f.type).length
 | [],n,_,_=>⟨n,[],aI _,⟨by simp,rfl,by simp⟩,by simp⟩
 | f::fs,n,h,hx=>by
  simp only[GK,aS,aX] at h
  obtain ⟨h1,h2,h3,h4⟩:=h
  obtain ⟨x,hxf⟩:=hx f (by simp)
  obtain ⟨xs,gS⟩:=ih _ _ _ (GM h1) hxf
  obtain ⟨m,ys,hm,rQ,tL⟩:=Tk cs ih fs (n+P.cellsOf f.type) h4 fun g hg=>hx g (by simp[hg])
  refine ⟨m,xs++ys,by omega,?_,by simp only[List.flatMap_cons,dD];omega⟩
  have:=gS.app rQ
  rw[List.flatMap_cons]
  rw[h2] at this
  have e:(cs.drop n).take (m-n)=(cs.drop n).take (P.cellsOf f.type)++(cs.drop (n+P.cellsOf f.type)).take (m-(n+P.cellsOf f.type)):=by
   rw[show m-n=P.cellsOf f.type+(m-(n+P.cellsOf f.type)) by omega,List.take_add,List.drop_drop]
  rw[e]
  exact this
theorem Tl {rd:List Value→Option (DataW H × List MemPlace)} (cs:List Value) {e:TypeId} (hs:P.cellsOf e=(a9 P e).length)
  (ih: ∀cs x,rd cs=some x→∃xs,od P w (a9 P e) cs xs): ∀(n:Nat),
  (∀i,i<n→∃x,rd ((cs.drop (i*P.cellsOf e)).take (P.cellsOf e))=some x)→∃xs,od P w (List.replicate n (a9 P e)).flatten (cs.take (n*P.cellsOf e)) xs
 | 0,_=>⟨[],by simp,rfl,by simp⟩
 | n+1,hx=>by
  obtain ⟨xs,gS⟩:=Tl cs hs ih n fun i hi=>hx i (by omega)
  obtain ⟨x,Bo⟩:=hx n (by omega)
  obtain ⟨ys,rQ⟩:=ih _ _ Bo
  refine ⟨xs++ys,?_⟩
  rw[List.replicate_succ',List.flatten_append]
  have:=gS.app rQ
  rw[ee,Nat.one_mul,List.take_add]
  simpa using this
theorem GN (hL:GL P L=true): ∀(fuel:Nat) (t:TypeId) (cs:List Value) (x:DataW H × List MemPlace),t∈L→DataW.trod enc P w base spare held fuel t cs=some x→
  ∃xs,od P w (a9 P t) cs xs
 | 0,_,_,_,_,h=>by cases h
 | fuel+1,t,cs,x,ht,h=>by
  have hg:=fO.1 hL t ht
  unfold Lr at hg
  rw[aS,aX] at hg
  obtain ⟨hc,hg⟩:=hg
  have one:bP P t=false→a9 P t=[t]:=fun h=>by simp[a9,h]
  cases hu:P.underlying t with
  | none=>rw[hu] at hg;cases hg
  | some d=>
   rw[hu] at hg
   cases d with
   | int k=>
    obtain ⟨n,rfl,rfl,hwf⟩:=DataW.trod_int hu h
    rw[one (by simp[bP,hu])]
    exact ⟨[.int k n],rfl,rfl,fun j t' hj=>by
     cases j with
     | zero=>cases hj;exact ⟨_,_,rfl,rfl,.int hu,.int hu hwf⟩
     | succ j=>simp at hj⟩
   | bool=>
    obtain ⟨b,rfl,rfl⟩:=DataW.trod_bool hu h
    rw[one (by simp[bP,hu])]
    exact ⟨[.bool b],rfl,rfl,fun j t' hj=>by
     cases j with
     | zero=>cases hj;exact ⟨_,_,rfl,rfl,.bool hu,.bool hu⟩
     | succ j=>simp at hj⟩
   | string=>
    obtain ⟨s,rfl,rfl,hl⟩:=DataW.trod_string hu h
    rw[one (by simp[bP,hu])]
    exact ⟨[.str s.data.toList],rfl,rfl,fun j t' hj=>by
     cases j with
     | zero=>cases hj;exact ⟨_,_,rfl,rfl,.str hu rfl,.str hu (by simpa using hl)⟩
     | succ j=>simp at hj⟩
   | slice e=>
    simp only[aS] at hg
    obtain ⟨he,aE⟩:=hg
    rw[one (by simp[bP,hu])]
    have single: ∀v y,cs=[v]→Pure P w (oc w) t v y→WT P t y→∃xs,od P w [t] cs xs:=by
     rintro v y rfl a b
     exact ⟨[y],rfl,rfl,fun j t' hj=>by
      cases j with
      | zero=>cases hj;exact ⟨_,_,rfl,rfl,a,b⟩
      | succ j=>simp at hj⟩
    rcases DataW.trod_slice hu h with ⟨rfl,rfl⟩|⟨a,len,cap,elems,rest,n,hn,rfl,rfl,hb,hl,hm,hlen,cR,_,_⟩
    ·exact single _ _ rfl (.nil hu) (.list hu (by simp) (by simp) (by simp))
    ·cases hn
     have iZ:=(kK aE).2
     have Rf:P.cellsOf e=(a9 P e).length:=(fU aE).symm
     have key: ∀i,i<len→∃iH xs,w.cells? base (a.add (i*P.cellsOf e)) (P.cellsOf e)=some iH∧od P w (a9 P e) iH xs:=by
      intro i hi
      have h1:=cR i hi
      rw[bI (by omega)] at h1
      obtain ⟨iH,h2,h3⟩:=Option.bind_eq_some_iff.1 h1
      obtain ⟨xs,gS⟩:=GN hL fuel e iH _ (GM he) h3
      exact ⟨iH,xs,h2,gS⟩
     by_cases h0:len=0
     ·subst h0
      exact single _ _ rfl (.emp hu) (.list hu (by simp) (by simp) (by simp))
     ·have ln:a.spot=none∧a.block<w.heap.size:=by
       obtain ⟨iH,xs,h2,_⟩:=key 0 (by omega)
       obtain ⟨_,h3,h4⟩:=World.cells?_some h2
       have h5:=h4 0 iZ
       rw[bI (by omega)] at h5
       have:=acY h5
       simpa[Addr.add] using this
      have hF: ∃(F:Nat→List Value) (X:Nat→List V),∀i,i<len→w.cells? base (a.add (i*P.cellsOf e)) (P.cellsOf e)=some (F i)∧od P w (a9 P e) (F i) (X i):=by
       refine ⟨fun i=>if hi:i<len then (key i hi).choose else [],fun i=>if hi:i<len then (key i hi).choose_spec.choose else [],fun i hi=> ?_⟩
       simp only[oI hi]
       exact (key i hi).choose_spec.choose_spec
      obtain ⟨F,X,Lt⟩:=hF
      have hx: ∀(i j:Nat) y t',((List.range len).map fun i=>cC P e (X i))[i]? =some y→(a9 P e)[j]? =some t'→i<len∧∃v,(F i)[j]? =some v∧Pure P w (oc w) t' v (bS P e y j)∧WT P t' (bS P e y j):=by
       intro i j y t' hy hj
       have hi:i<len:=by
        have:=(bA.1 hy).1
        simpa using this
       refine ⟨hi,?_⟩
       simp[z0 hi] at hy
       obtain ⟨c1,c2,c3⟩:=(Lt i hi).2
       obtain ⟨v,z,d1,d2,d3,d4⟩:=c3 j t' hj
       have:bS P e y j=z:=by
        rw[←hy]
        unfold bS cC
        cases ha:bP P e with
        | true=>
         simp only[cond_true,V.cell]
         rw[va _ _ _ d2]
        | false=>
         simp only[cond_false]
         have:a9 P e=[e]:=by simp[a9,ha]
         rw[this] at hj
         cases j with
         | zero=>rw[va _ _ _ d2]
         | succ j=>simp at hj
       rw[this]
       exact ⟨v,d1,d3,d4⟩
      have gI: ∀i j,i<len→j<P.cellsOf e→w.cell? ⟨a.block,a.off+(i*P.cellsOf e+j),none⟩=some ((F i).getD j undef):=by
       intro i j hi hj
       obtain ⟨h1,h2⟩:=Lt i hi
       obtain ⟨_,h3,h4⟩:=World.cells?_some h1
       have h5:=h4 j hj
       rw[Go.Deep.add_add] at h5
       have e1:a.add (i*P.cellsOf e+j)=⟨a.block,a.off+(i*P.cellsOf e+j),none⟩:=by
        obtain ⟨b,o,s⟩:=a
        simp only at ln
        rw[ln.1]
        exact nT ..
       rw[e1] at h5
       rw[h5,nF,bI (by omega)]
       rfl
      have ha:a=⟨a.block,a.off,none⟩:=by
       obtain ⟨b,o,s⟩:=a
       simp only at ln
       rw[ln.1]
      refine single (.slice (some a) len cap) (.list e ((List.range len).map fun i=>cC P e (X i))) rfl ?_ ?_
      ·rw[ha]
       refine .list (fun i j=>(F i).getD j undef) hu (by simp) hl (fun _=>ln.2) gI ?_
       intro i j y t' hy hj
       obtain ⟨hi,v,d1,d2,_⟩:=hx i j y t' hy hj
       rw[nF,d1]
       exact d2
      ·refine .list hu (by simp;omega) ?_ ?_
       ·intro i y hy GO
        have hi:i<len:=by
         have:=(bA.1 hy).1
         simpa using this
        simp[z0 hi] at hy
        rw[←hy]
        exact ⟨X i,by simp[cC,GO],(Lt i hi).2.2.1⟩
       ·intro i j y t' hy hj
        obtain ⟨_,v,_,_,d3⟩:=hx i j y t' hy hj
        exact d3
   | struct fs=>
    simp only[aS] at hg
    obtain ⟨xs,n,hn,rfl,hlen,kO,hx⟩:=DataW.trod_struct hu h
    cases hn
    have het:a9 P t=fs.toList.flatMap fun f=>a9 P f.type:=by
     rw[←Ls hg.2]
     simp[a9,bP,hu]
    obtain ⟨m,ys,_,rQ,hm⟩:=Tk (w:=w) (rd:=fun t cs=>DataW.trod enc P w base spare held fuel t cs) cs (fun t cs x a b=>GN hL fuel t cs x a b) fs.toList 0 hg.1 (by
     intro f hf
     obtain ⟨i,hi⟩:=sZ hf
     rw[s6] at hi
     have rE:i<fs.size:=(iu.1 hi).1
     exact ⟨_,(hx i f hi).trans (bI (by omega))⟩)
    rw[het]
    refine ⟨ys,?_⟩
    have:(cs.drop 0).take (m-0)=cs:=by
     rw[jQ,hm,←het,←hc,←hlen,sX]
    rw[this] at rQ
    exact rQ
   | array n e=>
    simp only[aS,aX] at hg
    obtain ⟨xs,m,hn,rfl,hlen,kO,hx⟩:=DataW.trod_array hu h
    cases hn
    have het:a9 P t=(List.replicate n (a9 P e)).flatten:=by
     rw[←Ls hg.2.2]
     simp[a9,bP,hu]
    obtain ⟨ys,rQ⟩:=Tl (w:=w) (rd:=DataW.trod enc P w base spare held fuel e) cs hg.2.1 (fun cs x b=>GN hL fuel e cs x (GM hg.1) b) n (by
     intro i hi
     exact ⟨_,(hx i hi).trans (bI (by omega))⟩)
    rw[het]
    refine ⟨ys,?_⟩
    have:cs.take (n*P.cellsOf e)=cs:=by
     have:n*P.cellsOf e=cs.length:=by
      rw[hlen,hc,het,hg.2.1]
      simp
     rw[this,sX]
    rw[this] at rQ
    exact rQ
   | _=>cases hg
end
section
variable {P:Program} {H:Type} {enc:TypeId × Value→H} {w:World} {L:List TypeId}
theorem acZ {base Lu:Nat} {spare:Nat→Bool} {held:Bool} {r:Reach} {β:Nat→Option Nat} {hp:Nat→Option ak} (hL:GL P L=true) {t:TypeId} {v:Value} {d:DataW H} {ps:List MemPlace} (ht:t∈L) (fN:Value.okWide P w r Lu t v)
  (h:DataW.Trod enc P w base spare held t v d ps): ∃x,an P w (oc w) β hp v x∧gF P t x:=by
 obtain ⟨fuel,hf⟩:=h
 obtain ⟨xs,c1,c2,c3⟩:=GN hL fuel t _ _ ht hf
 have hg:=fO.1 hL t ht
 unfold Lr at hg
 rw[aS,aX] at hg
 obtain ⟨_,hg⟩:=hg
 have GO:bP P t=true→∃x,an P w (oc w) β hp v x∧gF P t x:=by
  intro ha
  have hv: ∃cs,v= .agg cs:=by
   unfold Value.okWide at fN
   unfold bP at ha
   split at fN
   ·obtain ⟨cs,e,_⟩:=fN;exact ⟨cs,e⟩
   ·obtain ⟨cs,e,_⟩:=fN;exact ⟨cs,e⟩
   ·split at ha<;>simp_all
  obtain ⟨cs,rfl⟩:=hv
  refine ⟨.agg xs,.agg (by simpa[Value.cells] using c1.trans c2.symm) fun j v x hv hx=> ?_,fun _=>⟨xs,rfl,c2⟩,fun j t' hj=> ?_⟩
  ·have hj:j<(a9 P t).length:=by rw[←c2];exact (bA.1 hx).1
   obtain ⟨v',y,e1,e2,e3,_⟩:=c3 j _ (bI hj)
   rw[hx] at e2
   cases e2
   have:cs[j]? =some v':=by simpa[Value.cells] using e1
   rw[hv] at this
   cases this
   exact .rh e3
  ·obtain ⟨v',y,e1,e2,_,e4⟩:=c3 j t' hj
   have:bS P t (.agg xs) j=y:=by
    simp only[bS,ha,cond_true,V.cell]
    exact va _ _ _ e2
   rw[this]
   exact e4
 have rB:bP P t=false→v.cells= #[v]→∃x,an P w (oc w) β hp v x∧gF P t x:=by
  intro ha vg
  have he:a9 P t=[t]:=by simp[a9,ha]
  rw[he] at c1 c2 c3
  obtain ⟨v',y,e1,e2,e3,e4⟩:=c3 0 t rfl
  rw[vg] at e1
  cases e1
  refine ⟨y,.rh e3,⟨fun h=>absurd (ha.symm.trans h) (by simp),fun j t' hj=> ?_⟩⟩
  rw[he] at hj
  cases j with
  | succ j=>simp at hj
  | zero=>
   cases hj
   simpa[bS,ha] using e4
 unfold Value.okWide at fN
 cases hu:P.underlying t with
 | none=>rw[hu] at hg;cases hg
 | some dsc=>
  rw[hu] at hg fN
  cases dsc with
  | int k=>
   refine rB (by simp[bP,hu]) ?_
   simp only[Cell.okWide,Cell.ok,hu] at fN
   cases v<;>first|rfl|(simp at fN;done)|exact fN.elim
  | bool=>
   refine rB (by simp[bP,hu]) ?_
   simp only[Cell.okWide,Cell.ok,hu] at fN
   cases v<;>first|rfl|(simp at fN;done)|exact fN.elim
  | string=>
   refine rB (by simp[bP,hu]) ?_
   simp only[Cell.okWide,Cell.ok,hu] at fN
   cases v<;>first|rfl|(simp at fN;done)|exact fN.elim
  | slice e=>
   refine rB (by simp[bP,hu]) ?_
   simp only[Cell.okWide,Cell.ok,hu] at fN
   cases v<;>first|rfl|(simp at fN;done)|exact fN.elim
  | struct fs=>exact GO (by simp[bP,hu])
  | array n e=>exact GO (by simp[bP,hu])
  | _=>cases hg
theorem Tm {base Lu:Nat} {spare:Nat→Bool} {held:Bool} {r:Reach} {β:Nat→Option Nat} {hp:Nat→Option ak} (hL:GL P L=true): ∀{ts:List TypeId} {vs:List Value} {ds:List (DataW H)} {ps:List MemPlace},
  (∀t∈ts,t∈L)→(∀(j:Nat) t v,ts[j]? =some t→vs[j]? =some v→Value.okWide P w r Lu t v)→DataW.TrodAll enc P w base spare held ts vs ds ps→
  ∃xs,vs.length=xs.length∧(∀(j:Nat) v x,vs[j]? =some v→xs[j]? =some x→an P w (oc w) β hp v x)∧uw P ts xs
 | [],vs,ds,ps,_,_,h=>by
  obtain ⟨rfl,rfl,rfl⟩:=trodAll_nil h
  exact ⟨[],rfl,by simp,trivial⟩
 | t::ts,vs,ds,ps,hm,fN,h=>by
  obtain ⟨v,Fu,d,Tn,a,b,rfl,rfl,rfl,h1,h2⟩:=trodAll_cons h
  obtain ⟨x,Bo,nX⟩:=acZ (β:=β) (hp:=hp) hL (hm t (by simp)) (fN 0 t v rfl rfl) h1
  obtain ⟨xs,hl,hr,hw⟩:=Tm (β:=β) (hp:=hp) hL (fun t ht=>hm t (by simp[ht])) (fun j t v a b=>fN (j+1) t v (by simpa using a) (by simpa using b)) h2
  refine ⟨x::xs,by simp[hl],fun j v' x' hv hx=> ?_,nX,hw⟩
  cases j with
  | zero=>cases hv;cases hx;exact Bo
  | succ j=>exact hr j v' x' (by simpa using hv) (by simpa using hx)
theorem To {base:Nat} {spare:Nat→Bool} {held:Bool}: ∀{ts:List TypeId} {vs:List Value} {ds:List (DataW H)} {ps:List MemPlace},DataW.TrodAll enc P w base spare held ts vs ds ps→ds.length=ts.length
 | [],vs,ds,ps,h=>by obtain ⟨rfl,rfl,rfl⟩:=trodAll_nil h;rfl
 | t::ts,vs,ds,ps,h=>by
  obtain ⟨v,Fu,d,Tn,a,b,rfl,rfl,rfl,h1,h2⟩:=trodAll_cons h
  simp[To h2]
theorem Tp {base:Nat} (hl:laidOutB P=true) {W W':World} {Tq:Nat→Bool}: ∀{ts:List TypeId} {vs:List Value} {ds:List (DataW H)} {ps:List MemPlace},(∀t∈ts,P.readableRec t=true∧t<P.types.size)→
  DataW.TrodAll enc P W base (fun _=>true) true ts vs ds ps→(∀p∈ps,W.sameAt W' p)→(∀p∈ps,Tq p.block=true)→DataW.TrodAll enc P W' base Tq true ts vs ds ps
 | [],vs,ds,ps,_,h,_,_=>by obtain ⟨rfl,rfl,rfl⟩:=trodAll_nil h;exact trodAll_mk0
 | t::ts,vs,ds,ps,hr,h,h1,h2=>by
  obtain ⟨v,Fu,d,Tn,a,b,rfl,rfl,rfl,h3,h4⟩:=trodAll_cons h
  obtain ⟨r1,r2⟩:=hr t (by simp)
  exact trodAll_cons_mk (WideElems.Trod_stays hl r1 r2 h3 (fun p hp=>h1 p (by simp[hp])) (fun p hp=>h2 p (by simp[hp])))
   (Tp hl (fun t ht=>hr t (by simp[ht])) h4 (fun p hp=>h1 p (by simp[hp])) (fun p hp=>h2 p (by simp[hp])))
theorem ac0 {f:Func} {s:ChangeSpec} {apart fresh handsOn again:Bool} {W W':World} {args:Array Value} {v:Value} {ds gs:List (DataW H)} {before pa pv:List MemPlace}
  (hW:DataW.Whole enc P f.params.toList s.vars apart W args.toList ds gs before)
  (Tr: ∀(b:Nat) (sp:Nat→Bool) (hd:Bool),DataW.TrodAll enc P W' b sp hd f.resultTypes.toList (v.resultList f.resultTypes.size) (s.fn H (ds++gs)).results [])
  (vA: ∀sp:Nat→Bool,(∀p∈before,sp p.block=true)→DataW.TrodAll enc P W' 0 sp true f.params.toList args.toList (s.fn H (ds++gs)).args pa)
  (Ts: ∀sp:Nat→Bool,(∀p∈before,sp p.block=true)→DataW.TrodVars enc P W' sp s.vars (s.fn H (ds++gs)).vars pv)
  (GP:before=pa++pv) (hk:W.keptBut W' (· ∈before)) (Tt: ∀a:Addr,a.block<W.heap.size→W'.frozen? a=W.frozen? a)
  (aE: ∀(j:Nat) (t:TypeId) (r:Value),f.resultTypes[j]? =some t→(v.resultList f.resultTypes.size)[j]? =some r→Value.okWide P W' .any 0 t r):
  s.post enc P f apart fresh handsOn again W args v W':=by
 have hold: ∀p∈before,(fun b=>decide (b<W.heap.size)) p.block=true:=fun p hp=>by simpa using hW.lt p hp
 refine ⟨ds,gs,before,[],pa,pv,hW,Tr _ _ _,vA _ hold,Ts _ hold,World.keptBut_mono (fun p hp=>⟨hp,?_⟩) hk,fun _=> ?_⟩
 ·rw[GP,er] at hp
  exact Or.inr hp
 ·have aY:=hW.lt
  obtain ⟨_,_,_,_,_,hz,hn⟩:=hW
  refine ⟨aE,_,_,([]++pa)++pv,⟨[]++pa,pv,trodAll_append (vA _ (fun _ _=>rfl)) (Tr _ _ _),Ts _ (fun _ _=>rfl),rfl,?_,?_⟩,?_⟩
  ·intro b off hp
   have hb:MemPlace.cell b off∈before:=by rw[GP];simpa using hp
   rw[Tt ⟨b,off,none⟩ (aY _ hb)]
   exact hz b off hb
  ·intro ha
   have:=hn ha
   rw[GP] at this
   simpa using this
  ·intro p hp _
   rw[GP]
   simpa using hp
theorem aag {A:cJ} (hP:jI P A) (qh:P.follows .mixedOrders=true) {f key:Nat} {fn:Func} {tb:TypeId} {s:ChangeSpec} {apart fresh handsOn again:Bool}
  (hf:P.funcs[f]? =some fn) (ac1:A.bd key=f) (hL:GL P L=true) (fV:fn.params.toList.all (fun t=>hasB L t)=true) (Tu:fn.resultTypes= #[tb]) (Tv:P.underlying tb=some .bool) (Tw:s.vars=[])
  (hs: ∀ds:List (DataW H),ds.length=fn.params.toList.length→s.fn H ds={results:=[.lit (.bool true)],args:=ds})
  (ac2:laidOutB P=true) (ac3:fn.params.toList.all (fun t=>P.readableRec t&&Nat.blt t P.types.size)=true)
  (fw:(A.sin key).bf=[]) (aE:((A.sin key).bQ.map (·.2)).all (VS.ok 0)=true) (ac4:(A.fP key).bQ=[(0,.one .bool)]) (halt:A.alt key=none)
  (ac5: ∀xs,uw P fn.params.toList xs→∃ds,sV ((A.sin key).bQ.map (·.2)) xs=some ds∧Call P A key ds=some [.bool true])
  {W:World} {base:Nat} {args:Array Value} {ds gs:List (DataW H)} {before:List MemPlace}
  (ac6:hY P A.aM W (oc W)) (fN: ∀(j:Nat) t v,fn.params[j]? =some t→args[j]? =some v→Value.okWide P W .any base t v)
  (hW:DataW.Whole enc P fn.params.toList s.vars apart W args.toList ds gs before):
  Calls P f args W fun e W'=> ∃v,e= .returned v∧s.post enc P fn apart fresh handsOn again W args v W':=by
 have Tx:=hW
 obtain ⟨p,q,hA,hV,rfl,Tt,kP⟩:=hW
 rw[Tw] at hV
 obtain ⟨hgs,hq⟩:gs=[]∧q=[]:=by
  cases gs with
  | nil=>exact ⟨rfl,hV⟩
  | cons g gs=>exact hV.elim
 subst hgs
 subst hq
 obtain ⟨xs,hl,hr,hwt⟩:=Tm (β:=fun _=>none) (hp:=fun _=>none) hL (fun t ht=>GM (fO.1 fV t ht)) (fun j t v a b=>fN j t v (by simpa using a) (by simpa using b)) hA
 obtain ⟨ls,hls,Bm⟩:=ac5 xs hwt
 obtain ⟨fn',c,h1,h2,h3⟩:=acU (A:=A) hP qh key ls [.bool true] Bm
 rw[ac1] at h1 h3
 rw[hf] at h1
 cases h1
 have xU: ∀j,(bu (A.sin key) ls).hp j=none:=fun j=>by simp[bu,mk,fw,eX,jS]
 obtain ⟨_,r1,r2⟩:=Bd (P:=P) (w:=W) (I:=oc W) (n:=0) (β:=fun _=>none) (au:=fun _=>none) (hp:=fun _=>none) (hp':=(bu (A.sin key) ls).hp) (fun j hj=>absurd hj (Nat.not_lt_zero j)) hls aE
 have hlen:((A.sin key).bQ.map (·.2)).length=xs.length:=by rw[←r1 [],Lp]
 have h4:=h3 W (oc W) (fun _=>none) args.toList ⟨fun id blk h=>(by rw[xU] at h;cases h),fun id aL blk blk' b h=>(by rw[xU] at h;cases h),fun id blk b h=>(by rw[xU] at h;cases h),fun b h=>h⟩ ac6
  (by rw[hl,←hlen,cM]) (fun j v y hv hy=>r2 [] j v y (fun x hx=>hr j v x hv hx) (by rw[iS];exact hy))
 have ea:args.toList.toArray=args:=by simp
 rw[ea] at h4
 refine h4.mono fun e W' ⟨v,I2,ch,he,ha⟩=>⟨v,he,?_⟩
 have vd: ∀b,b<W.heap.size→W'.heap[b]? =W.heap[b]? :=fun b hb=>ha.xL.cu b hb (by rintro ⟨j,blk,hj,_⟩;rw[xU] at hj;cases hj)
 have KI:=ha.res
 have Tz:A.so key [.bool true]=A.fP key∧A.lv key [.bool true]=[.bool true]:=by unfold cJ.so cJ.lv;rw[halt];exact ⟨rfl,rfl⟩
 rw[Tz.1,Tz.2,ac4] at KI
 obtain rfl:v= .bool true:=KI.jX
 have jZ:Value.okWide P W' .any 0 tb (.bool true):=by simp[Value.okWide,Tv,Cell.okWide,Cell.ok]
 have lK:ds.length=fn.params.toList.length:=To hA
 have jf: ∀p'∈p++[],W.sameAt W' p':=by
  intro p' hp'
  have aY:=Tx.lt p' hp'
  cases p' with
  | cell b o=>exact World.cell?_of_block (w:=W) (vd b aY)
  | map b=>exact vd b aY
 refine ac0 (pa:=p) (pv:=[]) Tx ?_ ?_ ?_ rfl ?_ ?_ ?_
 ·intro b sp hd
  rw[iS,hs ds lK,Tu]
  exact trodAll_mk1 ⟨1,by simp[DataW.trod,Value.cells,Tv]⟩
 ·intro sp ln
  rw[iS,hs ds lK]
  refine Tp ac2 (fun t ht=> ?_) hA (fun p' hp'=>jf p' (by simpa using hp')) (fun p' hp'=>ln p' (by simpa using hp'))
  have:=fO.1 ac3 t ht
  simp only[aS] at this
  exact ⟨this.1,by simpa[ku] using this.2⟩
 ·intro sp ln
  rw[Tw,iS,hs ds lK]
  exact rfl
 ·refine ⟨ha.xL.io.1,ha.xL.io.2,fun i hi=> ?_⟩
  rw[vd i hi]
  split<;>simp_all
 ·intro a aY
  exact World.frozen?_of_block (w:=W) (vd a.block aY)
 ·intro j t r hj Lv
  rw[Tu] at hj Lv
  cases j with
  | zero=>
   simp[Value.resultList] at hj Lv
   subst hj
   subst Lv
   exact jZ
  | succ j=>simp at hj
end
end Go.AM
namespace Go.AM
@[simp] theorem V.toInt_int (k:IntKind) (n:Int):V.toInt (.int k n)=n:=by cases k<;>rfl
@[simp] theorem V.j8 (b:Bool):V.toBool (.bool b)=b:=by cases b<;>rfl
@[simp] theorem V.ac7 (s:List UInt8):V.toStr (.str s)=s:=by cases s<;>rfl
@[simp] theorem V.oe (e:TypeId) (es:List V):V.toList (.list e es)=es:=by cases es<;>rfl
@[simp] theorem V.ap5 (e:TypeId) (es:List V):V.toList (.own e es)=es:=by cases es<;>rfl
@[simp] theorem V.ac8 (cs:List V) (j:Nat):V.cell (.agg cs) j=V.nth cs j:=by cases cs<;>rfl
@[simp] theorem V.ap6 (cs:List V) (j:Nat):V.comp (.bm cs) j=V.nth cs j:=by cases cs<;>rfl
@[simp] theorem V.cq (x:V) (l:List V):V.nth (x::l) 0=x:=by cases l<;>rfl
@[simp] theorem V.rR (x:V) (l:List V) (n:Nat):V.nth (x::l) (n+1)=V.nth l n:=by cases l<;>rfl
@[simp] theorem V.ap7 (x y:V) (l:List V):V.nth (x::y::l) 1=y:=by cases l<;>rfl
@[simp] theorem V.ap8 (x y z:V) (l:List V):V.nth (x::y::z::l) 2=z:=by cases l<;>rfl
@[simp] theorem V.ap9 (x y z u:V) (l:List V):V.nth (x::y::z::u::l) 3=u:=by cases l<;>rfl
theorem wrap64 {x:Int} (h1: -9223372036854775808≤x) (h2:x<9223372036854775808):IntKind.wrap .i64 x=x:=by
 rw[IntKind.wrap_i64];omega
theorem Lw {x:Int} (h1:0≤x) (h2:x<256):IntKind.wrap .u8 x=x:=by
 rw[IntKind.wrap_u8];omega
theorem Lx {es:List V} {i:Int} {n:Nat} (h:i=n):idx es i=es[n]? :=by
 subst h;simp[idx]
theorem ac9 {α:Type} {f:α→V} {l:List α} {i:Int} {n:Nat} (h:i=n) (hn:n<l.length):idx (l.map f) i=some (f l[n]):=by
 rw[Lx h];simp[hn]
@[simp] theorem GQ (es:List V) (n:Nat):idx es (n:Int)=es[n]? :=by simp[idx]
section
variable {X R:Type} {step:X→Option (X ⊕ R)}
theorem Ly (Inv:X→Prop) (μ:X→Nat) (Q:R→Prop)
  (h: ∀x,Inv x→(∃y,step x=some (.inl y)∧Inv y∧μ y<μ x)∨∃r,step x=some (.inr r)∧Q r):
  ∀x,Inv x→∃r,Loop step x=some r∧Q r:=by
 intro x
 induction hm:μ x using Nat.strongRecOn generalizing x with
 | ind m ih=>
  intro hx
  rcases h x hx with ⟨y,h1,h2,h3⟩|⟨r,h1,h2⟩
  ·obtain ⟨r,h4,h5⟩:=ih (μ y) (by omega) y rfl h2
   exact ⟨r,(eu h1).trans h4,h5⟩
  ·exact ⟨r,cl h1,h2⟩
theorem xV (s:Nat→X) (n:Nat) {r:R} (h: ∀i,i<n→step (s i)=some (.inl (s (i+1)))) (he:step (s n)=some (.inr r)):Loop step (s 0)=some r:=by
 induction n generalizing s with
 | zero=>exact cl he
 | succ n ih=>
  rw[eu (h 0 (by omega))]
  exact ih (fun i=>s (i+1)) (fun i hi=>h (i+1) (by omega)) he
end
@[simp] theorem aJ {α:Type} (p:Prop) [Decidable p] (a b:α):(bif decide p then a else b)=if p then a else b:=by by_cases h:p<;>simp[h]
@[simp] theorem rS {α:Type} (m n:Int) (a b:α):(bif m==n then a else b)=if m=n then a else b:=by
 by_cases h:m=n
 ·simp[h]
 ·have:(m==n)=false:=by simp[h]
  rw[this,ah h];rfl
@[simp] theorem tN {α:Type} (m n:Int) (a b:α):(bif m != n then a else b)=if m=n then b else a:=by
 by_cases h:m=n
 ·simp[h]
 ·have:(m != n)=true:=by simp[h]
  rw[this,ah h];rfl
@[simp] theorem gU {α:Type} (c:Bool) (a b:α):(bif !c then a else b)=bif c then b else a:=by cases c<;>rfl
@[simp] theorem GR {α:Type} (m n:Nat) (a b:α):(bif Nat.ble m n then a else b)=if m≤n then a else b:=by
 cases hb:Nat.ble m n with
 | true=>rw[af (Nat.le_of_ble_eq_true hb)];rfl
 | false=>
  rw[ah fun h=> ?_]
  ·rfl
  ·rw[Nat.ble_eq_true_of_le h] at hb;cases hb
@[simp] theorem dr {α:Type} (c d:Bool) (a b:α):(bif c&&d then a else b)=bif c then (bif d then a else b) else b:=by cases c<;>rfl
section
variable {P:Program}
def TA (P : Program) : Bool := P.funcs.all fun fn => !(fn.name == "runtime.NumGoroutine")
theorem ada (h:TA P=true):xO P:=by
 intro f fn hf
 unfold TA at h
 have:=(Array.all_eq_true_iff_forall_mem.1 h) fn (Array.mem_of_getElem? hf)
 simpa using this
theorem ES {t:TypeId} {ts:List TypeId} {xs:List V} (h:uw P (t::ts) xs): ∃x ys,xs=x::ys∧gF P t x∧uw P ts ys:=by
 cases xs with
 | nil=>exact h.elim
 | cons x ys=>exact ⟨x,ys,rfl,h.1,h.2⟩
theorem aab {xs:List V} (h:uw P [] xs):xs=[]:=by
 cases xs with
 | nil=>rfl
 | cons x ys=>exact h.elim
theorem gF.one {t:TypeId} {x:V} (ha:bP P t=false) (h:gF P t x):WT P t x:=by
 have he:a9 P t=[t]:=by simp[a9,ha]
 have:=h.2 0 t (by rw[he];rfl)
 simpa[bS,ha] using this
theorem WT.eI {t:TypeId} {k:IntKind} {x:V} (hu:P.underlying t=some (.int k)) (h:WT P t x): ∃n,x= .int k n∧k.min≤n∧n≤k.max:=by
 cases h with
 | int h1 h2=>
  rw[hu] at h1
  cases h1
  simp only[Lit.wf,aS,dv] at h2
  exact ⟨_,rfl,h2⟩
 | bool h1=>rw[hu] at h1;cases h1
 | str h1=>rw[hu] at h1;cases h1
 | list h1=>rw[hu] at h1;cases h1
theorem WT.jX {t:TypeId} {x:V} (hu:P.underlying t=some .bool) (h:WT P t x): ∃b,x= .bool b:=by
 cases h with
 | int h1=>rw[hu] at h1;cases h1
 | bool h1=>exact ⟨_,rfl⟩
 | str h1=>rw[hu] at h1;cases h1
 | list h1=>rw[hu] at h1;cases h1
theorem WT.mM {t:TypeId} {x:V} (hu:P.underlying t=some .string) (h:WT P t x): ∃s,x= .str s∧s.length≤maxLen:=by
 cases h with
 | int h1=>rw[hu] at h1;cases h1
 | bool h1=>rw[hu] at h1;cases h1
 | str h1 h2=>exact ⟨_,rfl,h2⟩
 | list h1=>rw[hu] at h1;cases h1
theorem WT.LA {t e:TypeId} {x:V} (hu:P.underlying t=some (.slice e)) (h:WT P t x): ∃es,x= .list e es∧es.length≤maxLen∧∀y∈es,gF P e y:=by
 cases h with
 | int h1=>rw[hu] at h1;cases h1
 | bool h1=>rw[hu] at h1;cases h1
 | str h1=>rw[hu] at h1;cases h1
 | list h1 h2 h3 h4=>
  rw[hu] at h1
  cases h1
  refine ⟨_,rfl,h2,fun y hy=> ?_⟩
  obtain ⟨i,hi⟩:=sZ hy
  exact ⟨h3 i y hi,fun j t' hj=>h4 i j y t' hi hj⟩
theorem gF.lj {t:TypeId} {x:V} (ha:bP P t=true) (h:gF P t x): ∃xs,x= .agg xs∧xs.length=(a9 P t).length∧∀(j:Nat) t' y,(a9 P t)[j]? =some t'→xs[j]? =some y→WT P t' y:=by
 obtain ⟨xs,rfl,hl⟩:=h.1 ha
 refine ⟨xs,rfl,hl,fun j t' y hj hy=> ?_⟩
 have:=h.2 j t' hj
 simp only[bS,ha,cond_true,V.ac8] at this
 rw[va _ _ _ hy] at this
 exact this
theorem TB {α:Type} {f:α→V}: ∀{es:List V},(∀y∈es,∃a,y=f a)→∃l:List α,es=l.map f
 | [],_=>⟨[],rfl⟩
 | y::es,h=>by
  obtain ⟨a,rfl⟩:=h y (by simp)
  obtain ⟨l,rfl⟩:=TB (f:=f) (es:=es) fun z hz=>h z (by simp[hz])
  exact ⟨a::l,rfl⟩
theorem LB {α:Type} {f:α→V} {p:α→Prop}: ∀{es:List V},(∀y∈es,∃a,y=f a∧p a)→∃l:List α,es=l.map f∧∀a∈l,p a
 | [],_=>⟨[],rfl,by simp⟩
 | y::es,h=>by
  obtain ⟨a,rfl,ha⟩:=h y (by simp)
  obtain ⟨l,rfl,hl⟩:=LB (f:=f) (p:=p) (es:=es) fun z hz=>h z (by simp[hz])
  exact ⟨a::l,rfl,by
   intro b hb
   rcases gh.1 hb with rfl|hb
   ·exact ha
   ·exact hl b hb⟩
theorem gF.int {t:TypeId} {x:V} (hu:P.underlying t=some (.int .i64)) (h:gF P t x): ∃n,x= .int .i64 n∧IntKind.min .i64≤n∧n≤IntKind.max .i64:=
 (h.one (by simp[bP,hu])).eI hu
theorem gF.str {t:TypeId} {x:V} (hu:P.underlying t=some .string) (h:gF P t x): ∃s,x= .str s∧s.length≤maxLen:=
 (h.one (by simp[bP,hu])).mM hu
end
def un.{u} {A B:Type} {γ:Sort u} (f:A→B→γ) (p:A × B):γ:=f p.1 p.2
def dy {A B γ:Type} (f:A→γ) (g:B→γ):A ⊕ B→γ
 | .inl a=>f a
 | .inr b=>g b
def av:List Nat→Code→Code
 | [],c=>c
 | 0::p,.seq a _=>av p a
 | _::p,.seq _ b=>av p b
 | 0::p,.cond _ a _=>av p a
 | _::p,.cond _ _ b=>av p b
 | _::p,.block _ c=>av p c
 | _::p,.loop c=>av p c
 | _,c=>c
inductive cE where
 | loop (c:Code)
 | cond (t:Nat) (x y:Code)
section
variable (P:Program) (A:cJ) (C:ae) (L:cH) (f n m:Nat)
def qi:Code→List cE
 | .seq a b=>qi a++qi b
 | .cond (.tmp t) x y=>
  match A.gN f (t*16+15) with
  | none=>qi x++qi y
  | some _=>[.cond t x y]
 | .cond (.const _) x y=>qi x++qi y
 | .block _ c=>qi c
 | .loop c=>[.loop c]
 | _=>[]
def cF:cE→Prop
 | .loop c=>
  match A.gN f (keyOf c+1) with
  | none=>True
  | some S=> ∀(β:Type) ds (k:Nat→List V→Option β),L β (keyOf c+1) ds k=(Loop (stepG P A C f n m S c) ds).bind fun r=>k r.1 r.2
 | .cond t x y=>
  match A.gN f (t*16+15) with
  | none=>True
  | some S=> ∀(β:Type) ds (k:Nat→List V→Option β),L β (t*16+15) ds k=(Av P A C f n m t S x y ds).bind fun r=>k r.1 r.2
def og:List cE→Prop
 | []=>True
 | b::l=>cF P A C L f n m b∧og l
variable {P A C L f n m}
theorem og.left {a b:List cE}:og P A C L f n m (a++b)→og P A C L f n m a:=by
 induction a with
 | nil=>exact fun _=>trivial
 | cons x a ih=>exact fun h=>⟨h.1,ih h.2⟩
theorem og.right {a b:List cE}:og P A C L f n m (a++b)→og P A C L f n m b:=by
 induction a with
 | nil=>exact fun h=>h
 | cons x a ih=>exact fun h=>ih h.2
theorem bc: ∀{c:Code} {bs:List cE},qi A f c=bs→og P A C L f n m bs→iD P A C L f n m c:=by
 intro c
 induction c with
 | seq a b JX JY=>
  intro bs h hb
  subst h
  exact ⟨JX rfl hb.left,JY rfl hb.right⟩
 | cond c x y gl gm=>
  intro bs h hb
  subst h
  cases c with
  | tmp t=>
   simp only[qi] at hb
   simp only[iD]
   cases hs:A.gN f (t*16+15) with
   | none=>
    rw[hs] at hb
    exact ⟨gl rfl hb.left,gm rfl hb.right⟩
   | some S=>
    rw[hs] at hb
    have:=hb.1
    simp only[cF,hs] at this
    exact this
  | const v=>exact ⟨gl rfl hb.left,gm rfl hb.right⟩
  | _=>trivial
 | block id c ih=>
  intro bs h hb
  subst h
  exact ih rfl hb
 | loop c ih=>
  intro bs h hb
  subst h
  exact hb.1
 | _=>intro bs h hb;trivial
variable (P A C L f n m) in
noncomputable def LC {β:Type} (t:Nat) (S:Shape × List (Out × Shape)) (x y:Code) (ds:List V) (k:Nat→List V→Option β):Option β:=
 let kc:Out→St→Option β:=fun o st=>
  match o with
  | .norm=>(ways m 0 S.2 (.norm,canon m (A.join f t) st)).bind fun e=>k e.1 e.2
  | o=>(ways m 0 S.2 (o,st)).bind fun e=>k e.1 e.2
 match (bu S.1 ds).sl t with
 | .bool b=>bif b then iC P A C L f n m x (bu S.1 ds) kc else iC P A C L f n m y (bu S.1 ds) kc
 | _=>none
theorem adb {t:Nat} {x y:Code} {S:Shape × List (Out × Shape)} (hS:A.gN f (t*16+15)=some S) (hx:iD P A C L f n m x) (hy:iD P A C L f n m y) {I R:Type} (enc:I→List V) (mY:I→R→Nat × List V)
  (de:List V→I) (body:I→(β:Type)→(R→Option β)→Option β) (vH: ∀ds,bu S.1 (enc (de ds))=bu S.1 ds)
  (e1: ∀i (β:Type) (k:Nat→List V→Option β),LC P A C L f n m t S x y (enc i) k=body i β (fun r=>k (mY i r).1 (mY i r).2))
  (hl: ∀(β:Type) ds (k:Nat→List V→Option β),L β (t*16+15) ds k=body (de ds) β (fun r=>k (mY (de ds) r).1 (mY (de ds) r).2)):
  cF P A C L f n m (.cond t x y):=by
 simp only[cF,hS]
 intro β ds k
 rw[hl,←e1]
 unfold LC Av
 rw[vH]
 simp only
 have hk: ∀(z:Option (Out × St)),(z.bind fun r=>(match r.1 with
   | .norm=>(ways m 0 S.2 (.norm,canon m (A.join f t) r.2)).bind fun e=>k e.1 e.2
   | o=>(ways m 0 S.2 (o,r.2)).bind fun e=>k e.1 e.2))=((z.bind fun r=>
   match r.1 with
   | .norm=>some (Out.norm,canon m (A.join f t) r.2)
   | _=>some r).bind fun r=>ways m 0 S.2 r).bind fun r=>k r.1 r.2:=by
  intro z
  cases z with
  | none=>rfl
  | some r=>obtain ⟨o,st⟩:=r;cases o<;>rfl
 cases (bu S.1 ds).sl t with
 | bool b=>
  cases b with
  | true=>simp only[cond_true,Fs P A C f n m x hx];exact hk _
  | false=>simp only[cond_false,Fs P A C f n m y hy];exact hk _
 | _=>rfl
theorem bt {b:cE} {l:List cE} (h:cF P A C L f n m b) (h2:og P A C L f n m l):og P A C L f n m (b::l):=⟨h,h2⟩
theorem aC:og P A C L f n m []:=trivial
theorem bC {key:Nat} {bs:List cE} (hb:qi A key (cN P (A.bd key))=bs) (ht:og P A (Call P A) L key (cQ P (A.bd key)) (A.sin key).bf.length bs) {ds:List V} {r:Option (List V)}
  (h:JZ P A (Call P A) L key ds=r):Call P A key ds=r:=by
 rw[acX,aao P A (Call P A) key (bc hb ht),h]
end
section
variable (P:Program) (A:cJ)
def iJ (C:ae) (N f n m:Nat):Code→St→Option (Out × St)
 | .skip,st=>some (.norm,st)
 | .region id ops draw,st=>(xg P (A.here f id) C n ops draw st).bind fun st'=>some (.norm,canon m (A.live f id) (freeze m (A.pur f id) st'))
 | .seq a b,st=>(iJ C N f n m a st).bind fun r=>
  match r.1 with
  | .norm=>iJ C N f n m b r.2
  | _=>some r
 | .cond (.tmp t) x y,st=>
  let go (st:St):Option (Out × St):=
   match st.sl t with
   | .bool b=>(bif b then iJ C N f n m x st else iJ C N f n m y st).bind fun r=>
    match r.1 with
    | .norm=>some (.norm,canon m (A.join f t) r.2)
    | _=>some r
   | _=>none
  match A.gN f (t*16+15) with
  | none=>go st
  | some S=>(iX m S.1 st).bind fun ds=>((go (bu S.1 ds)).bind fun r=>ways m 0 S.2 r).bind fun e=>kG 0 S.2 e.1 e.2 fun o st=>some (o,st)
 | .cond (.const (.bool b)) x y,st=>bif b then iJ C N f n m x st else iJ C N f n m y st
 | .block id c,st=>(iJ C N f n m c st).bind fun r=>
  match r.1 with
  | .norm=>some (.norm,canon m (A.blk f id) r.2)
  | .exit aL=>bif Nat.beq aL id then some (.norm,canon m (A.blk f id) r.2) else some r
  | .ret=>some r
 | .loop c,st=>
  match A.gN f (keyOf c+1) with
  | none=>none
  | some S=>(iX m S.1 st).bind fun ds=>(eV (fun ds=>lf m S.1 S.2 (iJ C N f n m c (bu S.1 ds))) N ds).bind fun e=>kG 0 S.2 e.1 e.2 fun o st=>some (o,st)
 | .exit id,st=>some (.exit id,st)
 | .ret,st=>some (.ret,st)
 | _,_=>none
def LD (C:ae) (N f:Nat) (ds:List V):Option (List V):=
 match P.funcs[A.bd f]? with
 | none=>none
 | some fn=>
  match fn.body with
  | none=>none
  | some c=>bif iB 0 (A.sin f).bQ&&(Nat.ble (A.sin f).bQ.length fn.ntmps&&((A.sin f).ok&&(iB 0 (A.fP f).bQ&&(Nat.beq (A.fP f).bQ.length fn.results.size&&oR (mG (A.sin f).bf.length (A.mv f)))))) then
    (iJ P A C N f fn.ntmps (A.sin f).bf.length c (Au A f ds)).bind fun r=>
     match r.1 with
     | .exit _=>none
     | _=>((uR P A f fn (A.sin f).bf.length r.2).run C r.2.hp).map (·.1)
   else none
def GS (N:Nat):Nat→ae
 | 0=>fun _ _=>none
 | n+1=>LD P A (GS N n) N
variable {P A}
theorem TC {X R:Type} {s1 s2:X→Option (X ⊕ R)} (h: ∀x y,s1 x=some y→s2 x=some y): ∀(n:Nat) (x:X) (r:R),eV s1 n x=some r→eV s2 n x=some r
 | 0,x,r,e=>by cases e
 | n+1,x,r,e=>by
  simp only[eV] at e⊢
  obtain ⟨y,h1,h2⟩:=bind_some e
  rw[h x y h1]
  cases y with
  | inl z=>exact TC h n z r h2
  | inr q=>exact h2
theorem ade {C:ae} {N f n m:Nat}: ∀(c:Code) {st:St} {r:Out × St},iJ P A C N f n m c st=some r→exec P A C f n m c st=some r:=by
 intro c
 induction c with
 | skip=>exact fun e=>e
 | exit id=>exact fun e=>e
 | ret=>exact fun e=>e
 | region id ops draw=>exact fun e=>e
 | seq x y gl gm=>
  intro st r e
  simp only[iJ,exec] at e⊢
  obtain ⟨⟨o,s1⟩,h1,h2⟩:=bind_some e
  rw[gl h1]
  cases o with
  | norm=>exact gm h2
  | exit id=>exact h2
  | ret=>exact h2
 | cond c x y gl gm=>
  intro st r e
  cases c with
  | tmp t=>
   have go: ∀{st:St} {r:Out × St},(match st.sl t with
     | .bool b=>(bif b then iJ P A C N f n m x st else iJ P A C N f n m y st).bind fun r=>
      match r.1 with
      | .norm=>some (.norm,canon m (A.join f t) r.2)
      | _=>some r
     | _=>none)=some r→(match st.sl t with
     | .bool b=>(bif b then exec P A C f n m x st else exec P A C f n m y st).bind fun r=>
      match r.1 with
      | .norm=>some (.norm,canon m (A.join f t) r.2)
      | _=>some r
     | _=>none)=some r:=by
    intro st r e
    cases hs:st.sl t<;>rw[hs] at e<;>simp only at e⊢ <;>first|(cases e;done)|skip
    rename_i b
    obtain ⟨x1,h1,h2⟩:=bind_some e
    cases b with
    | true=>simp only[cond_true,gl h1,Option.bind_some];exact h2
    | false=>simp only[cond_false,gm h1,Option.bind_some];exact h2
   simp only[iJ,exec] at e⊢
   split at e
   ·rename_i hS
    try rw[hS]
    exact go e
   ·rename_i S hS
    obtain ⟨ds,h1,h2⟩:=bind_some e
    obtain ⟨e',h3,h4⟩:=bind_some h2
    obtain ⟨r1,h5,h6⟩:=bind_some h3
    try rw[hS]
    simp only[h1,Option.bind_some]
    exact (congrArg (fun z:Option (Out × St)=>(z.bind fun r=>ways m 0 S.2 r).bind fun e=>kG 0 S.2 e.1 e.2 fun o st=>some (o,st)) (go h5)).trans (by simp only[Option.bind_some,h6];exact h4)
  | const v=>
   cases v with
   | bool b=>
    simp only[iJ,exec] at e⊢
    cases b with
    | true=>exact gl e
    | false=>exact gm e
   | _=>simp only[iJ] at e;cases e
  | _=>simp only[iJ] at e;cases e
 | block id c ih=>
  intro st r e
  simp only[iJ,exec] at e⊢
  obtain ⟨x1,h1,h2⟩:=bind_some e
  rw[ih h1]
  exact h2
 | loop c ih=>
  intro st r e
  simp only[iJ,exec] at e⊢
  split at e
  ·cases e
  ·rename_i S hS
   obtain ⟨ds,h1,h2⟩:=bind_some e
   obtain ⟨e',h3,h4⟩:=bind_some h2
   try rw[hS]
   simp only[h1,Option.bind_some]
   rw[wX (TC (s2:=fun ds=>lf m S.1 S.2 (exec P A C f n m c (bu S.1 ds))) (fun x y Bw=>by
    unfold lf at Bw⊢
    obtain ⟨z,h5,h6⟩:=bind_some Bw
    rw[ih h5]
    exact h6) N ds e' h3)]
   exact h4
 | _=>intro st r e;simp only[iJ] at e;cases e
theorem adf {C:ae} {N f:Nat} {ds es:List V} (e:LD P A C N f ds=some es):oT P A C f ds=some es:=by
 unfold LD at e
 unfold oT
 cases hf:P.funcs[A.bd f]? with
 | none=>rw[hf] at e;cases e
 | some fn=>
  rw[hf] at e
  simp only at e⊢
  cases hb:fn.body with
  | none=>rw[hb] at e;cases e
  | some c=>
   rw[hb] at e
   simp only at e⊢
   cases hc:(iB 0 (A.sin f).bQ&&(Nat.ble (A.sin f).bQ.length fn.ntmps&&((A.sin f).ok&&(iB 0 (A.fP f).bQ&&(Nat.beq (A.fP f).bQ.length fn.results.size&&oR (mG (A.sin f).bf.length (A.mv f))))))) with
   | false=>rw[hc] at e;cases e
   | true=>
    rw[hc] at e
    simp only[cond_true] at e⊢
    obtain ⟨x,h1,h2⟩:=bind_some e
    rw[ade c h1]
    exact h2
theorem TD {N:Nat}: ∀n {f:Nat} {a r:List V},GS P A N n f a=some r→kH P A n f a=some r
 | 0,f,a,r,h=>by cases h
 | n+1,f,a,r,h=>by
  obtain ⟨M,hM⟩:=GJ (C:=GS P A N n) (D:=fun _=>kH P A n) (fun f a r h=>⟨0,fun _ _=>TD n h⟩) (adf h)
  exact hM M (aI _)
theorem adg {N n f:Nat} {a r:List V} (h:GS P A N n f a=some r):Call P A f a=some r:=Bx.2 ⟨n,TD n h⟩
end
inductive LK where
 | int (k:IntKind)
 | bool
 | str
 | list (e:TypeId)
 | nat
def LK.Ty:LK→Type
 | .int _=>Int
 | .bool=>Bool
 | .str=>List UInt8
 | .list _=>List V
 | .nat=>Nat
def LK.enc:(k:LK)→k.Ty→V
 | .int k,n=> .int k n
 | .bool,b=> .bool b
 | .str,s=> .str s
 | .list e,l=> .list e l
 | .nat,n=>ew n
def LK.dec:(k:LK)→V→k.Ty
 | .int _,v=>v.toInt
 | .bool,v=>v.toBool
 | .str,v=>v.toStr
 | .list _,v=>v.toList
 | .nat,v=>la v
theorem LK.TE: ∀(k:LK) (x:k.Ty),k.dec (k.enc x)=x
 | .int _,_=>rfl
 | .bool,_=>rfl
 | .str,_=>rfl
 | .list _,_=>rfl
 | .nat,_=>rfl
def LF:List Nat→List LK
 | []=>[]
 | _::l=> .nat::LF l
def LS.ks:LS→List LK
 | .int k=>[.int k]
 | .bool=>[.bool]
 | .str=>[.str]
 | .list e=>[.list e]
 | .sub .. =>[.nat,.nat]
 | .ptr _=>[.nat,.nat]
 | .row _ _ cs=>LF cs
 | .cI _ cs _=> .nat::LF cs
 | _=>[]
def xW:List LS→List LK
 | []=>[]
 | l::ls=>l.ks++xW ls
def VS.ks:VS→List LK
 | .one l=>l.ks
 | .agg ls=>xW ls
 | .bm ls=>xW ls
 | .fn _ a b=>xW a++xW b
 | .pref _ ls=>xW ls
def TF:List VS→List LK
 | []=>[]
 | l::ls=>l.ks++TF ls
def BS.ks:BS→List LK
 | .var _ cs=>TF cs
 | .arr e _=>[.list e]
 | .nest e=>[.list e]
 | .dead=>[]
 | .map t=>[.list t]
def TG:List (Nat × VS)→List LK
 | []=>[]
 | p::l=>p.2.ks++TG l
def TH:List BS→List LK
 | []=>[]
 | b::l=>b.ks++TH l
def Shape.ks (S:Shape):List LK:=TG S.bQ++TH S.bf
def LG:List Nat→List V→List V
 | [],_=>[]
 | _::cs,ds=>ew (la (V.nth ds 0))::LG cs (ds.drop 1)
def LS.norm:LS→List V→List V
 | .int k,ds=>[.int k (V.nth ds 0).toInt]
 | .bool,ds=>[.bool (V.nth ds 0).toBool]
 | .str,ds=>[.str (V.nth ds 0).toStr]
 | .list e,ds=>[.list e (V.nth ds 0).toList]
 | .sub ..,ds=>[ew (la (V.nth ds 0)),ew (la (V.nth ds 1))]
 | .ptr _,ds=>[ew (la (V.nth ds 0)),ew (la (V.nth ds 1))]
 | .row _ _ cs,ds=>LG cs ds
 | .cI _ cs _,ds=>ew (la (V.nth ds 0))::LG cs (ds.drop 1)
 | _,_=>[]
def xX:List LS→List V→List V
 | [],_=>[]
 | l::ls,ds=>l.norm ds++xX ls (ds.drop l.size)
def VS.norm:VS→List V→List V
 | .one l,ds=>l.norm ds
 | .agg ls,ds=>xX ls ds
 | .bm ls,ds=>xX ls ds
 | .fn _ a b,ds=>xX a ds++xX b (ds.drop (kE a))
 | .pref _ ls,ds=>xX ls ds
def TI:List VS→List V→List V
 | [],_=>[]
 | l::ls,ds=>l.norm ds++TI ls (ds.drop l.size)
def BS.norm:BS→List V→List V
 | .var _ cs,ds=>TI cs ds
 | .arr e _,ds=>[.list e (V.nth ds 0).toList]
 | .nest e,ds=>[.list e (V.nth ds 0).toList]
 | .dead,_=>[]
 | .map t,ds=>[.list t (V.nth ds 0).toList]
def TJ:List (Nat × VS)→List V→List V
 | [],_=>[]
 | p::l,ds=>p.2.norm ds++TJ l (ds.drop p.2.size)
def TK:List BS→List V→List V
 | [],_=>[]
 | b::l,ds=>b.norm ds++TK l (ds.drop b.size)
def Shape.norm (S:Shape) (ds:List V):List V:=TJ S.bQ ds++TK S.bf (ds.drop (oQ S.bQ))
def vI:LK→List LK→Type
 | k,[]=>k.Ty
 | k,k'::ks=>k.Ty × vI k' ks
def kQ:List LK→Type
 | []=>Unit
 | k::ks=>vI k ks
def vJ:(k:LK)→(ks:List LK)→vI k ks→List V
 | k,[],x=>[k.enc x]
 | k,k'::ks,x=>k.enc x.1::vJ k' ks x.2
def lx:(ks:List LK)→kQ ks→List V
 | [],_=>[]
 | k::ks,x=>vJ k ks x
def Bz:(k:LK)→(ks:List LK)→List V→vI k ks
 | k,[],l=>k.dec (V.nth l 0)
 | k,k'::ks,l=>(k.dec (V.nth l 0),Bz k' ks l.tail)
def pd:(ks:List LK)→List V→kQ ks
 | [],_=>()
 | k::ks,l=>Bz k ks l
theorem TL: ∀(k:LK) (ks:List LK) (x:vI k ks) (r:List V),Bz k ks (vJ k ks x++r)=x
 | k,[],x,r=>LK.TE k x
 | k,k'::ks,x,r=>by
  show (k.dec (k.enc x.1),Bz k' ks (vJ k' ks x.2++r))=x
  rw[LK.TE,TL k' ks]
  rfl
def xY:List LK→Type 1→Type 1
 | [],R=>R
 | k::ks,R=>k.Ty→xY ks R
def TM:(k:LK)→(ks:List LK)→{R:Type 1}→xY (k::ks) R→vI k ks→R
 | _,[],_,f,x=>f x
 | _,k'::ks,_,f,x=>TM k' ks (f x.1) x.2
def vK:(ks:List LK)→{R:Type 1}→xY ks R→kQ ks→R
 | [],_,f,_=>f
 | k::ks,_,f,x=>TM k ks f x
def xZ {α:Type} (b:Bool):List Bool→List α→List α
 | [],_=>[]
 | _,[]=>[]
 | c::m,x::l=>bif c==b then x::xZ b m l else xZ b m l
def merge:List Bool→List V→List V→List V
 | [],_,_=>[]
 | true::m,i,x=>V.nth x 0::merge m i x.tail
 | false::m,i,x=>V.nth i 0::merge m i.tail x
def ya:List Nat→List LK→List LK
 | [],_=>[]
 | _,[]=>[]
 | 0::t,k::ks=>k::ya t ks
 | (_+1)::t,_::ks=>ya t ks
abbrev fX:=List Nat × List LK
def fX.fresh (w:fX):List LK:=ya w.1 w.2
def put:List Nat→List V→List V→List V
 | [],_,_=>[]
 | 0::t,ds,x=>V.nth x 0::put t ds x.tail
 | (j+1)::t,ds,x=>V.nth ds j::put t ds x
def vL:List Nat→List V→List V
 | [],_=>[]
 | 0::t,l=>V.nth l 0::vL t l.tail
 | (_+1)::t,l=>vL t l.tail
def tO:fX→List fX→Type
 | w,[]=>kQ w.fresh
 | w,w'::ws=>kQ w.fresh ⊕ tO w' ws
def rT:List fX→Type
 | []=>Empty
 | w::ws=>tO w ws
def wN (ds:List V) {β:Type} (k:Nat→List V→Option β):Nat→(w:fX)→(ws:List fX)→tO w ws→Option β
 | j,w,[],r=>k j (put w.1 ds (lx w.fresh r))
 | j,w,w'::ws,r=>dy (fun x=>k j (put w.1 ds (lx w.fresh x))) (fun y=>wN ds k (j+1) w' ws y) r
def wT (ds:List V) {β:Type} (k:Nat→List V→Option β):(ws:List fX)→rT ws→Option β
 | [],r=>Empty.elim r
 | w::ws,r=>wN ds k 0 w ws r
def pe (ds:List V):Nat→(w:fX)→(ws:List fX)→tO w ws→Nat × List V
 | j,w,[],r=>(j,put w.1 ds (lx w.fresh r))
 | j,w,_::_,.inl x=>(j,put w.1 ds (lx w.fresh x))
 | j,_,w'::ws,.inr y=>pe ds (j+1) w' ws y
def yb (ds:List V):(ws:List fX)→rT ws→Nat × List V
 | [],r=>Empty.elim r
 | w::ws,r=>pe ds 0 w ws r
theorem TN (ds:List V) {β:Type} (k:Nat→List V→Option β): ∀(j:Nat) (w:fX) (ws:List fX) (r:tO w ws),wN ds k j w ws r=k (pe ds j w ws r).1 (pe ds j w ws r).2
 | _,_,[],_=>rfl
 | _,_,_::_,.inl _=>rfl
 | j,_,w'::ws,.inr y=>TN ds k (j+1) w' ws y
theorem GU (ds:List V) {β:Type} (k:Nat→List V→Option β): ∀(ws:List fX) (r:rT ws),wT ds k ws r=k (yb ds ws r).1 (yb ds ws r).2
 | [],r=>Empty.elim r
 | w::ws,r=>TN ds k 0 w ws r
def yc:Nat→(w:fX)→(ws:List fX)→List V→tO w ws
 | _,w,[],l=>pd w.fresh (vL w.1 l)
 | 0,w,_::_,l=> .inl (pd w.fresh (vL w.1 l))
 | j+1,_,w'::ws,l=> .inr (yc j w' ws l)
def TO (j:Nat):(ws:List fX)→List V→Option (rT ws)
 | [],_=>none
 | w::ws,l=>some (yc j w ws l)
def yd:List Nat→List V→List V
 | [],_=>[]
 | 0::t,x=>V.nth x 0::yd t x.tail
 | (_+1)::t,x=>yd t x
theorem LH: ∀(t:List Nat) (ds x:List V),vL t (put t ds x)=yd t x
 | [],_,_=>rfl
 | 0::t,ds,x=>congrArg (V.nth x 0:: ·) (LH t ds x.tail)
 | (_+1)::t,ds,x=>LH t ds x
theorem LI: ∀(t:List Nat) (ks:List LK) (k:LK) (qj:List LK),ya t ks=k::qj→∀x:vI k qj,∃r,yd t (vJ k qj x)=vJ k qj x++r
 | [],_,_,_,h,_=>by cases h
 | _::_,[],_,_,h,_=>by simp[ya] at h
 | 0::t,a::ks,k,qj,h,x=>by
  simp only[ya,zU] at h
  obtain ⟨rfl,h2⟩:=h
  cases qj with
  | nil=>exact ⟨yd t [],rfl⟩
  | cons k' qj=>
   obtain ⟨r,hr⟩:=LI t ks k' qj h2 x.2
   exact ⟨r,congrArg (a.enc x.1:: ·) hr⟩
 | (_+1)::t,a::ks,k,qj,h,x=>LI t ks k qj h x
theorem TP (w:fX) (ds:List V) (x:kQ w.fresh):pd w.fresh (vL w.1 (put w.1 ds (lx w.fresh x)))=x:=by
 rw[LH]
 revert x
 generalize hf:w.fresh=f
 cases f with
 | nil=>intro x;rfl
 | cons k ks=>
  intro x
  obtain ⟨r,hr⟩:=LI w.1 w.2 k ks hf x
  show Bz k ks (yd w.1 (vJ k ks x))=x
  rw[hr]
  exact TL k ks x r
theorem TQ (ds:List V): ∀(j:Nat) (w:fX) (ws:List fX) (r:tO w ws),j≤(pe ds j w ws r).1
 | _,_,[],_=>aI _
 | _,_,_::_,.inl _=>aI _
 | j,_,w'::ws,.inr y=>kp (Nat.le_succ j) (TQ ds (j+1) w' ws y)
theorem adh (w:fX) (l:List V): ∀j,yc j w [] l=pd w.fresh (vL w.1 l)
 | 0=>rfl
 | _+1=>rfl
theorem TR (ds:List V): ∀(j:Nat) (w:fX) (ws:List fX) (r:tO w ws),yc ((pe ds j w ws r).1-j) w ws (pe ds j w ws r).2=r
 | j,w,[],r=>(adh w _ _).trans (TP w ds r)
 | j,w,w'::ws,.inl x=>by
  show yc (j-j) w (w'::ws) (put w.1 ds (lx w.fresh x))= .inl x
  rw[zW]
  exact congrArg Sum.inl (TP w ds x)
 | j,w,w'::ws,.inr y=>by
  have h1:=TQ ds (j+1) w' ws y
  have h2:=TR ds (j+1) w' ws y
  show yc ((pe ds (j+1) w' ws y).1-j) w (w'::ws) (pe ds (j+1) w' ws y).2= .inr y
  obtain ⟨d,hd⟩: ∃d,(pe ds (j+1) w' ws y).1=j+1+d:=⟨(pe ds (j+1) w' ws y).1-(j+1),by omega⟩
  rw[hd] at h2⊢
  rw[show j+1+d-(j+1)=d by omega] at h2
  rw[show j+1+d-j=d+1 by omega]
  exact congrArg Sum.inr h2
theorem adi (ds:List V): ∀(ws:List fX) (r:rT ws),TO (yb ds ws r).1 ws (yb ds ws r).2=some r
 | [],r=>Empty.elim r
 | w::ws,r=>congrArg some (TR ds 0 w ws r)
section
variable {P:Program} {A:cJ} {C:ae} {L:cH} {f n m:Nat}
theorem adj {c:Code} {S:Shape × List (Out × Shape)} (hS:A.gN f (keyOf c+1)=some S) (hL:iD P A C L f n m c) {I X R:Type} (enc:I→X→List V) (mY:I→R→Nat × List V)
  (qk:List V→I) (rU:List V→X) (GV:Nat × List V→Option R) (body:I→X→(β:Type)→(X→Option β)→(R→Option β)→Option β)
  (vH: ∀ds,bu S.1 (enc (qk ds) (rU ds))=bu S.1 ds) (LJ: ∀i x,rU (enc i x)=x) (hdr: ∀i r,GV (mY i r)=some r)
  (e1: ∀i x (β:Type) (k:(List V ⊕ (Nat × List V))→Option β),iC P A C L f n m c (bu S.1 (enc i x)) (fun o st=>(lf m S.1 S.2 (some (o,st))).bind k)=
   body i x β (fun y=>k (.inl (enc i y))) (fun r=>k (.inr (mY i r))))
  (hl: ∀(β:Type) ds (k:Nat→List V→Option β),L β (keyOf c+1) ds k=(Loop (fun x=>body (qk ds) x (X ⊕ R) (fun y=>some (.inl y)) (fun r=>some (.inr r))) (rU ds)).bind fun r=>k (mY (qk ds) r).1 (mY (qk ds) r).2):
  cF P A C L f n m (.loop c):=by
 simp only[cF,hS]
 intro β ds k
 rw[hl]
 have hex: ∀(z:Option (Out × St)),lf m S.1 S.2 z=z.bind fun r=>lf m S.1 S.2 (some (r.1,r.2)):=by
  intro z;cases z<;>rfl
 have hs: ∀i x,stepG P A C f n m S c (enc i x)=(body i x (X ⊕ R) (fun y=>some (.inl y)) (fun r=>some (.inr r))).map fun| .inl y=> .inl (enc i y)| .inr r=> .inr (mY i r):=by
  intro i x
  have k1:=e1 i x _ (fun z=>some z)
  have k2:=e1 i x (X ⊕ R) (fun| .inl ds=>some (.inl (rU ds))| .inr e=>(GV e).map .inr)
  have k3:=e1 i x (List V ⊕ (Nat × List V)) (fun| .inl ds=>some (.inl (enc i (rU ds)))| .inr e=>(GV e).map fun r=> .inr (mY i r))
  simp only[LJ,hdr,Option.map_some] at k2 k3
  unfold stepG
  rw[hex]
  rw[Fs P A C f n m c hL] at k1 k2 k3
  rw[←k2]
  refine bw ?_ (k1.trans (k3.symm.trans ?_))
  ·congr 1
   funext r
   cases lf m S.1 S.2 (some (r.1,r.2))<;>rfl
  ·cases exec P A C f n m c (bu S.1 (enc i x)) with
   | none=>rfl
   | some r=>
    simp only[Option.bind_some]
    cases lf m S.1 S.2 (some (r.1,r.2)) with
    | none=>rfl
    | some z=>
     cases z with
     | inl _=>rfl
     | inr e=>simp only[Option.bind_some];cases GV e<;>rfl
 have h0:stepG P A C f n m S c ds=stepG P A C f n m S c (enc (qk ds) (rU ds)):=by
  unfold stepG
  rw[vH]
 have:Loop (stepG P A C f n m S c) ds=(Loop (fun x=>body (qk ds) x (X ⊕ R) (fun y=>some (.inl y)) (fun r=>some (.inr r))) (rU ds)).map (mY (qk ds)):=by
  rw[E4,h0,←E4]
  exact aam (enc (qk ds)) (mY (qk ds)) (fun x=>hs _ _) (rU ds)
 rw[this]
 cases Loop (fun x=>body (qk ds) x (X ⊕ R) (fun y=>some (.inl y)) (fun r=>some (.inr r))) (rU ds)<;>rfl
abbrev BA (S:Shape) (mk:List Bool):List LK:=xZ false mk S.ks
abbrev vM (S:Shape) (mk:List Bool):List LK:=xZ true mk S.ks
def rV (ts:List (List Nat)) (W:List (Out × Shape)):List fX:=
 match ts,W with
 | t::ts,w::W=>(t,w.2.ks)::rV ts W
 | _,_=>[]
abbrev BB (S:Shape) (mk:List Bool) (i:kQ (BA S mk)) (x:kQ (vM S mk)):List V:=merge mk (lx _ i) (lx _ x)
abbrev LL (S:Shape) (mk:List Bool) (i:kQ (BA S mk)):List V:=merge mk (lx _ i) []
abbrev GW (S:Shape) (mk:List Bool) (ds:List V):kQ (BA S mk):=pd _ (xZ false mk (S.norm ds))
abbrev GX (S:Shape) (mk:List Bool) (ds:List V):kQ (vM S mk):=pd _ (xZ true mk (S.norm ds))
abbrev TS (X R:Type):Type 1:=(β:Type)→(X→Option β)→(R→Option β)→Option β
abbrev LM (S:Shape × List (Out × Shape)) (mk:List Bool) (ts:List (List Nat)):Type 1:=xY (BA S.1 mk) (xY (vM S.1 mk) (TS (kQ (vM S.1 mk)) (rT (rV ts S.2))))
abbrev LN (S:Shape × List (Out × Shape)) (mk:List Bool) (ts:List (List Nat)) (b:LM S mk ts) (i:kQ (BA S.1 mk)) (x:kQ (vM S.1 mk)):TS (kQ (vM S.1 mk)) (rT (rV ts S.2)):=vK _ (vK _ b i) x
noncomputable def bE (S:Shape × List (Out × Shape)) (mk:List Bool) (ts:List (List Nat)) (b:LM S mk ts) {β:Type} (ds:List V) (k:Nat→List V→Option β):Option β:=
 (Loop (fun x=>LN S mk ts b (GW S.1 mk ds) x (kQ (vM S.1 mk) ⊕ rT (rV ts S.2)) (fun y=>some (.inl y)) (fun r=>some (.inr r))) (GX S.1 mk ds)).bind (wT (LL S.1 mk (GW S.1 mk ds)) k (rV ts S.2))
theorem bH {c:Code} (S:Shape × List (Out × Shape)) (mk:List Bool) (ts:List (List Nat)) (b:LM S mk ts) (hS:A.gN f (keyOf c+1)=some S) (hL:iD P A C L f n m c)
  (vH: ∀ds,bu S.1 (BB S.1 mk (GW S.1 mk ds) (GX S.1 mk ds))=bu S.1 ds) (LJ: ∀i x,GX S.1 mk (BB S.1 mk i x)=x)
  (e1: ∀i x (β:Type) (k:(List V ⊕ (Nat × List V))→Option β),iC P A C L f n m c (bu S.1 (BB S.1 mk i x)) (fun o st=>(lf m S.1 S.2 (some (o,st))).bind k)=
   LN S mk ts b i x β (fun y=>k (.inl (BB S.1 mk i y))) (wT (LL S.1 mk i) (fun j l=>k (.inr (j,l))) (rV ts S.2)))
  (hl: ∀(β:Type) ds (k:Nat→List V→Option β),L β (keyOf c+1) ds k=bE S mk ts b ds k):
  cF P A C L f n m (.loop c):=
 adj hS hL (BB S.1 mk) (fun i r=>yb (LL S.1 mk i) _ r) (GW S.1 mk) (GX S.1 mk) (fun e=>TO e.1 _ e.2) (LN S mk ts b) vH LJ (fun i r=>adi _ _ r)
  (fun i x β k=>by
   rw[e1]
   congr 1
   funext r
   exact GU _ _ _ r)
  (fun β ds k=>by
   rw[hl]
   unfold bE
   congr 1
   funext r
   exact GU _ _ _ r)
abbrev TT (S:Shape × List (Out × Shape)) (ts:List (List Nat)):Type 1:=xY S.1.ks ((β:Type)→(rT (rV ts S.2)→Option β)→Option β)
noncomputable def pf (S:Shape × List (Out × Shape)) (ts:List (List Nat)) (b:TT S ts) {β:Type} (ds:List V) (k:Nat→List V→Option β):Option β:=
 vK S.1.ks b (pd _ (S.1.norm ds)) β (wT (lx S.1.ks (pd _ (S.1.norm ds))) k (rV ts S.2))
theorem ql {t:Nat} {x y:Code} (S:Shape × List (Out × Shape)) (ts:List (List Nat)) (b:TT S ts) (hS:A.gN f (t*16+15)=some S) (hx:iD P A C L f n m x) (hy:iD P A C L f n m y)
  (vH: ∀ds,bu S.1 (lx S.1.ks (pd _ (S.1.norm ds)))=bu S.1 ds)
  (e1: ∀i (β:Type) (k:Nat→List V→Option β),LC P A C L f n m t S x y (lx S.1.ks i) k=vK S.1.ks b i β (wT (lx S.1.ks i) k (rV ts S.2)))
  (hl: ∀(β:Type) ds (k:Nat→List V→Option β),L β (t*16+15) ds k=pf S ts b ds k):
  cF P A C L f n m (.cond t x y):=
 adb hS hx hy (lx S.1.ks) (fun i r=>yb (lx S.1.ks i) _ r) (fun ds=>pd _ (S.1.norm ds)) (vK S.1.ks b) vH
  (fun i β k=>by
   rw[e1]
   exact congrArg (vK S.1.ks b i β) (funext fun r=>GU _ _ _ r))
  (fun β ds k=>by
   rw[hl]
   exact congrArg (vK S.1.ks b (pd _ (S.1.norm ds)) β) (funext fun r=>GU _ _ _ r))
end
def dg:cH:=fun _ _ _ _=>none
end Go.AM
