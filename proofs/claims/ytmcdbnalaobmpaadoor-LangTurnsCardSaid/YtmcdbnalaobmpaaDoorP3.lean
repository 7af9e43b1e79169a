/-
  Functions of vE program, lifted to plain data.
-/
import Derived.Conc.MuLone
import Derived.Defers
import Derived.Carry
import Derived.OpenShut
import Derived.Deep.Slices
import Derived.Test.YtmcdbnalaobmpaaDoorP2
set_option linter.unusedVariables false
set_option linter.unusedSimpArgs false
namespace Go.AM
section
variable {P:Program} {A:cM} {w w':World} {I I' I2:Nat→Prop} {μ β au b9:Nat→Option Nat} {hp hp' hp0 br:Nat→Option ah} {C:ae} {B:Nat} {M:Nat→Prop} {w0:Start}
structure kK (w:World) (I:Nat→Prop) (β:Nat→Option Nat) (hp:Nat→Option ah) (w':World) (I':Nat→Prop) (au:Nat→Option Nat) (hp':Nat→Option ah):Prop where
 dE: ∀b,I b→I' b
 cp: ∀b,I b→w'.heap[b]? =w.heap[b]?
 blk: ∀id blk,hp id=some blk→∃blk',hp' id=some blk'∧blk.le blk'∧(blk'≠ .dead→au id=β id)
 size: ∀id blk blk' b,hp id=some blk→hp' id=some blk'→blk'≠ .dead→β id=some b→bsize w' b=bsize w b
theorem Le.Ft (h:Le P w I β hp w' I' au hp'):kK w I β hp w' I' au hp':=⟨h.dE,h.cp,h.blk,h.size⟩
theorem kK.trans {zo:World} {zp:Nat→Prop} {zq:Nat→Option Nat} {zr:Nat→Option ah} (h1:kK w I β hp w' I' au hp') (h2:kK w' I' au hp' zo zp zq zr):kK w I β hp zo zp zq zr:=by
 refine ⟨fun b h=>h2.dE b (h1.dE b h),fun b h=>(h2.cp b (h1.dE b h)).trans (h1.cp b h),fun id blk h=> ?_,fun id blk tD b h sr hd hb=> ?_⟩
 ·obtain ⟨blk',e',l',b'⟩:=h1.blk id blk h
  obtain ⟨tD,dX,zt,IX⟩:=h2.blk id blk' e'
  refine ⟨tD,dX,ah.le_trans l' zt,fun hd=> ?_⟩
  have e6:blk'≠ .dead:=fun e=>hd (ah.o5 (e▸zt))
  exact (IX hd).trans (b' e6)
 ·obtain ⟨blk',e',l',b'⟩:=h1.blk id blk h
  obtain ⟨gQ,e3,l3,b3⟩:=h2.blk id blk' e'
  obtain rfl:gQ=tD:=by rw[e3] at sr;exact Option.some.inj sr
  have e6:blk'≠ .dead:=fun e=>hd (ah.o5 (e▸l3))
  rw[h2.size id blk' gQ b e' e3 hd ((b' e6).trans hb),h1.size id blk blk' b h e' e6 hb]
def ov (P:Program) (w:World) (μ:Nat→Option Nat) (hp0:Nat→Option ah) (b:Nat):Prop:= ∃j blk,hp0 j=some blk∧bw P w (μ j) blk b
structure abZ (P:Program) (A:cM) (key:Nat) (w:World) (I:Nat→Prop) (μ:Nat→Option Nat) (ds es:List V) (w':World) (v:Value) (I2:Nat→Prop) (b9:Nat→Option Nat):Prop where
 wC:aE P w' I2 b9 (bm (A.so key es) (A.lv key es)).hp w.heap.size (ov P w μ (bm (A.sin key) ds).hp) ⟨w,I⟩
 le:kK w I μ (bm (A.sin key) ds).hp w' I2 b9 (bm (A.so key es) (A.lv key es)).hp
 res:ai P w' I2 b9 (bm (A.so key es) (A.lv key es)).hp v (o0 (fA (A.so key es).bJ (A.lv key es)))
def kM (P:Program) (A:cM) (C:ae):Prop:=
 ∀key ds es,C key ds=some es→∃fn c,P.funcs[A.aO key]? =some fn∧fn.body=some c∧
  ∀(w:World) (I:Nat→Prop) (μ:Nat→Option Nat) (vals:List Value),
   tC P w I μ (bm (A.sin key) ds).hp w.heap.size (ov P w μ (bm (A.sin key) ds).hp)→gR P A.aC w I→
   vals.length=(A.sin key).bJ.length→(∀(j:Nat) v x,vals[j]? =some v→(fJ ((A.sin key).bJ.map (·.2)) ds)[j]? =some x→ai P w I μ (bm (A.sin key) ds).hp v x)→
   Calls P (A.aO key) vals.toArray w fun e w'=> ∃v I2 b9,e= .returned v∧abZ P A key w I μ ds es w' v I2 b9
theorem ep.ue {p:Place} {o:Option Nat} {blk:ah} {b:Nat} (h:ep P w β hp p o blk) (ho:bw P w o blk b):
  ∃qB,hp p.id=some qB∧bw P w (β p.id) qB b∧∀e es,qB≠ .arr e es true:=by
 cases h with
 | var h=>exact ⟨_,h,.root (by simp) (ho.flat (by simp)),by simp⟩
 | arr h=>exact ⟨_,h,.root (by simp) (ho.flat (by simp)),by simp⟩
 | map h=>exact ⟨_,h,.root (by simp) (ho.flat (by simp)),by simp⟩
 | nest h=>
  refine ⟨_,h,?_,by simp⟩
  cases ho with
  | root _ hb=>exact .root (by simp) hb
  | row hb ha=>exact .row hb ha
 | row h hb ha _ _ _ _ _=>
  have:=ho.flat (by simp)
  cases this
  exact ⟨_,h,.row hb ha,by simp⟩
theorem aE.ab0 (S:aE P w I β hp B M w0) {id b:Nat} {blk:ah} (af:hp id=some blk) (ho:bw P w (β id) blk b) (hf: ∀e es,blk≠ .arr e es true): ¬I b:=by
 have hr:=S.h.rel id blk af
 generalize β id=o at hr ho
 cases hr with
 | var hb _ _ hI _ _=>have:=ho.flat (by simp);rw[hb] at this;cases this;exact hI
 | eb hb=>have:=ho.flat (by simp);rw[hb] at this;cases this
 | @arr e es fz _ _ _ hb _ _ _ eE _=>
  have:=ho.flat (by simp)
  rw[hb] at this;cases this
  cases fz with
  | true=>exact absurd rfl (hf e es)
  | false=>exact eE rfl
 | dead=>exact absurd rfl ho.alive
 | map _ hb _ _ hI _ _=>have:=ho.flat (by simp);rw[hb] at this;cases this;exact hI
 | nest hb hr _=>
  cases ho with
  | root _ ax=>rw[hb] at ax;cases ax;exact (hr _ _ _ _ .here).nI
  | row ax ha=>rw[hb] at ax;cases ax;exact (hr _ _ _ _ ha).nI
theorem Fu {a b:List Nat} (h:vK a b=false) {x:Nat} (ha:x∈a):x∉b:=by
 intro hb
 unfold vK at h
 rw[List.any_eq_false] at h
 exact h x ha (we hb)
theorem ab1 (S:aE P w I β hp B M w0) {pl:List Place} {upd:List (Nat × ah)} {o:Nat→Option Nat} (kj:(pl.map Place.id).Nodup) (uf:vK (upd.map (·.1)) (pl.map Place.id)=false)
  (hl: ∀j blk,hp0 j=some blk→∃p,eC pl j=some p∧ep P w β hp p (o j) blk)
  (cN:(∀j blk,hp0 j=some blk→∀b,bw P w (o j) blk b→¬iJ P w I β hp upd b)→∀j blk,hp0 j=some blk→en P w (iJ P w I β hp upd) o hp0 (o j) blk) (aX: ∀b,iJ P w I β hp upd b→b<w.heap.size):
  tC P w (iJ P w I β hp upd) o hp0 w.heap.size (ov P w o hp0):=by
 have cW: ∀j blk,hp0 j=some blk→∀b,bw P w (o j) blk b→¬iJ P w I β hp upd b:=by
  intro j blk hj b ho hI
  obtain ⟨p,br,gS⟩:=hl j blk hj
  obtain ⟨qB,k1,k2,k3⟩:=gS.ue ho
  rcases hI with hI|⟨q,hq,b7,q1,q2⟩
  ·exact S.ab0 k1 k2 k3 hI
  ·have:=S.h.inj _ _ _ _ b q1 k1 q2 k2
   refine Fu uf (List.mem_map.2 ⟨q,hq,rfl⟩) ?_
   rw[this]
   rw[lJ] at br
   exact List.mem_map.2 ⟨p,List.mem_of_getElem? br,rfl⟩
 refine ⟨cN cW,fun j1 j2 b1 b2 b h1 h2 o1 o2=> ?_,fun j blk b h1 o1=> .inl ⟨j,blk,h1,o1⟩,aX⟩
 obtain ⟨p1,q1,q2⟩:=hl j1 b1 h1
 obtain ⟨p2,r1,r2⟩:=hl j2 b2 h2
 obtain ⟨c1,x1,x2,_⟩:=q2.ue o1
 obtain ⟨c2,y1,y2,_⟩:=r2.ue o2
 have af:=S.h.inj _ _ _ _ b x1 y1 x2 y2
 rw[lJ] at q1 r1
 have m1:(pl.map Place.id)[j1]? =some p1.id:=by rw[List.getElem?_map,q1];rfl
 have m2:(pl.map Place.id)[j2]? =some p2.id:=by rw[List.getElem?_map,r1];rfl
 rw[←af] at m2
 obtain ⟨z1,z2⟩:=List.getElem?_eq_some_iff.1 m1
 obtain ⟨z3,z4⟩:=List.getElem?_eq_some_iff.1 m2
 exact (List.getElem_inj kj).1 (z2.trans z4.symm)
def RF:V→Prop
 | .list .. =>False
 | .pref .. =>False
 | .agg _=>False
 | .bj _=>False
 | .fn .. =>False
 | _=>True
theorem ai.free {v:Value} {x:V} (h:ai P w I β hp v x) (hx:RF x):ai P w I' β hp v x:=by
 cases h with
 | undef=>exact .undef
 | int=>exact .int
 | bool=>exact .bool
 | str h=>exact .str h
 | list h=>exact hx.elim
 | nilS=>exact .nilS
 | agg=>exact hx.elim
 | bj=>exact hx.elim
 | dN=>exact .dN
 | fn=>exact hx.elim
 | pref=>exact hx.elim
 | eD h=>exact .eD h
 | gr h=>exact .gr h
 | ka h=>exact .ka h
 | dZ h hb=>exact .dZ h hb
 | whole h hb a b c=>exact .whole h hb a b c
 | eL h hb a b c=>exact .eL h hb a b c
 | gh h hb=>exact .gh h hb
 | sub h hb a b c=>exact .sub h hb a b c
 | ptr h hd hb=>exact .ptr h hd hb
 | jA h qw=>exact .jA h qw
 | jB h qw=>exact .jB h qw
 | row h hb a b c d=>exact .row h hb a b c d
 | cL h hb a b c d e=>exact .cL h hb a b c d e
 | dO=>exact .dO
 | ig h=>exact .ig h
 | bX h hb=>exact .bX h hb
theorem z8 {l:LS} {ds:List V} (hs:l.safe=true):RF (iF l ds):=by
 cases l<;>simp only[LS.safe] at hs<;>first|(cases hs;done)|trivial
theorem z9: ∀{ls:List LS} {ds:List V} {j:Nat} {y:V},(hG ls ds)[j]? =some y→∃l fD,l∈ls∧y=iF l fD
 | [],ds,j,y,h=>by simp[hG] at h
 | l::ls,ds,j,y,h=>by
  simp only[hG] at h
  cases j with
  | zero=>simp at h;exact ⟨l,ds,List.mem_cons_self ..,h.symm⟩
  | succ j=>
   obtain ⟨l',fD,h1,h2⟩:=z9 (j:=j) (by simpa using h)
   exact ⟨l',fD,List.mem_cons_of_mem _ h1,h2⟩
theorem RG: ∀{ls:List VS} {ds:List V} {j:Nat} {y:V},(fJ ls ds)[j]? =some y→∃l fD,l∈ls∧y=kD l fD
 | [],ds,j,y,h=>by simp[fJ] at h
 | l::ls,ds,j,y,h=>by
  simp only[fJ] at h
  cases j with
  | zero=>simp at h;exact ⟨l,ds,List.mem_cons_self ..,h.symm⟩
  | succ j=>
   obtain ⟨l',fD,h1,h2⟩:=RG (j:=j) (by simpa using h)
   exact ⟨l',fD,List.mem_cons_of_mem _ h1,h2⟩
theorem RH {s:VS} {ds:List V} {v:Value} (h:ai P w I β hp v (kD s ds)) (hs:s.safe=true):ai P w I' β hp v (kD s ds):=by
 cases s with
 | one l=>exact h.free (z8 hs)
 | agg ls=>
  simp only[kD] at h⊢
  obtain ⟨cs,rfl,e1,e2⟩:=h.kH
  refine .agg e1 fun j v x hj hx=> ?_
  obtain ⟨l,fD,k1,rfl⟩:=z9 hx
  exact (e2 j v _ hj hx).free (z8 (List.all_eq_true.1 hs l k1))
 | bj ls=>
  simp only[kD] at h⊢
  obtain ⟨cs,rfl,e1,e2⟩:=h.tK
  refine .bj e1 fun j v x hj hx=> ?_
  obtain ⟨l,fD,k1,rfl⟩:=z9 hx
  exact (e2 j v _ hj hx).free (z8 (List.all_eq_true.1 hs l k1))
 | fn f a b=>
  simp only[VS.safe,Bool.and_eq_true] at hs
  simp only[kD] at h⊢
  cases h with
  | fn a1 a2 b1 b2=>
   refine .fn a1 (fun j v x hj hx=> ?_) b1 (fun j v x hj hx=> ?_)
   ·obtain ⟨l,fD,k1,rfl⟩:=z9 hx
    exact (a2 j v _ hj hx).free (z8 (List.all_eq_true.1 hs.1 l k1))
   ·obtain ⟨l,fD,k1,rfl⟩:=z9 hx
    exact (b2 j v _ hj hx).free (z8 (List.all_eq_true.1 hs.2 l k1))
 | pref ts ls=>cases hs
theorem Pure.scalar {t:TypeId} {v:Value} {x:V} (h:Pure P w I t v x) (hn: ∀e,P.underlying t≠some (.slice e)):Pure P w I' t v x:=by
 cases h with
 | int h=>exact .int h
 | bool h=>exact .bool h
 | str h hl=>exact .str h hl
 | nil h=>exact absurd h (hn _)
 | emp h=>exact absurd h (hn _)
 | list g h=>exact absurd h (hn _)
theorem ab2 {e t:TypeId} {j:Nat} (h:y9 P e=true) (ht:(aY P e)[j]? =some t) (e':TypeId):P.underlying t≠some (.slice e'):=by
 intro hu
 have h2:=List.all_eq_true.1 h t (List.mem_of_getElem? ht)
 rw[hu] at h2
 cases h2
theorem ab3 {o:Option Nat} {b:BS} {ds:List V} (h:en P w I2 β hp o (gb b ds)) (hs:b.safe P=true) (hi: ∀b,I b→I2 b):en P w I β hp o (gb b ds):=by
 cases b with
 | dead=>exact .dead
 | var T0 ls=>
  simp only[gb] at h⊢
  cases h with
  | var hb hh a8 hI hx gv=>
   refine .var hb hh a8 (fun h=>hI (hi _ h)) (fun j v x hj cH=> ?_) gv
   obtain ⟨l,fD,k1,rfl⟩:=RG cH
   exact RH (hx j v _ hj cH) (List.all_eq_true.1 hs l k1)
 | arr e fz=>
  simp only[BS.safe,Bool.and_eq_true,Bool.not_eq_true'] at hs
  obtain ⟨rfl,z7⟩:=hs
  simp only[gb] at h⊢
  generalize (V.nth ds 0).toList=es at h⊢
  cases h with
  | eb hb=>exact .eb hb
  | arr a1 a2 a3 a4 a5 a6 a7=>
   refine .arr a1 a2 a3 a4 (fun h=>by cases h) (fun _ h=>a6 rfl (hi _ h)) fun i j x t' y1 y2 y3=> ?_
   obtain ⟨v,z1,z2⟩:=a7 i j x t' y1 y2 y3
   exact ⟨v,z1,z2.scalar (ab2 z7 y2)⟩
 | nest e=>
  simp only[gb] at h⊢
  generalize (V.nth ds 0).toList=es at h⊢
  cases h with
  | nest hb cA oh=>
   refine .nest hb (fun q b' e1 m1 hq=> ?_) oh
   obtain ⟨ok,⟨Ca,c1,c2,c3⟩,nI⟩:=cA q b' e1 m1 hq
   refine ⟨ok,⟨Ca,c1,c2,fun i j x t' y1 y2 y3=> ?_⟩,fun h=>nI (hi _ h)⟩
   obtain ⟨v,z1,z2⟩:=c3 i j x t' y1 y2 y3
   refine ⟨v,z1,?_⟩
   generalize bN P e1 x j=y at z2⊢
   cases z2 with
   | gg a p=>
    refine .gg a (p.scalar fun e hu=> ?_)
    unfold ga at a
    rw[hu] at a
    cases a
   | emp a b=>exact .emp a b
   | row a b c d e=>exact .row a b c d e
 | map t=>
  simp only[gb] at h⊢
  cases h with
  | map a1 a2 a3 a4 a5 a6 a7=>exact .map a1 a2 a3 a4 (fun h=>a5 (hi _ h)) a6 a7
theorem J2: ∀{l:List BS} {ds:List V} {j:Nat} {y:ah},(eZ l ds)[j]? =some y→∃b fD,l[j]? =some b∧y=gb b fD
 | [],ds,j,y,h=>by simp[eZ] at h
 | b::l,ds,j,y,h=>by
  simp only[eZ] at h
  cases j with
  | zero=>simp at h;exact ⟨b,ds,rfl,h.symm⟩
  | succ j=>
   obtain ⟨b',fD,h1,h2⟩:=J2 (j:=j) (by simpa using h)
   exact ⟨b',fD,by simpa using h1,h2⟩
theorem RI: ∀{l:List (Nat × VS)} {ds:List V} {q:Nat × V},q∈fA l ds→∃s fD,(q.1,s)∈l∧q.2=kD s fD
 | [],ds,q,h=>by simp[fA] at h
 | (k,s)::l,ds,q,h=>by
  simp only[fA,List.mem_cons] at h
  rcases h with h|h
  ·subst h;exact ⟨s,ds,List.mem_cons_self ..,rfl⟩
  ·obtain ⟨s',fD,h1,h2⟩:=RI h
   exact ⟨s',fD,List.mem_cons_of_mem _ h1,h2⟩
theorem ab4 {S:Shape} {es:List V} (hs:S.safe P=true) (hi: ∀b,I b→I2 b) {N:Nat→Prop} {st:Start} (h:aE P w' I2 b9 (bm S es).hp B N st) (h0: ∀b,I b→st.I b):
  aE P w' I b9 (bm S es).hp B N st∧∀v,ai P w' I2 b9 (bm S es).hp v (o0 (fA S.bJ es))→ai P w' I b9 (bm S es).hp v (o0 (fA S.bJ es)):=by
 unfold Shape.safe at hs
 simp only[Bool.and_eq_true] at hs
 obtain ⟨jE,nD⟩:=hs
 have one: ∀q∈fA S.bJ es,∀v,ai P w' I2 b9 (bm S es).hp v q.2→ai P w' I b9 (bm S es).hp v q.2:=by
  intro q hq v hv
  obtain ⟨s,fD,k1,k2⟩:=RI hq
  rw[k2] at hv⊢
  exact RH hv (List.all_eq_true.1 jE _ k1)
 refine ⟨⟨⟨fun j blk hj=> ?_,h.h.inj,h.h.own,fun b hb=>h.h.jC b (hi b hb)⟩,h.cp,h.size,fun b hb=> .inl (h0 b hb),h.io⟩,fun v hv=> ?_⟩
 ·have hr:=h.h.rel j blk hj
  have gK:=hj
  simp only[bm,mk,gW] at gK
  obtain ⟨b,fD,k1,rfl⟩:=J2 gK
  exact ab3 hr (List.all_eq_true.1 nD _ (List.mem_of_getElem? k1)) hi
 ·generalize fA S.bJ es=l at one hv⊢
  match l,one,hv with
  | [],_,hv=>
   simp only[o0,List.map_nil] at hv⊢
   obtain ⟨cs,rfl,e1,e2⟩:=hv.tK
   exact .bj e1 fun j v x _ hx=>by simp at hx
  | [q],one,hv=>exact one q (List.mem_singleton.2 rfl) v hv
  | q::q2::l,one,hv=>
   simp only[o0] at hv⊢
   obtain ⟨cs,rfl,e1,e2⟩:=hv.tK
   refine .bj e1 fun j v x hj hx=> ?_
   obtain ⟨y,hy,rfl⟩:=List.mem_map.1 (List.mem_of_getElem? hx)
   exact one y hy v (e2 j v _ hj hx)
end
section
variable {P:Program} {A:cM} {w w':World} {I I' I2:Nat→Prop} {μ β au b9:Nat→Option Nat} {hp hp' hp0 br:Nat→Option ah} {C:ae} {B:Nat} {M:Nat→Prop} {w0:Start}
inductive gz (σ:List Place):ah→ah→Prop
 | dead:gz σ .dead .dead
 | var {T:TypeId} {cs:List V}:gz σ (.var T cs) (.var T (cs.map (Eu σ)))
 | arr {e:TypeId} {es:List V} {fz:Bool}:gz σ (.arr e es fz) (.arr e es fz)
 | nest {e:TypeId} {es:List V} {v1 v2:List Nat}:gz σ (.nest e es v1) (.nest e es v2)
 | map {t:TypeId} {es:List V}:gz σ (.map t es) (.map t es)
theorem gz.of (σ:List Place) (b:ah):gz σ b (tt σ b):=by
 cases b with
 | dead=>exact .dead
 | var T cs=>exact .var
 | arr e es fz=>exact .arr
 | nest e es v=>exact .nest
 | map t es=>exact .map
theorem RJ {σ:List Place}: ∀{pl:List Place} {bs:List ah} {acc:List (Nat × ah)} {k:List (Nat × ah)→Rd R} {r:R} {rd:List Nat},(qb σ pl bs acc k).run C hp=some (r,rd)→
  pl.length≤bs.length∧∃bk ff,(k bk).run C hp=some (r,ff)∧(∀q∈bk,q∈acc∨∃(j:Nat) (b:ah),pl[j]? =some (.blk q.1)∧bs[j]? =some b∧gz σ b q.2∧((∃e es v2,q.2= .nest e es v2)→∃e es ak e' aQ,hp q.1=some (.nest e es ak)∧q.2= .nest e' aQ (ak.map (· +1))))∧
   (∀q∈acc,q∈bk)∧∀(j:Nat) p,pl[j]? =some p→∃id b,p= .blk id∧(id,b)∈bk
 | [],bs,acc,k,r,rd,h=>⟨Nat.zero_le _,acc,rd,by simpa only[qb] using h,fun q hq=> .inl hq,fun q hq=>hq,fun j p hp=>by simp at hp⟩
 | .row _ _ _::pl,bs,acc,k,r,rd,h=>by
  cases bs<;>(simp only[qb] at h;cases h)
 | .blk id::pl,[],acc,k,r,rd,h=>by simp only[qb] at h;cases h
 | .blk id::pl,b::bs,acc,k,r,rd,h=>by
  have fin: ∀{b2:ah} {jr:List Nat},(qb σ pl bs ((id,b2)::acc) k).run C hp=some (r,jr)→gz σ b b2→((∃e es v2,b2= .nest e es v2)→∃e es ak e' aQ,hp id=some (.nest e es ak)∧b2= .nest e' aQ (ak.map (· +1)))→
    (Place.blk id::pl).length≤(b::bs).length∧∃bk ff,(k bk).run C hp=some (r,ff)∧(∀q∈bk,q∈acc∨∃(j:Nat) (b':ah),(Place.blk id::pl)[j]? =some (.blk q.1)∧(b::bs)[j]? =some b'∧gz σ b' q.2∧((∃e es v2,q.2= .nest e es v2)→∃e es ak e' aQ,hp q.1=some (.nest e es ak)∧q.2= .nest e' aQ (ak.map (· +1))))∧
     (∀q∈acc,q∈bk)∧∀(j:Nat) p,(Place.blk id::pl)[j]? =some p→∃id b,p= .blk id∧(id,b)∈bk:=by
   intro b2 jr h1 hb hn
   obtain ⟨a0,bk,ff,a1,a2,a3,a4⟩:=RJ h1
   refine ⟨by simp only[List.length_cons];omega,bk,ff,a1,fun q hq=> ?_,fun q hq=>a3 q (List.mem_cons_of_mem _ hq),fun j p hj=> ?_⟩
   ·rcases a2 q hq with h|⟨j,b',k1,k2,k3,k4⟩
    ·rcases List.mem_cons.1 h with e|h
     ·subst e;exact .inr ⟨0,b,rfl,rfl,hb,hn⟩
     ·exact .inl h
    ·exact .inr ⟨j+1,b',by simpa using k1,by simpa using k2,k3,k4⟩
   ·cases j with
    | zero=>simp at hj;subst hj;exact ⟨id,b2,rfl,a3 _ (List.mem_cons_self ..)⟩
    | succ j=>exact a4 j p (by simpa using hj)
  cases b with
  | nest e es v=>
   simp only[qb] at h
   obtain ⟨l,h⟩:=run_get h
   cases af:hp id with
   | none=>rw[af] at h;cases h
   | some blk=>
    rw[af] at h
    cases blk with
    | nest e0 IY ak=>exact fin h .nest fun _=>⟨e0,IY,ak,e,es,af,rfl⟩
    | _=>cases h
  | dead=>exact fin h (.of σ _) fun ⟨_,_,_,h⟩=>by cases h
  | var T cs=>exact fin h (.of σ _) fun ⟨_,_,_,h⟩=>by cases h
  | arr e es fz=>exact fin h (.of σ _) fun ⟨_,_,_,h⟩=>by cases h
  | map t es=>exact fin h (.of σ _) fun ⟨_,_,_,h⟩=>by cases h
theorem RK {σ:List Place}: ∀{bs:List ah} {n:Nat} {q:Nat × ah},q∈qc σ n bs→∃i b,bs[i]? =some b∧q=(n+i,tt σ b)
 | [],n,q,h=>by simp[qc] at h
 | b::bs,n,q,h=>by
  simp only[qc,List.mem_cons] at h
  rcases h with h|h
  ·exact ⟨0,b,rfl,h⟩
  ·obtain ⟨i,b',h1,h2⟩:=RK h
   exact ⟨i+1,b',by simpa using h1,by rw[h2];congr 1;omega⟩
theorem RL {σ:List Place}: ∀{bs:List ah} {n i:Nat} {b:ah},bs[i]? =some b→(n+i,tt σ b)∈qc σ n bs
 | [],n,i,b,h=>by simp at h
 | b0::bs,n,i,b,h=>by
  simp only[qc,List.mem_cons]
  cases i with
  | zero=>simp at h;subst h;exact .inl rfl
  | succ i=>exact .inr (by rw[show n+(i+1)=n+1+i by omega];exact RL (by simpa using h))
theorem Fv: ∀{k n i:Nat},i<k→(sm n k)[i]? =some (.blk (n+i))
 | 0,n,i,h=>by omega
 | k+1,n,0,h=>rfl
 | k+1,n,i+1,h=>by
  simp only[sm,List.getElem?_cons_succ]
  rw[Fv (by omega)]
  congr 2
  omega
theorem J3: ∀{k n:Nat},(sm n k).length=k
 | 0,_=>rfl
 | k+1,n=>by simp[sm,J3]
theorem RM: ∀{bs:List (Nat × ah)} {k:Rd R} {r:R} {rd:List Nat},(Ev bs k).run C hp=some (r,rd)→(∀q∈bs,hp q.1=none)∧∃ff,k.run C hp=some (r,ff)
 | [],k,r,rd,h=>⟨by simp,rd,h⟩
 | (id,b)::l,k,r,rd,h=>by
  simp only[Ev] at h
  obtain ⟨l1,h⟩:=run_get h
  cases af:hp id with
  | some blk=>rw[af] at h;cases h
  | none=>
   rw[af] at h
   obtain ⟨h1,h2⟩:=RM h
   refine ⟨fun q hq=> ?_,h2⟩
   rcases List.mem_cons.1 hq with e|hq
   ·subst e;exact af
   ·exact h1 q hq
structure pn (σ:List Place) (b9:Nat→Option Nat) (br:Nat→Option ah) (au:Nat→Option Nat) (hp':Nat→Option ah):Prop where
 blk: ∀j b,br j=some b→∃id b',eC σ j=some (.blk id)∧hp' id=some b'∧gz σ b b'∧(b≠ .dead→au id=b9 j)
 none: ∀j,br j=none→eC σ j=none
 alv: ∀j id ver path,eC σ j≠some (.row id ver path)
theorem pn.leaf {σ:List Place} (T:pn σ b9 br au hp') {v:Value} {x:V} (h:ai P w I b9 br v x):ai P w I au hp' v (j7 σ x):=by
 have look: ∀{j b},br j=some b→∃id b',eC σ j=some (.blk id)∧hp' id=some b'∧gz σ b b'∧(b≠ .dead→au id=b9 j):=fun h=>T.blk _ _ h
 cases h with
 | undef=>exact .undef
 | int=>exact .int
 | bool=>exact .bool
 | str h=>exact .str h
 | list h=>exact .list h
 | nilS=>exact .nilS
 | agg=>exact .undef
 | bj=>exact .undef
 | dN=>exact .dN
 | fn=>exact .undef
 | pref a b c=>exact .pref a b c
 | @eD _ e j h=>
  obtain ⟨id,b',k1,k2,k3,k4⟩:=look h
  simp only[j7,k1]
  cases k3
  exact .eD k2
 | @gr _ e j _ _ h=>
  obtain ⟨id,b',k1,k2,k3,k4⟩:=look h
  simp only[j7,k1]
  cases k3
  exact .gr k2
 | @ka _ j _ _ h=>
  obtain ⟨id,b',k1,k2,k3,k4⟩:=look h
  simp only[j7,k1]
  cases k3
  exact .ka k2
 | @dZ e j fz _ h hb=>
  obtain ⟨id,b',k1,k2,k3,k4⟩:=look h
  simp only[j7,k1]
  cases k3
  exact .dZ k2 ((k4 (by simp)).trans hb)
 | @whole e j es fz b cap h hb a1 a2 a3=>
  obtain ⟨id,b',k1,k2,k3,k4⟩:=look h
  simp only[j7,k1]
  cases k3
  exact .whole k2 ((k4 (by simp)).trans hb) a1 a2 a3
 | @eL e j es ak b cap h hb a1 a2 a3=>
  obtain ⟨id,b',k1,k2,k3,k4⟩:=look h
  simp only[j7,k1]
  cases k3
  exact .eL k2 ((k4 (by simp)).trans hb) a1 a2 a3
 | @gh e j fz _ h hb=>
  obtain ⟨id,b',k1,k2,k3,k4⟩:=look h
  simp only[j7,k1]
  cases k3
  exact .gh k2 ((k4 (by simp)).trans hb)
 | @sub e j off len es fz b o cap h hb a1 a2 a3=>
  obtain ⟨id,b',k1,k2,k3,k4⟩:=look h
  simp only[j7,k1]
  cases k3
  exact .sub k2 ((k4 (by simp)).trans hb) a1 a2 a3
 | @ptr j i c b blk h hd hb=>
  obtain ⟨id,b',k1,k2,k3,k4⟩:=look h
  simp only[j7,k1]
  have hs:blk.sz P=b'.sz P:=by cases k3<;>rfl
  rw[hs]
  exact .ptr k2 (by intro e;subst e;cases k3;exact hd rfl) ((k4 hd).trans hb)
 | jA=>exact .undef
 | jB=>exact .undef
 | row=>exact .undef
 | cL=>exact .undef
 | dO=>exact .dO
 | @ig _ t j h=>
  obtain ⟨id,b',k1,k2,k3,k4⟩:=look h
  simp only[j7,k1]
  cases k3
  exact .ig k2
 | @bX t j b es h hb=>
  obtain ⟨id,b',k1,k2,k3,k4⟩:=look h
  simp only[j7,k1]
  cases k3
  exact .bX k2 ((k4 (by simp)).trans hb)
theorem pn.one {σ:List Place} (T:pn σ b9 br au hp') {v:Value} {x:V} (h:ai P w I b9 br v x):ai P w I au hp' v (IJ σ x):=by
 cases x with
 | agg xs=>
  obtain ⟨cs,rfl,e1,e2⟩:=h.kH
  exact .agg (by simpa using e1) fun j v y hj hy=>by
   rw[List.getElem?_map] at hy
   cases hx:xs[j]? with
   | none=>rw[hx] at hy;cases hy
   | some x=>rw[hx] at hy;cases hy;exact T.leaf (e2 j v x hj hx)
 | fn f a b=>
  cases h with
  | fn a1 a2 b1 b2=>
   refine .fn (by simpa using a1) (fun j v y hj hy=> ?_) (by simpa using b1) (fun j v y hj hy=> ?_)
   ·rw[List.getElem?_map] at hy
    cases hx:a[j]? with
    | none=>rw[hx] at hy;cases hy
    | some x=>rw[hx] at hy;cases hy;exact T.leaf (a2 j v x hj hx)
   ·rw[List.getElem?_map] at hy
    cases hx:b[j]? with
    | none=>rw[hx] at hy;cases hy
    | some x=>rw[hx] at hy;cases hy;exact T.leaf (b2 j v x hj hx)
 | _=>exact T.leaf h
theorem pn.val {σ:List Place} (T:pn σ b9 br au hp') {v:Value} {x:V} (h:ai P w I b9 br v x):ai P w I au hp' v (Eu σ x):=by
 cases x with
 | bj xs=>
  obtain ⟨cs,rfl,e1,e2⟩:=h.tK
  exact .bj (by simpa using e1) fun j v y hj hy=>by
   rw[List.getElem?_map] at hy
   cases hx:xs[j]? with
   | none=>rw[hx] at hy;cases hy
   | some x=>rw[hx] at hy;cases hy;exact T.one (e2 j v x hj hx)
 | _=>exact T.one h
theorem pn.RN {σ:List Place} (T:pn σ b9 br au hp') {o:Option Nat} {b b':ah} (h:en P w I b9 br o b) (hb:gz σ b b'):en P w I au hp' o b':=by
 cases hb with
 | dead=>exact .dead
 | var=>
  cases h with
  | var a1 a2 a3 a4 a5 a6=>
   refine .var a1 a2 (by simpa using a3) a4 (fun j v y hj hy=> ?_) a6
   rw[List.getElem?_map] at hy
   cases hx:(_:List V)[j]? with
   | none=>rw[hx] at hy;cases hy
   | some x=>rw[hx] at hy;cases hy;exact T.val (a5 j v x hj hx)
 | arr=>
  cases h with
  | eb hb=>exact .eb hb
  | arr a1 a2 a3 a4 a5 a6 a7=>exact .arr a1 a2 a3 a4 a5 a6 a7
 | nest=>
  cases h with
  | nest a1 a2 a3=>exact .nest a1 a2 a3
 | map=>
  cases h with
  | map a1 a2 a3 a4 a5 a6 a7=>exact .map a1 a2 a3 a4 a5 a6 a7
theorem gz.ue {σ:List Place} {o:Option Nat} {b b':ah} (h:gz σ b b') {m:Nat} (ho:bw P w o b' m):bw P w o b m:=by
 cases h with
 | dead=>exact absurd rfl ho.alive
 | var=>exact .root (by simp) (ho.flat (by simp))
 | arr=>exact .root (by simp) (ho.flat (by simp))
 | map=>exact .root (by simp) (ho.flat (by simp))
 | nest=>
  cases ho with
  | root _ hb=>exact .root (by simp) hb
  | row hb ha=>exact .row hb ha
theorem gz.RO {σ:List Place} {b b':ah} (h:gz σ b b'):b'≠ .dead→b≠ .dead:=by
 intro h1 h2;subst h2;cases h;exact h1 rfl
end
section
variable {P:Program} {A:cM} {w w':World} {I I' I2:Nat→Prop} {μ β au b9:Nat→Option Nat} {hp hp' hp0 br:Nat→Option ah} {C:ae} {B:Nat} {M:Nat→Prop} {w0:Start}
theorem RP: ∀{vs:List Nat} {k:Nat},k<vs.length→bB (vs.map (· +1)) k=bB vs k+1
 | [],k,h=>by simp at h
 | v::vs,0,h=>rfl
 | v::vs,k+1,h=>by simp only[List.map_cons,bB];exact RP (by simpa using h)
theorem RQ: ∀{vs:List Nat} {k:Nat},bB vs k≤bB (vs.map (· +1)) k
 | [],k=>by simp[bB]
 | v::vs,0=>by simp[bB]
 | v::vs,k+1=>by simp only[List.map_cons,bB];exact RQ
def Aa (hp:Nat→Option ah) (q:Nat × ah):Prop:=(∃e es v2,q.2= .nest e es v2)→∃e es ak e' aQ,hp q.1=some (.nest e es ak)∧q.2= .nest e' aQ (ak.map (· +1))
theorem ep.J4 {id:Nat} {o:Option Nat} {blk:ah} (h:ep P w β hp (.blk id) o blk):o=β id∧∃b0,hp id=some b0∧b0≠ .dead:=by
 cases h with
 | var h=>exact ⟨rfl,_,h,by simp⟩
 | arr h=>exact ⟨rfl,_,h,by simp⟩
 | nest h=>exact ⟨rfl,_,h,by simp⟩
 | map h=>exact ⟨rfl,_,h,by simp⟩
theorem ep.ab5 {id:Nat} {o:Option Nat} {c b b' b0:ah} {σ:List Place} (h:ep P w β hp (.blk id) o c) (h0:hp id=some b0) (hle:c.le b) (hb:gz σ b b') (hn:Aa hp (id,b')):b0.le b':=by
 cases h with
 | var h=>
  rw[h] at h0;cases h0
  cases hb with
  | dead=>trivial
  | var=>trivial
  | arr=>exact hle.elim
  | nest=>exact hle.elim
  | map=>exact hle.elim
 | arr h=>
  rw[h] at h0;cases h0
  cases hb with
  | dead=>trivial
  | var=>exact hle.elim
  | arr=>exact hle
  | nest=>exact hle.elim
  | map=>exact hle.elim
 | map h=>
  rw[h] at h0;cases h0
  cases hb with
  | dead=>trivial
  | map=>exact hle
  | _=>exact hle.elim
 | nest h=>
  rw[h] at h0;cases h0
  cases hb with
  | dead=>trivial
  | var=>exact hle.elim
  | arr=>exact hle
  | map=>exact hle.elim
  | @nest e es v1 v2=>
   obtain ⟨e1,cy,ug,e2,cf,k1,k2⟩:=hn ⟨_,_,_,rfl⟩
   cases k2
   change hp id=_ at k1
   rw[h] at k1;cases k1
   exact ⟨hle.1,hle.2.1,by simp,fun k=>RQ⟩
theorem ep.other {p:Place} {o:Option Nat} {blk:ah} (h:ep P w β hp p o blk) (he:hp' p.id=hp p.id):ep P w β hp' p o blk:=by
 cases h with
 | var h=>exact .var (he.trans h)
 | arr h=>exact .arr (he.trans h)
 | nest h=>exact .nest (he.trans h)
 | map h=>exact .map (he.trans h)
 | row h a b c d e f g=>exact .row (he.trans h) a b c d e f g
open Classical in
theorem RR (S:aE P w I β hp B M w0) {pl:List Place} {o:Nat→Option Nat} {bs:List ah} {nb:Nat} {bk fr:List (Nat × ah)} {σ:List Place} (qC:σ=pl++sm nb (bs.length-pl.length)) (Ab:fr=qc σ nb (bs.drop pl.length))
  (kj:(pl.map Place.id).Nodup) (qm:pl.length≤bs.length)
  (Fw: ∀(j:Nat) p,pl[j]? =some p→∃id b,p= .blk id∧(id,b)∈bk) (Fx: ∀q∈bk,∃(j:Nat) (b:ah),pl[j]? =some (.blk q.1)∧bs[j]? =some b∧gz σ b q.2∧Aa hp q)
  (hl: ∀j blk,hp0 j=some blk→∃p,eC pl j=some p∧ep P w β hp p (o j) blk) (hd: ∀j,j<pl.length→∃blk,hp0 j=some blk)
  (Sc:aE P w' I2 b9 (jz bs) w.heap.size (ov P w o hp0) ⟨w,I⟩) (wD:kK w I o hp0 w' I2 b9 (jz bs)) (sK: ∀q∈fr,hp q.1=none):
  ∃au,Le P w I β hp w' I2 au (bO hp (fr++bk))∧aE P w' I2 au (bO hp (fr++bk)) B M w0∧pn σ b9 (jz bs) au (bO hp (fr++bk)):=by
 generalize J5:bO hp (fr++bk)=gS
 let au:Nat→Option Nat:=fun n=>if∃q∈fr,q.1=n then b9 (pl.length+(n-nb)) else β n
 have RS: ∀(j:Nat) id,pl[j]? =some (.blk id)→∃c,hp0 j=some c∧ep P w β hp (.blk id) (o j) c:=by
  intro j id hj
  obtain ⟨c,hc⟩:=hd j (List.getElem?_eq_some_iff.1 hj).1
  obtain ⟨p,h1,h2⟩:=hl j c hc
  rw[lJ,hj] at h1
  cases h1
  exact ⟨c,hc,h2⟩
 have uniq: ∀(j1 j2:Nat) id,pl[j1]? =some (.blk id)→pl[j2]? =some (.blk id)→j1=j2:=by
  intro j1 j2 id h1 h2
  have m1:(pl.map Place.id)[j1]? =some id:=by rw[List.getElem?_map,h1];rfl
  have m2:(pl.map Place.id)[j2]? =some id:=by rw[List.getElem?_map,h2];rfl
  obtain ⟨z1,z2⟩:=List.getElem?_eq_some_iff.1 m1
  obtain ⟨z3,z4⟩:=List.getElem?_eq_some_iff.1 m2
  exact (List.getElem_inj kj).1 (z2.trans z4.symm)
 have cls: ∀id,(∃i b,id=nb+i∧bs[pl.length+i]? =some b∧gS id=some (tt σ b)∧hp id=none∧au id=b9 (pl.length+i))∨
   (∃(j:Nat) (b b' c b0:ah),pl[j]? =some (.blk id)∧bs[j]? =some b∧hp0 j=some c∧ep P w β hp (.blk id) (o j) c∧hp id=some b0∧b0.le b'∧gS id=some b'∧gz σ b b'∧Aa hp (id,b')∧au id=β id∧c.le b∧(b≠ .dead→b9 j=β id))∨
   (gS id=hp id∧(∀j:Nat,pl[j]? ≠some (.blk id))∧au id=β id):=by
  intro id
  by_cases hm: ∃b,(id,b)∈fr++bk
  ·obtain ⟨b,hm⟩:=hm
   obtain ⟨b',zB,he⟩:=EE (hp:=hp) hm
   rw[J5] at he
   rcases List.mem_append.1 zB with h|h
   ·have h0:=sK _ h
    have ow:au id=b9 (pl.length+(id-nb)):=if_pos ⟨_,h,rfl⟩
    rw[Ab] at h
    obtain ⟨i,b1,k1,k2⟩:=RK h
    rw[List.getElem?_drop] at k1
    cases k2
    exact .inl ⟨i,b1,rfl,k1,he,h0,by rw[ow];congr 2;omega⟩
   ·obtain ⟨j,b1,q1,q2,q3,q4⟩:=Fx _ h
    obtain ⟨c,c1,c2⟩:=RS j id q1
    obtain ⟨c3,b0,c4,c5⟩:=c2.J4
    obtain ⟨b2,d1,d2,d3⟩:=wD.blk j c c1
    rw[gW,q2] at d1
    cases d1
    refine .inr (.inl ⟨j,b1,b',c,b0,q1,q2,c1,c2,c4,c2.ab5 c4 d2 q3 q4,he,q3,q4,if_neg ?_,d2,fun h=>(d3 h).trans c3⟩)
    rintro ⟨q,hq,hqe⟩
    rw[←hqe,sK q hq] at c4
    cases c4
  ·refine .inr (.inr ⟨?_,fun j hj=> ?_,if_neg ?_⟩)
   ·rcases tH (hp:=hp) (l:=fr++bk) (id:=id) with h|⟨b,hb,_⟩
    ·rw[J5] at h;exact h
    ·exact absurd ⟨b,hb⟩ hm
   ·obtain ⟨aA,b,e,hb⟩:=Fw j _ hj
    cases e
    exact hm ⟨b,List.mem_append.2 (.inr hb)⟩
   ·rintro ⟨q,hq,rfl⟩
    exact hm ⟨q.2,List.mem_append.2 (.inl hq)⟩
 have RT: ∀b,ov P w o hp0 b→∃(j id:Nat) (b1:ah),pl[j]? =some (.blk id)∧hp id=some b1∧bw P w (β id) b1 b∧∀e es,b1≠ .arr e es true:=by
  rintro b ⟨j,c,hc,ho⟩
  obtain ⟨p,h1,h2⟩:=hl j c hc
  rw[lJ] at h1
  obtain ⟨id,b2,rfl,_⟩:=Fw j p h1
  obtain ⟨b1,k1,k2,k3⟩:=h2.ue ho
  exact ⟨j,id,b1,h1,k1,k2,k3⟩
 have other: ∀id blk b,hp id=some blk→bw P w (β id) blk b→(∀j:Nat,pl[j]? ≠some (.blk id))→¬ov P w o hp0 b∧w'.heap[b]? =w.heap[b]? ∧(I2 b→I b):=by
  intro id blk b e1 e3 e4
  have ox: ¬ov P w o hp0 b:=by
   intro hx
   obtain ⟨j,aA,b1,i1,i2,i3,_⟩:=RT b hx
   have:=S.h.inj id aA _ _ b e1 i2 e3 i3
   subst this
   exact e4 j i1
  have aX:=S.h.lt e1 e3
  refine ⟨ox,Sc.cp b aX ox,fun h=> ?_⟩
  rcases Sc.new b h with h|h|h
  ·exact h
  ·exact absurd h ox
  ·omega
 have sE:pn σ b9 (jz bs) au gS:=by
  refine ⟨fun j b hj=> ?_,fun j hj=> ?_,fun j id ver path hj=> ?_⟩
  ·rw[gW] at hj
   by_cases dd:j<pl.length
   ·obtain ⟨id,b1,e,lF⟩:=Fw j _ (List.getElem?_eq_getElem dd)
    have Fy:pl[j]? =some (.blk id):=by rw[List.getElem?_eq_getElem dd,e]
    have J6:eC σ j=some (.blk id):=by rw[qC];exact ot (by rw[lJ];exact Fy)
    rcases cls id with ⟨i,b2,c1,c2,c3,c4,c5⟩|⟨j',b2,b',c,b0,q1,q2,q3,q4,q5,q6,q7,q8,q9,po,wE,qD⟩|⟨c1,c2,c3⟩
    ·obtain ⟨c,d1,d2⟩:=RS j id Fy
     obtain ⟨_,b0,d3,_⟩:=d2.J4
     rw[d3] at c4;cases c4
    ·obtain rfl:=uniq _ _ _ q1 Fy
     rw[hj] at q2;cases q2
     exact ⟨id,b',J6,q7,q8,fun h=>po.trans (qD h).symm⟩
    ·exact absurd Fy (c2 j)
   ·have RU:=(List.getElem?_eq_some_iff.1 hj).1
    have J6:eC σ j=some (.blk (nb+(j-pl.length))):=by
     rw[qC,lJ,List.getElem?_append_right (by omega)]
     exact Fv (by omega)
    have hm:(nb+(j-pl.length),tt σ b)∈fr:=by
     rw[Ab]
     refine RL ?_
     rw[List.getElem?_drop,show pl.length+(j-pl.length)=j by omega]
     exact hj
    rcases cls (nb+(j-pl.length)) with ⟨i,b2,c1,c2,c3,c4,c5⟩|⟨j',b2,b',c,b0,q1,q2,q3,q4,q5,q6,q7,q8,q9,po,wE,qD⟩|⟨c1,c2,c3⟩
    ·have hi:i=j-pl.length:=by omega
     subst hi
     rw[show pl.length+(j-pl.length)=j by omega] at c2 c5
     rw[hj] at c2;cases c2
     exact ⟨_,_,J6,c3,.of σ _,fun _=>c5⟩
    ·rw[sK _ hm] at q5;cases q5
    ·obtain ⟨b',zB,he⟩:=EE (hp:=hp) (l:=fr++bk) (List.mem_append.2 (.inl hm))
     rw[J5,c1,sK _ hm] at he
     cases he
  ·rw[gW] at hj
   have:=List.getElem?_eq_none_iff.1 hj
   rw[qC,lJ,List.getElem?_eq_none_iff,List.length_append,J3]
   omega
  ·rw[qC,lJ] at hj
   by_cases dd:j<pl.length
   ·rw[List.getElem?_append_left dd] at hj
    obtain ⟨aA,b1,e,_⟩:=Fw j _ hj
    cases e
   ·have RU:j-pl.length<bs.length-pl.length:=by
     have:=(List.getElem?_eq_some_iff.1 hj).1
     rw[List.length_append,J3] at this
     omega
    rw[List.getElem?_append_right (by omega),Fv RU] at hj
    cases hj
 have hle:Le P w I β hp w' I2 au gS:=by
  refine ⟨wD.dE,wD.cp,fun id blk af=> ?_,fun id blk blk' b af bC qE hb=> ?_,fun id e es ak e' aQ vers' b q i c t v e1 l af bC hb aX hv ht hc=> ?_⟩
  ·rcases cls id with ⟨i,b2,c1,c2,c3,c4,c5⟩|⟨j',b2,b',c,b0,q1,q2,q3,q4,q5,q6,q7,q8,q9,po,wE,qD⟩|⟨c1,c2,c3⟩
   ·rw[af] at c4;cases c4
   ·rw[af] at q5;cases q5
    exact ⟨b',q7,q6,fun _=>po⟩
   ·exact ⟨blk,c1.trans af,ah.le_refl _,fun _=>c3⟩
  ·rcases cls id with ⟨i,b2,c1,c2,c3,c4,c5⟩|⟨j',b2,b',c,b0,q1,q2,q3,q4,q5,q6,q7,q8,q9,po,wE,qD⟩|⟨c1,c2,c3⟩
   ·rw[af] at c4;cases c4
   ·rw[q7] at bC;cases bC
    exact wD.size j' c b2 b q3 (by rw[gW];exact q2) (q8.RO qE) (q4.J4.1.trans hb)
   ·rw[c1,af] at bC
    cases bC
    simp only[bsize,(other id blk b af (.root qE hb) c2).2.1]
  ·rcases cls id with ⟨i2,b2,c1,c2,c3,c4,c5⟩|⟨j',b2,b',c',b0,q1,q2,q3,q4,q5,q6,q7,q8,q9,po,wE,qD⟩|⟨c1,c2,c3⟩
   ·rw[af] at c4;cases c4
   ·rw[q7] at bC;cases bC
    obtain ⟨_,_,ug,_,_,k1,k2⟩:=q9 ⟨_,_,_,rfl⟩
    change hp id=_ at k1
    rw[af] at k1;cases k1
    cases k2
    rw[RP aX] at hv
    omega
   ·rw[c1,af] at bC
    cases bC
    exact ⟨l,rfl,hc.mono fun _ _ _ _ h=>(other id _ _ af (.row hb h) c2).2.1⟩
 have place: ∀id blk b,gS id=some blk→bw P w' (au id) blk b→(∃j c,jz bs j=some c∧bw P w' (b9 j) c b∧eC σ j=some (.blk id))∨(b<w.heap.size∧¬ov P w o hp0 b∧hp id=some blk∧bw P w (β id) blk b):=by
  intro id blk b e1 e3
  rcases cls id with ⟨i,b2,c1,c2,c3,c4,c5⟩|⟨j',b2,b',c,b0,q1,q2,q3,q4,q5,q6,q7,q8,q9,po,wE,qD⟩|⟨c1,c2,c3⟩
  ·rw[c3] at e1;cases e1
   rw[c5] at e3
   refine .inl ⟨pl.length+i,b2,by rw[gW];exact c2,(gz.of σ b2).ue e3,?_⟩
   have:=(List.getElem?_eq_some_iff.1 c2).1
   rw[qC,lJ,List.getElem?_append_right (by omega),Fv (by omega),c1]
   congr 3
   omega
  ·rw[q7] at e1;cases e1
   have qE:b2≠ .dead:=q8.RO e3.alive
   rw[po,←qD qE] at e3
   exact .inl ⟨j',b2,by rw[gW];exact q2,q8.ue e3,by rw[qC];exact ot (by rw[lJ];exact q1)⟩
  ·rw[c1] at e1
   rw[c3] at e3
   have:=e3.mono (w:=w) fun b hb=>(other id blk b e1 hb c2).2.1
   exact .inr ⟨S.h.lt e1 this,(other id blk b e1 this c2).1,e1,this⟩
 have sw: ∀b,ov P w o hp0 b∨w.heap.size≤b→M b∨B≤b:=by
  rintro b (h|h)
  ·obtain ⟨j,id,b1,i1,i2,i3,_⟩:=RT b h
   exact S.h.own id b1 b i2 i3
  ·exact .inr (Nat.le_trans S.size h)
 have J7: ∀j c b,jz bs j=some c→bw P w' (b9 j) c b→ov P w o hp0 b∨w.heap.size≤b:=fun j c b h1 h2=>Sc.h.own j c b h1 h2
 refine ⟨au,hle,⟨⟨fun id blk af=> ?_,fun i1 i2 b1 b2 b e1 e2 f1 f2=> ?_,fun id blk b af hb=> ?_,Sc.h.jC⟩,fun b hb hM=> ?_,Nat.le_trans S.size Sc.size,fun b hb=> ?_,⟨Sc.io.1.trans S.io.1,Sc.io.2.trans S.io.2⟩⟩,sE⟩
 ·rcases cls id with ⟨i,b2,c1,c2,c3,c4,c5⟩|⟨j',b2,b',c,b0,q1,q2,q3,q4,q5,q6,q7,q8,q9,po,wE,qD⟩|⟨c1,c2,c3⟩
  ·rw[c3] at af;cases af
   rw[c5]
   exact sE.RN (Sc.h.rel _ b2 (by rw[gW];exact c2)) (.of σ b2)
  ·rw[q7] at af;cases af
   have:=sE.RN (Sc.h.rel j' b2 (by rw[gW];exact q2)) q8
   by_cases qE:b2= .dead
   ·subst qE
    cases q8
    exact .dead
   ·rw[po,←qD qE]
    exact this
  ·rw[c1] at af
   rw[c3]
   exact (S.h.rel id blk af).mono hle fun b hb=>(other id blk b af hb c2).2
 ·rcases place i1 b1 b e1 f1 with ⟨j1,c1,g1,g2,g3⟩|⟨g1,g2,g3,g4⟩<;>rcases place i2 b2 b e2 f2 with ⟨j2,c2,k1,k2,k3⟩|⟨k1,k2,k3,k4⟩
  ·have:=Sc.h.inj j1 j2 c1 c2 b g1 k1 g2 k2
   subst this
   rw[g3] at k3
   cases k3
   rfl
  ·rcases J7 j1 c1 b g1 g2 with h|h
   ·exact absurd h k2
   ·omega
  ·rcases J7 j2 c2 b k1 k2 with h|h
   ·exact absurd h g2
   ·omega
  ·exact S.h.inj i1 i2 _ _ b g3 k3 g4 k4
 ·rcases place id blk b af hb with ⟨j1,c1,g1,g2,g3⟩|⟨g1,g2,g3,g4⟩
  ·exact sw b (J7 j1 c1 b g1 g2)
  ·exact S.h.own id blk b g3 g4
 ·refine (Sc.cp b (Nat.lt_of_lt_of_le hb S.size) fun hx=> ?_).trans (S.cp b hb hM)
  rcases sw b (.inl hx) with h|h
  ·exact hM h
  ·omega
 ·rcases Sc.new b hb with h|h|h
  ·exact S.new b h
  ·exact .inr (sw b (.inl h))
  ·exact .inr (sw b (.inr h))
end
section
variable {P:Program} {A:cM} {w w':World} {I I' I2:Nat→Prop} {μ β au b9:Nat→Option Nat} {hp hp' hp0 br:Nat→Option ah} {C:ae} {B:Nat} {M:Nat→Prop} {w0:Start}
theorem RV (hp:Nat→Option ah): ∀(a b:List (Nat × ah)),bO hp (a++b)=bO (bO hp b) a
 | [],b=>rfl
 | (i,x)::a,b=>by simp only[List.cons_append,bO,RV hp a b]
theorem uh {hp:Nat→Option ah} {l:List (Nat × ah)} {id:Nat} (h: ∀q∈l,q.1≠id):bO hp l id=hp id:=by
 rcases tH (hp:=hp) (l:=l) (id:=id) with h1|⟨b,hb,_⟩
 ·exact h1
 ·exact absurd rfl (h _ hb)
def wF (P : Program) : Prop := ∀ (f : Nat) fn, P.funcs[f]? = some fn → (fn.name == "runtime.NumGoroutine") = false
def Fz (P:Program) (f:FuncId) (e:TypeId):Prop:=
 (∀args w,(callFunc f args).run P w= .ok (.enter f args) w)∧∃t,P.underlying t=some (.slice e)∧
  ∀(s:Value) (w:World) (Q:Ending→World→Prop),(s= .slice none 0 0→Q (.returned (.slice none 0 0)) w)→
   (∀a n c,s= .slice (some a) n c→∃v w',(Builtin.append_ #[t,t] t #[.slice (some ⟨w.heap.size,0,none⟩) 0 0,s]).run P (w.alloc (.cells #[] e))= .ok v w'∧Q (.returned v) w')→
   (s= .slice none 0 0∨∃a n c,s= .slice (some a) n c)→Calls P f #[s] w Q
structure js (P:Program) (A:cM):Prop where
 count:wF P
 ext: ∀f T,A.ext f=some T→∀(b:Nat) (C:Array Value) (w:World),w.heap[b]? =some (.cells C T (0,0))→C.size=P.cellsOf T→(C[0]? =some (.pointer none)∨C[0]? =some (.pointer (some ⟨b,0,none⟩)))→
  (callFunc f #[.pointer (some ⟨b,0,none⟩)]).run P w= .ok (.enter f #[.pointer (some ⟨b,0,none⟩)]) w∧
  Calls P f #[.pointer (some ⟨b,0,none⟩)] w fun e w'=>e= .returned (.tuple #[])∧(w'=w∨w'=w.setCell ⟨b,0,none⟩ (.pointer (some ⟨b,0,none⟩)))
 idle: ∀f,A.idle f=true→(∀args w,(callFunc f args).run P w= .ok (.enter f args) w)∧
  ∀args w,CallsD P f args .returning w fun e u' w'=>(∃v,e= .returned v)∧u'= .returning∧w'=w
 n0: ∀f e,A.n0 f=some e→Fz P f e
theorem js.here {P:Program} {A:cM} (h:js P A) (f id:Nat):js P (A.here f id):=⟨h.count,h.ext,h.idle,h.n0⟩
def Ac (E:FuncId→Bool) (d:Deferred):Prop:= ∃f cap,d.target= .fn (.func f) cap∧E f=true
theorem J8 {P:Program} {A:cM} (hP:js P A) {fn:Func} {tmps:Array Value} {R:Ending→World→Prop} {w:World} {v:Value} (hv:(results fn tmps).run P w= .ok v w) (hR:R (.returned v) w):
  ∀ds:List Deferred,(∀d∈ds,Ac A.idle d)→Leaves P fn tmps R ds .returning w
 | [],_=>⟨v,hv,hR⟩
 | d::ds,h=>by
  obtain ⟨f,cap,ht,hf⟩:=h d (by simp)
  obtain ⟨k1,k2⟩:=hP.idle f hf
  obtain ⟨t,RW⟩:=d
  simp only at ht
  subst ht
  refine leaves_cons (f:=f) (args:=RW++cap) (by simp) ?_ ?_
  ·simp only[invoke];exact k1 _ w
  ·refine (k2 (RW++cap) w).mono fun e u' w' hr=> ?_
   obtain ⟨⟨v',rfl⟩,rfl,rfl⟩:=hr
   exact J8 hP hv hR ds fun d hd=>h d (List.mem_cons_of_mem _ hd)
def Ad (P:Program) (A:cM) (o:Oper) (a:Act) (w:World) (I:Nat→Prop) (β:Nat→Option Nat) (hp:Nat→Option ah) (B:Nat) (M:Nat→Prop) (w0:Start) (r:R):Prop:=
 ∀(next:Act→World→Prop) (Q:Exit→Act→World→Prop),
  (∀v w' I' au ds,Le P w I β hp w' I' au (bO hp r.upd)→aE P w' I' au (bO hp r.upd) B M w0→ai P w' I' au (bO hp r.upd) v r.v→(∀d∈ds,d∈a.defers∨Ac A.idle d)→next ({a with defers:=ds}.put o.dst v) w')→o.wp P a w next Q
theorem o6.step {o:Oper} {a:Act} {r:R} (h:o6 P ((execOp a.eval o).run P w) w I β hp B M w0 r):Ad P A o a w I β hp B M w0 r:=by
 obtain ⟨v,w',I',au,h1,h2,h3,h4⟩:=h
 intro next Q hn
 unfold Oper.wp
 rcases h1 with h1|⟨h1,rfl⟩
 ·rw[h1];exact hn v w' I' au a.defers h2 h3 h4 fun d hd=> .inl hd
 ·rw[h1];exact hn _ w' I' au a.defers h2 h3 h4 fun d hd=> .inl hd
theorem RX: ∀(l:List (Nat × VS)),n8 l=sk (l.map (·.2))
 | []=>rfl
 | (_,s)::l=>by simp only[n8,List.map_cons,sk,RX l]
theorem ab6 (hC:kM P A C) (S:aE P w I β hp B M w0) (hg:gR P A.aC w I) {vals:List Value} {args:List V} {nb key:Nat} {f:FuncId} {r:R} {rd:List Nat} (hlen:vals.length=args.length)
  (cN: ∀(j:Nat) v x,vals[j]? =some v→args[j]? =some x→ai P w I β hp v x) (h:(zg P A nb key f args).run C hp=some (r,rd)):
  ∃fn c,P.funcs[f]? =some fn∧fn.body=some c∧Calls P f vals.toArray w fun e w'=> ∃v I' au,e= .returned v∧Le P w I β hp w' I' au (bO hp r.upd)∧aE P w' I' au (bO hp r.upd) B M w0∧ai P w' I' au (bO hp r.upd) v r.v:=by
 unfold zg at h
 obtain ⟨RY,h0⟩:=aH h
 clear h
 rw[Nat.beq_eq] at RY
 subst RY
 obtain ⟨h1,jr,d1,u1,a1,a2,a3,a5,a4⟩:=J0 S h0 hlen cN
 obtain ⟨h2,sJ,d2,u2,b1,b2,b3,b4⟩:=RC S a1
 clear h0 a1
 obtain ⟨hc,h3⟩:=aH b1
 clear b1
 simp only[Bool.and_eq_true,Nat.beq_eq,Bool.not_eq_true'] at hc
 obtain ⟨fN,uf⟩:=hc
 have oy:=a2.trans b2
 have lq:h2.ds=d1++d2:=by have:=oy.ds;simpa using this
 have FA:h2.upd=u1++u2:=by have:=oy.upd;simpa using this
 have kj:(h2.pl.map Place.id).Nodup:=oy.nodup (by simp)
 obtain ⟨c1,o,c2,c3⟩:=b4 []
 simp only[List.append_nil] at c1 c2 c3
 cases Ae:C key h2.ds with
 | none=>
  simp only[Rd.run,Ae] at h3
  cases h3
 | some es=>
  have qh: ∃ff,(zf P (A.so key es) nb h2 (A.lv key es)).run C hp=some (r,ff):=by
   obtain ⟨x,hx,e⟩:=bind_some h3
   rw[Ae] at hx
   cases hx
   unfold cM.so cM.lv
   cases cq:A.alt key with
   | none=>rw[cq] at e;exact ⟨_,e⟩
   | some S2=>
    rw[cq] at e
    simp only[Rd.run] at e
    cases hb:(V.nth es 0).toBool<;>(rw[hb] at e;exact ⟨_,e⟩)
  clear h3
  obtain ⟨ff,h3⟩:=qh
  unfold zf at h3
  simp only at h3
  generalize gT:eZ (A.so key es).aW ((A.lv key es).drop (n8 (A.so key es).bJ))=bs at h3
  generalize qC:h2.pl++sm nb (bs.length-h2.pl.length)=σ at h3
  generalize Ab:qc σ nb (bs.drop h2.pl.length)=fr at h3
  obtain ⟨p0,bk,rd4,p1,p2,_,p3⟩:=RJ h3
  obtain ⟨sK,rd5,p4⟩:=RM p1
  obtain rfl:=aS p4
  have qm:h2.pl.length≤bs.length:=by rw[List.length_take] at p0;omega
  have Fx: ∀q∈bk,∃(j:Nat) (b:ah),h2.pl[j]? =some (.blk q.1)∧bs[j]? =some b∧gz σ b q.2∧Aa hp q:=by
   intro q hq
   rcases p2 q hq with hx|⟨j,b,k1,k2,k3,k4⟩
   ·simp at hx
   ·have hj:=(List.getElem?_eq_some_iff.1 k1).1
    rw[List.getElem?_take_of_lt hj] at k2
    exact ⟨j,b,k1,k2,k3,k4⟩
  obtain ⟨fn,c,hf,hb,J9⟩:=hC key h2.ds es Ae
  refine ⟨fn,c,hf,hb,?_⟩
  have hmb:eZ (A.sin key).aW (h2.ds.drop (n8 (A.sin key).bJ))=eZ (A.sin key).aW d2:=by
   rw[lq,RX,nE a3]
  have Ka:(bm (A.sin key) h2.ds).hp=jz (eZ (A.sin key).aW d2):=by
   simp only[bm,mk,hmb]
  have hl: ∀j blk,(bm (A.sin key) h2.ds).hp j=some blk→∃p,eC h2.pl j=some p∧ep P w β hp p (o j) blk:=by
   intro j blk hj
   rw[Ka,gW] at hj
   obtain ⟨p,k1,k2⟩:=c2 j blk hj
   rw[Nat.zero_add] at k1
   exact ⟨p,k1,k2⟩
  have hd: ∀j,j<h2.pl.length→∃blk,(bm (A.sin key) h2.ds).hp j=some blk:=by
   intro j hj
   rw[Ka,gW]
   exact ⟨_,List.getElem?_eq_getElem (by rw[c1,←fN];exact hj)⟩
  have RZ:z6 P w β hp h2.pl o (bm (A.sin key) h2.ds).hp:=by
   intro j p hj
   obtain ⟨blk,k1⟩:=hd j (by rw[lJ] at hj;exact (List.getElem?_eq_some_iff.1 hj).1)
   obtain ⟨p',k2,k3⟩:=hl j blk k1
   rw[hj] at k2
   cases k2
   exact ⟨blk,k1,k3⟩
  obtain ⟨qt,S1⟩:=zA S oy.Fo
  rw[←FA] at qt S1
  have i1: ∀b,I b→iJ P w I β hp h2.upd b:=fun b h=> .inl h
  have entry:=ab1 (hp0:=(bm (A.sin key) h2.ds).hp) S kj uf hl (fun cW j blk hj=>by
   have gK:=hj
   rw[Ka,gW] at gK
   exact c3 (iJ P w I β hp h2.upd) o _ i1 (fun q hq b hb=> .inr ⟨q,by rw[FA];exact List.mem_append.2 (.inr hq),hb⟩) h2.pl [] (by simp) RZ j blk gK (cW j blk hj)) S1.h.jC
  have ab7:vals.length=(A.sin key).bJ.length:=by rw[hlen,←a5];simp
  have ha:=J9 w (iJ P w I β hp h2.upd) o vals entry (hg.mono i1 fun _ _=>rfl) ab7 fun j v x hj hx=>by
   rw[lq] at hx
   exact (((a4.later b2) (iJ P w I β hp h2.upd) o _ i1 (fun q hq b hb=> .inr ⟨q,by rw[FA];exact hq,hb⟩) h2.pl [] (by simp) RZ) d2).2 j v x hj hx
  refine ha.mono fun e w' Af=> ?_
  obtain ⟨v,I2,b9,rfl,ha⟩:=Af
  have wG:(bm (A.so key es) (A.lv key es)).hp=jz bs:=by simp only[bm,mk,gT]
  cases ab8:(A.so key es).safe P with
  | true=>
   simp only[cond_true,List.append_nil]
   have kJ: ∀b,I b→I2 b:=fun b h=>ha.le.dE b (i1 b h)
   obtain ⟨s1,s2⟩:=ab4 ab8 kJ ha.wC i1
   have wD:kK w I o (bm (A.sin key) h2.ds).hp w' I b9 (jz bs):=by
    rw[←wG]
    exact ⟨fun _ h=>h,fun b h=>ha.le.cp b (i1 b h),ha.le.blk,ha.le.size⟩
   obtain ⟨au,k1,k2,k3⟩:=RR S qC.symm Ab.symm kj qm p3 Fx hl hd (by rw[←wG];exact ⟨s1.h,s1.cp,s1.size,fun b h=> .inl h,s1.io⟩) wD sK
   exact ⟨v,I,au,rfl,k1,k2,k3.val (by have:=s2 v ha.res;rw[wG] at this;exact this)⟩
  | false=>
   simp only[cond_false]
   rw[←List.append_assoc,RV]
   have ox: ∀p∈h2.pl,bO hp h2.upd p.id=hp p.id:=fun p hp=>uh fun q hq e=>
    Fu uf (List.mem_map.2 ⟨q,hq,rfl⟩) (e▸List.mem_map.2 ⟨p,hp,rfl⟩)
   have ab9: ∀q∈bk,∃(j:Nat) (b:ah),h2.pl[j]? =some (.blk q.1)∧bs[j]? =some b∧gz σ b q.2∧Aa (bO hp h2.upd) q:=by
    intro q hq
    obtain ⟨j,b,k1,k2,k3,k4⟩:=Fx q hq
    refine ⟨j,b,k1,k2,k3,fun hn=> ?_⟩
    have:=ox _ (List.mem_of_getElem? k1)
    simp only[Place.id] at this
    rw[this]
    exact k4 hn
   have vV: ∀j blk,(bm (A.sin key) h2.ds).hp j=some blk→∃p,eC h2.pl j=some p∧ep P w β (bO hp h2.upd) p (o j) blk:=by
    intro j blk hj
    obtain ⟨p,k1,k2⟩:=hl j blk hj
    exact ⟨p,k1,k2.other (ox p (by rw[lJ] at k1;exact List.mem_of_getElem? k1))⟩
   have aca: ∀q∈fr,bO hp h2.upd q.1=none:=by
    intro q hq
    rw[uh fun q' ca e=> ?_]
    ·exact sK q hq
    ·obtain ⟨e1,cy,_,h5⟩:=oy.Fo q' (FA▸ca)
     rw[e,sK q hq] at h5
     rcases h5 with ⟨_,h5⟩|⟨_,h5⟩<;>cases h5
   obtain ⟨au,k1,k2,k3⟩:=RR S1 qC.symm Ab.symm kj qm p3 ab9 vV hd (by rw[←wG];exact ha.wC) (by rw[←wG];exact ha.le) aca
   exact ⟨v,I2,au,rfl,qt.trans k1,k2,k3.val (by have:=ha.res;rw[wG] at this;exact this)⟩
theorem R0 (hC:kM P A C) (hP:js P A) (S:aE P w I β hp B M w0) (hg:gR P A.aC w I) {a:Act} {nb key:Nat} {o:Oper} {f:FuncId} {vals:List Value} {args:List V} (hlen:vals.length=args.length)
  (cN: ∀(j:Nat) v x,vals[j]? =some v→args[j]? =some x→ai P w I β hp v x) {r:R} {rd:List Nat} (h:(zg P A nb key f args).run C hp=some (r,rd))
  (hex:(execOp a.eval o).run P w=(callFunc f vals.toArray).run P w):Ad P A o a w I β hp B M w0 r:=by
 intro next Q hn
 obtain ⟨fn,c,hf,hb,J9⟩:=ab6 hC S hg hlen cN h
 unfold Oper.wp
 rw[hex,MuLone.run_callFunc_enter hf (hP.count f _ hf) hb,Oper.upon_enter]
 refine J9.mono fun e w' Af=> ?_
 obtain ⟨v,I2,b9,rfl,k1,k2,k3⟩:=Af
 exact hn v w' I2 b9 a.defers k1 k2 k3 fun d hd=> .inl hd
theorem kF.args {a:Act} {sl:Nat→V} (hs:kF P w I β hp a sl) (hg:gR P A.aC w I) {args:Array Operand} {ts:Array TypeId} (a8:args.size=ts.size):
  (args.map a.eval).toList.length=((args.toList.zip ts.toList).map fun p=>aT P A.aC p.2 sl p.1).length∧
  ∀(j:Nat) v x,(args.map a.eval).toList[j]? =some v→((args.toList.zip ts.toList).map fun p=>aT P A.aC p.2 sl p.1)[j]? =some x→ai P w I β hp v x:=by
 refine ⟨by simp;omega,fun j v x hv hx=> ?_⟩
 simp only[Array.toList_map,List.getElem?_map,List.getElem?_zip_eq_some,Option.map_eq_some_iff] at hv hx
 obtain ⟨x1,Ag,rfl⟩:=hv
 obtain ⟨⟨y1,t1⟩,⟨R3,_⟩,rfl⟩:=hx
 rw[Ag] at R3
 cases R3
 exact hs.ev hg t1 _
theorem R4 {vs us:List Value} {xs ys:List V} (h1:vs.length=xs.length) (h2: ∀(j:Nat) v x,vs[j]? =some v→xs[j]? =some x→ai P w I β hp v x)
  (h3: ∀(j:Nat) v x,us[j]? =some v→ys[j]? =some x→ai P w I β hp v x) (j:Nat) (v:Value) (x:V) (hv:(vs++us)[j]? =some v) (hx:(xs++ys)[j]? =some x):ai P w I β hp v x:=by
 by_cases hj:j<vs.length
 ·rw[List.getElem?_append_left hj] at hv
  rw[List.getElem?_append_left (by omega)] at hx
  exact h2 j v x hv hx
 ·rw[List.getElem?_append_right (by omega)] at hv
  rw[List.getElem?_append_right (by omega)] at hx
  rw[h1] at hv
  exact h3 _ v x hv hx
theorem acb (hP:js P A) (S:aE P w I β hp B M w0) (hg:gR P A.aC w I) {a:Act} {sl:Nat→V} (hs:kF P w I β hp a sl) {dst:Option Tmp} {ty e:TypeId} {pos:String} {after:Array Edge} {guard:Option (Nat × Bool)} {f:FuncId}
  {args:Array Operand} {argTypes:Array TypeId} {nb:Nat} {r:R} {rd:List Nat} (lI:A.n0 f=some e)
  (h:((match args.toList with
    | [x]=> .ay (c9 P e) (si e (aT P A.aC ty sl x) fun xs=> .ay (Nat.ble (xs.length*P.bytesOf e) cg) (ji nb (.arr e xs false) (.whole e nb) []))
    | _=> .fail):Rd R).run C hp=some (r,rd)):Ad P A (Oper.mk dst (.call (Go.Call.mk (.value (.func f)) args argTypes)) ty pos after guard) a w I β hp B M w0 r:=by
 cases ha:args.toList with
 | nil=>rw[ha] at h;cases h
 | cons x l=>
  rw[ha] at h
  cases l with
  | cons _ _=>cases h
  | nil=>
   simp only at h
   have e1:args= #[x]:=by rw[←Array.toArray_toList (xs:=args),ha]
   subst e1
   have hx:=hs.ev hg ty x
   obtain ⟨aw,h⟩:=aH h
   have fin: ∀{w1:World} {FB:Nat→Option Nat},(∀id blk,hp id=some blk→en P w1 I FB hp (FB id) blk)→ai P w1 I FB hp (a.eval x) (aT P A.aC ty sl x)→∃xs,(((∃a',a.eval x= .slice a' 0 0)∧xs=[])∨∃a' c news,Row P w1 I e (a.eval x) xs a' c news)∧
     xs.length*P.bytesOf e≤cg∧hp nb=none∧r=⟨.whole e nb,[(nb,.arr e xs false)]⟩:=by
    intro w1 FB h1 h2
    obtain ⟨xs,lH,l,h⟩:=E4 h1 aw h2 h
    obtain ⟨eT,h⟩:=aH h
    rw[Nat.ble_eq] at eT
    obtain ⟨hn,rfl⟩:=nA h
    exact ⟨xs,lH,eT,hn,rfl⟩
   obtain ⟨c1,t,hu,c2⟩:=hP.n0 f e lI
   intro next Q wH
   unfold Oper.wp
   have e2:(execOp a.eval ⟨dst,.call ⟨.value (.func f),#[x],argTypes⟩,ty,pos,after,guard⟩).run P w= .ok (.enter f #[a.eval x]) w:=by
    have fg:a.eval (.func f)= .func (.func f) #[] #[]:=rfl
    simpa[execOp,resolve,fg,Deferred.ofValue,invoke] using c1 #[a.eval x] w
   rw[e2,Oper.upon_enter]
   refine c2 _ w _ (fun Ah=> ?_) (fun b n c wi=> ?_) ?_
   ·obtain ⟨xs,lH,eT,hn,rfl⟩:=fin S.h.rel hx
    have gL:xs=[]:=by
     rcases lH with ⟨_,h⟩|⟨a,c,news,hr⟩
     ·exact h
     ·have:=hr.val.symm.trans Ah
      cases this
    subst gL
    obtain ⟨a1,a2⟩:=EH S e hn
    exact wH _ w I _ a.defers a1 a2 (.dZ (dc _ _ _) (dc _ _ _)) fun d hd=> .inl hd
   ·obtain ⟨m1,m2⟩:=aal (w':=w.alloc (.cells #[] e)) S (fun b hb=>heap_alloc_old w _ b hb) (by simp) ⟨rfl,rfl⟩
    obtain ⟨xs,lH,eT,hn,rfl⟩:=fin m2.h.rel (hx.mono m1)
    obtain ⟨v,w',au,a1,a2,a3,a4⟩:=Jx (ty:=t) (a0:=some ⟨w.heap.size,0,none⟩) m2 hu aw hn eT lH
    exact ⟨v,w',a1,wH v w' I au a.defers (m1.trans a2) a3 a4 fun d hd=> .inl hd⟩
   ·obtain ⟨xs,lH,eT,hn,rfl⟩:=fin S.h.rel hx
    rcases lH with ⟨⟨b,h⟩,_⟩|⟨b,c,news,hr⟩
    ·rw[h]
     cases b with
     | none=>exact .inl rfl
     | some b=>exact .inr ⟨_,_,_,rfl⟩
    ·exact .inr ⟨_,_,_,hr.val⟩
theorem acd (hP:js P A) (S:aE P w I β hp B M w0) (hg:gR P A.aC w I) {a:Act} {sl:Nat→V} (hs:kF P w I β hp a sl) {dst:Option Tmp} {ty T0:TypeId} {pos:String} {after:Array Edge} {guard:Option (Nat × Bool)} {f:FuncId}
  {args:Array Operand} {argTypes:Array TypeId} {r:R} {rd:List Nat} (Ai:A.ext f=some T0)
  (h:((match args.toList with
   | [x]=>
    match aT P A.aC ty sl x with
    | .ptr id i c=>Rd.get id fun
     | some (.var T cs)=> .ay (Nat.beq T T0&&(oV P T&&(Nat.beq cs.length (P.cellsOf T)&&(Nat.beq i 0&&Nat.beq c 0)))) (.ret ⟨.bj [],[(id,.var T (.undef::cs.tail))]⟩)
     | _=> .fail
    | _=> .fail
   | _=> .fail):Rd R).run C hp=some (r,rd)):Ad P A (Oper.mk dst (.call (Go.Call.mk (.value (.func f)) args argTypes)) ty pos after guard) a w I β hp B M w0 r:=by
 cases ha:args.toList with
 | nil=>rw[ha] at h;cases h
 | cons x l=>
  rw[ha] at h
  cases l with
  | cons _ _=>cases h
  | nil=>
   simp only at h
   have e1:args= #[x]:=by rw[←Array.toArray_toList (xs:=args),ha]
   subst e1
   have hx:=hs.ev hg ty x
   cases fC:aT P A.aC ty sl x<;>rw[fC] at h hx<;>simp only at h<;>first|(cases h;done)|skip
   rename_i id i c
   obtain ⟨l,h1⟩:=run_get h
   cases af:hp id with
   | none=>rw[af] at h1;cases h1
   | some blk=>
    rw[af] at h1
    cases blk<;>simp only at h1<;>first|(cases h1;done)|skip
    rename_i T cs
    obtain ⟨h2,h3⟩:=aH h1
    simp only[Bool.and_eq_true,Nat.beq_eq] at h2
    obtain ⟨rfl,cK,hlc,rfl,rfl⟩:=h2
    obtain rfl:=aS h3
    obtain ⟨b,hb,he⟩:=hx.gU af (by simp)
    have hr:=S.h.rel id _ af
    rw[hb] at hr
    cases hr with
    | @var _ b' Ca _ ax hh a8 hI gL gv=>
     cases ax
     have tU:a.eval x= .pointer (some ⟨b,0,none⟩):=by rw[he];simp[ah.sz]
     obtain ⟨q1,q2⟩:=hP.ext f T Ai b Ca w hh (a8.trans hlc) (gv cK)
     have h0:0<Ca.size:=by
      rcases gv cK with k|k<;>exact (Array.getElem?_eq_some_iff.1 k).1
     have og:(V.undef::cs.tail).length=cs.length:=by
      cases cs with
      | nil=>rw[a8] at h0;simp at h0
      | cons _ _=>rfl
     have rel: ∀(C':Array Value),(∀j,0<j→C'[j]? =Ca[j]?)→∀(j:Nat) v y,C'[j]? =some v→(V.undef::cs.tail)[j]? =some y→ai P w I β hp v y:=by
      intro C' wm j v y hj hy
      cases j with
      | zero=>simp at hy;subst hy;exact .undef
      | succ j=>
       rw[wm _ (by omega)] at hj
       refine gL (j+1) v y hj ?_
       cases cs with
       | nil=>rw[a8] at h0;simp at h0
       | cons _ _=>simpa using hy
     have fin: ∀w' C',(∀b',b'≠b→w'.heap[b']? =w.heap[b']?)→w'.heap[b]? =some (.cells C' T (0,0))→C'.size=Ca.size→w.heap.size≤w'.heap.size→w'.os=w.os∧w'.output=w.output→
       (∀j,0<j→C'[j]? =Ca[j]?)→(C'[0]? =some (.pointer none)∨C'[0]? =some (.pointer (some ⟨b,0,none⟩)))→
       Le P w I β hp w' I β (aK hp id (some (.var T (V.undef::cs.tail))))∧aE P w' I β (aK hp id (some (.var T (V.undef::cs.tail)))) B M w0:=by
      intro w' C' k1 k2 k3 k4 k5 k6 k7
      exact EJ (w':=w') (blk':= .var T (V.undef::cs.tail)) S af (by simp) rfl hb hI (by simp) k1 (by rw[nt k2,nt hh,k3]) k4 k5 fun hle=>
       .var rfl k2 (by rw[k3,a8,og]) hI (fun j v y hj hy=>(rel C' k6 j v y hj hy).mono hle) fun _=>k7
     intro next Q hn
     unfold Oper.wp
     have e2:(execOp a.eval ⟨dst,.call ⟨.value (.func f),#[x],argTypes⟩,ty,pos,after,guard⟩).run P w= .ok (.enter f #[.pointer (some ⟨b,0,none⟩)]) w:=by
      have fg:a.eval (.func f)= .func (.func f) #[] #[]:=rfl
      simpa[execOp,resolve,fg,Deferred.ofValue,invoke,tU] using q1
     rw[e2,Oper.upon_enter]
     refine q2.mono fun e w' Af=> ?_
     obtain ⟨rfl,hw⟩:=Af
     have R5:Le P w I β hp w' I β (aK hp id (some (.var T (V.undef::cs.tail))))∧aE P w' I β (aK hp id (some (.var T (V.undef::cs.tail)))) B M w0:=by
      rcases hw with rfl|rfl
      ·exact fin w' Ca (fun _ _=>rfl) hh rfl (Nat.le_refl _) ⟨rfl,rfl⟩ (fun _ _=>rfl) (gv cK)
      ·refine fin (w.setCell ⟨b,0,none⟩ (.pointer (some ⟨b,0,none⟩))) (Ca.setIfInBounds 0 (.pointer (some ⟨b,0,none⟩))) (fun b' bP=> ?_) ?_ (by simp) (by simp[World.setCell]) ⟨rfl,rfl⟩ (fun j hj=> ?_) (.inr ?_)
       ·simp only[World.setCell,Array.getElem?_modify]
        rw[if_neg (fun e=>bP e.symm)]
       ·simp[World.setCell,Array.getElem?_modify,hh]
       ·rw[Array.getElem?_setIfInBounds_ne (by omega)]
       ·rw[Array.getElem?_setIfInBounds_self_of_lt h0]
     exact hn (.tuple #[]) w' I β a.defers R5.1 R5.2 (.bj rfl fun j v y hj _=>by simp at hj) fun d hd=> .inl hd
theorem ace (hC:kM P A C) (hP:js P A) (S:aE P w I β hp B M w0) (hg:gR P A.aC w I) {a:Act} {sl:Nat→V} (hs:kF P w I β hp a sl) {ix nb:Nat} {o:Oper} {r:R} {rd:List Nat}
  (h:(fK P A sl ix nb o).run C hp=some (r,rd)):Ad P A o a w I β hp B M w0 r:=by
 cases hc:JR o.op with
 | false=>exact (abK S hg hs hc h).step
 | true=>
  obtain ⟨dst,op,ty,pos,after,guard⟩:=o
  cases op<;>simp only[JR] at hc<;>first|(cases hc;done)|skip
  case defer c=>
   obtain ⟨callee,args,argTypes⟩:=c
   cases callee with
   | invoke r m=>simp only[fK] at h;cases h
   | builtin b=>simp only[fK] at h;cases h
   | value f=>
   cases f with
   | tmp t=>
    simp only[fK] at h
    cases cK:sl t<;>rw[cK] at h<;>simp only at h<;>first|(cases h;done)|skip
    rename_i f xs ys
    obtain ⟨h1,h2⟩:=aH h
    obtain rfl:=aS h2
    have hv:=hs t
    rw[cK] at hv
    generalize tZ:a.tmps.getD t undef=vt at hv
    cases hv with
    | @fn _ fs cs _ _ q1 q2 q3 q4=>
     intro next Q hn
     unfold Oper.wp
     have fg:a.eval (.tmp t)= .func (.func f) fs cs:=tZ
     have e1:(execOp a.eval ⟨dst,.defer ⟨.value (.tmp t),args,argTypes⟩,ty,pos,after,guard⟩).run P w= .ok (.defer {target:= .fn (.func f) cs,args:=fs++args.map a.eval}) w:=by
      simp[execOp,resolve,fg,Deferred.ofValue]
     rw[e1,Oper.upon_defer]
     exact hn undef w I β _ (Le.refl w I β hp) S .undef fun d hd=>by
      rcases List.mem_cons.1 hd with rfl|hd
      ·exact .inr ⟨f,cs,rfl,h1⟩
      ·exact .inl hd
   | func f=>simp only[fK] at h;cases h
   | const _=>simp only[fK] at h;cases h
   | global _=>simp only[fK] at h;cases h
  rename_i c
  obtain ⟨callee,args,argTypes⟩:=c
  cases callee with
  | invoke r m=>cases hc
  | builtin b=>cases hc
  | value f=>
   cases f with
   | func f=>
    simp only[fK] at h
    cases Ai:A.ext f with
    | some T0=>
     rw[Ai] at h
     simp only at h
     exact acd hP S hg hs Ai h
    | none=>
    rw[Ai] at h
    simp only at h
    cases lI:A.n0 f with
    | some e0=>
     rw[lI] at h
     simp only at h
     exact acb hP S hg hs lI h
    | none=>
    rw[lI] at h
    simp only at h
    obtain ⟨h1,h2⟩:=aH h
    rw[Nat.beq_eq] at h1
    obtain ⟨k1,k2⟩:=hs.args hg h1
    refine R0 hC hP S hg k1 k2 h2 ?_
    have e1:(args.map a.eval).toList.toArray=args.map a.eval:=Array.toArray_toList
    rw[e1]
    simp[execOp,resolve,Act.eval,Deferred.ofValue,invoke]
   | tmp t=>
    simp only[fK] at h
    cases cK:sl t<;>rw[cK] at h<;>simp only at h<;>first|(cases h;done)|skip
    rename_i f xs ys
    obtain ⟨h1,h2⟩:=aH h
    rw[Nat.beq_eq] at h1
    obtain ⟨k1,k2⟩:=hs.args hg h1
    have hv:=hs t
    rw[cK] at hv
    generalize tZ:a.tmps.getD t undef=vt at hv
    cases hv with
    | @fn _ fs cs _ _ q1 q2 q3 q4=>
     have l1:fs.toList.length=xs.length:=by simpa using q1
     have l3:cs.toList.length=ys.length:=by simpa using q3
     have r1: ∀(j:Nat) v x,fs.toList[j]? =some v→xs[j]? =some x→ai P w I β hp v x:=fun j v x hj hx=>q2 j v x (by simpa using hj) hx
     have r3: ∀(j:Nat) v x,cs.toList[j]? =some v→ys[j]? =some x→ai P w I β hp v x:=fun j v x hj hx=>q4 j v x (by simpa using hj) hx
     refine R0 hC hP S hg (vals:=fs.toList++(args.map a.eval).toList++cs.toList) (args:=xs++((args.toList.zip argTypes.toList).map fun p=>aT P A.aC p.2 sl p.1)++ys) (by simp only[List.length_append];omega) ?_ h2 ?_
     ·exact R4 (by simp only[List.length_append];omega) (R4 l1 r1 k2) r3
     ·have e1:(fs.toList++(args.map a.eval).toList++cs.toList).toArray=fs++args.map a.eval++cs:=by
       apply Array.toList_inj.1;simp
      rw[e1]
      have fg:a.eval (.tmp t)= .func (.func f) fs cs:=tZ
      simp[execOp,resolve,fg,Deferred.ofValue,invoke]
   | _=>cases hc
end
section
variable {P:Program} {A:cM} {w w':World} {I I' I2:Nat→Prop} {μ β au:Nat→Option Nat} {hp hp':Nat→Option ah} {C:ae} {B:Nat} {M:Nat→Prop} {w0:Start}
structure iQ (P:Program) (E:FuncId→Bool) (G:Nat→V) (w:World) (I:Nat→Prop) (β:Nat→Option Nat) (n:Nat) (a:Act) (st:St):Prop where
 sl:kF P w I β st.hp a st.sl
 size:a.tmps.size=n
 defers: ∀d∈a.defers,Ac E d
 aC:gR P G w I
theorem Kb {E:FuncId→Bool} {G:Nat→V} {n:Nat} {a:Act} {st:St} {o:Oper} {v:Value} {x:V} {hp':Nat→Option ah} {ds:List Deferred} (h:iQ P E G w I β n a st) (hle:Le P w I β st.hp w' I' au hp') (hd:sq o n=true)
  (hv:ai P w' I' au hp' v x) (lq: ∀d∈ds,d∈a.defers∨Ac E d):iQ P E G w' I' au n ({a with defers:=ds}.put o.dst v) ⟨hO st.sl o.dst x,hp',st.nb⟩:=by
 have R6: ∀d∈ds,Ac E d:=fun d hd=>(lq d hd).elim (h.defers d) id
 cases acf:o.dst with
 | none=>exact ⟨fun k=>(h.sl k).mono hle,h.size,R6,h.aC.mono hle.dE hle.cp⟩
 | some d=>
  have aX:d<a.tmps.size:=by
   unfold sq at hd
   rw[acf] at hd
   rw[h.size]
   simpa using hd
  refine ⟨fun k=> ?_,by simp[Act.put,h.size],R6,h.aC.mono hle.dE hle.cp⟩
  simp only[Act.put,hO,aK]
  cases hb:Nat.beq k d with
  | true=>
   rw[Nat.beq_eq] at hb
   subst hb
   simpa[aX] using hv
  | false=>
   have bP:d≠k:=fun e=>by rw[e,Nat.beq_refl] at hb;cases hb
   have:=(h.sl k).mono hle
   simpa[Array.getElem?_setIfInBounds_ne bP] using this
theorem R7 {E:FuncId→Bool} {G:Nat→V} {n:Nat} {a:Act} {st:St} {d:Nat} {b:Bool} (h:iQ P E G w I β n a st) (hd:st.sl d= .bool b):a.tmps[d]? =some (.bool b):=by
 have:=h.sl d
 rw[hd] at this
 have:=this.jF
 cases ht:a.tmps[d]? with
 | none=>simp[ht] at this;cases this
 | some v=>simp[ht] at this;rw[this]
theorem acg {x:V} {b:Bool} (h:lr x=some (some b)):x= .bool b:=by
 cases x with
 | bool c=>simp only[lr] at h;injection h with h;injection h with h;rw[h]
 | bj vs=>cases vs<;>simp[lr] at h
 | _=>simp[lr] at h
theorem ach {x:V} (h:lr x=some none):x= .bj []:=by
 cases x with
 | bj vs=>cases vs with
  | nil=>rfl
  | cons _ _=>simp[lr] at h
 | bool c=>simp[lr] at h
 | _=>simp[lr] at h
theorem ai.aci {v:Value} (h:ai P w I β hp v (.bj [])):v= .tuple #[]:=by
 cases h with
 | @bj cs _ hs _=>
  have:cs= #[]:=by
   apply Array.eq_empty_of_size_eq_zero
   simpa using hs
  rw[this]
theorem ai.R8:ai P w I β hp Go.undef (.bj []):= .bj (by rfl) (fun j v x _ hx=>by simp at hx)
theorem R9 (hC:kM P A C) (hP:js P A) {ops:Array Oper} {n i nb:Nat} {o:Oper} (ho:ops[i]? =some o) {a:Act} {st st':St} {R W:List Nat} (S:aE P w I β st.hp B M w0) (hA:iQ P A.idle A.aC w I β n a st)
  (h:gP P A C n ops i o nb st=some (st',R,W)) {K:Act→World→Prop} {Q:Exit→Act→World→Prop}
  (hK: ∀a' w' I' au,Le P w I β st.hp w' I' au st'.hp→aE P w' I' au st'.hp B M w0→iQ P A.idle A.aC w' I' au n a' st'→K a' w'):wpOp P ops Q i K a w:=by
 unfold gP at h
 cases hd:sq o n with
 | false=>rw[hd] at h;cases h
 | true=>
  rw[hd] at h
  simp only[cond_true] at h
  have go: ∀{Kc:St} {R W:List Nat},(((fK P A st.sl i (nb+64*i) o).run C st.hp).bind fun r=>some ((⟨hO st.sl o.dst r.1.v,bO st.hp r.1.upd,st.nb⟩:St),r.2,r.1.upd.map (·.1)))=some (Kc,R,W)→Kc=st'→
    o.wp P a w K Q:=by
   intro Kc R W h e
   obtain ⟨⟨r,rd⟩,h1,h2⟩:=bind_some h
   cases h2
   subst e
   exact ace hC hP S hA.aC hA.sl h1 K Q fun v w' I' au ds k1 k2 k3 k4=>hK _ w' I' au k1 k2 (Kb hA k1 hd k3 k4)
  unfold wpOp
  rw[ho]
  simp only
  cases hg:o.guard with
  | none=>
   rw[hg] at h
   simp only[Region.wanted,hg,if_true]
   exact .inl (go h rfl)
  | some gw=>
   obtain ⟨g,want⟩:=gw
   rw[hg] at h
   simp only at h
   cases lK:(ops[g]?).bind (·.dst) with
   | none=>rw[lK] at h;cases h
   | some d=>
    rw[lK] at h
    simp only at h
    cases mI:lr (st.sl d) with
    | none=>rw[mI] at h;cases h
    | some ob=>
    rw[mI] at h
    cases ob with
    | none=>
     have wi:=ach mI
     have hy:yielded ops a.tmps g=none:=by
      unfold yielded
      rw[lK]
      have:=hA.sl d
      rw[wi] at this
      have hu:=ai.aci this
      simp only[Option.bind_some]
      cases ht:a.tmps[d]? with
      | none=>rfl
      | some v=>simp[ht] at hu;subst hu;rfl
     simp only[Region.wanted,hg,hy]
     injection h with h
     injection h with h3 h4
     subst h3
     have h2:((none:Option Bool)==some want)=false:=rfl
     simp only[h2,Bool.false_eq_true,if_false]
     exact hK _ w I β (Le.refl w I β st.hp) S (Kb (ds:=a.defers) hA (Le.refl w I β st.hp) hd ai.R8 fun d h=> .inl h)
    | some b=>
    simp only at h
    have wi:=acg mI
    have hy:yielded ops a.tmps g=some b:=by
     unfold yielded
     rw[lK]
     simp only[Option.bind_some,R7 hA wi]
    simp only[Region.wanted,hg,hy]
    by_cases hb:b=want
    ·subst hb
     simp only[beq_self_eq_true,cond_true] at h
     simp only[beq_self_eq_true,if_true]
     exact .inl (go h rfl)
    ·have h1:(b==want)=false:=by simp[hb]
     have h2:(some b==some want)=false:=by simp[hb]
     rw[h1] at h
     simp only[cond_false] at h
     injection h with h
     injection h with h3 h4
     subst h3
     simp only[h2,Bool.false_eq_true,if_false]
     exact hK _ w I β (Le.refl w I β st.hp) S (Kb (ds:=a.defers) hA (Le.refl w I β st.hp) hd ai.R8 fun d h=> .inl h)
theorem ui {α:Type}: ∀{p:Rd α} {r:α} {rd:List Nat},p.run C hp=some (r,rd)→(∀id∈rd,hp' id=hp id)→p.run C hp'=some (r,rd)
 | .ret a,r,rd,h,_=>h
 | .fail,r,rd,h,_=>by cases h
 | .get id k,r,rd,h,he=>by
  obtain ⟨x,h1,h2⟩:=bind_some h
  cases h2
  have e1:hp' id=hp id:=he id (by simp)
  have:=ui (p:=k (hp id)) (r:=x.1) (rd:=x.2) h1 (fun i hi=>he i (by simp[hi]))
  simp only[Rd.run,e1,this,Option.bind_some]
 | .opt o k,r,rd,h,he=>by
  obtain ⟨x,h1,h2⟩:=bind_some h
  simp only[Rd.run,h1,Option.bind_some]
  exact ui h2 he
 | .ay b k,r,rd,h,he=>by
  obtain ⟨h1,h2⟩:=aH h
  simp only[Rd.run,h1,cond_true]
  exact ui h2 he
 | .call key ds k,r,rd,h,he=>by
  obtain ⟨x,h1,h2⟩:=bind_some h
  simp only[Rd.run,h1,Option.bind_some]
  exact ui h2 he
 | .alt true x y,r,rd,h,he=>ui (p:=x) h he
 | .alt false x y,r,rd,h,he=>ui (p:=y) h he
theorem acj {G:Nat→V} {sl sl':Nat→V} {t:TypeId} {x:Operand} (h: ∀k,x= .tmp k→sl k=sl' k):aT P G t sl x=aT P G t sl' x:=by
 cases x with
 | tmp k=>exact h k rfl
 | _=>rfl
theorem ack {sl sl':Nat→V} {ix nb:Nat} {o:Oper} (h: ∀x∈o.op.operands,∀k,x= .tmp k→sl k=sl' k):fK P A sl ix nb o=fK P A sl' ix nb o:=by
 have fg: ∀t x,x∈o.op.operands→aT P A.aC t sl x=aT P A.aC t sl' x:=fun t x hx=>acj (h x hx)
 obtain ⟨dst,op,ty,pos,after,guard⟩:=o
 have Sa: ∀(t:TypeId) (ps:Array (Nat × Operand)),(∀x∈ps.map (·.2),aT P A.aC t sl x=aT P A.aC t sl' x)→
   (ps.toList.map fun p=>(p.1,aT P A.aC t sl p.2))=ps.toList.map fun p=>(p.1,aT P A.aC t sl' p.2):=fun t ps hp=>
  List.map_congr_left fun p hm=>by rw[hp p.2 (Array.mem_map.2 ⟨p,Array.mem_toList_iff.1 hm,rfl⟩)]
 have acm: ∀(t:TypeId) (ps:Array (Nat × Operand)),(∀x∈ps.map (·.2),aT P A.aC t sl x=aT P A.aC t sl' x)→
   (ps.toList.map fun p=>(aT P A.aC t sl p.2).cells)=ps.toList.map fun p=>(aT P A.aC t sl' p.2).cells:=fun t ps hp=>
  List.map_congr_left fun p hm=>by rw[hp p.2 (Array.mem_map.2 ⟨p,Array.mem_toList_iff.1 hm,rfl⟩)]
 cases op<;>simp only[Op.operands] at fg<;>simp only[fK]
 case pick c x y=>rw[fg ty c (by simp),fg ty x (by simp),fg ty y (by simp)]
 case build t ps=>rw[Sa ty ps fun x hx=>fg ty x (by simpa using hx),acm ty ps fun x hx=>fg ty x (by simpa using hx)]
 case buildSlice t len ps=>
  split
  ·rename_i e _
   rw[Sa e ps fun x hx=>fg e x (by simpa using hx)]
  ·rfl
 case slice t x lo hi mx=>
  cases mx with
  | some m=>
   have e1:lo.map (aT P A.aC 0 sl)=lo.map (aT P A.aC 0 sl'):=by
    cases lo with
    | none=>rfl
    | some l=>simp only[Option.map_some,fg 0 l (by simp)]
   have e2:hi.map (aT P A.aC 0 sl)=hi.map (aT P A.aC 0 sl'):=by
    cases hi with
    | none=>rfl
    | some l=>simp only[Option.map_some,fg 0 l (by simp)]
   have e3:=fg 0 m (by simp)
   simp only[fg ty x (by simp),e1,e2,e3]
  | none=>
   have e1:lo.map (aT P A.aC 0 sl)=lo.map (aT P A.aC 0 sl'):=by
    cases lo with
    | none=>rfl
    | some l=>simp only[Option.map_some,fg 0 l (by simp)]
   have e2:hi.map (aT P A.aC 0 sl)=hi.map (aT P A.aC 0 sl'):=by
    cases hi with
    | none=>rfl
    | some l=>simp only[Option.map_some,fg 0 l (by simp)]
   simp only[fg ty x (by simp),e1,e2]
 case call c=>
  obtain ⟨callee,args,argTypes⟩:=c
  have uj: ∀t x,x∈args→aT P A.aC t sl x=aT P A.aC t sl' x:=fun t x hx=>fg t x (by simp[Call.operands,hx])
  have hl: ∀t (l:List Operand),(∀x∈l,x∈args)→l.map (aT P A.aC t sl)=l.map (aT P A.aC t sl'):=fun t l hl=>List.map_congr_left fun x hx=>uj t x (hl x hx)
  have hz:((args.toList.zip argTypes.toList).map fun p=>aT P A.aC p.2 sl p.1)=(args.toList.zip argTypes.toList).map fun p=>aT P A.aC p.2 sl' p.1:=
   List.map_congr_left fun p hp=>uj p.2 p.1 (Array.mem_toList_iff.1 (List.of_mem_zip hp).1)
  cases callee with
  | invoke r m=>rfl
  | builtin b=>
   have cq: ∀x∈args.toList,∀t,aT P A.aC t sl x=aT P A.aC t sl' x:=fun x hx t=>uj t x (Array.mem_toList_iff.1 hx)
   have FC: ∀t (l:List Operand),(∀x∈l,∀t,aT P A.aC t sl x=aT P A.aC t sl' x)→l.map (aT P A.aC t sl)=l.map (aT P A.aC t sl'):=fun t l h=>List.map_congr_left fun x hx=>h x hx t
   cases b<;>first|rfl|skip
   case append=>
    dsimp only
    generalize args.toList=al at cq
    match al,cq,argTypes.toList with
    | [s,x],cq,[t,u]=>simp only[cq s (by simp),cq x (by simp)]
    | [],_,_=>rfl
    | [_],_,_=>rfl
    | _::_::_::_,_,_=>rfl
    | [_,_],_,[]=>rfl
    | [_,_],_,[_]=>rfl
    | [_,_],_,_::_::_::_=>rfl
   case copy=>
    dsimp only
    generalize args.toList=al at cq
    match al,cq,argTypes.toList with
    | [s,x],cq,[t,u]=>simp only[cq s (by simp),cq x (by simp)]
    | [],_,_=>rfl
    | [_],_,_=>rfl
    | _::_::_::_,_,_=>rfl
    | [_,_],_,[]=>rfl
    | [_,_],_,[_]=>rfl
    | [_,_],_,_::_::_::_=>rfl
   case len=>
    dsimp only
    generalize args.toList=al at cq
    match al,cq,argTypes.toList with
    | [x],cq,[t]=>simp only[cq x (by simp)]
    | [],_,_=>rfl
    | _::_::_,_,_=>rfl
    | [_],_,[]=>rfl
    | [_],_,_::_::_=>rfl
   case clear=>
    dsimp only
    generalize args.toList=al at cq
    match al,cq,argTypes.toList with
    | [x],cq,[t]=>simp only[cq x (by simp)]
    | [],_,_=>rfl
    | _::_::_,_,_=>rfl
    | [_],_,[]=>rfl
    | [_],_,_::_::_=>rfl
   case unsafeSliceData=>
    dsimp only
    generalize args.toList=al at cq
    match al,cq with
    | [],_=>rfl
    | [x],cq=>simp only[cq x (by simp)]
    | _::_::_,_=>rfl
   case unsafeString=>
    dsimp only
    generalize args.toList=al at cq
    match al,cq,argTypes.toList with
    | [s,x],cq,[t,u]=>simp only[cq s (by simp),cq x (by simp)]
    | [],_,_=>rfl
    | [_],_,_=>rfl
    | _::_::_::_,_,_=>rfl
    | [_,_],_,[]=>rfl
    | [_,_],_,[_]=>rfl
    | [_,_],_,_::_::_::_=>rfl
   case max=>
    dsimp only
    generalize args.toList=al at cq
    match al,cq with
    | [],_=>rfl
    | x::l,cq=>simp only[cq x (by simp),FC ty l (fun y hy=>cq y (by simp[hy]))]
   case min=>
    dsimp only
    generalize args.toList=al at cq
    match al,cq with
    | [],_=>rfl
    | x::l,cq=>simp only[cq x (by simp),FC ty l (fun y hy=>cq y (by simp[hy]))]
  | value f=>
   cases f<;>first|rfl|skip
   ·rename_i t
    have ht:sl t=sl' t:=h (.tmp t) (by simp[Op.operands,Call.operands]) t rfl
    simp only[hz,ht]
   ·simp only[hz]
    cases hx:args.toList with
    | nil=>rfl
    | cons x l=>
     cases l with
     | cons _ _=>rfl
     | nil=>simp only[uj ty x (Array.mem_toList_iff.1 (by rw[hx];simp))]
 case defer c=>
  obtain ⟨callee,args,argTypes⟩:=c
  cases callee with
  | invoke r m=>rfl
  | builtin b=>rfl
  | value f=>
   cases f<;>first|rfl|skip
   rename_i t
   have ht:sl t=sl' t:=h (.tmp t) (by simp[Op.operands,Call.operands]) t rfl
   simp only[ht]
 case makeFunc fn a b=>
  cases fn<;>first|rfl|skip
  have e1:a.toList.map (aT P A.aC ty sl)=a.toList.map (aT P A.aC ty sl'):=List.map_congr_left fun x hx=>fg ty x (by simp[Array.mem_toList_iff.1 hx])
  have e2:b.toList.map (aT P A.aC ty sl)=b.toList.map (aT P A.aC ty sl'):=List.map_congr_left fun x hx=>fg ty x (by simp[Array.mem_toList_iff.1 hx])
  dsimp only
  rw[e1,e2]
 case makeMap t r=>cases r<;>rfl
 all_goals first
  | rfl
  | (simp[fg];done)
end
section
variable {P:Program} {A:cM} {w w':World} {I I' I2:Nat→Prop} {μ β au:Nat→Option Nat} {hp hp':Nat→Option ah} {C:ae} {B:Nat} {M:Nat→Prop} {w0:Start}
theorem Sb {n i nb:Nat} {ops:Array Oper} {o:Oper} {st st':St} {R W:List Nat} (h:gP P A C n ops i o nb st=some (st',R,W)):
  ∃x upd,st'=⟨hO st.sl o.dst x,bO st.hp upd,st.nb⟩∧W=upd.map (·.1)∧∀e8:St,(∀d∈o.looksAt ops,e8.sl d=st.sl d)→(∀id∈R,e8.hp id=st.hp id)→
   gP P A C n ops i o nb e8=some (⟨hO e8.sl o.dst x,bO e8.hp upd,e8.nb⟩,R,W):=by
 unfold gP at h
 cases hd:sq o n with
 | false=>rw[hd] at h;cases h
 | true=>
  rw[hd] at h
  simp only[cond_true] at h
  have go:(((fK P A st.sl i (nb+64*i) o).run C st.hp).bind fun r=>some ((⟨hO st.sl o.dst r.1.v,bO st.hp r.1.upd,st.nb⟩:St),r.2,r.1.upd.map (·.1)))=some (st',R,W)→
    ∃x upd,st'=⟨hO st.sl o.dst x,bO st.hp upd,st.nb⟩∧W=upd.map (·.1)∧∀e8:St,(∀d∈o.looksAt ops,e8.sl d=st.sl d)→(∀id∈R,e8.hp id=st.hp id)→
     (((fK P A e8.sl i (nb+64*i) o).run C e8.hp).bind fun r=>some ((⟨hO e8.sl o.dst r.1.v,bO e8.hp r.1.upd,e8.nb⟩:St),r.2,r.1.upd.map (·.1)))=some (⟨hO e8.sl o.dst x,bO e8.hp upd,e8.nb⟩,R,W):=by
   intro h
   obtain ⟨⟨r,rd⟩,h1,h2⟩:=bind_some h
   cases h2
   refine ⟨r.v,r.upd,rfl,rfl,fun e8 hs hh=> ?_⟩
   rw[ack (sl':=st.sl) fun x hx k hk=> ?_,ui h1 hh]
   ·rfl
   ·subst hk
    exact hs k (List.mem_append_left _ (List.mem_filterMap.2 ⟨.tmp k,by simpa using hx,rfl⟩))
  cases hg:o.guard with
  | none=>
   rw[hg] at h
   obtain ⟨x,upd,e1,e2,e3⟩:=go h
   refine ⟨x,upd,e1,e2,fun e8 hs hh=> ?_⟩
   unfold gP
   simp only[hd,cond_true,hg]
   exact e3 e8 hs hh
  | some gw=>
   obtain ⟨g,want⟩:=gw
   rw[hg] at h
   simp only at h
   cases lK:(ops[g]?).bind (·.dst) with
   | none=>rw[lK] at h;cases h
   | some d=>
    rw[lK] at h
    simp only at h
    have Kd:d∈o.looksAt ops:=List.mem_append_right _ (by rw[hg];simp[lK])
    cases mI:lr (st.sl d) with
    | none=>rw[mI] at h;cases h
    | some ob=>
    rw[mI] at h
    cases ob with
    | none=>
     injection h with h
     injection h with h3 h4
     injection h4 with h5 h6
     subst h5;subst h6
     refine ⟨.bj [],[],h3.symm,rfl,fun e8 hs hh=> ?_⟩
     unfold gP
     simp only[hd,cond_true,hg,lK,hs d Kd,mI]
     rfl
    | some b=>
    simp only at h
    cases hb:b==want with
    | true=>
     rw[hb] at h
     obtain ⟨x,upd,e1,e2,e3⟩:=go h
     refine ⟨x,upd,e1,e2,fun e8 hs hh=> ?_⟩
     unfold gP
     simp only[hd,cond_true,hg,lK,hs d Kd,mI,hb]
     exact e3 e8 hs hh
    | false=>
     rw[hb] at h
     simp only[cond_false] at h
     injection h with h
     injection h with h3 h4
     injection h4 with h5 h6
     subst h5;subst h6
     refine ⟨.bj [],[],h3.symm,rfl,fun e8 hs hh=> ?_⟩
     unfold gP
     simp only[hd,cond_true,hg,lK,hs d Kd,mI,hb,cond_false]
     rfl
theorem Sd {sl:Nat→V} {d:Option Nat} {x:V} {k:Nat} (h:d≠some k):hO sl d x k=sl k:=by
 cases d with
 | none=>rfl
 | some d=>exact eF _ _ fun e=>h (by rw[e])
theorem acn {hp:Nat→Option ah} {a b:List (Nat × ah)} (h: ∀q∈a,∀q'∈b,q.1≠q'.1):bO (bO hp a) b=bO (bO hp b) a:=by
 funext id
 by_cases ha: ∃q∈a,q.1=id
 ·have hb: ∀q∈b,q.1≠id:=by
   obtain ⟨q,hq,rfl⟩:=ha
   exact fun q' ca e=>h q hq q' ca e.symm
  rw[uh hb]
  obtain ⟨q,hq,rfl⟩:=ha
  have same: ∀(br gS:Nat→Option ah) (l:List (Nat × ah)) (q:Nat × ah),q∈l→bO br l q.1=bO gS l q.1:=by
   intro br gS l
   induction l with
   | nil=>intro q hq;simp at hq
   | cons p l ih=>
    intro q hq
    simp only[bO,aK]
    cases hb:Nat.beq q.1 p.1 with
    | true=>rfl
    | false=>
     simp only[cond_false]
     refine ih q ((List.mem_cons.1 hq).resolve_left fun e=> ?_)
     rw[e,Nat.beq_refl] at hb;cases hb
  exact same _ _ a q hq
 ·rw[uh (hp:=bO hp b) (l:=a) fun q hq e=>ha ⟨q,hq,e⟩]
  have same: ∀(br gS:Nat→Option ah) (l:List (Nat × ah)),br id=gS id→bO br l id=bO gS l id:=by
   intro br gS l he
   induction l with
   | nil=>exact he
   | cons p l ih=>
    simp only[bO,aK]
    cases hb:Nat.beq id p.1 with
    | true=>rfl
    | false=>exact ih
  exact same _ _ b (uh fun q hq e=>ha ⟨q,hq,e⟩)
structure Se (ops:Array Oper) (o1 o2:Oper) (R1 W1 R2 W2:List Nat):Prop where
 apart:Oper.apart ops o1 o2=true
 w: ∀id∈W1,id∉R2∧id∉W2
 r: ∀id∈R1,id∉W2
theorem aco {n i j nb:Nat} {ops:Array Oper} {o1 o2:Oper} {st iR e8:St} {R1 W1 R2 W2:List Nat} (h1:gP P A C n ops i o1 nb st=some (iR,R1,W1)) (h2:gP P A C n ops j o2 nb iR=some (e8,R2,W2))
  (hi:Se ops o1 o2 R1 W1 R2 W2): ∃FD,gP P A C n ops j o2 nb st=some (FD,R2,W2)∧gP P A C n ops i o1 nb FD=some (e8,R1,W1):=by
 obtain ⟨x1,u1,e1,f1,g1⟩:=Sb h1
 obtain ⟨x2,u2,e2,f2,g2⟩:=Sb h2
 obtain ⟨a1,a2,a3⟩:=Oper.apart_spec hi.apart
 subst e1
 refine ⟨_,g2 st (fun d hd=> ?_) (fun id hd=> ?_),?_⟩
 ·simp only
  rw[Sd fun e=>a1 d e hd]
 ·simp only
  rw[uh fun q hq e=>(hi.w id (by rw[f1];exact List.mem_map.2 ⟨q,hq,e⟩)).1 hd]
 ·rw[g1 _ (fun d hd=> ?_) (fun id hd=> ?_),e2]
  ·congr 3
   ·funext k
    cases hd1:o1.dst with
    | none=>rfl
    | some d1=>
     cases lC:o2.dst with
     | none=>rfl
     | some d2=>
      have bP:d2≠d1:=fun e=>a2 d1 hd1 (by rw[lC,e])
      simp only[hO,aK]
      cases Sf:Nat.beq k d1<;>cases qG:Nat.beq k d2<;>simp only[cond_true,cond_false]
      rw[Nat.beq_eq] at Sf qG
      exact absurd (qG.symm.trans Sf) bP
   ·exact (acn fun q hq q' ca e=>(hi.w q.1 (by rw[f1];exact List.mem_map.2 ⟨q,hq,rfl⟩)).2 (by rw[f2];exact List.mem_map.2 ⟨q',ca,e.symm⟩)).symm
  ·simp only
   rw[Sd fun e=>a3 d e hd]
  ·simp only
   rw[uh fun q hq e=>hi.r id hd (by rw[f2];exact List.mem_map.2 ⟨q,hq,e⟩)]
def wI (P:Program) (A:cM) (C:ae) (n:Nat) (ops:Array Oper) (nb:Nat):List (Nat × Oper × List Nat × List Nat)→St→St→Prop
 | [],st,st'=>st=st'
 | (i,o,R,W)::l,st,st'=> ∃iR,gP P A C n ops i o nb st=some (iR,R,W)∧wI P A C n ops nb l iR st'
def uk (x:Nat × Oper × List Nat × List Nat):Nat × List Nat × List Nat:=(x.1,x.2.2.1,x.2.2.2)
theorem Sg {n nb:Nat} {ops:Array Oper}: ∀{l:List (Nat × Oper)} {st st':St} {log FE:Log},o4 P A C n ops nb l st log=some (st',FE)→
  ∃g,g.map (fun x=>(x.1,x.2.1))=l∧FE=log++g.map uk∧wI P A C n ops nb g st st'
 | [],st,st',log,FE,h=>by
  cases h
  exact ⟨[],rfl,by simp,rfl⟩
 | (i,o)::l,st,st',log,FE,h=>by
  obtain ⟨⟨iR,R,W⟩,h1,h2⟩:=bind_some h
  obtain ⟨g,a,b,c⟩:=Sg h2
  exact ⟨(i,o,R,W)::g,by simp[a],by simp[b,uk],iR,h1,c⟩
def Sh (ops:Array Oper) (x y:Nat × Oper × List Nat × List Nat):Prop:=Se ops x.2.1 y.2.1 x.2.2.1 x.2.2.2 y.2.2.1 y.2.2.2
theorem Si {n nb:Nat} {ops:Array Oper} {y:Nat × Oper × List Nat × List Nat} {g2:List (Nat × Oper × List Nat × List Nat)}: ∀{g1:List (Nat × Oper × List Nat × List Nat)} {st st':St},
  wI P A C n ops nb (g1++y::g2) st st'→(∀x∈g1,Sh ops x y)→∃iR,gP P A C n ops y.1 y.2.1 nb st=some (iR,y.2.2.1,y.2.2.2)∧wI P A C n ops nb (g1++g2) iR st'
 | [],st,st',h,_=>h
 | x::g1,st,st',h,hi=>by
  obtain ⟨iR,h1,h2⟩:=h
  obtain ⟨e8,h3,h4⟩:=Si h2 fun z hz=>hi z (List.mem_cons_of_mem _ hz)
  obtain ⟨FD,h5,h6⟩:=aco h1 h3 (hi x (by simp))
  exact ⟨FD,h5,e8,h6,h4⟩
theorem Sj (hC:kM P A C) (hP:js P A) {n nb:Nat} {ops:Array Oper} {Q:Exit→Act→World→Prop}: ∀{g:List (Nat × Oper × List Nat × List Nat)} {st st':St} {a:Act} {w:World} {I:Nat→Prop} {β:Nat→Option Nat},
  wI P A C n ops nb g st st'→(∀x∈g,ops[x.1]? =some x.2.1)→aE P w I β st.hp B M w0→iQ P A.idle A.aC w I β n a st→
  (∀a' w' I' au,Le P w I β st.hp w' I' au st'.hp→aE P w' I' au st'.hp B M w0→iQ P A.idle A.aC w' I' au n a' st'→Q .normal a' w')→wpOps P ops Q (g.map (·.1)) a w
 | [],st,st',a,w,I,β,h,_,S,hA,hQ=>by
  cases h
  exact hQ a w I β (Le.refl w I β _) S hA
 | x::g,st,st',a,w,I,β,h,ho,S,hA,hQ=>by
  obtain ⟨iR,h1,h2⟩:=h
  rw[List.map_cons,wpOps_cons]
  refine R9 hC hP (ho x (by simp)) S hA h1 fun a' w' I' au k1 k2 k3=> ?_
  exact Sj hC hP h2 (fun y hy=>ho y (List.mem_cons_of_mem _ hy)) k2 k3 fun a2 w2 I2 b9 m1 m2 m3=>hQ a2 w2 I2 b9 (k1.trans m1) m2 m3
end
section
variable {P:Program} {A:cM} {w w':World} {I I' I2:Nat→Prop} {μ β au:Nat→Option Nat} {hp hp':Nat→Option ah} {C:ae} {B:Nat} {M:Nat→Prop} {w0:Start}
inductive um (ops:Array Oper):Nat→Nat→Prop
 | Sk {i x:Nat} {o:Oper} {e:Edge}:ops[i]? =some o→e∈o.after→Region.binds .any e=true→e.on=x→um ops i x
 | trans {i x:Nat} {o:Oper} {e:Edge}:ops[i]? =some o→e∈o.after→Region.binds .any e=true→um ops e.on x→um ops i x
theorem Sl {acc:Array Nat} {x:Nat}: ∀{l:List Edge} {s:Nat},(l.foldl (fun s e=>if Region.binds .any e then s|||2^e.on|||acc.getD e.on 0 else s) s).testBit x=true→
  s.testBit x=true∨∃e∈l,Region.binds .any e=true∧(e.on=x∨(acc.getD e.on 0).testBit x=true)
 | [],s,h=> .inl h
 | e::l,s,h=>by
  simp only[List.foldl_cons] at h
  rcases Sl h with h1|⟨e',a,b⟩
  ·by_cases hb:Region.binds .any e=true
   ·rw[if_pos hb,Nat.testBit_or,Nat.testBit_or,Bool.or_eq_true,Bool.or_eq_true] at h1
    rcases h1 with (h1|h1)|h1
    ·exact .inl h1
    ·rw[Nat.testBit_two_pow] at h1
     exact .inr ⟨e,by simp,hb,.inl (by simpa using h1)⟩
    ·exact .inr ⟨e,by simp,hb,.inr h1⟩
   ·rw[if_neg hb] at h1
    exact .inl h1
  ·exact .inr ⟨e',List.mem_cons_of_mem _ a,b⟩
theorem Sm {ops:Array Oper} {x:Nat}: ∀{l:List Oper} {acc:Array Nat},(∀j o,l[j]? =some o→ops[acc.size+j]? =some o)→(∀j,(acc.getD j 0).testBit x=true→um ops j x)→
  ∀j,((l.foldl (fun acc o=>acc.push (o.after.foldl (fun s e=>if Region.binds .any e then s|||2^e.on|||acc.getD e.on 0 else s) 0)) acc).getD j 0).testBit x=true→um ops j x
 | [],acc,_,FF,j,h=>FF j h
 | o::l,acc,hl,FF,j,h=>by
  simp only[List.foldl_cons] at h
  refine Sm (l:=l) ?_ ?_ j h
  ·intro j o' hj
   have:=hl (j+1) o' (by simpa using hj)
   rw[Array.size_push]
   rwa [show acc.size+1+j=acc.size+(j+1) by omega]
  ·intro k hk
   simp only[Array.getD_eq_getD_getElem?,Array.getElem?_push] at hk
   by_cases Ke:k=acc.size
   ·rw[if_pos Ke] at hk
    simp only[Option.getD_some] at hk
    rw[←Array.foldl_toList] at hk
    have ho:=hl 0 o rfl
    rw[Nat.add_zero] at ho
    rw[Ke]
    have qG:(o.after.toList.foldl (fun s e=>if Region.binds .any e then s|||2^e.on|||acc.getD e.on 0 else s) 0).testBit x=true:=by simpa[Array.getD_eq_getD_getElem?] using hk
    rcases Sl qG with h0|⟨e,he,hb,h1⟩
    ·simp at h0
    ·rcases h1 with h1|h1
     ·exact .Sk ho (Array.mem_toList_iff.1 he) hb h1
     ·exact .trans ho (Array.mem_toList_iff.1 he) hb (FF _ h1)
   ·rw[if_neg Ke] at hk
    exact FF k (by simpa[Array.getD_eq_getD_getElem?] using hk)
theorem acp {ops:Array Oper} {i x:Nat} (h:((Region.before ops).getD i 0).testBit x=true):um ops i x:=by
 unfold Region.before at h
 rw[←Array.foldl_toList] at h
 refine Sm (l:=ops.toList) (acc:= #[]) (fun j o hj=>by simpa using hj) (fun j hj=>by simp at hj) i h
def Sn (ops:Array Oper) (listed:Array Bool):Prop:= ∀i o,ops[i]? =some o→listed.getD i false=true→∀e∈o.after,Region.binds .any e=true→listed.getD e.on false=true
theorem acq {ops:Array Oper} {listed:Array Bool} (hc:Sn ops listed) {i x:Nat} (h:um ops i x) (hi: ∀o,ops[i]? =some o→∀e∈o.after,Region.binds .any e=true→listed.getD e.on false=true):listed.getD x false=true:=by
 induction h with
 | Sk ho he hb hx=>rw[←hx];exact hi _ ho _ he hb
 | trans ho he hb _ ih=>exact ih fun o' mr e' tU ax=>hc _ o' mr (hi _ ho _ he hb) e' tU ax
theorem So: ∀{l:List Oper} {k j:Nat} {o:Oper},zk k l=true→l[j]? =some o→∀e∈o.after,Region.binds .any e=true→e.on<k+j
 | [],k,j,o,_,h=>by simp at h
 | o'::l,k,j,o,hk,h=>by
  simp only[zk,Bool.and_eq_true] at hk
  cases j with
  | zero=>
   simp at h
   subst h
   intro e he hb
   have:=List.all_eq_true.1 hk.1 e (Array.mem_toList_iff.2 he)
   simp[hb] at this
   omega
  | succ j=>
   intro e he hb
   have:=So hk.2 (j:=j) (by simpa using h) e he hb
   omega
theorem Sp {ops:Array Oper} {tw:Array Nat}: ∀{l:Log},Ex ops tw l=true→l.Pairwise fun x y=>zj ops tw x y=true
 | [],_=> .nil
 | x::l,h=>by
  simp only[Ex,Bool.and_eq_true] at h
  exact .cons (fun y hy=>List.all_eq_true.1 h.1 y hy) (Sp h.2)
theorem Sq {listed:Array Bool} {i:Nat} (h:listed.getD i true=false):i<listed.size∧listed.getD i false=false:=by
 rcases Nat.lt_or_ge i listed.size with h'|h'
 ·refine ⟨h',?_⟩
  simpa[h'] using h
 ·simp[Array.getElem?_eq_none h'] at h
theorem Sr (hC:kM P A C) (hP:js P A) {n nb:Nat} {ops:Array Oper} {Q:Exit→Act→World→Prop} (FG:zk 0 ops.toList=true):
  ∀(fuel:Nat) {g:List (Nat × Oper × List Nat × List Nat)} {listed:Array Bool} {st st':St} {a:Act} {w:World} {I:Nat→Prop} {β:Nat→Option Nat},
  g.length=fuel→wI P A C n ops nb g st st'→(∀x∈g,ops[x.1]? =some x.2.1)→(g.map (·.1)).Pairwise (· < ·)→(g.map uk).Pairwise (fun x y=>zj ops (Region.before ops) x y=true)→
  listed.size=ops.size→(∀i,i<ops.size→(listed.getD i false=false↔i∈g.map (·.1)))→Sn ops listed→
  aE P w I β st.hp B M w0→iQ P A.idle A.aC w I β n a st→
  (∀a' w' I' au,Le P w I β st.hp w' I' au st'.hp→aE P w' I' au st'.hp B M w0→iQ P A.idle A.aC w' I' au n a' st'→Q .normal a' w')→wpAny P .any ops Q fuel listed a w
 | 0,g,listed,st,st',a,w,I,β,hf,hr,ho,aX,FH,a8,uo,lI,S,hA,hQ=>by
  obtain rfl:g=[]:=List.eq_nil_of_length_eq_zero hf
  cases hr
  refine ⟨?_,hQ a w I β (Le.refl w I β _) S hA⟩
  rw[List.eq_nil_iff_forall_not_mem]
  intro i hi
  obtain ⟨h0,_⟩:=mem_ready.1 hi
  obtain ⟨h1,h2⟩:=Sq h0
  have:=(uo i (by omega)).1 h2
  simp at this
 | fuel+1,g,listed,st,st',a,w,I,β,hf,hr,ho,aX,FH,a8,uo,lI,S,hA,hQ=>by
  refine ⟨fun Ah=> ?_,fun i hi=> ?_⟩
  ·exfalso
   cases g with
   | nil=>simp at hf
   | cons x g=>
    have hx:=ho x (by simp)
    have gL:x.1<ops.size:=(Array.getElem?_eq_some_iff.1 hx).1
    have fo:x.1∈Region.ready .any ops listed:=by
     rw[mem_ready]
     have h0:=(uo x.1 gL).2 (by simp)
     refine ⟨?_,x.2.1,hx,fun e he hb=> ?_⟩
     ·have hl:x.1<listed.size:=by omega
      simpa[hl] using h0
     ·have JC:=So FG (j:=x.1) (by simpa using hx) e he hb
      rw[Nat.zero_add] at JC
      cases hle:listed.getD e.on false with
      | true=>rfl
      | false=>
       have hm:=(uo e.on (by omega)).1 hle
       simp only[List.map_cons,List.mem_cons] at hm
       rw[List.map_cons,List.pairwise_cons] at aX
       rcases hm with hm|hm
       ·omega
       ·have:=aX.1 _ hm;omega
    rw[Ah] at fo
    cases fo
  ·obtain ⟨h0,oi,Aj,Ss⟩:=mem_ready.1 hi
   obtain ⟨h1,h2⟩:=Sq h0
   have hig:=(uo i (by omega)).1 h2
   obtain ⟨y,hy,hyi⟩:=List.mem_map.1 hig
   obtain ⟨g1,g2,rfl⟩:=List.append_of_mem hy
   subst hyi
   have Su:=ho y hy
   rw[Aj] at Su
   have Sv:oi=y.2.1:=Option.some.inj Su
   have kj:((g1++y::g2).map (·.1)).Nodup:=aX.imp fun h=>Nat.ne_of_lt h
   have acr: ∀x∈g1,Sh ops x y:=by
    intro x hx
    have hp:zj ops (Region.before ops) (uk x) (uk y)=true:=by
     rw[List.map_append,List.map_cons,List.pairwise_append] at FH
     exact FH.2.2 _ (List.mem_map.2 ⟨x,hx,rfl⟩) _ (by simp)
    have Sw:=ho x (List.mem_append.2 (.inl hx))
    unfold zj at hp
    rw[Bool.or_eq_true] at hp
    rcases hp with hp|hp
    ·have hl:=acq lI (acp hp) fun o mr e he hb=>by
      have:o=oi:=by
       have h3:ops[y.1]? =some o:=mr
       rw[Aj] at h3
       exact (Option.some.inj h3).symm
      subst this
      exact Ss e he hb
     have gL:x.1<ops.size:=(Array.getElem?_eq_some_iff.1 Sw).1
     have:=(uo x.1 gL).2 (List.mem_map.2 ⟨x,List.mem_append.2 (.inl hx),rfl⟩)
     rw[show (uk x).1=x.1 from rfl,this] at hl
     cases hl
    ·simp only[uk,Array.getD_eq_getD_getElem?,Sw,Aj,Option.getD_some,Bool.and_eq_true,Bool.not_eq_true'] at hp
     obtain ⟨q1,q2,q3⟩:=hp
     refine ⟨Sv▸q1,fun id af=> ?_,fun id af=>Fu q3 af⟩
     have:=Fu q2 af
     rw[List.mem_append] at this
     exact ⟨fun h=>this (.inl h),fun h=>this (.inr h)⟩
   obtain ⟨iR,jE,nD⟩:=Si hr acr
   rw[←Sv] at jE
   refine R9 hC hP Aj S hA jE fun a' w' I' au k1 k2 k3=> ?_
   have il:List.Sublist (g1++g2) (g1++y::g2):=List.Sublist.append_left (List.sublist_cons_self y g2) g1
   have tA: ∀j,j≠y.1→(listed.setIfInBounds y.1 true).getD j false=listed.getD j false:=fun j hj=>getD_set_ne false (Ne.symm hj)
   refine Sr hC hP FG fuel (g:=g1++g2) (st':=st') ?_ nD (fun x hx=>ho x (il.subset hx)) (aX.sublist (il.map _)) (FH.sublist (il.map _)) (by simp[a8]) (fun j hj=> ?_) (fun j o Kf dd e he hb=> ?_) k2 k3 fun a2 w2 I2 b9 m1 m2 m3=>hQ a2 w2 I2 b9 (k1.trans m1) m2 m3
   ·simp at hf⊢;omega
   ·by_cases pd:j=y.1
    ·subst pd
     have hl:y.1<listed.size:=by omega
     simp only[Array.getD_eq_getD_getElem?,Array.getElem?_setIfInBounds_self_of_lt hl,Option.getD_some]
     refine ⟨fun h=>(by cases h),fun h=> ?_⟩
     exfalso
     rw[List.map_append,List.map_cons,List.nodup_append,List.nodup_cons] at kj
     rw[List.map_append,List.mem_append] at h
     rcases h with h|h
     ·exact kj.2.2 _ h _ (by simp) rfl
     ·exact kj.2.1.1 h
    ·rw[tA j pd,uo j hj]
     simp only[List.map_append,List.map_cons,List.mem_append,List.mem_cons]
     constructor
     ·rintro (h|h|h)
      ·exact .inl h
      ·exact absurd h pd
      ·exact .inr h
     ·rintro (h|h)
      ·exact .inl h
      ·exact .inr (.inr h)
   ·by_cases pd:j=y.1
    ·subst pd
     rw[Aj] at Kf
     cases Kf
     exact getD_set_true (Ss e he hb)
    ·rw[tA j pd] at dd
     exact getD_set_true (lI j o Kf dd e he hb)
end
section
variable {P:Program} {A:cM} {w w':World} {I I' I2:Nat→Prop} {μ β au:Nat→Option Nat} {hp hp':Nat→Option ah} {C:ae} {B:Nat} {M:Nat→Prop} {w0:Start}
theorem Sy: ∀{l:List Oper} {k j:Nat},(oa k l)[j]? =(l[j]?).map fun o=>(k+j,o)
 | [],k,j=>by simp[oa]
 | o::l,k,0=>by simp[oa]
 | o::l,k,j+1=>by
  simp only[oa,List.getElem?_cons_succ,Sy]
  congr 1
  funext o
  rw[show k+1+j=k+(j+1) by omega]
theorem Sz: ∀{l:List Oper} {k:Nat},(oa k l).map (·.1)=List.range' k l.length
 | [],k=>rfl
 | o::l,k=>by simp[oa,Sz,List.range'_succ]
theorem acs (hC:kM P A C) (hP:js P A) (hm:P.follows .mixedOrders=true) {n id:Nat} {ops:Array Oper} {draw:Bool} {st st':St} {a:Act} {Q:Exit→Act→World→Prop}
  (h:vT P A C n ops draw st=some st') (S:aE P w I β st.hp B M w0) (hA:iQ P A.idle A.aC w I β n a st)
  (hQ: ∀a' w' I' au,Le P w I β st.hp w' I' au st'.hp→aE P w' I' au st'.hp B M w0→iQ P A.idle A.aC w' I' au n a' st'→Q .normal a' w'):(Code.region id ops draw).wp P Q a w:=by
 obtain ⟨⟨iR,log⟩,h1,h2⟩:=bind_some h
 obtain ⟨g,g1,g2,g3⟩:=Sg h1
 have FI:g.map (·.1)=List.range ops.size:=by
  have:g.map (·.1)=(g.map fun x=>(x.1,x.2.1)).map (·.1):=by simp
  rw[this,g1,Sz,List.range_eq_range']
  simp
 have SA: ∀x∈g,ops[x.1]? =some x.2.1:=by
  intro x hx
  have:(x.1,x.2.1)∈oa 0 ops.toList:=by rw[←g1];exact List.mem_map.2 ⟨x,hx,rfl⟩
  obtain ⟨j,hj⟩:=List.mem_iff_getElem?.1 this
  rw[Sy] at hj
  cases ho:ops.toList[j]? with
  | none=>rw[ho] at hj;cases hj
  | some o=>
   rw[ho] at hj
   simp only[Option.map_some,Nat.zero_add,Option.some.injEq,Prod.mk.injEq] at hj
   rw[←hj.1,←hj.2]
   simpa using ho
 cases draw with
 | false=>
  simp only[Bool.not_false,Bool.true_or,cond_true] at h2
  cases h2
  refine wp_region ?_
  rw[←FI]
  exact Sj hC hP g3 SA S hA hQ
 | true=>
  simp only[Bool.not_true,Bool.false_or] at h2
  cases hc:(Region.noSelect ops&&zl ops log) with
  | false=>rw[hc] at h2;cases h2
  | true=>
   rw[hc] at h2
   cases h2
   simp only[Bool.and_eq_true,zl] at hc
   obtain ⟨hns,FG,acu⟩:=hc
   simp only[List.nil_append] at g2
   refine wp_region_any hm ?_
   have hlen:g.length=ops.size:=by
    have:=congrArg List.length FI
    simpa using this
   refine Sr hC hP FG ops.size (g:=g) (st':=st') hlen g3 SA (by rw[FI];exact List.pairwise_lt_range) (by rw[←g2];exact Sp acu) (by simp) (fun i hi=> ?_) (fun i o ho hl=> ?_)
    (w:=w.drew) S.drew ⟨fun k=>(hA.sl k).mono (Le.drew w I β _),hA.size,hA.defers,hA.aC.mono (Le.drew (P:=P) w I β st.hp).dE (Le.drew (P:=P) w I β st.hp).cp⟩ fun a' w' I' au k1 k2 k3=>hQ a' w' I' au ((Le.drew w I β _).trans k1) k2 k3
   ·rw[FI]
    simp[hi]
   ·have hi:=(Array.getElem?_eq_some_iff.1 ho).1
    simp[hi] at hl
end
section
variable {P:Program} {A:cM} {E:FuncId→Bool} {G:Nat→V} {w w':World} {I I' I2:Nat→Prop} {μ β au:Nat→Option Nat} {hp hp':Nat→Option ah} {C:ae} {B:Nat} {M:Nat→Prop} {w0:Start}
theorem uq: ∀{l:List Nat} {hp:Nat→Option ah} {I:Nat→Prop},aE P w I β hp B M w0→∃I',Le P w I β hp w I' β (tv hp l)∧aE P w I' β (tv hp l) B M w0
 | [],hp,I,S=>⟨I,Le.refl w I β hp,S⟩
 | id::l,hp,I,S=>by
  simp only[tv]
  cases af:hp id with
  | none=>exact uq S
  | some blk=>
   cases blk with
   | dead=>exact uq S
   | var _=>exact uq S
   | map _ _=>exact uq S
   | arr e es fz=>
    obtain ⟨h1,h2⟩:=zA S (upd:=[(id,.arr e es true)]) (fun p hp=>by
     simp only[List.mem_singleton] at hp
     subst hp
     exact ⟨e,es,rfl,.inl ⟨fz,af⟩⟩)
    obtain ⟨I',h3,h4⟩:=uq (l:=l) h2
    exact ⟨I',h1.trans h3,h4⟩
   | nest e es ak=>
    obtain ⟨h1,h2⟩:=zA S (upd:=[(id,.arr e es true)]) (fun p hp=>by
     simp only[List.mem_singleton] at hp
     subst hp
     exact ⟨e,es,rfl,.inr ⟨ak,af⟩⟩)
    obtain ⟨I',h3,h4⟩:=uq (l:=l) h2
    exact ⟨I',h1.trans h3,h4⟩
theorem SB {n m:Nat} {pur:List Nat} {a:Act} {st:St} (S:aE P w I β st.hp B M w0) (hA:iQ P E G w I β n a st):
  ∃I',Le P w I β st.hp w I' β (freeze m pur st).hp∧aE P w I' β (freeze m pur st).hp B M w0∧iQ P E G w I' β n a (freeze m pur st):=by
 obtain ⟨I',h1,h2⟩:=uq (l:=(P9 st pur).filter fun id=>Nat.ble m id) S
 exact ⟨I',h1,h2,fun k=>(hA.sl k).mono h1,hA.size,hA.defers,hA.aC.mono h1.dE h1.cp⟩
structure wJ (hp:Nat→Option ah) (β:Nat→Option Nat) (ord:List Nat) (hp':Nat→Option ah) (au:Nat→Option Nat):Prop where
 arr: ∀(j:Nat) id e es fz,ord[j]? =some id→hp id=some (.arr e es fz)→hp' j=some (.arr e es fz)
 var: ∀(j:Nat) id T cs,ord[j]? =some id→hp id=some (.var T cs)→∃ik,hp' j=some (.var T ik)
 dead: ∀(j:Nat) id,ord[j]? =some id→hp id=some .dead→hp' j=some .dead
 place: ∀(j:Nat) id,ord[j]? =some id→au j=β id
 nest: ∀(j:Nat) id e es ak,ord[j]? =some id→hp id=some (.nest e es ak)→hp' j=some (.nest e es (ak.map fun _=>0))
 map: ∀(j:Nat) id t es,ord[j]? =some id→hp id=some (.map t es)→hp' j=some (.map t es)
theorem lM: ∀{l:List Nat} {n i j:Nat},hY l n i=some j→∃k,j=i+k∧l[k]? =some n
 | [],n,i,j,h=>by cases h
 | a::l,n,i,j,h=>by
  simp only[hY] at h
  cases hb:Nat.beq n a with
  | true=>
   rw[hb] at h
   cases h
   rw[Nat.beq_eq] at hb
   exact ⟨0,rfl,by rw[hb];rfl⟩
  | false=>
   rw[hb] at h
   obtain ⟨k,h1,h2⟩:=lM h
   exact ⟨k+1,by omega,by simpa using h2⟩
def kN (hp':Nat→Option ah) (au:Nat→Option Nat) (n:Nat) (bs:List ah):Prop:=
 ∀(k:Nat) b,bs[k]? =some b→hp' (n+k)=some b∧au (n+k)=none
theorem Kg: ∀(ak:List Nat) (k:Nat),bB (ak.map fun _=>0) k=0
 | [],_=>rfl
 | _::_,0=>rfl
 | _::vs,k+1=>Kg vs k
theorem SC {e:TypeId} {es:List V} {ak:List Nat} {path:Path} {ver:Nat} (hc:(Nat.blt 0 path.length&&(Nat.ble path.length ak.length&&Nat.beq (bB ak (path.length-1)) ver))=true)
  (h:(ah.nest e es ak).tB path ver):False:=by
 simp only[Bool.and_eq_true,Nat.blt_eq,Nat.ble_eq,Nat.beq_eq] at hc
 obtain ⟨h1,h2,h3⟩:=hc
 rcases h with h|h|h
 ·subst h;simp at h1
 ·omega
 ·omega
theorem SD (S:aE P w I β hp B M w0) {ord:List Nat} (hR:wJ hp β ord hp' au) {v:Value} {x:V} (hv:ai P w I β hp v x):ai P w I au hp' v (hZ hp ord x):=by
 cases hv with
 | undef=>exact .undef
 | int=>exact .int
 | bool=>exact .bool
 | str h=>exact .str h
 | list h=>exact .list h
 | nilS=>exact .nilS
 | agg=>exact .undef
 | bj=>exact .undef
 | dN=>exact .dN
 | fn=>exact .undef
 | pref a b c=>exact .pref a b c
 | @eD _ e id af=>
  simp only[hZ]
  cases br:hY ord id 0 with
  | none=>simp only[af];exact .undef
  | some j=>
   obtain ⟨k,rfl,hk⟩:=lM br
   exact .eD (hR.dead _ id (by simpa using hk) af)
 | @gr _ e id off len af=>
  simp only[hZ]
  cases br:hY ord id 0 with
  | none=>simp only[af];exact .undef
  | some j=>
   obtain ⟨k,rfl,hk⟩:=lM br
   exact .gr (hR.dead _ id (by simpa using hk) af)
 | @ka _ id i c af=>
  simp only[hZ]
  cases br:hY ord id 0 with
  | none=>exact .undef
  | some j=>
   obtain ⟨k,rfl,hk⟩:=lM br
   exact .ka (hR.dead _ id (by simpa using hk) af)
 | @dZ e id fz _ af hb=>
  simp only[hZ]
  cases br:hY ord id 0 with
  | none=>
   simp only[af]
   cases fz with
   | false=>exact .undef
   | true=>simp only[Nat.beq_refl,cond_true];exact .list (.any fun _=>rfl)
  | some j=>
   obtain ⟨k,rfl,hk⟩:=lM br
   have dQ:ord[0+k]? =some id:=by simpa using hk
   exact .dZ (hR.arr _ id _ _ _ dQ af) ((hR.place _ id dQ).trans hb)
 | @whole e id es fz b cap af hb a8 cj hm=>
  simp only[hZ]
  cases br:hY ord id 0 with
  | none=>
   simp only[af]
   cases fz with
   | false=>exact .undef
   | true=>
    simp only[Nat.beq_refl,cond_true]
    have hr:=S.h.rel id _ af
    cases hr with
    | eb ax=>rw[ax] at hb;cases hb
    | arr aw ax hh hs hf eE hx=>
     rw[hb] at ax;cases ax
     have:=tG (I':=I) (off:=0) (len:=es.length) (o:=0) hh hx (fM aw) (by omega) cj (fun _=>by simp) (fun _ h=>h) (hf rfl)
     exact .list (by simpa using this)
  | some j=>
   obtain ⟨k,rfl,hk⟩:=lM br
   have dQ:ord[0+k]? =some id:=by simpa using hk
   exact .whole (hR.arr _ id _ _ _ dQ af) ((hR.place _ id dQ).trans hb) a8 cj hm
 | @gh e id fz _ af hb=>
  simp only[hZ]
  cases br:hY ord id 0 with
  | none=>
   simp only[af]
   cases fz with
   | false=>exact .undef
   | true=>simp only[Nat.beq_refl,cond_true];exact .list (by simpa using (iH.any (P:=P) fun _=>rfl))
  | some j=>
   obtain ⟨k,rfl,hk⟩:=lM br
   have dQ:ord[0+k]? =some id:=by simpa using hk
   exact .gh (hR.arr _ id _ _ _ dQ af) ((hR.place _ id dQ).trans hb)
 | @sub e id off len es fz b o cap af hb jn cj ho=>
  simp only[hZ]
  cases br:hY ord id 0 with
  | none=>
   simp only[af]
   cases fz with
   | false=>exact .undef
   | true=>
    simp only[Nat.beq_refl,cond_true]
    have hr:=S.h.rel id _ af
    cases hr with
    | eb ax=>rw[ax] at hb;cases hb
    | arr aw ax hh hs hf eE hx=>
     rw[hb] at ax;cases ax
     exact .list (tG (I':=I) hh hx (fM aw) jn cj ho (fun _ h=>h) (hf rfl))
  | some j=>
   obtain ⟨k,rfl,hk⟩:=lM br
   have dQ:ord[0+k]? =some id:=by simpa using hk
   exact .sub (hR.arr _ id _ _ _ dQ af) ((hR.place _ id dQ).trans hb) jn cj ho
 | @ptr id i c b blk af hd hb=>
  simp only[hZ]
  cases br:hY ord id 0 with
  | none=>exact .undef
  | some j=>
   obtain ⟨k,rfl,hk⟩:=lM br
   have dQ:ord[0+k]? =some id:=by simpa using hk
   cases blk with
   | dead=>exact absurd rfl hd
   | var T0 cs=>
    obtain ⟨ik,h'⟩:=hR.var _ id T0 cs dQ af
    exact .ptr (blk:= .var T0 ik) h' (by simp) ((hR.place _ id dQ).trans hb)
   | arr e es fz=>exact .ptr (blk:= .arr e es fz) (hR.arr _ id _ _ _ dQ af) (by simp) ((hR.place _ id dQ).trans hb)
   | nest e es ak=>exact .ptr (blk:= .nest e es (ak.map fun _=>0)) (hR.nest _ id _ _ _ dQ af) (by simp) ((hR.place _ id dQ).trans hb)
   | map t es=>exact .ptr (blk:= .map t es) (hR.map _ id _ _ dQ af) (by simp) ((hR.place _ id dQ).trans hb)
 | dO=>exact .dO
 | @ig _ t id af=>
  simp only[hZ]
  cases br:hY ord id 0 with
  | none=>exact .undef
  | some j=>
   obtain ⟨k,rfl,hk⟩:=lM br
   exact .ig (hR.dead _ id (by simpa using hk) af)
 | @bX t id b es af hb=>
  simp only[hZ]
  cases br:hY ord id 0 with
  | none=>exact .undef
  | some j=>
   obtain ⟨k,rfl,hk⟩:=lM br
   have dQ:ord[0+k]? =some id:=by simpa using hk
   exact .bX (hR.map _ id _ _ dQ af) ((hR.place _ id dQ).trans hb)
 | @eL e id es ak b cap af hb a8 cj hm=>
  simp only[hZ]
  cases br:hY ord id 0 with
  | none=>simp only[af];exact .undef
  | some j=>
   obtain ⟨k,rfl,hk⟩:=lM br
   have dQ:ord[0+k]? =some id:=by simpa using hk
   exact .eL (hR.nest _ id _ _ _ dQ af) ((hR.place _ id dQ).trans hb) a8 cj hm
 | @jA v e id ver path blk af zy=>
  simp only[hZ]
  split
  ·rename_i j e1 cy ak h1 h2
   rw[af] at h2
   cases h2
   cases hc:(Nat.blt 0 path.length&&(Nat.ble path.length ak.length&&Nat.beq (bB ak (path.length-1)) ver)) with
   | false=>exact .undef
   | true=>exact (SC hc zy).elim
  ·exact .undef
 | @jB v id ver i c path blk af zy=>
  simp only[hZ]
  split
  ·rename_i j e1 cy ak h1 h2
   rw[af] at h2
   cases h2
   cases hc:(Nat.blt 0 path.length&&(Nat.ble path.length ak.length&&Nat.beq (bB ak (path.length-1)) ver)) with
   | false=>exact .undef
   | true=>exact (SC hc zy).elim
  ·exact .undef
 | @row v e e0 t id ver b i c q es l ak af hb hq hv ht hc=>
  simp only[hZ]
  split
  ·rename_i j e1 cy ug h1 h2
   obtain ⟨k,rfl,hk⟩:=lM h1
   have dQ:ord[0+k]? =some id:=by simpa using hk
   cases hx:(Nat.blt 0 (q++[(i,c)]).length&&(Nat.ble (q++[(i,c)]).length ug.length&&Nat.beq (bB ug ((q++[(i,c)]).length-1)) ver)) with
   | false=>exact .undef
   | true=>exact .row (hR.nest _ id _ _ _ dQ af) ((hR.place _ id dQ).trans hb) (by simpa using hq) (Kg _ _) ht hc
  ·exact .undef
 | @cL e e0 t id ver b b1 len cap i0 c0 i c q es l ak af hb hq hv ht mq hc=>
  simp only[hZ]
  split
  ·rename_i j e1 cy ug h1 h2
   obtain ⟨k,rfl,hk⟩:=lM h1
   have dQ:ord[0+k]? =some id:=by simpa using hk
   cases hx:(Nat.blt 0 (q++[(i0,c0)]).length&&(Nat.ble (q++[(i0,c0)]).length ug.length&&Nat.beq (bB ug ((q++[(i0,c0)]).length-1)) ver)) with
   | false=>exact .undef
   | true=>exact .cL (hR.nest _ id _ _ _ dQ af) ((hR.place _ id dQ).trans hb) (by simpa using hq) (Kg _ _) ht mq hc
  ·exact .undef
theorem SE (S:aE P w I β hp B M w0) {ord:List Nat} (hR:wJ hp β ord hp' au) {vs:Array Value} {xs:List V} (h: ∀(j:Nat) v x,vs[j]? =some v→xs[j]? =some x→ai P w I β hp v x) (j:Nat) (v:Value) (y:V)
  (hv:vs[j]? =some v) (hy:(xs.map (hZ hp ord))[j]? =some y):ai P w I au hp' v y:=by
 rw[List.getElem?_map] at hy
 cases hx:xs[j]? with
 | none=>rw[hx] at hy;cases hy
 | some x=>rw[hx] at hy;cases hy;exact SD S hR (h j v x hv hx)
theorem SF (S:aE P w I β hp B M w0) {ord:List Nat} (hR:wJ hp β ord hp' au) {n:Nat} {v:Value} {x:V} (hv:ai P w I β hp v x) (hF:kN hp' au n (vR hp ord n x).2):
  ai P w I au hp' v (vR hp ord n x).1:=by
 cases x with
 | nilS e=>
  obtain ⟨h1,h2⟩:=hF 0 _ rfl
  cases hv with
  | nilS=>exact .dZ h1 h2
 | fn f a b=>
  cases hv with
  | fn q1 q2 q3 q4=>exact .fn (by simpa using q1) (SE S hR q2) (by simpa using q3) (SE S hR q4)
 | _=>exact SD S hR hv
end
section
variable {P:Program} {A:cM} {w w':World} {I I' I2:Nat→Prop} {μ β au:Nat→Option Nat} {hp hp':Nat→Option ah} {C:ae} {B:Nat} {M:Nat→Prop} {w0:Start}
theorem kN.left {n:Nat} {a b:List ah} (h:kN hp' au n (a++b)):kN hp' au n a:=fun k x hx=>
 h k x (by rw[List.getElem?_append_left (List.getElem?_eq_some_iff.1 hx).1];exact hx)
theorem kN.right {n:Nat} {a b:List ah} (h:kN hp' au n (a++b)):kN hp' au (n+a.length) b:=fun k x hx=>by
 have:=h (a.length+k) x (by rw[List.getElem?_append_right (by omega),Nat.add_sub_cancel_left];exact hx)
 rwa [←Nat.add_assoc] at this
def mJ (bs:List ah):Prop:= ∀b∈bs,∃e,b= .arr e [] false
theorem mJ.app {a b:List ah} (h1:mJ a) (h2:mJ b):mJ (a++b):=fun x hx=>(List.mem_append.1 hx).elim (h1 x) (h2 x)
theorem mJ.nil:mJ []:=fun x hx=>by simp at hx
theorem SG {ord:List Nat} {n:Nat} {x:V}:mJ (vR hp ord n x).2:=by
 cases x<;>simp only[vR]<;>first|exact .nil|skip
 intro b hb
 simp only[List.mem_singleton] at hb
 exact ⟨_,hb⟩
theorem Kh {ord:List Nat}: ∀{xs:List V} {n:Nat},mJ (nq hp ord n xs).2
 | [],n=> .nil
 | x::xs,n=>by
  simp only[nq]
  exact SG.app Kh
theorem FJ {ord:List Nat}: ∀{xs:List V} {n:Nat},(nq hp ord n xs).1.length=xs.length
 | [],n=>rfl
 | x::xs,n=>by simp only[nq,List.length_cons,FJ]
theorem FK (S:aE P w I β hp B M w0) {ord:List Nat} (hR:wJ hp β ord hp' au): ∀{xs:List V} {vs:List Value} {n:Nat},(∀(j:Nat) v x,vs[j]? =some v→xs[j]? =some x→ai P w I β hp v x)→
  kN hp' au n (nq hp ord n xs).2→∀(j:Nat) v y,vs[j]? =some v→(nq hp ord n xs).1[j]? =some y→ai P w I au hp' v y
 | [],vs,n,h,hF,j,v,y,hv,hy=>by simp[nq] at hy
 | x::xs,vs,n,h,hF,j,v,y,hv,hy=>by
  simp only[nq] at hF hy
  cases j with
  | zero=>
   simp at hy
   subst hy
   exact SF S hR (h 0 v x hv rfl) hF.left
  | succ j=>
   cases vs with
   | nil=>simp at hv
   | cons v0 vs=>exact FK S hR (vs:=vs) (fun j v x hj hx=>h (j+1) v x (by simpa using hj) (by simpa using hx)) hF.right j v y (by simpa using hv) (by simpa using hy)
theorem acv {ord:List Nat} {n:Nat} {x:V}:mJ (qd hp ord n x).2:=by
 cases x<;>simp only[qd]<;>first|exact SG|exact Kh
theorem acw (S:aE P w I β hp B M w0) {ord:List Nat} (hR:wJ hp β ord hp' au) {n:Nat} {v:Value} {x:V} (hv:ai P w I β hp v x) (hF:kN hp' au n (qd hp ord n x).2):
  ai P w I au hp' v (qd hp ord n x).1:=by
 cases x with
 | agg cs=>
  obtain ⟨ds,rfl,h1,h2⟩:=hv.kH
  simp only[qd] at hF⊢
  exact .agg (by rw[FJ];exact h1) fun j v y hj hy=>FK S hR (vs:=ds.toList) (fun j v x hj hx=>h2 j v x (by simpa using hj) hx) hF j v y (by simpa using hj) hy
 | bj cs=>
  obtain ⟨ds,rfl,h1,h2⟩:=hv.tK
  simp only[qd] at hF⊢
  exact .bj (by rw[FJ];exact h1) fun j v y hj hy=>FK S hR (vs:=ds.toList) (fun j v x hj hx=>h2 j v x (by simpa using hj) hx) hF j v y (by simpa using hj) hy
 | _=>exact SF S hR hv hF
theorem SH {ord:List Nat} {sl:Nat→V}: ∀{l:List Nat} {n:Nat},mJ (lz hp ord sl n l).2
 | [],n=> .nil
 | s::l,n=>by
  simp only[lz]
  exact acv.app SH
theorem SI {ord:List Nat} {sl:Nat→V} {k:Nat} {y:V}: ∀{l:List Nat} {n:Nat},kN hp' au n (lz hp ord sl n l).2→dY (lz hp ord sl n l).1 k=some y→
  ∃n',kN hp' au n' (qd hp ord n' (sl k)).2∧y=(qd hp ord n' (sl k)).1
 | [],n,_,h=>by cases h
 | s::l,n,hF,h=>by
  simp only[lz] at hF h
  simp only[dY] at h
  cases hb:Nat.beq k s with
  | true=>
   rw[hb] at h
   rw[Nat.beq_eq] at hb
   subst hb
   cases h
   exact ⟨n,hF.left,rfl⟩
  | false=>
   rw[hb] at h
   exact SI hF.right h
theorem acx {ord:List Nat} {n id:Nat}:mJ (fc hp ord n id).2:=by
 unfold fc
 split
 ·exact Kh
 ·exact .nil
 ·exact .nil
 ·exact .nil
 ·exact .nil
theorem SJ {ord:List Nat}: ∀{l:List Nat} {n:Nat},mJ (fL hp ord n l).2
 | [],n=> .nil
 | s::l,n=>by
  simp only[fL]
  exact acx.app SJ
theorem SK {ord:List Nat}: ∀{l:List Nat} {n:Nat},(fL hp ord n l).1.length=l.length
 | [],n=>rfl
 | x::xs,n=>by simp only[fL,List.length_cons,SK]
theorem SM {ord:List Nat}: ∀{l:List Nat} {n j:Nat} {id:Nat},l[j]? =some id→∃n',(kN hp' au n (fL hp ord n l).2→kN hp' au n' (fc hp ord n' id).2)∧(fL hp ord n l).1[j]? =some (fc hp ord n' id).1
 | [],n,j,id,h=>by simp at h
 | s::l,n,j,id,h=>by
  simp only[fL]
  cases j with
  | zero=>
   simp at h
   subst h
   exact ⟨n,fun hF=>hF.left,rfl⟩
  | succ j=>
   obtain ⟨n',h1,h2⟩:=SM (n:=n+(fc hp ord n s).2.length) (j:=j) (by simpa using h)
   exact ⟨n',fun hF=>h1 hF.right,by simpa using h2⟩
theorem FL: ∀{l acc:List Nat},∃t,tu hp acc l=acc++t∧(acc.Nodup→(acc++t).Nodup)
 | [],acc=>⟨[],by simp[tu],by simp⟩
 | id::l,acc=>by
  simp only[tu]
  cases hb:(jZ acc id|| !(IM hp id)) with
  | true=>exact FL
  | false=>
   obtain ⟨t,h1,h2⟩:=FL (l:=l) (acc:=acc++[id])
   refine ⟨id::t,by simp only[cond_false,h1,List.append_assoc,List.singleton_append],fun hn=> ?_⟩
   have:acc++id::t=(acc++[id])++t:=by simp
   rw[this]
   refine h2 ?_
   rw[List.nodup_append]
   refine ⟨hn,by simp,fun a ha b ax=> ?_⟩
   simp only[List.mem_singleton] at ax
   subst ax
   intro e
   subst e
   rw[we ha] at hb
   cases hb
theorem SN: ∀{n:Nat} {l:List Nat},∃t,grow hp n l=l++t∧(l.Nodup→(l++t).Nodup)
 | 0,l=>⟨[],by simp[grow],by simp⟩
 | n+1,l=>by
  simp only[grow]
  obtain ⟨t,h1,h2⟩:=FL (hp:=hp) (acc:=l) (l:=l.flatMap (IN hp))
  rw[h1]
  obtain ⟨t',h3,h4⟩:=SN (n:=n) (l:=l++t)
  exact ⟨t++t',by rw[h3,List.append_assoc],fun hn=>by rw[←List.append_assoc];exact h4 (h2 hn)⟩
theorem acy {m:Nat} {live:List Nat} {st:St}: ∃t,IP m live st=List.range m++t∧(List.range m++t).Nodup:=by
 unfold IP
 obtain ⟨t,h1,h2⟩:=FL (hp:=st.hp) (acc:=List.range m) (l:=live.flatMap fun s=>IL (st.sl s))
 rw[h1]
 obtain ⟨t',h3,h4⟩:=SN (hp:=st.hp) (n:=3) (l:=List.range m++t)
 exact ⟨t++t',by rw[h3,List.append_assoc],by rw[←List.append_assoc];exact h4 (h2 List.nodup_range)⟩
end
section
variable {P:Program} {A:cM} {E:FuncId→Bool} {G:Nat→V} {w w':World} {I I' I2:Nat→Prop} {μ β au:Nat→Option Nat} {hp hp' hp0:Nat→Option ah} {C:ae} {B:Nat} {M:Nat→Prop} {w0:Start}
theorem SO {n m:Nat} {ord live:List Nat} {a:Act} {st:St} (mw:ord.Nodup) (Ak: ∀id,id<m→ord[id]? =some id∨∃p,ord[id]? =some p∧st.hp p=none) (S:aE P w I β st.hp B M w0) (hA:iQ P E G w I β n a st) (hE:kK w0.w w0.I μ hp0 w I β st.hp) (hm: ∀id blk,hp0 id=some blk→id<m) (jt: ∀id e es ak,hp0 id=some (.nest e es ak)→∀k,bB ak k=0):
  ∃au,aE P w I au (vS ord live st).hp B M w0∧iQ P E G w I au n a (vS ord live st)∧kK w0.w w0.I μ hp0 w I au (vS ord live st).hp:=by
 have acz:vS ord live st=mk (lz st.hp ord st.sl (ord.length+(fL st.hp ord ord.length ord).2.length) live).1
   ((fL st.hp ord ord.length ord).1++((fL st.hp ord ord.length ord).2++(lz st.hp ord st.sl (ord.length+(fL st.hp ord ord.length ord).2.length) live).2)):=by
  rfl
 rw[acz]
 let hp':=jz ((fL st.hp ord ord.length ord).1++((fL st.hp ord ord.length ord).2++(lz st.hp ord st.sl (ord.length+(fL st.hp ord ord.length ord).2.length) live).2))
 let au:Nat→Option Nat:=fun j=>if j<ord.length then (ord[j]?).bind β else none
 have hlen:(fL st.hp ord ord.length ord).1.length=ord.length:=SK
 have iO: ∀j,j<ord.length→hp' j=(fL st.hp ord ord.length ord).1[j]? :=by
  intro j hj
  simp only[hp',gW]
  rw[List.getElem?_append_left (by omega)]
 have gV: ∀k,hp' (ord.length+k)=((fL st.hp ord ord.length ord).2++(lz st.hp ord st.sl (ord.length+(fL st.hp ord ord.length ord).2.length) live).2)[k]? :=by
  intro k
  simp only[hp',gW]
  rw[List.getElem?_append_right (by omega),hlen,Nat.add_sub_cancel_left]
 have hF:kN hp' au ord.length ((fL st.hp ord ord.length ord).2++(lz st.hp ord st.sl (ord.length+(fL st.hp ord ord.length ord).2.length) live).2):=by
  intro k b hb
  refine ⟨(gV k).trans hb,?_⟩
  simp only[au]
  rw[if_neg (by omega)]
 have Ah:mJ ((fL st.hp ord ord.length ord).2++(lz st.hp ord st.sl (ord.length+(fL st.hp ord ord.length ord).2.length) live).2):=SJ.app SH
 have ow: ∀(j:Nat) id,ord[j]? =some id→au j=β id:=by
  intro j id hj
  simp only[au]
  rw[if_pos (List.getElem?_eq_some_iff.1 hj).1,hj]
  rfl
 have qH: ∀(j:Nat) id,ord[j]? =some id→∃n',kN hp' au n' (fc st.hp ord n' id).2∧hp' j=some (fc st.hp ord n' id).1:=by
  intro j id hj
  obtain ⟨n',h1,h2⟩:=SM (hp:=st.hp) (hp':=hp') (au:=au) (ord:=ord) (n:=ord.length) hj
  exact ⟨n',h1 hF.left,(iO j (List.getElem?_eq_some_iff.1 hj).1).trans h2⟩
 have hR:wJ st.hp β ord hp' au:=by
  refine ⟨fun j id e es fz hj af=> ?_,fun j id T cs hj af=> ?_,fun j id hj af=> ?_,ow,fun j id e es ak hj af=> ?_,fun j id t es hj af=> ?_⟩
  ·obtain ⟨n',_,h2⟩:=qH j id hj
   rw[h2];simp only[fc,af]
  ·obtain ⟨n',_,h2⟩:=qH j id hj
   rw[h2];simp only[fc,af];exact ⟨_,rfl⟩
  ·obtain ⟨n',_,h2⟩:=qH j id hj
   rw[h2];simp only[fc,af]
  ·obtain ⟨n',_,h2⟩:=qH j id hj
   rw[h2];simp only[fc,af]
  ·obtain ⟨n',_,h2⟩:=qH j id hj
   rw[h2];simp only[fc,af]
 have cls: ∀j blk',hp' j=some blk'→(∃id,ord[j]? =some id∧((blk'= .dead)∨∃blk,st.hp id=some blk∧blk≠ .dead∧∀o b,bw P w o blk' b→bw P w o blk b))∨(∃e,blk'= .arr e [] false∧au j=none):=by
  intro j blk' hj
  rcases Nat.lt_or_ge j ord.length with h|h
  ·have gK:=List.getElem?_eq_getElem h
   obtain ⟨n',_,h2⟩:=qH j _ gK
   rw[hj] at h2
   refine .inl ⟨_,gK,?_⟩
   cases af:st.hp ord[j] with
   | none=>left;simp only[fc,af] at h2;exact Option.some.inj h2
   | some blk=>
    cases blk with
    | dead=>left;simp only[fc,af] at h2;exact Option.some.inj h2
    | var T0 cs=>exact .inr ⟨_,rfl,by simp,fun o b h=>by simp only[fc,af] at h2;rw[Option.some.inj h2] at h;exact .root (by simp) (h.flat (by simp))⟩
    | arr e es fz=>exact .inr ⟨_,rfl,by simp,fun o b h=>by simp only[fc,af] at h2;rw[Option.some.inj h2] at h;exact .root (by simp) (h.flat (by simp))⟩
    | map t es=>exact .inr ⟨_,rfl,by simp,fun o b h=>by simp only[fc,af] at h2;rw[Option.some.inj h2] at h;exact .root (by simp) (h.flat (by simp))⟩
    | nest e es ak=>
     refine .inr ⟨_,rfl,by simp,fun o b h=> ?_⟩
     simp only[fc,af] at h2
     rw[Option.some.inj h2] at h
     cases h with
     | root _ h=>exact .root (by simp) h
     | row h1 h2=>exact .row h1 h2
  ·obtain ⟨k,rfl⟩: ∃k,j=ord.length+k:=⟨j-ord.length,by omega⟩
   rw[gV] at hj
   obtain ⟨e,he⟩:=Ah _ (List.mem_of_getElem? hj)
   exact .inr ⟨e,he,(hF k _ hj).2⟩
 refine ⟨au,⟨⟨fun j blk' hj=> ?_,fun j1 j2 b1 b2 b e1 e2 f1 f2=> ?_,fun j blk b e1 f1=> ?_,S.h.jC⟩,S.cp,S.size,S.new,S.io⟩,⟨fun k=> ?_,hA.size,hA.defers,hA.aC⟩,⟨hE.dE,hE.cp,fun id blk af=> ?_,fun id blk blk' b af bC hd hb=> ?_⟩⟩
 ·change hp' j=some blk' at hj
  rcases Nat.lt_or_ge j ord.length with h|h
  ·have gK:=List.getElem?_eq_getElem h
   obtain ⟨n',SP,h2⟩:=qH j _ gK
   rw[hj] at h2
   rw[ow j _ gK]
   cases af:st.hp ord[j] with
   | none=>simp only[fc,af] at h2;rw[Option.some.inj h2];exact .dead
   | some blk=>
    have hr:=S.h.rel _ _ af
    generalize β ord[j]=o at hr
    cases hr with
    | dead=>simp only[fc,af] at h2;rw[Option.some.inj h2];exact .dead
    | eb hb=>simp only[fc,af] at h2;rw[Option.some.inj h2];exact .eb hb
    | arr a1 a2 a3 a4 a5 a6 a7=>simp only[fc,af] at h2;rw[Option.some.inj h2];exact .arr a1 a2 a3 a4 a5 a6 a7
    | nest a1 a2 a3=>simp only[fc,af] at h2;rw[Option.some.inj h2];exact .nest a1 a2 a3
    | map a1 a2 a3 a4 a5 a6 a7=>simp only[fc,af] at h2;rw[Option.some.inj h2];exact .map a1 a2 a3 a4 a5 a6 a7
    | @var xs b Ca T hb hh hs cW hx gv=>
     simp only[fc,af] at h2 SP
     rw[Option.some.inj h2]
     exact .var hb hh (by rw[FJ];exact hs) cW (fun i v y hi hy=>FK S hR (vs:=Ca.toList) (fun i v x hi cH=>hx i v x (by simpa using hi) cH) SP i v y (by simpa using hi) hy) gv
  ·rcases cls j blk' hj with ⟨id,af,_⟩|⟨e,he,hb⟩
   ·have:=(List.getElem?_eq_some_iff.1 af).1;omega
   ·rw[he];exact .eb hb
 ·rcases cls j1 b1 e1 with ⟨Ki,o1,x1⟩|⟨e,_,hb⟩
  ·rcases cls j2 b2 e2 with ⟨cJ,o2,x2⟩|⟨e,_,hb⟩
   ·obtain ⟨c1,y1,z1,g1⟩:=x1.resolve_left f1.alive
    obtain ⟨c2,y2,z2,g2⟩:=x2.resolve_left f2.alive
    rw[ow _ _ o1] at f1
    rw[ow _ _ o2] at f2
    have:=S.h.inj Ki cJ c1 c2 b y1 y2 (g1 _ _ f1) (g2 _ _ f2)
    subst this
    obtain ⟨q1,q2⟩:=List.getElem?_eq_some_iff.1 o1
    obtain ⟨q3,q4⟩:=List.getElem?_eq_some_iff.1 o2
    exact (List.getElem_inj mw).1 (q2.trans q4.symm)
   ·subst ‹b2=_›;have:=f2.flat (by simp);rw[hb] at this;cases this
  ·subst ‹b1=_›;have:=f1.flat (by simp);rw[hb] at this;cases this
 ·rcases cls j blk e1 with ⟨Ki,o1,x1⟩|⟨e,_,hb⟩
  ·obtain ⟨c1,y1,z1,g1⟩:=x1.resolve_left f1.alive
   rw[ow _ _ o1] at f1
   exact S.h.own Ki c1 b y1 (g1 _ _ f1)
  ·subst ‹blk=_›;have:=f1.flat (by simp);rw[hb] at this;cases this
 ·change ai P w I au hp' (a.tmps.getD k undef) (jk _ k)
  unfold jk
  cases JY:dY (lz st.hp ord st.sl (ord.length+(fL st.hp ord ord.length ord).2.length) live).1 k with
  | none=>exact .undef
  | some y=>
   obtain ⟨n',h1,h2⟩:=SI hF.right JY
   simp only[Option.getD_some,h2]
   exact acw S hR (hA.sl k) h1
 ·obtain ⟨qB,k1,k2,k3⟩:=hE.blk id blk af
  rcases Ak id (hm id blk af) with ho|⟨p,ho,br⟩
  ·cases qB with
   | dead=>exact ⟨.dead,hR.dead id id ho k1,k2,fun h=>absurd rfl h⟩
   | var T0 cs=>
    obtain ⟨ik,h'⟩:=hR.var id id T0 cs ho k1
    refine ⟨_,h',?_,fun _=>(ow id id ho).trans (k3 (by simp))⟩
    cases blk<;>simp_all [ah.le]
   | arr e es fz=>exact ⟨_,hR.arr id id e es fz ho k1,k2,fun _=>(ow id id ho).trans (k3 (by simp))⟩
   | map t es=>exact ⟨_,hR.map id id t es ho k1,k2,fun _=>(ow id id ho).trans (k3 (by simp))⟩
   | nest e es ak=>
    refine ⟨_,hR.nest id id e es ak ho k1,?_,fun _=>(ow id id ho).trans (k3 (by simp))⟩
    obtain ⟨IY,aah,rfl,l1,l2,_⟩:=ah.IW k2
    exact ⟨rfl,l1,by simpa using l2,fun k=>by rw[jt id _ _ _ af k];exact Nat.zero_le _⟩
  ·obtain ⟨n',_,h2⟩:=qH id p ho
   simp only[fc,br] at h2
   exact ⟨.dead,h2,by cases blk<;>trivial,fun h=>absurd rfl h⟩
 ·obtain ⟨qB,k1,k2,k3⟩:=hE.blk id blk af
  rcases Ak id (hm id blk af) with ho|⟨p,ho,br⟩
  ·refine hE.size id blk qB b af k1 (fun qE=> ?_) hb
   subst qE
   have:=hR.dead id id ho k1
   change hp' id=some blk' at bC
   rw[this] at bC
   exact hd (Option.some.inj bC).symm
  ·obtain ⟨n',_,h2⟩:=qH id p ho
   simp only[fc,br] at h2
   change hp' id=some blk' at bC
   rw[h2] at bC
   exact absurd (Option.some.inj bC).symm hd
theorem acA {n m:Nat} {live:List Nat} {a:Act} {st:St} (S:aE P w I β st.hp B M w0) (hA:iQ P E G w I β n a st) (hE:kK w0.w w0.I μ hp0 w I β st.hp) (hm: ∀id blk,hp0 id=some blk→id<m) (jt: ∀id e es ak,hp0 id=some (.nest e es ak)→∀k,bB ak k=0):
  ∃au,aE P w I au (canon m live st).hp B M w0∧iQ P E G w I au n a (canon m live st)∧kK w0.w w0.I μ hp0 w I au (canon m live st).hp:=by
 obtain ⟨t,Ak,mw⟩:=acy (m:=m) (live:=live) (st:=st)
 refine SO (by rw[Ak];exact mw) (fun id aX=> .inl ?_) S hA hE hm jt
 rw[Ak,List.getElem?_append_left (by simpa using aX)]
 simp[aX]
theorem SQ: ∀{l:List Nat},n9 l=true→l.Nodup
 | [],_=> .nil
 | a::l,h=>by
  simp only[n9,Bool.and_eq_true,Bool.not_eq_true'] at h
  rw[List.nodup_cons]
  exact ⟨fun hm=>Bool.noConfusion ((we hm).symm.trans h.1),SQ h.2⟩
theorem acB {m:Nat} {mv:List Nat} {id:Nat} (h:id<m):(ml m mv)[id]? =some id∨(ml m mv)[id]? =some (m+id):=by
 unfold ml
 rw[List.getElem?_append_left (by simpa using h),List.getElem?_map]
 simp only[List.getElem?_range h,Option.map_some]
 cases jZ mv id with
 | true=>exact .inr rfl
 | false=>exact .inl rfl
end
section
variable {P:Program} {A:cM} {w w':World} {I I' I2:Nat→Prop} {μ β au:Nat→Option Nat} {hp hp' hp0:Nat→Option ah} {C:ae} {B:Nat} {M:Nat→Prop} {w0:Start}
theorem FM (p:Nat→Prop) (h: ∃n,p n): ∃n,p n∧∀m,p m→n≤m:=by
 obtain ⟨n,hn⟩:=h
 induction n using Nat.strongRecOn with
 | _ n ih=>
  by_cases hx: ∃m,m<n∧p m
  ·obtain ⟨m,hm,hp⟩:=hx
   exact ih m hm hp
  ·exact ⟨n,hn,fun m hm=>Nat.le_of_not_lt fun aX=>hx ⟨m,aX,hm⟩⟩
open Classical in
theorem acC {c:Code} {Q:Exit→Act→World→Prop} (J:Nat→Act→World→Prop) (h0: ∀a w,¬J 0 a w) (round: ∀n a w,J (n+1) a w→c.wp P (Exit.then (J n) Q) a w) {n:Nat} {a:Act} {w:World} (h:J n a w):
  (Code.loop c).wp P Q a w:=by
 refine wp_loop (fun a w=> ∃n,J n a w) (fun a w=>if h: ∃n,J n a w then (FM _ h).choose else 0) ⟨n,h⟩ fun a w hJ=> ?_
 obtain ⟨h1,h2⟩:=(FM _ hJ).choose_spec
 generalize hk:(FM _ hJ).choose=k at h1 h2
 cases k with
 | zero=>exact absurd h1 (h0 a w)
 | succ k=>
  refine wp_mono (round k a w h1) fun e a' w' he=> ?_
  cases e with
  | normal=>
   have hex: ∃n,J n a' w':=⟨k,he⟩
   refine ⟨hex,?_⟩
   have h3:=(FM _ hex).choose_spec.2 k he
   rw[dif_pos hex,dif_pos hJ,hk]
   omega
  | _=>exact he
def wK:Out→Exit
 | .norm=> .normal
 | .exit id=> .exit id
 | .ret=> .ret
def Inv (P:Program) (E:FuncId→Bool) (G:Nat→V) (B:Nat) (M:Nat→Prop) (w0:Start) (μ:Nat→Option Nat) (hp0:Nat→Option ah) (n:Nat) (a:Act) (w:World) (st:St):Prop:=
 ∃I β,aE P w I β st.hp B M w0∧iQ P E G w I β n a st∧kK w0.w w0.I μ hp0 w I β st.hp
theorem Inv.canon {E:FuncId→Bool} {G:Nat→V} {n m:Nat} {a:Act} {st:St} {live:List Nat} (h:Inv P E G B M w0 μ hp0 n a w st) (hm: ∀id blk,hp0 id=some blk→id<m) (jt: ∀id e es ak,hp0 id=some (.nest e es ak)→∀k,bB ak k=0):Inv P E G B M w0 μ hp0 n a w (canon m live st):=by
 obtain ⟨I,β,S,hA,hE⟩:=h
 obtain ⟨au,a,b,c⟩:=acA (live:=live) S hA hE hm jt
 exact ⟨I,au,a,b,c⟩
theorem FN: ∀{l:List BS} {ds:List V},(eZ l ds).length=l.length
 | [],_=>rfl
 | b::l,ds=>by simp only[eZ,List.length_cons,FN]
theorem Inv.enter {A:cM} {E:FuncId→Bool} {G:Nat→V} {n f:Nat} {ds:List V} {a:Act} (kj:n9 (ml (A.sin f).aW.length (A.mv f))=true) (h:Inv P E G B M w0 μ hp0 n a w (bm (A.sin f) ds)) (hm: ∀id blk,hp0 id=some blk→id<(A.sin f).aW.length)
  (jt: ∀id e es ak,hp0 id=some (.nest e es ak)→∀k,bB ak k=0) (wL: ∀p,(A.sin f).aW.length≤p→(bm (A.sin f) ds).hp p=none):Inv P E G B M w0 μ hp0 n a w (zm A f ds):=by
 unfold zm
 split
 ·exact h
 ·obtain ⟨I,β,S,hA,hE⟩:=h
  obtain ⟨au,x,y,z⟩:=SO (m:=(A.sin f).aW.length) (ord:=ml (A.sin f).aW.length (A.mv f)) (live:=(A.sin f).bJ.map (·.1)) (SQ kj) (fun id af=>(acB af).imp (fun h=>h) fun h=>⟨_,h,wL _ (by omega)⟩) S hA hE hm jt
  exact ⟨I,au,x,y,z⟩
theorem Inv.reshape {E:FuncId→Bool} {G:Nat→V} {n m:Nat} {a:Act} {st:St} {S:Shape} {ds:List V} (h:Inv P E G B M w0 μ hp0 n a w st) (hs:iG m S st=some ds) (hm: ∀id blk,hp0 id=some blk→id<m):Inv P E G B M w0 μ hp0 n a w (bm S ds):=by
 obtain ⟨I,β,S1,hA,hE⟩:=h
 obtain ⟨r1,r2,_,r4⟩:=AM.reshape hs S1
 refine ⟨I,β,r1,⟨fun k=>r2 k _ (hA.sl k),hA.size,hA.defers,hA.aC⟩,⟨hE.dE,hE.cp,fun id blk af=> ?_,fun id blk blk' b af bC hd hb=> ?_⟩⟩
 ·obtain ⟨qB,k1,k2,k3⟩:=hE.blk id blk af
  obtain ⟨_,hle,_⟩:=Rx hs
  have hl:=hm id blk af
  obtain ⟨b7,h2⟩: ∃b7,(bm S ds).hp id=some b7:=by
   simp only[bm,mk,gW]
   exact ⟨_,List.getElem?_eq_getElem (by rw[FN];omega)⟩
  by_cases hd:b7= .dead
  ·subst hd
   exact ⟨_,h2,by cases blk<;>trivial,fun h=>absurd rfl h⟩
  ·obtain ⟨gQ,e1,e2,_⟩:=r4 id b7 h2 hd
   rw[k1] at e1;cases e1
   exact ⟨_,h2,ah.le_trans k2 e2,fun _=>k3 (fun e=>hd (ah.o5 (e▸e2)))⟩
 ·obtain ⟨gQ,e1,e2,_⟩:=r4 id blk' bC hd
  exact hE.size id blk gQ b af e1 (fun e=>hd (ah.o5 (e▸e2))) hb
theorem kM.here (h:kM P A C) (f:Nat) (id:Nat):kM P (A.here f id) C:=by
 intro key ds es hh
 obtain ⟨fn,c,h1,h2,h3⟩:=h key ds es hh
 refine ⟨fn,c,h1,h2,fun w I μ vals a g b d=>(h3 w I μ vals a g b d).mono fun e w' hx=> ?_⟩
 obtain ⟨v,I2,b9,q1,q2⟩:=hx
 exact ⟨v,I2,b9,q1,⟨q2.wC,q2.le,q2.res⟩⟩
theorem acD {a b:Out} (h:Ey a b=true):a=b:=by
 cases a<;>cases b<;>simp[Ey] at h<;>first|rfl|(subst h;rfl)
theorem SR {m:Nat} {r:Out × St}: ∀{l:List (Out × Shape)} {j:Nat} {e:Nat × List V},ways m j l r=some e→j≤e.1
 | [],j,e,h=>by cases h
 | (o,S)::l,j,e,h=>by
  simp only[ways] at h
  split at h
  ·cases h;exact Nat.le_refl _
  ·have:=SR h;omega
theorem Kj {m:Nat} {o:Out} {s:St} {out:Out} {st':St}: ∀{l:List (Out × Shape)} {k:Nat} {e:Nat × List V},ways m k l (o,s)=some e→j8 k l e.1 e.2 (fun o st=>some (o,st))=some (out,st')→
  out=o∧∃S,iG m S s=some e.2∧st'=bm S e.2
 | [],k,e,h,_=>by cases h
 | (o',S)::l,k,e,h,h2=>by
  simp only[ways] at h
  split at h
  ·rename_i ds hx
   cases h
   cases ho:Ey o' o with
   | false=>rw[ho] at hx;cases hx
   | true=>
    rw[ho] at hx
    have:=acD ho
    subst this
    cases l with
    | nil=>
     simp only[j8,Option.some.injEq,Prod.mk.injEq] at h2
     exact ⟨h2.1.symm,S,hx,h2.2.symm⟩
    | cons p l=>
     simp only[j8,Nat.beq_refl,cond_true,Option.some.injEq,Prod.mk.injEq] at h2
     exact ⟨h2.1.symm,S,hx,h2.2.symm⟩
  ·have pe:=SR h
   cases l with
   | nil=>cases h
   | cons p l=>
    have bP:Nat.beq e.1 k=false:=by
     cases hb:Nat.beq e.1 k with
     | false=>rfl
     | true=>rw[Nat.beq_eq] at hb;omega
    simp only[j8,bP,cond_false] at h2
    exact Kj h h2
theorem acE (hC:kM P A C) (hP:js P A) (pq:P.follows .mixedOrders=true) {f n m:Nat} (hm: ∀id blk,hp0 id=some blk→id<m) (jt: ∀id e es ak,hp0 id=some (.nest e es ak)→∀k,bB ak k=0):
  ∀(c:Code) {st st':St} {out:Out} {Q:Exit→Act→World→Prop} {a:Act} {w:World},exec P A C f n m c st=some (out,st')→Inv P A.idle A.aC B M w0 μ hp0 n a w st→
   (∀a' w',Inv P A.idle A.aC B M w0 μ hp0 n a' w' st'→Q (wK out) a' w')→c.wp P Q a w:=by
 intro c
 induction c with
 | skip=>
  intro st st' out Q a w h hI hQ
  simp only[exec,Option.some.injEq,Prod.mk.injEq] at h
  obtain ⟨rfl,rfl⟩:=h
  exact wp_skip (hQ a w hI)
 | exit id=>
  intro st st' out Q a w h hI hQ
  simp only[exec,Option.some.injEq,Prod.mk.injEq] at h
  obtain ⟨rfl,rfl⟩:=h
  exact wp_exit (hQ a w hI)
 | ret=>
  intro st st' out Q a w h hI hQ
  simp only[exec,Option.some.injEq,Prod.mk.injEq] at h
  obtain ⟨rfl,rfl⟩:=h
  exact wp_ret (hQ a w hI)
 | region id ops draw=>
  intro st st' out Q a w h hI hQ
  simp only[exec] at h
  obtain ⟨iR,h1,h2⟩:=bind_some h
  simp only[Option.some.injEq,Prod.mk.injEq] at h2
  obtain ⟨rfl,rfl⟩:=h2
  obtain ⟨I,β,S,hA,hE⟩:=hI
  refine acs (hC.here f id) (hP.here f id) pq h1 S hA fun a' w' I' au k1 k2 k3=> ?_
  obtain ⟨I2,l1,l2,l3⟩:=SB (m:=m) (pur:=A.pur f id) k2 k3
  have hE2:=(hE.trans k1.Ft).trans l1.Ft
  exact hQ a' w' (Inv.canon ⟨I2,au,l2,l3,hE2⟩ hm jt)
 | seq x y gd gf=>
  intro st st' out Q a w h hI hQ
  simp only[exec] at h
  obtain ⟨⟨o1,iR⟩,h1,h2⟩:=bind_some h
  refine wp_seq (gd h1 hI fun a' w' jL=> ?_)
  cases o1 with
  | norm=>exact gf h2 jL hQ
  | exit id=>
   simp only[Option.some.injEq,Prod.mk.injEq] at h2
   obtain ⟨rfl,rfl⟩:=h2
   exact hQ a' w' jL
  | ret=>
   simp only[Option.some.injEq,Prod.mk.injEq] at h2
   obtain ⟨rfl,rfl⟩:=h2
   exact hQ a' w' jL
 | cond c x y gd gf=>
  intro st st' out Q a w h hI hQ
  cases c with
  | tmp t=>
   have go: ∀{st st':St} {out:Out} {Q:Exit→Act→World→Prop} {a:Act} {w:World},(match st.sl t with
     | .bool b=>(bif b then exec P A C f n m x st else exec P A C f n m y st).bind fun r=>
      match r.1 with
      | .norm=>some (.norm,AM.canon m (A.join f t) r.2)
      | _=>some r
     | _=>none)=some (out,st')→Inv P A.idle A.aC B M w0 μ hp0 n a w st→(∀a' w',Inv P A.idle A.aC B M w0 μ hp0 n a' w' st'→Q (wK out) a' w')→(Code.cond (.tmp t) x y).wp P Q a w:=by
    intro st st' out Q a w h hI hQ
    cases hs:st.sl t<;>rw[hs] at h<;>simp only at h<;>first|(cases h;done)|skip
    rename_i b
    obtain ⟨⟨o1,iR⟩,h1,h2⟩:=bind_some h
    obtain ⟨I,β,S,hA,hE⟩:=hI
    have fg:a.eval (.tmp t)= .bool b:=by
     have:=R7 hA hs
     simp[Act.eval,this]
    have fin: ∀a' w',Inv P A.idle A.aC B M w0 μ hp0 n a' w' iR→Q (wK o1) a' w':=by
     intro a' w' jL
     cases o1 with
     | norm=>
      simp only[Option.some.injEq,Prod.mk.injEq] at h2
      obtain ⟨rfl,rfl⟩:=h2
      exact hQ a' w' (jL.canon hm jt)
     | exit id=>
      simp only[Option.some.injEq,Prod.mk.injEq] at h2
      obtain ⟨rfl,rfl⟩:=h2
      exact hQ a' w' jL
     | ret=>
      simp only[Option.some.injEq,Prod.mk.injEq] at h2
      obtain ⟨rfl,rfl⟩:=h2
      exact hQ a' w' jL
    refine wp_cond fg ?_
    cases b with
    | true=>exact gd h1 ⟨I,β,S,hA,hE⟩ fin
    | false=>exact gf h1 ⟨I,β,S,hA,hE⟩ fin
   simp only[exec] at h
   split at h
   ·exact go h hI hQ
   ·obtain ⟨ds,h1,h2⟩:=bind_some h
    obtain ⟨e,h3,h4⟩:=bind_some h2
    obtain ⟨⟨o1,s1⟩,h5,h6⟩:=bind_some h3
    obtain ⟨rfl,S',k1,rfl⟩:=Kj h6 h4
    exact go h5 (hI.reshape h1 hm) fun a' w' jL=>hQ a' w' (jL.reshape k1 hm)
  | const v=>
   cases v with
   | bool b=>
    simp only[exec] at h
    refine wp_cond (t:=b) rfl ?_
    cases b with
    | true=>exact gd h hI hQ
    | false=>exact gf h hI hQ
   | _=>simp only[exec] at h;cases h
  | _=>simp only[exec] at h;cases h
 | block id c ih=>
  intro st st' out Q a w h hI hQ
  simp only[exec] at h
  obtain ⟨⟨o1,iR⟩,h1,h2⟩:=bind_some h
  refine wp_block (ih h1 hI fun a' w' jL=> ?_)
  cases o1 with
  | norm=>
   simp only[Option.some.injEq,Prod.mk.injEq] at h2
   obtain ⟨rfl,rfl⟩:=h2
   exact hQ a' w' (jL.canon hm jt)
  | exit aA=>
   simp only at h2
   cases hb:Nat.beq aA id with
   | true=>
    rw[hb] at h2
    simp only[cond_true,Option.some.injEq,Prod.mk.injEq] at h2
    obtain ⟨rfl,rfl⟩:=h2
    rw[Nat.beq_eq] at hb
    simp only[wK,Exit.inBlock,hb,if_true]
    exact hQ a' w' (jL.canon hm jt)
   | false=>
    rw[hb] at h2
    simp only[cond_false,Option.some.injEq,Prod.mk.injEq] at h2
    obtain ⟨rfl,rfl⟩:=h2
    have bP:aA≠id:=fun e=>by rw[e,Nat.beq_refl] at hb;cases hb
    simp only[wK,Exit.inBlock,bP,if_false]
    exact hQ a' w' jL
  | ret=>
   simp only[Option.some.injEq,Prod.mk.injEq] at h2
   obtain ⟨rfl,rfl⟩:=h2
   exact hQ a' w' jL
 | loop c ih=>
  intro st st' out Q a w h hI hQ
  simp only[exec] at h
  split at h
  ·cases h
  ·rename_i S hS
   obtain ⟨ds,h1,h2⟩:=bind_some h
   obtain ⟨e,h3,h4⟩:=bind_some h2
   obtain ⟨k,hk⟩:=vG h3
   refine acC (J:=fun k a w=> ∃ds,Inv P A.idle A.aC B M w0 μ hp0 n a w (bm S.1 ds)∧eX (fun ds=>kE m S.1 S.2 (exec P A C f n m c (bm S.1 ds))) k ds=some e) (fun a w ⟨s,_,h⟩=>by cases h) (fun k a w ⟨ds,hs,hk⟩=> ?_) ⟨ds,hI.reshape h1 hm,hk⟩
   simp only[eX] at hk
   obtain ⟨y,h5,h6⟩:=bind_some hk
   unfold kE at h5
   obtain ⟨⟨o1,s1⟩,h7,h8⟩:=bind_some h5
   refine ih h7 hs fun a' w' jL=> ?_
   have SS: ∀{e':Nat × List V},ways m 0 S.2 (o1,s1)=some e'→e'=e→Q (wK o1) a' w':=by
    intro e' q1 q2
    subst q2
    obtain ⟨rfl,S',k1,rfl⟩:=Kj q1 h4
    exact hQ a' w' (jL.reshape k1 hm)
   cases o1 with
   | norm=>
    obtain ⟨ds2,q1,q2⟩:=bind_some h8
    cases q2
    exact ⟨ds2,jL.reshape q1 hm,h6⟩
   | exit id=>
    obtain ⟨e',q1,q2⟩:=bind_some h8
    cases q2
    cases h6
    exact SS q1 rfl
   | ret=>
    obtain ⟨e',q1,q2⟩:=bind_some h8
    cases q2
    cases h6
    exact SS q1 rfl
 | _=>intro st st' out Q a w h;simp only[exec] at h;cases h
end
section
variable {P:Program} {A:cM} {w w':World} {I I' I2:Nat→Prop} {μ β au b9:Nat→Option Nat} {hp hp' hp0:Nat→Option ah} {C:ae} {B:Nat} {M:Nat→Prop} {w0:Start}
theorem FO (S:aE P w I β hp B M w0) {a:Act} {st:St} (hs:kF P w I β hp a st.sl): ∀{l:List ResultVar} {xs:List V} {rd:List Nat},(tx P st l).run C hp=some (xs,rd)→
  ∃vs:List Value,(l.mapM fun| .tmp t=>Pure.pure (a.tmps.getD t undef)| .cell x t=>do loadVar t (←asAddr (a.tmps.getD x undef)):Sem (List Value)).run P w= .ok vs w∧vs.length=xs.length∧l.length=xs.length∧
   ∀(j:Nat) v x,vs[j]? =some v→xs[j]? =some x→ai P w I β hp v x
 | [],xs,rd,h=>by
  cases h
  exact ⟨[],by simp,rfl,rfl,by simp⟩
 | .tmp t::l,xs,rd,h=>by
  simp only[tx] at h
  obtain ⟨ys,l1,l2,h1,h2⟩:=kG h
  have h3:=I0 h2
  subst h3
  obtain ⟨vs,a1,a2,a3,a4⟩:=FO S hs h1
  refine ⟨a.tmps.getD t undef::vs,by simp only[List.mapM_cons,Sem.run_bind,Sem.run_pure,Result.andThen_ok,a1],by simp[a2],by simp[a3],fun j v x hj hx=> ?_⟩
  cases j with
  | zero=>simp at hj hx;subst hj;subst hx;have:=hs t;simpa using this
  | succ j=>exact a4 j v x (by simpa using hj) (by simpa using hx)
 | .cell y t::l,xs,rd,h=>by
  simp only[tx] at h
  obtain ⟨r,l1,l2,h1,h2⟩:=kG h
  obtain ⟨ys,l3,l4,h3,h4⟩:=kG h2
  have h5:=I0 h4
  subst h5
  obtain ⟨v0,b1,b2,b3,ad,b4⟩:=Qs S (hs y) h1
  obtain ⟨vs,a1,a2,a3,a4⟩:=FO S hs h3
  refine ⟨v0::vs,?_,by simp[a2],by simp[a3],fun j v x hj hx=> ?_⟩
  ·have e1:(do loadVar t (←asAddr (a.tmps.getD y undef)):Sem Value).run P w= .ok v0 w:=by
    rw[b4] at b1⊢
    simpa[Instr.loadAt,Instr.sureAddr,asAddr] using b1
   simp only[List.mapM_cons,Sem.run_bind,e1,Result.andThen_ok,a1,Sem.run_pure]
  cases j with
  | zero=>simp at hj hx;subst hj;subst hx;exact b2
  | succ j=>exact a4 j v x (by simpa using hj) (by simpa using hx)
def ur:List Value→Value
 | [v]=>v
 | l=> .tuple l.toArray
theorem acF {vs:List Value} (h:vs.length≠1):ur vs= .tuple vs.toArray:=by
 match vs,h with
 | [],_=>rfl
 | [v],h=>simp at h
 | v::v2::l,_=>rfl
theorem acG {fn:Func} {a:Act} {st:St} (S:aE P w I β st.hp B M w0) (hs:kF P w I β st.hp a st.sl) {xs:List V} {rd:List Nat} (h:(tx P st fn.results.toList).run C st.hp=some (xs,rd)):
  ∃vs:List Value,(results fn a.tmps).run P w= .ok (ur vs) w∧vs.length=xs.length∧
   ∀(j:Nat) v x,vs[j]? =some v→xs[j]? =some x→ai P w I β st.hp v x:=by
 obtain ⟨vs,a1,a2,_,a4⟩:=FO S hs h
 refine ⟨vs,?_,a2,a4⟩
 unfold results
 rw[Array.mapM_eq_mapM_toList]
 simp only[map_eq_pure_bind,bind_assoc,pure_bind,Sem.run_bind]
 refine (congrArg (fun r:Result (List Value)=>r.andThen _) a1).trans ?_
 simp only[Result.andThen_ok,Sem.run_pure]
 match vs with
 | []=>simp[ur]
 | [v]=>simp[ur]
 | v::v2::l=>simp[ur]
theorem SU: ∀{args:List V} {i k:Nat},dY (nr i args) k=if i≤k then args[k-i]? else none
 | [],i,k=>by simp[nr,dY]
 | v::vs,i,k=>by
  simp only[nr,dY]
  cases hb:Nat.beq k i with
  | true=>
   rw[Nat.beq_eq] at hb
   subst hb
   simp
  | false=>
   have bP:k≠i:=fun e=>by rw[e,Nat.beq_refl] at hb;cases hb
   simp only[cond_false,SU]
   by_cases h:i≤k
   ·rw[if_pos (by omega),if_pos h]
    obtain ⟨d,rfl⟩: ∃d,k=i+1+d:=⟨k-(i+1),by omega⟩
    rw[show i+1+d-(i+1)=d by omega,show i+1+d-i=d+1 by omega]
    rfl
   ·rw[if_neg (by omega),if_neg h]
theorem Kk: ∀{l:List (Nat × VS)} {ds:List V} {i k:Nat},ia i l=true→dY (fA l ds) k=if i≤k then (fJ (l.map (·.2)) ds)[k-i]? else none
 | [],ds,i,k,_=>by simp[fA,fJ,dY]
 | (q,s)::l,ds,i,k,h=>by
  simp only[ia,Bool.and_eq_true,Nat.beq_eq] at h
  obtain ⟨rfl,h⟩:=h
  simp only[fA,dY,List.map_cons,fJ]
  cases hb:Nat.beq k q with
  | true=>
   rw[Nat.beq_eq] at hb
   subst hb
   simp
  | false=>
   have bP:k≠q:=fun e=>by rw[e,Nat.beq_refl] at hb;cases hb
   simp only[cond_false]
   rw[Kk h]
   by_cases h:q≤k
   ·rw[if_pos (by omega),if_pos h]
    obtain ⟨d,rfl⟩: ∃d,k=q+1+d:=⟨k-(q+1),by omega⟩
    rw[show q+1+d-(q+1)=d by omega,show q+1+d-q=d+1 by omega]
    rfl
   ·rw[if_neg (by omega),if_neg h]
theorem SV: ∀{l:List (Nat × VS)} {ds:List V},(fA l ds).map (·.2)=fJ (l.map (·.2)) ds
 | [],_=>rfl
 | (q,s)::l,ds=>by simp only[fA,List.map_cons,fJ,SV]
theorem Kl: ∀{l:List VS} {ds:List V},(fJ l ds).length=l.length
 | [],_=>rfl
 | s::l,ds=>by simp only[fJ,List.length_cons,Kl]
theorem SW: ∀{l:List (Nat × VS)} {ds:List V},(fA l ds).length=l.length
 | [],_=>rfl
 | (q,s)::l,ds=>by simp only[fA,List.length_cons,SW]
theorem acH {vals:List Value} {l:List (Nat × V)} (hl:vals.length=l.length) (h: ∀(j:Nat) v y,vals[j]? =some v→(l.map (·.2))[j]? =some y→ai P w I β hp v y):ai P w I β hp (ur vals) (o0 l):=by
 match l,hl,h with
 | [],hl,h=>
  obtain rfl:vals=[]:=List.eq_nil_of_length_eq_zero hl
  exact .bj rfl fun j v x _ hx=>by simp at hx
 | [(k,y)],hl,h=>
  match vals,hl,h with
  | [v],_,h=>exact h 0 v y rfl rfl
 | a::b::l,hl,h=>
  have bP:vals.length≠1:=by rw[hl];simp
  rw[acF bP]
  simp only[o0]
  exact .bj (by simp[hl]) fun j v y hj hy=>h j v y (by simpa using hj) hy
theorem acI {l:List BS} {ds:List V} {j:Nat} {e:TypeId} {es:List V} {ak:List Nat} (h:(eZ l ds)[j]? =some (.nest e es ak)) (k:Nat):bB ak k=0:=by
 obtain ⟨b,fD,_,h2⟩:=J2 h
 cases b<;>simp only[gb] at h2<;>cases h2
 match k with
 | 0=>rfl
 | 1=>rfl
 | 2=>rfl
 | _+3=>rfl
theorem acJ {f n m:Nat} {fn:Func} {a:Act} {st:St} {es:List V} {rd:List Nat} (hm: ∀id blk,hp0 id=some blk→id<m) (jt: ∀id e es ak,hp0 id=some (.nest e es ak)→∀k,bB ak k=0)
  (hI:Inv P A.idle A.aC B M w0 μ hp0 n a w st) (ox:ia 0 (A.fH f).bJ=true) (a8:(A.fH f).bJ.length=fn.results.size) (h:(tz P A f fn m st).run C st.hp=some (es,rd)):
  ∃v I2 b9,(results fn a.tmps).run P w= .ok v w∧aE P w I2 b9 (bm (A.so f es) (A.lv f es)).hp B M w0∧kK w0.w w0.I μ hp0 w I2 b9 (bm (A.so f es) (A.lv f es)).hp∧ai P w I2 b9 (bm (A.so f es) (A.lv f es)).hp v (o0 (fA (A.so f es).bJ (A.lv f es))):=by
 unfold tz at h
 obtain ⟨xs,l1,l2,h1,h2⟩:=kG h
 obtain ⟨I,β,S,hA,hE⟩:=hI
 obtain ⟨vals,e1,e2,e3⟩:=acG S hA.sl h1
 have e4:fn.results.size=xs.length:=by
  obtain ⟨_,_,_,q,_⟩:=FO S hA.sl h1
  simpa using q
 have fin: ∀(Sx:Shape) (es:List V),ia 0 Sx.bJ=true→Sx.bJ.length=fn.results.size→iG m Sx (canon m (List.range xs.length) (freeze m (A.tp f) ⟨jk (nr 0 xs),st.hp,st.nb⟩))=some es→
   ∃v I2 b9,(results fn a.tmps).run P w= .ok v w∧aE P w I2 b9 (bm Sx es).hp B M w0∧kK w0.w w0.I μ hp0 w I2 b9 (bm Sx es).hp∧ai P w I2 b9 (bm Sx es).hp v (o0 (fA Sx.bJ es)):=by
  intro Sx es ox a8 uu
  have hA0:iQ P A.idle A.aC w I β vals.length ⟨vals.toArray,[]⟩ ⟨jk (nr 0 xs),st.hp,st.nb⟩:=by
   refine ⟨fun k=> ?_,by simp,by simp,hA.aC⟩
   change ai P w I β st.hp _ (jk (nr 0 xs) k)
   unfold jk
   rw[SU]
   simp only[Nat.zero_le,if_true,Nat.sub_zero]
   cases hk:xs[k]? with
   | none=>exact .undef
   | some x=>
    have lG:k<vals.length:=by rw[e2];exact (List.getElem?_eq_some_iff.1 hk).1
    have:=e3 k vals[k] x (List.getElem?_eq_getElem lG) hk
    have e5:(vals.toArray).getD k undef=vals[k]:=by simp[lG]
    rw[Option.getD_some]
    exact e5▸this
  obtain ⟨I2,k1,k2,k3⟩:=SB (st:=⟨jk (nr 0 xs),st.hp,st.nb⟩) (m:=m) (pur:=A.tp f) S hA0
  have hI2:Inv P A.idle A.aC B M w0 μ hp0 vals.length ⟨vals.toArray,[]⟩ w (freeze m (A.tp f) ⟨jk (nr 0 xs),st.hp,st.nb⟩):=⟨I2,β,k2,k3,hE.trans k1.Ft⟩
  obtain ⟨I3,SX,q1,q2,q3⟩:=(hI2.canon (live:=List.range xs.length) hm jt).reshape uu hm
  refine ⟨ur vals,I3,SX,e1,q1,q3,acH (by rw[SW,a8,e4,e2]) fun j v y hj hy=> ?_⟩
  have hv:=q2.sl j
  have dd:=(List.getElem?_eq_some_iff.1 hj).1
  have e5:(vals.toArray).getD j undef=v:=by
   have:=(List.getElem?_eq_some_iff.1 hj).2
   simp[dd,this]
  change ai P w I3 SX _ ((vals.toArray).getD j undef) (jk (fA Sx.bJ _) j) at hv
  rw[e5] at hv
  unfold jk at hv
  rw[Kk ox] at hv
  simp only[Nat.zero_le,if_true,Nat.sub_zero] at hv
  rw[SV] at hy
  rw[hy] at hv
  exact hv
 unfold cM.so cM.lv
 cases cq:A.alt f with
 | none=>
  rw[cq] at h2
  simp only at h2⊢
  split at h2
  ·rename_i fD uu
   have:=aS h2
   subst this
   exact fin _ _ ox a8 uu
  ·cases h2
 | some S2=>
  rw[cq] at h2
  simp only at h2⊢
  split at h2
  ·rename_i fD uu
   have:=aS h2
   subst this
   exact fin _ _ ox a8 uu
  ·split at h2
   ·rename_i fD uu
    obtain ⟨hc,h3⟩:=aH h2
    simp only[Bool.and_eq_true,Nat.beq_eq] at hc
    have:=aS h3
    subst this
    exact fin _ _ hc.1 hc.2 uu
   ·cases h2
theorem acK (hC:kM P A C) (hP:js P A) (pq:P.follows .mixedOrders=true):kM P A (oc P A C):=by
 intro f ds es h
 unfold oc at h
 cases hf:P.funcs[A.aO f]? with
 | none=>rw[hf] at h;cases h
 | some fn=>
  rw[hf] at h
  simp only at h
  cases hb:fn.body with
  | none=>rw[hb] at h;cases h
  | some c=>
   rw[hb] at h
   simp only at h
   cases hc:(ia 0 (A.sin f).bJ&&(Nat.ble (A.sin f).bJ.length fn.ntmps&&((A.sin f).ok&&(ia 0 (A.fH f).bJ&&(Nat.beq (A.fH f).bJ.length fn.results.size&&n9 (ml (A.sin f).aW.length (A.mv f))))))) with
   | false=>rw[hc] at h;cases h
   | true=>
    rw[hc] at h
    simp only[cond_true] at h
    simp only[Bool.and_eq_true,Nat.beq_eq,Nat.ble_eq] at hc
    obtain ⟨ki,hnt,_,wH,a8,kj⟩:=hc
    obtain ⟨⟨out,st'⟩,h1,h2⟩:=bind_some h
    refine ⟨fn,c,rfl,hb,fun w I μ vals hH hgl hl hv=> ?_⟩
    have acL:(∀id,out≠ .exit id)∧∃rd,(tz P A f fn (A.sin f).aW.length st').run C st'.hp=some (es,rd):=by
     cases out with
     | exit id=>cases h2
     | norm=>
      refine ⟨by simp,?_⟩
      simp only[Option.map_eq_some_iff] at h2
      obtain ⟨⟨x,rd⟩,e1,e2⟩:=h2
      simp only at e2
      subst e2
      exact ⟨rd,e1⟩
     | ret=>
      refine ⟨by simp,?_⟩
      simp only[Option.map_eq_some_iff] at h2
      obtain ⟨⟨x,rd⟩,e1,e2⟩:=h2
      simp only at e2
      subst e2
      exact ⟨rd,e1⟩
    obtain ⟨bP,rd,JT⟩:=acL
    refine calls_of_wp_defers hf hb ?_
    have hm: ∀id blk,(bm (A.sin f) ds).hp id=some blk→id<(A.sin f).aW.length:=by
     intro id blk af
     simp only[bm,mk,gW] at af
     have:=(List.getElem?_eq_some_iff.1 af).1
     rwa [FN] at this
    have jt: ∀id e es ak,(bm (A.sin f) ds).hp id=some (.nest e es ak)→∀k,bB ak k=0:=by
     intro id e es ak af k
     simp only[bm,mk,gW] at af
     exact acI af k
    refine acE (w0:=⟨w,I⟩) (μ:=μ) (hp0:=(bm (A.sin f) ds).hp) (B:=w.heap.size) (M:=ov P w μ (bm (A.sin f) ds).hp) hC hP pq hm jt c h1 ?_ ?_
    ·refine Inv.enter kj ?_ hm jt fun p hp=>by
      simp only[bm,mk,gW]
      rw[List.getElem?_eq_none_iff,FN]
      exact hp
     refine ⟨I,μ,⟨hH,fun _ _ _=>rfl,Nat.le_refl _,fun b h=> .inl h,⟨rfl,rfl⟩⟩,⟨fun k=> ?_,?_,by simp,hgl⟩,(Le.refl (P:=P) w I μ _).Ft⟩
     ·change ai P w I μ _ _ (jk (fA (A.sin f).bJ ds) k)
      unfold jk
      rw[Kk ki]
      simp only[Nat.zero_le,if_true,Nat.sub_zero]
      cases hk:(fJ ((A.sin f).bJ.map (·.2)) ds)[k]? with
      | none=>exact .undef
      | some x=>
       have lG:k<vals.length:=by
        have:=(List.getElem?_eq_some_iff.1 hk).1
        rw[Kl,List.length_map] at this
        rw[hl];exact this
       have:=hv k vals[k] x (List.getElem?_eq_getElem lG) hk
       have e1:(vals.toArray++Array.replicate (fn.ntmps-vals.toArray.size) undef).getD k undef=vals[k]:=by
        simp[Array.getElem?_append,lG]
       rw[Option.getD_some]
       exact e1▸this
     ·simp
      omega
    ·intro a' w' hI
     obtain ⟨v,I2,b9,q1,q2,q3,q4⟩:=acJ hm jt hI wH a8 JT
     obtain ⟨_,_,_,hA,_⟩:=hI
     cases out with
     | exit id=>exact absurd rfl (bP id)
     | norm=>exact J8 hP q1 ⟨v,I2,b9,rfl,q2,q3,q4⟩ _ hA.defers
     | ret=>exact J8 hP q1 ⟨v,I2,b9,rfl,q2,q3,q4⟩ _ hA.defers
theorem SY (hP:js P A) (pq:P.follows .mixedOrders=true): ∀n,kM P A (j9 P A n)
 | 0=>fun _ _ _ h=>by cases h
 | n+1=>acK (SY hP pq n) hP pq
theorem acM (hP:js P A) (pq:P.follows .mixedOrders=true):kM P A (Call P A):=by
 intro f ds es h
 have hn: ∃n,j9 P A n f ds=some es:=by
  unfold Call at h
  split at h
  ·rename_i hex
   have:=hex.choose_spec.choose_spec
   rw[Option.some.inj h] at this
   exact ⟨_,this⟩
  ·cases h
 obtain ⟨n,hn⟩:=hn
 exact SY hP pq n f ds es hn
end
section
variable {P:Program} {A:cM} {C:ae} {D:Nat→ae}
def Al (C:ae) (D:Nat→ae):Prop:= ∀f a r,C f a=some r→∃n,∀k,n≤k→D k f a=some r
theorem qI {α:Type} (h:Al C D) {hp:Nat→Option ah}: ∀{p:Rd α} {r:α × List Nat},p.run C hp=some r→∃n,∀k,n≤k→p.run (D k) hp=some r
 | .ret a,r,e=>⟨0,fun _ _=>e⟩
 | .fail,r,e=>by cases e
 | .get id q,r,e=>by
  obtain ⟨x,h1,h2⟩:=bind_some e
  obtain ⟨n,hn⟩:=qI h h1
  exact ⟨n,fun k hk=>by simp only[Rd.run,hn k hk,Option.bind_some];exact h2⟩
 | .opt o q,r,e=>by
  obtain ⟨x,h1,h2⟩:=bind_some e
  obtain ⟨n,hn⟩:=qI h h2
  exact ⟨n,fun k hk=>by simp only[Rd.run,h1,Option.bind_some];exact hn k hk⟩
 | .ay b q,r,e=>by
  obtain ⟨h1,h2⟩:=aH e
  obtain ⟨n,hn⟩:=qI h h2
  exact ⟨n,fun k hk=>by simp only[Rd.run,h1,cond_true];exact hn k hk⟩
 | .call f a q,r,e=>by
  obtain ⟨x,h1,h2⟩:=bind_some e
  obtain ⟨n1,ki⟩:=h f a x h1
  obtain ⟨n2,wH⟩:=qI h h2
  exact ⟨max n1 n2,fun k hk=>by simp only[Rd.run,ki k (by omega),Option.bind_some];exact wH k (by omega)⟩
 | .alt true x y,r,e=>qI (p:=x) h e
 | .alt false x y,r,e=>qI (p:=y) h e
theorem acN (h:Al C D) {n i nb:Nat} {ops:Array Oper} {o:Oper} {st:St} {r:St × List Nat × List Nat} (e:gP P A C n ops i o nb st=some r): ∃N,∀k,N≤k→gP P A (D k) n ops i o nb st=some r:=by
 unfold gP at e
 have go:(((fK P A st.sl i (nb+64*i) o).run C st.hp).bind fun r=>some ((⟨hO st.sl o.dst r.1.v,bO st.hp r.1.upd,st.nb⟩:St),r.2,r.1.upd.map (·.1)))=some r→
   ∃N,∀k,N≤k→(((fK P A st.sl i (nb+64*i) o).run (D k) st.hp).bind fun r=>some ((⟨hO st.sl o.dst r.1.v,bO st.hp r.1.upd,st.nb⟩:St),r.2,r.1.upd.map (·.1)))=some r:=by
  intro e
  obtain ⟨x,h1,h2⟩:=bind_some e
  obtain ⟨N,hN⟩:=qI h h1
  exact ⟨N,fun k hk=>by rw[hN k hk];exact h2⟩
 unfold gP
 cases hd:sq o n with
 | false=>rw[hd] at e;cases e
 | true=>
  rw[hd] at e
  simp only[cond_true] at e⊢
  cases hg:o.guard with
  | none=>rw[hg] at e;exact go e
  | some gw=>
   obtain ⟨g,want⟩:=gw
   rw[hg] at e
   simp only at e⊢
   cases lK:(ops[g]?).bind (·.dst) with
   | none=>rw[lK] at e;cases e
   | some d=>
    rw[lK] at e
    simp only at e⊢
    cases mI:lr (st.sl d) with
    | none=>rw[mI] at e;cases e
    | some ob=>
    rw[mI] at e
    cases ob with
    | none=>exact ⟨0,fun _ _=>e⟩
    | some b=>
    simp only at e⊢
    cases hb:b==want with
    | true=>rw[hb] at e;exact go e
    | false=>rw[hb] at e;exact ⟨0,fun _ _=>e⟩
theorem SZ (h:Al C D) {n nb:Nat} {ops:Array Oper}: ∀{l:List (Nat × Oper)} {st:St} {log:Log} {r:St × Log},o4 P A C n ops nb l st log=some r→∃N,∀k,N≤k→o4 P A (D k) n ops nb l st log=some r
 | [],st,log,r,e=>⟨0,fun _ _=>e⟩
 | (i,o)::l,st,log,r,e=>by
  obtain ⟨x,h1,h2⟩:=bind_some e
  obtain ⟨N1,oz⟩:=acN h h1
  obtain ⟨N2,qJ⟩:=SZ h h2
  exact ⟨max N1 N2,fun k hk=>by simp only[o4,oz k (by omega),Option.bind_some];exact qJ k (by omega)⟩
theorem S3 {X R:Type} {step:X→Option (X ⊕ R)} {stepD:Nat→X→Option (X ⊕ R)} (hs: ∀x y,step x=some y→∃N,∀k,N≤k→stepD k x=some y): ∀(n:Nat) (x:X) (r:R),eX step n x=some r→∃N,∀k,N≤k→eX (stepD k) n x=some r
 | 0,x,r,e=>by cases e
 | n+1,x,r,e=>by
  simp only[eX] at e⊢
  obtain ⟨y,h1,h2⟩:=bind_some e
  obtain ⟨N1,oz⟩:=hs x y h1
  cases y with
  | inl z=>
   obtain ⟨N2,qJ⟩:=S3 hs n z r h2
   exact ⟨max N1 N2,fun k hk=>by rw[oz k (by omega)];exact qJ k (by omega)⟩
  | inr q=>exact ⟨N1,fun k hk=>by rw[oz k hk];exact h2⟩
theorem acO (h:Al C D) {f n m:Nat}: ∀(c:Code) {st:St} {r:Out × St},exec P A C f n m c st=some r→∃N,∀k,N≤k→exec P A (D k) f n m c st=some r:=by
 intro c
 induction c with
 | skip=>exact fun e=>⟨0,fun _ _=>e⟩
 | exit id=>exact fun e=>⟨0,fun _ _=>e⟩
 | ret=>exact fun e=>⟨0,fun _ _=>e⟩
 | region id ops draw=>
  intro st r e
  simp only[exec] at e⊢
  obtain ⟨x,h1,h2⟩:=bind_some e
  obtain ⟨y,h3,h4⟩:=bind_some h1
  obtain ⟨N,hN⟩:=SZ h h3
  refine ⟨N,fun k hk=> ?_⟩
  have:vT P (A.here f id) (D k) n ops draw st=some x:=by
   unfold vT
   rw[hN k hk]
   exact h4
  rw[this]
  exact h2
 | seq x y gd gf=>
  intro st r e
  simp only[exec] at e⊢
  obtain ⟨⟨o,s1⟩,h1,h2⟩:=bind_some e
  obtain ⟨N1,oz⟩:=gd h1
  cases o with
  | norm=>
   obtain ⟨N2,qJ⟩:=gf h2
   exact ⟨max N1 N2,fun k hk=>by rw[oz k (by omega)];exact qJ k (by omega)⟩
  | exit id=>exact ⟨N1,fun k hk=>by rw[oz k hk];exact h2⟩
  | ret=>exact ⟨N1,fun k hk=>by rw[oz k hk];exact h2⟩
 | cond c x y gd gf=>
  intro st r e
  cases c with
  | tmp t=>
   have go: ∀{st:St} {r:Out × St},(match st.sl t with
     | .bool b=>(bif b then exec P A C f n m x st else exec P A C f n m y st).bind fun r=>
      match r.1 with
      | .norm=>some (.norm,canon m (A.join f t) r.2)
      | _=>some r
     | _=>none)=some r→∃N,∀k,N≤k→(match st.sl t with
     | .bool b=>(bif b then exec P A (D k) f n m x st else exec P A (D k) f n m y st).bind fun r=>
      match r.1 with
      | .norm=>some (.norm,canon m (A.join f t) r.2)
      | _=>some r
     | _=>none)=some r:=by
    intro st r e
    cases hs:st.sl t<;>rw[hs] at e<;>simp only at e⊢ <;>first|(cases e;done)|skip
    rename_i b
    obtain ⟨x1,h1,h2⟩:=bind_some e
    cases b with
    | true=>
     obtain ⟨N,hN⟩:=gd h1
     exact ⟨N,fun k hk=>by simp only[cond_true,hN k hk,Option.bind_some];exact h2⟩
    | false=>
     obtain ⟨N,hN⟩:=gf h1
     exact ⟨N,fun k hk=>by simp only[cond_false,hN k hk,Option.bind_some];exact h2⟩
   simp only[exec] at e⊢
   split at e
   ·rename_i hS
    obtain ⟨N,hN⟩:=go e
    exact ⟨N,fun k hk=>hN k hk⟩
   ·rename_i S hS
    obtain ⟨ds,h1,h2⟩:=bind_some e
    obtain ⟨e',h3,h4⟩:=bind_some h2
    obtain ⟨r1,h5,h6⟩:=bind_some h3
    obtain ⟨N,hN⟩:=go h5
    refine ⟨N,fun k hk=> ?_⟩
    try rw[hS]
    simp only[h1,Option.bind_some]
    exact (congrArg (fun z:Option (Out × St)=>(z.bind fun r=>ways m 0 S.2 r).bind fun e=>j8 0 S.2 e.1 e.2 fun o st=>some (o,st)) (hN k hk)).trans (by simp only[Option.bind_some,h6];exact h4)
  | const v=>
   cases v with
   | bool b=>
    simp only[exec] at e⊢
    cases b with
    | true=>exact gd e
    | false=>exact gf e
   | _=>simp only[exec] at e;cases e
  | _=>simp only[exec] at e;cases e
 | block id c ih=>
  intro st r e
  simp only[exec] at e⊢
  obtain ⟨x1,h1,h2⟩:=bind_some e
  obtain ⟨N,hN⟩:=ih h1
  exact ⟨N,fun k hk=>by rw[hN k hk];exact h2⟩
 | loop c ih=>
  intro st r e
  simp only[exec] at e⊢
  split at e
  ·cases e
  ·rename_i S hS
   obtain ⟨ds,h1,h2⟩:=bind_some e
   obtain ⟨e',h3,h4⟩:=bind_some h2
   obtain ⟨q,hq⟩:=vG h3
   obtain ⟨N,hN⟩:=S3 (stepD:=fun k ds=>kE m S.1 S.2 (exec P A (D k) f n m c (bm S.1 ds))) (fun x y Am=>by
    unfold kE at Am⊢
    obtain ⟨z,h5,h6⟩:=bind_some Am
    obtain ⟨N,hN⟩:=ih h5
    exact ⟨N,fun k hk=>by rw[hN k hk];exact h6⟩) q ds e' hq
   refine ⟨N,fun k hk=> ?_⟩
   try rw[hS]
   simp only[h1,Option.bind_some]
   rw[vF (hN k hk)]
   exact h4
 | _=>intro st r e;simp only[exec] at e;cases e
theorem FP (h:Al C D) {f:Nat} {ds es:List V} (e:oc P A C f ds=some es): ∃N,∀k,N≤k→oc P A (D k) f ds=some es:=by
 unfold oc at e⊢
 cases hf:P.funcs[A.aO f]? with
 | none=>rw[hf] at e;cases e
 | some fn=>
  rw[hf] at e
  simp only at e⊢
  cases hb:fn.body with
  | none=>rw[hb] at e;cases e
  | some c=>
   rw[hb] at e
   simp only at e⊢
   cases hc:(ia 0 (A.sin f).bJ&&(Nat.ble (A.sin f).bJ.length fn.ntmps&&((A.sin f).ok&&(ia 0 (A.fH f).bJ&&(Nat.beq (A.fH f).bJ.length fn.results.size&&n9 (ml (A.sin f).aW.length (A.mv f))))))) with
   | false=>rw[hc] at e;cases e
   | true=>
    rw[hc] at e
    simp only[cond_true] at e⊢
    obtain ⟨⟨o,s1⟩,h1,h2⟩:=bind_some e
    obtain ⟨N1,oz⟩:=acO h c h1
    cases o with
    | exit id=>cases h2
    | norm=>
     simp only[Option.map_eq_some_iff] at h2
     obtain ⟨x,e1,e2⟩:=h2
     obtain ⟨N2,qJ⟩:=qI h e1
     exact ⟨max N1 N2,fun k hk=>by rw[oz k (by omega)];simp only[Option.bind_some,qJ k (by omega),Option.map_some,e2]⟩
    | ret=>
     simp only[Option.map_eq_some_iff] at h2
     obtain ⟨x,e1,e2⟩:=h2
     obtain ⟨N2,qJ⟩:=qI h e1
     exact ⟨max N1 N2,fun k hk=>by rw[oz k (by omega)];simp only[Option.bind_some,qJ k (by omega),Option.map_some,e2]⟩
theorem S4: ∀n f a r,j9 P A n f a=some r→j9 P A (n+1) f a=some r
 | 0,f,a,r,h=>by cases h
 | n+1,f,a,r,h=>by
  obtain ⟨N,hN⟩:=FP (C:=j9 P A n) (D:=fun _=>j9 P A (n+1)) (fun f a r h=>⟨0,fun _ _=>S4 n f a r h⟩) h
  exact hN N (Nat.le_refl _)
theorem Km {n k:Nat} (hk:n≤k) {f:Nat} {a r:List V} (h:j9 P A n f a=some r):j9 P A k f a=some r:=by
 induction hk with
 | refl=>exact h
 | step _ ih=>exact S4 _ _ _ _ ih
theorem An {f:Nat} {a r:List V}:Call P A f a=some r↔∃n,j9 P A n f a=some r:=by
 constructor
 ·intro h
  unfold Call at h
  split at h
  ·rename_i hex
   have:=hex.choose_spec.choose_spec
   rw[Option.some.inj h] at this
   exact ⟨_,this⟩
  ·cases h
 ·rintro ⟨n,hn⟩
  have hex: ∃n r,j9 P A n f a=some r:=⟨n,r,hn⟩
  unfold Call
  rw[dif_pos hex]
  have h2:=hex.choose_spec.choose_spec
  have h3:=Km (Nat.le_max_left n hex.choose) hn
  have h4:=Km (Nat.le_max_right n hex.choose) h2
  rw[h3] at h4
  exact h4.symm
theorem acP (f:Nat) (a:List V):Call P A f a=oc P A (Call P A) f a:=by
 apply Option.ext
 intro r
 constructor
 ·intro h
  obtain ⟨n,hn⟩:=An.1 h
  cases n with
  | zero=>cases hn
  | succ n=>
   obtain ⟨N,hN⟩:=FP (C:=j9 P A n) (D:=fun _=>Call P A) (fun f a r h=>⟨0,fun _ _=>An.2 ⟨n,h⟩⟩) hn
   exact hN N (Nat.le_refl _)
 ·intro h
  obtain ⟨N,hN⟩:=FP (C:=Call P A) (D:=j9 P A) (fun f a r h=>by
   obtain ⟨n,hn⟩:=An.1 h
   exact ⟨n,fun k hk=>Km hk hn⟩) h
  exact An.2 ⟨N+1,hN N (Nat.le_refl _)⟩
end
end Go.AM
namespace Go.AM
open Go.ChangeShapes Go.WideShapes Go.RowKit
section
variable (P:Program)
inductive WT:TypeId→V→Prop
 | int {t:TypeId} {k:IntKind} {n:Int}:P.underlying t=some (.int k)→(Lit.int k n).wf=true→WT t (.int k n)
 | bool {t:TypeId} {b:Bool}:P.underlying t=some .bool→WT t (.bool b)
 | str {t:TypeId} {l:List UInt8}:P.underlying t=some .string→l.length≤maxLen→WT t (.str l)
 | list {t e:TypeId} {es:List V}:P.underlying t=some (.slice e)→es.length≤maxLen→
   (∀(i:Nat) x,es[i]? =some x→bG P e=true→∃xs,x= .agg xs∧xs.length=(aY P e).length)→
   (∀(i j:Nat) x t',es[i]? =some x→(aY P e)[j]? =some t'→WT t' (bN P e x j))→WT t (.list e es)
def fF (t:TypeId) (x:V):Prop:=
 (bG P t=true→∃xs,x= .agg xs∧xs.length=(aY P t).length)∧∀(j:Nat) t',(aY P t)[j]? =some t'→WT P t' (bN P t x j)
def tn:List TypeId→List V→Prop
 | [],[]=>True
 | t::ts,x::xs=>fF P t x∧tn ts xs
 | _,_=>False
def hasB (L:List TypeId) (t:TypeId):Bool:=L.any fun u=>Nat.beq u t
def FQ (L:List TypeId):Nat→List Field→Bool
 | _,[]=>true
 | n,f::fs=>hasB L f.type&&(Nat.beq f.offset n&&(Nat.beq (P.cellsOf f.type) (aY P f.type).length&&FQ L (n+P.cellsOf f.type) fs))
def Ao:List Nat→List Nat→Bool
 | [],[]=>true
 | a::l,b::m=>Nat.beq a b&&Ao l m
 | _,_=>false
def Kn (L:List TypeId) (t:TypeId):Bool:=
 Nat.beq (P.cellsOf t) (aY P t).length&&
 match P.underlying t with
 | some (.int _)=>true
 | some .bool=>true
 | some .string=>true
 | some (.slice e)=>hasB L e&&c9 P e
 | some (.struct fs)=>FQ P L 0 fs.toList&&Ao (flat P t) (fs.toList.flatMap fun f=>aY P f.type)
 | some (.array n e)=>hasB L e&&(Nat.beq (P.cellsOf e) (aY P e).length&&Ao (flat P t) (List.replicate n (aY P e)).flatten)
 | _=>false
def FR (L:List TypeId):Bool:=L.all fun t=>Kn P L t
end
theorem FT {L:List TypeId} {t:TypeId} (h:hasB L t=true):t∈L:=by
 obtain ⟨u,hu,h2⟩:=List.any_eq_true.1 h
 rw[Nat.beq_eq] at h2
 exact h2▸hu
theorem Ko: ∀{l m:List Nat},Ao l m=true→l=m
 | [],[],_=>rfl
 | a::l,b::m,h=>by
  simp only[Ao,Bool.and_eq_true,Nat.beq_eq] at h
  rw[h.1,Ko h.2]
 | [],_::_,h=>by cases h
 | _::_,[],h=>by cases h
section
variable {P:Program} {H:Type} {enc:TypeId × Value→H} {w:World} {base:Nat} {spare:Nat→Bool} {held:Bool} {L:List TypeId}
def nF (w:World):Nat→Prop:=fun b=>b<w.heap.size
def nG (P:Program) (w:World) (ts:List TypeId) (cs:List Value) (xs:List V):Prop:=
 cs.length=ts.length∧xs.length=ts.length∧∀(j:Nat) t',ts[j]? =some t'→∃v y,cs[j]? =some v∧xs[j]? =some y∧Pure P w (nF w) t' v y∧WT P t' y
theorem nG.app {ts vP:List TypeId} {cs ik:List Value} {xs S5:List V} (h:nG P w ts cs xs) (h':nG P w vP ik S5):nG P w (ts++vP) (cs++ik) (xs++S5):=by
 obtain ⟨a,b,c⟩:=h
 obtain ⟨a',b',c'⟩:=h'
 refine ⟨by simp[a,a'],by simp[b,b'],fun j t' hj=> ?_⟩
 by_cases aX:j<ts.length
 ·rw[List.getElem?_append_left aX] at hj
  obtain ⟨v,y,e1,e2,e3⟩:=c j t' hj
  exact ⟨v,y,by rw[List.getElem?_append_left (by omega)];exact e1,by rw[List.getElem?_append_left (by omega)];exact e2,e3⟩
 ·rw[List.getElem?_append_right (by omega)] at hj
  obtain ⟨v,y,e1,e2,e3⟩:=c' _ t' hj
  exact ⟨v,y,by rw[List.getElem?_append_right (by omega),a];exact e1,by rw[List.getElem?_append_right (by omega),b];exact e2,e3⟩
theorem acQ {w:World} {a:Addr} {v:Value} (h:w.cell? a=some v):a.spot=none∧a.block<w.heap.size:=by
 unfold World.cell? at h
 split at h
 ·rename_i hh
  split at h
  ·cases h
  ·rename_i hs
   exact ⟨by simpa using hs,(Array.getElem?_eq_some_iff.1 hh).1⟩
 all_goals (first|cases h|skip)
theorem S6 {rd:TypeId→List Value→Option (DataW H × List MemPlace)} (cs:List Value)
  (ih: ∀t cs x,t∈L→rd t cs=some x→∃xs,nG P w (aY P t) cs xs): ∀(fs:List Field) (n:Nat),FQ P L n fs=true→
  (∀f∈fs,∃x,rd f.type ((cs.drop f.offset).take (P.cellsOf f.type))=some x)→∃m xs,n≤m∧nG P w (fs.flatMap fun f=>aY P f.type) ((cs.drop n).take (m-n)) xs∧m-n=(fs.flatMap fun f=>aY P f.type).length
 | [],n,_,_=>⟨n,[],Nat.le_refl _,⟨by simp,rfl,by simp⟩,by simp⟩
 | f::fs,n,h,hx=>by
  simp only[FQ,Bool.and_eq_true,Nat.beq_eq] at h
  obtain ⟨h1,h2,h3,h4⟩:=h
  obtain ⟨x,hxf⟩:=hx f (by simp)
  obtain ⟨xs,gL⟩:=ih _ _ _ (FT h1) hxf
  obtain ⟨m,ys,hm,qK,FC⟩:=S6 cs ih fs (n+P.cellsOf f.type) h4 fun g hg=>hx g (by simp[hg])
  refine ⟨m,xs++ys,by omega,?_,by simp only[List.flatMap_cons,List.length_append];omega⟩
  have:=gL.app qK
  rw[List.flatMap_cons]
  rw[h2] at this
  have e:(cs.drop n).take (m-n)=(cs.drop n).take (P.cellsOf f.type)++(cs.drop (n+P.cellsOf f.type)).take (m-(n+P.cellsOf f.type)):=by
   rw[show m-n=P.cellsOf f.type+(m-(n+P.cellsOf f.type)) by omega,List.take_add,List.drop_drop]
  rw[e]
  exact this
theorem S7 {rd:List Value→Option (DataW H × List MemPlace)} (cs:List Value) {e:TypeId} (hs:P.cellsOf e=(aY P e).length)
  (ih: ∀cs x,rd cs=some x→∃xs,nG P w (aY P e) cs xs): ∀(n:Nat),
  (∀i,i<n→∃x,rd ((cs.drop (i*P.cellsOf e)).take (P.cellsOf e))=some x)→∃xs,nG P w (List.replicate n (aY P e)).flatten (cs.take (n*P.cellsOf e)) xs
 | 0,_=>⟨[],by simp,rfl,by simp⟩
 | n+1,hx=>by
  obtain ⟨xs,gL⟩:=S7 cs hs ih n fun i hi=>hx i (by omega)
  obtain ⟨x,Ag⟩:=hx n (by omega)
  obtain ⟨ys,qK⟩:=ih _ _ Ag
  refine ⟨xs++ys,?_⟩
  rw[List.replicate_succ',List.flatten_append]
  have:=gL.app qK
  rw[Nat.add_mul,Nat.one_mul,List.take_add]
  simpa using this
theorem FU (hL:FR P L=true): ∀(fuel:Nat) (t:TypeId) (cs:List Value) (x:DataW H × List MemPlace),t∈L→DataW.trod enc P w base spare held fuel t cs=some x→
  ∃xs,nG P w (aY P t) cs xs
 | 0,_,_,_,_,h=>by cases h
 | fuel+1,t,cs,x,ht,h=>by
  have hg:=List.all_eq_true.1 hL t ht
  unfold Kn at hg
  rw[Bool.and_eq_true,Nat.beq_eq] at hg
  obtain ⟨hc,hg⟩:=hg
  have one:bG P t=false→aY P t=[t]:=fun h=>by simp[aY,h]
  cases hu:P.underlying t with
  | none=>rw[hu] at hg;cases hg
  | some d=>
   rw[hu] at hg
   cases d with
   | int k=>
    obtain ⟨n,rfl,rfl,hwf⟩:=DataW.trod_int hu h
    rw[one (by simp[bG,hu])]
    exact ⟨[.int k n],rfl,rfl,fun j t' hj=>by
     cases j with
     | zero=>cases hj;exact ⟨_,_,rfl,rfl,.int hu,.int hu hwf⟩
     | succ j=>simp at hj⟩
   | bool=>
    obtain ⟨b,rfl,rfl⟩:=DataW.trod_bool hu h
    rw[one (by simp[bG,hu])]
    exact ⟨[.bool b],rfl,rfl,fun j t' hj=>by
     cases j with
     | zero=>cases hj;exact ⟨_,_,rfl,rfl,.bool hu,.bool hu⟩
     | succ j=>simp at hj⟩
   | string=>
    obtain ⟨s,rfl,rfl,hl⟩:=DataW.trod_string hu h
    rw[one (by simp[bG,hu])]
    exact ⟨[.str s.data.toList],rfl,rfl,fun j t' hj=>by
     cases j with
     | zero=>cases hj;exact ⟨_,_,rfl,rfl,.str hu rfl,.str hu (by simpa using hl)⟩
     | succ j=>simp at hj⟩
   | slice e=>
    simp only[Bool.and_eq_true] at hg
    obtain ⟨he,aw⟩:=hg
    rw[one (by simp[bG,hu])]
    have single: ∀v y,cs=[v]→Pure P w (nF w) t v y→WT P t y→∃xs,nG P w [t] cs xs:=by
     rintro v y rfl a b
     exact ⟨[y],rfl,rfl,fun j t' hj=>by
      cases j with
      | zero=>cases hj;exact ⟨_,_,rfl,rfl,a,b⟩
      | succ j=>simp at hj⟩
    rcases DataW.trod_slice hu h with ⟨rfl,rfl⟩|⟨a,len,cap,elems,rest,n,hn,rfl,rfl,hb,hl,hm,hlen,da,_,_⟩
    ·exact single _ _ rfl (.nil hu) (.list hu (by simp) (by simp) (by simp))
    ·cases hn
     have iI:=(kf aw).2
     have Q0:P.cellsOf e=(aY P e).length:=(fM aw).symm
     have key: ∀i,i<len→∃ik xs,w.cells? base (a.add (i*P.cellsOf e)) (P.cellsOf e)=some ik∧nG P w (aY P e) ik xs:=by
      intro i hi
      have h1:=da i hi
      rw[List.getElem?_eq_getElem (by omega)] at h1
      obtain ⟨ik,h2,h3⟩:=Option.bind_eq_some_iff.1 h1
      obtain ⟨xs,gL⟩:=FU hL fuel e ik _ (FT he) h3
      exact ⟨ik,xs,h2,gL⟩
     by_cases h0:len=0
     ·subst h0
      exact single _ _ rfl (.emp hu) (.list hu (by simp) (by simp) (by simp))
     ·have iN:a.spot=none∧a.block<w.heap.size:=by
       obtain ⟨ik,xs,h2,_⟩:=key 0 (by omega)
       obtain ⟨_,h3,h4⟩:=World.cells?_some h2
       have h5:=h4 0 iI
       rw[List.getElem?_eq_getElem (by omega)] at h5
       have:=acQ h5
       simpa[Addr.add] using this
      have hF: ∃(F:Nat→List Value) (X:Nat→List V),∀i,i<len→w.cells? base (a.add (i*P.cellsOf e)) (P.cellsOf e)=some (F i)∧nG P w (aY P e) (F i) (X i):=by
       refine ⟨fun i=>if hi:i<len then (key i hi).choose else [],fun i=>if hi:i<len then (key i hi).choose_spec.choose else [],fun i hi=> ?_⟩
       simp only[dif_pos hi]
       exact (key i hi).choose_spec.choose_spec
      obtain ⟨F,X,Kp⟩:=hF
      have hx: ∀(i j:Nat) y t',((List.range len).map fun i=>cG P e (X i))[i]? =some y→(aY P e)[j]? =some t'→i<len∧∃v,(F i)[j]? =some v∧Pure P w (nF w) t' v (bN P e y j)∧WT P t' (bN P e y j):=by
       intro i j y t' hy hj
       have hi:i<len:=by
        have:=(List.getElem?_eq_some_iff.1 hy).1
        simpa using this
       refine ⟨hi,?_⟩
       simp[List.getElem?_range hi] at hy
       obtain ⟨c1,c2,c3⟩:=(Kp i hi).2
       obtain ⟨v,z,d1,d2,d3,d4⟩:=c3 j t' hj
       have:bN P e y j=z:=by
        rw[←hy]
        unfold bN cG
        cases ha:bG P e with
        | true=>
         simp only[cond_true,V.cell]
         rw[tM _ _ _ d2]
        | false=>
         simp only[cond_false]
         have:aY P e=[e]:=by simp[aY,ha]
         rw[this] at hj
         cases j with
         | zero=>rw[tM _ _ _ d2]
         | succ j=>simp at hj
       rw[this]
       exact ⟨v,d1,d3,d4⟩
      have gu: ∀i j,i<len→j<P.cellsOf e→w.cell? ⟨a.block,a.off+(i*P.cellsOf e+j),none⟩=some ((F i).getD j undef):=by
       intro i j hi hj
       obtain ⟨h1,h2⟩:=Kp i hi
       obtain ⟨_,h3,h4⟩:=World.cells?_some h1
       have h5:=h4 j hj
       rw[Go.Deep.add_add] at h5
       have e1:a.add (i*P.cellsOf e+j)=⟨a.block,a.off+(i*P.cellsOf e+j),none⟩:=by
        obtain ⟨b,o,s⟩:=a
        simp only at iN
        rw[iN.1]
        exact nw ..
       rw[e1] at h5
       rw[h5,List.getD_eq_getElem?_getD,List.getElem?_eq_getElem (by omega)]
       rfl
      have ha:a=⟨a.block,a.off,none⟩:=by
       obtain ⟨b,o,s⟩:=a
       simp only at iN
       rw[iN.1]
      refine single (.slice (some a) len cap) (.list e ((List.range len).map fun i=>cG P e (X i))) rfl ?_ ?_
      ·rw[ha]
       refine .list (fun i j=>(F i).getD j undef) hu (by simp) hl (fun _=>iN.2) gu ?_
       intro i j y t' hy hj
       obtain ⟨hi,v,d1,d2,_⟩:=hx i j y t' hy hj
       rw[List.getD_eq_getElem?_getD,d1]
       exact d2
      ·refine .list hu (by simp;omega) ?_ ?_
       ·intro i y hy FV
        have hi:i<len:=by
         have:=(List.getElem?_eq_some_iff.1 hy).1
         simpa using this
        simp[List.getElem?_range hi] at hy
        rw[←hy]
        exact ⟨X i,by simp[cG,FV],(Kp i hi).2.2.1⟩
       ·intro i j y t' hy hj
        obtain ⟨_,v,_,_,d3⟩:=hx i j y t' hy hj
        exact d3
   | struct fs=>
    simp only[Bool.and_eq_true] at hg
    obtain ⟨xs,n,hn,rfl,hlen,jI,hx⟩:=DataW.trod_struct hu h
    cases hn
    have het:aY P t=fs.toList.flatMap fun f=>aY P f.type:=by
     rw[←Ko hg.2]
     simp[aY,bG,hu]
    obtain ⟨m,ys,_,qK,hm⟩:=S6 (w:=w) (rd:=fun t cs=>DataW.trod enc P w base spare held fuel t cs) cs (fun t cs x a b=>FU hL fuel t cs x a b) fs.toList 0 hg.1 (by
     intro f hf
     obtain ⟨i,hi⟩:=List.getElem?_of_mem hf
     rw[Array.getElem?_toList] at hi
     have qx:i<fs.size:=(Array.getElem?_eq_some_iff.1 hi).1
     exact ⟨_,(hx i f hi).trans (List.getElem?_eq_getElem (by omega))⟩)
    rw[het]
    refine ⟨ys,?_⟩
    have:(cs.drop 0).take (m-0)=cs:=by
     rw[List.drop_zero,hm,←het,←hc,←hlen,List.take_length]
    rw[this] at qK
    exact qK
   | array n e=>
    simp only[Bool.and_eq_true,Nat.beq_eq] at hg
    obtain ⟨xs,m,hn,rfl,hlen,jI,hx⟩:=DataW.trod_array hu h
    cases hn
    have het:aY P t=(List.replicate n (aY P e)).flatten:=by
     rw[←Ko hg.2.2]
     simp[aY,bG,hu]
    obtain ⟨ys,qK⟩:=S7 (w:=w) (rd:=DataW.trod enc P w base spare held fuel e) cs hg.2.1 (fun cs x b=>FU hL fuel e cs x (FT hg.1) b) n (by
     intro i hi
     exact ⟨_,(hx i hi).trans (List.getElem?_eq_getElem (by omega))⟩)
    rw[het]
    refine ⟨ys,?_⟩
    have:cs.take (n*P.cellsOf e)=cs:=by
     have:n*P.cellsOf e=cs.length:=by
      rw[hlen,hc,het,hg.2.1]
      simp
     rw[this,List.take_length]
    rw[this] at qK
    exact qK
   | _=>cases hg
end
section
variable {P:Program} {H:Type} {enc:TypeId × Value→H} {w:World} {L:List TypeId}
theorem acR {base Kq:Nat} {spare:Nat→Bool} {held:Bool} {r:Reach} {β:Nat→Option Nat} {hp:Nat→Option ah} (hL:FR P L=true) {t:TypeId} {v:Value} {d:DataW H} {ps:List MemPlace} (ht:t∈L) (fG:Value.okWide P w r Kq t v)
  (h:DataW.Trod enc P w base spare held t v d ps): ∃x,ai P w (nF w) β hp v x∧fF P t x:=by
 obtain ⟨fuel,hf⟩:=h
 obtain ⟨xs,c1,c2,c3⟩:=FU hL fuel t _ _ ht hf
 have hg:=List.all_eq_true.1 hL t ht
 unfold Kn at hg
 rw[Bool.and_eq_true,Nat.beq_eq] at hg
 obtain ⟨_,hg⟩:=hg
 have FV:bG P t=true→∃x,ai P w (nF w) β hp v x∧fF P t x:=by
  intro ha
  have hv: ∃cs,v= .agg cs:=by
   unfold Value.okWide at fG
   unfold bG at ha
   split at fG
   ·obtain ⟨cs,e,_⟩:=fG;exact ⟨cs,e⟩
   ·obtain ⟨cs,e,_⟩:=fG;exact ⟨cs,e⟩
   ·split at ha<;>simp_all
  obtain ⟨cs,rfl⟩:=hv
  refine ⟨.agg xs,.agg (by simpa[Value.cells] using c1.trans c2.symm) fun j v x hv hx=> ?_,fun _=>⟨xs,rfl,c2⟩,fun j t' hj=> ?_⟩
  ·have hj:j<(aY P t).length:=by rw[←c2];exact (List.getElem?_eq_some_iff.1 hx).1
   obtain ⟨v',y,e1,e2,e3,_⟩:=c3 j _ (List.getElem?_eq_getElem hj)
   rw[hx] at e2
   cases e2
   have:cs[j]? =some v':=by simpa[Value.cells] using e1
   rw[hv] at this
   cases this
   exact .qf e3
  ·obtain ⟨v',y,e1,e2,_,e4⟩:=c3 j t' hj
   have:bN P t (.agg xs) j=y:=by
    simp only[bN,ha,cond_true,V.cell]
    exact tM _ _ _ e2
   rw[this]
   exact e4
 have qu:bG P t=false→v.cells= #[v]→∃x,ai P w (nF w) β hp v x∧fF P t x:=by
  intro ha tS
  have he:aY P t=[t]:=by simp[aY,ha]
  rw[he] at c1 c2 c3
  obtain ⟨v',y,e1,e2,e3,e4⟩:=c3 0 t rfl
  rw[tS] at e1
  cases e1
  refine ⟨y,.qf e3,⟨fun h=>absurd (ha.symm.trans h) (by simp),fun j t' hj=> ?_⟩⟩
  rw[he] at hj
  cases j with
  | succ j=>simp at hj
  | zero=>
   cases hj
   simpa[bN,ha] using e4
 unfold Value.okWide at fG
 cases hu:P.underlying t with
 | none=>rw[hu] at hg;cases hg
 | some dsc=>
  rw[hu] at hg fG
  cases dsc with
  | int k=>
   refine qu (by simp[bG,hu]) ?_
   simp only[Cell.okWide,Cell.ok,hu] at fG
   cases v<;>first|rfl|(simp at fG;done)|exact fG.elim
  | bool=>
   refine qu (by simp[bG,hu]) ?_
   simp only[Cell.okWide,Cell.ok,hu] at fG
   cases v<;>first|rfl|(simp at fG;done)|exact fG.elim
  | string=>
   refine qu (by simp[bG,hu]) ?_
   simp only[Cell.okWide,Cell.ok,hu] at fG
   cases v<;>first|rfl|(simp at fG;done)|exact fG.elim
  | slice e=>
   refine qu (by simp[bG,hu]) ?_
   simp only[Cell.okWide,Cell.ok,hu] at fG
   cases v<;>first|rfl|(simp at fG;done)|exact fG.elim
  | struct fs=>exact FV (by simp[bG,hu])
  | array n e=>exact FV (by simp[bG,hu])
  | _=>cases hg
theorem S8 {base Kq:Nat} {spare:Nat→Bool} {held:Bool} {r:Reach} {β:Nat→Option Nat} {hp:Nat→Option ah} (hL:FR P L=true): ∀{ts:List TypeId} {vs:List Value} {ds:List (DataW H)} {ps:List MemPlace},
  (∀t∈ts,t∈L)→(∀(j:Nat) t v,ts[j]? =some t→vs[j]? =some v→Value.okWide P w r Kq t v)→DataW.TrodAll enc P w base spare held ts vs ds ps→
  ∃xs,vs.length=xs.length∧(∀(j:Nat) v x,vs[j]? =some v→xs[j]? =some x→ai P w (nF w) β hp v x)∧tn P ts xs
 | [],vs,ds,ps,_,_,h=>by
  obtain ⟨rfl,rfl,rfl⟩:=trodAll_nil h
  exact ⟨[],rfl,by simp,trivial⟩
 | t::ts,vs,ds,ps,hm,fG,h=>by
  obtain ⟨v,EB,d,S9,a,b,rfl,rfl,rfl,h1,h2⟩:=trodAll_cons h
  obtain ⟨x,Ag,nz⟩:=acR (β:=β) (hp:=hp) hL (hm t (by simp)) (fG 0 t v rfl rfl) h1
  obtain ⟨xs,hl,hr,hw⟩:=S8 (β:=β) (hp:=hp) hL (fun t ht=>hm t (by simp[ht])) (fun j t v a b=>fG (j+1) t v (by simpa using a) (by simpa using b)) h2
  refine ⟨x::xs,by simp[hl],fun j v' x' hv hx=> ?_,nz,hw⟩
  cases j with
  | zero=>cases hv;cases hx;exact Ag
  | succ j=>exact hr j v' x' (by simpa using hv) (by simpa using hx)
theorem Ta {base:Nat} {spare:Nat→Bool} {held:Bool}: ∀{ts:List TypeId} {vs:List Value} {ds:List (DataW H)} {ps:List MemPlace},DataW.TrodAll enc P w base spare held ts vs ds ps→ds.length=ts.length
 | [],vs,ds,ps,h=>by obtain ⟨rfl,rfl,rfl⟩:=trodAll_nil h;rfl
 | t::ts,vs,ds,ps,h=>by
  obtain ⟨v,EB,d,S9,a,b,rfl,rfl,rfl,h1,h2⟩:=trodAll_cons h
  simp[Ta h2]
theorem Tb {base:Nat} (hl:laidOutB P=true) {W W':World} {Tc:Nat→Bool}: ∀{ts:List TypeId} {vs:List Value} {ds:List (DataW H)} {ps:List MemPlace},(∀t∈ts,P.readableRec t=true∧t<P.types.size)→
  DataW.TrodAll enc P W base (fun _=>true) true ts vs ds ps→(∀p∈ps,W.sameAt W' p)→(∀p∈ps,Tc p.block=true)→DataW.TrodAll enc P W' base Tc true ts vs ds ps
 | [],vs,ds,ps,_,h,_,_=>by obtain ⟨rfl,rfl,rfl⟩:=trodAll_nil h;exact trodAll_mk0
 | t::ts,vs,ds,ps,hr,h,h1,h2=>by
  obtain ⟨v,EB,d,S9,a,b,rfl,rfl,rfl,h3,h4⟩:=trodAll_cons h
  obtain ⟨r1,r2⟩:=hr t (by simp)
  exact trodAll_cons_mk (WideElems.Trod_stays hl r1 r2 h3 (fun p hp=>h1 p (by simp[hp])) (fun p hp=>h2 p (by simp[hp])))
   (Tb hl (fun t ht=>hr t (by simp[ht])) h4 (fun p hp=>h1 p (by simp[hp])) (fun p hp=>h2 p (by simp[hp])))
theorem acS {f:Func} {s:ChangeSpec} {apart fresh handsOn again:Bool} {W W':World} {args:Array Value} {v:Value} {ds gs:List (DataW H)} {before pa pv:List MemPlace}
  (hW:DataW.Whole enc P f.params.toList s.vars apart W args.toList ds gs before)
  (Td: ∀(b:Nat) (sp:Nat→Bool) (hd:Bool),DataW.TrodAll enc P W' b sp hd f.resultTypes.toList (v.resultList f.resultTypes.size) (s.fn H (ds++gs)).results [])
  (uj: ∀sp:Nat→Bool,(∀p∈before,sp p.block=true)→DataW.TrodAll enc P W' 0 sp true f.params.toList args.toList (s.fn H (ds++gs)).args pa)
  (Te: ∀sp:Nat→Bool,(∀p∈before,sp p.block=true)→DataW.TrodVars enc P W' sp s.vars (s.fn H (ds++gs)).vars pv)
  (FW:before=pa++pv) (hk:W.keptBut W' (· ∈before)) (Tf: ∀a:Addr,a.block<W.heap.size→W'.frozen? a=W.frozen? a)
  (aw: ∀(j:Nat) (t:TypeId) (r:Value),f.resultTypes[j]? =some t→(v.resultList f.resultTypes.size)[j]? =some r→Value.okWide P W' .any 0 t r):
  s.post enc P f apart fresh handsOn again W args v W':=by
 have hold: ∀p∈before,(fun b=>decide (b<W.heap.size)) p.block=true:=fun p hp=>by simpa using hW.lt p hp
 refine ⟨ds,gs,before,[],pa,pv,hW,Td _ _ _,uj _ hold,Te _ hold,World.keptBut_mono (fun p hp=>⟨hp,?_⟩) hk,fun _=> ?_⟩
 ·rw[FW,List.mem_append] at hp
  exact Or.inr hp
 ·have aX:=hW.lt
  obtain ⟨_,_,_,_,_,hz,hn⟩:=hW
  refine ⟨aw,_,_,([]++pa)++pv,⟨[]++pa,pv,trodAll_append (uj _ (fun _ _=>rfl)) (Td _ _ _),Te _ (fun _ _=>rfl),rfl,?_,?_⟩,?_⟩
  ·intro b off hp
   have hb:MemPlace.cell b off∈before:=by rw[FW];simpa using hp
   rw[Tf ⟨b,off,none⟩ (aX _ hb)]
   exact hz b off hb
  ·intro ha
   have:=hn ha
   rw[FW] at this
   simpa using this
  ·intro p hp _
   rw[FW]
   simpa using hp
theorem Z8 {A:cM} (hP:js P A) (pq:P.follows .mixedOrders=true) {f key:Nat} {fn:Func} {tb:TypeId} {s:ChangeSpec} {apart fresh handsOn again:Bool}
  (hf:P.funcs[f]? =some fn) (acT:A.aO key=f) (hL:FR P L=true) (fN:fn.params.toList.all (fun t=>hasB L t)=true) (Tg:fn.resultTypes= #[tb]) (Th:P.underlying tb=some .bool) (Ti:s.vars=[])
  (hs: ∀ds:List (DataW H),ds.length=fn.params.toList.length→s.fn H ds={results:=[.lit (.bool true)],args:=ds})
  (acU:laidOutB P=true) (acV:fn.params.toList.all (fun t=>P.readableRec t&&Nat.blt t P.types.size)=true)
  (fo:(A.sin key).aW=[]) (aw:((A.sin key).bJ.map (·.2)).all (VS.ok 0)=true) (acW:(A.fH key).bJ=[(0,.one .bool)]) (halt:A.alt key=none)
  (acX: ∀xs,tn P fn.params.toList xs→∃ds,rX ((A.sin key).bJ.map (·.2)) xs=some ds∧Call P A key ds=some [.bool true])
  {W:World} {base:Nat} {args:Array Value} {ds gs:List (DataW H)} {before:List MemPlace}
  (acY:gR P A.aC W (nF W)) (fG: ∀(j:Nat) t v,fn.params[j]? =some t→args[j]? =some v→Value.okWide P W .any base t v)
  (hW:DataW.Whole enc P fn.params.toList s.vars apart W args.toList ds gs before):
  Calls P f args W fun e W'=> ∃v,e= .returned v∧s.post enc P fn apart fresh handsOn again W args v W':=by
 have Tj:=hW
 obtain ⟨p,q,hA,hV,rfl,Tf,kj⟩:=hW
 rw[Ti] at hV
 obtain ⟨hgs,hq⟩:gs=[]∧q=[]:=by
  cases gs with
  | nil=>exact ⟨rfl,hV⟩
  | cons g gs=>exact hV.elim
 subst hgs
 subst hq
 obtain ⟨xs,hl,hr,hwt⟩:=S8 (β:=fun _=>none) (hp:=fun _=>none) hL (fun t ht=>FT (List.all_eq_true.1 fN t ht)) (fun j t v a b=>fG j t v (by simpa using a) (by simpa using b)) hA
 obtain ⟨ls,hls,Ae⟩:=acX xs hwt
 obtain ⟨fn',c,h1,h2,h3⟩:=acM (A:=A) hP pq key ls [.bool true] Ae
 rw[acT] at h1 h3
 rw[hf] at h1
 cases h1
 have wL: ∀j,(bm (A.sin key) ls).hp j=none:=fun j=>by simp[bm,mk,fo,eZ,jz]
 obtain ⟨_,r1,r2⟩:=z5 (P:=P) (w:=W) (I:=nF W) (n:=0) (β:=fun _=>none) (au:=fun _=>none) (hp:=fun _=>none) (hp':=(bm (A.sin key) ls).hp) (fun j hj=>absurd hj (Nat.not_lt_zero j)) hls aw
 have hlen:((A.sin key).bJ.map (·.2)).length=xs.length:=by rw[←r1 [],Kl]
 have h4:=h3 W (nF W) (fun _=>none) args.toList ⟨fun id blk h=>(by rw[wL] at h;cases h),fun id aA blk blk' b h=>(by rw[wL] at h;cases h),fun id blk b h=>(by rw[wL] at h;cases h),fun b h=>h⟩ acY
  (by rw[hl,←hlen,List.length_map]) (fun j v y hv hy=>r2 [] j v y (fun x hx=>hr j v x hv hx) (by rw[List.append_nil];exact hy))
 have ea:args.toList.toArray=args:=by simp
 rw[ea] at h4
 refine h4.mono fun e W' ⟨v,I2,b9,he,ha⟩=>⟨v,he,?_⟩
 have tP: ∀b,b<W.heap.size→W'.heap[b]? =W.heap[b]? :=fun b hb=>ha.wC.cp b hb (by rintro ⟨j,blk,hj,_⟩;rw[wL] at hj;cases hj)
 have JG:=ha.res
 have Tk:A.so key [.bool true]=A.fH key∧A.lv key [.bool true]=[.bool true]:=by unfold cM.so cM.lv;rw[halt];exact ⟨rfl,rfl⟩
 rw[Tk.1,Tk.2,acW] at JG
 obtain rfl:v= .bool true:=JG.jF
 have lF:Value.okWide P W' .any 0 tb (.bool true):=by simp[Value.okWide,Th,Cell.okWide,Cell.ok]
 have lq:ds.length=fn.params.toList.length:=Ta hA
 have iP: ∀p'∈p++[],W.sameAt W' p':=by
  intro p' hp'
  have aX:=Tj.lt p' hp'
  cases p' with
  | cell b o=>exact World.cell?_of_block (w:=W) (tP b aX)
  | map b=>exact tP b aX
 refine acS (pa:=p) (pv:=[]) Tj ?_ ?_ ?_ rfl ?_ ?_ ?_
 ·intro b sp hd
  rw[List.append_nil,hs ds lq,Tg]
  exact trodAll_mk1 ⟨1,by simp[DataW.trod,Value.cells,Th]⟩
 ·intro sp iN
  rw[List.append_nil,hs ds lq]
  refine Tb acU (fun t ht=> ?_) hA (fun p' hp'=>iP p' (by simpa using hp')) (fun p' hp'=>iN p' (by simpa using hp'))
  have:=List.all_eq_true.1 acV t ht
  simp only[Bool.and_eq_true] at this
  exact ⟨this.1,by simpa[Nat.blt_eq] using this.2⟩
 ·intro sp iN
  rw[Ti,List.append_nil,hs ds lq]
  exact rfl
 ·refine ⟨ha.wC.io.1,ha.wC.io.2,fun i hi=> ?_⟩
  rw[tP i hi]
  split<;>simp_all
 ·intro a aX
  exact World.frozen?_of_block (w:=W) (tP a.block aX)
 ·intro j t r hj Kr
  rw[Tg] at hj Kr
  cases j with
  | zero=>
   simp[Value.resultList] at hj Kr
   subst hj
   subst Kr
   exact lF
  | succ j=>simp at hj
end
end Go.AM
namespace Go.AM
@[simp] theorem V.toInt_int (k:IntKind) (n:Int):V.toInt (.int k n)=n:=by cases k<;>rfl
@[simp] theorem V.iS (b:Bool):V.toBool (.bool b)=b:=by cases b<;>rfl
@[simp] theorem V.Ks (s:List UInt8):V.toStr (.str s)=s:=by cases s<;>rfl
@[simp] theorem V.jM (e:TypeId) (es:List V):V.toList (.list e es)=es:=by cases es<;>rfl
@[simp] theorem V.alw (e:TypeId) (es:List V):V.toList (.own e es)=es:=by cases es<;>rfl
@[simp] theorem V.acZ (cs:List V) (j:Nat):V.cell (.agg cs) j=V.nth cs j:=by cases cs<;>rfl
@[simp] theorem V.alx (cs:List V) (j:Nat):V.comp (.bj cs) j=V.nth cs j:=by cases cs<;>rfl
@[simp] theorem V.ba (x:V) (l:List V):V.nth (x::l) 0=x:=by cases l<;>rfl
@[simp] theorem V.ju (x:V) (l:List V) (n:Nat):V.nth (x::l) (n+1)=V.nth l n:=by cases l<;>rfl
@[simp] theorem V.aly (x y:V) (l:List V):V.nth (x::y::l) 1=y:=by cases l<;>rfl
@[simp] theorem V.alz (x y z:V) (l:List V):V.nth (x::y::z::l) 2=z:=by cases l<;>rfl
@[simp] theorem V.alA (x y z u:V) (l:List V):V.nth (x::y::z::u::l) 3=u:=by cases l<;>rfl
theorem wrap64 {x:Int} (h1: -9223372036854775808≤x) (h2:x<9223372036854775808):IntKind.wrap .i64 x=x:=by
 rw[IntKind.wrap_i64];omega
theorem Ap {x:Int} (h1:0≤x) (h2:x<256):IntKind.wrap .u8 x=x:=by
 rw[IntKind.wrap_u8];omega
theorem Kt {es:List V} {i:Int} {n:Nat} (h:i=n):idx es i=es[n]? :=by
 subst h;simp[idx]
theorem ac0 {α:Type} {f:α→V} {l:List α} {i:Int} {n:Nat} (h:i=n) (hn:n<l.length):idx (l.map f) i=some (f l[n]):=by
 rw[Kt h];simp[hn]
@[simp] theorem Aq (es:List V) (n:Nat):idx es (n:Int)=es[n]? :=by simp[idx]
section
variable {X R:Type} {step:X→Option (X ⊕ R)}
theorem Tl (Inv:X→Prop) (μ:X→Nat) (Q:R→Prop)
  (h: ∀x,Inv x→(∃y,step x=some (.inl y)∧Inv y∧μ y<μ x)∨∃r,step x=some (.inr r)∧Q r):
  ∀x,Inv x→∃r,Loop step x=some r∧Q r:=by
 intro x
 induction hm:μ x using Nat.strongRecOn generalizing x with
 | ind m ih=>
  intro hx
  rcases h x hx with ⟨y,h1,h2,h3⟩|⟨r,h1,h2⟩
  ·obtain ⟨r,h4,h5⟩:=ih (μ y) (by omega) y rfl h2
   exact ⟨r,(cF h1).trans h4,h5⟩
  ·exact ⟨r,aZ h1,h2⟩
theorem Ar (s:Nat→X) (n:Nat) {r:R} (h: ∀i,i<n→step (s i)=some (.inl (s (i+1)))) (he:step (s n)=some (.inr r)):Loop step (s 0)=some r:=by
 induction n generalizing s with
 | zero=>exact aZ he
 | succ n ih=>
  rw[cF (h 0 (by omega))]
  exact ih (fun i=>s (i+1)) (fun i hi=>h (i+1) (by omega)) he
end
@[simp] theorem ar {α:Type} (p:Prop) [Decidable p] (a b:α):(bif decide p then a else b)=if p then a else b:=by by_cases h:p<;>simp[h]
@[simp] theorem km {α:Type} (m n:Int) (a b:α):(bif m==n then a else b)=if m=n then a else b:=by
 by_cases h:m=n
 ·simp[h]
 ·have:(m==n)=false:=by simp[h]
  rw[this,if_neg h];rfl
@[simp] theorem sL {α:Type} (m n:Int) (a b:α):(bif m != n then a else b)=if m=n then b else a:=by
 by_cases h:m=n
 ·simp[h]
 ·have:(m != n)=true:=by simp[h]
  rw[this,if_neg h];rfl
@[simp] theorem dp {α:Type} (c:Bool) (a b:α):(bif !c then a else b)=bif c then b else a:=by cases c<;>rfl
@[simp] theorem FX {α:Type} (m n:Nat) (a b:α):(bif Nat.ble m n then a else b)=if m≤n then a else b:=by
 cases hb:Nat.ble m n with
 | true=>rw[if_pos (Nat.le_of_ble_eq_true hb)];rfl
 | false=>
  rw[if_neg fun h=> ?_]
  ·rfl
  ·rw[Nat.ble_eq_true_of_le h] at hb;cases hb
@[simp] theorem cl {α:Type} (c d:Bool) (a b:α):(bif c&&d then a else b)=bif c then (bif d then a else b) else b:=by cases c<;>rfl
section
variable {P:Program}
def Tm (P : Program) : Bool := P.funcs.all fun fn => !(fn.name == "runtime.NumGoroutine")
theorem ac1 (h:Tm P=true):wF P:=by
 intro f fn hf
 unfold Tm at h
 have:=(Array.all_eq_true_iff_forall_mem.1 h) fn (Array.mem_of_getElem? hf)
 simpa using this
theorem Eb {t:TypeId} {ts:List TypeId} {xs:List V} (h:tn P (t::ts) xs): ∃x ys,xs=x::ys∧fF P t x∧tn P ts ys:=by
 cases xs with
 | nil=>exact h.elim
 | cons x ys=>exact ⟨x,ys,rfl,h.1,h.2⟩
theorem Z2 {xs:List V} (h:tn P [] xs):xs=[]:=by
 cases xs with
 | nil=>rfl
 | cons x ys=>exact h.elim
theorem fF.one {t:TypeId} {x:V} (ha:bG P t=false) (h:fF P t x):WT P t x:=by
 have he:aY P t=[t]:=by simp[aY,ha]
 have:=h.2 0 t (by rw[he];rfl)
 simpa[bN,ha] using this
theorem WT.eM {t:TypeId} {k:IntKind} {x:V} (hu:P.underlying t=some (.int k)) (h:WT P t x): ∃n,x= .int k n∧k.min≤n∧n≤k.max:=by
 cases h with
 | int h1 h2=>
  rw[hu] at h1
  cases h1
  simp only[Lit.wf,Bool.and_eq_true,decide_eq_true_eq] at h2
  exact ⟨_,rfl,h2⟩
 | bool h1=>rw[hu] at h1;cases h1
 | str h1=>rw[hu] at h1;cases h1
 | list h1=>rw[hu] at h1;cases h1
theorem WT.jF {t:TypeId} {x:V} (hu:P.underlying t=some .bool) (h:WT P t x): ∃b,x= .bool b:=by
 cases h with
 | int h1=>rw[hu] at h1;cases h1
 | bool h1=>exact ⟨_,rfl⟩
 | str h1=>rw[hu] at h1;cases h1
 | list h1=>rw[hu] at h1;cases h1
theorem WT.my {t:TypeId} {x:V} (hu:P.underlying t=some .string) (h:WT P t x): ∃s,x= .str s∧s.length≤maxLen:=by
 cases h with
 | int h1=>rw[hu] at h1;cases h1
 | bool h1=>rw[hu] at h1;cases h1
 | str h1 h2=>exact ⟨_,rfl,h2⟩
 | list h1=>rw[hu] at h1;cases h1
theorem WT.FY {t e:TypeId} {x:V} (hu:P.underlying t=some (.slice e)) (h:WT P t x): ∃es,x= .list e es∧es.length≤maxLen∧∀y∈es,fF P e y:=by
 cases h with
 | int h1=>rw[hu] at h1;cases h1
 | bool h1=>rw[hu] at h1;cases h1
 | str h1=>rw[hu] at h1;cases h1
 | list h1 h2 h3 h4=>
  rw[hu] at h1
  cases h1
  refine ⟨_,rfl,h2,fun y hy=> ?_⟩
  obtain ⟨i,hi⟩:=List.getElem?_of_mem hy
  exact ⟨h3 i y hi,fun j t' hj=>h4 i j y t' hi hj⟩
theorem fF.kH {t:TypeId} {x:V} (ha:bG P t=true) (h:fF P t x): ∃xs,x= .agg xs∧xs.length=(aY P t).length∧∀(j:Nat) t' y,(aY P t)[j]? =some t'→xs[j]? =some y→WT P t' y:=by
 obtain ⟨xs,rfl,hl⟩:=h.1 ha
 refine ⟨xs,rfl,hl,fun j t' y hj hy=> ?_⟩
 have:=h.2 j t' hj
 simp only[bN,ha,cond_true,V.acZ] at this
 rw[tM _ _ _ hy] at this
 exact this
theorem Tn {α:Type} {f:α→V}: ∀{es:List V},(∀y∈es,∃a,y=f a)→∃l:List α,es=l.map f
 | [],_=>⟨[],rfl⟩
 | y::es,h=>by
  obtain ⟨a,rfl⟩:=h y (by simp)
  obtain ⟨l,rfl⟩:=Tn (f:=f) (es:=es) fun z hz=>h z (by simp[hz])
  exact ⟨a::l,rfl⟩
theorem FZ {α:Type} {f:α→V} {p:α→Prop}: ∀{es:List V},(∀y∈es,∃a,y=f a∧p a)→∃l:List α,es=l.map f∧∀a∈l,p a
 | [],_=>⟨[],rfl,by simp⟩
 | y::es,h=>by
  obtain ⟨a,rfl,ha⟩:=h y (by simp)
  obtain ⟨l,rfl,hl⟩:=FZ (f:=f) (p:=p) (es:=es) fun z hz=>h z (by simp[hz])
  exact ⟨a::l,rfl,by
   intro b hb
   rcases List.mem_cons.1 hb with rfl|hb
   ·exact ha
   ·exact hl b hb⟩
theorem fF.int {t:TypeId} {x:V} (hu:P.underlying t=some (.int .i64)) (h:fF P t x): ∃n,x= .int .i64 n∧IntKind.min .i64≤n∧n≤IntKind.max .i64:=
 (h.one (by simp[bG,hu])).eM hu
theorem fF.str {t:TypeId} {x:V} (hu:P.underlying t=some .string) (h:fF P t x): ∃s,x= .str s∧s.length≤maxLen:=
 (h.one (by simp[bG,hu])).my hu
end
def un.{u} {A B:Type} {γ:Sort u} (f:A→B→γ) (p:A × B):γ:=f p.1 p.2
def cI {A B γ:Type} (f:A→γ) (g:B→γ):A ⊕ B→γ
 | .inl a=>f a
 | .inr b=>g b
def an:List Nat→Code→Code
 | [],c=>c
 | 0::p,.seq a _=>an p a
 | _::p,.seq _ b=>an p b
 | 0::p,.cond _ a _=>an p a
 | _::p,.cond _ _ b=>an p b
 | _::p,.block _ c=>an p c
 | _::p,.loop c=>an p c
 | _,c=>c
inductive bY where
 | loop (c:Code)
 | cond (t:Nat) (x y:Code)
section
variable (P:Program) (A:cM) (C:ae) (L:b6) (f n m:Nat)
def pr:Code→List bY
 | .seq a b=>pr a++pr b
 | .cond (.tmp t) x y=>
  match A.gG f (t*16+15) with
  | none=>pr x++pr y
  | some _=>[.cond t x y]
 | .cond (.const _) x y=>pr x++pr y
 | .block _ c=>pr c
 | .loop c=>[.loop c]
 | _=>[]
def bZ:bY→Prop
 | .loop c=>
  match A.gG f (keyOf c+1) with
  | none=>True
  | some S=> ∀(β:Type) ds (k:Nat→List V→Option β),L β (keyOf c+1) ds k=(Loop (stepG P A C f n m S c) ds).bind fun r=>k r.1 r.2
 | .cond t x y=>
  match A.gG f (t*16+15) with
  | none=>True
  | some S=> ∀(β:Type) ds (k:Nat→List V→Option β),L β (t*16+15) ds k=(zn P A C f n m t S x y ds).bind fun r=>k r.1 r.2
def nH:List bY→Prop
 | []=>True
 | b::l=>bZ P A C L f n m b∧nH l
variable {P A C L f n m}
theorem nH.left {a b:List bY}:nH P A C L f n m (a++b)→nH P A C L f n m a:=by
 induction a with
 | nil=>exact fun _=>trivial
 | cons x a ih=>exact fun h=>⟨h.1,ih h.2⟩
theorem nH.right {a b:List bY}:nH P A C L f n m (a++b)→nH P A C L f n m b:=by
 induction a with
 | nil=>exact fun h=>h
 | cons x a ih=>exact fun h=>ih h.2
theorem aI: ∀{c:Code} {bs:List bY},pr A f c=bs→nH P A C L f n m bs→ic P A C L f n m c:=by
 intro c
 induction c with
 | seq a b IT IU=>
  intro bs h hb
  subst h
  exact ⟨IT rfl hb.left,IU rfl hb.right⟩
 | cond c x y gd gf=>
  intro bs h hb
  subst h
  cases c with
  | tmp t=>
   simp only[pr] at hb
   simp only[ic]
   cases hs:A.gG f (t*16+15) with
   | none=>
    rw[hs] at hb
    exact ⟨gd rfl hb.left,gf rfl hb.right⟩
   | some S=>
    rw[hs] at hb
    have:=hb.1
    simp only[bZ,hs] at this
    exact this
  | const v=>exact ⟨gd rfl hb.left,gf rfl hb.right⟩
  | _=>trivial
 | block id c ih=>
  intro bs h hb
  subst h
  exact ih rfl hb
 | loop c ih=>
  intro bs h hb
  subst h
  exact hb.1
 | _=>intro bs h hb;trivial
variable (P A C L f n m) in
noncomputable def Ku {β:Type} (t:Nat) (S:Shape × List (Out × Shape)) (x y:Code) (ds:List V) (k:Nat→List V→Option β):Option β:=
 let kc:Out→St→Option β:=fun o st=>
  match o with
  | .norm=>(ways m 0 S.2 (.norm,canon m (A.join f t) st)).bind fun e=>k e.1 e.2
  | o=>(ways m 0 S.2 (o,st)).bind fun e=>k e.1 e.2
 match (bm S.1 ds).sl t with
 | .bool b=>bif b then ib P A C L f n m x (bm S.1 ds) kc else ib P A C L f n m y (bm S.1 ds) kc
 | _=>none
theorem ac2 {t:Nat} {x y:Code} {S:Shape × List (Out × Shape)} (hS:A.gG f (t*16+15)=some S) (hx:ic P A C L f n m x) (hy:ic P A C L f n m y) {I R:Type} (enc:I→List V) (mK:I→R→Nat × List V)
  (de:List V→I) (body:I→(β:Type)→(R→Option β)→Option β) (uv: ∀ds,bm S.1 (enc (de ds))=bm S.1 ds)
  (e1: ∀i (β:Type) (k:Nat→List V→Option β),Ku P A C L f n m t S x y (enc i) k=body i β (fun r=>k (mK i r).1 (mK i r).2))
  (hl: ∀(β:Type) ds (k:Nat→List V→Option β),L β (t*16+15) ds k=body (de ds) β (fun r=>k (mK (de ds) r).1 (mK (de ds) r).2)):
  bZ P A C L f n m (.cond t x y):=by
 simp only[bZ,hS]
 intro β ds k
 rw[hl,←e1]
 unfold Ku zn
 rw[uv]
 simp only
 have hk: ∀(z:Option (Out × St)),(z.bind fun r=>(match r.1 with
   | .norm=>(ways m 0 S.2 (.norm,canon m (A.join f t) r.2)).bind fun e=>k e.1 e.2
   | o=>(ways m 0 S.2 (o,r.2)).bind fun e=>k e.1 e.2))=((z.bind fun r=>
   match r.1 with
   | .norm=>some (Out.norm,canon m (A.join f t) r.2)
   | _=>some r).bind fun r=>ways m 0 S.2 r).bind fun r=>k r.1 r.2:=by
  intro z
  cases z with
  | none=>rfl
  | some r=>obtain ⟨o,st⟩:=r;cases o<;>rfl
 cases (bm S.1 ds).sl t with
 | bool b=>
  cases b with
  | true=>simp only[cond_true,Ez P A C f n m x hx];exact hk _
  | false=>simp only[cond_false,Ez P A C f n m y hy];exact hk _
 | _=>rfl
theorem aU {b:bY} {l:List bY} (h:bZ P A C L f n m b) (h2:nH P A C L f n m l):nH P A C L f n m (b::l):=⟨h,h2⟩
theorem ao:nH P A C L f n m []:=trivial
theorem bf {key:Nat} {bs:List bY} (hb:pr A key (ch P (A.aO key))=bs) (ht:nH P A (Call P A) L key (cm P (A.aO key)) (A.sin key).aW.length bs) {ds:List V} {r:Option (List V)}
  (h:IV P A (Call P A) L key ds=r):Call P A key ds=r:=by
 rw[acP,aag P A (Call P A) key (aI hb ht),h]
end
section
variable (P:Program) (A:cM)
def im (C:ae) (N f n m:Nat):Code→St→Option (Out × St)
 | .skip,st=>some (.norm,st)
 | .region id ops draw,st=>(vT P (A.here f id) C n ops draw st).bind fun st'=>some (.norm,canon m (A.live f id) (freeze m (A.pur f id) st'))
 | .seq a b,st=>(im C N f n m a st).bind fun r=>
  match r.1 with
  | .norm=>im C N f n m b r.2
  | _=>some r
 | .cond (.tmp t) x y,st=>
  let go (st:St):Option (Out × St):=
   match st.sl t with
   | .bool b=>(bif b then im C N f n m x st else im C N f n m y st).bind fun r=>
    match r.1 with
    | .norm=>some (.norm,canon m (A.join f t) r.2)
    | _=>some r
   | _=>none
  match A.gG f (t*16+15) with
  | none=>go st
  | some S=>(iG m S.1 st).bind fun ds=>((go (bm S.1 ds)).bind fun r=>ways m 0 S.2 r).bind fun e=>j8 0 S.2 e.1 e.2 fun o st=>some (o,st)
 | .cond (.const (.bool b)) x y,st=>bif b then im C N f n m x st else im C N f n m y st
 | .block id c,st=>(im C N f n m c st).bind fun r=>
  match r.1 with
  | .norm=>some (.norm,canon m (A.blk f id) r.2)
  | .exit aA=>bif Nat.beq aA id then some (.norm,canon m (A.blk f id) r.2) else some r
  | .ret=>some r
 | .loop c,st=>
  match A.gG f (keyOf c+1) with
  | none=>none
  | some S=>(iG m S.1 st).bind fun ds=>(eX (fun ds=>kE m S.1 S.2 (im C N f n m c (bm S.1 ds))) N ds).bind fun e=>j8 0 S.2 e.1 e.2 fun o st=>some (o,st)
 | .exit id,st=>some (.exit id,st)
 | .ret,st=>some (.ret,st)
 | _,_=>none
def Kv (C:ae) (N f:Nat) (ds:List V):Option (List V):=
 match P.funcs[A.aO f]? with
 | none=>none
 | some fn=>
  match fn.body with
  | none=>none
  | some c=>bif ia 0 (A.sin f).bJ&&(Nat.ble (A.sin f).bJ.length fn.ntmps&&((A.sin f).ok&&(ia 0 (A.fH f).bJ&&(Nat.beq (A.fH f).bJ.length fn.results.size&&n9 (ml (A.sin f).aW.length (A.mv f)))))) then
    (im P A C N f fn.ntmps (A.sin f).aW.length c (zm A f ds)).bind fun r=>
     match r.1 with
     | .exit _=>none
     | _=>((tz P A f fn (A.sin f).aW.length r.2).run C r.2.hp).map (·.1)
   else none
def F0 (N:Nat):Nat→ae
 | 0=>fun _ _=>none
 | n+1=>Kv P A (F0 N n) N
variable {P A}
theorem To {X R:Type} {s1 s2:X→Option (X ⊕ R)} (h: ∀x y,s1 x=some y→s2 x=some y): ∀(n:Nat) (x:X) (r:R),eX s1 n x=some r→eX s2 n x=some r
 | 0,x,r,e=>by cases e
 | n+1,x,r,e=>by
  simp only[eX] at e⊢
  obtain ⟨y,h1,h2⟩:=bind_some e
  rw[h x y h1]
  cases y with
  | inl z=>exact To h n z r h2
  | inr q=>exact h2
theorem ac3 {C:ae} {N f n m:Nat}: ∀(c:Code) {st:St} {r:Out × St},im P A C N f n m c st=some r→exec P A C f n m c st=some r:=by
 intro c
 induction c with
 | skip=>exact fun e=>e
 | exit id=>exact fun e=>e
 | ret=>exact fun e=>e
 | region id ops draw=>exact fun e=>e
 | seq x y gd gf=>
  intro st r e
  simp only[im,exec] at e⊢
  obtain ⟨⟨o,s1⟩,h1,h2⟩:=bind_some e
  rw[gd h1]
  cases o with
  | norm=>exact gf h2
  | exit id=>exact h2
  | ret=>exact h2
 | cond c x y gd gf=>
  intro st r e
  cases c with
  | tmp t=>
   have go: ∀{st:St} {r:Out × St},(match st.sl t with
     | .bool b=>(bif b then im P A C N f n m x st else im P A C N f n m y st).bind fun r=>
      match r.1 with
      | .norm=>some (.norm,canon m (A.join f t) r.2)
      | _=>some r
     | _=>none)=some r→(match st.sl t with
     | .bool b=>(bif b then exec P A C f n m x st else exec P A C f n m y st).bind fun r=>
      match r.1 with
      | .norm=>some (.norm,canon m (A.join f t) r.2)
      | _=>some r
     | _=>none)=some r:=by
    intro st r e
    cases hs:st.sl t<;>rw[hs] at e<;>simp only at e⊢ <;>first|(cases e;done)|skip
    rename_i b
    obtain ⟨x1,h1,h2⟩:=bind_some e
    cases b with
    | true=>simp only[cond_true,gd h1,Option.bind_some];exact h2
    | false=>simp only[cond_false,gf h1,Option.bind_some];exact h2
   simp only[im,exec] at e⊢
   split at e
   ·rename_i hS
    try rw[hS]
    exact go e
   ·rename_i S hS
    obtain ⟨ds,h1,h2⟩:=bind_some e
    obtain ⟨e',h3,h4⟩:=bind_some h2
    obtain ⟨r1,h5,h6⟩:=bind_some h3
    try rw[hS]
    simp only[h1,Option.bind_some]
    exact (congrArg (fun z:Option (Out × St)=>(z.bind fun r=>ways m 0 S.2 r).bind fun e=>j8 0 S.2 e.1 e.2 fun o st=>some (o,st)) (go h5)).trans (by simp only[Option.bind_some,h6];exact h4)
  | const v=>
   cases v with
   | bool b=>
    simp only[im,exec] at e⊢
    cases b with
    | true=>exact gd e
    | false=>exact gf e
   | _=>simp only[im] at e;cases e
  | _=>simp only[im] at e;cases e
 | block id c ih=>
  intro st r e
  simp only[im,exec] at e⊢
  obtain ⟨x1,h1,h2⟩:=bind_some e
  rw[ih h1]
  exact h2
 | loop c ih=>
  intro st r e
  simp only[im,exec] at e⊢
  split at e
  ·cases e
  ·rename_i S hS
   obtain ⟨ds,h1,h2⟩:=bind_some e
   obtain ⟨e',h3,h4⟩:=bind_some h2
   try rw[hS]
   simp only[h1,Option.bind_some]
   rw[vF (To (s2:=fun ds=>kE m S.1 S.2 (exec P A C f n m c (bm S.1 ds))) (fun x y Am=>by
    unfold kE at Am⊢
    obtain ⟨z,h5,h6⟩:=bind_some Am
    rw[ih h5]
    exact h6) N ds e' h3)]
   exact h4
 | _=>intro st r e;simp only[im] at e;cases e
theorem ac4 {C:ae} {N f:Nat} {ds es:List V} (e:Kv P A C N f ds=some es):oc P A C f ds=some es:=by
 unfold Kv at e
 unfold oc
 cases hf:P.funcs[A.aO f]? with
 | none=>rw[hf] at e;cases e
 | some fn=>
  rw[hf] at e
  simp only at e⊢
  cases hb:fn.body with
  | none=>rw[hb] at e;cases e
  | some c=>
   rw[hb] at e
   simp only at e⊢
   cases hc:(ia 0 (A.sin f).bJ&&(Nat.ble (A.sin f).bJ.length fn.ntmps&&((A.sin f).ok&&(ia 0 (A.fH f).bJ&&(Nat.beq (A.fH f).bJ.length fn.results.size&&n9 (ml (A.sin f).aW.length (A.mv f))))))) with
   | false=>rw[hc] at e;cases e
   | true=>
    rw[hc] at e
    simp only[cond_true] at e⊢
    obtain ⟨x,h1,h2⟩:=bind_some e
    rw[ac3 c h1]
    exact h2
theorem Tp {N:Nat}: ∀n {f:Nat} {a r:List V},F0 P A N n f a=some r→j9 P A n f a=some r
 | 0,f,a,r,h=>by cases h
 | n+1,f,a,r,h=>by
  obtain ⟨M,hM⟩:=FP (C:=F0 P A N n) (D:=fun _=>j9 P A n) (fun f a r h=>⟨0,fun _ _=>Tp n h⟩) (ac4 h)
  exact hM M (Nat.le_refl _)
theorem ac5 {N n f:Nat} {a r:List V} (h:F0 P A N n f a=some r):Call P A f a=some r:=An.2 ⟨n,Tp n h⟩
end
inductive LK where
 | int (k:IntKind)
 | bool
 | str
 | list (e:TypeId)
 | nat
def LK.Ty:LK→Type
 | .int _=>Int
 | .bool=>Bool
 | .str=>List UInt8
 | .list _=>List V
 | .nat=>Nat
def LK.enc:(k:LK)→k.Ty→V
 | .int k,n=> .int k n
 | .bool,b=> .bool b
 | .str,s=> .str s
 | .list e,l=> .list e l
 | .nat,n=>eB n
def LK.dec:(k:LK)→V→k.Ty
 | .int _,v=>v.toInt
 | .bool,v=>v.toBool
 | .str,v=>v.toStr
 | .list _,v=>v.toList
 | .nat,v=>kB v
theorem LK.Tq: ∀(k:LK) (x:k.Ty),k.dec (k.enc x)=x
 | .int _,_=>rfl
 | .bool,_=>rfl
 | .str,_=>rfl
 | .list _,_=>rfl
 | .nat,_=>rfl
def Kw:List Nat→List LK
 | []=>[]
 | _::l=> .nat::Kw l
def LS.ks:LS→List LK
 | .int k=>[.int k]
 | .bool=>[.bool]
 | .str=>[.str]
 | .list e=>[.list e]
 | .sub .. =>[.nat,.nat]
 | .ptr _=>[.nat,.nat]
 | .row _ _ cs=>Kw cs
 | .cL _ cs _=> .nat::Kw cs
 | _=>[]
def wM:List LS→List LK
 | []=>[]
 | l::ls=>l.ks++wM ls
def VS.ks:VS→List LK
 | .one l=>l.ks
 | .agg ls=>wM ls
 | .bj ls=>wM ls
 | .fn _ a b=>wM a++wM b
 | .pref _ ls=>wM ls
def Tr:List VS→List LK
 | []=>[]
 | l::ls=>l.ks++Tr ls
def BS.ks:BS→List LK
 | .var _ cs=>Tr cs
 | .arr e _=>[.list e]
 | .nest e=>[.list e]
 | .dead=>[]
 | .map t=>[.list t]
def Ts:List (Nat × VS)→List LK
 | []=>[]
 | p::l=>p.2.ks++Ts l
def Tt:List BS→List LK
 | []=>[]
 | b::l=>b.ks++Tt l
def Shape.ks (S:Shape):List LK:=Ts S.bJ++Tt S.aW
def Kx:List Nat→List V→List V
 | [],_=>[]
 | _::cs,ds=>eB (kB (V.nth ds 0))::Kx cs (ds.drop 1)
def LS.norm:LS→List V→List V
 | .int k,ds=>[.int k (V.nth ds 0).toInt]
 | .bool,ds=>[.bool (V.nth ds 0).toBool]
 | .str,ds=>[.str (V.nth ds 0).toStr]
 | .list e,ds=>[.list e (V.nth ds 0).toList]
 | .sub ..,ds=>[eB (kB (V.nth ds 0)),eB (kB (V.nth ds 1))]
 | .ptr _,ds=>[eB (kB (V.nth ds 0)),eB (kB (V.nth ds 1))]
 | .row _ _ cs,ds=>Kx cs ds
 | .cL _ cs _,ds=>eB (kB (V.nth ds 0))::Kx cs (ds.drop 1)
 | _,_=>[]
def wO:List LS→List V→List V
 | [],_=>[]
 | l::ls,ds=>l.norm ds++wO ls (ds.drop l.size)
def VS.norm:VS→List V→List V
 | .one l,ds=>l.norm ds
 | .agg ls,ds=>wO ls ds
 | .bj ls,ds=>wO ls ds
 | .fn _ a b,ds=>wO a ds++wO b (ds.drop (j6 a))
 | .pref _ ls,ds=>wO ls ds
def Tu:List VS→List V→List V
 | [],_=>[]
 | l::ls,ds=>l.norm ds++Tu ls (ds.drop l.size)
def BS.norm:BS→List V→List V
 | .var _ cs,ds=>Tu cs ds
 | .arr e _,ds=>[.list e (V.nth ds 0).toList]
 | .nest e,ds=>[.list e (V.nth ds 0).toList]
 | .dead,_=>[]
 | .map t,ds=>[.list t (V.nth ds 0).toList]
def Tv:List (Nat × VS)→List V→List V
 | [],_=>[]
 | p::l,ds=>p.2.norm ds++Tv l (ds.drop p.2.size)
def Tw:List BS→List V→List V
 | [],_=>[]
 | b::l,ds=>b.norm ds++Tw l (ds.drop b.size)
def Shape.norm (S:Shape) (ds:List V):List V:=Tv S.bJ ds++Tw S.aW (ds.drop (n8 S.bJ))
def uw:LK→List LK→Type
 | k,[]=>k.Ty
 | k,k'::ks=>k.Ty × uw k' ks
def ko:List LK→Type
 | []=>Unit
 | k::ks=>uw k ks
def ux:(k:LK)→(ks:List LK)→uw k ks→List V
 | k,[],x=>[k.enc x]
 | k,k'::ks,x=>k.enc x.1::ux k' ks x.2
def kO:(ks:List LK)→ko ks→List V
 | [],_=>[]
 | k::ks,x=>ux k ks x
def As:(k:LK)→(ks:List LK)→List V→uw k ks
 | k,[],l=>k.dec (V.nth l 0)
 | k,k'::ks,l=>(k.dec (V.nth l 0),As k' ks l.tail)
def oA:(ks:List LK)→List V→ko ks
 | [],_=>()
 | k::ks,l=>As k ks l
theorem Tx: ∀(k:LK) (ks:List LK) (x:uw k ks) (r:List V),As k ks (ux k ks x++r)=x
 | k,[],x,r=>LK.Tq k x
 | k,k'::ks,x,r=>by
  show (k.dec (k.enc x.1),As k' ks (ux k' ks x.2++r))=x
  rw[LK.Tq,Tx k' ks]
  rfl
def wQ:List LK→Type 1→Type 1
 | [],R=>R
 | k::ks,R=>k.Ty→wQ ks R
def Tz:(k:LK)→(ks:List LK)→{R:Type 1}→wQ (k::ks) R→uw k ks→R
 | _,[],_,f,x=>f x
 | _,k'::ks,_,f,x=>Tz k' ks (f x.1) x.2
def uy:(ks:List LK)→{R:Type 1}→wQ ks R→ko ks→R
 | [],_,f,_=>f
 | k::ks,_,f,x=>Tz k ks f x
def wR {α:Type} (b:Bool):List Bool→List α→List α
 | [],_=>[]
 | _,[]=>[]
 | c::m,x::l=>bif c==b then x::wR b m l else wR b m l
def merge:List Bool→List V→List V→List V
 | [],_,_=>[]
 | true::m,i,x=>V.nth x 0::merge m i x.tail
 | false::m,i,x=>V.nth i 0::merge m i.tail x
def wS:List Nat→List LK→List LK
 | [],_=>[]
 | _,[]=>[]
 | 0::t,k::ks=>k::wS t ks
 | (_+1)::t,_::ks=>wS t ks
abbrev fP:=List Nat × List LK
def fP.fresh (w:fP):List LK:=wS w.1 w.2
def put:List Nat→List V→List V→List V
 | [],_,_=>[]
 | 0::t,ds,x=>V.nth x 0::put t ds x.tail
 | (j+1)::t,ds,x=>V.nth ds j::put t ds x
def uz:List Nat→List V→List V
 | [],_=>[]
 | 0::t,l=>V.nth l 0::uz t l.tail
 | (_+1)::t,l=>uz t l.tail
def sM:fP→List fP→Type
 | w,[]=>ko w.fresh
 | w,w'::ws=>ko w.fresh ⊕ sM w' ws
def qM:List fP→Type
 | []=>Empty
 | w::ws=>sM w ws
def wN (ds:List V) {β:Type} (k:Nat→List V→Option β):Nat→(w:fP)→(ws:List fP)→sM w ws→Option β
 | j,w,[],r=>k j (put w.1 ds (kO w.fresh r))
 | j,w,w'::ws,r=>cI (fun x=>k j (put w.1 ds (kO w.fresh x))) (fun y=>wN ds k (j+1) w' ws y) r
def wT (ds:List V) {β:Type} (k:Nat→List V→Option β):(ws:List fP)→qM ws→Option β
 | [],r=>Empty.elim r
 | w::ws,r=>wN ds k 0 w ws r
def oB (ds:List V):Nat→(w:fP)→(ws:List fP)→sM w ws→Nat × List V
 | j,w,[],r=>(j,put w.1 ds (kO w.fresh r))
 | j,w,_::_,.inl x=>(j,put w.1 ds (kO w.fresh x))
 | j,_,w'::ws,.inr y=>oB ds (j+1) w' ws y
def wU (ds:List V):(ws:List fP)→qM ws→Nat × List V
 | [],r=>Empty.elim r
 | w::ws,r=>oB ds 0 w ws r
theorem TA (ds:List V) {β:Type} (k:Nat→List V→Option β): ∀(j:Nat) (w:fP) (ws:List fP) (r:sM w ws),wN ds k j w ws r=k (oB ds j w ws r).1 (oB ds j w ws r).2
 | _,_,[],_=>rfl
 | _,_,_::_,.inl _=>rfl
 | j,_,w'::ws,.inr y=>TA ds k (j+1) w' ws y
theorem F3 (ds:List V) {β:Type} (k:Nat→List V→Option β): ∀(ws:List fP) (r:qM ws),wT ds k ws r=k (wU ds ws r).1 (wU ds ws r).2
 | [],r=>Empty.elim r
 | w::ws,r=>TA ds k 0 w ws r
def wV:Nat→(w:fP)→(ws:List fP)→List V→sM w ws
 | _,w,[],l=>oA w.fresh (uz w.1 l)
 | 0,w,_::_,l=> .inl (oA w.fresh (uz w.1 l))
 | j+1,_,w'::ws,l=> .inr (wV j w' ws l)
def TB (j:Nat):(ws:List fP)→List V→Option (qM ws)
 | [],_=>none
 | w::ws,l=>some (wV j w ws l)
def wW:List Nat→List V→List V
 | [],_=>[]
 | 0::t,x=>V.nth x 0::wW t x.tail
 | (_+1)::t,x=>wW t x
theorem Ky: ∀(t:List Nat) (ds x:List V),uz t (put t ds x)=wW t x
 | [],_,_=>rfl
 | 0::t,ds,x=>congrArg (V.nth x 0:: ·) (Ky t ds x.tail)
 | (_+1)::t,ds,x=>Ky t ds x
theorem Kz: ∀(t:List Nat) (ks:List LK) (k:LK) (pt:List LK),wS t ks=k::pt→∀x:uw k pt,∃r,wW t (ux k pt x)=ux k pt x++r
 | [],_,_,_,h,_=>by cases h
 | _::_,[],_,_,h,_=>by simp[wS] at h
 | 0::t,a::ks,k,pt,h,x=>by
  simp only[wS,List.cons.injEq] at h
  obtain ⟨rfl,h2⟩:=h
  cases pt with
  | nil=>exact ⟨wW t [],rfl⟩
  | cons k' pt=>
   obtain ⟨r,hr⟩:=Kz t ks k' pt h2 x.2
   exact ⟨r,congrArg (a.enc x.1:: ·) hr⟩
 | (_+1)::t,a::ks,k,pt,h,x=>Kz t ks k pt h x
theorem TC (w:fP) (ds:List V) (x:ko w.fresh):oA w.fresh (uz w.1 (put w.1 ds (kO w.fresh x)))=x:=by
 rw[Ky]
 revert x
 generalize hf:w.fresh=f
 cases f with
 | nil=>intro x;rfl
 | cons k ks=>
  intro x
  obtain ⟨r,hr⟩:=Kz w.1 w.2 k ks hf x
  show As k ks (wW w.1 (ux k ks x))=x
  rw[hr]
  exact Tx k ks x r
theorem TD (ds:List V): ∀(j:Nat) (w:fP) (ws:List fP) (r:sM w ws),j≤(oB ds j w ws r).1
 | _,_,[],_=>Nat.le_refl _
 | _,_,_::_,.inl _=>Nat.le_refl _
 | j,_,w'::ws,.inr y=>Nat.le_trans (Nat.le_succ j) (TD ds (j+1) w' ws y)
theorem ac6 (w:fP) (l:List V): ∀j,wV j w [] l=oA w.fresh (uz w.1 l)
 | 0=>rfl
 | _+1=>rfl
theorem TE (ds:List V): ∀(j:Nat) (w:fP) (ws:List fP) (r:sM w ws),wV ((oB ds j w ws r).1-j) w ws (oB ds j w ws r).2=r
 | j,w,[],r=>(ac6 w _ _).trans (TC w ds r)
 | j,w,w'::ws,.inl x=>by
  show wV (j-j) w (w'::ws) (put w.1 ds (kO w.fresh x))= .inl x
  rw[Nat.sub_self]
  exact congrArg Sum.inl (TC w ds x)
 | j,w,w'::ws,.inr y=>by
  have h1:=TD ds (j+1) w' ws y
  have h2:=TE ds (j+1) w' ws y
  show wV ((oB ds (j+1) w' ws y).1-j) w (w'::ws) (oB ds (j+1) w' ws y).2= .inr y
  obtain ⟨d,hd⟩: ∃d,(oB ds (j+1) w' ws y).1=j+1+d:=⟨(oB ds (j+1) w' ws y).1-(j+1),by omega⟩
  rw[hd] at h2⊢
  rw[show j+1+d-(j+1)=d by omega] at h2
  rw[show j+1+d-j=d+1 by omega]
  exact congrArg Sum.inr h2
theorem ac7 (ds:List V): ∀(ws:List fP) (r:qM ws),TB (wU ds ws r).1 ws (wU ds ws r).2=some r
 | [],r=>Empty.elim r
 | w::ws,r=>congrArg some (TE ds 0 w ws r)
section
variable {P:Program} {A:cM} {C:ae} {L:b6} {f n m:Nat}
theorem ac8 {c:Code} {S:Shape × List (Out × Shape)} (hS:A.gG f (keyOf c+1)=some S) (hL:ic P A C L f n m c) {I X R:Type} (enc:I→X→List V) (mK:I→R→Nat × List V)
  (pw:List V→I) (qO:List V→X) (F4:Nat × List V→Option R) (body:I→X→(β:Type)→(X→Option β)→(R→Option β)→Option β)
  (uv: ∀ds,bm S.1 (enc (pw ds) (qO ds))=bm S.1 ds) (KA: ∀i x,qO (enc i x)=x) (hdr: ∀i r,F4 (mK i r)=some r)
  (e1: ∀i x (β:Type) (k:(List V ⊕ (Nat × List V))→Option β),ib P A C L f n m c (bm S.1 (enc i x)) (fun o st=>(kE m S.1 S.2 (some (o,st))).bind k)=
   body i x β (fun y=>k (.inl (enc i y))) (fun r=>k (.inr (mK i r))))
  (hl: ∀(β:Type) ds (k:Nat→List V→Option β),L β (keyOf c+1) ds k=(Loop (fun x=>body (pw ds) x (X ⊕ R) (fun y=>some (.inl y)) (fun r=>some (.inr r))) (qO ds)).bind fun r=>k (mK (pw ds) r).1 (mK (pw ds) r).2):
  bZ P A C L f n m (.loop c):=by
 simp only[bZ,hS]
 intro β ds k
 rw[hl]
 have hex: ∀(z:Option (Out × St)),kE m S.1 S.2 z=z.bind fun r=>kE m S.1 S.2 (some (r.1,r.2)):=by
  intro z;cases z<;>rfl
 have hs: ∀i x,stepG P A C f n m S c (enc i x)=(body i x (X ⊕ R) (fun y=>some (.inl y)) (fun r=>some (.inr r))).map fun| .inl y=> .inl (enc i y)| .inr r=> .inr (mK i r):=by
  intro i x
  have k1:=e1 i x _ (fun z=>some z)
  have k2:=e1 i x (X ⊕ R) (fun| .inl ds=>some (.inl (qO ds))| .inr e=>(F4 e).map .inr)
  have k3:=e1 i x (List V ⊕ (Nat × List V)) (fun| .inl ds=>some (.inl (enc i (qO ds)))| .inr e=>(F4 e).map fun r=> .inr (mK i r))
  simp only[KA,hdr,Option.map_some] at k2 k3
  unfold stepG
  rw[hex]
  rw[Ez P A C f n m c hL] at k1 k2 k3
  rw[←k2]
  refine Eq.trans ?_ (k1.trans (k3.symm.trans ?_))
  ·congr 1
   funext r
   cases kE m S.1 S.2 (some (r.1,r.2))<;>rfl
  ·cases exec P A C f n m c (bm S.1 (enc i x)) with
   | none=>rfl
   | some r=>
    simp only[Option.bind_some]
    cases kE m S.1 S.2 (some (r.1,r.2)) with
    | none=>rfl
    | some z=>
     cases z with
     | inl _=>rfl
     | inr e=>simp only[Option.bind_some];cases F4 e<;>rfl
 have h0:stepG P A C f n m S c ds=stepG P A C f n m S c (enc (pw ds) (qO ds)):=by
  unfold stepG
  rw[uv]
 have:Loop (stepG P A C f n m S c) ds=(Loop (fun x=>body (pw ds) x (X ⊕ R) (fun y=>some (.inl y)) (fun r=>some (.inr r))) (qO ds)).map (mK (pw ds)):=by
  rw[Ec,h0,←Ec]
  exact aae (enc (pw ds)) (mK (pw ds)) (fun x=>hs _ _) (qO ds)
 rw[this]
 cases Loop (fun x=>body (pw ds) x (X ⊕ R) (fun y=>some (.inl y)) (fun r=>some (.inr r))) (qO ds)<;>rfl
abbrev Au (S:Shape) (mk:List Bool):List LK:=wR false mk S.ks
abbrev uA (S:Shape) (mk:List Bool):List LK:=wR true mk S.ks
def qQ (ts:List (List Nat)) (W:List (Out × Shape)):List fP:=
 match ts,W with
 | t::ts,w::W=>(t,w.2.ks)::qQ ts W
 | _,_=>[]
abbrev Av (S:Shape) (mk:List Bool) (i:ko (Au S mk)) (x:ko (uA S mk)):List V:=merge mk (kO _ i) (kO _ x)
abbrev KB (S:Shape) (mk:List Bool) (i:ko (Au S mk)):List V:=merge mk (kO _ i) []
abbrev F5 (S:Shape) (mk:List Bool) (ds:List V):ko (Au S mk):=oA _ (wR false mk (S.norm ds))
abbrev F6 (S:Shape) (mk:List Bool) (ds:List V):ko (uA S mk):=oA _ (wR true mk (S.norm ds))
abbrev TF (X R:Type):Type 1:=(β:Type)→(X→Option β)→(R→Option β)→Option β
abbrev KC (S:Shape × List (Out × Shape)) (mk:List Bool) (ts:List (List Nat)):Type 1:=wQ (Au S.1 mk) (wQ (uA S.1 mk) (TF (ko (uA S.1 mk)) (qM (qQ ts S.2))))
abbrev KD (S:Shape × List (Out × Shape)) (mk:List Bool) (ts:List (List Nat)) (b:KC S mk ts) (i:ko (Au S.1 mk)) (x:ko (uA S.1 mk)):TF (ko (uA S.1 mk)) (qM (qQ ts S.2)):=uy _ (uy _ b i) x
noncomputable def bd (S:Shape × List (Out × Shape)) (mk:List Bool) (ts:List (List Nat)) (b:KC S mk ts) {β:Type} (ds:List V) (k:Nat→List V→Option β):Option β:=
 (Loop (fun x=>KD S mk ts b (F5 S.1 mk ds) x (ko (uA S.1 mk) ⊕ qM (qQ ts S.2)) (fun y=>some (.inl y)) (fun r=>some (.inr r))) (F6 S.1 mk ds)).bind (wT (KB S.1 mk (F5 S.1 mk ds)) k (qQ ts S.2))
theorem bh {c:Code} (S:Shape × List (Out × Shape)) (mk:List Bool) (ts:List (List Nat)) (b:KC S mk ts) (hS:A.gG f (keyOf c+1)=some S) (hL:ic P A C L f n m c)
  (uv: ∀ds,bm S.1 (Av S.1 mk (F5 S.1 mk ds) (F6 S.1 mk ds))=bm S.1 ds) (KA: ∀i x,F6 S.1 mk (Av S.1 mk i x)=x)
  (e1: ∀i x (β:Type) (k:(List V ⊕ (Nat × List V))→Option β),ib P A C L f n m c (bm S.1 (Av S.1 mk i x)) (fun o st=>(kE m S.1 S.2 (some (o,st))).bind k)=
   KD S mk ts b i x β (fun y=>k (.inl (Av S.1 mk i y))) (wT (KB S.1 mk i) (fun j l=>k (.inr (j,l))) (qQ ts S.2)))
  (hl: ∀(β:Type) ds (k:Nat→List V→Option β),L β (keyOf c+1) ds k=bd S mk ts b ds k):
  bZ P A C L f n m (.loop c):=
 ac8 hS hL (Av S.1 mk) (fun i r=>wU (KB S.1 mk i) _ r) (F5 S.1 mk) (F6 S.1 mk) (fun e=>TB e.1 _ e.2) (KD S mk ts b) uv KA (fun i r=>ac7 _ _ r)
  (fun i x β k=>by
   rw[e1]
   congr 1
   funext r
   exact F3 _ _ _ r)
  (fun β ds k=>by
   rw[hl]
   unfold bd
   congr 1
   funext r
   exact F3 _ _ _ r)
abbrev TG (S:Shape × List (Out × Shape)) (ts:List (List Nat)):Type 1:=wQ S.1.ks ((β:Type)→(qM (qQ ts S.2)→Option β)→Option β)
noncomputable def iq (S:Shape × List (Out × Shape)) (ts:List (List Nat)) (b:TG S ts) {β:Type} (ds:List V) (k:Nat→List V→Option β):Option β:=
 uy S.1.ks b (oA _ (S.1.norm ds)) β (wT (kO S.1.ks (oA _ (S.1.norm ds))) k (qQ ts S.2))
theorem iT {t:Nat} {x y:Code} (S:Shape × List (Out × Shape)) (ts:List (List Nat)) (b:TG S ts) (hS:A.gG f (t*16+15)=some S) (hx:ic P A C L f n m x) (hy:ic P A C L f n m y)
  (uv: ∀ds,bm S.1 (kO S.1.ks (oA _ (S.1.norm ds)))=bm S.1 ds)
  (e1: ∀i (β:Type) (k:Nat→List V→Option β),Ku P A C L f n m t S x y (kO S.1.ks i) k=uy S.1.ks b i β (wT (kO S.1.ks i) k (qQ ts S.2)))
  (hl: ∀(β:Type) ds (k:Nat→List V→Option β),L β (t*16+15) ds k=iq S ts b ds k):
  bZ P A C L f n m (.cond t x y):=
 ac2 hS hx hy (kO S.1.ks) (fun i r=>wU (kO S.1.ks i) _ r) (fun ds=>oA _ (S.1.norm ds)) (uy S.1.ks b) uv
  (fun i β k=>by
   rw[e1]
   exact congrArg (uy S.1.ks b i β) (funext fun r=>F3 _ _ _ r))
  (fun β ds k=>by
   rw[hl]
   exact congrArg (uy S.1.ks b (oA _ (S.1.norm ds)) β) (funext fun r=>F3 _ _ _ r))
end
def dq:b6:=fun _ _ _ _=>none
end Go.AM
