/-
  Functions of the program, lifted to plain data.
-/
import Derived.Conc.MuLone
import Derived.Defers
import Derived.Carry
import Derived.OpenShut
import Derived.Deep.Slices
import Derived.Test.YtmcdbnalaobmpaaDoorP2
set_option linter.unusedVariables false
set_option linter.unusedSimpArgs false
namespace Go.AM
section
variable {P:Program} {A:cX} {w w':World} {I I' I2:Nat→Prop} {μ β aq cw:Nat→Option Nat} {hp hp' hp0 bI:Nat→Option ai} {C:ae} {B:Nat} {M:Nat→Prop} {w0:Start}
structure ma (w:World) (I:Nat→Prop) (β:Nat→Option Nat) (hp:Nat→Option ai) (w':World) (I':Nat→Prop) (aq:Nat→Option Nat) (hp':Nat→Option ai):Prop where
 dM: ∀b,I b→I' b
 cE: ∀b,I b→w'.heap[b]? =w.heap[b]?
 blk: ∀id blk,hp id=some blk→∃blk',hp' id=some blk'∧blk.le blk'∧(blk'≠ .dead→aq id=β id)
 size: ∀id blk blk' b,hp id=some blk→hp' id=some blk'→blk'≠ .dead→β id=some b→bsize w' b=bsize w b
theorem Le.GM (h:Le P w I β hp w' I' aq hp'):ma w I β hp w' I' aq hp':=⟨h.dM,h.cE,h.blk,h.size⟩
theorem ma.trans {A4:World} {A5:Nat→Prop} {A6:Nat→Option Nat} {A7:Nat→Option ai} (h1:ma w I β hp w' I' aq hp') (h2:ma w' I' aq hp' A4 A5 A6 A7):ma w I β hp A4 A5 A6 A7:=by
 refine ⟨fun b h=>h2.dM b (h1.dM b h),fun b h=>(h2.cE b (h1.dM b h)).trans (h1.cE b h),fun id blk h=> ?_,fun id blk vw b h tX hd hb=> ?_⟩
 ·obtain ⟨blk',e',l',b'⟩:=h1.blk id blk h
  obtain ⟨vw,ej,A8,KO⟩:=h2.blk id blk' e'
  refine ⟨vw,ej,ai.le_trans l' A8,fun hd=> ?_⟩
  have fp:blk'≠ .dead:=fun e=>hd (ai.qL (e▸A8))
  exact (KO hd).trans (b' fp)
 ·obtain ⟨blk',e',l',b'⟩:=h1.blk id blk h
  obtain ⟨iH,e3,l3,b3⟩:=h2.blk id blk' e'
  obtain rfl:iH=vw:=by rw[e3] at tX;exact dr tX
  have fp:blk'≠ .dead:=fun e=>hd (ai.qL (e▸l3))
  rw[h2.size id blk' iH b e' e3 hd ((b' fp).trans hb),h1.size id blk blk' b h e' fp hb]
def pY (P:Program) (w:World) (μ:Nat→Option Nat) (hp0:Nat→Option ai) (b:Nat):Prop:= ∃j blk,hp0 j=some blk∧bK P w (μ j) blk b
structure adt (P:Program) (A:cX) (key:Nat) (w:World) (I:Nat→Prop) (μ:Nat→Option Nat) (ds es:List V) (w':World) (v:Value) (I2:Nat→Prop) (cw:Nat→Option Nat):Prop where
 yx:aH P w' I2 cw (bE (A.so key es) (A.lv key es)).hp w.heap.size (pY P w μ (bE (A.sin key) ds).hp) ⟨w,I⟩
 le:ma w I μ (bE (A.sin key) ds).hp w' I2 cw (bE (A.so key es) (A.lv key es)).hp
 res:aj P w' I2 cw (bE (A.so key es) (A.lv key es)).hp v (qJ (fW (A.so key es).bX (A.lv key es)))
def mb (P:Program) (A:cX) (C:ae):Prop:=
 ∀key ds es,C key ds=some es→∃fn c,P.funcs[A.bc key]? =some fn∧fn.body=some c∧
  ∀(w:World) (I:Nat→Prop) (μ:Nat→Option Nat) (vals:List Value),
   vu P w I μ (bE (A.sin key) ds).hp w.heap.size (pY P w μ (bE (A.sin key) ds).hp)→iI P A.aF w I→
   vals.length=(A.sin key).bX.length→(∀(j:Nat) v x,vals[j]? =some v→(gl ((A.sin key).bX.map (·.2)) ds)[j]? =some x→aj P w I μ (bE (A.sin key) ds).hp v x)→
   Calls P (A.bc key) vals.toArray w fun e w'=> ∃v I2 cw,e= .returned v∧adt P A key w I μ ds es w' v I2 cw
theorem eN.vX {p:Place} {o:Option Nat} {blk:ai} {b:Nat} (h:eN P w β hp p o blk) (ho:bK P w o blk b):
  ∃sx,hp p.id=some sx∧bK P w (β p.id) sx b∧∀e es,sx≠ .arr e es true:=by
 cases h with
 | var h=>exact ⟨_,h,.root (by simp) (ho.flat (by simp)),by simp⟩
 | arr h=>exact ⟨_,h,.root (by simp) (ho.flat (by simp)),by simp⟩
 | map h=>exact ⟨_,h,.root (by simp) (ho.flat (by simp)),by simp⟩
 | nest h=>
  refine ⟨_,h,?_,by simp⟩
  cases ho with
  | root _ hb=>exact .root (by simp) hb
  | row hb ha=>exact .row hb ha
 | row h hb ha _ _ _ _ _=>
  have:=ho.flat (by simp)
  cases this
  exact ⟨_,h,.row hb ha,by simp⟩
theorem aH.adu (S:aH P w I β hp B M w0) {id b:Nat} {blk:ai} (ab:hp id=some blk) (ho:bK P w (β id) blk b) (hf: ∀e es,blk≠ .arr e es true): ¬I b:=by
 have hr:=S.h.rel id blk ab
 generalize β id=o at hr ho
 cases hr with
 | var hb _ _ hI _ _=>have:=ho.flat (by simp);rw[hb] at this;cases this;exact hI
 | eu hb=>have:=ho.flat (by simp);rw[hb] at this;cases this
 | @arr e es fz _ _ _ hb _ _ _ eU _=>
  have:=ho.flat (by simp)
  rw[hb] at this;cases this
  cases fz with
  | true=>exact absurd rfl (hf e es)
  | false=>exact eU rfl
 | dead=>exact absurd rfl ho.alive
 | map _ hb _ _ hI _ _=>have:=ho.flat (by simp);rw[hb] at this;cases this;exact hI
 | nest hb hr _=>
  cases ho with
  | root _ az=>rw[hb] at az;cases az;exact (hr _ _ _ _ .here).nI
  | row az ha=>rw[hb] at az;cases az;exact (hr _ _ _ _ ha).nI
theorem GN {a b:List Nat} (h:xI a b=false) {x:Nat} (ha:x∈a):x∉b:=by
 intro hb
 unfold xI at h
 rw[List.any_eq_false] at h
 exact h x ha (ye hb)
theorem adv (S:aH P w I β hp B M w0) {pl:List Place} {upd:List (Nat × ai)} {o:Nat→Option Nat} (ly:(pl.map Place.id).Nodup) (pZ:xI (upd.map (·.1)) (pl.map Place.id)=false)
  (hl: ∀j blk,hp0 j=some blk→∃p,eS pl j=some p∧eN P w β hp p (o j) blk)
  (cY:(∀j blk,hp0 j=some blk→∀b,bK P w (o j) blk b→¬jF P w I β hp upd b)→∀j blk,hp0 j=some blk→eM P w (jF P w I β hp upd) o hp0 (o j) blk) (a9: ∀b,jF P w I β hp upd b→b<w.heap.size):
  vu P w (jF P w I β hp upd) o hp0 w.heap.size (pY P w o hp0):=by
 have dj: ∀j blk,hp0 j=some blk→∀b,bK P w (o j) blk b→¬jF P w I β hp upd b:=by
  intro j blk hj b ho hI
  obtain ⟨p,bI,iJ⟩:=hl j blk hj
  obtain ⟨sx,k1,k2,k3⟩:=iJ.vX ho
  rcases hI with hI|⟨q,hq,cv,q1,q2⟩
  ·exact S.adu k1 k2 k3 hI
  ·have:=S.h.inj _ _ _ _ b q1 k1 q2 k2
   refine GN pZ (fL.2 ⟨q,hq,rfl⟩) ?_
   rw[this]
   rw[mJ] at bI
   exact fL.2 ⟨p,jU bI,rfl⟩
 refine ⟨cY dj,fun j1 j2 b1 b2 b h1 h2 o1 o2=> ?_,fun j blk b h1 o1=> .inl ⟨j,blk,h1,o1⟩,a9⟩
 obtain ⟨p1,q1,q2⟩:=hl j1 b1 h1
 obtain ⟨p2,r1,r2⟩:=hl j2 b2 h2
 obtain ⟨c1,x1,x2,_⟩:=q2.vX o1
 obtain ⟨c2,y1,y2,_⟩:=r2.vX o2
 have ab:=S.h.inj _ _ _ _ b x1 y1 x2 y2
 rw[mJ] at q1 r1
 have m1:(pl.map Place.id)[j1]? =some p1.id:=by rw[eZ,q1];rfl
 have m2:(pl.map Place.id)[j2]? =some p2.id:=by rw[eZ,r1];rfl
 rw[←ab] at m2
 obtain ⟨z1,z2⟩:=bH.1 m1
 obtain ⟨z3,z4⟩:=bH.1 m2
 exact (List.getElem_inj ly).1 (z2.trans z4.symm)
def SO:V→Prop
 | .list .. =>False
 | .pref .. =>False
 | .agg _=>False
 | .bx _=>False
 | .fn .. =>False
 | _=>True
theorem aj.free {v:Value} {x:V} (h:aj P w I β hp v x) (hx:SO x):aj P w I' β hp v x:=by
 cases h with
 | undef=>exact .undef
 | int=>exact .int
 | bool=>exact .bool
 | str h=>exact .str h
 | list h=>exact hx.elim
 | nilS=>exact .nilS
 | agg=>exact hx.elim
 | bx=>exact hx.elim
 | dR=>exact .dR
 | fn=>exact hx.elim
 | pref=>exact hx.elim
 | eT h=>exact .eT h
 | gY h=>exact .gY h
 | ll h=>exact .ll h
 | ep h hb=>exact .ep h hb
 | whole h hb a b c=>exact .whole h hb a b c
 | e7 h hb a b c=>exact .e7 h hb a b c
 | gG h hb=>exact .gG h hb
 | sub h hb a b c=>exact .sub h hb a b c
 | ptr h hd hb=>exact .ptr h hd hb
 | kB h sq=>exact .kB h sq
 | kC h sq=>exact .kC h sq
 | row h hb a b c d=>exact .row h hb a b c d
 | cW h hb a b c d e=>exact .cW h hb a b c d e
 | dS=>exact .dS
 | jk h=>exact .jk h
 | cm h hb=>exact .cm h hb
theorem BG {l:LS} {ds:List V} (hs:l.safe=true):SO (jB l ds):=by
 cases l<;>simp only[LS.safe] at hs<;>first|(cases hs;done)|trivial
theorem BH: ∀{ls:List LS} {ds:List V} {j:Nat} {y:V},(jc ls ds)[j]? =some y→∃l ga,l∈ls∧y=jB l ga
 | [],ds,j,y,h=>by simp[jc] at h
 | l::ls,ds,j,y,h=>by
  simp only[jc] at h
  cases j with
  | zero=>simp at h;exact ⟨l,ds,tH ..,h.symm⟩
  | succ j=>
   obtain ⟨l',ga,h1,h2⟩:=BH (j:=j) (by simpa using h)
   exact ⟨l',ga,nk _ h1,h2⟩
theorem SP: ∀{ls:List VS} {ds:List V} {j:Nat} {y:V},(gl ls ds)[j]? =some y→∃l ga,l∈ls∧y=lS l ga
 | [],ds,j,y,h=>by simp[gl] at h
 | l::ls,ds,j,y,h=>by
  simp only[gl] at h
  cases j with
  | zero=>simp at h;exact ⟨l,ds,tH ..,h.symm⟩
  | succ j=>
   obtain ⟨l',ga,h1,h2⟩:=SP (j:=j) (by simpa using h)
   exact ⟨l',ga,nk _ h1,h2⟩
theorem SQ {s:VS} {ds:List V} {v:Value} (h:aj P w I β hp v (lS s ds)) (hs:s.safe=true):aj P w I' β hp v (lS s ds):=by
 cases s with
 | one l=>exact h.free (BG hs)
 | agg ls=>
  simp only[lS] at h⊢
  obtain ⟨cs,rfl,e1,e2⟩:=h.lW
  refine .agg e1 fun j v x hj hx=> ?_
  obtain ⟨l,ga,k1,rfl⟩:=BH hx
  exact (e2 j v _ hj hx).free (BG (gi.1 hs l k1))
 | bx ls=>
  simp only[lS] at h⊢
  obtain ⟨cs,rfl,e1,e2⟩:=h.vE
  refine .bx e1 fun j v x hj hx=> ?_
  obtain ⟨l,ga,k1,rfl⟩:=BH hx
  exact (e2 j v _ hj hx).free (BG (gi.1 hs l k1))
 | fn f a b=>
  simp only[VS.safe,aM] at hs
  simp only[lS] at h⊢
  cases h with
  | fn a1 a2 b1 b2=>
   refine .fn a1 (fun j v x hj hx=> ?_) b1 (fun j v x hj hx=> ?_)
   ·obtain ⟨l,ga,k1,rfl⟩:=BH hx
    exact (a2 j v _ hj hx).free (BG (gi.1 hs.1 l k1))
   ·obtain ⟨l,ga,k1,rfl⟩:=BH hx
    exact (b2 j v _ hj hx).free (BG (gi.1 hs.2 l k1))
 | pref ts ls=>cases hs
theorem Pure.scalar {t:TypeId} {v:Value} {x:V} (h:Pure P w I t v x) (hn: ∀e,P.underlying t≠some (.slice e)):Pure P w I' t v x:=by
 cases h with
 | int h=>exact .int h
 | bool h=>exact .bool h
 | str h hl=>exact .str h hl
 | nil h=>exact absurd h (hn _)
 | emp h=>exact absurd h (hn _)
 | list g h=>exact absurd h (hn _)
theorem adw {e t:TypeId} {j:Nat} (h:AO P e=true) (ht:(bd P e)[j]? =some t) (e':TypeId):P.underlying t≠some (.slice e'):=by
 intro hu
 have h2:=gi.1 h t (jU ht)
 rw[hu] at h2
 cases h2
theorem adx {o:Option Nat} {b:BS} {ds:List V} (h:eM P w I2 β hp o (gC b ds)) (hs:b.safe P=true) (hi: ∀b,I b→I2 b):eM P w I β hp o (gC b ds):=by
 cases b with
 | dead=>exact .dead
 | var T0 ls=>
  simp only[gC] at h⊢
  cases h with
  | var hb hh bn hI hx g9=>
   refine .var hb hh bn (fun h=>hI (hi _ h)) (fun j v x hj cR=> ?_) g9
   obtain ⟨l,ga,k1,rfl⟩:=SP cR
   exact SQ (hx j v _ hj cR) (gi.1 hs l k1)
 | arr e fz=>
  simp only[BS.safe,aM,ot] at hs
  obtain ⟨rfl,BF⟩:=hs
  simp only[gC] at h⊢
  generalize (V.nth ds 0).toList=es at h⊢
  cases h with
  | eu hb=>exact .eu hb
  | arr a1 a2 a3 a4 a5 a6 a7=>
   refine .arr a1 a2 a3 a4 (fun h=>by cases h) (fun _ h=>a6 rfl (hi _ h)) fun i j x t' y1 y2 y3=> ?_
   obtain ⟨v,z1,z2⟩:=a7 i j x t' y1 y2 y3
   exact ⟨v,z1,z2.scalar (adw BF y2)⟩
 | nest e=>
  simp only[gC] at h⊢
  generalize (V.nth ds 0).toList=es at h⊢
  cases h with
  | nest hb cK pR=>
   refine .nest hb (fun q b' e1 m1 hq=> ?_) pR
   obtain ⟨ok,⟨Ca,c1,c2,c3⟩,nI⟩:=cK q b' e1 m1 hq
   refine ⟨ok,⟨Ca,c1,c2,fun i j x t' y1 y2 y3=> ?_⟩,fun h=>nI (hi _ h)⟩
   obtain ⟨v,z1,z2⟩:=c3 i j x t' y1 y2 y3
   refine ⟨v,z1,?_⟩
   generalize b7 P e1 x j=y at z2⊢
   cases z2 with
   | gF a p=>
    refine .gF a (p.scalar fun e hu=> ?_)
    unfold gB at a
    rw[hu] at a
    cases a
   | emp a b=>exact .emp a b
   | row a b c d e=>exact .row a b c d e
 | map t=>
  simp only[gC] at h⊢
  cases h with
  | map a1 a2 a3 a4 a5 a6 a7=>exact .map a1 a2 a3 a4 (fun h=>a5 (hi _ h)) a6 a7
theorem LZ: ∀{l:List BS} {ds:List V} {j:Nat} {y:ai},(fo l ds)[j]? =some y→∃b ga,l[j]? =some b∧y=gC b ga
 | [],ds,j,y,h=>by simp[fo] at h
 | b::l,ds,j,y,h=>by
  simp only[fo] at h
  cases j with
  | zero=>simp at h;exact ⟨b,ds,rfl,h.symm⟩
  | succ j=>
   obtain ⟨b',ga,h1,h2⟩:=LZ (j:=j) (by simpa using h)
   exact ⟨b',ga,by simpa using h1,h2⟩
theorem SR: ∀{l:List (Nat × VS)} {ds:List V} {q:Nat × V},q∈fW l ds→∃s ga,(q.1,s)∈l∧q.2=lS s ga
 | [],ds,q,h=>by simp[fW] at h
 | (k,s)::l,ds,q,h=>by
  simp only[fW,gz] at h
  rcases h with h|h
  ·subst h;exact ⟨s,ds,tH ..,rfl⟩
  ·obtain ⟨s',ga,h1,h2⟩:=SR h
   exact ⟨s',ga,nk _ h1,h2⟩
theorem ady {S:Shape} {es:List V} (hs:S.safe P=true) (hi: ∀b,I b→I2 b) {N:Nat→Prop} {st:Start} (h:aH P w' I2 cw (bE S es).hp B N st) (h0: ∀b,I b→st.I b):
  aH P w' I cw (bE S es).hp B N st∧∀v,aj P w' I2 cw (bE S es).hp v (qJ (fW S.bX es))→aj P w' I cw (bE S es).hp v (qJ (fW S.bX es)):=by
 unfold Shape.safe at hs
 simp only[aM] at hs
 obtain ⟨kF,iO⟩:=hs
 have one: ∀q∈fW S.bX es,∀v,aj P w' I2 cw (bE S es).hp v q.2→aj P w' I cw (bE S es).hp v q.2:=by
  intro q hq v hv
  obtain ⟨s,ga,k1,k2⟩:=SR hq
  rw[k2] at hv⊢
  exact SQ hv (gi.1 kF _ k1)
 refine ⟨⟨⟨fun j blk hj=> ?_,h.h.inj,h.h.own,fun b hb=>h.h.kD b (hi b hb)⟩,h.cE,h.size,fun b hb=> .inl (h0 b hb),h.io⟩,fun v hv=> ?_⟩
 ·have hr:=h.h.rel j blk hj
  have il:=hj
  simp only[bE,mk,iP] at il
  obtain ⟨b,ga,k1,rfl⟩:=LZ il
  exact adx hr (gi.1 iO _ (jU k1)) hi
 ·generalize fW S.bX es=l at one hv⊢
  match l,one,hv with
  | [],_,hv=>
   simp only[qJ,List.map_nil] at hv⊢
   obtain ⟨cs,rfl,e1,e2⟩:=hv.vE
   exact .bx e1 fun j v x _ hx=>by simp at hx
  | [q],one,hv=>exact one q (gX.2 rfl) v hv
  | q::q2::l,one,hv=>
   simp only[qJ] at hv⊢
   obtain ⟨cs,rfl,e1,e2⟩:=hv.vE
   refine .bx e1 fun j v x hj hx=> ?_
   obtain ⟨y,hy,rfl⟩:=fL.1 (jU hx)
   exact one y hy v (e2 j v _ hj hx)
end
section
variable {P:Program} {A:cX} {w w':World} {I I' I2:Nat→Prop} {μ β aq cw:Nat→Option Nat} {hp hp' hp0 bI:Nat→Option ai} {C:ae} {B:Nat} {M:Nat→Prop} {w0:Start}
inductive hZ (σ:List Place):ai→ai→Prop
 | dead:hZ σ .dead .dead
 | var {T:TypeId} {cs:List V}:hZ σ (.var T cs) (.var T (cs.map (FO σ)))
 | arr {e:TypeId} {es:List V} {fz:Bool}:hZ σ (.arr e es fz) (.arr e es fz)
 | nest {e:TypeId} {es:List V} {v1 v2:List Nat}:hZ σ (.nest e es v1) (.nest e es v2)
 | map {t:TypeId} {es:List V}:hZ σ (.map t es) (.map t es)
theorem hZ.of (σ:List Place) (b:ai):hZ σ b (vl σ b):=by
 cases b with
 | dead=>exact .dead
 | var T cs=>exact .var
 | arr e es fz=>exact .arr
 | nest e es v=>exact .nest
 | map t es=>exact .map
theorem SS {σ:List Place}: ∀{pl:List Place} {bs:List ai} {acc:List (Nat × ai)} {k:List (Nat × ai)→Rd R} {r:R} {rd:List Nat},(rT σ pl bs acc k).run C hp=some (r,rd)→
  pl.length≤bs.length∧∃bk fF,(k bk).run C hp=some (r,fF)∧(∀q∈bk,q∈acc∨∃(j:Nat) (b:ai),pl[j]? =some (.blk q.1)∧bs[j]? =some b∧hZ σ b q.2∧((∃e es v2,q.2= .nest e es v2)→∃e es ak e' aQ,hp q.1=some (.nest e es ak)∧q.2= .nest e' aQ (ak.map (· +1))))∧
   (∀q∈acc,q∈bk)∧∀(j:Nat) p,pl[j]? =some p→∃id b,p= .blk id∧(id,b)∈bk
 | [],bs,acc,k,r,rd,h=>⟨ku _,acc,rd,by simpa only[rT] using h,fun q hq=> .inl hq,fun q hq=>hq,fun j p hp=>by simp at hp⟩
 | .row _ _ _::pl,bs,acc,k,r,rd,h=>by
  cases bs<;>(simp only[rT] at h;cases h)
 | .blk id::pl,[],acc,k,r,rd,h=>by simp only[rT] at h;cases h
 | .blk id::pl,b::bs,acc,k,r,rd,h=>by
  have fin: ∀{b2:ai} {ka:List Nat},(rT σ pl bs ((id,b2)::acc) k).run C hp=some (r,ka)→hZ σ b b2→((∃e es v2,b2= .nest e es v2)→∃e es ak e' aQ,hp id=some (.nest e es ak)∧b2= .nest e' aQ (ak.map (· +1)))→
    (Place.blk id::pl).length≤(b::bs).length∧∃bk fF,(k bk).run C hp=some (r,fF)∧(∀q∈bk,q∈acc∨∃(j:Nat) (b':ai),(Place.blk id::pl)[j]? =some (.blk q.1)∧(b::bs)[j]? =some b'∧hZ σ b' q.2∧((∃e es v2,q.2= .nest e es v2)→∃e es ak e' aQ,hp q.1=some (.nest e es ak)∧q.2= .nest e' aQ (ak.map (· +1))))∧
     (∀q∈acc,q∈bk)∧∀(j:Nat) p,(Place.blk id::pl)[j]? =some p→∃id b,p= .blk id∧(id,b)∈bk:=by
   intro b2 ka h1 hb hn
   obtain ⟨a0,bk,fF,a1,a2,a3,a4⟩:=SS h1
   refine ⟨by simp only[List.length_cons];omega,bk,fF,a1,fun q hq=> ?_,fun q hq=>a3 q (nk _ hq),fun j p hj=> ?_⟩
   ·rcases a2 q hq with h|⟨j,b',k1,k2,k3,k4⟩
    ·rcases gz.1 h with e|h
     ·subst e;exact .inr ⟨0,b,rfl,rfl,hb,hn⟩
     ·exact .inl h
    ·exact .inr ⟨j+1,b',by simpa using k1,by simpa using k2,k3,k4⟩
   ·cases j with
    | zero=>simp at hj;subst hj;exact ⟨id,b2,rfl,a3 _ (tH ..)⟩
    | succ j=>exact a4 j p (by simpa using hj)
  cases b with
  | nest e es v=>
   simp only[rT] at h
   obtain ⟨l,h⟩:=run_get h
   cases ab:hp id with
   | none=>rw[ab] at h;cases h
   | some blk=>
    rw[ab] at h
    cases blk with
    | nest e0 KP ak=>exact fin h .nest fun _=>⟨e0,KP,ak,e,es,ab,rfl⟩
    | _=>cases h
  | dead=>exact fin h (.of σ _) fun ⟨_,_,_,h⟩=>by cases h
  | var T cs=>exact fin h (.of σ _) fun ⟨_,_,_,h⟩=>by cases h
  | arr e es fz=>exact fin h (.of σ _) fun ⟨_,_,_,h⟩=>by cases h
  | map t es=>exact fin h (.of σ _) fun ⟨_,_,_,h⟩=>by cases h
theorem SU {σ:List Place}: ∀{bs:List ai} {n:Nat} {q:Nat × ai},q∈rU σ n bs→∃i b,bs[i]? =some b∧q=(n+i,vl σ b)
 | [],n,q,h=>by simp[rU] at h
 | b::bs,n,q,h=>by
  simp only[rU,gz] at h
  rcases h with h|h
  ·exact ⟨0,b,rfl,h⟩
  ·obtain ⟨i,b',h1,h2⟩:=SU h
   exact ⟨i+1,b',by simpa using h1,by rw[h2];congr 1;omega⟩
theorem SV {σ:List Place}: ∀{bs:List ai} {n i:Nat} {b:ai},bs[i]? =some b→(n+i,vl σ b)∈rU σ n bs
 | [],n,i,b,h=>by simp at h
 | b0::bs,n,i,b,h=>by
  simp only[rU,gz]
  cases i with
  | zero=>simp at h;subst h;exact .inl rfl
  | succ i=>exact .inr (by rw[show n+(i+1)=n+1+i by omega];exact SV (by simpa using h))
theorem GO: ∀{k n i:Nat},i<k→(tU n k)[i]? =some (.blk (n+i))
 | 0,n,i,h=>by omega
 | k+1,n,0,h=>rfl
 | k+1,n,i+1,h=>by
  simp only[tU,List.getElem?_cons_succ]
  rw[GO (by omega)]
  congr 2
  omega
theorem L0: ∀{k n:Nat},(tU n k).length=k
 | 0,_=>rfl
 | k+1,n=>by simp[tU,L0]
theorem SW: ∀{bs:List (Nat × ai)} {k:Rd R} {r:R} {rd:List Nat},(FP bs k).run C hp=some (r,rd)→(∀q∈bs,hp q.1=none)∧∃fF,k.run C hp=some (r,fF)
 | [],k,r,rd,h=>⟨by simp,rd,h⟩
 | (id,b)::l,k,r,rd,h=>by
  simp only[FP] at h
  obtain ⟨l1,h⟩:=run_get h
  cases ab:hp id with
  | some blk=>rw[ab] at h;cases h
  | none=>
   rw[ab] at h
   obtain ⟨h1,h2⟩:=SW h
   refine ⟨fun q hq=> ?_,h2⟩
   rcases gz.1 hq with e|hq
   ·subst e;exact ab
   ·exact h1 q hq
structure qZ (σ:List Place) (cw:Nat→Option Nat) (bI:Nat→Option ai) (aq:Nat→Option Nat) (hp':Nat→Option ai):Prop where
 blk: ∀j b,bI j=some b→∃id b',eS σ j=some (.blk id)∧hp' id=some b'∧hZ σ b b'∧(b≠ .dead→aq id=cw j)
 none: ∀j,bI j=none→eS σ j=none
 an9: ∀j id ver path,eS σ j≠some (.row id ver path)
theorem qZ.leaf {σ:List Place} (T:qZ σ cw bI aq hp') {v:Value} {x:V} (h:aj P w I cw bI v x):aj P w I aq hp' v (lh σ x):=by
 have look: ∀{j b},bI j=some b→∃id b',eS σ j=some (.blk id)∧hp' id=some b'∧hZ σ b b'∧(b≠ .dead→aq id=cw j):=fun h=>T.blk _ _ h
 cases h with
 | undef=>exact .undef
 | int=>exact .int
 | bool=>exact .bool
 | str h=>exact .str h
 | list h=>exact .list h
 | nilS=>exact .nilS
 | agg=>exact .undef
 | bx=>exact .undef
 | dR=>exact .dR
 | fn=>exact .undef
 | pref a b c=>exact .pref a b c
 | @eT _ e j h=>
  obtain ⟨id,b',k1,k2,k3,k4⟩:=look h
  simp only[lh,k1]
  cases k3
  exact .eT k2
 | @gY _ e j _ _ h=>
  obtain ⟨id,b',k1,k2,k3,k4⟩:=look h
  simp only[lh,k1]
  cases k3
  exact .gY k2
 | @ll _ j _ _ h=>
  obtain ⟨id,b',k1,k2,k3,k4⟩:=look h
  simp only[lh,k1]
  cases k3
  exact .ll k2
 | @ep e j fz _ h hb=>
  obtain ⟨id,b',k1,k2,k3,k4⟩:=look h
  simp only[lh,k1]
  cases k3
  exact .ep k2 ((k4 (by simp)).trans hb)
 | @whole e j es fz b cap h hb a1 a2 a3=>
  obtain ⟨id,b',k1,k2,k3,k4⟩:=look h
  simp only[lh,k1]
  cases k3
  exact .whole k2 ((k4 (by simp)).trans hb) a1 a2 a3
 | @e7 e j es ak b cap h hb a1 a2 a3=>
  obtain ⟨id,b',k1,k2,k3,k4⟩:=look h
  simp only[lh,k1]
  cases k3
  exact .e7 k2 ((k4 (by simp)).trans hb) a1 a2 a3
 | @gG e j fz _ h hb=>
  obtain ⟨id,b',k1,k2,k3,k4⟩:=look h
  simp only[lh,k1]
  cases k3
  exact .gG k2 ((k4 (by simp)).trans hb)
 | @sub e j off len es fz b o cap h hb a1 a2 a3=>
  obtain ⟨id,b',k1,k2,k3,k4⟩:=look h
  simp only[lh,k1]
  cases k3
  exact .sub k2 ((k4 (by simp)).trans hb) a1 a2 a3
 | @ptr j i c b blk h hd hb=>
  obtain ⟨id,b',k1,k2,k3,k4⟩:=look h
  simp only[lh,k1]
  have hs:blk.sz P=b'.sz P:=by cases k3<;>rfl
  rw[hs]
  exact .ptr k2 (by intro e;subst e;cases k3;exact hd rfl) ((k4 hd).trans hb)
 | kB=>exact .undef
 | kC=>exact .undef
 | row=>exact .undef
 | cW=>exact .undef
 | dS=>exact .dS
 | @jk _ t j h=>
  obtain ⟨id,b',k1,k2,k3,k4⟩:=look h
  simp only[lh,k1]
  cases k3
  exact .jk k2
 | @cm t j b es h hb=>
  obtain ⟨id,b',k1,k2,k3,k4⟩:=look h
  simp only[lh,k1]
  cases k3
  exact .cm k2 ((k4 (by simp)).trans hb)
theorem qZ.one {σ:List Place} (T:qZ σ cw bI aq hp') {v:Value} {x:V} (h:aj P w I cw bI v x):aj P w I aq hp' v (KC σ x):=by
 cases x with
 | agg xs=>
  obtain ⟨cs,rfl,e1,e2⟩:=h.lW
  exact .agg (by simpa using e1) fun j v y hj hy=>by
   rw[eZ] at hy
   cases hx:xs[j]? with
   | none=>rw[hx] at hy;cases hy
   | some x=>rw[hx] at hy;cases hy;exact T.leaf (e2 j v x hj hx)
 | fn f a b=>
  cases h with
  | fn a1 a2 b1 b2=>
   refine .fn (by simpa using a1) (fun j v y hj hy=> ?_) (by simpa using b1) (fun j v y hj hy=> ?_)
   ·rw[eZ] at hy
    cases hx:a[j]? with
    | none=>rw[hx] at hy;cases hy
    | some x=>rw[hx] at hy;cases hy;exact T.leaf (a2 j v x hj hx)
   ·rw[eZ] at hy
    cases hx:b[j]? with
    | none=>rw[hx] at hy;cases hy
    | some x=>rw[hx] at hy;cases hy;exact T.leaf (b2 j v x hj hx)
 | _=>exact T.leaf h
theorem qZ.val {σ:List Place} (T:qZ σ cw bI aq hp') {v:Value} {x:V} (h:aj P w I cw bI v x):aj P w I aq hp' v (FO σ x):=by
 cases x with
 | bx xs=>
  obtain ⟨cs,rfl,e1,e2⟩:=h.vE
  exact .bx (by simpa using e1) fun j v y hj hy=>by
   rw[eZ] at hy
   cases hx:xs[j]? with
   | none=>rw[hx] at hy;cases hy
   | some x=>rw[hx] at hy;cases hy;exact T.one (e2 j v x hj hx)
 | _=>exact T.one h
theorem qZ.SX {σ:List Place} (T:qZ σ cw bI aq hp') {o:Option Nat} {b b':ai} (h:eM P w I cw bI o b) (hb:hZ σ b b'):eM P w I aq hp' o b':=by
 cases hb with
 | dead=>exact .dead
 | var=>
  cases h with
  | var a1 a2 a3 a4 a5 a6=>
   refine .var a1 a2 (by simpa using a3) a4 (fun j v y hj hy=> ?_) a6
   rw[eZ] at hy
   cases hx:(_:List V)[j]? with
   | none=>rw[hx] at hy;cases hy
   | some x=>rw[hx] at hy;cases hy;exact T.val (a5 j v x hj hx)
 | arr=>
  cases h with
  | eu hb=>exact .eu hb
  | arr a1 a2 a3 a4 a5 a6 a7=>exact .arr a1 a2 a3 a4 a5 a6 a7
 | nest=>
  cases h with
  | nest a1 a2 a3=>exact .nest a1 a2 a3
 | map=>
  cases h with
  | map a1 a2 a3 a4 a5 a6 a7=>exact .map a1 a2 a3 a4 a5 a6 a7
theorem hZ.vX {σ:List Place} {o:Option Nat} {b b':ai} (h:hZ σ b b') {m:Nat} (ho:bK P w o b' m):bK P w o b m:=by
 cases h with
 | dead=>exact absurd rfl ho.alive
 | var=>exact .root (by simp) (ho.flat (by simp))
 | arr=>exact .root (by simp) (ho.flat (by simp))
 | map=>exact .root (by simp) (ho.flat (by simp))
 | nest=>
  cases ho with
  | root _ hb=>exact .root (by simp) hb
  | row hb ha=>exact .row hb ha
theorem hZ.SY {σ:List Place} {b b':ai} (h:hZ σ b b'):b'≠ .dead→b≠ .dead:=by
 intro h1 h2;subst h2;cases h;exact h1 rfl
end
section
variable {P:Program} {A:cX} {w w':World} {I I' I2:Nat→Prop} {μ β aq cw:Nat→Option Nat} {hp hp' hp0 bI:Nat→Option ai} {C:ae} {B:Nat} {M:Nat→Prop} {w0:Start}
theorem SZ: ∀{vs:List Nat} {k:Nat},k<vs.length→bQ (vs.map (· +1)) k=bQ vs k+1
 | [],k,h=>by simp at h
 | v::vs,0,h=>rfl
 | v::vs,k+1,h=>by simp only[jV,bQ];exact SZ (by simpa using h)
theorem S3: ∀{vs:List Nat} {k:Nat},bQ vs k≤bQ (vs.map (· +1)) k
 | [],k=>by simp[bQ]
 | v::vs,0=>by simp[bQ]
 | v::vs,k+1=>by simp only[jV,bQ];exact S3
def BI (hp:Nat→Option ai) (q:Nat × ai):Prop:=(∃e es v2,q.2= .nest e es v2)→∃e es ak e' aQ,hp q.1=some (.nest e es ak)∧q.2= .nest e' aQ (ak.map (· +1))
theorem eN.L3 {id:Nat} {o:Option Nat} {blk:ai} (h:eN P w β hp (.blk id) o blk):o=β id∧∃b0,hp id=some b0∧b0≠ .dead:=by
 cases h with
 | var h=>exact ⟨rfl,_,h,by simp⟩
 | arr h=>exact ⟨rfl,_,h,by simp⟩
 | nest h=>exact ⟨rfl,_,h,by simp⟩
 | map h=>exact ⟨rfl,_,h,by simp⟩
theorem eN.adz {id:Nat} {o:Option Nat} {c b b' b0:ai} {σ:List Place} (h:eN P w β hp (.blk id) o c) (h0:hp id=some b0) (hle:c.le b) (hb:hZ σ b b') (hn:BI hp (id,b')):b0.le b':=by
 cases h with
 | var h=>
  rw[h] at h0;cases h0
  cases hb with
  | dead=>trivial
  | var=>trivial
  | arr=>exact hle.elim
  | nest=>exact hle.elim
  | map=>exact hle.elim
 | arr h=>
  rw[h] at h0;cases h0
  cases hb with
  | dead=>trivial
  | var=>exact hle.elim
  | arr=>exact hle
  | nest=>exact hle.elim
  | map=>exact hle.elim
 | map h=>
  rw[h] at h0;cases h0
  cases hb with
  | dead=>trivial
  | map=>exact hle
  | _=>exact hle.elim
 | nest h=>
  rw[h] at h0;cases h0
  cases hb with
  | dead=>trivial
  | var=>exact hle.elim
  | arr=>exact hle
  | map=>exact hle.elim
  | @nest e es v1 v2=>
   obtain ⟨e1,cH,vY,e2,cz,k1,k2⟩:=hn ⟨_,_,_,rfl⟩
   cases k2
   change hp id=_ at k1
   rw[h] at k1;cases k1
   exact ⟨hle.1,hle.2.1,by simp,fun k=>S3⟩
theorem eN.other {p:Place} {o:Option Nat} {blk:ai} (h:eN P w β hp p o blk) (he:hp' p.id=hp p.id):eN P w β hp' p o blk:=by
 cases h with
 | var h=>exact .var (he.trans h)
 | arr h=>exact .arr (he.trans h)
 | nest h=>exact .nest (he.trans h)
 | map h=>exact .map (he.trans h)
 | row h a b c d e f g=>exact .row (he.trans h) a b c d e f g
open Classical in
theorem S4 (S:aH P w I β hp B M w0) {pl:List Place} {o:Nat→Option Nat} {bs:List ai} {nb:Nat} {bk fr:List (Nat × ai)} {σ:List Place} (sy:σ=pl++tU nb (bs.length-pl.length)) (BJ:fr=rU σ nb (bs.drop pl.length))
  (ly:(pl.map Place.id).Nodup) (sc:pl.length≤bs.length)
  (GP: ∀(j:Nat) p,pl[j]? =some p→∃id b,p= .blk id∧(id,b)∈bk) (sA: ∀q∈bk,∃(j:Nat) (b:ai),pl[j]? =some (.blk q.1)∧bs[j]? =some b∧hZ σ b q.2∧BI hp q)
  (hl: ∀j blk,hp0 j=some blk→∃p,eS pl j=some p∧eN P w β hp p (o j) blk) (hd: ∀j,j<pl.length→∃blk,hp0 j=some blk)
  (Sc:aH P w' I2 cw (kA bs) w.heap.size (pY P w o hp0) ⟨w,I⟩) (yz:ma w I o hp0 w' I2 cw (kA bs)) (uq: ∀q∈fr,hp q.1=none):
  ∃aq,Le P w I β hp w' I2 aq (b9 hp (fr++bk))∧aH P w' I2 aq (b9 hp (fr++bk)) B M w0∧qZ σ cw (kA bs) aq (b9 hp (fr++bk)):=by
 generalize L4:b9 hp (fr++bk)=iJ
 let aq:Nat→Option Nat:=fun n=>if∃q∈fr,q.1=n then cw (pl.length+(n-nb)) else β n
 have S5: ∀(j:Nat) id,pl[j]? =some (.blk id)→∃c,hp0 j=some c∧eN P w β hp (.blk id) (o j) c:=by
  intro j id hj
  obtain ⟨c,hc⟩:=hd j (bH.1 hj).1
  obtain ⟨p,h1,h2⟩:=hl j c hc
  rw[mJ,hj] at h1
  cases h1
  exact ⟨c,hc,h2⟩
 have uniq: ∀(j1 j2:Nat) id,pl[j1]? =some (.blk id)→pl[j2]? =some (.blk id)→j1=j2:=by
  intro j1 j2 id h1 h2
  have m1:(pl.map Place.id)[j1]? =some id:=by rw[eZ,h1];rfl
  have m2:(pl.map Place.id)[j2]? =some id:=by rw[eZ,h2];rfl
  obtain ⟨z1,z2⟩:=bH.1 m1
  obtain ⟨z3,z4⟩:=bH.1 m2
  exact (List.getElem_inj ly).1 (z2.trans z4.symm)
 have cls: ∀id,(∃i b,id=nb+i∧bs[pl.length+i]? =some b∧iJ id=some (vl σ b)∧hp id=none∧aq id=cw (pl.length+i))∨
   (∃(j:Nat) (b b' c b0:ai),pl[j]? =some (.blk id)∧bs[j]? =some b∧hp0 j=some c∧eN P w β hp (.blk id) (o j) c∧hp id=some b0∧b0.le b'∧iJ id=some b'∧hZ σ b b'∧BI hp (id,b')∧aq id=β id∧c.le b∧(b≠ .dead→cw j=β id))∨
   (iJ id=hp id∧(∀j:Nat,pl[j]? ≠some (.blk id))∧aq id=β id):=by
  intro id
  by_cases hm: ∃b,(id,b)∈fr++bk
  ·obtain ⟨b,hm⟩:=hm
   obtain ⟨b',Bf,he⟩:=FZ (hp:=hp) hm
   rw[L4] at he
   rcases eP.1 Bf with h|h
   ·have h0:=uq _ h
    have p5:aq id=cw (pl.length+(id-nb)):=af ⟨_,h,rfl⟩
    rw[BJ] at h
    obtain ⟨i,b1,k1,k2⟩:=SU h
    rw[iX] at k1
    cases k2
    exact .inl ⟨i,b1,rfl,k1,he,h0,by rw[p5];congr 2;omega⟩
   ·obtain ⟨j,b1,q1,q2,q3,q4⟩:=sA _ h
    obtain ⟨c,c1,c2⟩:=S5 j id q1
    obtain ⟨c3,b0,c4,c5⟩:=c2.L3
    obtain ⟨b2,d1,d2,d3⟩:=yz.blk j c c1
    rw[iP,q2] at d1
    cases d1
    refine .inr (.inl ⟨j,b1,b',c,b0,q1,q2,c1,c2,c4,c2.adz c4 d2 q3 q4,he,q3,q4,ag ?_,d2,fun h=>(d3 h).trans c3⟩)
    rintro ⟨q,hq,hqe⟩
    rw[←hqe,uq q hq] at c4
    cases c4
  ·refine .inr (.inr ⟨?_,fun j hj=> ?_,ag ?_⟩)
   ·rcases vB (hp:=hp) (l:=fr++bk) (id:=id) with h|⟨b,hb,_⟩
    ·rw[L4] at h;exact h
    ·exact absurd ⟨b,hb⟩ hm
   ·obtain ⟨aE,b,e,hb⟩:=GP j _ hj
    cases e
    exact hm ⟨b,eP.2 (.inr hb)⟩
   ·rintro ⟨q,hq,rfl⟩
    exact hm ⟨q.2,eP.2 (.inl hq)⟩
 have S6: ∀b,pY P w o hp0 b→∃(j id:Nat) (b1:ai),pl[j]? =some (.blk id)∧hp id=some b1∧bK P w (β id) b1 b∧∀e es,b1≠ .arr e es true:=by
  rintro b ⟨j,c,hc,ho⟩
  obtain ⟨p,h1,h2⟩:=hl j c hc
  rw[mJ] at h1
  obtain ⟨id,b2,rfl,_⟩:=GP j p h1
  obtain ⟨b1,k1,k2,k3⟩:=h2.vX ho
  exact ⟨j,id,b1,h1,k1,k2,k3⟩
 have other: ∀id blk b,hp id=some blk→bK P w (β id) blk b→(∀j:Nat,pl[j]? ≠some (.blk id))→¬pY P w o hp0 b∧w'.heap[b]? =w.heap[b]? ∧(I2 b→I b):=by
  intro id blk b e1 e3 e4
  have nG: ¬pY P w o hp0 b:=by
   intro hx
   obtain ⟨j,aE,b1,i1,i2,i3,_⟩:=S6 b hx
   have:=S.h.inj id aE _ _ b e1 i2 e3 i3
   subst this
   exact e4 j i1
  have a9:=S.h.lt e1 e3
  refine ⟨nG,Sc.cE b a9 nG,fun h=> ?_⟩
  rcases Sc.new b h with h|h|h
  ·exact h
  ·exact absurd h nG
  ·omega
 have ug:qZ σ cw (kA bs) aq iJ:=by
  refine ⟨fun j b hj=> ?_,fun j hj=> ?_,fun j id ver path hj=> ?_⟩
  ·rw[iP] at hj
   by_cases dv:j<pl.length
   ·obtain ⟨id,b1,e,mF⟩:=GP j _ (bM dv)
    have GQ:pl[j]? =some (.blk id):=by rw[bM dv,e]
    have L5:eS σ j=some (.blk id):=by rw[sy];exact pW (by rw[mJ];exact GQ)
    rcases cls id with ⟨i,b2,c1,c2,c3,c4,c5⟩|⟨j',b2,b',c,b0,q1,q2,q3,q4,q5,q6,q7,q8,q9,q0,yA,sB⟩|⟨c1,c2,c3⟩
    ·obtain ⟨c,d1,d2⟩:=S5 j id GQ
     obtain ⟨_,b0,d3,_⟩:=d2.L3
     rw[d3] at c4;cases c4
    ·obtain rfl:=uniq _ _ _ q1 GQ
     rw[hj] at q2;cases q2
     exact ⟨id,b',L5,q7,q8,fun h=>q0.trans (sB h).symm⟩
    ·exact absurd GQ (c2 j)
   ·have S7:=(bH.1 hj).1
    have L5:eS σ j=some (.blk (nb+(j-pl.length))):=by
     rw[sy,mJ,kZ (by omega)]
     exact GO (by omega)
    have hm:(nb+(j-pl.length),vl σ b)∈fr:=by
     rw[BJ]
     refine SV ?_
     rw[iX,show pl.length+(j-pl.length)=j by omega]
     exact hj
    rcases cls (nb+(j-pl.length)) with ⟨i,b2,c1,c2,c3,c4,c5⟩|⟨j',b2,b',c,b0,q1,q2,q3,q4,q5,q6,q7,q8,q9,q0,yA,sB⟩|⟨c1,c2,c3⟩
    ·have hi:i=j-pl.length:=by omega
     subst hi
     rw[show pl.length+(j-pl.length)=j by omega] at c2 c5
     rw[hj] at c2;cases c2
     exact ⟨_,_,L5,c3,.of σ _,fun _=>c5⟩
    ·rw[uq _ hm] at q5;cases q5
    ·obtain ⟨b',Bf,he⟩:=FZ (hp:=hp) (l:=fr++bk) (eP.2 (.inl hm))
     rw[L4,c1,uq _ hm] at he
     cases he
  ·rw[iP] at hj
   have:=List.getElem?_eq_none_iff.1 hj
   rw[sy,mJ,List.getElem?_eq_none_iff,dd,L0]
   omega
  ·rw[sy,mJ] at hj
   by_cases dv:j<pl.length
   ·rw[kY dv] at hj
    obtain ⟨aE,b1,e,_⟩:=GP j _ hj
    cases e
   ·have S7:j-pl.length<bs.length-pl.length:=by
     have:=(bH.1 hj).1
     rw[dd,L0] at this
     omega
    rw[kZ (by omega),GO S7] at hj
    cases hj
 have hle:Le P w I β hp w' I2 aq iJ:=by
  refine ⟨yz.dM,yz.cE,fun id blk ab=> ?_,fun id blk blk' b ab bR sC hb=> ?_,fun id e es ak e' aQ vers' b q i c t v e1 l ab bR hb a9 hv ht hc=> ?_⟩
  ·rcases cls id with ⟨i,b2,c1,c2,c3,c4,c5⟩|⟨j',b2,b',c,b0,q1,q2,q3,q4,q5,q6,q7,q8,q9,q0,yA,sB⟩|⟨c1,c2,c3⟩
   ·rw[ab] at c4;cases c4
   ·rw[ab] at q5;cases q5
    exact ⟨b',q7,q6,fun _=>q0⟩
   ·exact ⟨blk,c1.trans ab,ai.le_refl _,fun _=>c3⟩
  ·rcases cls id with ⟨i,b2,c1,c2,c3,c4,c5⟩|⟨j',b2,b',c,b0,q1,q2,q3,q4,q5,q6,q7,q8,q9,q0,yA,sB⟩|⟨c1,c2,c3⟩
   ·rw[ab] at c4;cases c4
   ·rw[q7] at bR;cases bR
    exact yz.size j' c b2 b q3 (by rw[iP];exact q2) (q8.SY sC) (q4.L3.1.trans hb)
   ·rw[c1,ab] at bR
    cases bR
    simp only[bsize,(other id blk b ab (.root sC hb) c2).2.1]
  ·rcases cls id with ⟨i2,b2,c1,c2,c3,c4,c5⟩|⟨j',b2,b',c',b0,q1,q2,q3,q4,q5,q6,q7,q8,q9,q0,yA,sB⟩|⟨c1,c2,c3⟩
   ·rw[ab] at c4;cases c4
   ·rw[q7] at bR;cases bR
    obtain ⟨_,_,vY,_,_,k1,k2⟩:=q9 ⟨_,_,_,rfl⟩
    change hp id=_ at k1
    rw[ab] at k1;cases k1
    cases k2
    rw[SZ a9] at hv
    omega
   ·rw[c1,ab] at bR
    cases bR
    exact ⟨l,rfl,hc.mono fun _ _ _ _ h=>(other id _ _ ab (.row hb h) c2).2.1⟩
 have place: ∀id blk b,iJ id=some blk→bK P w' (aq id) blk b→(∃j c,kA bs j=some c∧bK P w' (cw j) c b∧eS σ j=some (.blk id))∨(b<w.heap.size∧¬pY P w o hp0 b∧hp id=some blk∧bK P w (β id) blk b):=by
  intro id blk b e1 e3
  rcases cls id with ⟨i,b2,c1,c2,c3,c4,c5⟩|⟨j',b2,b',c,b0,q1,q2,q3,q4,q5,q6,q7,q8,q9,q0,yA,sB⟩|⟨c1,c2,c3⟩
  ·rw[c3] at e1;cases e1
   rw[c5] at e3
   refine .inl ⟨pl.length+i,b2,by rw[iP];exact c2,(hZ.of σ b2).vX e3,?_⟩
   have:=(bH.1 c2).1
   rw[sy,mJ,kZ (by omega),GO (by omega),c1]
   congr 3
   omega
  ·rw[q7] at e1;cases e1
   have sC:b2≠ .dead:=q8.SY e3.alive
   rw[q0,←sB sC] at e3
   exact .inl ⟨j',b2,by rw[iP];exact q2,q8.vX e3,by rw[sy];exact pW (by rw[mJ];exact q1)⟩
  ·rw[c1] at e1
   rw[c3] at e3
   have:=e3.mono (w:=w) fun b hb=>(other id blk b e1 hb c2).2.1
   exact .inr ⟨S.h.lt e1 this,(other id blk b e1 this c2).1,e1,this⟩
 have tZ: ∀b,pY P w o hp0 b∨w.heap.size≤b→M b∨B≤b:=by
  rintro b (h|h)
  ·obtain ⟨j,id,b1,i1,i2,i3,_⟩:=S6 b h
   exact S.h.own id b1 b i2 i3
  ·exact .inr (jT S.size h)
 have L7: ∀j c b,kA bs j=some c→bK P w' (cw j) c b→pY P w o hp0 b∨w.heap.size≤b:=fun j c b h1 h2=>Sc.h.own j c b h1 h2
 refine ⟨aq,hle,⟨⟨fun id blk ab=> ?_,fun i1 i2 b1 b2 b e1 e2 f1 f2=> ?_,fun id blk b ab hb=> ?_,Sc.h.kD⟩,fun b hb hM=> ?_,jT S.size Sc.size,fun b hb=> ?_,⟨Sc.io.1.trans S.io.1,Sc.io.2.trans S.io.2⟩⟩,ug⟩
 ·rcases cls id with ⟨i,b2,c1,c2,c3,c4,c5⟩|⟨j',b2,b',c,b0,q1,q2,q3,q4,q5,q6,q7,q8,q9,q0,yA,sB⟩|⟨c1,c2,c3⟩
  ·rw[c3] at ab;cases ab
   rw[c5]
   exact ug.SX (Sc.h.rel _ b2 (by rw[iP];exact c2)) (.of σ b2)
  ·rw[q7] at ab;cases ab
   have:=ug.SX (Sc.h.rel j' b2 (by rw[iP];exact q2)) q8
   by_cases sC:b2= .dead
   ·subst sC
    cases q8
    exact .dead
   ·rw[q0,←sB sC]
    exact this
  ·rw[c1] at ab
   rw[c3]
   exact (S.h.rel id blk ab).mono hle fun b hb=>(other id blk b ab hb c2).2
 ·rcases place i1 b1 b e1 f1 with ⟨j1,c1,g1,g2,g3⟩|⟨g1,g2,g3,g4⟩<;>rcases place i2 b2 b e2 f2 with ⟨j2,c2,k1,k2,k3⟩|⟨k1,k2,k3,k4⟩
  ·have:=Sc.h.inj j1 j2 c1 c2 b g1 k1 g2 k2
   subst this
   rw[g3] at k3
   cases k3
   rfl
  ·rcases L7 j1 c1 b g1 g2 with h|h
   ·exact absurd h k2
   ·omega
  ·rcases L7 j2 c2 b k1 k2 with h|h
   ·exact absurd h g2
   ·omega
  ·exact S.h.inj i1 i2 _ _ b g3 k3 g4 k4
 ·rcases place id blk b ab hb with ⟨j1,c1,g1,g2,g3⟩|⟨g1,g2,g3,g4⟩
  ·exact tZ b (L7 j1 c1 b g1 g2)
  ·exact S.h.own id blk b g3 g4
 ·refine (Sc.cE b (gy hb S.size) fun hx=> ?_).trans (S.cE b hb hM)
  rcases tZ b (.inl hx) with h|h
  ·exact hM h
  ·omega
 ·rcases Sc.new b hb with h|h|h
  ·exact S.new b h
  ·exact .inr (tZ b (.inl h))
  ·exact .inr (tZ b (.inr h))
end
section
variable {P:Program} {A:cX} {w w':World} {I I' I2:Nat→Prop} {μ β aq cw:Nat→Option Nat} {hp hp' hp0 bI:Nat→Option ai} {C:ae} {B:Nat} {M:Nat→Prop} {w0:Start}
theorem S8 (hp:Nat→Option ai): ∀(a b:List (Nat × ai)),b9 hp (a++b)=b9 (b9 hp b) a
 | [],b=>rfl
 | (i,x)::a,b=>by simp only[List.cons_append,b9,S8 hp a b]
theorem vZ {hp:Nat→Option ai} {l:List (Nat × ai)} {id:Nat} (h: ∀q∈l,q.1≠id):b9 hp l id=hp id:=by
 rcases vB (hp:=hp) (l:=l) (id:=id) with h1|⟨b,hb,_⟩
 ·exact h1
 ·exact absurd rfl (h _ hb)
def yB (P : Program) : Prop := ∀ (f : Nat) fn, P.funcs[f]? = some fn → (fn.name == "runtime.NumGoroutine") = false
def GR (P:Program) (f:FuncId) (e:TypeId):Prop:=
 (∀args w,(callFunc f args).run P w= .ok (.enter f args) w)∧∃t,P.underlying t=some (.slice e)∧
  ∀(s:Value) (w:World) (Q:Ending→World→Prop),(s= .slice none 0 0→Q (.returned (.slice none 0 0)) w)→
   (∀a n c,s= .slice (some a) n c→∃v w',(Builtin.append_ #[t,t] t #[.slice (some ⟨w.heap.size,0,none⟩) 0 0,s]).run P (w.alloc (.cells #[] e))= .ok v w'∧Q (.returned v) w')→
   (s= .slice none 0 0∨∃a n c,s= .slice (some a) n c)→Calls P f #[s] w Q
structure kb (P:Program) (A:cX):Prop where
 count:yB P
 ext: ∀f T,A.ext f=some T→∀(b:Nat) (C:Array Value) (w:World),w.heap[b]? =some (.cells C T (0,0))→C.size=P.cellsOf T→(C[0]? =some (.pointer none)∨C[0]? =some (.pointer (some ⟨b,0,none⟩)))→
  (callFunc f #[.pointer (some ⟨b,0,none⟩)]).run P w= .ok (.enter f #[.pointer (some ⟨b,0,none⟩)]) w∧
  Calls P f #[.pointer (some ⟨b,0,none⟩)] w fun e w'=>e= .returned (.tuple #[])∧(w'=w∨w'=w.setCell ⟨b,0,none⟩ (.pointer (some ⟨b,0,none⟩)))
 idle: ∀f,A.idle f=true→(∀args w,(callFunc f args).run P w= .ok (.enter f args) w)∧
  ∀args w,CallsD P f args .returning w fun e u' w'=>(∃v,e= .returned v)∧u'= .returning∧w'=w
 pF: ∀f e,A.pF f=some e→GR P f e
theorem kb.here {P:Program} {A:cX} (h:kb P A) (f id:Nat):kb P (A.here f id):=⟨h.count,h.ext,h.idle,h.pF⟩
def BK (E:FuncId→Bool) (d:Deferred):Prop:= ∃f cap,d.target= .fn (.func f) cap∧E f=true
theorem L8 {P:Program} {A:cX} (hP:kb P A) {fn:Func} {tmps:Array Value} {R:Ending→World→Prop} {w:World} {v:Value} (hv:(results fn tmps).run P w= .ok v w) (hR:R (.returned v) w):
  ∀ds:List Deferred,(∀d∈ds,BK A.idle d)→Leaves P fn tmps R ds .returning w
 | [],_=>⟨v,hv,hR⟩
 | d::ds,h=>by
  obtain ⟨f,cap,ht,hf⟩:=h d (by simp)
  obtain ⟨k1,k2⟩:=hP.idle f hf
  obtain ⟨t,S9⟩:=d
  simp only at ht
  subst ht
  refine leaves_cons (f:=f) (args:=S9++cap) (by simp) ?_ ?_
  ·simp only[invoke];exact k1 _ w
  ·refine (k2 (S9++cap) w).mono fun e u' w' hr=> ?_
   obtain ⟨⟨v',rfl⟩,rfl,rfl⟩:=hr
   exact L8 hP hv hR ds fun d hd=>h d (nk _ hd)
def BL (P:Program) (A:cX) (o:Oper) (a:Act) (w:World) (I:Nat→Prop) (β:Nat→Option Nat) (hp:Nat→Option ai) (B:Nat) (M:Nat→Prop) (w0:Start) (r:R):Prop:=
 ∀(next:Act→World→Prop) (Q:Exit→Act→World→Prop),
  (∀v w' I' aq ds,Le P w I β hp w' I' aq (b9 hp r.upd)→aH P w' I' aq (b9 hp r.upd) B M w0→aj P w' I' aq (b9 hp r.upd) v r.v→(∀d∈ds,d∈a.defers∨BK A.idle d)→next ({a with defers:=ds}.put o.dst v) w')→o.wp P a w next Q
theorem qM.step {o:Oper} {a:Act} {r:R} (h:qM P ((execOp a.eval o).run P w) w I β hp B M w0 r):BL P A o a w I β hp B M w0 r:=by
 obtain ⟨v,w',I',aq,h1,h2,h3,h4⟩:=h
 intro next Q hn
 unfold Oper.wp
 rcases h1 with h1|⟨h1,rfl⟩
 ·rw[h1];exact hn v w' I' aq a.defers h2 h3 h4 fun d hd=> .inl hd
 ·rw[h1];exact hn _ w' I' aq a.defers h2 h3 h4 fun d hd=> .inl hd
theorem Ta: ∀(l:List (Nat × VS)),pH l=tT (l.map (·.2))
 | []=>rfl
 | (_,s)::l=>by simp only[pH,jV,tT,Ta l]
theorem adA (hC:mb P A C) (S:aH P w I β hp B M w0) (hg:iI P A.aF w I) {vals:List Value} {args:List V} {nb key:Nat} {f:FuncId} {r:R} {rd:List Nat} (hlen:vals.length=args.length)
  (cY: ∀(j:Nat) v x,vals[j]? =some v→args[j]? =some x→aj P w I β hp v x) (h:(AV P A nb key f args).run C hp=some (r,rd)):
  ∃fn c,P.funcs[f]? =some fn∧fn.body=some c∧Calls P f vals.toArray w fun e w'=> ∃v I' aq,e= .returned v∧Le P w I β hp w' I' aq (b9 hp r.upd)∧aH P w' I' aq (b9 hp r.upd) B M w0∧aj P w' I' aq (b9 hp r.upd) v r.v:=by
 unfold AV at h
 obtain ⟨Tb,h0⟩:=aI h
 clear h
 rw[ba] at Tb
 subst Tb
 obtain ⟨h1,ka,d1,u1,a1,a2,a3,a5,a4⟩:=LX S h0 hlen cY
 obtain ⟨h2,uo,d2,u2,b1,b2,b3,b4⟩:=SK S a1
 clear h0 a1
 obtain ⟨hc,h3⟩:=aI b1
 clear b1
 simp only[aM,ba,ot] at hc
 obtain ⟨fD,pZ⟩:=hc
 have ur:=a2.trans b2
 have mu:h2.ds=d1++d2:=by have:=ur.ds;simpa using this
 have GS:h2.upd=u1++u2:=by have:=ur.upd;simpa using this
 have ly:(h2.pl.map Place.id).Nodup:=ur.nodup (by simp)
 obtain ⟨c1,o,c2,c3⟩:=b4 []
 simp only[iD] at c1 c2 c3
 cases BM:C key h2.ds with
 | none=>
  simp only[Rd.run,BM] at h3
  cases h3
 | some es=>
  have rZ: ∃fF,(AU P (A.so key es) nb h2 (A.lv key es)).run C hp=some (r,fF):=by
   obtain ⟨x,hx,e⟩:=bind_some h3
   rw[BM] at hx
   cases hx
   unfold cX.so cX.lv
   cases cF:A.alt key with
   | none=>rw[cF] at e;exact ⟨_,e⟩
   | some S2=>
    rw[cF] at e
    simp only[Rd.run] at e
    cases hb:(V.nth es 0).toBool<;>(rw[hb] at e;exact ⟨_,e⟩)
  clear h3
  obtain ⟨fF,h3⟩:=rZ
  unfold AU at h3
  simp only at h3
  generalize iK:fo (A.so key es).bj ((A.lv key es).drop (pH (A.so key es).bX))=bs at h3
  generalize sy:h2.pl++tU nb (bs.length-h2.pl.length)=σ at h3
  generalize BJ:rU σ nb (bs.drop h2.pl.length)=fr at h3
  obtain ⟨p0,bk,rd4,p1,p2,_,p3⟩:=SS h3
  obtain ⟨uq,rd5,p4⟩:=SW p1
  obtain rfl:=aU p4
  have sc:h2.pl.length≤bs.length:=by rw[iZ] at p0;omega
  have sA: ∀q∈bk,∃(j:Nat) (b:ai),h2.pl[j]? =some (.blk q.1)∧bs[j]? =some b∧hZ σ b q.2∧BI hp q:=by
   intro q hq
   rcases p2 q hq with hx|⟨j,b,k1,k2,k3,k4⟩
   ·simp at hx
   ·have hj:=(bH.1 k1).1
    rw[fK hj] at k2
    exact ⟨j,b,k1,k2,k3,k4⟩
  obtain ⟨fn,c,hf,hb,L9⟩:=hC key h2.ds es BM
  refine ⟨fn,c,hf,hb,?_⟩
  have hmb:fo (A.sin key).bj (h2.ds.drop (pH (A.sin key).bX))=fo (A.sin key).bj d2:=by
   rw[mu,Ta,oQ a3]
  have Ma:(bE (A.sin key) h2.ds).hp=kA (fo (A.sin key).bj d2):=by
   simp only[bE,mk,hmb]
  have hl: ∀j blk,(bE (A.sin key) h2.ds).hp j=some blk→∃p,eS h2.pl j=some p∧eN P w β hp p (o j) blk:=by
   intro j blk hj
   rw[Ma,iP] at hj
   obtain ⟨p,k1,k2⟩:=c2 j blk hj
   rw[eh] at k1
   exact ⟨p,k1,k2⟩
  have hd: ∀j,j<h2.pl.length→∃blk,(bE (A.sin key) h2.ds).hp j=some blk:=by
   intro j hj
   rw[Ma,iP]
   exact ⟨_,bM (by rw[c1,←fD];exact hj)⟩
  have Tc:BE P w β hp h2.pl o (bE (A.sin key) h2.ds).hp:=by
   intro j p hj
   obtain ⟨blk,k1⟩:=hd j (by rw[mJ] at hj;exact (bH.1 hj).1)
   obtain ⟨p',k2,k3⟩:=hl j blk k1
   rw[hj] at k2
   cases k2
   exact ⟨blk,k1,k3⟩
  obtain ⟨sj,S1⟩:=Be S ur.GI
  rw[←GS] at sj S1
  have i1: ∀b,I b→jF P w I β hp h2.upd b:=fun b h=> .inl h
  have entry:=adv (hp0:=(bE (A.sin key) h2.ds).hp) S ly pZ hl (fun dj j blk hj=>by
   have il:=hj
   rw[Ma,iP] at il
   exact c3 (jF P w I β hp h2.upd) o _ i1 (fun q hq b hb=> .inr ⟨q,by rw[GS];exact eP.2 (.inr hq),hb⟩) h2.pl [] (by simp) Tc j blk il (dj j blk hj)) S1.h.kD
  have adB:vals.length=(A.sin key).bX.length:=by rw[hlen,←a5];simp
  have ha:=L9 w (jF P w I β hp h2.upd) o vals entry (hg.mono i1 fun _ _=>rfl) adB fun j v x hj hx=>by
   rw[mu] at hx
   exact (((a4.later b2) (jF P w I β hp h2.upd) o _ i1 (fun q hq b hb=> .inr ⟨q,by rw[GS];exact hq,hb⟩) h2.pl [] (by simp) Tc) d2).2 j v x hj hx
  refine ha.mono fun e w' BN=> ?_
  obtain ⟨v,I2,cw,rfl,ha⟩:=BN
  have yC:(bE (A.so key es) (A.lv key es)).hp=kA bs:=by simp only[bE,mk,iK]
  cases adC:(A.so key es).safe P with
  | true=>
   simp only[cond_true,iD]
   have iM: ∀b,I b→I2 b:=fun b h=>ha.le.dM b (i1 b h)
   obtain ⟨s1,s2⟩:=ady adC iM ha.yx i1
   have yz:ma w I o (bE (A.sin key) h2.ds).hp w' I cw (kA bs):=by
    rw[←yC]
    exact ⟨fun _ h=>h,fun b h=>ha.le.cE b (i1 b h),ha.le.blk,ha.le.size⟩
   obtain ⟨aq,k1,k2,k3⟩:=S4 S sy.symm BJ.symm ly sc p3 sA hl hd (by rw[←yC];exact ⟨s1.h,s1.cE,s1.size,fun b h=> .inl h,s1.io⟩) yz uq
   exact ⟨v,I,aq,rfl,k1,k2,k3.val (by have:=s2 v ha.res;rw[yC] at this;exact this)⟩
  | false=>
   simp only[cond_false]
   rw[←dk,S8]
   have nG: ∀p∈h2.pl,b9 hp h2.upd p.id=hp p.id:=fun p hp=>vZ fun q hq e=>
    GN pZ (fL.2 ⟨q,hq,rfl⟩) (e▸fL.2 ⟨p,hp,rfl⟩)
   have adD: ∀q∈bk,∃(j:Nat) (b:ai),h2.pl[j]? =some (.blk q.1)∧bs[j]? =some b∧hZ σ b q.2∧BI (b9 hp h2.upd) q:=by
    intro q hq
    obtain ⟨j,b,k1,k2,k3,k4⟩:=sA q hq
    refine ⟨j,b,k1,k2,k3,fun hn=> ?_⟩
    have:=nG _ (jU k1)
    simp only[Place.id] at this
    rw[this]
    exact k4 hn
   have xT: ∀j blk,(bE (A.sin key) h2.ds).hp j=some blk→∃p,eS h2.pl j=some p∧eN P w β (b9 hp h2.upd) p (o j) blk:=by
    intro j blk hj
    obtain ⟨p,k1,k2⟩:=hl j blk hj
    exact ⟨p,k1,k2.other (nG p (by rw[mJ] at k1;exact jU k1))⟩
   have adE: ∀q∈fr,b9 hp h2.upd q.1=none:=by
    intro q hq
    rw[vZ fun q' cx e=> ?_]
    ·exact uq q hq
    ·obtain ⟨e1,cH,_,h5⟩:=ur.GI q' (GS▸cx)
     rw[e,uq q hq] at h5
     rcases h5 with ⟨_,h5⟩|⟨_,h5⟩<;>cases h5
   obtain ⟨aq,k1,k2,k3⟩:=S4 S1 sy.symm BJ.symm ly sc p3 adD xT hd (by rw[←yC];exact ha.yx) (by rw[←yC];exact ha.le) adE
   exact ⟨v,I2,aq,rfl,sj.trans k1,k2,k3.val (by have:=ha.res;rw[yC] at this;exact this)⟩
theorem Td (hC:mb P A C) (hP:kb P A) (S:aH P w I β hp B M w0) (hg:iI P A.aF w I) {a:Act} {nb key:Nat} {o:Oper} {f:FuncId} {vals:List Value} {args:List V} (hlen:vals.length=args.length)
  (cY: ∀(j:Nat) v x,vals[j]? =some v→args[j]? =some x→aj P w I β hp v x) {r:R} {rd:List Nat} (h:(AV P A nb key f args).run C hp=some (r,rd))
  (hex:(execOp a.eval o).run P w=(callFunc f vals.toArray).run P w):BL P A o a w I β hp B M w0 r:=by
 intro next Q hn
 obtain ⟨fn,c,hf,hb,L9⟩:=adA hC S hg hlen cY h
 unfold Oper.wp
 rw[hex,MuLone.run_callFunc_enter hf (hP.count f _ hf) hb,Oper.upon_enter]
 refine L9.mono fun e w' BN=> ?_
 obtain ⟨v,I2,cw,rfl,k1,k2,k3⟩:=BN
 exact hn v w' I2 cw a.defers k1 k2 k3 fun d hd=> .inl hd
theorem lU.args {a:Act} {sl:Nat→V} (hs:lU P w I β hp a sl) (hg:iI P A.aF w I) {args:Array Operand} {ts:Array TypeId} (bn:args.size=ts.size):
  (args.map a.eval).toList.length=((args.toList.zip ts.toList).map fun p=>aV P A.aF p.2 sl p.1).length∧
  ∀(j:Nat) v x,(args.map a.eval).toList[j]? =some v→((args.toList.zip ts.toList).map fun p=>aV P A.aF p.2 sl p.1)[j]? =some x→aj P w I β hp v x:=by
 refine ⟨by simp;omega,fun j v x hv hx=> ?_⟩
 simp only[Array.toList_map,eZ,List.getElem?_zip_eq_some,As] at hv hx
 obtain ⟨x1,BO,rfl⟩:=hv
 obtain ⟨⟨y1,t1⟩,⟨Mb,_⟩,rfl⟩:=hx
 rw[BO] at Mb
 cases Mb
 exact hs.ev hg t1 _
theorem Te {vs us:List Value} {xs ys:List V} (h1:vs.length=xs.length) (h2: ∀(j:Nat) v x,vs[j]? =some v→xs[j]? =some x→aj P w I β hp v x)
  (h3: ∀(j:Nat) v x,us[j]? =some v→ys[j]? =some x→aj P w I β hp v x) (j:Nat) (v:Value) (x:V) (hv:(vs++us)[j]? =some v) (hx:(xs++ys)[j]? =some x):aj P w I β hp v x:=by
 by_cases hj:j<vs.length
 ·rw[kY hj] at hv
  rw[kY (by omega)] at hx
  exact h2 j v x hv hx
 ·rw[kZ (by omega)] at hv
  rw[kZ (by omega)] at hx
  rw[h1] at hv
  exact h3 _ v x hv hx
theorem adF (hP:kb P A) (S:aH P w I β hp B M w0) (hg:iI P A.aF w I) {a:Act} {sl:Nat→V} (hs:lU P w I β hp a sl) {dst:Option Tmp} {ty e:TypeId} {pos:String} {after:Array Edge} {guard:Option (Nat × Bool)} {f:FuncId}
  {args:Array Operand} {argTypes:Array TypeId} {nb:Nat} {r:R} {rd:List Nat} (lx:A.pF f=some e)
  (h:((match args.toList with
    | [x]=> .aB (dm P e) (tR e (aV P A.aF ty sl x) fun xs=> .aB (Nat.ble (xs.length*P.bytesOf e) bP) (jY nb (.arr e xs false) (.whole e nb) []))
    | _=> .fail):Rd R).run C hp=some (r,rd)):BL P A (Oper.mk dst (.call (Go.Call.mk (.value (.func f)) args argTypes)) ty pos after guard) a w I β hp B M w0 r:=by
 cases ha:args.toList with
 | nil=>rw[ha] at h;cases h
 | cons x l=>
  rw[ha] at h
  cases l with
  | cons _ _=>cases h
  | nil=>
   simp only at h
   have e1:args= #[x]:=by rw[←Array.toArray_toList (xs:=args),ha]
   subst e1
   have hx:=hs.ev hg ty x
   obtain ⟨aw,h⟩:=aI h
   have fin: ∀{w1:World} {GU:Nat→Option Nat},(∀id blk,hp id=some blk→eM P w1 I GU hp (GU id) blk)→aj P w1 I GU hp (a.eval x) (aV P A.aF ty sl x)→∃xs,(((∃a',a.eval x= .slice a' 0 0)∧xs=[])∨∃a' c news,Row P w1 I e (a.eval x) xs a' c news)∧
     xs.length*P.bytesOf e≤bP∧hp nb=none∧r=⟨.whole e nb,[(nb,.arr e xs false)]⟩:=by
    intro w1 GU h1 h2
    obtain ⟨xs,mH,l,h⟩:=Gq h1 aw h2 h
    obtain ⟨fe,h⟩:=aI h
    rw[fy] at fe
    obtain ⟨hn,rfl⟩:=oM h
    exact ⟨xs,mH,fe,hn,rfl⟩
   obtain ⟨c1,t,hu,c2⟩:=hP.pF f e lx
   intro next Q yD
   unfold Oper.wp
   have e2:(execOp a.eval ⟨dst,.call ⟨.value (.func f),#[x],argTypes⟩,ty,pos,after,guard⟩).run P w= .ok (.enter f #[a.eval x]) w:=by
    have fG:a.eval (.func f)= .func (.func f) #[] #[]:=rfl
    simpa[execOp,resolve,fG,Deferred.ofValue,invoke] using c1 #[a.eval x] w
   rw[e2,Oper.upon_enter]
   refine c2 _ w _ (fun BP=> ?_) (fun b n c yh=> ?_) ?_
   ·obtain ⟨xs,mH,fe,hn,rfl⟩:=fin S.h.rel hx
    have im:xs=[]:=by
     rcases mH with ⟨_,h⟩|⟨a,c,news,hr⟩
     ·exact h
     ·have:=hr.val.symm.trans BP
      cases this
    subst im
    obtain ⟨a1,a2⟩:=F4 S e hn
    exact yD _ w I _ a.defers a1 a2 (.ep (dt _ _ _) (dt _ _ _)) fun d hd=> .inl hd
   ·obtain ⟨m1,m2⟩:=abL (w':=w.alloc (.cells #[] e)) S (fun b hb=>heap_alloc_old w _ b hb) (by simp) ⟨rfl,rfl⟩
    obtain ⟨xs,mH,fe,hn,rfl⟩:=fin m2.h.rel (hx.mono m1)
    obtain ⟨v,w',aq,a1,a2,a3,a4⟩:=Lo (ty:=t) (a0:=some ⟨w.heap.size,0,none⟩) m2 hu aw hn fe mH
    exact ⟨v,w',a1,yD v w' I aq a.defers (m1.trans a2) a3 a4 fun d hd=> .inl hd⟩
   ·obtain ⟨xs,mH,fe,hn,rfl⟩:=fin S.h.rel hx
    rcases mH with ⟨⟨b,h⟩,_⟩|⟨b,c,news,hr⟩
    ·rw[h]
     cases b with
     | none=>exact .inl rfl
     | some b=>exact .inr ⟨_,_,_,rfl⟩
    ·exact .inr ⟨_,_,_,hr.val⟩
theorem adG (hP:kb P A) (S:aH P w I β hp B M w0) (hg:iI P A.aF w I) {a:Act} {sl:Nat→V} (hs:lU P w I β hp a sl) {dst:Option Tmp} {ty T0:TypeId} {pos:String} {after:Array Edge} {guard:Option (Nat × Bool)} {f:FuncId}
  {args:Array Operand} {argTypes:Array TypeId} {r:R} {rd:List Nat} (BQ:A.ext f=some T0)
  (h:((match args.toList with
   | [x]=>
    match aV P A.aF ty sl x with
    | .ptr id i c=>Rd.get id fun
     | some (.var T cs)=> .aB (Nat.beq T T0&&(qD P T&&(Nat.beq cs.length (P.cellsOf T)&&(Nat.beq i 0&&Nat.beq c 0)))) (.ret ⟨.bx [],[(id,.var T (.undef::cs.tail))]⟩)
     | _=> .fail
    | _=> .fail
   | _=> .fail):Rd R).run C hp=some (r,rd)):BL P A (Oper.mk dst (.call (Go.Call.mk (.value (.func f)) args argTypes)) ty pos after guard) a w I β hp B M w0 r:=by
 cases ha:args.toList with
 | nil=>rw[ha] at h;cases h
 | cons x l=>
  rw[ha] at h
  cases l with
  | cons _ _=>cases h
  | nil=>
   simp only at h
   have e1:args= #[x]:=by rw[←Array.toArray_toList (xs:=args),ha]
   subst e1
   have hx:=hs.ev hg ty x
   cases fZ:aV P A.aF ty sl x<;>rw[fZ] at h hx<;>simp only at h<;>first|(cases h;done)|skip
   rename_i id i c
   obtain ⟨l,h1⟩:=run_get h
   cases ab:hp id with
   | none=>rw[ab] at h1;cases h1
   | some blk=>
    rw[ab] at h1
    cases blk<;>simp only at h1<;>first|(cases h1;done)|skip
    rename_i T cs
    obtain ⟨h2,h3⟩:=aI h1
    simp only[aM,ba] at h2
    obtain ⟨rfl,b6,hlc,rfl,rfl⟩:=h2
    obtain rfl:=aU h3
    obtain ⟨b,hb,he⟩:=hx.iL ab (by simp)
    have hr:=S.h.rel id _ ab
    rw[hb] at hr
    cases hr with
    | @var _ b' Ca _ az hh bn hI im g9=>
     cases az
     have vO:a.eval x= .pointer (some ⟨b,0,none⟩):=by rw[he];simp[ai.sz]
     obtain ⟨q1,q2⟩:=hP.ext f T BQ b Ca w hh (bn.trans hlc) (g9 b6)
     have h0:0<Ca.size:=by
      rcases g9 b6 with k|k<;>exact (iY.1 k).1
     have pQ:(V.undef::cs.tail).length=cs.length:=by
      cases cs with
      | nil=>rw[bn] at h0;simp at h0
      | cons _ _=>rfl
     have rel: ∀(C':Array Value),(∀j,0<j→C'[j]? =Ca[j]?)→∀(j:Nat) v y,C'[j]? =some v→(V.undef::cs.tail)[j]? =some y→aj P w I β hp v y:=by
      intro C' yk j v y hj hy
      cases j with
      | zero=>simp at hy;subst hy;exact .undef
      | succ j=>
       rw[yk _ (by omega)] at hj
       refine im (j+1) v y hj ?_
       cases cs with
       | nil=>rw[bn] at h0;simp at h0
       | cons _ _=>simpa using hy
     have fin: ∀w' C',(∀b',b'≠b→w'.heap[b']? =w.heap[b']?)→w'.heap[b]? =some (.cells C' T (0,0))→C'.size=Ca.size→w.heap.size≤w'.heap.size→w'.os=w.os∧w'.output=w.output→
       (∀j,0<j→C'[j]? =Ca[j]?)→(C'[0]? =some (.pointer none)∨C'[0]? =some (.pointer (some ⟨b,0,none⟩)))→
       Le P w I β hp w' I β (aL hp id (some (.var T (V.undef::cs.tail))))∧aH P w' I β (aL hp id (some (.var T (V.undef::cs.tail)))) B M w0:=by
      intro w' C' k1 k2 k3 k4 k5 k6 k7
      exact F6 (w':=w') (blk':= .var T (V.undef::cs.tail)) S ab (by simp) rfl hb hI (by simp) k1 (by rw[oE k2,oE hh,k3]) k4 k5 fun hle=>
       .var rfl k2 (by rw[k3,bn,pQ]) hI (fun j v y hj hy=>(rel C' k6 j v y hj hy).mono hle) fun _=>k7
     intro next Q hn
     unfold Oper.wp
     have e2:(execOp a.eval ⟨dst,.call ⟨.value (.func f),#[x],argTypes⟩,ty,pos,after,guard⟩).run P w= .ok (.enter f #[.pointer (some ⟨b,0,none⟩)]) w:=by
      have fG:a.eval (.func f)= .func (.func f) #[] #[]:=rfl
      simpa[execOp,resolve,fG,Deferred.ofValue,invoke,vO] using q1
     rw[e2,Oper.upon_enter]
     refine q2.mono fun e w' BN=> ?_
     obtain ⟨rfl,hw⟩:=BN
     have Tf:Le P w I β hp w' I β (aL hp id (some (.var T (V.undef::cs.tail))))∧aH P w' I β (aL hp id (some (.var T (V.undef::cs.tail)))) B M w0:=by
      rcases hw with rfl|rfl
      ·exact fin w' Ca (fun _ _=>rfl) hh rfl (ax _) ⟨rfl,rfl⟩ (fun _ _=>rfl) (g9 b6)
      ·refine fin (w.setCell ⟨b,0,none⟩ (.pointer (some ⟨b,0,none⟩))) (Ca.setIfInBounds 0 (.pointer (some ⟨b,0,none⟩))) (fun b' ca=> ?_) ?_ (by simp) (by simp[World.setCell]) ⟨rfl,rfl⟩ (fun j hj=> ?_) (.inr ?_)
       ·simp only[World.setCell,Aq]
        rw[ag (fun e=>ca e.symm)]
       ·simp[World.setCell,Aq,hh]
       ·rw[Fq (by omega)]
       ·rw[Kn h0]
     exact hn (.tuple #[]) w' I β a.defers Tf.1 Tf.2 (.bx rfl fun j v y hj _=>by simp at hj) fun d hd=> .inl hd
theorem adH (hC:mb P A C) (hP:kb P A) (S:aH P w I β hp B M w0) (hg:iI P A.aF w I) {a:Act} {sl:Nat→V} (hs:lU P w I β hp a sl) {ix nb:Nat} {o:Oper} {r:R} {rd:List Nat}
  (h:(gm P A sl ix nb o).run C hp=some (r,rd)):BL P A o a w I β hp B M w0 r:=by
 cases hc:LM o.op with
 | false=>exact (ade S hg hs hc h).step
 | true=>
  obtain ⟨dst,op,ty,pos,after,guard⟩:=o
  cases op<;>simp only[LM] at hc<;>first|(cases hc;done)|skip
  case defer c=>
   obtain ⟨callee,args,argTypes⟩:=c
   cases callee with
   | invoke r m=>simp only[gm] at h;cases h
   | builtin b=>simp only[gm] at h;cases h
   | value f=>
   cases f with
   | tmp t=>
    simp only[gm] at h
    cases b6:sl t<;>rw[b6] at h<;>simp only at h<;>first|(cases h;done)|skip
    rename_i f xs ys
    obtain ⟨h1,h2⟩:=aI h
    obtain rfl:=aU h2
    have hv:=hs t
    rw[b6] at hv
    generalize vS:a.tmps.getD t undef=vt at hv
    cases hv with
    | @fn _ fs cs _ _ q1 q2 q3 q4=>
     intro next Q hn
     unfold Oper.wp
     have fG:a.eval (.tmp t)= .func (.func f) fs cs:=vS
     have e1:(execOp a.eval ⟨dst,.defer ⟨.value (.tmp t),args,argTypes⟩,ty,pos,after,guard⟩).run P w= .ok (.defer {target:= .fn (.func f) cs,args:=fs++args.map a.eval}) w:=by
      simp[execOp,resolve,fG,Deferred.ofValue]
     rw[e1,Oper.upon_defer]
     exact hn undef w I β _ (Le.refl w I β hp) S .undef fun d hd=>by
      rcases gz.1 hd with rfl|hd
      ·exact .inr ⟨f,cs,rfl,h1⟩
      ·exact .inl hd
   | func f=>simp only[gm] at h;cases h
   | const _=>simp only[gm] at h;cases h
   | global _=>simp only[gm] at h;cases h
  rename_i c
  obtain ⟨callee,args,argTypes⟩:=c
  cases callee with
  | invoke r m=>cases hc
  | builtin b=>cases hc
  | value f=>
   cases f with
   | func f=>
    simp only[gm] at h
    cases BQ:A.ext f with
    | some T0=>
     rw[BQ] at h
     simp only at h
     exact adG hP S hg hs BQ h
    | none=>
    rw[BQ] at h
    simp only at h
    cases lx:A.pF f with
    | some e0=>
     rw[lx] at h
     simp only at h
     exact adF hP S hg hs lx h
    | none=>
    rw[lx] at h
    simp only at h
    obtain ⟨h1,h2⟩:=aI h
    rw[ba] at h1
    obtain ⟨k1,k2⟩:=hs.args hg h1
    refine Td hC hP S hg k1 k2 h2 ?_
    have e1:(args.map a.eval).toList.toArray=args.map a.eval:=Array.toArray_toList
    rw[e1]
    simp[execOp,resolve,Act.eval,Deferred.ofValue,invoke]
   | tmp t=>
    simp only[gm] at h
    cases b6:sl t<;>rw[b6] at h<;>simp only at h<;>first|(cases h;done)|skip
    rename_i f xs ys
    obtain ⟨h1,h2⟩:=aI h
    rw[ba] at h1
    obtain ⟨k1,k2⟩:=hs.args hg h1
    have hv:=hs t
    rw[b6] at hv
    generalize vS:a.tmps.getD t undef=vt at hv
    cases hv with
    | @fn _ fs cs _ _ q1 q2 q3 q4=>
     have l1:fs.toList.length=xs.length:=by simpa using q1
     have l3:cs.toList.length=ys.length:=by simpa using q3
     have r1: ∀(j:Nat) v x,fs.toList[j]? =some v→xs[j]? =some x→aj P w I β hp v x:=fun j v x hj hx=>q2 j v x (by simpa using hj) hx
     have r3: ∀(j:Nat) v x,cs.toList[j]? =some v→ys[j]? =some x→aj P w I β hp v x:=fun j v x hj hx=>q4 j v x (by simpa using hj) hx
     refine Td hC hP S hg (vals:=fs.toList++(args.map a.eval).toList++cs.toList) (args:=xs++((args.toList.zip argTypes.toList).map fun p=>aV P A.aF p.2 sl p.1)++ys) (by simp only[dd];omega) ?_ h2 ?_
     ·exact Te (by simp only[dd];omega) (Te l1 r1 k2) r3
     ·have e1:(fs.toList++(args.map a.eval).toList++cs.toList).toArray=fs++args.map a.eval++cs:=by
       apply Array.toList_inj.1;simp
      rw[e1]
      have fG:a.eval (.tmp t)= .func (.func f) fs cs:=vS
      simp[execOp,resolve,fG,Deferred.ofValue,invoke]
   | _=>cases hc
end
section
variable {P:Program} {A:cX} {w w':World} {I I' I2:Nat→Prop} {μ β aq:Nat→Option Nat} {hp hp':Nat→Option ai} {C:ae} {B:Nat} {M:Nat→Prop} {w0:Start}
structure jK (P:Program) (E:FuncId→Bool) (G:Nat→V) (w:World) (I:Nat→Prop) (β:Nat→Option Nat) (n:Nat) (a:Act) (st:St):Prop where
 sl:lU P w I β st.hp a st.sl
 size:a.tmps.size=n
 defers: ∀d∈a.defers,BK E d
 aF:iI P G w I
theorem Mc {E:FuncId→Bool} {G:Nat→V} {n:Nat} {a:Act} {st:St} {o:Oper} {v:Value} {x:V} {hp':Nat→Option ai} {ds:List Deferred} (h:jK P E G w I β n a st) (hle:Le P w I β st.hp w' I' aq hp') (hd:tW o n=true)
  (hv:aj P w' I' aq hp' v x) (mu: ∀d∈ds,d∈a.defers∨BK E d):jK P E G w' I' aq n ({a with defers:=ds}.put o.dst v) ⟨jd st.sl o.dst x,hp',st.nb⟩:=by
 have Tg: ∀d∈ds,BK E d:=fun d hd=>(mu d hd).elim (h.defers d) id
 cases adI:o.dst with
 | none=>exact ⟨fun k=>(h.sl k).mono hle,h.size,Tg,h.aF.mono hle.dM hle.cE⟩
 | some d=>
  have a9:d<a.tmps.size:=by
   unfold tW at hd
   rw[adI] at hd
   rw[h.size]
   simpa using hd
  refine ⟨fun k=> ?_,by simp[Act.put,h.size],Tg,h.aF.mono hle.dM hle.cE⟩
  simp only[Act.put,jd,aL]
  cases hb:Nat.beq k d with
  | true=>
   rw[ba] at hb
   subst hb
   simpa[a9] using hv
  | false=>
   have ca:d≠k:=fun e=>by rw[e,ky] at hb;cases hb
   have:=(h.sl k).mono hle
   simpa[Fq ca] using this
theorem Th {E:FuncId→Bool} {G:Nat→V} {n:Nat} {a:Act} {st:St} {d:Nat} {b:Bool} (h:jK P E G w I β n a st) (hd:st.sl d= .bool b):a.tmps[d]? =some (.bool b):=by
 have:=h.sl d
 rw[hd] at this
 have:=this.kG
 cases ht:a.tmps[d]? with
 | none=>simp[ht] at this;cases this
 | some v=>simp[ht] at this;rw[this]
theorem adJ {x:V} {b:Bool} (h:mw x=some (some b)):x= .bool b:=by
 cases x with
 | bool c=>simp only[mw] at h;injection h with h;injection h with h;rw[h]
 | bx vs=>cases vs<;>simp[mw] at h
 | _=>simp[mw] at h
theorem adK {x:V} (h:mw x=some none):x= .bx []:=by
 cases x with
 | bx vs=>cases vs with
  | nil=>rfl
  | cons _ _=>simp[mw] at h
 | bool c=>simp[mw] at h
 | _=>simp[mw] at h
theorem aj.adL {v:Value} (h:aj P w I β hp v (.bx [])):v= .tuple #[]:=by
 cases h with
 | @bx cs _ hs _=>
  have:cs= #[]:=by
   apply Array.eq_empty_of_size_eq_zero
   simpa using hs
  rw[this]
theorem aj.Ti:aj P w I β hp Go.undef (.bx []):= .bx (by rfl) (fun j v x _ hx=>by simp at hx)
theorem Tj (hC:mb P A C) (hP:kb P A) {ops:Array Oper} {n i nb:Nat} {o:Oper} (ho:ops[i]? =some o) {a:Act} {st st':St} {R W:List Nat} (S:aH P w I β st.hp B M w0) (hA:jK P A.idle A.aF w I β n a st)
  (h:iG P A C n ops i o nb st=some (st',R,W)) {K:Act→World→Prop} {Q:Exit→Act→World→Prop}
  (hK: ∀a' w' I' aq,Le P w I β st.hp w' I' aq st'.hp→aH P w' I' aq st'.hp B M w0→jK P A.idle A.aF w' I' aq n a' st'→K a' w'):wpOp P ops Q i K a w:=by
 unfold iG at h
 cases hd:tW o n with
 | false=>rw[hd] at h;cases h
 | true=>
  rw[hd] at h
  simp only[cond_true] at h
  have go: ∀{Md:St} {R W:List Nat},(((gm P A st.sl i (nb+64*i) o).run C st.hp).bind fun r=>some ((⟨jd st.sl o.dst r.1.v,b9 st.hp r.1.upd,st.nb⟩:St),r.2,r.1.upd.map (·.1)))=some (Md,R,W)→Md=st'→
    o.wp P a w K Q:=by
   intro Md R W h e
   obtain ⟨⟨r,rd⟩,h1,h2⟩:=bind_some h
   cases h2
   subst e
   exact adH hC hP S hA.aF hA.sl h1 K Q fun v w' I' aq ds k1 k2 k3 k4=>hK _ w' I' aq k1 k2 (Mc hA k1 hd k3 k4)
  unfold wpOp
  rw[ho]
  simp only
  cases hg:o.guard with
  | none=>
   rw[hg] at h
   simp only[Region.wanted,hg,kz]
   exact .inl (go h rfl)
  | some gw=>
   obtain ⟨g,want⟩:=gw
   rw[hg] at h
   simp only at h
   cases mK:(ops[g]?).bind (·.dst) with
   | none=>rw[mK] at h;cases h
   | some d=>
    rw[mK] at h
    simp only at h
    cases nH:mw (st.sl d) with
    | none=>rw[nH] at h;cases h
    | some ob=>
    rw[nH] at h
    cases ob with
    | none=>
     have yh:=adK nH
     have hy:yielded ops a.tmps g=none:=by
      unfold yielded
      rw[mK]
      have:=hA.sl d
      rw[yh] at this
      have hu:=aj.adL this
      simp only[Option.bind_some]
      cases ht:a.tmps[d]? with
      | none=>rfl
      | some v=>simp[ht] at hu;subst hu;rfl
     simp only[Region.wanted,hg,hy]
     injection h with h
     injection h with h3 h4
     subst h3
     have h2:((none:Option Bool)==some want)=false:=rfl
     simp only[h2,Bool.false_eq_true,lO]
     exact hK _ w I β (Le.refl w I β st.hp) S (Mc (ds:=a.defers) hA (Le.refl w I β st.hp) hd aj.Ti fun d h=> .inl h)
    | some b=>
    simp only at h
    have yh:=adJ nH
    have hy:yielded ops a.tmps g=some b:=by
     unfold yielded
     rw[mK]
     simp only[Option.bind_some,Th hA yh]
    simp only[Region.wanted,hg,hy]
    by_cases hb:b=want
    ·subst hb
     simp only[beq_self_eq_true,cond_true] at h
     simp only[beq_self_eq_true,kz]
     exact .inl (go h rfl)
    ·have h1:(b==want)=false:=by simp[hb]
     have h2:(some b==some want)=false:=by simp[hb]
     rw[h1] at h
     simp only[cond_false] at h
     injection h with h
     injection h with h3 h4
     subst h3
     simp only[h2,Bool.false_eq_true,lO]
     exact hK _ w I β (Le.refl w I β st.hp) S (Mc (ds:=a.defers) hA (Le.refl w I β st.hp) hd aj.Ti fun d h=> .inl h)
theorem v5 {α:Type}: ∀{p:Rd α} {r:α} {rd:List Nat},p.run C hp=some (r,rd)→(∀id∈rd,hp' id=hp id)→p.run C hp'=some (r,rd)
 | .ret a,r,rd,h,_=>h
 | .fail,r,rd,h,_=>by cases h
 | .get id k,r,rd,h,he=>by
  obtain ⟨x,h1,h2⟩:=bind_some h
  cases h2
  have e1:hp' id=hp id:=he id (by simp)
  have:=v5 (p:=k (hp id)) (r:=x.1) (rd:=x.2) h1 (fun i hi=>he i (by simp[hi]))
  simp only[Rd.run,e1,this,Option.bind_some]
 | .opt o k,r,rd,h,he=>by
  obtain ⟨x,h1,h2⟩:=bind_some h
  simp only[Rd.run,h1,Option.bind_some]
  exact v5 h2 he
 | .aB b k,r,rd,h,he=>by
  obtain ⟨h1,h2⟩:=aI h
  simp only[Rd.run,h1,cond_true]
  exact v5 h2 he
 | .call key ds k,r,rd,h,he=>by
  obtain ⟨x,h1,h2⟩:=bind_some h
  simp only[Rd.run,h1,Option.bind_some]
  exact v5 h2 he
 | .alt true x y,r,rd,h,he=>v5 (p:=x) h he
 | .alt false x y,r,rd,h,he=>v5 (p:=y) h he
theorem adM {G:Nat→V} {sl sl':Nat→V} {t:TypeId} {x:Operand} (h: ∀k,x= .tmp k→sl k=sl' k):aV P G t sl x=aV P G t sl' x:=by
 cases x with
 | tmp k=>exact h k rfl
 | _=>rfl
theorem adN {sl sl':Nat→V} {ix nb:Nat} {o:Oper} (h: ∀x∈o.op.operands,∀k,x= .tmp k→sl k=sl' k):gm P A sl ix nb o=gm P A sl' ix nb o:=by
 have fG: ∀t x,x∈o.op.operands→aV P A.aF t sl x=aV P A.aF t sl' x:=fun t x hx=>adM (h x hx)
 obtain ⟨dst,op,ty,pos,after,guard⟩:=o
 have Tk: ∀(t:TypeId) (ps:Array (Nat × Operand)),(∀x∈ps.map (·.2),aV P A.aF t sl x=aV P A.aF t sl' x)→
   (ps.toList.map fun p=>(p.1,aV P A.aF t sl p.2))=ps.toList.map fun p=>(p.1,aV P A.aF t sl' p.2):=fun t ps hp=>
  ow fun p hm=>by rw[hp p.2 (Array.mem_map.2 ⟨p,qA.1 hm,rfl⟩)]
 have adO: ∀(t:TypeId) (ps:Array (Nat × Operand)),(∀x∈ps.map (·.2),aV P A.aF t sl x=aV P A.aF t sl' x)→
   (ps.toList.map fun p=>(aV P A.aF t sl p.2).cells)=ps.toList.map fun p=>(aV P A.aF t sl' p.2).cells:=fun t ps hp=>
  ow fun p hm=>by rw[hp p.2 (Array.mem_map.2 ⟨p,qA.1 hm,rfl⟩)]
 cases op<;>simp only[Op.operands] at fG<;>simp only[gm]
 case pick c x y=>rw[fG ty c (by simp),fG ty x (by simp),fG ty y (by simp)]
 case build t ps=>rw[Tk ty ps fun x hx=>fG ty x (by simpa using hx),adO ty ps fun x hx=>fG ty x (by simpa using hx)]
 case buildSlice t len ps=>
  split
  ·rename_i e _
   rw[Tk e ps fun x hx=>fG e x (by simpa using hx)]
  ·rfl
 case slice t x lo hi mx=>
  cases mx with
  | some m=>
   have e1:lo.map (aV P A.aF 0 sl)=lo.map (aV P A.aF 0 sl'):=by
    cases lo with
    | none=>rfl
    | some l=>simp only[Option.map_some,fG 0 l (by simp)]
   have e2:hi.map (aV P A.aF 0 sl)=hi.map (aV P A.aF 0 sl'):=by
    cases hi with
    | none=>rfl
    | some l=>simp only[Option.map_some,fG 0 l (by simp)]
   have e3:=fG 0 m (by simp)
   simp only[fG ty x (by simp),e1,e2,e3]
  | none=>
   have e1:lo.map (aV P A.aF 0 sl)=lo.map (aV P A.aF 0 sl'):=by
    cases lo with
    | none=>rfl
    | some l=>simp only[Option.map_some,fG 0 l (by simp)]
   have e2:hi.map (aV P A.aF 0 sl)=hi.map (aV P A.aF 0 sl'):=by
    cases hi with
    | none=>rfl
    | some l=>simp only[Option.map_some,fG 0 l (by simp)]
   simp only[fG ty x (by simp),e1,e2]
 case call c=>
  obtain ⟨callee,args,argTypes⟩:=c
  have v7: ∀t x,x∈args→aV P A.aF t sl x=aV P A.aF t sl' x:=fun t x hx=>fG t x (by simp[Call.operands,hx])
  have hl: ∀t (l:List Operand),(∀x∈l,x∈args)→l.map (aV P A.aF t sl)=l.map (aV P A.aF t sl'):=fun t l hl=>ow fun x hx=>v7 t x (hl x hx)
  have hz:((args.toList.zip argTypes.toList).map fun p=>aV P A.aF p.2 sl p.1)=(args.toList.zip argTypes.toList).map fun p=>aV P A.aF p.2 sl' p.1:=
   ow fun p hp=>v7 p.2 p.1 (qA.1 (List.of_mem_zip hp).1)
  cases callee with
  | invoke r m=>rfl
  | builtin b=>
   have cF: ∀x∈args.toList,∀t,aV P A.aF t sl x=aV P A.aF t sl' x:=fun x hx t=>v7 t x (qA.1 hx)
   have GV: ∀t (l:List Operand),(∀x∈l,∀t,aV P A.aF t sl x=aV P A.aF t sl' x)→l.map (aV P A.aF t sl)=l.map (aV P A.aF t sl'):=fun t l h=>ow fun x hx=>h x hx t
   cases b<;>first|rfl|skip
   case append=>
    dsimp only
    generalize args.toList=al at cF
    match al,cF,argTypes.toList with
    | [s,x],cF,[t,u]=>simp only[cF s (by simp),cF x (by simp)]
    | [],_,_=>rfl
    | [_],_,_=>rfl
    | _::_::_::_,_,_=>rfl
    | [_,_],_,[]=>rfl
    | [_,_],_,[_]=>rfl
    | [_,_],_,_::_::_::_=>rfl
   case copy=>
    dsimp only
    generalize args.toList=al at cF
    match al,cF,argTypes.toList with
    | [s,x],cF,[t,u]=>simp only[cF s (by simp),cF x (by simp)]
    | [],_,_=>rfl
    | [_],_,_=>rfl
    | _::_::_::_,_,_=>rfl
    | [_,_],_,[]=>rfl
    | [_,_],_,[_]=>rfl
    | [_,_],_,_::_::_::_=>rfl
   case len=>
    dsimp only
    generalize args.toList=al at cF
    match al,cF,argTypes.toList with
    | [x],cF,[t]=>simp only[cF x (by simp)]
    | [],_,_=>rfl
    | _::_::_,_,_=>rfl
    | [_],_,[]=>rfl
    | [_],_,_::_::_=>rfl
   case clear=>
    dsimp only
    generalize args.toList=al at cF
    match al,cF,argTypes.toList with
    | [x],cF,[t]=>simp only[cF x (by simp)]
    | [],_,_=>rfl
    | _::_::_,_,_=>rfl
    | [_],_,[]=>rfl
    | [_],_,_::_::_=>rfl
   case unsafeSliceData=>
    dsimp only
    generalize args.toList=al at cF
    match al,cF with
    | [],_=>rfl
    | [x],cF=>simp only[cF x (by simp)]
    | _::_::_,_=>rfl
   case unsafeString=>
    dsimp only
    generalize args.toList=al at cF
    match al,cF,argTypes.toList with
    | [s,x],cF,[t,u]=>simp only[cF s (by simp),cF x (by simp)]
    | [],_,_=>rfl
    | [_],_,_=>rfl
    | _::_::_::_,_,_=>rfl
    | [_,_],_,[]=>rfl
    | [_,_],_,[_]=>rfl
    | [_,_],_,_::_::_::_=>rfl
   case max=>
    dsimp only
    generalize args.toList=al at cF
    match al,cF with
    | [],_=>rfl
    | x::l,cF=>simp only[cF x (by simp),GV ty l (fun y hy=>cF y (by simp[hy]))]
   case min=>
    dsimp only
    generalize args.toList=al at cF
    match al,cF with
    | [],_=>rfl
    | x::l,cF=>simp only[cF x (by simp),GV ty l (fun y hy=>cF y (by simp[hy]))]
  | value f=>
   cases f<;>first|rfl|skip
   ·rename_i t
    have ht:sl t=sl' t:=h (.tmp t) (by simp[Op.operands,Call.operands]) t rfl
    simp only[hz,ht]
   ·simp only[hz]
    cases hx:args.toList with
    | nil=>rfl
    | cons x l=>
     cases l with
     | cons _ _=>rfl
     | nil=>simp only[v7 ty x (qA.1 (by rw[hx];simp))]
 case defer c=>
  obtain ⟨callee,args,argTypes⟩:=c
  cases callee with
  | invoke r m=>rfl
  | builtin b=>rfl
  | value f=>
   cases f<;>first|rfl|skip
   rename_i t
   have ht:sl t=sl' t:=h (.tmp t) (by simp[Op.operands,Call.operands]) t rfl
   simp only[ht]
 case makeFunc fn a b=>
  cases fn<;>first|rfl|skip
  have e1:a.toList.map (aV P A.aF ty sl)=a.toList.map (aV P A.aF ty sl'):=ow fun x hx=>fG ty x (by simp[qA.1 hx])
  have e2:b.toList.map (aV P A.aF ty sl)=b.toList.map (aV P A.aF ty sl'):=ow fun x hx=>fG ty x (by simp[qA.1 hx])
  dsimp only
  rw[e1,e2]
 case makeMap t r=>cases r<;>rfl
 all_goals first
  | rfl
  | (simp[fG];done)
end
section
variable {P:Program} {A:cX} {w w':World} {I I' I2:Nat→Prop} {μ β aq:Nat→Option Nat} {hp hp':Nat→Option ai} {C:ae} {B:Nat} {M:Nat→Prop} {w0:Start}
theorem Tl {n i nb:Nat} {ops:Array Oper} {o:Oper} {st st':St} {R W:List Nat} (h:iG P A C n ops i o nb st=some (st',R,W)):
  ∃x upd,st'=⟨jd st.sl o.dst x,b9 st.hp upd,st.nb⟩∧W=upd.map (·.1)∧∀ft:St,(∀d∈o.looksAt ops,ft.sl d=st.sl d)→(∀id∈R,ft.hp id=st.hp id)→
   iG P A C n ops i o nb ft=some (⟨jd ft.sl o.dst x,b9 ft.hp upd,ft.nb⟩,R,W):=by
 unfold iG at h
 cases hd:tW o n with
 | false=>rw[hd] at h;cases h
 | true=>
  rw[hd] at h
  simp only[cond_true] at h
  have go:(((gm P A st.sl i (nb+64*i) o).run C st.hp).bind fun r=>some ((⟨jd st.sl o.dst r.1.v,b9 st.hp r.1.upd,st.nb⟩:St),r.2,r.1.upd.map (·.1)))=some (st',R,W)→
    ∃x upd,st'=⟨jd st.sl o.dst x,b9 st.hp upd,st.nb⟩∧W=upd.map (·.1)∧∀ft:St,(∀d∈o.looksAt ops,ft.sl d=st.sl d)→(∀id∈R,ft.hp id=st.hp id)→
     (((gm P A ft.sl i (nb+64*i) o).run C ft.hp).bind fun r=>some ((⟨jd ft.sl o.dst r.1.v,b9 ft.hp r.1.upd,ft.nb⟩:St),r.2,r.1.upd.map (·.1)))=some (⟨jd ft.sl o.dst x,b9 ft.hp upd,ft.nb⟩,R,W):=by
   intro h
   obtain ⟨⟨r,rd⟩,h1,h2⟩:=bind_some h
   cases h2
   refine ⟨r.v,r.upd,rfl,rfl,fun ft hs hh=> ?_⟩
   rw[adN (sl':=st.sl) fun x hx k hk=> ?_,v5 h1 hh]
   ·rfl
   ·subst hk
    exact hs k (List.mem_append_left _ (List.mem_filterMap.2 ⟨.tmp k,by simpa using hx,rfl⟩))
  cases hg:o.guard with
  | none=>
   rw[hg] at h
   obtain ⟨x,upd,e1,e2,e3⟩:=go h
   refine ⟨x,upd,e1,e2,fun ft hs hh=> ?_⟩
   unfold iG
   simp only[hd,cond_true,hg]
   exact e3 ft hs hh
  | some gw=>
   obtain ⟨g,want⟩:=gw
   rw[hg] at h
   simp only at h
   cases mK:(ops[g]?).bind (·.dst) with
   | none=>rw[mK] at h;cases h
   | some d=>
    rw[mK] at h
    simp only at h
    have Me:d∈o.looksAt ops:=List.mem_append_right _ (by rw[hg];simp[mK])
    cases nH:mw (st.sl d) with
    | none=>rw[nH] at h;cases h
    | some ob=>
    rw[nH] at h
    cases ob with
    | none=>
     injection h with h
     injection h with h3 h4
     injection h4 with h5 h6
     subst h5;subst h6
     refine ⟨.bx [],[],h3.symm,rfl,fun ft hs hh=> ?_⟩
     unfold iG
     simp only[hd,cond_true,hg,mK,hs d Me,nH]
     rfl
    | some b=>
    simp only at h
    cases hb:b==want with
    | true=>
     rw[hb] at h
     obtain ⟨x,upd,e1,e2,e3⟩:=go h
     refine ⟨x,upd,e1,e2,fun ft hs hh=> ?_⟩
     unfold iG
     simp only[hd,cond_true,hg,mK,hs d Me,nH,hb]
     exact e3 ft hs hh
    | false=>
     rw[hb] at h
     simp only[cond_false] at h
     injection h with h
     injection h with h3 h4
     injection h4 with h5 h6
     subst h5;subst h6
     refine ⟨.bx [],[],h3.symm,rfl,fun ft hs hh=> ?_⟩
     unfold iG
     simp only[hd,cond_true,hg,mK,hs d Me,nH,hb,cond_false]
     rfl
theorem Tm {sl:Nat→V} {d:Option Nat} {x:V} {k:Nat} (h:d≠some k):jd sl d x k=sl k:=by
 cases d with
 | none=>rfl
 | some d=>exact eV _ _ fun e=>h (by rw[e])
theorem adP {hp:Nat→Option ai} {a b:List (Nat × ai)} (h: ∀q∈a,∀q'∈b,q.1≠q'.1):b9 (b9 hp a) b=b9 (b9 hp b) a:=by
 funext id
 by_cases ha: ∃q∈a,q.1=id
 ·have hb: ∀q∈b,q.1≠id:=by
   obtain ⟨q,hq,rfl⟩:=ha
   exact fun q' cx e=>h q hq q' cx e.symm
  rw[vZ hb]
  obtain ⟨q,hq,rfl⟩:=ha
  have same: ∀(bI iJ:Nat→Option ai) (l:List (Nat × ai)) (q:Nat × ai),q∈l→b9 bI l q.1=b9 iJ l q.1:=by
   intro bI iJ l
   induction l with
   | nil=>intro q hq;simp at hq
   | cons p l ih=>
    intro q hq
    simp only[b9,aL]
    cases hb:Nat.beq q.1 p.1 with
    | true=>rfl
    | false=>
     simp only[cond_false]
     refine ih q ((gz.1 hq).resolve_left fun e=> ?_)
     rw[e,ky] at hb;cases hb
  exact same _ _ a q hq
 ·rw[vZ (hp:=b9 hp b) (l:=a) fun q hq e=>ha ⟨q,hq,e⟩]
  have same: ∀(bI iJ:Nat→Option ai) (l:List (Nat × ai)),bI id=iJ id→b9 bI l id=b9 iJ l id:=by
   intro bI iJ l he
   induction l with
   | nil=>exact he
   | cons p l ih=>
    simp only[b9,aL]
    cases hb:Nat.beq id p.1 with
    | true=>rfl
    | false=>exact ih
  exact same _ _ b (vZ fun q hq e=>ha ⟨q,hq,e⟩)
structure Tn (ops:Array Oper) (o1 o2:Oper) (R1 W1 R2 W2:List Nat):Prop where
 apart:Oper.apart ops o1 o2=true
 w: ∀id∈W1,id∉R2∧id∉W2
 r: ∀id∈R1,id∉W2
theorem adQ {n i j nb:Nat} {ops:Array Oper} {o1 o2:Oper} {st jL ft:St} {R1 W1 R2 W2:List Nat} (h1:iG P A C n ops i o1 nb st=some (jL,R1,W1)) (h2:iG P A C n ops j o2 nb jL=some (ft,R2,W2))
  (hi:Tn ops o1 o2 R1 W1 R2 W2): ∃GW,iG P A C n ops j o2 nb st=some (GW,R2,W2)∧iG P A C n ops i o1 nb GW=some (ft,R1,W1):=by
 obtain ⟨x1,u1,e1,f1,g1⟩:=Tl h1
 obtain ⟨x2,u2,e2,f2,g2⟩:=Tl h2
 obtain ⟨a1,a2,a3⟩:=Oper.apart_spec hi.apart
 subst e1
 refine ⟨_,g2 st (fun d hd=> ?_) (fun id hd=> ?_),?_⟩
 ·simp only
  rw[Tm fun e=>a1 d e hd]
 ·simp only
  rw[vZ fun q hq e=>(hi.w id (by rw[f1];exact fL.2 ⟨q,hq,e⟩)).1 hd]
 ·rw[g1 _ (fun d hd=> ?_) (fun id hd=> ?_),e2]
  ·congr 3
   ·funext k
    cases hd1:o1.dst with
    | none=>rfl
    | some d1=>
     cases oI:o2.dst with
     | none=>rfl
     | some d2=>
      have ca:d2≠d1:=fun e=>a2 d1 hd1 (by rw[oI,e])
      simp only[jd,aL]
      cases To:Nat.beq k d1<;>cases uu:Nat.beq k d2<;>simp only[cond_true,cond_false]
      rw[ba] at To uu
      exact absurd (uu.symm.trans To) ca
   ·exact (adP fun q hq q' cx e=>(hi.w q.1 (by rw[f1];exact fL.2 ⟨q,hq,rfl⟩)).2 (by rw[f2];exact fL.2 ⟨q',cx,e.symm⟩)).symm
  ·simp only
   rw[Tm fun e=>a3 d e hd]
  ·simp only
   rw[vZ fun q hq e=>hi.r id hd (by rw[f2];exact fL.2 ⟨q,hq,e⟩)]
def yE (P:Program) (A:cX) (C:ae) (n:Nat) (ops:Array Oper) (nb:Nat):List (Nat × Oper × List Nat × List Nat)→St→St→Prop
 | [],st,st'=>st=st'
 | (i,o,R,W)::l,st,st'=> ∃jL,iG P A C n ops i o nb st=some (jL,R,W)∧yE P A C n ops nb l jL st'
def v8 (x:Nat × Oper × List Nat × List Nat):Nat × List Nat × List Nat:=(x.1,x.2.2.1,x.2.2.2)
theorem Tp {n nb:Nat} {ops:Array Oper}: ∀{l:List (Nat × Oper)} {st st':St} {log GX:Log},qK P A C n ops nb l st log=some (st',GX)→
  ∃g,g.map (fun x=>(x.1,x.2.1))=l∧GX=log++g.map v8∧yE P A C n ops nb g st st'
 | [],st,st',log,GX,h=>by
  cases h
  exact ⟨[],rfl,by simp,rfl⟩
 | (i,o)::l,st,st',log,GX,h=>by
  obtain ⟨⟨jL,R,W⟩,h1,h2⟩:=bind_some h
  obtain ⟨g,a,b,c⟩:=Tp h2
  exact ⟨(i,o,R,W)::g,by simp[a],by simp[b,v8],jL,h1,c⟩
def Tq (ops:Array Oper) (x y:Nat × Oper × List Nat × List Nat):Prop:=Tn ops x.2.1 y.2.1 x.2.2.1 x.2.2.2 y.2.2.1 y.2.2.2
theorem Tr {n nb:Nat} {ops:Array Oper} {y:Nat × Oper × List Nat × List Nat} {g2:List (Nat × Oper × List Nat × List Nat)}: ∀{g1:List (Nat × Oper × List Nat × List Nat)} {st st':St},
  yE P A C n ops nb (g1++y::g2) st st'→(∀x∈g1,Tq ops x y)→∃jL,iG P A C n ops y.1 y.2.1 nb st=some (jL,y.2.2.1,y.2.2.2)∧yE P A C n ops nb (g1++g2) jL st'
 | [],st,st',h,_=>h
 | x::g1,st,st',h,hi=>by
  obtain ⟨jL,h1,h2⟩:=h
  obtain ⟨ft,h3,h4⟩:=Tr h2 fun z hz=>hi z (nk _ hz)
  obtain ⟨GW,h5,h6⟩:=adQ h1 h3 (hi x (by simp))
  exact ⟨GW,h5,ft,h6,h4⟩
theorem Ts (hC:mb P A C) (hP:kb P A) {n nb:Nat} {ops:Array Oper} {Q:Exit→Act→World→Prop}: ∀{g:List (Nat × Oper × List Nat × List Nat)} {st st':St} {a:Act} {w:World} {I:Nat→Prop} {β:Nat→Option Nat},
  yE P A C n ops nb g st st'→(∀x∈g,ops[x.1]? =some x.2.1)→aH P w I β st.hp B M w0→jK P A.idle A.aF w I β n a st→
  (∀a' w' I' aq,Le P w I β st.hp w' I' aq st'.hp→aH P w' I' aq st'.hp B M w0→jK P A.idle A.aF w' I' aq n a' st'→Q .normal a' w')→wpOps P ops Q (g.map (·.1)) a w
 | [],st,st',a,w,I,β,h,_,S,hA,hQ=>by
  cases h
  exact hQ a w I β (Le.refl w I β _) S hA
 | x::g,st,st',a,w,I,β,h,ho,S,hA,hQ=>by
  obtain ⟨jL,h1,h2⟩:=h
  rw[jV,wpOps_cons]
  refine Tj hC hP (ho x (by simp)) S hA h1 fun a' w' I' aq k1 k2 k3=> ?_
  exact Ts hC hP h2 (fun y hy=>ho y (nk _ hy)) k2 k3 fun a2 w2 I2 cw m1 m2 m3=>hQ a2 w2 I2 cw (k1.trans m1) m2 m3
end
section
variable {P:Program} {A:cX} {w w':World} {I I' I2:Nat→Prop} {μ β aq:Nat→Option Nat} {hp hp':Nat→Option ai} {C:ae} {B:Nat} {M:Nat→Prop} {w0:Start}
inductive v9 (ops:Array Oper):Nat→Nat→Prop
 | Tt {i x:Nat} {o:Oper} {e:Edge}:ops[i]? =some o→e∈o.after→Region.binds .any e=true→e.on=x→v9 ops i x
 | trans {i x:Nat} {o:Oper} {e:Edge}:ops[i]? =some o→e∈o.after→Region.binds .any e=true→v9 ops e.on x→v9 ops i x
theorem Tu {acc:Array Nat} {x:Nat}: ∀{l:List Edge} {s:Nat},(l.foldl (fun s e=>if Region.binds .any e then s|||2^e.on|||acc.getD e.on 0 else s) s).testBit x=true→
  s.testBit x=true∨∃e∈l,Region.binds .any e=true∧(e.on=x∨(acc.getD e.on 0).testBit x=true)
 | [],s,h=> .inl h
 | e::l,s,h=>by
  simp only[List.foldl_cons] at h
  rcases Tu h with h1|⟨e',a,b⟩
  ·by_cases hb:Region.binds .any e=true
   ·rw[af hb,Nat.testBit_or,Nat.testBit_or,Bool.or_eq_true,Bool.or_eq_true] at h1
    rcases h1 with (h1|h1)|h1
    ·exact .inl h1
    ·rw[xC] at h1
     exact .inr ⟨e,by simp,hb,.inl (by simpa using h1)⟩
    ·exact .inr ⟨e,by simp,hb,.inr h1⟩
   ·rw[ag hb] at h1
    exact .inl h1
  ·exact .inr ⟨e',nk _ a,b⟩
theorem Tv {ops:Array Oper} {x:Nat}: ∀{l:List Oper} {acc:Array Nat},(∀j o,l[j]? =some o→ops[acc.size+j]? =some o)→(∀j,(acc.getD j 0).testBit x=true→v9 ops j x)→
  ∀j,((l.foldl (fun acc o=>acc.push (o.after.foldl (fun s e=>if Region.binds .any e then s|||2^e.on|||acc.getD e.on 0 else s) 0)) acc).getD j 0).testBit x=true→v9 ops j x
 | [],acc,_,GY,j,h=>GY j h
 | o::l,acc,hl,GY,j,h=>by
  simp only[List.foldl_cons] at h
  refine Tv (l:=l) ?_ ?_ j h
  ·intro j o' hj
   have:=hl (j+1) o' (by simpa using hj)
   rw[Array.size_push]
   rwa [show acc.size+1+j=acc.size+(j+1) by omega]
  ·intro k hk
   simp only[xw,Array.getElem?_push] at hk
   by_cases Mf:k=acc.size
   ·rw[af Mf] at hk
    simp only[Option.getD_some] at hk
    rw[←Fs] at hk
    have ho:=hl 0 o rfl
    rw[Nat.add_zero] at ho
    rw[Mf]
    have uu:(o.after.toList.foldl (fun s e=>if Region.binds .any e then s|||2^e.on|||acc.getD e.on 0 else s) 0).testBit x=true:=by simpa[xw] using hk
    rcases Tu uu with h0|⟨e,he,hb,h1⟩
    ·simp at h0
    ·rcases h1 with h1|h1
     ·exact .Tt ho (qA.1 he) hb h1
     ·exact .trans ho (qA.1 he) hb (GY _ h1)
   ·rw[ag Mf] at hk
    exact GY k (by simpa[xw] using hk)
theorem adR {ops:Array Oper} {i x:Nat} (h:((Region.before ops).getD i 0).testBit x=true):v9 ops i x:=by
 unfold Region.before at h
 rw[←Fs] at h
 refine Tv (l:=ops.toList) (acc:= #[]) (fun j o hj=>by simpa using hj) (fun j hj=>by simp at hj) i h
def Tw (ops:Array Oper) (listed:Array Bool):Prop:= ∀i o,ops[i]? =some o→listed.getD i false=true→∀e∈o.after,Region.binds .any e=true→listed.getD e.on false=true
theorem adS {ops:Array Oper} {listed:Array Bool} (hc:Tw ops listed) {i x:Nat} (h:v9 ops i x) (hi: ∀o,ops[i]? =some o→∀e∈o.after,Region.binds .any e=true→listed.getD e.on false=true):listed.getD x false=true:=by
 induction h with
 | Tt ho he hb hx=>rw[←hx];exact hi _ ho _ he hb
 | trans ho he hb _ ih=>exact ih fun o' nw e' vO az=>hc _ o' nw (hi _ ho _ he hb) e' vO az
theorem Tx: ∀{l:List Oper} {k j:Nat} {o:Oper},AZ k l=true→l[j]? =some o→∀e∈o.after,Region.binds .any e=true→e.on<k+j
 | [],k,j,o,_,h=>by simp at h
 | o'::l,k,j,o,hk,h=>by
  simp only[AZ,aM] at hk
  cases j with
  | zero=>
   simp at h
   subst h
   intro e he hb
   have:=gi.1 hk.1 e (qA.2 he)
   simp[hb] at this
   omega
  | succ j=>
   intro e he hb
   have:=Tx hk.2 (j:=j) (by simpa using h) e he hb
   omega
theorem Tz {ops:Array Oper} {vo:Array Nat}: ∀{l:Log},FR ops vo l=true→l.Pairwise fun x y=>AY ops vo x y=true
 | [],_=> .nil
 | x::l,h=>by
  simp only[FR,aM] at h
  exact .cons (fun y hy=>gi.1 h.1 y hy) (Tz h.2)
theorem TA {listed:Array Bool} {i:Nat} (h:listed.getD i true=false):i<listed.size∧listed.getD i false=false:=by
 rcases eg i listed.size with h'|h'
 ·refine ⟨h',?_⟩
  simpa[h'] using h
 ·simp[Array.getElem?_eq_none h'] at h
theorem TB (hC:mb P A C) (hP:kb P A) {n nb:Nat} {ops:Array Oper} {Q:Exit→Act→World→Prop} (GZ:AZ 0 ops.toList=true):
  ∀(fuel:Nat) {g:List (Nat × Oper × List Nat × List Nat)} {listed:Array Bool} {st st':St} {a:Act} {w:World} {I:Nat→Prop} {β:Nat→Option Nat},
  g.length=fuel→yE P A C n ops nb g st st'→(∀x∈g,ops[x.1]? =some x.2.1)→(g.map (·.1)).Pairwise (· < ·)→(g.map v8).Pairwise (fun x y=>AY ops (Region.before ops) x y=true)→
  listed.size=ops.size→(∀i,i<ops.size→(listed.getD i false=false↔i∈g.map (·.1)))→Tw ops listed→
  aH P w I β st.hp B M w0→jK P A.idle A.aF w I β n a st→
  (∀a' w' I' aq,Le P w I β st.hp w' I' aq st'.hp→aH P w' I' aq st'.hp B M w0→jK P A.idle A.aF w' I' aq n a' st'→Q .normal a' w')→wpAny P .any ops Q fuel listed a w
 | 0,g,listed,st,st',a,w,I,β,hf,hr,ho,a9,G0,bn,wa,lx,S,hA,hQ=>by
  obtain rfl:g=[]:=oq hf
  cases hr
  refine ⟨?_,hQ a w I β (Le.refl w I β _) S hA⟩
  rw[List.eq_nil_iff_forall_not_mem]
  intro i hi
  obtain ⟨h0,_⟩:=mem_ready.1 hi
  obtain ⟨h1,h2⟩:=TA h0
  have:=(wa i (by omega)).1 h2
  simp at this
 | fuel+1,g,listed,st,st',a,w,I,β,hf,hr,ho,a9,G0,bn,wa,lx,S,hA,hQ=>by
  refine ⟨fun BP=> ?_,fun i hi=> ?_⟩
  ·exfalso
   cases g with
   | nil=>simp at hf
   | cons x g=>
    have hx:=ho x (by simp)
    have im:x.1<ops.size:=(iY.1 hx).1
    have ez:x.1∈Region.ready .any ops listed:=by
     rw[mem_ready]
     have h0:=(wa x.1 im).2 (by simp)
     refine ⟨?_,x.2.1,hx,fun e he hb=> ?_⟩
     ·have hl:x.1<listed.size:=by omega
      simpa[hl] using h0
     ·have Lt:=Tx GZ (j:=x.1) (by simpa using hx) e he hb
      rw[eh] at Lt
      cases hle:listed.getD e.on false with
      | true=>rfl
      | false=>
       have hm:=(wa e.on (by omega)).1 hle
       simp only[jV,gz] at hm
       rw[jV,vc] at a9
       rcases hm with hm|hm
       ·omega
       ·have:=a9.1 _ hm;omega
    rw[BP] at ez
    cases ez
  ·obtain ⟨h0,oi,BR,TC⟩:=mem_ready.1 hi
   obtain ⟨h1,h2⟩:=TA h0
   have hig:=(wa i (by omega)).1 h2
   obtain ⟨y,hy,hyi⟩:=fL.1 hig
   obtain ⟨g1,g2,rfl⟩:=List.append_of_mem hy
   subst hyi
   have TD:=ho y hy
   rw[BR] at TD
   have TE:oi=y.2.1:=dr TD
   have ly:((g1++y::g2).map (·.1)).Nodup:=a9.imp fun h=>Nat.ne_of_lt h
   have adT: ∀x∈g1,Tq ops x y:=by
    intro x hx
    have hp:AY ops (Region.before ops) (v8 x) (v8 y)=true:=by
     rw[qz,jV,List.pairwise_append] at G0
     exact G0.2.2 _ (fL.2 ⟨x,hx,rfl⟩) _ (by simp)
    have TF:=ho x (eP.2 (.inl hx))
    unfold AY at hp
    rw[Bool.or_eq_true] at hp
    rcases hp with hp|hp
    ·have hl:=adS lx (adR hp) fun o nw e he hb=>by
      have:o=oi:=by
       have h3:ops[y.1]? =some o:=nw
       rw[BR] at h3
       exact (dr h3).symm
      subst this
      exact TC e he hb
     have im:x.1<ops.size:=(iY.1 TF).1
     have:=(wa x.1 im).2 (fL.2 ⟨x,eP.2 (.inl hx),rfl⟩)
     rw[show (v8 x).1=x.1 from rfl,this] at hl
     cases hl
    ·simp only[v8,xw,TF,BR,Option.getD_some,aM,ot] at hp
     obtain ⟨q1,q2,q3⟩:=hp
     refine ⟨TE▸q1,fun id ab=> ?_,fun id ab=>GN q3 ab⟩
     have:=GN q2 ab
     rw[eP] at this
     exact ⟨fun h=>this (.inl h),fun h=>this (.inr h)⟩
   obtain ⟨jL,kF,iO⟩:=Tr hr adT
   rw[←TE] at kF
   refine Tj hC hP BR S hA kF fun a' w' I' aq k1 k2 k3=> ?_
   have jo:List.Sublist (g1++g2) (g1++y::g2):=List.Sublist.append_left (List.sublist_cons_self y g2) g1
   have pL: ∀j,j≠y.1→(listed.setIfInBounds y.1 true).getD j false=listed.getD j false:=fun j hj=>getD_set_ne false (Ne.symm hj)
   refine TB hC hP GZ fuel (g:=g1++g2) (st':=st') ?_ iO (fun x hx=>ho x (jo.subset hx)) (a9.sublist (jo.map _)) (G0.sublist (jo.map _)) (by simp[bn]) (fun j hj=> ?_) (fun j o Mg dv e he hb=> ?_) k2 k3 fun a2 w2 I2 cw m1 m2 m3=>hQ a2 w2 I2 cw (k1.trans m1) m2 m3
   ·simp at hf⊢;omega
   ·by_cases qS:j=y.1
    ·subst qS
     have hl:y.1<listed.size:=by omega
     simp only[xw,Kn hl,Option.getD_some]
     refine ⟨fun h=>(by cases h),fun h=> ?_⟩
     exfalso
     rw[qz,jV,Fv,List.nodup_cons] at ly
     rw[qz,eP] at h
     rcases h with h|h
     ·exact ly.2.2 _ h _ (by simp) rfl
     ·exact ly.2.1.1 h
    ·rw[pL j qS,wa j hj]
     simp only[qz,jV,eP,gz]
     constructor
     ·rintro (h|h|h)
      ·exact .inl h
      ·exact absurd h qS
      ·exact .inr h
     ·rintro (h|h)
      ·exact .inl h
      ·exact .inr (.inr h)
   ·by_cases qS:j=y.1
    ·subst qS
     rw[BR] at Mg
     cases Mg
     exact getD_set_true (TC e he hb)
    ·rw[pL j qS] at dv
     exact getD_set_true (lx j o Mg dv e he hb)
end
section
variable {P:Program} {A:cX} {w w':World} {I I' I2:Nat→Prop} {μ β aq:Nat→Option Nat} {hp hp':Nat→Option ai} {C:ae} {B:Nat} {M:Nat→Prop} {w0:Start}
theorem TG: ∀{l:List Oper} {k j:Nat},(pJ k l)[j]? =(l[j]?).map fun o=>(k+j,o)
 | [],k,j=>by simp[pJ]
 | o::l,k,0=>by simp[pJ]
 | o::l,k,j+1=>by
  simp only[pJ,List.getElem?_cons_succ,TG]
  congr 1
  funext o
  rw[show k+1+j=k+(j+1) by omega]
theorem TH: ∀{l:List Oper} {k:Nat},(pJ k l).map (·.1)=List.range' k l.length
 | [],k=>rfl
 | o::l,k=>by simp[pJ,TH,List.range'_succ]
theorem adU (hC:mb P A C) (hP:kb P A) (hm:P.follows .mixedOrders=true) {n id:Nat} {ops:Array Oper} {draw:Bool} {st st':St} {a:Act} {Q:Exit→Act→World→Prop}
  (h:xR P A C n ops draw st=some st') (S:aH P w I β st.hp B M w0) (hA:jK P A.idle A.aF w I β n a st)
  (hQ: ∀a' w' I' aq,Le P w I β st.hp w' I' aq st'.hp→aH P w' I' aq st'.hp B M w0→jK P A.idle A.aF w' I' aq n a' st'→Q .normal a' w'):(Code.region id ops draw).wp P Q a w:=by
 obtain ⟨⟨jL,log⟩,h1,h2⟩:=bind_some h
 obtain ⟨g,g1,g2,g3⟩:=Tp h1
 have G1:g.map (·.1)=List.range ops.size:=by
  have:g.map (·.1)=(g.map fun x=>(x.1,x.2.1)).map (·.1):=by simp
  rw[this,g1,TH,List.range_eq_range']
  simp
 have TI: ∀x∈g,ops[x.1]? =some x.2.1:=by
  intro x hx
  have:(x.1,x.2.1)∈pJ 0 ops.toList:=by rw[←g1];exact fL.2 ⟨x,hx,rfl⟩
  obtain ⟨j,hj⟩:=List.mem_iff_getElem?.1 this
  rw[TG] at hj
  cases ho:ops.toList[j]? with
  | none=>rw[ho] at hj;cases hj
  | some o=>
   rw[ho] at hj
   simp only[Option.map_some,eh,dZ,la] at hj
   rw[←hj.1,←hj.2]
   simpa using ho
 cases draw with
 | false=>
  simp only[Bool.not_false,Bool.true_or,cond_true] at h2
  cases h2
  refine wp_region ?_
  rw[←G1]
  exact Ts hC hP g3 TI S hA hQ
 | true=>
  simp only[Bool.not_true,Bool.false_or] at h2
  cases hc:(Region.noSelect ops&&A0 ops log) with
  | false=>rw[hc] at h2;cases h2
  | true=>
   rw[hc] at h2
   cases h2
   simp only[aM,A0] at hc
   obtain ⟨hns,GZ,adV⟩:=hc
   simp only[List.nil_append] at g2
   refine wp_region_any hm ?_
   have hlen:g.length=ops.size:=by
    have:=congrArg List.length G1
    simpa using this
   refine TB hC hP GZ ops.size (g:=g) (st':=st') hlen g3 TI (by rw[G1];exact List.pairwise_lt_range) (by rw[←g2];exact Tz adV) (by simp) (fun i hi=> ?_) (fun i o ho hl=> ?_)
    (w:=w.drew) S.drew ⟨fun k=>(hA.sl k).mono (Le.drew w I β _),hA.size,hA.defers,hA.aF.mono (Le.drew (P:=P) w I β st.hp).dM (Le.drew (P:=P) w I β st.hp).cE⟩ fun a' w' I' aq k1 k2 k3=>hQ a' w' I' aq ((Le.drew w I β _).trans k1) k2 k3
   ·rw[G1]
    simp[hi]
   ·have hi:=(iY.1 ho).1
    simp[hi] at hl
end
section
variable {P:Program} {A:cX} {E:FuncId→Bool} {G:Nat→V} {w w':World} {I I' I2:Nat→Prop} {μ β aq:Nat→Option Nat} {hp hp':Nat→Option ai} {C:ae} {B:Nat} {M:Nat→Prop} {w0:Start}
theorem wc: ∀{l:List Nat} {hp:Nat→Option ai} {I:Nat→Prop},aH P w I β hp B M w0→∃I',Le P w I β hp w I' β (vn hp l)∧aH P w I' β (vn hp l) B M w0
 | [],hp,I,S=>⟨I,Le.refl w I β hp,S⟩
 | id::l,hp,I,S=>by
  simp only[vn]
  cases ab:hp id with
  | none=>exact wc S
  | some blk=>
   cases blk with
   | dead=>exact wc S
   | var _=>exact wc S
   | map _ _=>exact wc S
   | arr e es fz=>
    obtain ⟨h1,h2⟩:=Be S (upd:=[(id,.arr e es true)]) (fun p hp=>by
     simp only[gX] at hp
     subst hp
     exact ⟨e,es,rfl,.inl ⟨fz,ab⟩⟩)
    obtain ⟨I',h3,h4⟩:=wc (l:=l) h2
    exact ⟨I',h1.trans h3,h4⟩
   | nest e es ak=>
    obtain ⟨h1,h2⟩:=Be S (upd:=[(id,.arr e es true)]) (fun p hp=>by
     simp only[gX] at hp
     subst hp
     exact ⟨e,es,rfl,.inr ⟨ak,ab⟩⟩)
    obtain ⟨I',h3,h4⟩:=wc (l:=l) h2
    exact ⟨I',h1.trans h3,h4⟩
theorem TJ {n m:Nat} {pur:List Nat} {a:Act} {st:St} (S:aH P w I β st.hp B M w0) (hA:jK P E G w I β n a st):
  ∃I',Le P w I β st.hp w I' β (freeze m pur st).hp∧aH P w I' β (freeze m pur st).hp B M w0∧jK P E G w I' β n a (freeze m pur st):=by
 obtain ⟨I',h1,h2⟩:=wc (l:=(Re st pur).filter fun id=>Nat.ble m id) S
 exact ⟨I',h1,h2,fun k=>(hA.sl k).mono h1,hA.size,hA.defers,hA.aF.mono h1.dM h1.cE⟩
structure yF (hp:Nat→Option ai) (β:Nat→Option Nat) (ord:List Nat) (hp':Nat→Option ai) (aq:Nat→Option Nat):Prop where
 arr: ∀(j:Nat) id e es fz,ord[j]? =some id→hp id=some (.arr e es fz)→hp' j=some (.arr e es fz)
 var: ∀(j:Nat) id T cs,ord[j]? =some id→hp id=some (.var T cs)→∃jn,hp' j=some (.var T jn)
 dead: ∀(j:Nat) id,ord[j]? =some id→hp id=some .dead→hp' j=some .dead
 place: ∀(j:Nat) id,ord[j]? =some id→aq j=β id
 nest: ∀(j:Nat) id e es ak,ord[j]? =some id→hp id=some (.nest e es ak)→hp' j=some (.nest e es (ak.map fun _=>0))
 map: ∀(j:Nat) id t es,ord[j]? =some id→hp id=some (.map t es)→hp' j=some (.map t es)
theorem mL: ∀{l:List Nat} {n i j:Nat},je l n i=some j→∃k,j=i+k∧l[k]? =some n
 | [],n,i,j,h=>by cases h
 | a::l,n,i,j,h=>by
  simp only[je] at h
  cases hb:Nat.beq n a with
  | true=>
   rw[hb] at h
   cases h
   rw[ba] at hb
   exact ⟨0,rfl,by rw[hb];rfl⟩
  | false=>
   rw[hb] at h
   obtain ⟨k,h1,h2⟩:=mL h
   exact ⟨k+1,by omega,by simpa using h2⟩
def mc (hp':Nat→Option ai) (aq:Nat→Option Nat) (n:Nat) (bs:List ai):Prop:=
 ∀(k:Nat) b,bs[k]? =some b→hp' (n+k)=some b∧aq (n+k)=none
theorem Mh: ∀(ak:List Nat) (k:Nat),bQ (ak.map fun _=>0) k=0
 | [],_=>rfl
 | _::_,0=>rfl
 | _::vs,k+1=>Mh vs k
theorem TK {e:TypeId} {es:List V} {ak:List Nat} {path:Path} {ver:Nat} (hc:(Nat.blt 0 path.length&&(Nat.ble path.length ak.length&&Nat.beq (bQ ak (path.length-1)) ver))=true)
  (h:(ai.nest e es ak).vr path ver):False:=by
 simp only[aM,kW,fy,ba] at hc
 obtain ⟨h1,h2,h3⟩:=hc
 rcases h with h|h|h
 ·subst h;simp at h1
 ·omega
 ·omega
theorem TL (S:aH P w I β hp B M w0) {ord:List Nat} (hR:yF hp β ord hp' aq) {v:Value} {x:V} (hv:aj P w I β hp v x):aj P w I aq hp' v (jf hp ord x):=by
 cases hv with
 | undef=>exact .undef
 | int=>exact .int
 | bool=>exact .bool
 | str h=>exact .str h
 | list h=>exact .list h
 | nilS=>exact .nilS
 | agg=>exact .undef
 | bx=>exact .undef
 | dR=>exact .dR
 | fn=>exact .undef
 | pref a b c=>exact .pref a b c
 | @eT _ e id ab=>
  simp only[jf]
  cases bI:je ord id 0 with
  | none=>simp only[ab];exact .undef
  | some j=>
   obtain ⟨k,rfl,hk⟩:=mL bI
   exact .eT (hR.dead _ id (by simpa using hk) ab)
 | @gY _ e id off len ab=>
  simp only[jf]
  cases bI:je ord id 0 with
  | none=>simp only[ab];exact .undef
  | some j=>
   obtain ⟨k,rfl,hk⟩:=mL bI
   exact .gY (hR.dead _ id (by simpa using hk) ab)
 | @ll _ id i c ab=>
  simp only[jf]
  cases bI:je ord id 0 with
  | none=>exact .undef
  | some j=>
   obtain ⟨k,rfl,hk⟩:=mL bI
   exact .ll (hR.dead _ id (by simpa using hk) ab)
 | @ep e id fz _ ab hb=>
  simp only[jf]
  cases bI:je ord id 0 with
  | none=>
   simp only[ab]
   cases fz with
   | false=>exact .undef
   | true=>simp only[ky,cond_true];exact .list (.any fun _=>rfl)
  | some j=>
   obtain ⟨k,rfl,hk⟩:=mL bI
   have dV:ord[0+k]? =some id:=by simpa using hk
   exact .ep (hR.arr _ id _ _ _ dV ab) ((hR.place _ id dV).trans hb)
 | @whole e id es fz b cap ab hb bn cA hm=>
  simp only[jf]
  cases bI:je ord id 0 with
  | none=>
   simp only[ab]
   cases fz with
   | false=>exact .undef
   | true=>
    simp only[ky,cond_true]
    have hr:=S.h.rel id _ ab
    cases hr with
    | eu az=>rw[az] at hb;cases hb
    | arr aw az hh hs hf eU hx=>
     rw[hb] at az;cases az
     have:=vA (I':=I) (off:=0) (len:=es.length) (o:=0) hh hx (gp aw) (by omega) cA (fun _=>by simp) (fun _ h=>h) (hf rfl)
     exact .list (by simpa using this)
  | some j=>
   obtain ⟨k,rfl,hk⟩:=mL bI
   have dV:ord[0+k]? =some id:=by simpa using hk
   exact .whole (hR.arr _ id _ _ _ dV ab) ((hR.place _ id dV).trans hb) bn cA hm
 | @gG e id fz _ ab hb=>
  simp only[jf]
  cases bI:je ord id 0 with
  | none=>
   simp only[ab]
   cases fz with
   | false=>exact .undef
   | true=>simp only[ky,cond_true];exact .list (by simpa using (jD.any (P:=P) fun _=>rfl))
  | some j=>
   obtain ⟨k,rfl,hk⟩:=mL bI
   have dV:ord[0+k]? =some id:=by simpa using hk
   exact .gG (hR.arr _ id _ _ _ dV ab) ((hR.place _ id dV).trans hb)
 | @sub e id off len es fz b o cap ab hb j7 cA ho=>
  simp only[jf]
  cases bI:je ord id 0 with
  | none=>
   simp only[ab]
   cases fz with
   | false=>exact .undef
   | true=>
    simp only[ky,cond_true]
    have hr:=S.h.rel id _ ab
    cases hr with
    | eu az=>rw[az] at hb;cases hb
    | arr aw az hh hs hf eU hx=>
     rw[hb] at az;cases az
     exact .list (vA (I':=I) hh hx (gp aw) j7 cA ho (fun _ h=>h) (hf rfl))
  | some j=>
   obtain ⟨k,rfl,hk⟩:=mL bI
   have dV:ord[0+k]? =some id:=by simpa using hk
   exact .sub (hR.arr _ id _ _ _ dV ab) ((hR.place _ id dV).trans hb) j7 cA ho
 | @ptr id i c b blk ab hd hb=>
  simp only[jf]
  cases bI:je ord id 0 with
  | none=>exact .undef
  | some j=>
   obtain ⟨k,rfl,hk⟩:=mL bI
   have dV:ord[0+k]? =some id:=by simpa using hk
   cases blk with
   | dead=>exact absurd rfl hd
   | var T0 cs=>
    obtain ⟨jn,h'⟩:=hR.var _ id T0 cs dV ab
    exact .ptr (blk:= .var T0 jn) h' (by simp) ((hR.place _ id dV).trans hb)
   | arr e es fz=>exact .ptr (blk:= .arr e es fz) (hR.arr _ id _ _ _ dV ab) (by simp) ((hR.place _ id dV).trans hb)
   | nest e es ak=>exact .ptr (blk:= .nest e es (ak.map fun _=>0)) (hR.nest _ id _ _ _ dV ab) (by simp) ((hR.place _ id dV).trans hb)
   | map t es=>exact .ptr (blk:= .map t es) (hR.map _ id _ _ dV ab) (by simp) ((hR.place _ id dV).trans hb)
 | dS=>exact .dS
 | @jk _ t id ab=>
  simp only[jf]
  cases bI:je ord id 0 with
  | none=>exact .undef
  | some j=>
   obtain ⟨k,rfl,hk⟩:=mL bI
   exact .jk (hR.dead _ id (by simpa using hk) ab)
 | @cm t id b es ab hb=>
  simp only[jf]
  cases bI:je ord id 0 with
  | none=>exact .undef
  | some j=>
   obtain ⟨k,rfl,hk⟩:=mL bI
   have dV:ord[0+k]? =some id:=by simpa using hk
   exact .cm (hR.map _ id _ _ dV ab) ((hR.place _ id dV).trans hb)
 | @e7 e id es ak b cap ab hb bn cA hm=>
  simp only[jf]
  cases bI:je ord id 0 with
  | none=>simp only[ab];exact .undef
  | some j=>
   obtain ⟨k,rfl,hk⟩:=mL bI
   have dV:ord[0+k]? =some id:=by simpa using hk
   exact .e7 (hR.nest _ id _ _ _ dV ab) ((hR.place _ id dV).trans hb) bn cA hm
 | @kB v e id ver path blk ab Bc=>
  simp only[jf]
  split
  ·rename_i j e1 cH ak h1 h2
   rw[ab] at h2
   cases h2
   cases hc:(Nat.blt 0 path.length&&(Nat.ble path.length ak.length&&Nat.beq (bQ ak (path.length-1)) ver)) with
   | false=>exact .undef
   | true=>exact (TK hc Bc).elim
  ·exact .undef
 | @kC v id ver i c path blk ab Bc=>
  simp only[jf]
  split
  ·rename_i j e1 cH ak h1 h2
   rw[ab] at h2
   cases h2
   cases hc:(Nat.blt 0 path.length&&(Nat.ble path.length ak.length&&Nat.beq (bQ ak (path.length-1)) ver)) with
   | false=>exact .undef
   | true=>exact (TK hc Bc).elim
  ·exact .undef
 | @row v e e0 t id ver b i c q es l ak ab hb hq hv ht hc=>
  simp only[jf]
  split
  ·rename_i j e1 cH vY h1 h2
   obtain ⟨k,rfl,hk⟩:=mL h1
   have dV:ord[0+k]? =some id:=by simpa using hk
   cases hx:(Nat.blt 0 (q++[(i,c)]).length&&(Nat.ble (q++[(i,c)]).length vY.length&&Nat.beq (bQ vY ((q++[(i,c)]).length-1)) ver)) with
   | false=>exact .undef
   | true=>exact .row (hR.nest _ id _ _ _ dV ab) ((hR.place _ id dV).trans hb) (by simpa using hq) (Mh _ _) ht hc
  ·exact .undef
 | @cW e e0 t id ver b b1 len cap i0 c0 i c q es l ak ab hb hq hv ht nv hc=>
  simp only[jf]
  split
  ·rename_i j e1 cH vY h1 h2
   obtain ⟨k,rfl,hk⟩:=mL h1
   have dV:ord[0+k]? =some id:=by simpa using hk
   cases hx:(Nat.blt 0 (q++[(i0,c0)]).length&&(Nat.ble (q++[(i0,c0)]).length vY.length&&Nat.beq (bQ vY ((q++[(i0,c0)]).length-1)) ver)) with
   | false=>exact .undef
   | true=>exact .cW (hR.nest _ id _ _ _ dV ab) ((hR.place _ id dV).trans hb) (by simpa using hq) (Mh _ _) ht nv hc
  ·exact .undef
theorem TM (S:aH P w I β hp B M w0) {ord:List Nat} (hR:yF hp β ord hp' aq) {vs:Array Value} {xs:List V} (h: ∀(j:Nat) v x,vs[j]? =some v→xs[j]? =some x→aj P w I β hp v x) (j:Nat) (v:Value) (y:V)
  (hv:vs[j]? =some v) (hy:(xs.map (jf hp ord))[j]? =some y):aj P w I aq hp' v y:=by
 rw[eZ] at hy
 cases hx:xs[j]? with
 | none=>rw[hx] at hy;cases hy
 | some x=>rw[hx] at hy;cases hy;exact TL S hR (h j v x hv hx)
theorem TN (S:aH P w I β hp B M w0) {ord:List Nat} (hR:yF hp β ord hp' aq) {n:Nat} {v:Value} {x:V} (hv:aj P w I β hp v x) (hF:mc hp' aq n (xP hp ord n x).2):
  aj P w I aq hp' v (xP hp ord n x).1:=by
 cases x with
 | nilS e=>
  obtain ⟨h1,h2⟩:=hF 0 _ rfl
  cases hv with
  | nilS=>exact .ep h1 h2
 | fn f a b=>
  cases hv with
  | fn q1 q2 q3 q4=>exact .fn (by simpa using q1) (TM S hR q2) (by simpa using q3) (TM S hR q4)
 | _=>exact TL S hR hv
end
section
variable {P:Program} {A:cX} {w w':World} {I I' I2:Nat→Prop} {μ β aq:Nat→Option Nat} {hp hp':Nat→Option ai} {C:ae} {B:Nat} {M:Nat→Prop} {w0:Start}
theorem mc.left {n:Nat} {a b:List ai} (h:mc hp' aq n (a++b)):mc hp' aq n a:=fun k x hx=>
 h k x (by rw[kY (bH.1 hx).1];exact hx)
theorem mc.right {n:Nat} {a b:List ai} (h:mc hp' aq n (a++b)):mc hp' aq (n+a.length) b:=fun k x hx=>by
 have:=h (a.length+k) x (by rw[kZ (by omega),Nat.add_sub_cancel_left];exact hx)
 rwa [←pC] at this
def nJ (bs:List ai):Prop:= ∀b∈bs,∃e,b= .arr e [] false
theorem nJ.app {a b:List ai} (h1:nJ a) (h2:nJ b):nJ (a++b):=fun x hx=>(eP.1 hx).elim (h1 x) (h2 x)
theorem nJ.nil:nJ []:=fun x hx=>by simp at hx
theorem TO {ord:List Nat} {n:Nat} {x:V}:nJ (xP hp ord n x).2:=by
 cases x<;>simp only[xP]<;>first|exact .nil|skip
 intro b hb
 simp only[gX] at hb
 exact ⟨_,hb⟩
theorem Mi {ord:List Nat}: ∀{xs:List V} {n:Nat},nJ (oC hp ord n xs).2
 | [],n=> .nil
 | x::xs,n=>by
  simp only[oC]
  exact TO.app Mi
theorem G2 {ord:List Nat}: ∀{xs:List V} {n:Nat},(oC hp ord n xs).1.length=xs.length
 | [],n=>rfl
 | x::xs,n=>by simp only[oC,List.length_cons,G2]
theorem G3 (S:aH P w I β hp B M w0) {ord:List Nat} (hR:yF hp β ord hp' aq): ∀{xs:List V} {vs:List Value} {n:Nat},(∀(j:Nat) v x,vs[j]? =some v→xs[j]? =some x→aj P w I β hp v x)→
  mc hp' aq n (oC hp ord n xs).2→∀(j:Nat) v y,vs[j]? =some v→(oC hp ord n xs).1[j]? =some y→aj P w I aq hp' v y
 | [],vs,n,h,hF,j,v,y,hv,hy=>by simp[oC] at hy
 | x::xs,vs,n,h,hF,j,v,y,hv,hy=>by
  simp only[oC] at hF hy
  cases j with
  | zero=>
   simp at hy
   subst hy
   exact TN S hR (h 0 v x hv rfl) hF.left
  | succ j=>
   cases vs with
   | nil=>simp at hv
   | cons v0 vs=>exact G3 S hR (vs:=vs) (fun j v x hj hx=>h (j+1) v x (by simpa using hj) (by simpa using hx)) hF.right j v y (by simpa using hv) (by simpa using hy)
theorem adW {ord:List Nat} {n:Nat} {x:V}:nJ (rV hp ord n x).2:=by
 cases x<;>simp only[rV]<;>first|exact TO|exact Mi
theorem adX (S:aH P w I β hp B M w0) {ord:List Nat} (hR:yF hp β ord hp' aq) {n:Nat} {v:Value} {x:V} (hv:aj P w I β hp v x) (hF:mc hp' aq n (rV hp ord n x).2):
  aj P w I aq hp' v (rV hp ord n x).1:=by
 cases x with
 | agg cs=>
  obtain ⟨ds,rfl,h1,h2⟩:=hv.lW
  simp only[rV] at hF⊢
  exact .agg (by rw[G2];exact h1) fun j v y hj hy=>G3 S hR (vs:=ds.toList) (fun j v x hj hx=>h2 j v x (by simpa using hj) hx) hF j v y (by simpa using hj) hy
 | bx cs=>
  obtain ⟨ds,rfl,h1,h2⟩:=hv.vE
  simp only[rV] at hF⊢
  exact .bx (by rw[G2];exact h1) fun j v y hj hy=>G3 S hR (vs:=ds.toList) (fun j v x hj hx=>h2 j v x (by simpa using hj) hx) hF j v y (by simpa using hj) hy
 | _=>exact TN S hR hv hF
theorem TP {ord:List Nat} {sl:Nat→V}: ∀{l:List Nat} {n:Nat},nJ (mA hp ord sl n l).2
 | [],n=> .nil
 | s::l,n=>by
  simp only[mA]
  exact adW.app TP
theorem TQ {ord:List Nat} {sl:Nat→V} {k:Nat} {y:V}: ∀{l:List Nat} {n:Nat},mc hp' aq n (mA hp ord sl n l).2→eo (mA hp ord sl n l).1 k=some y→
  ∃n',mc hp' aq n' (rV hp ord n' (sl k)).2∧y=(rV hp ord n' (sl k)).1
 | [],n,_,h=>by cases h
 | s::l,n,hF,h=>by
  simp only[mA] at hF h
  simp only[eo] at h
  cases hb:Nat.beq k s with
  | true=>
   rw[hb] at h
   rw[ba] at hb
   subst hb
   cases h
   exact ⟨n,hF.left,rfl⟩
  | false=>
   rw[hb] at h
   exact TQ hF.right h
theorem adY {ord:List Nat} {n id:Nat}:nJ (fC hp ord n id).2:=by
 unfold fC
 split
 ·exact Mi
 ·exact .nil
 ·exact .nil
 ·exact .nil
 ·exact .nil
theorem TR {ord:List Nat}: ∀{l:List Nat} {n:Nat},nJ (gn hp ord n l).2
 | [],n=> .nil
 | s::l,n=>by
  simp only[gn]
  exact adY.app TR
theorem TS {ord:List Nat}: ∀{l:List Nat} {n:Nat},(gn hp ord n l).1.length=l.length
 | [],n=>rfl
 | x::xs,n=>by simp only[gn,List.length_cons,TS]
theorem TT {ord:List Nat}: ∀{l:List Nat} {n j:Nat} {id:Nat},l[j]? =some id→∃n',(mc hp' aq n (gn hp ord n l).2→mc hp' aq n' (fC hp ord n' id).2)∧(gn hp ord n l).1[j]? =some (fC hp ord n' id).1
 | [],n,j,id,h=>by simp at h
 | s::l,n,j,id,h=>by
  simp only[gn]
  cases j with
  | zero=>
   simp at h
   subst h
   exact ⟨n,fun hF=>hF.left,rfl⟩
  | succ j=>
   obtain ⟨n',h1,h2⟩:=TT (n:=n+(fC hp ord n s).2.length) (j:=j) (by simpa using h)
   exact ⟨n',fun hF=>h1 hF.right,by simpa using h2⟩
theorem G4: ∀{l acc:List Nat},∃t,vm hp acc l=acc++t∧(acc.Nodup→(acc++t).Nodup)
 | [],acc=>⟨[],by simp[vm],by simp⟩
 | id::l,acc=>by
  simp only[vm]
  cases hb:(lb acc id|| !(KF hp id)) with
  | true=>exact G4
  | false=>
   obtain ⟨t,h1,h2⟩:=G4 (l:=l) (acc:=acc++[id])
   refine ⟨id::t,by simp only[cond_false,h1,dk,List.singleton_append],fun hn=> ?_⟩
   have:acc++id::t=(acc++[id])++t:=by simp
   rw[this]
   refine h2 ?_
   rw[Fv]
   refine ⟨hn,by simp,fun a ha b az=> ?_⟩
   simp only[gX] at az
   subst az
   intro e
   subst e
   rw[ye ha] at hb
   cases hb
theorem TU: ∀{n:Nat} {l:List Nat},∃t,grow hp n l=l++t∧(l.Nodup→(l++t).Nodup)
 | 0,l=>⟨[],by simp[grow],by simp⟩
 | n+1,l=>by
  simp only[grow]
  obtain ⟨t,h1,h2⟩:=G4 (hp:=hp) (acc:=l) (l:=l.flatMap (KG hp))
  rw[h1]
  obtain ⟨t',h3,h4⟩:=TU (n:=n) (l:=l++t)
  exact ⟨t++t',by rw[h3,dk],fun hn=>by rw[←dk];exact h4 (h2 hn)⟩
theorem adZ {m:Nat} {live:List Nat} {st:St}: ∃t,KH m live st=List.range m++t∧(List.range m++t).Nodup:=by
 unfold KH
 obtain ⟨t,h1,h2⟩:=G4 (hp:=st.hp) (acc:=List.range m) (l:=live.flatMap fun s=>KE (st.sl s))
 rw[h1]
 obtain ⟨t',h3,h4⟩:=TU (hp:=st.hp) (n:=3) (l:=List.range m++t)
 exact ⟨t++t',by rw[h3,dk],by rw[←dk];exact h4 (h2 List.nodup_range)⟩
end
section
variable {P:Program} {A:cX} {E:FuncId→Bool} {G:Nat→V} {w w':World} {I I' I2:Nat→Prop} {μ β aq:Nat→Option Nat} {hp hp' hp0:Nat→Option ai} {C:ae} {B:Nat} {M:Nat→Prop} {w0:Start}
theorem TV {n m:Nat} {ord live:List Nat} {a:Act} {st:St} (oH:ord.Nodup) (BT: ∀id,id<m→ord[id]? =some id∨∃p,ord[id]? =some p∧st.hp p=none) (S:aH P w I β st.hp B M w0) (hA:jK P E G w I β n a st) (hE:ma w0.w w0.I μ hp0 w I β st.hp) (hm: ∀id blk,hp0 id=some blk→id<m) (kf: ∀id e es ak,hp0 id=some (.nest e es ak)→∀k,bQ ak k=0):
  ∃aq,aH P w I aq (xQ ord live st).hp B M w0∧jK P E G w I aq n a (xQ ord live st)∧ma w0.w w0.I μ hp0 w I aq (xQ ord live st).hp:=by
 have ad0:xQ ord live st=mk (mA st.hp ord st.sl (ord.length+(gn st.hp ord ord.length ord).2.length) live).1
   ((gn st.hp ord ord.length ord).1++((gn st.hp ord ord.length ord).2++(mA st.hp ord st.sl (ord.length+(gn st.hp ord ord.length ord).2.length) live).2)):=by
  rfl
 rw[ad0]
 let hp':=kA ((gn st.hp ord ord.length ord).1++((gn st.hp ord ord.length ord).2++(mA st.hp ord st.sl (ord.length+(gn st.hp ord ord.length ord).2.length) live).2))
 let aq:Nat→Option Nat:=fun j=>if j<ord.length then (ord[j]?).bind β else none
 have hlen:(gn st.hp ord ord.length ord).1.length=ord.length:=TS
 have jI: ∀j,j<ord.length→hp' j=(gn st.hp ord ord.length ord).1[j]? :=by
  intro j hj
  simp only[hp',iP]
  rw[kY (by omega)]
 have iN: ∀k,hp' (ord.length+k)=((gn st.hp ord ord.length ord).2++(mA st.hp ord st.sl (ord.length+(gn st.hp ord ord.length ord).2.length) live).2)[k]? :=by
  intro k
  simp only[hp',iP]
  rw[kZ (by omega),hlen,Nat.add_sub_cancel_left]
 have hF:mc hp' aq ord.length ((gn st.hp ord ord.length ord).2++(mA st.hp ord st.sl (ord.length+(gn st.hp ord ord.length ord).2.length) live).2):=by
  intro k b hb
  refine ⟨(iN k).trans hb,?_⟩
  simp only[aq]
  rw[ag (by omega)]
 have BP:nJ ((gn st.hp ord ord.length ord).2++(mA st.hp ord st.sl (ord.length+(gn st.hp ord ord.length ord).2.length) live).2):=TR.app TP
 have p5: ∀(j:Nat) id,ord[j]? =some id→aq j=β id:=by
  intro j id hj
  simp only[aq]
  rw[af (bH.1 hj).1,hj]
  rfl
 have sD: ∀(j:Nat) id,ord[j]? =some id→∃n',mc hp' aq n' (fC st.hp ord n' id).2∧hp' j=some (fC st.hp ord n' id).1:=by
  intro j id hj
  obtain ⟨n',h1,h2⟩:=TT (hp:=st.hp) (hp':=hp') (aq:=aq) (ord:=ord) (n:=ord.length) hj
  exact ⟨n',h1 hF.left,(jI j (bH.1 hj).1).trans h2⟩
 have hR:yF st.hp β ord hp' aq:=by
  refine ⟨fun j id e es fz hj ab=> ?_,fun j id T cs hj ab=> ?_,fun j id hj ab=> ?_,p5,fun j id e es ak hj ab=> ?_,fun j id t es hj ab=> ?_⟩
  ·obtain ⟨n',_,h2⟩:=sD j id hj
   rw[h2];simp only[fC,ab]
  ·obtain ⟨n',_,h2⟩:=sD j id hj
   rw[h2];simp only[fC,ab];exact ⟨_,rfl⟩
  ·obtain ⟨n',_,h2⟩:=sD j id hj
   rw[h2];simp only[fC,ab]
  ·obtain ⟨n',_,h2⟩:=sD j id hj
   rw[h2];simp only[fC,ab]
  ·obtain ⟨n',_,h2⟩:=sD j id hj
   rw[h2];simp only[fC,ab]
 have cls: ∀j blk',hp' j=some blk'→(∃id,ord[j]? =some id∧((blk'= .dead)∨∃blk,st.hp id=some blk∧blk≠ .dead∧∀o b,bK P w o blk' b→bK P w o blk b))∨(∃e,blk'= .arr e [] false∧aq j=none):=by
  intro j blk' hj
  rcases eg j ord.length with h|h
  ·have il:=bM h
   obtain ⟨n',_,h2⟩:=sD j _ il
   rw[hj] at h2
   refine .inl ⟨_,il,?_⟩
   cases ab:st.hp ord[j] with
   | none=>left;simp only[fC,ab] at h2;exact dr h2
   | some blk=>
    cases blk with
    | dead=>left;simp only[fC,ab] at h2;exact dr h2
    | var T0 cs=>exact .inr ⟨_,rfl,by simp,fun o b h=>by simp only[fC,ab] at h2;rw[dr h2] at h;exact .root (by simp) (h.flat (by simp))⟩
    | arr e es fz=>exact .inr ⟨_,rfl,by simp,fun o b h=>by simp only[fC,ab] at h2;rw[dr h2] at h;exact .root (by simp) (h.flat (by simp))⟩
    | map t es=>exact .inr ⟨_,rfl,by simp,fun o b h=>by simp only[fC,ab] at h2;rw[dr h2] at h;exact .root (by simp) (h.flat (by simp))⟩
    | nest e es ak=>
     refine .inr ⟨_,rfl,by simp,fun o b h=> ?_⟩
     simp only[fC,ab] at h2
     rw[dr h2] at h
     cases h with
     | root _ h=>exact .root (by simp) h
     | row h1 h2=>exact .row h1 h2
  ·obtain ⟨k,rfl⟩: ∃k,j=ord.length+k:=⟨j-ord.length,by omega⟩
   rw[iN] at hj
   obtain ⟨e,he⟩:=BP _ (jU hj)
   exact .inr ⟨e,he,(hF k _ hj).2⟩
 refine ⟨aq,⟨⟨fun j blk' hj=> ?_,fun j1 j2 b1 b2 b e1 e2 f1 f2=> ?_,fun j blk b e1 f1=> ?_,S.h.kD⟩,S.cE,S.size,S.new,S.io⟩,⟨fun k=> ?_,hA.size,hA.defers,hA.aF⟩,⟨hE.dM,hE.cE,fun id blk ab=> ?_,fun id blk blk' b ab bR hd hb=> ?_⟩⟩
 ·change hp' j=some blk' at hj
  rcases eg j ord.length with h|h
  ·have il:=bM h
   obtain ⟨n',TW,h2⟩:=sD j _ il
   rw[hj] at h2
   rw[p5 j _ il]
   cases ab:st.hp ord[j] with
   | none=>simp only[fC,ab] at h2;rw[dr h2];exact .dead
   | some blk=>
    have hr:=S.h.rel _ _ ab
    generalize β ord[j]=o at hr
    cases hr with
    | dead=>simp only[fC,ab] at h2;rw[dr h2];exact .dead
    | eu hb=>simp only[fC,ab] at h2;rw[dr h2];exact .eu hb
    | arr a1 a2 a3 a4 a5 a6 a7=>simp only[fC,ab] at h2;rw[dr h2];exact .arr a1 a2 a3 a4 a5 a6 a7
    | nest a1 a2 a3=>simp only[fC,ab] at h2;rw[dr h2];exact .nest a1 a2 a3
    | map a1 a2 a3 a4 a5 a6 a7=>simp only[fC,ab] at h2;rw[dr h2];exact .map a1 a2 a3 a4 a5 a6 a7
    | @var xs b Ca T hb hh hs dj hx g9=>
     simp only[fC,ab] at h2 TW
     rw[dr h2]
     exact .var hb hh (by rw[G2];exact hs) dj (fun i v y hi hy=>G3 S hR (vs:=Ca.toList) (fun i v x hi cR=>hx i v x (by simpa using hi) cR) TW i v y (by simpa using hi) hy) g9
  ·rcases cls j blk' hj with ⟨id,ab,_⟩|⟨e,he,hb⟩
   ·have:=(bH.1 ab).1;omega
   ·rw[he];exact .eu hb
 ·rcases cls j1 b1 e1 with ⟨Mj,o1,x1⟩|⟨e,_,hb⟩
  ·rcases cls j2 b2 e2 with ⟨cT,o2,x2⟩|⟨e,_,hb⟩
   ·obtain ⟨c1,y1,z1,g1⟩:=x1.resolve_left f1.alive
    obtain ⟨c2,y2,z2,g2⟩:=x2.resolve_left f2.alive
    rw[p5 _ _ o1] at f1
    rw[p5 _ _ o2] at f2
    have:=S.h.inj Mj cT c1 c2 b y1 y2 (g1 _ _ f1) (g2 _ _ f2)
    subst this
    obtain ⟨q1,q2⟩:=bH.1 o1
    obtain ⟨q3,q4⟩:=bH.1 o2
    exact (List.getElem_inj oH).1 (q2.trans q4.symm)
   ·subst ‹b2=_›;have:=f2.flat (by simp);rw[hb] at this;cases this
  ·subst ‹b1=_›;have:=f1.flat (by simp);rw[hb] at this;cases this
 ·rcases cls j blk e1 with ⟨Mj,o1,x1⟩|⟨e,_,hb⟩
  ·obtain ⟨c1,y1,z1,g1⟩:=x1.resolve_left f1.alive
   rw[p5 _ _ o1] at f1
   exact S.h.own Mj c1 b y1 (g1 _ _ f1)
  ·subst ‹blk=_›;have:=f1.flat (by simp);rw[hb] at this;cases this
 ·change aj P w I aq hp' (a.tmps.getD k undef) (j4 _ k)
  unfold j4
  cases LV:eo (mA st.hp ord st.sl (ord.length+(gn st.hp ord ord.length ord).2.length) live).1 k with
  | none=>exact .undef
  | some y=>
   obtain ⟨n',h1,h2⟩:=TQ hF.right LV
   simp only[Option.getD_some,h2]
   exact adX S hR (hA.sl k) h1
 ·obtain ⟨sx,k1,k2,k3⟩:=hE.blk id blk ab
  rcases BT id (hm id blk ab) with ho|⟨p,ho,bI⟩
  ·cases sx with
   | dead=>exact ⟨.dead,hR.dead id id ho k1,k2,fun h=>absurd rfl h⟩
   | var T0 cs=>
    obtain ⟨jn,h'⟩:=hR.var id id T0 cs ho k1
    refine ⟨_,h',?_,fun _=>(p5 id id ho).trans (k3 (by simp))⟩
    cases blk<;>simp_all [ai.le]
   | arr e es fz=>exact ⟨_,hR.arr id id e es fz ho k1,k2,fun _=>(p5 id id ho).trans (k3 (by simp))⟩
   | map t es=>exact ⟨_,hR.map id id t es ho k1,k2,fun _=>(p5 id id ho).trans (k3 (by simp))⟩
   | nest e es ak=>
    refine ⟨_,hR.nest id id e es ak ho k1,?_,fun _=>(p5 id id ho).trans (k3 (by simp))⟩
    obtain ⟨KP,abH,rfl,l1,l2,_⟩:=ai.KN k2
    exact ⟨rfl,l1,by simpa using l2,fun k=>by rw[kf id _ _ _ ab k];exact ku _⟩
  ·obtain ⟨n',_,h2⟩:=sD id p ho
   simp only[fC,bI] at h2
   exact ⟨.dead,h2,by cases blk<;>trivial,fun h=>absurd rfl h⟩
 ·obtain ⟨sx,k1,k2,k3⟩:=hE.blk id blk ab
  rcases BT id (hm id blk ab) with ho|⟨p,ho,bI⟩
  ·refine hE.size id blk sx b ab k1 (fun sC=> ?_) hb
   subst sC
   have:=hR.dead id id ho k1
   change hp' id=some blk' at bR
   rw[this] at bR
   exact hd (dr bR).symm
  ·obtain ⟨n',_,h2⟩:=sD id p ho
   simp only[fC,bI] at h2
   change hp' id=some blk' at bR
   rw[h2] at bR
   exact absurd (dr bR).symm hd
theorem ad1 {n m:Nat} {live:List Nat} {a:Act} {st:St} (S:aH P w I β st.hp B M w0) (hA:jK P E G w I β n a st) (hE:ma w0.w w0.I μ hp0 w I β st.hp) (hm: ∀id blk,hp0 id=some blk→id<m) (kf: ∀id e es ak,hp0 id=some (.nest e es ak)→∀k,bQ ak k=0):
  ∃aq,aH P w I aq (canon m live st).hp B M w0∧jK P E G w I aq n a (canon m live st)∧ma w0.w w0.I μ hp0 w I aq (canon m live st).hp:=by
 obtain ⟨t,BT,oH⟩:=adZ (m:=m) (live:=live) (st:=st)
 refine TV (by rw[BT];exact oH) (fun id a9=> .inl ?_) S hA hE hm kf
 rw[BT,kY (by simpa using a9)]
 simp[a9]
theorem TX: ∀{l:List Nat},pI l=true→l.Nodup
 | [],_=> .nil
 | a::l,h=>by
  simp only[pI,aM,ot] at h
  rw[List.nodup_cons]
  exact ⟨fun hm=>Bool.noConfusion ((ye hm).symm.trans h.1),TX h.2⟩
theorem ad2 {m:Nat} {mv:List Nat} {id:Nat} (h:id<m):(nr m mv)[id]? =some id∨(nr m mv)[id]? =some (m+id):=by
 unfold nr
 rw[kY (by simpa using h),eZ]
 simp only[Au h,Option.map_some]
 cases lb mv id with
 | true=>exact .inr rfl
 | false=>exact .inl rfl
end
section
variable {P:Program} {A:cX} {w w':World} {I I' I2:Nat→Prop} {μ β aq:Nat→Option Nat} {hp hp' hp0:Nat→Option ai} {C:ae} {B:Nat} {M:Nat→Prop} {w0:Start}
theorem G5 (p:Nat→Prop) (h: ∃n,p n): ∃n,p n∧∀m,p m→n≤m:=by
 obtain ⟨n,hn⟩:=h
 induction n using Nat.strongRecOn with
 | _ n ih=>
  by_cases hx: ∃m,m<n∧p m
  ·obtain ⟨m,hm,hp⟩:=hx
   exact ih m hm hp
  ·exact ⟨n,hn,fun m hm=>Nat.le_of_not_lt fun a9=>hx ⟨m,a9,hm⟩⟩
open Classical in
theorem ad3 {c:Code} {Q:Exit→Act→World→Prop} (J:Nat→Act→World→Prop) (h0: ∀a w,¬J 0 a w) (round: ∀n a w,J (n+1) a w→c.wp P (Exit.then (J n) Q) a w) {n:Nat} {a:Act} {w:World} (h:J n a w):
  (Code.loop c).wp P Q a w:=by
 refine wp_loop (fun a w=> ∃n,J n a w) (fun a w=>if h: ∃n,J n a w then (G5 _ h).choose else 0) ⟨n,h⟩ fun a w hJ=> ?_
 obtain ⟨h1,h2⟩:=(G5 _ hJ).choose_spec
 generalize hk:(G5 _ hJ).choose=k at h1 h2
 cases k with
 | zero=>exact absurd h1 (h0 a w)
 | succ k=>
  refine wp_mono (round k a w h1) fun e a' w' he=> ?_
  cases e with
  | normal=>
   have hex: ∃n,J n a' w':=⟨k,he⟩
   refine ⟨hex,?_⟩
   have h3:=(G5 _ hex).choose_spec.2 k he
   rw[pB hex,pB hJ,hk]
   omega
  | _=>exact he
def yG:Out→Exit
 | .norm=> .normal
 | .exit id=> .exit id
 | .ret=> .ret
def Inv (P:Program) (E:FuncId→Bool) (G:Nat→V) (B:Nat) (M:Nat→Prop) (w0:Start) (μ:Nat→Option Nat) (hp0:Nat→Option ai) (n:Nat) (a:Act) (w:World) (st:St):Prop:=
 ∃I β,aH P w I β st.hp B M w0∧jK P E G w I β n a st∧ma w0.w w0.I μ hp0 w I β st.hp
theorem Inv.canon {E:FuncId→Bool} {G:Nat→V} {n m:Nat} {a:Act} {st:St} {live:List Nat} (h:Inv P E G B M w0 μ hp0 n a w st) (hm: ∀id blk,hp0 id=some blk→id<m) (kf: ∀id e es ak,hp0 id=some (.nest e es ak)→∀k,bQ ak k=0):Inv P E G B M w0 μ hp0 n a w (canon m live st):=by
 obtain ⟨I,β,S,hA,hE⟩:=h
 obtain ⟨aq,a,b,c⟩:=ad1 (live:=live) S hA hE hm kf
 exact ⟨I,aq,a,b,c⟩
theorem G6: ∀{l:List BS} {ds:List V},(fo l ds).length=l.length
 | [],_=>rfl
 | b::l,ds=>by simp only[fo,List.length_cons,G6]
theorem Inv.enter {A:cX} {E:FuncId→Bool} {G:Nat→V} {n f:Nat} {ds:List V} {a:Act} (ly:pI (nr (A.sin f).bj.length (A.mv f))=true) (h:Inv P E G B M w0 μ hp0 n a w (bE (A.sin f) ds)) (hm: ∀id blk,hp0 id=some blk→id<(A.sin f).bj.length)
  (kf: ∀id e es ak,hp0 id=some (.nest e es ak)→∀k,bQ ak k=0) (yH: ∀p,(A.sin f).bj.length≤p→(bE (A.sin f) ds).hp p=none):Inv P E G B M w0 μ hp0 n a w (A1 A f ds):=by
 unfold A1
 split
 ·exact h
 ·obtain ⟨I,β,S,hA,hE⟩:=h
  obtain ⟨aq,x,y,z⟩:=TV (m:=(A.sin f).bj.length) (ord:=nr (A.sin f).bj.length (A.mv f)) (live:=(A.sin f).bX.map (·.1)) (TX ly) (fun id ab=>(ad2 ab).imp (fun h=>h) fun h=>⟨_,h,yH _ (by omega)⟩) S hA hE hm kf
  exact ⟨I,aq,x,y,z⟩
theorem Inv.reshape {E:FuncId→Bool} {G:Nat→V} {n m:Nat} {a:Act} {st:St} {S:Shape} {ds:List V} (h:Inv P E G B M w0 μ hp0 n a w st) (hs:jC m S st=some ds) (hm: ∀id blk,hp0 id=some blk→id<m):Inv P E G B M w0 μ hp0 n a w (bE S ds):=by
 obtain ⟨I,β,S1,hA,hE⟩:=h
 obtain ⟨r1,r2,_,r4⟩:=AM.reshape hs S1
 refine ⟨I,β,r1,⟨fun k=>r2 k _ (hA.sl k),hA.size,hA.defers,hA.aF⟩,⟨hE.dM,hE.cE,fun id blk ab=> ?_,fun id blk blk' b ab bR hd hb=> ?_⟩⟩
 ·obtain ⟨sx,k1,k2,k3⟩:=hE.blk id blk ab
  obtain ⟨_,hle,_⟩:=SF hs
  have hl:=hm id blk ab
  obtain ⟨cv,h2⟩: ∃cv,(bE S ds).hp id=some cv:=by
   simp only[bE,mk,iP]
   exact ⟨_,bM (by rw[G6];omega)⟩
  by_cases hd:cv= .dead
  ·subst hd
   exact ⟨_,h2,by cases blk<;>trivial,fun h=>absurd rfl h⟩
  ·obtain ⟨iH,e1,e2,_⟩:=r4 id cv h2 hd
   rw[k1] at e1;cases e1
   exact ⟨_,h2,ai.le_trans k2 e2,fun _=>k3 (fun e=>hd (ai.qL (e▸e2)))⟩
 ·obtain ⟨iH,e1,e2,_⟩:=r4 id blk' bR hd
  exact hE.size id blk iH b ab e1 (fun e=>hd (ai.qL (e▸e2))) hb
theorem mb.here (h:mb P A C) (f:Nat) (id:Nat):mb P (A.here f id) C:=by
 intro key ds es hh
 obtain ⟨fn,c,h1,h2,h3⟩:=h key ds es hh
 refine ⟨fn,c,h1,h2,fun w I μ vals a g b d=>(h3 w I μ vals a g b d).mono fun e w' hx=> ?_⟩
 obtain ⟨v,I2,cw,q1,q2⟩:=hx
 exact ⟨v,I2,cw,q1,⟨q2.yx,q2.le,q2.res⟩⟩
theorem ad4 {a b:Out} (h:FT a b=true):a=b:=by
 cases a<;>cases b<;>simp[FT] at h<;>first|rfl|(subst h;rfl)
theorem TY {m:Nat} {r:Out × St}: ∀{l:List (Out × Shape)} {j:Nat} {e:Nat × List V},ways m j l r=some e→j≤e.1
 | [],j,e,h=>by cases h
 | (o,S)::l,j,e,h=>by
  simp only[ways] at h
  split at h
  ·cases h;exact ax _
  ·have:=TY h;omega
theorem Mk {m:Nat} {o:Out} {s:St} {out:Out} {st':St}: ∀{l:List (Out × Shape)} {k:Nat} {e:Nat × List V},ways m k l (o,s)=some e→lj k l e.1 e.2 (fun o st=>some (o,st))=some (out,st')→
  out=o∧∃S,jC m S s=some e.2∧st'=bE S e.2
 | [],k,e,h,_=>by cases h
 | (o',S)::l,k,e,h,h2=>by
  simp only[ways] at h
  split at h
  ·rename_i ds hx
   cases h
   cases ho:FT o' o with
   | false=>rw[ho] at hx;cases hx
   | true=>
    rw[ho] at hx
    have:=ad4 ho
    subst this
    cases l with
    | nil=>
     simp only[lj,dZ,la] at h2
     exact ⟨h2.1.symm,S,hx,h2.2.symm⟩
    | cons p l=>
     simp only[lj,ky,cond_true,dZ,la] at h2
     exact ⟨h2.1.symm,S,hx,h2.2.symm⟩
  ·have qT:=TY h
   cases l with
   | nil=>cases h
   | cons p l=>
    have ca:Nat.beq e.1 k=false:=by
     cases hb:Nat.beq e.1 k with
     | false=>rfl
     | true=>rw[ba] at hb;omega
    simp only[lj,ca,cond_false] at h2
    exact Mk h h2
theorem ad5 (hC:mb P A C) (hP:kb P A) (ra:P.follows .mixedOrders=true) {f n m:Nat} (hm: ∀id blk,hp0 id=some blk→id<m) (kf: ∀id e es ak,hp0 id=some (.nest e es ak)→∀k,bQ ak k=0):
  ∀(c:Code) {st st':St} {out:Out} {Q:Exit→Act→World→Prop} {a:Act} {w:World},exec P A C f n m c st=some (out,st')→Inv P A.idle A.aF B M w0 μ hp0 n a w st→
   (∀a' w',Inv P A.idle A.aF B M w0 μ hp0 n a' w' st'→Q (yG out) a' w')→c.wp P Q a w:=by
 intro c
 induction c with
 | skip=>
  intro st st' out Q a w h hI hQ
  simp only[exec,dZ,la] at h
  obtain ⟨rfl,rfl⟩:=h
  exact wp_skip (hQ a w hI)
 | exit id=>
  intro st st' out Q a w h hI hQ
  simp only[exec,dZ,la] at h
  obtain ⟨rfl,rfl⟩:=h
  exact wp_exit (hQ a w hI)
 | ret=>
  intro st st' out Q a w h hI hQ
  simp only[exec,dZ,la] at h
  obtain ⟨rfl,rfl⟩:=h
  exact wp_ret (hQ a w hI)
 | region id ops draw=>
  intro st st' out Q a w h hI hQ
  simp only[exec] at h
  obtain ⟨jL,h1,h2⟩:=bind_some h
  simp only[dZ,la] at h2
  obtain ⟨rfl,rfl⟩:=h2
  obtain ⟨I,β,S,hA,hE⟩:=hI
  refine adU (hC.here f id) (hP.here f id) ra h1 S hA fun a' w' I' aq k1 k2 k3=> ?_
  obtain ⟨I2,l1,l2,l3⟩:=TJ (m:=m) (pur:=A.pur f id) k2 k3
  have hE2:=(hE.trans k1.GM).trans l1.GM
  exact hQ a' w' (Inv.canon ⟨I2,aq,l2,l3,hE2⟩ hm kf)
 | seq x y gD gE=>
  intro st st' out Q a w h hI hQ
  simp only[exec] at h
  obtain ⟨⟨o1,jL⟩,h1,h2⟩:=bind_some h
  refine wp_seq (gD h1 hI fun a' w' kM=> ?_)
  cases o1 with
  | norm=>exact gE h2 kM hQ
  | exit id=>
   simp only[dZ,la] at h2
   obtain ⟨rfl,rfl⟩:=h2
   exact hQ a' w' kM
  | ret=>
   simp only[dZ,la] at h2
   obtain ⟨rfl,rfl⟩:=h2
   exact hQ a' w' kM
 | cond c x y gD gE=>
  intro st st' out Q a w h hI hQ
  cases c with
  | tmp t=>
   have go: ∀{st st':St} {out:Out} {Q:Exit→Act→World→Prop} {a:Act} {w:World},(match st.sl t with
     | .bool b=>(bif b then exec P A C f n m x st else exec P A C f n m y st).bind fun r=>
      match r.1 with
      | .norm=>some (.norm,AM.canon m (A.join f t) r.2)
      | _=>some r
     | _=>none)=some (out,st')→Inv P A.idle A.aF B M w0 μ hp0 n a w st→(∀a' w',Inv P A.idle A.aF B M w0 μ hp0 n a' w' st'→Q (yG out) a' w')→(Code.cond (.tmp t) x y).wp P Q a w:=by
    intro st st' out Q a w h hI hQ
    cases hs:st.sl t<;>rw[hs] at h<;>simp only at h<;>first|(cases h;done)|skip
    rename_i b
    obtain ⟨⟨o1,jL⟩,h1,h2⟩:=bind_some h
    obtain ⟨I,β,S,hA,hE⟩:=hI
    have fG:a.eval (.tmp t)= .bool b:=by
     have:=Th hA hs
     simp[Act.eval,this]
    have fin: ∀a' w',Inv P A.idle A.aF B M w0 μ hp0 n a' w' jL→Q (yG o1) a' w':=by
     intro a' w' kM
     cases o1 with
     | norm=>
      simp only[dZ,la] at h2
      obtain ⟨rfl,rfl⟩:=h2
      exact hQ a' w' (kM.canon hm kf)
     | exit id=>
      simp only[dZ,la] at h2
      obtain ⟨rfl,rfl⟩:=h2
      exact hQ a' w' kM
     | ret=>
      simp only[dZ,la] at h2
      obtain ⟨rfl,rfl⟩:=h2
      exact hQ a' w' kM
    refine wp_cond fG ?_
    cases b with
    | true=>exact gD h1 ⟨I,β,S,hA,hE⟩ fin
    | false=>exact gE h1 ⟨I,β,S,hA,hE⟩ fin
   simp only[exec] at h
   split at h
   ·exact go h hI hQ
   ·obtain ⟨ds,h1,h2⟩:=bind_some h
    obtain ⟨e,h3,h4⟩:=bind_some h2
    obtain ⟨⟨o1,s1⟩,h5,h6⟩:=bind_some h3
    obtain ⟨rfl,S',k1,rfl⟩:=Mk h6 h4
    exact go h5 (hI.reshape h1 hm) fun a' w' kM=>hQ a' w' (kM.reshape k1 hm)
  | const v=>
   cases v with
   | bool b=>
    simp only[exec] at h
    refine wp_cond (t:=b) rfl ?_
    cases b with
    | true=>exact gD h hI hQ
    | false=>exact gE h hI hQ
   | _=>simp only[exec] at h;cases h
  | _=>simp only[exec] at h;cases h
 | block id c ih=>
  intro st st' out Q a w h hI hQ
  simp only[exec] at h
  obtain ⟨⟨o1,jL⟩,h1,h2⟩:=bind_some h
  refine wp_block (ih h1 hI fun a' w' kM=> ?_)
  cases o1 with
  | norm=>
   simp only[dZ,la] at h2
   obtain ⟨rfl,rfl⟩:=h2
   exact hQ a' w' (kM.canon hm kf)
  | exit aE=>
   simp only at h2
   cases hb:Nat.beq aE id with
   | true=>
    rw[hb] at h2
    simp only[cond_true,dZ,la] at h2
    obtain ⟨rfl,rfl⟩:=h2
    rw[ba] at hb
    simp only[yG,Exit.inBlock,hb,kz]
    exact hQ a' w' (kM.canon hm kf)
   | false=>
    rw[hb] at h2
    simp only[cond_false,dZ,la] at h2
    obtain ⟨rfl,rfl⟩:=h2
    have ca:aE≠id:=fun e=>by rw[e,ky] at hb;cases hb
    simp only[yG,Exit.inBlock,ca,lO]
    exact hQ a' w' kM
  | ret=>
   simp only[dZ,la] at h2
   obtain ⟨rfl,rfl⟩:=h2
   exact hQ a' w' kM
 | loop c ih=>
  intro st st' out Q a w h hI hQ
  simp only[exec] at h
  split at h
  ·cases h
  ·rename_i S hS
   obtain ⟨ds,h1,h2⟩:=bind_some h
   obtain ⟨e,h3,h4⟩:=bind_some h2
   obtain ⟨k,hk⟩:=xE h3
   refine ad3 (J:=fun k a w=> ∃ds,Inv P A.idle A.aF B M w0 μ hp0 n a w (bE S.1 ds)∧fk (fun ds=>lT m S.1 S.2 (exec P A C f n m c (bE S.1 ds))) k ds=some e) (fun a w ⟨s,_,h⟩=>by cases h) (fun k a w ⟨ds,hs,hk⟩=> ?_) ⟨ds,hI.reshape h1 hm,hk⟩
   simp only[fk] at hk
   obtain ⟨y,h5,h6⟩:=bind_some hk
   unfold lT at h5
   obtain ⟨⟨o1,s1⟩,h7,h8⟩:=bind_some h5
   refine ih h7 hs fun a' w' kM=> ?_
   have TZ: ∀{e':Nat × List V},ways m 0 S.2 (o1,s1)=some e'→e'=e→Q (yG o1) a' w':=by
    intro e' q1 q2
    subst q2
    obtain ⟨rfl,S',k1,rfl⟩:=Mk q1 h4
    exact hQ a' w' (kM.reshape k1 hm)
   cases o1 with
   | norm=>
    obtain ⟨ds2,q1,q2⟩:=bind_some h8
    cases q2
    exact ⟨ds2,kM.reshape q1 hm,h6⟩
   | exit id=>
    obtain ⟨e',q1,q2⟩:=bind_some h8
    cases q2
    cases h6
    exact TZ q1 rfl
   | ret=>
    obtain ⟨e',q1,q2⟩:=bind_some h8
    cases q2
    cases h6
    exact TZ q1 rfl
 | _=>intro st st' out Q a w h;simp only[exec] at h;cases h
end
section
variable {P:Program} {A:cX} {w w':World} {I I' I2:Nat→Prop} {μ β aq cw:Nat→Option Nat} {hp hp' hp0:Nat→Option ai} {C:ae} {B:Nat} {M:Nat→Prop} {w0:Start}
theorem G7 (S:aH P w I β hp B M w0) {a:Act} {st:St} (hs:lU P w I β hp a st.sl): ∀{l:List ResultVar} {xs:List V} {rd:List Nat},(vp P st l).run C hp=some (xs,rd)→
  ∃vs:List Value,(l.mapM fun| .tmp t=>Pure.pure (a.tmps.getD t undef)| .cell x t=>do loadVar t (←asAddr (a.tmps.getD x undef)):Sem (List Value)).run P w= .ok vs w∧vs.length=xs.length∧l.length=xs.length∧
   ∀(j:Nat) v x,vs[j]? =some v→xs[j]? =some x→aj P w I β hp v x
 | [],xs,rd,h=>by
  cases h
  exact ⟨[],by simp,rfl,rfl,by simp⟩
 | .tmp t::l,xs,rd,h=>by
  simp only[vp] at h
  obtain ⟨ys,l1,l2,h1,h2⟩:=lV h
  have h3:=KR h2
  subst h3
  obtain ⟨vs,a1,a2,a3,a4⟩:=G7 S hs h1
  refine ⟨a.tmps.getD t undef::vs,by simp only[List.mapM_cons,Sem.run_bind,Sem.run_pure,Result.andThen_ok,a1],by simp[a2],by simp[a3],fun j v x hj hx=> ?_⟩
  cases j with
  | zero=>simp at hj hx;subst hj;subst hx;have:=hs t;simpa using this
  | succ j=>exact a4 j v x (by simpa using hj) (by simpa using hx)
 | .cell y t::l,xs,rd,h=>by
  simp only[vp] at h
  obtain ⟨r,l1,l2,h1,h2⟩:=lV h
  obtain ⟨ys,l3,l4,h3,h4⟩:=lV h2
  have h5:=KR h4
  subst h5
  obtain ⟨v0,b1,b2,b3,ad,b4⟩:=Rx S (hs y) h1
  obtain ⟨vs,a1,a2,a3,a4⟩:=G7 S hs h3
  refine ⟨v0::vs,?_,by simp[a2],by simp[a3],fun j v x hj hx=> ?_⟩
  ·have e1:(do loadVar t (←asAddr (a.tmps.getD y undef)):Sem Value).run P w= .ok v0 w:=by
    rw[b4] at b1⊢
    simpa[Instr.loadAt,Instr.sureAddr,asAddr] using b1
   simp only[List.mapM_cons,Sem.run_bind,e1,Result.andThen_ok,a1,Sem.run_pure]
  cases j with
  | zero=>simp at hj hx;subst hj;subst hx;exact b2
  | succ j=>exact a4 j v x (by simpa using hj) (by simpa using hx)
def we:List Value→Value
 | [v]=>v
 | l=> .tuple l.toArray
theorem ad6 {vs:List Value} (h:vs.length≠1):we vs= .tuple vs.toArray:=by
 match vs,h with
 | [],_=>rfl
 | [v],h=>simp at h
 | v::v2::l,_=>rfl
theorem ad7 {fn:Func} {a:Act} {st:St} (S:aH P w I β st.hp B M w0) (hs:lU P w I β st.hp a st.sl) {xs:List V} {rd:List Nat} (h:(vp P st fn.results.toList).run C st.hp=some (xs,rd)):
  ∃vs:List Value,(results fn a.tmps).run P w= .ok (we vs) w∧vs.length=xs.length∧
   ∀(j:Nat) v x,vs[j]? =some v→xs[j]? =some x→aj P w I β st.hp v x:=by
 obtain ⟨vs,a1,a2,_,a4⟩:=G7 S hs h
 refine ⟨vs,?_,a2,a4⟩
 unfold results
 rw[Array.mapM_eq_mapM_toList]
 simp only[map_eq_pure_bind,bind_assoc,pure_bind,Sem.run_bind]
 refine (congrArg (fun r:Result (List Value)=>r.andThen _) a1).trans ?_
 simp only[Result.andThen_ok,Sem.run_pure]
 match vs with
 | []=>simp[we]
 | [v]=>simp[we]
 | v::v2::l=>simp[we]
theorem T2: ∀{args:List V} {i k:Nat},eo (oD i args) k=if i≤k then args[k-i]? else none
 | [],i,k=>by simp[oD,eo]
 | v::vs,i,k=>by
  simp only[oD,eo]
  cases hb:Nat.beq k i with
  | true=>
   rw[ba] at hb
   subst hb
   simp
  | false=>
   have ca:k≠i:=fun e=>by rw[e,ky] at hb;cases hb
   simp only[cond_false,T2]
   by_cases h:i≤k
   ·rw[af (by omega),af h]
    obtain ⟨d,rfl⟩: ∃d,k=i+1+d:=⟨k-(i+1),by omega⟩
    rw[show i+1+d-(i+1)=d by omega,show i+1+d-i=d+1 by omega]
    rfl
   ·rw[ag (by omega),ag h]
theorem Ml: ∀{l:List (Nat × VS)} {ds:List V} {i k:Nat},jg i l=true→eo (fW l ds) k=if i≤k then (gl (l.map (·.2)) ds)[k-i]? else none
 | [],ds,i,k,_=>by simp[fW,gl,eo]
 | (q,s)::l,ds,i,k,h=>by
  simp only[jg,aM,ba] at h
  obtain ⟨rfl,h⟩:=h
  simp only[fW,eo,jV,gl]
  cases hb:Nat.beq k q with
  | true=>
   rw[ba] at hb
   subst hb
   simp
  | false=>
   have ca:k≠q:=fun e=>by rw[e,ky] at hb;cases hb
   simp only[cond_false]
   rw[Ml h]
   by_cases h:q≤k
   ·rw[af (by omega),af h]
    obtain ⟨d,rfl⟩: ∃d,k=q+1+d:=⟨k-(q+1),by omega⟩
    rw[show q+1+d-(q+1)=d by omega,show q+1+d-q=d+1 by omega]
    rfl
   ·rw[ag (by omega),ag h]
theorem T4: ∀{l:List (Nat × VS)} {ds:List V},(fW l ds).map (·.2)=gl (l.map (·.2)) ds
 | [],_=>rfl
 | (q,s)::l,ds=>by simp only[fW,jV,gl,T4]
theorem Mm: ∀{l:List VS} {ds:List V},(gl l ds).length=l.length
 | [],_=>rfl
 | s::l,ds=>by simp only[gl,List.length_cons,Mm]
theorem T6: ∀{l:List (Nat × VS)} {ds:List V},(fW l ds).length=l.length
 | [],_=>rfl
 | (q,s)::l,ds=>by simp only[fW,List.length_cons,T6]
theorem ad8 {vals:List Value} {l:List (Nat × V)} (hl:vals.length=l.length) (h: ∀(j:Nat) v y,vals[j]? =some v→(l.map (·.2))[j]? =some y→aj P w I β hp v y):aj P w I β hp (we vals) (qJ l):=by
 match l,hl,h with
 | [],hl,h=>
  obtain rfl:vals=[]:=oq hl
  exact .bx rfl fun j v x _ hx=>by simp at hx
 | [(k,y)],hl,h=>
  match vals,hl,h with
  | [v],_,h=>exact h 0 v y rfl rfl
 | a::b::l,hl,h=>
  have ca:vals.length≠1:=by rw[hl];simp
  rw[ad6 ca]
  simp only[qJ]
  exact .bx (by simp[hl]) fun j v y hj hy=>h j v y (by simpa using hj) hy
theorem ad9 {l:List BS} {ds:List V} {j:Nat} {e:TypeId} {es:List V} {ak:List Nat} (h:(fo l ds)[j]? =some (.nest e es ak)) (k:Nat):bQ ak k=0:=by
 obtain ⟨b,ga,_,h2⟩:=LZ h
 cases b<;>simp only[gC] at h2<;>cases h2
 match k with
 | 0=>rfl
 | 1=>rfl
 | 2=>rfl
 | _+3=>rfl
theorem aea {f n m:Nat} {fn:Func} {a:Act} {st:St} {es:List V} {rd:List Nat} (hm: ∀id blk,hp0 id=some blk→id<m) (kf: ∀id e es ak,hp0 id=some (.nest e es ak)→∀k,bQ ak k=0)
  (hI:Inv P A.idle A.aF B M w0 μ hp0 n a w st) (nG:jg 0 (A.gj f).bX=true) (bn:(A.gj f).bX.length=fn.results.size) (h:(vq P A f fn m st).run C st.hp=some (es,rd)):
  ∃v I2 cw,(results fn a.tmps).run P w= .ok v w∧aH P w I2 cw (bE (A.so f es) (A.lv f es)).hp B M w0∧ma w0.w w0.I μ hp0 w I2 cw (bE (A.so f es) (A.lv f es)).hp∧aj P w I2 cw (bE (A.so f es) (A.lv f es)).hp v (qJ (fW (A.so f es).bX (A.lv f es))):=by
 unfold vq at h
 obtain ⟨xs,l1,l2,h1,h2⟩:=lV h
 obtain ⟨I,β,S,hA,hE⟩:=hI
 obtain ⟨vals,e1,e2,e3⟩:=ad7 S hA.sl h1
 have e4:fn.results.size=xs.length:=by
  obtain ⟨_,_,_,q,_⟩:=G7 S hA.sl h1
  simpa using q
 have fin: ∀(Sx:Shape) (es:List V),jg 0 Sx.bX=true→Sx.bX.length=fn.results.size→jC m Sx (canon m (List.range xs.length) (freeze m (A.vi f) ⟨j4 (oD 0 xs),st.hp,st.nb⟩))=some es→
   ∃v I2 cw,(results fn a.tmps).run P w= .ok v w∧aH P w I2 cw (bE Sx es).hp B M w0∧ma w0.w w0.I μ hp0 w I2 cw (bE Sx es).hp∧aj P w I2 cw (bE Sx es).hp v (qJ (fW Sx.bX es)):=by
  intro Sx es nG bn wg
  have hA0:jK P A.idle A.aF w I β vals.length ⟨vals.toArray,[]⟩ ⟨j4 (oD 0 xs),st.hp,st.nb⟩:=by
   refine ⟨fun k=> ?_,by simp,by simp,hA.aF⟩
   change aj P w I β st.hp _ (j4 (oD 0 xs) k)
   unfold j4
   rw[T2]
   simp only[ku,kz,Nat.sub_zero]
   cases hk:xs[k]? with
   | none=>exact .undef
   | some x=>
    have mG:k<vals.length:=by rw[e2];exact (bH.1 hk).1
    have:=e3 k vals[k] x (bM mG) hk
    have e5:(vals.toArray).getD k undef=vals[k]:=by simp[mG]
    rw[Option.getD_some]
    exact e5▸this
  obtain ⟨I2,k1,k2,k3⟩:=TJ (st:=⟨j4 (oD 0 xs),st.hp,st.nb⟩) (m:=m) (pur:=A.vi f) S hA0
  have hI2:Inv P A.idle A.aF B M w0 μ hp0 vals.length ⟨vals.toArray,[]⟩ w (freeze m (A.vi f) ⟨j4 (oD 0 xs),st.hp,st.nb⟩):=⟨I2,β,k2,k3,hE.trans k1.GM⟩
  obtain ⟨I3,T7,q1,q2,q3⟩:=(hI2.canon (live:=List.range xs.length) hm kf).reshape wg hm
  refine ⟨we vals,I3,T7,e1,q1,q3,ad8 (by rw[T6,bn,e4,e2]) fun j v y hj hy=> ?_⟩
  have hv:=q2.sl j
  have dv:=(bH.1 hj).1
  have e5:(vals.toArray).getD j undef=v:=by
   have:=(bH.1 hj).2
   simp[dv,this]
  change aj P w I3 T7 _ ((vals.toArray).getD j undef) (j4 (fW Sx.bX _) j) at hv
  rw[e5] at hv
  unfold j4 at hv
  rw[Ml nG] at hv
  simp only[ku,kz,Nat.sub_zero] at hv
  rw[T4] at hy
  rw[hy] at hv
  exact hv
 unfold cX.so cX.lv
 cases cF:A.alt f with
 | none=>
  rw[cF] at h2
  simp only at h2⊢
  split at h2
  ·rename_i ga wg
   have:=aU h2
   subst this
   exact fin _ _ nG bn wg
  ·cases h2
 | some S2=>
  rw[cF] at h2
  simp only at h2⊢
  split at h2
  ·rename_i ga wg
   have:=aU h2
   subst this
   exact fin _ _ nG bn wg
  ·split at h2
   ·rename_i ga wg
    obtain ⟨hc,h3⟩:=aI h2
    simp only[aM,ba] at hc
    have:=aU h3
    subst this
    exact fin _ _ hc.1 hc.2 wg
   ·cases h2
theorem aeb (hC:mb P A C) (hP:kb P A) (ra:P.follows .mixedOrders=true):mb P A (pK P A C):=by
 intro f ds es h
 unfold pK at h
 cases hf:P.funcs[A.bc f]? with
 | none=>rw[hf] at h;cases h
 | some fn=>
  rw[hf] at h
  simp only at h
  cases hb:fn.body with
  | none=>rw[hb] at h;cases h
  | some c=>
   rw[hb] at h
   simp only at h
   cases hc:(jg 0 (A.sin f).bX&&(Nat.ble (A.sin f).bX.length fn.ntmps&&((A.sin f).ok&&(jg 0 (A.gj f).bX&&(Nat.beq (A.gj f).bX.length fn.results.size&&pI (nr (A.sin f).bj.length (A.mv f))))))) with
   | false=>rw[hc] at h;cases h
   | true=>
    rw[hc] at h
    simp only[cond_true] at h
    simp only[aM,ba,fy] at hc
    obtain ⟨lu,hnt,_,yD,bn,ly⟩:=hc
    obtain ⟨⟨out,st'⟩,h1,h2⟩:=bind_some h
    refine ⟨fn,c,rfl,hb,fun w I μ vals hH hgl hl hv=> ?_⟩
    have aec:(∀id,out≠ .exit id)∧∃rd,(vq P A f fn (A.sin f).bj.length st').run C st'.hp=some (es,rd):=by
     cases out with
     | exit id=>cases h2
     | norm=>
      refine ⟨by simp,?_⟩
      simp only[As] at h2
      obtain ⟨⟨x,rd⟩,e1,e2⟩:=h2
      simp only at e2
      subst e2
      exact ⟨rd,e1⟩
     | ret=>
      refine ⟨by simp,?_⟩
      simp only[As] at h2
      obtain ⟨⟨x,rd⟩,e1,e2⟩:=h2
      simp only at e2
      subst e2
      exact ⟨rd,e1⟩
    obtain ⟨ca,rd,LO⟩:=aec
    refine calls_of_wp_defers hf hb ?_
    have hm: ∀id blk,(bE (A.sin f) ds).hp id=some blk→id<(A.sin f).bj.length:=by
     intro id blk ab
     simp only[bE,mk,iP] at ab
     have:=(bH.1 ab).1
     rwa [G6] at this
    have kf: ∀id e es ak,(bE (A.sin f) ds).hp id=some (.nest e es ak)→∀k,bQ ak k=0:=by
     intro id e es ak ab k
     simp only[bE,mk,iP] at ab
     exact ad9 ab k
    refine ad5 (w0:=⟨w,I⟩) (μ:=μ) (hp0:=(bE (A.sin f) ds).hp) (B:=w.heap.size) (M:=pY P w μ (bE (A.sin f) ds).hp) hC hP ra hm kf c h1 ?_ ?_
    ·refine Inv.enter ly ?_ hm kf fun p hp=>by
      simp only[bE,mk,iP]
      rw[List.getElem?_eq_none_iff,G6]
      exact hp
     refine ⟨I,μ,⟨hH,fun _ _ _=>rfl,ax _,fun b h=> .inl h,⟨rfl,rfl⟩⟩,⟨fun k=> ?_,?_,by simp,hgl⟩,(Le.refl (P:=P) w I μ _).GM⟩
     ·change aj P w I μ _ _ (j4 (fW (A.sin f).bX ds) k)
      unfold j4
      rw[Ml lu]
      simp only[ku,kz,Nat.sub_zero]
      cases hk:(gl ((A.sin f).bX.map (·.2)) ds)[k]? with
      | none=>exact .undef
      | some x=>
       have mG:k<vals.length:=by
        have:=(bH.1 hk).1
        rw[Mm,cb] at this
        rw[hl];exact this
       have:=hv k vals[k] x (bM mG) hk
       have e1:(vals.toArray++Array.replicate (fn.ntmps-vals.toArray.size) undef).getD k undef=vals[k]:=by
        simp[Array.getElem?_append,mG]
       rw[Option.getD_some]
       exact e1▸this
     ·simp
      omega
    ·intro a' w' hI
     obtain ⟨v,I2,cw,q1,q2,q3,q4⟩:=aea hm kf hI yD bn LO
     obtain ⟨_,_,_,hA,_⟩:=hI
     cases out with
     | exit id=>exact absurd rfl (ca id)
     | norm=>exact L8 hP q1 ⟨v,I2,cw,rfl,q2,q3,q4⟩ _ hA.defers
     | ret=>exact L8 hP q1 ⟨v,I2,cw,rfl,q2,q3,q4⟩ _ hA.defers
theorem T8 (hP:kb P A) (ra:P.follows .mixedOrders=true): ∀n,mb P A (lk P A n)
 | 0=>fun _ _ _ h=>by cases h
 | n+1=>aeb (T8 hP ra n) hP ra
theorem aed (hP:kb P A) (ra:P.follows .mixedOrders=true):mb P A (Call P A):=by
 intro f ds es h
 have hn: ∃n,lk P A n f ds=some es:=by
  unfold Call at h
  split at h
  ·rename_i hex
   have:=hex.choose_spec.choose_spec
   rw[dr h] at this
   exact ⟨_,this⟩
  ·cases h
 obtain ⟨n,hn⟩:=hn
 exact T8 hP ra n f ds es hn
end
section
variable {P:Program} {A:cX} {C:ae} {D:Nat→ae}
def BU (C:ae) (D:Nat→ae):Prop:= ∀f a r,C f a=some r→∃n,∀k,n≤k→D k f a=some r
theorem sE {α:Type} (h:BU C D) {hp:Nat→Option ai}: ∀{p:Rd α} {r:α × List Nat},p.run C hp=some r→∃n,∀k,n≤k→p.run (D k) hp=some r
 | .ret a,r,e=>⟨0,fun _ _=>e⟩
 | .fail,r,e=>by cases e
 | .get id q,r,e=>by
  obtain ⟨x,h1,h2⟩:=bind_some e
  obtain ⟨n,hn⟩:=sE h h1
  exact ⟨n,fun k hk=>by simp only[Rd.run,hn k hk,Option.bind_some];exact h2⟩
 | .opt o q,r,e=>by
  obtain ⟨x,h1,h2⟩:=bind_some e
  obtain ⟨n,hn⟩:=sE h h2
  exact ⟨n,fun k hk=>by simp only[Rd.run,h1,Option.bind_some];exact hn k hk⟩
 | .aB b q,r,e=>by
  obtain ⟨h1,h2⟩:=aI e
  obtain ⟨n,hn⟩:=sE h h2
  exact ⟨n,fun k hk=>by simp only[Rd.run,h1,cond_true];exact hn k hk⟩
 | .call f a q,r,e=>by
  obtain ⟨x,h1,h2⟩:=bind_some e
  obtain ⟨n1,lu⟩:=h f a x h1
  obtain ⟨n2,yD⟩:=sE h h2
  exact ⟨max n1 n2,fun k hk=>by simp only[Rd.run,lu k (by omega),Option.bind_some];exact yD k (by omega)⟩
 | .alt true x y,r,e=>sE (p:=x) h e
 | .alt false x y,r,e=>sE (p:=y) h e
theorem aee (h:BU C D) {n i nb:Nat} {ops:Array Oper} {o:Oper} {st:St} {r:St × List Nat × List Nat} (e:iG P A C n ops i o nb st=some r): ∃N,∀k,N≤k→iG P A (D k) n ops i o nb st=some r:=by
 unfold iG at e
 have go:(((gm P A st.sl i (nb+64*i) o).run C st.hp).bind fun r=>some ((⟨jd st.sl o.dst r.1.v,b9 st.hp r.1.upd,st.nb⟩:St),r.2,r.1.upd.map (·.1)))=some r→
   ∃N,∀k,N≤k→(((gm P A st.sl i (nb+64*i) o).run (D k) st.hp).bind fun r=>some ((⟨jd st.sl o.dst r.1.v,b9 st.hp r.1.upd,st.nb⟩:St),r.2,r.1.upd.map (·.1)))=some r:=by
  intro e
  obtain ⟨x,h1,h2⟩:=bind_some e
  obtain ⟨N,hN⟩:=sE h h1
  exact ⟨N,fun k hk=>by rw[hN k hk];exact h2⟩
 unfold iG
 cases hd:tW o n with
 | false=>rw[hd] at e;cases e
 | true=>
  rw[hd] at e
  simp only[cond_true] at e⊢
  cases hg:o.guard with
  | none=>rw[hg] at e;exact go e
  | some gw=>
   obtain ⟨g,want⟩:=gw
   rw[hg] at e
   simp only at e⊢
   cases mK:(ops[g]?).bind (·.dst) with
   | none=>rw[mK] at e;cases e
   | some d=>
    rw[mK] at e
    simp only at e⊢
    cases nH:mw (st.sl d) with
    | none=>rw[nH] at e;cases e
    | some ob=>
    rw[nH] at e
    cases ob with
    | none=>exact ⟨0,fun _ _=>e⟩
    | some b=>
    simp only at e⊢
    cases hb:b==want with
    | true=>rw[hb] at e;exact go e
    | false=>rw[hb] at e;exact ⟨0,fun _ _=>e⟩
theorem T9 (h:BU C D) {n nb:Nat} {ops:Array Oper}: ∀{l:List (Nat × Oper)} {st:St} {log:Log} {r:St × Log},qK P A C n ops nb l st log=some r→∃N,∀k,N≤k→qK P A (D k) n ops nb l st log=some r
 | [],st,log,r,e=>⟨0,fun _ _=>e⟩
 | (i,o)::l,st,log,r,e=>by
  obtain ⟨x,h1,h2⟩:=bind_some e
  obtain ⟨N1,p6⟩:=aee h h1
  obtain ⟨N2,sF⟩:=T9 h h2
  exact ⟨max N1 N2,fun k hk=>by simp only[qK,p6 k (by omega),Option.bind_some];exact sF k (by omega)⟩
theorem Ua {X R:Type} {step:X→Option (X ⊕ R)} {stepD:Nat→X→Option (X ⊕ R)} (hs: ∀x y,step x=some y→∃N,∀k,N≤k→stepD k x=some y): ∀(n:Nat) (x:X) (r:R),fk step n x=some r→∃N,∀k,N≤k→fk (stepD k) n x=some r
 | 0,x,r,e=>by cases e
 | n+1,x,r,e=>by
  simp only[fk] at e⊢
  obtain ⟨y,h1,h2⟩:=bind_some e
  obtain ⟨N1,p6⟩:=hs x y h1
  cases y with
  | inl z=>
   obtain ⟨N2,sF⟩:=Ua hs n z r h2
   exact ⟨max N1 N2,fun k hk=>by rw[p6 k (by omega)];exact sF k (by omega)⟩
  | inr q=>exact ⟨N1,fun k hk=>by rw[p6 k hk];exact h2⟩
theorem aef (h:BU C D) {f n m:Nat}: ∀(c:Code) {st:St} {r:Out × St},exec P A C f n m c st=some r→∃N,∀k,N≤k→exec P A (D k) f n m c st=some r:=by
 intro c
 induction c with
 | skip=>exact fun e=>⟨0,fun _ _=>e⟩
 | exit id=>exact fun e=>⟨0,fun _ _=>e⟩
 | ret=>exact fun e=>⟨0,fun _ _=>e⟩
 | region id ops draw=>
  intro st r e
  simp only[exec] at e⊢
  obtain ⟨x,h1,h2⟩:=bind_some e
  obtain ⟨y,h3,h4⟩:=bind_some h1
  obtain ⟨N,hN⟩:=T9 h h3
  refine ⟨N,fun k hk=> ?_⟩
  have:xR P (A.here f id) (D k) n ops draw st=some x:=by
   unfold xR
   rw[hN k hk]
   exact h4
  rw[this]
  exact h2
 | seq x y gD gE=>
  intro st r e
  simp only[exec] at e⊢
  obtain ⟨⟨o,s1⟩,h1,h2⟩:=bind_some e
  obtain ⟨N1,p6⟩:=gD h1
  cases o with
  | norm=>
   obtain ⟨N2,sF⟩:=gE h2
   exact ⟨max N1 N2,fun k hk=>by rw[p6 k (by omega)];exact sF k (by omega)⟩
  | exit id=>exact ⟨N1,fun k hk=>by rw[p6 k hk];exact h2⟩
  | ret=>exact ⟨N1,fun k hk=>by rw[p6 k hk];exact h2⟩
 | cond c x y gD gE=>
  intro st r e
  cases c with
  | tmp t=>
   have go: ∀{st:St} {r:Out × St},(match st.sl t with
     | .bool b=>(bif b then exec P A C f n m x st else exec P A C f n m y st).bind fun r=>
      match r.1 with
      | .norm=>some (.norm,canon m (A.join f t) r.2)
      | _=>some r
     | _=>none)=some r→∃N,∀k,N≤k→(match st.sl t with
     | .bool b=>(bif b then exec P A (D k) f n m x st else exec P A (D k) f n m y st).bind fun r=>
      match r.1 with
      | .norm=>some (.norm,canon m (A.join f t) r.2)
      | _=>some r
     | _=>none)=some r:=by
    intro st r e
    cases hs:st.sl t<;>rw[hs] at e<;>simp only at e⊢ <;>first|(cases e;done)|skip
    rename_i b
    obtain ⟨x1,h1,h2⟩:=bind_some e
    cases b with
    | true=>
     obtain ⟨N,hN⟩:=gD h1
     exact ⟨N,fun k hk=>by simp only[cond_true,hN k hk,Option.bind_some];exact h2⟩
    | false=>
     obtain ⟨N,hN⟩:=gE h1
     exact ⟨N,fun k hk=>by simp only[cond_false,hN k hk,Option.bind_some];exact h2⟩
   simp only[exec] at e⊢
   split at e
   ·rename_i hS
    obtain ⟨N,hN⟩:=go e
    exact ⟨N,fun k hk=>hN k hk⟩
   ·rename_i S hS
    obtain ⟨ds,h1,h2⟩:=bind_some e
    obtain ⟨e',h3,h4⟩:=bind_some h2
    obtain ⟨r1,h5,h6⟩:=bind_some h3
    obtain ⟨N,hN⟩:=go h5
    refine ⟨N,fun k hk=> ?_⟩
    try rw[hS]
    simp only[h1,Option.bind_some]
    exact (congrArg (fun z:Option (Out × St)=>(z.bind fun r=>ways m 0 S.2 r).bind fun e=>lj 0 S.2 e.1 e.2 fun o st=>some (o,st)) (hN k hk)).trans (by simp only[Option.bind_some,h6];exact h4)
  | const v=>
   cases v with
   | bool b=>
    simp only[exec] at e⊢
    cases b with
    | true=>exact gD e
    | false=>exact gE e
   | _=>simp only[exec] at e;cases e
  | _=>simp only[exec] at e;cases e
 | block id c ih=>
  intro st r e
  simp only[exec] at e⊢
  obtain ⟨x1,h1,h2⟩:=bind_some e
  obtain ⟨N,hN⟩:=ih h1
  exact ⟨N,fun k hk=>by rw[hN k hk];exact h2⟩
 | loop c ih=>
  intro st r e
  simp only[exec] at e⊢
  split at e
  ·cases e
  ·rename_i S hS
   obtain ⟨ds,h1,h2⟩:=bind_some e
   obtain ⟨e',h3,h4⟩:=bind_some h2
   obtain ⟨q,hq⟩:=xE h3
   obtain ⟨N,hN⟩:=Ua (stepD:=fun k ds=>lT m S.1 S.2 (exec P A (D k) f n m c (bE S.1 ds))) (fun x y BV=>by
    unfold lT at BV⊢
    obtain ⟨z,h5,h6⟩:=bind_some BV
    obtain ⟨N,hN⟩:=ih h5
    exact ⟨N,fun k hk=>by rw[hN k hk];exact h6⟩) q ds e' hq
   refine ⟨N,fun k hk=> ?_⟩
   try rw[hS]
   simp only[h1,Option.bind_some]
   rw[xD (hN k hk)]
   exact h4
 | _=>intro st r e;simp only[exec] at e;cases e
theorem G8 (h:BU C D) {f:Nat} {ds es:List V} (e:pK P A C f ds=some es): ∃N,∀k,N≤k→pK P A (D k) f ds=some es:=by
 unfold pK at e⊢
 cases hf:P.funcs[A.bc f]? with
 | none=>rw[hf] at e;cases e
 | some fn=>
  rw[hf] at e
  simp only at e⊢
  cases hb:fn.body with
  | none=>rw[hb] at e;cases e
  | some c=>
   rw[hb] at e
   simp only at e⊢
   cases hc:(jg 0 (A.sin f).bX&&(Nat.ble (A.sin f).bX.length fn.ntmps&&((A.sin f).ok&&(jg 0 (A.gj f).bX&&(Nat.beq (A.gj f).bX.length fn.results.size&&pI (nr (A.sin f).bj.length (A.mv f))))))) with
   | false=>rw[hc] at e;cases e
   | true=>
    rw[hc] at e
    simp only[cond_true] at e⊢
    obtain ⟨⟨o,s1⟩,h1,h2⟩:=bind_some e
    obtain ⟨N1,p6⟩:=aef h c h1
    cases o with
    | exit id=>cases h2
    | norm=>
     simp only[As] at h2
     obtain ⟨x,e1,e2⟩:=h2
     obtain ⟨N2,sF⟩:=sE h e1
     exact ⟨max N1 N2,fun k hk=>by rw[p6 k (by omega)];simp only[Option.bind_some,sF k (by omega),Option.map_some,e2]⟩
    | ret=>
     simp only[As] at h2
     obtain ⟨x,e1,e2⟩:=h2
     obtain ⟨N2,sF⟩:=sE h e1
     exact ⟨max N1 N2,fun k hk=>by rw[p6 k (by omega)];simp only[Option.bind_some,sF k (by omega),Option.map_some,e2]⟩
theorem Ub: ∀n f a r,lk P A n f a=some r→lk P A (n+1) f a=some r
 | 0,f,a,r,h=>by cases h
 | n+1,f,a,r,h=>by
  obtain ⟨N,hN⟩:=G8 (C:=lk P A n) (D:=fun _=>lk P A (n+1)) (fun f a r h=>⟨0,fun _ _=>Ub n f a r h⟩) h
  exact hN N (ax _)
theorem Mn {n k:Nat} (hk:n≤k) {f:Nat} {a r:List V} (h:lk P A n f a=some r):lk P A k f a=some r:=by
 induction hk with
 | refl=>exact h
 | step _ ih=>exact Ub _ _ _ _ ih
theorem BW {f:Nat} {a r:List V}:Call P A f a=some r↔∃n,lk P A n f a=some r:=by
 constructor
 ·intro h
  unfold Call at h
  split at h
  ·rename_i hex
   have:=hex.choose_spec.choose_spec
   rw[dr h] at this
   exact ⟨_,this⟩
  ·cases h
 ·rintro ⟨n,hn⟩
  have hex: ∃n r,lk P A n f a=some r:=⟨n,r,hn⟩
  unfold Call
  rw[pB hex]
  have h2:=hex.choose_spec.choose_spec
  have h3:=Mn (Nat.le_max_left n hex.choose) hn
  have h4:=Mn (Nat.le_max_right n hex.choose) h2
  rw[h3] at h4
  exact h4.symm
theorem aeg (f:Nat) (a:List V):Call P A f a=pK P A (Call P A) f a:=by
 apply Option.ext
 intro r
 constructor
 ·intro h
  obtain ⟨n,hn⟩:=BW.1 h
  cases n with
  | zero=>cases hn
  | succ n=>
   obtain ⟨N,hN⟩:=G8 (C:=lk P A n) (D:=fun _=>Call P A) (fun f a r h=>⟨0,fun _ _=>BW.2 ⟨n,h⟩⟩) hn
   exact hN N (ax _)
 ·intro h
  obtain ⟨N,hN⟩:=G8 (C:=Call P A) (D:=lk P A) (fun f a r h=>by
   obtain ⟨n,hn⟩:=BW.1 h
   exact ⟨n,fun k hk=>Mn hk hn⟩) h
  exact BW.2 ⟨N+1,hN N (ax _)⟩
end
end Go.AM
namespace Go.AM
open Go.ChangeShapes Go.WideShapes Go.RowKit
section
variable (P:Program)
inductive WT:TypeId→V→Prop
 | int {t:TypeId} {k:IntKind} {n:Int}:P.underlying t=some (.int k)→(Lit.int k n).wf=true→WT t (.int k n)
 | bool {t:TypeId} {b:Bool}:P.underlying t=some .bool→WT t (.bool b)
 | str {t:TypeId} {l:List UInt8}:P.underlying t=some .string→l.length≤maxLen→WT t (.str l)
 | list {t e:TypeId} {es:List V}:P.underlying t=some (.slice e)→es.length≤maxLen→
   (∀(i:Nat) x,es[i]? =some x→bW P e=true→∃xs,x= .agg xs∧xs.length=(bd P e).length)→
   (∀(i j:Nat) x t',es[i]? =some x→(bd P e)[j]? =some t'→WT t' (b7 P e x j))→WT t (.list e es)
def gx (t:TypeId) (x:V):Prop:=
 (bW P t=true→∃xs,x= .agg xs∧xs.length=(bd P t).length)∧∀(j:Nat) t',(bd P t)[j]? =some t'→WT P t' (b7 P t x j)
def u6:List TypeId→List V→Prop
 | [],[]=>True
 | t::ts,x::xs=>gx P t x∧u6 ts xs
 | _,_=>False
def hasB (L:List TypeId) (t:TypeId):Bool:=L.any fun u=>Nat.beq u t
def G9 (L:List TypeId):Nat→List Field→Bool
 | _,[]=>true
 | n,f::fs=>hasB L f.type&&(Nat.beq f.offset n&&(Nat.beq (P.cellsOf f.type) (bd P f.type).length&&G9 L (n+P.cellsOf f.type) fs))
def BX:List Nat→List Nat→Bool
 | [],[]=>true
 | a::l,b::m=>Nat.beq a b&&BX l m
 | _,_=>false
def Mo (L:List TypeId) (t:TypeId):Bool:=
 Nat.beq (P.cellsOf t) (bd P t).length&&
 match P.underlying t with
 | some (.int _)=>true
 | some .bool=>true
 | some .string=>true
 | some (.slice e)=>hasB L e&&dm P e
 | some (.struct fs)=>G9 P L 0 fs.toList&&BX (flat P t) (fs.toList.flatMap fun f=>bd P f.type)
 | some (.array n e)=>hasB L e&&(Nat.beq (P.cellsOf e) (bd P e).length&&BX (flat P t) (List.replicate n (bd P e)).flatten)
 | _=>false
def Ha (L:List TypeId):Bool:=L.all fun t=>Mo P L t
end
theorem Hb {L:List TypeId} {t:TypeId} (h:hasB L t=true):t∈L:=by
 obtain ⟨u,hu,h2⟩:=vd.1 h
 rw[ba] at h2
 exact h2▸hu
theorem Mp: ∀{l m:List Nat},BX l m=true→l=m
 | [],[],_=>rfl
 | a::l,b::m,h=>by
  simp only[BX,aM,ba] at h
  rw[h.1,Mp h.2]
 | [],_::_,h=>by cases h
 | _::_,[],h=>by cases h
section
variable {P:Program} {H:Type} {enc:TypeId × Value→H} {w:World} {base:Nat} {spare:Nat→Bool} {held:Bool} {L:List TypeId}
def oR (w:World):Nat→Prop:=fun b=>b<w.heap.size
def oS (P:Program) (w:World) (ts:List TypeId) (cs:List Value) (xs:List V):Prop:=
 cs.length=ts.length∧xs.length=ts.length∧∀(j:Nat) t',ts[j]? =some t'→∃v y,cs[j]? =some v∧xs[j]? =some y∧Pure P w (oR w) t' v y∧WT P t' y
theorem oS.app {ts xN:List TypeId} {cs jn:List Value} {xs Uc:List V} (h:oS P w ts cs xs) (h':oS P w xN jn Uc):oS P w (ts++xN) (cs++jn) (xs++Uc):=by
 obtain ⟨a,b,c⟩:=h
 obtain ⟨a',b',c'⟩:=h'
 refine ⟨by simp[a,a'],by simp[b,b'],fun j t' hj=> ?_⟩
 by_cases a9:j<ts.length
 ·rw[kY a9] at hj
  obtain ⟨v,y,e1,e2,e3⟩:=c j t' hj
  exact ⟨v,y,by rw[kY (by omega)];exact e1,by rw[kY (by omega)];exact e2,e3⟩
 ·rw[kZ (by omega)] at hj
  obtain ⟨v,y,e1,e2,e3⟩:=c' _ t' hj
  exact ⟨v,y,by rw[kZ (by omega),a];exact e1,by rw[kZ (by omega),b];exact e2,e3⟩
theorem aeh {w:World} {a:Addr} {v:Value} (h:w.cell? a=some v):a.spot=none∧a.block<w.heap.size:=by
 unfold World.cell? at h
 split at h
 ·rename_i hh
  split at h
  ·cases h
  ·rename_i hs
   exact ⟨by simpa using hs,(iY.1 hh).1⟩
 all_goals (first|cases h|skip)
theorem Ud {rd:TypeId→List Value→Option (DataW H × List MemPlace)} (cs:List Value)
  (ih: ∀t cs x,t∈L→rd t cs=some x→∃xs,oS P w (bd P t) cs xs): ∀(fs:List Field) (n:Nat),G9 P L n fs=true→
  (∀f∈fs,∃x,rd f.type ((cs.drop f.offset).take (P.cellsOf f.type))=some x)→∃m xs,n≤m∧oS P w (fs.flatMap fun f=>bd P f.type) ((cs.drop n).take (m-n)) xs∧m-n=(fs.flatMap fun f=>bd P f.type).length
 | [],n,_,_=>⟨n,[],ax _,⟨by simp,rfl,by simp⟩,by simp⟩
 | f::fs,n,h,hx=>by
  simp only[G9,aM,ba] at h
  obtain ⟨h1,h2,h3,h4⟩:=h
  obtain ⟨x,hxf⟩:=hx f (by simp)
  obtain ⟨xs,im⟩:=ih _ _ _ (Hb h1) hxf
  obtain ⟨m,ys,hm,sG,GV⟩:=Ud cs ih fs (n+P.cellsOf f.type) h4 fun g hg=>hx g (by simp[hg])
  refine ⟨m,xs++ys,by omega,?_,by simp only[List.flatMap_cons,dd];omega⟩
  have:=im.app sG
  rw[List.flatMap_cons]
  rw[h2] at this
  have e:(cs.drop n).take (m-n)=(cs.drop n).take (P.cellsOf f.type)++(cs.drop (n+P.cellsOf f.type)).take (m-(n+P.cellsOf f.type)):=by
   rw[show m-n=P.cellsOf f.type+(m-(n+P.cellsOf f.type)) by omega,List.take_add,List.drop_drop]
  rw[e]
  exact this
theorem Ue {rd:List Value→Option (DataW H × List MemPlace)} (cs:List Value) {e:TypeId} (hs:P.cellsOf e=(bd P e).length)
  (ih: ∀cs x,rd cs=some x→∃xs,oS P w (bd P e) cs xs): ∀(n:Nat),
  (∀i,i<n→∃x,rd ((cs.drop (i*P.cellsOf e)).take (P.cellsOf e))=some x)→∃xs,oS P w (List.replicate n (bd P e)).flatten (cs.take (n*P.cellsOf e)) xs
 | 0,_=>⟨[],by simp,rfl,by simp⟩
 | n+1,hx=>by
  obtain ⟨xs,im⟩:=Ue cs hs ih n fun i hi=>hx i (by omega)
  obtain ⟨x,BO⟩:=hx n (by omega)
  obtain ⟨ys,sG⟩:=ih _ _ BO
  refine ⟨xs++ys,?_⟩
  rw[List.replicate_succ',List.flatten_append]
  have:=im.app sG
  rw[ee,Nat.one_mul,List.take_add]
  simpa using this
theorem Hc (hL:Ha P L=true): ∀(fuel:Nat) (t:TypeId) (cs:List Value) (x:DataW H × List MemPlace),t∈L→DataW.trod enc P w base spare held fuel t cs=some x→
  ∃xs,oS P w (bd P t) cs xs
 | 0,_,_,_,_,h=>by cases h
 | fuel+1,t,cs,x,ht,h=>by
  have hg:=gi.1 hL t ht
  unfold Mo at hg
  rw[aM,ba] at hg
  obtain ⟨hc,hg⟩:=hg
  have one:bW P t=false→bd P t=[t]:=fun h=>by simp[bd,h]
  cases hu:P.underlying t with
  | none=>rw[hu] at hg;cases hg
  | some d=>
   rw[hu] at hg
   cases d with
   | int k=>
    obtain ⟨n,rfl,rfl,hwf⟩:=DataW.trod_int hu h
    rw[one (by simp[bW,hu])]
    exact ⟨[.int k n],rfl,rfl,fun j t' hj=>by
     cases j with
     | zero=>cases hj;exact ⟨_,_,rfl,rfl,.int hu,.int hu hwf⟩
     | succ j=>simp at hj⟩
   | bool=>
    obtain ⟨b,rfl,rfl⟩:=DataW.trod_bool hu h
    rw[one (by simp[bW,hu])]
    exact ⟨[.bool b],rfl,rfl,fun j t' hj=>by
     cases j with
     | zero=>cases hj;exact ⟨_,_,rfl,rfl,.bool hu,.bool hu⟩
     | succ j=>simp at hj⟩
   | string=>
    obtain ⟨s,rfl,rfl,hl⟩:=DataW.trod_string hu h
    rw[one (by simp[bW,hu])]
    exact ⟨[.str s.data.toList],rfl,rfl,fun j t' hj=>by
     cases j with
     | zero=>cases hj;exact ⟨_,_,rfl,rfl,.str hu rfl,.str hu (by simpa using hl)⟩
     | succ j=>simp at hj⟩
   | slice e=>
    simp only[aM] at hg
    obtain ⟨he,aw⟩:=hg
    rw[one (by simp[bW,hu])]
    have single: ∀v y,cs=[v]→Pure P w (oR w) t v y→WT P t y→∃xs,oS P w [t] cs xs:=by
     rintro v y rfl a b
     exact ⟨[y],rfl,rfl,fun j t' hj=>by
      cases j with
      | zero=>cases hj;exact ⟨_,_,rfl,rfl,a,b⟩
      | succ j=>simp at hj⟩
    rcases DataW.trod_slice hu h with ⟨rfl,rfl⟩|⟨a,len,cap,elems,rest,n,hn,rfl,rfl,hb,hl,hm,hlen,dq,_,_⟩
    ·exact single _ _ rfl (.nil hu) (.list hu (by simp) (by simp) (by simp))
    ·cases hn
     have jE:=(lp aw).2
     have R6:P.cellsOf e=(bd P e).length:=(gp aw).symm
     have key: ∀i,i<len→∃jn xs,w.cells? base (a.add (i*P.cellsOf e)) (P.cellsOf e)=some jn∧oS P w (bd P e) jn xs:=by
      intro i hi
      have h1:=dq i hi
      rw[bM (by omega)] at h1
      obtain ⟨jn,h2,h3⟩:=Option.bind_eq_some_iff.1 h1
      obtain ⟨xs,im⟩:=Hc hL fuel e jn _ (Hb he) h3
      exact ⟨jn,xs,h2,im⟩
     by_cases h0:len=0
     ·subst h0
      exact single _ _ rfl (.emp hu) (.list hu (by simp) (by simp) (by simp))
     ·have lZ:a.spot=none∧a.block<w.heap.size:=by
       obtain ⟨jn,xs,h2,_⟩:=key 0 (by omega)
       obtain ⟨_,h3,h4⟩:=World.cells?_some h2
       have h5:=h4 0 jE
       rw[bM (by omega)] at h5
       have:=aeh h5
       simpa[Addr.add] using this
      have hF: ∃(F:Nat→List Value) (X:Nat→List V),∀i,i<len→w.cells? base (a.add (i*P.cellsOf e)) (P.cellsOf e)=some (F i)∧oS P w (bd P e) (F i) (X i):=by
       refine ⟨fun i=>if hi:i<len then (key i hi).choose else [],fun i=>if hi:i<len then (key i hi).choose_spec.choose else [],fun i hi=> ?_⟩
       simp only[pB hi]
       exact (key i hi).choose_spec.choose_spec
      obtain ⟨F,X,Mq⟩:=hF
      have hx: ∀(i j:Nat) y t',((List.range len).map fun i=>cO P e (X i))[i]? =some y→(bd P e)[j]? =some t'→i<len∧∃v,(F i)[j]? =some v∧Pure P w (oR w) t' v (b7 P e y j)∧WT P t' (b7 P e y j):=by
       intro i j y t' hy hj
       have hi:i<len:=by
        have:=(bH.1 hy).1
        simpa using this
       refine ⟨hi,?_⟩
       simp[Au hi] at hy
       obtain ⟨c1,c2,c3⟩:=(Mq i hi).2
       obtain ⟨v,z,d1,d2,d3,d4⟩:=c3 j t' hj
       have:b7 P e y j=z:=by
        rw[←hy]
        unfold b7 cO
        cases ha:bW P e with
        | true=>
         simp only[cond_true,V.cell]
         rw[vG _ _ _ d2]
        | false=>
         simp only[cond_false]
         have:bd P e=[e]:=by simp[bd,ha]
         rw[this] at hj
         cases j with
         | zero=>rw[vG _ _ _ d2]
         | succ j=>simp at hj
       rw[this]
       exact ⟨v,d1,d3,d4⟩
      have gZ: ∀i j,i<len→j<P.cellsOf e→w.cell? ⟨a.block,a.off+(i*P.cellsOf e+j),none⟩=some ((F i).getD j undef):=by
       intro i j hi hj
       obtain ⟨h1,h2⟩:=Mq i hi
       obtain ⟨_,h3,h4⟩:=World.cells?_some h1
       have h5:=h4 j hj
       rw[Go.Deep.add_add] at h5
       have e1:a.add (i*P.cellsOf e+j)=⟨a.block,a.off+(i*P.cellsOf e+j),none⟩:=by
        obtain ⟨b,o,s⟩:=a
        simp only at lZ
        rw[lZ.1]
        exact oJ ..
       rw[e1] at h5
       rw[h5,tI,bM (by omega)]
       rfl
      have ha:a=⟨a.block,a.off,none⟩:=by
       obtain ⟨b,o,s⟩:=a
       simp only at lZ
       rw[lZ.1]
      refine single (.slice (some a) len cap) (.list e ((List.range len).map fun i=>cO P e (X i))) rfl ?_ ?_
      ·rw[ha]
       refine .list (fun i j=>(F i).getD j undef) hu (by simp) hl (fun _=>lZ.2) gZ ?_
       intro i j y t' hy hj
       obtain ⟨hi,v,d1,d2,_⟩:=hx i j y t' hy hj
       rw[tI,d1]
       exact d2
      ·refine .list hu (by simp;omega) ?_ ?_
       ·intro i y hy Hd
        have hi:i<len:=by
         have:=(bH.1 hy).1
         simpa using this
        simp[Au hi] at hy
        rw[←hy]
        exact ⟨X i,by simp[cO,Hd],(Mq i hi).2.2.1⟩
       ·intro i j y t' hy hj
        obtain ⟨_,v,_,_,d3⟩:=hx i j y t' hy hj
        exact d3
   | struct fs=>
    simp only[aM] at hg
    obtain ⟨xs,n,hn,rfl,hlen,iu,hx⟩:=DataW.trod_struct hu h
    cases hn
    have het:bd P t=fs.toList.flatMap fun f=>bd P f.type:=by
     rw[←Mp hg.2]
     simp[bd,bW,hu]
    obtain ⟨m,ys,_,sG,hm⟩:=Ud (w:=w) (rd:=fun t cs=>DataW.trod enc P w base spare held fuel t cs) cs (fun t cs x a b=>Hc hL fuel t cs x a b) fs.toList 0 hg.1 (by
     intro f hf
     obtain ⟨i,hi⟩:=tF hf
     rw[tG] at hi
     have oN:i<fs.size:=(iY.1 hi).1
     exact ⟨_,(hx i f hi).trans (bM (by omega))⟩)
    rw[het]
    refine ⟨ys,?_⟩
    have:(cs.drop 0).take (m-0)=cs:=by
     rw[kX,hm,←het,←hc,←hlen,u7]
    rw[this] at sG
    exact sG
   | array n e=>
    simp only[aM,ba] at hg
    obtain ⟨xs,m,hn,rfl,hlen,iu,hx⟩:=DataW.trod_array hu h
    cases hn
    have het:bd P t=(List.replicate n (bd P e)).flatten:=by
     rw[←Mp hg.2.2]
     simp[bd,bW,hu]
    obtain ⟨ys,sG⟩:=Ue (w:=w) (rd:=DataW.trod enc P w base spare held fuel e) cs hg.2.1 (fun cs x b=>Hc hL fuel e cs x (Hb hg.1) b) n (by
     intro i hi
     exact ⟨_,(hx i hi).trans (bM (by omega))⟩)
    rw[het]
    refine ⟨ys,?_⟩
    have:cs.take (n*P.cellsOf e)=cs:=by
     have:n*P.cellsOf e=cs.length:=by
      rw[hlen,hc,het,hg.2.1]
      simp
     rw[this,u7]
    rw[this] at sG
    exact sG
   | _=>cases hg
end
section
variable {P:Program} {H:Type} {enc:TypeId × Value→H} {w:World} {L:List TypeId}
theorem aei {base Mr:Nat} {spare:Nat→Bool} {held:Bool} {r:Reach} {β:Nat→Option Nat} {hp:Nat→Option ai} (hL:Ha P L=true) {t:TypeId} {v:Value} {d:DataW H} {ps:List MemPlace} (ht:t∈L) (gh:Value.okWide P w r Mr t v)
  (h:DataW.Trod enc P w base spare held t v d ps): ∃x,aj P w (oR w) β hp v x∧gx P t x:=by
 obtain ⟨fuel,hf⟩:=h
 obtain ⟨xs,c1,c2,c3⟩:=Hc hL fuel t _ _ ht hf
 have hg:=gi.1 hL t ht
 unfold Mo at hg
 rw[aM,ba] at hg
 obtain ⟨_,hg⟩:=hg
 have Hd:bW P t=true→∃x,aj P w (oR w) β hp v x∧gx P t x:=by
  intro ha
  have hv: ∃cs,v= .agg cs:=by
   unfold Value.okWide at gh
   unfold bW at ha
   split at gh
   ·obtain ⟨cs,e,_⟩:=gh;exact ⟨cs,e⟩
   ·obtain ⟨cs,e,_⟩:=gh;exact ⟨cs,e⟩
   ·split at ha<;>simp_all
  obtain ⟨cs,rfl⟩:=hv
  refine ⟨.agg xs,.agg (by simpa[Value.cells] using c1.trans c2.symm) fun j v x hv hx=> ?_,fun _=>⟨xs,rfl,c2⟩,fun j t' hj=> ?_⟩
  ·have hj:j<(bd P t).length:=by rw[←c2];exact (bH.1 hx).1
   obtain ⟨v',y,e1,e2,e3,_⟩:=c3 j _ (bM hj)
   rw[hx] at e2
   cases e2
   have:cs[j]? =some v':=by simpa[Value.cells] using e1
   rw[hv] at this
   cases this
   exact .rX e3
  ·obtain ⟨v',y,e1,e2,_,e4⟩:=c3 j t' hj
   have:b7 P t (.agg xs) j=y:=by
    simp only[b7,ha,cond_true,V.cell]
    exact vG _ _ _ e2
   rw[this]
   exact e4
 have sk:bW P t=false→v.cells= #[v]→∃x,aj P w (oR w) β hp v x∧gx P t x:=by
  intro ha vM
  have he:bd P t=[t]:=by simp[bd,ha]
  rw[he] at c1 c2 c3
  obtain ⟨v',y,e1,e2,e3,e4⟩:=c3 0 t rfl
  rw[vM] at e1
  cases e1
  refine ⟨y,.rX e3,⟨fun h=>absurd (ha.symm.trans h) (by simp),fun j t' hj=> ?_⟩⟩
  rw[he] at hj
  cases j with
  | succ j=>simp at hj
  | zero=>
   cases hj
   simpa[b7,ha] using e4
 unfold Value.okWide at gh
 cases hu:P.underlying t with
 | none=>rw[hu] at hg;cases hg
 | some dsc=>
  rw[hu] at hg gh
  cases dsc with
  | int k=>
   refine sk (by simp[bW,hu]) ?_
   simp only[Cell.okWide,Cell.ok,hu] at gh
   cases v<;>first|rfl|(simp at gh;done)|exact gh.elim
  | bool=>
   refine sk (by simp[bW,hu]) ?_
   simp only[Cell.okWide,Cell.ok,hu] at gh
   cases v<;>first|rfl|(simp at gh;done)|exact gh.elim
  | string=>
   refine sk (by simp[bW,hu]) ?_
   simp only[Cell.okWide,Cell.ok,hu] at gh
   cases v<;>first|rfl|(simp at gh;done)|exact gh.elim
  | slice e=>
   refine sk (by simp[bW,hu]) ?_
   simp only[Cell.okWide,Cell.ok,hu] at gh
   cases v<;>first|rfl|(simp at gh;done)|exact gh.elim
  | struct fs=>exact Hd (by simp[bW,hu])
  | array n e=>exact Hd (by simp[bW,hu])
  | _=>cases hg
theorem Uf {base Mr:Nat} {spare:Nat→Bool} {held:Bool} {r:Reach} {β:Nat→Option Nat} {hp:Nat→Option ai} (hL:Ha P L=true): ∀{ts:List TypeId} {vs:List Value} {ds:List (DataW H)} {ps:List MemPlace},
  (∀t∈ts,t∈L)→(∀(j:Nat) t v,ts[j]? =some t→vs[j]? =some v→Value.okWide P w r Mr t v)→DataW.TrodAll enc P w base spare held ts vs ds ps→
  ∃xs,vs.length=xs.length∧(∀(j:Nat) v x,vs[j]? =some v→xs[j]? =some x→aj P w (oR w) β hp v x)∧u6 P ts xs
 | [],vs,ds,ps,_,_,h=>by
  obtain ⟨rfl,rfl,rfl⟩:=trodAll_nil h
  exact ⟨[],rfl,by simp,trivial⟩
 | t::ts,vs,ds,ps,hm,gh,h=>by
  obtain ⟨v,FW,d,Ug,a,b,rfl,rfl,rfl,h1,h2⟩:=trodAll_cons h
  obtain ⟨x,BO,oL⟩:=aei (β:=β) (hp:=hp) hL (hm t (by simp)) (gh 0 t v rfl rfl) h1
  obtain ⟨xs,hl,hr,hw⟩:=Uf (β:=β) (hp:=hp) hL (fun t ht=>hm t (by simp[ht])) (fun j t v a b=>gh (j+1) t v (by simpa using a) (by simpa using b)) h2
  refine ⟨x::xs,by simp[hl],fun j v' x' hv hx=> ?_,oL,hw⟩
  cases j with
  | zero=>cases hv;cases hx;exact BO
  | succ j=>exact hr j v' x' (by simpa using hv) (by simpa using hx)
theorem Uh {base:Nat} {spare:Nat→Bool} {held:Bool}: ∀{ts:List TypeId} {vs:List Value} {ds:List (DataW H)} {ps:List MemPlace},DataW.TrodAll enc P w base spare held ts vs ds ps→ds.length=ts.length
 | [],vs,ds,ps,h=>by obtain ⟨rfl,rfl,rfl⟩:=trodAll_nil h;rfl
 | t::ts,vs,ds,ps,h=>by
  obtain ⟨v,FW,d,Ug,a,b,rfl,rfl,rfl,h1,h2⟩:=trodAll_cons h
  simp[Uh h2]
theorem Ui {base:Nat} (hl:laidOutB P=true) {W W':World} {Uj:Nat→Bool}: ∀{ts:List TypeId} {vs:List Value} {ds:List (DataW H)} {ps:List MemPlace},(∀t∈ts,P.readableRec t=true∧t<P.types.size)→
  DataW.TrodAll enc P W base (fun _=>true) true ts vs ds ps→(∀p∈ps,W.sameAt W' p)→(∀p∈ps,Uj p.block=true)→DataW.TrodAll enc P W' base Uj true ts vs ds ps
 | [],vs,ds,ps,_,h,_,_=>by obtain ⟨rfl,rfl,rfl⟩:=trodAll_nil h;exact trodAll_mk0
 | t::ts,vs,ds,ps,hr,h,h1,h2=>by
  obtain ⟨v,FW,d,Ug,a,b,rfl,rfl,rfl,h3,h4⟩:=trodAll_cons h
  obtain ⟨r1,r2⟩:=hr t (by simp)
  exact trodAll_cons_mk (WideElems.Trod_stays hl r1 r2 h3 (fun p hp=>h1 p (by simp[hp])) (fun p hp=>h2 p (by simp[hp])))
   (Ui hl (fun t ht=>hr t (by simp[ht])) h4 (fun p hp=>h1 p (by simp[hp])) (fun p hp=>h2 p (by simp[hp])))
theorem aej {f:Func} {s:ChangeSpec} {apart fresh handsOn again:Bool} {W W':World} {args:Array Value} {v:Value} {ds gs:List (DataW H)} {before pa pv:List MemPlace}
  (hW:DataW.Whole enc P f.params.toList s.vars apart W args.toList ds gs before)
  (Uk: ∀(b:Nat) (sp:Nat→Bool) (hd:Bool),DataW.TrodAll enc P W' b sp hd f.resultTypes.toList (v.resultList f.resultTypes.size) (s.fn H (ds++gs)).results [])
  (v7: ∀sp:Nat→Bool,(∀p∈before,sp p.block=true)→DataW.TrodAll enc P W' 0 sp true f.params.toList args.toList (s.fn H (ds++gs)).args pa)
  (Ul: ∀sp:Nat→Bool,(∀p∈before,sp p.block=true)→DataW.TrodVars enc P W' sp s.vars (s.fn H (ds++gs)).vars pv)
  (He:before=pa++pv) (hk:W.keptBut W' (· ∈before)) (Um: ∀a:Addr,a.block<W.heap.size→W'.frozen? a=W.frozen? a)
  (aw: ∀(j:Nat) (t:TypeId) (r:Value),f.resultTypes[j]? =some t→(v.resultList f.resultTypes.size)[j]? =some r→Value.okWide P W' .any 0 t r):
  s.post enc P f apart fresh handsOn again W args v W':=by
 have hold: ∀p∈before,(fun b=>decide (b<W.heap.size)) p.block=true:=fun p hp=>by simpa using hW.lt p hp
 refine ⟨ds,gs,before,[],pa,pv,hW,Uk _ _ _,v7 _ hold,Ul _ hold,World.keptBut_mono (fun p hp=>⟨hp,?_⟩) hk,fun _=> ?_⟩
 ·rw[He,eP] at hp
  exact Or.inr hp
 ·have a9:=hW.lt
  obtain ⟨_,_,_,_,_,hz,hn⟩:=hW
  refine ⟨aw,_,_,([]++pa)++pv,⟨[]++pa,pv,trodAll_append (v7 _ (fun _ _=>rfl)) (Uk _ _ _),Ul _ (fun _ _=>rfl),rfl,?_,?_⟩,?_⟩
  ·intro b off hp
   have hb:MemPlace.cell b off∈before:=by rw[He];simpa using hp
   rw[Um ⟨b,off,none⟩ (a9 _ hb)]
   exact hz b off hb
  ·intro ha
   have:=hn ha
   rw[He] at this
   simpa using this
  ·intro p hp _
   rw[He]
   simpa using hp
theorem aby {A:cX} (hP:kb P A) (ra:P.follows .mixedOrders=true) {f key:Nat} {fn:Func} {tb:TypeId} {s:ChangeSpec} {apart fresh handsOn again:Bool}
  (hf:P.funcs[f]? =some fn) (aek:A.bc key=f) (hL:Ha P L=true) (fD:fn.params.toList.all (fun t=>hasB L t)=true) (Un:fn.resultTypes= #[tb]) (Uo:P.underlying tb=some .bool) (Up:s.vars=[])
  (hs: ∀ds:List (DataW H),ds.length=fn.params.toList.length→s.fn H ds={results:=[.lit (.bool true)],args:=ds})
  (ael:laidOutB P=true) (aem:fn.params.toList.all (fun t=>P.readableRec t&&Nat.blt t P.types.size)=true)
  (ez:(A.sin key).bj=[]) (aw:((A.sin key).bX.map (·.2)).all (VS.ok 0)=true) (aen:(A.gj key).bX=[(0,.one .bool)]) (halt:A.alt key=none)
  (aeo: ∀xs,u6 P fn.params.toList xs→∃ds,tC ((A.sin key).bX.map (·.2)) xs=some ds∧Call P A key ds=some [.bool true])
  {W:World} {base:Nat} {args:Array Value} {ds gs:List (DataW H)} {before:List MemPlace}
  (aep:iI P A.aF W (oR W)) (gh: ∀(j:Nat) t v,fn.params[j]? =some t→args[j]? =some v→Value.okWide P W .any base t v)
  (hW:DataW.Whole enc P fn.params.toList s.vars apart W args.toList ds gs before):
  Calls P f args W fun e W'=> ∃v,e= .returned v∧s.post enc P fn apart fresh handsOn again W args v W':=by
 have Uq:=hW
 obtain ⟨p,q,hA,hV,rfl,Um,ly⟩:=hW
 rw[Up] at hV
 obtain ⟨hgs,hq⟩:gs=[]∧q=[]:=by
  cases gs with
  | nil=>exact ⟨rfl,hV⟩
  | cons g gs=>exact hV.elim
 subst hgs
 subst hq
 obtain ⟨xs,hl,hr,hwt⟩:=Uf (β:=fun _=>none) (hp:=fun _=>none) hL (fun t ht=>Hb (gi.1 fD t ht)) (fun j t v a b=>gh j t v (by simpa using a) (by simpa using b)) hA
 obtain ⟨ls,hls,BM⟩:=aeo xs hwt
 obtain ⟨fn',c,h1,h2,h3⟩:=aed (A:=A) hP ra key ls [.bool true] BM
 rw[aek] at h1 h3
 rw[hf] at h1
 cases h1
 have yH: ∀j,(bE (A.sin key) ls).hp j=none:=fun j=>by simp[bE,mk,ez,fo,kA]
 obtain ⟨_,r1,r2⟩:=BD (P:=P) (w:=W) (I:=oR W) (n:=0) (β:=fun _=>none) (aq:=fun _=>none) (hp:=fun _=>none) (hp':=(bE (A.sin key) ls).hp) (fun j hj=>absurd hj (Nat.not_lt_zero j)) hls aw
 have hlen:((A.sin key).bX.map (·.2)).length=xs.length:=by rw[←r1 [],Mm]
 have h4:=h3 W (oR W) (fun _=>none) args.toList ⟨fun id blk h=>(by rw[yH] at h;cases h),fun id aE blk blk' b h=>(by rw[yH] at h;cases h),fun id blk b h=>(by rw[yH] at h;cases h),fun b h=>h⟩ aep
  (by rw[hl,←hlen,cb]) (fun j v y hv hy=>r2 [] j v y (fun x hx=>hr j v x hv hx) (by rw[iD];exact hy))
 have ea:args.toList.toArray=args:=by simp
 rw[ea] at h4
 refine h4.mono fun e W' ⟨v,I2,cw,he,ha⟩=>⟨v,he,?_⟩
 have vJ: ∀b,b<W.heap.size→W'.heap[b]? =W.heap[b]? :=fun b hb=>ha.yx.cE b hb (by rintro ⟨j,blk,hj,_⟩;rw[yH] at hj;cases hj)
 have Lx:=ha.res
 have Ur:A.so key [.bool true]=A.gj key∧A.lv key [.bool true]=[.bool true]:=by unfold cX.so cX.lv;rw[halt];exact ⟨rfl,rfl⟩
 rw[Ur.1,Ur.2,aen] at Lx
 obtain rfl:v= .bool true:=Lx.kG
 have mF:Value.okWide P W' .any 0 tb (.bool true):=by simp[Value.okWide,Uo,Cell.okWide,Cell.ok]
 have mu:ds.length=fn.params.toList.length:=Uh hA
 have jJ: ∀p'∈p++[],W.sameAt W' p':=by
  intro p' hp'
  have a9:=Uq.lt p' hp'
  cases p' with
  | cell b o=>exact World.cell?_of_block (w:=W) (vJ b a9)
  | map b=>exact vJ b a9
 refine aej (pa:=p) (pv:=[]) Uq ?_ ?_ ?_ rfl ?_ ?_ ?_
 ·intro b sp hd
  rw[iD,hs ds mu,Un]
  exact trodAll_mk1 ⟨1,by simp[DataW.trod,Value.cells,Uo]⟩
 ·intro sp lZ
  rw[iD,hs ds mu]
  refine Ui ael (fun t ht=> ?_) hA (fun p' hp'=>jJ p' (by simpa using hp')) (fun p' hp'=>lZ p' (by simpa using hp'))
  have:=gi.1 aem t ht
  simp only[aM] at this
  exact ⟨this.1,by simpa[kW] using this.2⟩
 ·intro sp lZ
  rw[Up,iD,hs ds mu]
  exact rfl
 ·refine ⟨ha.yx.io.1,ha.yx.io.2,fun i hi=> ?_⟩
  rw[vJ i hi]
  split<;>simp_all
 ·intro a a9
  exact World.frozen?_of_block (w:=W) (vJ a.block a9)
 ·intro j t r hj Ms
  rw[Un] at hj Ms
  cases j with
  | zero=>
   simp[Value.resultList] at hj Ms
   subst hj
   subst Ms
   exact mF
  | succ j=>simp at hj
end
end Go.AM
namespace Go.AM
@[simp] theorem V.toInt_int (k:IntKind) (n:Int):V.toInt (.int k n)=n:=by cases k<;>rfl
@[simp] theorem V.me (b:Bool):V.toBool (.bool b)=b:=by cases b<;>rfl
@[simp] theorem V.uv (s:List UInt8):V.toStr (.str s)=s:=by cases s<;>rfl
@[simp] theorem V.oT (e:TypeId) (es:List V):V.toList (.list e es)=es:=by cases es<;>rfl
@[simp] theorem V.aoa (e:TypeId) (es:List V):V.toList (.own e es)=es:=by cases es<;>rfl
@[simp] theorem V.aeq (cs:List V) (j:Nat):V.cell (.agg cs) j=V.nth cs j:=by cases cs<;>rfl
@[simp] theorem V.aob (cs:List V) (j:Nat):V.comp (.bx cs) j=V.nth cs j:=by cases cs<;>rfl
@[simp] theorem V.cd (x:V) (l:List V):V.nth (x::l) 0=x:=by cases l<;>rfl
@[simp] theorem V.sH (x:V) (l:List V) (n:Nat):V.nth (x::l) (n+1)=V.nth l n:=by cases l<;>rfl
@[simp] theorem V.aoc (x y:V) (l:List V):V.nth (x::y::l) 1=y:=by cases l<;>rfl
@[simp] theorem V.aod (x y z:V) (l:List V):V.nth (x::y::z::l) 2=z:=by cases l<;>rfl
@[simp] theorem V.aoe (x y z u:V) (l:List V):V.nth (x::y::z::u::l) 3=u:=by cases l<;>rfl
theorem wrap64 {x:Int} (h1: -9223372036854775808≤x) (h2:x<9223372036854775808):IntKind.wrap .i64 x=x:=by
 rw[IntKind.wrap_i64];omega
theorem Mt {x:Int} (h1:0≤x) (h2:x<256):IntKind.wrap .u8 x=x:=by
 rw[IntKind.wrap_u8];omega
theorem Mu {es:List V} {i:Int} {n:Nat} (h:i=n):idx es i=es[n]? :=by
 subst h;simp[idx]
theorem aer {α:Type} {f:α→V} {l:List α} {i:Int} {n:Nat} (h:i=n) (hn:n<l.length):idx (l.map f) i=some (f l[n]):=by
 rw[Mu h];simp[hn]
@[simp] theorem Hf (es:List V) (n:Nat):idx es (n:Int)=es[n]? :=by simp[idx]
section
variable {X R:Type} {step:X→Option (X ⊕ R)}
theorem Us (Inv:X→Prop) (μ:X→Nat) (Q:R→Prop)
  (h: ∀x,Inv x→(∃y,step x=some (.inl y)∧Inv y∧μ y<μ x)∨∃r,step x=some (.inr r)∧Q r):
  ∀x,Inv x→∃r,Loop step x=some r∧Q r:=by
 intro x
 induction hm:μ x using Nat.strongRecOn generalizing x with
 | ind m ih=>
  intro hx
  rcases h x hx with ⟨y,h1,h2,h3⟩|⟨r,h1,h2⟩
  ·obtain ⟨r,h4,h5⟩:=ih (μ y) (by omega) y rfl h2
   exact ⟨r,(eF h1).trans h4,h5⟩
  ·exact ⟨r,cl h1,h2⟩
theorem BY (s:Nat→X) (n:Nat) {r:R} (h: ∀i,i<n→step (s i)=some (.inl (s (i+1)))) (he:step (s n)=some (.inr r)):Loop step (s 0)=some r:=by
 induction n generalizing s with
 | zero=>exact cl he
 | succ n ih=>
  rw[eF (h 0 (by omega))]
  exact ih (fun i=>s (i+1)) (fun i hi=>h (i+1) (by omega)) he
theorem aes (s:Nat→X) (k:Nat) {r:R} (h: ∀i,i<k→step (s i)=some (.inl (s (i+1)))) (he:step (s k)=some (.inr r)):Loop step (s 0)=some r:=BY s k h he
end
@[simp] theorem aA {α:Type} (p:Prop) [Decidable p] (a b:α):(bif decide p then a else b)=if p then a else b:=by by_cases h:p<;>simp[h]
@[simp] theorem oU {α:Type} (m n:Int) (a b:α):(bif m==n then a else b)=if m=n then a else b:=by
 by_cases h:m=n
 ·simp[h]
 ·have:(m==n)=false:=by simp[h]
  rw[this,ag h];rfl
@[simp] theorem rb {α:Type} (m n:Int) (a b:α):(bif m != n then a else b)=if m=n then b else a:=by
 by_cases h:m=n
 ·simp[h]
 ·have:(m != n)=true:=by simp[h]
  rw[this,ag h];rfl
@[simp] theorem gJ {α:Type} (c:Bool) (a b:α):(bif !c then a else b)=bif c then b else a:=by cases c<;>rfl
@[simp] theorem sI {α:Type} (m n:Nat) (a b:α):(bif Nat.ble m n then a else b)=if m≤n then a else b:=by
 cases hb:Nat.ble m n with
 | true=>rw[af (Nat.le_of_ble_eq_true hb)];rfl
 | false=>
  rw[ag fun h=> ?_]
  ·rfl
  ·rw[Nat.ble_eq_true_of_le h] at hb;cases hb
@[simp] theorem dO {α:Type} (c d:Bool) (a b:α):(bif c&&d then a else b)=bif c then (bif d then a else b) else b:=by cases c<;>rfl
section
variable {P:Program}
def Ut (P : Program) : Bool := P.funcs.all fun fn => !(fn.name == "runtime.NumGoroutine")
theorem aet (h:Ut P=true):yB P:=by
 intro f fn hf
 unfold Ut at h
 have:=(Array.all_eq_true_iff_forall_mem.1 h) fn (Array.mem_of_getElem? hf)
 simpa using this
theorem Km {t:TypeId} {ts:List TypeId} {xs:List V} (h:u6 P (t::ts) xs): ∃x ys,xs=x::ys∧gx P t x∧u6 P ts ys:=by
 cases xs with
 | nil=>exact h.elim
 | cons x ys=>exact ⟨x,ys,rfl,h.1,h.2⟩
theorem abr {xs:List V} (h:u6 P [] xs):xs=[]:=by
 cases xs with
 | nil=>rfl
 | cons x ys=>exact h.elim
theorem gx.one {t:TypeId} {x:V} (ha:bW P t=false) (h:gx P t x):WT P t x:=by
 have he:bd P t=[t]:=by simp[bd,ha]
 have:=h.2 0 t (by rw[he];rfl)
 simpa[b7,ha] using this
theorem WT.e8 {t:TypeId} {k:IntKind} {x:V} (hu:P.underlying t=some (.int k)) (h:WT P t x): ∃n,x= .int k n∧k.min≤n∧n≤k.max:=by
 cases h with
 | int h1 h2=>
  rw[hu] at h1
  cases h1
  simp only[Lit.wf,aM,eE] at h2
  exact ⟨_,rfl,h2⟩
 | bool h1=>rw[hu] at h1;cases h1
 | str h1=>rw[hu] at h1;cases h1
 | list h1=>rw[hu] at h1;cases h1
theorem WT.kG {t:TypeId} {x:V} (hu:P.underlying t=some .bool) (h:WT P t x): ∃b,x= .bool b:=by
 cases h with
 | int h1=>rw[hu] at h1;cases h1
 | bool h1=>exact ⟨_,rfl⟩
 | str h1=>rw[hu] at h1;cases h1
 | list h1=>rw[hu] at h1;cases h1
theorem WT.ny {t:TypeId} {x:V} (hu:P.underlying t=some .string) (h:WT P t x): ∃s,x= .str s∧s.length≤maxLen:=by
 cases h with
 | int h1=>rw[hu] at h1;cases h1
 | bool h1=>rw[hu] at h1;cases h1
 | str h1 h2=>exact ⟨_,rfl,h2⟩
 | list h1=>rw[hu] at h1;cases h1
theorem WT.Hg {t e:TypeId} {x:V} (hu:P.underlying t=some (.slice e)) (h:WT P t x): ∃es,x= .list e es∧es.length≤maxLen∧∀y∈es,gx P e y:=by
 cases h with
 | int h1=>rw[hu] at h1;cases h1
 | bool h1=>rw[hu] at h1;cases h1
 | str h1=>rw[hu] at h1;cases h1
 | list h1 h2 h3 h4=>
  rw[hu] at h1
  cases h1
  refine ⟨_,rfl,h2,fun y hy=> ?_⟩
  obtain ⟨i,hi⟩:=tF hy
  exact ⟨h3 i y hi,fun j t' hj=>h4 i j y t' hi hj⟩
theorem gx.lW {t:TypeId} {x:V} (ha:bW P t=true) (h:gx P t x): ∃xs,x= .agg xs∧xs.length=(bd P t).length∧∀(j:Nat) t' y,(bd P t)[j]? =some t'→xs[j]? =some y→WT P t' y:=by
 obtain ⟨xs,rfl,hl⟩:=h.1 ha
 refine ⟨xs,rfl,hl,fun j t' y hj hy=> ?_⟩
 have:=h.2 j t' hj
 simp only[b7,ha,cond_true,V.aeq] at this
 rw[vG _ _ _ hy] at this
 exact this
theorem Uu {α:Type} {f:α→V}: ∀{es:List V},(∀y∈es,∃a,y=f a)→∃l:List α,es=l.map f
 | [],_=>⟨[],rfl⟩
 | y::es,h=>by
  obtain ⟨a,rfl⟩:=h y (by simp)
  obtain ⟨l,rfl⟩:=Uu (f:=f) (es:=es) fun z hz=>h z (by simp[hz])
  exact ⟨a::l,rfl⟩
theorem Hh {α:Type} {f:α→V} {p:α→Prop}: ∀{es:List V},(∀y∈es,∃a,y=f a∧p a)→∃l:List α,es=l.map f∧∀a∈l,p a
 | [],_=>⟨[],rfl,by simp⟩
 | y::es,h=>by
  obtain ⟨a,rfl,ha⟩:=h y (by simp)
  obtain ⟨l,rfl,hl⟩:=Hh (f:=f) (p:=p) (es:=es) fun z hz=>h z (by simp[hz])
  exact ⟨a::l,rfl,by
   intro b hb
   rcases gz.1 hb with rfl|hb
   ·exact ha
   ·exact hl b hb⟩
theorem gx.int {t:TypeId} {x:V} (hu:P.underlying t=some (.int .i64)) (h:gx P t x): ∃n,x= .int .i64 n∧IntKind.min .i64≤n∧n≤IntKind.max .i64:=
 (h.one (by simp[bW,hu])).e8 hu
theorem gx.str {t:TypeId} {x:V} (hu:P.underlying t=some .string) (h:gx P t x): ∃s,x= .str s∧s.length≤maxLen:=
 (h.one (by simp[bW,hu])).ny hu
end
def un.{u} {A B:Type} {γ:Sort u} (f:A→B→γ) (p:A × B):γ:=f p.1 p.2
def cL {A B γ:Type} (f:A→γ) (g:B→γ):A ⊕ B→γ
 | .inl a=>f a
 | .inr b=>g b
def ao:List Nat→Code→Code
 | [],c=>c
 | 0::p,.seq a _=>ao p a
 | _::p,.seq _ b=>ao p b
 | 0::p,.cond _ a _=>ao p a
 | _::p,.cond _ _ b=>ao p b
 | _::p,.block _ c=>ao p c
 | _::p,.loop c=>ao p c
 | _,c=>c
inductive cB where
 | loop (c:Code)
 | cond (t:Nat) (x y:Code)
section
variable (P:Program) (A:cX) (C:ae) (L:cD) (f n m:Nat)
def rf:Code→List cB
 | .seq a b=>rf a++rf b
 | .cond (.tmp t) x y=>
  match A.ig f (t*16+15) with
  | none=>rf x++rf y
  | some _=>[.cond t x y]
 | .cond (.const _) x y=>rf x++rf y
 | .block _ c=>rf c
 | .loop c=>[.loop c]
 | _=>[]
def cC:cB→Prop
 | .loop c=>
  match A.ig f (keyOf c+1) with
  | none=>True
  | some S=> ∀(β:Type) ds (k:Nat→List V→Option β),L β (keyOf c+1) ds k=(Loop (stepG P A C f n m S c) ds).bind fun r=>k r.1 r.2
 | .cond t x y=>
  match A.ig f (t*16+15) with
  | none=>True
  | some S=> ∀(β:Type) ds (k:Nat→List V→Option β),L β (t*16+15) ds k=(A3 P A C f n m t S x y ds).bind fun r=>k r.1 r.2
def oV:List cB→Prop
 | []=>True
 | b::l=>cC P A C L f n m b∧oV l
variable {P A C L f n m}
theorem oV.left {a b:List cB}:oV P A C L f n m (a++b)→oV P A C L f n m a:=by
 induction a with
 | nil=>exact fun _=>trivial
 | cons x a ih=>exact fun h=>⟨h.1,ih h.2⟩
theorem oV.right {a b:List cB}:oV P A C L f n m (a++b)→oV P A C L f n m b:=by
 induction a with
 | nil=>exact fun h=>h
 | cons x a ih=>exact fun h=>ih h.2
theorem aW: ∀{c:Code} {bs:List cB},rf A f c=bs→oV P A C L f n m bs→ji P A C L f n m c:=by
 intro c
 induction c with
 | seq a b KK KL=>
  intro bs h hb
  subst h
  exact ⟨KK rfl hb.left,KL rfl hb.right⟩
 | cond c x y gD gE=>
  intro bs h hb
  subst h
  cases c with
  | tmp t=>
   simp only[rf] at hb
   simp only[ji]
   cases hs:A.ig f (t*16+15) with
   | none=>
    rw[hs] at hb
    exact ⟨gD rfl hb.left,gE rfl hb.right⟩
   | some S=>
    rw[hs] at hb
    have:=hb.1
    simp only[cC,hs] at this
    exact this
  | const v=>exact ⟨gD rfl hb.left,gE rfl hb.right⟩
  | _=>trivial
 | block id c ih=>
  intro bs h hb
  subst h
  exact ih rfl hb
 | loop c ih=>
  intro bs h hb
  subst h
  exact hb.1
 | _=>intro bs h hb;trivial
variable (P A C L f n m) in
noncomputable def Mv {β:Type} (t:Nat) (S:Shape × List (Out × Shape)) (x y:Code) (ds:List V) (k:Nat→List V→Option β):Option β:=
 let kc:Out→St→Option β:=fun o st=>
  match o with
  | .norm=>(ways m 0 S.2 (.norm,canon m (A.join f t) st)).bind fun e=>k e.1 e.2
  | o=>(ways m 0 S.2 (o,st)).bind fun e=>k e.1 e.2
 match (bE S.1 ds).sl t with
 | .bool b=>bif b then jh P A C L f n m x (bE S.1 ds) kc else jh P A C L f n m y (bE S.1 ds) kc
 | _=>none
theorem aeu {t:Nat} {x y:Code} {S:Shape × List (Out × Shape)} (hS:A.ig f (t*16+15)=some S) (hx:ji P A C L f n m x) (hy:ji P A C L f n m y) {I R:Type} (enc:I→List V) (nK:I→R→Nat × List V)
  (de:List V→I) (body:I→(β:Type)→(R→Option β)→Option β) (wh: ∀ds,bE S.1 (enc (de ds))=bE S.1 ds)
  (e1: ∀i (β:Type) (k:Nat→List V→Option β),Mv P A C L f n m t S x y (enc i) k=body i β (fun r=>k (nK i r).1 (nK i r).2))
  (hl: ∀(β:Type) ds (k:Nat→List V→Option β),L β (t*16+15) ds k=body (de ds) β (fun r=>k (nK (de ds) r).1 (nK (de ds) r).2)):
  cC P A C L f n m (.cond t x y):=by
 simp only[cC,hS]
 intro β ds k
 rw[hl,←e1]
 unfold Mv A3
 rw[wh]
 simp only
 have hk: ∀(z:Option (Out × St)),(z.bind fun r=>(match r.1 with
   | .norm=>(ways m 0 S.2 (.norm,canon m (A.join f t) r.2)).bind fun e=>k e.1 e.2
   | o=>(ways m 0 S.2 (o,r.2)).bind fun e=>k e.1 e.2))=((z.bind fun r=>
   match r.1 with
   | .norm=>some (Out.norm,canon m (A.join f t) r.2)
   | _=>some r).bind fun r=>ways m 0 S.2 r).bind fun r=>k r.1 r.2:=by
  intro z
  cases z with
  | none=>rfl
  | some r=>obtain ⟨o,st⟩:=r;cases o<;>rfl
 cases (bE S.1 ds).sl t with
 | bool b=>
  cases b with
  | true=>simp only[cond_true,FU P A C f n m x hx];exact hk _
  | false=>simp only[cond_false,FU P A C f n m y hy];exact hk _
 | _=>rfl
theorem bm {b:cB} {l:List cB} (h:cC P A C L f n m b) (h2:oV P A C L f n m l):oV P A C L f n m (b::l):=⟨h,h2⟩
theorem ar:oV P A C L f n m []:=trivial
theorem bD {key:Nat} {bs:List cB} (hb:rf A key (cJ P (A.bc key))=bs) (ht:oV P A (Call P A) L key (cQ P (A.bc key)) (A.sin key).bj.length bs) {ds:List V} {r:Option (List V)}
  (h:KM P A (Call P A) L key ds=r):Call P A key ds=r:=by
 rw[aeg,abG P A (Call P A) key (aW hb ht),h]
end
section
variable (P:Program) (A:cX)
def jq (C:ae) (N f n m:Nat):Code→St→Option (Out × St)
 | .skip,st=>some (.norm,st)
 | .region id ops draw,st=>(xR P (A.here f id) C n ops draw st).bind fun st'=>some (.norm,canon m (A.live f id) (freeze m (A.pur f id) st'))
 | .seq a b,st=>(jq C N f n m a st).bind fun r=>
  match r.1 with
  | .norm=>jq C N f n m b r.2
  | _=>some r
 | .cond (.tmp t) x y,st=>
  let go (st:St):Option (Out × St):=
   match st.sl t with
   | .bool b=>(bif b then jq C N f n m x st else jq C N f n m y st).bind fun r=>
    match r.1 with
    | .norm=>some (.norm,canon m (A.join f t) r.2)
    | _=>some r
   | _=>none
  match A.ig f (t*16+15) with
  | none=>go st
  | some S=>(jC m S.1 st).bind fun ds=>((go (bE S.1 ds)).bind fun r=>ways m 0 S.2 r).bind fun e=>lj 0 S.2 e.1 e.2 fun o st=>some (o,st)
 | .cond (.const (.bool b)) x y,st=>bif b then jq C N f n m x st else jq C N f n m y st
 | .block id c,st=>(jq C N f n m c st).bind fun r=>
  match r.1 with
  | .norm=>some (.norm,canon m (A.blk f id) r.2)
  | .exit aE=>bif Nat.beq aE id then some (.norm,canon m (A.blk f id) r.2) else some r
  | .ret=>some r
 | .loop c,st=>
  match A.ig f (keyOf c+1) with
  | none=>none
  | some S=>(jC m S.1 st).bind fun ds=>(fk (fun ds=>lT m S.1 S.2 (jq C N f n m c (bE S.1 ds))) N ds).bind fun e=>lj 0 S.2 e.1 e.2 fun o st=>some (o,st)
 | .exit id,st=>some (.exit id,st)
 | .ret,st=>some (.ret,st)
 | _,_=>none
def Mw (C:ae) (N f:Nat) (ds:List V):Option (List V):=
 match P.funcs[A.bc f]? with
 | none=>none
 | some fn=>
  match fn.body with
  | none=>none
  | some c=>bif jg 0 (A.sin f).bX&&(Nat.ble (A.sin f).bX.length fn.ntmps&&((A.sin f).ok&&(jg 0 (A.gj f).bX&&(Nat.beq (A.gj f).bX.length fn.results.size&&pI (nr (A.sin f).bj.length (A.mv f)))))) then
    (jq P A C N f fn.ntmps (A.sin f).bj.length c (A1 A f ds)).bind fun r=>
     match r.1 with
     | .exit _=>none
     | _=>((vq P A f fn (A.sin f).bj.length r.2).run C r.2.hp).map (·.1)
   else none
def Hi (N:Nat):Nat→ae
 | 0=>fun _ _=>none
 | n+1=>Mw P A (Hi N n) N
variable {P A}
theorem Uv {X R:Type} {s1 s2:X→Option (X ⊕ R)} (h: ∀x y,s1 x=some y→s2 x=some y): ∀(n:Nat) (x:X) (r:R),fk s1 n x=some r→fk s2 n x=some r
 | 0,x,r,e=>by cases e
 | n+1,x,r,e=>by
  simp only[fk] at e⊢
  obtain ⟨y,h1,h2⟩:=bind_some e
  rw[h x y h1]
  cases y with
  | inl z=>exact Uv h n z r h2
  | inr q=>exact h2
theorem aev {C:ae} {N f n m:Nat}: ∀(c:Code) {st:St} {r:Out × St},jq P A C N f n m c st=some r→exec P A C f n m c st=some r:=by
 intro c
 induction c with
 | skip=>exact fun e=>e
 | exit id=>exact fun e=>e
 | ret=>exact fun e=>e
 | region id ops draw=>exact fun e=>e
 | seq x y gD gE=>
  intro st r e
  simp only[jq,exec] at e⊢
  obtain ⟨⟨o,s1⟩,h1,h2⟩:=bind_some e
  rw[gD h1]
  cases o with
  | norm=>exact gE h2
  | exit id=>exact h2
  | ret=>exact h2
 | cond c x y gD gE=>
  intro st r e
  cases c with
  | tmp t=>
   have go: ∀{st:St} {r:Out × St},(match st.sl t with
     | .bool b=>(bif b then jq P A C N f n m x st else jq P A C N f n m y st).bind fun r=>
      match r.1 with
      | .norm=>some (.norm,canon m (A.join f t) r.2)
      | _=>some r
     | _=>none)=some r→(match st.sl t with
     | .bool b=>(bif b then exec P A C f n m x st else exec P A C f n m y st).bind fun r=>
      match r.1 with
      | .norm=>some (.norm,canon m (A.join f t) r.2)
      | _=>some r
     | _=>none)=some r:=by
    intro st r e
    cases hs:st.sl t<;>rw[hs] at e<;>simp only at e⊢ <;>first|(cases e;done)|skip
    rename_i b
    obtain ⟨x1,h1,h2⟩:=bind_some e
    cases b with
    | true=>simp only[cond_true,gD h1,Option.bind_some];exact h2
    | false=>simp only[cond_false,gE h1,Option.bind_some];exact h2
   simp only[jq,exec] at e⊢
   split at e
   ·rename_i hS
    try rw[hS]
    exact go e
   ·rename_i S hS
    obtain ⟨ds,h1,h2⟩:=bind_some e
    obtain ⟨e',h3,h4⟩:=bind_some h2
    obtain ⟨r1,h5,h6⟩:=bind_some h3
    try rw[hS]
    simp only[h1,Option.bind_some]
    exact (congrArg (fun z:Option (Out × St)=>(z.bind fun r=>ways m 0 S.2 r).bind fun e=>lj 0 S.2 e.1 e.2 fun o st=>some (o,st)) (go h5)).trans (by simp only[Option.bind_some,h6];exact h4)
  | const v=>
   cases v with
   | bool b=>
    simp only[jq,exec] at e⊢
    cases b with
    | true=>exact gD e
    | false=>exact gE e
   | _=>simp only[jq] at e;cases e
  | _=>simp only[jq] at e;cases e
 | block id c ih=>
  intro st r e
  simp only[jq,exec] at e⊢
  obtain ⟨x1,h1,h2⟩:=bind_some e
  rw[ih h1]
  exact h2
 | loop c ih=>
  intro st r e
  simp only[jq,exec] at e⊢
  split at e
  ·cases e
  ·rename_i S hS
   obtain ⟨ds,h1,h2⟩:=bind_some e
   obtain ⟨e',h3,h4⟩:=bind_some h2
   try rw[hS]
   simp only[h1,Option.bind_some]
   rw[xD (Uv (s2:=fun ds=>lT m S.1 S.2 (exec P A C f n m c (bE S.1 ds))) (fun x y BV=>by
    unfold lT at BV⊢
    obtain ⟨z,h5,h6⟩:=bind_some BV
    rw[ih h5]
    exact h6) N ds e' h3)]
   exact h4
 | _=>intro st r e;simp only[jq] at e;cases e
theorem aew {C:ae} {N f:Nat} {ds es:List V} (e:Mw P A C N f ds=some es):pK P A C f ds=some es:=by
 unfold Mw at e
 unfold pK
 cases hf:P.funcs[A.bc f]? with
 | none=>rw[hf] at e;cases e
 | some fn=>
  rw[hf] at e
  simp only at e⊢
  cases hb:fn.body with
  | none=>rw[hb] at e;cases e
  | some c=>
   rw[hb] at e
   simp only at e⊢
   cases hc:(jg 0 (A.sin f).bX&&(Nat.ble (A.sin f).bX.length fn.ntmps&&((A.sin f).ok&&(jg 0 (A.gj f).bX&&(Nat.beq (A.gj f).bX.length fn.results.size&&pI (nr (A.sin f).bj.length (A.mv f))))))) with
   | false=>rw[hc] at e;cases e
   | true=>
    rw[hc] at e
    simp only[cond_true] at e⊢
    obtain ⟨x,h1,h2⟩:=bind_some e
    rw[aev c h1]
    exact h2
theorem Uw {N:Nat}: ∀n {f:Nat} {a r:List V},Hi P A N n f a=some r→lk P A n f a=some r
 | 0,f,a,r,h=>by cases h
 | n+1,f,a,r,h=>by
  obtain ⟨M,hM⟩:=G8 (C:=Hi P A N n) (D:=fun _=>lk P A n) (fun f a r h=>⟨0,fun _ _=>Uw n h⟩) (aew h)
  exact hM M (ax _)
theorem aex {N n f:Nat} {a r:List V} (h:Hi P A N n f a=some r):Call P A f a=some r:=BW.2 ⟨n,Uw n h⟩
end
inductive LK where
 | int (k:IntKind)
 | bool
 | str
 | list (e:TypeId)
 | nat
def LK.Ty:LK→Type
 | .int _=>Int
 | .bool=>Bool
 | .str=>List UInt8
 | .list _=>List V
 | .nat=>Nat
def LK.enc:(k:LK)→k.Ty→V
 | .int k,n=> .int k n
 | .bool,b=> .bool b
 | .str,s=> .str s
 | .list e,l=> .list e l
 | .nat,n=>eR n
def LK.dec:(k:LK)→V→k.Ty
 | .int _,v=>v.toInt
 | .bool,v=>v.toBool
 | .str,v=>v.toStr
 | .list _,v=>v.toList
 | .nat,v=>lQ v
theorem LK.Ux: ∀(k:LK) (x:k.Ty),k.dec (k.enc x)=x
 | .int _,_=>rfl
 | .bool,_=>rfl
 | .str,_=>rfl
 | .list _,_=>rfl
 | .nat,_=>rfl
def Mx:List Nat→List LK
 | []=>[]
 | _::l=> .nat::Mx l
def LS.ks:LS→List LK
 | .int k=>[.int k]
 | .bool=>[.bool]
 | .str=>[.str]
 | .list e=>[.list e]
 | .sub .. =>[.nat,.nat]
 | .ptr _=>[.nat,.nat]
 | .row _ _ cs=>Mx cs
 | .cW _ cs _=> .nat::Mx cs
 | _=>[]
def yI:List LS→List LK
 | []=>[]
 | l::ls=>l.ks++yI ls
def VS.ks:VS→List LK
 | .one l=>l.ks
 | .agg ls=>yI ls
 | .bx ls=>yI ls
 | .fn _ a b=>yI a++yI b
 | .pref _ ls=>yI ls
def Uy:List VS→List LK
 | []=>[]
 | l::ls=>l.ks++Uy ls
def BS.ks:BS→List LK
 | .var _ cs=>Uy cs
 | .arr e _=>[.list e]
 | .nest e=>[.list e]
 | .dead=>[]
 | .map t=>[.list t]
def Uz:List (Nat × VS)→List LK
 | []=>[]
 | p::l=>p.2.ks++Uz l
def UA:List BS→List LK
 | []=>[]
 | b::l=>b.ks++UA l
def Shape.ks (S:Shape):List LK:=Uz S.bX++UA S.bj
def My:List Nat→List V→List V
 | [],_=>[]
 | _::cs,ds=>eR (lQ (V.nth ds 0))::My cs (ds.drop 1)
def LS.norm:LS→List V→List V
 | .int k,ds=>[.int k (V.nth ds 0).toInt]
 | .bool,ds=>[.bool (V.nth ds 0).toBool]
 | .str,ds=>[.str (V.nth ds 0).toStr]
 | .list e,ds=>[.list e (V.nth ds 0).toList]
 | .sub ..,ds=>[eR (lQ (V.nth ds 0)),eR (lQ (V.nth ds 1))]
 | .ptr _,ds=>[eR (lQ (V.nth ds 0)),eR (lQ (V.nth ds 1))]
 | .row _ _ cs,ds=>My cs ds
 | .cW _ cs _,ds=>eR (lQ (V.nth ds 0))::My cs (ds.drop 1)
 | _,_=>[]
def yJ:List LS→List V→List V
 | [],_=>[]
 | l::ls,ds=>l.norm ds++yJ ls (ds.drop l.size)
def VS.norm:VS→List V→List V
 | .one l,ds=>l.norm ds
 | .agg ls,ds=>yJ ls ds
 | .bx ls,ds=>yJ ls ds
 | .fn _ a b,ds=>yJ a ds++yJ b (ds.drop (lg a))
 | .pref _ ls,ds=>yJ ls ds
def UB:List VS→List V→List V
 | [],_=>[]
 | l::ls,ds=>l.norm ds++UB ls (ds.drop l.size)
def BS.norm:BS→List V→List V
 | .var _ cs,ds=>UB cs ds
 | .arr e _,ds=>[.list e (V.nth ds 0).toList]
 | .nest e,ds=>[.list e (V.nth ds 0).toList]
 | .dead,_=>[]
 | .map t,ds=>[.list t (V.nth ds 0).toList]
def UC:List (Nat × VS)→List V→List V
 | [],_=>[]
 | p::l,ds=>p.2.norm ds++UC l (ds.drop p.2.size)
def UD:List BS→List V→List V
 | [],_=>[]
 | b::l,ds=>b.norm ds++UD l (ds.drop b.size)
def Shape.norm (S:Shape) (ds:List V):List V:=UC S.bX ds++UD S.bj (ds.drop (pH S.bX))
def wi:LK→List LK→Type
 | k,[]=>k.Ty
 | k,k'::ks=>k.Ty × wi k' ks
def lz:List LK→Type
 | []=>Unit
 | k::ks=>wi k ks
def wj:(k:LK)→(ks:List LK)→wi k ks→List V
 | k,[],x=>[k.enc x]
 | k,k'::ks,x=>k.enc x.1::wj k' ks x.2
def mf:(ks:List LK)→lz ks→List V
 | [],_=>[]
 | k::ks,x=>wj k ks x
def BZ:(k:LK)→(ks:List LK)→List V→wi k ks
 | k,[],l=>k.dec (V.nth l 0)
 | k,k'::ks,l=>(k.dec (V.nth l 0),BZ k' ks l.tail)
def p7:(ks:List LK)→List V→lz ks
 | [],_=>()
 | k::ks,l=>BZ k ks l
theorem UE: ∀(k:LK) (ks:List LK) (x:wi k ks) (r:List V),BZ k ks (wj k ks x++r)=x
 | k,[],x,r=>LK.Ux k x
 | k,k'::ks,x,r=>by
  show (k.dec (k.enc x.1),BZ k' ks (wj k' ks x.2++r))=x
  rw[LK.Ux,UE k' ks]
  rfl
def yK:List LK→Type 1→Type 1
 | [],R=>R
 | k::ks,R=>k.Ty→yK ks R
def UF:(k:LK)→(ks:List LK)→{R:Type 1}→yK (k::ks) R→wi k ks→R
 | _,[],_,f,x=>f x
 | _,k'::ks,_,f,x=>UF k' ks (f x.1) x.2
def wk:(ks:List LK)→{R:Type 1}→yK ks R→lz ks→R
 | [],_,f,_=>f
 | k::ks,_,f,x=>UF k ks f x
def yL {α:Type} (b:Bool):List Bool→List α→List α
 | [],_=>[]
 | _,[]=>[]
 | c::m,x::l=>bif c==b then x::yL b m l else yL b m l
def merge:List Bool→List V→List V→List V
 | [],_,_=>[]
 | true::m,i,x=>V.nth x 0::merge m i x.tail
 | false::m,i,x=>V.nth i 0::merge m i.tail x
def yM:List Nat→List LK→List LK
 | [],_=>[]
 | _,[]=>[]
 | 0::t,k::ks=>k::yM t ks
 | (_+1)::t,_::ks=>yM t ks
abbrev gr:=List Nat × List LK
def gr.fresh (w:gr):List LK:=yM w.1 w.2
def put:List Nat→List V→List V→List V
 | [],_,_=>[]
 | 0::t,ds,x=>V.nth x 0::put t ds x.tail
 | (j+1)::t,ds,x=>V.nth ds j::put t ds x
def wm:List Nat→List V→List V
 | [],_=>[]
 | 0::t,l=>V.nth l 0::wm t l.tail
 | (_+1)::t,l=>wm t l.tail
def uw:gr→List gr→Type
 | w,[]=>lz w.fresh
 | w,w'::ws=>lz w.fresh ⊕ uw w' ws
def sJ:List gr→Type
 | []=>Empty
 | w::ws=>uw w ws
def wN (ds:List V) {β:Type} (k:Nat→List V→Option β):Nat→(w:gr)→(ws:List gr)→uw w ws→Option β
 | j,w,[],r=>k j (put w.1 ds (mf w.fresh r))
 | j,w,w'::ws,r=>cL (fun x=>k j (put w.1 ds (mf w.fresh x))) (fun y=>wN ds k (j+1) w' ws y) r
def wT (ds:List V) {β:Type} (k:Nat→List V→Option β):(ws:List gr)→sJ ws→Option β
 | [],r=>Empty.elim r
 | w::ws,r=>wN ds k 0 w ws r
def p8 (ds:List V):Nat→(w:gr)→(ws:List gr)→uw w ws→Nat × List V
 | j,w,[],r=>(j,put w.1 ds (mf w.fresh r))
 | j,w,_::_,.inl x=>(j,put w.1 ds (mf w.fresh x))
 | j,_,w'::ws,.inr y=>p8 ds (j+1) w' ws y
def yN (ds:List V):(ws:List gr)→sJ ws→Nat × List V
 | [],r=>Empty.elim r
 | w::ws,r=>p8 ds 0 w ws r
theorem UG (ds:List V) {β:Type} (k:Nat→List V→Option β): ∀(j:Nat) (w:gr) (ws:List gr) (r:uw w ws),wN ds k j w ws r=k (p8 ds j w ws r).1 (p8 ds j w ws r).2
 | _,_,[],_=>rfl
 | _,_,_::_,.inl _=>rfl
 | j,_,w'::ws,.inr y=>UG ds k (j+1) w' ws y
theorem Hj (ds:List V) {β:Type} (k:Nat→List V→Option β): ∀(ws:List gr) (r:sJ ws),wT ds k ws r=k (yN ds ws r).1 (yN ds ws r).2
 | [],r=>Empty.elim r
 | w::ws,r=>UG ds k 0 w ws r
def yO:Nat→(w:gr)→(ws:List gr)→List V→uw w ws
 | _,w,[],l=>p7 w.fresh (wm w.1 l)
 | 0,w,_::_,l=> .inl (p7 w.fresh (wm w.1 l))
 | j+1,_,w'::ws,l=> .inr (yO j w' ws l)
def UH (j:Nat):(ws:List gr)→List V→Option (sJ ws)
 | [],_=>none
 | w::ws,l=>some (yO j w ws l)
def yP:List Nat→List V→List V
 | [],_=>[]
 | 0::t,x=>V.nth x 0::yP t x.tail
 | (_+1)::t,x=>yP t x
theorem Mz: ∀(t:List Nat) (ds x:List V),wm t (put t ds x)=yP t x
 | [],_,_=>rfl
 | 0::t,ds,x=>congrArg (V.nth x 0:: ·) (Mz t ds x.tail)
 | (_+1)::t,ds,x=>Mz t ds x
theorem MA: ∀(t:List Nat) (ks:List LK) (k:LK) (rh:List LK),yM t ks=k::rh→∀x:wi k rh,∃r,yP t (wj k rh x)=wj k rh x++r
 | [],_,_,_,h,_=>by cases h
 | _::_,[],_,_,h,_=>by simp[yM] at h
 | 0::t,a::ks,k,rh,h,x=>by
  simp only[yM,Ao] at h
  obtain ⟨rfl,h2⟩:=h
  cases rh with
  | nil=>exact ⟨yP t [],rfl⟩
  | cons k' rh=>
   obtain ⟨r,hr⟩:=MA t ks k' rh h2 x.2
   exact ⟨r,congrArg (a.enc x.1:: ·) hr⟩
 | (_+1)::t,a::ks,k,rh,h,x=>MA t ks k rh h x
theorem UI (w:gr) (ds:List V) (x:lz w.fresh):p7 w.fresh (wm w.1 (put w.1 ds (mf w.fresh x)))=x:=by
 rw[Mz]
 revert x
 generalize hf:w.fresh=f
 cases f with
 | nil=>intro x;rfl
 | cons k ks=>
  intro x
  obtain ⟨r,hr⟩:=MA w.1 w.2 k ks hf x
  show BZ k ks (yP w.1 (wj k ks x))=x
  rw[hr]
  exact UE k ks x r
theorem UJ (ds:List V): ∀(j:Nat) (w:gr) (ws:List gr) (r:uw w ws),j≤(p8 ds j w ws r).1
 | _,_,[],_=>ax _
 | _,_,_::_,.inl _=>ax _
 | j,_,w'::ws,.inr y=>jT (Nat.le_succ j) (UJ ds (j+1) w' ws y)
theorem aey (w:gr) (l:List V): ∀j,yO j w [] l=p7 w.fresh (wm w.1 l)
 | 0=>rfl
 | _+1=>rfl
theorem UK (ds:List V): ∀(j:Nat) (w:gr) (ws:List gr) (r:uw w ws),yO ((p8 ds j w ws r).1-j) w ws (p8 ds j w ws r).2=r
 | j,w,[],r=>(aey w _ _).trans (UI w ds r)
 | j,w,w'::ws,.inl x=>by
  show yO (j-j) w (w'::ws) (put w.1 ds (mf w.fresh x))= .inl x
  rw[Nat.sub_self]
  exact congrArg Sum.inl (UI w ds x)
 | j,w,w'::ws,.inr y=>by
  have h1:=UJ ds (j+1) w' ws y
  have h2:=UK ds (j+1) w' ws y
  show yO ((p8 ds (j+1) w' ws y).1-j) w (w'::ws) (p8 ds (j+1) w' ws y).2= .inr y
  obtain ⟨d,hd⟩: ∃d,(p8 ds (j+1) w' ws y).1=j+1+d:=⟨(p8 ds (j+1) w' ws y).1-(j+1),by omega⟩
  rw[hd] at h2⊢
  rw[show j+1+d-(j+1)=d by omega] at h2
  rw[show j+1+d-j=d+1 by omega]
  exact congrArg Sum.inr h2
theorem aez (ds:List V): ∀(ws:List gr) (r:sJ ws),UH (yN ds ws r).1 ws (yN ds ws r).2=some r
 | [],r=>Empty.elim r
 | w::ws,r=>congrArg some (UK ds 0 w ws r)
section
variable {P:Program} {A:cX} {C:ae} {L:cD} {f n m:Nat}
theorem aeA {c:Code} {S:Shape × List (Out × Shape)} (hS:A.ig f (keyOf c+1)=some S) (hL:ji P A C L f n m c) {I X R:Type} (enc:I→X→List V) (nK:I→R→Nat × List V)
  (ri:List V→I) (sK:List V→X) (Hk:Nat × List V→Option R) (body:I→X→(β:Type)→(X→Option β)→(R→Option β)→Option β)
  (wh: ∀ds,bE S.1 (enc (ri ds) (sK ds))=bE S.1 ds) (MB: ∀i x,sK (enc i x)=x) (hdr: ∀i r,Hk (nK i r)=some r)
  (e1: ∀i x (β:Type) (k:(List V ⊕ (Nat × List V))→Option β),jh P A C L f n m c (bE S.1 (enc i x)) (fun o st=>(lT m S.1 S.2 (some (o,st))).bind k)=
   body i x β (fun y=>k (.inl (enc i y))) (fun r=>k (.inr (nK i r))))
  (hl: ∀(β:Type) ds (k:Nat→List V→Option β),L β (keyOf c+1) ds k=(Loop (fun x=>body (ri ds) x (X ⊕ R) (fun y=>some (.inl y)) (fun r=>some (.inr r))) (sK ds)).bind fun r=>k (nK (ri ds) r).1 (nK (ri ds) r).2):
  cC P A C L f n m (.loop c):=by
 simp only[cC,hS]
 intro β ds k
 rw[hl]
 have hex: ∀(z:Option (Out × St)),lT m S.1 S.2 z=z.bind fun r=>lT m S.1 S.2 (some (r.1,r.2)):=by
  intro z;cases z<;>rfl
 have hs: ∀i x,stepG P A C f n m S c (enc i x)=(body i x (X ⊕ R) (fun y=>some (.inl y)) (fun r=>some (.inr r))).map fun| .inl y=> .inl (enc i y)| .inr r=> .inr (nK i r):=by
  intro i x
  have k1:=e1 i x _ (fun z=>some z)
  have k2:=e1 i x (X ⊕ R) (fun| .inl ds=>some (.inl (sK ds))| .inr e=>(Hk e).map .inr)
  have k3:=e1 i x (List V ⊕ (Nat × List V)) (fun| .inl ds=>some (.inl (enc i (sK ds)))| .inr e=>(Hk e).map fun r=> .inr (nK i r))
  simp only[MB,hdr,Option.map_some] at k2 k3
  unfold stepG
  rw[hex]
  rw[FU P A C f n m c hL] at k1 k2 k3
  rw[←k2]
  refine bB ?_ (k1.trans (k3.symm.trans ?_))
  ·congr 1
   funext r
   cases lT m S.1 S.2 (some (r.1,r.2))<;>rfl
  ·cases exec P A C f n m c (bE S.1 (enc i x)) with
   | none=>rfl
   | some r=>
    simp only[Option.bind_some]
    cases lT m S.1 S.2 (some (r.1,r.2)) with
    | none=>rfl
    | some z=>
     cases z with
     | inl _=>rfl
     | inr e=>simp only[Option.bind_some];cases Hk e<;>rfl
 have h0:stepG P A C f n m S c ds=stepG P A C f n m S c (enc (ri ds) (sK ds)):=by
  unfold stepG
  rw[wh]
 have:Loop (stepG P A C f n m S c) ds=(Loop (fun x=>body (ri ds) x (X ⊕ R) (fun y=>some (.inl y)) (fun r=>some (.inr r))) (sK ds)).map (nK (ri ds)):=by
  rw[Fy,h0,←Fy]
  exact abE (enc (ri ds)) (nK (ri ds)) (fun x=>hs _ _) (sK ds)
 rw[this]
 cases Loop (fun x=>body (ri ds) x (X ⊕ R) (fun y=>some (.inl y)) (fun r=>some (.inr r))) (sK ds)<;>rfl
abbrev B0 (S:Shape) (mk:List Bool):List LK:=yL false mk S.ks
abbrev wo (S:Shape) (mk:List Bool):List LK:=yL true mk S.ks
def sL (ts:List (List Nat)) (W:List (Out × Shape)):List gr:=
 match ts,W with
 | t::ts,w::W=>(t,w.2.ks)::sL ts W
 | _,_=>[]
abbrev B1 (S:Shape) (mk:List Bool) (i:lz (B0 S mk)) (x:lz (wo S mk)):List V:=merge mk (mf _ i) (mf _ x)
abbrev MC (S:Shape) (mk:List Bool) (i:lz (B0 S mk)):List V:=merge mk (mf _ i) []
abbrev Hl (S:Shape) (mk:List Bool) (ds:List V):lz (B0 S mk):=p7 _ (yL false mk (S.norm ds))
abbrev Hm (S:Shape) (mk:List Bool) (ds:List V):lz (wo S mk):=p7 _ (yL true mk (S.norm ds))
abbrev UL (X R:Type):Type 1:=(β:Type)→(X→Option β)→(R→Option β)→Option β
abbrev MD (S:Shape × List (Out × Shape)) (mk:List Bool) (ts:List (List Nat)):Type 1:=yK (B0 S.1 mk) (yK (wo S.1 mk) (UL (lz (wo S.1 mk)) (sJ (sL ts S.2))))
abbrev ME (S:Shape × List (Out × Shape)) (mk:List Bool) (ts:List (List Nat)) (b:MD S mk ts) (i:lz (B0 S.1 mk)) (x:lz (wo S.1 mk)):UL (lz (wo S.1 mk)) (sJ (sL ts S.2)):=wk _ (wk _ b i) x
noncomputable def bz (S:Shape × List (Out × Shape)) (mk:List Bool) (ts:List (List Nat)) (b:MD S mk ts) {β:Type} (ds:List V) (k:Nat→List V→Option β):Option β:=
 (Loop (fun x=>ME S mk ts b (Hl S.1 mk ds) x (lz (wo S.1 mk) ⊕ sJ (sL ts S.2)) (fun y=>some (.inl y)) (fun r=>some (.inr r))) (Hm S.1 mk ds)).bind (wT (MC S.1 mk (Hl S.1 mk ds)) k (sL ts S.2))
theorem bC {c:Code} (S:Shape × List (Out × Shape)) (mk:List Bool) (ts:List (List Nat)) (b:MD S mk ts) (hS:A.ig f (keyOf c+1)=some S) (hL:ji P A C L f n m c)
  (wh: ∀ds,bE S.1 (B1 S.1 mk (Hl S.1 mk ds) (Hm S.1 mk ds))=bE S.1 ds) (MB: ∀i x,Hm S.1 mk (B1 S.1 mk i x)=x)
  (e1: ∀i x (β:Type) (k:(List V ⊕ (Nat × List V))→Option β),jh P A C L f n m c (bE S.1 (B1 S.1 mk i x)) (fun o st=>(lT m S.1 S.2 (some (o,st))).bind k)=
   ME S mk ts b i x β (fun y=>k (.inl (B1 S.1 mk i y))) (wT (MC S.1 mk i) (fun j l=>k (.inr (j,l))) (sL ts S.2)))
  (hl: ∀(β:Type) ds (k:Nat→List V→Option β),L β (keyOf c+1) ds k=bz S mk ts b ds k):
  cC P A C L f n m (.loop c):=
 aeA hS hL (B1 S.1 mk) (fun i r=>yN (MC S.1 mk i) _ r) (Hl S.1 mk) (Hm S.1 mk) (fun e=>UH e.1 _ e.2) (ME S mk ts b) wh MB (fun i r=>aez _ _ r)
  (fun i x β k=>by
   rw[e1]
   congr 1
   funext r
   exact Hj _ _ _ r)
  (fun β ds k=>by
   rw[hl]
   unfold bz
   congr 1
   funext r
   exact Hj _ _ _ r)
abbrev UM (S:Shape × List (Out × Shape)) (ts:List (List Nat)):Type 1:=yK S.1.ks ((β:Type)→(sJ (sL ts S.2)→Option β)→Option β)
noncomputable def mM (S:Shape × List (Out × Shape)) (ts:List (List Nat)) (b:UM S ts) {β:Type} (ds:List V) (k:Nat→List V→Option β):Option β:=
 wk S.1.ks b (p7 _ (S.1.norm ds)) β (wT (mf S.1.ks (p7 _ (S.1.norm ds))) k (sL ts S.2))
theorem nL {t:Nat} {x y:Code} (S:Shape × List (Out × Shape)) (ts:List (List Nat)) (b:UM S ts) (hS:A.ig f (t*16+15)=some S) (hx:ji P A C L f n m x) (hy:ji P A C L f n m y)
  (wh: ∀ds,bE S.1 (mf S.1.ks (p7 _ (S.1.norm ds)))=bE S.1 ds)
  (e1: ∀i (β:Type) (k:Nat→List V→Option β),Mv P A C L f n m t S x y (mf S.1.ks i) k=wk S.1.ks b i β (wT (mf S.1.ks i) k (sL ts S.2)))
  (hl: ∀(β:Type) ds (k:Nat→List V→Option β),L β (t*16+15) ds k=mM S ts b ds k):
  cC P A C L f n m (.cond t x y):=
 aeu hS hx hy (mf S.1.ks) (fun i r=>yN (mf S.1.ks i) _ r) (fun ds=>p7 _ (S.1.norm ds)) (wk S.1.ks b) wh
  (fun i β k=>by
   rw[e1]
   exact congrArg (wk S.1.ks b i β) (funext fun r=>Hj _ _ _ r))
  (fun β ds k=>by
   rw[hl]
   exact congrArg (wk S.1.ks b (p7 _ (S.1.norm ds)) β) (funext fun r=>Hj _ _ _ r))
end
def dJ:cD:=fun _ _ _ _=>none
end Go.AM
