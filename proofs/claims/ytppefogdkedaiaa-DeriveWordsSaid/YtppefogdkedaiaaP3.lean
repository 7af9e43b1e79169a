/-
  Functions of the program, lifted to plain data.
-/
import Derived.Conc.MuLone
import Derived.Defers
import Derived.Carry
import Derived.OpenShut
import Derived.Deep.Slices
import Derived.Test.YtppefogdkedaiaaP2
set_option linter.unusedVariables false
set_option linter.unusedSimpArgs false
namespace Go.AM
section
variable {P:Program} {A:cB} {w w':World} {I I' I2:Nat→Prop} {μ β β' b6:Nat→Option Nat} {hp hp' hp0 bt:Nat→Option an} {C:ag} {B:Nat} {M:Nat→Prop} {w0:Start}
structure kP (w:World) (I:Nat→Prop) (β:Nat→Option Nat) (hp:Nat→Option an) (w':World) (I':Nat→Prop) (β':Nat→Option Nat) (hp':Nat→Option an):Prop where
 db: ∀b,I b→I' b
 cb: ∀b,I b→w'.heap[b]? =w.heap[b]?
 blk: ∀id blk,hp id=some blk→∃blk',hp' id=some blk'∧blk.le blk'∧(blk'≠ .dead→β' id=β id)
 size: ∀id blk blk' b,hp id=some blk→hp' id=some blk'→blk'≠ .dead→β id=some b→bsize w' b=bsize w b
theorem Le.DT (h:Le P w I β hp w' I' β' hp'):kP w I β hp w' I' β' hp':=⟨h.db,h.cb,h.blk,h.size⟩
theorem kP.trans {zd:World} {ze:Nat→Prop} {zf:Nat→Option Nat} {zg:Nat→Option an} (h1:kP w I β hp w' I' β' hp') (U:kP w' I' β' hp' zd ze zf zg):kP w I β hp zd ze zf zg:=by
 refine ⟨fun b h=>U.db b (h1.db b h),fun b h=>(U.cb b (h1.db b h)).trans (h1.cb b h),fun id blk h=> ?_,fun id blk tj b h rI hd hb=> ?_⟩
 ·obtain ⟨blk',e',l',b'⟩:=h1.blk id blk h
  obtain ⟨tj,dD,qh,Hd⟩:=U.blk id blk' e'
  refine ⟨tj,dD,an.le_trans l' qh,fun hd=> ?_⟩
  have eD:blk'≠ .dead:=fun e=>hd (an.pc (e▸qh))
  exact (Hd hd).trans (b' eD)
 ·obtain ⟨blk',e',l',b'⟩:=h1.blk id blk h
  obtain ⟨gI,e3,l3,b3⟩:=U.blk id blk' e'
  obtain rfl:gI=tj:=by rw[e3] at rI;exact c6 rI
  have eD:blk'≠ .dead:=fun e=>hd (an.pc (e▸l3))
  rw[U.size id blk' gI b e' e3 hd ((b' eD).trans hb),h1.size id blk blk' b h e' eD hb]
def ou (P:Program) (w:World) (μ:Nat→Option Nat) (hp0:Nat→Option an) (b:Nat):Prop:= ∃j blk,hp0 j=some blk∧bw P w (μ j) blk b
structure YJ (P:Program) (A:cB) (key:Nat) (w:World) (I:Nat→Prop) (μ:Nat→Option Nat) (ds es:List V) (w':World) (v:Value) (I2:Nat→Prop) (b6:Nat→Option Nat):Prop where
 wa:aF P w' I2 b6 (br (A.so key es) (A.lv key es)).hp w.heap.size (ou P w μ (br (A.sin key) ds).hp) ⟨w,I⟩
 le:kP w I μ (br (A.sin key) ds).hp w' I2 b6 (br (A.so key es) (A.lv key es)).hp
 res:ao P w' I2 b6 (br (A.so key es) (A.lv key es)).hp v (o9 (eZ (A.so key es).bP (A.lv key es)))
def kQ (P:Program) (A:cB) (C:ag):Prop:=
 ∀key ds es,C key ds=some es→∃fn c,P.funcs[A.aT key]? =some fn∧fn.body=some c∧
  ∀(w:World) (I:Nat→Prop) (μ:Nat→Option Nat) (vals:List Value),
   ti P w I μ (br (A.sin key) ds).hp w.heap.size (ou P w μ (br (A.sin key) ds).hp)→gf P A.aE w I→
   vals.length=(A.sin key).bP.length→(∀(j:Nat) v x,vals[j]? =some v→(fj ((A.sin key).bP.map (·.2)) ds)[j]? =some x→ao P w I μ (br (A.sin key) ds).hp v x)→
   Calls P (A.aT key) vals.toArray w fun e w'=> ∃v I2 b6,e= .returned v∧YJ P A key w I μ ds es w' v I2 b6
theorem dV.tP {p:Place} {o:Option Nat} {blk:an} {b:Nat} (h:dV P w β hp p o blk) (ho:bw P w o blk b):
  ∃qC,hp p.id=some qC∧bw P w (β p.id) qC b∧∀e es,qC≠ .arr e es true:=by
 cases h with
 | var h=>exact ⟨_,h,.root (by simp) (ho.flat (by simp)),by simp⟩
 | arr h=>exact ⟨_,h,.root (by simp) (ho.flat (by simp)),by simp⟩
 | map h=>exact ⟨_,h,.root (by simp) (ho.flat (by simp)),by simp⟩
 | nest h=>
  refine ⟨_,h,?_,by simp⟩
  cases ho with
  | root _ hb=>exact .root (by simp) hb
  | row hb ha=>exact .row hb ha
 | row h hb ha _ _ _ _ _=>
  have:=ho.flat (by simp)
  cases this
  exact ⟨_,h,.row hb ha,by simp⟩
theorem aF.YK (S:aF P w I β hp B M w0) {id b:Nat} {blk:an} (ab:hp id=some blk) (ho:bw P w (β id) blk b) (hf: ∀e es,blk≠ .arr e es true): ¬I b:=by
 have hr:=S.h.rel id blk ab
 generalize β id=o at hr ho
 cases hr with
 | var hb _ _ hI _ _=>have:=ho.flat (by simp);rw[hb] at this;cases this;exact hI
 | dG hb=>have:=ho.flat (by simp);rw[hb] at this;cases this
 | @arr e es fz _ _ _ hb _ _ _ eg _=>
  have:=ho.flat (by simp)
  rw[hb] at this;cases this
  cases fz with
  | true=>exact absurd rfl (hf e es)
  | false=>exact eg rfl
 | dead=>exact absurd rfl ho.alive
 | map _ hb _ _ hI _ _=>have:=ho.flat (by simp);rw[hb] at this;cases this;exact hI
 | nest hb hr _=>
  cases ho with
  | root _ aB=>rw[hb] at aB;cases aB;exact (hr _ _ _ _ .here).nI
  | row aB ha=>rw[hb] at aB;cases aB;exact (hr _ _ _ _ ha).nI
theorem DU {a b:List Nat} (h:vm a b=false) {x:Nat} (ha:x∈a):x∉b:=by
 intro hb
 unfold vm at h
 rw[List.any_eq_false] at h
 exact h x ha (vO hb)
theorem YL (S:aF P w I β hp B M w0) {pl:List Place} {upd:List (Nat × an)} {o:Nat→Option Nat} (ka:(pl.map Place.id).Nodup) (DV:vm (upd.map (·.1)) (pl.map Place.id)=false)
  (hl: ∀j blk,hp0 j=some blk→∃p,ee pl j=some p∧dV P w β hp p (o j) blk)
  (cD:(∀j blk,hp0 j=some blk→∀b,bw P w (o j) blk b→¬iD P w I β hp upd b)→∀j blk,hp0 j=some blk→dS P w (iD P w I β hp upd) o hp0 (o j) blk) (aO: ∀b,iD P w I β hp upd b→b<w.heap.size):
  ti P w (iD P w I β hp upd) o hp0 w.heap.size (ou P w o hp0):=by
 have cL: ∀j blk,hp0 j=some blk→∀b,bw P w (o j) blk b→¬iD P w I β hp upd b:=by
  intro j blk hj b ho hI
  obtain ⟨p,bt,gJ⟩:=hl j blk hj
  obtain ⟨qC,k1,k2,k3⟩:=gJ.tP ho
  rcases hI with hI|⟨q,hq,bZ,q1,q2⟩
  ·exact S.YK k1 k2 k3 hI
  ·have:=S.h.inj _ _ _ _ b q1 k1 q2 k2
   refine DU DV (gh.2 ⟨q,hq,rfl⟩) ?_
   rw[this]
   rw[lG] at bt
   exact gh.2 ⟨p,jo bt,rfl⟩
 refine ⟨cD cL,fun j1 j2 b1 b2 b h1 U o1 o2=> ?_,fun j blk b h1 o1=> .inl ⟨j,blk,h1,o1⟩,aO⟩
 obtain ⟨p1,q1,q2⟩:=hl j1 b1 h1
 obtain ⟨p2,r1,r2⟩:=hl j2 b2 U
 obtain ⟨c1,x1,x2,_⟩:=q2.tP o1
 obtain ⟨c2,y1,y2,_⟩:=r2.tP o2
 have ab:=S.h.inj _ _ _ _ b x1 y1 x2 y2
 rw[lG] at q1 r1
 have m1:(pl.map Place.id)[j1]? =some p1.id:=by rw[gF,q1];rfl
 have m2:(pl.map Place.id)[j2]? =some p2.id:=by rw[gF,r1];rfl
 rw[←ab] at m2
 obtain ⟨z1,z2⟩:=bu.1 m1
 obtain ⟨z3,z4⟩:=bu.1 m2
 exact (List.getElem_inj ka).1 (z2.trans z4.symm)
def Om:V→Prop
 | .list .. =>False
 | .pref .. =>False
 | .agg _=>False
 | .bn _=>False
 | .fn .. =>False
 | _=>True
theorem ao.free {v:Value} {x:V} (h:ao P w I β hp v x) (hx:Om x):ao P w I' β hp v x:=by
 cases h with
 | undef=>exact .undef
 | int=>exact .int
 | bool=>exact .bool
 | str h=>exact .str h
 | list h=>exact hx.elim
 | nilS=>exact .nilS
 | agg=>exact hx.elim
 | bn=>exact hx.elim
 | dk=>exact .dk
 | fn=>exact hx.elim
 | pref=>exact hx.elim
 | ef h=>exact .ef h
 | fT h=>exact .fT h
 | jY h=>exact .jY h
 | dF h hb=>exact .dF h hb
 | whole h hb a b c=>exact .whole h hb a b c
 | er h hb a b c=>exact .er h hb a b c
 | fF h hb=>exact .fF h hb
 | sub h hb a b c=>exact .sub h hb a b c
 | ptr h hd hb=>exact .ptr h hd hb
 | ju h qx=>exact .ju h qx
 | jv h qx=>exact .jv h qx
 | row h hb a b c d=>exact .row h hb a b c d
 | cA h hb a b c d e=>exact .cA h hb a b c d e
 | dy=>exact .dy
 | ia h=>exact .ia h
 | ct h hb=>exact .ct h hb
theorem zQ {l:LS} {ds:List V} (hs:l.safe=true):Om (iy l ds):=by
 cases l<;>simp only[LS.safe] at hs<;>first|(cases hs;done)|trivial
theorem zR: ∀{ls:List LS} {ds:List V} {j:Nat} {y:V},(hG ls ds)[j]? =some y→∃l e9,l∈ls∧y=iy l e9
 | [],ds,j,y,h=>by simp[hG] at h
 | l::ls,ds,j,y,h=>by
  simp only[hG] at h
  cases j with
  | zero=>simp at h;exact ⟨l,ds,rr ..,h.symm⟩
  | succ j=>
   obtain ⟨l',e9,h1,U⟩:=zR (j:=j) (by simpa using h)
   exact ⟨l',e9,ld _ h1,U⟩
theorem On: ∀{ls:List VS} {ds:List V} {j:Nat} {y:V},(fj ls ds)[j]? =some y→∃l e9,l∈ls∧y=kI l e9
 | [],ds,j,y,h=>by simp[fj] at h
 | l::ls,ds,j,y,h=>by
  simp only[fj] at h
  cases j with
  | zero=>simp at h;exact ⟨l,ds,rr ..,h.symm⟩
  | succ j=>
   obtain ⟨l',e9,h1,U⟩:=On (j:=j) (by simpa using h)
   exact ⟨l',e9,ld _ h1,U⟩
theorem Oo {s:VS} {ds:List V} {v:Value} (h:ao P w I β hp v (kI s ds)) (hs:s.safe=true):ao P w I' β hp v (kI s ds):=by
 cases s with
 | one l=>exact h.free (zQ hs)
 | agg ls=>
  simp only[kI] at h⊢
  obtain ⟨cs,rfl,e1,e2⟩:=h.kM
  refine .agg e1 fun j v x hj hx=> ?_
  obtain ⟨l,e9,k1,rfl⟩:=zR hx
  exact (e2 j v _ hj hx).free (zQ (fh.1 hs l k1))
 | bn ls=>
  simp only[kI] at h⊢
  obtain ⟨cs,rfl,e1,e2⟩:=h.tu
  refine .bn e1 fun j v x hj hx=> ?_
  obtain ⟨l,e9,k1,rfl⟩:=zR hx
  exact (e2 j v _ hj hx).free (zQ (fh.1 hs l k1))
 | fn f a b=>
  simp only[VS.safe,aK] at hs
  simp only[kI] at h⊢
  cases h with
  | fn a1 a2 b1 b2=>
   refine .fn a1 (fun j v x hj hx=> ?_) b1 (fun j v x hj hx=> ?_)
   ·obtain ⟨l,e9,k1,rfl⟩:=zR hx
    exact (a2 j v _ hj hx).free (zQ (fh.1 hs.1 l k1))
   ·obtain ⟨l,e9,k1,rfl⟩:=zR hx
    exact (b2 j v _ hj hx).free (zQ (fh.1 hs.2 l k1))
 | pref ts ls=>cases hs
theorem Pure.scalar {t:TypeId} {v:Value} {x:V} (h:Pure P w I t v x) (hn: ∀e,P.underlying t≠some (.slice e)):Pure P w I' t v x:=by
 cases h with
 | int h=>exact .int h
 | bool h=>exact .bool h
 | str h hl=>exact .str h hl
 | nil h=>exact absurd h (hn _)
 | emp h=>exact absurd h (hn _)
 | list g h=>exact absurd h (hn _)
theorem YM {e t:TypeId} {j:Nat} (h:yV P e=true) (ht:(aS P e)[j]? =some t) (e':TypeId):P.underlying t≠some (.slice e'):=by
 intro hu
 have U:=fh.1 h t (jo ht)
 rw[hu] at U
 cases U
theorem YN {o:Option Nat} {b:BS} {ds:List V} (h:dS P w I2 β hp o (fC b ds)) (hs:b.safe P=true) (hi: ∀b,I b→I2 b):dS P w I β hp o (fC b ds):=by
 cases b with
 | dead=>exact .dead
 | var T0 ls=>
  simp only[fC] at h⊢
  cases h with
  | var hb hh aX hI hx fV=>
   refine .var hb hh aX (fun h=>hI (hi _ h)) (fun j v x hj cw=> ?_) fV
   obtain ⟨l,e9,k1,rfl⟩:=On cw
   exact Oo (hx j v _ hj cw) (fh.1 hs l k1)
 | arr e fz=>
  simp only[BS.safe,aK,mL] at hs
  obtain ⟨rfl,zP⟩:=hs
  simp only[fC] at h⊢
  generalize (V.nth ds 0).toList=es at h⊢
  cases h with
  | dG hb=>exact .dG hb
  | arr a1 a2 a3 a4 a5 a6 a7=>
   refine .arr a1 a2 a3 a4 (fun h=>by cases h) (fun _ h=>a6 rfl (hi _ h)) fun i j x t' y1 y2 y3=> ?_
   obtain ⟨v,z1,z2⟩:=a7 i j x t' y1 y2 y3
   exact ⟨v,z1,z2.scalar (YM zP y2)⟩
 | nest e=>
  simp only[fC] at h⊢
  generalize (V.nth ds 0).toList=es at h⊢
  cases h with
  | nest hb cE og=>
   refine .nest hb (fun q b' e1 m1 hq=> ?_) og
   obtain ⟨ok,⟨Ca,c1,c2,c3⟩,nI⟩:=cE q b' e1 m1 hq
   refine ⟨ok,⟨Ca,c1,c2,fun i j x t' y1 y2 y3=> ?_⟩,fun h=>nI (hi _ h)⟩
   obtain ⟨v,z1,z2⟩:=c3 i j x t' y1 y2 y3
   refine ⟨v,z1,?_⟩
   generalize bM P e1 x j=y at z2⊢
   cases z2 with
   | fE a p=>
    refine .fE a (p.scalar fun e hu=> ?_)
    unfold fB at a
    rw[hu] at a
    cases a
   | emp a b=>exact .emp a b
   | row a b c d e=>exact .row a b c d e
 | map t=>
  simp only[fC] at h⊢
  cases h with
  | map a1 a2 a3 a4 a5 a6 a7=>exact .map a1 a2 a3 a4 (fun h=>a5 (hi _ h)) a6 a7
theorem Io: ∀{l:List BS} {ds:List V} {j:Nat} {y:an},(eC l ds)[j]? =some y→∃b e9,l[j]? =some b∧y=fC b e9
 | [],ds,j,y,h=>by simp[eC] at h
 | b::l,ds,j,y,h=>by
  simp only[eC] at h
  cases j with
  | zero=>simp at h;exact ⟨b,ds,rfl,h.symm⟩
  | succ j=>
   obtain ⟨b',e9,h1,U⟩:=Io (j:=j) (by simpa using h)
   exact ⟨b',e9,by simpa using h1,U⟩
theorem Oq: ∀{l:List (Nat × VS)} {ds:List V} {q:Nat × V},q∈eZ l ds→∃s e9,(q.1,s)∈l∧q.2=kI s e9
 | [],ds,q,h=>by simp[eZ] at h
 | (k,s)::l,ds,q,h=>by
  simp only[eZ,di] at h
  rcases h with h|h
  ·subst h;exact ⟨s,ds,rr ..,rfl⟩
  ·obtain ⟨s',e9,h1,U⟩:=Oq h
   exact ⟨s',e9,ld _ h1,U⟩
theorem YO {S:Shape} {es:List V} (hs:S.safe P=true) (hi: ∀b,I b→I2 b) {N:Nat→Prop} {st:Start} (h:aF P w' I2 b6 (br S es).hp B N st) (h0: ∀b,I b→st.I b):
  aF P w' I b6 (br S es).hp B N st∧∀v,ao P w' I2 b6 (br S es).hp v (o9 (eZ S.bP es))→ao P w' I b6 (br S es).hp v (o9 (eZ S.bP es)):=by
 unfold Shape.safe at hs
 simp only[aK] at hs
 obtain ⟨iC,ng⟩:=hs
 have one: ∀q∈eZ S.bP es,∀v,ao P w' I2 b6 (br S es).hp v q.2→ao P w' I b6 (br S es).hp v q.2:=by
  intro q hq v hv
  obtain ⟨s,e9,k1,k2⟩:=Oq hq
  rw[k2] at hv⊢
  exact Oo hv (fh.1 iC _ k1)
 refine ⟨⟨⟨fun j blk hj=> ?_,h.h.inj,h.h.own,fun b hb=>h.h.jw b (hi b hb)⟩,h.cb,h.size,fun b hb=> .inl (h0 b hb),h.io⟩,fun v hv=> ?_⟩
 ·have hr:=h.h.rel j blk hj
  have gl:=hj
  simp only[br,mk,gR] at gl
  obtain ⟨b,e9,k1,rfl⟩:=Io gl
  exact YN hr (fh.1 ng _ (jo k1)) hi
 ·generalize eZ S.bP es=l at one hv⊢
  match l,one,hv with
  | [],_,hv=>
   simp only[o9,fR] at hv⊢
   obtain ⟨cs,rfl,e1,e2⟩:=hv.tu
   exact .bn e1 fun j v x _ hx=>by simp at hx
  | [q],one,hv=>exact one q (en.2 rfl) v hv
  | q::q2::l,one,hv=>
   simp only[o9] at hv⊢
   obtain ⟨cs,rfl,e1,e2⟩:=hv.tu
   refine .bn e1 fun j v x hj hx=> ?_
   obtain ⟨y,hy,rfl⟩:=gh.1 (jo hx)
   exact one y hy v (e2 j v _ hj hx)
end
section
variable {P:Program} {A:cB} {w w':World} {I I' I2:Nat→Prop} {μ β β' b6:Nat→Option Nat} {hp hp' hp0 bt:Nat→Option an} {C:ag} {B:Nat} {M:Nat→Prop} {w0:Start}
inductive fZ (σ:List Place):an→an→Prop
 | dead:fZ σ .dead .dead
 | var {T:TypeId} {cs:List V}:fZ σ (.var T cs) (.var T (cs.map (CS σ)))
 | arr {e:TypeId} {es:List V} {fz:Bool}:fZ σ (.arr e es fz) (.arr e es fz)
 | nest {e:TypeId} {es:List V} {v1 v2:List Nat}:fZ σ (.nest e es v1) (.nest e es v2)
 | map {t:TypeId} {es:List V}:fZ σ (.map t es) (.map t es)
theorem fZ.of (σ:List Place) (b:an):fZ σ b (s9 σ b):=by
 cases b with
 | dead=>exact .dead
 | var T cs=>exact .var
 | arr e es fz=>exact .arr
 | nest e es v=>exact .nest
 | map t es=>exact .map
theorem Ot {σ:List Place}: ∀{pl:List Place} {bs:List an} {acc:List (Nat × an)} {k:List (Nat × an)→Rd R} {r:R} {rd:List Nat},(p9 σ pl bs acc k).run C hp=some (r,rd)→
  pl.length≤bs.length∧∃bk eL,(k bk).run C hp=some (r,eL)∧(∀q∈bk,q∈acc∨∃(j:Nat) (b:an),pl[j]? =some (.blk q.1)∧bs[j]? =some b∧fZ σ b q.2∧((∃e es v2,q.2= .nest e es v2)→∃e es ar e' aL,hp q.1=some (.nest e es ar)∧q.2= .nest e' aL (ar.map (· +1))))∧
   (∀q∈acc,q∈bk)∧∀(j:Nat) p,pl[j]? =some p→∃id b,p= .blk id∧(id,b)∈bk
 | [],bs,acc,k,r,rd,h=>⟨kC _,acc,rd,by simpa only[p9] using h,fun q hq=> .inl hq,fun q hq=>hq,fun j p hp=>by simp at hp⟩
 | .row _ _ _::pl,bs,acc,k,r,rd,h=>by
  cases bs<;>(simp only[p9] at h;cases h)
 | .blk id::pl,[],acc,k,r,rd,h=>by simp only[p9] at h;cases h
 | .blk id::pl,b::bs,acc,k,r,rd,h=>by
  have fin: ∀{b2:an} {jf:List Nat},(p9 σ pl bs ((id,b2)::acc) k).run C hp=some (r,jf)→fZ σ b b2→((∃e es v2,b2= .nest e es v2)→∃e es ar e' aL,hp id=some (.nest e es ar)∧b2= .nest e' aL (ar.map (· +1)))→
    (Place.blk id::pl).length≤(b::bs).length∧∃bk eL,(k bk).run C hp=some (r,eL)∧(∀q∈bk,q∈acc∨∃(j:Nat) (b':an),(Place.blk id::pl)[j]? =some (.blk q.1)∧(b::bs)[j]? =some b'∧fZ σ b' q.2∧((∃e es v2,q.2= .nest e es v2)→∃e es ar e' aL,hp q.1=some (.nest e es ar)∧q.2= .nest e' aL (ar.map (· +1))))∧
     (∀q∈acc,q∈bk)∧∀(j:Nat) p,(Place.blk id::pl)[j]? =some p→∃id b,p= .blk id∧(id,b)∈bk:=by
   intro b2 jf h1 hb hn
   obtain ⟨a0,bk,eL,a1,a2,a3,a4⟩:=Ot h1
   refine ⟨by simp only[List.length_cons];omega,bk,eL,a1,fun q hq=> ?_,fun q hq=>a3 q (ld _ hq),fun j p hj=> ?_⟩
   ·rcases a2 q hq with h|⟨j,b',k1,k2,k3,k4⟩
    ·rcases di.1 h with e|h
     ·subst e;exact .inr ⟨0,b,rfl,rfl,hb,hn⟩
     ·exact .inl h
    ·exact .inr ⟨j+1,b',by simpa using k1,by simpa using k2,k3,k4⟩
   ·cases j with
    | zero=>simp at hj;subst hj;exact ⟨id,b2,rfl,a3 _ (rr ..)⟩
    | succ j=>exact a4 j p (by simpa using hj)
  cases b with
  | nest e es v=>
   simp only[p9] at h
   obtain ⟨l,h⟩:=run_get h
   cases ab:hp id with
   | none=>rw[ab] at h;cases h
   | some blk=>
    rw[ab] at h
    cases blk with
    | nest e0 He ar=>exact fin h .nest fun _=>⟨e0,He,ar,e,es,ab,rfl⟩
    | _=>cases h
  | dead=>exact fin h (.of σ _) fun ⟨_,_,_,h⟩=>by cases h
  | var T cs=>exact fin h (.of σ _) fun ⟨_,_,_,h⟩=>by cases h
  | arr e es fz=>exact fin h (.of σ _) fun ⟨_,_,_,h⟩=>by cases h
  | map t es=>exact fin h (.of σ _) fun ⟨_,_,_,h⟩=>by cases h
theorem Ou {σ:List Place}: ∀{bs:List an} {n:Nat} {q:Nat × an},q∈qa σ n bs→∃i b,bs[i]? =some b∧q=(n+i,s9 σ b)
 | [],n,q,h=>by simp[qa] at h
 | b::bs,n,q,h=>by
  simp only[qa,di] at h
  rcases h with h|h
  ·exact ⟨0,b,rfl,h⟩
  ·obtain ⟨i,b',h1,U⟩:=Ou h
   exact ⟨i+1,b',by simpa using h1,by rw[U];congr 1;omega⟩
theorem Ov {σ:List Place}: ∀{bs:List an} {n i:Nat} {b:an},bs[i]? =some b→(n+i,s9 σ b)∈qa σ n bs
 | [],n,i,b,h=>by simp at h
 | b0::bs,n,i,b,h=>by
  simp only[qa,di]
  cases i with
  | zero=>simp at h;subst h;exact .inl rfl
  | succ i=>exact .inr (by rw[show n+(i+1)=n+1+i by omega];exact Ov (by simpa using h))
theorem DW: ∀{k n i:Nat},i<k→(rG n k)[i]? =some (.blk (n+i))
 | 0,n,i,h=>by omega
 | k+1,n,0,h=>rfl
 | k+1,n,i+1,h=>by
  simp only[rG,List.getElem?_cons_succ]
  rw[DW (by omega)]
  congr 2
  omega
theorem Ip: ∀{k n:Nat},(rG n k).length=k
 | 0,_=>rfl
 | k+1,n=>by simp[rG,Ip]
theorem Ow: ∀{bs:List (Nat × an)} {k:Rd R} {r:R} {rd:List Nat},(CT bs k).run C hp=some (r,rd)→(∀q∈bs,hp q.1=none)∧∃eL,k.run C hp=some (r,eL)
 | [],k,r,rd,h=>⟨by simp,rd,h⟩
 | (id,b)::l,k,r,rd,h=>by
  simp only[CT] at h
  obtain ⟨l1,h⟩:=run_get h
  cases ab:hp id with
  | some blk=>rw[ab] at h;cases h
  | none=>
   rw[ab] at h
   obtain ⟨h1,U⟩:=Ow h
   refine ⟨fun q hq=> ?_,U⟩
   rcases di.1 hq with e|hq
   ·subst e;exact ab
   ·exact h1 q hq
structure pr (σ:List Place) (b6:Nat→Option Nat) (bt:Nat→Option an) (β':Nat→Option Nat) (hp':Nat→Option an):Prop where
 blk: ∀j b,bt j=some b→∃id b',ee σ j=some (.blk id)∧hp' id=some b'∧fZ σ b b'∧(b≠ .dead→β' id=b6 j)
 none: ∀j,bt j=none→ee σ j=none
 aiJ: ∀j id ver path,ee σ j≠some (.row id ver path)
theorem pr.leaf {σ:List Place} (T:pr σ b6 bt β' hp') {v:Value} {x:V} (h:ao P w I b6 bt v x):ao P w I β' hp' v (jW σ x):=by
 have look: ∀{j b},bt j=some b→∃id b',ee σ j=some (.blk id)∧hp' id=some b'∧fZ σ b b'∧(b≠ .dead→β' id=b6 j):=fun h=>T.blk _ _ h
 cases h with
 | undef=>exact .undef
 | int=>exact .int
 | bool=>exact .bool
 | str h=>exact .str h
 | list h=>exact .list h
 | nilS=>exact .nilS
 | agg=>exact .undef
 | bn=>exact .undef
 | dk=>exact .dk
 | fn=>exact .undef
 | pref a b c=>exact .pref a b c
 | @ef _ e j h=>
  obtain ⟨id,b',k1,k2,k3,k4⟩:=look h
  simp only[jW,k1]
  cases k3
  exact .ef k2
 | @fT _ e j _ _ h=>
  obtain ⟨id,b',k1,k2,k3,k4⟩:=look h
  simp only[jW,k1]
  cases k3
  exact .fT k2
 | @jY _ j _ _ h=>
  obtain ⟨id,b',k1,k2,k3,k4⟩:=look h
  simp only[jW,k1]
  cases k3
  exact .jY k2
 | @dF e j fz _ h hb=>
  obtain ⟨id,b',k1,k2,k3,k4⟩:=look h
  simp only[jW,k1]
  cases k3
  exact .dF k2 ((k4 (by simp)).trans hb)
 | @whole e j es fz b cap h hb a1 a2 a3=>
  obtain ⟨id,b',k1,k2,k3,k4⟩:=look h
  simp only[jW,k1]
  cases k3
  exact .whole k2 ((k4 (by simp)).trans hb) a1 a2 a3
 | @er e j es ar b cap h hb a1 a2 a3=>
  obtain ⟨id,b',k1,k2,k3,k4⟩:=look h
  simp only[jW,k1]
  cases k3
  exact .er k2 ((k4 (by simp)).trans hb) a1 a2 a3
 | @fF e j fz _ h hb=>
  obtain ⟨id,b',k1,k2,k3,k4⟩:=look h
  simp only[jW,k1]
  cases k3
  exact .fF k2 ((k4 (by simp)).trans hb)
 | @sub e j off len es fz b o cap h hb a1 a2 a3=>
  obtain ⟨id,b',k1,k2,k3,k4⟩:=look h
  simp only[jW,k1]
  cases k3
  exact .sub k2 ((k4 (by simp)).trans hb) a1 a2 a3
 | @ptr j i c b blk h hd hb=>
  obtain ⟨id,b',k1,k2,k3,k4⟩:=look h
  simp only[jW,k1]
  have hs:blk.sz P=b'.sz P:=by cases k3<;>rfl
  rw[hs]
  exact .ptr k2 (by intro e;subst e;cases k3;exact hd rfl) ((k4 hd).trans hb)
 | ju=>exact .undef
 | jv=>exact .undef
 | row=>exact .undef
 | cA=>exact .undef
 | dy=>exact .dy
 | @ia _ t j h=>
  obtain ⟨id,b',k1,k2,k3,k4⟩:=look h
  simp only[jW,k1]
  cases k3
  exact .ia k2
 | @ct t j b es h hb=>
  obtain ⟨id,b',k1,k2,k3,k4⟩:=look h
  simp only[jW,k1]
  cases k3
  exact .ct k2 ((k4 (by simp)).trans hb)
theorem pr.one {σ:List Place} (T:pr σ b6 bt β' hp') {v:Value} {x:V} (h:ao P w I b6 bt v x):ao P w I β' hp' v (G3 σ x):=by
 cases x with
 | agg xs=>
  obtain ⟨cs,rfl,e1,e2⟩:=h.kM
  exact .agg (by simpa using e1) fun j v y hj hy=>by
   rw[gF] at hy
   cases hx:xs[j]? with
   | none=>rw[hx] at hy;cases hy
   | some x=>rw[hx] at hy;cases hy;exact T.leaf (e2 j v x hj hx)
 | fn f a b=>
  cases h with
  | fn a1 a2 b1 b2=>
   refine .fn (by simpa using a1) (fun j v y hj hy=> ?_) (by simpa using b1) (fun j v y hj hy=> ?_)
   ·rw[gF] at hy
    cases hx:a[j]? with
    | none=>rw[hx] at hy;cases hy
    | some x=>rw[hx] at hy;cases hy;exact T.leaf (a2 j v x hj hx)
   ·rw[gF] at hy
    cases hx:b[j]? with
    | none=>rw[hx] at hy;cases hy
    | some x=>rw[hx] at hy;cases hy;exact T.leaf (b2 j v x hj hx)
 | _=>exact T.leaf h
theorem pr.val {σ:List Place} (T:pr σ b6 bt β' hp') {v:Value} {x:V} (h:ao P w I b6 bt v x):ao P w I β' hp' v (CS σ x):=by
 cases x with
 | bn xs=>
  obtain ⟨cs,rfl,e1,e2⟩:=h.tu
  exact .bn (by simpa using e1) fun j v y hj hy=>by
   rw[gF] at hy
   cases hx:xs[j]? with
   | none=>rw[hx] at hy;cases hy
   | some x=>rw[hx] at hy;cases hy;exact T.one (e2 j v x hj hx)
 | _=>exact T.one h
theorem pr.Ox {σ:List Place} (T:pr σ b6 bt β' hp') {o:Option Nat} {b b':an} (h:dS P w I b6 bt o b) (hb:fZ σ b b'):dS P w I β' hp' o b':=by
 cases hb with
 | dead=>exact .dead
 | var=>
  cases h with
  | var a1 a2 a3 a4 a5 a6=>
   refine .var a1 a2 (by simpa using a3) a4 (fun j v y hj hy=> ?_) a6
   rw[gF] at hy
   cases hx:(_:List V)[j]? with
   | none=>rw[hx] at hy;cases hy
   | some x=>rw[hx] at hy;cases hy;exact T.val (a5 j v x hj hx)
 | arr=>
  cases h with
  | dG hb=>exact .dG hb
  | arr a1 a2 a3 a4 a5 a6 a7=>exact .arr a1 a2 a3 a4 a5 a6 a7
 | nest=>
  cases h with
  | nest a1 a2 a3=>exact .nest a1 a2 a3
 | map=>
  cases h with
  | map a1 a2 a3 a4 a5 a6 a7=>exact .map a1 a2 a3 a4 a5 a6 a7
theorem fZ.tP {σ:List Place} {o:Option Nat} {b b':an} (h:fZ σ b b') {m:Nat} (ho:bw P w o b' m):bw P w o b m:=by
 cases h with
 | dead=>exact absurd rfl ho.alive
 | var=>exact .root (by simp) (ho.flat (by simp))
 | arr=>exact .root (by simp) (ho.flat (by simp))
 | map=>exact .root (by simp) (ho.flat (by simp))
 | nest=>
  cases ho with
  | root _ hb=>exact .root (by simp) hb
  | row hb ha=>exact .row hb ha
theorem fZ.Oy {σ:List Place} {b b':an} (h:fZ σ b b'):b'≠ .dead→b≠ .dead:=by
 intro h1 U;subst U;cases h;exact h1 rfl
end
section
variable {P:Program} {A:cB} {w w':World} {I I' I2:Nat→Prop} {μ β β' b6:Nat→Option Nat} {hp hp' hp0 bt:Nat→Option an} {C:ag} {B:Nat} {M:Nat→Prop} {w0:Start}
theorem Oz: ∀{vs:List Nat} {k:Nat},k<vs.length→bB (vs.map (· +1)) k=bB vs k+1
 | [],k,h=>by simp at h
 | v::vs,0,h=>rfl
 | v::vs,k+1,h=>by simp only[cz,bB];exact Oz (by simpa using h)
theorem OA: ∀{vs:List Nat} {k:Nat},bB vs k≤bB (vs.map (· +1)) k
 | [],k=>by simp[bB]
 | v::vs,0=>by simp[bB]
 | v::vs,k+1=>by simp only[cz,bB];exact OA
def zS (hp:Nat→Option an) (q:Nat × an):Prop:=(∃e es v2,q.2= .nest e es v2)→∃e es ar e' aL,hp q.1=some (.nest e es ar)∧q.2= .nest e' aL (ar.map (· +1))
theorem dV.Iq {id:Nat} {o:Option Nat} {blk:an} (h:dV P w β hp (.blk id) o blk):o=β id∧∃b0,hp id=some b0∧b0≠ .dead:=by
 cases h with
 | var h=>exact ⟨rfl,_,h,by simp⟩
 | arr h=>exact ⟨rfl,_,h,by simp⟩
 | nest h=>exact ⟨rfl,_,h,by simp⟩
 | map h=>exact ⟨rfl,_,h,by simp⟩
theorem dV.YP {id:Nat} {o:Option Nat} {c b b' b0:an} {σ:List Place} (h:dV P w β hp (.blk id) o c) (h0:hp id=some b0) (hle:c.le b) (hb:fZ σ b b') (hn:zS hp (id,b')):b0.le b':=by
 cases h with
 | var h=>
  rw[h] at h0;cases h0
  cases hb with
  | dead=>trivial
  | var=>trivial
  | arr=>exact hle.elim
  | nest=>exact hle.elim
  | map=>exact hle.elim
 | arr h=>
  rw[h] at h0;cases h0
  cases hb with
  | dead=>trivial
  | var=>exact hle.elim
  | arr=>exact hle
  | nest=>exact hle.elim
  | map=>exact hle.elim
 | map h=>
  rw[h] at h0;cases h0
  cases hb with
  | dead=>trivial
  | map=>exact hle
  | _=>exact hle.elim
 | nest h=>
  rw[h] at h0;cases h0
  cases hb with
  | dead=>trivial
  | var=>exact hle.elim
  | arr=>exact hle
  | map=>exact hle.elim
  | @nest e es v1 v2=>
   obtain ⟨e1,ch,tQ,e2,b8,k1,k2⟩:=hn ⟨_,_,_,rfl⟩
   cases k2
   change hp id=_ at k1
   rw[h] at k1;cases k1
   exact ⟨hle.1,hle.2.1,by simp,fun k=>OA⟩
theorem dV.other {p:Place} {o:Option Nat} {blk:an} (h:dV P w β hp p o blk) (he:hp' p.id=hp p.id):dV P w β hp' p o blk:=by
 cases h with
 | var h=>exact .var (he.trans h)
 | arr h=>exact .arr (he.trans h)
 | nest h=>exact .nest (he.trans h)
 | map h=>exact .map (he.trans h)
 | row h a b c d e f g=>exact .row (he.trans h) a b c d e f g
open Classical in
theorem OB (S:aF P w I β hp B M w0) {pl:List Place} {o:Nat→Option Nat} {bs:List an} {nb:Nat} {bk fr:List (Nat × an)} {σ:List Place} (qD:σ=pl++rG nb (bs.length-pl.length)) (zT:fr=qa σ nb (bs.drop pl.length))
  (ka:(pl.map Place.id).Nodup) (qn:pl.length≤bs.length)
  (pt: ∀(j:Nat) p,pl[j]? =some p→∃id b,p= .blk id∧(id,b)∈bk) (DX: ∀q∈bk,∃(j:Nat) (b:an),pl[j]? =some (.blk q.1)∧bs[j]? =some b∧fZ σ b q.2∧zS hp q)
  (hl: ∀j blk,hp0 j=some blk→∃p,ee pl j=some p∧dV P w β hp p (o j) blk) (hd: ∀j,j<pl.length→∃blk,hp0 j=some blk)
  (Sc:aF P w' I2 b6 (js bs) w.heap.size (ou P w o hp0) ⟨w,I⟩) (wc:kP w I o hp0 w' I2 b6 (js bs)) (rX: ∀q∈fr,hp q.1=none):
  ∃β',Le P w I β hp w' I2 β' (bL hp (fr++bk))∧aF P w' I2 β' (bL hp (fr++bk)) B M w0∧pr σ b6 (js bs) β' (bL hp (fr++bk)):=by
 generalize Ir:bL hp (fr++bk)=gJ
 let β':Nat→Option Nat:=fun n=>if∃q∈fr,q.1=n then b6 (pl.length+(n-nb)) else β n
 have OC: ∀(j:Nat) id,pl[j]? =some (.blk id)→∃c,hp0 j=some c∧dV P w β hp (.blk id) (o j) c:=by
  intro j id hj
  obtain ⟨c,hc⟩:=hd j (bu.1 hj).1
  obtain ⟨p,h1,U⟩:=hl j c hc
  rw[lG,hj] at h1
  cases h1
  exact ⟨c,hc,U⟩
 have uniq: ∀(j1 j2:Nat) id,pl[j1]? =some (.blk id)→pl[j2]? =some (.blk id)→j1=j2:=by
  intro j1 j2 id h1 U
  have m1:(pl.map Place.id)[j1]? =some id:=by rw[gF,h1];rfl
  have m2:(pl.map Place.id)[j2]? =some id:=by rw[gF,U];rfl
  obtain ⟨z1,z2⟩:=bu.1 m1
  obtain ⟨z3,z4⟩:=bu.1 m2
  exact (List.getElem_inj ka).1 (z2.trans z4.symm)
 have cls: ∀id,(∃i b,id=nb+i∧bs[pl.length+i]? =some b∧gJ id=some (s9 σ b)∧hp id=none∧β' id=b6 (pl.length+i))∨
   (∃(j:Nat) (b b' c b0:an),pl[j]? =some (.blk id)∧bs[j]? =some b∧hp0 j=some c∧dV P w β hp (.blk id) (o j) c∧hp id=some b0∧b0.le b'∧gJ id=some b'∧fZ σ b b'∧zS hp (id,b')∧β' id=β id∧c.le b∧(b≠ .dead→b6 j=β id))∨
   (gJ id=hp id∧(∀j:Nat,pl[j]? ≠some (.blk id))∧β' id=β id):=by
  intro id
  by_cases hm: ∃b,(id,b)∈fr++bk
  ·obtain ⟨b,hm⟩:=hm
   obtain ⟨b',C9,he⟩:=C6 (hp:=hp) hm
   rw[Ir] at he
   rcases ez.1 C9 with h|h
   ·have h0:=rX _ h
    have ov:β' id=b6 (pl.length+(id-nb)):=aj ⟨_,h,rfl⟩
    rw[zT] at h
    obtain ⟨i,b1,k1,k2⟩:=Ou h
    rw[gY] at k1
    cases k2
    exact .inl ⟨i,b1,rfl,k1,he,h0,by rw[ov];congr 2;omega⟩
   ·obtain ⟨j,b1,q1,q2,q3,q4⟩:=DX _ h
    obtain ⟨c,c1,c2⟩:=OC j id q1
    obtain ⟨c3,b0,c4,c5⟩:=c2.Iq
    obtain ⟨b2,d1,d2,d3⟩:=wc.blk j c c1
    rw[gR,q2] at d1
    cases d1
    refine .inr (.inl ⟨j,b1,b',c,b0,q1,q2,c1,c2,c4,c2.YP c4 d2 q3 q4,he,q3,q4,ai ?_,d2,fun h=>(d3 h).trans c3⟩)
    rintro ⟨q,hq,YQ⟩
    rw[←YQ,rX q hq] at c4
    cases c4
  ·refine .inr (.inr ⟨?_,fun j hj=> ?_,ai ?_⟩)
   ·rcases tp (hp:=hp) (l:=fr++bk) (id:=id) with h|⟨b,hb,_⟩
    ·rw[Ir] at h;exact h
    ·exact absurd ⟨b,hb⟩ hm
   ·obtain ⟨aD,b,e,hb⟩:=pt j _ hj
    cases e
    exact hm ⟨b,ez.2 (.inr hb)⟩
   ·rintro ⟨q,hq,rfl⟩
    exact hm ⟨q.2,ez.2 (.inl hq)⟩
 have OD: ∀b,ou P w o hp0 b→∃(j id:Nat) (b1:an),pl[j]? =some (.blk id)∧hp id=some b1∧bw P w (β id) b1 b∧∀e es,b1≠ .arr e es true:=by
  rintro b ⟨j,c,hc,ho⟩
  obtain ⟨p,h1,U⟩:=hl j c hc
  rw[lG] at h1
  obtain ⟨id,b2,rfl,_⟩:=pt j p h1
  obtain ⟨b1,k1,k2,k3⟩:=U.tP ho
  exact ⟨j,id,b1,h1,k1,k2,k3⟩
 have other: ∀id blk b,hp id=some blk→bw P w (β id) blk b→(∀j:Nat,pl[j]? ≠some (.blk id))→¬ou P w o hp0 b∧w'.heap[b]? =w.heap[b]? ∧(I2 b→I b):=by
  intro id blk b e1 e3 e4
  have ow: ¬ou P w o hp0 b:=by
   intro hx
   obtain ⟨j,aD,b1,i1,i2,i3,_⟩:=OD b hx
   have:=S.h.inj id aD _ _ b e1 i2 e3 i3
   subst this
   exact e4 j i1
  have aO:=S.h.lt e1 e3
  refine ⟨ow,Sc.cb b aO ow,fun h=> ?_⟩
  rcases Sc.new b h with h|h|h
  ·exact h
  ·exact absurd h ow
  ·omega
 have rS:pr σ b6 (js bs) β' gJ:=by
  refine ⟨fun j b hj=> ?_,fun j hj=> ?_,fun j id ver path hj=> ?_⟩
  ·rw[gR] at hj
   by_cases cd:j<pl.length
   ·obtain ⟨id,b1,e,lE⟩:=pt j _ (bO cd)
    have DY:pl[j]? =some (.blk id):=by rw[bO cd,e]
    have Is:ee σ j=some (.blk id):=by rw[qD];exact ot (by rw[lG];exact DY)
    rcases cls id with ⟨i,b2,c1,c2,c3,c4,c5⟩|⟨j',b2,b',c,b0,q1,q2,q3,q4,q5,q6,q7,q8,q9,pw,we,qE⟩|⟨c1,c2,c3⟩
    ·obtain ⟨c,d1,d2⟩:=OC j id DY
     obtain ⟨_,b0,d3,_⟩:=d2.Iq
     rw[d3] at c4;cases c4
    ·obtain rfl:=uniq _ _ _ q1 DY
     rw[hj] at q2;cases q2
     exact ⟨id,b',Is,q7,q8,fun h=>pw.trans (qE h).symm⟩
    ·exact absurd DY (c2 j)
   ·have OE:=(bu.1 hj).1
    have Is:ee σ j=some (.blk (nb+(j-pl.length))):=by
     rw[qD,lG,iv (by omega)]
     exact DW (by omega)
    have hm:(nb+(j-pl.length),s9 σ b)∈fr:=by
     rw[zT]
     refine Ov ?_
     rw[gY,show pl.length+(j-pl.length)=j by omega]
     exact hj
    rcases cls (nb+(j-pl.length)) with ⟨i,b2,c1,c2,c3,c4,c5⟩|⟨j',b2,b',c,b0,q1,q2,q3,q4,q5,q6,q7,q8,q9,pw,we,qE⟩|⟨c1,c2,c3⟩
    ·have hi:i=j-pl.length:=by omega
     subst hi
     rw[show pl.length+(j-pl.length)=j by omega] at c2 c5
     rw[hj] at c2;cases c2
     exact ⟨_,_,Is,c3,.of σ _,fun _=>c5⟩
    ·rw[rX _ hm] at q5;cases q5
    ·obtain ⟨b',C9,he⟩:=C6 (hp:=hp) (l:=fr++bk) (ez.2 (.inl hm))
     rw[Ir,c1,rX _ hm] at he
     cases he
  ·rw[gR] at hj
   have:=List.getElem?_eq_none_iff.1 hj
   rw[qD,lG,List.getElem?_eq_none_iff,bS,Ip]
   omega
  ·rw[qD,lG] at hj
   by_cases cd:j<pl.length
   ·rw[iu cd] at hj
    obtain ⟨aD,b1,e,_⟩:=pt j _ hj
    cases e
   ·have OE:j-pl.length<bs.length-pl.length:=by
     have:=(bu.1 hj).1
     rw[bS,Ip] at this
     omega
    rw[iv (by omega),DW OE] at hj
    cases hj
 have hle:Le P w I β hp w' I2 β' gJ:=by
  refine ⟨wc.db,wc.cb,fun id blk ab=> ?_,fun id blk blk' b ab bD qF hb=> ?_,fun id e es ar e' aL vers' b q i c t v e1 l ab bD hb aO hv ht hc=> ?_⟩
  ·rcases cls id with ⟨i,b2,c1,c2,c3,c4,c5⟩|⟨j',b2,b',c,b0,q1,q2,q3,q4,q5,q6,q7,q8,q9,pw,we,qE⟩|⟨c1,c2,c3⟩
   ·rw[ab] at c4;cases c4
   ·rw[ab] at q5;cases q5
    exact ⟨b',q7,q6,fun _=>pw⟩
   ·exact ⟨blk,c1.trans ab,an.le_refl _,fun _=>c3⟩
  ·rcases cls id with ⟨i,b2,c1,c2,c3,c4,c5⟩|⟨j',b2,b',c,b0,q1,q2,q3,q4,q5,q6,q7,q8,q9,pw,we,qE⟩|⟨c1,c2,c3⟩
   ·rw[ab] at c4;cases c4
   ·rw[q7] at bD;cases bD
    exact wc.size j' c b2 b q3 (by rw[gR];exact q2) (q8.Oy qF) (q4.Iq.1.trans hb)
   ·rw[c1,ab] at bD
    cases bD
    simp only[bsize,(other id blk b ab (.root qF hb) c2).2.1]
  ·rcases cls id with ⟨i2,b2,c1,c2,c3,c4,c5⟩|⟨j',b2,b',c',b0,q1,q2,q3,q4,q5,q6,q7,q8,q9,pw,we,qE⟩|⟨c1,c2,c3⟩
   ·rw[ab] at c4;cases c4
   ·rw[q7] at bD;cases bD
    obtain ⟨_,_,tQ,_,_,k1,k2⟩:=q9 ⟨_,_,_,rfl⟩
    change hp id=_ at k1
    rw[ab] at k1;cases k1
    cases k2
    rw[Oz aO] at hv
    omega
   ·rw[c1,ab] at bD
    cases bD
    exact ⟨l,rfl,hc.mono fun _ _ _ _ h=>(other id _ _ ab (.row hb h) c2).2.1⟩
 have place: ∀id blk b,gJ id=some blk→bw P w' (β' id) blk b→(∃j c,js bs j=some c∧bw P w' (b6 j) c b∧ee σ j=some (.blk id))∨(b<w.heap.size∧¬ou P w o hp0 b∧hp id=some blk∧bw P w (β id) blk b):=by
  intro id blk b e1 e3
  rcases cls id with ⟨i,b2,c1,c2,c3,c4,c5⟩|⟨j',b2,b',c,b0,q1,q2,q3,q4,q5,q6,q7,q8,q9,pw,we,qE⟩|⟨c1,c2,c3⟩
  ·rw[c3] at e1;cases e1
   rw[c5] at e3
   refine .inl ⟨pl.length+i,b2,by rw[gR];exact c2,(fZ.of σ b2).tP e3,?_⟩
   have:=(bu.1 c2).1
   rw[qD,lG,iv (by omega),DW (by omega),c1]
   congr 3
   omega
  ·rw[q7] at e1;cases e1
   have qF:b2≠ .dead:=q8.Oy e3.alive
   rw[pw,←qE qF] at e3
   exact .inl ⟨j',b2,by rw[gR];exact q2,q8.tP e3,by rw[qD];exact ot (by rw[lG];exact q1)⟩
  ·rw[c1] at e1
   rw[c3] at e3
   have:=e3.mono (w:=w) fun b hb=>(other id blk b e1 hb c2).2.1
   exact .inr ⟨S.h.lt e1 this,(other id blk b e1 this c2).1,e1,this⟩
 have rL: ∀b,ou P w o hp0 b∨w.heap.size≤b→M b∨B≤b:=by
  rintro b (h|h)
  ·obtain ⟨j,id,b1,i1,i2,i3,_⟩:=OD b h
   exact S.h.own id b1 b i2 i3
  ·exact .inr (la S.size h)
 have It: ∀j c b,js bs j=some c→bw P w' (b6 j) c b→ou P w o hp0 b∨w.heap.size≤b:=fun j c b h1 U=>Sc.h.own j c b h1 U
 refine ⟨β',hle,⟨⟨fun id blk ab=> ?_,fun i1 i2 b1 b2 b e1 e2 f1 f2=> ?_,fun id blk b ab hb=> ?_,Sc.h.jw⟩,fun b hb hM=> ?_,la S.size Sc.size,fun b hb=> ?_,⟨Sc.io.1.trans S.io.1,Sc.io.2.trans S.io.2⟩⟩,rS⟩
 ·rcases cls id with ⟨i,b2,c1,c2,c3,c4,c5⟩|⟨j',b2,b',c,b0,q1,q2,q3,q4,q5,q6,q7,q8,q9,pw,we,qE⟩|⟨c1,c2,c3⟩
  ·rw[c3] at ab;cases ab
   rw[c5]
   exact rS.Ox (Sc.h.rel _ b2 (by rw[gR];exact c2)) (.of σ b2)
  ·rw[q7] at ab;cases ab
   have:=rS.Ox (Sc.h.rel j' b2 (by rw[gR];exact q2)) q8
   by_cases qF:b2= .dead
   ·subst qF
    cases q8
    exact .dead
   ·rw[pw,←qE qF]
    exact this
  ·rw[c1] at ab
   rw[c3]
   exact (S.h.rel id blk ab).mono hle fun b hb=>(other id blk b ab hb c2).2
 ·rcases place i1 b1 b e1 f1 with ⟨j1,c1,g1,g2,g3⟩|⟨g1,g2,g3,g4⟩<;>rcases place i2 b2 b e2 f2 with ⟨j2,c2,k1,k2,k3⟩|⟨k1,k2,k3,k4⟩
  ·have:=Sc.h.inj j1 j2 c1 c2 b g1 k1 g2 k2
   subst this
   rw[g3] at k3
   cases k3
   rfl
  ·rcases It j1 c1 b g1 g2 with h|h
   ·exact absurd h k2
   ·omega
  ·rcases It j2 c2 b k1 k2 with h|h
   ·exact absurd h g2
   ·omega
  ·exact S.h.inj i1 i2 _ _ b g3 k3 g4 k4
 ·rcases place id blk b ab hb with ⟨j1,c1,g1,g2,g3⟩|⟨g1,g2,g3,g4⟩
  ·exact rL b (It j1 c1 b g1 g2)
  ·exact S.h.own id blk b g3 g4
 ·refine (Sc.cb b (rk hb S.size) fun hx=> ?_).trans (S.cb b hb hM)
  rcases rL b (.inl hx) with h|h
  ·exact hM h
  ·omega
 ·rcases Sc.new b hb with h|h|h
  ·exact S.new b h
  ·exact .inr (rL b (.inl h))
  ·exact .inr (rL b (.inr h))
end
section
variable {P:Program} {A:cB} {w w':World} {I I' I2:Nat→Prop} {μ β β' b6:Nat→Option Nat} {hp hp' hp0 bt:Nat→Option an} {C:ag} {B:Nat} {M:Nat→Prop} {w0:Start}
theorem OF (hp:Nat→Option an): ∀(a b:List (Nat × an)),bL hp (a++b)=bL (bL hp b) a
 | [],b=>rfl
 | (i,x)::a,b=>by simp only[List.cons_append,bL,OF hp a b]
theorem wg {hp:Nat→Option an} {l:List (Nat × an)} {id:Nat} (h: ∀q∈l,q.1≠id):bL hp l id=hp id:=by
 rcases tp (hp:=hp) (l:=l) (id:=id) with h1|⟨b,hb,_⟩
 ·exact h1
 ·exact absurd rfl (h _ hb)
def yw (P : Program) : Prop := ∀ (f : Nat) fn, P.funcs[f]? = some fn → (fn.name == "runtime.NumGoroutine") = false
def OG (P:Program) (f:FuncId) (e:TypeId):Prop:=
 (∀args w,(callFunc f args).run P w= .ok (.enter f args) w)∧∃t,P.underlying t=some (.slice e)∧
  ∀(s:Value) (w:World) (Q:Ending→World→Prop),(s= .slice none 0 0→Q (.returned (.slice none 0 0)) w)→
   (∀a n c,s= .slice (some a) n c→∃v w',(Builtin.append_ #[t,t] t #[.slice (some ⟨w.heap.size,0,none⟩) 0 0,s]).run P (w.alloc (.cells #[] e))= .ok v w'∧Q (.returned v) w')→
   (s= .slice none 0 0∨∃a n c,s= .slice (some a) n c)→Calls P f #[s] w Q
structure iK (P:Program) (A:cB):Prop where
 count:yw P
 ext: ∀f T,A.ext f=some T→∀(b:Nat) (C:Array Value) (w:World),w.heap[b]? =some (.cells C T (0,0))→C.size=P.cellsOf T→(C[0]? =some (.pointer none)∨C[0]? =some (.pointer (some ⟨b,0,none⟩)))→
  (callFunc f #[.pointer (some ⟨b,0,none⟩)]).run P w= .ok (.enter f #[.pointer (some ⟨b,0,none⟩)]) w∧
  Calls P f #[.pointer (some ⟨b,0,none⟩)] w fun e w'=>e= .returned (.tuple #[])∧(w'=w∨w'=w.setCell ⟨b,0,none⟩ (.pointer (some ⟨b,0,none⟩)))
 idle: ∀f,A.idle f=true→(∀args w,(callFunc f args).run P w= .ok (.enter f args) w)∧
  ∀args w,CallsD P f args .returning w fun e u' w'=>(∃v,e= .returned v)∧u'= .returning∧w'=w
 nV: ∀f e,A.nV f=some e→OG P f e
theorem iK.here {P:Program} {A:cB} (h:iK P A) (f id:Nat):iK P (A.here f id):=⟨h.count,h.ext,h.idle,h.nV⟩
def zU (E:FuncId→Bool) (d:Deferred):Prop:= ∃f cap,d.target= .fn (.func f) cap∧E f=true
theorem Iu {P:Program} {A:cB} (hP:iK P A) {fn:Func} {tmps:Array Value} {R:Ending→World→Prop} {w:World} {v:Value} (hv:(results fn tmps).run P w= .ok v w) (hR:R (.returned v) w):
  ∀ds:List Deferred,(∀d∈ds,zU A.idle d)→Leaves P fn tmps R ds .returning w
 | [],_=>⟨v,hv,hR⟩
 | d::ds,h=>by
  obtain ⟨f,cap,ht,hf⟩:=h d (by simp)
  obtain ⟨k1,k2⟩:=hP.idle f hf
  obtain ⟨t,OH⟩:=d
  simp only at ht
  subst ht
  refine leaves_cons (f:=f) (args:=OH++cap) (by simp) ?_ ?_
  ·simp only[invoke];exact k1 _ w
  ·refine (k2 (OH++cap) w).mono fun e u' w' hr=> ?_
   obtain ⟨⟨v',rfl⟩,rfl,rfl⟩:=hr
   exact Iu hP hv hR ds fun d hd=>h d (ld _ hd)
def zV (P:Program) (A:cB) (o:Oper) (a:Act) (w:World) (I:Nat→Prop) (β:Nat→Option Nat) (hp:Nat→Option an) (B:Nat) (M:Nat→Prop) (w0:Start) (r:R):Prop:=
 ∀(next:Act→World→Prop) (Q:Exit→Act→World→Prop),
  (∀v w' I' β' ds,Le P w I β hp w' I' β' (bL hp r.upd)→aF P w' I' β' (bL hp r.upd) B M w0→ao P w' I' β' (bL hp r.upd) v r.v→(∀d∈ds,d∈a.defers∨zU A.idle d)→next ({a with defers:=ds}.put o.dst v) w')→o.wp P a w next Q
theorem pd.step {o:Oper} {a:Act} {r:R} (h:pd P ((execOp a.eval o).run P w) w I β hp B M w0 r):zV P A o a w I β hp B M w0 r:=by
 obtain ⟨v,w',I',β',h1,U,h3,h4⟩:=h
 intro next Q hn
 unfold Oper.wp
 rcases h1 with h1|⟨h1,rfl⟩
 ·rw[h1];exact hn v w' I' β' a.defers U h3 h4 fun d hd=> .inl hd
 ·rw[h1];exact hn _ w' I' β' a.defers U h3 h4 fun d hd=> .inl hd
theorem OI: ∀(l:List (Nat × VS)),nX l=rF (l.map (·.2))
 | []=>rfl
 | (_,s)::l=>by simp only[nX,cz,rF,OI l]
theorem YR (hC:kQ P A C) (S:aF P w I β hp B M w0) (hg:gf P A.aE w I) {vals:List Value} {args:List V} {nb key:Nat} {f:FuncId} {r:R} {rd:List Nat} (hlen:vals.length=args.length)
  (cD: ∀(j:Nat) v x,vals[j]? =some v→args[j]? =some x→ao P w I β hp v x) (h:(y6 P A nb key f args).run C hp=some (r,rd)):
  ∃fn c,P.funcs[f]? =some fn∧fn.body=some c∧Calls P f vals.toArray w fun e w'=> ∃v I' β',e= .returned v∧Le P w I β hp w' I' β' (bL hp r.upd)∧aF P w' I' β' (bL hp r.upd) B M w0∧ao P w' I' β' (bL hp r.upd) v r.v:=by
 unfold y6 at h
 obtain ⟨OJ,h0⟩:=aG h
 clear h
 rw[aR] at OJ
 subst OJ
 obtain ⟨h1,jf,d1,u1,a1,a2,a3,a5,a4⟩:=Il S h0 hlen cD
 obtain ⟨U,rW,d2,u2,b1,b2,b3,b4⟩:=Oi S a1
 clear h0 a1
 obtain ⟨hc,h3⟩:=aG b1
 clear b1
 simp only[aK,aR,mL] at hc
 obtain ⟨bE,DV⟩:=hc
 have rY:=a2.trans b2
 have k9:U.ds=d1++d2:=by have:=rY.ds;simpa using this
 have DZ:U.upd=u1++u2:=by have:=rY.upd;simpa using this
 have ka:(U.pl.map Place.id).Nodup:=rY.nodup (by simp)
 obtain ⟨c1,o,c2,c3⟩:=b4 []
 simp only[cP] at c1 c2 c3
 cases zW:C key U.ds with
 | none=>
  simp only[Rd.run,zW] at h3
  cases h3
 | some es=>
  have qk: ∃eL,(y5 P (A.so key es) nb U (A.lv key es)).run C hp=some (r,eL):=by
   obtain ⟨x,hx,e⟩:=bind_some h3
   rw[zW] at hx
   cases hx
   unfold cB.so cB.lv
   cases cf:A.alt key with
   | none=>rw[cf] at e;exact ⟨_,e⟩
   | some S2=>
    rw[cf] at e
    simp only[Rd.run] at e
    cases hb:(V.nth es 0).toBool<;>(rw[hb] at e;exact ⟨_,e⟩)
  clear h3
  obtain ⟨eL,h3⟩:=qk
  unfold y5 at h3
  simp only at h3
  generalize gK:eC (A.so key es).bc ((A.lv key es).drop (nX (A.so key es).bP))=bs at h3
  generalize qD:U.pl++rG nb (bs.length-U.pl.length)=σ at h3
  generalize zT:qa σ nb (bs.drop U.pl.length)=fr at h3
  obtain ⟨p0,bk,rd4,p1,p2,_,p3⟩:=Ot h3
  obtain ⟨rX,rd5,p4⟩:=Ow p1
  obtain rfl:=aM p4
  have qn:U.pl.length≤bs.length:=by rw[eP] at p0;omega
  have DX: ∀q∈bk,∃(j:Nat) (b:an),U.pl[j]? =some (.blk q.1)∧bs[j]? =some b∧fZ σ b q.2∧zS hp q:=by
   intro q hq
   rcases p2 q hq with hx|⟨j,b,k1,k2,k3,k4⟩
   ·simp at hx
   ·have hj:=(bu.1 k1).1
    rw[eO hj] at k2
    exact ⟨j,b,k1,k2,k3,k4⟩
  obtain ⟨fn,c,hf,hb,Iv⟩:=hC key U.ds es zW
  refine ⟨fn,c,hf,hb,?_⟩
  have YS:eC (A.sin key).bc (U.ds.drop (nX (A.sin key).bP))=eC (A.sin key).bc d2:=by
   rw[k9,OI,nh a3]
  have Iw:(br (A.sin key) U.ds).hp=js (eC (A.sin key).bc d2):=by
   simp only[br,mk,YS]
  have hl: ∀j blk,(br (A.sin key) U.ds).hp j=some blk→∃p,ee U.pl j=some p∧dV P w β hp p (o j) blk:=by
   intro j blk hj
   rw[Iw,gR] at hj
   obtain ⟨p,k1,k2⟩:=c2 j blk hj
   rw[gE] at k1
   exact ⟨p,k1,k2⟩
  have hd: ∀j,j<U.pl.length→∃blk,(br (A.sin key) U.ds).hp j=some blk:=by
   intro j hj
   rw[Iw,gR]
   exact ⟨_,bO (by rw[c1,←bE];exact hj)⟩
  have OK:zN P w β hp U.pl o (br (A.sin key) U.ds).hp:=by
   intro j p hj
   obtain ⟨blk,k1⟩:=hd j (by rw[lG] at hj;exact (bu.1 hj).1)
   obtain ⟨p',k2,k3⟩:=hl j blk k1
   rw[hj] at k2
   cases k2
   exact ⟨blk,k1,k3⟩
  obtain ⟨qu,S1⟩:=zl S rY.DP
  rw[←DZ] at qu S1
  have i1: ∀b,I b→iD P w I β hp U.upd b:=fun b h=> .inl h
  have entry:=YL (hp0:=(br (A.sin key) U.ds).hp) S ka DV hl (fun cL j blk hj=>by
   have gl:=hj
   rw[Iw,gR] at gl
   exact c3 (iD P w I β hp U.upd) o _ i1 (fun q hq b hb=> .inr ⟨q,by rw[DZ];exact ez.2 (.inr hq),hb⟩) U.pl [] (by simp) OK j blk gl (cL j blk hj)) S1.h.jw
  have YT:vals.length=(A.sin key).bP.length:=by rw[hlen,←a5];simp
  have ha:=Iv w (iD P w I β hp U.upd) o vals entry (hg.mono i1 fun _ _=>rfl) YT fun j v x hj hx=>by
   rw[k9] at hx
   exact (((a4.zO b2) (iD P w I β hp U.upd) o _ i1 (fun q hq b hb=> .inr ⟨q,by rw[DZ];exact hq,hb⟩) U.pl [] (by simp) OK) d2).2 j v x hj hx
  refine ha.mono fun e w' zX=> ?_
  obtain ⟨v,I2,b6,rfl,ha⟩:=zX
  have wh:(br (A.so key es) (A.lv key es)).hp=js bs:=by simp only[br,mk,gK]
  cases YU:(A.so key es).safe P with
  | true=>
   simp only[cond_true,cP]
   have gO: ∀b,I b→I2 b:=fun b h=>ha.le.db b (i1 b h)
   obtain ⟨s1,s2⟩:=YO YU gO ha.wa i1
   have wc:kP w I o (br (A.sin key) U.ds).hp w' I b6 (js bs):=by
    rw[←wh]
    exact ⟨fun _ h=>h,fun b h=>ha.le.cb b (i1 b h),ha.le.blk,ha.le.size⟩
   obtain ⟨β',k1,k2,k3⟩:=OB S qD.symm zT.symm ka qn p3 DX hl hd (by rw[←wh];exact ⟨s1.h,s1.cb,s1.size,fun b h=> .inl h,s1.io⟩) wc rX
   exact ⟨v,I,β',rfl,k1,k2,k3.val (by have:=s2 v ha.res;rw[wh] at this;exact this)⟩
  | false=>
   simp only[cond_false]
   rw[←cq,OF]
   have ow: ∀p∈U.pl,bL hp U.upd p.id=hp p.id:=fun p hp=>wg fun q hq e=>
    DU DV (gh.2 ⟨q,hq,rfl⟩) (e▸gh.2 ⟨p,hp,rfl⟩)
   have YV: ∀q∈bk,∃(j:Nat) (b:an),U.pl[j]? =some (.blk q.1)∧bs[j]? =some b∧fZ σ b q.2∧zS (bL hp U.upd) q:=by
    intro q hq
    obtain ⟨j,b,k1,k2,k3,k4⟩:=DX q hq
    refine ⟨j,b,k1,k2,k3,fun hn=> ?_⟩
    have:=ow _ (jo k1)
    simp only[Place.id] at this
    rw[this]
    exact k4 hn
   have rJ: ∀j blk,(br (A.sin key) U.ds).hp j=some blk→∃p,ee U.pl j=some p∧dV P w β (bL hp U.upd) p (o j) blk:=by
    intro j blk hj
    obtain ⟨p,k1,k2⟩:=hl j blk hj
    exact ⟨p,k1,k2.other (ow p (by rw[lG] at k1;exact jo k1))⟩
   have YW: ∀q∈fr,bL hp U.upd q.1=none:=by
    intro q hq
    rw[wg fun q' zY e=> ?_]
    ·exact rX q hq
    ·obtain ⟨e1,ch,_,h5⟩:=rY.DP q' (DZ▸zY)
     rw[e,rX q hq] at h5
     rcases h5 with ⟨_,h5⟩|⟨_,h5⟩<;>cases h5
   obtain ⟨β',k1,k2,k3⟩:=OB S1 qD.symm zT.symm ka qn p3 YV rJ hd (by rw[←wh];exact ha.wa) (by rw[←wh];exact ha.le) YW
   exact ⟨v,I2,β',rfl,qu.trans k1,k2,k3.val (by have:=ha.res;rw[wh] at this;exact this)⟩
theorem OL (hC:kQ P A C) (hP:iK P A) (S:aF P w I β hp B M w0) (hg:gf P A.aE w I) {a:Act} {nb key:Nat} {o:Oper} {f:FuncId} {vals:List Value} {args:List V} (hlen:vals.length=args.length)
  (cD: ∀(j:Nat) v x,vals[j]? =some v→args[j]? =some x→ao P w I β hp v x) {r:R} {rd:List Nat} (h:(y6 P A nb key f args).run C hp=some (r,rd))
  (hex:(execOp a.eval o).run P w=(callFunc f vals.toArray).run P w):zV P A o a w I β hp B M w0 r:=by
 intro next Q hn
 obtain ⟨fn,c,hf,hb,Iv⟩:=YR hC S hg hlen cD h
 unfold Oper.wp
 rw[hex,MuLone.run_callFunc_enter hf (hP.count f _ hf) hb,Oper.upon_enter]
 refine Iv.mono fun e w' zX=> ?_
 obtain ⟨v,I2,b6,rfl,k1,k2,k3⟩:=zX
 exact hn v w' I2 b6 a.defers k1 k2 k3 fun d hd=> .inl hd
theorem kK.args {a:Act} {sl:Nat→V} (hs:kK P w I β hp a sl) (hg:gf P A.aE w I) {args:Array Operand} {ts:Array TypeId} (aX:args.size=ts.size):
  (args.map a.eval).toList.length=((args.toList.zip ts.toList).map fun p=>aN P A.aE p.2 sl p.1).length∧
  ∀(j:Nat) v x,(args.map a.eval).toList[j]? =some v→((args.toList.zip ts.toList).map fun p=>aN P A.aE p.2 sl p.1)[j]? =some x→ao P w I β hp v x:=by
 refine ⟨by simp;omega,fun j v x hv hx=> ?_⟩
 simp only[Array.toList_map,gF,List.getElem?_zip_eq_some,yI] at hv hx
 obtain ⟨x1,zZ,rfl⟩:=hv
 obtain ⟨⟨y1,t1⟩,⟨OM,_⟩,rfl⟩:=hx
 rw[zZ] at OM
 cases OM
 exact hs.ev hg t1 _
theorem ON {vs us:List Value} {xs ys:List V} (h1:vs.length=xs.length) (U: ∀(j:Nat) v x,vs[j]? =some v→xs[j]? =some x→ao P w I β hp v x)
  (h3: ∀(j:Nat) v x,us[j]? =some v→ys[j]? =some x→ao P w I β hp v x) (j:Nat) (v:Value) (x:V) (hv:(vs++us)[j]? =some v) (hx:(xs++ys)[j]? =some x):ao P w I β hp v x:=by
 by_cases hj:j<vs.length
 ·rw[iu hj] at hv
  rw[iu (by omega)] at hx
  exact U j v x hv hx
 ·rw[iv (by omega)] at hv
  rw[iv (by omega)] at hx
  rw[h1] at hv
  exact h3 _ v x hv hx
theorem YX (hP:iK P A) (S:aF P w I β hp B M w0) (hg:gf P A.aE w I) {a:Act} {sl:Nat→V} (hs:kK P w I β hp a sl) {dst:Option Tmp} {ty e:TypeId} {pos:String} {after:Array Edge} {guard:Option (Nat × Bool)} {f:FuncId}
  {args:Array Operand} {argTypes:Array TypeId} {nb:Nat} {r:R} {rd:List Nat} (kO:A.nV f=some e)
  (h:((match args.toList with
    | [x]=> .aC (cM P e) (rD e (aN P A.aE ty sl x) fun xs=> .aC (Nat.ble (xs.length*P.bytesOf e) bU) (iZ nb (.arr e xs false) (.whole e nb) []))
    | _=> .fail):Rd R).run C hp=some (r,rd)):zV P A (Oper.mk dst (.call (Go.Call.mk (.value (.func f)) args argTypes)) ty pos after guard) a w I β hp B M w0 r:=by
 cases ha:args.toList with
 | nil=>rw[ha] at h;cases h
 | cons x l=>
  rw[ha] at h
  cases l with
  | cons _ _=>cases h
  | nil=>
   simp only at h
   have e1:args= #[x]:=by rw[←Array.toArray_toList (xs:=args),ha]
   subst e1
   have hx:=hs.ev hg ty x
   obtain ⟨au,h⟩:=aG h
   have fin: ∀{w1:World} {D0:Nat→Option Nat},(∀id blk,hp id=some blk→dS P w1 I D0 hp (D0 id) blk)→ao P w1 I D0 hp (a.eval x) (aN P A.aE ty sl x)→∃xs,(((∃a',a.eval x= .slice a' 0 0)∧xs=[])∨∃a' c news,Row P w1 I e (a.eval x) xs a' c news)∧
     xs.length*P.bytesOf e≤bU∧hp nb=none∧r=⟨.whole e nb,[(nb,.arr e xs false)]⟩:=by
    intro w1 D0 h1 U
    obtain ⟨xs,lF,l,h⟩:=Dz h1 au U h
    obtain ⟨dO,h⟩:=aG h
    rw[dx] at dO
    obtain ⟨hn,rfl⟩:=m9 h
    exact ⟨xs,lF,dO,hn,rfl⟩
   obtain ⟨c1,t,hu,c2⟩:=hP.nV f e kO
   intro next Q wi
   unfold Oper.wp
   have e2:(execOp a.eval ⟨dst,.call ⟨.value (.func f),#[x],argTypes⟩,ty,pos,after,guard⟩).run P w= .ok (.enter f #[a.eval x]) w:=by
    have eM:a.eval (.func f)= .func (.func f) #[] #[]:=rfl
    simpa[execOp,resolve,eM,Deferred.ofValue,invoke] using c1 #[a.eval x] w
   rw[e2,Oper.upon_enter]
   refine c2 _ w _ (fun z0=> ?_) (fun b n c ph=> ?_) ?_
   ·obtain ⟨xs,lF,dO,hn,rfl⟩:=fin S.h.rel hx
    have gm:xs=[]:=by
     rcases lF with ⟨_,h⟩|⟨a,c,news,hr⟩
     ·exact h
     ·have:=hr.val.symm.trans z0
      cases this
    subst gm
    obtain ⟨a1,a2⟩:=Db S e hn
    exact wi _ w I _ a.defers a1 a2 (.dF (cQ _ _ _) (cQ _ _ _)) fun d hd=> .inl hd
   ·obtain ⟨m1,m2⟩:=Wv (w':=w.alloc (.cells #[] e)) S (fun b hb=>heap_alloc_old w _ b hb) (by simp) ⟨rfl,rfl⟩
    obtain ⟨xs,lF,dO,hn,rfl⟩:=fin m2.h.rel (hx.mono m1)
    obtain ⟨v,w',β',a1,a2,a3,a4⟩:=HM (ty:=t) (a0:=some ⟨w.heap.size,0,none⟩) m2 hu au hn dO lF
    exact ⟨v,w',a1,wi v w' I β' a.defers (m1.trans a2) a3 a4 fun d hd=> .inl hd⟩
   ·obtain ⟨xs,lF,dO,hn,rfl⟩:=fin S.h.rel hx
    rcases lF with ⟨⟨b,h⟩,_⟩|⟨b,c,news,hr⟩
    ·rw[h]
     cases b with
     | none=>exact .inl rfl
     | some b=>exact .inr ⟨_,_,_,rfl⟩
    ·exact .inr ⟨_,_,_,hr.val⟩
theorem YY (hP:iK P A) (S:aF P w I β hp B M w0) (hg:gf P A.aE w I) {a:Act} {sl:Nat→V} (hs:kK P w I β hp a sl) {dst:Option Tmp} {ty T0:TypeId} {pos:String} {after:Array Edge} {guard:Option (Nat × Bool)} {f:FuncId}
  {args:Array Operand} {argTypes:Array TypeId} {r:R} {rd:List Nat} (z5:A.ext f=some T0)
  (h:((match args.toList with
   | [x]=>
    match aN P A.aE ty sl x with
    | .ptr id i c=>Rd.get id fun
     | some (.var T cs)=> .aC (Nat.beq T T0&&(o5 P T&&(Nat.beq cs.length (P.cellsOf T)&&(Nat.beq i 0&&Nat.beq c 0)))) (.ret ⟨.bn [],[(id,.var T (.undef::cs.tail))]⟩)
     | _=> .fail
    | _=> .fail
   | _=> .fail):Rd R).run C hp=some (r,rd)):zV P A (Oper.mk dst (.call (Go.Call.mk (.value (.func f)) args argTypes)) ty pos after guard) a w I β hp B M w0 r:=by
 cases ha:args.toList with
 | nil=>rw[ha] at h;cases h
 | cons x l=>
  rw[ha] at h
  cases l with
  | cons _ _=>cases h
  | nil=>
   simp only at h
   have e1:args= #[x]:=by rw[←Array.toArray_toList (xs:=args),ha]
   subst e1
   have hx:=hs.ev hg ty x
   cases e8:aN P A.aE ty sl x<;>rw[e8] at h hx<;>simp only at h<;>first|(cases h;done)|skip
   rename_i id i c
   obtain ⟨l,h1⟩:=run_get h
   cases ab:hp id with
   | none=>rw[ab] at h1;cases h1
   | some blk=>
    rw[ab] at h1
    cases blk<;>simp only at h1<;>first|(cases h1;done)|skip
    rename_i T cs
    obtain ⟨U,h3⟩:=aG h1
    simp only[aK,aR] at U
    obtain ⟨rfl,bI,ox,rfl,rfl⟩:=U
    obtain rfl:=aM h3
    obtain ⟨b,hb,he⟩:=hx.gL ab (by simp)
    have hr:=S.h.rel id _ ab
    rw[hb] at hr
    cases hr with
    | @var _ b' Ca _ aB hh aX hI gm fV=>
     cases aB
     have gN:a.eval x= .pointer (some ⟨b,0,none⟩):=by rw[he];simp[an.sz]
     obtain ⟨q1,q2⟩:=hP.ext f T z5 b Ca w hh (aX.trans ox) (fV bI)
     have h0:0<Ca.size:=by
      rcases fV bI with k|k<;>exact (gZ.1 k).1
     have oe:(V.undef::cs.tail).length=cs.length:=by
      cases cs with
      | nil=>rw[aX] at h0;simp at h0
      | cons _ _=>rfl
     have rel: ∀(C':Array Value),(∀j,0<j→C'[j]? =Ca[j]?)→∀(j:Nat) v y,C'[j]? =some v→(V.undef::cs.tail)[j]? =some y→ao P w I β hp v y:=by
      intro C' vT j v y hj hy
      cases j with
      | zero=>simp at hy;subst hy;exact .undef
      | succ j=>
       rw[vT _ (by omega)] at hj
       refine gm (j+1) v y hj ?_
       cases cs with
       | nil=>rw[aX] at h0;simp at h0
       | cons _ _=>simpa using hy
     have fin: ∀w' C',(∀b',b'≠b→w'.heap[b']? =w.heap[b']?)→w'.heap[b]? =some (.cells C' T (0,0))→C'.size=Ca.size→w.heap.size≤w'.heap.size→w'.os=w.os∧w'.output=w.output→
       (∀j,0<j→C'[j]? =Ca[j]?)→(C'[0]? =some (.pointer none)∨C'[0]? =some (.pointer (some ⟨b,0,none⟩)))→
       Le P w I β hp w' I β (aI hp id (some (.var T (V.undef::cs.tail))))∧aF P w' I β (aI hp id (some (.var T (V.undef::cs.tail)))) B M w0:=by
      intro w' C' k1 k2 k3 k4 k5 k6 k7
      exact Dd (w':=w') (blk':= .var T (V.undef::cs.tail)) S ab (by simp) rfl hb hI (by simp) k1 (by rw[mX k2,mX hh,k3]) k4 k5 fun hle=>
       .var rfl k2 (by rw[k3,aX,oe]) hI (fun j v y hj hy=>(rel C' k6 j v y hj hy).mono hle) fun _=>k7
     intro next Q hn
     unfold Oper.wp
     have e2:(execOp a.eval ⟨dst,.call ⟨.value (.func f),#[x],argTypes⟩,ty,pos,after,guard⟩).run P w= .ok (.enter f #[.pointer (some ⟨b,0,none⟩)]) w:=by
      have eM:a.eval (.func f)= .func (.func f) #[] #[]:=rfl
      simpa[execOp,resolve,eM,Deferred.ofValue,invoke,gN] using q1
     rw[e2,Oper.upon_enter]
     refine q2.mono fun e w' zX=> ?_
     obtain ⟨rfl,hw⟩:=zX
     have OO:Le P w I β hp w' I β (aI hp id (some (.var T (V.undef::cs.tail))))∧aF P w' I β (aI hp id (some (.var T (V.undef::cs.tail)))) B M w0:=by
      rcases hw with rfl|rfl
      ·exact fin w' Ca (fun _ _=>rfl) hh rfl (bY _) ⟨rfl,rfl⟩ (fun _ _=>rfl) (fV bI)
      ·refine fin (w.setCell ⟨b,0,none⟩ (.pointer (some ⟨b,0,none⟩))) (Ca.setIfInBounds 0 (.pointer (some ⟨b,0,none⟩))) (fun b' bC=> ?_) ?_ (by simp) (by simp[World.setCell]) ⟨rfl,rfl⟩ (fun j hj=> ?_) (.inr ?_)
       ·simp only[World.setCell,yH]
        rw[ai (fun e=>bC e.symm)]
       ·simp[World.setCell,yH,hh]
       ·rw[Cp (by omega)]
       ·rw[GM h0]
     exact hn (.tuple #[]) w' I β a.defers OO.1 OO.2 (.bn rfl fun j v y hj _=>by simp at hj) fun d hd=> .inl hd
theorem YZ (hC:kQ P A C) (hP:iK P A) (S:aF P w I β hp B M w0) (hg:gf P A.aE w I) {a:Act} {sl:Nat→V} (hs:kK P w I β hp a sl) {ix nb:Nat} {o:Oper} {r:R} {rd:List Nat}
  (h:(fk P A sl ix nb o).run C hp=some (r,rd)):zV P A o a w I β hp B M w0 r:=by
 cases hc:Ia o.op with
 | false=>exact (Yq S hg hs hc h).step
 | true=>
  obtain ⟨dst,op,ty,pos,after,guard⟩:=o
  cases op<;>simp only[Ia] at hc<;>first|(cases hc;done)|skip
  case defer c=>
   obtain ⟨callee,args,argTypes⟩:=c
   cases callee with
   | invoke r m=>simp only[fk] at h;cases h
   | builtin b=>simp only[fk] at h;cases h
   | value f=>
   cases f with
   | tmp t=>
    simp only[fk] at h
    cases bI:sl t<;>rw[bI] at h<;>simp only at h<;>first|(cases h;done)|skip
    rename_i f xs ys
    obtain ⟨h1,U⟩:=aG h
    obtain rfl:=aM U
    have hv:=hs t
    rw[bI] at hv
    generalize tI:a.tmps.getD t undef=vt at hv
    cases hv with
    | @fn _ fs cs _ _ q1 q2 q3 q4=>
     intro next Q hn
     unfold Oper.wp
     have eM:a.eval (.tmp t)= .func (.func f) fs cs:=tI
     have e1:(execOp a.eval ⟨dst,.defer ⟨.value (.tmp t),args,argTypes⟩,ty,pos,after,guard⟩).run P w= .ok (.defer {target:= .fn (.func f) cs,args:=fs++args.map a.eval}) w:=by
      simp[execOp,resolve,eM,Deferred.ofValue]
     rw[e1,Oper.upon_defer]
     exact hn undef w I β _ (Le.refl w I β hp) S .undef fun d hd=>by
      rcases di.1 hd with rfl|hd
      ·exact .inr ⟨f,cs,rfl,h1⟩
      ·exact .inl hd
   | func f=>simp only[fk] at h;cases h
   | const _=>simp only[fk] at h;cases h
   | global _=>simp only[fk] at h;cases h
  rename_i c
  obtain ⟨callee,args,argTypes⟩:=c
  cases callee with
  | invoke r m=>cases hc
  | builtin b=>cases hc
  | value f=>
   cases f with
   | func f=>
    simp only[fk] at h
    cases z5:A.ext f with
    | some T0=>
     rw[z5] at h
     simp only at h
     exact YY hP S hg hs z5 h
    | none=>
    rw[z5] at h
    simp only at h
    cases kO:A.nV f with
    | some e0=>
     rw[kO] at h
     simp only at h
     exact YX hP S hg hs kO h
    | none=>
    rw[kO] at h
    simp only at h
    obtain ⟨h1,U⟩:=aG h
    rw[aR] at h1
    obtain ⟨k1,k2⟩:=hs.args hg h1
    refine OL hC hP S hg k1 k2 U ?_
    have e1:(args.map a.eval).toList.toArray=args.map a.eval:=Array.toArray_toList
    rw[e1]
    simp[execOp,resolve,Act.eval,Deferred.ofValue,invoke]
   | tmp t=>
    simp only[fk] at h
    cases bI:sl t<;>rw[bI] at h<;>simp only at h<;>first|(cases h;done)|skip
    rename_i f xs ys
    obtain ⟨h1,U⟩:=aG h
    rw[aR] at h1
    obtain ⟨k1,k2⟩:=hs.args hg h1
    have hv:=hs t
    rw[bI] at hv
    generalize tI:a.tmps.getD t undef=vt at hv
    cases hv with
    | @fn _ fs cs _ _ q1 q2 q3 q4=>
     have l1:fs.toList.length=xs.length:=by simpa using q1
     have l3:cs.toList.length=ys.length:=by simpa using q3
     have r1: ∀(j:Nat) v x,fs.toList[j]? =some v→xs[j]? =some x→ao P w I β hp v x:=fun j v x hj hx=>q2 j v x (by simpa using hj) hx
     have r3: ∀(j:Nat) v x,cs.toList[j]? =some v→ys[j]? =some x→ao P w I β hp v x:=fun j v x hj hx=>q4 j v x (by simpa using hj) hx
     refine OL hC hP S hg (vals:=fs.toList++(args.map a.eval).toList++cs.toList) (args:=xs++((args.toList.zip argTypes.toList).map fun p=>aN P A.aE p.2 sl p.1)++ys) (by simp only[bS];omega) ?_ U ?_
     ·exact ON (by simp only[bS];omega) (ON l1 r1 k2) r3
     ·have e1:(fs.toList++(args.map a.eval).toList++cs.toList).toArray=fs++args.map a.eval++cs:=by
       apply Array.toList_inj.1;simp
      rw[e1]
      have eM:a.eval (.tmp t)= .func (.func f) fs cs:=tI
      simp[execOp,resolve,eM,Deferred.ofValue,invoke]
   | _=>cases hc
end
section
variable {P:Program} {A:cB} {w w':World} {I I' I2:Nat→Prop} {μ β β':Nat→Option Nat} {hp hp':Nat→Option an} {C:ag} {B:Nat} {M:Nat→Prop} {w0:Start}
structure iL (P:Program) (E:FuncId→Bool) (G:Nat→V) (w:World) (I:Nat→Prop) (β:Nat→Option Nat) (n:Nat) (a:Act) (st:St):Prop where
 sl:kK P w I β st.hp a st.sl
 size:a.tmps.size=n
 defers: ∀d∈a.defers,zU E d
 aE:gf P G w I
theorem Ix {E:FuncId→Bool} {G:Nat→V} {n:Nat} {a:Act} {st:St} {o:Oper} {v:Value} {x:V} {hp':Nat→Option an} {ds:List Deferred} (h:iL P E G w I β n a st) (hle:Le P w I β st.hp w' I' β' hp') (hd:rH o n=true)
  (hv:ao P w' I' β' hp' v x) (k9: ∀d∈ds,d∈a.defers∨zU E d):iL P E G w' I' β' n ({a with defers:=ds}.put o.dst v) ⟨hO st.sl o.dst x,hp',st.nb⟩:=by
 have OP: ∀d∈ds,zU E d:=fun d hd=>(k9 d hd).elim (h.defers d) id
 cases Y0:o.dst with
 | none=>exact ⟨fun k=>(h.sl k).mono hle,h.size,OP,h.aE.mono hle.db hle.cb⟩
 | some d=>
  have aO:d<a.tmps.size:=by
   unfold rH at hd
   rw[Y0] at hd
   rw[h.size]
   simpa using hd
  refine ⟨fun k=> ?_,by simp[Act.put,h.size],OP,h.aE.mono hle.db hle.cb⟩
  simp only[Act.put,hO,aI]
  cases hb:Nat.beq k d with
  | true=>
   rw[aR] at hb
   subst hb
   simpa[aO] using hv
  | false=>
   have bC:d≠k:=fun e=>by rw[e,jn] at hb;cases hb
   have:=(h.sl k).mono hle
   simpa[Cp bC] using this
theorem OQ {E:FuncId→Bool} {G:Nat→V} {n:Nat} {a:Act} {st:St} {d:Nat} {b:Bool} (h:iL P E G w I β n a st) (hd:st.sl d= .bool b):a.tmps[d]? =some (.bool b):=by
 have:=h.sl d
 rw[hd] at this
 have:=this.j5
 cases ht:a.tmps[d]? with
 | none=>simp[ht] at this;cases this
 | some v=>simp[ht] at this;rw[this]
theorem Y1 {x:V} {b:Bool} (h:lh x=some (some b)):x= .bool b:=by
 cases x with
 | bool c=>simp only[lh] at h;injection h with h;injection h with h;rw[h]
 | bn vs=>cases vs<;>simp[lh] at h
 | _=>simp[lh] at h
theorem Y2 {x:V} (h:lh x=some none):x= .bn []:=by
 cases x with
 | bn vs=>cases vs with
  | nil=>rfl
  | cons _ _=>simp[lh] at h
 | bool c=>simp[lh] at h
 | _=>simp[lh] at h
theorem ao.Y3 {v:Value} (h:ao P w I β hp v (.bn [])):v= .tuple #[]:=by
 cases h with
 | @bn cs _ hs _=>
  have:cs= #[]:=by
   apply Array.eq_empty_of_size_eq_zero
   simpa using hs
  rw[this]
theorem ao.OR:ao P w I β hp Go.undef (.bn []):= .bn (by rfl) (fun j v x _ hx=>by simp at hx)
theorem OS (hC:kQ P A C) (hP:iK P A) {ops:Array Oper} {n i nb:Nat} {o:Oper} (ho:ops[i]? =some o) {a:Act} {st st':St} {R W:List Nat} (S:aF P w I β st.hp B M w0) (hA:iL P A.idle A.aE w I β n a st)
  (h:gH P A C n ops i o nb st=some (st',R,W)) {K:Act→World→Prop} {Q:Exit→Act→World→Prop}
  (hK: ∀a' w' I' β',Le P w I β st.hp w' I' β' st'.hp→aF P w' I' β' st'.hp B M w0→iL P A.idle A.aE w' I' β' n a' st'→K a' w'):wpOp P ops Q i K a w:=by
 unfold gH at h
 cases hd:rH o n with
 | false=>rw[hd] at h;cases h
 | true=>
  rw[hd] at h
  simp only[cond_true] at h
  have go: ∀{Iy:St} {R W:List Nat},(((fk P A st.sl i (nb+64*i) o).run C st.hp).bind fun r=>some ((⟨hO st.sl o.dst r.1.v,bL st.hp r.1.upd,st.nb⟩:St),qd r.2 r.1.upd,fD st.hp r.1.upd))=some (Iy,R,W)→Iy=st'→
    o.wp P a w K Q:=by
   intro Iy R W h e
   obtain ⟨⟨r,rd⟩,h1,U⟩:=bind_some h
   cases U
   subst e
   exact YZ hC hP S hA.aE hA.sl h1 K Q fun v w' I' β' ds k1 k2 k3 k4=>hK _ w' I' β' k1 k2 (Ix hA k1 hd k3 k4)
  unfold wpOp
  rw[ho]
  simp only
  cases hg:o.guard with
  | none=>
   rw[hg] at h
   simp only[Region.wanted,hg,cI]
   exact .inl (go h rfl)
  | some gw=>
   obtain ⟨g,want⟩:=gw
   rw[hg] at h
   simp only at h
   cases lH:(ops[g]?).bind (·.dst) with
   | none=>rw[lH] at h;cases h
   | some d=>
    rw[lH] at h
    simp only at h
    cases mn:lh (st.sl d) with
    | none=>rw[mn] at h;cases h
    | some ob=>
    rw[mn] at h
    cases ob with
    | none=>
     have ph:=Y2 mn
     have hy:yielded ops a.tmps g=none:=by
      unfold yielded
      rw[lH]
      have:=hA.sl d
      rw[ph] at this
      have hu:=ao.Y3 this
      simp only[Option.bind_some]
      cases ht:a.tmps[d]? with
      | none=>rfl
      | some v=>simp[ht] at hu;subst hu;rfl
     simp only[Region.wanted,hg,hy]
     injection h with h
     injection h with h3 h4
     subst h3
     have U:((none:Option Bool)==some want)=false:=rfl
     simp only[U,yJ,fg]
     exact hK _ w I β (Le.refl w I β st.hp) S (Ix (ds:=a.defers) hA (Le.refl w I β st.hp) hd ao.OR fun d h=> .inl h)
    | some b=>
    simp only at h
    have ph:=Y1 mn
    have hy:yielded ops a.tmps g=some b:=by
     unfold yielded
     rw[lH]
     simp only[Option.bind_some,OQ hA ph]
    simp only[Region.wanted,hg,hy]
    by_cases hb:b=want
    ·subst hb
     simp only[sX,cond_true] at h
     simp only[sX,cI]
     exact .inl (go h rfl)
    ·have h1:(b==want)=false:=by simp[hb]
     have U:(some b==some want)=false:=by simp[hb]
     rw[h1] at h
     simp only[cond_false] at h
     injection h with h
     injection h with h3 h4
     subst h3
     simp only[U,yJ,fg]
     exact hK _ w I β (Le.refl w I β st.hp) S (Ix (ds:=a.defers) hA (Le.refl w I β st.hp) hd ao.OR fun d h=> .inl h)
def tR (hp hp':Nat→Option an) (c:Nat):Prop:=hp' c=hp c∧(KB≤c→fS (hp' (c-KB))=fS (hp (c-KB)))
theorem tR.symm {c:Nat} (h:tR hp hp' c):tR hp' hp c:=⟨h.1.symm,fun hc=>(h.2 hc).symm⟩
theorem rZ {α:Type}: ∀{p:Rd α} {r:α} {rd:List Nat},p.run C hp=some (r,rd)→(∀id∈rd,tR hp hp' id)→p.run C hp'=some (r,rd)
 | .ret a,r,rd,h,_=>h
 | .fail,r,rd,h,_=>by cases h
 | .get id k,r,rd,h,he=>by
  obtain ⟨x,h1,U⟩:=bind_some h
  cases U
  have e1:hp' id=hp id:=(he id (by simp)).1
  have:=rZ (p:=k (hp id)) (r:=x.1) (rd:=x.2) h1 (fun i hi=>he i (by simp[hi]))
  simp only[Rd.run,e1,this,Option.bind_some]
 | .live id ok k,r,rd,h,he=>by
  simp only[Rd.run] at h⊢
  cases hk:ok (fS (hp id)) with
  | false=>rw[hk] at h;cases h
  | true=>
   rw[hk] at h
   obtain ⟨x,h1,U⟩:=bind_some h
   cases U
   have e1:fS (hp' id)=fS (hp id):=by
    have:=(he (id+KB) (by simp)).2 (Nat.le_add_left _ _)
    rwa [vg] at this
   have:=rZ (p:=k) (r:=x.1) (rd:=x.2) h1 (fun i hi=>he i (by simp[hi]))
   rw[e1,hk,this]
   rfl
 | .opt o k,r,rd,h,he=>by
  obtain ⟨x,h1,U⟩:=bind_some h
  simp only[Rd.run,h1,Option.bind_some]
  exact rZ U he
 | .aC b k,r,rd,h,he=>by
  obtain ⟨h1,U⟩:=aG h
  simp only[Rd.run,h1,cond_true]
  exact rZ U he
 | .call key ds k,r,rd,h,he=>by
  obtain ⟨x,h1,U⟩:=bind_some h
  simp only[Rd.run,h1,Option.bind_some]
  exact rZ U he
 | .alt true x y,r,rd,h,he=>rZ (p:=x) h he
 | .alt false x y,r,rd,h,he=>rZ (p:=y) h he
theorem Y4 {G:Nat→V} {sl sl':Nat→V} {t:TypeId} {x:Operand} (h: ∀k,x= .tmp k→sl k=sl' k):aN P G t sl x=aN P G t sl' x:=by
 cases x with
 | tmp k=>exact h k rfl
 | _=>rfl
theorem Y5 {sl sl':Nat→V} {ix nb:Nat} {o:Oper} (h: ∀x∈o.op.operands,∀k,x= .tmp k→sl k=sl' k):fk P A sl ix nb o=fk P A sl' ix nb o:=by
 have eM: ∀t x,x∈o.op.operands→aN P A.aE t sl x=aN P A.aE t sl' x:=fun t x hx=>Y4 (h x hx)
 obtain ⟨dst,op,ty,pos,after,guard⟩:=o
 have OT: ∀(t:TypeId) (ps:Array (Nat × Operand)),(∀x∈ps.map (·.2),aN P A.aE t sl x=aN P A.aE t sl' x)→
   (ps.toList.map fun p=>(p.1,aN P A.aE t sl p.2))=ps.toList.map fun p=>(p.1,aN P A.aE t sl' p.2):=fun t ps hp=>
  ru fun p hm=>by rw[hp p.2 (Array.mem_map.2 ⟨p,oY.1 hm,rfl⟩)]
 have Y6: ∀(t:TypeId) (ps:Array (Nat × Operand)),(∀x∈ps.map (·.2),aN P A.aE t sl x=aN P A.aE t sl' x)→
   (ps.toList.map fun p=>(aN P A.aE t sl p.2).cells)=ps.toList.map fun p=>(aN P A.aE t sl' p.2).cells:=fun t ps hp=>
  ru fun p hm=>by rw[hp p.2 (Array.mem_map.2 ⟨p,oY.1 hm,rfl⟩)]
 cases op<;>simp only[Op.operands] at eM<;>simp only[fk]
 case pick c x y=>rw[eM ty c (by simp),eM ty x (by simp),eM ty y (by simp)]
 case build t ps=>rw[OT ty ps fun x hx=>eM ty x (by simpa using hx),Y6 ty ps fun x hx=>eM ty x (by simpa using hx)]
 case buildSlice t len ps=>
  split
  ·rename_i e _
   rw[OT e ps fun x hx=>eM e x (by simpa using hx)]
  ·rfl
 case slice t x lo hi mx=>
  cases mx with
  | some m=>
   have e1:lo.map (aN P A.aE 0 sl)=lo.map (aN P A.aE 0 sl'):=by
    cases lo with
    | none=>rfl
    | some l=>simp only[Option.map_some,eM 0 l (by simp)]
   have e2:hi.map (aN P A.aE 0 sl)=hi.map (aN P A.aE 0 sl'):=by
    cases hi with
    | none=>rfl
    | some l=>simp only[Option.map_some,eM 0 l (by simp)]
   have e3:=eM 0 m (by simp)
   simp only[eM ty x (by simp),e1,e2,e3]
  | none=>
   have e1:lo.map (aN P A.aE 0 sl)=lo.map (aN P A.aE 0 sl'):=by
    cases lo with
    | none=>rfl
    | some l=>simp only[Option.map_some,eM 0 l (by simp)]
   have e2:hi.map (aN P A.aE 0 sl)=hi.map (aN P A.aE 0 sl'):=by
    cases hi with
    | none=>rfl
    | some l=>simp only[Option.map_some,eM 0 l (by simp)]
   simp only[eM ty x (by simp),e1,e2]
 case call c=>
  obtain ⟨callee,args,argTypes⟩:=c
  have tS: ∀t x,x∈args→aN P A.aE t sl x=aN P A.aE t sl' x:=fun t x hx=>eM t x (by simp[Call.operands,hx])
  have hl: ∀t (l:List Operand),(∀x∈l,x∈args)→l.map (aN P A.aE t sl)=l.map (aN P A.aE t sl'):=fun t l hl=>ru fun x hx=>tS t x (hl x hx)
  have hz:((args.toList.zip argTypes.toList).map fun p=>aN P A.aE p.2 sl p.1)=(args.toList.zip argTypes.toList).map fun p=>aN P A.aE p.2 sl' p.1:=
   ru fun p hp=>tS p.2 p.1 (oY.1 (List.of_mem_zip hp).1)
  cases callee with
  | invoke r m=>rfl
  | builtin b=>
   have cf: ∀x∈args.toList,∀t,aN P A.aE t sl x=aN P A.aE t sl' x:=fun x hx t=>tS t x (oY.1 hx)
   have Iz: ∀t (l:List Operand),(∀x∈l,∀t,aN P A.aE t sl x=aN P A.aE t sl' x)→l.map (aN P A.aE t sl)=l.map (aN P A.aE t sl'):=fun t l h=>ru fun x hx=>h x hx t
   cases b<;>first|rfl|skip
   case append=>
    dsimp only
    generalize args.toList=al at cf
    match al,cf,argTypes.toList with
    | [s,x],cf,[t,u]=>simp only[cf s (by simp),cf x (by simp)]
    | [],_,_=>rfl
    | [_],_,_=>rfl
    | _::_::_::_,_,_=>rfl
    | [_,_],_,[]=>rfl
    | [_,_],_,[_]=>rfl
    | [_,_],_,_::_::_::_=>rfl
   case copy=>
    dsimp only
    generalize args.toList=al at cf
    match al,cf,argTypes.toList with
    | [s,x],cf,[t,u]=>simp only[cf s (by simp),cf x (by simp)]
    | [],_,_=>rfl
    | [_],_,_=>rfl
    | _::_::_::_,_,_=>rfl
    | [_,_],_,[]=>rfl
    | [_,_],_,[_]=>rfl
    | [_,_],_,_::_::_::_=>rfl
   case len=>
    dsimp only
    generalize args.toList=al at cf
    match al,cf,argTypes.toList with
    | [x],cf,[t]=>simp only[cf x (by simp)]
    | [],_,_=>rfl
    | _::_::_,_,_=>rfl
    | [_],_,[]=>rfl
    | [_],_,_::_::_=>rfl
   case clear=>
    dsimp only
    generalize args.toList=al at cf
    match al,cf,argTypes.toList with
    | [x],cf,[t]=>simp only[cf x (by simp)]
    | [],_,_=>rfl
    | _::_::_,_,_=>rfl
    | [_],_,[]=>rfl
    | [_],_,_::_::_=>rfl
   case unsafeSliceData=>
    dsimp only
    generalize args.toList=al at cf
    match al,cf with
    | [],_=>rfl
    | [x],cf=>simp only[cf x (by simp)]
    | _::_::_,_=>rfl
   case unsafeString=>
    dsimp only
    generalize args.toList=al at cf
    match al,cf,argTypes.toList with
    | [s,x],cf,[t,u]=>simp only[cf s (by simp),cf x (by simp)]
    | [],_,_=>rfl
    | [_],_,_=>rfl
    | _::_::_::_,_,_=>rfl
    | [_,_],_,[]=>rfl
    | [_,_],_,[_]=>rfl
    | [_,_],_,_::_::_::_=>rfl
   case max=>
    dsimp only
    generalize args.toList=al at cf
    match al,cf with
    | [],_=>rfl
    | x::l,cf=>simp only[cf x (by simp),Iz ty l (fun y hy=>cf y (by simp[hy]))]
   case min=>
    dsimp only
    generalize args.toList=al at cf
    match al,cf with
    | [],_=>rfl
    | x::l,cf=>simp only[cf x (by simp),Iz ty l (fun y hy=>cf y (by simp[hy]))]
  | value f=>
   cases f<;>first|rfl|skip
   ·rename_i t
    have ht:sl t=sl' t:=h (.tmp t) (by simp[Op.operands,Call.operands]) t rfl
    simp only[hz,ht]
   ·simp only[hz]
    cases hx:args.toList with
    | nil=>rfl
    | cons x l=>
     cases l with
     | cons _ _=>rfl
     | nil=>simp only[tS ty x (oY.1 (by rw[hx];simp))]
 case defer c=>
  obtain ⟨callee,args,argTypes⟩:=c
  cases callee with
  | invoke r m=>rfl
  | builtin b=>rfl
  | value f=>
   cases f<;>first|rfl|skip
   rename_i t
   have ht:sl t=sl' t:=h (.tmp t) (by simp[Op.operands,Call.operands]) t rfl
   simp only[ht]
 case makeFunc fn a b=>
  cases fn<;>first|rfl|skip
  have e1:a.toList.map (aN P A.aE ty sl)=a.toList.map (aN P A.aE ty sl'):=ru fun x hx=>eM ty x (by simp[oY.1 hx])
  have e2:b.toList.map (aN P A.aE ty sl)=b.toList.map (aN P A.aE ty sl'):=ru fun x hx=>eM ty x (by simp[oY.1 hx])
  dsimp only
  rw[e1,e2]
 case makeMap t r=>cases r<;>rfl
 all_goals first
  | rfl
  | (simp[eM];done)
end
section
variable {P:Program} {A:cB} {w w':World} {I I' I2:Nat→Prop} {μ β β':Nat→Option Nat} {hp hp':Nat→Option an} {C:ag} {B:Nat} {M:Nat→Prop} {w0:Start}
theorem IA {q:Nat × an} {upd:List (Nat × an)} (h:q∈upd):q.1∈fD hp upd:=by
 unfold fD
 rw[List.mem_flatMap]
 refine ⟨q,h,?_⟩
 cases Nat.beq (fS (hp q.1)) (fS (some q.2))<;>simp
theorem Y7 {upd:List (Nat × an)} (h: ∀q∈upd,fS (hp' q.1)=fS (hp q.1)):fD hp' upd=fD hp upd:=by
 unfold fD
 induction upd with
 | nil=>rfl
 | cons q l ih=>
  rw[lf,lf,ih fun x hx=>h x (ld _ hx),h q (by simp)]
theorem OU {c:Nat}: ∀{upd:List (Nat × an)},c∉fD hp upd→tR hp (bL hp upd) c:=fun {upd} h=>by
 refine ⟨wg fun q hq e=>h (e▸IA hq),fun hc=> ?_⟩
 induction upd with
 | nil=>rfl
 | cons q l ih=>
  have hl:c∉fD hp l:=fun hx=>h (by unfold fD at*;rw[lf];exact List.mem_append_right _ hx)
  have hq:fS (hp q.1)=fS (some q.2)∨c≠q.1+KB:=by
   cases hb:Nat.beq (fS (hp q.1)) (fS (some q.2)) with
   | true=>exact .inl (yA hb)
   | false=>
    refine .inr fun e=>h ?_
    unfold fD
    rw[lf,hb,e]
    simp
  show fS (aI (bL hp l) q.1 (some q.2) (c-KB))=_
  simp only[aI]
  cases hb:Nat.beq (c-KB) q.1 with
  | false=>exact ih hl
  | true=>
   have e:=yA hb
   rcases hq with hq|hq
   ·rw[cond_true,e];exact hq.symm
   ·exact absurd (by omega) hq
theorem OV {n i nb:Nat} {ops:Array Oper} {o:Oper} {st st':St} {R W:List Nat} (h:gH P A C n ops i o nb st=some (st',R,W)):
  ∃x upd,st'=⟨hO st.sl o.dst x,bL st.hp upd,st.nb⟩∧W=fD st.hp upd∧∀dW:St,(∀d∈o.looksAt ops,dW.sl d=st.sl d)→(∀id∈R,tR st.hp dW.hp id)→
   gH P A C n ops i o nb dW=some (⟨hO dW.sl o.dst x,bL dW.hp upd,dW.nb⟩,R,W)∧W=fD dW.hp upd:=by
 unfold gH at h
 cases hd:rH o n with
 | false=>rw[hd] at h;cases h
 | true=>
  rw[hd] at h
  simp only[cond_true] at h
  have go:(((fk P A st.sl i (nb+64*i) o).run C st.hp).bind fun r=>some ((⟨hO st.sl o.dst r.1.v,bL st.hp r.1.upd,st.nb⟩:St),qd r.2 r.1.upd,fD st.hp r.1.upd))=some (st',R,W)→
    ∃x upd,st'=⟨hO st.sl o.dst x,bL st.hp upd,st.nb⟩∧W=fD st.hp upd∧∀dW:St,(∀d∈o.looksAt ops,dW.sl d=st.sl d)→(∀id∈R,tR st.hp dW.hp id)→
     (((fk P A dW.sl i (nb+64*i) o).run C dW.hp).bind fun r=>some ((⟨hO dW.sl o.dst r.1.v,bL dW.hp r.1.upd,dW.nb⟩:St),qd r.2 r.1.upd,fD dW.hp r.1.upd))=some (⟨hO dW.sl o.dst x,bL dW.hp upd,dW.nb⟩,R,W)∧W=fD dW.hp upd:=by
   intro h
   obtain ⟨⟨r,rd⟩,h1,U⟩:=bind_some h
   cases U
   refine ⟨r.v,r.upd,rfl,rfl,fun dW hs hh=> ?_⟩
   have hw:fD dW.hp r.upd=fD st.hp r.upd:=Y7 fun q hq=>by
    have:=(hh (q.1+KB) (List.mem_append_right _ (gh.2 ⟨q,hq,rfl⟩))).2 (Nat.le_add_left _ _)
    rwa [vg] at this
   rw[Y5 (sl':=st.sl) fun x hx k hk=> ?_,rZ h1 fun c hc=>hh c (List.mem_append_left _ hc)]
   ·refine ⟨?_,hw.symm⟩
    rw[Option.bind_some,hw]
   ·subst hk
    exact hs k (List.mem_append_left _ (List.mem_filterMap.2 ⟨.tmp k,by simpa using hx,rfl⟩))
  cases hg:o.guard with
  | none=>
   rw[hg] at h
   obtain ⟨x,upd,e1,e2,e3⟩:=go h
   refine ⟨x,upd,e1,e2,fun dW hs hh=> ?_⟩
   unfold gH
   simp only[hd,cond_true,hg]
   exact e3 dW hs hh
  | some gw=>
   obtain ⟨g,want⟩:=gw
   rw[hg] at h
   simp only at h
   cases lH:(ops[g]?).bind (·.dst) with
   | none=>rw[lH] at h;cases h
   | some d=>
    rw[lH] at h
    simp only at h
    have IB:d∈o.looksAt ops:=List.mem_append_right _ (by rw[hg];simp[lH])
    cases mn:lh (st.sl d) with
    | none=>rw[mn] at h;cases h
    | some ob=>
    rw[mn] at h
    cases ob with
    | none=>
     injection h with h
     injection h with h3 h4
     injection h4 with h5 h6
     subst h5;subst h6
     refine ⟨.bn [],[],h3.symm,rfl,fun dW hs hh=> ?_⟩
     unfold gH
     simp only[hd,cond_true,hg,lH,hs d IB,mn]
     exact ⟨rfl,rfl⟩
    | some b=>
    simp only at h
    cases hb:b==want with
    | true=>
     rw[hb] at h
     obtain ⟨x,upd,e1,e2,e3⟩:=go h
     refine ⟨x,upd,e1,e2,fun dW hs hh=> ?_⟩
     unfold gH
     simp only[hd,cond_true,hg,lH,hs d IB,mn,hb]
     exact e3 dW hs hh
    | false=>
     rw[hb] at h
     simp only[cond_false] at h
     injection h with h
     injection h with h3 h4
     injection h4 with h5 h6
     subst h5;subst h6
     refine ⟨.bn [],[],h3.symm,rfl,fun dW hs hh=> ?_⟩
     unfold gH
     simp only[hd,cond_true,hg,lH,hs d IB,mn,hb,cond_false]
     exact ⟨rfl,rfl⟩
theorem OW {sl:Nat→V} {d:Option Nat} {x:V} {k:Nat} (h:d≠some k):hO sl d x k=sl k:=by
 cases d with
 | none=>rfl
 | some d=>exact eh _ _ fun e=>h (by rw[e])
theorem Y8 {hp:Nat→Option an} {a b:List (Nat × an)} (h: ∀q∈a,∀q'∈b,q.1≠q'.1):bL (bL hp a) b=bL (bL hp b) a:=by
 funext id
 by_cases ha: ∃q∈a,q.1=id
 ·have hb: ∀q∈b,q.1≠id:=by
   obtain ⟨q,hq,rfl⟩:=ha
   exact fun q' zY e=>h q hq q' zY e.symm
  rw[wg hb]
  obtain ⟨q,hq,rfl⟩:=ha
  have same: ∀(bt gJ:Nat→Option an) (l:List (Nat × an)) (q:Nat × an),q∈l→bL bt l q.1=bL gJ l q.1:=by
   intro bt gJ l
   induction l with
   | nil=>intro q hq;simp at hq
   | cons p l ih=>
    intro q hq
    simp only[bL,aI]
    cases hb:Nat.beq q.1 p.1 with
    | true=>rfl
    | false=>
     simp only[cond_false]
     refine ih q ((di.1 hq).resolve_left fun e=> ?_)
     rw[e,jn] at hb;cases hb
  exact same _ _ a q hq
 ·rw[wg (hp:=bL hp b) (l:=a) fun q hq e=>ha ⟨q,hq,e⟩]
  have same: ∀(bt gJ:Nat→Option an) (l:List (Nat × an)),bt id=gJ id→bL bt l id=bL gJ l id:=by
   intro bt gJ l he
   induction l with
   | nil=>exact he
   | cons p l ih=>
    simp only[bL,aI]
    cases hb:Nat.beq id p.1 with
    | true=>rfl
    | false=>exact ih
  exact same _ _ b (wg fun q hq e=>ha ⟨q,hq,e⟩)
structure OX (ops:Array Oper) (o1 o2:Oper) (R1 W1 R2 W2:List Nat):Prop where
 apart:Oper.apart ops o1 o2=true
 w: ∀id∈W1,id∉R2∧id∉W2
 r: ∀id∈R1,id∉W2
theorem Y9 {n i j nb:Nat} {ops:Array Oper} {o1 o2:Oper} {st iM dW:St} {R1 W1 R2 W2:List Nat} (h1:gH P A C n ops i o1 nb st=some (iM,R1,W1)) (U:gH P A C n ops j o2 nb iM=some (dW,R2,W2))
  (hi:OX ops o1 o2 R1 W1 R2 W2): ∃D1,gH P A C n ops j o2 nb st=some (D1,R2,W2)∧gH P A C n ops i o1 nb D1=some (dW,R1,W1):=by
 obtain ⟨x1,u1,e1,f1,g1⟩:=OV h1
 obtain ⟨x2,u2,e2,f2,g2⟩:=OV U
 obtain ⟨a1,a2,a3⟩:=Oper.apart_spec hi.apart
 subst e1
 have k2:=g2 st (fun d hd=>by simp only;rw[OW fun e=>a1 d e hd]) fun c hc=>(OU fun hw=>(hi.w c (by rw[f1];exact hw)).1 hc).symm
 refine ⟨_,k2.1,?_⟩
 rw[(g1 _ (fun d hd=> ?_) (fun c hd=> ?_)).1,e2]
 ·congr 3
  ·funext k
   cases D2:o1.dst with
   | none=>rfl
   | some d1=>
    cases iE:o2.dst with
    | none=>rfl
    | some d2=>
     have bC:d2≠d1:=fun e=>a2 d1 D2 (by rw[iE,e])
     simp only[hO,aI]
     cases OY:Nat.beq k d1<;>cases mo:Nat.beq k d2<;>simp only[cond_true,cond_false]
     rw[aR] at OY mo
     exact absurd (mo.symm.trans OY) bC
  ·exact (Y8 fun q hq q' zY e=>(hi.w q.1 (by rw[f1];exact IA hq)).2 (by rw[f2,e];exact IA zY)).symm
 ·simp only
  rw[OW fun e=>a3 d e hd]
 ·exact OU fun hw=>hi.r c hd (by rw[k2.2];exact hw)
def wj (P:Program) (A:cB) (C:ag) (n:Nat) (ops:Array Oper) (nb:Nat):List (Nat × Oper × List Nat × List Nat)→St→St→Prop
 | [],st,st'=>st=st'
 | (i,o,R,W)::l,st,st'=> ∃iM,gH P A C n ops i o nb st=some (iM,R,W)∧wj P A C n ops nb l iM st'
def tT (x:Nat × Oper × List Nat × List Nat):Nat × List Nat × List Nat:=(x.1,x.2.2.1,x.2.2.2)
theorem OZ {n nb:Nat} {ops:Array Oper}: ∀{l:List (Nat × Oper)} {st st':St} {log D3:Log},pb P A C n ops nb l st log=some (st',D3)→
  ∃g,g.map (fun x=>(x.1,x.2.1))=l∧D3=log++g.map tT∧wj P A C n ops nb g st st'
 | [],st,st',log,D3,h=>by
  cases h
  exact ⟨[],rfl,by simp,rfl⟩
 | (i,o)::l,st,st',log,D3,h=>by
  obtain ⟨⟨iM,R,W⟩,h1,U⟩:=bind_some h
  obtain ⟨g,a,b,c⟩:=OZ U
  exact ⟨(i,o,R,W)::g,by simp[a],by simp[b,tT],iM,h1,c⟩
def O0 (ops:Array Oper) (x y:Nat × Oper × List Nat × List Nat):Prop:=OX ops x.2.1 y.2.1 x.2.2.1 x.2.2.2 y.2.2.1 y.2.2.2
theorem O1 {n nb:Nat} {ops:Array Oper} {y:Nat × Oper × List Nat × List Nat} {g2:List (Nat × Oper × List Nat × List Nat)}: ∀{g1:List (Nat × Oper × List Nat × List Nat)} {st st':St},
  wj P A C n ops nb (g1++y::g2) st st'→(∀x∈g1,O0 ops x y)→∃iM,gH P A C n ops y.1 y.2.1 nb st=some (iM,y.2.2.1,y.2.2.2)∧wj P A C n ops nb (g1++g2) iM st'
 | [],st,st',h,_=>h
 | x::g1,st,st',h,hi=>by
  obtain ⟨iM,h1,U⟩:=h
  obtain ⟨dW,h3,h4⟩:=O1 U fun z hz=>hi z (ld _ hz)
  obtain ⟨D1,h5,h6⟩:=Y9 h1 h3 (hi x (by simp))
  exact ⟨D1,h5,dW,h6,h4⟩
theorem O2 (hC:kQ P A C) (hP:iK P A) {n nb:Nat} {ops:Array Oper} {Q:Exit→Act→World→Prop}: ∀{g:List (Nat × Oper × List Nat × List Nat)} {st st':St} {a:Act} {w:World} {I:Nat→Prop} {β:Nat→Option Nat},
  wj P A C n ops nb g st st'→(∀x∈g,ops[x.1]? =some x.2.1)→aF P w I β st.hp B M w0→iL P A.idle A.aE w I β n a st→
  (∀a' w' I' β',Le P w I β st.hp w' I' β' st'.hp→aF P w' I' β' st'.hp B M w0→iL P A.idle A.aE w' I' β' n a' st'→Q .normal a' w')→wpOps P ops Q (g.map (·.1)) a w
 | [],st,st',a,w,I,β,h,_,S,hA,hQ=>by
  cases h
  exact hQ a w I β (Le.refl w I β _) S hA
 | x::g,st,st',a,w,I,β,h,ho,S,hA,hQ=>by
  obtain ⟨iM,h1,U⟩:=h
  rw[cz,wpOps_cons]
  refine OS hC hP (ho x (by simp)) S hA h1 fun a' w' I' β' k1 k2 k3=> ?_
  exact O2 hC hP U (fun y hy=>ho y (ld _ hy)) k2 k3 fun a2 w2 I2 b6 m1 m2 m3=>hQ a2 w2 I2 b6 (k1.trans m1) m2 m3
end
section
variable {P:Program} {A:cB} {w w':World} {I I' I2:Nat→Prop} {μ β β':Nat→Option Nat} {hp hp':Nat→Option an} {C:ag} {B:Nat} {M:Nat→Prop} {w0:Start}
inductive tU (ops:Array Oper):Nat→Nat→Prop
 | O3 {i x:Nat} {o:Oper} {e:Edge}:ops[i]? =some o→e∈o.after→Region.binds .any e=true→e.on=x→tU ops i x
 | trans {i x:Nat} {o:Oper} {e:Edge}:ops[i]? =some o→e∈o.after→Region.binds .any e=true→tU ops e.on x→tU ops i x
theorem O4 {acc:Array Nat} {x:Nat}: ∀{l:List Edge} {s:Nat},(l.foldl (fun s e=>if Region.binds .any e then s|||2^e.on|||acc.getD e.on 0 else s) s).testBit x=true→
  s.testBit x=true∨∃e∈l,Region.binds .any e=true∧(e.on=x∨(acc.getD e.on 0).testBit x=true)
 | [],s,h=> .inl h
 | e::l,s,h=>by
  simp only[List.foldl_cons] at h
  rcases O4 h with h1|⟨e',a,b⟩
  ·by_cases hb:Region.binds .any e=true
   ·rw[aj hb,Nat.testBit_or,Nat.testBit_or,Bool.or_eq_true,Bool.or_eq_true] at h1
    rcases h1 with (h1|h1)|h1
    ·exact .inl h1
    ·rw[Nat.testBit_two_pow] at h1
     exact .inr ⟨e,by simp,hb,.inl (by simpa using h1)⟩
    ·exact .inr ⟨e,by simp,hb,.inr h1⟩
   ·rw[ai hb] at h1
    exact .inl h1
  ·exact .inr ⟨e',ld _ a,b⟩
theorem O5 {ops:Array Oper} {x:Nat}: ∀{l:List Oper} {acc:Array Nat},(∀j o,l[j]? =some o→ops[acc.size+j]? =some o)→(∀j,(acc.getD j 0).testBit x=true→tU ops j x)→
  ∀j,((l.foldl (fun acc o=>acc.push (o.after.foldl (fun s e=>if Region.binds .any e then s|||2^e.on|||acc.getD e.on 0 else s) 0)) acc).getD j 0).testBit x=true→tU ops j x
 | [],acc,_,D4,j,h=>D4 j h
 | o::l,acc,hl,D4,j,h=>by
  simp only[List.foldl_cons] at h
  refine O5 (l:=l) ?_ ?_ j h
  ·intro j o' hj
   have:=hl (j+1) o' (by simpa using hj)
   rw[Array.size_push]
   rwa [show acc.size+1+j=acc.size+(j+1) by omega]
  ·intro k hk
   simp only[vh,Array.getElem?_push] at hk
   by_cases aU:k=acc.size
   ·rw[aj aU] at hk
    simp only[Option.getD_some] at hk
    rw[←Cq] at hk
    have ho:=hl 0 o rfl
    rw[Nat.add_zero] at ho
    rw[aU]
    have mo:(o.after.toList.foldl (fun s e=>if Region.binds .any e then s|||2^e.on|||acc.getD e.on 0 else s) 0).testBit x=true:=by simpa[vh] using hk
    rcases O4 mo with h0|⟨e,he,hb,h1⟩
    ·simp at h0
    ·rcases h1 with h1|h1
     ·exact .O3 ho (oY.1 he) hb h1
     ·exact .trans ho (oY.1 he) hb (D4 _ h1)
   ·rw[ai aU] at hk
    exact D4 k (by simpa[vh] using hk)
theorem Za {ops:Array Oper} {i x:Nat} (h:((Region.before ops).getD i 0).testBit x=true):tU ops i x:=by
 unfold Region.before at h
 rw[←Cq] at h
 refine O5 (l:=ops.toList) (acc:= #[]) (fun j o hj=>by simpa using hj) (fun j hj=>by simp at hj) i h
def O6 (ops:Array Oper) (fH:Array Bool):Prop:= ∀i o,ops[i]? =some o→fH.getD i false=true→∀e∈o.after,Region.binds .any e=true→fH.getD e.on false=true
theorem Zb {ops:Array Oper} {fH:Array Bool} (hc:O6 ops fH) {i x:Nat} (h:tU ops i x) (hi: ∀o,ops[i]? =some o→∀e∈o.after,Region.binds .any e=true→fH.getD e.on false=true):fH.getD x false=true:=by
 induction h with
 | O3 ho he hb hx=>rw[←hx];exact hi _ ho _ he hb
 | trans ho he hb _ ih=>exact ih fun o' jd e' gN aB=>hc _ o' jd (hi _ ho _ he hb) e' gN aB
theorem O7: ∀{l:List Oper} {k j:Nat} {o:Oper},y9 k l=true→l[j]? =some o→∀e∈o.after,Region.binds .any e=true→e.on<k+j
 | [],k,j,o,_,h=>by simp at h
 | o'::l,k,j,o,hk,h=>by
  simp only[y9,aK] at hk
  cases j with
  | zero=>
   simp at h
   subst h
   intro e he hb
   have:=fh.1 hk.1 e (oY.2 he)
   simp[hb] at this
   omega
  | succ j=>
   intro e he hb
   have:=O7 hk.2 (j:=j) (by simpa using h) e he hb
   omega
theorem O8 {ops:Array Oper} {td:Array Nat}: ∀{l:Log},CV ops td l=true→l.Pairwise fun x y=>y8 ops td x y=true
 | [],_=> .nil
 | x::l,h=>by
  simp only[CV,aK] at h
  exact .cons (fun y hy=>fh.1 h.1 y hy) (O8 h.2)
theorem O9 {fH:Array Bool} {i:Nat} (h:fH.getD i true=false):i<fH.size∧fH.getD i false=false:=by
 rcases oW i fH.size with h'|h'
 ·refine ⟨h',?_⟩
  simpa[h'] using h
 ·simp[Array.getElem?_eq_none h'] at h
theorem Pb (hC:kQ P A C) (hP:iK P A) {n nb:Nat} {ops:Array Oper} {Q:Exit→Act→World→Prop} (D5:y9 0 ops.toList=true):
  ∀(fuel:Nat) {g:List (Nat × Oper × List Nat × List Nat)} {fH:Array Bool} {st st':St} {a:Act} {w:World} {I:Nat→Prop} {β:Nat→Option Nat},
  g.length=fuel→wj P A C n ops nb g st st'→(∀x∈g,ops[x.1]? =some x.2.1)→(g.map (·.1)).Pairwise (· < ·)→(g.map tT).Pairwise (fun x y=>y8 ops (Region.before ops) x y=true)→
  fH.size=ops.size→(∀i,i<ops.size→(fH.getD i false=false↔i∈g.map (·.1)))→O6 ops fH→
  aF P w I β st.hp B M w0→iL P A.idle A.aE w I β n a st→
  (∀a' w' I' β',Le P w I β st.hp w' I' β' st'.hp→aF P w' I' β' st'.hp B M w0→iL P A.idle A.aE w' I' β' n a' st'→Q .normal a' w')→wpAny P .any ops Q fuel fH a w
 | 0,g,fH,st,st',a,w,I,β,hf,hr,ho,aO,D6,aX,tV,kO,S,hA,hQ=>by
  obtain rfl:g=[]:=lb hf
  cases hr
  refine ⟨?_,hQ a w I β (Le.refl w I β _) S hA⟩
  rw[List.eq_nil_iff_forall_not_mem]
  intro i hi
  obtain ⟨h0,_⟩:=mem_ready.1 hi
  obtain ⟨h1,U⟩:=O9 h0
  have:=(tV i (by omega)).1 U
  simp at this
 | fuel+1,g,fH,st,st',a,w,I,β,hf,hr,ho,aO,D6,aX,tV,kO,S,hA,hQ=>by
  refine ⟨fun z0=> ?_,fun i hi=> ?_⟩
  ·exfalso
   cases g with
   | nil=>simp at hf
   | cons x g=>
    have hx:=ho x (by simp)
    have gm:x.1<ops.size:=(gZ.1 hx).1
    have lB:x.1∈Region.ready .any ops fH:=by
     rw[mem_ready]
     have h0:=(tV x.1 gm).2 (by simp)
     refine ⟨?_,x.2.1,hx,fun e he hb=> ?_⟩
     ·have hl:x.1<fH.size:=by omega
      simpa[hl] using h0
     ·have HS:=O7 D5 (j:=x.1) (by simpa using hx) e he hb
      rw[gE] at HS
      cases hle:fH.getD e.on false with
      | true=>rfl
      | false=>
       have hm:=(tV e.on (by omega)).1 hle
       simp only[cz,di] at hm
       rw[cz,sY] at aO
       rcases hm with hm|hm
       ·omega
       ·have:=aO.1 _ hm;omega
    rw[z0] at lB
    cases lB
  ·obtain ⟨h0,oi,z6,Pc⟩:=mem_ready.1 hi
   obtain ⟨h1,U⟩:=O9 h0
   have Zc:=(tV i (by omega)).1 U
   obtain ⟨y,hy,Zd⟩:=gh.1 Zc
   obtain ⟨g1,g2,rfl⟩:=List.append_of_mem hy
   subst Zd
   have Pd:=ho y hy
   rw[z6] at Pd
   have Pe:oi=y.2.1:=c6 Pd
   have ka:((g1++y::g2).map (·.1)).Nodup:=aO.imp fun h=>Nat.ne_of_lt h
   have Ze: ∀x∈g1,O0 ops x y:=by
    intro x hx
    have hp:y8 ops (Region.before ops) (tT x) (tT y)=true:=by
     rw[eQ,cz,List.pairwise_append] at D6
     exact D6.2.2 _ (gh.2 ⟨x,hx,rfl⟩) _ (by simp)
    have IC:=ho x (ez.2 (.inl hx))
    unfold y8 at hp
    rw[Bool.or_eq_true] at hp
    rcases hp with hp|hp
    ·have hl:=Zb kO (Za hp) fun o jd e he hb=>by
      have:o=oi:=by
       have h3:ops[y.1]? =some o:=jd
       rw[z6] at h3
       exact (c6 h3).symm
      subst this
      exact Pc e he hb
     have gm:x.1<ops.size:=(gZ.1 IC).1
     have:=(tV x.1 gm).2 (gh.2 ⟨x,ez.2 (.inl hx),rfl⟩)
     rw[show (tT x).1=x.1 from rfl,this] at hl
     cases hl
    ·simp only[tT,vh,IC,z6,Option.getD_some,aK,mL] at hp
     obtain ⟨q1,q2,q3⟩:=hp
     refine ⟨Pe▸q1,fun id ab=> ?_,fun id ab=>DU q3 ab⟩
     have:=DU q2 ab
     rw[ez] at this
     exact ⟨fun h=>this (.inl h),fun h=>this (.inr h)⟩
   obtain ⟨iM,iC,ng⟩:=O1 hr Ze
   rw[←Pe] at iC
   refine OS hC hP z6 S hA iC fun a' w' I' β' k1 k2 k3=> ?_
   have j6:List.Sublist (g1++g2) (g1++y::g2):=List.Sublist.append_left (List.sublist_cons_self y g2) g1
   have tf: ∀j,j≠y.1→(fH.setIfInBounds y.1 true).getD j false=fH.getD j false:=fun j hj=>getD_set_ne false (Ne.symm hj)
   refine Pb hC hP D5 fuel (g:=g1++g2) (st':=st') ?_ ng (fun x hx=>ho x (j6.subset hx)) (aO.sublist (j6.map _)) (D6.sublist (j6.map _)) (by simp[aX]) (fun j hj=> ?_) (fun j o ID cd e he hb=> ?_) k2 k3 fun a2 w2 I2 b6 m1 m2 m3=>hQ a2 w2 I2 b6 (k1.trans m1) m2 m3
   ·simp at hf⊢;omega
   ·by_cases pk:j=y.1
    ·subst pk
     have hl:y.1<fH.size:=by omega
     simp only[vh,GM hl,Option.getD_some]
     refine ⟨fun h=>(by cases h),fun h=> ?_⟩
     exfalso
     rw[eQ,cz,Cu,List.nodup_cons] at ka
     rw[eQ,ez] at h
     rcases h with h|h
     ·exact ka.2.2 _ h _ (by simp) rfl
     ·exact ka.2.1.1 h
    ·rw[tf j pk,tV j hj]
     simp only[eQ,cz,ez,di]
     constructor
     ·rintro (h|h|h)
      ·exact .inl h
      ·exact absurd h pk
      ·exact .inr h
     ·rintro (h|h)
      ·exact .inl h
      ·exact .inr (.inr h)
   ·by_cases pk:j=y.1
    ·subst pk
     rw[z6] at ID
     cases ID
     exact getD_set_true (Pc e he hb)
    ·rw[tf j pk] at cd
     exact getD_set_true (kO j o ID cd e he hb)
end
section
variable {P:Program} {A:cB} {w w':World} {I I' I2:Nat→Prop} {μ β β':Nat→Option Nat} {hp hp':Nat→Option an} {C:ag} {B:Nat} {M:Nat→Prop} {w0:Start}
theorem Pf: ∀{l:List Oper} {k j:Nat},(nZ k l)[j]? =(l[j]?).map fun o=>(k+j,o)
 | [],k,j=>by simp[nZ]
 | o::l,k,0=>by simp[nZ]
 | o::l,k,j+1=>by
  simp only[nZ,List.getElem?_cons_succ,Pf]
  congr 1
  funext o
  rw[show k+1+j=k+(j+1) by omega]
theorem Pg: ∀{l:List Oper} {k:Nat},(nZ k l).map (·.1)=List.range' k l.length
 | [],k=>rfl
 | o::l,k=>by simp[nZ,Pg,List.range'_succ]
theorem Zf (hC:kQ P A C) (hP:iK P A) (hm:P.follows .mixedOrders=true) {n id:Nat} {ops:Array Oper} {draw:Bool} {st st':St} {a:Act} {Q:Exit→Act→World→Prop}
  (h:zb P A C n ops draw st=some st') (S:aF P w I β st.hp B M w0) (hA:iL P A.idle A.aE w I β n a st)
  (hQ: ∀a' w' I' β',Le P w I β st.hp w' I' β' st'.hp→aF P w' I' β' st'.hp B M w0→iL P A.idle A.aE w' I' β' n a' st'→Q .normal a' w'):(Code.region id ops draw).wp P Q a w:=by
 obtain ⟨⟨iM,log⟩,h1,U⟩:=bind_some h
 obtain ⟨g,g1,g2,g3⟩:=OZ h1
 have D7:g.map (·.1)=List.range ops.size:=by
  have:g.map (·.1)=(g.map fun x=>(x.1,x.2.1)).map (·.1):=by simp
  rw[this,g1,Pg,List.range_eq_range']
  simp
 have Ph: ∀x∈g,ops[x.1]? =some x.2.1:=by
  intro x hx
  have:(x.1,x.2.1)∈nZ 0 ops.toList:=by rw[←g1];exact gh.2 ⟨x,hx,rfl⟩
  obtain ⟨j,hj⟩:=List.mem_iff_getElem?.1 this
  rw[Pf] at hj
  cases ho:ops.toList[j]? with
  | none=>rw[ho] at hj;cases hj
  | some o=>
   rw[ho] at hj
   simp only[Option.map_some,gE,dR,jR] at hj
   rw[←hj.1,←hj.2]
   simpa using ho
 cases draw with
 | false=>
  simp only[sZ,Bool.true_or,cond_true] at U
  cases U
  refine wp_region ?_
  rw[←D7]
  exact O2 hC hP g3 Ph S hA hQ
 | true=>
  simp only[pW,Bool.false_or] at U
  cases hc:(Region.noSelect ops&&za ops log) with
  | false=>rw[hc] at U;cases U
  | true=>
   rw[hc] at U
   cases U
   simp only[aK,za] at hc
   obtain ⟨hns,D5,Zg⟩:=hc
   simp only[List.nil_append] at g2
   refine wp_region_any hm ?_
   have hlen:g.length=ops.size:=by
    have:=congrArg List.length D7
    simpa using this
   refine Pb hC hP D5 ops.size (g:=g) (st':=st') hlen g3 Ph (by rw[D7];exact List.pairwise_lt_range) (by rw[←g2];exact O8 Zg) (by simp) (fun i hi=> ?_) (fun i o ho hl=> ?_)
    (w:=w.drew) S.drew ⟨fun k=>(hA.sl k).mono (Le.drew w I β _),hA.size,hA.defers,hA.aE.mono (Le.drew (P:=P) w I β st.hp).db (Le.drew (P:=P) w I β st.hp).cb⟩ fun a' w' I' β' k1 k2 k3=>hQ a' w' I' β' ((Le.drew w I β _).trans k1) k2 k3
   ·rw[D7]
    simp[hi]
   ·have hi:=(gZ.1 ho).1
    simp[hi] at hl
end
section
variable {P:Program} {A:cB} {E:FuncId→Bool} {G:Nat→V} {w w':World} {I I' I2:Nat→Prop} {μ β β':Nat→Option Nat} {hp hp':Nat→Option an} {C:ag} {B:Nat} {M:Nat→Prop} {w0:Start}
theorem tW: ∀{l:List Nat} {hp:Nat→Option an} {I:Nat→Prop},aF P w I β hp B M w0→∃I',Le P w I β hp w I' β (tc hp l)∧aF P w I' β (tc hp l) B M w0
 | [],hp,I,S=>⟨I,Le.refl w I β hp,S⟩
 | id::l,hp,I,S=>by
  simp only[tc]
  cases ab:hp id with
  | none=>exact tW S
  | some blk=>
   cases blk with
   | dead=>exact tW S
   | var _=>exact tW S
   | map _ _=>exact tW S
   | arr e es fz=>
    obtain ⟨h1,U⟩:=zl S (upd:=[(id,.arr e es true)]) (fun p hp=>by
     simp only[en] at hp
     subst hp
     exact ⟨e,es,rfl,.inl ⟨fz,ab⟩⟩)
    obtain ⟨I',h3,h4⟩:=tW (l:=l) U
    exact ⟨I',h1.trans h3,h4⟩
   | nest e es ar=>
    obtain ⟨h1,U⟩:=zl S (upd:=[(id,.arr e es true)]) (fun p hp=>by
     simp only[en] at hp
     subst hp
     exact ⟨e,es,rfl,.inr ⟨ar,ab⟩⟩)
    obtain ⟨I',h3,h4⟩:=tW (l:=l) U
    exact ⟨I',h1.trans h3,h4⟩
theorem Pj {n m:Nat} {pur:List Nat} {a:Act} {st:St} (S:aF P w I β st.hp B M w0) (hA:iL P E G w I β n a st):
  ∃I',Le P w I β st.hp w I' β (freeze m pur st).hp∧aF P w I' β (freeze m pur st).hp B M w0∧iL P E G w I' β n a (freeze m pur st):=by
 obtain ⟨I',h1,U⟩:=tW (l:=(MI st pur).filter fun id=>Nat.ble m id) S
 exact ⟨I',h1,U,fun k=>(hA.sl k).mono h1,hA.size,hA.defers,hA.aE.mono h1.db h1.cb⟩
structure wk (hp:Nat→Option an) (β:Nat→Option Nat) (ord:List Nat) (hp':Nat→Option an) (β':Nat→Option Nat):Prop where
 arr: ∀(j:Nat) id e es fz,ord[j]? =some id→hp id=some (.arr e es fz)→hp' j=some (.arr e es fz)
 var: ∀(j:Nat) id T cs,ord[j]? =some id→hp id=some (.var T cs)→∃ij,hp' j=some (.var T ij)
 dead: ∀(j:Nat) id,ord[j]? =some id→hp id=some .dead→hp' j=some .dead
 place: ∀(j:Nat) id,ord[j]? =some id→β' j=β id
 nest: ∀(j:Nat) id e es ar,ord[j]? =some id→hp id=some (.nest e es ar)→hp' j=some (.nest e es (ar.map fun _=>0))
 map: ∀(j:Nat) id t es,ord[j]? =some id→hp id=some (.map t es)→hp' j=some (.map t es)
theorem lI: ∀{l:List Nat} {n i j:Nat},hU l n i=some j→∃k,j=i+k∧l[k]? =some n
 | [],n,i,j,h=>by cases h
 | a::l,n,i,j,h=>by
  simp only[hU] at h
  cases hb:Nat.beq n a with
  | true=>
   rw[hb] at h
   cases h
   rw[aR] at hb
   exact ⟨0,rfl,by rw[hb];rfl⟩
  | false=>
   rw[hb] at h
   obtain ⟨k,h1,U⟩:=lI h
   exact ⟨k+1,by omega,by simpa using U⟩
def kR (hp':Nat→Option an) (β':Nat→Option Nat) (n:Nat) (bs:List an):Prop:=
 ∀(k:Nat) b,bs[k]? =some b→hp' (n+k)=some b∧β' (n+k)=none
theorem IE: ∀(ar:List Nat) (k:Nat),bB (ar.map fun _=>0) k=0
 | [],_=>rfl
 | _::_,0=>rfl
 | _::vs,k+1=>IE vs k
theorem Pk {e:TypeId} {es:List V} {ar:List Nat} {path:Path} {ver:Nat} (hc:(Nat.blt 0 path.length&&(Nat.ble path.length ar.length&&Nat.beq (bB ar (path.length-1)) ver))=true)
  (h:(an.nest e es ar).th path ver):False:=by
 simp only[aK,jQ,dx,aR] at hc
 obtain ⟨h1,U,h3⟩:=hc
 rcases h with h|h|h
 ·subst h;simp at h1
 ·omega
 ·omega
theorem Pl (S:aF P w I β hp B M w0) {ord:List Nat} (hR:wk hp β ord hp' β') {v:Value} {x:V} (hv:ao P w I β hp v x):ao P w I β' hp' v (hX hp ord x):=by
 cases hv with
 | undef=>exact .undef
 | int=>exact .int
 | bool=>exact .bool
 | str h=>exact .str h
 | list h=>exact .list h
 | nilS=>exact .nilS
 | agg=>exact .undef
 | bn=>exact .undef
 | dk=>exact .dk
 | fn=>exact .undef
 | pref a b c=>exact .pref a b c
 | @ef _ e id ab=>
  simp only[hX]
  cases bt:hU ord id 0 with
  | none=>simp only[ab];exact .undef
  | some j=>
   obtain ⟨k,rfl,hk⟩:=lI bt
   exact .ef (hR.dead _ id (by simpa using hk) ab)
 | @fT _ e id off len ab=>
  simp only[hX]
  cases bt:hU ord id 0 with
  | none=>simp only[ab];exact .undef
  | some j=>
   obtain ⟨k,rfl,hk⟩:=lI bt
   exact .fT (hR.dead _ id (by simpa using hk) ab)
 | @jY _ id i c ab=>
  simp only[hX]
  cases bt:hU ord id 0 with
  | none=>exact .undef
  | some j=>
   obtain ⟨k,rfl,hk⟩:=lI bt
   exact .jY (hR.dead _ id (by simpa using hk) ab)
 | @dF e id fz _ ab hb=>
  simp only[hX]
  cases bt:hU ord id 0 with
  | none=>
   simp only[ab]
   cases fz with
   | false=>exact .undef
   | true=>simp only[jn,cond_true];exact .list (.any fun _=>rfl)
  | some j=>
   obtain ⟨k,rfl,hk⟩:=lI bt
   have cZ:ord[0+k]? =some id:=by simpa using hk
   exact .dF (hR.arr _ id _ _ _ cZ ab) ((hR.place _ id cZ).trans hb)
 | @whole e id es fz b cap ab hb aX b9 hm=>
  simp only[hX]
  cases bt:hU ord id 0 with
  | none=>
   simp only[ab]
   cases fz with
   | false=>exact .undef
   | true=>
    simp only[jn,cond_true]
    have hr:=S.h.rel id _ ab
    cases hr with
    | dG aB=>rw[aB] at hb;cases hb
    | arr au aB hh hs hf eg hx=>
     rw[hb] at aB;cases aB
     have:=tn (I':=I) (off:=0) (len:=es.length) (o:=0) hh hx (fp au) (by omega) b9 (fun _=>by simp) (fun _ h=>h) (hf rfl)
     exact .list (by simpa using this)
  | some j=>
   obtain ⟨k,rfl,hk⟩:=lI bt
   have cZ:ord[0+k]? =some id:=by simpa using hk
   exact .whole (hR.arr _ id _ _ _ cZ ab) ((hR.place _ id cZ).trans hb) aX b9 hm
 | @fF e id fz _ ab hb=>
  simp only[hX]
  cases bt:hU ord id 0 with
  | none=>
   simp only[ab]
   cases fz with
   | false=>exact .undef
   | true=>simp only[jn,cond_true];exact .list (by simpa using (iB.any (P:=P) fun _=>rfl))
  | some j=>
   obtain ⟨k,rfl,hk⟩:=lI bt
   have cZ:ord[0+k]? =some id:=by simpa using hk
   exact .fF (hR.arr _ id _ _ _ cZ ab) ((hR.place _ id cZ).trans hb)
 | @sub e id off len es fz b o cap ab hb kJ b9 ho=>
  simp only[hX]
  cases bt:hU ord id 0 with
  | none=>
   simp only[ab]
   cases fz with
   | false=>exact .undef
   | true=>
    simp only[jn,cond_true]
    have hr:=S.h.rel id _ ab
    cases hr with
    | dG aB=>rw[aB] at hb;cases hb
    | arr au aB hh hs hf eg hx=>
     rw[hb] at aB;cases aB
     exact .list (tn (I':=I) hh hx (fp au) kJ b9 ho (fun _ h=>h) (hf rfl))
  | some j=>
   obtain ⟨k,rfl,hk⟩:=lI bt
   have cZ:ord[0+k]? =some id:=by simpa using hk
   exact .sub (hR.arr _ id _ _ _ cZ ab) ((hR.place _ id cZ).trans hb) kJ b9 ho
 | @ptr id i c b blk ab hd hb=>
  simp only[hX]
  cases bt:hU ord id 0 with
  | none=>exact .undef
  | some j=>
   obtain ⟨k,rfl,hk⟩:=lI bt
   have cZ:ord[0+k]? =some id:=by simpa using hk
   cases blk with
   | dead=>exact absurd rfl hd
   | var T0 cs=>
    obtain ⟨ij,h'⟩:=hR.var _ id T0 cs cZ ab
    exact .ptr (blk:= .var T0 ij) h' (by simp) ((hR.place _ id cZ).trans hb)
   | arr e es fz=>exact .ptr (blk:= .arr e es fz) (hR.arr _ id _ _ _ cZ ab) (by simp) ((hR.place _ id cZ).trans hb)
   | nest e es ar=>exact .ptr (blk:= .nest e es (ar.map fun _=>0)) (hR.nest _ id _ _ _ cZ ab) (by simp) ((hR.place _ id cZ).trans hb)
   | map t es=>exact .ptr (blk:= .map t es) (hR.map _ id _ _ cZ ab) (by simp) ((hR.place _ id cZ).trans hb)
 | dy=>exact .dy
 | @ia _ t id ab=>
  simp only[hX]
  cases bt:hU ord id 0 with
  | none=>exact .undef
  | some j=>
   obtain ⟨k,rfl,hk⟩:=lI bt
   exact .ia (hR.dead _ id (by simpa using hk) ab)
 | @ct t id b es ab hb=>
  simp only[hX]
  cases bt:hU ord id 0 with
  | none=>exact .undef
  | some j=>
   obtain ⟨k,rfl,hk⟩:=lI bt
   have cZ:ord[0+k]? =some id:=by simpa using hk
   exact .ct (hR.map _ id _ _ cZ ab) ((hR.place _ id cZ).trans hb)
 | @er e id es ar b cap ab hb aX b9 hm=>
  simp only[hX]
  cases bt:hU ord id 0 with
  | none=>simp only[ab];exact .undef
  | some j=>
   obtain ⟨k,rfl,hk⟩:=lI bt
   have cZ:ord[0+k]? =some id:=by simpa using hk
   exact .er (hR.nest _ id _ _ _ cZ ab) ((hR.place _ id cZ).trans hb) aX b9 hm
 | @ju v e id ver path blk ab zj=>
  simp only[hX]
  split
  ·rename_i j e1 ch ar h1 U
   rw[ab] at U
   cases U
   cases hc:(Nat.blt 0 path.length&&(Nat.ble path.length ar.length&&Nat.beq (bB ar (path.length-1)) ver)) with
   | false=>exact .undef
   | true=>exact (Pk hc zj).elim
  ·exact .undef
 | @jv v id ver i c path blk ab zj=>
  simp only[hX]
  split
  ·rename_i j e1 ch ar h1 U
   rw[ab] at U
   cases U
   cases hc:(Nat.blt 0 path.length&&(Nat.ble path.length ar.length&&Nat.beq (bB ar (path.length-1)) ver)) with
   | false=>exact .undef
   | true=>exact (Pk hc zj).elim
  ·exact .undef
 | @row v e e0 t id ver b i c q es l ar ab hb hq hv ht hc=>
  simp only[hX]
  split
  ·rename_i j e1 ch tQ h1 U
   obtain ⟨k,rfl,hk⟩:=lI h1
   have cZ:ord[0+k]? =some id:=by simpa using hk
   cases hx:(Nat.blt 0 (q++[(i,c)]).length&&(Nat.ble (q++[(i,c)]).length tQ.length&&Nat.beq (bB tQ ((q++[(i,c)]).length-1)) ver)) with
   | false=>exact .undef
   | true=>exact .row (hR.nest _ id _ _ _ cZ ab) ((hR.place _ id cZ).trans hb) (by simpa using hq) (IE _ _) ht hc
  ·exact .undef
 | @cA e e0 t id ver b b1 len cap i0 c0 i c q es l ar ab hb hq hv ht jx hc=>
  simp only[hX]
  split
  ·rename_i j e1 ch tQ h1 U
   obtain ⟨k,rfl,hk⟩:=lI h1
   have cZ:ord[0+k]? =some id:=by simpa using hk
   cases hx:(Nat.blt 0 (q++[(i0,c0)]).length&&(Nat.ble (q++[(i0,c0)]).length tQ.length&&Nat.beq (bB tQ ((q++[(i0,c0)]).length-1)) ver)) with
   | false=>exact .undef
   | true=>exact .cA (hR.nest _ id _ _ _ cZ ab) ((hR.place _ id cZ).trans hb) (by simpa using hq) (IE _ _) ht jx hc
  ·exact .undef
theorem Pm (S:aF P w I β hp B M w0) {ord:List Nat} (hR:wk hp β ord hp' β') {vs:Array Value} {xs:List V} (h: ∀(j:Nat) v x,vs[j]? =some v→xs[j]? =some x→ao P w I β hp v x) (j:Nat) (v:Value) (y:V)
  (hv:vs[j]? =some v) (hy:(xs.map (hX hp ord))[j]? =some y):ao P w I β' hp' v y:=by
 rw[gF] at hy
 cases hx:xs[j]? with
 | none=>rw[hx] at hy;cases hy
 | some x=>rw[hx] at hy;cases hy;exact Pl S hR (h j v x hv hx)
theorem Pn (S:aF P w I β hp B M w0) {ord:List Nat} (hR:wk hp β ord hp' β') {n:Nat} {v:Value} {x:V} (hv:ao P w I β hp v x) (hF:kR hp' β' n (vz hp ord n x).2):
  ao P w I β' hp' v (vz hp ord n x).1:=by
 cases x with
 | nilS e=>
  obtain ⟨h1,U⟩:=hF 0 _ rfl
  cases hv with
  | nilS=>exact .dF h1 U
 | fn f a b=>
  cases hv with
  | fn q1 q2 q3 q4=>exact .fn (by simpa using q1) (Pm S hR q2) (by simpa using q3) (Pm S hR q4)
 | _=>exact Pl S hR hv
end
section
variable {P:Program} {A:cB} {w w':World} {I I' I2:Nat→Prop} {μ β β':Nat→Option Nat} {hp hp':Nat→Option an} {C:ag} {B:Nat} {M:Nat→Prop} {w0:Start}
theorem kR.left {n:Nat} {a b:List an} (h:kR hp' β' n (a++b)):kR hp' β' n a:=fun k x hx=>
 h k x (by rw[iu (bu.1 hx).1];exact hx)
theorem kR.right {n:Nat} {a b:List an} (h:kR hp' β' n (a++b)):kR hp' β' (n+a.length) b:=fun k x hx=>by
 have:=h (a.length+k) x (by rw[iv (by omega),Nat.add_sub_cancel_left];exact hx)
 rwa [←nP] at this
def mq (bs:List an):Prop:= ∀b∈bs,∃e,b= .arr e [] false
theorem mq.app {a b:List an} (h1:mq a) (U:mq b):mq (a++b):=fun x hx=>(ez.1 hx).elim (h1 x) (U x)
theorem mq.nil:mq []:=fun x hx=>by simp at hx
theorem Po {ord:List Nat} {n:Nat} {x:V}:mq (vz hp ord n x).2:=by
 cases x<;>simp only[vz]<;>first|exact .nil|skip
 intro b hb
 simp only[en] at hb
 exact ⟨_,hb⟩
theorem IF {ord:List Nat}: ∀{xs:List V} {n:Nat},mq (mU hp ord n xs).2
 | [],n=> .nil
 | x::xs,n=>by
  simp only[mU]
  exact Po.app IF
theorem D8 {ord:List Nat}: ∀{xs:List V} {n:Nat},(mU hp ord n xs).1.length=xs.length
 | [],n=>rfl
 | x::xs,n=>by simp only[mU,List.length_cons,D8]
theorem D9 (S:aF P w I β hp B M w0) {ord:List Nat} (hR:wk hp β ord hp' β'): ∀{xs:List V} {vs:List Value} {n:Nat},(∀(j:Nat) v x,vs[j]? =some v→xs[j]? =some x→ao P w I β hp v x)→
  kR hp' β' n (mU hp ord n xs).2→∀(j:Nat) v y,vs[j]? =some v→(mU hp ord n xs).1[j]? =some y→ao P w I β' hp' v y
 | [],vs,n,h,hF,j,v,y,hv,hy=>by simp[mU] at hy
 | x::xs,vs,n,h,hF,j,v,y,hv,hy=>by
  simp only[mU] at hF hy
  cases j with
  | zero=>
   simp at hy
   subst hy
   exact Pn S hR (h 0 v x hv rfl) hF.left
  | succ j=>
   cases vs with
   | nil=>simp at hv
   | cons v0 vs=>exact D9 S hR (vs:=vs) (fun j v x hj hx=>h (j+1) v x (by simpa using hj) (by simpa using hx)) hF.right j v y (by simpa using hv) (by simpa using hy)
theorem Zh {ord:List Nat} {n:Nat} {x:V}:mq (qb hp ord n x).2:=by
 cases x<;>simp only[qb]<;>first|exact Po|exact IF
theorem Zi (S:aF P w I β hp B M w0) {ord:List Nat} (hR:wk hp β ord hp' β') {n:Nat} {v:Value} {x:V} (hv:ao P w I β hp v x) (hF:kR hp' β' n (qb hp ord n x).2):
  ao P w I β' hp' v (qb hp ord n x).1:=by
 cases x with
 | agg cs=>
  obtain ⟨ds,rfl,h1,U⟩:=hv.kM
  simp only[qb] at hF⊢
  exact .agg (by rw[D8];exact h1) fun j v y hj hy=>D9 S hR (vs:=ds.toList) (fun j v x hj hx=>U j v x (by simpa using hj) hx) hF j v y (by simpa using hj) hy
 | bn cs=>
  obtain ⟨ds,rfl,h1,U⟩:=hv.tu
  simp only[qb] at hF⊢
  exact .bn (by rw[D8];exact h1) fun j v y hj hy=>D9 S hR (vs:=ds.toList) (fun j v x hj hx=>U j v x (by simpa using hj) hx) hF j v y (by simpa using hj) hy
 | _=>exact Pn S hR hv hF
theorem Pp {ord:List Nat} {sl:Nat→V}: ∀{l:List Nat} {n:Nat},mq (ln hp ord sl n l).2
 | [],n=> .nil
 | s::l,n=>by
  simp only[ln]
  exact Zh.app Pp
theorem Pq {ord:List Nat} {sl:Nat→V} {k:Nat} {y:V}: ∀{l:List Nat} {n:Nat},kR hp' β' n (ln hp ord sl n l).2→dE (ln hp ord sl n l).1 k=some y→
  ∃n',kR hp' β' n' (qb hp ord n' (sl k)).2∧y=(qb hp ord n' (sl k)).1
 | [],n,_,h=>by cases h
 | s::l,n,hF,h=>by
  simp only[ln] at hF h
  simp only[dE] at h
  cases hb:Nat.beq k s with
  | true=>
   rw[hb] at h
   rw[aR] at hb
   subst hb
   cases h
   exact ⟨n,hF.left,rfl⟩
  | false=>
   rw[hb] at h
   exact Pq hF.right h
theorem Zj {ord:List Nat} {n id:Nat}:mq (eJ hp ord n id).2:=by
 unfold eJ
 split
 ·exact IF
 ·exact .nil
 ·exact .nil
 ·exact .nil
 ·exact .nil
theorem Pr {ord:List Nat}: ∀{l:List Nat} {n:Nat},mq (fl hp ord n l).2
 | [],n=> .nil
 | s::l,n=>by
  simp only[fl]
  exact Zj.app Pr
theorem Ps {ord:List Nat}: ∀{l:List Nat} {n:Nat},(fl hp ord n l).1.length=l.length
 | [],n=>rfl
 | x::xs,n=>by simp only[fl,List.length_cons,Ps]
theorem Pt {ord:List Nat}: ∀{l:List Nat} {n j:Nat} {id:Nat},l[j]? =some id→∃n',(kR hp' β' n (fl hp ord n l).2→kR hp' β' n' (eJ hp ord n' id).2)∧(fl hp ord n l).1[j]? =some (eJ hp ord n' id).1
 | [],n,j,id,h=>by simp at h
 | s::l,n,j,id,h=>by
  simp only[fl]
  cases j with
  | zero=>
   simp at h
   subst h
   exact ⟨n,fun hF=>hF.left,rfl⟩
  | succ j=>
   obtain ⟨n',h1,U⟩:=Pt (n:=n+(eJ hp ord n s).2.length) (j:=j) (by simpa using h)
   exact ⟨n',fun hF=>h1 hF.right,by simpa using U⟩
theorem Ea: ∀{l acc:List Nat},∃t,ta hp acc l=acc++t∧(acc.Nodup→(acc++t).Nodup)
 | [],acc=>⟨[],by simp[ta],by simp⟩
 | id::l,acc=>by
  simp only[ta]
  cases hb:(jS acc id|| !(MH hp id)) with
  | true=>exact Ea
  | false=>
   obtain ⟨t,h1,U⟩:=Ea (l:=l) (acc:=acc++[id])
   refine ⟨id::t,by simp only[cond_false,h1,cq,List.singleton_append],fun hn=> ?_⟩
   have:acc++id::t=(acc++[id])++t:=by simp
   rw[this]
   refine U ?_
   rw[Cu]
   refine ⟨hn,by simp,fun a ha b aB=> ?_⟩
   simp only[en] at aB
   subst aB
   intro e
   subst e
   rw[vO ha] at hb
   cases hb
theorem Pu: ∀{n:Nat} {l:List Nat},∃t,grow hp n l=l++t∧(l.Nodup→(l++t).Nodup)
 | 0,l=>⟨[],by simp[grow],by simp⟩
 | n+1,l=>by
  simp only[grow]
  obtain ⟨t,h1,U⟩:=Ea (hp:=hp) (acc:=l) (l:=l.flatMap (G5 hp))
  rw[h1]
  obtain ⟨t',h3,h4⟩:=Pu (n:=n) (l:=l++t)
  exact ⟨t++t',by rw[h3,cq],fun hn=>by rw[←cq];exact h4 (U hn)⟩
theorem Zk {m:Nat} {live:List Nat} {st:St}: ∃t,G6 m live st=List.range m++t∧(List.range m++t).Nodup:=by
 unfold G6
 obtain ⟨t,h1,U⟩:=Ea (hp:=st.hp) (acc:=List.range m) (l:=live.flatMap fun s=>G4 (st.sl s))
 rw[h1]
 obtain ⟨t',h3,h4⟩:=Pu (hp:=st.hp) (n:=3) (l:=List.range m++t)
 exact ⟨t++t',by rw[h3,cq],by rw[←cq];exact h4 (U List.nodup_range)⟩
end
section
variable {P:Program} {A:cB} {E:FuncId→Bool} {G:Nat→V} {w w':World} {I I' I2:Nat→Prop} {μ β β':Nat→Option Nat} {hp hp' hp0:Nat→Option an} {C:ag} {B:Nat} {M:Nat→Prop} {w0:Start}
theorem Pv {n m:Nat} {ord live:List Nat} {a:Act} {st:St} (lu:ord.Nodup) (z7: ∀id,id<m→ord[id]? =some id∨∃p,ord[id]? =some p∧st.hp p=none) (S:aF P w I β st.hp B M w0) (hA:iL P E G w I β n a st) (hE:kP w0.w w0.I μ hp0 w I β st.hp) (hm: ∀id blk,hp0 id=some blk→id<m) (jg: ∀id e es ar,hp0 id=some (.nest e es ar)→∀k,bB ar k=0):
  ∃β',aF P w I β' (vA ord live st).hp B M w0∧iL P E G w I β' n a (vA ord live st)∧kP w0.w w0.I μ hp0 w I β' (vA ord live st).hp:=by
 have Zl:vA ord live st=mk (ln st.hp ord st.sl (ord.length+(fl st.hp ord ord.length ord).2.length) live).1
   ((fl st.hp ord ord.length ord).1++((fl st.hp ord ord.length ord).2++(ln st.hp ord st.sl (ord.length+(fl st.hp ord ord.length ord).2.length) live).2)):=by
  rfl
 rw[Zl]
 let hp':=js ((fl st.hp ord ord.length ord).1++((fl st.hp ord ord.length ord).2++(ln st.hp ord st.sl (ord.length+(fl st.hp ord ord.length ord).2.length) live).2))
 let β':Nat→Option Nat:=fun j=>if j<ord.length then (ord[j]?).bind β else none
 have hlen:(fl st.hp ord ord.length ord).1.length=ord.length:=Ps
 have iI: ∀j,j<ord.length→hp' j=(fl st.hp ord ord.length ord).1[j]? :=by
  intro j hj
  simp only[hp',gR]
  rw[iu (by omega)]
 have gQ: ∀k,hp' (ord.length+k)=((fl st.hp ord ord.length ord).2++(ln st.hp ord st.sl (ord.length+(fl st.hp ord ord.length ord).2.length) live).2)[k]? :=by
  intro k
  simp only[hp',gR]
  rw[iv (by omega),hlen,Nat.add_sub_cancel_left]
 have hF:kR hp' β' ord.length ((fl st.hp ord ord.length ord).2++(ln st.hp ord st.sl (ord.length+(fl st.hp ord ord.length ord).2.length) live).2):=by
  intro k b hb
  refine ⟨(gQ k).trans hb,?_⟩
  simp only[β']
  rw[ai (by omega)]
 have z0:mq ((fl st.hp ord ord.length ord).2++(ln st.hp ord st.sl (ord.length+(fl st.hp ord ord.length ord).2.length) live).2):=Pr.app Pp
 have ov: ∀(j:Nat) id,ord[j]? =some id→β' j=β id:=by
  intro j id hj
  simp only[β']
  rw[aj (bu.1 hj).1,hj]
  rfl
 have qG: ∀(j:Nat) id,ord[j]? =some id→∃n',kR hp' β' n' (eJ st.hp ord n' id).2∧hp' j=some (eJ st.hp ord n' id).1:=by
  intro j id hj
  obtain ⟨n',h1,U⟩:=Pt (hp:=st.hp) (hp':=hp') (β':=β') (ord:=ord) (n:=ord.length) hj
  exact ⟨n',h1 hF.left,(iI j (bu.1 hj).1).trans U⟩
 have hR:wk st.hp β ord hp' β':=by
  refine ⟨fun j id e es fz hj ab=> ?_,fun j id T cs hj ab=> ?_,fun j id hj ab=> ?_,ov,fun j id e es ar hj ab=> ?_,fun j id t es hj ab=> ?_⟩
  ·obtain ⟨n',_,U⟩:=qG j id hj
   rw[U];simp only[eJ,ab]
  ·obtain ⟨n',_,U⟩:=qG j id hj
   rw[U];simp only[eJ,ab];exact ⟨_,rfl⟩
  ·obtain ⟨n',_,U⟩:=qG j id hj
   rw[U];simp only[eJ,ab]
  ·obtain ⟨n',_,U⟩:=qG j id hj
   rw[U];simp only[eJ,ab]
  ·obtain ⟨n',_,U⟩:=qG j id hj
   rw[U];simp only[eJ,ab]
 have cls: ∀j blk',hp' j=some blk'→(∃id,ord[j]? =some id∧((blk'= .dead)∨∃blk,st.hp id=some blk∧blk≠ .dead∧∀o b,bw P w o blk' b→bw P w o blk b))∨(∃e,blk'= .arr e [] false∧β' j=none):=by
  intro j blk' hj
  rcases oW j ord.length with h|h
  ·have gl:=bO h
   obtain ⟨n',_,U⟩:=qG j _ gl
   rw[hj] at U
   refine .inl ⟨_,gl,?_⟩
   cases ab:st.hp ord[j] with
   | none=>left;simp only[eJ,ab] at U;exact c6 U
   | some blk=>
    cases blk with
    | dead=>left;simp only[eJ,ab] at U;exact c6 U
    | var T0 cs=>exact .inr ⟨_,rfl,by simp,fun o b h=>by simp only[eJ,ab] at U;rw[c6 U] at h;exact .root (by simp) (h.flat (by simp))⟩
    | arr e es fz=>exact .inr ⟨_,rfl,by simp,fun o b h=>by simp only[eJ,ab] at U;rw[c6 U] at h;exact .root (by simp) (h.flat (by simp))⟩
    | map t es=>exact .inr ⟨_,rfl,by simp,fun o b h=>by simp only[eJ,ab] at U;rw[c6 U] at h;exact .root (by simp) (h.flat (by simp))⟩
    | nest e es ar=>
     refine .inr ⟨_,rfl,by simp,fun o b h=> ?_⟩
     simp only[eJ,ab] at U
     rw[c6 U] at h
     cases h with
     | root _ h=>exact .root (by simp) h
     | row h1 U=>exact .row h1 U
  ·obtain ⟨k,rfl⟩: ∃k,j=ord.length+k:=⟨j-ord.length,by omega⟩
   rw[gQ] at hj
   obtain ⟨e,he⟩:=z0 _ (jo hj)
   exact .inr ⟨e,he,(hF k _ hj).2⟩
 refine ⟨β',⟨⟨fun j blk' hj=> ?_,fun j1 j2 b1 b2 b e1 e2 f1 f2=> ?_,fun j blk b e1 f1=> ?_,S.h.jw⟩,S.cb,S.size,S.new,S.io⟩,⟨fun k=> ?_,hA.size,hA.defers,hA.aE⟩,⟨hE.db,hE.cb,fun id blk ab=> ?_,fun id blk blk' b ab bD hd hb=> ?_⟩⟩
 ·change hp' j=some blk' at hj
  rcases oW j ord.length with h|h
  ·have gl:=bO h
   obtain ⟨n',Pw,U⟩:=qG j _ gl
   rw[hj] at U
   rw[ov j _ gl]
   cases ab:st.hp ord[j] with
   | none=>simp only[eJ,ab] at U;rw[c6 U];exact .dead
   | some blk=>
    have hr:=S.h.rel _ _ ab
    generalize β ord[j]=o at hr
    cases hr with
    | dead=>simp only[eJ,ab] at U;rw[c6 U];exact .dead
    | dG hb=>simp only[eJ,ab] at U;rw[c6 U];exact .dG hb
    | arr a1 a2 a3 a4 a5 a6 a7=>simp only[eJ,ab] at U;rw[c6 U];exact .arr a1 a2 a3 a4 a5 a6 a7
    | nest a1 a2 a3=>simp only[eJ,ab] at U;rw[c6 U];exact .nest a1 a2 a3
    | map a1 a2 a3 a4 a5 a6 a7=>simp only[eJ,ab] at U;rw[c6 U];exact .map a1 a2 a3 a4 a5 a6 a7
    | @var xs b Ca T hb hh hs cL hx fV=>
     simp only[eJ,ab] at U Pw
     rw[c6 U]
     exact .var hb hh (by rw[D8];exact hs) cL (fun i v y hi hy=>D9 S hR (vs:=Ca.toList) (fun i v x hi cw=>hx i v x (by simpa using hi) cw) Pw i v y (by simpa using hi) hy) fV
  ·rcases cls j blk' hj with ⟨id,ab,_⟩|⟨e,he,hb⟩
   ·have:=(bu.1 ab).1;omega
   ·rw[he];exact .dG hb
 ·rcases cls j1 b1 e1 with ⟨IG,o1,x1⟩|⟨e,_,hb⟩
  ·rcases cls j2 b2 e2 with ⟨cy,o2,x2⟩|⟨e,_,hb⟩
   ·obtain ⟨c1,y1,z1,g1⟩:=x1.resolve_left f1.alive
    obtain ⟨c2,y2,z2,g2⟩:=x2.resolve_left f2.alive
    rw[ov _ _ o1] at f1
    rw[ov _ _ o2] at f2
    have:=S.h.inj IG cy c1 c2 b y1 y2 (g1 _ _ f1) (g2 _ _ f2)
    subst this
    obtain ⟨q1,q2⟩:=bu.1 o1
    obtain ⟨q3,q4⟩:=bu.1 o2
    exact (List.getElem_inj lu).1 (q2.trans q4.symm)
   ·subst ‹b2=_›;have:=f2.flat (by simp);rw[hb] at this;cases this
  ·subst ‹b1=_›;have:=f1.flat (by simp);rw[hb] at this;cases this
 ·rcases cls j blk e1 with ⟨IG,o1,x1⟩|⟨e,_,hb⟩
  ·obtain ⟨c1,y1,z1,g1⟩:=x1.resolve_left f1.alive
   rw[ov _ _ o1] at f1
   exact S.h.own IG c1 b y1 (g1 _ _ f1)
  ·subst ‹blk=_›;have:=f1.flat (by simp);rw[hb] at this;cases this
 ·change ao P w I β' hp' (a.tmps.getD k undef) (ja _ k)
  unfold ja
  cases Ij:dE (ln st.hp ord st.sl (ord.length+(fl st.hp ord ord.length ord).2.length) live).1 k with
  | none=>exact .undef
  | some y=>
   obtain ⟨n',h1,U⟩:=Pq hF.right Ij
   simp only[Option.getD_some,U]
   exact Zi S hR (hA.sl k) h1
 ·obtain ⟨qC,k1,k2,k3⟩:=hE.blk id blk ab
  rcases z7 id (hm id blk ab) with ho|⟨p,ho,bt⟩
  ·cases qC with
   | dead=>exact ⟨.dead,hR.dead id id ho k1,k2,fun h=>absurd rfl h⟩
   | var T0 cs=>
    obtain ⟨ij,h'⟩:=hR.var id id T0 cs ho k1
    refine ⟨_,h',?_,fun _=>(ov id id ho).trans (k3 (by simp))⟩
    cases blk<;>simp_all [an.le]
   | arr e es fz=>exact ⟨_,hR.arr id id e es fz ho k1,k2,fun _=>(ov id id ho).trans (k3 (by simp))⟩
   | map t es=>exact ⟨_,hR.map id id t es ho k1,k2,fun _=>(ov id id ho).trans (k3 (by simp))⟩
   | nest e es ar=>
    refine ⟨_,hR.nest id id e es ar ho k1,?_,fun _=>(ov id id ho).trans (k3 (by simp))⟩
    obtain ⟨He,Wp,rfl,l1,l2,_⟩:=an.Hc k2
    exact ⟨rfl,l1,by simpa using l2,fun k=>by rw[jg id _ _ _ ab k];exact kC _⟩
  ·obtain ⟨n',_,U⟩:=qG id p ho
   simp only[eJ,bt] at U
   exact ⟨.dead,U,by cases blk<;>trivial,fun h=>absurd rfl h⟩
 ·obtain ⟨qC,k1,k2,k3⟩:=hE.blk id blk ab
  rcases z7 id (hm id blk ab) with ho|⟨p,ho,bt⟩
  ·refine hE.size id blk qC b ab k1 (fun qF=> ?_) hb
   subst qF
   have:=hR.dead id id ho k1
   change hp' id=some blk' at bD
   rw[this] at bD
   exact hd (c6 bD).symm
  ·obtain ⟨n',_,U⟩:=qG id p ho
   simp only[eJ,bt] at U
   change hp' id=some blk' at bD
   rw[U] at bD
   exact absurd (c6 bD).symm hd
theorem Zm {n m:Nat} {live:List Nat} {a:Act} {st:St} (S:aF P w I β st.hp B M w0) (hA:iL P E G w I β n a st) (hE:kP w0.w w0.I μ hp0 w I β st.hp) (hm: ∀id blk,hp0 id=some blk→id<m) (jg: ∀id e es ar,hp0 id=some (.nest e es ar)→∀k,bB ar k=0):
  ∃β',aF P w I β' (canon m live st).hp B M w0∧iL P E G w I β' n a (canon m live st)∧kP w0.w w0.I μ hp0 w I β' (canon m live st).hp:=by
 obtain ⟨t,z7,lu⟩:=Zk (m:=m) (live:=live) (st:=st)
 refine Pv (by rw[z7];exact lu) (fun id aO=> .inl ?_) S hA hE hm jg
 rw[z7,iu (by simpa using aO)]
 simp[aO]
theorem Px: ∀{l:List Nat},qc l=true→l.Nodup
 | [],_=> .nil
 | a::l,h=>by
  simp only[qc,aK,mL] at h
  rw[List.nodup_cons]
  exact ⟨fun hm=>Bool.noConfusion ((vO hm).symm.trans h.1),Px h.2⟩
theorem Zn {m:Nat} {mv:List Nat} {id:Nat} (h:id<m):(nY m mv)[id]? =some id∨(nY m mv)[id]? =some (m+id):=by
 unfold nY
 rw[iu (by simpa using h),gF]
 simp only[List.getElem?_range h,Option.map_some]
 cases jS mv id with
 | true=>exact .inr rfl
 | false=>exact .inl rfl
end
section
variable {P:Program} {A:cB} {w w':World} {I I' I2:Nat→Prop} {μ β β':Nat→Option Nat} {hp hp' hp0:Nat→Option an} {C:ag} {B:Nat} {M:Nat→Prop} {w0:Start}
theorem Eb (p:Nat→Prop) (h: ∃n,p n): ∃n,p n∧∀m,p m→n≤m:=by
 obtain ⟨n,hn⟩:=h
 induction n using Nat.strongRecOn with
 | _ n ih=>
  by_cases hx: ∃m,m<n∧p m
  ·obtain ⟨m,hm,hp⟩:=hx
   exact ih m hm hp
  ·exact ⟨n,hn,fun m hm=>Nat.le_of_not_lt fun aO=>hx ⟨m,aO,hm⟩⟩
open Classical in
theorem Zo {c:Code} {Q:Exit→Act→World→Prop} (J:Nat→Act→World→Prop) (h0: ∀a w,¬J 0 a w) (round: ∀n a w,J (n+1) a w→c.wp P (Exit.then (J n) Q) a w) {n:Nat} {a:Act} {w:World} (h:J n a w):
  (Code.loop c).wp P Q a w:=by
 refine wp_loop (fun a w=> ∃n,J n a w) (fun a w=>if h: ∃n,J n a w then (Eb _ h).choose else 0) ⟨n,h⟩ fun a w hJ=> ?_
 obtain ⟨h1,U⟩:=(Eb _ hJ).choose_spec
 generalize hk:(Eb _ hJ).choose=k at h1 U
 cases k with
 | zero=>exact absurd h1 (h0 a w)
 | succ k=>
  refine wp_mono (round k a w h1) fun e a' w' he=> ?_
  cases e with
  | normal=>
   have hex: ∃n,J n a' w':=⟨k,he⟩
   refine ⟨hex,?_⟩
   have h3:=(Eb _ hex).choose_spec.2 k he
   rw[rj hex,rj hJ,hk]
   omega
  | _=>exact he
def wm:Out→Exit
 | .norm=> .normal
 | .exit id=> .exit id
 | .ret=> .ret
def Inv (P:Program) (E:FuncId→Bool) (G:Nat→V) (B:Nat) (M:Nat→Prop) (w0:Start) (μ:Nat→Option Nat) (hp0:Nat→Option an) (n:Nat) (a:Act) (w:World) (st:St):Prop:=
 ∃I β,aF P w I β st.hp B M w0∧iL P E G w I β n a st∧kP w0.w w0.I μ hp0 w I β st.hp
theorem Inv.canon {E:FuncId→Bool} {G:Nat→V} {n m:Nat} {a:Act} {st:St} {live:List Nat} (h:Inv P E G B M w0 μ hp0 n a w st) (hm: ∀id blk,hp0 id=some blk→id<m) (jg: ∀id e es ar,hp0 id=some (.nest e es ar)→∀k,bB ar k=0):Inv P E G B M w0 μ hp0 n a w (canon m live st):=by
 obtain ⟨I,β,S,hA,hE⟩:=h
 obtain ⟨β',a,b,c⟩:=Zm (live:=live) S hA hE hm jg
 exact ⟨I,β',a,b,c⟩
theorem Ec: ∀{l:List BS} {ds:List V},(eC l ds).length=l.length
 | [],_=>rfl
 | b::l,ds=>by simp only[eC,List.length_cons,Ec]
theorem Inv.enter {A:cB} {E:FuncId→Bool} {G:Nat→V} {n f:Nat} {ds:List V} {a:Act} (ka:qc (nY (A.sin f).bc.length (A.mv f))=true) (h:Inv P E G B M w0 μ hp0 n a w (br (A.sin f) ds)) (hm: ∀id blk,hp0 id=some blk→id<(A.sin f).bc.length)
  (jg: ∀id e es ar,hp0 id=some (.nest e es ar)→∀k,bB ar k=0) (wo: ∀p,(A.sin f).bc.length≤p→(br (A.sin f) ds).hp p=none):Inv P E G B M w0 μ hp0 n a w (CX A f ds):=by
 unfold CX
 split
 ·exact h
 ·obtain ⟨I,β,S,hA,hE⟩:=h
  obtain ⟨β',x,y,z⟩:=Pv (m:=(A.sin f).bc.length) (ord:=nY (A.sin f).bc.length (A.mv f)) (live:=(A.sin f).bP.map (·.1)) (Px ka) (fun id ab=>(Zn ab).imp (fun h=>h) fun h=>⟨_,h,wo _ (by omega)⟩) S hA hE hm jg
  exact ⟨I,β',x,y,z⟩
theorem Inv.reshape {E:FuncId→Bool} {G:Nat→V} {n m:Nat} {a:Act} {st:St} {S:Shape} {ds:List V} (h:Inv P E G B M w0 μ hp0 n a w st) (hs:jt m S st=some ds) (hm: ∀id blk,hp0 id=some blk→id<m):Inv P E G B M w0 μ hp0 n a w (br S ds):=by
 obtain ⟨I,β,S1,hA,hE⟩:=h
 obtain ⟨r1,r2,_,r4⟩:=AM.reshape hs S1
 refine ⟨I,β,r1,⟨fun k=>r2 k _ (hA.sl k),hA.size,hA.defers,hA.aE⟩,⟨hE.db,hE.cb,fun id blk ab=> ?_,fun id blk blk' b ab bD hd hb=> ?_⟩⟩
 ·obtain ⟨qC,k1,k2,k3⟩:=hE.blk id blk ab
  obtain ⟨_,hle,_⟩:=Od hs
  have hl:=hm id blk ab
  obtain ⟨bZ,U⟩: ∃bZ,(br S ds).hp id=some bZ:=by
   simp only[br,mk,gR]
   exact ⟨_,bO (by rw[Ec];omega)⟩
  by_cases hd:bZ= .dead
  ·subst hd
   exact ⟨_,U,by cases blk<;>trivial,fun h=>absurd rfl h⟩
  ·obtain ⟨gI,e1,e2,_⟩:=r4 id bZ U hd
   rw[k1] at e1;cases e1
   exact ⟨_,U,an.le_trans k2 e2,fun _=>k3 (fun e=>hd (an.pc (e▸e2)))⟩
 ·obtain ⟨gI,e1,e2,_⟩:=r4 id blk' bD hd
  exact hE.size id blk gI b ab e1 (fun e=>hd (an.pc (e▸e2))) hb
theorem kQ.here (h:kQ P A C) (f:Nat) (id:Nat):kQ P (A.here f id) C:=by
 intro key ds es hh
 obtain ⟨fn,c,h1,U,h3⟩:=h key ds es hh
 refine ⟨fn,c,h1,U,fun w I μ vals a g b d=>(h3 w I μ vals a g b d).mono fun e w' hx=> ?_⟩
 obtain ⟨v,I2,b6,q1,q2⟩:=hx
 exact ⟨v,I2,b6,q1,⟨q2.wa,q2.le,q2.res⟩⟩
theorem Zp {a b:Out} (h:CW a b=true):a=b:=by
 cases a<;>cases b<;>simp[CW] at h<;>first|rfl|(subst h;rfl)
theorem Py {m:Nat} {r:Out × St}: ∀{l:List (Out × Shape)} {j:Nat} {e:Nat × List V},ways m j l r=some e→j≤e.1
 | [],j,e,h=>by cases h
 | (o,S)::l,j,e,h=>by
  simp only[ways] at h
  split at h
  ·cases h;exact bY _
  ·have:=Py h;omega
theorem IH {m:Nat} {o:Out} {s:St} {out:Out} {st':St}: ∀{l:List (Out × Shape)} {k:Nat} {e:Nat × List V},ways m k l (o,s)=some e→l7 k l e.1 e.2 (fun o st=>some (o,st))=some (out,st')→
  out=o∧∃S,jt m S s=some e.2∧st'=br S e.2
 | [],k,e,h,_=>by cases h
 | (o',S)::l,k,e,h,U=>by
  simp only[ways] at h
  split at h
  ·rename_i ds hx
   cases h
   cases ho:CW o' o with
   | false=>rw[ho] at hx;cases hx
   | true=>
    rw[ho] at hx
    have:=Zp ho
    subst this
    cases l with
    | nil=>
     simp only[l7,dR,jR] at U
     exact ⟨U.1.symm,S,hx,U.2.symm⟩
    | cons p l=>
     simp only[l7,jn,cond_true,dR,jR] at U
     exact ⟨U.1.symm,S,hx,U.2.symm⟩
  ·have pn:=Py h
   cases l with
   | nil=>cases h
   | cons p l=>
    have bC:Nat.beq e.1 k=false:=by
     cases hb:Nat.beq e.1 k with
     | false=>rfl
     | true=>rw[aR] at hb;omega
    simp only[l7,bC,cond_false] at U
    exact IH h U
theorem Zq (hC:kQ P A C) (hP:iK P A) (ni:P.follows .mixedOrders=true) {f n m:Nat} (hm: ∀id blk,hp0 id=some blk→id<m) (jg: ∀id e es ar,hp0 id=some (.nest e es ar)→∀k,bB ar k=0):
  ∀(c:Code) {st st':St} {out:Out} {Q:Exit→Act→World→Prop} {a:Act} {w:World},exec P A C f n m c st=some (out,st')→Inv P A.idle A.aE B M w0 μ hp0 n a w st→
   (∀a' w',Inv P A.idle A.aE B M w0 μ hp0 n a' w' st'→Q (wm out) a' w')→c.wp P Q a w:=by
 intro c
 induction c with
 | skip=>
  intro st st' out Q a w h hI hQ
  simp only[exec,dR,jR] at h
  obtain ⟨rfl,rfl⟩:=h
  exact wp_skip (hQ a w hI)
 | exit id=>
  intro st st' out Q a w h hI hQ
  simp only[exec,dR,jR] at h
  obtain ⟨rfl,rfl⟩:=h
  exact wp_exit (hQ a w hI)
 | ret=>
  intro st st' out Q a w h hI hQ
  simp only[exec,dR,jR] at h
  obtain ⟨rfl,rfl⟩:=h
  exact wp_ret (hQ a w hI)
 | region id ops draw=>
  intro st st' out Q a w h hI hQ
  simp only[exec] at h
  obtain ⟨iM,h1,U⟩:=bind_some h
  simp only[dR,jR] at U
  obtain ⟨rfl,rfl⟩:=U
  obtain ⟨I,β,S,hA,hE⟩:=hI
  refine Zf (hC.here f id) (hP.here f id) ni h1 S hA fun a' w' I' β' k1 k2 k3=> ?_
  obtain ⟨I2,l1,l2,l3⟩:=Pj (m:=m) (pur:=A.pur f id) k2 k3
  have Zr:=(hE.trans k1.DT).trans l1.DT
  exact hQ a' w' (Inv.canon ⟨I2,β',l2,l3,Zr⟩ hm jg)
 | seq x y iz iA=>
  intro st st' out Q a w h hI hQ
  simp only[exec] at h
  obtain ⟨⟨o1,iM⟩,h1,U⟩:=bind_some h
  refine wp_seq (iz h1 hI fun a' w' jC=> ?_)
  cases o1 with
  | norm=>exact iA U jC hQ
  | exit id=>
   simp only[dR,jR] at U
   obtain ⟨rfl,rfl⟩:=U
   exact hQ a' w' jC
  | ret=>
   simp only[dR,jR] at U
   obtain ⟨rfl,rfl⟩:=U
   exact hQ a' w' jC
 | cond c x y iz iA=>
  intro st st' out Q a w h hI hQ
  cases c with
  | tmp t=>
   have go: ∀{st st':St} {out:Out} {Q:Exit→Act→World→Prop} {a:Act} {w:World},(match st.sl t with
     | .bool b=>(bif b then exec P A C f n m x st else exec P A C f n m y st).bind fun r=>
      match r.1 with
      | .norm=>some (.norm,AM.canon m (A.join f t) r.2)
      | _=>some r
     | _=>none)=some (out,st')→Inv P A.idle A.aE B M w0 μ hp0 n a w st→(∀a' w',Inv P A.idle A.aE B M w0 μ hp0 n a' w' st'→Q (wm out) a' w')→(Code.cond (.tmp t) x y).wp P Q a w:=by
    intro st st' out Q a w h hI hQ
    cases hs:st.sl t<;>rw[hs] at h<;>simp only at h<;>first|(cases h;done)|skip
    rename_i b
    obtain ⟨⟨o1,iM⟩,h1,U⟩:=bind_some h
    obtain ⟨I,β,S,hA,hE⟩:=hI
    have eM:a.eval (.tmp t)= .bool b:=by
     have:=OQ hA hs
     simp[Act.eval,this]
    have fin: ∀a' w',Inv P A.idle A.aE B M w0 μ hp0 n a' w' iM→Q (wm o1) a' w':=by
     intro a' w' jC
     cases o1 with
     | norm=>
      simp only[dR,jR] at U
      obtain ⟨rfl,rfl⟩:=U
      exact hQ a' w' (jC.canon hm jg)
     | exit id=>
      simp only[dR,jR] at U
      obtain ⟨rfl,rfl⟩:=U
      exact hQ a' w' jC
     | ret=>
      simp only[dR,jR] at U
      obtain ⟨rfl,rfl⟩:=U
      exact hQ a' w' jC
    refine wp_cond eM ?_
    cases b with
    | true=>exact iz h1 ⟨I,β,S,hA,hE⟩ fin
    | false=>exact iA h1 ⟨I,β,S,hA,hE⟩ fin
   simp only[exec] at h
   split at h
   ·exact go h hI hQ
   ·obtain ⟨ds,h1,U⟩:=bind_some h
    obtain ⟨e,h3,h4⟩:=bind_some U
    obtain ⟨⟨o1,s1⟩,h5,h6⟩:=bind_some h3
    obtain ⟨rfl,S',k1,rfl⟩:=IH h6 h4
    exact go h5 (hI.reshape h1 hm) fun a' w' jC=>hQ a' w' (jC.reshape k1 hm)
  | const v=>
   cases v with
   | bool b=>
    simp only[exec] at h
    refine wp_cond (t:=b) rfl ?_
    cases b with
    | true=>exact iz h hI hQ
    | false=>exact iA h hI hQ
   | _=>simp only[exec] at h;cases h
  | _=>simp only[exec] at h;cases h
 | block id c ih=>
  intro st st' out Q a w h hI hQ
  simp only[exec] at h
  obtain ⟨⟨o1,iM⟩,h1,U⟩:=bind_some h
  refine wp_block (ih h1 hI fun a' w' jC=> ?_)
  cases o1 with
  | norm=>
   simp only[dR,jR] at U
   obtain ⟨rfl,rfl⟩:=U
   exact hQ a' w' (jC.canon hm jg)
  | exit aD=>
   simp only at U
   cases hb:Nat.beq aD id with
   | true=>
    rw[hb] at U
    simp only[cond_true,dR,jR] at U
    obtain ⟨rfl,rfl⟩:=U
    rw[aR] at hb
    simp only[wm,Exit.inBlock,hb,cI]
    exact hQ a' w' (jC.canon hm jg)
   | false=>
    rw[hb] at U
    simp only[cond_false,dR,jR] at U
    obtain ⟨rfl,rfl⟩:=U
    have bC:aD≠id:=fun e=>by rw[e,jn] at hb;cases hb
    simp only[wm,Exit.inBlock,bC,fg]
    exact hQ a' w' jC
  | ret=>
   simp only[dR,jR] at U
   obtain ⟨rfl,rfl⟩:=U
   exact hQ a' w' jC
 | loop c ih=>
  intro st st' out Q a w h hI hQ
  simp only[exec] at h
  split at h
  ·cases h
  ·rename_i S hS
   obtain ⟨ds,h1,U⟩:=bind_some h
   obtain ⟨e,h3,h4⟩:=bind_some U
   obtain ⟨k,hk⟩:=vj h3
   refine Zo (J:=fun k a w=> ∃ds,Inv P A.idle A.aE B M w0 μ hp0 n a w (br S.1 ds)∧fi (fun ds=>mV m S.1 S.2 (exec P A C f n m c (br S.1 ds))) k ds=some e) (fun a w ⟨s,_,h⟩=>by cases h) (fun k a w ⟨ds,hs,hk⟩=> ?_) ⟨ds,hI.reshape h1 hm,hk⟩
   simp only[fi] at hk
   obtain ⟨y,h5,h6⟩:=bind_some hk
   unfold mV at h5
   obtain ⟨⟨o1,s1⟩,h7,h8⟩:=bind_some h5
   refine ih h7 hs fun a' w' jC=> ?_
   have Pz: ∀{e':Nat × List V},ways m 0 S.2 (o1,s1)=some e'→e'=e→Q (wm o1) a' w':=by
    intro e' q1 q2
    subst q2
    obtain ⟨rfl,S',k1,rfl⟩:=IH q1 h4
    exact hQ a' w' (jC.reshape k1 hm)
   cases o1 with
   | norm=>
    obtain ⟨Zs,q1,q2⟩:=bind_some h8
    cases q2
    exact ⟨Zs,jC.reshape q1 hm,h6⟩
   | exit id=>
    obtain ⟨e',q1,q2⟩:=bind_some h8
    cases q2
    cases h6
    exact Pz q1 rfl
   | ret=>
    obtain ⟨e',q1,q2⟩:=bind_some h8
    cases q2
    cases h6
    exact Pz q1 rfl
 | _=>intro st st' out Q a w h;simp only[exec] at h;cases h
end
section
variable {P:Program} {A:cB} {w w':World} {I I' I2:Nat→Prop} {μ β β' b6:Nat→Option Nat} {hp hp' hp0:Nat→Option an} {C:ag} {B:Nat} {M:Nat→Prop} {w0:Start}
theorem Ed (S:aF P w I β hp B M w0) {a:Act} {st:St} (hs:kK P w I β hp a st.sl): ∀{l:List ResultVar} {xs:List V} {rd:List Nat},(te P st l).run C hp=some (xs,rd)→
  ∃vs:List Value,(l.mapM fun| .tmp t=>Pure.pure (a.tmps.getD t undef)| .cell x t=>do loadVar t (←asAddr (a.tmps.getD x undef)):Sem (List Value)).run P w= .ok vs w∧vs.length=xs.length∧l.length=xs.length∧
   ∀(j:Nat) v x,vs[j]? =some v→xs[j]? =some x→ao P w I β hp v x
 | [],xs,rd,h=>by
  cases h
  exact ⟨[],by simp,rfl,rfl,by simp⟩
 | .tmp t::l,xs,rd,h=>by
  simp only[te] at h
  obtain ⟨ys,l1,l2,h1,U⟩:=kL h
  have h3:=Hg U
  subst h3
  obtain ⟨vs,a1,a2,a3,a4⟩:=Ed S hs h1
  refine ⟨a.tmps.getD t undef::vs,by simp only[List.mapM_cons,Sem.run_bind,Sem.run_pure,Result.andThen_ok,a1],by simp[a2],by simp[a3],fun j v x hj hx=> ?_⟩
  cases j with
  | zero=>simp at hj hx;subst hj;subst hx;have:=hs t;simpa using this
  | succ j=>exact a4 j v x (by simpa using hj) (by simpa using hx)
 | .cell y t::l,xs,rd,h=>by
  simp only[te] at h
  obtain ⟨r,l1,l2,h1,U⟩:=kL h
  obtain ⟨ys,l3,l4,h3,h4⟩:=kL U
  have h5:=Hg h4
  subst h5
  obtain ⟨v0,b1,b2,b3,ad,b4⟩:=M1 S (hs y) h1
  obtain ⟨vs,a1,a2,a3,a4⟩:=Ed S hs h3
  refine ⟨v0::vs,?_,by simp[a2],by simp[a3],fun j v x hj hx=> ?_⟩
  ·have e1:(do loadVar t (←asAddr (a.tmps.getD y undef)):Sem Value).run P w= .ok v0 w:=by
    rw[b4] at b1⊢
    simpa[Instr.loadAt,Instr.sureAddr,asAddr] using b1
   simp only[List.mapM_cons,Sem.run_bind,e1,Result.andThen_ok,a1,Sem.run_pure]
  cases j with
  | zero=>simp at hj hx;subst hj;subst hx;exact b2
  | succ j=>exact a4 j v x (by simpa using hj) (by simpa using hx)
def tX:List Value→Value
 | [v]=>v
 | l=> .tuple l.toArray
theorem Zt {vs:List Value} (h:vs.length≠1):tX vs= .tuple vs.toArray:=by
 match vs,h with
 | [],_=>rfl
 | [v],h=>simp at h
 | v::v2::l,_=>rfl
theorem Zu {fn:Func} {a:Act} {st:St} (S:aF P w I β st.hp B M w0) (hs:kK P w I β st.hp a st.sl) {xs:List V} {rd:List Nat} (h:(te P st fn.results.toList).run C st.hp=some (xs,rd)):
  ∃vs:List Value,(results fn a.tmps).run P w= .ok (tX vs) w∧vs.length=xs.length∧
   ∀(j:Nat) v x,vs[j]? =some v→xs[j]? =some x→ao P w I β st.hp v x:=by
 obtain ⟨vs,a1,a2,_,a4⟩:=Ed S hs h
 refine ⟨vs,?_,a2,a4⟩
 unfold results
 rw[Array.mapM_eq_mapM_toList]
 simp only[map_eq_pure_bind,bind_assoc,pure_bind,Sem.run_bind]
 refine (congrArg (fun r:Result (List Value)=>r.andThen _) a1).trans ?_
 simp only[Result.andThen_ok,Sem.run_pure]
 match vs with
 | []=>simp[tX]
 | [v]=>simp[tX]
 | v::v2::l=>simp[tX]
theorem PA: ∀{args:List V} {i k:Nat},dE (mW i args) k=if i≤k then args[k-i]? else none
 | [],i,k=>by simp[mW,dE]
 | v::vs,i,k=>by
  simp only[mW,dE]
  cases hb:Nat.beq k i with
  | true=>
   rw[aR] at hb
   subst hb
   simp
  | false=>
   have bC:k≠i:=fun e=>by rw[e,jn] at hb;cases hb
   simp only[cond_false,PA]
   by_cases h:i≤k
   ·rw[aj (by omega),aj h]
    obtain ⟨d,rfl⟩: ∃d,k=i+1+d:=⟨k-(i+1),by omega⟩
    rw[show i+1+d-(i+1)=d by omega,show i+1+d-i=d+1 by omega]
    rfl
   ·rw[ai (by omega),ai h]
theorem II: ∀{l:List (Nat × VS)} {ds:List V} {i k:Nat},jX i l=true→dE (eZ l ds) k=if i≤k then (fj (l.map (·.2)) ds)[k-i]? else none
 | [],ds,i,k,_=>by simp[eZ,fj,dE]
 | (q,s)::l,ds,i,k,h=>by
  simp only[jX,aK,aR] at h
  obtain ⟨rfl,h⟩:=h
  simp only[eZ,dE,cz,fj]
  cases hb:Nat.beq k q with
  | true=>
   rw[aR] at hb
   subst hb
   simp
  | false=>
   have bC:k≠q:=fun e=>by rw[e,jn] at hb;cases hb
   simp only[cond_false]
   rw[II h]
   by_cases h:q≤k
   ·rw[aj (by omega),aj h]
    obtain ⟨d,rfl⟩: ∃d,k=q+1+d:=⟨k-(q+1),by omega⟩
    rw[show q+1+d-(q+1)=d by omega,show q+1+d-q=d+1 by omega]
    rfl
   ·rw[ai (by omega),ai h]
theorem PB: ∀{l:List (Nat × VS)} {ds:List V},(eZ l ds).map (·.2)=fj (l.map (·.2)) ds
 | [],_=>rfl
 | (q,s)::l,ds=>by simp only[eZ,cz,fj,PB]
theorem IJ: ∀{l:List VS} {ds:List V},(fj l ds).length=l.length
 | [],_=>rfl
 | s::l,ds=>by simp only[fj,List.length_cons,IJ]
theorem PC: ∀{l:List (Nat × VS)} {ds:List V},(eZ l ds).length=l.length
 | [],_=>rfl
 | (q,s)::l,ds=>by simp only[eZ,List.length_cons,PC]
theorem Zv {vals:List Value} {l:List (Nat × V)} (hl:vals.length=l.length) (h: ∀(j:Nat) v y,vals[j]? =some v→(l.map (·.2))[j]? =some y→ao P w I β hp v y):ao P w I β hp (tX vals) (o9 l):=by
 match l,hl,h with
 | [],hl,h=>
  obtain rfl:vals=[]:=lb hl
  exact .bn rfl fun j v x _ hx=>by simp at hx
 | [(k,y)],hl,h=>
  match vals,hl,h with
  | [v],_,h=>exact h 0 v y rfl rfl
 | a::b::l,hl,h=>
  have bC:vals.length≠1:=by rw[hl];simp
  rw[Zt bC]
  simp only[o9]
  exact .bn (by simp[hl]) fun j v y hj hy=>h j v y (by simpa using hj) hy
theorem Zw {l:List BS} {ds:List V} {j:Nat} {e:TypeId} {es:List V} {ar:List Nat} (h:(eC l ds)[j]? =some (.nest e es ar)) (k:Nat):bB ar k=0:=by
 obtain ⟨b,e9,_,U⟩:=Io h
 cases b<;>simp only[fC] at U<;>cases U
 match k with
 | 0=>rfl
 | 1=>rfl
 | 2=>rfl
 | _+3=>rfl
theorem Zx {f n m:Nat} {fn:Func} {a:Act} {st:St} {es:List V} {rd:List Nat} (hm: ∀id blk,hp0 id=some blk→id<m) (jg: ∀id e es ar,hp0 id=some (.nest e es ar)→∀k,bB ar k=0)
  (hI:Inv P A.idle A.aE B M w0 μ hp0 n a w st) (ow:jX 0 (A.gi f).bP=true) (aX:(A.gi f).bP.length=fn.results.size) (h:(vC P A f fn m st).run C st.hp=some (es,rd)):
  ∃v I2 b6,(results fn a.tmps).run P w= .ok v w∧aF P w I2 b6 (br (A.so f es) (A.lv f es)).hp B M w0∧kP w0.w w0.I μ hp0 w I2 b6 (br (A.so f es) (A.lv f es)).hp∧ao P w I2 b6 (br (A.so f es) (A.lv f es)).hp v (o9 (eZ (A.so f es).bP (A.lv f es))):=by
 unfold vC at h
 obtain ⟨xs,l1,l2,h1,U⟩:=kL h
 obtain ⟨I,β,S,hA,hE⟩:=hI
 obtain ⟨vals,e1,e2,e3⟩:=Zu S hA.sl h1
 have e4:fn.results.size=xs.length:=by
  obtain ⟨_,_,_,q,_⟩:=Ed S hA.sl h1
  simpa using q
 have fin: ∀(Sx:Shape) (es:List V),jX 0 Sx.bP=true→Sx.bP.length=fn.results.size→jt m Sx (canon m (List.range xs.length) (freeze m (A.s6 f) ⟨ja (mW 0 xs),st.hp,st.nb⟩))=some es→
   ∃v I2 b6,(results fn a.tmps).run P w= .ok v w∧aF P w I2 b6 (br Sx es).hp B M w0∧kP w0.w w0.I μ hp0 w I2 b6 (br Sx es).hp∧ao P w I2 b6 (br Sx es).hp v (o9 (eZ Sx.bP es)):=by
  intro Sx es ow aX tY
  have Zy:iL P A.idle A.aE w I β vals.length ⟨vals.toArray,[]⟩ ⟨ja (mW 0 xs),st.hp,st.nb⟩:=by
   refine ⟨fun k=> ?_,by simp,by simp,hA.aE⟩
   change ao P w I β st.hp _ (ja (mW 0 xs) k)
   unfold ja
   rw[PA]
   simp only[kC,cI,Nat.sub_zero]
   cases hk:xs[k]? with
   | none=>exact .undef
   | some x=>
    have ik:k<vals.length:=by rw[e2];exact (bu.1 hk).1
    have:=e3 k vals[k] x (bO ik) hk
    have e5:(vals.toArray).getD k undef=vals[k]:=by simp[ik]
    rw[Option.getD_some]
    exact e5▸this
  obtain ⟨I2,k1,k2,k3⟩:=Pj (st:=⟨ja (mW 0 xs),st.hp,st.nb⟩) (m:=m) (pur:=A.s6 f) S Zy
  have Zz:Inv P A.idle A.aE B M w0 μ hp0 vals.length ⟨vals.toArray,[]⟩ w (freeze m (A.s6 f) ⟨ja (mW 0 xs),st.hp,st.nb⟩):=⟨I2,β,k2,k3,hE.trans k1.DT⟩
  obtain ⟨I3,PD,q1,q2,q3⟩:=(Zz.canon (live:=List.range xs.length) hm jg).reshape tY hm
  refine ⟨tX vals,I3,PD,e1,q1,q3,Zv (by rw[PC,aX,e4,e2]) fun j v y hj hy=> ?_⟩
  have hv:=q2.sl j
  have cd:=(bu.1 hj).1
  have e5:(vals.toArray).getD j undef=v:=by
   have:=(bu.1 hj).2
   simp[cd,this]
  change ao P w I3 PD _ ((vals.toArray).getD j undef) (ja (eZ Sx.bP _) j) at hv
  rw[e5] at hv
  unfold ja at hv
  rw[II ow] at hv
  simp only[kC,cI,Nat.sub_zero] at hv
  rw[PB] at hy
  rw[hy] at hv
  exact hv
 unfold cB.so cB.lv
 cases cf:A.alt f with
 | none=>
  rw[cf] at U
  simp only at U⊢
  split at U
  ·rename_i e9 tY
   have:=aM U
   subst this
   exact fin _ _ ow aX tY
  ·cases U
 | some S2=>
  rw[cf] at U
  simp only at U⊢
  split at U
  ·rename_i e9 tY
   have:=aM U
   subst this
   exact fin _ _ ow aX tY
  ·split at U
   ·rename_i e9 tY
    obtain ⟨hc,h3⟩:=aG U
    simp only[aK,aR] at hc
    have:=aM h3
    subst this
    exact fin _ _ hc.1 hc.2 tY
   ·cases U
theorem ZA (hC:kQ P A C) (hP:iK P A) (ni:P.follows .mixedOrders=true):kQ P A (qe P A C):=by
 intro f ds es h
 unfold qe at h
 cases hf:P.funcs[A.aT f]? with
 | none=>rw[hf] at h;cases h
 | some fn=>
  rw[hf] at h
  simp only at h
  cases hb:fn.body with
  | none=>rw[hb] at h;cases h
  | some c=>
   rw[hb] at h
   simp only at h
   cases hc:(jX 0 (A.sin f).bP&&(Nat.ble (A.sin f).bP.length fn.ntmps&&((A.sin f).ok&&(jX 0 (A.gi f).bP&&(Nat.beq (A.gi f).bP.length fn.results.size&&qc (nY (A.sin f).bc.length (A.mv f))))))) with
   | false=>rw[hc] at h;cases h
   | true=>
    rw[hc] at h
    simp only[cond_true] at h
    simp only[aK,aR,dx] at hc
    obtain ⟨j8,hnt,_,wi,aX,ka⟩:=hc
    obtain ⟨⟨out,st'⟩,h1,U⟩:=bind_some h
    refine ⟨fn,c,rfl,hb,fun w I μ vals hH ZB hl hv=> ?_⟩
    have ZC:(∀id,out≠ .exit id)∧∃rd,(vC P A f fn (A.sin f).bc.length st').run C st'.hp=some (es,rd):=by
     cases out with
     | exit id=>cases U
     | norm=>
      refine ⟨by simp,?_⟩
      simp only[yI] at U
      obtain ⟨⟨x,rd⟩,e1,e2⟩:=U
      simp only at e2
      subst e2
      exact ⟨rd,e1⟩
     | ret=>
      refine ⟨by simp,?_⟩
      simp only[yI] at U
      obtain ⟨⟨x,rd⟩,e1,e2⟩:=U
      simp only at e2
      subst e2
      exact ⟨rd,e1⟩
    obtain ⟨bC,rd,Ic⟩:=ZC
    refine calls_of_wp_defers hf hb ?_
    have hm: ∀id blk,(br (A.sin f) ds).hp id=some blk→id<(A.sin f).bc.length:=by
     intro id blk ab
     simp only[br,mk,gR] at ab
     have:=(bu.1 ab).1
     rwa [Ec] at this
    have jg: ∀id e es ar,(br (A.sin f) ds).hp id=some (.nest e es ar)→∀k,bB ar k=0:=by
     intro id e es ar ab k
     simp only[br,mk,gR] at ab
     exact Zw ab k
    refine Zq (w0:=⟨w,I⟩) (μ:=μ) (hp0:=(br (A.sin f) ds).hp) (B:=w.heap.size) (M:=ou P w μ (br (A.sin f) ds).hp) hC hP ni hm jg c h1 ?_ ?_
    ·refine Inv.enter ka ?_ hm jg fun p hp=>by
      simp only[br,mk,gR]
      rw[List.getElem?_eq_none_iff,Ec]
      exact hp
     refine ⟨I,μ,⟨hH,fun _ _ _=>rfl,bY _,fun b h=> .inl h,⟨rfl,rfl⟩⟩,⟨fun k=> ?_,?_,by simp,ZB⟩,(Le.refl (P:=P) w I μ _).DT⟩
     ·change ao P w I μ _ _ (ja (eZ (A.sin f).bP ds) k)
      unfold ja
      rw[II j8]
      simp only[kC,cI,Nat.sub_zero]
      cases hk:(fj ((A.sin f).bP.map (·.2)) ds)[k]? with
      | none=>exact .undef
      | some x=>
       have ik:k<vals.length:=by
        have:=(bu.1 hk).1
        rw[IJ,aP] at this
        rw[hl];exact this
       have:=hv k vals[k] x (bO ik) hk
       have e1:(vals.toArray++Array.replicate (fn.ntmps-vals.toArray.size) undef).getD k undef=vals[k]:=by
        simp[Array.getElem?_append,ik]
       rw[Option.getD_some]
       exact e1▸this
     ·simp
      omega
    ·intro a' w' hI
     obtain ⟨v,I2,b6,q1,q2,q3,q4⟩:=Zx hm jg hI wi aX Ic
     obtain ⟨_,_,_,hA,_⟩:=hI
     cases out with
     | exit id=>exact absurd rfl (bC id)
     | norm=>exact Iu hP q1 ⟨v,I2,b6,rfl,q2,q3,q4⟩ _ hA.defers
     | ret=>exact Iu hP q1 ⟨v,I2,b6,rfl,q2,q3,q4⟩ _ hA.defers
theorem PE (hP:iK P A) (ni:P.follows .mixedOrders=true): ∀n,kQ P A (lp P A n)
 | 0=>fun _ _ _ h=>by cases h
 | n+1=>ZA (PE hP ni n) hP ni
theorem ZD (hP:iK P A) (ni:P.follows .mixedOrders=true):kQ P A (Call P A):=by
 intro f ds es h
 have hn: ∃n,lp P A n f ds=some es:=by
  unfold Call at h
  split at h
  ·rename_i hex
   have:=hex.choose_spec.choose_spec
   rw[c6 h] at this
   exact ⟨_,this⟩
  ·cases h
 obtain ⟨n,hn⟩:=hn
 exact PE hP ni n f ds es hn
end
section
variable {P:Program} {A:cB} {C:ag} {D:Nat→ag}
def z8 (C:ag) (D:Nat→ag):Prop:= ∀f a r,C f a=some r→∃n,∀k,n≤k→D k f a=some r
theorem py {α:Type} (h:z8 C D) {hp:Nat→Option an}: ∀{p:Rd α} {r:α × List Nat},p.run C hp=some r→∃n,∀k,n≤k→p.run (D k) hp=some r
 | .ret a,r,e=>⟨0,fun _ _=>e⟩
 | .fail,r,e=>by cases e
 | .get id q,r,e=>by
  obtain ⟨x,h1,U⟩:=bind_some e
  obtain ⟨n,hn⟩:=py h h1
  exact ⟨n,fun k hk=>by simp only[Rd.run,hn k hk,Option.bind_some];exact U⟩
 | .opt o q,r,e=>by
  obtain ⟨x,h1,U⟩:=bind_some e
  obtain ⟨n,hn⟩:=py h U
  exact ⟨n,fun k hk=>by simp only[Rd.run,h1,Option.bind_some];exact hn k hk⟩
 | .live id ok q,r,e=>by
  simp only[Rd.run] at e
  cases hk:ok (fS (hp id)) with
  | false=>rw[hk] at e;cases e
  | true=>
   rw[hk] at e
   obtain ⟨x,h1,U⟩:=bind_some e
   obtain ⟨n,hn⟩:=py h h1
   exact ⟨n,fun k mo=>by simp only[Rd.run,hk,cond_true,hn k mo,Option.bind_some];exact U⟩
 | .aC b q,r,e=>by
  obtain ⟨h1,U⟩:=aG e
  obtain ⟨n,hn⟩:=py h U
  exact ⟨n,fun k hk=>by simp only[Rd.run,h1,cond_true];exact hn k hk⟩
 | .call f a q,r,e=>by
  obtain ⟨x,h1,U⟩:=bind_some e
  obtain ⟨n1,j8⟩:=h f a x h1
  obtain ⟨n2,wi⟩:=py h U
  exact ⟨max n1 n2,fun k hk=>by simp only[Rd.run,j8 k (by omega),Option.bind_some];exact wi k (by omega)⟩
 | .alt true x y,r,e=>py (p:=x) h e
 | .alt false x y,r,e=>py (p:=y) h e
theorem ZE (h:z8 C D) {n i nb:Nat} {ops:Array Oper} {o:Oper} {st:St} {r:St × List Nat × List Nat} (e:gH P A C n ops i o nb st=some r): ∃N,∀k,N≤k→gH P A (D k) n ops i o nb st=some r:=by
 unfold gH at e
 have go:(((fk P A st.sl i (nb+64*i) o).run C st.hp).bind fun r=>some ((⟨hO st.sl o.dst r.1.v,bL st.hp r.1.upd,st.nb⟩:St),qd r.2 r.1.upd,fD st.hp r.1.upd))=some r→
   ∃N,∀k,N≤k→(((fk P A st.sl i (nb+64*i) o).run (D k) st.hp).bind fun r=>some ((⟨hO st.sl o.dst r.1.v,bL st.hp r.1.upd,st.nb⟩:St),qd r.2 r.1.upd,fD st.hp r.1.upd))=some r:=by
  intro e
  obtain ⟨x,h1,U⟩:=bind_some e
  obtain ⟨N,hN⟩:=py h h1
  exact ⟨N,fun k hk=>by rw[hN k hk];exact U⟩
 unfold gH
 cases hd:rH o n with
 | false=>rw[hd] at e;cases e
 | true=>
  rw[hd] at e
  simp only[cond_true] at e⊢
  cases hg:o.guard with
  | none=>rw[hg] at e;exact go e
  | some gw=>
   obtain ⟨g,want⟩:=gw
   rw[hg] at e
   simp only at e⊢
   cases lH:(ops[g]?).bind (·.dst) with
   | none=>rw[lH] at e;cases e
   | some d=>
    rw[lH] at e
    simp only at e⊢
    cases mn:lh (st.sl d) with
    | none=>rw[mn] at e;cases e
    | some ob=>
    rw[mn] at e
    cases ob with
    | none=>exact ⟨0,fun _ _=>e⟩
    | some b=>
    simp only at e⊢
    cases hb:b==want with
    | true=>rw[hb] at e;exact go e
    | false=>rw[hb] at e;exact ⟨0,fun _ _=>e⟩
theorem PF (h:z8 C D) {n nb:Nat} {ops:Array Oper}: ∀{l:List (Nat × Oper)} {st:St} {log:Log} {r:St × Log},pb P A C n ops nb l st log=some r→∃N,∀k,N≤k→pb P A (D k) n ops nb l st log=some r
 | [],st,log,r,e=>⟨0,fun _ _=>e⟩
 | (i,o)::l,st,log,r,e=>by
  obtain ⟨x,h1,U⟩:=bind_some e
  obtain ⟨N1,oy⟩:=ZE h h1
  obtain ⟨N2,qH⟩:=PF h U
  exact ⟨max N1 N2,fun k hk=>by simp only[pb,oy k (by omega),Option.bind_some];exact qH k (by omega)⟩
theorem PH {X R:Type} {step:X→Option (X ⊕ R)} {stepD:Nat→X→Option (X ⊕ R)} (hs: ∀x y,step x=some y→∃N,∀k,N≤k→stepD k x=some y): ∀(n:Nat) (x:X) (r:R),fi step n x=some r→∃N,∀k,N≤k→fi (stepD k) n x=some r
 | 0,x,r,e=>by cases e
 | n+1,x,r,e=>by
  simp only[fi] at e⊢
  obtain ⟨y,h1,U⟩:=bind_some e
  obtain ⟨N1,oy⟩:=hs x y h1
  cases y with
  | inl z=>
   obtain ⟨N2,qH⟩:=PH hs n z r U
   exact ⟨max N1 N2,fun k hk=>by rw[oy k (by omega)];exact qH k (by omega)⟩
  | inr q=>exact ⟨N1,fun k hk=>by rw[oy k hk];exact U⟩
theorem ZF (h:z8 C D) {f n m:Nat}: ∀(c:Code) {st:St} {r:Out × St},exec P A C f n m c st=some r→∃N,∀k,N≤k→exec P A (D k) f n m c st=some r:=by
 intro c
 induction c with
 | skip=>exact fun e=>⟨0,fun _ _=>e⟩
 | exit id=>exact fun e=>⟨0,fun _ _=>e⟩
 | ret=>exact fun e=>⟨0,fun _ _=>e⟩
 | region id ops draw=>
  intro st r e
  simp only[exec] at e⊢
  obtain ⟨x,h1,U⟩:=bind_some e
  obtain ⟨y,h3,h4⟩:=bind_some h1
  obtain ⟨N,hN⟩:=PF h h3
  refine ⟨N,fun k hk=> ?_⟩
  have:zb P (A.here f id) (D k) n ops draw st=some x:=by
   unfold zb
   rw[hN k hk]
   exact h4
  rw[this]
  exact U
 | seq x y iz iA=>
  intro st r e
  simp only[exec] at e⊢
  obtain ⟨⟨o,s1⟩,h1,U⟩:=bind_some e
  obtain ⟨N1,oy⟩:=iz h1
  cases o with
  | norm=>
   obtain ⟨N2,qH⟩:=iA U
   exact ⟨max N1 N2,fun k hk=>by rw[oy k (by omega)];exact qH k (by omega)⟩
  | exit id=>exact ⟨N1,fun k hk=>by rw[oy k hk];exact U⟩
  | ret=>exact ⟨N1,fun k hk=>by rw[oy k hk];exact U⟩
 | cond c x y iz iA=>
  intro st r e
  cases c with
  | tmp t=>
   have go: ∀{st:St} {r:Out × St},(match st.sl t with
     | .bool b=>(bif b then exec P A C f n m x st else exec P A C f n m y st).bind fun r=>
      match r.1 with
      | .norm=>some (.norm,canon m (A.join f t) r.2)
      | _=>some r
     | _=>none)=some r→∃N,∀k,N≤k→(match st.sl t with
     | .bool b=>(bif b then exec P A (D k) f n m x st else exec P A (D k) f n m y st).bind fun r=>
      match r.1 with
      | .norm=>some (.norm,canon m (A.join f t) r.2)
      | _=>some r
     | _=>none)=some r:=by
    intro st r e
    cases hs:st.sl t<;>rw[hs] at e<;>simp only at e⊢ <;>first|(cases e;done)|skip
    rename_i b
    obtain ⟨x1,h1,U⟩:=bind_some e
    cases b with
    | true=>
     obtain ⟨N,hN⟩:=iz h1
     exact ⟨N,fun k hk=>by simp only[cond_true,hN k hk,Option.bind_some];exact U⟩
    | false=>
     obtain ⟨N,hN⟩:=iA h1
     exact ⟨N,fun k hk=>by simp only[cond_false,hN k hk,Option.bind_some];exact U⟩
   simp only[exec] at e⊢
   split at e
   ·rename_i hS
    obtain ⟨N,hN⟩:=go e
    exact ⟨N,fun k hk=>hN k hk⟩
   ·rename_i S hS
    obtain ⟨ds,h1,U⟩:=bind_some e
    obtain ⟨e',h3,h4⟩:=bind_some U
    obtain ⟨r1,h5,h6⟩:=bind_some h3
    obtain ⟨N,hN⟩:=go h5
    refine ⟨N,fun k hk=> ?_⟩
    try rw[hS]
    simp only[h1,Option.bind_some]
    exact (congrArg (fun z:Option (Out × St)=>(z.bind fun r=>ways m 0 S.2 r).bind fun e=>l7 0 S.2 e.1 e.2 fun o st=>some (o,st)) (hN k hk)).trans (by simp only[Option.bind_some,h6];exact h4)
  | const v=>
   cases v with
   | bool b=>
    simp only[exec] at e⊢
    cases b with
    | true=>exact iz e
    | false=>exact iA e
   | _=>simp only[exec] at e;cases e
  | _=>simp only[exec] at e;cases e
 | block id c ih=>
  intro st r e
  simp only[exec] at e⊢
  obtain ⟨x1,h1,U⟩:=bind_some e
  obtain ⟨N,hN⟩:=ih h1
  exact ⟨N,fun k hk=>by rw[hN k hk];exact U⟩
 | loop c ih=>
  intro st r e
  simp only[exec] at e⊢
  split at e
  ·cases e
  ·rename_i S hS
   obtain ⟨ds,h1,U⟩:=bind_some e
   obtain ⟨e',h3,h4⟩:=bind_some U
   obtain ⟨q,hq⟩:=vj h3
   obtain ⟨N,hN⟩:=PH (stepD:=fun k ds=>mV m S.1 S.2 (exec P A (D k) f n m c (br S.1 ds))) (fun x y Ee=>by
    unfold mV at Ee⊢
    obtain ⟨z,h5,h6⟩:=bind_some Ee
    obtain ⟨N,hN⟩:=ih h5
    exact ⟨N,fun k hk=>by rw[hN k hk];exact h6⟩) q ds e' hq
   refine ⟨N,fun k hk=> ?_⟩
   try rw[hS]
   simp only[h1,Option.bind_some]
   rw[yO (hN k hk)]
   exact h4
 | _=>intro st r e;simp only[exec] at e;cases e
theorem IK (h:z8 C D) {f:Nat} {ds es:List V} (e:qe P A C f ds=some es): ∃N,∀k,N≤k→qe P A (D k) f ds=some es:=by
 unfold qe at e⊢
 cases hf:P.funcs[A.aT f]? with
 | none=>rw[hf] at e;cases e
 | some fn=>
  rw[hf] at e
  simp only at e⊢
  cases hb:fn.body with
  | none=>rw[hb] at e;cases e
  | some c=>
   rw[hb] at e
   simp only at e⊢
   cases hc:(jX 0 (A.sin f).bP&&(Nat.ble (A.sin f).bP.length fn.ntmps&&((A.sin f).ok&&(jX 0 (A.gi f).bP&&(Nat.beq (A.gi f).bP.length fn.results.size&&qc (nY (A.sin f).bc.length (A.mv f))))))) with
   | false=>rw[hc] at e;cases e
   | true=>
    rw[hc] at e
    simp only[cond_true] at e⊢
    obtain ⟨⟨o,s1⟩,h1,U⟩:=bind_some e
    obtain ⟨N1,oy⟩:=ZF h c h1
    cases o with
    | exit id=>cases U
    | norm=>
     simp only[yI] at U
     obtain ⟨x,e1,e2⟩:=U
     obtain ⟨N2,qH⟩:=py h e1
     exact ⟨max N1 N2,fun k hk=>by rw[oy k (by omega)];simp only[Option.bind_some,qH k (by omega),Option.map_some,e2]⟩
    | ret=>
     simp only[yI] at U
     obtain ⟨x,e1,e2⟩:=U
     obtain ⟨N2,qH⟩:=py h e1
     exact ⟨max N1 N2,fun k hk=>by rw[oy k (by omega)];simp only[Option.bind_some,qH k (by omega),Option.map_some,e2]⟩
theorem PI: ∀n f a r,lp P A n f a=some r→lp P A (n+1) f a=some r
 | 0,f,a,r,h=>by cases h
 | n+1,f,a,r,h=>by
  obtain ⟨N,hN⟩:=IK (C:=lp P A n) (D:=fun _=>lp P A (n+1)) (fun f a r h=>⟨0,fun _ _=>PI n f a r h⟩) h
  exact hN N (bY _)
theorem IL {n k:Nat} (hk:n≤k) {f:Nat} {a r:List V} (h:lp P A n f a=some r):lp P A k f a=some r:=by
 induction hk with
 | refl=>exact h
 | step _ ih=>exact PI _ _ _ _ ih
theorem Ef {f:Nat} {a r:List V}:Call P A f a=some r↔∃n,lp P A n f a=some r:=by
 constructor
 ·intro h
  unfold Call at h
  split at h
  ·rename_i hex
   have:=hex.choose_spec.choose_spec
   rw[c6 h] at this
   exact ⟨_,this⟩
  ·cases h
 ·rintro ⟨n,hn⟩
  have hex: ∃n r,lp P A n f a=some r:=⟨n,r,hn⟩
  unfold Call
  rw[rj hex]
  have U:=hex.choose_spec.choose_spec
  have h3:=IL (Nat.le_max_left n hex.choose) hn
  have h4:=IL (Nat.le_max_right n hex.choose) U
  rw[h3] at h4
  exact h4.symm
theorem ZG (f:Nat) (a:List V):Call P A f a=qe P A (Call P A) f a:=by
 apply Option.ext
 intro r
 constructor
 ·intro h
  obtain ⟨n,hn⟩:=Ef.1 h
  cases n with
  | zero=>cases hn
  | succ n=>
   obtain ⟨N,hN⟩:=IK (C:=lp P A n) (D:=fun _=>Call P A) (fun f a r h=>⟨0,fun _ _=>Ef.2 ⟨n,h⟩⟩) hn
   exact hN N (bY _)
 ·intro h
  obtain ⟨N,hN⟩:=IK (C:=Call P A) (D:=lp P A) (fun f a r h=>by
   obtain ⟨n,hn⟩:=Ef.1 h
   exact ⟨n,fun k hk=>IL hk hn⟩) h
  exact Ef.2 ⟨N+1,hN N (bY _)⟩
end
end Go.AM
namespace Go.AM
open Go.ChangeShapes Go.WideShapes Go.RowKit
section
variable (P:Program)
inductive WT:TypeId→V→Prop
 | int {t:TypeId} {k:IntKind} {n:Int}:P.underlying t=some (.int k)→(Lit.int k n).wf=true→WT t (.int k n)
 | bool {t:TypeId} {b:Bool}:P.underlying t=some .bool→WT t (.bool b)
 | str {t:TypeId} {l:List UInt8}:P.underlying t=some .string→l.length≤maxLen→WT t (.str l)
 | list {t e:TypeId} {es:List V}:P.underlying t=some (.slice e)→es.length≤maxLen→
   (∀(i:Nat) x,es[i]? =some x→bK P e=true→∃xs,x= .agg xs∧xs.length=(aS P e).length)→
   (∀(i j:Nat) x t',es[i]? =some x→(aS P e)[j]? =some t'→WT t' (bM P e x j))→WT t (.list e es)
def jP (t:TypeId) (x:V):Prop:=
 (bK P t=true→∃xs,x= .agg xs∧xs.length=(aS P t).length)∧∀(j:Nat) t',(aS P t)[j]? =some t'→WT P t' (bM P t x j)
def pS:List TypeId→List V→Prop
 | [],[]=>True
 | t::ts,x::xs=>jP P t x∧pS ts xs
 | _,_=>False
def hasB (L:List TypeId) (t:TypeId):Bool:=L.any fun u=>Nat.beq u t
def Eg (L:List TypeId):Nat→List Field→Bool
 | _,[]=>true
 | n,f::fs=>hasB L f.type&&(Nat.beq f.offset n&&(Nat.beq (P.cellsOf f.type) (aS P f.type).length&&Eg L (n+P.cellsOf f.type) fs))
def z9:List Nat→List Nat→Bool
 | [],[]=>true
 | a::l,b::m=>Nat.beq a b&&z9 l m
 | _,_=>false
def IM (L:List TypeId) (t:TypeId):Bool:=
 Nat.beq (P.cellsOf t) (aS P t).length&&
 match P.underlying t with
 | some (.int _)=>true
 | some .bool=>true
 | some .string=>true
 | some (.slice e)=>hasB L e&&cM P e
 | some (.struct fs)=>Eg P L 0 fs.toList&&z9 (flat P t) (fs.toList.flatMap fun f=>aS P f.type)
 | some (.array n e)=>hasB L e&&(Nat.beq (P.cellsOf e) (aS P e).length&&z9 (flat P t) (List.replicate n (aS P e)).flatten)
 | _=>false
def Aa (L:List TypeId):Bool:=L.all fun t=>IM P L t
end
theorem Eh {L:List TypeId} {t:TypeId} (h:hasB L t=true):t∈L:=by
 obtain ⟨u,hu,U⟩:=nS.1 h
 rw[aR] at U
 exact U▸hu
theorem IN: ∀{l m:List Nat},z9 l m=true→l=m
 | [],[],_=>rfl
 | a::l,b::m,h=>by
  simp only[z9,aK,aR] at h
  rw[h.1,IN h.2]
 | [],_::_,h=>by cases h
 | _::_,[],h=>by cases h
section
variable {P:Program} {H:Type} {enc:TypeId × Value→H} {w:World} {base:Nat} {spare:Nat→Bool} {held:Bool} {L:List TypeId}
def nj (w:World):Nat→Prop:=fun b=>b<w.heap.size
def nk (P:Program) (w:World) (ts:List TypeId) (cs:List Value) (xs:List V):Prop:=
 cs.length=ts.length∧xs.length=ts.length∧∀(j:Nat) t',ts[j]? =some t'→∃v y,cs[j]? =some v∧xs[j]? =some y∧Pure P w (nj w) t' v y∧WT P t' y
theorem nk.app {ts vu:List TypeId} {cs ij:List Value} {xs PJ:List V} (h:nk P w ts cs xs) (h':nk P w vu ij PJ):nk P w (ts++vu) (cs++ij) (xs++PJ):=by
 obtain ⟨a,b,c⟩:=h
 obtain ⟨a',b',c'⟩:=h'
 refine ⟨by simp[a,a'],by simp[b,b'],fun j t' hj=> ?_⟩
 by_cases aO:j<ts.length
 ·rw[iu aO] at hj
  obtain ⟨v,y,e1,e2,e3⟩:=c j t' hj
  exact ⟨v,y,by rw[iu (by omega)];exact e1,by rw[iu (by omega)];exact e2,e3⟩
 ·rw[iv (by omega)] at hj
  obtain ⟨v,y,e1,e2,e3⟩:=c' _ t' hj
  exact ⟨v,y,by rw[iv (by omega),a];exact e1,by rw[iv (by omega),b];exact e2,e3⟩
theorem ZH {w:World} {a:Addr} {v:Value} (h:w.cell? a=some v):a.spot=none∧a.block<w.heap.size:=by
 unfold World.cell? at h
 split at h
 ·rename_i hh
  split at h
  ·cases h
  ·rename_i hs
   exact ⟨by simpa using hs,(gZ.1 hh).1⟩
 all_goals (first|cases h|skip)
theorem PK {rd:TypeId→List Value→Option (DataW H × List MemPlace)} (cs:List Value)
  (ih: ∀t cs x,t∈L→rd t cs=some x→∃xs,nk P w (aS P t) cs xs): ∀(fs:List Field) (n:Nat),Eg P L n fs=true→
  (∀f∈fs,∃x,rd f.type ((cs.drop f.offset).take (P.cellsOf f.type))=some x)→∃m xs,n≤m∧nk P w (fs.flatMap fun f=>aS P f.type) ((cs.drop n).take (m-n)) xs∧m-n=(fs.flatMap fun f=>aS P f.type).length
 | [],n,_,_=>⟨n,[],bY _,⟨by simp,rfl,by simp⟩,by simp⟩
 | f::fs,n,h,hx=>by
  simp only[Eg,aK,aR] at h
  obtain ⟨h1,U,h3,h4⟩:=h
  obtain ⟨x,ZI⟩:=hx f (by simp)
  obtain ⟨xs,gm⟩:=ih _ _ _ (Eh h1) ZI
  obtain ⟨m,ys,hm,qI,Iz⟩:=PK cs ih fs (n+P.cellsOf f.type) h4 fun g hg=>hx g (by simp[hg])
  refine ⟨m,xs++ys,by omega,?_,by simp only[lf,bS];omega⟩
  have:=gm.app qI
  rw[lf]
  rw[U] at this
  have e:(cs.drop n).take (m-n)=(cs.drop n).take (P.cellsOf f.type)++(cs.drop (n+P.cellsOf f.type)).take (m-(n+P.cellsOf f.type)):=by
   rw[show m-n=P.cellsOf f.type+(m-(n+P.cellsOf f.type)) by omega,List.take_add,pX]
  rw[e]
  exact this
theorem PL {rd:List Value→Option (DataW H × List MemPlace)} (cs:List Value) {e:TypeId} (hs:P.cellsOf e=(aS P e).length)
  (ih: ∀cs x,rd cs=some x→∃xs,nk P w (aS P e) cs xs): ∀(n:Nat),
  (∀i,i<n→∃x,rd ((cs.drop (i*P.cellsOf e)).take (P.cellsOf e))=some x)→∃xs,nk P w (List.replicate n (aS P e)).flatten (cs.take (n*P.cellsOf e)) xs
 | 0,_=>⟨[],by simp,rfl,by simp⟩
 | n+1,hx=>by
  obtain ⟨xs,gm⟩:=PL cs hs ih n fun i hi=>hx i (by omega)
  obtain ⟨x,zZ⟩:=hx n (by omega)
  obtain ⟨ys,qI⟩:=ih _ _ zZ
  refine ⟨xs++ys,?_⟩
  rw[List.replicate_succ',List.flatten_append]
  have:=gm.app qI
  rw[dh,Nat.one_mul,List.take_add]
  simpa using this
theorem Ei (hL:Aa P L=true): ∀(fuel:Nat) (t:TypeId) (cs:List Value) (x:DataW H × List MemPlace),t∈L→DataW.trod enc P w base spare held fuel t cs=some x→
  ∃xs,nk P w (aS P t) cs xs
 | 0,_,_,_,_,h=>by cases h
 | fuel+1,t,cs,x,ht,h=>by
  have hg:=fh.1 hL t ht
  unfold IM at hg
  rw[aK,aR] at hg
  obtain ⟨hc,hg⟩:=hg
  have one:bK P t=false→aS P t=[t]:=fun h=>by simp[aS,h]
  cases hu:P.underlying t with
  | none=>rw[hu] at hg;cases hg
  | some d=>
   rw[hu] at hg
   cases d with
   | int k=>
    obtain ⟨n,rfl,rfl,Ab⟩:=DataW.trod_int hu h
    rw[one (by simp[bK,hu])]
    exact ⟨[.int k n],rfl,rfl,fun j t' hj=>by
     cases j with
     | zero=>cases hj;exact ⟨_,_,rfl,rfl,.int hu,.int hu Ab⟩
     | succ j=>simp at hj⟩
   | bool=>
    obtain ⟨b,rfl,rfl⟩:=DataW.trod_bool hu h
    rw[one (by simp[bK,hu])]
    exact ⟨[.bool b],rfl,rfl,fun j t' hj=>by
     cases j with
     | zero=>cases hj;exact ⟨_,_,rfl,rfl,.bool hu,.bool hu⟩
     | succ j=>simp at hj⟩
   | string=>
    obtain ⟨s,rfl,rfl,hl⟩:=DataW.trod_string hu h
    rw[one (by simp[bK,hu])]
    exact ⟨[.str s.data.toList],rfl,rfl,fun j t' hj=>by
     cases j with
     | zero=>cases hj;exact ⟨_,_,rfl,rfl,.str hu rfl,.str hu (by simpa using hl)⟩
     | succ j=>simp at hj⟩
   | slice e=>
    simp only[aK] at hg
    obtain ⟨he,au⟩:=hg
    rw[one (by simp[bK,hu])]
    have single: ∀v y,cs=[v]→Pure P w (nj w) t v y→WT P t y→∃xs,nk P w [t] cs xs:=by
     rintro v y rfl a b
     exact ⟨[y],rfl,rfl,fun j t' hj=>by
      cases j with
      | zero=>cases hj;exact ⟨_,_,rfl,rfl,a,b⟩
      | succ j=>simp at hj⟩
    rcases DataW.trod_slice hu h with ⟨rfl,rfl⟩|⟨a,len,cap,elems,rest,n,hn,rfl,rfl,hb,hl,hm,hlen,cN,_,_⟩
    ·exact single _ _ rfl (.nil hu) (.list hu (by simp) (by simp) (by simp))
    ·cases hn
     have lq:=(j4 au).2
     have ND:P.cellsOf e=(aS P e).length:=(fp au).symm
     have key: ∀i,i<len→∃ij xs,w.cells? base (a.add (i*P.cellsOf e)) (P.cellsOf e)=some ij∧nk P w (aS P e) ij xs:=by
      intro i hi
      have h1:=cN i hi
      rw[bO (by omega)] at h1
      obtain ⟨ij,U,h3⟩:=Option.bind_eq_some_iff.1 h1
      obtain ⟨xs,gm⟩:=Ei hL fuel e ij _ (Eh he) h3
      exact ⟨ij,xs,U,gm⟩
     by_cases h0:len=0
     ·subst h0
      exact single _ _ rfl (.emp hu) (.list hu (by simp) (by simp) (by simp))
     ·have gP:a.spot=none∧a.block<w.heap.size:=by
       obtain ⟨ij,xs,U,_⟩:=key 0 (by omega)
       obtain ⟨_,h3,h4⟩:=World.cells?_some U
       have h5:=h4 0 lq
       rw[bO (by omega)] at h5
       have:=ZH h5
       simpa[Addr.add] using this
      have hF: ∃(F:Nat→List Value) (X:Nat→List V),∀i,i<len→w.cells? base (a.add (i*P.cellsOf e)) (P.cellsOf e)=some (F i)∧nk P w (aS P e) (F i) (X i):=by
       refine ⟨fun i=>if hi:i<len then (key i hi).choose else [],fun i=>if hi:i<len then (key i hi).choose_spec.choose else [],fun i hi=> ?_⟩
       simp only[rj hi]
       exact (key i hi).choose_spec.choose_spec
      obtain ⟨F,X,IP⟩:=hF
      have hx: ∀(i j:Nat) y t',((List.range len).map fun i=>cv P e (X i))[i]? =some y→(aS P e)[j]? =some t'→i<len∧∃v,(F i)[j]? =some v∧Pure P w (nj w) t' v (bM P e y j)∧WT P t' (bM P e y j):=by
       intro i j y t' hy hj
       have hi:i<len:=by
        have:=(bu.1 hy).1
        simpa using this
       refine ⟨hi,?_⟩
       simp[List.getElem?_range hi] at hy
       obtain ⟨c1,c2,c3⟩:=(IP i hi).2
       obtain ⟨v,z,d1,d2,d3,d4⟩:=c3 j t' hj
       have:bM P e y j=z:=by
        rw[←hy]
        unfold bM cv
        cases ha:bK P e with
        | true=>
         simp only[cond_true,V.cell]
         rw[tw _ _ _ d2]
        | false=>
         simp only[cond_false]
         have:aS P e=[e]:=by simp[aS,ha]
         rw[this] at hj
         cases j with
         | zero=>rw[tw _ _ _ d2]
         | succ j=>simp at hj
       rw[this]
       exact ⟨v,d1,d3,d4⟩
      have fU: ∀i j,i<len→j<P.cellsOf e→w.cell? ⟨a.block,a.off+(i*P.cellsOf e+j),none⟩=some ((F i).getD j undef):=by
       intro i j hi hj
       obtain ⟨h1,U⟩:=IP i hi
       obtain ⟨_,h3,h4⟩:=World.cells?_some h1
       have h5:=h4 j hj
       rw[Go.Deep.add_add] at h5
       have e1:a.add (i*P.cellsOf e+j)=⟨a.block,a.off+(i*P.cellsOf e+j),none⟩:=by
        obtain ⟨b,o,s⟩:=a
        simp only at gP
        rw[gP.1]
        exact m7 ..
       rw[e1] at h5
       rw[h5,jq,bO (by omega)]
       rfl
      have ha:a=⟨a.block,a.off,none⟩:=by
       obtain ⟨b,o,s⟩:=a
       simp only at gP
       rw[gP.1]
      refine single (.slice (some a) len cap) (.list e ((List.range len).map fun i=>cv P e (X i))) rfl ?_ ?_
      ·rw[ha]
       refine .list (fun i j=>(F i).getD j undef) hu (by simp) hl (fun _=>gP.2) fU ?_
       intro i j y t' hy hj
       obtain ⟨hi,v,d1,d2,_⟩:=hx i j y t' hy hj
       rw[jq,d1]
       exact d2
      ·refine .list hu (by simp;omega) ?_ ?_
       ·intro i y hy Ej
        have hi:i<len:=by
         have:=(bu.1 hy).1
         simpa using this
        simp[List.getElem?_range hi] at hy
        rw[←hy]
        exact ⟨X i,by simp[cv,Ej],(IP i hi).2.2.1⟩
       ·intro i j y t' hy hj
        obtain ⟨_,v,_,_,d3⟩:=hx i j y t' hy hj
        exact d3
   | struct fs=>
    simp only[aK] at hg
    obtain ⟨xs,n,hn,rfl,hlen,mj,hx⟩:=DataW.trod_struct hu h
    cases hn
    have het:aS P t=fs.toList.flatMap fun f=>aS P f.type:=by
     rw[←IN hg.2]
     simp[aS,bK,hu]
    obtain ⟨m,ys,_,qI,hm⟩:=PK (w:=w) (rd:=fun t cs=>DataW.trod enc P w base spare held fuel t cs) cs (fun t cs x a b=>Ei hL fuel t cs x a b) fs.toList 0 hg.1 (by
     intro f hf
     obtain ⟨i,hi⟩:=rp hf
     rw[rq] at hi
     have qy:i<fs.size:=(gZ.1 hi).1
     exact ⟨_,(hx i f hi).trans (bO (by omega))⟩)
    rw[het]
    refine ⟨ys,?_⟩
    have:(cs.drop 0).take (m-0)=cs:=by
     rw[iX,hm,←het,←hc,←hlen,pU]
    rw[this] at qI
    exact qI
   | array n e=>
    simp only[aK,aR] at hg
    obtain ⟨xs,m,hn,rfl,hlen,mj,hx⟩:=DataW.trod_array hu h
    cases hn
    have het:aS P t=(List.replicate n (aS P e)).flatten:=by
     rw[←IN hg.2.2]
     simp[aS,bK,hu]
    obtain ⟨ys,qI⟩:=PL (w:=w) (rd:=DataW.trod enc P w base spare held fuel e) cs hg.2.1 (fun cs x b=>Ei hL fuel e cs x (Eh hg.1) b) n (by
     intro i hi
     exact ⟨_,(hx i hi).trans (bO (by omega))⟩)
    rw[het]
    refine ⟨ys,?_⟩
    have:cs.take (n*P.cellsOf e)=cs:=by
     have:n*P.cellsOf e=cs.length:=by
      rw[hlen,hc,het,hg.2.1]
      simp
     rw[this,pU]
    rw[this] at qI
    exact qI
   | _=>cases hg
end
section
variable {P:Program} {H:Type} {enc:TypeId × Value→H} {w:World} {L:List TypeId}
theorem ZJ {base IQ:Nat} {spare:Nat→Bool} {held:Bool} {r:Reach} {β:Nat→Option Nat} {hp:Nat→Option an} (hL:Aa P L=true) {t:TypeId} {v:Value} {d:DataW H} {ps:List MemPlace} (ht:t∈L) (eN:Value.okWide P w r IQ t v)
  (h:DataW.Trod enc P w base spare held t v d ps): ∃x,ao P w (nj w) β hp v x∧jP P t x:=by
 obtain ⟨fuel,hf⟩:=h
 obtain ⟨xs,c1,c2,c3⟩:=Ei hL fuel t _ _ ht hf
 have hg:=fh.1 hL t ht
 unfold IM at hg
 rw[aK,aR] at hg
 obtain ⟨_,hg⟩:=hg
 have Ej:bK P t=true→∃x,ao P w (nj w) β hp v x∧jP P t x:=by
  intro ha
  have hv: ∃cs,v= .agg cs:=by
   unfold Value.okWide at eN
   unfold bK at ha
   split at eN
   ·obtain ⟨cs,e,_⟩:=eN;exact ⟨cs,e⟩
   ·obtain ⟨cs,e,_⟩:=eN;exact ⟨cs,e⟩
   ·split at ha<;>simp_all
  obtain ⟨cs,rfl⟩:=hv
  refine ⟨.agg xs,.agg (by simpa[Value.cells] using c1.trans c2.symm) fun j v x hv hx=> ?_,fun _=>⟨xs,rfl,c2⟩,fun j t' hj=> ?_⟩
  ·have hj:j<(aS P t).length:=by rw[←c2];exact (bu.1 hx).1
   obtain ⟨v',y,e1,e2,e3,_⟩:=c3 j _ (bO hj)
   rw[hx] at e2
   cases e2
   have:cs[j]? =some v':=by simpa[Value.cells] using e1
   rw[hv] at this
   cases this
   exact .qg e3
  ·obtain ⟨v',y,e1,e2,_,e4⟩:=c3 j t' hj
   have:bM P t (.agg xs) j=y:=by
    simp only[bM,ha,cond_true,V.cell]
    exact tw _ _ _ e2
   rw[this]
   exact e4
 have qv:bK P t=false→v.cells= #[v]→∃x,ao P w (nj w) β hp v x∧jP P t x:=by
  intro ha tD
  have he:aS P t=[t]:=by simp[aS,ha]
  rw[he] at c1 c2 c3
  obtain ⟨v',y,e1,e2,e3,e4⟩:=c3 0 t rfl
  rw[tD] at e1
  cases e1
  refine ⟨y,.qg e3,⟨fun h=>absurd (ha.symm.trans h) (by simp),fun j t' hj=> ?_⟩⟩
  rw[he] at hj
  cases j with
  | succ j=>simp at hj
  | zero=>
   cases hj
   simpa[bM,ha] using e4
 unfold Value.okWide at eN
 cases hu:P.underlying t with
 | none=>rw[hu] at hg;cases hg
 | some ZK=>
  rw[hu] at hg eN
  cases ZK with
  | int k=>
   refine qv (by simp[bK,hu]) ?_
   simp only[Cell.okWide,Cell.ok,hu] at eN
   cases v<;>first|rfl|(simp at eN;done)|exact eN.elim
  | bool=>
   refine qv (by simp[bK,hu]) ?_
   simp only[Cell.okWide,Cell.ok,hu] at eN
   cases v<;>first|rfl|(simp at eN;done)|exact eN.elim
  | string=>
   refine qv (by simp[bK,hu]) ?_
   simp only[Cell.okWide,Cell.ok,hu] at eN
   cases v<;>first|rfl|(simp at eN;done)|exact eN.elim
  | slice e=>
   refine qv (by simp[bK,hu]) ?_
   simp only[Cell.okWide,Cell.ok,hu] at eN
   cases v<;>first|rfl|(simp at eN;done)|exact eN.elim
  | struct fs=>exact Ej (by simp[bK,hu])
  | array n e=>exact Ej (by simp[bK,hu])
  | _=>cases hg
theorem PM {base IQ:Nat} {spare:Nat→Bool} {held:Bool} {r:Reach} {β:Nat→Option Nat} {hp:Nat→Option an} (hL:Aa P L=true): ∀{ts:List TypeId} {vs:List Value} {ds:List (DataW H)} {ps:List MemPlace},
  (∀t∈ts,t∈L)→(∀(j:Nat) t v,ts[j]? =some t→vs[j]? =some v→Value.okWide P w r IQ t v)→DataW.TrodAll enc P w base spare held ts vs ds ps→
  ∃xs,vs.length=xs.length∧(∀(j:Nat) v x,vs[j]? =some v→xs[j]? =some x→ao P w (nj w) β hp v x)∧pS P ts xs
 | [],vs,ds,ps,_,_,h=>by
  obtain ⟨rfl,rfl,rfl⟩:=trodAll_nil h
  exact ⟨[],rfl,by simp,trivial⟩
 | t::ts,vs,ds,ps,hm,eN,h=>by
  obtain ⟨v,C2,d,PN,a,b,rfl,rfl,rfl,h1,U⟩:=trodAll_cons h
  obtain ⟨x,zZ,pg⟩:=ZJ (β:=β) (hp:=hp) hL (hm t (by simp)) (eN 0 t v rfl rfl) h1
  obtain ⟨xs,hl,hr,hw⟩:=PM (β:=β) (hp:=hp) hL (fun t ht=>hm t (by simp[ht])) (fun j t v a b=>eN (j+1) t v (by simpa using a) (by simpa using b)) U
  refine ⟨x::xs,by simp[hl],fun j v' x' hv hx=> ?_,pg,hw⟩
  cases j with
  | zero=>cases hv;cases hx;exact zZ
  | succ j=>exact hr j v' x' (by simpa using hv) (by simpa using hx)
theorem PO {base:Nat} {spare:Nat→Bool} {held:Bool}: ∀{ts:List TypeId} {vs:List Value} {ds:List (DataW H)} {ps:List MemPlace},DataW.TrodAll enc P w base spare held ts vs ds ps→ds.length=ts.length
 | [],vs,ds,ps,h=>by obtain ⟨rfl,rfl,rfl⟩:=trodAll_nil h;rfl
 | t::ts,vs,ds,ps,h=>by
  obtain ⟨v,C2,d,PN,a,b,rfl,rfl,rfl,h1,U⟩:=trodAll_cons h
  simp[PO U]
theorem PQ {base:Nat} (hl:laidOutB P=true) {W W':World} {PR:Nat→Bool}: ∀{ts:List TypeId} {vs:List Value} {ds:List (DataW H)} {ps:List MemPlace},(∀t∈ts,P.readableRec t=true∧t<P.types.size)→
  DataW.TrodAll enc P W base (fun _=>true) true ts vs ds ps→(∀p∈ps,W.sameAt W' p)→(∀p∈ps,PR p.block=true)→DataW.TrodAll enc P W' base PR true ts vs ds ps
 | [],vs,ds,ps,_,h,_,_=>by obtain ⟨rfl,rfl,rfl⟩:=trodAll_nil h;exact trodAll_mk0
 | t::ts,vs,ds,ps,hr,h,h1,U=>by
  obtain ⟨v,C2,d,PN,a,b,rfl,rfl,rfl,h3,h4⟩:=trodAll_cons h
  obtain ⟨r1,r2⟩:=hr t (by simp)
  exact trodAll_cons_mk (WideElems.Trod_stays hl r1 r2 h3 (fun p hp=>h1 p (by simp[hp])) (fun p hp=>U p (by simp[hp])))
   (PQ hl (fun t ht=>hr t (by simp[ht])) h4 (fun p hp=>h1 p (by simp[hp])) (fun p hp=>U p (by simp[hp])))
theorem ZL {f:Func} {s:ChangeSpec} {apart fresh handsOn again:Bool} {W W':World} {args:Array Value} {v:Value} {ds gs:List (DataW H)} {before pa pv:List MemPlace}
  (hW:DataW.Whole enc P f.params.toList s.vars apart W args.toList ds gs before)
  (PS: ∀(b:Nat) (sp:Nat→Bool) (hd:Bool),DataW.TrodAll enc P W' b sp hd f.resultTypes.toList (v.resultList f.resultTypes.size) (s.fn H (ds++gs)).results [])
  (tS: ∀sp:Nat→Bool,(∀p∈before,sp p.block=true)→DataW.TrodAll enc P W' 0 sp true f.params.toList args.toList (s.fn H (ds++gs)).args pa)
  (PT: ∀sp:Nat→Bool,(∀p∈before,sp p.block=true)→DataW.TrodVars enc P W' sp s.vars (s.fn H (ds++gs)).vars pv)
  (Ek:before=pa++pv) (hk:W.keptBut W' (· ∈before)) (IS: ∀a:Addr,a.block<W.heap.size→W'.frozen? a=W.frozen? a)
  (au: ∀(j:Nat) (t:TypeId) (r:Value),f.resultTypes[j]? =some t→(v.resultList f.resultTypes.size)[j]? =some r→Value.okWide P W' .any 0 t r):
  s.post enc P f apart fresh handsOn again W args v W':=by
 have hold: ∀p∈before,(fun b=>decide (b<W.heap.size)) p.block=true:=fun p hp=>by simpa using hW.lt p hp
 refine ⟨ds,gs,before,[],pa,pv,hW,PS _ _ _,tS _ hold,PT _ hold,World.keptBut_mono (fun p hp=>⟨hp,?_⟩) hk,fun _=> ?_⟩
 ·rw[Ek,ez] at hp
  exact Or.inr hp
 ·have aO:=hW.lt
  obtain ⟨_,_,_,_,_,hz,hn⟩:=hW
  refine ⟨au,_,_,([]++pa)++pv,⟨[]++pa,pv,trodAll_append (tS _ (fun _ _=>rfl)) (PS _ _ _),PT _ (fun _ _=>rfl),rfl,?_,?_⟩,?_⟩
  ·intro b off hp
   have hb:MemPlace.cell b off∈before:=by rw[Ek];simpa using hp
   rw[IS ⟨b,off,none⟩ (aO _ hb)]
   exact hz b off hb
  ·intro ha
   have:=hn ha
   rw[Ek] at this
   simpa using this
  ·intro p hp _
   rw[Ek]
   simpa using hp
theorem ZM {A:cB} (hP:iK P A) (ni:P.follows .mixedOrders=true) {f key:Nat} {fn:Func} {tb:TypeId} {s:ChangeSpec} {apart fresh handsOn again:Bool}
  (hf:P.funcs[f]? =some fn) (IT:A.aT key=f) (hL:Aa P L=true) (bE:fn.params.toList.all (fun t=>hasB L t)=true) (El:fn.resultTypes= #[tb]) (Em:P.underlying tb=some .bool) (En:s.vars=[])
  (hs: ∀ds:List (DataW H),ds.length=fn.params.toList.length→s.fn H ds={results:=[.lit (.bool true)],args:=ds})
  (IU:laidOutB P=true) (IV:fn.params.toList.all (fun t=>P.readableRec t&&Nat.blt t P.types.size)=true)
  (lB:(A.sin key).bc=[]) (au:((A.sin key).bP.map (·.2)).all (VS.ok 0)=true) (IW:(A.gi key).bP=[(0,.one .bool)]) (halt:A.alt key=none)
  {W:World} {base:Nat} {args:Array Value} {ds gs:List (DataW H)} {before:List MemPlace}
  (IX:gf P A.aE W (nj W)) (eN: ∀(j:Nat) t v,fn.params[j]? =some t→args[j]? =some v→Value.okWide P W .any base t v)
  (hW:DataW.Whole enc P fn.params.toList s.vars apart W args.toList ds gs before) (Q:List V→Prop)
  (hQ: ∀xs:List V,pS P fn.params.toList xs→(∀(j:Nat) v x,args.toList[j]? =some v→xs[j]? =some x→ao P W (nj W) (fun _=>none) (fun _=>none) v x)→Q xs)
  (IY: ∀xs,pS P fn.params.toList xs→Q xs→∃ds,pT ((A.sin key).bP.map (·.2)) xs=some ds∧Call P A key ds=some [.bool true]):
  Calls P f args W fun e W'=> ∃v,e= .returned v∧s.post enc P fn apart fresh handsOn again W args v W':=by
 have PU:=hW
 obtain ⟨p,q,hA,hV,rfl,IS,ka⟩:=hW
 rw[En] at hV
 obtain ⟨ZN,hq⟩:gs=[]∧q=[]:=by
  cases gs with
  | nil=>exact ⟨rfl,hV⟩
  | cons g gs=>exact hV.elim
 subst ZN
 subst hq
 obtain ⟨xs,hl,hr,PV⟩:=PM (β:=fun _=>none) (hp:=fun _=>none) hL (fun t ht=>Eh (fh.1 bE t ht)) (fun j t v a b=>eN j t v (by simpa using a) (by simpa using b)) hA
 obtain ⟨ls,ZO,zW⟩:=IY xs PV (hQ xs PV hr)
 obtain ⟨fn',c,h1,U,h3⟩:=ZD (A:=A) hP ni key ls [.bool true] zW
 rw[IT] at h1 h3
 rw[hf] at h1
 cases h1
 have wo: ∀j,(br (A.sin key) ls).hp j=none:=fun j=>by simp[br,mk,lB,eC,js]
 obtain ⟨_,r1,r2⟩:=zM (P:=P) (w:=W) (I:=nj W) (n:=0) (β:=fun _=>none) (β':=fun _=>none) (hp:=fun _=>none) (hp':=(br (A.sin key) ls).hp) (fun j hj=>absurd hj (Nat.not_lt_zero j)) ZO au
 have hlen:((A.sin key).bP.map (·.2)).length=xs.length:=by rw[←r1 [],IJ]
 have h4:=h3 W (nj W) (fun _=>none) args.toList ⟨fun id blk h=>(by rw[wo] at h;cases h),fun id aD blk blk' b h=>(by rw[wo] at h;cases h),fun id blk b h=>(by rw[wo] at h;cases h),fun b h=>h⟩ IX
  (by rw[hl,←hlen,aP]) (fun j v y hv hy=>r2 [] j v y (fun x hx=>hr j v x hv hx) (by rw[cP];exact hy))
 have ea:args.toList.toArray=args:=by simp
 rw[ea] at h4
 refine h4.mono fun e W' ⟨v,I2,b6,he,ha⟩=>⟨v,he,?_⟩
 have tA: ∀b,b<W.heap.size→W'.heap[b]? =W.heap[b]? :=fun b hb=>ha.wa.cb b hb (by rintro ⟨j,blk,hj,_⟩;rw[wo] at hj;cases hj)
 have HW:=ha.res
 have PW:A.so key [.bool true]=A.gi key∧A.lv key [.bool true]=[.bool true]:=by unfold cB.so cB.lv;rw[halt];exact ⟨rfl,rfl⟩
 rw[PW.1,PW.2,IW] at HW
 obtain rfl:v= .bool true:=HW.j5
 have lE:Value.okWide P W' .any 0 tb (.bool true):=by simp[Value.okWide,Em,Cell.okWide,Cell.ok]
 have k9:ds.length=fn.params.toList.length:=PO hA
 have iJ: ∀p'∈p++[],W.sameAt W' p':=by
  intro p' hp'
  have aO:=PU.lt p' hp'
  cases p' with
  | cell b o=>exact World.cell?_of_block (w:=W) (tA b aO)
  | map b=>exact tA b aO
 refine ZL (pa:=p) (pv:=[]) PU ?_ ?_ ?_ rfl ?_ ?_ ?_
 ·intro b sp hd
  rw[cP,hs ds k9,El]
  exact trodAll_mk1 ⟨1,by simp[DataW.trod,Value.cells,Em]⟩
 ·intro sp gP
  rw[cP,hs ds k9]
  refine PQ IU (fun t ht=> ?_) hA (fun p' hp'=>iJ p' (by simpa using hp')) (fun p' hp'=>gP p' (by simpa using hp'))
  have:=fh.1 IV t ht
  simp only[aK] at this
  exact ⟨this.1,by simpa[jQ] using this.2⟩
 ·intro sp gP
  rw[En,cP,hs ds k9]
  exact rfl
 ·refine ⟨ha.wa.io.1,ha.wa.io.2,fun i hi=> ?_⟩
  rw[tA i hi]
  split<;>simp_all
 ·intro a aO
  exact World.frozen?_of_block (w:=W) (tA a.block aO)
 ·intro j t r hj IZ
  rw[El] at hj IZ
  cases j with
  | zero=>
   simp[Value.resultList] at hj IZ
   subst hj
   subst IZ
   exact lE
  | succ j=>simp at hj
theorem Wi {A:cB} (hP:iK P A) (ni:P.follows .mixedOrders=true) {f key:Nat} {fn:Func} {tb:TypeId} {s:ChangeSpec} {apart fresh handsOn again:Bool}
  (hf:P.funcs[f]? =some fn) (IT:A.aT key=f) (hL:Aa P L=true) (bE:fn.params.toList.all (fun t=>hasB L t)=true) (El:fn.resultTypes= #[tb]) (Em:P.underlying tb=some .bool) (En:s.vars=[])
  (hs: ∀ds:List (DataW H),ds.length=fn.params.toList.length→s.fn H ds={results:=[.lit (.bool true)],args:=ds})
  (IU:laidOutB P=true) (IV:fn.params.toList.all (fun t=>P.readableRec t&&Nat.blt t P.types.size)=true)
  (lB:(A.sin key).bc=[]) (au:((A.sin key).bP.map (·.2)).all (VS.ok 0)=true) (IW:(A.gi key).bP=[(0,.one .bool)]) (halt:A.alt key=none)
  (IY: ∀xs,pS P fn.params.toList xs→∃ds,pT ((A.sin key).bP.map (·.2)) xs=some ds∧Call P A key ds=some [.bool true])
  {W:World} {base:Nat} {args:Array Value} {ds gs:List (DataW H)} {before:List MemPlace}
  (IX:gf P A.aE W (nj W)) (eN: ∀(j:Nat) t v,fn.params[j]? =some t→args[j]? =some v→Value.okWide P W .any base t v)
  (hW:DataW.Whole enc P fn.params.toList s.vars apart W args.toList ds gs before):
  Calls P f args W fun e W'=> ∃v,e= .returned v∧s.post enc P fn apart fresh handsOn again W args v W':=
 ZM hP ni hf IT hL bE El Em En hs IU IV lB au IW halt IX eN hW (fun _=>True) (fun _ _ _=>trivial) fun xs h _=>IY xs h
end
end Go.AM
namespace Go.AM
@[simp] theorem V.toInt_int (k:IntKind) (n:Int):V.toInt (.int k n)=n:=by cases k<;>rfl
@[simp] theorem V.ej (b:Bool):V.toBool (.bool b)=b:=by cases b<;>rfl
@[simp] theorem V.Eo (s:List UInt8):V.toStr (.str s)=s:=by cases s<;>rfl
@[simp] theorem V.kb (e:TypeId) (es:List V):V.toList (.list e es)=es:=by cases es<;>rfl
@[simp] theorem V.aiK (e:TypeId) (es:List V):V.toList (.own e es)=es:=by cases es<;>rfl
@[simp] theorem V.ZP (cs:List V) (j:Nat):V.cell (.agg cs) j=V.nth cs j:=by cases cs<;>rfl
@[simp] theorem V.aiL (cs:List V) (j:Nat):V.comp (.bn cs) j=V.nth cs j:=by cases cs<;>rfl
@[simp] theorem V.aW (x:V) (l:List V):V.nth (x::l) 0=x:=by cases l<;>rfl
@[simp] theorem V.qJ (x:V) (l:List V) (n:Nat):V.nth (x::l) (n+1)=V.nth l n:=by cases l<;>rfl
@[simp] theorem V.aiM (x y:V) (l:List V):V.nth (x::y::l) 1=y:=by cases l<;>rfl
@[simp] theorem V.aiN (x y z:V) (l:List V):V.nth (x::y::z::l) 2=z:=by cases l<;>rfl
@[simp] theorem V.aiO (x y z u:V) (l:List V):V.nth (x::y::z::u::l) 3=u:=by cases l<;>rfl
theorem wrap64 {x:Int} (h1: -9223372036854775808≤x) (U:x<9223372036854775808):IntKind.wrap .i64 x=x:=by
 rw[IntKind.wrap_i64];omega
theorem Ac {x:Int} (h1:0≤x) (U:x<256):IntKind.wrap .u8 x=x:=by
 rw[IntKind.wrap_u8];omega
@[simp] theorem I0 (es:List V) (n:Nat):idx es (n:Int)=es[n]? :=by simp[idx]
@[simp] theorem az {α:Type} (p:Prop) [Decidable p] (a b:α):(bif decide p then a else b)=if p then a else b:=by by_cases h:p<;>simp[h]
@[simp] theorem df {α:Type} (m n:Int) (a b:α):(bif m==n then a else b)=if m=n then a else b:=by
 by_cases h:m=n
 ·simp[h]
 ·have:(m==n)=false:=by simp[h]
  rw[this,ai h];rfl
@[simp] theorem r0 {α:Type} (m n:Int) (a b:α):(bif m != n then a else b)=if m=n then b else a:=by
 by_cases h:m=n
 ·simp[h]
 ·have:(m != n)=true:=by simp[h]
  rw[this,ai h];rfl
@[simp] theorem gp {α:Type} (c:Bool) (a b:α):(bif !c then a else b)=bif c then b else a:=by cases c<;>rfl
@[simp] theorem Ad {α:Type} (m n:Nat) (a b:α):(bif Nat.ble m n then a else b)=if m≤n then a else b:=by
 cases hb:Nat.ble m n with
 | true=>rw[aj (Nat.le_of_ble_eq_true hb)];rfl
 | false=>
  rw[ai fun h=> ?_]
  ·rfl
  ·rw[Nat.ble_eq_true_of_le h] at hb;cases hb
@[simp] theorem cS {α:Type} (c d:Bool) (a b:α):(bif c&&d then a else b)=bif c then (bif d then a else b) else b:=by cases c<;>rfl
section
variable {P:Program}
def PX (P : Program) : Bool := P.funcs.all fun fn => !(fn.name == "runtime.NumGoroutine")
theorem Wd (h:PX P=true):yw P:=by
 intro f fn hf
 unfold PX at h
 have:=(Array.all_eq_true_iff_forall_mem.1 h) fn (Array.mem_of_getElem? hf)
 simpa using this
theorem Mz {t:TypeId} {ts:List TypeId} {xs:List V} (h:pS P (t::ts) xs): ∃x ys,xs=x::ys∧jP P t x∧pS P ts ys:=by
 cases xs with
 | nil=>exact h.elim
 | cons x ys=>exact ⟨x,ys,rfl,h.1,h.2⟩
theorem Wf {xs:List V} (h:pS P [] xs):xs=[]:=by
 cases xs with
 | nil=>rfl
 | cons x ys=>exact h.elim
theorem jP.one {t:TypeId} {x:V} (ha:bK P t=false) (h:jP P t x):WT P t x:=by
 have he:aS P t=[t]:=by simp[aS,ha]
 have:=h.2 0 t (by rw[he];rfl)
 simpa[bM,ha] using this
theorem WT.ei {t:TypeId} {k:IntKind} {x:V} (hu:P.underlying t=some (.int k)) (h:WT P t x): ∃n,x= .int k n∧k.min≤n∧n≤k.max:=by
 cases h with
 | int h1 U=>
  rw[hu] at h1
  cases h1
  simp only[Lit.wf,aK,ec] at U
  exact ⟨_,rfl,U⟩
 | bool h1=>rw[hu] at h1;cases h1
 | str h1=>rw[hu] at h1;cases h1
 | list h1=>rw[hu] at h1;cases h1
theorem WT.j5 {t:TypeId} {x:V} (hu:P.underlying t=some .bool) (h:WT P t x): ∃b,x= .bool b:=by
 cases h with
 | int h1=>rw[hu] at h1;cases h1
 | bool h1=>exact ⟨_,rfl⟩
 | str h1=>rw[hu] at h1;cases h1
 | list h1=>rw[hu] at h1;cases h1
theorem WT.ma {t:TypeId} {x:V} (hu:P.underlying t=some .string) (h:WT P t x): ∃s,x= .str s∧s.length≤maxLen:=by
 cases h with
 | int h1=>rw[hu] at h1;cases h1
 | bool h1=>rw[hu] at h1;cases h1
 | str h1 U=>exact ⟨_,rfl,U⟩
 | list h1=>rw[hu] at h1;cases h1
theorem WT.ZQ {t e:TypeId} {x:V} (hu:P.underlying t=some (.slice e)) (h:WT P t x): ∃es,x= .list e es∧es.length≤maxLen∧∀y∈es,jP P e y:=by
 cases h with
 | int h1=>rw[hu] at h1;cases h1
 | bool h1=>rw[hu] at h1;cases h1
 | str h1=>rw[hu] at h1;cases h1
 | list h1 U h3 h4=>
  rw[hu] at h1
  cases h1
  refine ⟨_,rfl,U,fun y hy=> ?_⟩
  obtain ⟨i,hi⟩:=rp hy
  exact ⟨h3 i y hi,fun j t' hj=>h4 i j y t' hi hj⟩
theorem jP.kM {t:TypeId} {x:V} (ha:bK P t=true) (h:jP P t x): ∃xs,x= .agg xs∧xs.length=(aS P t).length∧∀(j:Nat) t' y,(aS P t)[j]? =some t'→xs[j]? =some y→WT P t' y:=by
 obtain ⟨xs,rfl,hl⟩:=h.1 ha
 refine ⟨xs,rfl,hl,fun j t' y hj hy=> ?_⟩
 have:=h.2 j t' hj
 simp only[bM,ha,cond_true,V.ZP] at this
 rw[tw _ _ _ hy] at this
 exact this
theorem PY {α:Type} {f:α→V} {p:α→Prop}: ∀{es:List V},(∀y∈es,∃a,y=f a∧p a)→∃l:List α,es=l.map f∧∀a∈l,p a
 | [],_=>⟨[],rfl,by simp⟩
 | y::es,h=>by
  obtain ⟨a,rfl,ha⟩:=h y (by simp)
  obtain ⟨l,rfl,hl⟩:=PY (f:=f) (p:=p) (es:=es) fun z hz=>h z (by simp[hz])
  exact ⟨a::l,rfl,by
   intro b hb
   rcases di.1 hb with rfl|hb
   ·exact ha
   ·exact hl b hb⟩
theorem jP.int {t:TypeId} {x:V} (hu:P.underlying t=some (.int .i64)) (h:jP P t x): ∃n,x= .int .i64 n∧IntKind.min .i64≤n∧n≤IntKind.max .i64:=
 (h.one (by simp[bK,hu])).ei hu
theorem jP.str {t:TypeId} {x:V} (hu:P.underlying t=some .string) (h:jP P t x): ∃s,x= .str s∧s.length≤maxLen:=
 (h.one (by simp[bK,hu])).ma hu
end
def un.{u} {A B:Type} {γ:Sort u} (f:A→B→γ) (p:A × B):γ:=f p.1 p.2
def b7 {A B γ:Type} (f:A→γ) (g:B→γ):A ⊕ B→γ
 | .inl a=>f a
 | .inr b=>g b
def aw:List Nat→Code→Code
 | [],c=>c
 | 0::p,.seq a _=>aw p a
 | _::p,.seq _ b=>aw p b
 | 0::p,.cond _ a _=>aw p a
 | _::p,.cond _ _ b=>aw p b
 | _::p,.block _ c=>aw p c
 | _::p,.loop c=>aw p c
 | _,c=>c
inductive cj where
 | loop (c:Code)
 | cond (t:Nat) (x y:Code)
section
variable (P:Program) (A:cB) (C:ag) (L:cp) (f n m:Nat)
def pz:Code→List cj
 | .seq a b=>pz a++pz b
 | .cond (.tmp t) x y=>
  match A.g9 f (t*16+15) with
  | none=>pz x++pz y
  | some _=>[.cond t x y]
 | .cond (.const _) x y=>pz x++pz y
 | .block _ c=>pz c
 | .loop c=>[.loop c]
 | _=>[]
def cl:cj→Prop
 | .loop c=>
  match A.g9 f (keyOf c+1) with
  | none=>True
  | some S=> ∀(β:Type) ds (k:Nat→List V→Option β),L β (keyOf c+1) ds k=(Loop (stepG P A C f n m S c) ds).bind fun r=>k r.1 r.2
 | .cond t x y=>
  match A.g9 f (t*16+15) with
  | none=>True
  | some S=> ∀(β:Type) ds (k:Nat→List V→Option β),L β (t*16+15) ds k=(zc P A C f n m t S x y ds).bind fun r=>k r.1 r.2
def nn:List cj→Prop
 | []=>True
 | b::l=>cl P A C L f n m b∧nn l
variable {P A C L f n m}
theorem nn.left {a b:List cj}:nn P A C L f n m (a++b)→nn P A C L f n m a:=by
 induction a with
 | nil=>exact fun _=>trivial
 | cons x a ih=>exact fun h=>⟨h.1,ih h.2⟩
theorem nn.right {a b:List cj}:nn P A C L f n m (a++b)→nn P A C L f n m b:=by
 induction a with
 | nil=>exact fun h=>h
 | cons x a ih=>exact fun h=>ih h.2
theorem bf: ∀{c:Code} {bs:List cj},pz A f c=bs→nn P A C L f n m bs→hZ P A C L f n m c:=by
 intro c
 induction c with
 | seq a b G9 Ha=>
  intro bs h hb
  subst h
  exact ⟨G9 rfl hb.left,Ha rfl hb.right⟩
 | cond c x y iz iA=>
  intro bs h hb
  subst h
  cases c with
  | tmp t=>
   simp only[pz] at hb
   simp only[hZ]
   cases hs:A.g9 f (t*16+15) with
   | none=>
    rw[hs] at hb
    exact ⟨iz rfl hb.left,iA rfl hb.right⟩
   | some S=>
    rw[hs] at hb
    have:=hb.1
    simp only[cl,hs] at this
    exact this
  | const v=>exact ⟨iz rfl hb.left,iA rfl hb.right⟩
  | _=>trivial
 | block id c ih=>
  intro bs h hb
  subst h
  exact ih rfl hb
 | loop c ih=>
  intro bs h hb
  subst h
  exact hb.1
 | _=>intro bs h hb;trivial
variable (P A C L f n m) in
noncomputable def I1 {β:Type} (t:Nat) (S:Shape × List (Out × Shape)) (x y:Code) (ds:List V) (k:Nat→List V→Option β):Option β:=
 let kc:Out→St→Option β:=fun o st=>
  match o with
  | .norm=>(ways m 0 S.2 (.norm,canon m (A.join f t) st)).bind fun e=>k e.1 e.2
  | o=>(ways m 0 S.2 (o,st)).bind fun e=>k e.1 e.2
 match (br S.1 ds).sl t with
 | .bool b=>bif b then hY P A C L f n m x (br S.1 ds) kc else hY P A C L f n m y (br S.1 ds) kc
 | _=>none
theorem ZR {t:Nat} {x y:Code} {S:Shape × List (Out × Shape)} (hS:A.g9 f (t*16+15)=some S) (hx:hZ P A C L f n m x) (hy:hZ P A C L f n m y) {I R:Type} (enc:I→List V) (mr:I→R→Nat × List V)
  (de:List V→I) (body:I→(β:Type)→(R→Option β)→Option β) (tZ: ∀ds,br S.1 (enc (de ds))=br S.1 ds)
  (e1: ∀i (β:Type) (k:Nat→List V→Option β),I1 P A C L f n m t S x y (enc i) k=body i β (fun r=>k (mr i r).1 (mr i r).2))
  (hl: ∀(β:Type) ds (k:Nat→List V→Option β),L β (t*16+15) ds k=body (de ds) β (fun r=>k (mr (de ds) r).1 (mr (de ds) r).2)):
  cl P A C L f n m (.cond t x y):=by
 simp only[cl,hS]
 intro β ds k
 rw[hl,←e1]
 unfold I1 zc
 rw[tZ]
 simp only
 have hk: ∀(z:Option (Out × St)),(z.bind fun r=>(match r.1 with
   | .norm=>(ways m 0 S.2 (.norm,canon m (A.join f t) r.2)).bind fun e=>k e.1 e.2
   | o=>(ways m 0 S.2 (o,r.2)).bind fun e=>k e.1 e.2))=((z.bind fun r=>
   match r.1 with
   | .norm=>some (Out.norm,canon m (A.join f t) r.2)
   | _=>some r).bind fun r=>ways m 0 S.2 r).bind fun r=>k r.1 r.2:=by
  intro z
  cases z with
  | none=>rfl
  | some r=>obtain ⟨o,st⟩:=r;cases o<;>rfl
 cases (br S.1 ds).sl t with
 | bool b=>
  cases b with
  | true=>simp only[cond_true,CY P A C f n m x hx];exact hk _
  | false=>simp only[cond_false,CY P A C f n m y hy];exact hk _
 | _=>rfl
theorem bA {b:cj} {l:List cj} (h:cl P A C L f n m b) (U:nn P A C L f n m l):nn P A C L f n m (b::l):=⟨h,U⟩
theorem ax:nn P A C L f n m []:=trivial
theorem a9 {key:Nat} {bs:List cj} (hb:pz A key (cC P (A.aT key))=bs) (ht:nn P A (Call P A) L key (cH P (A.aT key)) (A.sin key).bc.length bs) {ds:List V} {r:Option (List V)}
  (h:Hb P A (Call P A) L key ds=r):Call P A key ds=r:=by
 rw[ZG,Wo P A (Call P A) key (bf hb ht),h]
end
inductive LK where
 | int (k:IntKind)
 | bool
 | str
 | list (e:TypeId)
 | nat
def LK.Ty:LK→Type
 | .int _=>Int
 | .bool=>Bool
 | .str=>List UInt8
 | .list _=>List V
 | .nat=>Nat
def LK.enc:(k:LK)→k.Ty→V
 | .int k,n=> .int k n
 | .bool,b=> .bool b
 | .str,s=> .str s
 | .list e,l=> .list e l
 | .nat,n=>ed n
def LK.dec:(k:LK)→V→k.Ty
 | .int _,v=>v.toInt
 | .bool,v=>v.toBool
 | .str,v=>v.toStr
 | .list _,v=>v.toList
 | .nat,v=>kG v
theorem LK.PZ: ∀(k:LK) (x:k.Ty),k.dec (k.enc x)=x
 | .int _,_=>rfl
 | .bool,_=>rfl
 | .str,_=>rfl
 | .list _,_=>rfl
 | .nat,_=>rfl
def I4:List Nat→List LK
 | []=>[]
 | _::l=> .nat::I4 l
def LS.ks:LS→List LK
 | .int k=>[.int k]
 | .bool=>[.bool]
 | .str=>[.str]
 | .list e=>[.list e]
 | .sub .. =>[.nat,.nat]
 | .ptr _=>[.nat,.nat]
 | .row _ _ cs=>I4 cs
 | .cA _ cs _=> .nat::I4 cs
 | _=>[]
def wq:List LS→List LK
 | []=>[]
 | l::ls=>l.ks++wq ls
def VS.ks:VS→List LK
 | .one l=>l.ks
 | .agg ls=>wq ls
 | .bn ls=>wq ls
 | .fn _ a b=>wq a++wq b
 | .pref _ ls=>wq ls
def P0:List VS→List LK
 | []=>[]
 | l::ls=>l.ks++P0 ls
def BS.ks:BS→List LK
 | .var _ cs=>P0 cs
 | .arr e _=>[.list e]
 | .nest e=>[.list e]
 | .dead=>[]
 | .map t=>[.list t]
def P1:List (Nat × VS)→List LK
 | []=>[]
 | p::l=>p.2.ks++P1 l
def P2:List BS→List LK
 | []=>[]
 | b::l=>b.ks++P2 l
def Shape.ks (S:Shape):List LK:=P1 S.bP++P2 S.bc
def I5:List Nat→List V→List V
 | [],_=>[]
 | _::cs,ds=>ed (kG (V.nth ds 0))::I5 cs (ds.drop 1)
def LS.norm:LS→List V→List V
 | .int k,ds=>[.int k (V.nth ds 0).toInt]
 | .bool,ds=>[.bool (V.nth ds 0).toBool]
 | .str,ds=>[.str (V.nth ds 0).toStr]
 | .list e,ds=>[.list e (V.nth ds 0).toList]
 | .sub ..,ds=>[ed (kG (V.nth ds 0)),ed (kG (V.nth ds 1))]
 | .ptr _,ds=>[ed (kG (V.nth ds 0)),ed (kG (V.nth ds 1))]
 | .row _ _ cs,ds=>I5 cs ds
 | .cA _ cs _,ds=>ed (kG (V.nth ds 0))::I5 cs (ds.drop 1)
 | _,_=>[]
def wu:List LS→List V→List V
 | [],_=>[]
 | l::ls,ds=>l.norm ds++wu ls (ds.drop l.size)
def VS.norm:VS→List V→List V
 | .one l,ds=>l.norm ds
 | .agg ls,ds=>wu ls ds
 | .bn ls,ds=>wu ls ds
 | .fn _ a b,ds=>wu a ds++wu b (ds.drop (jV a))
 | .pref _ ls,ds=>wu ls ds
def P4:List VS→List V→List V
 | [],_=>[]
 | l::ls,ds=>l.norm ds++P4 ls (ds.drop l.size)
def BS.norm:BS→List V→List V
 | .var _ cs,ds=>P4 cs ds
 | .arr e _,ds=>[.list e (V.nth ds 0).toList]
 | .nest e,ds=>[.list e (V.nth ds 0).toList]
 | .dead,_=>[]
 | .map t,ds=>[.list t (V.nth ds 0).toList]
def P5:List (Nat × VS)→List V→List V
 | [],_=>[]
 | p::l,ds=>p.2.norm ds++P5 l (ds.drop p.2.size)
def P6:List BS→List V→List V
 | [],_=>[]
 | b::l,ds=>b.norm ds++P6 l (ds.drop b.size)
def Shape.norm (S:Shape) (ds:List V):List V:=P5 S.bP ds++P6 S.bc (ds.drop (nX S.bP))
def ua:LK→List LK→Type
 | k,[]=>k.Ty
 | k,k'::ks=>k.Ty × ua k' ks
def kf:List LK→Type
 | []=>Unit
 | k::ks=>ua k ks
def ub:(k:LK)→(ks:List LK)→ua k ks→List V
 | k,[],x=>[k.enc x]
 | k,k'::ks,x=>k.enc x.1::ub k' ks x.2
def kS:(ks:List LK)→kf ks→List V
 | [],_=>[]
 | k::ks,x=>ub k ks x
def Ae:(k:LK)→(ks:List LK)→List V→ua k ks
 | k,[],l=>k.dec (V.nth l 0)
 | k,k'::ks,l=>(k.dec (V.nth l 0),Ae k' ks l.tail)
def oz:(ks:List LK)→List V→kf ks
 | [],_=>()
 | k::ks,l=>Ae k ks l
theorem P7: ∀(k:LK) (ks:List LK) (x:ua k ks) (r:List V),Ae k ks (ub k ks x++r)=x
 | k,[],x,r=>LK.PZ k x
 | k,k'::ks,x,r=>by
  show (k.dec (k.enc x.1),Ae k' ks (ub k' ks x.2++r))=x
  rw[LK.PZ,P7 k' ks]
  rfl
def wv:List LK→Type 1→Type 1
 | [],R=>R
 | k::ks,R=>k.Ty→wv ks R
def P8:(k:LK)→(ks:List LK)→{R:Type 1}→wv (k::ks) R→ua k ks→R
 | _,[],_,f,x=>f x
 | _,k'::ks,_,f,x=>P8 k' ks (f x.1) x.2
def uc:(ks:List LK)→{R:Type 1}→wv ks R→kf ks→R
 | [],_,f,_=>f
 | k::ks,_,f,x=>P8 k ks f x
def wz {α:Type} (b:Bool):List Bool→List α→List α
 | [],_=>[]
 | _,[]=>[]
 | c::m,x::l=>bif c==b then x::wz b m l else wz b m l
def merge:List Bool→List V→List V→List V
 | [],_,_=>[]
 | true::m,i,x=>V.nth x 0::merge m i x.tail
 | false::m,i,x=>V.nth i 0::merge m i.tail x
def wA:List Nat→List LK→List LK
 | [],_=>[]
 | _,[]=>[]
 | 0::t,k::ks=>k::wA t ks
 | (_+1)::t,_::ks=>wA t ks
abbrev ft:=List Nat × List LK
def ft.fresh (w:ft):List LK:=wA w.1 w.2
def put:List Nat→List V→List V→List V
 | [],_,_=>[]
 | 0::t,ds,x=>V.nth x 0::put t ds x.tail
 | (j+1)::t,ds,x=>V.nth ds j::put t ds x
def ud:List Nat→List V→List V
 | [],_=>[]
 | 0::t,l=>V.nth l 0::ud t l.tail
 | (_+1)::t,l=>ud t l.tail
def sa:ft→List ft→Type
 | w,[]=>kf w.fresh
 | w,w'::ws=>kf w.fresh ⊕ sa w' ws
def qK:List ft→Type
 | []=>Empty
 | w::ws=>sa w ws
def wN (ds:List V) {β:Type} (k:Nat→List V→Option β):Nat→(w:ft)→(ws:List ft)→sa w ws→Option β
 | j,w,[],r=>k j (put w.1 ds (kS w.fresh r))
 | j,w,w'::ws,r=>b7 (fun x=>k j (put w.1 ds (kS w.fresh x))) (fun y=>wN ds k (j+1) w' ws y) r
def wT (ds:List V) {β:Type} (k:Nat→List V→Option β):(ws:List ft)→qK ws→Option β
 | [],r=>Empty.elim r
 | w::ws,r=>wN ds k 0 w ws r
def oA (ds:List V):Nat→(w:ft)→(ws:List ft)→sa w ws→Nat × List V
 | j,w,[],r=>(j,put w.1 ds (kS w.fresh r))
 | j,w,_::_,.inl x=>(j,put w.1 ds (kS w.fresh x))
 | j,_,w'::ws,.inr y=>oA ds (j+1) w' ws y
def wB (ds:List V):(ws:List ft)→qK ws→Nat × List V
 | [],r=>Empty.elim r
 | w::ws,r=>oA ds 0 w ws r
theorem P9 (ds:List V) {β:Type} (k:Nat→List V→Option β): ∀(j:Nat) (w:ft) (ws:List ft) (r:sa w ws),wN ds k j w ws r=k (oA ds j w ws r).1 (oA ds j w ws r).2
 | _,_,[],_=>rfl
 | _,_,_::_,.inl _=>rfl
 | j,_,w'::ws,.inr y=>P9 ds k (j+1) w' ws y
theorem Ep (ds:List V) {β:Type} (k:Nat→List V→Option β): ∀(ws:List ft) (r:qK ws),wT ds k ws r=k (wB ds ws r).1 (wB ds ws r).2
 | [],r=>Empty.elim r
 | w::ws,r=>P9 ds k 0 w ws r
def wC:Nat→(w:ft)→(ws:List ft)→List V→sa w ws
 | _,w,[],l=>oz w.fresh (ud w.1 l)
 | 0,w,_::_,l=> .inl (oz w.fresh (ud w.1 l))
 | j+1,_,w'::ws,l=> .inr (wC j w' ws l)
def Qa (j:Nat):(ws:List ft)→List V→Option (qK ws)
 | [],_=>none
 | w::ws,l=>some (wC j w ws l)
def wD:List Nat→List V→List V
 | [],_=>[]
 | 0::t,x=>V.nth x 0::wD t x.tail
 | (_+1)::t,x=>wD t x
theorem I6: ∀(t:List Nat) (ds x:List V),ud t (put t ds x)=wD t x
 | [],_,_=>rfl
 | 0::t,ds,x=>congrArg (V.nth x 0:: ·) (I6 t ds x.tail)
 | (_+1)::t,ds,x=>I6 t ds x
theorem I7: ∀(t:List Nat) (ks:List LK) (k:LK) (bN:List LK),wA t ks=k::bN→∀x:ua k bN,∃r,wD t (ub k bN x)=ub k bN x++r
 | [],_,_,_,h,_=>by cases h
 | _::_,[],_,_,h,_=>by simp[wA] at h
 | 0::t,a::ks,k,bN,h,x=>by
  simp only[wA,List.cons.injEq] at h
  obtain ⟨rfl,U⟩:=h
  cases bN with
  | nil=>exact ⟨wD t [],rfl⟩
  | cons k' bN=>
   obtain ⟨r,hr⟩:=I7 t ks k' bN U x.2
   exact ⟨r,congrArg (a.enc x.1:: ·) hr⟩
 | (_+1)::t,a::ks,k,bN,h,x=>I7 t ks k bN h x
theorem Qb (w:ft) (ds:List V) (x:kf w.fresh):oz w.fresh (ud w.1 (put w.1 ds (kS w.fresh x)))=x:=by
 rw[I6]
 revert x
 generalize hf:w.fresh=f
 cases f with
 | nil=>intro x;rfl
 | cons k ks=>
  intro x
  obtain ⟨r,hr⟩:=I7 w.1 w.2 k ks hf x
  show Ae k ks (wD w.1 (ub k ks x))=x
  rw[hr]
  exact P7 k ks x r
theorem Qc (ds:List V): ∀(j:Nat) (w:ft) (ws:List ft) (r:sa w ws),j≤(oA ds j w ws r).1
 | _,_,[],_=>bY _
 | _,_,_::_,.inl _=>bY _
 | j,_,w'::ws,.inr y=>la (Nat.le_succ j) (Qc ds (j+1) w' ws y)
theorem ZS (w:ft) (l:List V): ∀j,wC j w [] l=oz w.fresh (ud w.1 l)
 | 0=>rfl
 | _+1=>rfl
theorem Qd (ds:List V): ∀(j:Nat) (w:ft) (ws:List ft) (r:sa w ws),wC ((oA ds j w ws r).1-j) w ws (oA ds j w ws r).2=r
 | j,w,[],r=>(ZS w _ _).trans (Qb w ds r)
 | j,w,w'::ws,.inl x=>by
  show wC (j-j) w (w'::ws) (put w.1 ds (kS w.fresh x))= .inl x
  rw[Nat.sub_self]
  exact congrArg Sum.inl (Qb w ds x)
 | j,w,w'::ws,.inr y=>by
  have h1:=Qc ds (j+1) w' ws y
  have U:=Qd ds (j+1) w' ws y
  show wC ((oA ds (j+1) w' ws y).1-j) w (w'::ws) (oA ds (j+1) w' ws y).2= .inr y
  obtain ⟨d,hd⟩: ∃d,(oA ds (j+1) w' ws y).1=j+1+d:=⟨(oA ds (j+1) w' ws y).1-(j+1),by omega⟩
  rw[hd] at U⊢
  rw[show j+1+d-(j+1)=d by omega] at U
  rw[show j+1+d-j=d+1 by omega]
  exact congrArg Sum.inr U
theorem ZT (ds:List V): ∀(ws:List ft) (r:qK ws),Qa (wB ds ws r).1 ws (wB ds ws r).2=some r
 | [],r=>Empty.elim r
 | w::ws,r=>congrArg some (Qd ds 0 w ws r)
section
variable {P:Program} {A:cB} {C:ag} {L:cp} {f n m:Nat}
theorem ZU {c:Code} {S:Shape × List (Out × Shape)} (hS:A.g9 f (keyOf c+1)=some S) (hL:hZ P A C L f n m c) {I X R:Type} (enc:I→X→List V) (mr:I→R→Nat × List V)
  (pA:List V→I) (qL:List V→X) (Er:Nat × List V→Option R) (body:I→X→(β:Type)→(X→Option β)→(R→Option β)→Option β)
  (tZ: ∀ds,br S.1 (enc (pA ds) (qL ds))=br S.1 ds) (I8: ∀i x,qL (enc i x)=x) (ZV: ∀i r,Er (mr i r)=some r)
  (e1: ∀i x (β:Type) (k:(List V ⊕ (Nat × List V))→Option β),hY P A C L f n m c (br S.1 (enc i x)) (fun o st=>(mV m S.1 S.2 (some (o,st))).bind k)=
   body i x β (fun y=>k (.inl (enc i y))) (fun r=>k (.inr (mr i r))))
  (hl: ∀(β:Type) ds (k:Nat→List V→Option β),L β (keyOf c+1) ds k=(Loop (fun x=>body (pA ds) x (X ⊕ R) (fun y=>some (.inl y)) (fun r=>some (.inr r))) (qL ds)).bind fun r=>k (mr (pA ds) r).1 (mr (pA ds) r).2):
  cl P A C L f n m (.loop c):=by
 simp only[cl,hS]
 intro β ds k
 rw[hl]
 have hex: ∀(z:Option (Out × St)),mV m S.1 S.2 z=z.bind fun r=>mV m S.1 S.2 (some (r.1,r.2)):=by
  intro z;cases z<;>rfl
 have hs: ∀i x,stepG P A C f n m S c (enc i x)=(body i x (X ⊕ R) (fun y=>some (.inl y)) (fun r=>some (.inr r))).map fun| .inl y=> .inl (enc i y)| .inr r=> .inr (mr i r):=by
  intro i x
  have k1:=e1 i x _ (fun z=>some z)
  have k2:=e1 i x (X ⊕ R) (fun| .inl ds=>some (.inl (qL ds))| .inr e=>(Er e).map .inr)
  have k3:=e1 i x (List V ⊕ (Nat × List V)) (fun| .inl ds=>some (.inl (enc i (qL ds)))| .inr e=>(Er e).map fun r=> .inr (mr i r))
  simp only[I8,ZV,Option.map_some] at k2 k3
  unfold stepG
  rw[hex]
  rw[CY P A C f n m c hL] at k1 k2 k3
  rw[←k2]
  refine aZ ?_ (k1.trans (k3.symm.trans ?_))
  ·congr 1
   funext r
   cases mV m S.1 S.2 (some (r.1,r.2))<;>rfl
  ·cases exec P A C f n m c (br S.1 (enc i x)) with
   | none=>rfl
   | some r=>
    simp only[Option.bind_some]
    cases mV m S.1 S.2 (some (r.1,r.2)) with
    | none=>rfl
    | some z=>
     cases z with
     | inl _=>rfl
     | inr e=>simp only[Option.bind_some];cases Er e<;>rfl
 have h0:stepG P A C f n m S c ds=stepG P A C f n m S c (enc (pA ds) (qL ds)):=by
  unfold stepG
  rw[tZ]
 have:Loop (stepG P A C f n m S c) ds=(Loop (fun x=>body (pA ds) x (X ⊕ R) (fun y=>some (.inl y)) (fun r=>some (.inr r))) (qL ds)).map (mr (pA ds)):=by
  rw[Cz,h0,←Cz]
  exact Wm (enc (pA ds)) (mr (pA ds)) (fun x=>hs _ _) (qL ds)
 rw[this]
 cases Loop (fun x=>body (pA ds) x (X ⊕ R) (fun y=>some (.inl y)) (fun r=>some (.inr r))) (qL ds)<;>rfl
abbrev Af (S:Shape) (mk:List Bool):List LK:=wz false mk S.ks
abbrev ue (S:Shape) (mk:List Bool):List LK:=wz true mk S.ks
def qM (ts:List (List Nat)) (W:List (Out × Shape)):List ft:=
 match ts,W with
 | t::ts,w::W=>(t,w.2.ks)::qM ts W
 | _,_=>[]
abbrev Ag (S:Shape) (mk:List Bool) (i:kf (Af S mk)) (x:kf (ue S mk)):List V:=merge mk (kS _ i) (kS _ x)
abbrev I9 (S:Shape) (mk:List Bool) (i:kf (Af S mk)):List V:=merge mk (kS _ i) []
abbrev Et (S:Shape) (mk:List Bool) (ds:List V):kf (Af S mk):=oz _ (wz false mk (S.norm ds))
abbrev Eu (S:Shape) (mk:List Bool) (ds:List V):kf (ue S mk):=oz _ (wz true mk (S.norm ds))
abbrev Qe (X R:Type):Type 1:=(β:Type)→(X→Option β)→(R→Option β)→Option β
abbrev Ja (S:Shape × List (Out × Shape)) (mk:List Bool) (ts:List (List Nat)):Type 1:=wv (Af S.1 mk) (wv (ue S.1 mk) (Qe (kf (ue S.1 mk)) (qK (qM ts S.2))))
abbrev Jb (S:Shape × List (Out × Shape)) (mk:List Bool) (ts:List (List Nat)) (b:Ja S mk ts) (i:kf (Af S.1 mk)) (x:kf (ue S.1 mk)):Qe (kf (ue S.1 mk)) (qK (qM ts S.2)):=uc _ (uc _ b i) x
noncomputable def bW (S:Shape × List (Out × Shape)) (mk:List Bool) (ts:List (List Nat)) (b:Ja S mk ts) {β:Type} (ds:List V) (k:Nat→List V→Option β):Option β:=
 (Loop (fun x=>Jb S mk ts b (Et S.1 mk ds) x (kf (ue S.1 mk) ⊕ qK (qM ts S.2)) (fun y=>some (.inl y)) (fun r=>some (.inr r))) (Eu S.1 mk ds)).bind (wT (I9 S.1 mk (Et S.1 mk ds)) k (qM ts S.2))
theorem ca {c:Code} (S:Shape × List (Out × Shape)) (mk:List Bool) (ts:List (List Nat)) (b:Ja S mk ts) (hS:A.g9 f (keyOf c+1)=some S) (hL:hZ P A C L f n m c)
  (tZ: ∀ds,br S.1 (Ag S.1 mk (Et S.1 mk ds) (Eu S.1 mk ds))=br S.1 ds) (I8: ∀i x,Eu S.1 mk (Ag S.1 mk i x)=x)
  (e1: ∀i x (β:Type) (k:(List V ⊕ (Nat × List V))→Option β),hY P A C L f n m c (br S.1 (Ag S.1 mk i x)) (fun o st=>(mV m S.1 S.2 (some (o,st))).bind k)=
   Jb S mk ts b i x β (fun y=>k (.inl (Ag S.1 mk i y))) (wT (I9 S.1 mk i) (fun j l=>k (.inr (j,l))) (qM ts S.2)))
  (hl: ∀(β:Type) ds (k:Nat→List V→Option β),L β (keyOf c+1) ds k=bW S mk ts b ds k):
  cl P A C L f n m (.loop c):=
 ZU hS hL (Ag S.1 mk) (fun i r=>wB (I9 S.1 mk i) _ r) (Et S.1 mk) (Eu S.1 mk) (fun e=>Qa e.1 _ e.2) (Jb S mk ts b) tZ I8 (fun i r=>ZT _ _ r)
  (fun i x β k=>by
   rw[e1]
   congr 1
   funext r
   exact Ep _ _ _ r)
  (fun β ds k=>by
   rw[hl]
   unfold bW
   congr 1
   funext r
   exact Ep _ _ _ r)
abbrev Qf (S:Shape × List (Out × Shape)) (ts:List (List Nat)):Type 1:=wv S.1.ks ((β:Type)→(qK (qM ts S.2)→Option β)→Option β)
noncomputable def iN (S:Shape × List (Out × Shape)) (ts:List (List Nat)) (b:Qf S ts) {β:Type} (ds:List V) (k:Nat→List V→Option β):Option β:=
 uc S.1.ks b (oz _ (S.1.norm ds)) β (wT (kS S.1.ks (oz _ (S.1.norm ds))) k (qM ts S.2))
theorem jh {t:Nat} {x y:Code} (S:Shape × List (Out × Shape)) (ts:List (List Nat)) (b:Qf S ts) (hS:A.g9 f (t*16+15)=some S) (hx:hZ P A C L f n m x) (hy:hZ P A C L f n m y)
  (tZ: ∀ds,br S.1 (kS S.1.ks (oz _ (S.1.norm ds)))=br S.1 ds)
  (e1: ∀i (β:Type) (k:Nat→List V→Option β),I1 P A C L f n m t S x y (kS S.1.ks i) k=uc S.1.ks b i β (wT (kS S.1.ks i) k (qM ts S.2)))
  (hl: ∀(β:Type) ds (k:Nat→List V→Option β),L β (t*16+15) ds k=iN S ts b ds k):
  cl P A C L f n m (.cond t x y):=
 ZR hS hx hy (kS S.1.ks) (fun i r=>wB (kS S.1.ks i) _ r) (fun ds=>oz _ (S.1.norm ds)) (uc S.1.ks b) tZ
  (fun i β k=>by
   rw[e1]
   exact congrArg (uc S.1.ks b i β) (funext fun r=>Ep _ _ _ r))
  (fun β ds k=>by
   rw[hl]
   exact congrArg (uc S.1.ks b (oz _ (S.1.norm ds)) β) (funext fun r=>Ep _ _ _ r))
end
def cm:cp:=fun _ _ _ _=>none
end Go.AM
