/-
  Functions of the program, lifted to plain data.
-/
import Derived.Conc.MuLone
import Derived.Defers
import Derived.Carry
import Derived.OpenShut
import Derived.Deep.Slices
import Derived.Test.YtnbcjledacomdaaGreatDoorP2
set_option linter.unusedVariables false
set_option linter.unusedSimpArgs false
namespace Go.AM
section
variable {P:Program} {A:dg} {w w':World} {I I' I2:Nat→Nat→Prop} {μ β β' cP:Nat→Option Nat} {hp hp' hp0 bQ:Nat→Option ah} {C:ab} {B:Nat} {M:Nat→Prop} {w0:Start}
structure mE (w:World) (I:Nat→Nat→Prop) (β:Nat→Option Nat) (hp:Nat→Option ah) (w':World) (I':Nat→Nat→Prop) (β':Nat→Option Nat) (hp':Nat→Option ah):Prop where
 dR: ∀b j,I b j→I' b j
 cO: ∀b j,I b j→w'.cell? ⟨b,j,none⟩=w.cell? ⟨b,j,none⟩
 blk: ∀id blk,hp id=some blk→∃blk',hp' id=some blk'∧blk.le blk'∧(blk'≠ .dead→β' id=β id)
 size: ∀id blk blk' b,hp id=some blk→hp' id=some blk'→blk'≠ .dead→β id=some b→bsize w' b=bsize w b
theorem Le.z8 (h:Le P w I β hp w' I' β' hp'):mE w I β hp w' I' β' hp':=⟨h.dR,h.cO,h.blk,h.size⟩
theorem mE.trans {Cw:World} {Cx:Nat→Nat→Prop} {Cy:Nat→Option Nat} {Cz:Nat→Option ah} (h1:mE w I β hp w' I' β' hp') (h2:mE w' I' β' hp' Cw Cx Cy Cz):mE w I β hp Cw Cx Cy Cz:=by
 refine ⟨fun b j h=>h2.dR b j (h1.dR b j h),fun b j h=>(h2.cO b j (h1.dR b j h)).trans (h1.cO b j h),fun id blk h=> ?_,fun id blk wJ b h u0 hd hb=> ?_⟩
 ·obtain ⟨blk',e',l',b'⟩:=h1.blk id blk h
  obtain ⟨wJ,eI,CA,MZ⟩:=h2.blk id blk' e'
  refine ⟨wJ,eI,ah.le_trans l' CA,fun hd=> ?_⟩
  have fG:blk'≠ .dead:=fun e=>hd (ah.rI (e▸CA))
  exact (MZ hd).trans (b' fG)
 ·obtain ⟨blk',e',l',b'⟩:=h1.blk id blk h
  obtain ⟨ja,e3,l3,b3⟩:=h2.blk id blk' e'
  obtain rfl:ja=wJ:=by rw[e3] at u0;exact dD u0
  have fG:blk'≠ .dead:=fun e=>hd (ah.rI (e▸l3))
  rw[h2.size id blk' ja b e' e3 hd ((b' fG).trans hb),h1.size id blk blk' b h e' fG hb]
def qD (P:Program) (w:World) (μ:Nat→Option Nat) (hp0:Nat→Option ah) (b:Nat):Prop:= ∃j blk,hp0 j=some blk∧bW P w (μ j) blk b
structure ahr (P:Program) (A:dg) (key:Nat) (w:World) (I:Nat→Nat→Prop) (μ:Nat→Option Nat) (ds es:List V) (w':World) (v:Value) (I2:Nat→Nat→Prop) (cP:Nat→Option Nat):Prop where
 z9:aW P w' I2 cP (bN (A.so key es) (A.lv key es)).hp w.heap.size (qD P w μ (bN (A.sin key) ds).hp) ⟨w,I⟩
 le:mE w I μ (bN (A.sin key) ds).hp w' I2 cP (bN (A.so key es) (A.lv key es)).hp
 res:aj P w' I2 cP (bN (A.so key es) (A.lv key es)).hp v (rG (gh (A.so key es).b6 (A.lv key es)))
def mF (P:Program) (A:dg) (C:ab):Prop:=
 ∀key ds es,C key ds=some es→∃fn c,P.funcs[A.ic key]? =some fn∧fn.body=some c∧
  ∀(w:World) (I:Nat→Nat→Prop) (μ:Nat→Option Nat) (vals:List Value),
   wI P w I μ (bN (A.sin key) ds).hp w.heap.size (qD P w μ (bN (A.sin key) ds).hp)→iC P A.aU w I→
   vals.length=(A.sin key).b6.length→(∀(j:Nat) v x,vals[j]? =some v→(gz ((A.sin key).b6.map (·.2)) ds)[j]? =some x→aj P w I μ (bN (A.sin key) ds).hp v x)→
   Calls P (A.ic key) vals.toArray w fun e w'=> ∃v I2 cP,e= .returned v∧ahr P A key w I μ ds es w' v I2 cP
theorem eU.xi {p:Place} {o:Option Nat} {blk:ah} {b:Nat} (h:eU P w β hp p o blk) (ho:bW P w o blk b):
  ∃tv,hp p.id=some tv∧bW P w (β p.id) tv b∧∀e es,tv≠ .arr e es true:=by
 cases h with
 | var h=>exact ⟨_,h,.root (by simp) (ho.flat (by simp)),by simp⟩
 | arr h=>exact ⟨_,h,.root (by simp) (ho.flat (by simp)),by simp⟩
 | map h=>exact ⟨_,h,.root (by simp) (ho.flat (by simp)),by simp⟩
 | nest h=>
  refine ⟨_,h,?_,by simp⟩
  cases ho with
  | root _ hb=>exact .root (by simp) hb
  | row hb ha=>exact .row hb ha
 | row h hb ha _ _ _ _ _=>
  have:=ho.flat (by simp)
  cases this
  exact ⟨_,h,.row hb ha,by simp⟩
theorem aW.ahs (S:aW P w I β hp B M w0) {id b:Nat} {blk:ah} (ae:hp id=some blk) (ho:bW P w (β id) blk b) (hf: ∀e es,blk≠ .arr e es true): ∀j,¬I b j:=by
 have hr:=S.h.rel id blk ae
 generalize β id=o at hr ho
 cases hr with
 | var hb _ _ hI _ _=>have:=ho.flat (by simp);rw[hb] at this;cases this;exact hI
 | eh hb=>have:=ho.flat (by simp);rw[hb] at this;cases this
 | @arr e es fz _ _ _ hb _ _ _ dX _=>
  have:=ho.flat (by simp)
  rw[hb] at this;cases this
  cases fz with
  | true=>exact absurd rfl (hf e es)
  | false=>exact dX rfl
 | dead=>exact absurd rfl ho.alive
 | map _ hb _ _ hI _ _=>have:=ho.flat (by simp);rw[hb] at this;cases this;exact hI
 | nest hb hr _=>
  cases ho with
  | root _ aI=>rw[hb] at aI;cases aI;exact (hr _ _ _ _ .here).nI
  | row aI ha=>rw[hb] at aI;cases aI;exact (hr _ _ _ _ ha).nI
theorem IM {a b:List Nat} (h:zq a b=false) {x:Nat} (ha:x∈a):x∉b:=by
 intro hb
 unfold zq at h
 rw[List.any_eq_false] at h
 exact h x ha (zO hb)
theorem aht (S:aW P w I β hp B M w0) {pl:List Place} {upd:List (Nat × ah)} {o:Nat→Option Nat} (lS:(pl.map Place.id).Nodup) (qE:zq (upd.map (·.1)) (pl.map Place.id)=false)
  (hl: ∀j blk,hp0 j=some blk→∃p,e7 pl j=some p∧eU P w β hp p (o j) blk)
  (dm:(∀j blk,hp0 j=some blk→∀b,bW P w (o j) blk b→∀j,¬jV P w I β hp upd b j)→∀j blk,hp0 j=some blk→eT P w (jV P w I β hp upd) o hp0 (o j) blk) (bx: ∀b j,jV P w I β hp upd b j→b<w.heap.size):
  wI P w (jV P w I β hp upd) o hp0 w.heap.size (qD P w o hp0):=by
 have dv: ∀j blk,hp0 j=some blk→∀b,bW P w (o j) blk b→∀j,¬jV P w I β hp upd b j:=by
  intro j blk hj b ho jj hI
  obtain ⟨p,bQ,fj⟩:=hl j blk hj
  obtain ⟨tv,k1,k2,k3⟩:=fj.xi ho
  rcases hI with hI|⟨q,hq,cD,q1,q2⟩
  ·exact S.ahs k1 k2 k3 jj hI
  ·have:=S.h.inj _ _ _ _ b q1 k1 q2.own k2
   refine IM qE (gf.2 ⟨q,hq,rfl⟩) ?_
   rw[this]
   rw[nw] at bQ
   exact gf.2 ⟨p,jN bQ,rfl⟩
 refine ⟨dm dv,fun j1 j2 b1 b2 b h1 h2 o1 o2=> ?_,fun j blk b h1 o1=> .inl ⟨j,blk,h1,o1⟩,bx⟩
 obtain ⟨p1,q1,q2⟩:=hl j1 b1 h1
 obtain ⟨p2,r1,r2⟩:=hl j2 b2 h2
 obtain ⟨c1,x1,x2,_⟩:=q2.xi o1
 obtain ⟨c2,y1,y2,_⟩:=r2.xi o2
 have ae:=S.h.inj _ _ _ _ b x1 y1 x2 y2
 rw[nw] at q1 r1
 have m1:(pl.map Place.id)[j1]? =some p1.id:=by rw[eZ,q1];rfl
 have m2:(pl.map Place.id)[j2]? =some p2.id:=by rw[eZ,r1];rfl
 rw[←ae] at m2
 obtain ⟨z1,z2⟩:=bO.1 m1
 obtain ⟨z3,z4⟩:=bO.1 m2
 exact (List.getElem_inj lS).1 (z2.trans z4.symm)
def WQ:V→Prop
 | .list .. =>False
 | .pref .. =>False
 | .agg _=>False
 | .bL _=>False
 | .fn .. =>False
 | _=>True
theorem aj.free {v:Value} {x:V} (h:aj P w I β hp v x) (hx:WQ x):aj P w I' β hp v x:=by
 cases h with
 | undef=>exact .undef
 | int=>exact .int
 | bool=>exact .bool
 | str h=>exact .str h
 | list h=>exact hx.elim
 | nilS=>exact .nilS
 | agg=>exact hx.elim
 | bL=>exact hx.elim
 | ee=>exact .ee
 | fn=>exact hx.elim
 | pref=>exact hx.elim
 | eS h=>exact .eS h
 | ig h=>exact .ig h
 | lH h=>exact .lH h
 | eF h hb=>exact .eF h hb
 | whole h hb a b c=>exact .whole h hb a b c
 | e8 h hb a b c=>exact .e8 h hb a b c
 | gS h hb=>exact .gS h hb
 | sub h hb a b c=>exact .sub h hb a b c
 | ptr h hd hb=>exact .ptr h hd hb
 | kT h tn=>exact .kT h tn
 | kU h tn=>exact .kU h tn
 | row h hb a b c d=>exact .row h hb a b c d
 | dk h hb a b c d e=>exact .dk h hb a b c d e
 | eg=>exact .eg
 | jw h=>exact .jw h
 | cC h hb=>exact .cC h hb
theorem De {l:LS} {ds:List V} (hs:l.safe=true):WQ (jR l ds):=by
 cases l<;>simp only[LS.safe] at hs<;>first|(cases hs;done)|trivial
theorem Dg: ∀{ls:List LS} {ds:List V} {j:Nat} {y:V},(jq ls ds)[j]? =some y→∃l gn,l∈ls∧y=jR l gn
 | [],ds,j,y,h=>by simp[jq] at h
 | l::ls,ds,j,y,h=>by
  simp only[jq] at h
  cases j with
  | zero=>simp at h;exact ⟨l,ds,uE ..,h.symm⟩
  | succ j=>
   obtain ⟨l',gn,h1,h2⟩:=Dg (j:=j) (by simpa using h)
   exact ⟨l',gn,m7 _ h1,h2⟩
theorem WR: ∀{ls:List VS} {ds:List V} {j:Nat} {y:V},(gz ls ds)[j]? =some y→∃l gn,l∈ls∧y=mo l gn
 | [],ds,j,y,h=>by simp[gz] at h
 | l::ls,ds,j,y,h=>by
  simp only[gz] at h
  cases j with
  | zero=>simp at h;exact ⟨l,ds,uE ..,h.symm⟩
  | succ j=>
   obtain ⟨l',gn,h1,h2⟩:=WR (j:=j) (by simpa using h)
   exact ⟨l',gn,m7 _ h1,h2⟩
theorem WS {s:VS} {ds:List V} {v:Value} (h:aj P w I β hp v (mo s ds)) (hs:s.safe=true):aj P w I' β hp v (mo s ds):=by
 cases s with
 | one l=>exact h.free (De hs)
 | agg ls=>
  simp only[mo] at h⊢
  obtain ⟨cs,rfl,e1,e2⟩:=h.my
  refine .agg e1 fun j v x hj hx=> ?_
  obtain ⟨l,gn,k1,rfl⟩:=Dg hx
  exact (e2 j v _ hj hx).free (De (gv.1 hs l k1))
 | bL ls=>
  simp only[mo] at h⊢
  obtain ⟨cs,rfl,e1,e2⟩:=h.wS
  refine .bL e1 fun j v x hj hx=> ?_
  obtain ⟨l,gn,k1,rfl⟩:=Dg hx
  exact (e2 j v _ hj hx).free (De (gv.1 hs l k1))
 | fn f a b=>
  simp only[VS.safe,bn] at hs
  simp only[mo] at h⊢
  cases h with
  | fn a1 a2 b1 b2=>
   refine .fn a1 (fun j v x hj hx=> ?_) b1 (fun j v x hj hx=> ?_)
   ·obtain ⟨l,gn,k1,rfl⟩:=Dg hx
    exact (a2 j v _ hj hx).free (De (gv.1 hs.1 l k1))
   ·obtain ⟨l,gn,k1,rfl⟩:=Dg hx
    exact (b2 j v _ hj hx).free (De (gv.1 hs.2 l k1))
 | pref ts ls=>cases hs
theorem Pure.scalar {t:TypeId} {v:Value} {x:V} (h:Pure P w I t v x) (hn: ∀e,P.underlying t≠some (.slice e)):Pure P w I' t v x:=by
 cases h with
 | int h=>exact .int h
 | bool h=>exact .bool h
 | str h hl=>exact .str h hl
 | nil h=>exact absurd h (hn _)
 | emp h=>exact absurd h (hn _)
 | list g h=>exact absurd h (hn _)
theorem ahu {e t:TypeId} {j:Nat} (h:Ce P e=true) (ht:(bC P e)[j]? =some t) (e':TypeId):P.underlying t≠some (.slice e'):=by
 intro hu
 have h2:=gv.1 h t (jN ht)
 rw[hu] at h2
 cases h2
theorem ahv {o:Option Nat} {b:BS} {ds:List V} (h:eT P w I2 β hp o (gN b ds)) (hs:b.safe P=true) (hi: ∀b j,I b j→I2 b j):eT P w I β hp o (gN b ds):=by
 cases b with
 | dead=>exact .dead
 | var T0 ls=>
  simp only[gN] at h⊢
  cases h with
  | var hb hh bG hI hx ik=>
   refine .var hb hh bG (fun j h=>hI j (hi _ j h)) (fun j v x hj dj=> ?_) ik
   obtain ⟨l,gn,k1,rfl⟩:=WR dj
   exact WS (hx j v _ hj dj) (gv.1 hs l k1)
 | arr e fz=>
  simp only[BS.safe,bn,oY] at hs
  obtain ⟨rfl,Dd⟩:=hs
  simp only[gN] at h⊢
  generalize (V.nth ds 0).toList=es at h⊢
  cases h with
  | eh hb=>exact .eh hb
  | arr a1 a2 a3 a4 a5 a6 a7=>
   refine .arr a1 a2 a3 a4 (fun h=>by cases h) (fun _ j h=>a6 rfl j (hi _ j h)) fun i j x t' y1 y2 y3=> ?_
   obtain ⟨v,z1,z2⟩:=a7 i j x t' y1 y2 y3
   exact ⟨v,z1,z2.scalar (ahu Dd y2)⟩
 | nest e=>
  simp only[gN] at h⊢
  generalize (V.nth ds 0).toList=es at h⊢
  cases h with
  | nest hb dc qv=>
   refine .nest hb (fun q b' e1 m1 hq=> ?_) qv
   obtain ⟨ok,⟨Ca,c1,c2,c3⟩,nI⟩:=dc q b' e1 m1 hq
   refine ⟨ok,⟨Ca,c1,c2,fun i j x t' y1 y2 y3=> ?_⟩,fun j h=>nI j (hi _ j h)⟩
   obtain ⟨v,z1,z2⟩:=c3 i j x t' y1 y2 y3
   refine ⟨v,z1,?_⟩
   generalize cl P e1 x j=y at z2⊢
   cases z2 with
   | gR a p=>
    refine .gR a (p.scalar fun e hu=> ?_)
    unfold gM at a
    rw[hu] at a
    cases a
   | emp a b=>exact .emp a b
   | row a b c d e=>exact .row a b c d e
 | map t=>
  simp only[gN] at h⊢
  cases h with
  | map a1 a2 a3 a4 a5 a6 a7=>exact .map a1 a2 a3 a4 (fun j h=>a5 j (hi _ j h)) a6 a7
theorem Oa: ∀{l:List BS} {ds:List V} {j:Nat} {y:ah},(fF l ds)[j]? =some y→∃b gn,l[j]? =some b∧y=gN b gn
 | [],ds,j,y,h=>by simp[fF] at h
 | b::l,ds,j,y,h=>by
  simp only[fF] at h
  cases j with
  | zero=>simp at h;exact ⟨b,ds,rfl,h.symm⟩
  | succ j=>
   obtain ⟨b',gn,h1,h2⟩:=Oa (j:=j) (by simpa using h)
   exact ⟨b',gn,by simpa using h1,h2⟩
theorem WU: ∀{l:List (Nat × VS)} {ds:List V} {q:Nat × V},q∈gh l ds→∃s gn,(q.1,s)∈l∧q.2=mo s gn
 | [],ds,q,h=>by simp[gh] at h
 | (k,s)::l,ds,q,h=>by
  simp only[gh,gK] at h
  rcases h with h|h
  ·subst h;exact ⟨s,ds,uE ..,rfl⟩
  ·obtain ⟨s',gn,h1,h2⟩:=WU h
   exact ⟨s',gn,m7 _ h1,h2⟩
theorem ahw {S:Shape} {es:List V} (hs:S.safe P=true) (hi: ∀b j,I b j→I2 b j) {N:Nat→Prop} {st:Start} (h:aW P w' I2 cP (bN S es).hp B N st) (h0: ∀b j,I b j→st.I b j):
  aW P w' I cP (bN S es).hp B N st∧∀v,aj P w' I2 cP (bN S es).hp v (rG (gh S.b6 es))→aj P w' I cP (bN S es).hp v (rG (gh S.b6 es)):=by
 unfold Shape.safe at hs
 simp only[bn] at hs
 obtain ⟨kV,lb⟩:=hs
 have one: ∀q∈gh S.b6 es,∀v,aj P w' I2 cP (bN S es).hp v q.2→aj P w' I cP (bN S es).hp v q.2:=by
  intro q hq v hv
  obtain ⟨s,gn,k1,k2⟩:=WU hq
  rw[k2] at hv⊢
  exact WS hv (gv.1 kV _ k1)
 refine ⟨⟨⟨fun j blk hj=> ?_,h.h.inj,h.h.own,fun b j hb=>h.h.kB b j (hi b j hb)⟩,h.cO,h.size,fun b j hb=> .inl (h0 b j hb),h.io⟩,fun v hv=> ?_⟩
 ·have hr:=h.h.rel j blk hj
  have iF:=hj
  simp only[bN,mk,je] at iF
  obtain ⟨b,gn,k1,rfl⟩:=Oa iF
  exact ahv hr (gv.1 lb _ (jN k1)) hi
 ·generalize gh S.b6 es=l at one hv⊢
  match l,one,hv with
  | [],_,hv=>
   simp only[rG,List.map_nil] at hv⊢
   obtain ⟨cs,rfl,e1,e2⟩:=hv.wS
   exact .bL e1 fun j v x _ hx=>by simp at hx
  | [q],one,hv=>exact one q (iA.2 rfl) v hv
  | q::q2::l,one,hv=>
   simp only[rG] at hv⊢
   obtain ⟨cs,rfl,e1,e2⟩:=hv.wS
   refine .bL e1 fun j v x hj hx=> ?_
   obtain ⟨y,hy,rfl⟩:=gf.1 (jN hx)
   exact one y hy v (e2 j v _ hj hx)
end
section
variable {P:Program} {A:dg} {w w':World} {I I' I2:Nat→Nat→Prop} {μ β β' cP:Nat→Option Nat} {hp hp' hp0 bQ:Nat→Option ah} {C:ab} {B:Nat} {M:Nat→Prop} {w0:Start}
inductive iq (σ:List Place):ah→ah→Prop
 | dead:iq σ .dead .dead
 | var {T:TypeId} {cs:List V}:iq σ (.var T cs) (.var T (cs.map (HL σ)))
 | arr {e:TypeId} {es:List V} {fz:Bool}:iq σ (.arr e es fz) (.arr e es fz)
 | nest {e:TypeId} {es:List V} {v1 v2:List Nat}:iq σ (.nest e es v1) (.nest e es v2)
 | map {t:TypeId} {es:List V}:iq σ (.map t es) (.map t es)
theorem iq.of (σ:List Place) (b:ah):iq σ b (wC σ b):=by
 cases b with
 | dead=>exact .dead
 | var T cs=>exact .var
 | arr e es fz=>exact .arr
 | nest e es v=>exact .nest
 | map t es=>exact .map
theorem WV {σ:List Place}: ∀{pl:List Place} {bs:List ah} {acc:List (Nat × ah)} {k:List (Nat × ah)→Rd R} {r:R} {rd:List Nat},(sW σ pl bs acc k).run C hp=some (r,rd)→
  pl.length≤bs.length∧∃bk fP,(k bk).run C hp=some (r,fP)∧(∀q∈bk,q∈acc∨∃(j:Nat) (b:ah),pl[j]? =some (.blk q.1)∧bs[j]? =some b∧iq σ b q.2∧((∃e es v2,q.2= .nest e es v2)→∃e es an e' bj,hp q.1=some (.nest e es an)∧q.2= .nest e' bj (an.map (· +1))))∧
   (∀q∈acc,q∈bk)∧∀(j:Nat) p,pl[j]? =some p→∃id b,p= .blk id∧(id,b)∈bk
 | [],bs,acc,k,r,rd,h=>⟨na _,acc,rd,by simpa only[sW] using h,fun q hq=> .inl hq,fun q hq=>hq,fun j p hp=>by simp at hp⟩
 | .row _ _ _::pl,bs,acc,k,r,rd,h=>by
  cases bs<;>(simp only[sW] at h;cases h)
 | .blk id::pl,[],acc,k,r,rd,h=>by simp only[sW] at h;cases h
 | .blk id::pl,b::bs,acc,k,r,rd,h=>by
  have fin: ∀{b2:ah} {kE:List Nat},(sW σ pl bs ((id,b2)::acc) k).run C hp=some (r,kE)→iq σ b b2→((∃e es v2,b2= .nest e es v2)→∃e es an e' bj,hp id=some (.nest e es an)∧b2= .nest e' bj (an.map (· +1)))→
    (Place.blk id::pl).length≤(b::bs).length∧∃bk fP,(k bk).run C hp=some (r,fP)∧(∀q∈bk,q∈acc∨∃(j:Nat) (b':ah),(Place.blk id::pl)[j]? =some (.blk q.1)∧(b::bs)[j]? =some b'∧iq σ b' q.2∧((∃e es v2,q.2= .nest e es v2)→∃e es an e' bj,hp q.1=some (.nest e es an)∧q.2= .nest e' bj (an.map (· +1))))∧
     (∀q∈acc,q∈bk)∧∀(j:Nat) p,(Place.blk id::pl)[j]? =some p→∃id b,p= .blk id∧(id,b)∈bk:=by
   intro b2 kE h1 hb hn
   obtain ⟨a0,bk,fP,a1,a2,a3,a4⟩:=WV h1
   refine ⟨by simp only[List.length_cons];omega,bk,fP,a1,fun q hq=> ?_,fun q hq=>a3 q (m7 _ hq),fun j p hj=> ?_⟩
   ·rcases a2 q hq with h|⟨j,b',k1,k2,k3,k4⟩
    ·rcases gK.1 h with e|h
     ·subst e;exact .inr ⟨0,b,rfl,rfl,hb,hn⟩
     ·exact .inl h
    ·exact .inr ⟨j+1,b',by simpa using k1,by simpa using k2,k3,k4⟩
   ·cases j with
    | zero=>simp at hj;subst hj;exact ⟨id,b2,rfl,a3 _ (uE ..)⟩
    | succ j=>exact a4 j p (by simpa using hj)
  cases b with
  | nest e es v=>
   simp only[sW] at h
   obtain ⟨l,h⟩:=run_get h
   cases ae:hp id with
   | none=>rw[ae] at h;cases h
   | some blk=>
    rw[ae] at h
    cases blk with
    | nest e0 M0 an=>exact fin h .nest fun _=>⟨e0,M0,an,e,es,ae,rfl⟩
    | _=>cases h
  | dead=>exact fin h (.of σ _) fun ⟨_,_,_,h⟩=>by cases h
  | var T cs=>exact fin h (.of σ _) fun ⟨_,_,_,h⟩=>by cases h
  | arr e es fz=>exact fin h (.of σ _) fun ⟨_,_,_,h⟩=>by cases h
  | map t es=>exact fin h (.of σ _) fun ⟨_,_,_,h⟩=>by cases h
theorem WW {σ:List Place}: ∀{bs:List ah} {n:Nat} {q:Nat × ah},q∈sX σ n bs→∃i b,bs[i]? =some b∧q=(n+i,wC σ b)
 | [],n,q,h=>by simp[sX] at h
 | b::bs,n,q,h=>by
  simp only[sX,gK] at h
  rcases h with h|h
  ·exact ⟨0,b,rfl,h⟩
  ·obtain ⟨i,b',h1,h2⟩:=WW h
   exact ⟨i+1,b',by simpa using h1,by rw[h2];congr 1;omega⟩
theorem WX {σ:List Place}: ∀{bs:List ah} {n i:Nat} {b:ah},bs[i]? =some b→(n+i,wC σ b)∈sX σ n bs
 | [],n,i,b,h=>by simp at h
 | b0::bs,n,i,b,h=>by
  simp only[sX,gK]
  cases i with
  | zero=>simp at h;subst h;exact .inl rfl
  | succ i=>exact .inr (by rw[show n+(i+1)=n+1+i by omega];exact WX (by simpa using h))
theorem IN: ∀{k n i:Nat},i<k→(uW n k)[i]? =some (.blk (n+i))
 | 0,n,i,h=>by omega
 | k+1,n,0,h=>rfl
 | k+1,n,i+1,h=>by
  simp only[uW,List.getElem?_cons_succ]
  rw[IN (by omega)]
  congr 2
  omega
theorem Ob: ∀{k n:Nat},(uW n k).length=k
 | 0,_=>rfl
 | k+1,n=>by simp[uW,Ob]
theorem WY: ∀{bs:List (Nat × ah)} {k:Rd R} {r:R} {rd:List Nat},(HM bs k).run C hp=some (r,rd)→(∀q∈bs,hp q.1=none)∧∃fP,k.run C hp=some (r,fP)
 | [],k,r,rd,h=>⟨by simp,rd,h⟩
 | (id,b)::l,k,r,rd,h=>by
  simp only[HM] at h
  obtain ⟨l1,h⟩:=run_get h
  cases ae:hp id with
  | some blk=>rw[ae] at h;cases h
  | none=>
   rw[ae] at h
   obtain ⟨h1,h2⟩:=WY h
   refine ⟨fun q hq=> ?_,h2⟩
   rcases gK.1 hq with e|hq
   ·subst e;exact ae
   ·exact h1 q hq
structure rV (σ:List Place) (cP:Nat→Option Nat) (bQ:Nat→Option ah) (β':Nat→Option Nat) (hp':Nat→Option ah):Prop where
 blk: ∀j b,bQ j=some b→∃id b',e7 σ j=some (.blk id)∧hp' id=some b'∧iq σ b b'∧(b≠ .dead→β' id=cP j)
 none: ∀j,bQ j=none→e7 σ j=none
 auf: ∀j id ver path,e7 σ j≠some (.row id ver path)
theorem rV.leaf {σ:List Place} (T:rV σ cP bQ β' hp') {v:Value} {x:V} (h:aj P w I cP bQ v x):aj P w I β' hp' v (lE σ x):=by
 have look: ∀{j b},bQ j=some b→∃id b',e7 σ j=some (.blk id)∧hp' id=some b'∧iq σ b b'∧(b≠ .dead→β' id=cP j):=fun h=>T.blk _ _ h
 cases h with
 | undef=>exact .undef
 | int=>exact .int
 | bool=>exact .bool
 | str h=>exact .str h
 | list h=>exact .list h
 | nilS=>exact .nilS
 | agg=>exact .undef
 | bL=>exact .undef
 | ee=>exact .ee
 | fn=>exact .undef
 | pref a b c=>exact .pref a b c
 | @eS _ e j h=>
  obtain ⟨id,b',k1,k2,k3,k4⟩:=look h
  simp only[lE,k1]
  cases k3
  exact .eS k2
 | @ig _ e j _ _ h=>
  obtain ⟨id,b',k1,k2,k3,k4⟩:=look h
  simp only[lE,k1]
  cases k3
  exact .ig k2
 | @lH _ j _ _ h=>
  obtain ⟨id,b',k1,k2,k3,k4⟩:=look h
  simp only[lE,k1]
  cases k3
  exact .lH k2
 | @eF e j fz _ h hb=>
  obtain ⟨id,b',k1,k2,k3,k4⟩:=look h
  simp only[lE,k1]
  cases k3
  exact .eF k2 ((k4 (by simp)).trans hb)
 | @whole e j es fz b cap h hb a1 a2 a3=>
  obtain ⟨id,b',k1,k2,k3,k4⟩:=look h
  simp only[lE,k1]
  cases k3
  exact .whole k2 ((k4 (by simp)).trans hb) a1 a2 a3
 | @e8 e j es an b cap h hb a1 a2 a3=>
  obtain ⟨id,b',k1,k2,k3,k4⟩:=look h
  simp only[lE,k1]
  cases k3
  exact .e8 k2 ((k4 (by simp)).trans hb) a1 a2 a3
 | @gS e j fz _ h hb=>
  obtain ⟨id,b',k1,k2,k3,k4⟩:=look h
  simp only[lE,k1]
  cases k3
  exact .gS k2 ((k4 (by simp)).trans hb)
 | @sub e j off len es fz b o cap h hb a1 a2 a3=>
  obtain ⟨id,b',k1,k2,k3,k4⟩:=look h
  simp only[lE,k1]
  cases k3
  exact .sub k2 ((k4 (by simp)).trans hb) a1 a2 a3
 | @ptr j i c b blk h hd hb=>
  obtain ⟨id,b',k1,k2,k3,k4⟩:=look h
  simp only[lE,k1]
  have hs:blk.sz P=b'.sz P:=by cases k3<;>rfl
  rw[hs]
  exact .ptr k2 (by intro e;subst e;cases k3;exact hd rfl) ((k4 hd).trans hb)
 | kT=>exact .undef
 | kU=>exact .undef
 | row=>exact .undef
 | dk=>exact .undef
 | eg=>exact .eg
 | @jw _ t j h=>
  obtain ⟨id,b',k1,k2,k3,k4⟩:=look h
  simp only[lE,k1]
  cases k3
  exact .jw k2
 | @cC t j b es h hb=>
  obtain ⟨id,b',k1,k2,k3,k4⟩:=look h
  simp only[lE,k1]
  cases k3
  exact .cC k2 ((k4 (by simp)).trans hb)
theorem rV.one {σ:List Place} (T:rV σ cP bQ β' hp') {v:Value} {x:V} (h:aj P w I cP bQ v x):aj P w I β' hp' v (MP σ x):=by
 cases x with
 | agg xs=>
  obtain ⟨cs,rfl,e1,e2⟩:=h.my
  exact .agg (by simpa using e1) fun j v y hj hy=>by
   rw[eZ] at hy
   cases hx:xs[j]? with
   | none=>rw[hx] at hy;cases hy
   | some x=>rw[hx] at hy;cases hy;exact T.leaf (e2 j v x hj hx)
 | fn f a b=>
  cases h with
  | fn a1 a2 b1 b2=>
   refine .fn (by simpa using a1) (fun j v y hj hy=> ?_) (by simpa using b1) (fun j v y hj hy=> ?_)
   ·rw[eZ] at hy
    cases hx:a[j]? with
    | none=>rw[hx] at hy;cases hy
    | some x=>rw[hx] at hy;cases hy;exact T.leaf (a2 j v x hj hx)
   ·rw[eZ] at hy
    cases hx:b[j]? with
    | none=>rw[hx] at hy;cases hy
    | some x=>rw[hx] at hy;cases hy;exact T.leaf (b2 j v x hj hx)
 | _=>exact T.leaf h
theorem rV.val {σ:List Place} (T:rV σ cP bQ β' hp') {v:Value} {x:V} (h:aj P w I cP bQ v x):aj P w I β' hp' v (HL σ x):=by
 cases x with
 | bL xs=>
  obtain ⟨cs,rfl,e1,e2⟩:=h.wS
  exact .bL (by simpa using e1) fun j v y hj hy=>by
   rw[eZ] at hy
   cases hx:xs[j]? with
   | none=>rw[hx] at hy;cases hy
   | some x=>rw[hx] at hy;cases hy;exact T.one (e2 j v x hj hx)
 | _=>exact T.one h
theorem rV.WZ {σ:List Place} (T:rV σ cP bQ β' hp') {o:Option Nat} {b b':ah} (h:eT P w I cP bQ o b) (hb:iq σ b b'):eT P w I β' hp' o b':=by
 cases hb with
 | dead=>exact .dead
 | var=>
  cases h with
  | var a1 a2 a3 a4 a5 a6=>
   refine .var a1 a2 (by simpa using a3) a4 (fun j v y hj hy=> ?_) a6
   rw[eZ] at hy
   cases hx:(_:List V)[j]? with
   | none=>rw[hx] at hy;cases hy
   | some x=>rw[hx] at hy;cases hy;exact T.val (a5 j v x hj hx)
 | arr=>
  cases h with
  | eh hb=>exact .eh hb
  | arr a1 a2 a3 a4 a5 a6 a7=>exact .arr a1 a2 a3 a4 a5 a6 a7
 | nest=>
  cases h with
  | nest a1 a2 a3=>exact .nest a1 a2 a3
 | map=>
  cases h with
  | map a1 a2 a3 a4 a5 a6 a7=>exact .map a1 a2 a3 a4 a5 a6 a7
theorem iq.xi {σ:List Place} {o:Option Nat} {b b':ah} (h:iq σ b b') {m:Nat} (ho:bW P w o b' m):bW P w o b m:=by
 cases h with
 | dead=>exact absurd rfl ho.alive
 | var=>exact .root (by simp) (ho.flat (by simp))
 | arr=>exact .root (by simp) (ho.flat (by simp))
 | map=>exact .root (by simp) (ho.flat (by simp))
 | nest=>
  cases ho with
  | root _ hb=>exact .root (by simp) hb
  | row hb ha=>exact .row hb ha
theorem iq.W0 {σ:List Place} {b b':ah} (h:iq σ b b'):b'≠ .dead→b≠ .dead:=by
 intro h1 h2;subst h2;cases h;exact h1 rfl
end
section
variable {P:Program} {A:dg} {w w':World} {I I' I2:Nat→Nat→Prop} {μ β β' cP:Nat→Option Nat} {hp hp' hp0 bQ:Nat→Option ah} {C:ab} {B:Nat} {M:Nat→Prop} {w0:Start}
theorem W3: ∀{vs:List Nat} {k:Nat},k<vs.length→b8 (vs.map (· +1)) k=b8 vs k+1
 | [],k,h=>by simp at h
 | v::vs,0,h=>rfl
 | v::vs,k+1,h=>by simp only[ki,b8];exact W3 (by simpa using h)
theorem W4: ∀{vs:List Nat} {k:Nat},b8 vs k≤b8 (vs.map (· +1)) k
 | [],k=>by simp[b8]
 | v::vs,0=>by simp[b8]
 | v::vs,k+1=>by simp only[ki,b8];exact W4
def Dh (hp:Nat→Option ah) (q:Nat × ah):Prop:=(∃e es v2,q.2= .nest e es v2)→∃e es an e' bj,hp q.1=some (.nest e es an)∧q.2= .nest e' bj (an.map (· +1))
theorem eU.Oc {id:Nat} {o:Option Nat} {blk:ah} (h:eU P w β hp (.blk id) o blk):o=β id∧∃b0,hp id=some b0∧b0≠ .dead:=by
 cases h with
 | var h=>exact ⟨rfl,_,h,by simp⟩
 | arr h=>exact ⟨rfl,_,h,by simp⟩
 | nest h=>exact ⟨rfl,_,h,by simp⟩
 | map h=>exact ⟨rfl,_,h,by simp⟩
theorem eU.ahx {id:Nat} {o:Option Nat} {c b b' b0:ah} {σ:List Place} (h:eU P w β hp (.blk id) o c) (h0:hp id=some b0) (hle:c.le b) (hb:iq σ b b') (hn:Dh hp (id,b')):b0.le b':=by
 cases h with
 | var h=>
  rw[h] at h0;cases h0
  cases hb with
  | dead=>trivial
  | var=>trivial
  | arr=>exact hle.elim
  | nest=>exact hle.elim
  | map=>exact hle.elim
 | arr h=>
  rw[h] at h0;cases h0
  cases hb with
  | dead=>trivial
  | var=>exact hle.elim
  | arr=>exact hle
  | nest=>exact hle.elim
  | map=>exact hle.elim
 | map h=>
  rw[h] at h0;cases h0
  cases hb with
  | dead=>trivial
  | map=>exact hle
  | _=>exact hle.elim
 | nest h=>
  rw[h] at h0;cases h0
  cases hb with
  | dead=>trivial
  | var=>exact hle.elim
  | arr=>exact hle
  | map=>exact hle.elim
  | @nest e es v1 v2=>
   obtain ⟨e1,cZ,xj,e2,cN,k1,k2⟩:=hn ⟨_,_,_,rfl⟩
   cases k2
   change hp id=_ at k1
   rw[h] at k1;cases k1
   exact ⟨hle.1,hle.2.1,by simp,fun k=>W4⟩
theorem eU.other {p:Place} {o:Option Nat} {blk:ah} (h:eU P w β hp p o blk) (he:hp' p.id=hp p.id):eU P w β hp' p o blk:=by
 cases h with
 | var h=>exact .var (he.trans h)
 | arr h=>exact .arr (he.trans h)
 | nest h=>exact .nest (he.trans h)
 | map h=>exact .map (he.trans h)
 | row h a b c d e f g=>exact .row (he.trans h) a b c d e f g
open Classical in
theorem W5 (S:aW P w I β hp B M w0) {pl:List Place} {o:Nat→Option Nat} {bs:List ah} {nb:Nat} {bk fr:List (Nat × ah)} {σ:List Place} (tw:σ=pl++uW nb (bs.length-pl.length)) (Di:fr=sX σ nb (bs.drop pl.length))
  (lS:(pl.map Place.id).Nodup) (rK:pl.length≤bs.length)
  (IP: ∀(j:Nat) p,pl[j]? =some p→∃id b,p= .blk id∧(id,b)∈bk) (IQ: ∀q∈bk,∃(j:Nat) (b:ah),pl[j]? =some (.blk q.1)∧bs[j]? =some b∧iq σ b q.2∧Dh hp q)
  (hl: ∀j blk,hp0 j=some blk→∃p,e7 pl j=some p∧eU P w β hp p (o j) blk) (hd: ∀j,j<pl.length→∃blk,hp0 j=some blk)
  (Sc:aW P w' I2 cP (kS bs) w.heap.size (qD P w o hp0) ⟨w,I⟩) (Aa:mE w I o hp0 w' I2 cP (kS bs)) (vj: ∀q∈fr,hp q.1=none):
  ∃β',Le P w I β hp w' I2 β' (cj hp (fr++bk))∧aW P w' I2 β' (cj hp (fr++bk)) B M w0∧rV σ cP (kS bs) β' (cj hp (fr++bk)):=by
 generalize Od:cj hp (fr++bk)=fj
 let β':Nat→Option Nat:=fun n=>if∃q∈fr,q.1=n then cP (pl.length+(n-nb)) else β n
 have W6: ∀(j:Nat) id,pl[j]? =some (.blk id)→∃c,hp0 j=some c∧eU P w β hp (.blk id) (o j) c:=by
  intro j id hj
  obtain ⟨c,hc⟩:=hd j (bO.1 hj).1
  obtain ⟨p,h1,h2⟩:=hl j c hc
  rw[nw,hj] at h1
  cases h1
  exact ⟨c,hc,h2⟩
 have uniq: ∀(j1 j2:Nat) id,pl[j1]? =some (.blk id)→pl[j2]? =some (.blk id)→j1=j2:=by
  intro j1 j2 id h1 h2
  have m1:(pl.map Place.id)[j1]? =some id:=by rw[eZ,h1];rfl
  have m2:(pl.map Place.id)[j2]? =some id:=by rw[eZ,h2];rfl
  obtain ⟨z1,z2⟩:=bO.1 m1
  obtain ⟨z3,z4⟩:=bO.1 m2
  exact (List.getElem_inj lS).1 (z2.trans z4.symm)
 have cls: ∀id,(∃i b,id=nb+i∧bs[pl.length+i]? =some b∧fj id=some (wC σ b)∧hp id=none∧β' id=cP (pl.length+i))∨
   (∃(j:Nat) (b b' c b0:ah),pl[j]? =some (.blk id)∧bs[j]? =some b∧hp0 j=some c∧eU P w β hp (.blk id) (o j) c∧hp id=some b0∧b0.le b'∧fj id=some b'∧iq σ b b'∧Dh hp (id,b')∧β' id=β id∧c.le b∧(b≠ .dead→cP j=β id))∨
   (fj id=hp id∧(∀j:Nat,pl[j]? ≠some (.blk id))∧β' id=β id):=by
  intro id
  by_cases hm: ∃b,(id,b)∈fr++bk
  ·obtain ⟨b,hm⟩:=hm
   obtain ⟨b',ta,he⟩:=HW (hp:=hp) hm
   rw[Od] at he
   rcases eP.1 ta with h|h
   ·have h0:=vj _ h
    have qG:β' id=cP (pl.length+(id-nb)):=af ⟨_,h,rfl⟩
    rw[Di] at h
    obtain ⟨i,b1,k1,k2⟩:=WW h
    rw[jk] at k1
    cases k2
    exact .inl ⟨i,b1,rfl,k1,he,h0,by rw[qG];congr 2;omega⟩
   ·obtain ⟨j,b1,q1,q2,q3,q4⟩:=IQ _ h
    obtain ⟨c,c1,c2⟩:=W6 j id q1
    obtain ⟨c3,b0,c4,c5⟩:=c2.Oc
    obtain ⟨b2,d1,d2,d3⟩:=Aa.blk j c c1
    rw[je,q2] at d1
    cases d1
    refine .inr (.inl ⟨j,b1,b',c,b0,q1,q2,c1,c2,c4,c2.ahx c4 d2 q3 q4,he,q3,q4,ag ?_,d2,fun h=>(d3 h).trans c3⟩)
    rintro ⟨q,hq,hqe⟩
    rw[←hqe,vj q hq] at c4
    cases c4
  ·refine .inr (.inr ⟨?_,fun j hj=> ?_,ag ?_⟩)
   ·rcases wO (hp:=hp) (l:=fr++bk) (id:=id) with h|⟨b,hb,_⟩
    ·rw[Od] at h;exact h
    ·exact absurd ⟨b,hb⟩ hm
   ·obtain ⟨aV,b,e,hb⟩:=IP j _ hj
    cases e
    exact hm ⟨b,eP.2 (.inr hb)⟩
   ·rintro ⟨q,hq,rfl⟩
    exact hm ⟨q.2,eP.2 (.inl hq)⟩
 have W7: ∀b,qD P w o hp0 b→∃(j id:Nat) (b1:ah),pl[j]? =some (.blk id)∧hp id=some b1∧bW P w (β id) b1 b∧∀e es,b1≠ .arr e es true:=by
  rintro b ⟨j,c,hc,ho⟩
  obtain ⟨p,h1,h2⟩:=hl j c hc
  rw[nw] at h1
  obtain ⟨id,b2,rfl,_⟩:=IP j p h1
  obtain ⟨b1,k1,k2,k3⟩:=h2.xi ho
  exact ⟨j,id,b1,h1,k1,k2,k3⟩
 have other: ∀id blk b,hp id=some blk→bW P w (β id) blk b→(∀j:Nat,pl[j]? ≠some (.blk id))→¬qD P w o hp0 b∧w'.heap[b]? =w.heap[b]? ∧(∀j,I2 b j→I b j):=by
  intro id blk b e1 e3 e4
  have qH: ¬qD P w o hp0 b:=by
   intro hx
   obtain ⟨j,aV,b1,i1,i2,i3,_⟩:=W7 b hx
   have:=S.h.inj id aV _ _ b e1 i2 e3 i3
   subst this
   exact e4 j i1
  have bx:=S.h.lt e1 e3
  refine ⟨qH,Sc.cO b bx qH,fun j h=> ?_⟩
  rcases Sc.new b j h with h|h|h
  ·exact h
  ·exact absurd h qH
  ·omega
 have vd:rV σ cP (kS bs) β' fj:=by
  refine ⟨fun j b hj=> ?_,fun j hj=> ?_,fun j id ver path hj=> ?_⟩
  ·rw[je] at hj
   by_cases dG:j<pl.length
   ·obtain ⟨id,b1,e,kY⟩:=IP j _ (bU dG)
    have IS:pl[j]? =some (.blk id):=by rw[bU dG,e]
    have Oe:e7 σ j=some (.blk id):=by rw[tw];exact qB (by rw[nw];exact IS)
    rcases cls id with ⟨i,b2,c1,c2,c3,c4,c5⟩|⟨j',b2,b',c,b0,q1,q2,q3,q4,q5,q6,q7,q8,q9,rW,Ab,tx⟩|⟨c1,c2,c3⟩
    ·obtain ⟨c,d1,d2⟩:=W6 j id IS
     obtain ⟨_,b0,d3,_⟩:=d2.Oc
     rw[d3] at c4;cases c4
    ·obtain rfl:=uniq _ _ _ q1 IS
     rw[hj] at q2;cases q2
     exact ⟨id,b',Oe,q7,q8,fun h=>rW.trans (tx h).symm⟩
    ·exact absurd IS (c2 j)
   ·have W8:=(bO.1 hj).1
    have Oe:e7 σ j=some (.blk (nb+(j-pl.length))):=by
     rw[tw,nw,kR (by omega)]
     exact IN (by omega)
    have hm:(nb+(j-pl.length),wC σ b)∈fr:=by
     rw[Di]
     refine WX ?_
     rw[jk,show pl.length+(j-pl.length)=j by omega]
     exact hj
    rcases cls (nb+(j-pl.length)) with ⟨i,b2,c1,c2,c3,c4,c5⟩|⟨j',b2,b',c,b0,q1,q2,q3,q4,q5,q6,q7,q8,q9,rW,Ab,tx⟩|⟨c1,c2,c3⟩
    ·have hi:i=j-pl.length:=by omega
     subst hi
     rw[show pl.length+(j-pl.length)=j by omega] at c2 c5
     rw[hj] at c2;cases c2
     exact ⟨_,_,Oe,c3,.of σ _,fun _=>c5⟩
    ·rw[vj _ hm] at q5;cases q5
    ·obtain ⟨b',ta,he⟩:=HW (hp:=hp) (l:=fr++bk) (eP.2 (.inl hm))
     rw[Od,c1,vj _ hm] at he
     cases he
  ·rw[je] at hj
   have:=List.getElem?_eq_none_iff.1 hj
   rw[tw,nw,List.getElem?_eq_none_iff,cX,Ob]
   omega
  ·rw[tw,nw] at hj
   by_cases dG:j<pl.length
   ·rw[kj dG] at hj
    obtain ⟨aV,b1,e,_⟩:=IP j _ hj
    cases e
   ·have W8:j-pl.length<bs.length-pl.length:=by
     have:=(bO.1 hj).1
     rw[cX,Ob] at this
     omega
    rw[kR (by omega),IN W8] at hj
    cases hj
 have hle:Le P w I β hp w' I2 β' fj:=by
  refine ⟨Aa.dR,Aa.cO,fun id blk ae=> ?_,fun id blk blk' b ae b9 tz hb=> ?_,fun id e es an e' bj vers' b q i c t v e1 l ae b9 hb bx hv ht hc=> ?_⟩
  ·rcases cls id with ⟨i,b2,c1,c2,c3,c4,c5⟩|⟨j',b2,b',c,b0,q1,q2,q3,q4,q5,q6,q7,q8,q9,rW,Ab,tx⟩|⟨c1,c2,c3⟩
   ·rw[ae] at c4;cases c4
   ·rw[ae] at q5;cases q5
    exact ⟨b',q7,q6,fun _=>rW⟩
   ·exact ⟨blk,c1.trans ae,ah.le_refl _,fun _=>c3⟩
  ·rcases cls id with ⟨i,b2,c1,c2,c3,c4,c5⟩|⟨j',b2,b',c,b0,q1,q2,q3,q4,q5,q6,q7,q8,q9,rW,Ab,tx⟩|⟨c1,c2,c3⟩
   ·rw[ae] at c4;cases c4
   ·rw[q7] at b9;cases b9
    exact Aa.size j' c b2 b q3 (by rw[je];exact q2) (q8.W0 tz) (q4.Oc.1.trans hb)
   ·rw[c1,ae] at b9
    cases b9
    simp only[bsize,(other id blk b ae (.root tz hb) c2).2.1]
  ·rcases cls id with ⟨i2,b2,c1,c2,c3,c4,c5⟩|⟨j',b2,b',c',b0,q1,q2,q3,q4,q5,q6,q7,q8,q9,rW,Ab,tx⟩|⟨c1,c2,c3⟩
   ·rw[ae] at c4;cases c4
   ·rw[q7] at b9;cases b9
    obtain ⟨_,_,xj,_,_,k1,k2⟩:=q9 ⟨_,_,_,rfl⟩
    change hp id=_ at k1
    rw[ae] at k1;cases k1
    cases k2
    rw[W3 bx] at hv
    omega
   ·rw[c1,ae] at b9
    cases b9
    exact ⟨l,rfl,hc.mono fun _ _ _ _ h=>(other id _ _ ae (.row hb h) c2).2.1⟩
 have place: ∀id blk b,fj id=some blk→bW P w' (β' id) blk b→(∃j c,kS bs j=some c∧bW P w' (cP j) c b∧e7 σ j=some (.blk id))∨(b<w.heap.size∧¬qD P w o hp0 b∧hp id=some blk∧bW P w (β id) blk b):=by
  intro id blk b e1 e3
  rcases cls id with ⟨i,b2,c1,c2,c3,c4,c5⟩|⟨j',b2,b',c,b0,q1,q2,q3,q4,q5,q6,q7,q8,q9,rW,Ab,tx⟩|⟨c1,c2,c3⟩
  ·rw[c3] at e1;cases e1
   rw[c5] at e3
   refine .inl ⟨pl.length+i,b2,by rw[je];exact c2,(iq.of σ b2).xi e3,?_⟩
   have:=(bO.1 c2).1
   rw[tw,nw,kR (by omega),IN (by omega),c1]
   congr 3
   omega
  ·rw[q7] at e1;cases e1
   have tz:b2≠ .dead:=q8.W0 e3.alive
   rw[rW,←tx tz] at e3
   exact .inl ⟨j',b2,by rw[je];exact q2,q8.xi e3,by rw[tw];exact qB (by rw[nw];exact q1)⟩
  ·rw[c1] at e1
   rw[c3] at e3
   have:=e3.mono (w:=w) fun b hb=>(other id blk b e1 hb c2).2.1
   exact .inr ⟨S.h.lt e1 this,(other id blk b e1 this c2).1,e1,this⟩
 have u4: ∀b,qD P w o hp0 b∨w.heap.size≤b→M b∨B≤b:=by
  rintro b (h|h)
  ·obtain ⟨j,id,b1,i1,i2,i3,_⟩:=W7 b h
   exact S.h.own id b1 b i2 i3
  ·exact .inr (kh S.size h)
 have Of: ∀j c b,kS bs j=some c→bW P w' (cP j) c b→qD P w o hp0 b∨w.heap.size≤b:=fun j c b h1 h2=>Sc.h.own j c b h1 h2
 refine ⟨β',hle,⟨⟨fun id blk ae=> ?_,fun i1 i2 b1 b2 b e1 e2 f1 f2=> ?_,fun id blk b ae hb=> ?_,Sc.h.kB⟩,fun b hb hM=> ?_,kh S.size Sc.size,fun b j hb=> ?_,⟨Sc.io.1.trans S.io.1,Sc.io.2.trans S.io.2⟩⟩,vd⟩
 ·rcases cls id with ⟨i,b2,c1,c2,c3,c4,c5⟩|⟨j',b2,b',c,b0,q1,q2,q3,q4,q5,q6,q7,q8,q9,rW,Ab,tx⟩|⟨c1,c2,c3⟩
  ·rw[c3] at ae;cases ae
   rw[c5]
   exact vd.WZ (Sc.h.rel _ b2 (by rw[je];exact c2)) (.of σ b2)
  ·rw[q7] at ae;cases ae
   have:=vd.WZ (Sc.h.rel j' b2 (by rw[je];exact q2)) q8
   by_cases tz:b2= .dead
   ·subst tz
    cases q8
    exact .dead
   ·rw[rW,←tx tz]
    exact this
  ·rw[c1] at ae
   rw[c3]
   exact (S.h.rel id blk ae).mono hle fun b hb=>(other id blk b ae hb c2).2
 ·rcases place i1 b1 b e1 f1 with ⟨j1,c1,g1,g2,g3⟩|⟨g1,g2,g3,g4⟩<;>rcases place i2 b2 b e2 f2 with ⟨j2,c2,k1,k2,k3⟩|⟨k1,k2,k3,k4⟩
  ·have:=Sc.h.inj j1 j2 c1 c2 b g1 k1 g2 k2
   subst this
   rw[g3] at k3
   cases k3
   rfl
  ·rcases Of j1 c1 b g1 g2 with h|h
   ·exact absurd h k2
   ·omega
  ·rcases Of j2 c2 b k1 k2 with h|h
   ·exact absurd h g2
   ·omega
  ·exact S.h.inj i1 i2 _ _ b g3 k3 g4 k4
 ·rcases place id blk b ae hb with ⟨j1,c1,g1,g2,g3⟩|⟨g1,g2,g3,g4⟩
  ·exact u4 b (Of j1 c1 b g1 g2)
  ·exact S.h.own id blk b g3 g4
 ·refine (Sc.cO b (gd hb S.size) fun hx=> ?_).trans (S.cO b hb hM)
  rcases u4 b (.inl hx) with h|h
  ·exact hM h
  ·omega
 ·rcases Sc.new b j hb with h|h|h
  ·exact S.new b j h
  ·exact .inr (u4 b (.inl h))
  ·exact .inr (u4 b (.inr h))
end
section
variable {P:Program} {A:dg} {w w':World} {I I' I2:Nat→Nat→Prop} {μ β β' cP:Nat→Option Nat} {hp hp' hp0 bQ:Nat→Option ah} {C:ab} {B:Nat} {M:Nat→Prop} {w0:Start}
theorem W9 (hp:Nat→Option ah): ∀(a b:List (Nat × ah)),cj hp (a++b)=cj (cj hp b) a
 | [],b=>rfl
 | (i,x)::a,b=>by simp only[List.cons_append,cj,W9 hp a b]
theorem Ac {hp:Nat→Option ah} {l:List (Nat × ah)} {id:Nat} (h: ∀q∈l,q.1≠id):cj hp l id=hp id:=by
 rcases wO (hp:=hp) (l:=l) (id:=id) with h1|⟨b,hb,_⟩
 ·exact h1
 ·exact absurd rfl (h _ hb)
def Dj (P : Program) : Prop := ∀ (f : Nat) fn, P.funcs[f]? = some fn → (fn.name == "runtime.NumGoroutine") = false
def Og (P:Program) (f:FuncId) (e:TypeId):Prop:=
 (∀args w,(callFunc f args).run P w= .ok (.enter f args) w)∧∃t,P.underlying t=some (.slice e)∧
  ∀(s:Value) (w:World) (Q:Ending→World→Prop),(s= .slice none 0 0→Q (.returned (.slice none 0 0)) w)→
   (∀a n c,s= .slice (some a) n c→∃v w',(Builtin.append_ #[t,t] t #[.slice (some ⟨w.heap.size,0,none⟩) 0 0,s]).run P (w.alloc (.cells #[] e))= .ok v w'∧Q (.returned v) w')→
   (s= .slice none 0 0∨∃a n c,s= .slice (some a) n c)→Calls P f #[s] w Q
structure j4 (P:Program) (A:dg):Prop where
 count:Dj P
 ext: ∀f T,A.ext f=some T→∀(b:Nat) (C:Array Value) (w:World),w.heap[b]? =some (.cells C T (0,0))→C.size=P.cellsOf T→(C[0]? =some (.pointer none)∨C[0]? =some (.pointer (some ⟨b,0,none⟩)))→
  (callFunc f #[.pointer (some ⟨b,0,none⟩)]).run P w= .ok (.enter f #[.pointer (some ⟨b,0,none⟩)]) w∧
  Calls P f #[.pointer (some ⟨b,0,none⟩)] w fun e w'=>e= .returned (.tuple #[])∧(w'=w∨w'=w.setCell ⟨b,0,none⟩ (.pointer (some ⟨b,0,none⟩)))
 idle: ∀f,A.idle f=true→(∀args w,(callFunc f args).run P w= .ok (.enter f args) w)∧
  ∀args w,CallsD P f args .returning w fun e u' w'=>(∃v,e= .returned v)∧u'= .returning∧w'=w
 qh: ∀f e,A.qh f=some e→Og P f e
theorem j4.here {P:Program} {A:dg} (h:j4 P A) (f id:Nat):j4 P (A.here f id):=⟨h.count,h.ext,h.idle,h.qh⟩
def Dk (E:FuncId→Bool) (d:Deferred):Prop:= ∃f cap,d.target= .fn (.func f) cap∧E f=true
theorem Oh {P:Program} {A:dg} (hP:j4 P A) {fn:Func} {tmps:Array Value} {R:Ending→World→Prop} {w:World} {v:Value} (hv:(results fn tmps).run P w= .ok v w) (hR:R (.returned v) w):
  ∀ds:List Deferred,(∀d∈ds,Dk A.idle d)→Leaves P fn tmps R ds .returning w
 | [],_=>⟨v,hv,hR⟩
 | d::ds,h=>by
  obtain ⟨f,cap,ht,hf⟩:=h d (by simp)
  obtain ⟨k1,k2⟩:=hP.idle f hf
  obtain ⟨t,Xa⟩:=d
  simp only at ht
  subst ht
  refine leaves_cons (f:=f) (args:=Xa++cap) (by simp) ?_ ?_
  ·simp only[invoke];exact k1 _ w
  ·refine (k2 (Xa++cap) w).mono fun e u' w' hr=> ?_
   obtain ⟨⟨v',rfl⟩,rfl,rfl⟩:=hr
   exact Oh hP hv hR ds fun d hd=>h d (m7 _ hd)
def Dl (P:Program) (A:dg) (o:Oper) (a:Act) (w:World) (I:Nat→Nat→Prop) (β:Nat→Option Nat) (hp:Nat→Option ah) (B:Nat) (M:Nat→Prop) (w0:Start) (r:R):Prop:=
 ∀(next:Act→World→Prop) (Q:Exit→Act→World→Prop),
  (∀v w' I' β' ds,Le P w I β hp w' I' β' (cj hp r.upd)→aW P w' I' β' (cj hp r.upd) B M w0→aj P w' I' β' (cj hp r.upd) v r.v→(∀d∈ds,d∈a.defers∨Dk A.idle d)→next ({a with defers:=ds}.put o.dst v) w')→o.wp P a w next Q
theorem rL.step {o:Oper} {a:Act} {r:R} (h:rL P ((execOp a.eval o).run P w) w I β hp B M w0 r):Dl P A o a w I β hp B M w0 r:=by
 obtain ⟨v,w',I',β',h1,h2,h3,h4⟩:=h
 intro next Q hn
 unfold Oper.wp
 rcases h1 with h1|⟨h1,rfl⟩
 ·rw[h1];exact hn v w' I' β' a.defers h2 h3 h4 fun d hd=> .inl hd
 ·rw[h1];exact hn _ w' I' β' a.defers h2 h3 h4 fun d hd=> .inl hd
theorem Xb: ∀(l:List (Nat × VS)),qj l=uU (l.map (·.2))
 | []=>rfl
 | (_,s)::l=>by simp only[qj,ki,uU,Xb l]
theorem ahy (hC:mF P A C) (S:aW P w I β hp B M w0) (hg:iC P A.aU w I) {vals:List Value} {args:List V} {nb key:Nat} {f:FuncId} {r:R} {rd:List Nat} (hlen:vals.length=args.length)
  (dm: ∀(j:Nat) v x,vals[j]? =some v→args[j]? =some x→aj P w I β hp v x) (h:(Cl P A nb key f args).run C hp=some (r,rd)):
  ∃fn c,P.funcs[f]? =some fn∧fn.body=some c∧Calls P f vals.toArray w fun e w'=> ∃v I' β',e= .returned v∧Le P w I β hp w' I' β' (cj hp r.upd)∧aW P w' I' β' (cj hp r.upd) B M w0∧aj P w' I' β' (cj hp r.upd) v r.v:=by
 unfold Cl at h
 obtain ⟨Xc,h0⟩:=a8 h
 clear h
 rw[bB] at Xc
 subst Xc
 obtain ⟨h1,kE,d1,u1,a1,a2,a3,a5,a4⟩:=N8 S h0 hlen dm
 obtain ⟨h2,vi,d2,u2,b1,b2,b3,b4⟩:=WM S a1
 clear h0 a1
 obtain ⟨hc,h3⟩:=a8 b1
 clear b1
 simp only[bn,bB,oY] at hc
 obtain ⟨fk,qE⟩:=hc
 have vk:=a2.trans b2
 have mZ:h2.ds=d1++d2:=by have:=vk.ds;simpa using this
 have IT:h2.upd=u1++u2:=by have:=vk.upd;simpa using this
 have lS:(h2.pl.map Place.id).Nodup:=vk.nodup (by simp)
 obtain ⟨c1,o,c2,c3⟩:=b4 []
 simp only[eY] at c1 c2 c3
 cases Dm:C key h2.ds with
 | none=>
  simp only[Rd.run,Dm] at h3
  cases h3
 | some es=>
  have s9: ∃fP,(Ck P (A.so key es) nb h2 (A.lv key es)).run C hp=some (r,fP):=by
   obtain ⟨x,hx,e⟩:=bind_some h3
   rw[Dm] at hx
   cases hx
   unfold dg.so dg.lv
   cases cU:A.alt key with
   | none=>rw[cU] at e;exact ⟨_,e⟩
   | some S2=>
    rw[cU] at e
    simp only[Rd.run] at e
    cases hb:(V.nth es 0).toBool<;>(rw[hb] at e;exact ⟨_,e⟩)
  clear h3
  obtain ⟨fP,h3⟩:=s9
  unfold Ck at h3
  simp only at h3
  generalize jb:fF (A.so key es).cM ((A.lv key es).drop (qj (A.so key es).b6))=bs at h3
  generalize tw:h2.pl++uW nb (bs.length-h2.pl.length)=σ at h3
  generalize Di:sX σ nb (bs.drop h2.pl.length)=fr at h3
  obtain ⟨p0,bk,rd4,p1,p2,_,p3⟩:=WV h3
  obtain ⟨vj,rd5,p4⟩:=WY p1
  obtain rfl:=bp p4
  have rK:h2.pl.length≤bs.length:=by rw[iU] at p0;omega
  have IQ: ∀q∈bk,∃(j:Nat) (b:ah),h2.pl[j]? =some (.blk q.1)∧bs[j]? =some b∧iq σ b q.2∧Dh hp q:=by
   intro q hq
   rcases p2 q hq with hx|⟨j,b,k1,k2,k3,k4⟩
   ·simp at hx
   ·have hj:=(bO.1 k1).1
    rw[fB hj] at k2
    exact ⟨j,b,k1,k2,k3,k4⟩
  obtain ⟨fn,c,hf,hb,Oi⟩:=hC key h2.ds es Dm
  refine ⟨fn,c,hf,hb,?_⟩
  have hmb:fF (A.sin key).cM (h2.ds.drop (qj (A.sin key).b6))=fF (A.sin key).cM d2:=by
   rw[mZ,Xb,pq a3]
  have Oj:(bN (A.sin key) h2.ds).hp=kS (fF (A.sin key).cM d2):=by
   simp only[bN,mk,hmb]
  have hl: ∀j blk,(bN (A.sin key) h2.ds).hp j=some blk→∃p,e7 h2.pl j=some p∧eU P w β hp p (o j) blk:=by
   intro j blk hj
   rw[Oj,je] at hj
   obtain ⟨p,k1,k2⟩:=c2 j blk hj
   rw[dE] at k1
   exact ⟨p,k1,k2⟩
  have hd: ∀j,j<h2.pl.length→∃blk,(bN (A.sin key) h2.ds).hp j=some blk:=by
   intro j hj
   rw[Oj,je]
   exact ⟨_,bU (by rw[c1,←fk];exact hj)⟩
  have Xd:Dc P w β hp h2.pl o (bN (A.sin key) h2.ds).hp:=by
   intro j p hj
   obtain ⟨blk,k1⟩:=hd j (by rw[nw] at hj;exact (bO.1 hj).1)
   obtain ⟨p',k2,k3⟩:=hl j blk k1
   rw[hj] at k2
   cases k2
   exact ⟨blk,k1,k3⟩
  obtain ⟨tj,S1⟩:=CI S vk.II
  rw[←IT] at tj S1
  have i1: ∀b j,I b j→jV P w I β hp h2.upd b j:=fun b j h=> .inl h
  have entry:=aht (hp0:=(bN (A.sin key) h2.ds).hp) S lS qE hl (fun dv j blk hj=>by
   have iF:=hj
   rw[Oj,je] at iF
   exact c3 (jV P w I β hp h2.upd) o _ i1 (fun q hq b j hb=> .inr ⟨q,by rw[IT];exact eP.2 (.inr hq),hb⟩) h2.pl [] (by simp) Xd j blk iF (dv j blk hj)) S1.h.kB
  have ahz:vals.length=(A.sin key).b6.length:=by rw[hlen,←a5];simp
  have ha:=Oi w (jV P w I β hp h2.upd) o vals entry (hg.mono i1 fun _ _ _=>rfl) ahz fun j v x hj hx=>by
   rw[mZ] at hx
   exact (((a4.later b2) (jV P w I β hp h2.upd) o _ i1 (fun q hq b j hb=> .inr ⟨q,by rw[IT];exact hq,hb⟩) h2.pl [] (by simp) Xd) d2).2 j v x hj hx
  refine ha.mono fun e w' Dn=> ?_
  obtain ⟨v,I2,cP,rfl,ha⟩:=Dn
  have Ad:(bN (A.so key es) (A.lv key es)).hp=kS bs:=by simp only[bN,mk,jb]
  cases ahA:(A.so key es).safe P with
  | true=>
   simp only[cond_true,eY]
   have kD: ∀b j,I b j→I2 b j:=fun b j h=>ha.le.dR b j (i1 b j h)
   obtain ⟨s1,s2⟩:=ahw ahA kD ha.z9 i1
   have Aa:mE w I o (bN (A.sin key) h2.ds).hp w' I cP (kS bs):=by
    rw[←Ad]
    exact ⟨fun _ _ h=>h,fun b j h=>ha.le.cO b j (i1 b j h),ha.le.blk,ha.le.size⟩
   obtain ⟨β',k1,k2,k3⟩:=W5 S tw.symm Di.symm lS rK p3 IQ hl hd (by rw[←Ad];exact ⟨s1.h,s1.cO,s1.size,fun b j h=> .inl h,s1.io⟩) Aa vj
   exact ⟨v,I,β',rfl,k1,k2,k3.val (by have:=s2 v ha.res;rw[Ad] at this;exact this)⟩
  | false=>
   simp only[cond_false]
   rw[←db,W9]
   have qH: ∀p∈h2.pl,cj hp h2.upd p.id=hp p.id:=fun p hp=>Ac fun q hq e=>
    IM qE (gf.2 ⟨q,hq,rfl⟩) (e▸gf.2 ⟨p,hp,rfl⟩)
   have ahB: ∀q∈bk,∃(j:Nat) (b:ah),h2.pl[j]? =some (.blk q.1)∧bs[j]? =some b∧iq σ b q.2∧Dh (cj hp h2.upd) q:=by
    intro q hq
    obtain ⟨j,b,k1,k2,k3,k4⟩:=IQ q hq
    refine ⟨j,b,k1,k2,k3,fun hn=> ?_⟩
    have:=qH _ (jN k1)
    simp only[Place.id] at this
    rw[this]
    exact k4 hn
   have wK: ∀j blk,(bN (A.sin key) h2.ds).hp j=some blk→∃p,e7 h2.pl j=some p∧eU P w β (cj hp h2.upd) p (o j) blk:=by
    intro j blk hj
    obtain ⟨p,k1,k2⟩:=hl j blk hj
    exact ⟨p,k1,k2.other (qH p (by rw[nw] at k1;exact jN k1))⟩
   have ahC: ∀q∈fr,cj hp h2.upd q.1=none:=by
    intro q hq
    rw[Ac fun q' cQ e=> ?_]
    ·exact vj q hq
    ·obtain ⟨e1,cZ,_,h5⟩:=vk.II q' (IT▸cQ)
     rw[e,vj q hq] at h5
     rcases h5 with ⟨_,h5⟩|⟨_,h5⟩<;>cases h5
   obtain ⟨β',k1,k2,k3⟩:=W5 S1 tw.symm Di.symm lS rK p3 ahB wK hd (by rw[←Ad];exact ha.z9) (by rw[←Ad];exact ha.le) ahC
   exact ⟨v,I2,β',rfl,tj.trans k1,k2,k3.val (by have:=ha.res;rw[Ad] at this;exact this)⟩
theorem Xe (hC:mF P A C) (hP:j4 P A) (S:aW P w I β hp B M w0) (hg:iC P A.aU w I) {a:Act} {nb key:Nat} {o:Oper} {f:FuncId} {vals:List Value} {args:List V} (hlen:vals.length=args.length)
  (dm: ∀(j:Nat) v x,vals[j]? =some v→args[j]? =some x→aj P w I β hp v x) {r:R} {rd:List Nat} (h:(Cl P A nb key f args).run C hp=some (r,rd))
  (hex:(execOp a.eval o).run P w=(callFunc f vals.toArray).run P w):Dl P A o a w I β hp B M w0 r:=by
 intro next Q hn
 obtain ⟨fn,c,hf,hb,Oi⟩:=ahy hC S hg hlen dm h
 unfold Oper.wp
 rw[hex,MuLone.run_callFunc_enter hf (hP.count f _ hf) hb,Oper.upon_enter]
 refine Oi.mono fun e w' Dn=> ?_
 obtain ⟨v,I2,cP,rfl,k1,k2,k3⟩:=Dn
 exact hn v w' I2 cP a.defers k1 k2 k3 fun d hd=> .inl hd
theorem mr.args {a:Act} {sl:Nat→V} (hs:mr P w I β hp a sl) (hg:iC P A.aU w I) {args:Array Operand} {ts:Array TypeId} (bG:args.size=ts.size):
  (args.map a.eval).toList.length=((args.toList.zip ts.toList).map fun p=>bq P A.aU p.2 sl p.1).length∧
  ∀(j:Nat) v x,(args.map a.eval).toList[j]? =some v→((args.toList.zip ts.toList).map fun p=>bq P A.aU p.2 sl p.1)[j]? =some x→aj P w I β hp v x:=by
 refine ⟨by simp;omega,fun j v x hv hx=> ?_⟩
 simp only[Array.toList_map,eZ,List.getElem?_zip_eq_some,BW] at hv hx
 obtain ⟨x1,Dp,rfl⟩:=hv
 obtain ⟨⟨y1,t1⟩,⟨Ol,_⟩,rfl⟩:=hx
 rw[Dp] at Ol
 cases Ol
 exact hs.ev hg t1 _
theorem Xf {vs us:List Value} {xs ys:List V} (h1:vs.length=xs.length) (h2: ∀(j:Nat) v x,vs[j]? =some v→xs[j]? =some x→aj P w I β hp v x)
  (h3: ∀(j:Nat) v x,us[j]? =some v→ys[j]? =some x→aj P w I β hp v x) (j:Nat) (v:Value) (x:V) (hv:(vs++us)[j]? =some v) (hx:(xs++ys)[j]? =some x):aj P w I β hp v x:=by
 by_cases hj:j<vs.length
 ·rw[kj hj] at hv
  rw[kj (by omega)] at hx
  exact h2 j v x hv hx
 ·rw[kR (by omega)] at hv
  rw[kR (by omega)] at hx
  rw[h1] at hv
  exact h3 _ v x hv hx
theorem ahD (hP:j4 P A) (S:aW P w I β hp B M w0) (hg:iC P A.aU w I) {a:Act} {sl:Nat→V} (hs:mr P w I β hp a sl) {dst:Option Tmp} {ty e:TypeId} {pos:String} {after:Array Edge} {guard:Option (Nat × Bool)} {f:FuncId}
  {args:Array Operand} {argTypes:Array TypeId} {nb:Nat} {r:R} {rd:List Nat} (fl:A.qh f=some e)
  (h:((match args.toList with
    | [x]=> .aR (dy P e) (uS e (bq P A.aU ty sl x) fun xs=> .aR (Nat.ble (xs.length*P.bytesOf e) bM) (kq nb (.arr e xs false) (.whole e nb) []))
    | _=> .fail):Rd R).run C hp=some (r,rd)):Dl P A (Oper.mk dst (.call (Go.Call.mk (.value (.func f)) args argTypes)) ty pos after guard) a w I β hp B M w0 r:=by
 cases ha:args.toList with
 | nil=>rw[ha] at h;cases h
 | cons x l=>
  rw[ha] at h
  cases l with
  | cons _ _=>cases h
  | nil=>
   simp only at h
   have e1:args= #[x]:=by rw[←Array.toArray_toList (xs:=args),ha]
   subst e1
   have hx:=hs.ev hg ty x
   obtain ⟨az,h⟩:=a8 h
   have fin: ∀{w1:World} {IU:Nat→Option Nat},(∀id blk,hp id=some blk→eT P w1 I IU hp (IU id) blk)→aj P w1 I IU hp (a.eval x) (bq P A.aU ty sl x)→∃xs,(((∃a',a.eval x= .slice a' 0 0)∧xs=[])∨∃a' c news,Row P w1 I e (a.eval x) xs a' c news)∧
     xs.length*P.bytesOf e≤bM∧hp nb=none∧r=⟨.whole e nb,[(nb,.arr e xs false)]⟩:=by
    intro w1 IU h1 h2
    obtain ⟨xs,nv,l,h⟩:=Io h1 az h2 h
    obtain ⟨fq,h⟩:=a8 h
    rw[fC] at fq
    obtain ⟨hn,rfl⟩:=pk h
    exact ⟨xs,nv,fq,hn,rfl⟩
   obtain ⟨c1,t,hu,c2⟩:=hP.qh f e fl
   intro next Q Ae
   unfold Oper.wp
   have e2:(execOp a.eval ⟨dst,.call ⟨.value (.func f),#[x],argTypes⟩,ty,pos,after,guard⟩).run P w= .ok (.enter f #[a.eval x]) w:=by
    have fQ:a.eval (.func f)= .func (.func f) #[] #[]:=rfl
    simpa[execOp,resolve,fQ,Deferred.ofValue,invoke] using c1 #[a.eval x] w
   rw[e2,Oper.upon_enter]
   refine c2 _ w _ (fun Dq=> ?_) (fun b n c zR=> ?_) ?_
   ·obtain ⟨xs,nv,fq,hn,rfl⟩:=fin S.h.rel hx
    have iG:xs=[]:=by
     rcases nv with ⟨_,h⟩|⟨a,c,news,hr⟩
     ·exact h
     ·have:=hr.val.symm.trans Dq
      cases this
    subst iG
    obtain ⟨a1,a2⟩:=HZ S e hn
    exact Ae _ w I _ a.defers a1 a2 (.eF (dF _ _ _) (dF _ _ _)) fun d hd=> .inl hd
   ·obtain ⟨m1,m2⟩:=afM (w':=w.alloc (.cells #[] e)) S (fun b hb=>heap_alloc_old w _ b hb) (by simp) ⟨rfl,rfl⟩
    obtain ⟨xs,nv,fq,hn,rfl⟩:=fin m2.h.rel (hx.mono m1)
    obtain ⟨v,w',β',a1,a2,a3,a4⟩:=NB (ty:=t) (a0:=some ⟨w.heap.size,0,none⟩) m2 hu az hn fq nv
    exact ⟨v,w',a1,Ae v w' I β' a.defers (m1.trans a2) a3 a4 fun d hd=> .inl hd⟩
   ·obtain ⟨xs,nv,fq,hn,rfl⟩:=fin S.h.rel hx
    rcases nv with ⟨⟨b,h⟩,_⟩|⟨b,c,news,hr⟩
    ·rw[h]
     cases b with
     | none=>exact .inl rfl
     | some b=>exact .inr ⟨_,_,_,rfl⟩
    ·exact .inr ⟨_,_,_,hr.val⟩
theorem ahE (hP:j4 P A) (S:aW P w I β hp B M w0) (hg:iC P A.aU w I) {a:Act} {sl:Nat→V} (hs:mr P w I β hp a sl) {dst:Option Tmp} {ty T0:TypeId} {pos:String} {after:Array Edge} {guard:Option (Nat × Bool)} {f:FuncId}
  {args:Array Operand} {argTypes:Array TypeId} {r:R} {rd:List Nat} (Dr:A.ext f=some T0)
  (h:((match args.toList with
   | [x]=>
    match bq P A.aU ty sl x with
    | .ptr id i c=>Rd.get id fun
     | some (.var T cs)=> .aR (Nat.beq T T0&&(rB P T&&(Nat.beq cs.length (P.cellsOf T)&&(Nat.beq i 0&&Nat.beq c 0)))) (.ret ⟨.bL [],[(id,.var T (.undef::cs.tail))]⟩)
     | _=> .fail
    | _=> .fail
   | _=> .fail):Rd R).run C hp=some (r,rd)):Dl P A (Oper.mk dst (.call (Go.Call.mk (.value (.func f)) args argTypes)) ty pos after guard) a w I β hp B M w0 r:=by
 cases ha:args.toList with
 | nil=>rw[ha] at h;cases h
 | cons x l=>
  rw[ha] at h
  cases l with
  | cons _ _=>cases h
  | nil=>
   simp only at h
   have e1:args= #[x]:=by rw[←Array.toArray_toList (xs:=args),ha]
   subst e1
   have hx:=hs.ev hg ty x
   cases gm:bq P A.aU ty sl x<;>rw[gm] at h hx<;>simp only at h<;>first|(cases h;done)|skip
   rename_i id i c
   obtain ⟨l,h1⟩:=run_get h
   cases ae:hp id with
   | none=>rw[ae] at h1;cases h1
   | some blk=>
    rw[ae] at h1
    cases blk<;>simp only at h1<;>first|(cases h1;done)|skip
    rename_i T cs
    obtain ⟨h2,h3⟩:=a8 h1
    simp only[bn,bB] at h2
    obtain ⟨rfl,bP,hlc,rfl,rfl⟩:=h2
    obtain rfl:=bp h3
    obtain ⟨b,hb,he⟩:=hx.jc ae (by simp)
    have hr:=S.h.rel id _ ae
    rw[hb] at hr
    cases hr with
    | @var _ b' Ca _ aI hh bG hI iG ik=>
     cases aI
     have w8:a.eval x= .pointer (some ⟨b,0,none⟩):=by rw[he];simp[ah.sz]
     obtain ⟨q1,q2⟩:=hP.ext f T Dr b Ca w hh (bG.trans hlc) (ik bP)
     have h0:0<Ca.size:=by
      rcases ik bP with k|k<;>exact (jl.1 k).1
     have qu:(V.undef::cs.tail).length=cs.length:=by
      cases cs with
      | nil=>rw[bG] at h0;simp at h0
      | cons _ _=>rfl
     have rel: ∀(C':Array Value),(∀j,0<j→C'[j]? =Ca[j]?)→∀(j:Nat) v y,C'[j]? =some v→(V.undef::cs.tail)[j]? =some y→aj P w I β hp v y:=by
      intro C' wZ j v y hj hy
      cases j with
      | zero=>simp at hy;subst hy;exact .undef
      | succ j=>
       rw[wZ _ (by omega)] at hj
       refine iG (j+1) v y hj ?_
       cases cs with
       | nil=>rw[bG] at h0;simp at h0
       | cons _ _=>simpa using hy
     have fin: ∀w' C',(∀b',b'≠b→w'.heap[b']? =w.heap[b']?)→w'.heap[b]? =some (.cells C' T (0,0))→C'.size=Ca.size→w.heap.size≤w'.heap.size→w'.os=w.os∧w'.output=w.output→
       (∀j,0<j→C'[j]? =Ca[j]?)→(C'[0]? =some (.pointer none)∨C'[0]? =some (.pointer (some ⟨b,0,none⟩)))→
       Le P w I β hp w' I β (a9 hp id (some (.var T (V.undef::cs.tail))))∧aW P w' I β (a9 hp id (some (.var T (V.undef::cs.tail)))) B M w0:=by
      intro w' C' k1 k2 k3 k4 k5 k6 k7
      exact H2 (w':=w') (blk':= .var T (V.undef::cs.tail)) S ae (by simp) rfl hb hI (by simp) k1 (by rw[pc k2,pc hh,k3]) k4 k5 fun hle=>
       .var rfl k2 (by rw[k3,bG,qu]) hI (fun j v y hj hy=>(rel C' k6 j v y hj hy).mono hle) fun _=>k7
     intro next Q hn
     unfold Oper.wp
     have e2:(execOp a.eval ⟨dst,.call ⟨.value (.func f),#[x],argTypes⟩,ty,pos,after,guard⟩).run P w= .ok (.enter f #[.pointer (some ⟨b,0,none⟩)]) w:=by
      have fQ:a.eval (.func f)= .func (.func f) #[] #[]:=rfl
      simpa[execOp,resolve,fQ,Deferred.ofValue,invoke,w8] using q1
     rw[e2,Oper.upon_enter]
     refine q2.mono fun e w' Dn=> ?_
     obtain ⟨rfl,hw⟩:=Dn
     have Xg:Le P w I β hp w' I β (a9 hp id (some (.var T (V.undef::cs.tail))))∧aW P w' I β (a9 hp id (some (.var T (V.undef::cs.tail)))) B M w0:=by
      rcases hw with rfl|rfl
      ·exact fin w' Ca (fun _ _=>rfl) hh rfl (aw _) ⟨rfl,rfl⟩ (fun _ _=>rfl) (ik bP)
      ·refine fin (w.setCell ⟨b,0,none⟩ (.pointer (some ⟨b,0,none⟩))) (Ca.setIfInBounds 0 (.pointer (some ⟨b,0,none⟩))) (fun b' ct=> ?_) ?_ (by simp) (by simp[World.setCell]) ⟨rfl,rfl⟩ (fun j hj=> ?_) (.inr ?_)
       ·simp only[World.setCell,BU]
        rw[ag (fun e=>ct e.symm)]
       ·simp[World.setCell,BU,hh]
       ·rw[Hj (by omega)]
       ·rw[MB h0]
     exact hn (.tuple #[]) w' I β a.defers Xg.1 Xg.2 (.bL rfl fun j v y hj _=>by simp at hj) fun d hd=> .inl hd
theorem ahF (hC:mF P A C) (hP:j4 P A) (S:aW P w I β hp B M w0) (hg:iC P A.aU w I) {a:Act} {sl:Nat→V} (hs:mr P w I β hp a sl) {ix nb:Nat} {o:Oper} {r:R} {rd:List Nat}
  (h:(gA P A sl ix nb o).run C hp=some (r,rd)):Dl P A o a w I β hp B M w0 r:=by
 cases hc:NX o.op with
 | false=>exact (ahc S hg hs hc h).step
 | true=>
  obtain ⟨dst,op,ty,pos,after,guard⟩:=o
  cases op<;>simp only[NX] at hc<;>first|(cases hc;done)|skip
  case defer c=>
   obtain ⟨callee,args,argTypes⟩:=c
   cases callee with
   | invoke r m=>simp only[gA] at h;cases h
   | builtin b=>simp only[gA] at h;cases h
   | value f=>
   cases f with
   | tmp t=>
    simp only[gA] at h
    cases bP:sl t<;>rw[bP] at h<;>simp only at h<;>first|(cases h;done)|skip
    rename_i f xs ys
    obtain ⟨h1,h2⟩:=a8 h
    obtain rfl:=bp h2
    have hv:=hs t
    rw[bP] at hv
    generalize xd:a.tmps.getD t undef=vt at hv
    cases hv with
    | @fn _ fs cs _ _ q1 q2 q3 q4=>
     intro next Q hn
     unfold Oper.wp
     have fQ:a.eval (.tmp t)= .func (.func f) fs cs:=xd
     have e1:(execOp a.eval ⟨dst,.defer ⟨.value (.tmp t),args,argTypes⟩,ty,pos,after,guard⟩).run P w= .ok (.defer {target:= .fn (.func f) cs,args:=fs++args.map a.eval}) w:=by
      simp[execOp,resolve,fQ,Deferred.ofValue]
     rw[e1,Oper.upon_defer]
     exact hn undef w I β _ (Le.refl w I β hp) S .undef fun d hd=>by
      rcases gK.1 hd with rfl|hd
      ·exact .inr ⟨f,cs,rfl,h1⟩
      ·exact .inl hd
   | func f=>simp only[gA] at h;cases h
   | const _=>simp only[gA] at h;cases h
   | global _=>simp only[gA] at h;cases h
  rename_i c
  obtain ⟨callee,args,argTypes⟩:=c
  cases callee with
  | invoke r m=>cases hc
  | builtin b=>cases hc
  | value f=>
   cases f with
   | func f=>
    simp only[gA] at h
    cases Dr:A.ext f with
    | some T0=>
     rw[Dr] at h
     simp only at h
     exact ahE hP S hg hs Dr h
    | none=>
    rw[Dr] at h
    simp only at h
    cases fl:A.qh f with
    | some e0=>
     rw[fl] at h
     simp only at h
     exact ahD hP S hg hs fl h
    | none=>
    rw[fl] at h
    simp only at h
    obtain ⟨h1,h2⟩:=a8 h
    rw[bB] at h1
    obtain ⟨k1,k2⟩:=hs.args hg h1
    refine Xe hC hP S hg k1 k2 h2 ?_
    have e1:(args.map a.eval).toList.toArray=args.map a.eval:=Array.toArray_toList
    rw[e1]
    simp[execOp,resolve,Act.eval,Deferred.ofValue,invoke]
   | tmp t=>
    simp only[gA] at h
    cases bP:sl t<;>rw[bP] at h<;>simp only at h<;>first|(cases h;done)|skip
    rename_i f xs ys
    obtain ⟨h1,h2⟩:=a8 h
    rw[bB] at h1
    obtain ⟨k1,k2⟩:=hs.args hg h1
    have hv:=hs t
    rw[bP] at hv
    generalize xd:a.tmps.getD t undef=vt at hv
    cases hv with
    | @fn _ fs cs _ _ q1 q2 q3 q4=>
     have l1:fs.toList.length=xs.length:=by simpa using q1
     have l3:cs.toList.length=ys.length:=by simpa using q3
     have r1: ∀(j:Nat) v x,fs.toList[j]? =some v→xs[j]? =some x→aj P w I β hp v x:=fun j v x hj hx=>q2 j v x (by simpa using hj) hx
     have r3: ∀(j:Nat) v x,cs.toList[j]? =some v→ys[j]? =some x→aj P w I β hp v x:=fun j v x hj hx=>q4 j v x (by simpa using hj) hx
     refine Xe hC hP S hg (vals:=fs.toList++(args.map a.eval).toList++cs.toList) (args:=xs++((args.toList.zip argTypes.toList).map fun p=>bq P A.aU p.2 sl p.1)++ys) (by simp only[cX];omega) ?_ h2 ?_
     ·exact Xf (by simp only[cX];omega) (Xf l1 r1 k2) r3
     ·have e1:(fs.toList++(args.map a.eval).toList++cs.toList).toArray=fs++args.map a.eval++cs:=by
       apply Array.toList_inj.1;simp
      rw[e1]
      have fQ:a.eval (.tmp t)= .func (.func f) fs cs:=xd
      simp[execOp,resolve,fQ,Deferred.ofValue,invoke]
   | _=>cases hc
end
section
variable {P:Program} {A:dg} {w w':World} {I I' I2:Nat→Nat→Prop} {μ β β':Nat→Option Nat} {hp hp':Nat→Option ah} {C:ab} {B:Nat} {M:Nat→Prop} {w0:Start}
structure jf (P:Program) (E:FuncId→Bool) (G:Nat→V) (w:World) (I:Nat→Nat→Prop) (β:Nat→Option Nat) (n:Nat) (a:Act) (st:St):Prop where
 sl:mr P w I β st.hp a st.sl
 size:a.tmps.size=n
 defers: ∀d∈a.defers,Dk E d
 aU:iC P G w I
theorem Om {E:FuncId→Bool} {G:Nat→V} {n:Nat} {a:Act} {st:St} {o:Oper} {v:Value} {x:V} {hp':Nat→Option ah} {ds:List Deferred} (h:jf P E G w I β n a st) (hle:Le P w I β st.hp w' I' β' hp') (hd:uY o n=true)
  (hv:aj P w' I' β' hp' v x) (mZ: ∀d∈ds,d∈a.defers∨Dk E d):jf P E G w' I' β' n ({a with defers:=ds}.put o.dst v) ⟨jr st.sl o.dst x,hp',st.nb⟩:=by
 have Xh: ∀d∈ds,Dk E d:=fun d hd=>(mZ d hd).elim (h.defers d) id
 cases ahG:o.dst with
 | none=>exact ⟨fun k=>(h.sl k).mono hle,h.size,Xh,h.aU.mono hle.dR hle.cO⟩
 | some d=>
  have bx:d<a.tmps.size:=by
   unfold uY at hd
   rw[ahG] at hd
   rw[h.size]
   simpa using hd
  refine ⟨fun k=> ?_,by simp[Act.put,h.size],Xh,h.aU.mono hle.dR hle.cO⟩
  simp only[Act.put,jr,a9]
  cases hb:Nat.beq k d with
  | true=>
   rw[bB] at hb
   subst hb
   simpa[bx] using hv
  | false=>
   have ct:d≠k:=fun e=>by rw[e,kQ] at hb;cases hb
   have:=(h.sl k).mono hle
   simpa[Hj ct] using this
theorem Xi {E:FuncId→Bool} {G:Nat→V} {n:Nat} {a:Act} {st:St} {d:Nat} {b:Bool} (h:jf P E G w I β n a st) (hd:st.sl d= .bool b):a.tmps[d]? =some (.bool b):=by
 have:=h.sl d
 rw[hd] at this
 have:=this.kW
 cases ht:a.tmps[d]? with
 | none=>simp[ht] at this;cases this
 | some v=>simp[ht] at this;rw[this]
theorem ahH {x:V} {b:Bool} (h:ng x=some (some b)):x= .bool b:=by
 cases x with
 | bool c=>simp only[ng] at h;injection h with h;injection h with h;rw[h]
 | bL vs=>cases vs<;>simp[ng] at h
 | _=>simp[ng] at h
theorem ahI {x:V} (h:ng x=some none):x= .bL []:=by
 cases x with
 | bL vs=>cases vs with
  | nil=>rfl
  | cons _ _=>simp[ng] at h
 | bool c=>simp[ng] at h
 | _=>simp[ng] at h
theorem aj.ahJ {v:Value} (h:aj P w I β hp v (.bL [])):v= .tuple #[]:=by
 cases h with
 | @bL cs _ hs _=>
  have:cs= #[]:=by
   apply Array.eq_empty_of_size_eq_zero
   simpa using hs
  rw[this]
theorem aj.Xj:aj P w I β hp Go.undef (.bL []):= .bL (by rfl) (fun j v x _ hx=>by simp at hx)
theorem Xk (hC:mF P A C) (hP:j4 P A) {ops:Array Oper} {n i nb:Nat} {o:Oper} (ho:ops[i]? =some o) {a:Act} {st st':St} {R W:List Nat} (S:aW P w I β st.hp B M w0) (hA:jf P A.idle A.aU w I β n a st)
  (h:iY P A C n ops i o nb st=some (st',R,W)) {K:Act→World→Prop} {Q:Exit→Act→World→Prop}
  (hK: ∀a' w' I' β',Le P w I β st.hp w' I' β' st'.hp→aW P w' I' β' st'.hp B M w0→jf P A.idle A.aU w' I' β' n a' st'→K a' w'):wpOp P ops Q i K a w:=by
 unfold iY at h
 cases hd:uY o n with
 | false=>rw[hd] at h;cases h
 | true=>
  rw[hd] at h
  simp only[cond_true] at h
  have go: ∀{On:St} {R W:List Nat},(((gA P A st.sl i (nb+64*i) o).run C st.hp).bind fun r=>some ((⟨jr st.sl o.dst r.1.v,cj st.hp r.1.upd,st.nb⟩:St),sZ r.2 r.1.upd,gO st.hp r.1.upd))=some (On,R,W)→On=st'→
    o.wp P a w K Q:=by
   intro On R W h e
   obtain ⟨⟨r,rd⟩,h1,h2⟩:=bind_some h
   cases h2
   subst e
   exact ahF hC hP S hA.aU hA.sl h1 K Q fun v w' I' β' ds k1 k2 k3 k4=>hK _ w' I' β' k1 k2 (Om hA k1 hd k3 k4)
  unfold wpOp
  rw[ho]
  simp only
  cases hg:o.guard with
  | none=>
   rw[hg] at h
   simp only[Region.wanted,hg,jO]
   exact .inl (go h rfl)
  | some gw=>
   obtain ⟨g,want⟩:=gw
   rw[hg] at h
   simp only at h
   cases ny:(ops[g]?).bind (·.dst) with
   | none=>rw[ny] at h;cases h
   | some d=>
    rw[ny] at h
    simp only at h
    cases oz:ng (st.sl d) with
    | none=>rw[oz] at h;cases h
    | some ob=>
    rw[oz] at h
    cases ob with
    | none=>
     have zR:=ahI oz
     have hy:yielded ops a.tmps g=none:=by
      unfold yielded
      rw[ny]
      have:=hA.sl d
      rw[zR] at this
      have hu:=aj.ahJ this
      simp only[Option.bind_some]
      cases ht:a.tmps[d]? with
      | none=>rfl
      | some v=>simp[ht] at hu;subst hu;rfl
     simp only[Region.wanted,hg,hy]
     injection h with h
     injection h with h3 h4
     subst h3
     have h2:((none:Option Bool)==some want)=false:=rfl
     simp only[h2,Bool.false_eq_true,lz]
     exact hK _ w I β (Le.refl w I β st.hp) S (Om (ds:=a.defers) hA (Le.refl w I β st.hp) hd aj.Xj fun d h=> .inl h)
    | some b=>
    simp only at h
    have zR:=ahH oz
    have hy:yielded ops a.tmps g=some b:=by
     unfold yielded
     rw[ny]
     simp only[Option.bind_some,Xi hA zR]
    simp only[Region.wanted,hg,hy]
    by_cases hb:b=want
    ·subst hb
     simp only[beq_self_eq_true,cond_true] at h
     simp only[beq_self_eq_true,jO]
     exact .inl (go h rfl)
    ·have h1:(b==want)=false:=by simp[hb]
     have h2:(some b==some want)=false:=by simp[hb]
     rw[h1] at h
     simp only[cond_false] at h
     injection h with h
     injection h with h3 h4
     subst h3
     simp only[h2,Bool.false_eq_true,lz]
     exact hK _ w I β (Le.refl w I β st.hp) S (Om (ds:=a.defers) hA (Le.refl w I β st.hp) hd aj.Xj fun d h=> .inl h)
def xk (hp hp':Nat→Option ah) (c:Nat):Prop:=hp' c=hp c∧(KB≤c→ib (hp' (c-KB))=ib (hp (c-KB)))
theorem xk.symm {c:Nat} (h:xk hp hp' c):xk hp' hp c:=⟨h.1.symm,fun hc=>(h.2 hc).symm⟩
theorem vl {α:Type}: ∀{p:Rd α} {r:α} {rd:List Nat},p.run C hp=some (r,rd)→(∀id∈rd,xk hp hp' id)→p.run C hp'=some (r,rd)
 | .ret a,r,rd,h,_=>h
 | .fail,r,rd,h,_=>by cases h
 | .get id k,r,rd,h,he=>by
  obtain ⟨x,h1,h2⟩:=bind_some h
  cases h2
  have e1:hp' id=hp id:=(he id (by simp)).1
  have:=vl (p:=k (hp id)) (r:=x.1) (rd:=x.2) h1 (fun i hi=>he i (by simp[hi]))
  simp only[Rd.run,e1,this,Option.bind_some]
 | .live id ok k,r,rd,h,he=>by
  simp only[Rd.run] at h⊢
  cases hk:ok (ib (hp id)) with
  | false=>rw[hk] at h;cases h
  | true=>
   rw[hk] at h
   obtain ⟨x,h1,h2⟩:=bind_some h
   cases h2
   have e1:ib (hp' id)=ib (hp id):=by
    have:=(he (id+KB) (by simp)).2 (Nat.le_add_left _ _)
    rwa [zc] at this
   have:=vl (p:=k) (r:=x.1) (rd:=x.2) h1 (fun i hi=>he i (by simp[hi]))
   rw[e1,hk,this]
   rfl
 | .opt o k,r,rd,h,he=>by
  obtain ⟨x,h1,h2⟩:=bind_some h
  simp only[Rd.run,h1,Option.bind_some]
  exact vl h2 he
 | .aR b k,r,rd,h,he=>by
  obtain ⟨h1,h2⟩:=a8 h
  simp only[Rd.run,h1,cond_true]
  exact vl h2 he
 | .call key ds k,r,rd,h,he=>by
  obtain ⟨x,h1,h2⟩:=bind_some h
  simp only[Rd.run,h1,Option.bind_some]
  exact vl h2 he
 | .alt true x y,r,rd,h,he=>vl (p:=x) h he
 | .alt false x y,r,rd,h,he=>vl (p:=y) h he
theorem ahK {G:Nat→V} {sl sl':Nat→V} {t:TypeId} {x:Operand} (h: ∀k,x= .tmp k→sl k=sl' k):bq P G t sl x=bq P G t sl' x:=by
 cases x with
 | tmp k=>exact h k rfl
 | _=>rfl
theorem ahL {sl sl':Nat→V} {ix nb:Nat} {o:Oper} (h: ∀x∈o.op.operands,∀k,x= .tmp k→sl k=sl' k):gA P A sl ix nb o=gA P A sl' ix nb o:=by
 have fQ: ∀t x,x∈o.op.operands→bq P A.aU t sl x=bq P A.aU t sl' x:=fun t x hx=>ahK (h x hx)
 obtain ⟨dst,op,ty,pos,after,guard⟩:=o
 have Xl: ∀(t:TypeId) (ps:Array (Nat × Operand)),(∀x∈ps.map (·.2),bq P A.aU t sl x=bq P A.aU t sl' x)→
   (ps.toList.map fun p=>(p.1,bq P A.aU t sl p.2))=ps.toList.map fun p=>(p.1,bq P A.aU t sl' p.2):=fun t ps hp=>
  oZ fun p hm=>by rw[hp p.2 (Array.mem_map.2 ⟨p,rz.1 hm,rfl⟩)]
 have ahM: ∀(t:TypeId) (ps:Array (Nat × Operand)),(∀x∈ps.map (·.2),bq P A.aU t sl x=bq P A.aU t sl' x)→
   (ps.toList.map fun p=>(bq P A.aU t sl p.2).cells)=ps.toList.map fun p=>(bq P A.aU t sl' p.2).cells:=fun t ps hp=>
  oZ fun p hm=>by rw[hp p.2 (Array.mem_map.2 ⟨p,rz.1 hm,rfl⟩)]
 cases op<;>simp only[Op.operands] at fQ<;>simp only[gA]
 case pick c x y=>rw[fQ ty c (by simp),fQ ty x (by simp),fQ ty y (by simp)]
 case build t ps=>rw[Xl ty ps fun x hx=>fQ ty x (by simpa using hx),ahM ty ps fun x hx=>fQ ty x (by simpa using hx)]
 case buildSlice t len ps=>
  split
  ·rename_i e _
   rw[Xl e ps fun x hx=>fQ e x (by simpa using hx)]
  ·rfl
 case slice t x lo hi mx=>
  cases mx with
  | some m=>
   have e1:lo.map (bq P A.aU 0 sl)=lo.map (bq P A.aU 0 sl'):=by
    cases lo with
    | none=>rfl
    | some l=>simp only[Option.map_some,fQ 0 l (by simp)]
   have e2:hi.map (bq P A.aU 0 sl)=hi.map (bq P A.aU 0 sl'):=by
    cases hi with
    | none=>rfl
    | some l=>simp only[Option.map_some,fQ 0 l (by simp)]
   have e3:=fQ 0 m (by simp)
   simp only[fQ ty x (by simp),e1,e2,e3]
  | none=>
   have e1:lo.map (bq P A.aU 0 sl)=lo.map (bq P A.aU 0 sl'):=by
    cases lo with
    | none=>rfl
    | some l=>simp only[Option.map_some,fQ 0 l (by simp)]
   have e2:hi.map (bq P A.aU 0 sl)=hi.map (bq P A.aU 0 sl'):=by
    cases hi with
    | none=>rfl
    | some l=>simp only[Option.map_some,fQ 0 l (by simp)]
   simp only[fQ ty x (by simp),e1,e2]
 case call c=>
  obtain ⟨callee,args,argTypes⟩:=c
  have xl: ∀t x,x∈args→bq P A.aU t sl x=bq P A.aU t sl' x:=fun t x hx=>fQ t x (by simp[Call.operands,hx])
  have hl: ∀t (l:List Operand),(∀x∈l,x∈args)→l.map (bq P A.aU t sl)=l.map (bq P A.aU t sl'):=fun t l hl=>oZ fun x hx=>xl t x (hl x hx)
  have hz:((args.toList.zip argTypes.toList).map fun p=>bq P A.aU p.2 sl p.1)=(args.toList.zip argTypes.toList).map fun p=>bq P A.aU p.2 sl' p.1:=
   oZ fun p hp=>xl p.2 p.1 (rz.1 (List.of_mem_zip hp).1)
  cases callee with
  | invoke r m=>rfl
  | builtin b=>
   have cU: ∀x∈args.toList,∀t,bq P A.aU t sl x=bq P A.aU t sl' x:=fun x hx t=>xl t x (rz.1 hx)
   have vm: ∀t (l:List Operand),(∀x∈l,∀t,bq P A.aU t sl x=bq P A.aU t sl' x)→l.map (bq P A.aU t sl)=l.map (bq P A.aU t sl'):=fun t l h=>oZ fun x hx=>h x hx t
   cases b<;>first|rfl|skip
   case append=>
    dsimp only
    generalize args.toList=al at cU
    match al,cU,argTypes.toList with
    | [s,x],cU,[t,u]=>simp only[cU s (by simp),cU x (by simp)]
    | [],_,_=>rfl
    | [_],_,_=>rfl
    | _::_::_::_,_,_=>rfl
    | [_,_],_,[]=>rfl
    | [_,_],_,[_]=>rfl
    | [_,_],_,_::_::_::_=>rfl
   case copy=>
    dsimp only
    generalize args.toList=al at cU
    match al,cU,argTypes.toList with
    | [s,x],cU,[t,u]=>simp only[cU s (by simp),cU x (by simp)]
    | [],_,_=>rfl
    | [_],_,_=>rfl
    | _::_::_::_,_,_=>rfl
    | [_,_],_,[]=>rfl
    | [_,_],_,[_]=>rfl
    | [_,_],_,_::_::_::_=>rfl
   case len=>
    dsimp only
    generalize args.toList=al at cU
    match al,cU,argTypes.toList with
    | [x],cU,[t]=>simp only[cU x (by simp)]
    | [],_,_=>rfl
    | _::_::_,_,_=>rfl
    | [_],_,[]=>rfl
    | [_],_,_::_::_=>rfl
   case clear=>
    dsimp only
    generalize args.toList=al at cU
    match al,cU,argTypes.toList with
    | [x],cU,[t]=>simp only[cU x (by simp)]
    | [],_,_=>rfl
    | _::_::_,_,_=>rfl
    | [_],_,[]=>rfl
    | [_],_,_::_::_=>rfl
   case unsafeSliceData=>
    dsimp only
    generalize args.toList=al at cU
    match al,cU with
    | [],_=>rfl
    | [x],cU=>simp only[cU x (by simp)]
    | _::_::_,_=>rfl
   case unsafeString=>
    dsimp only
    generalize args.toList=al at cU
    match al,cU,argTypes.toList with
    | [s,x],cU,[t,u]=>simp only[cU s (by simp),cU x (by simp)]
    | [],_,_=>rfl
    | [_],_,_=>rfl
    | _::_::_::_,_,_=>rfl
    | [_,_],_,[]=>rfl
    | [_,_],_,[_]=>rfl
    | [_,_],_,_::_::_::_=>rfl
   case max=>
    dsimp only
    generalize args.toList=al at cU
    match al,cU with
    | [],_=>rfl
    | x::l,cU=>simp only[cU x (by simp),vm ty l (fun y hy=>cU y (by simp[hy]))]
   case min=>
    dsimp only
    generalize args.toList=al at cU
    match al,cU with
    | [],_=>rfl
    | x::l,cU=>simp only[cU x (by simp),vm ty l (fun y hy=>cU y (by simp[hy]))]
  | value f=>
   cases f<;>first|rfl|skip
   ·rename_i t
    have ht:sl t=sl' t:=h (.tmp t) (by simp[Op.operands,Call.operands]) t rfl
    simp only[hz,ht]
   ·simp only[hz]
    cases hx:args.toList with
    | nil=>rfl
    | cons x l=>
     cases l with
     | cons _ _=>rfl
     | nil=>simp only[xl ty x (rz.1 (by rw[hx];simp))]
 case defer c=>
  obtain ⟨callee,args,argTypes⟩:=c
  cases callee with
  | invoke r m=>rfl
  | builtin b=>rfl
  | value f=>
   cases f<;>first|rfl|skip
   rename_i t
   have ht:sl t=sl' t:=h (.tmp t) (by simp[Op.operands,Call.operands]) t rfl
   simp only[ht]
 case makeFunc fn a b=>
  cases fn<;>first|rfl|skip
  have e1:a.toList.map (bq P A.aU ty sl)=a.toList.map (bq P A.aU ty sl'):=oZ fun x hx=>fQ ty x (by simp[rz.1 hx])
  have e2:b.toList.map (bq P A.aU ty sl)=b.toList.map (bq P A.aU ty sl'):=oZ fun x hx=>fQ ty x (by simp[rz.1 hx])
  dsimp only
  rw[e1,e2]
 case makeMap t r=>cases r<;>rfl
 all_goals first
  | rfl
  | (simp[fQ];done)
end
section
variable {P:Program} {A:dg} {w w':World} {I I' I2:Nat→Nat→Prop} {μ β β':Nat→Option Nat} {hp hp':Nat→Option ah} {C:ab} {B:Nat} {M:Nat→Prop} {w0:Start}
theorem Oo {q:Nat × ah} {upd:List (Nat × ah)} (h:q∈upd):q.1∈gO hp upd:=by
 unfold gO
 rw[uF]
 refine ⟨q,h,?_⟩
 cases Nat.beq (ib (hp q.1)) (ib (some q.2))<;>simp
theorem ahN {upd:List (Nat × ah)} (h: ∀q∈upd,ib (hp' q.1)=ib (hp q.1)):gO hp' upd=gO hp upd:=by
 unfold gO
 induction upd with
 | nil=>rfl
 | cons q l ih=>
  rw[uG,uG,ih fun x hx=>h x (m7 _ hx),h q (by simp)]
theorem Xm {c:Nat}: ∀{upd:List (Nat × ah)},c∉gO hp upd→xk hp (cj hp upd) c:=fun {upd} h=>by
 refine ⟨Ac fun q hq e=>h (e▸Oo hq),fun hc=> ?_⟩
 induction upd with
 | nil=>rfl
 | cons q l ih=>
  have hl:c∉gO hp l:=fun hx=>h (by unfold gO at*;rw[uG];exact List.mem_append_right _ hx)
  have hq:ib (hp q.1)=ib (some q.2)∨c≠q.1+KB:=by
   cases hb:Nat.beq (ib (hp q.1)) (ib (some q.2)) with
   | true=>exact .inl (BI hb)
   | false=>
    refine .inr fun e=>h ?_
    unfold gO
    rw[uG,hb,e]
    simp
  show ib (a9 (cj hp l) q.1 (some q.2) (c-KB))=_
  simp only[a9]
  cases hb:Nat.beq (c-KB) q.1 with
  | false=>exact ih hl
  | true=>
   have e:=BI hb
   rcases hq with hq|hq
   ·rw[cond_true,e];exact hq.symm
   ·exact absurd (by omega) hq
theorem Xn {n i nb:Nat} {ops:Array Oper} {o:Oper} {st st':St} {R W:List Nat} (h:iY P A C n ops i o nb st=some (st',R,W)):
  ∃x upd,st'=⟨jr st.sl o.dst x,cj st.hp upd,st.nb⟩∧W=gO st.hp upd∧∀eV:St,(∀d∈o.looksAt ops,eV.sl d=st.sl d)→(∀id∈R,xk st.hp eV.hp id)→
   iY P A C n ops i o nb eV=some (⟨jr eV.sl o.dst x,cj eV.hp upd,eV.nb⟩,R,W)∧W=gO eV.hp upd:=by
 unfold iY at h
 cases hd:uY o n with
 | false=>rw[hd] at h;cases h
 | true=>
  rw[hd] at h
  simp only[cond_true] at h
  have go:(((gA P A st.sl i (nb+64*i) o).run C st.hp).bind fun r=>some ((⟨jr st.sl o.dst r.1.v,cj st.hp r.1.upd,st.nb⟩:St),sZ r.2 r.1.upd,gO st.hp r.1.upd))=some (st',R,W)→
    ∃x upd,st'=⟨jr st.sl o.dst x,cj st.hp upd,st.nb⟩∧W=gO st.hp upd∧∀eV:St,(∀d∈o.looksAt ops,eV.sl d=st.sl d)→(∀id∈R,xk st.hp eV.hp id)→
     (((gA P A eV.sl i (nb+64*i) o).run C eV.hp).bind fun r=>some ((⟨jr eV.sl o.dst r.1.v,cj eV.hp r.1.upd,eV.nb⟩:St),sZ r.2 r.1.upd,gO eV.hp r.1.upd))=some (⟨jr eV.sl o.dst x,cj eV.hp upd,eV.nb⟩,R,W)∧W=gO eV.hp upd:=by
   intro h
   obtain ⟨⟨r,rd⟩,h1,h2⟩:=bind_some h
   cases h2
   refine ⟨r.v,r.upd,rfl,rfl,fun eV hs hh=> ?_⟩
   have hw:gO eV.hp r.upd=gO st.hp r.upd:=ahN fun q hq=>by
    have:=(hh (q.1+KB) (List.mem_append_right _ (gf.2 ⟨q,hq,rfl⟩))).2 (Nat.le_add_left _ _)
    rwa [zc] at this
   rw[ahL (sl':=st.sl) fun x hx k hk=> ?_,vl h1 fun c hc=>hh c (List.mem_append_left _ hc)]
   ·refine ⟨?_,hw.symm⟩
    rw[Option.bind_some,hw]
   ·subst hk
    exact hs k (List.mem_append_left _ (List.mem_filterMap.2 ⟨.tmp k,by simpa using hx,rfl⟩))
  cases hg:o.guard with
  | none=>
   rw[hg] at h
   obtain ⟨x,upd,e1,e2,e3⟩:=go h
   refine ⟨x,upd,e1,e2,fun eV hs hh=> ?_⟩
   unfold iY
   simp only[hd,cond_true,hg]
   exact e3 eV hs hh
  | some gw=>
   obtain ⟨g,want⟩:=gw
   rw[hg] at h
   simp only at h
   cases ny:(ops[g]?).bind (·.dst) with
   | none=>rw[ny] at h;cases h
   | some d=>
    rw[ny] at h
    simp only at h
    have Ds:d∈o.looksAt ops:=List.mem_append_right _ (by rw[hg];simp[ny])
    cases oz:ng (st.sl d) with
    | none=>rw[oz] at h;cases h
    | some ob=>
    rw[oz] at h
    cases ob with
    | none=>
     injection h with h
     injection h with h3 h4
     injection h4 with h5 h6
     subst h5;subst h6
     refine ⟨.bL [],[],h3.symm,rfl,fun eV hs hh=> ?_⟩
     unfold iY
     simp only[hd,cond_true,hg,ny,hs d Ds,oz]
     exact ⟨rfl,rfl⟩
    | some b=>
    simp only at h
    cases hb:b==want with
    | true=>
     rw[hb] at h
     obtain ⟨x,upd,e1,e2,e3⟩:=go h
     refine ⟨x,upd,e1,e2,fun eV hs hh=> ?_⟩
     unfold iY
     simp only[hd,cond_true,hg,ny,hs d Ds,oz,hb]
     exact e3 eV hs hh
    | false=>
     rw[hb] at h
     simp only[cond_false] at h
     injection h with h
     injection h with h3 h4
     injection h4 with h5 h6
     subst h5;subst h6
     refine ⟨.bL [],[],h3.symm,rfl,fun eV hs hh=> ?_⟩
     unfold iY
     simp only[hd,cond_true,hg,ny,hs d Ds,oz,hb,cond_false]
     exact ⟨rfl,rfl⟩
theorem Xo {sl:Nat→V} {d:Option Nat} {x:V} {k:Nat} (h:d≠some k):jr sl d x k=sl k:=by
 cases d with
 | none=>rfl
 | some d=>exact e9 _ _ fun e=>h (by rw[e])
theorem ahO {hp:Nat→Option ah} {a b:List (Nat × ah)} (h: ∀q∈a,∀q'∈b,q.1≠q'.1):cj (cj hp a) b=cj (cj hp b) a:=by
 funext id
 by_cases ha: ∃q∈a,q.1=id
 ·have hb: ∀q∈b,q.1≠id:=by
   obtain ⟨q,hq,rfl⟩:=ha
   exact fun q' cQ e=>h q hq q' cQ e.symm
  rw[Ac hb]
  obtain ⟨q,hq,rfl⟩:=ha
  have same: ∀(bQ fj:Nat→Option ah) (l:List (Nat × ah)) (q:Nat × ah),q∈l→cj bQ l q.1=cj fj l q.1:=by
   intro bQ fj l
   induction l with
   | nil=>intro q hq;simp at hq
   | cons p l ih=>
    intro q hq
    simp only[cj,a9]
    cases hb:Nat.beq q.1 p.1 with
    | true=>rfl
    | false=>
     simp only[cond_false]
     refine ih q ((gK.1 hq).resolve_left fun e=> ?_)
     rw[e,kQ] at hb;cases hb
  exact same _ _ a q hq
 ·rw[Ac (hp:=cj hp b) (l:=a) fun q hq e=>ha ⟨q,hq,e⟩]
  have same: ∀(bQ fj:Nat→Option ah) (l:List (Nat × ah)),bQ id=fj id→cj bQ l id=cj fj l id:=by
   intro bQ fj l he
   induction l with
   | nil=>exact he
   | cons p l ih=>
    simp only[cj,a9]
    cases hb:Nat.beq id p.1 with
    | true=>rfl
    | false=>exact ih
  exact same _ _ b (Ac fun q hq e=>ha ⟨q,hq,e⟩)
structure Xp (ops:Array Oper) (o1 o2:Oper) (R1 W1 R2 W2:List Nat):Prop where
 apart:Oper.apart ops o1 o2=true
 w: ∀id∈W1,id∉R2∧id∉W2
 r: ∀id∈R1,id∉W2
theorem ahP {n i j nb:Nat} {ops:Array Oper} {o1 o2:Oper} {st j5 eV:St} {R1 W1 R2 W2:List Nat} (h1:iY P A C n ops i o1 nb st=some (j5,R1,W1)) (h2:iY P A C n ops j o2 nb j5=some (eV,R2,W2))
  (hi:Xp ops o1 o2 R1 W1 R2 W2): ∃IV,iY P A C n ops j o2 nb st=some (IV,R2,W2)∧iY P A C n ops i o1 nb IV=some (eV,R1,W1):=by
 obtain ⟨x1,u1,e1,f1,g1⟩:=Xn h1
 obtain ⟨x2,u2,e2,f2,g2⟩:=Xn h2
 obtain ⟨a1,a2,a3⟩:=Oper.apart_spec hi.apart
 subst e1
 have k2:=g2 st (fun d hd=>by simp only;rw[Xo fun e=>a1 d e hd]) fun c hc=>(Xm fun hw=>(hi.w c (by rw[f1];exact hw)).1 hc).symm
 refine ⟨_,k2.1,?_⟩
 rw[(g1 _ (fun d hd=> ?_) (fun c hd=> ?_)).1,e2]
 ·congr 3
  ·funext k
   cases hd1:o1.dst with
   | none=>rfl
   | some d1=>
    cases nq:o2.dst with
    | none=>rfl
    | some d2=>
     have ct:d2≠d1:=fun e=>a2 d1 hd1 (by rw[nq,e])
     simp only[jr,a9]
     cases Xq:Nat.beq k d1<;>cases rX:Nat.beq k d2<;>simp only[cond_true,cond_false]
     rw[bB] at Xq rX
     exact absurd (rX.symm.trans Xq) ct
  ·exact (ahO fun q hq q' cQ e=>(hi.w q.1 (by rw[f1];exact Oo hq)).2 (by rw[f2,e];exact Oo cQ)).symm
 ·simp only
  rw[Xo fun e=>a3 d e hd]
 ·exact Xm fun hw=>hi.r c hd (by rw[k2.2];exact hw)
def Af (P:Program) (A:dg) (C:ab) (n:Nat) (ops:Array Oper) (nb:Nat):List (Nat × Oper × List Nat × List Nat)→St→St→Prop
 | [],st,st'=>st=st'
 | (i,o,R,W)::l,st,st'=> ∃j5,iY P A C n ops i o nb st=some (j5,R,W)∧Af P A C n ops nb l j5 st'
def xm (x:Nat × Oper × List Nat × List Nat):Nat × List Nat × List Nat:=(x.1,x.2.2.1,x.2.2.2)
theorem Xr {n nb:Nat} {ops:Array Oper}: ∀{l:List (Nat × Oper)} {st st':St} {log IW:Log},rH P A C n ops nb l st log=some (st',IW)→
  ∃g,g.map (fun x=>(x.1,x.2.1))=l∧IW=log++g.map xm∧Af P A C n ops nb g st st'
 | [],st,st',log,IW,h=>by
  cases h
  exact ⟨[],rfl,by simp,rfl⟩
 | (i,o)::l,st,st',log,IW,h=>by
  obtain ⟨⟨j5,R,W⟩,h1,h2⟩:=bind_some h
  obtain ⟨g,a,b,c⟩:=Xr h2
  exact ⟨(i,o,R,W)::g,by simp[a],by simp[b,xm],j5,h1,c⟩
def Xs (ops:Array Oper) (x y:Nat × Oper × List Nat × List Nat):Prop:=Xp ops x.2.1 y.2.1 x.2.2.1 x.2.2.2 y.2.2.1 y.2.2.2
theorem Xt {n nb:Nat} {ops:Array Oper} {y:Nat × Oper × List Nat × List Nat} {g2:List (Nat × Oper × List Nat × List Nat)}: ∀{g1:List (Nat × Oper × List Nat × List Nat)} {st st':St},
  Af P A C n ops nb (g1++y::g2) st st'→(∀x∈g1,Xs ops x y)→∃j5,iY P A C n ops y.1 y.2.1 nb st=some (j5,y.2.2.1,y.2.2.2)∧Af P A C n ops nb (g1++g2) j5 st'
 | [],st,st',h,_=>h
 | x::g1,st,st',h,hi=>by
  obtain ⟨j5,h1,h2⟩:=h
  obtain ⟨eV,h3,h4⟩:=Xt h2 fun z hz=>hi z (m7 _ hz)
  obtain ⟨IV,h5,h6⟩:=ahP h1 h3 (hi x (by simp))
  exact ⟨IV,h5,eV,h6,h4⟩
theorem Xu (hC:mF P A C) (hP:j4 P A) {n nb:Nat} {ops:Array Oper} {Q:Exit→Act→World→Prop}: ∀{g:List (Nat × Oper × List Nat × List Nat)} {st st':St} {a:Act} {w:World} {I:Nat→Nat→Prop} {β:Nat→Option Nat},
  Af P A C n ops nb g st st'→(∀x∈g,ops[x.1]? =some x.2.1)→aW P w I β st.hp B M w0→jf P A.idle A.aU w I β n a st→
  (∀a' w' I' β',Le P w I β st.hp w' I' β' st'.hp→aW P w' I' β' st'.hp B M w0→jf P A.idle A.aU w' I' β' n a' st'→Q .normal a' w')→wpOps P ops Q (g.map (·.1)) a w
 | [],st,st',a,w,I,β,h,_,S,hA,hQ=>by
  cases h
  exact hQ a w I β (Le.refl w I β _) S hA
 | x::g,st,st',a,w,I,β,h,ho,S,hA,hQ=>by
  obtain ⟨j5,h1,h2⟩:=h
  rw[ki,wpOps_cons]
  refine Xk hC hP (ho x (by simp)) S hA h1 fun a' w' I' β' k1 k2 k3=> ?_
  exact Xu hC hP h2 (fun y hy=>ho y (m7 _ hy)) k2 k3 fun a2 w2 I2 cP m1 m2 m3=>hQ a2 w2 I2 cP (k1.trans m1) m2 m3
end
section
variable {P:Program} {A:dg} {w w':World} {I I' I2:Nat→Nat→Prop} {μ β β':Nat→Option Nat} {hp hp':Nat→Option ah} {C:ab} {B:Nat} {M:Nat→Prop} {w0:Start}
inductive xn (ops:Array Oper):Nat→Nat→Prop
 | Xv {i x:Nat} {o:Oper} {e:Edge}:ops[i]? =some o→e∈o.after→Region.binds .any e=true→e.on=x→xn ops i x
 | trans {i x:Nat} {o:Oper} {e:Edge}:ops[i]? =some o→e∈o.after→Region.binds .any e=true→xn ops e.on x→xn ops i x
theorem Xw {acc:Array Nat} {x:Nat}: ∀{l:List Edge} {s:Nat},(l.foldl (fun s e=>if Region.binds .any e then s|||2^e.on|||acc.getD e.on 0 else s) s).testBit x=true→
  s.testBit x=true∨∃e∈l,Region.binds .any e=true∧(e.on=x∨(acc.getD e.on 0).testBit x=true)
 | [],s,h=> .inl h
 | e::l,s,h=>by
  simp only[List.foldl_cons] at h
  rcases Xw h with h1|⟨e',a,b⟩
  ·by_cases hb:Region.binds .any e=true
   ·rw[af hb,o0,o0,qc,qc] at h1
    rcases h1 with (h1|h1)|h1
    ·exact .inl h1
    ·rw[qd] at h1
     exact .inr ⟨e,by simp,hb,.inl (by simpa using h1)⟩
    ·exact .inr ⟨e,by simp,hb,.inr h1⟩
   ·rw[ag hb] at h1
    exact .inl h1
  ·exact .inr ⟨e',m7 _ a,b⟩
theorem Xx {ops:Array Oper} {x:Nat}: ∀{l:List Oper} {acc:Array Nat},(∀j o,l[j]? =some o→ops[acc.size+j]? =some o)→(∀j,(acc.getD j 0).testBit x=true→xn ops j x)→
  ∀j,((l.foldl (fun acc o=>acc.push (o.after.foldl (fun s e=>if Region.binds .any e then s|||2^e.on|||acc.getD e.on 0 else s) 0)) acc).getD j 0).testBit x=true→xn ops j x
 | [],acc,_,vn,j,h=>vn j h
 | o::l,acc,hl,vn,j,h=>by
  simp only[List.foldl_cons] at h
  refine Xx (l:=l) ?_ ?_ j h
  ·intro j o' hj
   have:=hl (j+1) o' (by simpa using hj)
   rw[Array.size_push]
   rwa [show acc.size+1+j=acc.size+(j+1) by omega]
  ·intro k hk
   simp only[zd,Array.getElem?_push] at hk
   by_cases Oq:k=acc.size
   ·rw[af Oq] at hk
    simp only[Option.getD_some] at hk
    rw[←Hk] at hk
    have ho:=hl 0 o rfl
    rw[Nat.add_zero] at ho
    rw[Oq]
    have rX:(o.after.toList.foldl (fun s e=>if Region.binds .any e then s|||2^e.on|||acc.getD e.on 0 else s) 0).testBit x=true:=by simpa[zd] using hk
    rcases Xw rX with h0|⟨e,he,hb,h1⟩
    ·simp at h0
    ·rcases h1 with h1|h1
     ·exact .Xv ho (rz.1 he) hb h1
     ·exact .trans ho (rz.1 he) hb (vn _ h1)
   ·rw[ag Oq] at hk
    exact vn k (by simpa[zd] using hk)
theorem ahQ {ops:Array Oper} {i x:Nat} (h:((Region.before ops).getD i 0).testBit x=true):xn ops i x:=by
 unfold Region.before at h
 rw[←Hk] at h
 refine Xx (l:=ops.toList) (acc:= #[]) (fun j o hj=>by simpa using hj) (fun j hj=>by simp at hj) i h
def Xy (ops:Array Oper) (listed:Array Bool):Prop:= ∀i o,ops[i]? =some o→listed.getD i false=true→∀e∈o.after,Region.binds .any e=true→listed.getD e.on false=true
theorem ahR {ops:Array Oper} {listed:Array Bool} (hc:Xy ops listed) {i x:Nat} (h:xn ops i x) (hi: ∀o,ops[i]? =some o→∀e∈o.after,Region.binds .any e=true→listed.getD e.on false=true):listed.getD x false=true:=by
 induction h with
 | Xv ho he hb hx=>rw[←hx];exact hi _ ho _ he hb
 | trans ho he hb _ ih=>exact ih fun o' nn e' w8 aI=>hc _ o' nn (hi _ ho _ he hb) e' w8 aI
theorem Xz: ∀{l:List Oper} {k j:Nat} {o:Oper},Cr k l=true→l[j]? =some o→∀e∈o.after,Region.binds .any e=true→e.on<k+j
 | [],k,j,o,_,h=>by simp at h
 | o'::l,k,j,o,hk,h=>by
  simp only[Cr,bn] at hk
  cases j with
  | zero=>
   simp at h
   subst h
   intro e he hb
   have:=gv.1 hk.1 e (rz.2 he)
   simp[hb] at this
   omega
  | succ j=>
   intro e he hb
   have:=Xz hk.2 (j:=j) (by simpa using h) e he hb
   omega
theorem XA {ops:Array Oper} {wE:Array Nat}: ∀{l:Log},HO ops wE l=true→l.Pairwise fun x y=>Cq ops wE x y=true
 | [],_=> .nil
 | x::l,h=>by
  simp only[HO,bn] at h
  exact .cons (fun y hy=>gv.1 h.1 y hy) (XA h.2)
theorem XB {listed:Array Bool} {i:Nat} (h:listed.getD i true=false):i<listed.size∧listed.getD i false=false:=by
 rcases eD i listed.size with h'|h'
 ·refine ⟨h',?_⟩
  simpa[h'] using h
 ·simp[Array.getElem?_eq_none h'] at h
theorem XC (hC:mF P A C) (hP:j4 P A) {n nb:Nat} {ops:Array Oper} {Q:Exit→Act→World→Prop} (IX:Cr 0 ops.toList=true):
  ∀(fuel:Nat) {g:List (Nat × Oper × List Nat × List Nat)} {listed:Array Bool} {st st':St} {a:Act} {w:World} {I:Nat→Nat→Prop} {β:Nat→Option Nat},
  g.length=fuel→Af P A C n ops nb g st st'→(∀x∈g,ops[x.1]? =some x.2.1)→(g.map (·.1)).Pairwise (· < ·)→(g.map xm).Pairwise (fun x y=>Cq ops (Region.before ops) x y=true)→
  listed.size=ops.size→(∀i,i<ops.size→(listed.getD i false=false↔i∈g.map (·.1)))→Xy ops listed→
  aW P w I β st.hp B M w0→jf P A.idle A.aU w I β n a st→
  (∀a' w' I' β',Le P w I β st.hp w' I' β' st'.hp→aW P w' I' β' st'.hp B M w0→jf P A.idle A.aU w' I' β' n a' st'→Q .normal a' w')→wpAny P .any ops Q fuel listed a w
 | 0,g,listed,st,st',a,w,I,β,hf,hr,ho,bx,IY,bG,xo,fl,S,hA,hQ=>by
  obtain rfl:g=[]:=oW hf
  cases hr
  refine ⟨?_,hQ a w I β (Le.refl w I β _) S hA⟩
  rw[List.eq_nil_iff_forall_not_mem]
  intro i hi
  obtain ⟨h0,_⟩:=mem_ready.1 hi
  obtain ⟨h1,h2⟩:=XB h0
  have:=(xo i (by omega)).1 h2
  simp at this
 | fuel+1,g,listed,st,st',a,w,I,β,hf,hr,ho,bx,IY,bG,xo,fl,S,hA,hQ=>by
  refine ⟨fun Dq=> ?_,fun i hi=> ?_⟩
  ·exfalso
   cases g with
   | nil=>simp at hf
   | cons x g=>
    have hx:=ho x (by simp)
    have iG:x.1<ops.size:=(jl.1 hx).1
    have eu:x.1∈Region.ready .any ops listed:=by
     rw[mem_ready]
     have h0:=(xo x.1 iG).2 (by simp)
     refine ⟨?_,x.2.1,hx,fun e he hb=> ?_⟩
     ·have hl:x.1<listed.size:=by omega
      simpa[hl] using h0
     ·have NH:=Xz IX (j:=x.1) (by simpa using hx) e he hb
      rw[dE] at NH
      cases hle:listed.getD e.on false with
      | true=>rfl
      | false=>
       have hm:=(xo e.on (by omega)).1 hle
       simp only[ki,gK] at hm
       rw[ki,wm] at bx
       rcases hm with hm|hm
       ·omega
       ·have:=bx.1 _ hm;omega
    rw[Dq] at eu
    cases eu
  ·obtain ⟨h0,oi,Dt,XD⟩:=mem_ready.1 hi
   obtain ⟨h1,h2⟩:=XB h0
   have hig:=(xo i (by omega)).1 h2
   obtain ⟨y,hy,hyi⟩:=gf.1 hig
   obtain ⟨g1,g2,rfl⟩:=List.append_of_mem hy
   subst hyi
   have XE:=ho y hy
   rw[Dt] at XE
   have XF:oi=y.2.1:=dD XE
   have lS:((g1++y::g2).map (·.1)).Nodup:=bx.imp fun h=>Nat.ne_of_lt h
   have ahS: ∀x∈g1,Xs ops x y:=by
    intro x hx
    have hp:Cq ops (Region.before ops) (xm x) (xm y)=true:=by
     rw[nd,ki,Hn] at IY
     exact IY.2.2 _ (gf.2 ⟨x,hx,rfl⟩) _ (by simp)
    have XG:=ho x (eP.2 (.inl hx))
    unfold Cq at hp
    rw[qc] at hp
    rcases hp with hp|hp
    ·have hl:=ahR fl (ahQ hp) fun o nn e he hb=>by
      have:o=oi:=by
       have h3:ops[y.1]? =some o:=nn
       rw[Dt] at h3
       exact (dD h3).symm
      subst this
      exact XD e he hb
     have iG:x.1<ops.size:=(jl.1 XG).1
     have:=(xo x.1 iG).2 (gf.2 ⟨x,eP.2 (.inl hx),rfl⟩)
     rw[show (xm x).1=x.1 from rfl,this] at hl
     cases hl
    ·simp only[xm,zd,XG,Dt,Option.getD_some,bn,oY] at hp
     obtain ⟨q1,q2,q3⟩:=hp
     refine ⟨XF▸q1,fun id ae=> ?_,fun id ae=>IM q3 ae⟩
     have:=IM q2 ae
     rw[eP] at this
     exact ⟨fun h=>this (.inl h),fun h=>this (.inr h)⟩
   obtain ⟨j5,kV,lb⟩:=Xt hr ahS
   rw[←XF] at kV
   refine Xk hC hP Dt S hA kV fun a' w' I' β' k1 k2 k3=> ?_
   have jA:List.Sublist (g1++g2) (g1++y::g2):=List.Sublist.append_left (List.sublist_cons_self y g2) g1
   have qn: ∀j,j≠y.1→(listed.setIfInBounds y.1 true).getD j false=listed.getD j false:=fun j hj=>getD_set_ne false (Ne.symm hj)
   refine XC hC hP IX fuel (g:=g1++g2) (st':=st') ?_ lb (fun x hx=>ho x (jA.subset hx)) (bx.sublist (jA.map _)) (IY.sublist (jA.map _)) (by simp[bG]) (fun j hj=> ?_) (fun j o Ot dG e he hb=> ?_) k2 k3 fun a2 w2 I2 cP m1 m2 m3=>hQ a2 w2 I2 cP (k1.trans m1) m2 m3
   ·simp at hf⊢;omega
   ·by_cases rP:j=y.1
    ·subst rP
     have hl:y.1<listed.size:=by omega
     simp only[zd,MB hl,Option.getD_some]
     refine ⟨fun h=>(by cases h),fun h=> ?_⟩
     exfalso
     rw[nd,ki,Ho,List.nodup_cons] at lS
     rw[nd,eP] at h
     rcases h with h|h
     ·exact lS.2.2 _ h _ (by simp) rfl
     ·exact lS.2.1.1 h
    ·rw[qn j rP,xo j hj]
     simp only[nd,ki,eP,gK]
     constructor
     ·rintro (h|h|h)
      ·exact .inl h
      ·exact absurd h rP
      ·exact .inr h
     ·rintro (h|h)
      ·exact .inl h
      ·exact .inr (.inr h)
   ·by_cases rP:j=y.1
    ·subst rP
     rw[Dt] at Ot
     cases Ot
     exact getD_set_true (XD e he hb)
    ·rw[qn j rP] at dG
     exact getD_set_true (fl j o Ot dG e he hb)
end
section
variable {P:Program} {A:dg} {w w':World} {I I' I2:Nat→Nat→Prop} {μ β β':Nat→Option Nat} {hp hp':Nat→Option ah} {C:ab} {B:Nat} {M:Nat→Prop} {w0:Start}
theorem XH: ∀{l:List Oper} {k j:Nat},(ql k l)[j]? =(l[j]?).map fun o=>(k+j,o)
 | [],k,j=>by simp[ql]
 | o::l,k,0=>by simp[ql]
 | o::l,k,j+1=>by
  simp only[ql,List.getElem?_cons_succ,XH]
  congr 1
  funext o
  rw[show k+1+j=k+(j+1) by omega]
theorem XI: ∀{l:List Oper} {k:Nat},(ql k l).map (·.1)=List.range' k l.length
 | [],k=>rfl
 | o::l,k=>by simp[ql,XI,List.range'_succ]
theorem ahT (hC:mF P A C) (hP:j4 P A) (hm:P.follows .mixedOrders=true) {n id:Nat} {ops:Array Oper} {draw:Bool} {st st':St} {a:Act} {Q:Exit→Act→World→Prop}
  (h:zB P A C n ops draw st=some st') (S:aW P w I β st.hp B M w0) (hA:jf P A.idle A.aU w I β n a st)
  (hQ: ∀a' w' I' β',Le P w I β st.hp w' I' β' st'.hp→aW P w' I' β' st'.hp B M w0→jf P A.idle A.aU w' I' β' n a' st'→Q .normal a' w'):(Code.region id ops draw).wp P Q a w:=by
 obtain ⟨⟨j5,log⟩,h1,h2⟩:=bind_some h
 obtain ⟨g,g1,g2,g3⟩:=Xr h1
 have IZ:g.map (·.1)=List.range ops.size:=by
  have:g.map (·.1)=(g.map fun x=>(x.1,x.2.1)).map (·.1):=by simp
  rw[this,g1,XI,List.range_eq_range']
  simp
 have XJ: ∀x∈g,ops[x.1]? =some x.2.1:=by
  intro x hx
  have:(x.1,x.2.1)∈ql 0 ops.toList:=by rw[←g1];exact gf.2 ⟨x,hx,rfl⟩
  obtain ⟨j,hj⟩:=List.mem_iff_getElem?.1 this
  rw[XH] at hj
  cases ho:ops.toList[j]? with
  | none=>rw[ho] at hj;cases hj
  | some o=>
   rw[ho] at hj
   simp only[Option.map_some,dE,eE,lA] at hj
   rw[←hj.1,←hj.2]
   simpa using ho
 cases draw with
 | false=>
  simp only[Bool.not_false,Bool.true_or,cond_true] at h2
  cases h2
  refine wp_region ?_
  rw[←IZ]
  exact Xu hC hP g3 XJ S hA hQ
 | true=>
  simp only[BM,Bool.false_or] at h2
  cases hc:(Region.noSelect ops&&Cs ops log) with
  | false=>rw[hc] at h2;cases h2
  | true=>
   rw[hc] at h2
   cases h2
   simp only[bn,Cs] at hc
   obtain ⟨hns,IX,ahU⟩:=hc
   simp only[List.nil_append] at g2
   refine wp_region_any hm ?_
   have hlen:g.length=ops.size:=by
    have:=congrArg List.length IZ
    simpa using this
   refine XC hC hP IX ops.size (g:=g) (st':=st') hlen g3 XJ (by rw[IZ];exact List.pairwise_lt_range) (by rw[←g2];exact XA ahU) (by simp) (fun i hi=> ?_) (fun i o ho hl=> ?_)
    (w:=w.drew) S.drew ⟨fun k=>(hA.sl k).mono (Le.drew w I β _),hA.size,hA.defers,hA.aU.mono (Le.drew (P:=P) w I β st.hp).dR (Le.drew (P:=P) w I β st.hp).cO⟩ fun a' w' I' β' k1 k2 k3=>hQ a' w' I' β' ((Le.drew w I β _).trans k1) k2 k3
   ·rw[IZ]
    simp[hi]
   ·have hi:=(jl.1 ho).1
    simp[hi] at hl
end
section
variable {P:Program} {A:dg} {E:FuncId→Bool} {G:Nat→V} {w w':World} {I I' I2:Nat→Nat→Prop} {μ β β':Nat→Option Nat} {hp hp':Nat→Option ah} {C:ab} {B:Nat} {M:Nat→Prop} {w0:Start}
theorem xp: ∀{l:List Nat} {hp:Nat→Option ah} {I:Nat→Nat→Prop},aW P w I β hp B M w0→∃I',Le P w I β hp w I' β (wD hp l)∧aW P w I' β (wD hp l) B M w0
 | [],hp,I,S=>⟨I,Le.refl w I β hp,S⟩
 | id::l,hp,I,S=>by
  simp only[wD]
  cases ae:hp id with
  | none=>exact xp S
  | some blk=>
   cases blk with
   | dead=>exact xp S
   | var _=>exact xp S
   | map _ _=>exact xp S
   | arr e es fz=>
    obtain ⟨h1,h2⟩:=CI S (upd:=[(id,.arr e es true)]) (fun p hp=>by
     simp only[iA] at hp
     subst hp
     exact ⟨e,es,rfl,.inl ⟨fz,ae⟩⟩)
    obtain ⟨I',h3,h4⟩:=xp (l:=l) h2
    exact ⟨I',h1.trans h3,h4⟩
   | nest e es an=>
    obtain ⟨h1,h2⟩:=CI S (upd:=[(id,.arr e es true)]) (fun p hp=>by
     simp only[iA] at hp
     subst hp
     exact ⟨e,es,rfl,.inr ⟨an,ae⟩⟩)
    obtain ⟨I',h3,h4⟩:=xp (l:=l) h2
    exact ⟨I',h1.trans h3,h4⟩
theorem XK {n:Nat} {a:Act} {st:St} (S:aW P w I β st.hp B M w0) (hA:jf P E G w I β n a st):
  ∃I',Le P w I β st.hp w I' β st.hp∧aW P w I' β st.hp B M w0∧jf P E G w I' β n a st∧rJ P I' β st.hp:=by
 obtain ⟨I',h1,h2,h3⟩:=Vq S
 exact ⟨I',h1,h2,⟨fun k=>(hA.sl k).mono h1,hA.size,hA.defers,hA.aU.mono h1.dR h1.cO⟩,h3⟩
theorem ahV {hp:Nat→Option ah} (S:aW P w I β hp B M w0) (hT:rJ P I β hp) {v:Value} {x:V} (hv:aj P w I β hp v x):aj P w I β hp v (MS hp x):=by
 cases x with
 | whole e id=>
  simp only[MS]
  split
  ·rename_i e' es ae
   cases he:Nat.beq e e' with
   | false=>exact hv
   | true=>
    rw[bB] at he
    subst he
    simp only[cond_true]
    cases hv with
    | eS h=>rw[ae] at h;cases h
    | e8 h=>rw[ae] at h;cases h
    | eF h=>rw[ae] at h;cases h;exact .list (.any fun _=>rfl)
    | whole h hb bG cJ hm=>
     rw[ae] at h;cases h
     have hr:=S.h.rel id _ ae
     cases hr with
     | eh aI=>rw[aI] at hb;cases hb
     | arr az aI hh hs hf dX hx=>
      rw[hb] at aI;cases aI
      have:=u7 (I':=I) (off:=0) (len:=es.length) (o:=0) hh hx (gi az) (by omega) cJ (fun _=>by simp) (fun _ _ h=>h) (hT _ _ _ _ ae hb)
      exact .list (by simpa using this)
  ·exact hv
 | _=>exact hv
theorem XL {n m:Nat} {pur:List Nat} {a:Act} {st:St} (S:aW P w I β st.hp B M w0) (hA:jf P E G w I β n a st):
  ∃I',Le P w I β st.hp w I' β (freeze m pur st).hp∧aW P w I' β (freeze m pur st).hp B M w0∧jf P E G w I' β n a (freeze m pur st):=by
 obtain ⟨I1,h1,h2⟩:=xp (l:=(Vh st pur).filter fun id=>Nat.ble m id) S
 obtain ⟨I',h3,h4,h5⟩:=Vq h2
 have h1:=h1.trans h3
 refine ⟨I',h1,h4,fun k=> ?_,hA.size,hA.defers,hA.aU.mono h1.dR h1.cO⟩
 have hv:=(hA.sl k).mono h1
 simp only[freeze]
 cases ko pur (k+KB) with
 | false=>exact hv
 | true=>exact ahV h4 h5 hv
structure Ag (hp:Nat→Option ah) (β:Nat→Option Nat) (ord:List Nat) (hp':Nat→Option ah) (β':Nat→Option Nat):Prop where
 arr: ∀(j:Nat) id e es fz,ord[j]? =some id→hp id=some (.arr e es fz)→hp' j=some (.arr e es fz)
 var: ∀(j:Nat) id T cs,ord[j]? =some id→hp id=some (.var T cs)→∃jz,hp' j=some (.var T jz)
 dead: ∀(j:Nat) id,ord[j]? =some id→hp id=some .dead→hp' j=some .dead
 place: ∀(j:Nat) id,ord[j]? =some id→β' j=β id
 nest: ∀(j:Nat) id e es an,ord[j]? =some id→hp id=some (.nest e es an)→hp' j=some (.nest e es (an.map fun _=>0))
 map: ∀(j:Nat) id t es,ord[j]? =some id→hp id=some (.map t es)→hp' j=some (.map t es)
theorem nz: ∀{l:List Nat} {n i j:Nat},js l n i=some j→∃k,j=i+k∧l[k]? =some n
 | [],n,i,j,h=>by cases h
 | a::l,n,i,j,h=>by
  simp only[js] at h
  cases hb:Nat.beq n a with
  | true=>
   rw[hb] at h
   cases h
   rw[bB] at hb
   exact ⟨0,rfl,by rw[hb];rfl⟩
  | false=>
   rw[hb] at h
   obtain ⟨k,h1,h2⟩:=nz h
   exact ⟨k+1,by omega,by simpa using h2⟩
def mG (hp':Nat→Option ah) (β':Nat→Option Nat) (n:Nat) (bs:List ah):Prop:=
 ∀(k:Nat) b,bs[k]? =some b→hp' (n+k)=some b∧β' (n+k)=none
theorem Ou: ∀(an:List Nat) (k:Nat),b8 (an.map fun _=>0) k=0
 | [],_=>rfl
 | _::_,0=>rfl
 | _::vs,k+1=>Ou vs k
theorem XM {e:TypeId} {es:List V} {an:List Nat} {path:Path} {ver:Nat} (hc:(Nat.blt 0 path.length&&(Nat.ble path.length an.length&&Nat.beq (b8 an (path.length-1)) ver))=true)
  (h:(ah.nest e es an).wH path ver):False:=by
 simp only[bn,ly,fC,bB] at hc
 obtain ⟨h1,h2,h3⟩:=hc
 rcases h with h|h|h
 ·subst h;simp at h1
 ·omega
 ·omega
theorem XN (S:aW P w I β hp B M w0) (hT:rJ P I β hp) {ord:List Nat} (hR:Ag hp β ord hp' β') {v:Value} {x:V} (hv:aj P w I β hp v x):aj P w I β' hp' v (jt hp ord x):=by
 cases hv with
 | undef=>exact .undef
 | int=>exact .int
 | bool=>exact .bool
 | str h=>exact .str h
 | list h=>exact .list h
 | nilS=>exact .nilS
 | agg=>exact .undef
 | bL=>exact .undef
 | ee=>exact .ee
 | fn=>exact .undef
 | pref a b c=>exact .pref a b c
 | @eS _ e id ae=>
  simp only[jt]
  cases bQ:js ord id 0 with
  | none=>simp only[ae];exact .undef
  | some j=>
   obtain ⟨k,rfl,hk⟩:=nz bQ
   exact .eS (hR.dead _ id (by simpa using hk) ae)
 | @ig _ e id off len ae=>
  simp only[jt]
  cases bQ:js ord id 0 with
  | none=>simp only[ae];exact .undef
  | some j=>
   obtain ⟨k,rfl,hk⟩:=nz bQ
   exact .ig (hR.dead _ id (by simpa using hk) ae)
 | @lH _ id i c ae=>
  simp only[jt]
  cases bQ:js ord id 0 with
  | none=>exact .undef
  | some j=>
   obtain ⟨k,rfl,hk⟩:=nz bQ
   exact .lH (hR.dead _ id (by simpa using hk) ae)
 | @eF e id fz _ ae hb=>
  simp only[jt]
  cases bQ:js ord id 0 with
  | none=>
   simp only[ae]
   cases fz with
   | false=>exact .undef
   | true=>simp only[kQ,cond_true];exact .list (.any fun _=>rfl)
  | some j=>
   obtain ⟨k,rfl,hk⟩:=nz bQ
   have ew:ord[0+k]? =some id:=by simpa using hk
   exact .eF (hR.arr _ id _ _ _ ew ae) ((hR.place _ id ew).trans hb)
 | @whole e id es fz b cap ae hb bG cJ hm=>
  simp only[jt]
  cases bQ:js ord id 0 with
  | none=>
   simp only[ae]
   cases fz with
   | false=>exact .undef
   | true=>
    simp only[kQ,cond_true]
    have hr:=S.h.rel id _ ae
    cases hr with
    | eh aI=>rw[aI] at hb;cases hb
    | arr az aI hh hs hf dX hx=>
     rw[hb] at aI;cases aI
     have:=u7 (I':=I) (off:=0) (len:=es.length) (o:=0) hh hx (gi az) (by omega) cJ (fun _=>by simp) (fun _ _ h=>h) (hT _ _ _ _ ae hb)
     exact .list (by simpa using this)
  | some j=>
   obtain ⟨k,rfl,hk⟩:=nz bQ
   have ew:ord[0+k]? =some id:=by simpa using hk
   exact .whole (hR.arr _ id _ _ _ ew ae) ((hR.place _ id ew).trans hb) bG cJ hm
 | @gS e id fz _ ae hb=>
  simp only[jt]
  cases bQ:js ord id 0 with
  | none=>
   simp only[ae]
   cases fz with
   | false=>exact .undef
   | true=>simp only[kQ,cond_true];exact .list (by simpa using (jT.any (P:=P) fun _=>rfl))
  | some j=>
   obtain ⟨k,rfl,hk⟩:=nz bQ
   have ew:ord[0+k]? =some id:=by simpa using hk
   exact .gS (hR.arr _ id _ _ _ ew ae) ((hR.place _ id ew).trans hb)
 | @sub e id off len es fz b o cap ae hb jU cJ ho=>
  simp only[jt]
  cases bQ:js ord id 0 with
  | none=>
   simp only[ae]
   cases fz with
   | false=>exact .undef
   | true=>
    simp only[kQ,cond_true]
    have hr:=S.h.rel id _ ae
    cases hr with
    | eh aI=>rw[aI] at hb;cases hb
    | arr az aI hh hs hf dX hx=>
     rw[hb] at aI;cases aI
     exact .list (u7 (I':=I) hh hx (gi az) jU cJ ho (fun _ _ h=>h) (hT _ _ _ _ ae hb))
  | some j=>
   obtain ⟨k,rfl,hk⟩:=nz bQ
   have ew:ord[0+k]? =some id:=by simpa using hk
   exact .sub (hR.arr _ id _ _ _ ew ae) ((hR.place _ id ew).trans hb) jU cJ ho
 | @ptr id i c b blk ae hd hb=>
  simp only[jt]
  cases bQ:js ord id 0 with
  | none=>exact .undef
  | some j=>
   obtain ⟨k,rfl,hk⟩:=nz bQ
   have ew:ord[0+k]? =some id:=by simpa using hk
   cases blk with
   | dead=>exact absurd rfl hd
   | var T0 cs=>
    obtain ⟨jz,h'⟩:=hR.var _ id T0 cs ew ae
    exact .ptr (blk:= .var T0 jz) h' (by simp) ((hR.place _ id ew).trans hb)
   | arr e es fz=>exact .ptr (blk:= .arr e es fz) (hR.arr _ id _ _ _ ew ae) (by simp) ((hR.place _ id ew).trans hb)
   | nest e es an=>exact .ptr (blk:= .nest e es (an.map fun _=>0)) (hR.nest _ id _ _ _ ew ae) (by simp) ((hR.place _ id ew).trans hb)
   | map t es=>exact .ptr (blk:= .map t es) (hR.map _ id _ _ ew ae) (by simp) ((hR.place _ id ew).trans hb)
 | eg=>exact .eg
 | @jw _ t id ae=>
  simp only[jt]
  cases bQ:js ord id 0 with
  | none=>exact .undef
  | some j=>
   obtain ⟨k,rfl,hk⟩:=nz bQ
   exact .jw (hR.dead _ id (by simpa using hk) ae)
 | @cC t id b es ae hb=>
  simp only[jt]
  cases bQ:js ord id 0 with
  | none=>exact .undef
  | some j=>
   obtain ⟨k,rfl,hk⟩:=nz bQ
   have ew:ord[0+k]? =some id:=by simpa using hk
   exact .cC (hR.map _ id _ _ ew ae) ((hR.place _ id ew).trans hb)
 | @e8 e id es an b cap ae hb bG cJ hm=>
  simp only[jt]
  cases bQ:js ord id 0 with
  | none=>simp only[ae];exact .undef
  | some j=>
   obtain ⟨k,rfl,hk⟩:=nz bQ
   have ew:ord[0+k]? =some id:=by simpa using hk
   exact .e8 (hR.nest _ id _ _ _ ew ae) ((hR.place _ id ew).trans hb) bG cJ hm
 | @kT v e id ver path blk ae CG=>
  simp only[jt]
  split
  ·rename_i j e1 cZ an h1 h2
   rw[ae] at h2
   cases h2
   cases hc:(Nat.blt 0 path.length&&(Nat.ble path.length an.length&&Nat.beq (b8 an (path.length-1)) ver)) with
   | false=>exact .undef
   | true=>exact (XM hc CG).elim
  ·exact .undef
 | @kU v id ver i c path blk ae CG=>
  simp only[jt]
  split
  ·rename_i j e1 cZ an h1 h2
   rw[ae] at h2
   cases h2
   cases hc:(Nat.blt 0 path.length&&(Nat.ble path.length an.length&&Nat.beq (b8 an (path.length-1)) ver)) with
   | false=>exact .undef
   | true=>exact (XM hc CG).elim
  ·exact .undef
 | @row v e e0 t id ver b i c q es l an ae hb hq hv ht hc=>
  simp only[jt]
  split
  ·rename_i j e1 cZ xj h1 h2
   obtain ⟨k,rfl,hk⟩:=nz h1
   have ew:ord[0+k]? =some id:=by simpa using hk
   cases hx:(Nat.blt 0 (q++[(i,c)]).length&&(Nat.ble (q++[(i,c)]).length xj.length&&Nat.beq (b8 xj ((q++[(i,c)]).length-1)) ver)) with
   | false=>exact .undef
   | true=>exact .row (hR.nest _ id _ _ _ ew ae) ((hR.place _ id ew).trans hb) (by simpa using hq) (Ou _ _) ht hc
  ·exact .undef
 | @dk e e0 t id ver b b1 len cap i0 c0 i c q es l an ae hb hq hv ht lJ hc=>
  simp only[jt]
  split
  ·rename_i j e1 cZ xj h1 h2
   obtain ⟨k,rfl,hk⟩:=nz h1
   have ew:ord[0+k]? =some id:=by simpa using hk
   cases hx:(Nat.blt 0 (q++[(i0,c0)]).length&&(Nat.ble (q++[(i0,c0)]).length xj.length&&Nat.beq (b8 xj ((q++[(i0,c0)]).length-1)) ver)) with
   | false=>exact .undef
   | true=>exact .dk (hR.nest _ id _ _ _ ew ae) ((hR.place _ id ew).trans hb) (by simpa using hq) (Ou _ _) ht lJ hc
  ·exact .undef
theorem XO (S:aW P w I β hp B M w0) (hT:rJ P I β hp) {ord:List Nat} (hR:Ag hp β ord hp' β') {vs:Array Value} {xs:List V} (h: ∀(j:Nat) v x,vs[j]? =some v→xs[j]? =some x→aj P w I β hp v x) (j:Nat) (v:Value) (y:V)
  (hv:vs[j]? =some v) (hy:(xs.map (jt hp ord))[j]? =some y):aj P w I β' hp' v y:=by
 rw[eZ] at hy
 cases hx:xs[j]? with
 | none=>rw[hx] at hy;cases hy
 | some x=>rw[hx] at hy;cases hy;exact XN S hT hR (h j v x hv hx)
theorem XP (S:aW P w I β hp B M w0) (hT:rJ P I β hp) {ord:List Nat} (hR:Ag hp β ord hp' β') {n:Nat} {v:Value} {x:V} (hv:aj P w I β hp v x) (hF:mG hp' β' n (zz hp ord n x).2):
  aj P w I β' hp' v (zz hp ord n x).1:=by
 cases x with
 | nilS e=>
  obtain ⟨h1,h2⟩:=hF 0 _ rfl
  cases hv with
  | nilS=>exact .eF h1 h2
 | fn f a b=>
  cases hv with
  | fn q1 q2 q3 q4=>exact .fn (by simpa using q1) (XO S hT hR q2) (by simpa using q3) (XO S hT hR q4)
 | _=>exact XN S hT hR hv
end
section
variable {P:Program} {A:dg} {w w':World} {I I' I2:Nat→Nat→Prop} {μ β β':Nat→Option Nat} {hp hp':Nat→Option ah} {C:ab} {B:Nat} {M:Nat→Prop} {w0:Start}
theorem mG.left {n:Nat} {a b:List ah} (h:mG hp' β' n (a++b)):mG hp' β' n a:=fun k x hx=>
 h k x (by rw[kj (bO.1 hx).1];exact hx)
theorem mG.right {n:Nat} {a b:List ah} (h:mG hp' β' n (a++b)):mG hp' β' (n+a.length) b:=fun k x hx=>by
 have:=h (a.length+k) x (by rw[kR (by omega),Nat.add_sub_cancel_left];exact hx)
 rwa [←m8] at this
def oA (bs:List ah):Prop:= ∀b∈bs,∃e,b= .arr e [] false
theorem oA.app {a b:List ah} (h1:oA a) (h2:oA b):oA (a++b):=fun x hx=>(eP.1 hx).elim (h1 x) (h2 x)
theorem oA.nil:oA []:=fun x hx=>by simp at hx
theorem XQ {ord:List Nat} {n:Nat} {x:V}:oA (zz hp ord n x).2:=by
 cases x<;>simp only[zz]<;>first|exact .nil|skip
 intro b hb
 simp only[iA] at hb
 exact ⟨_,hb⟩
theorem Ov {ord:List Nat}: ∀{xs:List V} {n:Nat},oA (o9 hp ord n xs).2
 | [],n=> .nil
 | x::xs,n=>by
  simp only[o9]
  exact XQ.app Ov
theorem I4 {ord:List Nat}: ∀{xs:List V} {n:Nat},(o9 hp ord n xs).1.length=xs.length
 | [],n=>rfl
 | x::xs,n=>by simp only[o9,List.length_cons,I4]
theorem I5 (S:aW P w I β hp B M w0) (hT:rJ P I β hp) {ord:List Nat} (hR:Ag hp β ord hp' β'): ∀{xs:List V} {vs:List Value} {n:Nat},(∀(j:Nat) v x,vs[j]? =some v→xs[j]? =some x→aj P w I β hp v x)→
  mG hp' β' n (o9 hp ord n xs).2→∀(j:Nat) v y,vs[j]? =some v→(o9 hp ord n xs).1[j]? =some y→aj P w I β' hp' v y
 | [],vs,n,h,hF,j,v,y,hv,hy=>by simp[o9] at hy
 | x::xs,vs,n,h,hF,j,v,y,hv,hy=>by
  simp only[o9] at hF hy
  cases j with
  | zero=>
   simp at hy
   subst hy
   exact XP S hT hR (h 0 v x hv rfl) hF.left
  | succ j=>
   cases vs with
   | nil=>simp at hv
   | cons v0 vs=>exact I5 S hT hR (vs:=vs) (fun j v x hj hx=>h (j+1) v x (by simpa using hj) (by simpa using hx)) hF.right j v y (by simpa using hv) (by simpa using hy)
theorem ahW {ord:List Nat} {n:Nat} {x:V}:oA (sY hp ord n x).2:=by
 cases x<;>simp only[sY]<;>first|exact XQ|exact Ov
theorem ahX (S:aW P w I β hp B M w0) (hT:rJ P I β hp) {ord:List Nat} (hR:Ag hp β ord hp' β') {n:Nat} {v:Value} {x:V} (hv:aj P w I β hp v x) (hF:mG hp' β' n (sY hp ord n x).2):
  aj P w I β' hp' v (sY hp ord n x).1:=by
 cases x with
 | agg cs=>
  obtain ⟨ds,rfl,h1,h2⟩:=hv.my
  simp only[sY] at hF⊢
  exact .agg (by rw[I4];exact h1) fun j v y hj hy=>I5 S hT hR (vs:=ds.toList) (fun j v x hj hx=>h2 j v x (by simpa using hj) hx) hF j v y (by simpa using hj) hy
 | bL cs=>
  obtain ⟨ds,rfl,h1,h2⟩:=hv.wS
  simp only[sY] at hF⊢
  exact .bL (by rw[I4];exact h1) fun j v y hj hy=>I5 S hT hR (vs:=ds.toList) (fun j v x hj hx=>h2 j v x (by simpa using hj) hx) hF j v y (by simpa using hj) hy
 | _=>exact XP S hT hR hv hF
theorem XR {ord:List Nat} {sl:Nat→V}: ∀{l:List Nat} {n:Nat},oA (nj hp ord sl n l).2
 | [],n=> .nil
 | s::l,n=>by
  simp only[nj]
  exact ahW.app XR
theorem XS {ord:List Nat} {sl:Nat→V} {k:Nat} {y:V}: ∀{l:List Nat} {n:Nat},mG hp' β' n (nj hp ord sl n l).2→eJ (nj hp ord sl n l).1 k=some y→
  ∃n',mG hp' β' n' (sY hp ord n' (sl k)).2∧y=(sY hp ord n' (sl k)).1
 | [],n,_,h=>by cases h
 | s::l,n,hF,h=>by
  simp only[nj] at hF h
  simp only[eJ] at h
  cases hb:Nat.beq k s with
  | true=>
   rw[hb] at h
   rw[bB] at hb
   subst hb
   cases h
   exact ⟨n,hF.left,rfl⟩
  | false=>
   rw[hb] at h
   exact XS hF.right h
theorem ahY {ord:List Nat} {n id:Nat}:oA (fM hp ord n id).2:=by
 unfold fM
 split
 ·exact Ov
 ·exact .nil
 ·exact .nil
 ·exact .nil
 ·exact .nil
theorem XT {ord:List Nat}: ∀{l:List Nat} {n:Nat},oA (gB hp ord n l).2
 | [],n=> .nil
 | s::l,n=>by
  simp only[gB]
  exact ahY.app XT
theorem XU {ord:List Nat}: ∀{l:List Nat} {n:Nat},(gB hp ord n l).1.length=l.length
 | [],n=>rfl
 | x::xs,n=>by simp only[gB,List.length_cons,XU]
theorem XV {ord:List Nat}: ∀{l:List Nat} {n j:Nat} {id:Nat},l[j]? =some id→∃n',(mG hp' β' n (gB hp ord n l).2→mG hp' β' n' (fM hp ord n' id).2)∧(gB hp ord n l).1[j]? =some (fM hp ord n' id).1
 | [],n,j,id,h=>by simp at h
 | s::l,n,j,id,h=>by
  simp only[gB]
  cases j with
  | zero=>
   simp at h
   subst h
   exact ⟨n,fun hF=>hF.left,rfl⟩
  | succ j=>
   obtain ⟨n',h1,h2⟩:=XV (n:=n+(fM hp ord n s).2.length) (j:=j) (by simpa using h)
   exact ⟨n',fun hF=>h1 hF.right,by simpa using h2⟩
theorem Du: ∀{l acc:List Nat},∃t,uX hp acc l=acc++t∧(acc.Nodup→(acc++t).Nodup)
 | [],acc=>⟨[],by simp[uX],by simp⟩
 | id::l,acc=>by
  simp only[uX]
  cases hb:(ko acc id|| !(fp hp id)) with
  | true=>exact Du
  | false=>
   obtain ⟨t,h1,h2⟩:=Du (l:=l) (acc:=acc++[id])
   refine ⟨id::t,by simp only[cond_false,h1,db,List.singleton_append],fun hn=> ?_⟩
   have:acc++id::t=(acc++[id])++t:=by simp
   rw[this]
   refine h2 ?_
   rw[Ho]
   refine ⟨hn,by simp,fun a ha b aI=> ?_⟩
   simp only[iA] at aI
   subst aI
   intro e
   subst e
   rw[zO ha] at hb
   cases hb
theorem XW: ∀{n:Nat} {l:List Nat},∃t,grow hp n l=l++t∧(l.Nodup→(l++t).Nodup)
 | 0,l=>⟨[],by simp[grow],by simp⟩
 | n+1,l=>by
  simp only[grow]
  obtain ⟨t,h1,h2⟩:=Du (hp:=hp) (acc:=l) (l:=l.flatMap (Cp hp))
  rw[h1]
  obtain ⟨t',h3,h4⟩:=XW (n:=n) (l:=l++t)
  exact ⟨t++t',by rw[h3,db],fun hn=>by rw[←db];exact h4 (h2 hn)⟩
theorem ahZ {m:Nat} {live:List Nat} {st:St}: ∃t,MR m live st=List.range m++t∧(List.range m++t).Nodup:=by
 unfold MR
 obtain ⟨t,h1,h2⟩:=Du (hp:=st.hp) (acc:=List.range m) (l:=live.flatMap fun s=>Co (st.sl s))
 rw[h1]
 obtain ⟨t',h3,h4⟩:=XW (hp:=st.hp) (n:=3) (l:=List.range m++t)
 rw[h3]
 obtain ⟨t2,h5,h6⟩:=Du (hp:=Vg st.hp) (acc:=List.range m++t++t') (l:=live.flatMap fun s=>bif Nat.ble KB s then (Co (st.sl (s-KB))).flatMap (Cp st.hp) else [])
 exact ⟨t++t'++t2,by rw[h5];simp only[db],by simp only[←db];exact h6 (h4 (h2 List.nodup_range))⟩
end
section
variable {P:Program} {A:dg} {E:FuncId→Bool} {G:Nat→V} {w w':World} {I I' I2:Nat→Nat→Prop} {μ β β':Nat→Option Nat} {hp hp' hp0:Nat→Option ah} {C:ab} {B:Nat} {M:Nat→Prop} {w0:Start}
theorem XX {n m:Nat} {ord live:List Nat} {a:Act} {st:St} (pf:ord.Nodup) (Dv: ∀id,id<m→ord[id]? =some id∨∃p,ord[id]? =some p∧st.hp p=none) (S:aW P w I β st.hp B M w0) (hT:rJ P I β st.hp) (hA:jf P E G w I β n a st) (hE:mE w0.w w0.I μ hp0 w I β st.hp) (hm: ∀id blk,hp0 id=some blk→id<m) (kF: ∀id e es an,hp0 id=some (.nest e es an)→∀k,b8 an k=0):
  ∃β',aW P w I β' (zA ord live st).hp B M w0∧jf P E G w I β' n a (zA ord live st)∧mE w0.w w0.I μ hp0 w I β' (zA ord live st).hp:=by
 have ah0:zA ord live st=mk (nj st.hp ord st.sl (ord.length+(gB st.hp ord ord.length ord).2.length) live).1
   ((gB st.hp ord ord.length ord).1++((gB st.hp ord ord.length ord).2++(nj st.hp ord st.sl (ord.length+(gB st.hp ord ord.length ord).2.length) live).2)):=by
  rfl
 rw[ah0]
 let hp':=kS ((gB st.hp ord ord.length ord).1++((gB st.hp ord ord.length ord).2++(nj st.hp ord st.sl (ord.length+(gB st.hp ord ord.length ord).2.length) live).2))
 let β':Nat→Option Nat:=fun j=>if j<ord.length then (ord[j]?).bind β else none
 have hlen:(gB st.hp ord ord.length ord).1.length=ord.length:=XU
 have jY: ∀j,j<ord.length→hp' j=(gB st.hp ord ord.length ord).1[j]? :=by
  intro j hj
  simp only[hp',je]
  rw[kj (by omega)]
 have jd: ∀k,hp' (ord.length+k)=((gB st.hp ord ord.length ord).2++(nj st.hp ord st.sl (ord.length+(gB st.hp ord ord.length ord).2.length) live).2)[k]? :=by
  intro k
  simp only[hp',je]
  rw[kR (by omega),hlen,Nat.add_sub_cancel_left]
 have hF:mG hp' β' ord.length ((gB st.hp ord ord.length ord).2++(nj st.hp ord st.sl (ord.length+(gB st.hp ord ord.length ord).2.length) live).2):=by
  intro k b hb
  refine ⟨(jd k).trans hb,?_⟩
  simp only[β']
  rw[bK]
 have Dq:oA ((gB st.hp ord ord.length ord).2++(nj st.hp ord st.sl (ord.length+(gB st.hp ord ord.length ord).2.length) live).2):=XT.app XR
 have qG: ∀(j:Nat) id,ord[j]? =some id→β' j=β id:=by
  intro j id hj
  simp only[β']
  rw[af (bO.1 hj).1,hj]
  rfl
 have tA: ∀(j:Nat) id,ord[j]? =some id→∃n',mG hp' β' n' (fM st.hp ord n' id).2∧hp' j=some (fM st.hp ord n' id).1:=by
  intro j id hj
  obtain ⟨n',h1,h2⟩:=XV (hp:=st.hp) (hp':=hp') (β':=β') (ord:=ord) (n:=ord.length) hj
  exact ⟨n',h1 hF.left,(jY j (bO.1 hj).1).trans h2⟩
 have hR:Ag st.hp β ord hp' β':=by
  refine ⟨fun j id e es fz hj ae=> ?_,fun j id T cs hj ae=> ?_,fun j id hj ae=> ?_,qG,fun j id e es an hj ae=> ?_,fun j id t es hj ae=> ?_⟩
  ·obtain ⟨n',_,h2⟩:=tA j id hj
   rw[h2];simp only[fM,ae]
  ·obtain ⟨n',_,h2⟩:=tA j id hj
   rw[h2];simp only[fM,ae];exact ⟨_,rfl⟩
  ·obtain ⟨n',_,h2⟩:=tA j id hj
   rw[h2];simp only[fM,ae]
  ·obtain ⟨n',_,h2⟩:=tA j id hj
   rw[h2];simp only[fM,ae]
  ·obtain ⟨n',_,h2⟩:=tA j id hj
   rw[h2];simp only[fM,ae]
 have cls: ∀j blk',hp' j=some blk'→(∃id,ord[j]? =some id∧((blk'= .dead)∨∃blk,st.hp id=some blk∧blk≠ .dead∧∀o b,bW P w o blk' b→bW P w o blk b))∨(∃e,blk'= .arr e [] false∧β' j=none):=by
  intro j blk' hj
  rcases eD j ord.length with h|h
  ·have iF:=bU h
   obtain ⟨n',_,h2⟩:=tA j _ iF
   rw[hj] at h2
   refine .inl ⟨_,iF,?_⟩
   cases ae:st.hp ord[j] with
   | none=>left;simp only[fM,ae] at h2;exact dD h2
   | some blk=>
    cases blk with
    | dead=>left;simp only[fM,ae] at h2;exact dD h2
    | var T0 cs=>exact .inr ⟨_,rfl,by simp,fun o b h=>by simp only[fM,ae] at h2;rw[dD h2] at h;exact .root (by simp) (h.flat (by simp))⟩
    | arr e es fz=>exact .inr ⟨_,rfl,by simp,fun o b h=>by simp only[fM,ae] at h2;rw[dD h2] at h;exact .root (by simp) (h.flat (by simp))⟩
    | map t es=>exact .inr ⟨_,rfl,by simp,fun o b h=>by simp only[fM,ae] at h2;rw[dD h2] at h;exact .root (by simp) (h.flat (by simp))⟩
    | nest e es an=>
     refine .inr ⟨_,rfl,by simp,fun o b h=> ?_⟩
     simp only[fM,ae] at h2
     rw[dD h2] at h
     cases h with
     | root _ h=>exact .root (by simp) h
     | row h1 h2=>exact .row h1 h2
  ·obtain ⟨k,rfl⟩: ∃k,j=ord.length+k:=⟨j-ord.length,by omega⟩
   rw[jd] at hj
   obtain ⟨e,he⟩:=Dq _ (jN hj)
   exact .inr ⟨e,he,(hF k _ hj).2⟩
 refine ⟨β',⟨⟨fun j blk' hj=> ?_,fun j1 j2 b1 b2 b e1 e2 f1 f2=> ?_,fun j blk b e1 f1=> ?_,S.h.kB⟩,S.cO,S.size,S.new,S.io⟩,⟨fun k=> ?_,hA.size,hA.defers,hA.aU⟩,⟨hE.dR,hE.cO,fun id blk ae=> ?_,fun id blk blk' b ae b9 hd hb=> ?_⟩⟩
 ·change hp' j=some blk' at hj
  rcases eD j ord.length with h|h
  ·have iF:=bU h
   obtain ⟨n',XY,h2⟩:=tA j _ iF
   rw[hj] at h2
   rw[qG j _ iF]
   cases ae:st.hp ord[j] with
   | none=>simp only[fM,ae] at h2;rw[dD h2];exact .dead
   | some blk=>
    have hr:=S.h.rel _ _ ae
    generalize β ord[j]=o at hr
    cases hr with
    | dead=>simp only[fM,ae] at h2;rw[dD h2];exact .dead
    | eh hb=>simp only[fM,ae] at h2;rw[dD h2];exact .eh hb
    | arr a1 a2 a3 a4 a5 a6 a7=>simp only[fM,ae] at h2;rw[dD h2];exact .arr a1 a2 a3 a4 a5 a6 a7
    | nest a1 a2 a3=>simp only[fM,ae] at h2;rw[dD h2];exact .nest a1 a2 a3
    | map a1 a2 a3 a4 a5 a6 a7=>simp only[fM,ae] at h2;rw[dD h2];exact .map a1 a2 a3 a4 a5 a6 a7
    | @var xs b Ca T hb hh hs dv hx ik=>
     simp only[fM,ae] at h2 XY
     rw[dD h2]
     exact .var hb hh (by rw[I4];exact hs) dv (fun i v y hi hy=>I5 S hT hR (vs:=Ca.toList) (fun i v x hi dj=>hx i v x (by simpa using hi) dj) XY i v y (by simpa using hi) hy) ik
  ·rcases cls j blk' hj with ⟨id,ae,_⟩|⟨e,he,hb⟩
   ·have:=(bO.1 ae).1;omega
   ·rw[he];exact .eh hb
 ·rcases cls j1 b1 e1 with ⟨Ow,o1,x1⟩|⟨e,_,hb⟩
  ·rcases cls j2 b2 e2 with ⟨dh,o2,x2⟩|⟨e,_,hb⟩
   ·obtain ⟨c1,y1,z1,g1⟩:=x1.resolve_left f1.alive
    obtain ⟨c2,y2,z2,g2⟩:=x2.resolve_left f2.alive
    rw[qG _ _ o1] at f1
    rw[qG _ _ o2] at f2
    have:=S.h.inj Ow dh c1 c2 b y1 y2 (g1 _ _ f1) (g2 _ _ f2)
    subst this
    obtain ⟨q1,q2⟩:=bO.1 o1
    obtain ⟨q3,q4⟩:=bO.1 o2
    exact (List.getElem_inj pf).1 (q2.trans q4.symm)
   ·subst ‹b2=_›;have:=f2.flat (by simp);rw[hb] at this;cases this
  ·subst ‹b1=_›;have:=f1.flat (by simp);rw[hb] at this;cases this
 ·rcases cls j blk e1 with ⟨Ow,o1,x1⟩|⟨e,_,hb⟩
  ·obtain ⟨c1,y1,z1,g1⟩:=x1.resolve_left f1.alive
   rw[qG _ _ o1] at f1
   exact S.h.own Ow c1 b y1 (g1 _ _ f1)
  ·subst ‹blk=_›;have:=f1.flat (by simp);rw[hb] at this;cases this
 ·change aj P w I β' hp' (a.tmps.getD k undef) (ky _ k)
  unfold ky
  cases N6:eJ (nj st.hp ord st.sl (ord.length+(gB st.hp ord ord.length ord).2.length) live).1 k with
  | none=>exact .undef
  | some y=>
   obtain ⟨n',h1,h2⟩:=XS hF.right N6
   simp only[Option.getD_some,h2]
   exact ahX S hT hR (hA.sl k) h1
 ·obtain ⟨tv,k1,k2,k3⟩:=hE.blk id blk ae
  rcases Dv id (hm id blk ae) with ho|⟨p,ho,bQ⟩
  ·cases tv with
   | dead=>exact ⟨.dead,hR.dead id id ho k1,k2,fun h=>absurd rfl h⟩
   | var T0 cs=>
    obtain ⟨jz,h'⟩:=hR.var id id T0 cs ho k1
    refine ⟨_,h',?_,fun _=>(qG id id ho).trans (k3 (by simp))⟩
    cases blk<;>simp_all [ah.le]
   | arr e es fz=>exact ⟨_,hR.arr id id e es fz ho k1,k2,fun _=>(qG id id ho).trans (k3 (by simp))⟩
   | map t es=>exact ⟨_,hR.map id id t es ho k1,k2,fun _=>(qG id id ho).trans (k3 (by simp))⟩
   | nest e es an=>
    refine ⟨_,hR.nest id id e es an ho k1,?_,fun _=>(qG id id ho).trans (k3 (by simp))⟩
    obtain ⟨M0,afH,rfl,l1,l2,_⟩:=ah.MY k2
    exact ⟨rfl,l1,by simpa using l2,fun k=>by rw[kF id _ _ _ ae k];exact na _⟩
  ·obtain ⟨n',_,h2⟩:=tA id p ho
   simp only[fM,bQ] at h2
   exact ⟨.dead,h2,by cases blk<;>trivial,fun h=>absurd rfl h⟩
 ·obtain ⟨tv,k1,k2,k3⟩:=hE.blk id blk ae
  rcases Dv id (hm id blk ae) with ho|⟨p,ho,bQ⟩
  ·refine hE.size id blk tv b ae k1 (fun tz=> ?_) hb
   subst tz
   have:=hR.dead id id ho k1
   change hp' id=some blk' at b9
   rw[this] at b9
   exact hd (dD b9).symm
  ·obtain ⟨n',_,h2⟩:=tA id p ho
   simp only[fM,bQ] at h2
   change hp' id=some blk' at b9
   rw[h2] at b9
   exact absurd (dD b9).symm hd
theorem ah1 {n m:Nat} {live:List Nat} {a:Act} {st:St} (S:aW P w I β st.hp B M w0) (hT:rJ P I β st.hp) (hA:jf P E G w I β n a st) (hE:mE w0.w w0.I μ hp0 w I β st.hp) (hm: ∀id blk,hp0 id=some blk→id<m) (kF: ∀id e es an,hp0 id=some (.nest e es an)→∀k,b8 an k=0):
  ∃β',aW P w I β' (canon m live st).hp B M w0∧jf P E G w I β' n a (canon m live st)∧mE w0.w w0.I μ hp0 w I β' (canon m live st).hp:=by
 obtain ⟨t,Dv,pf⟩:=ahZ (m:=m) (live:=live) (st:=st)
 refine XX (by rw[Dv];exact pf) (fun id bx=> .inl ?_) S hT hA hE hm kF
 rw[Dv,kj (by simpa using bx)]
 simp[bx]
theorem XZ: ∀{l:List Nat},qk l=true→l.Nodup
 | [],_=> .nil
 | a::l,h=>by
  simp only[qk,bn,oY] at h
  rw[List.nodup_cons]
  exact ⟨fun hm=>Bool.noConfusion ((zO hm).symm.trans h.1),XZ h.2⟩
theorem ah2 {m:Nat} {mv:List Nat} {id:Nat} (h:id<m):(oh m mv)[id]? =some id∨(oh m mv)[id]? =some (m+id):=by
 unfold oh
 rw[kj (by simpa using h),eZ]
 simp only[BX h,Option.map_some]
 cases ko mv id with
 | true=>exact .inr rfl
 | false=>exact .inl rfl
end
section
variable {P:Program} {A:dg} {w w':World} {I I' I2:Nat→Nat→Prop} {μ β β':Nat→Option Nat} {hp hp' hp0:Nat→Option ah} {C:ab} {B:Nat} {M:Nat→Prop} {w0:Start}
theorem I6 (p:Nat→Prop) (h: ∃n,p n): ∃n,p n∧∀m,p m→n≤m:=by
 obtain ⟨n,hn⟩:=h
 induction n using Nat.strongRecOn with
 | _ n ih=>
  by_cases hx: ∃m,m<n∧p m
  ·obtain ⟨m,hm,hp⟩:=hx
   exact ih m hm hp
  ·exact ⟨n,hn,fun m hm=>Nat.le_of_not_lt fun bx=>hx ⟨m,bx,hm⟩⟩
open Classical in
theorem ah3 {c:Code} {Q:Exit→Act→World→Prop} (J:Nat→Act→World→Prop) (h0: ∀a w,¬J 0 a w) (round: ∀n a w,J (n+1) a w→c.wp P (Exit.then (J n) Q) a w) {n:Nat} {a:Act} {w:World} (h:J n a w):
  (Code.loop c).wp P Q a w:=by
 refine wp_loop (fun a w=> ∃n,J n a w) (fun a w=>if h: ∃n,J n a w then (I6 _ h).choose else 0) ⟨n,h⟩ fun a w hJ=> ?_
 obtain ⟨h1,h2⟩:=(I6 _ hJ).choose_spec
 generalize hk:(I6 _ hJ).choose=k at h1 h2
 cases k with
 | zero=>exact absurd h1 (h0 a w)
 | succ k=>
  refine wp_mono (round k a w h1) fun e a' w' he=> ?_
  cases e with
  | normal=>
   have hex: ∃n,J n a' w':=⟨k,he⟩
   refine ⟨hex,?_⟩
   have h3:=(I6 _ hex).choose_spec.2 k he
   rw[qb hex,qb hJ,hk]
   omega
  | _=>exact he
def Ah:Out→Exit
 | .norm=> .normal
 | .exit id=> .exit id
 | .ret=> .ret
def Inv (P:Program) (E:FuncId→Bool) (G:Nat→V) (B:Nat) (M:Nat→Prop) (w0:Start) (μ:Nat→Option Nat) (hp0:Nat→Option ah) (n:Nat) (a:Act) (w:World) (st:St):Prop:=
 ∃I β,aW P w I β st.hp B M w0∧jf P E G w I β n a st∧mE w0.w w0.I μ hp0 w I β st.hp
theorem Inv.canon {E:FuncId→Bool} {G:Nat→V} {n m:Nat} {a:Act} {st:St} {live:List Nat} (h:Inv P E G B M w0 μ hp0 n a w st) (hm: ∀id blk,hp0 id=some blk→id<m) (kF: ∀id e es an,hp0 id=some (.nest e es an)→∀k,b8 an k=0):Inv P E G B M w0 μ hp0 n a w (canon m live st):=by
 obtain ⟨I0,β,S,hA,hE⟩:=h
 obtain ⟨I,h1,S,hA,hT⟩:=XK S hA
 obtain ⟨β',a,b,c⟩:=ah1 (live:=live) S hT hA (hE.trans h1.z8) hm kF
 exact ⟨I,β',a,b,c⟩
theorem I7: ∀{l:List BS} {ds:List V},(fF l ds).length=l.length
 | [],_=>rfl
 | b::l,ds=>by simp only[fF,List.length_cons,I7]
theorem Inv.enter {A:dg} {E:FuncId→Bool} {G:Nat→V} {n f:Nat} {ds:List V} {a:Act} (lS:qk (oh (A.sin f).cM.length (A.mv f))=true) (h:Inv P E G B M w0 μ hp0 n a w (bN (A.sin f) ds)) (hm: ∀id blk,hp0 id=some blk→id<(A.sin f).cM.length)
  (kF: ∀id e es an,hp0 id=some (.nest e es an)→∀k,b8 an k=0) (Ai: ∀p,(A.sin f).cM.length≤p→(bN (A.sin f) ds).hp p=none):Inv P E G B M w0 μ hp0 n a w (Ct A f ds):=by
 unfold Ct
 split
 ·exact h
 ·obtain ⟨I0,β,S,hA,hE⟩:=h
  obtain ⟨I,h1,S,hA,hT⟩:=XK S hA
  obtain ⟨β',x,y,z⟩:=XX (m:=(A.sin f).cM.length) (ord:=oh (A.sin f).cM.length (A.mv f)) (live:=(A.sin f).b6.map (·.1)) (XZ lS) (fun id ae=>(ah2 ae).imp (fun h=>h) fun h=>⟨_,h,Ai _ (by omega)⟩) S hT hA (hE.trans h1.z8) hm kF
  exact ⟨I,β',x,y,z⟩
theorem Inv.reshape {E:FuncId→Bool} {G:Nat→V} {n m:Nat} {a:Act} {st:St} {S:Shape} {ds:List V} (h:Inv P E G B M w0 μ hp0 n a w st) (hs:jS m S st=some ds) (hm: ∀id blk,hp0 id=some blk→id<m):Inv P E G B M w0 μ hp0 n a w (bN S ds):=by
 obtain ⟨I,β,S1,hA,hE⟩:=h
 obtain ⟨r1,r2,_,r4⟩:=AM.reshape hs S1
 refine ⟨I,β,r1,⟨fun k=>r2 k _ (hA.sl k),hA.size,hA.defers,hA.aU⟩,⟨hE.dR,hE.cO,fun id blk ae=> ?_,fun id blk blk' b ae b9 hd hb=> ?_⟩⟩
 ·obtain ⟨tv,k1,k2,k3⟩:=hE.blk id blk ae
  obtain ⟨_,hle,_⟩:=WG hs
  have hl:=hm id blk ae
  obtain ⟨cD,h2⟩: ∃cD,(bN S ds).hp id=some cD:=by
   simp only[bN,mk,je]
   exact ⟨_,bU (by rw[I7];omega)⟩
  by_cases hd:cD= .dead
  ·subst hd
   exact ⟨_,h2,by cases blk<;>trivial,fun h=>absurd rfl h⟩
  ·obtain ⟨ja,e1,e2,_⟩:=r4 id cD h2 hd
   rw[k1] at e1;cases e1
   exact ⟨_,h2,ah.le_trans k2 e2,fun _=>k3 (fun e=>hd (ah.rI (e▸e2)))⟩
 ·obtain ⟨ja,e1,e2,_⟩:=r4 id blk' b9 hd
  exact hE.size id blk ja b ae e1 (fun e=>hd (ah.rI (e▸e2))) hb
theorem mF.here (h:mF P A C) (f:Nat) (id:Nat):mF P (A.here f id) C:=by
 intro key ds es hh
 obtain ⟨fn,c,h1,h2,h3⟩:=h key ds es hh
 refine ⟨fn,c,h1,h2,fun w I μ vals a g b d=>(h3 w I μ vals a g b d).mono fun e w' hx=> ?_⟩
 obtain ⟨v,I2,cP,q1,q2⟩:=hx
 exact ⟨v,I2,cP,q1,⟨q2.z9,q2.le,q2.res⟩⟩
theorem ah4 {a b:Out} (h:HP a b=true):a=b:=by
 cases a<;>cases b<;>simp[HP] at h<;>first|rfl|(subst h;rfl)
theorem X0 {m:Nat} {r:Out × St}: ∀{l:List (Out × Shape)} {j:Nat} {e:Nat × List V},ways m j l r=some e→j≤e.1
 | [],j,e,h=>by cases h
 | (o,S)::l,j,e,h=>by
  simp only[ways] at h
  split at h
  ·cases h;exact aw _
  ·have:=X0 h;omega
theorem Ox {m:Nat} {o:Out} {s:St} {out:Out} {st':St}: ∀{l:List (Out × Shape)} {k:Nat} {e:Nat × List V},ways m k l (o,s)=some e→lF k l e.1 e.2 (fun o st=>some (o,st))=some (out,st')→
  out=o∧∃S,jS m S s=some e.2∧st'=bN S e.2
 | [],k,e,h,_=>by cases h
 | (o',S)::l,k,e,h,h2=>by
  simp only[ways] at h
  split at h
  ·rename_i ds hx
   cases h
   cases ho:HP o' o with
   | false=>rw[ho] at hx;cases hx
   | true=>
    rw[ho] at hx
    have:=ah4 ho
    subst this
    cases l with
    | nil=>
     simp only[lF,eE,lA] at h2
     exact ⟨h2.1.symm,S,hx,h2.2.symm⟩
    | cons p l=>
     simp only[lF,kQ,cond_true,eE,lA] at h2
     exact ⟨h2.1.symm,S,hx,h2.2.symm⟩
  ·have rQ:=X0 h
   cases l with
   | nil=>cases h
   | cons p l=>
    have ct:Nat.beq e.1 k=false:=by
     cases hb:Nat.beq e.1 k with
     | false=>rfl
     | true=>rw[bB] at hb;omega
    simp only[lF,ct,cond_false] at h2
    exact Ox h h2
theorem ah5 (hC:mF P A C) (hP:j4 P A) (pr:P.follows .mixedOrders=true) {f n m:Nat} (hm: ∀id blk,hp0 id=some blk→id<m) (kF: ∀id e es an,hp0 id=some (.nest e es an)→∀k,b8 an k=0):
  ∀(c:Code) {st st':St} {out:Out} {Q:Exit→Act→World→Prop} {a:Act} {w:World},exec P A C f n m c st=some (out,st')→Inv P A.idle A.aU B M w0 μ hp0 n a w st→
   (∀a' w',Inv P A.idle A.aU B M w0 μ hp0 n a' w' st'→Q (Ah out) a' w')→c.wp P Q a w:=by
 intro c
 induction c with
 | skip=>
  intro st st' out Q a w h hI hQ
  simp only[exec,eE,lA] at h
  obtain ⟨rfl,rfl⟩:=h
  exact wp_skip (hQ a w hI)
 | exit id=>
  intro st st' out Q a w h hI hQ
  simp only[exec,eE,lA] at h
  obtain ⟨rfl,rfl⟩:=h
  exact wp_exit (hQ a w hI)
 | ret=>
  intro st st' out Q a w h hI hQ
  simp only[exec,eE,lA] at h
  obtain ⟨rfl,rfl⟩:=h
  exact wp_ret (hQ a w hI)
 | region id ops draw=>
  intro st st' out Q a w h hI hQ
  simp only[exec] at h
  obtain ⟨j5,h1,h2⟩:=bind_some h
  simp only[eE,lA] at h2
  obtain ⟨rfl,rfl⟩:=h2
  obtain ⟨I,β,S,hA,hE⟩:=hI
  refine ahT (hC.here f id) (hP.here f id) pr h1 S hA fun a' w' I' β' k1 k2 k3=> ?_
  obtain ⟨I2,l1,l2,l3⟩:=XL (m:=m) (pur:=A.pur f id) k2 k3
  have hE2:=(hE.trans k1.z8).trans l1.z8
  exact hQ a' w' (Inv.canon ⟨I2,β',l2,l3,hE2⟩ hm kF)
 | seq x y gP gQ=>
  intro st st' out Q a w h hI hQ
  simp only[exec] at h
  obtain ⟨⟨o1,j5⟩,h1,h2⟩:=bind_some h
  refine wp_seq (gP h1 hI fun a' w' lg=> ?_)
  cases o1 with
  | norm=>exact gQ h2 lg hQ
  | exit id=>
   simp only[eE,lA] at h2
   obtain ⟨rfl,rfl⟩:=h2
   exact hQ a' w' lg
  | ret=>
   simp only[eE,lA] at h2
   obtain ⟨rfl,rfl⟩:=h2
   exact hQ a' w' lg
 | cond c x y gP gQ=>
  intro st st' out Q a w h hI hQ
  cases c with
  | tmp t=>
   have go: ∀{st st':St} {out:Out} {Q:Exit→Act→World→Prop} {a:Act} {w:World},(match st.sl t with
     | .bool b=>(bif b then exec P A C f n m x st else exec P A C f n m y st).bind fun r=>
      match r.1 with
      | .norm=>some (.norm,AM.canon m (A.join f t) r.2)
      | _=>some r
     | _=>none)=some (out,st')→Inv P A.idle A.aU B M w0 μ hp0 n a w st→(∀a' w',Inv P A.idle A.aU B M w0 μ hp0 n a' w' st'→Q (Ah out) a' w')→(Code.cond (.tmp t) x y).wp P Q a w:=by
    intro st st' out Q a w h hI hQ
    cases hs:st.sl t<;>rw[hs] at h<;>simp only at h<;>first|(cases h;done)|skip
    rename_i b
    obtain ⟨⟨o1,j5⟩,h1,h2⟩:=bind_some h
    obtain ⟨I,β,S,hA,hE⟩:=hI
    have fQ:a.eval (.tmp t)= .bool b:=by
     have:=Xi hA hs
     simp[Act.eval,this]
    have fin: ∀a' w',Inv P A.idle A.aU B M w0 μ hp0 n a' w' j5→Q (Ah o1) a' w':=by
     intro a' w' lg
     cases o1 with
     | norm=>
      simp only[eE,lA] at h2
      obtain ⟨rfl,rfl⟩:=h2
      exact hQ a' w' (lg.canon hm kF)
     | exit id=>
      simp only[eE,lA] at h2
      obtain ⟨rfl,rfl⟩:=h2
      exact hQ a' w' lg
     | ret=>
      simp only[eE,lA] at h2
      obtain ⟨rfl,rfl⟩:=h2
      exact hQ a' w' lg
    refine wp_cond fQ ?_
    cases b with
    | true=>exact gP h1 ⟨I,β,S,hA,hE⟩ fin
    | false=>exact gQ h1 ⟨I,β,S,hA,hE⟩ fin
   simp only[exec] at h
   split at h
   ·exact go h hI hQ
   ·obtain ⟨ds,h1,h2⟩:=bind_some h
    obtain ⟨e,h3,h4⟩:=bind_some h2
    obtain ⟨⟨o1,s1⟩,h5,h6⟩:=bind_some h3
    obtain ⟨rfl,S',k1,rfl⟩:=Ox h6 h4
    exact go h5 (hI.reshape h1 hm) fun a' w' lg=>hQ a' w' (lg.reshape k1 hm)
  | const v=>
   cases v with
   | bool b=>
    simp only[exec] at h
    refine wp_cond (t:=b) rfl ?_
    cases b with
    | true=>exact gP h hI hQ
    | false=>exact gQ h hI hQ
   | _=>simp only[exec] at h;cases h
  | _=>simp only[exec] at h;cases h
 | block id c ih=>
  intro st st' out Q a w h hI hQ
  simp only[exec] at h
  obtain ⟨⟨o1,j5⟩,h1,h2⟩:=bind_some h
  refine wp_block (ih h1 hI fun a' w' lg=> ?_)
  cases o1 with
  | norm=>
   simp only[eE,lA] at h2
   obtain ⟨rfl,rfl⟩:=h2
   exact hQ a' w' (lg.canon hm kF)
  | exit aV=>
   simp only at h2
   cases hb:Nat.beq aV id with
   | true=>
    rw[hb] at h2
    simp only[cond_true,eE,lA] at h2
    obtain ⟨rfl,rfl⟩:=h2
    rw[bB] at hb
    simp only[Ah,Exit.inBlock,hb,jO]
    exact hQ a' w' (lg.canon hm kF)
   | false=>
    rw[hb] at h2
    simp only[cond_false,eE,lA] at h2
    obtain ⟨rfl,rfl⟩:=h2
    have ct:aV≠id:=fun e=>by rw[e,kQ] at hb;cases hb
    simp only[Ah,Exit.inBlock,ct,lz]
    exact hQ a' w' lg
  | ret=>
   simp only[eE,lA] at h2
   obtain ⟨rfl,rfl⟩:=h2
   exact hQ a' w' lg
 | loop c ih=>
  intro st st' out Q a w h hI hQ
  simp only[exec] at h
  split at h
  ·cases h
  ·rename_i S hS
   obtain ⟨ds,h1,h2⟩:=bind_some h
   obtain ⟨e,h3,h4⟩:=bind_some h2
   obtain ⟨k,hk⟩:=zm h3
   refine ah3 (J:=fun k a w=> ∃ds,Inv P A.idle A.aU B M w0 μ hp0 n a w (bN S.1 ds)∧fD (fun ds=>mq m S.1 S.2 (exec P A C f n m c (bN S.1 ds))) k ds=some e) (fun a w ⟨s,_,h⟩=>by cases h) (fun k a w ⟨ds,hs,hk⟩=> ?_) ⟨ds,hI.reshape h1 hm,hk⟩
   simp only[fD] at hk
   obtain ⟨y,h5,h6⟩:=bind_some hk
   unfold mq at h5
   obtain ⟨⟨o1,s1⟩,h7,h8⟩:=bind_some h5
   refine ih h7 hs fun a' w' lg=> ?_
   have X1: ∀{e':Nat × List V},ways m 0 S.2 (o1,s1)=some e'→e'=e→Q (Ah o1) a' w':=by
    intro e' q1 q2
    subst q2
    obtain ⟨rfl,S',k1,rfl⟩:=Ox q1 h4
    exact hQ a' w' (lg.reshape k1 hm)
   cases o1 with
   | norm=>
    obtain ⟨ds2,q1,q2⟩:=bind_some h8
    cases q2
    exact ⟨ds2,lg.reshape q1 hm,h6⟩
   | exit id=>
    obtain ⟨e',q1,q2⟩:=bind_some h8
    cases q2
    cases h6
    exact X1 q1 rfl
   | ret=>
    obtain ⟨e',q1,q2⟩:=bind_some h8
    cases q2
    cases h6
    exact X1 q1 rfl
 | _=>intro st st' out Q a w h;simp only[exec] at h;cases h
end
section
variable {P:Program} {A:dg} {w w':World} {I I' I2:Nat→Nat→Prop} {μ β β' cP:Nat→Option Nat} {hp hp' hp0:Nat→Option ah} {C:ab} {B:Nat} {M:Nat→Prop} {w0:Start}
theorem I8 (S:aW P w I β hp B M w0) {a:Act} {st:St} (hs:mr P w I β hp a st.sl): ∀{l:List ResultVar} {xs:List V} {rd:List Nat},(wF P st l).run C hp=some (xs,rd)→
  ∃vs:List Value,(l.mapM fun| .tmp t=>Pure.pure (a.tmps.getD t undef)| .cell x t=>do loadVar t (←asAddr (a.tmps.getD x undef)):Sem (List Value)).run P w= .ok vs w∧vs.length=xs.length∧l.length=xs.length∧
   ∀(j:Nat) v x,vs[j]? =some v→xs[j]? =some x→aj P w I β hp v x
 | [],xs,rd,h=>by
  cases h
  exact ⟨[],by simp,rfl,rfl,by simp⟩
 | .tmp t::l,xs,rd,h=>by
  simp only[wF] at h
  obtain ⟨ys,l1,l2,h1,h2⟩:=mu h
  have h3:=M3 h2
  subst h3
  obtain ⟨vs,a1,a2,a3,a4⟩:=I8 S hs h1
  refine ⟨a.tmps.getD t undef::vs,by simp only[List.mapM_cons,Sem.run_bind,Sem.run_pure,Result.andThen_ok,a1],by simp[a2],by simp[a3],fun j v x hj hx=> ?_⟩
  cases j with
  | zero=>simp at hj hx;subst hj;subst hx;have:=hs t;simpa using this
  | succ j=>exact a4 j v x (by simpa using hj) (by simpa using hx)
 | .cell y t::l,xs,rd,h=>by
  simp only[wF] at h
  obtain ⟨r,l1,l2,h1,h2⟩:=mu h
  obtain ⟨ys,l3,l4,h3,h4⟩:=mu h2
  have h5:=M3 h4
  subst h5
  obtain ⟨v0,b1,b2,b3,ad,b4⟩:=VB S (hs y) h1
  obtain ⟨vs,a1,a2,a3,a4⟩:=I8 S hs h3
  refine ⟨v0::vs,?_,by simp[a2],by simp[a3],fun j v x hj hx=> ?_⟩
  ·have e1:(do loadVar t (←asAddr (a.tmps.getD y undef)):Sem Value).run P w= .ok v0 w:=by
    rw[b4] at b1⊢
    simpa[Instr.loadAt,Instr.sureAddr,asAddr] using b1
   simp only[List.mapM_cons,Sem.run_bind,e1,Result.andThen_ok,a1,Sem.run_pure]
  cases j with
  | zero=>simp at hj hx;subst hj;subst hx;exact b2
  | succ j=>exact a4 j v x (by simpa using hj) (by simpa using hx)
def xq:List Value→Value
 | [v]=>v
 | l=> .tuple l.toArray
theorem ah6 {vs:List Value} (h:vs.length≠1):xq vs= .tuple vs.toArray:=by
 match vs,h with
 | [],_=>rfl
 | [v],h=>simp at h
 | v::v2::l,_=>rfl
theorem ah7 {fn:Func} {a:Act} {st:St} (S:aW P w I β st.hp B M w0) (hs:mr P w I β st.hp a st.sl) {xs:List V} {rd:List Nat} (h:(wF P st fn.results.toList).run C st.hp=some (xs,rd)):
  ∃vs:List Value,(results fn a.tmps).run P w= .ok (xq vs) w∧vs.length=xs.length∧
   ∀(j:Nat) v x,vs[j]? =some v→xs[j]? =some x→aj P w I β st.hp v x:=by
 obtain ⟨vs,a1,a2,_,a4⟩:=I8 S hs h
 refine ⟨vs,?_,a2,a4⟩
 unfold results
 rw[Array.mapM_eq_mapM_toList]
 simp only[map_eq_pure_bind,bind_assoc,pure_bind,Sem.run_bind]
 refine (congrArg (fun r:Result (List Value)=>r.andThen _) a1).trans ?_
 simp only[Result.andThen_ok,Sem.run_pure]
 match vs with
 | []=>simp[xq]
 | [v]=>simp[xq]
 | v::v2::l=>simp[xq]
theorem X2: ∀{args:List V} {i k:Nat},eJ (pb i args) k=if i≤k then args[k-i]? else none
 | [],i,k=>by simp[pb,eJ]
 | v::vs,i,k=>by
  simp only[pb,eJ]
  cases hb:Nat.beq k i with
  | true=>
   rw[bB] at hb
   subst hb
   simp
  | false=>
   have ct:k≠i:=fun e=>by rw[e,kQ] at hb;cases hb
   simp only[cond_false,X2]
   by_cases h:i≤k
   ·rw[aZ,af h]
    obtain ⟨d,rfl⟩: ∃d,k=i+1+d:=⟨k-(i+1),by omega⟩
    rw[show i+1+d-(i+1)=d by omega,show i+1+d-i=d+1 by omega]
    rfl
   ·rw[bK,ag h]
theorem Oy: ∀{l:List (Nat × VS)} {ds:List V} {i k:Nat},ju i l=true→eJ (gh l ds) k=if i≤k then (gz (l.map (·.2)) ds)[k-i]? else none
 | [],ds,i,k,_=>by simp[gh,gz,eJ]
 | (q,s)::l,ds,i,k,h=>by
  simp only[ju,bn,bB] at h
  obtain ⟨rfl,h⟩:=h
  simp only[gh,eJ,ki,gz]
  cases hb:Nat.beq k q with
  | true=>
   rw[bB] at hb
   subst hb
   simp
  | false=>
   have ct:k≠q:=fun e=>by rw[e,kQ] at hb;cases hb
   simp only[cond_false]
   rw[Oy h]
   by_cases h:q≤k
   ·rw[aZ,af h]
    obtain ⟨d,rfl⟩: ∃d,k=q+1+d:=⟨k-(q+1),by omega⟩
    rw[show q+1+d-(q+1)=d by omega,show q+1+d-q=d+1 by omega]
    rfl
   ·rw[bK,ag h]
theorem X3: ∀{l:List (Nat × VS)} {ds:List V},(gh l ds).map (·.2)=gz (l.map (·.2)) ds
 | [],_=>rfl
 | (q,s)::l,ds=>by simp only[gh,ki,gz,X3]
theorem Oz: ∀{l:List VS} {ds:List V},(gz l ds).length=l.length
 | [],_=>rfl
 | s::l,ds=>by simp only[gz,List.length_cons,Oz]
theorem X4: ∀{l:List (Nat × VS)} {ds:List V},(gh l ds).length=l.length
 | [],_=>rfl
 | (q,s)::l,ds=>by simp only[gh,List.length_cons,X4]
theorem ah8 {vals:List Value} {l:List (Nat × V)} (hl:vals.length=l.length) (h: ∀(j:Nat) v y,vals[j]? =some v→(l.map (·.2))[j]? =some y→aj P w I β hp v y):aj P w I β hp (xq vals) (rG l):=by
 match l,hl,h with
 | [],hl,h=>
  obtain rfl:vals=[]:=oW hl
  exact .bL rfl fun j v x _ hx=>by simp at hx
 | [(k,y)],hl,h=>
  match vals,hl,h with
  | [v],_,h=>exact h 0 v y rfl rfl
 | a::b::l,hl,h=>
  have ct:vals.length≠1:=by rw[hl];simp
  rw[ah6 ct]
  simp only[rG]
  exact .bL (by simp[hl]) fun j v y hj hy=>h j v y (by simpa using hj) hy
theorem ah9 {l:List BS} {ds:List V} {j:Nat} {e:TypeId} {es:List V} {an:List Nat} (h:(fF l ds)[j]? =some (.nest e es an)) (k:Nat):b8 an k=0:=by
 obtain ⟨b,gn,_,h2⟩:=Oa h
 cases b<;>simp only[gN] at h2<;>cases h2
 match k with
 | 0=>rfl
 | 1=>rfl
 | 2=>rfl
 | _+3=>rfl
theorem aia {f n m:Nat} {fn:Func} {a:Act} {st:St} {es:List V} {rd:List Nat} (hm: ∀id blk,hp0 id=some blk→id<m) (kF: ∀id e es an,hp0 id=some (.nest e es an)→∀k,b8 an k=0)
  (hI:Inv P A.idle A.aU B M w0 μ hp0 n a w st) (qH:ju 0 (A.gg f).b6=true) (bG:(A.gg f).b6.length=fn.results.size) (h:(wG P A f fn m st).run C st.hp=some (es,rd)):
  ∃v I2 cP,(results fn a.tmps).run P w= .ok v w∧aW P w I2 cP (bN (A.so f es) (A.lv f es)).hp B M w0∧mE w0.w w0.I μ hp0 w I2 cP (bN (A.so f es) (A.lv f es)).hp∧aj P w I2 cP (bN (A.so f es) (A.lv f es)).hp v (rG (gh (A.so f es).b6 (A.lv f es))):=by
 unfold wG at h
 obtain ⟨xs,l1,l2,h1,h2⟩:=mu h
 obtain ⟨I,β,S,hA,hE⟩:=hI
 obtain ⟨vals,e1,e2,e3⟩:=ah7 S hA.sl h1
 have e4:fn.results.size=xs.length:=by
  obtain ⟨_,_,_,q,_⟩:=I8 S hA.sl h1
  simpa using q
 have fin: ∀(Sx:Shape) (es:List V),ju 0 Sx.b6=true→Sx.b6.length=fn.results.size→jS m Sx (canon m (List.range xs.length) (freeze m (A.wz f) ⟨ky (pb 0 xs),st.hp,st.nb⟩))=some es→
   ∃v I2 cP,(results fn a.tmps).run P w= .ok v w∧aW P w I2 cP (bN Sx es).hp B M w0∧mE w0.w w0.I μ hp0 w I2 cP (bN Sx es).hp∧aj P w I2 cP (bN Sx es).hp v (rG (gh Sx.b6 es)):=by
  intro Sx es qH bG xr
  have hA0:jf P A.idle A.aU w I β vals.length ⟨vals.toArray,[]⟩ ⟨ky (pb 0 xs),st.hp,st.nb⟩:=by
   refine ⟨fun k=> ?_,by simp,by simp,hA.aU⟩
   change aj P w I β st.hp _ (ky (pb 0 xs) k)
   unfold ky
   rw[X2]
   simp only[na,jO,Nat.sub_zero]
   cases hk:xs[k]? with
   | none=>exact .undef
   | some x=>
    have nu:k<vals.length:=by rw[e2];exact (bO.1 hk).1
    have:=e3 k vals[k] x (bU nu) hk
    have e5:(vals.toArray).getD k undef=vals[k]:=by simp[nu]
    rw[Option.getD_some]
    exact e5▸this
  obtain ⟨I2,k1,k2,k3⟩:=XL (st:=⟨ky (pb 0 xs),st.hp,st.nb⟩) (m:=m) (pur:=A.wz f) S hA0
  have hI2:Inv P A.idle A.aU B M w0 μ hp0 vals.length ⟨vals.toArray,[]⟩ w (freeze m (A.wz f) ⟨ky (pb 0 xs),st.hp,st.nb⟩):=⟨I2,β,k2,k3,hE.trans k1.z8⟩
  obtain ⟨I3,X5,q1,q2,q3⟩:=(hI2.canon (live:=List.range xs.length) hm kF).reshape xr hm
  refine ⟨xq vals,I3,X5,e1,q1,q3,ah8 (by rw[X4,bG,e4,e2]) fun j v y hj hy=> ?_⟩
  have hv:=q2.sl j
  have dG:=(bO.1 hj).1
  have e5:(vals.toArray).getD j undef=v:=by
   have:=(bO.1 hj).2
   simp[dG,this]
  change aj P w I3 X5 _ ((vals.toArray).getD j undef) (ky (gh Sx.b6 _) j) at hv
  rw[e5] at hv
  unfold ky at hv
  rw[Oy qH] at hv
  simp only[na,jO,Nat.sub_zero] at hv
  rw[X3] at hy
  rw[hy] at hv
  exact hv
 unfold dg.so dg.lv
 cases cU:A.alt f with
 | none=>
  rw[cU] at h2
  simp only at h2⊢
  split at h2
  ·rename_i gn xr
   have:=bp h2
   subst this
   exact fin _ _ qH bG xr
  ·cases h2
 | some S2=>
  rw[cU] at h2
  simp only at h2⊢
  split at h2
  ·rename_i gn xr
   have:=bp h2
   subst this
   exact fin _ _ qH bG xr
  ·split at h2
   ·rename_i gn xr
    obtain ⟨hc,h3⟩:=a8 h2
    simp only[bn,bB] at hc
    have:=bp h3
    subst this
    exact fin _ _ hc.1 hc.2 xr
   ·cases h2
theorem aib (hC:mF P A C) (hP:j4 P A) (pr:P.follows .mixedOrders=true):mF P A (qm P A C):=by
 intro f ds es h
 unfold qm at h
 cases hf:P.funcs[A.ic f]? with
 | none=>rw[hf] at h;cases h
 | some fn=>
  rw[hf] at h
  simp only at h
  cases hb:fn.body with
  | none=>rw[hb] at h;cases h
  | some c=>
   rw[hb] at h
   simp only at h
   cases hc:(ju 0 (A.sin f).b6&&(Nat.ble (A.sin f).b6.length fn.ntmps&&((A.sin f).ok&&(ju 0 (A.gg f).b6&&(Nat.beq (A.gg f).b6.length fn.results.size&&qk (oh (A.sin f).cM.length (A.mv f))))))) with
   | false=>rw[hc] at h;cases h
   | true=>
    rw[hc] at h
    simp only[cond_true] at h
    simp only[bn,bB,fC] at hc
    obtain ⟨lQ,hnt,_,Ae,bG,lS⟩:=hc
    obtain ⟨⟨out,st'⟩,h1,h2⟩:=bind_some h
    refine ⟨fn,c,rfl,hb,fun w I μ vals hH hgl hl hv=> ?_⟩
    have aic:(∀id,out≠ .exit id)∧∃rd,(wG P A f fn (A.sin f).cM.length st').run C st'.hp=some (es,rd):=by
     cases out with
     | exit id=>cases h2
     | norm=>
      refine ⟨by simp,?_⟩
      simp only[BW] at h2
      obtain ⟨⟨x,rd⟩,e1,e2⟩:=h2
      simp only at e2
      subst e2
      exact ⟨rd,e1⟩
     | ret=>
      refine ⟨by simp,?_⟩
      simp only[BW] at h2
      obtain ⟨⟨x,rd⟩,e1,e2⟩:=h2
      simp only at e2
      subst e2
      exact ⟨rd,e1⟩
    obtain ⟨ct,rd,NZ⟩:=aic
    refine calls_of_wp_defers hf hb ?_
    have hm: ∀id blk,(bN (A.sin f) ds).hp id=some blk→id<(A.sin f).cM.length:=by
     intro id blk ae
     simp only[bN,mk,je] at ae
     have:=(bO.1 ae).1
     rwa [I7] at this
    have kF: ∀id e es an,(bN (A.sin f) ds).hp id=some (.nest e es an)→∀k,b8 an k=0:=by
     intro id e es an ae k
     simp only[bN,mk,je] at ae
     exact ah9 ae k
    refine ah5 (w0:=⟨w,I⟩) (μ:=μ) (hp0:=(bN (A.sin f) ds).hp) (B:=w.heap.size) (M:=qD P w μ (bN (A.sin f) ds).hp) hC hP pr hm kF c h1 ?_ ?_
    ·refine Inv.enter lS ?_ hm kF fun p hp=>by
      simp only[bN,mk,je]
      rw[List.getElem?_eq_none_iff,I7]
      exact hp
     refine ⟨I,μ,⟨hH,fun _ _ _=>rfl,aw _,fun b j h=> .inl h,⟨rfl,rfl⟩⟩,⟨fun k=> ?_,?_,by simp,hgl⟩,(Le.refl (P:=P) w I μ _).z8⟩
     ·change aj P w I μ _ _ (ky (gh (A.sin f).b6 ds) k)
      unfold ky
      rw[Oy lQ]
      simp only[na,jO,Nat.sub_zero]
      cases hk:(gz ((A.sin f).b6.map (·.2)) ds)[k]? with
      | none=>exact .undef
      | some x=>
       have nu:k<vals.length:=by
        have:=(bO.1 hk).1
        rw[Oz,bX] at this
        rw[hl];exact this
       have:=hv k vals[k] x (bU nu) hk
       have e1:(vals.toArray++Array.replicate (fn.ntmps-vals.toArray.size) undef).getD k undef=vals[k]:=by
        simp[Array.getElem?_append,nu]
       rw[Option.getD_some]
       exact e1▸this
     ·simp
      omega
    ·intro a' w' hI
     obtain ⟨v,I2,cP,q1,q2,q3,q4⟩:=aia hm kF hI Ae bG NZ
     obtain ⟨_,_,_,hA,_⟩:=hI
     cases out with
     | exit id=>exact absurd rfl (ct id)
     | norm=>exact Oh hP q1 ⟨v,I2,cP,rfl,q2,q3,q4⟩ _ hA.defers
     | ret=>exact Oh hP q1 ⟨v,I2,cP,rfl,q2,q3,q4⟩ _ hA.defers
theorem X6 (hP:j4 P A) (pr:P.follows .mixedOrders=true): ∀n,mF P A (lG P A n)
 | 0=>fun _ _ _ h=>by cases h
 | n+1=>aib (X6 hP pr n) hP pr
theorem aid (hP:j4 P A) (pr:P.follows .mixedOrders=true):mF P A (Call P A):=by
 intro f ds es h
 have hn: ∃n,lG P A n f ds=some es:=by
  unfold Call at h
  split at h
  ·rename_i hex
   have:=hex.choose_spec.choose_spec
   rw[dD h] at this
   exact ⟨_,this⟩
  ·cases h
 obtain ⟨n,hn⟩:=hn
 exact X6 hP pr n f ds es hn
end
section
variable {P:Program} {A:dg} {C:ab} {D:Nat→ab}
def Dw (C:ab) (D:Nat→ab):Prop:= ∀f a r,C f a=some r→∃n,∀k,n≤k→D k f a=some r
theorem rY {α:Type} (h:Dw C D) {hp:Nat→Option ah}: ∀{p:Rd α} {r:α × List Nat},p.run C hp=some r→∃n,∀k,n≤k→p.run (D k) hp=some r
 | .ret a,r,e=>⟨0,fun _ _=>e⟩
 | .fail,r,e=>by cases e
 | .get id q,r,e=>by
  obtain ⟨x,h1,h2⟩:=bind_some e
  obtain ⟨n,hn⟩:=rY h h1
  exact ⟨n,fun k hk=>by simp only[Rd.run,hn k hk,Option.bind_some];exact h2⟩
 | .opt o q,r,e=>by
  obtain ⟨x,h1,h2⟩:=bind_some e
  obtain ⟨n,hn⟩:=rY h h2
  exact ⟨n,fun k hk=>by simp only[Rd.run,h1,Option.bind_some];exact hn k hk⟩
 | .live id ok q,r,e=>by
  simp only[Rd.run] at e
  cases hk:ok (ib (hp id)) with
  | false=>rw[hk] at e;cases e
  | true=>
   rw[hk] at e
   obtain ⟨x,h1,h2⟩:=bind_some e
   obtain ⟨n,hn⟩:=rY h h1
   exact ⟨n,fun k rX=>by simp only[Rd.run,hk,cond_true,hn k rX,Option.bind_some];exact h2⟩
 | .aR b q,r,e=>by
  obtain ⟨h1,h2⟩:=a8 e
  obtain ⟨n,hn⟩:=rY h h2
  exact ⟨n,fun k hk=>by simp only[Rd.run,h1,cond_true];exact hn k hk⟩
 | .call f a q,r,e=>by
  obtain ⟨x,h1,h2⟩:=bind_some e
  obtain ⟨n1,lQ⟩:=h f a x h1
  obtain ⟨n2,Ae⟩:=rY h h2
  exact ⟨max n1 n2,fun k hk=>by simp only[Rd.run,lQ k (by omega),Option.bind_some];exact Ae k (by omega)⟩
 | .alt true x y,r,e=>rY (p:=x) h e
 | .alt false x y,r,e=>rY (p:=y) h e
theorem aie (h:Dw C D) {n i nb:Nat} {ops:Array Oper} {o:Oper} {st:St} {r:St × List Nat × List Nat} (e:iY P A C n ops i o nb st=some r): ∃N,∀k,N≤k→iY P A (D k) n ops i o nb st=some r:=by
 unfold iY at e
 have go:(((gA P A st.sl i (nb+64*i) o).run C st.hp).bind fun r=>some ((⟨jr st.sl o.dst r.1.v,cj st.hp r.1.upd,st.nb⟩:St),sZ r.2 r.1.upd,gO st.hp r.1.upd))=some r→
   ∃N,∀k,N≤k→(((gA P A st.sl i (nb+64*i) o).run (D k) st.hp).bind fun r=>some ((⟨jr st.sl o.dst r.1.v,cj st.hp r.1.upd,st.nb⟩:St),sZ r.2 r.1.upd,gO st.hp r.1.upd))=some r:=by
  intro e
  obtain ⟨x,h1,h2⟩:=bind_some e
  obtain ⟨N,hN⟩:=rY h h1
  exact ⟨N,fun k hk=>by rw[hN k hk];exact h2⟩
 unfold iY
 cases hd:uY o n with
 | false=>rw[hd] at e;cases e
 | true=>
  rw[hd] at e
  simp only[cond_true] at e⊢
  cases hg:o.guard with
  | none=>rw[hg] at e;exact go e
  | some gw=>
   obtain ⟨g,want⟩:=gw
   rw[hg] at e
   simp only at e⊢
   cases ny:(ops[g]?).bind (·.dst) with
   | none=>rw[ny] at e;cases e
   | some d=>
    rw[ny] at e
    simp only at e⊢
    cases oz:ng (st.sl d) with
    | none=>rw[oz] at e;cases e
    | some ob=>
    rw[oz] at e
    cases ob with
    | none=>exact ⟨0,fun _ _=>e⟩
    | some b=>
    simp only at e⊢
    cases hb:b==want with
    | true=>rw[hb] at e;exact go e
    | false=>rw[hb] at e;exact ⟨0,fun _ _=>e⟩
theorem X7 (h:Dw C D) {n nb:Nat} {ops:Array Oper}: ∀{l:List (Nat × Oper)} {st:St} {log:Log} {r:St × Log},rH P A C n ops nb l st log=some r→∃N,∀k,N≤k→rH P A (D k) n ops nb l st log=some r
 | [],st,log,r,e=>⟨0,fun _ _=>e⟩
 | (i,o)::l,st,log,r,e=>by
  obtain ⟨x,h1,h2⟩:=bind_some e
  obtain ⟨N1,qI⟩:=aie h h1
  obtain ⟨N2,tB⟩:=X7 h h2
  exact ⟨max N1 N2,fun k hk=>by simp only[rH,qI k (by omega),Option.bind_some];exact tB k (by omega)⟩
theorem X8 {X R:Type} {step:X→Option (X ⊕ R)} {stepD:Nat→X→Option (X ⊕ R)} (hs: ∀x y,step x=some y→∃N,∀k,N≤k→stepD k x=some y): ∀(n:Nat) (x:X) (r:R),fD step n x=some r→∃N,∀k,N≤k→fD (stepD k) n x=some r
 | 0,x,r,e=>by cases e
 | n+1,x,r,e=>by
  simp only[fD] at e⊢
  obtain ⟨y,h1,h2⟩:=bind_some e
  obtain ⟨N1,qI⟩:=hs x y h1
  cases y with
  | inl z=>
   obtain ⟨N2,tB⟩:=X8 hs n z r h2
   exact ⟨max N1 N2,fun k hk=>by rw[qI k (by omega)];exact tB k (by omega)⟩
  | inr q=>exact ⟨N1,fun k hk=>by rw[qI k hk];exact h2⟩
theorem aif (h:Dw C D) {f n m:Nat}: ∀(c:Code) {st:St} {r:Out × St},exec P A C f n m c st=some r→∃N,∀k,N≤k→exec P A (D k) f n m c st=some r:=by
 intro c
 induction c with
 | skip=>exact fun e=>⟨0,fun _ _=>e⟩
 | exit id=>exact fun e=>⟨0,fun _ _=>e⟩
 | ret=>exact fun e=>⟨0,fun _ _=>e⟩
 | region id ops draw=>
  intro st r e
  simp only[exec] at e⊢
  obtain ⟨x,h1,h2⟩:=bind_some e
  obtain ⟨y,h3,h4⟩:=bind_some h1
  obtain ⟨N,hN⟩:=X7 h h3
  refine ⟨N,fun k hk=> ?_⟩
  have:zB P (A.here f id) (D k) n ops draw st=some x:=by
   unfold zB
   rw[hN k hk]
   exact h4
  rw[this]
  exact h2
 | seq x y gP gQ=>
  intro st r e
  simp only[exec] at e⊢
  obtain ⟨⟨o,s1⟩,h1,h2⟩:=bind_some e
  obtain ⟨N1,qI⟩:=gP h1
  cases o with
  | norm=>
   obtain ⟨N2,tB⟩:=gQ h2
   exact ⟨max N1 N2,fun k hk=>by rw[qI k (by omega)];exact tB k (by omega)⟩
  | exit id=>exact ⟨N1,fun k hk=>by rw[qI k hk];exact h2⟩
  | ret=>exact ⟨N1,fun k hk=>by rw[qI k hk];exact h2⟩
 | cond c x y gP gQ=>
  intro st r e
  cases c with
  | tmp t=>
   have go: ∀{st:St} {r:Out × St},(match st.sl t with
     | .bool b=>(bif b then exec P A C f n m x st else exec P A C f n m y st).bind fun r=>
      match r.1 with
      | .norm=>some (.norm,canon m (A.join f t) r.2)
      | _=>some r
     | _=>none)=some r→∃N,∀k,N≤k→(match st.sl t with
     | .bool b=>(bif b then exec P A (D k) f n m x st else exec P A (D k) f n m y st).bind fun r=>
      match r.1 with
      | .norm=>some (.norm,canon m (A.join f t) r.2)
      | _=>some r
     | _=>none)=some r:=by
    intro st r e
    cases hs:st.sl t<;>rw[hs] at e<;>simp only at e⊢ <;>first|(cases e;done)|skip
    rename_i b
    obtain ⟨x1,h1,h2⟩:=bind_some e
    cases b with
    | true=>
     obtain ⟨N,hN⟩:=gP h1
     exact ⟨N,fun k hk=>by simp only[cond_true,hN k hk,Option.bind_some];exact h2⟩
    | false=>
     obtain ⟨N,hN⟩:=gQ h1
     exact ⟨N,fun k hk=>by simp only[cond_false,hN k hk,Option.bind_some];exact h2⟩
   simp only[exec] at e⊢
   split at e
   ·rename_i hS
    obtain ⟨N,hN⟩:=go e
    exact ⟨N,fun k hk=>hN k hk⟩
   ·rename_i S hS
    obtain ⟨ds,h1,h2⟩:=bind_some e
    obtain ⟨e',h3,h4⟩:=bind_some h2
    obtain ⟨r1,h5,h6⟩:=bind_some h3
    obtain ⟨N,hN⟩:=go h5
    refine ⟨N,fun k hk=> ?_⟩
    try rw[hS]
    simp only[h1,Option.bind_some]
    exact (congrArg (fun z:Option (Out × St)=>(z.bind fun r=>ways m 0 S.2 r).bind fun e=>lF 0 S.2 e.1 e.2 fun o st=>some (o,st)) (hN k hk)).trans (by simp only[Option.bind_some,h6];exact h4)
  | const v=>
   cases v with
   | bool b=>
    simp only[exec] at e⊢
    cases b with
    | true=>exact gP e
    | false=>exact gQ e
   | _=>simp only[exec] at e;cases e
  | _=>simp only[exec] at e;cases e
 | block id c ih=>
  intro st r e
  simp only[exec] at e⊢
  obtain ⟨x1,h1,h2⟩:=bind_some e
  obtain ⟨N,hN⟩:=ih h1
  exact ⟨N,fun k hk=>by rw[hN k hk];exact h2⟩
 | loop c ih=>
  intro st r e
  simp only[exec] at e⊢
  split at e
  ·cases e
  ·rename_i S hS
   obtain ⟨ds,h1,h2⟩:=bind_some e
   obtain ⟨e',h3,h4⟩:=bind_some h2
   obtain ⟨q,hq⟩:=zm h3
   obtain ⟨N,hN⟩:=X8 (stepD:=fun k ds=>mq m S.1 S.2 (exec P A (D k) f n m c (bN S.1 ds))) (fun x y Dx=>by
    unfold mq at Dx⊢
    obtain ⟨z,h5,h6⟩:=bind_some Dx
    obtain ⟨N,hN⟩:=ih h5
    exact ⟨N,fun k hk=>by rw[hN k hk];exact h6⟩) q ds e' hq
   refine ⟨N,fun k hk=> ?_⟩
   try rw[hS]
   simp only[h1,Option.bind_some]
   rw[zl (hN k hk)]
   exact h4
 | _=>intro st r e;simp only[exec] at e;cases e
theorem I9 (h:Dw C D) {f:Nat} {ds es:List V} (e:qm P A C f ds=some es): ∃N,∀k,N≤k→qm P A (D k) f ds=some es:=by
 unfold qm at e⊢
 cases hf:P.funcs[A.ic f]? with
 | none=>rw[hf] at e;cases e
 | some fn=>
  rw[hf] at e
  simp only at e⊢
  cases hb:fn.body with
  | none=>rw[hb] at e;cases e
  | some c=>
   rw[hb] at e
   simp only at e⊢
   cases hc:(ju 0 (A.sin f).b6&&(Nat.ble (A.sin f).b6.length fn.ntmps&&((A.sin f).ok&&(ju 0 (A.gg f).b6&&(Nat.beq (A.gg f).b6.length fn.results.size&&qk (oh (A.sin f).cM.length (A.mv f))))))) with
   | false=>rw[hc] at e;cases e
   | true=>
    rw[hc] at e
    simp only[cond_true] at e⊢
    obtain ⟨⟨o,s1⟩,h1,h2⟩:=bind_some e
    obtain ⟨N1,qI⟩:=aif h c h1
    cases o with
    | exit id=>cases h2
    | norm=>
     simp only[BW] at h2
     obtain ⟨x,e1,e2⟩:=h2
     obtain ⟨N2,tB⟩:=rY h e1
     exact ⟨max N1 N2,fun k hk=>by rw[qI k (by omega)];simp only[Option.bind_some,tB k (by omega),Option.map_some,e2]⟩
    | ret=>
     simp only[BW] at h2
     obtain ⟨x,e1,e2⟩:=h2
     obtain ⟨N2,tB⟩:=rY h e1
     exact ⟨max N1 N2,fun k hk=>by rw[qI k (by omega)];simp only[Option.bind_some,tB k (by omega),Option.map_some,e2]⟩
theorem X9: ∀n f a r,lG P A n f a=some r→lG P A (n+1) f a=some r
 | 0,f,a,r,h=>by cases h
 | n+1,f,a,r,h=>by
  obtain ⟨N,hN⟩:=I9 (C:=lG P A n) (D:=fun _=>lG P A (n+1)) (fun f a r h=>⟨0,fun _ _=>X9 n f a r h⟩) h
  exact hN N (aw _)
theorem OA {n k:Nat} (hk:n≤k) {f:Nat} {a r:List V} (h:lG P A n f a=some r):lG P A k f a=some r:=by
 induction hk with
 | refl=>exact h
 | step _ ih=>exact X9 _ _ _ _ ih
theorem Dy {f:Nat} {a r:List V}:Call P A f a=some r↔∃n,lG P A n f a=some r:=by
 constructor
 ·intro h
  unfold Call at h
  split at h
  ·rename_i hex
   have:=hex.choose_spec.choose_spec
   rw[dD h] at this
   exact ⟨_,this⟩
  ·cases h
 ·rintro ⟨n,hn⟩
  have hex: ∃n r,lG P A n f a=some r:=⟨n,r,hn⟩
  unfold Call
  rw[qb hex]
  have h2:=hex.choose_spec.choose_spec
  have h3:=OA (Nat.le_max_left n hex.choose) hn
  have h4:=OA (Nat.le_max_right n hex.choose) h2
  rw[h3] at h4
  exact h4.symm
theorem aih (f:Nat) (a:List V):Call P A f a=qm P A (Call P A) f a:=by
 apply Option.ext
 intro r
 constructor
 ·intro h
  obtain ⟨n,hn⟩:=Dy.1 h
  cases n with
  | zero=>cases hn
  | succ n=>
   obtain ⟨N,hN⟩:=I9 (C:=lG P A n) (D:=fun _=>Call P A) (fun f a r h=>⟨0,fun _ _=>Dy.2 ⟨n,h⟩⟩) hn
   exact hN N (aw _)
 ·intro h
  obtain ⟨N,hN⟩:=I9 (C:=Call P A) (D:=lG P A) (fun f a r h=>by
   obtain ⟨n,hn⟩:=Dy.1 h
   exact ⟨n,fun k hk=>OA hk hn⟩) h
  exact Dy.2 ⟨N+1,hN N (aw _)⟩
end
end Go.AM
namespace Go.AM
open Go.ChangeShapes Go.WideShapes Go.RowKit
section
variable (P:Program)
inductive WT:TypeId→V→Prop
 | int {t:TypeId} {k:IntKind} {n:Int}:P.underlying t=some (.int k)→(Lit.int k n).wf=true→WT t (.int k n)
 | bool {t:TypeId} {b:Bool}:P.underlying t=some .bool→WT t (.bool b)
 | str {t:TypeId} {l:List UInt8}:P.underlying t=some .string→l.length≤maxLen→WT t (.str l)
 | list {t e:TypeId} {es:List V}:P.underlying t=some (.slice e)→es.length≤maxLen→
   (∀(i:Nat) x,es[i]? =some x→cb P e=true→∃xs,x= .agg xs∧xs.length=(bC P e).length)→
   (∀(i j:Nat) x t',es[i]? =some x→(bC P e)[j]? =some t'→WT t' (cl P e x j))→WT t (.list e es)
def iT (t:TypeId) (x:V):Prop:=
 (cb P t=true→∃xs,x= .agg xs∧xs.length=(bC P t).length)∧∀(j:Nat) t',(bC P t)[j]? =some t'→WT P t' (cl P t x j)
def sJ:List TypeId→List V→Prop
 | [],[]=>True
 | t::ts,x::xs=>iT P t x∧sJ ts xs
 | _,_=>False
def hasB (L:List TypeId) (t:TypeId):Bool:=L.any fun u=>Nat.beq u t
def Ja (L:List TypeId):Nat→List Field→Bool
 | _,[]=>true
 | n,f::fs=>hasB L f.type&&(Nat.beq f.offset n&&(Nat.beq (P.cellsOf f.type) (bC P f.type).length&&Ja L (n+P.cellsOf f.type) fs))
def Dz:List Nat→List Nat→Bool
 | [],[]=>true
 | a::l,b::m=>Nat.beq a b&&Dz l m
 | _,_=>false
def OB (L:List TypeId) (t:TypeId):Bool:=
 Nat.beq (P.cellsOf t) (bC P t).length&&
 match P.underlying t with
 | some (.int _)=>true
 | some .bool=>true
 | some .string=>true
 | some (.slice e)=>hasB L e&&dy P e
 | some (.struct fs)=>Ja P L 0 fs.toList&&Dz (flat P t) (fs.toList.flatMap fun f=>bC P f.type)
 | some (.array n e)=>hasB L e&&(Nat.beq (P.cellsOf e) (bC P e).length&&Dz (flat P t) (List.replicate n (bC P e)).flatten)
 | _=>false
def DA (L:List TypeId):Bool:=L.all fun t=>OB P L t
end
theorem Jb {L:List TypeId} {t:TypeId} (h:hasB L t=true):t∈L:=by
 obtain ⟨u,hu,h2⟩:=sN.1 h
 rw[bB] at h2
 exact h2▸hu
theorem OC: ∀{l m:List Nat},Dz l m=true→l=m
 | [],[],_=>rfl
 | a::l,b::m,h=>by
  simp only[Dz,bn,bB] at h
  rw[h.1,OC h.2]
 | [],_::_,h=>by cases h
 | _::_,[],h=>by cases h
section
variable {P:Program} {H:Type} {enc:TypeId × Value→H} {w:World} {base:Nat} {spare:Nat→Bool} {held:Bool} {L:List TypeId}
def nA (w:World):Nat→Nat→Prop:=fun b _=>b<w.heap.size
def pt (P:Program) (w:World) (ts:List TypeId) (cs:List Value) (xs:List V):Prop:=
 cs.length=ts.length∧xs.length=ts.length∧∀(j:Nat) t',ts[j]? =some t'→∃v y,cs[j]? =some v∧xs[j]? =some y∧Pure P w (nA w) t' v y∧WT P t' y
theorem pt.app {ts zx:List TypeId} {cs jz:List Value} {xs Ya:List V} (h:pt P w ts cs xs) (h':pt P w zx jz Ya):pt P w (ts++zx) (cs++jz) (xs++Ya):=by
 obtain ⟨a,b,c⟩:=h
 obtain ⟨a',b',c'⟩:=h'
 refine ⟨by simp[a,a'],by simp[b,b'],fun j t' hj=> ?_⟩
 by_cases bx:j<ts.length
 ·rw[kj bx] at hj
  obtain ⟨v,y,e1,e2,e3⟩:=c j t' hj
  exact ⟨v,y,by rw[kj (by omega)];exact e1,by rw[kj (by omega)];exact e2,e3⟩
 ·rw[kR (by omega)] at hj
  obtain ⟨v,y,e1,e2,e3⟩:=c' _ t' hj
  exact ⟨v,y,by rw[kR (by omega),a];exact e1,by rw[kR (by omega),b];exact e2,e3⟩
theorem aii {w:World} {a:Addr} {v:Value} (h:w.cell? a=some v):a.spot=none∧a.block<w.heap.size:=by
 unfold World.cell? at h
 split at h
 ·rename_i hh
  split at h
  ·cases h
  ·rename_i hs
   exact ⟨by simpa using hs,(jl.1 hh).1⟩
 all_goals (first|cases h|skip)
theorem Yb {rd:TypeId→List Value→Option (DataW H × List MemPlace)} (cs:List Value)
  (ih: ∀t cs x,t∈L→rd t cs=some x→∃xs,pt P w (bC P t) cs xs): ∀(fs:List Field) (n:Nat),Ja P L n fs=true→
  (∀f∈fs,∃x,rd f.type ((cs.drop f.offset).take (P.cellsOf f.type))=some x)→∃m xs,n≤m∧pt P w (fs.flatMap fun f=>bC P f.type) ((cs.drop n).take (m-n)) xs∧m-n=(fs.flatMap fun f=>bC P f.type).length
 | [],n,_,_=>⟨n,[],aw _,⟨by simp,rfl,by simp⟩,by simp⟩
 | f::fs,n,h,hx=>by
  simp only[Ja,bn,bB] at h
  obtain ⟨h1,h2,h3,h4⟩:=h
  obtain ⟨x,hxf⟩:=hx f (by simp)
  obtain ⟨xs,iG⟩:=ih _ _ _ (Jb h1) hxf
  obtain ⟨m,ys,hm,tC,vm⟩:=Yb cs ih fs (n+P.cellsOf f.type) h4 fun g hg=>hx g (by simp[hg])
  refine ⟨m,xs++ys,by omega,?_,by simp only[uG,cX];omega⟩
  have:=iG.app tC
  rw[uG]
  rw[h2] at this
  have e:(cs.drop n).take (m-n)=(cs.drop n).take (P.cellsOf f.type)++(cs.drop (n+P.cellsOf f.type)).take (m-(n+P.cellsOf f.type)):=by
   rw[show m-n=P.cellsOf f.type+(m-(n+P.cellsOf f.type)) by omega,List.take_add,List.drop_drop]
  rw[e]
  exact this
theorem Yc {rd:List Value→Option (DataW H × List MemPlace)} (cs:List Value) {e:TypeId} (hs:P.cellsOf e=(bC P e).length)
  (ih: ∀cs x,rd cs=some x→∃xs,pt P w (bC P e) cs xs): ∀(n:Nat),
  (∀i,i<n→∃x,rd ((cs.drop (i*P.cellsOf e)).take (P.cellsOf e))=some x)→∃xs,pt P w (List.replicate n (bC P e)).flatten (cs.take (n*P.cellsOf e)) xs
 | 0,_=>⟨[],by simp,rfl,by simp⟩
 | n+1,hx=>by
  obtain ⟨xs,iG⟩:=Yc cs hs ih n fun i hi=>hx i (by omega)
  obtain ⟨x,Dp⟩:=hx n (by omega)
  obtain ⟨ys,tC⟩:=ih _ _ Dp
  refine ⟨xs++ys,?_⟩
  rw[List.replicate_succ',List.flatten_append]
  have:=iG.app tC
  rw[eC,Nat.one_mul,List.take_add]
  simpa using this
theorem Jc (hL:DA P L=true): ∀(fuel:Nat) (t:TypeId) (cs:List Value) (x:DataW H × List MemPlace),t∈L→DataW.trod enc P w base spare held fuel t cs=some x→
  ∃xs,pt P w (bC P t) cs xs
 | 0,_,_,_,_,h=>by cases h
 | fuel+1,t,cs,x,ht,h=>by
  have hg:=gv.1 hL t ht
  unfold OB at hg
  rw[bn,bB] at hg
  obtain ⟨hc,hg⟩:=hg
  have one:cb P t=false→bC P t=[t]:=fun h=>by simp[bC,h]
  cases hu:P.underlying t with
  | none=>rw[hu] at hg;cases hg
  | some d=>
   rw[hu] at hg
   cases d with
   | int k=>
    obtain ⟨n,rfl,rfl,hwf⟩:=DataW.trod_int hu h
    rw[one (by simp[cb,hu])]
    exact ⟨[.int k n],rfl,rfl,fun j t' hj=>by
     cases j with
     | zero=>cases hj;exact ⟨_,_,rfl,rfl,.int hu,.int hu hwf⟩
     | succ j=>simp at hj⟩
   | bool=>
    obtain ⟨b,rfl,rfl⟩:=DataW.trod_bool hu h
    rw[one (by simp[cb,hu])]
    exact ⟨[.bool b],rfl,rfl,fun j t' hj=>by
     cases j with
     | zero=>cases hj;exact ⟨_,_,rfl,rfl,.bool hu,.bool hu⟩
     | succ j=>simp at hj⟩
   | string=>
    obtain ⟨s,rfl,rfl,hl⟩:=DataW.trod_string hu h
    rw[one (by simp[cb,hu])]
    exact ⟨[.str s.data.toList],rfl,rfl,fun j t' hj=>by
     cases j with
     | zero=>cases hj;exact ⟨_,_,rfl,rfl,.str hu rfl,.str hu (by simpa using hl)⟩
     | succ j=>simp at hj⟩
   | slice e=>
    simp only[bn] at hg
    obtain ⟨he,az⟩:=hg
    rw[one (by simp[cb,hu])]
    have single: ∀v y,cs=[v]→Pure P w (nA w) t v y→WT P t y→∃xs,pt P w [t] cs xs:=by
     rintro v y rfl a b
     exact ⟨[y],rfl,rfl,fun j t' hj=>by
      cases j with
      | zero=>cases hj;exact ⟨_,_,rfl,rfl,a,b⟩
      | succ j=>simp at hj⟩
    rcases DataW.trod_slice hu h with ⟨rfl,rfl⟩|⟨a,len,cap,elems,rest,n,hn,rfl,rfl,hb,hl,hm,hlen,dA,_,_⟩
    ·exact single _ _ rfl (.nil hu) (.list hu (by simp) (by simp) (by simp))
    ·cases hn
     have lP:=(mw az).2
     have Wa:P.cellsOf e=(bC P e).length:=(gi az).symm
     have key: ∀i,i<len→∃jz xs,w.cells? base (a.add (i*P.cellsOf e)) (P.cellsOf e)=some jz∧pt P w (bC P e) jz xs:=by
      intro i hi
      have h1:=dA i hi
      rw[bU (by omega)] at h1
      obtain ⟨jz,h2,h3⟩:=Option.bind_eq_some_iff.1 h1
      obtain ⟨xs,iG⟩:=Jc hL fuel e jz _ (Jb he) h3
      exact ⟨jz,xs,h2,iG⟩
     by_cases h0:len=0
     ·subst h0
      exact single _ _ rfl (.emp hu) (.list hu (by simp) (by simp) (by simp))
     ·have mD:a.spot=none∧a.block<w.heap.size:=by
       obtain ⟨jz,xs,h2,_⟩:=key 0 (by omega)
       obtain ⟨_,h3,h4⟩:=World.cells?_some h2
       have h5:=h4 0 lP
       rw[bU (by omega)] at h5
       have:=aii h5
       simpa[Addr.add] using this
      have hF: ∃(F:Nat→List Value) (X:Nat→List V),∀i,i<len→w.cells? base (a.add (i*P.cellsOf e)) (P.cellsOf e)=some (F i)∧pt P w (bC P e) (F i) (X i):=by
       refine ⟨fun i=>if hi:i<len then (key i hi).choose else [],fun i=>if hi:i<len then (key i hi).choose_spec.choose else [],fun i hi=> ?_⟩
       simp only[qb hi]
       exact (key i hi).choose_spec.choose_spec
      obtain ⟨F,X,OD⟩:=hF
      have hx: ∀(i j:Nat) y t',((List.range len).map fun i=>dd P e (X i))[i]? =some y→(bC P e)[j]? =some t'→i<len∧∃v,(F i)[j]? =some v∧Pure P w (nA w) t' v (cl P e y j)∧WT P t' (cl P e y j):=by
       intro i j y t' hy hj
       have hi:i<len:=by
        have:=(bO.1 hy).1
        simpa using this
       refine ⟨hi,?_⟩
       simp[BX hi] at hy
       obtain ⟨c1,c2,c3⟩:=(OD i hi).2
       obtain ⟨v,z,d1,d2,d3,d4⟩:=c3 j t' hj
       have:cl P e y j=z:=by
        rw[←hy]
        unfold cl dd
        cases ha:cb P e with
        | true=>
         simp only[cond_true,V.cell]
         rw[wV _ _ _ d2]
        | false=>
         simp only[cond_false]
         have:bC P e=[e]:=by simp[bC,ha]
         rw[this] at hj
         cases j with
         | zero=>rw[wV _ _ _ d2]
         | succ j=>simp at hj
       rw[this]
       exact ⟨v,d1,d3,d4⟩
      have ij: ∀i j,i<len→j<P.cellsOf e→w.cell? ⟨a.block,a.off+(i*P.cellsOf e+j),none⟩=some ((F i).getD j undef):=by
       intro i j hi hj
       obtain ⟨h1,h2⟩:=OD i hi
       obtain ⟨_,h3,h4⟩:=World.cells?_some h1
       have h5:=h4 j hj
       rw[Go.Deep.add_add] at h5
       have e1:a.add (i*P.cellsOf e+j)=⟨a.block,a.off+(i*P.cellsOf e+j),none⟩:=by
        obtain ⟨b,o,s⟩:=a
        simp only at mD
        rw[mD.1]
        exact pg ..
       rw[e1] at h5
       rw[h5,o4,bU (by omega)]
       rfl
      have ha:a=⟨a.block,a.off,none⟩:=by
       obtain ⟨b,o,s⟩:=a
       simp only at mD
       rw[mD.1]
      refine single (.slice (some a) len cap) (.list e ((List.range len).map fun i=>dd P e (X i))) rfl ?_ ?_
      ·rw[ha]
       refine .list (fun i j=>(F i).getD j undef) hu (by simp) hl (fun _ _=>mD.2) ij ?_
       intro i j y t' hy hj
       obtain ⟨hi,v,d1,d2,_⟩:=hx i j y t' hy hj
       rw[o4,d1]
       exact d2
      ·refine .list hu (by simp;omega) ?_ ?_
       ·intro i y hy Jd
        have hi:i<len:=by
         have:=(bO.1 hy).1
         simpa using this
        simp[BX hi] at hy
        rw[←hy]
        exact ⟨X i,by simp[dd,Jd],(OD i hi).2.2.1⟩
       ·intro i j y t' hy hj
        obtain ⟨_,v,_,_,d3⟩:=hx i j y t' hy hj
        exact d3
   | struct fs=>
    simp only[bn] at hg
    obtain ⟨xs,n,hn,rfl,hlen,lR,hx⟩:=DataW.trod_struct hu h
    cases hn
    have het:bC P t=fs.toList.flatMap fun f=>bC P f.type:=by
     rw[←OC hg.2]
     simp[bC,cb,hu]
    obtain ⟨m,ys,_,tC,hm⟩:=Yb (w:=w) (rd:=fun t cs=>DataW.trod enc P w base spare held fuel t cs) cs (fun t cs x a b=>Jc hL fuel t cs x a b) fs.toList 0 hg.1 (by
     intro f hf
     obtain ⟨i,hi⟩:=uD hf
     rw[ry] at hi
     have tp:i<fs.size:=(jl.1 hi).1
     exact ⟨_,(hx i f hi).trans (bU (by omega))⟩)
    rw[het]
    refine ⟨ys,?_⟩
    have:(cs.drop 0).take (m-0)=cs:=by
     rw[hZ,hm,←het,←hc,←hlen,oa]
    rw[this] at tC
    exact tC
   | array n e=>
    simp only[bn,bB] at hg
    obtain ⟨xs,m,hn,rfl,hlen,lR,hx⟩:=DataW.trod_array hu h
    cases hn
    have het:bC P t=(List.replicate n (bC P e)).flatten:=by
     rw[←OC hg.2.2]
     simp[bC,cb,hu]
    obtain ⟨ys,tC⟩:=Yc (w:=w) (rd:=DataW.trod enc P w base spare held fuel e) cs hg.2.1 (fun cs x b=>Jc hL fuel e cs x (Jb hg.1) b) n (by
     intro i hi
     exact ⟨_,(hx i hi).trans (bU (by omega))⟩)
    rw[het]
    refine ⟨ys,?_⟩
    have:cs.take (n*P.cellsOf e)=cs:=by
     have:n*P.cellsOf e=cs.length:=by
      rw[hlen,hc,het,hg.2.1]
      simp
     rw[this,oa]
    rw[this] at tC
    exact tC
   | _=>cases hg
end
section
variable {P:Program} {H:Type} {enc:TypeId × Value→H} {w:World} {L:List TypeId}
theorem aij {base OE:Nat} {spare:Nat→Bool} {held:Bool} {r:Reach} {β:Nat→Option Nat} {hp:Nat→Option ah} (hL:DA P L=true) {t:TypeId} {v:Value} {d:DataW H} {ps:List MemPlace} (ht:t∈L) (fW:Value.okWide P w r OE t v)
  (h:DataW.Trod enc P w base spare held t v d ps): ∃x,aj P w (nA w) β hp v x∧iT P t x:=by
 obtain ⟨fuel,hf⟩:=h
 obtain ⟨xs,c1,c2,c3⟩:=Jc hL fuel t _ _ ht hf
 have hg:=gv.1 hL t ht
 unfold OB at hg
 rw[bn,bB] at hg
 obtain ⟨_,hg⟩:=hg
 have Jd:cb P t=true→∃x,aj P w (nA w) β hp v x∧iT P t x:=by
  intro ha
  have hv: ∃cs,v= .agg cs:=by
   unfold Value.okWide at fW
   unfold cb at ha
   split at fW
   ·obtain ⟨cs,e,_⟩:=fW;exact ⟨cs,e⟩
   ·obtain ⟨cs,e,_⟩:=fW;exact ⟨cs,e⟩
   ·split at ha<;>simp_all
  obtain ⟨cs,rfl⟩:=hv
  refine ⟨.agg xs,.agg (by simpa[Value.cells] using c1.trans c2.symm) fun j v x hv hx=> ?_,fun _=>⟨xs,rfl,c2⟩,fun j t' hj=> ?_⟩
  ·have hj:j<(bC P t).length:=by rw[←c2];exact (bO.1 hx).1
   obtain ⟨v',y,e1,e2,e3,_⟩:=c3 j _ (bU hj)
   rw[hx] at e2
   cases e2
   have:cs[j]? =some v':=by simpa[Value.cells] using e1
   rw[hv] at this
   cases this
   exact .s7 e3
  ·obtain ⟨v',y,e1,e2,_,e4⟩:=c3 j t' hj
   have:cl P t (.agg xs) j=y:=by
    simp only[cl,ha,cond_true,V.cell]
    exact wV _ _ _ e2
   rw[this]
   exact e4
 have tk:cb P t=false→v.cells= #[v]→∃x,aj P w (nA w) β hp v x∧iT P t x:=by
  intro ha w6
  have he:bC P t=[t]:=by simp[bC,ha]
  rw[he] at c1 c2 c3
  obtain ⟨v',y,e1,e2,e3,e4⟩:=c3 0 t rfl
  rw[w6] at e1
  cases e1
  refine ⟨y,.s7 e3,⟨fun h=>absurd (ha.symm.trans h) (by simp),fun j t' hj=> ?_⟩⟩
  rw[he] at hj
  cases j with
  | succ j=>simp at hj
  | zero=>
   cases hj
   simpa[cl,ha] using e4
 unfold Value.okWide at fW
 cases hu:P.underlying t with
 | none=>rw[hu] at hg;cases hg
 | some dsc=>
  rw[hu] at hg fW
  cases dsc with
  | int k=>
   refine tk (by simp[cb,hu]) ?_
   simp only[Cell.okWide,Cell.ok,hu] at fW
   cases v<;>first|rfl|(simp at fW;done)|exact fW.elim
  | bool=>
   refine tk (by simp[cb,hu]) ?_
   simp only[Cell.okWide,Cell.ok,hu] at fW
   cases v<;>first|rfl|(simp at fW;done)|exact fW.elim
  | string=>
   refine tk (by simp[cb,hu]) ?_
   simp only[Cell.okWide,Cell.ok,hu] at fW
   cases v<;>first|rfl|(simp at fW;done)|exact fW.elim
  | slice e=>
   refine tk (by simp[cb,hu]) ?_
   simp only[Cell.okWide,Cell.ok,hu] at fW
   cases v<;>first|rfl|(simp at fW;done)|exact fW.elim
  | struct fs=>exact Jd (by simp[cb,hu])
  | array n e=>exact Jd (by simp[cb,hu])
  | _=>cases hg
theorem Yd {base OE:Nat} {spare:Nat→Bool} {held:Bool} {r:Reach} {β:Nat→Option Nat} {hp:Nat→Option ah} (hL:DA P L=true): ∀{ts:List TypeId} {vs:List Value} {ds:List (DataW H)} {ps:List MemPlace},
  (∀t∈ts,t∈L)→(∀(j:Nat) t v,ts[j]? =some t→vs[j]? =some v→Value.okWide P w r OE t v)→DataW.TrodAll enc P w base spare held ts vs ds ps→
  ∃xs,vs.length=xs.length∧(∀(j:Nat) v x,vs[j]? =some v→xs[j]? =some x→aj P w (nA w) β hp v x)∧sJ P ts xs
 | [],vs,ds,ps,_,_,h=>by
  obtain ⟨rfl,rfl,rfl⟩:=trodAll_nil h
  exact ⟨[],rfl,by simp,trivial⟩
 | t::ts,vs,ds,ps,hm,fW,h=>by
  obtain ⟨v,HT,d,Ye,a,b,rfl,rfl,rfl,h1,h2⟩:=trodAll_cons h
  obtain ⟨x,Dp,pj⟩:=aij (β:=β) (hp:=hp) hL (hm t (by simp)) (fW 0 t v rfl rfl) h1
  obtain ⟨xs,hl,hr,hw⟩:=Yd (β:=β) (hp:=hp) hL (fun t ht=>hm t (by simp[ht])) (fun j t v a b=>fW (j+1) t v (by simpa using a) (by simpa using b)) h2
  refine ⟨x::xs,by simp[hl],fun j v' x' hv hx=> ?_,pj,hw⟩
  cases j with
  | zero=>cases hv;cases hx;exact Dp
  | succ j=>exact hr j v' x' (by simpa using hv) (by simpa using hx)
theorem Yf {base:Nat} {spare:Nat→Bool} {held:Bool}: ∀{ts:List TypeId} {vs:List Value} {ds:List (DataW H)} {ps:List MemPlace},DataW.TrodAll enc P w base spare held ts vs ds ps→ds.length=ts.length
 | [],vs,ds,ps,h=>by obtain ⟨rfl,rfl,rfl⟩:=trodAll_nil h;rfl
 | t::ts,vs,ds,ps,h=>by
  obtain ⟨v,HT,d,Ye,a,b,rfl,rfl,rfl,h1,h2⟩:=trodAll_cons h
  simp[Yf h2]
theorem Yg {base:Nat} (hl:laidOutB P=true) {W W':World} {Yh:Nat→Bool}: ∀{ts:List TypeId} {vs:List Value} {ds:List (DataW H)} {ps:List MemPlace},(∀t∈ts,P.readableRec t=true∧t<P.types.size)→
  DataW.TrodAll enc P W base (fun _=>true) true ts vs ds ps→(∀p∈ps,W.sameAt W' p)→(∀p∈ps,Yh p.block=true)→DataW.TrodAll enc P W' base Yh true ts vs ds ps
 | [],vs,ds,ps,_,h,_,_=>by obtain ⟨rfl,rfl,rfl⟩:=trodAll_nil h;exact trodAll_mk0
 | t::ts,vs,ds,ps,hr,h,h1,h2=>by
  obtain ⟨v,HT,d,Ye,a,b,rfl,rfl,rfl,h3,h4⟩:=trodAll_cons h
  obtain ⟨r1,r2⟩:=hr t (by simp)
  exact trodAll_cons_mk (WideElems.Trod_stays hl r1 r2 h3 (fun p hp=>h1 p (by simp[hp])) (fun p hp=>h2 p (by simp[hp])))
   (Yg hl (fun t ht=>hr t (by simp[ht])) h4 (fun p hp=>h1 p (by simp[hp])) (fun p hp=>h2 p (by simp[hp])))
theorem aik {f:Func} {s:ChangeSpec} {apart fresh handsOn again:Bool} {W W':World} {args:Array Value} {v:Value} {ds gs:List (DataW H)} {before pa pv:List MemPlace}
  (hW:DataW.Whole enc P f.params.toList s.vars apart W args.toList ds gs before)
  (Yi: ∀(b:Nat) (sp:Nat→Bool) (hd:Bool),DataW.TrodAll enc P W' b sp hd f.resultTypes.toList (v.resultList f.resultTypes.size) (s.fn H (ds++gs)).results [])
  (xl: ∀sp:Nat→Bool,(∀p∈before,sp p.block=true)→DataW.TrodAll enc P W' 0 sp true f.params.toList args.toList (s.fn H (ds++gs)).args pa)
  (Yj: ∀sp:Nat→Bool,(∀p∈before,sp p.block=true)→DataW.TrodVars enc P W' sp s.vars (s.fn H (ds++gs)).vars pv)
  (Je:before=pa++pv) (hk:W.keptBut W' (· ∈before)) (Yk: ∀a:Addr,a.block<W.heap.size→W'.frozen? a=W.frozen? a)
  (az: ∀(j:Nat) (t:TypeId) (r:Value),f.resultTypes[j]? =some t→(v.resultList f.resultTypes.size)[j]? =some r→Value.okWide P W' .any 0 t r):
  s.post enc P f apart fresh handsOn again W args v W':=by
 have hold: ∀p∈before,(fun b=>decide (b<W.heap.size)) p.block=true:=fun p hp=>by simpa using hW.lt p hp
 refine ⟨ds,gs,before,[],pa,pv,hW,Yi _ _ _,xl _ hold,Yj _ hold,World.keptBut_mono (fun p hp=>⟨hp,?_⟩) hk,fun _=> ?_⟩
 ·rw[Je,eP] at hp
  exact Or.inr hp
 ·have bx:=hW.lt
  obtain ⟨_,_,_,_,_,hz,hn⟩:=hW
  refine ⟨az,_,_,([]++pa)++pv,⟨[]++pa,pv,trodAll_append (xl _ (fun _ _=>rfl)) (Yi _ _ _),Yj _ (fun _ _=>rfl),rfl,?_,?_⟩,?_⟩
  ·intro b off hp
   have hb:MemPlace.cell b off∈before:=by rw[Je];simpa using hp
   rw[Yk ⟨b,off,none⟩ (bx _ hb)]
   exact hz b off hb
  ·intro ha
   have:=hn ha
   rw[Je] at this
   simpa using this
  ·intro p hp _
   rw[Je]
   simpa using hp
theorem ail {A:dg} (hP:j4 P A) (pr:P.follows .mixedOrders=true) {f key:Nat} {fn:Func} {tb:TypeId} {s:ChangeSpec} {apart fresh handsOn again:Bool}
  (hf:P.funcs[f]? =some fn) (OF:A.ic key=f) (hL:DA P L=true) (fk:fn.params.toList.all (fun t=>hasB L t)=true) (Jf:fn.resultTypes= #[tb]) (Jg:P.underlying tb=some .bool) (Jh:s.vars=[])
  (hs: ∀ds:List (DataW H),ds.length=fn.params.toList.length→s.fn H ds={results:=[.lit (.bool true)],args:=ds})
  (OG:laidOutB P=true) (OH:fn.params.toList.all (fun t=>P.readableRec t&&Nat.blt t P.types.size)=true)
  (eu:(A.sin key).cM=[]) (az:((A.sin key).b6.map (·.2)).all (VS.ok 0)=true) (OI:(A.gg key).b6=[(0,.one .bool)]) (halt:A.alt key=none)
  {W:World} {base:Nat} {args:Array Value} {ds gs:List (DataW H)} {before:List MemPlace}
  (OJ:iC P A.aU W (nA W)) (fW: ∀(j:Nat) t v,fn.params[j]? =some t→args[j]? =some v→Value.okWide P W .any base t v)
  (hW:DataW.Whole enc P fn.params.toList s.vars apart W args.toList ds gs before) (Q:List V→Prop)
  (hQ: ∀xs:List V,sJ P fn.params.toList xs→(∀(j:Nat) v x,args.toList[j]? =some v→xs[j]? =some x→aj P W (nA W) (fun _=>none) (fun _=>none) v x)→Q xs)
  (OK: ∀xs,sJ P fn.params.toList xs→Q xs→∃ds,sK ((A.sin key).b6.map (·.2)) xs=some ds∧Call P A key ds=some [.bool true]):
  Calls P f args W fun e W'=> ∃v,e= .returned v∧s.post enc P fn apart fresh handsOn again W args v W':=by
 have Yl:=hW
 obtain ⟨p,q,hA,hV,rfl,Yk,lS⟩:=hW
 rw[Jh] at hV
 obtain ⟨hgs,hq⟩:gs=[]∧q=[]:=by
  cases gs with
  | nil=>exact ⟨rfl,hV⟩
  | cons g gs=>exact hV.elim
 subst hgs
 subst hq
 obtain ⟨xs,hl,hr,Ym⟩:=Yd (β:=fun _=>none) (hp:=fun _=>none) hL (fun t ht=>Jb (gv.1 fk t ht)) (fun j t v a b=>fW j t v (by simpa using a) (by simpa using b)) hA
 obtain ⟨ls,hls,Dm⟩:=OK xs Ym (hQ xs Ym hr)
 obtain ⟨fn',c,h1,h2,h3⟩:=aid (A:=A) hP pr key ls [.bool true] Dm
 rw[OF] at h1 h3
 rw[hf] at h1
 cases h1
 have Ai: ∀j,(bN (A.sin key) ls).hp j=none:=fun j=>by simp[bN,mk,eu,fF,kS]
 obtain ⟨_,r1,r2⟩:=Db (P:=P) (w:=W) (I:=nA W) (n:=0) (β:=fun _=>none) (β':=fun _=>none) (hp:=fun _=>none) (hp':=(bN (A.sin key) ls).hp) (fun j hj=>absurd hj (Nat.not_lt_zero j)) hls az
 have hlen:((A.sin key).b6.map (·.2)).length=xs.length:=by rw[←r1 [],Oz]
 have h4:=h3 W (nA W) (fun _=>none) args.toList ⟨fun id blk h=>(by rw[Ai] at h;cases h),fun id aV blk blk' b h=>(by rw[Ai] at h;cases h),fun id blk b h=>(by rw[Ai] at h;cases h),fun b j h=>h⟩ OJ
  (by rw[hl,←hlen,bX]) (fun j v y hv hy=>r2 [] j v y (fun x hx=>hr j v x hv hx) (by rw[eY];exact hy))
 have ea:args.toList.toArray=args:=by simp
 rw[ea] at h4
 refine h4.mono fun e W' ⟨v,I2,cP,he,ha⟩=>⟨v,he,?_⟩
 have wY: ∀b,b<W.heap.size→W'.heap[b]? =W.heap[b]? :=fun b hb=>ha.z9.cO b hb (by rintro ⟨j,blk,hj,_⟩;rw[Ai] at hj;cases hj)
 have NK:=ha.res
 have Yn:A.so key [.bool true]=A.gg key∧A.lv key [.bool true]=[.bool true]:=by unfold dg.so dg.lv;rw[halt];exact ⟨rfl,rfl⟩
 rw[Yn.1,Yn.2,OI] at NK
 obtain rfl:v= .bool true:=NK.kW
 have kY:Value.okWide P W' .any 0 tb (.bool true):=by simp[Value.okWide,Jg,Cell.okWide,Cell.ok]
 have mZ:ds.length=fn.params.toList.length:=Yf hA
 have jZ: ∀p'∈p++[],W.sameAt W' p':=by
  intro p' hp'
  have bx:=Yl.lt p' hp'
  cases p' with
  | cell b o=>exact World.cell?_of_block (w:=W) (wY b bx)
  | map b=>exact wY b bx
 refine aik (pa:=p) (pv:=[]) Yl ?_ ?_ ?_ rfl ?_ ?_ ?_
 ·intro b sp hd
  rw[eY,hs ds mZ,Jf]
  exact trodAll_mk1 ⟨1,by simp[DataW.trod,Value.cells,Jg]⟩
 ·intro sp mD
  rw[eY,hs ds mZ]
  refine Yg OG (fun t ht=> ?_) hA (fun p' hp'=>jZ p' (by simpa using hp')) (fun p' hp'=>mD p' (by simpa using hp'))
  have:=gv.1 OH t ht
  simp only[bn] at this
  exact ⟨this.1,by simpa[ly] using this.2⟩
 ·intro sp mD
  rw[Jh,eY,hs ds mZ]
  exact rfl
 ·refine ⟨ha.z9.io.1,ha.z9.io.2,fun i hi=> ?_⟩
  rw[wY i hi]
  split<;>simp_all
 ·intro a bx
  exact World.frozen?_of_block (w:=W) (wY a.block bx)
 ·intro j t r hj OL
  rw[Jf] at hj OL
  cases j with
  | zero=>
   simp[Value.resultList] at hj OL
   subst hj
   subst OL
   exact kY
  | succ j=>simp at hj
theorem afy {A:dg} (hP:j4 P A) (pr:P.follows .mixedOrders=true) {f key:Nat} {fn:Func} {tb:TypeId} {s:ChangeSpec} {apart fresh handsOn again:Bool}
  (hf:P.funcs[f]? =some fn) (OF:A.ic key=f) (hL:DA P L=true) (fk:fn.params.toList.all (fun t=>hasB L t)=true) (Jf:fn.resultTypes= #[tb]) (Jg:P.underlying tb=some .bool) (Jh:s.vars=[])
  (hs: ∀ds:List (DataW H),ds.length=fn.params.toList.length→s.fn H ds={results:=[.lit (.bool true)],args:=ds})
  (OG:laidOutB P=true) (OH:fn.params.toList.all (fun t=>P.readableRec t&&Nat.blt t P.types.size)=true)
  (eu:(A.sin key).cM=[]) (az:((A.sin key).b6.map (·.2)).all (VS.ok 0)=true) (OI:(A.gg key).b6=[(0,.one .bool)]) (halt:A.alt key=none)
  (OK: ∀xs,sJ P fn.params.toList xs→∃ds,sK ((A.sin key).b6.map (·.2)) xs=some ds∧Call P A key ds=some [.bool true])
  {W:World} {base:Nat} {args:Array Value} {ds gs:List (DataW H)} {before:List MemPlace}
  (OJ:iC P A.aU W (nA W)) (fW: ∀(j:Nat) t v,fn.params[j]? =some t→args[j]? =some v→Value.okWide P W .any base t v)
  (hW:DataW.Whole enc P fn.params.toList s.vars apart W args.toList ds gs before):
  Calls P f args W fun e W'=> ∃v,e= .returned v∧s.post enc P fn apart fresh handsOn again W args v W':=
 ail hP pr hf OF hL fk Jf Jg Jh hs OG OH eu az OI halt OJ fW hW (fun _=>True) (fun _ _ _=>trivial) fun xs h _=>OK xs h
end
end Go.AM
namespace Go.AM
@[simp] theorem V.toInt_int (k:IntKind) (n:Int):V.toInt (.int k n)=n:=by cases k<;>rfl
@[simp] theorem V.kG (b:Bool):V.toBool (.bool b)=b:=by cases b<;>rfl
@[simp] theorem V.aug (s:List UInt8):V.toStr (.str s)=s:=by cases s<;>rfl
@[simp] theorem V.jB (e:TypeId) (es:List V):V.toList (.list e es)=es:=by cases es<;>rfl
@[simp] theorem V.auh (e:TypeId) (es:List V):V.toList (.own e es)=es:=by cases es<;>rfl
@[simp] theorem V.aim (cs:List V) (j:Nat):V.cell (.agg cs) j=V.nth cs j:=by cases cs<;>rfl
@[simp] theorem V.aui (cs:List V) (j:Nat):V.comp (.bL cs) j=V.nth cs j:=by cases cs<;>rfl
@[simp] theorem V.bZ (x:V) (l:List V):V.nth (x::l) 0=x:=by cases l<;>rfl
@[simp] theorem V.tD (x:V) (l:List V) (n:Nat):V.nth (x::l) (n+1)=V.nth l n:=by cases l<;>rfl
@[simp] theorem V.auj (x y:V) (l:List V):V.nth (x::y::l) 1=y:=by cases l<;>rfl
@[simp] theorem V.auk (x y z:V) (l:List V):V.nth (x::y::z::l) 2=z:=by cases l<;>rfl
@[simp] theorem V.aul (x y z u:V) (l:List V):V.nth (x::y::z::u::l) 3=u:=by cases l<;>rfl
theorem wrap64 {x:Int} (h1: -9223372036854775808≤x) (h2:x<9223372036854775808):IntKind.wrap .i64 x=x:=by
 rw[IntKind.wrap_i64];omega
theorem dr {x:Int} (h1: -9223372036854775808≤x:=by omega) (h2:x<9223372036854775808:=by omega):IntKind.wrap .i64 x=x:=wrap64 h1 h2
theorem OM {x:Int} (h1:0≤x) (h2:x<256):IntKind.wrap .u8 x=x:=by
 rw[IntKind.wrap_u8];omega
theorem ON {es:List V} {i:Int} {n:Nat} (h:i=n):idx es i=es[n]? :=by
 subst h;simp[idx]
theorem ain {α:Type} {f:α→V} {l:List α} {i:Int} {n:Nat} (h:i=n) (hn:n<l.length):idx (l.map f) i=some (f l[n]):=by
 rw[ON h];simp[hn]
@[simp] theorem Ji (es:List V) (n:Nat):idx es (n:Int)=es[n]? :=by simp[idx]
section
variable {X R:Type} {step:X→Option (X ⊕ R)}
theorem OO (Inv:X→Prop) (μ:X→Nat) (Q:R→Prop)
  (h: ∀x,Inv x→(∃y,step x=some (.inl y)∧Inv y∧μ y<μ x)∨∃r,step x=some (.inr r)∧Q r):
  ∀x,Inv x→∃r,Loop step x=some r∧Q r:=by
 intro x
 induction hm:μ x using Nat.strongRecOn generalizing x with
 | ind m ih=>
  intro hx
  rcases h x hx with ⟨y,h1,h2,h3⟩|⟨r,h1,h2⟩
  ·obtain ⟨r,h4,h5⟩:=ih (μ y) (by omega) y rfl h2
   exact ⟨r,(eQ h1).trans h4,h5⟩
  ·exact ⟨r,cI h1,h2⟩
theorem xt (s:Nat→X) (n:Nat) {r:R} (h: ∀i,i<n→step (s i)=some (.inl (s (i+1)))) (he:step (s n)=some (.inr r)):Loop step (s 0)=some r:=by
 induction n generalizing s with
 | zero=>exact cI he
 | succ n ih=>
  rw[eQ (h 0 (by omega))]
  exact ih (fun i=>s (i+1)) (fun i hi=>h (i+1) (by omega)) he
theorem aio (s:Nat→X) (k:Nat) {r:R} (h: ∀i,i<k→step (s i)=some (.inl (s (i+1)))) (he:step (s k)=some (.inr r)):Loop step (s 0)=some r:=xt s k h he
end
@[simp] theorem aG {α:Type} (p:Prop) [Decidable p] (a b:α):(bif decide p then a else b)=if p then a else b:=by by_cases h:p<;>simp[h]
@[simp] theorem pw {α:Type} (m n:Int) (a b:α):(bif m==n then a else b)=if m=n then a else b:=by
 by_cases h:m=n
 ·simp[h]
 ·have:(m==n)=false:=by simp[h]
  rw[this,ag h];rfl
@[simp] theorem rZ {α:Type} (m n:Int) (a b:α):(bif m != n then a else b)=if m=n then b else a:=by
 by_cases h:m=n
 ·simp[h]
 ·have:(m != n)=true:=by simp[h]
  rw[this,ag h];rfl
@[simp] theorem iu {α:Type} (c:Bool) (a b:α):(bif !c then a else b)=bif c then b else a:=by cases c<;>rfl
@[simp] theorem sa {α:Type} (m n:Nat) (a b:α):(bif Nat.ble m n then a else b)=if m≤n then a else b:=by
 cases hb:Nat.ble m n with
 | true=>rw[af (Nat.le_of_ble_eq_true hb)];rfl
 | false=>
  rw[ag fun h=> ?_]
  ·rfl
  ·rw[Nat.ble_eq_true_of_le h] at hb;cases hb
@[simp] theorem dx {α:Type} (c d:Bool) (a b:α):(bif c&&d then a else b)=bif c then (bif d then a else b) else b:=by cases c<;>rfl
section
variable {P:Program}
def Yo (P : Program) : Bool := P.funcs.all fun fn => !(fn.name == "runtime.NumGoroutine")
theorem aip (h:Yo P=true):Dj P:=by
 intro f fn hf
 unfold Yo at h
 have:=(Array.all_eq_true_iff_forall_mem.1 h) fn (Array.mem_of_getElem? hf)
 simpa using this
theorem U8 {t:TypeId} {ts:List TypeId} {xs:List V} (h:sJ P (t::ts) xs): ∃x ys,xs=x::ys∧iT P t x∧sJ P ts ys:=by
 cases xs with
 | nil=>exact h.elim
 | cons x ys=>exact ⟨x,ys,rfl,h.1,h.2⟩
theorem aft {xs:List V} (h:sJ P [] xs):xs=[]:=by
 cases xs with
 | nil=>rfl
 | cons x ys=>exact h.elim
theorem iT.one {t:TypeId} {x:V} (ha:cb P t=false) (h:iT P t x):WT P t x:=by
 have he:bC P t=[t]:=by simp[bC,ha]
 have:=h.2 0 t (by rw[he];rfl)
 simpa[cl,ha] using this
theorem WT.fa {t:TypeId} {k:IntKind} {x:V} (hu:P.underlying t=some (.int k)) (h:WT P t x): ∃n,x= .int k n∧k.min≤n∧n≤k.max:=by
 cases h with
 | int h1 h2=>
  rw[hu] at h1
  cases h1
  simp only[Lit.wf,bn,dW] at h2
  exact ⟨_,rfl,h2⟩
 | bool h1=>rw[hu] at h1;cases h1
 | str h1=>rw[hu] at h1;cases h1
 | list h1=>rw[hu] at h1;cases h1
theorem WT.kW {t:TypeId} {x:V} (hu:P.underlying t=some .bool) (h:WT P t x): ∃b,x= .bool b:=by
 cases h with
 | int h1=>rw[hu] at h1;cases h1
 | bool h1=>exact ⟨_,rfl⟩
 | str h1=>rw[hu] at h1;cases h1
 | list h1=>rw[hu] at h1;cases h1
theorem WT.oo {t:TypeId} {x:V} (hu:P.underlying t=some .string) (h:WT P t x): ∃s,x= .str s∧s.length≤maxLen:=by
 cases h with
 | int h1=>rw[hu] at h1;cases h1
 | bool h1=>rw[hu] at h1;cases h1
 | str h1 h2=>exact ⟨_,rfl,h2⟩
 | list h1=>rw[hu] at h1;cases h1
theorem WT.OP {t e:TypeId} {x:V} (hu:P.underlying t=some (.slice e)) (h:WT P t x): ∃es,x= .list e es∧es.length≤maxLen∧∀y∈es,iT P e y:=by
 cases h with
 | int h1=>rw[hu] at h1;cases h1
 | bool h1=>rw[hu] at h1;cases h1
 | str h1=>rw[hu] at h1;cases h1
 | list h1 h2 h3 h4=>
  rw[hu] at h1
  cases h1
  refine ⟨_,rfl,h2,fun y hy=> ?_⟩
  obtain ⟨i,hi⟩:=uD hy
  exact ⟨h3 i y hi,fun j t' hj=>h4 i j y t' hi hj⟩
theorem iT.my {t:TypeId} {x:V} (ha:cb P t=true) (h:iT P t x): ∃xs,x= .agg xs∧xs.length=(bC P t).length∧∀(j:Nat) t' y,(bC P t)[j]? =some t'→xs[j]? =some y→WT P t' y:=by
 obtain ⟨xs,rfl,hl⟩:=h.1 ha
 refine ⟨xs,rfl,hl,fun j t' y hj hy=> ?_⟩
 have:=h.2 j t' hj
 simp only[cl,ha,cond_true,V.aim] at this
 rw[wV _ _ _ hy] at this
 exact this
theorem Yp {α:Type} {f:α→V}: ∀{es:List V},(∀y∈es,∃a,y=f a)→∃l:List α,es=l.map f
 | [],_=>⟨[],rfl⟩
 | y::es,h=>by
  obtain ⟨a,rfl⟩:=h y (by simp)
  obtain ⟨l,rfl⟩:=Yp (f:=f) (es:=es) fun z hz=>h z (by simp[hz])
  exact ⟨a::l,rfl⟩
theorem OQ {α:Type} {f:α→V} {p:α→Prop}: ∀{es:List V},(∀y∈es,∃a,y=f a∧p a)→∃l:List α,es=l.map f∧∀a∈l,p a
 | [],_=>⟨[],rfl,by simp⟩
 | y::es,h=>by
  obtain ⟨a,rfl,ha⟩:=h y (by simp)
  obtain ⟨l,rfl,hl⟩:=OQ (f:=f) (p:=p) (es:=es) fun z hz=>h z (by simp[hz])
  exact ⟨a::l,rfl,by
   intro b hb
   rcases gK.1 hb with rfl|hb
   ·exact ha
   ·exact hl b hb⟩
theorem iT.int {t:TypeId} {x:V} (hu:P.underlying t=some (.int .i64)) (h:iT P t x): ∃n,x= .int .i64 n∧IntKind.min .i64≤n∧n≤IntKind.max .i64:=
 (h.one (by simp[cb,hu])).fa hu
theorem iT.str {t:TypeId} {x:V} (hu:P.underlying t=some .string) (h:iT P t x): ∃s,x= .str s∧s.length≤maxLen:=
 (h.one (by simp[cb,hu])).oo hu
end
def un.{u} {A B:Type} {γ:Sort u} (f:A→B→γ) (p:A × B):γ:=f p.1 p.2
def dI {A B γ:Type} (f:A→γ) (g:B→γ):A ⊕ B→γ
 | .inl a=>f a
 | .inr b=>g b
def tE:List Nat→Code→Code
 | [],c=>c
 | 0::p,.seq a _=>tE p a
 | _::p,.seq _ b=>tE p b
 | 0::p,.cond _ a _=>tE p a
 | _::p,.cond _ _ b=>tE p b
 | _::p,.block _ c=>tE p c
 | _::p,.loop c=>tE p c
 | _,c=>c
inductive nB where
 | loop (c:Code)
 | cond (t:Nat) (x y:Code)
section
variable (P:Program) (A:dg) (C:ab) (L:bR) (f n m:Nat)
def py:Code→List nB
 | .seq a b=>py a++py b
 | .cond (.tmp t) x y=>
  match A.iB f (t*16+15) with
  | none=>py x++py y
  | some _=>[.cond t x y]
 | .cond (.const _) x y=>py x++py y
 | .block _ c=>py c
 | .loop c=>[.loop c]
 | _=>[]
def sb:nB→Prop
 | .loop c=>
  match A.iB f (keyOf c+1) with
  | none=>True
  | some S=> ∀(β:Type) ds (k:Nat→List V→Option β),L β (keyOf c+1) ds k=(Loop (stepG P A C f n m S c) ds).bind fun r=>k r.1 r.2
 | .cond t x y=>
  match A.iB f (t*16+15) with
  | none=>True
  | some S=> ∀(β:Type) ds (k:Nat→List V→Option β),L β (t*16+15) ds k=(Cu P A C f n m t S x y ds).bind fun r=>k r.1 r.2
def nC:List nB→Prop
 | []=>True
 | b::l=>sb P A C L f n m b∧nC l
variable {P A C L f n m}
theorem nC.left {a b:List nB}:nC P A C L f n m (a++b)→nC P A C L f n m a:=by
 induction a with
 | nil=>exact fun _=>trivial
 | cons x a ih=>exact fun h=>⟨h.1,ih h.2⟩
theorem nC.right {a b:List nB}:nC P A C L f n m (a++b)→nC P A C L f n m b:=by
 induction a with
 | nil=>exact fun h=>h
 | cons x a ih=>exact fun h=>ih h.2
theorem Yq: ∀{c:Code} {bs:List nB},py A f c=bs→nC P A C L f n m bs→iZ P A C L f n m c:=by
 intro c
 induction c with
 | seq a b MV MW=>
  intro bs h hb
  subst h
  exact ⟨MV rfl hb.left,MW rfl hb.right⟩
 | cond c x y gP gQ=>
  intro bs h hb
  subst h
  cases c with
  | tmp t=>
   simp only[py] at hb
   simp only[iZ]
   cases hs:A.iB f (t*16+15) with
   | none=>
    rw[hs] at hb
    exact ⟨gP rfl hb.left,gQ rfl hb.right⟩
   | some S=>
    rw[hs] at hb
    have:=hb.1
    simp only[sb,hs] at this
    exact this
  | const v=>exact ⟨gP rfl hb.left,gQ rfl hb.right⟩
  | _=>trivial
 | block id c ih=>
  intro bs h hb
  subst h
  exact ih rfl hb
 | loop c ih=>
  intro bs h hb
  subst h
  exact hb.1
 | _=>intro bs h hb;trivial
variable (P A C L f n m) in
noncomputable def OR {β:Type} (t:Nat) (S:Shape × List (Out × Shape)) (x y:Code) (ds:List V) (k:Nat→List V→Option β):Option β:=
 let kc:Out→St→Option β:=fun o st=>
  match o with
  | .norm=>(ways m 0 S.2 (.norm,canon m (A.join f t) st)).bind fun e=>k e.1 e.2
  | o=>(ways m 0 S.2 (o,st)).bind fun e=>k e.1 e.2
 match (bN S.1 ds).sl t with
 | .bool b=>bif b then jv P A C L f n m x (bN S.1 ds) kc else jv P A C L f n m y (bN S.1 ds) kc
 | _=>none
theorem aiq {t:Nat} {x y:Code} {S:Shape × List (Out × Shape)} (hS:A.iB f (t*16+15)=some S) (hx:iZ P A C L f n m x) (hy:iZ P A C L f n m y) {I R:Type} (enc:I→List V) (oB:I→R→Nat × List V)
  (de:List V→I) (body:I→(β:Type)→(R→Option β)→Option β) (xu: ∀ds,bN S.1 (enc (de ds))=bN S.1 ds)
  (e1: ∀i (β:Type) (k:Nat→List V→Option β),OR P A C L f n m t S x y (enc i) k=body i β (fun r=>k (oB i r).1 (oB i r).2))
  (hl: ∀(β:Type) ds (k:Nat→List V→Option β),L β (t*16+15) ds k=body (de ds) β (fun r=>k (oB (de ds) r).1 (oB (de ds) r).2)):
  sb P A C L f n m (.cond t x y):=by
 simp only[sb,hS]
 intro β ds k
 rw[hl,←e1]
 unfold OR Cu
 rw[xu]
 simp only
 have hk: ∀(z:Option (Out × St)),(z.bind fun r=>(match r.1 with
   | .norm=>(ways m 0 S.2 (.norm,canon m (A.join f t) r.2)).bind fun e=>k e.1 e.2
   | o=>(ways m 0 S.2 (o,r.2)).bind fun e=>k e.1 e.2))=((z.bind fun r=>
   match r.1 with
   | .norm=>some (Out.norm,canon m (A.join f t) r.2)
   | _=>some r).bind fun r=>ways m 0 S.2 r).bind fun r=>k r.1 r.2:=by
  intro z
  cases z with
  | none=>rfl
  | some r=>obtain ⟨o,st⟩:=r;cases o<;>rfl
 cases (bN S.1 ds).sl t with
 | bool b=>
  cases b with
  | true=>simp only[cond_true,HQ P A C f n m x hx];exact hk _
  | false=>simp only[cond_false,HQ P A C f n m y hy];exact hk _
 | _=>rfl
theorem aO {b:nB} {l:List nB} (h:sb P A C L f n m b) (h2:nC P A C L f n m l):nC P A C L f n m (b::l):=⟨h,h2⟩
theorem ak:nC P A C L f n m []:=trivial
theorem air {key:Nat} {bs:List nB} (hb:py A key (uZ P (A.ic key))=bs) (ht:nC P A (Call P A) L key (Cv P (A.ic key)) (A.sin key).cM.length bs) {ds:List V} {r:Option (List V)}
  (h:HR P A (Call P A) L key ds=r):Call P A key ds=r:=by
 rw[aih,afG P A (Call P A) key (Yq hb ht),h]
end
section
variable (P:Program) (A:dg)
def jC (C:ab) (N f n m:Nat):Code→St→Option (Out × St)
 | .skip,st=>some (.norm,st)
 | .region id ops draw,st=>(zB P (A.here f id) C n ops draw st).bind fun st'=>some (.norm,canon m (A.live f id) (freeze m (A.pur f id) st'))
 | .seq a b,st=>(jC C N f n m a st).bind fun r=>
  match r.1 with
  | .norm=>jC C N f n m b r.2
  | _=>some r
 | .cond (.tmp t) x y,st=>
  let go (st:St):Option (Out × St):=
   match st.sl t with
   | .bool b=>(bif b then jC C N f n m x st else jC C N f n m y st).bind fun r=>
    match r.1 with
    | .norm=>some (.norm,canon m (A.join f t) r.2)
    | _=>some r
   | _=>none
  match A.iB f (t*16+15) with
  | none=>go st
  | some S=>(jS m S.1 st).bind fun ds=>((go (bN S.1 ds)).bind fun r=>ways m 0 S.2 r).bind fun e=>lF 0 S.2 e.1 e.2 fun o st=>some (o,st)
 | .cond (.const (.bool b)) x y,st=>bif b then jC C N f n m x st else jC C N f n m y st
 | .block id c,st=>(jC C N f n m c st).bind fun r=>
  match r.1 with
  | .norm=>some (.norm,canon m (A.blk f id) r.2)
  | .exit aV=>bif Nat.beq aV id then some (.norm,canon m (A.blk f id) r.2) else some r
  | .ret=>some r
 | .loop c,st=>
  match A.iB f (keyOf c+1) with
  | none=>none
  | some S=>(jS m S.1 st).bind fun ds=>(fD (fun ds=>mq m S.1 S.2 (jC C N f n m c (bN S.1 ds))) N ds).bind fun e=>lF 0 S.2 e.1 e.2 fun o st=>some (o,st)
 | .exit id,st=>some (.exit id,st)
 | .ret,st=>some (.ret,st)
 | _,_=>none
def OS (C:ab) (N f:Nat) (ds:List V):Option (List V):=
 match P.funcs[A.ic f]? with
 | none=>none
 | some fn=>
  match fn.body with
  | none=>none
  | some c=>bif ju 0 (A.sin f).b6&&(Nat.ble (A.sin f).b6.length fn.ntmps&&((A.sin f).ok&&(ju 0 (A.gg f).b6&&(Nat.beq (A.gg f).b6.length fn.results.size&&qk (oh (A.sin f).cM.length (A.mv f)))))) then
    (jC P A C N f fn.ntmps (A.sin f).cM.length c (Ct A f ds)).bind fun r=>
     match r.1 with
     | .exit _=>none
     | _=>((wG P A f fn (A.sin f).cM.length r.2).run C r.2.hp).map (·.1)
   else none
def Jj (N:Nat):Nat→ab
 | 0=>fun _ _=>none
 | n+1=>OS P A (Jj N n) N
variable {P A}
theorem Yr {X R:Type} {s1 s2:X→Option (X ⊕ R)} (h: ∀x y,s1 x=some y→s2 x=some y): ∀(n:Nat) (x:X) (r:R),fD s1 n x=some r→fD s2 n x=some r
 | 0,x,r,e=>by cases e
 | n+1,x,r,e=>by
  simp only[fD] at e⊢
  obtain ⟨y,h1,h2⟩:=bind_some e
  rw[h x y h1]
  cases y with
  | inl z=>exact Yr h n z r h2
  | inr q=>exact h2
theorem ais {C:ab} {N f n m:Nat}: ∀(c:Code) {st:St} {r:Out × St},jC P A C N f n m c st=some r→exec P A C f n m c st=some r:=by
 intro c
 induction c with
 | skip=>exact fun e=>e
 | exit id=>exact fun e=>e
 | ret=>exact fun e=>e
 | region id ops draw=>exact fun e=>e
 | seq x y gP gQ=>
  intro st r e
  simp only[jC,exec] at e⊢
  obtain ⟨⟨o,s1⟩,h1,h2⟩:=bind_some e
  rw[gP h1]
  cases o with
  | norm=>exact gQ h2
  | exit id=>exact h2
  | ret=>exact h2
 | cond c x y gP gQ=>
  intro st r e
  cases c with
  | tmp t=>
   have go: ∀{st:St} {r:Out × St},(match st.sl t with
     | .bool b=>(bif b then jC P A C N f n m x st else jC P A C N f n m y st).bind fun r=>
      match r.1 with
      | .norm=>some (.norm,canon m (A.join f t) r.2)
      | _=>some r
     | _=>none)=some r→(match st.sl t with
     | .bool b=>(bif b then exec P A C f n m x st else exec P A C f n m y st).bind fun r=>
      match r.1 with
      | .norm=>some (.norm,canon m (A.join f t) r.2)
      | _=>some r
     | _=>none)=some r:=by
    intro st r e
    cases hs:st.sl t<;>rw[hs] at e<;>simp only at e⊢ <;>first|(cases e;done)|skip
    rename_i b
    obtain ⟨x1,h1,h2⟩:=bind_some e
    cases b with
    | true=>simp only[cond_true,gP h1,Option.bind_some];exact h2
    | false=>simp only[cond_false,gQ h1,Option.bind_some];exact h2
   simp only[jC,exec] at e⊢
   split at e
   ·rename_i hS
    try rw[hS]
    exact go e
   ·rename_i S hS
    obtain ⟨ds,h1,h2⟩:=bind_some e
    obtain ⟨e',h3,h4⟩:=bind_some h2
    obtain ⟨r1,h5,h6⟩:=bind_some h3
    try rw[hS]
    simp only[h1,Option.bind_some]
    exact (congrArg (fun z:Option (Out × St)=>(z.bind fun r=>ways m 0 S.2 r).bind fun e=>lF 0 S.2 e.1 e.2 fun o st=>some (o,st)) (go h5)).trans (by simp only[Option.bind_some,h6];exact h4)
  | const v=>
   cases v with
   | bool b=>
    simp only[jC,exec] at e⊢
    cases b with
    | true=>exact gP e
    | false=>exact gQ e
   | _=>simp only[jC] at e;cases e
  | _=>simp only[jC] at e;cases e
 | block id c ih=>
  intro st r e
  simp only[jC,exec] at e⊢
  obtain ⟨x1,h1,h2⟩:=bind_some e
  rw[ih h1]
  exact h2
 | loop c ih=>
  intro st r e
  simp only[jC,exec] at e⊢
  split at e
  ·cases e
  ·rename_i S hS
   obtain ⟨ds,h1,h2⟩:=bind_some e
   obtain ⟨e',h3,h4⟩:=bind_some h2
   try rw[hS]
   simp only[h1,Option.bind_some]
   rw[zl (Yr (s2:=fun ds=>mq m S.1 S.2 (exec P A C f n m c (bN S.1 ds))) (fun x y Dx=>by
    unfold mq at Dx⊢
    obtain ⟨z,h5,h6⟩:=bind_some Dx
    rw[ih h5]
    exact h6) N ds e' h3)]
   exact h4
 | _=>intro st r e;simp only[jC] at e;cases e
theorem ait {C:ab} {N f:Nat} {ds es:List V} (e:OS P A C N f ds=some es):qm P A C f ds=some es:=by
 unfold OS at e
 unfold qm
 cases hf:P.funcs[A.ic f]? with
 | none=>rw[hf] at e;cases e
 | some fn=>
  rw[hf] at e
  simp only at e⊢
  cases hb:fn.body with
  | none=>rw[hb] at e;cases e
  | some c=>
   rw[hb] at e
   simp only at e⊢
   cases hc:(ju 0 (A.sin f).b6&&(Nat.ble (A.sin f).b6.length fn.ntmps&&((A.sin f).ok&&(ju 0 (A.gg f).b6&&(Nat.beq (A.gg f).b6.length fn.results.size&&qk (oh (A.sin f).cM.length (A.mv f))))))) with
   | false=>rw[hc] at e;cases e
   | true=>
    rw[hc] at e
    simp only[cond_true] at e⊢
    obtain ⟨x,h1,h2⟩:=bind_some e
    rw[ais c h1]
    exact h2
theorem Ys {N:Nat}: ∀n {f:Nat} {a r:List V},Jj P A N n f a=some r→lG P A n f a=some r
 | 0,f,a,r,h=>by cases h
 | n+1,f,a,r,h=>by
  obtain ⟨M,hM⟩:=I9 (C:=Jj P A N n) (D:=fun _=>lG P A n) (fun f a r h=>⟨0,fun _ _=>Ys n h⟩) (ait h)
  exact hM M (aw _)
theorem aiu {N n f:Nat} {a r:List V} (h:Jj P A N n f a=some r):Call P A f a=some r:=Dy.2 ⟨n,Ys n h⟩
end
inductive LK where
 | int (k:IntKind)
 | bool
 | str
 | list (e:TypeId)
 | nat
def LK.Ty:LK→Type
 | .int _=>Int
 | .bool=>Bool
 | .str=>List UInt8
 | .list _=>List V
 | .nat=>Nat
def LK.enc:(k:LK)→k.Ty→V
 | .int k,n=> .int k n
 | .bool,b=> .bool b
 | .str,s=> .str s
 | .list e,l=> .list e l
 | .nat,n=>e6 n
def LK.dec:(k:LK)→V→k.Ty
 | .int _,v=>v.toInt
 | .bool,v=>v.toBool
 | .str,v=>v.toStr
 | .list _,v=>v.toList
 | .nat,v=>ml v
theorem LK.Yt: ∀(k:LK) (x:k.Ty),k.dec (k.enc x)=x
 | .int _,_=>rfl
 | .bool,_=>rfl
 | .str,_=>rfl
 | .list _,_=>rfl
 | .nat,_=>rfl
def OT:List Nat→List LK
 | []=>[]
 | _::l=> .nat::OT l
def LS.ks:LS→List LK
 | .int k=>[.int k]
 | .bool=>[.bool]
 | .str=>[.str]
 | .list e=>[.list e]
 | .sub .. =>[.nat,.nat]
 | .ptr _=>[.nat,.nat]
 | .row _ _ cs=>OT cs
 | .dk _ cs _=> .nat::OT cs
 | _=>[]
def Aj:List LS→List LK
 | []=>[]
 | l::ls=>l.ks++Aj ls
def VS.ks:VS→List LK
 | .one l=>l.ks
 | .agg ls=>Aj ls
 | .bL ls=>Aj ls
 | .fn _ a b=>Aj a++Aj b
 | .pref _ ls=>Aj ls
def Yu:List VS→List LK
 | []=>[]
 | l::ls=>l.ks++Yu ls
def BS.ks:BS→List LK
 | .var _ cs=>Yu cs
 | .arr e _=>[.list e]
 | .nest e=>[.list e]
 | .dead=>[]
 | .map t=>[.list t]
def Yv:List (Nat × VS)→List LK
 | []=>[]
 | p::l=>p.2.ks++Yv l
def Yw:List BS→List LK
 | []=>[]
 | b::l=>b.ks++Yw l
def Shape.ks (S:Shape):List LK:=Yv S.b6++Yw S.cM
def OU:List Nat→List V→List V
 | [],_=>[]
 | _::cs,ds=>e6 (ml (V.nth ds 0))::OU cs (ds.drop 1)
def LS.norm:LS→List V→List V
 | .int k,ds=>[.int k (V.nth ds 0).toInt]
 | .bool,ds=>[.bool (V.nth ds 0).toBool]
 | .str,ds=>[.str (V.nth ds 0).toStr]
 | .list e,ds=>[.list e (V.nth ds 0).toList]
 | .sub ..,ds=>[e6 (ml (V.nth ds 0)),e6 (ml (V.nth ds 1))]
 | .ptr _,ds=>[e6 (ml (V.nth ds 0)),e6 (ml (V.nth ds 1))]
 | .row _ _ cs,ds=>OU cs ds
 | .dk _ cs _,ds=>e6 (ml (V.nth ds 0))::OU cs (ds.drop 1)
 | _,_=>[]
def Ak:List LS→List V→List V
 | [],_=>[]
 | l::ls,ds=>l.norm ds++Ak ls (ds.drop l.size)
def VS.norm:VS→List V→List V
 | .one l,ds=>l.norm ds
 | .agg ls,ds=>Ak ls ds
 | .bL ls,ds=>Ak ls ds
 | .fn _ a b,ds=>Ak a ds++Ak b (ds.drop (lD a))
 | .pref _ ls,ds=>Ak ls ds
def Yx:List VS→List V→List V
 | [],_=>[]
 | l::ls,ds=>l.norm ds++Yx ls (ds.drop l.size)
def BS.norm:BS→List V→List V
 | .var _ cs,ds=>Yx cs ds
 | .arr e _,ds=>[.list e (V.nth ds 0).toList]
 | .nest e,ds=>[.list e (V.nth ds 0).toList]
 | .dead,_=>[]
 | .map t,ds=>[.list t (V.nth ds 0).toList]
def Yy:List (Nat × VS)→List V→List V
 | [],_=>[]
 | p::l,ds=>p.2.norm ds++Yy l (ds.drop p.2.size)
def Yz:List BS→List V→List V
 | [],_=>[]
 | b::l,ds=>b.norm ds++Yz l (ds.drop b.size)
def Shape.norm (S:Shape) (ds:List V):List V:=Yy S.b6 ds++Yz S.cM (ds.drop (qj S.b6))
def xw:LK→List LK→Type
 | k,[]=>k.Ty
 | k,k'::ks=>k.Ty × xw k' ks
def lT:List LK→Type
 | []=>Unit
 | k::ks=>xw k ks
def xx:(k:LK)→(ks:List LK)→xw k ks→List V
 | k,[],x=>[k.enc x]
 | k,k'::ks,x=>k.enc x.1::xx k' ks x.2
def mH:(ks:List LK)→lT ks→List V
 | [],_=>[]
 | k::ks,x=>xx k ks x
def DB:(k:LK)→(ks:List LK)→List V→xw k ks
 | k,[],l=>k.dec (V.nth l 0)
 | k,k'::ks,l=>(k.dec (V.nth l 0),DB k' ks l.tail)
def qJ:(ks:List LK)→List V→lT ks
 | [],_=>()
 | k::ks,l=>DB k ks l
theorem YA: ∀(k:LK) (ks:List LK) (x:xw k ks) (r:List V),DB k ks (xx k ks x++r)=x
 | k,[],x,r=>LK.Yt k x
 | k,k'::ks,x,r=>by
  show (k.dec (k.enc x.1),DB k' ks (xx k' ks x.2++r))=x
  rw[LK.Yt,YA k' ks]
  rfl
def Al:List LK→Type 1→Type 1
 | [],R=>R
 | k::ks,R=>k.Ty→Al ks R
def YB:(k:LK)→(ks:List LK)→{R:Type 1}→Al (k::ks) R→xw k ks→R
 | _,[],_,f,x=>f x
 | _,k'::ks,_,f,x=>YB k' ks (f x.1) x.2
def xy:(ks:List LK)→{R:Type 1}→Al ks R→lT ks→R
 | [],_,f,_=>f
 | k::ks,_,f,x=>YB k ks f x
def Am {α:Type} (b:Bool):List Bool→List α→List α
 | [],_=>[]
 | _,[]=>[]
 | c::m,x::l=>bif c==b then x::Am b m l else Am b m l
def merge:List Bool→List V→List V→List V
 | [],_,_=>[]
 | true::m,i,x=>V.nth x 0::merge m i x.tail
 | false::m,i,x=>V.nth i 0::merge m i.tail x
def An:List Nat→List LK→List LK
 | [],_=>[]
 | _,[]=>[]
 | 0::t,k::ks=>k::An t ks
 | (_+1)::t,_::ks=>An t ks
abbrev gD:=List Nat × List LK
def gD.fresh (w:gD):List LK:=An w.1 w.2
def put:List Nat→List V→List V→List V
 | [],_,_=>[]
 | 0::t,ds,x=>V.nth x 0::put t ds x.tail
 | (j+1)::t,ds,x=>V.nth ds j::put t ds x
def xz:List Nat→List V→List V
 | [],_=>[]
 | 0::t,l=>V.nth l 0::xz t l.tail
 | (_+1)::t,l=>xz t l.tail
def vo:gD→List gD→Type
 | w,[]=>lT w.fresh
 | w,w'::ws=>lT w.fresh ⊕ vo w' ws
def tF:List gD→Type
 | []=>Empty
 | w::ws=>vo w ws
def wN (ds:List V) {β:Type} (k:Nat→List V→Option β):Nat→(w:gD)→(ws:List gD)→vo w ws→Option β
 | j,w,[],r=>k j (put w.1 ds (mH w.fresh r))
 | j,w,w'::ws,r=>dI (fun x=>k j (put w.1 ds (mH w.fresh x))) (fun y=>wN ds k (j+1) w' ws y) r
def wT (ds:List V) {β:Type} (k:Nat→List V→Option β):(ws:List gD)→tF ws→Option β
 | [],r=>Empty.elim r
 | w::ws,r=>wN ds k 0 w ws r
def qK (ds:List V):Nat→(w:gD)→(ws:List gD)→vo w ws→Nat × List V
 | j,w,[],r=>(j,put w.1 ds (mH w.fresh r))
 | j,w,_::_,.inl x=>(j,put w.1 ds (mH w.fresh x))
 | j,_,w'::ws,.inr y=>qK ds (j+1) w' ws y
def Ao (ds:List V):(ws:List gD)→tF ws→Nat × List V
 | [],r=>Empty.elim r
 | w::ws,r=>qK ds 0 w ws r
theorem YC (ds:List V) {β:Type} (k:Nat→List V→Option β): ∀(j:Nat) (w:gD) (ws:List gD) (r:vo w ws),wN ds k j w ws r=k (qK ds j w ws r).1 (qK ds j w ws r).2
 | _,_,[],_=>rfl
 | _,_,_::_,.inl _=>rfl
 | j,_,w'::ws,.inr y=>YC ds k (j+1) w' ws y
theorem Jk (ds:List V) {β:Type} (k:Nat→List V→Option β): ∀(ws:List gD) (r:tF ws),wT ds k ws r=k (Ao ds ws r).1 (Ao ds ws r).2
 | [],r=>Empty.elim r
 | w::ws,r=>YC ds k 0 w ws r
def Ap:Nat→(w:gD)→(ws:List gD)→List V→vo w ws
 | _,w,[],l=>qJ w.fresh (xz w.1 l)
 | 0,w,_::_,l=> .inl (qJ w.fresh (xz w.1 l))
 | j+1,_,w'::ws,l=> .inr (Ap j w' ws l)
def YD (j:Nat):(ws:List gD)→List V→Option (tF ws)
 | [],_=>none
 | w::ws,l=>some (Ap j w ws l)
def Aq:List Nat→List V→List V
 | [],_=>[]
 | 0::t,x=>V.nth x 0::Aq t x.tail
 | (_+1)::t,x=>Aq t x
theorem OV: ∀(t:List Nat) (ds x:List V),xz t (put t ds x)=Aq t x
 | [],_,_=>rfl
 | 0::t,ds,x=>congrArg (V.nth x 0:: ·) (OV t ds x.tail)
 | (_+1)::t,ds,x=>OV t ds x
theorem OW: ∀(t:List Nat) (ks:List LK) (k:LK) (sc:List LK),An t ks=k::sc→∀x:xw k sc,∃r,Aq t (xx k sc x)=xx k sc x++r
 | [],_,_,_,h,_=>by cases h
 | _::_,[],_,_,h,_=>by simp[An] at h
 | 0::t,a::ks,k,sc,h,x=>by
  simp only[An,zf] at h
  obtain ⟨rfl,h2⟩:=h
  cases sc with
  | nil=>exact ⟨Aq t [],rfl⟩
  | cons k' sc=>
   obtain ⟨r,hr⟩:=OW t ks k' sc h2 x.2
   exact ⟨r,congrArg (a.enc x.1:: ·) hr⟩
 | (_+1)::t,a::ks,k,sc,h,x=>OW t ks k sc h x
theorem YE (w:gD) (ds:List V) (x:lT w.fresh):qJ w.fresh (xz w.1 (put w.1 ds (mH w.fresh x)))=x:=by
 rw[OV]
 revert x
 generalize hf:w.fresh=f
 cases f with
 | nil=>intro x;rfl
 | cons k ks=>
  intro x
  obtain ⟨r,hr⟩:=OW w.1 w.2 k ks hf x
  show DB k ks (Aq w.1 (xx k ks x))=x
  rw[hr]
  exact YA k ks x r
theorem YF (ds:List V): ∀(j:Nat) (w:gD) (ws:List gD) (r:vo w ws),j≤(qK ds j w ws r).1
 | _,_,[],_=>aw _
 | _,_,_::_,.inl _=>aw _
 | j,_,w'::ws,.inr y=>kh (Nat.le_succ j) (YF ds (j+1) w' ws y)
theorem aiv (w:gD) (l:List V): ∀j,Ap j w [] l=qJ w.fresh (xz w.1 l)
 | 0=>rfl
 | _+1=>rfl
theorem YG (ds:List V): ∀(j:Nat) (w:gD) (ws:List gD) (r:vo w ws),Ap ((qK ds j w ws r).1-j) w ws (qK ds j w ws r).2=r
 | j,w,[],r=>(aiv w _ _).trans (YE w ds r)
 | j,w,w'::ws,.inl x=>by
  show Ap (j-j) w (w'::ws) (put w.1 ds (mH w.fresh x))= .inl x
  rw[BT]
  exact congrArg Sum.inl (YE w ds x)
 | j,w,w'::ws,.inr y=>by
  have h1:=YF ds (j+1) w' ws y
  have h2:=YG ds (j+1) w' ws y
  show Ap ((qK ds (j+1) w' ws y).1-j) w (w'::ws) (qK ds (j+1) w' ws y).2= .inr y
  obtain ⟨d,hd⟩: ∃d,(qK ds (j+1) w' ws y).1=j+1+d:=⟨(qK ds (j+1) w' ws y).1-(j+1),by omega⟩
  rw[hd] at h2⊢
  rw[show j+1+d-(j+1)=d by omega] at h2
  rw[show j+1+d-j=d+1 by omega]
  exact congrArg Sum.inr h2
theorem aiw (ds:List V): ∀(ws:List gD) (r:tF ws),YD (Ao ds ws r).1 ws (Ao ds ws r).2=some r
 | [],r=>Empty.elim r
 | w::ws,r=>congrArg some (YG ds 0 w ws r)
section
variable {P:Program} {A:dg} {C:ab} {L:bR} {f n m:Nat}
theorem aix {c:Code} {S:Shape × List (Out × Shape)} (hS:A.iB f (keyOf c+1)=some S) (hL:iZ P A C L f n m c) {I X R:Type} (enc:I→X→List V) (oB:I→R→Nat × List V)
  (sd:List V→I) (tG:List V→X) (Jl:Nat × List V→Option R) (body:I→X→(β:Type)→(X→Option β)→(R→Option β)→Option β)
  (xu: ∀ds,bN S.1 (enc (sd ds) (tG ds))=bN S.1 ds) (OX: ∀i x,tG (enc i x)=x) (hdr: ∀i r,Jl (oB i r)=some r)
  (e1: ∀i x (β:Type) (k:(List V ⊕ (Nat × List V))→Option β),jv P A C L f n m c (bN S.1 (enc i x)) (fun o st=>(mq m S.1 S.2 (some (o,st))).bind k)=
   body i x β (fun y=>k (.inl (enc i y))) (fun r=>k (.inr (oB i r))))
  (hl: ∀(β:Type) ds (k:Nat→List V→Option β),L β (keyOf c+1) ds k=(Loop (fun x=>body (sd ds) x (X ⊕ R) (fun y=>some (.inl y)) (fun r=>some (.inr r))) (tG ds)).bind fun r=>k (oB (sd ds) r).1 (oB (sd ds) r).2):
  sb P A C L f n m (.loop c):=by
 simp only[sb,hS]
 intro β ds k
 rw[hl]
 have hex: ∀(z:Option (Out × St)),mq m S.1 S.2 z=z.bind fun r=>mq m S.1 S.2 (some (r.1,r.2)):=by
  intro z;cases z<;>rfl
 have hs: ∀i x,stepG P A C f n m S c (enc i x)=(body i x (X ⊕ R) (fun y=>some (.inl y)) (fun r=>some (.inr r))).map fun| .inl y=> .inl (enc i y)| .inr r=> .inr (oB i r):=by
  intro i x
  have k1:=e1 i x _ (fun z=>some z)
  have k2:=e1 i x (X ⊕ R) (fun| .inl ds=>some (.inl (tG ds))| .inr e=>(Jl e).map .inr)
  have k3:=e1 i x (List V ⊕ (Nat × List V)) (fun| .inl ds=>some (.inl (enc i (tG ds)))| .inr e=>(Jl e).map fun r=> .inr (oB i r))
  simp only[OX,hdr,Option.map_some] at k2 k3
  unfold stepG
  rw[hex]
  rw[HQ P A C f n m c hL] at k1 k2 k3
  rw[←k2]
  refine Eq.trans ?_ (k1.trans (k3.symm.trans ?_))
  ·congr 1
   funext r
   cases mq m S.1 S.2 (some (r.1,r.2))<;>rfl
  ·cases exec P A C f n m c (bN S.1 (enc i x)) with
   | none=>rfl
   | some r=>
    simp only[Option.bind_some]
    cases mq m S.1 S.2 (some (r.1,r.2)) with
    | none=>rfl
    | some z=>
     cases z with
     | inl _=>rfl
     | inr e=>simp only[Option.bind_some];cases Jl e<;>rfl
 have h0:stepG P A C f n m S c ds=stepG P A C f n m S c (enc (sd ds) (tG ds)):=by
  unfold stepG
  rw[xu]
 have:Loop (stepG P A C f n m S c) ds=(Loop (fun x=>body (sd ds) x (X ⊕ R) (fun y=>some (.inl y)) (fun r=>some (.inr r))) (tG ds)).map (oB (sd ds)):=by
  rw[Ht,h0,←Ht]
  exact afE (enc (sd ds)) (oB (sd ds)) (fun x=>hs _ _) (tG ds)
 rw[this]
 cases Loop (fun x=>body (sd ds) x (X ⊕ R) (fun y=>some (.inl y)) (fun r=>some (.inr r))) (tG ds)<;>rfl
abbrev DC (S:Shape) (mk:List Bool):List LK:=Am false mk S.ks
abbrev xA (S:Shape) (mk:List Bool):List LK:=Am true mk S.ks
def tH (ts:List (List Nat)) (W:List (Out × Shape)):List gD:=
 match ts,W with
 | t::ts,w::W=>(t,w.2.ks)::tH ts W
 | _,_=>[]
abbrev DD (S:Shape) (mk:List Bool) (i:lT (DC S mk)) (x:lT (xA S mk)):List V:=merge mk (mH _ i) (mH _ x)
abbrev OY (S:Shape) (mk:List Bool) (i:lT (DC S mk)):List V:=merge mk (mH _ i) []
abbrev Jm (S:Shape) (mk:List Bool) (ds:List V):lT (DC S mk):=qJ _ (Am false mk (S.norm ds))
abbrev Jn (S:Shape) (mk:List Bool) (ds:List V):lT (xA S mk):=qJ _ (Am true mk (S.norm ds))
abbrev YH (X R:Type):Type 1:=(β:Type)→(X→Option β)→(R→Option β)→Option β
abbrev Jo (S:Shape × List (Out × Shape)) (mk:List Bool) (ts:List (List Nat)):Type 1:=Al (DC S.1 mk) (Al (xA S.1 mk) (YH (lT (xA S.1 mk)) (tF (tH ts S.2))))
abbrev OZ (S:Shape × List (Out × Shape)) (mk:List Bool) (ts:List (List Nat)) (b:Jo S mk ts) (i:lT (DC S.1 mk)) (x:lT (xA S.1 mk)):YH (lT (xA S.1 mk)) (tF (tH ts S.2)):=xy _ (xy _ b i) x
noncomputable def O0 (S:Shape × List (Out × Shape)) (mk:List Bool) (ts:List (List Nat)) (b:Jo S mk ts) {β:Type} (ds:List V) (k:Nat→List V→Option β):Option β:=
 (Loop (fun x=>OZ S mk ts b (Jm S.1 mk ds) x (lT (xA S.1 mk) ⊕ tF (tH ts S.2)) (fun y=>some (.inl y)) (fun r=>some (.inr r))) (Jn S.1 mk ds)).bind (wT (OY S.1 mk (Jm S.1 mk ds)) k (tH ts S.2))
theorem bc {c:Code} (S:Shape × List (Out × Shape)) (mk:List Bool) (ts:List (List Nat)) (b:Jo S mk ts) (hL:iZ P A C L f n m c) (hS:A.iB f (keyOf c+1)=some S:=by kernel_rfl)
  (xu: ∀ds,bN S.1 (DD S.1 mk (Jm S.1 mk ds) (Jn S.1 mk ds))=bN S.1 ds:=by intros;kernel_rfl) (OX: ∀i x,Jn S.1 mk (DD S.1 mk i x)=x:=by intros;kernel_rfl)
  (e1: ∀i x (β:Type) (k:(List V ⊕ (Nat × List V))→Option β),jv P A C L f n m c (bN S.1 (DD S.1 mk i x)) (fun o st=>(mq m S.1 S.2 (some (o,st))).bind k)=
   OZ S mk ts b i x β (fun y=>k (.inl (DD S.1 mk i y))) (wT (OY S.1 mk i) (fun j l=>k (.inr (j,l))) (tH ts S.2)):=by intros;kernel_rfl)
  (hl: ∀(β:Type) ds (k:Nat→List V→Option β),L β (keyOf c+1) ds k=O0 S mk ts b ds k:=by intros;kernel_rfl):
  sb P A C L f n m (.loop c):=
 aix hS hL (DD S.1 mk) (fun i r=>Ao (OY S.1 mk i) _ r) (Jm S.1 mk) (Jn S.1 mk) (fun e=>YD e.1 _ e.2) (OZ S mk ts b) xu OX (fun i r=>aiw _ _ r)
  (fun i x β k=>by
   rw[e1]
   congr 1
   funext r
   exact Jk _ _ _ r)
  (fun β ds k=>by
   rw[hl]
   unfold O0
   congr 1
   funext r
   exact Jk _ _ _ r)
abbrev O1 (S:Shape × List (Out × Shape)) (ts:List (List Nat)):Type 1:=Al S.1.ks ((β:Type)→(tF (tH ts S.2)→Option β)→Option β)
noncomputable def YI (S:Shape × List (Out × Shape)) (ts:List (List Nat)) (b:O1 S ts) {β:Type} (ds:List V) (k:Nat→List V→Option β):Option β:=
 xy S.1.ks b (qJ _ (S.1.norm ds)) β (wT (mH S.1.ks (qJ _ (S.1.norm ds))) k (tH ts S.2))
theorem fR {t:Nat} {x y:Code} (S:Shape × List (Out × Shape)) (ts:List (List Nat)) (b:O1 S ts) (hx:iZ P A C L f n m x) (hy:iZ P A C L f n m y) (hS:A.iB f (t*16+15)=some S:=by kernel_rfl)
  (xu: ∀ds,bN S.1 (mH S.1.ks (qJ _ (S.1.norm ds)))=bN S.1 ds:=by intros;kernel_rfl)
  (e1: ∀i (β:Type) (k:Nat→List V→Option β),OR P A C L f n m t S x y (mH S.1.ks i) k=xy S.1.ks b i β (wT (mH S.1.ks i) k (tH ts S.2)):=by intros;kernel_rfl)
  (hl: ∀(β:Type) ds (k:Nat→List V→Option β),L β (t*16+15) ds k=YI S ts b ds k:=by intros;kernel_rfl):
  sb P A C L f n m (.cond t x y):=
 aiq hS hx hy (mH S.1.ks) (fun i r=>Ao (mH S.1.ks i) _ r) (fun ds=>qJ _ (S.1.norm ds)) (xy S.1.ks b) xu
  (fun i β k=>by
   rw[e1]
   exact congrArg (xy S.1.ks b i β) (funext fun r=>Jk _ _ _ r))
  (fun β ds k=>by
   rw[hl]
   exact congrArg (xy S.1.ks b (qJ _ (S.1.norm ds)) β) (funext fun r=>Jk _ _ _ r))
end
theorem aA {P:Program} {A:dg} {C:ab} {L:bR} {f n m:Nat} {c:Code} {bs:List nB} (hb:nC P A C L f n m bs) (h:py A f c=bs:=by kernel_rfl):iZ P A C L f n m c:=Yq h hb
theorem bu {P:Program} {A:dg} {L:bR} {key:Nat} {bs:List nB} {ds:List V} {r x:Option (List V)} (ht:nC P A (Call P A) L key (Cv P (A.ic key)) (A.sin key).cM.length bs) (h:x=r)
  (hb:py A key (uZ P (A.ic key))=bs:=by kernel_rfl) (e:HR P A (Call P A) L key ds=x:=by kernel_rfl):Call P A key ds=r:=air hb ht (e.trans h)
noncomputable def bd (j:Nat) (S:Shape × List (Out × Shape)) (mk:List Bool) (ts:List (List Nat)) (b:Jo S mk ts) (L:bR):bR:=fun β n ds k=>bif Nat.beq n j then O0 S mk ts b ds k else L β n ds k
noncomputable def fS (j:Nat) (S:Shape × List (Out × Shape)) (ts:List (List Nat)) (b:O1 S ts) (L:bR):bR:=fun β n ds k=>bif Nat.beq n j then YI S ts b ds k else L β n ds k
def bw:bR:=fun _ _ _ _=>none
abbrev LV:=List V
structure SE where
 T:TypeId
 cmp:Nat
 ex:V→List V
 k:Nat→Nat
abbrev ar (l:List V) (j:Int) {β:Type} (f:V→Option β):Option β:=bif (decide (0≤j))&&(decide (j<(l.length:Int))) then (l[j.toNat]?).bind f else none
abbrev aS (l:List V) (j:Int) (v:V):List V:=l.set j.toNat v
end Go.AM
