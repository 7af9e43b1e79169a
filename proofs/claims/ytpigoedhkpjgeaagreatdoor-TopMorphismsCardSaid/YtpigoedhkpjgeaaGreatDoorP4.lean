/-
  Functions of the program, lifted to plain data.
-/
import Derived.Carry
import Derived.OpenShut
import Derived.Deep.Slices
import Derived.Test.YtpigoedhkpjgeaaGreatDoorP3
noncomputable section
set_option linter.unusedVariables false
set_option linter.unusedSimpArgs false
set_option linter.unusedSectionVars false
namespace Go.AM
open Go.IntKind (wrap)
section
variable {P:Program} {A:di} {E:FuncId→Bool} {G:Nat→V} {w w':World} {I I' I2:Nat→Nat→Prop} {μ β β':Nat→Option Nat} {hp hp' hp0:Nat→Option ag} {C:af} {B:Nat} {M:Nat→Prop} {w0:Start}
def xM (hp0:Nat→Option ag):Prop:= ∀id e es vers,(hp0 id=some (.nest e es vers)∨∃i,hp0 id=some (.out e es vers i))→∀k,bz vers k=0
theorem YB {n m:Nat} {ord kp live:List Nat} {a:Act} {st:St} (pU:ord.Nodup) (DJ: ∀id,id<m→ord[id]? =some id∨∃p,ord[id]? =some p∧st.hp p=none) (S:aA P w I β st.hp B M w0) (hT:rX P I β st.hp) (hA:gn P E G w I β n a st) (hE:nq w0.w w0.I μ hp0 w I β st.hp) (hm: ∀id blk,hp0 id=some blk→id<m) (km:xM hp0):
  ∃β',aA P w I β' (zu ord kp live st).hp B M w0∧gn P E G w I β' n a (zu ord kp live st)∧nq w0.w w0.I μ hp0 w I β' (zu ord kp live st).hp:=by
 have ah4:zu ord kp live st=mk (n9 st.hp ord st.sl (ord.length+(gM st.hp ord kp ord.length ord).2.length) live).1
   ((gM st.hp ord kp ord.length ord).1++((gM st.hp ord kp ord.length ord).2++(n9 st.hp ord st.sl (ord.length+(gM st.hp ord kp ord.length ord).2.length) live).2)):=by
  rfl
 rw[ah4]
 let hp':=lF ((gM st.hp ord kp ord.length ord).1++((gM st.hp ord kp ord.length ord).2++(n9 st.hp ord st.sl (ord.length+(gM st.hp ord kp ord.length ord).2.length) live).2))
 let β':Nat→Option Nat:=fun j=>if j<ord.length then (ord[j]?).bind β else none
 have hlen:(gM st.hp ord kp ord.length ord).1.length=ord.length:=Yy;have lQ: ∀j,j<ord.length→hp' j=(gM st.hp ord kp ord.length ord).1[j]? :=by
  intro j hj;simp only[hp',jA];rw[mq (by omega)]
 have ki: ∀k,hp' (ord.length+k)=((gM st.hp ord kp ord.length ord).2++(n9 st.hp ord st.sl (ord.length+(gM st.hp ord kp ord.length ord).2.length) live).2)[k]? :=by
  intro k;simp only[hp',jA];rw[nU (by omega),hlen,HR]
 have hF:nt hp' β' ord.length ((gM st.hp ord kp ord.length ord).2++(n9 st.hp ord st.sl (ord.length+(gM st.hp ord kp ord.length ord).2.length) live).2):=by
  intro k b hb;refine ⟨(ki k).trans hb,?_⟩;simp only[β'];rw[bO]
 have DG:o7 ((gM st.hp ord kp ord.length ord).2++(n9 st.hp ord st.sl (ord.length+(gM st.hp ord kp ord.length ord).2.length) live).2):=Yx.app Yv;have rb: ∀(j:Nat) id,ord[j]? =some id→β' j=β id:=by
  intro j id hj;simp only[β'];rw[ak (ct.1 hj).1,hj];rfl
 have sA: ∀(j:Nat) id,ord[j]? =some id→∃n',nt hp' β' n' (ft st.hp ord kp n' id).2∧hp' j=some (ft st.hp ord kp n' id).1:=by
  intro j id hj;obtain ⟨n',h1,h2⟩:=Yz (hp:=st.hp) (hp':=hp') (β':=β') (ord:=ord) (kp:=kp) (n:=ord.length) hj;exact ⟨n',h1 hF.left,(lQ j (ct.1 hj).1).trans h2⟩
 have hR:Ac st.hp β ord hp' β':=by
  refine ⟨fun j id e es fz hj ab=> ?_,fun j id T cs hj ab=> ?_,fun j id hj ab=> ?_,fun j id e es vs i hj ab=> ?_,rb,fun j id e es vers hj ab=> ?_,fun j id t es hj ab=> ?_⟩
  ·obtain ⟨n',_,h2⟩:=sA j id hj;rw[h2];simp only[ft,ab]
  ·obtain ⟨n',_,h2⟩:=sA j id hj;rw[h2];simp only[ft,ab];exact ⟨_,rfl⟩
  ·obtain ⟨n',_,h2⟩:=sA j id hj;rw[h2];simp only[ft,ab]
  ·obtain ⟨n',_,h2⟩:=sA j id hj;rw[h2];simp only[ft,ab]
  ·obtain ⟨n',_,h2⟩:=sA j id hj;rw[h2];simp only[ft,ab]
  ·obtain ⟨n',_,h2⟩:=sA j id hj;rw[h2];simp only[ft,ab]
 have cls: ∀j blk',hp' j=some blk'→(∃id,ord[j]? =some id∧((blk'= .dead)∨∃blk,st.hp id=some blk∧blk≠ .dead∧∀o b,bd P w o blk' b→bd P w o blk b))∨(∃e,blk'= .arr e [] false∧β' j=none):=by
  intro j blk' hj;rcases gy j ord.length with h|h
  ·have dQ:=bS h;obtain ⟨n',_,h2⟩:=sA j _ dQ;rw[hj] at h2;refine .inl ⟨_,dQ,?_⟩;cases ab:st.hp ord[j] with
   | none=>left;simp only[ft,ab] at h2;exact dC h2
   | some blk=>
    cases blk with
    | dead=>left;simp only[ft,ab] at h2;exact dC h2
    | out _ _ _ _=>left;simp only[ft,ab] at h2;exact dC h2
    | var T0 cs=>exact .inr ⟨_,rfl,by simp,fun o b h=>by simp only[ft,ab] at h2;rw[dC h2] at h;exact .root (by simp) (h.flat (by simp))⟩
    | arr e es fz=>exact .inr ⟨_,rfl,by simp,fun o b h=>by simp only[ft,ab] at h2;rw[dC h2] at h;exact .root (by simp) (h.flat (by simp))⟩
    | map t es=>exact .inr ⟨_,rfl,by simp,fun o b h=>by simp only[ft,ab] at h2;rw[dC h2] at h;exact .root (by simp) (h.flat (by simp))⟩
    | nest e es vers=>
     refine .inr ⟨_,rfl,by simp,fun o b h=> ?_⟩;simp only[ft,ab] at h2;rw[dC h2] at h;cases h with
     | root _ h=>exact .root (by simp) h
     | row h1 h2=>exact .row h1 h2
  ·obtain ⟨k,rfl⟩: ∃k,j=ord.length+k:=⟨j-ord.length,by omega⟩
   rw[ki] at hj;obtain ⟨e,he⟩:=DG _ (kO hj);exact .inr ⟨e,he,(hF k _ hj).2⟩
 refine ⟨β',⟨⟨fun j blk' hj=> ?_,fun j1 j2 b1 b2 b e1 e2 f1 f2=> ?_,fun j blk b e1 f1=> ?_,S.h.iE⟩,S.cH,S.size,S.new,S.io⟩,⟨fun k=> ?_,hA.size,hA.defers,hA.aF⟩,⟨hE.dZ,hE.cH,fun id blk ab=> ?_,fun id blk blk' b ab bM hd hb=> ?_⟩⟩
 ·change hp' j=some blk' at hj;rcases gy j ord.length with h|h
  ·have dQ:=bS h;obtain ⟨n',YC,h2⟩:=sA j _ dQ;rw[hj] at h2;rw[rb j _ dQ];cases ab:st.hp ord[j] with
   | none=>simp only[ft,ab] at h2;rw[dC h2];exact .dead
   | some blk=>
    have hr:=S.h.rel _ _ ab;generalize β ord[j]=o at hr;cases hr with
    | dead=>simp only[ft,ab] at h2;rw[dC h2];exact .dead
    | out=>simp only[ft,ab] at h2;rw[dC h2];exact .dead
    | dY hb=>simp only[ft,ab] at h2;rw[dC h2];exact .dY hb
    | arr a0 a1 a2 a3 a4 a5 a6 a7=>simp only[ft,ab] at h2;rw[dC h2];exact .arr a0 a1 a2 a3 a4 a5 a6 a7
    | nest a1 a2 a3=>simp only[ft,ab] at h2;rw[dC h2];exact .nest a1 a2 a3
    | gD a1=>simp only[ft,ab] at h2;rw[dC h2];exact .gD a1
    | map a1 a2 a3 a4 a5 a6 a7=>simp only[ft,ab] at h2;rw[dC h2];exact .map a1 a2 a3 a4 a5 a6 a7
    | @var xs b Ca T hb hh hs da hx gO=>
     simp only[ft,ab] at h2 YC;rw[dC h2];exact .var hb hh (by rw[JD];exact hs) da (fun i v y hi hy=>JE S hT hR (vs:=Ca.toList) (fun i v x hi cW=>hx i v x (by simpa using hi) cW) YC i v y (by simpa using hi) hy) gO
  ·rcases cls j blk' hj with ⟨id,ab,_⟩|⟨e,he,hb⟩
   ·have:=(ct.1 ab).1;omega
   ·rw[he];exact .dY hb
 ·rcases cls j1 b1 e1 with ⟨PF,o1,x1⟩|⟨e,_,hb⟩
  ·rcases cls j2 b2 e2 with ⟨bj,o2,x2⟩|⟨e,_,hb⟩
   ·obtain ⟨c1,y1,z1,g1⟩:=x1.resolve_left f1.alive;obtain ⟨c2,y2,z2,g2⟩:=x2.resolve_left f2.alive;rw[rb _ _ o1] at f1;rw[rb _ _ o2] at f2;have:=S.h.inj PF bj c1 c2 b y1 y2 (g1 _ _ f1) (g2 _ _ f2);subst this;obtain ⟨q1,q2⟩:=ct.1 o1;obtain ⟨q3,q4⟩:=ct.1 o2;exact (List.getElem_inj pU).1 (q2.trans q4.symm)
   ·subst ‹b2=_›;have:=f2.flat (by simp);rw[hb] at this;cases this
  ·subst ‹b1=_›;have:=f1.flat (by simp);rw[hb] at this;cases this
 ·rcases cls j blk e1 with ⟨PF,o1,x1⟩|⟨e,_,hb⟩
  ·obtain ⟨c1,y1,z1,g1⟩:=x1.resolve_left f1.alive;rw[rb _ _ o1] at f1;exact S.h.own PF c1 b y1 (g1 _ _ f1)
  ·subst ‹blk=_›;have:=f1.flat (by simp);rw[hb] at this;cases this
 ·change ai P w I β' hp' (a.tmps.getD k undef) (kR _ k);unfold kR;cases Pj:eL (n9 st.hp ord st.sl (ord.length+(gM st.hp ord kp ord.length ord).2.length) live).1 k with
  | none=>exact .undef
  | some y=>
   obtain ⟨n',h1,h2⟩:=Yw hF.right Pj;simp only[Option.getD_some,h2];exact ah1 S hT hR (hA.sl k) h1
 ·obtain ⟨sr,k1,k2,k3⟩:=hE.blk id blk ab;rcases DJ id (hm id blk ab) with ho|⟨p,ho,bG⟩
  ·cases sr with
   | dead=>exact ⟨.dead,hR.dead id id ho k1,k2,fun h=>absurd rfl h⟩
   | out e es vs i=>exact ⟨.dead,hR.out id id _ _ _ _ ho k1,by cases blk<;>trivial,fun h=>absurd rfl h⟩
   | var T0 cs=>
    obtain ⟨jX,h'⟩:=hR.var id id T0 cs ho k1;refine ⟨_,h',?_,fun _=>(rb id id ho).trans (k3 (by simp))⟩;cases blk<;>simp_all [ag.le]
   | arr e es fz=>exact ⟨_,hR.arr id id e es fz ho k1,k2,fun _=>(rb id id ho).trans (k3 (by simp))⟩
   | map t es=>exact ⟨_,hR.map id id t es ho k1,k2,fun _=>(rb id id ho).trans (k3 (by simp))⟩
   | nest e es vers=>
    refine ⟨_,hR.nest id id e es vers ho k1,?_,fun _=>(rb id id ho).trans (k3 (by simp))⟩;rcases ag.VG k2 with ⟨Pn,ah5,rfl,l1,l2,_⟩|⟨Pn,ah5,i0,rfl,l1,l2,_⟩
    ·exact ⟨rfl,l1,by simpa using l2,fun k=>by rw[km id _ _ _ (.inl ab) k];exact kP _⟩
    ·exact ⟨rfl,l1,by simpa using l2,fun k=>by rw[km id _ _ _ (.inr ⟨_,ab⟩) k];exact kP _⟩
  ·obtain ⟨n',_,h2⟩:=sA id p ho;simp only[ft,bG] at h2;exact ⟨.dead,h2,by cases blk<;>trivial,fun h=>absurd rfl h⟩
 ·obtain ⟨sr,k1,k2,k3⟩:=hE.blk id blk ab;rcases DJ id (hm id blk ab) with ho|⟨p,ho,bG⟩
  ·refine hE.size id blk sr b ab k1 (fun uj=> ?_) hb;subst uj;have:=hR.dead id id ho k1;change hp' id=some blk' at bM;rw[this] at bM;exact hd (dC bM).symm
  ·obtain ⟨n',_,h2⟩:=sA id p ho;simp only[ft,bG] at h2;change hp' id=some blk' at bM;rw[h2] at bM;exact absurd (dC bM).symm hd
theorem ah6 {n m:Nat} {live:List Nat} {a:Act} {st:St} (S:aA P w I β st.hp B M w0) (hT:rX P I β st.hp) (hA:gn P E G w I β n a st) (hE:nq w0.w w0.I μ hp0 w I β st.hp) (hm: ∀id blk,hp0 id=some blk→id<m) (km:xM hp0):
  ∃β',aA P w I β' (canon m live st).hp B M w0∧gn P E G w I β' n a (canon m live st)∧nq w0.w w0.I μ hp0 w I β' (canon m live st).hp:=by
 obtain ⟨t,DJ,pU⟩:=ah3 (m:=m) (live:=live) (st:=st);refine YB (by rw[DJ];exact pU) (fun id aY=> .inl ?_) S hT hA hE hm km;rw[DJ,mq (by simpa using aY)];simp[aY]
theorem YD: ∀{l:List Nat},qC l=true→l.Nodup
 | [],_=> .nil
 | a::l,h=>by
  simp only[qC,aK,mn] at h;rw[List.nodup_cons];exact ⟨fun hm=>Bool.noConfusion ((zH hm).symm.trans h.1),YD h.2⟩
theorem ah7 {m:Nat} {mv:List Nat} {id:Nat} (h:id<m):(oS m mv)[id]? =some id∨(oS m mv)[id]? =some (m+id):=by
 unfold oS;rw[mq (by simpa using h),jk];simp only[HU h,Option.map_some];cases gK mv id with
 | true=>exact .inr rfl
 | false=>exact .inl rfl
end
section
variable {P:Program} {A:di} {w w':World} {I I' I2:Nat→Nat→Prop} {μ β β':Nat→Option Nat} {hp hp' hp0:Nat→Option ag} {C:af} {B:Nat} {M:Nat→Prop} {w0:Start}
theorem JF (p:Nat→Prop) (h: ∃n,p n): ∃n,p n∧∀m,p m→n≤m:=by
 obtain ⟨n,hn⟩:=h
 induction n using Nat.strongRecOn with
 | _ n ih=>
  by_cases hx: ∃m,m<n∧p m
  ·obtain ⟨m,hm,hp⟩:=hx;exact ih m hm hp
  ·exact ⟨n,hn,fun m hm=>Nat.le_of_not_lt fun aY=>hx ⟨m,aY,hm⟩⟩
open Classical in
theorem ah8 {c:Code} {Q:Exit→Act→World→Prop} (J:Nat→Act→World→Prop) (h0: ∀a w,¬J 0 a w) (round: ∀n a w,J (n+1) a w→c.wp P (Exit.then (J n) Q) a w) {n:Nat} {a:Act} {w:World} (h:J n a w):
  (Code.loop c).wp P Q a w:=by
 refine wp_loop (fun a w=> ∃n,J n a w) (fun a w=>if h: ∃n,J n a w then (JF _ h).choose else 0) ⟨n,h⟩ fun a w hJ=> ?_;obtain ⟨h1,h2⟩:=(JF _ hJ).choose_spec;generalize hk:(JF _ hJ).choose=k at h1 h2;cases k with
 | zero=>exact absurd h1 (h0 a w)
 | succ k=>
  refine wp_mono (round k a w h1) fun e a' w' he=> ?_;cases e with
  | normal=>
   have hex: ∃n,J n a' w':=⟨k,he⟩
   refine ⟨hex,?_⟩;have h3:=(JF _ hex).choose_spec.2 k he;rw[pD hex,pD hJ,hk];omega
  | _=>exact he
def Ad:Out→Exit
 | .norm=> .normal
 | .exit id=> .exit id
 | .ret=> .ret
def Inv (P:Program) (E:FuncId→Bool) (G:Nat→V) (B:Nat) (M:Nat→Prop) (w0:Start) (μ:Nat→Option Nat) (hp0:Nat→Option ag) (n:Nat) (a:Act) (w:World) (st:St):Prop:=
 ∃I β,aA P w I β st.hp B M w0∧gn P E G w I β n a st∧nq w0.w w0.I μ hp0 w I β st.hp
theorem Inv.canon {E:FuncId→Bool} {G:Nat→V} {n m:Nat} {a:Act} {st:St} {live:List Nat} (h:Inv P E G B M w0 μ hp0 n a w st) (hm: ∀id blk,hp0 id=some blk→id<m) (km:xM hp0):Inv P E G B M w0 μ hp0 n a w (canon m live st):=by
 obtain ⟨I0,β,S,hA,hE⟩:=h;obtain ⟨I,h1,S,hA,hT⟩:=Yn S hA;obtain ⟨β',a,b,c⟩:=ah6 (live:=live) S hT hA (hE.trans h1.zX) hm km;exact ⟨I,β',a,b,c⟩
theorem JG: ∀{l:List BS} {ds:List V},(fT l ds).length=l.length
 | [],_=>rfl
 | b::l,ds=>by simp only[fT,List.length_cons,JG]
theorem Inv.enter {A:di} {E:FuncId→Bool} {G:Nat→V} {n f:Nat} {ds:List V} {a:Act} (lg:qC (oS (A.sin f).cO.length (A.mv f))=true) (h:Inv P E G B M w0 μ hp0 n a w (bI (A.sin f) ds)) (hm: ∀id blk,hp0 id=some blk→id<(A.sin f).cO.length)
  (km:xM hp0) (YE: ∀p,(A.sin f).cO.length≤p→(bI (A.sin f) ds).hp p=none):Inv P E G B M w0 μ hp0 n a w (CB A f ds):=by
 unfold CB;split
 ·exact h
 ·obtain ⟨I0,β,S,hA,hE⟩:=h;obtain ⟨I,h1,S,hA,hT⟩:=Yn S hA;obtain ⟨β',x,y,z⟩:=YB (kp:=[]) (m:=(A.sin f).cO.length) (ord:=oS (A.sin f).cO.length (A.mv f)) (live:=(A.sin f).ch.map (·.1)) (YD lg) (fun id ab=>(ah7 ab).imp (fun h=>h) fun h=>⟨_,h,YE _ (by omega)⟩) S hT hA (hE.trans h1.zX) hm km;exact ⟨I,β',x,y,z⟩
theorem Inv.reshape {E:FuncId→Bool} {G:Nat→V} {n m:Nat} {a:Act} {st:St} {S:Shape} {ds:List V} (h:Inv P E G B M w0 μ hp0 n a w st) (hs:kf m S st=some ds) (hm: ∀id blk,hp0 id=some blk→id<m):Inv P E G B M w0 μ hp0 n a w (bI S ds):=by
 obtain ⟨I,β,S1,hA,hE⟩:=h;obtain ⟨r1,r2,_,r4⟩:=AM.reshape hs S1;refine ⟨I,β,r1,⟨fun k=>r2 k _ (hA.sl k),hA.size,hA.defers,hA.aF⟩,⟨hE.dZ,hE.cH,fun id blk ab=> ?_,fun id blk blk' b ab bM hd hb=> ?_⟩⟩
 ·obtain ⟨sr,k1,k2,k3⟩:=hE.blk id blk ab;obtain ⟨_,hle,_⟩:=Xm hs;have hl:=hm id blk ab;obtain ⟨cw,h2⟩: ∃cw,(bI S ds).hp id=some cw:=by
   simp only[bI,mk,jA];exact ⟨_,bS (by rw[JG];omega)⟩
  by_cases hd:cw= .dead
  ·subst hd;exact ⟨_,h2,by cases blk<;>trivial,fun h=>absurd rfl h⟩
  ·obtain ⟨js,e1,e2,_⟩:=r4 id cw h2 hd;rw[k1] at e1;cases e1;exact ⟨_,h2,ag.le_trans k2 e2,fun _=>k3 (fun e=>hd (ag.rW (e▸e2)))⟩
 ·obtain ⟨js,e1,e2,_⟩:=r4 id blk' bM hd;exact hE.size id blk js b ab e1 (fun e=>hd (ag.rW (e▸e2))) hb
theorem nr.here (h:nr P A C) (f:Nat) (id:Nat):nr P (A.here f id) C:=by
 intro key ds es hh;obtain ⟨fn,c,h1,h2,h3⟩:=h key ds es hh;refine ⟨fn,c,h1,h2,fun w I μ vals a g b d=>(h3 w I μ vals a g b d).mono fun e w' hx=> ?_⟩;obtain ⟨v,I2,cB,q1,q2⟩:=hx;exact ⟨v,I2,cB,q1,⟨q2.zY,q2.le,q2.res⟩⟩
theorem ah9 {a b:Out} (h:It a b=true):a=b:=by
 cases a<;>cases b<;>simp[It] at h<;>first|rfl|(subst h;rfl)
theorem YF {m:Nat} {r:Out×St}: ∀{l:List (Out×Shape)} {j:Nat} {e:Nat×List V},ways m j l r=some e→j≤e.1
 | [],j,e,h=>by cases h
 | (o,S)::l,j,e,h=>by
  simp only[ways] at h;split at h
  ·cases h;exact az _
  ·have:=YF h;omega
theorem PH {m:Nat} {o:Out} {s:St} {out:Out} {st':St}: ∀{l:List (Out×Shape)} {k:Nat} {e:Nat×List V},ways m k l (o,s)=some e→my k l e.1 e.2 (fun o st=>some (o,st))=some (out,st')→
  out=o∧∃S,kf m S s=some e.2∧st'=bI S e.2
 | [],k,e,h,_=>by cases h
 | (o',S)::l,k,e,h,h2=>by
  simp only[ways] at h;split at h
  ·rename_i ds hx;cases h;cases ho:It o' o with
   | false=>rw[ho] at hx;cases hx
   | true=>
    rw[ho] at hx;have:=ah9 ho;subst this;cases l with
    | nil=>
     simp only[my,ey,lA] at h2;exact ⟨h2.1.symm,S,hx,h2.2.symm⟩
    | cons p l=>
     simp only[my,mo,cond_true,ey,lA] at h2;exact ⟨h2.1.symm,S,hx,h2.2.symm⟩
  ·have pZ:=YF h;cases l with
   | nil=>cases h
   | cons p l=>
    have bL:Nat.beq e.1 k=false:=by
     cases hb:Nat.beq e.1 k with
     | false=>rfl
     | true=>rw[aN] at hb;omega
    simp only[my,bL,cond_false] at h2;exact PH h h2
theorem aia (hC:nr P A C) (hP:jB P A) (p9:P.follows .mixedOrders=true) {f n m:Nat} (hm: ∀id blk,hp0 id=some blk→id<m) (km:xM hp0):
  ∀(c:Code) {st st':St} {out:Out} {Q:Exit→Act→World→Prop} {a:Act} {w:World},exec P A C f n m c st=some (out,st')→Inv P A.idle A.aF B M w0 μ hp0 n a w st→
   (∀a' w',Inv P A.idle A.aF B M w0 μ hp0 n a' w' st'→Q (Ad out) a' w')→c.wp P Q a w:=by
 intro c
 induction c with
 | skip=>
  intro st st' out Q a w h hI hQ;simp only[exec,ey,lA] at h;obtain ⟨rfl,rfl⟩:=h;exact wp_skip (hQ a w hI)
 | exit id=>
  intro st st' out Q a w h hI hQ;simp only[exec,ey,lA] at h;obtain ⟨rfl,rfl⟩:=h;exact wp_exit (hQ a w hI)
 | ret=>
  intro st st' out Q a w h hI hQ;simp only[exec,ey,lA] at h;obtain ⟨rfl,rfl⟩:=h;exact wp_ret (hQ a w hI)
 | region id ops draw=>
  intro st st' out Q a w h hI hQ;simp only[exec] at h;obtain ⟨kj,h1,h2⟩:=bind_some h;simp only[ey,lA] at h2;obtain ⟨rfl,rfl⟩:=h2;obtain ⟨I,β,S,hA,hE⟩:=hI;refine ahW (hC.here f id) (hP.here f id) p9 h1 S hA fun a' w' I' β' k1 k2 k3=> ?_;obtain ⟨I2,cB,l1,l2,l3⟩:=Yp (m:=m) (pur:=A.pur f id) k2 k3;have hE2:=(hE.trans k1.zX).trans l1.zX;exact hQ a' w' (Inv.canon ⟨I2,cB,l2,l3,hE2⟩ hm km)
 | seq x y ic ig=>
  intro st st' out Q a w h hI hQ;simp only[exec] at h;obtain ⟨⟨o1,kj⟩,h1,h2⟩:=bind_some h;refine wp_seq (ic h1 hI fun a' w' fD=> ?_);cases o1 with
  | norm=>exact ig h2 fD hQ
  | exit id=>
   simp only[ey,lA] at h2;obtain ⟨rfl,rfl⟩:=h2;exact hQ a' w' fD
  | ret=>
   simp only[ey,lA] at h2;obtain ⟨rfl,rfl⟩:=h2;exact hQ a' w' fD
 | cond c x y ic ig=>
  intro st st' out Q a w h hI hQ;cases c with
  | tmp t=>
   have go: ∀{st st':St} {out:Out} {Q:Exit→Act→World→Prop} {a:Act} {w:World},(match st.sl t with
     | .bool b=>(bif b then exec P A C f n m x st else exec P A C f n m y st).bind fun r=>
      match r.1 with
      | .norm=>some (.norm,AM.canon m (A.join f t) r.2)
      | _=>some r
     | _=>none)=some (out,st')→Inv P A.idle A.aF B M w0 μ hp0 n a w st→(∀a' w',Inv P A.idle A.aF B M w0 μ hp0 n a' w' st'→Q (Ad out) a' w')→(Code.cond (.tmp t) x y).wp P Q a w:=by
    intro st st' out Q a w h hI hQ;cases hs:st.sl t<;>rw[hs] at h<;>simp only at h<;>first|(cases h;done)|skip
    rename_i b;obtain ⟨⟨o1,kj⟩,h1,h2⟩:=bind_some h;obtain ⟨I,β,S,hA,hE⟩:=hI;have fK:a.eval (.tmp t)= .bool b:=by
     have:=XW hA hs;simp[Act.eval,this]
    have fin: ∀a' w',Inv P A.idle A.aF B M w0 μ hp0 n a' w' kj→Q (Ad o1) a' w':=by
     intro a' w' fD;cases o1 with
     | norm=>
      simp only[ey,lA] at h2;obtain ⟨rfl,rfl⟩:=h2;exact hQ a' w' (fD.canon hm km)
     | exit id=>
      simp only[ey,lA] at h2;obtain ⟨rfl,rfl⟩:=h2;exact hQ a' w' fD
     | ret=>
      simp only[ey,lA] at h2;obtain ⟨rfl,rfl⟩:=h2;exact hQ a' w' fD
    refine wp_cond fK ?_;cases b with
    | true=>exact ic h1 ⟨I,β,S,hA,hE⟩ fin
    | false=>exact ig h1 ⟨I,β,S,hA,hE⟩ fin
   simp only[exec] at h;split at h
   ·exact go h hI hQ
   ·obtain ⟨ds,h1,h2⟩:=bind_some h;obtain ⟨e,h3,h4⟩:=bind_some h2;obtain ⟨⟨o1,s1⟩,h5,h6⟩:=bind_some h3;obtain ⟨rfl,S',k1,rfl⟩:=PH h6 h4;exact go h5 (hI.reshape h1 hm) fun a' w' fD=>hQ a' w' (fD.reshape k1 hm)
  | const v=>
   cases v with
   | bool b=>
    simp only[exec] at h;refine wp_cond (t:=b) rfl ?_;cases b with
    | true=>exact ic h hI hQ
    | false=>exact ig h hI hQ
   | _=>simp only[exec] at h;cases h
  | _=>simp only[exec] at h;cases h
 | block id c ih=>
  intro st st' out Q a w h hI hQ;simp only[exec] at h;obtain ⟨⟨o1,kj⟩,h1,h2⟩:=bind_some h;refine wp_block (ih h1 hI fun a' w' fD=> ?_);cases o1 with
  | norm=>
   simp only[ey,lA] at h2;obtain ⟨rfl,rfl⟩:=h2;exact hQ a' w' (fD.canon hm km)
  | exit aw=>
   simp only at h2;cases hb:Nat.beq aw id with
   | true=>
    rw[hb] at h2;simp only[cond_true,ey,lA] at h2;obtain ⟨rfl,rfl⟩:=h2;rw[aN] at hb;simp only[Ad,Exit.inBlock,hb,ly];exact hQ a' w' (fD.canon hm km)
   | false=>
    rw[hb] at h2;simp only[cond_false,ey,lA] at h2;obtain ⟨rfl,rfl⟩:=h2;have bL:aw≠id:=fun e=>by rw[e,mo] at hb;cases hb
    simp only[Ad,Exit.inBlock,bL,m7];exact hQ a' w' fD
  | ret=>
   simp only[ey,lA] at h2;obtain ⟨rfl,rfl⟩:=h2;exact hQ a' w' fD
 | loop c ih=>
  intro st st' out Q a w h hI hQ;simp only[exec] at h;split at h
  ·cases h
  ·rename_i S hS;obtain ⟨ds,h1,h2⟩:=bind_some h;obtain ⟨e,h3,h4⟩:=bind_some h2;obtain ⟨k,hk⟩:=zi h3;refine ah8 (J:=fun k a w=> ∃ds,Inv P A.idle A.aF B M w0 μ hp0 n a w (bI S.1 ds)∧fR (fun ds=>oa m S.1 S.2 (exec P A C f n m c (bI S.1 ds))) k ds=some e) (fun a w ⟨s,_,h⟩=>by cases h) (fun k a w ⟨ds,hs,hk⟩=> ?_) ⟨ds,hI.reshape h1 hm,hk⟩;simp only[fR] at hk;obtain ⟨y,h5,h6⟩:=bind_some hk;unfold oa at h5;obtain ⟨⟨o1,s1⟩,h7,h8⟩:=bind_some h5;refine ih h7 hs fun a' w' fD=> ?_;have YG: ∀{e':Nat×List V},ways m 0 S.2 (o1,s1)=some e'→e'=e→Q (Ad o1) a' w':=by
    intro e' q1 q2;subst q2;obtain ⟨rfl,S',k1,rfl⟩:=PH q1 h4;exact hQ a' w' (fD.reshape k1 hm)
   cases o1 with
   | norm=>
    obtain ⟨ds2,q1,q2⟩:=bind_some h8;cases q2;exact ⟨ds2,fD.reshape q1 hm,h6⟩
   | exit id=>
    obtain ⟨e',q1,q2⟩:=bind_some h8;cases q2;cases h6;exact YG q1 rfl
   | ret=>
    obtain ⟨e',q1,q2⟩:=bind_some h8;cases q2;cases h6;exact YG q1 rfl
 | _=>intro st st' out Q a w h;simp only[exec] at h;cases h
end
section
variable {P:Program} {A:di} {w w':World} {I I' I2:Nat→Nat→Prop} {μ β β' cB:Nat→Option Nat} {hp hp' hp0:Nat→Option ag} {C:af} {B:Nat} {M:Nat→Prop} {w0:Start}
theorem JH (S:aA P w I β hp B M w0) {a:Act} {st:St} (hs:mB P w I β hp a st.sl): ∀{l:List ResultVar} {xs:List V} {rd:List Nat},(wZ P st l).run C hp=some (xs,rd)→
  ∃vs:List Value,(l.mapM fun| .tmp t=>Pure.pure (a.tmps.getD t undef)| .cell x t=>do loadVar t (←asAddr (a.tmps.getD x undef)):Sem (List Value)).run P w= .ok vs w∧vs.length=xs.length∧l.length=xs.length∧
   ∀(j:Nat) v x,vs[j]? =some v→xs[j]? =some x→ai P w I β hp v x
 | [],xs,rd,h=>by
  cases h;simp_all
 | .tmp t::l,xs,rd,h=>by
  simp only[wZ] at h;obtain ⟨ys,l1,l2,h1,h2⟩:=na h;have h3:=N0 h2;subst h3;obtain ⟨vs,a1,a2,a3,a4⟩:=JH S hs h1;refine ⟨a.tmps.getD t undef::vs,by simp_all,by simp[a2],by simp[a3],fun j v x hj hx=> ?_⟩;cases j with
  | zero=>simp at hj hx;subst hj;subst hx;have:=hs t;simp_all
  | succ j=>grind
 | .cell y t::l,xs,rd,h=>by
  simp only[wZ] at h;obtain ⟨r,l1,l2,h1,h2⟩:=na h;obtain ⟨ys,l3,l4,h3,h4⟩:=na h2;have h5:=N0 h4;subst h5;obtain ⟨v0,b1,b2,b3,ad,b4⟩:=VZ S (hs y) h1;obtain ⟨vs,a1,a2,a3,a4⟩:=JH S hs h3;refine ⟨v0::vs,?_,by simp[a2],by simp[a3],fun j v x hj hx=> ?_⟩
  ·have e1:(do loadVar t (←asAddr (a.tmps.getD y undef)):Sem Value).run P w= .ok v0 w:=by
    rw[b4] at b1⊢;simpa[Instr.loadAt,Instr.sureAddr,asAddr] using b1
   simp only[List.mapM_cons,Sem.run_bind,e1,Result.andThen_ok,a1,Sem.run_pure]
  grind
def xN:List Value→Value
 | [v]=>v
 | l=> .tuple l.toArray
theorem aib {vs:List Value} (h:vs.length≠1):xN vs= .tuple vs.toArray:=by
 match vs,h with
 | [],_=>rfl
 | [v],h=>simp at h
 | v::v2::l,_=>rfl
theorem aic {fn:Func} {a:Act} {st:St} (S:aA P w I β st.hp B M w0) (hs:mB P w I β st.hp a st.sl) {xs:List V} {rd:List Nat} (h:(wZ P st fn.results.toList).run C st.hp=some (xs,rd)):
  ∃vs:List Value,(results fn a.tmps).run P w= .ok (xN vs) w∧vs.length=xs.length∧
   ∀(j:Nat) v x,vs[j]? =some v→xs[j]? =some x→ai P w I β st.hp v x:=by
 obtain ⟨vs,a1,a2,_,a4⟩:=JH S hs h;refine ⟨vs,?_,a2,a4⟩;unfold results;rw[Array.mapM_eq_mapM_toList];simp only[map_eq_pure_bind,bind_assoc,pure_bind,Sem.run_bind];refine (congrArg (fun r:Result (List Value)=>r.andThen _) a1).trans ?_;simp only[Result.andThen_ok,Sem.run_pure]
 match vs with
 | []=>simp[xN]
 | [v]=>simp[xN]
 | v::v2::l=>simp[xN]
theorem YH: ∀{args:List V} {i k:Nat},eL (pQ i args) k=if i≤k then args[k-i]? else none
 | [],i,k=>by simp[pQ,eL]
 | v::vs,i,k=>by
  simp only[pQ,eL];cases hb:Nat.beq k i with
  | true=>
   simp_all
  | false=>
   have bL:k≠i:=fun e=>by simp_all
   simp only[cond_false,YH];grind
theorem PI: ∀{l:List (Nat×VS)} {ds:List V} {i k:Nat},jS i l=true→eL (gB l ds) k=if i≤k then (ia (l.map (·.2)) ds)[k-i]? else none
 | [],ds,i,k,_=>by simp[gB,ia,eL]
 | (q,s)::l,ds,i,k,h=>by
  simp only[jS,aK,aN] at h;obtain ⟨rfl,h⟩:=h;simp only[gB,eL,iQ,ia];cases hb:Nat.beq k q with
  | true=>
   simp_all
  | false=>
   have bL:k≠q:=fun e=>by simp_all
   simp only[cond_false];rw[PI h];grind
theorem YI: ∀{l:List (Nat×VS)} {ds:List V},(gB l ds).map (·.2)=ia (l.map (·.2)) ds
 | [],_=>rfl
 | (q,s)::l,ds=>by simp only[gB,iQ,ia,YI]
theorem PJ: ∀{l:List VS} {ds:List V},(ia l ds).length=l.length
 | [],_=>rfl
 | s::l,ds=>by simp only[ia,List.length_cons,PJ]
theorem YJ: ∀{l:List (Nat×VS)} {ds:List V},(gB l ds).length=l.length
 | [],_=>rfl
 | (q,s)::l,ds=>by simp only[gB,List.length_cons,YJ]
theorem aid {vals:List Value} {l:List (Nat×V)} (hl:vals.length=l.length) (h: ∀(j:Nat) v y,vals[j]? =some v→(l.map (·.2))[j]? =some y→ai P w I β hp v y):ai P w I β hp (xN vals) (rS l):=by
 match l,hl,h with
 | [],hl,h=>
  obtain rfl:vals=[]:=nQ hl;exact .aX rfl fun j v x _ hx=>by simp at hx
 | [(k,y)],hl,h=>
  match vals,hl,h with
  | [v],_,h=>exact h 0 v y rfl rfl
 | a::b::l,hl,h=>
  have bL:vals.length≠1:=by grind
  rw[aib bL];simp only[rS];exact .aX (by simp[hl]) fun j v y hj hy=>h j v y (by grind) hy
theorem aie {l:List BS} {ds:List V} {j:Nat} {e:TypeId} {es:List V} {vers:List Nat} (h:(fT l ds)[j]? =some (.nest e es vers)) (k:Nat):bz vers k=0:=by
 obtain ⟨b,iZ,_,h2⟩:=Jq h;cases b<;>simp only[gk] at h2<;>cases h2
 match k with
 | 0=>rfl
 | 1=>rfl
 | 2=>rfl
 | _+3=>rfl
theorem aif {f n m:Nat} {fn:Func} {a:Act} {st:St} {es:List V} {rd:List Nat} (hm: ∀id blk,hp0 id=some blk→id<m) (km:xM hp0)
  (hI:Inv P A.idle A.aF B M w0 μ hp0 n a w st) (sw:jS 0 (A.gz f).ch=true) (aU:(A.gz f).ch.length=fn.results.size) (h:(w4 P A f fn m st).run C st.hp=some (es,rd)):
  ∃v I2 cB,(results fn a.tmps).run P w= .ok v w∧aA P w I2 cB (bI (A.so f es) (A.lv f es)).hp B M w0∧nq w0.w w0.I μ hp0 w I2 cB (bI (A.so f es) (A.lv f es)).hp∧ai P w I2 cB (bI (A.so f es) (A.lv f es)).hp v (rS (gB (A.so f es).ch (A.lv f es))):=by
 unfold w4 at h;obtain ⟨xs,l1,l2,h1,h2⟩:=na h;obtain ⟨I,β,S,hA,hE⟩:=hI;obtain ⟨vals,e1,e2,e3⟩:=aic S hA.sl h1;have e4:fn.results.size=xs.length:=by
  obtain ⟨_,_,_,q,_⟩:=JH S hA.sl h1;omega
 have fin: ∀(Sx:Shape) (es:List V),jS 0 Sx.ch=true→Sx.ch.length=fn.results.size→kf m Sx (canon m (List.range xs.length++A.live f 9999) (freeze m (A.wU f) ⟨kR (pQ 0 xs),st.hp,st.nb⟩))=some es→
   ∃v I2 cB,(results fn a.tmps).run P w= .ok v w∧aA P w I2 cB (bI Sx es).hp B M w0∧nq w0.w w0.I μ hp0 w I2 cB (bI Sx es).hp∧ai P w I2 cB (bI Sx es).hp v (rS (gB Sx.ch es)):=by
  intro Sx es sw aU Ae;have hA0:gn P A.idle A.aF w I β vals.length ⟨vals.toArray,[]⟩ ⟨kR (pQ 0 xs),st.hp,st.nb⟩:=by
   refine ⟨fun k=> ?_,by simp,by simp,hA.aF⟩;change ai P w I β st.hp _ (kR (pQ 0 xs) k);unfold kR;rw[YH];simp only[kP,ly,Nat.sub_zero];cases hk:xs[k]? with
   | none=>exact .undef
   | some x=>
    have sf:k<vals.length:=by grind
    have:=e3 k vals[k] x (bS sf) hk;have e5:(vals.toArray).getD k undef=vals[k]:=by simp[sf]
    grind
  obtain ⟨I2,cB,k1,k2,k3⟩:=Yp (st:=⟨kR (pQ 0 xs),st.hp,st.nb⟩) (m:=m) (pur:=A.wU f) S hA0;have PK:Inv P A.idle A.aF B M w0 μ hp0 vals.length ⟨vals.toArray,[]⟩ w (freeze m (A.wU f) ⟨kR (pQ 0 xs),st.hp,st.nb⟩):=⟨I2,cB,k2,k3,hE.trans k1.zX⟩
  obtain ⟨I3,YK,q1,q2,q3⟩:=(PK.canon (live:=List.range xs.length++A.live f 9999) hm km).reshape Ae hm;refine ⟨xN vals,I3,YK,e1,q1,q3,aid (by rw[YJ,aU,e4,e2]) fun j v y hj hy=> ?_⟩;have hv:=q2.sl j;have dn:=(ct.1 hj).1;have e5:(vals.toArray).getD j undef=v:=by
   simp_all
  change ai P w I3 YK _ ((vals.toArray).getD j undef) (kR (gB Sx.ch _) j) at hv;rw[e5] at hv;unfold kR at hv;rw[PI sw] at hv;simp only[kP,ly,Nat.sub_zero] at hv;rw[YI] at hy;grind
 unfold di.so di.lv;cases dc:A.alt f with
 | none=>
  rw[dc] at h2;simp only at h2⊢;split at h2
  ·rename_i iZ Ae;have:=aM h2;grind
  ·cases h2
 | some S2=>
  rw[dc] at h2;simp only at h2⊢;split at h2
  ·rename_i iZ Ae;have:=aM h2;subst this;exact fin _ _ sw aU Ae
  ·split at h2
   ·rename_i iZ Ae;obtain ⟨hc,h3⟩:=aD h2;simp only[aK,aN] at hc;have:=aM h3;subst this;exact fin _ _ hc.1 hc.2 Ae
   ·cases h2
theorem aih (hC:nr P A C) (hP:jB P A) (p9:P.follows .mixedOrders=true):nr P A (qE P A C):=by
 intro f ds es h;unfold qE at h;cases hf:P.funcs[A.iD f]? with
 | none=>grind
 | some fn=>
  rw[hf] at h;simp only at h;cases hb:fn.body with
  | none=>grind
  | some c=>
   rw[hb] at h;simp only at h;cases hc:(jS 0 (A.sin f).ch&&(Nat.ble (A.sin f).ch.length fn.ntmps&&((A.sin f).ok&&(jS 0 (A.gz f).ch&&(Nat.beq (A.gz f).ch.length fn.results.size&&qC (oS (A.sin f).cO.length (A.mv f))))))) with
   | false=>grind
   | true=>
    rw[hc] at h;simp only[cond_true] at h;simp only[aK,aN,fk] at hc;obtain ⟨gb,hnt,_,p7,aU,lg⟩:=hc;obtain ⟨⟨out,st'⟩,h1,h2⟩:=bind_some h;refine ⟨fn,c,rfl,hb,fun w I μ vals hH YL hl hv=> ?_⟩;have aii:(∀id,out≠ .exit id)∧∃rd,(w4 P A f fn (A.sin f).cO.length st').run C st'.hp=some (es,rd):=by
     cases out with
     | exit id=>cases h2
     | norm=>
      simp_all
     | ret=>
      simp_all
    obtain ⟨bL,rd,Pd⟩:=aii;refine calls_of_wp_defers hf hb ?_;have hm: ∀id blk,(bI (A.sin f) ds).hp id=some blk→id<(A.sin f).cO.length:=by
     intro id blk ab;simp only[bI,mk,jA] at ab;have:=(ct.1 ab).1;rwa [JG] at this
    have km:xM (bI (A.sin f) ds).hp:=by
     intro id e es vers ab k;simp only[bI,mk,jA] at ab;rcases ab with ab|⟨i,ab⟩
     ·exact aie ab k
     ·obtain ⟨b,_,_,h⟩:=Jq ab;cases b<;>cases h
    refine aia (w0:=⟨w,I⟩) (μ:=μ) (hp0:=(bI (A.sin f) ds).hp) (B:=w.heap.size) (M:=ra P w μ (bI (A.sin f) ds).hp) hC hP p9 hm km c h1 ?_ ?_
    ·refine Inv.enter lg ?_ hm km fun p hp=>by
      simp only[bI,mk,jA];rw[List.getElem?_eq_none_iff,JG];exact hp
     refine ⟨I,μ,⟨hH,fun _ _ _=>rfl,az _,fun b j h=> .inl h,⟨rfl,rfl⟩⟩,⟨fun k=> ?_,?_,by simp,YL⟩,(Le.refl (P:=P) w I μ _).zX⟩
     ·change ai P w I μ _ _ (kR (gB (A.sin f).ch ds) k);unfold kR;rw[PI gb];simp only[kP,ly,Nat.sub_zero];cases hk:(ia ((A.sin f).ch.map (·.2)) ds)[k]? with
      | none=>exact .undef
      | some x=>
       have sf:k<vals.length:=by
        have:=(ct.1 hk).1;rw[PJ,cY] at this;omega
       have:=hv k vals[k] x (bS sf) hk;have e1:(vals.toArray++Array.replicate (fn.ntmps-vals.toArray.size) undef).getD k undef=vals[k]:=by
        simp[Array.getElem?_append,sf]
       grind
     grind
    ·intro a' w' hI;obtain ⟨v,I2,cB,q1,q2,q3,q4⟩:=aif hm km hI p7 aU Pd;obtain ⟨_,_,_,hA,_⟩:=hI;cases out with
     | exit id=>grind
     | norm=>exact Pu hP q1 ⟨v,I2,cB,rfl,q2,q3,q4⟩ _ hA.defers
     | ret=>exact Pu hP q1 ⟨v,I2,cB,rfl,q2,q3,q4⟩ _ hA.defers
theorem YM (hP:jB P A) (p9:P.follows .mixedOrders=true): ∀n,nr P A (mz P A n)
 | 0=>fun _ _ _ h=>by cases h
 | n+1=>aih (YM hP p9 n) hP p9
theorem aij (hP:jB P A) (p9:P.follows .mixedOrders=true):nr P A (Call P A):=by
 intro f ds es h;have hn: ∃n,mz P A n f ds=some es:=by
  unfold Call at h;split at h
  all_goals grind
 obtain ⟨n,hn⟩:=hn;exact YM hP p9 n f ds es hn
end
section
variable {P:Program} {A:di} {C:af} {D:Nat→af}
def DK (C:af) (D:Nat→af):Prop:= ∀f a r,C f a=some r→∃n,∀k,n≤k→D k f a=some r
theorem sB {α:Type} (h:DK C D) {hp:Nat→Option ag}: ∀{p:Rd α} {r:α×List Nat},p.run C hp=some r→∃n,∀k,n≤k→p.run (D k) hp=some r
 | .ret a,r,e=>⟨0,fun _ _=>e⟩
 | .fail,r,e=>by cases e
 | .get id q,r,e=>by
  obtain ⟨x,h1,h2⟩:=bind_some e;obtain ⟨n,hn⟩:=sB h h1;exact ⟨n,fun k hk=>by simp only[Rd.run,hn k hk,Option.bind_some];exact h2⟩
 | .opt o q,r,e=>by
  obtain ⟨x,h1,h2⟩:=bind_some e;obtain ⟨n,hn⟩:=sB h h2;exact ⟨n,fun k hk=>by simp only[Rd.run,h1,Option.bind_some];exact hn k hk⟩
 | .live id ok q,r,e=>by
  simp only[Rd.run] at e;cases hk:ok (iC (hp id)) with
  | false=>rw[hk] at e;cases e
  | true=>
   rw[hk] at e;obtain ⟨x,h1,h2⟩:=bind_some e;obtain ⟨n,hn⟩:=sB h h1;exact ⟨n,fun k xI=>by simp only[Rd.run,hk,cond_true,hn k xI,Option.bind_some];exact h2⟩
 | .aB b q,r,e=>by
  obtain ⟨h1,h2⟩:=aD e;obtain ⟨n,hn⟩:=sB h h2;exact ⟨n,fun k hk=>by simp only[Rd.run,h1,cond_true];exact hn k hk⟩
 | .call f a q,r,e=>by
  obtain ⟨x,h1,h2⟩:=bind_some e;obtain ⟨n1,gb⟩:=h f a x h1;obtain ⟨n2,p7⟩:=sB h h2;exact ⟨max n1 n2,fun k hk=>by simp only[Rd.run,gb k (by omega),Option.bind_some];exact p7 k (by omega)⟩
 | .alt true x y,r,e=>sB (p:=x) h e
 | .alt false x y,r,e=>sB (p:=y) h e
theorem aik (h:DK C D) {n i nb:Nat} {ops:Array Oper} {o:Oper} {st:St} {r:St×List Nat×List Nat} (e:jo P A C n ops i o nb st=some r): ∃N,∀k,N≤k→jo P A (D k) n ops i o nb st=some r:=by
 unfold jo at e;have go:(((gL P A st.sl i (nb+64*i) o).run C st.hp).bind fun r=>some ((⟨jR st.sl o.dst r.1.v,cb st.hp r.1.upd,st.nb⟩:St),tH r.2 r.1.upd,ib st.hp r.1.upd))=some r→
   ∃N,∀k,N≤k→(((gL P A st.sl i (nb+64*i) o).run (D k) st.hp).bind fun r=>some ((⟨jR st.sl o.dst r.1.v,cb st.hp r.1.upd,st.nb⟩:St),tH r.2 r.1.upd,ib st.hp r.1.upd))=some r:=by
  intro e;obtain ⟨x,h1,h2⟩:=bind_some e;obtain ⟨N,hN⟩:=sB h h1;exact ⟨N,fun k hk=>by rw[hN k hk];exact h2⟩
 unfold jo;cases hd:vz o n with
 | false=>rw[hd] at e;cases e
 | true=>
  rw[hd] at e;simp only[cond_true] at e⊢;cases hg:o.guard with
  | none=>rw[hg] at e;exact go e
  | some gw=>
   obtain ⟨g,want⟩:=gw;rw[hg] at e;simp only at e⊢;cases mJ:(ops[g]?).bind (·.dst) with
   | none=>rw[mJ] at e;cases e
   | some d=>
    rw[mJ] at e;simp only at e⊢;cases o6:nY (st.sl d) with
    | none=>rw[o6] at e;cases e
    | some ob=>
    rw[o6] at e;cases ob with
    | none=>exact ⟨0,fun _ _=>e⟩
    | some b=>
    simp only at e⊢;cases hb:b==want with
    | true=>rw[hb] at e;exact go e
    | false=>rw[hb] at e;exact ⟨0,fun _ _=>e⟩
theorem YN (h:DK C D) {n nb:Nat} {ops:Array Oper}: ∀{l:List (Nat×Oper)} {st:St} {log:Log} {r:St×Log},rT P A C n ops nb l st log=some r→∃N,∀k,N≤k→rT P A (D k) n ops nb l st log=some r
 | [],st,log,r,e=>⟨0,fun _ _=>e⟩
 | (i,o)::l,st,log,r,e=>by
  obtain ⟨x,h1,h2⟩:=bind_some e;obtain ⟨N1,rf⟩:=aik h h1;obtain ⟨N2,uk⟩:=YN h h2;exact ⟨max N1 N2,fun k hk=>by simp only[rT,rf k (by omega),Option.bind_some];exact uk k (by omega)⟩
theorem YO {X R:Type} {step:X→Option (X ⊕ R)} {stepD:Nat→X→Option (X ⊕ R)} (hs: ∀x y,step x=some y→∃N,∀k,N≤k→stepD k x=some y): ∀(n:Nat) (x:X) (r:R),fR step n x=some r→∃N,∀k,N≤k→fR (stepD k) n x=some r
 | 0,x,r,e=>by cases e
 | n+1,x,r,e=>by
  simp only[fR] at e⊢;obtain ⟨y,h1,h2⟩:=bind_some e;obtain ⟨N1,rf⟩:=hs x y h1;cases y with
  | inl z=>
   obtain ⟨N2,uk⟩:=YO hs n z r h2;exact ⟨max N1 N2,fun k hk=>by rw[rf k (by omega)];exact uk k (by omega)⟩
  | inr q=>exact ⟨N1,fun k hk=>by rw[rf k hk];exact h2⟩
theorem ail (h:DK C D) {f n m:Nat}: ∀(c:Code) {st:St} {r:Out×St},exec P A C f n m c st=some r→∃N,∀k,N≤k→exec P A (D k) f n m c st=some r:=by
 intro c
 induction c with
 | skip=>exact fun e=>⟨0,fun _ _=>e⟩
 | exit id=>exact fun e=>⟨0,fun _ _=>e⟩
 | ret=>exact fun e=>⟨0,fun _ _=>e⟩
 | region id ops draw=>
  intro st r e;simp only[exec] at e⊢;obtain ⟨x,h1,h2⟩:=bind_some e;obtain ⟨y,h3,h4⟩:=bind_some h1;obtain ⟨N,hN⟩:=YN h h3;refine ⟨N,fun k hk=> ?_⟩;have:zw P (A.here f id) (D k) n ops draw st=some x:=by
   unfold zw;rw[hN k hk];exact h4
  rw[this];exact h2
 | seq x y ic ig=>
  intro st r e;simp only[exec] at e⊢;obtain ⟨⟨o,s1⟩,h1,h2⟩:=bind_some e;obtain ⟨N1,rf⟩:=ic h1;cases o with
  | norm=>
   obtain ⟨N2,uk⟩:=ig h2;exact ⟨max N1 N2,fun k hk=>by rw[rf k (by omega)];exact uk k (by omega)⟩
  | exit id=>exact ⟨N1,fun k hk=>by rw[rf k hk];exact h2⟩
  | ret=>exact ⟨N1,fun k hk=>by rw[rf k hk];exact h2⟩
 | cond c x y ic ig=>
  intro st r e;cases c with
  | tmp t=>
   have go: ∀{st:St} {r:Out×St},(match st.sl t with
     | .bool b=>(bif b then exec P A C f n m x st else exec P A C f n m y st).bind fun r=>
      match r.1 with
      | .norm=>some (.norm,canon m (A.join f t) r.2)
      | _=>some r
     | _=>none)=some r→∃N,∀k,N≤k→(match st.sl t with
     | .bool b=>(bif b then exec P A (D k) f n m x st else exec P A (D k) f n m y st).bind fun r=>
      match r.1 with
      | .norm=>some (.norm,canon m (A.join f t) r.2)
      | _=>some r
     | _=>none)=some r:=by
    intro st r e;cases hs:st.sl t<;>rw[hs] at e<;>simp only at e⊢ <;>first|(cases e;done)|skip
    rename_i b;obtain ⟨x1,h1,h2⟩:=bind_some e;cases b with
    | true=>
     obtain ⟨N,hN⟩:=ic h1;exact ⟨N,fun k hk=>by simp only[cond_true,hN k hk,Option.bind_some];exact h2⟩
    | false=>
     obtain ⟨N,hN⟩:=ig h1;exact ⟨N,fun k hk=>by simp only[cond_false,hN k hk,Option.bind_some];exact h2⟩
   simp only[exec] at e⊢;split at e
   ·rename_i hS;obtain ⟨N,hN⟩:=go e;exact ⟨N,fun k hk=>hN k hk⟩
   ·rename_i S hS;obtain ⟨ds,h1,h2⟩:=bind_some e;obtain ⟨e',h3,h4⟩:=bind_some h2;obtain ⟨r1,h5,h6⟩:=bind_some h3;obtain ⟨N,hN⟩:=go h5;refine ⟨N,fun k hk=> ?_⟩
    try rw[hS]
    simp only[h1,Option.bind_some];exact (congrArg (fun z:Option (Out×St)=>(z.bind fun r=>ways m 0 S.2 r).bind fun e=>my 0 S.2 e.1 e.2 fun o st=>some (o,st)) (hN k hk)).trans (by simp only[Option.bind_some,h6];exact h4)
  | const v=>
   cases v with
   | bool b=>
    simp only[exec] at e⊢;cases b with
    | true=>exact ic e
    | false=>exact ig e
   | _=>simp only[exec] at e;cases e
  | _=>simp only[exec] at e;cases e
 | block id c ih=>
  intro st r e;simp only[exec] at e⊢;obtain ⟨x1,h1,h2⟩:=bind_some e;obtain ⟨N,hN⟩:=ih h1;exact ⟨N,fun k hk=>by rw[hN k hk];exact h2⟩
 | loop c ih=>
  intro st r e;simp only[exec] at e⊢;split at e
  ·cases e
  ·rename_i S hS;obtain ⟨ds,h1,h2⟩:=bind_some e;obtain ⟨e',h3,h4⟩:=bind_some h2;obtain ⟨q,hq⟩:=zi h3;obtain ⟨N,hN⟩:=YO (stepD:=fun k ds=>oa m S.1 S.2 (exec P A (D k) f n m c (bI S.1 ds))) (fun x y DL=>by
    unfold oa at DL⊢;obtain ⟨z,h5,h6⟩:=bind_some DL;obtain ⟨N,hN⟩:=ih h5;exact ⟨N,fun k hk=>by rw[hN k hk];exact h6⟩) q ds e' hq
   refine ⟨N,fun k hk=> ?_⟩
   try rw[hS]
   simp only[h1,Option.bind_some];rw[zh (hN k hk)];exact h4
 | _=>intro st r e;simp only[exec] at e;cases e
theorem JI (h:DK C D) {f:Nat} {ds es:List V} (e:qE P A C f ds=some es): ∃N,∀k,N≤k→qE P A (D k) f ds=some es:=by
 unfold qE at e⊢;cases hf:P.funcs[A.iD f]? with
 | none=>rw[hf] at e;cases e
 | some fn=>
  rw[hf] at e;simp only at e⊢;cases hb:fn.body with
  | none=>rw[hb] at e;cases e
  | some c=>
   rw[hb] at e;simp only at e⊢;cases hc:(jS 0 (A.sin f).ch&&(Nat.ble (A.sin f).ch.length fn.ntmps&&((A.sin f).ok&&(jS 0 (A.gz f).ch&&(Nat.beq (A.gz f).ch.length fn.results.size&&qC (oS (A.sin f).cO.length (A.mv f))))))) with
   | false=>rw[hc] at e;cases e
   | true=>
    rw[hc] at e;simp only[cond_true] at e⊢;obtain ⟨⟨o,s1⟩,h1,h2⟩:=bind_some e;obtain ⟨N1,rf⟩:=ail h c h1;cases o with
    | exit id=>cases h2
    | norm=>
     simp only[Option.map_eq_some_iff] at h2;obtain ⟨x,e1,e2⟩:=h2;obtain ⟨N2,uk⟩:=sB h e1;exact ⟨max N1 N2,fun k hk=>by rw[rf k (by omega)];simp only[Option.bind_some,uk k (by omega),Option.map_some,e2]⟩
    | ret=>
     simp only[Option.map_eq_some_iff] at h2;obtain ⟨x,e1,e2⟩:=h2;obtain ⟨N2,uk⟩:=sB h e1;exact ⟨max N1 N2,fun k hk=>by rw[rf k (by omega)];simp only[Option.bind_some,uk k (by omega),Option.map_some,e2]⟩
theorem YP: ∀n f a r,mz P A n f a=some r→mz P A (n+1) f a=some r
 | 0,f,a,r,h=>by cases h
 | n+1,f,a,r,h=>by
  obtain ⟨N,hN⟩:=JI (C:=mz P A n) (D:=fun _=>mz P A (n+1)) (fun f a r h=>⟨0,fun _ _=>YP n f a r h⟩) h;exact hN N (az _)
theorem PL {n k:Nat} (hk:n≤k) {f:Nat} {a r:List V} (h:mz P A n f a=some r):mz P A k f a=some r:=by
 induction hk with
 | refl=>exact h
 | step _ ih=>exact YP _ _ _ _ ih
theorem DM {f:Nat} {a r:List V}:Call P A f a=some r↔∃n,mz P A n f a=some r:=by
 constructor
 ·intro h;unfold Call at h;split at h
  ·rename_i hex;have:=hex.choose_spec.choose_spec;rw[dC h] at this;exact ⟨_,this⟩
  ·cases h
 ·rintro ⟨n,hn⟩;have hex: ∃n r,mz P A n f a=some r:=⟨n,r,hn⟩
  unfold Call;rw[pD hex];have h2:=hex.choose_spec.choose_spec;have h3:=PL (Nat.le_max_left n hex.choose) hn;have h4:=PL (Nat.le_max_right n hex.choose) h2;rw[h3] at h4;exact h4.symm
theorem aim (f:Nat) (a:List V):Call P A f a=qE P A (Call P A) f a:=by
 apply Option.ext;intro r;constructor
 ·intro h;obtain ⟨n,hn⟩:=DM.1 h;cases n with
  | zero=>cases hn
  | succ n=>
   obtain ⟨N,hN⟩:=JI (C:=mz P A n) (D:=fun _=>Call P A) (fun f a r h=>⟨0,fun _ _=>DM.2 ⟨n,h⟩⟩) hn;exact hN N (az _)
 ·intro h;obtain ⟨N,hN⟩:=JI (C:=Call P A) (D:=mz P A) (fun f a r h=>by
   obtain ⟨n,hn⟩:=DM.1 h;exact ⟨n,fun k hk=>PL hk hn⟩) h
  exact DM.2 ⟨N+1,hN N (az _)⟩
end
end Go.AM
namespace Go.AM
open Go.IntKind (wrap)
open Go.ChangeShapes Go.WideShapes Go.RowKit
section
variable (P:Program)
inductive WT:TypeId→V→Prop
 | int {t:TypeId} {k:IntKind} {n:Int}:P.underlying t=some (.int k)→(Lit.int k n).wf=true→WT t (.int k n)
 | bool {t:TypeId} {b:Bool}:P.underlying t=some .bool→WT t (.bool b)
 | str {t:TypeId} {l:List UInt8}:P.underlying t=some .string→l.length≤maxLen→WT t (.str l)
 | list {t e:TypeId} {es:List V}:P.underlying t=some (.slice e)→es.length≤maxLen→
   (∀(i:Nat) x,es[i]? =some x→bZ P e=true→∃xs,x= .agg xs∧xs.length=(aP P e).length)→
   (∀(i j:Nat) x t',es[i]? =some x→(aP P e)[j]? =some t'→WT t' (bX P e x j))→WT t (.list e es)
def iH (t:TypeId) (x:V):Prop:=
 (bZ P t=true→∃xs,x= .agg xs∧xs.length=(aP P t).length)∧∀(j:Nat) t',(aP P t)[j]? =some t'→WT P t' (bX P t x j)
def tj:List TypeId→List V→Prop
 | [],[]=>True
 | t::ts,x::xs=>iH P t x∧tj ts xs
 | _,_=>False
def hasB (L:List TypeId) (t:TypeId):Bool:=L.any fun u=>Nat.beq u t
def JJ (L:List TypeId):Nat→List Field→Bool
 | _,[]=>true
 | n,f::fs=>hasB L f.type&&(Nat.beq f.offset n&&(Nat.beq (P.cellsOf f.type) (aP P f.type).length&&JJ L (n+P.cellsOf f.type) fs))
def DN:List Nat→List Nat→Bool
 | [],[]=>true
 | a::l,b::m=>Nat.beq a b&&DN l m
 | _,_=>false
def PM (L:List TypeId) (t:TypeId):Bool:=
 Nat.beq (P.cellsOf t) (aP P t).length&&
 match P.underlying t with
 | some (.int _)=>true
 | some .bool=>true
 | some .string=>true
 | some (.slice e)=>hasB L e&&cU P e
 | some (.struct fs)=>JJ P L 0 fs.toList&&DN (flat P t) (fs.toList.flatMap fun f=>aP P f.type)
 | some (.array n e)=>hasB L e&&(Nat.beq (P.cellsOf e) (aP P e).length&&DN (flat P t) (List.replicate n (aP P e)).flatten)
 | _=>false
def DO (L:List TypeId):Bool:=L.all fun t=>PM P L t
end
theorem JK {L:List TypeId} {t:TypeId} (h:hasB L t=true):t∈L:=by
 obtain ⟨u,hu,h2⟩:=List.any_eq_true.1 h;rw[aN] at h2;exact h2▸hu
theorem PN: ∀{l m:List Nat},DN l m=true→l=m
 | [],[],_=>rfl
 | a::l,b::m,h=>by
  simp only[DN,aK,aN] at h;rw[h.1,PN h.2]
 | [],_::_,h=>by cases h
 | _::_,[],h=>by cases h
section
variable {P:Program} {H:Type} {enc:TypeId×Value→H} {w:World} {base:Nat} {spare:Nat→Bool} {held:Bool} {L:List TypeId}
def ot (w:World):Nat→Nat→Prop:=fun b _=>b<w.heap.size
def qa (P:Program) (w:World) (ts:List TypeId) (cs:List Value) (xs:List V):Prop:=
 cs.length=ts.length∧xs.length=ts.length∧∀(j:Nat) t',ts[j]? =some t'→∃v y,cs[j]? =some v∧xs[j]? =some y∧Pure P w (ot w) t' v y∧WT P t' y
theorem qa.app {ts rR:List TypeId} {cs jX:List Value} {xs YQ:List V} (h:qa P w ts cs xs) (h':qa P w rR jX YQ):qa P w (ts++rR) (cs++jX) (xs++YQ):=by
 obtain ⟨a,b,c⟩:=h;obtain ⟨a',b',c'⟩:=h';refine ⟨by simp[a,a'],by simp[b,b'],fun j t' hj=> ?_⟩;by_cases aY:j<ts.length
 ·rw[mq aY] at hj;obtain ⟨v,y,e1,e2,e3⟩:=c j t' hj;exact ⟨v,y,by rw[mq (by omega)];exact e1,by rw[mq (by omega)];exact e2,e3⟩
 ·rw[nU (by omega)] at hj;obtain ⟨v,y,e1,e2,e3⟩:=c' _ t' hj;exact ⟨v,y,by rw[nU (by omega),a];exact e1,by rw[nU (by omega),b];exact e2,e3⟩
theorem ain {w:World} {a:Addr} {v:Value} (h:w.cell? a=some v):a.spot=none∧a.block<w.heap.size:=by
 unfold World.cell? at h;split at h
 ·rename_i hh;split at h
  ·cases h
  ·rename_i hs;exact ⟨by simpa using hs,(vg.1 hh).1⟩
 all_goals (first|cases h|skip)
theorem YR {rd:TypeId→List Value→Option (DataW H×List MemPlace)} (cs:List Value)
  (ih: ∀t cs x,t∈L→rd t cs=some x→∃xs,qa P w (aP P t) cs xs): ∀(fs:List Field) (n:Nat),JJ P L n fs=true→
  (∀f∈fs,∃x,rd f.type ((cs.drop f.offset).take (P.cellsOf f.type))=some x)→∃m xs,n≤m∧qa P w (fs.flatMap fun f=>aP P f.type) ((cs.drop n).take (m-n)) xs∧m-n=(fs.flatMap fun f=>aP P f.type).length
 | [],n,_,_=>⟨n,[],az _,⟨by simp,rfl,by simp⟩,by simp⟩
 | f::fs,n,h,hx=>by
  simp only[JJ,aK,aN] at h;obtain ⟨h1,h2,h3,h4⟩:=h;obtain ⟨x,hxf⟩:=hx f (by simp);obtain ⟨xs,jz⟩:=ih _ _ _ (JK h1) hxf;obtain ⟨m,ys,hm,um,sy⟩:=YR cs ih fs (n+P.cellsOf f.type) h4 fun g hg=>hx g (by simp[hg]);refine ⟨m,xs++ys,by omega,?_,by simp only[vh,gI];omega⟩;have:=jz.app um;rw[vh];rw[h2] at this;have e:(cs.drop n).take (m-n)=(cs.drop n).take (P.cellsOf f.type)++(cs.drop (n+P.cellsOf f.type)).take (m-(n+P.cellsOf f.type)):=by
   rw[show m-n=P.cellsOf f.type+(m-(n+P.cellsOf f.type)) by omega,List.take_add,List.drop_drop]
  rw[e];exact this
theorem YS {rd:List Value→Option (DataW H×List MemPlace)} (cs:List Value) {e:TypeId} (hs:P.cellsOf e=(aP P e).length)
  (ih: ∀cs x,rd cs=some x→∃xs,qa P w (aP P e) cs xs): ∀(n:Nat),
  (∀i,i<n→∃x,rd ((cs.drop (i*P.cellsOf e)).take (P.cellsOf e))=some x)→∃xs,qa P w (List.replicate n (aP P e)).flatten (cs.take (n*P.cellsOf e)) xs
 | 0,_=>⟨[],by simp,rfl,by simp⟩
 | n+1,hx=>by
  obtain ⟨xs,jz⟩:=YS cs hs ih n fun i hi=>hx i (by omega);obtain ⟨x,mH⟩:=hx n (by omega);obtain ⟨ys,um⟩:=ih _ _ mH;refine ⟨xs++ys,?_⟩;rw[List.replicate_succ',List.flatten_append];have:=jz.app um;rw[jN,Nat.one_mul,List.take_add];simpa using this
theorem JL (hL:DO P L=true): ∀(fuel:Nat) (t:TypeId) (cs:List Value) (x:DataW H×List MemPlace),t∈L→DataW.trod enc P w base spare held fuel t cs=some x→
  ∃xs,qa P w (aP P t) cs xs
 | 0,_,_,_,_,h=>by cases h
 | fuel+1,t,cs,x,ht,h=>by
  have hg:=fF.1 hL t ht;unfold PM at hg;rw[aK,aN] at hg;obtain ⟨hc,hg⟩:=hg;have one:bZ P t=false→aP P t=[t]:=fun h=>by simp[aP,h]
  cases hu:P.underlying t with
  | none=>rw[hu] at hg;cases hg
  | some d=>
   rw[hu] at hg;cases d with
   | int k=>
    obtain ⟨n,rfl,rfl,hwf⟩:=DataW.trod_int hu h;rw[one (by simp[bZ,hu])];exact ⟨[.int k n],rfl,rfl,fun j t' hj=>by
     cases j with
     | zero=>cases hj;exact ⟨_,_,rfl,rfl,.int hu,.int hu hwf⟩
     | succ j=>simp at hj⟩
   | bool=>
    obtain ⟨b,rfl,rfl⟩:=DataW.trod_bool hu h;rw[one (by simp[bZ,hu])];exact ⟨[.bool b],rfl,rfl,fun j t' hj=>by
     cases j with
     | zero=>cases hj;exact ⟨_,_,rfl,rfl,.bool hu,.bool hu⟩
     | succ j=>simp at hj⟩
   | string=>
    obtain ⟨s,rfl,rfl,hl⟩:=DataW.trod_string hu h;rw[one (by simp[bZ,hu])];exact ⟨[.str s.data.toList],rfl,rfl,fun j t' hj=>by
     cases j with
     | zero=>cases hj;exact ⟨_,_,rfl,rfl,.str hu rfl,.str hu (by simpa using hl)⟩
     | succ j=>simp at hj⟩
   | slice e=>
    simp only[aK] at hg;obtain ⟨he,au⟩:=hg;rw[one (by simp[bZ,hu])];have single: ∀v y,cs=[v]→Pure P w (ot w) t v y→WT P t y→∃xs,qa P w [t] cs xs:=by
     rintro v y rfl a b;exact ⟨[y],rfl,rfl,fun j t' hj=>by
      cases j with
      | zero=>cases hj;exact ⟨_,_,rfl,rfl,a,b⟩
      | succ j=>simp at hj⟩
    rcases DataW.trod_slice hu h with ⟨rfl,rfl⟩|⟨a,len,cap,elems,rest,n,hn,rfl,rfl,hb,hl,hm,hlen,eF,_,_⟩
    ·exact single _ _ rfl (.nil hu) (.list hu (by simp) (by simp) (by simp))
    ·cases hn;have gQ:=(nc au).2;have WU:P.cellsOf e=(aP P e).length:=(eC au).symm;have key: ∀i,i<len→∃jX xs,w.cells? base (a.add (i*P.cellsOf e)) (P.cellsOf e)=some jX∧qa P w (aP P e) jX xs:=by
      intro i hi;have h1:=eF i hi;rw[bS (by omega)] at h1;obtain ⟨jX,h2,h3⟩:=Option.bind_eq_some_iff.1 h1;obtain ⟨xs,jz⟩:=JL hL fuel e jX _ (JK he) h3;exact ⟨jX,xs,h2,jz⟩
     by_cases h0:len=0
     ·subst h0;exact single _ _ rfl (.emp hu) (.list hu (by simp) (by simp) (by simp))
     ·have nn:a.spot=none∧a.block<w.heap.size:=by
       obtain ⟨jX,xs,h2,_⟩:=key 0 (by omega);obtain ⟨_,h3,h4⟩:=World.cells?_some h2;have h5:=h4 0 gQ;rw[bS (by omega)] at h5;have:=ain h5;simpa[Addr.add] using this
      have hF: ∃(F:Nat→List Value) (X:Nat→List V),∀i,i<len→w.cells? base (a.add (i*P.cellsOf e)) (P.cellsOf e)=some (F i)∧qa P w (aP P e) (F i) (X i):=by
       refine ⟨fun i=>if hi:i<len then (key i hi).choose else [],fun i=>if hi:i<len then (key i hi).choose_spec.choose else [],fun i hi=> ?_⟩;simp only[pD hi];exact (key i hi).choose_spec.choose_spec
      obtain ⟨F,X,PO⟩:=hF;have hx: ∀(i j:Nat) y t',((List.range len).map fun i=>dm P e (X i))[i]? =some y→(aP P e)[j]? =some t'→i<len∧∃v,(F i)[j]? =some v∧Pure P w (ot w) t' v (bX P e y j)∧WT P t' (bX P e y j):=by
       intro i j y t' hy hj;have hi:i<len:=by
        have:=(ct.1 hy).1;simpa using this
       refine ⟨hi,?_⟩;simp[HU hi] at hy;obtain ⟨c1,c2,c3⟩:=(PO i hi).2;obtain ⟨v,z,d1,d2,d3,d4⟩:=c3 j t' hj;have:bX P e y j=z:=by
        rw[←hy];unfold bX dm;cases ha:bZ P e with
        | true=>
         simp only[cond_true,V.cell];rw[xi _ _ _ d2]
        | false=>
         simp only[cond_false];have:aP P e=[e]:=by simp[aP,ha]
         rw[this] at hj;cases j with
         | zero=>rw[xi _ _ _ d2]
         | succ j=>simp at hj
       rw[this];exact ⟨v,d1,d3,d4⟩
      have fH: ∀i j,i<len→j<P.cellsOf e→w.cell? ⟨a.block,a.off+(i*P.cellsOf e+j),none⟩=some ((F i).getD j undef):=by
       intro i j hi hj;obtain ⟨h1,h2⟩:=PO i hi;obtain ⟨_,h3,h4⟩:=World.cells?_some h1;have h5:=h4 j hj;rw[Go.Deep.add_add] at h5;have e1:a.add (i*P.cellsOf e+j)=⟨a.block,a.off+(i*P.cellsOf e+j),none⟩:=by
        obtain ⟨b,o,s⟩:=a;simp only at nn;rw[nn.1];exact mE ..
       rw[e1] at h5;rw[h5,vi,bS (by omega)];rfl
      have ha:a=⟨a.block,a.off,none⟩:=by
       obtain ⟨b,o,s⟩:=a;simp only at nn;rw[nn.1]
      refine single (.slice (some a) len cap) (.list e ((List.range len).map fun i=>dm P e (X i))) rfl ?_ ?_
      ·rw[ha];refine .list (fun i j=>(F i).getD j undef) hu (by simp) hl (fun _ _=>nn.2) fH ?_;intro i j y t' hy hj;obtain ⟨hi,v,d1,d2,_⟩:=hx i j y t' hy hj;rw[vi,d1];exact d2
      ·refine .list hu (by simp;omega) ?_ ?_
       ·intro i y hy JM;have hi:i<len:=by
         have:=(ct.1 hy).1;simpa using this
        simp[HU hi] at hy;rw[←hy];exact ⟨X i,by simp[dm,JM],(PO i hi).2.2.1⟩
       ·intro i j y t' hy hj;obtain ⟨_,v,_,_,d3⟩:=hx i j y t' hy hj;exact d3
   | struct fs=>
    simp only[aK] at hg;obtain ⟨xs,n,hn,rfl,hlen,o4,hx⟩:=DataW.trod_struct hu h;cases hn;have het:aP P t=fs.toList.flatMap fun f=>aP P f.type:=by
     rw[←PN hg.2];simp[aP,bZ,hu]
    obtain ⟨m,ys,_,um,hm⟩:=YR (w:=w) (rd:=fun t cs=>DataW.trod enc P w base spare held fuel t cs) cs (fun t cs x a b=>JL hL fuel t cs x a b) fs.toList 0 hg.1 (by
     intro f hf;obtain ⟨i,hi⟩:=rL hf;rw[pF] at hi;have jx:i<fs.size:=(vg.1 hi).1;exact ⟨_,(hx i f hi).trans (bS (by omega))⟩)
    rw[het];refine ⟨ys,?_⟩;have:(cs.drop 0).take (m-0)=cs:=by
     rw[lx,hm,←het,←hc,←hlen,va]
    rw[this] at um;exact um
   | array n e=>
    simp only[aK,aN] at hg;obtain ⟨xs,m,hn,rfl,hlen,o4,hx⟩:=DataW.trod_array hu h;cases hn;have het:aP P t=(List.replicate n (aP P e)).flatten:=by
     rw[←PN hg.2.2];simp[aP,bZ,hu]
    obtain ⟨ys,um⟩:=YS (w:=w) (rd:=DataW.trod enc P w base spare held fuel e) cs hg.2.1 (fun cs x b=>JL hL fuel e cs x (JK hg.1) b) n (by
     intro i hi;exact ⟨_,(hx i hi).trans (bS (by omega))⟩)
    rw[het];refine ⟨ys,?_⟩;have:cs.take (n*P.cellsOf e)=cs:=by
     have:n*P.cellsOf e=cs.length:=by
      rw[hlen,hc,het,hg.2.1];simp
     rw[this,va]
    rw[this] at um;exact um
   | _=>cases hg
end
section
variable {P:Program} {H:Type} {enc:TypeId×Value→H} {w:World} {L:List TypeId}
theorem aio {base PQ:Nat} {spare:Nat→Bool} {held:Bool} {r:Reach} {β:Nat→Option Nat} {hp:Nat→Option ag} (hL:DO P L=true) {t:TypeId} {v:Value} {d:DataW H} {ps:List MemPlace} (ht:t∈L) (gW:Value.okWide P w r PQ t v)
  (h:DataW.Trod enc P w base spare held t v d ps): ∃x,ai P w (ot w) β hp v x∧iH P t x:=by
 obtain ⟨fuel,hf⟩:=h;obtain ⟨xs,c1,c2,c3⟩:=JL hL fuel t _ _ ht hf;have hg:=fF.1 hL t ht;unfold PM at hg;rw[aK,aN] at hg;obtain ⟨_,hg⟩:=hg;have JM:bZ P t=true→∃x,ai P w (ot w) β hp v x∧iH P t x:=by
  intro ha;have hv: ∃cs,v= .agg cs:=by
   unfold Value.okWide at gW;unfold bZ at ha;grind
  obtain ⟨cs,rfl⟩:=hv;refine ⟨.agg xs,.agg (by simpa[Value.cells] using c1.trans c2.symm) fun j v x hv hx=> ?_,fun _=>⟨xs,rfl,c2⟩,fun j t' hj=> ?_⟩
  ·have hj:j<(aP P t).length:=by grind
   obtain ⟨v',y,e1,e2,e3,_⟩:=c3 j _ (bS hj);rw[hx] at e2;cases e2;have:cs[j]? =some v':=by simpa[Value.cells] using e1
   rw[hv] at this;cases this;exact .rV e3
  ·obtain ⟨v',y,e1,e2,_,e4⟩:=c3 j t' hj;have:bX P t (.agg xs) j=y:=by
    simp only[bX,ha,cond_true,V.cell];exact xi _ _ _ e2
   grind
 have qT:bZ P t=false→v.cells= #[v]→∃x,ai P w (ot w) β hp v x∧iH P t x:=by
  intro ha xo;have he:aP P t=[t]:=by simp[aP,ha]
  rw[he] at c1 c2 c3;obtain ⟨v',y,e1,e2,e3,e4⟩:=c3 0 t rfl;rw[xo] at e1;cases e1;refine ⟨y,.rV e3,⟨fun h=>absurd (ha.symm.trans h) (by simp),fun j t' hj=> ?_⟩⟩;rw[he] at hj;cases j with
  | succ j=>simp at hj
  | zero=>
   cases hj;simpa[bX,ha] using e4
 unfold Value.okWide at gW;cases hu:P.underlying t with
 | none=>grind
 | some dsc=>
  rw[hu] at hg gW;cases dsc with
  | int k=>
   refine qT (by simp[bZ,hu]) ?_;simp only[Cell.okWide,Cell.ok,hu] at gW;cases v<;>first|rfl|(simp at gW;done)|exact gW.elim
  | bool=>
   refine qT (by simp[bZ,hu]) ?_;simp only[Cell.okWide,Cell.ok,hu] at gW;cases v<;>first|rfl|(simp at gW;done)|exact gW.elim
  | string=>
   refine qT (by simp[bZ,hu]) ?_;simp only[Cell.okWide,Cell.ok,hu] at gW;cases v<;>first|rfl|(simp at gW;done)|exact gW.elim
  | slice e=>
   refine qT (by simp[bZ,hu]) ?_;simp only[Cell.okWide,Cell.ok,hu] at gW;cases v<;>first|rfl|(simp at gW;done)|exact gW.elim
  | struct fs=>exact JM (by simp[bZ,hu])
  | array n e=>exact JM (by simp[bZ,hu])
  | _=>cases hg
theorem YT {base PQ:Nat} {spare:Nat→Bool} {held:Bool} {r:Reach} {β:Nat→Option Nat} {hp:Nat→Option ag} (hL:DO P L=true): ∀{ts:List TypeId} {vs:List Value} {ds:List (DataW H)} {ps:List MemPlace},
  (∀t∈ts,t∈L)→(∀(j:Nat) t v,ts[j]? =some t→vs[j]? =some v→Value.okWide P w r PQ t v)→DataW.TrodAll enc P w base spare held ts vs ds ps→
  ∃xs,vs.length=xs.length∧(∀(j:Nat) v x,vs[j]? =some v→xs[j]? =some x→ai P w (ot w) β hp v x)∧tj P ts xs
 | [],vs,ds,ps,_,_,h=>by
  obtain ⟨rfl,rfl,rfl⟩:=trodAll_nil h;exact ⟨[],rfl,by simp,trivial⟩
 | t::ts,vs,ds,ps,hm,gW,h=>by
  obtain ⟨v,vB,d,YU,a,b,rfl,rfl,rfl,h1,h2⟩:=trodAll_cons h;obtain ⟨x,mH,jv⟩:=aio (β:=β) (hp:=hp) hL (hm t (by simp)) (gW 0 t v rfl rfl) h1;obtain ⟨xs,hl,hr,hw⟩:=YT (β:=β) (hp:=hp) hL (fun t ht=>hm t (by simp[ht])) (fun j t v a b=>gW (j+1) t v (by grind) (by grind)) h2;refine ⟨x::xs,by simp[hl],fun j v' x' hv hx=> ?_,jv,hw⟩;grind
theorem YV {base:Nat} {spare:Nat→Bool} {held:Bool}: ∀{ts:List TypeId} {vs:List Value} {ds:List (DataW H)} {ps:List MemPlace},DataW.TrodAll enc P w base spare held ts vs ds ps→ds.length=ts.length
 | [],vs,ds,ps,h=>by obtain ⟨rfl,rfl,rfl⟩:=trodAll_nil h;rfl
 | t::ts,vs,ds,ps,h=>by
  obtain ⟨v,vB,d,YU,a,b,rfl,rfl,rfl,h1,h2⟩:=trodAll_cons h;simp[YV h2]
theorem YW {base:Nat} (hl:laidOutB P=true) {W W':World} {YX:Nat→Bool}: ∀{ts:List TypeId} {vs:List Value} {ds:List (DataW H)} {ps:List MemPlace},(∀t∈ts,P.readableRec t=true∧t<P.types.size)→
  DataW.TrodAll enc P W base (fun _=>true) true ts vs ds ps→(∀p∈ps,W.sameAt W' p)→(∀p∈ps,YX p.block=true)→DataW.TrodAll enc P W' base YX true ts vs ds ps
 | [],vs,ds,ps,_,h,_,_=>by obtain ⟨rfl,rfl,rfl⟩:=trodAll_nil h;exact trodAll_mk0
 | t::ts,vs,ds,ps,hr,h,h1,h2=>by
  obtain ⟨v,vB,d,YU,a,b,rfl,rfl,rfl,h3,h4⟩:=trodAll_cons h;obtain ⟨r1,r2⟩:=hr t (by simp);exact trodAll_cons_mk (WideElems.Trod_stays hl r1 r2 h3 (fun p hp=>h1 p (by simp[hp])) (fun p hp=>h2 p (by simp[hp])))
   (YW hl (fun t ht=>hr t (by simp[ht])) h4 (fun p hp=>h1 p (by simp[hp])) (fun p hp=>h2 p (by simp[hp])))
theorem aip {f:Func} {s:ChangeSpec} {apart fresh handsOn again:Bool} {W W':World} {args:Array Value} {v:Value} {ds gs:List (DataW H)} {before pa pv:List MemPlace}
  (hW:DataW.Whole enc P f.params.toList s.vars apart W args.toList ds gs before)
  (YY: ∀(b:Nat) (sp:Nat→Bool) (hd:Bool),DataW.TrodAll enc P W' b sp hd f.resultTypes.toList (v.resultList f.resultTypes.size) (s.fn H (ds++gs)).results [])
  (xH: ∀sp:Nat→Bool,(∀p∈before,sp p.block=true)→DataW.TrodAll enc P W' 0 sp true f.params.toList args.toList (s.fn H (ds++gs)).args pa)
  (YZ: ∀sp:Nat→Bool,(∀p∈before,sp p.block=true)→DataW.TrodVars enc P W' sp s.vars (s.fn H (ds++gs)).vars pv)
  (hps:before=pa++pv) (hk:W.keptBut W' (· ∈before)) (Aa: ∀a:Addr,a.block<W.heap.size→W'.frozen? a=W.frozen? a)
  (au: ∀(j:Nat) (t:TypeId) (r:Value),f.resultTypes[j]? =some t→(v.resultList f.resultTypes.size)[j]? =some r→Value.okWide P W' .any 0 t r):
  s.post enc P f apart fresh handsOn again W args v W':=by
 have hold: ∀p∈before,(fun b=>decide (b<W.heap.size)) p.block=true:=fun p hp=>by simpa using hW.lt p hp
 refine ⟨ds,gs,before,[],pa,pv,hW,YY _ _ _,xH _ hold,YZ _ hold,World.keptBut_mono (fun p hp=>⟨hp,?_⟩) hk,fun _=> ?_⟩
 ·grind
 ·have aY:=hW.lt;obtain ⟨_,_,_,_,_,hz,hn⟩:=hW;refine ⟨au,_,_,([]++pa)++pv,⟨[]++pa,pv,trodAll_append (xH _ (fun _ _=>rfl)) (YY _ _ _),YZ _ (fun _ _=>rfl),rfl,?_,?_⟩,?_⟩
  ·intro b off hp;have hb:MemPlace.cell b off∈before:=by grind
   rw[Aa ⟨b,off,none⟩ (aY _ hb)];exact hz b off hb
  all_goals grind
theorem aiq {A:di} (hP:jB P A) (p9:P.follows .mixedOrders=true) {f key:Nat} {fn:Func} {tb:TypeId} {s:ChangeSpec} {apart fresh handsOn again:Bool}
  (hf:P.funcs[f]? =some fn) (PR:A.iD key=f) (hL:DO P L=true) (eb:fn.params.toList.all (fun t=>hasB L t)=true) (JN:fn.resultTypes= #[tb]) (JO:P.underlying tb=some .bool) (xE:s.vars=[])
  (hs: ∀ds:List (DataW H),ds.length=fn.params.toList.length→s.fn H ds={results:=[.lit (.bool true)],args:=ds})
  (PS:laidOutB P=true) (PT:fn.params.toList.all (fun t=>P.readableRec t&&Nat.blt t P.types.size)=true)
  (ju:(A.sin key).cO=[]) (au:((A.sin key).ch.map (·.2)).all (VS.ok 0)=true) (PU:(A.gz key).ch=[(0,.one .bool)]) (halt:A.alt key=none)
  {W:World} {base:Nat} {args:Array Value} {ds gs:List (DataW H)} {before:List MemPlace}
  (PV:iF P A.aF W (ot W)) (gW: ∀(j:Nat) t v,fn.params[j]? =some t→args[j]? =some v→Value.okWide P W .any base t v)
  (hW:DataW.Whole enc P fn.params.toList s.vars apart W args.toList ds gs before) (Q:List V→Prop)
  (hQ: ∀xs:List V,tj P fn.params.toList xs→(∀(j:Nat) v x,args.toList[j]? =some v→xs[j]? =some x→ai P W (ot W) (fun _=>none) (fun _=>none) v x)→Q xs)
  (PW: ∀xs,tj P fn.params.toList xs→Q xs→∃ds,tk ((A.sin key).ch.map (·.2)) xs=some ds∧Call P A key ds=some [.bool true]):
  Calls P f args W fun e W'=> ∃v,e= .returned v∧s.post enc P fn apart fresh handsOn again W args v W':=by
 have Y0:=hW;obtain ⟨p,q,hA,hV,rfl,Aa,lg⟩:=hW;rw[xE] at hV;obtain ⟨DP,hq⟩:gs=[]∧q=[]:=by
  cases gs with
  | nil=>exact ⟨rfl,hV⟩
  | cons g gs=>exact hV.elim
 subst DP;subst hq;obtain ⟨xs,hl,hr,Y1⟩:=YT (β:=fun _=>none) (hp:=fun _=>none) hL (fun t ht=>JK (fF.1 eb t ht)) (fun j t v a b=>gW j t v (by grind) (by grind)) hA;obtain ⟨ls,hls,DE⟩:=PW xs Y1 (hQ xs Y1 hr);obtain ⟨fn',c,h1,h2,h3⟩:=aij (A:=A) hP p9 key ls [.bool true] DE;rw[PR] at h1 h3;rw[hf] at h1;cases h1;have YE: ∀j,(bI (A.sin key) ls).hp j=none:=fun j=>by simp[bI,mk,ju,fT,lF]
 obtain ⟨_,r1,r2⟩:=Dv (P:=P) (w:=W) (I:=ot W) (n:=0) (β:=fun _=>none) (β':=fun _=>none) (hp:=fun _=>none) (hp':=(bI (A.sin key) ls).hp) (fun j hj=>absurd hj (Nat.not_lt_zero j)) hls au;have hlen:((A.sin key).ch.map (·.2)).length=xs.length:=by rw[←r1 [],PJ]
 have h4:=h3 W (ot W) (fun _=>none) args.toList ⟨fun id blk h=>(by grind),fun id aw blk blk' b h=>(by grind),fun id blk b h=>(by grind),fun b j h=>h⟩ PV
  (by grind) (fun j v y hv hy=>r2 [] j v y (fun x hx=>hr j v x hv hx) (by grind))
 have ea:args.toList.toArray=args:=by simp
 rw[ea] at h4;refine h4.mono fun e W' ⟨v,I2,cB,he,ha⟩=>⟨v,he,?_⟩
 have vL: ∀b,b<W.heap.size→W'.heap[b]? =W.heap[b]? :=fun b hb=>ha.zY.cH b hb (by rintro ⟨j,blk,hj,_⟩;grind);have xr:=ha.res;have Y2:A.so key [.bool true]=A.gz key∧A.lv key [.bool true]=[.bool true]:=by unfold di.so di.lv;grind
 rw[Y2.1,Y2.2,PU] at xr;obtain rfl:v= .bool true:=xr.kZ;have pW:Value.okWide P W' .any 0 tb (.bool true):=by simp[Value.okWide,JO,Cell.okWide,Cell.ok]
 have nP:ds.length=fn.params.toList.length:=YV hA;have iY: ∀p'∈p++[],W.sameAt W' p':=by
  intro p' hp';have aY:=Y0.lt p' hp';cases p' with
  | cell b o=>exact World.cell?_of_block (w:=W) (vL b aY)
  | map b=>exact vL b aY
 refine aip (pa:=p) (pv:=[]) Y0 ?_ ?_ ?_ rfl ?_ ?_ ?_
 ·intro b sp hd;rw[vd,hs ds nP,JN];exact trodAll_mk1 ⟨1,by simp[DataW.trod,Value.cells,JO]⟩
 ·intro sp nn;rw[vd,hs ds nP];refine YW PS (fun t ht=> ?_) hA (fun p' hp'=>iY p' (by grind)) (fun p' hp'=>nn p' (by grind));have:=fF.1 PT t ht;simp_all
 ·intro sp nn;rw[xE,vd,hs ds nP];exact rfl
 ·refine ⟨ha.zY.io.1,ha.zY.io.2,fun i hi=> ?_⟩;grind
 ·intro a aY;exact World.frozen?_of_block (w:=W) (vL a.block aY)
 ·intro j t r hj Y3;rw[JN] at hj Y3;cases j with
  | zero=>
   simp[Value.resultList] at hj Y3;grind
  | succ j=>simp at hj
theorem afm {A:di} (hP:jB P A) (p9:P.follows .mixedOrders=true) {f key:Nat} {fn:Func} {tb:TypeId} {s:ChangeSpec} {apart fresh handsOn again:Bool}
  (hf:P.funcs[f]? =some fn) (PR:A.iD key=f) (hL:DO P L=true) (eb:fn.params.toList.all (fun t=>hasB L t)=true) (JN:fn.resultTypes= #[tb]) (JO:P.underlying tb=some .bool) (xE:s.vars=[])
  (hs: ∀ds:List (DataW H),ds.length=fn.params.toList.length→s.fn H ds={results:=[.lit (.bool true)],args:=ds})
  (PS:laidOutB P=true) (PT:fn.params.toList.all (fun t=>P.readableRec t&&Nat.blt t P.types.size)=true)
  (ju:(A.sin key).cO=[]) (au:((A.sin key).ch.map (·.2)).all (VS.ok 0)=true) (PU:(A.gz key).ch=[(0,.one .bool)]) (halt:A.alt key=none)
  (PW: ∀xs,tj P fn.params.toList xs→∃ds,tk ((A.sin key).ch.map (·.2)) xs=some ds∧Call P A key ds=some [.bool true])
  {W:World} {base:Nat} {args:Array Value} {ds gs:List (DataW H)} {before:List MemPlace}
  (PV:iF P A.aF W (ot W)) (gW: ∀(j:Nat) t v,fn.params[j]? =some t→args[j]? =some v→Value.okWide P W .any base t v)
  (hW:DataW.Whole enc P fn.params.toList s.vars apart W args.toList ds gs before):
  Calls P f args W fun e W'=> ∃v,e= .returned v∧s.post enc P fn apart fresh handsOn again W args v W':=
 aiq hP p9 hf PR hL eb JN JO xE hs PS PT ju au PU halt PV gW hW (fun _=>True) (fun _ _ _=>trivial) fun xs h _=>PW xs h
end
end Go.AM
namespace Go.AM
open Go.IntKind (wrap)
@[simp] theorem V.toInt_int (k:IntKind) (n:Int):V.toInt (.int k n)=n:=by cases k<;>rfl
@[simp] theorem V.dS (b:Bool):V.toBool (.bool b)=b:=by cases b<;>rfl
@[simp] theorem V.auz (s:List UInt8):V.toStr (.str s)=s:=by cases s<;>rfl
@[simp] theorem V.eo (e:TypeId) (es:List V):V.toList (.list e es)=es:=by cases es<;>rfl
@[simp] theorem V.auA (e:TypeId) (es:List V):V.toList (.own e es)=es:=by cases es<;>rfl
@[simp] theorem V.air (cs:List V) (j:Nat):V.cell (.agg cs) j=V.nth cs j:=by cases cs<;>rfl
@[simp] theorem V.auB (cs:List V) (j:Nat):V.comp (.aX cs) j=V.nth cs j:=by cases cs<;>rfl
@[simp] theorem V.dJ (x:V) (l:List V):V.nth (x::l) 0=x:=by cases l<;>rfl
@[simp] theorem V.uo (x:V) (l:List V) (n:Nat):V.nth (x::l) (n+1)=V.nth l n:=by cases l<;>rfl
@[simp] theorem V.auC (x y:V) (l:List V):V.nth (x::y::l) 1=y:=by cases l<;>rfl
@[simp] theorem V.auD (x y z:V) (l:List V):V.nth (x::y::z::l) 2=z:=by cases l<;>rfl
@[simp] theorem V.auE (x y z u:V) (l:List V):V.nth (x::y::z::u::l) 3=u:=by cases l<;>rfl
theorem wrap64 {x:Int} (h1: -9223372036854775808≤x) (h2:x<9223372036854775808):wrap .i64 x=x:=by
 rw[IntKind.wrap_i64];omega
theorem gG {x:Int} (h1: -9223372036854775808≤x:=by omega) (h2:x<9223372036854775808:=by omega):wrap .i64 x=x:=wrap64 h1 h2
theorem JP {x:Int} (h1:0≤x) (h2:x<256):wrap .u8 x=x:=by
 rw[IntKind.wrap_u8];omega
theorem PX {es:List V} {i:Int} {n:Nat} (h:i=n):idx es i=es[n]? :=by
 subst h;simp[idx]
theorem ais {α:Type} {f:α→V} {l:List α} {i:Int} {n:Nat} (h:i=n) (hn:n<l.length):idx (l.map f) i=some (f l[n]):=by
 rw[PX h];simp[hn]
@[simp] theorem JQ (es:List V) (n:Nat):idx es (n:Int)=es[n]? :=by simp[idx]
section
variable {X R:Type} {step:X→Option (X ⊕ R)}
theorem DQ (Inv:X→Prop) (μ:X→Nat) (Q:R→Prop)
  (h: ∀x,Inv x→(∃y,step x=some (.inl y)∧Inv y∧μ y<μ x)∨∃r,step x=some (.inr r)∧Q r):
  ∀x,Inv x→∃r,Loop step x=some r∧Q r:=by
 intro x
 induction hm:μ x using Nat.strongRecOn generalizing x with
 | ind m ih=>
  intro hx;rcases h x hx with ⟨y,h1,h2,h3⟩|⟨r,h1,h2⟩
  ·obtain ⟨r,h4,h5⟩:=ih (μ y) (by omega) y rfl h2;exact ⟨r,(eJ h1).trans h4,h5⟩
  ·exact ⟨r,cT h1,h2⟩
theorem ait (s:Nat→X) (n:Nat) {r:R} (h: ∀i,i<n→step (s i)=some (.inl (s (i+1)))) (he:step (s n)=some (.inr r)):Loop step (s 0)=some r:=by
 induction n generalizing s with
 | zero=>exact cT he
 | succ n ih=>
  rw[eJ (h 0 (by omega))];exact ih (fun i=>s (i+1)) (fun i hi=>h (i+1) (by omega)) he
end
@[simp] theorem bw {α:Type} (p:Prop) [Decidable p] (a b:α):(bif decide p then a else b)=if p then a else b:=by by_cases h:p<;>simp[h]
@[simp] theorem vX {α:Type} (m n:Int) (a b:α):(bif m==n then a else b)=if m=n then a else b:=by
 by_cases h:m=n
 ·simp[h]
 ·have:(m==n)=false:=by simp[h]
  rw[this,aj h];rfl
@[simp] theorem JR {α:Type} (m n:Int) (a b:α):(bif m != n then a else b)=if m=n then b else a:=by
 by_cases h:m=n
 ·simp[h]
 ·have:(m != n)=true:=by simp[h]
  rw[this,aj h];rfl
@[simp] theorem ja {α:Type} (c:Bool) (a b:α):(bif !c then a else b)=bif c then b else a:=by cases c<;>rfl
@[simp] theorem auF {α:Type} (m n:Nat) (a b:α):(bif Nat.ble m n then a else b)=if m≤n then a else b:=by
 cases hb:Nat.ble m n with
 | true=>rw[ak (Nat.le_of_ble_eq_true hb)];rfl
 | false=>
  rw[aj fun h=> ?_]
  ·rfl
  ·rw[zd h] at hb;cases hb
@[simp] theorem jb {α:Type} (c d:Bool) (a b:α):(bif c&&d then a else b)=bif c then (bif d then a else b) else b:=by cases c<;>rfl
section
variable {P:Program}
def Y4 (P : Program) : Bool := P.funcs.all fun fn => !(fn.name == "runtime.NumGoroutine")
theorem aiu (h:Y4 P=true):xC P:=by
 intro f fn hf;unfold Y4 at h;have:=(Array.all_eq_true_iff_forall_mem.1 h) fn (Array.mem_of_getElem? hf);simpa using this
theorem Vs {t:TypeId} {ts:List TypeId} {xs:List V} (h:tj P (t::ts) xs): ∃x ys,xs=x::ys∧iH P t x∧tj P ts ys:=by
 cases xs with
 | nil=>exact h.elim
 | cons x ys=>exact ⟨x,ys,rfl,h.1,h.2⟩
theorem afg {xs:List V} (h:tj P [] xs):xs=[]:=by
 cases xs with
 | nil=>rfl
 | cons x ys=>exact h.elim
theorem iH.one {t:TypeId} {x:V} (ha:bZ P t=false) (h:iH P t x):WT P t x:=by
 have he:aP P t=[t]:=by simp[aP,ha]
 have:=h.2 0 t (by rw[he];rfl);simpa[bX,ha] using this
theorem WT.eY {t:TypeId} {k:IntKind} {x:V} (hu:P.underlying t=some (.int k)) (h:WT P t x): ∃n,x= .int k n∧k.min≤n∧n≤k.max:=by
 cases h with
 | int h1 h2=>
  rw[hu] at h1;cases h1;simp only[Lit.wf,aK,fQ] at h2;exact ⟨_,rfl,h2⟩
 | bool h1=>rw[hu] at h1;cases h1
 | str h1=>rw[hu] at h1;cases h1
 | list h1=>rw[hu] at h1;cases h1
theorem WT.kZ {t:TypeId} {x:V} (hu:P.underlying t=some .bool) (h:WT P t x): ∃b,x= .bool b:=by
 cases h with
 | int h1=>rw[hu] at h1;cases h1
 | bool h1=>exact ⟨_,rfl⟩
 | str h1=>rw[hu] at h1;cases h1
 | list h1=>rw[hu] at h1;cases h1
theorem WT.nf {t:TypeId} {x:V} (hu:P.underlying t=some .string) (h:WT P t x): ∃s,x= .str s∧s.length≤maxLen:=by
 cases h with
 | int h1=>rw[hu] at h1;cases h1
 | bool h1=>rw[hu] at h1;cases h1
 | str h1 h2=>exact ⟨_,rfl,h2⟩
 | list h1=>rw[hu] at h1;cases h1
theorem WT.JS {t e:TypeId} {x:V} (hu:P.underlying t=some (.slice e)) (h:WT P t x): ∃es,x= .list e es∧es.length≤maxLen∧∀y∈es,iH P e y:=by
 cases h with
 | int h1=>rw[hu] at h1;cases h1
 | bool h1=>rw[hu] at h1;cases h1
 | str h1=>rw[hu] at h1;cases h1
 | list h1 h2 h3 h4=>
  rw[hu] at h1;cases h1;refine ⟨_,rfl,h2,fun y hy=> ?_⟩;obtain ⟨i,hi⟩:=rL hy;exact ⟨h3 i y hi,fun j t' hj=>h4 i j y t' hi hj⟩
theorem iH.la {t:TypeId} {x:V} (ha:bZ P t=true) (h:iH P t x): ∃xs,x= .agg xs∧xs.length=(aP P t).length∧∀(j:Nat) t' y,(aP P t)[j]? =some t'→xs[j]? =some y→WT P t' y:=by
 obtain ⟨xs,rfl,hl⟩:=h.1 ha;refine ⟨xs,rfl,hl,fun j t' y hj hy=> ?_⟩;have:=h.2 j t' hj;simp only[bX,ha,cond_true,V.air] at this;rw[xi _ _ _ hy] at this;exact this
theorem Y5 {α:Type} {f:α→V}: ∀{es:List V},(∀y∈es,∃a,y=f a)→∃l:List α,es=l.map f
 | [],_=>⟨[],rfl⟩
 | y::es,h=>by
  obtain ⟨a,rfl⟩:=h y (by simp);obtain ⟨l,rfl⟩:=Y5 (f:=f) (es:=es) fun z hz=>h z (by simp[hz]);exact ⟨a::l,rfl⟩
theorem JT {α:Type} {f:α→V} {p:α→Prop}: ∀{es:List V},(∀y∈es,∃a,y=f a∧p a)→∃l:List α,es=l.map f∧∀a∈l,p a
 | [],_=>⟨[],rfl,by simp⟩
 | y::es,h=>by
  obtain ⟨a,rfl,ha⟩:=h y (by simp);obtain ⟨l,rfl,hl⟩:=JT (f:=f) (p:=p) (es:=es) fun z hz=>h z (by simp[hz]);exact ⟨a::l,rfl,by
   intro b hb;rcases lz.1 hb with rfl|hb
   ·exact ha
   ·exact hl b hb⟩
theorem iH.int {t:TypeId} {x:V} (hu:P.underlying t=some (.int .i64)) (h:iH P t x): ∃n,x= .int .i64 n∧IntKind.min .i64≤n∧n≤IntKind.max .i64:=
 (h.one (by simp[bZ,hu])).eY hu
theorem iH.str {t:TypeId} {x:V} (hu:P.underlying t=some .string) (h:iH P t x): ∃s,x= .str s∧s.length≤maxLen:=
 (h.one (by simp[bZ,hu])).nf hu
end
def un.{u} {A B:Type} {γ:Sort u} (f:A→B→γ) (p:A×B):γ:=f p.1 p.2
def cP {A B γ:Type} (f:A→γ) (g:B→γ):A ⊕ B→γ
 | .inl a=>f a
 | .inr b=>g b
def uq:List Nat→Code→Code
 | [],c=>c
 | 0::p,.seq a _=>uq p a
 | _::p,.seq _ b=>uq p b
 | 0::p,.cond _ a _=>uq p a
 | _::p,.cond _ _ b=>uq p b
 | _::p,.block _ c=>uq p c
 | _::p,.loop c=>uq p c
 | _,c=>c
inductive ou where
 | loop (c:Code)
 | cond (t:Nat) (x y:Code)
section
variable (P:Program) (A:di) (C:af) (L:cz) (f n m:Nat)
def qb:Code→List ou
 | .seq a b=>qb a++qb b
 | .cond (.tmp t) x y=>
  match A.iS f (t*16+15) with
  | none=>qb x++qb y
  | some _=>[.cond t x y]
 | .cond (.const _) x y=>qb x++qb y
 | .block _ c=>qb c
 | .loop c=>[.loop c]
 | _=>[]
def sC:ou→Prop
 | .loop c=>
  match A.iS f (keyOf c+1) with
  | none=>True
  | some S=> ∀(β:Type) ds (k:Nat→List V→Option β),L β (keyOf c+1) ds k=(Loop (stepG P A C f n m S c) ds).bind fun r=>k r.1 r.2
 | .cond t x y=>
  match A.iS f (t*16+15) with
  | none=>True
  | some S=> ∀(β:Type) ds (k:Nat→List V→Option β),L β (t*16+15) ds k=(CD P A C f n m t S x y ds).bind fun r=>k r.1 r.2
def ov:List ou→Prop
 | []=>True
 | b::l=>sC P A C L f n m b∧ov l
variable {P A C L f n m}
theorem ov.left {a b:List ou}:ov P A C L f n m (a++b)→ov P A C L f n m a:=by
 induction a with
 | nil=>exact fun _=>trivial
 | cons x a ih=>exact fun h=>⟨h.1,ih h.2⟩
theorem ov.right {a b:List ou}:ov P A C L f n m (a++b)→ov P A C L f n m b:=by
 induction a with
 | nil=>exact fun h=>h
 | cons x a ih=>exact fun h=>ih h.2
theorem Y6: ∀{c:Code} {bs:List ou},qb A f c=bs→ov P A C L f n m bs→jq P A C L f n m c:=by
 intro c
 induction c with
 | seq a b NV NW=>
  intro bs h hb;subst h;exact ⟨NV rfl hb.left,NW rfl hb.right⟩
 | cond c x y ic ig=>
  intro bs h hb;subst h;cases c with
  | tmp t=>
   simp only[qb] at hb;simp only[jq];cases hs:A.iS f (t*16+15) with
   | none=>
    rw[hs] at hb;exact ⟨ic rfl hb.left,ig rfl hb.right⟩
   | some S=>
    rw[hs] at hb;have:=hb.1;simp only[sC,hs] at this;exact this
  | const v=>exact ⟨ic rfl hb.left,ig rfl hb.right⟩
  | _=>trivial
 | block id c ih=>
  intro bs h hb;subst h;exact ih rfl hb
 | loop c ih=>
  intro bs h hb;subst h;exact hb.1
 | _=>intro bs h hb;trivial
variable (P A C L f n m) in
def PY {β:Type} (t:Nat) (S:Shape×List (Out×Shape)) (x y:Code) (ds:List V) (k:Nat→List V→Option β):Option β:=
 let kc:Out→St→Option β:=fun o st=>
  match o with
  | .norm=>(ways m 0 S.2 (.norm,canon m (A.join f t) st)).bind fun e=>k e.1 e.2
  | o=>(ways m 0 S.2 (o,st)).bind fun e=>k e.1 e.2
 match (bI S.1 ds).sl t with
 | .bool b=>bif b then jT P A C L f n m x (bI S.1 ds) kc else jT P A C L f n m y (bI S.1 ds) kc
 | _=>none
theorem aiv {t:Nat} {x y:Code} {S:Shape×List (Out×Shape)} (hS:A.iS f (t*16+15)=some S) (hx:jq P A C L f n m x) (hy:jq P A C L f n m y) {I R:Type} (enc:I→List V) (o8:I→R→Nat×List V)
  (de:List V→I) (body:I→(β:Type)→(R→Option β)→Option β) (xO: ∀ds,bI S.1 (enc (de ds))=bI S.1 ds)
  (e1: ∀i (β:Type) (k:Nat→List V→Option β),PY P A C L f n m t S x y (enc i) k=body i β (fun r=>k (o8 i r).1 (o8 i r).2))
  (hl: ∀(β:Type) ds (k:Nat→List V→Option β),L β (t*16+15) ds k=body (de ds) β (fun r=>k (o8 (de ds) r).1 (o8 (de ds) r).2)):
  sC P A C L f n m (.cond t x y):=by
 simp only[sC,hS];intro β ds k;rw[hl,←e1];unfold PY CD;rw[xO];simp only;have hk: ∀(z:Option (Out×St)),(z.bind fun r=>(match r.1 with
   | .norm=>(ways m 0 S.2 (.norm,canon m (A.join f t) r.2)).bind fun e=>k e.1 e.2
   | o=>(ways m 0 S.2 (o,r.2)).bind fun e=>k e.1 e.2))=((z.bind fun r=>
   match r.1 with
   | .norm=>some (Out.norm,canon m (A.join f t) r.2)
   | _=>some r).bind fun r=>ways m 0 S.2 r).bind fun r=>k r.1 r.2:=by
  intro z;cases z with
  | none=>rfl
  | some r=>obtain ⟨o,st⟩:=r;cases o<;>rfl
 cases (bI S.1 ds).sl t with
 | bool b=>
  cases b with
  | true=>simp only[cond_true,Iu P A C f n m x hx];exact hk _
  | false=>simp only[cond_false,Iu P A C f n m y hy];exact hk _
 | _=>rfl
theorem ba {b:ou} {l:List ou} (h:sC P A C L f n m b) (h2:ov P A C L f n m l):ov P A C L f n m (b::l):=⟨h,h2⟩
theorem av:ov P A C L f n m []:=trivial
theorem aiw {key:Nat} {bs:List ou} (hb:qb A key (rU P (A.iD key))=bs) (ht:ov P A (Call P A) L key (CE P (A.iD key)) (A.sin key).cO.length bs) {ds:List V} {r:Option (List V)}
  (h:Iv P A (Call P A) L key ds=r):Call P A key ds=r:=by
 rw[aim,afv P A (Call P A) key (Y6 hb ht),h]
end
section
variable (P:Program) (A:di)
def j4 (C:af) (N f n m:Nat):Code→St→Option (Out×St)
 | .skip,st=>some (.norm,st)
 | .region id ops draw,st=>(zw P (A.here f id) C n ops draw st).bind fun st'=>some (.norm,canon m (A.live f id) (freeze m (A.pur f id) st'))
 | .seq a b,st=>(j4 C N f n m a st).bind fun r=>
  match r.1 with
  | .norm=>j4 C N f n m b r.2
  | _=>some r
 | .cond (.tmp t) x y,st=>
  let go (st:St):Option (Out×St):=
   match st.sl t with
   | .bool b=>(bif b then j4 C N f n m x st else j4 C N f n m y st).bind fun r=>
    match r.1 with
    | .norm=>some (.norm,canon m (A.join f t) r.2)
    | _=>some r
   | _=>none
  match A.iS f (t*16+15) with
  | none=>go st
  | some S=>(kf m S.1 st).bind fun ds=>((go (bI S.1 ds)).bind fun r=>ways m 0 S.2 r).bind fun e=>my 0 S.2 e.1 e.2 fun o st=>some (o,st)
 | .cond (.const (.bool b)) x y,st=>bif b then j4 C N f n m x st else j4 C N f n m y st
 | .block id c,st=>(j4 C N f n m c st).bind fun r=>
  match r.1 with
  | .norm=>some (.norm,canon m (A.blk f id) r.2)
  | .exit aw=>bif Nat.beq aw id then some (.norm,canon m (A.blk f id) r.2) else some r
  | .ret=>some r
 | .loop c,st=>
  match A.iS f (keyOf c+1) with
  | none=>none
  | some S=>(kf m S.1 st).bind fun ds=>(fR (fun ds=>oa m S.1 S.2 (j4 C N f n m c (bI S.1 ds))) N ds).bind fun e=>my 0 S.2 e.1 e.2 fun o st=>some (o,st)
 | .exit id,st=>some (.exit id,st)
 | .ret,st=>some (.ret,st)
 | _,_=>none
def PZ (C:af) (N f:Nat) (ds:List V):Option (List V):=
 match P.funcs[A.iD f]? with
 | none=>none
 | some fn=>
  match fn.body with
  | none=>none
  | some c=>bif jS 0 (A.sin f).ch&&(Nat.ble (A.sin f).ch.length fn.ntmps&&((A.sin f).ok&&(jS 0 (A.gz f).ch&&(Nat.beq (A.gz f).ch.length fn.results.size&&qC (oS (A.sin f).cO.length (A.mv f)))))) then
    (j4 P A C N f fn.ntmps (A.sin f).cO.length c (CB A f ds)).bind fun r=>
     match r.1 with
     | .exit _=>none
     | _=>((w4 P A f fn (A.sin f).cO.length r.2).run C r.2.hp).map (·.1)
   else none
def JU (N:Nat):Nat→af
 | 0=>fun _ _=>none
 | n+1=>PZ P A (JU N n) N
variable {P A}
theorem Y7 {X R:Type} {s1 s2:X→Option (X ⊕ R)} (h: ∀x y,s1 x=some y→s2 x=some y): ∀(n:Nat) (x:X) (r:R),fR s1 n x=some r→fR s2 n x=some r
 | 0,x,r,e=>by cases e
 | n+1,x,r,e=>by
  simp only[fR] at e⊢;obtain ⟨y,h1,h2⟩:=bind_some e;rw[h x y h1];cases y with
  | inl z=>exact Y7 h n z r h2
  | inr q=>exact h2
theorem aix {C:af} {N f n m:Nat}: ∀(c:Code) {st:St} {r:Out×St},j4 P A C N f n m c st=some r→exec P A C f n m c st=some r:=by
 intro c
 induction c with
 | skip=>exact fun e=>e
 | exit id=>exact fun e=>e
 | ret=>exact fun e=>e
 | region id ops draw=>exact fun e=>e
 | seq x y ic ig=>
  intro st r e;simp only[j4,exec] at e⊢;obtain ⟨⟨o,s1⟩,h1,h2⟩:=bind_some e;rw[ic h1];cases o with
  | norm=>exact ig h2
  | exit id=>exact h2
  | ret=>exact h2
 | cond c x y ic ig=>
  intro st r e;cases c with
  | tmp t=>
   have go: ∀{st:St} {r:Out×St},(match st.sl t with
     | .bool b=>(bif b then j4 P A C N f n m x st else j4 P A C N f n m y st).bind fun r=>
      match r.1 with
      | .norm=>some (.norm,canon m (A.join f t) r.2)
      | _=>some r
     | _=>none)=some r→(match st.sl t with
     | .bool b=>(bif b then exec P A C f n m x st else exec P A C f n m y st).bind fun r=>
      match r.1 with
      | .norm=>some (.norm,canon m (A.join f t) r.2)
      | _=>some r
     | _=>none)=some r:=by
    intro st r e;cases hs:st.sl t<;>rw[hs] at e<;>simp only at e⊢ <;>first|(cases e;done)|skip
    rename_i b;obtain ⟨x1,h1,h2⟩:=bind_some e;cases b with
    | true=>simp only[cond_true,ic h1,Option.bind_some];exact h2
    | false=>simp only[cond_false,ig h1,Option.bind_some];exact h2
   simp only[j4,exec] at e⊢;split at e
   ·rename_i hS
    try rw[hS]
    exact go e
   ·rename_i S hS;obtain ⟨ds,h1,h2⟩:=bind_some e;obtain ⟨e',h3,h4⟩:=bind_some h2;obtain ⟨r1,h5,h6⟩:=bind_some h3
    try rw[hS]
    simp only[h1,Option.bind_some];exact (congrArg (fun z:Option (Out×St)=>(z.bind fun r=>ways m 0 S.2 r).bind fun e=>my 0 S.2 e.1 e.2 fun o st=>some (o,st)) (go h5)).trans (by simp only[Option.bind_some,h6];exact h4)
  | const v=>
   cases v with
   | bool b=>
    simp only[j4,exec] at e⊢;cases b with
    | true=>exact ic e
    | false=>exact ig e
   | _=>simp only[j4] at e;cases e
  | _=>simp only[j4] at e;cases e
 | block id c ih=>
  intro st r e;simp only[j4,exec] at e⊢;obtain ⟨x1,h1,h2⟩:=bind_some e;rw[ih h1];exact h2
 | loop c ih=>
  intro st r e;simp only[j4,exec] at e⊢;split at e
  ·cases e
  ·rename_i S hS;obtain ⟨ds,h1,h2⟩:=bind_some e;obtain ⟨e',h3,h4⟩:=bind_some h2
   try rw[hS]
   simp only[h1,Option.bind_some];rw[zh (Y7 (s2:=fun ds=>oa m S.1 S.2 (exec P A C f n m c (bI S.1 ds))) (fun x y DL=>by
    unfold oa at DL⊢;obtain ⟨z,h5,h6⟩:=bind_some DL;rw[ih h5];exact h6) N ds e' h3)]
   exact h4
 | _=>intro st r e;simp only[j4] at e;cases e
theorem aiy {C:af} {N f:Nat} {ds es:List V} (e:PZ P A C N f ds=some es):qE P A C f ds=some es:=by
 unfold PZ at e;unfold qE;cases hf:P.funcs[A.iD f]? with
 | none=>rw[hf] at e;cases e
 | some fn=>
  rw[hf] at e;simp only at e⊢;cases hb:fn.body with
  | none=>rw[hb] at e;cases e
  | some c=>
   rw[hb] at e;simp only at e⊢;cases hc:(jS 0 (A.sin f).ch&&(Nat.ble (A.sin f).ch.length fn.ntmps&&((A.sin f).ok&&(jS 0 (A.gz f).ch&&(Nat.beq (A.gz f).ch.length fn.results.size&&qC (oS (A.sin f).cO.length (A.mv f))))))) with
   | false=>rw[hc] at e;cases e
   | true=>
    rw[hc] at e;simp only[cond_true] at e⊢;obtain ⟨x,h1,h2⟩:=bind_some e;rw[aix c h1];exact h2
theorem Y8 {N:Nat}: ∀n {f:Nat} {a r:List V},JU P A N n f a=some r→mz P A n f a=some r
 | 0,f,a,r,h=>by cases h
 | n+1,f,a,r,h=>by
  obtain ⟨M,hM⟩:=JI (C:=JU P A N n) (D:=fun _=>mz P A n) (fun f a r h=>⟨0,fun _ _=>Y8 n h⟩) (aiy h);exact hM M (az _)
theorem j5 {N n f:Nat} {a r:List V} (h:JU P A N n f a=some r):Call P A f a=some r:=DM.2 ⟨n,Y8 n h⟩
end
inductive LK where
 | int (k:IntKind)
 | bool
 | str
 | list (e:TypeId)
 | nat
def LK.Ty:LK→Type
 | .int _=>Int
 | .bool=>Bool
 | .str=>List UInt8
 | .list _=>List V
 | .nat=>Nat
def LK.enc:(k:LK)→k.Ty→V
 | .int k,n=> .int k n
 | .bool,b=> .bool b
 | .str,s=> .str s
 | .list e,l=> .list e l
 | .nat,n=>fo n
def LK.dec:(k:LK)→V→k.Ty
 | .int _,v=>v.toInt
 | .bool,v=>v.toBool
 | .str,v=>v.toStr
 | .list _,v=>v.toList
 | .nat,v=>m8 v
theorem LK.Y9: ∀(k:LK) (x:k.Ty),k.dec (k.enc x)=x
 | .int _,_=>rfl
 | .bool,_=>rfl
 | .str,_=>rfl
 | .list _,_=>rfl
 | .nat,_=>rfl
def P0:List Nat→List LK
 | []=>[]
 | _::l=> .nat::P0 l
def LS.ks:LS→List LK
 | .int k=>[.int k]
 | .bool=>[.bool]
 | .str=>[.str]
 | .list e=>[.list e]
 | .sub .. =>[.nat,.nat]
 | .ptr _=>[.nat,.nat]
 | .row _ _ cs=>P0 cs
 | .dq _ cs _=> .nat::P0 cs
 | _=>[]
def Af:List LS→List LK
 | []=>[]
 | l::ls=>l.ks++Af ls
def VS.ks:VS→List LK
 | .one l=>l.ks
 | .agg ls=>Af ls
 | .aX ls=>Af ls
 | .fn _ a b=>Af a++Af b
 | .pref _ ls=>Af ls
def Za:List VS→List LK
 | []=>[]
 | l::ls=>l.ks++Za ls
def BS.ks:BS→List LK
 | .var _ cs=>Za cs
 | .arr e _=>[.list e]
 | .nest e=>[.list e]
 | .dead=>[]
 | .map t=>[.list t]
def Zb:List (Nat×VS)→List LK
 | []=>[]
 | p::l=>p.2.ks++Zb l
def Zc:List BS→List LK
 | []=>[]
 | b::l=>b.ks++Zc l
def Shape.ks (S:Shape):List LK:=Zb S.ch++Zc S.cO
def P4:List Nat→List V→List V
 | [],_=>[]
 | _::cs,ds=>fo (m8 (V.nth ds 0))::P4 cs (ds.drop 1)
def LS.norm:LS→List V→List V
 | .int k,ds=>[.int k (V.nth ds 0).toInt]
 | .bool,ds=>[.bool (V.nth ds 0).toBool]
 | .str,ds=>[.str (V.nth ds 0).toStr]
 | .list e,ds=>[.list e (V.nth ds 0).toList]
 | .sub ..,ds=>[fo (m8 (V.nth ds 0)),fo (m8 (V.nth ds 1))]
 | .ptr _,ds=>[fo (m8 (V.nth ds 0)),fo (m8 (V.nth ds 1))]
 | .row _ _ cs,ds=>P4 cs ds
 | .dq _ cs _,ds=>fo (m8 (V.nth ds 0))::P4 cs (ds.drop 1)
 | _,_=>[]
def Ag:List LS→List V→List V
 | [],_=>[]
 | l::ls,ds=>l.norm ds++Ag ls (ds.drop l.size)
def VS.norm:VS→List V→List V
 | .one l,ds=>l.norm ds
 | .agg ls,ds=>Ag ls ds
 | .aX ls,ds=>Ag ls ds
 | .fn _ a b,ds=>Ag a ds++Ag b (ds.drop (lE a))
 | .pref _ ls,ds=>Ag ls ds
def Zd:List VS→List V→List V
 | [],_=>[]
 | l::ls,ds=>l.norm ds++Zd ls (ds.drop l.size)
def BS.norm:BS→List V→List V
 | .var _ cs,ds=>Zd cs ds
 | .arr e _,ds=>[.list e (V.nth ds 0).toList]
 | .nest e,ds=>[.list e (V.nth ds 0).toList]
 | .dead,_=>[]
 | .map t,ds=>[.list t (V.nth ds 0).toList]
def Ze:List (Nat×VS)→List V→List V
 | [],_=>[]
 | p::l,ds=>p.2.norm ds++Ze l (ds.drop p.2.size)
def Zf:List BS→List V→List V
 | [],_=>[]
 | b::l,ds=>b.norm ds++Zf l (ds.drop b.size)
def Shape.norm (S:Shape) (ds:List V):List V:=Ze S.ch ds++Zf S.cO (ds.drop (qB S.ch))
def xP:LK→List LK→Type
 | k,[]=>k.Ty
 | k,k'::ks=>k.Ty×xP k' ks
def mL:List LK→Type
 | []=>Unit
 | k::ks=>xP k ks
def xQ:(k:LK)→(ks:List LK)→xP k ks→List V
 | k,[],x=>[k.enc x]
 | k,k'::ks,x=>k.enc x.1::xQ k' ks x.2
def nu:(ks:List LK)→mL ks→List V
 | [],_=>[]
 | k::ks,x=>xQ k ks x
def DR:(k:LK)→(ks:List LK)→List V→xP k ks
 | k,[],l=>k.dec (V.nth l 0)
 | k,k'::ks,l=>(k.dec (V.nth l 0),DR k' ks l.tail)
def rh:(ks:List LK)→List V→mL ks
 | [],_=>()
 | k::ks,l=>DR k ks l
theorem Zg: ∀(k:LK) (ks:List LK) (x:xP k ks) (r:List V),DR k ks (xQ k ks x++r)=x
 | k,[],x,r=>LK.Y9 k x
 | k,k'::ks,x,r=>by
  show (k.dec (k.enc x.1),DR k' ks (xQ k' ks x.2++r))=x;rw[LK.Y9,Zg k' ks];rfl
def Ah:List LK→Type 1→Type 1
 | [],R=>R
 | k::ks,R=>k.Ty→Ah ks R
def Zh:(k:LK)→(ks:List LK)→{R:Type 1}→Ah (k::ks) R→xP k ks→R
 | _,[],_,f,x=>f x
 | _,k'::ks,_,f,x=>Zh k' ks (f x.1) x.2
def xR:(ks:List LK)→{R:Type 1}→Ah ks R→mL ks→R
 | [],_,f,_=>f
 | k::ks,_,f,x=>Zh k ks f x
def Ai {α:Type} (b:Bool):List Bool→List α→List α
 | [],_=>[]
 | _,[]=>[]
 | c::m,x::l=>bif c==b then x::Ai b m l else Ai b m l
def merge:List Bool→List V→List V→List V
 | [],_,_=>[]
 | true::m,i,x=>V.nth x 0::merge m i x.tail
 | false::m,i,x=>V.nth i 0::merge m i.tail x
def Aj:List Nat→List LK→List LK
 | [],_=>[]
 | _,[]=>[]
 | 0::t,k::ks=>k::Aj t ks
 | (_+1)::t,_::ks=>Aj t ks
abbrev gS:=List Nat×List LK
def gS.fresh (w:gS):List LK:=Aj w.1 w.2
def put:List Nat→List V→List V→List V
 | [],_,_=>[]
 | 0::t,ds,x=>V.nth x 0::put t ds x.tail
 | (j+1)::t,ds,x=>V.nth ds j::put t ds x
def xS:List Nat→List V→List V
 | [],_=>[]
 | 0::t,l=>V.nth l 0::xS t l.tail
 | (_+1)::t,l=>xS t l.tail
def vY:gS→List gS→Type
 | w,[]=>mL w.fresh
 | w,w'::ws=>mL w.fresh ⊕ vY w' ws
def ur:List gS→Type
 | []=>Empty
 | w::ws=>vY w ws
def wN (ds:List V) {β:Type} (k:Nat→List V→Option β):Nat→(w:gS)→(ws:List gS)→vY w ws→Option β
 | j,w,[],r=>k j (put w.1 ds (nu w.fresh r))
 | j,w,w'::ws,r=>cP (fun x=>k j (put w.1 ds (nu w.fresh x))) (fun y=>wN ds k (j+1) w' ws y) r
def wT (ds:List V) {β:Type} (k:Nat→List V→Option β):(ws:List gS)→ur ws→Option β
 | [],r=>Empty.elim r
 | w::ws,r=>wN ds k 0 w ws r
def ri (ds:List V):Nat→(w:gS)→(ws:List gS)→vY w ws→Nat×List V
 | j,w,[],r=>(j,put w.1 ds (nu w.fresh r))
 | j,w,_::_,.inl x=>(j,put w.1 ds (nu w.fresh x))
 | j,_,w'::ws,.inr y=>ri ds (j+1) w' ws y
def Ak (ds:List V):(ws:List gS)→ur ws→Nat×List V
 | [],r=>Empty.elim r
 | w::ws,r=>ri ds 0 w ws r
theorem Zi (ds:List V) {β:Type} (k:Nat→List V→Option β): ∀(j:Nat) (w:gS) (ws:List gS) (r:vY w ws),wN ds k j w ws r=k (ri ds j w ws r).1 (ri ds j w ws r).2
 | _,_,[],_=>rfl
 | _,_,_::_,.inl _=>rfl
 | j,_,w'::ws,.inr y=>Zi ds k (j+1) w' ws y
theorem JV (ds:List V) {β:Type} (k:Nat→List V→Option β): ∀(ws:List gS) (r:ur ws),wT ds k ws r=k (Ak ds ws r).1 (Ak ds ws r).2
 | [],r=>Empty.elim r
 | w::ws,r=>Zi ds k 0 w ws r
def Al:Nat→(w:gS)→(ws:List gS)→List V→vY w ws
 | _,w,[],l=>rh w.fresh (xS w.1 l)
 | 0,w,_::_,l=> .inl (rh w.fresh (xS w.1 l))
 | j+1,_,w'::ws,l=> .inr (Al j w' ws l)
def Zj (j:Nat):(ws:List gS)→List V→Option (ur ws)
 | [],_=>none
 | w::ws,l=>some (Al j w ws l)
def Am:List Nat→List V→List V
 | [],_=>[]
 | 0::t,x=>V.nth x 0::Am t x.tail
 | (_+1)::t,x=>Am t x
theorem P5: ∀(t:List Nat) (ds x:List V),xS t (put t ds x)=Am t x
 | [],_,_=>rfl
 | 0::t,ds,x=>congrArg (V.nth x 0:: ·) (P5 t ds x.tail)
 | (_+1)::t,ds,x=>P5 t ds x
theorem P6: ∀(t:List Nat) (ks:List LK) (k:LK) (sD:List LK),Aj t ks=k::sD→∀x:xP k sD,∃r,Am t (xQ k sD x)=xQ k sD x++r
 | [],_,_,_,h,_=>by cases h
 | _::_,[],_,_,h,_=>by simp[Aj] at h
 | 0::t,a::ks,k,sD,h,x=>by
  simp only[Aj,wQ] at h;obtain ⟨rfl,h2⟩:=h;cases sD with
  | nil=>exact ⟨Am t [],rfl⟩
  | cons k' sD=>
   obtain ⟨r,hr⟩:=P6 t ks k' sD h2 x.2;exact ⟨r,congrArg (a.enc x.1:: ·) hr⟩
 | (_+1)::t,a::ks,k,sD,h,x=>P6 t ks k sD h x
theorem Zk (w:gS) (ds:List V) (x:mL w.fresh):rh w.fresh (xS w.1 (put w.1 ds (nu w.fresh x)))=x:=by
 rw[P5];revert x;generalize hf:w.fresh=f;cases f with
 | nil=>intro x;rfl
 | cons k ks=>
  intro x;obtain ⟨r,hr⟩:=P6 w.1 w.2 k ks hf x;show DR k ks (Am w.1 (xQ k ks x))=x;rw[hr];exact Zg k ks x r
theorem Zl (ds:List V): ∀(j:Nat) (w:gS) (ws:List gS) (r:vY w ws),j≤(ri ds j w ws r).1
 | _,_,[],_=>az _
 | _,_,_::_,.inl _=>az _
 | j,_,w'::ws,.inr y=>lu (Nat.le_succ j) (Zl ds (j+1) w' ws y)
theorem aiz (w:gS) (l:List V): ∀j,Al j w [] l=rh w.fresh (xS w.1 l)
 | 0=>rfl
 | _+1=>rfl
theorem Zm (ds:List V): ∀(j:Nat) (w:gS) (ws:List gS) (r:vY w ws),Al ((ri ds j w ws r).1-j) w ws (ri ds j w ws r).2=r
 | j,w,[],r=>(aiz w _ _).trans (Zk w ds r)
 | j,w,w'::ws,.inl x=>by
  show Al (j-j) w (w'::ws) (put w.1 ds (nu w.fresh x))= .inl x;rw[Nat.sub_self];exact congrArg Sum.inl (Zk w ds x)
 | j,w,w'::ws,.inr y=>by
  have h1:=Zl ds (j+1) w' ws y;have h2:=Zm ds (j+1) w' ws y;show Al ((ri ds (j+1) w' ws y).1-j) w (w'::ws) (ri ds (j+1) w' ws y).2= .inr y;obtain ⟨d,hd⟩: ∃d,(ri ds (j+1) w' ws y).1=j+1+d:=⟨(ri ds (j+1) w' ws y).1-(j+1),by omega⟩
  rw[hd] at h2⊢;rw[show j+1+d-(j+1)=d by omega] at h2;rw[show j+1+d-j=d+1 by omega];exact congrArg Sum.inr h2
theorem aiA (ds:List V): ∀(ws:List gS) (r:ur ws),Zj (Ak ds ws r).1 ws (Ak ds ws r).2=some r
 | [],r=>Empty.elim r
 | w::ws,r=>congrArg some (Zm ds 0 w ws r)
section
variable {P:Program} {A:di} {C:af} {L:cz} {f n m:Nat}
theorem aiB {c:Code} {S:Shape×List (Out×Shape)} (hS:A.iS f (keyOf c+1)=some S) (hL:jq P A C L f n m c) {I X R:Type} (enc:I→X→List V) (o8:I→R→Nat×List V)
  (sE:List V→I) (uu:List V→X) (JW:Nat×List V→Option R) (body:I→X→(β:Type)→(X→Option β)→(R→Option β)→Option β)
  (xO: ∀ds,bI S.1 (enc (sE ds) (uu ds))=bI S.1 ds) (P7: ∀i x,uu (enc i x)=x) (hdr: ∀i r,JW (o8 i r)=some r)
  (e1: ∀i x (β:Type) (k:(List V ⊕ (Nat×List V))→Option β),jT P A C L f n m c (bI S.1 (enc i x)) (fun o st=>(oa m S.1 S.2 (some (o,st))).bind k)=
   body i x β (fun y=>k (.inl (enc i y))) (fun r=>k (.inr (o8 i r))))
  (hl: ∀(β:Type) ds (k:Nat→List V→Option β),L β (keyOf c+1) ds k=(Loop (fun x=>body (sE ds) x (X ⊕ R) (fun y=>some (.inl y)) (fun r=>some (.inr r))) (uu ds)).bind fun r=>k (o8 (sE ds) r).1 (o8 (sE ds) r).2):
  sC P A C L f n m (.loop c):=by
 simp only[sC,hS];intro β ds k;rw[hl];have hex: ∀(z:Option (Out×St)),oa m S.1 S.2 z=z.bind fun r=>oa m S.1 S.2 (some (r.1,r.2)):=by
  intro z;cases z<;>rfl
 have hs: ∀i x,stepG P A C f n m S c (enc i x)=(body i x (X ⊕ R) (fun y=>some (.inl y)) (fun r=>some (.inr r))).map fun| .inl y=> .inl (enc i y)| .inr r=> .inr (o8 i r):=by
  intro i x;have k1:=e1 i x _ (fun z=>some z);have k2:=e1 i x (X ⊕ R) (fun| .inl ds=>some (.inl (uu ds))| .inr e=>(JW e).map .inr);have k3:=e1 i x (List V ⊕ (Nat×List V)) (fun| .inl ds=>some (.inl (enc i (uu ds)))| .inr e=>(JW e).map fun r=> .inr (o8 i r));simp only[P7,hdr,Option.map_some] at k2 k3;unfold stepG;rw[hex];rw[Iu P A C f n m c hL] at k1 k2 k3;rw[←k2];refine Eq.trans ?_ (k1.trans (k3.symm.trans ?_))
  ·simp
  ·cases exec P A C f n m c (bI S.1 (enc i x)) with
   | none=>rfl
   | some r=>
    simp only[Option.bind_some];cases oa m S.1 S.2 (some (r.1,r.2)) with
    | none=>rfl
    | some z=>
     cases z with
     | inl _=>rfl
     | inr e=>simp only[Option.bind_some];cases JW e<;>rfl
 have h0:stepG P A C f n m S c ds=stepG P A C f n m S c (enc (sE ds) (uu ds)):=by
  unfold stepG;rw[xO]
 have:Loop (stepG P A C f n m S c) ds=(Loop (fun x=>body (sE ds) x (X ⊕ R) (fun y=>some (.inl y)) (fun r=>some (.inr r))) (uu ds)).map (o8 (sE ds)):=by
  rw[H3,h0,←H3];exact afs (enc (sE ds)) (o8 (sE ds)) (fun x=>hs _ _) (uu ds)
 rw[this];cases Loop (fun x=>body (sE ds) x (X ⊕ R) (fun y=>some (.inl y)) (fun r=>some (.inr r))) (uu ds)<;>rfl
abbrev DS (S:Shape) (mk:List Bool):List LK:=Ai false mk S.ks
abbrev xT (S:Shape) (mk:List Bool):List LK:=Ai true mk S.ks
def uv (ts:List (List Nat)) (W:List (Out×Shape)):List gS:=
 match ts,W with
 | t::ts,w::W=>(t,w.2.ks)::uv ts W
 | _,_=>[]
abbrev DT (S:Shape) (mk:List Bool) (i:mL (DS S mk)) (x:mL (xT S mk)):List V:=merge mk (nu _ i) (nu _ x)
abbrev P8 (S:Shape) (mk:List Bool) (i:mL (DS S mk)):List V:=merge mk (nu _ i) []
abbrev JX (S:Shape) (mk:List Bool) (ds:List V):mL (DS S mk):=rh _ (Ai false mk (S.norm ds))
abbrev JY (S:Shape) (mk:List Bool) (ds:List V):mL (xT S mk):=rh _ (Ai true mk (S.norm ds))
abbrev Zn (X R:Type):Type 1:=(β:Type)→(X→Option β)→(R→Option β)→Option β
abbrev JZ (S:Shape×List (Out×Shape)) (mk:List Bool) (ts:List (List Nat)):Type 1:=Ah (DS S.1 mk) (Ah (xT S.1 mk) (Zn (mL (xT S.1 mk)) (ur (uv ts S.2))))
abbrev P9 (S:Shape×List (Out×Shape)) (mk:List Bool) (ts:List (List Nat)) (b:JZ S mk ts) (i:mL (DS S.1 mk)) (x:mL (xT S.1 mk)):Zn (mL (xT S.1 mk)) (ur (uv ts S.2)):=xR _ (xR _ b i) x
def Qa (S:Shape×List (Out×Shape)) (mk:List Bool) (ts:List (List Nat)) (b:JZ S mk ts) {β:Type} (ds:List V) (k:Nat→List V→Option β):Option β:=
 (Loop (fun x=>P9 S mk ts b (JX S.1 mk ds) x (mL (xT S.1 mk) ⊕ ur (uv ts S.2)) (fun y=>some (.inl y)) (fun r=>some (.inr r))) (JY S.1 mk ds)).bind (wT (P8 S.1 mk (JX S.1 mk ds)) k (uv ts S.2))
theorem br {c:Code} (S:Shape×List (Out×Shape)) (mk:List Bool) (ts:List (List Nat)) (b:JZ S mk ts) (hL:jq P A C L f n m c) (hS:A.iS f (keyOf c+1)=some S:=by kernel_rfl)
  (xO: ∀ds,bI S.1 (DT S.1 mk (JX S.1 mk ds) (JY S.1 mk ds))=bI S.1 ds:=by intros;kernel_rfl) (P7: ∀i x,JY S.1 mk (DT S.1 mk i x)=x:=by intros;kernel_rfl)
  (e1: ∀i x (β:Type) (k:(List V ⊕ (Nat×List V))→Option β),jT P A C L f n m c (bI S.1 (DT S.1 mk i x)) (fun o st=>(oa m S.1 S.2 (some (o,st))).bind k)=
   P9 S mk ts b i x β (fun y=>k (.inl (DT S.1 mk i y))) (wT (P8 S.1 mk i) (fun j l=>k (.inr (j,l))) (uv ts S.2)):=by intros;kernel_rfl)
  (hl: ∀(β:Type) ds (k:Nat→List V→Option β),L β (keyOf c+1) ds k=Qa S mk ts b ds k:=by intros;kernel_rfl):
  sC P A C L f n m (.loop c):=
 aiB hS hL (DT S.1 mk) (fun i r=>Ak (P8 S.1 mk i) _ r) (JX S.1 mk) (JY S.1 mk) (fun e=>Zj e.1 _ e.2) (P9 S mk ts b) xO P7 (fun i r=>aiA _ _ r)
  (fun i x β k=>by
   rw[e1];congr 1;funext r;exact JV _ _ _ r)
  (fun β ds k=>by
   rw[hl];unfold Qa;congr 1;funext r;exact JV _ _ _ r)
abbrev Qb (S:Shape×List (Out×Shape)) (ts:List (List Nat)):Type 1:=Ah S.1.ks ((β:Type)→(ur (uv ts S.2)→Option β)→Option β)
def Zo (S:Shape×List (Out×Shape)) (ts:List (List Nat)) (b:Qb S ts) {β:Type} (ds:List V) (k:Nat→List V→Option β):Option β:=
 xR S.1.ks b (rh _ (S.1.norm ds)) β (wT (nu S.1.ks (rh _ (S.1.norm ds))) k (uv ts S.2))
theorem o9 {t:Nat} {x y:Code} (S:Shape×List (Out×Shape)) (ts:List (List Nat)) (b:Qb S ts) (hx:jq P A C L f n m x) (hy:jq P A C L f n m y) (hS:A.iS f (t*16+15)=some S:=by kernel_rfl)
  (xO: ∀ds,bI S.1 (nu S.1.ks (rh _ (S.1.norm ds)))=bI S.1 ds:=by intros;kernel_rfl)
  (e1: ∀i (β:Type) (k:Nat→List V→Option β),PY P A C L f n m t S x y (nu S.1.ks i) k=xR S.1.ks b i β (wT (nu S.1.ks i) k (uv ts S.2)):=by intros;kernel_rfl)
  (hl: ∀(β:Type) ds (k:Nat→List V→Option β),L β (t*16+15) ds k=Zo S ts b ds k:=by intros;kernel_rfl):
  sC P A C L f n m (.cond t x y):=
 aiv hS hx hy (nu S.1.ks) (fun i r=>Ak (nu S.1.ks i) _ r) (fun ds=>rh _ (S.1.norm ds)) (xR S.1.ks b) xO
  (fun i β k=>by
   rw[e1];exact congrArg (xR S.1.ks b i β) (funext fun r=>JV _ _ _ r))
  (fun β ds k=>by
   rw[hl];exact congrArg (xR S.1.ks b (rh _ (S.1.norm ds)) β) (funext fun r=>JV _ _ _ r))
end
theorem aR {P:Program} {A:di} {C:af} {L:cz} {f n m:Nat} {c:Code} {bs:List ou} (hb:ov P A C L f n m bs) (h:qb A f c=bs:=by kernel_rfl):jq P A C L f n m c:=Y6 h hb
theorem bA {P:Program} {A:di} {L:cz} {key:Nat} {bs:List ou} {ds:List V} {r x:Option (List V)} (ht:ov P A (Call P A) L key (CE P (A.iD key)) (A.sin key).cO.length bs) (h:x=r)
  (hb:qb A key (rU P (A.iD key))=bs:=by kernel_rfl) (e:Iv P A (Call P A) L key ds=x:=by kernel_rfl):Call P A key ds=r:=aiw hb ht (e.trans h)
def bt (j:Nat) (S:Shape×List (Out×Shape)) (mk:List Bool) (ts:List (List Nat)) (b:JZ S mk ts) (L:cz):cz:=fun β n ds k=>bif Nat.beq n j then Qa S mk ts b ds k else L β n ds k
def pb (j:Nat) (S:Shape×List (Out×Shape)) (ts:List (List Nat)) (b:Qb S ts) (L:cz):cz:=fun β n ds k=>bif Nat.beq n j then Zo S ts b ds k else L β n ds k
def bB:cz:=fun _ _ _ _=>none
abbrev LV:=List V
structure SE where
 T:TypeId
 cmp:Nat
 ex:V→List V
 k:Nat→Nat
abbrev Zp (l:List V) (j:Int) {β:Type} (x:Option β):Option β:=bif (decide (0≤j))&&(decide (j<(l.length:Int))) then x else none
abbrev ar (l:List V) (j:Int) {β:Type} (f:V→Option β):Option β:=bif (decide (0≤j))&&(decide (j<(l.length:Int))) then (l[j.toNat]?).bind f else none
abbrev aE (l:List V) (j:Int) (v:V):List V:=l.set j.toNat v
end Go.AM
