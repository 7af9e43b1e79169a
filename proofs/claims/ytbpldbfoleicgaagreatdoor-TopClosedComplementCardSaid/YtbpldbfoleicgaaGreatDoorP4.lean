/-
  Functions of the program, lifted to plain data.
-/
import Derived.Carry
import Derived.OpenShut
import Derived.Deep.Slices
import Derived.Test.YtbpldbfoleicgaaGreatDoorP3
noncomputable section
set_option linter.unusedVariables false
set_option linter.unusedSimpArgs false
set_option linter.unusedSectionVars false
namespace Go.AM
open Go.IntKind (wrap)
section
variable {P:Program} {A:dn} {E:FuncId→Bool} {G:Nat→V} {w w':World} {I I' I2:Nat→Nat→Prop} {μ β β':Nat→Option Nat} {hp hp' hp0:Nat→Option ah} {C:af} {B:Nat} {M:Nat→Prop} {w0:Start}
def za (hp0:Nat→Option ah):Prop:= ∀id e es vers,(hp0 id=some (.nest e es vers)∨∃i,hp0 id=some (.out e es vers i))→∀k,bt vers k=0
theorem ZV {n m:Nat} {ord kp live:List Nat} {a:Act} {st:St} (rO:ord.Nodup) (FH: ∀id,id<m→ord[id]? =some id∨∃p,ord[id]? =some p∧st.hp p=none) (S:ay P w I β st.hp B M w0) (hT:sY P I β st.hp) (hA:iM P E G w I β n a st) (hE:ox w0.w w0.I μ hp0 w I β st.hp) (hm: ∀id blk,hp0 id=some blk→id<m) (mc:za hp0):
  ∃β',ay P w I β' (A7 ord kp live st).hp B M w0∧iM P E G w I β' n a (A7 ord kp live st)∧ox w0.w w0.I μ hp0 w I β' (A7 ord kp live st).hp:=by
 have akB:A7 ord kp live st=mk (oW st.hp ord st.sl (ord.length+(jf st.hp ord kp ord.length ord).2.length) live).1
   ((jf st.hp ord kp ord.length ord).1++((jf st.hp ord kp ord.length ord).2++(oW st.hp ord st.sl (ord.length+(jf st.hp ord kp ord.length ord).2.length) live).2)):=by
  rfl
 rw[akB]
 let hp':=mR ((jf st.hp ord kp ord.length ord).1++((jf st.hp ord kp ord.length ord).2++(oW st.hp ord st.sl (ord.length+(jf st.hp ord kp ord.length ord).2.length) live).2))
 let β':Nat→Option Nat:=fun j=>if j<ord.length then (ord[j]?).bind β else none
 have hlen:(jf st.hp ord kp ord.length ord).1.length=ord.length:=ZS;have nk: ∀j,j<ord.length→hp' j=(jf st.hp ord kp ord.length ord).1[j]? :=by
  intro j hj;simp only[hp',kL];rw[nG (by omega)]
 have ma: ∀k,hp' (ord.length+k)=((jf st.hp ord kp ord.length ord).2++(oW st.hp ord st.sl (ord.length+(jf st.hp ord kp ord.length ord).2.length) live).2)[k]? :=by
  intro k;simp only[hp',kL];rw[oO (by omega),hlen,IE]
 have hF:oz hp' β' ord.length ((jf st.hp ord kp ord.length ord).2++(oW st.hp ord st.sl (ord.length+(jf st.hp ord kp ord.length ord).2.length) live).2):=by
  intro k b hb;refine ⟨(ma k).trans hb,?_⟩;simp only[β'];rw[dA]
 have FE:qf ((jf st.hp ord kp ord.length ord).2++(oW st.hp ord st.sl (ord.length+(jf st.hp ord kp ord.length ord).2.length) live).2):=ZR.app ZP;have sj: ∀(j:Nat) id,ord[j]? =some id→β' j=β id:=by
  intro j id hj;simp only[β'];rw[aE (cu.1 hj).1,hj];rfl
 have tE: ∀(j:Nat) id,ord[j]? =some id→∃n',oz hp' β' n' (gp st.hp ord kp n' id).2∧hp' j=some (gp st.hp ord kp n' id).1:=by
  intro j id hj;obtain ⟨n',h1,h2⟩:=ZT (hp:=st.hp) (hp':=hp') (β':=β') (ord:=ord) (kp:=kp) (n:=ord.length) hj;exact ⟨n',h1 hF.left,(nk j (cu.1 hj).1).trans h2⟩
 have hR:B8 st.hp β ord hp' β':=by
  refine ⟨fun j id e es fz hj ae=> ?_,fun j id T cs hj ae=> ?_,fun j id hj ae=> ?_,fun j id e es vs i hj ae=> ?_,sj,fun j id e es vers hj ae=> ?_,fun j id t es hj ae=> ?_⟩
  ·obtain ⟨n',_,h2⟩:=tE j id hj;rw[h2];simp only[gp,ae]
  ·obtain ⟨n',_,h2⟩:=tE j id hj;rw[h2];simp only[gp,ae];exact ⟨_,rfl⟩
  ·obtain ⟨n',_,h2⟩:=tE j id hj;rw[h2];simp only[gp,ae]
  ·obtain ⟨n',_,h2⟩:=tE j id hj;rw[h2];simp only[gp,ae]
  ·obtain ⟨n',_,h2⟩:=tE j id hj;rw[h2];simp only[gp,ae]
  ·obtain ⟨n',_,h2⟩:=tE j id hj;rw[h2];simp only[gp,ae]
 have cls: ∀j blk',hp' j=some blk'→(∃id,ord[j]? =some id∧((blk'= .dead)∨∃blk,st.hp id=some blk∧blk≠ .dead∧∀o b,bd P w o blk' b→bd P w o blk b))∨(∃e,blk'= .arr e [] false∧β' j=none):=by
  intro j blk' hj;rcases js j ord.length with h|h
  ·have dZ:=bU h;obtain ⟨n',_,h2⟩:=tE j _ dZ;rw[hj] at h2;refine .inl ⟨_,dZ,?_⟩;cases ae:st.hp ord[j] with
   | none=>left;simp only[gp,ae] at h2;exact dM h2
   | some blk=>
    cases blk with
    | dead=>left;simp only[gp,ae] at h2;exact dM h2
    | out _ _ _ _=>left;simp only[gp,ae] at h2;exact dM h2
    | var T0 cs=>exact .inr ⟨_,rfl,by simp,fun o b h=>by simp only[gp,ae] at h2;rw[dM h2] at h;exact .root (by simp) (h.flat (by simp))⟩
    | arr e es fz=>exact .inr ⟨_,rfl,by simp,fun o b h=>by simp only[gp,ae] at h2;rw[dM h2] at h;exact .root (by simp) (h.flat (by simp))⟩
    | map t es=>exact .inr ⟨_,rfl,by simp,fun o b h=>by simp only[gp,ae] at h2;rw[dM h2] at h;exact .root (by simp) (h.flat (by simp))⟩
    | nest e es vers=>
     refine .inr ⟨_,rfl,by simp,fun o b h=> ?_⟩;simp only[gp,ae] at h2;rw[dM h2] at h;cases h with
     | root _ h=>exact .root (by simp) h
     | row h1 h2=>exact .row h1 h2
  ·obtain ⟨k,rfl⟩: ∃k,j=ord.length+k:=⟨j-ord.length,by omega⟩
   rw[ma] at hj;obtain ⟨e,he⟩:=FE _ (mi hj);exact .inr ⟨e,he,(hF k _ hj).2⟩
 refine ⟨β',⟨⟨fun j blk' hj=> ?_,fun j1 j2 b1 b2 b e1 e2 f1 f2=> ?_,fun j blk b e1 f1=> ?_,S.h.jR⟩,S.cH,S.size,S.new,S.io⟩,⟨fun k=> ?_,hA.size,hA.defers,hA.aB⟩,⟨hE.ej,hE.cH,fun id blk ae=> ?_,fun id blk blk' b ae bR hd hb=> ?_⟩⟩
 ·change hp' j=some blk' at hj;rcases js j ord.length with h|h
  ·have dZ:=bU h;obtain ⟨n',ZW,h2⟩:=tE j _ dZ;rw[hj] at h2;rw[sj j _ dZ];cases ae:st.hp ord[j] with
   | none=>simp only[gp,ae] at h2;rw[dM h2];exact .dead
   | some blk=>
    have hr:=S.h.rel _ _ ae;generalize β ord[j]=o at hr;cases hr with
    | dead=>simp only[gp,ae] at h2;rw[dM h2];exact .dead
    | out=>simp only[gp,ae] at h2;rw[dM h2];exact .dead
    | eA hb=>simp only[gp,ae] at h2;rw[dM h2];exact .eA hb
    | arr a0 a1 a2 a3 a4 a5 a6 a7=>simp only[gp,ae] at h2;rw[dM h2];exact .arr a0 a1 a2 a3 a4 a5 a6 a7
    | nest a1 a2 a3=>simp only[gp,ae] at h2;rw[dM h2];exact .nest a1 a2 a3
    | iX a1=>simp only[gp,ae] at h2;rw[dM h2];exact .iX a1
    | map a1 a2 a3 a4 a5 a6 a7=>simp only[gp,ae] at h2;rw[dM h2];exact .map a1 a2 a3 a4 a5 a6 a7
    | @var xs b Ca T hb hh hs dd hx iH=>
     simp only[gp,ae] at h2 ZW;rw[dM h2];exact .var hb hh (by rw[KZ];exact hs) dd (fun i v y hi hy=>K0 S hT hR (vs:=Ca.toList) (fun i v x hi c7=>hx i v x (by simpa using hi) c7) ZW i v y (by simpa using hi) hy) iH
  ·rcases cls j blk' hj with ⟨id,ae,_⟩|⟨e,he,hb⟩
   ·have:=(cu.1 ae).1;omega
   ·rw[he];exact .eA hb
 ·rcases cls j1 b1 e1 with ⟨dq,o1,x1⟩|⟨e,_,hb⟩
  ·rcases cls j2 b2 e2 with ⟨aH,o2,x2⟩|⟨e,_,hb⟩
   ·obtain ⟨c1,y1,z1,g1⟩:=x1.resolve_left f1.alive;obtain ⟨c2,y2,z2,g2⟩:=x2.resolve_left f2.alive;rw[sj _ _ o1] at f1;rw[sj _ _ o2] at f2;have:=S.h.inj dq aH c1 c2 b y1 y2 (g1 _ _ f1) (g2 _ _ f2);subst this;obtain ⟨q1,q2⟩:=cu.1 o1;obtain ⟨q3,q4⟩:=cu.1 o2;exact (List.getElem_inj rO).1 (q2.trans q4.symm)
   ·subst ‹b2=_›;have:=f2.flat (by simp);rw[hb] at this;cases this
  ·subst ‹b1=_›;have:=f1.flat (by simp);rw[hb] at this;cases this
 ·rcases cls j blk e1 with ⟨dq,o1,x1⟩|⟨e,_,hb⟩
  ·obtain ⟨c1,y1,z1,g1⟩:=x1.resolve_left f1.alive;rw[sj _ _ o1] at f1;exact S.h.own dq c1 b y1 (g1 _ _ f1)
  ·subst ‹blk=_›;have:=f1.flat (by simp);rw[hb] at this;cases this
 ·change aj P w I β' hp' (a.tmps.getD k undef) (mo _ k);unfold mo;cases EZ:fC (oW st.hp ord st.sl (ord.length+(jf st.hp ord kp ord.length ord).2.length) live).1 k with
  | none=>exact .undef
  | some y=>
   obtain ⟨n',h1,h2⟩:=ZQ hF.right EZ;simp only[Option.getD_some,h2];exact aky S hT hR (hA.sl k) h1
 ·obtain ⟨tz,k1,k2,k3⟩:=hE.blk id blk ae;rcases FH id (hm id blk ae) with ho|⟨p,ho,bE⟩
  ·cases tz with
   | dead=>exact ⟨.dead,hR.dead id id ho k1,k2,fun h=>absurd rfl h⟩
   | out e es vs i=>exact ⟨.dead,hR.out id id _ _ _ _ ho k1,by cases blk<;>trivial,fun h=>absurd rfl h⟩
   | var T0 cs=>
    obtain ⟨ll,h'⟩:=hR.var id id T0 cs ho k1;refine ⟨_,h',?_,fun _=>(sj id id ho).trans (k3 (by simp))⟩;cases blk<;>simp_all [ah.le]
   | arr e es fz=>exact ⟨_,hR.arr id id e es fz ho k1,k2,fun _=>(sj id id ho).trans (k3 (by simp))⟩
   | map t es=>exact ⟨_,hR.map id id t es ho k1,k2,fun _=>(sj id id ho).trans (k3 (by simp))⟩
   | nest e es vers=>
    refine ⟨_,hR.nest id id e es vers ho k1,?_,fun _=>(sj id id ho).trans (k3 (by simp))⟩;rcases ah.VV k2 with ⟨Kl,akC,rfl,l1,l2,_⟩|⟨Kl,akC,i0,rfl,l1,l2,_⟩
    ·exact ⟨rfl,l1,by simpa using l2,fun k=>by rw[mc id _ _ _ (.inl ae) k];exact mO _⟩
    ·exact ⟨rfl,l1,by simpa using l2,fun k=>by rw[mc id _ _ _ (.inr ⟨_,ae⟩) k];exact mO _⟩
  ·obtain ⟨n',_,h2⟩:=tE id p ho;simp only[gp,bE] at h2;exact ⟨.dead,h2,by cases blk<;>trivial,fun h=>absurd rfl h⟩
 ·obtain ⟨tz,k1,k2,k3⟩:=hE.blk id blk ae;rcases FH id (hm id blk ae) with ho|⟨p,ho,bE⟩
  ·refine hE.size id blk tz b ae k1 (fun vk=> ?_) hb;subst vk;have:=hR.dead id id ho k1;change hp' id=some blk' at bR;rw[this] at bR;exact hd (dM bR).symm
  ·obtain ⟨n',_,h2⟩:=tE id p ho;simp only[gp,bE] at h2;change hp' id=some blk' at bR;rw[h2] at bR;exact absurd (dM bR).symm hd
theorem akD {n m:Nat} {live:List Nat} {a:Act} {st:St} (S:ay P w I β st.hp B M w0) (hT:sY P I β st.hp) (hA:iM P E G w I β n a st) (hE:ox w0.w w0.I μ hp0 w I β st.hp) (hm: ∀id blk,hp0 id=some blk→id<m) (mc:za hp0):
  ∃β',ay P w I β' (canon m live st).hp B M w0∧iM P E G w I β' n a (canon m live st)∧ox w0.w w0.I μ hp0 w I β' (canon m live st).hp:=by
 obtain ⟨t,FH,rO⟩:=akA (m:=m) (live:=live) (st:=st);refine ZV (by rw[FH];exact rO) (fun id aY=> .inl ?_) S hT hA hE hm mc;rw[FH,nG (by simpa using aY)];simp[aY]
theorem ZX: ∀{l:List Nat},rE l=true→l.Nodup
 | [],_=> .nil
 | a::l,h=>by
  simp only[rE,aI,mL] at h;rw[List.nodup_cons];exact ⟨fun hm=>Bool.noConfusion ((yh hm).symm.trans h.1),ZX h.2⟩
theorem akE {m:Nat} {mv:List Nat} {id:Nat} (h:id<m):(pP m mv)[id]? =some id∨(pP m mv)[id]? =some (m+id):=by
 unfold pP;rw[nG (by simpa using h),kZ];simp only[IH h,Option.map_some];cases iE mv id with
 | true=>exact .inr rfl
 | false=>exact .inl rfl
end
section
variable {P:Program} {A:dn} {w w':World} {I I' I2:Nat→Nat→Prop} {μ β β':Nat→Option Nat} {hp hp' hp0:Nat→Option ah} {C:af} {B:Nat} {M:Nat→Prop} {w0:Start}
theorem K3 (p:Nat→Prop) (h: ∃n,p n): ∃n,p n∧∀m,p m→n≤m:=by
 obtain ⟨n,hn⟩:=h
 induction n using Nat.strongRecOn with
 | _ n ih=>
  by_cases hx: ∃m,m<n∧p m
  ·obtain ⟨m,hm,hp⟩:=hx;exact ih m hm hp
  ·exact ⟨n,hn,fun m hm=>Nat.le_of_not_lt fun aY=>hx ⟨m,aY,hm⟩⟩
open Classical in
theorem akF {c:Code} {Q:Exit→Act→World→Prop} (J:Nat→Act→World→Prop) (h0: ∀a w,¬J 0 a w) (round: ∀n a w,J (n+1) a w→c.wp P (Exit.then (J n) Q) a w) {n:Nat} {a:Act} {w:World} (h:J n a w):
  (Code.loop c).wp P Q a w:=by
 refine wp_loop (fun a w=> ∃n,J n a w) (fun a w=>if h: ∃n,J n a w then (K3 _ h).choose else 0) ⟨n,h⟩ fun a w hJ=> ?_;obtain ⟨h1,h2⟩:=(K3 _ hJ).choose_spec;generalize hk:(K3 _ hJ).choose=k at h1 h2;cases k with
 | zero=>exact absurd h1 (h0 a w)
 | succ k=>
  refine wp_mono (round k a w h1) fun e a' w' he=> ?_;cases e with
  | normal=>
   have hex: ∃n,J n a' w':=⟨k,he⟩
   refine ⟨hex,?_⟩;have h3:=(K3 _ hex).choose_spec.2 k he;rw[vU hex,vU hJ,hk];omega
  | _=>exact he
def B9:Out→Exit
 | .norm=> .normal
 | .exit id=> .exit id
 | .ret=> .ret
def Inv (P:Program) (E:FuncId→Bool) (G:Nat→V) (B:Nat) (M:Nat→Prop) (w0:Start) (μ:Nat→Option Nat) (hp0:Nat→Option ah) (n:Nat) (a:Act) (w:World) (st:St):Prop:=
 ∃I β,ay P w I β st.hp B M w0∧iM P E G w I β n a st∧ox w0.w w0.I μ hp0 w I β st.hp
theorem Inv.canon {E:FuncId→Bool} {G:Nat→V} {n m:Nat} {a:Act} {st:St} {live:List Nat} (h:Inv P E G B M w0 μ hp0 n a w st) (hm: ∀id blk,hp0 id=some blk→id<m) (mc:za hp0):Inv P E G B M w0 μ hp0 n a w (canon m live st):=by
 obtain ⟨I0,β,S,hA,hE⟩:=h;obtain ⟨I,h1,S,hA,hT⟩:=ZH S hA;obtain ⟨β',a,b,c⟩:=akD (live:=live) S hT hA (hE.trans h1.BW) hm mc;exact ⟨I,β',a,b,c⟩
theorem K4: ∀{l:List BS} {ds:List V},(hY l ds).length=l.length
 | [],_=>rfl
 | b::l,ds=>by simp only[hY,List.length_cons,K4]
theorem Inv.enter {A:dn} {E:FuncId→Bool} {G:Nat→V} {n f:Nat} {ds:List V} {a:Act} (nX:rE (pP (A.sin f).cS.length (A.mv f))=true) (h:Inv P E G B M w0 μ hp0 n a w (bG (A.sin f) ds)) (hm: ∀id blk,hp0 id=some blk→id<(A.sin f).cS.length)
  (mc:za hp0) (ZY: ∀p,(A.sin f).cS.length≤p→(bG (A.sin f) ds).hp p=none):Inv P E G B M w0 μ hp0 n a w (D5 A f ds):=by
 unfold D5;split
 ·exact h
 ·obtain ⟨I0,β,S,hA,hE⟩:=h;obtain ⟨I,h1,S,hA,hT⟩:=ZH S hA;obtain ⟨β',x,y,z⟩:=ZV (kp:=[]) (m:=(A.sin f).cS.length) (ord:=pP (A.sin f).cS.length (A.mv f)) (live:=(A.sin f).ch.map (·.1)) (ZX nX) (fun id ae=>(akE ae).imp (fun h=>h) fun h=>⟨_,h,ZY _ (by omega)⟩) S hT hA (hE.trans h1.BW) hm mc;exact ⟨I,β',x,y,z⟩
theorem Inv.reshape {E:FuncId→Bool} {G:Nat→V} {n m:Nat} {a:Act} {st:St} {S:Shape} {ds:List V} (h:Inv P E G B M w0 μ hp0 n a w st) (hs:lS m S st=some ds) (hm: ∀id blk,hp0 id=some blk→id<m):Inv P E G B M w0 μ hp0 n a w (bG S ds):=by
 obtain ⟨I,β,S1,hA,hE⟩:=h;obtain ⟨r1,r2,_,r4⟩:=AM.reshape hs S1;refine ⟨I,β,r1,⟨fun k=>r2 k _ (hA.sl k),hA.size,hA.defers,hA.aB⟩,⟨hE.ej,hE.cH,fun id blk ae=> ?_,fun id blk blk' b ae bR hd hb=> ?_⟩⟩
 ·obtain ⟨tz,k1,k2,k3⟩:=hE.blk id blk ae;obtain ⟨_,hle,_⟩:=YG hs;have hl:=hm id blk ae;obtain ⟨cz,h2⟩: ∃cz,(bG S ds).hp id=some cz:=by
   simp only[bG,mk,kL];exact ⟨_,bU (by rw[K4];omega)⟩
  by_cases hd:cz= .dead
  ·subst hd;exact ⟨_,h2,by cases blk<;>trivial,fun h=>absurd rfl h⟩
  ·obtain ⟨ku,e1,e2,_⟩:=r4 id cz h2 hd;rw[k1] at e1;cases e1;exact ⟨_,h2,ah.le_trans k2 e2,fun _=>k3 (fun e=>hd (ah.sU (e▸e2)))⟩
 ·obtain ⟨ku,e1,e2,_⟩:=r4 id blk' bR hd;exact hE.size id blk ku b ae e1 (fun e=>hd (ah.sU (e▸e2))) hb
theorem oy.here (h:oy P A C) (f:Nat) (id:Nat):oy P (A.here f id) C:=by
 intro key ds es hh;obtain ⟨fn,c,h1,h2,h3⟩:=h key ds es hh;refine ⟨fn,c,h1,h2,fun w I μ vals a g b d=>(h3 w I μ vals a g b d).mono fun e w' hx=> ?_⟩;obtain ⟨v,I2,cB,q1,q2⟩:=hx;exact ⟨v,I2,cB,q1,⟨q2.BX,q2.le,q2.res⟩⟩
theorem akG {a b:Out} (h:Jf a b=true):a=b:=by
 cases a<;>cases b<;>simp[Jf] at h<;>first|rfl|(subst h;rfl)
theorem ZZ {m:Nat} {r:Out×St}: ∀{l:List (Out×Shape)} {j:Nat} {e:Nat×List V},ways m j l r=some e→j≤e.1
 | [],j,e,h=>by cases h
 | (o,S)::l,j,e,h=>by
  simp only[ways] at h;split at h
  ·cases h;exact av _
  ·have:=ZZ h;omega
theorem QQ {m:Nat} {o:Out} {s:St} {out:Out} {st':St}: ∀{l:List (Out×Shape)} {k:Nat} {e:Nat×List V},ways m k l (o,s)=some e→nK k l e.1 e.2 (fun o st=>some (o,st))=some (out,st')→
  out=o∧∃S,lS m S s=some e.2∧st'=bG S e.2
 | [],k,e,h,_=>by cases h
 | (o',S)::l,k,e,h,h2=>by
  simp only[ways] at h;split at h
  ·rename_i ds hx;cases h;cases ho:Jf o' o with
   | false=>rw[ho] at hx;cases hx
   | true=>
    rw[ho] at hx;have:=akG ho;subst this;cases l with
    | nil=>
     simp only[nK,e7,mP] at h2;exact ⟨h2.1.symm,S,hx,h2.2.symm⟩
    | cons p l=>
     simp only[nK,nF,cond_true,e7,mP] at h2;exact ⟨h2.1.symm,S,hx,h2.2.symm⟩
  ·have p9:=ZZ h;cases l with
   | nil=>cases h
   | cons p l=>
    have bH:Nat.beq e.1 k=false:=by
     cases hb:Nat.beq e.1 k with
     | false=>rfl
     | true=>rw[aK] at hb;omega
    simp only[nK,bH,cond_false] at h2;exact QQ h h2
theorem akH (hC:oy P A C) (hP:kO P A) (qU:P.follows .mixedOrders=true) {f n m:Nat} (hm: ∀id blk,hp0 id=some blk→id<m) (mc:za hp0):
  ∀(c:Code) {st st':St} {out:Out} {Q:Exit→Act→World→Prop} {a:Act} {w:World},exec P A C f n m c st=some (out,st')→Inv P A.idle A.aB B M w0 μ hp0 n a w st→
   (∀a' w',Inv P A.idle A.aB B M w0 μ hp0 n a' w' st'→Q (B9 out) a' w')→c.wp P Q a w:=by
 intro c
 induction c with
 | skip=>
  intro st st' out Q a w h hI hQ;simp only[exec,e7,mP] at h;obtain ⟨rfl,rfl⟩:=h;exact wp_skip (hQ a w hI)
 | exit id=>
  intro st st' out Q a w h hI hQ;simp only[exec,e7,mP] at h;obtain ⟨rfl,rfl⟩:=h;exact wp_exit (hQ a w hI)
 | ret=>
  intro st st' out Q a w h hI hQ;simp only[exec,e7,mP] at h;obtain ⟨rfl,rfl⟩:=h;exact wp_ret (hQ a w hI)
 | region id ops draw=>
  intro st st' out Q a w h hI hQ;simp only[exec] at h;obtain ⟨mb,h1,h2⟩:=bind_some h;simp only[e7,mP] at h2;obtain ⟨rfl,rfl⟩:=h2;obtain ⟨I,β,S,hA,hE⟩:=hI;refine akt (hC.here f id) (hP.here f id) qU h1 S hA fun a' w' I' β' k1 k2 k3=> ?_;obtain ⟨I2,cB,l1,l2,l3⟩:=ZJ (m:=m) (pur:=A.pur f id) k2 k3;have EA:=(hE.trans k1.BW).trans l1.BW;exact hQ a' w' (Inv.canon ⟨I2,cB,l2,l3,EA⟩ hm mc)
 | seq x y jz jA=>
  intro st st' out Q a w h hI hQ;simp only[exec] at h;obtain ⟨⟨o1,mb⟩,h1,h2⟩:=bind_some h;refine wp_seq (jz h1 hI fun a' w' gI=> ?_);cases o1 with
  | norm=>exact jA h2 gI hQ
  | exit id=>
   simp only[e7,mP] at h2;obtain ⟨rfl,rfl⟩:=h2;exact hQ a' w' gI
  | ret=>
   simp only[e7,mP] at h2;obtain ⟨rfl,rfl⟩:=h2;exact hQ a' w' gI
 | cond c x y jz jA=>
  intro st st' out Q a w h hI hQ;cases c with
  | tmp t=>
   have go: ∀{st st':St} {out:Out} {Q:Exit→Act→World→Prop} {a:Act} {w:World},(match st.sl t with
     | .bool b=>(bif b then exec P A C f n m x st else exec P A C f n m y st).bind fun r=>
      match r.1 with
      | .norm=>some (.norm,AM.canon m (A.join f t) r.2)
      | _=>some r
     | _=>none)=some (out,st')→Inv P A.idle A.aB B M w0 μ hp0 n a w st→(∀a' w',Inv P A.idle A.aB B M w0 μ hp0 n a' w' st'→Q (B9 out) a' w')→(Code.cond (.tmp t) x y).wp P Q a w:=by
    intro st st' out Q a w h hI hQ;cases hs:st.sl t<;>rw[hs] at h<;>simp only at h<;>first|(cases h;done)|skip
    rename_i b;obtain ⟨⟨o1,mb⟩,h1,h2⟩:=bind_some h;obtain ⟨I,β,S,hA,hE⟩:=hI;have gP:a.eval (.tmp t)= .bool b:=by
     have:=Zg hA hs;simp[Act.eval,this]
    have fin: ∀a' w',Inv P A.idle A.aB B M w0 μ hp0 n a' w' mb→Q (B9 o1) a' w':=by
     intro a' w' gI;cases o1 with
     | norm=>
      simp only[e7,mP] at h2;obtain ⟨rfl,rfl⟩:=h2;exact hQ a' w' (gI.canon hm mc)
     | exit id=>
      simp only[e7,mP] at h2;obtain ⟨rfl,rfl⟩:=h2;exact hQ a' w' gI
     | ret=>
      simp only[e7,mP] at h2;obtain ⟨rfl,rfl⟩:=h2;exact hQ a' w' gI
    refine wp_cond gP ?_;cases b with
    | true=>exact jz h1 ⟨I,β,S,hA,hE⟩ fin
    | false=>exact jA h1 ⟨I,β,S,hA,hE⟩ fin
   simp only[exec] at h;split at h
   ·exact go h hI hQ
   ·obtain ⟨ds,h1,h2⟩:=bind_some h;obtain ⟨e,h3,h4⟩:=bind_some h2;obtain ⟨⟨o1,s1⟩,h5,h6⟩:=bind_some h3;obtain ⟨rfl,S',k1,rfl⟩:=QQ h6 h4;exact go h5 (hI.reshape h1 hm) fun a' w' gI=>hQ a' w' (gI.reshape k1 hm)
  | const v=>
   cases v with
   | bool b=>
    simp only[exec] at h;refine wp_cond (t:=b) rfl ?_;cases b with
    | true=>exact jz h hI hQ
    | false=>exact jA h hI hQ
   | _=>simp only[exec] at h;cases h
  | _=>simp only[exec] at h;cases h
 | block id c ih=>
  intro st st' out Q a w h hI hQ;simp only[exec] at h;obtain ⟨⟨o1,mb⟩,h1,h2⟩:=bind_some h;refine wp_block (ih h1 hI fun a' w' gI=> ?_);cases o1 with
  | norm=>
   simp only[e7,mP] at h2;obtain ⟨rfl,rfl⟩:=h2;exact hQ a' w' (gI.canon hm mc)
  | exit aq=>
   simp only at h2;cases hb:Nat.beq aq id with
   | true=>
    rw[hb] at h2;simp only[cond_true,e7,mP] at h2;obtain ⟨rfl,rfl⟩:=h2;rw[aK] at hb;simp only[B9,Exit.inBlock,hb,rv];exact hQ a' w' (gI.canon hm mc)
   | false=>
    rw[hb] at h2;simp only[cond_false,e7,mP] at h2;obtain ⟨rfl,rfl⟩:=h2;have bH:aq≠id:=fun e=>by rw[e,nF] at hb;cases hb
    simp only[B9,Exit.inBlock,bH,sH];exact hQ a' w' gI
  | ret=>
   simp only[e7,mP] at h2;obtain ⟨rfl,rfl⟩:=h2;exact hQ a' w' gI
 | loop c ih=>
  intro st st' out Q a w h hI hQ;simp only[exec] at h;split at h
  ·cases h
  ·rename_i S hS;obtain ⟨ds,h1,h2⟩:=bind_some h;obtain ⟨e,h3,h4⟩:=bind_some h2;obtain ⟨k,hk⟩:=AR h3;refine akF (J:=fun k a w=> ∃ds,Inv P A.idle A.aB B M w0 μ hp0 n a w (bG S.1 ds)∧g0 (fun ds=>oX m S.1 S.2 (exec P A C f n m c (bG S.1 ds))) k ds=some e) (fun a w ⟨s,_,h⟩=>by cases h) (fun k a w ⟨ds,hs,hk⟩=> ?_) ⟨ds,hI.reshape h1 hm,hk⟩;simp only[g0] at hk;obtain ⟨y,h5,h6⟩:=bind_some hk;unfold oX at h5;obtain ⟨⟨o1,s1⟩,h7,h8⟩:=bind_some h5;refine ih h7 hs fun a' w' gI=> ?_;have Z0: ∀{e':Nat×List V},ways m 0 S.2 (o1,s1)=some e'→e'=e→Q (B9 o1) a' w':=by
    intro e' q1 q2;subst q2;obtain ⟨rfl,S',k1,rfl⟩:=QQ q1 h4;exact hQ a' w' (gI.reshape k1 hm)
   cases o1 with
   | norm=>
    obtain ⟨ds2,q1,q2⟩:=bind_some h8;cases q2;exact ⟨ds2,gI.reshape q1 hm,h6⟩
   | exit id=>
    obtain ⟨e',q1,q2⟩:=bind_some h8;cases q2;cases h6;exact Z0 q1 rfl
   | ret=>
    obtain ⟨e',q1,q2⟩:=bind_some h8;cases q2;cases h6;exact Z0 q1 rfl
 | _=>intro st st' out Q a w h;simp only[exec] at h;cases h
end
section
variable {P:Program} {A:dn} {w w':World} {I I' I2:Nat→Nat→Prop} {μ β β' cB:Nat→Option Nat} {hp hp' hp0:Nat→Option ah} {C:af} {B:Nat} {M:Nat→Prop} {w0:Start}
theorem K5 (S:ay P w I β hp B M w0) {a:Act} {st:St} (hs:nM P w I β hp a st.sl): ∀{l:List ResultVar} {xs:List V} {rd:List Nat},(xS P st l).run C hp=some (xs,rd)→
  ∃vs:List Value,(l.mapM fun| .tmp t=>Pure.pure (a.tmps.getD t undef)| .cell x t=>do loadVar t (←asAddr (a.tmps.getD x undef)):Sem (List Value)).run P w= .ok vs w∧vs.length=xs.length∧l.length=xs.length∧
   ∀(j:Nat) v x,vs[j]? =some v→xs[j]? =some x→aj P w I β hp v x
 | [],xs,rd,h=>by
  cases h;simp_all
 | .tmp t::l,xs,rd,h=>by
  simp only[xS] at h;obtain ⟨ys,l1,l2,h1,h2⟩:=nP h;have h3:=OD h2;subst h3;obtain ⟨vs,a1,a2,a3,a4⟩:=K5 S hs h1;refine ⟨a.tmps.getD t undef::vs,by simp_all,by simp[a2],by simp[a3],fun j v x hj hx=> ?_⟩;cases j with
  | zero=>simp at hj hx;subst hj;subst hx;have:=hs t;simp_all
  | succ j=>grind
 | .cell y t::l,xs,rd,h=>by
  simp only[xS] at h;obtain ⟨r,l1,l2,h1,h2⟩:=nP h;obtain ⟨ys,l3,l4,h3,h4⟩:=nP h2;have h5:=OD h4;subst h5;obtain ⟨v0,b1,b2,b3,ad,b4⟩:=Wk S (hs y) h1;obtain ⟨vs,a1,a2,a3,a4⟩:=K5 S hs h3;refine ⟨v0::vs,?_,by simp[a2],by simp[a3],fun j v x hj hx=> ?_⟩
  ·have e1:(do loadVar t (←asAddr (a.tmps.getD y undef)):Sem Value).run P w= .ok v0 w:=by
    rw[b4] at b1⊢;simpa[Instr.loadAt,Instr.sureAddr,asAddr] using b1
   simp only[List.mapM_cons,Sem.run_bind,e1,Result.andThen_ok,a1,Sem.run_pure]
  grind
def zb:List Value→Value
 | [v]=>v
 | l=> .tuple l.toArray
theorem akI {vs:List Value} (h:vs.length≠1):zb vs= .tuple vs.toArray:=by
 match vs,h with
 | [],_=>rfl
 | [v],h=>simp at h
 | v::v2::l,_=>rfl
theorem akJ {fn:Func} {a:Act} {st:St} (S:ay P w I β st.hp B M w0) (hs:nM P w I β st.hp a st.sl) {xs:List V} {rd:List Nat} (h:(xS P st fn.results.toList).run C st.hp=some (xs,rd)):
  ∃vs:List Value,(results fn a.tmps).run P w= .ok (zb vs) w∧vs.length=xs.length∧
   ∀(j:Nat) v x,vs[j]? =some v→xs[j]? =some x→aj P w I β st.hp v x:=by
 obtain ⟨vs,a1,a2,_,a4⟩:=K5 S hs h;refine ⟨vs,?_,a2,a4⟩;unfold results;rw[Array.mapM_eq_mapM_toList];simp only[map_eq_pure_bind,bind_assoc,pure_bind,Sem.run_bind];refine (congrArg (fun r:Result (List Value)=>r.andThen _) a1).trans ?_;simp only[Result.andThen_ok,Sem.run_pure]
 match vs with
 | []=>simp[zb]
 | [v]=>simp[zb]
 | v::v2::l=>simp[zb]
theorem Z1: ∀{args:List V} {i k:Nat},fC (qE i args) k=if i≤k then args[k-i]? else none
 | [],i,k=>by simp[qE,fC]
 | v::vs,i,k=>by
  simp only[qE,fC];cases hb:Nat.beq k i with
  | true=>
   simp_all
  | false=>
   have bH:k≠i:=fun e=>by simp_all
   simp only[cond_false,Z1];grind
theorem QR: ∀{l:List (Nat×VS)} {ds:List V} {i k:Nat},lg i l=true→fC (iU l ds) k=if i≤k then (jx (l.map (·.2)) ds)[k-i]? else none
 | [],ds,i,k,_=>by simp[iU,jx,fC]
 | (q,s)::l,ds,i,k,h=>by
  simp only[lg,aI,aK] at h;obtain ⟨rfl,h⟩:=h;simp only[iU,fC,kY,jx];cases hb:Nat.beq k q with
  | true=>
   simp_all
  | false=>
   have bH:k≠q:=fun e=>by simp_all
   simp only[cond_false];rw[QR h];grind
theorem Z2: ∀{l:List (Nat×VS)} {ds:List V},(iU l ds).map (·.2)=jx (l.map (·.2)) ds
 | [],_=>rfl
 | (q,s)::l,ds=>by simp only[iU,kY,jx,Z2]
theorem QS: ∀{l:List VS} {ds:List V},(jx l ds).length=l.length
 | [],_=>rfl
 | s::l,ds=>by simp only[jx,List.length_cons,QS]
theorem Z3: ∀{l:List (Nat×VS)} {ds:List V},(iU l ds).length=l.length
 | [],_=>rfl
 | (q,s)::l,ds=>by simp only[iU,List.length_cons,Z3]
theorem akK {vals:List Value} {l:List (Nat×V)} (hl:vals.length=l.length) (h: ∀(j:Nat) v y,vals[j]? =some v→(l.map (·.2))[j]? =some y→aj P w I β hp v y):aj P w I β hp (zb vals) (sP l):=by
 match l,hl,h with
 | [],hl,h=>
  obtain rfl:vals=[]:=oL hl;exact .ba rfl fun j v x _ hx=>by simp at hx
 | [(k,y)],hl,h=>
  match vals,hl,h with
  | [v],_,h=>exact h 0 v y rfl rfl
 | a::b::l,hl,h=>
  have bH:vals.length≠1:=by grind
  rw[akI bH];simp only[sP];exact .ba (by simp[hl]) fun j v y hj hy=>h j v y (by grind) hy
theorem akL {l:List BS} {ds:List V} {j:Nat} {e:TypeId} {es:List V} {vers:List Nat} (h:(hY l ds)[j]? =some (.nest e es vers)) (k:Nat):bt vers k=0:=by
 obtain ⟨b,kb,_,h2⟩:=KM h;cases b<;>simp only[iF] at h2<;>cases h2
 match k with
 | 0=>rfl
 | 1=>rfl
 | 2=>rfl
 | _+3=>rfl
theorem akM {f n m:Nat} {fn:Func} {a:Act} {st:St} {es:List V} {rd:List Nat} (hm: ∀id blk,hp0 id=some blk→id<m) (mc:za hp0)
  (hI:Inv P A.idle A.aB B M w0 μ hp0 n a w st) (tB:lg 0 (A.iS f).ch=true) (aZ:(A.iS f).ch.length=fn.results.size) (h:(xT P A f fn m st).run C st.hp=some (es,rd)):
  ∃v I2 cB,(results fn a.tmps).run P w= .ok v w∧ay P w I2 cB (bG (A.so f es) (A.lv f es)).hp B M w0∧ox w0.w w0.I μ hp0 w I2 cB (bG (A.so f es) (A.lv f es)).hp∧aj P w I2 cB (bG (A.so f es) (A.lv f es)).hp v (sP (iU (A.so f es).ch (A.lv f es))):=by
 unfold xT at h;obtain ⟨xs,l1,l2,h1,h2⟩:=nP h;obtain ⟨I,β,S,hA,hE⟩:=hI;obtain ⟨vals,e1,e2,e3⟩:=akJ S hA.sl h1;have e4:fn.results.size=xs.length:=by
  obtain ⟨_,_,_,q,_⟩:=K5 S hA.sl h1;omega
 have fin: ∀(Sx:Shape) (es:List V),lg 0 Sx.ch=true→Sx.ch.length=fn.results.size→lS m Sx (canon m (List.range xs.length++A.live f 9999) (freeze m (A.xM f) ⟨mo (qE 0 xs),st.hp,st.nb⟩))=some es→
   ∃v I2 cB,(results fn a.tmps).run P w= .ok v w∧ay P w I2 cB (bG Sx es).hp B M w0∧ox w0.w w0.I μ hp0 w I2 cB (bG Sx es).hp∧aj P w I2 cB (bG Sx es).hp v (sP (iU Sx.ch es)):=by
  intro Sx es tB aZ Cc;have hA0:iM P A.idle A.aB w I β vals.length ⟨vals.toArray,[]⟩ ⟨mo (qE 0 xs),st.hp,st.nb⟩:=by
   refine ⟨fun k=> ?_,by simp,by simp,hA.aB⟩;change aj P w I β st.hp _ (mo (qE 0 xs) k);unfold mo;rw[Z1];simp only[mO,rv,Nat.sub_zero];cases hk:xs[k]? with
   | none=>exact .undef
   | some x=>
    have tj:k<vals.length:=by grind
    have:=e3 k vals[k] x (bU tj) hk;have e5:(vals.toArray).getD k undef=vals[k]:=by simp[tj]
    grind
  obtain ⟨I2,cB,k1,k2,k3⟩:=ZJ (st:=⟨mo (qE 0 xs),st.hp,st.nb⟩) (m:=m) (pur:=A.xM f) S hA0;have hI2:Inv P A.idle A.aB B M w0 μ hp0 vals.length ⟨vals.toArray,[]⟩ w (freeze m (A.xM f) ⟨mo (qE 0 xs),st.hp,st.nb⟩):=⟨I2,cB,k2,k3,hE.trans k1.BW⟩
  obtain ⟨I3,Z4,q1,q2,q3⟩:=(hI2.canon (live:=List.range xs.length++A.live f 9999) hm mc).reshape Cc hm;refine ⟨zb vals,I3,Z4,e1,q1,q3,akK (by rw[Z3,aZ,e4,e2]) fun j v y hj hy=> ?_⟩;have hv:=q2.sl j;have dh:=(cu.1 hj).1;have e5:(vals.toArray).getD j undef=v:=by
   simp_all
  change aj P w I3 Z4 _ ((vals.toArray).getD j undef) (mo (iU Sx.ch _) j) at hv;rw[e5] at hv;unfold mo at hv;rw[QR tB] at hv;simp only[mO,rv,Nat.sub_zero] at hv;rw[Z2] at hy;grind
 unfold dn.so dn.lv;cases dj:A.alt f with
 | none=>
  rw[dj] at h2;simp only at h2⊢;split at h2
  ·rename_i kb Cc;have:=aL h2;grind
  ·cases h2
 | some S2=>
  rw[dj] at h2;simp only at h2⊢;split at h2
  ·rename_i kb Cc;have:=aL h2;subst this;exact fin _ _ tB aZ Cc
  ·split at h2
   ·rename_i kb Cc;obtain ⟨hc,h3⟩:=az h2;simp only[aI,aK] at hc;have:=aL h3;subst this;exact fin _ _ hc.1 hc.2 Cc
   ·cases h2
theorem akN (hC:oy P A C) (hP:kO P A) (qU:P.follows .mixedOrders=true):oy P A (rG P A C):=by
 intro f ds es h;unfold rG at h;cases hf:P.funcs[A.jP f]? with
 | none=>grind
 | some fn=>
  rw[hf] at h;simp only at h;cases hb:fn.body with
  | none=>grind
  | some c=>
   rw[hb] at h;simp only at h;cases hc:(lg 0 (A.sin f).ch&&(Nat.ble (A.sin f).ch.length fn.ntmps&&((A.sin f).ok&&(lg 0 (A.iS f).ch&&(Nat.beq (A.iS f).ch.length fn.results.size&&rE (pP (A.sin f).cS.length (A.mv f))))))) with
   | false=>grind
   | true=>
    rw[hc] at h;simp only[cond_true] at h;simp only[aI,aK,fV] at hc;obtain ⟨jk,hnt,_,tt,aZ,nX⟩:=hc;obtain ⟨⟨out,st'⟩,h1,h2⟩:=bind_some h;refine ⟨fn,c,rfl,hb,fun w I μ vals hH Pm hl hv=> ?_⟩;have akO:(∀id,out≠ .exit id)∧∃rd,(xT P A f fn (A.sin f).cS.length st').run C st'.hp=some (es,rd):=by
     cases out with
     | exit id=>cases h2
     | norm=>
      simp_all
     | ret=>
      simp_all
    obtain ⟨bH,rd,Qq⟩:=akO;refine calls_of_wp_defers hf hb ?_;have hm: ∀id blk,(bG (A.sin f) ds).hp id=some blk→id<(A.sin f).cS.length:=by
     intro id blk ae;simp only[bG,mk,kL] at ae;have:=(cu.1 ae).1;rwa [K4] at this
    have mc:za (bG (A.sin f) ds).hp:=by
     intro id e es vers ae k;simp only[bG,mk,kL] at ae;rcases ae with ae|⟨i,ae⟩
     ·exact akL ae k
     ·obtain ⟨b,_,_,h⟩:=KM ae;cases b<;>cases h
    refine akH (w0:=⟨w,I⟩) (μ:=μ) (hp0:=(bG (A.sin f) ds).hp) (B:=w.heap.size) (M:=si P w μ (bG (A.sin f) ds).hp) hC hP qU hm mc c h1 ?_ ?_
    ·refine Inv.enter nX ?_ hm mc fun p hp=>by
      simp only[bG,mk,kL];rw[List.getElem?_eq_none_iff,K4];exact hp
     refine ⟨I,μ,⟨hH,fun _ _ _=>rfl,av _,fun b j h=> .inl h,⟨rfl,rfl⟩⟩,⟨fun k=> ?_,?_,by simp,Pm⟩,(Le.refl (P:=P) w I μ _).BW⟩
     ·change aj P w I μ _ _ (mo (iU (A.sin f).ch ds) k);unfold mo;rw[QR jk];simp only[mO,rv,Nat.sub_zero];cases hk:(jx ((A.sin f).ch.map (·.2)) ds)[k]? with
      | none=>exact .undef
      | some x=>
       have tj:k<vals.length:=by
        have:=(cu.1 hk).1;rw[QS,db] at this;omega
       have:=hv k vals[k] x (bU tj) hk;have e1:(vals.toArray++Array.replicate (fn.ntmps-vals.toArray.size) undef).getD k undef=vals[k]:=by
        simp[Array.getElem?_append,tj]
       grind
     grind
    ·intro a' w' hI;obtain ⟨v,I2,cB,q1,q2,q3,q4⟩:=akM hm mc hI tt aZ Qq;obtain ⟨_,_,_,hA,_⟩:=hI;cases out with
     | exit id=>grind
     | norm=>exact QF hP q1 ⟨v,I2,cB,rfl,q2,q3,q4⟩ _ hA.defers
     | ret=>exact QF hP q1 ⟨v,I2,cB,rfl,q2,q3,q4⟩ _ hA.defers
theorem Z5 (hP:kO P A) (qU:P.follows .mixedOrders=true): ∀n,oy P A (nL P A n)
 | 0=>fun _ _ _ h=>by cases h
 | n+1=>akN (Z5 hP qU n) hP qU
theorem akP (hP:kO P A) (qU:P.follows .mixedOrders=true):oy P A (Call P A):=by
 intro f ds es h;have hn: ∃n,nL P A n f ds=some es:=by
  unfold Call at h;split at h
  all_goals grind
 obtain ⟨n,hn⟩:=hn;exact Z5 hP qU n f ds es hn
end
section
variable {P:Program} {A:dn} {C:af} {D:Nat→af}
def FI (C:af) (D:Nat→af):Prop:= ∀f a r,C f a=some r→∃n,∀k,n≤k→D k f a=some r
theorem tF {α:Type} (h:FI C D) {hp:Nat→Option ah}: ∀{p:Rd α} {r:α×List Nat},p.run C hp=some r→∃n,∀k,n≤k→p.run (D k) hp=some r
 | .ret a,r,e=>⟨0,fun _ _=>e⟩
 | .fail,r,e=>by cases e
 | .get id q,r,e=>by
  obtain ⟨x,h1,h2⟩:=bind_some e;obtain ⟨n,hn⟩:=tF h h1;exact ⟨n,fun k hk=>by simp only[Rd.run,hn k hk,Option.bind_some];exact h2⟩
 | .opt o q,r,e=>by
  obtain ⟨x,h1,h2⟩:=bind_some e;obtain ⟨n,hn⟩:=tF h h2;exact ⟨n,fun k hk=>by simp only[Rd.run,h1,Option.bind_some];exact hn k hk⟩
 | .live id ok q,r,e=>by
  simp only[Rd.run] at e;cases hk:ok (jO (hp id)) with
  | false=>rw[hk] at e;cases e
  | true=>
   rw[hk] at e;obtain ⟨x,h1,h2⟩:=bind_some e;obtain ⟨n,hn⟩:=tF h h1;exact ⟨n,fun k B6=>by simp only[Rd.run,hk,cond_true,hn k B6,Option.bind_some];exact h2⟩
 | .ax b q,r,e=>by
  obtain ⟨h1,h2⟩:=az e;obtain ⟨n,hn⟩:=tF h h2;exact ⟨n,fun k hk=>by simp only[Rd.run,h1,cond_true];exact hn k hk⟩
 | .call f a q,r,e=>by
  obtain ⟨x,h1,h2⟩:=bind_some e;obtain ⟨n1,jk⟩:=h f a x h1;obtain ⟨n2,tt⟩:=tF h h2;exact ⟨max n1 n2,fun k hk=>by simp only[Rd.run,jk k (by omega),Option.bind_some];exact tt k (by omega)⟩
 | .alt true x y,r,e=>tF (p:=x) h e
 | .alt false x y,r,e=>tF (p:=y) h e
theorem akQ (h:FI C D) {n i nb:Nat} {ops:Array Oper} {o:Oper} {st:St} {r:St×List Nat×List Nat} (e:kj P A C n ops i o nb st=some r): ∃N,∀k,N≤k→kj P A (D k) n ops i o nb st=some r:=by
 unfold kj at e;have go:(((je P A st.sl i (nb+64*i) o).run C st.hp).bind fun r=>some ((⟨lf st.sl o.dst r.1.v,b9 st.hp r.1.upd,st.nb⟩:St),uB r.2 r.1.upd,jy st.hp r.1.upd))=some r→
   ∃N,∀k,N≤k→(((je P A st.sl i (nb+64*i) o).run (D k) st.hp).bind fun r=>some ((⟨lf st.sl o.dst r.1.v,b9 st.hp r.1.upd,st.nb⟩:St),uB r.2 r.1.upd,jy st.hp r.1.upd))=some r:=by
  intro e;obtain ⟨x,h1,h2⟩:=bind_some e;obtain ⟨N,hN⟩:=tF h h1;exact ⟨N,fun k hk=>by rw[hN k hk];exact h2⟩
 unfold kj;cases hd:wm o n with
 | false=>rw[hd] at e;cases e
 | true=>
  rw[hd] at e;simp only[cond_true] at e⊢;cases hg:o.guard with
  | none=>rw[hg] at e;exact go e
  | some gw=>
   obtain ⟨g,want⟩:=gw;rw[hg] at e;simp only at e⊢;cases ph:(ops[g]?).bind (·.dst) with
   | none=>rw[ph] at e;cases e
   | some d=>
    rw[ph] at e;simp only at e⊢;cases qe:oQ (st.sl d) with
    | none=>rw[qe] at e;cases e
    | some ob=>
    rw[qe] at e;cases ob with
    | none=>exact ⟨0,fun _ _=>e⟩
    | some b=>
    simp only at e⊢;cases hb:b==want with
    | true=>rw[hb] at e;exact go e
    | false=>rw[hb] at e;exact ⟨0,fun _ _=>e⟩
theorem Z6 (h:FI C D) {n nb:Nat} {ops:Array Oper}: ∀{l:List (Nat×Oper)} {st:St} {log:Log} {r:St×Log},sQ P A C n ops nb l st log=some r→∃N,∀k,N≤k→sQ P A (D k) n ops nb l st log=some r
 | [],st,log,r,e=>⟨0,fun _ _=>e⟩
 | (i,o)::l,st,log,r,e=>by
  obtain ⟨x,h1,h2⟩:=bind_some e;obtain ⟨N1,sk⟩:=akQ h h1;obtain ⟨N2,vm⟩:=Z6 h h2;exact ⟨max N1 N2,fun k hk=>by simp only[sQ,sk k (by omega),Option.bind_some];exact vm k (by omega)⟩
theorem Z7 {X R:Type} {step:X→Option (X ⊕ R)} {stepD:Nat→X→Option (X ⊕ R)} (hs: ∀x y,step x=some y→∃N,∀k,N≤k→stepD k x=some y): ∀(n:Nat) (x:X) (r:R),g0 step n x=some r→∃N,∀k,N≤k→g0 (stepD k) n x=some r
 | 0,x,r,e=>by cases e
 | n+1,x,r,e=>by
  simp only[g0] at e⊢;obtain ⟨y,h1,h2⟩:=bind_some e;obtain ⟨N1,sk⟩:=hs x y h1;cases y with
  | inl z=>
   obtain ⟨N2,vm⟩:=Z7 hs n z r h2;exact ⟨max N1 N2,fun k hk=>by rw[sk k (by omega)];exact vm k (by omega)⟩
  | inr q=>exact ⟨N1,fun k hk=>by rw[sk k hk];exact h2⟩
theorem akR (h:FI C D) {f n m:Nat}: ∀(c:Code) {st:St} {r:Out×St},exec P A C f n m c st=some r→∃N,∀k,N≤k→exec P A (D k) f n m c st=some r:=by
 intro c
 induction c with
 | skip=>exact fun e=>⟨0,fun _ _=>e⟩
 | exit id=>exact fun e=>⟨0,fun _ _=>e⟩
 | ret=>exact fun e=>⟨0,fun _ _=>e⟩
 | region id ops draw=>
  intro st r e;simp only[exec] at e⊢;obtain ⟨x,h1,h2⟩:=bind_some e;obtain ⟨y,h3,h4⟩:=bind_some h1;obtain ⟨N,hN⟩:=Z6 h h3;refine ⟨N,fun k hk=> ?_⟩;have:A8 P (A.here f id) (D k) n ops draw st=some x:=by
   unfold A8;rw[hN k hk];exact h4
  rw[this];exact h2
 | seq x y jz jA=>
  intro st r e;simp only[exec] at e⊢;obtain ⟨⟨o,s1⟩,h1,h2⟩:=bind_some e;obtain ⟨N1,sk⟩:=jz h1;cases o with
  | norm=>
   obtain ⟨N2,vm⟩:=jA h2;exact ⟨max N1 N2,fun k hk=>by rw[sk k (by omega)];exact vm k (by omega)⟩
  | exit id=>exact ⟨N1,fun k hk=>by rw[sk k hk];exact h2⟩
  | ret=>exact ⟨N1,fun k hk=>by rw[sk k hk];exact h2⟩
 | cond c x y jz jA=>
  intro st r e;cases c with
  | tmp t=>
   have go: ∀{st:St} {r:Out×St},(match st.sl t with
     | .bool b=>(bif b then exec P A C f n m x st else exec P A C f n m y st).bind fun r=>
      match r.1 with
      | .norm=>some (.norm,canon m (A.join f t) r.2)
      | _=>some r
     | _=>none)=some r→∃N,∀k,N≤k→(match st.sl t with
     | .bool b=>(bif b then exec P A (D k) f n m x st else exec P A (D k) f n m y st).bind fun r=>
      match r.1 with
      | .norm=>some (.norm,canon m (A.join f t) r.2)
      | _=>some r
     | _=>none)=some r:=by
    intro st r e;cases hs:st.sl t<;>rw[hs] at e<;>simp only at e⊢ <;>first|(cases e;done)|skip
    rename_i b;obtain ⟨x1,h1,h2⟩:=bind_some e;cases b with
    | true=>
     obtain ⟨N,hN⟩:=jz h1;exact ⟨N,fun k hk=>by simp only[cond_true,hN k hk,Option.bind_some];exact h2⟩
    | false=>
     obtain ⟨N,hN⟩:=jA h1;exact ⟨N,fun k hk=>by simp only[cond_false,hN k hk,Option.bind_some];exact h2⟩
   simp only[exec] at e⊢;split at e
   ·rename_i hS;obtain ⟨N,hN⟩:=go e;exact ⟨N,fun k hk=>hN k hk⟩
   ·rename_i S hS;obtain ⟨ds,h1,h2⟩:=bind_some e;obtain ⟨e',h3,h4⟩:=bind_some h2;obtain ⟨r1,h5,h6⟩:=bind_some h3;obtain ⟨N,hN⟩:=go h5;refine ⟨N,fun k hk=> ?_⟩
    try rw[hS]
    simp only[h1,Option.bind_some];exact (congrArg (fun z:Option (Out×St)=>(z.bind fun r=>ways m 0 S.2 r).bind fun e=>nK 0 S.2 e.1 e.2 fun o st=>some (o,st)) (hN k hk)).trans (by simp only[Option.bind_some,h6];exact h4)
  | const v=>
   cases v with
   | bool b=>
    simp only[exec] at e⊢;cases b with
    | true=>exact jz e
    | false=>exact jA e
   | _=>simp only[exec] at e;cases e
  | _=>simp only[exec] at e;cases e
 | block id c ih=>
  intro st r e;simp only[exec] at e⊢;obtain ⟨x1,h1,h2⟩:=bind_some e;obtain ⟨N,hN⟩:=ih h1;exact ⟨N,fun k hk=>by rw[hN k hk];exact h2⟩
 | loop c ih=>
  intro st r e;simp only[exec] at e⊢;split at e
  ·cases e
  ·rename_i S hS;obtain ⟨ds,h1,h2⟩:=bind_some e;obtain ⟨e',h3,h4⟩:=bind_some h2;obtain ⟨q,hq⟩:=AR h3;obtain ⟨N,hN⟩:=Z7 (stepD:=fun k ds=>oX m S.1 S.2 (exec P A (D k) f n m c (bG S.1 ds))) (fun x y FJ=>by
    unfold oX at FJ⊢;obtain ⟨z,h5,h6⟩:=bind_some FJ;obtain ⟨N,hN⟩:=ih h5;exact ⟨N,fun k hk=>by rw[hN k hk];exact h6⟩) q ds e' hq
   refine ⟨N,fun k hk=> ?_⟩
   try rw[hS]
   simp only[h1,Option.bind_some];rw[AQ (hN k hk)];exact h4
 | _=>intro st r e;simp only[exec] at e;cases e
theorem K6 (h:FI C D) {f:Nat} {ds es:List V} (e:rG P A C f ds=some es): ∃N,∀k,N≤k→rG P A (D k) f ds=some es:=by
 unfold rG at e⊢;cases hf:P.funcs[A.jP f]? with
 | none=>rw[hf] at e;cases e
 | some fn=>
  rw[hf] at e;simp only at e⊢;cases hb:fn.body with
  | none=>rw[hb] at e;cases e
  | some c=>
   rw[hb] at e;simp only at e⊢;cases hc:(lg 0 (A.sin f).ch&&(Nat.ble (A.sin f).ch.length fn.ntmps&&((A.sin f).ok&&(lg 0 (A.iS f).ch&&(Nat.beq (A.iS f).ch.length fn.results.size&&rE (pP (A.sin f).cS.length (A.mv f))))))) with
   | false=>rw[hc] at e;cases e
   | true=>
    rw[hc] at e;simp only[cond_true] at e⊢;obtain ⟨⟨o,s1⟩,h1,h2⟩:=bind_some e;obtain ⟨N1,sk⟩:=akR h c h1;cases o with
    | exit id=>cases h2
    | norm=>
     simp only[Option.map_eq_some_iff] at h2;obtain ⟨x,e1,e2⟩:=h2;obtain ⟨N2,vm⟩:=tF h e1;exact ⟨max N1 N2,fun k hk=>by rw[sk k (by omega)];simp only[Option.bind_some,vm k (by omega),Option.map_some,e2]⟩
    | ret=>
     simp only[Option.map_eq_some_iff] at h2;obtain ⟨x,e1,e2⟩:=h2;obtain ⟨N2,vm⟩:=tF h e1;exact ⟨max N1 N2,fun k hk=>by rw[sk k (by omega)];simp only[Option.bind_some,vm k (by omega),Option.map_some,e2]⟩
theorem Z8: ∀n f a r,nL P A n f a=some r→nL P A (n+1) f a=some r
 | 0,f,a,r,h=>by cases h
 | n+1,f,a,r,h=>by
  obtain ⟨N,hN⟩:=K6 (C:=nL P A n) (D:=fun _=>nL P A (n+1)) (fun f a r h=>⟨0,fun _ _=>Z8 n f a r h⟩) h;exact hN N (av _)
theorem QT {n k:Nat} (hk:n≤k) {f:Nat} {a r:List V} (h:nL P A n f a=some r):nL P A k f a=some r:=by
 induction hk with
 | refl=>exact h
 | step _ ih=>exact Z8 _ _ _ _ ih
theorem FK {f:Nat} {a r:List V}:Call P A f a=some r↔∃n,nL P A n f a=some r:=by
 constructor
 ·intro h;unfold Call at h;split at h
  ·rename_i hex;have:=hex.choose_spec.choose_spec;rw[dM h] at this;exact ⟨_,this⟩
  ·cases h
 ·rintro ⟨n,hn⟩;have hex: ∃n r,nL P A n f a=some r:=⟨n,r,hn⟩
  unfold Call;rw[vU hex];have h2:=hex.choose_spec.choose_spec;have h3:=QT (Nat.le_max_left n hex.choose) hn;have h4:=QT (Nat.le_max_right n hex.choose) h2;rw[h3] at h4;exact h4.symm
theorem akS (f:Nat) (a:List V):Call P A f a=rG P A (Call P A) f a:=by
 apply Option.ext;intro r;constructor
 ·intro h;obtain ⟨n,hn⟩:=FK.1 h;cases n with
  | zero=>cases hn
  | succ n=>
   obtain ⟨N,hN⟩:=K6 (C:=nL P A n) (D:=fun _=>Call P A) (fun f a r h=>⟨0,fun _ _=>FK.2 ⟨n,h⟩⟩) hn;exact hN N (av _)
 ·intro h;obtain ⟨N,hN⟩:=K6 (C:=Call P A) (D:=nL P A) (fun f a r h=>by
   obtain ⟨n,hn⟩:=FK.1 h;exact ⟨n,fun k hk=>QT hk hn⟩) h
  exact FK.2 ⟨N+1,hN N (av _)⟩
end
end Go.AM
namespace Go.AM
open Go.IntKind (wrap)
open Go.ChangeShapes Go.WideShapes Go.RowKit
section
variable (P:Program)
inductive WT:TypeId→V→Prop
 | int {t:TypeId} {k:IntKind} {n:Int}:P.underlying t=some (.int k)→(Lit.int k n).wf=true→WT t (.int k n)
 | bool {t:TypeId} {b:Bool}:P.underlying t=some .bool→WT t (.bool b)
 | str {t:TypeId} {l:List UInt8}:P.underlying t=some .string→l.length≤maxLen→WT t (.str l)
 | list {t e:TypeId} {es:List V}:P.underlying t=some (.slice e)→es.length≤maxLen→
   (∀(i:Nat) x,es[i]? =some x→bY P e=true→∃xs,x= .agg xs∧xs.length=(aT P e).length)→
   (∀(i j:Nat) x t',es[i]? =some x→(aT P e)[j]? =some t'→WT t' (ca P e x j))→WT t (.list e es)
def nf (t:TypeId) (x:V):Prop:=
 (bY P t=true→∃xs,x= .agg xs∧xs.length=(aT P t).length)∧∀(j:Nat) t',(aT P t)[j]? =some t'→WT P t' (ca P t x j)
def ub:List TypeId→List V→Prop
 | [],[]=>True
 | t::ts,x::xs=>nf P t x∧ub ts xs
 | _,_=>False
def hasB (L:List TypeId) (t:TypeId):Bool:=L.any fun u=>Nat.beq u t
def K7 (L:List TypeId):Nat→List Field→Bool
 | _,[]=>true
 | n,f::fs=>hasB L f.type&&(Nat.beq f.offset n&&(Nat.beq (P.cellsOf f.type) (aT P f.type).length&&K7 L (n+P.cellsOf f.type) fs))
def FL:List Nat→List Nat→Bool
 | [],[]=>true
 | a::l,b::m=>Nat.beq a b&&FL l m
 | _,_=>false
def QU (L:List TypeId) (t:TypeId):Bool:=
 Nat.beq (P.cellsOf t) (aT P t).length&&
 match P.underlying t with
 | some (.int _)=>true
 | some .bool=>true
 | some .string=>true
 | some (.slice e)=>hasB L e&&cW P e
 | some (.struct fs)=>K7 P L 0 fs.toList&&FL (flat P t) (fs.toList.flatMap fun f=>aT P f.type)
 | some (.array n e)=>hasB L e&&(Nat.beq (P.cellsOf e) (aT P e).length&&FL (flat P t) (List.replicate n (aT P e)).flatten)
 | _=>false
def FM (L:List TypeId):Bool:=L.all fun t=>QU P L t
end
theorem K8 {L:List TypeId} {t:TypeId} (h:hasB L t=true):t∈L:=by
 obtain ⟨u,hu,h2⟩:=List.any_eq_true.1 h;rw[aK] at h2;exact h2▸hu
theorem QV: ∀{l m:List Nat},FL l m=true→l=m
 | [],[],_=>rfl
 | a::l,b::m,h=>by
  simp only[FL,aI,aK] at h;rw[h.1,QV h.2]
 | [],_::_,h=>by cases h
 | _::_,[],h=>by cases h
section
variable {P:Program} {H:Type} {enc:TypeId×Value→H} {w:World} {base:Nat} {spare:Nat→Bool} {held:Bool} {L:List TypeId}
def pj (w:World):Nat→Nat→Prop:=fun b _=>b<w.heap.size
def qV (P:Program) (w:World) (ts:List TypeId) (cs:List Value) (xs:List V):Prop:=
 cs.length=ts.length∧xs.length=ts.length∧∀(j:Nat) t',ts[j]? =some t'→∃v y,cs[j]? =some v∧xs[j]? =some y∧Pure P w (pj w) t' v y∧WT P t' y
theorem qV.app {ts sO:List TypeId} {cs ll:List Value} {xs Z9:List V} (h:qV P w ts cs xs) (h':qV P w sO ll Z9):qV P w (ts++sO) (cs++ll) (xs++Z9):=by
 obtain ⟨a,b,c⟩:=h;obtain ⟨a',b',c'⟩:=h';refine ⟨by simp[a,a'],by simp[b,b'],fun j t' hj=> ?_⟩;by_cases aY:j<ts.length
 ·rw[nG aY] at hj;obtain ⟨v,y,e1,e2,e3⟩:=c j t' hj;exact ⟨v,y,by rw[nG (by omega)];exact e1,by rw[nG (by omega)];exact e2,e3⟩
 ·rw[oO (by omega)] at hj;obtain ⟨v,y,e1,e2,e3⟩:=c' _ t' hj;exact ⟨v,y,by rw[oO (by omega),a];exact e1,by rw[oO (by omega),b];exact e2,e3⟩
theorem akT {w:World} {a:Addr} {v:Value} (h:w.cell? a=some v):a.spot=none∧a.block<w.heap.size:=by
 unfold World.cell? at h;split at h
 ·rename_i hh;split at h
  ·cases h
  ·rename_i hs;exact ⟨by simpa using hs,(v7.1 hh).1⟩
 all_goals (first|cases h|skip)
theorem aaa {rd:TypeId→List Value→Option (DataW H×List MemPlace)} (cs:List Value)
  (ih: ∀t cs x,t∈L→rd t cs=some x→∃xs,qV P w (aT P t) cs xs): ∀(fs:List Field) (n:Nat),K7 P L n fs=true→
  (∀f∈fs,∃x,rd f.type ((cs.drop f.offset).take (P.cellsOf f.type))=some x)→∃m xs,n≤m∧qV P w (fs.flatMap fun f=>aT P f.type) ((cs.drop n).take (m-n)) xs∧m-n=(fs.flatMap fun f=>aT P f.type).length
 | [],n,_,_=>⟨n,[],av _,⟨by simp,rfl,by simp⟩,by simp⟩
 | f::fs,n,h,hx=>by
  simp only[K7,aI,aK] at h;obtain ⟨h1,h2,h3,h4⟩:=h;obtain ⟨x,hxf⟩:=hx f (by simp);obtain ⟨xs,jF⟩:=ih _ _ _ (K8 h1) hxf;obtain ⟨m,ys,hm,vn,tD⟩:=aaa cs ih fs (n+P.cellsOf f.type) h4 fun g hg=>hx g (by simp[hg]);refine ⟨m,xs++ys,by omega,?_,by simp only[AO,ik];omega⟩;have:=jF.app vn;rw[AO];rw[h2] at this;have e:(cs.drop n).take (m-n)=(cs.drop n).take (P.cellsOf f.type)++(cs.drop (n+P.cellsOf f.type)).take (m-(n+P.cellsOf f.type)):=by
   rw[show m-n=P.cellsOf f.type+(m-(n+P.cellsOf f.type)) by omega,List.take_add,List.drop_drop]
  rw[e];exact this
theorem aab {rd:List Value→Option (DataW H×List MemPlace)} (cs:List Value) {e:TypeId} (hs:P.cellsOf e=(aT P e).length)
  (ih: ∀cs x,rd cs=some x→∃xs,qV P w (aT P e) cs xs): ∀(n:Nat),
  (∀i,i<n→∃x,rd ((cs.drop (i*P.cellsOf e)).take (P.cellsOf e))=some x)→∃xs,qV P w (List.replicate n (aT P e)).flatten (cs.take (n*P.cellsOf e)) xs
 | 0,_=>⟨[],by simp,rfl,by simp⟩
 | n+1,hx=>by
  obtain ⟨xs,jF⟩:=aab cs hs ih n fun i hi=>hx i (by omega);obtain ⟨x,kJ⟩:=hx n (by omega);obtain ⟨ys,vn⟩:=ih _ _ kJ;refine ⟨xs++ys,?_⟩;rw[List.replicate_succ',List.flatten_append];have:=jF.app vn;rw[kW,Nat.one_mul,List.take_add];simpa using this
theorem K9 (hL:FM P L=true): ∀(fuel:Nat) (t:TypeId) (cs:List Value) (x:DataW H×List MemPlace),t∈L→DataW.trod enc P w base spare held fuel t cs=some x→
  ∃xs,qV P w (aT P t) cs xs
 | 0,_,_,_,_,h=>by cases h
 | fuel+1,t,cs,x,ht,h=>by
  have hg:=gZ.1 hL t ht;unfold QU at hg;rw[aI,aK] at hg;obtain ⟨hc,hg⟩:=hg;have one:bY P t=false→aT P t=[t]:=fun h=>by simp[aT,h]
  cases hu:P.underlying t with
  | none=>rw[hu] at hg;cases hg
  | some d=>
   rw[hu] at hg;cases d with
   | int k=>
    obtain ⟨n,rfl,rfl,hwf⟩:=DataW.trod_int hu h;rw[one (by simp[bY,hu])];exact ⟨[.int k n],rfl,rfl,fun j t' hj=>by
     cases j with
     | zero=>cases hj;exact ⟨_,_,rfl,rfl,.int hu,.int hu hwf⟩
     | succ j=>simp at hj⟩
   | bool=>
    obtain ⟨b,rfl,rfl⟩:=DataW.trod_bool hu h;rw[one (by simp[bY,hu])];exact ⟨[.bool b],rfl,rfl,fun j t' hj=>by
     cases j with
     | zero=>cases hj;exact ⟨_,_,rfl,rfl,.bool hu,.bool hu⟩
     | succ j=>simp at hj⟩
   | string=>
    obtain ⟨s,rfl,rfl,hl⟩:=DataW.trod_string hu h;rw[one (by simp[bY,hu])];exact ⟨[.str s.data.toList],rfl,rfl,fun j t' hj=>by
     cases j with
     | zero=>cases hj;exact ⟨_,_,rfl,rfl,.str hu rfl,.str hu (by simpa using hl)⟩
     | succ j=>simp at hj⟩
   | slice e=>
    simp only[aI] at hg;obtain ⟨he,ao⟩:=hg;rw[one (by simp[bY,hu])];have single: ∀v y,cs=[v]→Pure P w (pj w) t v y→WT P t y→∃xs,qV P w [t] cs xs:=by
     rintro v y rfl a b;exact ⟨[y],rfl,rfl,fun j t' hj=>by
      cases j with
      | zero=>cases hj;exact ⟨_,_,rfl,rfl,a,b⟩
      | succ j=>simp at hj⟩
    rcases DataW.trod_slice hu h with ⟨rfl,rfl⟩|⟨a,len,cap,elems,rest,n,hn,rfl,rfl,hb,hl,hm,hlen,fB,_,_⟩
    ·exact single _ _ rfl (.nil hu) (.list hu (by simp) (by simp) (by simp))
    ·cases hn;have eQ:=(og ao).2;have Yi:P.cellsOf e=(aT P e).length:=(fx ao).symm;have key: ∀i,i<len→∃ll xs,w.cells? base (a.add (i*P.cellsOf e)) (P.cellsOf e)=some ll∧qV P w (aT P e) ll xs:=by
      intro i hi;have h1:=fB i hi;rw[bU (by omega)] at h1;obtain ⟨ll,h2,h3⟩:=Option.bind_eq_some_iff.1 h1;obtain ⟨xs,jF⟩:=K9 hL fuel e ll _ (K8 he) h3;exact ⟨ll,xs,h2,jF⟩
     by_cases h0:len=0
     ·subst h0;exact single _ _ rfl (.emp hu) (.list hu (by simp) (by simp) (by simp))
     ·have se:a.spot=none∧a.block<w.heap.size:=by
       obtain ⟨ll,xs,h2,_⟩:=key 0 (by omega);obtain ⟨_,h3,h4⟩:=World.cells?_some h2;have h5:=h4 0 eQ;rw[bU (by omega)] at h5;have:=akT h5;simpa[Addr.add] using this
      have hF: ∃(F:Nat→List Value) (X:Nat→List V),∀i,i<len→w.cells? base (a.add (i*P.cellsOf e)) (P.cellsOf e)=some (F i)∧qV P w (aT P e) (F i) (X i):=by
       refine ⟨fun i=>if hi:i<len then (key i hi).choose else [],fun i=>if hi:i<len then (key i hi).choose_spec.choose else [],fun i hi=> ?_⟩;simp only[vU hi];exact (key i hi).choose_spec.choose_spec
      obtain ⟨F,X,QW⟩:=hF;have hx: ∀(i j:Nat) y t',((List.range len).map fun i=>dw P e (X i))[i]? =some y→(aT P e)[j]? =some t'→i<len∧∃v,(F i)[j]? =some v∧Pure P w (pj w) t' v (ca P e y j)∧WT P t' (ca P e y j):=by
       intro i j y t' hy hj;have hi:i<len:=by
        have:=(cu.1 hy).1;simpa using this
       refine ⟨hi,?_⟩;simp[IH hi] at hy;obtain ⟨c1,c2,c3⟩:=(QW i hi).2;obtain ⟨v,z,d1,d2,d3,d4⟩:=c3 j t' hj;have:ca P e y j=z:=by
        rw[←hy];unfold ca dw;cases ha:bY P e with
        | true=>
         simp only[cond_true,V.cell];rw[yf _ _ _ d2]
        | false=>
         simp only[cond_false];have:aT P e=[e]:=by simp[aT,ha]
         rw[this] at hj;cases j with
         | zero=>rw[yf _ _ _ d2]
         | succ j=>simp at hj
       rw[this];exact ⟨v,d1,d3,d4⟩
      have gF: ∀i j,i<len→j<P.cellsOf e→w.cell? ⟨a.block,a.off+(i*P.cellsOf e+j),none⟩=some ((F i).getD j undef):=by
       intro i j hi hj;obtain ⟨h1,h2⟩:=QW i hi;obtain ⟨_,h3,h4⟩:=World.cells?_some h1;have h5:=h4 j hj;rw[Go.Deep.add_add] at h5;have e1:a.add (i*P.cellsOf e+j)=⟨a.block,a.off+(i*P.cellsOf e+j),none⟩:=by
        obtain ⟨b,o,s⟩:=a;simp only at se;rw[se.1];exact nR ..
       rw[e1] at h5;rw[h5,pL,bU (by omega)];rfl
      have ha:a=⟨a.block,a.off,none⟩:=by
       obtain ⟨b,o,s⟩:=a;simp only at se;rw[se.1]
      refine single (.slice (some a) len cap) (.list e ((List.range len).map fun i=>dw P e (X i))) rfl ?_ ?_
      ·rw[ha];refine .list (fun i j=>(F i).getD j undef) hu (by simp) hl (fun _ _=>se.2) gF ?_;intro i j y t' hy hj;obtain ⟨hi,v,d1,d2,_⟩:=hx i j y t' hy hj;rw[pL,d1];exact d2
      ·refine .list hu (by simp;omega) ?_ ?_
       ·intro i y hy La;have hi:i<len:=by
         have:=(cu.1 hy).1;simpa using this
        simp[IH hi] at hy;rw[←hy];exact ⟨X i,by simp[dw,La],(QW i hi).2.2.1⟩
       ·intro i j y t' hy hj;obtain ⟨_,v,_,_,d3⟩:=hx i j y t' hy hj;exact d3
   | struct fs=>
    simp only[aI] at hg;obtain ⟨xs,n,hn,rfl,hlen,qb,hx⟩:=DataW.trod_struct hu h;cases hn;have het:aT P t=fs.toList.flatMap fun f=>aT P f.type:=by
     rw[←QV hg.2];simp[aT,bY,hu]
    obtain ⟨m,ys,_,vn,hm⟩:=aaa (w:=w) (rd:=fun t cs=>DataW.trod enc P w base spare held fuel t cs) cs (fun t cs x a b=>K9 hL fuel t cs x a b) fs.toList 0 hg.1 (by
     intro f hf;obtain ⟨i,hi⟩:=sI hf;rw[rz] at hi;have pY:i<fs.size:=(v7.1 hi).1;exact ⟨_,(hx i f hi).trans (bU (by omega))⟩)
    rw[het];refine ⟨ys,?_⟩;have:(cs.drop 0).take (m-0)=cs:=by
     rw[ud,hm,←het,←hc,←hlen,vW]
    rw[this] at vn;exact vn
   | array n e=>
    simp only[aI,aK] at hg;obtain ⟨xs,m,hn,rfl,hlen,qb,hx⟩:=DataW.trod_array hu h;cases hn;have het:aT P t=(List.replicate n (aT P e)).flatten:=by
     rw[←QV hg.2.2];simp[aT,bY,hu]
    obtain ⟨ys,vn⟩:=aab (w:=w) (rd:=DataW.trod enc P w base spare held fuel e) cs hg.2.1 (fun cs x b=>K9 hL fuel e cs x (K8 hg.1) b) n (by
     intro i hi;exact ⟨_,(hx i hi).trans (bU (by omega))⟩)
    rw[het];refine ⟨ys,?_⟩;have:cs.take (n*P.cellsOf e)=cs:=by
     have:n*P.cellsOf e=cs.length:=by
      rw[hlen,hc,het,hg.2.1];simp
     rw[this,vW]
    rw[this] at vn;exact vn
   | _=>cases hg
end
section
variable {P:Program} {H:Type} {enc:TypeId×Value→H} {w:World} {L:List TypeId}
theorem akU {base QX:Nat} {spare:Nat→Bool} {held:Bool} {r:Reach} {β:Nat→Option Nat} {hp:Nat→Option ah} (hL:FM P L=true) {t:TypeId} {v:Value} {d:DataW H} {ps:List MemPlace} (ht:t∈L) (jq:Value.okWide P w r QX t v)
  (h:DataW.Trod enc P w base spare held t v d ps): ∃x,aj P w (pj w) β hp v x∧nf P t x:=by
 obtain ⟨fuel,hf⟩:=h;obtain ⟨xs,c1,c2,c3⟩:=K9 hL fuel t _ _ ht hf;have hg:=gZ.1 hL t ht;unfold QU at hg;rw[aI,aK] at hg;obtain ⟨_,hg⟩:=hg;have La:bY P t=true→∃x,aj P w (pj w) β hp v x∧nf P t x:=by
  intro ha;have hv: ∃cs,v= .agg cs:=by
   unfold Value.okWide at jq;unfold bY at ha;grind
  obtain ⟨cs,rfl⟩:=hv;refine ⟨.agg xs,.agg (by simpa[Value.cells] using c1.trans c2.symm) fun j v x hv hx=> ?_,fun _=>⟨xs,rfl,c2⟩,fun j t' hj=> ?_⟩
  ·have hj:j<(aT P t).length:=by grind
   obtain ⟨v',y,e1,e2,e3,_⟩:=c3 j _ (bU hj);rw[hx] at e2;cases e2;have:cs[j]? =some v':=by simpa[Value.cells] using e1
   rw[hv] at this;cases this;exact .sS e3
  ·obtain ⟨v',y,e1,e2,_,e4⟩:=c3 j t' hj;have:ca P t (.agg xs) j=y:=by
    simp only[ca,ha,cond_true,V.cell];exact yf _ _ _ e2
   grind
 have p8:bY P t=false→v.cells= #[v]→∃x,aj P w (pj w) β hp v x∧nf P t x:=by
  intro ha yL;have he:aT P t=[t]:=by simp[aT,ha]
  rw[he] at c1 c2 c3;obtain ⟨v',y,e1,e2,e3,e4⟩:=c3 0 t rfl;rw[yL] at e1;cases e1;refine ⟨y,.sS e3,⟨fun h=>absurd (ha.symm.trans h) (by simp),fun j t' hj=> ?_⟩⟩;rw[he] at hj;cases j with
  | succ j=>simp at hj
  | zero=>
   cases hj;simpa[ca,ha] using e4
 unfold Value.okWide at jq;cases hu:P.underlying t with
 | none=>grind
 | some dsc=>
  rw[hu] at hg jq;cases dsc with
  | int k=>
   refine p8 (by simp[bY,hu]) ?_;simp only[Cell.okWide,Cell.ok,hu] at jq;cases v<;>first|rfl|(simp at jq;done)|exact jq.elim
  | bool=>
   refine p8 (by simp[bY,hu]) ?_;simp only[Cell.okWide,Cell.ok,hu] at jq;cases v<;>first|rfl|(simp at jq;done)|exact jq.elim
  | string=>
   refine p8 (by simp[bY,hu]) ?_;simp only[Cell.okWide,Cell.ok,hu] at jq;cases v<;>first|rfl|(simp at jq;done)|exact jq.elim
  | slice e=>
   refine p8 (by simp[bY,hu]) ?_;simp only[Cell.okWide,Cell.ok,hu] at jq;cases v<;>first|rfl|(simp at jq;done)|exact jq.elim
  | struct fs=>exact La (by simp[bY,hu])
  | array n e=>exact La (by simp[bY,hu])
  | _=>cases hg
theorem aac {base QX:Nat} {spare:Nat→Bool} {held:Bool} {r:Reach} {β:Nat→Option Nat} {hp:Nat→Option ah} (hL:FM P L=true): ∀{ts:List TypeId} {vs:List Value} {ds:List (DataW H)} {ps:List MemPlace},
  (∀t∈ts,t∈L)→(∀(j:Nat) t v,ts[j]? =some t→vs[j]? =some v→Value.okWide P w r QX t v)→DataW.TrodAll enc P w base spare held ts vs ds ps→
  ∃xs,vs.length=xs.length∧(∀(j:Nat) v x,vs[j]? =some v→xs[j]? =some x→aj P w (pj w) β hp v x)∧ub P ts xs
 | [],vs,ds,ps,_,_,h=>by
  obtain ⟨rfl,rfl,rfl⟩:=trodAll_nil h;exact ⟨[],rfl,by simp,trivial⟩
 | t::ts,vs,ds,ps,hm,jq,h=>by
  obtain ⟨v,wu,d,ds1,a,b,rfl,rfl,rfl,h1,h2⟩:=trodAll_cons h;obtain ⟨x,kJ,jU⟩:=akU (β:=β) (hp:=hp) hL (hm t (by simp)) (jq 0 t v rfl rfl) h1;obtain ⟨xs,hl,hr,hw⟩:=aac (β:=β) (hp:=hp) hL (fun t ht=>hm t (by simp[ht])) (fun j t v a b=>jq (j+1) t v (by grind) (by grind)) h2;refine ⟨x::xs,by simp[hl],fun j v' x' hv hx=> ?_,jU,hw⟩;grind
theorem aad {base:Nat} {spare:Nat→Bool} {held:Bool}: ∀{ts:List TypeId} {vs:List Value} {ds:List (DataW H)} {ps:List MemPlace},DataW.TrodAll enc P w base spare held ts vs ds ps→ds.length=ts.length
 | [],vs,ds,ps,h=>by obtain ⟨rfl,rfl,rfl⟩:=trodAll_nil h;rfl
 | t::ts,vs,ds,ps,h=>by
  obtain ⟨v,wu,d,ds1,a,b,rfl,rfl,rfl,h1,h2⟩:=trodAll_cons h;simp[aad h2]
theorem aae {base:Nat} (hl:laidOutB P=true) {W W':World} {sp':Nat→Bool}: ∀{ts:List TypeId} {vs:List Value} {ds:List (DataW H)} {ps:List MemPlace},(∀t∈ts,P.readableRec t=true∧t<P.types.size)→
  DataW.TrodAll enc P W base (fun _=>true) true ts vs ds ps→(∀p∈ps,W.sameAt W' p)→(∀p∈ps,sp' p.block=true)→DataW.TrodAll enc P W' base sp' true ts vs ds ps
 | [],vs,ds,ps,_,h,_,_=>by obtain ⟨rfl,rfl,rfl⟩:=trodAll_nil h;exact trodAll_mk0
 | t::ts,vs,ds,ps,hr,h,h1,h2=>by
  obtain ⟨v,wu,d,ds1,a,b,rfl,rfl,rfl,h3,h4⟩:=trodAll_cons h;obtain ⟨r1,r2⟩:=hr t (by simp);exact trodAll_cons_mk (WideElems.Trod_stays hl r1 r2 h3 (fun p hp=>h1 p (by simp[hp])) (fun p hp=>h2 p (by simp[hp])))
   (aae hl (fun t ht=>hr t (by simp[ht])) h4 (fun p hp=>h1 p (by simp[hp])) (fun p hp=>h2 p (by simp[hp])))
theorem akV {f:Func} {s:ChangeSpec} {apart fresh handsOn again:Bool} {W W':World} {args:Array Value} {v:Value} {ds gs:List (DataW H)} {before pa pv:List MemPlace}
  (hW:DataW.Whole enc P f.params.toList s.vars apart W args.toList ds gs before)
  (aaf: ∀(b:Nat) (sp:Nat→Bool) (hd:Bool),DataW.TrodAll enc P W' b sp hd f.resultTypes.toList (v.resultList f.resultTypes.size) (s.fn H (ds++gs)).results [])
  (y6: ∀sp:Nat→Bool,(∀p∈before,sp p.block=true)→DataW.TrodAll enc P W' 0 sp true f.params.toList args.toList (s.fn H (ds++gs)).args pa)
  (aag: ∀sp:Nat→Bool,(∀p∈before,sp p.block=true)→DataW.TrodVars enc P W' sp s.vars (s.fn H (ds++gs)).vars pv)
  (hps:before=pa++pv) (hk:W.keptBut W' (· ∈before)) (B5: ∀a:Addr,a.block<W.heap.size→W'.frozen? a=W.frozen? a)
  (ao: ∀(j:Nat) (t:TypeId) (r:Value),f.resultTypes[j]? =some t→(v.resultList f.resultTypes.size)[j]? =some r→Value.okWide P W' .any 0 t r):
  s.post enc P f apart fresh handsOn again W args v W':=by
 have hold: ∀p∈before,(fun b=>decide (b<W.heap.size)) p.block=true:=fun p hp=>by simpa using hW.lt p hp
 refine ⟨ds,gs,before,[],pa,pv,hW,aaf _ _ _,y6 _ hold,aag _ hold,World.keptBut_mono (fun p hp=>⟨hp,?_⟩) hk,fun _=> ?_⟩
 ·grind
 ·have aY:=hW.lt;obtain ⟨_,_,_,_,_,hz,hn⟩:=hW;refine ⟨ao,_,_,([]++pa)++pv,⟨[]++pa,pv,trodAll_append (y6 _ (fun _ _=>rfl)) (aaf _ _ _),aag _ (fun _ _=>rfl),rfl,?_,?_⟩,?_⟩
  ·intro b off hp;have hb:MemPlace.cell b off∈before:=by grind
   rw[B5 ⟨b,off,none⟩ (aY _ hb)];exact hz b off hb
  all_goals grind
theorem akW {A:dn} (hP:kO P A) (qU:P.follows .mixedOrders=true) {f key:Nat} {fn:Func} {tb:TypeId} {s:ChangeSpec} {apart fresh handsOn again:Bool}
  (hf:P.funcs[f]? =some fn) (QY:A.jP key=f) (hL:FM P L=true) (eD:fn.params.toList.all (fun t=>hasB L t)=true) (Lb:fn.resultTypes= #[tb]) (Lc:P.underlying tb=some .bool) (yX:s.vars=[])
  (hs: ∀ds:List (DataW H),ds.length=fn.params.toList.length→s.fn H ds={results:=[.lit (.bool true)],args:=ds})
  (QZ:laidOutB P=true) (Q0:fn.params.toList.all (fun t=>P.readableRec t&&Nat.blt t P.types.size)=true)
  (mA:(A.sin key).cS=[]) (ao:((A.sin key).ch.map (·.2)).all (VS.ok 0)=true) (Q1:(A.iS key).ch=[(0,.one .bool)]) (halt:A.alt key=none)
  {W:World} {base:Nat} {args:Array Value} {ds gs:List (DataW H)} {before:List MemPlace}
  (Q2:jS P A.aB W (pj W)) (jq: ∀(j:Nat) t v,fn.params[j]? =some t→args[j]? =some v→Value.okWide P W .any base t v)
  (hW:DataW.Whole enc P fn.params.toList s.vars apart W args.toList ds gs before) (Q:List V→Prop)
  (hQ: ∀xs:List V,ub P fn.params.toList xs→(∀(j:Nat) v x,args.toList[j]? =some v→xs[j]? =some x→aj P W (pj W) (fun _=>none) (fun _=>none) v x)→Q xs)
  (Q3: ∀xs,ub P fn.params.toList xs→Q xs→∃ds,uc ((A.sin key).ch.map (·.2)) xs=some ds∧Call P A key ds=some [.bool true]):
  Calls P f args W fun e W'=> ∃v,e= .returned v∧s.post enc P fn apart fresh handsOn again W args v W':=by
 have hW0:=hW;obtain ⟨p,q,hA,hV,rfl,B5,nX⟩:=hW;rw[yX] at hV;obtain ⟨Ld,hq⟩:gs=[]∧q=[]:=by
  cases gs with
  | nil=>exact ⟨rfl,hV⟩
  | cons g gs=>exact hV.elim
 subst Ld;subst hq;obtain ⟨xs,hl,hr,hwt⟩:=aac (β:=fun _=>none) (hp:=fun _=>none) hL (fun t ht=>K8 (gZ.1 eD t ht)) (fun j t v a b=>jq j t v (by grind) (by grind)) hA;obtain ⟨ls,hls,FC⟩:=Q3 xs hwt (hQ xs hwt hr);obtain ⟨fn',c,h1,h2,h3⟩:=akP (A:=A) hP qU key ls [.bool true] FC;rw[QY] at h1 h3;rw[hf] at h1;cases h1;have ZY: ∀j,(bG (A.sin key) ls).hp j=none:=fun j=>by simp[bG,mk,mA,hY,mR]
 obtain ⟨_,r1,r2⟩:=Ft (P:=P) (w:=W) (I:=pj W) (n:=0) (β:=fun _=>none) (β':=fun _=>none) (hp:=fun _=>none) (hp':=(bG (A.sin key) ls).hp) (fun j hj=>absurd hj (Nat.not_lt_zero j)) hls ao;have hlen:((A.sin key).ch.map (·.2)).length=xs.length:=by rw[←r1 [],QS]
 have h4:=h3 W (pj W) (fun _=>none) args.toList ⟨fun id blk h=>(by grind),fun id aq blk blk' b h=>(by grind),fun id blk b h=>(by grind),fun b j h=>h⟩ Q2
  (by grind) (fun j v y hv hy=>r2 [] j v y (fun x hx=>hr j v x hv hx) (by grind))
 have ea:args.toList.toArray=args:=by simp
 rw[ea] at h4;refine h4.mono fun e W' ⟨v,I2,cB,he,ha⟩=>⟨v,he,?_⟩
 have wV: ∀b,b<W.heap.size→W'.heap[b]? =W.heap[b]? :=fun b hb=>ha.BX.cH b hb (by rintro ⟨j,blk,hj,_⟩;grind);have yN:=ha.res;have hso:A.so key [.bool true]=A.iS key∧A.lv key [.bool true]=[.bool true]:=by unfold dn.so dn.lv;grind
 rw[hso.1,hso.2,Q1] at yN;obtain rfl:v= .bool true:=yN.mW;have qQ:Value.okWide P W' .any 0 tb (.bool true):=by simp[Value.okWide,Lc,Cell.okWide,Cell.ok]
 have oJ:ds.length=fn.params.toList.length:=aad hA;have ka: ∀p'∈p++[],W.sameAt W' p':=by
  intro p' hp';have aY:=hW0.lt p' hp';cases p' with
  | cell b o=>exact World.cell?_of_block (w:=W) (wV b aY)
  | map b=>exact wV b aY
 refine akV (pa:=p) (pv:=[]) hW0 ?_ ?_ ?_ rfl ?_ ?_ ?_
 ·intro b sp hd;rw[ug,hs ds oJ,Lb];exact trodAll_mk1 ⟨1,by simp[DataW.trod,Value.cells,Lc]⟩
 ·intro sp se;rw[ug,hs ds oJ];refine aae QZ (fun t ht=> ?_) hA (fun p' hp'=>ka p' (by grind)) (fun p' hp'=>se p' (by grind));have:=gZ.1 Q0 t ht;simp_all
 ·intro sp se;rw[yX,ug,hs ds oJ];exact rfl
 ·refine ⟨ha.BX.io.1,ha.BX.io.2,fun i hi=> ?_⟩;grind
 ·intro a aY;exact World.frozen?_of_block (w:=W) (wV a.block aY)
 ·intro j t r hj JW;rw[Lb] at hj JW;cases j with
  | zero=>
   simp[Value.resultList] at hj JW;grind
  | succ j=>simp at hj
theorem afH {A:dn} (hP:kO P A) (qU:P.follows .mixedOrders=true) {f key:Nat} {fn:Func} {tb:TypeId} {s:ChangeSpec} {apart fresh handsOn again:Bool}
  (hf:P.funcs[f]? =some fn) (QY:A.jP key=f) (hL:FM P L=true) (eD:fn.params.toList.all (fun t=>hasB L t)=true) (Lb:fn.resultTypes= #[tb]) (Lc:P.underlying tb=some .bool) (yX:s.vars=[])
  (hs: ∀ds:List (DataW H),ds.length=fn.params.toList.length→s.fn H ds={results:=[.lit (.bool true)],args:=ds})
  (QZ:laidOutB P=true) (Q0:fn.params.toList.all (fun t=>P.readableRec t&&Nat.blt t P.types.size)=true)
  (mA:(A.sin key).cS=[]) (ao:((A.sin key).ch.map (·.2)).all (VS.ok 0)=true) (Q1:(A.iS key).ch=[(0,.one .bool)]) (halt:A.alt key=none)
  (Q3: ∀xs,ub P fn.params.toList xs→∃ds,uc ((A.sin key).ch.map (·.2)) xs=some ds∧Call P A key ds=some [.bool true])
  {W:World} {base:Nat} {args:Array Value} {ds gs:List (DataW H)} {before:List MemPlace}
  (Q2:jS P A.aB W (pj W)) (jq: ∀(j:Nat) t v,fn.params[j]? =some t→args[j]? =some v→Value.okWide P W .any base t v)
  (hW:DataW.Whole enc P fn.params.toList s.vars apart W args.toList ds gs before):
  Calls P f args W fun e W'=> ∃v,e= .returned v∧s.post enc P fn apart fresh handsOn again W args v W':=
 akW hP qU hf QY hL eD Lb Lc yX hs QZ Q0 mA ao Q1 halt Q2 jq hW (fun _=>True) (fun _ _ _=>trivial) fun xs h _=>Q3 xs h
end
end Go.AM
namespace Go.AM
open Go.IntKind (wrap)
@[simp] theorem V.toInt_int (k:IntKind) (n:Int):V.toInt (.int k n)=n:=by cases k<;>rfl
@[simp] theorem V.O3 (b:Bool):V.toBool (.bool b)=b:=by cases b<;>rfl
@[simp] theorem V.axz (s:List UInt8):V.toStr (.str s)=s:=by cases s<;>rfl
@[simp] theorem V.ei (e:TypeId) (es:List V):V.toList (.list e es)=es:=by cases es<;>rfl
@[simp] theorem V.axA (e:TypeId) (es:List V):V.toList (.own e es)=es:=by cases es<;>rfl
@[simp] theorem V.akX (cs:List V) (j:Nat):V.cell (.agg cs) j=V.nth cs j:=by cases cs<;>rfl
@[simp] theorem V.axB (cs:List V) (j:Nat):V.comp (.ba cs) j=V.nth cs j:=by cases cs<;>rfl
@[simp] theorem V.JD (x:V) (l:List V):V.nth (x::l) 0=x:=by cases l<;>rfl
@[simp] theorem V.axC (x:V) (l:List V) (n:Nat):V.nth (x::l) (n+1)=V.nth l n:=by cases l<;>rfl
@[simp] theorem V.axD (x y:V) (l:List V):V.nth (x::y::l) 1=y:=by cases l<;>rfl
@[simp] theorem V.axE (x y z:V) (l:List V):V.nth (x::y::z::l) 2=z:=by cases l<;>rfl
@[simp] theorem V.axF (x y z u:V) (l:List V):V.nth (x::y::z::u::l) 3=u:=by cases l<;>rfl
theorem wrap64 {x:Int} (h1: -9223372036854775808≤x) (h2:x<9223372036854775808):wrap .i64 x=x:=by
 rw[IntKind.wrap_i64];omega
theorem rZ {x:Int} (h1: -9223372036854775808≤x:=by omega) (h2:x<9223372036854775808:=by omega):wrap .i64 x=x:=wrap64 h1 h2
theorem akY {x:Int} (h1:0≤x) (h2:x<256):wrap .u8 x=x:=by
 rw[IntKind.wrap_u8];omega
theorem ym {es:List V} {i:Int} {n:Nat} (h:i=n):idx es i=es[n]? :=by
 subst h;simp[idx]
theorem W9 {α:Type} {f:α→V} {l:List α} {i:Int} {n:Nat} (h:i=n) (hn:n<l.length):idx (l.map f) i=some (f l[n]):=by
 rw[ym h];simp[hn]
@[simp] theorem Q4 (es:List V) (n:Nat):idx es (n:Int)=es[n]? :=by simp[idx]
section
variable {X R:Type} {step:X→Option (X ⊕ R)}
theorem Lf (Inv:X→Prop) (μ:X→Nat) (Q:R→Prop)
  (h: ∀x,Inv x→(∃y,step x=some (.inl y)∧Inv y∧μ y<μ x)∨∃r,step x=some (.inr r)∧Q r):
  ∀x,Inv x→∃r,Loop step x=some r∧Q r:=by
 intro x
 induction hm:μ x using Nat.strongRecOn generalizing x with
 | ind m ih=>
  intro hx;rcases h x hx with ⟨y,h1,h2,h3⟩|⟨r,h1,h2⟩
  ·obtain ⟨r,h4,h5⟩:=ih (μ y) (by omega) y rfl h2;exact ⟨r,(iR h1).trans h4,h5⟩
  ·exact ⟨r,jX h1,h2⟩
theorem akZ (s:Nat→X) (n:Nat) {r:R} (h: ∀i,i<n→step (s i)=some (.inl (s (i+1)))) (he:step (s n)=some (.inr r)):Loop step (s 0)=some r:=by
 induction n generalizing s with
 | zero=>exact jX he
 | succ n ih=>
  rw[iR (h 0 (by omega))];exact ih (fun i=>s (i+1)) (fun i hi=>h (i+1) (by omega)) he
end
@[simp] theorem FO {α:Type} (p:Prop) [Decidable p] (a b:α):(bif decide p then a else b)=if p then a else b:=by by_cases h:p<;>simp[h]
@[simp] theorem axG {α:Type} (m n:Int) (a b:α):(bif m==n then a else b)=if m=n then a else b:=by
 by_cases h:m=n
 ·simp[h]
 ·have:(m==n)=false:=by simp[h]
  rw[this,aF h];rfl
@[simp] theorem aah {α:Type} (m n:Int) (a b:α):(bif m != n then a else b)=if m=n then b else a:=by
 by_cases h:m=n
 ·simp[h]
 ·have:(m != n)=true:=by simp[h]
  rw[this,aF h];rfl
@[simp] theorem axH {α:Type} (c:Bool) (a b:α):(bif !c then a else b)=bif c then b else a:=by cases c<;>rfl
@[simp] theorem axI {α:Type} (m n:Nat) (a b:α):(bif Nat.ble m n then a else b)=if m≤n then a else b:=by
 cases hb:Nat.ble m n with
 | true=>rw[aE (Nat.le_of_ble_eq_true hb)];rfl
 | false=>
  rw[aF fun h=> ?_]
  ·rfl
  ·rw[xH h] at hb;cases hb
@[simp] theorem axJ {α:Type} (c d:Bool) (a b:α):(bif c&&d then a else b)=bif c then (bif d then a else b) else b:=by cases c<;>rfl
section
variable {P:Program}
def aai (P : Program) : Bool := P.funcs.all fun fn => !(fn.name == "runtime.NumGoroutine")
theorem ak0 (h:aai P=true):yW P:=by
 intro f fn hf;unfold aai at h;have:=(Array.all_eq_true_iff_forall_mem.1 h) fn (Array.mem_of_getElem? hf);simpa using this
theorem afB {t:TypeId} {ts:List TypeId} {xs:List V} (h:ub P (t::ts) xs): ∃x ys,xs=x::ys∧nf P t x∧ub P ts ys:=by
 cases xs with
 | nil=>exact h.elim
 | cons x ys=>exact ⟨x,ys,rfl,h.1,h.2⟩
theorem afC {xs:List V} (h:ub P [] xs):xs=[]:=by
 cases xs with
 | nil=>rfl
 | cons x ys=>exact h.elim
theorem nf.one {t:TypeId} {x:V} (ha:bY P t=false) (h:nf P t x):WT P t x:=by
 have he:aT P t=[t]:=by simp[aT,ha]
 have:=h.2 0 t (by rw[he];rfl);simpa[ca,ha] using this
theorem WT.fM {t:TypeId} {k:IntKind} {x:V} (hu:P.underlying t=some (.int k)) (h:WT P t x): ∃n,x= .int k n∧k.min≤n∧n≤k.max:=by
 cases h with
 | int h1 h2=>
  rw[hu] at h1;cases h1;simp only[Lit.wf,aI,jM] at h2;exact ⟨_,rfl,h2⟩
 | bool h1=>rw[hu] at h1;cases h1
 | str h1=>rw[hu] at h1;cases h1
 | list h1=>rw[hu] at h1;cases h1
theorem WT.mW {t:TypeId} {x:V} (hu:P.underlying t=some .bool) (h:WT P t x): ∃b,x= .bool b:=by
 cases h with
 | int h1=>rw[hu] at h1;cases h1
 | bool h1=>exact ⟨_,rfl⟩
 | str h1=>rw[hu] at h1;cases h1
 | list h1=>rw[hu] at h1;cases h1
theorem WT.oh {t:TypeId} {x:V} (hu:P.underlying t=some .string) (h:WT P t x): ∃s,x= .str s∧s.length≤maxLen:=by
 cases h with
 | int h1=>rw[hu] at h1;cases h1
 | bool h1=>rw[hu] at h1;cases h1
 | str h1 h2=>exact ⟨_,rfl,h2⟩
 | list h1=>rw[hu] at h1;cases h1
theorem WT.ain {t e:TypeId} {x:V} (hu:P.underlying t=some (.slice e)) (h:WT P t x): ∃es,x= .list e es∧es.length≤maxLen∧∀y∈es,nf P e y:=by
 cases h with
 | int h1=>rw[hu] at h1;cases h1
 | bool h1=>rw[hu] at h1;cases h1
 | str h1=>rw[hu] at h1;cases h1
 | list h1 h2 h3 h4=>
  rw[hu] at h1;cases h1;refine ⟨_,rfl,h2,fun y hy=> ?_⟩;obtain ⟨i,hi⟩:=sI hy;exact ⟨h3 i y hi,fun j t' hj=>h4 i j y t' hi hj⟩
theorem nf.mX {t:TypeId} {x:V} (ha:bY P t=true) (h:nf P t x): ∃xs,x= .agg xs∧xs.length=(aT P t).length∧∀(j:Nat) t' y,(aT P t)[j]? =some t'→xs[j]? =some y→WT P t' y:=by
 obtain ⟨xs,rfl,hl⟩:=h.1 ha;refine ⟨xs,rfl,hl,fun j t' y hj hy=> ?_⟩;have:=h.2 j t' hj;simp only[ca,ha,cond_true,V.akX] at this;rw[yf _ _ _ hy] at this;exact this
theorem Xu {α:Type} {f:α→V} {p:α→Prop}: ∀{es:List V},(∀y∈es,∃a,y=f a∧p a)→∃l:List α,es=l.map f∧∀a∈l,p a
 | [],_=>⟨[],rfl,by simp⟩
 | y::es,h=>by
  obtain ⟨a,rfl,ha⟩:=h y (by simp);obtain ⟨l,rfl,hl⟩:=Xu (f:=f) (p:=p) (es:=es) fun z hz=>h z (by simp[hz]);exact ⟨a::l,rfl,by
   intro b hb;rcases fW.1 hb with rfl|hb
   ·exact ha
   ·exact hl b hb⟩
theorem nf.int {t:TypeId} {x:V} (hu:P.underlying t=some (.int .i64)) (h:nf P t x): ∃n,x= .int .i64 n∧IntKind.min .i64≤n∧n≤IntKind.max .i64:=
 (h.one (by simp[bY,hu])).fM hu
theorem nf.str {t:TypeId} {x:V} (hu:P.underlying t=some .string) (h:nf P t x): ∃s,x= .str s∧s.length≤maxLen:=
 (h.one (by simp[bY,hu])).oh hu
end
def un.{u} {A B:Type} {γ:Sort u} (f:A→B→γ) (p:A×B):γ:=f p.1 p.2
def gj {A B γ:Type} (f:A→γ) (g:B→γ):A ⊕ B→γ
 | .inl a=>f a
 | .inr b=>g b
def vo:List Nat→Code→Code
 | [],c=>c
 | 0::p,.seq a _=>vo p a
 | _::p,.seq _ b=>vo p b
 | 0::p,.cond _ a _=>vo p a
 | _::p,.cond _ _ b=>vo p b
 | _::p,.block _ c=>vo p c
 | _::p,.loop c=>vo p c
 | _,c=>c
inductive pk where
 | loop (c:Code)
 | cond (t:Nat) (x y:Code)
section
variable (P:Program) (A:dn) (C:af) (L:cF) (f n m:Nat)
def qW:Code→List pk
 | .seq a b=>qW a++qW b
 | .cond (.tmp t) x y=>
  match A.jZ f (t*16+15) with
  | none=>qW x++qW y
  | some _=>[.cond t x y]
 | .cond (.const _) x y=>qW x++qW y
 | .block _ c=>qW c
 | .loop c=>[.loop c]
 | _=>[]
def tH:pk→Prop
 | .loop c=>
  match A.jZ f (keyOf c+1) with
  | none=>True
  | some S=> ∀(β:Type) ds (k:Nat→List V→Option β),L β (keyOf c+1) ds k=(Loop (stepG P A C f n m S c) ds).bind fun r=>k r.1 r.2
 | .cond t x y=>
  match A.jZ f (t*16+15) with
  | none=>True
  | some S=> ∀(β:Type) ds (k:Nat→List V→Option β),L β (t*16+15) ds k=(D6 P A C f n m t S x y ds).bind fun r=>k r.1 r.2
def pn:List pk→Prop
 | []=>True
 | b::l=>tH P A C L f n m b∧pn l
variable {P A C L f n m}
theorem pn.left {a b:List pk}:pn P A C L f n m (a++b)→pn P A C L f n m a:=by
 induction a with
 | nil=>exact fun _=>trivial
 | cons x a ih=>exact fun h=>⟨h.1,ih h.2⟩
theorem pn.right {a b:List pk}:pn P A C L f n m (a++b)→pn P A C L f n m b:=by
 induction a with
 | nil=>exact fun h=>h
 | cons x a ih=>exact fun h=>ih h.2
theorem aaj: ∀{c:Code} {bs:List pk},qW A f c=bs→pn P A C L f n m bs→km P A C L f n m c:=by
 intro c
 induction c with
 | seq a b Oy Oz=>
  intro bs h hb;subst h;exact ⟨Oy rfl hb.left,Oz rfl hb.right⟩
 | cond c x y jz jA=>
  intro bs h hb;subst h;cases c with
  | tmp t=>
   simp only[qW] at hb;simp only[km];cases hs:A.jZ f (t*16+15) with
   | none=>
    rw[hs] at hb;exact ⟨jz rfl hb.left,jA rfl hb.right⟩
   | some S=>
    rw[hs] at hb;have:=hb.1;simp only[tH,hs] at this;exact this
  | const v=>exact ⟨jz rfl hb.left,jA rfl hb.right⟩
  | _=>trivial
 | block id c ih=>
  intro bs h hb;subst h;exact ih rfl hb
 | loop c ih=>
  intro bs h hb;subst h;exact hb.1
 | _=>intro bs h hb;trivial
variable (P A C L f n m) in
def Q5 {β:Type} (t:Nat) (S:Shape×List (Out×Shape)) (x y:Code) (ds:List V) (k:Nat→List V→Option β):Option β:=
 let kc:Out→St→Option β:=fun o st=>
  match o with
  | .norm=>(ways m 0 S.2 (.norm,canon m (A.join f t) st)).bind fun e=>k e.1 e.2
  | o=>(ways m 0 S.2 (o,st)).bind fun e=>k e.1 e.2
 match (bG S.1 ds).sl t with
 | .bool b=>bif b then lh P A C L f n m x (bG S.1 ds) kc else lh P A C L f n m y (bG S.1 ds) kc
 | _=>none
theorem ak1 {t:Nat} {x y:Code} {S:Shape×List (Out×Shape)} (hS:A.jZ f (t*16+15)=some S) (hx:km P A C L f n m x) (hy:km P A C L f n m y) {I R:Type} (enc:I→List V) (qg:I→R→Nat×List V)
  (de:List V→I) (body:I→(β:Type)→(R→Option β)→Option β) (uV: ∀ds,bG S.1 (enc (de ds))=bG S.1 ds)
  (e1: ∀i (β:Type) (k:Nat→List V→Option β),Q5 P A C L f n m t S x y (enc i) k=body i β (fun r=>k (qg i r).1 (qg i r).2))
  (hl: ∀(β:Type) ds (k:Nat→List V→Option β),L β (t*16+15) ds k=body (de ds) β (fun r=>k (qg (de ds) r).1 (qg (de ds) r).2)):
  tH P A C L f n m (.cond t x y):=by
 simp only[tH,hS];intro β ds k;rw[hl,←e1];unfold Q5 D6;rw[uV];simp only;have hk: ∀(z:Option (Out×St)),(z.bind fun r=>(match r.1 with
   | .norm=>(ways m 0 S.2 (.norm,canon m (A.join f t) r.2)).bind fun e=>k e.1 e.2
   | o=>(ways m 0 S.2 (o,r.2)).bind fun e=>k e.1 e.2))=((z.bind fun r=>
   match r.1 with
   | .norm=>some (Out.norm,canon m (A.join f t) r.2)
   | _=>some r).bind fun r=>ways m 0 S.2 r).bind fun r=>k r.1 r.2:=by
  intro z;cases z with
  | none=>rfl
  | some r=>obtain ⟨o,st⟩:=r;cases o<;>rfl
 cases (bG S.1 ds).sl t with
 | bool b=>
  cases b with
  | true=>simp only[cond_true,Jg P A C f n m x hx];exact hk _
  | false=>simp only[cond_false,Jg P A C f n m y hy];exact hk _
 | _=>rfl
theorem bC {b:pk} {l:List pk} (h:tH P A C L f n m b) (h2:pn P A C L f n m l):pn P A C L f n m (b::l):=⟨h,h2⟩
theorem aw:pn P A C L f n m []:=trivial
theorem ak2 {key:Nat} {bs:List pk} (hb:qW A key (sR P (A.jP key))=bs) (ht:pn P A (Call P A) L key (D7 P (A.jP key)) (A.sin key).cS.length bs) {ds:List V} {r:Option (List V)}
  (h:Jh P A (Call P A) L key ds=r):Call P A key ds=r:=by
 rw[akS,afP P A (Call P A) key (aaj hb ht),h]
end
section
variable (P:Program) (A:dn)
def lD (C:af) (N f n m:Nat):Code→St→Option (Out×St)
 | .skip,st=>some (.norm,st)
 | .region id ops draw,st=>(A8 P (A.here f id) C n ops draw st).bind fun st'=>some (.norm,canon m (A.live f id) (freeze m (A.pur f id) st'))
 | .seq a b,st=>(lD C N f n m a st).bind fun r=>
  match r.1 with
  | .norm=>lD C N f n m b r.2
  | _=>some r
 | .cond (.tmp t) x y,st=>
  let go (st:St):Option (Out×St):=
   match st.sl t with
   | .bool b=>(bif b then lD C N f n m x st else lD C N f n m y st).bind fun r=>
    match r.1 with
    | .norm=>some (.norm,canon m (A.join f t) r.2)
    | _=>some r
   | _=>none
  match A.jZ f (t*16+15) with
  | none=>go st
  | some S=>(lS m S.1 st).bind fun ds=>((go (bG S.1 ds)).bind fun r=>ways m 0 S.2 r).bind fun e=>nK 0 S.2 e.1 e.2 fun o st=>some (o,st)
 | .cond (.const (.bool b)) x y,st=>bif b then lD C N f n m x st else lD C N f n m y st
 | .block id c,st=>(lD C N f n m c st).bind fun r=>
  match r.1 with
  | .norm=>some (.norm,canon m (A.blk f id) r.2)
  | .exit aq=>bif Nat.beq aq id then some (.norm,canon m (A.blk f id) r.2) else some r
  | .ret=>some r
 | .loop c,st=>
  match A.jZ f (keyOf c+1) with
  | none=>none
  | some S=>(lS m S.1 st).bind fun ds=>(g0 (fun ds=>oX m S.1 S.2 (lD C N f n m c (bG S.1 ds))) N ds).bind fun e=>nK 0 S.2 e.1 e.2 fun o st=>some (o,st)
 | .exit id,st=>some (.exit id,st)
 | .ret,st=>some (.ret,st)
 | _,_=>none
def Q6 (C:af) (N f:Nat) (ds:List V):Option (List V):=
 match P.funcs[A.jP f]? with
 | none=>none
 | some fn=>
  match fn.body with
  | none=>none
  | some c=>bif lg 0 (A.sin f).ch&&(Nat.ble (A.sin f).ch.length fn.ntmps&&((A.sin f).ok&&(lg 0 (A.iS f).ch&&(Nat.beq (A.iS f).ch.length fn.results.size&&rE (pP (A.sin f).cS.length (A.mv f)))))) then
    (lD P A C N f fn.ntmps (A.sin f).cS.length c (D5 A f ds)).bind fun r=>
     match r.1 with
     | .exit _=>none
     | _=>((xT P A f fn (A.sin f).cS.length r.2).run C r.2.hp).map (·.1)
   else none
def Lg (N:Nat):Nat→af
 | 0=>fun _ _=>none
 | n+1=>Q6 P A (Lg N n) N
variable {P A}
theorem aak {X R:Type} {s1 s2:X→Option (X ⊕ R)} (h: ∀x y,s1 x=some y→s2 x=some y): ∀(n:Nat) (x:X) (r:R),g0 s1 n x=some r→g0 s2 n x=some r
 | 0,x,r,e=>by cases e
 | n+1,x,r,e=>by
  simp only[g0] at e⊢;obtain ⟨y,h1,h2⟩:=bind_some e;rw[h x y h1];cases y with
  | inl z=>exact aak h n z r h2
  | inr q=>exact h2
theorem ak3 {C:af} {N f n m:Nat}: ∀(c:Code) {st:St} {r:Out×St},lD P A C N f n m c st=some r→exec P A C f n m c st=some r:=by
 intro c
 induction c with
 | skip=>exact fun e=>e
 | exit id=>exact fun e=>e
 | ret=>exact fun e=>e
 | region id ops draw=>exact fun e=>e
 | seq x y jz jA=>
  intro st r e;simp only[lD,exec] at e⊢;obtain ⟨⟨o,s1⟩,h1,h2⟩:=bind_some e;rw[jz h1];cases o with
  | norm=>exact jA h2
  | exit id=>exact h2
  | ret=>exact h2
 | cond c x y jz jA=>
  intro st r e;cases c with
  | tmp t=>
   have go: ∀{st:St} {r:Out×St},(match st.sl t with
     | .bool b=>(bif b then lD P A C N f n m x st else lD P A C N f n m y st).bind fun r=>
      match r.1 with
      | .norm=>some (.norm,canon m (A.join f t) r.2)
      | _=>some r
     | _=>none)=some r→(match st.sl t with
     | .bool b=>(bif b then exec P A C f n m x st else exec P A C f n m y st).bind fun r=>
      match r.1 with
      | .norm=>some (.norm,canon m (A.join f t) r.2)
      | _=>some r
     | _=>none)=some r:=by
    intro st r e;cases hs:st.sl t<;>rw[hs] at e<;>simp only at e⊢ <;>first|(cases e;done)|skip
    rename_i b;obtain ⟨x1,h1,h2⟩:=bind_some e;cases b with
    | true=>simp only[cond_true,jz h1,Option.bind_some];exact h2
    | false=>simp only[cond_false,jA h1,Option.bind_some];exact h2
   simp only[lD,exec] at e⊢;split at e
   ·rename_i hS
    try rw[hS]
    exact go e
   ·rename_i S hS;obtain ⟨ds,h1,h2⟩:=bind_some e;obtain ⟨e',h3,h4⟩:=bind_some h2;obtain ⟨r1,h5,h6⟩:=bind_some h3
    try rw[hS]
    simp only[h1,Option.bind_some];exact (congrArg (fun z:Option (Out×St)=>(z.bind fun r=>ways m 0 S.2 r).bind fun e=>nK 0 S.2 e.1 e.2 fun o st=>some (o,st)) (go h5)).trans (by simp only[Option.bind_some,h6];exact h4)
  | const v=>
   cases v with
   | bool b=>
    simp only[lD,exec] at e⊢;cases b with
    | true=>exact jz e
    | false=>exact jA e
   | _=>simp only[lD] at e;cases e
  | _=>simp only[lD] at e;cases e
 | block id c ih=>
  intro st r e;simp only[lD,exec] at e⊢;obtain ⟨x1,h1,h2⟩:=bind_some e;rw[ih h1];exact h2
 | loop c ih=>
  intro st r e;simp only[lD,exec] at e⊢;split at e
  ·cases e
  ·rename_i S hS;obtain ⟨ds,h1,h2⟩:=bind_some e;obtain ⟨e',h3,h4⟩:=bind_some h2
   try rw[hS]
   simp only[h1,Option.bind_some];rw[AQ (aak (s2:=fun ds=>oX m S.1 S.2 (exec P A C f n m c (bG S.1 ds))) (fun x y FJ=>by
    unfold oX at FJ⊢;obtain ⟨z,h5,h6⟩:=bind_some FJ;rw[ih h5];exact h6) N ds e' h3)]
   exact h4
 | _=>intro st r e;simp only[lD] at e;cases e
theorem ak4 {C:af} {N f:Nat} {ds es:List V} (e:Q6 P A C N f ds=some es):rG P A C f ds=some es:=by
 unfold Q6 at e;unfold rG;cases hf:P.funcs[A.jP f]? with
 | none=>rw[hf] at e;cases e
 | some fn=>
  rw[hf] at e;simp only at e⊢;cases hb:fn.body with
  | none=>rw[hb] at e;cases e
  | some c=>
   rw[hb] at e;simp only at e⊢;cases hc:(lg 0 (A.sin f).ch&&(Nat.ble (A.sin f).ch.length fn.ntmps&&((A.sin f).ok&&(lg 0 (A.iS f).ch&&(Nat.beq (A.iS f).ch.length fn.results.size&&rE (pP (A.sin f).cS.length (A.mv f))))))) with
   | false=>rw[hc] at e;cases e
   | true=>
    rw[hc] at e;simp only[cond_true] at e⊢;obtain ⟨x,h1,h2⟩:=bind_some e;rw[ak3 c h1];exact h2
theorem aal {N:Nat}: ∀n {f:Nat} {a r:List V},Lg P A N n f a=some r→nL P A n f a=some r
 | 0,f,a,r,h=>by cases h
 | n+1,f,a,r,h=>by
  obtain ⟨M,hM⟩:=K6 (C:=Lg P A N n) (D:=fun _=>nL P A n) (fun f a r h=>⟨0,fun _ _=>aal n h⟩) (ak4 h);exact hM M (av _)
theorem aD {N n f:Nat} {a r:List V} (h:Lg P A N n f a=some r):Call P A f a=some r:=FK.2 ⟨n,aal n h⟩
end
inductive LK where
 | int (k:IntKind)
 | bool
 | str
 | list (e:TypeId)
 | nat
def LK.Ty:LK→Type
 | .int _=>Int
 | .bool=>Bool
 | .str=>List UInt8
 | .list _=>List V
 | .nat=>Nat
def LK.enc:(k:LK)→k.Ty→V
 | .int k,n=> .int k n
 | .bool,b=> .bool b
 | .str,s=> .str s
 | .list e,l=> .list e l
 | .nat,n=>fv n
def LK.dec:(k:LK)→V→k.Ty
 | .int _,v=>v.toInt
 | .bool,v=>v.toBool
 | .str,v=>v.toStr
 | .list _,v=>v.toList
 | .nat,v=>jQ v
theorem LK.aam: ∀(k:LK) (x:k.Ty),k.dec (k.enc x)=x
 | .int _,_=>rfl
 | .bool,_=>rfl
 | .str,_=>rfl
 | .list _,_=>rfl
 | .nat,_=>rfl
def Q7:List Nat→List LK
 | []=>[]
 | _::l=> .nat::Q7 l
def LS.ks:LS→List LK
 | .int k=>[.int k]
 | .bool=>[.bool]
 | .str=>[.str]
 | .list e=>[.list e]
 | .nl e=>[.list e]
 | .sub .. =>[.nat,.nat]
 | .ptr _=>[.nat,.nat]
 | .row _ _ cs=>Q7 cs
 | .dD _ cs _=> .nat::Q7 cs
 | _=>[]
def Ce:List LS→List LK
 | []=>[]
 | l::ls=>l.ks++Ce ls
def VS.ks:VS→List LK
 | .one l=>l.ks
 | .agg ls=>Ce ls
 | .ba ls=>Ce ls
 | .fn _ a b=>Ce a++Ce b
 | .pref _ ls=>Ce ls
def aan:List VS→List LK
 | []=>[]
 | l::ls=>l.ks++aan ls
def BS.ks:BS→List LK
 | .var _ cs=>aan cs
 | .arr e _=>[.list e]
 | .nest e=>[.list e]
 | .dead=>[]
 | .map t=>[.list t]
def aao:List (Nat×VS)→List LK
 | []=>[]
 | p::l=>p.2.ks++aao l
def aap:List BS→List LK
 | []=>[]
 | b::l=>b.ks++aap l
def Shape.ks (S:Shape):List LK:=aao S.ch++aap S.cS
def Q8:List Nat→List V→List V
 | [],_=>[]
 | _::cs,ds=>fv (jQ (V.nth ds 0))::Q8 cs (ds.drop 1)
def LS.norm:LS→List V→List V
 | .int k,ds=>[.int k (V.nth ds 0).toInt]
 | .bool,ds=>[.bool (V.nth ds 0).toBool]
 | .str,ds=>[.str (V.nth ds 0).toStr]
 | .list e,ds=>[.list e (V.nth ds 0).toList]
 | .nl e,ds=>[.list e (V.nth ds 0).toList]
 | .sub ..,ds=>[fv (jQ (V.nth ds 0)),fv (jQ (V.nth ds 1))]
 | .ptr _,ds=>[fv (jQ (V.nth ds 0)),fv (jQ (V.nth ds 1))]
 | .row _ _ cs,ds=>Q8 cs ds
 | .dD _ cs _,ds=>fv (jQ (V.nth ds 0))::Q8 cs (ds.drop 1)
 | _,_=>[]
def Cf:List LS→List V→List V
 | [],_=>[]
 | l::ls,ds=>l.norm ds++Cf ls (ds.drop l.size)
def VS.norm:VS→List V→List V
 | .one l,ds=>l.norm ds
 | .agg ls,ds=>Cf ls ds
 | .ba ls,ds=>Cf ls ds
 | .fn _ a b,ds=>Cf a ds++Cf b (ds.drop (mQ a))
 | .pref _ ls,ds=>Cf ls ds
def aaq:List VS→List V→List V
 | [],_=>[]
 | l::ls,ds=>l.norm ds++aaq ls (ds.drop l.size)
def BS.norm:BS→List V→List V
 | .var _ cs,ds=>aaq cs ds
 | .arr e _,ds=>[.list e (V.nth ds 0).toList]
 | .nest e,ds=>[.list e (V.nth ds 0).toList]
 | .dead,_=>[]
 | .map t,ds=>[.list t (V.nth ds 0).toList]
def aar:List (Nat×VS)→List V→List V
 | [],_=>[]
 | p::l,ds=>p.2.norm ds++aar l (ds.drop p.2.size)
def aas:List BS→List V→List V
 | [],_=>[]
 | b::l,ds=>b.norm ds++aas l (ds.drop b.size)
def Shape.norm (S:Shape) (ds:List V):List V:=aar S.ch ds++aas S.cS (ds.drop (rD S.ch))
def zc:LK→List LK→Type
 | k,[]=>k.Ty
 | k,k'::ks=>k.Ty×zc k' ks
def nZ:List LK→Type
 | []=>Unit
 | k::ks=>zc k ks
def zd:(k:LK)→(ks:List LK)→zc k ks→List V
 | k,[],x=>[k.enc x]
 | k,k'::ks,x=>k.enc x.1::zd k' ks x.2
def oA:(ks:List LK)→nZ ks→List V
 | [],_=>[]
 | k::ks,x=>zd k ks x
def FP:(k:LK)→(ks:List LK)→List V→zc k ks
 | k,[],l=>k.dec (V.nth l 0)
 | k,k'::ks,l=>(k.dec (V.nth l 0),FP k' ks l.tail)
def sm:(ks:List LK)→List V→nZ ks
 | [],_=>()
 | k::ks,l=>FP k ks l
theorem aat: ∀(k:LK) (ks:List LK) (x:zc k ks) (r:List V),FP k ks (zd k ks x++r)=x
 | k,[],x,r=>LK.aam k x
 | k,k'::ks,x,r=>by
  show (k.dec (k.enc x.1),FP k' ks (zd k' ks x.2++r))=x;rw[LK.aam,aat k' ks];rfl
def Cg:List LK→Type 1→Type 1
 | [],R=>R
 | k::ks,R=>k.Ty→Cg ks R
def apN:(k:LK)→(ks:List LK)→{R:Type 1}→Cg (k::ks) R→zc k ks→R
 | _,[],_,f,x=>f x
 | _,k'::ks,_,f,x=>apN k' ks (f x.1) x.2
def ze:(ks:List LK)→{R:Type 1}→Cg ks R→nZ ks→R
 | [],_,f,_=>f
 | k::ks,_,f,x=>apN k ks f x
def Ch {α:Type} (b:Bool):List Bool→List α→List α
 | [],_=>[]
 | _,[]=>[]
 | c::m,x::l=>bif c==b then x::Ch b m l else Ch b m l
def merge:List Bool→List V→List V→List V
 | [],_,_=>[]
 | true::m,i,x=>V.nth x 0::merge m i x.tail
 | false::m,i,x=>V.nth i 0::merge m i.tail x
def Ci:List Nat→List LK→List LK
 | [],_=>[]
 | _,[]=>[]
 | 0::t,k::ks=>k::Ci t ks
 | (_+1)::t,_::ks=>Ci t ks
abbrev jm:=List Nat×List LK
def jm.fresh (w:jm):List LK:=Ci w.1 w.2
def put:List Nat→List V→List V→List V
 | [],_,_=>[]
 | 0::t,ds,x=>V.nth x 0::put t ds x.tail
 | (j+1)::t,ds,x=>V.nth ds j::put t ds x
def zf:List Nat→List V→List V
 | [],_=>[]
 | 0::t,l=>V.nth l 0::zf t l.tail
 | (_+1)::t,l=>zf t l.tail
def xd:jm→List jm→Type
 | w,[]=>nZ w.fresh
 | w,w'::ws=>nZ w.fresh ⊕ xd w' ws
def vp:List jm→Type
 | []=>Empty
 | w::ws=>xd w ws
def wN (ds:List V) {β:Type} (k:Nat→List V→Option β):Nat→(w:jm)→(ws:List jm)→xd w ws→Option β
 | j,w,[],r=>k j (put w.1 ds (oA w.fresh r))
 | j,w,w'::ws,r=>gj (fun x=>k j (put w.1 ds (oA w.fresh x))) (fun y=>wN ds k (j+1) w' ws y) r
def wT (ds:List V) {β:Type} (k:Nat→List V→Option β):(ws:List jm)→vp ws→Option β
 | [],r=>Empty.elim r
 | w::ws,r=>wN ds k 0 w ws r
def sn (ds:List V):Nat→(w:jm)→(ws:List jm)→xd w ws→Nat×List V
 | j,w,[],r=>(j,put w.1 ds (oA w.fresh r))
 | j,w,_::_,.inl x=>(j,put w.1 ds (oA w.fresh x))
 | j,_,w'::ws,.inr y=>sn ds (j+1) w' ws y
def Cj (ds:List V):(ws:List jm)→vp ws→Nat×List V
 | [],r=>Empty.elim r
 | w::ws,r=>sn ds 0 w ws r
theorem aau (ds:List V) {β:Type} (k:Nat→List V→Option β): ∀(j:Nat) (w:jm) (ws:List jm) (r:xd w ws),wN ds k j w ws r=k (sn ds j w ws r).1 (sn ds j w ws r).2
 | _,_,[],_=>rfl
 | _,_,_::_,.inl _=>rfl
 | j,_,w'::ws,.inr y=>aau ds k (j+1) w' ws y
theorem Lh (ds:List V) {β:Type} (k:Nat→List V→Option β): ∀(ws:List jm) (r:vp ws),wT ds k ws r=k (Cj ds ws r).1 (Cj ds ws r).2
 | [],r=>Empty.elim r
 | w::ws,r=>aau ds k 0 w ws r
def Ck:Nat→(w:jm)→(ws:List jm)→List V→xd w ws
 | _,w,[],l=>sm w.fresh (zf w.1 l)
 | 0,w,_::_,l=> .inl (sm w.fresh (zf w.1 l))
 | j+1,_,w'::ws,l=> .inr (Ck j w' ws l)
def deT (j:Nat):(ws:List jm)→List V→Option (vp ws)
 | [],_=>none
 | w::ws,l=>some (Ck j w ws l)
def Cl:List Nat→List V→List V
 | [],_=>[]
 | 0::t,x=>V.nth x 0::Cl t x.tail
 | (_+1)::t,x=>Cl t x
theorem Q9: ∀(t:List Nat) (ds x:List V),zf t (put t ds x)=Cl t x
 | [],_,_=>rfl
 | 0::t,ds,x=>congrArg (V.nth x 0:: ·) (Q9 t ds x.tail)
 | (_+1)::t,ds,x=>Q9 t ds x
theorem Ra: ∀(t:List Nat) (ks:List LK) (k:LK) (tI:List LK),Ci t ks=k::tI→∀x:zc k tI,∃r,Cl t (zd k tI x)=zd k tI x++r
 | [],_,_,_,h,_=>by cases h
 | _::_,[],_,_,h,_=>by simp[Ci] at h
 | 0::t,a::ks,k,tI,h,x=>by
  simp only[Ci,xK] at h;obtain ⟨rfl,h2⟩:=h;cases tI with
  | nil=>exact ⟨Cl t [],rfl⟩
  | cons k' tI=>
   obtain ⟨r,hr⟩:=Ra t ks k' tI h2 x.2;exact ⟨r,congrArg (a.enc x.1:: ·) hr⟩
 | (_+1)::t,a::ks,k,tI,h,x=>Ra t ks k tI h x
theorem aav (w:jm) (ds:List V) (x:nZ w.fresh):sm w.fresh (zf w.1 (put w.1 ds (oA w.fresh x)))=x:=by
 rw[Q9];revert x;generalize hf:w.fresh=f;cases f with
 | nil=>intro x;rfl
 | cons k ks=>
  intro x;obtain ⟨r,hr⟩:=Ra w.1 w.2 k ks hf x;show FP k ks (Cl w.1 (zd k ks x))=x;rw[hr];exact aat k ks x r
theorem aaw (ds:List V): ∀(j:Nat) (w:jm) (ws:List jm) (r:xd w ws),j≤(sn ds j w ws r).1
 | _,_,[],_=>av _
 | _,_,_::_,.inl _=>av _
 | j,_,w'::ws,.inr y=>oc (Nat.le_succ j) (aaw ds (j+1) w' ws y)
theorem ak5 (w:jm) (l:List V): ∀j,Ck j w [] l=sm w.fresh (zf w.1 l)
 | 0=>rfl
 | _+1=>rfl
theorem aax (ds:List V): ∀(j:Nat) (w:jm) (ws:List jm) (r:xd w ws),Ck ((sn ds j w ws r).1-j) w ws (sn ds j w ws r).2=r
 | j,w,[],r=>(ak5 w _ _).trans (aav w ds r)
 | j,w,w'::ws,.inl x=>by
  show Ck (j-j) w (w'::ws) (put w.1 ds (oA w.fresh x))= .inl x;rw[Nat.sub_self];exact congrArg Sum.inl (aav w ds x)
 | j,w,w'::ws,.inr y=>by
  have h1:=aaw ds (j+1) w' ws y;have h2:=aax ds (j+1) w' ws y;show Ck ((sn ds (j+1) w' ws y).1-j) w (w'::ws) (sn ds (j+1) w' ws y).2= .inr y;obtain ⟨d,hd⟩: ∃d,(sn ds (j+1) w' ws y).1=j+1+d:=⟨(sn ds (j+1) w' ws y).1-(j+1),by omega⟩
  rw[hd] at h2⊢;rw[show j+1+d-(j+1)=d by omega] at h2;rw[show j+1+d-j=d+1 by omega];exact congrArg Sum.inr h2
theorem ak6 (ds:List V): ∀(ws:List jm) (r:vp ws),deT (Cj ds ws r).1 ws (Cj ds ws r).2=some r
 | [],r=>Empty.elim r
 | w::ws,r=>congrArg some (aax ds 0 w ws r)
section
variable {P:Program} {A:dn} {C:af} {L:cF} {f n m:Nat}
theorem ak7 {c:Code} {S:Shape×List (Out×Shape)} (hS:A.jZ f (keyOf c+1)=some S) (hL:km P A C L f n m c) {I X R:Type} (enc:I→X→List V) (qg:I→R→Nat×List V)
  (tJ:List V→I) (vq:List V→X) (Li:Nat×List V→Option R) (body:I→X→(β:Type)→(X→Option β)→(R→Option β)→Option β)
  (uV: ∀ds,bG S.1 (enc (tJ ds) (vq ds))=bG S.1 ds) (Rb: ∀i x,vq (enc i x)=x) (hdr: ∀i r,Li (qg i r)=some r)
  (e1: ∀i x (β:Type) (k:(List V ⊕ (Nat×List V))→Option β),lh P A C L f n m c (bG S.1 (enc i x)) (fun o st=>(oX m S.1 S.2 (some (o,st))).bind k)=
   body i x β (fun y=>k (.inl (enc i y))) (fun r=>k (.inr (qg i r))))
  (hl: ∀(β:Type) ds (k:Nat→List V→Option β),L β (keyOf c+1) ds k=(Loop (fun x=>body (tJ ds) x (X ⊕ R) (fun y=>some (.inl y)) (fun r=>some (.inr r))) (vq ds)).bind fun r=>k (qg (tJ ds) r).1 (qg (tJ ds) r).2):
  tH P A C L f n m (.loop c):=by
 simp only[tH,hS];intro β ds k;rw[hl];have hex: ∀(z:Option (Out×St)),oX m S.1 S.2 z=z.bind fun r=>oX m S.1 S.2 (some (r.1,r.2)):=by
  intro z;cases z<;>rfl
 have hs: ∀i x,stepG P A C f n m S c (enc i x)=(body i x (X ⊕ R) (fun y=>some (.inl y)) (fun r=>some (.inr r))).map fun| .inl y=> .inl (enc i y)| .inr r=> .inr (qg i r):=by
  intro i x;have k1:=e1 i x _ (fun z=>some z);have k2:=e1 i x (X ⊕ R) (fun| .inl ds=>some (.inl (vq ds))| .inr e=>(Li e).map .inr);have k3:=e1 i x (List V ⊕ (Nat×List V)) (fun| .inl ds=>some (.inl (enc i (vq ds)))| .inr e=>(Li e).map fun r=> .inr (qg i r));simp only[Rb,hdr,Option.map_some] at k2 k3;unfold stepG;rw[hex];rw[Jg P A C f n m c hL] at k1 k2 k3;rw[←k2];refine Eq.trans ?_ (k1.trans (k3.symm.trans ?_))
  ·simp
  ·cases exec P A C f n m c (bG S.1 (enc i x)) with
   | none=>rfl
   | some r=>
    simp only[Option.bind_some];cases oX m S.1 S.2 (some (r.1,r.2)) with
    | none=>rfl
    | some z=>
     cases z with
     | inl _=>rfl
     | inr e=>simp only[Option.bind_some];cases Li e<;>rfl
 have h0:stepG P A C f n m S c ds=stepG P A C f n m S c (enc (tJ ds) (vq ds)):=by
  unfold stepG;rw[uV]
 have:Loop (stepG P A C f n m S c) ds=(Loop (fun x=>body (tJ ds) x (X ⊕ R) (fun y=>some (.inl y)) (fun r=>some (.inr r))) (vq ds)).map (qg (tJ ds)):=by
  rw[IK,h0,←IK];exact afN (enc (tJ ds)) (qg (tJ ds)) (fun x=>hs _ _) (vq ds)
 rw[this];cases Loop (fun x=>body (tJ ds) x (X ⊕ R) (fun y=>some (.inl y)) (fun r=>some (.inr r))) (vq ds)<;>rfl
abbrev FQ (S:Shape) (mk:List Bool):List LK:=Ch false mk S.ks
abbrev zg (S:Shape) (mk:List Bool):List LK:=Ch true mk S.ks
def vr (ts:List (List Nat)) (W:List (Out×Shape)):List jm:=
 match ts,W with
 | t::ts,w::W=>(t,w.2.ks)::vr ts W
 | _,_=>[]
abbrev FR (S:Shape) (mk:List Bool) (i:nZ (FQ S mk)) (x:nZ (zg S mk)):List V:=merge mk (oA _ i) (oA _ x)
abbrev Rc (S:Shape) (mk:List Bool) (i:nZ (FQ S mk)):List V:=merge mk (oA _ i) []
abbrev Lj (S:Shape) (mk:List Bool) (ds:List V):nZ (FQ S mk):=sm _ (Ch false mk (S.norm ds))
abbrev Lk (S:Shape) (mk:List Bool) (ds:List V):nZ (zg S mk):=sm _ (Ch true mk (S.norm ds))
abbrev aay (X R:Type):Type 1:=(β:Type)→(X→Option β)→(R→Option β)→Option β
abbrev Ll (S:Shape×List (Out×Shape)) (mk:List Bool) (ts:List (List Nat)):Type 1:=Cg (FQ S.1 mk) (Cg (zg S.1 mk) (aay (nZ (zg S.1 mk)) (vp (vr ts S.2))))
abbrev Re (S:Shape×List (Out×Shape)) (mk:List Bool) (ts:List (List Nat)) (b:Ll S mk ts) (i:nZ (FQ S.1 mk)) (x:nZ (zg S.1 mk)):aay (nZ (zg S.1 mk)) (vp (vr ts S.2)):=ze _ (ze _ b i) x
def Rf (S:Shape×List (Out×Shape)) (mk:List Bool) (ts:List (List Nat)) (b:Ll S mk ts) {β:Type} (ds:List V) (k:Nat→List V→Option β):Option β:=
 (Loop (fun x=>Re S mk ts b (Lj S.1 mk ds) x (nZ (zg S.1 mk) ⊕ vp (vr ts S.2)) (fun y=>some (.inl y)) (fun r=>some (.inr r))) (Lk S.1 mk ds)).bind (wT (Rc S.1 mk (Lj S.1 mk ds)) k (vr ts S.2))
theorem bP {c:Code} (S:Shape×List (Out×Shape)) (mk:List Bool) (ts:List (List Nat)) (b:Ll S mk ts) (hL:km P A C L f n m c) (hS:A.jZ f (keyOf c+1)=some S:=by kernel_rfl)
  (uV: ∀ds,bG S.1 (FR S.1 mk (Lj S.1 mk ds) (Lk S.1 mk ds))=bG S.1 ds:=by intros;kernel_rfl) (Rb: ∀i x,Lk S.1 mk (FR S.1 mk i x)=x:=by intros;kernel_rfl)
  (e1: ∀i x (β:Type) (k:(List V ⊕ (Nat×List V))→Option β),lh P A C L f n m c (bG S.1 (FR S.1 mk i x)) (fun o st=>(oX m S.1 S.2 (some (o,st))).bind k)=
   Re S mk ts b i x β (fun y=>k (.inl (FR S.1 mk i y))) (wT (Rc S.1 mk i) (fun j l=>k (.inr (j,l))) (vr ts S.2)):=by intros;kernel_rfl)
  (hl: ∀(β:Type) ds (k:Nat→List V→Option β),L β (keyOf c+1) ds k=Rf S mk ts b ds k:=by intros;kernel_rfl):
  tH P A C L f n m (.loop c):=
 ak7 hS hL (FR S.1 mk) (fun i r=>Cj (Rc S.1 mk i) _ r) (Lj S.1 mk) (Lk S.1 mk) (fun e=>deT e.1 _ e.2) (Re S mk ts b) uV Rb (fun i r=>ak6 _ _ r)
  (fun i x β k=>by
   rw[e1];congr 1;funext r;exact Lh _ _ _ r)
  (fun β ds k=>by
   rw[hl];unfold Rf;congr 1;funext r;exact Lh _ _ _ r)
abbrev Rg (S:Shape×List (Out×Shape)) (ts:List (List Nat)):Type 1:=Cg S.1.ks ((β:Type)→(vp (vr ts S.2)→Option β)→Option β)
def aaz (S:Shape×List (Out×Shape)) (ts:List (List Nat)) (b:Rg S ts) {β:Type} (ds:List V) (k:Nat→List V→Option β):Option β:=
 ze S.1.ks b (sm _ (S.1.norm ds)) β (wT (oA S.1.ks (sm _ (S.1.norm ds))) k (vr ts S.2))
theorem Lm {t:Nat} {x y:Code} (S:Shape×List (Out×Shape)) (ts:List (List Nat)) (b:Rg S ts) (hx:km P A C L f n m x) (hy:km P A C L f n m y) (hS:A.jZ f (t*16+15)=some S:=by kernel_rfl)
  (uV: ∀ds,bG S.1 (oA S.1.ks (sm _ (S.1.norm ds)))=bG S.1 ds:=by intros;kernel_rfl)
  (e1: ∀i (β:Type) (k:Nat→List V→Option β),Q5 P A C L f n m t S x y (oA S.1.ks i) k=ze S.1.ks b i β (wT (oA S.1.ks i) k (vr ts S.2)):=by intros;kernel_rfl)
  (hl: ∀(β:Type) ds (k:Nat→List V→Option β),L β (t*16+15) ds k=aaz S ts b ds k:=by intros;kernel_rfl):
  tH P A C L f n m (.cond t x y):=
 ak1 hS hx hy (oA S.1.ks) (fun i r=>Cj (oA S.1.ks i) _ r) (fun ds=>sm _ (S.1.norm ds)) (ze S.1.ks b) uV
  (fun i β k=>by
   rw[e1];exact congrArg (ze S.1.ks b i β) (funext fun r=>Lh _ _ _ r))
  (fun β ds k=>by
   rw[hl];exact congrArg (ze S.1.ks b (sm _ (S.1.norm ds)) β) (funext fun r=>Lh _ _ _ r))
end
theorem bu {P:Program} {A:dn} {C:af} {L:cF} {f n m:Nat} {c:Code} {bs:List pk} (hb:pn P A C L f n m bs) (h:qW A f c=bs:=by kernel_rfl):km P A C L f n m c:=aaj h hb
theorem bQ {P:Program} {A:dn} {L:cF} {key:Nat} {bs:List pk} {ds:List V} {r x:Option (List V)} (ht:pn P A (Call P A) L key (D7 P (A.jP key)) (A.sin key).cS.length bs) (h:x=r)
  (hb:qW A key (sR P (A.jP key))=bs:=by kernel_rfl) (e:Jh P A (Call P A) L key ds=x:=by kernel_rfl):Call P A key ds=r:=ak2 hb ht (e.trans h)
def bN (j:Nat) (S:Shape×List (Out×Shape)) (mk:List Bool) (ts:List (List Nat)) (b:Ll S mk ts) (L:cF):cF:=fun β n ds k=>bif Nat.beq n j then Rf S mk ts b ds k else L β n ds k
def Ln (j:Nat) (S:Shape×List (Out×Shape)) (ts:List (List Nat)) (b:Rg S ts) (L:cF):cF:=fun β n ds k=>bif Nat.beq n j then aaz S ts b ds k else L β n ds k
def bO:cF:=fun _ _ _ _=>none
abbrev LV:=List V
structure SE where
 T:TypeId
 cmp:Nat
 ex:V→List V
 k:Nat→Nat
abbrev Cm (l:List V) (j:Int) {β:Type} (x:Option β):Option β:=bif (decide (0≤j))&&(decide (j<(l.length:Int))) then x else none
abbrev aP (l:List V) (j:Int) {β:Type} (f:V→Option β):Option β:=bif (decide (0≤j))&&(decide (j<(l.length:Int))) then (l[j.toNat]?).bind f else none
abbrev bj (l:List V) (j:Int) (v:V):List V:=l.set j.toNat v
end Go.AM
