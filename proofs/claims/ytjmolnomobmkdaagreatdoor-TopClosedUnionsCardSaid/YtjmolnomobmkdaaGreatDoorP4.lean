/-
  Functions of the program, lifted to plain data.
-/
import Derived.Carry
import Derived.OpenShut
import Derived.Deep.Slices
import Derived.Test.YtjmolnomobmkdaaGreatDoorP3
noncomputable section
set_option linter.unusedVariables false
set_option linter.unusedSimpArgs false
set_option linter.unusedSectionVars false
namespace Go.AM
open Go.IntKind (wrap)
section
variable {P:Program} {A:dr} {E:FuncId→Bool} {G:Nat→V} {w w':World} {I I' I2:Nat→Nat→Prop} {μ β β':Nat→Option Nat} {hp hp' hp0:Nat→Option ah} {C:af} {B:Nat} {M:Nat→Prop} {w0:Start}
def Ar (hp0:Nat→Option ah):Prop:= ∀id e es vers,(hp0 id=some (.nest e es vers)∨∃i,hp0 id=some (.out e es vers i))→∀k,bz vers k=0
theorem acn {n m:Nat} {ord kp live:List Nat} {a:Act} {st:St} (s7:ord.Nodup) (HE: ∀id,id<m→ord[id]? =some id∨∃p,ord[id]? =some p∧st.hp p=none) (S:aA P w I β st.hp B M w0) (hT:uv P I β st.hp) (hA:ja P E G w I β n a st) (hE:pd w0.w w0.I μ hp0 w I β st.hp) (hm: ∀id blk,hp0 id=some blk→id<m) (mH:Ar hp0):
  ∃β',aA P w I β' (B8 ord kp live st).hp B M w0∧ja P E G w I β' n a (B8 ord kp live st)∧pd w0.w w0.I μ hp0 w I β' (B8 ord kp live st).hp:=by
 have anQ:B8 ord kp live st=mk (pR st.hp ord st.sl (ord.length+(jr st.hp ord kp ord.length ord).2.length) live).1
   ((jr st.hp ord kp ord.length ord).1++((jr st.hp ord kp ord.length ord).2++(pR st.hp ord st.sl (ord.length+(jr st.hp ord kp ord.length ord).2.length) live).2)):=by
  rfl
 rw[anQ]
 let hp':=nC ((jr st.hp ord kp ord.length ord).1++((jr st.hp ord kp ord.length ord).2++(pR st.hp ord st.sl (ord.length+(jr st.hp ord kp ord.length ord).2.length) live).2))
 let β':Nat→Option Nat:=fun j=>if j<ord.length then (ord[j]?).bind β else none
 have hlen:(jr st.hp ord kp ord.length ord).1.length=ord.length:=acj;have n9: ∀j,j<ord.length→hp' j=(jr st.hp ord kp ord.length ord).1[j]? :=by
  intro j hj;simp only[hp',ln];rw[nz (by omega)]
 have mG: ∀k,hp' (ord.length+k)=((jr st.hp ord kp ord.length ord).2++(pR st.hp ord st.sl (ord.length+(jr st.hp ord kp ord.length ord).2.length) live).2)[k]? :=by
  intro k;simp only[hp',ln];rw[oV (by omega),hlen,Kj]
 have hF:pg hp' β' ord.length ((jr st.hp ord kp ord.length ord).2++(pR st.hp ord st.sl (ord.length+(jr st.hp ord kp ord.length ord).2.length) live).2):=by
  intro k b hb;refine ⟨(mG k).trans hb,?_⟩;simp only[β'];rw[dq]
 have HB:ry ((jr st.hp ord kp ord.length ord).2++(pR st.hp ord st.sl (ord.length+(jr st.hp ord kp ord.length ord).2.length) live).2):=aci.app acg;have tI: ∀(j:Nat) id,ord[j]? =some id→β' j=β id:=by
  intro j id hj;simp only[β'];rw[aB (cz.1 hj).1,hj];rfl
 have u6: ∀(j:Nat) id,ord[j]? =some id→∃n',pg hp' β' n' (gA st.hp ord kp n' id).2∧hp' j=some (gA st.hp ord kp n' id).1:=by
  intro j id hj;obtain ⟨n',h1,h2⟩:=ack (hp:=st.hp) (hp':=hp') (β':=β') (ord:=ord) (kp:=kp) (n:=ord.length) hj;exact ⟨n',h1 hF.left,(n9 j (cz.1 hj).1).trans h2⟩
 have hR:DC st.hp β ord hp' β':=by
  refine ⟨fun j id e es fz hj ae=> ?_,fun j id T cs hj ae=> ?_,fun j id hj ae=> ?_,fun j id e es vs i hj ae=> ?_,tI,fun j id e es vers hj ae=> ?_,fun j id t es hj ae=> ?_⟩
  ·obtain ⟨n',_,h2⟩:=u6 j id hj;rw[h2];simp only[gA,ae]
  ·obtain ⟨n',_,h2⟩:=u6 j id hj;rw[h2];simp only[gA,ae];exact ⟨_,rfl⟩
  ·obtain ⟨n',_,h2⟩:=u6 j id hj;rw[h2];simp only[gA,ae]
  ·obtain ⟨n',_,h2⟩:=u6 j id hj;rw[h2];simp only[gA,ae]
  ·obtain ⟨n',_,h2⟩:=u6 j id hj;rw[h2];simp only[gA,ae]
  ·obtain ⟨n',_,h2⟩:=u6 j id hj;rw[h2];simp only[gA,ae]
 have cls: ∀j blk',hp' j=some blk'→(∃id,ord[j]? =some id∧((blk'= .dead)∨∃blk,st.hp id=some blk∧blk≠ .dead∧∀o b,bf P w o blk' b→bf P w o blk b))∨(∃e,blk'= .arr e [] false∧β' j=none):=by
  intro j blk' hj;rcases jD j ord.length with h|h
  ·have fY:=bY h;obtain ⟨n',_,h2⟩:=u6 j _ fY;rw[hj] at h2;refine .inl ⟨_,fY,?_⟩;cases ae:st.hp ord[j] with
   | none=>left;simp only[gA,ae] at h2;exact dN h2
   | some blk=>
    cases blk with
    | dead=>left;simp only[gA,ae] at h2;exact dN h2
    | out _ _ _ _=>left;simp only[gA,ae] at h2;exact dN h2
    | var T0 cs=>exact .inr ⟨_,rfl,by simp,fun o b h=>by simp only[gA,ae] at h2;rw[dN h2] at h;exact .root (by simp) (h.flat (by simp))⟩
    | arr e es fz=>exact .inr ⟨_,rfl,by simp,fun o b h=>by simp only[gA,ae] at h2;rw[dN h2] at h;exact .root (by simp) (h.flat (by simp))⟩
    | map t es=>exact .inr ⟨_,rfl,by simp,fun o b h=>by simp only[gA,ae] at h2;rw[dN h2] at h;exact .root (by simp) (h.flat (by simp))⟩
    | nest e es vers=>
     refine .inr ⟨_,rfl,by simp,fun o b h=> ?_⟩;simp only[gA,ae] at h2;rw[dN h2] at h;cases h with
     | root _ h=>exact .root (by simp) h
     | row h1 h2=>exact .row h1 h2
  ·obtain ⟨k,rfl⟩: ∃k,j=ord.length+k:=⟨j-ord.length,by omega⟩
   rw[mG] at hj;obtain ⟨e,he⟩:=HB _ (mN hj);exact .inr ⟨e,he,(hF k _ hj).2⟩
 refine ⟨β',⟨⟨fun j blk' hj=> ?_,fun j1 j2 b1 b2 b e1 e2 f1 f2=> ?_,fun j blk b e1 f1=> ?_,S.h.jY⟩,S.cM,S.size,S.new,S.io⟩,⟨fun k=> ?_,hA.size,hA.defers,hA.aE⟩,⟨hE.en,hE.cM,fun id blk ae=> ?_,fun id blk blk' b ae bX hd hb=> ?_⟩⟩
 ·change hp' j=some blk' at hj;rcases jD j ord.length with h|h
  ·have fY:=bY h;obtain ⟨n',hF',h2⟩:=u6 j _ fY;rw[hj] at h2;rw[tI j _ fY];cases ae:st.hp ord[j] with
   | none=>simp only[gA,ae] at h2;rw[dN h2];exact .dead
   | some blk=>
    have hr:=S.h.rel _ _ ae;generalize β ord[j]=o at hr;cases hr with
    | dead=>simp only[gA,ae] at h2;rw[dN h2];exact .dead
    | out=>simp only[gA,ae] at h2;rw[dN h2];exact .dead
    | eF hb=>simp only[gA,ae] at h2;rw[dN h2];exact .eF hb
    | arr a0 a1 a2 a3 a4 a5 a6 a7=>simp only[gA,ae] at h2;rw[dN h2];exact .arr a0 a1 a2 a3 a4 a5 a6 a7
    | nest a1 a2 a3=>simp only[gA,ae] at h2;rw[dN h2];exact .nest a1 a2 a3
    | ji a1=>simp only[gA,ae] at h2;rw[dN h2];exact .ji a1
    | map a1 a2 a3 a4 a5 a6 a7=>simp only[gA,ae] at h2;rw[dN h2];exact .map a1 a2 a3 a4 a5 a6 a7
    | @var xs b Ca T hb hh hs di hx iT=>
     simp only[gA,ae] at h2 hF';rw[dN h2];exact .var hb hh (by rw[Nn];exact hs) di (fun i v y hi hy=>No S hT hR (vs:=Ca.toList) (fun i v x hi dd=>hx i v x (by simpa using hi) dd) hF' i v y (by simpa using hi) hy) iT
  ·rcases cls j blk' hj with ⟨id,ae,_⟩|⟨e,he,hb⟩
   ·have:=(cz.1 ae).1;omega
   ·rw[he];exact .eF hb
 ·rcases cls j1 b1 e1 with ⟨dt,o1,x1⟩|⟨e,_,hb⟩
  ·rcases cls j2 b2 e2 with ⟨aH,o2,x2⟩|⟨e,_,hb⟩
   ·obtain ⟨c1,y1,z1,g1⟩:=x1.resolve_left f1.alive;obtain ⟨c2,y2,z2,g2⟩:=x2.resolve_left f2.alive;rw[tI _ _ o1] at f1;rw[tI _ _ o2] at f2;have:=S.h.inj dt aH c1 c2 b y1 y2 (g1 _ _ f1) (g2 _ _ f2);subst this;obtain ⟨q1,q2⟩:=cz.1 o1;obtain ⟨q3,q4⟩:=cz.1 o2;exact (List.getElem_inj s7).1 (q2.trans q4.symm)
   ·subst ‹b2=_›;have:=f2.flat (by simp);rw[hb] at this;cases this
  ·subst ‹b1=_›;have:=f1.flat (by simp);rw[hb] at this;cases this
 ·rcases cls j blk e1 with ⟨dt,o1,x1⟩|⟨e,_,hb⟩
  ·obtain ⟨c1,y1,z1,g1⟩:=x1.resolve_left f1.alive;rw[tI _ _ o1] at f1;exact S.h.own dt c1 b y1 (g1 _ _ f1)
  ·subst ‹blk=_›;have:=f1.flat (by simp);rw[hb] at this;cases this
 ·change aj P w I β' hp' (a.tmps.getD k undef) (mU _ k);unfold mU;cases GS:fL (pR st.hp ord st.sl (ord.length+(jr st.hp ord kp ord.length ord).2.length) live).1 k with
  | none=>exact .undef
  | some y=>
   obtain ⟨n',h1,h2⟩:=ach hF.right GS;simp only[Option.getD_some,h2];exact anN S hT hR (hA.sl k) h1
 ·obtain ⟨uX,k1,k2,k3⟩:=hE.blk id blk ae;rcases HE id (hm id blk ae) with ho|⟨p,ho,bL⟩
  ·cases uX with
   | dead=>exact ⟨.dead,hR.dead id id ho k1,k2,fun h=>absurd rfl h⟩
   | out e es vs i=>exact ⟨.dead,hR.out id id _ _ _ _ ho k1,by cases blk<;>trivial,fun h=>absurd rfl h⟩
   | var T0 cs=>
    obtain ⟨lM,h'⟩:=hR.var id id T0 cs ho k1;refine ⟨_,h',?_,fun _=>(tI id id ho).trans (k3 (by simp))⟩;cases blk<;>simp_all [ah.le]
   | arr e es fz=>exact ⟨_,hR.arr id id e es fz ho k1,k2,fun _=>(tI id id ho).trans (k3 (by simp))⟩
   | map t es=>exact ⟨_,hR.map id id t es ho k1,k2,fun _=>(tI id id ho).trans (k3 (by simp))⟩
   | nest e es vers=>
    refine ⟨_,hR.nest id id e es vers ho k1,?_,fun _=>(tI id id ho).trans (k3 (by simp))⟩;rcases ah.XV k2 with ⟨MI,anR,rfl,l1,l2,_⟩|⟨MI,anR,i0,rfl,l1,l2,_⟩
    ·exact ⟨rfl,l1,by simpa using l2,fun k=>by rw[mH id _ _ _ (.inl ae) k];exact mi _⟩
    ·exact ⟨rfl,l1,by simpa using l2,fun k=>by rw[mH id _ _ _ (.inr ⟨_,ae⟩) k];exact mi _⟩
  ·obtain ⟨n',_,h2⟩:=u6 id p ho;simp only[gA,bL] at h2;exact ⟨.dead,h2,by cases blk<;>trivial,fun h=>absurd rfl h⟩
 ·obtain ⟨uX,k1,k2,k3⟩:=hE.blk id blk ae;rcases HE id (hm id blk ae) with ho|⟨p,ho,bL⟩
  ·refine hE.size id blk uX b ae k1 (fun wJ=> ?_) hb;subst wJ;have:=hR.dead id id ho k1;change hp' id=some blk' at bX;rw[this] at bX;exact hd (dN bX).symm
  ·obtain ⟨n',_,h2⟩:=u6 id p ho;simp only[gA,bL] at h2;change hp' id=some blk' at bX;rw[h2] at bX;exact absurd (dN bX).symm hd
theorem anS {n m:Nat} {live:List Nat} {a:Act} {st:St} (S:aA P w I β st.hp B M w0) (hT:uv P I β st.hp) (hA:ja P E G w I β n a st) (hE:pd w0.w w0.I μ hp0 w I β st.hp) (hm: ∀id blk,hp0 id=some blk→id<m) (mH:Ar hp0):
  ∃β',aA P w I β' (canon m live st).hp B M w0∧ja P E G w I β' n a (canon m live st)∧pd w0.w w0.I μ hp0 w I β' (canon m live st).hp:=by
 obtain ⟨t,HE,s7⟩:=anP (m:=m) (live:=live) (st:=st);refine acn (by rw[HE];exact s7) (fun id aP=> .inl ?_) S hT hA hE hm mH;rw[HE,nz (by simpa using aP)];simp[aP]
theorem aco: ∀{l:List Nat},sQ l=true→l.Nodup
 | [],_=> .nil
 | a::l,h=>by
  simp only[sQ,aJ,nw] at h;rw[List.nodup_cons];exact ⟨fun hm=>Bool.noConfusion ((zs hm).symm.trans h.1),aco h.2⟩
theorem anT {m:Nat} {mv:List Nat} {id:Nat} (h:id<m):(qL m mv)[id]? =some id∨(qL m mv)[id]? =some (m+id):=by
 unfold qL;rw[nz (by simpa using h),ki];simp only[BH h,Option.map_some];cases iO mv id with
 | true=>exact .inr rfl
 | false=>exact .inl rfl
end
section
variable {P:Program} {A:dr} {w w':World} {I I' I2:Nat→Nat→Prop} {μ β β':Nat→Option Nat} {hp hp' hp0:Nat→Option ah} {C:af} {B:Nat} {M:Nat→Prop} {w0:Start}
theorem Np (p:Nat→Prop) (h: ∃n,p n): ∃n,p n∧∀m,p m→n≤m:=by
 obtain ⟨n,hn⟩:=h
 induction n using Nat.strongRecOn with
 | _ n ih=>
  by_cases hx: ∃m,m<n∧p m
  ·obtain ⟨m,hm,hp⟩:=hx;exact ih m hm hp
  ·exact ⟨n,hn,fun m hm=>Nat.le_of_not_lt fun aP=>hx ⟨m,aP,hm⟩⟩
open Classical in
theorem anU {c:Code} {Q:Exit→Act→World→Prop} (J:Nat→Act→World→Prop) (h0: ∀a w,¬J 0 a w) (round: ∀n a w,J (n+1) a w→c.wp P (Exit.then (J n) Q) a w) {n:Nat} {a:Act} {w:World} (h:J n a w):
  (Code.loop c).wp P Q a w:=by
 refine wp_loop (fun a w=> ∃n,J n a w) (fun a w=>if h: ∃n,J n a w then (Np _ h).choose else 0) ⟨n,h⟩ fun a w hJ=> ?_;obtain ⟨h1,h2⟩:=(Np _ hJ).choose_spec;generalize hk:(Np _ hJ).choose=k at h1 h2;cases k with
 | zero=>exact absurd h1 (h0 a w)
 | succ k=>
  refine wp_mono (round k a w h1) fun e a' w' he=> ?_;cases e with
  | normal=>
   have hex: ∃n,J n a' w':=⟨k,he⟩
   refine ⟨hex,?_⟩;have h3:=(Np _ hex).choose_spec.2 k he;rw[xl hex,xl hJ,hk];omega
  | _=>exact he
def DD:Out→Exit
 | .norm=> .normal
 | .exit id=> .exit id
 | .ret=> .ret
def Inv (P:Program) (E:FuncId→Bool) (G:Nat→V) (B:Nat) (M:Nat→Prop) (w0:Start) (μ:Nat→Option Nat) (hp0:Nat→Option ah) (n:Nat) (a:Act) (w:World) (st:St):Prop:=
 ∃I β,aA P w I β st.hp B M w0∧ja P E G w I β n a st∧pd w0.w w0.I μ hp0 w I β st.hp
theorem Inv.canon {E:FuncId→Bool} {G:Nat→V} {n m:Nat} {a:Act} {st:St} {live:List Nat} (h:Inv P E G B M w0 μ hp0 n a w st) (hm: ∀id blk,hp0 id=some blk→id<m) (mH:Ar hp0):Inv P E G B M w0 μ hp0 n a w (canon m live st):=by
 obtain ⟨I0,β,S,hA,hE⟩:=h;obtain ⟨I,h1,S,hA,hT⟩:=ab7 S hA;obtain ⟨β',a,b,c⟩:=anS (live:=live) S hT hA (hE.trans h1.Ds) hm mH;exact ⟨I,β',a,b,c⟩
theorem Nq: ∀{l:List BS} {ds:List V},(ij l ds).length=l.length
 | [],_=>rfl
 | b::l,ds=>by simp only[ij,List.length_cons,Nq]
theorem Inv.enter {A:dr} {E:FuncId→Bool} {G:Nat→V} {n f:Nat} {ds:List V} {a:Act} (oM:sQ (qL (A.sin f).cX.length (A.mv f))=true) (h:Inv P E G B M w0 μ hp0 n a w (bM (A.sin f) ds)) (hm: ∀id blk,hp0 id=some blk→id<(A.sin f).cX.length)
  (mH:Ar hp0) (acp: ∀p,(A.sin f).cX.length≤p→(bM (A.sin f) ds).hp p=none):Inv P E G B M w0 μ hp0 n a w (Fb A f ds):=by
 unfold Fb;split
 ·exact h
 ·obtain ⟨I0,β,S,hA,hE⟩:=h;obtain ⟨I,h1,S,hA,hT⟩:=ab7 S hA;obtain ⟨β',x,y,z⟩:=acn (kp:=[]) (m:=(A.sin f).cX.length) (ord:=qL (A.sin f).cX.length (A.mv f)) (live:=(A.sin f).cu.map (·.1)) (aco oM) (fun id ae=>(anT ae).imp (fun h=>h) fun h=>⟨_,h,acp _ (by omega)⟩) S hT hA (hE.trans h1.Ds) hm mH;exact ⟨I,β',x,y,z⟩
theorem Inv.reshape {E:FuncId→Bool} {G:Nat→V} {n m:Nat} {a:Act} {st:St} {S:Shape} {ds:List V} (h:Inv P E G B M w0 μ hp0 n a w st) (hs:mj m S st=some ds) (hm: ∀id blk,hp0 id=some blk→id<m):Inv P E G B M w0 μ hp0 n a w (bM S ds):=by
 obtain ⟨I,β,S1,hA,hE⟩:=h;obtain ⟨r1,r2,_,r4⟩:=AM.reshape hs S1;refine ⟨I,β,r1,⟨fun k=>r2 k _ (hA.sl k),hA.size,hA.defers,hA.aE⟩,⟨hE.en,hE.cM,fun id blk ae=> ?_,fun id blk blk' b ae bX hd hb=> ?_⟩⟩
 ·obtain ⟨uX,k1,k2,k3⟩:=hE.blk id blk ae;obtain ⟨_,hle,_⟩:=abf hs;have hl:=hm id blk ae;obtain ⟨cD,h2⟩: ∃cD,(bM S ds).hp id=some cD:=by
   simp only[bM,mk,ln];exact ⟨_,bY (by rw[Nq];omega)⟩
  by_cases hd:cD= .dead
  ·subst hd;exact ⟨_,h2,by cases blk<;>trivial,fun h=>absurd rfl h⟩
  ·obtain ⟨kX,e1,e2,_⟩:=r4 id cD h2 hd;rw[k1] at e1;cases e1;exact ⟨_,h2,ah.le_trans k2 e2,fun _=>k3 (fun e=>hd (ah.uq (e▸e2)))⟩
 ·obtain ⟨kX,e1,e2,_⟩:=r4 id blk' bX hd;exact hE.size id blk kX b ae e1 (fun e=>hd (ah.uq (e▸e2))) hb
theorem pe.here (h:pe P A C) (f:Nat) (id:Nat):pe P (A.here f id) C:=by
 intro key ds es hh;obtain ⟨fn,c,h1,h2,h3⟩:=h key ds es hh;refine ⟨fn,c,h1,h2,fun w I μ vals a g b d=>(h3 w I μ vals a g b d).mono fun e w' hx=> ?_⟩;obtain ⟨v,I2,cF,q1,q2⟩:=hx;exact ⟨v,I2,cF,q1,⟨q2.Dt,q2.le,q2.res⟩⟩
theorem anV {a b:Out} (h:KM a b=true):a=b:=by
 cases a<;>cases b<;>simp[KM] at h<;>first|rfl|(subst h;rfl)
theorem acq {m:Nat} {r:Out×St}: ∀{l:List (Out×Shape)} {j:Nat} {e:Nat×List V},ways m j l r=some e→j≤e.1
 | [],j,e,h=>by cases h
 | (o,S)::l,j,e,h=>by
  simp only[ways] at h;split at h
  ·cases h;exact aw _
  ·have:=acq h;omega
theorem Ti {m:Nat} {o:Out} {s:St} {out:Out} {st':St}: ∀{l:List (Out×Shape)} {k:Nat} {e:Nat×List V},ways m k l (o,s)=some e→ow k l e.1 e.2 (fun o st=>some (o,st))=some (out,st')→
  out=o∧∃S,mj m S s=some e.2∧st'=bM S e.2
 | [],k,e,h,_=>by cases h
 | (o',S)::l,k,e,h,h2=>by
  simp only[ways] at h;split at h
  ·rename_i ds hx;cases h;cases ho:KM o' o with
   | false=>rw[ho] at hx;cases hx
   | true=>
    rw[ho] at hx;have:=anV ho;subst this;cases l with
    | nil=>
     simp only[ow,fk,nA] at h2;exact ⟨h2.1.symm,S,hx,h2.2.symm⟩
    | cons p l=>
     simp only[ow,ot,cond_true,fk,nA] at h2;exact ⟨h2.1.symm,S,hx,h2.2.symm⟩
  ·have rj:=acq h;cases l with
   | nil=>cases h
   | cons p l=>
    have bp:Nat.beq e.1 k=false:=by
     cases hb:Nat.beq e.1 k with
     | false=>rfl
     | true=>rw[aL] at hb;omega
    simp only[ow,bp,cond_false] at h2;exact Ti h h2
theorem anW (hC:pe P A C) (hP:lr P A) (nP:P.follows .mixedOrders=true) {f n m:Nat} (hm: ∀id blk,hp0 id=some blk→id<m) (mH:Ar hp0):
  ∀(c:Code) {st st':St} {out:Out} {Q:Exit→Act→World→Prop} {a:Act} {w:World},exec P A C f n m c st=some (out,st')→Inv P A.idle A.aE B M w0 μ hp0 n a w st→
   (∀a' w',Inv P A.idle A.aE B M w0 μ hp0 n a' w' st'→Q (DD out) a' w')→c.wp P Q a w:=by
 intro c
 induction c with
 | skip=>
  intro st st' out Q a w h hI hQ;simp only[exec,fk,nA] at h;obtain ⟨rfl,rfl⟩:=h;exact wp_skip (hQ a w hI)
 | exit id=>
  intro st st' out Q a w h hI hQ;simp only[exec,fk,nA] at h;obtain ⟨rfl,rfl⟩:=h;exact wp_exit (hQ a w hI)
 | ret=>
  intro st st' out Q a w h hI hQ;simp only[exec,fk,nA] at h;obtain ⟨rfl,rfl⟩:=h;exact wp_ret (hQ a w hI)
 | region id ops draw=>
  intro st st' out Q a w h hI hQ;simp only[exec] at h;obtain ⟨kC,h1,h2⟩:=bind_some h;simp only[fk,nA] at h2;obtain ⟨rfl,rfl⟩:=h2;obtain ⟨I,β,S,hA,hE⟩:=hI;refine anI (hC.here f id) (hP.here f id) nP h1 S hA fun a' w' I' β' k1 k2 k3=> ?_;obtain ⟨I2,cF,l1,l2,l3⟩:=ab9 (m:=m) (pur:=A.pur f id) k2 k3;have hE2:=(hE.trans k1.Ds).trans l1.Ds;exact hQ a' w' (Inv.canon ⟨I2,cF,l2,l3,hE2⟩ hm mH)
 | seq x y jI jJ=>
  intro st st' out Q a w h hI hQ;simp only[exec] at h;obtain ⟨⟨o1,kC⟩,h1,h2⟩:=bind_some h;refine wp_seq (jI h1 hI fun a' w' gN=> ?_);cases o1 with
  | norm=>exact jJ h2 gN hQ
  | exit id=>
   simp only[fk,nA] at h2;obtain ⟨rfl,rfl⟩:=h2;exact hQ a' w' gN
  | ret=>
   simp only[fk,nA] at h2;obtain ⟨rfl,rfl⟩:=h2;exact hQ a' w' gN
 | cond c x y jI jJ=>
  intro st st' out Q a w h hI hQ;cases c with
  | tmp t=>
   have go: ∀{st st':St} {out:Out} {Q:Exit→Act→World→Prop} {a:Act} {w:World},(match st.sl t with
     | .bool b=>(bif b then exec P A C f n m x st else exec P A C f n m y st).bind fun r=>
      match r.1 with
      | .norm=>some (.norm,AM.canon m (A.join f t) r.2)
      | _=>some r
     | _=>none)=some (out,st')→Inv P A.idle A.aE B M w0 μ hp0 n a w st→(∀a' w',Inv P A.idle A.aE B M w0 μ hp0 n a' w' st'→Q (DD out) a' w')→(Code.cond (.tmp t) x y).wp P Q a w:=by
    intro st st' out Q a w h hI hQ;cases hs:st.sl t<;>rw[hs] at h<;>simp only at h<;>first|(cases h;done)|skip
    rename_i b;obtain ⟨⟨o1,kC⟩,h1,h2⟩:=bind_some h;obtain ⟨I,β,S,hA,hE⟩:=hI;have gU:a.eval (.tmp t)= .bool b:=by
     have:=abK hA hs;simp[Act.eval,this]
    have fin: ∀a' w',Inv P A.idle A.aE B M w0 μ hp0 n a' w' kC→Q (DD o1) a' w':=by
     intro a' w' gN;cases o1 with
     | norm=>
      simp only[fk,nA] at h2;obtain ⟨rfl,rfl⟩:=h2;exact hQ a' w' (gN.canon hm mH)
     | exit id=>
      simp only[fk,nA] at h2;obtain ⟨rfl,rfl⟩:=h2;exact hQ a' w' gN
     | ret=>
      simp only[fk,nA] at h2;obtain ⟨rfl,rfl⟩:=h2;exact hQ a' w' gN
    refine wp_cond gU ?_;cases b with
    | true=>exact jI h1 ⟨I,β,S,hA,hE⟩ fin
    | false=>exact jJ h1 ⟨I,β,S,hA,hE⟩ fin
   simp only[exec] at h;split at h
   ·exact go h hI hQ
   ·obtain ⟨ds,h1,h2⟩:=bind_some h;obtain ⟨e,h3,h4⟩:=bind_some h2;obtain ⟨⟨o1,s1⟩,h5,h6⟩:=bind_some h3;obtain ⟨rfl,S',k1,rfl⟩:=Ti h6 h4;exact go h5 (hI.reshape h1 hm) fun a' w' gN=>hQ a' w' (gN.reshape k1 hm)
  | const v=>
   cases v with
   | bool b=>
    simp only[exec] at h;refine wp_cond (t:=b) rfl ?_;cases b with
    | true=>exact jI h hI hQ
    | false=>exact jJ h hI hQ
   | _=>simp only[exec] at h;cases h
  | _=>simp only[exec] at h;cases h
 | block id c ih=>
  intro st st' out Q a w h hI hQ;simp only[exec] at h;obtain ⟨⟨o1,kC⟩,h1,h2⟩:=bind_some h;refine wp_block (ih h1 hI fun a' w' gN=> ?_);cases o1 with
  | norm=>
   simp only[fk,nA] at h2;obtain ⟨rfl,rfl⟩:=h2;exact hQ a' w' (gN.canon hm mH)
  | exit ar=>
   simp only at h2;cases hb:Nat.beq ar id with
   | true=>
    rw[hb] at h2;simp only[cond_true,fk,nA] at h2;obtain ⟨rfl,rfl⟩:=h2;rw[aL] at hb;simp only[DD,Exit.inBlock,hb,pD];exact hQ a' w' (gN.canon hm mH)
   | false=>
    rw[hb] at h2;simp only[cond_false,fk,nA] at h2;obtain ⟨rfl,rfl⟩:=h2;have bp:ar≠id:=fun e=>by rw[e,ot] at hb;cases hb
    simp only[DD,Exit.inBlock,bp,qG];exact hQ a' w' gN
  | ret=>
   simp only[fk,nA] at h2;obtain ⟨rfl,rfl⟩:=h2;exact hQ a' w' gN
 | loop c ih=>
  intro st st' out Q a w h hI hQ;simp only[exec] at h;split at h
  ·cases h
  ·rename_i S hS;obtain ⟨ds,h1,h2⟩:=bind_some h;obtain ⟨e,h3,h4⟩:=bind_some h2;obtain ⟨k,hk⟩:=BR h3;refine anU (J:=fun k a w=> ∃ds,Inv P A.idle A.aE B M w0 μ hp0 n a w (bM S.1 ds)∧ic (fun ds=>pU m S.1 S.2 (exec P A C f n m c (bM S.1 ds))) k ds=some e) (fun a w ⟨s,_,h⟩=>by cases h) (fun k a w ⟨ds,hs,hk⟩=> ?_) ⟨ds,hI.reshape h1 hm,hk⟩;simp only[ic] at hk;obtain ⟨y,h5,h6⟩:=bind_some hk;unfold pU at h5;obtain ⟨⟨o1,s1⟩,h7,h8⟩:=bind_some h5;refine ih h7 hs fun a' w' gN=> ?_;have acr: ∀{e':Nat×List V},ways m 0 S.2 (o1,s1)=some e'→e'=e→Q (DD o1) a' w':=by
    intro e' q1 q2;subst q2;obtain ⟨rfl,S',k1,rfl⟩:=Ti q1 h4;exact hQ a' w' (gN.reshape k1 hm)
   cases o1 with
   | norm=>
    obtain ⟨ds2,q1,q2⟩:=bind_some h8;cases q2;exact ⟨ds2,gN.reshape q1 hm,h6⟩
   | exit id=>
    obtain ⟨e',q1,q2⟩:=bind_some h8;cases q2;cases h6;exact acr q1 rfl
   | ret=>
    obtain ⟨e',q1,q2⟩:=bind_some h8;cases q2;cases h6;exact acr q1 rfl
 | _=>intro st st' out Q a w h;simp only[exec] at h;cases h
end
section
variable {P:Program} {A:dr} {w w':World} {I I' I2:Nat→Nat→Prop} {μ β β' cF:Nat→Option Nat} {hp hp' hp0:Nat→Option ah} {C:af} {B:Nat} {M:Nat→Prop} {w0:Start}
theorem Nr (S:aA P w I β hp B M w0) {a:Act} {st:St} (hs:oy P w I β hp a st.sl): ∀{l:List ResultVar} {xs:List V} {rd:List Nat},(zd P st l).run C hp=some (xs,rd)→
  ∃vs:List Value,(l.mapM fun| .tmp t=>Pure.pure (a.tmps.getD t undef)| .cell x t=>do loadVar t (←asAddr (a.tmps.getD x undef)):Sem (List Value)).run P w= .ok vs w∧vs.length=xs.length∧l.length=xs.length∧
   ∀(j:Nat) v x,vs[j]? =some v→xs[j]? =some x→aj P w I β hp v x
 | [],xs,rd,h=>by
  cases h;simp_all
 | .tmp t::l,xs,rd,h=>by
  simp only[zd] at h;obtain ⟨ys,l1,l2,h1,h2⟩:=oA h;have h3:=Qs h2;subst h3;obtain ⟨vs,a1,a2,a3,a4⟩:=Nr S hs h1;refine ⟨a.tmps.getD t undef::vs,by simp_all,by simp[a2],by simp[a3],fun j v x hj hx=> ?_⟩;cases j with
  | zero=>simp at hj hx;subst hj;subst hx;have:=hs t;simp_all
  | succ j=>grind
 | .cell y t::l,xs,rd,h=>by
  simp only[zd] at h;obtain ⟨r,l1,l2,h1,h2⟩:=oA h;obtain ⟨ys,l3,l4,h3,h4⟩:=oA h2;have h5:=Qs h4;subst h5;obtain ⟨v0,b1,b2,b3,ad,b4⟩:=Yk S (hs y) h1;obtain ⟨vs,a1,a2,a3,a4⟩:=Nr S hs h3;refine ⟨v0::vs,?_,by simp[a2],by simp[a3],fun j v x hj hx=> ?_⟩
  ·have e1:(do loadVar t (←asAddr (a.tmps.getD y undef)):Sem Value).run P w= .ok v0 w:=by
    rw[b4] at b1⊢;simpa[Instr.loadAt,Instr.sureAddr,asAddr] using b1
   simp only[List.mapM_cons,Sem.run_bind,e1,Result.andThen_ok,a1,Sem.run_pure]
  grind
def As:List Value→Value
 | [v]=>v
 | l=> .tuple l.toArray
theorem anX {vs:List Value} (h:vs.length≠1):As vs= .tuple vs.toArray:=by
 match vs,h with
 | [],_=>rfl
 | [v],h=>simp at h
 | v::v2::l,_=>rfl
theorem anY {fn:Func} {a:Act} {st:St} (S:aA P w I β st.hp B M w0) (hs:oy P w I β st.hp a st.sl) {xs:List V} {rd:List Nat} (h:(zd P st fn.results.toList).run C st.hp=some (xs,rd)):
  ∃vs:List Value,(results fn a.tmps).run P w= .ok (As vs) w∧vs.length=xs.length∧
   ∀(j:Nat) v x,vs[j]? =some v→xs[j]? =some x→aj P w I β st.hp v x:=by
 obtain ⟨vs,a1,a2,_,a4⟩:=Nr S hs h;refine ⟨vs,?_,a2,a4⟩;unfold results;rw[Array.mapM_eq_mapM_toList];simp only[map_eq_pure_bind,bind_assoc,pure_bind,Sem.run_bind];refine (congrArg (fun r:Result (List Value)=>r.andThen _) a1).trans ?_;simp only[Result.andThen_ok,Sem.run_pure]
 match vs with
 | []=>simp[As]
 | [v]=>simp[As]
 | v::v2::l=>simp[As]
theorem acs: ∀{args:List V} {i k:Nat},fL (rU i args) k=if i≤k then args[k-i]? else none
 | [],i,k=>by simp[rU,fL]
 | v::vs,i,k=>by
  simp only[rU,fL];cases hb:Nat.beq k i with
  | true=>
   simp_all
  | false=>
   have bp:k≠i:=fun e=>by simp_all
   simp only[cond_false,acs];grind
theorem Tj: ∀{l:List (Nat×VS)} {ds:List V} {i k:Nat},lH i l=true→fL (jg l ds) k=if i≤k then (jG (l.map (·.2)) ds)[k-i]? else none
 | [],ds,i,k,_=>by simp[jg,jG,fL]
 | (q,s)::l,ds,i,k,h=>by
  simp only[lH,aJ,aL] at h;obtain ⟨rfl,h⟩:=h;simp only[jg,fL,lD,jG];cases hb:Nat.beq k q with
  | true=>
   simp_all
  | false=>
   have bp:k≠q:=fun e=>by simp_all
   simp only[cond_false];rw[Tj h];grind
theorem acu: ∀{l:List (Nat×VS)} {ds:List V},(jg l ds).map (·.2)=jG (l.map (·.2)) ds
 | [],_=>rfl
 | (q,s)::l,ds=>by simp only[jg,lD,jG,acu]
theorem Tk: ∀{l:List VS} {ds:List V},(jG l ds).length=l.length
 | [],_=>rfl
 | s::l,ds=>by simp only[jG,List.length_cons,Tk]
theorem acv: ∀{l:List (Nat×VS)} {ds:List V},(jg l ds).length=l.length
 | [],_=>rfl
 | (q,s)::l,ds=>by simp only[jg,List.length_cons,acv]
theorem anZ {vals:List Value} {l:List (Nat×V)} (hl:vals.length=l.length) (h: ∀(j:Nat) v y,vals[j]? =some v→(l.map (·.2))[j]? =some y→aj P w I β hp v y):aj P w I β hp (As vals) (uj l):=by
 match l,hl,h with
 | [],hl,h=>
  obtain rfl:vals=[]:=pC hl;exact .bd rfl fun j v x _ hx=>by simp at hx
 | [(k,y)],hl,h=>
  match vals,hl,h with
  | [v],_,h=>exact h 0 v y rfl rfl
 | a::b::l,hl,h=>
  have bp:vals.length≠1:=by grind
  rw[anX bp];simp only[uj];exact .bd (by simp[hl]) fun j v y hj hy=>h j v y (by grind) hy
theorem an0 {l:List BS} {ds:List V} {j:Nat} {e:TypeId} {es:List V} {vers:List Nat} (h:(ij l ds)[j]? =some (.nest e es vers)) (k:Nat):bz vers k=0:=by
 obtain ⟨b,kJ,_,h2⟩:=M8 h;cases b<;>simp only[iR] at h2<;>cases h2
 match k with
 | 0=>rfl
 | 1=>rfl
 | 2=>rfl
 | _+3=>rfl
theorem an1 {f n m:Nat} {fn:Func} {a:Act} {st:St} {es:List V} {rd:List Nat} (hm: ∀id blk,hp0 id=some blk→id<m) (mH:Ar hp0)
  (hI:Inv P A.idle A.aE B M w0 μ hp0 n a w st) (uZ:lH 0 (A.je f).cu=true) (bc:(A.je f).cu.length=fn.results.size) (h:(ze P A f fn m st).run C st.hp=some (es,rd)):
  ∃v I2 cF,(results fn a.tmps).run P w= .ok v w∧aA P w I2 cF (bM (A.so f es) (A.lv f es)).hp B M w0∧pd w0.w w0.I μ hp0 w I2 cF (bM (A.so f es) (A.lv f es)).hp∧aj P w I2 cF (bM (A.so f es) (A.lv f es)).hp v (uj (jg (A.so f es).cu (A.lv f es))):=by
 unfold ze at h;obtain ⟨xs,l1,l2,h1,h2⟩:=oA h;obtain ⟨I,β,S,hA,hE⟩:=hI;obtain ⟨vals,e1,e2,e3⟩:=anY S hA.sl h1;have e4:fn.results.size=xs.length:=by
  obtain ⟨_,_,_,q,_⟩:=Nr S hA.sl h1;omega
 have fin: ∀(Sx:Shape) (es:List V),lH 0 Sx.cu=true→Sx.cu.length=fn.results.size→mj m Sx (canon m (List.range xs.length++A.live f 9999) (freeze m (A.y7 f) ⟨mU (rU 0 xs),st.hp,st.nb⟩))=some es→
   ∃v I2 cF,(results fn a.tmps).run P w= .ok v w∧aA P w I2 cF (bM Sx es).hp B M w0∧pd w0.w w0.I μ hp0 w I2 cF (bM Sx es).hp∧aj P w I2 cF (bM Sx es).hp v (uj (jg Sx.cu es)):=by
  intro Sx es uZ bc DE;have hA0:ja P A.idle A.aE w I β vals.length ⟨vals.toArray,[]⟩ ⟨mU (rU 0 xs),st.hp,st.nb⟩:=by
   refine ⟨fun k=> ?_,by simp,by simp,hA.aE⟩;change aj P w I β st.hp _ (mU (rU 0 xs) k);unfold mU;rw[acs];simp only[mi,pD,Nat.sub_zero];cases hk:xs[k]? with
   | none=>exact .undef
   | some x=>
    have uM:k<vals.length:=by grind
    have:=e3 k vals[k] x (bY uM) hk;have e5:(vals.toArray).getD k undef=vals[k]:=by simp[uM]
    grind
  obtain ⟨I2,cF,k1,k2,k3⟩:=ab9 (st:=⟨mU (rU 0 xs),st.hp,st.nb⟩) (m:=m) (pur:=A.y7 f) S hA0;have hI2:Inv P A.idle A.aE B M w0 μ hp0 vals.length ⟨vals.toArray,[]⟩ w (freeze m (A.y7 f) ⟨mU (rU 0 xs),st.hp,st.nb⟩):=⟨I2,cF,k2,k3,hE.trans k1.Ds⟩
  obtain ⟨I3,β3,q1,q2,q3⟩:=(hI2.canon (live:=List.range xs.length++A.live f 9999) hm mH).reshape DE hm;refine ⟨As vals,I3,β3,e1,q1,q3,anZ (by rw[acv,bc,e4,e2]) fun j v y hj hy=> ?_⟩;have hv:=q2.sl j;have dk:=(cz.1 hj).1;have e5:(vals.toArray).getD j undef=v:=by
   simp_all
  change aj P w I3 β3 _ ((vals.toArray).getD j undef) (mU (jg Sx.cu _) j) at hv;rw[e5] at hv;unfold mU at hv;rw[Tj uZ] at hv;simp only[mi,pD,Nat.sub_zero] at hv;rw[acu] at hy;grind
 unfold dr.so dr.lv;cases dn:A.alt f with
 | none=>
  rw[dn] at h2;simp only at h2⊢;split at h2
  ·rename_i kJ DE;have:=aN h2;grind
  ·cases h2
 | some S2=>
  rw[dn] at h2;simp only at h2⊢;split at h2
  ·rename_i kJ DE;have:=aN h2;subst this;exact fin _ _ uZ bc DE
  ·split at h2
   ·rename_i kJ DE;obtain ⟨hc,h3⟩:=aD h2;simp only[aJ,aL] at hc;have:=aN h3;subst this;exact fin _ _ hc.1 hc.2 DE
   ·cases h2
theorem an2 (hC:pe P A C) (hP:lr P A) (nP:P.follows .mixedOrders=true):pe P A (sS P A C):=by
 intro f ds es h;unfold sS at h;cases hf:P.funcs[A.jW f]? with
 | none=>grind
 | some fn=>
  rw[hf] at h;simp only at h;cases hb:fn.body with
  | none=>grind
  | some c=>
   rw[hb] at h;simp only at h;cases hc:(lH 0 (A.sin f).cu&&(Nat.ble (A.sin f).cu.length fn.ntmps&&((A.sin f).ok&&(lH 0 (A.je f).cu&&(Nat.beq (A.je f).cu.length fn.results.size&&sQ (qL (A.sin f).cX.length (A.mv f))))))) with
   | false=>grind
   | true=>
    rw[hc] at h;simp only[cond_true] at h;simp only[aJ,aL,gx] at hc;obtain ⟨ju,hnt,_,uR,bc,oM⟩:=hc;obtain ⟨⟨out,st'⟩,h1,h2⟩:=bind_some h;refine ⟨fn,c,rfl,hb,fun w I μ vals hH RE hl hv=> ?_⟩;have an3:(∀id,out≠ .exit id)∧∃rd,(ze P A f fn (A.sin f).cX.length st').run C st'.hp=some (es,rd):=by
     cases out with
     | exit id=>cases h2
     | norm=>
      simp_all
     | ret=>
      simp_all
    obtain ⟨bp,rd,SM⟩:=an3;refine calls_of_wp_defers hf hb ?_;have hm: ∀id blk,(bM (A.sin f) ds).hp id=some blk→id<(A.sin f).cX.length:=by
     intro id blk ae;simp only[bM,mk,ln] at ae;have:=(cz.1 ae).1;rwa [Nq] at this
    have mH:Ar (bM (A.sin f) ds).hp:=by
     intro id e es vers ae k;simp only[bM,mk,ln] at ae;rcases ae with ae|⟨i,ae⟩
     ·exact an0 ae k
     ·obtain ⟨b,_,_,h⟩:=M8 ae;cases b<;>cases h
    refine anW (w0:=⟨w,I⟩) (μ:=μ) (hp0:=(bM (A.sin f) ds).hp) (B:=w.heap.size) (M:=tH P w μ (bM (A.sin f) ds).hp) hC hP nP hm mH c h1 ?_ ?_
    ·refine Inv.enter oM ?_ hm mH fun p hp=>by
      simp only[bM,mk,ln];rw[List.getElem?_eq_none_iff,Nq];exact hp
     refine ⟨I,μ,⟨hH,fun _ _ _=>rfl,aw _,fun b j h=> .inl h,⟨rfl,rfl⟩⟩,⟨fun k=> ?_,?_,by simp,RE⟩,(Le.refl (P:=P) w I μ _).Ds⟩
     ·change aj P w I μ _ _ (mU (jg (A.sin f).cu ds) k);unfold mU;rw[Tj ju];simp only[mi,pD,Nat.sub_zero];cases hk:(jG ((A.sin f).cu.map (·.2)) ds)[k]? with
      | none=>exact .undef
      | some x=>
       have uM:k<vals.length:=by
        have:=(cz.1 hk).1;rw[Tk,dE] at this;omega
       have:=hv k vals[k] x (bY uM) hk;have e1:(vals.toArray++Array.replicate (fn.ntmps-vals.toArray.size) undef).getD k undef=vals[k]:=by
        simp[Array.getElem?_append,uM]
       grind
     grind
    ·intro a' w' hI;obtain ⟨v,I2,cF,q1,q2,q3,q4⟩:=an1 hm mH hI uR bc SM;obtain ⟨_,_,_,hA,_⟩:=hI;cases out with
     | exit id=>grind
     | norm=>exact S5 hP q1 ⟨v,I2,cF,rfl,q2,q3,q4⟩ _ hA.defers
     | ret=>exact S5 hP q1 ⟨v,I2,cF,rfl,q2,q3,q4⟩ _ hA.defers
theorem acw (hP:lr P A) (nP:P.follows .mixedOrders=true): ∀n,pe P A (ox P A n)
 | 0=>fun _ _ _ h=>by cases h
 | n+1=>an2 (acw hP nP n) hP nP
theorem an4 (hP:lr P A) (nP:P.follows .mixedOrders=true):pe P A (Call P A):=by
 intro f ds es h;have hn: ∃n,ox P A n f ds=some es:=by
  unfold Call at h;split at h
  all_goals grind
 obtain ⟨n,hn⟩:=hn;exact acw hP nP n f ds es hn
end
section
variable {P:Program} {A:dr} {C:af} {D:Nat→af}
def HF (C:af) (D:Nat→af):Prop:= ∀f a r,C f a=some r→∃n,∀k,n≤k→D k f a=some r
theorem u7 {α:Type} (h:HF C D) {hp:Nat→Option ah}: ∀{p:Rd α} {r:α×List Nat},p.run C hp=some r→∃n,∀k,n≤k→p.run (D k) hp=some r
 | .ret a,r,e=>⟨0,fun _ _=>e⟩
 | .fail,r,e=>by cases e
 | .get id q,r,e=>by
  obtain ⟨x,h1,h2⟩:=bind_some e;obtain ⟨n,hn⟩:=u7 h h1;exact ⟨n,fun k hk=>by simp only[Rd.run,hn k hk,Option.bind_some];exact h2⟩
 | .opt o q,r,e=>by
  obtain ⟨x,h1,h2⟩:=bind_some e;obtain ⟨n,hn⟩:=u7 h h2;exact ⟨n,fun k hk=>by simp only[Rd.run,h1,Option.bind_some];exact hn k hk⟩
 | .live id ok q,r,e=>by
  simp only[Rd.run] at e;cases hk:ok (jV (hp id)) with
  | false=>rw[hk] at e;cases e
  | true=>
   rw[hk] at e;obtain ⟨x,h1,h2⟩:=bind_some e;obtain ⟨n,hn⟩:=u7 h h1;exact ⟨n,fun k DA=>by simp only[Rd.run,hk,cond_true,hn k DA,Option.bind_some];exact h2⟩
 | .az b q,r,e=>by
  obtain ⟨h1,h2⟩:=aD e;obtain ⟨n,hn⟩:=u7 h h2;exact ⟨n,fun k hk=>by simp only[Rd.run,h1,cond_true];exact hn k hk⟩
 | .call f a q,r,e=>by
  obtain ⟨x,h1,h2⟩:=bind_some e;obtain ⟨n1,ju⟩:=h f a x h1;obtain ⟨n2,uR⟩:=u7 h h2;exact ⟨max n1 n2,fun k hk=>by simp only[Rd.run,ju k (by omega),Option.bind_some];exact uR k (by omega)⟩
 | .alt true x y,r,e=>u7 (p:=x) h e
 | .alt false x y,r,e=>u7 (p:=y) h e
theorem an5 (h:HF C D) {n i nb:Nat} {ops:Array Oper} {o:Oper} {st:St} {r:St×List Nat×List Nat} (e:kS P A C n ops i o nb st=some r): ∃N,∀k,N≤k→kS P A (D k) n ops i o nb st=some r:=by
 unfold kS at e;have go:(((jq P A st.sl i (nb+64*i) o).run C st.hp).bind fun r=>some ((⟨lG st.sl o.dst r.1.v,cb st.hp r.1.upd,st.nb⟩:St),vN r.2 r.1.upd,jH st.hp r.1.upd))=some r→
   ∃N,∀k,N≤k→(((jq P A st.sl i (nb+64*i) o).run (D k) st.hp).bind fun r=>some ((⟨lG st.sl o.dst r.1.v,cb st.hp r.1.upd,st.nb⟩:St),vN r.2 r.1.upd,jH st.hp r.1.upd))=some r:=by
  intro e;obtain ⟨x,h1,h2⟩:=bind_some e;obtain ⟨N,hN⟩:=u7 h h1;exact ⟨N,fun k hk=>by rw[hN k hk];exact h2⟩
 unfold kS;cases hd:xH o n with
 | false=>rw[hd] at e;cases e
 | true=>
  rw[hd] at e;simp only[cond_true] at e⊢;cases hg:o.guard with
  | none=>rw[hg] at e;exact go e
  | some gw=>
   obtain ⟨g,want⟩:=gw;rw[hg] at e;simp only at e⊢;cases qs:(ops[g]?).bind (·.dst) with
   | none=>rw[qs] at e;cases e
   | some d=>
    rw[qs] at e;simp only at e⊢;cases rv:pJ (st.sl d) with
    | none=>rw[rv] at e;cases e
    | some ob=>
    rw[rv] at e;cases ob with
    | none=>exact ⟨0,fun _ _=>e⟩
    | some b=>
    simp only at e⊢;cases hb:b==want with
    | true=>rw[hb] at e;exact go e
    | false=>rw[hb] at e;exact ⟨0,fun _ _=>e⟩
theorem acx (h:HF C D) {n nb:Nat} {ops:Array Oper}: ∀{l:List (Nat×Oper)} {st:St} {log:Log} {r:St×Log},uk P A C n ops nb l st log=some r→∃N,∀k,N≤k→uk P A (D k) n ops nb l st log=some r
 | [],st,log,r,e=>⟨0,fun _ _=>e⟩
 | (i,o)::l,st,log,r,e=>by
  obtain ⟨x,h1,h2⟩:=bind_some e;obtain ⟨N1,tJ⟩:=an5 h h1;obtain ⟨N2,wK⟩:=acx h h2;exact ⟨max N1 N2,fun k hk=>by simp only[uk,tJ k (by omega),Option.bind_some];exact wK k (by omega)⟩
theorem acy {X R:Type} {step:X→Option (X ⊕ R)} {stepD:Nat→X→Option (X ⊕ R)} (hs: ∀x y,step x=some y→∃N,∀k,N≤k→stepD k x=some y): ∀(n:Nat) (x:X) (r:R),ic step n x=some r→∃N,∀k,N≤k→ic (stepD k) n x=some r
 | 0,x,r,e=>by cases e
 | n+1,x,r,e=>by
  simp only[ic] at e⊢;obtain ⟨y,h1,h2⟩:=bind_some e;obtain ⟨N1,tJ⟩:=hs x y h1;cases y with
  | inl z=>
   obtain ⟨N2,wK⟩:=acy hs n z r h2;exact ⟨max N1 N2,fun k hk=>by rw[tJ k (by omega)];exact wK k (by omega)⟩
  | inr q=>exact ⟨N1,fun k hk=>by rw[tJ k hk];exact h2⟩
theorem an6 (h:HF C D) {f n m:Nat}: ∀(c:Code) {st:St} {r:Out×St},exec P A C f n m c st=some r→∃N,∀k,N≤k→exec P A (D k) f n m c st=some r:=by
 intro c
 induction c with
 | skip=>exact fun e=>⟨0,fun _ _=>e⟩
 | exit id=>exact fun e=>⟨0,fun _ _=>e⟩
 | ret=>exact fun e=>⟨0,fun _ _=>e⟩
 | region id ops draw=>
  intro st r e;simp only[exec] at e⊢;obtain ⟨x,h1,h2⟩:=bind_some e;obtain ⟨y,h3,h4⟩:=bind_some h1;obtain ⟨N,hN⟩:=acx h h3;refine ⟨N,fun k hk=> ?_⟩;have:B9 P (A.here f id) (D k) n ops draw st=some x:=by
   unfold B9;rw[hN k hk];exact h4
  rw[this];exact h2
 | seq x y jI jJ=>
  intro st r e;simp only[exec] at e⊢;obtain ⟨⟨o,s1⟩,h1,h2⟩:=bind_some e;obtain ⟨N1,tJ⟩:=jI h1;cases o with
  | norm=>
   obtain ⟨N2,wK⟩:=jJ h2;exact ⟨max N1 N2,fun k hk=>by rw[tJ k (by omega)];exact wK k (by omega)⟩
  | exit id=>exact ⟨N1,fun k hk=>by rw[tJ k hk];exact h2⟩
  | ret=>exact ⟨N1,fun k hk=>by rw[tJ k hk];exact h2⟩
 | cond c x y jI jJ=>
  intro st r e;cases c with
  | tmp t=>
   have go: ∀{st:St} {r:Out×St},(match st.sl t with
     | .bool b=>(bif b then exec P A C f n m x st else exec P A C f n m y st).bind fun r=>
      match r.1 with
      | .norm=>some (.norm,canon m (A.join f t) r.2)
      | _=>some r
     | _=>none)=some r→∃N,∀k,N≤k→(match st.sl t with
     | .bool b=>(bif b then exec P A (D k) f n m x st else exec P A (D k) f n m y st).bind fun r=>
      match r.1 with
      | .norm=>some (.norm,canon m (A.join f t) r.2)
      | _=>some r
     | _=>none)=some r:=by
    intro st r e;cases hs:st.sl t<;>rw[hs] at e<;>simp only at e⊢ <;>first|(cases e;done)|skip
    rename_i b;obtain ⟨x1,h1,h2⟩:=bind_some e;cases b with
    | true=>
     obtain ⟨N,hN⟩:=jI h1;exact ⟨N,fun k hk=>by simp only[cond_true,hN k hk,Option.bind_some];exact h2⟩
    | false=>
     obtain ⟨N,hN⟩:=jJ h1;exact ⟨N,fun k hk=>by simp only[cond_false,hN k hk,Option.bind_some];exact h2⟩
   simp only[exec] at e⊢;split at e
   ·rename_i hS;obtain ⟨N,hN⟩:=go e;exact ⟨N,fun k hk=>hN k hk⟩
   ·rename_i S hS;obtain ⟨ds,h1,h2⟩:=bind_some e;obtain ⟨e',h3,h4⟩:=bind_some h2;obtain ⟨r1,h5,h6⟩:=bind_some h3;obtain ⟨N,hN⟩:=go h5;refine ⟨N,fun k hk=> ?_⟩
    try rw[hS]
    simp only[h1,Option.bind_some];exact (congrArg (fun z:Option (Out×St)=>(z.bind fun r=>ways m 0 S.2 r).bind fun e=>ow 0 S.2 e.1 e.2 fun o st=>some (o,st)) (hN k hk)).trans (by simp only[Option.bind_some,h6];exact h4)
  | const v=>
   cases v with
   | bool b=>
    simp only[exec] at e⊢;cases b with
    | true=>exact jI e
    | false=>exact jJ e
   | _=>simp only[exec] at e;cases e
  | _=>simp only[exec] at e;cases e
 | block id c ih=>
  intro st r e;simp only[exec] at e⊢;obtain ⟨x1,h1,h2⟩:=bind_some e;obtain ⟨N,hN⟩:=ih h1;exact ⟨N,fun k hk=>by rw[hN k hk];exact h2⟩
 | loop c ih=>
  intro st r e;simp only[exec] at e⊢;split at e
  ·cases e
  ·rename_i S hS;obtain ⟨ds,h1,h2⟩:=bind_some e;obtain ⟨e',h3,h4⟩:=bind_some h2;obtain ⟨q,hq⟩:=BR h3;obtain ⟨N,hN⟩:=acy (stepD:=fun k ds=>pU m S.1 S.2 (exec P A (D k) f n m c (bM S.1 ds))) (fun x y HG=>by
    unfold pU at HG⊢;obtain ⟨z,h5,h6⟩:=bind_some HG;obtain ⟨N,hN⟩:=ih h5;exact ⟨N,fun k hk=>by rw[hN k hk];exact h6⟩) q ds e' hq
   refine ⟨N,fun k hk=> ?_⟩
   try rw[hS]
   simp only[h1,Option.bind_some];rw[BQ (hN k hk)];exact h4
 | _=>intro st r e;simp only[exec] at e;cases e
theorem Ns (h:HF C D) {f:Nat} {ds es:List V} (e:sS P A C f ds=some es): ∃N,∀k,N≤k→sS P A (D k) f ds=some es:=by
 unfold sS at e⊢;cases hf:P.funcs[A.jW f]? with
 | none=>rw[hf] at e;cases e
 | some fn=>
  rw[hf] at e;simp only at e⊢;cases hb:fn.body with
  | none=>rw[hb] at e;cases e
  | some c=>
   rw[hb] at e;simp only at e⊢;cases hc:(lH 0 (A.sin f).cu&&(Nat.ble (A.sin f).cu.length fn.ntmps&&((A.sin f).ok&&(lH 0 (A.je f).cu&&(Nat.beq (A.je f).cu.length fn.results.size&&sQ (qL (A.sin f).cX.length (A.mv f))))))) with
   | false=>rw[hc] at e;cases e
   | true=>
    rw[hc] at e;simp only[cond_true] at e⊢;obtain ⟨⟨o,s1⟩,h1,h2⟩:=bind_some e;obtain ⟨N1,tJ⟩:=an6 h c h1;cases o with
    | exit id=>cases h2
    | norm=>
     simp only[Option.map_eq_some_iff] at h2;obtain ⟨x,e1,e2⟩:=h2;obtain ⟨N2,wK⟩:=u7 h e1;exact ⟨max N1 N2,fun k hk=>by rw[tJ k (by omega)];simp only[Option.bind_some,wK k (by omega),Option.map_some,e2]⟩
    | ret=>
     simp only[Option.map_eq_some_iff] at h2;obtain ⟨x,e1,e2⟩:=h2;obtain ⟨N2,wK⟩:=u7 h e1;exact ⟨max N1 N2,fun k hk=>by rw[tJ k (by omega)];simp only[Option.bind_some,wK k (by omega),Option.map_some,e2]⟩
theorem acz: ∀n f a r,ox P A n f a=some r→ox P A (n+1) f a=some r
 | 0,f,a,r,h=>by cases h
 | n+1,f,a,r,h=>by
  obtain ⟨N,hN⟩:=Ns (C:=ox P A n) (D:=fun _=>ox P A (n+1)) (fun f a r h=>⟨0,fun _ _=>acz n f a r h⟩) h;exact hN N (aw _)
theorem Tl {n k:Nat} (hk:n≤k) {f:Nat} {a r:List V} (h:ox P A n f a=some r):ox P A k f a=some r:=by
 induction hk with
 | refl=>exact h
 | step _ ih=>exact acz _ _ _ _ ih
theorem HH {f:Nat} {a r:List V}:Call P A f a=some r↔∃n,ox P A n f a=some r:=by
 constructor
 ·intro h;unfold Call at h;split at h
  ·rename_i hex;have:=hex.choose_spec.choose_spec;rw[dN h] at this;exact ⟨_,this⟩
  ·cases h
 ·rintro ⟨n,hn⟩;have hex: ∃n r,ox P A n f a=some r:=⟨n,r,hn⟩
  unfold Call;rw[xl hex];have h2:=hex.choose_spec.choose_spec;have h3:=Tl (Nat.le_max_left n hex.choose) hn;have h4:=Tl (Nat.le_max_right n hex.choose) h2;rw[h3] at h4;exact h4.symm
theorem an7 (f:Nat) (a:List V):Call P A f a=sS P A (Call P A) f a:=by
 apply Option.ext;intro r;constructor
 ·intro h;obtain ⟨n,hn⟩:=HH.1 h;cases n with
  | zero=>cases hn
  | succ n=>
   obtain ⟨N,hN⟩:=Ns (C:=ox P A n) (D:=fun _=>Call P A) (fun f a r h=>⟨0,fun _ _=>HH.2 ⟨n,h⟩⟩) hn;exact hN N (aw _)
 ·intro h;obtain ⟨N,hN⟩:=Ns (C:=Call P A) (D:=ox P A) (fun f a r h=>by
   obtain ⟨n,hn⟩:=HH.1 h;exact ⟨n,fun k hk=>Tl hk hn⟩) h
  exact HH.2 ⟨N+1,hN N (aw _)⟩
end
end Go.AM
namespace Go.AM
open Go.IntKind (wrap)
open Go.ChangeShapes Go.WideShapes Go.RowKit
section
variable (P:Program)
inductive WT:TypeId→V→Prop
 | int {t:TypeId} {k:IntKind} {n:Int}:P.underlying t=some (.int k)→(Lit.int k n).wf=true→WT t (.int k n)
 | bool {t:TypeId} {b:Bool}:P.underlying t=some .bool→WT t (.bool b)
 | str {t:TypeId} {l:List UInt8}:P.underlying t=some .string→l.length≤maxLen→WT t (.str l)
 | list {t e:TypeId} {es:List V}:P.underlying t=some (.slice e)→es.length≤maxLen→
   (∀(i:Nat) x,es[i]? =some x→b8 P e=true→∃xs,x= .agg xs∧xs.length=(aU P e).length)→
   (∀(i j:Nat) x t',es[i]? =some x→(aU P e)[j]? =some t'→WT t' (cf P e x j))→WT t (.list e es)
def nY (t:TypeId) (x:V):Prop:=
 (b8 P t=true→∃xs,x= .agg xs∧xs.length=(aU P t).length)∧∀(j:Nat) t',(aU P t)[j]? =some t'→WT P t' (cf P t x j)
def vp:List TypeId→List V→Prop
 | [],[]=>True
 | t::ts,x::xs=>nY P t x∧vp ts xs
 | _,_=>False
def hasB (L:List TypeId) (t:TypeId):Bool:=L.any fun u=>Nat.beq u t
def Nt (L:List TypeId):Nat→List Field→Bool
 | _,[]=>true
 | n,f::fs=>hasB L f.type&&(Nat.beq f.offset n&&(Nat.beq (P.cellsOf f.type) (aU P f.type).length&&Nt L (n+P.cellsOf f.type) fs))
def HI:List Nat→List Nat→Bool
 | [],[]=>true
 | a::l,b::m=>Nat.beq a b&&HI l m
 | _,_=>false
def Tm (L:List TypeId) (t:TypeId):Bool:=
 Nat.beq (P.cellsOf t) (aU P t).length&&
 match P.underlying t with
 | some (.int _)=>true
 | some .bool=>true
 | some .string=>true
 | some (.slice e)=>hasB L e&&cY P e
 | some (.struct fs)=>Nt P L 0 fs.toList&&HI (flat P t) (fs.toList.flatMap fun f=>aU P f.type)
 | some (.array n e)=>hasB L e&&(Nat.beq (P.cellsOf e) (aU P e).length&&HI (flat P t) (List.replicate n (aU P e)).flatten)
 | _=>false
def HJ (L:List TypeId):Bool:=L.all fun t=>Tm P L t
end
theorem Nu {L:List TypeId} {t:TypeId} (h:hasB L t=true):t∈L:=by
 obtain ⟨u,hu,h2⟩:=List.any_eq_true.1 h;rw[aL] at h2;exact h2▸hu
theorem Tn: ∀{l m:List Nat},HI l m=true→l=m
 | [],[],_=>rfl
 | a::l,b::m,h=>by
  simp only[HI,aJ,aL] at h;rw[h.1,Tn h.2]
 | [],_::_,h=>by cases h
 | _::_,[],h=>by cases h
section
variable {P:Program} {H:Type} {enc:TypeId×Value→H} {w:World} {base:Nat} {spare:Nat→Bool} {held:Bool} {L:List TypeId}
def qt (w:World):Nat→Nat→Prop:=fun b _=>b<w.heap.size
def sr (P:Program) (w:World) (ts:List TypeId) (cs:List Value) (xs:List V):Prop:=
 cs.length=ts.length∧xs.length=ts.length∧∀(j:Nat) t',ts[j]? =some t'→∃v y,cs[j]? =some v∧xs[j]? =some y∧Pure P w (qt w) t' v y∧WT P t' y
theorem sr.app {ts ui:List TypeId} {cs lM:List Value} {xs xs':List V} (h:sr P w ts cs xs) (h':sr P w ui lM xs'):sr P w (ts++ui) (cs++lM) (xs++xs'):=by
 obtain ⟨a,b,c⟩:=h;obtain ⟨a',b',c'⟩:=h';refine ⟨by simp[a,a'],by simp[b,b'],fun j t' hj=> ?_⟩;by_cases aP:j<ts.length
 ·rw[nz aP] at hj;obtain ⟨v,y,e1,e2,e3⟩:=c j t' hj;exact ⟨v,y,by rw[nz (by omega)];exact e1,by rw[nz (by omega)];exact e2,e3⟩
 ·rw[oV (by omega)] at hj;obtain ⟨v,y,e1,e2,e3⟩:=c' _ t' hj;exact ⟨v,y,by rw[oV (by omega),a];exact e1,by rw[oV (by omega),b];exact e2,e3⟩
theorem an8 {w:World} {a:Addr} {v:Value} (h:w.cell? a=some v):a.spot=none∧a.block<w.heap.size:=by
 unfold World.cell? at h;split at h
 ·rename_i hh;split at h
  ·cases h
  ·rename_i hs;exact ⟨by simpa using hs,(xu.1 hh).1⟩
 all_goals (first|cases h|skip)
theorem acA {rd:TypeId→List Value→Option (DataW H×List MemPlace)} (cs:List Value)
  (ih: ∀t cs x,t∈L→rd t cs=some x→∃xs,sr P w (aU P t) cs xs): ∀(fs:List Field) (n:Nat),Nt P L n fs=true→
  (∀f∈fs,∃x,rd f.type ((cs.drop f.offset).take (P.cellsOf f.type))=some x)→∃m xs,n≤m∧sr P w (fs.flatMap fun f=>aU P f.type) ((cs.drop n).take (m-n)) xs∧m-n=(fs.flatMap fun f=>aU P f.type).length
 | [],n,_,_=>⟨n,[],aw _,⟨by simp,rfl,by simp⟩,by simp⟩
 | f::fs,n,h,hx=>by
  simp only[Nt,aJ,aL] at h;obtain ⟨h1,h2,h3,h4⟩:=h;obtain ⟨x,hxf⟩:=hx f (by simp);obtain ⟨xs,jP⟩:=ih _ _ _ (Nu h1) hxf;obtain ⟨m,ys,hm,wM,u5⟩:=acA cs ih fs (n+P.cellsOf f.type) h4 fun g hg=>hx g (by simp[hg]);refine ⟨m,xs++ys,by omega,?_,by simp only[BN,hY];omega⟩;have:=jP.app wM;rw[BN];rw[h2] at this;have e:(cs.drop n).take (m-n)=(cs.drop n).take (P.cellsOf f.type)++(cs.drop (n+P.cellsOf f.type)).take (m-(n+P.cellsOf f.type)):=by
   rw[show m-n=P.cellsOf f.type+(m-(n+P.cellsOf f.type)) by omega,List.take_add,List.drop_drop]
  rw[e];exact this
theorem acB {rd:List Value→Option (DataW H×List MemPlace)} (cs:List Value) {e:TypeId} (hs:P.cellsOf e=(aU P e).length)
  (ih: ∀cs x,rd cs=some x→∃xs,sr P w (aU P e) cs xs): ∀(n:Nat),
  (∀i,i<n→∃x,rd ((cs.drop (i*P.cellsOf e)).take (P.cellsOf e))=some x)→∃xs,sr P w (List.replicate n (aU P e)).flatten (cs.take (n*P.cellsOf e)) xs
 | 0,_=>⟨[],by simp,rfl,by simp⟩
 | n+1,hx=>by
  obtain ⟨xs,jP⟩:=acB cs hs ih n fun i hi=>hx i (by omega);obtain ⟨x,j9⟩:=hx n (by omega);obtain ⟨ys,wM⟩:=ih _ _ j9;refine ⟨xs++ys,?_⟩;rw[List.replicate_succ',List.flatten_append];have:=jP.app wM;rw[jn,Nat.one_mul,List.take_add];simpa using this
theorem Nv (hL:HJ P L=true): ∀(fuel:Nat) (t:TypeId) (cs:List Value) (x:DataW H×List MemPlace),t∈L→DataW.trod enc P w base spare held fuel t cs=some x→
  ∃xs,sr P w (aU P t) cs xs
 | 0,_,_,_,_,h=>by cases h
 | fuel+1,t,cs,x,ht,h=>by
  have hg:=ib.1 hL t ht;unfold Tm at hg;rw[aJ,aL] at hg;obtain ⟨hc,hg⟩:=hg;have one:b8 P t=false→aU P t=[t]:=fun h=>by simp[aU,h]
  cases hu:P.underlying t with
  | none=>rw[hu] at hg;cases hg
  | some d=>
   rw[hu] at hg;cases d with
   | int k=>
    obtain ⟨n,rfl,rfl,hwf⟩:=DataW.trod_int hu h;rw[one (by simp[b8,hu])];exact ⟨[.int k n],rfl,rfl,fun j t' hj=>by
     cases j with
     | zero=>cases hj;exact ⟨_,_,rfl,rfl,.int hu,.int hu hwf⟩
     | succ j=>simp at hj⟩
   | bool=>
    obtain ⟨b,rfl,rfl⟩:=DataW.trod_bool hu h;rw[one (by simp[b8,hu])];exact ⟨[.bool b],rfl,rfl,fun j t' hj=>by
     cases j with
     | zero=>cases hj;exact ⟨_,_,rfl,rfl,.bool hu,.bool hu⟩
     | succ j=>simp at hj⟩
   | string=>
    obtain ⟨s,rfl,rfl,hl⟩:=DataW.trod_string hu h;rw[one (by simp[b8,hu])];exact ⟨[.str s.data.toList],rfl,rfl,fun j t' hj=>by
     cases j with
     | zero=>cases hj;exact ⟨_,_,rfl,rfl,.str hu rfl,.str hu (by simpa using hl)⟩
     | succ j=>simp at hj⟩
   | slice e=>
    simp only[aJ] at hg;obtain ⟨he,aq⟩:=hg;rw[one (by simp[b8,hu])];have single: ∀v y,cs=[v]→Pure P w (qt w) t v y→WT P t y→∃xs,sr P w [t] cs xs:=by
     rintro v y rfl a b;exact ⟨[y],rfl,rfl,fun j t' hj=>by
      cases j with
      | zero=>cases hj;exact ⟨_,_,rfl,rfl,a,b⟩
      | succ j=>simp at hj⟩
    rcases DataW.trod_slice hu h with ⟨rfl,rfl⟩|⟨a,len,cap,elems,rest,n,hn,rfl,rfl,hb,hl,hm,hlen,fJ,_,_⟩
    ·exact single _ _ rfl (.nil hu) (.list hu (by simp) (by simp) (by simp))
    ·cases hn;have gM:=(oY aq).2;have aaY:P.cellsOf e=(aU P e).length:=(fH aq).symm;have key: ∀i,i<len→∃lM xs,w.cells? base (a.add (i*P.cellsOf e)) (P.cellsOf e)=some lM∧sr P w (aU P e) lM xs:=by
      intro i hi;have h1:=fJ i hi;rw[bY (by omega)] at h1;obtain ⟨lM,h2,h3⟩:=Option.bind_eq_some_iff.1 h1;obtain ⟨xs,jP⟩:=Nv hL fuel e lM _ (Nu he) h3;exact ⟨lM,xs,h2,jP⟩
     by_cases h0:len=0
     ·subst h0;exact single _ _ rfl (.emp hu) (.list hu (by simp) (by simp) (by simp))
     ·have tC:a.spot=none∧a.block<w.heap.size:=by
       obtain ⟨lM,xs,h2,_⟩:=key 0 (by omega);obtain ⟨_,h3,h4⟩:=World.cells?_some h2;have h5:=h4 0 gM;rw[bY (by omega)] at h5;have:=an8 h5;simpa[Addr.add] using this
      have hF: ∃(F:Nat→List Value) (X:Nat→List V),∀i,i<len→w.cells? base (a.add (i*P.cellsOf e)) (P.cellsOf e)=some (F i)∧sr P w (aU P e) (F i) (X i):=by
       refine ⟨fun i=>if hi:i<len then (key i hi).choose else [],fun i=>if hi:i<len then (key i hi).choose_spec.choose else [],fun i hi=> ?_⟩;simp only[xl hi];exact (key i hi).choose_spec.choose_spec
      obtain ⟨F,X,To⟩:=hF;have hx: ∀(i j:Nat) y t',((List.range len).map fun i=>dv P e (X i))[i]? =some y→(aU P e)[j]? =some t'→i<len∧∃v,(F i)[j]? =some v∧Pure P w (qt w) t' v (cf P e y j)∧WT P t' (cf P e y j):=by
       intro i j y t' hy hj;have hi:i<len:=by
        have:=(cz.1 hy).1;simpa using this
       refine ⟨hi,?_⟩;simp[BH hi] at hy;obtain ⟨c1,c2,c3⟩:=(To i hi).2;obtain ⟨v,z,d1,d2,d3,d4⟩:=c3 j t' hj;have:cf P e y j=z:=by
        rw[←hy];unfold cf dv;cases ha:b8 P e with
        | true=>
         simp only[cond_true,V.cell];rw[zq _ _ _ d2]
        | false=>
         simp only[cond_false];have:aU P e=[e]:=by simp[aU,ha]
         rw[this] at hj;cases j with
         | zero=>rw[zq _ _ _ d2]
         | succ j=>simp at hj
       rw[this];exact ⟨v,d1,d3,d4⟩
      have gL: ∀i j,i<len→j<P.cellsOf e→w.cell? ⟨a.block,a.off+(i*P.cellsOf e+j),none⟩=some ((F i).getD j undef):=by
       intro i j hi hj;obtain ⟨h1,h2⟩:=To i hi;obtain ⟨_,h3,h4⟩:=World.cells?_some h1;have h5:=h4 j hj;rw[Go.Deep.add_add] at h5;have e1:a.add (i*P.cellsOf e+j)=⟨a.block,a.off+(i*P.cellsOf e+j),none⟩:=by
        obtain ⟨b,o,s⟩:=a;simp only at tC;rw[tC.1];exact oC ..
       rw[e1] at h5;rw[h5,rN,bY (by omega)];rfl
      have ha:a=⟨a.block,a.off,none⟩:=by
       obtain ⟨b,o,s⟩:=a;simp only at tC;rw[tC.1]
      refine single (.slice (some a) len cap) (.list e ((List.range len).map fun i=>dv P e (X i))) rfl ?_ ?_
      ·rw[ha];refine .list (fun i j=>(F i).getD j undef) hu (by simp) hl (fun _ _=>tC.2) gL ?_;intro i j y t' hy hj;obtain ⟨hi,v,d1,d2,_⟩:=hx i j y t' hy hj;rw[rN,d1];exact d2
      ·refine .list hu (by simp;omega) ?_ ?_
       ·intro i y hy Nw;have hi:i<len:=by
         have:=(cz.1 hy).1;simpa using this
        simp[BH hi] at hy;rw[←hy];exact ⟨X i,by simp[dv,Nw],(To i hi).2.2.1⟩
       ·intro i j y t' hy hj;obtain ⟨_,v,_,_,d3⟩:=hx i j y t' hy hj;exact d3
   | struct fs=>
    simp only[aJ] at hg;obtain ⟨xs,n,hn,rfl,hlen,rn,hx⟩:=DataW.trod_struct hu h;cases hn;have het:aU P t=fs.toList.flatMap fun f=>aU P f.type:=by
     rw[←Tn hg.2];simp[aU,b8,hu]
    obtain ⟨m,ys,_,wM,hm⟩:=acA (w:=w) (rd:=fun t cs=>DataW.trod enc P w base spare held fuel t cs) cs (fun t cs x a b=>Nv hL fuel t cs x a b) fs.toList 0 hg.1 (by
     intro f hf;obtain ⟨i,hi⟩:=uc hf;rw[sL] at hi;have se:i<fs.size:=(xu.1 hi).1;exact ⟨_,(hx i f hi).trans (bY (by omega))⟩)
    rw[het];refine ⟨ys,?_⟩;have:(cs.drop 0).take (m-0)=cs:=by
     rw[xm,hm,←het,←hc,←hlen,vu]
    rw[this] at wM;exact wM
   | array n e=>
    simp only[aJ,aL] at hg;obtain ⟨xs,m,hn,rfl,hlen,rn,hx⟩:=DataW.trod_array hu h;cases hn;have het:aU P t=(List.replicate n (aU P e)).flatten:=by
     rw[←Tn hg.2.2];simp[aU,b8,hu]
    obtain ⟨ys,wM⟩:=acB (w:=w) (rd:=DataW.trod enc P w base spare held fuel e) cs hg.2.1 (fun cs x b=>Nv hL fuel e cs x (Nu hg.1) b) n (by
     intro i hi;exact ⟨_,(hx i hi).trans (bY (by omega))⟩)
    rw[het];refine ⟨ys,?_⟩;have:cs.take (n*P.cellsOf e)=cs:=by
     have:n*P.cellsOf e=cs.length:=by
      rw[hlen,hc,het,hg.2.1];simp
     rw[this,vu]
    rw[this] at wM;exact wM
   | _=>cases hg
end
section
variable {P:Program} {H:Type} {enc:TypeId×Value→H} {w:World} {L:List TypeId}
theorem an9 {base Ts:Nat} {spare:Nat→Bool} {held:Bool} {r:Reach} {β:Nat→Option Nat} {hp:Nat→Option ah} (hL:HJ P L=true) {t:TypeId} {v:Value} {d:DataW H} {ps:List MemPlace} (ht:t∈L) (jz:Value.okWide P w r Ts t v)
  (h:DataW.Trod enc P w base spare held t v d ps): ∃x,aj P w (qt w) β hp v x∧nY P t x:=by
 obtain ⟨fuel,hf⟩:=h;obtain ⟨xs,c1,c2,c3⟩:=Nv hL fuel t _ _ ht hf;have hg:=ib.1 hL t ht;unfold Tm at hg;rw[aJ,aL] at hg;obtain ⟨_,hg⟩:=hg;have Nw:b8 P t=true→∃x,aj P w (qt w) β hp v x∧nY P t x:=by
  intro ha;have hv: ∃cs,v= .agg cs:=by
   unfold Value.okWide at jz;unfold b8 at ha;grind
  obtain ⟨cs,rfl⟩:=hv;refine ⟨.agg xs,.agg (by simpa[Value.cells] using c1.trans c2.symm) fun j v x hv hx=> ?_,fun _=>⟨xs,rfl,c2⟩,fun j t' hj=> ?_⟩
  ·have hj:j<(aU P t).length:=by grind
   obtain ⟨v',y,e1,e2,e3,_⟩:=c3 j _ (bY hj);rw[hx] at e2;cases e2;have:cs[j]? =some v':=by simpa[Value.cells] using e1
   rw[hv] at this;cases this;exact .uo e3
  ·obtain ⟨v',y,e1,e2,_,e4⟩:=c3 j t' hj;have:cf P t (.agg xs) j=y:=by
    simp only[cf,ha,cond_true,V.cell];exact zq _ _ _ e2
   grind
 have tz:b8 P t=false→v.cells= #[v]→∃x,aj P w (qt w) β hp v x∧nY P t x:=by
  intro ha z9;have he:aU P t=[t]:=by simp[aU,ha]
  rw[he] at c1 c2 c3;obtain ⟨v',y,e1,e2,e3,e4⟩:=c3 0 t rfl;rw[z9] at e1;cases e1;refine ⟨y,.uo e3,⟨fun h=>absurd (ha.symm.trans h) (by simp),fun j t' hj=> ?_⟩⟩;rw[he] at hj;cases j with
  | succ j=>simp at hj
  | zero=>
   cases hj;simpa[cf,ha] using e4
 unfold Value.okWide at jz;cases hu:P.underlying t with
 | none=>grind
 | some dsc=>
  rw[hu] at hg jz;cases dsc with
  | int k=>
   refine tz (by simp[b8,hu]) ?_;simp only[Cell.okWide,Cell.ok,hu] at jz;cases v<;>first|rfl|(simp at jz;done)|exact jz.elim
  | bool=>
   refine tz (by simp[b8,hu]) ?_;simp only[Cell.okWide,Cell.ok,hu] at jz;cases v<;>first|rfl|(simp at jz;done)|exact jz.elim
  | string=>
   refine tz (by simp[b8,hu]) ?_;simp only[Cell.okWide,Cell.ok,hu] at jz;cases v<;>first|rfl|(simp at jz;done)|exact jz.elim
  | slice e=>
   refine tz (by simp[b8,hu]) ?_;simp only[Cell.okWide,Cell.ok,hu] at jz;cases v<;>first|rfl|(simp at jz;done)|exact jz.elim
  | struct fs=>exact Nw (by simp[b8,hu])
  | array n e=>exact Nw (by simp[b8,hu])
  | _=>cases hg
theorem acC {base Ts:Nat} {spare:Nat→Bool} {held:Bool} {r:Reach} {β:Nat→Option Nat} {hp:Nat→Option ah} (hL:HJ P L=true): ∀{ts:List TypeId} {vs:List Value} {ds:List (DataW H)} {ps:List MemPlace},
  (∀t∈ts,t∈L)→(∀(j:Nat) t v,ts[j]? =some t→vs[j]? =some v→Value.okWide P w r Ts t v)→DataW.TrodAll enc P w base spare held ts vs ds ps→
  ∃xs,vs.length=xs.length∧(∀(j:Nat) v x,vs[j]? =some v→xs[j]? =some x→aj P w (qt w) β hp v x)∧vp P ts xs
 | [],vs,ds,ps,_,_,h=>by
  obtain ⟨rfl,rfl,rfl⟩:=trodAll_nil h;exact ⟨[],rfl,by simp,trivial⟩
 | t::ts,vs,ds,ps,hm,jz,h=>by
  obtain ⟨v,xJ,d,ds1,a,b,rfl,rfl,rfl,h1,h2⟩:=trodAll_cons h;obtain ⟨x,j9,lj⟩:=an9 (β:=β) (hp:=hp) hL (hm t (by simp)) (jz 0 t v rfl rfl) h1;obtain ⟨xs,hl,hr,hw⟩:=acC (β:=β) (hp:=hp) hL (fun t ht=>hm t (by simp[ht])) (fun j t v a b=>jz (j+1) t v (by grind) (by grind)) h2;refine ⟨x::xs,by simp[hl],fun j v' x' hv hx=> ?_,lj,hw⟩;grind
theorem acD {base:Nat} {spare:Nat→Bool} {held:Bool}: ∀{ts:List TypeId} {vs:List Value} {ds:List (DataW H)} {ps:List MemPlace},DataW.TrodAll enc P w base spare held ts vs ds ps→ds.length=ts.length
 | [],vs,ds,ps,h=>by obtain ⟨rfl,rfl,rfl⟩:=trodAll_nil h;rfl
 | t::ts,vs,ds,ps,h=>by
  obtain ⟨v,xJ,d,ds1,a,b,rfl,rfl,rfl,h1,h2⟩:=trodAll_cons h;simp[acD h2]
theorem acE {base:Nat} (hl:laidOutB P=true) {W W':World} {sp':Nat→Bool}: ∀{ts:List TypeId} {vs:List Value} {ds:List (DataW H)} {ps:List MemPlace},(∀t∈ts,P.readableRec t=true∧t<P.types.size)→
  DataW.TrodAll enc P W base (fun _=>true) true ts vs ds ps→(∀p∈ps,W.sameAt W' p)→(∀p∈ps,sp' p.block=true)→DataW.TrodAll enc P W' base sp' true ts vs ds ps
 | [],vs,ds,ps,_,h,_,_=>by obtain ⟨rfl,rfl,rfl⟩:=trodAll_nil h;exact trodAll_mk0
 | t::ts,vs,ds,ps,hr,h,h1,h2=>by
  obtain ⟨v,xJ,d,ds1,a,b,rfl,rfl,rfl,h3,h4⟩:=trodAll_cons h;obtain ⟨r1,r2⟩:=hr t (by simp);exact trodAll_cons_mk (WideElems.Trod_stays hl r1 r2 h3 (fun p hp=>h1 p (by simp[hp])) (fun p hp=>h2 p (by simp[hp])))
   (acE hl (fun t ht=>hr t (by simp[ht])) h4 (fun p hp=>h1 p (by simp[hp])) (fun p hp=>h2 p (by simp[hp])))
theorem aoa {f:Func} {s:ChangeSpec} {apart fresh handsOn again:Bool} {W W':World} {args:Array Value} {v:Value} {ds gs:List (DataW H)} {before pa pv:List MemPlace}
  (hW:DataW.Whole enc P f.params.toList s.vars apart W args.toList ds gs before)
  (acF: ∀(b:Nat) (sp:Nat→Bool) (hd:Bool),DataW.TrodAll enc P W' b sp hd f.resultTypes.toList (v.resultList f.resultTypes.size) (s.fn H (ds++gs)).results [])
  (An: ∀sp:Nat→Bool,(∀p∈before,sp p.block=true)→DataW.TrodAll enc P W' 0 sp true f.params.toList args.toList (s.fn H (ds++gs)).args pa)
  (acG: ∀sp:Nat→Bool,(∀p∈before,sp p.block=true)→DataW.TrodVars enc P W' sp s.vars (s.fn H (ds++gs)).vars pv)
  (hps:before=pa++pv) (hk:W.keptBut W' (· ∈before)) (Dz: ∀a:Addr,a.block<W.heap.size→W'.frozen? a=W.frozen? a)
  (aq: ∀(j:Nat) (t:TypeId) (r:Value),f.resultTypes[j]? =some t→(v.resultList f.resultTypes.size)[j]? =some r→Value.okWide P W' .any 0 t r):
  s.post enc P f apart fresh handsOn again W args v W':=by
 have hold: ∀p∈before,(fun b=>decide (b<W.heap.size)) p.block=true:=fun p hp=>by simpa using hW.lt p hp
 refine ⟨ds,gs,before,[],pa,pv,hW,acF _ _ _,An _ hold,acG _ hold,World.keptBut_mono (fun p hp=>⟨hp,?_⟩) hk,fun _=> ?_⟩
 ·grind
 ·have aP:=hW.lt;obtain ⟨_,_,_,_,_,hz,hn⟩:=hW;refine ⟨aq,_,_,([]++pa)++pv,⟨[]++pa,pv,trodAll_append (An _ (fun _ _=>rfl)) (acF _ _ _),acG _ (fun _ _=>rfl),rfl,?_,?_⟩,?_⟩
  ·intro b off hp;have hb:MemPlace.cell b off∈before:=by grind
   rw[Dz ⟨b,off,none⟩ (aP _ hb)];exact hz b off hb
  all_goals grind
theorem aob {A:dr} (hP:lr P A) (nP:P.follows .mixedOrders=true) {f key:Nat} {fn:Func} {tb:TypeId} {s:ChangeSpec} {apart fresh handsOn again:Bool}
  (hf:P.funcs[f]? =some fn) (Tt:A.jW key=f) (hL:HJ P L=true) (eL:fn.params.toList.all (fun t=>hasB L t)=true) (Nx:fn.resultTypes= #[tb]) (Ny:P.underlying tb=some .bool) (Ak:s.vars=[])
  (hs: ∀ds:List (DataW H),ds.length=fn.params.toList.length→s.fn H ds={results:=[.lit (.bool true)],args:=ds})
  (Tu:laidOutB P=true) (Tv:fn.params.toList.all (fun t=>P.readableRec t&&Nat.blt t P.types.size)=true)
  (na:(A.sin key).cX=[]) (aq:((A.sin key).cu.map (·.2)).all (VS.ok 0)=true) (Tw:(A.je key).cu=[(0,.one .bool)]) (halt:A.alt key=none)
  {W:World} {base:Nat} {args:Array Value} {ds gs:List (DataW H)} {before:List MemPlace}
  (Tx:jZ P A.aE W (qt W)) (jz: ∀(j:Nat) t v,fn.params[j]? =some t→args[j]? =some v→Value.okWide P W .any base t v)
  (hW:DataW.Whole enc P fn.params.toList s.vars apart W args.toList ds gs before) (Q:List V→Prop)
  (hQ: ∀xs:List V,vp P fn.params.toList xs→(∀(j:Nat) v x,args.toList[j]? =some v→xs[j]? =some x→aj P W (qt W) (fun _=>none) (fun _=>none) v x)→Q xs)
  (Tz: ∀xs,vp P fn.params.toList xs→Q xs→∃ds,vq ((A.sin key).cu.map (·.2)) xs=some ds∧Call P A key ds=some [.bool true]):
  Calls P f args W fun e W'=> ∃v,e= .returned v∧s.post enc P fn apart fresh handsOn again W args v W':=by
 have hW0:=hW;obtain ⟨p,q,hA,hV,rfl,Dz,oM⟩:=hW;rw[Ak] at hV;obtain ⟨Lk,hq⟩:gs=[]∧q=[]:=by
  cases gs with
  | nil=>exact ⟨rfl,hV⟩
  | cons g gs=>exact hV.elim
 subst Lk;subst hq;obtain ⟨xs,hl,hr,hwt⟩:=acC (β:=fun _=>none) (hp:=fun _=>none) hL (fun t ht=>Nu (ib.1 eL t ht)) (fun j t v a b=>jz j t v (by grind) (by grind)) hA;obtain ⟨ls,hls,Hz⟩:=Tz xs hwt (hQ xs hwt hr);obtain ⟨fn',c,h1,h2,h3⟩:=an4 (A:=A) hP nP key ls [.bool true] Hz;rw[Tt] at h1 h3;rw[hf] at h1;cases h1;have acp: ∀j,(bM (A.sin key) ls).hp j=none:=fun j=>by simp[bM,mk,na,ij,nC]
 obtain ⟨_,r1,r2⟩:=Hp (P:=P) (w:=W) (I:=qt W) (n:=0) (β:=fun _=>none) (β':=fun _=>none) (hp:=fun _=>none) (hp':=(bM (A.sin key) ls).hp) (fun j hj=>absurd hj (Nat.not_lt_zero j)) hls aq;have hlen:((A.sin key).cu.map (·.2)).length=xs.length:=by rw[←r1 [],Tk]
 have h4:=h3 W (qt W) (fun _=>none) args.toList ⟨fun id blk h=>(by grind),fun id ar blk blk' b h=>(by grind),fun id blk b h=>(by grind),fun b j h=>h⟩ Tx
  (by grind) (fun j v y hv hy=>r2 [] j v y (fun x hx=>hr j v x hv hx) (by grind))
 have ea:args.toList.toArray=args:=by simp
 rw[ea] at h4;refine h4.mono fun e W' ⟨v,I2,cF,he,ha⟩=>⟨v,he,?_⟩
 have yk: ∀b,b<W.heap.size→W'.heap[b]? =W.heap[b]? :=fun b hb=>ha.Dt.cM b hb (by rintro ⟨j,blk,hj,_⟩;grind);have Ab:=ha.res;have hso:A.so key [.bool true]=A.je key∧A.lv key [.bool true]=[.bool true]:=by unfold dr.so dr.lv;grind
 rw[hso.1,hso.2,Tw] at Ab;obtain rfl:v= .bool true:=Ab.nE;have sk:Value.okWide P W' .any 0 tb (.bool true):=by simp[Value.okWide,Ny,Cell.okWide,Cell.ok]
 have pB:ds.length=fn.params.toList.length:=acD hA;have kI: ∀p'∈p++[],W.sameAt W' p':=by
  intro p' hp';have aP:=hW0.lt p' hp';cases p' with
  | cell b o=>exact World.cell?_of_block (w:=W) (yk b aP)
  | map b=>exact yk b aP
 refine aoa (pa:=p) (pv:=[]) hW0 ?_ ?_ ?_ rfl ?_ ?_ ?_
 ·intro b sp hd;rw[ub,hs ds pB,Nx];exact trodAll_mk1 ⟨1,by simp[DataW.trod,Value.cells,Ny]⟩
 ·intro sp tC;rw[ub,hs ds pB];refine acE Tu (fun t ht=> ?_) hA (fun p' hp'=>kI p' (by grind)) (fun p' hp'=>tC p' (by grind));have:=ib.1 Tv t ht;simp_all
 ·intro sp tC;rw[Ak,ub,hs ds pB];exact rfl
 ·refine ⟨ha.Dt.io.1,ha.Dt.io.2,fun i hi=> ?_⟩;grind
 ·intro a aP;exact World.frozen?_of_block (w:=W) (yk a.block aP)
 ·intro j t r hj Mq;rw[Nx] at hj Mq;cases j with
  | zero=>
   simp[Value.resultList] at hj Mq;grind
  | succ j=>simp at hj
theorem ahM {A:dr} (hP:lr P A) (nP:P.follows .mixedOrders=true) {f key:Nat} {fn:Func} {tb:TypeId} {s:ChangeSpec} {apart fresh handsOn again:Bool}
  (hf:P.funcs[f]? =some fn) (Tt:A.jW key=f) (hL:HJ P L=true) (eL:fn.params.toList.all (fun t=>hasB L t)=true) (Nx:fn.resultTypes= #[tb]) (Ny:P.underlying tb=some .bool) (Ak:s.vars=[])
  (hs: ∀ds:List (DataW H),ds.length=fn.params.toList.length→s.fn H ds={results:=[.lit (.bool true)],args:=ds})
  (Tu:laidOutB P=true) (Tv:fn.params.toList.all (fun t=>P.readableRec t&&Nat.blt t P.types.size)=true)
  (na:(A.sin key).cX=[]) (aq:((A.sin key).cu.map (·.2)).all (VS.ok 0)=true) (Tw:(A.je key).cu=[(0,.one .bool)]) (halt:A.alt key=none)
  (Tz: ∀xs,vp P fn.params.toList xs→∃ds,vq ((A.sin key).cu.map (·.2)) xs=some ds∧Call P A key ds=some [.bool true])
  {W:World} {base:Nat} {args:Array Value} {ds gs:List (DataW H)} {before:List MemPlace}
  (Tx:jZ P A.aE W (qt W)) (jz: ∀(j:Nat) t v,fn.params[j]? =some t→args[j]? =some v→Value.okWide P W .any base t v)
  (hW:DataW.Whole enc P fn.params.toList s.vars apart W args.toList ds gs before):
  Calls P f args W fun e W'=> ∃v,e= .returned v∧s.post enc P fn apart fresh handsOn again W args v W':=
 aob hP nP hf Tt hL eL Nx Ny Ak hs Tu Tv na aq Tw halt Tx jz hW (fun _=>True) (fun _ _ _=>trivial) fun xs h _=>Tz xs h
end
end Go.AM
namespace Go.AM
open Go.IntKind (wrap)
@[simp] theorem V.toInt_int (k:IntKind) (n:Int):V.toInt (.int k n)=n:=by cases k<;>rfl
@[simp] theorem V.Gz (b:Bool):V.toBool (.bool b)=b:=by cases b<;>rfl
@[simp] theorem V.aAl (s:List UInt8):V.toStr (.str s)=s:=by cases s<;>rfl
@[simp] theorem V.eH (e:TypeId) (es:List V):V.toList (.list e es)=es:=by cases es<;>rfl
@[simp] theorem V.aAm (e:TypeId) (es:List V):V.toList (.own e es)=es:=by cases es<;>rfl
@[simp] theorem V.aoc (cs:List V) (j:Nat):V.cell (.agg cs) j=V.nth cs j:=by cases cs<;>rfl
@[simp] theorem V.aAn (cs:List V) (j:Nat):V.comp (.bd cs) j=V.nth cs j:=by cases cs<;>rfl
@[simp] theorem V.TA (x:V) (l:List V):V.nth (x::l) 0=x:=by cases l<;>rfl
@[simp] theorem V.aAo (x:V) (l:List V) (n:Nat):V.nth (x::l) (n+1)=V.nth l n:=by cases l<;>rfl
@[simp] theorem V.aAp (x y:V) (l:List V):V.nth (x::y::l) 1=y:=by cases l<;>rfl
@[simp] theorem V.aAq (x y z:V) (l:List V):V.nth (x::y::z::l) 2=z:=by cases l<;>rfl
@[simp] theorem V.aAr (x y z u:V) (l:List V):V.nth (x::y::z::u::l) 3=u:=by cases l<;>rfl
theorem wrap64 {x:Int} (h1: -9223372036854775808≤x) (h2:x<9223372036854775808):wrap .i64 x=x:=by
 rw[IntKind.wrap_i64];omega
theorem sf {x:Int} (h1: -9223372036854775808≤x:=by omega) (h2:x<9223372036854775808:=by omega):wrap .i64 x=x:=wrap64 h1 h2
theorem aod {x:Int} (h1:0≤x) (h2:x<256):wrap .u8 x=x:=by
 rw[IntKind.wrap_u8];omega
theorem Db {es:List V} {i:Int} {n:Nat} (h:i=n):idx es i=es[n]? :=by
 subst h;simp[idx]
theorem ZY {α:Type} {f:α→V} {l:List α} {i:Int} {n:Nat} (h:i=n) (hn:n<l.length):idx (l.map f) i=some (f l[n]):=by
 rw[Db h];simp[hn]
@[simp] theorem TB (es:List V) (n:Nat):idx es (n:Int)=es[n]? :=by simp[idx]
section
variable {X R:Type} {step:X→Option (X ⊕ R)}
theorem Lt (Inv:X→Prop) (μ:X→Nat) (Q:R→Prop)
  (h: ∀x,Inv x→(∃y,step x=some (.inl y)∧Inv y∧μ y<μ x)∨∃r,step x=some (.inr r)∧Q r):
  ∀x,Inv x→∃r,Loop step x=some r∧Q r:=by
 intro x
 induction hm:μ x using Nat.strongRecOn generalizing x with
 | ind m ih=>
  intro hx;rcases h x hx with ⟨y,h1,h2,h3⟩|⟨r,h1,h2⟩
  ·obtain ⟨r,h4,h5⟩:=ih (μ y) (by omega) y rfl h2;exact ⟨r,(jd h1).trans h4,h5⟩
  ·exact ⟨r,kR h1,h2⟩
theorem aoe (s:Nat→X) (n:Nat) {r:R} (h: ∀i,i<n→step (s i)=some (.inl (s (i+1)))) (he:step (s n)=some (.inr r)):Loop step (s 0)=some r:=by
 induction n generalizing s with
 | zero=>exact kR he
 | succ n ih=>
  rw[jd (h 0 (by omega))];exact ih (fun i=>s (i+1)) (fun i hi=>h (i+1) (by omega)) he
end
@[simp] theorem HK {α:Type} (p:Prop) [Decidable p] (a b:α):(bif decide p then a else b)=if p then a else b:=by by_cases h:p<;>simp[h]
@[simp] theorem aAs {α:Type} (m n:Int) (a b:α):(bif m==n then a else b)=if m=n then a else b:=by
 by_cases h:m=n
 ·simp[h]
 ·have:(m==n)=false:=by simp[h]
  rw[this,ax h];rfl
@[simp] theorem acH {α:Type} (m n:Int) (a b:α):(bif m != n then a else b)=if m=n then b else a:=by
 by_cases h:m=n
 ·simp[h]
 ·have:(m != n)=true:=by simp[h]
  rw[this,ax h];rfl
@[simp] theorem aAt {α:Type} (c:Bool) (a b:α):(bif !c then a else b)=bif c then b else a:=by cases c<;>rfl
@[simp] theorem aAu {α:Type} (m n:Nat) (a b:α):(bif Nat.ble m n then a else b)=if m≤n then a else b:=by
 cases hb:Nat.ble m n with
 | true=>rw[aB (Nat.le_of_ble_eq_true hb)];rfl
 | false=>
  rw[ax fun h=> ?_]
  ·rfl
  ·rw[yZ h] at hb;cases hb
@[simp] theorem aAv {α:Type} (c d:Bool) (a b:α):(bif c&&d then a else b)=bif c then (bif d then a else b) else b:=by cases c<;>rfl
section
variable {P:Program}
def acI (P : Program) : Bool := P.funcs.all fun fn => !(fn.name == "runtime.NumGoroutine")
theorem aof (h:acI P=true):Aj P:=by
 intro f fn hf;unfold acI at h;have:=(Array.all_eq_true_iff_forall_mem.1 h) fn (Array.mem_of_getElem? hf);simpa using this
theorem ahG {t:TypeId} {ts:List TypeId} {xs:List V} (h:vp P (t::ts) xs): ∃x ys,xs=x::ys∧nY P t x∧vp P ts ys:=by
 cases xs with
 | nil=>exact h.elim
 | cons x ys=>exact ⟨x,ys,rfl,h.1,h.2⟩
theorem ahH {xs:List V} (h:vp P [] xs):xs=[]:=by
 cases xs with
 | nil=>rfl
 | cons x ys=>exact h.elim
theorem nY.one {t:TypeId} {x:V} (ha:b8 P t=false) (h:nY P t x):WT P t x:=by
 have he:aU P t=[t]:=by simp[aU,ha]
 have:=h.2 0 t (by rw[he];rfl);simpa[cf,ha] using this
theorem WT.fW {t:TypeId} {k:IntKind} {x:V} (hu:P.underlying t=some (.int k)) (h:WT P t x): ∃n,x= .int k n∧k.min≤n∧n≤k.max:=by
 cases h with
 | int h1 h2=>
  rw[hu] at h1;cases h1;simp only[Lit.wf,aJ,jU] at h2;exact ⟨_,rfl,h2⟩
 | bool h1=>rw[hu] at h1;cases h1
 | str h1=>rw[hu] at h1;cases h1
 | list h1=>rw[hu] at h1;cases h1
theorem WT.nE {t:TypeId} {x:V} (hu:P.underlying t=some .bool) (h:WT P t x): ∃b,x= .bool b:=by
 cases h with
 | int h1=>rw[hu] at h1;cases h1
 | bool h1=>exact ⟨_,rfl⟩
 | str h1=>rw[hu] at h1;cases h1
 | list h1=>rw[hu] at h1;cases h1
theorem WT.oZ {t:TypeId} {x:V} (hu:P.underlying t=some .string) (h:WT P t x): ∃s,x= .str s∧s.length≤maxLen:=by
 cases h with
 | int h1=>rw[hu] at h1;cases h1
 | bool h1=>rw[hu] at h1;cases h1
 | str h1 h2=>exact ⟨_,rfl,h2⟩
 | list h1=>rw[hu] at h1;cases h1
theorem WT.alz {t e:TypeId} {x:V} (hu:P.underlying t=some (.slice e)) (h:WT P t x): ∃es,x= .list e es∧es.length≤maxLen∧∀y∈es,nY P e y:=by
 cases h with
 | int h1=>rw[hu] at h1;cases h1
 | bool h1=>rw[hu] at h1;cases h1
 | str h1=>rw[hu] at h1;cases h1
 | list h1 h2 h3 h4=>
  rw[hu] at h1;cases h1;refine ⟨_,rfl,h2,fun y hy=> ?_⟩;obtain ⟨i,hi⟩:=uc hy;exact ⟨h3 i y hi,fun j t' hj=>h4 i j y t' hi hj⟩
theorem nY.nF {t:TypeId} {x:V} (ha:b8 P t=true) (h:nY P t x): ∃xs,x= .agg xs∧xs.length=(aU P t).length∧∀(j:Nat) t' y,(aU P t)[j]? =some t'→xs[j]? =some y→WT P t' y:=by
 obtain ⟨xs,rfl,hl⟩:=h.1 ha;refine ⟨xs,rfl,hl,fun j t' y hj hy=> ?_⟩;have:=h.2 j t' hj;simp only[cf,ha,cond_true,V.aoc] at this;rw[zq _ _ _ hy] at this;exact this
theorem aah {α:Type} {f:α→V} {p:α→Prop}: ∀{es:List V},(∀y∈es,∃a,y=f a∧p a)→∃l:List α,es=l.map f∧∀a∈l,p a
 | [],_=>⟨[],rfl,by simp⟩
 | y::es,h=>by
  obtain ⟨a,rfl,ha⟩:=h y (by simp);obtain ⟨l,rfl,hl⟩:=aah (f:=f) (p:=p) (es:=es) fun z hz=>h z (by simp[hz]);exact ⟨a::l,rfl,by
   intro b hb;rcases fl.1 hb with rfl|hb
   ·exact ha
   ·exact hl b hb⟩
theorem nY.int {t:TypeId} {x:V} (hu:P.underlying t=some (.int .i64)) (h:nY P t x): ∃n,x= .int .i64 n∧IntKind.min .i64≤n∧n≤IntKind.max .i64:=
 (h.one (by simp[b8,hu])).fW hu
theorem nY.str {t:TypeId} {x:V} (hu:P.underlying t=some .string) (h:nY P t x): ∃s,x= .str s∧s.length≤maxLen:=
 (h.one (by simp[b8,hu])).oZ hu
end
def un.{u} {A B:Type} {γ:Sort u} (f:A→B→γ) (p:A×B):γ:=f p.1 p.2
def fX {A B γ:Type} (f:A→γ) (g:B→γ):A ⊕ B→γ
 | .inl a=>f a
 | .inr b=>g b
def wO:List Nat→Code→Code
 | [],c=>c
 | 0::p,.seq a _=>wO p a
 | _::p,.seq _ b=>wO p b
 | 0::p,.cond _ a _=>wO p a
 | _::p,.cond _ _ b=>wO p b
 | _::p,.block _ c=>wO p c
 | _::p,.loop c=>wO p c
 | _,c=>c
inductive qu where
 | loop (c:Code)
 | cond (t:Nat) (x y:Code)
section
variable (P:Program) (A:dr) (C:af) (L:cL) (f n m:Nat)
def su:Code→List qu
 | .seq a b=>su a++su b
 | .cond (.tmp t) x y=>
  match A.km f (t*16+15) with
  | none=>su x++su y
  | some _=>[.cond t x y]
 | .cond (.const _) x y=>su x++su y
 | .block _ c=>su c
 | .loop c=>[.loop c]
 | _=>[]
def u9:qu→Prop
 | .loop c=>
  match A.km f (keyOf c+1) with
  | none=>True
  | some S=> ∀(β:Type) ds (k:Nat→List V→Option β),L β (keyOf c+1) ds k=(Loop (stepG P A C f n m S c) ds).bind fun r=>k r.1 r.2
 | .cond t x y=>
  match A.km f (t*16+15) with
  | none=>True
  | some S=> ∀(β:Type) ds (k:Nat→List V→Option β),L β (t*16+15) ds k=(Fc P A C f n m t S x y ds).bind fun r=>k r.1 r.2
def qv:List qu→Prop
 | []=>True
 | b::l=>u9 P A C L f n m b∧qv l
variable {P A C L f n m}
theorem qv.left {a b:List qu}:qv P A C L f n m (a++b)→qv P A C L f n m a:=by
 induction a with
 | nil=>exact fun _=>trivial
 | cons x a ih=>exact fun h=>⟨h.1,ih h.2⟩
theorem qv.right {a b:List qu}:qv P A C L f n m (a++b)→qv P A C L f n m b:=by
 induction a with
 | nil=>exact fun h=>h
 | cons x a ih=>exact fun h=>ih h.2
theorem acJ: ∀{c:Code} {bs:List qu},su A f c=bs→qv P A C L f n m bs→kU P A C L f n m c:=by
 intro c
 induction c with
 | seq a b Qo Qp=>
  intro bs h hb;subst h;exact ⟨Qo rfl hb.left,Qp rfl hb.right⟩
 | cond c x y jI jJ=>
  intro bs h hb;subst h;cases c with
  | tmp t=>
   simp only[su] at hb;simp only[kU];cases hs:A.km f (t*16+15) with
   | none=>
    rw[hs] at hb;exact ⟨jI rfl hb.left,jJ rfl hb.right⟩
   | some S=>
    rw[hs] at hb;have:=hb.1;simp only[u9,hs] at this;exact this
  | const v=>exact ⟨jI rfl hb.left,jJ rfl hb.right⟩
  | _=>trivial
 | block id c ih=>
  intro bs h hb;subst h;exact ih rfl hb
 | loop c ih=>
  intro bs h hb;subst h;exact hb.1
 | _=>intro bs h hb;trivial
variable (P A C L f n m) in
def TC {β:Type} (t:Nat) (S:Shape×List (Out×Shape)) (x y:Code) (ds:List V) (k:Nat→List V→Option β):Option β:=
 let kc:Out→St→Option β:=fun o st=>
  match o with
  | .norm=>(ways m 0 S.2 (.norm,canon m (A.join f t) st)).bind fun e=>k e.1 e.2
  | o=>(ways m 0 S.2 (o,st)).bind fun e=>k e.1 e.2
 match (bM S.1 ds).sl t with
 | .bool b=>bif b then lI P A C L f n m x (bM S.1 ds) kc else lI P A C L f n m y (bM S.1 ds) kc
 | _=>none
theorem aog {t:Nat} {x y:Code} {S:Shape×List (Out×Shape)} (hS:A.km f (t*16+15)=some S) (hx:kU P A C L f n m x) (hy:kU P A C L f n m y) {I R:Type} (enc:I→List V) (rz:I→R→Nat×List V)
  (de:List V→I) (body:I→(β:Type)→(R→Option β)→Option β) (wj: ∀ds,bM S.1 (enc (de ds))=bM S.1 ds)
  (e1: ∀i (β:Type) (k:Nat→List V→Option β),TC P A C L f n m t S x y (enc i) k=body i β (fun r=>k (rz i r).1 (rz i r).2))
  (hl: ∀(β:Type) ds (k:Nat→List V→Option β),L β (t*16+15) ds k=body (de ds) β (fun r=>k (rz (de ds) r).1 (rz (de ds) r).2)):
  u9 P A C L f n m (.cond t x y):=by
 simp only[u9,hS];intro β ds k;rw[hl,←e1];unfold TC Fc;rw[wj];simp only;have hk: ∀(z:Option (Out×St)),(z.bind fun r=>(match r.1 with
   | .norm=>(ways m 0 S.2 (.norm,canon m (A.join f t) r.2)).bind fun e=>k e.1 e.2
   | o=>(ways m 0 S.2 (o,r.2)).bind fun e=>k e.1 e.2))=((z.bind fun r=>
   match r.1 with
   | .norm=>some (Out.norm,canon m (A.join f t) r.2)
   | _=>some r).bind fun r=>ways m 0 S.2 r).bind fun r=>k r.1 r.2:=by
  intro z;cases z with
  | none=>rfl
  | some r=>obtain ⟨o,st⟩:=r;cases o<;>rfl
 cases (bM S.1 ds).sl t with
 | bool b=>
  cases b with
  | true=>simp only[cond_true,KN P A C f n m x hx];exact hk _
  | false=>simp only[cond_false,KN P A C f n m y hy];exact hk _
 | _=>rfl
theorem bB {b:qu} {l:List qu} (h:u9 P A C L f n m b) (h2:qv P A C L f n m l):qv P A C L f n m (b::l):=⟨h,h2⟩
theorem av:qv P A C L f n m []:=trivial
theorem aoh {key:Nat} {bs:List qu} (hb:su A key (um P (A.jW key))=bs) (ht:qv P A (Call P A) L key (Fe P (A.jW key)) (A.sin key).cX.length bs) {ds:List V} {r:Option (List V)}
  (h:KO P A (Call P A) L key ds=r):Call P A key ds=r:=by
 rw[an7,ahU P A (Call P A) key (acJ hb ht),h]
end
section
variable (P:Program) (A:dr)
def lY (C:af) (N f n m:Nat):Code→St→Option (Out×St)
 | .skip,st=>some (.norm,st)
 | .region id ops draw,st=>(B9 P (A.here f id) C n ops draw st).bind fun st'=>some (.norm,canon m (A.live f id) (freeze m (A.pur f id) st'))
 | .seq a b,st=>(lY C N f n m a st).bind fun r=>
  match r.1 with
  | .norm=>lY C N f n m b r.2
  | _=>some r
 | .cond (.tmp t) x y,st=>
  let go (st:St):Option (Out×St):=
   match st.sl t with
   | .bool b=>(bif b then lY C N f n m x st else lY C N f n m y st).bind fun r=>
    match r.1 with
    | .norm=>some (.norm,canon m (A.join f t) r.2)
    | _=>some r
   | _=>none
  match A.km f (t*16+15) with
  | none=>go st
  | some S=>(mj m S.1 st).bind fun ds=>((go (bM S.1 ds)).bind fun r=>ways m 0 S.2 r).bind fun e=>ow 0 S.2 e.1 e.2 fun o st=>some (o,st)
 | .cond (.const (.bool b)) x y,st=>bif b then lY C N f n m x st else lY C N f n m y st
 | .block id c,st=>(lY C N f n m c st).bind fun r=>
  match r.1 with
  | .norm=>some (.norm,canon m (A.blk f id) r.2)
  | .exit ar=>bif Nat.beq ar id then some (.norm,canon m (A.blk f id) r.2) else some r
  | .ret=>some r
 | .loop c,st=>
  match A.km f (keyOf c+1) with
  | none=>none
  | some S=>(mj m S.1 st).bind fun ds=>(ic (fun ds=>pU m S.1 S.2 (lY C N f n m c (bM S.1 ds))) N ds).bind fun e=>ow 0 S.2 e.1 e.2 fun o st=>some (o,st)
 | .exit id,st=>some (.exit id,st)
 | .ret,st=>some (.ret,st)
 | _,_=>none
def TD (C:af) (N f:Nat) (ds:List V):Option (List V):=
 match P.funcs[A.jW f]? with
 | none=>none
 | some fn=>
  match fn.body with
  | none=>none
  | some c=>bif lH 0 (A.sin f).cu&&(Nat.ble (A.sin f).cu.length fn.ntmps&&((A.sin f).ok&&(lH 0 (A.je f).cu&&(Nat.beq (A.je f).cu.length fn.results.size&&sQ (qL (A.sin f).cX.length (A.mv f)))))) then
    (lY P A C N f fn.ntmps (A.sin f).cX.length c (Fb A f ds)).bind fun r=>
     match r.1 with
     | .exit _=>none
     | _=>((ze P A f fn (A.sin f).cX.length r.2).run C r.2.hp).map (·.1)
   else none
def Nz (N:Nat):Nat→af
 | 0=>fun _ _=>none
 | n+1=>TD P A (Nz N n) N
variable {P A}
theorem acK {X R:Type} {s1 s2:X→Option (X ⊕ R)} (h: ∀x y,s1 x=some y→s2 x=some y): ∀(n:Nat) (x:X) (r:R),ic s1 n x=some r→ic s2 n x=some r
 | 0,x,r,e=>by cases e
 | n+1,x,r,e=>by
  simp only[ic] at e⊢;obtain ⟨y,h1,h2⟩:=bind_some e;rw[h x y h1];cases y with
  | inl z=>exact acK h n z r h2
  | inr q=>exact h2
theorem aoi {C:af} {N f n m:Nat}: ∀(c:Code) {st:St} {r:Out×St},lY P A C N f n m c st=some r→exec P A C f n m c st=some r:=by
 intro c
 induction c with
 | skip=>exact fun e=>e
 | exit id=>exact fun e=>e
 | ret=>exact fun e=>e
 | region id ops draw=>exact fun e=>e
 | seq x y jI jJ=>
  intro st r e;simp only[lY,exec] at e⊢;obtain ⟨⟨o,s1⟩,h1,h2⟩:=bind_some e;rw[jI h1];cases o with
  | norm=>exact jJ h2
  | exit id=>exact h2
  | ret=>exact h2
 | cond c x y jI jJ=>
  intro st r e;cases c with
  | tmp t=>
   have go: ∀{st:St} {r:Out×St},(match st.sl t with
     | .bool b=>(bif b then lY P A C N f n m x st else lY P A C N f n m y st).bind fun r=>
      match r.1 with
      | .norm=>some (.norm,canon m (A.join f t) r.2)
      | _=>some r
     | _=>none)=some r→(match st.sl t with
     | .bool b=>(bif b then exec P A C f n m x st else exec P A C f n m y st).bind fun r=>
      match r.1 with
      | .norm=>some (.norm,canon m (A.join f t) r.2)
      | _=>some r
     | _=>none)=some r:=by
    intro st r e;cases hs:st.sl t<;>rw[hs] at e<;>simp only at e⊢ <;>first|(cases e;done)|skip
    rename_i b;obtain ⟨x1,h1,h2⟩:=bind_some e;cases b with
    | true=>simp only[cond_true,jI h1,Option.bind_some];exact h2
    | false=>simp only[cond_false,jJ h1,Option.bind_some];exact h2
   simp only[lY,exec] at e⊢;split at e
   ·rename_i hS
    try rw[hS]
    exact go e
   ·rename_i S hS;obtain ⟨ds,h1,h2⟩:=bind_some e;obtain ⟨e',h3,h4⟩:=bind_some h2;obtain ⟨r1,h5,h6⟩:=bind_some h3
    try rw[hS]
    simp only[h1,Option.bind_some];exact (congrArg (fun z:Option (Out×St)=>(z.bind fun r=>ways m 0 S.2 r).bind fun e=>ow 0 S.2 e.1 e.2 fun o st=>some (o,st)) (go h5)).trans (by simp only[Option.bind_some,h6];exact h4)
  | const v=>
   cases v with
   | bool b=>
    simp only[lY,exec] at e⊢;cases b with
    | true=>exact jI e
    | false=>exact jJ e
   | _=>simp only[lY] at e;cases e
  | _=>simp only[lY] at e;cases e
 | block id c ih=>
  intro st r e;simp only[lY,exec] at e⊢;obtain ⟨x1,h1,h2⟩:=bind_some e;rw[ih h1];exact h2
 | loop c ih=>
  intro st r e;simp only[lY,exec] at e⊢;split at e
  ·cases e
  ·rename_i S hS;obtain ⟨ds,h1,h2⟩:=bind_some e;obtain ⟨e',h3,h4⟩:=bind_some h2
   try rw[hS]
   simp only[h1,Option.bind_some];rw[BQ (acK (s2:=fun ds=>pU m S.1 S.2 (exec P A C f n m c (bM S.1 ds))) (fun x y HG=>by
    unfold pU at HG⊢;obtain ⟨z,h5,h6⟩:=bind_some HG;rw[ih h5];exact h6) N ds e' h3)]
   exact h4
 | _=>intro st r e;simp only[lY] at e;cases e
theorem aoj {C:af} {N f:Nat} {ds es:List V} (e:TD P A C N f ds=some es):sS P A C f ds=some es:=by
 unfold TD at e;unfold sS;cases hf:P.funcs[A.jW f]? with
 | none=>rw[hf] at e;cases e
 | some fn=>
  rw[hf] at e;simp only at e⊢;cases hb:fn.body with
  | none=>rw[hb] at e;cases e
  | some c=>
   rw[hb] at e;simp only at e⊢;cases hc:(lH 0 (A.sin f).cu&&(Nat.ble (A.sin f).cu.length fn.ntmps&&((A.sin f).ok&&(lH 0 (A.je f).cu&&(Nat.beq (A.je f).cu.length fn.results.size&&sQ (qL (A.sin f).cX.length (A.mv f))))))) with
   | false=>rw[hc] at e;cases e
   | true=>
    rw[hc] at e;simp only[cond_true] at e⊢;obtain ⟨x,h1,h2⟩:=bind_some e;rw[aoi c h1];exact h2
theorem acL {N:Nat}: ∀n {f:Nat} {a r:List V},Nz P A N n f a=some r→ox P A n f a=some r
 | 0,f,a,r,h=>by cases h
 | n+1,f,a,r,h=>by
  obtain ⟨M,hM⟩:=Ns (C:=Nz P A N n) (D:=fun _=>ox P A n) (fun f a r h=>⟨0,fun _ _=>acL n h⟩) (aoj h);exact hM M (aw _)
theorem aG {N n f:Nat} {a r:List V} (h:Nz P A N n f a=some r):Call P A f a=some r:=HH.2 ⟨n,acL n h⟩
end
inductive LK where
 | int (k:IntKind)
 | bool
 | str
 | list (e:TypeId)
 | nat
def LK.Ty:LK→Type
 | .int _=>Int
 | .bool=>Bool
 | .str=>List UInt8
 | .list _=>List V
 | .nat=>Nat
def LK.enc:(k:LK)→k.Ty→V
 | .int k,n=> .int k n
 | .bool,b=> .bool b
 | .str,s=> .str s
 | .list e,l=> .list e l
 | .nat,n=>gy n
def LK.dec:(k:LK)→V→k.Ty
 | .int _,v=>v.toInt
 | .bool,v=>v.toBool
 | .str,v=>v.toStr
 | .list _,v=>v.toList
 | .nat,v=>oW v
theorem LK.acM: ∀(k:LK) (x:k.Ty),k.dec (k.enc x)=x
 | .int _,_=>rfl
 | .bool,_=>rfl
 | .str,_=>rfl
 | .list _,_=>rfl
 | .nat,_=>rfl
def TE:List Nat→List LK
 | []=>[]
 | _::l=> .nat::TE l
def LS.ks:LS→List LK
 | .int k=>[.int k]
 | .bool=>[.bool]
 | .str=>[.str]
 | .list e=>[.list e]
 | .nl e=>[.list e]
 | .sub .. =>[.nat,.nat]
 | .ptr _=>[.nat,.nat]
 | .row _ _ cs=>TE cs
 | .dF _ cs _=> .nat::TE cs
 | _=>[]
def DF:List LS→List LK
 | []=>[]
 | l::ls=>l.ks++DF ls
def VS.ks:VS→List LK
 | .one l=>l.ks
 | .agg ls=>DF ls
 | .bd ls=>DF ls
 | .fn _ a b=>DF a++DF b
 | .pref _ ls=>DF ls
def acN:List VS→List LK
 | []=>[]
 | l::ls=>l.ks++acN ls
def BS.ks:BS→List LK
 | .var _ cs=>acN cs
 | .arr e _=>[.list e]
 | .nest e=>[.list e]
 | .dead=>[]
 | .map t=>[.list t]
def acO:List (Nat×VS)→List LK
 | []=>[]
 | p::l=>p.2.ks++acO l
def acP:List BS→List LK
 | []=>[]
 | b::l=>b.ks++acP l
def Shape.ks (S:Shape):List LK:=acO S.cu++acP S.cX
def TF:List Nat→List V→List V
 | [],_=>[]
 | _::cs,ds=>gy (oW (V.nth ds 0))::TF cs (ds.drop 1)
def LS.norm:LS→List V→List V
 | .int k,ds=>[.int k (V.nth ds 0).toInt]
 | .bool,ds=>[.bool (V.nth ds 0).toBool]
 | .str,ds=>[.str (V.nth ds 0).toStr]
 | .list e,ds=>[.list e (V.nth ds 0).toList]
 | .nl e,ds=>[.list e (V.nth ds 0).toList]
 | .sub ..,ds=>[gy (oW (V.nth ds 0)),gy (oW (V.nth ds 1))]
 | .ptr _,ds=>[gy (oW (V.nth ds 0)),gy (oW (V.nth ds 1))]
 | .row _ _ cs,ds=>TF cs ds
 | .dF _ cs _,ds=>gy (oW (V.nth ds 0))::TF cs (ds.drop 1)
 | _,_=>[]
def DG:List LS→List V→List V
 | [],_=>[]
 | l::ls,ds=>l.norm ds++DG ls (ds.drop l.size)
def VS.norm:VS→List V→List V
 | .one l,ds=>l.norm ds
 | .agg ls,ds=>DG ls ds
 | .bd ls,ds=>DG ls ds
 | .fn _ a b,ds=>DG a ds++DG b (ds.drop (nB a))
 | .pref _ ls,ds=>DG ls ds
def acQ:List VS→List V→List V
 | [],_=>[]
 | l::ls,ds=>l.norm ds++acQ ls (ds.drop l.size)
def BS.norm:BS→List V→List V
 | .var _ cs,ds=>acQ cs ds
 | .arr e _,ds=>[.list e (V.nth ds 0).toList]
 | .nest e,ds=>[.list e (V.nth ds 0).toList]
 | .dead,_=>[]
 | .map t,ds=>[.list t (V.nth ds 0).toList]
def acR:List (Nat×VS)→List V→List V
 | [],_=>[]
 | p::l,ds=>p.2.norm ds++acR l (ds.drop p.2.size)
def acS:List BS→List V→List V
 | [],_=>[]
 | b::l,ds=>b.norm ds++acS l (ds.drop b.size)
def Shape.norm (S:Shape) (ds:List V):List V:=acR S.cu ds++acS S.cX (ds.drop (sP S.cu))
def Au:LK→List LK→Type
 | k,[]=>k.Ty
 | k,k'::ks=>k.Ty×Au k' ks
def oO:List LK→Type
 | []=>Unit
 | k::ks=>Au k ks
def Av:(k:LK)→(ks:List LK)→Au k ks→List V
 | k,[],x=>[k.enc x]
 | k,k'::ks,x=>k.enc x.1::Av k' ks x.2
def ph:(ks:List LK)→oO ks→List V
 | [],_=>[]
 | k::ks,x=>Av k ks x
def HL:(k:LK)→(ks:List LK)→List V→Au k ks
 | k,[],l=>k.dec (V.nth l 0)
 | k,k'::ks,l=>(k.dec (V.nth l 0),HL k' ks l.tail)
def tK:(ks:List LK)→List V→oO ks
 | [],_=>()
 | k::ks,l=>HL k ks l
theorem acT: ∀(k:LK) (ks:List LK) (x:Au k ks) (r:List V),HL k ks (Av k ks x++r)=x
 | k,[],x,r=>LK.acM k x
 | k,k'::ks,x,r=>by
  show (k.dec (k.enc x.1),HL k' ks (Av k' ks x.2++r))=x;rw[LK.acM,acT k' ks];rfl
def DH:List LK→Type 1→Type 1
 | [],R=>R
 | k::ks,R=>k.Ty→DH ks R
def apN:(k:LK)→(ks:List LK)→{R:Type 1}→DH (k::ks) R→Au k ks→R
 | _,[],_,f,x=>f x
 | _,k'::ks,_,f,x=>apN k' ks (f x.1) x.2
def Aw:(ks:List LK)→{R:Type 1}→DH ks R→oO ks→R
 | [],_,f,_=>f
 | k::ks,_,f,x=>apN k ks f x
def DI {α:Type} (b:Bool):List Bool→List α→List α
 | [],_=>[]
 | _,[]=>[]
 | c::m,x::l=>bif c==b then x::DI b m l else DI b m l
def merge:List Bool→List V→List V→List V
 | [],_,_=>[]
 | true::m,i,x=>V.nth x 0::merge m i x.tail
 | false::m,i,x=>V.nth i 0::merge m i.tail x
def DJ:List Nat→List LK→List LK
 | [],_=>[]
 | _,[]=>[]
 | 0::t,k::ks=>k::DJ t ks
 | (_+1)::t,_::ks=>DJ t ks
abbrev jw:=List Nat×List LK
def jw.fresh (w:jw):List LK:=DJ w.1 w.2
def put:List Nat→List V→List V→List V
 | [],_,_=>[]
 | 0::t,ds,x=>V.nth x 0::put t ds x.tail
 | (j+1)::t,ds,x=>V.nth ds j::put t ds x
def Ax:List Nat→List V→List V
 | [],_=>[]
 | 0::t,l=>V.nth l 0::Ax t l.tail
 | (_+1)::t,l=>Ax t l.tail
def yz:jw→List jw→Type
 | w,[]=>oO w.fresh
 | w,w'::ws=>oO w.fresh ⊕ yz w' ws
def wP:List jw→Type
 | []=>Empty
 | w::ws=>yz w ws
def wN (ds:List V) {β:Type} (k:Nat→List V→Option β):Nat→(w:jw)→(ws:List jw)→yz w ws→Option β
 | j,w,[],r=>k j (put w.1 ds (ph w.fresh r))
 | j,w,w'::ws,r=>fX (fun x=>k j (put w.1 ds (ph w.fresh x))) (fun y=>wN ds k (j+1) w' ws y) r
def wT (ds:List V) {β:Type} (k:Nat→List V→Option β):(ws:List jw)→wP ws→Option β
 | [],r=>Empty.elim r
 | w::ws,r=>wN ds k 0 w ws r
def tL (ds:List V):Nat→(w:jw)→(ws:List jw)→yz w ws→Nat×List V
 | j,w,[],r=>(j,put w.1 ds (ph w.fresh r))
 | j,w,_::_,.inl x=>(j,put w.1 ds (ph w.fresh x))
 | j,_,w'::ws,.inr y=>tL ds (j+1) w' ws y
def DK (ds:List V):(ws:List jw)→wP ws→Nat×List V
 | [],r=>Empty.elim r
 | w::ws,r=>tL ds 0 w ws r
theorem acU (ds:List V) {β:Type} (k:Nat→List V→Option β): ∀(j:Nat) (w:jw) (ws:List jw) (r:yz w ws),wN ds k j w ws r=k (tL ds j w ws r).1 (tL ds j w ws r).2
 | _,_,[],_=>rfl
 | _,_,_::_,.inl _=>rfl
 | j,_,w'::ws,.inr y=>acU ds k (j+1) w' ws y
theorem NA (ds:List V) {β:Type} (k:Nat→List V→Option β): ∀(ws:List jw) (r:wP ws),wT ds k ws r=k (DK ds ws r).1 (DK ds ws r).2
 | [],r=>Empty.elim r
 | w::ws,r=>acU ds k 0 w ws r
def DL:Nat→(w:jw)→(ws:List jw)→List V→yz w ws
 | _,w,[],l=>tK w.fresh (Ax w.1 l)
 | 0,w,_::_,l=> .inl (tK w.fresh (Ax w.1 l))
 | j+1,_,w'::ws,l=> .inr (DL j w' ws l)
def deT (j:Nat):(ws:List jw)→List V→Option (wP ws)
 | [],_=>none
 | w::ws,l=>some (DL j w ws l)
def DM:List Nat→List V→List V
 | [],_=>[]
 | 0::t,x=>V.nth x 0::DM t x.tail
 | (_+1)::t,x=>DM t x
theorem TG: ∀(t:List Nat) (ds x:List V),Ax t (put t ds x)=DM t x
 | [],_,_=>rfl
 | 0::t,ds,x=>congrArg (V.nth x 0:: ·) (TG t ds x.tail)
 | (_+1)::t,ds,x=>TG t ds x
theorem TH: ∀(t:List Nat) (ks:List LK) (k:LK) (va:List LK),DJ t ks=k::va→∀x:Au k va,∃r,DM t (Av k va x)=Av k va x++r
 | [],_,_,_,h,_=>by cases h
 | _::_,[],_,_,h,_=>by simp[DJ] at h
 | 0::t,a::ks,k,va,h,x=>by
  simp only[DJ,y6] at h;obtain ⟨rfl,h2⟩:=h;cases va with
  | nil=>exact ⟨DM t [],rfl⟩
  | cons k' va=>
   obtain ⟨r,hr⟩:=TH t ks k' va h2 x.2;exact ⟨r,congrArg (a.enc x.1:: ·) hr⟩
 | (_+1)::t,a::ks,k,va,h,x=>TH t ks k va h x
theorem acW (w:jw) (ds:List V) (x:oO w.fresh):tK w.fresh (Ax w.1 (put w.1 ds (ph w.fresh x)))=x:=by
 rw[TG];revert x;generalize hf:w.fresh=f;cases f with
 | nil=>intro x;rfl
 | cons k ks=>
  intro x;obtain ⟨r,hr⟩:=TH w.1 w.2 k ks hf x;show HL k ks (DM w.1 (Av k ks x))=x;rw[hr];exact acT k ks x r
theorem acX (ds:List V): ∀(j:Nat) (w:jw) (ws:List jw) (r:yz w ws),j≤(tL ds j w ws r).1
 | _,_,[],_=>aw _
 | _,_,_::_,.inl _=>aw _
 | j,_,w'::ws,.inr y=>mM (Nat.le_succ j) (acX ds (j+1) w' ws y)
theorem aok (w:jw) (l:List V): ∀j,DL j w [] l=tK w.fresh (Ax w.1 l)
 | 0=>rfl
 | _+1=>rfl
theorem acY (ds:List V): ∀(j:Nat) (w:jw) (ws:List jw) (r:yz w ws),DL ((tL ds j w ws r).1-j) w ws (tL ds j w ws r).2=r
 | j,w,[],r=>(aok w _ _).trans (acW w ds r)
 | j,w,w'::ws,.inl x=>by
  show DL (j-j) w (w'::ws) (put w.1 ds (ph w.fresh x))= .inl x;rw[Nat.sub_self];exact congrArg Sum.inl (acW w ds x)
 | j,w,w'::ws,.inr y=>by
  have h1:=acX ds (j+1) w' ws y;have h2:=acY ds (j+1) w' ws y;show DL ((tL ds (j+1) w' ws y).1-j) w (w'::ws) (tL ds (j+1) w' ws y).2= .inr y;obtain ⟨d,hd⟩: ∃d,(tL ds (j+1) w' ws y).1=j+1+d:=⟨(tL ds (j+1) w' ws y).1-(j+1),by omega⟩
  rw[hd] at h2⊢;rw[show j+1+d-(j+1)=d by omega] at h2;rw[show j+1+d-j=d+1 by omega];exact congrArg Sum.inr h2
theorem aol (ds:List V): ∀(ws:List jw) (r:wP ws),deT (DK ds ws r).1 ws (DK ds ws r).2=some r
 | [],r=>Empty.elim r
 | w::ws,r=>congrArg some (acY ds 0 w ws r)
section
variable {P:Program} {A:dr} {C:af} {L:cL} {f n m:Nat}
theorem aom {c:Code} {S:Shape×List (Out×Shape)} (hS:A.km f (keyOf c+1)=some S) (hL:kU P A C L f n m c) {I X R:Type} (enc:I→X→List V) (rz:I→R→Nat×List V)
  (vb:List V→I) (wQ:List V→X) (NB:Nat×List V→Option R) (body:I→X→(β:Type)→(X→Option β)→(R→Option β)→Option β)
  (wj: ∀ds,bM S.1 (enc (vb ds) (wQ ds))=bM S.1 ds) (TI: ∀i x,wQ (enc i x)=x) (hdr: ∀i r,NB (rz i r)=some r)
  (e1: ∀i x (β:Type) (k:(List V ⊕ (Nat×List V))→Option β),lI P A C L f n m c (bM S.1 (enc i x)) (fun o st=>(pU m S.1 S.2 (some (o,st))).bind k)=
   body i x β (fun y=>k (.inl (enc i y))) (fun r=>k (.inr (rz i r))))
  (hl: ∀(β:Type) ds (k:Nat→List V→Option β),L β (keyOf c+1) ds k=(Loop (fun x=>body (vb ds) x (X ⊕ R) (fun y=>some (.inl y)) (fun r=>some (.inr r))) (wQ ds)).bind fun r=>k (rz (vb ds) r).1 (rz (vb ds) r).2):
  u9 P A C L f n m (.loop c):=by
 simp only[u9,hS];intro β ds k;rw[hl];have hex: ∀(z:Option (Out×St)),pU m S.1 S.2 z=z.bind fun r=>pU m S.1 S.2 (some (r.1,r.2)):=by
  intro z;cases z<;>rfl
 have hs: ∀i x,stepG P A C f n m S c (enc i x)=(body i x (X ⊕ R) (fun y=>some (.inl y)) (fun r=>some (.inr r))).map fun| .inl y=> .inl (enc i y)| .inr r=> .inr (rz i r):=by
  intro i x;have k1:=e1 i x _ (fun z=>some z);have k2:=e1 i x (X ⊕ R) (fun| .inl ds=>some (.inl (wQ ds))| .inr e=>(NB e).map .inr);have k3:=e1 i x (List V ⊕ (Nat×List V)) (fun| .inl ds=>some (.inl (enc i (wQ ds)))| .inr e=>(NB e).map fun r=> .inr (rz i r));simp only[TI,hdr,Option.map_some] at k2 k3;unfold stepG;rw[hex];rw[KN P A C f n m c hL] at k1 k2 k3;rw[←k2];refine Eq.trans ?_ (k1.trans (k3.symm.trans ?_))
  ·simp
  ·cases exec P A C f n m c (bM S.1 (enc i x)) with
   | none=>rfl
   | some r=>
    simp only[Option.bind_some];cases pU m S.1 S.2 (some (r.1,r.2)) with
    | none=>rfl
    | some z=>
     cases z with
     | inl _=>rfl
     | inr e=>simp only[Option.bind_some];cases NB e<;>rfl
 have h0:stepG P A C f n m S c ds=stepG P A C f n m S c (enc (vb ds) (wQ ds)):=by
  unfold stepG;rw[wj]
 have:Loop (stepG P A C f n m S c) ds=(Loop (fun x=>body (vb ds) x (X ⊕ R) (fun y=>some (.inl y)) (fun r=>some (.inr r))) (wQ ds)).map (rz (vb ds)):=by
  rw[Km,h0,←Km];exact ahS (enc (vb ds)) (rz (vb ds)) (fun x=>hs _ _) (wQ ds)
 rw[this];cases Loop (fun x=>body (vb ds) x (X ⊕ R) (fun y=>some (.inl y)) (fun r=>some (.inr r))) (wQ ds)<;>rfl
abbrev HM (S:Shape) (mk:List Bool):List LK:=DI false mk S.ks
abbrev Ay (S:Shape) (mk:List Bool):List LK:=DI true mk S.ks
def wR (ts:List (List Nat)) (W:List (Out×Shape)):List jw:=
 match ts,W with
 | t::ts,w::W=>(t,w.2.ks)::wR ts W
 | _,_=>[]
abbrev HN (S:Shape) (mk:List Bool) (i:oO (HM S mk)) (x:oO (Ay S mk)):List V:=merge mk (ph _ i) (ph _ x)
abbrev TJ (S:Shape) (mk:List Bool) (i:oO (HM S mk)):List V:=merge mk (ph _ i) []
abbrev NC (S:Shape) (mk:List Bool) (ds:List V):oO (HM S mk):=tK _ (DI false mk (S.norm ds))
abbrev ND (S:Shape) (mk:List Bool) (ds:List V):oO (Ay S mk):=tK _ (DI true mk (S.norm ds))
abbrev acZ (X R:Type):Type 1:=(β:Type)→(X→Option β)→(R→Option β)→Option β
abbrev NF (S:Shape×List (Out×Shape)) (mk:List Bool) (ts:List (List Nat)):Type 1:=DH (HM S.1 mk) (DH (Ay S.1 mk) (acZ (oO (Ay S.1 mk)) (wP (wR ts S.2))))
abbrev TK (S:Shape×List (Out×Shape)) (mk:List Bool) (ts:List (List Nat)) (b:NF S mk ts) (i:oO (HM S.1 mk)) (x:oO (Ay S.1 mk)):acZ (oO (Ay S.1 mk)) (wP (wR ts S.2)):=Aw _ (Aw _ b i) x
def TL (S:Shape×List (Out×Shape)) (mk:List Bool) (ts:List (List Nat)) (b:NF S mk ts) {β:Type} (ds:List V) (k:Nat→List V→Option β):Option β:=
 (Loop (fun x=>TK S mk ts b (NC S.1 mk ds) x (oO (Ay S.1 mk) ⊕ wP (wR ts S.2)) (fun y=>some (.inl y)) (fun r=>some (.inr r))) (ND S.1 mk ds)).bind (wT (TJ S.1 mk (NC S.1 mk ds)) k (wR ts S.2))
theorem bS {c:Code} (S:Shape×List (Out×Shape)) (mk:List Bool) (ts:List (List Nat)) (b:NF S mk ts) (hL:kU P A C L f n m c) (hS:A.km f (keyOf c+1)=some S:=by kernel_rfl)
  (wj: ∀ds,bM S.1 (HN S.1 mk (NC S.1 mk ds) (ND S.1 mk ds))=bM S.1 ds:=by intros;kernel_rfl) (TI: ∀i x,ND S.1 mk (HN S.1 mk i x)=x:=by intros;kernel_rfl)
  (e1: ∀i x (β:Type) (k:(List V ⊕ (Nat×List V))→Option β),lI P A C L f n m c (bM S.1 (HN S.1 mk i x)) (fun o st=>(pU m S.1 S.2 (some (o,st))).bind k)=
   TK S mk ts b i x β (fun y=>k (.inl (HN S.1 mk i y))) (wT (TJ S.1 mk i) (fun j l=>k (.inr (j,l))) (wR ts S.2)):=by intros;kernel_rfl)
  (hl: ∀(β:Type) ds (k:Nat→List V→Option β),L β (keyOf c+1) ds k=TL S mk ts b ds k:=by intros;kernel_rfl):
  u9 P A C L f n m (.loop c):=
 aom hS hL (HN S.1 mk) (fun i r=>DK (TJ S.1 mk i) _ r) (NC S.1 mk) (ND S.1 mk) (fun e=>deT e.1 _ e.2) (TK S mk ts b) wj TI (fun i r=>aol _ _ r)
  (fun i x β k=>by
   rw[e1];congr 1;funext r;exact NA _ _ _ r)
  (fun β ds k=>by
   rw[hl];unfold TL;congr 1;funext r;exact NA _ _ _ r)
abbrev TM (S:Shape×List (Out×Shape)) (ts:List (List Nat)):Type 1:=DH S.1.ks ((β:Type)→(wP (wR ts S.2)→Option β)→Option β)
def ac0 (S:Shape×List (Out×Shape)) (ts:List (List Nat)) (b:TM S ts) {β:Type} (ds:List V) (k:Nat→List V→Option β):Option β:=
 Aw S.1.ks b (tK _ (S.1.norm ds)) β (wT (ph S.1.ks (tK _ (S.1.norm ds))) k (wR ts S.2))
theorem Gl {t:Nat} {x y:Code} (S:Shape×List (Out×Shape)) (ts:List (List Nat)) (b:TM S ts) (hx:kU P A C L f n m x) (hy:kU P A C L f n m y) (hS:A.km f (t*16+15)=some S:=by kernel_rfl)
  (wj: ∀ds,bM S.1 (ph S.1.ks (tK _ (S.1.norm ds)))=bM S.1 ds:=by intros;kernel_rfl)
  (e1: ∀i (β:Type) (k:Nat→List V→Option β),TC P A C L f n m t S x y (ph S.1.ks i) k=Aw S.1.ks b i β (wT (ph S.1.ks i) k (wR ts S.2)):=by intros;kernel_rfl)
  (hl: ∀(β:Type) ds (k:Nat→List V→Option β),L β (t*16+15) ds k=ac0 S ts b ds k:=by intros;kernel_rfl):
  u9 P A C L f n m (.cond t x y):=
 aog hS hx hy (ph S.1.ks) (fun i r=>DK (ph S.1.ks i) _ r) (fun ds=>tK _ (S.1.norm ds)) (Aw S.1.ks b) wj
  (fun i β k=>by
   rw[e1];exact congrArg (Aw S.1.ks b i β) (funext fun r=>NA _ _ _ r))
  (fun β ds k=>by
   rw[hl];exact congrArg (Aw S.1.ks b (tK _ (S.1.norm ds)) β) (funext fun r=>NA _ _ _ r))
end
theorem bu {P:Program} {A:dr} {C:af} {L:cL} {f n m:Nat} {c:Code} {bs:List qu} (hb:qv P A C L f n m bs) (h:su A f c=bs:=by kernel_rfl):kU P A C L f n m c:=acJ h hb
theorem bI {P:Program} {A:dr} {L:cL} {key:Nat} {bs:List qu} {ds:List V} {r x:Option (List V)} (ht:qv P A (Call P A) L key (Fe P (A.jW key)) (A.sin key).cX.length bs) (h:x=r)
  (hb:su A key (um P (A.jW key))=bs:=by kernel_rfl) (e:KO P A (Call P A) L key ds=x:=by kernel_rfl):Call P A key ds=r:=aoh hb ht (e.trans h)
def bR (j:Nat) (S:Shape×List (Out×Shape)) (mk:List Bool) (ts:List (List Nat)) (b:NF S mk ts) (L:cL):cL:=fun β n ds k=>bif Nat.beq n j then TL S mk ts b ds k else L β n ds k
def Gk (j:Nat) (S:Shape×List (Out×Shape)) (ts:List (List Nat)) (b:TM S ts) (L:cL):cL:=fun β n ds k=>bif Nat.beq n j then ac0 S ts b ds k else L β n ds k
def bH:cL:=fun _ _ _ _=>none
abbrev LV:=List V
structure SE where
 T:TypeId
 cmp:Nat
 ex:V→List V
 k:Nat→Nat
abbrev CG (l:List V) (j:Int) {β:Type} (x:Option β):Option β:=bif (decide (0≤j))&&(decide (j<(l.length:Int))) then x else none
abbrev aM (l:List V) (j:Int) {β:Type} (f:V→Option β):Option β:=bif (decide (0≤j))&&(decide (j<(l.length:Int))) then (l[j.toNat]?).bind f else none
abbrev bm (l:List V) (j:Int) (v:V):List V:=l.set j.toNat v
end Go.AM
