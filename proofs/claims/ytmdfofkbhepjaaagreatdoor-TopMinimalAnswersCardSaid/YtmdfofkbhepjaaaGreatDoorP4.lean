/-
  Functions of the program, lifted to plain data.
-/
import Derived.Carry
import Derived.OpenShut
import Derived.Deep.Slices
import Derived.Test.YtmdfofkbhepjaaaGreatDoorP3
noncomputable section
set_option linter.unusedVariables false
set_option linter.unusedSimpArgs false
set_option linter.unusedSectionVars false
namespace Go.AM
open Go.IntKind (wrap)
section
variable {P:Program} {A:dw} {E:FuncId→Bool} {G:Nat→V} {w w':World} {I I' I2:Nat→Nat→Prop} {μ β β':Nat→Option Nat} {hp hp' hp0:Nat→Option ah} {C:af} {B:Nat} {M:Nat→Prop} {w0:Start}
def zJ (hp0:Nat→Option ah):Prop:= ∀id e es vers,(hp0 id=some (.nest e es vers)∨∃i,hp0 id=some (.out e es vers i))→∀k,bA vers k=0
theorem aaM {n m:Nat} {ord kp live:List Nat} {a:Act} {st:St} (sD:ord.Nodup) (Ga: ∀id,id<m→ord[id]? =some id∨∃p,ord[id]? =some p∧st.hp p=none) (S:az P w I β st.hp B M w0) (hT:tR P I β st.hp) (hA:iO P E G w I β n a st) (hE:oR w0.w w0.I μ hp0 w I β st.hp) (hm: ∀id blk,hp0 id=some blk→id<m) (mi:zJ hp0):
  ∃β',az P w I β' (BG ord kp live st).hp B M w0∧iO P E G w I β' n a (BG ord kp live st)∧oR w0.w w0.I μ hp0 w I β' (BG ord kp live st).hp:=by
 have alJ:BG ord kp live st=mk (po st.hp ord st.sl (ord.length+(je st.hp ord kp ord.length ord).2.length) live).1
   ((je st.hp ord kp ord.length ord).1++((je st.hp ord kp ord.length ord).2++(po st.hp ord st.sl (ord.length+(je st.hp ord kp ord.length ord).2.length) live).2)):=by
  rfl
 rw[alJ]
 let hp':=ni ((je st.hp ord kp ord.length ord).1++((je st.hp ord kp ord.length ord).2++(po st.hp ord st.sl (ord.length+(je st.hp ord kp ord.length ord).2.length) live).2))
 let β':Nat→Option Nat:=fun j=>if j<ord.length then (ord[j]?).bind β else none
 have hlen:(je st.hp ord kp ord.length ord).1.length=ord.length:=aaJ;have nD: ∀j,j<ord.length→hp' j=(je st.hp ord kp ord.length ord).1[j]? :=by
  intro j hj;simp only[hp',kO];rw[n0 (by omega)]
 have mg: ∀k,hp' (ord.length+k)=((je st.hp ord kp ord.length ord).2++(po st.hp ord st.sl (ord.length+(je st.hp ord kp ord.length ord).2.length) live).2)[k]? :=by
  intro k;simp only[hp',kO];rw[o9 (by omega),hlen,Jv]
 have hF:oT hp' β' ord.length ((je st.hp ord kp ord.length ord).2++(po st.hp ord st.sl (ord.length+(je st.hp ord kp ord.length ord).2.length) live).2):=by
  intro k b hb;refine ⟨(mg k).trans hb,?_⟩;simp only[β'];rw[dh]
 have F7:qI ((je st.hp ord kp ord.length ord).2++(po st.hp ord st.sl (ord.length+(je st.hp ord kp ord.length ord).2.length) live).2):=aaI.app aaG;have sY: ∀(j:Nat) id,ord[j]? =some id→β' j=β id:=by
  intro j id hj;simp only[β'];rw[aB (cw.1 hj).1,hj];rfl
 have uw: ∀(j:Nat) id,ord[j]? =some id→∃n',oT hp' β' n' (gr st.hp ord kp n' id).2∧hp' j=some (gr st.hp ord kp n' id).1:=by
  intro j id hj;obtain ⟨n',h1,h2⟩:=aaK (hp:=st.hp) (hp':=hp') (β':=β') (ord:=ord) (kp:=kp) (n:=ord.length) hj;exact ⟨n',h1 hF.left,(nD j (cw.1 hj).1).trans h2⟩
 have hR:CE st.hp β ord hp' β':=by
  refine ⟨fun j id e es fz hj ae=> ?_,fun j id T cs hj ae=> ?_,fun j id hj ae=> ?_,fun j id e es vs i hj ae=> ?_,sY,fun j id e es vers hj ae=> ?_,fun j id t es hj ae=> ?_⟩
  ·obtain ⟨n',_,h2⟩:=uw j id hj;rw[h2];simp only[gr,ae]
  ·obtain ⟨n',_,h2⟩:=uw j id hj;rw[h2];simp only[gr,ae];exact ⟨_,rfl⟩
  ·obtain ⟨n',_,h2⟩:=uw j id hj;rw[h2];simp only[gr,ae]
  ·obtain ⟨n',_,h2⟩:=uw j id hj;rw[h2];simp only[gr,ae]
  ·obtain ⟨n',_,h2⟩:=uw j id hj;rw[h2];simp only[gr,ae]
  ·obtain ⟨n',_,h2⟩:=uw j id hj;rw[h2];simp only[gr,ae]
 have cls: ∀j blk',hp' j=some blk'→(∃id,ord[j]? =some id∧((blk'= .dead)∨∃blk,st.hp id=some blk∧blk≠ .dead∧∀o b,bf P w o blk' b→bf P w o blk b))∨(∃e,blk'= .arr e [] false∧β' j=none):=by
  intro j blk' hj;rcases jq j ord.length with h|h
  ·have dX:=bU h;obtain ⟨n',_,h2⟩:=uw j _ dX;rw[hj] at h2;refine .inl ⟨_,dX,?_⟩;cases ae:st.hp ord[j] with
   | none=>left;simp only[gr,ae] at h2;exact dL h2
   | some blk=>
    cases blk with
    | dead=>left;simp only[gr,ae] at h2;exact dL h2
    | out _ _ _ _=>left;simp only[gr,ae] at h2;exact dL h2
    | var T0 cs=>exact .inr ⟨_,rfl,by simp,fun o b h=>by simp only[gr,ae] at h2;rw[dL h2] at h;exact .root (by simp) (h.flat (by simp))⟩
    | arr e es fz=>exact .inr ⟨_,rfl,by simp,fun o b h=>by simp only[gr,ae] at h2;rw[dL h2] at h;exact .root (by simp) (h.flat (by simp))⟩
    | map t es=>exact .inr ⟨_,rfl,by simp,fun o b h=>by simp only[gr,ae] at h2;rw[dL h2] at h;exact .root (by simp) (h.flat (by simp))⟩
    | nest e es vers=>
     refine .inr ⟨_,rfl,by simp,fun o b h=> ?_⟩;simp only[gr,ae] at h2;rw[dL h2] at h;cases h with
     | root _ h=>exact .root (by simp) h
     | row h1 h2=>exact .row h1 h2
  ·obtain ⟨k,rfl⟩: ∃k,j=ord.length+k:=⟨j-ord.length,by omega⟩
   rw[mg] at hj;obtain ⟨e,he⟩:=F7 _ (my hj);exact .inr ⟨e,he,(hF k _ hj).2⟩
 refine ⟨β',⟨⟨fun j blk' hj=> ?_,fun j1 j2 b1 b2 b e1 e2 f1 f2=> ?_,fun j blk b e1 f1=> ?_,S.h.jQ⟩,S.cI,S.size,S.new,S.io⟩,⟨fun k=> ?_,hA.size,hA.defers,hA.aE⟩,⟨hE.eg,hE.cI,fun id blk ae=> ?_,fun id blk blk' b ae bW hd hb=> ?_⟩⟩
 ·change hp' j=some blk' at hj;rcases jq j ord.length with h|h
  ·have dX:=bU h;obtain ⟨n',hF',h2⟩:=uw j _ dX;rw[hj] at h2;rw[sY j _ dX];cases ae:st.hp ord[j] with
   | none=>simp only[gr,ae] at h2;rw[dL h2];exact .dead
   | some blk=>
    have hr:=S.h.rel _ _ ae;generalize β ord[j]=o at hr;cases hr with
    | dead=>simp only[gr,ae] at h2;rw[dL h2];exact .dead
    | out=>simp only[gr,ae] at h2;rw[dL h2];exact .dead
    | ey hb=>simp only[gr,ae] at h2;rw[dL h2];exact .ey hb
    | arr a0 a1 a2 a3 a4 a5 a6 a7=>simp only[gr,ae] at h2;rw[dL h2];exact .arr a0 a1 a2 a3 a4 a5 a6 a7
    | nest a1 a2 a3=>simp only[gr,ae] at h2;rw[dL h2];exact .nest a1 a2 a3
    | iY a1=>simp only[gr,ae] at h2;rw[dL h2];exact .iY a1
    | map a1 a2 a3 a4 a5 a6 a7=>simp only[gr,ae] at h2;rw[dL h2];exact .map a1 a2 a3 a4 a5 a6 a7
    | @var xs b Ca T hb hh hs dj hx iK=>
     simp only[gr,ae] at h2 hF';rw[dL h2];exact .var hb hh (by rw[LM];exact hs) dj (fun i v y hi hy=>LN S hT hR (vs:=Ca.toList) (fun i v x hi dd=>hx i v x (by simpa using hi) dd) hF' i v y (by simpa using hi) hy) iK
  ·rcases cls j blk' hj with ⟨id,ae,_⟩|⟨e,he,hb⟩
   ·have:=(cw.1 ae).1;omega
   ·rw[he];exact .ey hb
 ·rcases cls j1 b1 e1 with ⟨dx,o1,x1⟩|⟨e,_,hb⟩
  ·rcases cls j2 b2 e2 with ⟨aH,o2,x2⟩|⟨e,_,hb⟩
   ·obtain ⟨c1,y1,z1,g1⟩:=x1.resolve_left f1.alive;obtain ⟨c2,y2,z2,g2⟩:=x2.resolve_left f2.alive;rw[sY _ _ o1] at f1;rw[sY _ _ o2] at f2;have:=S.h.inj dx aH c1 c2 b y1 y2 (g1 _ _ f1) (g2 _ _ f2);subst this;obtain ⟨q1,q2⟩:=cw.1 o1;obtain ⟨q3,q4⟩:=cw.1 o2;exact (List.getElem_inj sD).1 (q2.trans q4.symm)
   ·subst ‹b2=_›;have:=f2.flat (by simp);rw[hb] at this;cases this
  ·subst ‹b1=_›;have:=f1.flat (by simp);rw[hb] at this;cases this
 ·rcases cls j blk e1 with ⟨dx,o1,x1⟩|⟨e,_,hb⟩
  ·obtain ⟨c1,y1,z1,g1⟩:=x1.resolve_left f1.alive;rw[sY _ _ o1] at f1;exact S.h.own dx c1 b y1 (g1 _ _ f1)
  ·subst ‹blk=_›;have:=f1.flat (by simp);rw[hb] at this;cases this
 ·change aj P w I β' hp' (a.tmps.getD k undef) (mC _ k);unfold mC;cases Fq:fF (po st.hp ord st.sl (ord.length+(je st.hp ord kp ord.length ord).2.length) live).1 k with
  | none=>exact .undef
  | some y=>
   obtain ⟨n',h1,h2⟩:=aaH hF.right Fq;simp only[Option.getD_some,h2];exact alG S hT hR (hA.sl k) h1
 ·obtain ⟨uo,k1,k2,k3⟩:=hE.blk id blk ae;rcases Ga id (hm id blk ae) with ho|⟨p,ho,bK⟩
  ·cases uo with
   | dead=>exact ⟨.dead,hR.dead id id ho k1,k2,fun h=>absurd rfl h⟩
   | out e es vs i=>exact ⟨.dead,hR.out id id _ _ _ _ ho k1,by cases blk<;>trivial,fun h=>absurd rfl h⟩
   | var T0 cs=>
    obtain ⟨lu,h'⟩:=hR.var id id T0 cs ho k1;refine ⟨_,h',?_,fun _=>(sY id id ho).trans (k3 (by simp))⟩;cases blk<;>simp_all [ah.le]
   | arr e es fz=>exact ⟨_,hR.arr id id e es fz ho k1,k2,fun _=>(sY id id ho).trans (k3 (by simp))⟩
   | map t es=>exact ⟨_,hR.map id id t es ho k1,k2,fun _=>(sY id id ho).trans (k3 (by simp))⟩
   | nest e es vers=>
    refine ⟨_,hR.nest id id e es vers ho k1,?_,fun _=>(sY id id ho).trans (k3 (by simp))⟩;rcases ah.Xc k2 with ⟨K4,alK,rfl,l1,l2,_⟩|⟨K4,alK,i0,rfl,l1,l2,_⟩
    ·exact ⟨rfl,l1,by simpa using l2,fun k=>by rw[mi id _ _ _ (.inl ae) k];exact nf _⟩
    ·exact ⟨rfl,l1,by simpa using l2,fun k=>by rw[mi id _ _ _ (.inr ⟨_,ae⟩) k];exact nf _⟩
  ·obtain ⟨n',_,h2⟩:=uw id p ho;simp only[gr,bK] at h2;exact ⟨.dead,h2,by cases blk<;>trivial,fun h=>absurd rfl h⟩
 ·obtain ⟨uo,k1,k2,k3⟩:=hE.blk id blk ae;rcases Ga id (hm id blk ae) with ho|⟨p,ho,bK⟩
  ·refine hE.size id blk uo b ae k1 (fun vZ=> ?_) hb;subst vZ;have:=hR.dead id id ho k1;change hp' id=some blk' at bW;rw[this] at bW;exact hd (dL bW).symm
  ·obtain ⟨n',_,h2⟩:=uw id p ho;simp only[gr,bK] at h2;change hp' id=some blk' at bW;rw[h2] at bW;exact absurd (dL bW).symm hd
theorem alL {n m:Nat} {live:List Nat} {a:Act} {st:St} (S:az P w I β st.hp B M w0) (hT:tR P I β st.hp) (hA:iO P E G w I β n a st) (hE:oR w0.w w0.I μ hp0 w I β st.hp) (hm: ∀id blk,hp0 id=some blk→id<m) (mi:zJ hp0):
  ∃β',az P w I β' (canon m live st).hp B M w0∧iO P E G w I β' n a (canon m live st)∧oR w0.w w0.I μ hp0 w I β' (canon m live st).hp:=by
 obtain ⟨t,Ga,sD⟩:=alI (m:=m) (live:=live) (st:=st);refine aaM (by rw[Ga];exact sD) (fun id aZ=> .inl ?_) S hT hA hE hm mi;rw[Ga,n0 (by simpa using aZ)];simp[aZ]
theorem aaN: ∀{l:List Nat},sn l=true→l.Nodup
 | [],_=> .nil
 | a::l,h=>by
  simp only[sn,aJ,mZ] at h;rw[List.nodup_cons];exact ⟨fun hm=>Bool.noConfusion ((yW hm).symm.trans h.1),aaN h.2⟩
theorem alM {m:Nat} {mv:List Nat} {id:Nat} (h:id<m):(ql m mv)[id]? =some id∨(ql m mv)[id]? =some (m+id):=by
 unfold ql;rw[n0 (by simpa using h),ld];simp only[Jy h,Option.map_some];cases iF mv id with
 | true=>exact .inr rfl
 | false=>exact .inl rfl
end
section
variable {P:Program} {A:dw} {w w':World} {I I' I2:Nat→Nat→Prop} {μ β β':Nat→Option Nat} {hp hp' hp0:Nat→Option ah} {C:af} {B:Nat} {M:Nat→Prop} {w0:Start}
theorem LO (p:Nat→Prop) (h: ∃n,p n): ∃n,p n∧∀m,p m→n≤m:=by
 obtain ⟨n,hn⟩:=h
 induction n using Nat.strongRecOn with
 | _ n ih=>
  by_cases hx: ∃m,m<n∧p m
  ·obtain ⟨m,hm,hp⟩:=hx;exact ih m hm hp
  ·exact ⟨n,hn,fun m hm=>Nat.le_of_not_lt fun aZ=>hx ⟨m,aZ,hm⟩⟩
open Classical in
theorem alN {c:Code} {Q:Exit→Act→World→Prop} (J:Nat→Act→World→Prop) (h0: ∀a w,¬J 0 a w) (round: ∀n a w,J (n+1) a w→c.wp P (Exit.then (J n) Q) a w) {n:Nat} {a:Act} {w:World} (h:J n a w):
  (Code.loop c).wp P Q a w:=by
 refine wp_loop (fun a w=> ∃n,J n a w) (fun a w=>if h: ∃n,J n a w then (LO _ h).choose else 0) ⟨n,h⟩ fun a w hJ=> ?_;obtain ⟨h1,h2⟩:=(LO _ hJ).choose_spec;generalize hk:(LO _ hJ).choose=k at h1 h2;cases k with
 | zero=>exact absurd h1 (h0 a w)
 | succ k=>
  refine wp_mono (round k a w h1) fun e a' w' he=> ?_;cases e with
  | normal=>
   have hex: ∃n,J n a' w':=⟨k,he⟩
   refine ⟨hex,?_⟩;have h3:=(LO _ hex).choose_spec.2 k he;rw[wO hex,wO hJ,hk];omega
  | _=>exact he
def CF:Out→Exit
 | .norm=> .normal
 | .exit id=> .exit id
 | .ret=> .ret
def Inv (P:Program) (E:FuncId→Bool) (G:Nat→V) (B:Nat) (M:Nat→Prop) (w0:Start) (μ:Nat→Option Nat) (hp0:Nat→Option ah) (n:Nat) (a:Act) (w:World) (st:St):Prop:=
 ∃I β,az P w I β st.hp B M w0∧iO P E G w I β n a st∧oR w0.w w0.I μ hp0 w I β st.hp
theorem Inv.canon {E:FuncId→Bool} {G:Nat→V} {n m:Nat} {a:Act} {st:St} {live:List Nat} (h:Inv P E G B M w0 μ hp0 n a w st) (hm: ∀id blk,hp0 id=some blk→id<m) (mi:zJ hp0):Inv P E G B M w0 μ hp0 n a w (canon m live st):=by
 obtain ⟨I0,β,S,hA,hE⟩:=h;obtain ⟨I,h1,S,hA,hT⟩:=aay S hA;obtain ⟨β',a,b,c⟩:=alL (live:=live) S hT hA (hE.trans h1.Ct) hm mi;exact ⟨I,β',a,b,c⟩
theorem LP: ∀{l:List BS} {ds:List V},(gY l ds).length=l.length
 | [],_=>rfl
 | b::l,ds=>by simp only[gY,List.length_cons,LP]
theorem Inv.enter {A:dw} {E:FuncId→Bool} {G:Nat→V} {n f:Nat} {ds:List V} {a:Act} (oq:sn (ql (A.sin f).cT.length (A.mv f))=true) (h:Inv P E G B M w0 μ hp0 n a w (bM (A.sin f) ds)) (hm: ∀id blk,hp0 id=some blk→id<(A.sin f).cT.length)
  (mi:zJ hp0) (aaO: ∀p,(A.sin f).cT.length≤p→(bM (A.sin f) ds).hp p=none):Inv P E G B M w0 μ hp0 n a w (EC A f ds):=by
 unfold EC;split
 ·exact h
 ·obtain ⟨I0,β,S,hA,hE⟩:=h;obtain ⟨I,h1,S,hA,hT⟩:=aay S hA;obtain ⟨β',x,y,z⟩:=aaM (kp:=[]) (m:=(A.sin f).cT.length) (ord:=ql (A.sin f).cT.length (A.mv f)) (live:=(A.sin f).cp.map (·.1)) (aaN oq) (fun id ae=>(alM ae).imp (fun h=>h) fun h=>⟨_,h,aaO _ (by omega)⟩) S hT hA (hE.trans h1.Ct) hm mi;exact ⟨I,β',x,y,z⟩
theorem Inv.reshape {E:FuncId→Bool} {G:Nat→V} {n m:Nat} {a:Act} {st:St} {S:Shape} {ds:List V} (h:Inv P E G B M w0 μ hp0 n a w st) (hs:lV m S st=some ds) (hm: ∀id blk,hp0 id=some blk→id<m):Inv P E G B M w0 μ hp0 n a w (bM S ds):=by
 obtain ⟨I,β,S1,hA,hE⟩:=h;obtain ⟨r1,r2,_,r4⟩:=AM.reshape hs S1;refine ⟨I,β,r1,⟨fun k=>r2 k _ (hA.sl k),hA.size,hA.defers,hA.aE⟩,⟨hE.eg,hE.cI,fun id blk ae=> ?_,fun id blk blk' b ae bW hd hb=> ?_⟩⟩
 ·obtain ⟨uo,k1,k2,k3⟩:=hE.blk id blk ae;obtain ⟨_,hle,_⟩:=ZC hs;have hl:=hm id blk ae;obtain ⟨cA,h2⟩: ∃cA,(bM S ds).hp id=some cA:=by
   simp only[bM,mk,kO];exact ⟨_,bU (by rw[LP];omega)⟩
  by_cases hd:cA= .dead
  ·subst hd;exact ⟨_,h2,by cases blk<;>trivial,fun h=>absurd rfl h⟩
  ·obtain ⟨ku,e1,e2,_⟩:=r4 id cA h2 hd;rw[k1] at e1;cases e1;exact ⟨_,h2,ah.le_trans k2 e2,fun _=>k3 (fun e=>hd (ah.tO (e▸e2)))⟩
 ·obtain ⟨ku,e1,e2,_⟩:=r4 id blk' bW hd;exact hE.size id blk ku b ae e1 (fun e=>hd (ah.tO (e▸e2))) hb
theorem oS.here (h:oS P A C) (f:Nat) (id:Nat):oS P (A.here f id) C:=by
 intro key ds es hh;obtain ⟨fn,c,h1,h2,h3⟩:=h key ds es hh;refine ⟨fn,c,h1,h2,fun w I μ vals a g b d=>(h3 w I μ vals a g b d).mono fun e w' hx=> ?_⟩;obtain ⟨v,I2,cB,q1,q2⟩:=hx;exact ⟨v,I2,cB,q1,⟨q2.Cu,q2.le,q2.res⟩⟩
theorem alO {a b:Out} (h:J1 a b=true):a=b:=by
 cases a<;>cases b<;>simp[J1] at h<;>first|rfl|(subst h;rfl)
theorem aaP {m:Nat} {r:Out×St}: ∀{l:List (Out×Shape)} {j:Nat} {e:Nat×List V},ways m j l r=some e→j≤e.1
 | [],j,e,h=>by cases h
 | (o,S)::l,j,e,h=>by
  simp only[ways] at h;split at h
  ·cases h;exact aw _
  ·have:=aaP h;omega
theorem RR {m:Nat} {o:Out} {s:St} {out:Out} {st':St}: ∀{l:List (Out×Shape)} {k:Nat} {e:Nat×List V},ways m k l (o,s)=some e→n9 k l e.1 e.2 (fun o st=>some (o,st))=some (out,st')→
  out=o∧∃S,lV m S s=some e.2∧st'=bM S e.2
 | [],k,e,h,_=>by cases h
 | (o',S)::l,k,e,h,h2=>by
  simp only[ways] at h;split at h
  ·rename_i ds hx;cases h;cases ho:J1 o' o with
   | false=>rw[ho] at hx;cases hx
   | true=>
    rw[ho] at hx;have:=alO ho;subst this;cases l with
    | nil=>
     simp only[n9,fb,ng] at h2;exact ⟨h2.1.symm,S,hx,h2.2.symm⟩
    | cons p l=>
     simp only[n9,nZ,cond_true,fb,ng] at h2;exact ⟨h2.1.symm,S,hx,h2.2.symm⟩
  ·have qA:=aaP h;cases l with
   | nil=>cases h
   | cons p l=>
    have bN:Nat.beq e.1 k=false:=by
     cases hb:Nat.beq e.1 k with
     | false=>rfl
     | true=>rw[aL] at hb;omega
    simp only[n9,bN,cond_false] at h2;exact RR h h2
theorem alP (hC:oS P A C) (hP:kP P A) (rO:P.follows .mixedOrders=true) {f n m:Nat} (hm: ∀id blk,hp0 id=some blk→id<m) (mi:zJ hp0):
  ∀(c:Code) {st st':St} {out:Out} {Q:Exit→Act→World→Prop} {a:Act} {w:World},exec P A C f n m c st=some (out,st')→Inv P A.idle A.aE B M w0 μ hp0 n a w st→
   (∀a' w',Inv P A.idle A.aE B M w0 μ hp0 n a' w' st'→Q (CF out) a' w')→c.wp P Q a w:=by
 intro c
 induction c with
 | skip=>
  intro st st' out Q a w h hI hQ;simp only[exec,fb,ng] at h;obtain ⟨rfl,rfl⟩:=h;exact wp_skip (hQ a w hI)
 | exit id=>
  intro st st' out Q a w h hI hQ;simp only[exec,fb,ng] at h;obtain ⟨rfl,rfl⟩:=h;exact wp_exit (hQ a w hI)
 | ret=>
  intro st st' out Q a w h hI hQ;simp only[exec,fb,ng] at h;obtain ⟨rfl,rfl⟩:=h;exact wp_ret (hQ a w hI)
 | region id ops draw=>
  intro st st' out Q a w h hI hQ;simp only[exec] at h;obtain ⟨mh,h1,h2⟩:=bind_some h;simp only[fb,ng] at h2;obtain ⟨rfl,rfl⟩:=h2;obtain ⟨I,β,S,hA,hE⟩:=hI;refine alB (hC.here f id) (hP.here f id) rO h1 S hA fun a' w' I' β' k1 k2 k3=> ?_;obtain ⟨I2,cB,l1,l2,l3⟩:=aaA (m:=m) (pur:=A.pur f id) k2 k3;have hE2:=(hE.trans k1.Ct).trans l1.Ct;exact hQ a' w' (Inv.canon ⟨I2,cB,l2,l3,hE2⟩ hm mi)
 | seq x y jv jw=>
  intro st st' out Q a w h hI hQ;simp only[exec] at h;obtain ⟨⟨o1,mh⟩,h1,h2⟩:=bind_some h;refine wp_seq (jv h1 hI fun a' w' gG=> ?_);cases o1 with
  | norm=>exact jw h2 gG hQ
  | exit id=>
   simp only[fb,ng] at h2;obtain ⟨rfl,rfl⟩:=h2;exact hQ a' w' gG
  | ret=>
   simp only[fb,ng] at h2;obtain ⟨rfl,rfl⟩:=h2;exact hQ a' w' gG
 | cond c x y jv jw=>
  intro st st' out Q a w h hI hQ;cases c with
  | tmp t=>
   have go: ∀{st st':St} {out:Out} {Q:Exit→Act→World→Prop} {a:Act} {w:World},(match st.sl t with
     | .bool b=>(bif b then exec P A C f n m x st else exec P A C f n m y st).bind fun r=>
      match r.1 with
      | .norm=>some (.norm,AM.canon m (A.join f t) r.2)
      | _=>some r
     | _=>none)=some (out,st')→Inv P A.idle A.aE B M w0 μ hp0 n a w st→(∀a' w',Inv P A.idle A.aE B M w0 μ hp0 n a' w' st'→Q (CF out) a' w')→(Code.cond (.tmp t) x y).wp P Q a w:=by
    intro st st' out Q a w h hI hQ;cases hs:st.sl t<;>rw[hs] at h<;>simp only at h<;>first|(cases h;done)|skip
    rename_i b;obtain ⟨⟨o1,mh⟩,h1,h2⟩:=bind_some h;obtain ⟨I,β,S,hA,hE⟩:=hI;have gL:a.eval (.tmp t)= .bool b:=by
     have:=aab hA hs;simp[Act.eval,this]
    have fin: ∀a' w',Inv P A.idle A.aE B M w0 μ hp0 n a' w' mh→Q (CF o1) a' w':=by
     intro a' w' gG;cases o1 with
     | norm=>
      simp only[fb,ng] at h2;obtain ⟨rfl,rfl⟩:=h2;exact hQ a' w' (gG.canon hm mi)
     | exit id=>
      simp only[fb,ng] at h2;obtain ⟨rfl,rfl⟩:=h2;exact hQ a' w' gG
     | ret=>
      simp only[fb,ng] at h2;obtain ⟨rfl,rfl⟩:=h2;exact hQ a' w' gG
    refine wp_cond gL ?_;cases b with
    | true=>exact jv h1 ⟨I,β,S,hA,hE⟩ fin
    | false=>exact jw h1 ⟨I,β,S,hA,hE⟩ fin
   simp only[exec] at h;split at h
   ·exact go h hI hQ
   ·obtain ⟨ds,h1,h2⟩:=bind_some h;obtain ⟨e,h3,h4⟩:=bind_some h2;obtain ⟨⟨o1,s1⟩,h5,h6⟩:=bind_some h3;obtain ⟨rfl,S',k1,rfl⟩:=RR h6 h4;exact go h5 (hI.reshape h1 hm) fun a' w' gG=>hQ a' w' (gG.reshape k1 hm)
  | const v=>
   cases v with
   | bool b=>
    simp only[exec] at h;refine wp_cond (t:=b) rfl ?_;cases b with
    | true=>exact jv h hI hQ
    | false=>exact jw h hI hQ
   | _=>simp only[exec] at h;cases h
  | _=>simp only[exec] at h;cases h
 | block id c ih=>
  intro st st' out Q a w h hI hQ;simp only[exec] at h;obtain ⟨⟨o1,mh⟩,h1,h2⟩:=bind_some h;refine wp_block (ih h1 hI fun a' w' gG=> ?_);cases o1 with
  | norm=>
   simp only[fb,ng] at h2;obtain ⟨rfl,rfl⟩:=h2;exact hQ a' w' (gG.canon hm mi)
  | exit ar=>
   simp only at h2;cases hb:Nat.beq ar id with
   | true=>
    rw[hb] at h2;simp only[cond_true,fb,ng] at h2;obtain ⟨rfl,rfl⟩:=h2;rw[aL] at hb;simp only[CF,Exit.inBlock,hb,sf];exact hQ a' w' (gG.canon hm mi)
   | false=>
    rw[hb] at h2;simp only[cond_false,fb,ng] at h2;obtain ⟨rfl,rfl⟩:=h2;have bN:ar≠id:=fun e=>by rw[e,nZ] at hb;cases hb
    simp only[CF,Exit.inBlock,bN,tB];exact hQ a' w' gG
  | ret=>
   simp only[fb,ng] at h2;obtain ⟨rfl,rfl⟩:=h2;exact hQ a' w' gG
 | loop c ih=>
  intro st st' out Q a w h hI hQ;simp only[exec] at h;split at h
  ·cases h
  ·rename_i S hS;obtain ⟨ds,h1,h2⟩:=bind_some h;obtain ⟨e,h3,h4⟩:=bind_some h2;obtain ⟨k,hk⟩:=Bs h3;refine alN (J:=fun k a w=> ∃ds,Inv P A.idle A.aE B M w0 μ hp0 n a w (bM S.1 ds)∧gW (fun ds=>pq m S.1 S.2 (exec P A C f n m c (bM S.1 ds))) k ds=some e) (fun a w ⟨s,_,h⟩=>by cases h) (fun k a w ⟨ds,hs,hk⟩=> ?_) ⟨ds,hI.reshape h1 hm,hk⟩;simp only[gW] at hk;obtain ⟨y,h5,h6⟩:=bind_some hk;unfold pq at h5;obtain ⟨⟨o1,s1⟩,h7,h8⟩:=bind_some h5;refine ih h7 hs fun a' w' gG=> ?_;have aaQ: ∀{e':Nat×List V},ways m 0 S.2 (o1,s1)=some e'→e'=e→Q (CF o1) a' w':=by
    intro e' q1 q2;subst q2;obtain ⟨rfl,S',k1,rfl⟩:=RR q1 h4;exact hQ a' w' (gG.reshape k1 hm)
   cases o1 with
   | norm=>
    obtain ⟨ds2,q1,q2⟩:=bind_some h8;cases q2;exact ⟨ds2,gG.reshape q1 hm,h6⟩
   | exit id=>
    obtain ⟨e',q1,q2⟩:=bind_some h8;cases q2;cases h6;exact aaQ q1 rfl
   | ret=>
    obtain ⟨e',q1,q2⟩:=bind_some h8;cases q2;cases h6;exact aaQ q1 rfl
 | _=>intro st st' out Q a w h;simp only[exec] at h;cases h
end
section
variable {P:Program} {A:dw} {w w':World} {I I' I2:Nat→Nat→Prop} {μ β β' cB:Nat→Option Nat} {hp hp' hp0:Nat→Option ah} {C:af} {B:Nat} {M:Nat→Prop} {w0:Start}
theorem LQ (S:az P w I β hp B M w0) {a:Act} {st:St} (hs:oc P w I β hp a st.sl): ∀{l:List ResultVar} {xs:List V} {rd:List Nat},(yH P st l).run C hp=some (xs,rd)→
  ∃vs:List Value,(l.mapM fun| .tmp t=>Pure.pure (a.tmps.getD t undef)| .cell x t=>do loadVar t (←asAddr (a.tmps.getD x undef)):Sem (List Value)).run P w= .ok vs w∧vs.length=xs.length∧l.length=xs.length∧
   ∀(j:Nat) v x,vs[j]? =some v→xs[j]? =some x→aj P w I β hp v x
 | [],xs,rd,h=>by
  cases h;simp_all
 | .tmp t::l,xs,rd,h=>by
  simp only[yH] at h;obtain ⟨ys,l1,l2,h1,h2⟩:=oe h;have h3:=PO h2;subst h3;obtain ⟨vs,a1,a2,a3,a4⟩:=LQ S hs h1;refine ⟨a.tmps.getD t undef::vs,by simp_all,by simp[a2],by simp[a3],fun j v x hj hx=> ?_⟩;cases j with
  | zero=>simp at hj hx;subst hj;subst hx;have:=hs t;simp_all
  | succ j=>grind
 | .cell y t::l,xs,rd,h=>by
  simp only[yH] at h;obtain ⟨r,l1,l2,h1,h2⟩:=oe h;obtain ⟨ys,l3,l4,h3,h4⟩:=oe h2;have h5:=PO h4;subst h5;obtain ⟨v0,b1,b2,b3,ad,b4⟩:=XB S (hs y) h1;obtain ⟨vs,a1,a2,a3,a4⟩:=LQ S hs h3;refine ⟨v0::vs,?_,by simp[a2],by simp[a3],fun j v x hj hx=> ?_⟩
  ·have e1:(do loadVar t (←asAddr (a.tmps.getD y undef)):Sem Value).run P w= .ok v0 w:=by
    rw[b4] at b1⊢;simpa[Instr.loadAt,Instr.sureAddr,asAddr] using b1
   simp only[List.mapM_cons,Sem.run_bind,e1,Result.andThen_ok,a1,Sem.run_pure]
  grind
def zK:List Value→Value
 | [v]=>v
 | l=> .tuple l.toArray
theorem alQ {vs:List Value} (h:vs.length≠1):zK vs= .tuple vs.toArray:=by
 match vs,h with
 | [],_=>rfl
 | [v],h=>simp at h
 | v::v2::l,_=>rfl
theorem alR {fn:Func} {a:Act} {st:St} (S:az P w I β st.hp B M w0) (hs:oc P w I β st.hp a st.sl) {xs:List V} {rd:List Nat} (h:(yH P st fn.results.toList).run C st.hp=some (xs,rd)):
  ∃vs:List Value,(results fn a.tmps).run P w= .ok (zK vs) w∧vs.length=xs.length∧
   ∀(j:Nat) v x,vs[j]? =some v→xs[j]? =some x→aj P w I β st.hp v x:=by
 obtain ⟨vs,a1,a2,_,a4⟩:=LQ S hs h;refine ⟨vs,?_,a2,a4⟩;unfold results;rw[Array.mapM_eq_mapM_toList];simp only[map_eq_pure_bind,bind_assoc,pure_bind,Sem.run_bind];refine (congrArg (fun r:Result (List Value)=>r.andThen _) a1).trans ?_;simp only[Result.andThen_ok,Sem.run_pure]
 match vs with
 | []=>simp[zK]
 | [v]=>simp[zK]
 | v::v2::l=>simp[zK]
theorem aaR: ∀{args:List V} {i k:Nat},fF (rz i args) k=if i≤k then args[k-i]? else none
 | [],i,k=>by simp[rz,fF]
 | v::vs,i,k=>by
  simp only[rz,fF];cases hb:Nat.beq k i with
  | true=>
   simp_all
  | false=>
   have bN:k≠i:=fun e=>by simp_all
   simp only[cond_false,aaR];grind
theorem RS: ∀{l:List (Nat×VS)} {ds:List V} {i k:Nat},lk i l=true→fF (iW l ds) k=if i≤k then (jt (l.map (·.2)) ds)[k-i]? else none
 | [],ds,i,k,_=>by simp[iW,jt,fF]
 | (q,s)::l,ds,i,k,h=>by
  simp only[lk,aJ,aL] at h;obtain ⟨rfl,h⟩:=h;simp only[iW,fF,lb,jt];cases hb:Nat.beq k q with
  | true=>
   simp_all
  | false=>
   have bN:k≠q:=fun e=>by simp_all
   simp only[cond_false];rw[RS h];grind
theorem aaS: ∀{l:List (Nat×VS)} {ds:List V},(iW l ds).map (·.2)=jt (l.map (·.2)) ds
 | [],_=>rfl
 | (q,s)::l,ds=>by simp only[iW,lb,jt,aaS]
theorem RT: ∀{l:List VS} {ds:List V},(jt l ds).length=l.length
 | [],_=>rfl
 | s::l,ds=>by simp only[jt,List.length_cons,RT]
theorem aaT: ∀{l:List (Nat×VS)} {ds:List V},(iW l ds).length=l.length
 | [],_=>rfl
 | (q,s)::l,ds=>by simp only[iW,List.length_cons,aaT]
theorem alS {vals:List Value} {l:List (Nat×V)} (hl:vals.length=l.length) (h: ∀(j:Nat) v y,vals[j]? =some v→(l.map (·.2))[j]? =some y→aj P w I β hp v y):aj P w I β hp (zK vals) (tK l):=by
 match l,hl,h with
 | [],hl,h=>
  obtain rfl:vals=[]:=o5 hl;exact .bd rfl fun j v x _ hx=>by simp at hx
 | [(k,y)],hl,h=>
  match vals,hl,h with
  | [v],_,h=>exact h 0 v y rfl rfl
 | a::b::l,hl,h=>
  have bN:vals.length≠1:=by grind
  rw[alQ bN];simp only[tK];exact .bd (by simp[hl]) fun j v y hj hy=>h j v y (by grind) hy
theorem alT {l:List BS} {ds:List V} {j:Nat} {e:TypeId} {es:List V} {vers:List Nat} (h:(gY l ds)[j]? =some (.nest e es vers)) (k:Nat):bA vers k=0:=by
 obtain ⟨b,ka,_,h2⟩:=Lv h;cases b<;>simp only[iI] at h2<;>cases h2
 match k with
 | 0=>rfl
 | 1=>rfl
 | 2=>rfl
 | _+3=>rfl
theorem alU {f n m:Nat} {fn:Func} {a:Act} {st:St} {es:List V} {rd:List Nat} (hm: ∀id blk,hp0 id=some blk→id<m) (mi:zJ hp0)
  (hI:Inv P A.idle A.aE B M w0 μ hp0 n a w st) (ur:lk 0 (A.iT f).cp=true) (bc:(A.iT f).cp.length=fn.results.size) (h:(yI P A f fn m st).run C st.hp=some (es,rd)):
  ∃v I2 cB,(results fn a.tmps).run P w= .ok v w∧az P w I2 cB (bM (A.so f es) (A.lv f es)).hp B M w0∧oR w0.w w0.I μ hp0 w I2 cB (bM (A.so f es) (A.lv f es)).hp∧aj P w I2 cB (bM (A.so f es) (A.lv f es)).hp v (tK (iW (A.so f es).cp (A.lv f es))):=by
 unfold yI at h;obtain ⟨xs,l1,l2,h1,h2⟩:=oe h;obtain ⟨I,β,S,hA,hE⟩:=hI;obtain ⟨vals,e1,e2,e3⟩:=alR S hA.sl h1;have e4:fn.results.size=xs.length:=by
  obtain ⟨_,_,_,q,_⟩:=LQ S hA.sl h1;omega
 have fin: ∀(Sx:Shape) (es:List V),lk 0 Sx.cp=true→Sx.cp.length=fn.results.size→lV m Sx (canon m (List.range xs.length++A.live f 9999) (freeze m (A.yB f) ⟨mC (rz 0 xs),st.hp,st.nb⟩))=some es→
   ∃v I2 cB,(results fn a.tmps).run P w= .ok v w∧az P w I2 cB (bM Sx es).hp B M w0∧oR w0.w w0.I μ hp0 w I2 cB (bM Sx es).hp∧aj P w I2 cB (bM Sx es).hp v (tK (iW Sx.cp es)):=by
  intro Sx es ur bc CG;have hA0:iO P A.idle A.aE w I β vals.length ⟨vals.toArray,[]⟩ ⟨mC (rz 0 xs),st.hp,st.nb⟩:=by
   refine ⟨fun k=> ?_,by simp,by simp,hA.aE⟩;change aj P w I β st.hp _ (mC (rz 0 xs) k);unfold mC;rw[aaR];simp only[nf,sf,Nat.sub_zero];cases hk:xs[k]? with
   | none=>exact .undef
   | some x=>
    have ub:k<vals.length:=by grind
    have:=e3 k vals[k] x (bU ub) hk;have e5:(vals.toArray).getD k undef=vals[k]:=by simp[ub]
    grind
  obtain ⟨I2,cB,k1,k2,k3⟩:=aaA (st:=⟨mC (rz 0 xs),st.hp,st.nb⟩) (m:=m) (pur:=A.yB f) S hA0;have hI2:Inv P A.idle A.aE B M w0 μ hp0 vals.length ⟨vals.toArray,[]⟩ w (freeze m (A.yB f) ⟨mC (rz 0 xs),st.hp,st.nb⟩):=⟨I2,cB,k2,k3,hE.trans k1.Ct⟩
  obtain ⟨I3,β3,q1,q2,q3⟩:=(hI2.canon (live:=List.range xs.length++A.live f 9999) hm mi).reshape CG hm;refine ⟨zK vals,I3,β3,e1,q1,q3,alS (by rw[aaT,bc,e4,e2]) fun j v y hj hy=> ?_⟩;have hv:=q2.sl j;have dm:=(cw.1 hj).1;have e5:(vals.toArray).getD j undef=v:=by
   simp_all
  change aj P w I3 β3 _ ((vals.toArray).getD j undef) (mC (iW Sx.cp _) j) at hv;rw[e5] at hv;unfold mC at hv;rw[RS ur] at hv;simp only[nf,sf,Nat.sub_zero] at hv;rw[aaS] at hy;grind
 unfold dw.so dw.lv;cases dp:A.alt f with
 | none=>
  rw[dp] at h2;simp only at h2⊢;split at h2
  ·rename_i ka CG;have:=aN h2;grind
  ·cases h2
 | some S2=>
  rw[dp] at h2;simp only at h2⊢;split at h2
  ·rename_i ka CG;have:=aN h2;subst this;exact fin _ _ ur bc CG
  ·split at h2
   ·rename_i ka CG;obtain ⟨hc,h3⟩:=aD h2;simp only[aJ,aL] at hc;have:=aN h3;subst this;exact fin _ _ hc.1 hc.2 CG
   ·cases h2
theorem alV (hC:oS P A C) (hP:kP P A) (rO:P.follows .mixedOrders=true):oS P A (sr P A C):=by
 intro f ds es h;unfold sr at h;cases hf:P.funcs[A.jN f]? with
 | none=>grind
 | some fn=>
  rw[hf] at h;simp only at h;cases hb:fn.body with
  | none=>grind
  | some c=>
   rw[hb] at h;simp only at h;cases hc:(lk 0 (A.sin f).cp&&(Nat.ble (A.sin f).cp.length fn.ntmps&&((A.sin f).ok&&(lk 0 (A.iT f).cp&&(Nat.beq (A.iT f).cp.length fn.results.size&&sn (ql (A.sin f).cT.length (A.mv f))))))) with
   | false=>grind
   | true=>
    rw[hc] at h;simp only[cond_true] at h;simp only[aJ,aL,gp] at hc;obtain ⟨jh,hnt,_,uh,bc,oq⟩:=hc;obtain ⟨⟨out,st'⟩,h1,h2⟩:=bind_some h;refine ⟨fn,c,rfl,hb,fun w I μ vals hH Qn hl hv=> ?_⟩;have alW:(∀id,out≠ .exit id)∧∃rd,(yI P A f fn (A.sin f).cT.length st').run C st'.hp=some (es,rd):=by
     cases out with
     | exit id=>cases h2
     | norm=>
      simp_all
     | ret=>
      simp_all
    obtain ⟨bN,rd,Rp⟩:=alW;refine calls_of_wp_defers hf hb ?_;have hm: ∀id blk,(bM (A.sin f) ds).hp id=some blk→id<(A.sin f).cT.length:=by
     intro id blk ae;simp only[bM,mk,kO] at ae;have:=(cw.1 ae).1;rwa [LP] at this
    have mi:zJ (bM (A.sin f) ds).hp:=by
     intro id e es vers ae k;simp only[bM,mk,kO] at ae;rcases ae with ae|⟨i,ae⟩
     ·exact alT ae k
     ·obtain ⟨b,_,_,h⟩:=Lv ae;cases b<;>cases h
    refine alP (w0:=⟨w,I⟩) (μ:=μ) (hp0:=(bM (A.sin f) ds).hp) (B:=w.heap.size) (M:=sX P w μ (bM (A.sin f) ds).hp) hC hP rO hm mi c h1 ?_ ?_
    ·refine Inv.enter oq ?_ hm mi fun p hp=>by
      simp only[bM,mk,kO];rw[List.getElem?_eq_none_iff,LP];exact hp
     refine ⟨I,μ,⟨hH,fun _ _ _=>rfl,aw _,fun b j h=> .inl h,⟨rfl,rfl⟩⟩,⟨fun k=> ?_,?_,by simp,Qn⟩,(Le.refl (P:=P) w I μ _).Ct⟩
     ·change aj P w I μ _ _ (mC (iW (A.sin f).cp ds) k);unfold mC;rw[RS jh];simp only[nf,sf,Nat.sub_zero];cases hk:(jt ((A.sin f).cp.map (·.2)) ds)[k]? with
      | none=>exact .undef
      | some x=>
       have ub:k<vals.length:=by
        have:=(cw.1 hk).1;rw[RT,cY] at this;omega
       have:=hv k vals[k] x (bU ub) hk;have e1:(vals.toArray++Array.replicate (fn.ntmps-vals.toArray.size) undef).getD k undef=vals[k]:=by
        simp[Array.getElem?_append,ub]
       grind
     grind
    ·intro a' w' hI;obtain ⟨v,I2,cB,q1,q2,q3,q4⟩:=alU hm mi hI uh bc Rp;obtain ⟨_,_,_,hA,_⟩:=hI;cases out with
     | exit id=>grind
     | norm=>exact RE hP q1 ⟨v,I2,cB,rfl,q2,q3,q4⟩ _ hA.defers
     | ret=>exact RE hP q1 ⟨v,I2,cB,rfl,q2,q3,q4⟩ _ hA.defers
theorem aaU (hP:kP P A) (rO:P.follows .mixedOrders=true): ∀n,oS P A (oa P A n)
 | 0=>fun _ _ _ h=>by cases h
 | n+1=>alV (aaU hP rO n) hP rO
theorem alX (hP:kP P A) (rO:P.follows .mixedOrders=true):oS P A (Call P A):=by
 intro f ds es h;have hn: ∃n,oa P A n f ds=some es:=by
  unfold Call at h;split at h
  all_goals grind
 obtain ⟨n,hn⟩:=hn;exact aaU hP rO n f ds es hn
end
section
variable {P:Program} {A:dw} {C:af} {D:Nat→af}
def Gb (C:af) (D:Nat→af):Prop:= ∀f a r,C f a=some r→∃n,∀k,n≤k→D k f a=some r
theorem ux {α:Type} (h:Gb C D) {hp:Nat→Option ah}: ∀{p:Rd α} {r:α×List Nat},p.run C hp=some r→∃n,∀k,n≤k→p.run (D k) hp=some r
 | .ret a,r,e=>⟨0,fun _ _=>e⟩
 | .fail,r,e=>by cases e
 | .get id q,r,e=>by
  obtain ⟨x,h1,h2⟩:=bind_some e;obtain ⟨n,hn⟩:=ux h h1;exact ⟨n,fun k hk=>by simp only[Rd.run,hn k hk,Option.bind_some];exact h2⟩
 | .opt o q,r,e=>by
  obtain ⟨x,h1,h2⟩:=bind_some e;obtain ⟨n,hn⟩:=ux h h2;exact ⟨n,fun k hk=>by simp only[Rd.run,h1,Option.bind_some];exact hn k hk⟩
 | .live id ok q,r,e=>by
  simp only[Rd.run] at e;cases hk:ok (jM (hp id)) with
  | false=>rw[hk] at e;cases e
  | true=>
   rw[hk] at e;obtain ⟨x,h1,h2⟩:=bind_some e;obtain ⟨n,hn⟩:=ux h h1;exact ⟨n,fun k CB=>by simp only[Rd.run,hk,cond_true,hn k CB,Option.bind_some];exact h2⟩
 | .ay b q,r,e=>by
  obtain ⟨h1,h2⟩:=aD e;obtain ⟨n,hn⟩:=ux h h2;exact ⟨n,fun k hk=>by simp only[Rd.run,h1,cond_true];exact hn k hk⟩
 | .call f a q,r,e=>by
  obtain ⟨x,h1,h2⟩:=bind_some e;obtain ⟨n1,jh⟩:=h f a x h1;obtain ⟨n2,uh⟩:=ux h h2;exact ⟨max n1 n2,fun k hk=>by simp only[Rd.run,jh k (by omega),Option.bind_some];exact uh k (by omega)⟩
 | .alt true x y,r,e=>ux (p:=x) h e
 | .alt false x y,r,e=>ux (p:=y) h e
theorem alY (h:Gb C D) {n i nb:Nat} {ops:Array Oper} {o:Oper} {st:St} {r:St×List Nat×List Nat} (e:kj P A C n ops i o nb st=some r): ∃N,∀k,N≤k→kj P A (D k) n ops i o nb st=some r:=by
 unfold kj at e;have go:(((jd P A st.sl i (nb+64*i) o).run C st.hp).bind fun r=>some ((⟨lj st.sl o.dst r.1.v,b8 st.hp r.1.upd,st.nb⟩:St),vj r.2 r.1.upd,ju st.hp r.1.upd))=some r→
   ∃N,∀k,N≤k→(((jd P A st.sl i (nb+64*i) o).run (D k) st.hp).bind fun r=>some ((⟨lj st.sl o.dst r.1.v,b8 st.hp r.1.upd,st.nb⟩:St),vj r.2 r.1.upd,ju st.hp r.1.upd))=some r:=by
  intro e;obtain ⟨x,h1,h2⟩:=bind_some e;obtain ⟨N,hN⟩:=ux h h1;exact ⟨N,fun k hk=>by rw[hN k hk];exact h2⟩
 unfold kj;cases hd:xf o n with
 | false=>rw[hd] at e;cases e
 | true=>
  rw[hd] at e;simp only[cond_true] at e⊢;cases hg:o.guard with
  | none=>rw[hg] at e;exact go e
  | some gw=>
   obtain ⟨g,want⟩:=gw;rw[hg] at e;simp only at e⊢;cases pO:(ops[g]?).bind (·.dst) with
   | none=>rw[pO] at e;cases e
   | some d=>
    rw[pO] at e;simp only at e⊢;cases qH:pc (st.sl d) with
    | none=>rw[qH] at e;cases e
    | some ob=>
    rw[qH] at e;cases ob with
    | none=>exact ⟨0,fun _ _=>e⟩
    | some b=>
    simp only at e⊢;cases hb:b==want with
    | true=>rw[hb] at e;exact go e
    | false=>rw[hb] at e;exact ⟨0,fun _ _=>e⟩
theorem aaV (h:Gb C D) {n nb:Nat} {ops:Array Oper}: ∀{l:List (Nat×Oper)} {st:St} {log:Log} {r:St×Log},tL P A C n ops nb l st log=some r→∃N,∀k,N≤k→tL P A (D k) n ops nb l st log=some r
 | [],st,log,r,e=>⟨0,fun _ _=>e⟩
 | (i,o)::l,st,log,r,e=>by
  obtain ⟨x,h1,h2⟩:=bind_some e;obtain ⟨N1,sZ⟩:=alY h h1;obtain ⟨N2,v5⟩:=aaV h h2;exact ⟨max N1 N2,fun k hk=>by simp only[tL,sZ k (by omega),Option.bind_some];exact v5 k (by omega)⟩
theorem aaW {X R:Type} {step:X→Option (X ⊕ R)} {stepD:Nat→X→Option (X ⊕ R)} (hs: ∀x y,step x=some y→∃N,∀k,N≤k→stepD k x=some y): ∀(n:Nat) (x:X) (r:R),gW step n x=some r→∃N,∀k,N≤k→gW (stepD k) n x=some r
 | 0,x,r,e=>by cases e
 | n+1,x,r,e=>by
  simp only[gW] at e⊢;obtain ⟨y,h1,h2⟩:=bind_some e;obtain ⟨N1,sZ⟩:=hs x y h1;cases y with
  | inl z=>
   obtain ⟨N2,v5⟩:=aaW hs n z r h2;exact ⟨max N1 N2,fun k hk=>by rw[sZ k (by omega)];exact v5 k (by omega)⟩
  | inr q=>exact ⟨N1,fun k hk=>by rw[sZ k hk];exact h2⟩
theorem alZ (h:Gb C D) {f n m:Nat}: ∀(c:Code) {st:St} {r:Out×St},exec P A C f n m c st=some r→∃N,∀k,N≤k→exec P A (D k) f n m c st=some r:=by
 intro c
 induction c with
 | skip=>exact fun e=>⟨0,fun _ _=>e⟩
 | exit id=>exact fun e=>⟨0,fun _ _=>e⟩
 | ret=>exact fun e=>⟨0,fun _ _=>e⟩
 | region id ops draw=>
  intro st r e;simp only[exec] at e⊢;obtain ⟨x,h1,h2⟩:=bind_some e;obtain ⟨y,h3,h4⟩:=bind_some h1;obtain ⟨N,hN⟩:=aaV h h3;refine ⟨N,fun k hk=> ?_⟩;have:BH P (A.here f id) (D k) n ops draw st=some x:=by
   unfold BH;rw[hN k hk];exact h4
  rw[this];exact h2
 | seq x y jv jw=>
  intro st r e;simp only[exec] at e⊢;obtain ⟨⟨o,s1⟩,h1,h2⟩:=bind_some e;obtain ⟨N1,sZ⟩:=jv h1;cases o with
  | norm=>
   obtain ⟨N2,v5⟩:=jw h2;exact ⟨max N1 N2,fun k hk=>by rw[sZ k (by omega)];exact v5 k (by omega)⟩
  | exit id=>exact ⟨N1,fun k hk=>by rw[sZ k hk];exact h2⟩
  | ret=>exact ⟨N1,fun k hk=>by rw[sZ k hk];exact h2⟩
 | cond c x y jv jw=>
  intro st r e;cases c with
  | tmp t=>
   have go: ∀{st:St} {r:Out×St},(match st.sl t with
     | .bool b=>(bif b then exec P A C f n m x st else exec P A C f n m y st).bind fun r=>
      match r.1 with
      | .norm=>some (.norm,canon m (A.join f t) r.2)
      | _=>some r
     | _=>none)=some r→∃N,∀k,N≤k→(match st.sl t with
     | .bool b=>(bif b then exec P A (D k) f n m x st else exec P A (D k) f n m y st).bind fun r=>
      match r.1 with
      | .norm=>some (.norm,canon m (A.join f t) r.2)
      | _=>some r
     | _=>none)=some r:=by
    intro st r e;cases hs:st.sl t<;>rw[hs] at e<;>simp only at e⊢ <;>first|(cases e;done)|skip
    rename_i b;obtain ⟨x1,h1,h2⟩:=bind_some e;cases b with
    | true=>
     obtain ⟨N,hN⟩:=jv h1;exact ⟨N,fun k hk=>by simp only[cond_true,hN k hk,Option.bind_some];exact h2⟩
    | false=>
     obtain ⟨N,hN⟩:=jw h1;exact ⟨N,fun k hk=>by simp only[cond_false,hN k hk,Option.bind_some];exact h2⟩
   simp only[exec] at e⊢;split at e
   ·rename_i hS;obtain ⟨N,hN⟩:=go e;exact ⟨N,fun k hk=>hN k hk⟩
   ·rename_i S hS;obtain ⟨ds,h1,h2⟩:=bind_some e;obtain ⟨e',h3,h4⟩:=bind_some h2;obtain ⟨r1,h5,h6⟩:=bind_some h3;obtain ⟨N,hN⟩:=go h5;refine ⟨N,fun k hk=> ?_⟩
    try rw[hS]
    simp only[h1,Option.bind_some];exact (congrArg (fun z:Option (Out×St)=>(z.bind fun r=>ways m 0 S.2 r).bind fun e=>n9 0 S.2 e.1 e.2 fun o st=>some (o,st)) (hN k hk)).trans (by simp only[Option.bind_some,h6];exact h4)
  | const v=>
   cases v with
   | bool b=>
    simp only[exec] at e⊢;cases b with
    | true=>exact jv e
    | false=>exact jw e
   | _=>simp only[exec] at e;cases e
  | _=>simp only[exec] at e;cases e
 | block id c ih=>
  intro st r e;simp only[exec] at e⊢;obtain ⟨x1,h1,h2⟩:=bind_some e;obtain ⟨N,hN⟩:=ih h1;exact ⟨N,fun k hk=>by rw[hN k hk];exact h2⟩
 | loop c ih=>
  intro st r e;simp only[exec] at e⊢;split at e
  ·cases e
  ·rename_i S hS;obtain ⟨ds,h1,h2⟩:=bind_some e;obtain ⟨e',h3,h4⟩:=bind_some h2;obtain ⟨q,hq⟩:=Bs h3;obtain ⟨N,hN⟩:=aaW (stepD:=fun k ds=>pq m S.1 S.2 (exec P A (D k) f n m c (bM S.1 ds))) (fun x y Gc=>by
    unfold pq at Gc⊢;obtain ⟨z,h5,h6⟩:=bind_some Gc;obtain ⟨N,hN⟩:=ih h5;exact ⟨N,fun k hk=>by rw[hN k hk];exact h6⟩) q ds e' hq
   refine ⟨N,fun k hk=> ?_⟩
   try rw[hS]
   simp only[h1,Option.bind_some];rw[Br (hN k hk)];exact h4
 | _=>intro st r e;simp only[exec] at e;cases e
theorem LR (h:Gb C D) {f:Nat} {ds es:List V} (e:sr P A C f ds=some es): ∃N,∀k,N≤k→sr P A (D k) f ds=some es:=by
 unfold sr at e⊢;cases hf:P.funcs[A.jN f]? with
 | none=>rw[hf] at e;cases e
 | some fn=>
  rw[hf] at e;simp only at e⊢;cases hb:fn.body with
  | none=>rw[hb] at e;cases e
  | some c=>
   rw[hb] at e;simp only at e⊢;cases hc:(lk 0 (A.sin f).cp&&(Nat.ble (A.sin f).cp.length fn.ntmps&&((A.sin f).ok&&(lk 0 (A.iT f).cp&&(Nat.beq (A.iT f).cp.length fn.results.size&&sn (ql (A.sin f).cT.length (A.mv f))))))) with
   | false=>rw[hc] at e;cases e
   | true=>
    rw[hc] at e;simp only[cond_true] at e⊢;obtain ⟨⟨o,s1⟩,h1,h2⟩:=bind_some e;obtain ⟨N1,sZ⟩:=alZ h c h1;cases o with
    | exit id=>cases h2
    | norm=>
     simp only[Option.map_eq_some_iff] at h2;obtain ⟨x,e1,e2⟩:=h2;obtain ⟨N2,v5⟩:=ux h e1;exact ⟨max N1 N2,fun k hk=>by rw[sZ k (by omega)];simp only[Option.bind_some,v5 k (by omega),Option.map_some,e2]⟩
    | ret=>
     simp only[Option.map_eq_some_iff] at h2;obtain ⟨x,e1,e2⟩:=h2;obtain ⟨N2,v5⟩:=ux h e1;exact ⟨max N1 N2,fun k hk=>by rw[sZ k (by omega)];simp only[Option.bind_some,v5 k (by omega),Option.map_some,e2]⟩
theorem aaX: ∀n f a r,oa P A n f a=some r→oa P A (n+1) f a=some r
 | 0,f,a,r,h=>by cases h
 | n+1,f,a,r,h=>by
  obtain ⟨N,hN⟩:=LR (C:=oa P A n) (D:=fun _=>oa P A (n+1)) (fun f a r h=>⟨0,fun _ _=>aaX n f a r h⟩) h;exact hN N (aw _)
theorem RU {n k:Nat} (hk:n≤k) {f:Nat} {a r:List V} (h:oa P A n f a=some r):oa P A k f a=some r:=by
 induction hk with
 | refl=>exact h
 | step _ ih=>exact aaX _ _ _ _ ih
theorem Gd {f:Nat} {a r:List V}:Call P A f a=some r↔∃n,oa P A n f a=some r:=by
 constructor
 ·intro h;unfold Call at h;split at h
  ·rename_i hex;have:=hex.choose_spec.choose_spec;rw[dL h] at this;exact ⟨_,this⟩
  ·cases h
 ·rintro ⟨n,hn⟩;have hex: ∃n r,oa P A n f a=some r:=⟨n,r,hn⟩
  unfold Call;rw[wO hex];have h2:=hex.choose_spec.choose_spec;have h3:=RU (Nat.le_max_left n hex.choose) hn;have h4:=RU (Nat.le_max_right n hex.choose) h2;rw[h3] at h4;exact h4.symm
theorem al0 (f:Nat) (a:List V):Call P A f a=sr P A (Call P A) f a:=by
 apply Option.ext;intro r;constructor
 ·intro h;obtain ⟨n,hn⟩:=Gd.1 h;cases n with
  | zero=>cases hn
  | succ n=>
   obtain ⟨N,hN⟩:=LR (C:=oa P A n) (D:=fun _=>Call P A) (fun f a r h=>⟨0,fun _ _=>Gd.2 ⟨n,h⟩⟩) hn;exact hN N (aw _)
 ·intro h;obtain ⟨N,hN⟩:=LR (C:=Call P A) (D:=oa P A) (fun f a r h=>by
   obtain ⟨n,hn⟩:=Gd.1 h;exact ⟨n,fun k hk=>RU hk hn⟩) h
  exact Gd.2 ⟨N+1,hN N (aw _)⟩
end
end Go.AM
namespace Go.AM
open Go.IntKind (wrap)
open Go.ChangeShapes Go.WideShapes Go.RowKit
section
variable (P:Program)
inductive WT:TypeId→V→Prop
 | int {t:TypeId} {k:IntKind} {n:Int}:P.underlying t=some (.int k)→(Lit.int k n).wf=true→WT t (.int k n)
 | bool {t:TypeId} {b:Bool}:P.underlying t=some .bool→WT t (.bool b)
 | str {t:TypeId} {l:List UInt8}:P.underlying t=some .string→l.length≤maxLen→WT t (.str l)
 | list {t e:TypeId} {es:List V}:P.underlying t=some (.slice e)→es.length≤maxLen→
   (∀(i:Nat) x,es[i]? =some x→bZ P e=true→∃xs,x= .agg xs∧xs.length=(aT P e).length)→
   (∀(i j:Nat) x t',es[i]? =some x→(aT P e)[j]? =some t'→WT t' (ca P e x j))→WT t (.list e es)
def ny (t:TypeId) (x:V):Prop:=
 (bZ P t=true→∃xs,x= .agg xs∧xs.length=(aT P t).length)∧∀(j:Nat) t',(aT P t)[j]? =some t'→WT P t' (ca P t x j)
def uT:List TypeId→List V→Prop
 | [],[]=>True
 | t::ts,x::xs=>ny P t x∧uT ts xs
 | _,_=>False
def hasB (L:List TypeId) (t:TypeId):Bool:=L.any fun u=>Nat.beq u t
def LU (L:List TypeId):Nat→List Field→Bool
 | _,[]=>true
 | n,f::fs=>hasB L f.type&&(Nat.beq f.offset n&&(Nat.beq (P.cellsOf f.type) (aT P f.type).length&&LU L (n+P.cellsOf f.type) fs))
def Ge:List Nat→List Nat→Bool
 | [],[]=>true
 | a::l,b::m=>Nat.beq a b&&Ge l m
 | _,_=>false
def RW (L:List TypeId) (t:TypeId):Bool:=
 Nat.beq (P.cellsOf t) (aT P t).length&&
 match P.underlying t with
 | some (.int _)=>true
 | some .bool=>true
 | some .string=>true
 | some (.slice e)=>hasB L e&&cZ P e
 | some (.struct fs)=>LU P L 0 fs.toList&&Ge (flat P t) (fs.toList.flatMap fun f=>aT P f.type)
 | some (.array n e)=>hasB L e&&(Nat.beq (P.cellsOf e) (aT P e).length&&Ge (flat P t) (List.replicate n (aT P e)).flatten)
 | _=>false
def Gf (L:List TypeId):Bool:=L.all fun t=>RW P L t
end
theorem LW {L:List TypeId} {t:TypeId} (h:hasB L t=true):t∈L:=by
 obtain ⟨u,hu,h2⟩:=List.any_eq_true.1 h;rw[aL] at h2;exact h2▸hu
theorem RX: ∀{l m:List Nat},Ge l m=true→l=m
 | [],[],_=>rfl
 | a::l,b::m,h=>by
  simp only[Ge,aJ,aL] at h;rw[h.1,RX h.2]
 | [],_::_,h=>by cases h
 | _::_,[],h=>by cases h
section
variable {P:Program} {H:Type} {enc:TypeId×Value→H} {w:World} {base:Nat} {spare:Nat→Bool} {held:Bool} {L:List TypeId}
def pP (w:World):Nat→Nat→Prop:=fun b _=>b<w.heap.size
def rP (P:Program) (w:World) (ts:List TypeId) (cs:List Value) (xs:List V):Prop:=
 cs.length=ts.length∧xs.length=ts.length∧∀(j:Nat) t',ts[j]? =some t'→∃v y,cs[j]? =some v∧xs[j]? =some y∧Pure P w (pP w) t' v y∧WT P t' y
theorem rP.app {ts tJ:List TypeId} {cs lu:List Value} {xs xs':List V} (h:rP P w ts cs xs) (h':rP P w tJ lu xs'):rP P w (ts++tJ) (cs++lu) (xs++xs'):=by
 obtain ⟨a,b,c⟩:=h;obtain ⟨a',b',c'⟩:=h';refine ⟨by simp[a,a'],by simp[b,b'],fun j t' hj=> ?_⟩;by_cases aZ:j<ts.length
 ·rw[n0 aZ] at hj;obtain ⟨v,y,e1,e2,e3⟩:=c j t' hj;exact ⟨v,y,by rw[n0 (by omega)];exact e1,by rw[n0 (by omega)];exact e2,e3⟩
 ·rw[o9 (by omega)] at hj;obtain ⟨v,y,e1,e2,e3⟩:=c' _ t' hj;exact ⟨v,y,by rw[o9 (by omega),a];exact e1,by rw[o9 (by omega),b];exact e2,e3⟩
theorem al1 {w:World} {a:Addr} {v:Value} (h:w.cell? a=some v):a.spot=none∧a.block<w.heap.size:=by
 unfold World.cell? at h;split at h
 ·rename_i hh;split at h
  ·cases h
  ·rename_i hs;exact ⟨by simpa using hs,(wX.1 hh).1⟩
 all_goals (first|cases h|skip)
theorem aaY {rd:TypeId→List Value→Option (DataW H×List MemPlace)} (cs:List Value)
  (ih: ∀t cs x,t∈L→rd t cs=some x→∃xs,rP P w (aT P t) cs xs): ∀(fs:List Field) (n:Nat),LU P L n fs=true→
  (∀f∈fs,∃x,rd f.type ((cs.drop f.offset).take (P.cellsOf f.type))=some x)→∃m xs,n≤m∧rP P w (fs.flatMap fun f=>aT P f.type) ((cs.drop n).take (m-n)) xs∧m-n=(fs.flatMap fun f=>aT P f.type).length
 | [],n,_,_=>⟨n,[],aw _,⟨by simp,rfl,by simp⟩,by simp⟩
 | f::fs,n,h,hx=>by
  simp only[LU,aJ,aL] at h;obtain ⟨h1,h2,h3,h4⟩:=h;obtain ⟨x,hxf⟩:=hx f (by simp);obtain ⟨xs,jF⟩:=ih _ _ _ (LW h1) hxf;obtain ⟨m,ys,hm,v7,uv⟩:=aaY cs ih fs (n+P.cellsOf f.type) h4 fun g hg=>hx g (by simp[hg]);refine ⟨m,xs++ys,by omega,?_,by simp only[Bp,gS];omega⟩;have:=jF.app v7;rw[Bp];rw[h2] at this;have e:(cs.drop n).take (m-n)=(cs.drop n).take (P.cellsOf f.type)++(cs.drop (n+P.cellsOf f.type)).take (m-(n+P.cellsOf f.type)):=by
   rw[show m-n=P.cellsOf f.type+(m-(n+P.cellsOf f.type)) by omega,List.take_add,List.drop_drop]
  rw[e];exact this
theorem aaZ {rd:List Value→Option (DataW H×List MemPlace)} (cs:List Value) {e:TypeId} (hs:P.cellsOf e=(aT P e).length)
  (ih: ∀cs x,rd cs=some x→∃xs,rP P w (aT P e) cs xs): ∀(n:Nat),
  (∀i,i<n→∃x,rd ((cs.drop (i*P.cellsOf e)).take (P.cellsOf e))=some x)→∃xs,rP P w (List.replicate n (aT P e)).flatten (cs.take (n*P.cellsOf e)) xs
 | 0,_=>⟨[],by simp,rfl,by simp⟩
 | n+1,hx=>by
  obtain ⟨xs,jF⟩:=aaZ cs hs ih n fun i hi=>hx i (by omega);obtain ⟨x,kK⟩:=hx n (by omega);obtain ⟨ys,v7⟩:=ih _ _ kK;refine ⟨xs++ys,?_⟩;rw[List.replicate_succ',List.flatten_append];have:=jF.app v7;rw[kZ,Nat.one_mul,List.take_add];simpa using this
theorem LX (hL:Gf P L=true): ∀(fuel:Nat) (t:TypeId) (cs:List Value) (x:DataW H×List MemPlace),t∈L→DataW.trod enc P w base spare held fuel t cs=some x→
  ∃xs,rP P w (aT P t) cs xs
 | 0,_,_,_,_,h=>by cases h
 | fuel+1,t,cs,x,ht,h=>by
  have hg:=gU.1 hL t ht;unfold RW at hg;rw[aJ,aL] at hg;obtain ⟨hc,hg⟩:=hg;have one:bZ P t=false→aT P t=[t]:=fun h=>by simp[aT,h]
  cases hu:P.underlying t with
  | none=>rw[hu] at hg;cases hg
  | some d=>
   rw[hu] at hg;cases d with
   | int k=>
    obtain ⟨n,rfl,rfl,hwf⟩:=DataW.trod_int hu h;rw[one (by simp[bZ,hu])];exact ⟨[.int k n],rfl,rfl,fun j t' hj=>by
     cases j with
     | zero=>cases hj;exact ⟨_,_,rfl,rfl,.int hu,.int hu hwf⟩
     | succ j=>simp at hj⟩
   | bool=>
    obtain ⟨b,rfl,rfl⟩:=DataW.trod_bool hu h;rw[one (by simp[bZ,hu])];exact ⟨[.bool b],rfl,rfl,fun j t' hj=>by
     cases j with
     | zero=>cases hj;exact ⟨_,_,rfl,rfl,.bool hu,.bool hu⟩
     | succ j=>simp at hj⟩
   | string=>
    obtain ⟨s,rfl,rfl,hl⟩:=DataW.trod_string hu h;rw[one (by simp[bZ,hu])];exact ⟨[.str s.data.toList],rfl,rfl,fun j t' hj=>by
     cases j with
     | zero=>cases hj;exact ⟨_,_,rfl,rfl,.str hu rfl,.str hu (by simpa using hl)⟩
     | succ j=>simp at hj⟩
   | slice e=>
    simp only[aJ] at hg;obtain ⟨he,aq⟩:=hg;rw[one (by simp[bZ,hu])];have single: ∀v y,cs=[v]→Pure P w (pP w) t v y→WT P t y→∃xs,rP P w [t] cs xs:=by
     rintro v y rfl a b;exact ⟨[y],rfl,rfl,fun j t' hj=>by
      cases j with
      | zero=>cases hj;exact ⟨_,_,rfl,rfl,a,b⟩
      | succ j=>simp at hj⟩
    rcases DataW.trod_slice hu h with ⟨rfl,rfl⟩|⟨a,len,cap,elems,rest,n,hn,rfl,rfl,hb,hl,hm,hlen,fD,_,_⟩
    ·exact single _ _ rfl (.nil hu) (.list hu (by simp) (by simp) (by simp))
    ·cases hn;have gh:=(oI aq).2;have Ze:P.cellsOf e=(aT P e).length:=(fB aq).symm;have key: ∀i,i<len→∃lu xs,w.cells? base (a.add (i*P.cellsOf e)) (P.cellsOf e)=some lu∧rP P w (aT P e) lu xs:=by
      intro i hi;have h1:=fD i hi;rw[bU (by omega)] at h1;obtain ⟨lu,h2,h3⟩:=Option.bind_eq_some_iff.1 h1;obtain ⟨xs,jF⟩:=LX hL fuel e lu _ (LW he) h3;exact ⟨lu,xs,h2,jF⟩
     by_cases h0:len=0
     ·subst h0;exact single _ _ rfl (.emp hu) (.list hu (by simp) (by simp) (by simp))
     ·have sR:a.spot=none∧a.block<w.heap.size:=by
       obtain ⟨lu,xs,h2,_⟩:=key 0 (by omega);obtain ⟨_,h3,h4⟩:=World.cells?_some h2;have h5:=h4 0 gh;rw[bU (by omega)] at h5;have:=al1 h5;simpa[Addr.add] using this
      have hF: ∃(F:Nat→List Value) (X:Nat→List V),∀i,i<len→w.cells? base (a.add (i*P.cellsOf e)) (P.cellsOf e)=some (F i)∧rP P w (aT P e) (F i) (X i):=by
       refine ⟨fun i=>if hi:i<len then (key i hi).choose else [],fun i=>if hi:i<len then (key i hi).choose_spec.choose else [],fun i hi=> ?_⟩;simp only[wO hi];exact (key i hi).choose_spec.choose_spec
      obtain ⟨F,X,RY⟩:=hF;have hx: ∀(i j:Nat) y t',((List.range len).map fun i=>dz P e (X i))[i]? =some y→(aT P e)[j]? =some t'→i<len∧∃v,(F i)[j]? =some v∧Pure P w (pP w) t' v (ca P e y j)∧WT P t' (ca P e y j):=by
       intro i j y t' hy hj;have hi:i<len:=by
        have:=(cw.1 hy).1;simpa using this
       refine ⟨hi,?_⟩;simp[Jy hi] at hy;obtain ⟨c1,c2,c3⟩:=(RY i hi).2;obtain ⟨v,z,d1,d2,d3,d4⟩:=c3 j t' hj;have:ca P e y j=z:=by
        rw[←hy];unfold ca dz;cases ha:bZ P e with
        | true=>
         simp only[cond_true,V.cell];rw[yU _ _ _ d2]
        | false=>
         simp only[cond_false];have:aT P e=[e]:=by simp[aT,ha]
         rw[this] at hj;cases j with
         | zero=>rw[yU _ _ _ d2]
         | succ j=>simp at hj
       rw[this];exact ⟨v,d1,d3,d4⟩
      have gF: ∀i j,i<len→j<P.cellsOf e→w.cell? ⟨a.block,a.off+(i*P.cellsOf e+j),none⟩=some ((F i).getD j undef):=by
       intro i j hi hj;obtain ⟨h1,h2⟩:=RY i hi;obtain ⟨_,h3,h4⟩:=World.cells?_some h1;have h5:=h4 j hj;rw[Go.Deep.add_add] at h5;have e1:a.add (i*P.cellsOf e+j)=⟨a.block,a.off+(i*P.cellsOf e+j),none⟩:=by
        obtain ⟨b,o,s⟩:=a;simp only at sR;rw[sR.1];exact oh ..
       rw[e1] at h5;rw[h5,qi,bU (by omega)];rfl
      have ha:a=⟨a.block,a.off,none⟩:=by
       obtain ⟨b,o,s⟩:=a;simp only at sR;rw[sR.1]
      refine single (.slice (some a) len cap) (.list e ((List.range len).map fun i=>dz P e (X i))) rfl ?_ ?_
      ·rw[ha];refine .list (fun i j=>(F i).getD j undef) hu (by simp) hl (fun _ _=>sR.2) gF ?_;intro i j y t' hy hj;obtain ⟨hi,v,d1,d2,_⟩:=hx i j y t' hy hj;rw[qi,d1];exact d2
      ·refine .list hu (by simp;omega) ?_ ?_
       ·intro i y hy LY;have hi:i<len:=by
         have:=(cw.1 hy).1;simpa using this
        simp[Jy hi] at hy;rw[←hy];exact ⟨X i,by simp[dz,LY],(RY i hi).2.2.1⟩
       ·intro i j y t' hy hj;obtain ⟨_,v,_,_,d3⟩:=hx i j y t' hy hj;exact d3
   | struct fs=>
    simp only[aJ] at hg;obtain ⟨xs,n,hn,rfl,hlen,qD,hx⟩:=DataW.trod_struct hu h;cases hn;have het:aT P t=fs.toList.flatMap fun f=>aT P f.type:=by
     rw[←RX hg.2];simp[aT,bZ,hu]
    obtain ⟨m,ys,_,v7,hm⟩:=aaY (w:=w) (rd:=fun t cs=>DataW.trod enc P w base spare held fuel t cs) cs (fun t cs x a b=>LX hL fuel t cs x a b) fs.toList 0 hg.1 (by
     intro f hf;obtain ⟨i,hi⟩:=tC hf;rw[sh] at hi;have rL:i<fs.size:=(wX.1 hi).1;exact ⟨_,(hx i f hi).trans (bU (by omega))⟩)
    rw[het];refine ⟨ys,?_⟩;have:(cs.drop 0).take (m-0)=cs:=by
     rw[wQ,hm,←het,←hc,←hlen,wR]
    rw[this] at v7;exact v7
   | array n e=>
    simp only[aJ,aL] at hg;obtain ⟨xs,m,hn,rfl,hlen,qD,hx⟩:=DataW.trod_array hu h;cases hn;have het:aT P t=(List.replicate n (aT P e)).flatten:=by
     rw[←RX hg.2.2];simp[aT,bZ,hu]
    obtain ⟨ys,v7⟩:=aaZ (w:=w) (rd:=DataW.trod enc P w base spare held fuel e) cs hg.2.1 (fun cs x b=>LX hL fuel e cs x (LW hg.1) b) n (by
     intro i hi;exact ⟨_,(hx i hi).trans (bU (by omega))⟩)
    rw[het];refine ⟨ys,?_⟩;have:cs.take (n*P.cellsOf e)=cs:=by
     have:n*P.cellsOf e=cs.length:=by
      rw[hlen,hc,het,hg.2.1];simp
     rw[this,wR]
    rw[this] at v7;exact v7
   | _=>cases hg
end
section
variable {P:Program} {H:Type} {enc:TypeId×Value→H} {w:World} {L:List TypeId}
theorem al2 {base RZ:Nat} {spare:Nat→Bool} {held:Bool} {r:Reach} {β:Nat→Option Nat} {hp:Nat→Option ah} (hL:Gf P L=true) {t:TypeId} {v:Value} {d:DataW H} {ps:List MemPlace} (ht:t∈L) (jn:Value.okWide P w r RZ t v)
  (h:DataW.Trod enc P w base spare held t v d ps): ∃x,aj P w (pP w) β hp v x∧ny P t x:=by
 obtain ⟨fuel,hf⟩:=h;obtain ⟨xs,c1,c2,c3⟩:=LX hL fuel t _ _ ht hf;have hg:=gU.1 hL t ht;unfold RW at hg;rw[aJ,aL] at hg;obtain ⟨_,hg⟩:=hg;have LY:bZ P t=true→∃x,aj P w (pP w) β hp v x∧ny P t x:=by
  intro ha;have hv: ∃cs,v= .agg cs:=by
   unfold Value.okWide at jn;unfold bZ at ha;grind
  obtain ⟨cs,rfl⟩:=hv;refine ⟨.agg xs,.agg (by simpa[Value.cells] using c1.trans c2.symm) fun j v x hv hx=> ?_,fun _=>⟨xs,rfl,c2⟩,fun j t' hj=> ?_⟩
  ·have hj:j<(aT P t).length:=by grind
   obtain ⟨v',y,e1,e2,e3,_⟩:=c3 j _ (bU hj);rw[hx] at e2;cases e2;have:cs[j]? =some v':=by simpa[Value.cells] using e1
   rw[hv] at this;cases this;exact .tN e3
  ·obtain ⟨v',y,e1,e2,_,e4⟩:=c3 j t' hj;have:ca P t (.agg xs) j=y:=by
    simp only[ca,ha,cond_true,V.cell];exact yU _ _ _ e2
   grind
 have qz:bZ P t=false→v.cells= #[v]→∃x,aj P w (pP w) β hp v x∧ny P t x:=by
  intro ha zo;have he:aT P t=[t]:=by simp[aT,ha]
  rw[he] at c1 c2 c3;obtain ⟨v',y,e1,e2,e3,e4⟩:=c3 0 t rfl;rw[zo] at e1;cases e1;refine ⟨y,.tN e3,⟨fun h=>absurd (ha.symm.trans h) (by simp),fun j t' hj=> ?_⟩⟩;rw[he] at hj;cases j with
  | succ j=>simp at hj
  | zero=>
   cases hj;simpa[ca,ha] using e4
 unfold Value.okWide at jn;cases hu:P.underlying t with
 | none=>grind
 | some dsc=>
  rw[hu] at hg jn;cases dsc with
  | int k=>
   refine qz (by simp[bZ,hu]) ?_;simp only[Cell.okWide,Cell.ok,hu] at jn;cases v<;>first|rfl|(simp at jn;done)|exact jn.elim
  | bool=>
   refine qz (by simp[bZ,hu]) ?_;simp only[Cell.okWide,Cell.ok,hu] at jn;cases v<;>first|rfl|(simp at jn;done)|exact jn.elim
  | string=>
   refine qz (by simp[bZ,hu]) ?_;simp only[Cell.okWide,Cell.ok,hu] at jn;cases v<;>first|rfl|(simp at jn;done)|exact jn.elim
  | slice e=>
   refine qz (by simp[bZ,hu]) ?_;simp only[Cell.okWide,Cell.ok,hu] at jn;cases v<;>first|rfl|(simp at jn;done)|exact jn.elim
  | struct fs=>exact LY (by simp[bZ,hu])
  | array n e=>exact LY (by simp[bZ,hu])
  | _=>cases hg
theorem aa0 {base RZ:Nat} {spare:Nat→Bool} {held:Bool} {r:Reach} {β:Nat→Option Nat} {hp:Nat→Option ah} (hL:Gf P L=true): ∀{ts:List TypeId} {vs:List Value} {ds:List (DataW H)} {ps:List MemPlace},
  (∀t∈ts,t∈L)→(∀(j:Nat) t v,ts[j]? =some t→vs[j]? =some v→Value.okWide P w r RZ t v)→DataW.TrodAll enc P w base spare held ts vs ds ps→
  ∃xs,vs.length=xs.length∧(∀(j:Nat) v x,vs[j]? =some v→xs[j]? =some x→aj P w (pP w) β hp v x)∧uT P ts xs
 | [],vs,ds,ps,_,_,h=>by
  obtain ⟨rfl,rfl,rfl⟩:=trodAll_nil h;exact ⟨[],rfl,by simp,trivial⟩
 | t::ts,vs,ds,ps,hm,jn,h=>by
  obtain ⟨v,xh,d,ds1,a,b,rfl,rfl,rfl,h1,h2⟩:=trodAll_cons h;obtain ⟨x,kK,kI⟩:=al2 (β:=β) (hp:=hp) hL (hm t (by simp)) (jn 0 t v rfl rfl) h1;obtain ⟨xs,hl,hr,hw⟩:=aa0 (β:=β) (hp:=hp) hL (fun t ht=>hm t (by simp[ht])) (fun j t v a b=>jn (j+1) t v (by grind) (by grind)) h2;refine ⟨x::xs,by simp[hl],fun j v' x' hv hx=> ?_,kI,hw⟩;grind
theorem aa1 {base:Nat} {spare:Nat→Bool} {held:Bool}: ∀{ts:List TypeId} {vs:List Value} {ds:List (DataW H)} {ps:List MemPlace},DataW.TrodAll enc P w base spare held ts vs ds ps→ds.length=ts.length
 | [],vs,ds,ps,h=>by obtain ⟨rfl,rfl,rfl⟩:=trodAll_nil h;rfl
 | t::ts,vs,ds,ps,h=>by
  obtain ⟨v,xh,d,ds1,a,b,rfl,rfl,rfl,h1,h2⟩:=trodAll_cons h;simp[aa1 h2]
theorem aa2 {base:Nat} (hl:laidOutB P=true) {W W':World} {sp':Nat→Bool}: ∀{ts:List TypeId} {vs:List Value} {ds:List (DataW H)} {ps:List MemPlace},(∀t∈ts,P.readableRec t=true∧t<P.types.size)→
  DataW.TrodAll enc P W base (fun _=>true) true ts vs ds ps→(∀p∈ps,W.sameAt W' p)→(∀p∈ps,sp' p.block=true)→DataW.TrodAll enc P W' base sp' true ts vs ds ps
 | [],vs,ds,ps,_,h,_,_=>by obtain ⟨rfl,rfl,rfl⟩:=trodAll_nil h;exact trodAll_mk0
 | t::ts,vs,ds,ps,hr,h,h1,h2=>by
  obtain ⟨v,xh,d,ds1,a,b,rfl,rfl,rfl,h3,h4⟩:=trodAll_cons h;obtain ⟨r1,r2⟩:=hr t (by simp);exact trodAll_cons_mk (WideElems.Trod_stays hl r1 r2 h3 (fun p hp=>h1 p (by simp[hp])) (fun p hp=>h2 p (by simp[hp])))
   (aa2 hl (fun t ht=>hr t (by simp[ht])) h4 (fun p hp=>h1 p (by simp[hp])) (fun p hp=>h2 p (by simp[hp])))
theorem al3 {f:Func} {s:ChangeSpec} {apart fresh handsOn again:Bool} {W W':World} {args:Array Value} {v:Value} {ds gs:List (DataW H)} {before pa pv:List MemPlace}
  (hW:DataW.Whole enc P f.params.toList s.vars apart W args.toList ds gs before)
  (aa3: ∀(b:Nat) (sp:Nat→Bool) (hd:Bool),DataW.TrodAll enc P W' b sp hd f.resultTypes.toList (v.resultList f.resultTypes.size) (s.fn H (ds++gs)).results [])
  (zF: ∀sp:Nat→Bool,(∀p∈before,sp p.block=true)→DataW.TrodAll enc P W' 0 sp true f.params.toList args.toList (s.fn H (ds++gs)).args pa)
  (aa4: ∀sp:Nat→Bool,(∀p∈before,sp p.block=true)→DataW.TrodVars enc P W' sp s.vars (s.fn H (ds++gs)).vars pv)
  (hps:before=pa++pv) (hk:W.keptBut W' (· ∈before)) (CA: ∀a:Addr,a.block<W.heap.size→W'.frozen? a=W.frozen? a)
  (aq: ∀(j:Nat) (t:TypeId) (r:Value),f.resultTypes[j]? =some t→(v.resultList f.resultTypes.size)[j]? =some r→Value.okWide P W' .any 0 t r):
  s.post enc P f apart fresh handsOn again W args v W':=by
 have hold: ∀p∈before,(fun b=>decide (b<W.heap.size)) p.block=true:=fun p hp=>by simpa using hW.lt p hp
 refine ⟨ds,gs,before,[],pa,pv,hW,aa3 _ _ _,zF _ hold,aa4 _ hold,World.keptBut_mono (fun p hp=>⟨hp,?_⟩) hk,fun _=> ?_⟩
 ·grind
 ·have aZ:=hW.lt;obtain ⟨_,_,_,_,_,hz,hn⟩:=hW;refine ⟨aq,_,_,([]++pa)++pv,⟨[]++pa,pv,trodAll_append (zF _ (fun _ _=>rfl)) (aa3 _ _ _),aa4 _ (fun _ _=>rfl),rfl,?_,?_⟩,?_⟩
  ·intro b off hp;have hb:MemPlace.cell b off∈before:=by grind
   rw[CA ⟨b,off,none⟩ (aZ _ hb)];exact hz b off hb
  all_goals grind
theorem al4 {A:dw} (hP:kP P A) (rO:P.follows .mixedOrders=true) {f key:Nat} {fn:Func} {tb:TypeId} {s:ChangeSpec} {apart fresh handsOn again:Bool}
  (hf:P.funcs[f]? =some fn) (R0:A.jN key=f) (hL:Gf P L=true) (eB:fn.params.toList.all (fun t=>hasB L t)=true) (LZ:fn.resultTypes= #[tb]) (L0:P.underlying tb=some .bool) (zC:s.vars=[])
  (hs: ∀ds:List (DataW H),ds.length=fn.params.toList.length→s.fn H ds={results:=[.lit (.bool true)],args:=ds})
  (R3:laidOutB P=true) (R4:fn.params.toList.all (fun t=>P.readableRec t&&Nat.blt t P.types.size)=true)
  (mJ:(A.sin key).cT=[]) (aq:((A.sin key).cp.map (·.2)).all (VS.ok 0)=true) (R5:(A.iT key).cp=[(0,.one .bool)]) (halt:A.alt key=none)
  {W:World} {base:Nat} {args:Array Value} {ds gs:List (DataW H)} {before:List MemPlace}
  (R6:jR P A.aE W (pP W)) (jn: ∀(j:Nat) t v,fn.params[j]? =some t→args[j]? =some v→Value.okWide P W .any base t v)
  (hW:DataW.Whole enc P fn.params.toList s.vars apart W args.toList ds gs before) (Q:List V→Prop)
  (hQ: ∀xs:List V,uT P fn.params.toList xs→(∀(j:Nat) v x,args.toList[j]? =some v→xs[j]? =some x→aj P W (pP W) (fun _=>none) (fun _=>none) v x)→Q xs)
  (R7: ∀xs,uT P fn.params.toList xs→Q xs→∃ds,uU ((A.sin key).cp.map (·.2)) xs=some ds∧Call P A key ds=some [.bool true]):
  Calls P f args W fun e W'=> ∃v,e= .returned v∧s.post enc P fn apart fresh handsOn again W args v W':=by
 have hW0:=hW;obtain ⟨p,q,hA,hV,rfl,CA,oq⟩:=hW;rw[zC] at hV;obtain ⟨L3,hq⟩:gs=[]∧q=[]:=by
  cases gs with
  | nil=>exact ⟨rfl,hV⟩
  | cons g gs=>exact hV.elim
 subst L3;subst hq;obtain ⟨xs,hl,hr,hwt⟩:=aa0 (β:=fun _=>none) (hp:=fun _=>none) hL (fun t ht=>LW (gU.1 eB t ht)) (fun j t v a b=>jn j t v (by grind) (by grind)) hA;obtain ⟨ls,hls,F5⟩:=R7 xs hwt (hQ xs hwt hr);obtain ⟨fn',c,h1,h2,h3⟩:=alX (A:=A) hP rO key ls [.bool true] F5;rw[R0] at h1 h3;rw[hf] at h1;cases h1;have aaO: ∀j,(bM (A.sin key) ls).hp j=none:=fun j=>by simp[bM,mk,mJ,gY,ni]
 obtain ⟨_,r1,r2⟩:=FU (P:=P) (w:=W) (I:=pP W) (n:=0) (β:=fun _=>none) (β':=fun _=>none) (hp:=fun _=>none) (hp':=(bM (A.sin key) ls).hp) (fun j hj=>absurd hj (Nat.not_lt_zero j)) hls aq;have hlen:((A.sin key).cp.map (·.2)).length=xs.length:=by rw[←r1 [],RT]
 have h4:=h3 W (pP W) (fun _=>none) args.toList ⟨fun id blk h=>(by grind),fun id ar blk blk' b h=>(by grind),fun id blk b h=>(by grind),fun b j h=>h⟩ R6
  (by grind) (fun j v y hv hy=>r2 [] j v y (fun x hx=>hr j v x hv hx) (by grind))
 have ea:args.toList.toArray=args:=by simp
 rw[ea] at h4;refine h4.mono fun e W' ⟨v,I2,cB,he,ha⟩=>⟨v,he,?_⟩
 have xE: ∀b,b<W.heap.size→W'.heap[b]? =W.heap[b]? :=fun b hb=>ha.Cu.cI b hb (by rintro ⟨j,blk,hj,_⟩;grind);have zq:=ha.res;have hso:A.so key [.bool true]=A.iT key∧A.lv key [.bool true]=[.bool true]:=by unfold dw.so dw.lv;grind
 rw[hso.1,hso.2,R5] at zq;obtain rfl:v= .bool true:=zq.nn;have rJ:Value.okWide P W' .any 0 tb (.bool true):=by simp[Value.okWide,L0,Cell.okWide,Cell.ok]
 have o4:ds.length=fn.params.toList.length:=aa1 hA;have j9: ∀p'∈p++[],W.sameAt W' p':=by
  intro p' hp';have aZ:=hW0.lt p' hp';cases p' with
  | cell b o=>exact World.cell?_of_block (w:=W) (xE b aZ)
  | map b=>exact xE b aZ
 refine al3 (pa:=p) (pv:=[]) hW0 ?_ ?_ ?_ rfl ?_ ?_ ?_
 ·intro b sp hd;rw[uX,hs ds o4,LZ];exact trodAll_mk1 ⟨1,by simp[DataW.trod,Value.cells,L0]⟩
 ·intro sp sR;rw[uX,hs ds o4];refine aa2 R3 (fun t ht=> ?_) hA (fun p' hp'=>j9 p' (by grind)) (fun p' hp'=>sR p' (by grind));have:=gU.1 R4 t ht;simp_all
 ·intro sp sR;rw[zC,uX,hs ds o4];exact rfl
 ·refine ⟨ha.Cu.io.1,ha.Cu.io.2,fun i hi=> ?_⟩;grind
 ·intro a aZ;exact World.frozen?_of_block (w:=W) (xE a.block aZ)
 ·intro j t r hj Kz;rw[LZ] at hj Kz;cases j with
  | zero=>
   simp[Value.resultList] at hj Kz;grind
  | succ j=>simp at hj
theorem agU {A:dw} (hP:kP P A) (rO:P.follows .mixedOrders=true) {f key:Nat} {fn:Func} {tb:TypeId} {s:ChangeSpec} {apart fresh handsOn again:Bool}
  (hf:P.funcs[f]? =some fn) (R0:A.jN key=f) (hL:Gf P L=true) (eB:fn.params.toList.all (fun t=>hasB L t)=true) (LZ:fn.resultTypes= #[tb]) (L0:P.underlying tb=some .bool) (zC:s.vars=[])
  (hs: ∀ds:List (DataW H),ds.length=fn.params.toList.length→s.fn H ds={results:=[.lit (.bool true)],args:=ds})
  (R3:laidOutB P=true) (R4:fn.params.toList.all (fun t=>P.readableRec t&&Nat.blt t P.types.size)=true)
  (mJ:(A.sin key).cT=[]) (aq:((A.sin key).cp.map (·.2)).all (VS.ok 0)=true) (R5:(A.iT key).cp=[(0,.one .bool)]) (halt:A.alt key=none)
  (R7: ∀xs,uT P fn.params.toList xs→∃ds,uU ((A.sin key).cp.map (·.2)) xs=some ds∧Call P A key ds=some [.bool true])
  {W:World} {base:Nat} {args:Array Value} {ds gs:List (DataW H)} {before:List MemPlace}
  (R6:jR P A.aE W (pP W)) (jn: ∀(j:Nat) t v,fn.params[j]? =some t→args[j]? =some v→Value.okWide P W .any base t v)
  (hW:DataW.Whole enc P fn.params.toList s.vars apart W args.toList ds gs before):
  Calls P f args W fun e W'=> ∃v,e= .returned v∧s.post enc P fn apart fresh handsOn again W args v W':=
 al4 hP rO hf R0 hL eB LZ L0 zC hs R3 R4 mJ aq R5 halt R6 jn hW (fun _=>True) (fun _ _ _=>trivial) fun xs h _=>R7 xs h
end
end Go.AM
namespace Go.AM
open Go.IntKind (wrap)
@[simp] theorem V.toInt_int (k:IntKind) (n:Int):V.toInt (.int k n)=n:=by cases k<;>rfl
@[simp] theorem V.CH (b:Bool):V.toBool (.bool b)=b:=by cases b<;>rfl
@[simp] theorem V.azv (s:List UInt8):V.toStr (.str s)=s:=by cases s<;>rfl
@[simp] theorem V.ez (e:TypeId) (es:List V):V.toList (.list e es)=es:=by cases es<;>rfl
@[simp] theorem V.azw (e:TypeId) (es:List V):V.toList (.own e es)=es:=by cases es<;>rfl
@[simp] theorem V.al5 (cs:List V) (j:Nat):V.cell (.agg cs) j=V.nth cs j:=by cases cs<;>rfl
@[simp] theorem V.azx (cs:List V) (j:Nat):V.comp (.bd cs) j=V.nth cs j:=by cases cs<;>rfl
@[simp] theorem V.L4 (x:V) (l:List V):V.nth (x::l) 0=x:=by cases l<;>rfl
@[simp] theorem V.azy (x:V) (l:List V) (n:Nat):V.nth (x::l) (n+1)=V.nth l n:=by cases l<;>rfl
@[simp] theorem V.azz (x y:V) (l:List V):V.nth (x::y::l) 1=y:=by cases l<;>rfl
@[simp] theorem V.azA (x y z:V) (l:List V):V.nth (x::y::z::l) 2=z:=by cases l<;>rfl
@[simp] theorem V.azB (x y z u:V) (l:List V):V.nth (x::y::z::u::l) 3=u:=by cases l<;>rfl
theorem wrap64 {x:Int} (h1: -9223372036854775808≤x) (h2:x<9223372036854775808):wrap .i64 x=x:=by
 rw[IntKind.wrap_i64];omega
theorem qu {x:Int} (h1: -9223372036854775808≤x:=by omega) (h2:x<9223372036854775808:=by omega):wrap .i64 x=x:=wrap64 h1 h2
theorem al6 {x:Int} (h1:0≤x) (h2:x<256):wrap .u8 x=x:=by
 rw[IntKind.wrap_u8];omega
theorem yZ {es:List V} {i:Int} {n:Nat} (h:i=n):idx es i=es[n]? :=by
 subst h;simp[idx]
theorem X4 {α:Type} {f:α→V} {l:List α} {i:Int} {n:Nat} (h:i=n) (hn:n<l.length):idx (l.map f) i=some (f l[n]):=by
 rw[yZ h];simp[hn]
@[simp] theorem R8 (es:List V) (n:Nat):idx es (n:Int)=es[n]? :=by simp[idx]
section
variable {X R:Type} {step:X→Option (X ⊕ R)}
theorem L5 (Inv:X→Prop) (μ:X→Nat) (Q:R→Prop)
  (h: ∀x,Inv x→(∃y,step x=some (.inl y)∧Inv y∧μ y<μ x)∨∃r,step x=some (.inr r)∧Q r):
  ∀x,Inv x→∃r,Loop step x=some r∧Q r:=by
 intro x
 induction hm:μ x using Nat.strongRecOn generalizing x with
 | ind m ih=>
  intro hx;rcases h x hx with ⟨y,h1,h2,h3⟩|⟨r,h1,h2⟩
  ·obtain ⟨r,h4,h5⟩:=ih (μ y) (by omega) y rfl h2;exact ⟨r,(iS h1).trans h4,h5⟩
  ·exact ⟨r,jY h1,h2⟩
theorem al7 (s:Nat→X) (n:Nat) {r:R} (h: ∀i,i<n→step (s i)=some (.inl (s (i+1)))) (he:step (s n)=some (.inr r)):Loop step (s 0)=some r:=by
 induction n generalizing s with
 | zero=>exact jY he
 | succ n ih=>
  rw[iS (h 0 (by omega))];exact ih (fun i=>s (i+1)) (fun i hi=>h (i+1) (by omega)) he
end
@[simp] theorem s6 {α:Type} (p:Prop) [Decidable p] (a b:α):(bif decide p then a else b)=if p then a else b:=by by_cases h:p<;>simp[h]
@[simp] theorem al8 {α:Type} (m n:Int) (a b:α):(bif m==n then a else b)=if m=n then a else b:=by
 by_cases h:m=n
 ·simp[h]
 ·have:(m==n)=false:=by simp[h]
  rw[this,aC h];rfl
@[simp] theorem L6 {α:Type} (m n:Int) (a b:α):(bif m != n then a else b)=if m=n then b else a:=by
 by_cases h:m=n
 ·simp[h]
 ·have:(m != n)=true:=by simp[h]
  rw[this,aC h];rfl
@[simp] theorem al9 {α:Type} (c:Bool) (a b:α):(bif !c then a else b)=bif c then b else a:=by cases c<;>rfl
@[simp] theorem azC {α:Type} (m n:Nat) (a b:α):(bif Nat.ble m n then a else b)=if m≤n then a else b:=by
 cases hb:Nat.ble m n with
 | true=>rw[aB (Nat.le_of_ble_eq_true hb)];rfl
 | false=>
  rw[aC fun h=> ?_]
  ·rfl
  ·rw[yw h] at hb;cases hb
@[simp] theorem azD {α:Type} (c d:Bool) (a b:α):(bif c&&d then a else b)=bif c then (bif d then a else b) else b:=by cases c<;>rfl
section
variable {P:Program}
def aa5 (P : Program) : Bool := P.funcs.all fun fn => !(fn.name == "runtime.NumGoroutine")
theorem ama (h:aa5 P=true):zB P:=by
 intro f fn hf;unfold aa5 at h;have:=(Array.all_eq_true_iff_forall_mem.1 h) fn (Array.mem_of_getElem? hf);simpa using this
theorem agO {t:TypeId} {ts:List TypeId} {xs:List V} (h:uT P (t::ts) xs): ∃x ys,xs=x::ys∧ny P t x∧uT P ts ys:=by
 cases xs with
 | nil=>exact h.elim
 | cons x ys=>exact ⟨x,ys,rfl,h.1,h.2⟩
theorem agP {xs:List V} (h:uT P [] xs):xs=[]:=by
 cases xs with
 | nil=>rfl
 | cons x ys=>exact h.elim
theorem ny.one {t:TypeId} {x:V} (ha:bZ P t=false) (h:ny P t x):WT P t x:=by
 have he:aT P t=[t]:=by simp[aT,ha]
 have:=h.2 0 t (by rw[he];rfl);simpa[ca,ha] using this
theorem WT.fQ {t:TypeId} {k:IntKind} {x:V} (hu:P.underlying t=some (.int k)) (h:WT P t x): ∃n,x= .int k n∧k.min≤n∧n≤k.max:=by
 cases h with
 | int h1 h2=>
  rw[hu] at h1;cases h1;simp only[Lit.wf,aJ,jL] at h2;exact ⟨_,rfl,h2⟩
 | bool h1=>rw[hu] at h1;cases h1
 | str h1=>rw[hu] at h1;cases h1
 | list h1=>rw[hu] at h1;cases h1
theorem WT.nn {t:TypeId} {x:V} (hu:P.underlying t=some .bool) (h:WT P t x): ∃b,x= .bool b:=by
 cases h with
 | int h1=>rw[hu] at h1;cases h1
 | bool h1=>exact ⟨_,rfl⟩
 | str h1=>rw[hu] at h1;cases h1
 | list h1=>rw[hu] at h1;cases h1
theorem WT.oJ {t:TypeId} {x:V} (hu:P.underlying t=some .string) (h:WT P t x): ∃s,x= .str s∧s.length≤maxLen:=by
 cases h with
 | int h1=>rw[hu] at h1;cases h1
 | bool h1=>rw[hu] at h1;cases h1
 | str h1 h2=>exact ⟨_,rfl,h2⟩
 | list h1=>rw[hu] at h1;cases h1
theorem WT.ajt {t e:TypeId} {x:V} (hu:P.underlying t=some (.slice e)) (h:WT P t x): ∃es,x= .list e es∧es.length≤maxLen∧∀y∈es,ny P e y:=by
 cases h with
 | int h1=>rw[hu] at h1;cases h1
 | bool h1=>rw[hu] at h1;cases h1
 | str h1=>rw[hu] at h1;cases h1
 | list h1 h2 h3 h4=>
  rw[hu] at h1;cases h1;refine ⟨_,rfl,h2,fun y hy=> ?_⟩;obtain ⟨i,hi⟩:=tC hy;exact ⟨h3 i y hi,fun j t' hj=>h4 i j y t' hi hj⟩
theorem ny.np {t:TypeId} {x:V} (ha:bZ P t=true) (h:ny P t x): ∃xs,x= .agg xs∧xs.length=(aT P t).length∧∀(j:Nat) t' y,(aT P t)[j]? =some t'→xs[j]? =some y→WT P t' y:=by
 obtain ⟨xs,rfl,hl⟩:=h.1 ha;refine ⟨xs,rfl,hl,fun j t' y hj hy=> ?_⟩;have:=h.2 j t' hj;simp only[ca,ha,cond_true,V.al5] at this;rw[yU _ _ _ hy] at this;exact this
theorem Yp {α:Type} {f:α→V} {p:α→Prop}: ∀{es:List V},(∀y∈es,∃a,y=f a∧p a)→∃l:List α,es=l.map f∧∀a∈l,p a
 | [],_=>⟨[],rfl,by simp⟩
 | y::es,h=>by
  obtain ⟨a,rfl,ha⟩:=h y (by simp);obtain ⟨l,rfl,hl⟩:=Yp (f:=f) (p:=p) (es:=es) fun z hz=>h z (by simp[hz]);exact ⟨a::l,rfl,by
   intro b hb;rcases fY.1 hb with rfl|hb
   ·exact ha
   ·exact hl b hb⟩
theorem ny.int {t:TypeId} {x:V} (hu:P.underlying t=some (.int .i64)) (h:ny P t x): ∃n,x= .int .i64 n∧IntKind.min .i64≤n∧n≤IntKind.max .i64:=
 (h.one (by simp[bZ,hu])).fQ hu
theorem ny.str {t:TypeId} {x:V} (hu:P.underlying t=some .string) (h:ny P t x): ∃s,x= .str s∧s.length≤maxLen:=
 (h.one (by simp[bZ,hu])).oJ hu
end
def un.{u} {A B:Type} {γ:Sort u} (f:A→B→γ) (p:A×B):γ:=f p.1 p.2
def fg {A B γ:Type} (f:A→γ) (g:B→γ):A ⊕ B→γ
 | .inl a=>f a
 | .inr b=>g b
def v8:List Nat→Code→Code
 | [],c=>c
 | 0::p,.seq a _=>v8 p a
 | _::p,.seq _ b=>v8 p b
 | 0::p,.cond _ a _=>v8 p a
 | _::p,.cond _ _ b=>v8 p b
 | _::p,.block _ c=>v8 p c
 | _::p,.loop c=>v8 p c
 | _,c=>c
inductive pQ where
 | loop (c:Code)
 | cond (t:Nat) (x y:Code)
section
variable (P:Program) (A:dw) (C:af) (L:cD) (f n m:Nat)
def rQ:Code→List pQ
 | .seq a b=>rQ a++rQ b
 | .cond (.tmp t) x y=>
  match A.j4 f (t*16+15) with
  | none=>rQ x++rQ y
  | some _=>[.cond t x y]
 | .cond (.const _) x y=>rQ x++rQ y
 | .block _ c=>rQ c
 | .loop c=>[.loop c]
 | _=>[]
def uy:pQ→Prop
 | .loop c=>
  match A.j4 f (keyOf c+1) with
  | none=>True
  | some S=> ∀(β:Type) ds (k:Nat→List V→Option β),L β (keyOf c+1) ds k=(Loop (stepG P A C f n m S c) ds).bind fun r=>k r.1 r.2
 | .cond t x y=>
  match A.j4 f (t*16+15) with
  | none=>True
  | some S=> ∀(β:Type) ds (k:Nat→List V→Option β),L β (t*16+15) ds k=(ED P A C f n m t S x y ds).bind fun r=>k r.1 r.2
def pR:List pQ→Prop
 | []=>True
 | b::l=>uy P A C L f n m b∧pR l
variable {P A C L f n m}
theorem pR.left {a b:List pQ}:pR P A C L f n m (a++b)→pR P A C L f n m a:=by
 induction a with
 | nil=>exact fun _=>trivial
 | cons x a ih=>exact fun h=>⟨h.1,ih h.2⟩
theorem pR.right {a b:List pQ}:pR P A C L f n m (a++b)→pR P A C L f n m b:=by
 induction a with
 | nil=>exact fun h=>h
 | cons x a ih=>exact fun h=>ih h.2
theorem aa6: ∀{c:Code} {bs:List pQ},rQ A f c=bs→pR P A C L f n m bs→km P A C L f n m c:=by
 intro c
 induction c with
 | seq a b PF PH=>
  intro bs h hb;subst h;exact ⟨PF rfl hb.left,PH rfl hb.right⟩
 | cond c x y jv jw=>
  intro bs h hb;subst h;cases c with
  | tmp t=>
   simp only[rQ] at hb;simp only[km];cases hs:A.j4 f (t*16+15) with
   | none=>
    rw[hs] at hb;exact ⟨jv rfl hb.left,jw rfl hb.right⟩
   | some S=>
    rw[hs] at hb;have:=hb.1;simp only[uy,hs] at this;exact this
  | const v=>exact ⟨jv rfl hb.left,jw rfl hb.right⟩
  | _=>trivial
 | block id c ih=>
  intro bs h hb;subst h;exact ih rfl hb
 | loop c ih=>
  intro bs h hb;subst h;exact hb.1
 | _=>intro bs h hb;trivial
variable (P A C L f n m) in
def R9 {β:Type} (t:Nat) (S:Shape×List (Out×Shape)) (x y:Code) (ds:List V) (k:Nat→List V→Option β):Option β:=
 let kc:Out→St→Option β:=fun o st=>
  match o with
  | .norm=>(ways m 0 S.2 (.norm,canon m (A.join f t) st)).bind fun e=>k e.1 e.2
  | o=>(ways m 0 S.2 (o,st)).bind fun e=>k e.1 e.2
 match (bM S.1 ds).sl t with
 | .bool b=>bif b then ll P A C L f n m x (bM S.1 ds) kc else ll P A C L f n m y (bM S.1 ds) kc
 | _=>none
theorem amb {t:Nat} {x y:Code} {S:Shape×List (Out×Shape)} (hS:A.j4 f (t*16+15)=some S) (hx:km P A C L f n m x) (hy:km P A C L f n m y) {I R:Type} (enc:I→List V) (qJ:I→R→Nat×List V)
  (de:List V→I) (body:I→(β:Type)→(R→Option β)→Option β) (vE: ∀ds,bM S.1 (enc (de ds))=bM S.1 ds)
  (e1: ∀i (β:Type) (k:Nat→List V→Option β),R9 P A C L f n m t S x y (enc i) k=body i β (fun r=>k (qJ i r).1 (qJ i r).2))
  (hl: ∀(β:Type) ds (k:Nat→List V→Option β),L β (t*16+15) ds k=body (de ds) β (fun r=>k (qJ (de ds) r).1 (qJ (de ds) r).2)):
  uy P A C L f n m (.cond t x y):=by
 simp only[uy,hS];intro β ds k;rw[hl,←e1];unfold R9 ED;rw[vE];simp only;have hk: ∀(z:Option (Out×St)),(z.bind fun r=>(match r.1 with
   | .norm=>(ways m 0 S.2 (.norm,canon m (A.join f t) r.2)).bind fun e=>k e.1 e.2
   | o=>(ways m 0 S.2 (o,r.2)).bind fun e=>k e.1 e.2))=((z.bind fun r=>
   match r.1 with
   | .norm=>some (Out.norm,canon m (A.join f t) r.2)
   | _=>some r).bind fun r=>ways m 0 S.2 r).bind fun r=>k r.1 r.2:=by
  intro z;cases z with
  | none=>rfl
  | some r=>obtain ⟨o,st⟩:=r;cases o<;>rfl
 cases (bM S.1 ds).sl t with
 | bool b=>
  cases b with
  | true=>simp only[cond_true,J2 P A C f n m x hx];exact hk _
  | false=>simp only[cond_false,J2 P A C f n m y hy];exact hk _
 | _=>rfl
theorem bE {b:pQ} {l:List pQ} (h:uy P A C L f n m b) (h2:pR P A C L f n m l):pR P A C L f n m (b::l):=⟨h,h2⟩
theorem au:pR P A C L f n m []:=trivial
theorem amc {key:Nat} {bs:List pQ} (hb:rQ A key (tM P (A.jN key))=bs) (ht:pR P A (Call P A) L key (EE P (A.jN key)) (A.sin key).cT.length bs) {ds:List V} {r:Option (List V)}
  (h:J3 P A (Call P A) L key ds=r):Call P A key ds=r:=by
 rw[al0,ag2 P A (Call P A) key (aa6 hb ht),h]
end
section
variable (P:Program) (A:dw)
def lF (C:af) (N f n m:Nat):Code→St→Option (Out×St)
 | .skip,st=>some (.norm,st)
 | .region id ops draw,st=>(BH P (A.here f id) C n ops draw st).bind fun st'=>some (.norm,canon m (A.live f id) (freeze m (A.pur f id) st'))
 | .seq a b,st=>(lF C N f n m a st).bind fun r=>
  match r.1 with
  | .norm=>lF C N f n m b r.2
  | _=>some r
 | .cond (.tmp t) x y,st=>
  let go (st:St):Option (Out×St):=
   match st.sl t with
   | .bool b=>(bif b then lF C N f n m x st else lF C N f n m y st).bind fun r=>
    match r.1 with
    | .norm=>some (.norm,canon m (A.join f t) r.2)
    | _=>some r
   | _=>none
  match A.j4 f (t*16+15) with
  | none=>go st
  | some S=>(lV m S.1 st).bind fun ds=>((go (bM S.1 ds)).bind fun r=>ways m 0 S.2 r).bind fun e=>n9 0 S.2 e.1 e.2 fun o st=>some (o,st)
 | .cond (.const (.bool b)) x y,st=>bif b then lF C N f n m x st else lF C N f n m y st
 | .block id c,st=>(lF C N f n m c st).bind fun r=>
  match r.1 with
  | .norm=>some (.norm,canon m (A.blk f id) r.2)
  | .exit ar=>bif Nat.beq ar id then some (.norm,canon m (A.blk f id) r.2) else some r
  | .ret=>some r
 | .loop c,st=>
  match A.j4 f (keyOf c+1) with
  | none=>none
  | some S=>(lV m S.1 st).bind fun ds=>(gW (fun ds=>pq m S.1 S.2 (lF C N f n m c (bM S.1 ds))) N ds).bind fun e=>n9 0 S.2 e.1 e.2 fun o st=>some (o,st)
 | .exit id,st=>some (.exit id,st)
 | .ret,st=>some (.ret,st)
 | _,_=>none
def Sa (C:af) (N f:Nat) (ds:List V):Option (List V):=
 match P.funcs[A.jN f]? with
 | none=>none
 | some fn=>
  match fn.body with
  | none=>none
  | some c=>bif lk 0 (A.sin f).cp&&(Nat.ble (A.sin f).cp.length fn.ntmps&&((A.sin f).ok&&(lk 0 (A.iT f).cp&&(Nat.beq (A.iT f).cp.length fn.results.size&&sn (ql (A.sin f).cT.length (A.mv f)))))) then
    (lF P A C N f fn.ntmps (A.sin f).cT.length c (EC A f ds)).bind fun r=>
     match r.1 with
     | .exit _=>none
     | _=>((yI P A f fn (A.sin f).cT.length r.2).run C r.2.hp).map (·.1)
   else none
def L7 (N:Nat):Nat→af
 | 0=>fun _ _=>none
 | n+1=>Sa P A (L7 N n) N
variable {P A}
theorem aa7 {X R:Type} {s1 s2:X→Option (X ⊕ R)} (h: ∀x y,s1 x=some y→s2 x=some y): ∀(n:Nat) (x:X) (r:R),gW s1 n x=some r→gW s2 n x=some r
 | 0,x,r,e=>by cases e
 | n+1,x,r,e=>by
  simp only[gW] at e⊢;obtain ⟨y,h1,h2⟩:=bind_some e;rw[h x y h1];cases y with
  | inl z=>exact aa7 h n z r h2
  | inr q=>exact h2
theorem amd {C:af} {N f n m:Nat}: ∀(c:Code) {st:St} {r:Out×St},lF P A C N f n m c st=some r→exec P A C f n m c st=some r:=by
 intro c
 induction c with
 | skip=>exact fun e=>e
 | exit id=>exact fun e=>e
 | ret=>exact fun e=>e
 | region id ops draw=>exact fun e=>e
 | seq x y jv jw=>
  intro st r e;simp only[lF,exec] at e⊢;obtain ⟨⟨o,s1⟩,h1,h2⟩:=bind_some e;rw[jv h1];cases o with
  | norm=>exact jw h2
  | exit id=>exact h2
  | ret=>exact h2
 | cond c x y jv jw=>
  intro st r e;cases c with
  | tmp t=>
   have go: ∀{st:St} {r:Out×St},(match st.sl t with
     | .bool b=>(bif b then lF P A C N f n m x st else lF P A C N f n m y st).bind fun r=>
      match r.1 with
      | .norm=>some (.norm,canon m (A.join f t) r.2)
      | _=>some r
     | _=>none)=some r→(match st.sl t with
     | .bool b=>(bif b then exec P A C f n m x st else exec P A C f n m y st).bind fun r=>
      match r.1 with
      | .norm=>some (.norm,canon m (A.join f t) r.2)
      | _=>some r
     | _=>none)=some r:=by
    intro st r e;cases hs:st.sl t<;>rw[hs] at e<;>simp only at e⊢ <;>first|(cases e;done)|skip
    rename_i b;obtain ⟨x1,h1,h2⟩:=bind_some e;cases b with
    | true=>simp only[cond_true,jv h1,Option.bind_some];exact h2
    | false=>simp only[cond_false,jw h1,Option.bind_some];exact h2
   simp only[lF,exec] at e⊢;split at e
   ·rename_i hS
    try rw[hS]
    exact go e
   ·rename_i S hS;obtain ⟨ds,h1,h2⟩:=bind_some e;obtain ⟨e',h3,h4⟩:=bind_some h2;obtain ⟨r1,h5,h6⟩:=bind_some h3
    try rw[hS]
    simp only[h1,Option.bind_some];exact (congrArg (fun z:Option (Out×St)=>(z.bind fun r=>ways m 0 S.2 r).bind fun e=>n9 0 S.2 e.1 e.2 fun o st=>some (o,st)) (go h5)).trans (by simp only[Option.bind_some,h6];exact h4)
  | const v=>
   cases v with
   | bool b=>
    simp only[lF,exec] at e⊢;cases b with
    | true=>exact jv e
    | false=>exact jw e
   | _=>simp only[lF] at e;cases e
  | _=>simp only[lF] at e;cases e
 | block id c ih=>
  intro st r e;simp only[lF,exec] at e⊢;obtain ⟨x1,h1,h2⟩:=bind_some e;rw[ih h1];exact h2
 | loop c ih=>
  intro st r e;simp only[lF,exec] at e⊢;split at e
  ·cases e
  ·rename_i S hS;obtain ⟨ds,h1,h2⟩:=bind_some e;obtain ⟨e',h3,h4⟩:=bind_some h2
   try rw[hS]
   simp only[h1,Option.bind_some];rw[Br (aa7 (s2:=fun ds=>pq m S.1 S.2 (exec P A C f n m c (bM S.1 ds))) (fun x y Gc=>by
    unfold pq at Gc⊢;obtain ⟨z,h5,h6⟩:=bind_some Gc;rw[ih h5];exact h6) N ds e' h3)]
   exact h4
 | _=>intro st r e;simp only[lF] at e;cases e
theorem ame {C:af} {N f:Nat} {ds es:List V} (e:Sa P A C N f ds=some es):sr P A C f ds=some es:=by
 unfold Sa at e;unfold sr;cases hf:P.funcs[A.jN f]? with
 | none=>rw[hf] at e;cases e
 | some fn=>
  rw[hf] at e;simp only at e⊢;cases hb:fn.body with
  | none=>rw[hb] at e;cases e
  | some c=>
   rw[hb] at e;simp only at e⊢;cases hc:(lk 0 (A.sin f).cp&&(Nat.ble (A.sin f).cp.length fn.ntmps&&((A.sin f).ok&&(lk 0 (A.iT f).cp&&(Nat.beq (A.iT f).cp.length fn.results.size&&sn (ql (A.sin f).cT.length (A.mv f))))))) with
   | false=>rw[hc] at e;cases e
   | true=>
    rw[hc] at e;simp only[cond_true] at e⊢;obtain ⟨x,h1,h2⟩:=bind_some e;rw[amd c h1];exact h2
theorem aa8 {N:Nat}: ∀n {f:Nat} {a r:List V},L7 P A N n f a=some r→oa P A n f a=some r
 | 0,f,a,r,h=>by cases h
 | n+1,f,a,r,h=>by
  obtain ⟨M,hM⟩:=LR (C:=L7 P A N n) (D:=fun _=>oa P A n) (fun f a r h=>⟨0,fun _ _=>aa8 n h⟩) (ame h);exact hM M (aw _)
theorem aG {N n f:Nat} {a r:List V} (h:L7 P A N n f a=some r):Call P A f a=some r:=Gd.2 ⟨n,aa8 n h⟩
end
inductive LK where
 | int (k:IntKind)
 | bool
 | str
 | list (e:TypeId)
 | nat
def LK.Ty:LK→Type
 | .int _=>Int
 | .bool=>Bool
 | .str=>List UInt8
 | .list _=>List V
 | .nat=>Nat
def LK.enc:(k:LK)→k.Ty→V
 | .int k,n=> .int k n
 | .bool,b=> .bool b
 | .str,s=> .str s
 | .list e,l=> .list e l
 | .nat,n=>fy n
def LK.dec:(k:LK)→V→k.Ty
 | .int _,v=>v.toInt
 | .bool,v=>v.toBool
 | .str,v=>v.toStr
 | .list _,v=>v.toList
 | .nat,v=>jP v
theorem LK.aa9: ∀(k:LK) (x:k.Ty),k.dec (k.enc x)=x
 | .int _,_=>rfl
 | .bool,_=>rfl
 | .str,_=>rfl
 | .list _,_=>rfl
 | .nat,_=>rfl
def Sb:List Nat→List LK
 | []=>[]
 | _::l=> .nat::Sb l
def LS.ks:LS→List LK
 | .int k=>[.int k]
 | .bool=>[.bool]
 | .str=>[.str]
 | .list e=>[.list e]
 | .nl e=>[.list e]
 | .sub .. =>[.nat,.nat]
 | .ptr _=>[.nat,.nat]
 | .row _ _ cs=>Sb cs
 | .dE _ cs _=> .nat::Sb cs
 | _=>[]
def CI:List LS→List LK
 | []=>[]
 | l::ls=>l.ks++CI ls
def VS.ks:VS→List LK
 | .one l=>l.ks
 | .agg ls=>CI ls
 | .bd ls=>CI ls
 | .fn _ a b=>CI a++CI b
 | .pref _ ls=>CI ls
def aba:List VS→List LK
 | []=>[]
 | l::ls=>l.ks++aba ls
def BS.ks:BS→List LK
 | .var _ cs=>aba cs
 | .arr e _=>[.list e]
 | .nest e=>[.list e]
 | .dead=>[]
 | .map t=>[.list t]
def abb:List (Nat×VS)→List LK
 | []=>[]
 | p::l=>p.2.ks++abb l
def abc:List BS→List LK
 | []=>[]
 | b::l=>b.ks++abc l
def Shape.ks (S:Shape):List LK:=abb S.cp++abc S.cT
def Sd:List Nat→List V→List V
 | [],_=>[]
 | _::cs,ds=>fy (jP (V.nth ds 0))::Sd cs (ds.drop 1)
def LS.norm:LS→List V→List V
 | .int k,ds=>[.int k (V.nth ds 0).toInt]
 | .bool,ds=>[.bool (V.nth ds 0).toBool]
 | .str,ds=>[.str (V.nth ds 0).toStr]
 | .list e,ds=>[.list e (V.nth ds 0).toList]
 | .nl e,ds=>[.list e (V.nth ds 0).toList]
 | .sub ..,ds=>[fy (jP (V.nth ds 0)),fy (jP (V.nth ds 1))]
 | .ptr _,ds=>[fy (jP (V.nth ds 0)),fy (jP (V.nth ds 1))]
 | .row _ _ cs,ds=>Sd cs ds
 | .dE _ cs _,ds=>fy (jP (V.nth ds 0))::Sd cs (ds.drop 1)
 | _,_=>[]
def CJ:List LS→List V→List V
 | [],_=>[]
 | l::ls,ds=>l.norm ds++CJ ls (ds.drop l.size)
def VS.norm:VS→List V→List V
 | .one l,ds=>l.norm ds
 | .agg ls,ds=>CJ ls ds
 | .bd ls,ds=>CJ ls ds
 | .fn _ a b,ds=>CJ a ds++CJ b (ds.drop (nh a))
 | .pref _ ls,ds=>CJ ls ds
def abd:List VS→List V→List V
 | [],_=>[]
 | l::ls,ds=>l.norm ds++abd ls (ds.drop l.size)
def BS.norm:BS→List V→List V
 | .var _ cs,ds=>abd cs ds
 | .arr e _,ds=>[.list e (V.nth ds 0).toList]
 | .nest e,ds=>[.list e (V.nth ds 0).toList]
 | .dead,_=>[]
 | .map t,ds=>[.list t (V.nth ds 0).toList]
def abe:List (Nat×VS)→List V→List V
 | [],_=>[]
 | p::l,ds=>p.2.norm ds++abe l (ds.drop p.2.size)
def abf:List BS→List V→List V
 | [],_=>[]
 | b::l,ds=>b.norm ds++abf l (ds.drop b.size)
def Shape.norm (S:Shape) (ds:List V):List V:=abe S.cp ds++abf S.cT (ds.drop (sm S.cp))
def zL:LK→List LK→Type
 | k,[]=>k.Ty
 | k,k'::ks=>k.Ty×zL k' ks
def ou:List LK→Type
 | []=>Unit
 | k::ks=>zL k ks
def zM:(k:LK)→(ks:List LK)→zL k ks→List V
 | k,[],x=>[k.enc x]
 | k,k'::ks,x=>k.enc x.1::zM k' ks x.2
def oU:(ks:List LK)→ou ks→List V
 | [],_=>[]
 | k::ks,x=>zM k ks x
def Gg:(k:LK)→(ks:List LK)→List V→zL k ks
 | k,[],l=>k.dec (V.nth l 0)
 | k,k'::ks,l=>(k.dec (V.nth l 0),Gg k' ks l.tail)
def s7:(ks:List LK)→List V→ou ks
 | [],_=>()
 | k::ks,l=>Gg k ks l
theorem abg: ∀(k:LK) (ks:List LK) (x:zL k ks) (r:List V),Gg k ks (zM k ks x++r)=x
 | k,[],x,r=>LK.aa9 k x
 | k,k'::ks,x,r=>by
  show (k.dec (k.enc x.1),Gg k' ks (zM k' ks x.2++r))=x;rw[LK.aa9,abg k' ks];rfl
def CK:List LK→Type 1→Type 1
 | [],R=>R
 | k::ks,R=>k.Ty→CK ks R
def apN:(k:LK)→(ks:List LK)→{R:Type 1}→CK (k::ks) R→zL k ks→R
 | _,[],_,f,x=>f x
 | _,k'::ks,_,f,x=>apN k' ks (f x.1) x.2
def zN:(ks:List LK)→{R:Type 1}→CK ks R→ou ks→R
 | [],_,f,_=>f
 | k::ks,_,f,x=>apN k ks f x
def CL {α:Type} (b:Bool):List Bool→List α→List α
 | [],_=>[]
 | _,[]=>[]
 | c::m,x::l=>bif c==b then x::CL b m l else CL b m l
def merge:List Bool→List V→List V→List V
 | [],_,_=>[]
 | true::m,i,x=>V.nth x 0::merge m i x.tail
 | false::m,i,x=>V.nth i 0::merge m i.tail x
def CM:List Nat→List LK→List LK
 | [],_=>[]
 | _,[]=>[]
 | 0::t,k::ks=>k::CM t ks
 | (_+1)::t,_::ks=>CM t ks
abbrev jk:=List Nat×List LK
def jk.fresh (w:jk):List LK:=CM w.1 w.2
def put:List Nat→List V→List V→List V
 | [],_,_=>[]
 | 0::t,ds,x=>V.nth x 0::put t ds x.tail
 | (j+1)::t,ds,x=>V.nth ds j::put t ds x
def zO:List Nat→List V→List V
 | [],_=>[]
 | 0::t,l=>V.nth l 0::zO t l.tail
 | (_+1)::t,l=>zO t l.tail
def xQ:jk→List jk→Type
 | w,[]=>ou w.fresh
 | w,w'::ws=>ou w.fresh ⊕ xQ w' ws
def v9:List jk→Type
 | []=>Empty
 | w::ws=>xQ w ws
def wN (ds:List V) {β:Type} (k:Nat→List V→Option β):Nat→(w:jk)→(ws:List jk)→xQ w ws→Option β
 | j,w,[],r=>k j (put w.1 ds (oU w.fresh r))
 | j,w,w'::ws,r=>fg (fun x=>k j (put w.1 ds (oU w.fresh x))) (fun y=>wN ds k (j+1) w' ws y) r
def wT (ds:List V) {β:Type} (k:Nat→List V→Option β):(ws:List jk)→v9 ws→Option β
 | [],r=>Empty.elim r
 | w::ws,r=>wN ds k 0 w ws r
def s8 (ds:List V):Nat→(w:jk)→(ws:List jk)→xQ w ws→Nat×List V
 | j,w,[],r=>(j,put w.1 ds (oU w.fresh r))
 | j,w,_::_,.inl x=>(j,put w.1 ds (oU w.fresh x))
 | j,_,w'::ws,.inr y=>s8 ds (j+1) w' ws y
def CN (ds:List V):(ws:List jk)→v9 ws→Nat×List V
 | [],r=>Empty.elim r
 | w::ws,r=>s8 ds 0 w ws r
theorem abh (ds:List V) {β:Type} (k:Nat→List V→Option β): ∀(j:Nat) (w:jk) (ws:List jk) (r:xQ w ws),wN ds k j w ws r=k (s8 ds j w ws r).1 (s8 ds j w ws r).2
 | _,_,[],_=>rfl
 | _,_,_::_,.inl _=>rfl
 | j,_,w'::ws,.inr y=>abh ds k (j+1) w' ws y
theorem L8 (ds:List V) {β:Type} (k:Nat→List V→Option β): ∀(ws:List jk) (r:v9 ws),wT ds k ws r=k (CN ds ws r).1 (CN ds ws r).2
 | [],r=>Empty.elim r
 | w::ws,r=>abh ds k 0 w ws r
def CO:Nat→(w:jk)→(ws:List jk)→List V→xQ w ws
 | _,w,[],l=>s7 w.fresh (zO w.1 l)
 | 0,w,_::_,l=> .inl (s7 w.fresh (zO w.1 l))
 | j+1,_,w'::ws,l=> .inr (CO j w' ws l)
def deT (j:Nat):(ws:List jk)→List V→Option (v9 ws)
 | [],_=>none
 | w::ws,l=>some (CO j w ws l)
def CP:List Nat→List V→List V
 | [],_=>[]
 | 0::t,x=>V.nth x 0::CP t x.tail
 | (_+1)::t,x=>CP t x
theorem Se: ∀(t:List Nat) (ds x:List V),zO t (put t ds x)=CP t x
 | [],_,_=>rfl
 | 0::t,ds,x=>congrArg (V.nth x 0:: ·) (Se t ds x.tail)
 | (_+1)::t,ds,x=>Se t ds x
theorem Sf: ∀(t:List Nat) (ks:List LK) (k:LK) (uz:List LK),CM t ks=k::uz→∀x:zL k uz,∃r,CP t (zM k uz x)=zM k uz x++r
 | [],_,_,_,h,_=>by cases h
 | _::_,[],_,_,h,_=>by simp[CM] at h
 | 0::t,a::ks,k,uz,h,x=>by
  simp only[CM,yA] at h;obtain ⟨rfl,h2⟩:=h;cases uz with
  | nil=>exact ⟨CP t [],rfl⟩
  | cons k' uz=>
   obtain ⟨r,hr⟩:=Sf t ks k' uz h2 x.2;exact ⟨r,congrArg (a.enc x.1:: ·) hr⟩
 | (_+1)::t,a::ks,k,uz,h,x=>Sf t ks k uz h x
theorem abi (w:jk) (ds:List V) (x:ou w.fresh):s7 w.fresh (zO w.1 (put w.1 ds (oU w.fresh x)))=x:=by
 rw[Se];revert x;generalize hf:w.fresh=f;cases f with
 | nil=>intro x;rfl
 | cons k ks=>
  intro x;obtain ⟨r,hr⟩:=Sf w.1 w.2 k ks hf x;show Gg k ks (CP w.1 (zM k ks x))=x;rw[hr];exact abg k ks x r
theorem abj (ds:List V): ∀(j:Nat) (w:jk) (ws:List jk) (r:xQ w ws),j≤(s8 ds j w ws r).1
 | _,_,[],_=>aw _
 | _,_,_::_,.inl _=>aw _
 | j,_,w'::ws,.inr y=>mX (Nat.le_succ j) (abj ds (j+1) w' ws y)
theorem amf (w:jk) (l:List V): ∀j,CO j w [] l=s7 w.fresh (zO w.1 l)
 | 0=>rfl
 | _+1=>rfl
theorem abk (ds:List V): ∀(j:Nat) (w:jk) (ws:List jk) (r:xQ w ws),CO ((s8 ds j w ws r).1-j) w ws (s8 ds j w ws r).2=r
 | j,w,[],r=>(amf w _ _).trans (abi w ds r)
 | j,w,w'::ws,.inl x=>by
  show CO (j-j) w (w'::ws) (put w.1 ds (oU w.fresh x))= .inl x;rw[Nat.sub_self];exact congrArg Sum.inl (abi w ds x)
 | j,w,w'::ws,.inr y=>by
  have h1:=abj ds (j+1) w' ws y;have h2:=abk ds (j+1) w' ws y;show CO ((s8 ds (j+1) w' ws y).1-j) w (w'::ws) (s8 ds (j+1) w' ws y).2= .inr y;obtain ⟨d,hd⟩: ∃d,(s8 ds (j+1) w' ws y).1=j+1+d:=⟨(s8 ds (j+1) w' ws y).1-(j+1),by omega⟩
  rw[hd] at h2⊢;rw[show j+1+d-(j+1)=d by omega] at h2;rw[show j+1+d-j=d+1 by omega];exact congrArg Sum.inr h2
theorem amg (ds:List V): ∀(ws:List jk) (r:v9 ws),deT (CN ds ws r).1 ws (CN ds ws r).2=some r
 | [],r=>Empty.elim r
 | w::ws,r=>congrArg some (abk ds 0 w ws r)
section
variable {P:Program} {A:dw} {C:af} {L:cD} {f n m:Nat}
theorem amh {c:Code} {S:Shape×List (Out×Shape)} (hS:A.j4 f (keyOf c+1)=some S) (hL:km P A C L f n m c) {I X R:Type} (enc:I→X→List V) (qJ:I→R→Nat×List V)
  (uA:List V→I) (wa:List V→X) (L9:Nat×List V→Option R) (body:I→X→(β:Type)→(X→Option β)→(R→Option β)→Option β)
  (vE: ∀ds,bM S.1 (enc (uA ds) (wa ds))=bM S.1 ds) (Sg: ∀i x,wa (enc i x)=x) (hdr: ∀i r,L9 (qJ i r)=some r)
  (e1: ∀i x (β:Type) (k:(List V ⊕ (Nat×List V))→Option β),ll P A C L f n m c (bM S.1 (enc i x)) (fun o st=>(pq m S.1 S.2 (some (o,st))).bind k)=
   body i x β (fun y=>k (.inl (enc i y))) (fun r=>k (.inr (qJ i r))))
  (hl: ∀(β:Type) ds (k:Nat→List V→Option β),L β (keyOf c+1) ds k=(Loop (fun x=>body (uA ds) x (X ⊕ R) (fun y=>some (.inl y)) (fun r=>some (.inr r))) (wa ds)).bind fun r=>k (qJ (uA ds) r).1 (qJ (uA ds) r).2):
  uy P A C L f n m (.loop c):=by
 simp only[uy,hS];intro β ds k;rw[hl];have hex: ∀(z:Option (Out×St)),pq m S.1 S.2 z=z.bind fun r=>pq m S.1 S.2 (some (r.1,r.2)):=by
  intro z;cases z<;>rfl
 have hs: ∀i x,stepG P A C f n m S c (enc i x)=(body i x (X ⊕ R) (fun y=>some (.inl y)) (fun r=>some (.inr r))).map fun| .inl y=> .inl (enc i y)| .inr r=> .inr (qJ i r):=by
  intro i x;have k1:=e1 i x _ (fun z=>some z);have k2:=e1 i x (X ⊕ R) (fun| .inl ds=>some (.inl (wa ds))| .inr e=>(L9 e).map .inr);have k3:=e1 i x (List V ⊕ (Nat×List V)) (fun| .inl ds=>some (.inl (enc i (wa ds)))| .inr e=>(L9 e).map fun r=> .inr (qJ i r));simp only[Sg,hdr,Option.map_some] at k2 k3;unfold stepG;rw[hex];rw[J2 P A C f n m c hL] at k1 k2 k3;rw[←k2];refine Eq.trans ?_ (k1.trans (k3.symm.trans ?_))
  ·simp
  ·cases exec P A C f n m c (bM S.1 (enc i x)) with
   | none=>rfl
   | some r=>
    simp only[Option.bind_some];cases pq m S.1 S.2 (some (r.1,r.2)) with
    | none=>rfl
    | some z=>
     cases z with
     | inl _=>rfl
     | inr e=>simp only[Option.bind_some];cases L9 e<;>rfl
 have h0:stepG P A C f n m S c ds=stepG P A C f n m S c (enc (uA ds) (wa ds)):=by
  unfold stepG;rw[vE]
 have:Loop (stepG P A C f n m S c) ds=(Loop (fun x=>body (uA ds) x (X ⊕ R) (fun y=>some (.inl y)) (fun r=>some (.inr r))) (wa ds)).map (qJ (uA ds)):=by
  rw[JC,h0,←JC];exact ag0 (enc (uA ds)) (qJ (uA ds)) (fun x=>hs _ _) (wa ds)
 rw[this];cases Loop (fun x=>body (uA ds) x (X ⊕ R) (fun y=>some (.inl y)) (fun r=>some (.inr r))) (wa ds)<;>rfl
abbrev Gh (S:Shape) (mk:List Bool):List LK:=CL false mk S.ks
abbrev zP (S:Shape) (mk:List Bool):List LK:=CL true mk S.ks
def wb (ts:List (List Nat)) (W:List (Out×Shape)):List jk:=
 match ts,W with
 | t::ts,w::W=>(t,w.2.ks)::wb ts W
 | _,_=>[]
abbrev Gi (S:Shape) (mk:List Bool) (i:ou (Gh S mk)) (x:ou (zP S mk)):List V:=merge mk (oU _ i) (oU _ x)
abbrev Sh (S:Shape) (mk:List Bool) (i:ou (Gh S mk)):List V:=merge mk (oU _ i) []
abbrev Ma (S:Shape) (mk:List Bool) (ds:List V):ou (Gh S mk):=s7 _ (CL false mk (S.norm ds))
abbrev Mb (S:Shape) (mk:List Bool) (ds:List V):ou (zP S mk):=s7 _ (CL true mk (S.norm ds))
abbrev abl (X R:Type):Type 1:=(β:Type)→(X→Option β)→(R→Option β)→Option β
abbrev Mc (S:Shape×List (Out×Shape)) (mk:List Bool) (ts:List (List Nat)):Type 1:=CK (Gh S.1 mk) (CK (zP S.1 mk) (abl (ou (zP S.1 mk)) (v9 (wb ts S.2))))
abbrev Si (S:Shape×List (Out×Shape)) (mk:List Bool) (ts:List (List Nat)) (b:Mc S mk ts) (i:ou (Gh S.1 mk)) (x:ou (zP S.1 mk)):abl (ou (zP S.1 mk)) (v9 (wb ts S.2)):=zN _ (zN _ b i) x
def Sj (S:Shape×List (Out×Shape)) (mk:List Bool) (ts:List (List Nat)) (b:Mc S mk ts) {β:Type} (ds:List V) (k:Nat→List V→Option β):Option β:=
 (Loop (fun x=>Si S mk ts b (Ma S.1 mk ds) x (ou (zP S.1 mk) ⊕ v9 (wb ts S.2)) (fun y=>some (.inl y)) (fun r=>some (.inr r))) (Mb S.1 mk ds)).bind (wT (Sh S.1 mk (Ma S.1 mk ds)) k (wb ts S.2))
theorem bJ {c:Code} (S:Shape×List (Out×Shape)) (mk:List Bool) (ts:List (List Nat)) (b:Mc S mk ts) (hL:km P A C L f n m c) (hS:A.j4 f (keyOf c+1)=some S:=by kernel_rfl)
  (vE: ∀ds,bM S.1 (Gi S.1 mk (Ma S.1 mk ds) (Mb S.1 mk ds))=bM S.1 ds:=by intros;kernel_rfl) (Sg: ∀i x,Mb S.1 mk (Gi S.1 mk i x)=x:=by intros;kernel_rfl)
  (e1: ∀i x (β:Type) (k:(List V ⊕ (Nat×List V))→Option β),ll P A C L f n m c (bM S.1 (Gi S.1 mk i x)) (fun o st=>(pq m S.1 S.2 (some (o,st))).bind k)=
   Si S mk ts b i x β (fun y=>k (.inl (Gi S.1 mk i y))) (wT (Sh S.1 mk i) (fun j l=>k (.inr (j,l))) (wb ts S.2)):=by intros;kernel_rfl)
  (hl: ∀(β:Type) ds (k:Nat→List V→Option β),L β (keyOf c+1) ds k=Sj S mk ts b ds k:=by intros;kernel_rfl):
  uy P A C L f n m (.loop c):=
 amh hS hL (Gi S.1 mk) (fun i r=>CN (Sh S.1 mk i) _ r) (Ma S.1 mk) (Mb S.1 mk) (fun e=>deT e.1 _ e.2) (Si S mk ts b) vE Sg (fun i r=>amg _ _ r)
  (fun i x β k=>by
   rw[e1];congr 1;funext r;exact L8 _ _ _ r)
  (fun β ds k=>by
   rw[hl];unfold Sj;congr 1;funext r;exact L8 _ _ _ r)
abbrev Sk (S:Shape×List (Out×Shape)) (ts:List (List Nat)):Type 1:=CK S.1.ks ((β:Type)→(v9 (wb ts S.2)→Option β)→Option β)
def abm (S:Shape×List (Out×Shape)) (ts:List (List Nat)) (b:Sk S ts) {β:Type} (ds:List V) (k:Nat→List V→Option β):Option β:=
 zN S.1.ks b (s7 _ (S.1.norm ds)) β (wT (oU S.1.ks (s7 _ (S.1.norm ds))) k (wb ts S.2))
theorem Gj {t:Nat} {x y:Code} (S:Shape×List (Out×Shape)) (ts:List (List Nat)) (b:Sk S ts) (hx:km P A C L f n m x) (hy:km P A C L f n m y) (hS:A.j4 f (t*16+15)=some S:=by kernel_rfl)
  (vE: ∀ds,bM S.1 (oU S.1.ks (s7 _ (S.1.norm ds)))=bM S.1 ds:=by intros;kernel_rfl)
  (e1: ∀i (β:Type) (k:Nat→List V→Option β),R9 P A C L f n m t S x y (oU S.1.ks i) k=zN S.1.ks b i β (wT (oU S.1.ks i) k (wb ts S.2)):=by intros;kernel_rfl)
  (hl: ∀(β:Type) ds (k:Nat→List V→Option β),L β (t*16+15) ds k=abm S ts b ds k:=by intros;kernel_rfl):
  uy P A C L f n m (.cond t x y):=
 amb hS hx hy (oU S.1.ks) (fun i r=>CN (oU S.1.ks i) _ r) (fun ds=>s7 _ (S.1.norm ds)) (zN S.1.ks b) vE
  (fun i β k=>by
   rw[e1];exact congrArg (zN S.1.ks b i β) (funext fun r=>L8 _ _ _ r))
  (fun β ds k=>by
   rw[hl];exact congrArg (zN S.1.ks b (s7 _ (S.1.norm ds)) β) (funext fun r=>L8 _ _ _ r))
end
theorem bq {P:Program} {A:dw} {C:af} {L:cD} {f n m:Nat} {c:Code} {bs:List pQ} (hb:pR P A C L f n m bs) (h:rQ A f c=bs:=by kernel_rfl):km P A C L f n m c:=aa6 h hb
theorem bC {P:Program} {A:dw} {L:cD} {key:Nat} {bs:List pQ} {ds:List V} {r x:Option (List V)} (ht:pR P A (Call P A) L key (EE P (A.jN key)) (A.sin key).cT.length bs) (h:x=r)
  (hb:rQ A key (tM P (A.jN key))=bs:=by kernel_rfl) (e:J3 P A (Call P A) L key ds=x:=by kernel_rfl):Call P A key ds=r:=amc hb ht (e.trans h)
def bI (j:Nat) (S:Shape×List (Out×Shape)) (mk:List Bool) (ts:List (List Nat)) (b:Mc S mk ts) (L:cD):cD:=fun β n ds k=>bif Nat.beq n j then Sj S mk ts b ds k else L β n ds k
def Gk (j:Nat) (S:Shape×List (Out×Shape)) (ts:List (List Nat)) (b:Sk S ts) (L:cD):cD:=fun β n ds k=>bif Nat.beq n j then abm S ts b ds k else L β n ds k
def bB:cD:=fun _ _ _ _=>none
abbrev LV:=List V
structure SE where
 T:TypeId
 cmp:Nat
 ex:V→List V
 k:Nat→Nat
abbrev CQ (l:List V) (j:Int) {β:Type} (x:Option β):Option β:=bif (decide (0≤j))&&(decide (j<(l.length:Int))) then x else none
abbrev aM (l:List V) (j:Int) {β:Type} (f:V→Option β):Option β:=bif (decide (0≤j))&&(decide (j<(l.length:Int))) then (l[j.toNat]?).bind f else none
abbrev bn (l:List V) (j:Int) (v:V):List V:=l.set j.toNat v
end Go.AM
