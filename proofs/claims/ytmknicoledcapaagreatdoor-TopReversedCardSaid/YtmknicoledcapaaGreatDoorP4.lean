/-
  Functions of the program, lifted to plain data.
-/
import Derived.Carry
import Derived.OpenShut
import Derived.Deep.Slices
import Derived.Test.YtmknicoledcapaaGreatDoorP3
noncomputable section
set_option linter.unusedVariables false
set_option linter.unusedSimpArgs false
set_option linter.unusedSectionVars false
namespace Go.AM
open Go.IntKind (wrap)
section
variable {P:Program}{A:dz}{E:FuncId→Bool}{G:Nat→V}{w w':World}{I I' I2:Nat→Nat→Prop}{μ β β':Nat→Option Nat}{hp hp' hp0:Nat→Option ag}{C:af}{B:Nat}{M:Nat→Prop}{w0:Start}
def Cp(hp0:Nat→Option ag):Prop:= ∀id e es vers,(hp0 id=some (.nest e es vers)∨∃i,hp0 id=some (.out e es vers i))→∀k,bG vers k=0
theorem agY{n m:Nat}{ord kp live:List Nat}{a:Act}{st:St}(uC:ord.Nodup)(Kb:∀id,id<m→ord[id]? =some id∨∃p,ord[id]? =some p∧st.hp p=none)(S:ax P w I β st.hp B M w0)(hT:vQ P I β st.hp)(hA:jt P E G w I β n a st)(hE:qj w0.w w0.I μ hp0 w I β st.hp)(hm:∀id blk,hp0 id=some blk→id<m)(nw:Cp hp0):
  ∃β',ax P w I β' (DR ord kp live st).hp B M w0∧jt P E G w I β' n a (DR ord kp live st)∧qj w0.w w0.I μ hp0 w I β' (DR ord kp live st).hp:=by
 have auw:DR ord kp live st=mk (qO st.hp ord st.sl (ord.length+(jJ st.hp ord kp ord.length ord).2.length) live).1
   ((jJ st.hp ord kp ord.length ord).1++((jJ st.hp ord kp ord.length ord).2++(qO st.hp ord st.sl (ord.length+(jJ st.hp ord kp ord.length ord).2.length) live).2)):=by
  rfl
 rw[auw]
 let hp':=oj ((jJ st.hp ord kp ord.length ord).1++((jJ st.hp ord kp ord.length ord).2++(qO st.hp ord st.sl (ord.length+(jJ st.hp ord kp ord.length ord).2.length) live).2))
 let β':Nat→Option Nat:=fun j=>if j<ord.length then(ord[j]?).bind β else none
 have hlen:(jJ st.hp ord kp ord.length ord).1.length=ord.length:=agV;have nt:∀j,j<ord.length→hp' j=(jJ st.hp ord kp ord.length ord).1[j]? :=by
  intro j hj;simp only[hp',lQ];rw[qC (by omega)]
 have lG:∀k,hp' (ord.length+k)=((jJ st.hp ord kp ord.length ord).2++(qO st.hp ord st.sl (ord.length+(jJ st.hp ord kp ord.length ord).2.length) live).2)[k]? :=by
  intro k;simp only[hp',lQ];rw[qD (by omega),hlen,MX]
 have hF:ql hp' β' ord.length ((jJ st.hp ord kp ord.length ord).2++(qO st.hp ord st.sl (ord.length+(jJ st.hp ord kp ord.length ord).2.length) live).2):=by
  intro k b hb;refine⟨(lG k).trans hb,?_⟩;simp only[β'];rw[fZ]
 have uU:sP ((jJ st.hp ord kp ord.length ord).2++(qO st.hp ord st.sl (ord.length+(jJ st.hp ord kp ord.length ord).2.length) live).2):=agU.app agS;have ve:∀(j:Nat) id,ord[j]? =some id→β' j=β id:=by
  intro j id hj;simp only[β'];rw[aF (cw.1 hj).1,hj];rfl
 have wQ:∀(j:Nat) id,ord[j]? =some id→∃n',ql hp' β' n' (gM st.hp ord kp n' id).2∧hp' j=some (gM st.hp ord kp n' id).1:=by
  intro j id hj;obtain⟨n',h1,h2⟩:=agW (hp:=st.hp) (hp':=hp') (β':=β') (ord:=ord) (kp:=kp) (n:=ord.length) hj;exact⟨n',h1 hF.left,(nt j (cw.1 hj).1).trans h2⟩
 have hR:Fm st.hp β ord hp' β':=by
  refine⟨fun j id e es fz hj ae=> ?_,fun j id T cs hj ae=> ?_,fun j id hj ae=> ?_,fun j id e es vs i hj ae=> ?_,ve,fun j id e es vers hj ae=> ?_,fun j id t es hj ae=> ?_⟩
  ·obtain⟨n',_,h2⟩:=wQ j id hj;rw[h2];simp only[gM,ae]
  ·obtain⟨n',_,h2⟩:=wQ j id hj;rw[h2];simp only[gM,ae];exact⟨_,rfl⟩
  ·obtain⟨n',_,h2⟩:=wQ j id hj;rw[h2];simp only[gM,ae]
  ·obtain⟨n',_,h2⟩:=wQ j id hj;rw[h2];simp only[gM,ae]
  ·obtain⟨n',_,h2⟩:=wQ j id hj;rw[h2];simp only[gM,ae]
  ·obtain⟨n',_,h2⟩:=wQ j id hj;rw[h2];simp only[gM,ae]
 have cls:∀j blk',hp' j=some blk'→(∃id,ord[j]? =some id∧((blk'= .dead)∨∃blk,st.hp id=some blk∧blk≠ .dead∧∀o b,bm P w o blk' b→bm P w o blk b))∨(∃e,blk'= .arr e [] false∧β' j=none):=by
  intro j blk' hj;rcases jG j ord.length with h|h
  ·have iY:=bX h;obtain⟨n',_,h2⟩:=wQ j _ iY;rw[hj]at h2;refine .inl ⟨_,iY,?_⟩;cases ae:st.hp ord[j]with
   |none=>left;simp only[gM,ae]at h2;exact eX h2
   |some blk=>
    cases blk with
    |dead=>left;simp only[gM,ae]at h2;exact eX h2
    |out _ _ _ _=>left;simp only[gM,ae]at h2;exact eX h2
    |var T0 cs=>exact .inr ⟨_,rfl,by simp,fun o b h=>by simp only[gM,ae]at h2;rw[eX h2]at h;exact .root (by simp) (h.flat (by simp))⟩
    |arr e es fz=>exact .inr ⟨_,rfl,by simp,fun o b h=>by simp only[gM,ae]at h2;rw[eX h2]at h;exact .root (by simp) (h.flat (by simp))⟩
    |map t es=>exact .inr ⟨_,rfl,by simp,fun o b h=>by simp only[gM,ae]at h2;rw[eX h2]at h;exact .root (by simp) (h.flat (by simp))⟩
    |nest e es vers=>
     refine .inr ⟨_,rfl,by simp,fun o b h=> ?_⟩;simp only[gM,ae]at h2;rw[eX h2]at h;cases h with
     |root _ h=>exact .root (by simp) h
     |row h1 h2=>exact .row h1 h2
  ·obtain⟨k,rfl⟩:∃k,j=ord.length+k:=⟨j-ord.length,by omega⟩
   rw[lG]at hj;obtain⟨e,he⟩:=uU _ (nE hj);exact .inr ⟨e,he,(hF k _ hj).2⟩
 refine⟨β',⟨⟨fun j blk' hj=> ?_,fun j1 j2 b1 b2 b e1 e2 f1 f2=> ?_,fun j blk b e1 f1=> ?_,S.h.kC⟩,S.cM,S.size,S.new,S.io⟩,⟨fun k=> ?_,hA.size,hA.defers,hA.aC⟩,⟨hE.eD,hE.cM,fun id blk ae=> ?_,fun id blk blk' b ae bU hd hb=> ?_⟩⟩
 ·change hp' j=some blk' at hj;rcases jG j ord.length with h|h
  ·have iY:=bX h;obtain⟨n',hF',h2⟩:=wQ j _ iY;rw[hj]at h2;rw[ve j _ iY];cases ae:st.hp ord[j]with
   |none=>simp only[gM,ae]at h2;rw[eX h2];exact .dead
   |some blk=>
    have hr:=S.h.rel _ _ ae;generalize β ord[j]=o at hr;cases hr with
    |dead=>simp only[gM,ae]at h2;rw[eX h2];exact .dead
    |out=>simp only[gM,ae]at h2;rw[eX h2];exact .dead
    |eM hb=>simp only[gM,ae]at h2;rw[eX h2];exact .eM hb
    |arr a0 a1 a2 a3 a4 a5 a6 a7=>simp only[gM,ae]at h2;rw[eX h2];exact .arr a0 a1 a2 a3 a4 a5 a6 a7
    |nest a1 a2 a3=>simp only[gM,ae]at h2;rw[eX h2];exact .nest a1 a2 a3
    |jA a1=>simp only[gM,ae]at h2;rw[eX h2];exact .jA a1
    |map a1 a2 a3 a4 a5 a6 a7=>simp only[gM,ae]at h2;rw[eX h2];exact .map a1 a2 a3 a4 a5 a6 a7
    |@var xs b Ca T hb hh hs dq hx jo=>
     simp only[gM,ae]at h2 hF';rw[eX h2];exact .var hb hh (by rw[QB];exact hs) dq (fun i v y hi hy=>QC S hT hR (vs:=Ca.toList) (fun i v x hi dk=>hx i v x (by simpa using hi) dk) hF' i v y (by simpa using hi) hy) jo
  ·rcases cls j blk' hj with⟨id,ae,_⟩|⟨e,he,hb⟩
   ·have:=(cw.1 ae).1;omega
   ·rw[he];exact .eM hb
 ·rcases cls j1 b1 e1 with⟨lI,o1,x1⟩|⟨e,_,hb⟩
  ·rcases cls j2 b2 e2 with⟨aY,o2,x2⟩|⟨e,_,hb⟩
   ·obtain⟨c1,y1,z1,g1⟩:=x1.resolve_left f1.alive;obtain⟨c2,y2,z2,g2⟩:=x2.resolve_left f2.alive;rw[ve _ _ o1]at f1;rw[ve _ _ o2]at f2;have:=S.h.inj lI aY c1 c2 b y1 y2 (g1 _ _ f1) (g2 _ _ f2);subst this;obtain⟨q1,q2⟩:=cw.1 o1;obtain⟨q3,q4⟩:=cw.1 o2;exact(List.getElem_inj uC).1 (q2.trans q4.symm)
   ·subst ‹b2=_›;have:=f2.flat (by simp);rw[hb]at this;cases this
  ·subst ‹b1=_›;have:=f1.flat (by simp);rw[hb]at this;cases this
 ·rcases cls j blk e1 with⟨lI,o1,x1⟩|⟨e,_,hb⟩
  ·obtain⟨c1,y1,z1,g1⟩:=x1.resolve_left f1.alive;rw[ve _ _ o1]at f1;exact S.h.own lI c1 b y1 (g1 _ _ f1)
  ·subst ‹blk=_›;have:=f1.flat (by simp);rw[hb]at this;cases this
 ·change ai P w I β' hp' (a.tmps.getD k undef) (nO _ k);unfold nO;cases Js:fP (qO st.hp ord st.sl (ord.length+(jJ st.hp ord kp ord.length ord).2.length) live).1 k with
  |none=>exact .undef
  |some y=>
   obtain⟨n',h1,h2⟩:=agT hF.right Js;simp only[Option.getD_some,h2];exact aut S hT hR (hA.sl k) h1
 ·obtain⟨wK,k1,k2,k3⟩:=hE.blk id blk ae;rcases Kb id (hm id blk ae)with ho|⟨p,ho,bK⟩
  ·cases wK with
   |dead=>exact⟨.dead,hR.dead id id ho k1,k2,fun h=>absurd rfl h⟩
   |out e es vs i=>exact⟨.dead,hR.out id id _ _ _ _ ho k1,by cases blk<;>trivial,fun h=>absurd rfl h⟩
   |var T0 cs=>
    obtain⟨mq,h'⟩:=hR.var id id T0 cs ho k1;refine⟨_,h',?_,fun _=>(ve id id ho).trans (k3 (by simp))⟩;cases blk<;>simp_all [ag.le]
   |arr e es fz=>exact⟨_,hR.arr id id e es fz ho k1,k2,fun _=>(ve id id ho).trans (k3 (by simp))⟩
   |map t es=>exact⟨_,hR.map id id t es ho k1,k2,fun _=>(ve id id ho).trans (k3 (by simp))⟩
   |nest e es vers=>
    refine⟨_,hR.nest id id e es vers ho k1,?_,fun _=>(ve id id ho).trans (k3 (by simp))⟩;rcases ag.abP k2 with⟨PY,auy,rfl,l1,l2,_⟩|⟨PY,auy,i0,rfl,l1,l2,_⟩
    ·exact⟨rfl,l1,by simpa using l2,fun k=>by rw[nw id _ _ _ (.inl ae) k];exact nH _⟩
    ·exact⟨rfl,l1,by simpa using l2,fun k=>by rw[nw id _ _ _ (.inr ⟨_,ae⟩) k];exact nH _⟩
  ·obtain⟨n',_,h2⟩:=wQ id p ho;simp only[gM,bK]at h2;exact⟨.dead,h2,by cases blk<;>trivial,fun h=>absurd rfl h⟩
 ·obtain⟨wK,k1,k2,k3⟩:=hE.blk id blk ae;rcases Kb id (hm id blk ae)with ho|⟨p,ho,bK⟩
  ·refine hE.size id blk wK b ae k1 (fun u4=> ?_) hb;subst u4;have:=hR.dead id id ho k1;change hp' id=some blk' at bU;rw[this]at bU;exact hd (eX bU).symm
  ·obtain⟨n',_,h2⟩:=wQ id p ho;simp only[gM,bK]at h2;change hp' id=some blk' at bU;rw[h2]at bU;exact absurd (eX bU).symm hd
theorem auz{n m:Nat}{live:List Nat}{a:Act}{st:St}(S:ax P w I β st.hp B M w0)(hT:vQ P I β st.hp)(hA:jt P E G w I β n a st)(hE:qj w0.w w0.I μ hp0 w I β st.hp)(hm:∀id blk,hp0 id=some blk→id<m)(nw:Cp hp0):
  ∃β',ax P w I β' (canon m live st).hp B M w0∧jt P E G w I β' n a (canon m live st)∧qj w0.w w0.I μ hp0 w I β' (canon m live st).hp:=by
 obtain⟨t,Kb,uC⟩:=auv (m:=m) (live:=live) (st:=st);refine agY (by rw[Kb];exact uC) (fun id aO=> .inl ?_) S hT hA hE hm nw;rw[Kb,qC (by simpa using aO)];simp[aO]
theorem agZ:∀{l:List Nat},ur l=true→l.Nodup
 | [],_=> .nil
 |a::l,h=>by
  simp only[ur,aG,nG]at h;rw[List.nodup_cons];exact⟨fun hm=>Bool.noConfusion ((Bm hm).symm.trans h.1),agZ h.2⟩
theorem auA{m:Nat}{mv:List Nat}{id:Nat}(h:id<m):(sd m mv)[id]? =some id∨(sd m mv)[id]? =some (m+id):=by
 unfold sd;rw[qC (by simpa using h),jX];simp only[Dw h,Option.map_some];cases jh mv id with
 |true=>exact .inr rfl
 |false=>exact .inl rfl
end
section
variable {P:Program}{A:dz}{w w':World}{I I' I2:Nat→Nat→Prop}{μ β β':Nat→Option Nat}{hp hp' hp0:Nat→Option ag}{C:af}{B:Nat}{M:Nat→Prop}{w0:Start}
theorem QD(p:Nat→Prop)(h:∃n,p n):∃n,p n∧∀m,p m→n≤m:=by
 obtain⟨n,hn⟩:=h
 induction n using Nat.strongRecOn with
 |_ n ih=>
  by_cases hx:∃m,m<n∧p m
  ·obtain⟨m,hm,hp⟩:=hx;exact ih m hm hp
  ·exact⟨n,hn,fun m hm=>Nat.le_of_not_lt fun aO=>hx ⟨m,aO,hm⟩⟩
open Classical in
theorem auB{c:Code}{Q:Exit→Act→World→Prop}(J:Nat→Act→World→Prop)(h0:∀a w,¬J 0 a w)(round:∀n a w,J (n+1) a w→c.wp P (Exit.then (J n) Q) a w){n:Nat}{a:Act}{w:World}(h:J n a w):
  (Code.loop c).wp P Q a w:=by
 refine wp_loop (fun a w=> ∃n,J n a w) (fun a w=>if h:∃n,J n a w then(QD _ h).choose else 0) ⟨n,h⟩ fun a w hJ=> ?_;obtain⟨h1,h2⟩:=(QD _ hJ).choose_spec;generalize hk:(QD _ hJ).choose=k at h1 h2;cases k with
 |zero=>exact absurd h1 (h0 a w)
 |succ k=>
  refine wp_mono (round k a w h1) fun e a' w' he=> ?_;cases e with
  |normal=>
   have hex:∃n,J n a' w':=⟨k,he⟩
   refine⟨hex,?_⟩;have h3:=(QD _ hex).choose_spec.2 k he;rw[dif_pos hex,dif_pos hJ,hk];omega
  |_=>exact he
def Fo:Out→Exit
 | .norm=> .normal
 | .exit id=> .exit id
 | .ret=> .ret
def Inv(P:Program)(E:FuncId→Bool)(G:Nat→V)(B:Nat)(M:Nat→Prop)(w0:Start)(μ:Nat→Option Nat)(hp0:Nat→Option ag)(n:Nat)(a:Act)(w:World)(st:St):Prop:=
 ∃I β,ax P w I β st.hp B M w0∧jt P E G w I β n a st∧qj w0.w w0.I μ hp0 w I β st.hp
theorem Inv.canon{E:FuncId→Bool}{G:Nat→V}{n m:Nat}{a:Act}{st:St}{live:List Nat}(h:Inv P E G B M w0 μ hp0 n a w st)(hm:∀id blk,hp0 id=some blk→id<m)(nw:Cp hp0):Inv P E G B M w0 μ hp0 n a w (canon m live st):=by
 obtain⟨I0,β,S,hA,hE⟩:=h;obtain⟨I,h1,S,hA,hT⟩:=agK S hA;obtain⟨β',a,b,c⟩:=auz (live:=live) S hT hA (hE.trans h1.Fc) hm nw;exact⟨I,β',a,b,c⟩
theorem QE:∀{l:List BS} {ds:List V},(iM l ds).length=l.length
 | [],_=>rfl
 |b::l,ds=>by simp only[iM,List.length_cons,QE]
theorem Inv.enter{A:dz}{E:FuncId→Bool}{G:Nat→V}{n f:Nat}{ds:List V}{a:Act}(jN:ur (sd (A.sin f).db.length (A.mv f))=true)(h:Inv P E G B M w0 μ hp0 n a w (bL (A.sin f) ds))(hm:∀id blk,hp0 id=some blk→id<(A.sin f).db.length)
  (nw:Cp hp0) (ag0:∀p,(A.sin f).db.length≤p→(bL (A.sin f) ds).hp p=none):Inv P E G B M w0 μ hp0 n a w (Hi A f ds):=by
 unfold Hi;split
 ·exact h
 ·obtain⟨I0,β,S,hA,hE⟩:=h;obtain⟨I,h1,S,hA,hT⟩:=agK S hA;obtain⟨β',x,y,z⟩:=agY (kp:=[]) (m:=(A.sin f).db.length) (ord:=sd (A.sin f).db.length (A.mv f)) (live:=(A.sin f).ch.map (·.1)) (agZ jN) (fun id ae=>(auA ae).imp (fun h=>h) fun h=>⟨_,h,ag0 _ (by omega)⟩) S hT hA (hE.trans h1.Fc) hm nw;exact⟨I,β',x,y,z⟩
theorem Inv.reshape{E:FuncId→Bool}{G:Nat→V}{n m:Nat}{a:Act}{st:St}{S:Shape}{ds:List V}(h:Inv P E G B M w0 μ hp0 n a w st)(hs:mX m S st=some ds)(hm:∀id blk,hp0 id=some blk→id<m):Inv P E G B M w0 μ hp0 n a w (bL S ds):=by
 obtain⟨I,β,S1,hA,hE⟩:=h;obtain⟨r1,r2,_,r4⟩:=AM.reshape hs S1;refine⟨I,β,r1,⟨fun k=>r2 k _ (hA.sl k),hA.size,hA.defers,hA.aC⟩,⟨hE.eD,hE.cM,fun id blk ae=> ?_,fun id blk blk' b ae bU hd hb=> ?_⟩⟩
 ·obtain⟨wK,k1,k2,k3⟩:=hE.blk id blk ae;obtain⟨_,hle,_⟩:=afS hs;have hl:=hm id blk ae;obtain⟨cC,h2⟩:∃cC,(bL S ds).hp id=some cC:=by
   simp only[bL,mk,lQ];exact⟨_,bX (by rw[QE];omega)⟩
  by_cases hd:cC= .dead
  ·subst hd;exact⟨_,h2,by cases blk<;>trivial,fun h=>absurd rfl h⟩
  ·obtain⟨lx,e1,e2,_⟩:=r4 id cC h2 hd;rw[k1]at e1;cases e1;exact⟨_,h2,ag.le_trans k2 e2,fun _=>k3 (fun e=>hd (ag.vO (e▸e2)))⟩
 ·obtain⟨lx,e1,e2,_⟩:=r4 id blk' bU hd;exact hE.size id blk lx b ae e1 (fun e=>hd (ag.vO (e▸e2))) hb
theorem qk.here(h:qk P A C)(f:Nat)(id:Nat):qk P (A.here f id) C:=by
 intro key ds es hh;obtain⟨fn,c,h1,h2,h3⟩:=h key ds es hh;refine⟨fn,c,h1,h2,fun w I μ vals a g b d=>(h3 w I μ vals a g b d).mono fun e w' hx=> ?_⟩;obtain⟨v,I2,cG,q1,q2⟩:=hx;exact⟨v,I2,cG,q1,⟨q2.Fe,q2.le,q2.res⟩⟩
theorem auC{a b:Out}(h:Nv a b=true):a=b:=by
 cases a<;>cases b<;>simp[Nv]at h<;>first|rfl|(subst h;rfl)
theorem ag1{m:Nat}{r:Out×St}:∀{l:List (Out×Shape)} {j:Nat} {e:Nat×List V},ways m j l r=some e→j≤e.1
 | [],j,e,h=>by cases h
 |(o,S)::l,j,e,h=>by
  simp only[ways]at h;split at h
  ·cases h;exact aW _
  ·have:=ag1 h;omega
theorem XG{m:Nat}{o:Out}{s:St}{out:Out}{st':St}:∀{l:List (Out×Shape)} {k:Nat} {e:Nat×List V},ways m k l (o,s)=some e→o0 k l e.1 e.2 (fun o st=>some (o,st))=some (out,st')→
  out=o∧∃S,mX m S s=some e.2∧st'=bL S e.2
 | [],k,e,h,_=>by cases h
 |(o',S)::l,k,e,h,h2=>by
  simp only[ways]at h;split at h
  ·rename_i ds hx;cases h;cases ho:Nv o' o with
   |false=>rw[ho]at hx;cases hx
   |true=>
    rw[ho]at hx;have:=auC ho;subst this;cases l with
    |nil=>
     simp only[o0,eU,og]at h2;exact⟨h2.1.symm,S,hx,h2.2.symm⟩
    |cons p l=>
     simp only[o0,oX,cond_true,eU,og]at h2;exact⟨h2.1.symm,S,hx,h2.2.symm⟩
  ·have sK:=ag1 h;cases l with
   |nil=>cases h
   |cons p l=>
    have bE:Nat.beq e.1 k=false:=by
     cases hb:Nat.beq e.1 k with
     |false=>rfl
     |true=>rw[aN]at hb;omega
    simp only[o0,bE,cond_false]at h2;exact XG h h2
theorem auD(hC:qk P A C)(hP:lR P A)(ox:P.follows .mixedOrders=true){f n m:Nat}(hm:∀id blk,hp0 id=some blk→id<m)(nw:Cp hp0):
  ∀(c:Code) {st st':St} {out:Out} {Q:Exit→Act→World→Prop} {a:Act} {w:World},exec P A C f n m c st=some (out,st')→Inv P A.idle A.aC B M w0 μ hp0 n a w st→
   (∀a' w',Inv P A.idle A.aC B M w0 μ hp0 n a' w' st'→Q (Fo out) a' w')→c.wp P Q a w:=by
 intro c
 induction c with
 |skip=>
  intro st st' out Q a w h hI hQ;simp only[exec,eU,og]at h;obtain⟨rfl,rfl⟩:=h;exact wp_skip (hQ a w hI)
 |exit id=>
  intro st st' out Q a w h hI hQ;simp only[exec,eU,og]at h;obtain⟨rfl,rfl⟩:=h;exact wp_exit (hQ a w hI)
 |ret=>
  intro st st' out Q a w h hI hQ;simp only[exec,eU,og]at h;obtain⟨rfl,rfl⟩:=h;exact wp_ret (hQ a w hI)
 |region id ops draw=>
  intro st st' out Q a w h hI hQ;simp only[exec]at h;obtain⟨kX,h1,h2⟩:=bind_some h;simp only[eU,og]at h2;obtain⟨rfl,rfl⟩:=h2;obtain⟨I,β,S,hA,hE⟩:=hI;refine auo (hC.here f id) (hP.here f id) ox h1 S hA fun a' w' I' β' k1 k2 k3=> ?_;obtain⟨I2,cG,l1,l2,l3⟩:=agM (m:=m) (pur:=A.pur f id) k2 k3;have hE2:=(hE.trans k1.Fc).trans l1.Fc;exact hQ a' w' (Inv.canon ⟨I2,cG,l2,l3,hE2⟩ hm nw)
 |seq x y j6 j7=>
  intro st st' out Q a w h hI hQ;simp only[exec]at h;obtain⟨⟨o1,kX⟩,h1,h2⟩:=bind_some h;refine wp_seq (j6 h1 hI fun a' w' ia=> ?_);cases o1 with
  |norm=>exact j7 h2 ia hQ
  |exit id=>
   simp only[eU,og]at h2;obtain⟨rfl,rfl⟩:=h2;exact hQ a' w' ia
  |ret=>
   simp only[eU,og]at h2;obtain⟨rfl,rfl⟩:=h2;exact hQ a' w' ia
 |cond c x y j6 j7=>
  intro st st' out Q a w h hI hQ;cases c with
  |tmp t=>
   have go:∀{st st':St} {out:Out} {Q:Exit→Act→World→Prop} {a:Act} {w:World},(match st.sl t with
     | .bool b=>(bif b then exec P A C f n m x st else exec P A C f n m y st).bind fun r=>
      match r.1 with
      | .norm=>some (.norm,AM.canon m (A.join f t) r.2)
      |_=>some r
     |_=>none)=some (out,st')→Inv P A.idle A.aC B M w0 μ hp0 n a w st→(∀a' w',Inv P A.idle A.aC B M w0 μ hp0 n a' w' st'→Q (Fo out) a' w')→(Code.cond (.tmp t) x y).wp P Q a w:=by
    intro st st' out Q a w h hI hQ;cases hs:st.sl t<;>rw[hs]at h<;>simp only at h<;>first|(cases h;done)|skip
    rename_i b;obtain⟨⟨o1,kX⟩,h1,h2⟩:=bind_some h;obtain⟨I,β,S,hA,hE⟩:=hI;have iC:a.eval (.tmp t)= .bool b:=by
     have:=agn hA hs;simp[Act.eval,this]
    have fin:∀a' w',Inv P A.idle A.aC B M w0 μ hp0 n a' w' kX→Q (Fo o1) a' w':=by
     intro a' w' ia;cases o1 with
     |norm=>
      simp only[eU,og]at h2;obtain⟨rfl,rfl⟩:=h2;exact hQ a' w' (ia.canon hm nw)
     |exit id=>
      simp only[eU,og]at h2;obtain⟨rfl,rfl⟩:=h2;exact hQ a' w' ia
     |ret=>
      simp only[eU,og]at h2;obtain⟨rfl,rfl⟩:=h2;exact hQ a' w' ia
    refine wp_cond iC ?_;cases b with
    |true=>exact j6 h1 ⟨I,β,S,hA,hE⟩ fin
    |false=>exact j7 h1 ⟨I,β,S,hA,hE⟩ fin
   simp only[exec]at h;split at h
   ·exact go h hI hQ
   ·obtain⟨ds,h1,h2⟩:=bind_some h;obtain⟨e,h3,h4⟩:=bind_some h2;obtain⟨⟨o1,s1⟩,h5,h6⟩:=bind_some h3;obtain⟨rfl,S',k1,rfl⟩:=XG h6 h4;exact go h5 (hI.reshape h1 hm) fun a' w' ia=>hQ a' w' (ia.reshape k1 hm)
  |const v=>
   cases v with
   |bool b=>
    simp only[exec]at h;refine wp_cond (t:=b) rfl ?_;cases b with
    |true=>exact j6 h hI hQ
    |false=>exact j7 h hI hQ
   |_=>simp only[exec]at h;cases h
  |_=>simp only[exec]at h;cases h
 |block id c ih=>
  intro st st' out Q a w h hI hQ;simp only[exec]at h;obtain⟨⟨o1,kX⟩,h1,h2⟩:=bind_some h;refine wp_block (ih h1 hI fun a' w' ia=> ?_);cases o1 with
  |norm=>
   simp only[eU,og]at h2;obtain⟨rfl,rfl⟩:=h2;exact hQ a' w' (ia.canon hm nw)
  |exit aq=>
   simp only at h2;cases hb:Nat.beq aq id with
   |true=>
    rw[hb]at h2;simp only[cond_true,eU,og]at h2;obtain⟨rfl,rfl⟩:=h2;rw[aN]at hb;simp only[Fo,Exit.inBlock,hb,qv];exact hQ a' w' (ia.canon hm nw)
   |false=>
    rw[hb]at h2;simp only[cond_false,eU,og]at h2;obtain⟨rfl,rfl⟩:=h2;have bE:aq≠id:=fun e=>by rw[e,oX]at hb;cases hb
    simp only[Fo,Exit.inBlock,bE,ta];exact hQ a' w' ia
  |ret=>
   simp only[eU,og]at h2;obtain⟨rfl,rfl⟩:=h2;exact hQ a' w' ia
 |loop c ih=>
  intro st st' out Q a w h hI hQ;simp only[exec]at h;split at h
  ·cases h
  ·rename_i S hS;obtain⟨ds,h1,h2⟩:=bind_some h;obtain⟨e,h3,h4⟩:=bind_some h2;obtain⟨k,hk⟩:=DE h3;refine auB (J:=fun k a w=> ∃ds,Inv P A.idle A.aC B M w0 μ hp0 n a w (bL S.1 ds)∧iK (fun ds=>qP m S.1 S.2 (exec P A C f n m c (bL S.1 ds))) k ds=some e) (fun a w ⟨s,_,h⟩=>by cases h) (fun k a w ⟨ds,hs,hk⟩=> ?_) ⟨ds,hI.reshape h1 hm,hk⟩;simp only[iK]at hk;obtain⟨y,h5,h6⟩:=bind_some hk;unfold qP at h5;obtain⟨⟨o1,s1⟩,h7,h8⟩:=bind_some h5;refine ih h7 hs fun a' w' ia=> ?_;have ag2:∀{e':Nat×List V},ways m 0 S.2 (o1,s1)=some e'→e'=e→Q (Fo o1) a' w':=by
    intro e' q1 q2;subst q2;obtain⟨rfl,S',k1,rfl⟩:=XG q1 h4;exact hQ a' w' (ia.reshape k1 hm)
   cases o1 with
   |norm=>
    obtain⟨ds2,q1,q2⟩:=bind_some h8;cases q2;exact⟨ds2,ia.reshape q1 hm,h6⟩
   |exit id=>
    obtain⟨e',q1,q2⟩:=bind_some h8;cases q2;cases h6;exact ag2 q1 rfl
   |ret=>
    obtain⟨e',q1,q2⟩:=bind_some h8;cases q2;cases h6;exact ag2 q1 rfl
 |_=>intro st st' out Q a w h;simp only[exec]at h;cases h
end
section
variable {P:Program}{A:dz}{w w':World}{I I' I2:Nat→Nat→Prop}{μ β β' cG:Nat→Option Nat}{hp hp' hp0:Nat→Option ag}{C:af}{B:Nat}{M:Nat→Prop}{w0:Start}
theorem QF(S:ax P w I β hp B M w0){a:Act}{st:St}(hs:o4 P w I β hp a st.sl):∀{l:List ResultVar} {xs:List V} {rd:List Nat},(A5 P st l).run C hp=some (xs,rd)→
  ∃vs:List Value,(l.mapM fun| .tmp t=>Pure.pure (a.tmps.getD t undef)| .cell x t=>do loadVar t (←asAddr (a.tmps.getD x undef)):Sem (List Value)).run P w= .ok vs w∧vs.length=xs.length∧l.length=xs.length∧
   ∀(j:Nat) v x,vs[j]? =some v→xs[j]? =some x→ai P w I β hp v x
 | [],xs,rd,h=>by
  cases h;simp_all
 | .tmp t::l,xs,rd,h=>by
  simp only[A5]at h;obtain⟨ys,l1,l2,h1,h2⟩:=o6 h;have h3:=TX h2;subst h3;obtain⟨vs,a1,a2,a3,a4⟩:=QF S hs h1;refine⟨a.tmps.getD t undef::vs,by simp_all,by simp[a2],by simp[a3],fun j v x hj hx=> ?_⟩;cases j with
  |zero=>simp at hj hx;subst hj;subst hx;have:=hs t;simp_all
  |succ j=>grind
 | .cell y t::l,xs,rd,h=>by
  simp only[A5]at h;obtain⟨r,l1,l2,h1,h2⟩:=o6 h;obtain⟨ys,l3,l4,h3,h4⟩:=o6 h2;have h5:=TX h4;subst h5;obtain⟨v0,b1,b2,b3,ad,b4⟩:=acd S (hs y) h1;obtain⟨vs,a1,a2,a3,a4⟩:=QF S hs h3;refine⟨v0::vs,?_,by simp[a2],by simp[a3],fun j v x hj hx=> ?_⟩
  ·have e1:(do loadVar t (←asAddr (a.tmps.getD y undef)):Sem Value).run P w= .ok v0 w:=by
    rw[b4]at b1⊢;simpa[Instr.loadAt,Instr.sureAddr,asAddr]using b1
   simp only[List.mapM_cons,Sem.run_bind,e1,Result.andThen_ok,a1,Sem.run_pure]
  grind
def Cq:List Value→Value
 | [v]=>v
 |l=> .tuple l.toArray
theorem auE{vs:List Value}(h:vs.length≠1):Cq vs= .tuple vs.toArray:=by
 match vs,h with
 | [],_=>rfl
 | [v],h=>simp at h
 |v::v2::l,_=>rfl
theorem auF{fn:Func}{a:Act}{st:St}(S:ax P w I β st.hp B M w0)(hs:o4 P w I β st.hp a st.sl){xs:List V}{rd:List Nat}(h:(A5 P st fn.results.toList).run C st.hp=some (xs,rd)):
  ∃vs:List Value,(results fn a.tmps).run P w= .ok (Cq vs) w∧vs.length=xs.length∧
   ∀(j:Nat) v x,vs[j]? =some v→xs[j]? =some x→ai P w I β st.hp v x:=by
 obtain⟨vs,a1,a2,_,a4⟩:=QF S hs h;refine⟨vs,?_,a2,a4⟩;unfold results;rw[Array.mapM_eq_mapM_toList];simp only[map_eq_pure_bind,bind_assoc,pure_bind,Sem.run_bind];refine(congrArg (fun r:Result (List Value)=>r.andThen _) a1).trans ?_;simp only[Result.andThen_ok,Sem.run_pure]
 match vs with
 | []=>simp[Cq]
 | [v]=>simp[Cq]
 |v::v2::l=>simp[Cq]
theorem ag3:∀{args:List V} {i k:Nat},fP (tm i args) k=if i≤k then args[k-i]? else none
 | [],i,k=>by simp[tm,fP]
 |v::vs,i,k=>by
  simp only[tm,fP];cases hb:Nat.beq k i with
  |true=>
   simp_all
  |false=>
   have bE:k≠i:=fun e=>by simp_all
   simp only[cond_false,ag3];grind
theorem XH:∀{l:List (Nat×VS)} {ds:List V} {i k:Nat},mh i l=true→fP (jy l ds) k=if i≤k then(j4 (l.map (·.2)) ds)[k-i]? else none
 | [],ds,i,k,_=>by simp[jy,j4,fP]
 |(q,s)::l,ds,i,k,h=>by
  simp only[mh,aG,aN]at h;obtain⟨rfl,h⟩:=h;simp only[jy,fP,mc,j4];cases hb:Nat.beq k q with
  |true=>
   simp_all
  |false=>
   have bE:k≠q:=fun e=>by simp_all
   simp only[cond_false];rw[XH h];grind
theorem ag4:∀{l:List (Nat×VS)} {ds:List V},(jy l ds).map (·.2)=j4 (l.map (·.2)) ds
 | [],_=>rfl
 |(q,s)::l,ds=>by simp only[jy,mc,j4,ag4]
theorem XI:∀{l:List VS} {ds:List V},(j4 l ds).length=l.length
 | [],_=>rfl
 |s::l,ds=>by simp only[j4,List.length_cons,XI]
theorem ag5:∀{l:List (Nat×VS)} {ds:List V},(jy l ds).length=l.length
 | [],_=>rfl
 |(q,s)::l,ds=>by simp only[jy,List.length_cons,ag5]
theorem auG{vals:List Value}{l:List (Nat×V)}(hl:vals.length=l.length)(h:∀(j:Nat) v y,vals[j]? =some v→(l.map (·.2))[j]? =some y→ai P w I β hp v y):ai P w I β hp (Cq vals) (vK l):=by
 match l,hl,h with
 | [],hl,h=>
  obtain rfl:vals=[]:=qu hl;exact .bf rfl fun j v x _ hx=>by simp at hx
 | [(k,y)],hl,h=>
  match vals,hl,h with
  | [v],_,h=>exact h 0 v y rfl rfl
 |a::b::l,hl,h=>
  have bE:vals.length≠1:=by grind
  rw[auE bE];simp only[vK];exact .bf (by simp[hl]) fun j v y hj hy=>h j v y (by grind) hy
theorem auH{l:List BS}{ds:List V}{j:Nat}{e:TypeId}{es:List V}{vers:List Nat}(h:(iM l ds)[j]? =some (.nest e es vers))(k:Nat):bG vers k=0:=by
 obtain⟨b,lf,_,h2⟩:=Qo h;cases b<;>simp only[jm]at h2<;>cases h2
 match k with
 |0=>rfl
 |1=>rfl
 |2=>rfl
 |_+3=>rfl
theorem auI{f n m:Nat}{fn:Func}{a:Act}{st:St}{es:List V}{rd:List Nat}(hm:∀id blk,hp0 id=some blk→id<m)(nw:Cp hp0)
  (hI:Inv P A.idle A.aC B M w0 μ hp0 n a w st) (wO:mh 0 (A.jw f).ch=true) (aZ:(A.jw f).ch.length=fn.results.size) (h:(A6 P A f fn m st).run C st.hp=some (es,rd)):
  ∃v I2 cG,(results fn a.tmps).run P w= .ok v w∧ax P w I2 cG (bL (A.so f es) (A.lv f es)).hp B M w0∧qj w0.w w0.I μ hp0 w I2 cG (bL (A.so f es) (A.lv f es)).hp∧ai P w I2 cG (bL (A.so f es) (A.lv f es)).hp v (vK (jy (A.so f es).ch (A.lv f es))):=by
 unfold A6 at h;obtain⟨xs,l1,l2,h1,h2⟩:=o6 h;obtain⟨I,β,S,hA,hE⟩:=hI;obtain⟨vals,e1,e2,e3⟩:=auF S hA.sl h1;have e4:fn.results.size=xs.length:=by
  obtain⟨_,_,_,q,_⟩:=QF S hA.sl h1;omega
 have fin:∀(Sx:Shape) (es:List V),mh 0 Sx.ch=true→Sx.ch.length=fn.results.size→mX m Sx (canon m (List.range xs.length++A.live f 9999) (freeze m (A.AX f) ⟨nO (tm 0 xs),st.hp,st.nb⟩))=some es→
   ∃v I2 cG,(results fn a.tmps).run P w= .ok v w∧ax P w I2 cG (bL Sx es).hp B M w0∧qj w0.w w0.I μ hp0 w I2 cG (bL Sx es).hp∧ai P w I2 cG (bL Sx es).hp v (vK (jy Sx.ch es)):=by
  intro Sx es wO aZ Fp;have hA0:jt P A.idle A.aC w I β vals.length ⟨vals.toArray,[]⟩ ⟨nO (tm 0 xs),st.hp,st.nb⟩:=by
   refine⟨fun k=> ?_,by simp,by simp,hA.aC⟩;change ai P w I β st.hp _ (nO (tm 0 xs) k);unfold nO;rw[ag3];simp only[nH,qv,Nat.sub_zero];cases hk:xs[k]? with
   |none=>exact .undef
   |some x=>
    have sG:k<vals.length:=by grind
    have:=e3 k vals[k] x (bX sG) hk;have e5:(vals.toArray).getD k undef=vals[k]:=by simp[sG]
    grind
  obtain⟨I2,cG,k1,k2,k3⟩:=agM (st:=⟨nO (tm 0 xs),st.hp,st.nb⟩) (m:=m) (pur:=A.AX f) S hA0;have hI2:Inv P A.idle A.aC B M w0 μ hp0 vals.length ⟨vals.toArray,[]⟩ w (freeze m (A.AX f) ⟨nO (tm 0 xs),st.hp,st.nb⟩):=⟨I2,cG,k2,k3,hE.trans k1.Fc⟩
  obtain⟨I3,β3,q1,q2,q3⟩:=(hI2.canon (live:=List.range xs.length++A.live f 9999) hm nw).reshape Fp hm;refine⟨Cq vals,I3,β3,e1,q1,q3,auG (by rw[ag5,aZ,e4,e2]) fun j v y hj hy=> ?_⟩;have hv:=q2.sl j;have dt:=(cw.1 hj).1;have e5:(vals.toArray).getD j undef=v:=by
   simp_all
  change ai P w I3 β3 _ ((vals.toArray).getD j undef) (nO (jy Sx.ch _) j)at hv;rw[e5]at hv;unfold nO at hv;rw[XH wO]at hv;simp only[nH,qv,Nat.sub_zero]at hv;rw[ag4]at hy;grind
 unfold dz.so dz.lv;cases dx:A.alt f with
 |none=>
  rw[dx]at h2;simp only at h2⊢;split at h2
  ·rename_i lf Fp;have:=aM h2;grind
  ·cases h2
 |some S2=>
  rw[dx]at h2;simp only at h2⊢;split at h2
  ·rename_i lf Fp;have:=aM h2;subst this;exact fin _ _ wO aZ Fp
  ·split at h2
   ·rename_i lf Fp;obtain⟨hc,h3⟩:=ay h2;simp only[aG,aN]at hc;have:=aM h3;subst this;exact fin _ _ hc.1 hc.2 Fp
   ·cases h2
theorem auJ(hC:qk P A C)(hP:lR P A)(ox:P.follows .mixedOrders=true):qk P A (uv P A C):=by
 intro f ds es h;unfold uv at h;cases hf:P.funcs[A.ky f]? with
 |none=>grind
 |some fn=>
  rw[hf]at h;simp only at h;cases hb:fn.body with
  |none=>grind
  |some c=>
   rw[hb]at h;simp only at h;cases hc:(mh 0 (A.sin f).ch&&(Nat.ble (A.sin f).ch.length fn.ntmps&&((A.sin f).ok&&(mh 0 (A.jw f).ch&&(Nat.beq (A.jw f).ch.length fn.results.size&&ur (sd (A.sin f).db.length (A.mv f)))))))with
   |false=>grind
   |true=>
    rw[hc]at h;simp only[cond_true]at h;simp only[aG,aN,gG]at hc;obtain⟨jO,hnt,_,wF,aZ,jN⟩:=hc;obtain⟨⟨out,st'⟩,h1,h2⟩:=bind_some h;refine⟨fn,c,rfl,hb,fun w I μ vals hH VZ hl hv=> ?_⟩;have auK:(∀id,out≠ .exit id)∧∃rd,(A6 P A f fn (A.sin f).db.length st').run C st'.hp=some (es,rd):=by
     cases out with
     |exit id=>cases h2
     |norm=>
      simp_all
     |ret=>
      simp_all
    obtain⟨bE,rd,Xh⟩:=auK;refine calls_of_wp_defers hf hb ?_;have hm:∀id blk,(bL (A.sin f) ds).hp id=some blk→id<(A.sin f).db.length:=by
     intro id blk ae;simp only[bL,mk,lQ]at ae;have:=(cw.1 ae).1;rwa [QE]at this
    have nw:Cp (bL (A.sin f) ds).hp:=by
     intro id e es vers ae k;simp only[bL,mk,lQ]at ae;rcases ae with ae|⟨i,ae⟩
     ·exact auH ae k
     ·obtain⟨b,_,_,h⟩:=Qo ae;cases b<;>cases h
    refine auD (w0:=⟨w,I⟩) (μ:=μ) (hp0:=(bL (A.sin f) ds).hp) (B:=w.heap.size) (M:=vd P w μ (bL (A.sin f) ds).hp) hC hP ox hm nw c h1 ?_ ?_
    ·refine Inv.enter jN ?_ hm nw fun p hp=>by
      simp only[bL,mk,lQ];rw[List.getElem?_eq_none_iff,QE];exact hp
     refine⟨I,μ,⟨hH,fun _ _ _=>rfl,aW _,fun b j h=> .inl h,⟨rfl,rfl⟩⟩,⟨fun k=> ?_,?_,by simp,VZ⟩,(Le.refl (P:=P) w I μ _).Fc⟩
     ·change ai P w I μ _ _ (nO (jy (A.sin f).ch ds) k);unfold nO;rw[XH jO];simp only[nH,qv,Nat.sub_zero];cases hk:(j4 ((A.sin f).ch.map (·.2)) ds)[k]? with
      |none=>exact .undef
      |some x=>
       have sG:k<vals.length:=by
        have:=(cw.1 hk).1;rw[XI,cT]at this;omega
       have:=hv k vals[k] x (bX sG) hk;have e1:(vals.toArray++Array.replicate (fn.ntmps-vals.toArray.size) undef).getD k undef=vals[k]:=by
        simp[Array.getElem?_append,sG]
       grind
     grind
    ·intro a' w' hI;obtain⟨v,I2,cG,q1,q2,q3,q4⟩:=auI hm nw hI wF aZ Xh;obtain⟨_,_,_,hA,_⟩:=hI;cases out with
     |exit id=>grind
     |norm=>exact Xv hP q1 ⟨v,I2,cG,rfl,q2,q3,q4⟩ _ hA.defers
     |ret=>exact Xv hP q1 ⟨v,I2,cG,rfl,q2,q3,q4⟩ _ hA.defers
theorem ag6(hP:lR P A)(ox:P.follows .mixedOrders=true):∀n,qk P A (o3 P A n)
 |0=>fun _ _ _ h=>by cases h
 |n+1=>auJ (ag6 hP ox n) hP ox
theorem auL(hP:lR P A)(ox:P.follows .mixedOrders=true):qk P A (Call P A):=by
 intro f ds es h;have hn:∃n,o3 P A n f ds=some es:=by
  unfold Call at h;split at h
  all_goals grind
 obtain⟨n,hn⟩:=hn;exact ag6 hP ox n f ds es hn
end
section
variable {P:Program}{A:dz}{C:af}{D:Nat→af}
def Kd(C:af)(D:Nat→af):Prop:= ∀f a r,C f a=some r→∃n,∀k,n≤k→D k f a=some r
theorem wR{α:Type}(h:Kd C D){hp:Nat→Option ag}:∀{p:Rd α} {r:α×List Nat},p.run C hp=some r→∃n,∀k,n≤k→p.run (D k) hp=some r
 | .ret a,r,e=>⟨0,fun _ _=>e⟩
 | .fail,r,e=>by cases e
 | .get id q,r,e=>by
  obtain⟨x,h1,h2⟩:=bind_some e;obtain⟨n,hn⟩:=wR h h1;exact⟨n,fun k hk=>by simp only[Rd.run,hn k hk,Option.bind_some];exact h2⟩
 | .opt o q,r,e=>by
  obtain⟨x,h1,h2⟩:=bind_some e;obtain⟨n,hn⟩:=wR h h2;exact⟨n,fun k hk=>by simp only[Rd.run,h1,Option.bind_some];exact hn k hk⟩
 | .live id ok q,r,e=>by
  simp only[Rd.run]at e;cases hk:ok (ku (hp id))with
  |false=>rw[hk]at e;cases e
  |true=>
   rw[hk]at e;obtain⟨x,h1,h2⟩:=bind_some e;obtain⟨n,hn⟩:=wR h h1;exact⟨n,fun k Bz=>by simp only[Rd.run,hk,cond_true,hn k Bz,Option.bind_some];exact h2⟩
 | .aw b q,r,e=>by
  obtain⟨h1,h2⟩:=ay e;obtain⟨n,hn⟩:=wR h h2;exact⟨n,fun k hk=>by simp only[Rd.run,h1,cond_true];exact hn k hk⟩
 | .call f a q,r,e=>by
  obtain⟨x,h1,h2⟩:=bind_some e;obtain⟨n1,jO⟩:=h f a x h1;obtain⟨n2,wF⟩:=wR h h2;exact⟨max n1 n2,fun k hk=>by simp only[Rd.run,jO k (by omega),Option.bind_some];exact wF k (by omega)⟩
 | .alt true x y,r,e=>wR (p:=x) h e
 | .alt false x y,r,e=>wR (p:=y) h e
theorem auM(h:Kd C D){n i nb:Nat}{ops:Array Oper}{o:Oper}{st:St}{r:St×List Nat×List Nat}(e:ll P A C n ops i o nb st=some r):∃N,∀k,N≤k→ll P A (D k) n ops i o nb st=some r:=by
 unfold ll at e;have go:(((jI P A st.sl i (nb+64*i) o).run C st.hp).bind fun r=>some ((⟨mg st.sl o.dst r.1.v,b7 st.hp r.1.upd,st.nb⟩:St),xG r.2 r.1.upd,j5 st.hp r.1.upd))=some r→
   ∃N,∀k,N≤k→(((jI P A st.sl i (nb+64*i) o).run (D k) st.hp).bind fun r=>some ((⟨mg st.sl o.dst r.1.v,b7 st.hp r.1.upd,st.nb⟩:St),xG r.2 r.1.upd,j5 st.hp r.1.upd))=some r:=by
  intro e;obtain⟨x,h1,h2⟩:=bind_some e;obtain⟨N,hN⟩:=wR h h1;exact⟨N,fun k hk=>by rw[hN k hk];exact h2⟩
 unfold ll;cases hd:zr o n with
 |false=>rw[hd]at e;cases e
 |true=>
  rw[hd]at e;simp only[cond_true]at e⊢;cases hg:o.guard with
  |none=>rw[hg]at e;exact go e
  |some gw=>
   obtain⟨g,want⟩:=gw;rw[hg]at e;simp only at e⊢;cases rJ:(ops[g]?).bind (·.dst)with
   |none=>rw[rJ]at e;cases e
   |some d=>
    rw[rJ]at e;simp only at e⊢;cases sO:qG (st.sl d)with
    |none=>rw[sO]at e;cases e
    |some ob=>
    rw[sO]at e;cases ob with
    |none=>exact⟨0,fun _ _=>e⟩
    |some b=>
    simp only at e⊢;cases hb:b==want with
    |true=>rw[hb]at e;exact go e
    |false=>rw[hb]at e;exact⟨0,fun _ _=>e⟩
theorem ag7(h:Kd C D){n nb:Nat}{ops:Array Oper}:∀{l:List (Nat×Oper)} {st:St} {log:Log} {r:St×Log},vL P A C n ops nb l st log=some r→∃N,∀k,N≤k→vL P A (D k) n ops nb l st log=some r
 | [],st,log,r,e=>⟨0,fun _ _=>e⟩
 |(i,o)::l,st,log,r,e=>by
  obtain⟨x,h1,h2⟩:=bind_some e;obtain⟨N1,vf⟩:=auM h h1;obtain⟨N2,yD⟩:=ag7 h h2;exact⟨max N1 N2,fun k hk=>by simp only[vL,vf k (by omega),Option.bind_some];exact yD k (by omega)⟩
theorem ag8{X R:Type}{step:X→Option (X ⊕ R)}{stepD:Nat→X→Option (X ⊕ R)}(hs:∀x y,step x=some y→∃N,∀k,N≤k→stepD k x=some y):∀(n:Nat) (x:X) (r:R),iK step n x=some r→∃N,∀k,N≤k→iK (stepD k) n x=some r
 |0,x,r,e=>by cases e
 |n+1,x,r,e=>by
  simp only[iK]at e⊢;obtain⟨y,h1,h2⟩:=bind_some e;obtain⟨N1,vf⟩:=hs x y h1;cases y with
  |inl z=>
   obtain⟨N2,yD⟩:=ag8 hs n z r h2;exact⟨max N1 N2,fun k hk=>by rw[vf k (by omega)];exact yD k (by omega)⟩
  |inr q=>exact⟨N1,fun k hk=>by rw[vf k hk];exact h2⟩
theorem auN(h:Kd C D){f n m:Nat}:∀(c:Code) {st:St} {r:Out×St},exec P A C f n m c st=some r→∃N,∀k,N≤k→exec P A (D k) f n m c st=some r:=by
 intro c
 induction c with
 |skip=>exact fun e=>⟨0,fun _ _=>e⟩
 |exit id=>exact fun e=>⟨0,fun _ _=>e⟩
 |ret=>exact fun e=>⟨0,fun _ _=>e⟩
 |region id ops draw=>
  intro st r e;simp only[exec]at e⊢;obtain⟨x,h1,h2⟩:=bind_some e;obtain⟨y,h3,h4⟩:=bind_some h1;obtain⟨N,hN⟩:=ag7 h h3;refine⟨N,fun k hk=> ?_⟩;have:DS P (A.here f id) (D k) n ops draw st=some x:=by
   unfold DS;rw[hN k hk];exact h4
  rw[this];exact h2
 |seq x y j6 j7=>
  intro st r e;simp only[exec]at e⊢;obtain⟨⟨o,s1⟩,h1,h2⟩:=bind_some e;obtain⟨N1,vf⟩:=j6 h1;cases o with
  |norm=>
   obtain⟨N2,yD⟩:=j7 h2;exact⟨max N1 N2,fun k hk=>by rw[vf k (by omega)];exact yD k (by omega)⟩
  |exit id=>exact⟨N1,fun k hk=>by rw[vf k hk];exact h2⟩
  |ret=>exact⟨N1,fun k hk=>by rw[vf k hk];exact h2⟩
 |cond c x y j6 j7=>
  intro st r e;cases c with
  |tmp t=>
   have go:∀{st:St} {r:Out×St},(match st.sl t with
     | .bool b=>(bif b then exec P A C f n m x st else exec P A C f n m y st).bind fun r=>
      match r.1 with
      | .norm=>some (.norm,canon m (A.join f t) r.2)
      |_=>some r
     |_=>none)=some r→∃N,∀k,N≤k→(match st.sl t with
     | .bool b=>(bif b then exec P A (D k) f n m x st else exec P A (D k) f n m y st).bind fun r=>
      match r.1 with
      | .norm=>some (.norm,canon m (A.join f t) r.2)
      |_=>some r
     |_=>none)=some r:=by
    intro st r e;cases hs:st.sl t<;>rw[hs]at e<;>simp only at e⊢ <;>first|(cases e;done)|skip
    rename_i b;obtain⟨x1,h1,h2⟩:=bind_some e;cases b with
    |true=>
     obtain⟨N,hN⟩:=j6 h1;exact⟨N,fun k hk=>by simp only[cond_true,hN k hk,Option.bind_some];exact h2⟩
    |false=>
     obtain⟨N,hN⟩:=j7 h1;exact⟨N,fun k hk=>by simp only[cond_false,hN k hk,Option.bind_some];exact h2⟩
   simp only[exec]at e⊢;split at e
   ·rename_i hS;obtain⟨N,hN⟩:=go e;exact⟨N,fun k hk=>hN k hk⟩
   ·rename_i S hS;obtain⟨ds,h1,h2⟩:=bind_some e;obtain⟨e',h3,h4⟩:=bind_some h2;obtain⟨r1,h5,h6⟩:=bind_some h3;obtain⟨N,hN⟩:=go h5;refine⟨N,fun k hk=> ?_⟩
    try rw[hS]
    simp only[h1,Option.bind_some];exact(congrArg (fun z:Option (Out×St)=>(z.bind fun r=>ways m 0 S.2 r).bind fun e=>o0 0 S.2 e.1 e.2 fun o st=>some (o,st)) (hN k hk)).trans (by simp only[Option.bind_some,h6];exact h4)
  |const v=>
   cases v with
   |bool b=>
    simp only[exec]at e⊢;cases b with
    |true=>exact j6 e
    |false=>exact j7 e
   |_=>simp only[exec]at e;cases e
  |_=>simp only[exec]at e;cases e
 |block id c ih=>
  intro st r e;simp only[exec]at e⊢;obtain⟨x1,h1,h2⟩:=bind_some e;obtain⟨N,hN⟩:=ih h1;exact⟨N,fun k hk=>by rw[hN k hk];exact h2⟩
 |loop c ih=>
  intro st r e;simp only[exec]at e⊢;split at e
  ·cases e
  ·rename_i S hS;obtain⟨ds,h1,h2⟩:=bind_some e;obtain⟨e',h3,h4⟩:=bind_some h2;obtain⟨q,hq⟩:=DE h3;obtain⟨N,hN⟩:=ag8 (stepD:=fun k ds=>qP m S.1 S.2 (exec P A (D k) f n m c (bL S.1 ds))) (fun x y Ke=>by
    unfold qP at Ke⊢;obtain⟨z,h5,h6⟩:=bind_some Ke;obtain⟨N,hN⟩:=ih h5;exact⟨N,fun k hk=>by rw[hN k hk];exact h6⟩) q ds e' hq
   refine⟨N,fun k hk=> ?_⟩
   try rw[hS]
   simp only[h1,Option.bind_some];rw[DD (hN k hk)];exact h4
 |_=>intro st r e;simp only[exec]at e;cases e
theorem QG(h:Kd C D){f:Nat}{ds es:List V}(e:uv P A C f ds=some es):∃N,∀k,N≤k→uv P A (D k) f ds=some es:=by
 unfold uv at e⊢;cases hf:P.funcs[A.ky f]? with
 |none=>rw[hf]at e;cases e
 |some fn=>
  rw[hf]at e;simp only at e⊢;cases hb:fn.body with
  |none=>rw[hb]at e;cases e
  |some c=>
   rw[hb]at e;simp only at e⊢;cases hc:(mh 0 (A.sin f).ch&&(Nat.ble (A.sin f).ch.length fn.ntmps&&((A.sin f).ok&&(mh 0 (A.jw f).ch&&(Nat.beq (A.jw f).ch.length fn.results.size&&ur (sd (A.sin f).db.length (A.mv f)))))))with
   |false=>rw[hc]at e;cases e
   |true=>
    rw[hc]at e;simp only[cond_true]at e⊢;obtain⟨⟨o,s1⟩,h1,h2⟩:=bind_some e;obtain⟨N1,vf⟩:=auN h c h1;cases o with
    |exit id=>cases h2
    |norm=>
     simp only[Option.map_eq_some_iff]at h2;obtain⟨x,e1,e2⟩:=h2;obtain⟨N2,yD⟩:=wR h e1;exact⟨max N1 N2,fun k hk=>by rw[vf k (by omega)];simp only[Option.bind_some,yD k (by omega),Option.map_some,e2]⟩
    |ret=>
     simp only[Option.map_eq_some_iff]at h2;obtain⟨x,e1,e2⟩:=h2;obtain⟨N2,yD⟩:=wR h e1;exact⟨max N1 N2,fun k hk=>by rw[vf k (by omega)];simp only[Option.bind_some,yD k (by omega),Option.map_some,e2]⟩
theorem ag9:∀n f a r,o3 P A n f a=some r→o3 P A (n+1) f a=some r
 |0,f,a,r,h=>by cases h
 |n+1,f,a,r,h=>by
  obtain⟨N,hN⟩:=QG (C:=o3 P A n) (D:=fun _=>o3 P A (n+1)) (fun f a r h=>⟨0,fun _ _=>ag9 n f a r h⟩) h;exact hN N (aW _)
theorem XJ{n k:Nat}(hk:n≤k){f:Nat}{a r:List V}(h:o3 P A n f a=some r):o3 P A k f a=some r:=by
 induction hk with
 |refl=>exact h
 |step _ ih=>exact ag9 _ _ _ _ ih
theorem Kf{f:Nat}{a r:List V}:Call P A f a=some r↔∃n,o3 P A n f a=some r:=by
 constructor
 ·intro h;unfold Call at h;split at h
  ·rename_i hex;have:=hex.choose_spec.choose_spec;rw[eX h]at this;exact⟨_,this⟩
  ·cases h
 ·rintro⟨n,hn⟩;have hex:∃n r,o3 P A n f a=some r:=⟨n,r,hn⟩
  unfold Call;rw[dif_pos hex];have h2:=hex.choose_spec.choose_spec;have h3:=XJ (Nat.le_max_left n hex.choose) hn;have h4:=XJ (Nat.le_max_right n hex.choose) h2;rw[h3]at h4;exact h4.symm
theorem auO(f:Nat)(a:List V):Call P A f a=uv P A (Call P A) f a:=by
 apply Option.ext;intro r;constructor
 ·intro h;obtain⟨n,hn⟩:=Kf.1 h;cases n with
  |zero=>cases hn
  |succ n=>
   obtain⟨N,hN⟩:=QG (C:=o3 P A n) (D:=fun _=>Call P A) (fun f a r h=>⟨0,fun _ _=>Kf.2 ⟨n,h⟩⟩) hn;exact hN N (aW _)
 ·intro h;obtain⟨N,hN⟩:=QG (C:=Call P A) (D:=o3 P A) (fun f a r h=>by
   obtain⟨n,hn⟩:=Kf.1 h;exact⟨n,fun k hk=>XJ hk hn⟩) h
  exact Kf.2 ⟨N+1,hN N (aW _)⟩
end
end Go.AM
namespace Go.AM
open Go.IntKind (wrap)
open Go.ChangeShapes Go.WideShapes Go.RowKit
section
variable (P:Program)
inductive WT:TypeId→V→Prop
 |int {t:TypeId} {k:IntKind} {n:Int}:P.underlying t=some (.int k)→(Lit.int k n).wf=true→WT t (.int k n)
 |bool {t:TypeId} {b:Bool}:P.underlying t=some .bool→WT t (.bool b)
 |str {t:TypeId} {l:List UInt8}:P.underlying t=some .string→l.length≤maxLen→WT t (.str l)
 |list {t e:TypeId} {es:List V}:P.underlying t=some (.slice e)→es.length≤maxLen→
   (∀(i:Nat) x,es[i]? =some x→bW P e=true→∃xs,x= .agg xs∧xs.length=(aV P e).length)→
   (∀(i j:Nat) x t',es[i]? =some x→(aV P e)[j]? =some t'→WT t' (ca P e x j))→WT t (.list e es)
def oK(t:TypeId)(x:V):Prop:=
 (bW P t=true→∃xs,x= .agg xs∧xs.length=(aV P t).length)∧∀(j:Nat) t',(aV P t)[j]? =some t'→WT P t' (ca P t x j)
def xl:List TypeId→List V→Prop
 | [],[]=>True
 |t::ts,x::xs=>oK P t x∧xl ts xs
 |_,_=>False
def hasB(L:List TypeId)(t:TypeId):Bool:=L.any fun u=>Nat.beq u t
def QH(L:List TypeId):Nat→List Field→Bool
 |_,[]=>true
 |n,f::fs=>hasB L f.type&&(Nat.beq f.offset n&&(Nat.beq (P.cellsOf f.type) (aV P f.type).length&&QH L (n+P.cellsOf f.type) fs))
def Kg:List Nat→List Nat→Bool
 | [],[]=>true
 |a::l,b::m=>Nat.beq a b&&Kg l m
 |_,_=>false
def XK(L:List TypeId)(t:TypeId):Bool:=
 Nat.beq (P.cellsOf t) (aV P t).length&&
 match P.underlying t with
 |some (.int _)=>true
 |some .bool=>true
 |some .string=>true
 |some (.slice e)=>hasB L e&&di P e
 |some (.struct fs)=>QH P L 0 fs.toList&&Kg (flat P t) (fs.toList.flatMap fun f=>aV P f.type)
 |some (.array n e)=>hasB L e&&(Nat.beq (P.cellsOf e) (aV P e).length&&Kg (flat P t) (List.replicate n (aV P e)).flatten)
 |_=>false
def Kh(L:List TypeId):Bool:=L.all fun t=>XK P L t
end
theorem QI{L:List TypeId}{t:TypeId}(h:hasB L t=true):t∈L:=by
 obtain⟨u,hu,h2⟩:=AU.1 h;rw[aN]at h2;exact h2▸hu
theorem XL:∀{l m:List Nat},Kg l m=true→l=m
 | [],[],_=>rfl
 |a::l,b::m,h=>by
  simp only[Kg,aG,aN]at h;rw[h.1,XL h.2]
 | [],_::_,h=>by cases h
 |_::_,[],h=>by cases h
section
variable {P:Program}{H:Type}{enc:TypeId×Value→H}{w:World}{base:Nat}{spare:Nat→Bool}{held:Bool}{L:List TypeId}
def rK(w:World):Nat→Nat→Prop:=fun b _=>b<w.heap.size
def tU(P:Program)(w:World)(ts:List TypeId)(cs:List Value)(xs:List V):Prop:=
 cs.length=ts.length∧xs.length=ts.length∧∀(j:Nat) t',ts[j]? =some t'→∃v y,cs[j]? =some v∧xs[j]? =some y∧Pure P w (rK w) t' v y∧WT P t' y
theorem tU.app{ts vJ:List TypeId}{cs mq:List Value}{xs xs':List V}(h:tU P w ts cs xs)(h':tU P w vJ mq xs'):tU P w (ts++vJ) (cs++mq) (xs++xs'):=by
 obtain⟨a,b,c⟩:=h;obtain⟨a',b',c'⟩:=h';refine⟨by simp[a,a'],by simp[b,b'],fun j t' hj=> ?_⟩;by_cases aO:j<ts.length
 ·rw[qC aO]at hj;obtain⟨v,y,e1,e2,e3⟩:=c j t' hj;exact⟨v,y,by rw[qC (by omega)];exact e1,by rw[qC (by omega)];exact e2,e3⟩
 ·rw[qD (by omega)]at hj;obtain⟨v,y,e1,e2,e3⟩:=c' _ t' hj;exact⟨v,y,by rw[qD (by omega),a];exact e1,by rw[qD (by omega),b];exact e2,e3⟩
theorem auP{w:World}{a:Addr}{v:Value}(h:w.cell? a=some v):a.spot=none∧a.block<w.heap.size:=by
 unfold World.cell? at h;split at h
 ·rename_i hh;split at h
  ·cases h
  ·rename_i hs;exact⟨by simpa using hs,(zh.1 hh).1⟩
 all_goals (first|cases h|skip)
theorem aha{rd:TypeId→List Value→Option (DataW H×List MemPlace)}(cs:List Value)
  (ih:∀t cs x,t∈L→rd t cs=some x→∃xs,tU P w (aV P t) cs xs):∀(fs:List Field) (n:Nat),QH P L n fs=true→
  (∀f∈fs,∃x,rd f.type ((cs.drop f.offset).take (P.cellsOf f.type))=some x)→∃m xs,n≤m∧tU P w (fs.flatMap fun f=>aV P f.type) ((cs.drop n).take (m-n)) xs∧m-n=(fs.flatMap fun f=>aV P f.type).length
 | [],n,_,_=>⟨n,[],aW _,⟨by simp,rfl,by simp⟩,by simp⟩
 |f::fs,n,h,hx=>by
  simp only[QH,aG,aN]at h;obtain⟨h1,h2,h3,h4⟩:=h;obtain⟨x,hxf⟩:=hx f (by simp);obtain⟨xs,kh⟩:=ih _ _ _ (QI h1) hxf;obtain⟨m,ys,hm,yE,uQ⟩:=aha cs ih fs (n+P.cellsOf f.type) h4 fun g hg=>hx g (by simp[hg]);refine⟨m,xs++ys,by omega,?_,by simp only[DC,gY];omega⟩;have:=kh.app yE;rw[DC];rw[h2]at this;have e:(cs.drop n).take (m-n)=(cs.drop n).take (P.cellsOf f.type)++(cs.drop (n+P.cellsOf f.type)).take (m-(n+P.cellsOf f.type)):=by
   rw[show m-n=P.cellsOf f.type+(m-(n+P.cellsOf f.type)) by omega,List.take_add,List.drop_drop]
  rw[e];exact this
theorem ahb{rd:List Value→Option (DataW H×List MemPlace)}(cs:List Value){e:TypeId}(hs:P.cellsOf e=(aV P e).length)
  (ih:∀cs x,rd cs=some x→∃xs,tU P w (aV P e) cs xs):∀(n:Nat),
  (∀i,i<n→∃x,rd ((cs.drop (i*P.cellsOf e)).take (P.cellsOf e))=some x)→∃xs,tU P w (List.replicate n (aV P e)).flatten (cs.take (n*P.cellsOf e)) xs
 |0,_=>⟨[],by simp,rfl,by simp⟩
 |n+1,hx=>by
  obtain⟨xs,kh⟩:=ahb cs hs ih n fun i hi=>hx i (by omega);obtain⟨x,kJ⟩:=hx n (by omega);obtain⟨ys,yE⟩:=ih _ _ kJ;refine⟨xs++ys,?_⟩;rw[List.replicate_succ',List.flatten_append];have:=kh.app yE;rw[kO,Nat.one_mul,List.take_add];simpa using this
theorem QJ(hL:Kh P L=true):∀(fuel:Nat) (t:TypeId) (cs:List Value) (x:DataW H×List MemPlace),t∈L→DataW.trod enc P w base spare held fuel t cs=some x→
  ∃xs,tU P w (aV P t) cs xs
 |0,_,_,_,_,h=>by cases h
 |fuel+1,t,cs,x,ht,h=>by
  have hg:=im.1 hL t ht;unfold XK at hg;rw[aG,aN]at hg;obtain⟨hc,hg⟩:=hg;have one:bW P t=false→aV P t=[t]:=fun h=>by simp[aV,h]
  cases hu:P.underlying t with
  |none=>rw[hu]at hg;cases hg
  |some d=>
   rw[hu]at hg;cases d with
   |int k=>
    obtain⟨n,rfl,rfl,hwf⟩:=DataW.trod_int hu h;rw[one (by simp[bW,hu])];exact⟨[.int k n],rfl,rfl,fun j t' hj=>by
     cases j with
     |zero=>cases hj;exact⟨_,_,rfl,rfl,.int hu,.int hu hwf⟩
     |succ j=>simp at hj⟩
   |bool=>
    obtain⟨b,rfl,rfl⟩:=DataW.trod_bool hu h;rw[one (by simp[bW,hu])];exact⟨[.bool b],rfl,rfl,fun j t' hj=>by
     cases j with
     |zero=>cases hj;exact⟨_,_,rfl,rfl,.bool hu,.bool hu⟩
     |succ j=>simp at hj⟩
   |string=>
    obtain⟨s,rfl,rfl,hl⟩:=DataW.trod_string hu h;rw[one (by simp[bW,hu])];exact⟨[.str s.data.toList],rfl,rfl,fun j t' hj=>by
     cases j with
     |zero=>cases hj;exact⟨_,_,rfl,rfl,.str hu rfl,.str hu (by simpa using hl)⟩
     |succ j=>simp at hj⟩
   |slice e=>
    simp only[aG]at hg;obtain⟨he,ao⟩:=hg;rw[one (by simp[bW,hu])];have single:∀v y,cs=[v]→Pure P w (rK w) t v y→WT P t y→∃xs,tU P w [t] cs xs:=by
     rintro v y rfl a b;exact⟨[y],rfl,rfl,fun j t' hj=>by
      cases j with
      |zero=>cases hj;exact⟨_,_,rfl,rfl,a,b⟩
      |succ j=>simp at hj⟩
    rcases DataW.trod_slice hu h with⟨rfl,rfl⟩|⟨a,len,cap,elems,rest,n,hn,rfl,rfl,hb,hl,hm,hlen,fN,_,_⟩
    ·exact single _ _ rfl (.nil hu) (.list hu (by simp) (by simp) (by simp))
    ·cases hn;have gg:=(pN ao).2;have afA:P.cellsOf e=(aV P e).length:=(fL ao).symm;have key:∀i,i<len→∃mq xs,w.cells? base (a.add (i*P.cellsOf e)) (P.cellsOf e)=some mq∧tU P w (aV P e) mq xs:=by
      intro i hi;have h1:=fN i hi;rw[bX (by omega)]at h1;obtain⟨mq,h2,h3⟩:=Option.bind_eq_some_iff.1 h1;obtain⟨xs,kh⟩:=QJ hL fuel e mq _ (QI he) h3;exact⟨mq,xs,h2,kh⟩
     by_cases h0:len=0
     ·subst h0;exact single _ _ rfl (.emp hu) (.list hu (by simp) (by simp) (by simp))
     ·have u9:a.spot=none∧a.block<w.heap.size:=by
       obtain⟨mq,xs,h2,_⟩:=key 0 (by omega);obtain⟨_,h3,h4⟩:=World.cells?_some h2;have h5:=h4 0 gg;rw[bX (by omega)]at h5;have:=auP h5;simpa[Addr.add]using this
      have hF:∃(F:Nat→List Value) (X:Nat→List V),∀i,i<len→w.cells? base (a.add (i*P.cellsOf e)) (P.cellsOf e)=some (F i)∧tU P w (aV P e) (F i) (X i):=by
       refine⟨fun i=>if hi:i<len then(key i hi).choose else [],fun i=>if hi:i<len then(key i hi).choose_spec.choose else [],fun i hi=> ?_⟩;simp only[dif_pos hi];exact(key i hi).choose_spec.choose_spec
      obtain⟨F,X,XM⟩:=hF;have hx:∀(i j:Nat) y t',((List.range len).map fun i=>dy P e (X i))[i]? =some y→(aV P e)[j]? =some t'→i<len∧∃v,(F i)[j]? =some v∧Pure P w (rK w) t' v (ca P e y j)∧WT P t' (ca P e y j):=by
       intro i j y t' hy hj;have hi:i<len:=by
        have:=(cw.1 hy).1;simpa using this
       refine⟨hi,?_⟩;simp[Dw hi]at hy;obtain⟨c1,c2,c3⟩:=(XM i hi).2;obtain⟨v,z,d1,d2,d3,d4⟩:=c3 j t' hj;have:ca P e y j=z:=by
        rw[←hy];unfold ca dy;cases ha:bW P e with
        |true=>
         simp only[cond_true,V.cell];rw[Bk _ _ _ d2]
        |false=>
         simp only[cond_false];have:aV P e=[e]:=by simp[aV,ha]
         rw[this]at hj;cases j with
         |zero=>rw[Bk _ _ _ d2]
         |succ j=>simp at hj
       rw[this];exact⟨v,d1,d3,d4⟩
      have gZ:∀i j,i<len→j<P.cellsOf e→w.cell? ⟨a.block,a.off+(i*P.cellsOf e+j),none⟩=some ((F i).getD j undef):=by
       intro i j hi hj;obtain⟨h1,h2⟩:=XM i hi;obtain⟨_,h3,h4⟩:=World.cells?_some h1;have h5:=h4 j hj;rw[Go.Deep.add_add]at h5;have e1:a.add (i*P.cellsOf e+j)=⟨a.block,a.off+(i*P.cellsOf e+j),none⟩:=by
        obtain⟨b,o,s⟩:=a;simp only at u9;rw[u9.1];exact o9 ..
       rw[e1]at h5;rw[h5,Dv,bX (by omega)];rfl
      have ha:a=⟨a.block,a.off,none⟩:=by
       obtain⟨b,o,s⟩:=a;simp only at u9;rw[u9.1]
      refine single (.slice (some a) len cap) (.list e ((List.range len).map fun i=>dy P e (X i))) rfl ?_ ?_
      ·rw[ha];refine .list (fun i j=>(F i).getD j undef) hu (by simp) hl (fun _ _=>u9.2) gZ ?_;intro i j y t' hy hj;obtain⟨hi,v,d1,d2,_⟩:=hx i j y t' hy hj;rw[Dv,d1];exact d2
      ·refine .list hu (by simp;omega) ?_ ?_
       ·intro i y hy QK;have hi:i<len:=by
         have:=(cw.1 hy).1;simpa using this
        simp[Dw hi]at hy;rw[←hy];exact⟨X i,by simp[dy,QK],(XM i hi).2.2.1⟩
       ·intro i j y t' hy hj;obtain⟨_,v,_,_,d3⟩:=hx i j y t' hy hj;exact d3
   |struct fs=>
    simp only[aG]at hg;obtain⟨xs,n,hn,rfl,hlen,pf,hx⟩:=DataW.trod_struct hu h;cases hn;have het:aV P t=fs.toList.flatMap fun f=>aV P f.type:=by
     rw[←XL hg.2];simp[aV,bW,hu]
    obtain⟨m,ys,_,yE,hm⟩:=aha (w:=w) (rd:=fun t cs=>DataW.trod enc P w base spare held fuel t cs) cs (fun t cs x a b=>QJ hL fuel t cs x a b) fs.toList 0 hg.1 (by
     intro f hf;obtain⟨i,hi⟩:=vC hf;rw[uk]at hi;have ri:i<fs.size:=(zh.1 hi).1;exact⟨_,(hx i f hi).trans (bX (by omega))⟩)
    rw[het];refine⟨ys,?_⟩;have:(cs.drop 0).take (m-0)=cs:=by
     rw[y9,hm,←het,←hc,←hlen,xn]
    rw[this]at yE;exact yE
   |array n e=>
    simp only[aG,aN]at hg;obtain⟨xs,m,hn,rfl,hlen,pf,hx⟩:=DataW.trod_array hu h;cases hn;have het:aV P t=(List.replicate n (aV P e)).flatten:=by
     rw[←XL hg.2.2];simp[aV,bW,hu]
    obtain⟨ys,yE⟩:=ahb (w:=w) (rd:=DataW.trod enc P w base spare held fuel e) cs hg.2.1 (fun cs x b=>QJ hL fuel e cs x (QI hg.1) b) n (by
     intro i hi;exact⟨_,(hx i hi).trans (bX (by omega))⟩)
    rw[het];refine⟨ys,?_⟩;have:cs.take (n*P.cellsOf e)=cs:=by
     have:n*P.cellsOf e=cs.length:=by
      rw[hlen,hc,het,hg.2.1];simp
     rw[this,xn]
    rw[this]at yE;exact yE
   |_=>cases hg
end
section
variable {P:Program}{H:Type}{enc:TypeId×Value→H}{w:World}{L:List TypeId}
theorem auQ{base XN:Nat}{spare:Nat→Bool}{held:Bool}{r:Reach}{β:Nat→Option Nat}{hp:Nat→Option ag}(hL:Kh P L=true){t:TypeId}{v:Value}{d:DataW H}{ps:List MemPlace}(ht:t∈L)(jT:Value.okWide P w r XN t v)
  (h:DataW.Trod enc P w base spare held t v d ps):∃x,ai P w (rK w) β hp v x∧oK P t x:=by
 obtain⟨fuel,hf⟩:=h;obtain⟨xs,c1,c2,c3⟩:=QJ hL fuel t _ _ ht hf;have hg:=im.1 hL t ht;unfold XK at hg;rw[aG,aN]at hg;obtain⟨_,hg⟩:=hg;have QK:bW P t=true→∃x,ai P w (rK w) β hp v x∧oK P t x:=by
  intro ha;have hv:∃cs,v= .agg cs:=by
   unfold Value.okWide at jT;unfold bW at ha;grind
  obtain⟨cs,rfl⟩:=hv;refine⟨.agg xs,.agg (by simpa[Value.cells]using c1.trans c2.symm) fun j v x hv hx=> ?_,fun _=>⟨xs,rfl,c2⟩,fun j t' hj=> ?_⟩
  ·have hj:j<(aV P t).length:=by grind
   obtain⟨v',y,e1,e2,e3,_⟩:=c3 j _ (bX hj);rw[hx]at e2;cases e2;have:cs[j]? =some v':=by simpa[Value.cells]using e1
   rw[hv]at this;cases this;exact .vN e3
  ·obtain⟨v',y,e1,e2,_,e4⟩:=c3 j t' hj;have:ca P t (.agg xs) j=y:=by
    simp only[ca,ha,cond_true,V.cell];exact Bk _ _ _ e2
   grind
 have u5:bW P t=false→v.cells= #[v]→∃x,ai P w (rK w) β hp v x∧oK P t x:=by
  intro ha B3;have he:aV P t=[t]:=by simp[aV,ha]
  rw[he]at c1 c2 c3;obtain⟨v',y,e1,e2,e3,e4⟩:=c3 0 t rfl;rw[B3]at e1;cases e1;refine⟨y,.vN e3,⟨fun h=>absurd (ha.symm.trans h) (by simp),fun j t' hj=> ?_⟩⟩;rw[he]at hj;cases j with
  |succ j=>simp at hj
  |zero=>
   cases hj;simpa[ca,ha]using e4
 unfold Value.okWide at jT;cases hu:P.underlying t with
 |none=>grind
 |some dsc=>
  rw[hu]at hg jT;cases dsc with
  |int k=>
   refine u5 (by simp[bW,hu]) ?_;simp only[Cell.okWide,Cell.ok,hu]at jT;cases v<;>first|rfl|(simp at jT;done)|exact jT.elim
  |bool=>
   refine u5 (by simp[bW,hu]) ?_;simp only[Cell.okWide,Cell.ok,hu]at jT;cases v<;>first|rfl|(simp at jT;done)|exact jT.elim
  |string=>
   refine u5 (by simp[bW,hu]) ?_;simp only[Cell.okWide,Cell.ok,hu]at jT;cases v<;>first|rfl|(simp at jT;done)|exact jT.elim
  |slice e=>
   refine u5 (by simp[bW,hu]) ?_;simp only[Cell.okWide,Cell.ok,hu]at jT;cases v<;>first|rfl|(simp at jT;done)|exact jT.elim
  |struct fs=>exact QK (by simp[bW,hu])
  |array n e=>exact QK (by simp[bW,hu])
  |_=>cases hg
theorem ahc{base XN:Nat}{spare:Nat→Bool}{held:Bool}{r:Reach}{β:Nat→Option Nat}{hp:Nat→Option ag}(hL:Kh P L=true):∀{ts:List TypeId} {vs:List Value} {ds:List (DataW H)} {ps:List MemPlace},
  (∀t∈ts,t∈L)→(∀(j:Nat) t v,ts[j]? =some t→vs[j]? =some v→Value.okWide P w r XN t v)→DataW.TrodAll enc P w base spare held ts vs ds ps→
  ∃xs,vs.length=xs.length∧(∀(j:Nat) v x,vs[j]? =some v→xs[j]? =some x→ai P w (rK w) β hp v x)∧xl P ts xs
 | [],vs,ds,ps,_,_,h=>by
  obtain⟨rfl,rfl,rfl⟩:=trodAll_nil h;exact⟨[],rfl,by simp,trivial⟩
 |t::ts,vs,ds,ps,hm,jT,h=>by
  obtain⟨v,zt,d,ds1,a,b,rfl,rfl,rfl,h1,h2⟩:=trodAll_cons h;obtain⟨x,kJ,lM⟩:=auQ (β:=β) (hp:=hp) hL (hm t (by simp)) (jT 0 t v rfl rfl) h1;obtain⟨xs,hl,hr,hw⟩:=ahc (β:=β) (hp:=hp) hL (fun t ht=>hm t (by simp[ht])) (fun j t v a b=>jT (j+1) t v (by grind) (by grind)) h2;refine⟨x::xs,by simp[hl],fun j v' x' hv hx=> ?_,lM,hw⟩;grind
theorem ahd{base:Nat}{spare:Nat→Bool}{held:Bool}:∀{ts:List TypeId} {vs:List Value} {ds:List (DataW H)} {ps:List MemPlace},DataW.TrodAll enc P w base spare held ts vs ds ps→ds.length=ts.length
 | [],vs,ds,ps,h=>by obtain⟨rfl,rfl,rfl⟩:=trodAll_nil h;rfl
 |t::ts,vs,ds,ps,h=>by
  obtain⟨v,zt,d,ds1,a,b,rfl,rfl,rfl,h1,h2⟩:=trodAll_cons h;simp[ahd h2]
theorem ahe{base:Nat}(hl:laidOutB P=true){W W':World}{sp':Nat→Bool}:∀{ts:List TypeId} {vs:List Value} {ds:List (DataW H)} {ps:List MemPlace},(∀t∈ts,P.readableRec t=true∧t<P.types.size)→
  DataW.TrodAll enc P W base (fun _=>true) true ts vs ds ps→(∀p∈ps,W.sameAt W' p)→(∀p∈ps,sp' p.block=true)→DataW.TrodAll enc P W' base sp' true ts vs ds ps
 | [],vs,ds,ps,_,h,_,_=>by obtain⟨rfl,rfl,rfl⟩:=trodAll_nil h;exact trodAll_mk0
 |t::ts,vs,ds,ps,hr,h,h1,h2=>by
  obtain⟨v,zt,d,ds1,a,b,rfl,rfl,rfl,h3,h4⟩:=trodAll_cons h;obtain⟨r1,r2⟩:=hr t (by simp);exact trodAll_cons_mk (WideElems.Trod_stays hl r1 r2 h3 (fun p hp=>h1 p (by simp[hp])) (fun p hp=>h2 p (by simp[hp])))
   (ahe hl (fun t ht=>hr t (by simp[ht])) h4 (fun p hp=>h1 p (by simp[hp])) (fun p hp=>h2 p (by simp[hp])))
theorem auR{f:Func}{s:ChangeSpec}{apart fresh handsOn again:Bool}{W W':World}{args:Array Value}{v:Value}{ds gs:List (DataW H)}{before pa pv:List MemPlace}
  (hW:DataW.Whole enc P f.params.toList s.vars apart W args.toList ds gs before)
  (ahf:∀(b:Nat) (sp:Nat→Bool) (hd:Bool),DataW.TrodAll enc P W' b sp hd f.resultTypes.toList (v.resultList f.resultTypes.size) (s.fn H (ds++gs)).results [])
  (Cl:∀sp:Nat→Bool,(∀p∈before,sp p.block=true)→DataW.TrodAll enc P W' 0 sp true f.params.toList args.toList (s.fn H (ds++gs)).args pa)
  (ahg:∀sp:Nat→Bool,(∀p∈before,sp p.block=true)→DataW.TrodVars enc P W' sp s.vars (s.fn H (ds++gs)).vars pv)
  (hps:before=pa++pv) (hk:W.keptBut W' (· ∈before)) (Fk:∀a:Addr,a.block<W.heap.size→W'.frozen? a=W.frozen? a)
  (ao:∀(j:Nat) (t:TypeId) (r:Value),f.resultTypes[j]? =some t→(v.resultList f.resultTypes.size)[j]? =some r→Value.okWide P W' .any 0 t r):
  s.post enc P f apart fresh handsOn again W args v W':=by
 have hold:∀p∈before,(fun b=>decide (b<W.heap.size)) p.block=true:=fun p hp=>by simpa using hW.lt p hp
 refine⟨ds,gs,before,[],pa,pv,hW,ahf _ _ _,Cl _ hold,ahg _ hold,World.keptBut_mono (fun p hp=>⟨hp,?_⟩) hk,fun _=> ?_⟩
 ·grind
 ·have aO:=hW.lt;obtain⟨_,_,_,_,_,hz,hn⟩:=hW;refine⟨ao,_,_,([]++pa)++pv,⟨[]++pa,pv,trodAll_append (Cl _ (fun _ _=>rfl)) (ahf _ _ _),ahg _ (fun _ _=>rfl),rfl,?_,?_⟩,?_⟩
  ·intro b off hp;have hb:MemPlace.cell b off∈before:=by grind
   rw[Fk ⟨b,off,none⟩ (aO _ hb)];exact hz b off hb
  all_goals grind
theorem auS{A:dz}(hP:lR P A)(ox:P.follows .mixedOrders=true){f key:Nat}{fn:Func}{tb:TypeId}{s:ChangeSpec}{apart fresh handsOn again:Bool}
  (hf:P.funcs[f]? =some fn) (XO:A.ky key=f) (hL:Kh P L=true) (fi:fn.params.toList.all (fun t=>hasB L t)=true) (QL:fn.resultTypes= #[tb]) (QM:P.underlying tb=some .bool) (Ci:s.vars=[])
  (hs:∀ds:List (DataW H),ds.length=fn.params.toList.length→s.fn H ds={results:=[.lit (.bool true)],args:=ds})
  (XP:laidOutB P=true) (XQ:fn.params.toList.all (fun t=>P.readableRec t&&Nat.blt t P.types.size)=true)
  (iu:(A.sin key).db=[]) (ao:((A.sin key).ch.map (·.2)).all (VS.ok 0)=true) (XR:(A.jw key).ch=[(0,.one .bool)]) (halt:A.alt key=none)
  {W:World} {base:Nat} {args:Array Value} {ds gs:List (DataW H)} {before:List MemPlace}
  (XS:ly P A.aC W (rK W)) (jT:∀(j:Nat) t v,fn.params[j]? =some t→args[j]? =some v→Value.okWide P W .any base t v)
  (hW:DataW.Whole enc P fn.params.toList s.vars apart W args.toList ds gs before) (Q:List V→Prop)
  (hQ:∀xs:List V,xl P fn.params.toList xs→(∀(j:Nat) v x,args.toList[j]? =some v→xs[j]? =some x→ai P W (rK W) (fun _=>none) (fun _=>none) v x)→Q xs)
  (XT:∀xs,xl P fn.params.toList xs→Q xs→∃ds,xm ((A.sin key).ch.map (·.2)) xs=some ds∧Call P A key ds=some [.bool true]):
  Calls P f args W fun e W'=> ∃v,e= .returned v∧s.post enc P fn apart fresh handsOn again W args v W':=by
 have hW0:=hW;obtain⟨p,q,hA,hV,rfl,Fk,jN⟩:=hW;rw[Ci]at hV;obtain⟨N4,hq⟩:gs=[]∧q=[]:=by
  cases gs with
  |nil=>exact⟨rfl,hV⟩
  |cons g gs=>exact hV.elim
 subst N4;subst hq;obtain⟨xs,hl,hr,hwt⟩:=ahc (β:=fun _=>none) (hp:=fun _=>none) hL (fun t ht=>QI (im.1 fi t ht)) (fun j t v a b=>jT j t v (by grind) (by grind)) hA;obtain⟨ls,hls,J7⟩:=XT xs hwt (hQ xs hwt hr);obtain⟨fn',c,h1,h2,h3⟩:=auL (A:=A) hP ox key ls [.bool true] J7;rw[XO]at h1 h3;rw[hf]at h1;cases h1;have ag0:∀j,(bL (A.sin key) ls).hp j=none:=fun j=>by simp[bL,mk,iu,iM,oj]
 obtain⟨_,r1,r2⟩:=JY (P:=P) (w:=W) (I:=rK W) (n:=0) (β:=fun _=>none) (β':=fun _=>none) (hp:=fun _=>none) (hp':=(bL (A.sin key) ls).hp) (fun j hj=>absurd hj (Nat.not_lt_zero j)) hls ao;have hlen:((A.sin key).ch.map (·.2)).length=xs.length:=by rw[←r1 [],XI]
 have h4:=h3 W (rK W) (fun _=>none) args.toList ⟨fun id blk h=>(by grind),fun id aq blk blk' b h=>(by grind),fun id blk b h=>(by grind),fun b j h=>h⟩ XS
  (by grind) (fun j v y hv hy=>r2 [] j v y (fun x hx=>hr j v x hv hx) (by grind))
 have ea:args.toList.toArray=args:=by simp
 rw[ea]at h4;refine h4.mono fun e W' ⟨v,I2,cG,he,ha⟩=>⟨v,he,?_⟩
 have z8:∀b,b<W.heap.size→W'.heap[b]? =W.heap[b]? :=fun b hb=>ha.Fe.cM b hb (by rintro⟨j,blk,hj,_⟩;grind);have B5:=ha.res;have hso:A.so key [.bool true]=A.jw key∧A.lv key [.bool true]=[.bool true]:=by unfold dz.so dz.lv;grind
 rw[hso.1,hso.2,XR]at B5;obtain rfl:v= .bool true:=B5.oo;have tQ:Value.okWide P W' .any 0 tb (.bool true):=by simp[Value.okWide,QM,Cell.okWide,Cell.ok]
 have qt:ds.length=fn.params.toList.length:=ahd hA;have ld:∀p'∈p++[],W.sameAt W' p':=by
  intro p' hp';have aO:=hW0.lt p' hp';cases p' with
  |cell b o=>exact World.cell?_of_block (w:=W) (z8 b aO)
  |map b=>exact z8 b aO
 refine auR (pa:=p) (pv:=[]) hW0 ?_ ?_ ?_ rfl ?_ ?_ ?_
 ·intro b sp hd;rw[nJ,hs ds qt,QL];exact trodAll_mk1 ⟨1,by simp[DataW.trod,Value.cells,QM]⟩
 ·intro sp u9;rw[nJ,hs ds qt];refine ahe XP (fun t ht=> ?_) hA (fun p' hp'=>ld p' (by grind)) (fun p' hp'=>u9 p' (by grind));have:=im.1 XQ t ht;simp_all
 ·intro sp u9;rw[Ci,nJ,hs ds qt];exact rfl
 ·refine⟨ha.Fe.io.1,ha.Fe.io.2,fun i hi=> ?_⟩;grind
 ·intro a aO;exact World.frozen?_of_block (w:=W) (z8 a.block aO)
 ·intro j t r hj Pr;rw[QL]at hj Pr;cases j with
  |zero=>
   simp[Value.resultList]at hj Pr;grind
  |succ j=>simp at hj
theorem ams{A:dz}(hP:lR P A)(ox:P.follows .mixedOrders=true){f key:Nat}{fn:Func}{tb:TypeId}{s:ChangeSpec}{apart fresh handsOn again:Bool}
  (hf:P.funcs[f]? =some fn) (XO:A.ky key=f) (hL:Kh P L=true) (fi:fn.params.toList.all (fun t=>hasB L t)=true) (QL:fn.resultTypes= #[tb]) (QM:P.underlying tb=some .bool) (Ci:s.vars=[])
  (hs:∀ds:List (DataW H),ds.length=fn.params.toList.length→s.fn H ds={results:=[.lit (.bool true)],args:=ds})
  (XP:laidOutB P=true) (XQ:fn.params.toList.all (fun t=>P.readableRec t&&Nat.blt t P.types.size)=true)
  (iu:(A.sin key).db=[]) (ao:((A.sin key).ch.map (·.2)).all (VS.ok 0)=true) (XR:(A.jw key).ch=[(0,.one .bool)]) (halt:A.alt key=none)
  (XT:∀xs,xl P fn.params.toList xs→∃ds,xm ((A.sin key).ch.map (·.2)) xs=some ds∧Call P A key ds=some [.bool true])
  {W:World} {base:Nat} {args:Array Value} {ds gs:List (DataW H)} {before:List MemPlace}
  (XS:ly P A.aC W (rK W)) (jT:∀(j:Nat) t v,fn.params[j]? =some t→args[j]? =some v→Value.okWide P W .any base t v)
  (hW:DataW.Whole enc P fn.params.toList s.vars apart W args.toList ds gs before):
  Calls P f args W fun e W'=> ∃v,e= .returned v∧s.post enc P fn apart fresh handsOn again W args v W':=
 auS hP ox hf XO hL fi QL QM Ci hs XP XQ iu ao XR halt XS jT hW (fun _=>True) (fun _ _ _=>trivial) fun xs h _=>XT xs h
end
end Go.AM
namespace Go.AM
open Go.IntKind (wrap)
@[simp] theorem V.toInt_int (k:IntKind) (n:Int):V.toInt (.int k n)=n:=by cases k<;>rfl
@[simp] theorem V.Iz (b:Bool):V.toBool (.bool b)=b:=by cases b<;>rfl
@[simp] theorem V.aHh (s:List UInt8):V.toStr (.str s)=s:=by cases s<;>rfl
@[simp] theorem V.eo (e:TypeId) (es:List V):V.toList (.list e es)=es:=by cases es<;>rfl
@[simp] theorem V.aHi (e:TypeId) (es:List V):V.toList (.own e es)=es:=by cases es<;>rfl
@[simp] theorem V.auT (cs:List V) (j:Nat):V.cell (.agg cs) j=V.nth cs j:=by cases cs<;>rfl
@[simp] theorem V.aHj (cs:List V) (j:Nat):V.comp (.bf cs) j=V.nth cs j:=by cases cs<;>rfl
@[simp] theorem V.sy (x:V) (l:List V):V.nth (x::l) 0=x:=by cases l<;>rfl
@[simp] theorem V.aHk (x:V) (l:List V) (n:Nat):V.nth (x::l) (n+1)=V.nth l n:=by cases l<;>rfl
@[simp] theorem V.aHl (x y:V) (l:List V):V.nth (x::y::l) 1=y:=by cases l<;>rfl
@[simp] theorem V.aHm (x y z:V) (l:List V):V.nth (x::y::z::l) 2=z:=by cases l<;>rfl
@[simp] theorem V.aHn (x y z u:V) (l:List V):V.nth (x::y::z::u::l) 3=u:=by cases l<;>rfl
theorem wrap64{x:Int}(h1: -9223372036854775808≤x)(h2:x<9223372036854775808):wrap .i64 x=x:=by
 rw[IntKind.wrap_i64];omega
theorem lF{x:Int}(h1: -9223372036854775808≤x:=by omega)(h2:x<9223372036854775808:=by omega):wrap .i64 x=x:=wrap64 h1 h2
theorem auU{x:Int}(h1:0≤x)(h2:x<256):wrap .u8 x=x:=by
 rw[IntKind.wrap_u8];omega
theorem BE{es:List V}{i:Int}{n:Nat}(h:i=n):idx es i=es[n]? :=by
 subst h;simp[idx]
@[simp] theorem IA (es:List V) (n:Nat):idx es (n:Int)=es[n]? :=by simp[idx]
section
variable {X R:Type}{step:X→Option (X ⊕ R)}
theorem Oc(Inv:X→Prop)(μ:X→Nat)(Q:R→Prop)
  (h:∀x,Inv x→(∃y,step x=some (.inl y)∧Inv y∧μ y<μ x)∨∃r,step x=some (.inr r)∧Q r):
  ∀x,Inv x→∃r,Loop step x=some r∧Q r:=by
 intro x
 induction hm:μ x using Nat.strongRecOn generalizing x with
 |ind m ih=>
  intro hx;rcases h x hx with⟨y,h1,h2,h3⟩|⟨r,h1,h2⟩
  ·obtain⟨r,h4,h5⟩:=ih (μ y) (by omega) y rfl h2;exact⟨r,(gp h1).trans h4,h5⟩
  ·exact⟨r,gH h1,h2⟩
theorem OQ(s:Nat→X)(n:Nat){r:R}(h:∀i,i<n→step (s i)=some (.inl (s (i+1))))(he:step (s n)=some (.inr r)):Loop step (s 0)=some r:=by
 induction n generalizing s with
 |zero=>exact gH he
 |succ n ih=>
  rw[gp (h 0 (by omega))];exact ih (fun i=>s (i+1)) (fun i hi=>h (i+1) (by omega)) he
end
@[simp] theorem fT {α:Type} (p:Prop) [Decidable p] (a b:α):(bif decide p then a else b)=if p then a else b:=by by_cases h:p<;>simp[h]
@[simp] theorem aoG {α:Type} (m n:Int) (a b:α):(bif m==n then a else b)=if m=n then a else b:=by
 by_cases h:m=n
 ·simp[h]
 ·have:(m==n)=false:=by simp[h]
  rw[this,aD h];rfl
@[simp] theorem Ex {α:Type} (m n:Int) (a b:α):(bif m != n then a else b)=if m=n then b else a:=by
 by_cases h:m=n
 ·simp[h]
 ·have:(m != n)=true:=by simp[h]
  rw[this,aD h];rfl
@[simp] theorem aHo {α:Type} (c:Bool) (a b:α):(bif !c then a else b)=bif c then b else a:=by cases c<;>rfl
@[simp] theorem UR {α:Type} (m n:Nat) (a b:α):(bif Nat.ble m n then a else b)=if m≤n then a else b:=by
 cases hb:Nat.ble m n with
 |true=>rw[aF (Nat.le_of_ble_eq_true hb)];rfl
 |false=>
  rw[aD fun h=> ?_]
  ·rfl
  ·rw[AV h]at hb;cases hb
@[simp] theorem v7 {α:Type} (c d:Bool) (a b:α):(bif c&&d then a else b)=bif c then(bif d then a else b)else b:=by cases c<;>rfl
section
variable {P:Program}
def ahh (P : Program) : Bool := P.funcs.all fun fn => !(fn.name == "runtime.NumGoroutine")
theorem auV(h:ahh P=true):Ch P:=by
 intro f fn hf;unfold ahh at h;have:=(Array.all_eq_true_iff_forall_mem.1 h) fn (Array.mem_of_getElem? hf);simpa using this
theorem amm{t:TypeId}{ts:List TypeId}{xs:List V}(h:xl P (t::ts) xs):∃x ys,xs=x::ys∧oK P t x∧xl P ts ys:=by
 cases xs with
 |nil=>exact h.elim
 |cons x ys=>exact⟨x,ys,rfl,h.1,h.2⟩
theorem amn{xs:List V}(h:xl P [] xs):xs=[]:=by
 cases xs with
 |nil=>rfl
 |cons x ys=>exact h.elim
theorem oK.one{t:TypeId}{x:V}(ha:bW P t=false)(h:oK P t x):WT P t x:=by
 have he:aV P t=[t]:=by simp[aV,ha]
 have:=h.2 0 t (by rw[he];rfl);simpa[ca,ha]using this
theorem WT.gx{t:TypeId}{k:IntKind}{x:V}(hu:P.underlying t=some (.int k))(h:WT P t x):∃n,x= .int k n∧k.min≤n∧n≤k.max:=by
 cases h with
 |int h1 h2=>
  rw[hu]at h1;cases h1;simp only[Lit.wf,aG,jf]at h2;exact⟨_,rfl,h2⟩
 |bool h1=>rw[hu]at h1;cases h1
 |str h1=>rw[hu]at h1;cases h1
 |list h1=>rw[hu]at h1;cases h1
theorem WT.oo{t:TypeId}{x:V}(hu:P.underlying t=some .bool)(h:WT P t x):∃b,x= .bool b:=by
 cases h with
 |int h1=>rw[hu]at h1;cases h1
 |bool h1=>exact⟨_,rfl⟩
 |str h1=>rw[hu]at h1;cases h1
 |list h1=>rw[hu]at h1;cases h1
theorem WT.pO{t:TypeId}{x:V}(hu:P.underlying t=some .string)(h:WT P t x):∃s,x= .str s∧s.length≤maxLen:=by
 cases h with
 |int h1=>rw[hu]at h1;cases h1
 |bool h1=>rw[hu]at h1;cases h1
 |str h1 h2=>exact⟨_,rfl,h2⟩
 |list h1=>rw[hu]at h1;cases h1
theorem WT.asd{t e:TypeId}{x:V}(hu:P.underlying t=some (.slice e))(h:WT P t x):∃es,x= .list e es∧es.length≤maxLen∧∀y∈es,oK P e y:=by
 cases h with
 |int h1=>rw[hu]at h1;cases h1
 |bool h1=>rw[hu]at h1;cases h1
 |str h1=>rw[hu]at h1;cases h1
 |list h1 h2 h3 h4=>
  rw[hu]at h1;cases h1;refine⟨_,rfl,h2,fun y hy=> ?_⟩;obtain⟨i,hi⟩:=vC hy;exact⟨h3 i y hi,fun j t' hj=>h4 i j y t' hi hj⟩
theorem oK.oq{t:TypeId}{x:V}(ha:bW P t=true)(h:oK P t x):∃xs,x= .agg xs∧xs.length=(aV P t).length∧∀(j:Nat) t' y,(aV P t)[j]? =some t'→xs[j]? =some y→WT P t' y:=by
 obtain⟨xs,rfl,hl⟩:=h.1 ha;refine⟨xs,rfl,hl,fun j t' y hj hy=> ?_⟩;have:=h.2 j t' hj;simp only[ca,ha,cond_true,V.auT]at this;rw[Bk _ _ _ hy]at this;exact this
theorem aeS{α:Type}{f:α→V}{p:α→Prop}:∀{es:List V},(∀y∈es,∃a,y=f a∧p a)→∃l:List α,es=l.map f∧∀a∈l,p a
 | [],_=>⟨[],rfl,by simp⟩
 |y::es,h=>by
  obtain⟨a,rfl,ha⟩:=h y (by simp);obtain⟨l,rfl,hl⟩:=aeS (f:=f) (p:=p) (es:=es) fun z hz=>h z (by simp[hz]);exact⟨a::l,rfl,by
   intro b hb;rcases jg.1 hb with rfl|hb
   ·exact ha
   ·exact hl b hb⟩
theorem oK.int{t:TypeId}{x:V}(hu:P.underlying t=some (.int .i64))(h:oK P t x):∃n,x= .int .i64 n∧IntKind.min .i64≤n∧n≤IntKind.max .i64:=
 (h.one (by simp[bW,hu])).gx hu
theorem oK.str{t:TypeId}{x:V}(hu:P.underlying t=some .string)(h:oK P t x):∃s,x= .str s∧s.length≤maxLen:=
 (h.one (by simp[bW,hu])).pO hu
end
def un.{u}{A B:Type}{γ:Sort u}(f:A→B→γ)(p:A×B):γ:=f p.1 p.2
def ed{A B γ:Type}(f:A→γ)(g:B→γ):A ⊕ B→γ
 | .inl a=>f a
 | .inr b=>g b
def yF:List Nat→Code→Code
 | [],c=>c
 |0::p,.seq a _=>yF p a
 |_::p,.seq _ b=>yF p b
 |0::p,.cond _ a _=>yF p a
 |_::p,.cond _ _ b=>yF p b
 |_::p,.block _ c=>yF p c
 |_::p,.loop c=>yF p c
 |_,c=>c
inductive rL where
 |loop (c:Code)
 |cond (t:Nat) (x y:Code)
section
variable (P:Program)(A:dz)(C:af)(L:cp)(f n m:Nat)
def tW:Code→List rL
 | .seq a b=>tW a++tW b
 | .cond (.tmp t) x y=>
  match A.kQ f (t*16+15)with
  |none=>tW x++tW y
  |some _=>[.cond t x y]
 | .cond (.const _) x y=>tW x++tW y
 | .block _ c=>tW c
 | .loop c=>[.loop c]
 |_=>[]
def wS:rL→Prop
 | .loop c=>
  match A.kQ f (keyOf c+1)with
  |none=>True
  |some S=> ∀(β:Type) ds (k:Nat→List V→Option β),L β (keyOf c+1) ds k=(Loop (stepG P A C f n m S c) ds).bind fun r=>k r.1 r.2
 | .cond t x y=>
  match A.kQ f (t*16+15)with
  |none=>True
  |some S=> ∀(β:Type) ds (k:Nat→List V→Option β),L β (t*16+15) ds k=(Hj P A C f n m t S x y ds).bind fun r=>k r.1 r.2
def rM:List rL→Prop
 | []=>True
 |b::l=>wS P A C L f n m b∧rM l
variable {P A C L f n m}
theorem rM.left{a b:List rL}:rM P A C L f n m (a++b)→rM P A C L f n m a:=by
 induction a with
 |nil=>exact fun _=>trivial
 |cons x a ih=>exact fun h=>⟨h.1,ih h.2⟩
theorem rM.right{a b:List rL}:rM P A C L f n m (a++b)→rM P A C L f n m b:=by
 induction a with
 |nil=>exact fun h=>h
 |cons x a ih=>exact fun h=>ih h.2
theorem ahi:∀{c:Code} {bs:List rL},tW A f c=bs→rM P A C L f n m bs→ln P A C L f n m c:=by
 intro c
 induction c with
 |seq a b TT TU=>
  intro bs h hb;subst h;exact⟨TT rfl hb.left,TU rfl hb.right⟩
 |cond c x y j6 j7=>
  intro bs h hb;subst h;cases c with
  |tmp t=>
   simp only[tW]at hb;simp only[ln];cases hs:A.kQ f (t*16+15)with
   |none=>
    rw[hs]at hb;exact⟨j6 rfl hb.left,j7 rfl hb.right⟩
   |some S=>
    rw[hs]at hb;have:=hb.1;simp only[wS,hs]at this;exact this
  |const v=>exact⟨j6 rfl hb.left,j7 rfl hb.right⟩
  |_=>trivial
 |block id c ih=>
  intro bs h hb;subst h;exact ih rfl hb
 |loop c ih=>
  intro bs h hb;subst h;exact hb.1
 |_=>intro bs h hb;trivial
variable (P A C L f n m)in
def XU{β:Type}(t:Nat)(S:Shape×List (Out×Shape))(x y:Code)(ds:List V)(k:Nat→List V→Option β):Option β:=
 let kc:Out→St→Option β:=fun o st=>
  match o with
  | .norm=>(ways m 0 S.2 (.norm,canon m (A.join f t) st)).bind fun e=>k e.1 e.2
  |o=>(ways m 0 S.2 (o,st)).bind fun e=>k e.1 e.2
 match(bL S.1 ds).sl t with
 | .bool b=>bif b then mi P A C L f n m x (bL S.1 ds) kc else mi P A C L f n m y (bL S.1 ds) kc
 |_=>none
theorem auW{t:Nat}{x y:Code}{S:Shape×List (Out×Shape)}(hS:A.kQ f (t*16+15)=some S)(hx:ln P A C L f n m x)(hy:ln P A C L f n m y){I R:Type}(enc:I→List V)(sQ:I→R→Nat×List V)
  (de:List V→I) (body:I→(β:Type)→(R→Option β)→Option β) (Cr:∀ds,bL S.1 (enc (de ds))=bL S.1 ds)
  (e1:∀i (β:Type) (k:Nat→List V→Option β),XU P A C L f n m t S x y (enc i) k=body i β (fun r=>k (sQ i r).1 (sQ i r).2))
  (hl:∀(β:Type) ds (k:Nat→List V→Option β),L β (t*16+15) ds k=body (de ds) β (fun r=>k (sQ (de ds) r).1 (sQ (de ds) r).2)):
  wS P A C L f n m (.cond t x y):=by
 simp only[wS,hS];intro β ds k;rw[hl,←e1];unfold XU Hj;rw[Cr];simp only;have hk:∀(z:Option (Out×St)),(z.bind fun r=>(match r.1 with
   | .norm=>(ways m 0 S.2 (.norm,canon m (A.join f t) r.2)).bind fun e=>k e.1 e.2
   |o=>(ways m 0 S.2 (o,r.2)).bind fun e=>k e.1 e.2))=((z.bind fun r=>
   match r.1 with
   | .norm=>some (Out.norm,canon m (A.join f t) r.2)
   |_=>some r).bind fun r=>ways m 0 S.2 r).bind fun r=>k r.1 r.2:=by
  intro z;cases z with
  |none=>rfl
  |some r=>obtain⟨o,st⟩:=r;cases o<;>rfl
 cases(bL S.1 ds).sl t with
 |bool b=>
  cases b with
  |true=>simp only[cond_true,Nw P A C f n m x hx];exact hk _
  |false=>simp only[cond_false,Nw P A C f n m y hy];exact hk _
 |_=>rfl
theorem bp{b:rL}{l:List rL}(h:wS P A C L f n m b)(h2:rM P A C L f n m l):rM P A C L f n m (b::l):=⟨h,h2⟩
theorem an:rM P A C L f n m []:=trivial
theorem auX{key:Nat}{bs:List rL}(hb:tW A key (vM P (A.ky key))=bs)(ht:rM P A (Call P A) L key (Hk P (A.ky key)) (A.sin key).db.length bs){ds:List V}{r:Option (List V)}
  (h:Nx P A (Call P A) L key ds=r):Call P A key ds=r:=by
 rw[auO,amA P A (Call P A) key (ahi hb ht),h]
end
section
variable (P:Program)(A:dz)
def mL(C:af)(N f n m:Nat):Code→St→Option (Out×St)
 | .skip,st=>some (.norm,st)
 | .region id ops draw,st=>(DS P (A.here f id) C n ops draw st).bind fun st'=>some (.norm,canon m (A.live f id) (freeze m (A.pur f id) st'))
 | .seq a b,st=>(mL C N f n m a st).bind fun r=>
  match r.1 with
  | .norm=>mL C N f n m b r.2
  |_=>some r
 | .cond (.tmp t) x y,st=>
  let go (st:St):Option (Out×St):=
   match st.sl t with
   | .bool b=>(bif b then mL C N f n m x st else mL C N f n m y st).bind fun r=>
    match r.1 with
    | .norm=>some (.norm,canon m (A.join f t) r.2)
    |_=>some r
   |_=>none
  match A.kQ f (t*16+15)with
  |none=>go st
  |some S=>(mX m S.1 st).bind fun ds=>((go (bL S.1 ds)).bind fun r=>ways m 0 S.2 r).bind fun e=>o0 0 S.2 e.1 e.2 fun o st=>some (o,st)
 | .cond (.const (.bool b)) x y,st=>bif b then mL C N f n m x st else mL C N f n m y st
 | .block id c,st=>(mL C N f n m c st).bind fun r=>
  match r.1 with
  | .norm=>some (.norm,canon m (A.blk f id) r.2)
  | .exit aq=>bif Nat.beq aq id then some (.norm,canon m (A.blk f id) r.2)else some r
  | .ret=>some r
 | .loop c,st=>
  match A.kQ f (keyOf c+1)with
  |none=>none
  |some S=>(mX m S.1 st).bind fun ds=>(iK (fun ds=>qP m S.1 S.2 (mL C N f n m c (bL S.1 ds))) N ds).bind fun e=>o0 0 S.2 e.1 e.2 fun o st=>some (o,st)
 | .exit id,st=>some (.exit id,st)
 | .ret,st=>some (.ret,st)
 |_,_=>none
def XV(C:af)(N f:Nat)(ds:List V):Option (List V):=
 match P.funcs[A.ky f]? with
 |none=>none
 |some fn=>
  match fn.body with
  |none=>none
  |some c=>bif mh 0 (A.sin f).ch&&(Nat.ble (A.sin f).ch.length fn.ntmps&&((A.sin f).ok&&(mh 0 (A.jw f).ch&&(Nat.beq (A.jw f).ch.length fn.results.size&&ur (sd (A.sin f).db.length (A.mv f))))))then
    (mL P A C N f fn.ntmps (A.sin f).db.length c (Hi A f ds)).bind fun r=>
     match r.1 with
     | .exit _=>none
     |_=>((A6 P A f fn (A.sin f).db.length r.2).run C r.2.hp).map (·.1)
   else none
def Ki(N:Nat):Nat→af
 |0=>fun _ _=>none
 |n+1=>XV P A (Ki N n) N
variable {P A}
theorem ahj{X R:Type}{s1 s2:X→Option (X ⊕ R)}(h:∀x y,s1 x=some y→s2 x=some y):∀(n:Nat) (x:X) (r:R),iK s1 n x=some r→iK s2 n x=some r
 |0,x,r,e=>by cases e
 |n+1,x,r,e=>by
  simp only[iK]at e⊢;obtain⟨y,h1,h2⟩:=bind_some e;rw[h x y h1];cases y with
  |inl z=>exact ahj h n z r h2
  |inr q=>exact h2
theorem auY{C:af}{N f n m:Nat}:∀(c:Code) {st:St} {r:Out×St},mL P A C N f n m c st=some r→exec P A C f n m c st=some r:=by
 intro c
 induction c with
 |skip=>exact fun e=>e
 |exit id=>exact fun e=>e
 |ret=>exact fun e=>e
 |region id ops draw=>exact fun e=>e
 |seq x y j6 j7=>
  intro st r e;simp only[mL,exec]at e⊢;obtain⟨⟨o,s1⟩,h1,h2⟩:=bind_some e;rw[j6 h1];cases o with
  |norm=>exact j7 h2
  |exit id=>exact h2
  |ret=>exact h2
 |cond c x y j6 j7=>
  intro st r e;cases c with
  |tmp t=>
   have go:∀{st:St} {r:Out×St},(match st.sl t with
     | .bool b=>(bif b then mL P A C N f n m x st else mL P A C N f n m y st).bind fun r=>
      match r.1 with
      | .norm=>some (.norm,canon m (A.join f t) r.2)
      |_=>some r
     |_=>none)=some r→(match st.sl t with
     | .bool b=>(bif b then exec P A C f n m x st else exec P A C f n m y st).bind fun r=>
      match r.1 with
      | .norm=>some (.norm,canon m (A.join f t) r.2)
      |_=>some r
     |_=>none)=some r:=by
    intro st r e;cases hs:st.sl t<;>rw[hs]at e<;>simp only at e⊢ <;>first|(cases e;done)|skip
    rename_i b;obtain⟨x1,h1,h2⟩:=bind_some e;cases b with
    |true=>simp only[cond_true,j6 h1,Option.bind_some];exact h2
    |false=>simp only[cond_false,j7 h1,Option.bind_some];exact h2
   simp only[mL,exec]at e⊢;split at e
   ·rename_i hS
    try rw[hS]
    exact go e
   ·rename_i S hS;obtain⟨ds,h1,h2⟩:=bind_some e;obtain⟨e',h3,h4⟩:=bind_some h2;obtain⟨r1,h5,h6⟩:=bind_some h3
    try rw[hS]
    simp only[h1,Option.bind_some];exact(congrArg (fun z:Option (Out×St)=>(z.bind fun r=>ways m 0 S.2 r).bind fun e=>o0 0 S.2 e.1 e.2 fun o st=>some (o,st)) (go h5)).trans (by simp only[Option.bind_some,h6];exact h4)
  |const v=>
   cases v with
   |bool b=>
    simp only[mL,exec]at e⊢;cases b with
    |true=>exact j6 e
    |false=>exact j7 e
   |_=>simp only[mL]at e;cases e
  |_=>simp only[mL]at e;cases e
 |block id c ih=>
  intro st r e;simp only[mL,exec]at e⊢;obtain⟨x1,h1,h2⟩:=bind_some e;rw[ih h1];exact h2
 |loop c ih=>
  intro st r e;simp only[mL,exec]at e⊢;split at e
  ·cases e
  ·rename_i S hS;obtain⟨ds,h1,h2⟩:=bind_some e;obtain⟨e',h3,h4⟩:=bind_some h2
   try rw[hS]
   simp only[h1,Option.bind_some];rw[DD (ahj (s2:=fun ds=>qP m S.1 S.2 (exec P A C f n m c (bL S.1 ds))) (fun x y Ke=>by
    unfold qP at Ke⊢;obtain⟨z,h5,h6⟩:=bind_some Ke;rw[ih h5];exact h6) N ds e' h3)]
   exact h4
 |_=>intro st r e;simp only[mL]at e;cases e
theorem auZ{C:af}{N f:Nat}{ds es:List V}(e:XV P A C N f ds=some es):uv P A C f ds=some es:=by
 unfold XV at e;unfold uv;cases hf:P.funcs[A.ky f]? with
 |none=>rw[hf]at e;cases e
 |some fn=>
  rw[hf]at e;simp only at e⊢;cases hb:fn.body with
  |none=>rw[hb]at e;cases e
  |some c=>
   rw[hb]at e;simp only at e⊢;cases hc:(mh 0 (A.sin f).ch&&(Nat.ble (A.sin f).ch.length fn.ntmps&&((A.sin f).ok&&(mh 0 (A.jw f).ch&&(Nat.beq (A.jw f).ch.length fn.results.size&&ur (sd (A.sin f).db.length (A.mv f)))))))with
   |false=>rw[hc]at e;cases e
   |true=>
    rw[hc]at e;simp only[cond_true]at e⊢;obtain⟨x,h1,h2⟩:=bind_some e;rw[auY c h1];exact h2
theorem ahk{N:Nat}:∀n {f:Nat} {a r:List V},Ki P A N n f a=some r→o3 P A n f a=some r
 |0,f,a,r,h=>by cases h
 |n+1,f,a,r,h=>by
  obtain⟨M,hM⟩:=QG (C:=Ki P A N n) (D:=fun _=>o3 P A n) (fun f a r h=>⟨0,fun _ _=>ahk n h⟩) (auZ h);exact hM M (aW _)
theorem e8{N n f:Nat}{a r:List V}(h:Ki P A N n f a=some r):Call P A f a=some r:=Kf.2 ⟨n,ahk n h⟩
end
inductive LK where
 |int (k:IntKind)
 |bool
 |str
 |list (e:TypeId)
 |nat
def LK.Ty:LK→Type
 | .int _=>Int
 | .bool=>Bool
 | .str=>List UInt8
 | .list _=>List V
 | .nat=>Nat
def LK.enc:(k:LK)→k.Ty→V
 | .int k,n=> .int k n
 | .bool,b=> .bool b
 | .str,s=> .str s
 | .list e,l=> .list e l
 | .nat,n=>gJ n
def LK.dec:(k:LK)→V→k.Ty
 | .int _,v=>v.toInt
 | .bool,v=>v.toBool
 | .str,v=>v.toStr
 | .list _,v=>v.toList
 | .nat,v=>pL v
theorem LK.ahl:∀(k:LK) (x:k.Ty),k.dec (k.enc x)=x
 | .int _,_=>rfl
 | .bool,_=>rfl
 | .str,_=>rfl
 | .list _,_=>rfl
 | .nat,_=>rfl
def XW:List Nat→List LK
 | []=>[]
 |_::l=> .nat::XW l
def LS.ks:LS→List LK
 | .int k=>[.int k]
 | .bool=>[.bool]
 | .str=>[.str]
 | .list e=>[.list e]
 | .nl e=>[.list e]
 | .sub .. =>[.nat,.nat]
 | .ptr _=>[.nat,.nat]
 | .row _ _ cs=>XW cs
 | .dH _ cs _=> .nat::XW cs
 |_=>[]
def Fq:List LS→List LK
 | []=>[]
 |l::ls=>l.ks++Fq ls
def VS.ks:VS→List LK
 | .one l=>l.ks
 | .agg ls=>Fq ls
 | .bf ls=>Fq ls
 | .fn _ a b=>Fq a++Fq b
 | .pref _ ls=>Fq ls
def ahm:List VS→List LK
 | []=>[]
 |l::ls=>l.ks++ahm ls
def BS.ks:BS→List LK
 | .var _ cs=>ahm cs
 | .arr e _=>[.list e]
 | .nest e=>[.list e]
 | .dead=>[]
 | .map t=>[.list t]
def ahn:List (Nat×VS)→List LK
 | []=>[]
 |p::l=>p.2.ks++ahn l
def aho:List BS→List LK
 | []=>[]
 |b::l=>b.ks++aho l
def Shape.ks(S:Shape):List LK:=ahn S.ch++aho S.db
def XX:List Nat→List V→List V
 | [],_=>[]
 |_::cs,ds=>gJ (pL (V.nth ds 0))::XX cs (ds.drop 1)
def LS.norm:LS→List V→List V
 | .int k,ds=>[.int k (V.nth ds 0).toInt]
 | .bool,ds=>[.bool (V.nth ds 0).toBool]
 | .str,ds=>[.str (V.nth ds 0).toStr]
 | .list e,ds=>[.list e (V.nth ds 0).toList]
 | .nl e,ds=>[.list e (V.nth ds 0).toList]
 | .sub ..,ds=>[gJ (pL (V.nth ds 0)),gJ (pL (V.nth ds 1))]
 | .ptr _,ds=>[gJ (pL (V.nth ds 0)),gJ (pL (V.nth ds 1))]
 | .row _ _ cs,ds=>XX cs ds
 | .dH _ cs _,ds=>gJ (pL (V.nth ds 0))::XX cs (ds.drop 1)
 |_,_=>[]
def Fs:List LS→List V→List V
 | [],_=>[]
 |l::ls,ds=>l.norm ds++Fs ls (ds.drop l.size)
def VS.norm:VS→List V→List V
 | .one l,ds=>l.norm ds
 | .agg ls,ds=>Fs ls ds
 | .bf ls,ds=>Fs ls ds
 | .fn _ a b,ds=>Fs a ds++Fs b (ds.drop (oh a))
 | .pref _ ls,ds=>Fs ls ds
def ahp:List VS→List V→List V
 | [],_=>[]
 |l::ls,ds=>l.norm ds++ahp ls (ds.drop l.size)
def BS.norm:BS→List V→List V
 | .var _ cs,ds=>ahp cs ds
 | .arr e _,ds=>[.list e (V.nth ds 0).toList]
 | .nest e,ds=>[.list e (V.nth ds 0).toList]
 | .dead,_=>[]
 | .map t,ds=>[.list t (V.nth ds 0).toList]
def ahq:List (Nat×VS)→List V→List V
 | [],_=>[]
 |p::l,ds=>p.2.norm ds++ahq l (ds.drop p.2.size)
def ahr:List BS→List V→List V
 | [],_=>[]
 |b::l,ds=>b.norm ds++ahr l (ds.drop b.size)
def Shape.norm(S:Shape)(ds:List V):List V:=ahq S.ch ds++ahr S.db (ds.drop (uq S.ch))
def Cs:LK→List LK→Type
 |k,[]=>k.Ty
 |k,k'::ks=>k.Ty×Cs k' ks
def pD:List LK→Type
 | []=>Unit
 |k::ks=>Cs k ks
def Ct:(k:LK)→(ks:List LK)→Cs k ks→List V
 |k,[],x=>[k.enc x]
 |k,k'::ks,x=>k.enc x.1::Ct k' ks x.2
def qm:(ks:List LK)→pD ks→List V
 | [],_=>[]
 |k::ks,x=>Ct k ks x
def Kj:(k:LK)→(ks:List LK)→List V→Cs k ks
 |k,[],l=>k.dec (V.nth l 0)
 |k,k'::ks,l=>(k.dec (V.nth l 0),Kj k' ks l.tail)
def vg:(ks:List LK)→List V→pD ks
 | [],_=>()
 |k::ks,l=>Kj k ks l
theorem ahs:∀(k:LK) (ks:List LK) (x:Cs k ks) (r:List V),Kj k ks (Ct k ks x++r)=x
 |k,[],x,r=>LK.ahl k x
 |k,k'::ks,x,r=>by
  show(k.dec (k.enc x.1),Kj k' ks (Ct k' ks x.2++r))=x;rw[LK.ahl,ahs k' ks];rfl
def Ft:List LK→Type 1→Type 1
 | [],R=>R
 |k::ks,R=>k.Ty→Ft ks R
def apN:(k:LK)→(ks:List LK)→{R:Type 1}→Ft (k::ks) R→Cs k ks→R
 |_,[],_,f,x=>f x
 |_,k'::ks,_,f,x=>apN k' ks (f x.1) x.2
def Cu:(ks:List LK)→{R:Type 1}→Ft ks R→pD ks→R
 | [],_,f,_=>f
 |k::ks,_,f,x=>apN k ks f x
def Fu{α:Type}(b:Bool):List Bool→List α→List α
 | [],_=>[]
 |_,[]=>[]
 |c::m,x::l=>bif c==b then x::Fu b m l else Fu b m l
def merge:List Bool→List V→List V→List V
 | [],_,_=>[]
 |true::m,i,x=>V.nth x 0::merge m i x.tail
 |false::m,i,x=>V.nth i 0::merge m i.tail x
def Fv:List Nat→List LK→List LK
 | [],_=>[]
 |_,[]=>[]
 |0::t,k::ks=>k::Fv t ks
 |(_+1)::t,_::ks=>Fv t ks
abbrev jQ:=List Nat×List LK
def jQ.fresh(w:jQ):List LK:=Fv w.1 w.2
def put:List Nat→List V→List V→List V
 | [],_,_=>[]
 |0::t,ds,x=>V.nth x 0::put t ds x.tail
 |(j+1)::t,ds,x=>V.nth ds j::put t ds x
def Cv:List Nat→List V→List V
 | [],_=>[]
 |0::t,l=>V.nth l 0::Cv t l.tail
 |(_+1)::t,l=>Cv t l.tail
def Am:jQ→List jQ→Type
 |w,[]=>pD w.fresh
 |w,w'::ws=>pD w.fresh ⊕ Am w' ws
def yG:List jQ→Type
 | []=>Empty
 |w::ws=>Am w ws
def wN(ds:List V){β:Type}(k:Nat→List V→Option β):Nat→(w:jQ)→(ws:List jQ)→Am w ws→Option β
 |j,w,[],r=>k j (put w.1 ds (qm w.fresh r))
 |j,w,w'::ws,r=>ed (fun x=>k j (put w.1 ds (qm w.fresh x))) (fun y=>wN ds k (j+1) w' ws y) r
def wT(ds:List V){β:Type}(k:Nat→List V→Option β):(ws:List jQ)→yG ws→Option β
 | [],r=>Empty.elim r
 |w::ws,r=>wN ds k 0 w ws r
def vh(ds:List V):Nat→(w:jQ)→(ws:List jQ)→Am w ws→Nat×List V
 |j,w,[],r=>(j,put w.1 ds (qm w.fresh r))
 |j,w,_::_,.inl x=>(j,put w.1 ds (qm w.fresh x))
 |j,_,w'::ws,.inr y=>vh ds (j+1) w' ws y
def Fw(ds:List V):(ws:List jQ)→yG ws→Nat×List V
 | [],r=>Empty.elim r
 |w::ws,r=>vh ds 0 w ws r
theorem aht(ds:List V){β:Type}(k:Nat→List V→Option β):∀(j:Nat) (w:jQ) (ws:List jQ) (r:Am w ws),wN ds k j w ws r=k (vh ds j w ws r).1 (vh ds j w ws r).2
 |_,_,[],_=>rfl
 |_,_,_::_,.inl _=>rfl
 |j,_,w'::ws,.inr y=>aht ds k (j+1) w' ws y
theorem QN(ds:List V){β:Type}(k:Nat→List V→Option β):∀(ws:List jQ) (r:yG ws),wT ds k ws r=k (Fw ds ws r).1 (Fw ds ws r).2
 | [],r=>Empty.elim r
 |w::ws,r=>aht ds k 0 w ws r
def Fx:Nat→(w:jQ)→(ws:List jQ)→List V→Am w ws
 |_,w,[],l=>vg w.fresh (Cv w.1 l)
 |0,w,_::_,l=> .inl (vg w.fresh (Cv w.1 l))
 |j+1,_,w'::ws,l=> .inr (Fx j w' ws l)
def deT(j:Nat):(ws:List jQ)→List V→Option (yG ws)
 | [],_=>none
 |w::ws,l=>some (Fx j w ws l)
def Fy:List Nat→List V→List V
 | [],_=>[]
 |0::t,x=>V.nth x 0::Fy t x.tail
 |(_+1)::t,x=>Fy t x
theorem XY:∀(t:List Nat) (ds x:List V),Cv t (put t ds x)=Fy t x
 | [],_,_=>rfl
 |0::t,ds,x=>congrArg (V.nth x 0:: ·) (XY t ds x.tail)
 |(_+1)::t,ds,x=>XY t ds x
theorem XZ:∀(t:List Nat) (ks:List LK) (k:LK) (wU:List LK),Fv t ks=k::wU→∀x:Cs k wU,∃r,Fy t (Ct k wU x)=Ct k wU x++r
 | [],_,_,_,h,_=>by cases h
 |_::_,[],_,_,h,_=>by simp[Fv]at h
 |0::t,a::ks,k,wU,h,x=>by
  simp only[Fv,GW]at h;obtain⟨rfl,h2⟩:=h;cases wU with
  |nil=>exact⟨Fy t [],rfl⟩
  |cons k' wU=>
   obtain⟨r,hr⟩:=XZ t ks k' wU h2 x.2;exact⟨r,congrArg (a.enc x.1:: ·) hr⟩
 |(_+1)::t,a::ks,k,wU,h,x=>XZ t ks k wU h x
theorem ahu(w:jQ)(ds:List V)(x:pD w.fresh):vg w.fresh (Cv w.1 (put w.1 ds (qm w.fresh x)))=x:=by
 rw[XY];revert x;generalize hf:w.fresh=f;cases f with
 |nil=>intro x;rfl
 |cons k ks=>
  intro x;obtain⟨r,hr⟩:=XZ w.1 w.2 k ks hf x;show Kj k ks (Fy w.1 (Ct k ks x))=x;rw[hr];exact ahs k ks x r
theorem ahv(ds:List V):∀(j:Nat) (w:jQ) (ws:List jQ) (r:Am w ws),j≤(vh ds j w ws r).1
 |_,_,[],_=>aW _
 |_,_,_::_,.inl _=>aW _
 |j,_,w'::ws,.inr y=>pJ (Nat.le_succ j) (ahv ds (j+1) w' ws y)
theorem au0(w:jQ)(l:List V):∀j,Fx j w [] l=vg w.fresh (Cv w.1 l)
 |0=>rfl
 |_+1=>rfl
theorem ahw(ds:List V):∀(j:Nat) (w:jQ) (ws:List jQ) (r:Am w ws),Fx ((vh ds j w ws r).1-j) w ws (vh ds j w ws r).2=r
 |j,w,[],r=>(au0 w _ _).trans (ahu w ds r)
 |j,w,w'::ws,.inl x=>by
  show Fx (j-j) w (w'::ws) (put w.1 ds (qm w.fresh x))= .inl x;rw[Nat.sub_self];exact congrArg Sum.inl (ahu w ds x)
 |j,w,w'::ws,.inr y=>by
  have h1:=ahv ds (j+1) w' ws y;have h2:=ahw ds (j+1) w' ws y;show Fx ((vh ds (j+1) w' ws y).1-j) w (w'::ws) (vh ds (j+1) w' ws y).2= .inr y;obtain⟨d,hd⟩:∃d,(vh ds (j+1) w' ws y).1=j+1+d:=⟨(vh ds (j+1) w' ws y).1-(j+1),by omega⟩
  rw[hd]at h2⊢;rw[show j+1+d-(j+1)=d by omega]at h2;rw[show j+1+d-j=d+1 by omega];exact congrArg Sum.inr h2
theorem au1(ds:List V):∀(ws:List jQ) (r:yG ws),deT (Fw ds ws r).1 ws (Fw ds ws r).2=some r
 | [],r=>Empty.elim r
 |w::ws,r=>congrArg some (ahw ds 0 w ws r)
section
variable {P:Program}{A:dz}{C:af}{L:cp}{f n m:Nat}
theorem au2{c:Code}{S:Shape×List (Out×Shape)}(hS:A.kQ f (keyOf c+1)=some S)(hL:ln P A C L f n m c){I X R:Type}(enc:I→X→List V)(sQ:I→R→Nat×List V)
  (wV:List V→I) (yH:List V→X) (QO:Nat×List V→Option R) (body:I→X→(β:Type)→(X→Option β)→(R→Option β)→Option β)
  (Cr:∀ds,bL S.1 (enc (wV ds) (yH ds))=bL S.1 ds) (X0:∀i x,yH (enc i x)=x) (hdr:∀i r,QO (sQ i r)=some r)
  (e1:∀i x (β:Type) (k:(List V ⊕ (Nat×List V))→Option β),mi P A C L f n m c (bL S.1 (enc i x)) (fun o st=>(qP m S.1 S.2 (some (o,st))).bind k)=
   body i x β (fun y=>k (.inl (enc i y))) (fun r=>k (.inr (sQ i r))))
  (hl:∀(β:Type) ds (k:Nat→List V→Option β),L β (keyOf c+1) ds k=(Loop (fun x=>body (wV ds) x (X ⊕ R) (fun y=>some (.inl y)) (fun r=>some (.inr r))) (yH ds)).bind fun r=>k (sQ (wV ds) r).1 (sQ (wV ds) r).2):
  wS P A C L f n m (.loop c):=by
 simp only[wS,hS];intro β ds k;rw[hl];have hex:∀(z:Option (Out×St)),qP m S.1 S.2 z=z.bind fun r=>qP m S.1 S.2 (some (r.1,r.2)):=by
  intro z;cases z<;>rfl
 have hs:∀i x,stepG P A C f n m S c (enc i x)=(body i x (X ⊕ R) (fun y=>some (.inl y)) (fun r=>some (.inr r))).map fun| .inl y=> .inl (enc i y)| .inr r=> .inr (sQ i r):=by
  intro i x;have k1:=e1 i x _ (fun z=>some z);have k2:=e1 i x (X ⊕ R) (fun| .inl ds=>some (.inl (yH ds))| .inr e=>(QO e).map .inr);have k3:=e1 i x (List V ⊕ (Nat×List V)) (fun| .inl ds=>some (.inl (enc i (yH ds)))| .inr e=>(QO e).map fun r=> .inr (sQ i r));simp only[X0,hdr,Option.map_some]at k2 k3;unfold stepG;rw[hex];rw[Nw P A C f n m c hL]at k1 k2 k3;rw[←k2];refine Eq.trans ?_ (k1.trans (k3.symm.trans ?_))
  ·simp
  ·cases exec P A C f n m c (bL S.1 (enc i x))with
   |none=>rfl
   |some r=>
    simp only[Option.bind_some];cases qP m S.1 S.2 (some (r.1,r.2))with
    |none=>rfl
    |some z=>
     cases z with
     |inl _=>rfl
     |inr e=>simp only[Option.bind_some];cases QO e<;>rfl
 have h0:stepG P A C f n m S c ds=stepG P A C f n m S c (enc (wV ds) (yH ds)):=by
  unfold stepG;rw[Cr]
 have:Loop (stepG P A C f n m S c) ds=(Loop (fun x=>body (wV ds) x (X ⊕ R) (fun y=>some (.inl y)) (fun r=>some (.inr r))) (yH ds)).map (sQ (wV ds)):=by
  rw[M3,h0,←M3];exact amy (enc (wV ds)) (sQ (wV ds)) (fun x=>hs _ _) (yH ds)
 rw[this];cases Loop (fun x=>body (wV ds) x (X ⊕ R) (fun y=>some (.inl y)) (fun r=>some (.inr r))) (yH ds)<;>rfl
abbrev Kk(S:Shape)(mk:List Bool):List LK:=Fu false mk S.ks
abbrev Cw(S:Shape)(mk:List Bool):List LK:=Fu true mk S.ks
def yI(ts:List (List Nat))(W:List (Out×Shape)):List jQ:=
 match ts,W with
 |t::ts,w::W=>(t,w.2.ks)::yI ts W
 |_,_=>[]
abbrev Kl(S:Shape)(mk:List Bool)(i:pD (Kk S mk))(x:pD (Cw S mk)):List V:=merge mk (qm _ i) (qm _ x)
abbrev X1(S:Shape)(mk:List Bool)(i:pD (Kk S mk)):List V:=merge mk (qm _ i) []
abbrev QP(S:Shape)(mk:List Bool)(ds:List V):pD (Kk S mk):=vg _ (Fu false mk (S.norm ds))
abbrev QQ(S:Shape)(mk:List Bool)(ds:List V):pD (Cw S mk):=vg _ (Fu true mk (S.norm ds))
abbrev ahx(X R:Type):Type 1:=(β:Type)→(X→Option β)→(R→Option β)→Option β
abbrev QR(S:Shape×List (Out×Shape))(mk:List Bool)(ts:List (List Nat)):Type 1:=Ft (Kk S.1 mk) (Ft (Cw S.1 mk) (ahx (pD (Cw S.1 mk)) (yG (yI ts S.2))))
abbrev X2(S:Shape×List (Out×Shape))(mk:List Bool)(ts:List (List Nat))(b:QR S mk ts)(i:pD (Kk S.1 mk))(x:pD (Cw S.1 mk)):ahx (pD (Cw S.1 mk)) (yG (yI ts S.2)):=Cu _ (Cu _ b i) x
def X3(S:Shape×List (Out×Shape))(mk:List Bool)(ts:List (List Nat))(b:QR S mk ts){β:Type}(ds:List V)(k:Nat→List V→Option β):Option β:=
 (Loop (fun x=>X2 S mk ts b (QP S.1 mk ds) x (pD (Cw S.1 mk) ⊕ yG (yI ts S.2)) (fun y=>some (.inl y)) (fun r=>some (.inr r))) (QQ S.1 mk ds)).bind (wT (X1 S.1 mk (QP S.1 mk ds)) k (yI ts S.2))
theorem bA{c:Code}(S:Shape×List (Out×Shape))(mk:List Bool)(ts:List (List Nat))(b:QR S mk ts)(hL:ln P A C L f n m c)(hS:A.kQ f (keyOf c+1)=some S:=by kernel_rfl)
  (Cr:∀ds,bL S.1 (Kl S.1 mk (QP S.1 mk ds) (QQ S.1 mk ds))=bL S.1 ds:=by intros;kernel_rfl) (X0:∀i x,QQ S.1 mk (Kl S.1 mk i x)=x:=by intros;kernel_rfl)
  (e1:∀i x (β:Type) (k:(List V ⊕ (Nat×List V))→Option β),mi P A C L f n m c (bL S.1 (Kl S.1 mk i x)) (fun o st=>(qP m S.1 S.2 (some (o,st))).bind k)=
   X2 S mk ts b i x β (fun y=>k (.inl (Kl S.1 mk i y))) (wT (X1 S.1 mk i) (fun j l=>k (.inr (j,l))) (yI ts S.2)):=by intros;kernel_rfl)
  (hl:∀(β:Type) ds (k:Nat→List V→Option β),L β (keyOf c+1) ds k=X3 S mk ts b ds k:=by intros;kernel_rfl):
  wS P A C L f n m (.loop c):=
 au2 hS hL (Kl S.1 mk) (fun i r=>Fw (X1 S.1 mk i) _ r) (QP S.1 mk) (QQ S.1 mk) (fun e=>deT e.1 _ e.2) (X2 S mk ts b) Cr X0 (fun i r=>au1 _ _ r)
  (fun i x β k=>by
   rw[e1];congr 1;funext r;exact QN _ _ _ r)
  (fun β ds k=>by
   rw[hl];unfold X3;congr 1;funext r;exact QN _ _ _ r)
abbrev X4(S:Shape×List (Out×Shape))(ts:List (List Nat)):Type 1:=Ft S.1.ks ((β:Type)→(yG (yI ts S.2)→Option β)→Option β)
def ahy(S:Shape×List (Out×Shape))(ts:List (List Nat))(b:X4 S ts){β:Type}(ds:List V)(k:Nat→List V→Option β):Option β:=
 Cu S.1.ks b (vg _ (S.1.norm ds)) β (wT (qm S.1.ks (vg _ (S.1.norm ds))) k (yI ts S.2))
theorem zZ{t:Nat}{x y:Code}(S:Shape×List (Out×Shape))(ts:List (List Nat))(b:X4 S ts)(hx:ln P A C L f n m x)(hy:ln P A C L f n m y)(hS:A.kQ f (t*16+15)=some S:=by kernel_rfl)
  (Cr:∀ds,bL S.1 (qm S.1.ks (vg _ (S.1.norm ds)))=bL S.1 ds:=by intros;kernel_rfl)
  (e1:∀i (β:Type) (k:Nat→List V→Option β),XU P A C L f n m t S x y (qm S.1.ks i) k=Cu S.1.ks b i β (wT (qm S.1.ks i) k (yI ts S.2)):=by intros;kernel_rfl)
  (hl:∀(β:Type) ds (k:Nat→List V→Option β),L β (t*16+15) ds k=ahy S ts b ds k:=by intros;kernel_rfl):
  wS P A C L f n m (.cond t x y):=
 auW hS hx hy (qm S.1.ks) (fun i r=>Fw (qm S.1.ks i) _ r) (fun ds=>vg _ (S.1.norm ds)) (Cu S.1.ks b) Cr
  (fun i β k=>by
   rw[e1];exact congrArg (Cu S.1.ks b i β) (funext fun r=>QN _ _ _ r))
  (fun β ds k=>by
   rw[hl];exact congrArg (Cu S.1.ks b (vg _ (S.1.norm ds)) β) (funext fun r=>QN _ _ _ r))
end
theorem ba{P:Program}{A:dz}{C:af}{L:cp}{f n m:Nat}{c:Code}{bs:List rL}(hb:rM P A C L f n m bs)(h:tW A f c=bs:=by kernel_rfl):ln P A C L f n m c:=ahi h hb
theorem bj{P:Program}{A:dz}{L:cp}{key:Nat}{bs:List rL}{ds:List V}{r x:Option (List V)}(ht:rM P A (Call P A) L key (Hk P (A.ky key)) (A.sin key).db.length bs)(h:x=r)
  (hb:tW A key (vM P (A.ky key))=bs:=by kernel_rfl) (e:Nx P A (Call P A) L key ds=x:=by kernel_rfl):Call P A key ds=r:=auX hb ht (e.trans h)
def bz(j:Nat)(S:Shape×List (Out×Shape))(mk:List Bool)(ts:List (List Nat))(b:QR S mk ts)(L:cp):cp:=fun β n ds k=>bif Nat.beq n j then X3 S mk ts b ds k else L β n ds k
def zY(j:Nat)(S:Shape×List (Out×Shape))(ts:List (List Nat))(b:X4 S ts)(L:cp):cp:=fun β n ds k=>bif Nat.beq n j then ahy S ts b ds k else L β n ds k
def bh:cp:=fun _ _ _ _=>none
abbrev LV:=List V
structure SE where
 T:TypeId
 cmp:Nat
 ex:V→List V
 k:Nat→Nat
abbrev El(l:List V)(j:Int){β:Type}(x:Option β):Option β:=bif (decide (0≤j))&&(decide (j<(l.length:Int)))then x else none
abbrev aA(l:List V)(j:Int){β:Type}(f:V→Option β):Option β:=bif (decide (0≤j))&&(decide (j<(l.length:Int)))then(l[j.toNat]?).bind f else none
abbrev bc(l:List V)(j:Int)(v:V):List V:=l.set j.toNat v
end Go.AM
