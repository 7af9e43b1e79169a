/-
  Functions of the program, lifted to plain data.
-/
import Derived.Carry
import Derived.OpenShut
import Derived.Deep.Slices
import Derived.Test.YtkbdjbcjpcodcaaGreatDoorP3
noncomputable section
set_option linter.unusedVariables false
set_option linter.unusedSimpArgs false
set_option linter.unusedSectionVars false
namespace Go.AM
open Go.IntKind (wrap)
section
variable {P:Program} {A:dw} {E:FuncId→Bool} {G:Nat→V} {w w':World} {I I' I2:Nat→Nat→Prop} {μ β β':Nat→Option Nat} {hp hp' hp0:Nat→Option ah} {C:af} {B:Nat} {M:Nat→Prop} {w0:Start}
def zy (hp0:Nat→Option ah):Prop:= ∀id e es vers,(hp0 id=some (.nest e es vers)∨∃i,hp0 id=some (.out e es vers i))→∀k,bB vers k=0
theorem abi {n m:Nat} {ord kp live:List Nat} {a:Act} {st:St} (sr:ord.Nodup) (GM: ∀id,id<m→ord[id]? =some id∨∃p,ord[id]? =some p∧st.hp p=none) (S:aC P w I β st.hp B M w0) (hT:tD P I β st.hp) (hA:iU P E G w I β n a st) (hE:oN w0.w w0.I μ hp0 w I β st.hp) (hm: ∀id blk,hp0 id=some blk→id<m) (mu:zy hp0):
  ∃β',aC P w I β' (Bp ord kp live st).hp B M w0∧iU P E G w I β' n a (Bp ord kp live st)∧oN w0.w w0.I μ hp0 w I β' (Bp ord kp live st).hp:=by
 have amA:Bp ord kp live st=mk (pf st.hp ord st.sl (ord.length+(jl st.hp ord kp ord.length ord).2.length) live).1
   ((jl st.hp ord kp ord.length ord).1++((jl st.hp ord kp ord.length ord).2++(pf st.hp ord st.sl (ord.length+(jl st.hp ord kp ord.length ord).2.length) live).2)):=by
  rfl
 rw[amA]
 let hp':=nj ((jl st.hp ord kp ord.length ord).1++((jl st.hp ord kp ord.length ord).2++(pf st.hp ord st.sl (ord.length+(jl st.hp ord kp ord.length ord).2.length) live).2))
 let β':Nat→Option Nat:=fun j=>if j<ord.length then (ord[j]?).bind β else none
 have hlen:(jl st.hp ord kp ord.length ord).1.length=ord.length:=abf;have nK: ∀j,j<ord.length→hp' j=(jl st.hp ord kp ord.length ord).1[j]? :=by
  intro j hj;simp only[hp',ld];rw[ng (by omega)]
 have mr: ∀k,hp' (ord.length+k)=((jl st.hp ord kp ord.length ord).2++(pf st.hp ord st.sl (ord.length+(jl st.hp ord kp ord.length ord).2.length) live).2)[k]? :=by
  intro k;simp only[hp',ld];rw[oC (by omega),hlen,Jq]
 have hF:oP hp' β' ord.length ((jl st.hp ord kp ord.length ord).2++(pf st.hp ord st.sl (ord.length+(jl st.hp ord kp ord.length ord).2.length) live).2):=by
  intro k b hb;refine ⟨(mr k).trans hb,?_⟩;simp only[β'];rw[dm]
 have GJ:qE ((jl st.hp ord kp ord.length ord).2++(pf st.hp ord st.sl (ord.length+(jl st.hp ord kp ord.length ord).2.length) live).2):=abe.app abc;have sR: ∀(j:Nat) id,ord[j]? =some id→β' j=β id:=by
  intro j id hj;simp only[β'];rw[aA (cC.1 hj).1,hj];rfl
 have ug: ∀(j:Nat) id,ord[j]? =some id→∃n',oP hp' β' n' (gx st.hp ord kp n' id).2∧hp' j=some (gx st.hp ord kp n' id).1:=by
  intro j id hj;obtain ⟨n',h1,h2⟩:=abg (hp:=st.hp) (hp':=hp') (β':=β') (ord:=ord) (kp:=kp) (n:=ord.length) hj;exact ⟨n',h1 hF.left,(nK j (cC.1 hj).1).trans h2⟩
 have hR:CI st.hp β ord hp' β':=by
  refine ⟨fun j id e es fz hj ae=> ?_,fun j id T cs hj ae=> ?_,fun j id hj ae=> ?_,fun j id e es vs i hj ae=> ?_,sR,fun j id e es vers hj ae=> ?_,fun j id t es hj ae=> ?_⟩
  ·obtain ⟨n',_,h2⟩:=ug j id hj;rw[h2];simp only[gx,ae]
  ·obtain ⟨n',_,h2⟩:=ug j id hj;rw[h2];simp only[gx,ae];exact ⟨_,rfl⟩
  ·obtain ⟨n',_,h2⟩:=ug j id hj;rw[h2];simp only[gx,ae]
  ·obtain ⟨n',_,h2⟩:=ug j id hj;rw[h2];simp only[gx,ae]
  ·obtain ⟨n',_,h2⟩:=ug j id hj;rw[h2];simp only[gx,ae]
  ·obtain ⟨n',_,h2⟩:=ug j id hj;rw[h2];simp only[gx,ae]
 have cls: ∀j blk',hp' j=some blk'→(∃id,ord[j]? =some id∧((blk'= .dead)∨∃blk,st.hp id=some blk∧blk≠ .dead∧∀o b,bh P w o blk' b→bh P w o blk b))∨(∃e,blk'= .arr e [] false∧β' j=none):=by
  intro j blk' hj;rcases jR j ord.length with h|h
  ·have fV:=b7 h;obtain ⟨n',_,h2⟩:=ug j _ fV;rw[hj] at h2;refine .inl ⟨_,fV,?_⟩;cases ae:st.hp ord[j] with
   | none=>left;simp only[gx,ae] at h2;exact dU h2
   | some blk=>
    cases blk with
    | dead=>left;simp only[gx,ae] at h2;exact dU h2
    | out _ _ _ _=>left;simp only[gx,ae] at h2;exact dU h2
    | var T0 cs=>exact .inr ⟨_,rfl,by simp,fun o b h=>by simp only[gx,ae] at h2;rw[dU h2] at h;exact .root (by simp) (h.flat (by simp))⟩
    | arr e es fz=>exact .inr ⟨_,rfl,by simp,fun o b h=>by simp only[gx,ae] at h2;rw[dU h2] at h;exact .root (by simp) (h.flat (by simp))⟩
    | map t es=>exact .inr ⟨_,rfl,by simp,fun o b h=>by simp only[gx,ae] at h2;rw[dU h2] at h;exact .root (by simp) (h.flat (by simp))⟩
    | nest e es vers=>
     refine .inr ⟨_,rfl,by simp,fun o b h=> ?_⟩;simp only[gx,ae] at h2;rw[dU h2] at h;cases h with
     | root _ h=>exact .root (by simp) h
     | row h1 h2=>exact .row h1 h2
  ·obtain ⟨k,rfl⟩: ∃k,j=ord.length+k:=⟨j-ord.length,by omega⟩
   rw[mr] at hj;obtain ⟨e,he⟩:=GJ _ (mB hj);exact .inr ⟨e,he,(hF k _ hj).2⟩
 refine ⟨β',⟨⟨fun j blk' hj=> ?_,fun j1 j2 b1 b2 b e1 e2 f1 f2=> ?_,fun j blk b e1 f1=> ?_,S.h.jV⟩,S.cQ,S.size,S.new,S.io⟩,⟨fun k=> ?_,hA.size,hA.defers,hA.aE⟩,⟨hE.ej,hE.cQ,fun id blk ae=> ?_,fun id blk blk' b ae bX hd hb=> ?_⟩⟩
 ·change hp' j=some blk' at hj;rcases jR j ord.length with h|h
  ·have fV:=b7 h;obtain ⟨n',hF',h2⟩:=ug j _ fV;rw[hj] at h2;rw[sR j _ fV];cases ae:st.hp ord[j] with
   | none=>simp only[gx,ae] at h2;rw[dU h2];exact .dead
   | some blk=>
    have hr:=S.h.rel _ _ ae;generalize β ord[j]=o at hr;cases hr with
    | dead=>simp only[gx,ae] at h2;rw[dU h2];exact .dead
    | out=>simp only[gx,ae] at h2;rw[dU h2];exact .dead
    | ez hb=>simp only[gx,ae] at h2;rw[dU h2];exact .ez hb
    | arr a0 a1 a2 a3 a4 a5 a6 a7=>simp only[gx,ae] at h2;rw[dU h2];exact .arr a0 a1 a2 a3 a4 a5 a6 a7
    | nest a1 a2 a3=>simp only[gx,ae] at h2;rw[dU h2];exact .nest a1 a2 a3
    | jc a1=>simp only[gx,ae] at h2;rw[dU h2];exact .jc a1
    | map a1 a2 a3 a4 a5 a6 a7=>simp only[gx,ae] at h2;rw[dU h2];exact .map a1 a2 a3 a4 a5 a6 a7
    | @var xs b Ca T hb hh hs dp hx iQ=>
     simp only[gx,ae] at h2 hF';rw[dU h2];exact .var hb hh (by rw[Me];exact hs) dp (fun i v y hi hy=>Mf S hT hR (vs:=Ca.toList) (fun i v x hi dk=>hx i v x (by simpa using hi) dk) hF' i v y (by simpa using hi) hy) iQ
  ·rcases cls j blk' hj with ⟨id,ae,_⟩|⟨e,he,hb⟩
   ·have:=(cC.1 ae).1;omega
   ·rw[he];exact .ez hb
 ·rcases cls j1 b1 e1 with ⟨dx,o1,x1⟩|⟨e,_,hb⟩
  ·rcases cls j2 b2 e2 with ⟨aJ,o2,x2⟩|⟨e,_,hb⟩
   ·obtain ⟨c1,y1,z1,g1⟩:=x1.resolve_left f1.alive;obtain ⟨c2,y2,z2,g2⟩:=x2.resolve_left f2.alive;rw[sR _ _ o1] at f1;rw[sR _ _ o2] at f2;have:=S.h.inj dx aJ c1 c2 b y1 y2 (g1 _ _ f1) (g2 _ _ f2);subst this;obtain ⟨q1,q2⟩:=cC.1 o1;obtain ⟨q3,q4⟩:=cC.1 o2;exact (List.getElem_inj sr).1 (q2.trans q4.symm)
   ·subst ‹b2=_›;have:=f2.flat (by simp);rw[hb] at this;cases this
  ·subst ‹b1=_›;have:=f1.flat (by simp);rw[hb] at this;cases this
 ·rcases cls j blk e1 with ⟨dx,o1,x1⟩|⟨e,_,hb⟩
  ·obtain ⟨c1,y1,z1,g1⟩:=x1.resolve_left f1.alive;rw[sR _ _ o1] at f1;exact S.h.own dx c1 b y1 (g1 _ _ f1)
  ·subst ‹blk=_›;have:=f1.flat (by simp);rw[hb] at this;cases this
 ·change aj P w I β' hp' (a.tmps.getD k undef) (mG _ k);unfold mG;cases FW:fM (pf st.hp ord st.sl (ord.length+(jl st.hp ord kp ord.length ord).2.length) live).1 k with
  | none=>exact .undef
  | some y=>
   obtain ⟨n',h1,h2⟩:=abd hF.right FW;simp only[Option.getD_some,h2];exact amx S hT hR (hA.sl k) h1
 ·obtain ⟨ub,k1,k2,k3⟩:=hE.blk id blk ae;rcases GM id (hm id blk ae) with ho|⟨p,ho,bP⟩
  ·cases ub with
   | dead=>exact ⟨.dead,hR.dead id id ho k1,k2,fun h=>absurd rfl h⟩
   | out e es vs i=>exact ⟨.dead,hR.out id id _ _ _ _ ho k1,by cases blk<;>trivial,fun h=>absurd rfl h⟩
   | var T0 cs=>
    obtain ⟨lE,h'⟩:=hR.var id id T0 cs ho k1;refine ⟨_,h',?_,fun _=>(sR id id ho).trans (k3 (by simp))⟩;cases blk<;>simp_all [ah.le]
   | arr e es fz=>exact ⟨_,hR.arr id id e es fz ho k1,k2,fun _=>(sR id id ho).trans (k3 (by simp))⟩
   | map t es=>exact ⟨_,hR.map id id t es ho k1,k2,fun _=>(sR id id ho).trans (k3 (by simp))⟩
   | nest e es vers=>
    refine ⟨_,hR.nest id id e es vers ho k1,?_,fun _=>(sR id id ho).trans (k3 (by simp))⟩;rcases ah.W5 k2 with ⟨Lu,amB,rfl,l1,l2,_⟩|⟨Lu,amB,i0,rfl,l1,l2,_⟩
    ·exact ⟨rfl,l1,by simpa using l2,fun k=>by rw[mu id _ _ _ (.inl ae) k];exact ma _⟩
    ·exact ⟨rfl,l1,by simpa using l2,fun k=>by rw[mu id _ _ _ (.inr ⟨_,ae⟩) k];exact ma _⟩
  ·obtain ⟨n',_,h2⟩:=ug id p ho;simp only[gx,bP] at h2;exact ⟨.dead,h2,by cases blk<;>trivial,fun h=>absurd rfl h⟩
 ·obtain ⟨ub,k1,k2,k3⟩:=hE.blk id blk ae;rcases GM id (hm id blk ae) with ho|⟨p,ho,bP⟩
  ·refine hE.size id blk ub b ae k1 (fun vO=> ?_) hb;subst vO;have:=hR.dead id id ho k1;change hp' id=some blk' at bX;rw[this] at bX;exact hd (dU bX).symm
  ·obtain ⟨n',_,h2⟩:=ug id p ho;simp only[gx,bP] at h2;change hp' id=some blk' at bX;rw[h2] at bX;exact absurd (dU bX).symm hd
theorem amC {n m:Nat} {live:List Nat} {a:Act} {st:St} (S:aC P w I β st.hp B M w0) (hT:tD P I β st.hp) (hA:iU P E G w I β n a st) (hE:oN w0.w w0.I μ hp0 w I β st.hp) (hm: ∀id blk,hp0 id=some blk→id<m) (mu:zy hp0):
  ∃β',aC P w I β' (canon m live st).hp B M w0∧iU P E G w I β' n a (canon m live st)∧oN w0.w w0.I μ hp0 w I β' (canon m live st).hp:=by
 obtain ⟨t,GM,sr⟩:=amz (m:=m) (live:=live) (st:=st);refine abi (by rw[GM];exact sr) (fun id aR=> .inl ?_) S hT hA hE hm mu;rw[GM,ng (by simpa using aR)];simp[aR]
theorem abj: ∀{l:List Nat},se l=true→l.Nodup
 | [],_=> .nil
 | a::l,h=>by
  simp only[se,aK,nc] at h;rw[List.nodup_cons];exact ⟨fun hm=>Bool.noConfusion ((yG hm).symm.trans h.1),abj h.2⟩
theorem amD {m:Nat} {mv:List Nat} {id:Nat} (h:id<m):(qg m mv)[id]? =some id∨(qg m mv)[id]? =some (m+id):=by
 unfold qg;rw[ng (by simpa using h),kf];simp only[A0 h,Option.map_some];cases iN mv id with
 | true=>exact .inr rfl
 | false=>exact .inl rfl
end
section
variable {P:Program} {A:dw} {w w':World} {I I' I2:Nat→Nat→Prop} {μ β β':Nat→Option Nat} {hp hp' hp0:Nat→Option ah} {C:af} {B:Nat} {M:Nat→Prop} {w0:Start}
theorem Mg (p:Nat→Prop) (h: ∃n,p n): ∃n,p n∧∀m,p m→n≤m:=by
 obtain ⟨n,hn⟩:=h
 induction n using Nat.strongRecOn with
 | _ n ih=>
  by_cases hx: ∃m,m<n∧p m
  ·obtain ⟨m,hm,hp⟩:=hx;exact ih m hm hp
  ·exact ⟨n,hn,fun m hm=>Nat.le_of_not_lt fun aR=>hx ⟨m,aR,hm⟩⟩
open Classical in
theorem amE {c:Code} {Q:Exit→Act→World→Prop} (J:Nat→Act→World→Prop) (h0: ∀a w,¬J 0 a w) (round: ∀n a w,J (n+1) a w→c.wp P (Exit.then (J n) Q) a w) {n:Nat} {a:Act} {w:World} (h:J n a w):
  (Code.loop c).wp P Q a w:=by
 refine wp_loop (fun a w=> ∃n,J n a w) (fun a w=>if h: ∃n,J n a w then (Mg _ h).choose else 0) ⟨n,h⟩ fun a w hJ=> ?_;obtain ⟨h1,h2⟩:=(Mg _ hJ).choose_spec;generalize hk:(Mg _ hJ).choose=k at h1 h2;cases k with
 | zero=>exact absurd h1 (h0 a w)
 | succ k=>
  refine wp_mono (round k a w h1) fun e a' w' he=> ?_;cases e with
  | normal=>
   have hex: ∃n,J n a' w':=⟨k,he⟩
   refine ⟨hex,?_⟩;have h3:=(Mg _ hex).choose_spec.2 k he;rw[wv hex,wv hJ,hk];omega
  | _=>exact he
def CJ:Out→Exit
 | .norm=> .normal
 | .exit id=> .exit id
 | .ret=> .ret
def Inv (P:Program) (E:FuncId→Bool) (G:Nat→V) (B:Nat) (M:Nat→Prop) (w0:Start) (μ:Nat→Option Nat) (hp0:Nat→Option ah) (n:Nat) (a:Act) (w:World) (st:St):Prop:=
 ∃I β,aC P w I β st.hp B M w0∧iU P E G w I β n a st∧oN w0.w w0.I μ hp0 w I β st.hp
theorem Inv.canon {E:FuncId→Bool} {G:Nat→V} {n m:Nat} {a:Act} {st:St} {live:List Nat} (h:Inv P E G B M w0 μ hp0 n a w st) (hm: ∀id blk,hp0 id=some blk→id<m) (mu:zy hp0):Inv P E G B M w0 μ hp0 n a w (canon m live st):=by
 obtain ⟨I0,β,S,hA,hE⟩:=h;obtain ⟨I,h1,S,hA,hT⟩:=aa4 S hA;obtain ⟨β',a,b,c⟩:=amC (live:=live) S hT hA (hE.trans h1.Cx) hm mu;exact ⟨I,β',a,b,c⟩
theorem Mh: ∀{l:List BS} {ds:List V},(im l ds).length=l.length
 | [],_=>rfl
 | b::l,ds=>by simp only[im,List.length_cons,Mh]
theorem Inv.enter {A:dw} {E:FuncId→Bool} {G:Nat→V} {n f:Nat} {ds:List V} {a:Act} (oo:se (qg (A.sin f).c7.length (A.mv f))=true) (h:Inv P E G B M w0 μ hp0 n a w (bQ (A.sin f) ds)) (hm: ∀id blk,hp0 id=some blk→id<(A.sin f).c7.length)
  (mu:zy hp0) (abk: ∀p,(A.sin f).c7.length≤p→(bQ (A.sin f) ds).hp p=none):Inv P E G B M w0 μ hp0 n a w (Ex A f ds):=by
 unfold Ex;split
 ·exact h
 ·obtain ⟨I0,β,S,hA,hE⟩:=h;obtain ⟨I,h1,S,hA,hT⟩:=aa4 S hA;obtain ⟨β',x,y,z⟩:=abi (kp:=[]) (m:=(A.sin f).c7.length) (ord:=qg (A.sin f).c7.length (A.mv f)) (live:=(A.sin f).cx.map (·.1)) (abj oo) (fun id ae=>(amD ae).imp (fun h=>h) fun h=>⟨_,h,abk _ (by omega)⟩) S hT hA (hE.trans h1.Cx) hm mu;exact ⟨I,β',x,y,z⟩
theorem Inv.reshape {E:FuncId→Bool} {G:Nat→V} {n m:Nat} {a:Act} {st:St} {S:Shape} {ds:List V} (h:Inv P E G B M w0 μ hp0 n a w st) (hs:mb m S st=some ds) (hm: ∀id blk,hp0 id=some blk→id<m):Inv P E G B M w0 μ hp0 n a w (bQ S ds):=by
 obtain ⟨I,β,S1,hA,hE⟩:=h;obtain ⟨r1,r2,_,r4⟩:=AM.reshape hs S1;refine ⟨I,β,r1,⟨fun k=>r2 k _ (hA.sl k),hA.size,hA.defers,hA.aE⟩,⟨hE.ej,hE.cQ,fun id blk ae=> ?_,fun id blk blk' b ae bX hd hb=> ?_⟩⟩
 ·obtain ⟨ub,k1,k2,k3⟩:=hE.blk id blk ae;obtain ⟨_,hle,_⟩:=aad hs;have hl:=hm id blk ae;obtain ⟨cI,h2⟩: ∃cI,(bQ S ds).hp id=some cI:=by
   simp only[bQ,mk,ld];exact ⟨_,b7 (by rw[Mh];omega)⟩
  by_cases hd:cI= .dead
  ·subst hd;exact ⟨_,h2,by cases blk<;>trivial,fun h=>absurd rfl h⟩
  ·obtain ⟨kR,e1,e2,_⟩:=r4 id cI h2 hd;rw[k1] at e1;cases e1;exact ⟨_,h2,ah.le_trans k2 e2,fun _=>k3 (fun e=>hd (ah.tB (e▸e2)))⟩
 ·obtain ⟨kR,e1,e2,_⟩:=r4 id blk' bX hd;exact hE.size id blk kR b ae e1 (fun e=>hd (ah.tB (e▸e2))) hb
theorem oO.here (h:oO P A C) (f:Nat) (id:Nat):oO P (A.here f id) C:=by
 intro key ds es hh;obtain ⟨fn,c,h1,h2,h3⟩:=h key ds es hh;refine ⟨fn,c,h1,h2,fun w I μ vals a g b d=>(h3 w I μ vals a g b d).mono fun e w' hx=> ?_⟩;obtain ⟨v,I2,cM,q1,q2⟩:=hx;exact ⟨v,I2,cM,q1,⟨q2.Cy,q2.le,q2.res⟩⟩
theorem amF {a b:Out} (h:JS a b=true):a=b:=by
 cases a<;>cases b<;>simp[JS] at h<;>first|rfl|(subst h;rfl)
theorem abl {m:Nat} {r:Out×St}: ∀{l:List (Out×Shape)} {j:Nat} {e:Nat×List V},ways m j l r=some e→j≤e.1
 | [],j,e,h=>by cases h
 | (o,S)::l,j,e,h=>by
  simp only[ways] at h;split at h
  ·cases h;exact az _
  ·have:=abl h;omega
theorem R5 {m:Nat} {o:Out} {s:St} {out:Out} {st':St}: ∀{l:List (Out×Shape)} {k:Nat} {e:Nat×List V},ways m k l (o,s)=some e→n0 k l e.1 e.2 (fun o st=>some (o,st))=some (out,st')→
  out=o∧∃S,mb m S s=some e.2∧st'=bQ S e.2
 | [],k,e,h,_=>by cases h
 | (o',S)::l,k,e,h,h2=>by
  simp only[ways] at h;split at h
  ·rename_i ds hx;cases h;cases ho:JS o' o with
   | false=>rw[ho] at hx;cases hx
   | true=>
    rw[ho] at hx;have:=amF ho;subst this;cases l with
    | nil=>
     simp only[n0,fi,nh] at h2;exact ⟨h2.1.symm,S,hx,h2.2.symm⟩
    | cons p l=>
     simp only[n0,nX,cond_true,fi,nh] at h2;exact ⟨h2.1.symm,S,hx,h2.2.symm⟩
  ·have qy:=abl h;cases l with
   | nil=>cases h
   | cons p l=>
    have bq:Nat.beq e.1 k=false:=by
     cases hb:Nat.beq e.1 k with
     | false=>rfl
     | true=>rw[aM] at hb;omega
    simp only[n0,bq,cond_false] at h2;exact R5 h h2
theorem amG (hC:oO P A C) (hP:lf P A) (nA:P.follows .mixedOrders=true) {f n m:Nat} (hm: ∀id blk,hp0 id=some blk→id<m) (mu:zy hp0):
  ∀(c:Code) {st st':St} {out:Out} {Q:Exit→Act→World→Prop} {a:Act} {w:World},exec P A C f n m c st=some (out,st')→Inv P A.idle A.aE B M w0 μ hp0 n a w st→
   (∀a' w',Inv P A.idle A.aE B M w0 μ hp0 n a' w' st'→Q (CJ out) a' w')→c.wp P Q a w:=by
 intro c
 induction c with
 | skip=>
  intro st st' out Q a w h hI hQ;simp only[exec,fi,nh] at h;obtain ⟨rfl,rfl⟩:=h;exact wp_skip (hQ a w hI)
 | exit id=>
  intro st st' out Q a w h hI hQ;simp only[exec,fi,nh] at h;obtain ⟨rfl,rfl⟩:=h;exact wp_exit (hQ a w hI)
 | ret=>
  intro st st' out Q a w h hI hQ;simp only[exec,fi,nh] at h;obtain ⟨rfl,rfl⟩:=h;exact wp_ret (hQ a w hI)
 | region id ops draw=>
  intro st st' out Q a w h hI hQ;simp only[exec] at h;obtain ⟨kz,h1,h2⟩:=bind_some h;simp only[fi,nh] at h2;obtain ⟨rfl,rfl⟩:=h2;obtain ⟨I,β,S,hA,hE⟩:=hI;refine ams (hC.here f id) (hP.here f id) nA h1 S hA fun a' w' I' β' k1 k2 k3=> ?_;obtain ⟨I2,cM,l1,l2,l3⟩:=aa6 (m:=m) (pur:=A.pur f id) k2 k3;have hE2:=(hE.trans k1.Cx).trans l1.Cx;exact hQ a' w' (Inv.canon ⟨I2,cM,l2,l3,hE2⟩ hm mu)
 | seq x y jD jE=>
  intro st st' out Q a w h hI hQ;simp only[exec] at h;obtain ⟨⟨o1,kz⟩,h1,h2⟩:=bind_some h;refine wp_seq (jD h1 hI fun a' w' gL=> ?_);cases o1 with
  | norm=>exact jE h2 gL hQ
  | exit id=>
   simp only[fi,nh] at h2;obtain ⟨rfl,rfl⟩:=h2;exact hQ a' w' gL
  | ret=>
   simp only[fi,nh] at h2;obtain ⟨rfl,rfl⟩:=h2;exact hQ a' w' gL
 | cond c x y jD jE=>
  intro st st' out Q a w h hI hQ;cases c with
  | tmp t=>
   have go: ∀{st st':St} {out:Out} {Q:Exit→Act→World→Prop} {a:Act} {w:World},(match st.sl t with
     | .bool b=>(bif b then exec P A C f n m x st else exec P A C f n m y st).bind fun r=>
      match r.1 with
      | .norm=>some (.norm,AM.canon m (A.join f t) r.2)
      | _=>some r
     | _=>none)=some (out,st')→Inv P A.idle A.aE B M w0 μ hp0 n a w st→(∀a' w',Inv P A.idle A.aE B M w0 μ hp0 n a' w' st'→Q (CJ out) a' w')→(Code.cond (.tmp t) x y).wp P Q a w:=by
    intro st st' out Q a w h hI hQ;cases hs:st.sl t<;>rw[hs] at h<;>simp only at h<;>first|(cases h;done)|skip
    rename_i b;obtain ⟨⟨o1,kz⟩,h1,h2⟩:=bind_some h;obtain ⟨I,β,S,hA,hE⟩:=hI;have gW:a.eval (.tmp t)= .bool b:=by
     have:=aaH hA hs;simp[Act.eval,this]
    have fin: ∀a' w',Inv P A.idle A.aE B M w0 μ hp0 n a' w' kz→Q (CJ o1) a' w':=by
     intro a' w' gL;cases o1 with
     | norm=>
      simp only[fi,nh] at h2;obtain ⟨rfl,rfl⟩:=h2;exact hQ a' w' (gL.canon hm mu)
     | exit id=>
      simp only[fi,nh] at h2;obtain ⟨rfl,rfl⟩:=h2;exact hQ a' w' gL
     | ret=>
      simp only[fi,nh] at h2;obtain ⟨rfl,rfl⟩:=h2;exact hQ a' w' gL
    refine wp_cond gW ?_;cases b with
    | true=>exact jD h1 ⟨I,β,S,hA,hE⟩ fin
    | false=>exact jE h1 ⟨I,β,S,hA,hE⟩ fin
   simp only[exec] at h;split at h
   ·exact go h hI hQ
   ·obtain ⟨ds,h1,h2⟩:=bind_some h;obtain ⟨e,h3,h4⟩:=bind_some h2;obtain ⟨⟨o1,s1⟩,h5,h6⟩:=bind_some h3;obtain ⟨rfl,S',k1,rfl⟩:=R5 h6 h4;exact go h5 (hI.reshape h1 hm) fun a' w' gL=>hQ a' w' (gL.reshape k1 hm)
  | const v=>
   cases v with
   | bool b=>
    simp only[exec] at h;refine wp_cond (t:=b) rfl ?_;cases b with
    | true=>exact jD h hI hQ
    | false=>exact jE h hI hQ
   | _=>simp only[exec] at h;cases h
  | _=>simp only[exec] at h;cases h
 | block id c ih=>
  intro st st' out Q a w h hI hQ;simp only[exec] at h;obtain ⟨⟨o1,kz⟩,h1,h2⟩:=bind_some h;refine wp_block (ih h1 hI fun a' w' gL=> ?_);cases o1 with
  | norm=>
   simp only[fi,nh] at h2;obtain ⟨rfl,rfl⟩:=h2;exact hQ a' w' (gL.canon hm mu)
  | exit aq=>
   simp only at h2;cases hb:Nat.beq aq id with
   | true=>
    rw[hb] at h2;simp only[cond_true,fi,nh] at h2;obtain ⟨rfl,rfl⟩:=h2;rw[aM] at hb;simp only[CJ,Exit.inBlock,hb,o0];exact hQ a' w' (gL.canon hm mu)
   | false=>
    rw[hb] at h2;simp only[cond_false,fi,nh] at h2;obtain ⟨rfl,rfl⟩:=h2;have bq:aq≠id:=fun e=>by rw[e,nX] at hb;cases hb
    simp only[CJ,Exit.inBlock,bq,qb];exact hQ a' w' gL
  | ret=>
   simp only[fi,nh] at h2;obtain ⟨rfl,rfl⟩:=h2;exact hQ a' w' gL
 | loop c ih=>
  intro st st' out Q a w h hI hQ;simp only[exec] at h;split at h
  ·cases h
  ·rename_i S hS;obtain ⟨ds,h1,h2⟩:=bind_some h;obtain ⟨e,h3,h4⟩:=bind_some h2;obtain ⟨k,hk⟩:=Bb h3;refine amE (J:=fun k a w=> ∃ds,Inv P A.idle A.aE B M w0 μ hp0 n a w (bQ S.1 ds)∧ij (fun ds=>pg m S.1 S.2 (exec P A C f n m c (bQ S.1 ds))) k ds=some e) (fun a w ⟨s,_,h⟩=>by cases h) (fun k a w ⟨ds,hs,hk⟩=> ?_) ⟨ds,hI.reshape h1 hm,hk⟩;simp only[ij] at hk;obtain ⟨y,h5,h6⟩:=bind_some hk;unfold pg at h5;obtain ⟨⟨o1,s1⟩,h7,h8⟩:=bind_some h5;refine ih h7 hs fun a' w' gL=> ?_;have abm: ∀{e':Nat×List V},ways m 0 S.2 (o1,s1)=some e'→e'=e→Q (CJ o1) a' w':=by
    intro e' q1 q2;subst q2;obtain ⟨rfl,S',k1,rfl⟩:=R5 q1 h4;exact hQ a' w' (gL.reshape k1 hm)
   cases o1 with
   | norm=>
    obtain ⟨ds2,q1,q2⟩:=bind_some h8;cases q2;exact ⟨ds2,gL.reshape q1 hm,h6⟩
   | exit id=>
    obtain ⟨e',q1,q2⟩:=bind_some h8;cases q2;cases h6;exact abm q1 rfl
   | ret=>
    obtain ⟨e',q1,q2⟩:=bind_some h8;cases q2;cases h6;exact abm q1 rfl
 | _=>intro st st' out Q a w h;simp only[exec] at h;cases h
end
section
variable {P:Program} {A:dw} {w w':World} {I I' I2:Nat→Nat→Prop} {μ β β' cM:Nat→Option Nat} {hp hp' hp0:Nat→Option ah} {C:af} {B:Nat} {M:Nat→Prop} {w0:Start}
theorem Mi (S:aC P w I β hp B M w0) {a:Act} {st:St} (hs:n8 P w I β hp a st.sl): ∀{l:List ResultVar} {xs:List V} {rd:List Nat},(yo P st l).run C hp=some (xs,rd)→
  ∃vs:List Value,(l.mapM fun| .tmp t=>Pure.pure (a.tmps.getD t undef)| .cell x t=>do loadVar t (←asAddr (a.tmps.getD x undef)):Sem (List Value)).run P w= .ok vs w∧vs.length=xs.length∧l.length=xs.length∧
   ∀(j:Nat) v x,vs[j]? =some v→xs[j]? =some x→aj P w I β hp v x
 | [],xs,rd,h=>by
  cases h;simp_all
 | .tmp t::l,xs,rd,h=>by
  simp only[yo] at h;obtain ⟨ys,l1,l2,h1,h2⟩:=oa h;have h3:=Ps h2;subst h3;obtain ⟨vs,a1,a2,a3,a4⟩:=Mi S hs h1;refine ⟨a.tmps.getD t undef::vs,by simp_all,by simp[a2],by simp[a3],fun j v x hj hx=> ?_⟩;cases j with
  | zero=>simp at hj hx;subst hj;subst hx;have:=hs t;simp_all
  | succ j=>grind
 | .cell y t::l,xs,rd,h=>by
  simp only[yo] at h;obtain ⟨r,l1,l2,h1,h2⟩:=oa h;obtain ⟨ys,l3,l4,h3,h4⟩:=oa h2;have h5:=Ps h4;subst h5;obtain ⟨v0,b1,b2,b3,ad,b4⟩:=Xu S (hs y) h1;obtain ⟨vs,a1,a2,a3,a4⟩:=Mi S hs h3;refine ⟨v0::vs,?_,by simp[a2],by simp[a3],fun j v x hj hx=> ?_⟩
  ·have e1:(do loadVar t (←asAddr (a.tmps.getD y undef)):Sem Value).run P w= .ok v0 w:=by
    rw[b4] at b1⊢;simpa[Instr.loadAt,Instr.sureAddr,asAddr] using b1
   simp only[List.mapM_cons,Sem.run_bind,e1,Result.andThen_ok,a1,Sem.run_pure]
  grind
def zz:List Value→Value
 | [v]=>v
 | l=> .tuple l.toArray
theorem amH {vs:List Value} (h:vs.length≠1):zz vs= .tuple vs.toArray:=by
 match vs,h with
 | [],_=>rfl
 | [v],h=>simp at h
 | v::v2::l,_=>rfl
theorem amI {fn:Func} {a:Act} {st:St} (S:aC P w I β st.hp B M w0) (hs:n8 P w I β st.hp a st.sl) {xs:List V} {rd:List Nat} (h:(yo P st fn.results.toList).run C st.hp=some (xs,rd)):
  ∃vs:List Value,(results fn a.tmps).run P w= .ok (zz vs) w∧vs.length=xs.length∧
   ∀(j:Nat) v x,vs[j]? =some v→xs[j]? =some x→aj P w I β st.hp v x:=by
 obtain ⟨vs,a1,a2,_,a4⟩:=Mi S hs h;refine ⟨vs,?_,a2,a4⟩;unfold results;rw[Array.mapM_eq_mapM_toList];simp only[map_eq_pure_bind,bind_assoc,pure_bind,Sem.run_bind];refine (congrArg (fun r:Result (List Value)=>r.andThen _) a1).trans ?_;simp only[Result.andThen_ok,Sem.run_pure]
 match vs with
 | []=>simp[zz]
 | [v]=>simp[zz]
 | v::v2::l=>simp[zz]
theorem abn: ∀{args:List V} {i k:Nat},fM (rj i args) k=if i≤k then args[k-i]? else none
 | [],i,k=>by simp[rj,fM]
 | v::vs,i,k=>by
  simp only[rj,fM];cases hb:Nat.beq k i with
  | true=>
   simp_all
  | false=>
   have bq:k≠i:=fun e=>by simp_all
   simp only[cond_false,abn];grind
theorem R6: ∀{l:List (Nat×VS)} {ds:List V} {i k:Nat},lz i l=true→fM (ja l ds) k=if i≤k then (jB (l.map (·.2)) ds)[k-i]? else none
 | [],ds,i,k,_=>by simp[ja,jB,fM]
 | (q,s)::l,ds,i,k,h=>by
  simp only[lz,aK,aM] at h;obtain ⟨rfl,h⟩:=h;simp only[ja,fM,lu,jB];cases hb:Nat.beq k q with
  | true=>
   simp_all
  | false=>
   have bq:k≠q:=fun e=>by simp_all
   simp only[cond_false];rw[R6 h];grind
theorem abo: ∀{l:List (Nat×VS)} {ds:List V},(ja l ds).map (·.2)=jB (l.map (·.2)) ds
 | [],_=>rfl
 | (q,s)::l,ds=>by simp only[ja,lu,jB,abo]
theorem R7: ∀{l:List VS} {ds:List V},(jB l ds).length=l.length
 | [],_=>rfl
 | s::l,ds=>by simp only[jB,List.length_cons,R7]
theorem abp: ∀{l:List (Nat×VS)} {ds:List V},(ja l ds).length=l.length
 | [],_=>rfl
 | (q,s)::l,ds=>by simp only[ja,List.length_cons,abp]
theorem amJ {vals:List Value} {l:List (Nat×V)} (hl:vals.length=l.length) (h: ∀(j:Nat) v y,vals[j]? =some v→(l.map (·.2))[j]? =some y→aj P w I β hp v y):aj P w I β hp (zz vals) (tw l):=by
 match l,hl,h with
 | [],hl,h=>
  obtain rfl:vals=[]:=oZ hl;exact .bf rfl fun j v x _ hx=>by simp at hx
 | [(k,y)],hl,h=>
  match vals,hl,h with
  | [v],_,h=>exact h 0 v y rfl rfl
 | a::b::l,hl,h=>
  have bq:vals.length≠1:=by grind
  rw[amH bq];simp only[tw];exact .bf (by simp[hl]) fun j v y hj hy=>h j v y (by grind) hy
theorem amK {l:List BS} {ds:List V} {j:Nat} {e:TypeId} {es:List V} {vers:List Nat} (h:(im l ds)[j]? =some (.nest e es vers)) (k:Nat):bB vers k=0:=by
 obtain ⟨b,kG,_,h2⟩:=LZ h;cases b<;>simp only[iO] at h2<;>cases h2
 match k with
 | 0=>rfl
 | 1=>rfl
 | 2=>rfl
 | _+3=>rfl
theorem amL {f n m:Nat} {fn:Func} {a:Act} {st:St} {es:List V} {rd:List Nat} (hm: ∀id blk,hp0 id=some blk→id<m) (mu:zy hp0)
  (hI:Inv P A.idle A.aE B M w0 μ hp0 n a w st) (ud:lz 0 (A.iY f).cx=true) (bd:(A.iY f).cx.length=fn.results.size) (h:(yp P A f fn m st).run C st.hp=some (es,rd)):
  ∃v I2 cM,(results fn a.tmps).run P w= .ok v w∧aC P w I2 cM (bQ (A.so f es) (A.lv f es)).hp B M w0∧oN w0.w w0.I μ hp0 w I2 cM (bQ (A.so f es) (A.lv f es)).hp∧aj P w I2 cM (bQ (A.so f es) (A.lv f es)).hp v (tw (ja (A.so f es).cx (A.lv f es))):=by
 unfold yp at h;obtain ⟨xs,l1,l2,h1,h2⟩:=oa h;obtain ⟨I,β,S,hA,hE⟩:=hI;obtain ⟨vals,e1,e2,e3⟩:=amI S hA.sl h1;have e4:fn.results.size=xs.length:=by
  obtain ⟨_,_,_,q,_⟩:=Mi S hA.sl h1;omega
 have fin: ∀(Sx:Shape) (es:List V),lz 0 Sx.cx=true→Sx.cx.length=fn.results.size→mb m Sx (canon m (List.range xs.length++A.live f 9999) (freeze m (A.yi f) ⟨mG (rj 0 xs),st.hp,st.nb⟩))=some es→
   ∃v I2 cM,(results fn a.tmps).run P w= .ok v w∧aC P w I2 cM (bQ Sx es).hp B M w0∧oN w0.w w0.I μ hp0 w I2 cM (bQ Sx es).hp∧aj P w I2 cM (bQ Sx es).hp v (tw (ja Sx.cx es)):=by
  intro Sx es ud bd CK;have hA0:iU P A.idle A.aE w I β vals.length ⟨vals.toArray,[]⟩ ⟨mG (rj 0 xs),st.hp,st.nb⟩:=by
   refine ⟨fun k=> ?_,by simp,by simp,hA.aE⟩;change aj P w I β st.hp _ (mG (rj 0 xs) k);unfold mG;rw[abn];simp only[ma,o0,Nat.sub_zero];cases hk:xs[k]? with
   | none=>exact .undef
   | some x=>
    have tQ:k<vals.length:=by grind
    have:=e3 k vals[k] x (b7 tQ) hk;have e5:(vals.toArray).getD k undef=vals[k]:=by simp[tQ]
    grind
  obtain ⟨I2,cM,k1,k2,k3⟩:=aa6 (st:=⟨mG (rj 0 xs),st.hp,st.nb⟩) (m:=m) (pur:=A.yi f) S hA0;have hI2:Inv P A.idle A.aE B M w0 μ hp0 vals.length ⟨vals.toArray,[]⟩ w (freeze m (A.yi f) ⟨mG (rj 0 xs),st.hp,st.nb⟩):=⟨I2,cM,k2,k3,hE.trans k1.Cx⟩
  obtain ⟨I3,β3,q1,q2,q3⟩:=(hI2.canon (live:=List.range xs.length++A.live f 9999) hm mu).reshape CK hm;refine ⟨zz vals,I3,β3,e1,q1,q3,amJ (by rw[abp,bd,e4,e2]) fun j v y hj hy=> ?_⟩;have hv:=q2.sl j;have dr:=(cC.1 hj).1;have e5:(vals.toArray).getD j undef=v:=by
   simp_all
  change aj P w I3 β3 _ ((vals.toArray).getD j undef) (mG (ja Sx.cx _) j) at hv;rw[e5] at hv;unfold mG at hv;rw[R6 ud] at hv;simp only[ma,o0,Nat.sub_zero] at hv;rw[abo] at hy;grind
 unfold dw.so dw.lv;cases dv:A.alt f with
 | none=>
  rw[dv] at h2;simp only at h2⊢;split at h2
  ·rename_i kG CK;have:=aN h2;grind
  ·cases h2
 | some S2=>
  rw[dv] at h2;simp only at h2⊢;split at h2
  ·rename_i kG CK;have:=aN h2;subst this;exact fin _ _ ud bd CK
  ·split at h2
   ·rename_i kG CK;obtain ⟨hc,h3⟩:=aD h2;simp only[aK,aM] at hc;have:=aN h3;subst this;exact fin _ _ hc.1 hc.2 CK
   ·cases h2
theorem amM (hC:oO P A C) (hP:lf P A) (nA:P.follows .mixedOrders=true):oO P A (sg P A C):=by
 intro f ds es h;unfold sg at h;cases hf:P.funcs[A.jT f]? with
 | none=>grind
 | some fn=>
  rw[hf] at h;simp only at h;cases hb:fn.body with
  | none=>grind
  | some c=>
   rw[hb] at h;simp only at h;cases hc:(lz 0 (A.sin f).cx&&(Nat.ble (A.sin f).cx.length fn.ntmps&&((A.sin f).ok&&(lz 0 (A.iY f).cx&&(Nat.beq (A.iY f).cx.length fn.results.size&&se (qg (A.sin f).c7.length (A.mv f))))))) with
   | false=>grind
   | true=>
    rw[hc] at h;simp only[cond_true] at h;simp only[aK,aM,gb] at hc;obtain ⟨jf,hnt,_,tW,bd,oo⟩:=hc;obtain ⟨⟨out,st'⟩,h1,h2⟩:=bind_some h;refine ⟨fn,c,rfl,hb,fun w I μ vals hH Qy hl hv=> ?_⟩;have amN:(∀id,out≠ .exit id)∧∃rd,(yp P A f fn (A.sin f).c7.length st').run C st'.hp=some (es,rd):=by
     cases out with
     | exit id=>cases h2
     | norm=>
      simp_all
     | ret=>
      simp_all
    obtain ⟨bq,rd,RC⟩:=amN;refine calls_of_wp_defers hf hb ?_;have hm: ∀id blk,(bQ (A.sin f) ds).hp id=some blk→id<(A.sin f).c7.length:=by
     intro id blk ae;simp only[bQ,mk,ld] at ae;have:=(cC.1 ae).1;rwa [Mh] at this
    have mu:zy (bQ (A.sin f) ds).hp:=by
     intro id e es vers ae k;simp only[bQ,mk,ld] at ae;rcases ae with ae|⟨i,ae⟩
     ·exact amK ae k
     ·obtain ⟨b,_,_,h⟩:=LZ ae;cases b<;>cases h
    refine amG (w0:=⟨w,I⟩) (μ:=μ) (hp0:=(bQ (A.sin f) ds).hp) (B:=w.heap.size) (M:=sQ P w μ (bQ (A.sin f) ds).hp) hC hP nA hm mu c h1 ?_ ?_
    ·refine Inv.enter oo ?_ hm mu fun p hp=>by
      simp only[bQ,mk,ld];rw[List.getElem?_eq_none_iff,Mh];exact hp
     refine ⟨I,μ,⟨hH,fun _ _ _=>rfl,az _,fun b j h=> .inl h,⟨rfl,rfl⟩⟩,⟨fun k=> ?_,?_,by simp,Qy⟩,(Le.refl (P:=P) w I μ _).Cx⟩
     ·change aj P w I μ _ _ (mG (ja (A.sin f).cx ds) k);unfold mG;rw[R6 jf];simp only[ma,o0,Nat.sub_zero];cases hk:(jB ((A.sin f).cx.map (·.2)) ds)[k]? with
      | none=>exact .undef
      | some x=>
       have tQ:k<vals.length:=by
        have:=(cC.1 hk).1;rw[R7,dH] at this;omega
       have:=hv k vals[k] x (b7 tQ) hk;have e1:(vals.toArray++Array.replicate (fn.ntmps-vals.toArray.size) undef).getD k undef=vals[k]:=by
        simp[Array.getElem?_append,tQ]
       grind
     grind
    ·intro a' w' hI;obtain ⟨v,I2,cM,q1,q2,q3,q4⟩:=amL hm mu hI tW bd RC;obtain ⟨_,_,_,hA,_⟩:=hI;cases out with
     | exit id=>grind
     | norm=>exact RR hP q1 ⟨v,I2,cM,rfl,q2,q3,q4⟩ _ hA.defers
     | ret=>exact RR hP q1 ⟨v,I2,cM,rfl,q2,q3,q4⟩ _ hA.defers
theorem abq (hP:lf P A) (nA:P.follows .mixedOrders=true): ∀n,oO P A (n7 P A n)
 | 0=>fun _ _ _ h=>by cases h
 | n+1=>amM (abq hP nA n) hP nA
theorem amO (hP:lf P A) (nA:P.follows .mixedOrders=true):oO P A (Call P A):=by
 intro f ds es h;have hn: ∃n,n7 P A n f ds=some es:=by
  unfold Call at h;split at h
  all_goals grind
 obtain ⟨n,hn⟩:=hn;exact abq hP nA n f ds es hn
end
section
variable {P:Program} {A:dw} {C:af} {D:Nat→af}
def GN (C:af) (D:Nat→af):Prop:= ∀f a r,C f a=some r→∃n,∀k,n≤k→D k f a=some r
theorem uh {α:Type} (h:GN C D) {hp:Nat→Option ah}: ∀{p:Rd α} {r:α×List Nat},p.run C hp=some r→∃n,∀k,n≤k→p.run (D k) hp=some r
 | .ret a,r,e=>⟨0,fun _ _=>e⟩
 | .fail,r,e=>by cases e
 | .get id q,r,e=>by
  obtain ⟨x,h1,h2⟩:=bind_some e;obtain ⟨n,hn⟩:=uh h h1;exact ⟨n,fun k hk=>by simp only[Rd.run,hn k hk,Option.bind_some];exact h2⟩
 | .opt o q,r,e=>by
  obtain ⟨x,h1,h2⟩:=bind_some e;obtain ⟨n,hn⟩:=uh h h2;exact ⟨n,fun k hk=>by simp only[Rd.run,h1,Option.bind_some];exact hn k hk⟩
 | .live id ok q,r,e=>by
  simp only[Rd.run] at e;cases hk:ok (jS (hp id)) with
  | false=>rw[hk] at e;cases e
  | true=>
   rw[hk] at e;obtain ⟨x,h1,h2⟩:=bind_some e;obtain ⟨n,hn⟩:=uh h h1;exact ⟨n,fun k CG=>by simp only[Rd.run,hk,cond_true,hn k CG,Option.bind_some];exact h2⟩
 | .aB b q,r,e=>by
  obtain ⟨h1,h2⟩:=aD e;obtain ⟨n,hn⟩:=uh h h2;exact ⟨n,fun k hk=>by simp only[Rd.run,h1,cond_true];exact hn k hk⟩
 | .call f a q,r,e=>by
  obtain ⟨x,h1,h2⟩:=bind_some e;obtain ⟨n1,jf⟩:=h f a x h1;obtain ⟨n2,tW⟩:=uh h h2;exact ⟨max n1 n2,fun k hk=>by simp only[Rd.run,jf k (by omega),Option.bind_some];exact tW k (by omega)⟩
 | .alt true x y,r,e=>uh (p:=x) h e
 | .alt false x y,r,e=>uh (p:=y) h e
theorem amP (h:GN C D) {n i nb:Nat} {ops:Array Oper} {o:Oper} {st:St} {r:St×List Nat×List Nat} (e:kL P A C n ops i o nb st=some r): ∃N,∀k,N≤k→kL P A (D k) n ops i o nb st=some r:=by
 unfold kL at e;have go:(((jk P A st.sl i (nb+64*i) o).run C st.hp).bind fun r=>some ((⟨ly st.sl o.dst r.1.v,cf st.hp r.1.upd,st.nb⟩:St),uZ r.2 r.1.upd,jC st.hp r.1.upd))=some r→
   ∃N,∀k,N≤k→(((jk P A st.sl i (nb+64*i) o).run (D k) st.hp).bind fun r=>some ((⟨ly st.sl o.dst r.1.v,cf st.hp r.1.upd,st.nb⟩:St),uZ r.2 r.1.upd,jC st.hp r.1.upd))=some r:=by
  intro e;obtain ⟨x,h1,h2⟩:=bind_some e;obtain ⟨N,hN⟩:=uh h h1;exact ⟨N,fun k hk=>by rw[hN k hk];exact h2⟩
 unfold kL;cases hd:wU o n with
 | false=>rw[hd] at e;cases e
 | true=>
  rw[hd] at e;simp only[cond_true] at e⊢;cases hg:o.guard with
  | none=>rw[hg] at e;exact go e
  | some gw=>
   obtain ⟨g,want⟩:=gw;rw[hg] at e;simp only at e⊢;cases pO:(ops[g]?).bind (·.dst) with
   | none=>rw[pO] at e;cases e
   | some d=>
    rw[pO] at e;simp only at e⊢;cases qD:o7 (st.sl d) with
    | none=>rw[qD] at e;cases e
    | some ob=>
    rw[qD] at e;cases ob with
    | none=>exact ⟨0,fun _ _=>e⟩
    | some b=>
    simp only at e⊢;cases hb:b==want with
    | true=>rw[hb] at e;exact go e
    | false=>rw[hb] at e;exact ⟨0,fun _ _=>e⟩
theorem abr (h:GN C D) {n nb:Nat} {ops:Array Oper}: ∀{l:List (Nat×Oper)} {st:St} {log:Log} {r:St×Log},tx P A C n ops nb l st log=some r→∃N,∀k,N≤k→tx P A (D k) n ops nb l st log=some r
 | [],st,log,r,e=>⟨0,fun _ _=>e⟩
 | (i,o)::l,st,log,r,e=>by
  obtain ⟨x,h1,h2⟩:=bind_some e;obtain ⟨N1,sS⟩:=amP h h1;obtain ⟨N2,vP⟩:=abr h h2;exact ⟨max N1 N2,fun k hk=>by simp only[tx,sS k (by omega),Option.bind_some];exact vP k (by omega)⟩
theorem abt {X R:Type} {step:X→Option (X ⊕ R)} {stepD:Nat→X→Option (X ⊕ R)} (hs: ∀x y,step x=some y→∃N,∀k,N≤k→stepD k x=some y): ∀(n:Nat) (x:X) (r:R),ij step n x=some r→∃N,∀k,N≤k→ij (stepD k) n x=some r
 | 0,x,r,e=>by cases e
 | n+1,x,r,e=>by
  simp only[ij] at e⊢;obtain ⟨y,h1,h2⟩:=bind_some e;obtain ⟨N1,sS⟩:=hs x y h1;cases y with
  | inl z=>
   obtain ⟨N2,vP⟩:=abt hs n z r h2;exact ⟨max N1 N2,fun k hk=>by rw[sS k (by omega)];exact vP k (by omega)⟩
  | inr q=>exact ⟨N1,fun k hk=>by rw[sS k hk];exact h2⟩
theorem amQ (h:GN C D) {f n m:Nat}: ∀(c:Code) {st:St} {r:Out×St},exec P A C f n m c st=some r→∃N,∀k,N≤k→exec P A (D k) f n m c st=some r:=by
 intro c
 induction c with
 | skip=>exact fun e=>⟨0,fun _ _=>e⟩
 | exit id=>exact fun e=>⟨0,fun _ _=>e⟩
 | ret=>exact fun e=>⟨0,fun _ _=>e⟩
 | region id ops draw=>
  intro st r e;simp only[exec] at e⊢;obtain ⟨x,h1,h2⟩:=bind_some e;obtain ⟨y,h3,h4⟩:=bind_some h1;obtain ⟨N,hN⟩:=abr h h3;refine ⟨N,fun k hk=> ?_⟩;have:Bq P (A.here f id) (D k) n ops draw st=some x:=by
   unfold Bq;rw[hN k hk];exact h4
  rw[this];exact h2
 | seq x y jD jE=>
  intro st r e;simp only[exec] at e⊢;obtain ⟨⟨o,s1⟩,h1,h2⟩:=bind_some e;obtain ⟨N1,sS⟩:=jD h1;cases o with
  | norm=>
   obtain ⟨N2,vP⟩:=jE h2;exact ⟨max N1 N2,fun k hk=>by rw[sS k (by omega)];exact vP k (by omega)⟩
  | exit id=>exact ⟨N1,fun k hk=>by rw[sS k hk];exact h2⟩
  | ret=>exact ⟨N1,fun k hk=>by rw[sS k hk];exact h2⟩
 | cond c x y jD jE=>
  intro st r e;cases c with
  | tmp t=>
   have go: ∀{st:St} {r:Out×St},(match st.sl t with
     | .bool b=>(bif b then exec P A C f n m x st else exec P A C f n m y st).bind fun r=>
      match r.1 with
      | .norm=>some (.norm,canon m (A.join f t) r.2)
      | _=>some r
     | _=>none)=some r→∃N,∀k,N≤k→(match st.sl t with
     | .bool b=>(bif b then exec P A (D k) f n m x st else exec P A (D k) f n m y st).bind fun r=>
      match r.1 with
      | .norm=>some (.norm,canon m (A.join f t) r.2)
      | _=>some r
     | _=>none)=some r:=by
    intro st r e;cases hs:st.sl t<;>rw[hs] at e<;>simp only at e⊢ <;>first|(cases e;done)|skip
    rename_i b;obtain ⟨x1,h1,h2⟩:=bind_some e;cases b with
    | true=>
     obtain ⟨N,hN⟩:=jD h1;exact ⟨N,fun k hk=>by simp only[cond_true,hN k hk,Option.bind_some];exact h2⟩
    | false=>
     obtain ⟨N,hN⟩:=jE h1;exact ⟨N,fun k hk=>by simp only[cond_false,hN k hk,Option.bind_some];exact h2⟩
   simp only[exec] at e⊢;split at e
   ·rename_i hS;obtain ⟨N,hN⟩:=go e;exact ⟨N,fun k hk=>hN k hk⟩
   ·rename_i S hS;obtain ⟨ds,h1,h2⟩:=bind_some e;obtain ⟨e',h3,h4⟩:=bind_some h2;obtain ⟨r1,h5,h6⟩:=bind_some h3;obtain ⟨N,hN⟩:=go h5;refine ⟨N,fun k hk=> ?_⟩
    try rw[hS]
    simp only[h1,Option.bind_some];exact (congrArg (fun z:Option (Out×St)=>(z.bind fun r=>ways m 0 S.2 r).bind fun e=>n0 0 S.2 e.1 e.2 fun o st=>some (o,st)) (hN k hk)).trans (by simp only[Option.bind_some,h6];exact h4)
  | const v=>
   cases v with
   | bool b=>
    simp only[exec] at e⊢;cases b with
    | true=>exact jD e
    | false=>exact jE e
   | _=>simp only[exec] at e;cases e
  | _=>simp only[exec] at e;cases e
 | block id c ih=>
  intro st r e;simp only[exec] at e⊢;obtain ⟨x1,h1,h2⟩:=bind_some e;obtain ⟨N,hN⟩:=ih h1;exact ⟨N,fun k hk=>by rw[hN k hk];exact h2⟩
 | loop c ih=>
  intro st r e;simp only[exec] at e⊢;split at e
  ·cases e
  ·rename_i S hS;obtain ⟨ds,h1,h2⟩:=bind_some e;obtain ⟨e',h3,h4⟩:=bind_some h2;obtain ⟨q,hq⟩:=Bb h3;obtain ⟨N,hN⟩:=abt (stepD:=fun k ds=>pg m S.1 S.2 (exec P A (D k) f n m c (bQ S.1 ds))) (fun x y GO=>by
    unfold pg at GO⊢;obtain ⟨z,h5,h6⟩:=bind_some GO;obtain ⟨N,hN⟩:=ih h5;exact ⟨N,fun k hk=>by rw[hN k hk];exact h6⟩) q ds e' hq
   refine ⟨N,fun k hk=> ?_⟩
   try rw[hS]
   simp only[h1,Option.bind_some];rw[Ba (hN k hk)];exact h4
 | _=>intro st r e;simp only[exec] at e;cases e
theorem Mj (h:GN C D) {f:Nat} {ds es:List V} (e:sg P A C f ds=some es): ∃N,∀k,N≤k→sg P A (D k) f ds=some es:=by
 unfold sg at e⊢;cases hf:P.funcs[A.jT f]? with
 | none=>rw[hf] at e;cases e
 | some fn=>
  rw[hf] at e;simp only at e⊢;cases hb:fn.body with
  | none=>rw[hb] at e;cases e
  | some c=>
   rw[hb] at e;simp only at e⊢;cases hc:(lz 0 (A.sin f).cx&&(Nat.ble (A.sin f).cx.length fn.ntmps&&((A.sin f).ok&&(lz 0 (A.iY f).cx&&(Nat.beq (A.iY f).cx.length fn.results.size&&se (qg (A.sin f).c7.length (A.mv f))))))) with
   | false=>rw[hc] at e;cases e
   | true=>
    rw[hc] at e;simp only[cond_true] at e⊢;obtain ⟨⟨o,s1⟩,h1,h2⟩:=bind_some e;obtain ⟨N1,sS⟩:=amQ h c h1;cases o with
    | exit id=>cases h2
    | norm=>
     simp only[Option.map_eq_some_iff] at h2;obtain ⟨x,e1,e2⟩:=h2;obtain ⟨N2,vP⟩:=uh h e1;exact ⟨max N1 N2,fun k hk=>by rw[sS k (by omega)];simp only[Option.bind_some,vP k (by omega),Option.map_some,e2]⟩
    | ret=>
     simp only[Option.map_eq_some_iff] at h2;obtain ⟨x,e1,e2⟩:=h2;obtain ⟨N2,vP⟩:=uh h e1;exact ⟨max N1 N2,fun k hk=>by rw[sS k (by omega)];simp only[Option.bind_some,vP k (by omega),Option.map_some,e2]⟩
theorem abu: ∀n f a r,n7 P A n f a=some r→n7 P A (n+1) f a=some r
 | 0,f,a,r,h=>by cases h
 | n+1,f,a,r,h=>by
  obtain ⟨N,hN⟩:=Mj (C:=n7 P A n) (D:=fun _=>n7 P A (n+1)) (fun f a r h=>⟨0,fun _ _=>abu n f a r h⟩) h;exact hN N (az _)
theorem R8 {n k:Nat} (hk:n≤k) {f:Nat} {a r:List V} (h:n7 P A n f a=some r):n7 P A k f a=some r:=by
 induction hk with
 | refl=>exact h
 | step _ ih=>exact abu _ _ _ _ ih
theorem GP {f:Nat} {a r:List V}:Call P A f a=some r↔∃n,n7 P A n f a=some r:=by
 constructor
 ·intro h;unfold Call at h;split at h
  ·rename_i hex;have:=hex.choose_spec.choose_spec;rw[dU h] at this;exact ⟨_,this⟩
  ·cases h
 ·rintro ⟨n,hn⟩;have hex: ∃n r,n7 P A n f a=some r:=⟨n,r,hn⟩
  unfold Call;rw[wv hex];have h2:=hex.choose_spec.choose_spec;have h3:=R8 (Nat.le_max_left n hex.choose) hn;have h4:=R8 (Nat.le_max_right n hex.choose) h2;rw[h3] at h4;exact h4.symm
theorem amR (f:Nat) (a:List V):Call P A f a=sg P A (Call P A) f a:=by
 apply Option.ext;intro r;constructor
 ·intro h;obtain ⟨n,hn⟩:=GP.1 h;cases n with
  | zero=>cases hn
  | succ n=>
   obtain ⟨N,hN⟩:=Mj (C:=n7 P A n) (D:=fun _=>Call P A) (fun f a r h=>⟨0,fun _ _=>GP.2 ⟨n,h⟩⟩) hn;exact hN N (az _)
 ·intro h;obtain ⟨N,hN⟩:=Mj (C:=Call P A) (D:=n7 P A) (fun f a r h=>by
   obtain ⟨n,hn⟩:=GP.1 h;exact ⟨n,fun k hk=>R8 hk hn⟩) h
  exact GP.2 ⟨N+1,hN N (az _)⟩
end
end Go.AM
namespace Go.AM
open Go.IntKind (wrap)
open Go.ChangeShapes Go.WideShapes Go.RowKit
section
variable (P:Program)
inductive WT:TypeId→V→Prop
 | int {t:TypeId} {k:IntKind} {n:Int}:P.underlying t=some (.int k)→(Lit.int k n).wf=true→WT t (.int k n)
 | bool {t:TypeId} {b:Bool}:P.underlying t=some .bool→WT t (.bool b)
 | str {t:TypeId} {l:List UInt8}:P.underlying t=some .string→l.length≤maxLen→WT t (.str l)
 | list {t e:TypeId} {es:List V}:P.underlying t=some (.slice e)→es.length≤maxLen→
   (∀(i:Nat) x,es[i]? =some x→b8 P e=true→∃xs,x= .agg xs∧xs.length=(aX P e).length)→
   (∀(i j:Nat) x t',es[i]? =some x→(aX P e)[j]? =some t'→WT t' (ch P e x j))→WT t (.list e es)
def nE (t:TypeId) (x:V):Prop:=
 (b8 P t=true→∃xs,x= .agg xs∧xs.length=(aX P t).length)∧∀(j:Nat) t',(aX P t)[j]? =some t'→WT P t' (ch P t x j)
def uG:List TypeId→List V→Prop
 | [],[]=>True
 | t::ts,x::xs=>nE P t x∧uG ts xs
 | _,_=>False
def hasB (L:List TypeId) (t:TypeId):Bool:=L.any fun u=>Nat.beq u t
def Mk (L:List TypeId):Nat→List Field→Bool
 | _,[]=>true
 | n,f::fs=>hasB L f.type&&(Nat.beq f.offset n&&(Nat.beq (P.cellsOf f.type) (aX P f.type).length&&Mk L (n+P.cellsOf f.type) fs))
def GQ:List Nat→List Nat→Bool
 | [],[]=>true
 | a::l,b::m=>Nat.beq a b&&GQ l m
 | _,_=>false
def R9 (L:List TypeId) (t:TypeId):Bool:=
 Nat.beq (P.cellsOf t) (aX P t).length&&
 match P.underlying t with
 | some (.int _)=>true
 | some .bool=>true
 | some .string=>true
 | some (.slice e)=>hasB L e&&c8 P e
 | some (.struct fs)=>Mk P L 0 fs.toList&&GQ (flat P t) (fs.toList.flatMap fun f=>aX P f.type)
 | some (.array n e)=>hasB L e&&(Nat.beq (P.cellsOf e) (aX P e).length&&GQ (flat P t) (List.replicate n (aX P e)).flatten)
 | _=>false
def GR (L:List TypeId):Bool:=L.all fun t=>R9 P L t
end
theorem Ml {L:List TypeId} {t:TypeId} (h:hasB L t=true):t∈L:=by
 obtain ⟨u,hu,h2⟩:=List.any_eq_true.1 h;rw[aM] at h2;exact h2▸hu
theorem Sa: ∀{l m:List Nat},GQ l m=true→l=m
 | [],[],_=>rfl
 | a::l,b::m,h=>by
  simp only[GQ,aK,aM] at h;rw[h.1,Sa h.2]
 | [],_::_,h=>by cases h
 | _::_,[],h=>by cases h
section
variable {P:Program} {H:Type} {enc:TypeId×Value→H} {w:World} {base:Nat} {spare:Nat→Bool} {held:Bool} {L:List TypeId}
def pP (w:World):Nat→Nat→Prop:=fun b _=>b<w.heap.size
def rJ (P:Program) (w:World) (ts:List TypeId) (cs:List Value) (xs:List V):Prop:=
 cs.length=ts.length∧xs.length=ts.length∧∀(j:Nat) t',ts[j]? =some t'→∃v y,cs[j]? =some v∧xs[j]? =some y∧Pure P w (pP w) t' v y∧WT P t' y
theorem rJ.app {ts tv:List TypeId} {cs lE:List Value} {xs xs':List V} (h:rJ P w ts cs xs) (h':rJ P w tv lE xs'):rJ P w (ts++tv) (cs++lE) (xs++xs'):=by
 obtain ⟨a,b,c⟩:=h;obtain ⟨a',b',c'⟩:=h';refine ⟨by simp[a,a'],by simp[b,b'],fun j t' hj=> ?_⟩;by_cases aR:j<ts.length
 ·rw[ng aR] at hj;obtain ⟨v,y,e1,e2,e3⟩:=c j t' hj;exact ⟨v,y,by rw[ng (by omega)];exact e1,by rw[ng (by omega)];exact e2,e3⟩
 ·rw[oC (by omega)] at hj;obtain ⟨v,y,e1,e2,e3⟩:=c' _ t' hj;exact ⟨v,y,by rw[oC (by omega),a];exact e1,by rw[oC (by omega),b];exact e2,e3⟩
theorem amS {w:World} {a:Addr} {v:Value} (h:w.cell? a=some v):a.spot=none∧a.block<w.heap.size:=by
 unfold World.cell? at h;split at h
 ·rename_i hh;split at h
  ·cases h
  ·rename_i hs;exact ⟨by simpa using hs,(wF.1 hh).1⟩
 all_goals (first|cases h|skip)
theorem abv {rd:TypeId→List Value→Option (DataW H×List MemPlace)} (cs:List Value)
  (ih: ∀t cs x,t∈L→rd t cs=some x→∃xs,rJ P w (aX P t) cs xs): ∀(fs:List Field) (n:Nat),Mk P L n fs=true→
  (∀f∈fs,∃x,rd f.type ((cs.drop f.offset).take (P.cellsOf f.type))=some x)→∃m xs,n≤m∧rJ P w (fs.flatMap fun f=>aX P f.type) ((cs.drop n).take (m-n)) xs∧m-n=(fs.flatMap fun f=>aX P f.type).length
 | [],n,_,_=>⟨n,[],az _,⟨by simp,rfl,by simp⟩,by simp⟩
 | f::fs,n,h,hx=>by
  simp only[Mk,aK,aM] at h;obtain ⟨h1,h2,h3,h4⟩:=h;obtain ⟨x,hxf⟩:=hx f (by simp);obtain ⟨xs,jJ⟩:=ih _ _ _ (Ml h1) hxf;obtain ⟨m,ys,hm,vQ,uf⟩:=abv cs ih fs (n+P.cellsOf f.type) h4 fun g hg=>hx g (by simp[hg]);refine ⟨m,xs++ys,by omega,?_,by simp only[A7,iA];omega⟩;have:=jJ.app vQ;rw[A7];rw[h2] at this;have e:(cs.drop n).take (m-n)=(cs.drop n).take (P.cellsOf f.type)++(cs.drop (n+P.cellsOf f.type)).take (m-(n+P.cellsOf f.type)):=by
   rw[show m-n=P.cellsOf f.type+(m-(n+P.cellsOf f.type)) by omega,List.take_add,List.drop_drop]
  rw[e];exact this
theorem abw {rd:List Value→Option (DataW H×List MemPlace)} (cs:List Value) {e:TypeId} (hs:P.cellsOf e=(aX P e).length)
  (ih: ∀cs x,rd cs=some x→∃xs,rJ P w (aX P e) cs xs): ∀(n:Nat),
  (∀i,i<n→∃x,rd ((cs.drop (i*P.cellsOf e)).take (P.cellsOf e))=some x)→∃xs,rJ P w (List.replicate n (aX P e)).flatten (cs.take (n*P.cellsOf e)) xs
 | 0,_=>⟨[],by simp,rfl,by simp⟩
 | n+1,hx=>by
  obtain ⟨xs,jJ⟩:=abw cs hs ih n fun i hi=>hx i (by omega);obtain ⟨x,j6⟩:=hx n (by omega);obtain ⟨ys,vQ⟩:=ih _ _ j6;refine ⟨xs++ys,?_⟩;rw[List.replicate_succ',List.flatten_append];have:=jJ.app vQ;rw[jh,Nat.one_mul,List.take_add];simpa using this
theorem Mm (hL:GR P L=true): ∀(fuel:Nat) (t:TypeId) (cs:List Value) (x:DataW H×List MemPlace),t∈L→DataW.trod enc P w base spare held fuel t cs=some x→
  ∃xs,rJ P w (aX P t) cs xs
 | 0,_,_,_,_,h=>by cases h
 | fuel+1,t,cs,x,ht,h=>by
  have hg:=ig.1 hL t ht;unfold R9 at hg;rw[aK,aM] at hg;obtain ⟨hc,hg⟩:=hg;have one:b8 P t=false→aX P t=[t]:=fun h=>by simp[aX,h]
  cases hu:P.underlying t with
  | none=>rw[hu] at hg;cases hg
  | some d=>
   rw[hu] at hg;cases d with
   | int k=>
    obtain ⟨n,rfl,rfl,hwf⟩:=DataW.trod_int hu h;rw[one (by simp[b8,hu])];exact ⟨[.int k n],rfl,rfl,fun j t' hj=>by
     cases j with
     | zero=>cases hj;exact ⟨_,_,rfl,rfl,.int hu,.int hu hwf⟩
     | succ j=>simp at hj⟩
   | bool=>
    obtain ⟨b,rfl,rfl⟩:=DataW.trod_bool hu h;rw[one (by simp[b8,hu])];exact ⟨[.bool b],rfl,rfl,fun j t' hj=>by
     cases j with
     | zero=>cases hj;exact ⟨_,_,rfl,rfl,.bool hu,.bool hu⟩
     | succ j=>simp at hj⟩
   | string=>
    obtain ⟨s,rfl,rfl,hl⟩:=DataW.trod_string hu h;rw[one (by simp[b8,hu])];exact ⟨[.str s.data.toList],rfl,rfl,fun j t' hj=>by
     cases j with
     | zero=>cases hj;exact ⟨_,_,rfl,rfl,.str hu rfl,.str hu (by simpa using hl)⟩
     | succ j=>simp at hj⟩
   | slice e=>
    simp only[aK] at hg;obtain ⟨he,ao⟩:=hg;rw[one (by simp[b8,hu])];have single: ∀v y,cs=[v]→Pure P w (pP w) t v y→WT P t y→∃xs,rJ P w [t] cs xs:=by
     rintro v y rfl a b;exact ⟨[y],rfl,rfl,fun j t' hj=>by
      cases j with
      | zero=>cases hj;exact ⟨_,_,rfl,rfl,a,b⟩
      | succ j=>simp at hj⟩
    rcases DataW.trod_slice hu h with ⟨rfl,rfl⟩|⟨a,len,cap,elems,rest,n,hn,rfl,rfl,hb,hl,hm,hlen,fK,_,_⟩
    ·exact single _ _ rfl (.nil hu) (.list hu (by simp) (by simp) (by simp))
    ·cases hn;have gK:=(oF ao).2;have ZP:P.cellsOf e=(aX P e).length:=(fG ao).symm;have key: ∀i,i<len→∃lE xs,w.cells? base (a.add (i*P.cellsOf e)) (P.cellsOf e)=some lE∧rJ P w (aX P e) lE xs:=by
      intro i hi;have h1:=fK i hi;rw[b7 (by omega)] at h1;obtain ⟨lE,h2,h3⟩:=Option.bind_eq_some_iff.1 h1;obtain ⟨xs,jJ⟩:=Mm hL fuel e lE _ (Ml he) h3;exact ⟨lE,xs,h2,jJ⟩
     by_cases h0:len=0
     ·subst h0;exact single _ _ rfl (.emp hu) (.list hu (by simp) (by simp) (by simp))
     ·have sM:a.spot=none∧a.block<w.heap.size:=by
       obtain ⟨lE,xs,h2,_⟩:=key 0 (by omega);obtain ⟨_,h3,h4⟩:=World.cells?_some h2;have h5:=h4 0 gK;rw[b7 (by omega)] at h5;have:=amS h5;simpa[Addr.add] using this
      have hF: ∃(F:Nat→List Value) (X:Nat→List V),∀i,i<len→w.cells? base (a.add (i*P.cellsOf e)) (P.cellsOf e)=some (F i)∧rJ P w (aX P e) (F i) (X i):=by
       refine ⟨fun i=>if hi:i<len then (key i hi).choose else [],fun i=>if hi:i<len then (key i hi).choose_spec.choose else [],fun i hi=> ?_⟩;simp only[wv hi];exact (key i hi).choose_spec.choose_spec
      obtain ⟨F,X,Sb⟩:=hF;have hx: ∀(i j:Nat) y t',((List.range len).map fun i=>dA P e (X i))[i]? =some y→(aX P e)[j]? =some t'→i<len∧∃v,(F i)[j]? =some v∧Pure P w (pP w) t' v (ch P e y j)∧WT P t' (ch P e y j):=by
       intro i j y t' hy hj;have hi:i<len:=by
        have:=(cC.1 hy).1;simpa using this
       refine ⟨hi,?_⟩;simp[A0 hi] at hy;obtain ⟨c1,c2,c3⟩:=(Sb i hi).2;obtain ⟨v,z,d1,d2,d3,d4⟩:=c3 j t' hj;have:ch P e y j=z:=by
        rw[←hy];unfold ch dA;cases ha:b8 P e with
        | true=>
         simp only[cond_true,V.cell];rw[yE _ _ _ d2]
        | false=>
         simp only[cond_false];have:aX P e=[e]:=by simp[aX,ha]
         rw[this] at hj;cases j with
         | zero=>rw[yE _ _ _ d2]
         | succ j=>simp at hj
       rw[this];exact ⟨v,d1,d3,d4⟩
      have gJ: ∀i j,i<len→j<P.cellsOf e→w.cell? ⟨a.block,a.off+(i*P.cellsOf e+j),none⟩=some ((F i).getD j undef):=by
       intro i j hi hj;obtain ⟨h1,h2⟩:=Sb i hi;obtain ⟨_,h3,h4⟩:=World.cells?_some h1;have h5:=h4 j hj;rw[Go.Deep.add_add] at h5;have e1:a.add (i*P.cellsOf e+j)=⟨a.block,a.off+(i*P.cellsOf e+j),none⟩:=by
        obtain ⟨b,o,s⟩:=a;simp only at sM;rw[sM.1];exact od ..
       rw[e1] at h5;rw[h5,qY,b7 (by omega)];rfl
      have ha:a=⟨a.block,a.off,none⟩:=by
       obtain ⟨b,o,s⟩:=a;simp only at sM;rw[sM.1]
      refine single (.slice (some a) len cap) (.list e ((List.range len).map fun i=>dA P e (X i))) rfl ?_ ?_
      ·rw[ha];refine .list (fun i j=>(F i).getD j undef) hu (by simp) hl (fun _ _=>sM.2) gJ ?_;intro i j y t' hy hj;obtain ⟨hi,v,d1,d2,_⟩:=hx i j y t' hy hj;rw[qY,d1];exact d2
      ·refine .list hu (by simp;omega) ?_ ?_
       ·intro i y hy Mn;have hi:i<len:=by
         have:=(cC.1 hy).1;simpa using this
        simp[A0 hi] at hy;rw[←hy];exact ⟨X i,by simp[dA,Mn],(Sb i hi).2.2.1⟩
       ·intro i j y t' hy hj;obtain ⟨_,v,_,_,d3⟩:=hx i j y t' hy hj;exact d3
   | struct fs=>
    simp only[aK] at hg;obtain ⟨xs,n,hn,rfl,hlen,qA,hx⟩:=DataW.trod_struct hu h;cases hn;have het:aX P t=fs.toList.flatMap fun f=>aX P f.type:=by
     rw[←Sa hg.2];simp[aX,b8,hu]
    obtain ⟨m,ys,_,vQ,hm⟩:=abv (w:=w) (rd:=fun t cs=>DataW.trod enc P w base spare held fuel t cs) cs (fun t cs x a b=>Mm hL fuel t cs x a b) fs.toList 0 hg.1 (by
     intro f hf;obtain ⟨i,hi⟩:=tm hf;rw[rZ] at hi;have rB:i<fs.size:=(wF.1 hi).1;exact ⟨_,(hx i f hi).trans (b7 (by omega))⟩)
    rw[het];refine ⟨ys,?_⟩;have:(cs.drop 0).take (m-0)=cs:=by
     rw[wx,hm,←het,←hc,←hlen,uJ]
    rw[this] at vQ;exact vQ
   | array n e=>
    simp only[aK,aM] at hg;obtain ⟨xs,m,hn,rfl,hlen,qA,hx⟩:=DataW.trod_array hu h;cases hn;have het:aX P t=(List.replicate n (aX P e)).flatten:=by
     rw[←Sa hg.2.2];simp[aX,b8,hu]
    obtain ⟨ys,vQ⟩:=abw (w:=w) (rd:=DataW.trod enc P w base spare held fuel e) cs hg.2.1 (fun cs x b=>Mm hL fuel e cs x (Ml hg.1) b) n (by
     intro i hi;exact ⟨_,(hx i hi).trans (b7 (by omega))⟩)
    rw[het];refine ⟨ys,?_⟩;have:cs.take (n*P.cellsOf e)=cs:=by
     have:n*P.cellsOf e=cs.length:=by
      rw[hlen,hc,het,hg.2.1];simp
     rw[this,uJ]
    rw[this] at vQ;exact vQ
   | _=>cases hg
end
section
variable {P:Program} {H:Type} {enc:TypeId×Value→H} {w:World} {L:List TypeId}
theorem amT {base Sd:Nat} {spare:Nat→Bool} {held:Bool} {r:Reach} {β:Nat→Option Nat} {hp:Nat→Option ah} (hL:GR P L=true) {t:TypeId} {v:Value} {d:DataW H} {ps:List MemPlace} (ht:t∈L) (jt:Value.okWide P w r Sd t v)
  (h:DataW.Trod enc P w base spare held t v d ps): ∃x,aj P w (pP w) β hp v x∧nE P t x:=by
 obtain ⟨fuel,hf⟩:=h;obtain ⟨xs,c1,c2,c3⟩:=Mm hL fuel t _ _ ht hf;have hg:=ig.1 hL t ht;unfold R9 at hg;rw[aK,aM] at hg;obtain ⟨_,hg⟩:=hg;have Mn:b8 P t=true→∃x,aj P w (pP w) β hp v x∧nE P t x:=by
  intro ha;have hv: ∃cs,v= .agg cs:=by
   unfold Value.okWide at jt;unfold b8 at ha;grind
  obtain ⟨cs,rfl⟩:=hv;refine ⟨.agg xs,.agg (by simpa[Value.cells] using c1.trans c2.symm) fun j v x hv hx=> ?_,fun _=>⟨xs,rfl,c2⟩,fun j t' hj=> ?_⟩
  ·have hj:j<(aX P t).length:=by grind
   obtain ⟨v',y,e1,e2,e3,_⟩:=c3 j _ (b7 hj);rw[hx] at e2;cases e2;have:cs[j]? =some v':=by simpa[Value.cells] using e1
   rw[hv] at this;cases this;exact .tA e3
  ·obtain ⟨v',y,e1,e2,_,e4⟩:=c3 j t' hj;have:ch P t (.agg xs) j=y:=by
    simp only[ch,ha,cond_true,V.cell];exact yE _ _ _ e2
   grind
 have sJ:b8 P t=false→v.cells= #[v]→∃x,aj P w (pP w) β hp v x∧nE P t x:=by
  intro ha zf;have he:aX P t=[t]:=by simp[aX,ha]
  rw[he] at c1 c2 c3;obtain ⟨v',y,e1,e2,e3,e4⟩:=c3 0 t rfl;rw[zf] at e1;cases e1;refine ⟨y,.tA e3,⟨fun h=>absurd (ha.symm.trans h) (by simp),fun j t' hj=> ?_⟩⟩;rw[he] at hj;cases j with
  | succ j=>simp at hj
  | zero=>
   cases hj;simpa[ch,ha] using e4
 unfold Value.okWide at jt;cases hu:P.underlying t with
 | none=>grind
 | some dsc=>
  rw[hu] at hg jt;cases dsc with
  | int k=>
   refine sJ (by simp[b8,hu]) ?_;simp only[Cell.okWide,Cell.ok,hu] at jt;cases v<;>first|rfl|(simp at jt;done)|exact jt.elim
  | bool=>
   refine sJ (by simp[b8,hu]) ?_;simp only[Cell.okWide,Cell.ok,hu] at jt;cases v<;>first|rfl|(simp at jt;done)|exact jt.elim
  | string=>
   refine sJ (by simp[b8,hu]) ?_;simp only[Cell.okWide,Cell.ok,hu] at jt;cases v<;>first|rfl|(simp at jt;done)|exact jt.elim
  | slice e=>
   refine sJ (by simp[b8,hu]) ?_;simp only[Cell.okWide,Cell.ok,hu] at jt;cases v<;>first|rfl|(simp at jt;done)|exact jt.elim
  | struct fs=>exact Mn (by simp[b8,hu])
  | array n e=>exact Mn (by simp[b8,hu])
  | _=>cases hg
theorem abx {base Sd:Nat} {spare:Nat→Bool} {held:Bool} {r:Reach} {β:Nat→Option Nat} {hp:Nat→Option ah} (hL:GR P L=true): ∀{ts:List TypeId} {vs:List Value} {ds:List (DataW H)} {ps:List MemPlace},
  (∀t∈ts,t∈L)→(∀(j:Nat) t v,ts[j]? =some t→vs[j]? =some v→Value.okWide P w r Sd t v)→DataW.TrodAll enc P w base spare held ts vs ds ps→
  ∃xs,vs.length=xs.length∧(∀(j:Nat) v x,vs[j]? =some v→xs[j]? =some x→aj P w (pP w) β hp v x)∧uG P ts xs
 | [],vs,ds,ps,_,_,h=>by
  obtain ⟨rfl,rfl,rfl⟩:=trodAll_nil h;exact ⟨[],rfl,by simp,trivial⟩
 | t::ts,vs,ds,ps,hm,jt,h=>by
  obtain ⟨v,wW,d,ds1,a,b,rfl,rfl,rfl,h1,h2⟩:=trodAll_cons h;obtain ⟨x,j6,kZ⟩:=amT (β:=β) (hp:=hp) hL (hm t (by simp)) (jt 0 t v rfl rfl) h1;obtain ⟨xs,hl,hr,hw⟩:=abx (β:=β) (hp:=hp) hL (fun t ht=>hm t (by simp[ht])) (fun j t v a b=>jt (j+1) t v (by grind) (by grind)) h2;refine ⟨x::xs,by simp[hl],fun j v' x' hv hx=> ?_,kZ,hw⟩;grind
theorem aby {base:Nat} {spare:Nat→Bool} {held:Bool}: ∀{ts:List TypeId} {vs:List Value} {ds:List (DataW H)} {ps:List MemPlace},DataW.TrodAll enc P w base spare held ts vs ds ps→ds.length=ts.length
 | [],vs,ds,ps,h=>by obtain ⟨rfl,rfl,rfl⟩:=trodAll_nil h;rfl
 | t::ts,vs,ds,ps,h=>by
  obtain ⟨v,wW,d,ds1,a,b,rfl,rfl,rfl,h1,h2⟩:=trodAll_cons h;simp[aby h2]
theorem abz {base:Nat} (hl:laidOutB P=true) {W W':World} {sp':Nat→Bool}: ∀{ts:List TypeId} {vs:List Value} {ds:List (DataW H)} {ps:List MemPlace},(∀t∈ts,P.readableRec t=true∧t<P.types.size)→
  DataW.TrodAll enc P W base (fun _=>true) true ts vs ds ps→(∀p∈ps,W.sameAt W' p)→(∀p∈ps,sp' p.block=true)→DataW.TrodAll enc P W' base sp' true ts vs ds ps
 | [],vs,ds,ps,_,h,_,_=>by obtain ⟨rfl,rfl,rfl⟩:=trodAll_nil h;exact trodAll_mk0
 | t::ts,vs,ds,ps,hr,h,h1,h2=>by
  obtain ⟨v,wW,d,ds1,a,b,rfl,rfl,rfl,h3,h4⟩:=trodAll_cons h;obtain ⟨r1,r2⟩:=hr t (by simp);exact trodAll_cons_mk (WideElems.Trod_stays hl r1 r2 h3 (fun p hp=>h1 p (by simp[hp])) (fun p hp=>h2 p (by simp[hp])))
   (abz hl (fun t ht=>hr t (by simp[ht])) h4 (fun p hp=>h1 p (by simp[hp])) (fun p hp=>h2 p (by simp[hp])))
theorem amU {f:Func} {s:ChangeSpec} {apart fresh handsOn again:Bool} {W W':World} {args:Array Value} {v:Value} {ds gs:List (DataW H)} {before pa pv:List MemPlace}
  (hW:DataW.Whole enc P f.params.toList s.vars apart W args.toList ds gs before)
  (abA: ∀(b:Nat) (sp:Nat→Bool) (hd:Bool),DataW.TrodAll enc P W' b sp hd f.resultTypes.toList (v.resultList f.resultTypes.size) (s.fn H (ds++gs)).results [])
  (zt: ∀sp:Nat→Bool,(∀p∈before,sp p.block=true)→DataW.TrodAll enc P W' 0 sp true f.params.toList args.toList (s.fn H (ds++gs)).args pa)
  (abB: ∀sp:Nat→Bool,(∀p∈before,sp p.block=true)→DataW.TrodVars enc P W' sp s.vars (s.fn H (ds++gs)).vars pv)
  (hps:before=pa++pv) (hk:W.keptBut W' (· ∈before)) (CF: ∀a:Addr,a.block<W.heap.size→W'.frozen? a=W.frozen? a)
  (ao: ∀(j:Nat) (t:TypeId) (r:Value),f.resultTypes[j]? =some t→(v.resultList f.resultTypes.size)[j]? =some r→Value.okWide P W' .any 0 t r):
  s.post enc P f apart fresh handsOn again W args v W':=by
 have hold: ∀p∈before,(fun b=>decide (b<W.heap.size)) p.block=true:=fun p hp=>by simpa using hW.lt p hp
 refine ⟨ds,gs,before,[],pa,pv,hW,abA _ _ _,zt _ hold,abB _ hold,World.keptBut_mono (fun p hp=>⟨hp,?_⟩) hk,fun _=> ?_⟩
 ·grind
 ·have aR:=hW.lt;obtain ⟨_,_,_,_,_,hz,hn⟩:=hW;refine ⟨ao,_,_,([]++pa)++pv,⟨[]++pa,pv,trodAll_append (zt _ (fun _ _=>rfl)) (abA _ _ _),abB _ (fun _ _=>rfl),rfl,?_,?_⟩,?_⟩
  ·intro b off hp;have hb:MemPlace.cell b off∈before:=by grind
   rw[CF ⟨b,off,none⟩ (aR _ hb)];exact hz b off hb
  all_goals grind
theorem amV {A:dw} (hP:lf P A) (nA:P.follows .mixedOrders=true) {f key:Nat} {fn:Func} {tb:TypeId} {s:ChangeSpec} {apart fresh handsOn again:Bool}
  (hf:P.funcs[f]? =some fn) (Se:A.jT key=f) (hL:GR P L=true) (eH:fn.params.toList.all (fun t=>hasB L t)=true) (Mo:fn.resultTypes= #[tb]) (Mp:P.underlying tb=some .bool) (zq:s.vars=[])
  (hs: ∀ds:List (DataW H),ds.length=fn.params.toList.length→s.fn H ds={results:=[.lit (.bool true)],args:=ds})
  (Sf:laidOutB P=true) (Sg:fn.params.toList.all (fun t=>P.readableRec t&&Nat.blt t P.types.size)=true)
  (mM:(A.sin key).c7=[]) (ao:((A.sin key).cx.map (·.2)).all (VS.ok 0)=true) (Sh:(A.iY key).cx=[(0,.one .bool)]) (halt:A.alt key=none)
  {W:World} {base:Nat} {args:Array Value} {ds gs:List (DataW H)} {before:List MemPlace}
  (Si:jW P A.aE W (pP W)) (jt: ∀(j:Nat) t v,fn.params[j]? =some t→args[j]? =some v→Value.okWide P W .any base t v)
  (hW:DataW.Whole enc P fn.params.toList s.vars apart W args.toList ds gs before) (Q:List V→Prop)
  (hQ: ∀xs:List V,uG P fn.params.toList xs→(∀(j:Nat) v x,args.toList[j]? =some v→xs[j]? =some x→aj P W (pP W) (fun _=>none) (fun _=>none) v x)→Q xs)
  (Sj: ∀xs,uG P fn.params.toList xs→Q xs→∃ds,uH ((A.sin key).cx.map (·.2)) xs=some ds∧Call P A key ds=some [.bool true]):
  Calls P f args W fun e W'=> ∃v,e= .returned v∧s.post enc P fn apart fresh handsOn again W args v W':=by
 have hW0:=hW;obtain ⟨p,q,hA,hV,rfl,CF,oo⟩:=hW;rw[zq] at hV;obtain ⟨Kr,hq⟩:gs=[]∧q=[]:=by
  cases gs with
  | nil=>exact ⟨rfl,hV⟩
  | cons g gs=>exact hV.elim
 subst Kr;subst hq;obtain ⟨xs,hl,hr,hwt⟩:=abx (β:=fun _=>none) (hp:=fun _=>none) hL (fun t ht=>Ml (ig.1 eH t ht)) (fun j t v a b=>jt j t v (by grind) (by grind)) hA;obtain ⟨ls,hls,GH⟩:=Sj xs hwt (hQ xs hwt hr);obtain ⟨fn',c,h1,h2,h3⟩:=amO (A:=A) hP nA key ls [.bool true] GH;rw[Se] at h1 h3;rw[hf] at h1;cases h1;have abk: ∀j,(bQ (A.sin key) ls).hp j=none:=fun j=>by simp[bQ,mk,mM,im,nj]
 obtain ⟨_,r1,r2⟩:=Gx (P:=P) (w:=W) (I:=pP W) (n:=0) (β:=fun _=>none) (β':=fun _=>none) (hp:=fun _=>none) (hp':=(bQ (A.sin key) ls).hp) (fun j hj=>absurd hj (Nat.not_lt_zero j)) hls ao;have hlen:((A.sin key).cx.map (·.2)).length=xs.length:=by rw[←r1 [],R7]
 have h4:=h3 W (pP W) (fun _=>none) args.toList ⟨fun id blk h=>(by grind),fun id aq blk blk' b h=>(by grind),fun id blk b h=>(by grind),fun b j h=>h⟩ Si
  (by grind) (fun j v y hv hy=>r2 [] j v y (fun x hx=>hr j v x hv hx) (by grind))
 have ea:args.toList.toArray=args:=by simp
 rw[ea] at h4;refine h4.mono fun e W' ⟨v,I2,cM,he,ha⟩=>⟨v,he,?_⟩
 have xr: ∀b,b<W.heap.size→W'.heap[b]? =W.heap[b]? :=fun b hb=>ha.Cy.cQ b hb (by rintro ⟨j,blk,hj,_⟩;grind);have zh:=ha.res;have hso:A.so key [.bool true]=A.iY key∧A.lv key [.bool true]=[.bool true]:=by unfold dw.so dw.lv;grind
 rw[hso.1,hso.2,Sh] at zh;obtain rfl:v= .bool true:=zh.nn;have rF:Value.okWide P W' .any 0 tb (.bool true):=by simp[Value.okWide,Mp,Cell.okWide,Cell.ok]
 have oY:ds.length=fn.params.toList.length:=aby hA;have kD: ∀p'∈p++[],W.sameAt W' p':=by
  intro p' hp';have aR:=hW0.lt p' hp';cases p' with
  | cell b o=>exact World.cell?_of_block (w:=W) (xr b aR)
  | map b=>exact xr b aR
 refine amU (pa:=p) (pv:=[]) hW0 ?_ ?_ ?_ rfl ?_ ?_ ?_
 ·intro b sp hd;rw[rY,hs ds oY,Mo];exact trodAll_mk1 ⟨1,by simp[DataW.trod,Value.cells,Mp]⟩
 ·intro sp sM;rw[rY,hs ds oY];refine abz Sf (fun t ht=> ?_) hA (fun p' hp'=>kD p' (by grind)) (fun p' hp'=>sM p' (by grind));have:=ig.1 Sg t ht;simp_all
 ·intro sp sM;rw[zq,rY,hs ds oY];exact rfl
 ·refine ⟨ha.Cy.io.1,ha.Cy.io.2,fun i hi=> ?_⟩;grind
 ·intro a aR;exact World.frozen?_of_block (w:=W) (xr a.block aR)
 ·intro j t r hj K4;rw[Mo] at hj K4;cases j with
  | zero=>
   simp[Value.resultList] at hj K4;grind
  | succ j=>simp at hj
theorem agY {A:dw} (hP:lf P A) (nA:P.follows .mixedOrders=true) {f key:Nat} {fn:Func} {tb:TypeId} {s:ChangeSpec} {apart fresh handsOn again:Bool}
  (hf:P.funcs[f]? =some fn) (Se:A.jT key=f) (hL:GR P L=true) (eH:fn.params.toList.all (fun t=>hasB L t)=true) (Mo:fn.resultTypes= #[tb]) (Mp:P.underlying tb=some .bool) (zq:s.vars=[])
  (hs: ∀ds:List (DataW H),ds.length=fn.params.toList.length→s.fn H ds={results:=[.lit (.bool true)],args:=ds})
  (Sf:laidOutB P=true) (Sg:fn.params.toList.all (fun t=>P.readableRec t&&Nat.blt t P.types.size)=true)
  (mM:(A.sin key).c7=[]) (ao:((A.sin key).cx.map (·.2)).all (VS.ok 0)=true) (Sh:(A.iY key).cx=[(0,.one .bool)]) (halt:A.alt key=none)
  (Sj: ∀xs,uG P fn.params.toList xs→∃ds,uH ((A.sin key).cx.map (·.2)) xs=some ds∧Call P A key ds=some [.bool true])
  {W:World} {base:Nat} {args:Array Value} {ds gs:List (DataW H)} {before:List MemPlace}
  (Si:jW P A.aE W (pP W)) (jt: ∀(j:Nat) t v,fn.params[j]? =some t→args[j]? =some v→Value.okWide P W .any base t v)
  (hW:DataW.Whole enc P fn.params.toList s.vars apart W args.toList ds gs before):
  Calls P f args W fun e W'=> ∃v,e= .returned v∧s.post enc P fn apart fresh handsOn again W args v W':=
 amV hP nA hf Se hL eH Mo Mp zq hs Sf Sg mM ao Sh halt Si jt hW (fun _=>True) (fun _ _ _=>trivial) fun xs h _=>Sj xs h
end
end Go.AM
namespace Go.AM
open Go.IntKind (wrap)
@[simp] theorem V.toInt_int (k:IntKind) (n:Int):V.toInt (.int k n)=n:=by cases k<;>rfl
@[simp] theorem V.abC (b:Bool):V.toBool (.bool b)=b:=by cases b<;>rfl
@[simp] theorem V.azg (s:List UInt8):V.toStr (.str s)=s:=by cases s<;>rfl
@[simp] theorem V.eB (e:TypeId) (es:List V):V.toList (.list e es)=es:=by cases es<;>rfl
@[simp] theorem V.azh (e:TypeId) (es:List V):V.toList (.own e es)=es:=by cases es<;>rfl
@[simp] theorem V.amW (cs:List V) (j:Nat):V.cell (.agg cs) j=V.nth cs j:=by cases cs<;>rfl
@[simp] theorem V.azi (cs:List V) (j:Nat):V.comp (.bf cs) j=V.nth cs j:=by cases cs<;>rfl
@[simp] theorem V.Sk (x:V) (l:List V):V.nth (x::l) 0=x:=by cases l<;>rfl
@[simp] theorem V.azj (x:V) (l:List V) (n:Nat):V.nth (x::l) (n+1)=V.nth l n:=by cases l<;>rfl
@[simp] theorem V.azk (x y:V) (l:List V):V.nth (x::y::l) 1=y:=by cases l<;>rfl
@[simp] theorem V.azl (x y z:V) (l:List V):V.nth (x::y::z::l) 2=z:=by cases l<;>rfl
@[simp] theorem V.azm (x y z u:V) (l:List V):V.nth (x::y::z::u::l) 3=u:=by cases l<;>rfl
theorem wrap64 {x:Int} (h1: -9223372036854775808≤x) (h2:x<9223372036854775808):wrap .i64 x=x:=by
 rw[IntKind.wrap_i64];omega
theorem rD {x:Int} (h1: -9223372036854775808≤x:=by omega) (h2:x<9223372036854775808:=by omega):wrap .i64 x=x:=wrap64 h1 h2
theorem abD {x:Int} (h1:0≤x) (h2:x<256):wrap .u8 x=x:=by
 rw[IntKind.wrap_u8];omega
theorem Ch {es:List V} {i:Int} {n:Nat} (h:i=n):idx es i=es[n]? :=by
 subst h;simp[idx]
theorem YJ {α:Type} {f:α→V} {l:List α} {i:Int} {n:Nat} (h:i=n) (hn:n<l.length):idx (l.map f) i=some (f l[n]):=by
 rw[Ch h];simp[hn]
@[simp] theorem Sl (es:List V) (n:Nat):idx es (n:Int)=es[n]? :=by simp[idx]
section
variable {X R:Type} {step:X→Option (X ⊕ R)}
theorem Kz (Inv:X→Prop) (μ:X→Nat) (Q:R→Prop)
  (h: ∀x,Inv x→(∃y,step x=some (.inl y)∧Inv y∧μ y<μ x)∨∃r,step x=some (.inr r)∧Q r):
  ∀x,Inv x→∃r,Loop step x=some r∧Q r:=by
 intro x
 induction hm:μ x using Nat.strongRecOn generalizing x with
 | ind m ih=>
  intro hx;rcases h x hx with ⟨y,h1,h2,h3⟩|⟨r,h1,h2⟩
  ·obtain ⟨r,h4,h5⟩:=ih (μ y) (by omega) y rfl h2;exact ⟨r,(iM h1).trans h4,h5⟩
  ·exact ⟨r,kg h1,h2⟩
theorem amX (s:Nat→X) (n:Nat) {r:R} (h: ∀i,i<n→step (s i)=some (.inl (s (i+1)))) (he:step (s n)=some (.inr r)):Loop step (s 0)=some r:=by
 induction n generalizing s with
 | zero=>exact kg he
 | succ n ih=>
  rw[iM (h 0 (by omega))];exact ih (fun i=>s (i+1)) (fun i hi=>h (i+1) (by omega)) he
end
@[simp] theorem ui {α:Type} (p:Prop) [Decidable p] (a b:α):(bif decide p then a else b)=if p then a else b:=by by_cases h:p<;>simp[h]
@[simp] theorem azn {α:Type} (m n:Int) (a b:α):(bif m==n then a else b)=if m=n then a else b:=by
 by_cases h:m=n
 ·simp[h]
 ·have:(m==n)=false:=by simp[h]
  rw[this,aw h];rfl
@[simp] theorem abE {α:Type} (m n:Int) (a b:α):(bif m != n then a else b)=if m=n then b else a:=by
 by_cases h:m=n
 ·simp[h]
 ·have:(m != n)=true:=by simp[h]
  rw[this,aw h];rfl
@[simp] theorem azo {α:Type} (c:Bool) (a b:α):(bif !c then a else b)=bif c then b else a:=by cases c<;>rfl
@[simp] theorem azp {α:Type} (m n:Nat) (a b:α):(bif Nat.ble m n then a else b)=if m≤n then a else b:=by
 cases hb:Nat.ble m n with
 | true=>rw[aA (Nat.le_of_ble_eq_true hb)];rfl
 | false=>
  rw[aw fun h=> ?_]
  ·rfl
  ·rw[yf h] at hb;cases hb
@[simp] theorem azq {α:Type} (c d:Bool) (a b:α):(bif c&&d then a else b)=bif c then (bif d then a else b) else b:=by cases c<;>rfl
section
variable {P:Program}
def abF (P : Program) : Bool := P.funcs.all fun fn => !(fn.name == "runtime.NumGoroutine")
theorem amY (h:abF P=true):zp P:=by
 intro f fn hf;unfold abF at h;have:=(Array.all_eq_true_iff_forall_mem.1 h) fn (Array.mem_of_getElem? hf);simpa using this
theorem WI {t:TypeId} {ts:List TypeId} {xs:List V} (h:uG P (t::ts) xs): ∃x ys,xs=x::ys∧nE P t x∧uG P ts ys:=by
 cases xs with
 | nil=>exact h.elim
 | cons x ys=>exact ⟨x,ys,rfl,h.1,h.2⟩
theorem agU {xs:List V} (h:uG P [] xs):xs=[]:=by
 cases xs with
 | nil=>rfl
 | cons x ys=>exact h.elim
theorem nE.one {t:TypeId} {x:V} (ha:b8 P t=false) (h:nE P t x):WT P t x:=by
 have he:aX P t=[t]:=by simp[aX,ha]
 have:=h.2 0 t (by rw[he];rfl);simpa[ch,ha] using this
theorem WT.fU {t:TypeId} {k:IntKind} {x:V} (hu:P.underlying t=some (.int k)) (h:WT P t x): ∃n,x= .int k n∧k.min≤n∧n≤k.max:=by
 cases h with
 | int h1 h2=>
  rw[hu] at h1;cases h1;simp only[Lit.wf,aK,jQ] at h2;exact ⟨_,rfl,h2⟩
 | bool h1=>rw[hu] at h1;cases h1
 | str h1=>rw[hu] at h1;cases h1
 | list h1=>rw[hu] at h1;cases h1
theorem WT.nn {t:TypeId} {x:V} (hu:P.underlying t=some .bool) (h:WT P t x): ∃b,x= .bool b:=by
 cases h with
 | int h1=>rw[hu] at h1;cases h1
 | bool h1=>exact ⟨_,rfl⟩
 | str h1=>rw[hu] at h1;cases h1
 | list h1=>rw[hu] at h1;cases h1
theorem WT.oG {t:TypeId} {x:V} (hu:P.underlying t=some .string) (h:WT P t x): ∃s,x= .str s∧s.length≤maxLen:=by
 cases h with
 | int h1=>rw[hu] at h1;cases h1
 | bool h1=>rw[hu] at h1;cases h1
 | str h1 h2=>exact ⟨_,rfl,h2⟩
 | list h1=>rw[hu] at h1;cases h1
theorem WT.akk {t e:TypeId} {x:V} (hu:P.underlying t=some (.slice e)) (h:WT P t x): ∃es,x= .list e es∧es.length≤maxLen∧∀y∈es,nE P e y:=by
 cases h with
 | int h1=>rw[hu] at h1;cases h1
 | bool h1=>rw[hu] at h1;cases h1
 | str h1=>rw[hu] at h1;cases h1
 | list h1 h2 h3 h4=>
  rw[hu] at h1;cases h1;refine ⟨_,rfl,h2,fun y hy=> ?_⟩;obtain ⟨i,hi⟩:=tm hy;exact ⟨h3 i y hi,fun j t' hj=>h4 i j y t' hi hj⟩
theorem nE.np {t:TypeId} {x:V} (ha:b8 P t=true) (h:nE P t x): ∃xs,x= .agg xs∧xs.length=(aX P t).length∧∀(j:Nat) t' y,(aX P t)[j]? =some t'→xs[j]? =some y→WT P t' y:=by
 obtain ⟨xs,rfl,hl⟩:=h.1 ha;refine ⟨xs,rfl,hl,fun j t' y hj hy=> ?_⟩;have:=h.2 j t' hj;simp only[ch,ha,cond_true,V.amW] at this;rw[yE _ _ _ hy] at this;exact this
theorem Y2 {α:Type} {f:α→V} {p:α→Prop}: ∀{es:List V},(∀y∈es,∃a,y=f a∧p a)→∃l:List α,es=l.map f∧∀a∈l,p a
 | [],_=>⟨[],rfl,by simp⟩
 | y::es,h=>by
  obtain ⟨a,rfl,ha⟩:=h y (by simp);obtain ⟨l,rfl,hl⟩:=Y2 (f:=f) (p:=p) (es:=es) fun z hz=>h z (by simp[hz]);exact ⟨a::l,rfl,by
   intro b hb;rcases fj.1 hb with rfl|hb
   ·exact ha
   ·exact hl b hb⟩
theorem nE.int {t:TypeId} {x:V} (hu:P.underlying t=some (.int .i64)) (h:nE P t x): ∃n,x= .int .i64 n∧IntKind.min .i64≤n∧n≤IntKind.max .i64:=
 (h.one (by simp[b8,hu])).fU hu
theorem nE.str {t:TypeId} {x:V} (hu:P.underlying t=some .string) (h:nE P t x): ∃s,x= .str s∧s.length≤maxLen:=
 (h.one (by simp[b8,hu])).oG hu
end
def un.{u} {A B:Type} {γ:Sort u} (f:A→B→γ) (p:A×B):γ:=f p.1 p.2
def fJ {A B γ:Type} (f:A→γ) (g:B→γ):A ⊕ B→γ
 | .inl a=>f a
 | .inr b=>g b
def vR:List Nat→Code→Code
 | [],c=>c
 | 0::p,.seq a _=>vR p a
 | _::p,.seq _ b=>vR p b
 | 0::p,.cond _ a _=>vR p a
 | _::p,.cond _ _ b=>vR p b
 | _::p,.block _ c=>vR p c
 | _::p,.loop c=>vR p c
 | _,c=>c
inductive pQ where
 | loop (c:Code)
 | cond (t:Nat) (x y:Code)
section
variable (P:Program) (A:dw) (C:af) (L:cN) (f n m:Nat)
def rK:Code→List pQ
 | .seq a b=>rK a++rK b
 | .cond (.tmp t) x y=>
  match A.ki f (t*16+15) with
  | none=>rK x++rK y
  | some _=>[.cond t x y]
 | .cond (.const _) x y=>rK x++rK y
 | .block _ c=>rK c
 | .loop c=>[.loop c]
 | _=>[]
def uj:pQ→Prop
 | .loop c=>
  match A.ki f (keyOf c+1) with
  | none=>True
  | some S=> ∀(β:Type) ds (k:Nat→List V→Option β),L β (keyOf c+1) ds k=(Loop (stepG P A C f n m S c) ds).bind fun r=>k r.1 r.2
 | .cond t x y=>
  match A.ki f (t*16+15) with
  | none=>True
  | some S=> ∀(β:Type) ds (k:Nat→List V→Option β),L β (t*16+15) ds k=(Ey P A C f n m t S x y ds).bind fun r=>k r.1 r.2
def pR:List pQ→Prop
 | []=>True
 | b::l=>uj P A C L f n m b∧pR l
variable {P A C L f n m}
theorem pR.left {a b:List pQ}:pR P A C L f n m (a++b)→pR P A C L f n m a:=by
 induction a with
 | nil=>exact fun _=>trivial
 | cons x a ih=>exact fun h=>⟨h.1,ih h.2⟩
theorem pR.right {a b:List pQ}:pR P A C L f n m (a++b)→pR P A C L f n m b:=by
 induction a with
 | nil=>exact fun h=>h
 | cons x a ih=>exact fun h=>ih h.2
theorem abG: ∀{c:Code} {bs:List pQ},rK A f c=bs→pR P A C L f n m bs→kO P A C L f n m c:=by
 intro c
 induction c with
 | seq a b Po Pp=>
  intro bs h hb;subst h;exact ⟨Po rfl hb.left,Pp rfl hb.right⟩
 | cond c x y jD jE=>
  intro bs h hb;subst h;cases c with
  | tmp t=>
   simp only[rK] at hb;simp only[kO];cases hs:A.ki f (t*16+15) with
   | none=>
    rw[hs] at hb;exact ⟨jD rfl hb.left,jE rfl hb.right⟩
   | some S=>
    rw[hs] at hb;have:=hb.1;simp only[uj,hs] at this;exact this
  | const v=>exact ⟨jD rfl hb.left,jE rfl hb.right⟩
  | _=>trivial
 | block id c ih=>
  intro bs h hb;subst h;exact ih rfl hb
 | loop c ih=>
  intro bs h hb;subst h;exact hb.1
 | _=>intro bs h hb;trivial
variable (P A C L f n m) in
def Sm {β:Type} (t:Nat) (S:Shape×List (Out×Shape)) (x y:Code) (ds:List V) (k:Nat→List V→Option β):Option β:=
 let kc:Out→St→Option β:=fun o st=>
  match o with
  | .norm=>(ways m 0 S.2 (.norm,canon m (A.join f t) st)).bind fun e=>k e.1 e.2
  | o=>(ways m 0 S.2 (o,st)).bind fun e=>k e.1 e.2
 match (bQ S.1 ds).sl t with
 | .bool b=>bif b then lA P A C L f n m x (bQ S.1 ds) kc else lA P A C L f n m y (bQ S.1 ds) kc
 | _=>none
theorem amZ {t:Nat} {x y:Code} {S:Shape×List (Out×Shape)} (hS:A.ki f (t*16+15)=some S) (hx:kO P A C L f n m x) (hy:kO P A C L f n m y) {I R:Type} (enc:I→List V) (qG:I→R→Nat×List V)
  (de:List V→I) (body:I→(β:Type)→(R→Option β)→Option β) (vu: ∀ds,bQ S.1 (enc (de ds))=bQ S.1 ds)
  (e1: ∀i (β:Type) (k:Nat→List V→Option β),Sm P A C L f n m t S x y (enc i) k=body i β (fun r=>k (qG i r).1 (qG i r).2))
  (hl: ∀(β:Type) ds (k:Nat→List V→Option β),L β (t*16+15) ds k=body (de ds) β (fun r=>k (qG (de ds) r).1 (qG (de ds) r).2)):
  uj P A C L f n m (.cond t x y):=by
 simp only[uj,hS];intro β ds k;rw[hl,←e1];unfold Sm Ey;rw[vu];simp only;have hk: ∀(z:Option (Out×St)),(z.bind fun r=>(match r.1 with
   | .norm=>(ways m 0 S.2 (.norm,canon m (A.join f t) r.2)).bind fun e=>k e.1 e.2
   | o=>(ways m 0 S.2 (o,r.2)).bind fun e=>k e.1 e.2))=((z.bind fun r=>
   match r.1 with
   | .norm=>some (Out.norm,canon m (A.join f t) r.2)
   | _=>some r).bind fun r=>ways m 0 S.2 r).bind fun r=>k r.1 r.2:=by
  intro z;cases z with
  | none=>rfl
  | some r=>obtain ⟨o,st⟩:=r;cases o<;>rfl
 cases (bQ S.1 ds).sl t with
 | bool b=>
  cases b with
  | true=>simp only[cond_true,JT P A C f n m x hx];exact hk _
  | false=>simp only[cond_false,JT P A C f n m y hy];exact hk _
 | _=>rfl
theorem bE {b:pQ} {l:List pQ} (h:uj P A C L f n m b) (h2:pR P A C L f n m l):pR P A C L f n m (b::l):=⟨h,h2⟩
theorem av:pR P A C L f n m []:=trivial
theorem am0 {key:Nat} {bs:List pQ} (hb:rK A key (tz P (A.jT key))=bs) (ht:pR P A (Call P A) L key (Ez P (A.jT key)) (A.sin key).c7.length bs) {ds:List V} {r:Option (List V)}
  (h:JU P A (Call P A) L key ds=r):Call P A key ds=r:=by
 rw[amR,ag6 P A (Call P A) key (abG hb ht),h]
end
section
variable (P:Program) (A:dw)
def lN (C:af) (N f n m:Nat):Code→St→Option (Out×St)
 | .skip,st=>some (.norm,st)
 | .region id ops draw,st=>(Bq P (A.here f id) C n ops draw st).bind fun st'=>some (.norm,canon m (A.live f id) (freeze m (A.pur f id) st'))
 | .seq a b,st=>(lN C N f n m a st).bind fun r=>
  match r.1 with
  | .norm=>lN C N f n m b r.2
  | _=>some r
 | .cond (.tmp t) x y,st=>
  let go (st:St):Option (Out×St):=
   match st.sl t with
   | .bool b=>(bif b then lN C N f n m x st else lN C N f n m y st).bind fun r=>
    match r.1 with
    | .norm=>some (.norm,canon m (A.join f t) r.2)
    | _=>some r
   | _=>none
  match A.ki f (t*16+15) with
  | none=>go st
  | some S=>(mb m S.1 st).bind fun ds=>((go (bQ S.1 ds)).bind fun r=>ways m 0 S.2 r).bind fun e=>n0 0 S.2 e.1 e.2 fun o st=>some (o,st)
 | .cond (.const (.bool b)) x y,st=>bif b then lN C N f n m x st else lN C N f n m y st
 | .block id c,st=>(lN C N f n m c st).bind fun r=>
  match r.1 with
  | .norm=>some (.norm,canon m (A.blk f id) r.2)
  | .exit aq=>bif Nat.beq aq id then some (.norm,canon m (A.blk f id) r.2) else some r
  | .ret=>some r
 | .loop c,st=>
  match A.ki f (keyOf c+1) with
  | none=>none
  | some S=>(mb m S.1 st).bind fun ds=>(ij (fun ds=>pg m S.1 S.2 (lN C N f n m c (bQ S.1 ds))) N ds).bind fun e=>n0 0 S.2 e.1 e.2 fun o st=>some (o,st)
 | .exit id,st=>some (.exit id,st)
 | .ret,st=>some (.ret,st)
 | _,_=>none
def Sn (C:af) (N f:Nat) (ds:List V):Option (List V):=
 match P.funcs[A.jT f]? with
 | none=>none
 | some fn=>
  match fn.body with
  | none=>none
  | some c=>bif lz 0 (A.sin f).cx&&(Nat.ble (A.sin f).cx.length fn.ntmps&&((A.sin f).ok&&(lz 0 (A.iY f).cx&&(Nat.beq (A.iY f).cx.length fn.results.size&&se (qg (A.sin f).c7.length (A.mv f)))))) then
    (lN P A C N f fn.ntmps (A.sin f).c7.length c (Ex A f ds)).bind fun r=>
     match r.1 with
     | .exit _=>none
     | _=>((yp P A f fn (A.sin f).c7.length r.2).run C r.2.hp).map (·.1)
   else none
def Mq (N:Nat):Nat→af
 | 0=>fun _ _=>none
 | n+1=>Sn P A (Mq N n) N
variable {P A}
theorem abH {X R:Type} {s1 s2:X→Option (X ⊕ R)} (h: ∀x y,s1 x=some y→s2 x=some y): ∀(n:Nat) (x:X) (r:R),ij s1 n x=some r→ij s2 n x=some r
 | 0,x,r,e=>by cases e
 | n+1,x,r,e=>by
  simp only[ij] at e⊢;obtain ⟨y,h1,h2⟩:=bind_some e;rw[h x y h1];cases y with
  | inl z=>exact abH h n z r h2
  | inr q=>exact h2
theorem am1 {C:af} {N f n m:Nat}: ∀(c:Code) {st:St} {r:Out×St},lN P A C N f n m c st=some r→exec P A C f n m c st=some r:=by
 intro c
 induction c with
 | skip=>exact fun e=>e
 | exit id=>exact fun e=>e
 | ret=>exact fun e=>e
 | region id ops draw=>exact fun e=>e
 | seq x y jD jE=>
  intro st r e;simp only[lN,exec] at e⊢;obtain ⟨⟨o,s1⟩,h1,h2⟩:=bind_some e;rw[jD h1];cases o with
  | norm=>exact jE h2
  | exit id=>exact h2
  | ret=>exact h2
 | cond c x y jD jE=>
  intro st r e;cases c with
  | tmp t=>
   have go: ∀{st:St} {r:Out×St},(match st.sl t with
     | .bool b=>(bif b then lN P A C N f n m x st else lN P A C N f n m y st).bind fun r=>
      match r.1 with
      | .norm=>some (.norm,canon m (A.join f t) r.2)
      | _=>some r
     | _=>none)=some r→(match st.sl t with
     | .bool b=>(bif b then exec P A C f n m x st else exec P A C f n m y st).bind fun r=>
      match r.1 with
      | .norm=>some (.norm,canon m (A.join f t) r.2)
      | _=>some r
     | _=>none)=some r:=by
    intro st r e;cases hs:st.sl t<;>rw[hs] at e<;>simp only at e⊢ <;>first|(cases e;done)|skip
    rename_i b;obtain ⟨x1,h1,h2⟩:=bind_some e;cases b with
    | true=>simp only[cond_true,jD h1,Option.bind_some];exact h2
    | false=>simp only[cond_false,jE h1,Option.bind_some];exact h2
   simp only[lN,exec] at e⊢;split at e
   ·rename_i hS
    try rw[hS]
    exact go e
   ·rename_i S hS;obtain ⟨ds,h1,h2⟩:=bind_some e;obtain ⟨e',h3,h4⟩:=bind_some h2;obtain ⟨r1,h5,h6⟩:=bind_some h3
    try rw[hS]
    simp only[h1,Option.bind_some];exact (congrArg (fun z:Option (Out×St)=>(z.bind fun r=>ways m 0 S.2 r).bind fun e=>n0 0 S.2 e.1 e.2 fun o st=>some (o,st)) (go h5)).trans (by simp only[Option.bind_some,h6];exact h4)
  | const v=>
   cases v with
   | bool b=>
    simp only[lN,exec] at e⊢;cases b with
    | true=>exact jD e
    | false=>exact jE e
   | _=>simp only[lN] at e;cases e
  | _=>simp only[lN] at e;cases e
 | block id c ih=>
  intro st r e;simp only[lN,exec] at e⊢;obtain ⟨x1,h1,h2⟩:=bind_some e;rw[ih h1];exact h2
 | loop c ih=>
  intro st r e;simp only[lN,exec] at e⊢;split at e
  ·cases e
  ·rename_i S hS;obtain ⟨ds,h1,h2⟩:=bind_some e;obtain ⟨e',h3,h4⟩:=bind_some h2
   try rw[hS]
   simp only[h1,Option.bind_some];rw[Ba (abH (s2:=fun ds=>pg m S.1 S.2 (exec P A C f n m c (bQ S.1 ds))) (fun x y GO=>by
    unfold pg at GO⊢;obtain ⟨z,h5,h6⟩:=bind_some GO;rw[ih h5];exact h6) N ds e' h3)]
   exact h4
 | _=>intro st r e;simp only[lN] at e;cases e
theorem am2 {C:af} {N f:Nat} {ds es:List V} (e:Sn P A C N f ds=some es):sg P A C f ds=some es:=by
 unfold Sn at e;unfold sg;cases hf:P.funcs[A.jT f]? with
 | none=>rw[hf] at e;cases e
 | some fn=>
  rw[hf] at e;simp only at e⊢;cases hb:fn.body with
  | none=>rw[hb] at e;cases e
  | some c=>
   rw[hb] at e;simp only at e⊢;cases hc:(lz 0 (A.sin f).cx&&(Nat.ble (A.sin f).cx.length fn.ntmps&&((A.sin f).ok&&(lz 0 (A.iY f).cx&&(Nat.beq (A.iY f).cx.length fn.results.size&&se (qg (A.sin f).c7.length (A.mv f))))))) with
   | false=>rw[hc] at e;cases e
   | true=>
    rw[hc] at e;simp only[cond_true] at e⊢;obtain ⟨x,h1,h2⟩:=bind_some e;rw[am1 c h1];exact h2
theorem abI {N:Nat}: ∀n {f:Nat} {a r:List V},Mq P A N n f a=some r→n7 P A n f a=some r
 | 0,f,a,r,h=>by cases h
 | n+1,f,a,r,h=>by
  obtain ⟨M,hM⟩:=Mj (C:=Mq P A N n) (D:=fun _=>n7 P A n) (fun f a r h=>⟨0,fun _ _=>abI n h⟩) (am2 h);exact hM M (az _)
theorem aH {N n f:Nat} {a r:List V} (h:Mq P A N n f a=some r):Call P A f a=some r:=GP.2 ⟨n,abI n h⟩
end
inductive LK where
 | int (k:IntKind)
 | bool
 | str
 | list (e:TypeId)
 | nat
def LK.Ty:LK→Type
 | .int _=>Int
 | .bool=>Bool
 | .str=>List UInt8
 | .list _=>List V
 | .nat=>Nat
def LK.enc:(k:LK)→k.Ty→V
 | .int k,n=> .int k n
 | .bool,b=> .bool b
 | .str,s=> .str s
 | .list e,l=> .list e l
 | .nat,n=>gu n
def LK.dec:(k:LK)→V→k.Ty
 | .int _,v=>v.toInt
 | .bool,v=>v.toBool
 | .str,v=>v.toStr
 | .list _,v=>v.toList
 | .nat,v=>oD v
theorem LK.abJ: ∀(k:LK) (x:k.Ty),k.dec (k.enc x)=x
 | .int _,_=>rfl
 | .bool,_=>rfl
 | .str,_=>rfl
 | .list _,_=>rfl
 | .nat,_=>rfl
def So:List Nat→List LK
 | []=>[]
 | _::l=> .nat::So l
def LS.ks:LS→List LK
 | .int k=>[.int k]
 | .bool=>[.bool]
 | .str=>[.str]
 | .list e=>[.list e]
 | .nl e=>[.list e]
 | .sub .. =>[.nat,.nat]
 | .ptr _=>[.nat,.nat]
 | .row _ _ cs=>So cs
 | .dI _ cs _=> .nat::So cs
 | _=>[]
def CL:List LS→List LK
 | []=>[]
 | l::ls=>l.ks++CL ls
def VS.ks:VS→List LK
 | .one l=>l.ks
 | .agg ls=>CL ls
 | .bf ls=>CL ls
 | .fn _ a b=>CL a++CL b
 | .pref _ ls=>CL ls
def abK:List VS→List LK
 | []=>[]
 | l::ls=>l.ks++abK ls
def BS.ks:BS→List LK
 | .var _ cs=>abK cs
 | .arr e _=>[.list e]
 | .nest e=>[.list e]
 | .dead=>[]
 | .map t=>[.list t]
def abL:List (Nat×VS)→List LK
 | []=>[]
 | p::l=>p.2.ks++abL l
def abM:List BS→List LK
 | []=>[]
 | b::l=>b.ks++abM l
def Shape.ks (S:Shape):List LK:=abL S.cx++abM S.c7
def Sp:List Nat→List V→List V
 | [],_=>[]
 | _::cs,ds=>gu (oD (V.nth ds 0))::Sp cs (ds.drop 1)
def LS.norm:LS→List V→List V
 | .int k,ds=>[.int k (V.nth ds 0).toInt]
 | .bool,ds=>[.bool (V.nth ds 0).toBool]
 | .str,ds=>[.str (V.nth ds 0).toStr]
 | .list e,ds=>[.list e (V.nth ds 0).toList]
 | .nl e,ds=>[.list e (V.nth ds 0).toList]
 | .sub ..,ds=>[gu (oD (V.nth ds 0)),gu (oD (V.nth ds 1))]
 | .ptr _,ds=>[gu (oD (V.nth ds 0)),gu (oD (V.nth ds 1))]
 | .row _ _ cs,ds=>Sp cs ds
 | .dI _ cs _,ds=>gu (oD (V.nth ds 0))::Sp cs (ds.drop 1)
 | _,_=>[]
def CM:List LS→List V→List V
 | [],_=>[]
 | l::ls,ds=>l.norm ds++CM ls (ds.drop l.size)
def VS.norm:VS→List V→List V
 | .one l,ds=>l.norm ds
 | .agg ls,ds=>CM ls ds
 | .bf ls,ds=>CM ls ds
 | .fn _ a b,ds=>CM a ds++CM b (ds.drop (ni a))
 | .pref _ ls,ds=>CM ls ds
def abN:List VS→List V→List V
 | [],_=>[]
 | l::ls,ds=>l.norm ds++abN ls (ds.drop l.size)
def BS.norm:BS→List V→List V
 | .var _ cs,ds=>abN cs ds
 | .arr e _,ds=>[.list e (V.nth ds 0).toList]
 | .nest e,ds=>[.list e (V.nth ds 0).toList]
 | .dead,_=>[]
 | .map t,ds=>[.list t (V.nth ds 0).toList]
def abO:List (Nat×VS)→List V→List V
 | [],_=>[]
 | p::l,ds=>p.2.norm ds++abO l (ds.drop p.2.size)
def abP:List BS→List V→List V
 | [],_=>[]
 | b::l,ds=>b.norm ds++abP l (ds.drop b.size)
def Shape.norm (S:Shape) (ds:List V):List V:=abO S.cx ds++abP S.c7 (ds.drop (sd S.cx))
def zA:LK→List LK→Type
 | k,[]=>k.Ty
 | k,k'::ks=>k.Ty×zA k' ks
def ot:List LK→Type
 | []=>Unit
 | k::ks=>zA k ks
def zB:(k:LK)→(ks:List LK)→zA k ks→List V
 | k,[],x=>[k.enc x]
 | k,k'::ks,x=>k.enc x.1::zB k' ks x.2
def oQ:(ks:List LK)→ot ks→List V
 | [],_=>[]
 | k::ks,x=>zB k ks x
def GS:(k:LK)→(ks:List LK)→List V→zA k ks
 | k,[],l=>k.dec (V.nth l 0)
 | k,k'::ks,l=>(k.dec (V.nth l 0),GS k' ks l.tail)
def sU:(ks:List LK)→List V→ot ks
 | [],_=>()
 | k::ks,l=>GS k ks l
theorem abQ: ∀(k:LK) (ks:List LK) (x:zA k ks) (r:List V),GS k ks (zB k ks x++r)=x
 | k,[],x,r=>LK.abJ k x
 | k,k'::ks,x,r=>by
  show (k.dec (k.enc x.1),GS k' ks (zB k' ks x.2++r))=x;rw[LK.abJ,abQ k' ks];rfl
def CN:List LK→Type 1→Type 1
 | [],R=>R
 | k::ks,R=>k.Ty→CN ks R
def apN:(k:LK)→(ks:List LK)→{R:Type 1}→CN (k::ks) R→zA k ks→R
 | _,[],_,f,x=>f x
 | _,k'::ks,_,f,x=>apN k' ks (f x.1) x.2
def zC:(ks:List LK)→{R:Type 1}→CN ks R→ot ks→R
 | [],_,f,_=>f
 | k::ks,_,f,x=>apN k ks f x
def CO {α:Type} (b:Bool):List Bool→List α→List α
 | [],_=>[]
 | _,[]=>[]
 | c::m,x::l=>bif c==b then x::CO b m l else CO b m l
def merge:List Bool→List V→List V→List V
 | [],_,_=>[]
 | true::m,i,x=>V.nth x 0::merge m i x.tail
 | false::m,i,x=>V.nth i 0::merge m i.tail x
def CP:List Nat→List LK→List LK
 | [],_=>[]
 | _,[]=>[]
 | 0::t,k::ks=>k::CP t ks
 | (_+1)::t,_::ks=>CP t ks
abbrev jq:=List Nat×List LK
def jq.fresh (w:jq):List LK:=CP w.1 w.2
def put:List Nat→List V→List V→List V
 | [],_,_=>[]
 | 0::t,ds,x=>V.nth x 0::put t ds x.tail
 | (j+1)::t,ds,x=>V.nth ds j::put t ds x
def zD:List Nat→List V→List V
 | [],_=>[]
 | 0::t,l=>V.nth l 0::zD t l.tail
 | (_+1)::t,l=>zD t l.tail
def xF:jq→List jq→Type
 | w,[]=>ot w.fresh
 | w,w'::ws=>ot w.fresh ⊕ xF w' ws
def vS:List jq→Type
 | []=>Empty
 | w::ws=>xF w ws
def wN (ds:List V) {β:Type} (k:Nat→List V→Option β):Nat→(w:jq)→(ws:List jq)→xF w ws→Option β
 | j,w,[],r=>k j (put w.1 ds (oQ w.fresh r))
 | j,w,w'::ws,r=>fJ (fun x=>k j (put w.1 ds (oQ w.fresh x))) (fun y=>wN ds k (j+1) w' ws y) r
def wT (ds:List V) {β:Type} (k:Nat→List V→Option β):(ws:List jq)→vS ws→Option β
 | [],r=>Empty.elim r
 | w::ws,r=>wN ds k 0 w ws r
def sW (ds:List V):Nat→(w:jq)→(ws:List jq)→xF w ws→Nat×List V
 | j,w,[],r=>(j,put w.1 ds (oQ w.fresh r))
 | j,w,_::_,.inl x=>(j,put w.1 ds (oQ w.fresh x))
 | j,_,w'::ws,.inr y=>sW ds (j+1) w' ws y
def CQ (ds:List V):(ws:List jq)→vS ws→Nat×List V
 | [],r=>Empty.elim r
 | w::ws,r=>sW ds 0 w ws r
theorem abR (ds:List V) {β:Type} (k:Nat→List V→Option β): ∀(j:Nat) (w:jq) (ws:List jq) (r:xF w ws),wN ds k j w ws r=k (sW ds j w ws r).1 (sW ds j w ws r).2
 | _,_,[],_=>rfl
 | _,_,_::_,.inl _=>rfl
 | j,_,w'::ws,.inr y=>abR ds k (j+1) w' ws y
theorem Mr (ds:List V) {β:Type} (k:Nat→List V→Option β): ∀(ws:List jq) (r:vS ws),wT ds k ws r=k (CQ ds ws r).1 (CQ ds ws r).2
 | [],r=>Empty.elim r
 | w::ws,r=>abR ds k 0 w ws r
def CR:Nat→(w:jq)→(ws:List jq)→List V→xF w ws
 | _,w,[],l=>sU w.fresh (zD w.1 l)
 | 0,w,_::_,l=> .inl (sU w.fresh (zD w.1 l))
 | j+1,_,w'::ws,l=> .inr (CR j w' ws l)
def deT (j:Nat):(ws:List jq)→List V→Option (vS ws)
 | [],_=>none
 | w::ws,l=>some (CR j w ws l)
def CS:List Nat→List V→List V
 | [],_=>[]
 | 0::t,x=>V.nth x 0::CS t x.tail
 | (_+1)::t,x=>CS t x
theorem Sq: ∀(t:List Nat) (ds x:List V),zD t (put t ds x)=CS t x
 | [],_,_=>rfl
 | 0::t,ds,x=>congrArg (V.nth x 0:: ·) (Sq t ds x.tail)
 | (_+1)::t,ds,x=>Sq t ds x
theorem Sr: ∀(t:List Nat) (ks:List LK) (k:LK) (uk:List LK),CP t ks=k::uk→∀x:zA k uk,∃r,CS t (zB k uk x)=zB k uk x++r
 | [],_,_,_,h,_=>by cases h
 | _::_,[],_,_,h,_=>by simp[CP] at h
 | 0::t,a::ks,k,uk,h,x=>by
  simp only[CP,yg] at h;obtain ⟨rfl,h2⟩:=h;cases uk with
  | nil=>exact ⟨CS t [],rfl⟩
  | cons k' uk=>
   obtain ⟨r,hr⟩:=Sr t ks k' uk h2 x.2;exact ⟨r,congrArg (a.enc x.1:: ·) hr⟩
 | (_+1)::t,a::ks,k,uk,h,x=>Sr t ks k uk h x
theorem abS (w:jq) (ds:List V) (x:ot w.fresh):sU w.fresh (zD w.1 (put w.1 ds (oQ w.fresh x)))=x:=by
 rw[Sq];revert x;generalize hf:w.fresh=f;cases f with
 | nil=>intro x;rfl
 | cons k ks=>
  intro x;obtain ⟨r,hr⟩:=Sr w.1 w.2 k ks hf x;show GS k ks (CS w.1 (zB k ks x))=x;rw[hr];exact abQ k ks x r
theorem abT (ds:List V): ∀(j:Nat) (w:jq) (ws:List jq) (r:xF w ws),j≤(sW ds j w ws r).1
 | _,_,[],_=>az _
 | _,_,_::_,.inl _=>az _
 | j,_,w'::ws,.inr y=>lZ (Nat.le_succ j) (abT ds (j+1) w' ws y)
theorem am3 (w:jq) (l:List V): ∀j,CR j w [] l=sU w.fresh (zD w.1 l)
 | 0=>rfl
 | _+1=>rfl
theorem abU (ds:List V): ∀(j:Nat) (w:jq) (ws:List jq) (r:xF w ws),CR ((sW ds j w ws r).1-j) w ws (sW ds j w ws r).2=r
 | j,w,[],r=>(am3 w _ _).trans (abS w ds r)
 | j,w,w'::ws,.inl x=>by
  show CR (j-j) w (w'::ws) (put w.1 ds (oQ w.fresh x))= .inl x;rw[Nat.sub_self];exact congrArg Sum.inl (abS w ds x)
 | j,w,w'::ws,.inr y=>by
  have h1:=abT ds (j+1) w' ws y;have h2:=abU ds (j+1) w' ws y;show CR ((sW ds (j+1) w' ws y).1-j) w (w'::ws) (sW ds (j+1) w' ws y).2= .inr y;obtain ⟨d,hd⟩: ∃d,(sW ds (j+1) w' ws y).1=j+1+d:=⟨(sW ds (j+1) w' ws y).1-(j+1),by omega⟩
  rw[hd] at h2⊢;rw[show j+1+d-(j+1)=d by omega] at h2;rw[show j+1+d-j=d+1 by omega];exact congrArg Sum.inr h2
theorem am4 (ds:List V): ∀(ws:List jq) (r:vS ws),deT (CQ ds ws r).1 ws (CQ ds ws r).2=some r
 | [],r=>Empty.elim r
 | w::ws,r=>congrArg some (abU ds 0 w ws r)
section
variable {P:Program} {A:dw} {C:af} {L:cN} {f n m:Nat}
theorem am5 {c:Code} {S:Shape×List (Out×Shape)} (hS:A.ki f (keyOf c+1)=some S) (hL:kO P A C L f n m c) {I X R:Type} (enc:I→X→List V) (qG:I→R→Nat×List V)
  (um:List V→I) (vT:List V→X) (Ms:Nat×List V→Option R) (body:I→X→(β:Type)→(X→Option β)→(R→Option β)→Option β)
  (vu: ∀ds,bQ S.1 (enc (um ds) (vT ds))=bQ S.1 ds) (Ss: ∀i x,vT (enc i x)=x) (hdr: ∀i r,Ms (qG i r)=some r)
  (e1: ∀i x (β:Type) (k:(List V ⊕ (Nat×List V))→Option β),lA P A C L f n m c (bQ S.1 (enc i x)) (fun o st=>(pg m S.1 S.2 (some (o,st))).bind k)=
   body i x β (fun y=>k (.inl (enc i y))) (fun r=>k (.inr (qG i r))))
  (hl: ∀(β:Type) ds (k:Nat→List V→Option β),L β (keyOf c+1) ds k=(Loop (fun x=>body (um ds) x (X ⊕ R) (fun y=>some (.inl y)) (fun r=>some (.inr r))) (vT ds)).bind fun r=>k (qG (um ds) r).1 (qG (um ds) r).2):
  uj P A C L f n m (.loop c):=by
 simp only[uj,hS];intro β ds k;rw[hl];have hex: ∀(z:Option (Out×St)),pg m S.1 S.2 z=z.bind fun r=>pg m S.1 S.2 (some (r.1,r.2)):=by
  intro z;cases z<;>rfl
 have hs: ∀i x,stepG P A C f n m S c (enc i x)=(body i x (X ⊕ R) (fun y=>some (.inl y)) (fun r=>some (.inr r))).map fun| .inl y=> .inl (enc i y)| .inr r=> .inr (qG i r):=by
  intro i x;have k1:=e1 i x _ (fun z=>some z);have k2:=e1 i x (X ⊕ R) (fun| .inl ds=>some (.inl (vT ds))| .inr e=>(Ms e).map .inr);have k3:=e1 i x (List V ⊕ (Nat×List V)) (fun| .inl ds=>some (.inl (enc i (vT ds)))| .inr e=>(Ms e).map fun r=> .inr (qG i r));simp only[Ss,hdr,Option.map_some] at k2 k3;unfold stepG;rw[hex];rw[JT P A C f n m c hL] at k1 k2 k3;rw[←k2];refine Eq.trans ?_ (k1.trans (k3.symm.trans ?_))
  ·simp
  ·cases exec P A C f n m c (bQ S.1 (enc i x)) with
   | none=>rfl
   | some r=>
    simp only[Option.bind_some];cases pg m S.1 S.2 (some (r.1,r.2)) with
    | none=>rfl
    | some z=>
     cases z with
     | inl _=>rfl
     | inr e=>simp only[Option.bind_some];cases Ms e<;>rfl
 have h0:stepG P A C f n m S c ds=stepG P A C f n m S c (enc (um ds) (vT ds)):=by
  unfold stepG;rw[vu]
 have:Loop (stepG P A C f n m S c) ds=(Loop (fun x=>body (um ds) x (X ⊕ R) (fun y=>some (.inl y)) (fun r=>some (.inr r))) (vT ds)).map (qG (um ds)):=by
  rw[Jt,h0,←Jt];exact ag4 (enc (um ds)) (qG (um ds)) (fun x=>hs _ _) (vT ds)
 rw[this];cases Loop (fun x=>body (um ds) x (X ⊕ R) (fun y=>some (.inl y)) (fun r=>some (.inr r))) (vT ds)<;>rfl
abbrev GU (S:Shape) (mk:List Bool):List LK:=CO false mk S.ks
abbrev zE (S:Shape) (mk:List Bool):List LK:=CO true mk S.ks
def vU (ts:List (List Nat)) (W:List (Out×Shape)):List jq:=
 match ts,W with
 | t::ts,w::W=>(t,w.2.ks)::vU ts W
 | _,_=>[]
abbrev GV (S:Shape) (mk:List Bool) (i:ot (GU S mk)) (x:ot (zE S mk)):List V:=merge mk (oQ _ i) (oQ _ x)
abbrev Su (S:Shape) (mk:List Bool) (i:ot (GU S mk)):List V:=merge mk (oQ _ i) []
abbrev Mt (S:Shape) (mk:List Bool) (ds:List V):ot (GU S mk):=sU _ (CO false mk (S.norm ds))
abbrev Mu (S:Shape) (mk:List Bool) (ds:List V):ot (zE S mk):=sU _ (CO true mk (S.norm ds))
abbrev abV (X R:Type):Type 1:=(β:Type)→(X→Option β)→(R→Option β)→Option β
abbrev Mv (S:Shape×List (Out×Shape)) (mk:List Bool) (ts:List (List Nat)):Type 1:=CN (GU S.1 mk) (CN (zE S.1 mk) (abV (ot (zE S.1 mk)) (vS (vU ts S.2))))
abbrev Sv (S:Shape×List (Out×Shape)) (mk:List Bool) (ts:List (List Nat)) (b:Mv S mk ts) (i:ot (GU S.1 mk)) (x:ot (zE S.1 mk)):abV (ot (zE S.1 mk)) (vS (vU ts S.2)):=zC _ (zC _ b i) x
def Sw (S:Shape×List (Out×Shape)) (mk:List Bool) (ts:List (List Nat)) (b:Mv S mk ts) {β:Type} (ds:List V) (k:Nat→List V→Option β):Option β:=
 (Loop (fun x=>Sv S mk ts b (Mt S.1 mk ds) x (ot (zE S.1 mk) ⊕ vS (vU ts S.2)) (fun y=>some (.inl y)) (fun r=>some (.inr r))) (Mu S.1 mk ds)).bind (wT (Su S.1 mk (Mt S.1 mk ds)) k (vU ts S.2))
theorem bN {c:Code} (S:Shape×List (Out×Shape)) (mk:List Bool) (ts:List (List Nat)) (b:Mv S mk ts) (hL:kO P A C L f n m c) (hS:A.ki f (keyOf c+1)=some S:=by kernel_rfl)
  (vu: ∀ds,bQ S.1 (GV S.1 mk (Mt S.1 mk ds) (Mu S.1 mk ds))=bQ S.1 ds:=by intros;kernel_rfl) (Ss: ∀i x,Mu S.1 mk (GV S.1 mk i x)=x:=by intros;kernel_rfl)
  (e1: ∀i x (β:Type) (k:(List V ⊕ (Nat×List V))→Option β),lA P A C L f n m c (bQ S.1 (GV S.1 mk i x)) (fun o st=>(pg m S.1 S.2 (some (o,st))).bind k)=
   Sv S mk ts b i x β (fun y=>k (.inl (GV S.1 mk i y))) (wT (Su S.1 mk i) (fun j l=>k (.inr (j,l))) (vU ts S.2)):=by intros;kernel_rfl)
  (hl: ∀(β:Type) ds (k:Nat→List V→Option β),L β (keyOf c+1) ds k=Sw S mk ts b ds k:=by intros;kernel_rfl):
  uj P A C L f n m (.loop c):=
 am5 hS hL (GV S.1 mk) (fun i r=>CQ (Su S.1 mk i) _ r) (Mt S.1 mk) (Mu S.1 mk) (fun e=>deT e.1 _ e.2) (Sv S mk ts b) vu Ss (fun i r=>am4 _ _ r)
  (fun i x β k=>by
   rw[e1];congr 1;funext r;exact Mr _ _ _ r)
  (fun β ds k=>by
   rw[hl];unfold Sw;congr 1;funext r;exact Mr _ _ _ r)
abbrev Sy (S:Shape×List (Out×Shape)) (ts:List (List Nat)):Type 1:=CN S.1.ks ((β:Type)→(vS (vU ts S.2)→Option β)→Option β)
def abW (S:Shape×List (Out×Shape)) (ts:List (List Nat)) (b:Sy S ts) {β:Type} (ds:List V) (k:Nat→List V→Option β):Option β:=
 zC S.1.ks b (sU _ (S.1.norm ds)) β (wT (oQ S.1.ks (sU _ (S.1.norm ds))) k (vU ts S.2))
theorem Mw {t:Nat} {x y:Code} (S:Shape×List (Out×Shape)) (ts:List (List Nat)) (b:Sy S ts) (hx:kO P A C L f n m x) (hy:kO P A C L f n m y) (hS:A.ki f (t*16+15)=some S:=by kernel_rfl)
  (vu: ∀ds,bQ S.1 (oQ S.1.ks (sU _ (S.1.norm ds)))=bQ S.1 ds:=by intros;kernel_rfl)
  (e1: ∀i (β:Type) (k:Nat→List V→Option β),Sm P A C L f n m t S x y (oQ S.1.ks i) k=zC S.1.ks b i β (wT (oQ S.1.ks i) k (vU ts S.2)):=by intros;kernel_rfl)
  (hl: ∀(β:Type) ds (k:Nat→List V→Option β),L β (t*16+15) ds k=abW S ts b ds k:=by intros;kernel_rfl):
  uj P A C L f n m (.cond t x y):=
 amZ hS hx hy (oQ S.1.ks) (fun i r=>CQ (oQ S.1.ks i) _ r) (fun ds=>sU _ (S.1.norm ds)) (zC S.1.ks b) vu
  (fun i β k=>by
   rw[e1];exact congrArg (zC S.1.ks b i β) (funext fun r=>Mr _ _ _ r))
  (fun β ds k=>by
   rw[hl];exact congrArg (zC S.1.ks b (sU _ (S.1.norm ds)) β) (funext fun r=>Mr _ _ _ r))
end
theorem bA {P:Program} {A:dw} {C:af} {L:cN} {f n m:Nat} {c:Code} {bs:List pQ} (hb:pR P A C L f n m bs) (h:rK A f c=bs:=by kernel_rfl):kO P A C L f n m c:=abG h hb
theorem bO {P:Program} {A:dw} {L:cN} {key:Nat} {bs:List pQ} {ds:List V} {r x:Option (List V)} (ht:pR P A (Call P A) L key (Ez P (A.jT key)) (A.sin key).c7.length bs) (h:x=r)
  (hb:rK A key (tz P (A.jT key))=bs:=by kernel_rfl) (e:JU P A (Call P A) L key ds=x:=by kernel_rfl):Call P A key ds=r:=am0 hb ht (e.trans h)
def bL (j:Nat) (S:Shape×List (Out×Shape)) (mk:List Bool) (ts:List (List Nat)) (b:Mv S mk ts) (L:cN):cN:=fun β n ds k=>bif Nat.beq n j then Sw S mk ts b ds k else L β n ds k
def Mx (j:Nat) (S:Shape×List (Out×Shape)) (ts:List (List Nat)) (b:Sy S ts) (L:cN):cN:=fun β n ds k=>bif Nat.beq n j then abW S ts b ds k else L β n ds k
def bM:cN:=fun _ _ _ _=>none
abbrev LV:=List V
structure SE where
 T:TypeId
 cmp:Nat
 ex:V→List V
 k:Nat→Nat
abbrev BR (l:List V) (j:Int) {β:Type} (x:Option β):Option β:=bif (decide (0≤j))&&(decide (j<(l.length:Int))) then x else none
abbrev aP (l:List V) (j:Int) {β:Type} (f:V→Option β):Option β:=bif (decide (0≤j))&&(decide (j<(l.length:Int))) then (l[j.toNat]?).bind f else none
abbrev bj (l:List V) (j:Int) (v:V):List V:=l.set j.toNat v
end Go.AM
