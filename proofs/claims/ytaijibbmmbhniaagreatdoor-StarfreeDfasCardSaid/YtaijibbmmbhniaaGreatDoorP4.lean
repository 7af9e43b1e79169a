/-
  Functions of the program, lifted to plain data.
-/
import Derived.Carry
import Derived.OpenShut
import Derived.Deep.Slices
import Derived.Test.YtaijibbmmbhniaaGreatDoorP3
noncomputable section
set_option linter.unusedVariables false
set_option linter.unusedSimpArgs false
set_option linter.unusedSectionVars false
namespace Go.AM
open Go.IntKind (wrap)
section
variable {P:Program} {A:dH} {w w':World} {I I' I2:Nat→Nat→Prop} {μ β β':Nat→Option Nat} {hp hp' hp0:Nat→Option af} {C:ae} {B:Nat} {M:Nat→Prop} {w0:Start}
theorem Md (p:Nat→Prop) (h: ∃n,p n): ∃n,p n∧∀m,p m→n≤m:=by
 obtain ⟨n,hn⟩:=h
 induction n using Nat.strongRecOn with
 | _ n ih=>
  by_cases hx: ∃m,m<n∧p m
  ·obtain ⟨m,hm,hp⟩:=hx;exact ih m hm hp
  ·exact ⟨n,hn,fun m hm=>Bm fun bf=>hx ⟨m,bf,hm⟩⟩
open Classical in
theorem amd {c:Code} {Q:Exit→Act→World→Prop} (J:Nat→Act→World→Prop) (h0: ∀a w,¬J 0 a w) (round: ∀n a w,J (n+1) a w→c.wp P (Exit.then (J n) Q) a w) {n:Nat} {a:Act} {w:World} (h:J n a w):
  (Code.loop c).wp P Q a w:=by
 refine wp_loop (fun a w=> ∃n,J n a w) (fun a w=>if h: ∃n,J n a w then (Md _ h).choose else 0) ⟨n,h⟩ fun a w hJ=> ?_;obtain ⟨h1,h2⟩:=(Md _ hJ).choose_spec;generalize hk:(Md _ hJ).choose=k at h1 h2;cases k with
 | zero=>exact absurd h1 (h0 a w)
 | succ k=>
  refine wp_mono (round k a w h1) fun e a' w' he=> ?_;cases e with
  | normal=>
   have hex: ∃n,J n a' w':=⟨k,he⟩
   refine ⟨hex,?_⟩;have h3:=(Md _ hex).choose_spec.2 k he;rw[rW hex,rW hJ,hk];omega
  | _=>exact he
def Cg:Out→Exit
 | .norm=> .normal
 | .exit id=> .exit id
 | .ret=> .ret
def Inv (P:Program) (E:FuncId→Bool) (G:Nat→V) (B:Nat) (M:Nat→Prop) (w0:Start) (μ:Nat→Option Nat) (hp0:Nat→Option af) (n:Nat) (a:Act) (w:World) (st:St):Prop:=
 ∃I β,aB P w I β st.hp B M w0∧iC P E G w I β n a st∧oO w0.w w0.I μ hp0 w I β st.hp
theorem Inv.canon {E:FuncId→Bool} {G:Nat→V} {n m:Nat} {a:Act} {st:St} {live:List Nat} (h:Inv P E G B M w0 μ hp0 n a w st) (hm: ∀id blk,hp0 id=some blk→id<m) (lR:zJ hp0):Inv P E G B M w0 μ hp0 n a w (canon m live st):=by
 obtain ⟨I0,β,S,hA,hE⟩:=h;obtain ⟨I,h1,S,hA,hT⟩:=abx S hA;obtain ⟨β',a,b,c⟩:=amb (live:=live) S hT hA (hE.trans h1.B4) hm lR;exact ⟨I,β',a,b,c⟩
theorem Me: ∀{l:List BS} {ds:List V},(gQ l ds).length=l.length
 | [],_=>rfl
 | b::l,ds=>by simp only[gQ,List.length_cons,Me]
theorem Inv.enter {A:dH} {E:FuncId→Bool} {G:Nat→V} {n f:Nat} {ds:List V} {a:Act} (n0:sh (qe (A.sin f).dr.length (A.mv f))=true) (h:Inv P E G B M w0 μ hp0 n a w (bZ (A.sin f) ds)) (hm: ∀id blk,hp0 id=some blk→id<(A.sin f).dr.length)
  (lR:zJ hp0) (abN: ∀p,(A.sin f).dr.length≤p→(bZ (A.sin f) ds).hp p=none):Inv P E G B M w0 μ hp0 n a w (EB A f ds):=by
 unfold EB;split
 ·exact h
 ·obtain ⟨I0,β,S,hA,hE⟩:=h;obtain ⟨I,h1,S,hA,hT⟩:=abx S hA;obtain ⟨β',x,y,z⟩:=abL (m:=(A.sin f).dr.length) (ord:=qe (A.sin f).dr.length (A.mv f)) (live:=(A.sin f).cC.map (·.1)) (abM n0) (fun id ab=>(amc ab).imp (fun h=>h) fun h=>⟨_,h,abN _ (by omega)⟩) S hT hA (hE.trans h1.B4) hm lR;exact ⟨I,β',x,y,z⟩
theorem Inv.reshape {E:FuncId→Bool} {G:Nat→V} {n m:Nat} {a:Act} {st:St} {S:Shape} {ds:List V} (h:Inv P E G B M w0 μ hp0 n a w st) (hs:lI m S st=some ds) (hm: ∀id blk,hp0 id=some blk→id<m):Inv P E G B M w0 μ hp0 n a w (bZ S ds):=by
 obtain ⟨I,β,S1,hA,hE⟩:=h;obtain ⟨r1,r2,_,r4⟩:=AM.reshape hs S1;refine ⟨I,β,r1,⟨fun k=>r2 k _ (hA.sl k),hA.size,hA.defers,hA.aL⟩,⟨hE.eN,hE.cZ,fun id blk ab=> ?_,fun id blk blk' b ab cg hd hb=> ?_⟩⟩
 ·obtain ⟨vG,k1,k2,k3⟩:=hE.blk id blk ab;obtain ⟨_,hle,_⟩:=aaG hs;have hl:=hm id blk ab;obtain ⟨cL,h2⟩: ∃cL,(bZ S ds).hp id=some cL:=by
   simp only[bZ,mk,kG];exact ⟨_,cp (by rw[Me];omega)⟩
  by_cases hd:cL= .dead
  ·subst hd;exact ⟨_,h2,by cases blk<;>trivial,fun h=>absurd rfl h⟩
  ·obtain ⟨kA,e1,e2,_⟩:=r4 id cL h2 hd;rw[k1] at e1;cases e1;exact ⟨_,h2,af.le_trans k2 e2,fun _=>k3 (fun e=>hd (af.tI (e▸e2)))⟩
 ·obtain ⟨kA,e1,e2,_⟩:=r4 id blk' cg hd;exact hE.size id blk kA b ab e1 (fun e=>hd (af.tI (e▸e2))) hb
theorem oP.here (h:oP P A C) (f:Nat) (id:Nat):oP P (A.here f id) C:=by
 intro key ds es hh;obtain ⟨fn,c,h1,h2,h3⟩:=h key ds es hh;refine ⟨fn,c,h1,h2,fun w I μ vals a g b d=>(h3 w I μ vals a g b d).mono fun e w' hx=> ?_⟩;obtain ⟨v,I2,cT,q1,q2⟩:=hx;exact ⟨v,I2,cT,q1,⟨q2.B5,q2.le,q2.res⟩⟩
theorem ame {a b:Out} (h:KU a b=true):a=b:=by
 cases a<;>cases b<;>simp[KU] at h<;>first|rfl|(subst h;rfl)
theorem abO {m:Nat} {r:Out×St}: ∀{l:List (Out×Shape)} {j:Nat} {e:Nat×List V},ways m j l r=some e→j≤e.1
 | [],j,e,h=>by cases h
 | (o,S)::l,j,e,h=>by
  simp only[ways] at h;split at h
  ·cases h;exact az _
  ·have:=abO h;omega
theorem R8 {m:Nat} {o:Out} {s:St} {out:Out} {st':St}: ∀{l:List (Out×Shape)} {k:Nat} {e:Nat×List V},ways m k l (o,s)=some e→nP k l e.1 e.2 (fun o st=>some (o,st))=some (out,st')→
  out=o∧∃S,lI m S s=some e.2∧st'=bZ S e.2
 | [],k,e,h,_=>by cases h
 | (o',S)::l,k,e,h,h2=>by
  simp only[ways] at h;split at h
  ·rename_i ds hx;cases h;cases ho:KU o' o with
   | false=>rw[ho] at hx;cases hx
   | true=>
    rw[ho] at hx;have:=ame ho;subst this;cases l with
    | nil=>
     simp only[nP,eX,mT] at h2;exact ⟨h2.1.symm,S,hx,h2.2.symm⟩
    | cons p l=>
     simp only[nP,nG,cond_true,eX,mT] at h2;exact ⟨h2.1.symm,S,hx,h2.2.symm⟩
  ·have rm:=abO h;cases l with
   | nil=>cases h
   | cons p l=>
    have cm:Nat.beq e.1 k=false:=by
     cases hb:Nat.beq e.1 k with
     | false=>rfl
     | true=>rw[ba] at hb;omega
    simp only[nP,cm,cond_false] at h2;exact R8 h h2
theorem amf (hC:oP P A C) (hP:lP P A) (rq:P.follows .mixedOrders=true) {f n m:Nat} (hm: ∀id blk,hp0 id=some blk→id<m) (lR:zJ hp0):
  ∀(c:Code) {st st':St} {out:Out} {Q:Exit→Act→World→Prop} {a:Act} {w:World},exec P A C f n m c st=some (out,st')→Inv P A.idle A.aL B M w0 μ hp0 n a w st→
   (∀a' w',Inv P A.idle A.aL B M w0 μ hp0 n a' w' st'→Q (Cg out) a' w')→c.wp P Q a w:=by
 intro c
 induction c with
 | skip=>
  intro st st' out Q a w h hI hQ;simp only[exec,eX,mT] at h;obtain ⟨rfl,rfl⟩:=h;exact wp_skip (hQ a w hI)
 | exit id=>
  intro st st' out Q a w h hI hQ;simp only[exec,eX,mT] at h;obtain ⟨rfl,rfl⟩:=h;exact wp_exit (hQ a w hI)
 | ret=>
  intro st st' out Q a w h hI hQ;simp only[exec,eX,mT] at h;obtain ⟨rfl,rfl⟩:=h;exact wp_ret (hQ a w hI)
 | region id ops draw=>
  intro st st' out Q a w h hI hQ;simp only[exec] at h;obtain ⟨lQ,h1,h2⟩:=bind_some h;simp only[eX,mT] at h2;obtain ⟨rfl,rfl⟩:=h2;obtain ⟨I,β,S,hA,hE⟩:=hI;refine al2 (hC.here f id) (hP.here f id) rq h1 S hA fun a' w' I' β' k1 k2 k3=> ?_;obtain ⟨I2,cT,l1,l2,l3⟩:=abz (m:=m) (pur:=A.pur f id) k2 k3;have hE2:=(hE.trans k1.B4).trans l1.B4;exact hQ a' w' (Inv.canon ⟨I2,cT,l2,l3,hE2⟩ hm lR)
 | seq x y jm jn=>
  intro st st' out Q a w h hI hQ;simp only[exec] at h;obtain ⟨⟨o1,lQ⟩,h1,h2⟩:=bind_some h;refine wp_seq (jm h1 hI fun a' w' nh=> ?_);cases o1 with
  | norm=>exact jn h2 nh hQ
  | exit id=>
   simp only[eX,mT] at h2;obtain ⟨rfl,rfl⟩:=h2;exact hQ a' w' nh
  | ret=>
   simp only[eX,mT] at h2;obtain ⟨rfl,rfl⟩:=h2;exact hQ a' w' nh
 | cond c x y jm jn=>
  intro st st' out Q a w h hI hQ;cases c with
  | tmp t=>
   have go: ∀{st st':St} {out:Out} {Q:Exit→Act→World→Prop} {a:Act} {w:World},(match st.sl t with
     | .bool b=>(bif b then exec P A C f n m x st else exec P A C f n m y st).bind fun r=>
      match r.1 with
      | .norm=>some (.norm,AM.canon m (A.join f t) r.2)
      | _=>some r
     | _=>none)=some (out,st')→Inv P A.idle A.aL B M w0 μ hp0 n a w st→(∀a' w',Inv P A.idle A.aL B M w0 μ hp0 n a' w' st'→Q (Cg out) a' w')→(Code.cond (.tmp t) x y).wp P Q a w:=by
    intro st st' out Q a w h hI hQ;cases hs:st.sl t<;>rw[hs] at h<;>simp only at h<;>first|(cases h;done)|skip
    rename_i b;obtain ⟨⟨o1,lQ⟩,h1,h2⟩:=bind_some h;obtain ⟨I,β,S,hA,hE⟩:=hI;have iu:a.eval (.tmp t)= .bool b:=by
     have:=aa9 hA hs;simp[Act.eval,this]
    have fin: ∀a' w',Inv P A.idle A.aL B M w0 μ hp0 n a' w' lQ→Q (Cg o1) a' w':=by
     intro a' w' nh;cases o1 with
     | norm=>
      simp only[eX,mT] at h2;obtain ⟨rfl,rfl⟩:=h2;exact hQ a' w' (nh.canon hm lR)
     | exit id=>
      simp only[eX,mT] at h2;obtain ⟨rfl,rfl⟩:=h2;exact hQ a' w' nh
     | ret=>
      simp only[eX,mT] at h2;obtain ⟨rfl,rfl⟩:=h2;exact hQ a' w' nh
    refine wp_cond iu ?_;cases b with
    | true=>exact jm h1 ⟨I,β,S,hA,hE⟩ fin
    | false=>exact jn h1 ⟨I,β,S,hA,hE⟩ fin
   simp only[exec] at h;split at h
   ·exact go h hI hQ
   ·obtain ⟨ds,h1,h2⟩:=bind_some h;obtain ⟨e,h3,h4⟩:=bind_some h2;obtain ⟨⟨o1,s1⟩,h5,h6⟩:=bind_some h3;obtain ⟨rfl,S',k1,rfl⟩:=R8 h6 h4;exact go h5 (hI.reshape h1 hm) fun a' w' nh=>hQ a' w' (nh.reshape k1 hm)
  | const v=>
   cases v with
   | bool b=>
    simp only[exec] at h;refine wp_cond (t:=b) rfl ?_;cases b with
    | true=>exact jm h hI hQ
    | false=>exact jn h hI hQ
   | _=>simp only[exec] at h;cases h
  | _=>simp only[exec] at h;cases h
 | block id c ih=>
  intro st st' out Q a w h hI hQ;simp only[exec] at h;obtain ⟨⟨o1,lQ⟩,h1,h2⟩:=bind_some h;refine wp_block (ih h1 hI fun a' w' nh=> ?_);cases o1 with
  | norm=>
   simp only[eX,mT] at h2;obtain ⟨rfl,rfl⟩:=h2;exact hQ a' w' (nh.canon hm lR)
  | exit ax=>
   simp only at h2;cases hb:Nat.beq ax id with
   | true=>
    rw[hb] at h2;simp only[cond_true,eX,mT] at h2;obtain ⟨rfl,rfl⟩:=h2;rw[ba] at hb;simp only[Cg,Exit.inBlock,hb,kR];exact hQ a' w' (nh.canon hm lR)
   | false=>
    rw[hb] at h2;simp only[cond_false,eX,mT] at h2;obtain ⟨rfl,rfl⟩:=h2;have cm:ax≠id:=fun e=>by rw[e,nG] at hb;cases hb
    simp only[Cg,Exit.inBlock,cm,mi];exact hQ a' w' nh
  | ret=>
   simp only[eX,mT] at h2;obtain ⟨rfl,rfl⟩:=h2;exact hQ a' w' nh
 | loop c ih=>
  intro st st' out Q a w h hI hQ;simp only[exec] at h;split at h
  ·cases h
  ·rename_i S hS;obtain ⟨ds,h1,h2⟩:=bind_some h;obtain ⟨e,h3,h4⟩:=bind_some h2;obtain ⟨k,hk⟩:=Br h3;refine amd (J:=fun k a w=> ∃ds,Inv P A.idle A.aL B M w0 μ hp0 n a w (bZ S.1 ds)∧gP (fun ds=>pd m S.1 S.2 (exec P A C f n m c (bZ S.1 ds))) k ds=some e) (fun a w ⟨s,_,h⟩=>by cases h) (fun k a w ⟨ds,hs,hk⟩=> ?_) ⟨ds,hI.reshape h1 hm,hk⟩;simp only[gP] at hk;obtain ⟨y,h5,h6⟩:=bind_some hk;unfold pd at h5;obtain ⟨⟨o1,s1⟩,h7,h8⟩:=bind_some h5;refine ih h7 hs fun a' w' nh=> ?_;have abP: ∀{e':Nat×List V},ways m 0 S.2 (o1,s1)=some e'→e'=e→Q (Cg o1) a' w':=by
    intro e' q1 q2;subst q2;obtain ⟨rfl,S',k1,rfl⟩:=R8 q1 h4;exact hQ a' w' (nh.reshape k1 hm)
   cases o1 with
   | norm=>
    obtain ⟨ds2,q1,q2⟩:=bind_some h8;cases q2;exact ⟨ds2,nh.reshape q1 hm,h6⟩
   | exit id=>
    obtain ⟨e',q1,q2⟩:=bind_some h8;cases q2;cases h6;exact abP q1 rfl
   | ret=>
    obtain ⟨e',q1,q2⟩:=bind_some h8;cases q2;cases h6;exact abP q1 rfl
 | _=>intro st st' out Q a w h;simp only[exec] at h;cases h
end
section
variable {P:Program} {A:dH} {w w':World} {I I' I2:Nat→Nat→Prop} {μ β β' cT:Nat→Option Nat} {hp hp' hp0:Nat→Option af} {C:ae} {B:Nat} {M:Nat→Prop} {w0:Start}
theorem Mf (S:aB P w I β hp B M w0) {a:Act} {st:St} (hs:nR P w I β hp a st.sl): ∀{l:List ResultVar} {xs:List V} {rd:List Nat},(yV P st l).run C hp=some (xs,rd)→
  ∃vs:List Value,(l.mapM fun| .tmp t=>Pure.pure (a.tmps.getD t undef)| .cell x t=>do loadVar t (←asAddr (a.tmps.getD x undef)):Sem (List Value)).run P w= .ok vs w∧vs.length=xs.length∧l.length=xs.length∧
   ∀(j:Nat) v x,vs[j]? =some v→xs[j]? =some x→ai P w I β hp v x
 | [],xs,rd,h=>by
  cases h;simp_all
 | .tmp t::l,xs,rd,h=>by
  simp only[yV] at h;obtain ⟨ys,l1,l2,h1,h2⟩:=oF h;have h3:=Qy h2;subst h3;obtain ⟨vs,a1,a2,a3,a4⟩:=Mf S hs h1;refine ⟨a.tmps.getD t undef::vs,by simp_all,by simp[a2],by simp[a3],fun j v x hj hx=> ?_⟩;cases j with
  | zero=>simp at hj hx;subst hj;subst hx;have:=hs t;simp_all
  | succ j=>grind
 | .cell y t::l,xs,rd,h=>by
  simp only[yV] at h;obtain ⟨r,l1,l2,h1,h2⟩:=oF h;obtain ⟨ys,l3,l4,h3,h4⟩:=oF h2;have h5:=Qy h4;subst h5;obtain ⟨v0,b1,b2,b3,ad,b4⟩:=ZA S (hs y) h1;obtain ⟨vs,a1,a2,a3,a4⟩:=Mf S hs h3;refine ⟨v0::vs,?_,by simp[a2],by simp[a3],fun j v x hj hx=> ?_⟩
  ·have e1:(do loadVar t (←asAddr (a.tmps.getD y undef)):Sem Value).run P w= .ok v0 w:=by
    rw[b4] at b1⊢;simpa[Instr.loadAt,Instr.sureAddr,asAddr] using b1
   simp only[List.mapM_cons,Sem.run_bind,e1,Result.andThen_ok,a1,Sem.run_pure]
  grind
def zK:List Value→Value
 | [v]=>v
 | l=> .tuple l.toArray
theorem amg {vs:List Value} (h:vs.length≠1):zK vs= .tuple vs.toArray:=by
 match vs,h with
 | [],_=>rfl
 | [v],h=>simp at h
 | v::v2::l,_=>rfl
theorem amh {fn:Func} {a:Act} {st:St} (S:aB P w I β st.hp B M w0) (hs:nR P w I β st.hp a st.sl) {xs:List V} {rd:List Nat} (h:(yV P st fn.results.toList).run C st.hp=some (xs,rd)):
  ∃vs:List Value,(results fn a.tmps).run P w= .ok (zK vs) w∧vs.length=xs.length∧
   ∀(j:Nat) v x,vs[j]? =some v→xs[j]? =some x→ai P w I β st.hp v x:=by
 obtain ⟨vs,a1,a2,_,a4⟩:=Mf S hs h;refine ⟨vs,?_,a2,a4⟩;unfold results;rw[Array.mapM_eq_mapM_toList];simp only[map_eq_pure_bind,bind_assoc,pure_bind,Sem.run_bind];refine (congrArg (fun r:Result (List Value)=>r.andThen _) a1).trans ?_;simp only[Result.andThen_ok,Sem.run_pure]
 match vs with
 | []=>simp[zK]
 | [v]=>simp[zK]
 | v::v2::l=>simp[zK]
theorem abQ: ∀{args:List V} {i k:Nat},fI (qZ i args) k=if i≤k then args[k-i]? else none
 | [],i,k=>by simp[qZ,fI]
 | v::vs,i,k=>by
  simp only[qZ,fI];cases hb:Nat.beq k i with
  | true=>
   simp_all
  | false=>
   have cm:k≠i:=fun e=>by simp_all
   simp only[cond_false,abQ];grind
theorem R9: ∀{l:List (Nat×VS)} {ds:List V} {i k:Nat},kV i l=true→fI (iL l ds) k=if i≤k then (ji (l.map (·.2)) ds)[k-i]? else none
 | [],ds,i,k,_=>by simp[iL,ji,fI]
 | (q,s)::l,ds,i,k,h=>by
  simp only[kV,aK,ba] at h;obtain ⟨rfl,h⟩:=h;simp only[iL,fI,iS,ji];cases hb:Nat.beq k q with
  | true=>
   simp_all
  | false=>
   have cm:k≠q:=fun e=>by simp_all
   simp only[cond_false];rw[R9 h];grind
theorem abR: ∀{l:List (Nat×VS)} {ds:List V},(iL l ds).map (·.2)=ji (l.map (·.2)) ds
 | [],_=>rfl
 | (q,s)::l,ds=>by simp only[iL,iS,ji,abR]
theorem Sa: ∀{l:List VS} {ds:List V},(ji l ds).length=l.length
 | [],_=>rfl
 | s::l,ds=>by simp only[ji,List.length_cons,Sa]
theorem abS: ∀{l:List (Nat×VS)} {ds:List V},(iL l ds).length=l.length
 | [],_=>rfl
 | (q,s)::l,ds=>by simp only[iL,List.length_cons,abS]
theorem ami {vals:List Value} {l:List (Nat×V)} (hl:vals.length=l.length) (h: ∀(j:Nat) v y,vals[j]? =some v→(l.map (·.2))[j]? =some y→ai P w I β hp v y):ai P w I β hp (zK vals) (tF l):=by
 match l,hl,h with
 | [],hl,h=>
  obtain rfl:vals=[]:=o0 hl;exact .bK rfl fun j v x _ hx=>by simp at hx
 | [(k,y)],hl,h=>
  match vals,hl,h with
  | [v],_,h=>exact h 0 v y rfl rfl
 | a::b::l,hl,h=>
  have cm:vals.length≠1:=by grind
  rw[amg cm];simp only[tF];exact .bK (by simp[hl]) fun j v y hj hy=>h j v y (by grind) hy
theorem amj {l:List BS} {ds:List V} {j:Nat} {e:TypeId} {es:List V} {vers:List Nat} (h:(gQ l ds)[j]? =some (.nest e es vers)) (k:Nat):bM vers k=0:=by
 obtain ⟨b,kh,_,h2⟩:=LU h;cases b<;>simp only[jk] at h2<;>cases h2
 match k with
 | 0=>rfl
 | 1=>rfl
 | 2=>rfl
 | _+3=>rfl
theorem amk {f n m:Nat} {fn:Func} {a:Act} {st:St} {es:List V} {rd:List Nat} (hm: ∀id blk,hp0 id=some blk→id<m) (lR:zJ hp0)
  (hI:Inv P A.idle A.aL B M w0 μ hp0 n a w st) (ue:kV 0 (A.iJ f).cC=true) (bw:(A.iJ f).cC.length=fn.results.size) (h:(yW P A f fn m st).run C st.hp=some (es,rd)):
  ∃v I2 cT,(results fn a.tmps).run P w= .ok v w∧aB P w I2 cT (bZ (A.so f es) (A.lv f es)).hp B M w0∧oO w0.w w0.I μ hp0 w I2 cT (bZ (A.so f es) (A.lv f es)).hp∧ai P w I2 cT (bZ (A.so f es) (A.lv f es)).hp v (tF (iL (A.so f es).cC (A.lv f es))):=by
 unfold yW at h;obtain ⟨xs,l1,l2,h1,h2⟩:=oF h;obtain ⟨I,β,S,hA,hE⟩:=hI;obtain ⟨vals,e1,e2,e3⟩:=amh S hA.sl h1;have e4:fn.results.size=xs.length:=by
  obtain ⟨_,_,_,q,_⟩:=Mf S hA.sl h1;omega
 have fin: ∀(Sx:Shape) (es:List V),kV 0 Sx.cC=true→Sx.cC.length=fn.results.size→lI m Sx (canon m (List.range xs.length) (freeze m (A.yQ f) ⟨mq (qZ 0 xs),st.hp,st.nb⟩))=some es→
   ∃v I2 cT,(results fn a.tmps).run P w= .ok v w∧aB P w I2 cT (bZ Sx es).hp B M w0∧oO w0.w w0.I μ hp0 w I2 cT (bZ Sx es).hp∧ai P w I2 cT (bZ Sx es).hp v (tF (iL Sx.cC es)):=by
  intro Sx es ue bw Ch;have hA0:iC P A.idle A.aL w I β vals.length ⟨vals.toArray,[]⟩ ⟨mq (qZ 0 xs),st.hp,st.nb⟩:=by
   refine ⟨fun k=> ?_,by simp,by simp,hA.aL⟩;change ai P w I β st.hp _ (mq (qZ 0 xs) k);unfold mq;rw[abQ];simp only[nH,kR,Nat.sub_zero];cases hk:xs[k]? with
   | none=>exact .undef
   | some x=>
    have qm:k<vals.length:=by grind
    have:=e3 k vals[k] x (cp qm) hk;have e5:(vals.toArray).getD k undef=vals[k]:=by simp[qm]
    grind
  obtain ⟨I2,cT,k1,k2,k3⟩:=abz (st:=⟨mq (qZ 0 xs),st.hp,st.nb⟩) (m:=m) (pur:=A.yQ f) S hA0;have hI2:Inv P A.idle A.aL B M w0 μ hp0 vals.length ⟨vals.toArray,[]⟩ w (freeze m (A.yQ f) ⟨mq (qZ 0 xs),st.hp,st.nb⟩):=⟨I2,cT,k2,k3,hE.trans k1.B4⟩
  obtain ⟨I3,β3,q1,q2,q3⟩:=(hI2.canon (live:=List.range xs.length) hm lR).reshape Ch hm;refine ⟨zK vals,I3,β3,e1,q1,q3,ami (by rw[abS,bw,e4,e2]) fun j v y hj hy=> ?_⟩;have hv:=q2.sl j;have eD:=(cO.1 hj).1;have e5:(vals.toArray).getD j undef=v:=by
   simp_all
  change ai P w I3 β3 _ ((vals.toArray).getD j undef) (mq (iL Sx.cC _) j) at hv;rw[e5] at hv;unfold mq at hv;rw[R9 ue] at hv;simp only[nH,kR,Nat.sub_zero] at hv;rw[abR] at hy;grind
 unfold dH.so dH.lv;cases dK:A.alt f with
 | none=>
  rw[dK] at h2;simp only at h2⊢;split at h2
  ·rename_i kh Ch;have:=aZ h2;grind
  ·cases h2
 | some S2=>
  rw[dK] at h2;simp only at h2⊢;split at h2
  ·rename_i kh Ch;have:=aZ h2;subst this;exact fin _ _ ue bw Ch
  ·split at h2
   ·rename_i kh Ch;obtain ⟨hc,h3⟩:=aH h2;simp only[aK,ba] at hc;have:=aZ h3;subst this;exact fin _ _ hc.1 hc.2 Ch
   ·cases h2
theorem aml (hC:oP P A C) (hP:lP P A) (rq:P.follows .mixedOrders=true):oP P A (sj P A C):=by
 intro f ds es h;unfold sj at h;cases hf:P.funcs[A.jI f]? with
 | none=>grind
 | some fn=>
  rw[hf] at h;simp only at h;cases hb:fn.body with
  | none=>grind
  | some c=>
   rw[hb] at h;simp only at h;cases hc:(kV 0 (A.sin f).cC&&(Nat.ble (A.sin f).cC.length fn.ntmps&&((A.sin f).ok&&(kV 0 (A.iJ f).cC&&(Nat.beq (A.iJ f).cC.length fn.results.size&&sh (qe (A.sin f).dr.length (A.mv f))))))) with
   | false=>grind
   | true=>
    rw[hc] at h;simp only[cond_true] at h;simp only[aK,ba,fo] at hc;obtain ⟨ja,hnt,_,tY,bw,n0⟩:=hc;obtain ⟨⟨out,st'⟩,h1,h2⟩:=bind_some h;refine ⟨fn,c,rfl,hb,fun w I μ vals hH hgl hl hv=> ?_⟩;have amm:(∀id,out≠ .exit id)∧∃rd,(yW P A f fn (A.sin f).dr.length st').run C st'.hp=some (es,rd):=by
     cases out with
     | exit id=>cases h2
     | norm=>
      simp_all
     | ret=>
      simp_all
    obtain ⟨cm,rd,RE⟩:=amm;refine calls_of_wp_defers hf hb ?_;have hm: ∀id blk,(bZ (A.sin f) ds).hp id=some blk→id<(A.sin f).dr.length:=by
     intro id blk ab;simp only[bZ,mk,kG] at ab;have:=(cO.1 ab).1;rwa [Me] at this
    have lR:zJ (bZ (A.sin f) ds).hp:=by
     intro id e es vers ab k;simp only[bZ,mk,kG] at ab;rcases ab with ab|⟨i,ab⟩
     ·exact amj ab k
     ·obtain ⟨b,_,_,h⟩:=LU ab;cases b<;>cases h
    refine amf (w0:=⟨w,I⟩) (μ:=μ) (hp0:=(bZ (A.sin f) ds).hp) (B:=w.heap.size) (M:=sO P w μ (bZ (A.sin f) ds).hp) hC hP rq hm lR c h1 ?_ ?_
    ·refine Inv.enter n0 ?_ hm lR fun p hp=>by
      simp only[bZ,mk,kG];rw[List.getElem?_eq_none_iff,Me];exact hp
     refine ⟨I,μ,⟨hH,fun _ _ _=>rfl,az _,fun b j h=> .inl h,⟨rfl,rfl⟩⟩,⟨fun k=> ?_,?_,by simp,hgl⟩,(Le.refl (P:=P) w I μ _).B4⟩
     ·change ai P w I μ _ _ (mq (iL (A.sin f).cC ds) k);unfold mq;rw[R9 ja];simp only[nH,kR,Nat.sub_zero];cases hk:(ji ((A.sin f).cC.map (·.2)) ds)[k]? with
      | none=>exact .undef
      | some x=>
       have qm:k<vals.length:=by
        have:=(cO.1 hk).1;rw[Sa,cH] at this;omega
       have:=hv k vals[k] x (cp qm) hk;have e1:(vals.toArray++Array.replicate (fn.ntmps-vals.toArray.size) undef).getD k undef=vals[k]:=by
        simp[Array.getElem?_append,qm]
       grind
     grind
    ·intro a' w' hI;obtain ⟨v,I2,cT,q1,q2,q3,q4⟩:=amk hm lR hI tY bw RE;obtain ⟨_,_,_,hA,_⟩:=hI;cases out with
     | exit id=>grind
     | norm=>exact RT hP q1 ⟨v,I2,cT,rfl,q2,q3,q4⟩ _ hA.defers
     | ret=>exact RT hP q1 ⟨v,I2,cT,rfl,q2,q3,q4⟩ _ hA.defers
theorem abT (hP:lP P A) (rq:P.follows .mixedOrders=true): ∀n,oP P A (nQ P A n)
 | 0=>fun _ _ _ h=>by cases h
 | n+1=>aml (abT hP rq n) hP rq
theorem amn (hP:lP P A) (rq:P.follows .mixedOrders=true):oP P A (Call P A):=by
 intro f ds es h;have hn: ∃n,nQ P A n f ds=some es:=by
  unfold Call at h;split at h
  all_goals grind
 obtain ⟨n,hn⟩:=hn;exact abT hP rq n f ds es hn
end
section
variable {P:Program} {A:dH} {C:ae} {D:Nat→ae}
def FM (C:ae) (D:Nat→ae):Prop:= ∀f a r,C f a=some r→∃n,∀k,n≤k→D k f a=some r
theorem uj {α:Type} (h:FM C D) {hp:Nat→Option af}: ∀{p:Rd α} {r:α×List Nat},p.run C hp=some r→∃n,∀k,n≤k→p.run (D k) hp=some r
 | .ret a,r,e=>⟨0,fun _ _=>e⟩
 | .fail,r,e=>by cases e
 | .get id q,r,e=>by
  obtain ⟨x,h1,h2⟩:=bind_some e;obtain ⟨n,hn⟩:=uj h h1;exact ⟨n,fun k hk=>by simp only[Rd.run,hn k hk,Option.bind_some];exact h2⟩
 | .opt o q,r,e=>by
  obtain ⟨x,h1,h2⟩:=bind_some e;obtain ⟨n,hn⟩:=uj h h2;exact ⟨n,fun k hk=>by simp only[Rd.run,h1,Option.bind_some];exact hn k hk⟩
 | .live id ok q,r,e=>by
  simp only[Rd.run] at e;cases hk:ok (jH (hp id)) with
  | false=>rw[hk] at e;cases e
  | true=>
   rw[hk] at e;obtain ⟨x,h1,h2⟩:=bind_some e;obtain ⟨n,hn⟩:=uj h h1;exact ⟨n,fun k uh=>by simp only[Rd.run,hk,cond_true,hn k uh,Option.bind_some];exact h2⟩
 | .aD b q,r,e=>by
  obtain ⟨h1,h2⟩:=aH e;obtain ⟨n,hn⟩:=uj h h2;exact ⟨n,fun k hk=>by simp only[Rd.run,h1,cond_true];exact hn k hk⟩
 | .call f a q,r,e=>by
  obtain ⟨x,h1,h2⟩:=bind_some e;obtain ⟨n1,ja⟩:=h f a x h1;obtain ⟨n2,tY⟩:=uj h h2;exact ⟨max n1 n2,fun k hk=>by simp only[Rd.run,ja k (by omega),Option.bind_some];exact tY k (by omega)⟩
 | .alt true x y,r,e=>uj (p:=x) h e
 | .alt false x y,r,e=>uj (p:=y) h e
theorem amo (h:FM C D) {n i nb:Nat} {ops:Array Oper} {o:Oper} {st:St} {r:St×List Nat×List Nat} (e:ku P A C n ops i o nb st=some r): ∃N,∀k,N≤k→ku P A (D k) n ops i o nb st=some r:=by
 unfold ku at e;have go:(((iU P A st.sl i (nb+64*i) o).run C st.hp).bind fun r=>some ((⟨kU st.sl o.dst r.1.v,cB st.hp r.1.upd,st.nb⟩:St),vj r.2 r.1.upd,jl st.hp r.1.upd))=some r→
   ∃N,∀k,N≤k→(((iU P A st.sl i (nb+64*i) o).run (D k) st.hp).bind fun r=>some ((⟨kU st.sl o.dst r.1.v,cB st.hp r.1.upd,st.nb⟩:St),vj r.2 r.1.upd,jl st.hp r.1.upd))=some r:=by
  intro e;obtain ⟨x,h1,h2⟩:=bind_some e;obtain ⟨N,hN⟩:=uj h h1;exact ⟨N,fun k hk=>by rw[hN k hk];exact h2⟩
 unfold ku;cases hd:w8 o n with
 | false=>rw[hd] at e;cases e
 | true=>
  rw[hd] at e;simp only[cond_true] at e⊢;cases hg:o.guard with
  | none=>rw[hg] at e;exact go e
  | some gw=>
   obtain ⟨g,want⟩:=gw;rw[hg] at e;simp only at e⊢;cases pw:(ops[g]?).bind (·.dst) with
   | none=>rw[pw] at e;cases e
   | some d=>
    rw[pw] at e;simp only at e⊢;cases qp:o7 (st.sl d) with
    | none=>rw[qp] at e;cases e
    | some ob=>
    rw[qp] at e;cases ob with
    | none=>exact ⟨0,fun _ _=>e⟩
    | some b=>
    simp only at e⊢;cases hb:b==want with
    | true=>rw[hb] at e;exact go e
    | false=>rw[hb] at e;exact ⟨0,fun _ _=>e⟩
theorem abU (h:FM C D) {n nb:Nat} {ops:Array Oper}: ∀{l:List (Nat×Oper)} {st:St} {log:Log} {r:St×Log},tG P A C n ops nb l st log=some r→∃N,∀k,N≤k→tG P A (D k) n ops nb l st log=some r
 | [],st,log,r,e=>⟨0,fun _ _=>e⟩
 | (i,o)::l,st,log,r,e=>by
  obtain ⟨x,h1,h2⟩:=bind_some e;obtain ⟨N1,sQ⟩:=amo h h1;obtain ⟨N2,vK⟩:=abU h h2;exact ⟨max N1 N2,fun k hk=>by simp only[tG,sQ k (by omega),Option.bind_some];exact vK k (by omega)⟩
theorem abV {X R:Type} {step:X→Option (X ⊕ R)} {stepD:Nat→X→Option (X ⊕ R)} (hs: ∀x y,step x=some y→∃N,∀k,N≤k→stepD k x=some y): ∀(n:Nat) (x:X) (r:R),gP step n x=some r→∃N,∀k,N≤k→gP (stepD k) n x=some r
 | 0,x,r,e=>by cases e
 | n+1,x,r,e=>by
  simp only[gP] at e⊢;obtain ⟨y,h1,h2⟩:=bind_some e;obtain ⟨N1,sQ⟩:=hs x y h1;cases y with
  | inl z=>
   obtain ⟨N2,vK⟩:=abV hs n z r h2;exact ⟨max N1 N2,fun k hk=>by rw[sQ k (by omega)];exact vK k (by omega)⟩
  | inr q=>exact ⟨N1,fun k hk=>by rw[sQ k hk];exact h2⟩
theorem amp (h:FM C D) {f n m:Nat}: ∀(c:Code) {st:St} {r:Out×St},exec P A C f n m c st=some r→∃N,∀k,N≤k→exec P A (D k) f n m c st=some r:=by
 intro c
 induction c with
 | skip=>exact fun e=>⟨0,fun _ _=>e⟩
 | exit id=>exact fun e=>⟨0,fun _ _=>e⟩
 | ret=>exact fun e=>⟨0,fun _ _=>e⟩
 | region id ops draw=>
  intro st r e;simp only[exec] at e⊢;obtain ⟨x,h1,h2⟩:=bind_some e;obtain ⟨y,h3,h4⟩:=bind_some h1;obtain ⟨N,hN⟩:=abU h h3;refine ⟨N,fun k hk=> ?_⟩;have:BD P (A.here f id) (D k) n ops draw st=some x:=by
   unfold BD;rw[hN k hk];exact h4
  rw[this];exact h2
 | seq x y jm jn=>
  intro st r e;simp only[exec] at e⊢;obtain ⟨⟨o,s1⟩,h1,h2⟩:=bind_some e;obtain ⟨N1,sQ⟩:=jm h1;cases o with
  | norm=>
   obtain ⟨N2,vK⟩:=jn h2;exact ⟨max N1 N2,fun k hk=>by rw[sQ k (by omega)];exact vK k (by omega)⟩
  | exit id=>exact ⟨N1,fun k hk=>by rw[sQ k hk];exact h2⟩
  | ret=>exact ⟨N1,fun k hk=>by rw[sQ k hk];exact h2⟩
 | cond c x y jm jn=>
  intro st r e;cases c with
  | tmp t=>
   have go: ∀{st:St} {r:Out×St},(match st.sl t with
     | .bool b=>(bif b then exec P A C f n m x st else exec P A C f n m y st).bind fun r=>
      match r.1 with
      | .norm=>some (.norm,canon m (A.join f t) r.2)
      | _=>some r
     | _=>none)=some r→∃N,∀k,N≤k→(match st.sl t with
     | .bool b=>(bif b then exec P A (D k) f n m x st else exec P A (D k) f n m y st).bind fun r=>
      match r.1 with
      | .norm=>some (.norm,canon m (A.join f t) r.2)
      | _=>some r
     | _=>none)=some r:=by
    intro st r e;cases hs:st.sl t<;>rw[hs] at e<;>simp only at e⊢ <;>first|(cases e;done)|skip
    rename_i b;obtain ⟨x1,h1,h2⟩:=bind_some e;cases b with
    | true=>
     obtain ⟨N,hN⟩:=jm h1;exact ⟨N,fun k hk=>by simp only[cond_true,hN k hk,Option.bind_some];exact h2⟩
    | false=>
     obtain ⟨N,hN⟩:=jn h1;exact ⟨N,fun k hk=>by simp only[cond_false,hN k hk,Option.bind_some];exact h2⟩
   simp only[exec] at e⊢;split at e
   ·rename_i hS;obtain ⟨N,hN⟩:=go e;exact ⟨N,fun k hk=>hN k hk⟩
   ·rename_i S hS;obtain ⟨ds,h1,h2⟩:=bind_some e;obtain ⟨e',h3,h4⟩:=bind_some h2;obtain ⟨r1,h5,h6⟩:=bind_some h3;obtain ⟨N,hN⟩:=go h5;refine ⟨N,fun k hk=> ?_⟩
    try rw[hS]
    simp only[h1,Option.bind_some];exact (congrArg (fun z:Option (Out×St)=>(z.bind fun r=>ways m 0 S.2 r).bind fun e=>nP 0 S.2 e.1 e.2 fun o st=>some (o,st)) (hN k hk)).trans (by simp only[Option.bind_some,h6];exact h4)
  | const v=>
   cases v with
   | bool b=>
    simp only[exec] at e⊢;cases b with
    | true=>exact jm e
    | false=>exact jn e
   | _=>simp only[exec] at e;cases e
  | _=>simp only[exec] at e;cases e
 | block id c ih=>
  intro st r e;simp only[exec] at e⊢;obtain ⟨x1,h1,h2⟩:=bind_some e;obtain ⟨N,hN⟩:=ih h1;exact ⟨N,fun k hk=>by rw[hN k hk];exact h2⟩
 | loop c ih=>
  intro st r e;simp only[exec] at e⊢;split at e
  ·cases e
  ·rename_i S hS;obtain ⟨ds,h1,h2⟩:=bind_some e;obtain ⟨e',h3,h4⟩:=bind_some h2;obtain ⟨q,hq⟩:=Br h3;obtain ⟨N,hN⟩:=abV (stepD:=fun k ds=>pd m S.1 S.2 (exec P A (D k) f n m c (bZ S.1 ds))) (fun x y FN=>by
    unfold pd at FN⊢;obtain ⟨z,h5,h6⟩:=bind_some FN;obtain ⟨N,hN⟩:=ih h5;exact ⟨N,fun k hk=>by rw[hN k hk];exact h6⟩) q ds e' hq
   refine ⟨N,fun k hk=> ?_⟩
   try rw[hS]
   simp only[h1,Option.bind_some];rw[Bq (hN k hk)];exact h4
 | _=>intro st r e;simp only[exec] at e;cases e
theorem Mg (h:FM C D) {f:Nat} {ds es:List V} (e:sj P A C f ds=some es): ∃N,∀k,N≤k→sj P A (D k) f ds=some es:=by
 unfold sj at e⊢;cases hf:P.funcs[A.jI f]? with
 | none=>rw[hf] at e;cases e
 | some fn=>
  rw[hf] at e;simp only at e⊢;cases hb:fn.body with
  | none=>rw[hb] at e;cases e
  | some c=>
   rw[hb] at e;simp only at e⊢;cases hc:(kV 0 (A.sin f).cC&&(Nat.ble (A.sin f).cC.length fn.ntmps&&((A.sin f).ok&&(kV 0 (A.iJ f).cC&&(Nat.beq (A.iJ f).cC.length fn.results.size&&sh (qe (A.sin f).dr.length (A.mv f))))))) with
   | false=>rw[hc] at e;cases e
   | true=>
    rw[hc] at e;simp only[cond_true] at e⊢;obtain ⟨⟨o,s1⟩,h1,h2⟩:=bind_some e;obtain ⟨N1,sQ⟩:=amp h c h1;cases o with
    | exit id=>cases h2
    | norm=>
     simp only[Option.map_eq_some_iff] at h2;obtain ⟨x,e1,e2⟩:=h2;obtain ⟨N2,vK⟩:=uj h e1;exact ⟨max N1 N2,fun k hk=>by rw[sQ k (by omega)];simp only[Option.bind_some,vK k (by omega),Option.map_some,e2]⟩
    | ret=>
     simp only[Option.map_eq_some_iff] at h2;obtain ⟨x,e1,e2⟩:=h2;obtain ⟨N2,vK⟩:=uj h e1;exact ⟨max N1 N2,fun k hk=>by rw[sQ k (by omega)];simp only[Option.bind_some,vK k (by omega),Option.map_some,e2]⟩
theorem abW: ∀n f a r,nQ P A n f a=some r→nQ P A (n+1) f a=some r
 | 0,f,a,r,h=>by cases h
 | n+1,f,a,r,h=>by
  obtain ⟨N,hN⟩:=Mg (C:=nQ P A n) (D:=fun _=>nQ P A (n+1)) (fun f a r h=>⟨0,fun _ _=>abW n f a r h⟩) h;exact hN N (az _)
theorem Sb {n k:Nat} (hk:n≤k) {f:Nat} {a r:List V} (h:nQ P A n f a=some r):nQ P A k f a=some r:=by
 induction hk with
 | refl=>exact h
 | step _ ih=>exact abW _ _ _ _ ih
theorem FO {f:Nat} {a r:List V}:Call P A f a=some r↔∃n,nQ P A n f a=some r:=by
 constructor
 ·intro h;unfold Call at h;split at h
  ·rename_i hex;have:=hex.choose_spec.choose_spec;rw[ew h] at this;exact ⟨_,this⟩
  ·cases h
 ·rintro ⟨n,hn⟩;have hex: ∃n r,nQ P A n f a=some r:=⟨n,r,hn⟩
  unfold Call;rw[rW hex];have h2:=hex.choose_spec.choose_spec;have h3:=Sb (Nat.le_max_left n hex.choose) hn;have h4:=Sb (Nat.le_max_right n hex.choose) h2;rw[h3] at h4;exact h4.symm
theorem amq (f:Nat) (a:List V):Call P A f a=sj P A (Call P A) f a:=by
 apply Option.ext;intro r;constructor
 ·intro h;obtain ⟨n,hn⟩:=FO.1 h;cases n with
  | zero=>cases hn
  | succ n=>
   obtain ⟨N,hN⟩:=Mg (C:=nQ P A n) (D:=fun _=>Call P A) (fun f a r h=>⟨0,fun _ _=>FO.2 ⟨n,h⟩⟩) hn;exact hN N (az _)
 ·intro h;obtain ⟨N,hN⟩:=Mg (C:=Call P A) (D:=nQ P A) (fun f a r h=>by
   obtain ⟨n,hn⟩:=FO.1 h;exact ⟨n,fun k hk=>Sb hk hn⟩) h
  exact FO.2 ⟨N+1,hN N (az _)⟩
end
end Go.AM
namespace Go.AM
open Go.IntKind (wrap)
open Go.ChangeShapes Go.WideShapes Go.RowKit
section
variable (P:Program)
inductive WT:TypeId→V→Prop
 | int {t:TypeId} {k:IntKind} {n:Int}:P.underlying t=some (.int k)→(Lit.int k n).wf=true→WT t (.int k n)
 | bool {t:TypeId} {b:Bool}:P.underlying t=some .bool→WT t (.bool b)
 | str {t:TypeId} {l:List UInt8}:P.underlying t=some .string→l.length≤maxLen→WT t (.str l)
 | list {t e:TypeId} {es:List V}:P.underlying t=some (.slice e)→es.length≤maxLen→
   (∀(i:Nat) x,es[i]? =some x→cA P e=true→∃xs,x= .agg xs∧xs.length=(bc P e).length)→
   (∀(i j:Nat) x t',es[i]? =some x→(bc P e)[j]? =some t'→WT t' (cu P e x j))→WT t (.list e es)
def ni (t:TypeId) (x:V):Prop:=
 (cA P t=true→∃xs,x= .agg xs∧xs.length=(bc P t).length)∧∀(j:Nat) t',(bc P t)[j]? =some t'→WT P t' (cu P t x j)
def uY:List TypeId→List V→Prop
 | [],[]=>True
 | t::ts,x::xs=>ni P t x∧uY ts xs
 | _,_=>False
def hasB (L:List TypeId) (t:TypeId):Bool:=L.any fun u=>Nat.beq u t
def Mh (L:List TypeId):Nat→List Field→Bool
 | _,[]=>true
 | n,f::fs=>hasB L f.type&&(Nat.beq f.offset n&&(Nat.beq (P.cellsOf f.type) (bc P f.type).length&&Mh L (n+P.cellsOf f.type) fs))
def FP:List Nat→List Nat→Bool
 | [],[]=>true
 | a::l,b::m=>Nat.beq a b&&FP l m
 | _,_=>false
def Sd (L:List TypeId) (t:TypeId):Bool:=
 Nat.beq (P.cellsOf t) (bc P t).length&&
 match P.underlying t with
 | some (.int _)=>true
 | some .bool=>true
 | some .string=>true
 | some (.slice e)=>hasB L e&&dw P e
 | some (.struct fs)=>Mh P L 0 fs.toList&&FP (flat P t) (fs.toList.flatMap fun f=>bc P f.type)
 | some (.array n e)=>hasB L e&&(Nat.beq (P.cellsOf e) (bc P e).length&&FP (flat P t) (List.replicate n (bc P e)).flatten)
 | _=>false
def FQ (L:List TypeId):Bool:=L.all fun t=>Sd P L t
end
theorem Mi {L:List TypeId} {t:TypeId} (h:hasB L t=true):t∈L:=by
 obtain ⟨u,hu,h2⟩:=yK.1 h;rw[ba] at h2;exact h2▸hu
theorem Se: ∀{l m:List Nat},FP l m=true→l=m
 | [],[],_=>rfl
 | a::l,b::m,h=>by
  simp only[FP,aK,ba] at h;rw[h.1,Se h.2]
 | [],_::_,h=>by cases h
 | _::_,[],h=>by cases h
section
variable {P:Program} {H:Type} {enc:TypeId×Value→H} {w:World} {base:Nat} {spare:Nat→Bool} {held:Bool} {L:List TypeId}
def n8 (w:World):Nat→Nat→Prop:=fun b _=>b<w.heap.size
def rr (P:Program) (w:World) (ts:List TypeId) (cs:List Value) (xs:List V):Prop:=
 cs.length=ts.length∧xs.length=ts.length∧∀(j:Nat) t',ts[j]? =some t'→∃v y,cs[j]? =some v∧xs[j]? =some y∧Pure P w (n8 w) t' v y∧WT P t' y
theorem rr.app {ts tE:List TypeId} {cs ld:List Value} {xs xs':List V} (h:rr P w ts cs xs) (h':rr P w tE ld xs'):rr P w (ts++tE) (cs++ld) (xs++xs'):=by
 obtain ⟨a,b,c⟩:=h;obtain ⟨a',b',c'⟩:=h';refine ⟨by simp[a,a'],by simp[b,b'],fun j t' hj=> ?_⟩;by_cases bf:j<ts.length
 ·rw[o5 bf] at hj;obtain ⟨v,y,e1,e2,e3⟩:=c j t' hj;exact ⟨v,y,by rw[o5 (by omega)];exact e1,by rw[o5 (by omega)];exact e2,e3⟩
 ·rw[oB (by omega)] at hj;obtain ⟨v,y,e1,e2,e3⟩:=c' _ t' hj;exact ⟨v,y,by rw[oB (by omega),a];exact e1,by rw[oB (by omega),b];exact e2,e3⟩
theorem amr {w:World} {a:Addr} {v:Value} (h:w.cell? a=some v):a.spot=none∧a.block<w.heap.size:=by
 unfold World.cell? at h;split at h
 ·rename_i hh;split at h
  ·cases h
  ·rename_i hs;exact ⟨by simpa using hs,(wQ.1 hh).1⟩
 all_goals (first|cases h|skip)
theorem abX {rd:TypeId→List Value→Option (DataW H×List MemPlace)} (cs:List Value)
  (ih: ∀t cs x,t∈L→rd t cs=some x→∃xs,rr P w (bc P t) cs xs): ∀(fs:List Field) (n:Nat),Mh P L n fs=true→
  (∀f∈fs,∃x,rd f.type ((cs.drop f.offset).take (P.cellsOf f.type))=some x)→∃m xs,n≤m∧rr P w (fs.flatMap fun f=>bc P f.type) ((cs.drop n).take (m-n)) xs∧m-n=(fs.flatMap fun f=>bc P f.type).length
 | [],n,_,_=>⟨n,[],az _,⟨by simp,rfl,by simp⟩,by simp⟩
 | f::fs,n,h,hx=>by
  simp only[Mh,aK,ba] at h;obtain ⟨h1,h2,h3,h4⟩:=h;obtain ⟨x,hxf⟩:=hx f (by simp);obtain ⟨xs,kE⟩:=ih _ _ _ (Mi h1) hxf;obtain ⟨m,ys,hm,vL,L5⟩:=abX cs ih fs (n+P.cellsOf f.type) h4 fun g hg=>hx g (by simp[hg]);refine ⟨m,xs++ys,by omega,?_,by simp only[yH,dd];omega⟩;have:=kE.app vL;rw[yH];rw[h2] at this;have e:(cs.drop n).take (m-n)=(cs.drop n).take (P.cellsOf f.type)++(cs.drop (n+P.cellsOf f.type)).take (m-(n+P.cellsOf f.type)):=by
   rw[show m-n=P.cellsOf f.type+(m-(n+P.cellsOf f.type)) by omega,List.take_add,List.drop_drop]
  rw[e];exact this
theorem abY {rd:List Value→Option (DataW H×List MemPlace)} (cs:List Value) {e:TypeId} (hs:P.cellsOf e=(bc P e).length)
  (ih: ∀cs x,rd cs=some x→∃xs,rr P w (bc P e) cs xs): ∀(n:Nat),
  (∀i,i<n→∃x,rd ((cs.drop (i*P.cellsOf e)).take (P.cellsOf e))=some x)→∃xs,rr P w (List.replicate n (bc P e)).flatten (cs.take (n*P.cellsOf e)) xs
 | 0,_=>⟨[],by simp,rfl,by simp⟩
 | n+1,hx=>by
  obtain ⟨xs,kE⟩:=abY cs hs ih n fun i hi=>hx i (by omega);obtain ⟨x,tZ⟩:=hx n (by omega);obtain ⟨ys,vL⟩:=ih _ _ tZ;refine ⟨xs++ys,?_⟩;rw[Ko,List.flatten_append];have:=kE.app vL;rw[kQ,Nat.one_mul,List.take_add];simpa using this
theorem Mj (hL:FQ P L=true): ∀(fuel:Nat) (t:TypeId) (cs:List Value) (x:DataW H×List MemPlace),t∈L→DataW.trod enc P w base spare held fuel t cs=some x→
  ∃xs,rr P w (bc P t) cs xs
 | 0,_,_,_,_,h=>by cases h
 | fuel+1,t,cs,x,ht,h=>by
  have hg:=gC.1 hL t ht;unfold Sd at hg;rw[aK,ba] at hg;obtain ⟨hc,hg⟩:=hg;have one:cA P t=false→bc P t=[t]:=fun h=>by simp[bc,h]
  cases hu:P.underlying t with
  | none=>rw[hu] at hg;cases hg
  | some d=>
   rw[hu] at hg;cases d with
   | int k=>
    obtain ⟨n,rfl,rfl,hwf⟩:=DataW.trod_int hu h;rw[one (by simp[cA,hu])];exact ⟨[.int k n],rfl,rfl,fun j t' hj=>by
     cases j with
     | zero=>cases hj;exact ⟨_,_,rfl,rfl,.int hu,.int hu hwf⟩
     | succ j=>simp at hj⟩
   | bool=>
    obtain ⟨b,rfl,rfl⟩:=DataW.trod_bool hu h;rw[one (by simp[cA,hu])];exact ⟨[.bool b],rfl,rfl,fun j t' hj=>by
     cases j with
     | zero=>cases hj;exact ⟨_,_,rfl,rfl,.bool hu,.bool hu⟩
     | succ j=>simp at hj⟩
   | string=>
    obtain ⟨s,rfl,rfl,hl⟩:=DataW.trod_string hu h;rw[one (by simp[cA,hu])];exact ⟨[.str s.data.toList],rfl,rfl,fun j t' hj=>by
     cases j with
     | zero=>cases hj;exact ⟨_,_,rfl,rfl,.str hu rfl,.str hu (by simpa using hl)⟩
     | succ j=>simp at hj⟩
   | slice e=>
    simp only[aK] at hg;obtain ⟨he,aw⟩:=hg;rw[one (by simp[cA,hu])];have single: ∀v y,cs=[v]→Pure P w (n8 w) t v y→WT P t y→∃xs,rr P w [t] cs xs:=by
     rintro v y rfl a b;exact ⟨[y],rfl,rfl,fun j t' hj=>by
      cases j with
      | zero=>cases hj;exact ⟨_,_,rfl,rfl,a,b⟩
      | succ j=>simp at hj⟩
    rcases DataW.trod_slice hu h with ⟨rfl,rfl⟩|⟨a,len,cap,elems,rest,n,hn,rfl,rfl,hb,hl,hm,hlen,fE,_,_⟩
    ·exact single _ _ rfl (.nil hu) (.list hu (by simp) (by simp) (by simp))
    ·cases hn;have kD:=(oG aw).2;have aap:P.cellsOf e=(bc P e).length:=(fK aw).symm;have key: ∀i,i<len→∃ld xs,w.cells? base (a.add (i*P.cellsOf e)) (P.cellsOf e)=some ld∧rr P w (bc P e) ld xs:=by
      intro i hi;have h1:=fE i hi;rw[cp (by omega)] at h1;obtain ⟨ld,h2,h3⟩:=Option.bind_eq_some_iff.1 h1;obtain ⟨xs,kE⟩:=Mj hL fuel e ld _ (Mi he) h3;exact ⟨ld,xs,h2,kE⟩
     by_cases h0:len=0
     ·subst h0;exact single _ _ rfl (.emp hu) (.list hu (by simp) (by simp) (by simp))
     ·have oN:a.spot=none∧a.block<w.heap.size:=by
       obtain ⟨ld,xs,h2,_⟩:=key 0 (by omega);obtain ⟨_,h3,h4⟩:=World.cells?_some h2;have h5:=h4 0 kD;rw[cp (by omega)] at h5;have:=amr h5;simpa[Addr.add] using this
      have hF: ∃(F:Nat→List Value) (X:Nat→List V),∀i,i<len→w.cells? base (a.add (i*P.cellsOf e)) (P.cellsOf e)=some (F i)∧rr P w (bc P e) (F i) (X i):=by
       refine ⟨fun i=>if hi:i<len then (key i hi).choose else [],fun i=>if hi:i<len then (key i hi).choose_spec.choose else [],fun i hi=> ?_⟩;simp only[rW hi];exact (key i hi).choose_spec.choose_spec
      obtain ⟨F,X,Sf⟩:=hF;have hx: ∀(i j:Nat) y t',((List.range len).map fun i=>dP P e (X i))[i]? =some y→(bc P e)[j]? =some t'→i<len∧∃v,(F i)[j]? =some v∧Pure P w (n8 w) t' v (cu P e y j)∧WT P t' (cu P e y j):=by
       intro i j y t' hy hj;have hi:i<len:=by
        have:=(cO.1 hy).1;simpa using this
       refine ⟨hi,?_⟩;simp[Ee hi] at hy;obtain ⟨c1,c2,c3⟩:=(Sf i hi).2;obtain ⟨v,z,d1,d2,d3,d4⟩:=c3 j t' hj;have:cu P e y j=z:=by
        rw[←hy];unfold cu dP;cases ha:cA P e with
        | true=>
         simp only[cond_true,V.cell];rw[ze _ _ _ d2]
        | false=>
         simp only[cond_false];have:bc P e=[e]:=by simp[bc,ha]
         rw[this] at hj;cases j with
         | zero=>rw[ze _ _ _ d2]
         | succ j=>simp at hj
       rw[this];exact ⟨v,d1,d3,d4⟩
      have gI: ∀i j,i<len→j<P.cellsOf e→w.cell? ⟨a.block,a.off+(i*P.cellsOf e+j),none⟩=some ((F i).getD j undef):=by
       intro i j hi hj;obtain ⟨h1,h2⟩:=Sf i hi;obtain ⟨_,h3,h4⟩:=World.cells?_some h1;have h5:=h4 j hj;rw[Go.Deep.add_add] at h5;have e1:a.add (i*P.cellsOf e+j)=⟨a.block,a.off+(i*P.cellsOf e+j),none⟩:=by
        obtain ⟨b,o,s⟩:=a;simp only at oN;rw[oN.1];exact oI ..
       rw[e1] at h5;rw[h5,wR,cp (by omega)];rfl
      have ha:a=⟨a.block,a.off,none⟩:=by
       obtain ⟨b,o,s⟩:=a;simp only at oN;rw[oN.1]
      refine single (.slice (some a) len cap) (.list e ((List.range len).map fun i=>dP P e (X i))) rfl ?_ ?_
      ·rw[ha];refine .list (fun i j=>(F i).getD j undef) hu (by simp) hl (fun _ _=>oN.2) gI ?_;intro i j y t' hy hj;obtain ⟨hi,v,d1,d2,_⟩:=hx i j y t' hy hj;rw[wR,d1];exact d2
      ·refine .list hu (by simp;omega) ?_ ?_
       ·intro i y hy Mk;have hi:i<len:=by
         have:=(cO.1 hy).1;simpa using this
        simp[Ee hi] at hy;rw[←hy];exact ⟨X i,by simp[dP,Mk],(Sf i hi).2.2.1⟩
       ·intro i j y t' hy hj;obtain ⟨_,v,_,_,d3⟩:=hx i j y t' hy hj;exact d3
   | struct fs=>
    simp only[aK] at hg;obtain ⟨xs,n,hn,rfl,hlen,nZ,hx⟩:=DataW.trod_struct hu h;cases hn;have het:bc P t=fs.toList.flatMap fun f=>bc P f.type:=by
     rw[←Se hg.2];simp[bc,cA,hu]
    obtain ⟨m,ys,_,vL,hm⟩:=abX (w:=w) (rd:=fun t cs=>DataW.trod enc P w base spare held fuel t cs) cs (fun t cs x a b=>Mj hL fuel t cs x a b) fs.toList 0 hg.1 (by
     intro f hf;obtain ⟨i,hi⟩:=tz hf;rw[qR] at hi;have sI:i<fs.size:=(wQ.1 hi).1;exact ⟨_,(hx i f hi).trans (cp (by omega))⟩)
    rw[het];refine ⟨ys,?_⟩;have:(cs.drop 0).take (m-0)=cs:=by
     rw[jZ,hm,←het,←hc,←hlen,u0]
    rw[this] at vL;exact vL
   | array n e=>
    simp only[aK,ba] at hg;obtain ⟨xs,m,hn,rfl,hlen,nZ,hx⟩:=DataW.trod_array hu h;cases hn;have het:bc P t=(List.replicate n (bc P e)).flatten:=by
     rw[←Se hg.2.2];simp[bc,cA,hu]
    obtain ⟨ys,vL⟩:=abY (w:=w) (rd:=DataW.trod enc P w base spare held fuel e) cs hg.2.1 (fun cs x b=>Mj hL fuel e cs x (Mi hg.1) b) n (by
     intro i hi;exact ⟨_,(hx i hi).trans (cp (by omega))⟩)
    rw[het];refine ⟨ys,?_⟩;have:cs.take (n*P.cellsOf e)=cs:=by
     have:n*P.cellsOf e=cs.length:=by
      rw[hlen,hc,het,hg.2.1];simp
     rw[this,u0]
    rw[this] at vL;exact vL
   | _=>cases hg
end
section
variable {P:Program} {H:Type} {enc:TypeId×Value→H} {w:World} {L:List TypeId}
theorem ams {base Sg:Nat} {spare:Nat→Bool} {held:Bool} {r:Reach} {β:Nat→Option Nat} {hp:Nat→Option af} (hL:FQ P L=true) {t:TypeId} {v:Value} {d:DataW H} {ps:List MemPlace} (ht:t∈L) (ig:Value.okWide P w r Sg t v)
  (h:DataW.Trod enc P w base spare held t v d ps): ∃x,ai P w (n8 w) β hp v x∧ni P t x:=by
 obtain ⟨fuel,hf⟩:=h;obtain ⟨xs,c1,c2,c3⟩:=Mj hL fuel t _ _ ht hf;have hg:=gC.1 hL t ht;unfold Sd at hg;rw[aK,ba] at hg;obtain ⟨_,hg⟩:=hg;have Mk:cA P t=true→∃x,ai P w (n8 w) β hp v x∧ni P t x:=by
  intro ha;have hv: ∃cs,v= .agg cs:=by
   unfold Value.okWide at ig;unfold cA at ha;grind
  obtain ⟨cs,rfl⟩:=hv;refine ⟨.agg xs,.agg (by simpa[Value.cells] using c1.trans c2.symm) fun j v x hv hx=> ?_,fun _=>⟨xs,rfl,c2⟩,fun j t' hj=> ?_⟩
  ·have hj:j<(bc P t).length:=by grind
   obtain ⟨v',y,e1,e2,e3,_⟩:=c3 j _ (cp hj);rw[hx] at e2;cases e2;have:cs[j]? =some v':=by simpa[Value.cells] using e1
   rw[hv] at this;cases this;exact .tH e3
  ·obtain ⟨v',y,e1,e2,_,e4⟩:=c3 j t' hj;have:cu P t (.agg xs) j=y:=by
    simp only[cu,ha,cond_true,V.cell];exact ze _ _ _ e2
   grind
 have sF:cA P t=false→v.cells= #[v]→∃x,ai P w (n8 w) β hp v x∧ni P t x:=by
  intro ha zk;have he:bc P t=[t]:=by simp[bc,ha]
  rw[he] at c1 c2 c3;obtain ⟨v',y,e1,e2,e3,e4⟩:=c3 0 t rfl;rw[zk] at e1;cases e1;refine ⟨y,.tH e3,⟨fun h=>absurd (ha.symm.trans h) (by simp),fun j t' hj=> ?_⟩⟩;rw[he] at hj;cases j with
  | succ j=>simp at hj
  | zero=>
   cases hj;simpa[cu,ha] using e4
 unfold Value.okWide at ig;cases hu:P.underlying t with
 | none=>grind
 | some dsc=>
  rw[hu] at hg ig;cases dsc with
  | int k=>
   refine sF (by simp[cA,hu]) ?_;simp only[Cell.okWide,Cell.ok,hu] at ig;cases v<;>first|rfl|(simp at ig;done)|exact ig.elim
  | bool=>
   refine sF (by simp[cA,hu]) ?_;simp only[Cell.okWide,Cell.ok,hu] at ig;cases v<;>first|rfl|(simp at ig;done)|exact ig.elim
  | string=>
   refine sF (by simp[cA,hu]) ?_;simp only[Cell.okWide,Cell.ok,hu] at ig;cases v<;>first|rfl|(simp at ig;done)|exact ig.elim
  | slice e=>
   refine sF (by simp[cA,hu]) ?_;simp only[Cell.okWide,Cell.ok,hu] at ig;cases v<;>first|rfl|(simp at ig;done)|exact ig.elim
  | struct fs=>exact Mk (by simp[cA,hu])
  | array n e=>exact Mk (by simp[cA,hu])
  | _=>cases hg
theorem abZ {base Sg:Nat} {spare:Nat→Bool} {held:Bool} {r:Reach} {β:Nat→Option Nat} {hp:Nat→Option af} (hL:FQ P L=true): ∀{ts:List TypeId} {vs:List Value} {ds:List (DataW H)} {ps:List MemPlace},
  (∀t∈ts,t∈L)→(∀(j:Nat) t v,ts[j]? =some t→vs[j]? =some v→Value.okWide P w r Sg t v)→DataW.TrodAll enc P w base spare held ts vs ds ps→
  ∃xs,vs.length=xs.length∧(∀(j:Nat) v x,vs[j]? =some v→xs[j]? =some x→ai P w (n8 w) β hp v x)∧uY P ts xs
 | [],vs,ds,ps,_,_,h=>by
  obtain ⟨rfl,rfl,rfl⟩:=trodAll_nil h;exact ⟨[],rfl,by simp,trivial⟩
 | t::ts,vs,ds,ps,hm,ig,h=>by
  obtain ⟨v,xb,d,ds1,a,b,rfl,rfl,rfl,h1,h2⟩:=trodAll_cons h;obtain ⟨x,tZ,m8⟩:=ams (β:=β) (hp:=hp) hL (hm t (by simp)) (ig 0 t v rfl rfl) h1;obtain ⟨xs,hl,hr,hw⟩:=abZ (β:=β) (hp:=hp) hL (fun t ht=>hm t (by simp[ht])) (fun j t v a b=>ig (j+1) t v (by grind) (by grind)) h2;refine ⟨x::xs,by simp[hl],fun j v' x' hv hx=> ?_,m8,hw⟩;grind
theorem ab0 {base:Nat} {spare:Nat→Bool} {held:Bool}: ∀{ts:List TypeId} {vs:List Value} {ds:List (DataW H)} {ps:List MemPlace},DataW.TrodAll enc P w base spare held ts vs ds ps→ds.length=ts.length
 | [],vs,ds,ps,h=>by obtain ⟨rfl,rfl,rfl⟩:=trodAll_nil h;rfl
 | t::ts,vs,ds,ps,h=>by
  obtain ⟨v,xb,d,ds1,a,b,rfl,rfl,rfl,h1,h2⟩:=trodAll_cons h;simp[ab0 h2]
theorem ab1 {base:Nat} (hl:laidOutB P=true) {W W':World} {sp':Nat→Bool}: ∀{ts:List TypeId} {vs:List Value} {ds:List (DataW H)} {ps:List MemPlace},(∀t∈ts,P.readableRec t=true∧t<P.types.size)→
  DataW.TrodAll enc P W base (fun _=>true) true ts vs ds ps→(∀p∈ps,W.sameAt W' p)→(∀p∈ps,sp' p.block=true)→DataW.TrodAll enc P W' base sp' true ts vs ds ps
 | [],vs,ds,ps,_,h,_,_=>by obtain ⟨rfl,rfl,rfl⟩:=trodAll_nil h;exact trodAll_mk0
 | t::ts,vs,ds,ps,hr,h,h1,h2=>by
  obtain ⟨v,xb,d,ds1,a,b,rfl,rfl,rfl,h3,h4⟩:=trodAll_cons h;obtain ⟨r1,r2⟩:=hr t (by simp);exact trodAll_cons_mk (WideElems.Trod_stays hl r1 r2 h3 (fun p hp=>h1 p (by simp[hp])) (fun p hp=>h2 p (by simp[hp])))
   (ab1 hl (fun t ht=>hr t (by simp[ht])) h4 (fun p hp=>h1 p (by simp[hp])) (fun p hp=>h2 p (by simp[hp])))
theorem amt {f:Func} {s:ChangeSpec} {apart fresh handsOn again:Bool} {W W':World} {args:Array Value} {v:Value} {ds gs:List (DataW H)} {before pa pv:List MemPlace}
  (hW:DataW.Whole enc P f.params.toList s.vars apart W args.toList ds gs before)
  (ab2: ∀(b:Nat) (sp:Nat→Bool) (hd:Bool),DataW.TrodAll enc P W' b sp hd f.resultTypes.toList (v.resultList f.resultTypes.size) (s.fn H (ds++gs)).results [])
  (zE: ∀sp:Nat→Bool,(∀p∈before,sp p.block=true)→DataW.TrodAll enc P W' 0 sp true f.params.toList args.toList (s.fn H (ds++gs)).args pa)
  (ab3: ∀sp:Nat→Bool,(∀p∈before,sp p.block=true)→DataW.TrodVars enc P W' sp s.vars (s.fn H (ds++gs)).vars pv)
  (hps:before=pa++pv) (hk:W.keptBut W' (· ∈before)) (FF: ∀a:Addr,a.block<W.heap.size→W'.frozen? a=W.frozen? a)
  (aw: ∀(j:Nat) (t:TypeId) (r:Value),f.resultTypes[j]? =some t→(v.resultList f.resultTypes.size)[j]? =some r→Value.okWide P W' .any 0 t r):
  s.post enc P f apart fresh handsOn again W args v W':=by
 have hold: ∀p∈before,(fun b=>decide (b<W.heap.size)) p.block=true:=fun p hp=>by simpa using hW.lt p hp
 refine ⟨ds,gs,before,[],pa,pv,hW,ab2 _ _ _,zE _ hold,ab3 _ hold,World.keptBut_mono (fun p hp=>⟨hp,?_⟩) hk,fun _=> ?_⟩
 ·grind
 ·have bf:=hW.lt;obtain ⟨_,_,_,_,_,hz,hn⟩:=hW;refine ⟨aw,_,_,([]++pa)++pv,⟨[]++pa,pv,trodAll_append (zE _ (fun _ _=>rfl)) (ab2 _ _ _),ab3 _ (fun _ _=>rfl),rfl,?_,?_⟩,?_⟩
  ·intro b off hp;have hb:MemPlace.cell b off∈before:=by grind
   rw[FF ⟨b,off,none⟩ (bf _ hb)];exact hz b off hb
  all_goals grind
theorem amu {A:dH} (hP:lP P A) (rq:P.follows .mixedOrders=true) {f key:Nat} {fn:Func} {tb:TypeId} {s:ChangeSpec} {apart fresh handsOn again:Bool}
  (hf:P.funcs[f]? =some fn) (Sh:A.jI key=f) (hL:FQ P L=true) (fS:fn.params.toList.all (fun t=>hasB L t)=true) (Ml:fn.resultTypes= #[tb]) (Mm:P.underlying tb=some .bool) (zB:s.vars=[])
  (hs: ∀ds:List (DataW H),ds.length=fn.params.toList.length→s.fn H ds={results:=[.lit (.bool true)],args:=ds})
  (Si:laidOutB P=true) (Sj:fn.params.toList.all (fun t=>P.readableRec t&&Nat.blt t P.types.size)=true)
  (ft:(A.sin key).dr=[]) (aw:((A.sin key).cC.map (·.2)).all (VS.ok 0)=true) (Sk:(A.iJ key).cC=[(0,.one .bool)]) (halt:A.alt key=none)
  {W:World} {base:Nat} {args:Array Value} {ds gs:List (DataW H)} {before:List MemPlace}
  (Sl:jL P A.aL W (n8 W)) (ig: ∀(j:Nat) t v,fn.params[j]? =some t→args[j]? =some v→Value.okWide P W .any base t v)
  (hW:DataW.Whole enc P fn.params.toList s.vars apart W args.toList ds gs before) (Q:List V→Prop)
  (hQ: ∀xs:List V,uY P fn.params.toList xs→(∀(j:Nat) v x,args.toList[j]? =some v→xs[j]? =some x→ai P W (n8 W) (fun _=>none) (fun _=>none) v x)→Q xs)
  (Sm: ∀xs,uY P fn.params.toList xs→Q xs→∃ds,uZ ((A.sin key).cC.map (·.2)) xs=some ds∧Call P A key ds=some [.bool true]):
  Calls P f args W fun e W'=> ∃v,e= .returned v∧s.post enc P fn apart fresh handsOn again W args v W':=by
 have hW0:=hW;obtain ⟨p,q,hA,hV,rfl,FF,n0⟩:=hW;rw[zB] at hV;obtain ⟨hgs,hq⟩:gs=[]∧q=[]:=by
  cases gs with
  | nil=>exact ⟨rfl,hV⟩
  | cons g gs=>exact hV.elim
 subst hgs;subst hq;obtain ⟨xs,hl,hr,hwt⟩:=abZ (β:=fun _=>none) (hp:=fun _=>none) hL (fun t ht=>Mi (gC.1 fS t ht)) (fun j t v a b=>ig j t v (by grind) (by grind)) hA;obtain ⟨ls,hls,FD⟩:=Sm xs hwt (hQ xs hwt hr);obtain ⟨fn',c,h1,h2,h3⟩:=amn (A:=A) hP rq key ls [.bool true] FD;rw[Sh] at h1 h3;rw[hf] at h1;cases h1;have abN: ∀j,(bZ (A.sin key) ls).hp j=none:=fun j=>by simp[bZ,mk,ft,gQ,mW]
 obtain ⟨_,r1,r2⟩:=Ft (P:=P) (w:=W) (I:=n8 W) (n:=0) (β:=fun _=>none) (β':=fun _=>none) (hp:=fun _=>none) (hp':=(bZ (A.sin key) ls).hp) (fun j hj=>absurd hj (Nat.not_lt_zero j)) hls aw;have hlen:((A.sin key).cC.map (·.2)).length=xs.length:=by rw[←r1 [],Sa]
 have h4:=h3 W (n8 W) (fun _=>none) args.toList ⟨fun id blk h=>(by grind),fun id ax blk blk' b h=>(by grind),fun id blk b h=>(by grind),fun b j h=>h⟩ Sl
  (by grind) (fun j v y hv hy=>r2 [] j v y (fun x hx=>hr j v x hv hx) (by grind))
 have ea:args.toList.toArray=args:=by simp
 rw[ea] at h4;refine h4.mono fun e W' ⟨v,I2,cT,he,ha⟩=>⟨v,he,?_⟩
 have xm: ∀b,b<W.heap.size→W'.heap[b]? =W.heap[b]? :=fun b hb=>ha.B5.cZ b hb (by rintro ⟨j,blk,hj,_⟩;grind);have zp:=ha.res;have hso:A.so key [.bool true]=A.iJ key∧A.lv key [.bool true]=[.bool true]:=by unfold dH.so dH.lv;grind
 rw[hso.1,hso.2,Sk] at zp;obtain rfl:v= .bool true:=zp.mY;have lO:Value.okWide P W' .any 0 tb (.bool true):=by simp[Value.okWide,Mm,Cell.okWide,Cell.ok]
 have oZ:ds.length=fn.params.toList.length:=ab0 hA;have kf: ∀p'∈p++[],W.sameAt W' p':=by
  intro p' hp';have bf:=hW0.lt p' hp';cases p' with
  | cell b o=>exact World.cell?_of_block (w:=W) (xm b bf)
  | map b=>exact xm b bf
 refine amt (pa:=p) (pv:=[]) hW0 ?_ ?_ ?_ rfl ?_ ?_ ?_
 ·intro b sp hd;rw[j4,hs ds oZ,Ml];exact trodAll_mk1 ⟨1,by simp[DataW.trod,Value.cells,Mm]⟩
 ·intro sp oN;rw[j4,hs ds oZ];refine ab1 Si (fun t ht=> ?_) hA (fun p' hp'=>kf p' (by grind)) (fun p' hp'=>oN p' (by grind));have:=gC.1 Sj t ht;simp_all
 ·intro sp oN;rw[zB,j4,hs ds oZ];exact rfl
 ·refine ⟨ha.B5.io.1,ha.B5.io.2,fun i hi=> ?_⟩;grind
 ·intro a bf;exact World.frozen?_of_block (w:=W) (xm a.block bf)
 ·intro j t r hj hrj;rw[Ml] at hj hrj;cases j with
  | zero=>
   simp[Value.resultList] at hj hrj;grind
  | succ j=>simp at hj
theorem aju {A:dH} (hP:lP P A) (rq:P.follows .mixedOrders=true) {f key:Nat} {fn:Func} {tb:TypeId} {s:ChangeSpec} {apart fresh handsOn again:Bool}
  (hf:P.funcs[f]? =some fn) (Sh:A.jI key=f) (hL:FQ P L=true) (fS:fn.params.toList.all (fun t=>hasB L t)=true) (Ml:fn.resultTypes= #[tb]) (Mm:P.underlying tb=some .bool) (zB:s.vars=[])
  (hs: ∀ds:List (DataW H),ds.length=fn.params.toList.length→s.fn H ds={results:=[.lit (.bool true)],args:=ds})
  (Si:laidOutB P=true) (Sj:fn.params.toList.all (fun t=>P.readableRec t&&Nat.blt t P.types.size)=true)
  (ft:(A.sin key).dr=[]) (aw:((A.sin key).cC.map (·.2)).all (VS.ok 0)=true) (Sk:(A.iJ key).cC=[(0,.one .bool)]) (halt:A.alt key=none)
  (Sm: ∀xs,uY P fn.params.toList xs→∃ds,uZ ((A.sin key).cC.map (·.2)) xs=some ds∧Call P A key ds=some [.bool true])
  {W:World} {base:Nat} {args:Array Value} {ds gs:List (DataW H)} {before:List MemPlace}
  (Sl:jL P A.aL W (n8 W)) (ig: ∀(j:Nat) t v,fn.params[j]? =some t→args[j]? =some v→Value.okWide P W .any base t v)
  (hW:DataW.Whole enc P fn.params.toList s.vars apart W args.toList ds gs before):
  Calls P f args W fun e W'=> ∃v,e= .returned v∧s.post enc P fn apart fresh handsOn again W args v W':=
 amu hP rq hf Sh hL fS Ml Mm zB hs Si Sj ft aw Sk halt Sl ig hW (fun _=>True) (fun _ _ _=>trivial) fun xs h _=>Sm xs h
end
end Go.AM
namespace Go.AM
open Go.IntKind (wrap)
@[simp] theorem V.toInt_int (k:IntKind) (n:Int):V.toInt (.int k n)=n:=by cases k<;>rfl
@[simp] theorem V.mC (b:Bool):V.toBool (.bool b)=b:=by cases b<;>rfl
@[simp] theorem V.amv (s:List UInt8):V.toStr (.str s)=s:=by cases s<;>rfl
@[simp] theorem V.ki (e:TypeId) (es:List V):V.toList (.list e es)=es:=by cases es<;>rfl
@[simp] theorem V.ay0 (e:TypeId) (es:List V):V.toList (.own e es)=es:=by cases es<;>rfl
@[simp] theorem V.amw (cs:List V) (j:Nat):V.cell (.agg cs) j=V.nth cs j:=by cases cs<;>rfl
@[simp] theorem V.ay1 (cs:List V) (j:Nat):V.comp (.bK cs) j=V.nth cs j:=by cases cs<;>rfl
@[simp] theorem V.ct (x:V) (l:List V):V.nth (x::l) 0=x:=by cases l<;>rfl
@[simp] theorem V.vM (x:V) (l:List V) (n:Nat):V.nth (x::l) (n+1)=V.nth l n:=by cases l<;>rfl
@[simp] theorem V.ay2 (x y:V) (l:List V):V.nth (x::y::l) 1=y:=by cases l<;>rfl
@[simp] theorem V.ay3 (x y z:V) (l:List V):V.nth (x::y::z::l) 2=z:=by cases l<;>rfl
@[simp] theorem V.ay4 (x y z u:V) (l:List V):V.nth (x::y::z::u::l) 3=u:=by cases l<;>rfl
theorem wrap64 {x:Int} (h1: -9223372036854775808≤x) (h2:x<9223372036854775808):wrap .i64 x=x:=by
 rw[IntKind.wrap_i64];omega
theorem dM {x:Int} (h1: -9223372036854775808≤x:=by omega) (h2:x<9223372036854775808:=by omega):wrap .i64 x=x:=wrap64 h1 h2
theorem ab4 {x:Int} (h1:0≤x) (h2:x<256):wrap .u8 x=x:=by
 rw[IntKind.wrap_u8];omega
theorem Sn {es:List V} {i:Int} {n:Nat} (h:i=n):idx es i=es[n]? :=by
 subst h;simp[idx]
theorem ab5 {α:Type} {f:α→V} {l:List α} {i:Int} {n:Nat} (h:i=n) (hn:n<l.length):idx (l.map f) i=some (f l[n]):=by
 rw[Sn h];simp[hn]
@[simp] theorem Mn (es:List V) (n:Nat):idx es (n:Int)=es[n]? :=by simp[idx]
section
variable {X R:Type} {step:X→Option (X ⊕ R)}
theorem So (Inv:X→Prop) (μ:X→Nat) (Q:R→Prop)
  (h: ∀x,Inv x→(∃y,step x=some (.inl y)∧Inv y∧μ y<μ x)∨∃r,step x=some (.inr r)∧Q r):
  ∀x,Inv x→∃r,Loop step x=some r∧Q r:=by
 intro x
 induction hm:μ x using Nat.strongRecOn generalizing x with
 | ind m ih=>
  intro hx;rcases h x hx with ⟨y,h1,h2,h3⟩|⟨r,h1,h2⟩
  ·obtain ⟨r,h4,h5⟩:=ih (μ y) (by omega) y rfl h2;exact ⟨r,(fY h1).trans h4,h5⟩
  ·exact ⟨r,di h1,h2⟩
theorem FR (s:Nat→X) (n:Nat) {r:R} (h: ∀i,i<n→step (s i)=some (.inl (s (i+1)))) (he:step (s n)=some (.inr r)):Loop step (s 0)=some r:=by
 induction n generalizing s with
 | zero=>exact di he
 | succ n ih=>
  rw[fY (h 0 (by omega))];exact ih (fun i=>s (i+1)) (fun i hi=>h (i+1) (by omega)) he
theorem ab6 (s:Nat→X) (k:Nat) {r:R} (h: ∀i,i<k→step (s i)=some (.inl (s (i+1)))) (he:step (s k)=some (.inr r)):Loop step (s 0)=some r:=FR s k h he
end
@[simp] theorem aM {α:Type} (p:Prop) [Decidable p] (a b:α):(bif decide p then a else b)=if p then a else b:=by by_cases h:p<;>simp[h]
@[simp] theorem rv {α:Type} (m n:Int) (a b:α):(bif m==n then a else b)=if m=n then a else b:=by
 by_cases h:m=n
 ·simp[h]
 ·have:(m==n)=false:=by simp[h]
  rw[this,ag h];rfl
@[simp] theorem uk {α:Type} (m n:Int) (a b:α):(bif m != n then a else b)=if m=n then b else a:=by
 by_cases h:m=n
 ·simp[h]
 ·have:(m != n)=true:=by simp[h]
  rw[this,ag h];rfl
@[simp] theorem jO {α:Type} (c:Bool) (a b:α):(bif !c then a else b)=bif c then b else a:=by cases c<;>rfl
@[simp] theorem vN {α:Type} (m n:Nat) (a b:α):(bif Nat.ble m n then a else b)=if m≤n then a else b:=by
 cases hb:Nat.ble m n with
 | true=>rw[ah (Nat.le_of_ble_eq_true hb)];rfl
 | false=>
  rw[ag fun h=> ?_]
  ·rfl
  ·rw[Nat.ble_eq_true_of_le h] at hb;cases hb
@[simp] theorem e7 {α:Type} (c d:Bool) (a b:α):(bif c&&d then a else b)=bif c then (bif d then a else b) else b:=by cases c<;>rfl
section
variable {P:Program}
def ab7 (P : Program) : Bool := P.funcs.all fun fn => !(fn.name == "runtime.NumGoroutine")
theorem amx (h:ab7 P=true):Cc P:=by
 intro f fn hf;unfold ab7 at h;have:=(Array.all_eq_true_iff_forall_mem.1 h) fn (Array.mem_of_getElem? hf);simpa using this
theorem ajo {t:TypeId} {ts:List TypeId} {xs:List V} (h:uY P (t::ts) xs): ∃x ys,xs=x::ys∧ni P t x∧uY P ts ys:=by
 cases xs with
 | nil=>exact h.elim
 | cons x ys=>exact ⟨x,ys,rfl,h.1,h.2⟩
theorem ajp {xs:List V} (h:uY P [] xs):xs=[]:=by
 cases xs with
 | nil=>rfl
 | cons x ys=>exact h.elim
theorem ni.one {t:TypeId} {x:V} (ha:cA P t=false) (h:ni P t x):WT P t x:=by
 have he:bc P t=[t]:=by simp[bc,ha]
 have:=h.2 0 t (by rw[he];rfl);simpa[cu,ha] using this
theorem WT.gE {t:TypeId} {k:IntKind} {x:V} (hu:P.underlying t=some (.int k)) (h:WT P t x): ∃n,x= .int k n∧k.min≤n∧n≤k.max:=by
 cases h with
 | int h1 h2=>
  rw[hu] at h1;cases h1;simp only[Lit.wf,aK,fl] at h2;exact ⟨_,rfl,h2⟩
 | bool h1=>rw[hu] at h1;cases h1
 | str h1=>rw[hu] at h1;cases h1
 | list h1=>rw[hu] at h1;cases h1
theorem WT.mY {t:TypeId} {x:V} (hu:P.underlying t=some .bool) (h:WT P t x): ∃b,x= .bool b:=by
 cases h with
 | int h1=>rw[hu] at h1;cases h1
 | bool h1=>exact ⟨_,rfl⟩
 | str h1=>rw[hu] at h1;cases h1
 | list h1=>rw[hu] at h1;cases h1
theorem WT.ph {t:TypeId} {x:V} (hu:P.underlying t=some .string) (h:WT P t x): ∃s,x= .str s∧s.length≤maxLen:=by
 cases h with
 | int h1=>rw[hu] at h1;cases h1
 | bool h1=>rw[hu] at h1;cases h1
 | str h1 h2=>exact ⟨_,rfl,h2⟩
 | list h1=>rw[hu] at h1;cases h1
theorem WT.amy {t e:TypeId} {x:V} (hu:P.underlying t=some (.slice e)) (h:WT P t x): ∃es,x= .list e es∧es.length≤maxLen∧∀y∈es,ni P e y:=by
 cases h with
 | int h1=>rw[hu] at h1;cases h1
 | bool h1=>rw[hu] at h1;cases h1
 | str h1=>rw[hu] at h1;cases h1
 | list h1 h2 h3 h4=>
  rw[hu] at h1;cases h1;refine ⟨_,rfl,h2,fun y hy=> ?_⟩;obtain ⟨i,hi⟩:=tz hy;exact ⟨h3 i y hi,fun j t' hj=>h4 i j y t' hi hj⟩
theorem ni.nT {t:TypeId} {x:V} (ha:cA P t=true) (h:ni P t x): ∃xs,x= .agg xs∧xs.length=(bc P t).length∧∀(j:Nat) t' y,(bc P t)[j]? =some t'→xs[j]? =some y→WT P t' y:=by
 obtain ⟨xs,rfl,hl⟩:=h.1 ha;refine ⟨xs,rfl,hl,fun j t' y hj hy=> ?_⟩;have:=h.2 j t' hj;simp only[cu,ha,cond_true,V.amw] at this;rw[ze _ _ _ hy] at this;exact this
theorem ab8 {α:Type} {f:α→V} {p:α→Prop}: ∀{es:List V},(∀y∈es,∃a,y=f a∧p a)→∃l:List α,es=l.map f∧∀a∈l,p a
 | [],_=>⟨[],rfl,by simp⟩
 | y::es,h=>by
  obtain ⟨a,rfl,ha⟩:=h y (by simp);obtain ⟨l,rfl,hl⟩:=ab8 (f:=f) (p:=p) (es:=es) fun z hz=>h z (by simp[hz]);exact ⟨a::l,rfl,by
   intro b hb;rcases iR.1 hb with rfl|hb
   ·exact ha
   ·exact hl b hb⟩
theorem ni.int {t:TypeId} {x:V} (hu:P.underlying t=some (.int .i64)) (h:ni P t x): ∃n,x= .int .i64 n∧IntKind.min .i64≤n∧n≤IntKind.max .i64:=
 (h.one (by simp[cA,hu])).gE hu
theorem ni.str {t:TypeId} {x:V} (hu:P.underlying t=some .string) (h:ni P t x): ∃s,x= .str s∧s.length≤maxLen:=
 (h.one (by simp[cA,hu])).ph hu
end
def un.{u} {A B:Type} {γ:Sort u} (f:A→B→γ) (p:A×B):γ:=f p.1 p.2
def bN {A B γ:Type} (f:A→γ) (g:B→γ):A ⊕ B→γ
 | .inl a=>f a
 | .inr b=>g b
def vO:List Nat→Code→Code
 | [],c=>c
 | 0::p,.seq a _=>vO p a
 | _::p,.seq _ b=>vO p b
 | 0::p,.cond _ a _=>vO p a
 | _::p,.cond _ _ b=>vO p b
 | _::p,.block _ c=>vO p c
 | _::p,.loop c=>vO p c
 | _,c=>c
inductive py where
 | loop (c:Code)
 | cond (t:Nat) (x y:Code)
section
variable (P:Program) (A:dH) (C:ae) (L:cE) (f n m:Nat)
def ry:Code→List py
 | .seq a b=>ry a++ry b
 | .cond (.tmp t) x y=>
  match A.j7 f (t*16+15) with
  | none=>ry x++ry y
  | some _=>[.cond t x y]
 | .cond (.const _) x y=>ry x++ry y
 | .block _ c=>ry c
 | .loop c=>[.loop c]
 | _=>[]
def um:py→Prop
 | .loop c=>
  match A.j7 f (keyOf c+1) with
  | none=>True
  | some S=> ∀(β:Type) ds (k:Nat→List V→Option β),L β (keyOf c+1) ds k=(Loop (stepG P A C f n m S c) ds).bind fun r=>k r.1 r.2
 | .cond t x y=>
  match A.j7 f (t*16+15) with
  | none=>True
  | some S=> ∀(β:Type) ds (k:Nat→List V→Option β),L β (t*16+15) ds k=(EC P A C f n m t S x y ds).bind fun r=>k r.1 r.2
def pz:List py→Prop
 | []=>True
 | b::l=>um P A C L f n m b∧pz l
variable {P A C L f n m}
theorem pz.left {a b:List py}:pz P A C L f n m (a++b)→pz P A C L f n m a:=by
 induction a with
 | nil=>exact fun _=>trivial
 | cons x a ih=>exact fun h=>⟨h.1,ih h.2⟩
theorem pz.right {a b:List py}:pz P A C L f n m (a++b)→pz P A C L f n m b:=by
 induction a with
 | nil=>exact fun h=>h
 | cons x a ih=>exact fun h=>ih h.2
theorem ab9: ∀{c:Code} {bs:List py},ry A f c=bs→pz P A C L f n m bs→ky P A C L f n m c:=by
 intro c
 induction c with
 | seq a b Qu Qv=>
  intro bs h hb;subst h;exact ⟨Qu rfl hb.left,Qv rfl hb.right⟩
 | cond c x y jm jn=>
  intro bs h hb;subst h;cases c with
  | tmp t=>
   simp only[ry] at hb;simp only[ky];cases hs:A.j7 f (t*16+15) with
   | none=>
    rw[hs] at hb;exact ⟨jm rfl hb.left,jn rfl hb.right⟩
   | some S=>
    rw[hs] at hb;have:=hb.1;simp only[um,hs] at this;exact this
  | const v=>exact ⟨jm rfl hb.left,jn rfl hb.right⟩
  | _=>trivial
 | block id c ih=>
  intro bs h hb;subst h;exact ih rfl hb
 | loop c ih=>
  intro bs h hb;subst h;exact hb.1
 | _=>intro bs h hb;trivial
variable (P A C L f n m) in
def Sp {β:Type} (t:Nat) (S:Shape×List (Out×Shape)) (x y:Code) (ds:List V) (k:Nat→List V→Option β):Option β:=
 let kc:Out→St→Option β:=fun o st=>
  match o with
  | .norm=>(ways m 0 S.2 (.norm,canon m (A.join f t) st)).bind fun e=>k e.1 e.2
  | o=>(ways m 0 S.2 (o,st)).bind fun e=>k e.1 e.2
 match (bZ S.1 ds).sl t with
 | .bool b=>bif b then kW P A C L f n m x (bZ S.1 ds) kc else kW P A C L f n m y (bZ S.1 ds) kc
 | _=>none
theorem amz {t:Nat} {x y:Code} {S:Shape×List (Out×Shape)} (hS:A.j7 f (t*16+15)=some S) (hx:ky P A C L f n m x) (hy:ky P A C L f n m y) {I R:Type} (enc:I→List V) (qs:I→R→Nat×List V)
  (de:List V→I) (body:I→(β:Type)→(R→Option β)→Option β) (zL: ∀ds,bZ S.1 (enc (de ds))=bZ S.1 ds)
  (e1: ∀i (β:Type) (k:Nat→List V→Option β),Sp P A C L f n m t S x y (enc i) k=body i β (fun r=>k (qs i r).1 (qs i r).2))
  (hl: ∀(β:Type) ds (k:Nat→List V→Option β),L β (t*16+15) ds k=body (de ds) β (fun r=>k (qs (de ds) r).1 (qs (de ds) r).2)):
  um P A C L f n m (.cond t x y):=by
 simp only[um,hS];intro β ds k;rw[hl,←e1];unfold Sp EC;rw[zL];simp only;have hk: ∀(z:Option (Out×St)),(z.bind fun r=>(match r.1 with
   | .norm=>(ways m 0 S.2 (.norm,canon m (A.join f t) r.2)).bind fun e=>k e.1 e.2
   | o=>(ways m 0 S.2 (o,r.2)).bind fun e=>k e.1 e.2))=((z.bind fun r=>
   match r.1 with
   | .norm=>some (Out.norm,canon m (A.join f t) r.2)
   | _=>some r).bind fun r=>ways m 0 S.2 r).bind fun r=>k r.1 r.2:=by
  intro z;cases z with
  | none=>rfl
  | some r=>obtain ⟨o,st⟩:=r;cases o<;>rfl
 cases (bZ S.1 ds).sl t with
 | bool b=>
  cases b with
  | true=>simp only[cond_true,KV P A C f n m x hx];exact hk _
  | false=>simp only[cond_false,KV P A C f n m y hy];exact hk _
 | _=>rfl
theorem aU {b:py} {l:List py} (h:um P A C L f n m b) (h2:pz P A C L f n m l):pz P A C L f n m (b::l):=⟨h,h2⟩
theorem an:pz P A C L f n m []:=trivial
theorem amA {key:Nat} {bs:List py} (hb:ry A key (vk P (A.jI key))=bs) (ht:pz P A (Call P A) L key (ED P (A.jI key)) (A.sin key).dr.length bs) {ds:List V} {r:Option (List V)}
  (h:KW P A (Call P A) L key ds=r):Call P A key ds=r:=by
 rw[amq,ajC P A (Call P A) key (ab9 hb ht),h]
end
section
variable (P:Program) (A:dH)
def lk (C:ae) (N f n m:Nat):Code→St→Option (Out×St)
 | .skip,st=>some (.norm,st)
 | .region id ops draw,st=>(BD P (A.here f id) C n ops draw st).bind fun st'=>some (.norm,canon m (A.live f id) (freeze m (A.pur f id) st'))
 | .seq a b,st=>(lk C N f n m a st).bind fun r=>
  match r.1 with
  | .norm=>lk C N f n m b r.2
  | _=>some r
 | .cond (.tmp t) x y,st=>
  let go (st:St):Option (Out×St):=
   match st.sl t with
   | .bool b=>(bif b then lk C N f n m x st else lk C N f n m y st).bind fun r=>
    match r.1 with
    | .norm=>some (.norm,canon m (A.join f t) r.2)
    | _=>some r
   | _=>none
  match A.j7 f (t*16+15) with
  | none=>go st
  | some S=>(lI m S.1 st).bind fun ds=>((go (bZ S.1 ds)).bind fun r=>ways m 0 S.2 r).bind fun e=>nP 0 S.2 e.1 e.2 fun o st=>some (o,st)
 | .cond (.const (.bool b)) x y,st=>bif b then lk C N f n m x st else lk C N f n m y st
 | .block id c,st=>(lk C N f n m c st).bind fun r=>
  match r.1 with
  | .norm=>some (.norm,canon m (A.blk f id) r.2)
  | .exit ax=>bif Nat.beq ax id then some (.norm,canon m (A.blk f id) r.2) else some r
  | .ret=>some r
 | .loop c,st=>
  match A.j7 f (keyOf c+1) with
  | none=>none
  | some S=>(lI m S.1 st).bind fun ds=>(gP (fun ds=>pd m S.1 S.2 (lk C N f n m c (bZ S.1 ds))) N ds).bind fun e=>nP 0 S.2 e.1 e.2 fun o st=>some (o,st)
 | .exit id,st=>some (.exit id,st)
 | .ret,st=>some (.ret,st)
 | _,_=>none
def Sq (C:ae) (N f:Nat) (ds:List V):Option (List V):=
 match P.funcs[A.jI f]? with
 | none=>none
 | some fn=>
  match fn.body with
  | none=>none
  | some c=>bif kV 0 (A.sin f).cC&&(Nat.ble (A.sin f).cC.length fn.ntmps&&((A.sin f).ok&&(kV 0 (A.iJ f).cC&&(Nat.beq (A.iJ f).cC.length fn.results.size&&sh (qe (A.sin f).dr.length (A.mv f)))))) then
    (lk P A C N f fn.ntmps (A.sin f).dr.length c (EB A f ds)).bind fun r=>
     match r.1 with
     | .exit _=>none
     | _=>((yW P A f fn (A.sin f).dr.length r.2).run C r.2.hp).map (·.1)
   else none
def Ci (N:Nat):Nat→ae
 | 0=>fun _ _=>none
 | n+1=>Sq P A (Ci N n) N
variable {P A}
theorem aca {X R:Type} {s1 s2:X→Option (X ⊕ R)} (h: ∀x y,s1 x=some y→s2 x=some y): ∀(n:Nat) (x:X) (r:R),gP s1 n x=some r→gP s2 n x=some r
 | 0,x,r,e=>by cases e
 | n+1,x,r,e=>by
  simp only[gP] at e⊢;obtain ⟨y,h1,h2⟩:=bind_some e;rw[h x y h1];cases y with
  | inl z=>exact aca h n z r h2
  | inr q=>exact h2
theorem amB {C:ae} {N f n m:Nat}: ∀(c:Code) {st:St} {r:Out×St},lk P A C N f n m c st=some r→exec P A C f n m c st=some r:=by
 intro c
 induction c with
 | skip=>exact fun e=>e
 | exit id=>exact fun e=>e
 | ret=>exact fun e=>e
 | region id ops draw=>exact fun e=>e
 | seq x y jm jn=>
  intro st r e;simp only[lk,exec] at e⊢;obtain ⟨⟨o,s1⟩,h1,h2⟩:=bind_some e;rw[jm h1];cases o with
  | norm=>exact jn h2
  | exit id=>exact h2
  | ret=>exact h2
 | cond c x y jm jn=>
  intro st r e;cases c with
  | tmp t=>
   have go: ∀{st:St} {r:Out×St},(match st.sl t with
     | .bool b=>(bif b then lk P A C N f n m x st else lk P A C N f n m y st).bind fun r=>
      match r.1 with
      | .norm=>some (.norm,canon m (A.join f t) r.2)
      | _=>some r
     | _=>none)=some r→(match st.sl t with
     | .bool b=>(bif b then exec P A C f n m x st else exec P A C f n m y st).bind fun r=>
      match r.1 with
      | .norm=>some (.norm,canon m (A.join f t) r.2)
      | _=>some r
     | _=>none)=some r:=by
    intro st r e;cases hs:st.sl t<;>rw[hs] at e<;>simp only at e⊢ <;>first|(cases e;done)|skip
    rename_i b;obtain ⟨x1,h1,h2⟩:=bind_some e;cases b with
    | true=>simp only[cond_true,jm h1,Option.bind_some];exact h2
    | false=>simp only[cond_false,jn h1,Option.bind_some];exact h2
   simp only[lk,exec] at e⊢;split at e
   ·rename_i hS
    try rw[hS]
    exact go e
   ·rename_i S hS;obtain ⟨ds,h1,h2⟩:=bind_some e;obtain ⟨e',h3,h4⟩:=bind_some h2;obtain ⟨r1,h5,h6⟩:=bind_some h3
    try rw[hS]
    simp only[h1,Option.bind_some];exact (congrArg (fun z:Option (Out×St)=>(z.bind fun r=>ways m 0 S.2 r).bind fun e=>nP 0 S.2 e.1 e.2 fun o st=>some (o,st)) (go h5)).trans (by simp only[Option.bind_some,h6];exact h4)
  | const v=>
   cases v with
   | bool b=>
    simp only[lk,exec] at e⊢;cases b with
    | true=>exact jm e
    | false=>exact jn e
   | _=>simp only[lk] at e;cases e
  | _=>simp only[lk] at e;cases e
 | block id c ih=>
  intro st r e;simp only[lk,exec] at e⊢;obtain ⟨x1,h1,h2⟩:=bind_some e;rw[ih h1];exact h2
 | loop c ih=>
  intro st r e;simp only[lk,exec] at e⊢;split at e
  ·cases e
  ·rename_i S hS;obtain ⟨ds,h1,h2⟩:=bind_some e;obtain ⟨e',h3,h4⟩:=bind_some h2
   try rw[hS]
   simp only[h1,Option.bind_some];rw[Bq (aca (s2:=fun ds=>pd m S.1 S.2 (exec P A C f n m c (bZ S.1 ds))) (fun x y FN=>by
    unfold pd at FN⊢;obtain ⟨z,h5,h6⟩:=bind_some FN;rw[ih h5];exact h6) N ds e' h3)]
   exact h4
 | _=>intro st r e;simp only[lk] at e;cases e
theorem amC {C:ae} {N f:Nat} {ds es:List V} (e:Sq P A C N f ds=some es):sj P A C f ds=some es:=by
 unfold Sq at e;unfold sj;cases hf:P.funcs[A.jI f]? with
 | none=>rw[hf] at e;cases e
 | some fn=>
  rw[hf] at e;simp only at e⊢;cases hb:fn.body with
  | none=>rw[hb] at e;cases e
  | some c=>
   rw[hb] at e;simp only at e⊢;cases hc:(kV 0 (A.sin f).cC&&(Nat.ble (A.sin f).cC.length fn.ntmps&&((A.sin f).ok&&(kV 0 (A.iJ f).cC&&(Nat.beq (A.iJ f).cC.length fn.results.size&&sh (qe (A.sin f).dr.length (A.mv f))))))) with
   | false=>rw[hc] at e;cases e
   | true=>
    rw[hc] at e;simp only[cond_true] at e⊢;obtain ⟨x,h1,h2⟩:=bind_some e;rw[amB c h1];exact h2
theorem acb {N:Nat}: ∀n {f:Nat} {a r:List V},Ci P A N n f a=some r→nQ P A n f a=some r
 | 0,f,a,r,h=>by cases h
 | n+1,f,a,r,h=>by
  obtain ⟨M,hM⟩:=Mg (C:=Ci P A N n) (D:=fun _=>nQ P A n) (fun f a r h=>⟨0,fun _ _=>acb n h⟩) (amC h);exact hM M (az _)
theorem acd {N n f:Nat} {a r:List V} (h:Ci P A N n f a=some r):Call P A f a=some r:=FO.2 ⟨n,acb n h⟩
end
inductive LK where
 | int (k:IntKind)
 | bool
 | str
 | list (e:TypeId)
 | nat
def LK.Ty:LK→Type
 | .int _=>Int
 | .bool=>Bool
 | .str=>List UInt8
 | .list _=>List V
 | .nat=>Nat
def LK.enc:(k:LK)→k.Ty→V
 | .int k,n=> .int k n
 | .bool,b=> .bool b
 | .str,s=> .str s
 | .list e,l=> .list e l
 | .nat,n=>fh n
def LK.dec:(k:LK)→V→k.Ty
 | .int _,v=>v.toInt
 | .bool,v=>v.toBool
 | .str,v=>v.toStr
 | .list _,v=>v.toList
 | .nat,v=>oC v
theorem LK.ace: ∀(k:LK) (x:k.Ty),k.dec (k.enc x)=x
 | .int _,_=>rfl
 | .bool,_=>rfl
 | .str,_=>rfl
 | .list _,_=>rfl
 | .nat,_=>rfl
def Sr:List Nat→List LK
 | []=>[]
 | _::l=> .nat::Sr l
def LS.ks:LS→List LK
 | .int k=>[.int k]
 | .bool=>[.bool]
 | .str=>[.str]
 | .list e=>[.list e]
 | .sub .. =>[.nat,.nat]
 | .ptr _=>[.nat,.nat]
 | .row _ _ cs=>Sr cs
 | .dS _ cs _=> .nat::Sr cs
 | _=>[]
def Cj:List LS→List LK
 | []=>[]
 | l::ls=>l.ks++Cj ls
def VS.ks:VS→List LK
 | .one l=>l.ks
 | .agg ls=>Cj ls
 | .bK ls=>Cj ls
 | .fn _ a b=>Cj a++Cj b
 | .pref _ ls=>Cj ls
def acf:List VS→List LK
 | []=>[]
 | l::ls=>l.ks++acf ls
def BS.ks:BS→List LK
 | .var _ cs=>acf cs
 | .arr e _=>[.list e]
 | .nest e=>[.list e]
 | .dead=>[]
 | .map t=>[.list t]
def acg:List (Nat×VS)→List LK
 | []=>[]
 | p::l=>p.2.ks++acg l
def ach:List BS→List LK
 | []=>[]
 | b::l=>b.ks++ach l
def Shape.ks (S:Shape):List LK:=acg S.cC++ach S.dr
def Ss:List Nat→List V→List V
 | [],_=>[]
 | _::cs,ds=>fh (oC (V.nth ds 0))::Ss cs (ds.drop 1)
def LS.norm:LS→List V→List V
 | .int k,ds=>[.int k (V.nth ds 0).toInt]
 | .bool,ds=>[.bool (V.nth ds 0).toBool]
 | .str,ds=>[.str (V.nth ds 0).toStr]
 | .list e,ds=>[.list e (V.nth ds 0).toList]
 | .sub ..,ds=>[fh (oC (V.nth ds 0)),fh (oC (V.nth ds 1))]
 | .ptr _,ds=>[fh (oC (V.nth ds 0)),fh (oC (V.nth ds 1))]
 | .row _ _ cs,ds=>Ss cs ds
 | .dS _ cs _,ds=>fh (oC (V.nth ds 0))::Ss cs (ds.drop 1)
 | _,_=>[]
def Ck:List LS→List V→List V
 | [],_=>[]
 | l::ls,ds=>l.norm ds++Ck ls (ds.drop l.size)
def VS.norm:VS→List V→List V
 | .one l,ds=>l.norm ds
 | .agg ls,ds=>Ck ls ds
 | .bK ls,ds=>Ck ls ds
 | .fn _ a b,ds=>Ck a ds++Ck b (ds.drop (mV a))
 | .pref _ ls,ds=>Ck ls ds
def aci:List VS→List V→List V
 | [],_=>[]
 | l::ls,ds=>l.norm ds++aci ls (ds.drop l.size)
def BS.norm:BS→List V→List V
 | .var _ cs,ds=>aci cs ds
 | .arr e _,ds=>[.list e (V.nth ds 0).toList]
 | .nest e,ds=>[.list e (V.nth ds 0).toList]
 | .dead,_=>[]
 | .map t,ds=>[.list t (V.nth ds 0).toList]
def acj:List (Nat×VS)→List V→List V
 | [],_=>[]
 | p::l,ds=>p.2.norm ds++acj l (ds.drop p.2.size)
def ack:List BS→List V→List V
 | [],_=>[]
 | b::l,ds=>b.norm ds++ack l (ds.drop b.size)
def Shape.norm (S:Shape) (ds:List V):List V:=acj S.cC ds++ack S.dr (ds.drop (sg S.cC))
def zM:LK→List LK→Type
 | k,[]=>k.Ty
 | k,k'::ks=>k.Ty×zM k' ks
def n9:List LK→Type
 | []=>Unit
 | k::ks=>zM k ks
def zN:(k:LK)→(ks:List LK)→zM k ks→List V
 | k,[],x=>[k.enc x]
 | k,k'::ks,x=>k.enc x.1::zN k' ks x.2
def oR:(ks:List LK)→n9 ks→List V
 | [],_=>[]
 | k::ks,x=>zN k ks x
def FT:(k:LK)→(ks:List LK)→List V→zM k ks
 | k,[],l=>k.dec (V.nth l 0)
 | k,k'::ks,l=>(k.dec (V.nth l 0),FT k' ks l.tail)
def sR:(ks:List LK)→List V→n9 ks
 | [],_=>()
 | k::ks,l=>FT k ks l
theorem acm: ∀(k:LK) (ks:List LK) (x:zM k ks) (r:List V),FT k ks (zN k ks x++r)=x
 | k,[],x,r=>LK.ace k x
 | k,k'::ks,x,r=>by
  show (k.dec (k.enc x.1),FT k' ks (zN k' ks x.2++r))=x;rw[LK.ace,acm k' ks];rfl
def Cl:List LK→Type 1→Type 1
 | [],R=>R
 | k::ks,R=>k.Ty→Cl ks R
def apN:(k:LK)→(ks:List LK)→{R:Type 1}→Cl (k::ks) R→zM k ks→R
 | _,[],_,f,x=>f x
 | _,k'::ks,_,f,x=>apN k' ks (f x.1) x.2
def zO:(ks:List LK)→{R:Type 1}→Cl ks R→n9 ks→R
 | [],_,f,_=>f
 | k::ks,_,f,x=>apN k ks f x
def Cm {α:Type} (b:Bool):List Bool→List α→List α
 | [],_=>[]
 | _,[]=>[]
 | c::m,x::l=>bif c==b then x::Cm b m l else Cm b m l
def merge:List Bool→List V→List V→List V
 | [],_,_=>[]
 | true::m,i,x=>V.nth x 0::merge m i x.tail
 | false::m,i,x=>V.nth i 0::merge m i.tail x
def Cn:List Nat→List LK→List LK
 | [],_=>[]
 | _,[]=>[]
 | 0::t,k::ks=>k::Cn t ks
 | (_+1)::t,_::ks=>Cn t ks
abbrev jc:=List Nat×List LK
def jc.fresh (w:jc):List LK:=Cn w.1 w.2
def put:List Nat→List V→List V→List V
 | [],_,_=>[]
 | 0::t,ds,x=>V.nth x 0::put t ds x.tail
 | (j+1)::t,ds,x=>V.nth ds j::put t ds x
def zP:List Nat→List V→List V
 | [],_=>[]
 | 0::t,l=>V.nth l 0::zP t l.tail
 | (_+1)::t,l=>zP t l.tail
def xC:jc→List jc→Type
 | w,[]=>n9 w.fresh
 | w,w'::ws=>n9 w.fresh ⊕ xC w' ws
def vP:List jc→Type
 | []=>Empty
 | w::ws=>xC w ws
def wN (ds:List V) {β:Type} (k:Nat→List V→Option β):Nat→(w:jc)→(ws:List jc)→xC w ws→Option β
 | j,w,[],r=>k j (put w.1 ds (oR w.fresh r))
 | j,w,w'::ws,r=>bN (fun x=>k j (put w.1 ds (oR w.fresh x))) (fun y=>wN ds k (j+1) w' ws y) r
def wT (ds:List V) {β:Type} (k:Nat→List V→Option β):(ws:List jc)→vP ws→Option β
 | [],r=>Empty.elim r
 | w::ws,r=>wN ds k 0 w ws r
def sU (ds:List V):Nat→(w:jc)→(ws:List jc)→xC w ws→Nat×List V
 | j,w,[],r=>(j,put w.1 ds (oR w.fresh r))
 | j,w,_::_,.inl x=>(j,put w.1 ds (oR w.fresh x))
 | j,_,w'::ws,.inr y=>sU ds (j+1) w' ws y
def Co (ds:List V):(ws:List jc)→vP ws→Nat×List V
 | [],r=>Empty.elim r
 | w::ws,r=>sU ds 0 w ws r
theorem acn (ds:List V) {β:Type} (k:Nat→List V→Option β): ∀(j:Nat) (w:jc) (ws:List jc) (r:xC w ws),wN ds k j w ws r=k (sU ds j w ws r).1 (sU ds j w ws r).2
 | _,_,[],_=>rfl
 | _,_,_::_,.inl _=>rfl
 | j,_,w'::ws,.inr y=>acn ds k (j+1) w' ws y
theorem Mo (ds:List V) {β:Type} (k:Nat→List V→Option β): ∀(ws:List jc) (r:vP ws),wT ds k ws r=k (Co ds ws r).1 (Co ds ws r).2
 | [],r=>Empty.elim r
 | w::ws,r=>acn ds k 0 w ws r
def Cp:Nat→(w:jc)→(ws:List jc)→List V→xC w ws
 | _,w,[],l=>sR w.fresh (zP w.1 l)
 | 0,w,_::_,l=> .inl (sR w.fresh (zP w.1 l))
 | j+1,_,w'::ws,l=> .inr (Cp j w' ws l)
def deT (j:Nat):(ws:List jc)→List V→Option (vP ws)
 | [],_=>none
 | w::ws,l=>some (Cp j w ws l)
def Cq:List Nat→List V→List V
 | [],_=>[]
 | 0::t,x=>V.nth x 0::Cq t x.tail
 | (_+1)::t,x=>Cq t x
theorem Su: ∀(t:List Nat) (ds x:List V),zP t (put t ds x)=Cq t x
 | [],_,_=>rfl
 | 0::t,ds,x=>congrArg (V.nth x 0:: ·) (Su t ds x.tail)
 | (_+1)::t,ds,x=>Su t ds x
theorem Sv: ∀(t:List Nat) (ks:List LK) (k:LK) (uo:List LK),Cn t ks=k::uo→∀x:zM k uo,∃r,Cq t (zN k uo x)=zN k uo x++r
 | [],_,_,_,h,_=>by cases h
 | _::_,[],_,_,h,_=>by simp[Cn] at h
 | 0::t,a::ks,k,uo,h,x=>by
  simp only[Cn,yF] at h;obtain ⟨rfl,h2⟩:=h;cases uo with
  | nil=>exact ⟨Cq t [],rfl⟩
  | cons k' uo=>
   obtain ⟨r,hr⟩:=Sv t ks k' uo h2 x.2;exact ⟨r,congrArg (a.enc x.1:: ·) hr⟩
 | (_+1)::t,a::ks,k,uo,h,x=>Sv t ks k uo h x
theorem aco (w:jc) (ds:List V) (x:n9 w.fresh):sR w.fresh (zP w.1 (put w.1 ds (oR w.fresh x)))=x:=by
 rw[Su];revert x;generalize hf:w.fresh=f;cases f with
 | nil=>intro x;rfl
 | cons k ks=>
  intro x;obtain ⟨r,hr⟩:=Sv w.1 w.2 k ks hf x;show FT k ks (Cq w.1 (zN k ks x))=x;rw[hr];exact acm k ks x r
theorem acp (ds:List V): ∀(j:Nat) (w:jc) (ws:List jc) (r:xC w ws),j≤(sU ds j w ws r).1
 | _,_,[],_=>az _
 | _,_,_::_,.inl _=>az _
 | j,_,w'::ws,.inr y=>kP (Nat.le_succ j) (acp ds (j+1) w' ws y)
theorem amD (w:jc) (l:List V): ∀j,Cp j w [] l=sR w.fresh (zP w.1 l)
 | 0=>rfl
 | _+1=>rfl
theorem acq (ds:List V): ∀(j:Nat) (w:jc) (ws:List jc) (r:xC w ws),Cp ((sU ds j w ws r).1-j) w ws (sU ds j w ws r).2=r
 | j,w,[],r=>(amD w _ _).trans (aco w ds r)
 | j,w,w'::ws,.inl x=>by
  show Cp (j-j) w (w'::ws) (put w.1 ds (oR w.fresh x))= .inl x;rw[Nat.sub_self];exact congrArg Sum.inl (aco w ds x)
 | j,w,w'::ws,.inr y=>by
  have h1:=acp ds (j+1) w' ws y;have h2:=acq ds (j+1) w' ws y;show Cp ((sU ds (j+1) w' ws y).1-j) w (w'::ws) (sU ds (j+1) w' ws y).2= .inr y;obtain ⟨d,hd⟩: ∃d,(sU ds (j+1) w' ws y).1=j+1+d:=⟨(sU ds (j+1) w' ws y).1-(j+1),by omega⟩
  rw[hd] at h2⊢;rw[show j+1+d-(j+1)=d by omega] at h2;rw[show j+1+d-j=d+1 by omega];exact congrArg Sum.inr h2
theorem amE (ds:List V): ∀(ws:List jc) (r:vP ws),deT (Co ds ws r).1 ws (Co ds ws r).2=some r
 | [],r=>Empty.elim r
 | w::ws,r=>congrArg some (acq ds 0 w ws r)
section
variable {P:Program} {A:dH} {C:ae} {L:cE} {f n m:Nat}
theorem amF {c:Code} {S:Shape×List (Out×Shape)} (hS:A.j7 f (keyOf c+1)=some S) (hL:ky P A C L f n m c) {I X R:Type} (enc:I→X→List V) (qs:I→R→Nat×List V)
  (uq:List V→I) (vQ:List V→X) (Mp:Nat×List V→Option R) (body:I→X→(β:Type)→(X→Option β)→(R→Option β)→Option β)
  (zL: ∀ds,bZ S.1 (enc (uq ds) (vQ ds))=bZ S.1 ds) (Sw: ∀i x,vQ (enc i x)=x) (hdr: ∀i r,Mp (qs i r)=some r)
  (e1: ∀i x (β:Type) (k:(List V ⊕ (Nat×List V))→Option β),kW P A C L f n m c (bZ S.1 (enc i x)) (fun o st=>(pd m S.1 S.2 (some (o,st))).bind k)=
   body i x β (fun y=>k (.inl (enc i y))) (fun r=>k (.inr (qs i r))))
  (hl: ∀(β:Type) ds (k:Nat→List V→Option β),L β (keyOf c+1) ds k=(Loop (fun x=>body (uq ds) x (X ⊕ R) (fun y=>some (.inl y)) (fun r=>some (.inr r))) (vQ ds)).bind fun r=>k (qs (uq ds) r).1 (qs (uq ds) r).2):
  um P A C L f n m (.loop c):=by
 simp only[um,hS];intro β ds k;rw[hl];have hex: ∀(z:Option (Out×St)),pd m S.1 S.2 z=z.bind fun r=>pd m S.1 S.2 (some (r.1,r.2)):=by
  intro z;cases z<;>rfl
 have hs: ∀i x,stepG P A C f n m S c (enc i x)=(body i x (X ⊕ R) (fun y=>some (.inl y)) (fun r=>some (.inr r))).map fun| .inl y=> .inl (enc i y)| .inr r=> .inr (qs i r):=by
  intro i x;have k1:=e1 i x _ (fun z=>some z);have k2:=e1 i x (X ⊕ R) (fun| .inl ds=>some (.inl (vQ ds))| .inr e=>(Mp e).map .inr);have k3:=e1 i x (List V ⊕ (Nat×List V)) (fun| .inl ds=>some (.inl (enc i (vQ ds)))| .inr e=>(Mp e).map fun r=> .inr (qs i r));simp only[Sw,hdr,Option.map_some] at k2 k3;unfold stepG;rw[hex];rw[KV P A C f n m c hL] at k1 k2 k3;rw[←k2];refine Eq.trans ?_ (k1.trans (k3.symm.trans ?_))
  ·simp
  ·cases exec P A C f n m c (bZ S.1 (enc i x)) with
   | none=>rfl
   | some r=>
    simp only[Option.bind_some];cases pd m S.1 S.2 (some (r.1,r.2)) with
    | none=>rfl
    | some z=>
     cases z with
     | inl _=>rfl
     | inr e=>simp only[Option.bind_some];cases Mp e<;>rfl
 have h0:stepG P A C f n m S c ds=stepG P A C f n m S c (enc (uq ds) (vQ ds)):=by
  unfold stepG;rw[zL]
 have:Loop (stepG P A C f n m S c) ds=(Loop (fun x=>body (uq ds) x (X ⊕ R) (fun y=>some (.inl y)) (fun r=>some (.inr r))) (vQ ds)).map (qs (uq ds)):=by
  rw[Kv,h0,←Kv];exact ajA (enc (uq ds)) (qs (uq ds)) (fun x=>hs _ _) (vQ ds)
 rw[this];cases Loop (fun x=>body (uq ds) x (X ⊕ R) (fun y=>some (.inl y)) (fun r=>some (.inr r))) (vQ ds)<;>rfl
abbrev FU (S:Shape) (mk:List Bool):List LK:=Cm false mk S.ks
abbrev zQ (S:Shape) (mk:List Bool):List LK:=Cm true mk S.ks
def vR (ts:List (List Nat)) (W:List (Out×Shape)):List jc:=
 match ts,W with
 | t::ts,w::W=>(t,w.2.ks)::vR ts W
 | _,_=>[]
abbrev FV (S:Shape) (mk:List Bool) (i:n9 (FU S mk)) (x:n9 (zQ S mk)):List V:=merge mk (oR _ i) (oR _ x)
abbrev Sy (S:Shape) (mk:List Bool) (i:n9 (FU S mk)):List V:=merge mk (oR _ i) []
abbrev Mq (S:Shape) (mk:List Bool) (ds:List V):n9 (FU S mk):=sR _ (Cm false mk (S.norm ds))
abbrev Mr (S:Shape) (mk:List Bool) (ds:List V):n9 (zQ S mk):=sR _ (Cm true mk (S.norm ds))
abbrev acr (X R:Type):Type 1:=(β:Type)→(X→Option β)→(R→Option β)→Option β
abbrev Ms (S:Shape×List (Out×Shape)) (mk:List Bool) (ts:List (List Nat)):Type 1:=Cl (FU S.1 mk) (Cl (zQ S.1 mk) (acr (n9 (zQ S.1 mk)) (vP (vR ts S.2))))
abbrev Sz (S:Shape×List (Out×Shape)) (mk:List Bool) (ts:List (List Nat)) (b:Ms S mk ts) (i:n9 (FU S.1 mk)) (x:n9 (zQ S.1 mk)):acr (n9 (zQ S.1 mk)) (vP (vR ts S.2)):=zO _ (zO _ b i) x
def SA (S:Shape×List (Out×Shape)) (mk:List Bool) (ts:List (List Nat)) (b:Ms S mk ts) {β:Type} (ds:List V) (k:Nat→List V→Option β):Option β:=
 (Loop (fun x=>Sz S mk ts b (Mq S.1 mk ds) x (n9 (zQ S.1 mk) ⊕ vP (vR ts S.2)) (fun y=>some (.inl y)) (fun r=>some (.inr r))) (Mr S.1 mk ds)).bind (wT (Sy S.1 mk (Mq S.1 mk ds)) k (vR ts S.2))
theorem bE {c:Code} (S:Shape×List (Out×Shape)) (mk:List Bool) (ts:List (List Nat)) (b:Ms S mk ts) (hL:ky P A C L f n m c) (hS:A.j7 f (keyOf c+1)=some S:=by kernel_rfl)
  (zL: ∀ds,bZ S.1 (FV S.1 mk (Mq S.1 mk ds) (Mr S.1 mk ds))=bZ S.1 ds:=by intros;kernel_rfl) (Sw: ∀i x,Mr S.1 mk (FV S.1 mk i x)=x:=by intros;kernel_rfl)
  (e1: ∀i x (β:Type) (k:(List V ⊕ (Nat×List V))→Option β),kW P A C L f n m c (bZ S.1 (FV S.1 mk i x)) (fun o st=>(pd m S.1 S.2 (some (o,st))).bind k)=
   Sz S mk ts b i x β (fun y=>k (.inl (FV S.1 mk i y))) (wT (Sy S.1 mk i) (fun j l=>k (.inr (j,l))) (vR ts S.2)):=by intros;kernel_rfl)
  (hl: ∀(β:Type) ds (k:Nat→List V→Option β),L β (keyOf c+1) ds k=SA S mk ts b ds k:=by intros;kernel_rfl):
  um P A C L f n m (.loop c):=
 amF hS hL (FV S.1 mk) (fun i r=>Co (Sy S.1 mk i) _ r) (Mq S.1 mk) (Mr S.1 mk) (fun e=>deT e.1 _ e.2) (Sz S mk ts b) zL Sw (fun i r=>amE _ _ r)
  (fun i x β k=>by
   rw[e1];congr 1;funext r;exact Mo _ _ _ r)
  (fun β ds k=>by
   rw[hl];unfold SA;congr 1;funext r;exact Mo _ _ _ r)
abbrev SB (S:Shape×List (Out×Shape)) (ts:List (List Nat)):Type 1:=Cl S.1.ks ((β:Type)→(vP (vR ts S.2)→Option β)→Option β)
def acs (S:Shape×List (Out×Shape)) (ts:List (List Nat)) (b:SB S ts) {β:Type} (ds:List V) (k:Nat→List V→Option β):Option β:=
 zO S.1.ks b (sR _ (S.1.norm ds)) β (wT (oR S.1.ks (sR _ (S.1.norm ds))) k (vR ts S.2))
theorem gF {t:Nat} {x y:Code} (S:Shape×List (Out×Shape)) (ts:List (List Nat)) (b:SB S ts) (hx:ky P A C L f n m x) (hy:ky P A C L f n m y) (hS:A.j7 f (t*16+15)=some S:=by kernel_rfl)
  (zL: ∀ds,bZ S.1 (oR S.1.ks (sR _ (S.1.norm ds)))=bZ S.1 ds:=by intros;kernel_rfl)
  (e1: ∀i (β:Type) (k:Nat→List V→Option β),Sp P A C L f n m t S x y (oR S.1.ks i) k=zO S.1.ks b i β (wT (oR S.1.ks i) k (vR ts S.2)):=by intros;kernel_rfl)
  (hl: ∀(β:Type) ds (k:Nat→List V→Option β),L β (t*16+15) ds k=acs S ts b ds k:=by intros;kernel_rfl):
  um P A C L f n m (.cond t x y):=
 amz hS hx hy (oR S.1.ks) (fun i r=>Co (oR S.1.ks i) _ r) (fun ds=>sR _ (S.1.norm ds)) (zO S.1.ks b) zL
  (fun i β k=>by
   rw[e1];exact congrArg (zO S.1.ks b i β) (funext fun r=>Mo _ _ _ r))
  (fun β ds k=>by
   rw[hl];exact congrArg (zO S.1.ks b (sR _ (S.1.norm ds)) β) (funext fun r=>Mo _ _ _ r))
end
theorem aG {P:Program} {A:dH} {C:ae} {L:cE} {f n m:Nat} {c:Code} {bs:List py} (hb:pz P A C L f n m bs) (h:ry A f c=bs:=by kernel_rfl):ky P A C L f n m c:=ab9 h hb
theorem bj {P:Program} {A:dH} {L:cE} {key:Nat} {bs:List py} {ds:List V} {r x:Option (List V)} (ht:pz P A (Call P A) L key (ED P (A.jI key)) (A.sin key).dr.length bs) (h:x=r)
  (hb:ry A key (vk P (A.jI key))=bs:=by kernel_rfl) (e:KW P A (Call P A) L key ds=x:=by kernel_rfl):Call P A key ds=r:=amA hb ht (e.trans h)
def bG (j:Nat) (S:Shape×List (Out×Shape)) (mk:List Bool) (ts:List (List Nat)) (b:Ms S mk ts) (L:cE):cE:=fun β n ds k=>bif Nat.beq n j then SA S mk ts b ds k else L β n ds k
def gG (j:Nat) (S:Shape×List (Out×Shape)) (ts:List (List Nat)) (b:SB S ts) (L:cE):cE:=fun β n ds k=>bif Nat.beq n j then acs S ts b ds k else L β n ds k
def bm:cE:=fun _ _ _ _=>none
abbrev LV:=List V
structure SE where
 T:TypeId
 cmp:Nat
 ex:V→List V
 k:Nat→Nat
abbrev zR (l:List V) (j:Int) {β:Type} (x:Option β):Option β:=bif (decide (0≤j))&&(decide (j<(l.length:Int))) then x else none
abbrev aq (l:List V) (j:Int) {β:Type} (f:V→Option β):Option β:=bif (decide (0≤j))&&(decide (j<(l.length:Int))) then (l[j.toNat]?).bind f else none
abbrev aI (l:List V) (j:Int) (v:V):List V:=l.set j.toNat v
end Go.AM
