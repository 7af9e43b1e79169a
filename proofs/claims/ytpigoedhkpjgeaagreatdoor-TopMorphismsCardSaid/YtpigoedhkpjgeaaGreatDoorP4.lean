/-
  Functions of the program, lifted to plain data.
-/
import Derived.Carry
import Derived.OpenShut
import Derived.Deep.Slices
import Derived.Test.YtpigoedhkpjgeaaGreatDoorP3
noncomputable section
set_option linter.unusedVariables false
set_option linter.unusedSimpArgs false
set_option linter.unusedSectionVars false
namespace Go.AM
open Go.IntKind (wrap)
section
variable {P:Program} {A:dc} {w w':World} {I I' I2:Nat→Nat→Prop} {μ β β':Nat→Option Nat} {hp hp' hp0:Nat→Option ag} {C:af} {B:Nat} {M:Nat→Prop} {w0:Start}
theorem JD (p:Nat→Prop) (h: ∃n,p n): ∃n,p n∧∀m,p m→n≤m:=by
 obtain ⟨n,hn⟩:=h
 induction n using Nat.strongRecOn with
 | _ n ih=>
  by_cases hx: ∃m,m<n∧p m
  ·obtain ⟨m,hm,hp⟩:=hx;exact ih m hm hp
  ·exact ⟨n,hn,fun m hm=>Nat.le_of_not_lt fun ba=>hx ⟨m,ba,hm⟩⟩
open Classical in
theorem ahZ {c:Code} {Q:Exit→Act→World→Prop} (J:Nat→Act→World→Prop) (h0: ∀a w,¬J 0 a w) (round: ∀n a w,J (n+1) a w→c.wp P (Exit.then (J n) Q) a w) {n:Nat} {a:Act} {w:World} (h:J n a w):
  (Code.loop c).wp P Q a w:=by
 refine wp_loop (fun a w=> ∃n,J n a w) (fun a w=>if h: ∃n,J n a w then (JD _ h).choose else 0) ⟨n,h⟩ fun a w hJ=> ?_;obtain ⟨h1,h2⟩:=(JD _ hJ).choose_spec;generalize hk:(JD _ hJ).choose=k at h1 h2;cases k with
 | zero=>exact absurd h1 (h0 a w)
 | succ k=>
  refine wp_mono (round k a w h1) fun e a' w' he=> ?_;cases e with
  | normal=>
   have hex: ∃n,J n a' w':=⟨k,he⟩
   refine ⟨hex,?_⟩;have h3:=(JD _ hex).choose_spec.2 k he;rw[pC hex,pC hJ,hk];omega
  | _=>exact he
def z9:Out→Exit
 | .norm=> .normal
 | .exit id=> .exit id
 | .ret=> .ret
def Inv (P:Program) (E:FuncId→Bool) (G:Nat→V) (B:Nat) (M:Nat→Prop) (w0:Start) (μ:Nat→Option Nat) (hp0:Nat→Option ag) (n:Nat) (a:Act) (w:World) (st:St):Prop:=
 ∃I β,aA P w I β st.hp B M w0∧gi P E G w I β n a st∧nn w0.w w0.I μ hp0 w I β st.hp
theorem Inv.canon {E:FuncId→Bool} {G:Nat→V} {n m:Nat} {a:Act} {st:St} {live:List Nat} (h:Inv P E G B M w0 μ hp0 n a w st) (hm: ∀id blk,hp0 id=some blk→id<m) (kg:xK hp0):Inv P E G B M w0 μ hp0 n a w (canon m live st):=by
 obtain ⟨I0,β,S,hA,hE⟩:=h;obtain ⟨I,h1,S,hA,hT⟩:=Yi S hA;obtain ⟨β',a,b,c⟩:=ahX (live:=live) S hT hA (hE.trans h1.zU) hm kg;exact ⟨I,β',a,b,c⟩
theorem JE: ∀{l:List BS} {ds:List V},(fO l ds).length=l.length
 | [],_=>rfl
 | b::l,ds=>by simp only[fO,List.length_cons,JE]
theorem Inv.enter {A:dc} {E:FuncId→Bool} {G:Nat→V} {n f:Nat} {ds:List V} {a:Act} (la:qB (oR (A.sin f).cL.length (A.mv f))=true) (h:Inv P E G B M w0 μ hp0 n a w (bH (A.sin f) ds)) (hm: ∀id blk,hp0 id=some blk→id<(A.sin f).cL.length)
  (kg:xK hp0) (Yz: ∀p,(A.sin f).cL.length≤p→(bH (A.sin f) ds).hp p=none):Inv P E G B M w0 μ hp0 n a w (Cw A f ds):=by
 unfold Cw;split
 ·exact h
 ·obtain ⟨I0,β,S,hA,hE⟩:=h;obtain ⟨I,h1,S,hA,hT⟩:=Yi S hA;obtain ⟨β',x,y,z⟩:=Yw (kp:=[]) (m:=(A.sin f).cL.length) (ord:=oR (A.sin f).cL.length (A.mv f)) (live:=(A.sin f).cf.map (·.1)) (Yy la) (fun id ab=>(ahY ab).imp (fun h=>h) fun h=>⟨_,h,Yz _ (by omega)⟩) S hT hA (hE.trans h1.zU) hm kg;exact ⟨I,β',x,y,z⟩
theorem Inv.reshape {E:FuncId→Bool} {G:Nat→V} {n m:Nat} {a:Act} {st:St} {S:Shape} {ds:List V} (h:Inv P E G B M w0 μ hp0 n a w st) (hs:j7 m S st=some ds) (hm: ∀id blk,hp0 id=some blk→id<m):Inv P E G B M w0 μ hp0 n a w (bH S ds):=by
 obtain ⟨I,β,S1,hA,hE⟩:=h;obtain ⟨r1,r2,_,r4⟩:=AM.reshape hs S1;refine ⟨I,β,r1,⟨fun k=>r2 k _ (hA.sl k),hA.size,hA.defers,hA.aF⟩,⟨hE.dV,hE.cE,fun id blk ab=> ?_,fun id blk blk' b ab bL hd hb=> ?_⟩⟩
 ·obtain ⟨sm,k1,k2,k3⟩:=hE.blk id blk ab;obtain ⟨_,hle,_⟩:=Xh hs;have hl:=hm id blk ab;obtain ⟨ct,h2⟩: ∃ct,(bH S ds).hp id=some ct:=by
   simp only[bH,mk,jx];exact ⟨_,bR (by rw[JE];omega)⟩
  by_cases hd:ct= .dead
  ·subst hd;exact ⟨_,h2,by cases blk<;>trivial,fun h=>absurd rfl h⟩
  ·obtain ⟨jq,e1,e2,_⟩:=r4 id ct h2 hd;rw[k1] at e1;cases e1;exact ⟨_,h2,ag.le_trans k2 e2,fun _=>k3 (fun e=>hd (ag.rU (e▸e2)))⟩
 ·obtain ⟨jq,e1,e2,_⟩:=r4 id blk' bL hd;exact hE.size id blk jq b ab e1 (fun e=>hd (ag.rU (e▸e2))) hb
theorem np.here (h:np P A C) (f:Nat) (id:Nat):np P (A.here f id) C:=by
 intro key ds es hh;obtain ⟨fn,c,h1,h2,h3⟩:=h key ds es hh;refine ⟨fn,c,h1,h2,fun w I μ vals a g b d=>(h3 w I μ vals a g b d).mono fun e w' hx=> ?_⟩;obtain ⟨v,I2,cy,q1,q2⟩:=hx;exact ⟨v,I2,cy,q1,⟨q2.zV,q2.le,q2.res⟩⟩
theorem ah0 {a b:Out} (h:Is a b=true):a=b:=by
 cases a<;>cases b<;>simp[Is] at h<;>first|rfl|(subst h;rfl)
theorem YA {m:Nat} {r:Out×St}: ∀{l:List (Out×Shape)} {j:Nat} {e:Nat×List V},ways m j l r=some e→j≤e.1
 | [],j,e,h=>by cases h
 | (o,S)::l,j,e,h=>by
  simp only[ways] at h;split at h
  ·cases h;exact az _
  ·have:=YA h;omega
theorem PB {m:Nat} {o:Out} {s:St} {out:Out} {st':St}: ∀{l:List (Out×Shape)} {k:Nat} {e:Nat×List V},ways m k l (o,s)=some e→mu k l e.1 e.2 (fun o st=>some (o,st))=some (out,st')→
  out=o∧∃S,j7 m S s=some e.2∧st'=bH S e.2
 | [],k,e,h,_=>by cases h
 | (o',S)::l,k,e,h,h2=>by
  simp only[ways] at h;split at h
  ·rename_i ds hx;cases h;cases ho:Is o' o with
   | false=>rw[ho] at hx;cases hx
   | true=>
    rw[ho] at hx;have:=ah0 ho;subst this;cases l with
    | nil=>
     simp only[mu,et,lx] at h2;exact ⟨h2.1.symm,S,hx,h2.2.symm⟩
    | cons p l=>
     simp only[mu,ml,cond_true,et,lx] at h2;exact ⟨h2.1.symm,S,hx,h2.2.symm⟩
  ·have pY:=YA h;cases l with
   | nil=>cases h
   | cons p l=>
    have bK:Nat.beq e.1 k=false:=by
     cases hb:Nat.beq e.1 k with
     | false=>rfl
     | true=>rw[aO] at hb;omega
    simp only[mu,bK,cond_false] at h2;exact PB h h2
theorem ah1 (hC:np P A C) (hP:jW P A) (p8:P.follows .mixedOrders=true) {f n m:Nat} (hm: ∀id blk,hp0 id=some blk→id<m) (kg:xK hp0):
  ∀(c:Code) {st st':St} {out:Out} {Q:Exit→Act→World→Prop} {a:Act} {w:World},exec P A C f n m c st=some (out,st')→Inv P A.idle A.aF B M w0 μ hp0 n a w st→
   (∀a' w',Inv P A.idle A.aF B M w0 μ hp0 n a' w' st'→Q (z9 out) a' w')→c.wp P Q a w:=by
 intro c
 induction c with
 | skip=>
  intro st st' out Q a w h hI hQ;simp only[exec,et,lx] at h;obtain ⟨rfl,rfl⟩:=h;exact wp_skip (hQ a w hI)
 | exit id=>
  intro st st' out Q a w h hI hQ;simp only[exec,et,lx] at h;obtain ⟨rfl,rfl⟩:=h;exact wp_exit (hQ a w hI)
 | ret=>
  intro st st' out Q a w h hI hQ;simp only[exec,et,lx] at h;obtain ⟨rfl,rfl⟩:=h;exact wp_ret (hQ a w hI)
 | region id ops draw=>
  intro st st' out Q a w h hI hQ;simp only[exec] at h;obtain ⟨kf,h1,h2⟩:=bind_some h;simp only[et,lx] at h2;obtain ⟨rfl,rfl⟩:=h2;obtain ⟨I,β,S,hA,hE⟩:=hI;refine ahN (hC.here f id) (hP.here f id) p8 h1 S hA fun a' w' I' β' k1 k2 k3=> ?_;obtain ⟨I2,cy,l1,l2,l3⟩:=Yk (m:=m) (pur:=A.pur f id) k2 k3;have hE2:=(hE.trans k1.zU).trans l1.zU;exact hQ a' w' (Inv.canon ⟨I2,cy,l2,l3,hE2⟩ hm kg)
 | seq x y g9 hY=>
  intro st st' out Q a w h hI hQ;simp only[exec] at h;obtain ⟨⟨o1,kf⟩,h1,h2⟩:=bind_some h;refine wp_seq (g9 h1 hI fun a' w' fy=> ?_);cases o1 with
  | norm=>exact hY h2 fy hQ
  | exit id=>
   simp only[et,lx] at h2;obtain ⟨rfl,rfl⟩:=h2;exact hQ a' w' fy
  | ret=>
   simp only[et,lx] at h2;obtain ⟨rfl,rfl⟩:=h2;exact hQ a' w' fy
 | cond c x y g9 hY=>
  intro st st' out Q a w h hI hQ;cases c with
  | tmp t=>
   have go: ∀{st st':St} {out:Out} {Q:Exit→Act→World→Prop} {a:Act} {w:World},(match st.sl t with
     | .bool b=>(bif b then exec P A C f n m x st else exec P A C f n m y st).bind fun r=>
      match r.1 with
      | .norm=>some (.norm,AM.canon m (A.join f t) r.2)
      | _=>some r
     | _=>none)=some (out,st')→Inv P A.idle A.aF B M w0 μ hp0 n a w st→(∀a' w',Inv P A.idle A.aF B M w0 μ hp0 n a' w' st'→Q (z9 out) a' w')→(Code.cond (.tmp t) x y).wp P Q a w:=by
    intro st st' out Q a w h hI hQ;cases hs:st.sl t<;>rw[hs] at h<;>simp only at h<;>first|(cases h;done)|skip
    rename_i b;obtain ⟨⟨o1,kf⟩,h1,h2⟩:=bind_some h;obtain ⟨I,β,S,hA,hE⟩:=hI;have fY:a.eval (.tmp t)= .bool b:=by
     have:=XR hA hs;simp[Act.eval,this]
    have fin: ∀a' w',Inv P A.idle A.aF B M w0 μ hp0 n a' w' kf→Q (z9 o1) a' w':=by
     intro a' w' fy;cases o1 with
     | norm=>
      simp only[et,lx] at h2;obtain ⟨rfl,rfl⟩:=h2;exact hQ a' w' (fy.canon hm kg)
     | exit id=>
      simp only[et,lx] at h2;obtain ⟨rfl,rfl⟩:=h2;exact hQ a' w' fy
     | ret=>
      simp only[et,lx] at h2;obtain ⟨rfl,rfl⟩:=h2;exact hQ a' w' fy
    refine wp_cond fY ?_;cases b with
    | true=>exact g9 h1 ⟨I,β,S,hA,hE⟩ fin
    | false=>exact hY h1 ⟨I,β,S,hA,hE⟩ fin
   simp only[exec] at h;split at h
   ·exact go h hI hQ
   ·obtain ⟨ds,h1,h2⟩:=bind_some h;obtain ⟨e,h3,h4⟩:=bind_some h2;obtain ⟨⟨o1,s1⟩,h5,h6⟩:=bind_some h3;obtain ⟨rfl,S',k1,rfl⟩:=PB h6 h4;exact go h5 (hI.reshape h1 hm) fun a' w' fy=>hQ a' w' (fy.reshape k1 hm)
  | const v=>
   cases v with
   | bool b=>
    simp only[exec] at h;refine wp_cond (t:=b) rfl ?_;cases b with
    | true=>exact g9 h hI hQ
    | false=>exact hY h hI hQ
   | _=>simp only[exec] at h;cases h
  | _=>simp only[exec] at h;cases h
 | block id c ih=>
  intro st st' out Q a w h hI hQ;simp only[exec] at h;obtain ⟨⟨o1,kf⟩,h1,h2⟩:=bind_some h;refine wp_block (ih h1 hI fun a' w' fy=> ?_);cases o1 with
  | norm=>
   simp only[et,lx] at h2;obtain ⟨rfl,rfl⟩:=h2;exact hQ a' w' (fy.canon hm kg)
  | exit av=>
   simp only at h2;cases hb:Nat.beq av id with
   | true=>
    rw[hb] at h2;simp only[cond_true,et,lx] at h2;obtain ⟨rfl,rfl⟩:=h2;rw[aO] at hb;simp only[z9,Exit.inBlock,hb,lr];exact hQ a' w' (fy.canon hm kg)
   | false=>
    rw[hb] at h2;simp only[cond_false,et,lx] at h2;obtain ⟨rfl,rfl⟩:=h2;have bK:av≠id:=fun e=>by rw[e,ml] at hb;cases hb
    simp only[z9,Exit.inBlock,bK,mX];exact hQ a' w' fy
  | ret=>
   simp only[et,lx] at h2;obtain ⟨rfl,rfl⟩:=h2;exact hQ a' w' fy
 | loop c ih=>
  intro st st' out Q a w h hI hQ;simp only[exec] at h;split at h
  ·cases h
  ·rename_i S hS;obtain ⟨ds,h1,h2⟩:=bind_some h;obtain ⟨e,h3,h4⟩:=bind_some h2;obtain ⟨k,hk⟩:=zg h3;refine ahZ (J:=fun k a w=> ∃ds,Inv P A.idle A.aF B M w0 μ hp0 n a w (bH S.1 ds)∧fM (fun ds=>n7 m S.1 S.2 (exec P A C f n m c (bH S.1 ds))) k ds=some e) (fun a w ⟨s,_,h⟩=>by cases h) (fun k a w ⟨ds,hs,hk⟩=> ?_) ⟨ds,hI.reshape h1 hm,hk⟩;simp only[fM] at hk;obtain ⟨y,h5,h6⟩:=bind_some hk;unfold n7 at h5;obtain ⟨⟨o1,s1⟩,h7,h8⟩:=bind_some h5;refine ih h7 hs fun a' w' fy=> ?_;have YB: ∀{e':Nat×List V},ways m 0 S.2 (o1,s1)=some e'→e'=e→Q (z9 o1) a' w':=by
    intro e' q1 q2;subst q2;obtain ⟨rfl,S',k1,rfl⟩:=PB q1 h4;exact hQ a' w' (fy.reshape k1 hm)
   cases o1 with
   | norm=>
    obtain ⟨ds2,q1,q2⟩:=bind_some h8;cases q2;exact ⟨ds2,fy.reshape q1 hm,h6⟩
   | exit id=>
    obtain ⟨e',q1,q2⟩:=bind_some h8;cases q2;cases h6;exact YB q1 rfl
   | ret=>
    obtain ⟨e',q1,q2⟩:=bind_some h8;cases q2;cases h6;exact YB q1 rfl
 | _=>intro st st' out Q a w h;simp only[exec] at h;cases h
end
section
variable {P:Program} {A:dc} {w w':World} {I I' I2:Nat→Nat→Prop} {μ β β' cy:Nat→Option Nat} {hp hp' hp0:Nat→Option ag} {C:af} {B:Nat} {M:Nat→Prop} {w0:Start}
theorem JF (S:aA P w I β hp B M w0) {a:Act} {st:St} (hs:mz P w I β hp a st.sl): ∀{l:List ResultVar} {xs:List V} {rd:List Nat},(wV P st l).run C hp=some (xs,rd)→
  ∃vs:List Value,(l.mapM fun| .tmp t=>Pure.pure (a.tmps.getD t undef)| .cell x t=>do loadVar t (←asAddr (a.tmps.getD x undef)):Sem (List Value)).run P w= .ok vs w∧vs.length=xs.length∧l.length=xs.length∧
   ∀(j:Nat) v x,vs[j]? =some v→xs[j]? =some x→ai P w I β hp v x
 | [],xs,rd,h=>by
  cases h;simp_all
 | .tmp t::l,xs,rd,h=>by
  simp only[wV] at h;obtain ⟨ys,l1,l2,h1,h2⟩:=m9 h;have h3:=NV h2;subst h3;obtain ⟨vs,a1,a2,a3,a4⟩:=JF S hs h1;refine ⟨a.tmps.getD t undef::vs,by simp_all,by simp[a2],by simp[a3],fun j v x hj hx=> ?_⟩;cases j with
  | zero=>simp at hj hx;subst hj;subst hx;have:=hs t;simp_all
  | succ j=>grind
 | .cell y t::l,xs,rd,h=>by
  simp only[wV] at h;obtain ⟨r,l1,l2,h1,h2⟩:=m9 h;obtain ⟨ys,l3,l4,h3,h4⟩:=m9 h2;have h5:=NV h4;subst h5;obtain ⟨v0,b1,b2,b3,ad,b4⟩:=VV S (hs y) h1;obtain ⟨vs,a1,a2,a3,a4⟩:=JF S hs h3;refine ⟨v0::vs,?_,by simp[a2],by simp[a3],fun j v x hj hx=> ?_⟩
  ·have e1:(do loadVar t (←asAddr (a.tmps.getD y undef)):Sem Value).run P w= .ok v0 w:=by
    rw[b4] at b1⊢;simpa[Instr.loadAt,Instr.sureAddr,asAddr] using b1
   simp only[List.mapM_cons,Sem.run_bind,e1,Result.andThen_ok,a1,Sem.run_pure]
  grind
def xL:List Value→Value
 | [v]=>v
 | l=> .tuple l.toArray
theorem ah2 {vs:List Value} (h:vs.length≠1):xL vs= .tuple vs.toArray:=by
 match vs,h with
 | [],_=>rfl
 | [v],h=>simp at h
 | v::v2::l,_=>rfl
theorem ah3 {fn:Func} {a:Act} {st:St} (S:aA P w I β st.hp B M w0) (hs:mz P w I β st.hp a st.sl) {xs:List V} {rd:List Nat} (h:(wV P st fn.results.toList).run C st.hp=some (xs,rd)):
  ∃vs:List Value,(results fn a.tmps).run P w= .ok (xL vs) w∧vs.length=xs.length∧
   ∀(j:Nat) v x,vs[j]? =some v→xs[j]? =some x→ai P w I β st.hp v x:=by
 obtain ⟨vs,a1,a2,_,a4⟩:=JF S hs h;refine ⟨vs,?_,a2,a4⟩;unfold results;rw[Array.mapM_eq_mapM_toList];simp only[map_eq_pure_bind,bind_assoc,pure_bind,Sem.run_bind];refine (congrArg (fun r:Result (List Value)=>r.andThen _) a1).trans ?_;simp only[Result.andThen_ok,Sem.run_pure]
 match vs with
 | []=>simp[xL]
 | [v]=>simp[xL]
 | v::v2::l=>simp[xL]
theorem YC: ∀{args:List V} {i k:Nat},eF (pP i args) k=if i≤k then args[k-i]? else none
 | [],i,k=>by simp[pP,eF]
 | v::vs,i,k=>by
  simp only[pP,eF];cases hb:Nat.beq k i with
  | true=>
   simp_all
  | false=>
   have bK:k≠i:=fun e=>by simp_all
   simp only[cond_false,YC];grind
theorem PC: ∀{l:List (Nat×VS)} {ds:List V} {i k:Nat},jO i l=true→eF (gx l ds) k=if i≤k then (gY (l.map (·.2)) ds)[k-i]? else none
 | [],ds,i,k,_=>by simp[gx,gY,eF]
 | (q,s)::l,ds,i,k,h=>by
  simp only[jO,aK,aO] at h;obtain ⟨rfl,h⟩:=h;simp only[gx,eF,iO,gY];cases hb:Nat.beq k q with
  | true=>
   simp_all
  | false=>
   have bK:k≠q:=fun e=>by simp_all
   simp only[cond_false];rw[PC h];grind
theorem YD: ∀{l:List (Nat×VS)} {ds:List V},(gx l ds).map (·.2)=gY (l.map (·.2)) ds
 | [],_=>rfl
 | (q,s)::l,ds=>by simp only[gx,iO,gY,YD]
theorem PD: ∀{l:List VS} {ds:List V},(gY l ds).length=l.length
 | [],_=>rfl
 | s::l,ds=>by simp only[gY,List.length_cons,PD]
theorem YE: ∀{l:List (Nat×VS)} {ds:List V},(gx l ds).length=l.length
 | [],_=>rfl
 | (q,s)::l,ds=>by simp only[gx,List.length_cons,YE]
theorem ah4 {vals:List Value} {l:List (Nat×V)} (hl:vals.length=l.length) (h: ∀(j:Nat) v y,vals[j]? =some v→(l.map (·.2))[j]? =some y→ai P w I β hp v y):ai P w I β hp (xL vals) (rQ l):=by
 match l,hl,h with
 | [],hl,h=>
  obtain rfl:vals=[]:=nO hl;exact .aW rfl fun j v x _ hx=>by simp at hx
 | [(k,y)],hl,h=>
  match vals,hl,h with
  | [v],_,h=>exact h 0 v y rfl rfl
 | a::b::l,hl,h=>
  have bK:vals.length≠1:=by grind
  rw[ah2 bK];simp only[rQ];exact .aW (by simp[hl]) fun j v y hj hy=>h j v y (by grind) hy
theorem ah5 {l:List BS} {ds:List V} {j:Nat} {e:TypeId} {es:List V} {vers:List Nat} (h:(fO l ds)[j]? =some (.nest e es vers)) (k:Nat):bw vers k=0:=by
 obtain ⟨b,iX,_,h2⟩:=Jo h;cases b<;>simp only[gg] at h2<;>cases h2
 match k with
 | 0=>rfl
 | 1=>rfl
 | 2=>rfl
 | _+3=>rfl
theorem ah6 {f n m:Nat} {fn:Func} {a:Act} {st:St} {es:List V} {rd:List Nat} (hm: ∀id blk,hp0 id=some blk→id<m) (kg:xK hp0)
  (hI:Inv P A.idle A.aF B M w0 μ hp0 n a w st) (sq:jO 0 (A.gu f).cf=true) (aU:(A.gu f).cf.length=fn.results.size) (h:(wW P A f fn m st).run C st.hp=some (es,rd)):
  ∃v I2 cy,(results fn a.tmps).run P w= .ok v w∧aA P w I2 cy (bH (A.so f es) (A.lv f es)).hp B M w0∧nn w0.w w0.I μ hp0 w I2 cy (bH (A.so f es) (A.lv f es)).hp∧ai P w I2 cy (bH (A.so f es) (A.lv f es)).hp v (rQ (gx (A.so f es).cf (A.lv f es))):=by
 unfold wW at h;obtain ⟨xs,l1,l2,h1,h2⟩:=m9 h;obtain ⟨I,β,S,hA,hE⟩:=hI;obtain ⟨vals,e1,e2,e3⟩:=ah3 S hA.sl h1;have e4:fn.results.size=xs.length:=by
  obtain ⟨_,_,_,q,_⟩:=JF S hA.sl h1;omega
 have fin: ∀(Sx:Shape) (es:List V),jO 0 Sx.cf=true→Sx.cf.length=fn.results.size→j7 m Sx (canon m (List.range xs.length++A.live f 9999) (freeze m (A.wP f) ⟨kO (pP 0 xs),st.hp,st.nb⟩))=some es→
   ∃v I2 cy,(results fn a.tmps).run P w= .ok v w∧aA P w I2 cy (bH Sx es).hp B M w0∧nn w0.w w0.I μ hp0 w I2 cy (bH Sx es).hp∧ai P w I2 cy (bH Sx es).hp v (rQ (gx Sx.cf es)):=by
  intro Sx es sq aU Aa;have hA0:gi P A.idle A.aF w I β vals.length ⟨vals.toArray,[]⟩ ⟨kO (pP 0 xs),st.hp,st.nb⟩:=by
   refine ⟨fun k=> ?_,by simp,by simp,hA.aF⟩;change ai P w I β st.hp _ (kO (pP 0 xs) k);unfold kO;rw[YC];simp only[kK,lr,Nat.sub_zero];cases hk:xs[k]? with
   | none=>exact .undef
   | some x=>
    have se:k<vals.length:=by grind
    have:=e3 k vals[k] x (bR se) hk;have e5:(vals.toArray).getD k undef=vals[k]:=by simp[se]
    grind
  obtain ⟨I2,cy,k1,k2,k3⟩:=Yk (st:=⟨kO (pP 0 xs),st.hp,st.nb⟩) (m:=m) (pur:=A.wP f) S hA0;have PE:Inv P A.idle A.aF B M w0 μ hp0 vals.length ⟨vals.toArray,[]⟩ w (freeze m (A.wP f) ⟨kO (pP 0 xs),st.hp,st.nb⟩):=⟨I2,cy,k2,k3,hE.trans k1.zU⟩
  obtain ⟨I3,YF,q1,q2,q3⟩:=(PE.canon (live:=List.range xs.length++A.live f 9999) hm kg).reshape Aa hm;refine ⟨xL vals,I3,YF,e1,q1,q3,ah4 (by rw[YE,aU,e4,e2]) fun j v y hj hy=> ?_⟩;have hv:=q2.sl j;have dj:=(cq.1 hj).1;have e5:(vals.toArray).getD j undef=v:=by
   simp_all
  change ai P w I3 YF _ ((vals.toArray).getD j undef) (kO (gx Sx.cf _) j) at hv;rw[e5] at hv;unfold kO at hv;rw[PC sq] at hv;simp only[kK,lr,Nat.sub_zero] at hv;rw[YD] at hy;grind
 unfold dc.so dc.lv;cases c8:A.alt f with
 | none=>
  rw[c8] at h2;simp only at h2⊢;split at h2
  ·rename_i iX Aa;have:=aM h2;grind
  ·cases h2
 | some S2=>
  rw[c8] at h2;simp only at h2⊢;split at h2
  ·rename_i iX Aa;have:=aM h2;subst this;exact fin _ _ sq aU Aa
  ·split at h2
   ·rename_i iX Aa;obtain ⟨hc,h3⟩:=aE h2;simp only[aK,aO] at hc;have:=aM h3;subst this;exact fin _ _ hc.1 hc.2 Aa
   ·cases h2
theorem ah7 (hC:np P A C) (hP:jW P A) (p8:P.follows .mixedOrders=true):np P A (qD P A C):=by
 intro f ds es h;unfold qD at h;cases hf:P.funcs[A.iA f]? with
 | none=>grind
 | some fn=>
  rw[hf] at h;simp only at h;cases hb:fn.body with
  | none=>grind
  | some c=>
   rw[hb] at h;simp only at h;cases hc:(jO 0 (A.sin f).cf&&(Nat.ble (A.sin f).cf.length fn.ntmps&&((A.sin f).ok&&(jO 0 (A.gu f).cf&&(Nat.beq (A.gu f).cf.length fn.results.size&&qB (oR (A.sin f).cL.length (A.mv f))))))) with
   | false=>grind
   | true=>
    rw[hc] at h;simp only[cond_true] at h;simp only[aK,aO,fe] at hc;obtain ⟨fX,hnt,_,p6,aU,la⟩:=hc;obtain ⟨⟨out,st'⟩,h1,h2⟩:=bind_some h;refine ⟨fn,c,rfl,hb,fun w I μ vals hH YG hl hv=> ?_⟩;have ah8:(∀id,out≠ .exit id)∧∃rd,(wW P A f fn (A.sin f).cL.length st').run C st'.hp=some (es,rd):=by
     cases out with
     | exit id=>cases h2
     | norm=>
      simp_all
     | ret=>
      simp_all
    obtain ⟨bK,rd,O8⟩:=ah8;refine calls_of_wp_defers hf hb ?_;have hm: ∀id blk,(bH (A.sin f) ds).hp id=some blk→id<(A.sin f).cL.length:=by
     intro id blk ab;simp only[bH,mk,jx] at ab;have:=(cq.1 ab).1;rwa [JE] at this
    have kg:xK (bH (A.sin f) ds).hp:=by
     intro id e es vers ab k;simp only[bH,mk,jx] at ab;rcases ab with ab|⟨i,ab⟩
     ·exact ah5 ab k
     ·obtain ⟨b,_,_,h⟩:=Jo ab;cases b<;>cases h
    refine ah1 (w0:=⟨w,I⟩) (μ:=μ) (hp0:=(bH (A.sin f) ds).hp) (B:=w.heap.size) (M:=qY P w μ (bH (A.sin f) ds).hp) hC hP p8 hm kg c h1 ?_ ?_
    ·refine Inv.enter la ?_ hm kg fun p hp=>by
      simp only[bH,mk,jx];rw[List.getElem?_eq_none_iff,JE];exact hp
     refine ⟨I,μ,⟨hH,fun _ _ _=>rfl,az _,fun b j h=> .inl h,⟨rfl,rfl⟩⟩,⟨fun k=> ?_,?_,by simp,YG⟩,(Le.refl (P:=P) w I μ _).zU⟩
     ·change ai P w I μ _ _ (kO (gx (A.sin f).cf ds) k);unfold kO;rw[PC fX];simp only[kK,lr,Nat.sub_zero];cases hk:(gY ((A.sin f).cf.map (·.2)) ds)[k]? with
      | none=>exact .undef
      | some x=>
       have se:k<vals.length:=by
        have:=(cq.1 hk).1;rw[PD,cU] at this;omega
       have:=hv k vals[k] x (bR se) hk;have e1:(vals.toArray++Array.replicate (fn.ntmps-vals.toArray.size) undef).getD k undef=vals[k]:=by
        simp[Array.getElem?_append,se]
       grind
     grind
    ·intro a' w' hI;obtain ⟨v,I2,cy,q1,q2,q3,q4⟩:=ah6 hm kg hI p6 aU O8;obtain ⟨_,_,_,hA,_⟩:=hI;cases out with
     | exit id=>grind
     | norm=>exact Pp hP q1 ⟨v,I2,cy,rfl,q2,q3,q4⟩ _ hA.defers
     | ret=>exact Pp hP q1 ⟨v,I2,cy,rfl,q2,q3,q4⟩ _ hA.defers
theorem YH (hP:jW P A) (p8:P.follows .mixedOrders=true): ∀n,np P A (mw P A n)
 | 0=>fun _ _ _ h=>by cases h
 | n+1=>ah7 (YH hP p8 n) hP p8
theorem ah9 (hP:jW P A) (p8:P.follows .mixedOrders=true):np P A (Call P A):=by
 intro f ds es h;have hn: ∃n,mw P A n f ds=some es:=by
  unfold Call at h;split at h
  all_goals grind
 obtain ⟨n,hn⟩:=hn;exact YH hP p8 n f ds es hn
end
section
variable {P:Program} {A:dc} {C:af} {D:Nat→af}
def DI (C:af) (D:Nat→af):Prop:= ∀f a r,C f a=some r→∃n,∀k,n≤k→D k f a=some r
theorem sx {α:Type} (h:DI C D) {hp:Nat→Option ag}: ∀{p:Rd α} {r:α×List Nat},p.run C hp=some r→∃n,∀k,n≤k→p.run (D k) hp=some r
 | .ret a,r,e=>⟨0,fun _ _=>e⟩
 | .fail,r,e=>by cases e
 | .get id q,r,e=>by
  obtain ⟨x,h1,h2⟩:=bind_some e;obtain ⟨n,hn⟩:=sx h h1;exact ⟨n,fun k hk=>by simp only[Rd.run,hn k hk,Option.bind_some];exact h2⟩
 | .opt o q,r,e=>by
  obtain ⟨x,h1,h2⟩:=bind_some e;obtain ⟨n,hn⟩:=sx h h2;exact ⟨n,fun k hk=>by simp only[Rd.run,h1,Option.bind_some];exact hn k hk⟩
 | .live id ok q,r,e=>by
  simp only[Rd.run] at e;cases hk:ok (iz (hp id)) with
  | false=>rw[hk] at e;cases e
  | true=>
   rw[hk] at e;obtain ⟨x,h1,h2⟩:=bind_some e;obtain ⟨n,hn⟩:=sx h h1;exact ⟨n,fun k xG=>by simp only[Rd.run,hk,cond_true,hn k xG,Option.bind_some];exact h2⟩
 | .aB b q,r,e=>by
  obtain ⟨h1,h2⟩:=aE e;obtain ⟨n,hn⟩:=sx h h2;exact ⟨n,fun k hk=>by simp only[Rd.run,h1,cond_true];exact hn k hk⟩
 | .call f a q,r,e=>by
  obtain ⟨x,h1,h2⟩:=bind_some e;obtain ⟨n1,fX⟩:=h f a x h1;obtain ⟨n2,p6⟩:=sx h h2;exact ⟨max n1 n2,fun k hk=>by simp only[Rd.run,fX k (by omega),Option.bind_some];exact p6 k (by omega)⟩
 | .alt true x y,r,e=>sx (p:=x) h e
 | .alt false x y,r,e=>sx (p:=y) h e
theorem aia (h:DI C D) {n i nb:Nat} {ops:Array Oper} {o:Oper} {st:St} {r:St×List Nat×List Nat} (e:jm P A C n ops i o nb st=some r): ∃N,∀k,N≤k→jm P A (D k) n ops i o nb st=some r:=by
 unfold jm at e;have go:(((gG P A st.sl i (nb+64*i) o).run C st.hp).bind fun r=>some ((⟨jN st.sl o.dst r.1.v,b9 st.hp r.1.upd,st.nb⟩:St),tD r.2 r.1.upd,gZ st.hp r.1.upd))=some r→
   ∃N,∀k,N≤k→(((gG P A st.sl i (nb+64*i) o).run (D k) st.hp).bind fun r=>some ((⟨jN st.sl o.dst r.1.v,b9 st.hp r.1.upd,st.nb⟩:St),tD r.2 r.1.upd,gZ st.hp r.1.upd))=some r:=by
  intro e;obtain ⟨x,h1,h2⟩:=bind_some e;obtain ⟨N,hN⟩:=sx h h1;exact ⟨N,fun k hk=>by rw[hN k hk];exact h2⟩
 unfold jm;cases hd:vu o n with
 | false=>rw[hd] at e;cases e
 | true=>
  rw[hd] at e;simp only[cond_true] at e⊢;cases hg:o.guard with
  | none=>rw[hg] at e;exact go e
  | some gw=>
   obtain ⟨g,want⟩:=gw;rw[hg] at e;simp only at e⊢;cases mG:(ops[g]?).bind (·.dst) with
   | none=>rw[mG] at e;cases e
   | some d=>
    rw[mG] at e;simp only at e⊢;cases o5:nW (st.sl d) with
    | none=>rw[o5] at e;cases e
    | some ob=>
    rw[o5] at e;cases ob with
    | none=>exact ⟨0,fun _ _=>e⟩
    | some b=>
    simp only at e⊢;cases hb:b==want with
    | true=>rw[hb] at e;exact go e
    | false=>rw[hb] at e;exact ⟨0,fun _ _=>e⟩
theorem YI (h:DI C D) {n nb:Nat} {ops:Array Oper}: ∀{l:List (Nat×Oper)} {st:St} {log:Log} {r:St×Log},rR P A C n ops nb l st log=some r→∃N,∀k,N≤k→rR P A (D k) n ops nb l st log=some r
 | [],st,log,r,e=>⟨0,fun _ _=>e⟩
 | (i,o)::l,st,log,r,e=>by
  obtain ⟨x,h1,h2⟩:=bind_some e;obtain ⟨N1,ra⟩:=aia h h1;obtain ⟨N2,uh⟩:=YI h h2;exact ⟨max N1 N2,fun k hk=>by simp only[rR,ra k (by omega),Option.bind_some];exact uh k (by omega)⟩
theorem YJ {X R:Type} {step:X→Option (X ⊕ R)} {stepD:Nat→X→Option (X ⊕ R)} (hs: ∀x y,step x=some y→∃N,∀k,N≤k→stepD k x=some y): ∀(n:Nat) (x:X) (r:R),fM step n x=some r→∃N,∀k,N≤k→fM (stepD k) n x=some r
 | 0,x,r,e=>by cases e
 | n+1,x,r,e=>by
  simp only[fM] at e⊢;obtain ⟨y,h1,h2⟩:=bind_some e;obtain ⟨N1,ra⟩:=hs x y h1;cases y with
  | inl z=>
   obtain ⟨N2,uh⟩:=YJ hs n z r h2;exact ⟨max N1 N2,fun k hk=>by rw[ra k (by omega)];exact uh k (by omega)⟩
  | inr q=>exact ⟨N1,fun k hk=>by rw[ra k hk];exact h2⟩
theorem aib (h:DI C D) {f n m:Nat}: ∀(c:Code) {st:St} {r:Out×St},exec P A C f n m c st=some r→∃N,∀k,N≤k→exec P A (D k) f n m c st=some r:=by
 intro c
 induction c with
 | skip=>exact fun e=>⟨0,fun _ _=>e⟩
 | exit id=>exact fun e=>⟨0,fun _ _=>e⟩
 | ret=>exact fun e=>⟨0,fun _ _=>e⟩
 | region id ops draw=>
  intro st r e;simp only[exec] at e⊢;obtain ⟨x,h1,h2⟩:=bind_some e;obtain ⟨y,h3,h4⟩:=bind_some h1;obtain ⟨N,hN⟩:=YI h h3;refine ⟨N,fun k hk=> ?_⟩;have:zt P (A.here f id) (D k) n ops draw st=some x:=by
   unfold zt;rw[hN k hk];exact h4
  rw[this];exact h2
 | seq x y g9 hY=>
  intro st r e;simp only[exec] at e⊢;obtain ⟨⟨o,s1⟩,h1,h2⟩:=bind_some e;obtain ⟨N1,ra⟩:=g9 h1;cases o with
  | norm=>
   obtain ⟨N2,uh⟩:=hY h2;exact ⟨max N1 N2,fun k hk=>by rw[ra k (by omega)];exact uh k (by omega)⟩
  | exit id=>exact ⟨N1,fun k hk=>by rw[ra k hk];exact h2⟩
  | ret=>exact ⟨N1,fun k hk=>by rw[ra k hk];exact h2⟩
 | cond c x y g9 hY=>
  intro st r e;cases c with
  | tmp t=>
   have go: ∀{st:St} {r:Out×St},(match st.sl t with
     | .bool b=>(bif b then exec P A C f n m x st else exec P A C f n m y st).bind fun r=>
      match r.1 with
      | .norm=>some (.norm,canon m (A.join f t) r.2)
      | _=>some r
     | _=>none)=some r→∃N,∀k,N≤k→(match st.sl t with
     | .bool b=>(bif b then exec P A (D k) f n m x st else exec P A (D k) f n m y st).bind fun r=>
      match r.1 with
      | .norm=>some (.norm,canon m (A.join f t) r.2)
      | _=>some r
     | _=>none)=some r:=by
    intro st r e;cases hs:st.sl t<;>rw[hs] at e<;>simp only at e⊢ <;>first|(cases e;done)|skip
    rename_i b;obtain ⟨x1,h1,h2⟩:=bind_some e;cases b with
    | true=>
     obtain ⟨N,hN⟩:=g9 h1;exact ⟨N,fun k hk=>by simp only[cond_true,hN k hk,Option.bind_some];exact h2⟩
    | false=>
     obtain ⟨N,hN⟩:=hY h1;exact ⟨N,fun k hk=>by simp only[cond_false,hN k hk,Option.bind_some];exact h2⟩
   simp only[exec] at e⊢;split at e
   ·rename_i hS;obtain ⟨N,hN⟩:=go e;exact ⟨N,fun k hk=>hN k hk⟩
   ·rename_i S hS;obtain ⟨ds,h1,h2⟩:=bind_some e;obtain ⟨e',h3,h4⟩:=bind_some h2;obtain ⟨r1,h5,h6⟩:=bind_some h3;obtain ⟨N,hN⟩:=go h5;refine ⟨N,fun k hk=> ?_⟩
    try rw[hS]
    simp only[h1,Option.bind_some];exact (congrArg (fun z:Option (Out×St)=>(z.bind fun r=>ways m 0 S.2 r).bind fun e=>mu 0 S.2 e.1 e.2 fun o st=>some (o,st)) (hN k hk)).trans (by simp only[Option.bind_some,h6];exact h4)
  | const v=>
   cases v with
   | bool b=>
    simp only[exec] at e⊢;cases b with
    | true=>exact g9 e
    | false=>exact hY e
   | _=>simp only[exec] at e;cases e
  | _=>simp only[exec] at e;cases e
 | block id c ih=>
  intro st r e;simp only[exec] at e⊢;obtain ⟨x1,h1,h2⟩:=bind_some e;obtain ⟨N,hN⟩:=ih h1;exact ⟨N,fun k hk=>by rw[hN k hk];exact h2⟩
 | loop c ih=>
  intro st r e;simp only[exec] at e⊢;split at e
  ·cases e
  ·rename_i S hS;obtain ⟨ds,h1,h2⟩:=bind_some e;obtain ⟨e',h3,h4⟩:=bind_some h2;obtain ⟨q,hq⟩:=zg h3;obtain ⟨N,hN⟩:=YJ (stepD:=fun k ds=>n7 m S.1 S.2 (exec P A (D k) f n m c (bH S.1 ds))) (fun x y DJ=>by
    unfold n7 at DJ⊢;obtain ⟨z,h5,h6⟩:=bind_some DJ;obtain ⟨N,hN⟩:=ih h5;exact ⟨N,fun k hk=>by rw[hN k hk];exact h6⟩) q ds e' hq
   refine ⟨N,fun k hk=> ?_⟩
   try rw[hS]
   simp only[h1,Option.bind_some];rw[zf (hN k hk)];exact h4
 | _=>intro st r e;simp only[exec] at e;cases e
theorem JG (h:DI C D) {f:Nat} {ds es:List V} (e:qD P A C f ds=some es): ∃N,∀k,N≤k→qD P A (D k) f ds=some es:=by
 unfold qD at e⊢;cases hf:P.funcs[A.iA f]? with
 | none=>rw[hf] at e;cases e
 | some fn=>
  rw[hf] at e;simp only at e⊢;cases hb:fn.body with
  | none=>rw[hb] at e;cases e
  | some c=>
   rw[hb] at e;simp only at e⊢;cases hc:(jO 0 (A.sin f).cf&&(Nat.ble (A.sin f).cf.length fn.ntmps&&((A.sin f).ok&&(jO 0 (A.gu f).cf&&(Nat.beq (A.gu f).cf.length fn.results.size&&qB (oR (A.sin f).cL.length (A.mv f))))))) with
   | false=>rw[hc] at e;cases e
   | true=>
    rw[hc] at e;simp only[cond_true] at e⊢;obtain ⟨⟨o,s1⟩,h1,h2⟩:=bind_some e;obtain ⟨N1,ra⟩:=aib h c h1;cases o with
    | exit id=>cases h2
    | norm=>
     simp only[Option.map_eq_some_iff] at h2;obtain ⟨x,e1,e2⟩:=h2;obtain ⟨N2,uh⟩:=sx h e1;exact ⟨max N1 N2,fun k hk=>by rw[ra k (by omega)];simp only[Option.bind_some,uh k (by omega),Option.map_some,e2]⟩
    | ret=>
     simp only[Option.map_eq_some_iff] at h2;obtain ⟨x,e1,e2⟩:=h2;obtain ⟨N2,uh⟩:=sx h e1;exact ⟨max N1 N2,fun k hk=>by rw[ra k (by omega)];simp only[Option.bind_some,uh k (by omega),Option.map_some,e2]⟩
theorem YK: ∀n f a r,mw P A n f a=some r→mw P A (n+1) f a=some r
 | 0,f,a,r,h=>by cases h
 | n+1,f,a,r,h=>by
  obtain ⟨N,hN⟩:=JG (C:=mw P A n) (D:=fun _=>mw P A (n+1)) (fun f a r h=>⟨0,fun _ _=>YK n f a r h⟩) h;exact hN N (az _)
theorem PF {n k:Nat} (hk:n≤k) {f:Nat} {a r:List V} (h:mw P A n f a=some r):mw P A k f a=some r:=by
 induction hk with
 | refl=>exact h
 | step _ ih=>exact YK _ _ _ _ ih
theorem DK {f:Nat} {a r:List V}:Call P A f a=some r↔∃n,mw P A n f a=some r:=by
 constructor
 ·intro h;unfold Call at h;split at h
  ·rename_i hex;have:=hex.choose_spec.choose_spec;rw[dA h] at this;exact ⟨_,this⟩
  ·cases h
 ·rintro ⟨n,hn⟩;have hex: ∃n r,mw P A n f a=some r:=⟨n,r,hn⟩
  unfold Call;rw[pC hex];have h2:=hex.choose_spec.choose_spec;have h3:=PF (Nat.le_max_left n hex.choose) hn;have h4:=PF (Nat.le_max_right n hex.choose) h2;rw[h3] at h4;exact h4.symm
theorem aic (f:Nat) (a:List V):Call P A f a=qD P A (Call P A) f a:=by
 apply Option.ext;intro r;constructor
 ·intro h;obtain ⟨n,hn⟩:=DK.1 h;cases n with
  | zero=>cases hn
  | succ n=>
   obtain ⟨N,hN⟩:=JG (C:=mw P A n) (D:=fun _=>Call P A) (fun f a r h=>⟨0,fun _ _=>DK.2 ⟨n,h⟩⟩) hn;exact hN N (az _)
 ·intro h;obtain ⟨N,hN⟩:=JG (C:=Call P A) (D:=mw P A) (fun f a r h=>by
   obtain ⟨n,hn⟩:=DK.1 h;exact ⟨n,fun k hk=>PF hk hn⟩) h
  exact DK.2 ⟨N+1,hN N (az _)⟩
end
end Go.AM
namespace Go.AM
open Go.IntKind (wrap)
open Go.ChangeShapes Go.WideShapes Go.RowKit
section
variable (P:Program)
inductive WT:TypeId→V→Prop
 | int {t:TypeId} {k:IntKind} {n:Int}:P.underlying t=some (.int k)→(Lit.int k n).wf=true→WT t (.int k n)
 | bool {t:TypeId} {b:Bool}:P.underlying t=some .bool→WT t (.bool b)
 | str {t:TypeId} {l:List UInt8}:P.underlying t=some .string→l.length≤maxLen→WT t (.str l)
 | list {t e:TypeId} {es:List V}:P.underlying t=some (.slice e)→es.length≤maxLen→
   (∀(i:Nat) x,es[i]? =some x→b8 P e=true→∃xs,x= .agg xs∧xs.length=(aN P e).length)→
   (∀(i j:Nat) x t',es[i]? =some x→(aN P e)[j]? =some t'→WT t' (bW P e x j))→WT t (.list e es)
def iE (t:TypeId) (x:V):Prop:=
 (b8 P t=true→∃xs,x= .agg xs∧xs.length=(aN P t).length)∧∀(j:Nat) t',(aN P t)[j]? =some t'→WT P t' (bW P t x j)
def tf:List TypeId→List V→Prop
 | [],[]=>True
 | t::ts,x::xs=>iE P t x∧tf ts xs
 | _,_=>False
def hasB (L:List TypeId) (t:TypeId):Bool:=L.any fun u=>Nat.beq u t
def JH (L:List TypeId):Nat→List Field→Bool
 | _,[]=>true
 | n,f::fs=>hasB L f.type&&(Nat.beq f.offset n&&(Nat.beq (P.cellsOf f.type) (aN P f.type).length&&JH L (n+P.cellsOf f.type) fs))
def DL:List Nat→List Nat→Bool
 | [],[]=>true
 | a::l,b::m=>Nat.beq a b&&DL l m
 | _,_=>false
def PH (L:List TypeId) (t:TypeId):Bool:=
 Nat.beq (P.cellsOf t) (aN P t).length&&
 match P.underlying t with
 | some (.int _)=>true
 | some .bool=>true
 | some .string=>true
 | some (.slice e)=>hasB L e&&cR P e
 | some (.struct fs)=>JH P L 0 fs.toList&&DL (flat P t) (fs.toList.flatMap fun f=>aN P f.type)
 | some (.array n e)=>hasB L e&&(Nat.beq (P.cellsOf e) (aN P e).length&&DL (flat P t) (List.replicate n (aN P e)).flatten)
 | _=>false
def DM (L:List TypeId):Bool:=L.all fun t=>PH P L t
end
theorem JI {L:List TypeId} {t:TypeId} (h:hasB L t=true):t∈L:=by
 obtain ⟨u,hu,h2⟩:=List.any_eq_true.1 h;rw[aO] at h2;exact h2▸hu
theorem PI: ∀{l m:List Nat},DL l m=true→l=m
 | [],[],_=>rfl
 | a::l,b::m,h=>by
  simp only[DL,aK,aO] at h;rw[h.1,PI h.2]
 | [],_::_,h=>by cases h
 | _::_,[],h=>by cases h
section
variable {P:Program} {H:Type} {enc:TypeId×Value→H} {w:World} {base:Nat} {spare:Nat→Bool} {held:Bool} {L:List TypeId}
def oo (w:World):Nat→Nat→Prop:=fun b _=>b<w.heap.size
def p9 (P:Program) (w:World) (ts:List TypeId) (cs:List Value) (xs:List V):Prop:=
 cs.length=ts.length∧xs.length=ts.length∧∀(j:Nat) t',ts[j]? =some t'→∃v y,cs[j]? =some v∧xs[j]? =some y∧Pure P w (oo w) t' v y∧WT P t' y
theorem p9.app {ts rP:List TypeId} {cs jT:List Value} {xs YL:List V} (h:p9 P w ts cs xs) (h':p9 P w rP jT YL):p9 P w (ts++rP) (cs++jT) (xs++YL):=by
 obtain ⟨a,b,c⟩:=h;obtain ⟨a',b',c'⟩:=h';refine ⟨by simp[a,a'],by simp[b,b'],fun j t' hj=> ?_⟩;by_cases ba:j<ts.length
 ·rw[mn ba] at hj;obtain ⟨v,y,e1,e2,e3⟩:=c j t' hj;exact ⟨v,y,by rw[mn (by omega)];exact e1,by rw[mn (by omega)];exact e2,e3⟩
 ·rw[nR (by omega)] at hj;obtain ⟨v,y,e1,e2,e3⟩:=c' _ t' hj;exact ⟨v,y,by rw[nR (by omega),a];exact e1,by rw[nR (by omega),b];exact e2,e3⟩
theorem aid {w:World} {a:Addr} {v:Value} (h:w.cell? a=some v):a.spot=none∧a.block<w.heap.size:=by
 unfold World.cell? at h;split at h
 ·rename_i hh;split at h
  ·cases h
  ·rename_i hs;exact ⟨by simpa using hs,(vd.1 hh).1⟩
 all_goals (first|cases h|skip)
theorem YM {rd:TypeId→List Value→Option (DataW H×List MemPlace)} (cs:List Value)
  (ih: ∀t cs x,t∈L→rd t cs=some x→∃xs,p9 P w (aN P t) cs xs): ∀(fs:List Field) (n:Nat),JH P L n fs=true→
  (∀f∈fs,∃x,rd f.type ((cs.drop f.offset).take (P.cellsOf f.type))=some x)→∃m xs,n≤m∧p9 P w (fs.flatMap fun f=>aN P f.type) ((cs.drop n).take (m-n)) xs∧m-n=(fs.flatMap fun f=>aN P f.type).length
 | [],n,_,_=>⟨n,[],az _,⟨by simp,rfl,by simp⟩,by simp⟩
 | f::fs,n,h,hx=>by
  simp only[JH,aK,aO] at h;obtain ⟨h1,h2,h3,h4⟩:=h;obtain ⟨x,hxf⟩:=hx f (by simp);obtain ⟨xs,jw⟩:=ih _ _ _ (JI h1) hxf;obtain ⟨m,ys,hm,ui,su⟩:=YM cs ih fs (n+P.cellsOf f.type) h4 fun g hg=>hx g (by simp[hg]);refine ⟨m,xs++ys,by omega,?_,by simp only[ve,gD];omega⟩;have:=jw.app ui;rw[ve];rw[h2] at this;have e:(cs.drop n).take (m-n)=(cs.drop n).take (P.cellsOf f.type)++(cs.drop (n+P.cellsOf f.type)).take (m-(n+P.cellsOf f.type)):=by
   rw[show m-n=P.cellsOf f.type+(m-(n+P.cellsOf f.type)) by omega,List.take_add,List.drop_drop]
  rw[e];exact this
theorem YN {rd:List Value→Option (DataW H×List MemPlace)} (cs:List Value) {e:TypeId} (hs:P.cellsOf e=(aN P e).length)
  (ih: ∀cs x,rd cs=some x→∃xs,p9 P w (aN P e) cs xs): ∀(n:Nat),
  (∀i,i<n→∃x,rd ((cs.drop (i*P.cellsOf e)).take (P.cellsOf e))=some x)→∃xs,p9 P w (List.replicate n (aN P e)).flatten (cs.take (n*P.cellsOf e)) xs
 | 0,_=>⟨[],by simp,rfl,by simp⟩
 | n+1,hx=>by
  obtain ⟨xs,jw⟩:=YN cs hs ih n fun i hi=>hx i (by omega);obtain ⟨x,mE⟩:=hx n (by omega);obtain ⟨ys,ui⟩:=ih _ _ mE;refine ⟨xs++ys,?_⟩;rw[List.replicate_succ',List.flatten_append];have:=jw.app ui;rw[jJ,Nat.one_mul,List.take_add];simpa using this
theorem JJ (hL:DM P L=true): ∀(fuel:Nat) (t:TypeId) (cs:List Value) (x:DataW H×List MemPlace),t∈L→DataW.trod enc P w base spare held fuel t cs=some x→
  ∃xs,p9 P w (aN P t) cs xs
 | 0,_,_,_,_,h=>by cases h
 | fuel+1,t,cs,x,ht,h=>by
  have hg:=fL.1 hL t ht;unfold PH at hg;rw[aK,aO] at hg;obtain ⟨hc,hg⟩:=hg;have one:b8 P t=false→aN P t=[t]:=fun h=>by simp[aN,h]
  cases hu:P.underlying t with
  | none=>rw[hu] at hg;cases hg
  | some d=>
   rw[hu] at hg;cases d with
   | int k=>
    obtain ⟨n,rfl,rfl,hwf⟩:=DataW.trod_int hu h;rw[one (by simp[b8,hu])];exact ⟨[.int k n],rfl,rfl,fun j t' hj=>by
     cases j with
     | zero=>cases hj;exact ⟨_,_,rfl,rfl,.int hu,.int hu hwf⟩
     | succ j=>simp at hj⟩
   | bool=>
    obtain ⟨b,rfl,rfl⟩:=DataW.trod_bool hu h;rw[one (by simp[b8,hu])];exact ⟨[.bool b],rfl,rfl,fun j t' hj=>by
     cases j with
     | zero=>cases hj;exact ⟨_,_,rfl,rfl,.bool hu,.bool hu⟩
     | succ j=>simp at hj⟩
   | string=>
    obtain ⟨s,rfl,rfl,hl⟩:=DataW.trod_string hu h;rw[one (by simp[b8,hu])];exact ⟨[.str s.data.toList],rfl,rfl,fun j t' hj=>by
     cases j with
     | zero=>cases hj;exact ⟨_,_,rfl,rfl,.str hu rfl,.str hu (by simpa using hl)⟩
     | succ j=>simp at hj⟩
   | slice e=>
    simp only[aK] at hg;obtain ⟨he,ar⟩:=hg;rw[one (by simp[b8,hu])];have single: ∀v y,cs=[v]→Pure P w (oo w) t v y→WT P t y→∃xs,p9 P w [t] cs xs:=by
     rintro v y rfl a b;exact ⟨[y],rfl,rfl,fun j t' hj=>by
      cases j with
      | zero=>cases hj;exact ⟨_,_,rfl,rfl,a,b⟩
      | succ j=>simp at hj⟩
    rcases DataW.trod_slice hu h with ⟨rfl,rfl⟩|⟨a,len,cap,elems,rest,n,hn,rfl,rfl,hb,hl,hm,hlen,eB,_,_⟩
    ·exact single _ _ rfl (.nil hu) (.list hu (by simp) (by simp) (by simp))
    ·cases hn;have gL:=(na ar).2;have WN:P.cellsOf e=(aN P e).length:=(ey ar).symm;have key: ∀i,i<len→∃jT xs,w.cells? base (a.add (i*P.cellsOf e)) (P.cellsOf e)=some jT∧p9 P w (aN P e) jT xs:=by
      intro i hi;have h1:=eB i hi;rw[bR (by omega)] at h1;obtain ⟨jT,h2,h3⟩:=Option.bind_eq_some_iff.1 h1;obtain ⟨xs,jw⟩:=JJ hL fuel e jT _ (JI he) h3;exact ⟨jT,xs,h2,jw⟩
     by_cases h0:len=0
     ·subst h0;exact single _ _ rfl (.emp hu) (.list hu (by simp) (by simp) (by simp))
     ·have nj:a.spot=none∧a.block<w.heap.size:=by
       obtain ⟨jT,xs,h2,_⟩:=key 0 (by omega);obtain ⟨_,h3,h4⟩:=World.cells?_some h2;have h5:=h4 0 gL;rw[bR (by omega)] at h5;have:=aid h5;simpa[Addr.add] using this
      have hF: ∃(F:Nat→List Value) (X:Nat→List V),∀i,i<len→w.cells? base (a.add (i*P.cellsOf e)) (P.cellsOf e)=some (F i)∧p9 P w (aN P e) (F i) (X i):=by
       refine ⟨fun i=>if hi:i<len then (key i hi).choose else [],fun i=>if hi:i<len then (key i hi).choose_spec.choose else [],fun i hi=> ?_⟩;simp only[pC hi];exact (key i hi).choose_spec.choose_spec
      obtain ⟨F,X,PJ⟩:=hF;have hx: ∀(i j:Nat) y t',((List.range len).map fun i=>di P e (X i))[i]? =some y→(aN P e)[j]? =some t'→i<len∧∃v,(F i)[j]? =some v∧Pure P w (oo w) t' v (bW P e y j)∧WT P t' (bW P e y j):=by
       intro i j y t' hy hj;have hi:i<len:=by
        have:=(cq.1 hy).1;simpa using this
       refine ⟨hi,?_⟩;simp[HT hi] at hy;obtain ⟨c1,c2,c3⟩:=(PJ i hi).2;obtain ⟨v,z,d1,d2,d3,d4⟩:=c3 j t' hj;have:bW P e y j=z:=by
        rw[←hy];unfold bW di;cases ha:b8 P e with
        | true=>
         simp only[cond_true,V.cell];rw[xf _ _ _ d2]
        | false=>
         simp only[cond_false];have:aN P e=[e]:=by simp[aN,ha]
         rw[this] at hj;cases j with
         | zero=>rw[xf _ _ _ d2]
         | succ j=>simp at hj
       rw[this];exact ⟨v,d1,d3,d4⟩
      have fC: ∀i j,i<len→j<P.cellsOf e→w.cell? ⟨a.block,a.off+(i*P.cellsOf e+j),none⟩=some ((F i).getD j undef):=by
       intro i j hi hj;obtain ⟨h1,h2⟩:=PJ i hi;obtain ⟨_,h3,h4⟩:=World.cells?_some h1;have h5:=h4 j hj;rw[Go.Deep.add_add] at h5;have e1:a.add (i*P.cellsOf e+j)=⟨a.block,a.off+(i*P.cellsOf e+j),none⟩:=by
        obtain ⟨b,o,s⟩:=a;simp only at nj;rw[nj.1];exact mB ..
       rw[e1] at h5;rw[h5,vf,bR (by omega)];rfl
      have ha:a=⟨a.block,a.off,none⟩:=by
       obtain ⟨b,o,s⟩:=a;simp only at nj;rw[nj.1]
      refine single (.slice (some a) len cap) (.list e ((List.range len).map fun i=>di P e (X i))) rfl ?_ ?_
      ·rw[ha];refine .list (fun i j=>(F i).getD j undef) hu (by simp) hl (fun _ _=>nj.2) fC ?_;intro i j y t' hy hj;obtain ⟨hi,v,d1,d2,_⟩:=hx i j y t' hy hj;rw[vf,d1];exact d2
      ·refine .list hu (by simp;omega) ?_ ?_
       ·intro i y hy JK;have hi:i<len:=by
         have:=(cq.1 hy).1;simpa using this
        simp[HT hi] at hy;rw[←hy];exact ⟨X i,by simp[di,JK],(PJ i hi).2.2.1⟩
       ·intro i j y t' hy hj;obtain ⟨_,v,_,_,d3⟩:=hx i j y t' hy hj;exact d3
   | struct fs=>
    simp only[aK] at hg;obtain ⟨xs,n,hn,rfl,hlen,o0,hx⟩:=DataW.trod_struct hu h;cases hn;have het:aN P t=fs.toList.flatMap fun f=>aN P f.type:=by
     rw[←PI hg.2];simp[aN,b8,hu]
    obtain ⟨m,ys,_,ui,hm⟩:=YM (w:=w) (rd:=fun t cs=>DataW.trod enc P w base spare held fuel t cs) cs (fun t cs x a b=>JJ hL fuel t cs x a b) fs.toList 0 hg.1 (by
     intro f hf;obtain ⟨i,hi⟩:=rJ hf;rw[pE] at hi;have ju:i<fs.size:=(vd.1 hi).1;exact ⟨_,(hx i f hi).trans (bR (by omega))⟩)
    rw[het];refine ⟨ys,?_⟩;have:(cs.drop 0).take (m-0)=cs:=by
     rw[lq,hm,←het,←hc,←hlen,u6]
    rw[this] at ui;exact ui
   | array n e=>
    simp only[aK,aO] at hg;obtain ⟨xs,m,hn,rfl,hlen,o0,hx⟩:=DataW.trod_array hu h;cases hn;have het:aN P t=(List.replicate n (aN P e)).flatten:=by
     rw[←PI hg.2.2];simp[aN,b8,hu]
    obtain ⟨ys,ui⟩:=YN (w:=w) (rd:=DataW.trod enc P w base spare held fuel e) cs hg.2.1 (fun cs x b=>JJ hL fuel e cs x (JI hg.1) b) n (by
     intro i hi;exact ⟨_,(hx i hi).trans (bR (by omega))⟩)
    rw[het];refine ⟨ys,?_⟩;have:cs.take (n*P.cellsOf e)=cs:=by
     have:n*P.cellsOf e=cs.length:=by
      rw[hlen,hc,het,hg.2.1];simp
     rw[this,u6]
    rw[this] at ui;exact ui
   | _=>cases hg
end
section
variable {P:Program} {H:Type} {enc:TypeId×Value→H} {w:World} {L:List TypeId}
theorem aie {base PK:Nat} {spare:Nat→Bool} {held:Bool} {r:Reach} {β:Nat→Option Nat} {hp:Nat→Option ag} (hL:DM P L=true) {t:TypeId} {v:Value} {d:DataW H} {ps:List MemPlace} (ht:t∈L) (gQ:Value.okWide P w r PK t v)
  (h:DataW.Trod enc P w base spare held t v d ps): ∃x,ai P w (oo w) β hp v x∧iE P t x:=by
 obtain ⟨fuel,hf⟩:=h;obtain ⟨xs,c1,c2,c3⟩:=JJ hL fuel t _ _ ht hf;have hg:=fL.1 hL t ht;unfold PH at hg;rw[aK,aO] at hg;obtain ⟨_,hg⟩:=hg;have JK:b8 P t=true→∃x,ai P w (oo w) β hp v x∧iE P t x:=by
  intro ha;have hv: ∃cs,v= .agg cs:=by
   unfold Value.okWide at gQ;unfold b8 at ha;grind
  obtain ⟨cs,rfl⟩:=hv;refine ⟨.agg xs,.agg (by simpa[Value.cells] using c1.trans c2.symm) fun j v x hv hx=> ?_,fun _=>⟨xs,rfl,c2⟩,fun j t' hj=> ?_⟩
  ·have hj:j<(aN P t).length:=by grind
   obtain ⟨v',y,e1,e2,e3,_⟩:=c3 j _ (bR hj);rw[hx] at e2;cases e2;have:cs[j]? =some v':=by simpa[Value.cells] using e1
   rw[hv] at this;cases this;exact .rT e3
  ·obtain ⟨v',y,e1,e2,_,e4⟩:=c3 j t' hj;have:bW P t (.agg xs) j=y:=by
    simp only[bW,ha,cond_true,V.cell];exact xf _ _ _ e2
   grind
 have qR:b8 P t=false→v.cells= #[v]→∃x,ai P w (oo w) β hp v x∧iE P t x:=by
  intro ha xl;have he:aN P t=[t]:=by simp[aN,ha]
  rw[he] at c1 c2 c3;obtain ⟨v',y,e1,e2,e3,e4⟩:=c3 0 t rfl;rw[xl] at e1;cases e1;refine ⟨y,.rT e3,⟨fun h=>absurd (ha.symm.trans h) (by simp),fun j t' hj=> ?_⟩⟩;rw[he] at hj;cases j with
  | succ j=>simp at hj
  | zero=>
   cases hj;simpa[bW,ha] using e4
 unfold Value.okWide at gQ;cases hu:P.underlying t with
 | none=>grind
 | some dsc=>
  rw[hu] at hg gQ;cases dsc with
  | int k=>
   refine qR (by simp[b8,hu]) ?_;simp only[Cell.okWide,Cell.ok,hu] at gQ;cases v<;>first|rfl|(simp at gQ;done)|exact gQ.elim
  | bool=>
   refine qR (by simp[b8,hu]) ?_;simp only[Cell.okWide,Cell.ok,hu] at gQ;cases v<;>first|rfl|(simp at gQ;done)|exact gQ.elim
  | string=>
   refine qR (by simp[b8,hu]) ?_;simp only[Cell.okWide,Cell.ok,hu] at gQ;cases v<;>first|rfl|(simp at gQ;done)|exact gQ.elim
  | slice e=>
   refine qR (by simp[b8,hu]) ?_;simp only[Cell.okWide,Cell.ok,hu] at gQ;cases v<;>first|rfl|(simp at gQ;done)|exact gQ.elim
  | struct fs=>exact JK (by simp[b8,hu])
  | array n e=>exact JK (by simp[b8,hu])
  | _=>cases hg
theorem YO {base PK:Nat} {spare:Nat→Bool} {held:Bool} {r:Reach} {β:Nat→Option Nat} {hp:Nat→Option ag} (hL:DM P L=true): ∀{ts:List TypeId} {vs:List Value} {ds:List (DataW H)} {ps:List MemPlace},
  (∀t∈ts,t∈L)→(∀(j:Nat) t v,ts[j]? =some t→vs[j]? =some v→Value.okWide P w r PK t v)→DataW.TrodAll enc P w base spare held ts vs ds ps→
  ∃xs,vs.length=xs.length∧(∀(j:Nat) v x,vs[j]? =some v→xs[j]? =some x→ai P w (oo w) β hp v x)∧tf P ts xs
 | [],vs,ds,ps,_,_,h=>by
  obtain ⟨rfl,rfl,rfl⟩:=trodAll_nil h;exact ⟨[],rfl,by simp,trivial⟩
 | t::ts,vs,ds,ps,hm,gQ,h=>by
  obtain ⟨v,vy,d,YP,a,b,rfl,rfl,rfl,h1,h2⟩:=trodAll_cons h;obtain ⟨x,mE,js⟩:=aie (β:=β) (hp:=hp) hL (hm t (by simp)) (gQ 0 t v rfl rfl) h1;obtain ⟨xs,hl,hr,hw⟩:=YO (β:=β) (hp:=hp) hL (fun t ht=>hm t (by simp[ht])) (fun j t v a b=>gQ (j+1) t v (by grind) (by grind)) h2;refine ⟨x::xs,by simp[hl],fun j v' x' hv hx=> ?_,js,hw⟩;grind
theorem YQ {base:Nat} {spare:Nat→Bool} {held:Bool}: ∀{ts:List TypeId} {vs:List Value} {ds:List (DataW H)} {ps:List MemPlace},DataW.TrodAll enc P w base spare held ts vs ds ps→ds.length=ts.length
 | [],vs,ds,ps,h=>by obtain ⟨rfl,rfl,rfl⟩:=trodAll_nil h;rfl
 | t::ts,vs,ds,ps,h=>by
  obtain ⟨v,vy,d,YP,a,b,rfl,rfl,rfl,h1,h2⟩:=trodAll_cons h;simp[YQ h2]
theorem YR {base:Nat} (hl:laidOutB P=true) {W W':World} {YS:Nat→Bool}: ∀{ts:List TypeId} {vs:List Value} {ds:List (DataW H)} {ps:List MemPlace},(∀t∈ts,P.readableRec t=true∧t<P.types.size)→
  DataW.TrodAll enc P W base (fun _=>true) true ts vs ds ps→(∀p∈ps,W.sameAt W' p)→(∀p∈ps,YS p.block=true)→DataW.TrodAll enc P W' base YS true ts vs ds ps
 | [],vs,ds,ps,_,h,_,_=>by obtain ⟨rfl,rfl,rfl⟩:=trodAll_nil h;exact trodAll_mk0
 | t::ts,vs,ds,ps,hr,h,h1,h2=>by
  obtain ⟨v,vy,d,YP,a,b,rfl,rfl,rfl,h3,h4⟩:=trodAll_cons h;obtain ⟨r1,r2⟩:=hr t (by simp);exact trodAll_cons_mk (WideElems.Trod_stays hl r1 r2 h3 (fun p hp=>h1 p (by simp[hp])) (fun p hp=>h2 p (by simp[hp])))
   (YR hl (fun t ht=>hr t (by simp[ht])) h4 (fun p hp=>h1 p (by simp[hp])) (fun p hp=>h2 p (by simp[hp])))
theorem aif {f:Func} {s:ChangeSpec} {apart fresh handsOn again:Bool} {W W':World} {args:Array Value} {v:Value} {ds gs:List (DataW H)} {before pa pv:List MemPlace}
  (hW:DataW.Whole enc P f.params.toList s.vars apart W args.toList ds gs before)
  (YT: ∀(b:Nat) (sp:Nat→Bool) (hd:Bool),DataW.TrodAll enc P W' b sp hd f.resultTypes.toList (v.resultList f.resultTypes.size) (s.fn H (ds++gs)).results [])
  (xF: ∀sp:Nat→Bool,(∀p∈before,sp p.block=true)→DataW.TrodAll enc P W' 0 sp true f.params.toList args.toList (s.fn H (ds++gs)).args pa)
  (YU: ∀sp:Nat→Bool,(∀p∈before,sp p.block=true)→DataW.TrodVars enc P W' sp s.vars (s.fn H (ds++gs)).vars pv)
  (hps:before=pa++pv) (hk:W.keptBut W' (· ∈before)) (z0: ∀a:Addr,a.block<W.heap.size→W'.frozen? a=W.frozen? a)
  (ar: ∀(j:Nat) (t:TypeId) (r:Value),f.resultTypes[j]? =some t→(v.resultList f.resultTypes.size)[j]? =some r→Value.okWide P W' .any 0 t r):
  s.post enc P f apart fresh handsOn again W args v W':=by
 have hold: ∀p∈before,(fun b=>decide (b<W.heap.size)) p.block=true:=fun p hp=>by simpa using hW.lt p hp
 refine ⟨ds,gs,before,[],pa,pv,hW,YT _ _ _,xF _ hold,YU _ hold,World.keptBut_mono (fun p hp=>⟨hp,?_⟩) hk,fun _=> ?_⟩
 ·grind
 ·have ba:=hW.lt;obtain ⟨_,_,_,_,_,hz,hn⟩:=hW;refine ⟨ar,_,_,([]++pa)++pv,⟨[]++pa,pv,trodAll_append (xF _ (fun _ _=>rfl)) (YT _ _ _),YU _ (fun _ _=>rfl),rfl,?_,?_⟩,?_⟩
  ·intro b off hp;have hb:MemPlace.cell b off∈before:=by grind
   rw[z0 ⟨b,off,none⟩ (ba _ hb)];exact hz b off hb
  all_goals grind
theorem aih {A:dc} (hP:jW P A) (p8:P.follows .mixedOrders=true) {f key:Nat} {fn:Func} {tb:TypeId} {s:ChangeSpec} {apart fresh handsOn again:Bool}
  (hf:P.funcs[f]? =some fn) (PL:A.iA key=f) (hL:DM P L=true) (dW:fn.params.toList.all (fun t=>hasB L t)=true) (JL:fn.resultTypes= #[tb]) (JM:P.underlying tb=some .bool) (xC:s.vars=[])
  (hs: ∀ds:List (DataW H),ds.length=fn.params.toList.length→s.fn H ds={results:=[.lit (.bool true)],args:=ds})
  (PM:laidOutB P=true) (PN:fn.params.toList.all (fun t=>P.readableRec t&&Nat.blt t P.types.size)=true)
  (ka:(A.sin key).cL=[]) (ar:((A.sin key).cf.map (·.2)).all (VS.ok 0)=true) (PO:(A.gu key).cf=[(0,.one .bool)]) (halt:A.alt key=none)
  {W:World} {base:Nat} {args:Array Value} {ds gs:List (DataW H)} {before:List MemPlace}
  (PQ:iC P A.aF W (oo W)) (gQ: ∀(j:Nat) t v,fn.params[j]? =some t→args[j]? =some v→Value.okWide P W .any base t v)
  (hW:DataW.Whole enc P fn.params.toList s.vars apart W args.toList ds gs before) (Q:List V→Prop)
  (hQ: ∀xs:List V,tf P fn.params.toList xs→(∀(j:Nat) v x,args.toList[j]? =some v→xs[j]? =some x→ai P W (oo W) (fun _=>none) (fun _=>none) v x)→Q xs)
  (PR: ∀xs,tf P fn.params.toList xs→Q xs→∃ds,th ((A.sin key).cf.map (·.2)) xs=some ds∧Call P A key ds=some [.bool true]):
  Calls P f args W fun e W'=> ∃v,e= .returned v∧s.post enc P fn apart fresh handsOn again W args v W':=by
 have YV:=hW;obtain ⟨p,q,hA,hV,rfl,z0,la⟩:=hW;rw[xC] at hV;obtain ⟨DN,hq⟩:gs=[]∧q=[]:=by
  cases gs with
  | nil=>exact ⟨rfl,hV⟩
  | cons g gs=>exact hV.elim
 subst DN;subst hq;obtain ⟨xs,hl,hr,YW⟩:=YO (β:=fun _=>none) (hp:=fun _=>none) hL (fun t ht=>JI (fL.1 dW t ht)) (fun j t v a b=>gQ j t v (by grind) (by grind)) hA;obtain ⟨ls,hls,DB⟩:=PR xs YW (hQ xs YW hr);obtain ⟨fn',c,h1,h2,h3⟩:=ah9 (A:=A) hP p8 key ls [.bool true] DB;rw[PL] at h1 h3;rw[hf] at h1;cases h1;have Yz: ∀j,(bH (A.sin key) ls).hp j=none:=fun j=>by simp[bH,mk,ka,fO,lC]
 obtain ⟨_,r1,r2⟩:=Dr (P:=P) (w:=W) (I:=oo W) (n:=0) (β:=fun _=>none) (β':=fun _=>none) (hp:=fun _=>none) (hp':=(bH (A.sin key) ls).hp) (fun j hj=>absurd hj (Nat.not_lt_zero j)) hls ar;have hlen:((A.sin key).cf.map (·.2)).length=xs.length:=by rw[←r1 [],PD]
 have h4:=h3 W (oo W) (fun _=>none) args.toList ⟨fun id blk h=>(by grind),fun id av blk blk' b h=>(by grind),fun id blk b h=>(by grind),fun b j h=>h⟩ PQ
  (by grind) (fun j v y hv hy=>r2 [] j v y (fun x hx=>hr j v x hv hx) (by grind))
 have ea:args.toList.toArray=args:=by simp
 rw[ea] at h4;refine h4.mono fun e W' ⟨v,I2,cy,he,ha⟩=>⟨v,he,?_⟩
 have vH: ∀b,b<W.heap.size→W'.heap[b]? =W.heap[b]? :=fun b hb=>ha.zV.cE b hb (by rintro ⟨j,blk,hj,_⟩;grind);have xp:=ha.res;have YX:A.so key [.bool true]=A.gu key∧A.lv key [.bool true]=[.bool true]:=by unfold dc.so dc.lv;grind
 rw[YX.1,YX.2,PO] at xp;obtain rfl:v= .bool true:=xp.kW;have pV:Value.okWide P W' .any 0 tb (.bool true):=by simp[Value.okWide,JM,Cell.okWide,Cell.ok]
 have nM:ds.length=fn.params.toList.length:=YQ hA;have iW: ∀p'∈p++[],W.sameAt W' p':=by
  intro p' hp';have ba:=YV.lt p' hp';cases p' with
  | cell b o=>exact World.cell?_of_block (w:=W) (vH b ba)
  | map b=>exact vH b ba
 refine aif (pa:=p) (pv:=[]) YV ?_ ?_ ?_ rfl ?_ ?_ ?_
 ·intro b sp hd;rw[va,hs ds nM,JL];exact trodAll_mk1 ⟨1,by simp[DataW.trod,Value.cells,JM]⟩
 ·intro sp nj;rw[va,hs ds nM];refine YR PM (fun t ht=> ?_) hA (fun p' hp'=>iW p' (by grind)) (fun p' hp'=>nj p' (by grind));have:=fL.1 PN t ht;simp_all
 ·intro sp nj;rw[xC,va,hs ds nM];exact rfl
 ·refine ⟨ha.zV.io.1,ha.zV.io.2,fun i hi=> ?_⟩;grind
 ·intro a ba;exact World.frozen?_of_block (w:=W) (vH a.block ba)
 ·intro j t r hj YY;rw[JL] at hj YY;cases j with
  | zero=>
   simp[Value.resultList] at hj YY;grind
  | succ j=>simp at hj
theorem aff {A:dc} (hP:jW P A) (p8:P.follows .mixedOrders=true) {f key:Nat} {fn:Func} {tb:TypeId} {s:ChangeSpec} {apart fresh handsOn again:Bool}
  (hf:P.funcs[f]? =some fn) (PL:A.iA key=f) (hL:DM P L=true) (dW:fn.params.toList.all (fun t=>hasB L t)=true) (JL:fn.resultTypes= #[tb]) (JM:P.underlying tb=some .bool) (xC:s.vars=[])
  (hs: ∀ds:List (DataW H),ds.length=fn.params.toList.length→s.fn H ds={results:=[.lit (.bool true)],args:=ds})
  (PM:laidOutB P=true) (PN:fn.params.toList.all (fun t=>P.readableRec t&&Nat.blt t P.types.size)=true)
  (ka:(A.sin key).cL=[]) (ar:((A.sin key).cf.map (·.2)).all (VS.ok 0)=true) (PO:(A.gu key).cf=[(0,.one .bool)]) (halt:A.alt key=none)
  (PR: ∀xs,tf P fn.params.toList xs→∃ds,th ((A.sin key).cf.map (·.2)) xs=some ds∧Call P A key ds=some [.bool true])
  {W:World} {base:Nat} {args:Array Value} {ds gs:List (DataW H)} {before:List MemPlace}
  (PQ:iC P A.aF W (oo W)) (gQ: ∀(j:Nat) t v,fn.params[j]? =some t→args[j]? =some v→Value.okWide P W .any base t v)
  (hW:DataW.Whole enc P fn.params.toList s.vars apart W args.toList ds gs before):
  Calls P f args W fun e W'=> ∃v,e= .returned v∧s.post enc P fn apart fresh handsOn again W args v W':=
 aih hP p8 hf PL hL dW JL JM xC hs PM PN ka ar PO halt PQ gQ hW (fun _=>True) (fun _ _ _=>trivial) fun xs h _=>PR xs h
end
end Go.AM
namespace Go.AM
open Go.IntKind (wrap)
@[simp] theorem V.toInt_int (k:IntKind) (n:Int):V.toInt (.int k n)=n:=by cases k<;>rfl
@[simp] theorem V.dP (b:Bool):V.toBool (.bool b)=b:=by cases b<;>rfl
@[simp] theorem V.atG (s:List UInt8):V.toStr (.str s)=s:=by cases s<;>rfl
@[simp] theorem V.eh (e:TypeId) (es:List V):V.toList (.list e es)=es:=by cases es<;>rfl
@[simp] theorem V.atH (e:TypeId) (es:List V):V.toList (.own e es)=es:=by cases es<;>rfl
@[simp] theorem V.aii (cs:List V) (j:Nat):V.cell (.agg cs) j=V.nth cs j:=by cases cs<;>rfl
@[simp] theorem V.atI (cs:List V) (j:Nat):V.comp (.aW cs) j=V.nth cs j:=by cases cs<;>rfl
@[simp] theorem V.dF (x:V) (l:List V):V.nth (x::l) 0=x:=by cases l<;>rfl
@[simp] theorem V.uj (x:V) (l:List V) (n:Nat):V.nth (x::l) (n+1)=V.nth l n:=by cases l<;>rfl
@[simp] theorem V.atJ (x y:V) (l:List V):V.nth (x::y::l) 1=y:=by cases l<;>rfl
@[simp] theorem V.atK (x y z:V) (l:List V):V.nth (x::y::z::l) 2=z:=by cases l<;>rfl
@[simp] theorem V.atL (x y z u:V) (l:List V):V.nth (x::y::z::u::l) 3=u:=by cases l<;>rfl
theorem wrap64 {x:Int} (h1: -9223372036854775808≤x) (h2:x<9223372036854775808):wrap .i64 x=x:=by
 rw[IntKind.wrap_i64];omega
theorem gB {x:Int} (h1: -9223372036854775808≤x:=by omega) (h2:x<9223372036854775808:=by omega):wrap .i64 x=x:=wrap64 h1 h2
theorem JN {x:Int} (h1:0≤x) (h2:x<256):wrap .u8 x=x:=by
 rw[IntKind.wrap_u8];omega
theorem PS {es:List V} {i:Int} {n:Nat} (h:i=n):idx es i=es[n]? :=by
 subst h;simp[idx]
theorem aij {α:Type} {f:α→V} {l:List α} {i:Int} {n:Nat} (h:i=n) (hn:n<l.length):idx (l.map f) i=some (f l[n]):=by
 rw[PS h];simp[hn]
@[simp] theorem JO (es:List V) (n:Nat):idx es (n:Int)=es[n]? :=by simp[idx]
section
variable {X R:Type} {step:X→Option (X ⊕ R)}
theorem DO (Inv:X→Prop) (μ:X→Nat) (Q:R→Prop)
  (h: ∀x,Inv x→(∃y,step x=some (.inl y)∧Inv y∧μ y<μ x)∨∃r,step x=some (.inr r)∧Q r):
  ∀x,Inv x→∃r,Loop step x=some r∧Q r:=by
 intro x
 induction hm:μ x using Nat.strongRecOn generalizing x with
 | ind m ih=>
  intro hx;rcases h x hx with ⟨y,h1,h2,h3⟩|⟨r,h1,h2⟩
  ·obtain ⟨r,h4,h5⟩:=ih (μ y) (by omega) y rfl h2;exact ⟨r,(eD h1).trans h4,h5⟩
  ·exact ⟨r,cQ h1,h2⟩
theorem aik (s:Nat→X) (n:Nat) {r:R} (h: ∀i,i<n→step (s i)=some (.inl (s (i+1)))) (he:step (s n)=some (.inr r)):Loop step (s 0)=some r:=by
 induction n generalizing s with
 | zero=>exact cQ he
 | succ n ih=>
  rw[eD (h 0 (by omega))];exact ih (fun i=>s (i+1)) (fun i hi=>h (i+1) (by omega)) he
end
@[simp] theorem bu {α:Type} (p:Prop) [Decidable p] (a b:α):(bif decide p then a else b)=if p then a else b:=by by_cases h:p<;>simp[h]
@[simp] theorem vT {α:Type} (m n:Int) (a b:α):(bif m==n then a else b)=if m=n then a else b:=by
 by_cases h:m=n
 ·simp[h]
 ·have:(m==n)=false:=by simp[h]
  rw[this,aj h];rfl
@[simp] theorem JP {α:Type} (m n:Int) (a b:α):(bif m != n then a else b)=if m=n then b else a:=by
 by_cases h:m=n
 ·simp[h]
 ·have:(m != n)=true:=by simp[h]
  rw[this,aj h];rfl
@[simp] theorem iY {α:Type} (c:Bool) (a b:α):(bif !c then a else b)=bif c then b else a:=by cases c<;>rfl
@[simp] theorem atM {α:Type} (m n:Nat) (a b:α):(bif Nat.ble m n then a else b)=if m≤n then a else b:=by
 cases hb:Nat.ble m n with
 | true=>rw[ak (Nat.le_of_ble_eq_true hb)];rfl
 | false=>
  rw[aj fun h=> ?_]
  ·rfl
  ·rw[zb h] at hb;cases hb
@[simp] theorem iZ {α:Type} (c d:Bool) (a b:α):(bif c&&d then a else b)=bif c then (bif d then a else b) else b:=by cases c<;>rfl
section
variable {P:Program}
def YZ (P : Program) : Bool := P.funcs.all fun fn => !(fn.name == "runtime.NumGoroutine")
theorem ail (h:YZ P=true):xA P:=by
 intro f fn hf;unfold YZ at h;have:=(Array.all_eq_true_iff_forall_mem.1 h) fn (Array.mem_of_getElem? hf);simpa using this
theorem Vo {t:TypeId} {ts:List TypeId} {xs:List V} (h:tf P (t::ts) xs): ∃x ys,xs=x::ys∧iE P t x∧tf P ts ys:=by
 cases xs with
 | nil=>exact h.elim
 | cons x ys=>exact ⟨x,ys,rfl,h.1,h.2⟩
theorem ae9 {xs:List V} (h:tf P [] xs):xs=[]:=by
 cases xs with
 | nil=>rfl
 | cons x ys=>exact h.elim
theorem iE.one {t:TypeId} {x:V} (ha:b8 P t=false) (h:iE P t x):WT P t x:=by
 have he:aN P t=[t]:=by simp[aN,ha]
 have:=h.2 0 t (by rw[he];rfl);simpa[bW,ha] using this
theorem WT.fq {t:TypeId} {k:IntKind} {x:V} (hu:P.underlying t=some (.int k)) (h:WT P t x): ∃n,x= .int k n∧k.min≤n∧n≤k.max:=by
 cases h with
 | int h1 h2=>
  rw[hu] at h1;cases h1;simp only[Lit.wf,aK,fK] at h2;exact ⟨_,rfl,h2⟩
 | bool h1=>rw[hu] at h1;cases h1
 | str h1=>rw[hu] at h1;cases h1
 | list h1=>rw[hu] at h1;cases h1
theorem WT.kW {t:TypeId} {x:V} (hu:P.underlying t=some .bool) (h:WT P t x): ∃b,x= .bool b:=by
 cases h with
 | int h1=>rw[hu] at h1;cases h1
 | bool h1=>exact ⟨_,rfl⟩
 | str h1=>rw[hu] at h1;cases h1
 | list h1=>rw[hu] at h1;cases h1
theorem WT.od {t:TypeId} {x:V} (hu:P.underlying t=some .string) (h:WT P t x): ∃s,x= .str s∧s.length≤maxLen:=by
 cases h with
 | int h1=>rw[hu] at h1;cases h1
 | bool h1=>rw[hu] at h1;cases h1
 | str h1 h2=>exact ⟨_,rfl,h2⟩
 | list h1=>rw[hu] at h1;cases h1
theorem WT.JQ {t e:TypeId} {x:V} (hu:P.underlying t=some (.slice e)) (h:WT P t x): ∃es,x= .list e es∧es.length≤maxLen∧∀y∈es,iE P e y:=by
 cases h with
 | int h1=>rw[hu] at h1;cases h1
 | bool h1=>rw[hu] at h1;cases h1
 | str h1=>rw[hu] at h1;cases h1
 | list h1 h2 h3 h4=>
  rw[hu] at h1;cases h1;refine ⟨_,rfl,h2,fun y hy=> ?_⟩;obtain ⟨i,hi⟩:=rJ hy;exact ⟨h3 i y hi,fun j t' hj=>h4 i j y t' hi hj⟩
theorem iE.lF {t:TypeId} {x:V} (ha:b8 P t=true) (h:iE P t x): ∃xs,x= .agg xs∧xs.length=(aN P t).length∧∀(j:Nat) t' y,(aN P t)[j]? =some t'→xs[j]? =some y→WT P t' y:=by
 obtain ⟨xs,rfl,hl⟩:=h.1 ha;refine ⟨xs,rfl,hl,fun j t' y hj hy=> ?_⟩;have:=h.2 j t' hj;simp only[bW,ha,cond_true,V.aii] at this;rw[xf _ _ _ hy] at this;exact this
theorem Y0 {α:Type} {f:α→V}: ∀{es:List V},(∀y∈es,∃a,y=f a)→∃l:List α,es=l.map f
 | [],_=>⟨[],rfl⟩
 | y::es,h=>by
  obtain ⟨a,rfl⟩:=h y (by simp);obtain ⟨l,rfl⟩:=Y0 (f:=f) (es:=es) fun z hz=>h z (by simp[hz]);exact ⟨a::l,rfl⟩
theorem JR {α:Type} {f:α→V} {p:α→Prop}: ∀{es:List V},(∀y∈es,∃a,y=f a∧p a)→∃l:List α,es=l.map f∧∀a∈l,p a
 | [],_=>⟨[],rfl,by simp⟩
 | y::es,h=>by
  obtain ⟨a,rfl,ha⟩:=h y (by simp);obtain ⟨l,rfl,hl⟩:=JR (f:=f) (p:=p) (es:=es) fun z hz=>h z (by simp[hz]);exact ⟨a::l,rfl,by
   intro b hb;rcases lu.1 hb with rfl|hb
   ·exact ha
   ·exact hl b hb⟩
theorem iE.int {t:TypeId} {x:V} (hu:P.underlying t=some (.int .i64)) (h:iE P t x): ∃n,x= .int .i64 n∧IntKind.min .i64≤n∧n≤IntKind.max .i64:=
 (h.one (by simp[b8,hu])).fq hu
theorem iE.str {t:TypeId} {x:V} (hu:P.underlying t=some .string) (h:iE P t x): ∃s,x= .str s∧s.length≤maxLen:=
 (h.one (by simp[b8,hu])).od hu
end
def un.{u} {A B:Type} {γ:Sort u} (f:A→B→γ) (p:A×B):γ:=f p.1 p.2
def cM {A B γ:Type} (f:A→γ) (g:B→γ):A ⊕ B→γ
 | .inl a=>f a
 | .inr b=>g b
def uk:List Nat→Code→Code
 | [],c=>c
 | 0::p,.seq a _=>uk p a
 | _::p,.seq _ b=>uk p b
 | 0::p,.cond _ a _=>uk p a
 | _::p,.cond _ _ b=>uk p b
 | _::p,.block _ c=>uk p c
 | _::p,.loop c=>uk p c
 | _,c=>c
inductive oq where
 | loop (c:Code)
 | cond (t:Nat) (x y:Code)
section
variable (P:Program) (A:dc) (C:af) (L:cx) (f n m:Nat)
def qa:Code→List oq
 | .seq a b=>qa a++qa b
 | .cond (.tmp t) x y=>
  match A.iQ f (t*16+15) with
  | none=>qa x++qa y
  | some _=>[.cond t x y]
 | .cond (.const _) x y=>qa x++qa y
 | .block _ c=>qa c
 | .loop c=>[.loop c]
 | _=>[]
def sy:oq→Prop
 | .loop c=>
  match A.iQ f (keyOf c+1) with
  | none=>True
  | some S=> ∀(β:Type) ds (k:Nat→List V→Option β),L β (keyOf c+1) ds k=(Loop (stepG P A C f n m S c) ds).bind fun r=>k r.1 r.2
 | .cond t x y=>
  match A.iQ f (t*16+15) with
  | none=>True
  | some S=> ∀(β:Type) ds (k:Nat→List V→Option β),L β (t*16+15) ds k=(Cx P A C f n m t S x y ds).bind fun r=>k r.1 r.2
def ot:List oq→Prop
 | []=>True
 | b::l=>sy P A C L f n m b∧ot l
variable {P A C L f n m}
theorem ot.left {a b:List oq}:ot P A C L f n m (a++b)→ot P A C L f n m a:=by
 induction a with
 | nil=>exact fun _=>trivial
 | cons x a ih=>exact fun h=>⟨h.1,ih h.2⟩
theorem ot.right {a b:List oq}:ot P A C L f n m (a++b)→ot P A C L f n m b:=by
 induction a with
 | nil=>exact fun h=>h
 | cons x a ih=>exact fun h=>ih h.2
theorem Y1: ∀{c:Code} {bs:List oq},qa A f c=bs→ot P A C L f n m bs→jn P A C L f n m c:=by
 intro c
 induction c with
 | seq a b NQ NR=>
  intro bs h hb;subst h;exact ⟨NQ rfl hb.left,NR rfl hb.right⟩
 | cond c x y g9 hY=>
  intro bs h hb;subst h;cases c with
  | tmp t=>
   simp only[qa] at hb;simp only[jn];cases hs:A.iQ f (t*16+15) with
   | none=>
    rw[hs] at hb;exact ⟨g9 rfl hb.left,hY rfl hb.right⟩
   | some S=>
    rw[hs] at hb;have:=hb.1;simp only[sy,hs] at this;exact this
  | const v=>exact ⟨g9 rfl hb.left,hY rfl hb.right⟩
  | _=>trivial
 | block id c ih=>
  intro bs h hb;subst h;exact ih rfl hb
 | loop c ih=>
  intro bs h hb;subst h;exact hb.1
 | _=>intro bs h hb;trivial
variable (P A C L f n m) in
def PT {β:Type} (t:Nat) (S:Shape×List (Out×Shape)) (x y:Code) (ds:List V) (k:Nat→List V→Option β):Option β:=
 let kc:Out→St→Option β:=fun o st=>
  match o with
  | .norm=>(ways m 0 S.2 (.norm,canon m (A.join f t) st)).bind fun e=>k e.1 e.2
  | o=>(ways m 0 S.2 (o,st)).bind fun e=>k e.1 e.2
 match (bH S.1 ds).sl t with
 | .bool b=>bif b then jP P A C L f n m x (bH S.1 ds) kc else jP P A C L f n m y (bH S.1 ds) kc
 | _=>none
theorem aim {t:Nat} {x y:Code} {S:Shape×List (Out×Shape)} (hS:A.iQ f (t*16+15)=some S) (hx:jn P A C L f n m x) (hy:jn P A C L f n m y) {I R:Type} (enc:I→List V) (o7:I→R→Nat×List V)
  (de:List V→I) (body:I→(β:Type)→(R→Option β)→Option β) (xM: ∀ds,bH S.1 (enc (de ds))=bH S.1 ds)
  (e1: ∀i (β:Type) (k:Nat→List V→Option β),PT P A C L f n m t S x y (enc i) k=body i β (fun r=>k (o7 i r).1 (o7 i r).2))
  (hl: ∀(β:Type) ds (k:Nat→List V→Option β),L β (t*16+15) ds k=body (de ds) β (fun r=>k (o7 (de ds) r).1 (o7 (de ds) r).2)):
  sy P A C L f n m (.cond t x y):=by
 simp only[sy,hS];intro β ds k;rw[hl,←e1];unfold PT Cx;rw[xM];simp only;have hk: ∀(z:Option (Out×St)),(z.bind fun r=>(match r.1 with
   | .norm=>(ways m 0 S.2 (.norm,canon m (A.join f t) r.2)).bind fun e=>k e.1 e.2
   | o=>(ways m 0 S.2 (o,r.2)).bind fun e=>k e.1 e.2))=((z.bind fun r=>
   match r.1 with
   | .norm=>some (Out.norm,canon m (A.join f t) r.2)
   | _=>some r).bind fun r=>ways m 0 S.2 r).bind fun r=>k r.1 r.2:=by
  intro z;cases z with
  | none=>rfl
  | some r=>obtain ⟨o,st⟩:=r;cases o<;>rfl
 cases (bH S.1 ds).sl t with
 | bool b=>
  cases b with
  | true=>simp only[cond_true,It P A C f n m x hx];exact hk _
  | false=>simp only[cond_false,It P A C f n m y hy];exact hk _
 | _=>rfl
theorem aY {b:oq} {l:List oq} (h:sy P A C L f n m b) (h2:ot P A C L f n m l):ot P A C L f n m (b::l):=⟨h,h2⟩
theorem au:ot P A C L f n m []:=trivial
theorem ain {key:Nat} {bs:List oq} (hb:qa A key (rS P (A.iA key))=bs) (ht:ot P A (Call P A) L key (Cy P (A.iA key)) (A.sin key).cL.length bs) {ds:List V} {r:Option (List V)}
  (h:Iu P A (Call P A) L key ds=r):Call P A key ds=r:=by
 rw[aic,afn P A (Call P A) key (Y1 hb ht),h]
end
section
variable (P:Program) (A:dc)
def jX (C:af) (N f n m:Nat):Code→St→Option (Out×St)
 | .skip,st=>some (.norm,st)
 | .region id ops draw,st=>(zt P (A.here f id) C n ops draw st).bind fun st'=>some (.norm,canon m (A.live f id) (freeze m (A.pur f id) st'))
 | .seq a b,st=>(jX C N f n m a st).bind fun r=>
  match r.1 with
  | .norm=>jX C N f n m b r.2
  | _=>some r
 | .cond (.tmp t) x y,st=>
  let go (st:St):Option (Out×St):=
   match st.sl t with
   | .bool b=>(bif b then jX C N f n m x st else jX C N f n m y st).bind fun r=>
    match r.1 with
    | .norm=>some (.norm,canon m (A.join f t) r.2)
    | _=>some r
   | _=>none
  match A.iQ f (t*16+15) with
  | none=>go st
  | some S=>(j7 m S.1 st).bind fun ds=>((go (bH S.1 ds)).bind fun r=>ways m 0 S.2 r).bind fun e=>mu 0 S.2 e.1 e.2 fun o st=>some (o,st)
 | .cond (.const (.bool b)) x y,st=>bif b then jX C N f n m x st else jX C N f n m y st
 | .block id c,st=>(jX C N f n m c st).bind fun r=>
  match r.1 with
  | .norm=>some (.norm,canon m (A.blk f id) r.2)
  | .exit av=>bif Nat.beq av id then some (.norm,canon m (A.blk f id) r.2) else some r
  | .ret=>some r
 | .loop c,st=>
  match A.iQ f (keyOf c+1) with
  | none=>none
  | some S=>(j7 m S.1 st).bind fun ds=>(fM (fun ds=>n7 m S.1 S.2 (jX C N f n m c (bH S.1 ds))) N ds).bind fun e=>mu 0 S.2 e.1 e.2 fun o st=>some (o,st)
 | .exit id,st=>some (.exit id,st)
 | .ret,st=>some (.ret,st)
 | _,_=>none
def PU (C:af) (N f:Nat) (ds:List V):Option (List V):=
 match P.funcs[A.iA f]? with
 | none=>none
 | some fn=>
  match fn.body with
  | none=>none
  | some c=>bif jO 0 (A.sin f).cf&&(Nat.ble (A.sin f).cf.length fn.ntmps&&((A.sin f).ok&&(jO 0 (A.gu f).cf&&(Nat.beq (A.gu f).cf.length fn.results.size&&qB (oR (A.sin f).cL.length (A.mv f)))))) then
    (jX P A C N f fn.ntmps (A.sin f).cL.length c (Cw A f ds)).bind fun r=>
     match r.1 with
     | .exit _=>none
     | _=>((wW P A f fn (A.sin f).cL.length r.2).run C r.2.hp).map (·.1)
   else none
def JS (N:Nat):Nat→af
 | 0=>fun _ _=>none
 | n+1=>PU P A (JS N n) N
variable {P A}
theorem Y2 {X R:Type} {s1 s2:X→Option (X ⊕ R)} (h: ∀x y,s1 x=some y→s2 x=some y): ∀(n:Nat) (x:X) (r:R),fM s1 n x=some r→fM s2 n x=some r
 | 0,x,r,e=>by cases e
 | n+1,x,r,e=>by
  simp only[fM] at e⊢;obtain ⟨y,h1,h2⟩:=bind_some e;rw[h x y h1];cases y with
  | inl z=>exact Y2 h n z r h2
  | inr q=>exact h2
theorem aio {C:af} {N f n m:Nat}: ∀(c:Code) {st:St} {r:Out×St},jX P A C N f n m c st=some r→exec P A C f n m c st=some r:=by
 intro c
 induction c with
 | skip=>exact fun e=>e
 | exit id=>exact fun e=>e
 | ret=>exact fun e=>e
 | region id ops draw=>exact fun e=>e
 | seq x y g9 hY=>
  intro st r e;simp only[jX,exec] at e⊢;obtain ⟨⟨o,s1⟩,h1,h2⟩:=bind_some e;rw[g9 h1];cases o with
  | norm=>exact hY h2
  | exit id=>exact h2
  | ret=>exact h2
 | cond c x y g9 hY=>
  intro st r e;cases c with
  | tmp t=>
   have go: ∀{st:St} {r:Out×St},(match st.sl t with
     | .bool b=>(bif b then jX P A C N f n m x st else jX P A C N f n m y st).bind fun r=>
      match r.1 with
      | .norm=>some (.norm,canon m (A.join f t) r.2)
      | _=>some r
     | _=>none)=some r→(match st.sl t with
     | .bool b=>(bif b then exec P A C f n m x st else exec P A C f n m y st).bind fun r=>
      match r.1 with
      | .norm=>some (.norm,canon m (A.join f t) r.2)
      | _=>some r
     | _=>none)=some r:=by
    intro st r e;cases hs:st.sl t<;>rw[hs] at e<;>simp only at e⊢ <;>first|(cases e;done)|skip
    rename_i b;obtain ⟨x1,h1,h2⟩:=bind_some e;cases b with
    | true=>simp only[cond_true,g9 h1,Option.bind_some];exact h2
    | false=>simp only[cond_false,hY h1,Option.bind_some];exact h2
   simp only[jX,exec] at e⊢;split at e
   ·rename_i hS
    try rw[hS]
    exact go e
   ·rename_i S hS;obtain ⟨ds,h1,h2⟩:=bind_some e;obtain ⟨e',h3,h4⟩:=bind_some h2;obtain ⟨r1,h5,h6⟩:=bind_some h3
    try rw[hS]
    simp only[h1,Option.bind_some];exact (congrArg (fun z:Option (Out×St)=>(z.bind fun r=>ways m 0 S.2 r).bind fun e=>mu 0 S.2 e.1 e.2 fun o st=>some (o,st)) (go h5)).trans (by simp only[Option.bind_some,h6];exact h4)
  | const v=>
   cases v with
   | bool b=>
    simp only[jX,exec] at e⊢;cases b with
    | true=>exact g9 e
    | false=>exact hY e
   | _=>simp only[jX] at e;cases e
  | _=>simp only[jX] at e;cases e
 | block id c ih=>
  intro st r e;simp only[jX,exec] at e⊢;obtain ⟨x1,h1,h2⟩:=bind_some e;rw[ih h1];exact h2
 | loop c ih=>
  intro st r e;simp only[jX,exec] at e⊢;split at e
  ·cases e
  ·rename_i S hS;obtain ⟨ds,h1,h2⟩:=bind_some e;obtain ⟨e',h3,h4⟩:=bind_some h2
   try rw[hS]
   simp only[h1,Option.bind_some];rw[zf (Y2 (s2:=fun ds=>n7 m S.1 S.2 (exec P A C f n m c (bH S.1 ds))) (fun x y DJ=>by
    unfold n7 at DJ⊢;obtain ⟨z,h5,h6⟩:=bind_some DJ;rw[ih h5];exact h6) N ds e' h3)]
   exact h4
 | _=>intro st r e;simp only[jX] at e;cases e
theorem aip {C:af} {N f:Nat} {ds es:List V} (e:PU P A C N f ds=some es):qD P A C f ds=some es:=by
 unfold PU at e;unfold qD;cases hf:P.funcs[A.iA f]? with
 | none=>rw[hf] at e;cases e
 | some fn=>
  rw[hf] at e;simp only at e⊢;cases hb:fn.body with
  | none=>rw[hb] at e;cases e
  | some c=>
   rw[hb] at e;simp only at e⊢;cases hc:(jO 0 (A.sin f).cf&&(Nat.ble (A.sin f).cf.length fn.ntmps&&((A.sin f).ok&&(jO 0 (A.gu f).cf&&(Nat.beq (A.gu f).cf.length fn.results.size&&qB (oR (A.sin f).cL.length (A.mv f))))))) with
   | false=>rw[hc] at e;cases e
   | true=>
    rw[hc] at e;simp only[cond_true] at e⊢;obtain ⟨x,h1,h2⟩:=bind_some e;rw[aio c h1];exact h2
theorem Y3 {N:Nat}: ∀n {f:Nat} {a r:List V},JS P A N n f a=some r→mw P A n f a=some r
 | 0,f,a,r,h=>by cases h
 | n+1,f,a,r,h=>by
  obtain ⟨M,hM⟩:=JG (C:=JS P A N n) (D:=fun _=>mw P A n) (fun f a r h=>⟨0,fun _ _=>Y3 n h⟩) (aip h);exact hM M (az _)
theorem jY {N n f:Nat} {a r:List V} (h:JS P A N n f a=some r):Call P A f a=some r:=DK.2 ⟨n,Y3 n h⟩
end
inductive LK where
 | int (k:IntKind)
 | bool
 | str
 | list (e:TypeId)
 | nat
def LK.Ty:LK→Type
 | .int _=>Int
 | .bool=>Bool
 | .str=>List UInt8
 | .list _=>List V
 | .nat=>Nat
def LK.enc:(k:LK)→k.Ty→V
 | .int k,n=> .int k n
 | .bool,b=> .bool b
 | .str,s=> .str s
 | .list e,l=> .list e l
 | .nat,n=>fh n
def LK.dec:(k:LK)→V→k.Ty
 | .int _,v=>v.toInt
 | .bool,v=>v.toBool
 | .str,v=>v.toStr
 | .list _,v=>v.toList
 | .nat,v=>mZ v
theorem LK.Y4: ∀(k:LK) (x:k.Ty),k.dec (k.enc x)=x
 | .int _,_=>rfl
 | .bool,_=>rfl
 | .str,_=>rfl
 | .list _,_=>rfl
 | .nat,_=>rfl
def PV:List Nat→List LK
 | []=>[]
 | _::l=> .nat::PV l
def LS.ks:LS→List LK
 | .int k=>[.int k]
 | .bool=>[.bool]
 | .str=>[.str]
 | .list e=>[.list e]
 | .sub .. =>[.nat,.nat]
 | .ptr _=>[.nat,.nat]
 | .row _ _ cs=>PV cs
 | .dk _ cs _=> .nat::PV cs
 | _=>[]
def Ab:List LS→List LK
 | []=>[]
 | l::ls=>l.ks++Ab ls
def VS.ks:VS→List LK
 | .one l=>l.ks
 | .agg ls=>Ab ls
 | .aW ls=>Ab ls
 | .fn _ a b=>Ab a++Ab b
 | .pref _ ls=>Ab ls
def Y5:List VS→List LK
 | []=>[]
 | l::ls=>l.ks++Y5 ls
def BS.ks:BS→List LK
 | .var _ cs=>Y5 cs
 | .arr e _=>[.list e]
 | .nest e=>[.list e]
 | .dead=>[]
 | .map t=>[.list t]
def Y6:List (Nat×VS)→List LK
 | []=>[]
 | p::l=>p.2.ks++Y6 l
def Y7:List BS→List LK
 | []=>[]
 | b::l=>b.ks++Y7 l
def Shape.ks (S:Shape):List LK:=Y6 S.cf++Y7 S.cL
def PW:List Nat→List V→List V
 | [],_=>[]
 | _::cs,ds=>fh (mZ (V.nth ds 0))::PW cs (ds.drop 1)
def LS.norm:LS→List V→List V
 | .int k,ds=>[.int k (V.nth ds 0).toInt]
 | .bool,ds=>[.bool (V.nth ds 0).toBool]
 | .str,ds=>[.str (V.nth ds 0).toStr]
 | .list e,ds=>[.list e (V.nth ds 0).toList]
 | .sub ..,ds=>[fh (mZ (V.nth ds 0)),fh (mZ (V.nth ds 1))]
 | .ptr _,ds=>[fh (mZ (V.nth ds 0)),fh (mZ (V.nth ds 1))]
 | .row _ _ cs,ds=>PW cs ds
 | .dk _ cs _,ds=>fh (mZ (V.nth ds 0))::PW cs (ds.drop 1)
 | _,_=>[]
def Ac:List LS→List V→List V
 | [],_=>[]
 | l::ls,ds=>l.norm ds++Ac ls (ds.drop l.size)
def VS.norm:VS→List V→List V
 | .one l,ds=>l.norm ds
 | .agg ls,ds=>Ac ls ds
 | .aW ls,ds=>Ac ls ds
 | .fn _ a b,ds=>Ac a ds++Ac b (ds.drop (lA a))
 | .pref _ ls,ds=>Ac ls ds
def Y8:List VS→List V→List V
 | [],_=>[]
 | l::ls,ds=>l.norm ds++Y8 ls (ds.drop l.size)
def BS.norm:BS→List V→List V
 | .var _ cs,ds=>Y8 cs ds
 | .arr e _,ds=>[.list e (V.nth ds 0).toList]
 | .nest e,ds=>[.list e (V.nth ds 0).toList]
 | .dead,_=>[]
 | .map t,ds=>[.list t (V.nth ds 0).toList]
def Y9:List (Nat×VS)→List V→List V
 | [],_=>[]
 | p::l,ds=>p.2.norm ds++Y9 l (ds.drop p.2.size)
def Za:List BS→List V→List V
 | [],_=>[]
 | b::l,ds=>b.norm ds++Za l (ds.drop b.size)
def Shape.norm (S:Shape) (ds:List V):List V:=Y9 S.cf ds++Za S.cL (ds.drop (qA S.cf))
def xN:LK→List LK→Type
 | k,[]=>k.Ty
 | k,k'::ks=>k.Ty×xN k' ks
def mI:List LK→Type
 | []=>Unit
 | k::ks=>xN k ks
def xO:(k:LK)→(ks:List LK)→xN k ks→List V
 | k,[],x=>[k.enc x]
 | k,k'::ks,x=>k.enc x.1::xO k' ks x.2
def nr:(ks:List LK)→mI ks→List V
 | [],_=>[]
 | k::ks,x=>xO k ks x
def DP:(k:LK)→(ks:List LK)→List V→xN k ks
 | k,[],l=>k.dec (V.nth l 0)
 | k,k'::ks,l=>(k.dec (V.nth l 0),DP k' ks l.tail)
def rb:(ks:List LK)→List V→mI ks
 | [],_=>()
 | k::ks,l=>DP k ks l
theorem Zb: ∀(k:LK) (ks:List LK) (x:xN k ks) (r:List V),DP k ks (xO k ks x++r)=x
 | k,[],x,r=>LK.Y4 k x
 | k,k'::ks,x,r=>by
  show (k.dec (k.enc x.1),DP k' ks (xO k' ks x.2++r))=x;rw[LK.Y4,Zb k' ks];rfl
def Ad:List LK→Type 1→Type 1
 | [],R=>R
 | k::ks,R=>k.Ty→Ad ks R
def Zc:(k:LK)→(ks:List LK)→{R:Type 1}→Ad (k::ks) R→xN k ks→R
 | _,[],_,f,x=>f x
 | _,k'::ks,_,f,x=>Zc k' ks (f x.1) x.2
def xP:(ks:List LK)→{R:Type 1}→Ad ks R→mI ks→R
 | [],_,f,_=>f
 | k::ks,_,f,x=>Zc k ks f x
def Ae {α:Type} (b:Bool):List Bool→List α→List α
 | [],_=>[]
 | _,[]=>[]
 | c::m,x::l=>bif c==b then x::Ae b m l else Ae b m l
def merge:List Bool→List V→List V→List V
 | [],_,_=>[]
 | true::m,i,x=>V.nth x 0::merge m i x.tail
 | false::m,i,x=>V.nth i 0::merge m i.tail x
def Af:List Nat→List LK→List LK
 | [],_=>[]
 | _,[]=>[]
 | 0::t,k::ks=>k::Af t ks
 | (_+1)::t,_::ks=>Af t ks
abbrev gN:=List Nat×List LK
def gN.fresh (w:gN):List LK:=Af w.1 w.2
def put:List Nat→List V→List V→List V
 | [],_,_=>[]
 | 0::t,ds,x=>V.nth x 0::put t ds x.tail
 | (j+1)::t,ds,x=>V.nth ds j::put t ds x
def xQ:List Nat→List V→List V
 | [],_=>[]
 | 0::t,l=>V.nth l 0::xQ t l.tail
 | (_+1)::t,l=>xQ t l.tail
def vU:gN→List gN→Type
 | w,[]=>mI w.fresh
 | w,w'::ws=>mI w.fresh ⊕ vU w' ws
def um:List gN→Type
 | []=>Empty
 | w::ws=>vU w ws
def wN (ds:List V) {β:Type} (k:Nat→List V→Option β):Nat→(w:gN)→(ws:List gN)→vU w ws→Option β
 | j,w,[],r=>k j (put w.1 ds (nr w.fresh r))
 | j,w,w'::ws,r=>cM (fun x=>k j (put w.1 ds (nr w.fresh x))) (fun y=>wN ds k (j+1) w' ws y) r
def wT (ds:List V) {β:Type} (k:Nat→List V→Option β):(ws:List gN)→um ws→Option β
 | [],r=>Empty.elim r
 | w::ws,r=>wN ds k 0 w ws r
def rf (ds:List V):Nat→(w:gN)→(ws:List gN)→vU w ws→Nat×List V
 | j,w,[],r=>(j,put w.1 ds (nr w.fresh r))
 | j,w,_::_,.inl x=>(j,put w.1 ds (nr w.fresh x))
 | j,_,w'::ws,.inr y=>rf ds (j+1) w' ws y
def Ag (ds:List V):(ws:List gN)→um ws→Nat×List V
 | [],r=>Empty.elim r
 | w::ws,r=>rf ds 0 w ws r
theorem Zd (ds:List V) {β:Type} (k:Nat→List V→Option β): ∀(j:Nat) (w:gN) (ws:List gN) (r:vU w ws),wN ds k j w ws r=k (rf ds j w ws r).1 (rf ds j w ws r).2
 | _,_,[],_=>rfl
 | _,_,_::_,.inl _=>rfl
 | j,_,w'::ws,.inr y=>Zd ds k (j+1) w' ws y
theorem JT (ds:List V) {β:Type} (k:Nat→List V→Option β): ∀(ws:List gN) (r:um ws),wT ds k ws r=k (Ag ds ws r).1 (Ag ds ws r).2
 | [],r=>Empty.elim r
 | w::ws,r=>Zd ds k 0 w ws r
def Ah:Nat→(w:gN)→(ws:List gN)→List V→vU w ws
 | _,w,[],l=>rb w.fresh (xQ w.1 l)
 | 0,w,_::_,l=> .inl (rb w.fresh (xQ w.1 l))
 | j+1,_,w'::ws,l=> .inr (Ah j w' ws l)
def Ze (j:Nat):(ws:List gN)→List V→Option (um ws)
 | [],_=>none
 | w::ws,l=>some (Ah j w ws l)
def Ai:List Nat→List V→List V
 | [],_=>[]
 | 0::t,x=>V.nth x 0::Ai t x.tail
 | (_+1)::t,x=>Ai t x
theorem PX: ∀(t:List Nat) (ds x:List V),xQ t (put t ds x)=Ai t x
 | [],_,_=>rfl
 | 0::t,ds,x=>congrArg (V.nth x 0:: ·) (PX t ds x.tail)
 | (_+1)::t,ds,x=>PX t ds x
theorem PY: ∀(t:List Nat) (ks:List LK) (k:LK) (sA:List LK),Af t ks=k::sA→∀x:xN k sA,∃r,Ai t (xO k sA x)=xO k sA x++r
 | [],_,_,_,h,_=>by cases h
 | _::_,[],_,_,h,_=>by simp[Af] at h
 | 0::t,a::ks,k,sA,h,x=>by
  simp only[Af,wK] at h;obtain ⟨rfl,h2⟩:=h;cases sA with
  | nil=>exact ⟨Ai t [],rfl⟩
  | cons k' sA=>
   obtain ⟨r,hr⟩:=PY t ks k' sA h2 x.2;exact ⟨r,congrArg (a.enc x.1:: ·) hr⟩
 | (_+1)::t,a::ks,k,sA,h,x=>PY t ks k sA h x
theorem Zf (w:gN) (ds:List V) (x:mI w.fresh):rb w.fresh (xQ w.1 (put w.1 ds (nr w.fresh x)))=x:=by
 rw[PX];revert x;generalize hf:w.fresh=f;cases f with
 | nil=>intro x;rfl
 | cons k ks=>
  intro x;obtain ⟨r,hr⟩:=PY w.1 w.2 k ks hf x;show DP k ks (Ai w.1 (xO k ks x))=x;rw[hr];exact Zb k ks x r
theorem Zg (ds:List V): ∀(j:Nat) (w:gN) (ws:List gN) (r:vU w ws),j≤(rf ds j w ws r).1
 | _,_,[],_=>az _
 | _,_,_::_,.inl _=>az _
 | j,_,w'::ws,.inr y=>ln (Nat.le_succ j) (Zg ds (j+1) w' ws y)
theorem aiq (w:gN) (l:List V): ∀j,Ah j w [] l=rb w.fresh (xQ w.1 l)
 | 0=>rfl
 | _+1=>rfl
theorem Zh (ds:List V): ∀(j:Nat) (w:gN) (ws:List gN) (r:vU w ws),Ah ((rf ds j w ws r).1-j) w ws (rf ds j w ws r).2=r
 | j,w,[],r=>(aiq w _ _).trans (Zf w ds r)
 | j,w,w'::ws,.inl x=>by
  show Ah (j-j) w (w'::ws) (put w.1 ds (nr w.fresh x))= .inl x;rw[Nat.sub_self];exact congrArg Sum.inl (Zf w ds x)
 | j,w,w'::ws,.inr y=>by
  have h1:=Zg ds (j+1) w' ws y;have h2:=Zh ds (j+1) w' ws y;show Ah ((rf ds (j+1) w' ws y).1-j) w (w'::ws) (rf ds (j+1) w' ws y).2= .inr y;obtain ⟨d,hd⟩: ∃d,(rf ds (j+1) w' ws y).1=j+1+d:=⟨(rf ds (j+1) w' ws y).1-(j+1),by omega⟩
  rw[hd] at h2⊢;rw[show j+1+d-(j+1)=d by omega] at h2;rw[show j+1+d-j=d+1 by omega];exact congrArg Sum.inr h2
theorem air (ds:List V): ∀(ws:List gN) (r:um ws),Ze (Ag ds ws r).1 ws (Ag ds ws r).2=some r
 | [],r=>Empty.elim r
 | w::ws,r=>congrArg some (Zh ds 0 w ws r)
section
variable {P:Program} {A:dc} {C:af} {L:cx} {f n m:Nat}
theorem ais {c:Code} {S:Shape×List (Out×Shape)} (hS:A.iQ f (keyOf c+1)=some S) (hL:jn P A C L f n m c) {I X R:Type} (enc:I→X→List V) (o7:I→R→Nat×List V)
  (sB:List V→I) (uo:List V→X) (JU:Nat×List V→Option R) (body:I→X→(β:Type)→(X→Option β)→(R→Option β)→Option β)
  (xM: ∀ds,bH S.1 (enc (sB ds) (uo ds))=bH S.1 ds) (PZ: ∀i x,uo (enc i x)=x) (hdr: ∀i r,JU (o7 i r)=some r)
  (e1: ∀i x (β:Type) (k:(List V ⊕ (Nat×List V))→Option β),jP P A C L f n m c (bH S.1 (enc i x)) (fun o st=>(n7 m S.1 S.2 (some (o,st))).bind k)=
   body i x β (fun y=>k (.inl (enc i y))) (fun r=>k (.inr (o7 i r))))
  (hl: ∀(β:Type) ds (k:Nat→List V→Option β),L β (keyOf c+1) ds k=(Loop (fun x=>body (sB ds) x (X ⊕ R) (fun y=>some (.inl y)) (fun r=>some (.inr r))) (uo ds)).bind fun r=>k (o7 (sB ds) r).1 (o7 (sB ds) r).2):
  sy P A C L f n m (.loop c):=by
 simp only[sy,hS];intro β ds k;rw[hl];have hex: ∀(z:Option (Out×St)),n7 m S.1 S.2 z=z.bind fun r=>n7 m S.1 S.2 (some (r.1,r.2)):=by
  intro z;cases z<;>rfl
 have hs: ∀i x,stepG P A C f n m S c (enc i x)=(body i x (X ⊕ R) (fun y=>some (.inl y)) (fun r=>some (.inr r))).map fun| .inl y=> .inl (enc i y)| .inr r=> .inr (o7 i r):=by
  intro i x;have k1:=e1 i x _ (fun z=>some z);have k2:=e1 i x (X ⊕ R) (fun| .inl ds=>some (.inl (uo ds))| .inr e=>(JU e).map .inr);have k3:=e1 i x (List V ⊕ (Nat×List V)) (fun| .inl ds=>some (.inl (enc i (uo ds)))| .inr e=>(JU e).map fun r=> .inr (o7 i r));simp only[PZ,hdr,Option.map_some] at k2 k3;unfold stepG;rw[hex];rw[It P A C f n m c hL] at k1 k2 k3;rw[←k2];refine Eq.trans ?_ (k1.trans (k3.symm.trans ?_))
  ·simp
  ·cases exec P A C f n m c (bH S.1 (enc i x)) with
   | none=>rfl
   | some r=>
    simp only[Option.bind_some];cases n7 m S.1 S.2 (some (r.1,r.2)) with
    | none=>rfl
    | some z=>
     cases z with
     | inl _=>rfl
     | inr e=>simp only[Option.bind_some];cases JU e<;>rfl
 have h0:stepG P A C f n m S c ds=stepG P A C f n m S c (enc (sB ds) (uo ds)):=by
  unfold stepG;rw[xM]
 have:Loop (stepG P A C f n m S c) ds=(Loop (fun x=>body (sB ds) x (X ⊕ R) (fun y=>some (.inl y)) (fun r=>some (.inr r))) (uo ds)).map (o7 (sB ds)):=by
  rw[H2,h0,←H2];exact afl (enc (sB ds)) (o7 (sB ds)) (fun x=>hs _ _) (uo ds)
 rw[this];cases Loop (fun x=>body (sB ds) x (X ⊕ R) (fun y=>some (.inl y)) (fun r=>some (.inr r))) (uo ds)<;>rfl
abbrev DQ (S:Shape) (mk:List Bool):List LK:=Ae false mk S.ks
abbrev xR (S:Shape) (mk:List Bool):List LK:=Ae true mk S.ks
def uq (ts:List (List Nat)) (W:List (Out×Shape)):List gN:=
 match ts,W with
 | t::ts,w::W=>(t,w.2.ks)::uq ts W
 | _,_=>[]
abbrev DR (S:Shape) (mk:List Bool) (i:mI (DQ S mk)) (x:mI (xR S mk)):List V:=merge mk (nr _ i) (nr _ x)
abbrev P0 (S:Shape) (mk:List Bool) (i:mI (DQ S mk)):List V:=merge mk (nr _ i) []
abbrev JV (S:Shape) (mk:List Bool) (ds:List V):mI (DQ S mk):=rb _ (Ae false mk (S.norm ds))
abbrev JW (S:Shape) (mk:List Bool) (ds:List V):mI (xR S mk):=rb _ (Ae true mk (S.norm ds))
abbrev Zi (X R:Type):Type 1:=(β:Type)→(X→Option β)→(R→Option β)→Option β
abbrev JX (S:Shape×List (Out×Shape)) (mk:List Bool) (ts:List (List Nat)):Type 1:=Ad (DQ S.1 mk) (Ad (xR S.1 mk) (Zi (mI (xR S.1 mk)) (um (uq ts S.2))))
abbrev P4 (S:Shape×List (Out×Shape)) (mk:List Bool) (ts:List (List Nat)) (b:JX S mk ts) (i:mI (DQ S.1 mk)) (x:mI (xR S.1 mk)):Zi (mI (xR S.1 mk)) (um (uq ts S.2)):=xP _ (xP _ b i) x
def P5 (S:Shape×List (Out×Shape)) (mk:List Bool) (ts:List (List Nat)) (b:JX S mk ts) {β:Type} (ds:List V) (k:Nat→List V→Option β):Option β:=
 (Loop (fun x=>P4 S mk ts b (JV S.1 mk ds) x (mI (xR S.1 mk) ⊕ um (uq ts S.2)) (fun y=>some (.inl y)) (fun r=>some (.inr r))) (JW S.1 mk ds)).bind (wT (P0 S.1 mk (JV S.1 mk ds)) k (uq ts S.2))
theorem bq {c:Code} (S:Shape×List (Out×Shape)) (mk:List Bool) (ts:List (List Nat)) (b:JX S mk ts) (hL:jn P A C L f n m c) (hS:A.iQ f (keyOf c+1)=some S:=by kernel_rfl)
  (xM: ∀ds,bH S.1 (DR S.1 mk (JV S.1 mk ds) (JW S.1 mk ds))=bH S.1 ds:=by intros;kernel_rfl) (PZ: ∀i x,JW S.1 mk (DR S.1 mk i x)=x:=by intros;kernel_rfl)
  (e1: ∀i x (β:Type) (k:(List V ⊕ (Nat×List V))→Option β),jP P A C L f n m c (bH S.1 (DR S.1 mk i x)) (fun o st=>(n7 m S.1 S.2 (some (o,st))).bind k)=
   P4 S mk ts b i x β (fun y=>k (.inl (DR S.1 mk i y))) (wT (P0 S.1 mk i) (fun j l=>k (.inr (j,l))) (uq ts S.2)):=by intros;kernel_rfl)
  (hl: ∀(β:Type) ds (k:Nat→List V→Option β),L β (keyOf c+1) ds k=P5 S mk ts b ds k:=by intros;kernel_rfl):
  sy P A C L f n m (.loop c):=
 ais hS hL (DR S.1 mk) (fun i r=>Ag (P0 S.1 mk i) _ r) (JV S.1 mk) (JW S.1 mk) (fun e=>Ze e.1 _ e.2) (P4 S mk ts b) xM PZ (fun i r=>air _ _ r)
  (fun i x β k=>by
   rw[e1];congr 1;funext r;exact JT _ _ _ r)
  (fun β ds k=>by
   rw[hl];unfold P5;congr 1;funext r;exact JT _ _ _ r)
abbrev P6 (S:Shape×List (Out×Shape)) (ts:List (List Nat)):Type 1:=Ad S.1.ks ((β:Type)→(um (uq ts S.2)→Option β)→Option β)
def Zj (S:Shape×List (Out×Shape)) (ts:List (List Nat)) (b:P6 S ts) {β:Type} (ds:List V) (k:Nat→List V→Option β):Option β:=
 xP S.1.ks b (rb _ (S.1.norm ds)) β (wT (nr S.1.ks (rb _ (S.1.norm ds))) k (uq ts S.2))
theorem o8 {t:Nat} {x y:Code} (S:Shape×List (Out×Shape)) (ts:List (List Nat)) (b:P6 S ts) (hx:jn P A C L f n m x) (hy:jn P A C L f n m y) (hS:A.iQ f (t*16+15)=some S:=by kernel_rfl)
  (xM: ∀ds,bH S.1 (nr S.1.ks (rb _ (S.1.norm ds)))=bH S.1 ds:=by intros;kernel_rfl)
  (e1: ∀i (β:Type) (k:Nat→List V→Option β),PT P A C L f n m t S x y (nr S.1.ks i) k=xP S.1.ks b i β (wT (nr S.1.ks i) k (uq ts S.2)):=by intros;kernel_rfl)
  (hl: ∀(β:Type) ds (k:Nat→List V→Option β),L β (t*16+15) ds k=Zj S ts b ds k:=by intros;kernel_rfl):
  sy P A C L f n m (.cond t x y):=
 aim hS hx hy (nr S.1.ks) (fun i r=>Ag (nr S.1.ks i) _ r) (fun ds=>rb _ (S.1.norm ds)) (xP S.1.ks b) xM
  (fun i β k=>by
   rw[e1];exact congrArg (xP S.1.ks b i β) (funext fun r=>JT _ _ _ r))
  (fun β ds k=>by
   rw[hl];exact congrArg (xP S.1.ks b (rb _ (S.1.norm ds)) β) (funext fun r=>JT _ _ _ r))
end
theorem aR {P:Program} {A:dc} {C:af} {L:cx} {f n m:Nat} {c:Code} {bs:List oq} (hb:ot P A C L f n m bs) (h:qa A f c=bs:=by kernel_rfl):jn P A C L f n m c:=Y1 h hb
theorem bz {P:Program} {A:dc} {L:cx} {key:Nat} {bs:List oq} {ds:List V} {r x:Option (List V)} (ht:ot P A (Call P A) L key (Cy P (A.iA key)) (A.sin key).cL.length bs) (h:x=r)
  (hb:qa A key (rS P (A.iA key))=bs:=by kernel_rfl) (e:Iu P A (Call P A) L key ds=x:=by kernel_rfl):Call P A key ds=r:=ain hb ht (e.trans h)
def br (j:Nat) (S:Shape×List (Out×Shape)) (mk:List Bool) (ts:List (List Nat)) (b:JX S mk ts) (L:cx):cx:=fun β n ds k=>bif Nat.beq n j then P5 S mk ts b ds k else L β n ds k
def o9 (j:Nat) (S:Shape×List (Out×Shape)) (ts:List (List Nat)) (b:P6 S ts) (L:cx):cx:=fun β n ds k=>bif Nat.beq n j then Zj S ts b ds k else L β n ds k
def bA:cx:=fun _ _ _ _=>none
abbrev LV:=List V
structure SE where
 T:TypeId
 cmp:Nat
 ex:V→List V
 k:Nat→Nat
abbrev Zk (l:List V) (j:Int) {β:Type} (x:Option β):Option β:=bif (decide (0≤j))&&(decide (j<(l.length:Int))) then x else none
abbrev aq (l:List V) (j:Int) {β:Type} (f:V→Option β):Option β:=bif (decide (0≤j))&&(decide (j<(l.length:Int))) then (l[j.toNat]?).bind f else none
abbrev aD (l:List V) (j:Int) (v:V):List V:=l.set j.toNat v
end Go.AM
