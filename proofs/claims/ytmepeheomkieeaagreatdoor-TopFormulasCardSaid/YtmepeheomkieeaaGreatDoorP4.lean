/-
  Functions of the program, lifted to plain data.
-/
import Derived.Carry
import Derived.OpenShut
import Derived.Deep.Slices
import Derived.Test.YtmepeheomkieeaaGreatDoorP3
noncomputable section
set_option linter.unusedVariables false
set_option linter.unusedSimpArgs false
set_option linter.unusedSectionVars false
namespace Go.AM
open Go.IntKind (wrap)
section
variable {P:Program}{A:dM}{w w':World}{I I' I2:Nat→Nat→Prop}{μ β β':Nat→Option Nat}{hp hp' hp0:Nat→Option ag}{C:af}{B:Nat}{M:Nat→Prop}{w0:Start}
theorem Rw(p:Nat→Prop)(h:∃n,p n):∃n,p n∧∀m,p m→n≤m:=by
 obtain⟨n,hn⟩:=h
 induction n using Nat.strongRecOn with
 |_ n ih=>
  by_cases hx:∃m,m<n∧p m
  ·obtain⟨m,hm,hp⟩:=hx;exact ih m hm hp
  ·exact⟨n,hn,fun m hm=>Nat.le_of_not_lt fun bO=>hx ⟨m,bO,hm⟩⟩
open Classical in
theorem arJ{c:Code}{Q:Exit→Act→World→Prop}(J:Nat→Act→World→Prop)(h0:∀a w,¬J 0 a w)(round:∀n a w,J (n+1) a w→c.wp P (Exit.then (J n) Q) a w){n:Nat}{a:Act}{w:World}(h:J n a w):
  (Code.loop c).wp P Q a w:=by
 refine wp_loop (fun a w=> ∃n,J n a w) (fun a w=>if h:∃n,J n a w then(Rw _ h).choose else 0) ⟨n,h⟩ fun a w hJ=> ?_;obtain⟨h1,h2⟩:=(Rw _ hJ).choose_spec;generalize hk:(Rw _ hJ).choose=k at h1 h2;cases k with
 |zero=>exact absurd h1 (h0 a w)
 |succ k=>
  refine wp_mono (round k a w h1) fun e a' w' he=> ?_;cases e with
  |normal=>
   have hex:∃n,J n a' w':=⟨k,he⟩
   refine⟨hex,?_⟩;have h3:=(Rw _ hex).choose_spec.2 k he;rw[dif_pos hex,dif_pos hJ,hk];omega
  |_=>exact he
def Gr:Out→Exit
 | .norm=> .normal
 | .exit id=> .exit id
 | .ret=> .ret
def Inv(P:Program)(E:FuncId→Bool)(G:Nat→V)(B:Nat)(M:Nat→Prop)(w0:Start)(μ:Nat→Option Nat)(hp0:Nat→Option ag)(n:Nat)(a:Act)(w:World)(st:St):Prop:=
 ∃I β,aK P w I β st.hp B M w0∧kg P E G w I β n a st∧qK w0.w w0.I μ hp0 w I β st.hp
theorem Inv.canon{E:FuncId→Bool}{G:Nat→V}{n m:Nat}{a:Act}{st:St}{live:List Nat}(h:Inv P E G B M w0 μ hp0 n a w st)(hm:∀id blk,hp0 id=some blk→id<m)(kS:DN hp0):Inv P E G B M w0 μ hp0 n a w (canon m live st):=by
 obtain⟨I0,β,S,hA,hE⟩:=h;obtain⟨I,h1,S,hA,hT⟩:=ahs S hA;obtain⟨β',a,b,c⟩:=arH (live:=live) S hT hA (hE.trans h1.Gf) hm kS;exact⟨I,β',a,b,c⟩
theorem Rx:∀{l:List BS} {ds:List V},(jC l ds).length=l.length
 | [],_=>rfl
 |b::l,ds=>by simp only[jC,List.length_cons,Rx]
theorem Inv.enter{A:dM}{E:FuncId→Bool}{G:Nat→V}{n f:Nat}{ds:List V}{a:Act}(kf:vg (sD (A.sin f).dI.length (A.mv f))=true)(h:Inv P E G B M w0 μ hp0 n a w (cG (A.sin f) ds))(hm:∀id blk,hp0 id=some blk→id<(A.sin f).dI.length)
  (kS:DN hp0) (ahI:∀p,(A.sin f).dI.length≤p→(cG (A.sin f) ds).hp p=none):Inv P E G B M w0 μ hp0 n a w (Ju A f ds):=by
 unfold Ju;split
 ·exact h
 ·obtain⟨I0,β,S,hA,hE⟩:=h;obtain⟨I,h1,S,hA,hT⟩:=ahs S hA;obtain⟨β',x,y,z⟩:=ahG (kp:=[]) (m:=(A.sin f).dI.length) (ord:=sD (A.sin f).dI.length (A.mv f)) (live:=(A.sin f).cY.map (·.1)) (ahH kf) (fun id ae=>(arI ae).imp (fun h=>h) fun h=>⟨_,h,ahI _ (by omega)⟩) S hT hA (hE.trans h1.Gf) hm kS;exact⟨I,β',x,y,z⟩
theorem Inv.reshape{E:FuncId→Bool}{G:Nat→V}{n m:Nat}{a:Act}{st:St}{S:Shape}{ds:List V}(h:Inv P E G B M w0 μ hp0 n a w st)(hs:oc m S st=some ds)(hm:∀id blk,hp0 id=some blk→id<m):Inv P E G B M w0 μ hp0 n a w (cG S ds):=by
 obtain⟨I,β,S1,hA,hE⟩:=h;obtain⟨r1,r2,_,r4⟩:=AM.reshape hs S1;refine⟨I,β,r1,⟨fun k=>r2 k _ (hA.sl k),hA.size,hA.defers,hA.aV⟩,⟨hE.fI,hE.dF,fun id blk ae=> ?_,fun id blk blk' b ae cM hd hb=> ?_⟩⟩
 ·obtain⟨xA,k1,k2,k3⟩:=hE.blk id blk ae;obtain⟨_,hle,_⟩:=agw hs;have hl:=hm id blk ae;obtain⟨dd,h2⟩:∃dd,(cG S ds).hp id=some dd:=by
   simp only[cG,mk,np];exact⟨_,cv (by rw[Rx];omega)⟩
  by_cases hd:dd= .dead
  ·subst hd;exact⟨_,h2,by cases blk<;>trivial,fun h=>absurd rfl h⟩
  ·obtain⟨ng,e1,e2,_⟩:=r4 id dd h2 hd;rw[k1]at e1;cases e1;exact⟨_,h2,ag.le_trans k2 e2,fun _=>k3 (fun e=>hd (ag.w8 (e▸e2)))⟩
 ·obtain⟨ng,e1,e2,_⟩:=r4 id blk' cM hd;exact hE.size id blk ng b ae e1 (fun e=>hd (ag.w8 (e▸e2))) hb
theorem qL.here(h:qL P A C)(f:Nat)(id:Nat):qL P (A.here f id) C:=by
 intro key ds es hh;obtain⟨fn,c,h1,h2,h3⟩:=h key ds es hh;refine⟨fn,c,h1,h2,fun w I μ vals a g b d=>(h3 w I μ vals a g b d).mono fun e w' hx=> ?_⟩;obtain⟨v,I2,dn,q1,q2⟩:=hx;exact⟨v,I2,dn,q1,⟨q2.Gg,q2.le,q2.res⟩⟩
theorem arK{a b:Out}(h:Qx a b=true):a=b:=by
 cases a<;>cases b<;>simp[Qx]at h<;>first|rfl|(subst h;rfl)
theorem ahJ{m:Nat}{r:Out×St}:∀{l:List (Out×Shape)} {j:Nat} {e:Nat×List V},ways m j l r=some e→j≤e.1
 | [],j,e,h=>by cases h
 |(o,S)::l,j,e,h=>by
  simp only[ways]at h;split at h
  ·cases h;exact aR _
  ·have:=ahJ h;omega
theorem Ya{m:Nat}{o:Out}{s:St}{out:Out}{st':St}:∀{l:List (Out×Shape)} {k:Nat} {e:Nat×List V},ways m k l (o,s)=some e→pS k l e.1 e.2 (fun o st=>some (o,st))=some (out,st')→
  out=o∧∃S,oc m S s=some e.2∧st'=cG S e.2
 | [],k,e,h,_=>by cases h
 |(o',S)::l,k,e,h,h2=>by
  simp only[ways]at h;split at h
  ·rename_i ds hx;cases h;cases ho:Qx o' o with
   |false=>rw[ho]at hx;cases hx
   |true=>
    rw[ho]at hx;have:=arK ho;subst this;cases l with
    |nil=>
     simp only[pS,gW,nZ]at h2;exact⟨h2.1.symm,S,hx,h2.2.symm⟩
    |cons p l=>
     simp only[pS,nX,cond_true,gW,nZ]at h2;exact⟨h2.1.symm,S,hx,h2.2.symm⟩
  ·have sM:=ahJ h;cases l with
   |nil=>cases h
   |cons p l=>
    have bz:Nat.beq e.1 k=false:=by
     cases hb:Nat.beq e.1 k with
     |false=>rfl
     |true=>rw[bU]at hb;omega
    simp only[pS,bz,cond_false]at h2;exact Ya h h2
theorem arL(hC:qL P A C)(hP:nO P A)(uf:P.follows .mixedOrders=true){f n m:Nat}(hm:∀id blk,hp0 id=some blk→id<m)(kS:DN hp0):
  ∀(c:Code) {st st':St} {out:Out} {Q:Exit→Act→World→Prop} {a:Act} {w:World},exec P A C f n m c st=some (out,st')→Inv P A.idle A.aV B M w0 μ hp0 n a w st→
   (∀a' w',Inv P A.idle A.aV B M w0 μ hp0 n a' w' st'→Q (Gr out) a' w')→c.wp P Q a w:=by
 intro c
 induction c with
 |skip=>
  intro st st' out Q a w h hI hQ;simp only[exec,gW,nZ]at h;obtain⟨rfl,rfl⟩:=h;exact wp_skip (hQ a w hI)
 |exit id=>
  intro st st' out Q a w h hI hQ;simp only[exec,gW,nZ]at h;obtain⟨rfl,rfl⟩:=h;exact wp_exit (hQ a w hI)
 |ret=>
  intro st st' out Q a w h hI hQ;simp only[exec,gW,nZ]at h;obtain⟨rfl,rfl⟩:=h;exact wp_ret (hQ a w hI)
 |region id ops draw=>
  intro st st' out Q a w h hI hQ;simp only[exec]at h;obtain⟨fJ,h1,h2⟩:=bind_some h;simp only[gW,nZ]at h2;obtain⟨rfl,rfl⟩:=h2;obtain⟨I,β,S,hA,hE⟩:=hI;refine ary (hC.here f id) (hP.here f id) uf h1 S hA fun a' w' I' β' k1 k2 k3=> ?_;obtain⟨I2,dn,l1,l2,l3⟩:=ahu (m:=m) (pur:=A.pur f id) k2 k3;have hE2:=(hE.trans k1.Gf).trans l1.Gf;exact hQ a' w' (Inv.canon ⟨I2,dn,l2,l3,hE2⟩ hm kS)
 |seq x y lV lX=>
  intro st st' out Q a w h hI hQ;simp only[exec]at h;obtain⟨⟨o1,fJ⟩,h1,h2⟩:=bind_some h;refine wp_seq (lV h1 hI fun a' w' jb=> ?_);cases o1 with
  |norm=>exact lX h2 jb hQ
  |exit id=>
   simp only[gW,nZ]at h2;obtain⟨rfl,rfl⟩:=h2;exact hQ a' w' jb
  |ret=>
   simp only[gW,nZ]at h2;obtain⟨rfl,rfl⟩:=h2;exact hQ a' w' jb
 |cond c x y lV lX=>
  intro st st' out Q a w h hI hQ;cases c with
  |tmp t=>
   have go:∀{st st':St} {out:Out} {Q:Exit→Act→World→Prop} {a:Act} {w:World},(match st.sl t with
     | .bool b=>(bif b then exec P A C f n m x st else exec P A C f n m y st).bind fun r=>
      match r.1 with
      | .norm=>some (.norm,AM.canon m (A.join f t) r.2)
      |_=>some r
     |_=>none)=some (out,st')→Inv P A.idle A.aV B M w0 μ hp0 n a w st→(∀a' w',Inv P A.idle A.aV B M w0 μ hp0 n a' w' st'→Q (Gr out) a' w')→(Code.cond (.tmp t) x y).wp P Q a w:=by
    intro st st' out Q a w h hI hQ;cases hs:st.sl t<;>rw[hs]at h<;>simp only at h<;>first|(cases h;done)|skip
    rename_i b;obtain⟨⟨o1,fJ⟩,h1,h2⟩:=bind_some h;obtain⟨I,β,S,hA,hE⟩:=hI;have kR:a.eval (.tmp t)= .bool b:=by
     have:=ag0 hA hs;simp[Act.eval,this]
    have fin:∀a' w',Inv P A.idle A.aV B M w0 μ hp0 n a' w' fJ→Q (Gr o1) a' w':=by
     intro a' w' jb;cases o1 with
     |norm=>
      simp only[gW,nZ]at h2;obtain⟨rfl,rfl⟩:=h2;exact hQ a' w' (jb.canon hm kS)
     |exit id=>
      simp only[gW,nZ]at h2;obtain⟨rfl,rfl⟩:=h2;exact hQ a' w' jb
     |ret=>
      simp only[gW,nZ]at h2;obtain⟨rfl,rfl⟩:=h2;exact hQ a' w' jb
    refine wp_cond kR ?_;cases b with
    |true=>exact lV h1 ⟨I,β,S,hA,hE⟩ fin
    |false=>exact lX h1 ⟨I,β,S,hA,hE⟩ fin
   simp only[exec]at h;split at h
   ·exact go h hI hQ
   ·obtain⟨ds,h1,h2⟩:=bind_some h;obtain⟨e,h3,h4⟩:=bind_some h2;obtain⟨⟨o1,s1⟩,h5,h6⟩:=bind_some h3;obtain⟨rfl,S',k1,rfl⟩:=Ya h6 h4;exact go h5 (hI.reshape h1 hm) fun a' w' jb=>hQ a' w' (jb.reshape k1 hm)
  |const v=>
   cases v with
   |bool b=>
    simp only[exec]at h;refine wp_cond (t:=b) rfl ?_;cases b with
    |true=>exact lV h hI hQ
    |false=>exact lX h hI hQ
   |_=>simp only[exec]at h;cases h
  |_=>simp only[exec]at h;cases h
 |block id c ih=>
  intro st st' out Q a w h hI hQ;simp only[exec]at h;obtain⟨⟨o1,fJ⟩,h1,h2⟩:=bind_some h;refine wp_block (ih h1 hI fun a' w' jb=> ?_);cases o1 with
  |norm=>
   simp only[gW,nZ]at h2;obtain⟨rfl,rfl⟩:=h2;exact hQ a' w' (jb.canon hm kS)
  |exit aA=>
   simp only at h2;cases hb:Nat.beq aA id with
   |true=>
    rw[hb]at h2;simp only[cond_true,gW,nZ]at h2;obtain⟨rfl,rfl⟩:=h2;rw[bU]at hb;simp only[Gr,Exit.inBlock,hb,rj];exact hQ a' w' (jb.canon hm kS)
   |false=>
    rw[hb]at h2;simp only[cond_false,gW,nZ]at h2;obtain⟨rfl,rfl⟩:=h2;have bz:aA≠id:=fun e=>by rw[e,nX]at hb;cases hb
    simp only[Gr,Exit.inBlock,bz,rh];exact hQ a' w' jb
  |ret=>
   simp only[gW,nZ]at h2;obtain⟨rfl,rfl⟩:=h2;exact hQ a' w' jb
 |loop c ih=>
  intro st st' out Q a w h hI hQ;simp only[exec]at h;split at h
  ·cases h
  ·rename_i S hS;obtain⟨ds,h1,h2⟩:=bind_some h;obtain⟨e,h3,h4⟩:=bind_some h2;obtain⟨k,hk⟩:=FC h3;refine arJ (J:=fun k a w=> ∃ds,Inv P A.idle A.aV B M w0 μ hp0 n a w (cG S.1 ds)∧jB (fun ds=>rC m S.1 S.2 (exec P A C f n m c (cG S.1 ds))) k ds=some e) (fun a w ⟨s,_,h⟩=>by cases h) (fun k a w ⟨ds,hs,hk⟩=> ?_) ⟨ds,hI.reshape h1 hm,hk⟩;simp only[jB]at hk;obtain⟨y,h5,h6⟩:=bind_some hk;unfold rC at h5;obtain⟨⟨o1,s1⟩,h7,h8⟩:=bind_some h5;refine ih h7 hs fun a' w' jb=> ?_;have ahK:∀{e':Nat×List V},ways m 0 S.2 (o1,s1)=some e'→e'=e→Q (Gr o1) a' w':=by
    intro e' q1 q2;subst q2;obtain⟨rfl,S',k1,rfl⟩:=Ya q1 h4;exact hQ a' w' (jb.reshape k1 hm)
   cases o1 with
   |norm=>
    obtain⟨ds2,q1,q2⟩:=bind_some h8;cases q2;exact⟨ds2,jb.reshape q1 hm,h6⟩
   |exit id=>
    obtain⟨e',q1,q2⟩:=bind_some h8;cases q2;cases h6;exact ahK q1 rfl
   |ret=>
    obtain⟨e',q1,q2⟩:=bind_some h8;cases q2;cases h6;exact ahK q1 rfl
 |_=>intro st st' out Q a w h;simp only[exec]at h;cases h
end
section
variable {P:Program}{A:dM}{w w':World}{I I' I2:Nat→Nat→Prop}{μ β β' dn:Nat→Option Nat}{hp hp' hp0:Nat→Option ag}{C:af}{B:Nat}{M:Nat→Prop}{w0:Start}
theorem Ry(S:aK P w I β hp B M w0){a:Act}{st:St}(hs:pW P w I β hp a st.sl):∀{l:List ResultVar} {xs:List V} {rd:List Nat},(CU P st l).run C hp=some (xs,rd)→
  ∃vs:List Value,(l.mapM fun| .tmp t=>Pure.pure (a.tmps.getD t undef)| .cell x t=>do loadVar t (←asAddr (a.tmps.getD x undef)):Sem (List Value)).run P w= .ok vs w∧vs.length=xs.length∧l.length=xs.length∧
   ∀(j:Nat) v x,vs[j]? =some v→xs[j]? =some x→ah P w I β hp v x
 | [],xs,rd,h=>by
  cases h;simp_all
 | .tmp t::l,xs,rd,h=>by
  simp only[CU]at h;obtain⟨ys,l1,l2,h1,h2⟩:=qB h;have h3:=Wz h2;subst h3;obtain⟨vs,a1,a2,a3,a4⟩:=Ry S hs h1;refine⟨a.tmps.getD t undef::vs,by simp_all,by simp[a2],by simp[a3],fun j v x hj hx=> ?_⟩;cases j with
  |zero=>simp at hj hx;subst hj;subst hx;have:=hs t;simp_all
  |succ j=>grind
 | .cell y t::l,xs,rd,h=>by
  simp only[CU]at h;obtain⟨r,l1,l2,h1,h2⟩:=qB h;obtain⟨ys,l3,l4,h3,h4⟩:=qB h2;have h5:=Wz h4;subst h5;obtain⟨v0,b1,b2,b3,ad,b4⟩:=afx S (hs y) h1;obtain⟨vs,a1,a2,a3,a4⟩:=Ry S hs h3;refine⟨v0::vs,?_,by simp[a2],by simp[a3],fun j v x hj hx=> ?_⟩
  ·have e1:(do loadVar t (←asAddr (a.tmps.getD y undef)):Sem Value).run P w= .ok v0 w:=by
    rw[b4]at b1⊢;simpa[Instr.loadAt,Instr.sureAddr,asAddr]using b1
   simp only[List.mapM_cons,Sem.run_bind,e1,Result.andThen_ok,a1,Sem.run_pure]
  grind
def DO:List Value→Value
 | [v]=>v
 |l=> .tuple l.toArray
theorem arM{vs:List Value}(h:vs.length≠1):DO vs= .tuple vs.toArray:=by
 match vs,h with
 | [],_=>rfl
 | [v],h=>simp at h
 |v::v2::l,_=>rfl
theorem arN{fn:Func}{a:Act}{st:St}(S:aK P w I β st.hp B M w0)(hs:pW P w I β st.hp a st.sl){xs:List V}{rd:List Nat}(h:(CU P st fn.results.toList).run C st.hp=some (xs,rd)):
  ∃vs:List Value,(results fn a.tmps).run P w= .ok (DO vs) w∧vs.length=xs.length∧
   ∀(j:Nat) v x,vs[j]? =some v→xs[j]? =some x→ah P w I β st.hp v x:=by
 obtain⟨vs,a1,a2,_,a4⟩:=Ry S hs h;refine⟨vs,?_,a2,a4⟩;unfold results;rw[Array.mapM_eq_mapM_toList];simp only[map_eq_pure_bind,bind_assoc,pure_bind,Sem.run_bind];refine(congrArg (fun r:Result (List Value)=>r.andThen _) a1).trans ?_;simp only[Result.andThen_ok,Sem.run_pure]
 match vs with
 | []=>simp[DO]
 | [v]=>simp[DO]
 |v::v2::l=>simp[DO]
theorem ahL:∀{args:List V} {i k:Nat},gN (tP i args) k=if i≤k then args[k-i]? else none
 | [],i,k=>by simp[tP,gN]
 |v::vs,i,k=>by
  simp only[tP,gN];cases hb:Nat.beq k i with
  |true=>
   simp_all
  |false=>
   have bz:k≠i:=fun e=>by simp_all
   simp only[cond_false,ahL];grind
theorem Yb:∀{l:List (Nat×VS)} {ds:List V} {i k:Nat},nG i l=true→gN (kK l ds) k=if i≤k then(lT (l.map (·.2)) ds)[k-i]? else none
 | [],ds,i,k,_=>by simp[kK,lT,gN]
 |(q,s)::l,ds,i,k,h=>by
  simp only[nG,bc,bU]at h;obtain⟨rfl,h⟩:=h;simp only[kK,gN,nY,lT];cases hb:Nat.beq k q with
  |true=>
   simp_all
  |false=>
   have bz:k≠q:=fun e=>by simp_all
   simp only[cond_false];rw[Yb h];grind
theorem ahM:∀{l:List (Nat×VS)} {ds:List V},(kK l ds).map (·.2)=lT (l.map (·.2)) ds
 | [],_=>rfl
 |(q,s)::l,ds=>by simp only[kK,nY,lT,ahM]
theorem Yc:∀{l:List VS} {ds:List V},(lT l ds).length=l.length
 | [],_=>rfl
 |s::l,ds=>by simp only[lT,List.length_cons,Yc]
theorem ahN:∀{l:List (Nat×VS)} {ds:List V},(kK l ds).length=l.length
 | [],_=>rfl
 |(q,s)::l,ds=>by simp only[kK,List.length_cons,ahN]
theorem arO{vals:List Value}{l:List (Nat×V)}(hl:vals.length=l.length)(h:∀(j:Nat) v y,vals[j]? =some v→(l.map (·.2))[j]? =some y→ah P w I β hp v y):ah P w I β hp (DO vals) (wX l):=by
 match l,hl,h with
 | [],hl,h=>
  obtain rfl:vals=[]:=tG hl;exact .bN rfl fun j v x _ hx=>by simp at hx
 | [(k,y)],hl,h=>
  match vals,hl,h with
  | [v],_,h=>exact h 0 v y rfl rfl
 |a::b::l,hl,h=>
  have bz:vals.length≠1:=by grind
  rw[arM bz];simp only[wX];exact .bN (by simp[hl]) fun j v y hj hy=>h j v y (by grind) hy
theorem arP{l:List BS}{ds:List V}{j:Nat}{e:TypeId}{es:List V}{vers:List Nat}(h:(jC l ds)[j]? =some (.nest e es vers))(k:Nat):cy vers k=0:=by
 obtain⟨b,mQ,_,h2⟩:=Rh h;cases b<;>simp only[j8]at h2<;>cases h2
 match k with
 |0=>rfl
 |1=>rfl
 |2=>rfl
 |_+3=>rfl
theorem arQ{f n m:Nat}{fn:Func}{a:Act}{st:St}{es:List V}{rd:List Nat}(hm:∀id blk,hp0 id=some blk→id<m)(kS:DN hp0)
  (hI:Inv P A.idle A.aV B M w0 μ hp0 n a w st) (xD:nG 0 (A.kI f).cY=true) (b7:(A.kI f).cY.length=fn.results.size) (h:(CV P A f fn m st).run C st.hp=some (es,rd)):
  ∃v I2 dn,(results fn a.tmps).run P w= .ok v w∧aK P w I2 dn (cG (A.so f es) (A.lv f es)).hp B M w0∧qK w0.w w0.I μ hp0 w I2 dn (cG (A.so f es) (A.lv f es)).hp∧ah P w I2 dn (cG (A.so f es) (A.lv f es)).hp v (wX (kK (A.so f es).cY (A.lv f es))):=by
 unfold CV at h;obtain⟨xs,l1,l2,h1,h2⟩:=qB h;obtain⟨I,β,S,hA,hE⟩:=hI;obtain⟨vals,e1,e2,e3⟩:=arN S hA.sl h1;have e4:fn.results.size=xs.length:=by
  obtain⟨_,_,_,q,_⟩:=Ry S hA.sl h1;omega
 have fin:∀(Sx:Shape) (es:List V),nG 0 Sx.cY=true→Sx.cY.length=fn.results.size→oc m Sx (canon m (List.range xs.length++A.live f 9999) (freeze m (A.CM f) ⟨oF (tP 0 xs),st.hp,st.nb⟩))=some es→
   ∃v I2 dn,(results fn a.tmps).run P w= .ok v w∧aK P w I2 dn (cG Sx es).hp B M w0∧qK w0.w w0.I μ hp0 w I2 dn (cG Sx es).hp∧ah P w I2 dn (cG Sx es).hp v (wX (kK Sx.cY es)):=by
  intro Sx es xD b7 sR;have Rz:kg P A.idle A.aV w I β vals.length ⟨vals.toArray,[]⟩ ⟨oF (tP 0 xs),st.hp,st.nb⟩:=by
   refine⟨fun k=> ?_,by simp,by simp,hA.aV⟩;change ah P w I β st.hp _ (oF (tP 0 xs) k);unfold oF;rw[ahL];simp only[mi,rj,Nat.sub_zero];cases hk:xs[k]? with
   |none=>exact .undef
   |some x=>
    have xn:k<vals.length:=by grind
    have:=e3 k vals[k] x (cv xn) hk;have e5:(vals.toArray).getD k undef=vals[k]:=by simp[xn]
    grind
  obtain⟨I2,dn,k1,k2,k3⟩:=ahu (st:=⟨oF (tP 0 xs),st.hp,st.nb⟩) (m:=m) (pur:=A.CM f) S Rz;have hI2:Inv P A.idle A.aV B M w0 μ hp0 vals.length ⟨vals.toArray,[]⟩ w (freeze m (A.CM f) ⟨oF (tP 0 xs),st.hp,st.nb⟩):=⟨I2,dn,k2,k3,hE.trans k1.Gf⟩
  obtain⟨I3,β3,q1,q2,q3⟩:=(hI2.canon (live:=List.range xs.length++A.live f 9999) hm kS).reshape sR hm;refine⟨DO vals,I3,β3,e1,q1,q3,arO (by rw[ahN,b7,e4,e2]) fun j v y hj hy=> ?_⟩;have hv:=q2.sl j;have eQ:=(cP.1 hj).1;have e5:(vals.toArray).getD j undef=v:=by
   simp_all
  change ah P w I3 β3 _ ((vals.toArray).getD j undef) (oF (kK Sx.cY _) j)at hv;rw[e5]at hv;unfold oF at hv;rw[Yb xD]at hv;simp only[mi,rj,Nat.sub_zero]at hv;rw[ahM]at hy;grind
 unfold dM.so dM.lv;cases dr:A.alt f with
 |none=>
  rw[dr]at h2;simp only at h2⊢;split at h2
  ·rename_i mQ sR;have:=bG h2;grind
  ·cases h2
 |some S2=>
  rw[dr]at h2;simp only at h2⊢;split at h2
  ·rename_i mQ sR;have:=bG h2;subst this;exact fin _ _ xD b7 sR
  ·split at h2
   ·rename_i mQ sR;obtain⟨hc,h3⟩:=aW h2;simp only[bc,bU]at hc;have:=bG h3;subst this;exact fin _ _ hc.1 hc.2 sR
   ·cases h2
theorem arR(hC:qL P A C)(hP:nO P A)(uf:P.follows .mixedOrders=true):qL P A (vj P A C):=by
 intro f ds es h;unfold vj at h;cases hf:P.funcs[A.mn f]? with
 |none=>grind
 |some fn=>
  rw[hf]at h;simp only at h;cases hb:fn.body with
  |none=>grind
  |some c=>
   rw[hb]at h;simp only at h;cases hc:(nG 0 (A.sin f).cY&&(Nat.ble (A.sin f).cY.length fn.ntmps&&((A.sin f).ok&&(nG 0 (A.kI f).cY&&(Nat.beq (A.kI f).cY.length fn.results.size&&vg (sD (A.sin f).dI.length (A.mv f)))))))with
   |false=>grind
   |true=>
    rw[hc]at h;simp only[cond_true]at h;simp only[bc,bU,fG]at hc;obtain⟨lh,hnt,_,xt,b7,kf⟩:=hc;obtain⟨⟨out,st'⟩,h1,h2⟩:=bind_some h;refine⟨fn,c,rfl,hb,fun w I μ vals hH RA hl hv=> ?_⟩;have arS:(∀id,out≠ .exit id)∧∃rd,(CV P A f fn (A.sin f).dI.length st').run C st'.hp=some (es,rd):=by
     cases out with
     |exit id=>cases h2
     |norm=>
      simp_all
     |ret=>
      simp_all
    obtain⟨bz,rd,XK⟩:=arS;refine calls_of_wp_defers hf hb ?_;have hm:∀id blk,(cG (A.sin f) ds).hp id=some blk→id<(A.sin f).dI.length:=by
     intro id blk ae;simp only[cG,mk,np]at ae;have:=(cP.1 ae).1;rwa [Rx]at this
    have kS:DN (cG (A.sin f) ds).hp:=by
     intro id e es vers ae k;simp only[cG,mk,np]at ae;rcases ae with ae|⟨i,ae⟩
     ·exact arP ae k
     ·obtain⟨b,_,_,h⟩:=Rh ae;cases b<;>cases h
    refine arL (w0:=⟨w,I⟩) (μ:=μ) (hp0:=(cG (A.sin f) ds).hp) (B:=w.heap.size) (M:=vF P w μ (cG (A.sin f) ds).hp) hC hP uf hm kS c h1 ?_ ?_
    ·refine Inv.enter kf ?_ hm kS fun p hp=>by
      simp only[cG,mk,np];rw[List.getElem?_eq_none_iff,Rx];exact hp
     refine⟨I,μ,⟨hH,fun _ _ _=>rfl,aR _,fun b j h=> .inl h,⟨rfl,rfl⟩⟩,⟨fun k=> ?_,?_,by simp,RA⟩,(Le.refl (P:=P) w I μ _).Gf⟩
     ·change ah P w I μ _ _ (oF (kK (A.sin f).cY ds) k);unfold oF;rw[Yb lh];simp only[mi,rj,Nat.sub_zero];cases hk:(lT ((A.sin f).cY.map (·.2)) ds)[k]? with
      |none=>exact .undef
      |some x=>
       have xn:k<vals.length:=by
        have:=(cP.1 hk).1;rw[Yc,dD]at this;omega
       have:=hv k vals[k] x (cv xn) hk;have e1:(vals.toArray++Array.replicate (fn.ntmps-vals.toArray.size) undef).getD k undef=vals[k]:=by
        simp[Array.getElem?_append,xn]
       grind
     grind
    ·intro a' w' hI;obtain⟨v,I2,dn,q1,q2,q3,q4⟩:=arQ hm kS hI xt b7 XK;obtain⟨_,_,_,hA,_⟩:=hI;cases out with
     |exit id=>grind
     |norm=>exact XY hP q1 ⟨v,I2,dn,rfl,q2,q3,q4⟩ _ hA.defers
     |ret=>exact XY hP q1 ⟨v,I2,dn,rfl,q2,q3,q4⟩ _ hA.defers
theorem ahO(hP:nO P A)(uf:P.follows .mixedOrders=true):∀n,qL P A (pT P A n)
 |0=>fun _ _ _ h=>by cases h
 |n+1=>arR (ahO hP uf n) hP uf
theorem arT(hP:nO P A)(uf:P.follows .mixedOrders=true):qL P A (Call P A):=by
 intro f ds es h;have hn:∃n,pT P A n f ds=some es:=by
  unfold Call at h;split at h
  all_goals grind
 obtain⟨n,hn⟩:=hn;exact ahO hP uf n f ds es hn
end
section
variable {P:Program}{A:dM}{C:af}{D:Nat→af}
def Gs(C:af)(D:Nat→af):Prop:= ∀f a r,C f a=some r→∃n,∀k,n≤k→D k f a=some r
theorem xH{α:Type}(h:Gs C D){hp:Nat→Option ag}:∀{p:Rd α} {r:α×List Nat},p.run C hp=some r→∃n,∀k,n≤k→p.run (D k) hp=some r
 | .ret a,r,e=>⟨0,fun _ _=>e⟩
 | .fail,r,e=>by cases e
 | .get id q,r,e=>by
  obtain⟨x,h1,h2⟩:=bind_some e;obtain⟨n,hn⟩:=xH h h1;exact⟨n,fun k hk=>by simp only[Rd.run,hn k hk,Option.bind_some];exact h2⟩
 | .opt o q,r,e=>by
  obtain⟨x,h1,h2⟩:=bind_some e;obtain⟨n,hn⟩:=xH h h2;exact⟨n,fun k hk=>by simp only[Rd.run,h1,Option.bind_some];exact hn k hk⟩
 | .live id ok q,r,e=>by
  simp only[Rd.run]at e;cases hk:ok (mj (hp id))with
  |false=>rw[hk]at e;cases e
  |true=>
   rw[hk]at e;obtain⟨x,h1,h2⟩:=bind_some e;obtain⟨n,hn⟩:=xH h h1;exact⟨n,fun k xF=>by simp only[Rd.run,hk,cond_true,hn k xF,Option.bind_some];exact h2⟩
 | .aQ b q,r,e=>by
  obtain⟨h1,h2⟩:=aW e;obtain⟨n,hn⟩:=xH h h2;exact⟨n,fun k hk=>by simp only[Rd.run,h1,cond_true];exact hn k hk⟩
 | .call f a q,r,e=>by
  obtain⟨x,h1,h2⟩:=bind_some e;obtain⟨n1,lh⟩:=h f a x h1;obtain⟨n2,xt⟩:=xH h h2;exact⟨max n1 n2,fun k hk=>by simp only[Rd.run,lh k (by omega),Option.bind_some];exact xt k (by omega)⟩
 | .alt true x y,r,e=>xH (p:=x) h e
 | .alt false x y,r,e=>xH (p:=y) h e
theorem arU(h:Gs C D){n i nb:Nat}{ops:Array Oper}{o:Oper}{st:St}{r:St×List Nat×List Nat}(e:kL P A C n ops i o nb st=some r):∃N,∀k,N≤k→kL P A (D k) n ops i o nb st=some r:=by
 unfold kL at e;have go:(((nF P A st.sl i (nb+64*i) o).run C st.hp).bind fun r=>some ((⟨fy st.sl o.dst r.1.v,cQ st.hp r.1.upd,st.nb⟩:St),za r.2 r.1.upd,lU st.hp r.1.upd))=some r→
   ∃N,∀k,N≤k→(((nF P A st.sl i (nb+64*i) o).run (D k) st.hp).bind fun r=>some ((⟨fy st.sl o.dst r.1.v,cQ st.hp r.1.upd,st.nb⟩:St),za r.2 r.1.upd,lU st.hp r.1.upd))=some r:=by
  intro e;obtain⟨x,h1,h2⟩:=bind_some e;obtain⟨N,hN⟩:=xH h h1;exact⟨N,fun k hk=>by rw[hN k hk];exact h2⟩
 unfold kL;cases hd:AR o n with
 |false=>rw[hd]at e;cases e
 |true=>
  rw[hd]at e;simp only[cond_true]at e⊢;cases hg:o.guard with
  |none=>rw[hg]at e;exact go e
  |some gw=>
   obtain⟨g,want⟩:=gw;rw[hg]at e;simp only at e⊢;cases rQ:(ops[g]?).bind (·.dst)with
   |none=>rw[rQ]at e;cases e
   |some d=>
    rw[rQ]at e;simp only at e⊢;cases sP:rn (st.sl d)with
    |none=>rw[sP]at e;cases e
    |some ob=>
    rw[sP]at e;cases ob with
    |none=>exact⟨0,fun _ _=>e⟩
    |some b=>
    simp only at e⊢;cases hb:b==want with
    |true=>rw[hb]at e;exact go e
    |false=>rw[hb]at e;exact⟨0,fun _ _=>e⟩
theorem Yd(h:Gs C D){n nb:Nat}{ops:Array Oper}:∀{l:List (Nat×Oper)} {st:St} {log:Log} {r:St×Log},tO P A C n ops nb l st log=some r→∃N,∀k,N≤k→tO P A (D k) n ops nb l st log=some r
 | [],st,log,r,e=>⟨0,fun _ _=>e⟩
 |(i,o)::l,st,log,r,e=>by
  obtain⟨x,h1,h2⟩:=bind_some e;obtain⟨N1,sS⟩:=arU h h1;obtain⟨N2,qO⟩:=Yd h h2;exact⟨max N1 N2,fun k hk=>by simp only[tO,sS k (by omega),Option.bind_some];exact qO k (by omega)⟩
theorem ahP(h:Gs C D){n nb:Nat}{ops:Array Oper}:∀{l:List (pR×(Nat→Option ag))} {u:Unit},zb P A C n ops nb l=some u→∃N,∀k,N≤k→zb P A (D k) n ops nb l=some u
 | [],u,e=>⟨0,fun _ _=>e⟩
 |(x,H)::l,u,e=>by
  obtain⟨r,h1,h2⟩:=bind_some e;obtain⟨N1,sS⟩:=Yd h h1;cases hc:FL ops x r with
  |false=>rw[hc]at h2;cases h2
  |true=>
   rw[hc]at h2;obtain⟨N2,qO⟩:=ahP h h2;refine⟨max N1 N2,fun k hk=> ?_⟩;simp only[zb,sS k (by omega),Option.bind_some,hc];exact qO k (by omega)
theorem ahQ{X R:Type}{step:X→Option (X ⊕ R)}{stepD:Nat→X→Option (X ⊕ R)}(hs:∀x y,step x=some y→∃N,∀k,N≤k→stepD k x=some y):∀(n:Nat) (x:X) (r:R),jB step n x=some r→∃N,∀k,N≤k→jB (stepD k) n x=some r
 |0,x,r,e=>by cases e
 |n+1,x,r,e=>by
  simp only[jB]at e⊢;obtain⟨y,h1,h2⟩:=bind_some e;obtain⟨N1,sS⟩:=hs x y h1;cases y with
  |inl z=>
   obtain⟨N2,qO⟩:=ahQ hs n z r h2;exact⟨max N1 N2,fun k hk=>by rw[sS k (by omega)];exact qO k (by omega)⟩
  |inr q=>exact⟨N1,fun k hk=>by rw[sS k hk];exact h2⟩
theorem arV(h:Gs C D){f n m:Nat}:∀(c:Code) {st:St} {r:Out×St},exec P A C f n m c st=some r→∃N,∀k,N≤k→exec P A (D k) f n m c st=some r:=by
 intro c
 induction c with
 |skip=>exact fun e=>⟨0,fun _ _=>e⟩
 |exit id=>exact fun e=>⟨0,fun _ _=>e⟩
 |ret=>exact fun e=>⟨0,fun _ _=>e⟩
 |region id ops draw=>
  intro st r e;simp only[exec]at e⊢;obtain⟨x,h1,h2⟩:=bind_some e;obtain⟨y,h3,h4⟩:=bind_some h1;obtain⟨N,hN⟩:=Yd h h3;obtain⟨N2,qO⟩:∃N2,∀k,N2≤k→CS P (A.here f id) (D (max N k)) n ops draw st=some x:=by
   revert h4;cases hc:(!draw||(Region.noSelect ops&&FK ops y.2))with
   |true=>
    intro h4;refine⟨0,fun k _=> ?_⟩;unfold CS;rw[hN _ (Nat.le_max_left _ _),Option.bind_some,hc];exact h4
   |false=>
    cases gh:(Region.noSelect ops&&vh 0 ops.toList)with
    |false=>intro h4;cases h4
    |true=>
     intro h4;obtain⟨l,h5,h6⟩:=bind_some h4;obtain⟨u,h7,h8⟩:=bind_some h6;obtain⟨N2,qO⟩:=ahP h h7;refine⟨N2,fun k hk=> ?_⟩;unfold CS;rw[hN _ (Nat.le_max_left _ _),Option.bind_some,hc,gh];simp only[cond_true,cond_false,h5,Option.bind_some];rw[qO _ (lR hk (Nat.le_max_right _ _))];exact h8
  refine⟨max N N2,fun k hk=> ?_⟩;have:=qO k (by omega);rw[show max N k=k by omega]at this;rw[this];exact h2
 |seq x y lV lX=>
  intro st r e;simp only[exec]at e⊢;obtain⟨⟨o,s1⟩,h1,h2⟩:=bind_some e;obtain⟨N1,sS⟩:=lV h1;cases o with
  |norm=>
   obtain⟨N2,qO⟩:=lX h2;exact⟨max N1 N2,fun k hk=>by rw[sS k (by omega)];exact qO k (by omega)⟩
  |exit id=>exact⟨N1,fun k hk=>by rw[sS k hk];exact h2⟩
  |ret=>exact⟨N1,fun k hk=>by rw[sS k hk];exact h2⟩
 |cond c x y lV lX=>
  intro st r e;cases c with
  |tmp t=>
   have go:∀{st:St} {r:Out×St},(match st.sl t with
     | .bool b=>(bif b then exec P A C f n m x st else exec P A C f n m y st).bind fun r=>
      match r.1 with
      | .norm=>some (.norm,canon m (A.join f t) r.2)
      |_=>some r
     |_=>none)=some r→∃N,∀k,N≤k→(match st.sl t with
     | .bool b=>(bif b then exec P A (D k) f n m x st else exec P A (D k) f n m y st).bind fun r=>
      match r.1 with
      | .norm=>some (.norm,canon m (A.join f t) r.2)
      |_=>some r
     |_=>none)=some r:=by
    intro st r e;cases hs:st.sl t<;>rw[hs]at e<;>simp only at e⊢ <;>first|(cases e;done)|skip
    rename_i b;obtain⟨x1,h1,h2⟩:=bind_some e;cases b with
    |true=>
     obtain⟨N,hN⟩:=lV h1;exact⟨N,fun k hk=>by simp only[cond_true,hN k hk,Option.bind_some];exact h2⟩
    |false=>
     obtain⟨N,hN⟩:=lX h1;exact⟨N,fun k hk=>by simp only[cond_false,hN k hk,Option.bind_some];exact h2⟩
   simp only[exec]at e⊢;split at e
   ·rename_i hS;obtain⟨N,hN⟩:=go e;exact⟨N,fun k hk=>hN k hk⟩
   ·rename_i S hS;obtain⟨ds,h1,h2⟩:=bind_some e;obtain⟨e',h3,h4⟩:=bind_some h2;obtain⟨r1,h5,h6⟩:=bind_some h3;obtain⟨N,hN⟩:=go h5;refine⟨N,fun k hk=> ?_⟩
    try rw[hS]
    simp only[h1,Option.bind_some];exact(congrArg (fun z:Option (Out×St)=>(z.bind fun r=>ways m 0 S.2 r).bind fun e=>pS 0 S.2 e.1 e.2 fun o st=>some (o,st)) (hN k hk)).trans (by simp only[Option.bind_some,h6];exact h4)
  |const v=>
   cases v with
   |bool b=>
    simp only[exec]at e⊢;cases b with
    |true=>exact lV e
    |false=>exact lX e
   |_=>simp only[exec]at e;cases e
  |_=>simp only[exec]at e;cases e
 |block id c ih=>
  intro st r e;simp only[exec]at e⊢;obtain⟨x1,h1,h2⟩:=bind_some e;obtain⟨N,hN⟩:=ih h1;exact⟨N,fun k hk=>by rw[hN k hk];exact h2⟩
 |loop c ih=>
  intro st r e;simp only[exec]at e⊢;split at e
  ·cases e
  ·rename_i S hS;obtain⟨ds,h1,h2⟩:=bind_some e;obtain⟨e',h3,h4⟩:=bind_some h2;obtain⟨q,hq⟩:=FC h3;obtain⟨N,hN⟩:=ahQ (stepD:=fun k ds=>rC m S.1 S.2 (exec P A (D k) f n m c (cG S.1 ds))) (fun x y KC=>by
    unfold rC at KC⊢;obtain⟨z,h5,h6⟩:=bind_some KC;obtain⟨N,hN⟩:=ih h5;exact⟨N,fun k hk=>by rw[hN k hk];exact h6⟩) q ds e' hq
   refine⟨N,fun k hk=> ?_⟩
   try rw[hS]
   simp only[h1,Option.bind_some];rw[FB (hN k hk)];exact h4
 |_=>intro st r e;simp only[exec]at e;cases e
theorem RB(h:Gs C D){f:Nat}{ds es:List V}(e:vj P A C f ds=some es):∃N,∀k,N≤k→vj P A (D k) f ds=some es:=by
 unfold vj at e⊢;cases hf:P.funcs[A.mn f]? with
 |none=>rw[hf]at e;cases e
 |some fn=>
  rw[hf]at e;simp only at e⊢;cases hb:fn.body with
  |none=>rw[hb]at e;cases e
  |some c=>
   rw[hb]at e;simp only at e⊢;cases hc:(nG 0 (A.sin f).cY&&(Nat.ble (A.sin f).cY.length fn.ntmps&&((A.sin f).ok&&(nG 0 (A.kI f).cY&&(Nat.beq (A.kI f).cY.length fn.results.size&&vg (sD (A.sin f).dI.length (A.mv f)))))))with
   |false=>rw[hc]at e;cases e
   |true=>
    rw[hc]at e;simp only[cond_true]at e⊢;obtain⟨⟨o,s1⟩,h1,h2⟩:=bind_some e;obtain⟨N1,sS⟩:=arV h c h1;cases o with
    |exit id=>cases h2
    |norm=>
     simp only[Option.map_eq_some_iff]at h2;obtain⟨x,e1,e2⟩:=h2;obtain⟨N2,qO⟩:=xH h e1;exact⟨max N1 N2,fun k hk=>by rw[sS k (by omega)];simp only[Option.bind_some,qO k (by omega),Option.map_some,e2]⟩
    |ret=>
     simp only[Option.map_eq_some_iff]at h2;obtain⟨x,e1,e2⟩:=h2;obtain⟨N2,qO⟩:=xH h e1;exact⟨max N1 N2,fun k hk=>by rw[sS k (by omega)];simp only[Option.bind_some,qO k (by omega),Option.map_some,e2]⟩
theorem ahR:∀n f a r,pT P A n f a=some r→pT P A (n+1) f a=some r
 |0,f,a,r,h=>by cases h
 |n+1,f,a,r,h=>by
  obtain⟨N,hN⟩:=RB (C:=pT P A n) (D:=fun _=>pT P A (n+1)) (fun f a r h=>⟨0,fun _ _=>ahR n f a r h⟩) h;exact hN N (aR _)
theorem Ye{n k:Nat}(hk:n≤k){f:Nat}{a r:List V}(h:pT P A n f a=some r):pT P A k f a=some r:=by
 induction hk with
 |refl=>exact h
 |step _ ih=>exact ahR _ _ _ _ ih
theorem KD{f:Nat}{a r:List V}:Call P A f a=some r↔∃n,pT P A n f a=some r:=by
 constructor
 ·intro h;unfold Call at h;split at h
  ·rename_i hex;have:=hex.choose_spec.choose_spec;rw[fP h]at this;exact⟨_,this⟩
  ·cases h
 ·rintro⟨n,hn⟩;have hex:∃n r,pT P A n f a=some r:=⟨n,r,hn⟩
  unfold Call;rw[dif_pos hex];have h2:=hex.choose_spec.choose_spec;have h3:=Ye (Nat.le_max_left n hex.choose) hn;have h4:=Ye (Nat.le_max_right n hex.choose) h2;rw[h3]at h4;exact h4.symm
theorem arW(f:Nat)(a:List V):Call P A f a=vj P A (Call P A) f a:=by
 apply Option.ext;intro r;constructor
 ·intro h;obtain⟨n,hn⟩:=KD.1 h;cases n with
  |zero=>cases hn
  |succ n=>
   obtain⟨N,hN⟩:=RB (C:=pT P A n) (D:=fun _=>Call P A) (fun f a r h=>⟨0,fun _ _=>KD.2 ⟨n,h⟩⟩) hn;exact hN N (aR _)
 ·intro h;obtain⟨N,hN⟩:=RB (C:=Call P A) (D:=pT P A) (fun f a r h=>by
   obtain⟨n,hn⟩:=KD.1 h;exact⟨n,fun k hk=>Ye hk hn⟩) h
  exact KD.2 ⟨N+1,hN N (aR _)⟩
end
end Go.AM
namespace Go.AM
open Go.IntKind (wrap)
open Go.ChangeShapes Go.WideShapes Go.RowKit
section
variable (P:Program)
inductive WT:TypeId→V→Prop
 |int {t:TypeId} {k:IntKind} {n:Int}:P.underlying t=some (.int k)→(Lit.int k n).wf=true→WT t (.int k n)
 |bool {t:TypeId} {b:Bool}:P.underlying t=some .bool→WT t (.bool b)
 |str {t:TypeId} {l:List UInt8}:P.underlying t=some .string→l.length≤maxLen→WT t (.str l)
 |list {t e:TypeId} {es:List V}:P.underlying t=some (.slice e)→es.length≤maxLen→
   (∀(i:Nat) x,es[i]? =some x→cR P e=true→∃xs,x= .agg xs∧xs.length=(bp P e).length)→
   (∀(i j:Nat) x t',es[i]? =some x→(bp P e)[j]? =some t'→WT t' (cW P e x j))→WT t (.list e es)
def py(t:TypeId)(x:V):Prop:=
 (cR P t=true→∃xs,x= .agg xs∧xs.length=(bp P t).length)∧∀(j:Nat) t',(bp P t)[j]? =some t'→WT P t' (cW P t x j)
def yI:List TypeId→List V→Prop
 | [],[]=>True
 |t::ts,x::xs=>py P t x∧yI ts xs
 |_,_=>False
def hasB(L:List TypeId)(t:TypeId):Bool:=L.any fun u=>Nat.beq u t
def RC(L:List TypeId):Nat→List Field→Bool
 |_,[]=>true
 |n,f::fs=>hasB L f.type&&(Nat.beq f.offset n&&(Nat.beq (P.cellsOf f.type) (bp P f.type).length&&RC L (n+P.cellsOf f.type) fs))
def KE:List Nat→List Nat→Bool
 | [],[]=>true
 |a::l,b::m=>Nat.beq a b&&KE l m
 |_,_=>false
def Yf(L:List TypeId)(t:TypeId):Bool:=
 Nat.beq (P.cellsOf t) (bp P t).length&&
 match P.underlying t with
 |some (.int _)=>true
 |some .bool=>true
 |some .string=>true
 |some (.slice e)=>hasB L e&&dZ P e
 |some (.struct fs)=>RC P L 0 fs.toList&&KE (flat P t) (fs.toList.flatMap fun f=>bp P f.type)
 |some (.array n e)=>hasB L e&&(Nat.beq (P.cellsOf e) (bp P e).length&&KE (flat P t) (List.replicate n (bp P e)).flatten)
 |_=>false
def KF(L:List TypeId):Bool:=L.all fun t=>Yf P L t
end
theorem RD{L:List TypeId}{t:TypeId}(h:hasB L t=true):t∈L:=by
 obtain⟨u,hu,h2⟩:=List.any_eq_true.1 h;rw[bU]at h2;exact h2▸hu
theorem Yg:∀{l m:List Nat},KE l m=true→l=m
 | [],[],_=>rfl
 |a::l,b::m,h=>by
  simp only[KE,bc,bU]at h;rw[h.1,Yg h.2]
 | [],_::_,h=>by cases h
 |_::_,[],h=>by cases h
section
variable {P:Program}{H:Type}{enc:TypeId×Value→H}{w:World}{base:Nat}{spare:Nat→Bool}{held:Bool}{L:List TypeId}
def rR(w:World):Nat→Nat→Prop:=fun b _=>b<w.heap.size
def ug(P:Program)(w:World)(ts:List TypeId)(cs:List Value)(xs:List V):Prop:=
 cs.length=ts.length∧xs.length=ts.length∧∀(j:Nat) t',ts[j]? =some t'→∃v y,cs[j]? =some v∧xs[j]? =some y∧Pure P w (rR w) t' v y∧WT P t' y
theorem ug.app{ts wV:List TypeId}{cs nL:List Value}{xs xs':List V}(h:ug P w ts cs xs)(h':ug P w wV nL xs'):ug P w (ts++wV) (cs++nL) (xs++xs'):=by
 obtain⟨a,b,c⟩:=h;obtain⟨a',b',c'⟩:=h';refine⟨by simp[a,a'],by simp[b,b'],fun j t' hj=> ?_⟩;by_cases bO:j<ts.length
 ·rw[o6 bO]at hj;obtain⟨v,y,e1,e2,e3⟩:=c j t' hj;exact⟨v,y,by rw[o6 (by omega)];exact e1,by rw[o6 (by omega)];exact e2,e3⟩
 ·rw[qv (by omega)]at hj;obtain⟨v,y,e1,e2,e3⟩:=c' _ t' hj;exact⟨v,y,by rw[qv (by omega),a];exact e1,by rw[qv (by omega),b];exact e2,e3⟩
theorem arX{w:World}{a:Addr}{v:Value}(h:w.cell? a=some v):a.spot=none∧a.block<w.heap.size:=by
 unfold World.cell? at h;split at h
 ·rename_i hh;split at h
  ·cases h
  ·rename_i hs;exact⟨by simpa using hs,(AD.1 hh).1⟩
 all_goals (first|cases h|skip)
theorem ahS{rd:TypeId→List Value→Option (DataW H×List MemPlace)}(cs:List Value)
  (ih:∀t cs x,t∈L→rd t cs=some x→∃xs,ug P w (bp P t) cs xs):∀(fs:List Field) (n:Nat),RC P L n fs=true→
  (∀f∈fs,∃x,rd f.type ((cs.drop f.offset).take (P.cellsOf f.type))=some x)→∃m xs,n≤m∧ug P w (fs.flatMap fun f=>bp P f.type) ((cs.drop n).take (m-n)) xs∧m-n=(fs.flatMap fun f=>bp P f.type).length
 | [],n,_,_=>⟨n,[],aR _,⟨by simp,rfl,by simp⟩,by simp⟩
 |f::fs,n,h,hx=>by
  simp only[RC,bc,bU]at h;obtain⟨h1,h2,h3,h4⟩:=h;obtain⟨x,hxf⟩:=hx f (by simp);obtain⟨xs,nk⟩:=ih _ _ _ (RD h1) hxf;obtain⟨m,ys,hm,zA,xE⟩:=ahS cs ih fs (n+P.cellsOf f.type) h4 fun g hg=>hx g (by simp[hg]);refine⟨m,xs++ys,by omega,?_,by simp only[Ft,kG];omega⟩;have:=nk.app zA;rw[Ft];rw[h2]at this;have e:(cs.drop n).take (m-n)=(cs.drop n).take (P.cellsOf f.type)++(cs.drop (n+P.cellsOf f.type)).take (m-(n+P.cellsOf f.type)):=by
   rw[show m-n=P.cellsOf f.type+(m-(n+P.cellsOf f.type)) by omega,List.take_add,List.drop_drop]
  rw[e];exact this
theorem ahT{rd:List Value→Option (DataW H×List MemPlace)}(cs:List Value){e:TypeId}(hs:P.cellsOf e=(bp P e).length)
  (ih:∀cs x,rd cs=some x→∃xs,ug P w (bp P e) cs xs):∀(n:Nat),
  (∀i,i<n→∃x,rd ((cs.drop (i*P.cellsOf e)).take (P.cellsOf e))=some x)→∃xs,ug P w (List.replicate n (bp P e)).flatten (cs.take (n*P.cellsOf e)) xs
 |0,_=>⟨[],by simp,rfl,by simp⟩
 |n+1,hx=>by
  obtain⟨xs,nk⟩:=ahT cs hs ih n fun i hi=>hx i (by omega);obtain⟨x,oO⟩:=hx n (by omega);obtain⟨ys,zA⟩:=ih _ _ oO;refine⟨xs++ys,?_⟩;rw[List.replicate_succ',List.flatten_append];have:=nk.app zA;rw[nW,Nat.one_mul,List.take_add];simpa using this
theorem RE(hL:KF P L=true):∀(fuel:Nat) (t:TypeId) (cs:List Value) (x:DataW H×List MemPlace),t∈L→DataW.trod enc P w base spare held fuel t cs=some x→
  ∃xs,ug P w (bp P t) cs xs
 |0,_,_,_,_,h=>by cases h
 |fuel+1,t,cs,x,ht,h=>by
  have hg:=jk.1 hL t ht;unfold Yf at hg;rw[bc,bU]at hg;obtain⟨hc,hg⟩:=hg;have one:cR P t=false→bp P t=[t]:=fun h=>by simp[bp,h]
  cases hu:P.underlying t with
  |none=>rw[hu]at hg;cases hg
  |some d=>
   rw[hu]at hg;cases d with
   |int k=>
    obtain⟨n,rfl,rfl,Bo⟩:=DataW.trod_int hu h;rw[one (by simp[cR,hu])];exact⟨[.int k n],rfl,rfl,fun j t' hj=>by
     cases j with
     |zero=>cases hj;exact⟨_,_,rfl,rfl,.int hu,.int hu Bo⟩
     |succ j=>simp at hj⟩
   |bool=>
    obtain⟨b,rfl,rfl⟩:=DataW.trod_bool hu h;rw[one (by simp[cR,hu])];exact⟨[.bool b],rfl,rfl,fun j t' hj=>by
     cases j with
     |zero=>cases hj;exact⟨_,_,rfl,rfl,.bool hu,.bool hu⟩
     |succ j=>simp at hj⟩
   |string=>
    obtain⟨s,rfl,rfl,hl⟩:=DataW.trod_string hu h;rw[one (by simp[cR,hu])];exact⟨[.str s.data.toList],rfl,rfl,fun j t' hj=>by
     cases j with
     |zero=>cases hj;exact⟨_,_,rfl,rfl,.str hu rfl,.str hu (by simpa using hl)⟩
     |succ j=>simp at hj⟩
   |slice e=>
    simp only[bc]at hg;obtain⟨he,aD⟩:=hg;rw[one (by simp[cR,hu])];have single:∀v y,cs=[v]→Pure P w (rR w) t v y→WT P t y→∃xs,ug P w [t] cs xs:=by
     rintro v y rfl a b;exact⟨[y],rfl,rfl,fun j t' hj=>by
      cases j with
      |zero=>cases hj;exact⟨_,_,rfl,rfl,a,b⟩
      |succ j=>simp at hj⟩
    rcases DataW.trod_slice hu h with⟨rfl,rfl⟩|⟨a,len,cap,elems,rest,n,hn,rfl,rfl,hb,hl,hm,hlen,gF,_,_⟩
    ·exact single _ _ rfl (.nil hu) (.list hu (by simp) (by simp) (by simp))
    ·cases hn;have ka:=(pY aD).2;have agc:P.cellsOf e=(bp P e).length:=(gP aD).symm;have key:∀i,i<len→∃nL xs,w.cells? base (a.add (i*P.cellsOf e)) (P.cellsOf e)=some nL∧ug P w (bp P e) nL xs:=by
      intro i hi;have h1:=gF i hi;rw[cv (by omega)]at h1;obtain⟨nL,h2,h3⟩:=Option.bind_eq_some_iff.1 h1;obtain⟨xs,nk⟩:=RE hL fuel e nL _ (RD he) h3;exact⟨nL,xs,h2,nk⟩
     by_cases h0:len=0
     ·subst h0;exact single _ _ rfl (.emp hu) (.list hu (by simp) (by simp) (by simp))
     ·have vA:a.spot=none∧a.block<w.heap.size:=by
       obtain⟨nL,xs,h2,_⟩:=key 0 (by omega);obtain⟨_,h3,h4⟩:=World.cells?_some h2;have h5:=h4 0 ka;rw[cv (by omega)]at h5;have:=arX h5;simpa[Addr.add]using this
      have hF:∃(F:Nat→List Value) (X:Nat→List V),∀i,i<len→w.cells? base (a.add (i*P.cellsOf e)) (P.cellsOf e)=some (F i)∧ug P w (bp P e) (F i) (X i):=by
       refine⟨fun i=>if hi:i<len then(key i hi).choose else [],fun i=>if hi:i<len then(key i hi).choose_spec.choose else [],fun i hi=> ?_⟩;simp only[dif_pos hi];exact(key i hi).choose_spec.choose_spec
      obtain⟨F,X,Yh⟩:=hF;have hx:∀(i j:Nat) y t',((List.range len).map fun i=>dY P e (X i))[i]? =some y→(bp P e)[j]? =some t'→i<len∧∃v,(F i)[j]? =some v∧Pure P w (rR w) t' v (cW P e y j)∧WT P t' (cW P e y j):=by
       intro i j y t' hy hj;have hi:i<len:=by
        have:=(cP.1 hy).1;simpa using this
       refine⟨hi,?_⟩;simp[PY hi]at hy;obtain⟨c1,c2,c3⟩:=(Yh i hi).2;obtain⟨v,z,d1,d2,d3,d4⟩:=c3 j t' hj;have:cW P e y j=z:=by
        rw[←hy];unfold cW dY;cases ha:cR P e with
        |true=>
         simp only[cond_true,V.cell];rw[Dg _ _ _ d2]
        |false=>
         simp only[cond_false];have:bp P e=[e]:=by simp[bp,ha]
         rw[this]at hj;cases j with
         |zero=>rw[Dg _ _ _ d2]
         |succ j=>simp at hj
       rw[this];exact⟨v,d1,d3,d4⟩
      have iP:∀i j,i<len→j<P.cellsOf e→w.cell? ⟨a.block,a.off+(i*P.cellsOf e+j),none⟩=some ((F i).getD j undef):=by
       intro i j hi hj;obtain⟨h1,h2⟩:=Yh i hi;obtain⟨_,h3,h4⟩:=World.cells?_some h1;have h5:=h4 j hj;rw[Go.Deep.add_add]at h5;have e1:a.add (i*P.cellsOf e+j)=⟨a.block,a.off+(i*P.cellsOf e+j),none⟩:=by
        obtain⟨b,o,s⟩:=a;simp only at vA;rw[vA.1];exact rK ..
       rw[e1]at h5;rw[h5,Fw,cv (by omega)];rfl
      have ha:a=⟨a.block,a.off,none⟩:=by
       obtain⟨b,o,s⟩:=a;simp only at vA;rw[vA.1]
      refine single (.slice (some a) len cap) (.list e ((List.range len).map fun i=>dY P e (X i))) rfl ?_ ?_
      ·rw[ha];refine .list (fun i j=>(F i).getD j undef) hu (by simp) hl (fun _ _=>vA.2) iP ?_;intro i j y t' hy hj;obtain⟨hi,v,d1,d2,_⟩:=hx i j y t' hy hj;rw[Fw,d1];exact d2
      ·refine .list hu (by simp;omega) ?_ ?_
       ·intro i y hy RF;have hi:i<len:=by
         have:=(cP.1 hy).1;simpa using this
        simp[PY hi]at hy;rw[←hy];exact⟨X i,by simp[dY,RF],(Yh i hi).2.2.1⟩
       ·intro i j y t' hy hj;obtain⟨_,v,_,_,d3⟩:=hx i j y t' hy hj;exact d3
   |struct fs=>
    simp only[bc]at hg;obtain⟨xs,n,hn,rfl,hlen,sN,hx⟩:=DataW.trod_struct hu h;cases hn;have het:bp P t=fs.toList.flatMap fun f=>bp P f.type:=by
     rw[←Yg hg.2];simp[bp,cR,hu]
    obtain⟨m,ys,_,zA,hm⟩:=ahS (w:=w) (rd:=fun t cs=>DataW.trod enc P w base spare held fuel t cs) cs (fun t cs x a b=>RE hL fuel t cs x a b) fs.toList 0 hg.1 (by
     intro f hf;obtain⟨i,hi⟩:=wI hf;rw[u5]at hi;have gk:i<fs.size:=(AD.1 hi).1;exact⟨_,(hx i f hi).trans (cv (by omega))⟩)
    rw[het];refine⟨ys,?_⟩;have:(cs.drop 0).take (m-0)=cs:=by
     rw[wF,hm,←het,←hc,←hlen,tH]
    rw[this]at zA;exact zA
   |array n e=>
    simp only[bc,bU]at hg;obtain⟨xs,m,hn,rfl,hlen,sN,hx⟩:=DataW.trod_array hu h;cases hn;have het:bp P t=(List.replicate n (bp P e)).flatten:=by
     rw[←Yg hg.2.2];simp[bp,cR,hu]
    obtain⟨ys,zA⟩:=ahT (w:=w) (rd:=DataW.trod enc P w base spare held fuel e) cs hg.2.1 (fun cs x b=>RE hL fuel e cs x (RD hg.1) b) n (by
     intro i hi;exact⟨_,(hx i hi).trans (cv (by omega))⟩)
    rw[het];refine⟨ys,?_⟩;have:cs.take (n*P.cellsOf e)=cs:=by
     have:n*P.cellsOf e=cs.length:=by
      rw[hlen,hc,het,hg.2.1];simp
     rw[this,tH]
    rw[this]at zA;exact zA
   |_=>cases hg
end
section
variable {P:Program}{H:Type}{enc:TypeId×Value→H}{w:World}{L:List TypeId}
theorem arY{base Yi:Nat}{spare:Nat→Bool}{held:Bool}{r:Reach}{β:Nat→Option Nat}{hp:Nat→Option ag}(hL:KF P L=true){t:TypeId}{v:Value}{d:DataW H}{ps:List MemPlace}(ht:t∈L)(lQ:Value.okWide P w r Yi t v)
  (h:DataW.Trod enc P w base spare held t v d ps):∃x,ah P w (rR w) β hp v x∧py P t x:=by
 obtain⟨fuel,hf⟩:=h;obtain⟨xs,c1,c2,c3⟩:=RE hL fuel t _ _ ht hf;have hg:=jk.1 hL t ht;unfold Yf at hg;rw[bc,bU]at hg;obtain⟨_,hg⟩:=hg;have RF:cR P t=true→∃x,ah P w (rR w) β hp v x∧py P t x:=by
  intro ha;have hv:∃cs,v= .agg cs:=by
   unfold Value.okWide at lQ;unfold cR at ha;grind
  obtain⟨cs,rfl⟩:=hv;refine⟨.agg xs,.agg (by simpa[Value.cells]using c1.trans c2.symm) fun j v x hv hx=> ?_,fun _=>⟨xs,rfl,c2⟩,fun j t' hj=> ?_⟩
  ·have hj:j<(bp P t).length:=by grind
   obtain⟨v',y,e1,e2,e3,_⟩:=c3 j _ (cv hj);rw[hx]at e2;cases e2;have:cs[j]? =some v':=by simpa[Value.cells]using e1
   rw[hv]at this;cases this;exact .vk e3
  ·obtain⟨v',y,e1,e2,_,e4⟩:=c3 j t' hj;have:cW P t (.agg xs) j=y:=by
    simp only[cW,ha,cond_true,V.cell];exact Dg _ _ _ e2
   grind
 have vu:cR P t=false→v.cells= #[v]→∃x,ah P w (rR w) β hp v x∧py P t x:=by
  intro ha Dn;have he:bp P t=[t]:=by simp[bp,ha]
  rw[he]at c1 c2 c3;obtain⟨v',y,e1,e2,e3,e4⟩:=c3 0 t rfl;rw[Dn]at e1;cases e1;refine⟨y,.vk e3,⟨fun h=>absurd (ha.symm.trans h) (by simp),fun j t' hj=> ?_⟩⟩;rw[he]at hj;cases j with
  |succ j=>simp at hj
  |zero=>
   cases hj;simpa[cW,ha]using e4
 unfold Value.okWide at lQ;cases hu:P.underlying t with
 |none=>grind
 |some dsc=>
  rw[hu]at hg lQ;cases dsc with
  |int k=>
   refine vu (by simp[cR,hu]) ?_;simp only[Cell.okWide,Cell.ok,hu]at lQ;cases v<;>first|rfl|(simp at lQ;done)|exact lQ.elim
  |bool=>
   refine vu (by simp[cR,hu]) ?_;simp only[Cell.okWide,Cell.ok,hu]at lQ;cases v<;>first|rfl|(simp at lQ;done)|exact lQ.elim
  |string=>
   refine vu (by simp[cR,hu]) ?_;simp only[Cell.okWide,Cell.ok,hu]at lQ;cases v<;>first|rfl|(simp at lQ;done)|exact lQ.elim
  |slice e=>
   refine vu (by simp[cR,hu]) ?_;simp only[Cell.okWide,Cell.ok,hu]at lQ;cases v<;>first|rfl|(simp at lQ;done)|exact lQ.elim
  |struct fs=>exact RF (by simp[cR,hu])
  |array n e=>exact RF (by simp[cR,hu])
  |_=>cases hg
theorem ahU{base Yi:Nat}{spare:Nat→Bool}{held:Bool}{r:Reach}{β:Nat→Option Nat}{hp:Nat→Option ag}(hL:KF P L=true):∀{ts:List TypeId} {vs:List Value} {ds:List (DataW H)} {ps:List MemPlace},
  (∀t∈ts,t∈L)→(∀(j:Nat) t v,ts[j]? =some t→vs[j]? =some v→Value.okWide P w r Yi t v)→DataW.TrodAll enc P w base spare held ts vs ds ps→
  ∃xs,vs.length=xs.length∧(∀(j:Nat) v x,vs[j]? =some v→xs[j]? =some x→ah P w (rR w) β hp v x)∧yI P ts xs
 | [],vs,ds,ps,_,_,h=>by
  obtain⟨rfl,rfl,rfl⟩:=trodAll_nil h;exact⟨[],rfl,by simp,trivial⟩
 |t::ts,vs,ds,ps,hm,lQ,h=>by
  obtain⟨v,AT,d,ds1,a,b,rfl,rfl,rfl,h1,h2⟩:=trodAll_cons h;obtain⟨x,oO,nj⟩:=arY (β:=β) (hp:=hp) hL (hm t (by simp)) (lQ 0 t v rfl rfl) h1;obtain⟨xs,hl,hr,hw⟩:=ahU (β:=β) (hp:=hp) hL (fun t ht=>hm t (by simp[ht])) (fun j t v a b=>lQ (j+1) t v (by grind) (by grind)) h2;refine⟨x::xs,by simp[hl],fun j v' x' hv hx=> ?_,nj,hw⟩;grind
theorem ahV{base:Nat}{spare:Nat→Bool}{held:Bool}:∀{ts:List TypeId} {vs:List Value} {ds:List (DataW H)} {ps:List MemPlace},DataW.TrodAll enc P w base spare held ts vs ds ps→ds.length=ts.length
 | [],vs,ds,ps,h=>by obtain⟨rfl,rfl,rfl⟩:=trodAll_nil h;rfl
 |t::ts,vs,ds,ps,h=>by
  obtain⟨v,AT,d,ds1,a,b,rfl,rfl,rfl,h1,h2⟩:=trodAll_cons h;simp[ahV h2]
theorem ahW{base:Nat}(hl:laidOutB P=true){W W':World}{sp':Nat→Bool}:∀{ts:List TypeId} {vs:List Value} {ds:List (DataW H)} {ps:List MemPlace},(∀t∈ts,P.readableRec t=true∧t<P.types.size)→
  DataW.TrodAll enc P W base (fun _=>true) true ts vs ds ps→(∀p∈ps,W.sameAt W' p)→(∀p∈ps,sp' p.block=true)→DataW.TrodAll enc P W' base sp' true ts vs ds ps
 | [],vs,ds,ps,_,h,_,_=>by obtain⟨rfl,rfl,rfl⟩:=trodAll_nil h;exact trodAll_mk0
 |t::ts,vs,ds,ps,hr,h,h1,h2=>by
  obtain⟨v,AT,d,ds1,a,b,rfl,rfl,rfl,h3,h4⟩:=trodAll_cons h;obtain⟨r1,r2⟩:=hr t (by simp);exact trodAll_cons_mk (WideElems.Trod_stays hl r1 r2 h3 (fun p hp=>h1 p (by simp[hp])) (fun p hp=>h2 p (by simp[hp])))
   (ahW hl (fun t ht=>hr t (by simp[ht])) h4 (fun p hp=>h1 p (by simp[hp])) (fun p hp=>h2 p (by simp[hp])))
theorem arZ{f:Func}{s:ChangeSpec}{apart fresh handsOn again:Bool}{W W':World}{args:Array Value}{v:Value}{ds gs:List (DataW H)}{before pa pv:List MemPlace}
  (hW:DataW.Whole enc P f.params.toList s.vars apart W args.toList ds gs before)
  (ahX:∀(b:Nat) (sp:Nat→Bool) (hd:Bool),DataW.TrodAll enc P W' b sp hd f.resultTypes.toList (v.resultList f.resultTypes.size) (s.fn H (ds++gs)).results [])
  (DI:∀sp:Nat→Bool,(∀p∈before,sp p.block=true)→DataW.TrodAll enc P W' 0 sp true f.params.toList args.toList (s.fn H (ds++gs)).args pa)
  (ahY:∀sp:Nat→Bool,(∀p∈before,sp p.block=true)→DataW.TrodVars enc P W' sp s.vars (s.fn H (ds++gs)).vars pv)
  (hps:before=pa++pv) (hk:W.keptBut W' (· ∈before)) (Gl:∀a:Addr,a.block<W.heap.size→W'.frozen? a=W.frozen? a)
  (aD:∀(j:Nat) (t:TypeId) (r:Value),f.resultTypes[j]? =some t→(v.resultList f.resultTypes.size)[j]? =some r→Value.okWide P W' .any 0 t r):
  s.post enc P f apart fresh handsOn again W args v W':=by
 have hold:∀p∈before,(fun b=>decide (b<W.heap.size)) p.block=true:=fun p hp=>by simpa using hW.lt p hp
 refine⟨ds,gs,before,[],pa,pv,hW,ahX _ _ _,DI _ hold,ahY _ hold,World.keptBut_mono (fun p hp=>⟨hp,?_⟩) hk,fun _=> ?_⟩
 ·grind
 ·have bO:=hW.lt;obtain⟨_,_,_,_,_,hz,hn⟩:=hW;refine⟨aD,_,_,([]++pa)++pv,⟨[]++pa,pv,trodAll_append (DI _ (fun _ _=>rfl)) (ahX _ _ _),ahY _ (fun _ _=>rfl),rfl,?_,?_⟩,?_⟩
  ·intro b off hp;have hb:MemPlace.cell b off∈before:=by grind
   rw[Gl ⟨b,off,none⟩ (bO _ hb)];exact hz b off hb
  all_goals grind
theorem ar0{A:dM}(hP:nO P A)(uf:P.follows .mixedOrders=true){f key:Nat}{fn:Func}{tb:TypeId}{s:ChangeSpec}{apart fresh handsOn again:Bool}
  (hf:P.funcs[f]? =some fn) (Yj:A.mn key=f) (hL:KF P L=true) (gj:fn.params.toList.all (fun t=>hasB L t)=true) (RG:fn.resultTypes= #[tb]) (Gt:P.underlying tb=some .bool) (DG:s.vars=[])
  (hs:∀ds:List (DataW H),ds.length=fn.params.toList.length→s.fn H ds={results:=[.lit (.bool true)],args:=ds})
  (Yk:laidOutB P=true) (Yl:fn.params.toList.all (fun t=>P.readableRec t&&Nat.blt t P.types.size)=true)
  (oM:(A.sin key).dI=[]) (aD:((A.sin key).cY.map (·.2)).all (VS.ok 0)=true) (Ym:(A.kI key).cY=[(0,.one .bool)]) (halt:A.alt key=none)
  {W:World} {base:Nat} {args:Array Value} {ds gs:List (DataW H)} {before:List MemPlace}
  (Yn:nh P A.aV W (rR W)) (lQ:∀(j:Nat) t v,fn.params[j]? =some t→args[j]? =some v→Value.okWide P W .any base t v)
  (hW:DataW.Whole enc P fn.params.toList s.vars apart W args.toList ds gs before) (Q:List V→Prop)
  (hQ:∀xs:List V,yI P fn.params.toList xs→(∀(j:Nat) v x,args.toList[j]? =some v→xs[j]? =some x→ah P W (rR W) (fun _=>none) (fun _=>none) v x)→Q xs)
  (Yo:∀xs,yI P fn.params.toList xs→Q xs→∃ds,yJ ((A.sin key).cY.map (·.2)) xs=some ds∧Call P A key ds=some [.bool true]):
  Calls P f args W fun e W'=> ∃v,e= .returned v∧s.post enc P fn apart fresh handsOn again W args v W':=by
 have hW0:=hW;obtain⟨p,q,hA,hV,rfl,Gl,kf⟩:=hW;rw[DG]at hV;obtain⟨hgs,hq⟩:gs=[]∧q=[]:=by
  cases gs with
  |nil=>exact⟨rfl,hV⟩
  |cons g gs=>exact hV.elim
 subst hgs;subst hq;obtain⟨xs,hl,hr,hwt⟩:=ahU (β:=fun _=>none) (hp:=fun _=>none) hL (fun t ht=>RD (jk.1 gj t ht)) (fun j t v a b=>lQ j t v (by grind) (by grind)) hA;obtain⟨ls,KG,Ks⟩:=Yo xs hwt (hQ xs hwt hr);obtain⟨fn',c,h1,h2,h3⟩:=arT (A:=A) hP uf key ls [.bool true] Ks;rw[Yj]at h1 h3;rw[hf]at h1;cases h1;have ahI:∀j,(cG (A.sin key) ls).hp j=none:=fun j=>by simp[cG,mk,oM,jC,pd]
 obtain⟨_,r1,r2⟩:=Kg (P:=P) (w:=W) (I:=rR W) (n:=0) (β:=fun _=>none) (β':=fun _=>none) (hp:=fun _=>none) (hp':=(cG (A.sin key) ls).hp) (fun j hj=>absurd hj (Nat.not_lt_zero j)) KG aD;have hlen:((A.sin key).cY.map (·.2)).length=xs.length:=by rw[←r1 [],Yc]
 have h4:=h3 W (rR W) (fun _=>none) args.toList ⟨fun id blk h=>(by grind),fun id aA blk blk' b h=>(by grind),fun id blk b h=>(by grind),fun b j h=>h⟩ Yn
  (by grind) (fun j v y hv hy=>r2 [] j v y (fun x hx=>hr j v x hv hx) (by grind))
 have ea:args.toList.toArray=args:=by simp
 rw[ea]at h4;refine h4.mono fun e W' ⟨v,I2,dn,he,ha⟩=>⟨v,he,?_⟩
 have A8:∀b,b<W.heap.size→W'.heap[b]? =W.heap[b]? :=fun b hb=>ha.Gg.dF b hb (by rintro⟨j,blk,hj,_⟩;grind);have Dv:=ha.res;have hso:A.so key [.bool true]=A.kI key∧A.lv key [.bool true]=[.bool true]:=by unfold dM.so dM.lv;grind
 rw[hso.1,hso.2,Ym]at Dv;obtain rfl:v= .bool true:=Dv.qD;have qH:Value.okWide P W' .any 0 tb (.bool true):=by simp[Value.okWide,Gt,Cell.okWide,Cell.ok]
 have wE:ds.length=fn.params.toList.length:=ahV hA;have mP:∀p'∈p++[],W.sameAt W' p':=by
  intro p' hp';have bO:=hW0.lt p' hp';cases p' with
  |cell b o=>exact World.cell?_of_block (w:=W) (A8 b bO)
  |map b=>exact A8 b bO
 refine arZ (pa:=p) (pv:=[]) hW0 ?_ ?_ ?_ rfl ?_ ?_ ?_
 ·intro b sp hd;rw[uZ,hs ds wE,RG];exact trodAll_mk1 ⟨1,by simp[DataW.trod,Value.cells,Gt]⟩
 ·intro sp vA;rw[uZ,hs ds wE];refine ahW Yk (fun t ht=> ?_) hA (fun p' hp'=>mP p' (by grind)) (fun p' hp'=>vA p' (by grind));have:=jk.1 Yl t ht;simp_all
 ·intro sp vA;rw[DG,uZ,hs ds wE];exact rfl
 ·refine⟨ha.Gg.io.1,ha.Gg.io.2,fun i hi=> ?_⟩;grind
 ·intro a bO;exact World.frozen?_of_block (w:=W) (A8 a.block bO)
 ·intro j t r hj RH;rw[RG]at hj RH;cases j with
  |zero=>
   simp[Value.resultList]at hj RH;grind
  |succ j=>simp at hj
theorem aoX{A:dM}(hP:nO P A)(uf:P.follows .mixedOrders=true){f key:Nat}{fn:Func}{tb:TypeId}{s:ChangeSpec}{apart fresh handsOn again:Bool}
  (hf:P.funcs[f]? =some fn) (Yj:A.mn key=f) (hL:KF P L=true) (gj:fn.params.toList.all (fun t=>hasB L t)=true) (RG:fn.resultTypes= #[tb]) (Gt:P.underlying tb=some .bool) (DG:s.vars=[])
  (hs:∀ds:List (DataW H),ds.length=fn.params.toList.length→s.fn H ds={results:=[.lit (.bool true)],args:=ds})
  (Yk:laidOutB P=true) (Yl:fn.params.toList.all (fun t=>P.readableRec t&&Nat.blt t P.types.size)=true)
  (oM:(A.sin key).dI=[]) (aD:((A.sin key).cY.map (·.2)).all (VS.ok 0)=true) (Ym:(A.kI key).cY=[(0,.one .bool)]) (halt:A.alt key=none)
  (Yo:∀xs,yI P fn.params.toList xs→∃ds,yJ ((A.sin key).cY.map (·.2)) xs=some ds∧Call P A key ds=some [.bool true])
  {W:World} {base:Nat} {args:Array Value} {ds gs:List (DataW H)} {before:List MemPlace}
  (Yn:nh P A.aV W (rR W)) (lQ:∀(j:Nat) t v,fn.params[j]? =some t→args[j]? =some v→Value.okWide P W .any base t v)
  (hW:DataW.Whole enc P fn.params.toList s.vars apart W args.toList ds gs before):
  Calls P f args W fun e W'=> ∃v,e= .returned v∧s.post enc P fn apart fresh handsOn again W args v W':=
 ar0 hP uf hf Yj hL gj RG Gt DG hs Yk Yl oM aD Ym halt Yn lQ hW (fun _=>True) (fun _ _ _=>trivial) fun xs h _=>Yo xs h
end
end Go.AM
namespace Go.AM
open Go.IntKind (wrap)
@[simp] theorem V.toInt_int (k:IntKind) (n:Int):V.toInt (.int k n)=n:=by cases k<;>rfl
@[simp] theorem V.Yp (b:Bool):V.toBool (.bool b)=b:=by cases b<;>rfl
@[simp] theorem V.aIF (s:List UInt8):V.toStr (.str s)=s:=by cases s<;>rfl
@[simp] theorem V.fa (e:TypeId) (es:List V):V.toList (.list e es)=es:=by cases es<;>rfl
@[simp] theorem V.aIG (e:TypeId) (es:List V):V.toList (.own e es)=es:=by cases es<;>rfl
@[simp] theorem V.ar1 (cs:List V) (j:Nat):V.cell (.agg cs) j=V.nth cs j:=by cases cs<;>rfl
@[simp] theorem V.aIH (cs:List V) (j:Nat):V.comp (.bN cs) j=V.nth cs j:=by cases cs<;>rfl
@[simp] theorem V.jE (x:V) (l:List V):V.nth (x::l) 0=x:=by cases l<;>rfl
@[simp] theorem V.aII (x:V) (l:List V) (n:Nat):V.nth (x::l) (n+1)=V.nth l n:=by cases l<;>rfl
@[simp] theorem V.aIJ (x y:V) (l:List V):V.nth (x::y::l) 1=y:=by cases l<;>rfl
@[simp] theorem V.aIK (x y z:V) (l:List V):V.nth (x::y::z::l) 2=z:=by cases l<;>rfl
@[simp] theorem V.aIL (x y z u:V) (l:List V):V.nth (x::y::z::u::l) 3=u:=by cases l<;>rfl
theorem wrap64{x:Int}(h1: -9223372036854775808≤x)(h2:x<9223372036854775808):wrap .i64 x=x:=by
 rw[IntKind.wrap_i64];omega
theorem uh{x:Int}(h1: -9223372036854775808≤x:=by omega)(h2:x<9223372036854775808:=by omega):wrap .i64 x=x:=wrap64 h1 h2
theorem ahZ{x:Int}(h1:0≤x)(h2:x<256):wrap .u8 x=x:=by
 rw[IntKind.wrap_u8];omega
theorem zB{es:List V}{i:Int}{n:Nat}(h:i=n):idx es i=es[n]? :=by
 subst h;simp[idx]
@[simp] theorem Yq (es:List V) (n:Nat):idx es (n:Int)=es[n]? :=by simp[idx]
section
variable {X R:Type}{step:X→Option (X ⊕ R)}
theorem ah0(Inv:X→Prop)(μ:X→Nat)(Q:R→Prop)
  (h:∀x,Inv x→(∃y,step x=some (.inl y)∧Inv y∧μ y<μ x)∨∃r,step x=some (.inr r)∧Q r):
  ∀x,Inv x→∃r,Loop step x=some r∧Q r:=by
 intro x
 induction hm:μ x using Nat.strongRecOn generalizing x with
 |ind m ih=>
  intro hx;rcases h x hx with⟨y,h1,h2,h3⟩|⟨r,h1,h2⟩
  ·obtain⟨r,h4,h5⟩:=ih (μ y) (by omega) y rfl h2;exact⟨r,(kY h1).trans h4,h5⟩
  ·exact⟨r,lS h1,h2⟩
theorem ar2(s:Nat→X)(n:Nat){r:R}(h:∀i,i<n→step (s i)=some (.inl (s (i+1))))(he:step (s n)=some (.inr r)):Loop step (s 0)=some r:=by
 induction n generalizing s with
 |zero=>exact lS he
 |succ n ih=>
  rw[kY (h 0 (by omega))];exact ih (fun i=>s (i+1)) (fun i hi=>h (i+1) (by omega)) he
end
@[simp] theorem xI {α:Type} (p:Prop) [Decidable p] (a b:α):(bif decide p then a else b)=if p then a else b:=by by_cases h:p<;>simp[h]
@[simp] theorem aIM {α:Type} (m n:Int) (a b:α):(bif m==n then a else b)=if m=n then a else b:=by
 by_cases h:m=n
 ·simp[h]
 ·have:(m==n)=false:=by simp[h]
  rw[this,aM h];rfl
@[simp] theorem ah1 {α:Type} (m n:Int) (a b:α):(bif m != n then a else b)=if m=n then b else a:=by
 by_cases h:m=n
 ·simp[h]
 ·have:(m != n)=true:=by simp[h]
  rw[this,aM h];rfl
@[simp] theorem aIN {α:Type} (c:Bool) (a b:α):(bif !c then a else b)=bif c then b else a:=by cases c<;>rfl
@[simp] theorem aIO {α:Type} (m n:Nat) (a b:α):(bif Nat.ble m n then a else b)=if m≤n then a else b:=by
 cases hb:Nat.ble m n with
 |true=>rw[aP (Nat.le_of_ble_eq_true hb)];rfl
 |false=>
  rw[aM fun h=> ?_]
  ·rfl
  ·rw[AF h]at hb;cases hb
@[simp] theorem aIP {α:Type} (c d:Bool) (a b:α):(bif c&&d then a else b)=bif c then(bif d then a else b)else b:=by cases c<;>rfl
section
variable {P:Program}
def ah2 (P : Program) : Bool := P.funcs.all fun fn => !(fn.name == "runtime.NumGoroutine")
theorem ar3(h:ah2 P=true):DF P:=by
 intro f fn hf;unfold ah2 at h;have:=(Array.all_eq_true_iff_forall_mem.1 h) fn (Array.mem_of_getElem? hf);simpa using this
theorem ae1{t:TypeId}{ts:List TypeId}{xs:List V}(h:yI P (t::ts) xs):∃x ys,xs=x::ys∧py P t x∧yI P ts ys:=by
 cases xs with
 |nil=>exact h.elim
 |cons x ys=>exact⟨x,ys,rfl,h.1,h.2⟩
theorem aoT{xs:List V}(h:yI P [] xs):xs=[]:=by
 cases xs with
 |nil=>rfl
 |cons x ys=>exact h.elim
theorem py.one{t:TypeId}{x:V}(ha:cR P t=false)(h:py P t x):WT P t x:=by
 have he:bp P t=[t]:=by simp[bp,ha]
 have:=h.2 0 t (by rw[he];rfl);simpa[cW,ha]using this
theorem WT.jP{t:TypeId}{k:IntKind}{x:V}(hu:P.underlying t=some (.int k))(h:WT P t x):∃n,x= .int k n∧k.min≤n∧n≤k.max:=by
 cases h with
 |int h1 h2=>
  rw[hu]at h1;cases h1;simp only[Lit.wf,bc,il]at h2;exact⟨_,rfl,h2⟩
 |bool h1=>rw[hu]at h1;cases h1
 |str h1=>rw[hu]at h1;cases h1
 |list h1=>rw[hu]at h1;cases h1
theorem WT.qD{t:TypeId}{x:V}(hu:P.underlying t=some .bool)(h:WT P t x):∃b,x= .bool b:=by
 cases h with
 |int h1=>rw[hu]at h1;cases h1
 |bool h1=>exact⟨_,rfl⟩
 |str h1=>rw[hu]at h1;cases h1
 |list h1=>rw[hu]at h1;cases h1
theorem WT.tT{t:TypeId}{x:V}(hu:P.underlying t=some .string)(h:WT P t x):∃s,x= .str s∧s.length≤maxLen:=by
 cases h with
 |int h1=>rw[hu]at h1;cases h1
 |bool h1=>rw[hu]at h1;cases h1
 |str h1 h2=>exact⟨_,rfl,h2⟩
 |list h1=>rw[hu]at h1;cases h1
theorem WT.ar4{t e:TypeId}{x:V}(hu:P.underlying t=some (.slice e))(h:WT P t x):∃es,x= .list e es∧es.length≤maxLen∧∀y∈es,py P e y:=by
 cases h with
 |int h1=>rw[hu]at h1;cases h1
 |bool h1=>rw[hu]at h1;cases h1
 |str h1=>rw[hu]at h1;cases h1
 |list h1 h2 h3 h4=>
  rw[hu]at h1;cases h1;refine⟨_,rfl,h2,fun y hy=> ?_⟩;obtain⟨i,hi⟩:=wI hy;exact⟨h3 i y hi,fun j t' hj=>h4 i j y t' hi hj⟩
theorem py.qE{t:TypeId}{x:V}(ha:cR P t=true)(h:py P t x):∃xs,x= .agg xs∧xs.length=(bp P t).length∧∀(j:Nat) t' y,(bp P t)[j]? =some t'→xs[j]? =some y→WT P t' y:=by
 obtain⟨xs,rfl,hl⟩:=h.1 ha;refine⟨xs,rfl,hl,fun j t' y hj hy=> ?_⟩;have:=h.2 j t' hj;simp only[cW,ha,cond_true,V.ar1]at this;rw[Dg _ _ _ hy]at this;exact this
theorem ah3{α:Type}{f:α→V}{p:α→Prop}:∀{es:List V},(∀y∈es,∃a,y=f a∧p a)→∃l:List α,es=l.map f∧∀a∈l,p a
 | [],_=>⟨[],rfl,by simp⟩
 |y::es,h=>by
  obtain⟨a,rfl,ha⟩:=h y (by simp);obtain⟨l,rfl,hl⟩:=ah3 (f:=f) (p:=p) (es:=es) fun z hz=>h z (by simp[hz]);exact⟨a::l,rfl,by
   intro b hb;rcases kC.1 hb with rfl|hb
   ·exact ha
   ·exact hl b hb⟩
theorem py.int{t:TypeId}{x:V}(hu:P.underlying t=some (.int .i64))(h:py P t x):∃n,x= .int .i64 n∧IntKind.min .i64≤n∧n≤IntKind.max .i64:=
 (h.one (by simp[cR,hu])).jP hu
theorem py.str{t:TypeId}{x:V}(hu:P.underlying t=some .string)(h:py P t x):∃s,x= .str s∧s.length≤maxLen:=
 (h.one (by simp[cR,hu])).tT hu
end
def un.{u}{A B:Type}{γ:Sort u}(f:A→B→γ)(p:A×B):γ:=f p.1 p.2
def gZ{A B γ:Type}(f:A→γ)(g:B→γ):A ⊕ B→γ
 | .inl a=>f a
 | .inr b=>g b
def zC:List Nat→Code→Code
 | [],c=>c
 |0::p,.seq a _=>zC p a
 |_::p,.seq _ b=>zC p b
 |0::p,.cond _ a _=>zC p a
 |_::p,.cond _ _ b=>zC p b
 |_::p,.block _ c=>zC p c
 |_::p,.loop c=>zC p c
 |_,c=>c
inductive rS where
 |loop (c:Code)
 |cond (t:Nat) (x y:Code)
section
variable (P:Program)(A:dM)(C:af)(L:da)(f n m:Nat)
def uj:Code→List rS
 | .seq a b=>uj a++uj b
 | .cond (.tmp t) x y=>
  match A.oa f (t*16+15)with
  |none=>uj x++uj y
  |some _=>[.cond t x y]
 | .cond (.const _) x y=>uj x++uj y
 | .block _ c=>uj c
 | .loop c=>[.loop c]
 |_=>[]
def xJ:rS→Prop
 | .loop c=>
  match A.oa f (keyOf c+1)with
  |none=>True
  |some S=> ∀(β:Type) ds (k:Nat→List V→Option β),L β (keyOf c+1) ds k=(Loop (stepG P A C f n m S c) ds).bind fun r=>k r.1 r.2
 | .cond t x y=>
  match A.oa f (t*16+15)with
  |none=>True
  |some S=> ∀(β:Type) ds (k:Nat→List V→Option β),L β (t*16+15) ds k=(Jv P A C f n m t S x y ds).bind fun r=>k r.1 r.2
def rT:List rS→Prop
 | []=>True
 |b::l=>xJ P A C L f n m b∧rT l
variable {P A C L f n m}
theorem rT.left{a b:List rS}:rT P A C L f n m (a++b)→rT P A C L f n m a:=by
 induction a with
 |nil=>exact fun _=>trivial
 |cons x a ih=>exact fun h=>⟨h.1,ih h.2⟩
theorem rT.right{a b:List rS}:rT P A C L f n m (a++b)→rT P A C L f n m b:=by
 induction a with
 |nil=>exact fun h=>h
 |cons x a ih=>exact fun h=>ih h.2
theorem ah4:∀{c:Code} {bs:List rS},uj A f c=bs→rT P A C L f n m bs→mZ P A C L f n m c:=by
 intro c
 induction c with
 |seq a b Wu Wv=>
  intro bs h hb;subst h;exact⟨Wu rfl hb.left,Wv rfl hb.right⟩
 |cond c x y lV lX=>
  intro bs h hb;subst h;cases c with
  |tmp t=>
   simp only[uj]at hb;simp only[mZ];cases hs:A.oa f (t*16+15)with
   |none=>
    rw[hs]at hb;exact⟨lV rfl hb.left,lX rfl hb.right⟩
   |some S=>
    rw[hs]at hb;have:=hb.1;simp only[xJ,hs]at this;exact this
  |const v=>exact⟨lV rfl hb.left,lX rfl hb.right⟩
  |_=>trivial
 |block id c ih=>
  intro bs h hb;subst h;exact ih rfl hb
 |loop c ih=>
  intro bs h hb;subst h;exact hb.1
 |_=>intro bs h hb;trivial
variable (P A C L f n m)in
def Yr{β:Type}(t:Nat)(S:Shape×List (Out×Shape))(x y:Code)(ds:List V)(k:Nat→List V→Option β):Option β:=
 let kc:Out→St→Option β:=fun o st=>
  match o with
  | .norm=>(ways m 0 S.2 (.norm,canon m (A.join f t) st)).bind fun e=>k e.1 e.2
  |o=>(ways m 0 S.2 (o,st)).bind fun e=>k e.1 e.2
 match(cG S.1 ds).sl t with
 | .bool b=>bif b then nH P A C L f n m x (cG S.1 ds) kc else nH P A C L f n m y (cG S.1 ds) kc
 |_=>none
theorem ar5{t:Nat}{x y:Code}{S:Shape×List (Out×Shape)}(hS:A.oa f (t*16+15)=some S)(hx:mZ P A C L f n m x)(hy:mZ P A C L f n m y){I R:Type}(enc:I→List V)(sT:I→R→Nat×List V)
  (de:List V→I) (body:I→(β:Type)→(R→Option β)→Option β) (DP:∀ds,cG S.1 (enc (de ds))=cG S.1 ds)
  (e1:∀i (β:Type) (k:Nat→List V→Option β),Yr P A C L f n m t S x y (enc i) k=body i β (fun r=>k (sT i r).1 (sT i r).2))
  (hl:∀(β:Type) ds (k:Nat→List V→Option β),L β (t*16+15) ds k=body (de ds) β (fun r=>k (sT (de ds) r).1 (sT (de ds) r).2)):
  xJ P A C L f n m (.cond t x y):=by
 simp only[xJ,hS];intro β ds k;rw[hl,←e1];unfold Yr Jv;rw[DP];simp only;have hk:∀(z:Option (Out×St)),(z.bind fun r=>(match r.1 with
   | .norm=>(ways m 0 S.2 (.norm,canon m (A.join f t) r.2)).bind fun e=>k e.1 e.2
   |o=>(ways m 0 S.2 (o,r.2)).bind fun e=>k e.1 e.2))=((z.bind fun r=>
   match r.1 with
   | .norm=>some (Out.norm,canon m (A.join f t) r.2)
   |_=>some r).bind fun r=>ways m 0 S.2 r).bind fun r=>k r.1 r.2:=by
  intro z;cases z with
  |none=>rfl
  |some r=>obtain⟨o,st⟩:=r;cases o<;>rfl
 cases(cG S.1 ds).sl t with
 |bool b=>
  cases b with
  |true=>simp only[cond_true,Qy P A C f n m x hx];exact hk _
  |false=>simp only[cond_false,Qy P A C f n m y hy];exact hk _
 |_=>rfl
theorem br{b:rS}{l:List rS}(h:xJ P A C L f n m b)(h2:rT P A C L f n m l):rT P A C L f n m (b::l):=⟨h,h2⟩
theorem ak:rT P A C L f n m []:=trivial
theorem ar6{key:Nat}{bs:List rS}(hb:uj A key (wY P (A.mn key))=bs)(ht:rT P A (Call P A) L key (Jw P (A.mn key)) (A.sin key).dI.length bs){ds:List V}{r:Option (List V)}
  (h:Qz P A (Call P A) L key ds=r):Call P A key ds=r:=by
 rw[arW,ao4 P A (Call P A) key (ah4 hb ht),h]
end
section
variable (P:Program)(A:dM)
def nP(C:af)(N f n m:Nat):Code→St→Option (Out×St)
 | .skip,st=>some (.norm,st)
 | .region id ops draw,st=>(CS P (A.here f id) C n ops draw st).bind fun st'=>some (.norm,canon m (A.live f id) (freeze m (A.pur f id) st'))
 | .seq a b,st=>(nP C N f n m a st).bind fun r=>
  match r.1 with
  | .norm=>nP C N f n m b r.2
  |_=>some r
 | .cond (.tmp t) x y,st=>
  let go (st:St):Option (Out×St):=
   match st.sl t with
   | .bool b=>(bif b then nP C N f n m x st else nP C N f n m y st).bind fun r=>
    match r.1 with
    | .norm=>some (.norm,canon m (A.join f t) r.2)
    |_=>some r
   |_=>none
  match A.oa f (t*16+15)with
  |none=>go st
  |some S=>(oc m S.1 st).bind fun ds=>((go (cG S.1 ds)).bind fun r=>ways m 0 S.2 r).bind fun e=>pS 0 S.2 e.1 e.2 fun o st=>some (o,st)
 | .cond (.const (.bool b)) x y,st=>bif b then nP C N f n m x st else nP C N f n m y st
 | .block id c,st=>(nP C N f n m c st).bind fun r=>
  match r.1 with
  | .norm=>some (.norm,canon m (A.blk f id) r.2)
  | .exit aA=>bif Nat.beq aA id then some (.norm,canon m (A.blk f id) r.2)else some r
  | .ret=>some r
 | .loop c,st=>
  match A.oa f (keyOf c+1)with
  |none=>none
  |some S=>(oc m S.1 st).bind fun ds=>(jB (fun ds=>rC m S.1 S.2 (nP C N f n m c (cG S.1 ds))) N ds).bind fun e=>pS 0 S.2 e.1 e.2 fun o st=>some (o,st)
 | .exit id,st=>some (.exit id,st)
 | .ret,st=>some (.ret,st)
 |_,_=>none
def Ys(C:af)(N f:Nat)(ds:List V):Option (List V):=
 match P.funcs[A.mn f]? with
 |none=>none
 |some fn=>
  match fn.body with
  |none=>none
  |some c=>bif nG 0 (A.sin f).cY&&(Nat.ble (A.sin f).cY.length fn.ntmps&&((A.sin f).ok&&(nG 0 (A.kI f).cY&&(Nat.beq (A.kI f).cY.length fn.results.size&&vg (sD (A.sin f).dI.length (A.mv f))))))then
    (nP P A C N f fn.ntmps (A.sin f).dI.length c (Ju A f ds)).bind fun r=>
     match r.1 with
     | .exit _=>none
     |_=>((CV P A f fn (A.sin f).dI.length r.2).run C r.2.hp).map (·.1)
   else none
def RI(N:Nat):Nat→af
 |0=>fun _ _=>none
 |n+1=>Ys P A (RI N n) N
variable {P A}
theorem ah5{X R:Type}{s1 s2:X→Option (X ⊕ R)}(h:∀x y,s1 x=some y→s2 x=some y):∀(n:Nat) (x:X) (r:R),jB s1 n x=some r→jB s2 n x=some r
 |0,x,r,e=>by cases e
 |n+1,x,r,e=>by
  simp only[jB]at e⊢;obtain⟨y,h1,h2⟩:=bind_some e;rw[h x y h1];cases y with
  |inl z=>exact ah5 h n z r h2
  |inr q=>exact h2
theorem ar7{C:af}{N f n m:Nat}:∀(c:Code) {st:St} {r:Out×St},nP P A C N f n m c st=some r→exec P A C f n m c st=some r:=by
 intro c
 induction c with
 |skip=>exact fun e=>e
 |exit id=>exact fun e=>e
 |ret=>exact fun e=>e
 |region id ops draw=>exact fun e=>e
 |seq x y lV lX=>
  intro st r e;simp only[nP,exec]at e⊢;obtain⟨⟨o,s1⟩,h1,h2⟩:=bind_some e;rw[lV h1];cases o with
  |norm=>exact lX h2
  |exit id=>exact h2
  |ret=>exact h2
 |cond c x y lV lX=>
  intro st r e;cases c with
  |tmp t=>
   have go:∀{st:St} {r:Out×St},(match st.sl t with
     | .bool b=>(bif b then nP P A C N f n m x st else nP P A C N f n m y st).bind fun r=>
      match r.1 with
      | .norm=>some (.norm,canon m (A.join f t) r.2)
      |_=>some r
     |_=>none)=some r→(match st.sl t with
     | .bool b=>(bif b then exec P A C f n m x st else exec P A C f n m y st).bind fun r=>
      match r.1 with
      | .norm=>some (.norm,canon m (A.join f t) r.2)
      |_=>some r
     |_=>none)=some r:=by
    intro st r e;cases hs:st.sl t<;>rw[hs]at e<;>simp only at e⊢ <;>first|(cases e;done)|skip
    rename_i b;obtain⟨x1,h1,h2⟩:=bind_some e;cases b with
    |true=>simp only[cond_true,lV h1,Option.bind_some];exact h2
    |false=>simp only[cond_false,lX h1,Option.bind_some];exact h2
   simp only[nP,exec]at e⊢;split at e
   ·rename_i hS
    try rw[hS]
    exact go e
   ·rename_i S hS;obtain⟨ds,h1,h2⟩:=bind_some e;obtain⟨e',h3,h4⟩:=bind_some h2;obtain⟨r1,h5,h6⟩:=bind_some h3
    try rw[hS]
    simp only[h1,Option.bind_some];exact(congrArg (fun z:Option (Out×St)=>(z.bind fun r=>ways m 0 S.2 r).bind fun e=>pS 0 S.2 e.1 e.2 fun o st=>some (o,st)) (go h5)).trans (by simp only[Option.bind_some,h6];exact h4)
  |const v=>
   cases v with
   |bool b=>
    simp only[nP,exec]at e⊢;cases b with
    |true=>exact lV e
    |false=>exact lX e
   |_=>simp only[nP]at e;cases e
  |_=>simp only[nP]at e;cases e
 |block id c ih=>
  intro st r e;simp only[nP,exec]at e⊢;obtain⟨x1,h1,h2⟩:=bind_some e;rw[ih h1];exact h2
 |loop c ih=>
  intro st r e;simp only[nP,exec]at e⊢;split at e
  ·cases e
  ·rename_i S hS;obtain⟨ds,h1,h2⟩:=bind_some e;obtain⟨e',h3,h4⟩:=bind_some h2
   try rw[hS]
   simp only[h1,Option.bind_some];rw[FB (ah5 (s2:=fun ds=>rC m S.1 S.2 (exec P A C f n m c (cG S.1 ds))) (fun x y KC=>by
    unfold rC at KC⊢;obtain⟨z,h5,h6⟩:=bind_some KC;rw[ih h5];exact h6) N ds e' h3)]
   exact h4
 |_=>intro st r e;simp only[nP]at e;cases e
theorem ar8{C:af}{N f:Nat}{ds es:List V}(e:Ys P A C N f ds=some es):vj P A C f ds=some es:=by
 unfold Ys at e;unfold vj;cases hf:P.funcs[A.mn f]? with
 |none=>rw[hf]at e;cases e
 |some fn=>
  rw[hf]at e;simp only at e⊢;cases hb:fn.body with
  |none=>rw[hb]at e;cases e
  |some c=>
   rw[hb]at e;simp only at e⊢;cases hc:(nG 0 (A.sin f).cY&&(Nat.ble (A.sin f).cY.length fn.ntmps&&((A.sin f).ok&&(nG 0 (A.kI f).cY&&(Nat.beq (A.kI f).cY.length fn.results.size&&vg (sD (A.sin f).dI.length (A.mv f)))))))with
   |false=>rw[hc]at e;cases e
   |true=>
    rw[hc]at e;simp only[cond_true]at e⊢;obtain⟨x,h1,h2⟩:=bind_some e;rw[ar7 c h1];exact h2
theorem ah6{N:Nat}:∀n {f:Nat} {a r:List V},RI P A N n f a=some r→pT P A n f a=some r
 |0,f,a,r,h=>by cases h
 |n+1,f,a,r,h=>by
  obtain⟨M,hM⟩:=RB (C:=RI P A N n) (D:=fun _=>pT P A n) (fun f a r h=>⟨0,fun _ _=>ah6 n h⟩) (ar8 h);exact hM M (aR _)
theorem gl{N n f:Nat}{a r:List V}(h:RI P A N n f a=some r):Call P A f a=some r:=KD.2 ⟨n,ah6 n h⟩
end
inductive LK where
 |int (k:IntKind)
 |bool
 |str
 |list (e:TypeId)
 |nat
def LK.Ty:LK→Type
 | .int _=>Int
 | .bool=>Bool
 | .str=>List UInt8
 | .list _=>List V
 | .nat=>Nat
def LK.enc:(k:LK)→k.Ty→V
 | .int k,n=> .int k n
 | .bool,b=> .bool b
 | .str,s=> .str s
 | .list e,l=> .list e l
 | .nat,n=>iK n
def LK.dec:(k:LK)→V→k.Ty
 | .int _,v=>v.toInt
 | .bool,v=>v.toBool
 | .str,v=>v.toStr
 | .list _,v=>v.toList
 | .nat,v=>qz v
theorem LK.ah7:∀(k:LK) (x:k.Ty),k.dec (k.enc x)=x
 | .int _,_=>rfl
 | .bool,_=>rfl
 | .str,_=>rfl
 | .list _,_=>rfl
 | .nat,_=>rfl
def Yt:List Nat→List LK
 | []=>[]
 |_::l=> .nat::Yt l
def LS.ks:LS→List LK
 | .int k=>[.int k]
 | .bool=>[.bool]
 | .str=>[.str]
 | .list e=>[.list e]
 | .sub .. =>[.nat,.nat]
 | .ptr _=>[.nat,.nat]
 | .row _ _ cs=>Yt cs
 | .ez _ cs _=> .nat::Yt cs
 |_=>[]
def Gu:List LS→List LK
 | []=>[]
 |l::ls=>l.ks++Gu ls
def VS.ks:VS→List LK
 | .one l=>l.ks
 | .agg ls=>Gu ls
 | .bN ls=>Gu ls
 | .fn _ a b=>Gu a++Gu b
 | .pref _ ls=>Gu ls
def ah8:List VS→List LK
 | []=>[]
 |l::ls=>l.ks++ah8 ls
def BS.ks:BS→List LK
 | .var _ cs=>ah8 cs
 | .arr e _=>[.list e]
 | .nest e=>[.list e]
 | .dead=>[]
 | .map t=>[.list t]
def ah9:List (Nat×VS)→List LK
 | []=>[]
 |p::l=>p.2.ks++ah9 l
def aia:List BS→List LK
 | []=>[]
 |b::l=>b.ks++aia l
def Shape.ks(S:Shape):List LK:=ah9 S.cY++aia S.dI
def Yu:List Nat→List V→List V
 | [],_=>[]
 |_::cs,ds=>iK (qz (V.nth ds 0))::Yu cs (ds.drop 1)
def LS.norm:LS→List V→List V
 | .int k,ds=>[.int k (V.nth ds 0).toInt]
 | .bool,ds=>[.bool (V.nth ds 0).toBool]
 | .str,ds=>[.str (V.nth ds 0).toStr]
 | .list e,ds=>[.list e (V.nth ds 0).toList]
 | .sub ..,ds=>[iK (qz (V.nth ds 0)),iK (qz (V.nth ds 1))]
 | .ptr _,ds=>[iK (qz (V.nth ds 0)),iK (qz (V.nth ds 1))]
 | .row _ _ cs,ds=>Yu cs ds
 | .ez _ cs _,ds=>iK (qz (V.nth ds 0))::Yu cs (ds.drop 1)
 |_,_=>[]
def Gv:List LS→List V→List V
 | [],_=>[]
 |l::ls,ds=>l.norm ds++Gv ls (ds.drop l.size)
def VS.norm:VS→List V→List V
 | .one l,ds=>l.norm ds
 | .agg ls,ds=>Gv ls ds
 | .bN ls,ds=>Gv ls ds
 | .fn _ a b,ds=>Gv a ds++Gv b (ds.drop (o9 a))
 | .pref _ ls,ds=>Gv ls ds
def aib:List VS→List V→List V
 | [],_=>[]
 |l::ls,ds=>l.norm ds++aib ls (ds.drop l.size)
def BS.norm:BS→List V→List V
 | .var _ cs,ds=>aib cs ds
 | .arr e _,ds=>[.list e (V.nth ds 0).toList]
 | .nest e,ds=>[.list e (V.nth ds 0).toList]
 | .dead,_=>[]
 | .map t,ds=>[.list t (V.nth ds 0).toList]
def aic:List (Nat×VS)→List V→List V
 | [],_=>[]
 |p::l,ds=>p.2.norm ds++aic l (ds.drop p.2.size)
def aid:List BS→List V→List V
 | [],_=>[]
 |b::l,ds=>b.norm ds++aid l (ds.drop b.size)
def Shape.norm(S:Shape)(ds:List V):List V:=aic S.cY ds++aid S.dI (ds.drop (ve S.cY))
def DQ:LK→List LK→Type
 |k,[]=>k.Ty
 |k,k'::ks=>k.Ty×DQ k' ks
def qa:List LK→Type
 | []=>Unit
 |k::ks=>DQ k ks
def DR:(k:LK)→(ks:List LK)→DQ k ks→List V
 |k,[],x=>[k.enc x]
 |k,k'::ks,x=>k.enc x.1::DR k' ks x.2
def qP:(ks:List LK)→qa ks→List V
 | [],_=>[]
 |k::ks,x=>DR k ks x
def KH:(k:LK)→(ks:List LK)→List V→DQ k ks
 |k,[],l=>k.dec (V.nth l 0)
 |k,k'::ks,l=>(k.dec (V.nth l 0),KH k' ks l.tail)
def vH:(ks:List LK)→List V→qa ks
 | [],_=>()
 |k::ks,l=>KH k ks l
theorem aie:∀(k:LK) (ks:List LK) (x:DQ k ks) (r:List V),KH k ks (DR k ks x++r)=x
 |k,[],x,r=>LK.ah7 k x
 |k,k'::ks,x,r=>by
  show(k.dec (k.enc x.1),KH k' ks (DR k' ks x.2++r))=x;rw[LK.ah7,aie k' ks];rfl
def Gw:List LK→Type 1→Type 1
 | [],R=>R
 |k::ks,R=>k.Ty→Gw ks R
def apN:(k:LK)→(ks:List LK)→{R:Type 1}→Gw (k::ks) R→DQ k ks→R
 |_,[],_,f,x=>f x
 |_,k'::ks,_,f,x=>apN k' ks (f x.1) x.2
def DS:(ks:List LK)→{R:Type 1}→Gw ks R→qa ks→R
 | [],_,f,_=>f
 |k::ks,_,f,x=>apN k ks f x
def Gx{α:Type}(b:Bool):List Bool→List α→List α
 | [],_=>[]
 |_,[]=>[]
 |c::m,x::l=>bif c==b then x::Gx b m l else Gx b m l
def merge:List Bool→List V→List V→List V
 | [],_,_=>[]
 |true::m,i,x=>V.nth x 0::merge m i x.tail
 |false::m,i,x=>V.nth i 0::merge m i.tail x
def Gy:List Nat→List LK→List LK
 | [],_=>[]
 |_,[]=>[]
 |0::t,k::ks=>k::Gy t ks
 |(_+1)::t,_::ks=>Gy t ks
abbrev lq:=List Nat×List LK
def lq.fresh(w:lq):List LK:=Gy w.1 w.2
def put:List Nat→List V→List V→List V
 | [],_,_=>[]
 |0::t,ds,x=>V.nth x 0::put t ds x.tail
 |(j+1)::t,ds,x=>V.nth ds j::put t ds x
def DT:List Nat→List V→List V
 | [],_=>[]
 |0::t,l=>V.nth l 0::DT t l.tail
 |(_+1)::t,l=>DT t l.tail
def Bp:lq→List lq→Type
 |w,[]=>qa w.fresh
 |w,w'::ws=>qa w.fresh ⊕ Bp w' ws
def zD:List lq→Type
 | []=>Empty
 |w::ws=>Bp w ws
def wN(ds:List V){β:Type}(k:Nat→List V→Option β):Nat→(w:lq)→(ws:List lq)→Bp w ws→Option β
 |j,w,[],r=>k j (put w.1 ds (qP w.fresh r))
 |j,w,w'::ws,r=>gZ (fun x=>k j (put w.1 ds (qP w.fresh x))) (fun y=>wN ds k (j+1) w' ws y) r
def wT(ds:List V){β:Type}(k:Nat→List V→Option β):(ws:List lq)→zD ws→Option β
 | [],r=>Empty.elim r
 |w::ws,r=>wN ds k 0 w ws r
def vJ(ds:List V):Nat→(w:lq)→(ws:List lq)→Bp w ws→Nat×List V
 |j,w,[],r=>(j,put w.1 ds (qP w.fresh r))
 |j,w,_::_,.inl x=>(j,put w.1 ds (qP w.fresh x))
 |j,_,w'::ws,.inr y=>vJ ds (j+1) w' ws y
def Gz(ds:List V):(ws:List lq)→zD ws→Nat×List V
 | [],r=>Empty.elim r
 |w::ws,r=>vJ ds 0 w ws r
theorem aif(ds:List V){β:Type}(k:Nat→List V→Option β):∀(j:Nat) (w:lq) (ws:List lq) (r:Bp w ws),wN ds k j w ws r=k (vJ ds j w ws r).1 (vJ ds j w ws r).2
 |_,_,[],_=>rfl
 |_,_,_::_,.inl _=>rfl
 |j,_,w'::ws,.inr y=>aif ds k (j+1) w' ws y
theorem RJ(ds:List V){β:Type}(k:Nat→List V→Option β):∀(ws:List lq) (r:zD ws),wT ds k ws r=k (Gz ds ws r).1 (Gz ds ws r).2
 | [],r=>Empty.elim r
 |w::ws,r=>aif ds k 0 w ws r
def GA:Nat→(w:lq)→(ws:List lq)→List V→Bp w ws
 |_,w,[],l=>vH w.fresh (DT w.1 l)
 |0,w,_::_,l=> .inl (vH w.fresh (DT w.1 l))
 |j+1,_,w'::ws,l=> .inr (GA j w' ws l)
def deT(j:Nat):(ws:List lq)→List V→Option (zD ws)
 | [],_=>none
 |w::ws,l=>some (GA j w ws l)
def GB:List Nat→List V→List V
 | [],_=>[]
 |0::t,x=>V.nth x 0::GB t x.tail
 |(_+1)::t,x=>GB t x
theorem Yv:∀(t:List Nat) (ds x:List V),DT t (put t ds x)=GB t x
 | [],_,_=>rfl
 |0::t,ds,x=>congrArg (V.nth x 0:: ·) (Yv t ds x.tail)
 |(_+1)::t,ds,x=>Yv t ds x
theorem Yw:∀(t:List Nat) (ks:List LK) (k:LK) (xK:List LK),Gy t ks=k::xK→∀x:DQ k xK,∃r,GB t (DR k xK x)=DR k xK x++r
 | [],_,_,_,h,_=>by cases h
 |_::_,[],_,_,h,_=>by simp[Gy]at h
 |0::t,a::ks,k,xK,h,x=>by
  simp only[Gy,IY]at h;obtain⟨rfl,h2⟩:=h;cases xK with
  |nil=>exact⟨GB t [],rfl⟩
  |cons k' xK=>
   obtain⟨r,hr⟩:=Yw t ks k' xK h2 x.2;exact⟨r,congrArg (a.enc x.1:: ·) hr⟩
 |(_+1)::t,a::ks,k,xK,h,x=>Yw t ks k xK h x
theorem aih(w:lq)(ds:List V)(x:qa w.fresh):vH w.fresh (DT w.1 (put w.1 ds (qP w.fresh x)))=x:=by
 rw[Yv];revert x;generalize hf:w.fresh=f;cases f with
 |nil=>intro x;rfl
 |cons k ks=>
  intro x;obtain⟨r,hr⟩:=Yw w.1 w.2 k ks hf x;show KH k ks (GB w.1 (DR k ks x))=x;rw[hr];exact aie k ks x r
theorem aii(ds:List V):∀(j:Nat) (w:lq) (ws:List lq) (r:Bp w ws),j≤(vJ ds j w ws r).1
 |_,_,[],_=>aR _
 |_,_,_::_,.inl _=>aR _
 |j,_,w'::ws,.inr y=>lR (Nat.le_succ j) (aii ds (j+1) w' ws y)
theorem ar9(w:lq)(l:List V):∀j,GA j w [] l=vH w.fresh (DT w.1 l)
 |0=>rfl
 |_+1=>rfl
theorem aij(ds:List V):∀(j:Nat) (w:lq) (ws:List lq) (r:Bp w ws),GA ((vJ ds j w ws r).1-j) w ws (vJ ds j w ws r).2=r
 |j,w,[],r=>(ar9 w _ _).trans (aih w ds r)
 |j,w,w'::ws,.inl x=>by
  show GA (j-j) w (w'::ws) (put w.1 ds (qP w.fresh x))= .inl x;rw[Nat.sub_self];exact congrArg Sum.inl (aih w ds x)
 |j,w,w'::ws,.inr y=>by
  have h1:=aii ds (j+1) w' ws y;have h2:=aij ds (j+1) w' ws y;show GA ((vJ ds (j+1) w' ws y).1-j) w (w'::ws) (vJ ds (j+1) w' ws y).2= .inr y;obtain⟨d,hd⟩:∃d,(vJ ds (j+1) w' ws y).1=j+1+d:=⟨(vJ ds (j+1) w' ws y).1-(j+1),by omega⟩
  rw[hd]at h2⊢;rw[show j+1+d-(j+1)=d by omega]at h2;rw[show j+1+d-j=d+1 by omega];exact congrArg Sum.inr h2
theorem asa(ds:List V):∀(ws:List lq) (r:zD ws),deT (Gz ds ws r).1 ws (Gz ds ws r).2=some r
 | [],r=>Empty.elim r
 |w::ws,r=>congrArg some (aij ds 0 w ws r)
section
variable {P:Program}{A:dM}{C:af}{L:da}{f n m:Nat}
theorem asb{c:Code}{S:Shape×List (Out×Shape)}(hS:A.oa f (keyOf c+1)=some S)(hL:mZ P A C L f n m c){I X R:Type}(enc:I→X→List V)(sT:I→R→Nat×List V)
  (xL:List V→I) (zE:List V→X) (RK:Nat×List V→Option R) (body:I→X→(β:Type)→(X→Option β)→(R→Option β)→Option β)
  (DP:∀ds,cG S.1 (enc (xL ds) (zE ds))=cG S.1 ds) (Yx:∀i x,zE (enc i x)=x) (hdr:∀i r,RK (sT i r)=some r)
  (e1:∀i x (β:Type) (k:(List V ⊕ (Nat×List V))→Option β),nH P A C L f n m c (cG S.1 (enc i x)) (fun o st=>(rC m S.1 S.2 (some (o,st))).bind k)=
   body i x β (fun y=>k (.inl (enc i y))) (fun r=>k (.inr (sT i r))))
  (hl:∀(β:Type) ds (k:Nat→List V→Option β),L β (keyOf c+1) ds k=(Loop (fun x=>body (xL ds) x (X ⊕ R) (fun y=>some (.inl y)) (fun r=>some (.inr r))) (zE ds)).bind fun r=>k (sT (xL ds) r).1 (sT (xL ds) r).2):
  xJ P A C L f n m (.loop c):=by
 simp only[xJ,hS];intro β ds k;rw[hl];have hex:∀(z:Option (Out×St)),rC m S.1 S.2 z=z.bind fun r=>rC m S.1 S.2 (some (r.1,r.2)):=by
  intro z;cases z<;>rfl
 have hs:∀i x,stepG P A C f n m S c (enc i x)=(body i x (X ⊕ R) (fun y=>some (.inl y)) (fun r=>some (.inr r))).map fun| .inl y=> .inl (enc i y)| .inr r=> .inr (sT i r):=by
  intro i x;have k1:=e1 i x _ (fun z=>some z);have k2:=e1 i x (X ⊕ R) (fun| .inl ds=>some (.inl (zE ds))| .inr e=>(RK e).map .inr);have k3:=e1 i x (List V ⊕ (Nat×List V)) (fun| .inl ds=>some (.inl (enc i (zE ds)))| .inr e=>(RK e).map fun r=> .inr (sT i r));simp only[Yx,hdr,Option.map_some]at k2 k3;unfold stepG;rw[hex];rw[Qy P A C f n m c hL]at k1 k2 k3;rw[←k2];refine Eq.trans ?_ (k1.trans (k3.symm.trans ?_))
  ·simp
  ·cases exec P A C f n m c (cG S.1 (enc i x))with
   |none=>rfl
   |some r=>
    simp only[Option.bind_some];cases rC m S.1 S.2 (some (r.1,r.2))with
    |none=>rfl
    |some z=>
     cases z with
     |inl _=>rfl
     |inr e=>simp only[Option.bind_some];cases RK e<;>rfl
 have h0:stepG P A C f n m S c ds=stepG P A C f n m S c (enc (xL ds) (zE ds)):=by
  unfold stepG;rw[DP]
 have:Loop (stepG P A C f n m S c) ds=(Loop (fun x=>body (xL ds) x (X ⊕ R) (fun y=>some (.inl y)) (fun r=>some (.inr r))) (zE ds)).map (sT (xL ds)):=by
  rw[P7,h0,←P7];exact ao3 (enc (xL ds)) (sT (xL ds)) (fun x=>hs _ _) (zE ds)
 rw[this];cases Loop (fun x=>body (xL ds) x (X ⊕ R) (fun y=>some (.inl y)) (fun r=>some (.inr r))) (zE ds)<;>rfl
abbrev KI(S:Shape)(mk:List Bool):List LK:=Gx false mk S.ks
abbrev DU(S:Shape)(mk:List Bool):List LK:=Gx true mk S.ks
def zF(ts:List (List Nat))(W:List (Out×Shape)):List lq:=
 match ts,W with
 |t::ts,w::W=>(t,w.2.ks)::zF ts W
 |_,_=>[]
abbrev KJ(S:Shape)(mk:List Bool)(i:qa (KI S mk))(x:qa (DU S mk)):List V:=merge mk (qP _ i) (qP _ x)
abbrev Yy(S:Shape)(mk:List Bool)(i:qa (KI S mk)):List V:=merge mk (qP _ i) []
abbrev RL(S:Shape)(mk:List Bool)(ds:List V):qa (KI S mk):=vH _ (Gx false mk (S.norm ds))
abbrev RM(S:Shape)(mk:List Bool)(ds:List V):qa (DU S mk):=vH _ (Gx true mk (S.norm ds))
abbrev aik(X R:Type):Type 1:=(β:Type)→(X→Option β)→(R→Option β)→Option β
abbrev RN(S:Shape×List (Out×Shape))(mk:List Bool)(ts:List (List Nat)):Type 1:=Gw (KI S.1 mk) (Gw (DU S.1 mk) (aik (qa (DU S.1 mk)) (zD (zF ts S.2))))
abbrev Yz(S:Shape×List (Out×Shape))(mk:List Bool)(ts:List (List Nat))(b:RN S mk ts)(i:qa (KI S.1 mk))(x:qa (DU S.1 mk)):aik (qa (DU S.1 mk)) (zD (zF ts S.2)):=DS _ (DS _ b i) x
def YA(S:Shape×List (Out×Shape))(mk:List Bool)(ts:List (List Nat))(b:RN S mk ts){β:Type}(ds:List V)(k:Nat→List V→Option β):Option β:=
 (Loop (fun x=>Yz S mk ts b (RL S.1 mk ds) x (qa (DU S.1 mk) ⊕ zD (zF ts S.2)) (fun y=>some (.inl y)) (fun r=>some (.inr r))) (RM S.1 mk ds)).bind (wT (Yy S.1 mk (RL S.1 mk ds)) k (zF ts S.2))
theorem cj{c:Code}(S:Shape×List (Out×Shape))(mk:List Bool)(ts:List (List Nat))(b:RN S mk ts)(hL:mZ P A C L f n m c)(hS:A.oa f (keyOf c+1)=some S:=by kernel_rfl)
  (DP:∀ds,cG S.1 (KJ S.1 mk (RL S.1 mk ds) (RM S.1 mk ds))=cG S.1 ds:=by intros;kernel_rfl) (Yx:∀i x,RM S.1 mk (KJ S.1 mk i x)=x:=by intros;kernel_rfl)
  (e1:∀i x (β:Type) (k:(List V ⊕ (Nat×List V))→Option β),nH P A C L f n m c (cG S.1 (KJ S.1 mk i x)) (fun o st=>(rC m S.1 S.2 (some (o,st))).bind k)=
   Yz S mk ts b i x β (fun y=>k (.inl (KJ S.1 mk i y))) (wT (Yy S.1 mk i) (fun j l=>k (.inr (j,l))) (zF ts S.2)):=by intros;kernel_rfl)
  (hl:∀(β:Type) ds (k:Nat→List V→Option β),L β (keyOf c+1) ds k=YA S mk ts b ds k:=by intros;kernel_rfl):
  xJ P A C L f n m (.loop c):=
 asb hS hL (KJ S.1 mk) (fun i r=>Gz (Yy S.1 mk i) _ r) (RL S.1 mk) (RM S.1 mk) (fun e=>deT e.1 _ e.2) (Yz S mk ts b) DP Yx (fun i r=>asa _ _ r)
  (fun i x β k=>by
   rw[e1];congr 1;funext r;exact RJ _ _ _ r)
  (fun β ds k=>by
   rw[hl];unfold YA;congr 1;funext r;exact RJ _ _ _ r)
abbrev YB(S:Shape×List (Out×Shape))(ts:List (List Nat)):Type 1:=Gw S.1.ks ((β:Type)→(zD (zF ts S.2)→Option β)→Option β)
def ail(S:Shape×List (Out×Shape))(ts:List (List Nat))(b:YB S ts){β:Type}(ds:List V)(k:Nat→List V→Option β):Option β:=
 DS S.1.ks b (vH _ (S.1.norm ds)) β (wT (qP S.1.ks (vH _ (S.1.norm ds))) k (zF ts S.2))
theorem lr{t:Nat}{x y:Code}(S:Shape×List (Out×Shape))(ts:List (List Nat))(b:YB S ts)(hx:mZ P A C L f n m x)(hy:mZ P A C L f n m y)(hS:A.oa f (t*16+15)=some S:=by kernel_rfl)
  (DP:∀ds,cG S.1 (qP S.1.ks (vH _ (S.1.norm ds)))=cG S.1 ds:=by intros;kernel_rfl)
  (e1:∀i (β:Type) (k:Nat→List V→Option β),Yr P A C L f n m t S x y (qP S.1.ks i) k=DS S.1.ks b i β (wT (qP S.1.ks i) k (zF ts S.2)):=by intros;kernel_rfl)
  (hl:∀(β:Type) ds (k:Nat→List V→Option β),L β (t*16+15) ds k=ail S ts b ds k:=by intros;kernel_rfl):
  xJ P A C L f n m (.cond t x y):=
 ar5 hS hx hy (qP S.1.ks) (fun i r=>Gz (qP S.1.ks i) _ r) (fun ds=>vH _ (S.1.norm ds)) (DS S.1.ks b) DP
  (fun i β k=>by
   rw[e1];exact congrArg (DS S.1.ks b i β) (funext fun r=>RJ _ _ _ r))
  (fun β ds k=>by
   rw[hl];exact congrArg (DS S.1.ks b (vH _ (S.1.norm ds)) β) (funext fun r=>RJ _ _ _ r))
end
theorem aY{P:Program}{A:dM}{C:af}{L:da}{f n m:Nat}{c:Code}{bs:List rS}(hb:rT P A C L f n m bs)(h:uj A f c=bs:=by kernel_rfl):mZ P A C L f n m c:=ah4 h hb
theorem bR{P:Program}{A:dM}{L:da}{key:Nat}{bs:List rS}{ds:List V}{r x:Option (List V)}(ht:rT P A (Call P A) L key (Jw P (A.mn key)) (A.sin key).dI.length bs)(h:x=r)
  (hb:uj A key (wY P (A.mn key))=bs:=by kernel_rfl) (e:Qz P A (Call P A) L key ds=x:=by kernel_rfl):Call P A key ds=r:=ar6 hb ht (e.trans h)
def cm(j:Nat)(S:Shape×List (Out×Shape))(mk:List Bool)(ts:List (List Nat))(b:RN S mk ts)(L:da):da:=fun β n ds k=>bif Nat.beq n j then YA S mk ts b ds k else L β n ds k
def lu(j:Nat)(S:Shape×List (Out×Shape))(ts:List (List Nat))(b:YB S ts)(L:da):da:=fun β n ds k=>bif Nat.beq n j then ail S ts b ds k else L β n ds k
def bS:da:=fun _ _ _ _=>none
abbrev LV:=List V
structure SE where
 T:TypeId
 cmp:Nat
 ex:V→List V
 k:Nat→Nat
abbrev jS(l:List V)(j:Int){β:Type}(x:Option β):Option β:=bif (decide (0≤j))&&(decide (j<(l.length:Int)))then x else none
abbrev aL(l:List V)(j:Int){β:Type}(f:V→Option β):Option β:=bif (decide (0≤j))&&(decide (j<(l.length:Int)))then(l[j.toNat]?).bind f else none
abbrev aG(l:List V)(j:Int)(v:V):List V:=l.set j.toNat v
end Go.AM
