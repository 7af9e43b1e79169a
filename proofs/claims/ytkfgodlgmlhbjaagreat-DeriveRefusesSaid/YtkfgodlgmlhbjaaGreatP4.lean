/-
  Functions of the program, lifted to plain data.
-/
import Derived.Carry
import Derived.OpenShut
import Derived.Deep.Slices
import Derived.Test.YtkfgodlgmlhbjaaGreatP3
set_option linter.unusedVariables false
set_option linter.unusedSimpArgs false
namespace Go.AM
section
variable {P:Program} {A:cT} {w w':World} {I I' I2:Nat→Nat→Prop} {μ β β' cm:Nat→Option Nat} {hp hp' hp0:Nat→Option ai} {C:ah} {B:Nat} {M:Nat→Prop} {w0:Start}
theorem Gj (S:aC P w I β hp B M w0) {a:Act} {st:St} (hs:kS P w I β hp a st.sl): ∀{l:List ResultVar} {xs:List V} {rd:List Nat},(uI P st l).run C hp=some (xs,rd)→
  ∃vs:List Value,(l.mapM fun| .tmp t=>Pure.pure (a.tmps.getD t undef)| .cell x t=>do loadVar t (←asAddr (a.tmps.getD x undef)):Sem (List Value)).run P w= .ok vs w∧vs.length=xs.length∧l.length=xs.length∧
   ∀(j:Nat) v x,vs[j]? =some v→xs[j]? =some x→ak P w I β hp v x
 | [],xs,rd,h=>by
  cases h
  exact ⟨[],by simp,rfl,rfl,by simp⟩
 | .tmp t::l,xs,rd,h=>by
  simp only[uI] at h
  obtain ⟨ys,l1,l2,h1,U⟩:=lD h
  have h3:=Jx U
  subst h3
  obtain ⟨vs,a1,a2,a3,a4⟩:=Gj S hs h1
  refine ⟨a.tmps.getD t undef::vs,by simp only[List.mapM_cons,Sem.run_bind,Sem.run_pure,Result.andThen_ok,a1],by simp[a2],by simp[a3],fun j v x hj hx=> ?_⟩
  cases j with
  | zero=>simp at hj hx;subst hj;subst hx;have:=hs t;simpa using this
  | succ j=>exact a4 j v x (by simpa using hj) (by simpa using hx)
 | .cell y t::l,xs,rd,h=>by
  simp only[uI] at h
  obtain ⟨r,l1,l2,h1,U⟩:=lD h
  obtain ⟨ys,l3,l4,h3,h4⟩:=lD U
  have h5:=Jx h4
  subst h5
  obtain ⟨v0,b1,b2,b3,ad,b4⟩:=Qt S (hs y) h1
  obtain ⟨vs,a1,a2,a3,a4⟩:=Gj S hs h3
  refine ⟨v0::vs,?_,by simp[a2],by simp[a3],fun j v x hj hx=> ?_⟩
  ·have e1:(do loadVar t (←asAddr (a.tmps.getD y undef)):Sem Value).run P w= .ok v0 w:=by
    rw[b4] at b1⊢
    simpa[Instr.loadAt,Instr.sureAddr,asAddr] using b1
   simp only[List.mapM_cons,Sem.run_bind,e1,Result.andThen_ok,a1,Sem.run_pure]
  cases j with
  | zero=>simp at hj hx;subst hj;subst hx;exact b2
  | succ j=>exact a4 j v x (by simpa using hj) (by simpa using hx)
def vw:List Value→Value
 | [v]=>v
 | l=> .tuple l.toArray
theorem abJ {vs:List Value} (h:vs.length≠1):vw vs= .tuple vs.toArray:=by
 match vs,h with
 | [],_=>rfl
 | [v],h=>simp at h
 | v::v2::l,_=>rfl
theorem abK {fn:Func} {a:Act} {st:St} (S:aC P w I β st.hp B M w0) (hs:kS P w I β st.hp a st.sl) {xs:List V} {rd:List Nat} (h:(uI P st fn.results.toList).run C st.hp=some (xs,rd)):
  ∃vs:List Value,(results fn a.tmps).run P w= .ok (vw vs) w∧vs.length=xs.length∧
   ∀(j:Nat) v x,vs[j]? =some v→xs[j]? =some x→ak P w I β st.hp v x:=by
 obtain ⟨vs,a1,a2,_,a4⟩:=Gj S hs h
 refine ⟨vs,?_,a2,a4⟩
 unfold results
 rw[Array.mapM_eq_mapM_toList]
 simp only[map_eq_pure_bind,bind_assoc,pure_bind,Sem.run_bind]
 refine (congrArg (fun r:Result (List Value)=>r.andThen _) a1).trans ?_
 simp only[Result.andThen_ok,Sem.run_pure]
 match vs with
 | []=>simp[vw]
 | [v]=>simp[vw]
 | v::v2::l=>simp[vw]
theorem S9: ∀{args:List V} {i k:Nat},dZ (nZ i args) k=if i≤k then args[k-i]? else none
 | [],i,k=>by simp[nZ,dZ]
 | v::vs,i,k=>by
  simp only[nZ,dZ]
  cases hb:Nat.beq k i with
  | true=>
   rw[aX] at hb
   subst hb
   simp
  | false=>
   have bq:k≠i:=fun e=>by rw[e,jE] at hb;cases hb
   simp only[cond_false,S9]
   by_cases h:i≤k
   ·rw[bf,aj h]
    obtain ⟨d,rfl⟩: ∃d,k=i+1+d:=⟨k-(i+1),by omega⟩
    rw[show i+1+d-(i+1)=d by omega,show i+1+d-i=d+1 by omega]
    rfl
   ·rw[aM,an h]
theorem K1: ∀{l:List (Nat × VS)} {ds:List V} {i k:Nat},kO i l=true→dZ (fK l ds) k=if i≤k then (fY (l.map (·.2)) ds)[k-i]? else none
 | [],ds,i,k,_=>by simp[fK,fY,dZ]
 | (q,s)::l,ds,i,k,h=>by
  simp only[kO,aO,aX] at h
  obtain ⟨rfl,h⟩:=h
  simp only[fK,dZ,cM,fY]
  cases hb:Nat.beq k q with
  | true=>
   rw[aX] at hb
   subst hb
   simp
  | false=>
   have bq:k≠q:=fun e=>by rw[e,jE] at hb;cases hb
   simp only[cond_false]
   rw[K1 h]
   by_cases h:q≤k
   ·rw[bf,aj h]
    obtain ⟨d,rfl⟩: ∃d,k=q+1+d:=⟨k-(q+1),by omega⟩
    rw[show q+1+d-(q+1)=d by omega,show q+1+d-q=d+1 by omega]
    rfl
   ·rw[aM,an h]
theorem Ta: ∀{l:List (Nat × VS)} {ds:List V},(fK l ds).map (·.2)=fY (l.map (·.2)) ds
 | [],_=>rfl
 | (q,s)::l,ds=>by simp only[fK,cM,fY,Ta]
theorem K2: ∀{l:List VS} {ds:List V},(fY l ds).length=l.length
 | [],_=>rfl
 | s::l,ds=>by simp only[fY,List.length_cons,K2]
theorem Tb: ∀{l:List (Nat × VS)} {ds:List V},(fK l ds).length=l.length
 | [],_=>rfl
 | (q,s)::l,ds=>by simp only[fK,List.length_cons,Tb]
theorem abL {vals:List Value} {l:List (Nat × V)} (hl:vals.length=l.length) (h: ∀(j:Nat) v y,vals[j]? =some v→(l.map (·.2))[j]? =some y→ak P w I β hp v y):ak P w I β hp (vw vals) (qd l):=by
 match l,hl,h with
 | [],hl,h=>
  obtain rfl:vals=[]:=lY hl
  exact .bn rfl fun j v x _ hx=>by simp at hx
 | [(k,y)],hl,h=>
  match vals,hl,h with
  | [v],_,h=>exact h 0 v y rfl rfl
 | a::b::l,hl,h=>
  have bq:vals.length≠1:=by rw[hl];simp
  rw[abJ bq]
  simp only[qd]
  exact .bn (by simp[hl]) fun j v y hj hy=>h j v y (by simpa using hj) hy
theorem abM {l:List BS} {ds:List V} {j:Nat} {e:TypeId} {es:List V} {vers:List Nat} (h:(e9 l ds)[j]? =some (.nest e es vers)) (k:Nat):bO vers k=0:=by
 obtain ⟨b,fQ,_,U⟩:=KH h
 cases b<;>simp only[gk] at U<;>cases U
 match k with
 | 0=>rfl
 | 1=>rfl
 | 2=>rfl
 | _+3=>rfl
theorem abN {f n m:Nat} {fn:Func} {a:Act} {st:St} {es:List V} {rd:List Nat} (hm: ∀id blk,hp0 id=some blk→id<m) (jS: ∀id e es vers,hp0 id=some (.nest e es vers)→∀k,bO vers k=0)
  (hI:Inv P A.idle A.aE B M w0 μ hp0 n a w st) (nn:kO 0 (A.gU f).cd=true) (aU:(A.gU f).cd.length=fn.results.size) (h:(xy P A f fn m st).run C st.hp=some (es,rd)):
  ∃v I2 cm,(results fn a.tmps).run P w= .ok v w∧aC P w I2 cm (bG (A.so f es) (A.lv f es)).hp B M w0∧lJ w0.w w0.I μ hp0 w I2 cm (bG (A.so f es) (A.lv f es)).hp∧ak P w I2 cm (bG (A.so f es) (A.lv f es)).hp v (qd (fK (A.so f es).cd (A.lv f es))):=by
 unfold xy at h
 obtain ⟨xs,l1,l2,h1,U⟩:=lD h
 obtain ⟨I,β,S,hA,hE⟩:=hI
 obtain ⟨vals,e1,e2,e3⟩:=abK S hA.sl h1
 have e4:fn.results.size=xs.length:=by
  obtain ⟨_,_,_,q,_⟩:=Gj S hA.sl h1
  simpa using q
 have fin: ∀(Sx:Shape) (es:List V),kO 0 Sx.cd=true→Sx.cd.length=fn.results.size→j7 m Sx (canon m (List.range xs.length) (freeze m (A.uD f) ⟨jJ (nZ 0 xs),st.hp,st.nb⟩))=some es→
   ∃v I2 cm,(results fn a.tmps).run P w= .ok v w∧aC P w I2 cm (bG Sx es).hp B M w0∧lJ w0.w w0.I μ hp0 w I2 cm (bG Sx es).hp∧ak P w I2 cm (bG Sx es).hp v (qd (fK Sx.cd es)):=by
  intro Sx es nn aU vy
  have hA0:fC P A.idle A.aE w I β vals.length ⟨vals.toArray,[]⟩ ⟨jJ (nZ 0 xs),st.hp,st.nb⟩:=by
   refine ⟨fun k=> ?_,by simp,by simp,hA.aE⟩
   change ak P w I β st.hp _ (jJ (nZ 0 xs) k)
   unfold jJ
   rw[S9]
   simp only[oN,c6,Nat.sub_zero]
   cases hk:xs[k]? with
   | none=>exact .undef
   | some x=>
    have fO:k<vals.length:=by rw[e2];exact (bm.1 hk).1
    have:=e3 k vals[k] x (bA fO) hk
    have e5:(vals.toArray).getD k undef=vals[k]:=by simp[fO]
    rw[Option.getD_some]
    exact e5▸this
  obtain ⟨I2,cm,k1,k2,k3⟩:=SO (st:=⟨jJ (nZ 0 xs),st.hp,st.nb⟩) (m:=m) (pur:=A.uD f) S hA0
  have hI2:Inv P A.idle A.aE B M w0 μ hp0 vals.length ⟨vals.toArray,[]⟩ w (freeze m (A.uD f) ⟨jJ (nZ 0 xs),st.hp,st.nb⟩):=⟨I2,cm,k2,k3,hE.trans k1.xW⟩
  obtain ⟨I3,Tc,q1,q2,q3⟩:=(hI2.canon (live:=List.range xs.length) hm jS).reshape vy hm
  refine ⟨vw vals,I3,Tc,e1,q1,q3,abL (by rw[Tb,aU,e4,e2]) fun j v y hj hy=> ?_⟩
  have hv:=q2.sl j
  have b9:=(bm.1 hj).1
  have e5:(vals.toArray).getD j undef=v:=by
   have:=(bm.1 hj).2
   simp[b9,this]
  change ak P w I3 Tc _ ((vals.toArray).getD j undef) (jJ (fK Sx.cd _) j) at hv
  rw[e5] at hv
  unfold jJ at hv
  rw[K1 nn] at hv
  simp only[oN,c6,Nat.sub_zero] at hv
  rw[Ta] at hy
  rw[hy] at hv
  exact hv
 unfold cT.so cT.lv
 cases cD:A.alt f with
 | none=>
  rw[cD] at U
  simp only at U⊢
  split at U
  ·rename_i fQ vy
   have:=aT U
   subst this
   exact fin _ _ nn aU vy
  ·cases U
 | some S2=>
  rw[cD] at U
  simp only at U⊢
  split at U
  ·rename_i fQ vy
   have:=aT U
   subst this
   exact fin _ _ nn aU vy
  ·split at U
   ·rename_i fQ vy
    obtain ⟨hc,h3⟩:=aG U
    simp only[aO,aX] at hc
    have:=aT h3
    subst this
    exact fin _ _ hc.1 hc.2 vy
   ·cases U
theorem abO (hC:lK P A C) (hP:jw P A) (oq:P.follows .mixedOrders=true):lK P A (rk P A C):=by
 intro f ds es h
 unfold rk at h
 cases hf:P.funcs[A.im f]? with
 | none=>rw[hf] at h;cases h
 | some fn=>
  rw[hf] at h
  simp only at h
  cases hb:fn.body with
  | none=>rw[hb] at h;cases h
  | some c=>
   rw[hb] at h
   simp only at h
   cases hc:(kO 0 (A.sin f).cd&&(Nat.ble (A.sin f).cd.length fn.ntmps&&((A.sin f).ok&&(kO 0 (A.gU f).cd&&(Nat.beq (A.gU f).cd.length fn.results.size&&ri (oW (A.sin f).cE.length (A.mv f))))))) with
   | false=>rw[hc] at h;cases h
   | true=>
    rw[hc] at h
    simp only[cond_true] at h
    simp only[aO,aX,dq] at hc
    obtain ⟨jO,hnt,_,qo,aU,jv⟩:=hc
    obtain ⟨⟨out,st'⟩,h1,U⟩:=bind_some h
    refine ⟨fn,c,rfl,hb,fun w I μ vals hH hgl hl hv=> ?_⟩
    have abP:(∀id,out≠ .exit id)∧∃rd,(xy P A f fn (A.sin f).cE.length st').run C st'.hp=some (es,rd):=by
     cases out with
     | exit id=>cases U
     | norm=>
      refine ⟨by simp,?_⟩
      simp only[Aj] at U
      obtain ⟨⟨x,rd⟩,e1,e2⟩:=U
      simp only at e2
      subst e2
      exact ⟨rd,e1⟩
     | ret=>
      refine ⟨by simp,?_⟩
      simp only[Aj] at U
      obtain ⟨⟨x,rd⟩,e1,e2⟩:=U
      simp only at e2
      subst e2
      exact ⟨rd,e1⟩
    obtain ⟨bq,rd,Kx⟩:=abP
    refine calls_of_wp_defers hf hb ?_
    have hm: ∀id blk,(bG (A.sin f) ds).hp id=some blk→id<(A.sin f).cE.length:=by
     intro id blk ab
     simp only[bG,mk,iI] at ab
     have:=(bm.1 ab).1
     rwa [Gi] at this
    have jS: ∀id e es vers,(bG (A.sin f) ds).hp id=some (.nest e es vers)→∀k,bO vers k=0:=by
     intro id e es vers ab k
     simp only[bG,mk,iI] at ab
     exact abM ab k
    refine abI (w0:=⟨w,I⟩) (μ:=μ) (hp0:=(bG (A.sin f) ds).hp) (B:=w.heap.size) (M:=pg P w μ (bG (A.sin f) ds).hp) hC hP oq hm jS c h1 ?_ ?_
    ·refine Inv.enter jv ?_ hm jS fun p hp=>by
      simp only[bG,mk,iI]
      rw[List.getElem?_eq_none_iff,Gi]
      exact hp
     refine ⟨I,μ,⟨hH,fun _ _ _=>rfl,cl _,fun b j h=> .inl h,⟨rfl,rfl⟩⟩,⟨fun k=> ?_,?_,by simp,hgl⟩,(Le.refl (P:=P) w I μ _).xW⟩
     ·change ak P w I μ _ _ (jJ (fK (A.sin f).cd ds) k)
      unfold jJ
      rw[K1 jO]
      simp only[oN,c6,Nat.sub_zero]
      cases hk:(fY ((A.sin f).cd.map (·.2)) ds)[k]? with
      | none=>exact .undef
      | some x=>
       have fO:k<vals.length:=by
        have:=(bm.1 hk).1
        rw[K2,aK] at this
        rw[hl];exact this
       have:=hv k vals[k] x (bA fO) hk
       have e1:(vals.toArray++Array.replicate (fn.ntmps-vals.toArray.size) undef).getD k undef=vals[k]:=by
        simp[Array.getElem?_append,fO]
       rw[Option.getD_some]
       exact e1▸this
     ·simp
      omega
    ·intro a' w' hI
     obtain ⟨v,I2,cm,q1,q2,q3,q4⟩:=abN hm jS hI qo aU Kx
     obtain ⟨_,_,_,hA,_⟩:=hI
     cases out with
     | exit id=>exact absurd rfl (bq id)
     | norm=>exact KN hP q1 ⟨v,I2,cm,rfl,q2,q3,q4⟩ _ hA.defers
     | ret=>exact KN hP q1 ⟨v,I2,cm,rfl,q2,q3,q4⟩ _ hA.defers
theorem Td (hP:jw P A) (oq:P.follows .mixedOrders=true): ∀n,lK P A (mi P A n)
 | 0=>fun _ _ _ h=>by cases h
 | n+1=>abO (Td hP oq n) hP oq
theorem abQ (hP:jw P A) (oq:P.follows .mixedOrders=true):lK P A (Call P A):=by
 intro f ds es h
 have hn: ∃n,mi P A n f ds=some es:=by
  unfold Call at h
  split at h
  ·rename_i hex
   have:=hex.choose_spec.choose_spec
   rw[dh h] at this
   exact ⟨_,this⟩
  ·cases h
 obtain ⟨n,hn⟩:=hn
 exact Td hP oq n f ds es hn
end
section
variable {P:Program} {A:cT} {C:ah} {D:Nat→ah}
def BM (C:ah) (D:Nat→ah):Prop:= ∀f a r,C f a=some r→∃n,∀k,n≤k→D k f a=some r
theorem qu {α:Type} (h:BM C D) {hp:Nat→Option ai}: ∀{p:Rd α} {r:α × List Nat},p.run C hp=some r→∃n,∀k,n≤k→p.run (D k) hp=some r
 | .ret a,r,e=>⟨0,fun _ _=>e⟩
 | .fail,r,e=>by cases e
 | .get id q,r,e=>by
  obtain ⟨x,h1,U⟩:=bind_some e
  obtain ⟨n,hn⟩:=qu h h1
  exact ⟨n,fun k hk=>by simp only[Rd.run,hn k hk,Option.bind_some];exact U⟩
 | .opt o q,r,e=>by
  obtain ⟨x,h1,U⟩:=bind_some e
  obtain ⟨n,hn⟩:=qu h U
  exact ⟨n,fun k hk=>by simp only[Rd.run,h1,Option.bind_some];exact hn k hk⟩
 | .live id ok q,r,e=>by
  simp only[Rd.run] at e
  cases hk:ok (gC (hp id)) with
  | false=>rw[hk] at e;cases e
  | true=>
   rw[hk] at e
   obtain ⟨x,h1,U⟩:=bind_some e
   obtain ⟨n,hn⟩:=qu h h1
   exact ⟨n,fun k nq=>by simp only[Rd.run,hk,cond_true,hn k nq,Option.bind_some];exact U⟩
 | .aD b q,r,e=>by
  obtain ⟨h1,U⟩:=aG e
  obtain ⟨n,hn⟩:=qu h U
  exact ⟨n,fun k hk=>by simp only[Rd.run,h1,cond_true];exact hn k hk⟩
 | .call f a q,r,e=>by
  obtain ⟨x,h1,U⟩:=bind_some e
  obtain ⟨n1,jO⟩:=h f a x h1
  obtain ⟨n2,qo⟩:=qu h U
  exact ⟨max n1 n2,fun k hk=>by simp only[Rd.run,jO k (by omega),Option.bind_some];exact qo k (by omega)⟩
 | .alt true x y,r,e=>qu (p:=x) h e
 | .alt false x y,r,e=>qu (p:=y) h e
theorem abR (h:BM C D) {n i nb:Nat} {ops:Array Oper} {o:Oper} {st:St} {r:St × List Nat × List Nat} (e:iv P A C n ops i o nb st=some r): ∃N,∀k,N≤k→iv P A (D k) n ops i o nb st=some r:=by
 unfold iv at e
 have go:(((fZ P A st.sl i (nb+64*i) o).run C st.hp).bind fun r=>some ((⟨iT st.sl o.dst r.1.v,bW st.hp r.1.upd,st.nb⟩:St),rj r.2 r.1.upd,gl st.hp r.1.upd))=some r→
   ∃N,∀k,N≤k→(((fZ P A st.sl i (nb+64*i) o).run (D k) st.hp).bind fun r=>some ((⟨iT st.sl o.dst r.1.v,bW st.hp r.1.upd,st.nb⟩:St),rj r.2 r.1.upd,gl st.hp r.1.upd))=some r:=by
  intro e
  obtain ⟨x,h1,U⟩:=bind_some e
  obtain ⟨N,hN⟩:=qu h h1
  exact ⟨N,fun k hk=>by rw[hN k hk];exact U⟩
 unfold iv
 cases hd:sV o n with
 | false=>rw[hd] at e;cases e
 | true=>
  rw[hd] at e
  simp only[cond_true] at e⊢
  cases hg:o.guard with
  | none=>rw[hg] at e;exact go e
  | some gw=>
   obtain ⟨g,want⟩:=gw
   rw[hg] at e
   simp only at e⊢
   cases mD:(ops[g]?).bind (·.dst) with
   | none=>rw[mD] at e;cases e
   | some d=>
    rw[mD] at e
    simp only at e⊢
    cases np:mc (st.sl d) with
    | none=>rw[np] at e;cases e
    | some ob=>
    rw[np] at e
    cases ob with
    | none=>exact ⟨0,fun _ _=>e⟩
    | some b=>
    simp only at e⊢
    cases hb:b==want with
    | true=>rw[hb] at e;exact go e
    | false=>rw[hb] at e;exact ⟨0,fun _ _=>e⟩
theorem Te (h:BM C D) {n nb:Nat} {ops:Array Oper}: ∀{l:List (Nat × Oper)} {st:St} {log:Log} {r:St × Log},qe P A C n ops nb l st log=some r→∃N,∀k,N≤k→qe P A (D k) n ops nb l st log=some r
 | [],st,log,r,e=>⟨0,fun _ _=>e⟩
 | (i,o)::l,st,log,r,e=>by
  obtain ⟨x,h1,U⟩:=bind_some e
  obtain ⟨N1,pk⟩:=abR h h1
  obtain ⟨N2,rQ⟩:=Te h U
  exact ⟨max N1 N2,fun k hk=>by simp only[qe,pk k (by omega),Option.bind_some];exact rQ k (by omega)⟩
theorem Tf {X R:Type} {step:X→Option (X ⊕ R)} {stepD:Nat→X→Option (X ⊕ R)} (hs: ∀x y,step x=some y→∃N,∀k,N≤k→stepD k x=some y): ∀(n:Nat) (x:X) (r:R),fX step n x=some r→∃N,∀k,N≤k→fX (stepD k) n x=some r
 | 0,x,r,e=>by cases e
 | n+1,x,r,e=>by
  simp only[fX] at e⊢
  obtain ⟨y,h1,U⟩:=bind_some e
  obtain ⟨N1,pk⟩:=hs x y h1
  cases y with
  | inl z=>
   obtain ⟨N2,rQ⟩:=Tf hs n z r U
   exact ⟨max N1 N2,fun k hk=>by rw[pk k (by omega)];exact rQ k (by omega)⟩
  | inr q=>exact ⟨N1,fun k hk=>by rw[pk k hk];exact U⟩
theorem abS (h:BM C D) {f n m:Nat}: ∀(c:Code) {st:St} {r:Out × St},exec P A C f n m c st=some r→∃N,∀k,N≤k→exec P A (D k) f n m c st=some r:=by
 intro c
 induction c with
 | skip=>exact fun e=>⟨0,fun _ _=>e⟩
 | exit id=>exact fun e=>⟨0,fun _ _=>e⟩
 | ret=>exact fun e=>⟨0,fun _ _=>e⟩
 | region id ops draw=>
  intro st r e
  simp only[exec] at e⊢
  obtain ⟨x,h1,U⟩:=bind_some e
  obtain ⟨y,h3,h4⟩:=bind_some h1
  obtain ⟨N,hN⟩:=Te h h3
  refine ⟨N,fun k hk=> ?_⟩
  have:AL P (A.here f id) (D k) n ops draw st=some x:=by
   unfold AL
   rw[hN k hk]
   exact h4
  rw[this]
  exact U
 | seq x y jk jl=>
  intro st r e
  simp only[exec] at e⊢
  obtain ⟨⟨o,s1⟩,h1,U⟩:=bind_some e
  obtain ⟨N1,pk⟩:=jk h1
  cases o with
  | norm=>
   obtain ⟨N2,rQ⟩:=jl U
   exact ⟨max N1 N2,fun k hk=>by rw[pk k (by omega)];exact rQ k (by omega)⟩
  | exit id=>exact ⟨N1,fun k hk=>by rw[pk k hk];exact U⟩
  | ret=>exact ⟨N1,fun k hk=>by rw[pk k hk];exact U⟩
 | cond c x y jk jl=>
  intro st r e
  cases c with
  | tmp t=>
   have go: ∀{st:St} {r:Out × St},(match st.sl t with
     | .bool b=>(bif b then exec P A C f n m x st else exec P A C f n m y st).bind fun r=>
      match r.1 with
      | .norm=>some (.norm,canon m (A.join f t) r.2)
      | _=>some r
     | _=>none)=some r→∃N,∀k,N≤k→(match st.sl t with
     | .bool b=>(bif b then exec P A (D k) f n m x st else exec P A (D k) f n m y st).bind fun r=>
      match r.1 with
      | .norm=>some (.norm,canon m (A.join f t) r.2)
      | _=>some r
     | _=>none)=some r:=by
    intro st r e
    cases hs:st.sl t<;>rw[hs] at e<;>simp only at e⊢ <;>first|(cases e;done)|skip
    rename_i b
    obtain ⟨x1,h1,U⟩:=bind_some e
    cases b with
    | true=>
     obtain ⟨N,hN⟩:=jk h1
     exact ⟨N,fun k hk=>by simp only[cond_true,hN k hk,Option.bind_some];exact U⟩
    | false=>
     obtain ⟨N,hN⟩:=jl h1
     exact ⟨N,fun k hk=>by simp only[cond_false,hN k hk,Option.bind_some];exact U⟩
   simp only[exec] at e⊢
   split at e
   ·rename_i hS
    obtain ⟨N,hN⟩:=go e
    exact ⟨N,fun k hk=>hN k hk⟩
   ·rename_i S hS
    obtain ⟨ds,h1,U⟩:=bind_some e
    obtain ⟨e',h3,h4⟩:=bind_some U
    obtain ⟨r1,h5,h6⟩:=bind_some h3
    obtain ⟨N,hN⟩:=go h5
    refine ⟨N,fun k hk=> ?_⟩
    try rw[hS]
    simp only[h1,Option.bind_some]
    exact (congrArg (fun z:Option (Out × St)=>(z.bind fun r=>ways m 0 S.2 r).bind fun e=>mY 0 S.2 e.1 e.2 fun o st=>some (o,st)) (hN k hk)).trans (by simp only[Option.bind_some,h6];exact h4)
  | const v=>
   cases v with
   | bool b=>
    simp only[exec] at e⊢
    cases b with
    | true=>exact jk e
    | false=>exact jl e
   | _=>simp only[exec] at e;cases e
  | _=>simp only[exec] at e;cases e
 | block id c ih=>
  intro st r e
  simp only[exec] at e⊢
  obtain ⟨x1,h1,U⟩:=bind_some e
  obtain ⟨N,hN⟩:=ih h1
  exact ⟨N,fun k hk=>by rw[hN k hk];exact U⟩
 | loop c ih=>
  intro st r e
  simp only[exec] at e⊢
  split at e
  ·cases e
  ·rename_i S hS
   obtain ⟨ds,h1,U⟩:=bind_some e
   obtain ⟨e',h3,h4⟩:=bind_some U
   obtain ⟨q,hq⟩:=xh h3
   obtain ⟨N,hN⟩:=Tf (stepD:=fun k ds=>nY m S.1 S.2 (exec P A (D k) f n m c (bG S.1 ds))) (fun x y Gk=>by
    unfold nY at Gk⊢
    obtain ⟨z,h5,h6⟩:=bind_some Gk
    obtain ⟨N,hN⟩:=ih h5
    exact ⟨N,fun k hk=>by rw[hN k hk];exact h6⟩) q ds e' hq
   refine ⟨N,fun k hk=> ?_⟩
   try rw[hS]
   simp only[h1,Option.bind_some]
   rw[Ao (hN k hk)]
   exact h4
 | _=>intro st r e;simp only[exec] at e;cases e
theorem K3 (h:BM C D) {f:Nat} {ds es:List V} (e:rk P A C f ds=some es): ∃N,∀k,N≤k→rk P A (D k) f ds=some es:=by
 unfold rk at e⊢
 cases hf:P.funcs[A.im f]? with
 | none=>rw[hf] at e;cases e
 | some fn=>
  rw[hf] at e
  simp only at e⊢
  cases hb:fn.body with
  | none=>rw[hb] at e;cases e
  | some c=>
   rw[hb] at e
   simp only at e⊢
   cases hc:(kO 0 (A.sin f).cd&&(Nat.ble (A.sin f).cd.length fn.ntmps&&((A.sin f).ok&&(kO 0 (A.gU f).cd&&(Nat.beq (A.gU f).cd.length fn.results.size&&ri (oW (A.sin f).cE.length (A.mv f))))))) with
   | false=>rw[hc] at e;cases e
   | true=>
    rw[hc] at e
    simp only[cond_true] at e⊢
    obtain ⟨⟨o,s1⟩,h1,U⟩:=bind_some e
    obtain ⟨N1,pk⟩:=abS h c h1
    cases o with
    | exit id=>cases U
    | norm=>
     simp only[Aj] at U
     obtain ⟨x,e1,e2⟩:=U
     obtain ⟨N2,rQ⟩:=qu h e1
     exact ⟨max N1 N2,fun k hk=>by rw[pk k (by omega)];simp only[Option.bind_some,rQ k (by omega),Option.map_some,e2]⟩
    | ret=>
     simp only[Aj] at U
     obtain ⟨x,e1,e2⟩:=U
     obtain ⟨N2,rQ⟩:=qu h e1
     exact ⟨max N1 N2,fun k hk=>by rw[pk k (by omega)];simp only[Option.bind_some,rQ k (by omega),Option.map_some,e2]⟩
theorem Tg: ∀n f a r,mi P A n f a=some r→mi P A (n+1) f a=some r
 | 0,f,a,r,h=>by cases h
 | n+1,f,a,r,h=>by
  obtain ⟨N,hN⟩:=K3 (C:=mi P A n) (D:=fun _=>mi P A (n+1)) (fun f a r h=>⟨0,fun _ _=>Tg n f a r h⟩) h
  exact hN N (cl _)
theorem K4 {n k:Nat} (hk:n≤k) {f:Nat} {a r:List V} (h:mi P A n f a=some r):mi P A k f a=some r:=by
 induction hk with
 | refl=>exact h
 | step _ ih=>exact Tg _ _ _ _ ih
theorem Gl {f:Nat} {a r:List V}:Call P A f a=some r↔∃n,mi P A n f a=some r:=by
 constructor
 ·intro h
  unfold Call at h
  split at h
  ·rename_i hex
   have:=hex.choose_spec.choose_spec
   rw[dh h] at this
   exact ⟨_,this⟩
  ·cases h
 ·rintro ⟨n,hn⟩
  have hex: ∃n r,mi P A n f a=some r:=⟨n,r,hn⟩
  unfold Call
  rw[sA hex]
  have U:=hex.choose_spec.choose_spec
  have h3:=K4 (Nat.le_max_left n hex.choose) hn
  have h4:=K4 (Nat.le_max_right n hex.choose) U
  rw[h3] at h4
  exact h4.symm
theorem abT (f:Nat) (a:List V):Call P A f a=rk P A (Call P A) f a:=by
 apply Option.ext
 intro r
 constructor
 ·intro h
  obtain ⟨n,hn⟩:=Gl.1 h
  cases n with
  | zero=>cases hn
  | succ n=>
   obtain ⟨N,hN⟩:=K3 (C:=mi P A n) (D:=fun _=>Call P A) (fun f a r h=>⟨0,fun _ _=>Gl.2 ⟨n,h⟩⟩) hn
   exact hN N (cl _)
 ·intro h
  obtain ⟨N,hN⟩:=K3 (C:=Call P A) (D:=mi P A) (fun f a r h=>by
   obtain ⟨n,hn⟩:=Gl.1 h
   exact ⟨n,fun k hk=>K4 hk hn⟩) h
  exact Gl.2 ⟨N+1,hN N (cl _)⟩
end
end Go.AM
namespace Go.AM
open Go.ChangeShapes Go.WideShapes Go.RowKit
section
variable (P:Program)
inductive WT:TypeId→V→Prop
 | int {t:TypeId} {k:IntKind} {n:Int}:P.underlying t=some (.int k)→(Lit.int k n).wf=true→WT t (.int k n)
 | bool {t:TypeId} {b:Bool}:P.underlying t=some .bool→WT t (.bool b)
 | str {t:TypeId} {l:List UInt8}:P.underlying t=some .string→l.length≤maxLen→WT t (.str l)
 | list {t e:TypeId} {es:List V}:P.underlying t=some (.slice e)→es.length≤maxLen→
   (∀(i:Nat) x,es[i]? =some x→bM P e=true→∃xs,x= .agg xs∧xs.length=(aW P e).length)→
   (∀(i j:Nat) x t',es[i]? =some x→(aW P e)[j]? =some t'→WT t' (bR P e x j))→WT t (.list e es)
def fV (t:TypeId) (x:V):Prop:=
 (bM P t=true→∃xs,x= .agg xs∧xs.length=(aW P t).length)∧∀(j:Nat) t',(aW P t)[j]? =some t'→WT P t' (bR P t x j)
def qO:List TypeId→List V→Prop
 | [],[]=>True
 | t::ts,x::xs=>fV P t x∧qO ts xs
 | _,_=>False
def hasB (L:List TypeId) (t:TypeId):Bool:=L.any fun u=>Nat.beq u t
def Gm (L:List TypeId):Nat→List Field→Bool
 | _,[]=>true
 | n,f::fs=>hasB L f.type&&(Nat.beq f.offset n&&(Nat.beq (P.cellsOf f.type) (aW P f.type).length&&Gm L (n+P.cellsOf f.type) fs))
def BN:List Nat→List Nat→Bool
 | [],[]=>true
 | a::l,b::m=>Nat.beq a b&&BN l m
 | _,_=>false
def K5 (L:List TypeId) (t:TypeId):Bool:=
 Nat.beq (P.cellsOf t) (aW P t).length&&
 match P.underlying t with
 | some (.int _)=>true
 | some .bool=>true
 | some .string=>true
 | some (.slice e)=>hasB L e&&cR P e
 | some (.struct fs)=>Gm P L 0 fs.toList&&BN (flat P t) (fs.toList.flatMap fun f=>aW P f.type)
 | some (.array n e)=>hasB L e&&(Nat.beq (P.cellsOf e) (aW P e).length&&BN (flat P t) (List.replicate n (aW P e)).flatten)
 | _=>false
def BO (L:List TypeId):Bool:=L.all fun t=>K5 P L t
end
theorem Gn {L:List TypeId} {t:TypeId} (h:hasB L t=true):t∈L:=by
 obtain ⟨u,hu,U⟩:=oP.1 h
 rw[aX] at U
 exact U▸hu
theorem K6: ∀{l m:List Nat},BN l m=true→l=m
 | [],[],_=>rfl
 | a::l,b::m,h=>by
  simp only[BN,aO,aX] at h
  rw[h.1,K6 h.2]
 | [],_::_,h=>by cases h
 | _::_,[],h=>by cases h
section
variable {P:Program} {H:Type} {enc:TypeId × Value→H} {w:World} {base:Nat} {spare:Nat→Bool} {held:Bool} {L:List TypeId}
def ot (w:World):Nat→Nat→Prop:=fun b _=>b<w.heap.size
def ou (P:Program) (w:World) (ts:List TypeId) (cs:List Value) (xs:List V):Prop:=
 cs.length=ts.length∧xs.length=ts.length∧∀(j:Nat) t',ts[j]? =some t'→∃v y,cs[j]? =some v∧xs[j]? =some y∧Pure P w (ot w) t' v y∧WT P t' y
theorem ou.app {ts xq:List TypeId} {cs iZ:List Value} {xs Th:List V} (h:ou P w ts cs xs) (h':ou P w xq iZ Th):ou P w (ts++xq) (cs++iZ) (xs++Th):=by
 obtain ⟨a,b,c⟩:=h
 obtain ⟨a',b',c'⟩:=h'
 refine ⟨by simp[a,a'],by simp[b,b'],fun j t' hj=> ?_⟩
 by_cases aJ:j<ts.length
 ·rw[gi aJ] at hj
  obtain ⟨v,y,e1,e2,e3⟩:=c j t' hj
  exact ⟨v,y,by rw[gi (by omega)];exact e1,by rw[gi (by omega)];exact e2,e3⟩
 ·rw[ik (by omega)] at hj
  obtain ⟨v,y,e1,e2,e3⟩:=c' _ t' hj
  exact ⟨v,y,by rw[ik (by omega),a];exact e1,by rw[ik (by omega),b];exact e2,e3⟩
theorem abU {w:World} {a:Addr} {v:Value} (h:w.cell? a=some v):a.spot=none∧a.block<w.heap.size:=by
 unfold World.cell? at h
 split at h
 ·rename_i hh
  split at h
  ·cases h
  ·rename_i hs
   exact ⟨by simpa using hs,(iQ.1 hh).1⟩
 all_goals (first|cases h|skip)
theorem Ti {rd:TypeId→List Value→Option (DataW H × List MemPlace)} (cs:List Value)
  (ih: ∀t cs x,t∈L→rd t cs=some x→∃xs,ou P w (aW P t) cs xs): ∀(fs:List Field) (n:Nat),Gm P L n fs=true→
  (∀f∈fs,∃x,rd f.type ((cs.drop f.offset).take (P.cellsOf f.type))=some x)→∃m xs,n≤m∧ou P w (fs.flatMap fun f=>aW P f.type) ((cs.drop n).take (m-n)) xs∧m-n=(fs.flatMap fun f=>aW P f.type).length
 | [],n,_,_=>⟨n,[],cl _,⟨by simp,rfl,by simp⟩,by simp⟩
 | f::fs,n,h,hx=>by
  simp only[Gm,aO,aX] at h
  obtain ⟨h1,U,h3,h4⟩:=h
  obtain ⟨x,hxf⟩:=hx f (by simp)
  obtain ⟨xs,g9⟩:=ih _ _ _ (Gn h1) hxf
  obtain ⟨m,ys,hm,rR,KS⟩:=Ti cs ih fs (n+P.cellsOf f.type) h4 fun g hg=>hx g (by simp[hg])
  refine ⟨m,xs++ys,by omega,?_,by simp only[l9,cg];omega⟩
  have:=g9.app rR
  rw[l9]
  rw[U] at this
  have e:(cs.drop n).take (m-n)=(cs.drop n).take (P.cellsOf f.type)++(cs.drop (n+P.cellsOf f.type)).take (m-(n+P.cellsOf f.type)):=by
   rw[show m-n=P.cellsOf f.type+(m-(n+P.cellsOf f.type)) by omega,List.take_add,qT]
  rw[e]
  exact this
theorem Tj {rd:List Value→Option (DataW H × List MemPlace)} (cs:List Value) {e:TypeId} (hs:P.cellsOf e=(aW P e).length)
  (ih: ∀cs x,rd cs=some x→∃xs,ou P w (aW P e) cs xs): ∀(n:Nat),
  (∀i,i<n→∃x,rd ((cs.drop (i*P.cellsOf e)).take (P.cellsOf e))=some x)→∃xs,ou P w (List.replicate n (aW P e)).flatten (cs.take (n*P.cellsOf e)) xs
 | 0,_=>⟨[],by simp,rfl,by simp⟩
 | n+1,hx=>by
  obtain ⟨xs,g9⟩:=Tj cs hs ih n fun i hi=>hx i (by omega)
  obtain ⟨x,pc⟩:=hx n (by omega)
  obtain ⟨ys,rR⟩:=ih _ _ pc
  refine ⟨xs++ys,?_⟩
  rw[List.replicate_succ',List.flatten_append]
  have:=g9.app rR
  rw[dG,Nat.one_mul,List.take_add]
  simpa using this
theorem Gp (hL:BO P L=true): ∀(fuel:Nat) (t:TypeId) (cs:List Value) (x:DataW H × List MemPlace),t∈L→DataW.trod enc P w base spare held fuel t cs=some x→
  ∃xs,ou P w (aW P t) cs xs
 | 0,_,_,_,_,h=>by cases h
 | fuel+1,t,cs,x,ht,h=>by
  have hg:=fy.1 hL t ht
  unfold K5 at hg
  rw[aO,aX] at hg
  obtain ⟨hc,hg⟩:=hg
  have one:bM P t=false→aW P t=[t]:=fun h=>by simp[aW,h]
  cases hu:P.underlying t with
  | none=>rw[hu] at hg;cases hg
  | some d=>
   rw[hu] at hg
   cases d with
   | int k=>
    obtain ⟨n,rfl,rfl,BP⟩:=DataW.trod_int hu h
    rw[one (by simp[bM,hu])]
    exact ⟨[.int k n],rfl,rfl,fun j t' hj=>by
     cases j with
     | zero=>cases hj;exact ⟨_,_,rfl,rfl,.int hu,.int hu BP⟩
     | succ j=>simp at hj⟩
   | bool=>
    obtain ⟨b,rfl,rfl⟩:=DataW.trod_bool hu h
    rw[one (by simp[bM,hu])]
    exact ⟨[.bool b],rfl,rfl,fun j t' hj=>by
     cases j with
     | zero=>cases hj;exact ⟨_,_,rfl,rfl,.bool hu,.bool hu⟩
     | succ j=>simp at hj⟩
   | string=>
    obtain ⟨s,rfl,rfl,hl⟩:=DataW.trod_string hu h
    rw[one (by simp[bM,hu])]
    exact ⟨[.str s.data.toList],rfl,rfl,fun j t' hj=>by
     cases j with
     | zero=>cases hj;exact ⟨_,_,rfl,rfl,.str hu rfl,.str hu (by simpa using hl)⟩
     | succ j=>simp at hj⟩
   | slice e=>
    simp only[aO] at hg
    obtain ⟨he,ar⟩:=hg
    rw[one (by simp[bM,hu])]
    have single: ∀v y,cs=[v]→Pure P w (ot w) t v y→WT P t y→∃xs,ou P w [t] cs xs:=by
     rintro v y rfl a b
     exact ⟨[y],rfl,rfl,fun j t' hj=>by
      cases j with
      | zero=>cases hj;exact ⟨_,_,rfl,rfl,a,b⟩
      | succ j=>simp at hj⟩
    rcases DataW.trod_slice hu h with ⟨rfl,rfl⟩|⟨a,len,cap,elems,rest,n,hn,rfl,rfl,hb,hl,hm,hlen,dg,_,_⟩
    ·exact single _ _ rfl (.nil hu) (.list hu (by simp) (by simp) (by simp))
    ·cases hn
     have iE:=(lE ar).2
     have Rb:P.cellsOf e=(aW P e).length:=(eR ar).symm
     have key: ∀i,i<len→∃iZ xs,w.cells? base (a.add (i*P.cellsOf e)) (P.cellsOf e)=some iZ∧ou P w (aW P e) iZ xs:=by
      intro i hi
      have h1:=dg i hi
      rw[bA (by omega)] at h1
      obtain ⟨iZ,U,h3⟩:=Option.bind_eq_some_iff.1 h1
      obtain ⟨xs,g9⟩:=Gp hL fuel e iZ _ (Gn he) h3
      exact ⟨iZ,xs,U,g9⟩
     by_cases h0:len=0
     ·subst h0
      exact single _ _ rfl (.emp hu) (.list hu (by simp) (by simp) (by simp))
     ·have iG:a.spot=none∧a.block<w.heap.size:=by
       obtain ⟨iZ,xs,U,_⟩:=key 0 (by omega)
       obtain ⟨_,h3,h4⟩:=World.cells?_some U
       have h5:=h4 0 iE
       rw[bA (by omega)] at h5
       have:=abU h5
       simpa[Addr.add] using this
      have hF: ∃(F:Nat→List Value) (X:Nat→List V),∀i,i<len→w.cells? base (a.add (i*P.cellsOf e)) (P.cellsOf e)=some (F i)∧ou P w (aW P e) (F i) (X i):=by
       refine ⟨fun i=>if hi:i<len then (key i hi).choose else [],fun i=>if hi:i<len then (key i hi).choose_spec.choose else [],fun i hi=> ?_⟩
       simp only[sA hi]
       exact (key i hi).choose_spec.choose_spec
      obtain ⟨F,X,K7⟩:=hF
      have hx: ∀(i j:Nat) y t',((List.range len).map fun i=>cS P e (X i))[i]? =some y→(aW P e)[j]? =some t'→i<len∧∃v,(F i)[j]? =some v∧Pure P w (ot w) t' v (bR P e y j)∧WT P t' (bR P e y j):=by
       intro i j y t' hy hj
       have hi:i<len:=by
        have:=(bm.1 hy).1
        simpa using this
       refine ⟨hi,?_⟩
       simp[List.getElem?_range hi] at hy
       obtain ⟨c1,c2,c3⟩:=(K7 i hi).2
       obtain ⟨v,z,d1,d2,d3,d4⟩:=c3 j t' hj
       have:bR P e y j=z:=by
        rw[←hy]
        unfold bR cS
        cases ha:bM P e with
        | true=>
         simp only[cond_true,V.cell]
         rw[uY _ _ _ d2]
        | false=>
         simp only[cond_false]
         have:aW P e=[e]:=by simp[aW,ha]
         rw[this] at hj
         cases j with
         | zero=>rw[uY _ _ _ d2]
         | succ j=>simp at hj
       rw[this]
       exact ⟨v,d1,d3,d4⟩
      have fM: ∀i j,i<len→j<P.cellsOf e→w.cell? ⟨a.block,a.off+(i*P.cellsOf e+j),none⟩=some ((F i).getD j undef):=by
       intro i j hi hj
       obtain ⟨h1,U⟩:=K7 i hi
       obtain ⟨_,h3,h4⟩:=World.cells?_some h1
       have h5:=h4 j hj
       rw[Go.Deep.add_add] at h5
       have e1:a.add (i*P.cellsOf e+j)=⟨a.block,a.off+(i*P.cellsOf e+j),none⟩:=by
        obtain ⟨b,o,s⟩:=a
        simp only at iG
        rw[iG.1]
        exact mn ..
       rw[e1] at h5
       rw[h5,fA,bA (by omega)]
       rfl
      have ha:a=⟨a.block,a.off,none⟩:=by
       obtain ⟨b,o,s⟩:=a
       simp only at iG
       rw[iG.1]
      refine single (.slice (some a) len cap) (.list e ((List.range len).map fun i=>cS P e (X i))) rfl ?_ ?_
      ·rw[ha]
       refine .list (fun i j=>(F i).getD j undef) hu (by simp) hl (fun _ _=>iG.2) fM ?_
       intro i j y t' hy hj
       obtain ⟨hi,v,d1,d2,_⟩:=hx i j y t' hy hj
       rw[fA,d1]
       exact d2
      ·refine .list hu (by simp;omega) ?_ ?_
       ·intro i y hy Gq
        have hi:i<len:=by
         have:=(bm.1 hy).1
         simpa using this
        simp[List.getElem?_range hi] at hy
        rw[←hy]
        exact ⟨X i,by simp[cS,Gq],(K7 i hi).2.2.1⟩
       ·intro i j y t' hy hj
        obtain ⟨_,v,_,_,d3⟩:=hx i j y t' hy hj
        exact d3
   | struct fs=>
    simp only[aO] at hg
    obtain ⟨xs,n,hn,rfl,hlen,nj,hx⟩:=DataW.trod_struct hu h
    cases hn
    have het:aW P t=fs.toList.flatMap fun f=>aW P f.type:=by
     rw[←K6 hg.2]
     simp[aW,bM,hu]
    obtain ⟨m,ys,_,rR,hm⟩:=Ti (w:=w) (rd:=fun t cs=>DataW.trod enc P w base spare held fuel t cs) cs (fun t cs x a b=>Gp hL fuel t cs x a b) fs.toList 0 hg.1 (by
     intro f hf
     obtain ⟨i,hi⟩:=qR hf
     rw[lq] at hi
     have rG:i<fs.size:=(iQ.1 hi).1
     exact ⟨_,(hx i f hi).trans (bA (by omega))⟩)
    rw[het]
    refine ⟨ys,?_⟩
    have:(cs.drop 0).take (m-0)=cs:=by
     rw[jF,hm,←het,←hc,←hlen,qQ]
    rw[this] at rR
    exact rR
   | array n e=>
    simp only[aO,aX] at hg
    obtain ⟨xs,m,hn,rfl,hlen,nj,hx⟩:=DataW.trod_array hu h
    cases hn
    have het:aW P t=(List.replicate n (aW P e)).flatten:=by
     rw[←K6 hg.2.2]
     simp[aW,bM,hu]
    obtain ⟨ys,rR⟩:=Tj (w:=w) (rd:=DataW.trod enc P w base spare held fuel e) cs hg.2.1 (fun cs x b=>Gp hL fuel e cs x (Gn hg.1) b) n (by
     intro i hi
     exact ⟨_,(hx i hi).trans (bA (by omega))⟩)
    rw[het]
    refine ⟨ys,?_⟩
    have:cs.take (n*P.cellsOf e)=cs:=by
     have:n*P.cellsOf e=cs.length:=by
      rw[hlen,hc,het,hg.2.1]
      simp
     rw[this,qQ]
    rw[this] at rR
    exact rR
   | _=>cases hg
end
section
variable {P:Program} {H:Type} {enc:TypeId × Value→H} {w:World} {L:List TypeId}
theorem abV {base K8:Nat} {spare:Nat→Bool} {held:Bool} {r:Reach} {β:Nat→Option Nat} {hp:Nat→Option ai} (hL:BO P L=true) {t:TypeId} {v:Value} {d:DataW H} {ps:List MemPlace} (ht:t∈L) (fw:Value.okWide P w r K8 t v)
  (h:DataW.Trod enc P w base spare held t v d ps): ∃x,ak P w (ot w) β hp v x∧fV P t x:=by
 obtain ⟨fuel,hf⟩:=h
 obtain ⟨xs,c1,c2,c3⟩:=Gp hL fuel t _ _ ht hf
 have hg:=fy.1 hL t ht
 unfold K5 at hg
 rw[aO,aX] at hg
 obtain ⟨_,hg⟩:=hg
 have Gq:bM P t=true→∃x,ak P w (ot w) β hp v x∧fV P t x:=by
  intro ha
  have hv: ∃cs,v= .agg cs:=by
   unfold Value.okWide at fw
   unfold bM at ha
   split at fw
   ·obtain ⟨cs,e,_⟩:=fw;exact ⟨cs,e⟩
   ·obtain ⟨cs,e,_⟩:=fw;exact ⟨cs,e⟩
   ·split at ha<;>simp_all
  obtain ⟨cs,rfl⟩:=hv
  refine ⟨.agg xs,.agg (by simpa[Value.cells] using c1.trans c2.symm) fun j v x hv hx=> ?_,fun _=>⟨xs,rfl,c2⟩,fun j t' hj=> ?_⟩
  ·have hj:j<(aW P t).length:=by rw[←c2];exact (bm.1 hx).1
   obtain ⟨v',y,e1,e2,e3,_⟩:=c3 j _ (bA hj)
   rw[hx] at e2
   cases e2
   have:cs[j]? =some v':=by simpa[Value.cells] using e1
   rw[hv] at this
   cases this
   exact .rn e3
  ·obtain ⟨v',y,e1,e2,_,e4⟩:=c3 j t' hj
   have:bR P t (.agg xs) j=y:=by
    simp only[bR,ha,cond_true,V.cell]
    exact uY _ _ _ e2
   rw[this]
   exact e4
 have o4:bM P t=false→v.cells= #[v]→∃x,ak P w (ot w) β hp v x∧fV P t x:=by
  intro ha u9
  have he:aW P t=[t]:=by simp[aW,ha]
  rw[he] at c1 c2 c3
  obtain ⟨v',y,e1,e2,e3,e4⟩:=c3 0 t rfl
  rw[u9] at e1
  cases e1
  refine ⟨y,.rn e3,⟨fun h=>absurd (ha.symm.trans h) (by simp),fun j t' hj=> ?_⟩⟩
  rw[he] at hj
  cases j with
  | succ j=>simp at hj
  | zero=>
   cases hj
   simpa[bR,ha] using e4
 unfold Value.okWide at fw
 cases hu:P.underlying t with
 | none=>rw[hu] at hg;cases hg
 | some dsc=>
  rw[hu] at hg fw
  cases dsc with
  | int k=>
   refine o4 (by simp[bM,hu]) ?_
   simp only[Cell.okWide,Cell.ok,hu] at fw
   cases v<;>first|rfl|(simp at fw;done)|exact fw.elim
  | bool=>
   refine o4 (by simp[bM,hu]) ?_
   simp only[Cell.okWide,Cell.ok,hu] at fw
   cases v<;>first|rfl|(simp at fw;done)|exact fw.elim
  | string=>
   refine o4 (by simp[bM,hu]) ?_
   simp only[Cell.okWide,Cell.ok,hu] at fw
   cases v<;>first|rfl|(simp at fw;done)|exact fw.elim
  | slice e=>
   refine o4 (by simp[bM,hu]) ?_
   simp only[Cell.okWide,Cell.ok,hu] at fw
   cases v<;>first|rfl|(simp at fw;done)|exact fw.elim
  | struct fs=>exact Gq (by simp[bM,hu])
  | array n e=>exact Gq (by simp[bM,hu])
  | _=>cases hg
theorem Tk {base K8:Nat} {spare:Nat→Bool} {held:Bool} {r:Reach} {β:Nat→Option Nat} {hp:Nat→Option ai} (hL:BO P L=true): ∀{ts:List TypeId} {vs:List Value} {ds:List (DataW H)} {ps:List MemPlace},
  (∀t∈ts,t∈L)→(∀(j:Nat) t v,ts[j]? =some t→vs[j]? =some v→Value.okWide P w r K8 t v)→DataW.TrodAll enc P w base spare held ts vs ds ps→
  ∃xs,vs.length=xs.length∧(∀(j:Nat) v x,vs[j]? =some v→xs[j]? =some x→ak P w (ot w) β hp v x)∧qO P ts xs
 | [],vs,ds,ps,_,_,h=>by
  obtain ⟨rfl,rfl,rfl⟩:=trodAll_nil h
  exact ⟨[],rfl,by simp,trivial⟩
 | t::ts,vs,ds,ps,hm,fw,h=>by
  obtain ⟨v,Ff,d,Tl,a,b,rfl,rfl,rfl,h1,U⟩:=trodAll_cons h
  obtain ⟨x,pc,mu⟩:=abV (β:=β) (hp:=hp) hL (hm t (by simp)) (fw 0 t v rfl rfl) h1
  obtain ⟨xs,hl,hr,hw⟩:=Tk (β:=β) (hp:=hp) hL (fun t ht=>hm t (by simp[ht])) (fun j t v a b=>fw (j+1) t v (by simpa using a) (by simpa using b)) U
  refine ⟨x::xs,by simp[hl],fun j v' x' hv hx=> ?_,mu,hw⟩
  cases j with
  | zero=>cases hv;cases hx;exact pc
  | succ j=>exact hr j v' x' (by simpa using hv) (by simpa using hx)
theorem Tm {base:Nat} {spare:Nat→Bool} {held:Bool}: ∀{ts:List TypeId} {vs:List Value} {ds:List (DataW H)} {ps:List MemPlace},DataW.TrodAll enc P w base spare held ts vs ds ps→ds.length=ts.length
 | [],vs,ds,ps,h=>by obtain ⟨rfl,rfl,rfl⟩:=trodAll_nil h;rfl
 | t::ts,vs,ds,ps,h=>by
  obtain ⟨v,Ff,d,Tl,a,b,rfl,rfl,rfl,h1,U⟩:=trodAll_cons h
  simp[Tm U]
theorem Tn {base:Nat} (hl:laidOutB P=true) {W W':World} {To:Nat→Bool}: ∀{ts:List TypeId} {vs:List Value} {ds:List (DataW H)} {ps:List MemPlace},(∀t∈ts,P.readableRec t=true∧t<P.types.size)→
  DataW.TrodAll enc P W base (fun _=>true) true ts vs ds ps→(∀p∈ps,W.sameAt W' p)→(∀p∈ps,To p.block=true)→DataW.TrodAll enc P W' base To true ts vs ds ps
 | [],vs,ds,ps,_,h,_,_=>by obtain ⟨rfl,rfl,rfl⟩:=trodAll_nil h;exact trodAll_mk0
 | t::ts,vs,ds,ps,hr,h,h1,U=>by
  obtain ⟨v,Ff,d,Tl,a,b,rfl,rfl,rfl,h3,h4⟩:=trodAll_cons h
  obtain ⟨r1,r2⟩:=hr t (by simp)
  exact trodAll_cons_mk (WideElems.Trod_stays hl r1 r2 h3 (fun p hp=>h1 p (by simp[hp])) (fun p hp=>U p (by simp[hp])))
   (Tn hl (fun t ht=>hr t (by simp[ht])) h4 (fun p hp=>h1 p (by simp[hp])) (fun p hp=>U p (by simp[hp])))
theorem abW {f:Func} {s:ChangeSpec} {apart fresh handsOn again:Bool} {W W':World} {args:Array Value} {v:Value} {ds gs:List (DataW H)} {before pa pv:List MemPlace}
  (hW:DataW.Whole enc P f.params.toList s.vars apart W args.toList ds gs before)
  (Tp: ∀(b:Nat) (sp:Nat→Bool) (hd:Bool),DataW.TrodAll enc P W' b sp hd f.resultTypes.toList (v.resultList f.resultTypes.size) (s.fn H (ds++gs)).results [])
  (vo: ∀sp:Nat→Bool,(∀p∈before,sp p.block=true)→DataW.TrodAll enc P W' 0 sp true f.params.toList args.toList (s.fn H (ds++gs)).args pa)
  (Tq: ∀sp:Nat→Bool,(∀p∈before,sp p.block=true)→DataW.TrodVars enc P W' sp s.vars (s.fn H (ds++gs)).vars pv)
  (Gr:before=pa++pv) (hk:W.keptBut W' (· ∈before)) (K9: ∀a:Addr,a.block<W.heap.size→W'.frozen? a=W.frozen? a)
  (ar: ∀(j:Nat) (t:TypeId) (r:Value),f.resultTypes[j]? =some t→(v.resultList f.resultTypes.size)[j]? =some r→Value.okWide P W' .any 0 t r):
  s.post enc P f apart fresh handsOn again W args v W':=by
 have hold: ∀p∈before,(fun b=>decide (b<W.heap.size)) p.block=true:=fun p hp=>by simpa using hW.lt p hp
 refine ⟨ds,gs,before,[],pa,pv,hW,Tp _ _ _,vo _ hold,Tq _ hold,World.keptBut_mono (fun p hp=>⟨hp,?_⟩) hk,fun _=> ?_⟩
 ·rw[Gr,eZ] at hp
  exact Or.inr hp
 ·have aJ:=hW.lt
  obtain ⟨_,_,_,_,_,hz,hn⟩:=hW
  refine ⟨ar,_,_,([]++pa)++pv,⟨[]++pa,pv,trodAll_append (vo _ (fun _ _=>rfl)) (Tp _ _ _),Tq _ (fun _ _=>rfl),rfl,?_,?_⟩,?_⟩
  ·intro b off hp
   have hb:MemPlace.cell b off∈before:=by rw[Gr];simpa using hp
   rw[K9 ⟨b,off,none⟩ (aJ _ hb)]
   exact hz b off hb
  ·intro ha
   have:=hn ha
   rw[Gr] at this
   simpa using this
  ·intro p hp _
   rw[Gr]
   simpa using hp
theorem abY {A:cT} (hP:jw P A) (oq:P.follows .mixedOrders=true) {f key:Nat} {fn:Func} {tb:TypeId} {s:ChangeSpec} {apart fresh handsOn again:Bool}
  (hf:P.funcs[f]? =some fn) (La:A.im key=f) (hL:BO P L=true) (ch:fn.params.toList.all (fun t=>hasB L t)=true) (Gt:fn.resultTypes= #[tb]) (Gu:P.underlying tb=some .bool) (Gv:s.vars=[])
  (hs: ∀ds:List (DataW H),ds.length=fn.params.toList.length→s.fn H ds={results:=[.lit (.bool true)],args:=ds})
  (Lb:laidOutB P=true) (Lc:fn.params.toList.all (fun t=>P.readableRec t&&Nat.blt t P.types.size)=true)
  (mr:(A.sin key).cE=[]) (ar:((A.sin key).cd.map (·.2)).all (VS.ok 0)=true) (Ld:(A.gU key).cd=[(0,.one .bool)]) (halt:A.alt key=none)
  {W:World} {base:Nat} {args:Array Value} {ds gs:List (DataW H)} {before:List MemPlace}
  (Lf:gA P A.aE W (ot W)) (fw: ∀(j:Nat) t v,fn.params[j]? =some t→args[j]? =some v→Value.okWide P W .any base t v)
  (hW:DataW.Whole enc P fn.params.toList s.vars apart W args.toList ds gs before) (Q:List V→Prop)
  (hQ: ∀xs:List V,qO P fn.params.toList xs→(∀(j:Nat) v x,args.toList[j]? =some v→xs[j]? =some x→ak P W (ot W) (fun _=>none) (fun _=>none) v x)→Q xs)
  (Lg: ∀xs,qO P fn.params.toList xs→Q xs→∃ds,qP ((A.sin key).cd.map (·.2)) xs=some ds∧Call P A key ds=some [.bool true]):
  Calls P f args W fun e W'=> ∃v,e= .returned v∧s.post enc P fn apart fresh handsOn again W args v W':=by
 have Tr:=hW
 obtain ⟨p,q,hA,hV,rfl,K9,jv⟩:=hW
 rw[Gv] at hV
 obtain ⟨Lh,hq⟩:gs=[]∧q=[]:=by
  cases gs with
  | nil=>exact ⟨rfl,hV⟩
  | cons g gs=>exact hV.elim
 subst Lh
 subst hq
 obtain ⟨xs,hl,hr,Ts⟩:=Tk (β:=fun _=>none) (hp:=fun _=>none) hL (fun t ht=>Gn (fy.1 ch t ht)) (fun j t v a b=>fw j t v (by simpa using a) (by simpa using b)) hA
 obtain ⟨ls,hls,BD⟩:=Lg xs Ts (hQ xs Ts hr)
 obtain ⟨fn',c,h1,U,h3⟩:=abQ (A:=A) hP oq key ls [.bool true] BD
 rw[La] at h1 h3
 rw[hf] at h1
 cases h1
 have yf: ∀j,(bG (A.sin key) ls).hp j=none:=fun j=>by simp[bG,mk,mr,e9,j6]
 obtain ⟨_,r1,r2⟩:=Bt (P:=P) (w:=W) (I:=ot W) (n:=0) (β:=fun _=>none) (β':=fun _=>none) (hp:=fun _=>none) (hp':=(bG (A.sin key) ls).hp) (fun j hj=>absurd hj (Nat.not_lt_zero j)) hls ar
 have hlen:((A.sin key).cd.map (·.2)).length=xs.length:=by rw[←r1 [],K2]
 have h4:=h3 W (ot W) (fun _=>none) args.toList ⟨fun id blk h=>(by rw[yf] at h;cases h),fun id aw blk blk' b h=>(by rw[yf] at h;cases h),fun id blk b h=>(by rw[yf] at h;cases h),fun b j h=>h⟩ Lf
  (by rw[hl,←hlen,aK]) (fun j v y hv hy=>r2 [] j v y (fun x hx=>hr j v x hv hx) (by rw[dr];exact hy))
 have ea:args.toList.toArray=args:=by simp
 rw[ea] at h4
 refine h4.mono fun e W' ⟨v,I2,cm,he,ha⟩=>⟨v,he,?_⟩
 have u3: ∀b,b<W.heap.size→W'.heap[b]? =W.heap[b]? :=fun b hb=>ha.xX.cx b hb (by rintro ⟨j,blk,hj,_⟩;rw[yf] at hj;cases hj)
 have vf:=ha.res
 have Tt:A.so key [.bool true]=A.gU key∧A.lv key [.bool true]=[.bool true]:=by unfold cT.so cT.lv;rw[halt];exact ⟨rfl,rfl⟩
 rw[Tt.1,Tt.2,Ld] at vf
 obtain rfl:v= .bool true:=vf.kT
 have mz:Value.okWide P W' .any 0 tb (.bool true):=by simp[Value.okWide,Gu,Cell.okWide,Cell.ok]
 have lW:ds.length=fn.params.toList.length:=Tm hA
 have hG: ∀p'∈p++[],W.sameAt W' p':=by
  intro p' hp'
  have aJ:=Tr.lt p' hp'
  cases p' with
  | cell b o=>exact World.cell?_of_block (w:=W) (u3 b aJ)
  | map b=>exact u3 b aJ
 refine abW (pa:=p) (pv:=[]) Tr ?_ ?_ ?_ rfl ?_ ?_ ?_
 ·intro b sp hd
  rw[dr,hs ds lW,Gt]
  exact trodAll_mk1 ⟨1,by simp[DataW.trod,Value.cells,Gu]⟩
 ·intro sp iG
  rw[dr,hs ds lW]
  refine Tn Lb (fun t ht=> ?_) hA (fun p' hp'=>hG p' (by simpa using hp')) (fun p' hp'=>iG p' (by simpa using hp'))
  have:=fy.1 Lc t ht
  simp only[aO] at this
  exact ⟨this.1,by simpa[jZ] using this.2⟩
 ·intro sp iG
  rw[Gv,dr,hs ds lW]
  exact rfl
 ·refine ⟨ha.xX.io.1,ha.xX.io.2,fun i hi=> ?_⟩
  rw[u3 i hi]
  split<;>simp_all
 ·intro a aJ
  exact World.frozen?_of_block (w:=W) (u3 a.block aJ)
 ·intro j t r hj Li
  rw[Gt] at hj Li
  cases j with
  | zero=>
   simp[Value.resultList] at hj Li
   subst hj
   subst Li
   exact mz
  | succ j=>simp at hj
theorem YO {A:cT} (hP:jw P A) (oq:P.follows .mixedOrders=true) {f key:Nat} {fn:Func} {tb:TypeId} {s:ChangeSpec} {apart fresh handsOn again:Bool}
  (hf:P.funcs[f]? =some fn) (La:A.im key=f) (hL:BO P L=true) (ch:fn.params.toList.all (fun t=>hasB L t)=true) (Gt:fn.resultTypes= #[tb]) (Gu:P.underlying tb=some .bool) (Gv:s.vars=[])
  (hs: ∀ds:List (DataW H),ds.length=fn.params.toList.length→s.fn H ds={results:=[.lit (.bool true)],args:=ds})
  (Lb:laidOutB P=true) (Lc:fn.params.toList.all (fun t=>P.readableRec t&&Nat.blt t P.types.size)=true)
  (mr:(A.sin key).cE=[]) (ar:((A.sin key).cd.map (·.2)).all (VS.ok 0)=true) (Ld:(A.gU key).cd=[(0,.one .bool)]) (halt:A.alt key=none)
  (Lg: ∀xs,qO P fn.params.toList xs→∃ds,qP ((A.sin key).cd.map (·.2)) xs=some ds∧Call P A key ds=some [.bool true])
  {W:World} {base:Nat} {args:Array Value} {ds gs:List (DataW H)} {before:List MemPlace}
  (Lf:gA P A.aE W (ot W)) (fw: ∀(j:Nat) t v,fn.params[j]? =some t→args[j]? =some v→Value.okWide P W .any base t v)
  (hW:DataW.Whole enc P fn.params.toList s.vars apart W args.toList ds gs before):
  Calls P f args W fun e W'=> ∃v,e= .returned v∧s.post enc P fn apart fresh handsOn again W args v W':=
 abY hP oq hf La hL ch Gt Gu Gv hs Lb Lc mr ar Ld halt Lf fw hW (fun _=>True) (fun _ _ _=>trivial) fun xs h _=>Lg xs h
end
end Go.AM
namespace Go.AM
@[simp] theorem V.toInt_int (k:IntKind) (n:Int):V.toInt (.int k n)=n:=by cases k<;>rfl
@[simp] theorem V.dD (b:Bool):V.toBool (.bool b)=b:=by cases b<;>rfl
@[simp] theorem V.Gw (s:List UInt8):V.toStr (.str s)=s:=by cases s<;>rfl
@[simp] theorem V.kZ (e:TypeId) (es:List V):V.toList (.list e es)=es:=by cases es<;>rfl
@[simp] theorem V.alR (e:TypeId) (es:List V):V.toList (.own e es)=es:=by cases es<;>rfl
@[simp] theorem V.abZ (cs:List V) (j:Nat):V.cell (.agg cs) j=V.nth cs j:=by cases cs<;>rfl
@[simp] theorem V.alS (cs:List V) (j:Nat):V.comp (.bn cs) j=V.nth cs j:=by cases cs<;>rfl
@[simp] theorem V.aQ (x:V) (l:List V):V.nth (x::l) 0=x:=by cases l<;>rfl
@[simp] theorem V.rS (x:V) (l:List V) (n:Nat):V.nth (x::l) (n+1)=V.nth l n:=by cases l<;>rfl
@[simp] theorem V.alT (x y:V) (l:List V):V.nth (x::y::l) 1=y:=by cases l<;>rfl
@[simp] theorem V.alU (x y z:V) (l:List V):V.nth (x::y::z::l) 2=z:=by cases l<;>rfl
@[simp] theorem V.alV (x y z u:V) (l:List V):V.nth (x::y::z::u::l) 3=u:=by cases l<;>rfl
theorem wrap64 {x:Int} (h1: -9223372036854775808≤x) (U:x<9223372036854775808):IntKind.wrap .i64 x=x:=by
 rw[IntKind.wrap_i64];omega
theorem bP {x:Int} (h1: -9223372036854775808≤x:=by omega) (U:x<9223372036854775808:=by omega):IntKind.wrap .i64 x=x:=wrap64 h1 U
theorem BQ {x:Int} (h1:0≤x) (U:x<256):IntKind.wrap .u8 x=x:=by
 rw[IntKind.wrap_u8];omega
theorem Lj {es:List V} {i:Int} {n:Nat} (h:i=n):idx es i=es[n]? :=by
 subst h;simp[idx]
@[simp] theorem Lk (es:List V) (n:Nat):idx es (n:Int)=es[n]? :=by simp[idx]
@[simp] theorem aA {α:Type} (p:Prop) [Decidable p] (a b:α):(bif decide p then a else b)=if p then a else b:=by by_cases h:p<;>simp[h]
@[simp] theorem dx {α:Type} (m n:Int) (a b:α):(bif m==n then a else b)=if m=n then a else b:=by
 by_cases h:m=n
 ·simp[h]
 ·have:(m==n)=false:=by simp[h]
  rw[this,an h];rfl
@[simp] theorem tp {α:Type} (m n:Int) (a b:α):(bif m != n then a else b)=if m=n then b else a:=by
 by_cases h:m=n
 ·simp[h]
 ·have:(m != n)=true:=by simp[h]
  rw[this,an h];rfl
@[simp] theorem iJ {α:Type} (c:Bool) (a b:α):(bif !c then a else b)=bif c then b else a:=by cases c<;>rfl
@[simp] theorem BR {α:Type} (m n:Nat) (a b:α):(bif Nat.ble m n then a else b)=if m≤n then a else b:=by
 cases hb:Nat.ble m n with
 | true=>rw[aj (Nat.le_of_ble_eq_true hb)];rfl
 | false=>
  rw[an fun h=> ?_]
  ·rfl
  ·rw[Nat.ble_eq_true_of_le h] at hb;cases hb
@[simp] theorem dk {α:Type} (c d:Bool) (a b:α):(bif c&&d then a else b)=bif c then (bif d then a else b) else b:=by cases c<;>rfl
section
variable {P:Program}
def Tu (P : Program) : Bool := P.funcs.all fun fn => !(fn.name == "runtime.NumGoroutine")
theorem YH (h:Tu P=true):Ac P:=by
 intro f fn hf
 unfold Tu at h
 have:=(Array.all_eq_true_iff_forall_mem.1 h) fn (Array.mem_of_getElem? hf)
 simpa using this
theorem w6 {t:TypeId} {ts:List TypeId} {xs:List V} (h:qO P (t::ts) xs): ∃x ys,xs=x::ys∧fV P t x∧qO P ts ys:=by
 cases xs with
 | nil=>exact h.elim
 | cons x ys=>exact ⟨x,ys,rfl,h.1,h.2⟩
theorem YJ {xs:List V} (h:qO P [] xs):xs=[]:=by
 cases xs with
 | nil=>rfl
 | cons x ys=>exact h.elim
theorem fV.one {t:TypeId} {x:V} (ha:bM P t=false) (h:fV P t x):WT P t x:=by
 have he:aW P t=[t]:=by simp[aW,ha]
 have:=h.2 0 t (by rw[he];rfl)
 simpa[bR,ha] using this
theorem WT.en {t:TypeId} {k:IntKind} {x:V} (hu:P.underlying t=some (.int k)) (h:WT P t x): ∃n,x= .int k n∧k.min≤n∧n≤k.max:=by
 cases h with
 | int h1 U=>
  rw[hu] at h1
  cases h1
  simp only[Lit.wf,aO,ej] at U
  exact ⟨_,rfl,U⟩
 | bool h1=>rw[hu] at h1;cases h1
 | str h1=>rw[hu] at h1;cases h1
 | list h1=>rw[hu] at h1;cases h1
theorem WT.kT {t:TypeId} {x:V} (hu:P.underlying t=some .bool) (h:WT P t x): ∃b,x= .bool b:=by
 cases h with
 | int h1=>rw[hu] at h1;cases h1
 | bool h1=>exact ⟨_,rfl⟩
 | str h1=>rw[hu] at h1;cases h1
 | list h1=>rw[hu] at h1;cases h1
theorem WT.m9 {t:TypeId} {x:V} (hu:P.underlying t=some .string) (h:WT P t x): ∃s,x= .str s∧s.length≤maxLen:=by
 cases h with
 | int h1=>rw[hu] at h1;cases h1
 | bool h1=>rw[hu] at h1;cases h1
 | str h1 U=>exact ⟨_,rfl,U⟩
 | list h1=>rw[hu] at h1;cases h1
theorem WT.Gx {t e:TypeId} {x:V} (hu:P.underlying t=some (.slice e)) (h:WT P t x): ∃es,x= .list e es∧es.length≤maxLen∧∀y∈es,fV P e y:=by
 cases h with
 | int h1=>rw[hu] at h1;cases h1
 | bool h1=>rw[hu] at h1;cases h1
 | str h1=>rw[hu] at h1;cases h1
 | list h1 U h3 h4=>
  rw[hu] at h1
  cases h1
  refine ⟨_,rfl,U,fun y hy=> ?_⟩
  obtain ⟨i,hi⟩:=qR hy
  exact ⟨h3 i y hi,fun j t' hj=>h4 i j y t' hi hj⟩
theorem fV.kb {t:TypeId} {x:V} (ha:bM P t=true) (h:fV P t x): ∃xs,x= .agg xs∧xs.length=(aW P t).length∧∀(j:Nat) t' y,(aW P t)[j]? =some t'→xs[j]? =some y→WT P t' y:=by
 obtain ⟨xs,rfl,hl⟩:=h.1 ha
 refine ⟨xs,rfl,hl,fun j t' y hj hy=> ?_⟩
 have:=h.2 j t' hj
 simp only[bR,ha,cond_true,V.abZ] at this
 rw[uY _ _ _ hy] at this
 exact this
theorem BT {α:Type} {f:α→V} {p:α→Prop}: ∀{es:List V},(∀y∈es,∃a,y=f a∧p a)→∃l:List α,es=l.map f∧∀a∈l,p a
 | [],_=>⟨[],rfl,by simp⟩
 | y::es,h=>by
  obtain ⟨a,rfl,ha⟩:=h y (by simp)
  obtain ⟨l,rfl,hl⟩:=BT (f:=f) (p:=p) (es:=es) fun z hz=>h z (by simp[hz])
  exact ⟨a::l,rfl,by
   intro b hb
   rcases dO.1 hb with rfl|hb
   ·exact ha
   ·exact hl b hb⟩
theorem fV.int {t:TypeId} {x:V} (hu:P.underlying t=some (.int .i64)) (h:fV P t x): ∃n,x= .int .i64 n∧IntKind.min .i64≤n∧n≤IntKind.max .i64:=
 (h.one (by simp[bM,hu])).en hu
theorem fV.str {t:TypeId} {x:V} (hu:P.underlying t=some .string) (h:fV P t x): ∃s,x= .str s∧s.length≤maxLen:=
 (h.one (by simp[bM,hu])).m9 hu
end
def un.{u} {A B:Type} {γ:Sort u} (f:A→B→γ) (p:A × B):γ:=f p.1 p.2
def cf {A B γ:Type} (f:A→γ) (g:B→γ):A ⊕ B→γ
 | .inl a=>f a
 | .inr b=>g b
def rT:List Nat→Code→Code
 | [],c=>c
 | 0::p,.seq a _=>rT p a
 | _::p,.seq _ b=>rT p b
 | 0::p,.cond _ a _=>rT p a
 | _::p,.cond _ _ b=>rT p b
 | _::p,.block _ c=>rT p c
 | _::p,.loop c=>rT p c
 | _,c=>c
inductive mE where
 | loop (c:Code)
 | cond (t:Nat) (x y:Code)
section
variable (P:Program) (A:cT) (C:ah) (L:cr) (f n m:Nat)
def ov:Code→List mE
 | .seq a b=>ov a++ov b
 | .cond (.tmp t) x y=>
  match A.iR f (t*16+15) with
  | none=>ov x++ov y
  | some _=>[.cond t x y]
 | .cond (.const _) x y=>ov x++ov y
 | .block _ c=>ov c
 | .loop c=>[.loop c]
 | _=>[]
def qv:mE→Prop
 | .loop c=>
  match A.iR f (keyOf c+1) with
  | none=>True
  | some S=> ∀(β:Type) ds (k:Nat→List V→Option β),L β (keyOf c+1) ds k=(Loop (stepG P A C f n m S c) ds).bind fun r=>k r.1 r.2
 | .cond t x y=>
  match A.iR f (t*16+15) with
  | none=>True
  | some S=> ∀(β:Type) ds (k:Nat→List V→Option β),L β (t*16+15) ds k=(AN P A C f n m t S x y ds).bind fun r=>k r.1 r.2
def mF:List mE→Prop
 | []=>True
 | b::l=>qv P A C L f n m b∧mF l
variable {P A C L f n m}
theorem mF.left {a b:List mE}:mF P A C L f n m (a++b)→mF P A C L f n m a:=by
 induction a with
 | nil=>exact fun _=>trivial
 | cons x a ih=>exact fun h=>⟨h.1,ih h.2⟩
theorem mF.right {a b:List mE}:mF P A C L f n m (a++b)→mF P A C L f n m b:=by
 induction a with
 | nil=>exact fun h=>h
 | cons x a ih=>exact fun h=>ih h.2
theorem Tv: ∀{c:Code} {bs:List mE},ov A f c=bs→mF P A C L f n m bs→iw P A C L f n m c:=by
 intro c
 induction c with
 | seq a b Jr Js=>
  intro bs h hb
  subst h
  exact ⟨Jr rfl hb.left,Js rfl hb.right⟩
 | cond c x y jk jl=>
  intro bs h hb
  subst h
  cases c with
  | tmp t=>
   simp only[ov] at hb
   simp only[iw]
   cases hs:A.iR f (t*16+15) with
   | none=>
    rw[hs] at hb
    exact ⟨jk rfl hb.left,jl rfl hb.right⟩
   | some S=>
    rw[hs] at hb
    have:=hb.1
    simp only[qv,hs] at this
    exact this
  | const v=>exact ⟨jk rfl hb.left,jl rfl hb.right⟩
  | _=>trivial
 | block id c ih=>
  intro bs h hb
  subst h
  exact ih rfl hb
 | loop c ih=>
  intro bs h hb
  subst h
  exact hb.1
 | _=>intro bs h hb;trivial
variable (P A C L f n m) in
noncomputable def Ll {β:Type} (t:Nat) (S:Shape × List (Out × Shape)) (x y:Code) (ds:List V) (k:Nat→List V→Option β):Option β:=
 let kc:Out→St→Option β:=fun o st=>
  match o with
  | .norm=>(ways m 0 S.2 (.norm,canon m (A.join f t) st)).bind fun e=>k e.1 e.2
  | o=>(ways m 0 S.2 (o,st)).bind fun e=>k e.1 e.2
 match (bG S.1 ds).sl t with
 | .bool b=>bif b then iU P A C L f n m x (bG S.1 ds) kc else iU P A C L f n m y (bG S.1 ds) kc
 | _=>none
theorem ab0 {t:Nat} {x y:Code} {S:Shape × List (Out × Shape)} (hS:A.iR f (t*16+15)=some S) (hx:iw P A C L f n m x) (hy:iw P A C L f n m y) {I R:Type} (enc:I→List V) (nt:I→R→Nat × List V)
  (de:List V→I) (body:I→(β:Type)→(R→Option β)→Option β) (vz: ∀ds,bG S.1 (enc (de ds))=bG S.1 ds)
  (e1: ∀i (β:Type) (k:Nat→List V→Option β),Ll P A C L f n m t S x y (enc i) k=body i β (fun r=>k (nt i r).1 (nt i r).2))
  (hl: ∀(β:Type) ds (k:Nat→List V→Option β),L β (t*16+15) ds k=body (de ds) β (fun r=>k (nt (de ds) r).1 (nt (de ds) r).2)):
  qv P A C L f n m (.cond t x y):=by
 simp only[qv,hS]
 intro β ds k
 rw[hl,←e1]
 unfold Ll AN
 rw[vz]
 simp only
 have hk: ∀(z:Option (Out × St)),(z.bind fun r=>(match r.1 with
   | .norm=>(ways m 0 S.2 (.norm,canon m (A.join f t) r.2)).bind fun e=>k e.1 e.2
   | o=>(ways m 0 S.2 (o,r.2)).bind fun e=>k e.1 e.2))=((z.bind fun r=>
   match r.1 with
   | .norm=>some (Out.norm,canon m (A.join f t) r.2)
   | _=>some r).bind fun r=>ways m 0 S.2 r).bind fun r=>k r.1 r.2:=by
  intro z
  cases z with
  | none=>rfl
  | some r=>obtain ⟨o,st⟩:=r;cases o<;>rfl
 cases (bG S.1 ds).sl t with
 | bool b=>
  cases b with
  | true=>simp only[cond_true,Fb P A C f n m x hx];exact hk _
  | false=>simp only[cond_false,Fb P A C f n m y hy];exact hk _
 | _=>rfl
theorem bB {b:mE} {l:List mE} (h:qv P A C L f n m b) (U:mF P A C L f n m l):mF P A C L f n m (b::l):=⟨h,U⟩
theorem av:mF P A C L f n m []:=trivial
theorem ab1 {key:Nat} {bs:List mE} (hb:ov A key (sW P (A.im key))=bs) (ht:mF P A (Call P A) L key (AO P (A.im key)) (A.sin key).cE.length bs) {ds:List V} {r:Option (List V)}
  (h:Fc P A (Call P A) L key ds=r):Call P A key ds=r:=by
 rw[abT,YU P A (Call P A) key (Tv hb ht),h]
end
inductive LK where
 | int (k:IntKind)
 | bool
 | str
 | list (e:TypeId)
 | nat
def LK.Ty:LK→Type
 | .int _=>Int
 | .bool=>Bool
 | .str=>List UInt8
 | .list _=>List V
 | .nat=>Nat
def LK.enc:(k:LK)→k.Ty→V
 | .int k,n=> .int k n
 | .bool,b=> .bool b
 | .str,s=> .str s
 | .list e,l=> .list e l
 | .nat,n=>eC n
def LK.dec:(k:LK)→V→k.Ty
 | .int _,v=>v.toInt
 | .bool,v=>v.toBool
 | .str,v=>v.toStr
 | .list _,v=>v.toList
 | .nat,v=>lA v
theorem LK.Tw: ∀(k:LK) (x:k.Ty),k.dec (k.enc x)=x
 | .int _,_=>rfl
 | .bool,_=>rfl
 | .str,_=>rfl
 | .list _,_=>rfl
 | .nat,_=>rfl
def Lm:List Nat→List LK
 | []=>[]
 | _::l=> .nat::Lm l
def LS.ks:LS→List LK
 | .int k=>[.int k]
 | .bool=>[.bool]
 | .str=>[.str]
 | .list e=>[.list e]
 | .sub .. =>[.nat,.nat]
 | .ptr _=>[.nat,.nat]
 | .row _ _ cs=>Lm cs
 | .cX _ cs _=> .nat::Lm cs
 | _=>[]
def yg:List LS→List LK
 | []=>[]
 | l::ls=>l.ks++yg ls
def VS.ks:VS→List LK
 | .one l=>l.ks
 | .agg ls=>yg ls
 | .bn ls=>yg ls
 | .fn _ a b=>yg a++yg b
 | .pref _ ls=>yg ls
def Tx:List VS→List LK
 | []=>[]
 | l::ls=>l.ks++Tx ls
def BS.ks:BS→List LK
 | .var _ cs=>Tx cs
 | .arr e _=>[.list e]
 | .nest e=>[.list e]
 | .dead=>[]
 | .map t=>[.list t]
def Tz:List (Nat × VS)→List LK
 | []=>[]
 | p::l=>p.2.ks++Tz l
def TA:List BS→List LK
 | []=>[]
 | b::l=>b.ks++TA l
def Shape.ks (S:Shape):List LK:=Tz S.cd++TA S.cE
def Ln:List Nat→List V→List V
 | [],_=>[]
 | _::cs,ds=>eC (lA (V.nth ds 0))::Ln cs (ds.drop 1)
def LS.norm:LS→List V→List V
 | .int k,ds=>[.int k (V.nth ds 0).toInt]
 | .bool,ds=>[.bool (V.nth ds 0).toBool]
 | .str,ds=>[.str (V.nth ds 0).toStr]
 | .list e,ds=>[.list e (V.nth ds 0).toList]
 | .sub ..,ds=>[eC (lA (V.nth ds 0)),eC (lA (V.nth ds 1))]
 | .ptr _,ds=>[eC (lA (V.nth ds 0)),eC (lA (V.nth ds 1))]
 | .row _ _ cs,ds=>Ln cs ds
 | .cX _ cs _,ds=>eC (lA (V.nth ds 0))::Ln cs (ds.drop 1)
 | _,_=>[]
def yh:List LS→List V→List V
 | [],_=>[]
 | l::ls,ds=>l.norm ds++yh ls (ds.drop l.size)
def VS.norm:VS→List V→List V
 | .one l,ds=>l.norm ds
 | .agg ls,ds=>yh ls ds
 | .bn ls,ds=>yh ls ds
 | .fn _ a b,ds=>yh a ds++yh b (ds.drop (kN a))
 | .pref _ ls,ds=>yh ls ds
def TB:List VS→List V→List V
 | [],_=>[]
 | l::ls,ds=>l.norm ds++TB ls (ds.drop l.size)
def BS.norm:BS→List V→List V
 | .var _ cs,ds=>TB cs ds
 | .arr e _,ds=>[.list e (V.nth ds 0).toList]
 | .nest e,ds=>[.list e (V.nth ds 0).toList]
 | .dead,_=>[]
 | .map t,ds=>[.list t (V.nth ds 0).toList]
def TC:List (Nat × VS)→List V→List V
 | [],_=>[]
 | p::l,ds=>p.2.norm ds++TC l (ds.drop p.2.size)
def TD:List BS→List V→List V
 | [],_=>[]
 | b::l,ds=>b.norm ds++TD l (ds.drop b.size)
def Shape.norm (S:Shape) (ds:List V):List V:=TC S.cd ds++TD S.cE (ds.drop (oV S.cd))
def vA:LK→List LK→Type
 | k,[]=>k.Ty
 | k,k'::ks=>k.Ty × vA k' ks
def k0:List LK→Type
 | []=>Unit
 | k::ks=>vA k ks
def vB:(k:LK)→(ks:List LK)→vA k ks→List V
 | k,[],x=>[k.enc x]
 | k,k'::ks,x=>k.enc x.1::vB k' ks x.2
def lN:(ks:List LK)→k0 ks→List V
 | [],_=>[]
 | k::ks,x=>vB k ks x
def BU:(k:LK)→(ks:List LK)→List V→vA k ks
 | k,[],l=>k.dec (V.nth l 0)
 | k,k'::ks,l=>(k.dec (V.nth l 0),BU k' ks l.tail)
def pn:(ks:List LK)→List V→k0 ks
 | [],_=>()
 | k::ks,l=>BU k ks l
theorem TE: ∀(k:LK) (ks:List LK) (x:vA k ks) (r:List V),BU k ks (vB k ks x++r)=x
 | k,[],x,r=>LK.Tw k x
 | k,k'::ks,x,r=>by
  show (k.dec (k.enc x.1),BU k' ks (vB k' ks x.2++r))=x
  rw[LK.Tw,TE k' ks]
  rfl
def yi:List LK→Type 1→Type 1
 | [],R=>R
 | k::ks,R=>k.Ty→yi ks R
def TF:(k:LK)→(ks:List LK)→{R:Type 1}→yi (k::ks) R→vA k ks→R
 | _,[],_,f,x=>f x
 | _,k'::ks,_,f,x=>TF k' ks (f x.1) x.2
def vC:(ks:List LK)→{R:Type 1}→yi ks R→k0 ks→R
 | [],_,f,_=>f
 | k::ks,_,f,x=>TF k ks f x
def yj {α:Type} (b:Bool):List Bool→List α→List α
 | [],_=>[]
 | _,[]=>[]
 | c::m,x::l=>bif c==b then x::yj b m l else yj b m l
def merge:List Bool→List V→List V→List V
 | [],_,_=>[]
 | true::m,i,x=>V.nth x 0::merge m i x.tail
 | false::m,i,x=>V.nth i 0::merge m i.tail x
def yk:List Nat→List LK→List LK
 | [],_=>[]
 | _,[]=>[]
 | 0::t,k::ks=>k::yk t ks
 | (_+1)::t,_::ks=>yk t ks
abbrev gf:=List Nat × List LK
def gf.fresh (w:gf):List LK:=yk w.1 w.2
def put:List Nat→List V→List V→List V
 | [],_,_=>[]
 | 0::t,ds,x=>V.nth x 0::put t ds x.tail
 | (j+1)::t,ds,x=>V.nth ds j::put t ds x
def vD:List Nat→List V→List V
 | [],_=>[]
 | 0::t,l=>V.nth l 0::vD t l.tail
 | (_+1)::t,l=>vD t l.tail
def tq:gf→List gf→Type
 | w,[]=>k0 w.fresh
 | w,w'::ws=>k0 w.fresh ⊕ tq w' ws
def rU:List gf→Type
 | []=>Empty
 | w::ws=>tq w ws
def wN (ds:List V) {β:Type} (k:Nat→List V→Option β):Nat→(w:gf)→(ws:List gf)→tq w ws→Option β
 | j,w,[],r=>k j (put w.1 ds (lN w.fresh r))
 | j,w,w'::ws,r=>cf (fun x=>k j (put w.1 ds (lN w.fresh x))) (fun y=>wN ds k (j+1) w' ws y) r
def wT (ds:List V) {β:Type} (k:Nat→List V→Option β):(ws:List gf)→rU ws→Option β
 | [],r=>Empty.elim r
 | w::ws,r=>wN ds k 0 w ws r
def po (ds:List V):Nat→(w:gf)→(ws:List gf)→tq w ws→Nat × List V
 | j,w,[],r=>(j,put w.1 ds (lN w.fresh r))
 | j,w,_::_,.inl x=>(j,put w.1 ds (lN w.fresh x))
 | j,_,w'::ws,.inr y=>po ds (j+1) w' ws y
def yl (ds:List V):(ws:List gf)→rU ws→Nat × List V
 | [],r=>Empty.elim r
 | w::ws,r=>po ds 0 w ws r
theorem TG (ds:List V) {β:Type} (k:Nat→List V→Option β): ∀(j:Nat) (w:gf) (ws:List gf) (r:tq w ws),wN ds k j w ws r=k (po ds j w ws r).1 (po ds j w ws r).2
 | _,_,[],_=>rfl
 | _,_,_::_,.inl _=>rfl
 | j,_,w'::ws,.inr y=>TG ds k (j+1) w' ws y
theorem Gy (ds:List V) {β:Type} (k:Nat→List V→Option β): ∀(ws:List gf) (r:rU ws),wT ds k ws r=k (yl ds ws r).1 (yl ds ws r).2
 | [],r=>Empty.elim r
 | w::ws,r=>TG ds k 0 w ws r
def ym:Nat→(w:gf)→(ws:List gf)→List V→tq w ws
 | _,w,[],l=>pn w.fresh (vD w.1 l)
 | 0,w,_::_,l=> .inl (pn w.fresh (vD w.1 l))
 | j+1,_,w'::ws,l=> .inr (ym j w' ws l)
def TH (j:Nat):(ws:List gf)→List V→Option (rU ws)
 | [],_=>none
 | w::ws,l=>some (ym j w ws l)
def yn:List Nat→List V→List V
 | [],_=>[]
 | 0::t,x=>V.nth x 0::yn t x.tail
 | (_+1)::t,x=>yn t x
theorem Lo: ∀(t:List Nat) (ds x:List V),vD t (put t ds x)=yn t x
 | [],_,_=>rfl
 | 0::t,ds,x=>congrArg (V.nth x 0:: ·) (Lo t ds x.tail)
 | (_+1)::t,ds,x=>Lo t ds x
theorem Lq: ∀(t:List Nat) (ks:List LK) (k:LK) (b7:List LK),yk t ks=k::b7→∀x:vA k b7,∃r,yn t (vB k b7 x)=vB k b7 x++r
 | [],_,_,_,h,_=>by cases h
 | _::_,[],_,_,h,_=>by simp[yk] at h
 | 0::t,a::ks,k,b7,h,x=>by
  simp only[yk,List.cons.injEq] at h
  obtain ⟨rfl,U⟩:=h
  cases b7 with
  | nil=>exact ⟨yn t [],rfl⟩
  | cons k' b7=>
   obtain ⟨r,hr⟩:=Lq t ks k' b7 U x.2
   exact ⟨r,congrArg (a.enc x.1:: ·) hr⟩
 | (_+1)::t,a::ks,k,b7,h,x=>Lq t ks k b7 h x
theorem TI (w:gf) (ds:List V) (x:k0 w.fresh):pn w.fresh (vD w.1 (put w.1 ds (lN w.fresh x)))=x:=by
 rw[Lo]
 revert x
 generalize hf:w.fresh=f
 cases f with
 | nil=>intro x;rfl
 | cons k ks=>
  intro x
  obtain ⟨r,hr⟩:=Lq w.1 w.2 k ks hf x
  show BU k ks (yn w.1 (vB k ks x))=x
  rw[hr]
  exact TE k ks x r
theorem TJ (ds:List V): ∀(j:Nat) (w:gf) (ws:List gf) (r:tq w ws),j≤(po ds j w ws r).1
 | _,_,[],_=>cl _
 | _,_,_::_,.inl _=>cl _
 | j,_,w'::ws,.inr y=>lX (Nat.le_succ j) (TJ ds (j+1) w' ws y)
theorem ab2 (w:gf) (l:List V): ∀j,ym j w [] l=pn w.fresh (vD w.1 l)
 | 0=>rfl
 | _+1=>rfl
theorem TK (ds:List V): ∀(j:Nat) (w:gf) (ws:List gf) (r:tq w ws),ym ((po ds j w ws r).1-j) w ws (po ds j w ws r).2=r
 | j,w,[],r=>(ab2 w _ _).trans (TI w ds r)
 | j,w,w'::ws,.inl x=>by
  show ym (j-j) w (w'::ws) (put w.1 ds (lN w.fresh x))= .inl x
  rw[Nat.sub_self]
  exact congrArg Sum.inl (TI w ds x)
 | j,w,w'::ws,.inr y=>by
  have h1:=TJ ds (j+1) w' ws y
  have U:=TK ds (j+1) w' ws y
  show ym ((po ds (j+1) w' ws y).1-j) w (w'::ws) (po ds (j+1) w' ws y).2= .inr y
  obtain ⟨d,hd⟩: ∃d,(po ds (j+1) w' ws y).1=j+1+d:=⟨(po ds (j+1) w' ws y).1-(j+1),by omega⟩
  rw[hd] at U⊢
  rw[show j+1+d-(j+1)=d by omega] at U
  rw[show j+1+d-j=d+1 by omega]
  exact congrArg Sum.inr U
theorem ab3 (ds:List V): ∀(ws:List gf) (r:rU ws),TH (yl ds ws r).1 ws (yl ds ws r).2=some r
 | [],r=>Empty.elim r
 | w::ws,r=>congrArg some (TK ds 0 w ws r)
section
variable {P:Program} {A:cT} {C:ah} {L:cr} {f n m:Nat}
theorem ab4 {c:Code} {S:Shape × List (Out × Shape)} (hS:A.iR f (keyOf c+1)=some S) (hL:iw P A C L f n m c) {I X R:Type} (enc:I→X→List V) (nt:I→R→Nat × List V)
  (qw:List V→I) (rV:List V→X) (Gz:Nat × List V→Option R) (body:I→X→(β:Type)→(X→Option β)→(R→Option β)→Option β)
  (vz: ∀ds,bG S.1 (enc (qw ds) (rV ds))=bG S.1 ds) (Lr: ∀i x,rV (enc i x)=x) (hdr: ∀i r,Gz (nt i r)=some r)
  (e1: ∀i x (β:Type) (k:(List V ⊕ (Nat × List V))→Option β),iU P A C L f n m c (bG S.1 (enc i x)) (fun o st=>(nY m S.1 S.2 (some (o,st))).bind k)=
   body i x β (fun y=>k (.inl (enc i y))) (fun r=>k (.inr (nt i r))))
  (hl: ∀(β:Type) ds (k:Nat→List V→Option β),L β (keyOf c+1) ds k=(Loop (fun x=>body (qw ds) x (X ⊕ R) (fun y=>some (.inl y)) (fun r=>some (.inr r))) (rV ds)).bind fun r=>k (nt (qw ds) r).1 (nt (qw ds) r).2):
  qv P A C L f n m (.loop c):=by
 simp only[qv,hS]
 intro β ds k
 rw[hl]
 have hex: ∀(z:Option (Out × St)),nY m S.1 S.2 z=z.bind fun r=>nY m S.1 S.2 (some (r.1,r.2)):=by
  intro z;cases z<;>rfl
 have hs: ∀i x,stepG P A C f n m S c (enc i x)=(body i x (X ⊕ R) (fun y=>some (.inl y)) (fun r=>some (.inr r))).map fun| .inl y=> .inl (enc i y)| .inr r=> .inr (nt i r):=by
  intro i x
  have k1:=e1 i x _ (fun z=>some z)
  have k2:=e1 i x (X ⊕ R) (fun| .inl ds=>some (.inl (rV ds))| .inr e=>(Gz e).map .inr)
  have k3:=e1 i x (List V ⊕ (Nat × List V)) (fun| .inl ds=>some (.inl (enc i (rV ds)))| .inr e=>(Gz e).map fun r=> .inr (nt i r))
  simp only[Lr,hdr,Option.map_some] at k2 k3
  unfold stepG
  rw[hex]
  rw[Fb P A C f n m c hL] at k1 k2 k3
  rw[←k2]
  refine Eq.trans ?_ (k1.trans (k3.symm.trans ?_))
  ·congr 1
   funext r
   cases nY m S.1 S.2 (some (r.1,r.2))<;>rfl
  ·cases exec P A C f n m c (bG S.1 (enc i x)) with
   | none=>rfl
   | some r=>
    simp only[Option.bind_some]
    cases nY m S.1 S.2 (some (r.1,r.2)) with
    | none=>rfl
    | some z=>
     cases z with
     | inl _=>rfl
     | inr e=>simp only[Option.bind_some];cases Gz e<;>rfl
 have h0:stepG P A C f n m S c ds=stepG P A C f n m S c (enc (qw ds) (rV ds)):=by
  unfold stepG
  rw[vz]
 have:Loop (stepG P A C f n m S c) ds=(Loop (fun x=>body (qw ds) x (X ⊕ R) (fun y=>some (.inl y)) (fun r=>some (.inr r))) (rV ds)).map (nt (qw ds)):=by
  rw[EK,h0,←EK]
  exact YS (enc (qw ds)) (nt (qw ds)) (fun x=>hs _ _) (rV ds)
 rw[this]
 cases Loop (fun x=>body (qw ds) x (X ⊕ R) (fun y=>some (.inl y)) (fun r=>some (.inr r))) (rV ds)<;>rfl
abbrev BV (S:Shape) (mk:List Bool):List LK:=yj false mk S.ks
abbrev vE (S:Shape) (mk:List Bool):List LK:=yj true mk S.ks
def rW (ts:List (List Nat)) (W:List (Out × Shape)):List gf:=
 match ts,W with
 | t::ts,w::W=>(t,w.2.ks)::rW ts W
 | _,_=>[]
abbrev BW (S:Shape) (mk:List Bool) (i:k0 (BV S mk)) (x:k0 (vE S mk)):List V:=merge mk (lN _ i) (lN _ x)
abbrev Ls (S:Shape) (mk:List Bool) (i:k0 (BV S mk)):List V:=merge mk (lN _ i) []
abbrev GA (S:Shape) (mk:List Bool) (ds:List V):k0 (BV S mk):=pn _ (yj false mk (S.norm ds))
abbrev GB (S:Shape) (mk:List Bool) (ds:List V):k0 (vE S mk):=pn _ (yj true mk (S.norm ds))
abbrev TL (X R:Type):Type 1:=(β:Type)→(X→Option β)→(R→Option β)→Option β
abbrev GC (S:Shape × List (Out × Shape)) (mk:List Bool) (ts:List (List Nat)):Type 1:=yi (BV S.1 mk) (yi (vE S.1 mk) (TL (k0 (vE S.1 mk)) (rU (rW ts S.2))))
abbrev Lt (S:Shape × List (Out × Shape)) (mk:List Bool) (ts:List (List Nat)) (b:GC S mk ts) (i:k0 (BV S.1 mk)) (x:k0 (vE S.1 mk)):TL (k0 (vE S.1 mk)) (rU (rW ts S.2)):=vC _ (vC _ b i) x
noncomputable def Lu (S:Shape × List (Out × Shape)) (mk:List Bool) (ts:List (List Nat)) (b:GC S mk ts) {β:Type} (ds:List V) (k:Nat→List V→Option β):Option β:=
 (Loop (fun x=>Lt S mk ts b (GA S.1 mk ds) x (k0 (vE S.1 mk) ⊕ rU (rW ts S.2)) (fun y=>some (.inl y)) (fun r=>some (.inr r))) (GB S.1 mk ds)).bind (wT (Ls S.1 mk (GA S.1 mk ds)) k (rW ts S.2))
theorem cp {c:Code} (S:Shape × List (Out × Shape)) (mk:List Bool) (ts:List (List Nat)) (b:GC S mk ts) (hL:iw P A C L f n m c) (hS:A.iR f (keyOf c+1)=some S:=by kernel_rfl)
  (vz: ∀ds,bG S.1 (BW S.1 mk (GA S.1 mk ds) (GB S.1 mk ds))=bG S.1 ds:=by intros;kernel_rfl) (Lr: ∀i x,GB S.1 mk (BW S.1 mk i x)=x:=by intros;kernel_rfl)
  (e1: ∀i x (β:Type) (k:(List V ⊕ (Nat × List V))→Option β),iU P A C L f n m c (bG S.1 (BW S.1 mk i x)) (fun o st=>(nY m S.1 S.2 (some (o,st))).bind k)=
   Lt S mk ts b i x β (fun y=>k (.inl (BW S.1 mk i y))) (wT (Ls S.1 mk i) (fun j l=>k (.inr (j,l))) (rW ts S.2)):=by intros;kernel_rfl)
  (hl: ∀(β:Type) ds (k:Nat→List V→Option β),L β (keyOf c+1) ds k=Lu S mk ts b ds k:=by intros;kernel_rfl):
  qv P A C L f n m (.loop c):=
 ab4 hS hL (BW S.1 mk) (fun i r=>yl (Ls S.1 mk i) _ r) (GA S.1 mk) (GB S.1 mk) (fun e=>TH e.1 _ e.2) (Lt S mk ts b) vz Lr (fun i r=>ab3 _ _ r)
  (fun i x β k=>by
   rw[e1]
   congr 1
   funext r
   exact Gy _ _ _ r)
  (fun β ds k=>by
   rw[hl]
   unfold Lu
   congr 1
   funext r
   exact Gy _ _ _ r)
abbrev Lv (S:Shape × List (Out × Shape)) (ts:List (List Nat)):Type 1:=yi S.1.ks ((β:Type)→(rU (rW ts S.2)→Option β)→Option β)
noncomputable def TM (S:Shape × List (Out × Shape)) (ts:List (List Nat)) (b:Lv S ts) {β:Type} (ds:List V) (k:Nat→List V→Option β):Option β:=
 vC S.1.ks b (pn _ (S.1.norm ds)) β (wT (lN S.1.ks (pn _ (S.1.norm ds))) k (rW ts S.2))
theorem hX {t:Nat} {x y:Code} (S:Shape × List (Out × Shape)) (ts:List (List Nat)) (b:Lv S ts) (hx:iw P A C L f n m x) (hy:iw P A C L f n m y) (hS:A.iR f (t*16+15)=some S:=by kernel_rfl)
  (vz: ∀ds,bG S.1 (lN S.1.ks (pn _ (S.1.norm ds)))=bG S.1 ds:=by intros;kernel_rfl)
  (e1: ∀i (β:Type) (k:Nat→List V→Option β),Ll P A C L f n m t S x y (lN S.1.ks i) k=vC S.1.ks b i β (wT (lN S.1.ks i) k (rW ts S.2)):=by intros;kernel_rfl)
  (hl: ∀(β:Type) ds (k:Nat→List V→Option β),L β (t*16+15) ds k=TM S ts b ds k:=by intros;kernel_rfl):
  qv P A C L f n m (.cond t x y):=
 ab0 hS hx hy (lN S.1.ks) (fun i r=>yl (lN S.1.ks i) _ r) (fun ds=>pn _ (S.1.norm ds)) (vC S.1.ks b) vz
  (fun i β k=>by
   rw[e1]
   exact congrArg (vC S.1.ks b i β) (funext fun r=>Gy _ _ _ r))
  (fun β ds k=>by
   rw[hl]
   exact congrArg (vC S.1.ks b (pn _ (S.1.norm ds)) β) (funext fun r=>Gy _ _ _ r))
end
theorem a9 {P:Program} {A:cT} {C:ah} {L:cr} {f n m:Nat} {c:Code} {bs:List mE} (hb:mF P A C L f n m bs) (h:ov A f c=bs:=by kernel_rfl):iw P A C L f n m c:=Tv h hb
theorem aY {P:Program} {A:cT} {L:cr} {key:Nat} {bs:List mE} {ds:List V} {r x:Option (List V)} (ht:mF P A (Call P A) L key (AO P (A.im key)) (A.sin key).cE.length bs) (h:x=r)
  (hb:ov A key (sW P (A.im key))=bs:=by kernel_rfl) (e:Fc P A (Call P A) L key ds=x:=by kernel_rfl):Call P A key ds=r:=ab1 hb ht (e.trans h)
noncomputable def cq (j:Nat) (S:Shape × List (Out × Shape)) (mk:List Bool) (ts:List (List Nat)) (b:GC S mk ts) (L:cr):cr:=fun β n ds k=>bif Nat.beq n j then Lu S mk ts b ds k else L β n ds k
noncomputable def hY (j:Nat) (S:Shape × List (Out × Shape)) (ts:List (List Nat)) (b:Lv S ts) (L:cr):cr:=fun β n ds k=>bif Nat.beq n j then TM S ts b ds k else L β n ds k
def aZ:cr:=fun _ _ _ _=>none
abbrev LV:=List V
structure SE where
 T:TypeId
 cmp:Nat
 ex:V→List V
 k:Nat→Nat
abbrev TN (l:List V) (j:Int) {β:Type} (x:Option β):Option β:=bif (decide (0≤j))&&(decide (j<(l.length:Int))) then x else none
abbrev aH (l:List V) (j:Int) {β:Type} (f:V→Option β):Option β:=bif (decide (0≤j))&&(decide (j<(l.length:Int))) then (l[j.toNat]?).bind f else none
abbrev ba (l:List V) (j:Int) (v:V):List V:=l.set j.toNat v
end Go.AM
