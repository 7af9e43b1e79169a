/-
  Functions of the program, lifted to plain data.
-/
import Derived.Great.BuildSlice
import Derived.Maps.Keyed
import Derived.WideKeyArr
import Derived.MapKept
import Derived.ChangeMaps4
import Derived.Carry
import Derived.Lib.AppendStr
import Derived.Laws.BytesString
import Derived.Lib.Builder
import Derived.Lib.UnsafeStr
import Derived.Test.YtppefogdkedaiaaP1
set_option linter.unusedVariables false
set_option linter.unusedSimpArgs false
namespace Go.AM
section
variable {P:Program} {w w':World} {I I':Nat→Prop} {β β':Nat→Option Nat} {hp hp':Nat→Option an} {C:ag} {B:Nat} {M:Nat→Prop} {w0:Start}
theorem We (S:aF P w I β hp B M w0) {t:TypeId} {a v:Value} {xa x:V} {r:R} {rd:List Nat} (ha:ao P w I β hp a xa) (hv:ao P w I β hp v x)
  (h:(Gq P t xa x).run C hp=some (r,rd)):o5 P ((Instr.storeAt t a v).run P w) w I β hp B M w0 r:=by
 unfold Gq at h
 obtain ⟨h0,h⟩:=aG h
 simp only[aK,aQ] at h0
 obtain ⟨ht,hn⟩:=h0
 cases xa with
 | ptr id i c=>
  obtain ⟨l,h⟩:=run_get h
  cases ab:hp id with
  | none=>rw[ab] at h;cases h
  | some blk=>
   rw[ab] at h
   cases blk with
   | dead=>cases h
   | var T0 cs=>
    obtain ⟨ME,h⟩:=aG h
    have lQ:oT P T0=true→0<c:=fun bP=>by
     rw[bP] at ME
     simpa using ME
    obtain ⟨b,hb,rfl⟩:=ha.gC ab (by simp)
    simp only[an.sz,Nat.mul_zero,gu]
    cases o4:(yz P t cs&&eH P t x) with
    | true=>
     dsimp only at h
     rw[o4] at h
     simp only[cond_true] at h
     obtain ⟨hc,h⟩:=aG h
     obtain rfl:=aM h
     simp only[aK,jM] at hc o4
     obtain ⟨o1,o2⟩:=Mx hv o4.2
     have lg:=VT o4.2
     refine Mv S ab hb ht hn (by rw[o2,lg];rfl) lQ (fun j u y hu hy=> ?_) (by rw[o2];simp[o1]) (by rw[lg];simp;omega) (Mu _ _ _ _) (fun j y hy hj u hu=> ?_) (fun j y hy hj u hu=> ?_)
     ·rw[o2] at hu
      rw[lg] at hy
      cases j with
      | zero=>simp at hu hy;subst hu;subst hy;exact hv
      | succ j=>simp at hy
     ·rw[G6] at hy
      cases vJ:cs[j]? with
      | none=>rw[vJ] at hy;cases hy
      | some y0=>
       rw[vJ] at hy
       simp only[Option.map_some,dL] at hy
       rw[lg] at hj
       simp only[List.length_singleton] at hj
       have bA:Nat.beq c (0+j)=false:=by
        cases hq:Nat.beq c (0+j) with
        | false=>rfl
        | true=>rw[aQ] at hq;omega
       rw[bA] at hy
       have:=Mj (c:=false) hv (hu y0 vJ)
       rw[←hy]
       simpa using this
     ·rw[lg] at hj hu
      have Wf:j=0:=by simpa using hj
      subst Wf
      rw[G6] at hy
      cases vJ:cs[c+0]? with
      | none=>rw[vJ] at hy;cases hy
      | some y0=>
       rw[vJ] at hy
       simp only[Option.map_some,dL] at hy
       have heq:Nat.beq c (0+(c+0))=true:=by rw[aQ];omega
       rw[heq] at hy
       have U:ao P w I β hp u x:=hu x rfl
       have:rp true x y0=x:=VU x y0
       rw[←hy,this]
       exact U
    | false=>
     dsimp only at h
     rw[o4] at h
     simp only[cond_false] at h
     obtain ⟨hc,h⟩:=aG h
     simp only[aK,dm] at hc
     obtain ⟨e1,e2⟩:=G4 hv h
     obtain ⟨h1,l2,h⟩:=CU h (vs:=v.cells.toList) (by simpa using e1) (fun j u y a b=>e2 j u y (by simpa using a) b)
     obtain rfl:=aM h
     refine Mv S ab hb ht hn e1 lQ e2 h1 hc.2 (y9 _ _ _ hc.2) (fun j y hy hj u hu=> ?_) (fun j y hy hj u hu=> ?_)
     ·unfold fu at hy
      rw[mO _ _ _ _ hc.2] at hy
      rcases hj with hj|hj
      ·rw[aj hj] at hy;exact hu y hy
      ·rw[ai (by omega),ai (by omega)] at hy;exact hu y hy
     ·unfold fu at hy
      rw[mO _ _ _ _ hc.2,ai (by omega),aj (by omega)] at hy
      rw[show c+j-c=j by omega] at hy
      exact hu y hy
   | arr e es fz=>
    cases fz with
    | true=>cases h
    | false=>
    obtain ⟨b,hb,rfl⟩:=ha.gC ab (by simp)
    obtain ⟨au,h⟩:=aG h
    obtain ⟨⟨ys,fr⟩,l1,l2,bt,h⟩:=kF h
    obtain ⟨hc,h⟩:=aG h
    obtain ⟨x0,qo,h⟩:=ld h
    obtain rfl:=aM h
    simp only[aK,my,dm] at hc
    obtain ⟨dz,Wg,iw⟩:=hc
    have o8:v.cells.size=x.cells.length∧∀(j:Nat) u y,v.cells.toList[j]? =some u→x.cells[j]? =some y→ao P w I β hp u y:=by
     cases x with
     | agg xs=>
      obtain ⟨cs,rfl,h1,U⟩:=hv.kG
      exact ⟨h1,fun j u y a b=>U j u y (by simpa[Value.cells] using a) b⟩
     | _=>
      simp only[V.cells] at bt iw⊢
      simp only[rn] at bt
      obtain ⟨⟨y1,u1⟩,l3,l4,hq,bt⟩:=kF bt
      obtain ⟨q1,q2⟩:=CI S.h.rel hq hv
      obtain ⟨⟨y2,u2⟩,l5,l6,zh,bt⟩:=kF bt
      cases zh
      have:=aM bt
      cases this
      obtain ⟨tl,tg⟩:=tk iw
      have fk:=tg 0 _ y1 (bM (by rw[tl];exact Nat.one_pos)) rfl
      have bQ:=q2 (iz P w I β hp u1) (fun _ h=> .inl h) (fun p hp b h=> .inr ⟨p,hp,h⟩)
      have ho:=bQ.pure fk
      have Hj:v.cells= #[v]:=by cases ho<;>rfl
      rw[Hj]
      refine ⟨rfl,fun j u y hu hy=> ?_⟩
      cases j with
      | zero=>simp at hu hy;subst hu;subst hy;exact hv
      | succ j=>simp at hy
    obtain ⟨k1,k2,k3⟩:=GX S.h.rel bt (vs:=v.cells.toList) (by simpa using o8.1) o8.2
    obtain ⟨qm,S1⟩:=yZ S k2
    have zg:bJ hp fr id=some (.arr e es false):=by
     rcases td (hp:=hp) (l:=fr) (id:=id) with h|⟨b',hm,_⟩
     ·exact h.trans ab
     ·exfalso
      have Wh:jP (fr.map (·.1)) id=true:=vD (fY.2 ⟨_,hm,rfl⟩)
      rw[Wh] at dz;cases dz
    have MF:=k3 (iz P w I β hp fr) (fun _ h=> .inl h) (fun p hp b h=> .inr ⟨p,hp,h⟩)
    obtain ⟨tl,tg⟩:=tk iw
    have vw:=(jX au).1
    have tp:ys.length=v.cells.size:=by rw[k1,o8.1]
    have hcn:c+v.cells.size≤P.cellsOf e:=by rw[o8.1];exact Wg
    have hr:=S1.h.rel id _ zg
    cases hr with
    | dy aB=>simp at qo
    | @arr _ _ _ b' Ca G3 aB hh hs hf eb hx=>
     rw[hb] at aB
     cases aB
     have lh:i<es.length:=(bu.1 qo).1
     have hbound:i*P.cellsOf e+P.cellsOf e≤Ca.size:=by
      have:(i+1)*P.cellsOf e≤es.length*P.cellsOf e:=dt _ lh
      rw[df] at this
      omega
     simp only[an.sz]
     have rK:i*P.cellsOf e+c+v.cells.size≤Ca.size:=by omega
     have cH: ¬iz P w I β hp fr b:=eb rfl
     have h1: ∀u∈v.cells.toList,u.oneCell'=true:=by
      intro u hu
      obtain ⟨j,hj⟩:=rf hu
      have b9:j<ys.length:=by rw[tp];simpa using (bu.1 hj).1
      have nY:j<(((flat P e).drop c).take x.cells.length).length:=by rw[tl];exact b9
      exact (MF j u ys[j] hj (bM b9)).one (tg j _ ys[j] (bM nY) (bM b9))
     have cN:=G5 (t:=t) (o:=i*P.cellsOf e+c) (v:=v) ht (by rw[o8.1];exact hn.symm) hh rK h1
     have hlen:(Ca.toList.take (i*P.cellsOf e+c)++(v.cells.toList++Ca.toList.drop (i*P.cellsOf e+c+v.cells.toList.length))).length=Ca.size:=by
      rw[y9 _ _ _ (by simpa using rK)];simp
     have bQ:(parts P e x0).length=P.cellsOf e:=by rw[vA];exact fj au
     have za:=CV S1 (blk':= .arr e (es.set i (cm P e (fu (parts P e x0) c ys))) false)
      (Cb:=(Ca.toList.take (i*P.cellsOf e+c)++(v.cells.toList++Ca.toList.drop (i*P.cellsOf e+c+v.cells.toList.length))).toArray) zg (by simp) ⟨rfl,by simp⟩ hb cH (by simp) hh (by simpa using hlen)
      (fun hle eJ=> .arr au rfl eJ (by simp only[pO,nG];omega) (fun h=>by cases h) (fun _=>cH) fun i' j z t' hz nY hj=>by
       simp only[mz]
       rw[mO _ _ _ _ (by simpa using rK)]
       simp only[Array.length_toList]
       rw[List.getElem?_set] at hz
       by_cases iD:i=i'
       ·subst iD
        rw[aj rfl,aj lh] at hz
        cases hz
        have C7:j<(parts P e x0).length:=by omega
        have tq:(fu (parts P e x0) c ys)[j]? =if j<c then (parts P e x0)[j]? else if j<c+ys.length then ys[j-c]? else (parts P e x0)[j]? :=by
         unfold fu;exact mO _ _ _ _ (by omega)
        by_cases qi:j<c
        ·rw[aj (by omega)]
         rw[aj qi] at tq
         obtain ⟨u,t2,a1,a2,a3⟩:=CR hx au qo (bM C7)
         rw[nY] at a1;cases a1
         refine ⟨u,by simpa using a2,?_⟩
         rw[qj (tq.trans (bM C7)) nY]
         exact a3.mono hle.c9 hle.b8
        ·rw[ai qi] at tq
         by_cases fP:j<c+ys.length
         ·rw[aj fP] at tq
          rw[ai (by omega),aj (by omega)]
          have o9:j-c<ys.length:=by omega
          have MG:j-c<v.cells.toList.length:=by simp;omega
          have ahy:j-c<v.cells.size:=by omega
          refine ⟨v.cells.toList[j-c],?_,?_⟩
          ·rw[show i*P.cellsOf e+j-(i*P.cellsOf e+c)=j-c by omega]
           exact bM MG
          ·rw[qj (tq.trans (bM o9)) nY]
           have Wi:(((flat P e).drop c).take x.cells.length)[j-c]? =some t':=by
            rw[eN (by omega),gR,show c+(j-c)=j by omega,←rH]
            exact nY
           exact ((MF (j-c) _ ys[j-c] (bM MG) (bM o9)).pure (tg (j-c) t' ys[j-c] Wi (bM o9))).mono hle.c9 hle.b8
         ·rw[ai fP] at tq
          rw[ai (by omega),ai (by omega)]
          obtain ⟨u,t2,a1,a2,a3⟩:=CR hx au qo (bM C7)
          rw[nY] at a1;cases a1
          refine ⟨u,by simpa using a2,?_⟩
          rw[qj (tq.trans (bM C7)) nY]
          exact a3.mono hle.c9 hle.b8
       ·rw[ai iD] at hz
        obtain ⟨u,a2,a3⟩:=hx i' j z t' hz nY hj
        have bA:i'*P.cellsOf e+j<i*P.cellsOf e+c∨i*P.cellsOf e+c+v.cells.size≤i'*P.cellsOf e+j:=by
         rcases oN i' i with aO|pb
         ·left
          have:(i'+1)*P.cellsOf e≤i*P.cellsOf e:=dt _ aO
          rw[df] at this
          omega
         ·right
          have:(i+1)*P.cellsOf e≤i'*P.cellsOf e:=dt _ (by omega)
          rw[df] at this
          omega
        refine ⟨u,?_,a3.mono hle.c9 hle.b8⟩
        rcases bA with bA|bA
        ·rw[aj bA];simpa using a2
        ·rw[ai (by omega),ai (by omega)];simpa using a2)
     exact ⟨_,_,_,cN,qm.trans za.1,za.2,rfl⟩
   | map _ _=>cases h
   | nest e es ar=>
    obtain ⟨b,hb,rfl⟩:=ha.gC ab (by simp)
    exact MD S ht hn hv ab hb .here h
 | cx id ver path i c=>
  obtain ⟨e0,es,ar,l,ab,h1,U,h3,h⟩:=nT h
  obtain ⟨b,b1,e1,l1,hb,da,rfl⟩:=ha.Mg ab h1 U h3
  exact MD S ht hn hv ab hb da h
 | _=>cases h
end
section
variable {P:Program} {w w':World} {I I':Nat→Prop} {β β':Nat→Option Nat} {hp hp':Nat→Option an} {C:ag} {B:Nat} {M:Nat→Prop} {w0:Start}
theorem Hk: ∀{ts:List TypeId} {vs:List Value} {j:Nat} {y:V},(iP P ts vs)[j]? =some y→∃t v,ts[j]? =some t∧vs[j]? =some v∧y=oS P t v
 | [],vs,j,y,h=>by simp[iP] at h
 | _::_,[],j,y,h=>by simp[iP] at h
 | t::ts,v::vs,0,y,h=>by simp[iP] at h;exact ⟨t,v,rfl,rfl,h.symm⟩
 | t::ts,v::vs,j+1,y,h=>by
  simp only[iP,List.getElem?_cons_succ] at h
  obtain ⟨t',v',a,b,c⟩:=Hk h
  exact ⟨t',v',by simpa using a,by simpa using b,c⟩
theorem MH: ∀{ts:List TypeId} {vs:List Value},ts.length=vs.length→(iP P ts vs).length=vs.length
 | [],[],_=>rfl
 | [],_::_,h=>by simp at h
 | _::_,[],h=>by simp at h
 | t::ts,v::vs,h=>by simp[iP,MH (ts:=ts) (vs:=vs) (by simpa using h)]
theorem j4 {e:TypeId} (h:cI P e=true): ∃i z,P.info? e=some i∧i.zero=some z∧i.size=P.cellsOf e∧z.cells.size=P.cellsOf e∧zeroCells P e=iP P (flat P e) z.cells.toList:=by
 unfold cI at h
 simp only[aK,aQ,jM] at h
 obtain ⟨h1,U,_,h3⟩:=h
 cases hi:P.info? e with
 | none=>rw[hi] at h3;cases h3
 | some i=>
  rw[hi] at h3
  simp only[Option.bind_some] at h3
  cases hz:i.zero with
  | none=>rw[hz] at h3;cases h3
  | some z=>
   rw[hz] at h3
   simp only[aQ] at h3
   exact ⟨i,z,rfl,hz,by simp[Program.cellsOf,hi],h3,by simp[zeroCells,hi,hz]⟩
theorem MI {e:TypeId} (h:cI P e=true): ∃i z,P.info? e=some i∧i.zero=some z∧z.cells.size=(zeroCells P e).length∧z.cells.size=P.cellsOf e∧
  ∀(j:Nat) v x,z.cells[j]? =some v→(zeroCells P e)[j]? =some x→ao P w I β hp v x:=by
 obtain ⟨i,z,h1,U,h3,h4,h5⟩:=j4 h
 have hl:(flat P e).length=z.cells.toList.length:=by rw[(jX h).1];simpa using h4.symm
 refine ⟨i,z,h1,U,?_,h4,fun j v x hv hx=> ?_⟩
 ·rw[h5,MH hl];simp
 ·rw[h5] at hx
  obtain ⟨t,v',_,vB,rfl⟩:=Hk hx
  have:v'=v:=by
   have e1:z.cells[j]? =some v':=by simpa using vB
   rw[hv] at e1;exact (c6 e1).symm
  subst this
  exact ao.const t v'
theorem mP {nb:Nat} {b:an} {v:V} {upd:List (Nat × an)} {r:R} {rd:List Nat} (h:(iQ nb b v upd).run C hp=some (r,rd)):hp nb=none∧r=⟨v,(nb,b)::upd⟩:=by
 obtain ⟨l,h⟩:=run_get h
 cases hn:hp nb with
 | none=>rw[hn] at h;exact ⟨rfl,(aM h).symm⟩
 | some x=>rw[hn] at h;cases h
theorem MJ (S:aF P w I β hp B M w0) {nb:Nat} {xs:List V} {C0:Array Value} {T:TypeId} (hn:hp nb=none) (hs:C0.size=xs.length)
  (hx: ∀(j:Nat) v x,C0[j]? =some v→xs[j]? =some x→ao P w I β hp v x) (fO:Mb P w.heap.size T C0):
  Le P w I β hp (w.alloc (.cells C0 T)) I (aH β nb (some w.heap.size)) (aH hp nb (some (.var T xs)))∧aF P (w.alloc (.cells C0 T)) I (aH β nb (some w.heap.size)) (aH hp nb (some (.var T xs))) B M w0∧
  ao P (w.alloc (.cells C0 T)) I (aH β nb (some w.heap.size)) (aH hp nb (some (.var T xs))) (.pointer (some ⟨w.heap.size,0,none⟩)) (.ptr nb 0 0):=by
 obtain ⟨h1,U⟩:=GZ S (blk:= .var T xs) (c:=C0) (T:=T) hn (fun b' h=>(c6 (h.flat (by simp))).symm) (fun hle eJ cH=> .var rfl eJ hs cH (fun j v x a b=>(hx j v x a b).mono hle) fO)
 refine ⟨h1,U,?_⟩
 have:=ao.ptr (P:=P) (w:=w.alloc (.cells C0 T)) (I:=I) (β:=aH β nb (some w.heap.size)) (hp:=aH hp nb (some (.var T xs))) (i:=0) (c:=0) (blk:= .var T xs) (cM _ _ _) (by simp) (cM _ _ _)
 simpa using this
theorem Wj (S:aF P w I β hp B M w0) {e:TypeId} {nb:Nat} {r:R} {rd:List Nat}
  (h:(Rd.aC (cI P e&&(!(oT P e)||L6 (zeroCells P e))) (iQ nb (.var e (zeroCells P e)) (.ptr nb 0 0) [])).run C hp=some (r,rd)):cS P ((Instr.alloc e true (.tuple #[])).run P w) w I β hp B M w0 r:=by
 obtain ⟨au,h⟩:=aG h
 rw[aK] at au
 obtain ⟨au,lQ⟩:=au
 obtain ⟨hn,rfl⟩:=mP h
 obtain ⟨i,z,h1,U,h3,h4,h5⟩:=MI (w:=w) (I:=I) (β:=β) (hp:=hp) au
 obtain ⟨a,b,c⟩:=MJ S (T:=e) hn h3 h5 fun bP=>by
  rw[bP,pP,Bool.false_or] at lQ
  cases hz:zeroCells P e with
  | nil=>rw[hz] at lQ;cases lQ
  | cons y l=>
   rw[hz] at lQ h3 h5
   cases y<;>first|(cases lQ;done)|skip
   have aO:0<z.cells.size:=by rw[h3];simp
   have:=h5 0 z.cells[0] .dh (ku aO) rfl
   left
   rw[ku aO]
   generalize z.cells[0]=u at this
   cases this;rfl
 exact ⟨_,_,_,_,by simp[Instr.alloc,zeroValue,typeInfo,h1,U,newVar,newRow],a,b,c⟩
theorem Wk (S:aF P w I β hp B M w0) {e:TypeId} {nb:Nat} {x:V} {v:Value} {r:R} {rd:List Nat} (hv:ao P w I β hp v x)
  (h:(Rd.aC (!(oT P e)) <| kY x.cells (iQ nb (.var e x.cells) (.ptr nb 0 0) [])).run C hp=some (r,rd)):cS P ((Instr.box e v).run P w) w I β hp B M w0 r:=by
 obtain ⟨lQ,h⟩:=aG h
 obtain ⟨e1,e2⟩:=G4 hv h
 obtain ⟨_,l,h⟩:=CU h (vs:=v.cells.toList) (by simpa using e1) (fun j u y a b=>e2 j u y (by simpa using a) b)
 obtain ⟨hn,rfl⟩:=mP h
 obtain ⟨a,b,c⟩:=MJ S (T:=e) hn e1 e2 fun bP=>by rw[bP] at lQ;cases lQ
 exact ⟨_,_,_,_,by simp[Instr.box,newVar,newRow],a,b,c⟩
theorem foldl_set (off:Nat): ∀(vs:List Value) (k:Nat) (cs:Array Value) (i:Nat),off+k+vs.length≤cs.size→
  ((vs.zipIdx k).foldl (fun cs p=>cs.setIfInBounds (off+p.2) p.1) cs)[i]? =if i<off+k then cs[i]? else if i<off+k+vs.length then vs[i-(off+k)]? else cs[i]?
 | [],k,cs,i,h=>by simp;intro h1 U;omega
 | v::vs,k,cs,i,h=>by
  simp only[List.zipIdx_cons,List.foldl_cons]
  simp only[List.length_cons] at h⊢
  rw[foldl_set off vs (k+1) _ i (by simp;omega)]
  by_cases h1:i<off+k
  ·rw[aj (by omega),aj h1]
   rw[BY (by omega)]
  ·rw[ai h1]
   by_cases U:i=off+k
   ·subst U
    rw[aj (by omega),aj (by omega)]
    rw[Gm (by omega)]
    simp
   ·rw[ai (by omega)]
    by_cases h3:i<off+k+(vs.length+1)
    ·rw[aj (by omega),aj h3,show i-(off+k)=(i-(off+(k+1)))+1 by omega]
     simp
    ·rw[ai (by omega),ai h3,BY (by omega)]
theorem MK (off:Nat): ∀(vs:List Value) (k:Nat) (cs:Array Value),((vs.zipIdx k).foldl (fun cs p=>cs.setIfInBounds (off+p.2) p.1) cs).size=cs.size
 | [],k,cs=>rfl
 | v::vs,k,cs=>by
  simp only[List.zipIdx_cons,List.foldl_cons]
  rw[MK off vs (k+1)]
  simp
theorem ML {cells:Array Value} {off:Nat} {v:Value} (h:off+v.cells.size≤cells.size) (i:Nat):
  (v.cells.zipIdx.foldl (fun cs (p:Value × Nat)=>cs.setIfInBounds (off+p.2) p.1) cells)[i]? =if i<off then cells[i]? else if i<off+v.cells.size then v.cells[i-off]? else cells[i]? :=by
 have:=foldl_set off v.cells.toList 0 cells i (by simpa using h)
 rw[←BZ]
 simpa[Array.toList_zipIdx] using this
theorem MM {cells:Array Value} {off:Nat} {v:Value}:(v.cells.zipIdx.foldl (fun cs (p:Value × Nat)=>cs.setIfInBounds (off+p.2) p.1) cells).size=cells.size:=by
 have:=MK off v.cells.toList 0 cells
 rw[←BZ]
 simpa[Array.toList_zipIdx] using this
inductive vK (P:Program) (w:World) (I:Nat→Prop) (β:Nat→Option Nat) (hp:Nat→Option an):List (Nat × Value)→List (Nat × V)→Prop
 | nil:vK P w I β hp [] []
 | cons {i:Nat} {v:Value} {x:V} {vs:List (Nat × Value)} {xs:List (Nat × V)}:v.cells.size=x.cells.length→(∀(j:Nat) u y,v.cells[j]? =some u→x.cells[j]? =some y→ao P w I β hp u y)→
   vK P w I β hp vs xs→vK P w I β hp ((i,v)::vs) ((i,x)::xs)
theorem MN (place:Nat→Option (Nat × Nat)): ∀{vs:List (Nat × Value)} {px:List (Nat × V)} {cells:Array Value} {xs ys:List V},vK P w I β hp vs px→cells.size=xs.length→
  (∀(j:Nat) v x,cells[j]? =some v→xs[j]? =some x→ao P w I β hp v x)→sW place xs px=some ys→
  ∃pc:Array Value,Instr.fill place cells vs=some pc∧pc.size=ys.length∧∀(j:Nat) v x,pc[j]? =some v→ys[j]? =some x→ao P w I β hp v x
 | _,_,cells,xs,ys,.nil,hs,hx,h=>by
  simp only[sW,dL] at h
  subst h
  exact ⟨cells,by simp[Instr.fill],hs,hx⟩
 | _,_,cells,xs,ys,@vK.cons _ _ _ _ _ i v x vs px h1 U h3,hs,hx,h=>by
  simp only[sW] at h
  cases bQ:place i with
  | none=>rw[bQ] at h;cases h
  | some os=>
   obtain ⟨off,size⟩:=os
   rw[bQ] at h
   simp only at h
   cases hc:(Nat.beq x.cells.length size&&Nat.ble (off+size) xs.length) with
   | false=>rw[hc] at h;cases h
   | true=>
    rw[hc] at h
    simp only[cond_true] at h
    simp only[aK,aQ,dm] at hc
    have hv:off+v.cells.size≤cells.size:=by omega
    have hb:off+x.cells.length≤xs.length:=by omega
    have hl:(fu xs off x.cells).length=xs.length:=y9 _ _ _ hb
    obtain ⟨pc,f1,f2,f3⟩:=MN place (cells:=v.cells.zipIdx.foldl (fun cs (p:Value × Nat)=>cs.setIfInBounds (off+p.2) p.1) cells) (xs:=fu xs off x.cells) h3 (by rw[MM,hl,hs])
     (fun j u y hu hy=>by
      rw[ML hv] at hu
      unfold fu at hy
      rw[mO _ _ _ _ hb] at hy
      by_cases j1:j<off
      ·rw[aj j1] at hu hy;exact hx j u y hu hy
      ·rw[ai j1] at hu hy
       by_cases j2:j<off+x.cells.length
       ·rw[aj (by omega)] at hu
        rw[aj j2] at hy
        exact U (j-off) u y hu hy
       ·rw[ai (by omega)] at hu
        rw[ai j2] at hy
        exact hx j u y hu hy) h
    refine ⟨pc,?_,f2,f3⟩
    simp only[Instr.fill,bQ]
    rw[ai (by simp;omega)]
    exact f1
theorem Wl {t:TypeId} {parts:Array (Nat × Value)} {cells:Array Value} {z:Value} {i:TypeInfo} (hi:P.info? t=some i) (hz:i.zero=some z) (h:Instr.fill (placeOf P t) z.cells parts.toList=some cells) (ha:bI P t=true)
  (bQ: ∀fs,P.underlying t=some (.struct fs)→(fs.toList.mapM fun f=>(P.info? f.type).map fun i=>(f.offset,i.size)).isSome=true) (qp: ∀n e,P.underlying t=some (.array n e)→(P.info? e).isSome=true):
  (Instr.build t parts).run P w= .ok (.agg cells) w:=by
 refine run_build w t parts cells ?_
 unfold Program.built
 unfold bI at ha
 rw[hi]
 split at ha
 ·rename_i fs hu
  have:=bQ fs hu
  cases hm:fs.toList.mapM fun f=>(P.info? f.type).map fun i=>(f.offset,i.size) with
  | none=>rw[hm] at this;cases this
  | some GD=>
   simp only[hu,hz,hm]
   have hq:placeOf P t=fun i=>GD[i]? :=by simp[placeOf,hu,hm]
   rw[hq] at h
   simpa using h
 ·rename_i n e hu
  have:=qp n e hu
  cases jt:P.info? e with
  | none=>rw[jt] at this;cases this
  | some ie=>
   simp only[hu,hz,jt]
   have hq:placeOf P t=fun i=>some (i*ie.size,ie.size):=by simp[placeOf,hu,jt]
   rw[hq] at h
   exact h
 ·cases ha
theorem MO {α:Type}: ∀(xs ys:List V) (k:Rd α),kY (xs++ys) k=kY xs (kY ys k)
 | [],_,_=>rfl
 | x::xs,ys,k=>by simp only[List.cons_append,kY,MO xs ys k]
theorem MP {a:Act} {sl:Nat→V} (hs:kE P w I β hp a sl) {G:Nat→V} (hg:fW P G w I) (t:TypeId) {α:Type}: ∀{l:List (Nat × Operand)} {k:Rd α} {r:α} {rd:List Nat},
  (kY ((l.map fun p=>(aN P G t sl p.2).cells).flatten) k).run C hp=some (r,rd)→
  vK P w I β hp (l.map fun p=>(p.1,a.eval p.2)) (l.map fun p=>(p.1,aN P G t sl p.2))∧∃eK,k.run C hp=some (r,eK)
 | [],k,r,rd,h=>⟨.nil,rd,h⟩
 | (i,x)::l,k,r,rd,h=>by
  simp only[cw,List.flatten_cons,MO] at h
  obtain ⟨e1,e2⟩:=G4 (hs.ev hg t x) h
  obtain ⟨_,l1,h⟩:=CU h (vs:=(a.eval x).cells.toList) (by simpa using e1) (fun j u y a b=>e2 j u y (by simpa using a) b)
  obtain ⟨h1,U⟩:=MP hs hg t h
  exact ⟨.cons e1 e2 h1,U⟩
theorem Wm (S:aF P w I β hp B M w0) {a:Act} {sl:Nat→V} (hs:kE P w I β hp a sl) {G:Nat→V} (hg:fW P G w I) {t ty:TypeId} {ps:Array (Nat × Operand)} {r:R} {rd:List Nat}
  (h:(Rd.aC (cI P t&&(bI P t&&Cs P t)) (kY ((ps.toList.map fun p=>(aN P G ty sl p.2).cells).flatten)
   (vf (sW (placeOf P t) (zeroCells P t) (ps.toList.map fun p=>(p.1,aN P G ty sl p.2))) fun cs=> .ret ⟨.agg cs,[]⟩))).run C hp=some (r,rd)):
  cS P ((Instr.build t (ps.map fun (i,x)=>(i,a.eval x))).run P w) w I β hp B M w0 r:=by
 obtain ⟨au,h⟩:=aG h
 simp only[aK] at au
 obtain ⟨h1,l,h⟩:=MP hs hg ty h
 cases hf:sW (placeOf P t) (zeroCells P t) (ps.toList.map fun p=>(p.1,aN P G ty sl p.2)) with
 | none=>rw[hf] at h;cases h
 | some cs=>
  rw[hf] at h
  obtain rfl:=aM h
  obtain ⟨i,z,hi,hz,h3,h4,h5⟩:=MI (w:=w) (I:=I) (β:=β) (hp:=hp) au.1
  obtain ⟨cells,f1,f2,f3⟩:=MN (placeOf P t) h1 h3 h5 hf
  have MQ:=au.2.2
  refine .same S (v:= .agg cells) (Wl hi hz (by simpa using f1) au.2.1 (fun fs hu=> ?_) (fun n e hu=> ?_)) (.agg f2 f3)
  ·simpa[Cs,hu] using MQ
  ·simpa[Cs,hu] using MQ
theorem Wn (cA: ∀id blk,hp id=some blk→dN P w I β hp (β id) blk) {x:V} {v:Value} {ys:List V} {fr:List (Nat × an)} {rd:List Nat} {ts:List TypeId} (hv:ao P w I β hp v x)
  (h:(rn P x.cells).run C hp=some ((ys,fr),rd)) (ht:pT P ts ys=true):
  v.cells.size=x.cells.length∧∀(j:Nat) u y,v.cells.toList[j]? =some u→x.cells[j]? =some y→ao P w I β hp u y:=by
 cases x with
 | agg xs=>
  obtain ⟨cs,rfl,h1,U⟩:=hv.kG
  exact ⟨h1,fun j u y a b=>U j u y (by simpa[Value.cells] using a) b⟩
 | _=>
  simp only[V.cells] at h⊢
  simp only[rn] at h
  obtain ⟨⟨y1,u1⟩,l3,l4,hq,h⟩:=kF h
  obtain ⟨q1,q2⟩:=CI cA hq hv
  obtain ⟨⟨y2,u2⟩,l5,l6,zh,h⟩:=kF h
  cases zh
  have:=aM h
  cases this
  obtain ⟨tl,tg⟩:=tk ht
  have fk:=tg 0 _ y1 (bM (by rw[tl];exact Nat.one_pos)) rfl
  have bQ:=q2 (iz P w I β hp u1) (fun _ h=> .inl h) (fun p hp b h=> .inr ⟨p,hp,h⟩)
  have ho:=bQ.pure fk
  have Hj:v.cells= #[v]:=by cases ho<;>rfl
  rw[Hj]
  refine ⟨rfl,fun j u y hu hy=> ?_⟩
  cases j with
  | zero=>simp at hu hy;subst hu;subst hy;exact hv
  | succ j=>simp at hy
def vL (P:Program) (w:World) (I:Nat→Prop) (e:TypeId) (cells:Array Value) (es:List V):Prop:=
 cells.size=es.length*P.cellsOf e∧∀(i j:Nat) (x:V) (t':TypeId),es[i]? =some x→(aR P e)[j]? =some t'→j<P.cellsOf e→∃v,cells[i*P.cellsOf e+j]? =some v∧Pure P w I t' v (bK P e x j)
theorem vL.set {e:TypeId} {cells:Array Value} {es ys:List V} {i:Nat} {v:Value} (h:vL P w I e cells es) (hi:i<es.length) (hv:v.cells.size=P.cellsOf e) (hy:ys.length=P.cellsOf e)
  (hr: ∀(j:Nat) (t':TypeId) (u:Value) (y:V),(aR P e)[j]? =some t'→v.cells[j]? =some u→ys[j]? =some y→Pure P w I t' u y):
  vL P w I e (v.cells.zipIdx.foldl (fun cs (p:Value × Nat)=>cs.setIfInBounds (i*P.cellsOf e+p.2) p.1) cells) (es.set i (cm P e ys)):=by
 obtain ⟨h1,U⟩:=h
 have hb:i*P.cellsOf e+v.cells.size≤cells.size:=by
  have:(i+1)*P.cellsOf e≤es.length*P.cellsOf e:=dt _ hi
  rw[df] at this
  omega
 refine ⟨by rw[MM,nG,h1],fun i' j x t' hx ht hj=> ?_⟩
 rw[ML hb]
 rw[List.getElem?_set] at hx
 by_cases iD:i=i'
 ·subst iD
  rw[aj rfl,aj hi] at hx
  cases hx
  rw[ai (by omega),aj (by omega),show i*P.cellsOf e+j-i*P.cellsOf e=j by omega]
  have h3:j<v.cells.size:=by omega
  have h4:j<ys.length:=by omega
  refine ⟨v.cells[j],ku h3,?_⟩
  rw[qj (bM h4) ht]
  exact hr j t' _ _ ht (ku h3) (bM h4)
 ·rw[ai iD] at hx
  have bA:i'*P.cellsOf e+j<i*P.cellsOf e∨i*P.cellsOf e+v.cells.size≤i'*P.cellsOf e+j:=by
   rcases oN i' i with aO|pb
   ·left
    have:(i'+1)*P.cellsOf e≤i*P.cellsOf e:=dt _ aO
    rw[df] at this
    omega
   ·right
    have:(i+1)*P.cellsOf e≤i'*P.cellsOf e:=dt _ (by omega)
    rw[df] at this
    omega
  rcases bA with bA|bA
  ·rw[aj bA];exact U i' j x t' hx ht hj
  ·rw[ai (by omega),ai (by omega)];exact U i' j x t' hx ht hj
theorem Wo {t':TypeId} {v:Value} (fk:eH P t' (u9 (oS P t' v))=true):Pure P w I t' v (u9 (oS P t' v)):=by
 have hc:=ao.const (P:=P) (w:=w) (I:=I) (β:=fun _=>none) (hp:=fun _=>none) t' v
 cases tt:oS P t' v<;>rw[tt] at fk hc<;>simp only[u9] at fk⊢
 case int k n=>rw[hc.dI];exact Plain.pure (v:= .int k n) (y:= .int k n) rfl fk
 case bool b=>rw[hc.jY];exact Plain.pure (v:= .bool b) (y:= .bool b) rfl fk
 case str l=>obtain ⟨s,e1,e2⟩:=hc.lP;rw[e1];exact Plain.pure (v:= .string s) (y:= .str l) ⟨s,rfl,e2⟩ fk
 case nilS e'=>
  cases hc
  exact Plain.pure (y:= .list e' []) (iv.any fun _=>rfl) fk
 case list e' es=>
  cases hc with
  | list hp=>exact Plain.pure (y:= .list e' es) hp fk
 all_goals (unfold eH at fk;split at fk<;>simp_all)
theorem zi {e:TypeId} (h:lI P e=true): ∃i z,P.info? e=some i∧i.zero=some z∧i.size=P.cellsOf e∧z.cells.size=P.cellsOf e∧
  ∀(j:Nat) (t':TypeId),(aR P e)[j]? =some t'→j<P.cellsOf e→∃v,z.cells[j]? =some v∧Pure P w I t' v (bK P e (cm P e (ez P e)) j):=by
 unfold lI at h
 simp only[aK] at h
 obtain ⟨i,z,h1,U,h3,h4,h5⟩:=j4 h.1
 refine ⟨i,z,h1,U,h3,h4,fun j t' ht hj=> ?_⟩
 obtain ⟨tl,tg⟩:=tk h.2
 have b9:j<(ez P e).length:=by rw[←tl,(jX h.1).1];exact hj
 have hz:=bM b9
 have fk:=tg j t' _ (by rw[←rH];exact ht) hz
 refine ⟨z.cells[j],ku (by omega),?_⟩
 rw[qj hz ht]
 have tu:(ez P e)[j]=u9 (oS P t' z.cells[j]):=by
  have:(ez P e)[j]? =((zeroCells P e)[j]?).map u9:=by simp[ez]
  rw[hz] at this
  cases hc:(zeroCells P e)[j]? with
  | none=>rw[hc] at this;cases this
  | some y=>
   rw[hc] at this
   simp only[Option.map_some,dL] at this
   rw[h5] at hc
   obtain ⟨t2,v2,a1,a2,rfl⟩:=Hk hc
   have Wp:t2=t':=by
    rw[←rH,ht] at a1;exact (c6 a1).symm
   have qc:v2=z.cells[j]:=by
    have Wq:j<z.cells.size:=by omega
    have:z.cells.toList[j]? =some z.cells[j]:=by simp[Wq]
    rw[this] at a2;exact (c6 a2).symm
   rw[this,Wp,qc]
 rw[tu] at fk⊢
 exact Wo fk
end
section
variable {P:Program} {w w':World} {I I':Nat→Prop} {β β':Nat→Option Nat} {hp hp':Nat→Option an} {C:ag} {B:Nat} {M:Nat→Prop} {w0:Start}
theorem vM (S:aF P w I β hp B M w0) {nb cap:Nat} {e:TypeId} {es:List V} {C0:Array Value} (au:cI P e=true) (hn:hp nb=none) (hs:C0.size=cap*P.cellsOf e) (hl:es.length≤cap) (hm:cap≤maxLen)
  (hx: ∀(i j:Nat) (x:V) (t':TypeId),es[i]? =some x→(aR P e)[j]? =some t'→j<P.cellsOf e→∃v,C0[i*P.cellsOf e+j]? =some v∧Pure P w I t' v (bK P e x j)):
  Le P w I β hp (w.alloc (.cells C0 e)) I (aH β nb (some w.heap.size)) (aH hp nb (some (.arr e es false)))∧aF P (w.alloc (.cells C0 e)) I (aH β nb (some w.heap.size)) (aH hp nb (some (.arr e es false))) B M w0∧
  ao P (w.alloc (.cells C0 e)) I (aH β nb (some w.heap.size)) (aH hp nb (some (.arr e es false))) (.slice (some ⟨w.heap.size,0,none⟩) es.length cap) (.whole e nb):=by
 obtain ⟨h1,U⟩:=GZ S (blk:= .arr e es false) (c:=C0) (T:=e) hn (fun b' h=>(c6 (h.flat (by simp))).symm) (fun hle eJ cH=> .arr au rfl eJ (by rw[hs];exact dt _ hl) (fun h=>by cases h) (fun _=>cH) fun i j x t' a b c=>by
  obtain ⟨v,hv,hp⟩:=hx i j x t' a b c
  exact ⟨v,hv,hp.mono hle.c9 hle.b8⟩)
 refine ⟨h1,U,.whole (cM _ _ _) (cM _ _ _) ?_ hl hm⟩
 rw[mK (heap_alloc_new w (.cells C0 e)),hs]
theorem At.only {b b':Nat} {e e':TypeId} {es aL:List V} {q:Path} (hz: ∀(i j:Nat) x t' e1 l,es[i]? =some x→(aR P e)[j]? =some t'→bK P e x j= .list e1 l→l=[])
  (h:At P w b e es q b' e' aL):q=[]∧b'=b∧e'=e∧aL=es:=by
 cases h with
 | here=>exact ⟨rfl,rfl,rfl,rfl⟩
 | step h1 U h3 h4 h5 h6=>have:=hz _ _ _ _ _ _ U h3 h5;subst this;simp at h6
theorem lO.p9 {t:TypeId} {v:Value} {x:V} (h:Pure P w I t v x) (hz: ∀e1 l,x= .list e1 l→l=[]):lO P w I t v x:=by
 cases h with
 | int h=>exact .fy (by unfold fv;rw[h]) (.int h)
 | bool h=>exact .fy (by unfold fv;rw[h]) (.bool h)
 | str h hl=>exact .fy (by unfold fv;rw[h]) (.str h hl)
 | nil h=>exact .emp h fun _=>rfl
 | emp h=>exact .emp h fun h=>by cases h
 | list g hu hl _ _ _ _=>
  have:=hz _ _ rfl
  subst this
  simp at hl
  subst hl
  exact .emp hu fun h=>by cases h
theorem Wr (S:aF P w I β hp B M w0) {nb cap:Nat} {e:TypeId} {es:List V} {C0:Array Value} (au:cI P e=true) (hn:hp nb=none) (hs:C0.size=cap*P.cellsOf e) (hl:es.length≤cap) (hm:cap≤maxLen)
  (hx: ∀(i j:Nat) (x:V) (t':TypeId),es[i]? =some x→(aR P e)[j]? =some t'→j<P.cellsOf e→∃v,C0[i*P.cellsOf e+j]? =some v∧Pure P w I t' v (bK P e x j))
  (hz: ∀(i j:Nat) x t' e1 l,es[i]? =some x→(aR P e)[j]? =some t'→bK P e x j= .list e1 l→l=[]):
  Le P w I β hp (w.alloc (.cells C0 e)) I (aH β nb (some w.heap.size)) (aH hp nb (some (.nest e es [0,0,0])))∧aF P (w.alloc (.cells C0 e)) I (aH β nb (some w.heap.size)) (aH hp nb (some (.nest e es [0,0,0]))) B M w0∧
  ao P (w.alloc (.cells C0 e)) I (aH β nb (some w.heap.size)) (aH hp nb (some (.nest e es [0,0,0]))) (.slice (some ⟨w.heap.size,0,none⟩) es.length cap) (.whole e nb):=by
 obtain ⟨h1,U⟩:=GZ S (blk:= .nest e es [0,0,0]) (c:=C0) (T:=e) hn (fun b' h=>by
   cases h with
   | root _ h=>exact (c6 h).symm
   | row h ha=>cases h;exact (At.only hz ha).2.1)
  (fun hle eJ cH=> .nest rfl (fun q b' e' aL ha=>by
   obtain ⟨rfl,rfl,rfl,rfl⟩:=At.only hz ha
   refine ⟨au,⟨C0,eJ,by rw[hs];exact dt _ hl,fun i j x t' a b c=> ?_⟩,cH⟩
   obtain ⟨v,hv,hp⟩:=hx i j x t' a b c
   exact ⟨v,hv,.p9 (hp.mono hle.c9 hle.b8) fun e1 l h=>hz i j x t' e1 l a b h⟩)
   fun q1 q2 b' e1 cg e2 b6 a1 a2=>(At.only hz a1).1.trans (At.only hz a2).1.symm)
 refine ⟨h1,U,.ei (cM _ _ _) (cM _ _ _) ?_ hl hm⟩
 rw[mK (heap_alloc_new w (.cells C0 e)),hs]
theorem MR (cA: ∀id blk,hp id=some blk→dN P w I β hp (β id) blk) {a:Act} {sl:Nat→V} (hs:kE P w I β hp a sl) {G:Nat→V} (hg:fW P G w I) {e:TypeId} {len:Nat}: ∀{l:List (Nat × Operand)} {ps:List (Nat × V)} {upd:List (Nat × an)} {rd:List Nat},
  (yC P e len (l.map fun p=>(p.1,aN P G e sl p.2))).run C hp=some ((ps,upd),rd)→cI P e=true→(∀p∈upd,yV hp p)∧∀I':Nat→Prop,(∀b,I b→I' b)→(∀p∈upd,∀b,rG P w β hp p.1 b→I' b)→
   ∀(cells:Array Value) (es:List V),es.length=len→vL P w I' e cells es→∃pc,Instr.fill (fun i=>some (i*P.cellsOf e,P.cellsOf e)) cells (l.map fun p=>(p.1,a.eval p.2))=some pc∧vL P w I' e pc (yB es ps)∧(yB es ps).length=len
 | [],ps,upd,rd,h,_=>by
  cases h
  exact ⟨by simp,fun I' _ _ cells es hl he=>⟨cells,by simp[Instr.fill],he,hl⟩⟩
 | (i,x)::l,ps,upd,rd,h,au=>by
  simp only[cw,yC] at h
  obtain ⟨⟨ys,u1⟩,l1,l2,h1,h⟩:=kF h
  obtain ⟨hc,h⟩:=aG h
  obtain ⟨⟨ps',u2⟩,l3,l4,U,h⟩:=kF h
  have:=aM h
  cases this
  simp only[aK,jM] at hc
  obtain ⟨hi,fk⟩:=hc
  obtain ⟨tl,tg⟩:=tk fk
  have vC:=hs.ev hg e x
  obtain ⟨v1,v2⟩:=Wn cA vC h1 fk
  obtain ⟨k1,k2,k3⟩:=GX cA h1 (vs:=(a.eval x).cells.toList) (by simpa using v1) v2
  obtain ⟨m1,m2⟩:=MR cA hs hg U au
  refine ⟨fun p hp=> ?_,fun I' i1 i2 cells es hl he=> ?_⟩
  ·rcases ey.1 hp with h|h
   ·exact k2 p h
   ·exact m1 p h
  ·have bQ:=k3 I' i1 (fun p hp=>i2 p (ey.2 (.inl hp)))
   have aT:=(jX au).1
   have tp:ys.length=P.cellsOf e:=by rw[←tl,aT]
   have Mw:(a.eval x).cells.size=P.cellsOf e:=by rw[v1,←k1,tp]
   have gE:=he.set (i:=i) (ys:=ys) (by omega) Mw tp (fun j t' u y ht hu hy=>by
    exact (bQ j u y (by simpa using hu) hy).pure (tg j t' y (by rw[←rH];exact ht) hy))
   obtain ⟨pc,f1,f2,f3⟩:=m2 I' i1 (fun p hp=>i2 p (ey.2 (.inr hp))) _ (es.set i (cm P e ys)) (by simpa using hl) gE
   refine ⟨pc,?_,f2,f3⟩
   have hb:i*P.cellsOf e+P.cellsOf e≤cells.size:=by
    rw[he.1,hl]
    have:(i+1)*P.cellsOf e≤len*P.cellsOf e:=dt _ hi
    rw[df] at this
    omega
   simp only[cw,Instr.fill]
   rw[ai (by simp;omega)]
   exact f1
theorem MS {z:Array Value} {n k:Nat} (hk:k<n) (hz:0<z.size):((Array.range n).map (z[· %z.size]!))[k]? =z[k %z.size]? :=by
 have hm:k %z.size<z.size:=Nat.mod_lt _ hz
 simp[hk,hm]
theorem C8 {e:TypeId} (h:lI P e=true) {i:TypeInfo} {z:Value} (hi:P.info? e=some i) (hz:i.zero=some z) (n m:Nat) (kW:n≤m):
  ∀(k j:Nat) (x:V) (t':TypeId),(List.replicate n (cm P e (ez P e)))[k]? =some x→(aR P e)[j]? =some t'→j<P.cellsOf e→
   ∃v,((Array.range (m*P.cellsOf e)).map (z.cells[· %z.cells.size]!))[k*P.cellsOf e+j]? =some v∧Pure P w I t' v (bK P e x j):=by
 intro k j x t' hx ht hj
 obtain ⟨i2,z2,h1,U,h3,h4,h5⟩:=zi (w:=w) (I:=I) h
 rw[hi] at h1;cases h1
 rw[hz] at U;cases U
 rw[List.getElem?_replicate] at hx
 split at hx
 ·rename_i hk
  cases hx
  obtain ⟨v,hv,hp⟩:=h5 j t' ht hj
  refine ⟨v,?_,hp⟩
  have hb:k*P.cellsOf e+j<m*P.cellsOf e:=by
   have:(k+1)*P.cellsOf e≤m*P.cellsOf e:=dt _ (by omega)
   rw[df] at this
   omega
  rw[MS hb (by omega),h4,show (k*P.cellsOf e+j) %P.cellsOf e=j by rw[nH,Nat.mul_add_mod];exact Nat.mod_eq_of_lt hj]
  exact hv
 ·cases hx
theorem Ws {P:Program} (w:World) (t e:TypeId) (len:Nat) (parts:Array (Nat × Value)) (cells:Array Value) (ie:TypeInfo) (z:Value)
  (hu:P.underlying t=some (.slice e)) (jt:P.info? e=some ie) (hz:ie.zero=some z) (Wt: ¬len*ie.size>2^24)
  (h:Instr.fill (fun i=>some (i*ie.size,ie.size)) ((Array.range (len*ie.size)).map (z.cells[· %z.cells.size]!)) parts.toList=some cells):
  (Instr.buildSlice t len parts).run P w= .ok (.slice (some ⟨w.heap.size,0,none⟩) len len) (w.alloc (.cells cells e)):=by
 by_cases kW:len*ie.size=0
 ·have h0: ∀g:Nat→Value,(Array.range (len*ie.size)).map g= #[]:=by intro g;exact Array.eq_empty_of_size_eq_zero (by simp[kW])
  have hp: ∀(u:Array Value),(Pure.pure u:Sem (Array Value)).run P w= .ok u w:=fun _=>rfl
  rw[h0] at h
  simp only[Instr.buildSlice,Sem.run_bind,run_underlying hu,Result.andThen_ok,sizeOf,typeInfo,jt]
  have h1:(Array.range (len*ie.size)).map (fun _:Nat=>(default:Value))= #[]:=h0 _
  have hs: ¬16777216<len*ie.size:=by omega
  simp[jt,hs,kW]
  simp only[kW] at h1
  simp[h1,h,newRow]
 ·exact run_buildSlice w t e len parts cells ie z hu jt hz Wt kW h
theorem Wu (S:aF P w I β hp B M w0) {a:Act} {sl:Nat→V} (hs:kE P w I β hp a sl) {G:Nat→V} (hg:fW P G w I) {t e:TypeId} {len nb:Nat} {ps:Array (Nat × Operand)} {r:R} {rd:List Nat} (hu:P.underlying t=some (.slice e))
  (h:(Rd.aC (lI P e&&Nat.ble (len*P.cellsOf e) (2^24)) ((yC P e len (ps.toList.map fun p=>(p.1,aN P G e sl p.2))).bind fun r=>
    iQ nb (.arr e (yB (List.replicate len (cm P e (ez P e))) r.1) false) (.whole e nb) r.2)).run C hp=some (r,rd)):
  cS P ((Instr.buildSlice t len (ps.map fun (i,x)=>(i,a.eval x))).run P w) w I β hp B M w0 r:=by
 obtain ⟨hc,h⟩:=aG h
 simp only[aK,dm] at hc
 obtain ⟨cK,rC⟩:=hc
 have au:cI P e=true:=by
  unfold lI at cK;simp only[aK] at cK;exact cK.1
 obtain ⟨⟨pv,upd⟩,l1,l2,h1,h⟩:=kF h
 obtain ⟨hn,rfl⟩:=mP h
 obtain ⟨m1,m2⟩:=MR S.h.rel hs hg h1 au
 obtain ⟨qm,S1⟩:=yZ S m1
 obtain ⟨i,z,hi,hz,h3,h4,_⟩:=zi (w:=w) (I:=I) cK
 have lb:=(jX au).2
 have h0:vL P w (iz P w I β hp upd) e ((Array.range (len*P.cellsOf e)).map (z.cells[· %z.cells.size]!)) (List.replicate len (cm P e (ez P e))):=
  ⟨by simp,C8 cK hi hz len len (bZ _)⟩
 obtain ⟨cells,f1,f2,f3⟩:=m2 (iz P w I β hp upd) (fun _ h=> .inl h) (fun p hp b h=> .inr ⟨p,hp,h⟩) _ _ (by simp) h0
 have j5:bJ hp upd nb=none:=by
  rcases td (hp:=hp) (l:=upd) (id:=nb) with h|⟨b',hm,_⟩
  ·exact h.trans hn
  ·obtain ⟨e1,cg,_,h5⟩:=m1 _ hm
   simp only[hn] at h5
   rcases h5 with ⟨_,h5⟩|⟨_,h5⟩<;>cases h5
 have nU:len≤maxLen:=by
  have:len*1≤len*P.cellsOf e:=sM _ lb
  simp only[maxLen]
  omega
 obtain ⟨n1,n2,n3⟩:=vM S1 (cap:=len) au j5 (by rw[f2.1,f3]) (by rw[f3];exact bZ _) nU f2.2
 have cN:=Ws w t e len (ps.map fun (i,x)=>(i,a.eval x)) cells i z hu hi hz (by rw[h3];omega) (by rw[h3];simpa using f1)
 refine ⟨_,_,_,_,cN,qm.trans n1,n2,?_⟩
 rw[f3] at n3
 exact n3
theorem MT (S:aF P w I β hp B M w0) {t e:TypeId} {nb:Nat} {kl kc:IntKind} {n m:Int} {r:R} {rd:List Nat} (hu:P.underlying t=some (.slice e))
  (h:(Rd.aC (lI P e&&(decide (0≤n)&&(decide (n≤m)&&Nat.ble (m.toNat*P.bytesOf e) bS)))
    (iQ nb (.arr e (List.replicate n.toNat (cm P e (ez P e))) false) (.whole e nb) [])).run C hp=some (r,rd)):
  cS P ((Instr.makeSlice t (.int kl n) (.int kc m)).run P w) w I β hp B M w0 r:=by
 obtain ⟨hc,h⟩:=aG h
 simp only[aK,dm,dW] at hc
 obtain ⟨cK,h0,kW,dJ⟩:=hc
 have au:cI P e=true:=by
  unfold lI at cK;simp only[aK] at cK;exact cK.1
 obtain ⟨hn,rfl⟩:=mP h
 obtain ⟨i,z,hi,hz,h3,h4,_⟩:=zi (w:=w) (I:=I) cK
 have lS:P.bytesOf e=i.bytes:=by simp[Program.bytesOf,hi]
 have Hl:m≤9223372036854775807:=by
  have h1:m.toNat*1≤m.toNat*P.bytesOf e:=sM _ (vp au)
  simp only[bS] at dJ
  omega
 have cN:=run_make (P:=P) w t e i z hu hi hz kl kc n m h0 kW (by
  rw[lS] at dJ
  simp only[bS] at dJ
  have:(i.bytes:Int)*m=((m.toNat*i.bytes:Nat):Int):=by
   rw[Int.natCast_mul,Int.toNat_of_nonneg (by omega),Int.mul_comm]
  rw[this]
  omega) Hl
 have hlen:(List.replicate n.toNat (cm P e (ez P e))).length=n.toNat:=by simp
 obtain ⟨n1,n2,n3⟩:=vM S (cap:=m.toNat) (es:=List.replicate n.toNat (cm P e (ez P e))) (C0:=madeCells z.cells (m.toNat*i.size)) au hn (by rw[size_madeCells,h3]) (by rw[hlen];omega) (by simp only[maxLen];omega)
  (by rw[h3];exact C8 cK hi hz n.toNat m.toNat (by omega))
 refine ⟨_,_,_,_,cN,n1,n2,?_⟩
 rw[hlen] at n3
 exact n3
theorem Hm: ∀{l:List V} {j:Nat} {e1:TypeId} {k:List V},yL l=true→V.nth l j= .list e1 k→k=[]
 | [],j,e1,k,_,h=>by cases j<;>cases h
 | x::l,0,e1,k,hn,h=>by
  simp only[V.nth] at h
  subst h
  cases k with
  | nil=>rfl
  | cons _ _=>cases hn
 | x::l,j+1,e1,k,hn,h=>by
  refine Hm (l:=l) (j:=j) ?_ h
  cases x with
  | list e2 k2=>
   cases k2 with
   | nil=>exact hn
   | cons _ _=>cases hn
  | _=>exact hn
theorem Wv {e:TypeId} {n:Nat} (au:cI P e=true) (h:yL (ez P e)=true):
  ∀(i j:Nat) x t' e1 l,(List.replicate n (cm P e (ez P e)))[i]? =some x→(aR P e)[j]? =some t'→bK P e x j= .list e1 l→l=[]:=by
 intro i j x t' e1 l hx ht hl
 have:=List.eq_of_mem_replicate (jh hx)
 subst this
 unfold bK cm at hl
 cases ha:bI P e with
 | true=>rw[ha] at hl;exact Hm h hl
 | false=>rw[ha] at hl;exact Hm h hl
theorem Ww (S:aF P w I β hp B M w0) {t e:TypeId} {nb:Nat} {kl kc:IntKind} {n m:Int} {r:R} {rd:List Nat} (hu:P.underlying t=some (.slice e))
  (h:(Rd.aC (lI P e&&(decide (0≤n)&&(decide (n≤m)&&Nat.ble (m.toNat*P.bytesOf e) bS)))
    (Rd.aC (yL (ez P e)) (iQ nb (.nest e (List.replicate n.toNat (cm P e (ez P e))) [0,0,0]) (.whole e nb) []))).run C hp=some (r,rd)):
  cS P ((Instr.makeSlice t (.int kl n) (.int kc m)).run P w) w I β hp B M w0 r:=by
 obtain ⟨hc,h⟩:=aG h
 simp only[aK,dm,dW] at hc
 obtain ⟨cK,h0,kW,dJ⟩:=hc
 have au:cI P e=true:=by
  unfold lI at cK;simp only[aK] at cK;exact cK.1
 obtain ⟨Wx,h⟩:=aG h
 obtain ⟨hn,rfl⟩:=mP h
 obtain ⟨i,z,hi,hz,h3,h4,_⟩:=zi (w:=w) (I:=I) cK
 have lS:P.bytesOf e=i.bytes:=by simp[Program.bytesOf,hi]
 have Hl:m≤9223372036854775807:=by
  have h1:m.toNat*1≤m.toNat*P.bytesOf e:=sM _ (vp au)
  simp only[bS] at dJ
  omega
 have cN:=run_make (P:=P) w t e i z hu hi hz kl kc n m h0 kW (by
  rw[lS] at dJ
  simp only[bS] at dJ
  have:(i.bytes:Int)*m=((m.toNat*i.bytes:Nat):Int):=by
   rw[Int.natCast_mul,Int.toNat_of_nonneg (by omega),Int.mul_comm]
  rw[this]
  omega) Hl
 have hlen:(List.replicate n.toNat (cm P e (ez P e))).length=n.toNat:=by simp
 obtain ⟨n1,n2,n3⟩:=Wr S (cap:=m.toNat) (es:=List.replicate n.toNat (cm P e (ez P e))) (C0:=madeCells z.cells (m.toNat*i.size)) au hn (by rw[size_madeCells,h3]) (by rw[hlen];omega) (by simp only[maxLen];omega)
  (by rw[h3];exact C8 cK hi hz n.toNat m.toNat (by omega))
  (Wv au Wx)
 refine ⟨_,_,_,_,cN,n1,n2,?_⟩
 rw[hlen] at n3
 exact n3
theorem Pure.one {t:TypeId} {v:Value} {x:V} (h:Pure P w I t v x):v.oneCell'=true:=by cases h<;>rfl
structure Row (P:Program) (w:World) (I:Nat→Prop) (e:TypeId) (v:Value) (xs:List V) (a:Addr) (c:Nat) (news:List Value):Prop where
 val:v= .slice (some a) xs.length c
 len:news.length=xs.length*P.cellsOf e
 cell: ∀(j:Nat) u,news[j]? =some u→w.cell? (a.add j)=some u
 el: ∀(i j:Nat) (x:V) (t':TypeId),xs[i]? =some x→(aR P e)[j]? =some t'→j<P.cellsOf e→∃u,news[i*P.cellsOf e+j]? =some u∧Pure P w I t' u (bK P e x j)
theorem Row.one {e:TypeId} {v:Value} {xs:List V} {a:Addr} {c:Nat} {news:List Value} (h:Row P w I e v xs a c news) (au:cI P e=true): ∀u∈news,u.oneCell'=true:=by
 intro u hu
 obtain ⟨k,hk⟩:=rf hu
 have hX:=(bu.1 hk).1
 have lb:=(jX au).2
 rw[h.len] at hX
 have hi:k/P.cellsOf e<xs.length:=Nat.div_lt_of_lt_mul (by rw[nH];exact hX)
 have hj:k %P.cellsOf e<P.cellsOf e:=Nat.mod_lt _ lb
 have gd:k %P.cellsOf e<(aR P e).length:=by rw[fj au];exact hj
 obtain ⟨u',fB,hp⟩:=h.el (k/P.cellsOf e) (k %P.cellsOf e) _ _ (bM hi) (bM gd) hj
 rw[Nat.div_add_mod'] at fB
 rw[hk] at fB
 cases fB
 exact hp.one
theorem MU {e:TypeId} {es:List V} {b:Nat} {Ca:Array Value} {off len cap o:Nat} (hh:w.heap[b]? =some (.cells Ca e (0,0))) (hs:es.length*P.cellsOf e≤Ca.size)
  (hx: ∀(i j:Nat) (x:V) (t':TypeId),es[i]? =some x→(aR P e)[j]? =some t'→j<P.cellsOf e→∃v,Ca[i*P.cellsOf e+j]? =some v∧Pure P w I t' v (bK P e x j))
  (kD:off+len≤es.length) (ho:0<len→o=off*P.cellsOf e):
  Row P w I e (.slice (some ⟨b,o,none⟩) len cap) ((es.drop off).take len) ⟨b,o,none⟩ cap ((Ca.toList.drop (off*P.cellsOf e)).take (len*P.cellsOf e)):=by
 have hlen:((es.drop off).take len).length=len:=by simp;omega
 have hb:(off+len)*P.cellsOf e≤Ca.size:=kS (dt _ kD) hs
 rw[df] at hb
 refine ⟨by rw[hlen],by rw[hlen];simp;omega,fun j u hj=> ?_,fun i j x t' ga ht hj=> ?_⟩
 ·have b9:=(bu.1 hj).1
  have Hn:j<len*P.cellsOf e:=by
   rw[eO] at b9;omega
  have jq:0<len:=by
   rcases Nat.eq_zero_or_pos len with h|h
   ·rw[h] at Hn;simp at Hn
   ·exact h
  rw[eN Hn,gR] at hj
  rw[mN,cell?_cells hh,ho jq]
  simpa using hj
 ·have hi:i<len:=by rw[←hlen];exact (bu.1 ga).1
  rw[eN hi,gR] at ga
  obtain ⟨u,hu,hp⟩:=hx (off+i) j x t' ga ht hj
  refine ⟨u,?_,hp⟩
  have:i*P.cellsOf e+j<len*P.cellsOf e:=by
   have:(i+1)*P.cellsOf e≤len*P.cellsOf e:=dt _ hi
   rw[df] at this
   omega
  rw[eN this,gR]
  rw[df] at hu
  rw[←nF]
  simpa using hu
theorem C9 (cA: ∀id blk,hp id=some blk→dN P w I β hp (β id) blk) {e:TypeId} {v:Value} {x:V} {k:List V→Rd R} {r:R} {rd:List Nat} (au:cI P e=true) (hv:ao P w I β hp v x)
  (h:(ru e x k).run C hp=some (r,rd)): ∃xs,(((∃a,v= .slice a 0 0)∧xs=[])∨∃a c news,Row P w I e v xs a c news)∧∃l,(k xs).run C hp=some (r,l):=by
 cases hv with
 | list hp'=>
  obtain ⟨hc,U⟩:=aG h
  clear h
  rw[aQ] at hc
  subst hc
  cases hp' with
  | nil=>exact ⟨[],.inl ⟨⟨_,rfl⟩,rfl⟩,rd,U⟩
  | @emp a cap=>exact ⟨[],.inr ⟨a,cap,[],⟨rfl,by simp,fun j u hj=>by simp at hj,fun i j x t' hx _ _=>by simp at hx⟩⟩,rd,U⟩
  | @list b o len cap es g hl b7 hI fN hx=>
   refine ⟨_,.inr ⟨⟨b,o,none⟩,cap,(List.range (len*P.cellsOf e)).map fun k=>g (k/P.cellsOf e) (k %P.cellsOf e),⟨by rw[hl],by rw[hl];simp,fun j u hj=> ?_,fun i j x t' ga ht hj=> ?_⟩⟩,rd,U⟩
   ·obtain ⟨b9,hO⟩:=bu.1 hj
    simp at b9 hO
    have lb:=(jX au).2
    have hi:j/P.cellsOf e<len:=Nat.div_lt_of_lt_mul (by rw[nH];exact b9)
    have fP:j %P.cellsOf e<P.cellsOf e:=Nat.mod_lt _ lb
    rw[mN,←hO]
    have:=fN (j/P.cellsOf e) (j %P.cellsOf e) hi fP
    rwa [Nat.div_add_mod'] at this
   ·have hi:i<len:=by rw[←hl];exact (bu.1 ga).1
    have hb:i*P.cellsOf e+j<len*P.cellsOf e:=by
     have:(i+1)*P.cellsOf e≤len*P.cellsOf e:=dt _ hi
     rw[df] at this
     omega
    refine ⟨g i j,?_,hx i j x t' ga ht⟩
    have e1:(i*P.cellsOf e+j)/P.cellsOf e=i:=by
     rw[nH,Nat.mul_add_div (jX au).2,Nat.div_eq_of_lt hj,Nat.add_zero]
    have e2:(i*P.cellsOf e+j) %P.cellsOf e=j:=by
     rw[nH,Nat.mul_add_mod];exact Nat.mod_eq_of_lt hj
    simp[hb,e1,e2]
 | nilS=>
  obtain ⟨hc,h⟩:=aG h
  exact ⟨[],.inl ⟨⟨_,rfl⟩,rfl⟩,rd,h⟩
 | dx ab hb=>
  obtain ⟨l,h⟩:=run_get h
  simp only[ab] at h
  obtain ⟨hc,h⟩:=aG h
  exact ⟨[],.inl ⟨⟨_,rfl⟩,rfl⟩,l,h⟩
 | @whole e' id es fz b cap ab hb aT b7 hm=>
  obtain ⟨l,h⟩:=run_get h
  simp only[ab] at h
  obtain ⟨hc,U⟩:=aG h
  clear h
  simp only[aK,aQ] at hc
  obtain ⟨rfl,_⟩:=hc
  have hr:=cA _ _ ab
  cases hr with
  | dy aB=>rw[aB] at hb;cases hb
  | arr G3 aB hh hs hf eb hx=>
   rw[hb] at aB;cases aB
   have:=MU (cap:=cap) (off:=0) (len:=es.length) (o:=0) hh hs hx (by omega) (fun _=>by simp)
   exact ⟨es,.inr ⟨_,_,_,by simpa using this⟩,l,U⟩
 | fA ab hb=>
  obtain ⟨l,h⟩:=run_get h
  simp only[ab] at h
  obtain ⟨hc,h⟩:=aG h
  exact ⟨[],.inl ⟨⟨_,rfl⟩,rfl⟩,l,by simpa using h⟩
 | @sub e' id off len es fz b o cap ab hb kD b7 ho=>
  obtain ⟨l,h⟩:=run_get h
  simp only[ab] at h
  obtain ⟨hc,U⟩:=aG h
  clear h
  simp only[aK,aQ] at hc
  obtain ⟨rfl,_⟩:=hc
  have hr:=cA _ _ ab
  cases hr with
  | dy aB=>rw[aB] at hb;cases hb
  | arr G3 aB hh hs hf eb hx=>
   rw[hb] at aB;cases aB
   exact ⟨_,.inr ⟨_,_,_,MU (cap:=cap) hh hs hx kD ho⟩,l,U⟩
 | dZ ab=>
  obtain ⟨l,h⟩:=run_get h
  simp only[ab] at h
  cases h
 | fM ab=>
  obtain ⟨l,h⟩:=run_get h
  simp only[ab] at h
  cases h
 | undef=>cases h
 | int=>cases h
 | bool=>cases h
 | str=>cases h
 | agg=>cases h
 | bm=>cases h
 | dh=>cases h
 | fn=>cases h
 | pref=>cases h
 | jV=>cases h
 | ptr=>cases h
 | jm=>cases h
 | jn=>cases h
 | row=>cases h
 | cx=>cases h
 | dp=>cases h
 | g9=>cases h
 | cl=>cases h
 | ei ab=>
  obtain ⟨l,h⟩:=run_get h
  simp only[ab] at h
  cases h
theorem MV {t ty e:TypeId} {i:TypeInfo} (ht:P.underlying t=some (.slice e)) (hi:P.info? e=some i) (a:Option Addr) (n cap:Nat) (x:Value) (hx: ∃a c,x= .slice a 0 c) (hn:n≤cap):
  (Builtin.append_ #[t,t] ty #[.slice a n cap,x]).run P w= .ok (.slice a n cap) w:=by
 obtain ⟨a',c,rfl⟩:=hx
 cases a' with
 | none=>cases a<;>simp[Builtin.append_,run_underlying ht,sizeOf,typeInfo,hi,Builtin.lenOf,Builtin.firstCells,hn,storeCells]
 | some a'=>cases a<;>simp[Builtin.append_,run_underlying ht,sizeOf,typeInfo,hi,Builtin.lenOf,Builtin.firstCells,hn,storeCells,loadCells,loadCellsFrom]
theorem Db {e:TypeId} {es xs:List V} {n:Nat} {c:List Value} {news:List Value} (hn:es.length=n)
  (h1: ∀(i j:Nat) (x:V) (t':TypeId),es[i]? =some x→(aR P e)[j]? =some t'→j<P.cellsOf e→∃v,c[i*P.cellsOf e+j]? =some v∧Pure P w I t' v (bK P e x j))
  (U: ∀(i j:Nat) (x:V) (t':TypeId),xs[i]? =some x→(aR P e)[j]? =some t'→j<P.cellsOf e→∃v,news[i*P.cellsOf e+j]? =some v∧Pure P w I t' v (bK P e x j))
  (hb:n*P.cellsOf e≤c.length) (rest:List Value):
  ∀(i j:Nat) (x:V) (t':TypeId),(es++xs)[i]? =some x→(aR P e)[j]? =some t'→j<P.cellsOf e→∃v,(c.take (n*P.cellsOf e)++news++rest)[i*P.cellsOf e+j]? =some v∧Pure P w I t' v (bK P e x j):=by
 intro i j x t' hx ht hj
 have hl:(c.take (n*P.cellsOf e)).length=n*P.cellsOf e:=by simp;omega
 by_cases hi:i<n
 ·rw[ij (by omega)] at hx
  obtain ⟨v,hv,hp⟩:=h1 i j x t' hx ht hj
  have:i*P.cellsOf e+j<n*P.cellsOf e:=by
   have:(i+1)*P.cellsOf e≤n*P.cellsOf e:=dt _ hi
   rw[df] at this
   omega
  exact ⟨v,by rw[cj,ij (by omega),eN this];exact hv,hp⟩
 ·rw[ik (by omega),hn] at hx
  obtain ⟨v,hv,hp⟩:=U (i-n) j x t' hx ht hj
  have gF:i-n<xs.length:=(bu.1 hx).1
  have e1:i*P.cellsOf e+j-n*P.cellsOf e=(i-n)*P.cellsOf e+j:=by
   rw[Nat.sub_mul]
   have:n*P.cellsOf e≤i*P.cellsOf e:=dt _ (by omega)
   omega
  have h3:(i-n)*P.cellsOf e+j<news.length:=(bu.1 hv).1
  refine ⟨v,?_,hp⟩
  have h4:n*P.cellsOf e≤i*P.cellsOf e+j:=by
   have:n*P.cellsOf e≤i*P.cellsOf e:=dt _ (by omega)
   omega
  rw[cj,ik (by omega),hl,e1,ij h3]
  exact hv
theorem Pure.drew {t:TypeId} {v:Value} {x:V} (h:Pure P w I t v x):Pure P w.drew I t v x:=Pure.mono (w:=w) (w':=w.drew) (fun _ h=>h) (fun _ _=>rfl) h
theorem Wy (w:World) (t ty e:TypeId) (i:TypeInfo) (z:Value) (ht:P.underlying t=some (.slice e)) (hi:P.info? e=some i) (hz:i.zero=some z)
  (a0:Option Addr) (a:Addr) (n c:Nat) (news:List Value) (hl:news.length=n*i.size) (Dc: ∀j v,news[j]? =some v→w.cell? (a.add j)=some v)
  (h0:0<n) (Dd:(n:Int)≤9223372036854775807) (De:n*i.bytes≤281474976710656):
  (Builtin.append_ #[t,t] ty #[.slice a0 0 0,.slice (some a) n c]).run P w=
   .ok (.slice (some ⟨w.heap.size,0,none⟩) n (grownCap w n 0 e)) (w.drew.alloc (.cells (news.toArray++Builtin.zeroCells z.cells (grownCap w n 0 e-n)) e)):=by
 cases a0 with
 | none=>exact run_append_nil w t ty e i z ht hi hz a n c news hl Dc h0 Dd De
 | some b=>
  have:=run_append_grow (P:=P) w t ty e i z ht hi hz b 0 0 [] (by simp) (by simp) a n c news hl Dc (by omega) (by omega) (by rw[gu,nextslicecap_zero h0];omega)
  simpa using this
theorem Ho (S:aF P w I β hp B M w0) {t ty e:TypeId} {nb:Nat} {x:Value} {xs:List V} (hu:P.underlying t=some (.slice e)) (au:cI P e=true) (hn:hp nb=none)
  (dJ:xs.length*P.bytesOf e≤bS) {a0:Option Addr} (hx:((∃a,x= .slice a 0 0)∧xs=[])∨∃a c news,Row P w I e x xs a c news):
  ∃v w' β',(Builtin.append_ #[t,t] ty #[.slice a0 0 0,x]).run P w= .ok v w'∧Le P w I β hp w' I β' (aH hp nb (some (.arr e xs false)))∧aF P w' I β' (aH hp nb (some (.arr e xs false))) B M w0∧
   ao P w' I β' (aH hp nb (some (.arr e xs false))) v (.whole e nb):=by
 obtain ⟨i,z,hi,hz,h3,h4,_⟩:=j4 au
 have tv:=vp au
 have lS:P.bytesOf e=i.bytes:=by simp[Program.bytesOf,hi]
 have hlen:xs.length≤2^45:=by
  have:xs.length*1≤xs.length*P.bytesOf e:=sM _ tv
  simp only[bS] at dJ
  omega
 have empty:xs=[]→(∃a c,x= .slice a 0 c)→∃v w' β',(Builtin.append_ #[t,t] ty #[.slice a0 0 0,x]).run P w= .ok v w'∧Le P w I β hp w' I β' (aH hp nb (some (.arr e xs false)))∧aF P w' I β' (aH hp nb (some (.arr e xs false))) B M w0∧
   ao P w' I β' (aH hp nb (some (.arr e xs false))) v (.whole e nb):=by
  intro gf Hp
  subst gf
  obtain ⟨a1,a2⟩:=CK S e hn
  exact ⟨_,_,_,MV hu hi a0 0 0 x Hp (bZ _),a1,a2,.dx (cM _ _ _) (cM _ _ _)⟩
 rcases hx with ⟨⟨_,rfl⟩,rfl⟩|⟨a,c,news,hr⟩
 ·exact empty rfl ⟨_,_,rfl⟩
 ·by_cases h0:xs.length=0
  ·have gf:xs=[]:=kT h0
   refine empty gf ⟨some a,c,?_⟩
   rw[hr.val,h0]
  ·have cN:=Wy (P:=P) w t ty e i z hu hi hz a0 a xs.length c news (by rw[hr.len,h3]) hr.cell (by omega) (by omega) (by rw[←lS];simp only[bS] at dJ;omega)
   have pb:=grownCap_ge w xs.length 0 e
   have tw:grownCap w xs.length 0 e≤maxLen:=grownCap_le_maxLen w xs.length 0 e (by simp only[maxLen];omega)
   obtain ⟨n1,n2,n3⟩:=vM S.drew (nb:=nb) (cap:=grownCap w xs.length 0 e) (es:=xs) (C0:=news.toArray++Builtin.zeroCells z.cells (grownCap w xs.length 0 e-xs.length)) au hn
    (by simp only[B0,pO,size_zeroCells,h4,hr.len,←df];congr 1;omega) pb tw
    (fun i' j y t' hy ht hj=>by
     obtain ⟨u,fB,hp⟩:=hr.el i' j y t' hy ht hj
     have aO:=(bu.1 fB).1
     refine ⟨u,?_,Pure.drew hp⟩
     rw[Array.getElem?_append_left (by simpa using aO)]
     simpa using fB)
   rw[hr.val]
   exact ⟨_,_,_,cN,(Le.drew w I β hp).trans n1,n2,n3⟩
theorem Wz (S:aF P w I β hp B M w0) {t ty e:TypeId} {nb:Nat} {s x:Value} {sv xv:V} {r:R} {rd:List Nat} (hu:P.underlying t=some (.slice e)) (hs:ao P w I β hp s sv) (hx:ao P w I β hp x xv)
  (h:(ve P nb e sv xv).run C hp=some (r,rd)):cS P ((Builtin.append_ #[t,t] ty #[s,x]).run P w) w I β hp B M w0 r:=by
 unfold ve at h
 obtain ⟨au,h⟩:=aG h
 obtain ⟨xs,lp,l0,h⟩:=C9 S.h.rel au hx h
 cases sv with
 | nilS e'=>
  obtain ⟨hc,h⟩:=aG h
  simp only[aK,aQ,dm] at hc
  obtain ⟨hn,rfl⟩:=mP h
  obtain ⟨a0,rfl⟩: ∃a0,s= .slice a0 0 0:=by cases hs;exact ⟨_,rfl⟩
  obtain ⟨v,w',β',a1,a2,a3,a4⟩:=Ho (ty:=ty) S hu au hn hc.2 lp
  exact ⟨v,w',I,β',a1,a2,a3,a4⟩
 | whole e' id=>
  obtain ⟨l,h⟩:=run_get h
  cases ab:hp id with
  | none=>rw[ab] at h;cases h
  | some blk=>
   rw[ab] at h
   cases blk with
   | dead=>cases h
   | var _=>cases h
   | nest _ _ _=>cases h
   | map _ _=>cases h
   | arr dv es fz=>
    cases fz with
    | true=>cases h
    | false=>
     obtain ⟨hc,h⟩:=aG h
     obtain ⟨hn,rfl⟩:=mP h
     simp only[aK,aQ,dm] at hc
     obtain ⟨Hq,Hr,dJ⟩:=hc
     subst Hq
     subst Hr
     have bA:nb≠id:=fun e=>by rw[e,ab] at hn;cases hn
     obtain ⟨k1,k2⟩:=CL S ab
     have j5:aH hp id (some an.dead) nb=none:=by rw[ec _ _ bA];exact hn
     cases hs with
     | dZ hd=>rw[ab] at hd;cases hd
     | ei hd=>rw[ab] at hd;cases hd
     | dx hd hb=>
      rw[ab] at hd
      cases hd
      simp only[List.length_nil,gu] at dJ
      have WA:((∃a,x= .slice a 0 0)∧xs=[])∨∃a c news,Row P w I e x xs a c news:=lp
      obtain ⟨v,w',β',a1,a2,a3,a4⟩:=Ho (ty:=ty) k2 hu au j5 dJ WA
      exact ⟨v,w',I,β',a1,k1.trans a2,a3,a4⟩
     | @whole _ _ aL mG b cap hd hb aT b7 hm=>
      rw[ab] at hd
      cases hd
      have hr:=S.h.rel id _ ab
      cases hr with
      | dy aB=>rw[aB] at hb;cases hb
      | @arr _ _ _ b' Ca _ aB hh pd hf eb lT=>
       rw[hb] at aB
       cases aB
       obtain ⟨i,z,hi,hz,h3,h4,_⟩:=j4 au
       have tv:=vp au
       have lS:P.bytesOf e=i.bytes:=by simp[Program.bytesOf,hi]
       have hlen:es.length+xs.length≤2^45:=by
        have:(es.length+xs.length)*1≤(es.length+xs.length)*P.bytesOf e:=sM _ tv
        simp only[bS] at dJ
        omega
       rw[mK hh] at aT
       have qf: ∀aD blk',aH hp id (some an.dead) aD=some blk'→¬bw P w (β aD) blk' b:=by
        intro aD blk' h1 U
        by_cases iD:aD=id
        ·subst iD;rw[cM] at h1;cases h1;exact U.alive rfl
        ·rw[ec _ _ iD] at h1
         exact iD (S.h.inj aD id blk' _ b h1 ab U (.root (by simp) hb))
       have Hs:=S.h.rE id _ b ab (by simp) hb
       have room: ∀(C':Array Value) (w':World) (ys:List V),w'.heap[b]? =some (.cells C' e (0,0))→C'.size=Ca.size→(∀b',b'≠b→w'.heap[b']? =w.heap[b']?)→w.heap.size≤w'.heap.size→(w'.os=w.os∧w'.output=w.output)→ys.length≤cap→
         (∀(i j:Nat) (y:V) (t':TypeId),ys[i]? =some y→(aR P e)[j]? =some t'→j<P.cellsOf e→∃v,C'[i*P.cellsOf e+j]? =some v∧Pure P w I t' v (bK P e y j))→
         Le P w I β hp w' I (aH β nb (some b)) (aH (aH hp id (some .dead)) nb (some (.arr e ys false)))∧aF P w' I (aH β nb (some b)) (aH (aH hp id (some .dead)) nb (some (.arr e ys false))) B M w0∧
         ao P w' I (aH β nb (some b)) (aH (aH hp id (some .dead)) nb (some (.arr e ys false))) (.slice (some ⟨b,0,none⟩) ys.length cap) (.whole e nb):=by
        intro C' w' ys hC nZ WB WC WD tp hy
        obtain ⟨a1,a2⟩:=y4 k2 (blk:= .arr e ys false) (w':=w') j5 qf (eb rfl) (fun b' h _=>WB b' h) WC WD Hs
         (fun b' h=>(c6 (h.flat (by simp))).symm) (fun hle=> .arr au rfl hC (by rw[nZ,←aT];exact dt _ tp) (fun h=>by cases h) (fun _=>eb rfl) fun i j y t' a b c=>by
          obtain ⟨v,hv,hp⟩:=hy i j y t' a b c
          exact ⟨v,hv,hp.mono hle.c9 hle.b8⟩)
        refine ⟨k1.trans a1,a2,.whole (cM _ _ _) (cM _ _ _) ?_ tp hm⟩
        rw[mK hC,nZ,aT]
       have same:xs=[]→(∃a c,x= .slice a 0 c)→cS P ((Builtin.append_ #[t,t] ty #[.slice (some ⟨b,0,none⟩) es.length cap,x]).run P w) w I β hp B M w0 ⟨.whole e nb,[(nb,.arr e (es++xs) false),(id,.dead)]⟩:=by
        intro gf Hp
        subst gf
        rw[cU]
        obtain ⟨a1,a2,a3⟩:=room Ca w es hh rfl (fun _ _=>rfl) (bZ _) ⟨rfl,rfl⟩ b7 lT
        exact ⟨_,_,_,_,MV hu hi _ _ _ x Hp b7,a1,a2,a3⟩
       rcases lp with ⟨⟨_,rfl⟩,rfl⟩|⟨a,c,news,cB⟩
       ·exact same rfl ⟨_,_,rfl⟩
       ·have h1:=cB.one au
        have ln:es.length*P.cellsOf e≤Ca.toList.length:=by simpa using pd
        by_cases rN:es.length+xs.length≤cap
        ·have zj:es.length*P.cellsOf e+news.length≤Ca.size:=by rw[cB.len,←df,←aT];exact dt _ rN
         have cN:=run_append_room (P:=P) w t ty e i hu hi b es.length cap Ca hh a xs.length c news (by rw[cB.len,h3]) cB.cell h1 rN (by rw[h3];exact zj)
         rw[h3] at cN
         have cK:=Db (P:=P) (w:=w) (I:=I) (n:=es.length) (c:=Ca.toList) rfl (fun i j y t' a b c=>by
          obtain ⟨v,hv,hp⟩:=lT i j y t' a b c
          exact ⟨v,by simpa using hv,hp⟩) cB.el ln (Ca.toList.drop (es.length*P.cellsOf e+news.length))
         obtain ⟨a1,a2,a3⟩:=room (Ca.toList.take (es.length*P.cellsOf e)++news++Ca.toList.drop (es.length*P.cellsOf e+news.length)).toArray (w.setRow b _) (es++xs)
          (setRow_heap w b Ca _ e _ hh) (by simp;omega) (fun b' aB=>setRow_other w b b' _ aB) (by simp) ⟨rfl,rfl⟩ (by simpa using rN)
          (fun i j y t' a b c=>by
           obtain ⟨v,hv,hp⟩:=cK i j y t' a b c
           exact ⟨v,by simpa using hv,hp⟩)
         rw[cB.val]
         rw[bU] at a3
         exact ⟨_,_,_,_,cN,a1,a2,a3⟩
        ·have hold: ∀(j:Nat) v,(Ca.toList.take (es.length*P.cellsOf e))[j]? =some v→w.cell? ((⟨b,0,none⟩:Addr).add j)=some v:=by
          intro j v hj
          have b9:=(bu.1 hj).1
          have fP:j<es.length*P.cellsOf e:=by rw[eO] at b9;omega
          rw[eN fP] at hj
          rw[mN,cell?_cells hh,gu]
          simpa using hj
         have cN:=run_append_grow (P:=P) w t ty e i z hu hi hz ⟨b,0,none⟩ es.length cap (Ca.toList.take (es.length*P.cellsOf e)) (by rw[h3];simp;omega) hold a xs.length c news (by rw[cB.len,h3]) cB.cell (by omega) (by omega)
          (growslice_fits (by omega) (by rw[←lS];simp only[bS] at dJ;omega))
         have pb:=grownCap_ge w (es.length+xs.length) cap e
         have tw:grownCap w (es.length+xs.length) cap e≤maxLen:=grownCap_le_maxLen w _ cap e (by simp only[maxLen];omega)
         have cK:=Db (P:=P) (w:=w) (I:=I) (n:=es.length) (c:=Ca.toList) rfl (fun i j y t' a b c=>by
          obtain ⟨v,hv,hp⟩:=lT i j y t' a b c
          exact ⟨v,by simpa using hv,hp⟩) cB.el ln (Builtin.zeroCells z.cells (grownCap w (es.length+xs.length) cap e-(es.length+xs.length))).toList
         obtain ⟨n1,n2,n3⟩:=vM k2.drew (nb:=nb) (cap:=grownCap w (es.length+xs.length) cap e) (es:=es++xs)
          (C0:=(Ca.toList.take (es.length*P.cellsOf e)).toArray++news.toArray++Builtin.zeroCells z.cells (grownCap w (es.length+xs.length) cap e-(es.length+xs.length))) au j5
          (by
           have e1:(Ca.toList.take (es.length*P.cellsOf e)).length=es.length*P.cellsOf e:=by simp;omega
           simp only[B0,pO,size_zeroCells,h4,cB.len,e1,←df];congr 1;omega) (by simpa using pb) tw
          (fun i j y t' a b c=>by
           obtain ⟨v,hv,hp⟩:=cK i j y t' a b c
           refine ⟨v,?_,Pure.drew hp⟩
           rw[←rh]
           simpa using hv)
         rw[cB.val]
         rw[bU] at n3
         exact ⟨_,_,_,_,cN,(k1.trans (Le.drew w I β _)).trans n1,n2,n3⟩
 | _=>cases h
end
section
variable {P:Program} {w w':World} {I I':Nat→Prop} {β β':Nat→Option Nat} {hp hp':Nat→Option an} {C:ag} {B:Nat} {M:Nat→Prop} {w0:Start}
theorem run_copy_none (w:World) {dT sT ty elem:TypeId} {i:TypeInfo} (a0:Option Addr) (MW WE:Nat) (a1:Option Addr) (MX WG:Nat) (hu:P.underlying dT=some (.slice elem)) (hi:P.info? elem=some i) (h0:Nat.min MX MW=0):
  (Builtin.copy_ #[dT,sT] ty #[.slice a0 MW WE,.slice a1 MX WG]).run P w= .ok (goInt 0) w:=by
 cases a0<;>cases a1<;>simp[Builtin.copy_,run_underlying hu,Builtin.lenOf,Builtin.firstCells,sizeOf,typeInfo,hi,h0,storeCells,loadCells,loadCellsFrom]
theorem WH (S:aF P w I β hp B M w0) {t u ty e:TypeId} {s x:Value} {sv xv:V} {r:R} {rd:List Nat} (hu:P.underlying t=some (.slice e)) (hs:ao P w I β hp s sv) (hx:ao P w I β hp x xv)
  (h:(Gy P e sv xv).run C hp=some (r,rd)):cS P ((Builtin.copy_ #[t,u] ty #[s,x]).run P w) w I β hp B M w0 r:=by
 unfold Gy at h
 obtain ⟨au,h'⟩:=aG h
 clear h
 simp only[aK,aQ] at au
 obtain ⟨au,h1⟩:=au
 obtain ⟨xs,lp,l0,h⟩:=C9 S.h.rel au hx h'
 obtain ⟨i,z,hi,hz,aT,_⟩:=j4 au
 cases sv<;>simp only at h<;>first|(cases h;done)|skip
 rename_i e' id
 obtain ⟨l,U⟩:=run_get h
 clear h
 cases ab:hp id with
 | none=>rw[ab] at U;cases U
 | some blk=>
  rw[ab] at U
  cases blk<;>simp only at U<;>first|(cases U;done)|skip
  rename_i e2 es fz
  cases fz with
  | true=>cases U
  | false=>
  obtain ⟨hc,h3⟩:=aG U
  simp only[aK,aQ] at hc
  obtain ⟨rfl,rfl⟩:=hc
  obtain rfl:=aM h3
  have mQ:min xs.length es.length=0→(Builtin.copy_ #[t,u] ty #[s,x]).run P w= .ok (goInt 0) w→cS P ((Builtin.copy_ #[t,u] ty #[s,x]).run P w) w I β hp B M w0 ⟨.int .i64 (min xs.length es.length:Nat),[(id,.arr e (xs.take es.length++es.drop xs.length) false)]⟩:=by
   intro h0 hr
   have he:xs.take es.length++es.drop xs.length=es:=by
    rcases Nat.le_total xs.length es.length with hl|hl
    ·have:xs=[]:=kT (by omega)
     simp[this]
    ·have:es=[]:=kT (by omega)
     simp[this]
   have fO:bJ hp [(id,.arr e (xs.take es.length++es.drop xs.length) false)]=hp:=by
    rw[he];exact GJ hp id _ ab
   refine ⟨goInt 0,w,I,β,hr,?_⟩
   simp only[fO,h0]
   exact ⟨Le.refl w I β hp,S,.int⟩
  cases hs with
  | dZ hd=>rw[ab] at hd;cases hd
  | ei hd=>rw[ab] at hd;cases hd
  | @dx _ _ fz a hd hb=>
   rw[ab] at hd
   cases hd
   refine mQ (by simp) ?_
   rcases lp with ⟨⟨a',rfl⟩,rfl⟩|⟨a',c,news,cB⟩
   ·exact run_copy_none w _ _ _ _ _ _ hu hi (by simp)
   ·rw[cB.val];exact run_copy_none w _ _ _ _ _ _ hu hi (by simp)
  | @whole _ _ aL mG b cap hd hb zk b7 hm=>
   have eC:=hd
   rw[ab] at hd
   cases hd
   rcases lp with ⟨⟨a',rfl⟩,rfl⟩|⟨a',c,news,cB⟩
   ·exact mQ (by simp) (run_copy_none w _ _ _ _ _ _ hu hi (by simp))
   have hr:=S.h.rel id _ ab
   cases hr with
   | dy aB=>rw[aB] at hb;cases hb
   | @arr _ _ _ b' Ca _ aB hh pd hf eb lT=>
    rw[hb] at aB
    cases aB
    have lk:news.length=xs.length:=by rw[cB.len,h1,mA]
    rw[h1,mA] at pd
    have kI:(news.take es.length).length=Nat.min xs.length es.length:=by
     rw[eO,lk,Nat.min_comm]
    have MY:Nat.min xs.length es.length=min xs.length es.length:=rfl
    have cN:=run_copy_row (P:=P) w t u ty e b 0 es.length cap a' xs.length c Ca e (news.take es.length) hu (by rw[hi];simp[aT,h1]) hh kI
     (fun j v hj=>cB.cell j v (by
      have:=(bu.1 hj).1
      rw[eO] at this
      rwa [eN (by omega)] at hj)) (by rw[kI,MY];omega) (fun v hv=>cB.one au v (List.mem_of_mem_take hv))
    rw[cB.val]
    have hq:(goInt (news.take es.length).length)= .int .i64 ((min xs.length es.length:Nat):Int):=by rw[kI];rfl
    have iW:(xs.take es.length++es.drop xs.length).length=es.length:=by simp;omega
    have nZ:(Ca.toList.take 0++news.take es.length++Ca.toList.drop (0+(news.take es.length).length)).toArray.size=Ca.size:=by
     simp only[pO,bU,oO,eO,kI,MY]
     simp
     omega
    obtain ⟨a1,a2⟩:=CV S (blk':= .arr e (xs.take es.length++es.drop xs.length) false) (Cb:=(Ca.toList.take 0++news.take es.length++Ca.toList.drop (0+(news.take es.length).length)).toArray) ab (by simp) ⟨rfl,iW.symm⟩ hb (eb rfl) (by simp) hh nZ
     (fun hle eJ=> .arr au rfl eJ (by rw[nZ,iW,h1,mA];exact pd) (fun h=>by cases h) (fun _=>eb rfl) fun i j y t' hy ht hj=>by
      rw[h1] at hj⊢
      obtain rfl:j=0:=by omega
      rw[mA,Nat.add_zero]
      have qq:=(bu.1 hy).1
      rw[iW] at qq
      by_cases bV:i<xs.length
      ·rw[ij (by rw[eO];omega),eN qq] at hy
       obtain ⟨u',k1,k2⟩:=cB.el i 0 y t' hy ht (by omega)
       rw[h1,mA,Nat.add_zero] at k1
       refine ⟨u',?_,k2.mono hle.c9 hle.b8⟩
       simp only[List.take_zero,List.nil_append,mz]
       rw[ij (by rw[eO];omega),eN qq]
       exact k1
      ·have e1:(xs.take es.length).length=xs.length:=by rw[eO];omega
       rw[ik (by omega),e1,gR,show xs.length+(i-xs.length)=i by omega] at hy
       obtain ⟨u',k1,k2⟩:=lT i 0 y t' hy ht (by omega)
       rw[h1,mA,Nat.add_zero] at k1
       refine ⟨u',?_,k2.mono hle.c9 hle.b8⟩
       simp only[List.take_zero,List.nil_append,mz,gu]
       have e2:(news.take es.length).length=xs.length:=by rw[eO];omega
       rw[ik (by omega),e2,gR,show xs.length+(i-xs.length)=i by omega]
       simpa using k1)
    exact ⟨_,_,_,_,cN,a1,a2,by rw[hq];exact .int⟩
theorem WI (S:aF P w I β hp B M w0) {t ty e:TypeId} {x:Value} {xv:V} {r:R} {rd:List Nat} (hu:P.underlying t=some (.slice e)) (hx:ao P w I β hp x xv)
  (h:(Gx P e xv).run C hp=some (r,rd)):cS P ((Builtin.clear_ #[t] ty #[x]).run P w) w I β hp B M w0 r:=by
 unfold Gx at h
 obtain ⟨cK,h'⟩:=aG h
 clear h
 have au:cI P e=true:=by
  unfold lI at cK;simp only[aK] at cK;exact cK.1
 obtain ⟨i,z,hi,hz,aT,zl,WJ⟩:=zi (w:=w) (I:=I) cK
 have lb:=(jX au).2
 cases xv<;>simp only at h'<;>first|(cases h';done)|skip
 rename_i e' id off len
 obtain ⟨l,U⟩:=run_get h'
 clear h'
 cases ab:hp id with
 | none=>rw[ab] at U;cases U
 | some blk=>
  rw[ab] at U
  cases blk<;>simp only at U<;>first|(cases U;done)|skip
  rename_i e2 es fz
  cases fz with
  | true=>cases U
  | false=>
  obtain ⟨hc,h3⟩:=aG U
  simp only[aK,aQ] at hc
  obtain ⟨rfl,rfl⟩:=hc
  obtain rfl:=aM h3
  have mQ:len=0→(Builtin.clear_ #[t] ty #[x]).run P w= .ok (.tuple #[]) w→cS P ((Builtin.clear_ #[t] ty #[x]).run P w) w I β hp B M w0 ⟨.bm [],[(id,.arr e (es.take off++(List.replicate len (cm P e (ez P e))++es.drop (off+len))) false)]⟩:=by
   intro h0 hr
   subst h0
   have fO:bJ hp [(id,.arr e (es.take off++(List.replicate 0 (cm P e (ez P e))++es.drop (off+0))) false)]=hp:=by
    simp only[List.replicate_zero,List.nil_append,Nat.add_zero,B1]
    exact GJ hp id _ ab
   refine ⟨.tuple #[],w,I,β,hr,?_⟩
   simp only[fO]
   exact ⟨Le.refl w I β hp,S,.bm rfl fun j v x hj hx=>by simp at hx⟩
  cases hx with
  | fM hd=>rw[ab] at hd;cases hd
  | @fA _ _ _ a0 hd hb=>exact mQ rfl (by cases a0<;>simp[Builtin.clear_,run_underlying hu])
  | @sub _ _ _ _ aL mG b o cap hd hb kD b7 ho=>
   by_cases hlen:len=0
   ·refine mQ hlen ?_
    subst hlen
    simp[Builtin.clear_,run_underlying hu]
   have WK:0<len:=by omega
   have eC:=hd
   rw[ab] at hd
   cases hd
   have hr:=S.h.rel id _ ab
   cases hr with
   | dy aB=>rw[aB] at hb;cases hb
   | @arr _ _ _ b' Ca _ aB hh pd hf eb lT=>
    rw[hb] at aB
    cases aB
    have ho:=ho WK
    subst ho
    have tu:(Builtin.zeroCells z.cells len).toList.length=len*P.cellsOf e:=by rw[Array.length_toList,size_zeroCells,zl]
    have hmul:off*P.cellsOf e+len*P.cellsOf e≤es.length*P.cellsOf e:=by rw[←df];exact dt _ kD
    have qn: ∀v∈(Builtin.zeroCells z.cells len).toList,v.oneCell'=true:=by
     intro v hv
     obtain ⟨k,hk⟩:=rf hv
     have hX:=(bu.1 hk).1
     rw[tu] at hX
     have WM:(Builtin.zeroCells z.cells len)[k]? =z.cells[k %z.cells.size]? :=MS (z:=z.cells) (n:=len*z.cells.size) (by rw[zl];exact hX) (by rw[zl];exact lb)
     rw[rh,WM] at hk
     have hm:k %z.cells.size<P.cellsOf e:=by rw[zl];exact Nat.mod_lt _ lb
     have WN:k %z.cells.size<(aR P e).length:=by rw[fj au];exact hm
     obtain ⟨v',vB,hp'⟩:=WJ (k %z.cells.size) _ (bM WN) hm
     rw[hk] at vB
     cases vB
     generalize bK P e (cm P e (ez P e)) (k %z.cells.size)=y at hp'
     cases hp'<;>rfl
    have bP:=run_storeCells_at P b (off*P.cellsOf e) e (Builtin.zeroCells z.cells len).toList 0 Ca w hh (by rw[tu];omega) qn
    simp only[Nat.add_zero] at bP
    have cN:(Builtin.clear_ #[t] ty #[.slice (some ⟨b,off*P.cellsOf e,none⟩) len cap]).run P w= .ok (.tuple #[]) (w.setRow b (Ca.toList.take (off*P.cellsOf e)++(Builtin.zeroCells z.cells len).toList++Ca.toList.drop (off*P.cellsOf e+(Builtin.zeroCells z.cells len).toList.length)).toArray):=by
     obtain ⟨n,rfl⟩: ∃n,len=n+1:=⟨len-1,by omega⟩
     simp[Builtin.clear_,run_underlying hu,zeroValue,typeInfo,hi,hz,bP]
    have iW:(es.take off++(List.replicate len (cm P e (ez P e))++es.drop (off+len))).length=es.length:=by simp;omega
    have nZ:(Ca.toList.take (off*P.cellsOf e)++(Builtin.zeroCells z.cells len).toList++Ca.toList.drop (off*P.cellsOf e+(Builtin.zeroCells z.cells len).toList.length)).toArray.size=Ca.size:=by
     simp only[pO,bU,oO,eO,tu,Array.length_toList]
     omega
    obtain ⟨a1,a2⟩:=CV S (blk':= .arr e (es.take off++(List.replicate len (cm P e (ez P e))++es.drop (off+len))) false) ab (by simp) ⟨rfl,iW.symm⟩ hb (eb rfl) (by simp) hh nZ
     (fun hle eJ=> .arr au rfl eJ (by rw[nZ,iW];exact pd) (fun h=>by cases h) (fun _=>eb rfl) fun i' j y t' hy ht hj=>by
      have gG:=mO es (List.replicate len (cm P e (ez P e))) off i' (by simp;omega)
      rw[sN] at gG
      rw[gG] at hy
      have hC:(Ca.toList.take (off*P.cellsOf e)++(Builtin.zeroCells z.cells len).toList++Ca.toList.drop (off*P.cellsOf e+(Builtin.zeroCells z.cells len).toList.length)).toArray[i'*P.cellsOf e+j]? =
        if i'*P.cellsOf e+j<off*P.cellsOf e then Ca.toList[i'*P.cellsOf e+j]? else if i'*P.cellsOf e+j<off*P.cellsOf e+len*P.cellsOf e then (Builtin.zeroCells z.cells len).toList[i'*P.cellsOf e+j-off*P.cellsOf e]? else Ca.toList[i'*P.cellsOf e+j]? :=by
       have:=mO Ca.toList (Builtin.zeroCells z.cells len).toList (off*P.cellsOf e) (i'*P.cellsOf e+j) (by rw[tu,Array.length_toList];omega)
       rw[mz,cj,this,tu]
      by_cases Ht:i'<off
      ·rw[aj Ht] at hy
       have:(i'+1)*P.cellsOf e≤off*P.cellsOf e:=dt _ Ht
       rw[df] at this
       rw[aj (by omega)] at hC
       obtain ⟨u,k1,k2⟩:=lT i' j y t' hy ht hj
       exact ⟨u,hC.trans (by simpa using k1),k2.mono hle.c9 hle.b8⟩
      ·rw[ai Ht] at hy
       have h1:off*P.cellsOf e≤i'*P.cellsOf e:=dt _ (by omega)
       rw[ai (by omega)] at hC
       by_cases gF:i'<off+len
       ·rw[aj gF] at hy
        have:(i'+1)*P.cellsOf e≤(off+len)*P.cellsOf e:=dt _ gF
        rw[df,df] at this
        rw[aj (by omega)] at hC
        obtain ⟨v,k1,k2⟩:=C8 (w:=w) (I:=I) cK hi hz len len (bZ _) (i'-off) j y t' hy ht hj
        refine ⟨v,hC.trans ?_,k2.mono hle.c9 hle.b8⟩
        rw[show i'*P.cellsOf e+j-off*P.cellsOf e=(i'-off)*P.cellsOf e+j by rw[Nat.sub_mul];omega,rh]
        unfold Builtin.zeroCells
        rw[zl] at k1⊢
        exact k1
       ·rw[ai gF] at hy
        have:(off+len)*P.cellsOf e≤i'*P.cellsOf e:=dt _ (by omega)
        rw[df] at this
        rw[ai (by omega)] at hC
        obtain ⟨u,k1,k2⟩:=lT i' j y t' hy ht hj
        exact ⟨u,hC.trans (by simpa using k1),k2.mono hle.c9 hle.b8⟩)
    exact ⟨_,_,_,_,cN,a1,a2,.bm rfl fun j v x hj hx=>by simp at hx⟩
end
section
variable {P:Program} {w w':World} {I I':Nat→Prop} {β β':Nat→Option Nat} {hp hp':Nat→Option an} {C:ag} {B:Nat} {M:Nat→Prop} {w0:Start}
theorem WO (S:aF P w I β hp B M w0) {s:TypeId} {f:Nat} {v:Value} {x:V} {r:R} {rd:List Nat} (hv:ao P w I β hp v x)
  (h:(GB P s f x).run C hp=some (r,rd)):cS P ((Instr.field s v f).run P w) w I β hp B M w0 r:=by
 unfold GB Ck at h
 split at h
 ·rename_i fs hu
  cases hf:fs[f]? with
  | none=>rw[hf] at h;cases h
  | some fd=>
   rw[hf] at h
   simp only[vf] at h
   obtain ⟨ht,h⟩:=aG h
   obtain ⟨d,tx⟩:=y8 ht
   obtain ⟨i,hi⟩:=vz tx
   have aT:i.size=P.cellsOf fd.type:=by simp[Program.cellsOf,hi]
   cases x with
   | agg xs=>
    obtain ⟨cs,rfl,h1,U⟩:=hv.kG
    dsimp only at h
    cases ha:bI P fd.type with
    | true=>
     rw[ha] at h
     simp only[cond_true] at h
     obtain ⟨hc,h⟩:=aG h
     obtain rfl:=aM h
     rw[dm] at hc
     refine .same S (v:= .agg (cs.extract fd.offset (fd.offset+P.cellsOf fd.type))) ?_ (.agg (by simp;omega) fun j u y fB hy=> ?_)
     ·simp[Instr.field,run_underlying hu,hf,part,G1 tx,ha,asAgg,sizeOf,typeInfo,hi,aT]
     ·have hj:j<P.cellsOf fd.type:=by
       have:=(gS.1 fB).1
       simp at this;omega
      rw[eN hj,gR] at hy
      refine U (fd.offset+j) u y ?_ hy
      rw[Array.getElem?_extract] at fB
      split at fB
      ·exact fB
      ·cases fB
    | false=>
     rw[ha] at h
     simp only[cond_false] at h
     obtain ⟨y,hy,h⟩:=ld h
     obtain rfl:=aM h
     have aO:fd.offset<cs.size:=by rw[h1];exact (bu.1 hy).1
     refine .same S (v:=cs[fd.offset]) ?_ (U _ _ _ (ku aO) hy)
     simp[Instr.field,run_underlying hu,hf,part,G1 tx,ha,asAgg,aO]
   | _=>cases h
 ·cases h
theorem WQ (S:aF P w I β hp B M w0) {i:Nat} {v:Value} {xs:List V} {r:R} {rd:List Nat} (hv:ao P w I β hp v (.bm xs))
  (h:(Rd.opt xs[i]? fun v=> .ret ⟨v,[]⟩).run C hp=some (r,rd)):cS P ((Instr.extract v i).run P w) w I β hp B M w0 r:=by
 obtain ⟨cs,rfl,h1,U⟩:=hv.th
 obtain ⟨y,hy,h⟩:=ld h
 obtain rfl:=aM h
 have aO:i<cs.size:=by rw[h1];exact (bu.1 hy).1
 exact .same S (v:=cs[i]) (by simp[Instr.extract,aO]) (U _ _ _ (ku aO) hy)
theorem WR (S:aF P w I β hp B M w0) {t:TypeId} {s:ByteArray} {l:List UInt8} {k:IntKind} {i:Int} {r:R} {rd:List Nat} (hu:P.underlying t=some .string) (hs:s.data.toList=l)
  (h:(Rd.opt (bif decide (0≤i) then (l[i.toNat]?).map fun b=>V.int .u8 b.toNat else none) fun v=> .ret ⟨.int .u8 v.toInt,[]⟩).run C hp=some (r,rd)):
  cS P ((Instr.index t (.string s) (.int k i)).run P w) w I β hp B M w0 r:=by
 obtain ⟨v,hv,h⟩:=ld h
 obtain rfl:=aM h
 cases hc:decide (0≤i) with
 | false=>rw[hc] at hv;cases hv
 | true=>
  rw[hc] at hv
  simp only[cond_true] at hv
  have h0:0≤i:=by simpa using hc
  cases hb:l[i.toNat]? with
  | none=>rw[hb] at hv;cases hv
  | some b=>
   rw[hb] at hv
   simp only[Option.map_some,dL] at hv
   subst hv
   have WS:s[i.toNat]? =some b:=by
    subst hs
    obtain ⟨aO,he⟩:=bu.1 hb
    have Hu:i.toNat<s.size:=by simpa using aO
    rw[getElem?_pos s i.toNat Hu]
    congr 1
   refine .same S (v:= .int .u8 b.toNat) ?_ .int
   simp[Instr.index,asIntOf,run_underlying hu,h0,WS]
theorem Hv (S:aF P w I β hp B M w0) (mx:Bool): ∀{vs:List Value} {xs:List V} {v:Value} {x:V} {r:R} {rd:List Nat},ao P w I β hp v x→vs.length=xs.length→
  (∀(j:Nat) u y,vs[j]? =some u→xs[j]? =some y→ao P w I β hp u y)→(vg mx x xs).run C hp=some (r,rd)→
  cS P ((vs.foldlM (if mx then Builtin.max2 else Builtin.min2) v).run P w) w I β hp B M w0 r
 | [],[],v,x,r,rd,hv,_,_,h=>by
  have:r=⟨x,[]⟩:=by
   cases x<;>(simp only[vg] at h;exact (aM h).symm)
  subst this
  exact .same S (by simp) hv
 | [],_::_,v,x,r,rd,hv,hl,_,h=>by simp at hl
 | _::_,[],v,x,r,rd,hv,hl,_,h=>by simp at hl
 | u::vs,y::xs,v,x,r,rd,hv,hl,hx,h=>by
  cases x<;>cases y<;>simp only[vg] at h<;>first|(cases h;done)|skip
  rename_i k a k' b
  obtain ⟨hc,h4⟩:=aG h
  clear h
  obtain rfl:k=k':=by simpa using hc
  have hu:=hx 0 u _ rfl rfl
  rw[hv.dI,hu.dI]
  have ih:=Hv S mx (vs:=vs) (xs:=xs) (v:= .int k (bif mx then (if b>a then b else a) else (if b<a then b else a))) .int (by simpa using hl)
   (fun j u y h1 U=>hx (j+1) u y (by simpa using h1) (by simpa using U)) h4
  cases mx with
  | true=>simpa[List.foldlM_cons,Builtin.max2] using ih
  | false=>simpa[List.foldlM_cons,Builtin.min2] using ih
theorem qs {n cap:Nat} {isS:Bool} {lo hi:Option V} {lov hiv:Option Value} {k:Nat→Nat→Rd R} {r:R} {rd:List Nat} (hn:n≤cap)
  (iE: ∀x,lo=some x→∃v,lov=some v∧ao P w I β hp v x) (gH: ∀x,hi=some x→∃v,hiv=some v∧ao P w I β hp v x) (mR:lo=none→lov=none) (n0:hi=none→hiv=none)
  (h:(rv n lo hi k).run C hp=some (r,rd)): ∃l u,l≤u∧u≤n∧(Instr.sliceBounds isS n cap lov hiv none).run P w= .ok (l,u,cap) w∧(k l u).run C hp=some (r,rd):=by
 have ok: ∀(kk:IntKind) (i:Int) (y:Nat) (c:BoundsCode),0≤i→i≤y→(Instr.sliceBound (.int kk i) y c).run P w= .ok i.toNat w:=by
  intro kk i y c h1 U
  simp[Instr.sliceBound,asIntOf,h1,U]
 unfold rv at h
 cases lo with
 | none=>
  rw[mR rfl]
  cases hi with
  | none=>
   rw[n0 rfl]
   exact ⟨0,n,kq _,bZ _,by simp[Instr.sliceBounds],h⟩
  | some x=>
   obtain ⟨v,rfl,hv⟩:=gH x rfl
   cases x<;>simp only at h<;>first|(cases h;done)|skip
   rename_i kk u
   obtain ⟨hc,h⟩:=aG h
   simp only[aK,dW] at hc
   rw[hv.dI]
   have:=ok kk u cap (if isS then .sliceAcap else .sliceAlen) hc.1 (by omega)
   exact ⟨0,u.toNat,kq _,by omega,by simp[Instr.sliceBounds,this],h⟩
 | some x=>
  obtain ⟨v,rfl,hv⟩:=iE x rfl
  cases hi with
  | none=>
   rw[n0 rfl]
   cases x<;>simp only at h<;>first|(cases h;done)|skip
   rename_i kk l
   obtain ⟨hc,h⟩:=aG h
   simp only[aK,dW] at hc
   rw[hv.dI]
   have:=ok kk l n .sliceB hc.1 (by omega)
   exact ⟨l.toNat,n,by omega,bZ _,by simp[Instr.sliceBounds,this],h⟩
  | some y=>
   obtain ⟨v2,rfl,qc⟩:=gH y rfl
   cases x<;>cases y<;>simp only at h<;>first|(cases h;done)|skip
   rename_i kk l WU u
   obtain ⟨hc,h⟩:=aG h
   simp only[aK,dW] at hc
   rw[hv.dI,qc.dI]
   have h1:=ok WU u cap (if isS then .sliceAcap else .sliceAlen) (by omega) (by omega)
   have U:=ok kk l u.toNat .sliceB hc.1 (by omega)
   exact ⟨l.toNat,u.toNat,by omega,by omega,by simp[Instr.sliceBounds,h1,U],h⟩
theorem Df {a:Option Addr} {t e:TypeId} {i:TypeInfo} (hu:P.underlying t=some (.slice e)) (hi:P.info? e=some i) {lov hiv:Option Value}
  (hb:(Instr.sliceBounds true 0 0 lov hiv none).run P w= .ok (0,0,0) w):(Instr.sliceAt t (.slice a 0 0) lov hiv none).run P w= .ok (.slice a 0 0) w:=by
 cases a<;>simp[Instr.sliceAt,Instr.slice,run_underlying hu,hb,sizeOf,typeInfo,hi]
theorem Hw {t e:TypeId} {i:TypeInfo} {b o len cap l u:Nat} (hu:P.underlying t=some (.slice e)) (hi:P.info? e=some i) {lov hiv:Option Value} (huc:u≤cap)
  (hb:(Instr.sliceBounds true len cap lov hiv none).run P w= .ok (l,u,cap) w): ∃o',(0<u-l→o'=o+l*i.size)∧(Instr.sliceAt t (.slice (some ⟨b,o,none⟩) len cap) lov hiv none).run P w= .ok (.slice (some ⟨b,o',none⟩) (u-l) (cap-l)) w:=by
 by_cases hc:cap=l
 ·subst hc
  refine ⟨o,fun h=>by omega,?_⟩
  ·simp[Instr.sliceAt,Instr.slice,run_underlying hu,hb,sizeOf,typeInfo,hi]
 ·refine ⟨o+l*i.size,fun _=>rfl,?_⟩
  simp[Instr.sliceAt,Instr.slice,run_underlying hu,hb,sizeOf,typeInfo,hi,hc,mN]
theorem WV (s:ByteArray) (l:List UInt8) (h:s.data.toList=l) (a b:Nat):(s.extract a b).data.toList=(l.drop a).take (b-a):=by
 subst h
 simp[ByteArray.data_extract]
theorem WW (S:aF P w I β hp B M w0) {t:TypeId} {v:Value} {x:V} {lo hi:Option V} {lov hiv:Option Value} {r:R} {rd:List Nat} (hv:ao P w I β hp v x)
  (iE: ∀x,lo=some x→∃v,lov=some v∧ao P w I β hp v x) (gH: ∀x,hi=some x→∃v,hiv=some v∧ao P w I β hp v x) (mR:lo=none→lov=none) (n0:hi=none→hiv=none)
  (h:(Cq P t x lo hi).run C hp=some (r,rd)):cS P ((Instr.sliceAt t v lov hiv none).run P w) w I β hp B M w0 r:=by
 unfold Cq at h
 cases hu:P.underlying t with
 | none=>rw[hu] at h;cases h
 | some d=>
  rw[hu] at h
  cases d<;>simp only at h<;>first|(cases h;done)|skip
  case string=>
   cases x<;>simp only at h<;>first|(cases h;done)|skip
   rename_i l
   obtain ⟨s,rfl,hs⟩:=hv.lP
   have aT:l.length=s.size:=by rw[←hs];simp
   obtain ⟨a,u,h1,U,h3,h4⟩:=qs (isS:=false) (cap:=s.size) (by omega) iE gH mR n0 h
   obtain rfl:=aM h4
   rw[aT] at h3
   refine .same S (v:= .string (s.extract a u)) ?_ (.str (WV s l hs a u))
   simp[Instr.sliceAt,Instr.slice,run_underlying hu,h3]
  case slice e=>
   cases x<;>simp only at h<;>first|(cases h;done)|skip
   case list e' es=>
    obtain ⟨hc,h⟩:=aG h
    simp only[aK,aQ] at hc
    obtain ⟨dz,au⟩:=hc
    obtain ⟨i,z,dO,_,aT,_⟩:=j4 au
    cases hv with
    | list hp'=>
     cases hp' with
     | nil=>
      obtain ⟨a,u,h1,U,h3,h4⟩:=qs (n:=0) (isS:=true) (cap:=0) (bZ _) iE gH mR n0 h
      obtain rfl:=aM h4
      obtain rfl:u=0:=by omega
      obtain rfl:a=0:=by omega
      exact .same S (Df hu dO h3) (by simpa using ao.list iv.nil)
     | @emp ad cap=>
      obtain ⟨a,u,h1,U,h3,h4⟩:=qs (n:=0) (isS:=true) (cap:=cap) (kq _) iE gH mR n0 h
      obtain rfl:=aM h4
      obtain rfl:u=0:=by omega
      obtain rfl:a=0:=by omega
      refine .same S (v:= .slice (some ad) 0 cap) ?_ (by simpa using ao.list iv.emp)
      by_cases hc:cap=0
      ·subst hc
       simp[Instr.sliceAt,Instr.slice,run_underlying hu,h3,sizeOf,typeInfo,dO]
      ·simp[Instr.sliceAt,Instr.slice,run_underlying hu,h3,sizeOf,typeInfo,dO,hc,Addr.add]
     | @list b o len cap _ g hl b7 hI fN hx=>
      obtain ⟨a,u,h1,U,h3,h4⟩:=qs (isS:=true) (cap:=cap) (by omega) iE gH mR n0 h
      obtain rfl:=aM h4
      rw[hl] at U h3
      obtain ⟨o',iU,cN⟩:=Hw (b:=b) (o:=o) hu dO (by omega) h3
      have gg:e=e':=dz
      refine .same S cN (.list ?_)
      rw[←gg]
      rw[←gg] at fN hx hI
      have hlen:((es.drop a).take (u-a)).length=u-a:=by simp;omega
      refine .list (fun i j=>g (a+i) j) hlen (by omega) (fun h=>hI (q0 h (dt _ (by omega)))) (fun i j hi hj=> ?_) (fun i j y t' hy ht=> ?_)
      ·have:=fN (a+i) j (by omega) hj
       rw[df,nF,←nF o] at this
       rw[iU (by omega),aT]
       exact this
      ·have hi:i<u-a:=by rw[←hlen];exact (bu.1 hy).1
       rw[eN hi,gR] at hy
       exact hx (a+i) j y t' hy ht
   case whole e' id=>
    obtain ⟨l,h⟩:=run_get h
    cases ab:hp id with
    | none=>rw[ab] at h;cases h
    | some blk=>
     rw[ab] at h
     cases blk<;>simp only at h<;>first|(cases h;done)|skip
     rename_i dv es fz
     obtain ⟨hc,h9⟩:=aG h
     clear h
     simp only[aK,aQ] at hc
     obtain ⟨dz,iw,au⟩:=hc
     obtain ⟨i,z,dO,_,aT,_⟩:=j4 au
     cases hv with
     | dZ hd=>rw[ab] at hd;cases hd
     | ei hd=>rw[ab] at hd;cases hd
     | dx hd hb=>
      rw[ab] at hd
      cases hd
      obtain ⟨a,u,h1,U,h3,h4⟩:=qs (n:=0) (isS:=true) (cap:=0) (bZ _) iE gH mR n0 h9
      obtain rfl:=aM h4
      obtain rfl:u=0:=by omega
      obtain rfl:a=0:=by omega
      exact .same S (Df hu dO h3) (.fA ab hb)
     | @whole _ _ aL mG b cap hd hb zk b7 hm=>
      have eC:=hd
      rw[ab] at hd
      cases hd
      obtain ⟨a,u,h1,U,h3,h4⟩:=qs (isS:=true) (cap:=cap) b7 iE gH mR n0 h9
      obtain rfl:=aM h4
      obtain ⟨o',iU,cN⟩:=Hw (b:=b) (o:=0) hu dO (by omega) h3
      have gg:e=e':=dz
      exact .same S cN (.sub eC hb (by omega) (by omega) (fun h=>by rw[iU h,aT,gg,gu]))
   case sub e' id off len=>
    obtain ⟨l,h⟩:=run_get h
    cases ab:hp id with
    | none=>rw[ab] at h;cases h
    | some blk=>
     rw[ab] at h
     cases blk<;>simp only at h<;>first|(cases h;done)|skip
     rename_i dv es fz
     obtain ⟨hc,h⟩:=aG h
     simp only[aK,aQ] at hc
     obtain ⟨dz,iw,au⟩:=hc
     obtain ⟨i,z,dO,_,aT,_⟩:=j4 au
     cases hv with
     | fM hd=>rw[ab] at hd;cases hd
     | fA hd hb=>
      have eC:=hd
      obtain ⟨a,u,h1,U,h3,h4⟩:=qs (isS:=true) (cap:=0) (bZ _) iE gH mR n0 h
      obtain rfl:=aM h4
      obtain rfl:u=0:=by omega
      obtain rfl:a=0:=by omega
      exact .same S (Df hu dO h3) (.fA eC hb)
     | @sub _ _ _ _ aL mG b o cap hd hb kD b7 ho=>
      have eC:=hd
      obtain ⟨a,u,h1,U,h3,h4⟩:=qs (isS:=true) (cap:=cap) b7 iE gH mR n0 h
      obtain rfl:=aM h4
      obtain ⟨o',iU,cN⟩:=Hw (b:=b) (o:=o) hu dO (by omega) h3
      have gg:e=e':=dz
      exact .same S cN (.sub eC hb (by omega) (by omega) (fun h=>by rw[iU h,aT,ho (by omega),gg,df]))
theorem WX (S:aF P w I β hp B M w0) {t:TypeId} {v:Value} {x:V} {lo hi mx:Option V} {lov hiv MZ:Option Value} {r:R} {rd:List Nat} (hv:ao P w I β hp v x)
  (iE:lo=none→lov=none) (gH: ∀y,hi=some y→∃u,hiv=some u∧ao P w I β hp u y) (nU: ∀y,mx=some y→∃u,MZ=some u∧ao P w I β hp u y)
  (h:(Gz P t x lo hi mx).run C hp=some (r,rd)):cS P ((Instr.sliceAt t v lov hiv MZ).run P w) w I β hp B M w0 r:=by
 unfold Gz at h
 cases hu:P.underlying t with
 | none=>rw[hu] at h;cases h
 | some d=>
  rw[hu] at h
  cases d<;>(try (cases h;done))
  rename_i e
  cases lo<;>(try (cases h;done))
  cases hi<;>(try (cases h;done))
  rename_i vN
  cases vN<;>(try (cases h;done))
  cases mx<;>(try (cases h;done))
  rename_i WY
  cases WY<;>(try (cases h;done))
  obtain ⟨hc,h9⟩:=aG h
  clear h
  have h:=h9
  clear h9
  simp only[aK,dW] at hc
  obtain ⟨rfl,rfl,au⟩:=hc
  obtain ⟨i,z,dO,_,_,_⟩:=j4 au
  obtain ⟨u1,rfl,k1⟩:=gH _ rfl
  obtain ⟨u2,rfl,k2⟩:=nU _ rfl
  rw[k1.dI,k2.dI,iE rfl]
  have run: ∀{k k2:IntKind} (a:Option Addr) (len cap:Nat),(Instr.sliceAt t (.slice a len cap) none (some (.int k 0)) (some (.int k2 0))).run P w= .ok (.slice a 0 0) w:=by
   intro k k2 a len cap
   cases a<;>simp[Instr.sliceAt,Instr.slice,Instr.sliceBounds,Instr.sliceBound,asIntOf,run_underlying hu,sizeOf,typeInfo,dO]
  cases x<;>(try (cases h;done))
  ·simp only at h
   obtain rfl:=aM h
   cases hv with
   | list hp'=>cases hp'<;>exact .same S (run _ _ _) .nilS
  ·simp only at h
   obtain rfl:=aM h
   cases hv
   exact .same S (run _ _ _) .nilS
  ·rename_i e' id
   simp only at h
   obtain ⟨l,h⟩:=run_get h
   cases ab:hp id with
   | none=>rw[ab] at h;cases h
   | some blk=>
    rw[ab] at h
    cases blk<;>simp only at h<;>first|(cases h;done)|skip
    all_goals
     obtain rfl:=aM h
     cases hv with
     | dZ hd=>rw[ab] at hd;cases hd
     | ei hd=>exact .same S (run _ _ _) .nilS
     | dx hd hb=>exact .same S (run _ _ _) .nilS
     | whole hd=>exact .same S (run _ _ _) .nilS
theorem WZ (S:aF P w I β hp B M w0) {t:TypeId} {v ix:Value} {x y:V} {r:R} {rd:List Nat} (hv:ao P w I β hp v x) (hy:ao P w I β hp ix y)
  (h:(GC P t x y).run C hp=some (r,rd)):cS P ((Instr.indexAt t v ix).run P w) w I β hp B M w0 r:=by
 unfold GC at h
 cases hu:P.underlying t with
 | none=>rw[hu] at h;cases h
 | some d=>
  rw[hu] at h
  cases y<;>(try (cases d<;>cases h;done))
  rename_i k i
  rw[hy.dI]
  cases d<;>simp only at h<;>first|(cases h;done)|skip
  case slice e=>
   have run: ∀(b o len cap:Nat) (ie:TypeInfo),P.info? e=some ie→0≤i→i<(len:Int)→(Instr.indexAt t (.slice (some ⟨b,o,none⟩) len cap) (.int k i)).run P w= .ok (.pointer (some ⟨b,o+i.toNat*ie.size,none⟩)) w:=by
    intro b o len cap ie jt h0 h1
    simp[Instr.indexAt,asIntOf,run_underlying hu,h0,h1,sizeOf,typeInfo,jt,mN]
   cases x<;>simp only at h<;>first|(cases h;done)|skip
   case list e' es=>
    obtain ⟨hc,h⟩:=aG h
    simp only[aK,aQ] at hc
    obtain ⟨dz,au⟩:=hc
    have gg:e=e':=dz
    obtain ⟨ie,z,dO,_,aT,_⟩:=j4 au
    obtain ⟨el,cK,h⟩:=ld h
    obtain rfl:=aM h
    unfold idx at cK
    cases h0:decide (0≤i) with
    | false=>rw[h0] at cK;cases cK
    | true=>
     rw[h0] at cK
     simp only[cond_true] at cK
     have vO:0≤i:=by simpa using h0
     have aO:i.toNat<es.length:=(bu.1 cK).1
     cases hv with
     | list hp'=>
      cases hp' with
      | nil=>simp at aO
      | emp=>simp at aO
      | @list b o len cap _ g hl b7 hI fN hx=>
       rw[←gg] at fN hx hI
       refine .same S (run b o len cap ie dO vO (by omega)) ?_
       have bQ:=vA (P:=P) e el
       have Hy:=fj au
       have M0:(bif bI P e then flat P e else [e])=aR P e:=rfl
       rw[M0]
       refine .pref (by rw[bQ]) (fun _=>hI ?_) (fun j t' y' ht y5=> ?_)
       ·have:=Nat.mul_pos (show 0<len by omega) (jX au).2
        exact this
       ·obtain ⟨t2,a1,a2⟩:=G2 y5
        rw[ht] at a1;cases a1
        have hj:j<P.cellsOf e:=by rw[←Hy];exact (bu.1 ht).1
        have gA:=hx i.toNat j el t' cK ht
        refine ⟨g i.toNat j,?_,?_⟩
        ·rw[aT,nF];exact fN i.toNat j (by omega) hj
        ·rw[a2,gA.rI];exact gA
   case whole e' id=>
    obtain ⟨l,h⟩:=run_get h
    cases ab:hp id with
    | none=>rw[ab] at h;cases h
    | some blk=>
     rw[ab] at h
     cases blk<;>simp only at h<;>first|(cases h;done)|skip
     rename_i dv es fz
     obtain ⟨hc,h⟩:=aG h
     simp only[aK,aQ] at hc
     obtain ⟨dz,iw⟩:=hc
     obtain ⟨eD,h⟩:=aG h
     simp only[aK,dW] at eD
     obtain rfl:=aM h
     cases hv with
     | dZ hd=>rw[ab] at hd;cases hd
     | ei hd=>rw[ab] at hd;cases hd
     | dx hd hb=>rw[ab] at hd;cases hd;simp at eD;omega
     | @whole _ _ aL mG b cap hd hb zk b7 hm=>
      have eC:=hd
      rw[ab] at hd
      cases hd
      have hr:=S.h.rel id _ ab
      cases hr with
      | dy aB=>rw[aB] at hb;cases hb
      | arr au aB hh hs hf eb hx=>
       have gg:e=e':=dz
       obtain ⟨ie,z,dO,_,aT,_⟩:=j4 au
       rw[←gg] at dO aT
       refine .same S (run b 0 _ cap ie dO eD.1 eD.2) ?_
       have:=ao.ptr (P:=P) (w:=w) (I:=I) (i:=i.toNat) (c:=0) eC (by simp) hb
       simp only[an.sz] at this
       rw[gu,aT,gg]
       simpa using this
     rename_i dv es ar
     obtain ⟨hc,h⟩:=aG h
     simp only[aK,aQ] at hc
     obtain ⟨dz,iw⟩:=hc
     obtain ⟨eD,h⟩:=aG h
     simp only[aK,dW] at eD
     obtain rfl:=aM h
     cases hv with
     | dZ hd=>rw[ab] at hd;cases hd
     | dx hd hb=>rw[ab] at hd;cases hd
     | whole hd=>rw[ab] at hd;cases hd
     | @ei _ _ aL vers' b cap hd hb zk b7 hm=>
      have eC:=hd
      rw[ab] at hd
      cases hd
      have au:=(S.rows eC hb .here).ok
      have gg:e=e':=dz
      obtain ⟨ie,z,dO,_,aT,_⟩:=j4 au
      rw[←gg] at dO aT
      refine .same S (run b 0 _ cap ie dO eD.1 eD.2) ?_
      have:=ao.ptr (P:=P) (w:=w) (I:=I) (i:=i.toNat) (c:=0) eC (by simp) hb
      simp only[an.sz] at this
      rw[gu,aT,gg]
      simpa using this
   case row e' id ver path=>
    obtain ⟨e0,es,ar,l,ab,h1,U,h3,h⟩:=nT h
    obtain ⟨e2,v',k1,k2,h⟩:=vq h
    obtain ⟨hc,h⟩:=aG h
    simp only[aK,aQ] at hc
    obtain ⟨dz,iw⟩:=hc
    obtain ⟨eD,h⟩:=aG h
    simp only[aK,dW] at eD
    obtain rfl:=aM h
    cases hv with
    | jm hd hp'=>rw[ab] at hd;cases hd;exact absurd hp' (vr h1 U h3)
    | @row v _ e0 t1 _ ver b i1 c1 q es l1 ar hd hb hq Hf ht fN=>
     have W0:=fN
     obtain ⟨b',e3,aL,Ca,T,f,x,m1,m2,m3,m4,m5,m6⟩:=fN
     have iA:=hd
     rw[ab] at iA
     cases iA
     obtain ⟨n1,n2⟩:=CH m1 m3 m4 ht m5
     rw[n2] at k2
     cases k2
     simp only[V.toList] at eD
     have hR:=S.rows hd hb m1
     obtain ⟨C1,c2,c3,c4⟩:=hR.cells
     rw[m2] at c2
     cases c2
     have hj:c1<P.cellsOf e3:=by
      rw[←fj hR.ok];exact (bu.1 m4).1
     obtain ⟨v2,d1,d2⟩:=c4 _ _ _ _ m3 m4 hj
     rw[m6] at d1
     cases d1
     rw[m5] at d2
     cases d2 with
     | fy a _=>unfold fv at a;rw[ht] at a;cases a
     | emp _ _=>simp at eD;omega
     | @row _ _ b1 cap _ hl _ _ _=>
      have au:=(S.rows hd hb (m1.snoc m2 m3 m4 ht m5 hl m6)).ok
      have gg:e=e':=dz
      obtain ⟨ie,z,dO,_,aT,_⟩:=j4 au
      rw[←gg] at dO aT
      refine .same S (run b1 0 _ cap ie dO eD.1 eD.2) ?_
      have:=ao.cx (P:=P) (I:=I) (i:=i.toNat) (c:=0) hd hb hq Hf ht hl W0
      rw[gu,aT,gg]
      simpa using this
   case sub e' id off len=>
    obtain ⟨l,h⟩:=run_get h
    cases ab:hp id with
    | none=>rw[ab] at h;cases h
    | some blk=>
     rw[ab] at h
     cases blk<;>simp only at h<;>first|(cases h;done)|skip
     rename_i dv es fz
     obtain ⟨hc,h⟩:=aG h
     simp only[aK,aQ] at hc
     obtain ⟨dz,iw⟩:=hc
     obtain ⟨eD,h⟩:=aG h
     simp only[aK,dW] at eD
     obtain rfl:=aM h
     cases hv with
     | fM hd=>rw[ab] at hd;cases hd
     | fA hd hb=>simp at eD;omega
     | @sub _ _ _ _ aL mG b o cap hd hb kD b7 ho=>
      have eC:=hd
      rw[ab] at hd
      cases hd
      have hr:=S.h.rel id _ ab
      cases hr with
      | dy aB=>rw[aB] at hb;cases hb
      | arr au aB hh hs hf eb hx=>
       have gg:e=e':=dz
       obtain ⟨ie,z,dO,_,aT,_⟩:=j4 au
       rw[←gg] at dO aT
       refine .same S (run b o _ cap ie dO eD.1 eD.2) ?_
       have:=ao.ptr (P:=P) (w:=w) (I:=I) (i:=off+i.toNat) (c:=0) eC (by simp) hb
       simp only[an.sz] at this
       rw[ho (by omega),aT,gg,←df]
       simpa using this
  case array n e=>
   have run: ∀(b o:Nat) (ie:TypeInfo),P.info? e=some ie→0≤i→i<(n:Int)→(Instr.indexAt t (.pointer (some ⟨b,o,none⟩)) (.int k i)).run P w= .ok (.pointer (some ⟨b,o+i.toNat*ie.size,none⟩)) w:=by
    intro b o ie jt h0 h1
    simp[Instr.indexAt,asIntOf,run_underlying hu,h0,h1,sizeOf,typeInfo,jt,mN,Instr.sureAddr]
   cases x<;>simp only at h<;>first|(cases h;done)|skip
   case ptr id j c=>
    obtain ⟨⟨blk,ab,hd⟩,l,h⟩:=vy h
    obtain ⟨eD,h⟩:=aG h
    simp only[aK,dW] at eD
    obtain rfl:=aM h
    obtain ⟨b,hb,rfl⟩:=hv.gC ab hd
    obtain ⟨d,tx⟩:=y8 eD.1
    obtain ⟨ie,jt⟩:=vz tx
    have aT:ie.size=P.cellsOf e:=by simp[Program.cellsOf,jt]
    refine .same S (run b _ ie jt eD.2.1 eD.2.2) ?_
    rw[aT,nF]
    exact .ptr ab hd hb
   case pref ts cs=>
    obtain ⟨eD,h⟩:=aG h
    simp only[aK,dW] at eD
    obtain rfl:=aM h
    obtain ⟨b,o,rfl,h1,U,h3⟩:=hv.CP
    obtain ⟨d,tx⟩:=y8 eD.1
    obtain ⟨ie,jt⟩:=vz tx
    have aT:ie.size=P.cellsOf e:=by simp[Program.cellsOf,jt]
    refine .same S (run b _ ie jt eD.2.1 eD.2.2) ?_
    rw[aT]
    exact ao.Ml h1 U h3
end
end Go.AM
namespace Go.AM
open Go.Maps
section
variable {P:Program} {w w':World} {I I':Nat→Prop} {β β':Nat→Option Nat} {hp hp':Nat→Option an} {C:ag} {B:Nat} {M:Nat→Prop} {w0:Start}
theorem W3 (S:aF P w I β hp B M w0) {nb:Nat} {t:TypeId} {v:Value} {x:V} {lo hi:Option V} {lov hiv:Option Value} {r:R} {rd:List Nat} (hv:ao P w I β hp v x)
  (gH: ∀x,hi=some x→∃v,hiv=some v∧ao P w I β hp v x) (mR:lo=none→lov=none)
  (h:(Cr P nb t x lo hi).run C hp=some (r,rd)):cS P ((Instr.sliceAt t v lov hiv none).run P w) w I β hp B M w0 r:=by
 unfold Cr at h
 split at h
 case h_2=>cases h
 rename_i e e' id k hh hu
 obtain ⟨l,h1⟩:=run_get h
 cases ab:hp id with
 | none=>rw[ab] at h1;cases h1
 | some blk=>
  rw[ab] at h1
  cases blk<;>simp only at h1<;>first|(cases h1;done)|skip
  rename_i e2 es fz
  cases fz with
  | true=>cases h1
  | false=>
  obtain ⟨hc,U⟩:=aG h1
  simp only[aK,aQ,dW] at hc
  obtain ⟨rfl,rfl,au,M1,M3⟩:=hc
  obtain ⟨hn,rfl⟩:=mP U
  have iE:=mR rfl
  subst iE
  obtain ⟨Hz,rfl,W4⟩:=gH _ rfl
  obtain rfl:=W4.dI
  obtain ⟨i,z,dO,_,aT,_⟩:=j4 au
  have bA:nb≠id:=fun e=>by rw[e,ab] at hn;cases hn
  obtain ⟨k1,k2⟩:=CL S ab
  have j5:aH hp id (some an.dead) nb=none:=by rw[ec _ _ bA];exact hn
  have M4: ∀cap,es.length≤cap→(Instr.sliceBounds true es.length cap none (some (.int k hh)) none).run P w= .ok (0,hh.toNat,cap) w:=by
   intro cap b7
   have hb:(rv es.length none (some (.int k hh)) fun l u=> .aC (decide (l=0∧u=hh.toNat)) (.ret (⟨.undef,[]⟩:R))).run C hp=some (⟨.undef,[]⟩,[]):=by
    simp[rv,Rd.run,M1,M3]
   obtain ⟨l,u,b1,b2,b3,b4⟩:=qs (P:=P) (w:=w) (I:=I) (β:=β) (hp:=hp) (n:=es.length) (isS:=true) (cap:=cap) (lov:=none) (hiv:=some (.int k hh)) b7 (by simp) (fun x hx=>by cases hx;exact ⟨_,rfl,.int⟩) (fun _=>rfl) (by simp) hb
   obtain ⟨b5,_⟩:=aG b4
   simp only[dW] at b5
   obtain ⟨rfl,rfl⟩:=b5
   exact b3
  cases hv with
  | dZ hd=>rw[ab] at hd;cases hd
  | ei hd=>rw[ab] at hd;cases hd
  | @dx _ _ _ a0 hd hb=>
   rw[ab] at hd
   cases hd
   have G8:hh=0:=by simpa using Int.le_antisymm M3 M1
   subst G8
   have aB:=M4 0 (bZ _)
   obtain ⟨a1,a2⟩:=CK k2 e j5
   refine ⟨_,w,I,_,Df hu dO aB,k1.trans a1,a2,.dx (cM _ _ _) (cM _ _ _)⟩
  | @whole _ _ aL mG b cap hd hb zk b7 hm=>
   have eC:=hd
   rw[ab] at hd
   cases hd
   have hr:=S.h.rel id _ ab
   cases hr with
   | dy aB=>rw[aB] at hb;cases hb
   | @arr _ _ _ b' Ca _ aB Dg pd hf eb lT=>
    rw[hb] at aB
    cases aB
    have iW:(es.take hh.toNat).length=hh.toNat:=by rw[eO];omega
    have cN:(Instr.sliceAt t (.slice (some ⟨b,0,none⟩) es.length cap) none (some (.int k hh)) none).run P w= .ok (.slice (some ⟨b,0,none⟩) hh.toNat cap) w:=by
     have aB:=M4 cap b7
     by_cases M5:cap=0
     ·subst M5
      simp[Instr.sliceAt,Instr.slice,run_underlying hu,aB,sizeOf,typeInfo,dO]
     ·simp[Instr.sliceAt,Instr.slice,run_underlying hu,aB,sizeOf,typeInfo,dO,M5,mN]
    have qf: ∀aD blk',aH hp id (some an.dead) aD=some blk'→¬bw P w (β aD) blk' b:=by
     intro aD blk' h1 U
     by_cases iD:aD=id
     ·subst iD;rw[cM] at h1;cases h1;exact U.alive rfl
     ·rw[ec _ _ iD] at h1
      exact iD (S.h.inj aD id blk' _ b h1 ab U (.root (by simp) hb))
    obtain ⟨a1,a2⟩:=y4 k2 (blk:= .arr e (es.take hh.toNat) false) (w':=w) j5 qf (eb rfl) (fun _ _ _=>rfl) (bZ _) ⟨rfl,rfl⟩ (S.h.rE id _ b ab (by simp) hb)
     (fun b' h=>(c6 (h.flat (by simp))).symm) (fun hle=> .arr au rfl Dg (by rw[iW];exact kS (dt _ (by omega)) pd) (fun h=>by cases h) (fun _=>eb rfl) fun i j y t' hy ht hj=>by
      have qq:=(bu.1 hy).1
      rw[iW] at qq
      rw[eN qq] at hy
      obtain ⟨v,hv,hp⟩:=lT i j y t' hy ht hj
      exact ⟨v,hv,hp.mono hle.c9 hle.b8⟩)
    refine ⟨_,w,I,_,cN,k1.trans a1,a2,?_⟩
    have:=ao.whole (P:=P) (w:=w) (I:=I) (β:=aH β nb (some b)) (hp:=aH (aH hp id (some .dead)) nb (some (.arr e (es.take hh.toNat) false))) (cap:=cap) (cM _ _ _) (cM _ _ _) zk (by rw[iW];omega) hm
    rw[iW] at this
    exact this
theorem qt {t:TypeId} {x:V} (h:oU P t x=true):
  (∃q n,P.underlying t=some (.int q)∧x= .int q n∧Gu q n=true)∨(∃b,P.underlying t=some .bool∧x= .bool b)∨(∃s,P.underlying t=some .string∧x= .str s∧s.length≤maxLen):=by
 unfold oU at h
 split at h
 ·rename_i q q' n hu
  simp only[aK,dW] at h
  obtain ⟨rfl,h⟩:=h
  exact .inl ⟨_,_,hu,rfl,h⟩
 ·rename_i b hu
  exact .inr (.inl ⟨_,hu,rfl⟩)
 ·rename_i s hu
  exact .inr (.inr ⟨_,hu,rfl,by simpa using h⟩)
 ·cases h
theorem size_data (s:ByteArray):s.data.toList.length=s.size:=by simp
theorem W5 {q:IntKind} {n:Int} (h:Gu q n=true):(Lit.int q n).wf=true:=h
theorem M6 {t:TypeId} {x:V} {v:Value} (h:oU P t x=true) (hv:iT v x): ∃l,mapKey P t v=some l∧∀d,P.keyLits (d+1) t [v]=some [l]:=by
 rcases qt h with ⟨q,n,hu,rfl,hn⟩|⟨b,hu,rfl⟩|⟨s,hu,rfl,hs⟩
 ·obtain rfl:v= .int q n:=hv
  have hw:=W5 hn
  exact ⟨.int q n,by simp[mapKey,hu,hw],fun d=>by simp[Program.keyLits,hu,hw]⟩
 ·obtain rfl:v= .bool b:=hv
  exact ⟨.bool b,by simp[mapKey,hu],fun d=>by simp[Program.keyLits,hu]⟩
 ·obtain ⟨s',rfl,HA⟩:=hv
  have:s'.size≤maxLen:=by rw[←size_data,HA];exact hs
  exact ⟨.string s'.data.toList,by simp[mapKey,hu,this],fun d=>by simp[Program.keyLits,hu,this]⟩
theorem HB {t:TypeId}: ∀{xs:List V} {j:Nat} {x:V},pV P t xs=true→xs[j]? =some x→oU P t x=true
 | [],j,x,_,h=>by simp at h
 | y::ys,0,x,h,hx=>by
  simp only[pV,aK] at h
  simp at hx;subst hx;exact h.1
 | y::ys,j+1,x,h,hx=>by
  simp only[pV,aK] at h
  exact HB (j:=j) h.2 (by simpa using hx)
theorem mapM_some {α β:Type} {f:α→Option β}: ∀{l:List α},(∀a∈l,∃b,f a=some b)→∃bs,l.mapM f=some bs
 | [],_=>⟨[],rfl⟩
 | a::l,h=>by
  obtain ⟨b,hb⟩:=h a (ri ..)
  obtain ⟨bs,gB⟩:=mapM_some (l:=l) fun x hx=>h x (kU _ hx)
  exact ⟨b::bs,by simp[List.mapM_cons,hb,gB]⟩
inductive HC (P:Program) (t:TypeId) (x:V):Prop
 | one:oU P t x=true→x.cells=[x]→HC P t x
 | arr {n:Nat} {e:TypeId} {xs:List V}:x= .agg xs→WideMaps.ArrKey P t e n→xs.length=n→0<P.types.size→pV P e xs=true→HC P t x
theorem vP {t:TypeId} {x:V} (h:mF P t x=true):HC P t x:=by
 unfold mF at h
 split at h
 ·rename_i n e xs hu
  simp only[aK,aQ] at h
  rw[jM] at h
  exact .arr rfl ⟨hu,h.2.2.2.1,h.2.1,h.2.2.1⟩ h.1 h.2.2.2.2.1 h.2.2.2.2.2
 ·refine .one h ?_
  rcases qt h with ⟨q,n,hu,rfl,hn⟩|⟨b,hu,rfl⟩|⟨s,hu,rfl,hs⟩<;>rfl
theorem p8.one {x:V} {v:Value} (h:p8 v x) (hx:x.cells=[x]):iT v x:=by
 cases x<;>first|exact h|skip
 simp only[V.cells] at hx
 rename_i cs
 have:=congrArg List.length hx
 cases cs with
 | nil=>simp at hx
 | cons c cs=>
  simp only[List.cons.injEq] at hx
  have:=congrArg SizeOf.sizeOf hx.1
  simp at this
  omega
theorem Dh {t:TypeId} {x:V} {v:Value} (h:mF P t x=true) (hv:p8 v x): ∃l,Go.keyOf P t v=some l:=by
 cases vP h with
 | one h1 hx=>
  obtain ⟨l,hl,_⟩:=M6 h1 (hv.one hx)
  refine ⟨l,?_⟩
  rcases qt h1 with ⟨q,n,hu,_⟩|⟨b,hu,_⟩|⟨s,hu,_⟩<;>simp only[Go.keyOf,hu,hl]
 | @arr n e xs hx A hl hp0 hf=>
  subst hx
  obtain ⟨cs,rfl,hs,hc⟩:=hv
  obtain ⟨m,hm⟩: ∃m,P.types.size=m+1:=⟨P.types.size-1,by omega⟩
  have W6:=A.keyType ⟨m,hm⟩
  have hlen:cs.toList.length=P.cellsOf t:=by rw[A.size];simp[hs,hl]
  have W7:(Value.agg cs).formed P t=true:=by simp[Value.formed,A.hu,A.size,hs,hl]
  have hex: ∀i∈List.range n,∃y,P.keyLits (m+1) e (((Value.agg cs).cells.toList.drop (i*P.cellsOf e)).take (P.cellsOf e))=some y:=by
   intro i hi
   have hi:=List.mem_range.1 hi
   rw[A.one]
   have fQ:i<cs.size:=by omega
   have bV:i<xs.length:=by omega
   obtain ⟨l,_,U⟩:=M6 (HB hf (bM bV)) (hc i cs[i] xs[i] (ku fQ) (bM bV))
   have e1:((Value.agg cs).cells.toList.drop (i*1)).take 1=[cs[i]]:=by
    show (cs.toList.drop (i*1)).take 1=_
    rw[mA,List.drop_eq_getElem_cons (by simpa using fQ)]
    simp
   rw[e1]
   exact ⟨_,U m⟩
  obtain ⟨bs,gB⟩:=mapM_some hex
  refine ⟨.string (keyBytes bs.flatten),?_⟩
  have W8:(Value.agg cs).cells.toList.length=P.cellsOf t:=hlen
  unfold Go.keyOf
  rw[A.hu]
  simp only[W6,W7,Bool.and_self,cF]
  unfold Program.keyLits
  rw[A.hu,hm]
  simp only[W8,cF,gB,Option.map_some]
theorem HD {t:TypeId} {x:V} (h:mF P t x=true):Keyed P t:=by
 cases vP h with
 | one h1 hx=>
  rcases qt h1 with ⟨q,n,hu,_⟩|⟨b,hu,_⟩|⟨s,hu,_⟩
  ·exact int_keyed hu
  ·exact bool_keyed hu
  ·exact string_keyed hu
 | arr hx A hl _ hf=>exact Keyed.of_law A.law
theorem M7 {t:TypeId} {x y:V} {v u:Value} (h1:oU P t x=true) (U:oU P t y=true) (hv:iT v x) (hu:iT u y):vd x y=true↔v=u:=by
 rcases qt h1 with ⟨q,n,lU,rfl,_⟩|⟨b,lU,rfl⟩|⟨s,lU,rfl,_⟩<;>
 rcases qt U with ⟨q',n',lV,rfl,_⟩|⟨b',lV,rfl⟩|⟨s',lV,rfl,_⟩<;>
  (rw[lU] at lV;cases lV)
 ·obtain rfl:v= .int q n:=hv
  obtain rfl:u= .int q n':=hu
  simp[vd]
 ·obtain rfl:v= .bool b:=hv
  obtain rfl:u= .bool b':=hu
  simp[vd]
 ·obtain ⟨s1,rfl,e1⟩:=hv
  obtain ⟨s2,rfl,e2⟩:=hu
  simp only[vd,beq_iff_eq,Value.string.injEq,←e1,←e2]
  constructor
  ·intro h
   have:=Array.toList_inj.1 h
   cases s1;cases s2;simp_all
  ·rintro rfl;rfl
theorem M8 {t:TypeId}: ∀{xs ys:List V} {vs us:List Value},pV P t xs=true→pV P t ys=true→xs.length=ys.length→vs.length=xs.length→us.length=ys.length→
  (∀(j:Nat) v x,vs[j]? =some v→xs[j]? =some x→iT v x)→(∀(j:Nat) v x,us[j]? =some v→ys[j]? =some x→iT v x)→(sV xs ys=true↔vs=us)
 | [],[],vs,us,_,_,_,h1,U,_,_=>by
  have e1:=kT (l:=vs) (by simpa using h1)
  have e2:=kT (l:=us) (by simpa using U)
  simp[sV,e1,e2]
 | [],_::_,_,_,_,_,h,_,_,_,_=>by simp at h
 | _::_,[],_,_,_,_,h,_,_,_,_=>by simp at h
 | x::xs,y::ys,[],us,_,_,_,h,_,_,_=>by simp at h
 | x::xs,y::ys,v::vs,[],_,_,_,_,h,_,_=>by simp at h
 | x::xs,y::ys,v::vs,u::us,f1,f2,h,h1,U,r1,r2=>by
  simp only[pV,aK] at f1 f2
  have a:=M7 f1.1 f2.1 (r1 0 v x rfl rfl) (r2 0 u y rfl rfl)
  have b:=M8 (vs:=vs) (us:=us) f1.2 f2.2 (by simpa using h) (by simpa using h1) (by simpa using U) (fun j v x hj hx=>r1 (j+1) v x (by simpa using hj) (by simpa using hx)) (fun j v x hj hx=>r2 (j+1) v x (by simpa using hj) (by simpa using hx))
  simp only[sV,aK,a,b,List.cons.injEq]
theorem HE {t:TypeId} {x y:V} {v u:Value} (h1:mF P t x=true) (U:mF P t y=true) (hv:p8 v x) (hu:p8 u y):lK x y=true↔v=u:=by
 unfold lK
 cases vP h1 with
 | one f1 c1=>
  cases vP U with
  | one f2 c2=>
   rw[c1,c2]
   simp only[sV,Bool.and_true]
   exact M7 f1 f2 (hv.one c1) (hu.one c2)
  | arr hy A hl _ hf=>
   rcases qt f1 with ⟨q,n,lU,_⟩|⟨b,lU,_⟩|⟨s,lU,_⟩<;>(rw[A.hu] at lU;cases lU)
 | arr hx A hl _ hf=>
  cases vP U with
  | one f2 c2=>
   rcases qt f2 with ⟨q,n,lU,_⟩|⟨b,lU,_⟩|⟨s,lU,_⟩<;>(rw[A.hu] at lU;cases lU)
  | arr hy A2 ji _ zm=>
   have gg:=A.hu.symm.trans A2.hu
   cases gg
   subst hx
   subst hy
   obtain ⟨cs,rfl,s1,r1⟩:=hv
   obtain ⟨ds,rfl,s2,r2⟩:=hu
   have:=M8 (vs:=cs.toList) (us:=ds.toList) hf zm (by omega) (by simpa using s1) (by simpa using s2) (fun j v x hj hx=>r1 j v x (by simpa using hj) hx) (fun j v x hj hx=>r2 j v x (by simpa using hj) hx)
   simp only[V.cells,this,Value.agg.injEq]
   exact Array.toList_inj
theorem M9 {k:V}: ∀{es:List V},(∀x∈es,lK k (x.comp 0)=false)→kZ k es=false∧(∀z,lL k es z=z)∧∀v,il k v es=es++[.bm [k,v]]
 | [],_=>⟨rfl,fun _=>rfl,fun _=>rfl⟩
 | e::es,h=>by
  have h0:=h e (ri ..)
  obtain ⟨a,b,c⟩:=M9 (k:=k) (es:=es) fun x hx=>h x (kU _ hx)
  exact ⟨by simp[kZ,h0,a],fun z=>by simp[lL,h0,b],fun v=>by simp[il,h0,c]⟩
theorem Na {k:V}: ∀{es:List V} {j:Nat} {k' y:V},es[j]? =some (.bm [k',y])→lK k k'=true→(∀i x,i<j→es[i]? =some x→lK k (x.comp 0)=false)→
  kZ k es=true∧(∀z,lL k es z=y)∧∀v,il k v es=es.set j (.bm [k',v])
 | [],j,k',y,h,_,_=>by simp at h
 | e::es,0,k',y,h,he,_=>by
  simp at h
  subst h
  exact ⟨by simp[kZ,V.comp,V.nth,he],fun z=>by simp[lL,V.comp,V.nth,he],fun v=>by simp[il,V.comp,V.nth,he]⟩
 | e::es,j+1,k',y,h,he,aO=>by
  have h0:=aO 0 e (by omega) rfl
  obtain ⟨a,b,c⟩:=Na (k:=k) (es:=es) (j:=j) (by simpa using h) he fun i x hi hx=>aO (i+1) x (by omega) (by simpa using hx)
  exact ⟨by simp[kZ,h0,a],fun z=>by simp[lL,h0,b],fun v=>by simp[il,h0,c]⟩
theorem Nb {kt vt:TypeId} {E:Array MapEntry} {es:List V} {k:V} {kv:Value} (hs:E.size=es.length) (hx: ∀(j:Nat) (e:MapEntry) (x:V),E[j]? =some e→es[j]? =some x→CB P kt vt e x)
  (hn:E.toList.Pairwise (fun a b=>a.key≠b.key)) (hk:mF P kt k=true) (Di:p8 kv k) (w:World):
  ((Instr.findKey kt kv E.toList).run P w= .ok none w∧(∀e∈E.toList,e.key≠kv)∧kZ k es=false∧(∀z,lL k es z=z)∧∀v,il k v es=es++[.bm [k,v]])∨
  ∃j e k' y,(Instr.findKey kt kv E.toList).run P w= .ok (some (j,e.val)) w∧E[j]? =some e∧e.key=kv∧es[j]? =some (.bm [k',y])∧mF P kt k'=true∧p8 kv k'∧eH P vt y=true∧iT e.val y∧
   kZ k es=true∧(∀z,lL k es z=y)∧∀v,il k v es=es.set j (.bm [k',v]):=by
 have K:=HD hk
 obtain ⟨l,hl⟩:=Dh hk Di
 have Nc: ∀(j:Nat) x,es[j]? =some x→∃e,E[j]? =some e∧CB P kt vt e x:=by
  intro j x hj
  have aO:j<E.size:=by rw[hs];exact (bu.1 hj).1
  exact ⟨E[j],ku aO,hx j _ x (ku aO) hj⟩
 have keys: ∀e∈E.toList,∃l,Go.keyOf P kt e.key=some l:=by
  intro e he
  obtain ⟨j,hj⟩:=rf he
  have gd:E[j]? =some e:=by simpa using hj
  have aO:j<es.length:=by rw[←hs];exact (gS.1 gd).1
  obtain ⟨k',y,_,h1,U,_⟩:=hx j e es[j] gd (bM aO)
  exact Dh h1 U
 rcases K.find w hl E.toList keys with ⟨h1,U⟩|⟨j,e,h1,U,h3⟩
 ·left
  refine ⟨h1,U,M9 fun x W9=> ?_⟩
  obtain ⟨j,hj⟩:=rf W9
  obtain ⟨e,he,k',y,rfl,f1,f2,_⟩:=Nc j x hj
  cases hq:lK k (V.comp (.bm [k',y]) 0) with
  | false=>rfl
  | true=>
   have:=(HE hk f1 Di f2).1 hq
   exact absurd this.symm (U e (jh (by simpa using he)))
 ·right
  have hE:E[j]? =some e:=by simpa using U
  have aO:j<es.length:=by rw[←hs];exact (gS.1 hE).1
  obtain ⟨k',y,hy,f1,f2,f3,f4⟩:=hx j e es[j] hE (bM aO)
  have hj:=bM aO
  rw[hy] at hj
  rw[h3] at f2
  refine ⟨j,e,k',y,h1,hE,h3,hj,f1,f2,f3,f4,Na hj ((HE hk f1 Di f2).2 rfl) fun i x hi ga=> ?_⟩
  obtain ⟨e',gE,k2,y2,rfl,g1,g2,_⟩:=Nc i x ga
  cases hq:lK k (V.comp (.bm [k2,y2]) 0) with
  | false=>rfl
  | true=>
   have:=(HE hk g1 Di g2).1 hq
   have i1:i<E.toList.length:=by have:=(bu.1 ga).1;simp;omega
   have i2:j<E.toList.length:=by simp;omega
   have:=B4.1 hn i j i1 i2 hi
   have a1:E.toList[i]=e':=by
    have:E.toList[i]? =some e':=by simpa using gE
    rw[bM i1] at this;exact c6 this
   have a2:E.toList[j]=e:=by
    have:=U
    rw[bM i2] at this;exact c6 this
   rw[a1,a2,h3] at this
   exact absurd (by rw[← ‹kv=e'.key›]) this
theorem ao.Nd {v:Value} {x:V} (h:ao P w I β hp v x) {t:TypeId} (hx:oU P t x=true):iT v x:=by
 rcases qt hx with ⟨q,n,_,rfl,_⟩|⟨b,_,rfl⟩|⟨s,_,rfl,_⟩
 ·exact h.dI
 ·exact h.jY
 ·exact h.lP
theorem ao.Nf {v:Value} {x:V} (h:ao P w I β hp v x) {t:TypeId} (hx:mF P t x=true):p8 v x:=by
 cases vP hx with
 | one f c=>
  have:=h.Nd f
  cases x<;>first|exact this|cases this
 | arr hx A hl _ hf=>
  subst hx
  obtain ⟨cs,rfl,h1,U⟩:=h.kG
  exact ⟨cs,rfl,h1,fun j u y hu hy=>(U j u y hu hy).Nd (HB hf hy)⟩
theorem Ng {vt:TypeId} {y:V} (h:mapVal P vt=true) (ht:eH P vt y=true):(∃q n,P.underlying vt=some (.int q)∧y= .int q n)∨∃b,P.underlying vt=some .bool∧y= .bool b:=by
 unfold mapVal at h
 unfold eH at ht
 split at h
 ·rename_i q hu
  rw[hu] at ht
  cases y<;>first|(simp at ht;done)|skip
  simp only[dW] at ht
  subst ht
  exact .inl ⟨_,_,hu,rfl⟩
 ·rename_i hu
  rw[hu] at ht
  cases y<;>first|(simp at ht;done)|skip
  exact .inr ⟨_,hu,rfl⟩
 ·cases h
theorem iT.HF {vt:TypeId} {v:Value} {y:V} (h:mapVal P vt=true) (ht:eH P vt y=true) (hv:iT v y):ao P w I β hp v y:=by
 rcases Ng h ht with ⟨q,n,_,rfl⟩|⟨b,_,rfl⟩
 ·obtain rfl:v= .int q n:=hv;exact .int
 ·obtain rfl:v= .bool b:=hv;exact .bool
theorem ao.Xa {vt:TypeId} {v:Value} {y:V} (h:mapVal P vt=true) (ht:eH P vt y=true) (hv:ao P w I β hp v y):iT v y:=by
 rcases Ng h ht with ⟨q,n,_,rfl⟩|⟨b,_,rfl⟩
 ·exact hv.dI
 ·exact hv.jY
theorem Xb {vt:TypeId} {z:V} (h:Cm P vt=some z) (w:World): ∃v,(zeroValue vt).run P w= .ok v w∧iT v z:=by
 unfold Cm at h
 cases hi:P.info? vt with
 | none=>rw[hi] at h;cases h
 | some i=>
  rw[hi] at h
  simp only[Option.bind_some] at h
  cases hz:i.zero with
  | none=>rw[hz] at h;cases h
  | some v=>
   rw[hz] at h
   refine ⟨v,by simp[zeroValue,typeInfo,hi,hz],?_⟩
   cases v<;>simp only at h<;>first|(cases h;done)|skip
   ·cases h;rfl
   ·cases h;rfl
theorem HG {t kt vt:TypeId} (h:k0 P t=some (kt,vt)):P.underlying t=some (.map kt vt):=by
 unfold k0 at h
 split at h
 ·rename_i k e hu;cases h;exact hu
 ·cases h
theorem HH (S:aF P w I β hp B M w0) {ok:Bool} {v:Value} {x:V} {b:Bool} {r:R} {rd:List Nat} {res:Result Value} (hv:ao P w I β hp v x)
  (hr:res= .ok (if ok then .tuple #[v,.bool b] else v) w) (h:(Cn ok x b).run C hp=some (r,rd)):cS P res w I β hp B M w0 r:=by
 unfold Cn at h
 obtain rfl:=aM h
 cases ok with
 | false=>exact .same S hr hv
 | true=>
  refine .same S hr (.bm rfl fun j u y hu hy=> ?_)
  match j,hu,hy with
  | 0,hu,hy=>simp at hu hy;subst hu;subst hy;exact hv
  | 1,hu,hy=>simp at hu hy;subst hu;subst hy;exact .bool
  | j+2,hu,hy=>simp at hy
theorem Xc (S:aF P w I β hp B M w0) {t kt vt:TypeId} (ht:k0 P t=some (kt,vt)) {m k:Value} {mx kx:V} {ok:Bool} {r:R} {rd:List Nat} (hm:ao P w I β hp m mx) (hk:ao P w I β hp k kx)
  (h:(Gv P t mx kx ok).run C hp=some (r,rd)):cS P ((Instr.lookup t m k ok).run P w) w I β hp B M w0 r:=by
 unfold Gv at h
 rw[ht] at h
 simp only at h
 cases hz:Cm P vt with
 | none=>rw[hz] at h;cases h
 | some z=>
  rw[hz] at h
  obtain ⟨hc,h'⟩:=aG h
  clear h
  have h:=h'
  clear h'
  simp only[aK] at hc
  obtain ⟨j6,zn,Dj⟩:=hc
  have hu:=HG ht
  have vQ:=hk.Nf j6
  have K:=HD j6
  obtain ⟨l,hl⟩:=Dh j6 vQ
  obtain ⟨zv,Nh,Ni⟩:=Xb hz w
  cases mx<;>simp only at h<;>first|(cases h;done)|skip
  ·rename_i t' id
   obtain ⟨ll,h'⟩:=aG h
   clear h
   have h:=h'
   clear h'
   rw[aQ] at ll
   subst ll
   obtain ⟨l2,h'⟩:=run_get h
   clear h
   have h:=h'
   clear h'
   cases ab:hp id with
   | none=>rw[ab] at h;cases h
   | some blk=>
    rw[ab] at h
    cases blk<;>simp only at h<;>first|(cases h;done)|skip
    rename_i t2 es
    obtain ⟨ll,h'⟩:=aG h
    clear h
    have h:=h'
    clear h'
    rw[aQ] at ll
    subst ll
    cases hm with
    | g9 hd=>rw[ab] at hd;cases hd
    | @cl _ _ b aL hd hb=>
     rw[ab] at hd
     cases hd
     have hr:=S.h.rel id _ ab
     cases hr with
     | @map _ Nj Nk _ b' clock E fB aB hh hs hI hx hn=>
      rw[hb] at aB;cases aB
      rw[hu] at fB;cases fB
      rcases Nb hs hx hn j6 vQ w with ⟨h1,_,h3,h4,_⟩|⟨j,e,k',y,h1,_,_,_,_,_,h6,h7,h3,h4,_⟩
      ·rw[h3,h4,y7 Dj] at h
       refine HH S (iT.HF zn Dj Ni) ?_ h
       unfold Instr.lookup
       simp only[Sem.run_bind,run_underlying hu,Result.andThen_ok,Go.MapKept.run_getObj_map hh,Sem.run_pure,K.check w E.isEmpty hl,h1,Nh]
      ·rw[h3,h4,y7 h6] at h
       refine HH S (iT.HF zn h6 h7) ?_ h
       unfold Instr.lookup
       simp only[Sem.run_bind,run_underlying hu,Result.andThen_ok,Go.MapKept.run_getObj_map hh,Sem.run_pure,K.check w E.isEmpty hl,h1]
  ·rename_i t'
   obtain ⟨ll,h⟩:=aG h
   cases hm
   rw[y7 Dj] at h
   refine HH S (iT.HF zn Dj Ni) ?_ h
   have hf:(Instr.findKey kt k []).run P w= .ok none w:=by
    rcases K.find w hl [] (by simp) with ⟨h1,_⟩|⟨j,e,_,U,_⟩
    ·exact h1
    ·simp at U
   unfold Instr.lookup
   simp[run_underlying hu,K.check w true hl,hf,Nh]
theorem Xd (S:aF P w I β hp B M w0) {t:TypeId} {nb:Nat} {r:R} {rd:List Nat} (h:(Rd.aC (k0 P t).isSome (iQ nb (.map t []) (.cl t nb) [])).run C hp=some (r,rd)):
  cS P ((Instr.makeMap t none).run P w) w I β hp B M w0 r:=by
 obtain ⟨ht,h⟩:=aG h
 obtain ⟨hn,rfl⟩:=mP h
 obtain ⟨⟨kt,vt⟩,ht⟩:=yl.1 ht
 have hu:=HG ht
 have cH: ¬I w.heap.size:=fun h=>Nat.lt_irrefl _ (S.h.jo _ h)
 have eJ:(w.alloc (.map #[] 0)).heap[w.heap.size]? =some (.map #[] 0):=heap_alloc_new w _
 obtain ⟨a1,a2⟩:=y4 S (w':=w.alloc (.map #[] 0)) (blk:= .map t []) (b:=w.heap.size) hn (fun aD blk' h ho=>Nat.lt_irrefl _ (S.h.lt h ho)) cH
  (fun b' _ aO=>heap_alloc_old w _ b' aO) (by simp) ⟨rfl,rfl⟩ (.inr S.size) (fun b' h=>(c6 (h.flat (by simp))).symm)
  (fun _=> .map hu rfl eJ rfl cH (fun j e x he _=>by simp at he) (by simp))
 exact ⟨_,_,_,_,Go.RowKit.run_makeMap t w,a1,a2,.cl (cM _ _ _) (cM _ _ _)⟩
theorem Nl (S:aF P w I β hp B M w0) {t kt vt:TypeId} (ht:k0 P t=some (kt,vt)) {m k v:Value} {mx kx vx:V} {r:R} {rd:List Nat} (hm:ao P w I β hp m mx) (hk:ao P w I β hp k kx) (hv:ao P w I β hp v vx)
  (h:(Co P t mx kx vx).run C hp=some (r,rd)):o5 P ((Instr.mapUpdate t m k v).run P w) w I β hp B M w0 r:=by
 unfold Co at h
 rw[ht] at h
 obtain ⟨hc,h'⟩:=aG h
 clear h
 have h:=h'
 clear h'
 simp only[aK] at hc
 obtain ⟨j6,zn,tz⟩:=hc
 have hu:=HG ht
 have vQ:=hk.Nf j6
 have vC:=ao.Xa zn tz hv
 have K:=HD j6
 obtain ⟨l,hl⟩:=Dh j6 vQ
 cases mx<;>simp only at h<;>first|(cases h;done)|skip
 rename_i t' id
 obtain ⟨ll,h'⟩:=aG h
 clear h
 have h:=h'
 clear h'
 rw[aQ] at ll
 subst ll
 obtain ⟨l2,h'⟩:=run_get h
 clear h
 have h:=h'
 clear h'
 cases ab:hp id with
 | none=>rw[ab] at h;cases h
 | some blk=>
  rw[ab] at h
  cases blk<;>simp only at h<;>first|(cases h;done)|skip
  rename_i t2 es
  obtain ⟨ll,h'⟩:=aG h
  clear h
  have h:=h'
  clear h'
  rw[aQ] at ll
  subst ll
  obtain rfl:=aM h
  cases hm with
  | g9 hd=>rw[ab] at hd;cases hd
  | @cl _ _ b aL hd hb=>
   rw[ab] at hd
   cases hd
   have hr:=S.h.rel id _ ab
   cases hr with
   | @map _ Nj Nk _ b' clock E fB aB hh hs hI hx hn=>
    rw[hb] at aB;cases aB
    rw[hu] at fB;cases fB
    have aO:b<w.heap.size:=(gS.1 hh).1
    have fin: ∀(E':Array MapEntry) (zo:Nat),(Instr.mapUpdate t (.map (some b)) k v).run P w= .ok () {w with heap:=w.heap.setIfInBounds b (.map E' zo)}→E'.size=(il kx vx es).length→
      (∀(j:Nat) (e:MapEntry) (x:V),E'[j]? =some e→(il kx vx es)[j]? =some x→CB P kt vt e x)→E'.toList.Pairwise (fun a b=>a.key≠b.key)→
      o5 P ((Instr.mapUpdate t (.map (some b)) k v).run P w) w I β hp B M w0 ⟨.undef,[(id,.map t (il kx vx es))]⟩:=by
     intro E' zo cN HA cp HI
     have eJ:({w with heap:=w.heap.setIfInBounds b (.map E' zo)}:World).heap[b]? =some (.map E' zo):=by simp[aO]
     obtain ⟨a1,a2⟩:=CM S (w':={w with heap:=w.heap.setIfInBounds b (.map E' zo)}) (blk':= .map t (il kx vx es)) ab (by simp) rfl hb hI (by simp)
      (fun b' aB=>by simp[Array.getElem?_setIfInBounds,Ne.symm aB]) (by simp only[bsize,eJ,hh]) (by simp) ⟨rfl,rfl⟩ (fun _=> .map hu rfl eJ HA hI cp HI)
     exact ⟨_,I,β,cN,a1,a2,rfl⟩
    rcases Nb hs hx hn j6 vQ w with ⟨h1,U,_,_,h5⟩|⟨j,e,k',y,h1,hE,Nn,oa,Xe,Xf,_,_,_,_,h5⟩
    ·have e5:=h5 vx
     refine fin (E.push {key:=k,val:=v,born:=clock}) (clock+1) ?_ (by rw[e5];simp[hs]) (fun j e x he qh=> ?_) ?_
     ·unfold Instr.mapUpdate
      simp only[Sem.run_bind,run_underlying hu,Result.andThen_ok,Go.MapKept.run_getObj_map hh,K.check w false hl,h1,Go.MapKept.run_setObj_map _ hh]
     ·rw[e5] at qh
      rw[Array.getElem?_push] at he
      split at he
      ·rename_i hj
       rw[ik (by omega),hj,hs,Nat.sub_self] at qh
       simp at he qh
       subst he;subst qh
       exact ⟨kx,vx,rfl,j6,vQ,tz,vC⟩
      ·have hj:j<E.size:=(gS.1 he).1
       rw[ij (by omega)] at qh
       exact hx j e x he qh
     ·rw[Array.toList_push,List.pairwise_append]
      refine ⟨hn,by simp,fun a ha b' aB=> ?_⟩
      simp only[ef] at aB
      subst aB
      exact U a ha
    ·have e5:=h5 vx
     have hj:j<E.size:=(gS.1 hE).1
     refine fin (E.modify j fun e=>{e with key:=k,val:=v}) clock ?_ (by rw[e5];simp[hs]) (fun i e' x he ga=> ?_) ?_
     ·have bP:=K.stays w hl
      unfold Instr.mapUpdate
      simp only[Sem.run_bind,run_underlying hu,Result.andThen_ok,Go.MapKept.run_getObj_map hh,K.check w false hl,h1]
      simp only[hE,Option.map_some,Option.getD_some,Nn,bP,Result.andThen_ok,Go.MapKept.run_setObj_map _ hh]
     ·rw[e5] at ga
      rw[ym] at he
      rw[List.getElem?_set] at ga
      split at he
      ·rename_i tA
       subst tA
       rw[aj rfl,aj (by omega)] at ga
       rw[hE] at he
       simp at he ga
       subst he;subst ga
       exact ⟨k',vx,rfl,Xe,Xf,tz,vC⟩
      ·rename_i tA
       rw[ai tA] at ga
       exact hx i e' x he ga
     ·have tB: ∀i (h1:i<(E.modify j fun e=>{e with key:=k,val:=v}).toList.length) (U:i<E.toList.length),((E.modify j fun e=>{e with key:=k,val:=v}).toList[i]).key=(E.toList[i]).key:=by
       intro i h1 U
       simp only[Array.getElem_toList,Array.getElem_modify]
       split
       ·rename_i tA
        subst tA
        have:=(gS.1 hE).2
        rw[this,Nn]
       ·rfl
      rw[B4] at hn⊢
      intro i i' h1 U iD
      have g1:i<E.toList.length:=by simpa using h1
      have g2:i'<E.toList.length:=by simpa using U
      rw[tB i h1 g1,tB i' U g2]
      exact hn i i' g1 g2 iD
theorem Xg (S:aF P w I β hp B M w0) {t ty kt vt:TypeId} {v:Value} {x:V} {r:R} {rd:List Nat} (hu:P.underlying t=some (.map kt vt)) (hv:ao P w I β hp v x)
  (h:(Cp x).run C hp=some (r,rd)):cS P ((Builtin.len_ #[t] ty #[v]).run P w) w I β hp B M w0 r:=by
 unfold Cp at h
 cases x<;>simp only at h<;>first|(cases h;done)|skip
 ·rename_i t' id
  obtain ⟨l2,h'⟩:=run_get h
  clear h
  have h:=h'
  clear h'
  cases ab:hp id with
  | none=>rw[ab] at h;cases h
  | some blk=>
   rw[ab] at h
   cases blk<;>simp only at h<;>first|(cases h;done)|skip
   rename_i t2 es
   obtain rfl:=aM h
   cases hv with
   | g9 hd=>rw[ab] at hd;cases hd
   | @cl _ _ b aL hd hb=>
    rw[ab] at hd
    cases hd
    have hr:=S.h.rel id _ ab
    cases hr with
    | @map _ Nj Nk _ b' clock E fB aB hh hs hI hx hn=>
     rw[hb] at aB;cases aB
     refine .same S (v:= .int .i64 E.size) (by simp[Builtin.len_,run_underlying hu,Go.MapKept.run_getObj_map hh,goInt]) ?_
     rw[hs]
     exact .int
 ·obtain rfl:=aM h
  cases hv
  exact .same S (v:= .int .i64 0) (by simp[Builtin.len_,run_underlying hu,goInt]) .int
theorem ao.HJ {v:Value} {t:TypeId} (h:ao P w I β hp v (.dp t)):v= .map none:=by cases h;rfl
theorem ao.Xh {v:Value} {t t':TypeId} {id:Nat} {es:List V} (h:ao P w I β hp v (.cl t id)) (ab:hp id=some (.map t' es)): ∃b,v= .map (some b):=by
 cases h with
 | g9 h=>rw[ab] at h;cases h
 | cl h hb=>exact ⟨_,rfl⟩
theorem No (S:aF P w I β hp B M w0) {op:BinOp} {t:TypeId} {a:Option Nat} {r:R} {rd:List Nat} (x y:Operand)
  (h:(Cj P op t a.isNone).run C hp=some (r,rd)):cS P ((do eqGuard op t x y (.map a) (.map none);binOp op t (.map a) (.map none)).run P w) w I β hp B M w0 r:=by
 unfold Cj at h
 split at h
 case h_2=>cases h
 rename_i kt vt hu
 have he:(Op.equal t (.map a) (.map none)).run P w= .ok a.isNone w:=by
  show (Op.equalIn (9999+1) t (.map a) (.map none)).run P w=_
  rw[Op.equalIn]
  cases a<;>simp[Sem.run_bind,run_underlying hu,Result.andThen_ok,Sem.run_pure]
 cases op<;>simp only at h<;>first|(cases h;done)|skip
 ·obtain rfl:=aM h
  exact .same S (by simp[eqGuard,binOp,he]) .bool
 ·obtain rfl:=aM h
  exact .same S (by simp[eqGuard,binOp,he]) .bool
end
end Go.AM
namespace Go.AM
section
variable {P:Program} {w w':World} {I I':Nat→Prop} {β β':Nat→Option Nat} {hp hp':Nat→Option an} {C:ag} {B:Nat} {M:Nat→Prop} {w0:Start}
theorem Xi {e:TypeId} (he:P.underlying e=some (.int .u8)) (hc:P.cellsOf e=1) (s:ByteArray): ∀(i j:Nat) (x:V) (t':TypeId),(s.data.toList.map dq)[i]? =some x→(aR P e)[j]? =some t'→j<P.cellsOf e→
  ∃u,(Lib.strCells s)[i*P.cellsOf e+j]? =some u∧Pure P w I t' u (bK P e x j):=by
 intro i j x t' hx ht hj
 have mS:bI P e=false:=by simp[bI,he]
 obtain rfl:j=0:=by omega
 simp only[aR,mS,cond_false,List.getElem?_cons_zero,dL] at ht
 subst ht
 rw[gv] at hx
 cases hb:s.data.toList[i]? with
 | none=>rw[hb] at hx;cases hx
 | some b=>
  rw[hb] at hx
  cases hx
  refine ⟨.int .u8 b.toNat,?_,?_⟩
  ·rw[hc,mA,Nat.add_zero]
   simp only[Lib.strCells,gv,hb,Option.map_some]
  ·simp only[bK,mS,cond_false]
   exact .int he
theorem Xj (w:World) (t u ty e:TypeId) (i:TypeInfo) (z:Value) (ht:P.underlying t=some (.slice e)) (hu:P.underlying u=some .string) (hi:P.info? e=some i) (hz:i.zero=some z)
  (s:ByteArray) (h0:0<s.size) (Dd:(s.size:Int)≤9223372036854775807) (De:s.size*i.bytes≤281474976710656) (a0:Option Addr):
  (Builtin.append_ #[t,u] ty #[.slice a0 0 0,.string s]).run P w=
   .ok (.slice (some ⟨w.heap.size,0,none⟩) s.size (grownCap w s.size 0 e))
    (w.drew.alloc (.cells (s.data.map (fun b=>Value.int .u8 b.toNat)++Builtin.zeroCells z.cells (grownCap w s.size 0 e-s.size)) e)):=by
 cases a0 with
 | none=>exact run_append_nil_string w t u ty e i z ht hu hi hz s h0 Dd De
 | some b=>
  rw[←run_append_nil_string w t u ty e i z ht hu hi hz s h0 Dd De]
  have hn:s.size≠0:=by omega
  have Xk: ¬(9223372036854775807<(s.size:Int)):=by omega
  have Xl: ¬(281474976710656<Builtin.nextslicecap s.size 0*i.bytes):=by rw[nextslicecap_zero h0];omega
  simp[Builtin.append_,run_underlying ht,run_underlying hu,sizeOf,typeInfo,zeroValue,hi,hz,Builtin.lenOf,Builtin.firstCells,hn,Xk,Xl,Question.forced,newRow,grownCap,loadCells,loadCellsFrom]
theorem Np (S:aF P w I β hp B M w0) {t u ty e:TypeId} {nb:Nat} {x:ByteArray} {xs:List V} {i:TypeInfo} {z:Value} (hu:P.underlying t=some (.slice e)) (oc:P.underlying u=some .string) (au:cI P e=true) (hn:hp nb=none)
 (hi:P.info? e=some i) (hz:i.zero=some z) (h3:i.size=P.cellsOf e) (h4:z.cells.size=P.cellsOf e) (vR:i.size=1) (lS:P.bytesOf e=i.bytes) (dJ:xs.length*P.bytesOf e≤bS) (lW:xs.length=x.size) (lk:(Lib.strCells x).length=x.size)
 (cK: ∀(i j:Nat) (y:V) (t':TypeId),xs[i]? =some y→(aR P e)[j]? =some t'→j<P.cellsOf e→∃u,(Lib.strCells x)[i*P.cellsOf e+j]? =some u∧Pure P w I t' u (bK P e y j)):
 ∀a0,∃v w' β',(Builtin.append_ #[t,u] ty #[.slice a0 0 0,.string x]).run P w= .ok v w'∧Le P w I β hp w' I β' (aH hp nb (some (.arr e xs false)))∧aF P w' I β' (aH hp nb (some (.arr e xs false))) B M w0∧
  ao P w' I β' (aH hp nb (some (.arr e xs false))) v (.whole e nb):=by
 intro a0
 have tv:=vp au
 have hlen:xs.length≤2^45:=by
  have:xs.length*1≤xs.length*P.bytesOf e:=sM _ tv
  simp only[bS] at dJ
  omega
 by_cases h0:x.size=0
 ·have gf:xs=[]:=kT (by omega)
  subst gf
  obtain ⟨a1,a2⟩:=CK S e hn
  have hf:=Lib.run_firstCells_string (P:=P) w 1 x
  rw[h0] at hf
  have ql:Lib.strCells x=[]:=kT (by omega)
  exact ⟨.slice a0 0 0,_,_,by cases a0<;>simp[storeCells,ql,Builtin.append_,run_underlying hu,run_underlying oc,sizeOf,typeInfo,hi,vR,Builtin.lenOf,h0,hf],a1,a2,.dx (cM _ _ _) (cM _ _ _)⟩
 ·have cN:=Xj (P:=P) w t u ty e i z hu oc hi hz x (by omega) (by omega) (by rw[←lS,←lW];simp only[bS] at dJ;omega) a0
  have e1:(x.data.map fun b=>Value.int .u8 b.toNat)=(Lib.strCells x).toArray:=by
   apply Array.ext'
   simp[Lib.strCells]
  rw[e1,←lW] at cN
  have pb:=grownCap_ge w xs.length 0 e
  have tw:grownCap w xs.length 0 e≤maxLen:=grownCap_le_maxLen w xs.length 0 e (by simp only[maxLen];omega)
  obtain ⟨n1,n2,n3⟩:=vM S.drew (nb:=nb) (cap:=grownCap w xs.length 0 e) (es:=xs) (C0:=(Lib.strCells x).toArray++Builtin.zeroCells z.cells (grownCap w xs.length 0 e-xs.length)) au hn
   (by
    have:(Lib.strCells x).length=xs.length*P.cellsOf e:=by rw[lk,lW,←h3,vR,mA]
    simp only[B0,pO,size_zeroCells,h4,this,←df];congr 1;omega) pb tw
   (fun i' j y t' hy ht hj=>by
    obtain ⟨u,fB,hp⟩:=cK i' j y t' hy ht hj
    have aO:=(bu.1 fB).1
    refine ⟨u,?_,Pure.drew hp⟩
    rw[Array.getElem?_append_left (by simpa using aO)]
    simpa using fB)
  exact ⟨_,_,_,cN,(Le.drew w I β hp).trans n1,n2,n3⟩
theorem Xm (S:aF P w I β hp B M w0) {t u ty e:TypeId} {nb:Nat} {s:Value} {sv:V} {x:ByteArray} {r:R} {rd:List Nat} (hu:P.underlying t=some (.slice e)) (oc:P.underlying u=some .string) (he:P.underlying e=some (.int .u8)) (hs:ao P w I β hp s sv)
  (h:(ve P nb e sv (.list e (x.data.toList.map dq))).run C hp=some (r,rd)):cS P ((Builtin.append_ #[t,u] ty #[s,.string x]).run P w) w I β hp B M w0 r:=by
 unfold ve at h
 obtain ⟨au,h⟩:=aG h
 simp only[ru] at h
 obtain ⟨_,h⟩:=aG h
 have mS:bI P e=false:=by simp[bI,he]
 have dz:P.cellsOf e=1:=by rw[←(jX au).1,yW mS];rfl
 obtain ⟨i,z,hi,hz,h3,h4,_⟩:=j4 au
 have vR:i.size=1:=by rw[h3,dz]
 have tv:=vp au
 have lS:P.bytesOf e=i.bytes:=by simp[Program.bytesOf,hi]
 have Dk:=Xi (P:=P) (w:=w) (I:=I) he dz x
 have lW:(x.data.toList.map dq).length=x.size:=by simp
 have lk:(Lib.strCells x).length=x.size:=Lib.strCells_length x
 have h1:=Lib.strCells_oneCell x
 generalize gf:x.data.toList.map dq=xs at*
 cases sv with
 | nilS e'=>
  obtain ⟨hc,h⟩:=aG h
  simp only[aK,aQ,dm] at hc
  obtain ⟨hn,rfl⟩:=mP h
  obtain ⟨a0,rfl⟩: ∃a0,s= .slice a0 0 0:=by cases hs;exact ⟨_,rfl⟩
  obtain ⟨v,w',β',a1,a2,a3,a4⟩:=Np S hu oc au hn hi hz h3 h4 vR lS hc.2 lW lk Dk _
  exact ⟨v,w',I,β',a1,a2,a3,a4⟩
 | whole e' id=>
  obtain ⟨l,h⟩:=run_get h
  cases ab:hp id with
  | none=>rw[ab] at h;cases h
  | some blk=>
   rw[ab] at h
   cases blk with
   | dead=>cases h
   | var _=>cases h
   | nest _ _ _=>cases h
   | map _ _=>cases h
   | arr dv es fz=>
    cases fz with
    | true=>cases h
    | false=>
     obtain ⟨hc,h⟩:=aG h
     obtain ⟨hn,rfl⟩:=mP h
     simp only[aK,aQ,dm] at hc
     obtain ⟨Hq,Hr,dJ⟩:=hc
     subst Hq
     subst Hr
     have bA:nb≠id:=fun e=>by rw[e,ab] at hn;cases hn
     obtain ⟨k1,k2⟩:=CL S ab
     have j5:aH hp id (some an.dead) nb=none:=by rw[ec _ _ bA];exact hn
     cases hs with
     | dZ hd=>rw[ab] at hd;cases hd
     | ei hd=>rw[ab] at hd;cases hd
     | dx hd hb=>
      rw[ab] at hd
      cases hd
      simp only[List.length_nil,gu] at dJ
      obtain ⟨v,w',β',a1,a2,a3,a4⟩:=Np k2 hu oc au j5 hi hz h3 h4 vR lS dJ lW lk Dk _
      exact ⟨v,w',I,β',a1,k1.trans a2,a3,a4⟩
     | @whole _ _ aL mG b cap hd hb aT b7 hm=>
      rw[ab] at hd
      cases hd
      have hr:=S.h.rel id _ ab
      cases hr with
      | dy aB=>rw[aB] at hb;cases hb
      | @arr _ _ _ b' Ca _ aB hh pd hf eb lT=>
       rw[hb] at aB
       cases aB
       have hlen:es.length+xs.length≤2^45:=by
        have:(es.length+xs.length)*1≤(es.length+xs.length)*P.bytesOf e:=sM _ tv
        simp only[bS] at dJ
        omega
       rw[mK hh] at aT
       have qf: ∀aD blk',aH hp id (some an.dead) aD=some blk'→¬bw P w (β aD) blk' b:=by
        intro aD blk' h1 U
        by_cases iD:aD=id
        ·subst iD;rw[cM] at h1;cases h1;exact U.alive rfl
        ·rw[ec _ _ iD] at h1
         exact iD (S.h.inj aD id blk' _ b h1 ab U (.root (by simp) hb))
       have Hs:=S.h.rE id _ b ab (by simp) hb
       have ln:es.length*P.cellsOf e≤Ca.toList.length:=by simpa using pd
       have Nq:(Lib.strCells x).length=xs.length*P.cellsOf e:=by rw[lk,lW,dz,mA]
       by_cases rN:es.length+xs.length≤cap
       ·have zj:es.length*P.cellsOf e+(Lib.strCells x).length≤Ca.size:=by rw[Nq,←df,←aT];exact dt _ rN
        have cN:=Lib.run_append_room_string (P:=P) w t u ty e i hu oc hi vR b es.length cap Ca hh x (by rw[←lW];exact rN) (by rw[←lk];rw[dz,mA] at zj;exact zj)
        have cK:=Db (P:=P) (w:=w) (I:=I) (n:=es.length) (c:=Ca.toList) rfl (fun i j y t' a b c=>by
         obtain ⟨v,hv,hp⟩:=lT i j y t' a b c
         exact ⟨v,by simpa using hv,hp⟩) Dk ln (Ca.toList.drop (es.length*P.cellsOf e+(Lib.strCells x).length))
        generalize vI:(Ca.toList.take es.length++Lib.strCells x++Ca.toList.drop (es.length+x.size)).toArray=C' at cN
        have nZ:C'.size=Ca.size:=by
         rw[dz,mA] at zj
         rw[←vI];simp;omega
        have Nr:(w.setRow b C').heap[b]? =some (.cells C' e (0,0)):=setRow_heap w b Ca C' e _ hh
        obtain ⟨a1,a2⟩:=y4 k2 (blk:= .arr e (es++xs) false) (w':=w.setRow b C') j5 qf (eb rfl) (fun b' h _=>setRow_other w b b' _ h) (by simp) ⟨rfl,rfl⟩ Hs
         (fun b' h=>(c6 (h.flat (by simp))).symm) (fun hle=> .arr au rfl Nr (by rw[nZ,←aT];exact dt _ (by simpa using rN)) (fun h=>by cases h) (fun _=>eb rfl) fun i j y t' a b c=>by
          obtain ⟨v,hv,hp⟩:=cK i j y t' a b c
          refine ⟨v,?_,hp.mono hle.c9 hle.b8⟩
          rw[←vI,mz]
          rw[dz] at hv⊢
          simpa[lk] using hv)
        refine ⟨_,_,_,_,cN,k1.trans a1,a2,?_⟩
        have a3:=ao.whole (P:=P) (w:=w.setRow b C') (I:=I) (β:=aH β nb (some b)) (hp:=aH (aH hp id (some .dead)) nb (some (.arr e (es++xs) false))) (cap:=cap) (b:=b) (es:=es++xs) (fz:=false) (id:=nb) (e:=e) (cM _ _ _) (cM _ _ _) (by rw[mK Nr,nZ,aT]) (by simpa using rN) hm
        rw[bU,lW] at a3
        exact a3
       ·have hold: ∀(j:Nat) v,(Ca.toList.take (es.length*P.cellsOf e))[j]? =some v→w.cell? ((⟨b,0,none⟩:Addr).add j)=some v:=by
         intro j v hj
         have b9:=(bu.1 hj).1
         have fP:j<es.length*P.cellsOf e:=by rw[eO] at b9;omega
         rw[eN fP] at hj
         rw[mN,cell?_cells hh,gu]
         simpa using hj
        have cN:=Lib.run_append_grow_string (P:=P) w t u ty e i z hu oc hi hz ⟨b,0,none⟩ es.length cap (Ca.toList.take (es.length*P.cellsOf e)) (by rw[h3];simp;omega) hold x (by omega) (by omega)
         (growslice_fits (by omega) (by rw[←lS,←lW];simp only[bS] at dJ;omega))
        rw[←lW] at cN
        have pb:=grownCap_ge w (es.length+xs.length) cap e
        have tw:grownCap w (es.length+xs.length) cap e≤maxLen:=grownCap_le_maxLen w _ cap e (by simp only[maxLen];omega)
        have cK:=Db (P:=P) (w:=w) (I:=I) (n:=es.length) (c:=Ca.toList) rfl (fun i j y t' a b c=>by
         obtain ⟨v,hv,hp⟩:=lT i j y t' a b c
         exact ⟨v,by simpa using hv,hp⟩) Dk ln (Builtin.zeroCells z.cells (grownCap w (es.length+xs.length) cap e-(es.length+xs.length))).toList
        obtain ⟨n1,n2,n3⟩:=vM k2.drew (nb:=nb) (cap:=grownCap w (es.length+xs.length) cap e) (es:=es++xs)
         (C0:=(Ca.toList.take (es.length*P.cellsOf e)).toArray++(Lib.strCells x).toArray++Builtin.zeroCells z.cells (grownCap w (es.length+xs.length) cap e-(es.length+xs.length))) au j5
         (by
          have e1:(Ca.toList.take (es.length*P.cellsOf e)).length=es.length*P.cellsOf e:=by simp;omega
          simp only[B0,pO,size_zeroCells,h4,Nq,e1,←df];congr 1;omega) (by simpa using pb) tw
         (fun i j y t' a b c=>by
          obtain ⟨v,hv,hp⟩:=cK i j y t' a b c
          refine ⟨v,?_,Pure.drew hp⟩
          rw[←rh]
          simpa using hv)
        rw[bU] at n3
        exact ⟨_,_,_,_,cN,(k1.trans (Le.drew w I β _)).trans n1,n2,n3⟩
 | _=>cases h
end
section
variable {P:Program} {w w':World} {I I':Nat→Prop} {β β':Nat→Option Nat} {hp hp':Nat→Option an} {C:ag} {B:Nat} {M:Nat→Prop} {w0:Start}
theorem Ns: ∀(ns:List Int) (s:ByteArray),(ns.foldl (fun r n=>r.push (UInt8.ofNat n.toNat)) s).data.toList=s.data.toList++ns.map fun n=>UInt8.ofNat n.toNat
 | [],s=>by simp
 | n::ns,s=>by
  simp only[List.foldl_cons,Ns ns,cw]
  simp[ByteArray.push]
theorem HK {e:TypeId} {u:Value} {x:V} (he:P.underlying e=some (.int .u8)) (hp:Pure P w I e u x):u= .int .u8 x.toInt:=by
 cases hp with
 | int hp'=>rw[he] at hp';cases hp';rfl
 | bool hp'=>rw[he] at hp';cases hp'
 | str hp'=>rw[he] at hp';cases hp'
 | nil hp'=>rw[he] at hp';cases hp'
 | emp hp'=>rw[he] at hp';cases hp'
 | list _ hp'=>rw[he] at hp';cases hp'
theorem Xn (S:aF P w I β hp B M w0) {src dst e:TypeId} {v:Value} {x:V} {r:R} {rd:List Nat} (hs:P.underlying src=some (.slice e)) (he:P.underlying e=some (.int .u8)) (hd:P.underlying dst=some .string)
  (hv:ao P w I β hp v x) (h:(Rd.aC (cI P e) (ru e x fun es=> .ret ⟨.str (kz es),[]⟩)).run C hp=some (r,rd)):cS P ((convert src dst v).run P w) w I β hp B M w0 r:=by
 obtain ⟨au,h⟩:=aG h
 obtain ⟨xs,hx,l,h⟩:=C9 S.h.rel au hv h
 obtain rfl:=aM h
 have mS:bI P e=false:=by simp[bI,he]
 have h1:P.cellsOf e=1:=by rw[←(jX au).1,yW mS];rfl
 rcases hx with ⟨⟨a,rfl⟩,rfl⟩|⟨a,c,news,hr⟩
 ·refine .same S (v:= .string .empty) ?_ (.str (by simp[kz]))
  rw[run_convert_bytes_string w src dst e a 0 0 hs he hd]
  cases a<;>simp[Conv.bytesToString,loadCells,loadCellsFrom]
 ·have Dc:news=(xs.map V.toInt).map (Value.int .u8):=by
   apply List.ext_getElem?
   intro j
   by_cases hj:j<xs.length
   ·obtain ⟨u,hu,hp⟩:=hr.el j 0 xs[j] e (bM hj) (by simp[aR,mS]) (by omega)
    rw[h1] at hu
    simp only[bK,mS,cond_false] at hp
    have fB:news[j]? =some u:=by simpa using hu
    rw[fB]
    have:=HK he hp
    simp[hj,←this]
   ·have hl:news.length=xs.length:=by rw[hr.len,h1];simp
    rw[yh (by omega),yh (by simp;omega)]
  have HL:=run_loadCells_list (P:=P) w a news hr.cell
  have hl:news.length=xs.length:=by rw[hr.len,h1];simp
  rw[hl] at HL
  rw[Dc] at HL
  refine .same S (v:= .string ((xs.map V.toInt).foldl (fun r n=>r.push (UInt8.ofNat n.toNat)) ByteArray.empty)) ?_ (.str ?_)
  ·rw[hr.val,run_convert_bytes_string w src dst e _ _ _ hs he hd]
   exact run_bytesToString w a xs.length c (xs.map V.toInt) HL
  ·rw[Ns]
   simp[kz]
theorem ao.Dl {v:Value} (h:ao P w I β hp v .dh):v= .pointer none:=by cases h;rfl
section
variable (w:World)
theorem Xo (t e:TypeId) (a:Addr) (h:P.underlying t=some (.pointer e)):(binOp .eql t (.pointer (some a)) (.pointer none)).run P w= .ok (.bool false) w:=by
 have h0: ∀d:Nat,(Op.equalIn (d+1) t (.pointer (some a)) (.pointer none)).run P w= .ok false w:=fun d=>by simp[Op.equalIn,run_underlying h]
 simp only[binOp]
 simp[Op.equal,Op.maxDepth,h0 9999]
theorem Xp (t e:TypeId) (a:Addr) (h:P.underlying t=some (.pointer e)):(binOp .neq t (.pointer (some a)) (.pointer none)).run P w= .ok (.bool (!false)) w:=by
 have h0: ∀d:Nat,(Op.equalIn (d+1) t (.pointer (some a)) (.pointer none)).run P w= .ok false w:=fun d=>by simp[Op.equalIn,run_underlying h]
 simp only[binOp]
 simp[Op.equal,Op.maxDepth,h0 9999]
theorem Xq (t e:TypeId) (a:Addr) (h:P.underlying t=some (.pointer e)):(binOp .eql t (.pointer none) (.pointer (some a))).run P w= .ok (.bool false) w:=by
 have h0: ∀d:Nat,(Op.equalIn (d+1) t (.pointer none) (.pointer (some a))).run P w= .ok false w:=fun d=>by simp[Op.equalIn,run_underlying h]
 simp only[binOp]
 simp[Op.equal,Op.maxDepth,h0 9999]
theorem Xr (t e:TypeId) (a:Addr) (h:P.underlying t=some (.pointer e)):(binOp .neq t (.pointer none) (.pointer (some a))).run P w= .ok (.bool (!false)) w:=by
 have h0: ∀d:Nat,(Op.equalIn (d+1) t (.pointer none) (.pointer (some a))).run P w= .ok false w:=fun d=>by simp[Op.equalIn,run_underlying h]
 simp only[binOp]
 simp[Op.equal,Op.maxDepth,h0 9999]
theorem Xs (t e:TypeId) (h:P.underlying t=some (.pointer e)):(binOp .eql t (.pointer none) (.pointer none)).run P w= .ok (.bool true) w:=by
 have h0: ∀d:Nat,(Op.equalIn (d+1) t (.pointer none) (.pointer none)).run P w= .ok true w:=fun d=>by simp[Op.equalIn,run_underlying h]
 simp only[binOp]
 simp[Op.equal,Op.maxDepth,h0 9999]
theorem Xt (t e:TypeId) (h:P.underlying t=some (.pointer e)):(binOp .neq t (.pointer none) (.pointer none)).run P w= .ok (.bool (!true)) w:=by
 have h0: ∀d:Nat,(Op.equalIn (d+1) t (.pointer none) (.pointer none)).run P w= .ok true w:=fun d=>by simp[Op.equalIn,run_underlying h]
 simp only[binOp]
 simp[Op.equal,Op.maxDepth,h0 9999]
end
theorem Dm (S:aF P w I β hp B M w0) {op:BinOp} {t:TypeId} {b:Bool} {x y:Operand} {v1 v2:Value} {r:R} {rd:List Nat} (h:(ptrEq P op t b).run C hp=some (r,rd)) (hg:(eqGuard op t x y v1 v2).run P w= .ok () w)
  (he: ∀e j,P.underlying t=some (.pointer e)→P.info? e=some j→(binOp .eql t v1 v2).run P w= .ok (.bool b) w∧(binOp .neq t v1 v2).run P w= .ok (.bool (!b)) w):
  cS P ((do eqGuard op t x y v1 v2;binOp op t v1 v2:Sem Value).run P w) w I β hp B M w0 r:=by
 unfold ptrEq at h
 cases hu:P.underlying t with
 | none=>rw[hu] at h;cases h
 | some d=>
  rw[hu] at h
  cases d<;>simp only at h<;>first|(cases h;done)|skip
  rename_i e
  obtain ⟨h1,U⟩:=aG h
  obtain ⟨j,hj⟩:=yl.1 h1
  obtain ⟨k1,k2⟩:=he e j hu hj
  cases op<;>simp only at U<;>first|(cases U;done)|skip
  ·obtain rfl:=aM U
   exact .same S (by simp only[Sem.run_bind,hg,Result.andThen_ok,k1]) .bool
  ·obtain rfl:=aM U
   exact .same S (by simp only[Sem.run_bind,hg,Result.andThen_ok,k2]) .bool
theorem Xu {b n:Nat}:(∀b',b'≠b→(w.freeze ⟨b,0,none⟩ n).heap[b']? =w.heap[b']?)∧bsize (w.freeze ⟨b,0,none⟩ n) b=bsize w b∧w.heap.size≤(w.freeze ⟨b,0,none⟩ n).heap.size∧(w.freeze ⟨b,0,none⟩ n).os=w.os∧(w.freeze ⟨b,0,none⟩ n).output=w.output:=by
 unfold World.freeze
 split
 ·exact ⟨fun _ _=>rfl,rfl,bZ _,rfl,rfl⟩
 ·refine ⟨fun b' hb=> ?_,?_,by simp,rfl,rfl⟩
  ·simp only[ym]
   rw[ai (fun e=>hb e.symm)]
  ·simp only[bsize,ym,cF]
   cases w.heap[b]? with
   | none=>rfl
   | some o=>cases o<;>rfl
theorem Xv {e:TypeId} (hb:isByte P e=true):P.underlying e=some (.int .u8):=by
 unfold isByte at hb
 split at hb
 ·assumption
 ·cases hb
theorem Xw (S:aF P w I β hp B M w0) {ts:Array TypeId} {ty e:TypeId} {v:Value} {id:Nat} {es:List V} {fz:Bool} (hv:ao P w I β hp v (.whole e id)) (ab:hp id=some (.arr e es fz)) (h0:0<es.length):
  cS P ((Builtin.unsafeSliceData_ ts ty #[v]).run P w) w I β hp B M w0 ⟨.ptr id 0 0,[]⟩:=by
 cases hv with
 | dZ h=>rw[ab] at h;cases h
 | dx h _=>rw[ab] at h;cases h;simp at h0
 | ei h _ _ _ _=>rw[ab] at h;cases h
 | @whole _ _ aL mG b cap h hb b7 hle hm=>
  rw[ab] at h;cases h
  refine .same S (Lib.run_unsafeSliceData_row w ts ty ⟨b,0,none⟩ es.length cap (by omega)) ?_
  have:=ao.ptr (P:=P) (w:=w) (I:=I) (β:=β) (i:=0) (c:=0) ab (by simp) hb
  simpa using this
theorem Xx (S:aF P w I β hp B M w0) {t u ty e:TypeId} {vx:Value} {id:Nat} {n:Int} {es:List V} (hu:P.underlying t=some (.pointer e)) (hb:isByte P e=true) (hv:ao P w I β hp vx (.ptr id 0 0))
  (ab:hp id=some (.arr e es false)) (h0:0<n) (hn:n≤es.length) (hm:n.toNat≤rr) (lj:(es.take n.toNat).all vj=true):cS P ((Builtin.unsafeString_ #[t,u] ty #[vx,.int .i64 n]).run P w) w I β hp B M w0 ⟨.str (kz (es.take n.toNat)),[(id,.dead)]⟩:=by
 obtain ⟨b,HM,rfl⟩:=hv.gC ab (by simp)
 have he:P.underlying e=some (.int .u8):=by
  unfold isByte at hb
  split at hb
  ·assumption
  ·cases hb
 have mS:bI P e=false:=by simp[bI,he]
 have hr:=S.h.rel id _ ab
 rw[HM] at hr
 cases hr with
 | dy aB=>cases aB
 | @arr _ _ _ b1 Ca au ln hh hs hI cH cK=>
  cases ln
  have h1:P.cellsOf e=1:=by rw[←(jX au).1,yW mS];rfl
  have aO:=S.VB ab (by simp) HM
  have hl:(kz (es.take n.toNat)).length=n.toNat:=by simp[kz];omega
  have HI:n=((kz (es.take n.toNat)).length:Nat):=by rw[hl];omega
  have cN:=Lib.run_unsafeString_row (P:=P) w t u ty e hu h1 b Ca.size (by simp[World.shape?,hh]) (kz (es.take n.toNat)) (fun h=>by rw[h] at hl;simp at hl;omega) (by rw[hl];rw[h1] at hs;omega) (by rw[hl];unfold rr at hm;omega) (fun j x hx=>by
   have hj:j<n.toNat:=by
    have:=(bu.1 hx).1
    rw[hl] at this;exact this
   have hO:j<es.length:=by omega
   simp only[kz,gv,eN hj,bM hO,Option.map_some,dL] at hx
   obtain ⟨v,vN,bt⟩:=cK j 0 es[j] e (bM hO) (by simp[aR,mS]) (by omega)
   rw[h1] at vN
   simp only[bK,mS,cond_false] at bt
   have:=HK he bt
   have hr:=fe.1 lj es[j] (jh (by rw[eN hj];exact bM hO))
   simp only[vj,aK,dW] at hr
   have o6:(x.toNat:Int)=es[j].toInt:=by
    rw[←hx]
    have:es[j].toInt.toNat<256:=by omega
    simp only[UInt8.toNat_ofNat']
    omega
   rw[mN,cell?_cells hh,o6]
   rw[show 0+j=j*1+0 by omega,vN,this])
  obtain ⟨f1,f2,f3,f4,f5⟩:=Xu (w:=w) (b:=b) (n:=n.toNat)
  obtain ⟨k1,k2⟩:=CM (w':=w.freeze ⟨b,0,none⟩ n.toNat) S ab (by simp) (blk':= .dead) (by trivial) HM (cH rfl) (by simp) f1 f2 f3 ⟨f4,f5⟩ (fun _=> .dead)
  rw[←HI,hl] at cN
  refine ⟨.string ⟨(kz (es.take n.toNat)).toArray⟩,_,I,β,?_,k1,k2,.str ?_⟩
  ·simpa using cN
  ·rfl
def HN:Op→Bool
 | .call {callee:= .value (.func _),..}=>true
 | .call {callee:= .value (.tmp _),..}=>true
 | .defer _=>true
 | _=>false
theorem o0.val {o:Oper} {a:Act} {s:Sem Value} {r:R} (he:execOp a.eval o=(do Pure.pure (Next.value (←s)))) (h:cS P (s.run P w) w I β hp B M w0 r):o0 P ((execOp a.eval o).run P w) w I β hp B M w0 r:=by
 rw[he];exact h.op
theorem Xy {A:cy} (S:aF P w I β hp B M w0) (hg:fW P A.aE w I) {a:Act} {sl:Nat→V} (hs:kE P w I β hp a sl) {ix nb:Nat} {o:Oper} (HO:HN o.op=false) {r:R} {rd:List Nat}
  (h:(fh P A sl ix nb o).run C hp=some (r,rd)):o0 P ((execOp a.eval o).run P w) w I β hp B M w0 r:=by
 obtain ⟨dst,op,ty,pos,after,guard⟩:=o
 cases op<;>simp only[fh] at h<;>first|(cases h;done)|skip
 case move x=>
  obtain rfl:=aM h
  exact ⟨_,w,I,β,.inl (by simp[execOp]),Le.refl w I β hp,S,hs.ev hg ty x⟩
 case assign x=>
  obtain rfl:=aM h
  exact ⟨_,w,I,β,.inl (by simp[execOp]),Le.refl w I β hp,S,hs.ev hg ty x⟩
 case pick c x y=>
  have hc:=hs.ev hg ty c
  cases tt:aN P A.aE ty sl c<;>rw[tt] at h hc<;>simp only at h<;>first|(cases h;done)|skip
  rename_i t
  have Xz:=hc.jY
  have hx:=hs.ev hg ty x
  have hy:=hs.ev hg ty y
  have fin: ∀z:V,ao P w I β hp (if t then a.eval x else a.eval y) z→o0 P ((execOp a.eval ⟨dst,.pick c x y,ty,pos,after,guard⟩).run P w) w I β hp B M w0 ⟨z,[]⟩:=by
   intro z hz
   exact ⟨_,w,I,β,.inl (by simp[execOp,Xz,asBool]),Le.refl w I β hp,S,hz⟩
  cases Nt:gone (aN P A.aE ty sl x) with
  | true=>
   rw[Nt] at h
   obtain ⟨h1,h⟩:=aG h
   obtain rfl:=aM h
   have:t=false:=by simpa using h1
   subst this
   refine fin _ ?_
   simpa using hy
  | false=>
   rw[Nt] at h
   simp only[cond_false] at h
   cases Dn:gone (aN P A.aE ty sl y) with
   | true=>
    rw[Dn] at h
    obtain ⟨h1,h⟩:=aG h
    obtain rfl:=aM h
    subst h1
    refine fin _ ?_
    simpa using hx
   | false=>
    rw[Dn] at h
    obtain rfl:=aM h
    exact fin _ (Mj hx hy)
 case makeFunc fn x y=>
  cases fn<;>simp only[fh] at h<;>first|(cases h;done)|skip
  rename_i f
  obtain rfl:=aM h
  refine ⟨.func (.func f) (x.map a.eval) (y.map a.eval),w,I,β,.inl (by simp[execOp,Instr.makeFunc]),Le.refl w I β hp,S,.fn (by simp) (fun j v z hj hz=> ?_) (by simp) (fun j v z hj hz=> ?_)⟩
  ·rw[Array.getElem?_map] at hj
   rw[gv,rh] at hz
   cases hx:x[j]? with
   | none=>rw[hx] at hj;cases hj
   | some o1=>
    rw[hx] at hj hz
    cases hj
    cases hz
    exact hs.ev hg ty o1
  ·rw[Array.getElem?_map] at hj
   rw[gv,rh] at hz
   cases hx:y[j]? with
   | none=>rw[hx] at hj;cases hj
   | some o1=>
    rw[hx] at hj hz
    cases hj
    cases hz
    exact hs.ev hg ty o1
 case defer c=>cases HO
 case makeMap t res=>
  cases res with
  | some x=>cases h
  | none=>exact .val rfl (Xd S h)
 case lookup t m k ok=>
  cases ht:k0 P t with
  | none=>rw[ht] at h;cases h
  | some q=>
   obtain ⟨kt,vt⟩:=q
   rw[ht] at h
   exact .val (s:=Instr.lookup t (a.eval m) (a.eval k) ok) rfl (Xc S ht (hs.ev hg t m) (hs.ev hg kt k) h)
 case mapUpdate t m k x=>
  cases ht:k0 P t with
  | none=>rw[ht] at h;cases h
  | some q=>
   obtain ⟨kt,vt⟩:=q
   rw[ht] at h
   have:=Nl S ht (hs.ev hg t m) (hs.ev hg kt k) (hs.ev hg vt x) h
   exact this.op
 case insert t m k x=>
  cases ht:k0 P t with
  | none=>rw[ht] at h;cases h
  | some q=>
   obtain ⟨kt,vt⟩:=q
   rw[ht] at h
   have:=Nl S ht (hs.ev hg t m) (hs.ev hg kt k) (hs.ev hg vt x) h
   exact this.op
 case alloc e=>
  exact .val rfl (Wj S h)
 case box e x=>
  exact .val rfl (Wk S (hs.ev hg e x) h)
 case build t ps=>exact .val rfl (Wm S hs hg h)
 case buildSlice t len ps=>
  cases hu:P.underlying t with
  | none=>rw[hu] at h;cases h
  | some d=>
   rw[hu] at h
   cases d<;>simp only at h<;>first|(cases h;done)|skip
   exact .val rfl (Wu S hs hg hu h)
 case load t x=>exact .val rfl (VR S (hs.ev hg ty x) h)
 case store t x y=>
  have:=We S (hs.ev hg ty x) (hs.ev hg t y) h
  exact this.op
 case nilCheck x=>
  have hx:=hs.ev hg ty x
  cases eZ:aN P A.aE ty sl x<;>rw[eZ] at h hx<;>simp only at h<;>first|(cases h;done)|skip
  ·obtain ⟨⟨blk,ab,hd⟩,l,h⟩:=vy h
   obtain rfl:=aM h
   have cp:=hx
   obtain ⟨b,hb,he⟩:=hx.gC ab hd
   rw[he] at cp
   exact ⟨_,w,I,β,.inl (by simp only[execOp,he];rfl),Le.refl w I β hp,S,cp⟩
  ·obtain rfl:=aM h
   have cp:=hx
   obtain ⟨b,o,he,_⟩:=hx.CP
   rw[he] at cp
   exact ⟨_,w,I,β,.inl (by simp only[execOp,he];rfl),Le.refl w I β hp,S,cp⟩
  ·obtain ⟨e0,es,ar,l,ab,h1,U,h3,h⟩:=nT h
   obtain rfl:=aM h
   have cp:=hx
   obtain ⟨b,o,he,_⟩:=hx.Mh ab h1 U h3
   rw[he] at cp
   exact ⟨_,w,I,β,.inl (by simp only[execOp,he];rfl),Le.refl w I β hp,S,cp⟩
 case binOp op t x y yt=>
  have hx:=hs.ev hg t x
  have hy:=hs.ev hg t y
  refine .val (s:=do eqGuard op t x y (a.eval x) (a.eval y);binOp op t (a.eval x) (a.eval y)) rfl ?_
  cases eZ:aN P A.aE t sl x<;>cases rO:aN P A.aE t sl y<;>rw[eZ,rO] at h<;>rw[eZ] at hx<;>rw[rO] at hy<;>first|(simp only[jR] at h;cases h;done)|skip
  ·rw[hx.dI,hy.dI]
   have:=VH S h
   simpa[VE] using this
  ·rw[hx.jY,hy.jY]
   have:=VJ S h
   simpa[VF] using this
  ·obtain ⟨s1,e1,l1⟩:=hx.lP
   obtain ⟨s2,e2,l2⟩:=hy.lP
   rw[e1,e2]
   rw[←l1,←l2] at h
   have:=VK (t:=t) S h
   simpa[VG] using this
  ·obtain ⟨cs,e1,h1,U⟩:=hx.kG
   obtain ⟨ds,e2,h3,h4⟩:=hy.kG
   rw[e1,e2]
   exact VL S h1 h3 U h4 h
  ·
   simp only[jR] at h
   obtain ⟨h1,U⟩:=aG h
   clear h
   simp only[aK,aQ] at h1
   obtain ⟨rfl,rfl,rfl⟩:=h1
   obtain ⟨⟨blk,ab,hd⟩,l,h⟩:=vy U
   obtain ⟨b,hb,e1⟩:=hx.gC ab hd
   obtain ⟨b',aB,e2⟩:=hy.gC ab hd
   rw[hb] at aB;cases aB
   rw[e1,e2]
   exact Dm S h (by cases op<;>simp[eqGuard]) fun e j he hj=>⟨run_eql_ptr_same w _ he hj,Lib.run_neq_ptr_same w _ he hj⟩
  ·simp only[jR] at h
   obtain ⟨⟨blk,ab,hd⟩,l,h⟩:=vy h
   obtain ⟨b,_,e1⟩:=hx.gC ab hd
   rw[e1,hy.Dl]
   exact Dm S h (by cases op<;>simp[eqGuard]) fun e j he hj=>⟨Xo w t e _ he,Xp w t e _ he⟩
  ·simp only[jR] at h
   obtain ⟨⟨blk,ab,hd⟩,l,h⟩:=vy h
   obtain ⟨b,_,e1⟩:=hy.gC ab hd
   rw[e1,hx.Dl]
   exact Dm S h (by cases op<;>simp[eqGuard]) fun e j he hj=>⟨Xq w t e _ he,Xr w t e _ he⟩
  ·simp only[jR] at h
   rw[hx.Dl,hy.Dl]
   exact Dm S h (by cases op<;>simp[eqGuard]) fun e j he hj=>⟨Xs w t e he,Xt w t e he⟩
  ·
   simp only[jR] at h
   obtain ⟨l,h⟩:=run_get h
   split at h
   ·rename_i t2 es ab
    obtain ⟨b,hb⟩:=hx.Xh ab
    rw[hy.HJ,hb]
    exact No (a:=some b) S x y h
   ·cases h
  ·simp only[jR] at h
   rw[hx.HJ,hy.HJ]
   exact No (a:=none) S x y h
 case unOp op t x=>exact .val rfl (VM S (hs.ev hg ty x) h)
 case convert src dst x=>
  have hx:=hs.ev hg ty x
  refine .val (s:=convert src dst (a.eval x)) rfl ?_
  cases iy:P.underlying src with
  | none=>rw[iy] at h;cases h
  | some d1=>
   cases mT:P.underlying dst with
   | none=>rw[iy,mT] at h;cases d1<;>cases h
   | some d2=>
    rw[iy,mT] at h
    have gT: ∀{b:Nat} {T:TypeId} {cs:List V} {id:Nat},hp id=some (.var T cs)→β id=some b→w.shape? b=some (T,cs.length):=by
     intro b T cs id ab hb
     have hr:=S.h.rel id _ ab
     rw[hb] at hr
     cases hr with
     | var aB hh aT _ _ _=>cases aB;simp[World.shape?,hh,aT]
    cases d1<;>(try (cases d2<;>cases h;done))
    ·cases d2<;>(try (cases h;done))
     rename_i k1 k2
     cases eZ:aN P A.aE ty sl x<;>rw[eZ] at h hx<;>simp only at h<;>first|(cases h;done)|skip
     obtain rfl:=aM h
     rw[hx.dI]
     exact .same S (by simp[convert,run_underlying iy,run_underlying mT,Conv.intToInt]) .int
    ·cases d2<;>(try (cases h;done))
     rename_i u
     cases eZ:aN P A.aE ty sl x<;>rw[eZ] at h hx<;>simp only at h<;>first|(cases h;done)|skip
     rename_i id i c
     obtain ⟨l,h1⟩:=run_get h
     cases ab:hp id with
     | none=>rw[ab] at h1;cases h1
     | some blk=>
      rw[ab] at h1
      cases blk<;>simp only at h1<;>first|(cases h1;done)|skip
      rename_i T cs
      obtain ⟨U,h3⟩:=aG h1
      simp only[aK,aQ] at U
      obtain ⟨rfl,h4,h5⟩:=U
      obtain ⟨b,hb,e1⟩:=hx.gC ab (by simp)
      obtain rfl:=aM h3
      obtain ⟨j,hj⟩:=yl.1 h4
      have cp:=hx
      rw[e1] at cp⊢
      exact .same S (Lib.run_from_unsafe w _ iy mT hj (gT ab hb) (by simpa using h5)) cp
    ·cases d2<;>(try (cases h;done))
     rename_i t
     cases eZ:aN P A.aE ty sl x<;>rw[eZ] at h hx<;>simp only at h<;>first|(cases h;done)|skip
     rename_i id i c
     obtain ⟨l,h1⟩:=run_get h
     cases ab:hp id with
     | none=>rw[ab] at h1;cases h1
     | some blk=>
      rw[ab] at h1
      cases blk<;>simp only at h1<;>first|(cases h1;done)|skip
      rename_i T cs
      obtain ⟨U,h3⟩:=aG h1
      simp only[aK,aQ,jM] at U
      obtain ⟨rfl,h4,h5⟩:=U
      obtain ⟨b,hb,e1⟩:=hx.gC ab (by simp)
      obtain rfl:=aM h3
      cases hj:P.info? t with
      | none=>rw[hj] at h5;cases h5
      | some j=>
       rw[hj] at h5
       simp only[my] at h5
       have h6:j.size≠0:=fun e=>by rw[e] at h5;cases h5
       have cp:=hx
       rw[e1] at cp⊢
       exact .same S (Lib.run_to_unsafe w _ iy mT hj h6 (gT ab hb) (by simpa using h4)) cp
    ·rename_i e
     cases d2<;>(try (cases h;done))
     simp only at h
     cases he:P.underlying e with
     | none=>rw[he] at h;cases h
     | some d3=>
      rw[he] at h
      cases d3<;>(try (cases h;done))
      rename_i k
      cases k<;>(try (cases h;done))
      exact Xn S iy he mT hx h
 case fieldAddr s x f=>exact .val rfl (VN S (hs.ev hg ty x) h)
 case field s x f=>exact .val rfl (WO S (hs.ev hg ty x) h)
 case indexAddr t x y=>exact .val rfl (WZ S (hs.ev hg ty x) (hs.ev hg 0 y) h)
 case index t x y=>
  have hx:=hs.ev hg ty x
  have hy:=hs.ev hg 0 y
  refine .val (s:=Instr.index t (a.eval x) (a.eval y)) rfl ?_
  cases hu:P.underlying t with
  | none=>rw[hu] at h;cases h
  | some d=>
   rw[hu] at h
   cases d<;>(try (cases h;done))
   cases eZ:aN P A.aE ty sl x<;>rw[eZ] at h hx<;>(try (cases h;done))
   cases rO:aN P A.aE 0 sl y<;>rw[rO] at h hy<;>(try (cases h;done))
   obtain ⟨s,e1,l1⟩:=hx.lP
   rw[e1,hy.dI]
   exact WR S hu l1 h
 case slice t x lo hi mx=>
  cases mx with
  | some m=>
   simp only at h
   refine .val (s:=Instr.sliceAt t (a.eval x) (lo.map a.eval) (hi.map a.eval) (some (a.eval m))) (by simp[execOp]) (WX S (hs.ev hg ty x) (fun hy=> ?_) (fun y hy=> ?_) (fun y hy=> ?_) h)
   ·cases lo with
    | none=>rfl
    | some l=>cases hy
   ·cases hi with
    | none=>cases hy
    | some l=>cases hy;exact ⟨_,rfl,hs.ev hg 0 l⟩
   ·cases hy;exact ⟨_,rfl,hs.ev hg 0 m⟩
  | none=>
   simp only at h
   have plain:(Cq P t (aN P A.aE ty sl x) (lo.map (aN P A.aE 0 sl)) (hi.map (aN P A.aE 0 sl))).run C hp=some (r,rd)→o0 P ((execOp a.eval ⟨dst,.slice t x lo hi none,ty,pos,after,guard⟩).run P w) w I β hp B M w0 r:=by
    intro h
    refine .val (s:=Instr.sliceAt t (a.eval x) (lo.map a.eval) (hi.map a.eval) none) (by simp[execOp]) (WW S (hs.ev hg ty x) (fun y hy=> ?_) (fun y hy=> ?_) (fun hy=> ?_) (fun hy=> ?_) h)
    ·cases lo with
     | none=>cases hy
     | some l=>cases hy;exact ⟨_,rfl,hs.ev hg 0 l⟩
    ·cases hi with
     | none=>cases hy
     | some l=>cases hy;exact ⟨_,rfl,hs.ev hg 0 l⟩
    ·cases lo with
     | none=>rfl
     | some l=>cases hy
    ·cases hi with
     | none=>rfl
     | some l=>cases hy
   have tr:(Cr P nb t (aN P A.aE ty sl x) (lo.map (aN P A.aE 0 sl)) (hi.map (aN P A.aE 0 sl))).run C hp=some (r,rd)→o0 P ((execOp a.eval ⟨dst,.slice t x lo hi none,ty,pos,after,guard⟩).run P w) w I β hp B M w0 r:=by
    intro h
    refine .val (s:=Instr.sliceAt t (a.eval x) (lo.map a.eval) (hi.map a.eval) none) (by simp[execOp]) (W3 S (hs.ev hg ty x) (fun y hy=> ?_) (fun hy=> ?_) h)
    ·cases hi with
     | none=>cases hy
     | some l=>cases hy;exact ⟨_,rfl,hs.ev hg 0 l⟩
    ·cases lo with
     | none=>rfl
     | some l=>cases hy
   cases dst with
   | none=>exact plain h
   | some d=>
    simp only at h
    cases Nu:jP A.va d with
    | true=>rw[Nu] at h;exact tr h
    | false=>rw[Nu] at h;exact plain h
 case extract x i=>
  have hx:=hs.ev hg ty x
  cases eZ:aN P A.aE ty sl x<;>rw[eZ] at h hx<;>simp only at h<;>first|(cases h;done)|skip
  exact .val (s:=Instr.extract (a.eval x) i) rfl (WQ S hx h)
 case makeSlice t l c=>
  have hl:=hs.ev hg 0 l
  have hc:=hs.ev hg 0 c
  refine .val (s:=Instr.makeSlice t (a.eval l) (a.eval c)) rfl ?_
  cases hu:P.underlying t with
  | none=>rw[hu] at h;cases h
  | some d=>
   rw[hu] at h
   cases d<;>(try (cases h;done))
   cases HP:aN P A.aE 0 sl l<;>rw[HP] at h hl<;>(try (cases h;done))
   cases tt:aN P A.aE 0 sl c<;>rw[tt] at h hc<;>(try (cases h;done))
   rw[hl.dI,hc.dI]
   cases dst with
   | none=>exact MT S hu h
   | some d=>
    simp only at h
    cases hg:jP A.va d with
    | true=>rw[hg] at h;exact Ww S hu h
    | false=>rw[hg] at h;exact MT S hu h
 case call c=>
  obtain ⟨callee,args,argTypes⟩:=c
  cases callee with
  | invoke r m=>cases h
  | value f=>
   cases f with
   | func f=>cases HO
   | tmp f=>cases HO
   | _=>cases h
  | builtin b=>
   have one: ∀{x:Operand},args.toList=[x]→args= #[x]:=fun h=>by rw[←Array.toArray_toList (xs:=args),h]
   have qu: ∀(s:Array TypeId→TypeId→Array Value→Sem Value),builtin b argTypes ty (args.map fun| .const _=>true|_=>false) (args.map a.eval)=(do Pure.pure (Next.value (←s argTypes ty (args.map a.eval))))→
     execOp a.eval ⟨dst,.call ⟨.builtin b,args,argTypes⟩,ty,pos,after,guard⟩=(do Pure.pure (Next.value (←s argTypes ty (args.map a.eval)))):=by
    intro s hb
    simp only[execOp,resolve,pure_bind,invoke]
    exact hb
   cases b<;>(try (cases h;done))
   case append=>
    simp only at h
    cases ha:args.toList with
    | nil=>rw[ha] at h;cases h
    | cons x l=>
     cases l with
     | nil=>rw[ha] at h;cases h
     | cons y l2=>
      cases l2 with
      | cons _ _=>rw[ha] at h;cases h
      | nil=>
       cases da:argTypes.toList with
       | nil=>rw[ha,da] at h;cases h
       | cons t l3=>
        cases l3 with
        | nil=>rw[ha,da] at h;cases h
        | cons u l4=>
         cases l4 with
         | cons _ _=>rw[ha,da] at h;cases h
         | nil=>
          rw[ha,da] at h
          simp only at h
          have e1:args= #[x,y]:=by rw[←Array.toArray_toList (xs:=args),ha]
          have e2:argTypes= #[t,u]:=by rw[←Array.toArray_toList (xs:=argTypes),da]
          cases hu:P.underlying t with
          | none=>rw[hu] at h;cases h
          | some d=>
           rw[hu] at h
           cases d<;>(try (cases h;done))
           cases hc:Nat.beq t u with
           | true=>
            rw[hc] at h
            rw[aQ] at hc
            subst hc
            have:=Wz (ty:=ty) S hu (hs.ev hg t x) (hs.ev hg t y) h
            refine .val (qu Builtin.append_ rfl) ?_
            rw[e1,e2]
            simpa using this
           | false=>
            rw[hc] at h
            simp only[cond_false] at h
            have hy:=hs.ev hg u y
            cases oc:P.underlying u with
            | none=>rw[oc] at h;cases h
            | some du=>
             rw[oc] at h
             cases du<;>(try (cases h;done))
             cases rO:aN P A.aE u sl y<;>rw[rO] at h hy<;>(try (cases h;done))
             simp only at h
             obtain ⟨hb,h⟩:=aG h
             obtain ⟨s1,q1,q2⟩:=hy.lP
             subst q2
             have:=Xm (ty:=ty) S hu oc (Xv hb) (hs.ev hg t x) h
             refine .val (qu Builtin.append_ rfl) ?_
             rw[e1,e2]
             simpa[q1] using this
   case len=>
    simp only at h
    cases ha:args.toList with
    | nil=>rw[ha] at h;cases h
    | cons x l=>
     cases l with
     | cons _ _=>rw[ha] at h;cases h
     | nil=>
      cases da:argTypes.toList with
      | nil=>rw[ha,da] at h;cases h
      | cons t l3=>
       cases l3 with
       | cons _ _=>rw[ha,da] at h;cases h
       | nil=>
        rw[ha,da] at h
        simp only at h
        have e1:args= #[x]:=by rw[←Array.toArray_toList (xs:=args),ha]
        have e2:argTypes= #[t]:=by rw[←Array.toArray_toList (xs:=argTypes),da]
        have hx:=hs.ev hg ty x
        refine .val (qu Builtin.len_ rfl) ?_
        rw[e1,e2]
        cases hu:P.underlying t with
        | none=>rw[hu] at h;cases h
        | some d=>
         rw[hu] at h
         cases d<;>(try (cases h;done))
         ·cases eZ:aN P A.aE ty sl x<;>rw[eZ] at h hx<;>(try (cases h;done))
          have:=Mk (t:=t) (ty:=ty) S hx (fun l hl=>hu) (fun hn=>absurd rfl (hn _)) h
          simpa using this
         ·have U:(∀l,aN P A.aE ty sl x≠ .str l)∧(Cl P (aN P A.aE ty sl x)).run C hp=some (r,rd):=by
           cases eZ:aN P A.aE ty sl x<;>rw[eZ] at h<;>first|(cases h;done)|exact ⟨fun l=>by simp,h⟩
          have:=Mk (t:=t) (ty:=ty) S hx (fun l hl=>absurd hl (U.1 l)) (fun _=>⟨_,hu⟩) U.2
          simpa using this
         ·have U:(Cp (aN P A.aE ty sl x)).run C hp=some (r,rd):=by
           cases eZ:aN P A.aE ty sl x<;>rw[eZ] at h<;>exact h
          have:=Xg (t:=t) (ty:=ty) S hu hx U
          simpa using this
   case unsafeSliceData=>
    simp only at h
    cases ha:args.toList with
    | nil=>rw[ha] at h;cases h
    | cons x l=>
     cases l with
     | cons _ _=>rw[ha] at h;cases h
     | nil=>
      rw[ha] at h
      simp only at h
      have e1:args= #[x]:=by rw[←Array.toArray_toList (xs:=args),ha]
      have hx:=hs.ev hg ty x
      refine .val (qu Builtin.unsafeSliceData_ rfl) ?_
      rw[e1]
      cases eZ:aN P A.aE ty sl x<;>rw[eZ] at h hx<;>simp only at h<;>first|(cases h;done)|skip
      rename_i e id
      obtain ⟨l2,h1⟩:=run_get h
      cases ab:hp id with
      | none=>rw[ab] at h1;cases h1
      | some blk=>
       rw[ab] at h1
       cases blk<;>simp only at h1<;>first|(cases h1;done)|skip
       rename_i e' es fz
       obtain ⟨U,h3⟩:=aG h1
       simp only[aK,aQ,jM] at U
       obtain ⟨rfl,h4⟩:=U
       obtain rfl:=aM h3
       have:=Xw (ts:=argTypes) (ty:=ty) S hx ab h4
       simpa using this
   case unsafeString=>
    simp only at h
    cases ha:args.toList with
    | nil=>rw[ha] at h;cases h
    | cons x l=>
     cases l with
     | nil=>rw[ha] at h;cases h
     | cons y l2=>
      cases l2 with
      | cons _ _=>rw[ha] at h;cases h
      | nil=>
       cases da:argTypes.toList with
       | nil=>rw[ha,da] at h;cases h
       | cons t l3=>
        cases l3 with
        | nil=>rw[ha,da] at h;cases h
        | cons u l4=>
         cases l4 with
         | cons _ _=>rw[ha,da] at h;cases h
         | nil=>
          rw[ha,da] at h
          simp only at h
          have e1:args= #[x,y]:=by rw[←Array.toArray_toList (xs:=args),ha]
          have e2:argTypes= #[t,u]:=by rw[←Array.toArray_toList (xs:=argTypes),da]
          have hx:=hs.ev hg ty x
          have hy:=hs.ev hg ty y
          cases hu:P.underlying t with
          | none=>rw[hu] at h;cases h
          | some d=>
           rw[hu] at h
           cases d<;>(try (cases h;done))
           rename_i e
           cases eZ:aN P A.aE ty sl x<;>rw[eZ] at h hx<;>(try (cases h;done))
           cases rO:aN P A.aE ty sl y<;>rw[rO] at h hy<;>(try (cases h;done))
           rename_i id i c k n
           cases k<;>(try (cases h;done))
           simp only at h
           obtain ⟨l2,h1⟩:=run_get h
           cases ab:hp id with
           | none=>rw[ab] at h1;cases h1
           | some blk=>
            rw[ab] at h1
            cases blk<;>simp only at h1<;>first|(cases h1;done)|skip
            rename_i e' es fz
            cases fz<;>simp only at h1<;>first|(cases h1;done)|skip
            obtain ⟨U,h3⟩:=aG h1
            simp only[aK,aQ,dm,dW] at U
            obtain ⟨rfl,h4,rfl,rfl,h5,h6,h7,h8⟩:=U
            obtain rfl:=aM h3
            have:=Xx (u:=u) (ty:=ty) S hu h4 hx ab h5 h6 h7 h8
            refine .val (qu Builtin.unsafeString_ rfl) ?_
            rw[e1,e2]
            simpa[hy.dI] using this
   case copy=>
    simp only at h
    cases ha:args.toList with
    | nil=>rw[ha] at h;cases h
    | cons x l=>
     cases l with
     | nil=>rw[ha] at h;cases h
     | cons y l2=>
      cases l2 with
      | cons _ _=>rw[ha] at h;cases h
      | nil=>
       cases da:argTypes.toList with
       | nil=>rw[ha,da] at h;cases h
       | cons t l3=>
        cases l3 with
        | nil=>rw[ha,da] at h;cases h
        | cons u l4=>
         cases l4 with
         | cons _ _=>rw[ha,da] at h;cases h
         | nil=>
          rw[ha,da] at h
          simp only at h
          have e1:args= #[x,y]:=by rw[←Array.toArray_toList (xs:=args),ha]
          have e2:argTypes= #[t,u]:=by rw[←Array.toArray_toList (xs:=argTypes),da]
          cases hu:P.underlying t with
          | none=>rw[hu] at h;cases h
          | some d=>
           rw[hu] at h
           cases d<;>(try (cases h;done))
           have:=WH (u:=u) (ty:=ty) S hu (hs.ev hg t x) (hs.ev hg u y) h
           refine .val (qu Builtin.copy_ rfl) ?_
           rw[e1,e2]
           simpa using this
   case clear=>
    simp only at h
    cases ha:args.toList with
    | nil=>rw[ha] at h;cases h
    | cons x l=>
     cases l with
     | cons _ _=>rw[ha] at h;cases h
     | nil=>
      cases da:argTypes.toList with
      | nil=>rw[ha,da] at h;cases h
      | cons t l3=>
       cases l3 with
       | cons _ _=>rw[ha,da] at h;cases h
       | nil=>
        rw[ha,da] at h
        simp only at h
        have e1:args= #[x]:=by rw[←Array.toArray_toList (xs:=args),ha]
        have e2:argTypes= #[t]:=by rw[←Array.toArray_toList (xs:=argTypes),da]
        cases hu:P.underlying t with
        | none=>rw[hu] at h;cases h
        | some d=>
         rw[hu] at h
         cases d<;>(try (cases h;done))
         have:=WI (ty:=ty) S hu (hs.ev hg t x) h
         refine .val (qu Builtin.clear_ rfl) ?_
         rw[e1,e2]
         simpa using this
   case max=>
    simp only at h
    cases ha:args.toList with
    | nil=>rw[ha] at h;cases h
    | cons x l=>
     rw[ha] at h
     simp only at h
     have:=Hv S true (vs:=l.map a.eval) (xs:=l.map (aN P A.aE ty sl)) (hs.ev hg ty x) (by simp) (fun j u y hu hy=>by
      simp only[gv] at hu hy
      cases hl:l[j]? with
      | none=>rw[hl] at hu;cases hu
      | some z=>rw[hl] at hu hy;cases hu;cases hy;exact hs.ev hg ty z) h
     refine .val (qu Builtin.max_ rfl) ?_
     simpa[Builtin.max_,ha] using this
   case min=>
    simp only at h
    cases ha:args.toList with
    | nil=>rw[ha] at h;cases h
    | cons x l=>
     rw[ha] at h
     simp only at h
     have:=Hv S false (vs:=l.map a.eval) (xs:=l.map (aN P A.aE ty sl)) (hs.ev hg ty x) (by simp) (fun j u y hu hy=>by
      simp only[gv] at hu hy
      cases hl:l[j]? with
      | none=>rw[hl] at hu;cases hu
      | some z=>rw[hl] at hu hy;cases hu;cases hy;exact hs.ev hg ty z) h
     refine .val (qu Builtin.min_ rfl) ?_
     simpa[Builtin.min_,ha] using this
end
section
variable {P:Program} {A:cy} {w w':World} {I I' I2:Nat→Prop} {μ β β':Nat→Option Nat} {hp hp':Nat→Option an} {C:ag} {B:Nat} {M:Nat→Prop} {w0:Start}
theorem vS: ∀{l m:List Nat},eg.nO l m=true→l=m
 | [],[],_=>rfl
 | [],_::_,h=>by cases h
 | _::_,[],h=>by cases h
 | a::l,b::m,h=>by
  simp only[eg.nO,aK,aQ] at h
  rw[h.1,vS h.2]
@[simp] theorem Nw (n:Nat):kA (dX n)=n:=by simp[kA,dX,V.toInt]
theorem Dp: ∀(path:List (Nat × Nat)) (rest:List V),yG (path.map (·.2)) ((path.map fun p=>dX p.1)++rest)=path
 | [],_=>rfl
 | p::l,rest=>by
  simp only[cw,List.cons_append,yG,V.nth,Nw,ky,iO,Dp l rest]
theorem Dq {l:LS} {x:V} {ds:List V} (h:eg l x=some ds):ds.length=l.size∧(l= .pU∨∀rest,im l (ds++rest)=x):=by
 cases l with
 | pU=>simp only[eg,dL] at h;subst h;exact ⟨rfl,.inl rfl⟩
 | int k=>
  cases x<;>simp only[eg] at h<;>first|(cases h;done)|skip
  rename_i k' n
  by_cases hk:k=k'
  ·subst hk
   simp only[ra,cond_true,dL] at h
   subst h
   exact ⟨rfl,.inr fun _=>rfl⟩
  ·simp[hk] at h
 | bool=>
  cases x<;>simp only[eg] at h<;>first|(cases h;done)|skip
  cases h
  exact ⟨rfl,.inr fun _=>rfl⟩
 | str=>
  cases x<;>simp only[eg] at h<;>first|(cases h;done)|skip
  cases h
  exact ⟨rfl,.inr fun _=>rfl⟩
 | list e=>
  cases x<;>simp only[eg] at h<;>first|(cases h;done)|skip
  rename_i e' es
  cases hb:Nat.beq e e' with
  | false=>rw[hb] at h;cases h
  | true=>
   rw[hb] at h
   rw[aQ] at hb
   subst hb
   cases h
   exact ⟨rfl,.inr fun _=>rfl⟩
 | whole e j=>
  cases x<;>simp only[eg] at h<;>first|(cases h;done)|skip
  rename_i e' id
  cases hb:(Nat.beq e e'&&Nat.beq j id) with
  | false=>rw[hb] at h;cases h
  | true=>
   rw[hb] at h
   simp only[aK,aQ] at hb
   obtain ⟨rfl,rfl⟩:=hb
   cases h
   exact ⟨rfl,.inr fun _=>rfl⟩
 | sub e j=>
  cases x<;>simp only[eg] at h<;>first|(cases h;done)|skip
  rename_i e' id o n
  cases hb:(Nat.beq e e'&&Nat.beq j id) with
  | false=>rw[hb] at h;cases h
  | true=>
   rw[hb] at h
   simp only[aK,aQ] at hb
   obtain ⟨rfl,rfl⟩:=hb
   cases h
   exact ⟨rfl,.inr fun _=>by simp[im,V.nth]⟩
 | ptr j=>
  cases x<;>simp only[eg] at h<;>first|(cases h;done)|skip
  rename_i id i c
  cases hb:(Nat.beq j id) with
  | false=>rw[hb] at h;cases h
  | true=>
   rw[hb] at h
   rw[aQ] at hb
   subst hb
   cases h
   exact ⟨rfl,.inr fun _=>by simp[im,V.nth]⟩
 | mD j i c=>
  cases x<;>simp only[eg] at h<;>first|(cases h;done)|skip
  rename_i id i' c'
  cases hb:(Nat.beq j id&&(Nat.beq i i'&&Nat.beq c c')) with
  | false=>rw[hb] at h;cases h
  | true=>
   rw[hb] at h
   simp only[aK,aQ] at hb
   obtain ⟨rfl,rfl,rfl⟩:=hb
   cases h
   exact ⟨rfl,.inr fun _=>rfl⟩
 | nilS e=>
  cases x<;>simp only[eg] at h<;>first|(cases h;done)|skip
  rename_i e'
  cases hb:Nat.beq e e' with
  | false=>rw[hb] at h;cases h
  | true=>
   rw[hb] at h
   rw[aQ] at hb
   subst hb
   cases h
   exact ⟨rfl,.inr fun _=>rfl⟩
 | dh=>
  cases x<;>simp only[eg] at h<;>first|(cases h;done)|skip
  cases h
  exact ⟨rfl,.inr fun _=>rfl⟩
 | cl e j=>
  cases x<;>simp only[eg] at h<;>first|(cases h;done)|skip
  rename_i e' id
  cases hb:(Nat.beq e e'&&Nat.beq j id) with
  | false=>rw[hb] at h;cases h
  | true=>
   rw[hb] at h
   simp only[aK,aQ] at hb
   obtain ⟨rfl,rfl⟩:=hb
   cases h
   exact ⟨rfl,.inr fun _=>rfl⟩
 | dp e=>
  cases x<;>simp only[eg] at h<;>first|(cases h;done)|skip
  rename_i e'
  cases hb:Nat.beq e e' with
  | false=>rw[hb] at h;cases h
  | true=>
   rw[hb] at h
   rw[aQ] at hb
   subst hb
   cases h
   exact ⟨rfl,.inr fun _=>rfl⟩
 | Ce k n=>
  cases x<;>simp only[eg] at h<;>first|(cases h;done)|skip
  rename_i k' m
  cases hb:(decide (k=k')&&decide (m=n)) with
  | false=>rw[hb] at h;cases h
  | true=>
   rw[hb] at h
   simp only[aK,dW] at hb
   obtain ⟨rfl,rfl⟩:=hb
   cases h
   exact ⟨rfl,.inr fun _=>rfl⟩
 | Cf b=>
  cases x<;>simp only[eg] at h<;>first|(cases h;done)|skip
  rename_i c
  cases hb:decide (b=c) with
  | false=>rw[hb] at h;cases h
  | true=>
   rw[hb] at h
   obtain rfl:=mu hb
   cases h
   exact ⟨rfl,.inr fun _=>rfl⟩
 | row e j cs=>
  cases x<;>simp only[eg] at h<;>first|(cases h;done)|skip
  rename_i e' id ver path
  cases hb:(Nat.beq e e'&&(Nat.beq j id&&(Nat.beq ver 0&&eg.nO cs (path.map (·.2))))) with
  | false=>rw[hb] at h;cases h
  | true=>
   rw[hb] at h
   simp only[aK,aQ] at hb
   obtain ⟨rfl,rfl,rfl,nW⟩:=hb
   have:=vS nW
   subst this
   cases h
   exact ⟨by simp[LS.size],.inr fun rest=>by simp only[im,Dp]⟩
 | cx j cs c=>
  cases x<;>simp only[eg] at h<;>first|(cases h;done)|skip
  rename_i id ver path i c'
  cases hb:(Nat.beq j id&&(Nat.beq ver 0&&(Nat.beq c c'&&eg.nO cs (path.map (·.2))))) with
  | false=>rw[hb] at h;cases h
  | true=>
   rw[hb] at h
   simp only[aK,aQ] at hb
   obtain ⟨rfl,rfl,rfl,nW⟩:=hb
   have:=vS nW
   subst this
   cases h
   exact ⟨by simp[LS.size],.inr fun rest=>by simp only[im,List.cons_append,V.nth,Nw,ky,iO,Dp]⟩
def LS.below (n:Nat) (x:V):Prop:= ∀id∈eh x,id<n
def Nx:V→Prop
 | .agg _=>False
 | .bm _=>False
 | .fn .. =>False
 | .pref .. =>False
 | _=>True
theorem tC {c:Bool} {a d:List V} (h:(bif c then some a else none)=some d):c=true:=by
 cases c with
 | true=>rfl
 | false=>cases h
theorem XA {l:LS} {x:V} {ds:List V} {n:Nat} (h:eg l x=some ds) (hl:l≠ .pU) (au:l.ok n=true):Nx x∧LS.below n x:=by
 cases l<;>cases x<;>simp only[eg] at h<;>first|(cases h;done)|(exact absurd rfl hl)|skip
 all_goals refine ⟨trivial,fun id ab=> ?_⟩
 all_goals simp only[eh,ef,List.not_mem_nil] at ab
 all_goals subst ab
 all_goals simp only[LS.ok,jM] at au
 all_goals
  have hb:=tC h
  simp only[aK,aQ] at hb
  omega
theorem ao.XB {v:Value} {x:V} (h:ao P w I β hp v x) (hx:Nx x) (hs: ∀id∈eh x,hp' id=hp id∧β' id=β id):ao P w I β' hp' v x:=by
 have one: ∀{id},id∈eh x→hp' id=hp id∧β' id=β id:=fun h=>hs _ h
 cases h with
 | undef=>exact .undef
 | int=>exact .int
 | bool=>exact .bool
 | str h=>exact .str h
 | list h=>exact .list h
 | nilS=>exact .nilS
 | agg=>exact hx.elim
 | bm=>exact hx.elim
 | dh=>exact .dh
 | fn=>exact hx.elim
 | pref=>exact hx.elim
 | dZ h=>exact .dZ ((one (by simp[eh])).1.trans h)
 | fM h=>exact .fM ((one (by simp[eh])).1.trans h)
 | jV h=>exact .jV ((one (by simp[eh])).1.trans h)
 | dx h hb=>exact .dx ((one (by simp[eh])).1.trans h) ((one (by simp[eh])).2.trans hb)
 | whole h hb a b c=>exact .whole ((one (by simp[eh])).1.trans h) ((one (by simp[eh])).2.trans hb) a b c
 | ei h hb a b c=>exact .ei ((one (by simp[eh])).1.trans h) ((one (by simp[eh])).2.trans hb) a b c
 | fA h hb=>exact .fA ((one (by simp[eh])).1.trans h) ((one (by simp[eh])).2.trans hb)
 | sub h hb a b c=>exact .sub ((one (by simp[eh])).1.trans h) ((one (by simp[eh])).2.trans hb) a b c
 | ptr h hd hb=>exact .ptr ((one (by simp[eh])).1.trans h) hd ((one (by simp[eh])).2.trans hb)
 | jm h qp=>exact .jm ((one (by simp[eh])).1.trans h) qp
 | jn h qp=>exact .jn ((one (by simp[eh])).1.trans h) qp
 | row h hb a b c d=>exact .row ((one (by simp[eh])).1.trans h) ((one (by simp[eh])).2.trans hb) a b c d
 | cx h hb a b c d e=>exact .cx ((one (by simp[eh])).1.trans h) ((one (by simp[eh])).2.trans hb) a b c d e
 | dp=>exact .dp
 | g9 h=>exact .g9 ((one (by simp[eh])).1.trans h)
 | cl h hb=>exact .cl ((one (by simp[eh])).1.trans h) ((one (by simp[eh])).2.trans hb)
theorem mU {a b:List V} {n:Nat} (h:a.length=n):(a++b).drop n=b:=by subst h;simp
def zp (n:Nat) (β:Nat→Option Nat) (hp:Nat→Option an) (β':Nat→Option Nat) (hp':Nat→Option an):Prop:= ∀id,id<n→hp' id=hp id∧β' id=β id
theorem Ny {l:LS} {x:V} {ds:List V} {n:Nat} {v:Value} (h:eg l x=some ds) (au:l.ok n=true) (iF:zp n β hp β' hp') (hv:ao P w I β hp v x) (rest:List V):
  ao P w I β' hp' v (im l (ds++rest)):=by
 rcases (Dq h).2 with e|e
 ·subst e;exact .undef
 ·rw[e rest]
  by_cases hu:l= .pU
  ·subst hu
   have:x= .undef:=(e rest).symm
   subst this
   exact .undef
  ·obtain ⟨h1,U⟩:=XA h hu au
   exact hv.XB h1 fun id ab=>iF id (U id ab)
theorem zq {n:Nat} (iF:zp n β hp β' hp'): ∀{ls:List LS} {xs:List V} {ds:List V},oV ls xs=some ds→ls.all (LS.ok n)=true→
  ds.length=jS ls∧(∀rest,(gU ls (ds++rest)).length=xs.length)∧
  ∀(rest:List V) (j:Nat) (v:Value) (y:V),(∀x,xs[j]? =some x→ao P w I β hp v x)→(gU ls (ds++rest))[j]? =some y→ao P w I β' hp' v y
 | [],[],ds,h,_=>by cases h;exact ⟨rfl,fun _=>rfl,fun rest j v y _ hy=>by simp[gU] at hy⟩
 | [],_::_,ds,h,_=>by cases h
 | _::_,[],ds,h,_=>by cases h
 | l::ls,x::xs,ds,h,au=>by
  simp only[oV] at h
  obtain ⟨a,h1,h⟩:=bind_some h
  obtain ⟨b,U,h⟩:=bind_some h
  cases h
  simp only[List.all_cons,aK] at au
  obtain ⟨i1,i2,i3⟩:=zq iF U au.2
  have ca:=(Dq h1).1
  have hd: ∀rest,(a++b++rest).drop l.size=b++rest:=fun rest=>by rw[cj];exact mU ca
  refine ⟨by simp only[bU,jS];omega,fun rest=>by simp only[gU,List.length_cons,hd,i2],fun rest j v y hv hy=> ?_⟩
  simp only[gU,hd] at hy
  cases j with
  | zero=>
   simp at hy
   subst hy
   exact Ny h1 au.1 iF (hv x rfl) _
  | succ j=>exact i3 rest j v y (fun x hx=>hv x (by simpa using hx)) (by simpa using hy)
theorem HQ: ∀{ls:List LS} {xs:List V} {ds:List V},oV ls xs=some ds→ls.all LS.plain=true→ds.length=jS ls∧∀rest,gU ls (ds++rest)=xs
 | [],[],ds,h,_=>by cases h;exact ⟨rfl,fun _=>rfl⟩
 | [],_::_,ds,h,_=>by cases h
 | _::_,[],ds,h,_=>by cases h
 | l::ls,x::xs,ds,h,au=>by
  simp only[oV] at h
  obtain ⟨a,h1,h⟩:=bind_some h
  obtain ⟨b,U,h⟩:=bind_some h
  cases h
  simp only[List.all_cons,aK] at au
  obtain ⟨i1,i2⟩:=HQ U au.2
  obtain ⟨ca,hm⟩:=Dq h1
  refine ⟨by simp only[bU,jS];omega,fun rest=> ?_⟩
  simp only[gU]
  rw[show (a++b++rest).drop l.size=b++rest by rw[cj];exact mU ca,i2,cj]
  rcases hm with e|e
  ·subst e;cases au.1
  ·rw[e]
theorem HR {n:Nat} (iF:zp n β hp β' hp') {s:VS} {x:V} {ds:List V} (h:oW s x=some ds) (au:s.ok n=true):
  ds.length=s.size∧∀(rest:List V) (v:Value),ao P w I β hp v x→ao P w I β' hp' v (kC s (ds++rest)):=by
 cases s with
 | one l=>exact ⟨(Dq h).1,fun rest v hv=>Ny h au iF hv rest⟩
 | agg ls=>
  cases x<;>simp only[oW] at h<;>first|(cases h;done)|skip
  rename_i xs
  obtain ⟨i1,i2,i3⟩:=zq (P:=P) (w:=w) (I:=I) iF h au
  refine ⟨i1,fun rest v hv=> ?_⟩
  obtain ⟨cs,rfl,e1,e2⟩:=hv.kG
  exact .agg (by rw[i2];exact e1) fun j v y hj hy=>i3 rest j v y (fun x hx=>e2 j v x hj hx) hy
 | bm ls=>
  cases x<;>simp only[oW] at h<;>first|(cases h;done)|skip
  rename_i xs
  obtain ⟨i1,i2,i3⟩:=zq (P:=P) (w:=w) (I:=I) iF h au
  refine ⟨i1,fun rest v hv=> ?_⟩
  obtain ⟨cs,rfl,e1,e2⟩:=hv.th
  exact .bm (by rw[i2];exact e1) fun j v y hj hy=>i3 rest j v y (fun x hx=>e2 j v x hj hx) hy
 | fn f a b=>
  cases x<;>simp only[oW] at h<;>first|(cases h;done)|skip
  rename_i f' xs ys
  cases hb:Nat.beq f f' with
  | false=>rw[hb] at h;cases h
  | true=>
   rw[hb] at h
   rw[aQ] at hb
   subst hb
   simp only[cond_true] at h
   obtain ⟨p,h1,h⟩:=bind_some h
   obtain ⟨q,U,h⟩:=bind_some h
   cases h
   simp only[VS.ok,aK] at au
   obtain ⟨i1,i2,i3⟩:=zq (P:=P) (w:=w) (I:=I) iF h1 au.1
   obtain ⟨j1,j2,j3⟩:=zq (P:=P) (w:=w) (I:=I) iF U au.2
   refine ⟨by simp only[bU,VS.size];omega,fun rest v hv=> ?_⟩
   cases hv with
   | fn a1 a2 b1 b2=>
    simp only[kC]
    rw[show (p++q++rest).drop (jS a)=q++rest by rw[cj];exact mU i1,cj]
    exact .fn (by rw[i2];exact a1) (fun j v y hj hy=>i3 _ j v y (fun x hx=>a2 j v x hj hx) hy) (by rw[j2];exact b1) (fun j v y hj hy=>j3 _ j v y (fun x hx=>b2 j v x hj hx) hy)
 | pref ts ls=>
  cases x<;>simp only[oW] at h<;>first|(cases h;done)|skip
  rename_i vh xs
  cases hb:eg.nO ts vh with
  | false=>rw[hb] at h;cases h
  | true=>
   rw[hb] at h
   have:=vS hb
   subst this
   simp only[cond_true] at h
   refine ⟨?_,fun rest v hv=> ?_⟩
   ·exact (HQ h au).1
   ·simp only[kC]
    rw[(HQ h au).2]
    cases hv with
    | pref hl hI hc=>exact .pref hl hI hc
theorem zr {n:Nat} (iF:zp n β hp β' hp'): ∀{ls:List VS} {xs:List V} {ds:List V},pM ls xs=some ds→ls.all (VS.ok n)=true→
  ds.length=ry ls∧(∀rest,(fg ls (ds++rest)).length=xs.length)∧
  ∀(rest:List V) (j:Nat) (v:Value) (y:V),(∀x,xs[j]? =some x→ao P w I β hp v x)→(fg ls (ds++rest))[j]? =some y→ao P w I β' hp' v y
 | [],[],ds,h,_=>by cases h;exact ⟨rfl,fun _=>rfl,fun rest j v y _ hy=>by simp[fg] at hy⟩
 | [],_::_,ds,h,_=>by cases h
 | _::_,[],ds,h,_=>by cases h
 | l::ls,x::xs,ds,h,au=>by
  simp only[pM] at h
  obtain ⟨a,h1,h⟩:=bind_some h
  obtain ⟨b,U,h⟩:=bind_some h
  cases h
  simp only[List.all_cons,aK] at au
  obtain ⟨i1,i2,i3⟩:=zr iF U au.2
  obtain ⟨ca,vN⟩:=HR (P:=P) (w:=w) (I:=I) iF h1 au.1
  have hd: ∀rest,(a++b++rest).drop l.size=b++rest:=fun rest=>by rw[cj];exact mU ca
  refine ⟨by simp only[bU,ry];omega,fun rest=>by simp only[fg,List.length_cons,hd,i2],fun rest j v y hv hy=> ?_⟩
  simp only[fg,hd] at hy
  cases j with
  | zero=>
   simp at hy
   subst hy
   exact vN _ v (hv x rfl)
  | succ j=>exact i3 rest j v y (fun x hx=>hv x (by simpa using hx)) (by simpa using hy)
end
section
variable {P:Program} {A:cy} {w w':World} {I I' I2:Nat→Prop} {μ β β':Nat→Option Nat} {hp hp' hp0:Nat→Option an} {C:ag} {B:Nat} {M:Nat→Prop} {w0:Start}
theorem gI: ∀{l:List an} {j:Nat},jk l j=l[j]?
 | [],j=>by simp[jk]
 | b::l,0=>rfl
 | b::l,j+1=>by simp only[jk,gI,List.getElem?_cons_succ]
theorem HS {sl:Nat→V} {k:Nat} {y:V}: ∀{l:List (Nat × VS)} {ds:List V},yE sl l=some ds→(∀p∈l,∀d,oW p.2 (sl p.1)=some d→d.length=p.2.size)→
  ds.length=nP l∧∀rest,dw (eW l (ds++rest)) k=some y→∃s d fR,(k,s)∈l∧oW s (sl k)=some d∧y=kC s (d++fR)
 | [],ds,h,_=>by cases h;exact ⟨rfl,fun rest h=>by cases h⟩
 | (q,s)::l,ds,h,hz=>by
  simp only[yE] at h
  obtain ⟨a,h1,h⟩:=bind_some h
  obtain ⟨b,U,h⟩:=bind_some h
  cases h
  obtain ⟨i1,i2⟩:=HS (k:=k) (y:=y) U fun p hp=>hz p (kU _ hp)
  have ca:=hz (q,s) (ri ..) a h1
  refine ⟨by simp only[bU,nP];simp only at ca;omega,fun rest hl=> ?_⟩
  simp only[eW,dw] at hl
  rw[show (a++b++rest).drop s.size=b++rest by rw[cj];exact mU ca] at hl
  cases hb:Nat.beq k q with
  | true=>
   rw[hb] at hl
   rw[aQ] at hb
   subst hb
   cases hl
   exact ⟨s,a,b++rest,ri ..,h1,by rw[cj]⟩
  | false=>
   rw[hb] at hl
   obtain ⟨s',d,fR,m1,m2,m3⟩:=i2 rest hl
   exact ⟨s',d,fR,kU _ m1,m2,m3⟩
theorem HT {α:Type} {c:Bool} {x:Option α} {a:α} (h:(bif c then x else none)=some a):c=true∧x=some a:=by
 cases c with
 | true=>exact ⟨rfl,h⟩
 | false=>cases h
theorem XC {n:Nat} {b:BS} {o:Option an} {ds:List V} (h:kB b o=some ds) (au:b.ok n=true):ds.length=b.size:=by
 cases b with
 | dead=>cases o<;>(cases h;rfl)
 | var T0 ls=>
  cases o with
  | none=>cases h
  | some blk=>
   cases blk<;>simp only[kB] at h<;>first|(cases h;done)|skip
   exact (zr (P:=default) (w:=default) (I:=fun _=>False) (β:=fun _=>none) (hp:=fun _=>none) (fun _ _=>⟨rfl,rfl⟩) (HT h).2 au).1
 | arr e fz=>
  cases o with
  | none=>cases h
  | some blk=>
   cases blk<;>simp only[kB] at h<;>first|(cases h;done)|skip
   rw[tC h] at h
   cases h
   rfl
 | nest e=>
  cases o with
  | none=>cases h
  | some blk=>
   cases blk<;>simp only[kB] at h<;>first|(cases h;done)|skip
   rw[tC h] at h
   cases h
   rfl
 | map t=>
  cases o with
  | none=>cases h
  | some blk=>
   cases blk<;>simp only[kB] at h<;>first|(cases h;done)|skip
   rw[tC h] at h
   cases h
   rfl
theorem Nz {n:Nat}: ∀{l:List BS} {j:Nat} {ds:List V},yF hp j l=some ds→l.all (BS.ok n)=true→
  (∀rest,(eB l (ds++rest)).length=l.length)∧∀(rest:List V) (i:Nat) (blk:an),(eB l (ds++rest))[i]? =some blk→∃b d fR,l[i]? =some b∧b.ok n=true∧kB b (hp (j+i))=some d∧blk=fw b (d++fR)
 | [],j,ds,h,_=>by cases h;exact ⟨fun _=>rfl,fun rest i blk hb=>by simp[eB] at hb⟩
 | b::l,j,ds,h,au=>by
  simp only[yF] at h
  obtain ⟨a,h1,h⟩:=bind_some h
  obtain ⟨c,U,h⟩:=bind_some h
  cases h
  simp only[List.all_cons,aK] at au
  obtain ⟨i1,i2⟩:=Nz U au.2
  have ca:=XC h1 au.1
  have hd: ∀rest,(a++c++rest).drop b.size=c++rest:=fun rest=>by rw[cj];exact mU ca
  refine ⟨fun rest=>by simp only[eB,List.length_cons,hd,i1],fun rest i blk hb=> ?_⟩
  simp only[eB,hd] at hb
  cases i with
  | zero=>
   simp at hb
   exact ⟨b,a,c++rest,rfl,au.1,h1,by rw[←hb]⟩
  | succ i=>
   obtain ⟨b',d,fR,m1,m2,m3,m4⟩:=i2 rest i blk (by simpa using hb)
   exact ⟨b',d,fR,by simpa using m1,m2,by rw[show j+(i+1)=j+1+i by omega];exact m3,m4⟩
theorem XD {n:Nat} {b:BS} {blk:an} {ds rest:List V} (h:kB b (some blk)=some ds) (au:b.ok n=true):
  blk.le (fw b (ds++rest))∧(fw b (ds++rest)= .dead∨fw b (ds++rest)=blk∨∃T ls cs,b= .var T ls∧blk= .var T cs∧pM ls cs=some ds∧fw b (ds++rest)= .var T (fg ls (ds++rest))):=by
 cases b with
 | dead=>exact ⟨by cases blk<;>trivial,.inl rfl⟩
 | var T0 ls=>
  cases blk<;>simp only[kB] at h<;>first|(cases h;done)|skip
  obtain ⟨hT,h0⟩:=HT h
  clear h
  rw[aQ] at hT
  subst hT
  exact ⟨rfl,.inr (.inr ⟨_,_,_,rfl,rfl,h0,rfl⟩)⟩
 | arr e fz=>
  cases blk<;>simp only[kB] at h<;>first|(cases h;done)|skip
  rename_i e' es mG
  have hb:=tC h
  simp only[aK,aQ,beq_iff_eq] at hb
  obtain ⟨rfl,rfl⟩:=hb
  simp only[jg,yn,Bool.and_self,cond_true,dL] at h
  subst h
  exact ⟨⟨rfl,rfl⟩,.inr (.inl rfl)⟩
 | nest e=>
  cases blk<;>simp only[kB] at h<;>first|(cases h;done)|skip
  rename_i e' es ar
  have hb:=tC h
  simp only[aK,aQ] at hb
  obtain ⟨rfl,hv⟩:=hb
  have:=vS hv
  subst this
  simp only[jg,lH] at h
  cases h
  exact ⟨⟨rfl,rfl,rfl,fun _=>bZ _⟩,.inr (.inl rfl)⟩
 | map t=>
  cases blk<;>simp only[kB] at h<;>first|(cases h;done)|skip
  rename_i t' es
  have hb:=tC h
  rw[aQ] at hb
  subst hb
  simp only[jg,cond_true,dL] at h
  subst h
  exact ⟨rfl,.inr (.inl rfl)⟩
theorem NA {m:Nat} {S:Shape} {st:St} {ds:List V} (h:jl m S st=some ds):
  S.ok=true∧m≤S.bh.length∧∃a b,yE st.sl S.bN=some a∧yF st.hp 0 S.bh=some b∧ds=a++b:=by
 unfold jl at h
 cases hc:(S.ok&&Nat.ble m S.bh.length) with
 | false=>rw[hc] at h;cases h
 | true=>
  rw[hc] at h
  simp only[cond_true] at h
  simp only[aK,dm] at hc
  obtain ⟨a,h1,h⟩:=bind_some h
  obtain ⟨b,U,h⟩:=bind_some h
  cases h
  exact ⟨hc.1,hc.2,a,b,h1,U,rfl⟩
theorem reshape {m:Nat} {S:Shape} {st:St} {ds:List V} (h:jl m S st=some ds) (hS:aF P w I β st.hp B M w0):
  aF P w I β (br S ds).hp B M w0∧(∀(k:Nat) (v:Value),ao P w I β st.hp v (st.sl k)→ao P w I β (br S ds).hp v ((br S ds).sl k))∧
  (∀(μ:Nat→Option Nat) (hp0:Nat→Option an),(∀id blk,hp0 id=some blk→id<m)→Le P w0.w w0.I μ hp0 w I β st.hp→Le P w0.w w0.I μ hp0 w I β (br S ds).hp)∧
  ∀j blk',(br S ds).hp j=some blk'→blk'≠ .dead→∃blk,st.hp j=some blk∧blk.le blk'∧∀o b,bw P w o blk' b→bw P w o blk b:=by
 obtain ⟨au,hm,a,b,h1,U,rfl⟩:=NA h
 unfold Shape.ok at au
 rw[aK] at au
 obtain ⟨NB,Hy⟩:=au
 have aT: ∀p∈S.bN,∀d,oW p.2 (st.sl p.1)=some d→d.length=p.2.size:=fun p hp d hd=>
  (HR (P:=P) (w:=w) (I:=I) (β:=β) (hp:=st.hp) (fun _ _=>⟨rfl,rfl⟩) hd (fe.1 NB p hp)).1
 have ca:a.length=nP S.bN:=(HS (k:=0) (y:= .undef) h1 aT).1
 have Dg:(br S (a++b)).hp=jk (eB S.bh (b++[])):=by
  simp only[br,mk,cU]
  rw[mU ca]
 obtain ⟨bl,bg⟩:=Nz U Hy
 have get: ∀j blk',(br S (a++b)).hp j=some blk'→j<S.bh.length∧∃bs d fR,bs.ok S.bh.length=true∧kB bs (st.hp j)=some d∧blk'=fw bs (d++fR):=by
  intro j blk' hj
  rw[Dg,gI] at hj
  obtain ⟨bs,d,fR,m1,m2,m3,m4⟩:=bg [] j blk' hj
  rw[gu] at m3
  exact ⟨(bu.1 m1).1,bs,d,fR,m2,m3,m4⟩
 have have': ∀j,j<S.bh.length→∃blk',(br S (a++b)).hp j=some blk':=by
  intro j hj
  rw[Dg,gI]
  exact ⟨_,bM (by rw[bl];exact hj)⟩
 generalize gA:(br S (a++b)).hp=tD at*
 let bt:Nat→Option an:=fun id=>if id<S.bh.length then tD id else st.hp id
 have back: ∀j blk',tD j=some blk'→blk'≠ .dead→∃blk,st.hp j=some blk∧blk.le blk'∧(blk'=blk∨∃T ls cs d fR,ls.all (VS.ok S.bh.length)=true∧blk= .var T cs∧pM ls cs=some d∧blk'= .var T (fg ls (d++fR))):=by
  intro j blk' hj hd
  obtain ⟨b9,bs,d,fR,m1,m2,m3⟩:=get j blk' hj
  cases bP:st.hp j with
  | none=>
   rw[bP] at m2
   cases bs<;>simp only[kB] at m2<;>first|(cases m2;done)|skip
   exact absurd m3 hd
  | some blk=>
   rw[bP] at m2
   obtain ⟨n1,n2⟩:=XD (rest:=fR) m2 m1
   rw[←m3] at n1 n2
   refine ⟨blk,rfl,n1,?_⟩
   rcases n2 with e|e|⟨T,ls,cs,e1,e2,e3,e4⟩
   ·exact absurd e hd
   ·exact .inl e
   ·subst e1
    exact .inr ⟨T,ls,cs,d,fR,m1,e2,e3,e4⟩
 have XF: ∀j blk,st.hp j=some blk→j<S.bh.length→∃blk',tD j=some blk'∧blk.le blk':=by
  intro j blk hj b9
  obtain ⟨blk',aB⟩:=have' j b9
  refine ⟨blk',aB,?_⟩
  by_cases hd:blk'= .dead
  ·subst hd;cases blk<;>trivial
  ·obtain ⟨bX,e1,e2,_⟩:=back j blk' aB hd
   rw[hj] at e1;cases e1
   exact e2
 have XG: ∀j e es ar e' aL vers',st.hp j=some (.nest e es ar)→tD j=some (.nest e' aL vers')→e'=e∧aL=es∧vers'=ar:=by
  intro j e es ar e' aL vers' hj gd
  obtain ⟨blk,e1,_,e3⟩:=back j _ gd (by simp)
  rw[hj] at e1;cases e1
  rcases e3 with e3|⟨_,_,_,_,_,_,e3,_⟩
  ·cases e3;exact ⟨rfl,rfl,rfl⟩
  ·cases e3
 have hle:Le P w I β st.hp w I β bt:=by
  refine ⟨fun _ h=>h,fun _ _=>rfl,fun id blk ab=> ?_,fun _ _ _ _ _ _ _ _=>rfl,Le.rF (fun _ _ _ _ _ _=>rfl) fun id e es ar e' aL vers' ab bB=> ?_⟩
  ·by_cases hl:id<S.bh.length
   ·obtain ⟨blk',e1,e2⟩:=XF id blk ab hl
    exact ⟨blk',by simp only[bt,aj hl];exact e1,e2,fun _=>rfl⟩
   ·exact ⟨blk,by simp only[bt,ai hl];exact ab,an.le_refl _,fun _=>rfl⟩
  ·by_cases hl:id<S.bh.length
   ·simp only[bt,aj hl] at bB
    exact XG _ _ _ _ _ _ _ ab bB
   ·simp only[bt,ai hl] at bB
    rw[ab] at bB;cases bB
    exact ⟨rfl,rfl,rfl⟩
 have iF:zp S.bh.length β bt β tD:=fun id ab=>⟨by simp only[bt,aj ab],rfl⟩
 have vG: ∀j blk' blk o b,tD j=some blk'→st.hp j=some blk→bw P w o blk' b→bw P w o blk b:=by
  intro j blk' blk o b gd hj ho
  obtain ⟨bX,e1,_,e3⟩:=back j blk' gd ho.alive
  rw[hj] at e1;cases e1
  rcases e3 with e3|⟨T,ls,cs,d,fR,_,e3,_,e5⟩
  ·subst e3;exact ho
  ·subst e3;subst e5
   exact .root (by simp) (ho.flat (by simp))
 refine ⟨⟨⟨fun j blk' hj=> ?_,fun j1 j2 b1 b2 b' e1 e2 o1 o2=> ?_,fun j blk b' hj ho=> ?_,hS.h.jo⟩,hS.b8,hS.size,hS.new,hS.io⟩,fun k v hv=> ?_,fun μ hp0 aO hE=> ?_,fun j blk' hj hd=> ?_⟩
 ·by_cases hd:blk'= .dead
  ·subst hd;exact .dead
  ·obtain ⟨blk,e1,_,e3⟩:=back j blk' hj hd
   have hr:=hS.h.rel j blk e1
   generalize β j=o at hr
   rcases e3 with e3|⟨T0,ls,cs,d,fR,q1,e3,e4,e5⟩
   ·subst e3
    cases hr with
    | @var xs b' Ca T hb hh hs cH hx fO=>
     obtain ⟨b9,bs,d,fR,m1,m2,m3⟩:=get j _ hj
     rw[e1] at m2
     cases bs<;>simp only[kB] at m2<;>first|(cases m2;done)|skip
     ·rename_i T0 ls
      simp only[fw] at m3
      obtain ⟨hT,m2⟩:=HT m2
      obtain ⟨i1,i2,i3⟩:=zr (P:=P) (w:=w) (I:=I) iF m2 m1
      injection m3 with m4 m3
      rw[m3]
      exact .var hb hh (by rw[i2];exact hs) cH (fun i v y hi hy=>i3 fR i v y (fun x cp=>(hx i v x hi cp).mono hle) hy) fO
     ·simp only[fw] at m3
      cases m3
    | dy hb=>exact .dy hb
    | arr a1 a2 a3 a4 a5 a6 a7=>exact .arr a1 a2 a3 a4 a5 a6 a7
    | dead=>exact absurd rfl hd
    | nest a1 a2 a3=>exact .nest a1 a2 a3
    | map a1 a2 a3 a4 a5 a6 a7=>exact .map a1 a2 a3 a4 a5 a6 a7
   ·subst e3
    subst e5
    cases hr with
    | @var xs b' Ca T hb hh hs cH hx fO=>
     obtain ⟨i1,i2,i3⟩:=zr (P:=P) (w:=w) (I:=I) iF e4 q1
     exact .var hb hh (by rw[i2];exact hs) cH (fun i v y hi hy=>i3 fR i v y (fun x cp=>(hx i v x hi cp).mono hle) hy) fO
 ·obtain ⟨c1,x1,_,_⟩:=back j1 b1 e1 o1.alive
  obtain ⟨c2,x2,_,_⟩:=back j2 b2 e2 o2.alive
  exact hS.h.inj j1 j2 c1 c2 b' x1 x2 (vG _ _ _ _ _ e1 x1 o1) (vG _ _ _ _ _ e2 x2 o2)
 ·obtain ⟨c1,x1,_,_⟩:=back j blk hj ho.alive
  exact hS.h.own j c1 b' x1 (vG _ _ _ _ _ hj x1 ho)
 ·change ao P w I β tD v (iR (eW S.bN (a++b)) k)
  unfold iR
  cases HU:dw (eW S.bN (a++b)) k with
  | none=>exact .undef
  | some y=>
   obtain ⟨s,d,fR,n1,n2,n3⟩:=(HS h1 aT).2 b HU
   simp only[Option.getD_some,n3]
   exact (HR (P:=P) (w:=w) (I:=I) iF n2 (fe.1 NB _ n1)).2 fR v (hv.mono hle)
 ·have h3:=hE.trans hle
  refine ⟨h3.c9,h3.b8,fun id blk ab=> ?_,fun id blk blk' b' ab bB hd hb=> ?_,fun id e es ar e' aL vers' b2 q i c t v e1 l ab bB=> ?_⟩
  ·have hl:=aO id blk ab
   obtain ⟨blk',k1,k2,k3⟩:=h3.blk id blk ab
   simp only[bt,aj (show id<S.bh.length by omega)] at k1
   exact ⟨blk',k1,k2,k3⟩
  ·have hl:=aO id blk ab
   exact h3.size id blk blk' b' ab (by simp only[bt,aj (show id<S.bh.length by omega)];exact bB) hd hb
  ·have hl:=aO id _ ab
   exact h3.row id e es ar e' aL vers' b2 q i c t v e1 l ab (by simp only[bt,aj (show id<S.bh.length by omega)];exact bB)
 ·obtain ⟨blk,e1,e2,_⟩:=back j blk' hj hd
  exact ⟨blk,e1,e2,fun o b' ho=>vG _ _ _ _ _ hj e1 ho⟩
end
section
variable {P:Program} {A:cy} {w w':World} {I I' I2:Nat→Prop} {μ β β':Nat→Option Nat} {hp hp' hp0:Nat→Option an} {C:ag} {B:Nat} {M:Nat→Prop} {w0:Start}
inductive dP (P:Program) (w:World) (β:Nat→Option Nat) (hp:Nat→Option an):Place→Option Nat→an→Prop
 | var {id:Nat} {T:TypeId} {cs HV:List V}:hp id=some (.var T cs)→dP P w β hp (.blk id) (β id) (.var T HV)
 | arr {id:Nat} {e:TypeId} {es:List V}:hp id=some (.arr e es false)→dP P w β hp (.blk id) (β id) (.arr e es false)
 | nest {id:Nat} {e:TypeId} {es:List V} {ar:List Nat}:hp id=some (.nest e es ar)→dP P w β hp (.blk id) (β id) (.nest e es [0,0,0])
 | row {id ver b b':Nat} {path:Path} {e0 e':TypeId} {es l:List V} {ar:List Nat}:hp id=some (.nest e0 es ar)→β id=some b→At P w b e0 es path b' e' l→yD P e'=true→
   0<path.length→path.length≤ar.length→bz ar (path.length-1)=ver→0<l.length→dP P w β hp (.row id ver path) (some b') (.arr e' l false)
 | map {id:Nat} {t:TypeId} {es:List V}:hp id=some (.map t es)→dP P w β hp (.blk id) (β id) (.map t es)
def zt (P:Program) (w:World) (β:Nat→Option Nat) (hp:Nat→Option an) (ρ:List Place) (μ:Nat→Option Nat) (hp0:Nat→Option an):Prop:=
 ∀j p,dY ρ j=some p→∃blk,hp0 j=some blk∧dP P w β hp p (μ j) blk
theorem od: ∀{l m:List Place} {j:Nat} {p:Place},dY l j=some p→dY (l++m) j=some p
 | [],m,j,p,h=>by cases h
 | a::l,m,0,p,h=>h
 | a::l,m,j+1,p,h=>od (l:=l) h
theorem lq: ∀{l:List Place} {j:Nat},dY l j=l[j]?
 | [],j=>by simp[dY]
 | a::l,0=>rfl
 | a::l,j+1=>by simp only[dY,lq,List.getElem?_cons_succ]
structure Ext (P:Program) (w:World) (I:Nat→Prop) (β:Nat→Option Nat) (hp:Nat→Option an) (h h':Hand) (d:List V) (u:List (Nat × an)):Prop where
 ds:h'.ds=h.ds++d
 upd:h'.upd=h.upd++u
 Dr: ∀q∈u,yV hp q
 pl: ∃m,h'.pl=h.pl++m
 nodup:(h.pl.map Place.id).Nodup→(h'.pl.map Place.id).Nodup
theorem Ext.refl (h:Hand):Ext P w I β hp h h [] []:=⟨by simp,by simp,by simp,⟨[],by simp⟩,id⟩
theorem Ext.trans {h1 U h3:Hand} {d1 d2:List V} {u1 u2:List (Nat × an)} (a:Ext P w I β hp h1 U d1 u1) (b:Ext P w I β hp U h3 d2 u2):Ext P w I β hp h1 h3 (d1++d2) (u1++u2):=by
 obtain ⟨m1,e1⟩:=a.pl
 obtain ⟨m2,e2⟩:=b.pl
 exact ⟨by rw[b.ds,a.ds,cj],by rw[b.upd,a.upd,cj],fun q hq=>(ey.1 hq).elim (a.Dr q) (b.Dr q),⟨m1++m2,by rw[e2,e1,cj]⟩,fun h=>b.nodup (a.nodup h)⟩
theorem Ext.look {h h':Hand} {d:List V} {u:List (Nat × an)} (a:Ext P w I β hp h h' d u) {j:Nat} {p:Place} (hj:dY h.pl j=some p):dY h'.pl j=some p:=by
 obtain ⟨m,e⟩:=a.pl
 rw[e]
 exact od hj
theorem Ext.leaf (h:Hand) (x:V):Ext P w I β hp h {h with ds:=h.ds++[x]} [x] []:=⟨rfl,by simp,by simp,⟨[],by simp⟩,id⟩
theorem XH {α:Type} {ρ:List Place} {j:Nat} {p:Place} {k:List Place→Rd α} {r:α} {rd:List Nat} (h:(unify ρ j p k).run C hp=some (r,rd)) (hb: ∃id,p= .blk id∨∃ver path,p= .row id ver path):
  ∃ju,(k ju).run C hp=some (r,rd)∧(∃m,ju=ρ++m)∧dY ju j=some p∧((ρ.map Place.id).Nodup→(ju.map Place.id).Nodup):=by
 unfold unify at h
 cases hc:Nat.blt j ρ.length with
 | true=>
  rw[hc] at h
  obtain ⟨h1,U⟩:=aG h
  refine ⟨ρ,U,⟨[],by simp⟩,?_,id⟩
  unfold L7 at h1
  split at h1
  ·rename_i a b he
   rw[aQ] at h1
   subst h1
   exact he
  ·cases h1
 | false=>
  rw[hc] at h
  obtain ⟨h1,U⟩:=aG h
  simp only[aK,aQ,my] at h1
  obtain ⟨rfl,h3⟩:=h1
  refine ⟨ρ++[p],U,⟨[p],rfl⟩,?_,fun hn=> ?_⟩
  ·rw[lq];simp
  ·rw[eP,B5]
   refine ⟨hn,by simp,fun a ha b hb=> ?_⟩
   simp only[cw,fK,ef] at hb
   subst hb
   intro e
   subst e
   rw[vD ha] at h3
   cases h3
theorem tE {α:Type} {h:Hand} {j:Nat} {p:Place} {k:List Place→Rd α} {r:α} {rd:List Nat} (hr:(unify h.pl j p k).run C hp=some (r,rd)) (ds:List V):
  ∃ju,(k ju).run C hp=some (r,rd)∧dY ju j=some p∧Ext P w I β hp h {h with pl:=ju,ds:=h.ds++ds} ds []:=by
 obtain ⟨ju,a,b,c,d⟩:=XH hr (by cases p with|blk id=>exact ⟨id,.inl rfl⟩|row id ver path=>exact ⟨id,.inr ⟨ver,path,rfl⟩⟩)
 exact ⟨ju,a,c,⟨rfl,by simp,by simp,b,d⟩⟩
theorem XI {o:Option Nat} {blk:an} {e:TypeId} {id j:Nat} {v:Value} (hv:ao P w I β hp v (.whole e id)) (hl:dP P w β hp (.blk id) o blk) (hj:hp0 j=some blk) (jv:μ j=o):ao P w I' μ hp0 v (.whole e j):=by
 cases hl with
 | var h=>
  cases hv with
  | dZ U=>rw[h] at U;cases U
  | dx U=>rw[h] at U;cases U
  | whole U=>rw[h] at U;cases U
  | ei U=>rw[h] at U;cases U
 | arr h=>
  cases hv with
  | dZ U=>rw[h] at U;cases U
  | dx U hb=>rw[h] at U;cases U;exact .dx hj (jv.trans hb)
  | whole U hb a b c=>rw[h] at U;cases U;exact .whole hj (jv.trans hb) a b c
  | ei U=>rw[h] at U;cases U
 | nest h=>
  cases hv with
  | dZ U=>rw[h] at U;cases U
  | dx U=>rw[h] at U;cases U
  | whole U=>rw[h] at U;cases U
  | ei U hb a b c=>rw[h] at U;cases U;exact .ei hj (jv.trans hb) a b c
 | map h=>
  cases hv with
  | dZ U=>rw[h] at U;cases U
  | dx U=>rw[h] at U;cases U
  | whole U=>rw[h] at U;cases U
  | ei U=>rw[h] at U;cases U
theorem XJ {o:Option Nat} {blk:an} {t:TypeId} {id j:Nat} {v:Value} (hv:ao P w I β hp v (.cl t id)) (hl:dP P w β hp (.blk id) o blk) (hj:hp0 j=some blk) (jv:μ j=o):ao P w I' μ hp0 v (.cl t j):=by
 cases hv with
 | g9 U=>cases hl<;>(rename_i h;rw[h] at U;cases U)
 | cl U hb=>
  cases hl<;>(rename_i h;rw[h] at U;cases U)
  exact .cl hj (jv.trans hb)
theorem XK {o:Option Nat} {blk:an} {e:TypeId} {id off n j:Nat} {v:Value} (hv:ao P w I β hp v (.sub e id off n)) (hl:dP P w β hp (.blk id) o blk) (hj:hp0 j=some blk) (jv:μ j=o):ao P w I' μ hp0 v (.sub e j off n):=by
 cases hl with
 | var h=>
  cases hv with
  | fM U=>rw[h] at U;cases U
  | fA U=>rw[h] at U;cases U
  | sub U=>rw[h] at U;cases U
 | arr h=>
  cases hv with
  | fM U=>rw[h] at U;cases U
  | fA U hb=>rw[h] at U;cases U;exact .fA hj (jv.trans hb)
  | sub U hb a b c=>rw[h] at U;cases U;exact .sub hj (jv.trans hb) a b c
 | nest h=>
  cases hv with
  | fM U=>rw[h] at U;cases U
  | fA U=>rw[h] at U;cases U
  | sub U=>rw[h] at U;cases U
 | map h=>
  cases hv with
  | fM U=>rw[h] at U;cases U
  | fA U=>rw[h] at U;cases U
  | sub U=>rw[h] at U;cases U
theorem NC {o:Option Nat} {blk:an} {id i c j:Nat} {v:Value} (hv:ao P w I β hp v (.ptr id i c)) (hl:dP P w β hp (.blk id) o blk) (hj:hp0 j=some blk) (jv:μ j=o):ao P w I' μ hp0 v (.ptr j i c):=by
 cases hl with
 | @var _ T0 cs HV h=>
  obtain ⟨b,hb,rfl⟩:=hv.gC h (by simp)
  exact ao.ptr (blk:= .var T0 HV) hj (by simp) (jv.trans hb)
 | @arr _ e es h=>
  obtain ⟨b,hb,rfl⟩:=hv.gC h (by simp)
  exact ao.ptr (blk:= .arr e es false) hj (by simp) (jv.trans hb)
 | @nest _ e es ar h=>
  obtain ⟨b,hb,rfl⟩:=hv.gC h (by simp)
  exact ao.ptr (blk:= .nest e es [0,0,0]) hj (by simp) (jv.trans hb)
 | @map _ t es h=>
  obtain ⟨b,hb,rfl⟩:=hv.gC h (by simp)
  exact ao.ptr (blk:= .map t es) hj (by simp) (jv.trans hb)
theorem XL (cA: ∀id blk,hp id=some blk→dN P w I β hp (β id) blk) {id b i c:Nat} {e0 t:TypeId} {es l:List V} {ar:List Nat} {q:Path} {e:TypeId} {v:Value} (ab:hp id=some (.nest e0 es ar)) (hb:β id=some b)
  (ht:P.underlying t=some (.slice e)) (hc:lN P w b e0 es q i c t v (.list e l)) (hl:0<l.length): ∃b1 cap,v= .slice (some ⟨b1,0,none⟩) l.length cap∧cap*P.cellsOf e=bsize w b1∧l.length≤cap∧cap≤maxLen∧At P w b e0 es (q++[(i,c)]) b1 e l:=by
 obtain ⟨b2,e1,m,Ca,T,f,x,n1,n2,n3,n4,n5,n6⟩:=hc
 have hr:=cA _ _ ab
 cases hr with
 | nest aB hr hn=>
  rw[hb] at aB;cases aB
  have hR:=hr _ _ _ _ n1
  obtain ⟨yY,c1,c2,c3⟩:=hR.cells
  rw[n2] at c1
  cases c1
  have tf:c<P.cellsOf e1:=by rw[←fj hR.ok];exact (bu.1 n4).1
  obtain ⟨v',d1,d2⟩:=c3 i c x t n3 n4 tf
  rw[n6] at d1
  cases d1
  rw[n5] at d2
  generalize hy:V.list e l=y at d2
  cases d2 with
  | fy a p=>unfold fv at a;rw[ht] at a;cases a
  | emp hu ha=>cases hy;simp at hl
  | row hu jq aT b7 nU=>
   cases hy
   exact ⟨_,_,rfl,aT,b7,nU,n1.snoc n2 n3 n4 ht n5 jq n6⟩
theorem XM (S:aF P w I β hp B M w0) {o:Option Nat} {blk:an} {e:TypeId} {id ver j:Nat} {path:Path} {v:Value} (hv:ao P w I β hp v (.row e id ver path)) (hl:dP P w β hp (.row id ver path) o blk) (hj:hp0 j=some blk) (jv:μ j=o):ao P w I' μ hp0 v (.whole e j):=by
 cases hl with
 | row h hb ha hf h1 U h3 h4=>
  obtain ⟨b2,q,i,c,t,l2,rfl,iB,ht,hc⟩:=hv.Mf h h1 U h3
  rw[hb] at iB;cases iB
  obtain ⟨p1,p2⟩:=GW ha
  have iw:=hc
  obtain ⟨b3,e3,m3,Ca,T,f,x,n1,n2,n3,n4,n5,n6⟩:=iw
  obtain ⟨q1,q2⟩:=CH n1 n3 n4 ht n5
  rw[p1] at q1
  rw[p2] at q2
  cases q1
  cases q2
  obtain ⟨b1,cap,rfl,m1,m2,m4,m5⟩:=XL S.h.rel h hb ht hc h4
  have:=XN ha m5
  subst this
  exact .whole hj jv m1 m2 m4
where
 XN {b b1 b2:Nat} {e e1 e2:TypeId} {es l l2:List V} {q:Path} (h:At P w b e es q b1 e1 l) (U:At P w b e es q b2 e2 l2):b2=b1:=(h.fun U).1
theorem ND (S:aF P w I β hp B M w0) {α:Type} {l:LS} {x:V} {h:Hand} {k:Hand→Rd α} {r:α} {rd:List Nat} {v:Value} (hr:(Ct P l x h k).run C hp=some (r,rd)) (hv:ao P w I β hp v x):
  ∃h' eK d u,(k h').run C hp=some (r,eK)∧Ext P w I β hp h h' d u∧d.length=l.size∧
   ∀(I':Nat→Prop) (μ:Nat→Option Nat) (hp0:Nat→Option an),(∀b,I b→I' b)→(∀q∈u,∀b,rG P w β hp q.1 b→I' b)→∀ρ m,ρ=h'.pl++m→zt P w β hp ρ μ hp0→∀rest,ao P w I' μ hp0 v (im l (d++rest)):=by
 have plain: ∀{x':V} {iX:List Nat},(k {h with ds:=h.ds++[x']}).run C hp=some (r,iX)→l.size=1→(∀I' μ hp0 rest,ao P w I' μ hp0 v (im l ([x']++rest)))→∃h' eK d u,(k h').run C hp=some (r,eK)∧Ext P w I β hp h h' d u∧d.length=l.size∧
   ∀(I':Nat→Prop) (μ:Nat→Option Nat) (hp0:Nat→Option an),(∀b,I b→I' b)→(∀q∈u,∀b,rG P w β hp q.1 b→I' b)→∀ρ m,ρ=h'.pl++m→zt P w β hp ρ μ hp0→∀rest,ao P w I' μ hp0 v (im l (d++rest)):=
  fun hk hs hx=>⟨_,_,_,_,hk,Ext.leaf h _,hs.symm,fun I' μ hp0 _ _ _ _ _ _ rest=>hx I' μ hp0 rest⟩
 have mQ: ∀{iX:List Nat},(k h).run C hp=some (r,iX)→l.size=0→(∀I' μ hp0 rest,ao P w I' μ hp0 v (im l rest))→∃h' eK d u,(k h').run C hp=some (r,eK)∧Ext P w I β hp h h' d u∧d.length=l.size∧
   ∀(I':Nat→Prop) (μ:Nat→Option Nat) (hp0:Nat→Option an),(∀b,I b→I' b)→(∀q∈u,∀b,rG P w β hp q.1 b→I' b)→∀ρ m,ρ=h'.pl++m→zt P w β hp ρ μ hp0→∀rest,ao P w I' μ hp0 v (im l (d++rest)):=
  fun hk hs hx=>⟨_,_,_,_,hk,Ext.refl h,by simp[hs],fun I' μ hp0 _ _ _ _ _ _ rest=>hx I' μ hp0 rest⟩
 unfold Ct at hr
 cases l with
 | pU=>exact mQ hr rfl fun _ _ _ _=> .undef
 | int kd=>
  cases x<;>simp only at hr<;>first|(cases hr;done)|skip
  obtain ⟨h1,U⟩:=aG hr
  simp only[dW] at h1
  subst h1
  obtain rfl:=hv.dI
  exact plain U rfl fun _ _ _ _=> .int
 | bool=>
  cases x<;>simp only at hr<;>first|(cases hr;done)|skip
  obtain rfl:=hv.jY
  exact plain hr rfl fun _ _ _ _=> .bool
 | str=>
  cases x<;>simp only at hr<;>first|(cases hr;done)|skip
  obtain ⟨s,rfl,hl⟩:=hv.lP
  exact plain hr rfl fun _ _ _ _=> .str hl
 | nilS e=>
  cases x<;>simp only at hr<;>first|(cases hr;done)|skip
  obtain ⟨h1,U⟩:=aG hr
  cases hv with
  | nilS=>exact mQ U rfl fun _ _ _ _=> .nilS
 | dh=>
  cases x<;>simp only at hr<;>first|(cases hr;done)|skip
  cases hv with
  | dh=>exact mQ hr rfl fun _ _ _ _=> .dh
 | row e j cs=>
  cases x<;>simp only at hr<;>first|(cases hr;done)|skip
  rename_i e' id ver path
  obtain ⟨e0,es,ar,l0,ab,p1,p2,p3,hr⟩:=nT hr
  obtain ⟨h1,U⟩:=aG hr
  simp only[aK,aQ,dm] at h1
  obtain ⟨rfl,nW,XO⟩:=h1
  have:=vS nW
  subst this
  obtain ⟨ju,a,b,c⟩:=tE (P:=P) (w:=w) (I:=I) (β:=β) U (path.map fun p=>dX p.1)
  refine ⟨_,_,path.map fun p=>dX p.1,[],a,c,by simp[LS.size],fun I' μ hp0 i1 i2 ρ m di cW rest=> ?_⟩
  obtain ⟨blk,k1,k2⟩:=cW j _ (by rw[di];exact od b)
  obtain ⟨bb,q,i,cc,t,l,rfl,hb,ht,hc⟩:=hv.Mf ab p1 p2 p3
  have qg:blk= .nest e0 es [0,0,0]∧μ j=β id:=by
   generalize μ j=o at k2
   cases k2 with
   | var h=>rw[ab] at h;cases h
   | arr h=>rw[ab] at h;cases h
   | map h=>rw[ab] at h;cases h
   | nest h=>rw[ab] at h;cases h;exact ⟨rfl,rfl⟩
  obtain ⟨rfl,jv⟩:=qg
  simp only[im,Dp]
  have hq:q.length<3:=by rw[bU,List.length_singleton] at XO;omega
  refine .row k1 (jv.trans hb) (by simpa using hq) ?_ ht hc
  match q.length,hq with
  | 0,_=>rfl
  | 1,_=>rfl
  | 2,_=>rfl
 | cx j cs c=>cases hr
 | Ce k n=>cases hr
 | Cf b=>cases hr
 | dp t=>
  cases x<;>simp only at hr<;>first|(cases hr;done)|skip
  obtain ⟨h1,U⟩:=aG hr
  cases hv with
  | dp=>exact mQ U rfl fun _ _ _ _=> .dp
 | cl t j=>
  cases x<;>simp only at hr<;>first|(cases hr;done)|skip
  rename_i t' id
  obtain ⟨h1,U⟩:=aG hr
  rw[aQ] at h1
  subst h1
  obtain ⟨ju,a,b,c⟩:=tE (P:=P) (w:=w) (I:=I) (β:=β) U []
  refine ⟨_,_,[],[],a,by simpa using c,rfl,fun I' μ hp0 i1 i2 ρ m di cW rest=> ?_⟩
  obtain ⟨blk,k1,k2⟩:=cW j _ (by rw[di];exact od b)
  exact XJ hv k2 k1 rfl
 | list e=>
  obtain ⟨⟨y,u⟩,l1,l2,h1,U⟩:=kF hr
  cases y<;>simp only at U<;>first|(cases U;done)|skip
  rename_i e' es
  obtain ⟨h3,h4⟩:=aG U
  rw[aQ] at h3
  subst h3
  obtain ⟨p1,p2⟩:=CI S.h.rel h1 hv
  exact ⟨_,_,[.list e es],u,h4,⟨rfl,rfl,p1,⟨[],by simp⟩,id⟩,rfl,fun I' μ hp0 i1 i2 _ _ _ _ rest=> .list (p2 I' i1 i2)⟩
 | whole e j=>
  cases x<;>simp only at hr<;>first|(cases hr;done)|skip
  ·rename_i e' id
   obtain ⟨h1,U⟩:=aG hr
   rw[aQ] at h1
   subst h1
   obtain ⟨ju,a,b,c⟩:=tE (P:=P) (w:=w) (I:=I) (β:=β) U []
   refine ⟨_,_,[],[],a,by simpa using c,rfl,fun I' μ hp0 i1 i2 ρ m di cW rest=> ?_⟩
   obtain ⟨blk,k1,k2⟩:=cW j _ (by rw[di];exact od b)
   exact XI hv k2 k1 rfl
  ·rename_i e' id ver path
   obtain ⟨h1,U⟩:=aG hr
   rw[aQ] at h1
   subst h1
   obtain ⟨ju,a,b,c⟩:=tE (P:=P) (w:=w) (I:=I) (β:=β) U []
   refine ⟨_,_,[],[],a,by simpa using c,rfl,fun I' μ hp0 i1 i2 ρ m di cW rest=> ?_⟩
   obtain ⟨blk,k1,k2⟩:=cW j _ (by rw[di];exact od b)
   exact XM S hv k2 k1 rfl
 | sub e j=>
  cases x<;>simp only at hr<;>first|(cases hr;done)|skip
  rename_i e' id o n
  obtain ⟨h1,U⟩:=aG hr
  rw[aQ] at h1
  subst h1
  obtain ⟨ju,a,b,c⟩:=tE (P:=P) (w:=w) (I:=I) (β:=β) U [dX o,dX n]
  refine ⟨_,_,[dX o,dX n],[],a,c,rfl,fun I' μ hp0 i1 i2 ρ m di cW rest=> ?_⟩
  obtain ⟨blk,k1,k2⟩:=cW j _ (by rw[di];exact od b)
  simpa[im,V.nth] using XK (I':=I') hv k2 k1 rfl
 | ptr j=>
  cases x<;>simp only at hr<;>first|(cases hr;done)|skip
  rename_i id i c
  obtain ⟨ju,a,b,c'⟩:=tE (P:=P) (w:=w) (I:=I) (β:=β) hr [dX i,dX c]
  refine ⟨_,_,[dX i,dX c],[],a,c',rfl,fun I' μ hp0 i1 i2 ρ m di cW rest=> ?_⟩
  obtain ⟨blk,k1,k2⟩:=cW j _ (by rw[di];exact od b)
  simpa[im,V.nth] using NC (I':=I') hv k2 k1 rfl
 | mD j i c=>
  cases x<;>simp only at hr<;>first|(cases hr;done)|skip
  rename_i id i' c'
  obtain ⟨h1,U⟩:=aG hr
  simp only[aK,aQ] at h1
  obtain ⟨rfl,rfl⟩:=h1
  obtain ⟨ju,a,b,c'⟩:=tE (P:=P) (w:=w) (I:=I) (β:=β) U []
  refine ⟨_,_,[],[],a,by simpa using c',rfl,fun I' μ hp0 i1 i2 ρ m di cW rest=> ?_⟩
  obtain ⟨blk,k1,k2⟩:=cW j _ (by rw[di];exact od b)
  exact NC hv k2 k1 rfl
end
section
variable {P:Program} {A:cy} {w w':World} {I I' I2:Nat→Prop} {μ β β':Nat→Option Nat} {hp hp' hp0:Nat→Option an} {C:ag} {B:Nat} {M:Nat→Prop} {w0:Start}
def lX (P:Program) (w:World) (I:Nat→Prop) (β:Nat→Option Nat) (hp:Nat→Option an) (h':Hand) (u:List (Nat × an)) (K:(Nat→Prop)→(Nat→Option Nat)→(Nat→Option an)→Prop):Prop:=
 ∀(I':Nat→Prop) (μ:Nat→Option Nat) (hp0:Nat→Option an),(∀b,I b→I' b)→(∀q∈u,∀b,rG P w β hp q.1 b→I' b)→∀ρ m,ρ=h'.pl++m→zt P w β hp ρ μ hp0→K I' μ hp0
theorem lX.zu {h h':Hand} {d:List V} {u u':List (Nat × an)} {K:(Nat→Prop)→(Nat→Option Nat)→(Nat→Option an)→Prop} (t:lX P w I β hp h u K) (e:Ext P w I β hp h h' d u'):lX P w I β hp h' (u++u') K:=by
 obtain ⟨m1,e1⟩:=e.pl
 exact fun I' μ hp0 i1 i2 ρ m di cW=>t I' μ hp0 i1 (fun q hq=>i2 q (ey.2 (.inl hq))) ρ (m1++m) (by rw[di,e1,cj]) cW
theorem lX.more {h:Hand} {u u':List (Nat × an)} {K:(Nat→Prop)→(Nat→Option Nat)→(Nat→Option an)→Prop} (t:lX P w I β hp h u K):lX P w I β hp h (u'++u) K:=
 fun I' μ hp0 i1 i2 ρ m di cW=>t I' μ hp0 i1 (fun q hq=>i2 q (ey.2 (.inr hq))) ρ m di cW
theorem Ds (S:aF P w I β hp B M w0) {α:Type}: ∀{ls:List LS} {xs:List V} {h:Hand} {k:Hand→Rd α} {r:α} {rd:List Nat} {vs:List Value},(vi P ls xs h k).run C hp=some (r,rd)→vs.length=xs.length→
  (∀(j:Nat) v x,vs[j]? =some v→xs[j]? =some x→ao P w I β hp v x)→
  ∃h' eK d u,(k h').run C hp=some (r,eK)∧Ext P w I β hp h h' d u∧d.length=jS ls∧ls.length=xs.length∧
   lX P w I β hp h' u fun I' μ hp0=> ∀rest,(gU ls (d++rest)).length=xs.length∧∀(j:Nat) v y,vs[j]? =some v→(gU ls (d++rest))[j]? =some y→ao P w I' μ hp0 v y
 | [],[],h,k,r,rd,vs,hr,hl,hv=>⟨h,rd,[],[],hr,Ext.refl h,rfl,rfl,fun I' μ hp0 _ _ _ _ _ _ rest=>⟨rfl,fun j v y _ hy=>by simp[gU] at hy⟩⟩
 | [],_::_,h,k,r,rd,vs,hr,hl,hv=>by cases hr
 | _::_,[],h,k,r,rd,vs,hr,hl,hv=>by cases hr
 | l::ls,x::xs,h,k,r,rd,vs,hr,hl,hv=>by
  cases vs with
  | nil=>simp at hl
  | cons v vs=>
   simp only[vi] at hr
   obtain ⟨h1,iX,d1,u1,a1,a2,a3,a4⟩:=ND S hr (hv 0 v x rfl rfl)
   obtain ⟨U,rP,d2,u2,b1,b2,b3,b5,b4⟩:=Ds S a1 (by simpa using hl) (vs:=vs) (fun j v x hj hx=>hv (j+1) v x (by simpa using hj) (by simpa using hx))
   have XP:lX P w I β hp h1 u1 fun I' μ hp0=> ∀rest,ao P w I' μ hp0 v (im l (d1++rest)):=a4
   refine ⟨U,rP,d1++d2,u1++u2,b1,a2.trans b2,by simp only[bU,jS];omega,by simp[b5],fun I' μ hp0 i1 i2 ρ m di cW rest=> ?_⟩
   have k1:=(XP.zu b2) I' μ hp0 i1 i2 ρ m di cW (d2++rest)
   obtain ⟨k2,k3⟩:=b4.more I' μ hp0 i1 i2 ρ m di cW rest
   simp only[gU]
   rw[show (d1++d2++rest).drop l.size=d2++rest by rw[cj];exact mU a3,cj]
   refine ⟨by simp[k2],fun j v' y hj hy=> ?_⟩
   cases j with
   | zero=>simp at hj hy;subst hj;subst hy;exact k1
   | succ j=>exact k3 j v' y (by simpa using hj) (by simpa using hy)
theorem XQ (S:aF P w I β hp B M w0) {α:Type} {s:VS} {x:V} {h:Hand} {k:Hand→Rd α} {r:α} {rd:List Nat} {v:Value} (hr:(yH P s x h k).run C hp=some (r,rd)) (hv:ao P w I β hp v x):
  ∃h' eK d u,(k h').run C hp=some (r,eK)∧Ext P w I β hp h h' d u∧d.length=s.size∧
   lX P w I β hp h' u fun I' μ hp0=> ∀rest,ao P w I' μ hp0 v (kC s (d++rest)):=by
 cases s with
 | one l=>
  simp only[yH] at hr
  obtain ⟨h1,iX,d1,u1,a1,a2,a3,a4⟩:=ND S hr hv
  exact ⟨h1,iX,d1,u1,a1,a2,a3,a4⟩
 | agg ls=>
  cases x<;>simp only[yH] at hr<;>first|(cases hr;done)|skip
  rename_i xs
  obtain ⟨cs,rfl,e1,e2⟩:=hv.kG
  obtain ⟨h1,iX,d1,u1,a1,a2,a3,a5,a4⟩:=Ds S hr (vs:=cs.toList) (by simpa using e1) (fun j v x hj hx=>e2 j v x (by simpa using hj) hx)
  refine ⟨h1,iX,d1,u1,a1,a2,a3,fun I' μ hp0 i1 i2 ρ m di cW rest=> ?_⟩
  obtain ⟨k1,k2⟩:=a4 I' μ hp0 i1 i2 ρ m di cW rest
  exact .agg (by rw[k1];exact e1) fun j v y hj hy=>k2 j v y (by simpa using hj) hy
 | bm ls=>cases x<;>cases hr
 | pref ts ls=>cases x<;>cases hr
 | fn f a b=>
  cases x<;>simp only[yH] at hr<;>first|(cases hr;done)|skip
  rename_i f' xs ys
  obtain ⟨hc,tF⟩:=aG hr
  clear hr
  rw[aQ] at hc
  subst hc
  cases hv with
  | @fn _ fs cs _ _ q1 q2 q3 q4=>
   obtain ⟨h1,iX,d1,u1,a1,a2,a3,a5,a4⟩:=Ds S tF (vs:=fs.toList) (by simpa using q1) (fun j v x hj hx=>q2 j v x (by simpa using hj) hx)
   obtain ⟨U,rP,d2,u2,b1,b2,b3,b5,b4⟩:=Ds S a1 (vs:=cs.toList) (by simpa using q3) (fun j v x hj hx=>q4 j v x (by simpa using hj) hx)
   refine ⟨U,rP,d1++d2,u1++u2,b1,a2.trans b2,by simp only[bU,VS.size];omega,fun I' μ hp0 i1 i2 ρ m di cW rest=> ?_⟩
   obtain ⟨k1,k2⟩:=(a4.zu b2) I' μ hp0 i1 i2 ρ m di cW (d2++rest)
   obtain ⟨k3,k4⟩:=b4.more I' μ hp0 i1 i2 ρ m di cW rest
   simp only[kC]
   rw[show (d1++d2++rest).drop (jS a)=d2++rest by rw[cj];exact mU a3,cj]
   exact .fn (by rw[k1];exact q1) (fun j v y hj hy=>k2 j v y (by simpa using hj) hy) (by rw[k3];exact q3) (fun j v y hj hy=>k4 j v y (by simpa using hj) hy)
theorem HW (S:aF P w I β hp B M w0) {α:Type}: ∀{ls:List VS} {xs:List V} {h:Hand} {k:Hand→Rd α} {r:α} {rd:List Nat} {vs:List Value},(yI P ls xs h k).run C hp=some (r,rd)→vs.length=xs.length→
  (∀(j:Nat) v x,vs[j]? =some v→xs[j]? =some x→ao P w I β hp v x)→
  ∃h' eK d u,(k h').run C hp=some (r,eK)∧Ext P w I β hp h h' d u∧d.length=ry ls∧ls.length=xs.length∧
   lX P w I β hp h' u fun I' μ hp0=> ∀rest,(fg ls (d++rest)).length=xs.length∧∀(j:Nat) v y,vs[j]? =some v→(fg ls (d++rest))[j]? =some y→ao P w I' μ hp0 v y
 | [],[],h,k,r,rd,vs,hr,hl,hv=>⟨h,rd,[],[],hr,Ext.refl h,rfl,rfl,fun I' μ hp0 _ _ _ _ _ _ rest=>⟨rfl,fun j v y _ hy=>by simp[fg] at hy⟩⟩
 | [],_::_,h,k,r,rd,vs,hr,hl,hv=>by cases hr
 | _::_,[],h,k,r,rd,vs,hr,hl,hv=>by cases hr
 | l::ls,x::xs,h,k,r,rd,vs,hr,hl,hv=>by
  cases vs with
  | nil=>simp at hl
  | cons v vs=>
   simp only[yI] at hr
   obtain ⟨h1,iX,d1,u1,a1,a2,a3,a4⟩:=XQ S hr (hv 0 v x rfl rfl)
   obtain ⟨U,rP,d2,u2,b1,b2,b3,b5,b4⟩:=HW S a1 (by simpa using hl) (vs:=vs) (fun j v x hj hx=>hv (j+1) v x (by simpa using hj) (by simpa using hx))
   refine ⟨U,rP,d1++d2,u1++u2,b1,a2.trans b2,by simp only[bU,ry];omega,by simp[b5],fun I' μ hp0 i1 i2 ρ m di cW rest=> ?_⟩
   have k1:=(a4.zu b2) I' μ hp0 i1 i2 ρ m di cW (d2++rest)
   obtain ⟨k2,k3⟩:=b4.more I' μ hp0 i1 i2 ρ m di cW rest
   simp only[fg]
   rw[show (d1++d2++rest).drop l.size=d2++rest by rw[cj];exact mU a3,cj]
   refine ⟨by simp[k2],fun j v' y hj hy=> ?_⟩
   cases j with
   | zero=>simp at hj hy;subst hj;subst hy;exact k1
   | succ j=>exact k3 j v' y (by simpa using hj) (by simpa using hy)
def Dt:List BS→Nat
 | []=>0
 | b::l=>b.size+Dt l
theorem NF: ∀{b:Nat} {e e':TypeId} {es:List V} {v:V},(∀q b' e' m,At P w b e es q b' e' m→iS P w I b' e' m)→∀(path:Path),jQ P e path=some e'→lJ P e es path=some v→0<v.toList.length→
  ∃b1,At P w b e es path b1 e' v.toList
 | b,e,e',es,v,cB,[],ht,hv,hl=>by
  simp only[jQ,dL] at ht
  simp only[lJ,dL] at hv
  subst ht;subst hv
  exact ⟨b,.here⟩
 | b,e,e',es,v,cB,(i,c)::q,ht,hv,hl=>by
  simp only[jQ] at ht
  simp only[lJ] at hv
  obtain ⟨x,hx,hv⟩:=bind_some hv
  cases HX:(jQ.yx P e)[c]? with
  | none=>rw[HX] at ht;cases ht
  | some t=>
   rw[HX] at ht
   simp only at ht
   have Du:(aR P e)[c]? =some t:=HX
   cases hu:P.underlying t with
   | none=>rw[hu] at ht;cases ht
   | some d=>
    rw[hu] at ht
    cases d<;>simp only at ht<;>first|(cases ht;done)|skip
    rename_i e1
    rw[mL Du] at hv
    have hR:=cB _ _ _ _ .here
    obtain ⟨Ca,c1,c2,c3⟩:=hR.cells
    have tf:c<P.cellsOf e:=by rw[←fj hR.ok];exact (bu.1 Du).1
    obtain ⟨u,d1,d2⟩:=c3 i c x t hx Du tf
    rw[d2.rI] at hv
    generalize hy:bK P e x c=y at d2 hv
    cases d2 with
    | fy a p=>unfold fv at a;rw[hu] at a;cases a
    | @emp e2 a cap lV ha=>
     rw[hu] at lV;cases lV
     simp only at hv
     cases q with
     | nil=>simp only[lJ,dL] at hv;subst hv;simp[V.toList] at hl
     | cons a q=>simp[lJ] at hv
    | @row e2 b6 b2 cap lV jq aT b7 nU=>
     rw[hu] at lV;cases lV
     simp only at hv
     have ej: ∀{q b' e' aL},At P w b2 e1 b6 q b' e' aL→At P w b e es ((i,c)::q) b' e' aL:=fun h=> .step c1 hx Du hu hy jq d1 h
     obtain ⟨b1,ln⟩:=NF (fun q b' e' m h=>cB _ _ _ _ (ej h)) q ht hv hl
     exact ⟨b1,ej ln⟩
theorem NG (S:aF P w I β hp B M w0) {α:Type}: ∀{bs:List BS} {j:Nat} {h:Hand} {k:Hand→Rd α} {r:α} {rd:List Nat},(pW P bs j h k).run C hp=some (r,rd)→
  ∃h' eK d u,(k h').run C hp=some (r,eK)∧Ext P w I β hp h h' d u∧d.length=Dt bs∧
   ∀rest,(eB bs (d++rest)).length=bs.length∧∃o:Nat→Option Nat,
    (∀(i:Nat) blk,(eB bs (d++rest))[i]? =some blk→∃p,dY h'.pl (j+i)=some p∧dP P w β hp p (o i) blk)∧
    lX P w I β hp h' u fun I' μ hp0=> ∀(i:Nat) blk,(eB bs (d++rest))[i]? =some blk→(∀b,bw P w (o i) blk b→¬I' b)→dN P w I' μ hp0 (o i) blk
 | [],j,h,k,r,rd,hr=>⟨h,rd,[],[],hr,Ext.refl h,rfl,fun rest=>⟨rfl,fun _=>none,fun i blk hb=>by simp[eB] at hb,fun I' μ hp0 _ _ _ _ _ _ i blk hb=>by simp[eB] at hb⟩⟩
 | b::bs,j,h,k,r,rd,hr=>by
  simp only[pW] at hr
  have fin: ∀{h1:Hand} {iX:List Nat} {d1:List V} {u1:List (Nat × an)} {o1:Option Nat} {p:Place},(pW P bs (j+1) h1 k).run C hp=some (r,iX)→Ext P w I β hp h h1 d1 u1→d1.length=b.size→dY h.pl j=some p→
    (∀rest,dP P w β hp p o1 (fw b (d1++rest)))→(∀rest,lX P w I β hp h1 u1 fun I' μ hp0=>(∀bb,bw P w o1 (fw b (d1++rest)) bb→¬I' bb)→dN P w I' μ hp0 o1 (fw b (d1++rest)))→
    ∃h' eK d u,(k h').run C hp=some (r,eK)∧Ext P w I β hp h h' d u∧d.length=Dt (b::bs)∧
     ∀rest,(eB (b::bs) (d++rest)).length=(b::bs).length∧∃o:Nat→Option Nat,
      (∀(i:Nat) blk,(eB (b::bs) (d++rest))[i]? =some blk→∃p,dY h'.pl (j+i)=some p∧dP P w β hp p (o i) blk)∧
      lX P w I β hp h' u fun I' μ hp0=> ∀(i:Nat) blk,(eB (b::bs) (d++rest))[i]? =some blk→(∀b,bw P w (o i) blk b→¬I' b)→dN P w I' μ hp0 (o i) blk:=by
   intro h1 iX d1 u1 o1 p hk he hd bt hl ht
   obtain ⟨U,rP,d2,u2,b1,b2,b3,b4⟩:=NG S hk
   refine ⟨U,rP,d1++d2,u1++u2,b1,he.trans b2,by simp only[bU,Dt];omega,fun rest=> ?_⟩
   obtain ⟨c1,o,c2,c3⟩:=b4 rest
   simp only[eB]
   rw[show (d1++d2++rest).drop b.size=d2++rest by rw[cj];exact mU hd,cj]
   refine ⟨by simp[c1],fun i=>match i with|0=>o1|i+1=>o i,fun i blk hb=> ?_,fun I' μ hp0 i1 i2 ρ m di cW i blk hb cH=> ?_⟩
   ·cases i with
    | zero=>
     simp at hb
     subst hb
     exact ⟨p,b2.look (he.look bt),hl _⟩
    | succ i=>
     obtain ⟨q,e1,e2⟩:=c2 i blk (by simpa using hb)
     exact ⟨q,by rw[show j+(i+1)=j+1+i by omega];exact e1,e2⟩
   ·cases i with
    | zero=>
     simp at hb
     subst hb
     exact ((ht _).zu b2) I' μ hp0 i1 i2 ρ m di cW cH
    | succ i=>exact c3.more I' μ hp0 i1 i2 ρ m di cW i blk (by simpa using hb) cH
  cases bt:dY h.pl j with
  | none=>rw[bt] at hr;cases hr
  | some p=>
   rw[bt] at hr
   cases p with
   | blk id=>
    obtain ⟨l1,hr⟩:=run_get hr
    cases ab:hp id with
    | none=>rw[ab] at hr;cases hr
    | some blk=>
     rw[ab] at hr
     cases blk with
     | dead=>cases hr
     | var T0 cs=>
      cases b<;>simp only at hr<;>first|(cases hr;done)|skip
      rename_i T1 ss
      obtain ⟨hT,XR⟩:=aG hr
      clear hr
      rw[aQ] at hT
      subst hT
      have cA:=S.h.rel id _ ab
      generalize ho:β id=o at cA
      cases cA with
      | @var _ bb Ca T hb hh hs hI hx fO=>
       obtain ⟨h1,iX,d1,u1,a1,a2,a3,a5,a4⟩:=HW S XR (vs:=Ca.toList) (by simpa using hs) (fun j v x hj cp=>hx j v x (by simpa using hj) cp)
       refine fin (o1:=β id) a1 a2 a3 bt (fun rest=> .var ab) fun rest I' μ hp0 i1 i2 ρ m di cW cH=> ?_
       obtain ⟨k1,k2⟩:=a4 I' μ hp0 i1 i2 ρ m di cW rest
       exact .var (ho.trans hb) hh (by rw[k1];exact hs) (cH _ (.root (by simp[fw]) (ho.trans hb))) (fun i v y hi hy=>k2 i v y (by simpa using hi) hy) fO
     | arr e' es fz=>
      cases fz with
      | true=>cases hr
      | false=>
       cases b with
       | arr e fz=>
        cases fz with
        | true=>cases hr
        | false=>
         obtain ⟨hc,tF⟩:=aG hr
         clear hr
         rw[aQ] at hc
         subst hc
         refine fin (d1:=[.list e es]) (o1:=β id) tF (Ext.leaf h _) rfl bt (fun rest=>dP.arr ab) fun rest I' μ hp0 i1 i2 ρ m di cW cH=> ?_
         change dN P w I' μ hp0 (β id) (.arr e es false)
         have cA:=S.h.rel id _ ab
         generalize ho:β id=o at cA cH⊢
         cases cA with
         | dy hb=>exact .dy hb
         | arr a1 a2 a3 a4 a5 a6 a7=>
          refine .arr a1 a2 a3 a4 (fun h=>by cases h) (fun _=>cH _ (.root (by simp[fw]) a2)) fun i j x t' y1 y2 y3=> ?_
          obtain ⟨v,z1,z2⟩:=a7 i j x t' y1 y2 y3
          exact ⟨v,z1,z2.mono i1 fun _ _=>rfl⟩
       | _=>cases hr
     | nest e' es ar=>
      cases b with
      | nest e=>
       obtain ⟨hc,tF⟩:=aG hr
       clear hr
       rw[aQ] at hc
       subst hc
       refine fin (d1:=[.list e es]) (o1:=β id) tF (Ext.leaf h _) rfl bt (fun rest=>dP.nest ab) fun rest I' μ hp0 i1 i2 ρ m di cW cH=> ?_
       have NH: ∀bb,bw P w (β id) (.nest e es [0,0,0]) bb→¬I' bb:=cH
       change dN P w I' μ hp0 (β id) (.nest e es [0,0,0])
       have cA:=S.h.rel id _ ab
       generalize ho:β id=o at cA NH⊢
       cases cA with
       | nest hb cB nX=>
        refine .nest hb (fun q b' e1 m1 hq=> ?_) nX
        obtain ⟨ok,⟨Ca,c1,c2,c3⟩,nI⟩:=cB q b' e1 m1 hq
        refine ⟨ok,⟨Ca,c1,c2,fun i j x t' y1 y2 y3=> ?_⟩,NH _ (.row hb hq)⟩
        obtain ⟨v,z1,z2⟩:=c3 i j x t' y1 y2 y3
        exact ⟨v,z1,z2.mono i1 (fun _ _=>rfl) fun _ _ _ _ _=>rfl⟩
      | _=>cases hr
     | map t' es=>
      cases b with
      | map t=>
       obtain ⟨hc,tF⟩:=aG hr
       clear hr
       rw[aQ] at hc
       subst hc
       refine fin (d1:=[.list t es]) (o1:=β id) tF (Ext.leaf h _) rfl bt (fun rest=>dP.map ab) fun rest I' μ hp0 i1 i2 ρ m di cW cH=> ?_
       change dN P w I' μ hp0 (β id) (.map t es)
       have cA:=S.h.rel id _ ab
       generalize ho:β id=o at cA cH⊢
       cases cA with
       | map a1 a2 a3 a4 a5 a6 a7=>exact .map a1 a2 a3 a4 (cH _ (.root (by simp[fw]) a2)) a6 a7
      | _=>cases hr
   | row id ver path=>
    obtain ⟨e0,es,ar,l1,k1,k2,k3,k4,k5⟩:=nT hr
    obtain ⟨e',vv,m1,m2,m3⟩:=vq k5
    cases b with
    | arr e fz=>
     cases fz with
     | true=>cases m3
     | false=>
      obtain ⟨hc,m4⟩:=aG m3
      clear m3
      simp only[aK,aQ,jM] at hc
      obtain ⟨rfl,zw,jq⟩:=hc
      have cA:=S.h.rel id _ k1
      cases hb:β id with
      | none=>
       rw[hb] at cA
       cases cA with
       | nest aB _ _=>cases aB
      | some b0=>
       rw[hb] at cA
       cases cA with
       | nest aB cB nX=>
        cases aB
        obtain ⟨b1,da⟩:=NF cB path m1 m2 jq
        refine fin (d1:=[.list e vv.toList]) (o1:=some b1) m4 (Ext.leaf h _) rfl bt (fun rest=>dP.row k1 hb da zw k2 k3 k4 jq) fun rest I' μ hp0 i1 i2 ρ m di cW cH=> ?_
        change dN P w I' μ hp0 (some b1) (.arr e vv.toList false)
        obtain ⟨ok,⟨Ca,c1,c2,c3⟩,nI⟩:=cB _ _ _ _ da
        refine .arr ok rfl c1 c2 (fun h=>by cases h) (fun _=>cH _ (.root (by simp[fw]) rfl)) fun i j x t' y1 y2 y3=> ?_
        obtain ⟨v,z1,z2⟩:=c3 i j x t' y1 y2 y3
        refine ⟨v,z1,?_⟩
        generalize bK P e x j=y at z2⊢
        cases z2 with
        | fy _ p=>exact p.mono i1 fun _ _=>rfl
        | emp hu _=>exact absurd hu (NI zw y2 _)
        | row hu _ _ _ _=>exact absurd hu (NI zw y2 _)
    | _=>cases m3
where
 NI {e t:TypeId} {j:Nat} (h:yD P e=true) (ht:(aR P e)[j]? =some t) (e':TypeId):P.underlying t≠some (.slice e'):=by
  intro hu
  have U:=fe.1 h t (jh ht)
  rw[hu] at U
  cases U
end
end Go.AM
